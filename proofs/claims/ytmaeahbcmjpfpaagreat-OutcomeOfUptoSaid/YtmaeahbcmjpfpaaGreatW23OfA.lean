/- The types of OutcomeOf and facts on them. -/
import Derived.Test.YtmaeahbcmjpfpaaGreatL3
import Derived.Test.YtmaeahbcmjpfpaaGreatProg
set_option linter.unusedVariables false
set_option linter.unusedSimpArgs false
set_option maxRecDepth 100000
set_option maxHeartbeats 4000000
namespace Go.Sw
open Option renaming some→AC
open Bool renaming false→AD,true→AE
open List renaming length→AI
open Go renaming Value→AL,Oper→AM
open List(map)
open Int(toNat)
open Go.IntKind(i64 u64 u8)
open Go.Proofs Tryz
abbrev eI:Int->AA A:=Q9 .i64
abbrev EA:=@runUnderlying54
abbrev EB:=@sizeOf3
abbrev EC:=@underlying120
abbrev ED:=@runUnderlying37
abbrev EE:=@runUnderlying57
abbrev EF:=@runUnderlying458
abbrev EG:=@sizeOf54
abbrev EH:=@zeroValue3
abbrev EI:=@sizeOf63
abbrev EJ:=@runUnderlying291
abbrev EK:=@isAgg3
abbrev EL:=@runUnderlying3
abbrev EM:=@runUnderlying34
abbrev EN:=@sizeOf69
abbrev EO:=@runUnderlying114
abbrev EP:=@runUnderlying461
abbrev EQ:=@sizeOf5
abbrev ES:=@runUnderlying9
abbrev ET:=@runUnderlying5
abbrev EU:=@sizeOf109
abbrev EV:=@runUnderlying228
abbrev EW:=@runUnderlying312
abbrev EX:=@underlying9
abbrev EY:=@isAgg54
abbrev EZ:=@runUnderlying42
abbrev E0:=@underlying3
abbrev E3:=@runUnderlying167
abbrev E4:=@runUnderlying125
abbrev E5:=@runUnderlying436
abbrev E6:=@runUnderlying80
abbrev E7:=@sizeOf4
abbrev E8:=@isAgg111
abbrev E9:=@sizeOf111
abbrev Ga:=@runUnderlying109
abbrev Gb:=@sizeOf41
abbrev Gd:=@runUnderlying215
abbrev Ge:=@runUnderlying49
abbrev Gf:=@runUnderlying43
abbrev Gg:=@sizeOf227
abbrev Gh:=@zeroValue69
abbrev Gi:=@zeroValue4
abbrev Gj:=@sizeOf56
abbrev Gk:=@sizeOf93
abbrev Gm:=@sizeOf240
abbrev Gn:=@sizeOf103
abbrev Gp:=@underlying29
abbrev Gq:=@sizeOf461
abbrev Gr:=@zeroValue458
abbrev Gs:=@sizeOf303
abbrev Gu:=@isAgg63
theorem FY:prog.follows .mixedOrders=true:=by rfl
structure AT where
  BK:Int
  BF:Int
  BH:Int
  A0:Int
  Ba:Int
  deriving DecidableEq
def AT.c(x:AT):AA Go.Sw.A:=[I x.BK,I x.BF,I x.BH,I x.A0,I x.Ba]
structure Af where
  Ar:List UInt8
  AV:Int
  deriving DecidableEq
def Af.c(x:Af):AA Go.Sw.A:=[.str x.Ar,I x.AV]
structure C2 where
  A5:Int
  To:Int
  Bn:Int
  Bs:Int
  deriving DecidableEq
def C2.c(x:C2):AA Go.Sw.A:=[I x.A5,I x.To,I x.Bn,I x.Bs]
structure CM where
  Af:Int
  Aj:Int
  Aa:List CM
mutual
def CM.enc:CM->AA A
  |⟨x0,x1,x2⟩=>[I x0,I x1,.q 3 (CM.encs x2)]
def CM.encs:AA CM->AA (AA A)
  |[]=>[]
  |x::l=>CM.enc x::CM.encs l
end
theorem xD(l:AA CM):CM.encs l=map CM.enc l:=by induction l with|nil=>simp[CM.encs]|cons x l h=>simp[CM.encs,h]
def CM.c(x:CM):AA Go.Sw.A:=[I x.Af,I x.Aj,.q 3 (map CM.enc x.Aa)]
theorem YF(x:CM):CM.enc x=CM.c x:=by cases x;simp[CM.enc,CM.c,xD]
structure CX where
  Af:Int
  B9:Int
  Bu:Int
  deriving DecidableEq
def CX.c(x:CX):AA Go.Sw.A:=[I x.Af,I x.B9,I x.Bu]
structure AN where
  Ar:List UInt8
  Ab:List CM
  BI:Int
  Am:List CX
  Ae:Int
def AN.c(x:AN):AA Go.Sw.A:=[.str x.Ar,.q 3 (map CM.enc x.Ab),I x.BI,.q 3 (map CX.c x.Am),I x.Ae]
structure Aw where
  Ar:List UInt8
  B0:Int
  deriving DecidableEq
def Aw.c(x:Aw):AA Go.Sw.A:=[.str x.Ar,I x.B0]
structure Ag where
  Ar:List UInt8
  BV:Int
  Aj:Int
  BP:Bool
  deriving DecidableEq
def Ag.c(x:Ag):AA Go.Sw.A:=[.str x.Ar,I x.BV,I x.Aj,.b x.BP]
structure AZ where
  Ar:List UInt8
  A5:Int
  To:Int
  deriving DecidableEq
def AZ.c(x:AZ):AA Go.Sw.A:=[.str x.Ar,I x.A5,I x.To]
structure Cc where
  AN:Int
  AZ:Int
  Bk:Int
  BW:Int
  deriving DecidableEq
def Cc.c(x:Cc):AA Go.Sw.A:=[I x.AN,I x.AZ,I x.Bk,I x.BW]
structure AR where
  AV:Int
  Bz:Int
  N:Int
  Aa:List AR
mutual
def AR.enc:AR->AA A
  |⟨x0,x1,x2,x3⟩=>[I x0,I x1,I x2,.q 4 (AR.encs x3)]
def AR.encs:AA AR->AA (AA A)
  |[]=>[]
  |x::l=>AR.enc x::AR.encs l
end
theorem w9(l:AA AR):AR.encs l=map AR.enc l:=by induction l with|nil=>simp[AR.encs]|cons x l h=>simp[AR.encs,h]
def AR.c(x:AR):AA Go.Sw.A:=[I x.AV,I x.Bz,I x.N,.q 4 (map AR.enc x.Aa)]
theorem fR(x:AR):AR.enc x=AR.c x:=by cases x;simp[AR.enc,AR.c,w9]
structure AX where
  AV:Int
  By:Int
  AR:AR
  BN:List AX
  BQ:List AX
mutual
def AX.enc:AX->AA A
  |⟨x0,x1,x2,x3,x4⟩=>[I x0,I x1,I x2.AV,I x2.Bz,I x2.N,.q 4 (map AR.enc x2.Aa),.q 8 (AX.encs x3),.q 8 (AX.encs x4)]
def AX.encs:AA AX->AA (AA A)
  |[]=>[]
  |x::l=>AX.enc x::AX.encs l
end
theorem xH(l:AA AX):AX.encs l=map AX.enc l:=by induction l with|nil=>simp[AX.encs]|cons x l h=>simp[AX.encs,h]
def AX.c(x:AX):AA Go.Sw.A:=[I x.AV,I x.By,I x.AR.AV,I x.AR.Bz,I x.AR.N,.q 4 (map AR.enc x.AR.Aa),.q 8 (map AX.enc x.BN),.q 8 (map AX.enc x.BQ)]
theorem fT(x:AX):AX.enc x=AX.c x:=by cases x;simp[AX.enc,AX.c,xH]
structure CE where
  Ar:List UInt8
  An:List Af
  As:List C2
  AO:List AN
  Ax:List Aw
  Ah:List Ag
  Ac:List AZ
  A3:List Cc
  BZ:List AX
  AT:AT
  B7:Int
  BL:Int
def CE.c(x:CE):AA Go.Sw.A:=[.str x.Ar,.q 2 (map Af.c x.An),.q 4 (map C2.c x.As),.q 5 (map AN.c x.AO),.q 2 (map Aw.c x.Ax),.q 4 (map Ag.c x.Ah),.q 3 (map AZ.c x.Ac),.q 4 (map Cc.c x.A3),.q 8 (map AX.enc x.BZ),I x.AT.BK,I x.AT.BF,I x.AT.BH,I x.AT.A0,I x.AT.Ba,I x.B7,I x.BL]
structure AP where
  Bf:Int
  AN:Int
  Aw:Int
  Bc:Int
  B':Int
  A':Int
  Bv:Int
  B_:Int
  deriving DecidableEq
def AP.c(x:AP):AA Go.Sw.A:=[I x.Bf,I x.AN,I x.Aw,I x.Bc,I x.B',I x.A',I x.Bv,I x.B_]
structure A_ where
  Af:Int
  Ad:Int
  A':Int
  BU:Int
  deriving DecidableEq
def A_.c(x:A_):AA Go.Sw.A:=[I x.Af,I x.Ad,I x.A',I x.BU]
structure Av where
  Af:Int
  Ad:Int
  BU:Int
  True:Int
  CC:Int
  deriving DecidableEq
def Av.c(x:Av):AA Go.Sw.A:=[I x.Af,I x.Ad,I x.BU,I x.True,I x.CC]
structure BA where
  B5:Int
  Bq:Int
  Br:Int
  B4:Int
  Bm:Int
  Bp:Int
  Bn:Int
  Bs:Int
  deriving DecidableEq
def BA.c(x:BA):AA Go.Sw.A:=[I x.B5,I x.Bq,I x.Br,I x.B4,I x.Bm,I x.Bp,I x.Bn,I x.Bs]
structure AY where
  Bf:Int
  AS:Int
  Lo:Int
  Hi:Int
  deriving DecidableEq
def AY.c(x:AY):AA Go.Sw.A:=[I x.Bf,I x.AS,I x.Lo,I x.Hi]
structure A2 where
  Af:Int
  Ad:Int
  Lo:Int
  Hi:Int
  deriving DecidableEq
def A2.c(x:A2):AA Go.Sw.A:=[I x.Af,I x.Ad,I x.Lo,I x.Hi]
structure Bh where
  A:Int
  B:Int
  deriving DecidableEq
def Bh.c(x:Bh):AA Go.Sw.A:=[I x.A,I x.B]
structure Ap where
  BS:Int
  Bf:Int
  Ag:Int
  AS:Int
  deriving DecidableEq
def Ap.c(x:Ap):AA Go.Sw.A:=[I x.BS,I x.Bf,I x.Ag,I x.AS]
structure A7 where
  BS:Int
  By:Int
  B7:Int
  CA:Int
  deriving DecidableEq
def A7.c(x:A7):AA Go.Sw.A:=[I x.BS,I x.By,I x.B7,I x.CA]
structure Ao where
  BS:Int
  Bi:Int
  AV:Int
  Bf:Int
  AS:Int
  BW:Int
  deriving DecidableEq
def Ao.c(x:Ao):AA Go.Sw.A:=[I x.BS,I x.Bi,I x.AV,I x.Bf,I x.AS,I x.BW]
structure BG where
  BS:Int
  Bl:Bool
  deriving DecidableEq
def BG.c(x:BG):AA Go.Sw.A:=[I x.BS,.b x.Bl]
structure L4 where
  BB:Int
  No:Int
  deriving DecidableEq
def L4.c(x:L4):AA Go.Sw.A:=[I x.BB,I x.No]
structure CP where
  BB:Int
  No:Int
  At:Int
  AV:Int
  AP:AP
  A_:A_
  Av:Av
  BA:BA
  AY:AY
  A2:A2
  Bh:Bh
  Ap:Ap
  A7:A7
  Ao:Ao
  BG:BG
  B8:L4
  deriving DecidableEq
def CP.c(x:CP):AA Go.Sw.A:=[I x.BB,I x.No,I x.At,I x.AV,I x.AP.Bf,I x.AP.AN,I x.AP.Aw,I x.AP.Bc,I x.AP.B',I x.AP.A',I x.AP.Bv,I x.AP.B_,I x.A_.Af,I x.A_.Ad,I x.A_.A',I x.A_.BU,I x.Av.Af,I x.Av.Ad,I x.Av.BU,I x.Av.True,I x.Av.CC,I x.BA.B5,I x.BA.Bq,I x.BA.Br,I x.BA.B4,I x.BA.Bm,I x.BA.Bp,I x.BA.Bn,I x.BA.Bs,I x.AY.Bf,I x.AY.AS,I x.AY.Lo,I x.AY.Hi,I x.A2.Af,I x.A2.Ad,I x.A2.Lo,I x.A2.Hi,I x.Bh.A,I x.Bh.B,I x.Ap.BS,I x.Ap.Bf,I x.Ap.Ag,I x.Ap.AS,I x.A7.BS,I x.A7.By,I x.A7.B7,I x.A7.CA,I x.Ao.BS,I x.Ao.Bi,I x.Ao.AV,I x.Ao.Bf,I x.Ao.AS,I x.Ao.BW,I x.BG.BS,.b x.BG.Bl,I x.B8.BB,I x.B8.No]
structure CH where
  BP:Bool
  Bg:Int
  Lo:Int
  Hi:Int
  deriving DecidableEq
def CH.c(x:CH):AA Go.Sw.A:=[.b x.BP,I x.Bg,I x.Lo,I x.Hi]
abbrev Ux:CH:={BP:=AD,Bg:=0,Lo:=0,Hi:=0}
structure CL where
  AS:Int
  BV:Int
  Aj:Int
  BP:Bool
  deriving DecidableEq
def CL.c(x:CL):AA Go.Sw.A:=[I x.AS,I x.BV,I x.Aj,.b x.BP]
abbrev Uy:CM:={Af:=0,Aj:=0,Aa:=[]}
abbrev Uw:C2:={A5:=0,To:=0,Bn:=0,Bs:=0}
abbrev Us:AN:={Ar:=[],Ab:=[],BI:=0,Am:=[],Ae:=0}
abbrev Uq:AR:={AV:=0,Bz:=0,N:=0,Aa:=[]}
abbrev UG:AX:={AV:=0,By:=0,AR:=Uq,BN:=[],BQ:=[]}
abbrev Uu:AT:={BK:=0,BF:=0,BH:=0,A0:=0,Ba:=0}
abbrev Ur:CE:={Ar:=[],An:=[],As:=[],AO:=[],Ax:=[],Ah:=[],Ac:=[],A3:=[],BZ:=[],AT:=Uu,B7:=0,BL:=0}
structure CF where
  Af:Int
  Ad:Int
  A4:Int
  deriving DecidableEq
def CF.c(x:CF):AA Go.Sw.A:=[I x.Af,I x.Ad,I x.A4]
structure CG where
  AQ:List CF
  BE:List (List Int)
  deriving DecidableEq
def CG.c(x:CG):AA Go.Sw.A:=[.q 3 (map CF.c x.AQ),.q 1 (map (QC 1 eI) x.BE)]
structure CQ where
  Af:Int
  Ad:Int
  A':Int
  BD:Int
  Ai:Int
  deriving DecidableEq
def CQ.c(x:CQ):AA Go.Sw.A:=[I x.Af,I x.Ad,I x.A',I x.BD,I x.Ai]
structure Uh where
  Au:CE
  BO:CG
  Al:AP
  BM:List CQ
  A6:List AY
  Bo:List CL
  BJ:Int
  Az:Int
def Uh.c(x:Uh):AA Go.Sw.A:=[.str x.Au.Ar,.q 2 (map Af.c x.Au.An),.q 4 (map C2.c x.Au.As),.q 5 (map AN.c x.Au.AO),.q 2 (map Aw.c x.Au.Ax),.q 4 (map Ag.c x.Au.Ah),.q 3 (map AZ.c x.Au.Ac),.q 4 (map Cc.c x.Au.A3),.q 8 (map AX.enc x.Au.BZ),I x.Au.AT.BK,I x.Au.AT.BF,I x.Au.AT.BH,I x.Au.AT.A0,I x.Au.AT.Ba,I x.Au.B7,I x.Au.BL,.q 3 (map CF.c x.BO.AQ),.q 1 (map (QC 1 eI) x.BO.BE),I x.Al.Bf,I x.Al.AN,I x.Al.Aw,I x.Al.Bc,I x.Al.B',I x.Al.A',I x.Al.Bv,I x.Al.B_,.q 5 (map CQ.c x.BM),.q 4 (map AY.c x.A6),.q 4 (map CL.c x.Bo),I x.BJ,I x.Az]
abbrev UF:AP:={Bf:=0,AN:=0,Aw:=0,Bc:=0,B':=0,A':=0,Bv:=0,B_:=0}
abbrev Fm:Uh:={Au:=Ur,BO:={AQ:=[],BE:=[]:CG},Al:=UF,BM:=[],A6:=[],Bo:=[],BJ:=0,Az:=0}
structure Uk where
  Be:Int
  to_:Int
  deriving DecidableEq
def Uk.c(x:Uk):AA Go.Sw.A:=[I x.Be,I x.to_]
structure Um where
  B6:Int
  B3:Int
  CD:Int
  deriving DecidableEq
def Um.c(x:Um):AA Go.Sw.A:=[I x.B6,I x.B3,I x.CD]
structure Uo where
  AX:AX
def Uo.c(x:Uo):AA Go.Sw.A:=[I x.AX.AV,I x.AX.By,I x.AX.AR.AV,I x.AX.AR.Bz,I x.AX.AR.N,.q 4 (map AR.enc x.AX.AR.Aa),.q 8 (map AX.enc x.AX.BN),.q 8 (map AX.enc x.AX.BQ)]
structure Ui where
  AR:AR
def Ui.c(x:Ui):AA Go.Sw.A:=[I x.AR.AV,I x.AR.Bz,I x.AR.N,.q 4 (map AR.enc x.AR.Aa)]
inductive Ul where
  |ctyping_step (x:Uo)
  |ctyping_cond (x:Ui)
def Ul.val:Ul->A
  |.ctyping_step x=>.iface 436 (.a (Uo.c x))
  |.ctyping_cond x=>.iface 458 (.a (Ui.c x))
def Ul.enc(x:Ul):AA A:=[x.val]
def Ul.elim{R:Type}(e:Ul)(f0:Uo->AB R)(f1:Ui->AB R):AB R:=match e with
  |.ctyping_step x=>f0 x
  |.ctyping_cond x=>f1 x
theorem Ul.data(x:Ul):Yn x.val=true:=by cases x<;>rfl
theorem JH(e:Ul):(∃x,e=.ctyping_step x)\/(∃x,e=.ctyping_cond x):=by cases e<;>simp
theorem Jq{R:Type}{e:Ul}{x:Uo}{f0:Uo->AB R}{f1:Ui->AB R}{r:R}(hE:e=.ctyping_step x)(h:Ul.elim e f0 f1=AC r):f0 x=AC r:=by subst hE;exact h
theorem Jp{R:Type}{e:Ul}{x:Ui}{f0:Uo->AB R}{f1:Ui->AB R}{r:R}(hE:e=.ctyping_cond x)(h:Ul.elim e f0 f1=AC r):f1 x=AC r:=by subst hE;exact h
structure Uj where
  A8:Int
  A9:Int
  deriving DecidableEq
def Uj.c(x:Uj):AA Go.Sw.A:=[I x.A8,I x.A9]
structure Ua where
  mat:Int
  BC:Int
  deriving DecidableEq
def Ua.c(x:Ua):AA Go.Sw.A:=[I x.mat,I x.BC]
structure CK where
  Lo:Int
  Hi:Int
  deriving DecidableEq
def CK.c(x:CK):AA Go.Sw.A:=[I x.Lo,I x.Hi]
structure Ud where
  AW:Int
  Ay:CK
  deriving DecidableEq
def Ud.c(x:Ud):AA Go.Sw.A:=[I x.AW,I x.Ay.Lo,I x.Ay.Hi]
structure Ub where
  Be:Int
  to_:Int
  deriving DecidableEq
def Ub.c(x:Ub):AA Go.Sw.A:=[I x.Be,I x.to_]
structure Uc where
  Bw:Int
  mat:Int
  BC:Int
  deriving DecidableEq
def Uc.c(x:Uc):AA Go.Sw.A:=[I x.Bw,I x.mat,I x.BC]
structure Ue where
  mat:Int
  BC:Int
  deriving DecidableEq
def Ue.c(x:Ue):AA Go.Sw.A:=[I x.mat,I x.BC]
structure Uf where
  Bb:Int
  Bt:Ud
  row:Int
  deriving DecidableEq
def Uf.c(x:Uf):AA Go.Sw.A:=[I x.Bb,I x.Bt.AW,I x.Bt.Ay.Lo,I x.Bt.Ay.Hi,I x.row]
abbrev Di:Uf:={Bb:=0,Bt:={AW:=0,Ay:={Lo:=0,Hi:=0:CK}:Ud},row:=0}
structure CW where
  Ak:List Int
  Ai:Int
  deriving DecidableEq
def CW.c(x:CW):AA Go.Sw.A:=[.q 1 (map eI x.Ak),I x.Ai]
abbrev Uv:AY:={Bf:=0,AS:=0,Lo:=0,Hi:=0}
abbrev Uz:CL:={AS:=0,BV:=0,Aj:=0,BP:=AD}
structure Edge where
  A5:Int
  To:Int
  W:Int
  deriving DecidableEq
def Edge.c(x:Edge):AA Go.Sw.A:=[I x.A5,I x.To,I x.W]
abbrev UB:A_:={Af:=0,Ad:=0,A':=0,BU:=0}
abbrev Up:Av:={Af:=0,Ad:=0,BU:=0,True:=0,CC:=0}
abbrev UH:BA:={B5:=0,Bq:=0,Br:=0,B4:=0,Bm:=0,Bp:=0,Bn:=0,Bs:=0}
abbrev UE:A2:={Af:=0,Ad:=0,Lo:=0,Hi:=0}
abbrev UC:Ap:={BS:=0,Bf:=0,Ag:=0,AS:=0}
abbrev UA:A7:={BS:=0,By:=0,B7:=0,CA:=0}
abbrev UD:Ao:={BS:=0,Bi:=0,AV:=0,Bf:=0,AS:=0,BW:=0}
abbrev Ut:CP:={BB:=0,No:=0,At:=0,AV:=0,AP:=UF,A_:=UB,Av:=Up,BA:=UH,AY:=Uv,A2:=UE,Bh:={A:=0,B:=0:Bh},Ap:=UC,A7:=UA,Ao:=UD,BG:={BS:=0,Bl:=AD:BG},B8:={BB:=0,No:=0:L4}}
structure AL where
  AV:Int
  N:Int
  S:List UInt8
  L:List AL
mutual
def Value.enc:AL->AA A
  |⟨x0,x1,x2,x3⟩=>[I x0,I x1,.str x2,.q 4 (Value.encs x3)]
def Value.encs:AA AL->AA (AA A)
  |[]=>[]
  |x::l=>Value.enc x::Value.encs l
end
theorem Qgq(l:AA AL):Value.encs l=map Value.enc l:=by induction l with|nil=>simp[Value.encs]|cons x l h=>simp[Value.encs,h]
def Value.c(x:AL):AA Go.Sw.A:=[I x.AV,I x.N,.str x.S,.q 4 (map Value.enc x.L)]
theorem pE(x:AL):Value.enc x=Value.c x:=by cases x;simp[Value.enc,Value.c,Qgq]
structure Cs where
  Aq:Int
  Bj:List Edge
  deriving DecidableEq
def Cs.c(x:Cs):AA Go.Sw.A:=[I x.Aq,.q 3 (map Edge.c x.Bj)]
structure CZ where
  K:CG
  S:AP
  Ak:List CQ
  CB:List AY
  P:List CL
  deriving DecidableEq
def CZ.c(x:CZ):AA Go.Sw.A:=[.q 3 (map CF.c x.K.AQ),.q 1 (map (QC 1 eI) x.K.BE),I x.S.Bf,I x.S.AN,I x.S.Aw,I x.S.Bc,I x.S.B',I x.S.A',I x.S.Bv,I x.S.B_,.q 5 (map CQ.c x.Ak),.q 4 (map AY.c x.CB),.q 4 (map CL.c x.P)]
abbrev Ck:CZ:={K:={AQ:=[],BE:=[]:CG},S:=UF,Ak:=[],CB:=[],P:=[]}
structure CI where
  c:CE
  k:CG
  BM:List CQ
  A6:List AY
  BT:List Int
  BY:List (List CK)
def CI.cells(x:CI):AA Go.Sw.A:=[.str x.c.Ar,.q 2 (map Af.c x.c.An),.q 4 (map C2.c x.c.As),.q 5 (map AN.c x.c.AO),.q 2 (map Aw.c x.c.Ax),.q 4 (map Ag.c x.c.Ah),.q 3 (map AZ.c x.c.Ac),.q 4 (map Cc.c x.c.A3),.q 8 (map AX.enc x.c.BZ),I x.c.AT.BK,I x.c.AT.BF,I x.c.AT.BH,I x.c.AT.A0,I x.c.AT.Ba,I x.c.B7,I x.c.BL,.q 3 (map CF.c x.k.AQ),.q 1 (map (QC 1 eI) x.k.BE),.q 5 (map CQ.c x.BM),.q 4 (map AY.c x.A6),.q 1 (map eI x.BT),.q 1 (map (QC 2 CK.c) x.BY)]
abbrev FD:CI:={c:=Ur,k:={AQ:=[],BE:=[]:CG},BM:=[],A6:=[],BT:=[],BY:=[]}
instance NZ:ElemTy prog 57 63 4:=⟨EE,EI,⟨_,zeroValue63,rfl⟩,⟨_,typeInfo63,by decide⟩⟩
instance Qsk:ElemTy prog 166 246 3:=⟨runUnderlying166,sizeOf246,⟨_,zeroValue246,rfl⟩,⟨_,typeInfo246,by decide⟩⟩
instance Qsj:ElemTy prog 167 240 3:=⟨E3,Gm,⟨_,zeroValue240,rfl⟩,⟨_,typeInfo240,by decide⟩⟩
instance da:ElemTy prog 22 206 2:=⟨runUnderlying22,sizeOf206,⟨_,zeroValue206,rfl⟩,⟨_,typeInfo206,by decide⟩⟩
instance dZ:ElemTy prog 23 213 4:=⟨runUnderlying23,sizeOf213,⟨_,zeroValue213,rfl⟩,⟨_,typeInfo213,by decide⟩⟩
instance dY:ElemTy prog 24 169 5:=⟨runUnderlying24,sizeOf169,⟨_,zeroValue169,rfl⟩,⟨_,typeInfo169,by decide⟩⟩
instance rI:ElemTy prog 25 236 2:=⟨runUnderlying25,sizeOf236,⟨_,zeroValue236,rfl⟩,⟨_,typeInfo236,by decide⟩⟩
instance rG:ElemTy prog 29 251 8:=⟨runUnderlying29,sizeOf251,⟨_,zeroValue251,rfl⟩,⟨_,typeInfo251,by decide⟩⟩
instance J0:ElemTy prog 54 3 1:=⟨EA,EB,⟨_,EH,rfl⟩,⟨_,typeInfo3,by decide⟩⟩
instance rj:ElemTy prog 37 54 1:=⟨ED,EG,⟨_,zeroValue54,rfl⟩,⟨_,typeInfo54,by decide⟩⟩
instance Sf:ElemTy prog 291 5 1:=⟨EJ,EQ,⟨_,zeroValue5,rfl⟩,⟨_,typeInfo5,by decide⟩⟩
theorem cX:JC prog 9 A.str:=JC.str EX
theorem sf:prog.underlying 296=AC (.struct (prog.fieldsOf 296)):=by kernel_rfl
theorem Qr2:prog.stoodInHeld 296=false:=by kernel_rfl
theorem QpW:JC prog 296 (λx=>A.a (Uk.c x)):=by
  refine JC.struct sf Zf (λx y h=>?_) (λw em x=>?_) (λw x y=>?_) (λx=>?_)
  · cases x;cases y
    simpa[QZ,YR,Uk.c]using h
  · simp only[QZ,YR,Uk.c]
    rw[show(10000:Nat)=9998+1+1 from rfl];generalize(9998:Nat)=d;simp[Instr.checkKey,runUnderlying296,EL,Result.andThen,EB,EK,part]
  · have u3:=E0
    have a3:=EK;have z3:=EB;simp only[QZ,YR,Uk.c,Op.equal,Op.maxDepth];rw[show(10000:Nat)=9999+1 from Z,run_equalIn_agg w 9999 296 _ _ sf Qr2];simp only[Program.fieldsOf,underlying296]
    go_simp
    cases x;cases y;simp
    repeat' split
    all_goals simp_all
  · simp[QZ,YR,Uk.c,Instr.sameBits]
theorem sh:prog.underlying 397=AC (.struct (prog.fieldsOf 397)):=by kernel_rfl
theorem Qr1:prog.stoodInHeld 397=false:=by kernel_rfl
theorem QpV:JC prog 397 (λx=>A.a (Um.c x)):=by
  refine JC.struct sh Zf (λx y h=>?_) (λw em x=>?_) (λw x y=>?_) (λx=>?_)
  · cases x;cases y
    simpa[QZ,YR,Um.c]using h
  · simp only[QZ,YR,Um.c]
    rw[show(10000:Nat)=9998+1+1 from rfl];generalize(9998:Nat)=d;simp[Instr.checkKey,runUnderlying397,EL,Result.andThen,EB,EK,part]
  · have u3:=E0
    have a3:=EK;have z3:=EB;simp only[QZ,YR,Um.c,Op.equal,Op.maxDepth];rw[show(10000:Nat)=9999+1 from Z,run_equalIn_agg w 9999 397 _ _ sh Qr1];simp only[Program.fieldsOf,underlying397]
    go_simp
    cases x;cases y;simp
    repeat' split
    all_goals simp_all
  · simp[QZ,YR,Um.c,Instr.sameBits]
instance mE:ElemTy prog 400 433 1:=⟨runUnderlying400,sizeOf433,⟨_,zeroValue433,rfl⟩,⟨_,typeInfo433,by decide⟩⟩
theorem YY:JC prog 3 I:=JC.int E0
theorem QrS:Sc prog 119 [(0,16),(16,2),(18,1),(19,1),(20,1),(21,1),(22,1),(23,1),(24,1)]:=⟨_,runUnderlying119,(Ef sizeOf33 (Ef sizeOf39 (Ef EG (Ef sizeOf114 (Ef sizeOf42 (Ef sizeOf115 (Ef sizeOf116 (Ef sizeOf117 (Ef EB PL.nil)))))))))⟩
theorem si:prog.underlying 406=AC (.struct (prog.fieldsOf 406)):=by kernel_rfl
theorem Qr0:prog.stoodInHeld 406=false:=by kernel_rfl
theorem QpU:JC prog 406 (λx=>A.a (Ub.c x)):=by
  refine JC.struct si Zf (λx y h=>?_) (λw em x=>?_) (λw x y=>?_) (λx=>?_)
  · cases x;cases y
    simpa[QZ,YR,Ub.c]using h
  · simp only[QZ,YR,Ub.c]
    rw[show(10000:Nat)=9998+1+1 from rfl];generalize(9998:Nat)=d;simp[Instr.checkKey,runUnderlying406,EL,Result.andThen,EB,EK,part]
  · have u3:=E0
    have a3:=EK;have z3:=EB;simp only[QZ,YR,Ub.c,Op.equal,Op.maxDepth];rw[show(10000:Nat)=9999+1 from Z,run_equalIn_agg w 9999 406 _ _ si Qr0];simp only[Program.fieldsOf,underlying406]
    go_simp
    cases x;cases y;simp
    repeat' split
    all_goals simp_all
  · simp[QZ,YR,Ub.c,Instr.sameBits]
inductive Ch where
  |c0 (x:Int)
  |c1 (x:Unit)
  |c2 (x:List Int)
  |c3 (x:(List Int)×(List (Ub×C2)))
theorem QrU:prog.stoodInHeld 203=false:=by kernel_rfl
theorem Q5(h:Nat):JX prog 3 (h+1) 1 AD (λl=>∃x:Int,l=[Value.int .i64 x]):=JX.int E0 EK EB h
theorem Qqs:Zk prog 203 Ue.c:=by
  refine jO (QI underlying203 QrU isAgg203 sizeOf203 (C1.c Q5 (C1.c Q5 (C1.nil 1 _)))) Z (λx=>⟨[_],_,Z,⟨_,Z⟩,[_],_,Z,⟨_,Z⟩,Z⟩) Zf (λx y h=>?_) (by kernel_rfl);obtain⟨_,_⟩:=x;obtain⟨_,_⟩:=y;simpa[QZ,YR,Ue.c,and_assoc]using h
theorem Qp6:Yc prog 69 0 0 1:=FA runUnderlying69 rfl EB
theorem Qp5:Yc prog 69 1 1 1:=FA runUnderlying69 rfl EB
instance mM:ElemTy prog 115 128 3:=⟨runUnderlying115,sizeOf128,⟨_,zeroValue128,rfl⟩,⟨_,typeInfo128,by decide⟩⟩
instance Qsm:ElemTy prog 114 69 2:=⟨EO,EN,⟨_,Gh,rfl⟩,⟨_,typeInfo69,by decide⟩⟩
inductive CT where
  |c0 (x:Int)
  |c1 (x:(List Int)×(List CK)×(List Ud)×(List (Int×Ud))×Int)
instance Qsl:ElemTy prog 125 4 1:=⟨E4,E7,⟨_,Gi,rfl⟩,⟨_,typeInfo4,by decide⟩⟩
instance rm:ElemTy prog 49 56 2:=⟨Ge,Gj,⟨_,zeroValue56,rfl⟩,⟨_,typeInfo56,by decide⟩⟩
def match_task.tc(x0:CE)(x1:CG)(x2:AA Int)(x3:AA CK)(x4:AA CQ)(x5:AA Ud)(x6:A)(x7:A)(x8:Int):AA Go.Sw.A:=[.str x0.Ar,.q 2 (map Af.c x0.An),.q 4 (map C2.c x0.As),.q 5 (map AN.c x0.AO),.q 2 (map Aw.c x0.Ax),.q 4 (map Ag.c x0.Ah),.q 3 (map AZ.c x0.Ac),.q 4 (map Cc.c x0.A3),.q 8 (map AX.enc x0.BZ),I x0.AT.BK,I x0.AT.BF,I x0.AT.BH,I x0.AT.A0,I x0.AT.Ba,I x0.B7,I x0.BL,.q 3 (map CF.c x1.AQ),.q 1 (map (QC 1 eI) x1.BE),.q 1 (map eI x2),.q 2 (map CK.c x3),.q 5 (map CQ.c x4),.q 3 (map Ud.c x5),x6,x7,I x8]
theorem Qp7:Yc prog 67 3 3 1:=FA runUnderlying67 rfl E7
theorem jE:Yc prog 63 3 3 1:=FA runUnderlying63 rfl EB
theorem Qp8:Yc prog 63 1 1 1:=FA runUnderlying63 rfl EB
theorem cL:prog.stoodInHeld 63=false:=by kernel_rfl
theorem db(h:Nat):JX prog 4 (h+1) 1 AD (λl=>∃x:Bool,l=[Value.bool x]):=JX.bool underlying4 isAgg4 E7 h
theorem sE:Zk prog 63 CH.c:=by
  refine jO (QI underlying63 cL Gu EI (C1.c db (C1.c Q5 (C1.c Q5 (C1.c Q5 (C1.nil 1 _)))))) Z (λx=>⟨[_],_,Z,⟨_,Z⟩,[_],_,Z,⟨_,Z⟩,[_],_,Z,⟨_,Z⟩,[_],_,Z,⟨_,Z⟩,Z⟩) Zf (λx y h=>?_) (by kernel_rfl);obtain⟨_,_,_,_⟩:=x;obtain⟨_,_,_,_⟩:=y;simpa[QZ,YR,CH.c,and_assoc]using h
instance rk:ElemTy prog 43 93 4:=⟨Gf,Gk,⟨_,zeroValue93,rfl⟩,⟨_,typeInfo93,by decide⟩⟩
instance dW:ElemTy prog 44 67 4:=⟨runUnderlying44,sizeOf67,⟨_,zeroValue67,rfl⟩,⟨_,typeInfo67,by decide⟩⟩
theorem cK:prog.stoodInHeld 69=false:=by kernel_rfl
theorem Qsh:Zk prog 69 CK.c:=by
  refine jO (QI underlying69 cK isAgg69 EN (C1.c Q5 (C1.c Q5 (C1.nil 1 _)))) Z (λx=>⟨[_],_,Z,⟨_,Z⟩,[_],_,Z,⟨_,Z⟩,Z⟩) Zf (λx y h=>?_) (by kernel_rfl);obtain⟨_,_⟩:=x;obtain⟨_,_⟩:=y;simpa[QZ,YR,CK.c,and_assoc]using h
instance mJ:ElemTy prog 258 9 1:=⟨runUnderlying258,sizeOf9,⟨_,zeroValue9,rfl⟩,⟨_,typeInfo9,by decide⟩⟩
instance Qsi:ElemTy prog 247 249 4:=⟨runUnderlying247,sizeOf249,⟨_,zeroValue249,rfl⟩,⟨_,typeInfo249,by decide⟩⟩
instance dX:ElemTy prog 34 109 57:=⟨EM,EU,⟨_,zeroValue109,rfl⟩,⟨_,typeInfo109,by decide⟩⟩
theorem Qoa:Yc prog 109 3 3 1:=FA Ga rfl EB
theorem Qqa:Yc prog 41 0 0 1:=FA runUnderlying41 rfl EB
theorem Qp9:Yc prog 41 5 5 1:=FA runUnderlying41 rfl EB
theorem uZ:Yc prog 109 8 29 4:=FA Ga rfl Gk
theorem Qp4:Yc prog 93 0 0 1:=FA runUnderlying93 rfl EB
theorem Qme:Yc prog 109 13 47 6:=FA Ga rfl Gn
theorem QrV:prog.stoodInHeld 109=false:=by kernel_rfl
theorem QrW:prog.stoodInHeld 107=false:=by kernel_rfl
theorem QrX:prog.stoodInHeld 105=false:=by kernel_rfl
theorem QrY:prog.stoodInHeld 103=false:=by kernel_rfl
theorem QrZ:prog.stoodInHeld 101=false:=by kernel_rfl
theorem cB:prog.stoodInHeld 99=false:=by kernel_rfl
theorem cC:prog.stoodInHeld 97=false:=by kernel_rfl
theorem cF:prog.stoodInHeld 95=false:=by kernel_rfl
theorem cG:prog.stoodInHeld 93=false:=by kernel_rfl
theorem cH:prog.stoodInHeld 91=false:=by kernel_rfl
theorem cI:prog.stoodInHeld 89=false:=by kernel_rfl
theorem cJ:prog.stoodInHeld 87=false:=by kernel_rfl
theorem cM:prog.stoodInHeld 41=false:=by kernel_rfl
theorem tD:Zk prog 109 CP.c:=by
  refine jO (QI underlying109 QrV isAgg109 EU (C1.c Q5 (C1.c Q5 (C1.c Q5 (C1.c Q5 (C1.cons Z (by decide) (QI underlying41 cM isAgg41 Gb (C1.c Q5 (C1.c Q5 (C1.c Q5 (C1.c Q5 (C1.c Q5 (C1.c Q5 (C1.c Q5 (C1.c Q5 (C1.nil 1 _)))))))))) (λe=>Bool.noConfusion e) (C1.cons Z (by decide) (QI underlying87 cJ isAgg87 sizeOf87 (C1.c Q5 (C1.c Q5 (C1.c Q5 (C1.c Q5 (C1.nil 1 _)))))) (λe=>Bool.noConfusion e) (C1.cons Z (by decide) (QI underlying89 cI isAgg89 sizeOf89 (C1.c Q5 (C1.c Q5 (C1.c Q5 (C1.c Q5 (C1.c Q5 (C1.nil 1 _))))))) (λe=>Bool.noConfusion e) (C1.cons Z (by decide) (QI underlying91 cH isAgg91 sizeOf91 (C1.c Q5 (C1.c Q5 (C1.c Q5 (C1.c Q5 (C1.c Q5 (C1.c Q5 (C1.c Q5 (C1.c Q5 (C1.nil 1 _)))))))))) (λe=>Bool.noConfusion e) (C1.cons Z (by decide) (QI underlying93 cG isAgg93 Gk (C1.c Q5 (C1.c Q5 (C1.c Q5 (C1.c Q5 (C1.nil 1 _)))))) (λe=>Bool.noConfusion e) (C1.cons Z (by decide) (QI underlying95 cF isAgg95 sizeOf95 (C1.c Q5 (C1.c Q5 (C1.c Q5 (C1.c Q5 (C1.nil 1 _)))))) (λe=>Bool.noConfusion e) (C1.cons Z (by decide) (QI underlying97 cC isAgg97 sizeOf97 (C1.c Q5 (C1.c Q5 (C1.nil 1 _)))) (λe=>Bool.noConfusion e) (C1.cons Z (by decide) (QI underlying99 cB isAgg99 sizeOf99 (C1.c Q5 (C1.c Q5 (C1.c Q5 (C1.c Q5 (C1.nil 1 _)))))) (λe=>Bool.noConfusion e) (C1.cons Z (by decide) (QI underlying101 QrZ isAgg101 sizeOf101 (C1.c Q5 (C1.c Q5 (C1.c Q5 (C1.c Q5 (C1.nil 1 _)))))) (λe=>Bool.noConfusion e) (C1.cons Z (by decide) (QI underlying103 QrY isAgg103 Gn (C1.c Q5 (C1.c Q5 (C1.c Q5 (C1.c Q5 (C1.c Q5 (C1.c Q5 (C1.nil 1 _)))))))) (λe=>Bool.noConfusion e) (C1.cons Z (by decide) (QI underlying105 QrX isAgg105 sizeOf105 (C1.c Q5 (C1.c db (C1.nil 1 _)))) (λe=>Bool.noConfusion e) (C1.cons Z (by decide) (QI underlying107 QrW isAgg107 sizeOf107 (C1.c Q5 (C1.c Q5 (C1.nil 1 _)))) (λe=>Bool.noConfusion e) (C1.nil 2 _)))))))))))))))))) Z (λx=>⟨[_],_,Z,⟨_,Z⟩,[_],_,Z,⟨_,Z⟩,[_],_,Z,⟨_,Z⟩,[_],_,Z,⟨_,Z⟩,[_,_,_,_,_,_,_,_],_,Z,⟨[_],_,Z,⟨_,Z⟩,[_],_,Z,⟨_,Z⟩,[_],_,Z,⟨_,Z⟩,[_],_,Z,⟨_,Z⟩,[_],_,Z,⟨_,Z⟩,[_],_,Z,⟨_,Z⟩,[_],_,Z,⟨_,Z⟩,[_],_,Z,⟨_,Z⟩,Z⟩,[_,_,_,_],_,Z,⟨[_],_,Z,⟨_,Z⟩,[_],_,Z,⟨_,Z⟩,[_],_,Z,⟨_,Z⟩,[_],_,Z,⟨_,Z⟩,Z⟩,[_,_,_,_,_],_,Z,⟨[_],_,Z,⟨_,Z⟩,[_],_,Z,⟨_,Z⟩,[_],_,Z,⟨_,Z⟩,[_],_,Z,⟨_,Z⟩,[_],_,Z,⟨_,Z⟩,Z⟩,[_,_,_,_,_,_,_,_],_,Z,⟨[_],_,Z,⟨_,Z⟩,[_],_,Z,⟨_,Z⟩,[_],_,Z,⟨_,Z⟩,[_],_,Z,⟨_,Z⟩,[_],_,Z,⟨_,Z⟩,[_],_,Z,⟨_,Z⟩,[_],_,Z,⟨_,Z⟩,[_],_,Z,⟨_,Z⟩,Z⟩,[_,_,_,_],_,Z,⟨[_],_,Z,⟨_,Z⟩,[_],_,Z,⟨_,Z⟩,[_],_,Z,⟨_,Z⟩,[_],_,Z,⟨_,Z⟩,Z⟩,[_,_,_,_],_,Z,⟨[_],_,Z,⟨_,Z⟩,[_],_,Z,⟨_,Z⟩,[_],_,Z,⟨_,Z⟩,[_],_,Z,⟨_,Z⟩,Z⟩,[_,_],_,Z,⟨[_],_,Z,⟨_,Z⟩,[_],_,Z,⟨_,Z⟩,Z⟩,[_,_,_,_],_,Z,⟨[_],_,Z,⟨_,Z⟩,[_],_,Z,⟨_,Z⟩,[_],_,Z,⟨_,Z⟩,[_],_,Z,⟨_,Z⟩,Z⟩,[_,_,_,_],_,Z,⟨[_],_,Z,⟨_,Z⟩,[_],_,Z,⟨_,Z⟩,[_],_,Z,⟨_,Z⟩,[_],_,Z,⟨_,Z⟩,Z⟩,[_,_,_,_,_,_],_,Z,⟨[_],_,Z,⟨_,Z⟩,[_],_,Z,⟨_,Z⟩,[_],_,Z,⟨_,Z⟩,[_],_,Z,⟨_,Z⟩,[_],_,Z,⟨_,Z⟩,[_],_,Z,⟨_,Z⟩,Z⟩,[_,_],_,Z,⟨[_],_,Z,⟨_,Z⟩,[_],_,Z,⟨_,Z⟩,Z⟩,[_,_],_,Z,⟨[_],_,Z,⟨_,Z⟩,[_],_,Z,⟨_,Z⟩,Z⟩,Z⟩) Zf (λx y h=>?_) (by kernel_rfl);obtain⟨_,_,_,_,⟨_,_,_,_,_,_,_,_⟩,⟨_,_,_,_⟩,⟨_,_,_,_,_⟩,⟨_,_,_,_,_,_,_,_⟩,⟨_,_,_,_⟩,⟨_,_,_,_⟩,⟨_,_⟩,⟨_,_,_,_⟩,⟨_,_,_,_⟩,⟨_,_,_,_,_,_⟩,⟨_,_⟩,⟨_,_⟩⟩:=x;obtain⟨_,_,_,_,⟨_,_,_,_,_,_,_,_⟩,⟨_,_,_,_⟩,⟨_,_,_,_,_⟩,⟨_,_,_,_,_,_,_,_⟩,⟨_,_,_,_⟩,⟨_,_,_,_⟩,⟨_,_⟩,⟨_,_,_,_⟩,⟨_,_,_,_⟩,⟨_,_,_,_,_,_⟩,⟨_,_⟩,⟨_,_⟩⟩:=y;simpa[QZ,YR,CP.c,AP.c,A_.c,Av.c,BA.c,AY.c,A2.c,Bh.c,Ap.c,A7.c,Ao.c,BG.c,L4.c,and_assoc]using h
theorem QrP:Sc prog 363 [(0,1),(1,1),(2,1),(3,1)]:=⟨_,runUnderlying363,(Ef EB (Ef EB (Ef sizeOf9 (Ef sizeOf361 PL.nil))))⟩
instance mF:ElemTy prog 361 363 4:=⟨runUnderlying361,sizeOf363,⟨_,zeroValue363,rfl⟩,⟨_,typeInfo363,by decide⟩⟩
instance rF:ElemTy prog 36 201 3:=⟨runUnderlying36,sizeOf201,⟨_,zeroValue201,rfl⟩,⟨_,typeInfo201,by decide⟩⟩
theorem QrR:Sc prog 178 [(0,1),(1,1)]:=⟨_,runUnderlying178,(Ef EB (Ef sizeOf176 PL.nil))⟩
instance mL:ElemTy prog 176 272 3:=⟨runUnderlying176,sizeOf272,⟨_,zeroValue272,rfl⟩,⟨_,typeInfo272,by decide⟩⟩
instance rC:ElemTy prog 80 41 8:=⟨E6,Gb,⟨_,zeroValue41,rfl⟩,⟨_,typeInfo41,by decide⟩⟩
instance rE:ElemTy prog 42 122 5:=⟨EZ,sizeOf122,⟨_,zeroValue122,rfl⟩,⟨_,typeInfo122,by decide⟩⟩
instance mI:ElemTy prog 280 87 4:=⟨runUnderlying280,sizeOf87,⟨_,zeroValue87,rfl⟩,⟨_,typeInfo87,by decide⟩⟩
instance mH:ElemTy prog 282 99 4:=⟨runUnderlying282,sizeOf99,⟨_,zeroValue99,rfl⟩,⟨_,typeInfo99,by decide⟩⟩
instance mG:ElemTy prog 284 103 6:=⟨runUnderlying284,Gn,⟨_,zeroValue103,rfl⟩,⟨_,typeInfo103,by decide⟩⟩
theorem QrQ:Sc prog 233 [(0,16),(16,2),(18,1),(19,1),(20,1),(21,1)]:=⟨_,runUnderlying233,(Ef sizeOf33 (Ef sizeOf39 (Ef sizeOf42 (Ef sizeOf43 (Ef EG (Ef sizeOf231 PL.nil))))))⟩
instance mK:ElemTy prog 231 114 1:=⟨runUnderlying231,sizeOf114,⟨_,zeroValue114,rfl⟩,⟨_,typeInfo114,by decide⟩⟩
theorem QG{n:Nat}:RB prog n 3 Int (λx=>[A.int .i64 x]) (Qn .i64):=RB.int E0
def kD:Tm:={fld:=[(169,3,3),(139,6,29),(67,2,2),(246,2,2),(33,1,1),(33,2,2),(33,3,3),(33,4,4),(33,5,5),(33,6,6),(33,7,7),(169,1,1),(206,0,0),(169,0,0),(236,0,0),(260,0,0),(262,0,0),(33,0,0),(206,1,1),(213,0,0),(213,1,1),(213,2,2),(213,3,3),(246,1,1),(246,0,0),(240,0,0),(240,1,1),(240,2,2),(169,2,2),(169,4,4),(236,1,1),(260,3,3),(260,1,1),(260,2,2),(262,1,1),(262,2,2),(267,0,0),(267,1,1),(267,2,2),(267,3,3),(33,9,9),(31,0,0),(31,1,1),(31,2,2),(31,3,3),(31,4,4),(33,10,14),(33,11,15),(458,0,0),(249,0,0),(249,1,1),(249,2,2),(249,3,3),(436,0,0),(251,3,6),(251,4,7),(429,0,0),(251,2,2),(429,1,1),(251,0,0),(251,1,1),(33,8,8),(334,0,0),(334,1,1),(201,0,0),(201,1,1),(39,0,0),(39,1,1),(201,2,2),(93,2,2),(93,3,3),(93,1,1),(303,0,0),(303,1,1),(307,0,0),(307,1,1),(307,2,2),(122,0,0),(122,1,1),(122,2,2),(122,3,3),(122,4,4),(69,0,0),(69,1,1),(119,2,18),(41,1,1),(41,2,2),(119,5,21),(119,6,22),(119,8,24),(119,7,23),(119,3,19),(119,4,20),(128,0,0),(128,1,1),(119,1,16),(130,2,4),(119,0,0),(130,0,0),(130,1,1),(56,0,0),(56,1,1),(139,0,0),(139,2,18),(139,7,30),(67,0,0),(67,1,1),(139,5,28),(139,1,16),(139,3,26),(139,4,27),(41,3,3),(63,0,0),(63,2,2),(63,3,3),(63,1,1),(41,0,0),(41,4,4),(41,5,5),(41,6,6),(41,7,7),(91,0,0),(91,3,3),(91,1,1),(91,4,4),(91,2,2),(91,5,5),(91,6,6),(91,7,7),(103,0,0),(103,1,1),(103,2,2),(103,3,3),(103,4,4),(103,5,5),(109,3,3),(109,4,4),(109,5,12),(87,0,0),(87,1,1),(87,2,2),(87,3,3),(109,6,16),(89,0,0),(89,1,1),(89,2,2),(89,3,3),(89,4,4),(109,7,21),(109,8,29),(93,0,0),(109,9,33),(95,0,0),(95,1,1),(95,2,2),(95,3,3),(109,10,37),(97,0,0),(97,1,1),(109,11,39),(99,0,0),(99,1,1),(99,2,2),(99,3,3),(109,12,43),(101,0,0),(101,1,1),(101,2,2),(101,3,3),(109,13,47),(109,14,53),(105,0,0),(109,15,55),(107,0,0),(107,1,1),(109,0,0),(109,1,1),(109,2,2),(105,1,1),(363,3,3),(363,0,0),(363,2,2),(363,1,1),(178,1,1),(178,0,0),(272,0,0),(272,1,1),(272,2,2),(46,3,11),(46,1,2),(46,4,12),(46,2,10),(233,4,20),(233,5,21),(233,2,18),(233,3,19),(233,0,0),(233,1,16),(67,3,3),(46,0,0)],agg:=[(169,AE,5),(167,AD,1),(33,AE,16),(39,AE,2),(41,AE,8),(139,AE,31),(67,AE,4),(3,AD,1),(246,AE,3),(166,AD,1),(22,AD,1),(23,AD,1),(24,AD,1),(25,AD,1),(26,AD,1),(27,AD,1),(28,AD,1),(5,AD,1),(9,AD,1),(206,AE,2),(236,AE,2),(260,AE,4),(262,AE,3),(385,AD,1),(214,AD,1),(213,AE,4),(296,AE,2),(377,AD,1),(380,AD,1),(240,AE,3),(299,AD,1),(390,AD,1),(4,AD,1),(382,AD,1),(393,AD,1),(383,AD,1),(267,AE,4),(397,AE,3),(31,AE,5),(251,AE,8),(247,AD,1),(29,AD,1),(249,AE,4),(436,AE,8),(458,AE,4),(433,AD,1),(120,AD,1),(294,AD,1),(36,AD,1),(37,AD,1),(201,AE,3),(54,AD,1),(93,AE,4),(438,AD,1),(303,AE,2),(301,AD,1),(122,AE,5),(69,AE,2),(111,AD,1),(115,AD,1),(116,AD,1),(117,AD,1),(114,AD,1),(130,AE,5),(128,AE,3),(42,AD,1),(49,AD,1),(123,AD,1),(126,AD,1),(125,AD,1),(63,AE,4),(44,AD,1),(50,AD,1),(56,AE,2),(43,AD,1),(227,AD,1),(57,AD,1),(91,AE,8),(103,AE,6),(109,AE,57),(87,AE,4),(89,AE,5),(95,AE,4),(97,AE,2),(99,AE,4),(101,AE,4),(105,AE,2),(107,AE,2),(363,AE,4),(361,AD,1),(178,AE,2),(176,AD,1),(272,AE,3),(46,AE,13),(233,AE,22),(231,AD,1)],zer:=[(246,[I 0,I 0,.q 3 (map CM.enc [])],[(0,1),(1,1),(2,1)]),(169,[.str [],.q 3 (map CM.enc []),I 0,.q 3 (map CX.c []),I 0],[(0,1),(1,1),(2,1),(3,1),(4,1)]),(240,[I 0,I 0,I 0],[(0,1),(1,1),(2,1)]),(206,[.str [],I 0],[(0,1),(1,1)]),(213,[I 0,I 0,I 0,I 0],[(0,1),(1,1),(2,1),(3,1)]),(236,[.str [],I 0],[(0,1),(1,1)]),(251,[I 0,I 0,I 0,I 0,I 0,.q 4 (map AR.enc []),.q 8 (map AX.enc []),.q 8 (map AX.enc [])],[(0,1),(1,1),(2,4),(6,1),(7,1)]),(33,[.str [],.q 2 (map Af.c []),.q 4 (map C2.c []),.q 5 (map AN.c []),.q 2 (map Aw.c []),.q 4 (map Ag.c []),.q 3 (map AZ.c []),.q 4 (map Cc.c []),.q 8 (map AX.enc []),I 0,I 0,I 0,I 0,I 0,I 0,I 0],[(0,1),(1,1),(2,1),(3,1),(4,1),(5,1),(6,1),(7,1),(8,1),(9,5),(14,1),(15,1)]),(39,[.q 3 (map CF.c []),.q 1 (map (QC 1 eI) [])],[(0,1),(1,1)]),(139,[.str [],.q 2 (map Af.c []),.q 4 (map C2.c []),.q 5 (map AN.c []),.q 2 (map Aw.c []),.q 4 (map Ag.c []),.q 3 (map AZ.c []),.q 4 (map Cc.c []),.q 8 (map AX.enc []),I 0,I 0,I 0,I 0,I 0,I 0,I 0,.q 3 (map CF.c []),.q 1 (map (QC 1 eI) []),I 0,I 0,I 0,I 0,I 0,I 0,I 0,I 0,.q 5 (map CQ.c []),.q 4 (map AY.c []),.q 4 (map CL.c []),I 0,I 0],[(0,16),(16,2),(18,8),(26,1),(27,1),(28,1),(29,1),(30,1)]),(296,[I 0,I 0],[(0,1),(1,1)]),(397,[I 0,I 0,I 0],[(0,1),(1,1),(2,1)]),(436,[I 0,I 0,I 0,I 0,I 0,.q 4 (map AR.enc []),.q 8 (map AX.enc []),.q 8 (map AX.enc [])],[(0,8)]),(458,[I 0,I 0,I 0,.q 4 (map AR.enc [])],[(0,4)]),(429,[I 0,I 0],[(0,1),(1,1)]),(334,[I 0,I 0],[(0,1),(1,1)]),(406,[I 0,I 0],[(0,1),(1,1)]),(307,[I 0,I 0,I 0],[(0,1),(1,1),(2,1)]),(203,[I 0,I 0],[(0,1),(1,1)]),(69,[I 0,I 0],[(0,1),(1,1)]),(201,[I 0,I 0,I 0],[(0,1),(1,1),(2,1)]),(128,[I 0,I 0,I 0],[(0,1),(1,2)]),(130,[I 0,I 0,I 0,I 0,I 0],[(0,1),(1,3),(4,1)]),(56,[.q 1 (map eI []),I 0],[(0,1),(1,1)]),(63,[.b AD,I 0,I 0,I 0],[(0,1),(1,1),(2,1),(3,1)]),(41,[I 0,I 0,I 0,I 0,I 0,I 0,I 0,I 0],[(0,1),(1,1),(2,1),(3,1),(4,1),(5,1),(6,1),(7,1)]),(93,[I 0,I 0,I 0,I 0],[(0,1),(1,1),(2,1),(3,1)]),(67,[I 0,I 0,I 0,.b AD],[(0,1),(1,1),(2,1),(3,1)]),(109,[I 0,I 0,I 0,I 0,I 0,I 0,I 0,I 0,I 0,I 0,I 0,I 0,I 0,I 0,I 0,I 0,I 0,I 0,I 0,I 0,I 0,I 0,I 0,I 0,I 0,I 0,I 0,I 0,I 0,I 0,I 0,I 0,I 0,I 0,I 0,I 0,I 0,I 0,I 0,I 0,I 0,I 0,I 0,I 0,I 0,I 0,I 0,I 0,I 0,I 0,I 0,I 0,I 0,I 0,.b AD,I 0,I 0],[(0,1),(1,1),(2,1),(3,1),(4,8),(12,4),(16,5),(21,8),(29,4),(33,4),(37,2),(39,4),(43,4),(47,6),(53,2),(55,2)]),(363,[I 0,I 0,.str [],.q 4 (map Value.enc [])],[(0,1),(1,1),(2,1),(3,1)]),(178,[I 0,.q 3 (map Edge.c [])],[(0,1),(1,1)]),(272,[I 0,I 0,I 0],[(0,1),(1,1),(2,1)]),(122,[I 0,I 0,I 0,I 0,I 0],[(0,1),(1,1),(2,1),(3,1),(4,1)]),(103,[I 0,I 0,I 0,I 0,I 0,I 0],[(0,1),(1,1),(2,1),(3,1),(4,1),(5,1)]),(99,[I 0,I 0,I 0,I 0],[(0,1),(1,1),(2,1),(3,1)]),(46,[.q 3 (map CF.c []),.q 1 (map (QC 1 eI) []),I 0,I 0,I 0,I 0,I 0,I 0,I 0,I 0,.q 5 (map CQ.c []),.n,.q 4 (map CL.c [])],[(0,2),(2,8),(10,1),(11,1),(12,1)])]}
def qm:AA (Nat×AA (Nat×Nat)):=[(31,[(0,1),(1,1),(2,1),(3,1),(4,1)]),(33,[(0,1),(1,1),(2,1),(3,1),(4,1),(5,1),(6,1),(7,1),(8,1),(9,5),(14,1),(15,1)]),(39,[(0,1),(1,1)]),(41,[(0,1),(1,1),(2,1),(3,1),(4,1),(5,1),(6,1),(7,1)]),(46,[(0,2),(2,8),(10,1),(11,1),(12,1)]),(56,[(0,1),(1,1)]),(63,[(0,1),(1,1),(2,1),(3,1)]),(67,[(0,1),(1,1),(2,1),(3,1)]),(69,[(0,1),(1,1)]),(87,[(0,1),(1,1),(2,1),(3,1)]),(89,[(0,1),(1,1),(2,1),(3,1),(4,1)]),(91,[(0,1),(1,1),(2,1),(3,1),(4,1),(5,1),(6,1),(7,1)]),(93,[(0,1),(1,1),(2,1),(3,1)]),(95,[(0,1),(1,1),(2,1),(3,1)]),(97,[(0,1),(1,1)]),(99,[(0,1),(1,1),(2,1),(3,1)]),(101,[(0,1),(1,1),(2,1),(3,1)]),(103,[(0,1),(1,1),(2,1),(3,1),(4,1),(5,1)]),(105,[(0,1),(1,1)]),(107,[(0,1),(1,1)]),(109,[(0,1),(1,1),(2,1),(3,1),(4,8),(12,4),(16,5),(21,8),(29,4),(33,4),(37,2),(39,4),(43,4),(47,6),(53,2),(55,2)]),(119,[(0,16),(16,2),(18,1),(19,1),(20,1),(21,1),(22,1),(23,1),(24,1)]),(122,[(0,1),(1,1),(2,1),(3,1),(4,1)]),(128,[(0,1),(1,2)]),(130,[(0,1),(1,3),(4,1)]),(139,[(0,16),(16,2),(18,8),(26,1),(27,1),(28,1),(29,1),(30,1)]),(169,[(0,1),(1,1),(2,1),(3,1),(4,1)]),(178,[(0,1),(1,1)]),(201,[(0,1),(1,1),(2,1)]),(203,[(0,1),(1,1)]),(206,[(0,1),(1,1)]),(213,[(0,1),(1,1),(2,1),(3,1)]),(233,[(0,16),(16,2),(18,1),(19,1),(20,1),(21,1)]),(236,[(0,1),(1,1)]),(240,[(0,1),(1,1),(2,1)]),(246,[(0,1),(1,1),(2,1)]),(249,[(0,1),(1,1),(2,1),(3,1)]),(251,[(0,1),(1,1),(2,4),(6,1),(7,1)]),(260,[(0,1),(1,1),(2,1),(3,1)]),(262,[(0,1),(1,1),(2,1)]),(267,[(0,1),(1,1),(2,1),(3,1)]),(272,[(0,1),(1,1),(2,1)]),(296,[(0,1),(1,1)]),(303,[(0,1),(1,1)]),(307,[(0,1),(1,1),(2,1)]),(334,[(0,1),(1,1)]),(363,[(0,1),(1,1),(2,1),(3,1)]),(397,[(0,1),(1,1),(2,1)]),(406,[(0,1),(1,1)]),(429,[(0,1),(1,1)]),(436,[(0,8)]),(458,[(0,4)])]
def FQ:GL:={ty:=kD,al:=[(33,(.a [.str [],.q 2 (map Af.c []),.q 4 (map C2.c []),.q 5 (map AN.c []),.q 2 (map Aw.c []),.q 4 (map Ag.c []),.q 3 (map AZ.c []),.q 4 (map Cc.c []),.q 8 (map AX.enc []),I 0,I 0,I 0,I 0,I 0,I 0,I 0])),(169,(.a [.str [],.q 3 (map CM.enc []),I 0,.q 3 (map CX.c []),I 0])),(39,(.a [.q 3 (map CF.c []),.q 1 (map (QC 1 eI) [])])),(139,(.a [.str [],.q 2 (map Af.c []),.q 4 (map C2.c []),.q 5 (map AN.c []),.q 2 (map Aw.c []),.q 4 (map Ag.c []),.q 3 (map AZ.c []),.q 4 (map Cc.c []),.q 8 (map AX.enc []),I 0,I 0,I 0,I 0,I 0,I 0,I 0,.q 3 (map CF.c []),.q 1 (map (QC 1 eI) []),I 0,I 0,I 0,I 0,I 0,I 0,I 0,I 0,.q 5 (map CQ.c []),.q 4 (map AY.c []),.q 4 (map CL.c []),I 0,I 0])),(67,(.a [I 0,I 0,I 0,.b AD])),(246,(.a [I 0,I 0,.q 3 (map CM.enc [])])),(206,(.a [.str [],I 0])),(236,(.a [.str [],I 0])),(260,(.a [.str [],I 0,I 0,.b AD])),(262,(.a [.str [],I 0,I 0])),(296,(.a [I 0,I 0])),(213,(.a [I 0,I 0,I 0,I 0])),(397,(.a [I 0,I 0,I 0])),(267,(.a [I 0,I 0,I 0,I 0])),(3,(I 0)),(377,.nilf),(380,.nilf),(31,(.a [I 0,I 0,I 0,I 0,I 0])),(251,(.a [I 0,I 0,I 0,I 0,I 0,.q 4 (map AR.enc []),.q 8 (map AX.enc []),.q 8 (map AX.enc [])])),(249,(.a [I 0,I 0,I 0,.q 4 (map AR.enc [])])),(436,(.a [I 0,I 0,I 0,I 0,I 0,.q 4 (map AR.enc []),.q 8 (map AX.enc []),.q 8 (map AX.enc [])])),(458,(.a [I 0,I 0,I 0,.q 4 (map AR.enc [])])),(120,.nilm),(294,.nilm),(201,(.a [I 0,I 0,I 0])),(54,.n),(438,.nilf),(303,(.a [.q 1 (map eI []),.nilm])),(122,(.a [I 0,I 0,I 0,I 0,I 0])),(69,(.a [I 0,I 0])),(111,.nilp),(93,(.a [I 0,I 0,I 0,I 0])),(130,(.a [I 0,I 0,I 0,I 0,I 0])),(128,(.a [I 0,I 0,I 0])),(49,.n),(123,.nilf),(125,.n),(126,.nilf),(63,(.a [.b AD,I 0,I 0,I 0])),(50,(I 0)),(240,(.a [I 0,I 0,I 0])),(227,.nilf),(57,.n),(56,(.a [.q 1 (map eI []),I 0])),(109,(.a [I 0,I 0,I 0,I 0,I 0,I 0,I 0,I 0,I 0,I 0,I 0,I 0,I 0,I 0,I 0,I 0,I 0,I 0,I 0,I 0,I 0,I 0,I 0,I 0,I 0,I 0,I 0,I 0,I 0,I 0,I 0,I 0,I 0,I 0,I 0,I 0,I 0,I 0,I 0,I 0,I 0,I 0,I 0,I 0,I 0,I 0,I 0,I 0,I 0,I 0,I 0,I 0,I 0,I 0,.b AD,I 0,I 0])),(41,(.a [I 0,I 0,I 0,I 0,I 0,I 0,I 0,I 0])),(87,(.a [I 0,I 0,I 0,I 0])),(89,(.a [I 0,I 0,I 0,I 0,I 0])),(91,(.a [I 0,I 0,I 0,I 0,I 0,I 0,I 0,I 0])),(95,(.a [I 0,I 0,I 0,I 0])),(99,(.a [I 0,I 0,I 0,I 0])),(101,(.a [I 0,I 0,I 0,I 0])),(103,(.a [I 0,I 0,I 0,I 0,I 0,I 0])),(363,(.a [I 0,I 0,.str [],.q 4 (map Value.enc [])])),(178,(.a [I 0,.q 3 (map Edge.c [])])),(272,(.a [I 0,I 0,I 0])),(46,(.a [.q 3 (map CF.c []),.q 1 (map (QC 1 eI) []),I 0,I 0,I 0,I 0,I 0,I 0,I 0,I 0,.q 5 (map CQ.c []),.q 4 (map AY.c []),.q 4 (map CL.c [])])),(233,(.a [.str [],.q 2 (map Af.c []),.q 4 (map C2.c []),.q 5 (map AN.c []),.q 2 (map Aw.c []),.q 4 (map Ag.c []),.q 3 (map AZ.c []),.q 4 (map Cc.c []),.q 8 (map AX.enc []),I 0,I 0,I 0,I 0,I 0,I 0,I 0,.q 3 (map CF.c []),.q 1 (map (QC 1 eI) []),.q 5 (map CQ.c []),.q 4 (map AY.c []),.q 1 (map eI []),.q 1 (map (QC 2 CK.c) [])]))],sl:=[291,400,54,49,57,34,36,176,80,280,42,282,284,44]}
def Fo:OE:={sl:=[(44,67,4),(166,246,3),(22,206,2),(23,213,4),(24,169,5),(25,236,2),(26,260,4),(27,262,3),(28,267,4),(167,240,3),(291,5,1),(54,3,1),(29,251,8),(247,249,4),(400,433,1),(36,201,3),(37,54,1),(43,93,4),(42,122,5),(115,128,3),(57,63,4),(258,9,1),(361,363,4),(34,109,57),(176,272,3),(80,41,8),(231,114,1),(114,69,2),(49,56,2),(125,4,1),(280,87,4),(282,99,4),(284,103,6)],fn:=[240,339,305,243,241,245,247,249,251,242,244,246,248,250,306,204,118,253,262,312,343,311,258,314,96,313,265,254,252,308,341,307,255,310,342,309,257,256,277,326,276,267,316,344,315,259,318,345,317,270,320,346,319,260,322,347,321,273,261,263,264,159,266,268,269,271,272,275,358,348,323,354,324,355,350,349,274,278,279,161,160,155,156,157,158,122,61,60,203,119,116,117,86,85,162,84,327,169,98,280,281,164,165,91,283,166,167,97,51,87,89,90,92,95,99,93,100,31,32,29,36,28,104,52,290,331,289,181,33,103,170,184,182,106,50,183,186,188,185,105,54,120,57,53,56,55,62,37,6,39,115,40,16,49,14,10,15,11,63,64,214,123,213,65,215,124,125,126,127,216,128,299,217,129,130,131,132,66,67,68,69,70,133,218,134,72,71,151,233,231,230,228,229,235,234,227,232,236,149,150,152,335,336,337,338,303,302,81,239,238,237,154,82,135,193,220,18,24,141,219,75,136,139,140,73,74,76,221,222,142,77,223,301,300,224,143,225,226,144,145,147,21,78,79,80,148,17,83,19,20,7,38,291,292,190,191,192,293,194,294,137,200,295,198,202,195,196,113,197,108,110,201,41,109,46,112,114,42,43,44,45,47,4,5,8,9,12,13,22,23,25,26,30,34,48,58,88,94,107,111,138,146,153,163,199,282,304,333,340,352]}
theorem rV:kL prog qm FQ Fo=kR prog qm FQ Fo:=by kernel_rfl
theorem F_:I3 prog FQ:=.ofK rV (by kernel_rfl)
theorem Y5:Lh prog Fo:=.ofK rV (Qsp (by kernel_rfl))
section
variable {h0 N m n d id t et k f:Nat} {all:Array AM} {o:AM} {l r r' ll:AA AM} {ds:AA Nat} {env env' env0:Env} {H H' H1 X:Qb} {Q:Qx} {α:Type} {e:α->AA A} {L:AA α} {kk:IntKind} {i:Int} {v:α} {K:AA AM->Env->Qb->Prop} {xs xs':AA A} {args argsc:AA A} {Hc:Qb} {Hs Hs':AA Qb} {bs:AA Nat} {cat:IV} {k':AA Kf} {c':Cf} {hB hE:Nat} {x:A}
theorem U{l':AA AM}(n:Nat)(h:Z0 FQ h0 N all n l env H=AC (l',env',H'))(k:WO prog h0 N all l' env' H' Q):WO prog h0 N all l env H Q:=AU F_ n h k
theorem G0{c:Code}(n:Nat)(h:KW FQ h0 N n (.code c) [] env H=AC (c',k',env',H'))(g:Hd prog h0 N c' k' env' H' Q):TC prog h0 N c env H Q:=ez F_ n h g
theorem Gc{k:AA Kf}{c:Code}(n:Nat)(h:KW FQ h0 N n (.code c) k env H=AC (c',k',env',H'))(g:Hd prog h0 N c' k' env' H' Q):TC prog h0 N c env H (kq prog h0 N k Q):=ez F_ n h g
theorem Go{k:AA Kf}(n:Nat)(h:KW FQ h0 N n (.ops all l) k env H=AC (c',k',env',H'))(g:Hd prog h0 N c' k' env' H' Q):WO prog h0 N all l env H (kq prog h0 N k Q):=ez F_ n h g
theorem Gx{k:AA Kf}{x:Ln}(n:Nat)(h:KW FQ h0 N n (.out x) k env H=AC (c',k',env',H'))(g:Hd prog h0 N c' k' env' H' Q):kq prog h0 N k Q x env H:=ez F_ n h g
theorem Cg{β:Type}{E':β->Env}{Hb:β->Qb}{k:AA Kf}{c c2:Code}(b:β)(sel keep:AA Nat)(nE:β->Env)(nH:β->AA (Nat×Ci))(hc:∀b,Lf sel keep (nE b) (nH b) env H=AC (E' b,Hb b))(h:TC prog h0 N c env H (I0 h0 b E' Hb (kq prog h0 N (.seq c2::k) Q)))(g:TC prog h0 N c2 (E' b) (Hb b) (kq prog h0 N k Q)):TC prog h0 N c env H (kq prog h0 N (.seq c2::k) Q):=Ct b sel keep nE nH hc h λ_ _ e=>Gx 1 rfl (Ee e g)
theorem Hz{S B:Type}{b:CJ S B}{E':S->Env}{Hb:S->Qb}{k:AA Kf}{c c2:Code}(sel keep:AA Nat)(nE:S->Env)(nH:S->AA (Nat×Ci))(hc:∀s,Lf sel keep (nE s) (nH s) env H=AC (E' s,Hb s))(h:TC prog h0 N c env H (Ku h0 b E' Hb (kq prog h0 N (.seq c2::k) Q)))(g:∀s,b=.k s->TC prog h0 N c2 (E' s) (Hb s) (kq prog h0 N k Q)):TC prog h0 N c env H (kq prog h0 N (.seq c2::k) Q):=KR sel keep nE nH hc h λs _ _ q e=>Gx 1 rfl (Ee e (g s q))
theorem Zt{S B S':Type}{b x:CJ S B}{d:CJ S' (CJ S B)}{E':S->Env}{Hb:S->Qb}{s:S}(hb:∀b',d=.d b'->b'=b)(h:AC (CJ.d x)=AC d)(e:x=.k s)(hl:Le h0 env H (E' s) (Hb s)):Ku h0 b E' Hb Q .normal env H:=JZ ((Oj hb h).symm.trans e) hl
theorem NT{β S':Type}{b x:β}{d:CJ S' β}{E':β->Env}{Hb:β->Qb}(hb:∀b',d=.d b'->b'=b)(h:AC (CJ.d x)=AC d)(hl:Le h0 env H (E' x) (Hb x)):I0 h0 b E' Hb Q .normal env H:=by
  cases Oj hb h;exact hl
theorem Gl{β:Type}{e b:β}{E':β->Env}{Hb:β->Qb}{k:AA Kf}(n:Nat)(hm:KW FQ h0 N n (.ops all l) k env H=AC (.out .normal,[],env',H'))(h:AC e=AC b)(π:AA Nat)(hpre:π.take h0=List.range h0:=by rfl)(hH:π.map (λp=>H'[p]?)=((Hb e).map (Q4 (Cu π (AI H')))).map some:=by rfl)(hπ:π.Nodup:=by decide)(hE:IU (Cu π (AI H')) env' (E' e):=by(repeat' (first|exact trivial|refine⟨rfl,?_⟩))):WO prog h0 N all l env H (kq prog h0 N k (I0 h0 b E' Hb Q)):=Go n hm (Cl h π hpre hH hπ hE)
theorem Gt{β:Type}{e r:β}{w:β->A}{Hb:β->Qb}{fn:Func}{k:AA Kf}(n:Nat)(hm:KW FQ h0 N n (.ops all l) k env H=AC (.out .ret,[],env',H'))(h:AC e=AC r)(a:Nat)(π:AA Nat)(hr:fn.results= #[.tmp a]:=by rfl)(hpre:π.take h0=List.range h0:=by rfl)(hH:π.map (λp=>H'[p]?)=((Hb e).map (Q4 (Cu π (AI H')))).map some:=by rfl)(hπ:π.Nodup:=by decide)(hE:IU (Cu π (AI H')) env' [(a,w e)]:=by exact⟨rfl,trivial⟩):WO prog h0 N all l env H (kq prog h0 N k (YI prog h0 fn (RQ w Hb r))):=Go n hm (Rt h a π hr hpre hH hπ hE)
theorem xY{β:Type}{e b:β}{E':β->Env}{Hb:β->Qb}{k:AA Kf}{c:Code}(n:Nat)(hm:KW FQ h0 N n (.code c) k env H=AC (.out .normal,[],env',H'))(h:AC e=AC b)(π:AA Nat)(hpre:π.take h0=List.range h0:=by rfl)(hH:π.map (λp=>H'[p]?)=((Hb e).map (Q4 (Cu π (AI H')))).map some:=by rfl)(hπ:π.Nodup:=by decide)(hE:IU (Cu π (AI H')) env' (E' e):=by(repeat' (first|exact trivial|refine⟨rfl,?_⟩))):TC prog h0 N c env H (kq prog h0 N k (I0 h0 b E' Hb Q)):=Gc n hm (Cl h π hpre hH hπ hE)
theorem Hw{β:Type}{e r:β}{w:β->A}{Hb:β->Qb}{fn:Func}{k:AA Kf}{c:Code}(n:Nat)(hm:KW FQ h0 N n (.code c) k env H=AC (.out .ret,[],env',H'))(h:AC e=AC r)(a:Nat)(π:AA Nat)(hr:fn.results= #[.tmp a]:=by rfl)(hpre:π.take h0=List.range h0:=by rfl)(hH:π.map (λp=>H'[p]?)=((Hb e).map (Q4 (Cu π (AI H')))).map some:=by rfl)(hπ:π.Nodup:=by decide)(hE:IU (Cu π (AI H')) env' [(a,w e)]:=by exact⟨rfl,trivial⟩):TC prog h0 N c env H (kq prog h0 N k (YI prog h0 fn (RQ w Hb r))):=Gc n hm (Rt h a π hr hpre hH hπ hE)
theorem Fg{k:AA Kf}{e1:Env}(n:Nat)(h:dE env H=AC (e1,H1))(hm:KW FQ h0 N n (.ops all l) k e1 H1=AC (c',k',env',H'))(g:Hd prog h0 N c' k' env' H' Q):WO prog h0 N all l env H (kq prog h0 N k Q):=FE h (Go n hm g)
@[reducible] def Kb(F:AB Bool)(f:FuncId)(args:AA A):Prop:=Kp prog F f args [] (λr=>.b r) λ_=>[]
@[reducible] def Ki(F:AB Int)(f:FuncId)(args:AA A):Prop:=Kp prog F f args [] (λr=>I r) λ_=>[]
@[reducible] def Kr{α:Type}(F:AB (AA α))(f:FuncId)(args:AA A)(t k:Nat)(e:α->AA A):Prop:=Kp prog F f args [] (λr=>.o 0 (AI r) k) λr=>[.r t k (map e r)]
@[reducible] def Ks{β:Type}(F:AB β)(f:FuncId)(args:AA A)(H:Qb)(w:β->A):Prop:=Kp prog F f args H w λ_=>H
@[reducible] def Kq{β:Type}(F:AB β)(f:FuncId)(args:AA A)(H:Qb)(w:β->A)(H1:β->Qb):Prop:=Kp prog F f args H w H1
theorem Kg{β:Type}{F:AB β}{f:FuncId}{fn:Func}{c:Code}{w:β->A}{H1:β->Qb}(n:Nat)(hf:prog.funcs[f]?=AC fn)(hb:fn.body=AC c)(hN:fn.ntmps=N)(hA:Nat.ble (AI args) N=AE)(h:KW FQ (AI H) N n (.code c) [] (Kv 0 args) H=AC (c',k',env',H'))(g:∀r,F=AC r->Hd prog (AI H) N c' k' env' H' (YI prog (AI H) fn (RQ w H1 r))):Kp prog F f args H w H1:=Kp.b hf hb hN hA λr e=>G0 n h (g r e)
theorem D(n:Nat)(h:eQ FQ N m l ds env H n (AI xs) r xs=AC (r',xs'))(k:DS prog N m l ds env H K r' xs'):DS prog N m l ds env H K r xs:=oC F_ n _ rfl h k
theorem Iz(h:CN L i=AC v)(q:Lb o env=AC (d,t,k,L.map e,kk,i))(g:WO prog h0 N all l (up env d (.rp (e v))) H Q)(ht:JE Fo.sl t=AC (et,k):=by rfl)(hg:Qv all o env=AC true:=by rfl)(hN:Nat.blt d N=true:=by rfl):WO prog h0 N all (o::l) env H Q:=aW Y5 h q g ht hg hN
theorem OW{cs:AA A}(h:CN L i=AC v)(he:e v=cs)(q:Lb o env=AC (d,t,k,L.map e,kk,i))(g:WO prog h0 N all l (up env d (.rp cs)) H Q)(ht:JE Fo.sl t=AC (et,k):=by rfl)(hg:Qv all o env=AC true:=by rfl)(hN:Nat.blt d N=true:=by rfl):WO prog h0 N all (o::l) env H Q:=pS Y5 h he q g ht hg hN
theorem Lm{k':Nat}(q:SG o env=AC (d,t,.mk (.q k (L.map e))))(g:WO prog h0 N all l (up env d (I (AI L))) H Q)(ht:JE Fo.sl t=AC (et,k'):=by rfl)(hg:Qv all o env=AC true:=by rfl)(hN:Nat.blt d N=true:=by rfl):WO prog h0 N all (o::l) env H Q:=xW Y5 q g ht hg hN
theorem Lg{k:AA Kf}{i k1:Nat}(n:Nat)(q:SG o env=AC (d,t,.mk (.q i (L.map e))))(hm:KW FQ h0 N n (.ops all l) k (up env d (I (AI L))) H=AC (c',k',env',H'))(g:Hd prog h0 N c' k' env' H' Q)(ht:JE Fo.sl t=AC (et,k1):=by rfl)(hg:Qv all o env=AC true:=by rfl)(hN:Nat.blt d N=true:=by rfl):WO prog h0 N all (o::l) env H (kq prog h0 N k Q):=Lm q (Go n hm g) ht hg hN
theorem Cz{β γ:Type}{F:AB β}{F':β->AB γ}{r:γ}{w:β->A}(π:AA Nat)(h:F.bind F'=AC r)(hC:∀v,F=AC v->C prog f argsc Hc (RQ w (λ_=>Hc) v))(hop:IQ Fo o env=AC (d,f,args))(g:∀v,F=AC v->F' v=AC r->WO prog h0 N all l (up env d (w v)) H Q)(hv:∀v,OH (w v)=AC (.mk (w v)):=by exact λ_=>rfl)(hargs:args=Jg (Cu π (AI H)) argsc:=by rfl)(hH:π.map (λp=>H[p]?)=(Hc.map (Q4 (Cu π (AI H)))).map some:=by rfl)(hπ:π.Nodup:=by decide)(hg:Qv all o env=AC true:=by rfl)(hN:Nat.blt d N=true:=by rfl)(hh:Nat.ble h0 (AI H)=true:=by rfl):WO prog h0 N all (o::l) env H Q:=qf Y5 π h hC hop g hv hargs hH hπ hg hN hh
theorem Cb{β γ:Type}{F:AB β}{F':β->AB γ}{r:γ}{w:β->A}(h:F.bind F'=AC r)(hC:∀v,F=AC v->C prog f argsc [] (RQ w Ze v))(hop:IQ Fo o env=AC (d,f,args))(hL:E_ H args argsc)(g:∀v,F=AC v->F' v=AC r->WO prog h0 N all l (up env d (w v)) H Q)(hv:∀v,Yb (w v)=true:=by exact λ_=>rfl)(hg:Qv all o env=AC true:=by rfl)(hN:Nat.blt d N=true:=by rfl):WO prog h0 N all (o::l) env H Q:=xj Y5 h hC hop hL g hv hg hN
theorem Dz{β γ:Type}{F:AB β}{F':β->AB γ}{r:γ}{w:β->A}(π:AA Nat)(h:F.bind F'=AC r)(hC:∀v,F=AC v->C prog f argsc Hc (RQ w (λ_=>Hc) v))(hop:IQ Fo o (Qq (Qc o) 0 ds xs env)=AC (d,f,args))(g:∀v,F=AC v->F' v=AC r->DS prog N m ll ds env H K l (xs++[w v]))(hv:∀v,OH (w v)=AC (.mk (w v)):=by exact λ_=>rfl)(hargs:args=Jg (Cu π (AI H)) argsc:=by rfl)(hH:π.map (λp=>H[p]?)=(Hc.map (Q4 (Cu π (AI H)))).map some:=by rfl)(hπ:π.Nodup:=by decide)(hg:Qv ll.toArray o (Qq (Qc o) 0 ds xs env)=AC true:=by rfl)(hN:Nat.blt d N=true:=by rfl)(hx:Nat.blt (AI xs) m=true:=by rfl):DS prog N m ll ds env H K (o::l) xs:=xa Y5 π h hC hop g hv hargs hH hπ hg hN hx
theorem GX(m:Nat)(hc:Go.Sw.draw0 l m N (Ji m 0 l)=AE)(h:DS prog N m l (Ji m 0 l) env H (λr e H=>WO prog h0 N l.toArray r e H Q) l [])(h0B:Nat.ble h0 (AI H)=true:=by rfl):TC prog h0 N (.region id l.toArray AE) env H Q:=Qpk (k:=[]) m FY hc h0B h
theorem Da{cat:AA Nat}(n:Nat)(h:eP FQ N m cat l ds env H n (AI xs) r xs=AC (r',xs'))(k:DA prog N m cat l ds env H K r' xs'):DA prog N m cat l ds env H K r xs:=oB F_ n _ rfl h k
theorem Db{cat:AA Nat}(n:Nat)(h:Tv FQ N cat l ds env H1 n (AI xs) r xs=AC (r',xs'))(k:DB prog N m cat l ds env H H1 K r' xs'):DB prog N m cat l ds env H H1 K r xs:=fA F_ n _ rfl h k
theorem Dk(k:Nat){B:AA (Nat×AB Ci)}(h:Tw FQ N m cat l ds env n B.isEmpty k (AI xs) (AI Hs) Hs X r xs=AC (Hs',r',xs'))(g:DK prog N m bs cat l ds env n K B Hs' X r' xs'):DK prog N m bs cat l ds env n K B Hs X r xs:=fB F_ (λh=>List.isEmpty_iff.1 h) k _ _ rfl rfl h g
theorem au{B:AA (Nat×AB Ci)}{lo hi:Nat}(h:SN FQ o (Qq (Qc o) 0 ds xs env) x (hi+1-lo) (X::Hs))(k:DK prog N m bs cat l ds env n K B Hs X r (xs++[x]))(hc:QW cat (AI xs)=AC (0,lo,hi):=by rfl)(hd:o.dst=AC d:=by rfl)(hcH:Nat.beq hi (AI Hs)=true:=by rfl)(hg:Qv ⟨l⟩ o (Qq (Qc o) 0 ds xs env)=AC true:=by rfl)(hN:Nat.blt d N=true:=by rfl)(hle:Nat.ble lo hi=true:=by rfl):DK prog N m bs cat l ds env n K B Hs X (o::r) xs:=DK.vs F_ h k hc hd hcH hg hN hle
theorem Iu(m:Nat)(bs:AA Nat)(cat:IV)(hc:HC l m N (Ji m 0 l) (l8 cat) (kI bs cat) (cQ bs) (Nv cat)=AE)(h:DK prog N m bs cat l (Ji m 0 l) env (AI H) (λr e H=>WO prog h0 N l.toArray r e H Q) [] [] H l [])(hcl:Nat.beq (AI cat) m=true:=by rfl)(h0B:Nat.ble h0 (AI H)=true:=by rfl):TC prog h0 N (.region id l.toArray AE) env H Q:=Qpl m bs cat FY hc hcl h0B h
theorem Ll{B:AA (Nat×AB Ci)}{lo hi b:Nat}(h:SN FQ o (Qq (Qc o) 0 ds xs env) x (AI Hs+1-lo) (X::Hs))(k:DK prog N m bs cat l ds env n K ((b,X[b]?)::B) Hs X r (xs++[x]))(hc:QW cat (AI xs)=AC (0,lo,hi):=by rfl)(hl:eU o (Qq (Qc o) 0 ds xs env)=AC b:=by rfl)(hd:o.dst=AC d:=by rfl)(hlo:Nat.ble lo (AI Hs)=true:=by rfl)(hhi:Nat.ble hi (AI bs)=true:=by rfl)(hg:Qv ⟨l⟩ o (Qq (Qc o) 0 ds xs env)=AC true:=by rfl)(hN:Nat.blt d N=true:=by rfl):DK prog N m bs cat l ds env n K B Hs X (o::r) xs:=QqO F_ hl h k hc hd hlo hhi hg hN
theorem qe(m b:Nat)(cat:AA Nat)(hc:HC l m N (Ji m 0 l) (q_ cat) (qs b cat) [[],[b]] (SC cat)=AE)(h:DA prog N m cat l (Ji m 0 l) env H (λr e H=>WO prog h0 N l.toArray r e H Q) l [])(hcl:Nat.beq (AI cat) m=true:=by rfl)(h0B:Nat.ble h0 (AI H)=true:=by rfl):TC prog h0 N (.region id l.toArray AE) env H Q:=Qpm m b cat FY hc hcl h0B h
theorem Cd{β γ:Type}{F:AB β}{F':β->AB γ}{r:γ}{w:β->A}{Hr:β->Qb}(π:AA Nat)(h:F.bind F'=AC r)(hC:∀v,F=AC v->C prog f argsc Hc (RQ w Hr v))(hop:IQ Fo o env=AC (d,f,args))(g:∀v,F=AC v->F' v=AC r->WO prog h0 N all l (up env d (YM (Cu π (AI H)) (w v))) (QQ H π ((Hr v).map (Q4 (Cu π (AI H))))) Q)(hargs:args=Jg (Cu π (AI H)) argsc:=by rfl)(hH:π.map (λp=>H[p]?)=(Hc.map (Q4 (Cu π (AI H)))).map some:=by rfl)(hπ:π.Nodup:=by decide)(hg:Qv all o env=AC true:=by rfl)(hN:Nat.blt d N=true:=by rfl)(hh:Nat.ble h0 (AI H)=true:=by rfl):WO prog h0 N all (o::l) env H Q:=iF Y5 π h hC hop g hargs hH hπ hg hN hh
theorem v0{i:Nat}(hx:xs[i]?=AC x)(h:ie kD N l ds xs env0 H i=AC x):Y0 prog N l ds xs env0 hB hE i H H:=vQ F_.ty hx h
theorem ov{i c:Nat}(k:Oq prog N l ds xs env0 H (i+1) c)(hx:xs[i]?=AC x:=by rfl)(h:ie kD N l ds xs env0 H i=AC x:=by rfl):Oq prog N l ds xs env0 H i (c+1):=.c (vQ F_.ty hx h) k
end
theorem aX{T:Type}{X:Fy T}{st:HT T}{h0 N:Nat}{c:Code}{c':Cf}{k':AA Kf}{env env':Env}{H H':Qb}{Q:YD T}(n:Nat)(h:Z3 FQ h0 N n (.code c) [] env H=AC (c',k',env',H'))(g:UQ X prog h0 N c' k' env' H' st Q):C5 X prog h0 N c env H st Q:=jK F_ n h g
theorem jw{T:Type}{X:Fy T}{st:HT T}{h0 N:Nat}{k:AA Kf}{all:Array AM}{l:AA AM}{c':Cf}{k':AA Kf}{env env':Env}{H H':Qb}{Q:YD T}(n:Nat)(h:Z3 FQ h0 N n (.ops all l) k env H=AC (c',k',env',H'))(g:UQ X prog h0 N c' k' env' H' st Q):Fw X prog h0 N all l env H st (N2 X prog h0 N k Q):=jK F_ n h g
theorem Hv{T:Type}{X:Fy T}{st:HT T}{h0 N:Nat}{k:AA Kf}{x:Ln}{c':Cf}{k':AA Kf}{env env':Env}{H H':Qb}{Q:YD T}(n:Nat)(h:Z3 FQ h0 N n (.out x) k env H=AC (c',k',env',H'))(g:UQ X prog h0 N c' k' env' H' st Q):N2 X prog h0 N k Q x env H st:=jK F_ n h g
def FU:Go.Shelf.Ren:=⟨λ|144=>340|143=>353|219=>357|217=>359|225=>360|224=>361|267=>362|266=>363|314=>364|n=>n,λ|9=>9|4=>4|3=>3|5=>5|46=>215|146=>310|51=>309|n=>n,λ|1=>0|n=>n⟩
theorem QdV:Go.Proofs.Lays.n144 prog FU:=by
  constructor<;>first|kernel_rfl|(intro;kernel_rfl)|exact iq (by kernel_rfl) (by kernel_rfl)
def Fe:Go.Shelf.Ren:=⟨λ|21=>282|27=>328|28=>329|35=>351|39=>356|n=>n,λ|22=>54|3=>3|4=>4|0=>0|n=>n,λ|n=>n⟩
theorem QeC:Go.Proofs.Lays2.n21 prog Fe:=by
  constructor<;>first|kernel_rfl|(intro;kernel_rfl)|exact iq (by kernel_rfl) (by kernel_rfl)
def GJ:Go.Shelf.Ren:=⟨λ|6=>34|15=>102|14=>101|28=>179|29=>180|20=>171|21=>172|22=>173|23=>174|24=>175|25=>176|26=>177|27=>178|46=>284|47=>285|48=>286|49=>287|50=>288|57=>330|n=>n,λ|22=>49|24=>56|25=>137|3=>3|39=>215|0=>0|53=>309|55=>312|4=>4|46=>318|45=>317|50=>144|5=>5|9=>9|66=>407|70=>411|76=>441|77=>256|n=>n,λ|n=>n⟩
theorem Qhy:Go.Proofs.SlLaysF0.n6 prog GJ:=by
  constructor<;>first|kernel_rfl|(intro;kernel_rfl)|exact iq (by kernel_rfl) (by kernel_rfl)
def GI:Go.Shelf.Ren:=⟨λ|6=>58|15=>102|14=>121|28=>179|29=>180|20=>205|21=>206|22=>207|23=>208|24=>209|25=>210|26=>211|27=>212|46=>296|47=>285|48=>286|49=>297|50=>298|57=>334|n=>n,λ|22=>57|24=>63|25=>164|3=>3|39=>215|0=>0|53=>309|55=>312|4=>4|46=>318|45=>317|50=>144|5=>5|9=>9|66=>407|70=>411|76=>441|77=>256|n=>n,λ|n=>n⟩
theorem Qhx:Go.Proofs.SlLaysF0.n6 prog GI:=by
  constructor<;>first|kernel_rfl|(intro;kernel_rfl)|exact iq (by kernel_rfl) (by kernel_rfl)
end Go.Sw
