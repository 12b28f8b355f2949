/- The types of ClocksAlignSpec and facts on them. -/
import Derived.Test.YthnmbndffmhalaaGreatDoorL3
import Derived.Test.YthnmbndffmhalaaGreatDoorProg
set_option linter.unusedVariables false
set_option linter.unusedSimpArgs false
set_option maxRecDepth 100000
set_option maxHeartbeats 4000000
namespace Go.Sw
open Option renaming some→AC,none→AF
open Bool renaming false→AD,true→AE
open List renaming length→AI
open Go renaming Value→AL,Oper→AM
open List(map)
open Int(toNat)
open Go.IntKind(i64 u64 u8)
open Go.Proofs Tryz
abbrev EE:=@runUnderlying90
abbrev EF:=@runUnderlying34
abbrev EG:=@sizeOf3
abbrev EH:=@sizeOf88
abbrev EI:=@runUnderlying36
abbrev EJ:=@runUnderlying9
abbrev EK:=@isAgg3
abbrev EL:=@runUnderlying35
abbrev EM:=@runUnderlying239
abbrev EN:=@sizeOf90
abbrev EO:=@runUnderlying3
abbrev EP:=@runUnderlying253
abbrev EQ:=@sizeOf55
abbrev ES:=@runUnderlying318
abbrev ET:=@runUnderlying349
abbrev EU:=@sizeOf40
abbrev EV:=@zeroValue282
abbrev EW:=@zeroValue3
abbrev EX:=@isAgg40
abbrev EY:=@underlying257
abbrev EZ:=@runUnderlying228
abbrev E0:=@sizeOf274
abbrev E3:=@runUnderlying40
abbrev E4:=@runUnderlying290
abbrev E5:=@isAgg274
abbrev E6:=@runUnderlying5
abbrev E7:=@zeroValue40
abbrev E8:=@isAgg88
abbrev E9:=@runUnderlying343
abbrev Ga:=@zeroValue356
abbrev Gb:=@sizeOf5
abbrev Gd:=@sizeOf336
abbrev Ge:=@runUnderlying224
abbrev Gf:=@runUnderlying272
abbrev Gg:=@runUnderlying356
abbrev Gh:=@underlying9
abbrev Gi:=@zeroValue38
abbrev Gj:=@isAgg90
abbrev Gk:=@runUnderlying58
abbrev Gm:=@zeroValue4
abbrev Gn:=@underlying3
abbrev Gp:=@underlying147
abbrev Gq:=@underlying125
abbrev Gs:=@runUnderlying268
abbrev Gu:=@sizeOf38
abbrev Gv:=@sizeOf292
abbrev Gw:=@runUnderlying88
abbrev Gy:=@runUnderlying70
abbrev Gz:=@zeroValue292
abbrev GA:=@runUnderlying24
abbrev GB:=@underlying227
abbrev GC:=@isAgg55
abbrev GD:=@isAgg292
abbrev GE:=@sizeOf60
abbrev GF:=@runUnderlying169
abbrev GG:=@runUnderlying55
abbrev GH:=@runUnderlying92
abbrev GI:=@sizeOf4
abbrev GJ:=@isAgg60
abbrev GK:=@isAgg38
abbrev GL:=@underlying118
abbrev GM:=@sizeOf284
abbrev GN:=@underlying29
abbrev GO:=@sizeOf343
abbrev GQ:=@zeroValue318
abbrev GR:=@underlying34
abbrev GS:=@sizeOf356
abbrev GT:=@sizeOf9
theorem DL:prog.follows .mixedOrders=true:=by rfl
structure Ak where
  BW:Int
  BU:Int
  BV:Int
  A6:Int
  BM:Int
  deriving DecidableEq
def Ak.c(x:Ak):AA Go.Sw.A:=[I x.BW,I x.BU,I x.BV,I x.A6,I x.BM]
structure Ag where
  An:List UInt8
  AN:Int
  deriving DecidableEq
def Ag.c(x:Ag):AA Go.Sw.A:=[.str x.An,I x.AN]
structure DO where
  Ai:Int
  To:Int
  BQ:Int
  BO:Int
  deriving DecidableEq
def DO.c(x:DO):AA Go.Sw.A:=[I x.Ai,I x.To,I x.BQ,I x.BO]
structure Bo where
  Ag:Int
  Ax:Int
  Ac:List Bo
mutual
def Bo.enc:Bo->AA A
  |⟨x0,x1,x2⟩=>[I x0,I x1,.q 3 (Bo.encs x2)]
def Bo.encs:AA Bo->AA (AA A)
  |[]=>[]
  |x::l=>Bo.enc x::Bo.encs l
end
theorem uA(l:AA Bo):Bo.encs l=map Bo.enc l:=by induction l with|nil=>simp[Bo.encs]|cons x l h=>simp[Bo.encs,h]
def Bo.c(x:Bo):AA Go.Sw.A:=[I x.Ag,I x.Ax,.q 3 (map Bo.enc x.Ac)]
theorem Yi(x:Bo):Bo.enc x=Bo.c x:=by cases x;simp[Bo.enc,Bo.c,uA]
structure Bw where
  Ag:Int
  Bf:Int
  BY:Int
  deriving DecidableEq
def Bw.c(x:Bw):AA Go.Sw.A:=[I x.Ag,I x.Bf,I x.BY]
structure AQ where
  An:List UInt8
  Aw:List Bo
  BS:Int
  Ao:List Bw
  Am:Int
def AQ.c(x:AQ):AA Go.Sw.A:=[.str x.An,.q 3 (map Bo.enc x.Aw),I x.BS,.q 3 (map Bw.c x.Ao),I x.Am]
structure A' where
  An:List UInt8
  Bj:Int
  deriving DecidableEq
def A'.c(x:A'):AA Go.Sw.A:=[.str x.An,I x.Bj]
structure Ah where
  An:List UInt8
  BT:Int
  Ax:Int
  Bg:Bool
  deriving DecidableEq
def Ah.c(x:Ah):AA Go.Sw.A:=[.str x.An,I x.BT,I x.Ax,.b x.Bg]
structure Aa where
  An:List UInt8
  Ai:Int
  To:Int
  deriving DecidableEq
def Aa.c(x:Aa):AA Go.Sw.A:=[.str x.An,I x.Ai,I x.To]
structure CB where
  AQ:Int
  Aa:Int
  BP:Int
  A5:Int
  deriving DecidableEq
def CB.c(x:CB):AA Go.Sw.A:=[I x.AQ,I x.Aa,I x.BP,I x.A5]
structure AP where
  AN:Int
  BZ:Int
  N:Int
  Ac:List AP
mutual
def AP.enc:AP->AA A
  |⟨x0,x1,x2,x3⟩=>[I x0,I x1,I x2,.q 4 (AP.encs x3)]
def AP.encs:AA AP->AA (AA A)
  |[]=>[]
  |x::l=>AP.enc x::AP.encs l
end
theorem t8(l:AA AP):AP.encs l=map AP.enc l:=by induction l with|nil=>simp[AP.encs]|cons x l h=>simp[AP.encs,h]
def AP.c(x:AP):AA Go.Sw.A:=[I x.AN,I x.BZ,I x.N,.q 4 (map AP.enc x.Ac)]
theorem aX(x:AP):AP.enc x=AP.c x:=by cases x;simp[AP.enc,AP.c,t8]
structure AZ where
  AN:Int
  By:Int
  AP:AP
  BD:List AZ
  BG:List AZ
mutual
def AZ.enc:AZ->AA A
  |⟨x0,x1,x2,x3,x4⟩=>[I x0,I x1,I x2.AN,I x2.BZ,I x2.N,.q 4 (map AP.enc x2.Ac),.q 8 (AZ.encs x3),.q 8 (AZ.encs x4)]
def AZ.encs:AA AZ->AA (AA A)
  |[]=>[]
  |x::l=>AZ.enc x::AZ.encs l
end
theorem uC(l:AA AZ):AZ.encs l=map AZ.enc l:=by induction l with|nil=>simp[AZ.encs]|cons x l h=>simp[AZ.encs,h]
def AZ.c(x:AZ):AA Go.Sw.A:=[I x.AN,I x.By,I x.AP.AN,I x.AP.BZ,I x.AP.N,.q 4 (map AP.enc x.AP.Ac),.q 8 (map AZ.enc x.BD),.q 8 (map AZ.enc x.BG)]
theorem YP(x:AZ):AZ.enc x=AZ.c x:=by cases x;simp[AZ.enc,AZ.c,uC]
structure Bl where
  An:List UInt8
  Ar:List Ag
  A8:List DO
  AX:List AQ
  A9:List A'
  Aq:List Ah
  Ae:List Aa
  A7:List CB
  BK:List AZ
  Ak:Ak
  Be:Int
  BN:Int
def Bl.c(x:Bl):AA Go.Sw.A:=[.str x.An,.q 2 (map Ag.c x.Ar),.q 4 (map DO.c x.A8),.q 5 (map AQ.c x.AX),.q 2 (map A'.c x.A9),.q 4 (map Ah.c x.Aq),.q 3 (map Aa.c x.Ae),.q 4 (map CB.c x.A7),.q 8 (map AZ.enc x.BK),I x.Ak.BW,I x.Ak.BU,I x.Ak.BV,I x.Ak.A6,I x.Ak.BM,I x.Be,I x.BN]
structure Bk where
  Ag:Int
  AT:Int
  As:Int
  deriving DecidableEq
def Bk.c(x:Bk):AA Go.Sw.A:=[I x.Ag,I x.AT,I x.As]
structure Bp where
  AR:List Bk
  BB:List (List Int)
  deriving DecidableEq
def Bp.c(x:Bp):AA Go.Sw.A:=[.q 3 (map Bk.c x.AR),.q 1 (map (Qw 1 (Qe .i64)) x.BB)]
structure CA where
  Lo:Int
  Hi:Int
  deriving DecidableEq
def CA.c(x:CA):AA Go.Sw.A:=[I x.Lo,I x.Hi]
structure AW where
  BH:Int
  AQ:Int
  A':Int
  Bb:Int
  Bi:Int
  BJ:Int
  Bc:Int
  Bh:Int
  deriving DecidableEq
def AW.c(x:AW):AA Go.Sw.A:=[I x.BH,I x.AQ,I x.A',I x.Bb,I x.Bi,I x.BJ,I x.Bc,I x.Bh]
structure Az where
  Ag:Int
  AT:Int
  BJ:Int
  Av:Int
  deriving DecidableEq
def Az.c(x:Az):AA Go.Sw.A:=[I x.Ag,I x.AT,I x.BJ,I x.Av]
structure AO where
  Ag:Int
  AT:Int
  Av:Int
  True:Int
  BX:Int
  deriving DecidableEq
def AO.c(x:AO):AA Go.Sw.A:=[I x.Ag,I x.AT,I x.Av,I x.True,I x.BX]
structure AV where
  BE:Int
  A2:Int
  A1:Int
  BF:Int
  A3:Int
  Ay:Int
  BQ:Int
  BO:Int
  deriving DecidableEq
def AV.c(x:AV):AA Go.Sw.A:=[I x.BE,I x.A2,I x.A1,I x.BF,I x.A3,I x.Ay,I x.BQ,I x.BO]
structure A0 where
  BH:Int
  Af:Int
  Lo:Int
  Hi:Int
  deriving DecidableEq
def A0.c(x:A0):AA Go.Sw.A:=[I x.BH,I x.Af,I x.Lo,I x.Hi]
structure Ab where
  Ag:Int
  AT:Int
  Lo:Int
  Hi:Int
  deriving DecidableEq
def Ab.c(x:Ab):AA Go.Sw.A:=[I x.Ag,I x.AT,I x.Lo,I x.Hi]
structure BA where
  A:Int
  B:Int
  deriving DecidableEq
def BA.c(x:BA):AA Go.Sw.A:=[I x.A,I x.B]
structure Aj where
  A4:Int
  BH:Int
  Ah:Int
  Af:Int
  deriving DecidableEq
def Aj.c(x:Aj):AA Go.Sw.A:=[I x.A4,I x.BH,I x.Ah,I x.Af]
structure Ad where
  A4:Int
  By:Int
  Be:Int
  Ba:Int
  deriving DecidableEq
def Ad.c(x:Ad):AA Go.Sw.A:=[I x.A4,I x.By,I x.Be,I x.Ba]
structure AS where
  A4:Int
  BC:Int
  AN:Int
  BH:Int
  Af:Int
  A5:Int
  deriving DecidableEq
def AS.c(x:AS):AA Go.Sw.A:=[I x.A4,I x.BC,I x.AN,I x.BH,I x.Af,I x.A5]
structure Al where
  A4:Int
  A_:Bool
  deriving DecidableEq
def Al.c(x:Al):AA Go.Sw.A:=[I x.A4,.b x.A_]
structure Ko where
  Au:Int
  No:Int
  deriving DecidableEq
def Ko.c(x:Ko):AA Go.Sw.A:=[I x.Au,I x.No]
structure Bm where
  Au:Int
  No:Int
  At:Int
  AN:Int
  AW:AW
  Az:Az
  AO:AO
  AV:AV
  A0:A0
  Ab:Ab
  BA:BA
  Aj:Aj
  Ad:Ad
  AS:AS
  Al:Al
  BI:Ko
  deriving DecidableEq
def Bm.c(x:Bm):AA Go.Sw.A:=[I x.Au,I x.No,I x.At,I x.AN,I x.AW.BH,I x.AW.AQ,I x.AW.A',I x.AW.Bb,I x.AW.Bi,I x.AW.BJ,I x.AW.Bc,I x.AW.Bh,I x.Az.Ag,I x.Az.AT,I x.Az.BJ,I x.Az.Av,I x.AO.Ag,I x.AO.AT,I x.AO.Av,I x.AO.True,I x.AO.BX,I x.AV.BE,I x.AV.A2,I x.AV.A1,I x.AV.BF,I x.AV.A3,I x.AV.Ay,I x.AV.BQ,I x.AV.BO,I x.A0.BH,I x.A0.Af,I x.A0.Lo,I x.A0.Hi,I x.Ab.Ag,I x.Ab.AT,I x.Ab.Lo,I x.Ab.Hi,I x.BA.A,I x.BA.B,I x.Aj.A4,I x.Aj.BH,I x.Aj.Ah,I x.Aj.Af,I x.Ad.A4,I x.Ad.By,I x.Ad.Be,I x.Ad.Ba,I x.AS.A4,I x.AS.BC,I x.AS.AN,I x.AS.BH,I x.AS.Af,I x.AS.A5,I x.Al.A4,.b x.Al.A_,I x.BI.Au,I x.BI.No]
abbrev Uj:AP:={AN:=0,BZ:=0,N:=0,Ac:=[]}
abbrev Uu:AZ:={AN:=0,By:=0,AP:=Uj,BD:=[],BG:=[]}
structure Ue where
  from_:Int
  to_:Int
  deriving DecidableEq
def Ue.c(x:Ue):AA Go.Sw.A:=[I x.from_,I x.to_]
structure Ug where
  distance:Int
  category:Int
  rank:Int
  deriving DecidableEq
def Ug.c(x:Ug):AA Go.Sw.A:=[I x.distance,I x.category,I x.rank]
structure Uh where
  AZ:AZ
def Uh.c(x:Uh):AA Go.Sw.A:=[I x.AZ.AN,I x.AZ.By,I x.AZ.AP.AN,I x.AZ.AP.BZ,I x.AZ.AP.N,.q 4 (map AP.enc x.AZ.AP.Ac),.q 8 (map AZ.enc x.AZ.BD),.q 8 (map AZ.enc x.AZ.BG)]
structure Uc where
  AP:AP
def Uc.c(x:Uc):AA Go.Sw.A:=[I x.AP.AN,I x.AP.BZ,I x.AP.N,.q 4 (map AP.enc x.AP.Ac)]
inductive Uf where
  |ctyping_step (x:Uh)
  |ctyping_cond (x:Uc)
def Uf.val:Uf->A
  |.ctyping_step x=>.iface 268 (.a (Uh.c x))
  |.ctyping_cond x=>.iface 318 (.a (Uc.c x))
def Uf.enc(x:Uf):AA A:=[x.val]
def Uf.elim{R:Type}(e:Uf)(f0:Uh->AB R)(f1:Uc->AB R):AB R:=match e with
  |.ctyping_step x=>f0 x
  |.ctyping_cond x=>f1 x
theorem Uf.data(x:Uf):YH x.val=true:=by cases x<;>rfl
theorem JN(e:Uf):(∃x,e=.ctyping_step x)\/(∃x,e=.ctyping_cond x):=by cases e<;>simp
theorem JH{R:Type}{e:Uf}{x:Uh}{f0:Uh->AB R}{f1:Uc->AB R}{r:R}(hE:e=.ctyping_step x)(h:Uf.elim e f0 f1=AC r):f0 x=AC r:=by subst hE;exact h
theorem JG{R:Type}{e:Uf}{x:Uc}{f0:Uh->AB R}{f1:Uc->AB R}{r:R}(hE:e=.ctyping_cond x)(h:Uf.elim e f0 f1=AC r):f1 x=AC r:=by subst hE;exact h
structure Ud where
  steps:Int
  conds:Int
  deriving DecidableEq
def Ud.c(x:Ud):AA Go.Sw.A:=[I x.steps,I x.conds]
abbrev Um:Ak:={BW:=0,BU:=0,BV:=0,A6:=0,BM:=0}
abbrev Uk:Bl:={An:=[],Ar:=[],A8:=[],AX:=[],A9:=[],Aq:=[],Ae:=[],A7:=[],BK:=[],Ak:=Um,Be:=0,BN:=0}
structure Ua where
  mat:Int
  epoch:Int
  deriving DecidableEq
def Ua.c(x:Ua):AA Go.Sw.A:=[I x.mat,I x.epoch]
structure Ub where
  least:Int
  most:Int
  deriving DecidableEq
def Ub.c(x:Ub):AA Go.Sw.A:=[I x.least,I x.most]
abbrev Ut:AW:={BH:=0,AQ:=0,A':=0,Bb:=0,Bi:=0,BJ:=0,Bc:=0,Bh:=0}
abbrev Up:Az:={Ag:=0,AT:=0,BJ:=0,Av:=0}
abbrev Ui:AO:={Ag:=0,AT:=0,Av:=0,True:=0,BX:=0}
abbrev Uv:AV:={BE:=0,A2:=0,A1:=0,BF:=0,A3:=0,Ay:=0,BQ:=0,BO:=0}
abbrev Un:A0:={BH:=0,Af:=0,Lo:=0,Hi:=0}
abbrev Us:Ab:={Ag:=0,AT:=0,Lo:=0,Hi:=0}
abbrev Uq:Aj:={A4:=0,BH:=0,Ah:=0,Af:=0}
abbrev Uo:Ad:={A4:=0,By:=0,Be:=0,Ba:=0}
abbrev Ur:AS:={A4:=0,BC:=0,AN:=0,BH:=0,Af:=0,A5:=0}
abbrev Ul:Bm:={Au:=0,No:=0,At:=0,AN:=0,AW:=Ut,Az:=Up,AO:=Ui,AV:=Uv,A0:=Un,Ab:=Us,BA:={A:=0,B:=0:BA},Aj:=Uq,Ad:=Uo,AS:=Ur,Al:={A4:=0,A_:=AD:Al},BI:={Au:=0,No:=0:Ko}}
structure AL where
  AN:Int
  N:Int
  S:List UInt8
  L:List AL
mutual
def Value.enc:AL->AA A
  |⟨x0,x1,x2,x3⟩=>[I x0,I x1,.str x2,.q 4 (Value.encs x3)]
def Value.encs:AA AL->AA (AA A)
  |[]=>[]
  |x::l=>Value.enc x::Value.encs l
end
theorem QgY(l:AA AL):Value.encs l=map Value.enc l:=by induction l with|nil=>simp[Value.encs]|cons x l h=>simp[Value.encs,h]
def Value.c(x:AL):AA Go.Sw.A:=[I x.AN,I x.N,.str x.S,.q 4 (map Value.enc x.L)]
theorem Y8(x:AL):Value.enc x=Value.c x:=by cases x;simp[Value.enc,Value.c,QgY]
abbrev Uw:AL:={AN:=0,N:=0,S:=[],L:=[]}
structure Edge where
  Ai:Int
  To:Int
  W:Int
  deriving DecidableEq
def Edge.c(x:Edge):AA Go.Sw.A:=[I x.Ai,I x.To,I x.W]
structure Bv where
  AY:Int
  BL:List Edge
  deriving DecidableEq
def Bv.c(x:Bv):AA Go.Sw.A:=[I x.AY,.q 3 (map Edge.c x.BL)]
theorem ZP:Yg prog 22 112 2:=⟨runUnderlying22,sizeOf112,⟨_,zeroValue112,rfl⟩,⟨_,typeInfo112,by decide⟩⟩
theorem ZO:Yg prog 29 117 8:=⟨runUnderlying29,sizeOf117,⟨_,zeroValue117,rfl⟩,⟨_,typeInfo117,by decide⟩⟩
theorem YI:Yg prog 239 5 1:=⟨EM,Gb,⟨_,zeroValue5,rfl⟩,⟨_,typeInfo5,by decide⟩⟩
theorem MF:FQ prog 9 A.str:=FQ.str Gh
theorem QA:Yg prog 90 3 1:=⟨EE,EG,⟨_,EW,rfl⟩,⟨_,typeInfo3,by decide⟩⟩
theorem pE:prog.underlying 151=AC (.struct (prog.fieldsOf 151)):=by kernel_rfl
theorem us:prog.stoodInHeld 151=false:=by kernel_rfl
theorem eZ:FQ prog 151 (λx=>A.a (Ue.c x)):=by
  refine FQ.struct pE Zf (λx y h=>?_) (λw em x=>?_) (λw x y=>?_) (λx=>?_)
  · cases x;cases y
    simpa[QY,Y5,Ue.c]using h
  · simp only[QY,Y5,Ue.c]
    rw[show(10000:Nat)=9998+1+1 from rfl];generalize(9998:Nat)=d;simp[Instr.checkKey,runUnderlying151,EO,Result.andThen,EG,EK,part]
  · have u3:=Gn
    have a3:=EK;have z3:=EG;simp only[QY,Y5,Ue.c,Op.equal,Op.maxDepth];rw[show(10000:Nat)=9999+1 from Z,run_equalIn_agg w 9999 151 _ _ pE us];simp only[Program.fieldsOf,underlying151]
    go_simp
    cases x;cases y;simp
    repeat' split
    all_goals simp_all
  · simp[QY,Y5,Ue.c,Instr.sameBits]
theorem pF:prog.underlying 221=AC (.struct (prog.fieldsOf 221)):=by kernel_rfl
theorem ut:prog.stoodInHeld 221=false:=by kernel_rfl
theorem v8:FQ prog 221 (λx=>A.a (Ug.c x)):=by
  refine FQ.struct pF Zf (λx y h=>?_) (λw em x=>?_) (λw x y=>?_) (λx=>?_)
  · cases x;cases y
    simpa[QY,Y5,Ug.c]using h
  · simp only[QY,Y5,Ug.c]
    rw[show(10000:Nat)=9998+1+1 from rfl];generalize(9998:Nat)=d;simp[Instr.checkKey,runUnderlying221,EO,Result.andThen,EG,EK,part]
  · have u3:=Gn
    have a3:=EK;have z3:=EG;simp only[QY,Y5,Ug.c,Op.equal,Op.maxDepth];rw[show(10000:Nat)=9999+1 from Z,run_equalIn_agg w 9999 221 _ _ pF ut];simp only[Program.fieldsOf,underlying221]
    go_simp
    cases x;cases y;simp
    repeat' split
    all_goals simp_all
  · simp[QY,Y5,Ug.c,Instr.sameBits]
theorem Rn:Yg prog 224 265 1:=⟨Ge,sizeOf265,⟨_,zeroValue265,rfl⟩,⟨_,typeInfo265,by decide⟩⟩
theorem dZ:FQ prog 3 (λx=>A.int .i64 x):=FQ.int Gn
theorem qI:QT prog 55 0 0 1:=FA GG rfl EG
theorem vm:QT prog 55 2 2 1:=FA GG rfl EG
theorem tM:QT prog 40 0 0 1:=FA E3 rfl EG
theorem qH:QT prog 40 1 1 1:=FA E3 rfl EG
theorem pD:prog.underlying 120=AC (.struct (prog.fieldsOf 120)):=by kernel_rfl
theorem ur:prog.stoodInHeld 120=false:=by kernel_rfl
theorem UF:FQ prog 120 (λx=>A.a (Ua.c x)):=by
  refine FQ.struct pD Zf (λx y h=>?_) (λw em x=>?_) (λw x y=>?_) (λx=>?_)
  · cases x;cases y
    simpa[QY,Y5,Ua.c]using h
  · simp only[QY,Y5,Ua.c]
    rw[show(10000:Nat)=9998+1+1 from rfl];generalize(9998:Nat)=d;simp[Instr.checkKey,runUnderlying120,EO,Result.andThen,EG,EK,part]
  · have u3:=Gn
    have a3:=EK;have z3:=EG;simp only[QY,Y5,Ua.c,Op.equal,Op.maxDepth];rw[show(10000:Nat)=9999+1 from Z,run_equalIn_agg w 9999 120 _ _ pD ur];simp only[Program.fieldsOf,underlying120]
    go_simp
    cases x;cases y;simp
    repeat' split
    all_goals simp_all
  · simp[QY,Y5,Ua.c,Instr.sameBits]
theorem MJ:Yg prog 34 88 57:=⟨EF,EH,⟨_,zeroValue88,rfl⟩,⟨_,typeInfo88,by decide⟩⟩
theorem eX:QT prog 88 3 3 1:=FA Gw rfl EG
theorem JI:Yg prog 272 284 3:=⟨Gf,GM,⟨_,zeroValue284,rfl⟩,⟨_,typeInfo284,by decide⟩⟩
theorem qK:QT prog 88 5 12 4:=FA Gw rfl sizeOf66
theorem vn:QT prog 66 0 0 1:=FA runUnderlying66 rfl EG
theorem vp:QT prog 66 1 1 1:=FA runUnderlying66 rfl EG
theorem eY:QT prog 88 6 16 5:=FA Gw rfl sizeOf68
theorem vq:QT prog 68 0 0 1:=FA runUnderlying68 rfl EG
theorem vr:QT prog 68 1 1 1:=FA runUnderlying68 rfl EG
theorem aG:QT prog 88 7 21 8:=FA Gw rfl sizeOf70
theorem vt:QT prog 70 0 0 1:=FA Gy rfl EG
theorem vu:QT prog 70 1 1 1:=FA Gy rfl EG
theorem vv:QT prog 70 3 3 1:=FA Gy rfl EG
theorem vw:QT prog 70 4 4 1:=FA Gy rfl EG
inductive Bq where
  |c0 (x:Unit)
  |c1 (x:Unit)
  |c2 (x:Unit)
  |c3 (x:Unit)
  |c4 (x:Unit)
  |c5 (x:Unit)
  |c6 (x:Unit)
  |c7 (x:Unit)
  |c8 (x:Unit)
  |c9 (x:Int×Int×Int×Int×Int×Int)
  |c10 (x:Unit)
  |c11 (x:Unit)
  |c12 (x:Unit)
  |c13 (x:Unit)
theorem xx:QT prog 284 0 0 1:=FA runUnderlying284 rfl sizeOf278
def Bm.put(x:Bm)(o:Nat)(v:Int):AB Bm:=match o with
  |0=>AC {x with Au:=v}
  |1=>AC {x with No:=v}
  |2=>AC {x with At:=v}
  |3=>AC {x with AN:=v}
  |4=>AC {x with AW:={x.AW with BH:=v}}
  |5=>AC {x with AW:={x.AW with AQ:=v}}
  |6=>AC {x with AW:={x.AW with A':=v}}
  |7=>AC {x with AW:={x.AW with Bb:=v}}
  |8=>AC {x with AW:={x.AW with Bi:=v}}
  |9=>AC {x with AW:={x.AW with BJ:=v}}
  |10=>AC {x with AW:={x.AW with Bc:=v}}
  |11=>AC {x with AW:={x.AW with Bh:=v}}
  |12=>AC {x with Az:={x.Az with Ag:=v}}
  |13=>AC {x with Az:={x.Az with AT:=v}}
  |14=>AC {x with Az:={x.Az with BJ:=v}}
  |15=>AC {x with Az:={x.Az with Av:=v}}
  |16=>AC {x with AO:={x.AO with Ag:=v}}
  |17=>AC {x with AO:={x.AO with AT:=v}}
  |18=>AC {x with AO:={x.AO with Av:=v}}
  |19=>AC {x with AO:={x.AO with True:=v}}
  |20=>AC {x with AO:={x.AO with BX:=v}}
  |21=>AC {x with AV:={x.AV with BE:=v}}
  |22=>AC {x with AV:={x.AV with A2:=v}}
  |23=>AC {x with AV:={x.AV with A1:=v}}
  |24=>AC {x with AV:={x.AV with BF:=v}}
  |25=>AC {x with AV:={x.AV with A3:=v}}
  |26=>AC {x with AV:={x.AV with Ay:=v}}
  |27=>AC {x with AV:={x.AV with BQ:=v}}
  |28=>AC {x with AV:={x.AV with BO:=v}}
  |29=>AC {x with A0:={x.A0 with BH:=v}}
  |30=>AC {x with A0:={x.A0 with Af:=v}}
  |31=>AC {x with A0:={x.A0 with Lo:=v}}
  |32=>AC {x with A0:={x.A0 with Hi:=v}}
  |33=>AC {x with Ab:={x.Ab with Ag:=v}}
  |34=>AC {x with Ab:={x.Ab with AT:=v}}
  |35=>AC {x with Ab:={x.Ab with Lo:=v}}
  |36=>AC {x with Ab:={x.Ab with Hi:=v}}
  |37=>AC {x with BA:={x.BA with A:=v}}
  |38=>AC {x with BA:={x.BA with B:=v}}
  |39=>AC {x with Aj:={x.Aj with A4:=v}}
  |40=>AC {x with Aj:={x.Aj with BH:=v}}
  |41=>AC {x with Aj:={x.Aj with Ah:=v}}
  |42=>AC {x with Aj:={x.Aj with Af:=v}}
  |43=>AC {x with Ad:={x.Ad with A4:=v}}
  |44=>AC {x with Ad:={x.Ad with By:=v}}
  |45=>AC {x with Ad:={x.Ad with Be:=v}}
  |46=>AC {x with Ad:={x.Ad with Ba:=v}}
  |47=>AC {x with AS:={x.AS with A4:=v}}
  |48=>AC {x with AS:={x.AS with BC:=v}}
  |49=>AC {x with AS:={x.AS with AN:=v}}
  |50=>AC {x with AS:={x.AS with BH:=v}}
  |51=>AC {x with AS:={x.AS with Af:=v}}
  |52=>AC {x with AS:={x.AS with A5:=v}}
  |53=>AC {x with Al:={x.Al with A4:=v}}
  |55=>AC {x with BI:={x.BI with Au:=v}}
  |56=>AC {x with BI:={x.BI with No:=v}}
  |_=>AF
theorem uw:∀(x:Bm) (o:Nat) (v:Int) (y:Bm),Bm.put x o v=AC y->Bm.c y=(Bm.c x).set o (I v)/\o<AI (Bm.c x):=by
  intro x o v y h;unfold Bm.put at h;split at h<;>first|(cases h;exact⟨Z,XS Z⟩)|cases h
theorem V':prog.stoodInHeld 88=false:=by kernel_rfl
theorem WA:prog.stoodInHeld 86=false:=by kernel_rfl
theorem Yk(h:Nat):IK prog 3 (h+1) 1 AD (λl=>∃x:Int,l=[Value.int .i64 x]):=IK.int Gn EK EG h
theorem WB:prog.stoodInHeld 84=false:=by kernel_rfl
theorem kl(h:Nat):IK prog 4 (h+1) 1 AD (λl=>∃x:Bool,l=[Value.bool x]):=IK.bool underlying4 isAgg4 GI h
theorem WC:prog.stoodInHeld 82=false:=by kernel_rfl
theorem WD:prog.stoodInHeld 80=false:=by kernel_rfl
theorem WE:prog.stoodInHeld 78=false:=by kernel_rfl
theorem WG:prog.stoodInHeld 76=false:=by kernel_rfl
theorem WH:prog.stoodInHeld 74=false:=by kernel_rfl
theorem WJ:prog.stoodInHeld 72=false:=by kernel_rfl
theorem WK:prog.stoodInHeld 70=false:=by kernel_rfl
theorem WL:prog.stoodInHeld 68=false:=by kernel_rfl
theorem WM:prog.stoodInHeld 66=false:=by kernel_rfl
theorem WN:prog.stoodInHeld 64=false:=by kernel_rfl
theorem d8:U0 prog 88 Bm.c:=by
  refine lu (QQ underlying88 V' E8 EH (CN.c Yk (CN.c Yk (CN.c Yk (CN.c Yk (CN.cons Z (by decide) (QQ underlying64 WN isAgg64 sizeOf64 (CN.c Yk (CN.c Yk (CN.c Yk (CN.c Yk (CN.c Yk (CN.c Yk (CN.c Yk (CN.c Yk (CN.nil 1 _)))))))))) (λe=>Bool.noConfusion e) (CN.cons Z (by decide) (QQ underlying66 WM isAgg66 sizeOf66 (CN.c Yk (CN.c Yk (CN.c Yk (CN.c Yk (CN.nil 1 _)))))) (λe=>Bool.noConfusion e) (CN.cons Z (by decide) (QQ underlying68 WL isAgg68 sizeOf68 (CN.c Yk (CN.c Yk (CN.c Yk (CN.c Yk (CN.c Yk (CN.nil 1 _))))))) (λe=>Bool.noConfusion e) (CN.cons Z (by decide) (QQ underlying70 WK isAgg70 sizeOf70 (CN.c Yk (CN.c Yk (CN.c Yk (CN.c Yk (CN.c Yk (CN.c Yk (CN.c Yk (CN.c Yk (CN.nil 1 _)))))))))) (λe=>Bool.noConfusion e) (CN.cons Z (by decide) (QQ underlying72 WJ isAgg72 sizeOf72 (CN.c Yk (CN.c Yk (CN.c Yk (CN.c Yk (CN.nil 1 _)))))) (λe=>Bool.noConfusion e) (CN.cons Z (by decide) (QQ underlying74 WH isAgg74 sizeOf74 (CN.c Yk (CN.c Yk (CN.c Yk (CN.c Yk (CN.nil 1 _)))))) (λe=>Bool.noConfusion e) (CN.cons Z (by decide) (QQ underlying76 WG isAgg76 sizeOf76 (CN.c Yk (CN.c Yk (CN.nil 1 _)))) (λe=>Bool.noConfusion e) (CN.cons Z (by decide) (QQ underlying78 WE isAgg78 sizeOf78 (CN.c Yk (CN.c Yk (CN.c Yk (CN.c Yk (CN.nil 1 _)))))) (λe=>Bool.noConfusion e) (CN.cons Z (by decide) (QQ underlying80 WD isAgg80 sizeOf80 (CN.c Yk (CN.c Yk (CN.c Yk (CN.c Yk (CN.nil 1 _)))))) (λe=>Bool.noConfusion e) (CN.cons Z (by decide) (QQ underlying82 WC isAgg82 sizeOf82 (CN.c Yk (CN.c Yk (CN.c Yk (CN.c Yk (CN.c Yk (CN.c Yk (CN.nil 1 _)))))))) (λe=>Bool.noConfusion e) (CN.cons Z (by decide) (QQ underlying84 WB isAgg84 sizeOf84 (CN.c Yk (CN.c kl (CN.nil 1 _)))) (λe=>Bool.noConfusion e) (CN.cons Z (by decide) (QQ underlying86 WA isAgg86 sizeOf86 (CN.c Yk (CN.c Yk (CN.nil 1 _)))) (λe=>Bool.noConfusion e) (CN.nil 2 _)))))))))))))))))) Z (λx=>⟨[_],_,Z,⟨_,Z⟩,[_],_,Z,⟨_,Z⟩,[_],_,Z,⟨_,Z⟩,[_],_,Z,⟨_,Z⟩,[_,_,_,_,_,_,_,_],_,Z,⟨[_],_,Z,⟨_,Z⟩,[_],_,Z,⟨_,Z⟩,[_],_,Z,⟨_,Z⟩,[_],_,Z,⟨_,Z⟩,[_],_,Z,⟨_,Z⟩,[_],_,Z,⟨_,Z⟩,[_],_,Z,⟨_,Z⟩,[_],_,Z,⟨_,Z⟩,Z⟩,[_,_,_,_],_,Z,⟨[_],_,Z,⟨_,Z⟩,[_],_,Z,⟨_,Z⟩,[_],_,Z,⟨_,Z⟩,[_],_,Z,⟨_,Z⟩,Z⟩,[_,_,_,_,_],_,Z,⟨[_],_,Z,⟨_,Z⟩,[_],_,Z,⟨_,Z⟩,[_],_,Z,⟨_,Z⟩,[_],_,Z,⟨_,Z⟩,[_],_,Z,⟨_,Z⟩,Z⟩,[_,_,_,_,_,_,_,_],_,Z,⟨[_],_,Z,⟨_,Z⟩,[_],_,Z,⟨_,Z⟩,[_],_,Z,⟨_,Z⟩,[_],_,Z,⟨_,Z⟩,[_],_,Z,⟨_,Z⟩,[_],_,Z,⟨_,Z⟩,[_],_,Z,⟨_,Z⟩,[_],_,Z,⟨_,Z⟩,Z⟩,[_,_,_,_],_,Z,⟨[_],_,Z,⟨_,Z⟩,[_],_,Z,⟨_,Z⟩,[_],_,Z,⟨_,Z⟩,[_],_,Z,⟨_,Z⟩,Z⟩,[_,_,_,_],_,Z,⟨[_],_,Z,⟨_,Z⟩,[_],_,Z,⟨_,Z⟩,[_],_,Z,⟨_,Z⟩,[_],_,Z,⟨_,Z⟩,Z⟩,[_,_],_,Z,⟨[_],_,Z,⟨_,Z⟩,[_],_,Z,⟨_,Z⟩,Z⟩,[_,_,_,_],_,Z,⟨[_],_,Z,⟨_,Z⟩,[_],_,Z,⟨_,Z⟩,[_],_,Z,⟨_,Z⟩,[_],_,Z,⟨_,Z⟩,Z⟩,[_,_,_,_],_,Z,⟨[_],_,Z,⟨_,Z⟩,[_],_,Z,⟨_,Z⟩,[_],_,Z,⟨_,Z⟩,[_],_,Z,⟨_,Z⟩,Z⟩,[_,_,_,_,_,_],_,Z,⟨[_],_,Z,⟨_,Z⟩,[_],_,Z,⟨_,Z⟩,[_],_,Z,⟨_,Z⟩,[_],_,Z,⟨_,Z⟩,[_],_,Z,⟨_,Z⟩,[_],_,Z,⟨_,Z⟩,Z⟩,[_,_],_,Z,⟨[_],_,Z,⟨_,Z⟩,[_],_,Z,⟨_,Z⟩,Z⟩,[_,_],_,Z,⟨[_],_,Z,⟨_,Z⟩,[_],_,Z,⟨_,Z⟩,Z⟩,Z⟩) Zf (λx y h=>?_) (by kernel_rfl);obtain⟨_,_,_,_,⟨_,_,_,_,_,_,_,_⟩,⟨_,_,_,_⟩,⟨_,_,_,_,_⟩,⟨_,_,_,_,_,_,_,_⟩,⟨_,_,_,_⟩,⟨_,_,_,_⟩,⟨_,_⟩,⟨_,_,_,_⟩,⟨_,_,_,_⟩,⟨_,_,_,_,_,_⟩,⟨_,_⟩,⟨_,_⟩⟩:=x;obtain⟨_,_,_,_,⟨_,_,_,_,_,_,_,_⟩,⟨_,_,_,_⟩,⟨_,_,_,_,_⟩,⟨_,_,_,_,_,_,_,_⟩,⟨_,_,_,_⟩,⟨_,_,_,_⟩,⟨_,_⟩,⟨_,_,_,_⟩,⟨_,_,_,_⟩,⟨_,_,_,_,_,_⟩,⟨_,_⟩,⟨_,_⟩⟩:=y;simpa[QY,Y5,Bm.c,AW.c,Az.c,AO.c,AV.c,A0.c,Ab.c,BA.c,Aj.c,Ad.c,AS.c,Al.c,Ko.c,and_assoc]using h
theorem pa:T9 prog 292 [(0,1),(1,1),(2,1),(3,1)]:=⟨_,runUnderlying292,(Eh EG (Eh EG (Eh GT (Eh sizeOf290 PL.nil))))⟩
theorem d7:Yg prog 290 292 4:=⟨E4,Gv,⟨_,Gz,rfl⟩,⟨_,typeInfo292,by decide⟩⟩
theorem qf:QT prog 292 2 2 1:=FA runUnderlying292 rfl GT
theorem Tz:Yg prog 35 55 3:=⟨EL,EQ,⟨_,zeroValue55,rfl⟩,⟨_,typeInfo55,by decide⟩⟩
theorem qJ:QT prog 55 1 1 1:=FA GG rfl EG
theorem PR:Yg prog 58 129 3:=⟨Gk,sizeOf129,⟨_,zeroValue129,rfl⟩,⟨_,typeInfo129,by decide⟩⟩
theorem V8:T9 prog 60 [(0,1),(1,1)]:=⟨_,runUnderlying60,(Eh EG (Eh sizeOf58 PL.nil))⟩
theorem kz:Yg prog 36 90 1:=⟨EI,EN,⟨_,zeroValue90,rfl⟩,⟨_,typeInfo90,by decide⟩⟩
theorem WQ:prog.stoodInHeld 40=false:=by kernel_rfl
theorem lQ:U0 prog 40 CA.c:=by
  refine lu (QQ underlying40 WQ EX EU (CN.c Yk (CN.c Yk (CN.nil 1 _)))) Z (λx=>⟨[_],_,Z,⟨_,Z⟩,[_],_,Z,⟨_,Z⟩,Z⟩) Zf (λx y h=>?_) (by kernel_rfl);obtain⟨_,_⟩:=x;obtain⟨_,_⟩:=y;simpa[QY,Y5,CA.c,and_assoc]using h
theorem JJ:Yg prog 228 9 1:=⟨EZ,GT,⟨_,zeroValue9,rfl⟩,⟨_,typeInfo9,by decide⟩⟩
theorem WP:prog.stoodInHeld 55=false:=by kernel_rfl
theorem vP:U0 prog 55 Bk.c:=by
  refine lu (QQ underlying55 WP GC EQ (CN.c Yk (CN.c Yk (CN.c Yk (CN.nil 1 _))))) Z (λx=>⟨[_],_,Z,⟨_,Z⟩,[_],_,Z,⟨_,Z⟩,[_],_,Z,⟨_,Z⟩,Z⟩) Zf (λx y h=>?_) (by kernel_rfl);obtain⟨_,_,_⟩:=x;obtain⟨_,_,_⟩:=y;simpa[QY,Y5,Bk.c,and_assoc]using h
theorem QF{n:Nat}:RB prog n 3 Int (λx=>[A.int .i64 x]) (Qp .i64):=RB.int Gn
def gM:RV:={fld:=[(134,2,2),(33,1,1),(33,2,2),(33,3,3),(33,4,4),(33,5,5),(33,6,6),(33,7,7),(94,1,1),(94,3,3),(112,0,0),(94,0,0),(186,0,0),(190,0,0),(194,0,0),(33,0,0),(112,1,1),(149,0,0),(149,1,1),(149,2,2),(149,3,3),(134,1,1),(134,0,0),(200,0,0),(200,1,1),(200,2,2),(94,2,2),(94,4,4),(186,1,1),(190,3,3),(190,1,1),(190,2,2),(194,1,1),(194,2,2),(206,0,0),(206,1,1),(206,2,2),(206,3,3),(33,9,9),(31,0,0),(31,1,1),(31,2,2),(31,3,3),(31,4,4),(33,10,14),(33,11,15),(318,0,0),(115,0,0),(115,1,1),(115,2,2),(115,3,3),(268,0,0),(117,3,6),(117,4,7),(261,0,0),(117,2,2),(261,1,1),(117,0,0),(117,1,1),(33,8,8),(55,0,0),(55,2,2),(40,0,0),(40,1,1),(88,3,3),(88,4,4),(64,0,0),(64,1,1),(64,2,2),(64,3,3),(64,4,4),(64,5,5),(64,6,6),(64,7,7),(88,5,12),(66,0,0),(66,1,1),(66,2,2),(66,3,3),(88,6,16),(68,0,0),(68,1,1),(68,2,2),(68,3,3),(68,4,4),(88,7,21),(70,0,0),(70,1,1),(70,2,2),(70,3,3),(70,4,4),(70,5,5),(70,6,6),(70,7,7),(88,8,29),(72,0,0),(72,1,1),(72,2,2),(72,3,3),(88,9,33),(74,0,0),(74,1,1),(74,2,2),(74,3,3),(88,10,37),(76,0,0),(76,1,1),(88,11,39),(78,0,0),(78,1,1),(78,2,2),(78,3,3),(88,12,43),(80,0,0),(80,1,1),(80,2,2),(80,3,3),(88,13,47),(82,2,2),(82,0,0),(82,1,1),(82,3,3),(82,4,4),(82,5,5),(88,14,53),(84,0,0),(88,15,55),(86,0,0),(86,1,1),(88,0,0),(88,1,1),(88,2,2),(274,0,0),(84,1,1),(274,1,1),(284,0,0),(284,1,1),(282,0,0),(282,1,1),(292,2,2),(292,3,3),(292,1,1),(292,0,0),(336,0,0),(120,0,0),(120,1,1),(55,1,1),(60,0,0),(60,1,1),(129,0,0),(129,1,1),(129,2,2),(174,0,0),(174,1,2),(174,2,3),(38,0,0),(38,1,1)],agg:=[(33,AE,16),(134,AE,3),(91,AD,1),(22,AD,1),(23,AD,1),(24,AD,1),(25,AD,1),(26,AD,1),(27,AD,1),(28,AD,1),(94,AE,5),(92,AD,1),(5,AD,1),(9,AD,1),(112,AE,2),(186,AE,2),(190,AE,4),(194,AE,3),(3,AD,1),(209,AD,1),(203,AD,1),(149,AE,4),(151,AE,2),(196,AD,1),(201,AD,1),(200,AE,3),(154,AD,1),(214,AD,1),(4,AD,1),(204,AD,1),(217,AD,1),(207,AD,1),(206,AE,4),(221,AE,3),(31,AE,5),(117,AE,8),(113,AD,1),(29,AD,1),(115,AE,4),(268,AE,8),(318,AE,4),(265,AD,1),(227,AD,1),(147,AD,1),(40,AE,2),(55,AE,3),(34,AD,1),(282,AE,2),(274,AE,2),(324,AD,1),(325,AD,1),(326,AD,1),(327,AD,1),(88,AE,57),(41,AD,1),(284,AE,3),(278,AD,1),(290,AD,1),(292,AE,4),(337,AD,1),(334,AD,1),(118,AD,1),(121,AD,1),(125,AD,1),(120,AE,2),(58,AD,1),(35,AD,1),(60,AE,2),(130,AD,1),(131,AD,1),(68,AE,5),(70,AE,8),(129,AE,3),(90,AD,1),(38,AE,2),(36,AD,1),(64,AE,8),(82,AE,6),(66,AE,4),(72,AE,4),(74,AE,4),(76,AE,2),(78,AE,4),(80,AE,4),(84,AE,2),(86,AE,2)],zer:=[(112,[.str [],I 0],[(0,1),(1,1)]),(117,[I 0,I 0,I 0,I 0,I 0,.q 4 (map AP.enc []),.q 8 (map AZ.enc []),.q 8 (map AZ.enc [])],[(0,1),(1,1),(2,4),(6,1),(7,1)]),(31,[I 0,I 0,I 0,I 0,I 0],[(0,1),(1,1),(2,1),(3,1),(4,1)]),(33,[.str [],.q 2 (map Ag.c []),.q 4 (map DO.c []),.q 5 (map AQ.c []),.q 2 (map A'.c []),.q 4 (map Ah.c []),.q 3 (map Aa.c []),.q 4 (map CB.c []),.q 8 (map AZ.enc []),I 0,I 0,I 0,I 0,I 0,I 0,I 0],[(0,1),(1,1),(2,1),(3,1),(4,1),(5,1),(6,1),(7,1),(8,1),(9,5),(14,1),(15,1)]),(151,[I 0,I 0],[(0,1),(1,1)]),(221,[I 0,I 0,I 0],[(0,1),(1,1),(2,1)]),(268,[I 0,I 0,I 0,I 0,I 0,.q 4 (map AP.enc []),.q 8 (map AZ.enc []),.q 8 (map AZ.enc [])],[(0,8)]),(318,[I 0,I 0,I 0,.q 4 (map AP.enc [])],[(0,4)]),(261,[I 0,I 0],[(0,1),(1,1)]),(40,[I 0,I 0],[(0,1),(1,1)]),(284,[.nilp,I 0,I 0],[(0,1),(1,2)]),(282,[I 0,I 0],[(0,1),(1,1)]),(274,[.n,.nilf],[(0,1),(1,1)]),(292,[I 0,I 0,.str [],.q 4 (map Value.enc [])],[(0,1),(1,1),(2,1),(3,1)]),(120,[I 0,I 0],[(0,1),(1,1)]),(55,[I 0,I 0,I 0],[(0,1),(1,1),(2,1)]),(129,[I 0,I 0,I 0],[(0,1),(1,1),(2,1)]),(60,[I 0,.q 3 (map Edge.c [])],[(0,1),(1,1)]),(174,[I 0,.q 3 (map Edge.c []),.q 1 (map (Qe .i64) []),.q 1 (map (Qe .i64) [])],[(0,2),(2,1),(3,1)]),(38,[.q 3 (map Bk.c []),.q 1 (map (Qw 1 (Qe .i64)) [])],[(0,1),(1,1)]),(68,[I 0,I 0,I 0,I 0,I 0],[(0,1),(1,1),(2,1),(3,1),(4,1)]),(88,[I 0,I 0,I 0,I 0,I 0,I 0,I 0,I 0,I 0,I 0,I 0,I 0,I 0,I 0,I 0,I 0,I 0,I 0,I 0,I 0,I 0,I 0,I 0,I 0,I 0,I 0,I 0,I 0,I 0,I 0,I 0,I 0,I 0,I 0,I 0,I 0,I 0,I 0,I 0,I 0,I 0,I 0,I 0,I 0,I 0,I 0,I 0,I 0,I 0,I 0,I 0,I 0,I 0,I 0,.b AD,I 0,I 0],[(0,1),(1,1),(2,1),(3,1),(4,8),(12,4),(16,5),(21,8),(29,4),(33,4),(37,2),(39,4),(43,4),(47,6),(53,2),(55,2)])]}
def oP:AA (Nat×AA (Nat×Nat)):=[(31,[(0,1),(1,1),(2,1),(3,1),(4,1)]),(33,[(0,1),(1,1),(2,1),(3,1),(4,1),(5,1),(6,1),(7,1),(8,1),(9,5),(14,1),(15,1)]),(38,[(0,1),(1,1)]),(40,[(0,1),(1,1)]),(55,[(0,1),(1,1),(2,1)]),(60,[(0,1),(1,1)]),(64,[(0,1),(1,1),(2,1),(3,1),(4,1),(5,1),(6,1),(7,1)]),(66,[(0,1),(1,1),(2,1),(3,1)]),(68,[(0,1),(1,1),(2,1),(3,1),(4,1)]),(70,[(0,1),(1,1),(2,1),(3,1),(4,1),(5,1),(6,1),(7,1)]),(72,[(0,1),(1,1),(2,1),(3,1)]),(74,[(0,1),(1,1),(2,1),(3,1)]),(76,[(0,1),(1,1)]),(78,[(0,1),(1,1),(2,1),(3,1)]),(80,[(0,1),(1,1),(2,1),(3,1)]),(82,[(0,1),(1,1),(2,1),(3,1),(4,1),(5,1)]),(84,[(0,1),(1,1)]),(86,[(0,1),(1,1)]),(88,[(0,1),(1,1),(2,1),(3,1),(4,8),(12,4),(16,5),(21,8),(29,4),(33,4),(37,2),(39,4),(43,4),(47,6),(53,2),(55,2)]),(94,[(0,1),(1,1),(2,1),(3,1),(4,1)]),(112,[(0,1),(1,1)]),(115,[(0,1),(1,1),(2,1),(3,1)]),(117,[(0,1),(1,1),(2,4),(6,1),(7,1)]),(120,[(0,1),(1,1)]),(129,[(0,1),(1,1),(2,1)]),(134,[(0,1),(1,1),(2,1)]),(149,[(0,1),(1,1),(2,1),(3,1)]),(151,[(0,1),(1,1)]),(174,[(0,2),(2,1),(3,1)]),(186,[(0,1),(1,1)]),(190,[(0,1),(1,1),(2,1),(3,1)]),(194,[(0,1),(1,1),(2,1)]),(200,[(0,1),(1,1),(2,1)]),(206,[(0,1),(1,1),(2,1),(3,1)]),(221,[(0,1),(1,1),(2,1)]),(261,[(0,1),(1,1)]),(268,[(0,8)]),(274,[(0,1),(1,1)]),(282,[(0,1),(1,1)]),(284,[(0,1),(1,2)]),(292,[(0,1),(1,1),(2,1),(3,1)]),(318,[(0,4)]),(336,[(0,1)])]
def GV:Fb:={ty:=gM,al:=[(33,(.a [.str [],.q 2 (map Ag.c []),.q 4 (map DO.c []),.q 5 (map AQ.c []),.q 2 (map A'.c []),.q 4 (map Ah.c []),.q 3 (map Aa.c []),.q 4 (map CB.c []),.q 8 (map AZ.enc []),I 0,I 0,I 0,I 0,I 0,I 0,I 0])),(134,(.a [I 0,I 0,.q 3 (map Bo.enc [])])),(94,(.a [.str [],.q 3 (map Bo.enc []),I 0,.q 3 (map Bw.c []),I 0])),(112,(.a [.str [],I 0])),(186,(.a [.str [],I 0])),(190,(.a [.str [],I 0,I 0,.b AD])),(194,(.a [.str [],I 0,I 0])),(151,(.a [I 0,I 0])),(149,(.a [I 0,I 0,I 0,I 0])),(221,(.a [I 0,I 0,I 0])),(206,(.a [I 0,I 0,I 0,I 0])),(3,(I 0)),(196,.nilf),(201,.nilf),(31,(.a [I 0,I 0,I 0,I 0,I 0])),(117,(.a [I 0,I 0,I 0,I 0,I 0,.q 4 (map AP.enc []),.q 8 (map AZ.enc []),.q 8 (map AZ.enc [])])),(115,(.a [I 0,I 0,I 0,.q 4 (map AP.enc [])])),(268,(.a [I 0,I 0,I 0,I 0,I 0,.q 4 (map AP.enc []),.q 8 (map AZ.enc []),.q 8 (map AZ.enc [])])),(318,(.a [I 0,I 0,I 0,.q 4 (map AP.enc [])])),(227,.nilm),(147,.nilm),(40,(.a [I 0,I 0])),(274,(.a [.n,.nilf])),(324,.nilp),(325,.nilp),(326,.nilp),(327,.nilp),(88,(.a [I 0,I 0,I 0,I 0,I 0,I 0,I 0,I 0,I 0,I 0,I 0,I 0,I 0,I 0,I 0,I 0,I 0,I 0,I 0,I 0,I 0,I 0,I 0,I 0,I 0,I 0,I 0,I 0,I 0,I 0,I 0,I 0,I 0,I 0,I 0,I 0,I 0,I 0,I 0,I 0,I 0,I 0,I 0,I 0,I 0,I 0,I 0,I 0,I 0,I 0,I 0,I 0,I 0,I 0,.b AD,I 0,I 0])),(284,(.a [.nilp,I 0,I 0])),(292,(.a [I 0,I 0,.str [],.q 4 (map Value.enc [])])),(337,.nilp),(118,.nilm),(121,.nilf),(125,.nilm),(120,(.a [I 0,I 0])),(55,(.a [I 0,I 0,I 0])),(60,(.a [I 0,.q 3 (map Edge.c [])])),(35,.n),(58,.n),(130,.nilf),(131,.nilf),(68,(.a [I 0,I 0,I 0,I 0,I 0])),(70,(.a [I 0,I 0,I 0,I 0,I 0,I 0,I 0,I 0])),(129,(.a [I 0,I 0,I 0])),(38,(.a [.q 3 (map Bk.c []),.q 1 (map (Qw 1 (Qe .i64)) [])])),(200,(.a [I 0,I 0,I 0])),(64,(.a [I 0,I 0,I 0,I 0,I 0,I 0,I 0,I 0])),(66,(.a [I 0,I 0,I 0,I 0])),(72,(.a [I 0,I 0,I 0,I 0])),(74,(.a [I 0,I 0,I 0,I 0])),(78,(.a [I 0,I 0,I 0,I 0])),(80,(.a [I 0,I 0,I 0,I 0])),(82,(.a [I 0,I 0,I 0,I 0,I 0,I 0]))],sl:=[239,224,90,272,34,35,58]}
def Kd:PC:={sl:=[(91,134,3),(22,112,2),(23,149,4),(24,94,5),(25,186,2),(26,190,4),(27,194,3),(28,206,4),(92,200,3),(239,5,1),(90,3,1),(29,117,8),(113,115,4),(224,265,1),(290,292,4),(58,129,3),(35,55,3),(36,90,1),(228,9,1),(34,88,57)],fn:=[90,223,164,93,91,95,97,99,101,92,94,96,98,100,165,71,37,103,112,171,227,170,108,173,228,172,115,104,102,167,225,166,105,169,226,168,107,106,127,185,126,117,175,229,174,109,177,230,176,120,179,231,178,110,181,232,180,123,111,113,114,59,116,118,119,121,122,125,267,233,182,253,183,254,235,234,124,128,129,61,60,55,56,57,58,62,26,28,27,29,74,237,238,239,240,241,191,142,76,75,141,73,189,256,259,258,257,261,245,201,140,139,144,145,80,79,70,41,40,16,43,44,156,85,209,157,87,46,47,48,17,22,38,36,12,14,15,9,19,20,84,45,83,21,186,130,131,132,133,187,134,236,188,135,136,137,138,63,64,65,66,67,160,216,214,213,211,212,218,217,210,215,219,158,159,161,262,263,264,265,249,248,88,222,221,220,163,89,32,68,39,30,49,54,69,25,50,52,53,23,24,31,13,34,35,4,5,6,7,8,10,11]}
theorem oq:kL prog oP GV Kd=kR prog oP GV Kd:=by kernel_rfl
theorem Iy:IA prog GV:=.ofK oq (by kernel_rfl)
theorem Rk:Kx prog Kd:=.ofK oq (vM (by kernel_rfl))
section
variable {h0 N m n d id t et k f:Nat} {all:Array AM} {o:AM} {l r r' ll:AA AM} {ds:AA Nat} {env env' env0:Env} {H H' H1 X:Qc} {Q:QP} {α:Type} {e:α->AA A} {L:AA α} {kk:IntKind} {i:Int} {v:α} {K:AA AM->Env->Qc->Prop} {xs xs':AA A} {args argsc:AA A} {Hc:Qc} {Hs Hs':AA Qc} {bs:AA Nat} {cat:MK} {k':AA Kf} {c':Cf} {hB hE:Nat} {x:A}
theorem G0{c:Code}(n:Nat)(h:Iv GV h0 N n (.code c) [] env H=AC (c',k',env',H'))(g:Hd prog h0 N c' k' env' H' Q):TC prog h0 N c env H Q:=Z' Iy n h g
theorem Gc{k:AA Kf}{c:Code}(n:Nat)(h:Iv GV h0 N n (.code c) k env H=AC (c',k',env',H'))(g:Hd prog h0 N c' k' env' H' Q):TC prog h0 N c env H (kq prog h0 N k Q):=Z' Iy n h g
theorem Go{k:AA Kf}(n:Nat)(h:Iv GV h0 N n (.ops all l) k env H=AC (c',k',env',H'))(g:Hd prog h0 N c' k' env' H' Q):WO prog h0 N all l env H (kq prog h0 N k Q):=Z' Iy n h g
theorem Gx{k:AA Kf}{x:U4}(n:Nat)(h:Iv GV h0 N n (.out x) k env H=AC (c',k',env',H'))(g:Hd prog h0 N c' k' env' H' Q):kq prog h0 N k Q x env H:=Z' Iy n h g
theorem Cg{β:Type}{E':β->Env}{Hb:β->Qc}{k:AA Kf}{c c2:Code}(b:β)(sel keep:AA Nat)(nE:β->Env)(nH:β->AA (Nat×B8))(hc:∀b,Rd sel keep (nE b) (nH b) env H=AC (E' b,Hb b))(h:TC prog h0 N c env H (RW h0 b E' Hb (kq prog h0 N (.seq c2::k) Q)))(g:TC prog h0 N c2 (E' b) (Hb b) (kq prog h0 N k Q)):TC prog h0 N c env H (kq prog h0 N (.seq c2::k) Q):=Ct b sel keep nE nH hc h λ_ _ e=>Gx 1 rfl (Eg e g)
theorem DF{S B:Type}{b:Bn S B}{E':S->Env}{Hb:S->Qc}{k:AA Kf}{c c2:Code}(sel keep:AA Nat)(nE:S->Env)(nH:S->AA (Nat×B8))(hc:∀s,Rd sel keep (nE s) (nH s) env H=AC (E' s,Hb s))(h:TC prog h0 N c env H (PP h0 b E' Hb (kq prog h0 N (.seq c2::k) Q)))(g:∀s,b=.k s->TC prog h0 N c2 (E' s) (Hb s) (kq prog h0 N k Q)):TC prog h0 N c env H (kq prog h0 N (.seq c2::k) Q):=FI sel keep nE nH hc h λs _ _ q e=>Gx 1 rfl (Eg e (g s q))
theorem Ji{S B S':Type}{b x:Bn S B}{d:Bn S' (Bn S B)}{E':S->Env}{Hb:S->Qc}{s:S}(hb:∀b',d=.d b'->b'=b)(h:AC (Bn.d x)=AC d)(e:x=.k s)(hl:Le h0 env H (E' s) (Hb s)):PP h0 b E' Hb Q .normal env H:=YU ((Oj hb h).symm.trans e) hl
theorem DM{β S':Type}{b x:β}{d:Bn S' β}{E':β->Env}{Hb:β->Qc}(hb:∀b',d=.d b'->b'=b)(h:AC (Bn.d x)=AC d)(hl:Le h0 env H (E' x) (Hb x)):RW h0 b E' Hb Q .normal env H:=by
  cases Oj hb h;exact hl
theorem Gl{β:Type}{e b:β}{E':β->Env}{Hb:β->Qc}{k:AA Kf}(n:Nat)(hm:Iv GV h0 N n (.ops all l) k env H=AC (.out .normal,[],env',H'))(h:AC e=AC b)(π:AA Nat)(hpre:π.take h0=List.range h0:=by rfl)(hH:π.map (λp=>H'[p]?)=((Hb e).map (Q1 (CF π (AI H')))).map some:=by rfl)(hπ:π.Nodup:=by decide)(hE:H9 (CF π (AI H')) env' (E' e):=by(repeat' (first|exact trivial|refine⟨rfl,?_⟩))):WO prog h0 N all l env H (kq prog h0 N k (RW h0 b E' Hb Q)):=Go n hm (Cl h π hpre hH hπ hE)
theorem Gt{β:Type}{e r:β}{w:β->A}{Hb:β->Qc}{fn:Func}{k:AA Kf}(n:Nat)(hm:Iv GV h0 N n (.ops all l) k env H=AC (.out .ret,[],env',H'))(h:AC e=AC r)(a:Nat)(π:AA Nat)(hr:fn.results= #[.tmp a]:=by rfl)(hpre:π.take h0=List.range h0:=by rfl)(hH:π.map (λp=>H'[p]?)=((Hb e).map (Q1 (CF π (AI H')))).map some:=by rfl)(hπ:π.Nodup:=by decide)(hE:H9 (CF π (AI H')) env' [(a,w e)]:=by exact⟨rfl,trivial⟩):WO prog h0 N all l env H (kq prog h0 N k (M2 prog h0 fn (RQ w Hb r))):=Go n hm (Rt h a π hr hpre hH hπ hE)
theorem Yy{β:Type}{e b:β}{E':β->Env}{Hb:β->Qc}{k:AA Kf}{c:Code}(n:Nat)(hm:Iv GV h0 N n (.code c) k env H=AC (.out .normal,[],env',H'))(h:AC e=AC b)(π:AA Nat)(hpre:π.take h0=List.range h0:=by rfl)(hH:π.map (λp=>H'[p]?)=((Hb e).map (Q1 (CF π (AI H')))).map some:=by rfl)(hπ:π.Nodup:=by decide)(hE:H9 (CF π (AI H')) env' (E' e):=by(repeat' (first|exact trivial|refine⟨rfl,?_⟩))):TC prog h0 N c env H (kq prog h0 N k (RW h0 b E' Hb Q)):=Gc n hm (Cl h π hpre hH hπ hE)
theorem QG{β:Type}{e r:β}{w:β->A}{Hb:β->Qc}{fn:Func}{k:AA Kf}{c:Code}(n:Nat)(hm:Iv GV h0 N n (.code c) k env H=AC (.out .ret,[],env',H'))(h:AC e=AC r)(a:Nat)(π:AA Nat)(hr:fn.results= #[.tmp a]:=by rfl)(hpre:π.take h0=List.range h0:=by rfl)(hH:π.map (λp=>H'[p]?)=((Hb e).map (Q1 (CF π (AI H')))).map some:=by rfl)(hπ:π.Nodup:=by decide)(hE:H9 (CF π (AI H')) env' [(a,w e)]:=by exact⟨rfl,trivial⟩):TC prog h0 N c env H (kq prog h0 N k (M2 prog h0 fn (RQ w Hb r))):=Gc n hm (Rt h a π hr hpre hH hπ hE)
theorem Fg{k:AA Kf}{e1:Env}(n:Nat)(h:dO env H=AC (e1,H1))(hm:Iv GV h0 N n (.ops all l) k e1 H1=AC (c',k',env',H'))(g:Hd prog h0 N c' k' env' H' Q):WO prog h0 N all l env H (kq prog h0 N k Q):=FE h (Go n hm g)
@[reducible] def Ks{β:Type}(F:AB β)(f:FuncId)(args:AA A)(H:Qc)(w:β->A):Prop:=Kp prog F f args H w λ_=>H
@[reducible] def Kq{β:Type}(F:AB β)(f:FuncId)(args:AA A)(H:Qc)(w:β->A)(H1:β->Qc):Prop:=Kp prog F f args H w H1
theorem Kg{β:Type}{F:AB β}{f:FuncId}{fn:Func}{c:Code}{w:β->A}{H1:β->Qc}(n:Nat)(hf:prog.funcs[f]?=AC fn)(hb:fn.body=AC c)(hN:fn.ntmps=N)(hA:Nat.ble (AI args) N=AE)(h:Iv GV (AI H) N n (.code c) [] (PS 0 args) H=AC (c',k',env',H'))(g:∀r,F=AC r->Hd prog (AI H) N c' k' env' H' (M2 prog (AI H) fn (RQ w H1 r))):Kp prog F f args H w H1:=Kp.b hf hb hN hA λr e=>G0 n h (g r e)
theorem D(n:Nat)(h:Zw GV N m l ds env H n (AI xs) r xs=AC (r',xs'))(k:DS prog N m l ds env H K r' xs'):DS prog N m l ds env H K r xs:=mg Iy n _ rfl h k
theorem Iz(h:Bt L i=AC v)(q:Tp o env=AC (d,t,k,L.map e,kk,i))(g:WO prog h0 N all l (up env d (.rp (e v))) H Q)(ht:Hw Kd.sl t=AC (et,k):=by rfl)(hg:YX all o env=AC true:=by rfl)(hN:Nat.blt d N=true:=by rfl):WO prog h0 N all (o::l) env H Q:=uP Rk h q g ht hg hN
theorem Fm{cs:AA A}(h:Bt L i=AC v)(he:e v=cs)(q:Tp o env=AC (d,t,k,L.map e,kk,i))(g:WO prog h0 N all l (up env d (.rp cs)) H Q)(ht:Hw Kd.sl t=AC (et,k):=by rfl)(hg:YX all o env=AC true:=by rfl)(hN:Nat.blt d N=true:=by rfl):WO prog h0 N all (o::l) env H Q:=Ize Rk h he q g ht hg hN
theorem Lm{k':Nat}(q:Tj o env=AC (d,t,.mk (.q k (L.map e))))(g:WO prog h0 N all l (up env d (I (AI L))) H Q)(ht:Hw Kd.sl t=AC (et,k'):=by rfl)(hg:YX all o env=AC true:=by rfl)(hN:Nat.blt d N=true:=by rfl):WO prog h0 N all (o::l) env H Q:=Lmz Rk q g ht hg hN
theorem Lg{k:AA Kf}{i k1:Nat}(n:Nat)(q:Tj o env=AC (d,t,.mk (.q i (L.map e))))(hm:Iv GV h0 N n (.ops all l) k (up env d (I (AI L))) H=AC (c',k',env',H'))(g:Hd prog h0 N c' k' env' H' Q)(ht:Hw Kd.sl t=AC (et,k1):=by rfl)(hg:YX all o env=AC true:=by rfl)(hN:Nat.blt d N=true:=by rfl):WO prog h0 N all (o::l) env H (kq prog h0 N k Q):=Lm q (Go n hm g) ht hg hN
theorem Cz{β γ:Type}{F:AB β}{F':β->AB γ}{r:γ}{w:β->A}(π:AA Nat)(h:F.bind F'=AC r)(hC:∀v,F=AC v->C prog f argsc Hc (RQ w (λ_=>Hc) v))(hop:L' Kd o env=AC (d,f,args))(g:∀v,F=AC v->F' v=AC r->WO prog h0 N all l (up env d (w v)) H Q)(hv:∀v,Tv (w v)=AC (.mk (w v)):=by exact λ_=>rfl)(hargs:args=Fd (CF π (AI H)) argsc:=by rfl)(hH:π.map (λp=>H[p]?)=(Hc.map (Q1 (CF π (AI H)))).map some:=by rfl)(hπ:π.Nodup:=by decide)(hg:YX all o env=AC true:=by rfl)(hN:Nat.blt d N=true:=by rfl)(hh:Nat.ble h0 (AI H)=true:=by rfl):WO prog h0 N all (o::l) env H Q:=Czz Rk π h hC hop g hv hargs hH hπ hg hN hh
theorem Cb{β γ:Type}{F:AB β}{F':β->AB γ}{r:γ}{w:β->A}(h:F.bind F'=AC r)(hC:∀v,F=AC v->C prog f argsc [] (RQ w Ze v))(hop:L' Kd o env=AC (d,f,args))(hL:HW H args argsc)(g:∀v,F=AC v->F' v=AC r->WO prog h0 N all l (up env d (w v)) H Q)(hv:∀v,Yu (w v)=true:=by exact λ_=>rfl)(hg:YX all o env=AC true:=by rfl)(hN:Nat.blt d N=true:=by rfl):WO prog h0 N all (o::l) env H Q:=Cbz Rk h hC hop hL g hv hg hN
theorem Dz{β γ:Type}{F:AB β}{F':β->AB γ}{r:γ}{w:β->A}(π:AA Nat)(h:F.bind F'=AC r)(hC:∀v,F=AC v->C prog f argsc Hc (RQ w (λ_=>Hc) v))(hop:L' Kd o (Yc (Qh o) 0 ds xs env)=AC (d,f,args))(g:∀v,F=AC v->F' v=AC r->DS prog N m ll ds env H K l (xs++[w v]))(hv:∀v,Tv (w v)=AC (.mk (w v)):=by exact λ_=>rfl)(hargs:args=Fd (CF π (AI H)) argsc:=by rfl)(hH:π.map (λp=>H[p]?)=(Hc.map (Q1 (CF π (AI H)))).map some:=by rfl)(hπ:π.Nodup:=by decide)(hg:YX ll.toArray o (Yc (Qh o) 0 ds xs env)=AC true:=by rfl)(hN:Nat.blt d N=true:=by rfl)(hx:Nat.blt (AI xs) m=true:=by rfl):DS prog N m ll ds env H K (o::l) xs:=DzZ Rk π h hC hop g hv hargs hH hπ hg hN hx
theorem C5(m:Nat)(hc:Go.Sw.draw0 l m N (J0 m 0 l)=AE)(h:DS prog N m l (J0 m 0 l) env H (λr e H=>WO prog h0 N l.toArray r e H Q) l [])(h0B:Nat.ble h0 (AI H)=true:=by rfl):TC prog h0 N (.region id l.toArray AE) env H Q:=xD (k:=[]) m DL hc h0B h
theorem Da{cat:AA Nat}(n:Nat)(h:Zv GV N m cat l ds env H n (AI xs) r xs=AC (r',xs'))(k:DA prog N m cat l ds env H K r' xs'):DA prog N m cat l ds env H K r xs:=mf Iy n _ rfl h k
theorem Db{cat:AA Nat}(n:Nat)(h:Rh GV N cat l ds env H1 n (AI xs) r xs=AC (r',xs'))(k:DB prog N m cat l ds env H H1 K r' xs'):DB prog N m cat l ds env H H1 K r xs:=aS Iy n _ rfl h k
theorem Dk(k:Nat){B:AA (Nat×AB B8)}(h:Ri GV N m cat l ds env n B.isEmpty k (AI xs) (AI Hs) Hs X r xs=AC (Hs',r',xs'))(g:DK prog N m bs cat l ds env n K B Hs' X r' xs'):DK prog N m bs cat l ds env n K B Hs X r xs:=aT Iy (λh=>List.isEmpty_iff.1 h) k _ _ rfl rfl h g
theorem c_(m:Nat)(bs:AA Nat)(cat:MK)(hc:G4 l m N (J0 m 0 l) (oY cat) (oR bs cat) (dK bs) (O3 cat)=AE)(h:DK prog N m bs cat l (J0 m 0 l) env (AI H) (λr e H=>WO prog h0 N l.toArray r e H Q) [] [] H l [])(hcl:Nat.beq (AI cat) m=true:=by rfl)(h0B:Nat.ble h0 (AI H)=true:=by rfl):TC prog h0 N (.region id l.toArray AE) env H Q:=xC m bs cat DL hc hcl h0B h
theorem uR{B:AA (Nat×AB B8)}{lo hi b:Nat}(h:Zl GV o (Yc (Qh o) 0 ds xs env) x (AI Hs+1-lo) (X::Hs))(k:DK prog N m bs cat l ds env n K ((b,X[b]?)::B) Hs X r (xs++[x]))(hc:YW cat (AI xs)=AC (0,lo,hi):=by rfl)(hl:dx o (Yc (Qh o) 0 ds xs env)=AC b:=by rfl)(hd:o.dst=AC d:=by rfl)(hlo:Nat.ble lo (AI Hs)=true:=by rfl)(hhi:Nat.ble hi (AI bs)=true:=by rfl)(hg:YX ⟨l⟩ o (Yc (Qh o) 0 ds xs env)=AC true:=by rfl)(hN:Nat.blt d N=true:=by rfl):DK prog N m bs cat l ds env n K B Hs X (o::r) xs:=v_ Iy hl h k hc hd hlo hhi hg hN
theorem KN(m b:Nat)(cat:AA Nat)(hc:G4 l m N (J0 m 0 l) (oZ cat) (oS b cat) [[],[b]] (O4 cat)=AE)(h:DA prog N m cat l (J0 m 0 l) env H (λr e H=>WO prog h0 N l.toArray r e H Q) l [])(hcl:Nat.beq (AI cat) m=true:=by rfl)(h0B:Nat.ble h0 (AI H)=true:=by rfl):TC prog h0 N (.region id l.toArray AE) env H Q:=xB m b cat DL hc hcl h0B h
theorem Cd{β γ:Type}{F:AB β}{F':β->AB γ}{r:γ}{w:β->A}{Hr:β->Qc}(π:AA Nat)(h:F.bind F'=AC r)(hC:∀v,F=AC v->C prog f argsc Hc (RQ w Hr v))(hop:L' Kd o env=AC (d,f,args))(g:∀v,F=AC v->F' v=AC r->WO prog h0 N all l (up env d (Y6 (CF π (AI H)) (w v))) (Yj H π ((Hr v).map (Q1 (CF π (AI H))))) Q)(hargs:args=Fd (CF π (AI H)) argsc:=by rfl)(hH:π.map (λp=>H[p]?)=(Hc.map (Q1 (CF π (AI H)))).map some:=by rfl)(hπ:π.Nodup:=by decide)(hg:YX all o env=AC true:=by rfl)(hN:Nat.blt d N=true:=by rfl)(hh:Nat.ble h0 (AI H)=true:=by rfl):WO prog h0 N all (o::l) env H Q:=Cdz Rk π h hC hop g hargs hH hπ hg hN hh
theorem v0{i:Nat}(hx:xs[i]?=AC x)(h:dV gM N l ds xs env0 H i=AC x):JB prog N l ds xs env0 hB hE i H H:=vQ Iy.ty hx h
theorem ov{i c:Nat}(k:Oq prog N l ds xs env0 H (i+1) c)(hx:xs[i]?=AC x:=by rfl)(h:dV gM N l ds xs env0 H i=AC x:=by rfl):Oq prog N l ds xs env0 H i (c+1):=.c (vQ Iy.ty hx h) k
end
theorem ni{T:Type}{X:FS T}{st:HE T}{h0 N:Nat}{c:Code}{c':Cf}{k':AA Kf}{env env':Env}{H H':Qc}{Q:YV T}(n:Nat)(h:Tt GV h0 N n (.code c) [] env H=AC (c',k',env',H'))(g:R6 X prog h0 N c' k' env' H' st Q):Cs X prog h0 N c env H st Q:=e_ Iy n h g
theorem uQ{T:Type}{X:FS T}{st:HE T}{h0 N:Nat}{k:AA Kf}{all:Array AM}{l:AA AM}{c':Cf}{k':AA Kf}{env env':Env}{H H':Qc}{Q:YV T}(n:Nat)(h:Tt GV h0 N n (.ops all l) k env H=AC (c',k',env',H'))(g:R6 X prog h0 N c' k' env' H' st Q):F8 X prog h0 N all l env H st (MY X prog h0 N k Q):=e_ Iy n h g
theorem K1{T:Type}{X:FS T}{st:HE T}{h0 N:Nat}{k:AA Kf}{x:U4}{c':Cf}{k':AA Kf}{env env':Env}{H H':Qc}{Q:YV T}(n:Nat)(h:Tt GV h0 N n (.out x) k env H=AC (c',k',env',H'))(g:R6 X prog h0 N c' k' env' H' st Q):MY X prog h0 N k Q x env H st:=e_ Iy n h g
def Dt:Go.Shelf.Ren:=⟨λ|144=>224|143=>252|219=>266|217=>268|225=>269|224=>270|267=>271|266=>272|314=>273|n=>n,λ|9=>9|4=>4|3=>3|5=>5|46=>169|146=>299|51=>251|n=>n,λ|1=>11|n=>n⟩
theorem Qec:Go.Proofs.Lays.n144 prog Dt:=by
  constructor<;>first|kernel_rfl|(intro;kernel_rfl)|exact lX (by kernel_rfl) (by kernel_rfl)
def FY:Go.Shelf.Ren:=⟨λ|6=>77|15=>82|14=>143|28=>154|29=>155|20=>193|21=>194|22=>195|23=>196|24=>197|25=>198|26=>199|27=>200|46=>242|47=>204|48=>205|49=>243|50=>244|57=>255|n=>n,λ|22=>34|24=>88|25=>164|3=>3|39=>169|0=>0|53=>251|55=>253|4=>4|46=>245|45=>244|50=>126|5=>5|9=>9|66=>294|70=>278|76=>339|77=>135|n=>n,λ|n=>n⟩
theorem Qh7:Go.Proofs.SlLaysF0.n6 prog FY:=by
  constructor<;>first|kernel_rfl|(intro;kernel_rfl)|exact lX (by kernel_rfl) (by kernel_rfl)
def FZ:Go.Shelf.Ren:=⟨λ|6=>42|15=>82|14=>81|28=>154|29=>155|20=>146|21=>147|22=>148|23=>149|24=>150|25=>151|26=>152|27=>153|46=>203|47=>204|48=>205|49=>206|50=>207|57=>247|n=>n,λ|22=>35|24=>55|25=>108|3=>3|39=>169|0=>0|53=>251|55=>253|4=>4|46=>245|45=>244|50=>126|5=>5|9=>9|66=>294|70=>278|76=>339|77=>135|n=>n,λ|n=>n⟩
theorem Qh8:Go.Proofs.SlLaysF0.n6 prog FZ:=by
  constructor<;>first|kernel_rfl|(intro;kernel_rfl)|exact lX (by kernel_rfl) (by kernel_rfl)
end Go.Sw
