/- What the functions compute that OutcomeOf reaches, and that their calls refine it (part 7 of 7). -/
import Derived.Test.YtmaeahbcmjpfpaaGreatW23Of6
set_option linter.unusedVariables false
set_option linter.unusedSimpArgs false
set_option maxRecDepth 100000
set_option maxHeartbeats 4000000
namespace Go.Sw
open Option renaming some→AC,bind→AH
open Bool renaming false→AD,true→AE
open Decidable renaming decide→AG
open List renaming length→AI
variable (n:Nat)
open List(map)
open Int(toNat)
open Go.IntKind(i64 u64 u8)
open Go.Proofs Tryz
def OZ(m:CE)(g:AA Int)(q:Int)(d:CK×Int):AB (CJ (CK×Int) CK):=(bif d.2<q then AH (CN g d.2) λh=>AH (CN g (i64.wrap (d.2+1))) λj=>AH (P9 n m h j) λf=>AC (.k ({Lo:=(if i64.wrap (d.1.Lo+f.Bn)<2199023255552 then i64.wrap (d.1.Lo+f.Bn)else 2199023255552),Hi:=(if i64.wrap (d.1.Hi+f.Bs)<2199023255552 then i64.wrap (d.1.Hi+f.Bs)else 2199023255552):CK},i64.wrap (d.2+1)))else AC (.d ({Lo:=d.1.Lo,Hi:=d.1.Hi:CK})))
def Px(f:CE)(g:AA Int)(h:Int)(j:Int):AB CK:=AH (iter (OZ n f g j) n ({Lo:=0,Hi:=0:CK},h):AB CK) λd=>AC ({Lo:=d.Lo,Hi:=d.Hi:CK})
instance _X(f:CE)(g:AA Int)(j:Int)(m:Int):Kq (Px n f g j m) 293 [.a (CE.c f),.q 1 (map eI g),I j,I m] [] (λr=>.a [I r.Lo,I r.Hi]) (λr=>[.c 69 [I r.Lo,I r.Hi]]):=by
 exact Kg 0 func293 Z Z Z Z λr h=>by
  have:=hn 30501 [1,2] [8,9] (λ(_:CK)=>[]) (λq=>[(1,.w (.c 69 (CK.c q)))]);have:=hl 30501 [0,1,2] [1,3,4,8,9] (λ(d:CK×Int)=>[(10,I d.2)]) (λd=>[(2,.w (.c 69 (CK.c d.1)))]);have:=hx 5 12 1 3 [AD,AD,AD,AD,AD,AD,AD,AD,AD,AD,AE,AE] [[],[],[],[],[],[],[],[],[],[],[],[]] [[],[10],[11],[10,11]] [[(0,0),(2,2)],[(0,0),(2,2)],[(0,0),(2,2)],[(0,0),(2,2)],[(0,0),(2,2)],[(0,0),(2,2)],[(0,0),(2,2)],[(0,0),(2,2)],[(0,0),(2,2)],[(0,0),(2,2)],[(0,1),(2,3)],[(0,2),(1,3)]];exact bu h
def PU(j:CE)(m:Int)(q:Int)(g:Int)(h:Int):AB (CK×Int):=AH (HJ n j m q) λd=>(bif (d.2 != 0)then AC ({Lo:=0,Hi:=0:CK},d.2)else AH ((bif g<0 then AC AE else(bif h<g then AC AE else AC (AG ((AI d.1:Int)<=h)))):AB Bool) λt=>(bif t then AC ({Lo:=0,Hi:=0:CK},90)else AH (Px n j d.1 g h) λf=>AC ({Lo:=f.Lo,Hi:=f.Hi:CK},0)))
instance z9(d:CE)(f:Int)(g:Int)(j:Int)(m:Int):Kq (PU n d f g j m) 194 [.a (CE.c d),I f,I g,I j,I m] [] (λr=>.t [.a [I r.1.Lo,I r.1.Hi],I r.2]) (λr=>[.c 69 [I r.1.Lo,I r.1.Hi]]):=by
 exact Kg 0 func194 Z Z Z Z λr h=>by
  have:=hn 40100 [0,1,2] [3,4,5,10,12] (λ(q:Bool)=>[(37,.b q)]) Ze;exact bu h
def MO(j:CE)(m:AP)(q:Int)(t:(AA Int)×Int)(f:(AA (AA CK))×Int)(d:(AA CK)×Int):AB (CJ ((AA CK)×Int) (AA CK)):=(bif d.2<(AI t.1:Int) then AH (PU n j m.AN q (if d.2<f.2 then d.2 else f.2) (if f.2<d.2 then d.2 else f.2)) λg=>AH (app d.1 [{Lo:=g.1.Lo,Hi:=g.1.Hi:CK}]) λh=>AC (.k (h,i64.wrap (d.2+1)))else AC (.d d.1))
def Od(j:CE)(m:AP)(q:Int)(f:(AA Int)×Int)(d:(AA (AA CK))×Int):AB (CJ ((AA (AA CK))×Int) (AA (AA CK))):=(bif d.2<(AI f.1:Int) then AH (iter (MO n j m q f d) n (([]:AA CK),0):AB (AA CK)) λg=>AH (app d.1 [g]) λh=>AC (.k (h,i64.wrap (d.2+1)))else AC (.d d.1))
def NL(d:CE)(m:CG)(f:AP)(g:Int)(q:AA CQ)(t:AA AY):AB ((AA Int)×(AA (AA CK))):=AH (HJ n d f.AN g) λh=>AH (iter (Od n d f g h) n ([],0):AB (AA (AA CK))) λj=>AC (h.1,j)
instance cZ(d:CE)(x:CG)(L:AP)(M:Int)(y:AA CQ)(B:AA AY):Kq (NL n d x L M y B) 109 [.a (CE.c d),.a (CG.c x),.a (AP.c L),I M,.q 5 (map CQ.c y),.q 4 (map AY.c B)] [] (λr=>.a [.str d.Ar,.q 2 (map Af.c d.An),.q 4 (map C2.c d.As),.q 5 (map AN.c d.AO),.q 2 (map Aw.c d.Ax),.q 4 (map Ag.c d.Ah),.q 3 (map AZ.c d.Ac),.q 4 (map Cc.c d.A3),.q 8 (map AX.enc d.BZ),I d.AT.BK,I d.AT.BF,I d.AT.BH,I d.AT.A0,I d.AT.Ba,I d.B7,I d.BL,.q 3 (map CF.c x.AQ),.q 1 (map (QC 1 eI) x.BE),.q 5 (map CQ.c y),.q 4 (map AY.c B),.o 0 (AI r.1) 1,.o 1 (AI r.2) 1]) (λr=>[.r 3 1 (map eI r.1),.r 114 1 (map (QC 2 CK.c) r.2),.c 233 [.str d.Ar,.q 2 (map Af.c d.An),.q 4 (map C2.c d.As),.q 5 (map AN.c d.AO),.q 2 (map Aw.c d.Ax),.q 4 (map Ag.c d.Ah),.q 3 (map AZ.c d.Ac),.q 4 (map Cc.c d.A3),.q 8 (map AX.enc d.BZ),I d.AT.BK,I d.AT.BF,I d.AT.BH,I d.AT.A0,I d.AT.Ba,I d.B7,I d.BL,.q 3 (map CF.c x.AQ),.q 1 (map (QC 1 eI) x.BE),.q 5 (map CQ.c y),.q 4 (map AY.c B),.o 0 (AI r.1) 1,.o 1 (AI r.2) 1]]):=by
 have:=hl 40902 [0,2,3,4,5,0] [3,6,8,12,13] (λ(f:(AA (AA CK))×Int)=>[(14,I f.2)]) (λf=>[(3,.c [(21,.o 5 (AI f.1) 1)]),(5,.w (.r 114 1 (map (QC 2 CK.c) f.1)))]);have:=hn 80401 [0,1,2,3,4,5,6] [3,6,8,12,13,14] (λ(j:AA CK)=>[(15,.o 6 (AI j) 2)]) (λj=>[(6,.w (.r 69 2 (map CK.c j)))]);have:=hl 80401 [0,1,2,3,4,5,6] [3,6,8,12,13,14] (λ(g:(AA CK)×Int)=>[(15,.o 6 (AI g.1) 2),(16,I g.2)]) (λg=>[(6,.w (.r 69 2 (map CK.c g.1)))]);refine Kg 14 func109 Z Z Z Z λr h=>?_;refine vX (.a (CE.c d++(CG.c x++[.q 5 (map CQ.c y),.q 4 (map AY.c B),.q 1 (map eI []),.n]))) (CY.build (zs:=[.str [],.q 2 (map Af.c []),.q 4 (map C2.c []),.q 5 (map AN.c []),.q 2 (map Aw.c []),.q 4 (map Ag.c []),.q 3 (map AZ.c []),.q 4 (map Cc.c []),.q 8 (map AX.enc []),I 0,I 0,I 0,I 0,I 0,I 0,I 0,.q 3 (map CF.c []),.q 1 (map (QC 1 eI) []),.q 5 (map CQ.c []),.q 4 (map AY.c []),.q 1 (map eI []),.n]) zeroValue233 (IN Z) QrQ) ?_;refine vH (fX (v:=(.a [.str [],.q 2 (map Af.c []),.q 4 (map C2.c []),.q 5 (map AN.c []),.q 2 (map Aw.c []),.q 4 (map Ag.c []),.q 3 (map AZ.c []),.q 4 (map Cc.c []),.q 8 (map AX.enc []),I 0,I 0,I 0,I 0,I 0,I 0,I 0,.q 3 (map CF.c []),.q 1 (map (QC 1 eI) []),.q 5 (map CQ.c []),.q 4 (map AY.c []),.q 1 (map eI []),.n])) zeroValue233 (IN Z)) ?_;refine Fg 9 Z Z (Cd [] h (lj _ _ _ _).c Z λF Q h=>Fg 13 Z Z (Bd h λE N h=>Cg E [2,3,4,5] [] (λ_=>[(12,.p 0 0),(13,.p 1 0)]) (λE=>[(0,.c 233 (CI.cells FD)),(1,.c 233 (CE.c d++(CG.c x++[.q 5 (map CQ.c y),.q 4 (map AY.c B),.o 2 (AI F.1) 1,.o 3 (AI E) 1]))),(2,.r 3 1 (map eI F.1)),(3,.r 114 1 (map (QC 2 CK.c) E))]) Zf ?_ ?_))
 .refine G0 1 Z (Lp [0,2,3,4,5,0] [3,6,8,12,13] (λf=>[(14,I f.2)]) (λf=>[(3,.c 233 (CE.c d++(CG.c x++[.q 5 (map CQ.c y),.q 4 (map AY.c B),.o 4 (AI F.1) 1,.o 5 (AI f.1) 1]))),(5,.r 114 1 (map (QC 2 CK.c) f.1))]) N Zf ?_ ?_)
  .refine En (QS (i:=4) (m:=21) (t:=114) (k:=1) Z Z Z) ?_;exact Lr [0,2,3,4,5,6]
  intro f R q G;refine G0 10 Z (Dm Z q (λ_ q=>?_) (λ_ q=>?_))
  .exact FS G q
  refine Gc 6 Z (vH (Ek (xs:=[]) (es:=map CK.c []) Qsm Z Z Z Z Z trivial Z Z) ?_);refine Fg 9 Z Z (Bd q λj O q=>Cg j [0,1,2,3,4,5,6] [3,6,8,12,13,14] (λj=>[(15,.o 6 (AI j) 2)]) (λj=>[(6,.r 69 2 (map CK.c j))]) Zf ?_ ?_)
  .refine G0 1 Z (Lp [0,1,2,3,4,5,6] [3,6,8,12,13,14] (λg=>[(15,.o 6 (AI g.1) 2),(16,I g.2)]) (λg=>[(6,.r 69 2 (map CK.c g.1))]) O Zf (Lr [0,1,2,3,4,5,6]) λg T P J=>?_);exact FS J P
  refine Gc 4 Z ?_;refine Er (Yz 6 [(15,_),(68,_)]) ?_;exact bu q
 exact bu h
def LB(n:Nat)(j:CW)(f:Int)(g:Int)(d:Int):AB (CJ Int (CJ Unit (CJ Unit (CJ Int (CJ Unit Bool))))):=(bif d<f then AH (CN j.Ak d) λh=>(bif (h==g)then AC (.d (.d (.d (.d (.d AD)))))else AC (.k (i64.wrap (d+1))))else AC (.d (.k ())))
def J6(j:CI)(m:CW)(d:Int):AB (CJ Int (CJ Unit Bool)):=(bif d<(AI j.BT:Int) then AH (AH (CN m.Ak d) λf=>(bif (f==(-1))then AC (.k ())else AH ((bif f<0 then AC AE else(bif (AI j.BM:Int)<=f then AC AE else AH (CN j.BM f) λq=>AH (CN j.BT d) λt=>(bif (q.Af != t)then AC AE else AC (AG (m.Ai<d))))):AB Bool) λx=>(bif x then AC (.d (.d (.d AD)))else AH (iter (LB n m d f) n 0:AB (CJ Unit (CJ Unit (CJ Int (CJ Unit Bool))))) λy=>match y with|.k g=>(AC (.k ()))|.d g=>AC g)):AB (CJ Unit (CJ Int (CJ Unit Bool)))) λB=>match B with|.k h=>(AC (.k (i64.wrap (d+1))))|.d h=>AC h else AC (.d (.k ())))
def Ox(n:Nat)(g:CI)(h:CW)(d:Int):AB (CJ Int (CJ Unit Bool)):=(bif d<(AI g.A6:Int) then AH (CN g.A6 d) λf=>(bif h.Ai<f.AS then AC (.d (.d AD))else AC (.k (i64.wrap (d+1))))else AC (.d (.k ())))
def Rz(h:CI)(g:CW):AB Bool:=AH ((bif ((AI g.Ak:Int) != (AI h.BT:Int))then AC AE else(bif g.Ai<(-1) then AC AE else AC (AG ((AI h.BT:Int)<=g.Ai)))):AB Bool) λq=>(bif q then AC AD else AH (iter (J6 n h g) n 0:AB (CJ Unit Bool)) λj=>match j with|.k d=>(AH (iter (Ox n h g) n 0:AB (CJ Unit Bool)) λm=>match m with|.k f=>(AC AE)|.d f=>AC f)|.d d=>AC d)
instance lC(J:CI)(a2:CW):Kb (Rz n J a2) 195 [.a (CI.cells J),.a (CW.c a2)]:=by
 refine Kg 11 func195 Z Z Z Z λr h=>Lg 5 Z Z (Bd h λb3 y h=>Ct b3 [0,1] [2,3,5] (λb3=>[(28,.b b3)]) Ze Zf ?_ (λenv H q=>?_))
 .refine G0 3 Z (Lg 3 Z Z (Is 18 y Z (λ_ y=>?_) (λ_ y=>?_)))
  .exact Gl 11 Z y [0,1]
  .refine Go 5 Z (Is 23 y Z (λ_ y=>?_) (λ_ y=>?_))
   iterate 2 exact Gl 6 Z y [0,1]
 refine Gx 1 Z (Ee q (Cn Z h (λ_ h=>?_) (λ_ h=>?_)))
 .exact Hw 7 Z h 4 []
 refine Gc 8 Z (Bd h λai aj h=>KR (b:=ai) [0,1] [2,3] Ze Ze Zf ?_ (λay env H B q=>?_))
 .refine G0 1 Z (Lp [0,1] [2,3,5] (λL=>[(6,I L)]) Ze aj Zf (Lr [0,1]) λL bc m t=>?_);refine G0 8 Z (Dm Z m (λ_ m=>?_) (λ_ m=>?_))
  .exact Gc 2 Z (Jf m (Gx 1 Z (Zt t m Z (Lr [0,1]))))
  refine Gc 3 Z (Bd m λak d m=>KR (b:=ak) [0,1] [2,3,5,6] Ze Ze Zf ?_ (λaz env H hb q=>?_))
  .refine G0 6 Z (Bd d λbd R d=>Iz R Z (Go 11 Z (Cn Z d (λ_ d=>?_) (λ_ d=>?_))))
   .refine Gc 3 Z ?_;cases d;exact JZ Z (Lr [0,1])
   refine Gc 4 Z (Bd d λE f d=>Ct E [0,1] [2,3,5,6,7] (λE=>[(69,.b E)]) Ze Zf ?_ (λenv H q=>?_))
   .refine G0 0 Z (GX 27 Z (D 3 Z (DS.is 2 f Z Z Z (λ_ f=>?_) (λ_ f=>?_))))
    .exact D 24 Z (Eg Z (Gl 3 Z f [0,1]))
    .refine D 3 Z ?_;refine DS.v (x:=(I (AI J.BM:Int))) (nu (e:=CQ.c) (l:=J.BM) EZ) ?_ (hg:=(gT Z));refine D 3 Z (DS.is 9 f Z Z Z (λ_ f=>?_) (λ_ f=>?_))
     .exact D 17 Z (Eg Z (Gl 3 Z f [0,1]))
     .refine D 3 Z ?_;obtain⟨M,X,f⟩:=Yf f;refine DS.v (x:=(.rp (CQ.c M))) (T5 (e:=CQ.c) (l:=J.BM) (v:=M) X EZ sizeOf122) ?_ (hg:=(gT Z));refine D 5 Z ?_;obtain⟨N,Y,f⟩:=Yf f;refine DS.v (x:=(.rp [I N])) (T5 (e:=eI) (l:=J.BT) (v:=N) Y EA EB) ?_ (hg:=(gT Z));refine D 4 Z (DS.is 23 f Z Z Z (λ_ f=>?_) (λ_ f=>?_))
      iterate 2 exact D 3 Z (Eg Z (Gl 3 Z f [0,1]))
   refine Gx 1 Z (Ee q (Cn Z d (λ_ d=>?_) (λ_ d=>?_)))
   .refine Gc 8 Z ?_;cases d;refine JA (Gx 1 Z (Kt m ?_));obtain rfl:=Oj t m;exact Gx 1 Z (JA (Gx 1 Z (Rt h 4 [])))
   refine Gc 7 Z (Bd d λam an d=>KR (b:=am) [0,1] [2,3,5,6] Ze Ze Zf ?_ (λba env H B q=>?_))
   .refine G0 1 Z (Lp [0,1] [2,3,5,6,7] (λO=>[(8,I O)]) Ze an Zf (Lr [0,1]) λO be g F=>?_);refine G0 8 Z (Dm Z g (λ_ g=>?_) (λ_ g=>?_))
    .exact Gc 2 Z (Jf g (Gx 1 Z (Zt F g Z (Lr [0,1]))))
    refine Gc 9 Z (Bd g λbg ad g=>Iz ad Z (Go 5 Z (Cn Z g (λ_ g=>?_) (λ_ g=>?_))))
    .refine Gc 8 Z (Kt g ?_);obtain rfl:=Oj F g;refine Gx 1 Z (JA (Gx 1 Z ?_));cases d;refine JA (Gx 1 Z (Kt m ?_));obtain rfl:=Oj t m;exact Gx 1 Z (JA (Gx 1 Z (Rt h 4 [])))
    exact Gc 8 Z (JJ g (Lr [0,1]))
   subst B;refine Gx 1 Z ?_;cases d;exact JZ Z (En q (Lr [0,1]))
  subst hb;exact Gx 1 Z (Ee q (Gc 5 Z (JJ m (Lr [0,1]))))
 subst B;refine Gx 1 Z (Ee q (Gc 6 Z (Bd h λao aq h=>Hz (b:=ao) [] [] Ze Ze Zf ?_ (λ_ B=>?_))))
 .refine G0 1 Z (Lp [0,1] [2,3] (λP=>[(9,I P)]) Ze aq Zf (Lr [0,1]) λP bh j G=>?_);refine G0 6 Z (Lg 3 Z Z (Dm Z j (λ_ j=>?_) (λ_ j=>?_)))
  .exact Gc 2 Z (Jf j (Gx 1 Z (Zt G j Z (Lr []))))
  refine Gc 5 Z (GX 8 Z (D 3 Z ?_));obtain⟨ar,ag,j⟩:=Yf j;refine DS.wo (x:=.rp (AY.c ar)) ?_ ?_
  .exact Ix ag Gf Gk Z Wp
  refine D 4 Z (Eg Z (Go 3 Z (Cn Z j (λ_ j=>?_) (λ_ j=>?_))))
  .refine Gc 8 Z (Kt j ?_);obtain rfl:=Oj G j;exact Gx 1 Z (JA (Gx 1 Z (Rt h 4 [])))
  exact Gc 8 Z (JJ j (Lr [0,1]))
 subst B;exact Hw 6 Z h 4 []
def MN(n:Nat)(f:AA Int)(h:Int)(d:Int):AB (CJ Int (CJ Unit Bool)):=(bif d<(AI f:Int) then AH (CN f d) λg=>(bif (g==h)then AC (.d (.d AE))else AC (.k (i64.wrap (d+1))))else AC (.d (.k ())))
def Re(f:AA Int)(g:Int):AB Bool:=AH (iter (MN n f g) n 0:AB (CJ Unit Bool)) λh=>match h with|.k d=>(AC AD)|.d d=>AC d
instance L?(d:AA Int)(f:Int):Kb (Re n d f) 294 [.q 1 (map eI d),I f]:=by
 exact Kg 0 func294 Z Z Z Z λr h=>by
  have:=hn 20402 [] [] (λ(_:Unit)=>[]) Ze;have:=hl 20402 [] [0,1] (λ(g:Int)=>[(5,I g)]) Ze;exact bu h
def PC(h:AA CQ)(j:CW)(d:Int×Int):AB (CJ (Int×Int) Int):=(bif d.2<(AI h:Int) then AH (Re n j.Ak d.2) λf=>AH ((bif (!f)then AC (i64.wrap (d.1+1))else AC d.1):AB Int) λg=>AC (.k (g,i64.wrap (d.2+1)))else AC (.d d.1))
def Rp(f:AA CQ)(g:CW):AB Int:=AH (iter (PC n f g) n (0,0):AB Int) λd=>AC d
instance ku(f:AA CQ)(g:CW):Ki (Rp n f g) 196 [.q 5 (map CQ.c f),.a (CW.c g)]:=by
 exact Kg 0 func196 Z Z Z Z λr h=>by
  have:=hn 30402 [] [] (λ(j:Int)=>[(5,I j)]) Ze;have:=hl 30402 [0] [0,3] (λ(d:Int×Int)=>[(5,I d.1),(6,I d.2)]) Ze;have:=hn 60101 [0] [0,3,6] (λ(m:Int)=>[(5,I m)]) Ze;exact bu h
def MI(n:Nat)(f:CI)(j:Int)(d:Int):AB (CJ Int (CJ Unit (AY×Bool))):=(bif d<(AI f.A6:Int) then AH (CN f.A6 d) λg=>(bif (g.AS==j)then AH (CN f.A6 d) λh=>AC (.d (.d (h,AE)))else AC (.k (i64.wrap (d+1))))else AC (.d (.k ())))
def NE(g:CI)(h:Int):AB (AY×Bool):=AH (iter (MI n g h) n 0:AB (CJ Unit (AY×Bool))) λf=>match f with|.k d=>(AC (Uv,AD))|.d d=>AC d
instance lO(d:CI)(f:Int):Kq (NE n d f) 198 [.a (CI.cells d),I f] [] (λr=>.t [.a (AY.c r.1),.b r.2]) (λr=>[.c 93 (AY.c r.1)]):=by
 exact Kg 0 func198 Z Z Z Z λr h=>by
  have:=hn 20402 [1] [4] (λ(_:Unit)=>[]) Ze;have:=hl 20402 [0,1] [1,2,4] (λ(g:Int)=>[(6,I g)]) Ze;exact bu h
def IL(f:CI)(d:CQ):AB Int:=AH (Hg n f.c d.Af) λg=>(bif g then AC (-1)else AH (He n f.k.AQ d.Af d.Ad) λh=>AC (i64.wrap (h-1)))
instance AAV(d:CI)(f:CQ):Ki (IL n d f) 200 [.a (CI.cells d),.a (CQ.c f)]:=by
 refine Kg 14 func200 Z Z Z Z λr h=>Cz [] h (li _ _ _).c Z λq j h=>Go 2 Z (Cn Z h (λ_ h=>?_) (λ_ h=>?_))
 .exact Hw 7 Z h 4 []
 exact Gc 11 Z (Cz [] h (lh _ _ _ _).c Z λt m h=>Gt 5 Z h 4 [])
def Mj(f:CE)(g:CF)(h:Int):AB (CK×Int):=AH (D2 n f) λj=>(bif (j != 0)then AC ({Lo:=0,Hi:=0:CK},j)else AH (AH (G4 n f g.Af) λm=>(bif (!m)then AC AE else AH (HZ n h) λq=>(bif (!q)then AC AE else AH (HZ n g.A4) λt=>AC (!t))):AB Bool) λx=>(bif x then AC ({Lo:=0,Hi:=0:CK},1)else AH (Kz n f g h) λd=>AC ({Lo:=d.Lo,Hi:=d.Hi:CK},0)))
instance S?(d:CE)(f:CF)(g:Int):Kq (Mj n d f g) 295 [.a (CE.c d),.a (CF.c f),I g] [] (λr=>.t [.a [I r.1.Lo,I r.1.Hi],I r.2]) (λr=>[.c 69 [I r.1.Lo,I r.1.Hi]]):=by
 exact Kg 0 func295 Z Z Z Z λr h=>by
  have:=hn 40100 [0,1,2] [2,3,4,6] (λ(j:Bool)=>[(30,.b j)]) Ze;exact bu h
def Mz(f:CI)(d:CQ):AB CK:=AH (IL n f d) λm=>AH ((bif 0<=m then AH (IL n f d) λq=>AH (CN f.k.AQ q) λt=>AC t else AC ({Af:=d.Af,Ad:=d.Ad,A4:=0:CF})):AB CF) λg=>AH (Mj n f.c g d.BD) λh=>AH (Mj n f.c g d.Ai) λj=>AC ({Lo:=i64.wrap (d.BD+h.1.Lo),Hi:=i64.wrap (d.Ai+j.1.Hi):CK})
instance i?(d:CI)(f:CQ):Kq (Mz n d f) 202 [.a (CI.cells d),.a (CQ.c f)] [] (λr=>.a [I r.Lo,I r.Hi]) (λr=>[.c 69 [I r.Lo,I r.Hi]]):=by
 exact Kg 0 func202 Z Z Z Z λr h=>by
  have:=hn 30101 [0,1,2,3] [2,3,4,5] (λ(_:CF)=>[]) (λg=>[(3,.w (.c 201 (CF.c g)))]);exact bu h
def IM(d:CI)(h:CW)(f:Int):AB (Int×CK×Bool):=AH (NE n d f) λg=>(bif g.2 then AC ((-1),{Lo:=g.1.Lo,Hi:=g.1.Hi:CK},AE)else AH (CN h.Ak f) λq=>(bif q<0 then AC ((-1),{Lo:=0,Hi:=0:CK},AD)else AH (CN h.Ak f) λt=>AH (CN d.BM t) λj=>AH (IL n d j) λx=>AH (Mz n d j) λm=>AC (x,{Lo:=m.Lo,Hi:=m.Hi:CK},AE)))
instance c6(d:CI)(f:CW)(g:Int):Kq (IM n d f g) 113 [.a (CI.cells d),.a (CW.c f),I g] [] (λr=>.t [I r.1,.a [I r.2.1.Lo,I r.2.1.Hi],.b r.2.2]) (λr=>[.c 69 [I r.2.1.Lo,I r.2.1.Hi]]):=by
 exact Kg 0 func113 Z Z Z Z λr h=>by
  have:=hk 6 10 [9] [(0,0,1),(0,0,1),(0,0,1),(0,0,1),(0,0,1),(0,0,1),(0,0,1),(0,0,1),(0,0,1),(1,0,0)];have:=hx 6 10 0 2 [AD,AD,AD,AD,AD,AD,AD,AD,AD,AE] [[],[],[],[],[],[],[],[],[],[]] [[],[9]] [[(0,0),(1,1)],[(0,0),(1,1)],[(0,0),(1,1)],[(0,0),(1,1)],[(0,0),(1,1)],[(0,0),(1,1)],[(0,0),(1,1)],[(0,0),(1,1)],[(0,0),(1,1)],[(0,1)]];exact bu h
def LH(g:CE)(h:CG)(f:Int)(d:CK):AB (CK×Int):=AH (D2 n g) λm=>AH ((bif (m==0)then AH (LF n h) λM=>AC M else AC m):AB Int) λq=>(bif (q != 0)then AC ({Lo:=0,Hi:=0:CK},q)else AH ((bif f<(-1) then AC AE else(bif (AI h.AQ:Int)<=f then AC AE else AH (HZ n d.Lo) λt=>(bif (!t)then AC AE else AH (HZ n d.Hi) λx=>(bif (!x)then AC AE else AC (AG (d.Hi<d.Lo)))))):AB Bool) λy=>(bif y then AC ({Lo:=0,Hi:=0:CK},1)else(bif (f==(-1))then AC ({Lo:=d.Lo,Hi:=i64.wrap (d.Hi+g.AT.A0):CK},0)else AH (CN h.AQ f) λj=>AH (G4 n g j.Af) λB=>(bif (!B)then AC ({Lo:=0,Hi:=0:CK},1)else AH (Kz n g j d.Lo) λE=>AH (CN h.BE (i64.wrap (f+1))) λF=>AH (CN F 0) λG=>AH (Kz n g j d.Hi) λH=>AH (CN h.BE 0) λJ=>AH (CN J (i64.wrap (f+1))) λL=>AC ({Lo:=i64.wrap ((i64.wrap (d.Lo+E.Lo))-G),Hi:=i64.wrap ((i64.wrap (d.Hi+H.Hi))+L):CK},0)))))
instance q?(f:CE)(g:CG)(j:Int)(d:CK):Kq (LH n f g j d) 199 [.a (CE.c f),.a (CG.c g),I j,.a [I d.Lo,I d.Hi]] [] (λr=>.t [.a [I r.1.Lo,I r.1.Hi],I r.2]) (λr=>[.c 69 [I r.1.Lo,I r.1.Hi]]):=by
 exact Kg 0 func199 Z Z Z Z λr h=>by
  have:=hn 30101 [0,1,2,3] [2,4,5,7,8] (λ(q:Int)=>[(10,I q)]) Ze;have:=hn 60100 [0,1,2,3] [2,4,5,7,8] (λ(m:Bool)=>[(50,.b m)]) Ze;have:=hk 14 34 [6,23] [(0,0,2),(0,0,2),(0,0,0),(0,0,0),(0,0,0),(0,0,0),(1,0,0),(0,1,2),(0,1,2),(0,0,2),(0,0,2),(0,0,2),(0,0,2),(0,0,2),(0,0,2),(0,0,2),(0,1,2),(0,0,2),(0,0,2),(0,0,1),(0,0,1),(0,0,1),(0,0,1),(1,1,0),(0,2,2),(0,2,2),(0,0,2),(0,0,2),(0,0,2),(0,0,2),(0,0,2),(0,0,2),(0,0,2),(0,2,2)];have:=hx 14 34 0 6 [AD,AD,AD,AD,AD,AD,AE,AD,AD,AD,AD,AD,AD,AD,AD,AD,AD,AD,AD,AD,AD,AD,AD,AE,AD,AD,AD,AD,AD,AD,AD,AD,AD,AD] [[],[],[],[],[],[],[],[6],[6],[],[],[],[],[],[],[],[6],[],[],[],[],[],[],[6],[6,23],[6,23],[],[],[],[],[],[],[],[6,23]] [[],[6],[6,23]] [[(0,0),(1,1),(2,2)],[(0,0),(1,1),(2,2)],[(0,0)],[(0,0)],[(0,0)],[(0,0)],[(0,1)],[(1,1),(2,2)],[(1,1),(2,2)],[(0,0),(1,1),(2,2)],[(0,0),(1,1),(2,2)],[(0,0),(1,1),(2,2)],[(0,0),(1,1),(2,2)],[(0,0),(1,1),(2,2)],[(0,0),(1,1),(2,2)],[(0,0),(1,1),(2,2)],[(1,1),(2,2)],[(0,0),(1,1),(2,2)],[(0,0),(1,1),(2,2)],[(0,0),(1,1)],[(0,0),(1,1)],[(0,0),(1,1)],[(0,0),(1,1)],[(1,2)],[(2,2)],[(2,2)],[(0,0),(1,1),(2,2)],[(0,0),(1,1),(2,2)],[(0,0),(1,1),(2,2)],[(0,0),(1,1),(2,2)],[(0,0),(1,1),(2,2)],[(0,0),(1,1),(2,2)],[(0,0),(1,1),(2,2)],[(2,2)]];exact bu h
def NM(n:Nat)(d:CK)(f:CK):AB Unit:=AC ()
instance cm(d:CK)(f:CK):Ks (NM n d f) 197 [.a [I d.Lo,I d.Hi],.a [I f.Lo,I f.Hi]] [] (λ_=>.b (AG ((if d.Lo<f.Lo then f.Lo else d.Lo)<=(if f.Hi<d.Hi then f.Hi else d.Hi)))):=by
 refine Kg 13 func197 Z Z Z Z λr h=>?_;refine vX (I (if d.Lo<f.Lo then f.Lo else d.Lo)) (CY.max Z Z Z Z) ?_;refine Go 4 Z ?_;refine vX (I (if f.Hi<d.Hi then f.Hi else d.Hi)) (CY.min Z Z Z Z) ?_;exact Gt 5 Z h 4 []
def IE(t:CI)(G:CW)(d:Int×Int×Int):AB (CJ (Int×Int×Int) (CJ Unit Bool)):=(bif d.2.2<=G.Ai then AH (AH (IM n t G d.2.2) λf=>(bif (!f.2.2)then(bif t.c.AT.BK<(i64.wrap (d.1+1)) then AC (.d (.d (.d AD)))else AC (.k (i64.wrap (d.1+1),d.2.1)))else AH ((bif 0<=d.2.1 then AH (IM n t G d.2.1) λg=>AH (CN t.k.BE (i64.wrap (f.1+1))) λH=>AH (CN H (i64.wrap (g.1+1))) λx=>AH (CN t.k.BE (i64.wrap (g.1+1))) λJ=>AH (CN J (i64.wrap (f.1+1))) λy=>AH (CN t.BY d.2.1) λL=>AH (CN L d.2.2) λj=>AH (NM n ({Lo:=i64.wrap ((i64.wrap (f.2.1.Lo-g.2.1.Hi))-x),Hi:=i64.wrap ((i64.wrap (f.2.1.Hi-g.2.1.Lo))+y):CK}) ({Lo:=j.Lo,Hi:=j.Hi:CK})) λV=>(bif (!(AG ((if(i64.wrap ((i64.wrap (f.2.1.Lo-g.2.1.Hi))-x))<j.Lo then j.Lo else(i64.wrap ((i64.wrap (f.2.1.Lo-g.2.1.Hi))-x)))<=(if j.Hi<(i64.wrap ((i64.wrap (f.2.1.Hi-g.2.1.Lo))+y))then j.Hi else(i64.wrap ((i64.wrap (f.2.1.Hi-g.2.1.Lo))+y))))))then AC (.d (.d (.d (.d AD))))else AC (.k ()))else AC (.k ())):AB (CJ Unit (CJ (Int×Int) (CJ (Int×Int×Int) (CJ Unit Bool))))) λM=>match M with|.k E=>(AH (NE n t d.2.2) λh=>AH ((bif h.2 then AH (CN G.Ak d.2.2) λN=>AC (AG (0<=N))else AC AD):AB Bool) λO=>AH ((bif O then AH (CN G.Ak d.2.2) λP=>AH (CN t.BM P) λB=>AH (IL n t B) λQ=>AH (LH n t.c t.k Q ({Lo:=B.BD,Hi:=B.Ai:CK})) λm=>AH (NM n ({Lo:=m.1.Lo,Hi:=m.1.Hi:CK}) ({Lo:=h.1.Lo,Hi:=h.1.Hi:CK})) λW=>(bif (!(AG ((if m.1.Lo<h.1.Lo then h.1.Lo else m.1.Lo)<=(if h.1.Hi<m.1.Hi then h.1.Hi else m.1.Hi))))then AC (.d (.d (.d (.d AD))))else AC (.k ()))else AC (.k ())):AB (CJ Unit (CJ (Int×Int) (CJ (Int×Int×Int) (CJ Unit Bool))))) λR=>match R with|.k F=>(AC (.k (0,d.2.2)))|.d F=>AC F)|.d E=>AC E):AB (CJ (Int×Int) (CJ (Int×Int×Int) (CJ Unit Bool)))) λT=>match T with|.k q=>(AC (.k (q.1,q.2,i64.wrap (d.2.2+1))))|.d q=>AC q else AC (.d (.k ())))
def Rj(f:CI)(g:CW):AB Bool:=AH (AH (Rz n f g) λj=>(bif (!j)then AC AE else AH (Rp n f.BM g) λm=>AC (AG (f.c.AT.BF<m))):AB Bool) λq=>(bif q then AC AD else AH (iter (IE n f g) n (0,(-1),0):AB (CJ Unit Bool)) λh=>match h with|.k d=>(AC AE)|.d d=>AC d)
instance kj(a1:CI)(a2:CW):Kb (Rj n a1 a2) 110 [.a (CI.cells a1),.a (CW.c a2)]:=by
 refine Kg 9 func110 Z Z Z Z λr h=>Bd h λb4 y h=>Ct b4 [0,1] [2,3] (λb4=>[(34,.b b4)]) Ze Zf ?_ (λenv H t=>?_)
 .refine G0 0 Z (GX 13 Z (D 2 Z ?_));refine Dz [] y (lC _ _ _).c Z λr6 bs y=>D 2 Z (DS.is 4 y Z Z Z (λ_ y=>?_) (λ_ y=>?_))
  .exact D 8 Z (Eg Z (Gl 3 Z y [0,1]))
  .refine D 3 Z ?_;exact Dz [] y (ku _ _ _).c Z λr8 bv y=>D 4 Z (Eg Z (Gl 3 Z y [0,1]))
 refine Gx 1 Z (Ee t (Cn Z h (λ_ h=>?_) (λ_ h=>?_)))
 .exact Hw 7 Z h 4 []
 refine Gc 18 Z (Bd h λaf ag h=>Hz (b:=af) [] [] Ze Ze Zf ?_ (λ_ aq=>?_))
 .refine G0 1 Z (Lp [0,1] [2,3] (λB=>[(5,I B.1),(6,I B.2.1),(7,I B.2.2)]) Ze ag Zf (Lr [0,1]) λB bc j q=>?_);refine G0 9 Z (Dm Z j (λ_ j=>?_) (λ_ j=>?_))
  .exact Gc 2 Z (Jf j (Gx 1 Z (Zt q j Z (Lr []))))
  refine Gc 3 Z (Bd j λah f j=>Hz (b:=ah) [0,1] [2,3,7] (λE=>[(5,I E.1),(6,I E.2)]) Ze Zf ?_ (λE hb=>?_))
  .refine G0 6 Z (Cd [] f (c6 _ _ _ _).c Z λbd av f=>Fg 17 Z Z (Cn Z f (λ_ f=>?_) (λ_ f=>?_)))
   .refine Gc 18 Z (Cn Z f (λ_ f=>?_) (λ_ f=>?_))
    .refine Gc 9 Z ?_;cases f;refine JA (Gx 1 Z (Kt j ?_));obtain rfl:=Oj q j;exact Gx 1 Z (JA (Gx 1 Z (Rt h 4 [])))
    refine Gc 5 Z ?_;cases f;exact JZ Z (Lr [0,1])
   refine Gc 14 Z (Bd f λai d f=>KR (b:=ai) [0,1] [2,3,5,7] Ze Ze Zf ?_ (λaw env H hb t=>?_))
   .refine G0 0 Z (Cn Z d (λ_ d=>?_) (λ_ d=>?_))
    .refine Gc 5 Z (Cd [] d (c6 _ _ _ _).c Z λbe ax d=>Fg 11 Z Z ?_);obtain⟨bg,N,d⟩:=Yf d;obtain⟨bh,O,d⟩:=Yf d;obtain⟨bi,P,d⟩:=Yf d;obtain⟨bj,Q,d⟩:=Yf d;have hx4:=N;have hx3:=O;have hx2:=P;have hx1:=Q;have hxh:=hx 16 36 0 0 [AD,AD,AD,AD,AD,AD,AD,AD,AD,AD,AD,AD,AD,AD,AD,AD,AD,AD,AD,AD,AD,AD,AD,AD,AD,AD,AD,AD,AD,AD,AD,AD,AD,AD,AD,AE] [[],[],[],[],[],[],[],[],[],[],[],[],[],[],[],[],[],[],[],[],[],[],[],[],[],[],[],[],[],[],[],[],[],[],[],[]] [[],[35]] [[(0,0),(1,1)],[(0,0),(1,1)],[(0,0),(1,1)],[(0,0),(1,1)],[(0,0),(1,1)],[(0,0),(1,1)],[(0,0),(1,1)],[(0,0),(1,1)],[(0,0),(1,1)],[(0,0),(1,1)],[(0,0),(1,1)],[(0,0),(1,1)],[(0,0),(1,1)],[(0,0),(1,1)],[(0,0),(1,1)],[(0,0),(1,1)],[(0,0),(1,1)],[(0,0),(1,1)],[(0,0),(1,1)],[(0,0),(1,1)],[(0,0),(1,1)],[(0,0),(1,1)],[(0,0),(1,1)],[(0,0),(1,1)],[(0,0),(1,1)],[(0,0),(1,1)],[(0,0),(1,1)],[(0,0),(1,1)],[(0,0),(1,1)],[(0,0),(1,1)],[(0,0),(1,1)],[(0,0),(1,1)],[(0,0),(1,1)],[(0,0),(1,1)],[(0,0),(1,1)],[(0,1)]];refine dc ?_;refine Go 4 Z (GX 9 Z (D 4 Z ?_));obtain⟨aj,R,d⟩:=Yf d;refine DS.wo (x:=.rp [.q 2 (map CK.c aj)]) ?_ ?_
     .exact Ix R runUnderlying231 sizeOf114 Z Wp
     refine D 2 Z ?_;obtain⟨ak,T,d⟩:=Yf d;refine DS.wo (x:=.rp (CK.c ak)) ?_ ?_
     .exact Ix T EO EN Z Wp
     refine D 1 Z (Eg Z (Cz [] d (cm _ _ _).c Z λbk ay d=>Go 3 Z (Cn Z d (λ_ d=>?_) (λ_ d=>?_))))
     .refine Gc 6 Z ?_;cases d;refine JA (Gx 2 Z ?_);cases f;refine JA (Gx 1 Z (Kt j ?_));obtain rfl:=Oj q j;exact Gx 1 Z (JA (Gx 1 Z (Rt h 4 [])))
     refine Gc 1 Z ?_;cases d;exact JZ Z (Lr [0,1])
    refine Gc 1 Z ?_;cases d;exact JZ Z (Lr [0,1])
   subst hb;refine Gx 1 Z (Ee t (Gc 10 Z (Cd [] f (lO _ _ _).c Z λbl az f=>Fg 9 Z Z (Bd f λF m f=>Ct F [0,1,3] [2,3,5,6,7,15] (λF=>[(130,.b F)]) Ze Zf ?_ (λenv H t=>?_)))))
   .refine G0 3 Z (Is 123 m Z (λ_ m=>?_) (λ_ m=>?_))
    .exact Go 3 Z (Bd m λbm X m=>Iz X Z (Gl 4 Z m [0,1,3]))
    .exact Gl 8 Z m [0,1,3]
   refine Gx 1 Z (Ee t (Bd f λam g f=>KR (b:=am) [0,1] [2,3,5,6,7] Ze Ze Zf ?_ (λba env H hb t=>?_)))
   .refine G0 0 Z (Cn Z g (λ_ g=>?_) (λ_ g=>?_))
    .refine Gc 1 Z ?_;obtain⟨bn,aa,g⟩:=Yf g;obtain⟨bo,ab,g⟩:=Yf g;have hx2:=aa;have hx1:=ab;have hxh:=hx 22 10 0 0 [AD,AD,AD,AD,AD,AD,AD,AD,AD,AE] [[],[],[],[],[],[],[],[],[],[]] [[],[9]] [[(0,0),(1,1)],[(0,0),(1,1)],[(0,0),(1,1)],[(0,0),(1,1)],[(0,0),(1,1)],[(0,0),(1,1)],[(0,0),(1,1)],[(0,0),(1,1)],[(0,0),(1,1)],[(0,1)]];refine dc ?_;refine Go 4 Z ?_;obtain⟨bp,ac,g⟩:=Yf g;obtain⟨bq,ad,g⟩:=Yf g;have hx2:=ac;have hx1:=ad;have hxh:=hx 23 18 1 0 [AD,AD,AD,AD,AD,AD,AD,AD,AD,AD,AD,AD,AE,AD,AD,AD,AE,AE] [[],[],[],[],[],[],[],[],[],[],[],[],[],[12],[12],[12],[],[12,16]] [[],[12],[16],[12,16],[12,16,17]] [[(0,0),(2,2)],[(0,0),(2,2)],[(0,0),(2,2)],[(0,0),(2,2)],[(0,0),(2,2)],[(0,0),(2,2)],[(0,0),(2,2)],[(0,0),(2,2)],[(0,0),(2,2)],[(0,0),(2,2)],[(0,0),(2,2)],[(0,0),(2,2)],[(0,1),(2,3)],[(1,1),(3,3)],[(1,1),(3,3)],[(1,1),(3,3),(4,4)],[(0,2),(1,3)],[(3,4)]];refine dc ?_;refine Go 11 Z (Cz [] g (cm _ _ _).c Z λbr bb g=>Go 3 Z (Cn Z g (λ_ g=>?_) (λ_ g=>?_)))
     .refine Gc 6 Z ?_;cases g;refine JA (Gx 1 Z ?_);cases f;refine JA (Gx 1 Z (Kt j ?_));obtain rfl:=Oj q j;exact Gx 1 Z (JA (Gx 1 Z (Rt h 4 [])))
     refine Gc 1 Z ?_;cases g;exact JZ Z (Lr [0,1])
    refine Gc 1 Z ?_;cases g;exact JZ Z (Lr [0,1])
   subst hb;refine Gx 1 Z ?_;cases f;exact JZ Z (En t (Lr [0,1]))
  subst hb;exact Gc 5 Z (JJ j (Lr [0,1]))
 subst aq;exact Hw 6 Z h 4 []
def M8(d:CE)(f:CG)(j:AP)(m:Int)(g:AA CQ)(h:AA AY)(x:CW):AB Int:=AH (Rl n d f j m g h) λq=>(bif (q != 0)then AC q else AH (NL n d f j m g h) λt=>AH (Rj n ({c:=d,k:=f,BM:=g,A6:=h,BT:=t.1,BY:=t.2:CI}) x) λy=>(bif (!y)then AC 190 else AC 0))
instance lI(d:CE)(f:CG)(t:AP)(y:Int)(j:AA CQ)(m:AA AY)(g:CW):Ki (M8 n d f t y j m g) 41 [.a (CE.c d),.a (CG.c f),.a (AP.c t),I y,.q 5 (map CQ.c j),.q 4 (map AY.c m),.a (CW.c g)]:=by
 refine Kg 17 func41 Z Z Z Z λr h=>Cz [] h (km _ _ _ _ _ _ _).c Z λJ G h=>Go 10 Z (Cn Z h (λ_ h=>?_) (λ_ h=>?_))
 .exact Hw 8 Z h 14 []
 refine Gc 4 Z (qe 8 6 [0,0,0,0,0,0,1,3] (by kernel_rfl) (Da 6 Z ?_));obtain⟨q,E,h⟩:=Yf h;refine DA.op (x:=.a (CI.cells ({c:=d,k:=f,BM:=j,A6:=m,BT:=q.1,BY:=q.2:CI}))) (H1:=[.c 33 (CE.c d),.c 39 (CG.c f),.c 41 (AP.c t),.c 56 (CW.c g),.dead,.dead,.c 233 (CI.cells ({c:=d,k:=f,BM:=j,A6:=m,BT:=q.1,BY:=q.2:CI}))]) ?_ ?_
 .refine Qt [] (Dc.fn call109 Z Z Z) ((cZ _ _ _ _ _ _ _).c _ E) ?_;rintro _ _ ⟨rfl,rfl⟩;refine FE Z ?_;refine Er (Yz 4 [(32,_)]) ?_;refine Er OR ?_;refine Er (Yz 5 [(32,_)]) ?_;refine Er OR ?_;exact Wp
 refine DB.wo2 (x:=.a (CW.c g)) ?_ ?_ ?_
 iterate 2 (refine vX (.a (CW.c g)) (Yd Z isAgg56 Gj Z (Dn.cells Z Z) Z Z) ?_;exact Wp)
 refine DB.done Z (Cz [] h (kj _ _ _).c Z λL H h=>Go 3 Z (Cn Z h (λ_ h=>?_) (λ_ h=>?_)))
 .exact Hw 7 Z h 14 []
 exact Hw 8 Z h 14 []
def RX(g:CE)(h:AP)(j:Int)(d:Int):AB (Int×Bool):=AH (HJ n g h.AN j) λf=>AH ((bif (f.2 != 0)then AC AE else(bif d<(-1) then AC AE else AC (AG ((AI f.1:Int)<=d)))):AB Bool) λm=>(bif m then AC (0,AD)else(bif (d==(-1))then AC (i64.wrap ((AI f.1:Int)-1),AE)else AC (d,AE)))
instance E?(d:CE)(f:AP)(g:Int)(j:Int):Ks (RX n d f g j) 42 [.a (CE.c d),.a (AP.c f),I g,I j] [] (λr=>.t [I r.1,.b r.2]):=by
 exact Kg 0 func42 Z Z Z Z λr h=>by
  have:=hn 20100 [2] [3,10] (λ(m:Bool)=>[(31,.b m)]) Ze;exact bu h
def V8(n:Nat)(f:AA CL)(t:Int)(d:Int×Int×Bool×Int):AB (CJ (Int×Int×Bool×Int) (Int×Int×Bool)):=(bif d.2.2.2<(AI f:Int) then AH (CN f d.2.2.2) λm=>AH ((bif m.AS<=t then AH (CN f d.2.2.2) λh=>AH (CN f d.2.2.2) λj=>(bif d.2.2.1 then AC (i64.wrap (d.1+h.BV),i64.wrap (d.2.1+j.Aj),AE)else AH (CN f d.2.2.2) λq=>AC (i64.wrap (d.1+h.BV),i64.wrap (d.2.1+j.Aj),q.BP))else AC (d.1,d.2.1,d.2.2.1)):AB (Int×Int×Bool)) λg=>AC (.k (g.1,g.2.1,g.2.2,i64.wrap (d.2.2.2+1)))else AC (.d (d.1,d.2.1,d.2.2.1)))
def LI(f:AA CL)(g:Int):AB (Int×Int×Bool):=AH (iter (V8 n f g) n (0,0,AD,0):AB (Int×Int×Bool)) λd=>AC (d.1,d.2.1,d.2.2)
instance r?(j:AA CL)(m:Int):Ks (LI n j m) 43 [.q 4 (map CL.c j),I m] [] (λr=>.t [I r.1,I r.2.1,.b r.2.2]):=by
 exact Kg 0 func43 Z Z Z Z λr h=>by
  have:=hn 50602 [] [] (λ(f:Int×Int×Bool)=>[(7,I f.1),(8,I f.2.1),(9,.b f.2.2)]) Ze;have:=hl 50602 [] [0,1] (λ(d:Int×Int×Bool×Int)=>[(7,I d.1),(8,I d.2.1),(9,.b d.2.2.1),(10,I d.2.2.2)]) Ze;have:=hn 80301 [] [0,1,10] (λ(g:Int×Int×Bool)=>[(7,I g.1),(8,I g.2.1),(9,.b g.2.2)]) Ze;exact bu h
def IH(n:Nat):AB Unit:=AC ()
instance AAQ:Kq (IH n) 44 [] [] (λ_=>.a [.b AE,I (-1),I 0,I 0]) (λ_=>[.c 63 [.b AE,I (-1),I 0,I 0]]):=by
 refine Kg 12 func44 Z Z Z Z λr h=>?_;obtain rfl:=Oi h;exact Rx [0] [0] Z (YC Z (QP Gu EI Z Z Z)) ⟨Z,Z⟩
def Oa(n:Nat)(f:AA Int)(g:Int)(d:Int×Int):AB (CJ (Int×Int) Int):=(bif d.2<=g then AH (CN f d.2) λh=>AH (CN f g) λj=>AH ((bif (h==j)then AC (i64.wrap (d.1+1))else AC d.1):AB Int) λm=>AC (.k (m,i64.wrap (d.2+1)))else AC (.d d.1))
def PR(f:AA Int)(g:Int):AB Int:=AH (iter (Oa n f g) n (0,0):AB Int) λd=>AC d
instance zx(f:AA Int)(g:Int):Ki (PR n f g) 201 [.q 1 (map eI f),I g]:=by
 exact Kg 0 func201 Z Z Z Z λr h=>by
  have:=hn 30402 [] [] (λ(j:Int)=>[(5,I j)]) Ze;have:=hl 30402 [] [0,1] (λ(d:Int×Int)=>[(5,I d.1),(6,I d.2)]) Ze;have:=hn 60101 [] [0,1,6] (λ(m:Int)=>[(5,I m)]) Ze;exact bu h
def MP(m:Int)(q:Int)(f:(AA Int)×Int)(d:Int):AB (CJ Int (CJ Unit (Int×Int))):=(bif d<(AI f.1:Int) then AH (AH (CN f.1 d) λg=>(bif (g==m)then AH (PR n f.1 d) λh=>AC (h==q)else AC AD):AB Bool) λj=>(bif j then AC (.d (.d (d,0)))else AC (.k (i64.wrap (d+1))))else AC (.d (.k ())))
def Rs(h:CE)(j:Int)(m:Int)(q:Int)(t:Int):AB (Int×Int):=AH (HJ n h j m) λf=>(bif (f.2 != 0)then AC (0,f.2)else AH (iter (MP n q t f) n 0:AB (CJ Unit (Int×Int))) λg=>match g with|.k d=>(AC (0,90))|.d d=>AC d)
instance kz(d:CE)(f:Int)(g:Int)(j:Int)(m:Int):Ks (Rs n d f g j m) 111 [.a (CE.c d),I f,I g,I j,I m] [] (λr=>.t [I r.1,I r.2]):=by
 exact Kg 0 func111 Z Z Z Z λr h=>by
  have:=hn 50402 [] [] (λ(_:Unit)=>[]) Ze;have:=hl 50402 [1] [3,4,12] (λ(q:Int)=>[(14,I q)]) Ze;have:=hn 70100 [0] [3,4,12,14] (λ(t:Bool)=>[(43,.b t)]) Ze;exact bu h
def Ij(h:CE)(j:CG)(m:AA CQ)(q:AA AY)(x:CW)(y:Int)(d:(AA Int)×(AA (AA CK))×Int):AB (CJ ((AA Int)×(AA (AA CK))×Int) (CJ CI (Int×CK×Int))):=(bif 0<=d.2.2 then AH (IM n ({c:=h,k:=j,BM:=m,A6:=q,BT:=d.1,BY:=d.2.1:CI}) x d.2.2) λf=>(bif f.2.2 then AH (CN d.2.1 d.2.2) λt=>AH (CN t y) λg=>AC (.d (.d (f.1,{Lo:=i64.wrap (f.2.1.Lo+g.Lo),Hi:=i64.wrap (f.2.1.Hi+g.Hi):CK},0)))else AC (.k (d.1,d.2.1,i64.wrap (d.2.2-1))))else AC (.d (.k ({c:=h,k:=j,BM:=m,A6:=q,BT:=d.1,BY:=d.2.1:CI}))))
def IF(j:CW)(q:Int)(g:CI)(d:Int):AB (CJ Int (CJ Unit (Int×CK×Int))):=(bif d<=j.Ai then AH (IM n g j d) λf=>(bif f.2.2 then AH (CN g.BY q) λm=>AH (CN m d) λh=>AC (.d (.d (f.1,{Lo:=i64.wrap (f.2.1.Lo-h.Hi),Hi:=i64.wrap (f.2.1.Hi-h.Lo):CK},0)))else AC (.k (i64.wrap (d+1))))else AC (.d (.k ())))
def Kd(j:CE)(m:CG)(x:AP)(y:Int)(q:AA CQ)(t:AA AY)(h:CW)(f:Int):AB (Int×CK×Int):=AH (M8 n j m x y q t h) λB=>(bif (B != 0)then AC (0,{Lo:=0,Hi:=0:CK},B)else AH ((bif f<0 then AC AE else AC (AG (h.Ai<f))):AB Bool) λH=>(bif H then AC (0,{Lo:=0,Hi:=0:CK},1)else AH (NL n j m x y q t) λE=>AH (iter (Ij n j m q t h f) n (E.1,E.2,f):AB (CJ CI (Int×CK×Int))) λF=>match F with|.k d=>(AH (iter (IF n h f d) n f:AB (CJ Unit (Int×CK×Int))) λG=>match G with|.k g=>(AC ((-1),{Lo:=(-1099511627776),Hi:=1099511627776:CK},0))|.d g=>AC g)|.d d=>AC d))
instance zp(x:CE)(y:CG)(J:AP)(L:Int)(B:AA CQ)(E:AA AY)(t:CW)(M:Int):Kq (Kd n x y J L B E t M) 46 [.a (CE.c x),.a (CG.c y),.a (AP.c J),I L,.q 5 (map CQ.c B),.q 4 (map AY.c E),.a (CW.c t),I M] [] (λr=>.t [I r.1,.a [I r.2.1.Lo,I r.2.1.Hi],I r.2.2]) (λr=>[.c 69 [I r.2.1.Lo,I r.2.1.Hi]]):=by
 have:=hn 40100 [0,1,2,3,4] [3,4,5,7,8,9,10,14,17] (λ(j:Bool)=>[(50,.b j)]) Ze;have:=hn 80602 [0,1,2] [7] (λ(_:CI)=>[(14,.p 0 0),(17,.p 1 0),(20,.p 2 0)]) (λf=>[(0,.w (.c 56 (CW.c t))),(1,.w (.c 69 [I 0,I 0])),(2,.w (.c 233 (CI.cells f)))]);have:=hl 80602 [3,4,8] [7,14,17,20] (λ(d:(AA Int)×(AA (AA CK))×Int)=>[(21,I d.2.2)]) (λd=>[(2,.c [(20,.q 1 (map eI d.1)),(21,.q 1 (map (QC 2 CK.c) d.2.1))])]);have:=hn 150602 [1] [17] (λ(_:Unit)=>[]) Ze;have:=hl 150602 [0,1,2] [7,14,17,20] (λ(g:Int)=>[(26,I g)]) Ze;refine Kg 20 func46 Z Z Z Z λr h=>Cz [] h (lI _ _ _ _ _ _ _ _).c Z λr1 aa h=>Go 10 Z (Cn Z h (λ_ h=>?_) (λ_ h=>?_))
 .exact bu h
 refine Gc 4 Z (Bd h λj X h=>Ct j [0,1,2,3,4] [3,4,5,7,8,9,10,14,17] (λj=>[(50,.b j)]) Ze Zf ?_ (λenv H m=>?_))
 .exact bu X
 refine Gx 1 Z (Ee m (Cn Z h (λ_ h=>?_) (λ_ h=>?_)))
 .exact bu h
 refine Gc 10 Z (Cd [] h (cZ _ _ _ _ _ _ _).c Z λr8 ab h=>Fg 11 Z Z (Bd h λP Q h=>KR (b:=P) [0,1,2] [7] (λ_=>[(14,.p 0 0),(17,.p 1 0),(20,.p 2 0)]) (λf=>[(0,.c 56 (CW.c t)),(1,.c 69 [I 0,I 0]),(2,.c 233 (CI.cells f))]) Zf ?_ (λf env H q m=>?_)))
 .refine G0 1 Z (Lp [3,4,8] [7,14,17,20] (λd=>[(21,I d.2.2)]) (λd=>[(2,.c 233 (CI.cells ({c:=x,k:=y,BM:=B,A6:=E,BT:=d.1,BY:=d.2.1:CI})))]) Q Zf ?_ ?_)
  .refine En (Yz 5 [(58,_)]) ?_;refine En (Yz 6 [(58,_)]) ?_;exact Lr [3,4,8]
  intro d ac R F;exact H9 F R h
 subst q;refine Gx 1 Z (Ee m (Gc 7 Z (Bd h λT V h=>Hz (b:=T) [1] [17] Ze Ze Zf ?_ (λ_ q=>?_))))
 .refine G0 1 Z (Lp [0,1,2] [7,14,17,20] (λg=>[(26,I g)]) Ze V Zf (Lr [0,1,2]) λg ad W G=>?_);exact H9 G W h
 subst q;exact bu h
def R3(n:Nat)(g:CG)(f:Int)(d:CK):AB CK:=(bif f<0 then AC ({Lo:=d.Lo,Hi:=d.Hi:CK})else AH (CN g.BE (i64.wrap (f+1))) λh=>AH (CN h 0) λj=>AH (CN g.BE 0) λm=>AH (CN m (i64.wrap (f+1))) λq=>AC ({Lo:=i64.wrap (d.Lo-j),Hi:=i64.wrap (d.Hi+q):CK}))
instance lE(f:CG)(g:Int)(d:CK):Kq (R3 n f g d) 112 [.a (CG.c f),I g,.a [I d.Lo,I d.Hi]] [] (λr=>.a [I r.Lo,I r.Hi]) (λr=>[.c 69 [I r.Lo,I r.Hi]]):=by
 refine Kg 14 func112 Z Z Z Z λr h=>Cn Z h (λ_ h=>?_) (λ_ h=>?_)
 .refine Gc 8 Z ?_;obtain rfl:=Oi h;exact Rx [2] [6] Z (YC Z (QP isAgg69 EN Z Z Z)) ⟨Z,Z⟩
 refine Gc 3 Z (GX 22 Z (D 6 Z ?_));obtain⟨B,m,h⟩:=Yf h;refine DS.wo (x:=.rp [.q 1 (map eI B)]) ?_ ?_
 .exact Ix m ED EG Z Wp
 refine D 1 Z ?_;obtain⟨E,q,h⟩:=Yf h;refine DS.wo (x:=.rp [I E]) ?_ ?_
 .exact Ix q EA EB Z Wp
 refine D 6 Z ?_;obtain⟨F,t,h⟩:=Yf h;refine DS.wo (x:=.rp [.q 1 (map eI F)]) ?_ ?_
 .exact Ix t ED EG Z Wp
 refine D 3 Z ?_;obtain⟨G,y,h⟩:=Yf h;refine DS.wo (x:=.rp [I G]) ?_ ?_
 .exact Ix y EA EB Z Wp
 refine D 2 Z (Eg Z (Go 5 Z ?_));obtain rfl:=Oi h;exact Rx [2] [6] Z (YC Z (QP isAgg69 EN Z Z Z)) ⟨Z,Z⟩
def WN(G:CE)(H:CG)(J:AP)(L:Int)(N:AA CQ)(O:AA AY)(P:CW)(Q:Int)(h:AN)(M:Aw)(d:Bool×Bool×Int):AB (CJ (Bool×Bool×Int) (Bool×Bool)):=(bif d.2.2<(AI h.Am:Int) then AH (AH (CN h.Am d.2.2) λq=>AH (CN h.Am d.2.2) λt=>AH (Rs n G J.AN L q.Af t.B9) λf=>AH ((bif (f.2 != 0)then AC AE else AC (AG (Q<f.1))):AB Bool) λx=>(bif x then AC (d.1,d.2.1)else AH (Kd n G H J L N O P f.1) λg=>AH (R3 n H g.1 ({Lo:=g.2.1.Lo,Hi:=g.2.1.Hi:CK})) λj=>AH ((bif d.1 then AC AE else AH (CN h.Am d.2.2) λy=>AC (AG (y.Bu<(i64.wrap (j.Lo-M.B0))))):AB Bool) λB=>AH ((bif d.2.1 then AC AE else AH (CN h.Am d.2.2) λE=>AC (AG (E.Bu<(i64.wrap (j.Hi-M.B0))))):AB Bool) λF=>AC (B,F)):AB (Bool×Bool)) λm=>AC (.k (m.1,m.2,i64.wrap (d.2.2+1)))else AC (.d (d.1,d.2.1)))
def Mi(f:CE)(h:CG)(g:AP)(j:Int)(m:AA CQ)(q:AA AY)(t:CW)(x:Int):AB (Bool×Bool):=AH (CN f.AO g.AN) λy=>AH (CN f.Ax g.Aw) λB=>AH (iter (WN n f h g j m q t x y B) n (AD,AD,0):AB (Bool×Bool)) λd=>AC (d.1,d.2)
instance R?(V:CE)(W:CG)(X:AP)(Y:Int)(a5:AA CQ)(a6:AA AY)(a7:CW)(a8:Int):Ks (Mi n V W X Y a5 a6 a7 a8) 45 [.a (CE.c V),.a (CG.c W),.a (AP.c X),I Y,.q 5 (map CQ.c a5),.q 4 (map AY.c a6),.a (CW.c a7),I a8] [] (λr=>.t [.b r.1,.b r.2]):=by
 have:=hn 50802 [] [] (λ(j:Bool×Bool)=>[(20,.b j.1),(21,.b j.2)]) Ze;have:=hl 50802 [0,1,2,3,4] [3,4,5,7,8,9,10,14,18,19] (λ(g:Bool×Bool×Int)=>[(20,.b g.1),(21,.b g.2.1),(22,I g.2.2)]) Ze;have:=hn 70601 [0,1,2,3,4] [3,4,5,7,8,9,10,14,18,19,22] (λ(f:Bool×Bool)=>[(20,.b f.1),(21,.b f.2)]) Ze;have:=hn 80100 [0,1,2,3,4] [3,4,5,7,8,9,10,14,18,19,20,21,22,23] (λ(m:Bool)=>[(75,.b m)]) Ze;have:=hn 110100 [0,1,2,3,4,8] [3,4,5,7,8,9,10,14,18,19,21,22,28] (λ(q:Bool)=>[(20,.b q)]) Ze;have:=hn 120100 [0,1,2,3,4] [3,4,5,7,8,9,10,14,18,19,20,22] (λ(t:Bool)=>[(21,.b t)]) Ze;refine Kg 16 func45 Z Z Z Z λr h=>Bd h λx1 aa h=>Iz aa Z (Go 11 Z (Bd h λx2 ab h=>Iz ab Z (Go 17 Z (Bd h λj ac h=>Cg j [] [] (λj=>[(20,.b j.1),(21,.b j.2)]) Ze Zf ?_ ?_))))
 .refine G0 1 Z (Lp [0,1,2,3,4] [3,4,5,7,8,9,10,14,18,19] (λg=>[(20,.b g.1),(21,.b g.2.1),(22,I g.2.2)]) Ze ac Zf (Lr [0,1,2,3,4]) λg ah y M=>?_);refine G0 6 Z (Lg 3 Z Z (Dm Z y (λ_ y=>?_) (λ_ y=>?_)))
  .exact FS M y
  refine Gc 3 Z (Bd y λf d y=>Cg f [0,1,2,3,4] [3,4,5,7,8,9,10,14,18,19,22] (λf=>[(20,.b f.1),(21,.b f.2)]) Ze Zf ?_ ?_)
  .refine G0 2 Z (GX 21 Z (D 7 Z ?_));obtain⟨O,F,d⟩:=Yf d;refine DS.wo (x:=.rp (CX.c O)) ?_ ?_
   .exact Ix F E3 Gm Z Wp
   refine D 5 Z ?_;obtain⟨P,G,d⟩:=Yf d;refine DS.wo (x:=.rp (CX.c P)) ?_ ?_
   .exact Ix G E3 Gm Z Wp
   refine D 2 Z ?_;obtain⟨E,J,d⟩:=Yf d;refine DS.wo (x:=.t [I E.1,I E.2]) ?_ ?_
   .refine Qt [] (Dc.fn call111 Z Z Z) ((kz _ _ _ _ _ _).c _ J) ?_;rintro _ _ ⟨rfl,rfl⟩;exact FE Z Wp
   refine D 4 Z (Eg Z (Go 5 Z (Bd d λm Q d=>?_)));refine Ct m [0,1,2,3,4] [3,4,5,7,8,9,10,14,18,19,20,21,22,23] (λm=>[(75,.b m)]) Ze Zf ?_ (λenv H B=>?_)
   .exact bu Q
   refine Gx 1 Z (Ee B (Cn Z d (λ_ d=>?_) (λ_ d=>?_)))
   .exact bu d
   refine Gc 12 Z (Cd [] d (zp _ _ _ _ _ _ _ _ _).c Z λaf ad d=>Fg 15 Z Z (Cd [] d (lE _ _ _ _).c Z λag ae d=>Fg 5 Z Z (Bd d λq R d=>Ct q [0,1,2,3,4,8] [3,4,5,7,8,9,10,14,18,19,21,22,28] (λq=>[(20,.b q)]) Ze Zf ?_ (λenv H B=>?_))))
   .exact bu R
   refine Gx 1 Z (Ee B (Bd d λt T d=>Ct t [0,1,2,3,4] [3,4,5,7,8,9,10,14,18,19,20,22] (λt=>[(21,.b t)]) Ze Zf ?_ (λenv H B=>?_)))
   .exact bu T
   refine Gx 1 Z ?_;cases d;exact OM (En B (Lr [0,1,2,3,4]))
  exact bu y
 exact bu h
def LA(n:Nat)(f:AA AY)(h:Int)(d:Int):AB (CJ Int (CJ Unit Bool)):=(bif d<(AI f:Int) then AH (CN f d) λg=>(bif (g.AS==h)then AC (.d (.d AE))else AC (.k (i64.wrap (d+1))))else AC (.d (.k ())))
def Mm(g:CW)(j:AA AY)(f:Int):AB Bool:=AH ((bif f<(AI g.Ak:Int) then AH (CN g.Ak f) λm=>AC (AG (0<=m))else AC AD):AB Bool) λq=>(bif q then AC AE else AH (iter (LA n j f) n 0:AB (CJ Unit Bool)) λh=>match h with|.k d=>(AC AD)|.d d=>AC d)
instance V?(d:CW)(f:AA AY)(g:Int):Kb (Mm n d f g) 114 [.a (CW.c d),.q 4 (map AY.c f),I g]:=by
 exact Kg 0 func114 Z Z Z Z λr h=>by
  have:=hn 10100 [] [1,2] (λ(m:Bool)=>[(20,.b m)]) Ze;have:=hn 40402 [] [] (λ(_:Unit)=>[]) Ze;have:=hl 40402 [] [1,2] (λ(j:Int)=>[(7,I j)]) Ze;exact bu h
def Ha(h:CE)(y:CG)(d:AP)(B:Int)(E:AA CQ)(j:AA AY)(m:CW):AB CK:=AH (CN h.Ax d.Aw) λq=>AH (CN h.AO d.AN) λt=>(bif (t.BI==3)then AC ({Lo:=d.Bc,Hi:=d.Bc:CK})else AH ((bif (t.BI==2)then AH (Mm n m j 0) λx=>(bif x then AH (Kd n h y d B E j m 0) λf=>AC (.d ({Lo:=f.2.1.Lo,Hi:=f.2.1.Hi:CK}))else AC (.k ()))else AC (.k ())):AB (CJ Unit CK)) λF=>match F with|.k g=>(AC ({Lo:=q.B0,Hi:=q.B0:CK}))|.d g=>AC g)
instance AAY(d:CE)(f:CG)(g:AP)(j:Int)(m:AA CQ)(q:AA AY)(t:CW):Kq (Ha n d f g j m q t) 47 [.a (CE.c d),.a (CG.c f),.a (AP.c g),I j,.q 5 (map CQ.c m),.q 4 (map AY.c q),.a (CW.c t)] [] (λr=>.a [I r.Lo,I r.Hi]) (λr=>[.c 69 [I r.Lo,I r.Hi]]):=by
 exact Kg 0 func47 Z Z Z Z λr h=>by
  have:=hn 60302 [4] [14,15] (λ(_:Unit)=>[]) Ze;exact bu h
def M7(g:CE)(x:CG)(h:AP)(y:AA CQ)(B:AA AY)(F:AA CL)(j:CW)(H:Int):AB ((AA CH)×Int):=AH (LS n F) λm=>AH (M8 n g x h m y B j) λG=>(bif (G != 0)then AC ([],G)else AH (RX n g h m H) λq=>(bif (!q.2)then AC ([],90)else AH (LI n F q.1) λt=>AH ((bif j.Ai<q.1 then AC AE else AC t.2.2):AB Bool) λJ=>(bif J then AH (IH n) λL=>AC ([{BP:=AE,Bg:=(-1),Lo:=0,Hi:=0:CH}],0)else AH (Mi n g x h m y B j q.1) λE=>(bif E.1 then AH (IH n) λM=>AC ([{BP:=AE,Bg:=(-1),Lo:=0,Hi:=0:CH}],0)else AH (Kd n g x h m y B j q.1) λd=>AH (Ha n g x h m y B j) λf=>(bif E.2 then AH (IH n) λN=>AC ([{BP:=AE,Bg:=(-1),Lo:=0,Hi:=0:CH},{BP:=AD,Bg:=d.1,Lo:=i64.wrap ((i64.wrap (d.2.1.Lo-f.Hi))+t.1),Hi:=i64.wrap ((i64.wrap (d.2.1.Hi-f.Lo))+t.1):CH}],0)else AC ([{BP:=AD,Bg:=d.1,Lo:=i64.wrap ((i64.wrap (d.2.1.Lo-f.Hi))+t.1),Hi:=i64.wrap ((i64.wrap (d.2.1.Hi-f.Lo))+t.1):CH}],0))))))
instance lH(d:CE)(f:CG)(g:AP)(j:AA CQ)(m:AA AY)(q:AA CL)(t:CW)(x:Int):Kq (M7 n d f g j m q t x) 9 [.a (CE.c d),.a (CG.c f),.a (AP.c g),.q 5 (map CQ.c j),.q 4 (map AY.c m),.q 4 (map CL.c q),.a (CW.c t),I x] [] (λr=>.t [.o 0 (AI r.1) 4,I r.2]) (λr=>[.r 63 4 (map CH.c r.1)]):=by
 exact Kg 0 func9 Z Z Z Z λr h=>by
  have:=hn 90100 [0,1,2,3] [3,4,8,9,10,14,18,20,22] (λ(y:Bool)=>[(68,.b y)]) Ze;have:=hk 18 2 [0] [(1,0,0),(0,0,1)];exact bu h
def Rk(g:CE)(E:AA CP)(F:Int)(q:Int)(m:Int):AB Bool:=AH (Zd 300) λG=>(bif (!G)then AC AD else AH (Ry n g E F) λd=>(bif (!d.2.2.2.2.2.2.2.2.2.2.2.2.2)then AC AE else AH (LS n d.2.2.2.2.2.2.2.2.2.2.2.2.1) λH=>AH (ND n g ({AQ:=d.1,BE:=d.2.1:CG}) ({Bf:=d.2.2.1,AN:=d.2.2.2.1,Aw:=d.2.2.2.2.1,Bc:=d.2.2.2.2.2.1,B':=d.2.2.2.2.2.2.1,A':=d.2.2.2.2.2.2.2.1,Bv:=d.2.2.2.2.2.2.2.2.1,B_:=d.2.2.2.2.2.2.2.2.2.1:AP}) H d.2.2.2.2.2.2.2.2.2.2.1 d.2.2.2.2.2.2.2.2.2.2.2.1) λt=>AH ((bif 0<=m then AC (AG (m<(AI t.1:Int)))else AC AD):AB Bool) λJ=>AH ((bif J then AH (CN t.1 m) λx=>AC x else AC ({Ak:=[],Ai:=(-1):CW})):AB CW) λf=>(bif 300<(AI f.Ak:Int) then AC AD else AH (NA n g ({AQ:=d.1,BE:=d.2.1:CG}) ({Bf:=d.2.2.1,AN:=d.2.2.2.1,Aw:=d.2.2.2.2.1,Bc:=d.2.2.2.2.2.1,B':=d.2.2.2.2.2.2.1,A':=d.2.2.2.2.2.2.2.1,Bv:=d.2.2.2.2.2.2.2.2.1,B_:=d.2.2.2.2.2.2.2.2.2.1:AP}) d.2.2.2.2.2.2.2.2.2.2.1 d.2.2.2.2.2.2.2.2.2.2.2.1 d.2.2.2.2.2.2.2.2.2.2.2.2.1 f q) λh=>AH (M7 n g ({AQ:=d.1,BE:=d.2.1:CG}) ({Bf:=d.2.2.1,AN:=d.2.2.2.1,Aw:=d.2.2.2.2.1,Bc:=d.2.2.2.2.2.1,B':=d.2.2.2.2.2.2.1,A':=d.2.2.2.2.2.2.2.1,Bv:=d.2.2.2.2.2.2.2.2.1,B_:=d.2.2.2.2.2.2.2.2.2.1:AP}) d.2.2.2.2.2.2.2.2.2.2.1 d.2.2.2.2.2.2.2.2.2.2.2.1 d.2.2.2.2.2.2.2.2.2.2.2.2.1 f q) λj=>AH (AH (NG n h.1 j.1) λy=>(bif y then AC (h.2==j.2)else AC AD):AB Bool) λB=>AC B)))
instance kl(E:CE)(O:AA CP)(P:Int)(Q:Int)(F:Int):Kb (Rk n E O P Q F) 3 [.a (CE.c E),.q 57 (map CP.c O),I P,I Q,I F]:=by
 refine Kg 9 func3 Z Z Z Z λr h=>Cz [] h (ke _).c Z λr1 ad h=>Go 3 Z (Cn Z h (λ_ h=>?_) (λ_ h=>?_))
 .exact Hw 7 Z h 10 []
 refine Gc 7 Z (Cd [] h (lB _ _ _ _).c Z λd ae h=>Fg 15 Z Z (Cn Z h (λ_ h=>?_) (λ_ h=>?_)))
 .exact Hw 7 Z h 10 []
 refine Gc 3 Z (Ee (Yz 1 [(22,_)]) (qe 17 12 [0,0,0,0,0,0,0,0,0,0,0,0,1,2,2,2,2] (by kernel_rfl) (Da 7 Z ?_)));obtain⟨Y,V,h⟩:=Yf h;refine DA.wo (x:=I Y) ?_ ?_
 .exact Pc [] Z (Dc.fn call7 Z Z Z) ((lV _ _).c _ V) Z Wp
 refine Da 4 Z ?_;obtain⟨y,W,h⟩:=Yf h;refine DA.op (x:=.t [.o 4 (AI y.1) 2,I y.2]) (H1:=[.c 33 (CE.c E),.dead,.c 46 [.q 3 (map CF.c d.1),.q 1 (map (QC 1 eI) d.2.1),I d.2.2.1,I d.2.2.2.1,I d.2.2.2.2.1,I d.2.2.2.2.2.1,I d.2.2.2.2.2.2.1,I d.2.2.2.2.2.2.2.1,I d.2.2.2.2.2.2.2.2.1,I d.2.2.2.2.2.2.2.2.2.1,.q 5 (map CQ.c d.2.2.2.2.2.2.2.2.2.2.1),.q 4 (map AY.c d.2.2.2.2.2.2.2.2.2.2.2.1),.q 4 (map CL.c d.2.2.2.2.2.2.2.2.2.2.2.2.1)],.c 46 [.q 3 (map CF.c d.1),.q 1 (map (QC 1 eI) d.2.1),I d.2.2.1,I d.2.2.2.1,I d.2.2.2.2.1,I d.2.2.2.2.2.1,I d.2.2.2.2.2.2.1,I d.2.2.2.2.2.2.2.1,I d.2.2.2.2.2.2.2.2.1,I d.2.2.2.2.2.2.2.2.2.1,.q 5 (map CQ.c d.2.2.2.2.2.2.2.2.2.2.1),.q 4 (map AY.c d.2.2.2.2.2.2.2.2.2.2.2.1),.q 4 (map CL.c d.2.2.2.2.2.2.2.2.2.2.2.2.1)],.r 56 2 (map CW.c y.1),.c 49 [.o 4 (AI y.1) 2]]) ?_ ?_
 .refine Qt [] (Dc.fn call6 Z Z Z) ((lN _ _ _ _ _ _ _).c _ W) ?_;rintro _ _ ⟨rfl,rfl⟩;exact FE Z Wp
 refine Db 4 Z (DB.done Z (Go 12 Z (Bd h λG B h=>?_)));refine Ct G [0,3,4,6] [3,4,5,11,13,15] (λG=>[(55,.b G)]) Ze Zf ?_ (λenv H j=>?_)
 .refine G0 4 Z (Is 50 B Z (λ_ B=>?_) (λ_ B=>?_))
  iterate 2 exact Gl 6 Z B [0,3,4,6]
 refine Gx 1 Z (Ee j (Bd h λm f h=>Ct m [0,1,3] [3,5,11,15] Ze (λm=>[(2,.c 56 (CW.c m))]) Zf ?_ (λenv H j=>?_)))
 .refine G0 0 Z (Cn Z f (λ_ f=>?_) (λ_ f=>?_))
  .refine Gc 3 Z (Bd f λX q f=>?_);refine vX (.p 2 (toNat F*2)) (Qw q Z Ge Gj) ?_;refine vX (.a (CW.c X)) (Yd Z isAgg56 Gj Z (Qy q) Z Z) ?_;exact Gl 2 Z f [0,1,3]
  exact xY 1 Z f [0,1,3]
 refine Gx 1 Z (Ee j (Gc 5 Z (Lg 3 Z Z (Cn Z h (λ_ h=>?_) (λ_ h=>?_)))))
 .exact Hw 7 Z h 10 []
 refine Gc 17 Z (Cd [] h (lL _ _ _ _ _ _ _ _ _).c Z λaf aa h=>Fg 22 Z Z (Cd [] h (lH _ _ _ _ _ _ _ _ _).c Z λag ab h=>Fg 8 Z Z (Bd h λt g h=>Cg t [] [] (λt=>[(10,.b t)]) Ze Zf ?_ ?_)))
 .refine G0 3 Z (Cb g (lQ _ _ _).c Z (lo (lo ln)) λah ac g=>Go 1 Z (Is 101 g Z (λ_ g=>?_) (λ_ g=>?_)))
  iterate 2 exact Gl 6 Z g []
 exact Hw 1 Z h 10 []
end Go.Sw
