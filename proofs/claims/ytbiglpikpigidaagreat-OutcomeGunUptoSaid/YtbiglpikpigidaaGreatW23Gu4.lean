/- What the functions compute that OutcomeGun reaches, and that their calls refine it (part 4 of 6). -/
import Derived.Test.YtbiglpikpigidaaGreatW23Gu3
set_option linter.unusedVariables false
set_option linter.unusedSimpArgs false
set_option maxRecDepth 100000
set_option maxHeartbeats 4000000
namespace Go.Sw
open Option renaming some→AC,none→AF,bind→AH
open Bool renaming false→AD,true→AE
open Decidable renaming decide→AG
open List renaming length→AI
variable (n:Nat)
open List(map)
open Int(toNat)
open Go.IntKind(i64 u64 u8)
open Go.Proofs Tryz
def J0(f:AA CC)(d:(AA CC)×Int×Int):AB (CG ((AA CC)×Int×Int) (AA CC)):=(bif d.2.2<(AI f:Int) then AH (CJ f d.2.2) λh=>AH (MZ n h d.2.1 d.1) λg=>AC (.k (g.2,g.1,i64.wrap (d.2.2+1)))else AC (.d d.1))
def J7(d:AA CC):AB (AA CC):=AH (PG n d) λm=>AH ((bif m then AH (Ia n) λB=>AH (app [] [{BM:=AE,BS:=(-1),Lo:=0,Hi:=0:CC}]) λq=>AC q else AC []):AB (AA CC)) λt=>AH (V5 n d) λf=>AH (Ph n f) λg=>AH (L8 (λx y=>Pv n x y) g) λh=>AH (iter (J0 n h) n (t,(-1),0):AB (AA CC)) λj=>AC j
instance zS(J:AA CC):Kq (J7 n J) 15 [.q 4 (map CC.c J)] [] (λr=>.o 0 (AI r) 4) (λr=>[.r 77 4 (map CC.c r),.c 51 [.o 0 (AI r) 4]]):=by
 refine Kg 9 func15 Z Z Z Z λr h=>Cz [] h Kc Z λr1 T h=>Go 2 Z (Bd h λE g h=>Ct E [0,0] [0,2] Ze (λE=>[(0,.c 51 [.o 1 (AI E) 4]),(1,.r 77 4 (map CC.c E))]) Zf ?_ (λenv H L=>?_))
 .refine G0 0 Z (Cn Z g (λ_ g=>?_) (λ_ g=>?_))
  .refine Hn 3 [1] [(0,0,1),(1,0,0),(0,1,1)] (by kernel_rfl) ?_;refine KR (lo:=0) (x:=.n) ⟨Z,trivial⟩ ?_;obtain⟨r8,N,g⟩:=QE g;refine Ex (x:=.a [.b AE,I (-1),I 0,I 0]) (X1:=[.c 51 [.n],.c 77 [.b AE,I (-1),I 0,I 0]]) ?_ ?_
   .refine Qg [] (C8.fn call53 Z Z Z) ((ZC _).c _ N) ?_;rintro _ _ ⟨rfl,rfl⟩;exact FE Z Wp
   refine DK.wo (x:=.q 4 (map CC.c [{BM:=AE,BS:=(-1),Lo:=0,Hi:=0:CC}])) ?_ ?_
   .refine vH (QO (xs:=[.tmp 11]) Jf Z Z Z Z Z ⟨Z,trivial⟩ Z Z) ?_;exact FE Z Wp
   refine DK.done Z Z (Bd g λl9 O g=>?_);refine vH (Qpq O Jf EM La) ?_;exact au g
  refine Gc 1 Z ?_;cases g;refine En (Yb (i:=0) (m:=0) (t:=77) (k:=4) Z Z Z) ?_;exact Lr [0,1]
 refine Gx 1 Z (Ee L (Gc 3 Z (Cd [] h Kc Z λV Q h=>FE Z (Cd [2] h Kc Z λW R h=>Fg 6 Z Z (Bd h λX q h=>?_)))));refine Qg [2] (C8.fn call57 Z Z Z) (qI Qhz q (λx y c h=>(jV n x y).c c h) Gg EP call58 Zf Z) ?_;rintro _ _ ⟨rfl,rfl⟩;refine FE Z ?_;refine Et (QZ (s:=3) Z (congrArg (λn=>A.s 2 0 n 4) (dy q))) ?_;refine Go 22 Z (Bd h λj P h=>Cg j [0,1] [2] Ze (λj=>[(0,.c 51 [.o 1 (AI j) 4]),(1,.r 77 4 (map CC.c j))]) Zf ?_ ?_)
 .refine G0 1 Z (Lp [0,1,3,2] [2,5,20,21] (λf=>[(22,I f.2.2)]) (λf=>[(0,.c 51 [.o 1 (AI f.1) 4]),(1,.r 77 4 (map CC.c f.1)),(2,.c 3 [I f.2.1])]) P Zf (Lr [0,1,3,2]) λf Y d F=>?_);refine G0 6 Z (Q8 Z d (λ_ d=>?_) (λ_ d=>?_))
  .exact Je F d
  refine Gc 6 Z (Bd d λaa B d=>?_);refine vV (Qd B Z EM EP) ?_;refine vV (Qt Z Gg EP Z (Qh B) Z Z) ?_;exact au d
 exact au h
def HM(f:(AA CX)×Int)(m:Ui×Int)(d:(AA CC)×Int):AB (CG ((AA CC)×Int) (AA CC)):=(bif d.2<(AI f.1:Int) then AH (CJ f.1 d.2) λg=>AH (Hh n m.1 g) λh=>AH (app d.1 h) λj=>AC (.k (j,i64.wrap (d.2+1)))else AC (.d d.1))
def NJ(g:CB)(h:CE)(j:AP)(m:AA CN)(q:AA Ae)(E:AA CF)(a7:Int):AB ((AA CC)×Int):=AH (Pg n g h j m q E a7) λt=>AH (Kz n g h j t.BV m q) λd=>AH ((bif (d.2 != 0)then AC (d.2 != 2)else AC AD):AB Bool) λF=>(bif F then AC ([],d.2)else AH (J4 n t) λf=>(bif (f.2 != 0)then AC ([],f.2)else(bif (d.2==2)then AH (LC n f.1) λx=>AC (x,0)else AH (iter (HM n d f) n ([],0):AB (AA CC)) λy=>AH (J7 n y) λB=>AC (B,0))))
instance jK(E:CB)(F:CE)(G:AP)(J:AA CN)(L:AA Ae)(M:AA CF)(a7:Int):Kq (NJ n E F G J L M a7) 8 [.a (CB.c E),.a (CE.c F),.a (AP.c G),.q 5 (map CN.c J),.q 4 (map Ae.c L),.q 4 (map CF.c M),I a7] [] (λr=>.t [.o 0 (AI r.1) 4,I r.2]) (λr=>[.r 77 4 (map CC.c r.1)]):=by
 refine Kg 18 func8 Z Z Z Z λr h=>Cd [] h Kc Z λr1 W h=>Fg 13 Z Z (Cd [] h Kc Z λr2 X h=>Fg 9 Z Z (Bd h λm T h=>Ct m [4,5] [14,15,16,17] (λm=>[(45,.b m)]) Ze Zf ?_ (λenv H N=>?_)))
 .exact au T
 refine Gx 1 Z (Ee N (Cn Z h (λ_ h=>?_) (λ_ h=>?_)))
 .refine Gc 9 Z ?_;obtain rfl:=Oi h;refine R2 14 15 Z Z ?_;refine En (Er (s:=14) (k:=4) (t:=77) (XQ Z) Z) ?_;exact Lr [2]
 refine Gc 5 Z (Cd [0] h Kc Z λr8 Y h=>Fg 9 Z Z (Cn Z h (λ_ h=>?_) (λ_ h=>?_)))
 .refine Gc 9 Z ?_;obtain rfl:=Oi h;refine R2 14 15 Z Z ?_;refine En (Er (s:=14) (k:=4) (t:=77) (XQ Z) Z) ?_;exact Lr [2]
 refine Gc 9 Z (Cn Z h (λ_ h=>?_) (λ_ h=>?_))
 .exact au h
 refine Gc 10 Z (Bd h λg Q h=>Cg g [0] [] (λg=>[(14,.o 0 (AI g) 4)]) (λg=>[(0,.r 77 4 (map CC.c g))]) Zf ?_ ?_)
 .refine G0 1 Z (Lp [0,0,1] [55,56] (λf=>[(14,.o 0 (AI f.1) 4),(16,.p 1 0),(57,I f.2)]) (λf=>[(0,.r 77 4 (map CC.c f.1))]) Q Zf ?_ ?_)
  .refine En (Er (s:=14) (k:=4) (t:=77) (XQ Z) Z) ?_;exact Lr [2,0,1]
  intro f aa d x;refine G0 6 Z (Q8 Z d (λ_ d=>?_) (λ_ d=>?_))
  .exact Je x d
  refine Gc 6 Z (Bd d λR j d=>?_);refine vX (.p 2 (toNat f.2*2)) (Qd j Z GV sizeOf75) ?_;refine vX (.a (CX.c R)) (Qt Z isAgg75 sizeOf75 Z (Qh j) Z Z) ?_;refine Go 8 Z (Cd [] d Kc Z λab V d=>FE Z (Bd d λac B d=>vH (Qj (e:=CC.c) B Jf EM (QC (i:=4))) ?_));exact au d
 refine Gc 3 Z ?_;refine Et (Yl [(14,_),(67,_)] Z Z (Cx.cons Z Ep (Cx.cons Z Ep Cx.nil)) (Ec (QU _))) ?_;exact au h
def ef(n:Nat)(f:AA CC)(j:AA CC)(d:Int):AB (CG Int (CG Unit Bool)):=(bif d<(AI f:Int) then AH (CJ f d) λg=>AH (CJ j d) λh=>(bif (g != h)then AC (.d (.d AD))else AC (.k (i64.wrap (d+1))))else AC (.d (.k ())))
def Pw(f:AA CC)(g:AA CC):AB Bool:=(bif ((AI f:Int) != (AI g:Int))then AC AD else AH (iter (ef n f g) n 0:AB (CG Unit Bool)) λh=>match h with|.k d=>(AC AE)|.d d=>AC d)
instance jW(B:AA CC)(E:AA CC):Ks (Pw n B E) 12 [.q 4 (map CC.c B),.q 4 (map CC.c E)] [] (λr=>.b r):=by
 refine Kg 9 func12 Z Z Z Z λr h=>Lg 1 Z Z (Lg 3 Z Z (Cn Z h (λ_ h=>?_) (λ_ h=>?_)))
 .exact au h
 refine Gc 8 Z (Bd h λG H h=>E_ (b:=G) [] [] Ze Ze Zf ?_ (λ_ J=>?_))
 .refine G0 1 Z (Lp [] [0,1] (λm=>[(5,I m)]) Ze H Zf (Lr []) λm M d j=>(G0 5 Z (Lg 3 Z Z (Q8 Z d (λ_ d=>?_) (λ_ d=>?_)))))
  .exact Je j d
  refine Gc 5 Z (DU 8 Z (D 2 Z ?_));obtain⟨f,t,d⟩:=QE d;refine DS.wo (x:=.rp [.b f.BM,I f.BS,I f.Lo,I f.Hi]) ?_ ?_
  .exact Ix t EM EP Z Wp
  refine D 3 Z ?_;obtain⟨g,y,d⟩:=QE d;refine DS.wo (x:=.rp [.b g.BM,I g.BS,I g.Lo,I g.Hi]) ?_ ?_
  .exact Ix y EM EP Z Wp
  refine D 1 Z (Eg Z (vV (sV pS Z Z) ?_));exact DX j d h
 subst J;exact au h
def LJ(f:Int)(g:AA Ae)(h:AA CF)(j:AA CC):AB Bool:=AH (ez n f) λm=>AH (LK n) λx=>AH (NJ n ({An:=[99],Av:=[{An:=[115],AX:=1:Al},{An:=[101],AX:=3:Al}],A4:=[{BA:=0,To:=1,Bo:=10,Br:=1000:Cr}],AO:=m,Ap:=[{An:=[119],Bv:=0:Aw}],Ab:=[],AV:=[],A3:=[],BN:=[{UI with AX:=1,By:=4:AY}],AQ:=Uw,Bk:=0,Az:=0:CB}) ({AS:=[],BP:=[[0]]:CE}) ({UH with BU:=1:AP}) [] g h (-1)) λd=>AH (AH (Pw n d.1 j) λq=>(bif q then AC (d.2==0)else AC AD):AB Bool) λt=>AC t
instance Nh(d:Int)(f:AA Ae)(g:AA CF)(j:AA CC):Ks (LJ n d f g j) 19 [I d,.q 4 (map Ae.c f),.q 4 (map CF.c g),.q 4 (map CC.c j)] [] (λr=>.b r):=by
 refine Kg 8 func19 Z Z Z Z λr h=>Cd [] h Kc Z λx q h=>FE Z (Cd [] h Kc Z λy t h=>Fg 3 Z Z ?_);refine Et (Yl [(13,_)] Z Z (Cx.cons Z (DN.agg (CW.k (Ed Ep (Ej _)))) Cx.nil) (Ec (Ec (Ec (Ec (Ec (Dm.cells (CW.k (Ed Ep (Ej _))) (QU _)))))))) (Et (Yl [(13,_)] Z Z (Cx.cons Z (DN.agg (CW.k (CW.k (Ed Ep (Ej _))))) Cx.nil) (Ec (Ec (Ec (Ec (Ec (Dm.cells (CW.k (CW.k (Ed Ep (Ej _)))) (QU _)))))))) ?_);refine Et (Yl [(13,_)] Z Z (Cx.cons Z (DN.agg (CW.k (CW.k (CW.k (Ed Ep (Ej _)))))) Cx.nil) (Ec (Ec (Ec (Ec (Ec (Dm.cells (CW.k (CW.k (CW.k (Ed Ep (Ej _))))) (QU _)))))))) ?_;refine Et (Yl [(13,_)] Z Z (Cx.cons Z (DN.agg (CW.k (CW.k (CW.k (CW.k (Ed Ep (Ej _))))))) Cx.nil) (Ec (Ec (Ec (Ec (Ec (Dm.cells (CW.k (CW.k (CW.k (CW.k (Ed Ep (Ej _)))))) (QU _)))))))) (Et (Yl [(13,_)] Z Z (Cx.cons Z (DN.agg (CW.k (CW.k (CW.k (CW.k (CW.k (CW.k (CW.k (CW.k (Ed Ep (Ej _))))))))))) Cx.nil) (Ec (Ec (Ec (Ec (Ec (Dm.cells (CW.k (CW.k (CW.k (CW.k (CW.k (CW.k (CW.k (CW.k (Ed Ep (Ej _)))))))))) (QU _)))))))) ?_);refine Et (Yl [(14,_)] Z Z (Cx.cons Z (DN.agg (CW.k (Ed Ep (Ej _)))) Cx.nil) (Ec (Ec (Ec (Ec (Ec (Ec (Ec (Dm.cells (CW.k (Ed Ep (Ej _))) (QU _)))))))))) (Bd h λB m h=>?_);refine Qg [] (C8.fn call8 Z Z Z) (C.nils (FU.eq (FU.eq (FU.eq (FU.nl (FU.eq (FU.eq (FU.eq FU.nil))))))) ((jK _ _ _ _ _ _ _ _).c _ m)) ?_;rintro _ _ ⟨rfl,rfl⟩;exact au h
def Mu(n:Nat):AB Unit:=AC ()
instance Ng:Kq (Mu n) 20 [] [] (λ_=>.o 0 ([{BU:=1,AT:=0,Lo:=0,Hi:=5:Ae},{BU:=1,AT:=1,Lo:=100,Hi:=101:Ae}].length) 4) (λ_=>[.r 104 4 (map Ae.c [{BU:=1,AT:=0,Lo:=0,Hi:=5:Ae},{BU:=1,AT:=1,Lo:=100,Hi:=101:Ae}])]):=KA func20
def P2(f:CE)(d:CC):AB Int:=AH (J5 n f) λg=>(bif (g != 0)then AC g else AH ((bif (-1)<=d.BS then(bif d.BS<(AI f.AS:Int) then(bif (-288230376151711744)<=d.Lo then(bif d.Lo<=d.Hi then AC (AG (d.Hi<=288230376151711744))else AC AD)else AC AD)else AC AD)else AC AD):AB Bool) λj=>AH ((bif d.BM then AH (Ia n) λm=>AC (d==({BM:=AE,BS:=(-1),Lo:=0,Hi:=0:CC}))else AC j):AB Bool) λh=>(bif (!h)then AC 230 else AC 0))
instance bA(y:CE)(g:CC):Ks (P2 n y g) 18 [.a (CE.c y),.a (CC.c g)] [] (λr=>I r):=by
 refine Kg 11 func18 Z Z Z Z λr h=>Cz [] h Kc Z λL G h=>Go 9 Z (Cn Z h (λ_ h=>?_) (λ_ h=>?_))
 .exact au h
 refine Gc 3 Z (Bd h λj F h=>Ct j [1] [3] (λj=>[(6,.b j)]) Ze Zf ?_ (λenv H E=>?_))
 .exact au F
 refine Gx 1 Z (Ee E (Gc 7 Z (Bd h λf d h=>Cg f [] [] (λf=>[(6,.b f)]) Ze Zf ?_ ?_)))
 .refine G0 0 Z (Cn Z d (λ_ d=>?_) (λ_ d=>?_))
  .refine Hn 2 [1] [(0,0,1),(1,0,0)] (by kernel_rfl) ?_;refine KR (lo:=0) ⟨Z,trivial⟩ ?_;obtain⟨J,t,d⟩:=QE d;refine Ex (x:=.a [.b AE,I (-1),I 0,I 0]) (X1:=[.c 77 (CC.c g),.c 77 [.b AE,I (-1),I 0,I 0]]) ?_ ?_
   .refine Qg [] (C8.fn call53 Z Z Z) ((ZC _).c _ t) ?_;rintro _ _ ⟨rfl,rfl⟩;exact FE Z Wp
   refine DK.done Z Z ?_;refine vV (iK (p:=g) (q:={BM:=AE,BS:=(-1),Lo:=0,Hi:=0:CC}) pS Z Z) ?_;exact Gl 2 Z d []
  exact au d
 exact au h
def W6(f:CE)(d:CC):AB (CK×Int):=AH (P2 n f d) λg=>(bif (g != 0)then AC ({Lo:=0,Hi:=0:CK},g)else(bif d.BM then AC ({Lo:=0,Hi:=0:CK},230)else AH (MX n f d.BS ({Lo:=d.Lo,Hi:=d.Hi:CK})) λh=>AC ({Lo:=h.Lo,Hi:=h.Hi:CK},0)))
instance bB(d:CE)(f:CC):Kq (W6 n d f) 21 [.a (CE.c d),.a (CC.c f)] [] (λr=>.t [.a [I r.1.Lo,I r.1.Hi],I r.2]) (λr=>[.c 83 [I r.1.Lo,I r.1.Hi]]):=KA func21
abbrev Hz:AA CC:=[{BM:=AE,BS:=(-1),Lo:=0,Hi:=0:CC},{BM:=AD,BS:=(-1),Lo:=100,Hi:=101:CC}]
abbrev C4:AA Ae:=[{BU:=1,AT:=0,Lo:=0,Hi:=5:Ae},{BU:=1,AT:=1,Lo:=100,Hi:=101:Ae}]
abbrev RS:AA CC:=[{BM:=AD,BS:=1,Lo:=1,Hi:=2:CC},{BM:=AD,BS:=1,Lo:=3,Hi:=4:CC}]
abbrev Hy:AA CC:=[{BM:=AD,BS:=(-1),Lo:=100,Hi:=101:CC}]
abbrev Hx:AA CC:=[{BM:=AD,BS:=(-1),Lo:=160,Hi:=161:CC}]
abbrev FM:AA CC:=[{BM:=AE,BS:=(-1),Lo:=0,Hi:=0:CC}]
abbrev Hw:AA CF:=[{UB with BM:=AE:CF}]
abbrev Hv:AA CF:=[{UB with BX:=60:CF}]
abbrev KT:CE:={AS:=[],BP:=[[0]]:CE}
def W2:AB Bool:=AH (AH (LJ n 0 [] [] FM) λf=>(bif (!f)then AC AE else AH (Mu n) λF=>AH (LJ n 0 C4 [] Hy) λg=>(bif (!g)then AC AE else AH (Mu n) λG=>AH (LJ n 0 C4 Hw FM) λh=>(bif (!h)then AC AE else AH (Mu n) λH=>AH (LJ n 100 C4 [] Hz) λj=>(bif (!j)then AC AE else AH (Mu n) λJ=>AH (LJ n 0 C4 Hv Hx) λm=>AC (!m))))):AB Bool) λq=>(bif q then AC AD else AH (LK n) λL=>AH (W6 n (KT) ({BM:=AD,BS:=(-1),Lo:=100,Hi:=101:CC})) λd=>AH (LK n) λM=>AH (W6 n (KT) ({BM:=AE,BS:=(-1),Lo:=0,Hi:=0:CC})) λt=>AH ((bif (({Lo:=d.1.Lo,Hi:=d.1.Hi:CK})==({Lo:=100,Hi:=101:CK}))then(bif (d.2==0)then(bif (t.2==230)then AH (LK n) λN=>AH (P2 n (KT) ({BM:=AE,BS:=(-1),Lo:=0,Hi:=0:CC})) λx=>(bif (x==0)then AH (LK n) λO=>AH (P2 n (KT) Uz) λy=>(bif (y==230)then AH (J7 n RS) λB=>AC ((AI B:Int)==1)else AC AD)else AC AD)else AC AD)else AC AD)else AC AD):AB Bool) λE=>AC E)
instance jO:Ks (W2 n) 6 [] [] (λr=>.b r):=by
 refine Kg 28 func6 Z Z Z Z λr h=>Bd h λm g h=>Ct m [0,1] [1,2] (λm=>[(47,.b m)]) Ze Zf ?_ (λenv H am=>?_)
 .refine G0 0 Z (Hn 34 [5,12,21,29] [(0,0,0),(0,0,0),(0,0,0),(0,0,0),(0,0,0),(1,0,0),(0,0,1),(0,0,1),(0,1,1),(0,1,1),(0,1,1),(0,1,1),(1,1,0),(0,1,2),(0,1,2),(0,1,2),(0,1,2),(0,2,2),(0,2,2),(0,2,2),(0,2,2),(1,2,0),(0,2,3),(0,2,3),(0,2,3),(0,3,3),(0,3,3),(0,3,3),(0,3,3),(1,3,0),(0,3,4),(0,3,4),(0,3,4),(0,3,4)] (by kernel_rfl) (Dk 1 Z ?_));refine DK.wo (x:=.q 4 (map CC.c FM)) ?_ ?_
  .refine vH (QO (xs:=[.tmp 11]) (es:=map CC.c FM) Jf Z Z Z Z Z ⟨Z,trivial⟩ Z Z) ?_;refine aV (.q 4 (map CC.c FM)) [_,_,_] Z Z ?_;exact Wp
  obtain⟨G,N,g⟩:=QE g;refine DK.wo (x:=.b G) ?_ ?_
  .refine Qg [] (C8.fn call19 Z Z Z) (C.nils (FU.eq (FU.nl (FU.nl (FU.eq FU.nil)))) ((Nh _ _ _ _ _).c _ N)) ?_;rintro _ _ ⟨rfl,rfl⟩;refine aV (.b G) [_,_,_] Z Z ?_;exact Wp
  refine Dk 2 Z (DK.is 4 g Z Z Z (λ_ g=>?_) (λ_ g=>?_))
  .exact Dk 29 Z (DK.done Z Z (Gl 4 Z g [0,1]))
  .obtain⟨ar,P,g⟩:=QE g;refine Ex (x:=.o 3 (AI C4) 4) (X1:=[.c 77 [.b AE,I (-1),I 0,I 0],.c 77 [.b AD,I (-1),I 100,I 101],.c 77 [.b AD,I (-1),I 160,I 161],.r 104 4 (map Ae.c C4)]) ?_ ?_
   .refine Qg [] (C8.fn call20 Z Z Z) ((Ng _).c _ P) ?_ (hg:=(gT Z));rintro _ _ ⟨rfl,rfl⟩;refine aV (.o 3 (AI C4) 4) [_,_,_,.r 104 4 (map Ae.c C4)] Z Z ?_;exact Wp
   refine W9 (lo:=0) (hi:=1) (x:=.a [.b AD,I (-1),I 100,I 101]) ⟨Z,Z,trivial⟩ ?_;refine Ke (lo:=0) (hi:=1) (x:=.q 4 (map CC.c Hy)) ⟨?_,?_,trivial⟩ ?_
   .refine vH (QO (xs:=[.tmp 17]) (es:=map CC.c Hy) Jf Z Z Z Z Z ⟨Z,trivial⟩ Z Z) ?_ (gT Z);refine aV (.q 4 (map CC.c Hy)) [_,_,_,_] Z Z ?_;exact Wp
   .refine vH (QO (xs:=[.tmp 17]) (es:=map CC.c Hy) Jf Z Z Z Z Z ⟨Z,trivial⟩ Z Z) ?_ (gT Z);refine aV (.q 4 (map CC.c Hy)) [_,_,_] Z Z ?_;exact Wp
   obtain⟨J,Q,g⟩:=QE g;refine DK.wo (x:=.b J) ?_ ?_
   .refine Zj (C8.fn call19 rfl rfl rfl) (Dv.cons rfl (.inl ⟨rfl,rfl⟩) (Dv.cons rfl (.inr ⟨_,_,_,_,_,rfl,rfl,X0 ..,rfl⟩) (Dv.cons rfl (.inl ⟨rfl,rfl⟩) (Dv.cons rfl (.inl ⟨rfl,rfl⟩) Dv.nil)))) (C.nils (FU.eq (FU.eq (FU.nl (FU.eq FU.nil)))) ((Nh _ _ _ _ _).c _ Q)) (by rintro _ _ ⟨rfl,rfl⟩;rfl) ?_ (gT rfl);rintro _ _ ⟨rfl,rfl⟩;refine aV (.b J) [_,_,_,_] Z Z ?_;exact Wp
   refine Dk 3 Z (DK.is 11 g Z Z Z (λ_ g=>?_) (λ_ g=>?_))
   .exact Dk 22 Z (DK.done Z Z (Gl 4 Z g [0,1]))
   .obtain⟨av,T,g⟩:=QE g;refine Ex (x:=.o 4 (AI C4) 4) (X1:=[.c 77 [.b AE,I (-1),I 0,I 0],.c 77 [.b AD,I (-1),I 100,I 101],.c 77 [.b AD,I (-1),I 160,I 161],.r 104 4 (map Ae.c C4),.r 104 4 (map Ae.c C4)]) ?_ ?_
    .refine Qg [] (C8.fn call20 Z Z Z) ((Ng _).c _ T) ?_ (hg:=(gT Z));rintro _ _ ⟨rfl,rfl⟩;refine aV (.o 4 (AI C4) 4) [_,_,_,_,.r 104 4 (map Ae.c C4)] Z Z ?_;exact Wp
    refine Dk 1 Z ?_;refine Ke (lo:=1) (hi:=2) (x:=.q 4 (map CF.c Hw)) ⟨?_,?_,trivial⟩ ?_
    .refine vH (QO (xs:=[.tmp 24]) (es:=map CF.c Hw) L6 Z Z Z Z Z ⟨Z,trivial⟩ Z Z) ?_ (gT Z);refine aV (.q 4 (map CF.c Hw)) [_,_,_,_,_] Z Z ?_;exact Wp
    .refine vH (QO (xs:=[.tmp 24]) (es:=map CF.c Hw) L6 Z Z Z Z Z ⟨Z,trivial⟩ Z Z) ?_ (gT Z);refine aV (.q 4 (map CF.c Hw)) [_,_,_,_] Z Z ?_;exact Wp
    refine W9 (lo:=1) (hi:=2) (x:=.a [.b AE,I (-1),I 0,I 0]) ⟨Z,Z,trivial⟩ ?_;refine Ke (lo:=1) (hi:=2) (x:=.q 4 (map CC.c FM)) ⟨?_,?_,trivial⟩ ?_
    .refine vH (QO (xs:=[.tmp 26]) (es:=map CC.c FM) Jf Z Z Z Z Z ⟨Z,trivial⟩ Z Z) ?_ (gT Z);refine aV (.q 4 (map CC.c FM)) [_,_,_,_,_] Z Z ?_;exact Wp
    .refine vH (QO (xs:=[.tmp 26]) (es:=map CC.c FM) Jf Z Z Z Z Z ⟨Z,trivial⟩ Z Z) ?_ (gT Z);refine aV (.q 4 (map CC.c FM)) [_,_,_,_] Z Z ?_;exact Wp
    obtain⟨L,V,g⟩:=QE g;refine DK.wo (x:=.b L) ?_ ?_
    .refine Zj (C8.fn call19 rfl rfl rfl) (Dv.cons rfl (.inl ⟨rfl,rfl⟩) (Dv.cons rfl (.inr ⟨_,_,_,_,_,rfl,rfl,X0 ..,rfl⟩) (Dv.cons rfl (.inl ⟨rfl,rfl⟩) (Dv.cons rfl (.inl ⟨rfl,rfl⟩) Dv.nil)))) ((Nh _ _ _ _ _).c _ V) (by rintro _ _ ⟨rfl,rfl⟩;rfl) ?_ (gT rfl);rintro _ _ ⟨rfl,rfl⟩;refine aV (.b L) [_,_,_,_,_] Z Z ?_;exact Wp
    refine Dk 3 Z (DK.is 20 g Z Z Z (λ_ g=>?_) (λ_ g=>?_))
    .exact Dk 13 Z (DK.done Z Z (Gl 4 Z g [0,1]))
    .obtain⟨aw,X,g⟩:=QE g;refine Ex (x:=.o 5 (AI C4) 4) (X1:=[.c 77 [.b AE,I (-1),I 0,I 0],.c 77 [.b AD,I (-1),I 100,I 101],.c 77 [.b AD,I (-1),I 160,I 161],.r 104 4 (map Ae.c C4),.r 104 4 (map Ae.c C4),.r 104 4 (map Ae.c C4)]) ?_ ?_
     .refine Qg [] (C8.fn call20 Z Z Z) ((Ng _).c _ X) ?_ (hg:=(gT Z));rintro _ _ ⟨rfl,rfl⟩;refine aV (.o 5 (AI C4) 4) [_,_,_,_,_,.r 104 4 (map Ae.c C4)] Z Z ?_;exact Wp
     refine W9 (lo:=2) (hi:=3) (x:=.a [.b AE,I (-1),I 0,I 0]) ⟨Z,Z,trivial⟩ ?_;refine W9 (lo:=2) (hi:=3) (x:=.a [.b AD,I (-1),I 100,I 101]) ⟨Z,Z,trivial⟩ ?_;refine Ke (lo:=2) (hi:=3) (x:=.q 4 (map CC.c Hz)) ⟨?_,?_,trivial⟩ ?_
     .refine vH (QO (xs:=[.tmp 33,.tmp 34]) (es:=map CC.c Hz) Jf Z Z Z Z Z ⟨Z,Z,trivial⟩ Z Z) ?_ (gT Z);refine aV (.q 4 (map CC.c Hz)) [_,_,_,_,_,_] Z Z ?_;exact Wp
     .refine vH (QO (xs:=[.tmp 33,.tmp 34]) (es:=map CC.c Hz) Jf Z Z Z Z Z ⟨Z,Z,trivial⟩ Z Z) ?_ (gT Z);refine aV (.q 4 (map CC.c Hz)) [_,_,_,_,_] Z Z ?_;exact Wp
     obtain⟨M,Y,g⟩:=QE g;refine DK.wo (x:=.b M) ?_ ?_
     .refine Zj (C8.fn call19 rfl rfl rfl) (Dv.cons rfl (.inl ⟨rfl,rfl⟩) (Dv.cons rfl (.inr ⟨_,_,_,_,_,rfl,rfl,X0 ..,rfl⟩) (Dv.cons rfl (.inl ⟨rfl,rfl⟩) (Dv.cons rfl (.inl ⟨rfl,rfl⟩) Dv.nil)))) (C.nils (FU.eq (FU.eq (FU.nl (FU.eq FU.nil)))) ((Nh _ _ _ _ _).c _ Y)) (by rintro _ _ ⟨rfl,rfl⟩;rfl) ?_ (gT rfl);rintro _ _ ⟨rfl,rfl⟩;refine aV (.b M) [_,_,_,_,_,_] Z Z ?_;exact Wp
     refine Dk 3 Z (DK.is 28 g Z Z Z (λ_ g=>?_) (λ_ g=>?_))
     .exact Dk 5 Z (DK.done Z Z (Gl 4 Z g [0,1]))
     .obtain⟨ax,ab,g⟩:=QE g;refine Ex (x:=.o 6 (AI C4) 4) (X1:=[.c 77 [.b AE,I (-1),I 0,I 0],.c 77 [.b AD,I (-1),I 100,I 101],.c 77 [.b AD,I (-1),I 160,I 161],.r 104 4 (map Ae.c C4),.r 104 4 (map Ae.c C4),.r 104 4 (map Ae.c C4),.r 104 4 (map Ae.c C4)]) ?_ ?_
      .refine Qg [] (C8.fn call20 Z Z Z) ((Ng _).c _ ab) ?_ (hg:=(gT Z));rintro _ _ ⟨rfl,rfl⟩;refine aV (.o 6 (AI C4) 4) [_,_,_,_,_,_,.r 104 4 (map Ae.c C4)] Z Z ?_;exact Wp
      refine Dk 1 Z ?_;refine Ke (lo:=3) (hi:=4) (x:=.q 4 (map CF.c Hv)) ⟨?_,?_,trivial⟩ ?_
      .refine vH (QO (xs:=[.tmp 41]) (es:=map CF.c Hv) L6 Z Z Z Z Z ⟨Z,trivial⟩ Z Z) ?_ (gT Z);refine aV (.q 4 (map CF.c Hv)) [_,_,_,_,_,_,_] Z Z ?_;exact Wp
      .refine vH (QO (xs:=[.tmp 41]) (es:=map CF.c Hv) L6 Z Z Z Z Z ⟨Z,trivial⟩ Z Z) ?_ (gT Z);refine aV (.q 4 (map CF.c Hv)) [_,_,_,_,_,_] Z Z ?_;exact Wp
      refine W9 (lo:=3) (hi:=4) (x:=.a [.b AD,I (-1),I 160,I 161]) ⟨Z,Z,trivial⟩ ?_;refine Ke (lo:=3) (hi:=4) (x:=.q 4 (map CC.c Hx)) ⟨?_,?_,trivial⟩ ?_
      .refine vH (QO (xs:=[.tmp 43]) (es:=map CC.c Hx) Jf Z Z Z Z Z ⟨Z,trivial⟩ Z Z) ?_ (gT Z);refine aV (.q 4 (map CC.c Hx)) [_,_,_,_,_,_,_] Z Z ?_;exact Wp
      .refine vH (QO (xs:=[.tmp 43]) (es:=map CC.c Hx) Jf Z Z Z Z Z ⟨Z,trivial⟩ Z Z) ?_ (gT Z);refine aV (.q 4 (map CC.c Hx)) [_,_,_,_,_,_] Z Z ?_;exact Wp
      exact DK.done Z Z (Cb g Kc Z (ls (lo (ls (ls ln)))) λay aq g=>Gl 3 Z g [0,1])
 refine Gx 1 Z (Ee am (Cn Z h (λ_ h=>?_) (λ_ h=>?_)))
 .exact au h
 refine Gc 3 Z ?_;obtain⟨az,t,h⟩:=QE h;obtain⟨d,y,h⟩:=QE h;refine Yv 8 1 [49,50,51,48,52,53,4,1000007] [AE,AD,AE,AD,AD,AD,AE,AE] [[],[],[0],[0,2],[0,2],[0,2],[],[0,2,6]] [[],[0],[6],[0,2],[0,6],[0,2,6],[0,2,6,7]] [[(0,1),(2,4)],[(0,0),(1,1),(2,2),(4,4)],[(1,3),(4,5)],[(3,3),(5,5)],[(3,3),(5,5)],[(3,3),(5,5),(6,6)],[(0,2),(1,4),(3,5)],[(5,6)]] [.a [.q 3 (map CD.c []),.q 1 (map (Qu 1 eI) [[0]])],.a [.b AD,I (-1),I 100,I 101],.t [.a [I d.1.Lo,I d.1.Hi],I d.2],.t [.a [I d.1.Lo,I d.1.Hi],I d.2],.a [I d.1.Lo,I d.1.Hi],I d.2,.p 2 0,.any] [[.c 77 [.b AE,I (-1),I 0,I 0],.c 77 [.b AD,I (-1),I 100,I 101],.dead],[.c 77 [.b AE,I (-1),I 0,I 0],.c 77 [.b AD,I (-1),I 100,I 101],.dead,.dead,.c 39 [.q 3 (map CD.c []),.q 1 (map (Qu 1 eI) [[0]])]],[.c 77 [.b AE,I (-1),I 0,I 0],.c 77 [.b AD,I (-1),I 100,I 101],.c 83 [I 0,I 0]],[.c 77 [.b AE,I (-1),I 0,I 0],.c 77 [.b AD,I (-1),I 100,I 101],.dead,.dead,.c 39 [.q 3 (map CD.c []),.q 1 (map (Qu 1 eI) [[0]])],.c 83 [I d.1.Lo,I d.1.Hi]],[.c 77 [.b AE,I (-1),I 0,I 0],.c 77 [.b AD,I (-1),I 100,I 101],.c 83 [I 0,I 0],.dead,.c 39 [.q 3 (map CD.c []),.q 1 (map (Qu 1 eI) [[0]])]],[.c 77 [.b AE,I (-1),I 0,I 0],.c 77 [.b AD,I (-1),I 100,I 101],.c 83 [I 0,I 0],.dead,.c 39 [.q 3 (map CD.c []),.q 1 (map (Qu 1 eI) [[0]])],.c 83 [I d.1.Lo,I d.1.Hi]],[.c 77 [.b AE,I (-1),I 0,I 0],.c 77 [.b AD,I (-1),I 100,I 101],.c 83 [I d.1.Lo,I d.1.Hi],.dead,.c 39 [.q 3 (map CD.c []),.q 1 (map (Qu 1 eI) [[0]])],.c 83 [I d.1.Lo,I d.1.Hi]]] ([.c 77 [.b AE,I (-1),I 0,I 0],.c 77 [.b AD,I (-1),I 100,I 101],.c 83 [I d.1.Lo,I d.1.Hi],.dead,.c 39 [.q 3 (map CD.c []),.q 1 (map (Qu 1 eI) [[0]])],.c 83 [I d.1.Lo,I d.1.Hi]]) DF Z Z Z Z Z Z Z ?_ Z ?_
 .refine Cq.cons ?_ (M1 (Cq.cons ?_ (M1 (M1 (M1 (Cq.cons ?_ (Cq.cons ?_ (Cq.nil))))))))
  .refine Qb ?_ (Qb ?_ (Qf))
   iterate 2 refine F9 Z sN ?_;refine Qg [] (C8.fn call22 Z Z Z) ((f_ _).c _ t) ?_;rintro _ _ ⟨rfl,rfl⟩;refine aV (.a [.q 3 (map CD.c []),.o 3 ([[0]].length) 1]) [_,_,_,.r 73 1 (map (Qu 1 eI) [[0]]),.c 39 [.q 3 (map CD.c []),.o 3 ([[0]].length) 1]] Z Z ?_;refine Et (Yl [(49,_)] Z Z (Cx.cons Z (DN.agg (CW.k (Ed Ep (Ej _)))) Cx.nil) (Ec (Ec (Ec (Ec (Dm.cells (CW.k (Ed Ep (Ej _))) (QU _))))))) ?_;refine Et TD ?_;exact Wp
  .refine Qb ?_ (Qb ?_ (Qf))
   iterate 2 refine F9 Z (sD 0 (sD 1 sN)) ?_;refine Qg [] (C8.fn call21 Z Z Z) ((bB _ _ _).c _ y) ?_;rintro _ _ ⟨rfl,rfl⟩;refine aV (.t [.a [I d.1.Lo,I d.1.Hi],I d.2]) [_,_,_,_,_,.c 83 [I d.1.Lo,I d.1.Hi]] Z Z ?_;exact Wp
  .refine Qb ?_ (Qb ?_ (Qb ?_ (Qf)))
   iterate 3 exact Jm.alloc _ 4 83 2 _ Z Z Z Z Z Z Z (JW.alloc (v:=(.a [I 0,I 0])) EI (Fu Z)) Z
  .refine Qb ?_ (Qf)
   .refine TH Z (sD 6 (sD 4 sN)) ?_;refine vU (Ey Z Z Z Ge Z Z Z Z Z Z Z) ?_;refine N7 (H:=[_,_,.c 83 [I d.1.Lo,I d.1.Hi],_,_,_]) Z ?_;exact Wp
 refine Go 4 Z ?_;obtain⟨ba,B,h⟩:=QE h;obtain⟨f,E,h⟩:=QE h;refine Yv 8 1 [55,56,57,54,58,59,6,1000007] [AE,AD,AE,AD,AD,AD,AE,AE] [[],[],[0],[0,2],[0,2],[0,2],[],[0,2,6]] [[],[0],[6],[0,2],[0,6],[0,2,6],[0,2,6,7]] [[(0,1),(2,4)],[(0,0),(1,1),(2,2),(4,4)],[(1,3),(4,5)],[(3,3),(5,5)],[(3,3),(5,5)],[(3,3),(5,5),(6,6)],[(0,2),(1,4),(3,5)],[(5,6)]] [.a [.q 3 (map CD.c []),.q 1 (map (Qu 1 eI) [[0]])],.a [.b AE,I (-1),I 0,I 0],.t [.a [I f.1.Lo,I f.1.Hi],I f.2],.t [.a [I f.1.Lo,I f.1.Hi],I f.2],.a [I f.1.Lo,I f.1.Hi],I f.2,.p 6 0,.any] [[.c 77 [.b AE,I (-1),I 0,I 0],.c 77 [.b AD,I (-1),I 100,I 101],.c 83 [I d.1.Lo,I d.1.Hi],.dead,.c 39 [.q 3 (map CD.c []),.q 1 (map (Qu 1 eI) [[0]])],.c 83 [I d.1.Lo,I d.1.Hi],.dead],[.c 77 [.b AE,I (-1),I 0,I 0],.c 77 [.b AD,I (-1),I 100,I 101],.c 83 [I d.1.Lo,I d.1.Hi],.dead,.c 39 [.q 3 (map CD.c []),.q 1 (map (Qu 1 eI) [[0]])],.c 83 [I d.1.Lo,I d.1.Hi],.dead,.dead,.c 39 [.q 3 (map CD.c []),.q 1 (map (Qu 1 eI) [[0]])]],[.c 77 [.b AE,I (-1),I 0,I 0],.c 77 [.b AD,I (-1),I 100,I 101],.c 83 [I d.1.Lo,I d.1.Hi],.dead,.c 39 [.q 3 (map CD.c []),.q 1 (map (Qu 1 eI) [[0]])],.c 83 [I d.1.Lo,I d.1.Hi],.c 83 [I 0,I 0]],[.c 77 [.b AE,I (-1),I 0,I 0],.c 77 [.b AD,I (-1),I 100,I 101],.c 83 [I d.1.Lo,I d.1.Hi],.dead,.c 39 [.q 3 (map CD.c []),.q 1 (map (Qu 1 eI) [[0]])],.c 83 [I d.1.Lo,I d.1.Hi],.dead,.dead,.c 39 [.q 3 (map CD.c []),.q 1 (map (Qu 1 eI) [[0]])],.c 83 [I f.1.Lo,I f.1.Hi]],[.c 77 [.b AE,I (-1),I 0,I 0],.c 77 [.b AD,I (-1),I 100,I 101],.c 83 [I d.1.Lo,I d.1.Hi],.dead,.c 39 [.q 3 (map CD.c []),.q 1 (map (Qu 1 eI) [[0]])],.c 83 [I d.1.Lo,I d.1.Hi],.c 83 [I 0,I 0],.dead,.c 39 [.q 3 (map CD.c []),.q 1 (map (Qu 1 eI) [[0]])]],[.c 77 [.b AE,I (-1),I 0,I 0],.c 77 [.b AD,I (-1),I 100,I 101],.c 83 [I d.1.Lo,I d.1.Hi],.dead,.c 39 [.q 3 (map CD.c []),.q 1 (map (Qu 1 eI) [[0]])],.c 83 [I d.1.Lo,I d.1.Hi],.c 83 [I 0,I 0],.dead,.c 39 [.q 3 (map CD.c []),.q 1 (map (Qu 1 eI) [[0]])],.c 83 [I f.1.Lo,I f.1.Hi]],[.c 77 [.b AE,I (-1),I 0,I 0],.c 77 [.b AD,I (-1),I 100,I 101],.c 83 [I d.1.Lo,I d.1.Hi],.dead,.c 39 [.q 3 (map CD.c []),.q 1 (map (Qu 1 eI) [[0]])],.c 83 [I d.1.Lo,I d.1.Hi],.c 83 [I f.1.Lo,I f.1.Hi],.dead,.c 39 [.q 3 (map CD.c []),.q 1 (map (Qu 1 eI) [[0]])],.c 83 [I f.1.Lo,I f.1.Hi]]] ([.c 77 [.b AE,I (-1),I 0,I 0],.c 77 [.b AD,I (-1),I 100,I 101],.c 83 [I d.1.Lo,I d.1.Hi],.dead,.c 39 [.q 3 (map CD.c []),.q 1 (map (Qu 1 eI) [[0]])],.c 83 [I d.1.Lo,I d.1.Hi],.c 83 [I f.1.Lo,I f.1.Hi],.dead,.c 39 [.q 3 (map CD.c []),.q 1 (map (Qu 1 eI) [[0]])],.c 83 [I f.1.Lo,I f.1.Hi]]) DF Z Z Z Z Z Z Z ?_ Z ?_
 .refine Cq.cons ?_ (M1 (Cq.cons ?_ (M1 (M1 (M1 (Cq.cons ?_ (Cq.cons ?_ (Cq.nil))))))))
  .refine Qb ?_ (Qb ?_ (Qf))
   iterate 2 refine F9 Z sN ?_;refine Qg [] (C8.fn call22 Z Z Z) ((f_ _).c _ B) ?_;rintro _ _ ⟨rfl,rfl⟩;refine aV (.a [.q 3 (map CD.c []),.o 7 ([[0]].length) 1]) [_,_,_,_,_,_,_,.r 73 1 (map (Qu 1 eI) [[0]]),.c 39 [.q 3 (map CD.c []),.o 7 ([[0]].length) 1]] Z Z ?_;refine Et (Yl [(55,_)] Z Z (Cx.cons Z (DN.agg (CW.k (Ed Ep (Ej _)))) Cx.nil) (Ec (Ec (Ec (Ec (Ec (Ec (Ec (Ec (Dm.cells (CW.k (Ed Ep (Ej _))) (QU _))))))))))) ?_;refine Et TD ?_;exact Wp
  .refine Qb ?_ (Qb ?_ (Qf))
   iterate 2 refine F9 Z (sD 0 (sD 1 sN)) ?_;refine Qg [] (C8.fn call21 Z Z Z) ((bB _ _ _).c _ E) ?_;rintro _ _ ⟨rfl,rfl⟩;refine aV (.t [.a [I f.1.Lo,I f.1.Hi],I f.2]) [_,_,_,_,_,_,_,_,_,.c 83 [I f.1.Lo,I f.1.Hi]] Z Z ?_;exact Wp
  .refine Qb ?_ (Qb ?_ (Qb ?_ (Qf)))
   iterate 3 exact Jm.alloc _ 6 83 6 _ Z Z Z Z Z Z Z (JW.alloc (v:=(.a [I 0,I 0])) EI (Fu Z)) Z
  .refine Qb ?_ (Qf)
   .refine TH Z (sD 6 (sD 4 sN)) ?_;refine vU (Ey Z Z Z Ge Z Z Z Z Z Z Z) ?_;refine N7 (H:=[_,_,_,_,_,_,.c 83 [I f.1.Lo,I f.1.Hi],_,_,_]) Z ?_;exact Wp
 refine Go 4 Z (Bd h λF j h=>Cg F [] [] (λF=>[(0,.b F)]) Ze Zf ?_ ?_)
 .refine G0 0 Z (Hn 26 [12,18] [(0,0,0),(0,0,0),(0,0,0),(0,0,0),(0,0,0),(0,0,0),(0,0,0),(0,0,0),(0,0,0),(0,0,0),(0,0,0),(0,0,0),(1,0,0),(0,0,1),(0,1,1),(0,1,1),(0,1,1),(0,1,1),(1,1,0),(0,1,2),(0,2,2),(0,2,2),(0,2,2),(0,2,2),(0,2,2),(0,2,2)] (by kernel_rfl) (Dk 2 Z ?_));refine DK.wo (x:=.b (({Lo:=d.1.Lo,Hi:=d.1.Hi:CK})==({Lo:=100,Hi:=101:CK}))) ?_ ?_
  .refine vX (.b (({Lo:=d.1.Lo,Hi:=d.1.Hi:CK})==({Lo:=100,Hi:=101:CK}))) (iK (p:={Lo:=d.1.Lo,Hi:=d.1.Hi:CK}) (q:={Lo:=100,Hi:=101:CK}) Z? Z Z) ?_;exact Wp
  refine Dk 1 Z (DK.is 3 j Z Z Z (λ_ j=>?_) (λ_ j=>?_))
  .refine Dk 4 Z (DK.is 7 j Z Z Z (λ_ j=>?_) (λ_ j=>?_))
   .refine Dk 4 Z (DK.is 11 j Z Z Z (λ_ j=>?_) (λ_ j=>?_))
    .obtain⟨bb,ag,j⟩:=QE j;refine Ex (x:=.a [.q 3 (map CD.c []),.q 1 (map (Qu 1 eI) [[0]])]) (X1:=[.c 77 [.b AE,I (-1),I 0,I 0],.c 77 [.b AD,I (-1),I 100,I 101],.c 83 [I d.1.Lo,I d.1.Hi],.dead,.c 39 [.q 3 (map CD.c []),.q 1 (map (Qu 1 eI) [[0]])],.c 83 [I d.1.Lo,I d.1.Hi],.c 83 [I f.1.Lo,I f.1.Hi],.dead,.c 39 [.q 3 (map CD.c []),.q 1 (map (Qu 1 eI) [[0]])],.c 83 [I f.1.Lo,I f.1.Hi],.dead,.c 39 [.q 3 (map CD.c []),.q 1 (map (Qu 1 eI) [[0]])]]) ?_ ?_
     .refine Qg [] (C8.fn call22 Z Z Z) ((f_ _).c _ ag) ?_ (hg:=(gT Z));rintro _ _ ⟨rfl,rfl⟩;refine aV (.a [.q 3 (map CD.c []),.o 10 ([[0]].length) 1]) [_,_,_,_,_,_,_,_,_,_,.r 73 1 (map (Qu 1 eI) [[0]]),.c 39 [.q 3 (map CD.c []),.o 10 ([[0]].length) 1]] Z Z ?_;refine Et (Yl [(72,_)] Z Z (Cx.cons Z (DN.agg (CW.k (Ed Ep (Ej _)))) Cx.nil) (Ec (Ec (Ec (Ec (Ec (Ec (Ec (Ec (Ec (Ec (Ec (Dm.cells (CW.k (Ed Ep (Ej _))) (QU _)))))))))))))) ?_;refine Et TD ?_;exact Wp
     refine W9 (lo:=0) (hi:=1) (x:=.a [.b AE,I (-1),I 0,I 0]) ⟨Z,Z,trivial⟩ ?_;obtain⟨an,ah,j⟩:=QE j;refine DK.wo (x:=I an) ?_ ?_
     .exact Pc [] Z (C8.fn call18 Z Z Z) ((bA _ _ _).c _ ah) (hg:=(gT Z)) Z Wp
     refine Dk 3 Z (DK.is 17 j Z Z Z (λ_ j=>?_) (λ_ j=>?_))
     .obtain⟨bc,aj,j⟩:=QE j;refine Ex (x:=.a [.q 3 (map CD.c []),.q 1 (map (Qu 1 eI) [[0]])]) (X1:=[.c 77 [.b AE,I (-1),I 0,I 0],.c 77 [.b AD,I (-1),I 100,I 101],.c 83 [I d.1.Lo,I d.1.Hi],.dead,.c 39 [.q 3 (map CD.c []),.q 1 (map (Qu 1 eI) [[0]])],.c 83 [I d.1.Lo,I d.1.Hi],.c 83 [I f.1.Lo,I f.1.Hi],.dead,.c 39 [.q 3 (map CD.c []),.q 1 (map (Qu 1 eI) [[0]])],.c 83 [I f.1.Lo,I f.1.Hi],.dead,.c 39 [.q 3 (map CD.c []),.q 1 (map (Qu 1 eI) [[0]])],.dead,.c 39 [.q 3 (map CD.c []),.q 1 (map (Qu 1 eI) [[0]])]]) ?_ ?_
      .refine Qg [] (C8.fn call22 Z Z Z) ((f_ _).c _ aj) ?_ (hg:=(gT Z));rintro _ _ ⟨rfl,rfl⟩;refine aV (.a [.q 3 (map CD.c []),.o 12 ([[0]].length) 1]) [_,_,_,_,_,_,_,_,_,_,_,_,.r 73 1 (map (Qu 1 eI) [[0]]),.c 39 [.q 3 (map CD.c []),.o 12 ([[0]].length) 1]] Z Z ?_;refine Et (Yl [(78,_)] Z Z (Cx.cons Z (DN.agg (CW.k (Ed Ep (Ej _)))) Cx.nil) (Ec (Ec (Ec (Ec (Ec (Ec (Ec (Ec (Ec (Ec (Ec (Ec (Ec (Dm.cells (CW.k (Ed Ep (Ej _))) (QU _)))))))))))))))) ?_;refine Et TD ?_;exact Wp
      refine Dk 1 Z ?_;obtain⟨ao,ak,j⟩:=QE j;refine DK.wo (x:=I ao) ?_ ?_
      .exact Pc [] Z (C8.fn call18 Z Z Z) ((bA _ _ _).c _ ak) (hg:=(gT Z)) Z Wp
      refine Dk 3 Z (DK.is 23 j Z Z Z (λ_ j=>?_) (λ_ j=>?_))
      .refine Dk 2 Z (DK.done Z Z ?_);refine vH (QO (xs:=[.tmp 84,.tmp 85]) (es:=map CC.c RS) Jf Z Z Z Z Z ⟨Z,Z,trivial⟩ Z Z) ?_ (gT Z);exact au j
      .exact Dk 2 Z (DK.done Z Z (Gl 7 Z j []))
     .exact Dk 8 Z (DK.done Z Z (Gl 7 Z j []))
    .exact Dk 14 Z (DK.done Z Z (Gl 7 Z j []))
   .exact Dk 18 Z (DK.done Z Z (Gl 7 Z j []))
  .exact Dk 22 Z (DK.done Z Z (Gl 7 Z j []))
 exact au h
def MS(n:Nat)(f:AA CH)(rec213:(AA CH)->AB Int)(d:Int×Int):AB (CG (Int×Int) Int):=AH ((bif d.2<(AI f:Int) then AC (AG (d.1<=256))else AC AD):AB Bool) λg=>(bif g then AH (CJ f d.2) λh=>AH (rec213 h.Ac) λj=>AC (.k (i64.wrap (d.1+j),i64.wrap (d.2+1)))else AC (.d d.1))
def X_(rec213:(AA CH)->AB Int)(n:Nat)(f:AA CH):AB Int:=AH (iter (MS n f rec213) n ((AI f:Int),0):AB Int) λd=>AC (if 257<d then 257 else d)
theorem Qbc(rec213:(AA CH)->AB Int)(y:∀(f:AA CH),Ks (rec213 f) 66 [.q 3 (map CH.enc f)] [] (λr=>I r))(n:Nat)(f:AA CH):Ks (X_ rec213 n f) 66 [.q 3 (map CH.enc f)] [] (λr=>I r):=by
 refine Kg 8 func66 Z Z Z Z λr h=>Lg 9 Z Z (Bd h λg B h=>Cg g [] [] (λg=>[(3,I g)]) Ze Zf ?_ ?_)
 .refine G0 1 Z (Lp [] [0] (λj=>[(3,I j.1),(4,I j.2)]) Ze B Zf (Lr []) λj H d q=>?_);refine G0 2 Z (Bd d λm E d=>Cg m [] [0,3,4] (λm=>[(14,.b m)]) Ze Zf ?_ ?_)
  .exact au E
  refine Q8 Z d (λ_ d=>?_) (λ_ d=>?_)
  .exact Je q d
  exact Gc 8 Z (Bd d λF x d=>FW x (QN F) Z (Go 2 Z (Cz [] d Kc Z λJ G d=>Go 10 Z (Q1 d (Lr [])))))
 exact au h
def KM:Nat->(AA CH)->AB Int
  |0=>λ_=>AF
  |n+1=>X_ (KM n) n
instance _E:∀(d:AA CH),Ks (KM n d) 66 [.q 3 (map CH.enc d)] [] (λr=>I r):=by
  induction n with
  |zero=>exact λ_=>⟨nofun⟩
  |succ n ih=>exact Qbc _ ih n
def K5(n:Nat)(g:AA CH)(h:Int)(rec214:(AA CH)->Int->AB Int)(d:Int×Int):AB (CG (Int×Int) Int):=AH ((bif d.2<(AI g:Int) then AC (AG (0<h))else AC AD):AB Bool) λj=>(bif j then AH (CJ g d.2) λm=>AH ((bif ((AI m.Ac:Int) != 0)then AH (CJ g d.2) λq=>AH (rec214 q.Ac (i64.wrap (h-1))) λf=>AC (if d.1<i64.wrap (1+f)then i64.wrap (1+f)else d.1)else AC d.1):AB Int) λt=>AC (.k (t,i64.wrap (d.2+1)))else AC (.d d.1))
def im(rec214:(AA CH)->Int->AB Int)(n:Nat)(f:AA CH)(g:Int):AB Int:=AH (iter (K5 n f g rec214) n (0,0):AB Int) λd=>AC d
theorem Qbb(rec214:(AA CH)->Int->AB Int)(L:∀(g:AA CH) (j:Int),Ks (rec214 g j) 67 [.q 3 (map CH.enc g),I j] [] (λr=>I r))(n:Nat)(g:AA CH)(j:Int):Ks (im rec214 n g j) 67 [.q 3 (map CH.enc g),I j] [] (λr=>I r):=by
 refine Kg 16 func67 Z Z Z Z λr h=>Bd h λm M h=>Cg m [] [] (λm=>[(5,I m)]) Ze Zf ?_ ?_
 .refine G0 1 Z (Lp [] [0,1] (λq=>[(5,I q.1),(6,I q.2)]) Ze M Zf (Lr []) λq R d B=>?_);refine G0 2 Z (Bd d λt N d=>Ct t [] [0,1,5,6] (λt=>[(14,.b t)]) Ze Zf ?_ (λenv H x=>?_))
  .exact au N
  refine Gx 1 Z (Ee x (Q8 Z d (λ_ d=>?_) (λ_ d=>?_)))
  .exact Je B d
  refine Gc 8 Z (Bd d λO F d=>FW F (QN O) Z (Go 2 Z (Lg 3 Z Z (Bd d λy f d=>Ct y [] [0,1,6] (λy=>[(5,I y)]) Ze Zf ?_ (λenv H x=>?_)))))
  .refine G0 0 Z (Cn Z f (λ_ f=>?_) (λ_ f=>?_))
   .refine Gc 4 Z (Bd f λP J f=>FW J (QN P) Z (Go 4 Z (Cz [] f Kc Z λT Q f=>Go 1 Z ?_)));exact au f
   exact au f
  exact Gx 2 Z (Ee x (Gc 5 Z (Q1 d (Lr []))))
 exact au h
def Ru:Nat->(AA CH)->Int->AB Int
  |0=>λ_ _=>AF
  |n+1=>im (Ru n) n
instance k_v:∀(d:AA CH) (f:Int),Ks (Ru n d f) 67 [.q 3 (map CH.enc d),I f] [] (λr=>I r):=by
  induction n with
  |zero=>exact λ_ _=>⟨nofun⟩
  |succ n ih=>exact Qbb _ ih n
def Mj(n:Nat)(d:AR):AB Bool:=AH ((bif (d.AX==0)then(bif (d.B0==0)then(bif (d.N==0)then AC ((AI d.Ac:Int)==0)else AC AD)else AC AD)else AC AD):AB Bool) λf=>AC f
instance zC(d:AR):Ks (Mj n d) 181 [.a (AR.c d)] [] (λr=>.b r):=KA func181
def MN(n:Nat)(f:AR)(m:Int)(rec218:AR->Int->AB Int)(d:Int×Int):AB (CG (Int×Int) Int):=AH ((bif d.2<(AI f.Ac:Int) then AC (AG (d.1<=256))else AC AD):AB Bool) λg=>(bif g then AH (CJ f.Ac d.2) λh=>AH (rec218 h (i64.wrap (m+1))) λj=>AC (.k (i64.wrap (d.1+j),i64.wrap (d.2+1)))else AC (.d d.1))
def iq(rec218:AR->Int->AB Int)(n:Nat)(g:AR)(d:Int):AB Int:=(bif 16<d then AC 1000 else AH (iter (MN n g d rec218) n (1,0):AB Int) λf=>AC f)
theorem Qal(rec218:AR->Int->AB Int)(B:∀(f:AR) (g:Int),Ks (rec218 f g) 182 [.a (AR.c f),I g] [] (λr=>I r))(n:Nat)(f:AR)(g:Int):Ks (iq rec218 n f g) 182 [.a (AR.c f),I g] [] (λr=>I r):=by
 refine Kg 13 func182 Z Z Z Z λr h=>Cn Z h (λ_ h=>?_) (λ_ h=>?_)
 .exact au h
 refine Gc 13 Z (Bd h λj F h=>Cg j [] [] (λj=>[(5,I j)]) Ze Zf ?_ ?_)
 .refine G0 1 Z (Lp [0] [1,2] (λm=>[(5,I m.1),(6,I m.2)]) Ze F Zf (Lr [0]) λm L d t=>?_);refine G0 2 Z (Bd d λq G d=>Cg q [0] [1,2,5,6] (λq=>[(17,.b q)]) Ze Zf ?_ ?_)
  .exact au G
  refine Q8 Z d (λ_ d=>?_) (λ_ d=>?_)
  .exact Je t d
  exact Gc 9 Z (Bd d λH y d=>FW y (Jj H) Z (Go 3 Z (Cz [] d Kc Z λM J d=>Go 10 Z (Q1 d (Lr [0])))))
 exact au h
def OA:Nat->AR->Int->AB Int
  |0=>λ_ _=>AF
  |n+1=>iq (OA n) n
instance k_r:∀(d:AR) (f:Int),Ks (OA n d f) 182 [.a (AR.c d),I f] [] (λr=>I r):=by
  induction n with
  |zero=>exact λ_ _=>⟨nofun⟩
  |succ n ih=>exact Qal _ ih n
def MP(f:AA AY)(j:Int)(rec216:(AA AY)->Int->AB (Int×Int))(d:Int×Int×Int):AB (CG (Int×Int×Int) (Int×Int)):=AH ((bif d.2.2<(AI f:Int) then(bif d.1<=64 then AC (AG (d.2.1<=256))else AC AD)else AC AD):AB Bool) λm=>(bif m then AH (CJ f d.2.2) λq=>AH (rec216 q.Ba (i64.wrap (j+1))) λg=>AH (CJ f d.2.2) λt=>AH (rec216 t.Bh (i64.wrap (j+1))) λh=>AH (CJ f d.2.2) λx=>AH (Mj n x.AR) λy=>AH ((bif (!y)then AH (CJ f d.2.2) λB=>AH (OA n B.AR 0) λE=>AC (i64.wrap ((i64.wrap ((i64.wrap (d.2.1+g.2))+h.2))+E))else AC (i64.wrap ((i64.wrap (d.2.1+g.2))+h.2))):AB Int) λF=>AC (.k (i64.wrap ((i64.wrap ((i64.wrap (d.1+1))+g.1))+h.1),F,i64.wrap (d.2.2+1)))else AC (.d (d.1,d.2.1)))
def ip(rec216:(AA AY)->Int->AB (Int×Int))(n:Nat)(f:AA AY)(g:Int):AB (Int×Int):=AH ((bif 0<(AI f:Int) then AC (AG (16<g))else AC AD):AB Bool) λh=>(bif h then AC (1000,1000)else AH (iter (MP n f g rec216) n (0,0,0):AB (Int×Int)) λd=>AC (d.1,d.2))
theorem Qbm(rec216:(AA AY)->Int->AB (Int×Int))(O:∀(q:AA AY) (t:Int),Ks (rec216 q t) 110 [.q 8 (map AY.enc q),I t] [] (λr=>.t [I r.1,I r.2]))(n:Nat)(q:AA AY)(t:Int):Ks (ip rec216 n q t) 110 [.q 8 (map AY.enc q),I t] [] (λr=>.t [I r.1,I r.2]):=by
 refine Kg 8 func110 Z Z Z Z λr h=>Bd h λB Y h=>Ct B [] [0,1] (λB=>[(19,.b B)]) Ze Zf ?_ (λenv H g=>?_)
 .exact au Y
 refine Gx 1 Z (Ee g (Cn Z h (λ_ h=>?_) (λ_ h=>?_)))
 .exact au h
 refine Gc 18 Z (Bd h λj Q h=>Cg j [] [] (λj=>[(6,I j.1),(7,I j.2)]) Ze Zf ?_ ?_)
 .refine G0 1 Z (Lp [] [0,1] (λm=>[(6,I m.1),(7,I m.2.1),(8,I m.2.2)]) Ze Q Zf (Lr []) λm ae d E=>?_);refine G0 2 Z (Bd d λx R d=>Ct x [] [0,1,6,7,8] (λx=>[(31,.b x)]) Ze Zf ?_ (λenv H g=>?_))
  .exact au R
  refine Gx 1 Z (Ee g (Q8 Z d (λ_ d=>?_) (λ_ d=>?_)))
  .exact Je E d
  refine Gc 8 Z (Bd d λT G d=>FW G (Yr T) Z (Go 4 Z (Cd [] d Kc Z λaf aa d=>Fg 11 Z Z (Bd d λV J d=>FW J (Yr V) Z (Go 4 Z (Cd [] d Kc Z λag ab d=>Fg 32 Z Z (Bd d λW L d=>FW L (Yr W) Z (Go 2 Z (Cz [] d Kc Z λah ac d=>Go 3 Z (Bd d λy f d=>Ct y [] [0,1,6,8] (λy=>[(7,I y)]) Ze Zf ?_ (λenv H g=>?_)))))))))))
  .refine G0 0 Z (Cn Z f (λ_ f=>?_) (λ_ f=>?_))
   .exact Gc 4 Z (Bd f λX N f=>FW N (Yr X) Z (Go 2 Z (Cz [] f Kc Z λai ad f=>Gl 3 Z f [])))
   exact au f
  exact Gx 2 Z (Ee g (Gc 5 Z (Q1 d (Lr []))))
 exact au h
def Rw:Nat->(AA AY)->Int->AB (Int×Int)
  |0=>λ_ _=>AF
  |n+1=>ip (Rw n) n
instance k_t:∀(d:AA AY) (f:Int),Ks (Rw n d f) 110 [.q 8 (map AY.enc d),I f] [] (λr=>.t [I r.1,I r.2]):=by
  induction n with
  |zero=>exact λ_ _=>⟨nofun⟩
  |succ n ih=>exact Qbm _ ih n
def O1(d:AA AY):AB Bool:=AH (Rw n d 0) λf=>AH ((bif (AI d:Int)<=20 then(bif f.1<=80 then AC (AG (f.2<=300))else AC AD)else AC AD):AB Bool) λg=>AC g
instance xm(d:AA AY):Ks (O1 n d) 68 [.q 8 (map AY.enc d)] [] (λr=>.b r):=KA func68
def K4(f:CB)(d:Int×Int):AB (CG (Int×Int) (CG Int Bool)):=AH ((bif d.2<(AI f.AO:Int) then AC (AG (d.1<=200))else AC AD):AB Bool) λg=>(bif g then AH (CJ f.AO d.2) λh=>AH (CJ f.AO d.2) λj=>AH (KM n j.Af) λm=>AH (CJ f.AO d.2) λq=>AH (Ru n q.Af 17) λt=>(bif 16<t then AC (.d (.d AD))else AC (.k (i64.wrap ((i64.wrap (d.1+(AI h.Aq:Int)))+m),i64.wrap (d.2+1))))else AC (.d (.k d.1)))
def LE(d:CB):AB Bool:=AH (iter (K4 n d) n (i64.wrap ((i64.wrap ((i64.wrap ((i64.wrap ((i64.wrap ((i64.wrap ((AI d.Av:Int)+(AI d.A4:Int)))+(AI d.AO:Int)))+(AI d.Ap:Int)))+(AI d.Ab:Int)))+(AI d.AV:Int)))+(AI d.A3:Int)),0):AB (CG Int Bool)) λg=>match g with|.k f=>(AH ((bif f<=200 then(bif (AI d.An:Int)<=100 then AH (O1 n d.BN) λh=>AC h else AC AD)else AC AD):AB Bool) λj=>AC j)|.d f=>AC f
instance zO(J:CB):Ks (LE n J) 23 [.a (CB.c J)] [] (λr=>.b r):=by
 refine Kg 10 func23 Z Z Z Z λr h=>Lg 2 Z Z (Lg 3 Z Z (Lg 3 Z Z (Lg 3 Z Z (Lg 3 Z Z (Lg 3 Z Z (Lg 10 Z Z (Bd h λL M h=>Fe (b:=L) [0] [1] (λj=>[(3,I j)]) Ze Zf ?_ (λj env H N m=>?_))))))))
 .refine G0 1 Z (Lp [0] [1] (λq=>[(3,I q.1),(4,I q.2)]) Ze M Zf (Lr [0]) λq Q d t=>?_);refine G0 2 Z (Bd d λy O d=>Ct y [0] [1,3,4] (λy=>[(40,.b y)]) Ze Zf ?_ (λenv H m=>?_))
  .exact au O
  refine Gx 1 Z (Ee m (Q8 Z d (λ_ d=>?_) (λ_ d=>?_)))
  .exact Je t d
  refine Gc 5 Z (DU 16 Z (D 4 Z ?_));obtain⟨f,F,d⟩:=QE d;refine DS.wo (x:=.rp [.str f.An,.q 3 (map CH.enc f.Af),I f.A9,.q 3 (map CO.c f.Aq),I f.Am]) ?_ ?_
  .exact Ix F EJ EW Z Wp
  refine D 2 Z ?_;refine DS.wo (x:=I (AI f.Aq:Int)) ?_ ?_
  .exact m5 GF Z Wp
  refine D 4 Z ?_;obtain⟨g,G,d⟩:=QE d;refine DS.wo (x:=.rp [.str g.An,.q 3 (map CH.enc g.Af),I g.A9,.q 3 (map CO.c g.Aq),I g.Am]) ?_ ?_
  .exact Ix G EJ EW Z Wp
  exact DX t d h
 subst N;refine Gx 1 Z (Ee m (Gc 1 Z (Bd h λB P h=>Cg B [] [] (λB=>[(2,.b B)]) Ze Zf ?_ ?_)))
 .exact au P
 exact au h
def T_(g:CB)(d:Int):AB (CG Int (CG Unit Bool)):=(bif d<(AI g.AO:Int) then AH (CJ g.AO d) λf=>AH ((bif 64<(AI f.Aq:Int) then AC AE else AH (Ru n f.Af 17) λh=>(bif 16<h then AC AE else AH (KM n f.Af) λj=>AC (AG (256<j)))):AB Bool) λm=>(bif m then AC (.d (.d AD))else AC (.k (i64.wrap (d+1))))else AC (.d (.k ())))
def Pb(d:CB):AB Bool:=AH ((bif 40<(AI d.Av:Int) then AC AE else(bif 512<(AI d.A4:Int) then AC AE else(bif 8<(AI d.AO:Int) then AC AE else(bif 32<(AI d.Ap:Int) then AC AE else(bif 32<(AI d.Ab:Int) then AC AE else(bif 32<(AI d.AV:Int) then AC AE else AC (AG (32<(AI d.A3:Int))))))))):AB Bool) λh=>(bif h then AC AD else AH (iter (T_ n d) n 0:AB (CG Unit Bool)) λg=>match g with|.k f=>(AC AE)|.d f=>AC f)
instance yX(d:CB):Ks (Pb n d) 46 [.a (CB.c d)] [] (λr=>.b r):=KA func46
def Pm(n:Nat)(d:AA UInt8):AB Bool:=AH ((bif (d==[99,111,117,114,115,101])then AC (d==[99,111,117,114,115,101])else(bif (d==[109,97,116,115])then AC (d==[109,97,116,115])else(bif (d==[115,116,97,114,116])then AC (d==[115,116,97,114,116])else(bif (d==[112,97,115,115])then AC (d==[112,97,115,115])else(bif (d==[101,110,100])then AC (d==[101,110,100])else(bif (d==[108,101,103])then AC (d==[108,101,103])else(bif (d==[116,111])then AC (d==[116,111])else(bif (d==[100,105,115,116,97,110,99,101])then AC (d==[100,105,115,116,97,110,99,101])else(bif (d==[103,117,110])then AC (d==[103,117,110])else(bif (d==[99,104,105,112])then AC (d==[99,104,105,112])else(bif (d==[115,108,111,116])then AC (d==[115,108,111,116])else(bif (d==[108,97,112,115])then AC (d==[108,97,112,115])else(bif (d==[108,97,112])then AC (d==[108,97,112])else(bif (d==[99,117,116,111,102,102])then AC (d==[99,117,116,111,102,102])else(bif (d==[101,120,116,114,97])then AC (d==[101,120,116,114,97])else(bif (d==[119,97,118,101])then AC (d==[119,97,118,101])else(bif (d==[111,102,102,101,110,99,101])then AC (d==[111,102,102,101,110,99,101])else(bif (d==[111,117,116])then AC (d==[111,117,116])else(bif (d==[99,97,116,101,103,111,114,121])then AC (d==[99,97,116,101,103,111,114,121])else(bif (d==[112,114,105,122,101])then AC (d==[112,114,105,122,101])else(bif (d==[97,108,108])then AC (d==[97,108,108])else AC (d==[116,105,101,115])))))))))))))))))))))):AB Bool) λf=>(bif f then AC AE else AH ((bif (d==[105,102])then AC (d==[105,102])else(bif (d==[101,108,115,101])then AC (d==[101,108,115,101])else(bif (d==[97,110,100])then AC (d==[97,110,100])else(bif (d==[111,114])then AC (d==[111,114])else(bif (d==[110,111,116])then AC (d==[110,111,116])else(bif (d==[111,108,100,101,114])then AC (d==[111,108,100,101,114])else(bif (d==[121,111,117,110,103,101,114])then AC (d==[121,111,117,110,103,101,114])else(bif (d==[98,105,98])then AC (d==[98,105,98])else(bif (d==[100,114,97,119])then AC (d==[100,114,97,119])else(bif (d==[102,105,101,108,100])then AC (d==[102,105,101,108,100])else(bif (d==[115,104,111,114,116])then AC (d==[115,104,111,114,116])else(bif (d==[102,97,117,108,116,115])then AC (d==[102,97,117,108,116,115])else(bif (d==[109,105,115,115,101,115])then AC (d==[109,105,115,115,101,115])else(bif (d==[115,116,114,97,121,115])then AC (d==[115,116,114,97,121,115])else(bif (d==[119,105,110,100,111,119])then AC (d==[119,105,110,100,111,119])else(bif (d==[114,101,115,105,100,117,97,108])then AC (d==[114,101,115,105,100,117,97,108])else(bif (d==[100,114,105,102,116])then AC (d==[100,114,105,102,116])else(bif (d==[112,114,111,116,101,115,116])then AC (d==[112,114,111,116,101,115,116])else(bif (d==[102,101,101])then AC (d==[102,101,101])else AC (d==[100,101,97,100,108,105,110,101])))))))))))))))))))):AB Bool) λg=>(bif g then AC AE else AC AD))
instance yg(d:AA UInt8):Ks (Pm n d) 179 [.str d] [] (λr=>.b r):=KA func179
def ei(n:Nat)(f:AA UInt8)(d:Int):AB (CG Int (CG Unit Bool)):=(bif d<(AI f:Int) then AH (AH (CJ f d) λg=>(bif (g.toNat:Int)<97 then AH (CJ f d) λh=>(bif (h.toNat:Int)<48 then AH (CJ f d) λj=>AC ((j.toNat:Int) != 95)else AH (CJ f d) λm=>(bif 57<(m.toNat:Int) then AH (CJ f d) λq=>AC ((q.toNat:Int) != 95)else AC AD))else AH (CJ f d) λt=>(bif 122<(t.toNat:Int) then AH (CJ f d) λx=>(bif (x.toNat:Int)<48 then AH (CJ f d) λy=>AC ((y.toNat:Int) != 95)else AH (CJ f d) λB=>(bif 57<(B.toNat:Int) then AH (CJ f d) λE=>AC ((E.toNat:Int) != 95)else AC AD))else AC AD)):AB Bool) λF=>(bif F then AC (.d (.d AD))else AC (.k (i64.wrap (d+1))))else AC (.d (.k ())))
def Mh(d:AA UInt8):AB Bool:=AH ((bif (AI d:Int)<1 then AC AE else(bif 24<(AI d:Int) then AC AE else AH (CJ d 0) λh=>(bif (h.toNat:Int)<97 then AC AE else AH (CJ d 0) λj=>AC (AG (122<(j.toNat:Int)))))):AB Bool) λq=>(bif q then AC AD else AH (iter (ei n d) n 1:AB (CG Unit Bool)) λm=>match m with|.k f=>(AH (Pm n d) λg=>AC (!g))|.d f=>AC f)
instance y_(d:AA UInt8):Ks (Mh n d) 105 [.str d] [] (λr=>.b r):=KA func105
def VX(n:Nat)(g:AA (AA UInt8))(f:Int)(d:Int):AB (CG Int (CG Unit (CG Int (CG Unit Bool)))):=(bif d<f then AH (CJ g d) λh=>AH (CJ g f) λj=>(bif (h==j)then AC (.d (.d (.d (.d AD))))else AC (.k (i64.wrap (d+1))))else AC (.d (.k ())))
def Ty(g:AA (AA UInt8))(d:Int):AB (CG Int (CG Unit Bool)):=(bif d<(AI g:Int) then AH (CJ g d) λh=>AH (Mh n h) λj=>(bif (!j)then AC (.d (.d AD))else AH (iter (VX n g d) n 0:AB (CG Unit (CG Int (CG Unit Bool)))) λm=>match m with|.k f=>(AC (.k (i64.wrap (d+1))))|.d f=>AC f)else AC (.d (.k ())))
def Ip(g:AA (AA UInt8)):AB Bool:=AH (iter (Ty n g) n 0:AB (CG Unit Bool)) λf=>match f with|.k d=>(AC AE)|.d d=>AC d
instance zg(M:AA (AA UInt8)):Ks (Ip n M) 106 [.q 1 (map JI M)] [] (λr=>.b r):=by
 refine Kg 11 func106 Z Z Z Z λr h=>Bd h λN O h=>E_ (b:=N) [] [] Ze Ze Zf ?_ (λ_ j=>?_)
 .refine G0 1 Z (Lp [] [0] (λq=>[(3,I q)]) Ze O Zf (Lr []) λq aa d g=>(G0 5 Z (Lg 3 Z Z (Q8 Z d (λ_ d=>?_) (λ_ d=>?_)))))
  .exact Je g d
  refine Gc 9 Z (Bd d λab B d=>Iz B Z (Go 1 Z (Cz [] d Kc Z λac X d=>Go 3 Z (Cn Z d (λ_ d=>?_) (λ_ d=>?_)))))
  .exact DX g d h
  refine Gc 7 Z (Bd d λP Q d=>Fe (b:=P) [] [0,3] Ze Ze Zf ?_ (λY env H j R=>?_))
  .refine G0 1 Z (Lp [] [0,3] (λt=>[(4,I t)]) Ze Q Zf (Lr []) λt ad f m=>(G0 8 Z (Q8 Z f (λ_ f=>?_) (λ_ f=>?_))))
   .exact Je m f
   refine Gc 5 Z (DU 8 Z (D 2 Z ?_));obtain⟨T,G,f⟩:=QE f;refine DS.wo (x:=.rp [.str T]) ?_ ?_
   .exact Ix G E3 sizeOf9 Z Wp
   refine D 3 Z ?_;obtain⟨V,J,f⟩:=QE f;refine DS.wo (x:=.rp [.str V]) ?_ ?_
   .exact Ix J E3 sizeOf9 Z Wp
   refine D 1 Z (Eg Z (Go 3 Z (Cn Z f (λ_ f=>?_) (λ_ f=>?_))))
   .refine Gc 8 Z (JV f ?_);obtain rfl:=Oj m f;exact DX g d h
   exact au f
  subst j;exact Gx 2 Z (Ee R (Gc 5 Z (Q1 d (Lr []))))
 subst j;exact au h
def T7(n:Nat)(f:CB)(d:(AA (AA UInt8))×Int):AB (CG ((AA (AA UInt8))×Int) (AA (AA UInt8))):=(bif d.2<(AI f.Av:Int) then AH (CJ f.Av d.2) λg=>AH (app d.1 [g.An]) λh=>AC (.k (h,i64.wrap (d.2+1)))else AC (.d d.1))
def U2(n:Nat)(f:CB)(d:(AA (AA UInt8))×Int):AB (CG ((AA (AA UInt8))×Int) (AA (AA UInt8))):=(bif d.2<(AI f.AO:Int) then AH (CJ f.AO d.2) λg=>AH (app d.1 [g.An]) λh=>AC (.k (h,i64.wrap (d.2+1)))else AC (.d d.1))
def U6(n:Nat)(f:CB)(d:(AA (AA UInt8))×Int):AB (CG ((AA (AA UInt8))×Int) (AA (AA UInt8))):=(bif d.2<(AI f.Ap:Int) then AH (CJ f.Ap d.2) λg=>AH (app d.1 [g.An]) λh=>AC (.k (h,i64.wrap (d.2+1)))else AC (.d d.1))
def U'(n:Nat)(f:CB)(d:(AA (AA UInt8))×Int):AB (CG ((AA (AA UInt8))×Int) (AA (AA UInt8))):=(bif d.2<(AI f.Ab:Int) then AH (CJ f.Ab d.2) λg=>AH (app d.1 [g.An]) λh=>AC (.k (h,i64.wrap (d.2+1)))else AC (.d d.1))
def VO(n:Nat)(f:CB)(d:(AA (AA UInt8))×Int):AB (CG ((AA (AA UInt8))×Int) (AA (AA UInt8))):=(bif d.2<(AI f.AV:Int) then AH (CJ f.AV d.2) λg=>AH (app d.1 [g.An]) λh=>AC (.k (h,i64.wrap (d.2+1)))else AC (.d d.1))
def O_(d:CB):AB Bool:=AH (iter (T7 n d) n (([]:AA (AA UInt8)),0):AB (AA (AA UInt8))) λF=>AH (iter (U2 n d) n (([]:AA (AA UInt8)),0):AB (AA (AA UInt8))) λj=>AH (iter (U6 n d) n (([]:AA (AA UInt8)),0):AB (AA (AA UInt8))) λm=>AH (iter (U' n d) n (([]:AA (AA UInt8)),0):AB (AA (AA UInt8))) λq=>AH (iter (VO n d) n (([]:AA (AA UInt8)),0):AB (AA (AA UInt8))) λt=>AH (AH (Mh n d.An) λx=>(bif x then AH (Ip n F) λy=>(bif y then AH (Ip n j) λB=>(bif B then AH (Ip n m) λf=>(bif f then AH (Ip n q) λg=>(bif g then AH (Ip n t) λh=>AC h else AC AD)else AC AD)else AC AD)else AC AD)else AC AD):AB Bool) λE=>AC E
instance xx(a1:CB):Ks (O_ n a1) 47 [.a (CB.c a1)] [] (λr=>.b r):=by
 refine Kg 8 func47 Z Z Z Z λr h=>vH (Ek (xs:=[]) (es:=map JI []) Jy Z Z Z Z Z trivial Z Z) ?_;refine Fg 9 Z Z (Bd h λM h9 h=>Ct M [0,1] [1] (λM=>[(3,.o 1 (AI M) 1)]) (λM=>[(1,.r 9 1 (map JI M))]) Zf ?_ (λenv H d=>?_))
 .refine G0 1 Z (Lp [0,1] [1] (λt=>[(3,.o 1 (AI t.1) 1),(4,I t.2)]) (λt=>[(1,.r 9 1 (map JI t.1))]) h9 Zf (Lr [0,1]) λt az f O=>?_);refine G0 6 Z (Lg 3 Z Z (Q8 Z f (λ_ f=>?_) (λ_ f=>?_)))
  .exact Je O f
  refine Gc 9 Z (Bd f λal Q f=>Iz Q Z (Go 2 Z (vH (Ek (xs:=[.tmp 27]) (es:=map JI [al.An]) Jy Z Z Z Z Z ⟨Z,trivial⟩ Z Z) ?_)));refine FE Z (Bd f λba R f=>vH (Qj (e:=JI) R Jy E3 (QC (i:=2))) ?_);exact au f
 refine Gx 1 Z (Ee d (Gc 2 Z (vH (Ek (xs:=[]) (es:=map JI []) Jy Z Z Z Z Z trivial Z Z) ?_)));refine Fg 9 Z Z (Bd h λx am h=>Ct x [0,1,2] [1,3] (λx=>[(5,.o 2 (AI x) 1)]) (λx=>[(2,.r 9 1 (map JI x))]) Zf ?_ (λenv H d=>?_))
 .refine G0 1 Z (Lp [0,1,2] [1,3] (λy=>[(5,.o 2 (AI y.1) 1),(6,I y.2)]) (λy=>[(2,.r 9 1 (map JI y.1))]) am Zf (Lr [0,1,2]) λy bb g T=>?_);refine G0 6 Z (Lg 3 Z Z (Q8 Z g (λ_ g=>?_) (λ_ g=>?_)))
  .exact Je T g
  refine Gc 9 Z (Bd g λan W g=>Iz W Z (Go 2 Z (vH (Ek (xs:=[.tmp 44]) (es:=map JI [an.An]) Jy Z Z Z Z Z ⟨Z,trivial⟩ Z Z) ?_)));refine FE Z (Bd g λbc X g=>vH (Qj (e:=JI) X Jy E3 (QC (i:=3))) ?_);exact au g
 refine Gx 1 Z (Ee d (Gc 2 Z (vH (Ek (xs:=[]) (es:=map JI []) Jy Z Z Z Z Z trivial Z Z) ?_)));refine Fg 9 Z Z (Bd h λB ao h=>Ct B [0,1,2,3] [1,3,5] (λB=>[(7,.o 3 (AI B) 1)]) (λB=>[(3,.r 9 1 (map JI B))]) Zf ?_ (λenv H d=>?_))
 .refine G0 1 Z (Lp [0,1,2,3] [1,3,5] (λE=>[(7,.o 3 (AI E.1) 1),(8,I E.2)]) (λE=>[(3,.r 9 1 (map JI E.1))]) ao Zf (Lr [0,1,2,3]) λE bd j Y=>?_);refine G0 6 Z (Lg 3 Z Z (Q8 Z j (λ_ j=>?_) (λ_ j=>?_)))
  .exact Je Y j
  refine Gc 9 Z (Bd j λaq ab j=>Iz ab Z (Go 2 Z (vH (Ek (xs:=[.tmp 61]) (es:=map JI [aq.An]) Jy Z Z Z Z Z ⟨Z,trivial⟩ Z Z) ?_)));refine FE Z (Bd j λbe ac j=>vH (Qj (e:=JI) ac Jy E3 (QC (i:=4))) ?_);exact au j
 refine Gx 1 Z (Ee d (Gc 2 Z (vH (Ek (xs:=[]) (es:=map JI []) Jy Z Z Z Z Z trivial Z Z) ?_)));refine Fg 9 Z Z (Bd h λF ar h=>Ct F [0,1,2,3,4] [1,3,5,7] (λF=>[(9,.o 4 (AI F) 1)]) (λF=>[(4,.r 9 1 (map JI F))]) Zf ?_ (λenv H d=>?_))
 .refine G0 1 Z (Lp [0,1,2,3,4] [1,3,5,7] (λG=>[(9,.o 4 (AI G.1) 1),(10,I G.2)]) (λG=>[(4,.r 9 1 (map JI G.1))]) ar Zf (Lr [0,1,2,3,4]) λG bg m ad=>?_);refine G0 6 Z (Lg 3 Z Z (Q8 Z m (λ_ m=>?_) (λ_ m=>?_)))
  .exact Je ad m
  refine Gc 9 Z (Bd m λav af m=>Iz af Z (Go 2 Z (vH (Ek (xs:=[.tmp 78]) (es:=map JI [av.An]) Jy Z Z Z Z Z ⟨Z,trivial⟩ Z Z) ?_)));refine FE Z (Bd m λbh ag m=>vH (Qj (e:=JI) ag Jy E3 (QC (i:=5))) ?_);exact au m
 refine Gx 1 Z (Ee d (Gc 2 Z (vH (Ek (xs:=[]) (es:=map JI []) Jy Z Z Z Z Z trivial Z Z) ?_)));refine Fg 9 Z Z (Bd h λJ aw h=>Ct J [0,1,2,3,4,5] [1,3,5,7,9] (λJ=>[(11,.o 5 (AI J) 1)]) (λJ=>[(5,.r 9 1 (map JI J))]) Zf ?_ (λenv H d=>?_))
 .refine G0 1 Z (Lp [0,1,2,3,4,5] [1,3,5,7,9] (λL=>[(11,.o 5 (AI L.1) 1),(12,I L.2)]) (λL=>[(5,.r 9 1 (map JI L.1))]) aw Zf (Lr [0,1,2,3,4,5]) λL bi q ah=>?_);refine G0 6 Z (Lg 3 Z Z (Q8 Z q (λ_ q=>?_) (λ_ q=>?_)))
  .exact Je ah q
  refine Gc 9 Z (Bd q λax aj q=>Iz aj Z (Go 2 Z (vH (Ek (xs:=[.tmp 95]) (es:=map JI [ax.An]) Jy Z Z Z Z Z ⟨Z,trivial⟩ Z Z) ?_)));refine FE Z (Bd q λbj ak q=>vH (Qj (e:=JI) ak Jy E3 (QC (i:=6))) ?_);exact au q
 refine Gx 1 Z (Ee d (Gc 1 Z (Bd h λN ay h=>Cg N [] [] (λN=>[(2,.b N)]) Ze Zf ?_ ?_)))
 .exact au ay
 exact au h
def G'(n:Nat)(d:Int)(f:Int)(g:Int):AB Bool:=AH ((bif f<=d then AC (AG (d<=g))else AC AD):AB Bool) λh=>AC h
instance k_g(d:Int)(f:Int)(g:Int):Ks (G' n d f g) 107 [I d,I f,I g] [] (λr=>.b r):=KA func107
def G7(d:CB)(f:Int):AB Bool:=AH (G' n f 0 (i64.wrap ((AI d.Av:Int)-1))) λg=>AC g
instance _I(d:CB)(f:Int):Ks (G7 n d f) 108 [.a (CB.c d),I f] [] (λr=>.b r):=KA func108
def OU(g:CB)(h:AA CH)(rec229:CB->(AA CH)->AB Bool)(f:Int):AB (CG Int (CG Unit Bool)):=(bif f<(AI h:Int) then AH (CJ h f) λd=>AH ((bif (d.Ax==0)then AH (G7 n g d.Al) λj=>(bif j then AC ((AI d.Ac:Int)==0)else AC AD)else AC AD):AB Bool) λm=>AH (AH (G' n d.Ax 1 64) λq=>(bif q then(bif (d.Al==0)then(bif 0<(AI d.Ac:Int) then AH (rec229 g d.Ac) λt=>AC t else AC AD)else AC AD)else AC AD):AB Bool) λx=>AH ((bif (!m)then AC (!x)else AC AD):AB Bool) λy=>(bif y then AC (.d (.d AD))else AC (.k (i64.wrap (f+1))))else AC (.d (.k ())))
def RG(rec229:CB->(AA CH)->AB Bool)(n:Nat)(g:CB)(h:AA CH):AB Bool:=AH (iter (OU n g h rec229) n 0:AB (CG Unit Bool)) λf=>match f with|.k d=>(AC AE)|.d d=>AC d
theorem QaU(rec229:CB->(AA CH)->AB Bool)(F:∀(f:CB) (g:AA CH),Ks (rec229 f g) 180 [.a (CB.c f),.q 3 (map CH.enc g)] [] (λr=>.b r))(n:Nat)(f:CB)(g:AA CH):Ks (RG rec229 n f g) 180 [.a (CB.c f),.q 3 (map CH.enc g)] [] (λr=>.b r):=by
 refine Kg 12 func180 Z Z Z Z λr h=>Bd h λG J h=>E_ (b:=G) [] [] Ze Ze Zf ?_ (λ_ L=>?_)
 .refine G0 1 Z (Lp [0] [1,2] (λy=>[(5,I y)]) Ze J Zf (Lr [0]) λy R d j=>?_);refine G0 5 Z (Lg 3 Z Z (Q8 Z d (λ_ d=>?_) (λ_ d=>?_)))
  .exact Je j d
  refine Gc 8 Z (Bd d λM E d=>FW E (QN M) Z (Go 6 Z (Bd d λm N d=>Ct m [0,1] [1,2,5,6] (λm=>[(7,.b m)]) Ze Zf ?_ (λenv H q=>?_))))
  .exact au N
  refine Gx 1 Z (Ee q (Gc 1 Z (Bd d λt O d=>Ct t [0] [1,2,5,7] (λt=>[(8,.b t)]) Ze Zf ?_ (λenv H q=>?_))))
  .exact au O
  refine Gx 1 Z (Ee q (Gc 1 Z (Bd d λx P d=>Cg x [0] [1,2,5] (λx=>[(59,.b x)]) Ze Zf ?_ ?_)))
  .exact au P
  exact DX j d h
 subst L;exact au h
def KQ:Nat->CB->(AA CH)->AB Bool
  |0=>λ_ _=>AF
  |n+1=>RG (KQ n) n
instance _K:∀(d:CB) (f:AA CH),Ks (KQ n d f) 180 [.a (CB.c d),.q 3 (map CH.enc f)] [] (λr=>.b r):=by
  induction n with
  |zero=>exact λ_ _=>⟨nofun⟩
  |succ n ih=>exact QaU _ ih n
def Th(q:CB)(g:AN)(d:Int):AB (CG Int (CG Unit Bool)):=(bif d<(AI g.Aq:Int) then AH (CJ g.Aq d) λf=>AH (AH (G7 n q f.Al) λh=>(bif (!h)then AC AE else(bif f.B_<1 then AC AE else AH (G' n f.Bu 0 1099511627776) λj=>AC (!j))):AB Bool) λm=>(bif m then AC (.d (.d AD))else AC (.k (i64.wrap (d+1))))else AC (.d (.k ())))
def O9(g:CB)(d:AN):AB Bool:=AH (iter (Th n g d) n 0:AB (CG Unit Bool)) λh=>match h with|.k f=>(AH (AH (G' n d.A9 1 3) λj=>(bif j then AH (KQ n g d.Af) λm=>(bif m then(bif (d.Am==(-1))then AC AE else AH (G7 n g d.Am) λq=>AC q)else AC AD)else AC AD):AB Bool) λt=>AC t)|.d f=>AC f
instance xw(d:CB)(f:AN):Ks (O9 n d f) 109 [.a (CB.c d),.a (AN.c f)] [] (λr=>.b r):=KA func109
def TZ(f:CB)(d:Int):AB (CG Int (CG Unit Bool)):=(bif d<(AI f.Av:Int) then AH (CJ f.Av d) λg=>AH (G' n g.AX 1 3) λh=>(bif (!h)then AC (.d (.d AD))else AC (.k (i64.wrap (d+1))))else AC (.d (.k ())))
def VN(n:Nat)(q:CB)(g:Int)(f:Cr)(d:Int):AB (CG Int (CG Unit (CG Int (CG Unit Bool)))):=(bif d<g then AH (AH (CJ q.A4 d) λh=>(bif (h.BA==f.BA)then AH (CJ q.A4 d) λj=>AC (j.To==f.To)else AC AD):AB Bool) λm=>(bif m then AC (.d (.d (.d (.d AD))))else AC (.k (i64.wrap (d+1))))else AC (.d (.k ())))
def Tg(h:CB)(f:Int):AB (CG Int (CG Unit Bool)):=(bif f<(AI h.A4:Int) then AH (CJ h.A4 f) λd=>AH (AH (G7 n h d.BA) λj=>(bif (!j)then AC AE else AH (G7 n h d.To) λm=>(bif (!m)then AC AE else(bif d.Bo<0 then AC AE else(bif d.Br<d.Bo then AC AE else AC (AG (68719476736<d.Br)))))):AB Bool) λq=>(bif q then AC (.d (.d AD))else AH (iter (VN n h f d) n 0:AB (CG Unit (CG Int (CG Unit Bool)))) λt=>match t with|.k g=>(AC (.k (i64.wrap (f+1))))|.d g=>AC g)else AC (.d (.k ())))
def TS(f:CB)(d:Int):AB (CG Int (CG Unit Bool)):=(bif d<(AI f.AO:Int) then AH (CJ f.AO d) λg=>AH (O9 n f g) λh=>(bif (!h)then AC (.d (.d AD))else AC (.k (i64.wrap (d+1))))else AC (.d (.k ())))
def UN(h:CB)(d:Int):AB (CG Int (CG Unit Bool)):=(bif d<(AI h.Ap:Int) then AH (CJ h.Ap d) λf=>AH (G' n f.Bv 0 1099511627776) λg=>(bif (!g)then AC (.d (.d AD))else AC (.k (i64.wrap (d+1))))else AC (.d (.k ())))
def UT(x:CB)(f:Int):AB (CG Int (CG Unit Bool)):=(bif f<(AI x.Ab:Int) then AH (CJ x.Ab f) λd=>AH (AH (G' n d.BX 0 68719476736) λg=>(bif g then(bif (d.Ax==0)then AC (!d.BM)else AC AD)else AC AD):AB Bool) λh=>AH ((bif (d.BX==0)then AH (G' n d.Ax 1 64) λj=>(bif j then AC (!d.BM)else AC AD)else AC AD):AB Bool) λm=>AH ((bif (d.BX==0)then(bif (d.Ax==0)then AC d.BM else AC AD)else AC AD):AB Bool) λq=>AH ((bif (!h)then(bif (!m)then AC (!q)else AC AD)else AC AD):AB Bool) λt=>(bif t then AC (.d (.d AD))else AC (.k (i64.wrap (f+1))))else AC (.d (.k ())))
def VM(n:Nat)(h:CB)(f:Int):AB (CG Int (CG Unit Bool)):=(bif f<(AI h.AV:Int) then AH (CJ h.AV f) λd=>AH ((bif d.BA<0 then AC AE else(bif d.To<d.BA then AC AE else AC (AG (120<d.To)))):AB Bool) λg=>(bif g then AC (.d (.d AD))else AC (.k (i64.wrap (f+1))))else AC (.d (.k ())))
def UV(n:Nat)(m:CB)(h:Int)(d:CQ)(f:Int):AB (CG Int (CG Unit (CG Int (CG Unit Bool)))):=(bif f<h then AH (CJ m.A3 f) λg=>AH ((bif (g.AN==d.AN)then(bif (g.AW==d.AW)then AC (g.B3==d.B3)else AC AD)else AC AD):AB Bool) λj=>(bif j then AC (.d (.d (.d (.d AD))))else AC (.k (i64.wrap (f+1))))else AC (.d (.k ())))
def U5(h:CB)(f:Int):AB (CG Int (CG Unit Bool)):=(bif f<(AI h.A3:Int) then AH (CJ h.A3 f) λd=>AH (AH (G' n d.AN 0 (i64.wrap ((AI h.AO:Int)-1))) λj=>(bif (!j)then AC AE else AH (G' n d.AW (-1) (i64.wrap ((AI h.AV:Int)-1))) λm=>(bif (!m)then AC AE else AH (G' n d.B3 1 4000) λq=>(bif (!q)then AC AE else AH (G' n d.BO 1 1125899906842624) λt=>AC (!t)))):AB Bool) λx=>(bif x then AC (.d (.d AD))else AH (iter (UV n h f d) n 0:AB (CG Unit (CG Int (CG Unit Bool)))) λy=>match y with|.k g=>(AC (.k (i64.wrap (f+1))))|.d g=>AC g)else AC (.d (.k ())))
def PM(d:CB):AB Bool:=AH (iter (TZ n d) n 0:AB (CG Unit Bool)) λQ=>match Q with|.k q=>(AH (iter (Tg n d) n 0:AB (CG Unit Bool)) λR=>match R with|.k t=>(AH (iter (TS n d) n 0:AB (CG Unit Bool)) λx=>match x with|.k f=>(AH (iter (UN n d) n 0:AB (CG Unit Bool)) λy=>match y with|.k g=>(AH (iter (UT n d) n 0:AB (CG Unit Bool)) λB=>match B with|.k h=>(AH (iter (VM n d) n 0:AB (CG Unit Bool)) λE=>match E with|.k j=>(AH (iter (U5 n d) n 0:AB (CG Unit Bool)) λF=>match F with|.k m=>(AH (AH (G' n d.AQ.A_ 0 16) λG=>(bif G then AH (G' n d.AQ.A7 0 16) λH=>(bif H then AH (G' n d.AQ.A6 0 4294967296) λJ=>(bif J then AH (G' n d.AQ.Ak 0 4294967296) λL=>(bif L then AH (G' n d.AQ.BC 0 100000) λM=>(bif M then AH (G' n d.Bk 0 1125899906842624) λN=>(bif N then AH (G' n d.Az 0 1099511627776) λO=>AC O else AC AD)else AC AD)else AC AD)else AC AD)else AC AD)else AC AD):AB Bool) λP=>AC P)|.d m=>AC m)|.d j=>AC j)|.d h=>AC h)|.d g=>AC g)|.d f=>AC f)|.d t=>AC t)|.d q=>AC q
instance yI(a1:CB):Ks (PM n a1) 48 [.a (CB.c a1)] [] (λr=>.b r):=by
 refine Kg 12 func48 Z Z Z Z λr h=>Bd h λco cp h=>Fe (b:=co) [0] [1] Ze Ze Zf ?_ (λcz env H q d=>?_)
 .refine G0 1 Z (Lp [0] [1] (λbk=>[(3,I bk)]) Ze cp Zf (Lr [0]) λbk dn cq bl=>?_);exact DX bl cq h
 subst q;refine Gx 1 Z (Ee d (Gc 6 Z (Bd h λcr bm h=>Fe (b:=cr) [0] [1] Ze Ze Zf ?_ (λda env H q d=>?_))))
 .refine G0 1 Z (Lp [0] [1] (λac=>[(4,I ac)]) Ze bm Zf (Lr [0]) λac db g G=>?_);refine G0 6 Z (Lg 3 Z Z (Q8 Z g (λ_ g=>?_) (λ_ g=>?_)))
  .exact Je G g
  refine Gc 9 Z (Bd g λdc al g=>Iz al Z (Go 7 Z (Bd g λM bn g=>Ct M [0,1] [1,4,5] (λM=>[(76,.b M)]) Ze Zf ?_ (λenv H d=>?_))))
  .exact au bn
  refine Gx 1 Z (Ee d (Cn Z g (λ_ g=>?_) (λ_ g=>?_)))
  .exact DX G g h
  refine Gc 7 Z (Bd g λbo bp g=>Fe (b:=bo) [0] [1,4] Ze Ze Zf ?_ (λcs env H q d=>?_))
  .refine G0 1 Z (Lp [0,1] [1,4,5] (λad=>[(6,I ad)]) Ze bp Zf (Lr [0,1]) λad dd t X=>?_);refine G0 8 Z (Q8 Z t (λ_ t=>?_) (λ_ t=>?_))
   .exact Je X t
   refine Gc 5 Z (Bd t λN y t=>Ct N [0,1] [1,4,5,6] (λN=>[(101,.b N)]) Ze Zf ?_ (λenv H d=>?_))
   .refine G0 0 Z (DU 18 Z (D 3 Z ?_));obtain⟨J,ao,y⟩:=QE y;refine DS.wo (x:=.rp [I J.BA,I J.To,I J.Bo,I J.Br]) ?_ ?_
    .exact Ix ao Gb GM Z Wp
    refine D 6 Z (DS.is 9 y Z Z Z (λ_ y=>?_) (λ_ y=>?_))
    .refine D 3 Z ?_;obtain⟨E,ar,y⟩:=QE y;refine DS.v (x:=(.rp [I E.BA,I E.To,I E.Bo,I E.Br])) (NB (e:=Cr.c) (l:=a1.A4) (v:=E) ar Gb GM) ?_ (hg:=(gT Z));exact au y
    exact au y
   refine Gx 1 Z (Ee d (Cn Z t (λ_ t=>?_) (λ_ t=>?_)))
   .refine Gc 8 Z (JV t ?_);obtain rfl:=Oj X t;exact DX G g h
   exact au t
  subst q;exact Gx 2 Z (Ee d (Gc 5 Z (Q1 g (Lr [0]))))
 subst q;refine Gx 1 Z (Ee d (Gc 6 Z (Bd h λbq br h=>Fe (b:=bq) [0] [1] Ze Ze Zf ?_ (λct env H q d=>?_))))
 .refine G0 1 Z (Lp [0] [1] (λae=>[(7,I ae)]) Ze br Zf (Lr [0]) λae de B Y=>?_);refine G0 6 Z (Lg 3 Z Z (Q8 Z B (λ_ B=>?_) (λ_ B=>?_)))
  .exact Je Y B
  refine Gc 5 Z (DU 6 Z (D 4 Z ?_));obtain⟨F,ax,B⟩:=QE B;refine DS.wo (x:=.rp [.str F.An,.q 3 (map CH.enc F.Af),I F.A9,.q 3 (map CO.c F.Aq),I F.Am]) ?_ ?_
  .exact Ix ax EJ EW Z Wp
  exact DX Y B h
 subst q;refine Gx 1 Z (Ee d (Gc 6 Z (Bd h λbs bu h=>Fe (b:=bs) [0] [1] Ze Ze Zf ?_ (λcu env H q d=>?_))))
 .refine G0 1 Z (Lp [0] [1] (λaf=>[(8,I af)]) Ze bu Zf (Lr [0]) λaf df bv ay=>?_);exact DX ay bv h
 subst q;refine Gx 1 Z (Ee d (Gc 6 Z (Bd h λbw bx h=>Fe (b:=bw) [0] [1] Ze Ze Zf ?_ (λcv env H q d=>?_))))
 .refine G0 1 Z (Lp [0] [1] (λag=>[(9,I ag)]) Ze bx Zf (Lr [0]) λag dg f aa=>?_);refine G0 6 Z (Lg 3 Z Z (Q8 Z f (λ_ f=>?_) (λ_ f=>?_)))
  .exact Je aa f
  refine Gc 9 Z (Bd f λdh ba f=>Iz ba Z (Go 6 Z (Bd f λO bz f=>Ct O [0,1] [1,9,10] (λO=>[(11,.b O)]) Ze Zf ?_ (λenv H d=>?_))))
  .exact au bz
  refine Gx 1 Z (Ee d (Gc 1 Z (Bd f λP ca f=>Ct P [0,1] [1,9,10,11] (λP=>[(12,.b P)]) Ze Zf ?_ (λenv H d=>?_))))
  .exact au ca
  refine Gx 1 Z (Ee d (Gc 1 Z (Bd f λQ cb f=>Ct Q [0] [1,9,11,12] (λQ=>[(13,.b Q)]) Ze Zf ?_ (λenv H d=>?_))))
  .exact au cb
  refine Gx 1 Z (Ee d (Gc 1 Z (Bd f λR cc f=>Ct R [0] [1,9] (λR=>[(191,.b R)]) Ze Zf ?_ (λenv H d=>?_))))
  .exact au cc
  refine Gx 1 Z (Ee d (Cn Z f (λ_ f=>?_) (λ_ f=>?_)))
  .exact DX aa f h
  exact au f
 subst q;refine Gx 1 Z (Ee d (Gc 6 Z (Bd h λcd ce h=>Fe (b:=cd) [0] [1] Ze Ze Zf ?_ (λcw env H q d=>?_))))
 .refine G0 1 Z (Lp [0] [1] (λah=>[(14,I ah)]) Ze ce Zf (Lr [0]) λah di cf bc=>?_);exact DX bc cf h
 subst q;refine Gx 1 Z (Ee d (Gc 6 Z (Bd h λcg ch h=>Fe (b:=cg) [0] [1] Ze Ze Zf ?_ (λcx env H q d=>?_))))
 .refine G0 1 Z (Lp [0] [1] (λai=>[(16,I ai)]) Ze ch Zf (Lr [0]) λai dj j L=>?_);refine G0 6 Z (Lg 3 Z Z (Q8 Z j (λ_ j=>?_) (λ_ j=>?_)))
  .exact Je L j
  refine Gc 9 Z (Bd j λdk be j=>Iz be Z (Go 7 Z (Bd j λT ci j=>Ct T [0,1] [1,16,17] (λT=>[(260,.b T)]) Ze Zf ?_ (λenv H d=>?_))))
  .exact au ci
  refine Gx 1 Z (Ee d (Cn Z j (λ_ j=>?_) (λ_ j=>?_)))
  .exact DX L j h
  refine Gc 7 Z (Bd j λcj cl j=>Fe (b:=cj) [0] [1,16] Ze Ze Zf ?_ (λcy env H q d=>?_))
  .refine G0 1 Z (Lp [0,1] [1,16,17] (λaj=>[(18,I aj)]) Ze cl Zf (Lr [0,1]) λaj dl m ab=>?_);refine G0 8 Z (Q8 Z m (λ_ m=>?_) (λ_ m=>?_))
   .exact Je ab m
   refine Gc 9 Z (Bd m λdm bi m=>Iz bi Z (Go 6 Z (Bd m λV cm m=>Ct V [0,1] [1,16,17,18] (λV=>[(289,.b V)]) Ze Zf ?_ (λenv H d=>?_))))
   .exact au cm
   refine Gx 1 Z (Ee d (Cn Z m (λ_ m=>?_) (λ_ m=>?_)))
   .refine Gc 8 Z (JV m ?_);obtain rfl:=Oj ab m;exact DX L j h
   exact au m
  subst q;exact Gx 2 Z (Ee d (Gc 5 Z (Q1 j (Lr [0]))))
 subst q;refine Gx 1 Z (Ee d (Gc 9 Z (Bd h λW cn h=>Cg W [] [] (λW=>[(2,.b W)]) Ze Zf ?_ ?_)))
 .exact au cn
 exact au h
def TW(n:Nat)(f:AR)(rec233:AR->AB Bool)(d:Int):AB (CG Int (CG Unit Bool)):=(bif d<(AI f.Ac:Int) then AH (CJ f.Ac d) λg=>AH (rec233 g) λh=>(bif (!h)then AC (.d (.d AD))else AC (.k (i64.wrap (d+1))))else AC (.d (.k ())))
def RA(rec233:AR->AB Bool)(n:Nat)(d:AR):AB Bool:=(bif (d.AX==1)then AH ((bif 1<=d.B0 then(bif d.B0<=3 then(bif 0<=d.N then(bif d.N<=10000 then AC ((AI d.Ac:Int)==0)else AC AD)else AC AD)else AC AD)else AC AD):AB Bool) λx=>AC x else AH ((bif (d.AX==2)then AC (d.AX==2)else AC (d.AX==3)):AB Bool) λh=>AH ((bif h then AH ((bif (AI d.Ac:Int)<1 then AC AE else AC (AG (16<(AI d.Ac:Int)))):AB Bool) λj=>(bif j then AC (.d AD)else AC (.k ()))else(bif (d.AX==4)then(bif ((AI d.Ac:Int) != 1)then AC (.d AD)else AC (.k ()))else AC (.d AD))):AB (CG Unit Bool)) λm=>match m with|.k f=>(AH ((bif (d.B0 != 0)then AC AE else AC (d.N != 0)):AB Bool) λq=>(bif q then AC AD else AH (iter (TW n d rec233) n 0:AB (CG Unit Bool)) λt=>match t with|.k g=>(AC AE)|.d g=>AC g))|.d f=>AC f)
theorem Qba(rec233:AR->AB Bool)(O:∀(j:AR),Ks (rec233 j) 268 [.a (AR.c j)] [] (λr=>.b r))(n:Nat)(j:AR):Ks (RA rec233 n j) 268 [.a (AR.c j)] [] (λr=>.b r):=by
 refine Kg 20 func268 Z Z Z Z λr h=>Cn Z h (λ_ h=>?_) (λ_ h=>?_)
 .exact au h
 refine Gc 7 Z (Bd h λm Q h=>Ct m [0] [1,5] (λm=>[(32,.b m)]) Ze Zf ?_ (λenv H g=>?_))
 .exact au Q
 refine Gx 1 Z (Ee g (Bd h λR d h=>Fe (b:=R) [0] [1] Ze Ze Zf ?_ (λab env H hb g=>?_)))
 .refine G0 0 Z (Cn Z d (λ_ d=>?_) (λ_ d=>?_))
  .refine Gc 1 Z (Bd d λq T d=>Ct q [0] [1] (λq=>[(44,.b q)]) Ze Zf ?_ (λenv H g=>?_))
   .exact au T
   refine Gx 1 Z (Ee g (Cn Z d (λ_ d=>?_) (λ_ d=>?_)))
   .refine Gc 6 Z ?_;cases d;exact au h
   exact au d
  refine Gc 6 Z (Q8 Z d (λ_ d=>?_) (λ_ d=>?_))
  .refine Gc 6 Z ?_;cases d;exact au h
  refine Gc 4 Z (Lg 3 Z Z (Cn Z d (λ_ d=>?_) (λ_ d=>?_)))
  .refine Gc 6 Z ?_;cases d;exact au h
  exact au d
 subst hb;refine Gx 2 Z (Ee g (Gc 2 Z (Bd h λt V h=>Ct t [0] [1] (λt=>[(58,.b t)]) Ze Zf ?_ (λenv H g=>?_))))
 .exact au V
 refine Gx 1 Z (Ee g (Cn Z h (λ_ h=>?_) (λ_ h=>?_)))
 .exact au h
 refine Gc 8 Z (Bd h λW X h=>E_ (b:=W) [] [] Ze Ze Zf ?_ (λ_ Y=>?_))
 .refine G0 1 Z (Lp [0] [1] (λy=>[(3,I y)]) Ze X Zf (Lr [0]) λy ae f x=>?_);refine G0 6 Z (Lg 3 Z Z (Q8 Z f (λ_ f=>?_) (λ_ f=>?_)))
  .exact Je x f
  refine Gc 9 Z (Bd f λaa M f=>FW M (Jj aa) Z (Go 1 Z (Cz [] f Kc Z λaf ad f=>Go 3 Z (Cn Z f (λ_ f=>?_) (λ_ f=>?_)))))
  .exact DX x f h
  exact au f
 subst Y;exact au h
def Mz:Nat->AR->AB Bool
  |0=>λ_=>AF
  |n+1=>RA (Mz n) n
instance _A:∀(d:AR),Ks (Mz n d) 268 [.a (AR.c d)] [] (λr=>.b r):=by
  induction n with
  |zero=>exact λ_=>⟨nofun⟩
  |succ n ih=>exact Qba _ ih n
def PF(d:AR):AB Int:=AH (OA n d 0) λf=>(bif 256<f then AC 2 else AH (Mz n d) λg=>(bif (!g)then AC 71 else AC 0))
instance yC(d:AR):Ks (PF n d) 183 [.a (AR.c d)] [] (λr=>I r):=KA func183
def UP(B:AA AY)(rec231:(AA AY)->AB Bool)(f:Int):AB (CG Int (CG Unit Bool)):=(bif f<(AI B:Int) then AH (CJ B f) λd=>AH ((bif (d.AX==1)then AH ((bif d.By<1 then AC AE else(bif 5<d.By then AC AE else AH (Mj n d.AR) λh=>(bif (!h)then AC AE else(bif ((AI d.Ba:Int) != 0)then AC AE else AC ((AI d.Bh:Int) != 0))))):AB Bool) λj=>(bif j then AC (.d (.d (.d AD)))else AC (.k ()))else(bif (d.AX==2)then AH ((bif (d.By != 0)then AC AE else AH (PF n d.AR) λm=>(bif (m != 0)then AC AE else(bif ((AI d.Ba:Int)==0)then AC AE else AH (rec231 d.Ba) λq=>(bif (!q)then AC AE else AH (rec231 d.Bh) λt=>AC (!t))))):AB Bool) λx=>(bif x then AC (.d (.d (.d AD)))else AC (.k ()))else AC (.d (.d (.d AD))))):AB (CG Unit (CG Int (CG Unit Bool)))) λy=>match y with|.k g=>(AC (.k (i64.wrap (f+1))))|.d g=>AC g else AC (.d (.k ())))
def P'(rec231:(AA AY)->AB Bool)(n:Nat)(g:AA AY):AB Bool:=AH (iter (UP n g rec231) n 0:AB (CG Unit Bool)) λf=>match f with|.k d=>(AC AE)|.d d=>AC d
theorem Qa9(rec231:(AA AY)->AB Bool)(R:∀(t:AA AY),Ks (rec231 t) 111 [.q 8 (map AY.enc t)] [] (λr=>.b r))(n:Nat)(t:AA AY):Ks (P' rec231 n t) 111 [.q 8 (map AY.enc t)] [] (λr=>.b r):=by
 refine Kg 11 func111 Z Z Z Z λr h=>Bd h λL M h=>E_ (b:=L) [] [] Ze Ze Zf ?_ (λ_ T=>?_)
 .refine G0 1 Z (Lp [] [0] (λx=>[(3,I x)]) Ze M Zf (Lr []) λx X f g=>?_);refine G0 5 Z (Lg 3 Z Z (Q8 Z f (λ_ f=>?_) (λ_ f=>?_)))
  .exact Je g f
  refine Gc 8 Z (Bd f λN B f=>FW B (Yr N) Z (Go 18 Z (Bd f λO d f=>Fe (b:=O) [] [0,3] Ze Ze Zf ?_ (λW env H hb j=>?_))))
  .refine G0 0 Z (Cn Z d (λ_ d=>?_) (λ_ d=>?_))
   .refine Gc 1 Z (Bd d λm P d=>Ct m [] [0,3] (λm=>[(44,.b m)]) Ze Zf ?_ (λenv H j=>?_))
    .exact au P
    refine Gx 1 Z (Ee j (Cn Z d (λ_ d=>?_) (λ_ d=>?_)))
    .refine Gc 6 Z ?_;cases d;exact DX g f h
    exact au d
   refine Gc 6 Z (Q8 Z d (λ_ d=>?_) (λ_ d=>?_))
   .refine Gc 6 Z ?_;cases d;exact DX g f h
   refine Gc 1 Z (Bd d λq Q d=>Ct q [] [0,3] (λq=>[(73,.b q)]) Ze Zf ?_ (λenv H j=>?_))
   .exact au Q
   refine Gx 1 Z (Ee j (Cn Z d (λ_ d=>?_) (λ_ d=>?_)))
   .refine Gc 6 Z ?_;cases d;exact DX g f h
   exact au d
  subst hb;exact Gx 3 Z (Ee j (Gc 5 Z (Q1 f (Lr []))))
 subst T;exact au h
def Mx:Nat->(AA AY)->AB Bool
  |0=>λ_=>AF
  |n+1=>P' (Mx n) n
instance z9:∀(d:AA AY),Ks (Mx n d) 111 [.q 8 (map AY.enc d)] [] (λr=>.b r):=by
  induction n with
  |zero=>exact λ_=>⟨nofun⟩
  |succ n ih=>exact Qa9 _ ih n
def Of(d:AA AY):AB Int:=AH (Rw n d 0) λf=>AH ((bif 64<f.1 then AC AE else AC (AG (256<f.2))):AB Bool) λh=>(bif h then AC 2 else AH ((bif ((AI d:Int)==0)then AC AE else AH (Mx n d) λg=>AC (!g)):AB Bool) λj=>(bif j then AC 71 else AC 0))
instance xX(d:AA AY):Ks (Of n d) 49 [.q 8 (map AY.enc d)] [] (λr=>I r):=KA func49
def eh(n:Nat)(q:AA CH)(f:(AA Int)×Int)(g:AA Int)(d:(AA Int)×Int):AB (CG ((AA Int)×Int) (AA Int)):=AH (AH (CJ q f.2) λh=>(bif d.2<h.Ax then AC (AG ((AI d.1:Int)<=256))else AC AD):AB Bool) λj=>(bif j then AH (app d.1 g) λm=>AC (.k (m,i64.wrap (d.2+1)))else AC (.d d.1))
def Tk(f:AA CH)(rec235:(AA CH)->AB (AA Int))(d:(AA Int)×Int):AB (CG ((AA Int)×Int) (AA Int)):=AH ((bif d.2<(AI f:Int) then AC (AG ((AI d.1:Int)<=256))else AC AD):AB Bool) λg=>(bif g then AH (AH (CJ f d.2) λh=>(bif (h.Ax==0)then AH (CJ f d.2) λj=>AH (app d.1 [j.Al]) λm=>AC m else AH (CJ f d.2) λq=>AH (rec235 q.Ac) λt=>AH (iter (eh n f d t) n (d.1,0):AB (AA Int)) λx=>AC x):AB (AA Int)) λy=>AC (.k (y,i64.wrap (d.2+1)))else AC (.d d.1))
def P_(rec235:(AA CH)->AB (AA Int))(n:Nat)(f:AA CH):AB (AA Int):=AH (iter (Tk n f rec235) n (([]:AA Int),0):AB (AA Int)) λd=>AC d
theorem QaV(rec235:(AA CH)->AB (AA Int))(ag:∀(G:AA CH),Kq (rec235 G) 112 [.q 3 (map CH.enc G)] [] (λr=>.o 0 (AI r) 1) (λr=>[.r 3 1 (map eI r)]))(n:Nat)(G:AA CH):Kq (P_ rec235 n G) 112 [.q 3 (map CH.enc G)] [] (λr=>.o 0 (AI r) 1) (λr=>[.r 3 1 (map eI r)]):=by
 refine Kg 7 func112 Z Z Z Z λr h=>vH (Ek (xs:=[]) (es:=map eI []) QF Z Z Z Z Z trivial Z Z) ?_;refine Fg 9 Z Z (Bd h λm aa h=>Cg m [0] [] (λm=>[(3,.o 0 (AI m) 1)]) (λm=>[(0,.r 3 1 (map eI m))]) Zf ?_ ?_)
 .refine G0 1 Z (Lp [0] [0] (λq=>[(3,.o 0 (AI q.1) 1),(4,I q.2)]) (λq=>[(0,.r 3 1 (map eI q.1))]) aa Zf (Lr [0]) λq ai f L=>?_);refine G0 2 Z (Bd f λE ab f=>Ct E [0] [0,3,4] (λE=>[(16,.b E)]) Ze Zf ?_ (λenv H B=>?_))
  .exact au ab
  refine Gx 1 Z (Ee B (Q8 Z f (λ_ f=>?_) (λ_ f=>?_)))
  .exact Je L f
  refine Gc 3 Z (Bd f λt d f=>Cg t [0] [0,4] (λt=>[(3,.o 0 (AI t) 1)]) (λt=>[(0,.r 3 1 (map eI t))]) Zf ?_ ?_)
  .refine G0 6 Z (Bd d λac N d=>FW N (QN ac) Z (Go 5 Z (Cn Z d (λ_ d=>?_) (λ_ d=>?_))))
   .refine Gc 5 Z (Bd d λJ P d=>FW P (QN J) Z (Go 2 Z (vH (Ek (xs:=[.tmp 30]) (es:=map eI [J.Al]) QF Z Z Z Z Z ⟨Z,trivial⟩ Z Z) ?_)));refine FE Z (Bd d λaj Q d=>vH (Qj (e:=eI) Q QF EB (QC (i:=1))) ?_);exact au d
   refine Gc 6 Z (Bd d λad R d=>FW R (QN ad) Z (Go 2 Z (Cd [] d Kc Z λak ah d=>Fg 8 Z Z (Bd d λx ae d=>Ct x [0] [0,4] (λx=>[(3,.o 0 (AI x) 1)]) (λx=>[(0,.r 3 1 (map eI x))]) Zf ?_ (λenv H B=>?_)))))
   .refine G0 1 Z (Lp [0,1] [0,4,5] (λy=>[(3,.o 0 (AI y.1) 1),(6,I y.2)]) (λy=>[(0,.r 3 1 (map eI y.1))]) ae Zf (Lr [0,1]) λy al g T=>?_);refine G0 2 Z (Bd g λF j g=>Ct F [0,1] [0,3,4,5,6] (λF=>[(50,.b F)]) Ze Zf ?_ (λenv H B=>?_))
    .refine G0 4 Z (Bd j λaf V j=>FW V (QN af) Z (Go 4 Z (Is 46 j Z (λ_ j=>?_) (λ_ j=>?_))))
     iterate 2 exact au j
    refine Gx 1 Z (Ee B (Q8 Z g (λ_ g=>?_) (λ_ g=>?_)))
    .exact Je T g
    refine Gc 7 Z (Bd g λam Y g=>vH (Qj (e:=eI) Y QF EB (QC (i:=1))) ?_);exact au g
   refine Gx 1 Z ?_;cases d;exact N5 (En B (Lr [0]))
  exact au f
 exact au h
def Mw:Nat->(AA CH)->AB (AA Int)
  |0=>λ_=>AF
  |n+1=>P_ (Mw n) n
instance z8:∀(d:AA CH),Kq (Mw n d) 112 [.q 3 (map CH.enc d)] [] (λr=>.o 0 (AI r) 1) (λr=>[.r 3 1 (map eI r)]):=by
  induction n with
  |zero=>exact λ_=>⟨nofun⟩
  |succ n ih=>exact QaV _ ih n
def TR(n:Nat)(f:CB)(m:Int)(q:Int)(d:Int):AB (CG Int (CG Unit Int)):=(bif d<(AI f.A4:Int) then AH (AH (CJ f.A4 d) λg=>(bif (g.BA==m)then AH (CJ f.A4 d) λh=>AC (h.To==q)else AC AD):AB Bool) λj=>(bif j then AC (.d (.d d))else AC (.k (i64.wrap (d+1))))else AC (.d (.k ())))
def Me(g:CB)(h:Int)(j:Int):AB Int:=AH (iter (TR n g h j) n 0:AB (CG Unit Int)) λf=>match f with|.k d=>(AC (-1))|.d d=>AC d
instance y6(d:CB)(f:Int)(g:Int):Ks (Me n d f g) 113 [.a (CB.c d),I f,I g] [] (λr=>I r):=KA func113
def Tv(n:Nat)(f:AA Int)(j:Int)(d:Int×Int):AB (CG (Int×Int) Int):=(bif d.2<(AI f:Int) then AH (CJ f d.2) λg=>AH ((bif (g==j)then AC (i64.wrap (d.1+1))else AC d.1):AB Int) λh=>AC (.k (h,i64.wrap (d.2+1)))else AC (.d d.1))
def Mr(f:AA Int)(g:Int):AB Int:=AH (iter (Tv n f g) n (0,0):AB Int) λd=>AC d
instance ji(x:AA Int)(y:Int):Ks (Mr n x y) 114 [.q 1 (map eI x),I y] [] (λr=>I r):=by
 refine Kg 16 func114 Z Z Z Z λr h=>Bd h λf B h=>Cg f [] [] (λf=>[(5,I f)]) Ze Zf ?_ ?_
 .refine G0 1 Z (Lp [] [0,1] (λg=>[(5,I g.1),(6,I g.2)]) Ze B Zf (Lr []) λg G d m=>?_);refine G0 5 Z (Lg 3 Z Z (Q8 Z d (λ_ d=>?_) (λ_ d=>?_)))
  .exact Je m d
  refine Gc 8 Z (Bd d λJ t d=>Iz t Z (Go 5 Z (Bd d λj E d=>Ct j [] [0,1,6] (λj=>[(5,I j)]) Ze Zf ?_ (λenv H F=>?_))))
  .exact au E
  exact Gx 2 Z (Ee F (Gc 5 Z (Q1 d (Lr []))))
 exact au h
def Tc(g:CB)(f:AA Int)(d:Int):AB (CG Int (CG Unit Bool)):=(bif d<(AI f:Int) then AH ((bif (d==0)then AC 1 else(bif (d==(i64.wrap ((AI f:Int)-1)))then AC 3 else AC 2)):AB Int) λh=>AH (AH (CJ f d) λj=>AH (CJ g.Av j) λm=>(bif (m.AX != h)then AC AE else(bif 0<d then AH (CJ f (i64.wrap (d-1))) λq=>AH (CJ f d) λt=>AH (Me n g q t) λx=>AC (AG (x<0))else AC AD)):AB Bool) λy=>(bif y then AC (.d (.d AD))else AC (.k (i64.wrap (d+1))))else AC (.d (.k ())))
def U9(f:AN)(m:AA Int)(d:Int):AB (CG Int (CG Unit Bool)):=(bif d<(AI f.Aq:Int) then AH (CJ f.Aq d) λg=>AH (Mr n m g.Al) λh=>AH (CJ f.Aq d) λj=>(bif h<j.B_ then AC (.d (.d AD))else AC (.k (i64.wrap (d+1))))else AC (.d (.k ())))
def O6(j:CB)(d:AN):AB Bool:=AH (Mw n d.Af) λf=>AH ((bif (AI f:Int)<2 then AC AE else AC (AG (256<(AI f:Int)))):AB Bool) λE=>(bif E then AC AD else AH (iter (Tc n j f) n 0:AB (CG Unit Bool)) λm=>match m with|.k g=>(AH ((bif (d.Am != (-1))then AH (CJ j.Av d.Am) λq=>(bif (q.AX != 2)then AC AE else AH (Mr n f d.Am) λt=>(bif (t==0)then AC AE else AH (Me n j d.Am d.Am) λx=>AC (AG (x<0))))else AC AD):AB Bool) λy=>(bif y then AC AD else AH (iter (U9 n d f) n 0:AB (CG Unit Bool)) λB=>match B with|.k h=>(AC AE)|.d h=>AC h))|.d g=>AC g)
instance xr(a1:CB)(a2:AN):Ks (O6 n a1 a2) 50 [.a (CB.c a1),.a (AN.c a2)] [] (λr=>.b r):=by
 refine Kg 11 func50 Z Z Z Z λr h=>Cd [] h Kc Z λr1 aw h=>Fg 12 Z Z (Bd h λW h4 h=>Ct W [0,1,2] [2,3,5,6] (λW=>[(20,.b W)]) Ze Zf ?_ (λenv H j=>?_))
 .exact au h4
 refine Gx 1 Z (Ee j (Cn Z h (λ_ h=>?_) (λ_ h=>?_)))
 .exact au h
 refine Gc 8 Z (Bd h λag ah h=>Fe (b:=ag) [0,1,2] [2,3,5] Ze Ze Zf ?_ (λaq env H B j=>?_))
 .refine G0 1 Z (Lp [0,1,2] [2,3,5,6] (λm=>[(7,I m)]) Ze ah Zf (Lr [0,1,2]) λm ax g E=>?_);refine G0 8 Z (Q8 Z g (λ_ g=>?_) (λ_ g=>?_))
  .exact Je E g
  refine Gc 22 Z (Bd g λF ai g=>Ct F [0,1,2] [2,3,5,6,7] (λF=>[(8,I F)]) Ze Zf ?_ (λenv H j=>?_))
  .exact au ai
  refine Gx 2 Z (Ee j (Gc 1 Z (Bd g λG d g=>Ct G [0,1,2] [2,3,5,6,7] (λG=>[(61,.b G)]) Ze Zf ?_ (λenv H j=>?_))))
  .refine G0 0 Z (DU 25 Z (D 4 Z ?_));obtain⟨aj,J,d⟩:=QE d;refine DS.v (x:=(.p 2 (toNat m*1))) (Qd J Z EB EC) ?_;refine DS.v (x:=(I aj)) (Ez Z EE Z (Qh J)) ?_;obtain⟨V,Y,d⟩:=QE d;refine DS.wo (x:=.rp [.str V.An,I V.AX]) ?_ ?_
   .exact Ix Y runUnderlying22 sizeOf214 Z Wp
   refine D 5 Z (DS.is 11 d Z Z Z (λ_ d=>?_) (λ_ d=>?_))
   .exact au d
   .refine D 3 Z (DS.is 14 d Z Z Z (λ_ d=>?_) (λ_ d=>?_))
    .refine D 4 Z ?_;obtain⟨ak,L,d⟩:=QE d;refine DS.v (x:=(.p 2 (toNat (i64.wrap (m-1))*1))) (Qd L Z EB EC) ?_ (hg:=(gT Z));refine DS.v (x:=(I ak)) (Ez Z EE Z (Qh L)) ?_ (hg:=(gT Z));refine D 2 Z ?_;obtain⟨al,M,d⟩:=QE d;refine DS.v (x:=(.p 2 (toNat m*1))) (Qd M Z EB EC) ?_ (hg:=(gT Z));refine DS.v (x:=(I al)) (Ez Z EE Z (Qh M)) ?_ (hg:=(gT Z));exact au d
    exact au d
  refine Gx 1 Z (Ee j (Cn Z g (λ_ g=>?_) (λ_ g=>?_)))
  .exact DX E g h
  exact au g
 subst B;refine Gx 1 Z (Ee j (Gc 2 Z (Bd h λN am h=>Ct N [1,2] [3,5] (λN=>[(90,.b N)]) Ze Zf ?_ (λenv H j=>?_))))
 .exact au am
 refine Gx 1 Z (Ee j (Cn Z h (λ_ h=>?_) (λ_ h=>?_)))
 .exact au h
 refine Gc 8 Z (Bd h λan ao h=>E_ (b:=an) [] [] Ze Ze Zf ?_ (λ_ B=>?_))
 .refine G0 1 Z (Lp [0,1] [3,5] (λO=>[(9,I O)]) Ze ao Zf (Lr [0,1]) λO av f y=>?_);refine G0 6 Z (Lg 3 Z Z (Q8 Z f (λ_ f=>?_) (λ_ f=>?_)))
  .exact Je y f
  refine Gc 5 Z (DU 14 Z (D 4 Z ?_));obtain⟨q,Q,f⟩:=QE f;refine DS.wo (x:=.rp [I q.Al,I q.B_,I q.Bu]) ?_ ?_
  .exact Ix Q GF sizeOf245 Z Wp
  refine D 2 Z ?_;obtain⟨ae,R,f⟩:=QE f;refine DS.wo (x:=I ae) ?_ ?_
  .refine Zj (C8.fn call114 rfl rfl rfl) (Dv.cons rfl (.inr ⟨_,_,_,_,_,rfl,rfl,X0 ..,rfl⟩) (Dv.cons rfl (.inl ⟨rfl,rfl⟩) Dv.nil)) ((ji _ _ _).c _ R) (by rintro _ _ ⟨rfl,rfl⟩;rfl) ?_;rintro _ _ ⟨rfl,rfl⟩;exact FE Z Wp
  refine D 3 Z ?_;obtain⟨t,T,f⟩:=QE f;refine DS.wo (x:=.rp [I t.Al,I t.B_,I t.Bu]) ?_ ?_
  .exact Ix T GF sizeOf245 Z Wp
  exact DX y f h
 subst B;exact au h
def V4(f:CB)(d:Int):AB (CG Int (CG Unit Int)):=(bif d<(AI f.AO:Int) then AH (CJ f.AO d) λg=>AH (O6 n f g) λh=>(bif (!h)then AC (.d (.d 72))else AC (.k (i64.wrap (d+1))))else AC (.d (.k ())))
def HL(d:CB):AB Int:=AH (Pb n d) λj=>(bif (!j)then AC 2 else AH (O_ n d) λm=>(bif (!m)then AC 70 else AH (PM n d) λq=>(bif (!q)then AC 71 else AH (Of n d.BN) λg=>(bif (g != 0)then AC g else AH (iter (V4 n d) n 0:AB (CG Unit Int)) λh=>match h with|.k f=>(AC 0)|.d f=>AC f))))
instance yi(t:CB):Ks (HL n t) 14 [.a (CB.c t)] [] (λr=>I r):=by
 refine Kg 10 func14 Z Z Z Z λr h=>Cz [] h Kc Z λR M h=>Go 3 Z (Cn Z h (λ_ h=>?_) (λ_ h=>?_))
 .exact au h
 refine Gc 6 Z (Cz [] h Kc Z λT N h=>Go 3 Z (Cn Z h (λ_ h=>?_) (λ_ h=>?_)))
 .exact au h
 refine Gc 6 Z (Cz [] h Kc Z λV O h=>Go 3 Z (Cn Z h (λ_ h=>?_) (λ_ h=>?_)))
 .exact au h
 refine Gc 6 Z (Cz [] h Kc Z λW P h=>Go 10 Z (Cn Z h (λ_ h=>?_) (λ_ h=>?_)))
 .exact au h
 refine Gc 8 Z (Bd h λG H h=>E_ (b:=G) [] [] Ze Ze Zf ?_ (λ_ J=>?_))
 .refine G0 1 Z (Lp [0] [1] (λj=>[(4,I j)]) Ze H Zf (Lr [0]) λj Q d g=>(G0 6 Z (Lg 3 Z Z (Q8 Z d (λ_ d=>?_) (λ_ d=>?_)))))
  .exact Je g d
  refine Gc 5 Z (DU 6 Z (D 4 Z ?_));obtain⟨f,q,d⟩:=QE d;refine DS.wo (x:=.rp [.str f.An,.q 3 (map CH.enc f.Af),I f.A9,.q 3 (map CO.c f.Aq),I f.Am]) ?_ ?_
  .exact Ix q EJ EW Z Wp
  exact DX g d h
 subst J;exact au h
def UO(n:Nat)(f:AA CH)(m:Int)(rec240:(AA CH)->Int->AB Int)(d:Int×Int):AB (CG (Int×Int) Int):=AH ((bif d.2<(AI f:Int) then AC (AG (d.1<500))else AC AD):AB Bool) λg=>(bif g then AH (CJ f d.2) λh=>AH (rec240 h.Ac (i64.wrap (m+1))) λj=>AC (.k (i64.wrap (d.1+j),i64.wrap (d.2+1)))else AC (.d d.1))
def RC(rec240:(AA CH)->Int->AB Int)(n:Nat)(d:AA CH)(f:Int):AB Int:=(bif 20<f then AC 500 else AH (iter (UO n d f rec240) n ((AI d:Int),0):AB Int) λg=>AC g)
theorem Qbl(rec240:(AA CH)->Int->AB Int)(B:∀(f:AA CH) (g:Int),Ks (rec240 f g) 123 [.q 3 (map CH.enc f),I g] [] (λr=>I r))(n:Nat)(f:AA CH)(g:Int):Ks (RC rec240 n f g) 123 [.q 3 (map CH.enc f),I g] [] (λr=>I r):=by
 refine Kg 8 func123 Z Z Z Z λr h=>Lg 10 Z Z (Cn Z h (λ_ h=>?_) (λ_ h=>?_))
 .exact au h
 refine Gc 8 Z (Bd h λj F h=>Cg j [] [] (λj=>[(5,I j)]) Ze Zf ?_ ?_)
 .refine G0 1 Z (Lp [] [0,1] (λm=>[(5,I m.1),(6,I m.2)]) Ze F Zf (Lr []) λm L d t=>?_);refine G0 2 Z (Bd d λq G d=>Cg q [] [0,1,5,6] (λq=>[(18,.b q)]) Ze Zf ?_ ?_)
  .exact au G
  refine Q8 Z d (λ_ d=>?_) (λ_ d=>?_)
  .exact Je t d
  exact Gc 8 Z (Bd d λH y d=>FW y (QN H) Z (Go 4 Z (Cz [] d Kc Z λM J d=>Go 10 Z (Q1 d (Lr [])))))
 exact au h
def M0:Nat->(AA CH)->Int->AB Int
  |0=>λ_ _=>AF
  |n+1=>RC (M0 n) n
instance _B:∀(d:AA CH) (f:Int),Ks (M0 n d f) 123 [.q 3 (map CH.enc d),I f] [] (λr=>I r):=by
  induction n with
  |zero=>exact λ_ _=>⟨nofun⟩
  |succ n ih=>exact Qbl _ ih n
def U_(n:Nat)(f:AA AR)(m:Int)(rec242:(AA AR)->Int->AB Int)(d:Int×Int):AB (CG (Int×Int) Int):=AH ((bif d.2<(AI f:Int) then AC (AG (d.1<500))else AC AD):AB Bool) λg=>(bif g then AH (CJ f d.2) λh=>AH (rec242 h.Ac (i64.wrap (m+1))) λj=>AC (.k (i64.wrap (d.1+j),i64.wrap (d.2+1)))else AC (.d d.1))
def Q_(rec242:(AA AR)->Int->AB Int)(n:Nat)(d:AA AR)(f:Int):AB Int:=(bif 20<f then AC 500 else AH (iter (U_ n d f rec242) n ((AI d:Int),0):AB Int) λg=>AC g)
theorem Qa8(rec242:(AA AR)->Int->AB Int)(B:∀(f:AA AR) (g:Int),Ks (rec242 f g) 195 [.q 4 (map AR.enc f),I g] [] (λr=>I r))(n:Nat)(f:AA AR)(g:Int):Ks (Q_ rec242 n f g) 195 [.q 4 (map AR.enc f),I g] [] (λr=>I r):=by
 refine Kg 8 func195 Z Z Z Z λr h=>Lg 10 Z Z (Cn Z h (λ_ h=>?_) (λ_ h=>?_))
 .exact au h
 refine Gc 8 Z (Bd h λj F h=>Cg j [] [] (λj=>[(5,I j)]) Ze Zf ?_ ?_)
 .refine G0 1 Z (Lp [] [0,1] (λm=>[(5,I m.1),(6,I m.2)]) Ze F Zf (Lr []) λm L d t=>?_);refine G0 2 Z (Bd d λq G d=>Cg q [] [0,1,5,6] (λq=>[(18,.b q)]) Ze Zf ?_ ?_)
  .exact au G
  refine Q8 Z d (λ_ d=>?_) (λ_ d=>?_)
  .exact Je t d
  exact Gc 8 Z (Bd d λH y d=>FW y (Jj H) Z (Go 4 Z (Cz [] d Kc Z λM J d=>Go 10 Z (Q1 d (Lr [])))))
 exact au h
def My:Nat->(AA AR)->Int->AB Int
  |0=>λ_ _=>AF
  |n+1=>Q_ (My n) n
instance z_:∀(d:AA AR) (f:Int),Ks (My n d f) 195 [.q 4 (map AR.enc d),I f] [] (λr=>I r):=by
  induction n with
  |zero=>exact λ_ _=>⟨nofun⟩
  |succ n ih=>exact Qa8 _ ih n
def Tf(f:AA AY)(g:Int)(rec241:(AA AY)->Int->AB Int)(d:Int×Int):AB (CG (Int×Int) Int):=AH ((bif d.2<(AI f:Int) then AC (AG (d.1<500))else AC AD):AB Bool) λh=>(bif h then AH (CJ f d.2) λj=>AH (My n [j.AR] 0) λm=>AH (CJ f d.2) λq=>AH (rec241 q.Ba (i64.wrap (g+1))) λt=>AH (CJ f d.2) λx=>AH (rec241 x.Bh (i64.wrap (g+1))) λy=>AC (.k (i64.wrap ((i64.wrap ((i64.wrap (d.1+m))+t))+y),i64.wrap (d.2+1)))else AC (.d d.1))
def P9(rec241:(AA AY)->Int->AB Int)(n:Nat)(d:AA AY)(f:Int):AB Int:=(bif 20<f then AC 500 else AH (iter (Tf n d f rec241) n ((AI d:Int),0):AB Int) λg=>AC g)
theorem Qa7(rec241:(AA AY)->Int->AB Int)(M:∀(m:AA AY) (q:Int),Ks (rec241 m q) 124 [.q 8 (map AY.enc m),I q] [] (λr=>I r))(n:Nat)(m:AA AY)(q:Int):Ks (P9 rec241 n m q) 124 [.q 8 (map AY.enc m),I q] [] (λr=>I r):=by
 refine Kg 8 func124 Z Z Z Z λr h=>Lg 10 Z Z (Cn Z h (λ_ h=>?_) (λ_ h=>?_))
 .exact au h
 refine Gc 8 Z (Bd h λt P h=>Cg t [] [] (λt=>[(5,I t)]) Ze Zf ?_ ?_)
 .refine G0 1 Z (Lp [] [0,1] (λy=>[(5,I y.1),(6,I y.2)]) Ze P Zf (Lr []) λy V d E=>?_);refine G0 2 Z (Bd d λB Q d=>Cg B [] [0,1,5,6] (λB=>[(18,.b B)]) Ze Zf ?_ ?_)
  .exact au Q
  refine Q8 Z d (λ_ d=>?_) (λ_ d=>?_)
  .exact Je E d
  refine Gc 4 Z (DU 26 Z (D 3 Z ?_));obtain⟨f,G,d⟩:=QE d;refine DS.v (x:=(.rp [I f.AX,I f.By,I f.AR.AX,I f.AR.B0,I f.AR.N,.q 4 (map AR.enc f.AR.Ac),.q 8 (map AY.enc f.Ba),.q 8 (map AY.enc f.Bh)])) (lR (e:=AY.enc) G (Yr f) GH GX) ?_;refine D 2 Z ?_;refine DS.wo (x:=.q 4 (map AR.enc [f.AR])) ?_ ?_
  .refine vH (QO (xs:=[.tmp 26]) (es:=[AR.c f.AR]) Y? Z Z Z Z Z ⟨Z,trivial⟩ Z Z) ?_;refine N8 (x:=(.q 4 (map AR.enc [f.AR]))) (H:=[]) (by simp[Jj]) Z ?_;exact Wp
  refine Dz [] d Kc Z λW R d=>D 3 Z ?_;obtain⟨g,J,d⟩:=QE d;refine DS.v (x:=(.rp [I g.AX,I g.By,I g.AR.AX,I g.AR.B0,I g.AR.N,.q 4 (map AR.enc g.AR.Ac),.q 8 (map AY.enc g.Ba),.q 8 (map AY.enc g.Bh)])) (lR (e:=AY.enc) J (Yr g) GH GX) ?_;refine D 4 Z ?_;refine Dz [] d Kc Z λX T d=>D 3 Z ?_;obtain⟨j,L,d⟩:=QE d;refine DS.v (x:=(.rp [I j.AX,I j.By,I j.AR.AX,I j.AR.B0,I j.AR.N,.q 4 (map AR.enc j.AR.Ac),.q 8 (map AY.enc j.Ba),.q 8 (map AY.enc j.Bh)])) (lR (e:=AY.enc) L (Yr j) GH GX) ?_;exact au d
 exact au h
def Mv:Nat->(AA AY)->Int->AB Int
  |0=>λ_ _=>AF
  |n+1=>P9 (Mv n) n
instance zt:∀(d:AA AY) (f:Int),Ks (Mv n d f) 124 [.q 8 (map AY.enc d),I f] [] (λr=>I r):=by
  induction n with
  |zero=>exact λ_ _=>⟨nofun⟩
  |succ n ih=>exact Qa7 _ ih n
end Go.Sw
