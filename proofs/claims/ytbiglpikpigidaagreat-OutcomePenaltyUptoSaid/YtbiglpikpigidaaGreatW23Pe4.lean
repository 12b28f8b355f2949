/- What the functions compute that OutcomePenalty reaches, and that their calls refine it (part 4 of 6). -/
import Derived.Test.YtbiglpikpigidaaGreatW23Pe3
set_option linter.unusedVariables false
set_option linter.unusedSimpArgs false
set_option maxRecDepth 100000
set_option maxHeartbeats 4000000
namespace Go.Sw
open Option renaming some→AC,none→AF,bind→AH
open Bool renaming false→AD,true→AE
open Decidable renaming decide→AG
open List renaming length→AI
variable (n:Nat)
open List(map)
open Int(toNat)
open Go.IntKind(i64 u64 u8)
open Go.Proofs Tryz
def I'(f:AA CC)(d:(AA CC)×Int×Int):AB (CG ((AA CC)×Int×Int) (AA CC)):=(bif d.2.2<(AI f:Int) then AH (CJ f d.2.2) λh=>AH (MQ n h d.2.1 d.1) λg=>AC (.k (g.2,g.1,i64.wrap (d.2.2+1)))else AC (.d d.1))
def JZ(d:AA CC):AB (AA CC):=AH (O' n d) λm=>AH ((bif m then AH (IQ n) λB=>AH (app [] [{BM:=AE,BS:=(-1),Lo:=0,Hi:=0:CC}]) λq=>AC q else AC []):AB (AA CC)) λt=>AH (V3 n d) λf=>AH (PZ n f) λg=>AH (L2 (λx y=>Po n x y) g) λh=>AH (iter (I' n h) n (t,(-1),0):AB (AA CC)) λj=>AC j
instance zO(J:AA CC):Kq (JZ n J) 15 [.q 4 (map CC.c J)] [] (λr=>.o 0 (AI r) 4) (λr=>[.r 77 4 (map CC.c r),.c 51 [.o 0 (AI r) 4]]):=by
 refine Kg 9 func15 Z Z Z Z λr h=>Cz [] h Kc Z λr1 T h=>Go 2 Z (Bd h λE g h=>Ct E [0,0] [0,2] Ze (λE=>[(0,.c 51 [.o 1 (AI E) 4]),(1,.r 77 4 (map CC.c E))]) Zf ?_ (λenv H L=>?_))
 .refine G0 0 Z (Cn Z g (λ_ g=>?_) (λ_ g=>?_))
  .refine HT 3 [1] [(0,0,1),(1,0,0),(0,1,1)] (by kernel_rfl) ?_;refine KI (lo:=0) (x:=.n) ⟨Z,trivial⟩ ?_;obtain⟨r8,N,g⟩:=QE g;refine Ex (x:=.a [.b AE,I (-1),I 0,I 0]) (X1:=[.c 51 [.n],.c 77 [.b AE,I (-1),I 0,I 0]]) ?_ ?_
   .refine Qg [] (C7.fn call53 Z Z Z) ((ZA _).c _ N) ?_;rintro _ _ ⟨rfl,rfl⟩;exact FE Z Wp
   refine DK.wo (x:=.q 4 (map CC.c [{BM:=AE,BS:=(-1),Lo:=0,Hi:=0:CC}])) ?_ ?_
   .refine vH (QP (xs:=[.tmp 11]) Je Z Z Z Z Z ⟨Z,trivial⟩ Z Z) ?_;exact FE Z Wp
   refine DK.done Z Z (Bd g λl9 O g=>?_);refine vH (Qpl O Je EM LT) ?_;exact au g
  refine Gc 1 Z ?_;cases g;refine En (Yb (i:=0) (m:=0) (t:=77) (k:=4) Z Z Z) ?_;exact Lr [0,1]
 refine Gx 1 Z (Ee L (Gc 3 Z (Cd [] h Kc Z λV Q h=>FE Z (Cd [2] h Kc Z λW R h=>Fg 6 Z Z (Bd h λX q h=>?_)))));refine Qg [2] (C7.fn call57 Z Z Z) (po Qhy q (λx y c h=>(jb n x y).c c h) Gg EQ call58 Zf Z) ?_;rintro _ _ ⟨rfl,rfl⟩;refine FE Z ?_;refine Et (Q5 (s:=3) Z (congrArg (λn=>A.s 2 0 n 4) (d8 q))) ?_;refine Go 22 Z (Bd h λj P h=>Cg j [0,1] [2] Ze (λj=>[(0,.c 51 [.o 1 (AI j) 4]),(1,.r 77 4 (map CC.c j))]) Zf ?_ ?_)
 .refine G0 1 Z (Lp [0,1,3,2] [2,5,20,21] (λf=>[(22,I f.2.2)]) (λf=>[(0,.c 51 [.o 1 (AI f.1) 4]),(1,.r 77 4 (map CC.c f.1)),(2,.c 3 [I f.2.1])]) P Zf (Lr [0,1,3,2]) λf Y d F=>?_);refine G0 6 Z (Q8 Z d (λ_ d=>?_) (λ_ d=>?_))
  .exact Jd F d
  refine Gc 6 Z (Bd d λaa B d=>?_);refine vV (Qd B Z EM EQ) ?_;refine vV (Qs Z Gg EQ Z (Qh B) Z Z) ?_;exact au d
 exact au h
def Ie(f:(AA CW)×Int)(m:Ui×Int)(d:(AA CC)×Int):AB (CG ((AA CC)×Int) (AA CC)):=(bif d.2<(AI f.1:Int) then AH (CJ f.1 d.2) λg=>AH (HR n m.1 g) λh=>AH (app d.1 h) λj=>AC (.k (j,i64.wrap (d.2+1)))else AC (.d d.1))
def NA(g:CB)(h:CE)(j:AP)(m:AA CM)(q:AA Ae)(E:AA CF)(F:Int):AB ((AA CC)×Int):=AH (PY n g h j m q E F) λt=>AH (HF n g h j t.BY m q) λd=>AH ((bif (d.2 != 0)then AC (d.2 != 2)else AC AD):AB Bool) λG=>(bif G then AC ([],d.2)else AH (JX n t) λf=>(bif (f.2 != 0)then AC ([],f.2)else(bif (d.2==2)then AH (K4 n f.1) λx=>AC (x,0)else AH (iter (Ie n d f) n ([],0):AB (AA CC)) λy=>AH (JZ n y) λB=>AC (B,0))))
instance jQ(E:CB)(F:CE)(G:AP)(J:AA CM)(L:AA Ae)(M:AA CF)(N:Int):Kq (NA n E F G J L M N) 8 [.a (CB.c E),.a (CE.c F),.a (AP.c G),.q 5 (map CM.c J),.q 4 (map Ae.c L),.q 4 (map CF.c M),I N] [] (λr=>.t [.o 0 (AI r.1) 4,I r.2]) (λr=>[.r 77 4 (map CC.c r.1)]):=by
 refine Kg 18 func8 Z Z Z Z λr h=>Cd [] h Kc Z λr1 X h=>Fg 13 Z Z (Cd [] h Kc Z λr2 Y h=>Fg 9 Z Z (Bd h λm V h=>Ct m [4,5] [14,15,16,17] (λm=>[(45,.b m)]) Ze Zf ?_ (λenv H O=>?_)))
 .exact au V
 refine Gx 1 Z (Ee O (Cn Z h (λ_ h=>?_) (λ_ h=>?_)))
 .refine Gc 9 Z ?_;obtain rfl:=Oi h;refine R2 14 15 Z Z ?_;refine En (Er (s:=14) (k:=4) (t:=77) (XR Z) Z) ?_;exact Lr [2]
 refine Gc 5 Z (Cd [0] h Kc Z λr8 aa h=>Fg 9 Z Z (Cn Z h (λ_ h=>?_) (λ_ h=>?_)))
 .refine Gc 9 Z ?_;obtain rfl:=Oi h;refine R2 14 15 Z Z ?_;refine En (Er (s:=14) (k:=4) (t:=77) (XR Z) Z) ?_;exact Lr [2]
 refine Gc 9 Z (Cn Z h (λ_ h=>?_) (λ_ h=>?_))
 .exact au h
 refine Gc 10 Z (Bd h λg R h=>Cg g [0] [] (λg=>[(14,.o 0 (AI g) 4)]) (λg=>[(0,.r 77 4 (map CC.c g))]) Zf ?_ ?_)
 .refine G0 1 Z (Lp [0,0,1] [55,56] (λf=>[(14,.o 0 (AI f.1) 4),(16,.p 1 0),(57,I f.2)]) (λf=>[(0,.r 77 4 (map CC.c f.1))]) R Zf ?_ ?_)
  .refine En (Er (s:=14) (k:=4) (t:=77) (XR Z) Z) ?_;exact Lr [2,0,1]
  intro f ab d x;refine G0 6 Z (Q8 Z d (λ_ d=>?_) (λ_ d=>?_))
  .exact Jd x d
  refine Gc 6 Z (Bd d λT j d=>?_);refine vX (.p 2 (toNat f.2*2)) (Qd j Z GU sizeOf75) ?_;refine vX (.a (CW.c T)) (Qs Z isAgg75 sizeOf75 Z (Qh j) Z Z) ?_;refine Go 8 Z (Cd [] d Kc Z λac W d=>FE Z (Bd d λad B d=>vH (Qj (e:=CC.c) B Je EM (QC (i:=4))) ?_));exact au d
 refine Gc 3 Z ?_;refine Et (Yk [(14,_),(67,_)] Z Z (Cy.cons Z Ep (Cy.cons Z Ep Cy.nil)) (Ec (QU _))) ?_;exact au h
def ef(n:Nat)(f:AA CC)(j:AA CC)(d:Int):AB (CG Int (CG Unit Bool)):=(bif d<(AI f:Int) then AH (CJ f d) λg=>AH (CJ j d) λh=>(bif (g != h)then AC (.d (.d AD))else AC (.k (i64.wrap (d+1))))else AC (.d (.k ())))
def Ml(f:AA CC)(g:AA CC):AB Bool:=(bif ((AI f:Int) != (AI g:Int))then AC AD else AH (iter (ef n f g) n 0:AB (CG Unit Bool)) λh=>match h with|.k d=>(AC AE)|.d d=>AC d)
instance bB(B:AA CC)(E:AA CC):Ks (Ml n B E) 12 [.q 4 (map CC.c B),.q 4 (map CC.c E)] [] (λr=>.b r):=by
 refine Kg 9 func12 Z Z Z Z λr h=>Lg 1 Z Z (Lg 3 Z Z (Cn Z h (λ_ h=>?_) (λ_ h=>?_)))
 .exact au h
 refine Gc 8 Z (Bd h λG H h=>D_ (b:=G) [] [] Ze Ze Zf ?_ (λ_ J=>?_))
 .refine G0 1 Z (Lp [] [0,1] (λm=>[(5,I m)]) Ze H Zf (Lr []) λm M d j=>(G0 5 Z (Lg 3 Z Z (Q8 Z d (λ_ d=>?_) (λ_ d=>?_)))))
  .exact Jd j d
  refine Gc 5 Z (DT 8 Z (D 2 Z ?_));obtain⟨f,t,d⟩:=QE d;refine DS.wo (x:=.rp [.b f.BM,I f.BS,I f.Lo,I f.Hi]) ?_ ?_
  .exact Ix t EM EQ Z Wp
  refine D 3 Z ?_;obtain⟨g,y,d⟩:=QE d;refine DS.wo (x:=.rp [.b g.BM,I g.BS,I g.Lo,I g.Hi]) ?_ ?_
  .exact Ix y EM EQ Z Wp
  refine D 1 Z (Eg Z (vV (sU pP Z Z) ?_));exact DX j d h
 subst J;exact au h
def LC(f:Int)(g:AA Ae)(h:AA CF)(j:AA CC):AB Bool:=AH (e8 n f) λm=>AH (LD n) λx=>AH (NA n ({Ap:=[99],Au:=[{Ap:=[115],AW:=1:Al},{Ap:=[101],AW:=3:Al}],Az:=[{BA:=0,To:=1,Bn:=10,Br:=1000:Cr}],AO:=m,A4:=[{Ap:=[119],B_:=0:A3}],Ab:=[],AV:=[],Ay:=[],BN:=[{UI with AW:=1,By:=4:AY}],AQ:=Uw,Bk:=0,Aw:=0:CB}) ({AS:=[],BQ:=[[0]]:CE}) ({UH with BW:=1:AP}) [] g h (-1)) λd=>AH (AH (Ml n d.1 j) λq=>(bif q then AC (d.2==0)else AC AD):AB Bool) λt=>AC t
instance NZ(d:Int)(f:AA Ae)(g:AA CF)(j:AA CC):Ks (LC n d f g j) 19 [I d,.q 4 (map Ae.c f),.q 4 (map CF.c g),.q 4 (map CC.c j)] [] (λr=>.b r):=by
 refine Kg 8 func19 Z Z Z Z λr h=>Cd [] h Kc Z λx q h=>FE Z (Cd [] h Kc Z λy t h=>Fg 3 Z Z ?_);refine Et (Yk [(13,_)] Z Z (Cy.cons Z (DQ.agg (CY.k (Ed Ep (Ej _)))) Cy.nil) (Ec (Ec (Ec (Ec (Ec (Do.cells (CY.k (Ed Ep (Ej _))) (QU _)))))))) (Et (Yk [(13,_)] Z Z (Cy.cons Z (DQ.agg (CY.k (CY.k (Ed Ep (Ej _))))) Cy.nil) (Ec (Ec (Ec (Ec (Ec (Do.cells (CY.k (CY.k (Ed Ep (Ej _)))) (QU _)))))))) ?_);refine Et (Yk [(13,_)] Z Z (Cy.cons Z (DQ.agg (CY.k (CY.k (CY.k (Ed Ep (Ej _)))))) Cy.nil) (Ec (Ec (Ec (Ec (Ec (Do.cells (CY.k (CY.k (CY.k (Ed Ep (Ej _))))) (QU _)))))))) ?_;refine Et (Yk [(13,_)] Z Z (Cy.cons Z (DQ.agg (CY.k (CY.k (CY.k (CY.k (Ed Ep (Ej _))))))) Cy.nil) (Ec (Ec (Ec (Ec (Ec (Do.cells (CY.k (CY.k (CY.k (CY.k (Ed Ep (Ej _)))))) (QU _)))))))) (Et (Yk [(13,_)] Z Z (Cy.cons Z (DQ.agg (CY.k (CY.k (CY.k (CY.k (CY.k (CY.k (CY.k (CY.k (Ed Ep (Ej _))))))))))) Cy.nil) (Ec (Ec (Ec (Ec (Ec (Do.cells (CY.k (CY.k (CY.k (CY.k (CY.k (CY.k (CY.k (CY.k (Ed Ep (Ej _)))))))))) (QU _)))))))) ?_);refine Et (Yk [(14,_)] Z Z (Cy.cons Z (DQ.agg (CY.k (Ed Ep (Ej _)))) Cy.nil) (Ec (Ec (Ec (Ec (Ec (Ec (Ec (Do.cells (CY.k (Ed Ep (Ej _))) (QU _)))))))))) (Bd h λB m h=>?_);refine Qg [] (C7.fn call8 Z Z Z) (C.nils (FT.eq (FT.eq (FT.eq (FT.nl (FT.eq (FT.eq (FT.eq FT.nil))))))) ((jQ _ _ _ _ _ _ _ _).c _ m)) ?_;rintro _ _ ⟨rfl,rfl⟩;exact au h
def Mn(n:Nat):AB Unit:=AC ()
instance NY:Kq (Mn n) 20 [] [] (λ_=>.o 0 ([{BW:=1,AT:=0,Lo:=0,Hi:=5:Ae},{BW:=1,AT:=1,Lo:=100,Hi:=101:Ae}].length) 4) (λ_=>[.r 104 4 (map Ae.c [{BW:=1,AT:=0,Lo:=0,Hi:=5:Ae},{BW:=1,AT:=1,Lo:=100,Hi:=101:Ae}])]):=KA func20
def Pv(f:CE)(d:CC):AB Int:=AH (JY n f) λg=>(bif (g != 0)then AC g else AH ((bif (-1)<=d.BS then(bif d.BS<(AI f.AS:Int) then(bif (-288230376151711744)<=d.Lo then(bif d.Lo<=d.Hi then AC (AG (d.Hi<=288230376151711744))else AC AD)else AC AD)else AC AD)else AC AD):AB Bool) λj=>AH ((bif d.BM then AH (IQ n) λm=>AC (d==({BM:=AE,BS:=(-1),Lo:=0,Hi:=0:CC}))else AC j):AB Bool) λh=>(bif (!h)then AC 230 else AC 0))
instance a_(y:CE)(g:CC):Ks (Pv n y g) 18 [.a (CE.c y),.a (CC.c g)] [] (λr=>I r):=by
 refine Kg 11 func18 Z Z Z Z λr h=>Cz [] h Kc Z λL G h=>Go 9 Z (Cn Z h (λ_ h=>?_) (λ_ h=>?_))
 .exact au h
 refine Gc 3 Z (Bd h λj F h=>Ct j [1] [3] (λj=>[(6,.b j)]) Ze Zf ?_ (λenv H E=>?_))
 .exact au F
 refine Gx 1 Z (Ee E (Gc 7 Z (Bd h λf d h=>Cg f [] [] (λf=>[(6,.b f)]) Ze Zf ?_ ?_)))
 .refine G0 0 Z (Cn Z d (λ_ d=>?_) (λ_ d=>?_))
  .refine HT 2 [1] [(0,0,1),(1,0,0)] (by kernel_rfl) ?_;refine KI (lo:=0) ⟨Z,trivial⟩ ?_;obtain⟨J,t,d⟩:=QE d;refine Ex (x:=.a [.b AE,I (-1),I 0,I 0]) (X1:=[.c 77 (CC.c g),.c 77 [.b AE,I (-1),I 0,I 0]]) ?_ ?_
   .refine Qg [] (C7.fn call53 Z Z Z) ((ZA _).c _ t) ?_;rintro _ _ ⟨rfl,rfl⟩;exact FE Z Wp
   refine DK.done Z Z ?_;refine vV (iO (p:=g) (q:={BM:=AE,BS:=(-1),Lo:=0,Hi:=0:CC}) pP Z Z) ?_;exact Gl 2 Z d []
  exact au d
 exact au h
def W5(f:CE)(d:CC):AB (CK×Int):=AH (Pv n f d) λg=>(bif (g != 0)then AC ({Lo:=0,Hi:=0:CK},g)else(bif d.BM then AC ({Lo:=0,Hi:=0:CK},230)else AH (MN n f d.BS ({Lo:=d.Lo,Hi:=d.Hi:CK})) λh=>AC ({Lo:=h.Lo,Hi:=h.Hi:CK},0)))
instance bA(d:CE)(f:CC):Kq (W5 n d f) 21 [.a (CE.c d),.a (CC.c f)] [] (λr=>.t [.a [I r.1.Lo,I r.1.Hi],I r.2]) (λr=>[.c 83 [I r.1.Lo,I r.1.Hi]]):=KA func21
abbrev Hj:AA CC:=[{BM:=AE,BS:=(-1),Lo:=0,Hi:=0:CC},{BM:=AD,BS:=(-1),Lo:=100,Hi:=101:CC}]
abbrev C4:AA Ae:=[{BW:=1,AT:=0,Lo:=0,Hi:=5:Ae},{BW:=1,AT:=1,Lo:=100,Hi:=101:Ae}]
abbrev RH:AA CC:=[{BM:=AD,BS:=1,Lo:=1,Hi:=2:CC},{BM:=AD,BS:=1,Lo:=3,Hi:=4:CC}]
abbrev Hh:AA CC:=[{BM:=AD,BS:=(-1),Lo:=100,Hi:=101:CC}]
abbrev Hg:AA CC:=[{BM:=AD,BS:=(-1),Lo:=160,Hi:=161:CC}]
abbrev FI:AA CC:=[{BM:=AE,BS:=(-1),Lo:=0,Hi:=0:CC}]
abbrev He:AA CF:=[{UB with BM:=AE:CF}]
abbrev Ha:AA CF:=[{UB with BU:=60:CF}]
abbrev KK:CE:={AS:=[],BQ:=[[0]]:CE}
def W0:AB Bool:=AH (AH (LC n 0 [] [] FI) λf=>(bif (!f)then AC AE else AH (Mn n) λF=>AH (LC n 0 C4 [] Hh) λg=>(bif (!g)then AC AE else AH (Mn n) λG=>AH (LC n 0 C4 He FI) λh=>(bif (!h)then AC AE else AH (Mn n) λH=>AH (LC n 100 C4 [] Hj) λj=>(bif (!j)then AC AE else AH (Mn n) λJ=>AH (LC n 0 C4 Ha Hg) λm=>AC (!m))))):AB Bool) λq=>(bif q then AC AD else AH (LD n) λL=>AH (W5 n (KK) ({BM:=AD,BS:=(-1),Lo:=100,Hi:=101:CC})) λd=>AH (LD n) λM=>AH (W5 n (KK) ({BM:=AE,BS:=(-1),Lo:=0,Hi:=0:CC})) λt=>AH ((bif (({Lo:=d.1.Lo,Hi:=d.1.Hi:CK})==({Lo:=100,Hi:=101:CK}))then(bif (d.2==0)then(bif (t.2==230)then AH (LD n) λN=>AH (Pv n (KK) ({BM:=AE,BS:=(-1),Lo:=0,Hi:=0:CC})) λx=>(bif (x==0)then AH (LD n) λO=>AH (Pv n (KK) Uz) λy=>(bif (y==230)then AH (JZ n RH) λB=>AC ((AI B:Int)==1)else AC AD)else AC AD)else AC AD)else AC AD)else AC AD):AB Bool) λE=>AC E)
instance jU:Ks (W0 n) 6 [] [] (λr=>.b r):=by
 refine Kg 28 func6 Z Z Z Z λr h=>Bd h λm g h=>Ct m [0,1] [1,2] (λm=>[(47,.b m)]) Ze Zf ?_ (λenv H am=>?_)
 .refine G0 0 Z (HT 34 [5,12,21,29] [(0,0,0),(0,0,0),(0,0,0),(0,0,0),(0,0,0),(1,0,0),(0,0,1),(0,0,1),(0,1,1),(0,1,1),(0,1,1),(0,1,1),(1,1,0),(0,1,2),(0,1,2),(0,1,2),(0,1,2),(0,2,2),(0,2,2),(0,2,2),(0,2,2),(1,2,0),(0,2,3),(0,2,3),(0,2,3),(0,3,3),(0,3,3),(0,3,3),(0,3,3),(1,3,0),(0,3,4),(0,3,4),(0,3,4),(0,3,4)] (by kernel_rfl) (Dk 1 Z ?_));refine DK.wo (x:=.q 4 (map CC.c FI)) ?_ ?_
  .refine vH (QP (xs:=[.tmp 11]) (es:=map CC.c FI) Je Z Z Z Z Z ⟨Z,trivial⟩ Z Z) ?_;refine aV (.q 4 (map CC.c FI)) [_,_,_] Z Z ?_;exact Wp
  obtain⟨G,N,g⟩:=QE g;refine DK.wo (x:=.b G) ?_ ?_
  .refine Qg [] (C7.fn call19 Z Z Z) (C.nils (FT.eq (FT.nl (FT.nl (FT.eq FT.nil)))) ((NZ _ _ _ _ _).c _ N)) ?_;rintro _ _ ⟨rfl,rfl⟩;refine aV (.b G) [_,_,_] Z Z ?_;exact Wp
  refine Dk 2 Z (DK.is 4 g Z Z Z (λ_ g=>?_) (λ_ g=>?_))
  .exact Dk 29 Z (DK.done Z Z (Gl 4 Z g [0,1]))
  .obtain⟨ar,P,g⟩:=QE g;refine Ex (x:=.o 3 (AI C4) 4) (X1:=[.c 77 [.b AE,I (-1),I 0,I 0],.c 77 [.b AD,I (-1),I 100,I 101],.c 77 [.b AD,I (-1),I 160,I 161],.r 104 4 (map Ae.c C4)]) ?_ ?_
   .refine Qg [] (C7.fn call20 Z Z Z) ((NY _).c _ P) ?_ (hg:=(gT Z));rintro _ _ ⟨rfl,rfl⟩;refine aV (.o 3 (AI C4) 4) [_,_,_,.r 104 4 (map Ae.c C4)] Z Z ?_;exact Wp
   refine W8 (lo:=0) (hi:=1) (x:=.a [.b AD,I (-1),I 100,I 101]) ⟨Z,Z,trivial⟩ ?_;refine KT (lo:=0) (hi:=1) (x:=.q 4 (map CC.c Hh)) ⟨?_,?_,trivial⟩ ?_
   .refine vH (QP (xs:=[.tmp 17]) (es:=map CC.c Hh) Je Z Z Z Z Z ⟨Z,trivial⟩ Z Z) ?_ (gT Z);refine aV (.q 4 (map CC.c Hh)) [_,_,_,_] Z Z ?_;exact Wp
   .refine vH (QP (xs:=[.tmp 17]) (es:=map CC.c Hh) Je Z Z Z Z Z ⟨Z,trivial⟩ Z Z) ?_ (gT Z);refine aV (.q 4 (map CC.c Hh)) [_,_,_] Z Z ?_;exact Wp
   obtain⟨J,Q,g⟩:=QE g;refine DK.wo (x:=.b J) ?_ ?_
   .refine Zi (C7.fn call19 rfl rfl rfl) (Dt.cons rfl (.inl ⟨rfl,rfl⟩) (Dt.cons rfl (.inr ⟨_,_,_,_,_,rfl,rfl,X2 ..,rfl⟩) (Dt.cons rfl (.inl ⟨rfl,rfl⟩) (Dt.cons rfl (.inl ⟨rfl,rfl⟩) Dt.nil)))) (C.nils (FT.eq (FT.eq (FT.nl (FT.eq FT.nil)))) ((NZ _ _ _ _ _).c _ Q)) (by rintro _ _ ⟨rfl,rfl⟩;rfl) ?_ (gT rfl);rintro _ _ ⟨rfl,rfl⟩;refine aV (.b J) [_,_,_,_] Z Z ?_;exact Wp
   refine Dk 3 Z (DK.is 11 g Z Z Z (λ_ g=>?_) (λ_ g=>?_))
   .exact Dk 22 Z (DK.done Z Z (Gl 4 Z g [0,1]))
   .obtain⟨av,T,g⟩:=QE g;refine Ex (x:=.o 4 (AI C4) 4) (X1:=[.c 77 [.b AE,I (-1),I 0,I 0],.c 77 [.b AD,I (-1),I 100,I 101],.c 77 [.b AD,I (-1),I 160,I 161],.r 104 4 (map Ae.c C4),.r 104 4 (map Ae.c C4)]) ?_ ?_
    .refine Qg [] (C7.fn call20 Z Z Z) ((NY _).c _ T) ?_ (hg:=(gT Z));rintro _ _ ⟨rfl,rfl⟩;refine aV (.o 4 (AI C4) 4) [_,_,_,_,.r 104 4 (map Ae.c C4)] Z Z ?_;exact Wp
    refine Dk 1 Z ?_;refine KT (lo:=1) (hi:=2) (x:=.q 4 (map CF.c He)) ⟨?_,?_,trivial⟩ ?_
    .refine vH (QP (xs:=[.tmp 24]) (es:=map CF.c He) I5 Z Z Z Z Z ⟨Z,trivial⟩ Z Z) ?_ (gT Z);refine aV (.q 4 (map CF.c He)) [_,_,_,_,_] Z Z ?_;exact Wp
    .refine vH (QP (xs:=[.tmp 24]) (es:=map CF.c He) I5 Z Z Z Z Z ⟨Z,trivial⟩ Z Z) ?_ (gT Z);refine aV (.q 4 (map CF.c He)) [_,_,_,_] Z Z ?_;exact Wp
    refine W8 (lo:=1) (hi:=2) (x:=.a [.b AE,I (-1),I 0,I 0]) ⟨Z,Z,trivial⟩ ?_;refine KT (lo:=1) (hi:=2) (x:=.q 4 (map CC.c FI)) ⟨?_,?_,trivial⟩ ?_
    .refine vH (QP (xs:=[.tmp 26]) (es:=map CC.c FI) Je Z Z Z Z Z ⟨Z,trivial⟩ Z Z) ?_ (gT Z);refine aV (.q 4 (map CC.c FI)) [_,_,_,_,_] Z Z ?_;exact Wp
    .refine vH (QP (xs:=[.tmp 26]) (es:=map CC.c FI) Je Z Z Z Z Z ⟨Z,trivial⟩ Z Z) ?_ (gT Z);refine aV (.q 4 (map CC.c FI)) [_,_,_,_] Z Z ?_;exact Wp
    obtain⟨L,V,g⟩:=QE g;refine DK.wo (x:=.b L) ?_ ?_
    .refine Zi (C7.fn call19 rfl rfl rfl) (Dt.cons rfl (.inl ⟨rfl,rfl⟩) (Dt.cons rfl (.inr ⟨_,_,_,_,_,rfl,rfl,X2 ..,rfl⟩) (Dt.cons rfl (.inl ⟨rfl,rfl⟩) (Dt.cons rfl (.inl ⟨rfl,rfl⟩) Dt.nil)))) ((NZ _ _ _ _ _).c _ V) (by rintro _ _ ⟨rfl,rfl⟩;rfl) ?_ (gT rfl);rintro _ _ ⟨rfl,rfl⟩;refine aV (.b L) [_,_,_,_,_] Z Z ?_;exact Wp
    refine Dk 3 Z (DK.is 20 g Z Z Z (λ_ g=>?_) (λ_ g=>?_))
    .exact Dk 13 Z (DK.done Z Z (Gl 4 Z g [0,1]))
    .obtain⟨aw,X,g⟩:=QE g;refine Ex (x:=.o 5 (AI C4) 4) (X1:=[.c 77 [.b AE,I (-1),I 0,I 0],.c 77 [.b AD,I (-1),I 100,I 101],.c 77 [.b AD,I (-1),I 160,I 161],.r 104 4 (map Ae.c C4),.r 104 4 (map Ae.c C4),.r 104 4 (map Ae.c C4)]) ?_ ?_
     .refine Qg [] (C7.fn call20 Z Z Z) ((NY _).c _ X) ?_ (hg:=(gT Z));rintro _ _ ⟨rfl,rfl⟩;refine aV (.o 5 (AI C4) 4) [_,_,_,_,_,.r 104 4 (map Ae.c C4)] Z Z ?_;exact Wp
     refine W8 (lo:=2) (hi:=3) (x:=.a [.b AE,I (-1),I 0,I 0]) ⟨Z,Z,trivial⟩ ?_;refine W8 (lo:=2) (hi:=3) (x:=.a [.b AD,I (-1),I 100,I 101]) ⟨Z,Z,trivial⟩ ?_;refine KT (lo:=2) (hi:=3) (x:=.q 4 (map CC.c Hj)) ⟨?_,?_,trivial⟩ ?_
     .refine vH (QP (xs:=[.tmp 33,.tmp 34]) (es:=map CC.c Hj) Je Z Z Z Z Z ⟨Z,Z,trivial⟩ Z Z) ?_ (gT Z);refine aV (.q 4 (map CC.c Hj)) [_,_,_,_,_,_] Z Z ?_;exact Wp
     .refine vH (QP (xs:=[.tmp 33,.tmp 34]) (es:=map CC.c Hj) Je Z Z Z Z Z ⟨Z,Z,trivial⟩ Z Z) ?_ (gT Z);refine aV (.q 4 (map CC.c Hj)) [_,_,_,_,_] Z Z ?_;exact Wp
     obtain⟨M,Y,g⟩:=QE g;refine DK.wo (x:=.b M) ?_ ?_
     .refine Zi (C7.fn call19 rfl rfl rfl) (Dt.cons rfl (.inl ⟨rfl,rfl⟩) (Dt.cons rfl (.inr ⟨_,_,_,_,_,rfl,rfl,X2 ..,rfl⟩) (Dt.cons rfl (.inl ⟨rfl,rfl⟩) (Dt.cons rfl (.inl ⟨rfl,rfl⟩) Dt.nil)))) (C.nils (FT.eq (FT.eq (FT.nl (FT.eq FT.nil)))) ((NZ _ _ _ _ _).c _ Y)) (by rintro _ _ ⟨rfl,rfl⟩;rfl) ?_ (gT rfl);rintro _ _ ⟨rfl,rfl⟩;refine aV (.b M) [_,_,_,_,_,_] Z Z ?_;exact Wp
     refine Dk 3 Z (DK.is 28 g Z Z Z (λ_ g=>?_) (λ_ g=>?_))
     .exact Dk 5 Z (DK.done Z Z (Gl 4 Z g [0,1]))
     .obtain⟨ax,ab,g⟩:=QE g;refine Ex (x:=.o 6 (AI C4) 4) (X1:=[.c 77 [.b AE,I (-1),I 0,I 0],.c 77 [.b AD,I (-1),I 100,I 101],.c 77 [.b AD,I (-1),I 160,I 161],.r 104 4 (map Ae.c C4),.r 104 4 (map Ae.c C4),.r 104 4 (map Ae.c C4),.r 104 4 (map Ae.c C4)]) ?_ ?_
      .refine Qg [] (C7.fn call20 Z Z Z) ((NY _).c _ ab) ?_ (hg:=(gT Z));rintro _ _ ⟨rfl,rfl⟩;refine aV (.o 6 (AI C4) 4) [_,_,_,_,_,_,.r 104 4 (map Ae.c C4)] Z Z ?_;exact Wp
      refine Dk 1 Z ?_;refine KT (lo:=3) (hi:=4) (x:=.q 4 (map CF.c Ha)) ⟨?_,?_,trivial⟩ ?_
      .refine vH (QP (xs:=[.tmp 41]) (es:=map CF.c Ha) I5 Z Z Z Z Z ⟨Z,trivial⟩ Z Z) ?_ (gT Z);refine aV (.q 4 (map CF.c Ha)) [_,_,_,_,_,_,_] Z Z ?_;exact Wp
      .refine vH (QP (xs:=[.tmp 41]) (es:=map CF.c Ha) I5 Z Z Z Z Z ⟨Z,trivial⟩ Z Z) ?_ (gT Z);refine aV (.q 4 (map CF.c Ha)) [_,_,_,_,_,_] Z Z ?_;exact Wp
      refine W8 (lo:=3) (hi:=4) (x:=.a [.b AD,I (-1),I 160,I 161]) ⟨Z,Z,trivial⟩ ?_;refine KT (lo:=3) (hi:=4) (x:=.q 4 (map CC.c Hg)) ⟨?_,?_,trivial⟩ ?_
      .refine vH (QP (xs:=[.tmp 43]) (es:=map CC.c Hg) Je Z Z Z Z Z ⟨Z,trivial⟩ Z Z) ?_ (gT Z);refine aV (.q 4 (map CC.c Hg)) [_,_,_,_,_,_,_] Z Z ?_;exact Wp
      .refine vH (QP (xs:=[.tmp 43]) (es:=map CC.c Hg) Je Z Z Z Z Z ⟨Z,trivial⟩ Z Z) ?_ (gT Z);refine aV (.q 4 (map CC.c Hg)) [_,_,_,_,_,_] Z Z ?_;exact Wp
      exact DK.done Z Z (Cb g Kc Z (ls (lo (ls (ls ln)))) λay aq g=>Gl 3 Z g [0,1])
 refine Gx 1 Z (Ee am (Cn Z h (λ_ h=>?_) (λ_ h=>?_)))
 .exact au h
 refine Gc 3 Z ?_;obtain⟨az,t,h⟩:=QE h;obtain⟨d,y,h⟩:=QE h;refine Yu 8 1 [49,50,51,48,52,53,4,1000007] [AE,AD,AE,AD,AD,AD,AE,AE] [[],[],[0],[0,2],[0,2],[0,2],[],[0,2,6]] [[],[0],[6],[0,2],[0,6],[0,2,6],[0,2,6,7]] [[(0,1),(2,4)],[(0,0),(1,1),(2,2),(4,4)],[(1,3),(4,5)],[(3,3),(5,5)],[(3,3),(5,5)],[(3,3),(5,5),(6,6)],[(0,2),(1,4),(3,5)],[(5,6)]] [.a [.q 3 (map CD.c []),.q 1 (map (Qu 1 eI) [[0]])],.a [.b AD,I (-1),I 100,I 101],.t [.a [I d.1.Lo,I d.1.Hi],I d.2],.t [.a [I d.1.Lo,I d.1.Hi],I d.2],.a [I d.1.Lo,I d.1.Hi],I d.2,.p 2 0,.any] [[.c 77 [.b AE,I (-1),I 0,I 0],.c 77 [.b AD,I (-1),I 100,I 101],.dead],[.c 77 [.b AE,I (-1),I 0,I 0],.c 77 [.b AD,I (-1),I 100,I 101],.dead,.dead,.c 39 [.q 3 (map CD.c []),.q 1 (map (Qu 1 eI) [[0]])]],[.c 77 [.b AE,I (-1),I 0,I 0],.c 77 [.b AD,I (-1),I 100,I 101],.c 83 [I 0,I 0]],[.c 77 [.b AE,I (-1),I 0,I 0],.c 77 [.b AD,I (-1),I 100,I 101],.dead,.dead,.c 39 [.q 3 (map CD.c []),.q 1 (map (Qu 1 eI) [[0]])],.c 83 [I d.1.Lo,I d.1.Hi]],[.c 77 [.b AE,I (-1),I 0,I 0],.c 77 [.b AD,I (-1),I 100,I 101],.c 83 [I 0,I 0],.dead,.c 39 [.q 3 (map CD.c []),.q 1 (map (Qu 1 eI) [[0]])]],[.c 77 [.b AE,I (-1),I 0,I 0],.c 77 [.b AD,I (-1),I 100,I 101],.c 83 [I 0,I 0],.dead,.c 39 [.q 3 (map CD.c []),.q 1 (map (Qu 1 eI) [[0]])],.c 83 [I d.1.Lo,I d.1.Hi]],[.c 77 [.b AE,I (-1),I 0,I 0],.c 77 [.b AD,I (-1),I 100,I 101],.c 83 [I d.1.Lo,I d.1.Hi],.dead,.c 39 [.q 3 (map CD.c []),.q 1 (map (Qu 1 eI) [[0]])],.c 83 [I d.1.Lo,I d.1.Hi]]] ([.c 77 [.b AE,I (-1),I 0,I 0],.c 77 [.b AD,I (-1),I 100,I 101],.c 83 [I d.1.Lo,I d.1.Hi],.dead,.c 39 [.q 3 (map CD.c []),.q 1 (map (Qu 1 eI) [[0]])],.c 83 [I d.1.Lo,I d.1.Hi]]) DD Z Z Z Z Z Z Z ?_ Z ?_
 .refine Cq.cons ?_ (M1 (Cq.cons ?_ (M1 (M1 (M1 (Cq.cons ?_ (Cq.cons ?_ (Cq.nil))))))))
  .refine Qb ?_ (Qb ?_ (Qf))
   iterate 2 refine F4 Z sN ?_;refine Qg [] (C7.fn call22 Z Z Z) ((gD _).c _ t) ?_;rintro _ _ ⟨rfl,rfl⟩;refine aV (.a [.q 3 (map CD.c []),.o 3 ([[0]].length) 1]) [_,_,_,.r 73 1 (map (Qu 1 eI) [[0]]),.c 39 [.q 3 (map CD.c []),.o 3 ([[0]].length) 1]] Z Z ?_;refine Et (Yk [(49,_)] Z Z (Cy.cons Z (DQ.agg (CY.k (Ed Ep (Ej _)))) Cy.nil) (Ec (Ec (Ec (Ec (Do.cells (CY.k (Ed Ep (Ej _))) (QU _))))))) ?_;refine Et S4 ?_;exact Wp
  .refine Qb ?_ (Qb ?_ (Qf))
   iterate 2 refine F4 Z (sD 0 (sD 1 sN)) ?_;refine Qg [] (C7.fn call21 Z Z Z) ((bA _ _ _).c _ y) ?_;rintro _ _ ⟨rfl,rfl⟩;refine aV (.t [.a [I d.1.Lo,I d.1.Hi],I d.2]) [_,_,_,_,_,.c 83 [I d.1.Lo,I d.1.Hi]] Z Z ?_;exact Wp
  .refine Qb ?_ (Qb ?_ (Qb ?_ (Qf)))
   iterate 3 exact Jl.alloc _ 4 83 2 _ Z Z Z Z Z Z Z (I8.alloc (v:=(.a [I 0,I 0])) EI (Fr Z)) Z
  .refine Qb ?_ (Qf)
   .refine S9 Z (sD 6 (sD 4 sN)) ?_;refine vU (Ey Z Z Z Ge Z Z Z Z Z Z Z) ?_;refine Nv (H:=[_,_,.c 83 [I d.1.Lo,I d.1.Hi],_,_,_]) Z ?_;exact Wp
 refine Go 4 Z ?_;obtain⟨ba,B,h⟩:=QE h;obtain⟨f,E,h⟩:=QE h;refine Yu 8 1 [55,56,57,54,58,59,6,1000007] [AE,AD,AE,AD,AD,AD,AE,AE] [[],[],[0],[0,2],[0,2],[0,2],[],[0,2,6]] [[],[0],[6],[0,2],[0,6],[0,2,6],[0,2,6,7]] [[(0,1),(2,4)],[(0,0),(1,1),(2,2),(4,4)],[(1,3),(4,5)],[(3,3),(5,5)],[(3,3),(5,5)],[(3,3),(5,5),(6,6)],[(0,2),(1,4),(3,5)],[(5,6)]] [.a [.q 3 (map CD.c []),.q 1 (map (Qu 1 eI) [[0]])],.a [.b AE,I (-1),I 0,I 0],.t [.a [I f.1.Lo,I f.1.Hi],I f.2],.t [.a [I f.1.Lo,I f.1.Hi],I f.2],.a [I f.1.Lo,I f.1.Hi],I f.2,.p 6 0,.any] [[.c 77 [.b AE,I (-1),I 0,I 0],.c 77 [.b AD,I (-1),I 100,I 101],.c 83 [I d.1.Lo,I d.1.Hi],.dead,.c 39 [.q 3 (map CD.c []),.q 1 (map (Qu 1 eI) [[0]])],.c 83 [I d.1.Lo,I d.1.Hi],.dead],[.c 77 [.b AE,I (-1),I 0,I 0],.c 77 [.b AD,I (-1),I 100,I 101],.c 83 [I d.1.Lo,I d.1.Hi],.dead,.c 39 [.q 3 (map CD.c []),.q 1 (map (Qu 1 eI) [[0]])],.c 83 [I d.1.Lo,I d.1.Hi],.dead,.dead,.c 39 [.q 3 (map CD.c []),.q 1 (map (Qu 1 eI) [[0]])]],[.c 77 [.b AE,I (-1),I 0,I 0],.c 77 [.b AD,I (-1),I 100,I 101],.c 83 [I d.1.Lo,I d.1.Hi],.dead,.c 39 [.q 3 (map CD.c []),.q 1 (map (Qu 1 eI) [[0]])],.c 83 [I d.1.Lo,I d.1.Hi],.c 83 [I 0,I 0]],[.c 77 [.b AE,I (-1),I 0,I 0],.c 77 [.b AD,I (-1),I 100,I 101],.c 83 [I d.1.Lo,I d.1.Hi],.dead,.c 39 [.q 3 (map CD.c []),.q 1 (map (Qu 1 eI) [[0]])],.c 83 [I d.1.Lo,I d.1.Hi],.dead,.dead,.c 39 [.q 3 (map CD.c []),.q 1 (map (Qu 1 eI) [[0]])],.c 83 [I f.1.Lo,I f.1.Hi]],[.c 77 [.b AE,I (-1),I 0,I 0],.c 77 [.b AD,I (-1),I 100,I 101],.c 83 [I d.1.Lo,I d.1.Hi],.dead,.c 39 [.q 3 (map CD.c []),.q 1 (map (Qu 1 eI) [[0]])],.c 83 [I d.1.Lo,I d.1.Hi],.c 83 [I 0,I 0],.dead,.c 39 [.q 3 (map CD.c []),.q 1 (map (Qu 1 eI) [[0]])]],[.c 77 [.b AE,I (-1),I 0,I 0],.c 77 [.b AD,I (-1),I 100,I 101],.c 83 [I d.1.Lo,I d.1.Hi],.dead,.c 39 [.q 3 (map CD.c []),.q 1 (map (Qu 1 eI) [[0]])],.c 83 [I d.1.Lo,I d.1.Hi],.c 83 [I 0,I 0],.dead,.c 39 [.q 3 (map CD.c []),.q 1 (map (Qu 1 eI) [[0]])],.c 83 [I f.1.Lo,I f.1.Hi]],[.c 77 [.b AE,I (-1),I 0,I 0],.c 77 [.b AD,I (-1),I 100,I 101],.c 83 [I d.1.Lo,I d.1.Hi],.dead,.c 39 [.q 3 (map CD.c []),.q 1 (map (Qu 1 eI) [[0]])],.c 83 [I d.1.Lo,I d.1.Hi],.c 83 [I f.1.Lo,I f.1.Hi],.dead,.c 39 [.q 3 (map CD.c []),.q 1 (map (Qu 1 eI) [[0]])],.c 83 [I f.1.Lo,I f.1.Hi]]] ([.c 77 [.b AE,I (-1),I 0,I 0],.c 77 [.b AD,I (-1),I 100,I 101],.c 83 [I d.1.Lo,I d.1.Hi],.dead,.c 39 [.q 3 (map CD.c []),.q 1 (map (Qu 1 eI) [[0]])],.c 83 [I d.1.Lo,I d.1.Hi],.c 83 [I f.1.Lo,I f.1.Hi],.dead,.c 39 [.q 3 (map CD.c []),.q 1 (map (Qu 1 eI) [[0]])],.c 83 [I f.1.Lo,I f.1.Hi]]) DD Z Z Z Z Z Z Z ?_ Z ?_
 .refine Cq.cons ?_ (M1 (Cq.cons ?_ (M1 (M1 (M1 (Cq.cons ?_ (Cq.cons ?_ (Cq.nil))))))))
  .refine Qb ?_ (Qb ?_ (Qf))
   iterate 2 refine F4 Z sN ?_;refine Qg [] (C7.fn call22 Z Z Z) ((gD _).c _ B) ?_;rintro _ _ ⟨rfl,rfl⟩;refine aV (.a [.q 3 (map CD.c []),.o 7 ([[0]].length) 1]) [_,_,_,_,_,_,_,.r 73 1 (map (Qu 1 eI) [[0]]),.c 39 [.q 3 (map CD.c []),.o 7 ([[0]].length) 1]] Z Z ?_;refine Et (Yk [(55,_)] Z Z (Cy.cons Z (DQ.agg (CY.k (Ed Ep (Ej _)))) Cy.nil) (Ec (Ec (Ec (Ec (Ec (Ec (Ec (Ec (Do.cells (CY.k (Ed Ep (Ej _))) (QU _))))))))))) ?_;refine Et S4 ?_;exact Wp
  .refine Qb ?_ (Qb ?_ (Qf))
   iterate 2 refine F4 Z (sD 0 (sD 1 sN)) ?_;refine Qg [] (C7.fn call21 Z Z Z) ((bA _ _ _).c _ E) ?_;rintro _ _ ⟨rfl,rfl⟩;refine aV (.t [.a [I f.1.Lo,I f.1.Hi],I f.2]) [_,_,_,_,_,_,_,_,_,.c 83 [I f.1.Lo,I f.1.Hi]] Z Z ?_;exact Wp
  .refine Qb ?_ (Qb ?_ (Qb ?_ (Qf)))
   iterate 3 exact Jl.alloc _ 6 83 6 _ Z Z Z Z Z Z Z (I8.alloc (v:=(.a [I 0,I 0])) EI (Fr Z)) Z
  .refine Qb ?_ (Qf)
   .refine S9 Z (sD 6 (sD 4 sN)) ?_;refine vU (Ey Z Z Z Ge Z Z Z Z Z Z Z) ?_;refine Nv (H:=[_,_,_,_,_,_,.c 83 [I f.1.Lo,I f.1.Hi],_,_,_]) Z ?_;exact Wp
 refine Go 4 Z (Bd h λF j h=>Cg F [] [] (λF=>[(0,.b F)]) Ze Zf ?_ ?_)
 .refine G0 0 Z (HT 26 [12,18] [(0,0,0),(0,0,0),(0,0,0),(0,0,0),(0,0,0),(0,0,0),(0,0,0),(0,0,0),(0,0,0),(0,0,0),(0,0,0),(0,0,0),(1,0,0),(0,0,1),(0,1,1),(0,1,1),(0,1,1),(0,1,1),(1,1,0),(0,1,2),(0,2,2),(0,2,2),(0,2,2),(0,2,2),(0,2,2),(0,2,2)] (by kernel_rfl) (Dk 2 Z ?_));refine DK.wo (x:=.b (({Lo:=d.1.Lo,Hi:=d.1.Hi:CK})==({Lo:=100,Hi:=101:CK}))) ?_ ?_
  .refine vX (.b (({Lo:=d.1.Lo,Hi:=d.1.Hi:CK})==({Lo:=100,Hi:=101:CK}))) (iO (p:={Lo:=d.1.Lo,Hi:=d.1.Hi:CK}) (q:={Lo:=100,Hi:=101:CK}) _g Z Z) ?_;exact Wp
  refine Dk 1 Z (DK.is 3 j Z Z Z (λ_ j=>?_) (λ_ j=>?_))
  .refine Dk 4 Z (DK.is 7 j Z Z Z (λ_ j=>?_) (λ_ j=>?_))
   .refine Dk 4 Z (DK.is 11 j Z Z Z (λ_ j=>?_) (λ_ j=>?_))
    .obtain⟨bb,ag,j⟩:=QE j;refine Ex (x:=.a [.q 3 (map CD.c []),.q 1 (map (Qu 1 eI) [[0]])]) (X1:=[.c 77 [.b AE,I (-1),I 0,I 0],.c 77 [.b AD,I (-1),I 100,I 101],.c 83 [I d.1.Lo,I d.1.Hi],.dead,.c 39 [.q 3 (map CD.c []),.q 1 (map (Qu 1 eI) [[0]])],.c 83 [I d.1.Lo,I d.1.Hi],.c 83 [I f.1.Lo,I f.1.Hi],.dead,.c 39 [.q 3 (map CD.c []),.q 1 (map (Qu 1 eI) [[0]])],.c 83 [I f.1.Lo,I f.1.Hi],.dead,.c 39 [.q 3 (map CD.c []),.q 1 (map (Qu 1 eI) [[0]])]]) ?_ ?_
     .refine Qg [] (C7.fn call22 Z Z Z) ((gD _).c _ ag) ?_ (hg:=(gT Z));rintro _ _ ⟨rfl,rfl⟩;refine aV (.a [.q 3 (map CD.c []),.o 10 ([[0]].length) 1]) [_,_,_,_,_,_,_,_,_,_,.r 73 1 (map (Qu 1 eI) [[0]]),.c 39 [.q 3 (map CD.c []),.o 10 ([[0]].length) 1]] Z Z ?_;refine Et (Yk [(72,_)] Z Z (Cy.cons Z (DQ.agg (CY.k (Ed Ep (Ej _)))) Cy.nil) (Ec (Ec (Ec (Ec (Ec (Ec (Ec (Ec (Ec (Ec (Ec (Do.cells (CY.k (Ed Ep (Ej _))) (QU _)))))))))))))) ?_;refine Et S4 ?_;exact Wp
     refine W8 (lo:=0) (hi:=1) (x:=.a [.b AE,I (-1),I 0,I 0]) ⟨Z,Z,trivial⟩ ?_;obtain⟨an,ah,j⟩:=QE j;refine DK.wo (x:=I an) ?_ ?_
     .exact Pc [] Z (C7.fn call18 Z Z Z) ((a_ _ _ _).c _ ah) (hg:=(gT Z)) Z Wp
     refine Dk 3 Z (DK.is 17 j Z Z Z (λ_ j=>?_) (λ_ j=>?_))
     .obtain⟨bc,aj,j⟩:=QE j;refine Ex (x:=.a [.q 3 (map CD.c []),.q 1 (map (Qu 1 eI) [[0]])]) (X1:=[.c 77 [.b AE,I (-1),I 0,I 0],.c 77 [.b AD,I (-1),I 100,I 101],.c 83 [I d.1.Lo,I d.1.Hi],.dead,.c 39 [.q 3 (map CD.c []),.q 1 (map (Qu 1 eI) [[0]])],.c 83 [I d.1.Lo,I d.1.Hi],.c 83 [I f.1.Lo,I f.1.Hi],.dead,.c 39 [.q 3 (map CD.c []),.q 1 (map (Qu 1 eI) [[0]])],.c 83 [I f.1.Lo,I f.1.Hi],.dead,.c 39 [.q 3 (map CD.c []),.q 1 (map (Qu 1 eI) [[0]])],.dead,.c 39 [.q 3 (map CD.c []),.q 1 (map (Qu 1 eI) [[0]])]]) ?_ ?_
      .refine Qg [] (C7.fn call22 Z Z Z) ((gD _).c _ aj) ?_ (hg:=(gT Z));rintro _ _ ⟨rfl,rfl⟩;refine aV (.a [.q 3 (map CD.c []),.o 12 ([[0]].length) 1]) [_,_,_,_,_,_,_,_,_,_,_,_,.r 73 1 (map (Qu 1 eI) [[0]]),.c 39 [.q 3 (map CD.c []),.o 12 ([[0]].length) 1]] Z Z ?_;refine Et (Yk [(78,_)] Z Z (Cy.cons Z (DQ.agg (CY.k (Ed Ep (Ej _)))) Cy.nil) (Ec (Ec (Ec (Ec (Ec (Ec (Ec (Ec (Ec (Ec (Ec (Ec (Ec (Do.cells (CY.k (Ed Ep (Ej _))) (QU _)))))))))))))))) ?_;refine Et S4 ?_;exact Wp
      refine Dk 1 Z ?_;obtain⟨ao,ak,j⟩:=QE j;refine DK.wo (x:=I ao) ?_ ?_
      .exact Pc [] Z (C7.fn call18 Z Z Z) ((a_ _ _ _).c _ ak) (hg:=(gT Z)) Z Wp
      refine Dk 3 Z (DK.is 23 j Z Z Z (λ_ j=>?_) (λ_ j=>?_))
      .refine Dk 2 Z (DK.done Z Z ?_);refine vH (QP (xs:=[.tmp 84,.tmp 85]) (es:=map CC.c RH) Je Z Z Z Z Z ⟨Z,Z,trivial⟩ Z Z) ?_ (gT Z);exact au j
      .exact Dk 2 Z (DK.done Z Z (Gl 7 Z j []))
     .exact Dk 8 Z (DK.done Z Z (Gl 7 Z j []))
    .exact Dk 14 Z (DK.done Z Z (Gl 7 Z j []))
   .exact Dk 18 Z (DK.done Z Z (Gl 7 Z j []))
  .exact Dk 22 Z (DK.done Z Z (Gl 7 Z j []))
 exact au h
def MI(n:Nat)(f:AA CH)(rec213:(AA CH)->AB Int)(d:Int×Int):AB (CG (Int×Int) Int):=AH ((bif d.2<(AI f:Int) then AC (AG (d.1<=256))else AC AD):AB Bool) λg=>(bif g then AH (CJ f d.2) λh=>AH (rec213 h.Ac) λj=>AC (.k (i64.wrap (d.1+j),i64.wrap (d.2+1)))else AC (.d d.1))
def W_(rec213:(AA CH)->AB Int)(n:Nat)(f:AA CH):AB Int:=AH (iter (MI n f rec213) n ((AI f:Int),0):AB Int) λd=>AC (if 257<d then 257 else d)
theorem Qbh(rec213:(AA CH)->AB Int)(y:∀(f:AA CH),Ks (rec213 f) 66 [.q 3 (map CH.enc f)] [] (λr=>I r))(n:Nat)(f:AA CH):Ks (W_ rec213 n f) 66 [.q 3 (map CH.enc f)] [] (λr=>I r):=by
 refine Kg 8 func66 Z Z Z Z λr h=>Lg 9 Z Z (Bd h λg B h=>Cg g [] [] (λg=>[(3,I g)]) Ze Zf ?_ ?_)
 .refine G0 1 Z (Lp [] [0] (λj=>[(3,I j.1),(4,I j.2)]) Ze B Zf (Lr []) λj H d q=>?_);refine G0 2 Z (Bd d λm E d=>Cg m [] [0,3,4] (λm=>[(14,.b m)]) Ze Zf ?_ ?_)
  .exact au E
  refine Q8 Z d (λ_ d=>?_) (λ_ d=>?_)
  .exact Jd q d
  exact Gc 8 Z (Bd d λF x d=>FU x (QO F) Z (Go 2 Z (Cz [] d Kc Z λJ G d=>Go 10 Z (QZ d (Lr [])))))
 exact au h
def KE:Nat->(AA CH)->AB Int
  |0=>λ_=>AF
  |n+1=>W_ (KE n) n
instance zx:∀(d:AA CH),Ks (KE n d) 66 [.q 3 (map CH.enc d)] [] (λr=>I r):=by
  induction n with
  |zero=>exact λ_=>⟨nofun⟩
  |succ n ih=>exact Qbh _ ih n
def Kt(n:Nat)(g:AA CH)(h:Int)(rec214:(AA CH)->Int->AB Int)(d:Int×Int):AB (CG (Int×Int) Int):=AH ((bif d.2<(AI g:Int) then AC (AG (0<h))else AC AD):AB Bool) λj=>(bif j then AH (CJ g d.2) λm=>AH ((bif ((AI m.Ac:Int) != 0)then AH (CJ g d.2) λq=>AH (rec214 q.Ac (i64.wrap (h-1))) λf=>AC (if d.1<i64.wrap (1+f)then i64.wrap (1+f)else d.1)else AC d.1):AB Int) λt=>AC (.k (t,i64.wrap (d.2+1)))else AC (.d d.1))
def iu(rec214:(AA CH)->Int->AB Int)(n:Nat)(f:AA CH)(g:Int):AB Int:=AH (iter (Kt n f g rec214) n (0,0):AB Int) λd=>AC d
theorem Qbg(rec214:(AA CH)->Int->AB Int)(L:∀(g:AA CH) (j:Int),Ks (rec214 g j) 67 [.q 3 (map CH.enc g),I j] [] (λr=>I r))(n:Nat)(g:AA CH)(j:Int):Ks (iu rec214 n g j) 67 [.q 3 (map CH.enc g),I j] [] (λr=>I r):=by
 refine Kg 16 func67 Z Z Z Z λr h=>Bd h λm M h=>Cg m [] [] (λm=>[(5,I m)]) Ze Zf ?_ ?_
 .refine G0 1 Z (Lp [] [0,1] (λq=>[(5,I q.1),(6,I q.2)]) Ze M Zf (Lr []) λq R d B=>?_);refine G0 2 Z (Bd d λt N d=>Ct t [] [0,1,5,6] (λt=>[(14,.b t)]) Ze Zf ?_ (λenv H x=>?_))
  .exact au N
  refine Gx 1 Z (Ee x (Q8 Z d (λ_ d=>?_) (λ_ d=>?_)))
  .exact Jd B d
  refine Gc 8 Z (Bd d λO F d=>FU F (QO O) Z (Go 2 Z (Lg 3 Z Z (Bd d λy f d=>Ct y [] [0,1,6] (λy=>[(5,I y)]) Ze Zf ?_ (λenv H x=>?_)))))
  .refine G0 0 Z (Cn Z f (λ_ f=>?_) (λ_ f=>?_))
   .refine Gc 4 Z (Bd f λP J f=>FU J (QO P) Z (Go 4 Z (Cz [] f Kc Z λT Q f=>Go 1 Z ?_)));exact au f
   exact au f
  exact Gx 2 Z (Ee x (Gc 5 Z (QZ d (Lr []))))
 exact au h
def Rn:Nat->(AA CH)->Int->AB Int
  |0=>λ_ _=>AF
  |n+1=>iu (Rn n) n
instance k_u:∀(d:AA CH) (f:Int),Ks (Rn n d f) 67 [.q 3 (map CH.enc d),I f] [] (λr=>I r):=by
  induction n with
  |zero=>exact λ_ _=>⟨nofun⟩
  |succ n ih=>exact Qbg _ ih n
def Mb(n:Nat)(d:AR):AB Bool:=AH ((bif (d.AW==0)then(bif (d.Bz==0)then(bif (d.N==0)then AC ((AI d.Ac:Int)==0)else AC AD)else AC AD)else AC AD):AB Bool) λf=>AC f
instance yz(d:AR):Ks (Mb n d) 181 [.a (AR.c d)] [] (λr=>.b r):=KA func181
def ME(n:Nat)(f:AR)(m:Int)(rec218:AR->Int->AB Int)(d:Int×Int):AB (CG (Int×Int) Int):=AH ((bif d.2<(AI f.Ac:Int) then AC (AG (d.1<=256))else AC AD):AB Bool) λg=>(bif g then AH (CJ f.Ac d.2) λh=>AH (rec218 h (i64.wrap (m+1))) λj=>AC (.k (i64.wrap (d.1+j),i64.wrap (d.2+1)))else AC (.d d.1))
def iy(rec218:AR->Int->AB Int)(n:Nat)(g:AR)(d:Int):AB Int:=(bif 16<d then AC 1000 else AH (iter (ME n g d rec218) n (1,0):AB Int) λf=>AC f)
theorem Qam(rec218:AR->Int->AB Int)(B:∀(f:AR) (g:Int),Ks (rec218 f g) 182 [.a (AR.c f),I g] [] (λr=>I r))(n:Nat)(f:AR)(g:Int):Ks (iy rec218 n f g) 182 [.a (AR.c f),I g] [] (λr=>I r):=by
 refine Kg 13 func182 Z Z Z Z λr h=>Cn Z h (λ_ h=>?_) (λ_ h=>?_)
 .exact au h
 refine Gc 13 Z (Bd h λj F h=>Cg j [] [] (λj=>[(5,I j)]) Ze Zf ?_ ?_)
 .refine G0 1 Z (Lp [0] [1,2] (λm=>[(5,I m.1),(6,I m.2)]) Ze F Zf (Lr [0]) λm L d t=>?_);refine G0 2 Z (Bd d λq G d=>Cg q [0] [1,2,5,6] (λq=>[(17,.b q)]) Ze Zf ?_ ?_)
  .exact au G
  refine Q8 Z d (λ_ d=>?_) (λ_ d=>?_)
  .exact Jd t d
  exact Gc 9 Z (Bd d λH y d=>FU y (Ji H) Z (Go 3 Z (Cz [] d Kc Z λM J d=>Go 10 Z (QZ d (Lr [0])))))
 exact au h
def N3:Nat->AR->Int->AB Int
  |0=>λ_ _=>AF
  |n+1=>iy (N3 n) n
instance k_p:∀(d:AR) (f:Int),Ks (N3 n d f) 182 [.a (AR.c d),I f] [] (λr=>I r):=by
  induction n with
  |zero=>exact λ_ _=>⟨nofun⟩
  |succ n ih=>exact Qam _ ih n
def MF(f:AA AY)(j:Int)(rec216:(AA AY)->Int->AB (Int×Int))(d:Int×Int×Int):AB (CG (Int×Int×Int) (Int×Int)):=AH ((bif d.2.2<(AI f:Int) then(bif d.1<=64 then AC (AG (d.2.1<=256))else AC AD)else AC AD):AB Bool) λm=>(bif m then AH (CJ f d.2.2) λq=>AH (rec216 q.Ba (i64.wrap (j+1))) λg=>AH (CJ f d.2.2) λt=>AH (rec216 t.Bh (i64.wrap (j+1))) λh=>AH (CJ f d.2.2) λx=>AH (Mb n x.AR) λy=>AH ((bif (!y)then AH (CJ f d.2.2) λB=>AH (N3 n B.AR 0) λE=>AC (i64.wrap ((i64.wrap ((i64.wrap (d.2.1+g.2))+h.2))+E))else AC (i64.wrap ((i64.wrap (d.2.1+g.2))+h.2))):AB Int) λF=>AC (.k (i64.wrap ((i64.wrap ((i64.wrap (d.1+1))+g.1))+h.1),F,i64.wrap (d.2.2+1)))else AC (.d (d.1,d.2.1)))
def iw(rec216:(AA AY)->Int->AB (Int×Int))(n:Nat)(f:AA AY)(g:Int):AB (Int×Int):=AH ((bif 0<(AI f:Int) then AC (AG (16<g))else AC AD):AB Bool) λh=>(bif h then AC (1000,1000)else AH (iter (MF n f g rec216) n (0,0,0):AB (Int×Int)) λd=>AC (d.1,d.2))
theorem Qbq(rec216:(AA AY)->Int->AB (Int×Int))(O:∀(q:AA AY) (t:Int),Ks (rec216 q t) 110 [.q 8 (map AY.enc q),I t] [] (λr=>.t [I r.1,I r.2]))(n:Nat)(q:AA AY)(t:Int):Ks (iw rec216 n q t) 110 [.q 8 (map AY.enc q),I t] [] (λr=>.t [I r.1,I r.2]):=by
 refine Kg 8 func110 Z Z Z Z λr h=>Bd h λB Y h=>Ct B [] [0,1] (λB=>[(19,.b B)]) Ze Zf ?_ (λenv H g=>?_)
 .exact au Y
 refine Gx 1 Z (Ee g (Cn Z h (λ_ h=>?_) (λ_ h=>?_)))
 .exact au h
 refine Gc 18 Z (Bd h λj Q h=>Cg j [] [] (λj=>[(6,I j.1),(7,I j.2)]) Ze Zf ?_ ?_)
 .refine G0 1 Z (Lp [] [0,1] (λm=>[(6,I m.1),(7,I m.2.1),(8,I m.2.2)]) Ze Q Zf (Lr []) λm ae d E=>?_);refine G0 2 Z (Bd d λx R d=>Ct x [] [0,1,6,7,8] (λx=>[(31,.b x)]) Ze Zf ?_ (λenv H g=>?_))
  .exact au R
  refine Gx 1 Z (Ee g (Q8 Z d (λ_ d=>?_) (λ_ d=>?_)))
  .exact Jd E d
  refine Gc 8 Z (Bd d λT G d=>FU G (Yq T) Z (Go 4 Z (Cd [] d Kc Z λaf aa d=>Fg 11 Z Z (Bd d λV J d=>FU J (Yq V) Z (Go 4 Z (Cd [] d Kc Z λag ab d=>Fg 32 Z Z (Bd d λW L d=>FU L (Yq W) Z (Go 2 Z (Cz [] d Kc Z λah ac d=>Go 3 Z (Bd d λy f d=>Ct y [] [0,1,6,8] (λy=>[(7,I y)]) Ze Zf ?_ (λenv H g=>?_)))))))))))
  .refine G0 0 Z (Cn Z f (λ_ f=>?_) (λ_ f=>?_))
   .exact Gc 4 Z (Bd f λX N f=>FU N (Yq X) Z (Go 2 Z (Cz [] f Kc Z λai ad f=>Gl 3 Z f [])))
   exact au f
  exact Gx 2 Z (Ee g (Gc 5 Z (QZ d (Lr []))))
 exact au h
def Rp:Nat->(AA AY)->Int->AB (Int×Int)
  |0=>λ_ _=>AF
  |n+1=>iw (Rp n) n
instance k_s:∀(d:AA AY) (f:Int),Ks (Rp n d f) 110 [.q 8 (map AY.enc d),I f] [] (λr=>.t [I r.1,I r.2]):=by
  induction n with
  |zero=>exact λ_ _=>⟨nofun⟩
  |succ n ih=>exact Qbq _ ih n
def Oo(d:AA AY):AB Bool:=AH (Rp n d 0) λf=>AH ((bif (AI d:Int)<=20 then(bif f.1<=80 then AC (AG (f.2<=300))else AC AD)else AC AD):AB Bool) λg=>AC g
instance xe(d:AA AY):Ks (Oo n d) 68 [.q 8 (map AY.enc d)] [] (λr=>.b r):=KA func68
def Kr(f:CB)(d:Int×Int):AB (CG (Int×Int) (CG Int Bool)):=AH ((bif d.2<(AI f.AO:Int) then AC (AG (d.1<=200))else AC AD):AB Bool) λg=>(bif g then AH (CJ f.AO d.2) λh=>AH (CJ f.AO d.2) λj=>AH (KE n j.Ad) λm=>AH (CJ f.AO d.2) λq=>AH (Rn n q.Ad 17) λt=>(bif 16<t then AC (.d (.d AD))else AC (.k (i64.wrap ((i64.wrap (d.1+(AI h.Ar:Int)))+m),i64.wrap (d.2+1))))else AC (.d (.k d.1)))
def K7(d:CB):AB Bool:=AH (iter (Kr n d) n (i64.wrap ((i64.wrap ((i64.wrap ((i64.wrap ((i64.wrap ((i64.wrap ((AI d.Au:Int)+(AI d.Az:Int)))+(AI d.AO:Int)))+(AI d.A4:Int)))+(AI d.Ab:Int)))+(AI d.AV:Int)))+(AI d.Ay:Int)),0):AB (CG Int Bool)) λg=>match g with|.k f=>(AH ((bif f<=200 then(bif (AI d.Ap:Int)<=100 then AH (Oo n d.BN) λh=>AC h else AC AD)else AC AD):AB Bool) λj=>AC j)|.d f=>AC f
instance zL(J:CB):Ks (K7 n J) 23 [.a (CB.c J)] [] (λr=>.b r):=by
 refine Kg 10 func23 Z Z Z Z λr h=>Lg 2 Z Z (Lg 3 Z Z (Lg 3 Z Z (Lg 3 Z Z (Lg 3 Z Z (Lg 3 Z Z (Lg 10 Z Z (Bd h λL M h=>Fb (b:=L) [0] [1] (λj=>[(3,I j)]) Ze Zf ?_ (λj env H N m=>?_))))))))
 .refine G0 1 Z (Lp [0] [1] (λq=>[(3,I q.1),(4,I q.2)]) Ze M Zf (Lr [0]) λq Q d t=>?_);refine G0 2 Z (Bd d λy O d=>Ct y [0] [1,3,4] (λy=>[(40,.b y)]) Ze Zf ?_ (λenv H m=>?_))
  .exact au O
  refine Gx 1 Z (Ee m (Q8 Z d (λ_ d=>?_) (λ_ d=>?_)))
  .exact Jd t d
  refine Gc 5 Z (DT 16 Z (D 4 Z ?_));obtain⟨f,F,d⟩:=QE d;refine DS.wo (x:=.rp [.str f.Ap,.q 3 (map CH.enc f.Ad),I f.A',.q 3 (map CO.c f.Ar),I f.An]) ?_ ?_
  .exact Ix F EJ EW Z Wp
  refine D 2 Z ?_;refine DS.wo (x:=I (AI f.Ar:Int)) ?_ ?_
  .exact m9 GF Z Wp
  refine D 4 Z ?_;obtain⟨g,G,d⟩:=QE d;refine DS.wo (x:=.rp [.str g.Ap,.q 3 (map CH.enc g.Ad),I g.A',.q 3 (map CO.c g.Ar),I g.An]) ?_ ?_
  .exact Ix G EJ EW Z Wp
  exact DX t d h
 subst N;refine Gx 1 Z (Ee m (Gc 1 Z (Bd h λB P h=>Cg B [] [] (λB=>[(2,.b B)]) Ze Zf ?_ ?_)))
 .exact au P
 exact au h
def T4(g:CB)(d:Int):AB (CG Int (CG Unit Bool)):=(bif d<(AI g.AO:Int) then AH (CJ g.AO d) λf=>AH ((bif 64<(AI f.Ar:Int) then AC AE else AH (Rn n f.Ad 17) λh=>(bif 16<h then AC AE else AH (KE n f.Ad) λj=>AC (AG (256<j)))):AB Bool) λm=>(bif m then AC (.d (.d AD))else AC (.k (i64.wrap (d+1))))else AC (.d (.k ())))
def PU(d:CB):AB Bool:=AH ((bif 40<(AI d.Au:Int) then AC AE else(bif 512<(AI d.Az:Int) then AC AE else(bif 8<(AI d.AO:Int) then AC AE else(bif 32<(AI d.A4:Int) then AC AE else(bif 32<(AI d.Ab:Int) then AC AE else(bif 32<(AI d.AV:Int) then AC AE else AC (AG (32<(AI d.Ay:Int))))))))):AB Bool) λh=>(bif h then AC AD else AH (iter (T4 n d) n 0:AB (CG Unit Bool)) λg=>match g with|.k f=>(AC AE)|.d f=>AC f)
instance yR(d:CB):Ks (PU n d) 46 [.a (CB.c d)] [] (λr=>.b r):=KA func46
def Pd(n:Nat)(d:AA UInt8):AB Bool:=AH ((bif (d==[99,111,117,114,115,101])then AC (d==[99,111,117,114,115,101])else(bif (d==[109,97,116,115])then AC (d==[109,97,116,115])else(bif (d==[115,116,97,114,116])then AC (d==[115,116,97,114,116])else(bif (d==[112,97,115,115])then AC (d==[112,97,115,115])else(bif (d==[101,110,100])then AC (d==[101,110,100])else(bif (d==[108,101,103])then AC (d==[108,101,103])else(bif (d==[116,111])then AC (d==[116,111])else(bif (d==[100,105,115,116,97,110,99,101])then AC (d==[100,105,115,116,97,110,99,101])else(bif (d==[103,117,110])then AC (d==[103,117,110])else(bif (d==[99,104,105,112])then AC (d==[99,104,105,112])else(bif (d==[115,108,111,116])then AC (d==[115,108,111,116])else(bif (d==[108,97,112,115])then AC (d==[108,97,112,115])else(bif (d==[108,97,112])then AC (d==[108,97,112])else(bif (d==[99,117,116,111,102,102])then AC (d==[99,117,116,111,102,102])else(bif (d==[101,120,116,114,97])then AC (d==[101,120,116,114,97])else(bif (d==[119,97,118,101])then AC (d==[119,97,118,101])else(bif (d==[111,102,102,101,110,99,101])then AC (d==[111,102,102,101,110,99,101])else(bif (d==[111,117,116])then AC (d==[111,117,116])else(bif (d==[99,97,116,101,103,111,114,121])then AC (d==[99,97,116,101,103,111,114,121])else(bif (d==[112,114,105,122,101])then AC (d==[112,114,105,122,101])else(bif (d==[97,108,108])then AC (d==[97,108,108])else AC (d==[116,105,101,115])))))))))))))))))))))):AB Bool) λf=>(bif f then AC AE else AH ((bif (d==[105,102])then AC (d==[105,102])else(bif (d==[101,108,115,101])then AC (d==[101,108,115,101])else(bif (d==[97,110,100])then AC (d==[97,110,100])else(bif (d==[111,114])then AC (d==[111,114])else(bif (d==[110,111,116])then AC (d==[110,111,116])else(bif (d==[111,108,100,101,114])then AC (d==[111,108,100,101,114])else(bif (d==[121,111,117,110,103,101,114])then AC (d==[121,111,117,110,103,101,114])else(bif (d==[98,105,98])then AC (d==[98,105,98])else(bif (d==[100,114,97,119])then AC (d==[100,114,97,119])else(bif (d==[102,105,101,108,100])then AC (d==[102,105,101,108,100])else(bif (d==[115,104,111,114,116])then AC (d==[115,104,111,114,116])else(bif (d==[102,97,117,108,116,115])then AC (d==[102,97,117,108,116,115])else(bif (d==[109,105,115,115,101,115])then AC (d==[109,105,115,115,101,115])else(bif (d==[115,116,114,97,121,115])then AC (d==[115,116,114,97,121,115])else(bif (d==[119,105,110,100,111,119])then AC (d==[119,105,110,100,111,119])else(bif (d==[114,101,115,105,100,117,97,108])then AC (d==[114,101,115,105,100,117,97,108])else(bif (d==[100,114,105,102,116])then AC (d==[100,114,105,102,116])else(bif (d==[112,114,111,116,101,115,116])then AC (d==[112,114,111,116,101,115,116])else(bif (d==[102,101,101])then AC (d==[102,101,101])else AC (d==[100,101,97,100,108,105,110,101])))))))))))))))))))):AB Bool) λg=>(bif g then AC AE else AC AD))
instance yZ(d:AA UInt8):Ks (Pd n d) 179 [.str d] [] (λr=>.b r):=KA func179
def ei(n:Nat)(f:AA UInt8)(d:Int):AB (CG Int (CG Unit Bool)):=(bif d<(AI f:Int) then AH (AH (CJ f d) λg=>(bif (g.toNat:Int)<97 then AH (CJ f d) λh=>(bif (h.toNat:Int)<48 then AH (CJ f d) λj=>AC ((j.toNat:Int) != 95)else AH (CJ f d) λm=>(bif 57<(m.toNat:Int) then AH (CJ f d) λq=>AC ((q.toNat:Int) != 95)else AC AD))else AH (CJ f d) λt=>(bif 122<(t.toNat:Int) then AH (CJ f d) λx=>(bif (x.toNat:Int)<48 then AH (CJ f d) λy=>AC ((y.toNat:Int) != 95)else AH (CJ f d) λB=>(bif 57<(B.toNat:Int) then AH (CJ f d) λE=>AC ((E.toNat:Int) != 95)else AC AD))else AC AD)):AB Bool) λF=>(bif F then AC (.d (.d AD))else AC (.k (i64.wrap (d+1))))else AC (.d (.k ())))
def MY(d:AA UInt8):AB Bool:=AH ((bif (AI d:Int)<1 then AC AE else(bif 24<(AI d:Int) then AC AE else AH (CJ d 0) λh=>(bif (h.toNat:Int)<97 then AC AE else AH (CJ d 0) λj=>AC (AG (122<(j.toNat:Int)))))):AB Bool) λq=>(bif q then AC AD else AH (iter (ei n d) n 1:AB (CG Unit Bool)) λm=>match m with|.k f=>(AH (Pd n d) λg=>AC (!g))|.d f=>AC f)
instance yw(d:AA UInt8):Ks (MY n d) 105 [.str d] [] (λr=>.b r):=KA func105
def VU(n:Nat)(g:AA (AA UInt8))(f:Int)(d:Int):AB (CG Int (CG Unit (CG Int (CG Unit Bool)))):=(bif d<f then AH (CJ g d) λh=>AH (CJ g f) λj=>(bif (h==j)then AC (.d (.d (.d (.d AD))))else AC (.k (i64.wrap (d+1))))else AC (.d (.k ())))
def Tq(g:AA (AA UInt8))(d:Int):AB (CG Int (CG Unit Bool)):=(bif d<(AI g:Int) then AH (CJ g d) λh=>AH (MY n h) λj=>(bif (!j)then AC (.d (.d AD))else AH (iter (VU n g d) n 0:AB (CG Unit (CG Int (CG Unit Bool)))) λm=>match m with|.k f=>(AC (.k (i64.wrap (d+1))))|.d f=>AC f)else AC (.d (.k ())))
def Ii(g:AA (AA UInt8)):AB Bool:=AH (iter (Tq n g) n 0:AB (CG Unit Bool)) λf=>match f with|.k d=>(AC AE)|.d d=>AC d
instance zb(M:AA (AA UInt8)):Ks (Ii n M) 106 [.q 1 (map JH M)] [] (λr=>.b r):=by
 refine Kg 11 func106 Z Z Z Z λr h=>Bd h λN O h=>D_ (b:=N) [] [] Ze Ze Zf ?_ (λ_ j=>?_)
 .refine G0 1 Z (Lp [] [0] (λq=>[(3,I q)]) Ze O Zf (Lr []) λq aa d g=>(G0 5 Z (Lg 3 Z Z (Q8 Z d (λ_ d=>?_) (λ_ d=>?_)))))
  .exact Jd g d
  refine Gc 9 Z (Bd d λab B d=>Iz B Z (Go 1 Z (Cz [] d Kc Z λac X d=>Go 3 Z (Cn Z d (λ_ d=>?_) (λ_ d=>?_)))))
  .exact DX g d h
  refine Gc 7 Z (Bd d λP Q d=>Fb (b:=P) [] [0,3] Ze Ze Zf ?_ (λY env H j R=>?_))
  .refine G0 1 Z (Lp [] [0,3] (λt=>[(4,I t)]) Ze Q Zf (Lr []) λt ad f m=>(G0 8 Z (Q8 Z f (λ_ f=>?_) (λ_ f=>?_))))
   .exact Jd m f
   refine Gc 5 Z (DT 8 Z (D 2 Z ?_));obtain⟨T,G,f⟩:=QE f;refine DS.wo (x:=.rp [.str T]) ?_ ?_
   .exact Ix G E3 sizeOf9 Z Wp
   refine D 3 Z ?_;obtain⟨V,J,f⟩:=QE f;refine DS.wo (x:=.rp [.str V]) ?_ ?_
   .exact Ix J E3 sizeOf9 Z Wp
   refine D 1 Z (Eg Z (Go 3 Z (Cn Z f (λ_ f=>?_) (λ_ f=>?_))))
   .refine Gc 8 Z (I7 f ?_);obtain rfl:=Oj m f;exact DX g d h
   exact au f
  subst j;exact Gx 2 Z (Ee R (Gc 5 Z (QZ d (Lr []))))
 subst j;exact au h
def Ty(n:Nat)(f:CB)(d:(AA (AA UInt8))×Int):AB (CG ((AA (AA UInt8))×Int) (AA (AA UInt8))):=(bif d.2<(AI f.Au:Int) then AH (CJ f.Au d.2) λg=>AH (app d.1 [g.Ap]) λh=>AC (.k (h,i64.wrap (d.2+1)))else AC (.d d.1))
def UU(n:Nat)(f:CB)(d:(AA (AA UInt8))×Int):AB (CG ((AA (AA UInt8))×Int) (AA (AA UInt8))):=(bif d.2<(AI f.AO:Int) then AH (CJ f.AO d.2) λg=>AH (app d.1 [g.Ap]) λh=>AC (.k (h,i64.wrap (d.2+1)))else AC (.d d.1))
def UY(n:Nat)(f:CB)(d:(AA (AA UInt8))×Int):AB (CG ((AA (AA UInt8))×Int) (AA (AA UInt8))):=(bif d.2<(AI f.A4:Int) then AH (CJ f.A4 d.2) λg=>AH (app d.1 [g.Ap]) λh=>AC (.k (h,i64.wrap (d.2+1)))else AC (.d d.1))
def U6(n:Nat)(f:CB)(d:(AA (AA UInt8))×Int):AB (CG ((AA (AA UInt8))×Int) (AA (AA UInt8))):=(bif d.2<(AI f.Ab:Int) then AH (CJ f.Ab d.2) λg=>AH (app d.1 [g.Ap]) λh=>AC (.k (h,i64.wrap (d.2+1)))else AC (.d d.1))
def U9(n:Nat)(f:CB)(d:(AA (AA UInt8))×Int):AB (CG ((AA (AA UInt8))×Int) (AA (AA UInt8))):=(bif d.2<(AI f.AV:Int) then AH (CJ f.AV d.2) λg=>AH (app d.1 [g.Ap]) λh=>AC (.k (h,i64.wrap (d.2+1)))else AC (.d d.1))
def O3(d:CB):AB Bool:=AH (iter (Ty n d) n (([]:AA (AA UInt8)),0):AB (AA (AA UInt8))) λF=>AH (iter (UU n d) n (([]:AA (AA UInt8)),0):AB (AA (AA UInt8))) λj=>AH (iter (UY n d) n (([]:AA (AA UInt8)),0):AB (AA (AA UInt8))) λm=>AH (iter (U6 n d) n (([]:AA (AA UInt8)),0):AB (AA (AA UInt8))) λq=>AH (iter (U9 n d) n (([]:AA (AA UInt8)),0):AB (AA (AA UInt8))) λt=>AH (AH (MY n d.Ap) λx=>(bif x then AH (Ii n F) λy=>(bif y then AH (Ii n j) λB=>(bif B then AH (Ii n m) λf=>(bif f then AH (Ii n q) λg=>(bif g then AH (Ii n t) λh=>AC h else AC AD)else AC AD)else AC AD)else AC AD)else AC AD):AB Bool) λE=>AC E
instance xp(a1:CB):Ks (O3 n a1) 47 [.a (CB.c a1)] [] (λr=>.b r):=by
 refine Kg 8 func47 Z Z Z Z λr h=>vH (Ek (xs:=[]) (es:=map JH []) Jy Z Z Z Z Z trivial Z Z) ?_;refine Fg 9 Z Z (Bd h λM h9 h=>Ct M [0,1] [1] (λM=>[(3,.o 1 (AI M) 1)]) (λM=>[(1,.r 9 1 (map JH M))]) Zf ?_ (λenv H d=>?_))
 .refine G0 1 Z (Lp [0,1] [1] (λt=>[(3,.o 1 (AI t.1) 1),(4,I t.2)]) (λt=>[(1,.r 9 1 (map JH t.1))]) h9 Zf (Lr [0,1]) λt az f O=>?_);refine G0 6 Z (Lg 3 Z Z (Q8 Z f (λ_ f=>?_) (λ_ f=>?_)))
  .exact Jd O f
  refine Gc 9 Z (Bd f λal Q f=>Iz Q Z (Go 2 Z (vH (Ek (xs:=[.tmp 27]) (es:=map JH [al.Ap]) Jy Z Z Z Z Z ⟨Z,trivial⟩ Z Z) ?_)));refine FE Z (Bd f λba R f=>vH (Qj (e:=JH) R Jy E3 (QC (i:=2))) ?_);exact au f
 refine Gx 1 Z (Ee d (Gc 2 Z (vH (Ek (xs:=[]) (es:=map JH []) Jy Z Z Z Z Z trivial Z Z) ?_)));refine Fg 9 Z Z (Bd h λx am h=>Ct x [0,1,2] [1,3] (λx=>[(5,.o 2 (AI x) 1)]) (λx=>[(2,.r 9 1 (map JH x))]) Zf ?_ (λenv H d=>?_))
 .refine G0 1 Z (Lp [0,1,2] [1,3] (λy=>[(5,.o 2 (AI y.1) 1),(6,I y.2)]) (λy=>[(2,.r 9 1 (map JH y.1))]) am Zf (Lr [0,1,2]) λy bb g T=>?_);refine G0 6 Z (Lg 3 Z Z (Q8 Z g (λ_ g=>?_) (λ_ g=>?_)))
  .exact Jd T g
  refine Gc 9 Z (Bd g λan W g=>Iz W Z (Go 2 Z (vH (Ek (xs:=[.tmp 44]) (es:=map JH [an.Ap]) Jy Z Z Z Z Z ⟨Z,trivial⟩ Z Z) ?_)));refine FE Z (Bd g λbc X g=>vH (Qj (e:=JH) X Jy E3 (QC (i:=3))) ?_);exact au g
 refine Gx 1 Z (Ee d (Gc 2 Z (vH (Ek (xs:=[]) (es:=map JH []) Jy Z Z Z Z Z trivial Z Z) ?_)));refine Fg 9 Z Z (Bd h λB ao h=>Ct B [0,1,2,3] [1,3,5] (λB=>[(7,.o 3 (AI B) 1)]) (λB=>[(3,.r 9 1 (map JH B))]) Zf ?_ (λenv H d=>?_))
 .refine G0 1 Z (Lp [0,1,2,3] [1,3,5] (λE=>[(7,.o 3 (AI E.1) 1),(8,I E.2)]) (λE=>[(3,.r 9 1 (map JH E.1))]) ao Zf (Lr [0,1,2,3]) λE bd j Y=>?_);refine G0 6 Z (Lg 3 Z Z (Q8 Z j (λ_ j=>?_) (λ_ j=>?_)))
  .exact Jd Y j
  refine Gc 9 Z (Bd j λaq ab j=>Iz ab Z (Go 2 Z (vH (Ek (xs:=[.tmp 61]) (es:=map JH [aq.Ap]) Jy Z Z Z Z Z ⟨Z,trivial⟩ Z Z) ?_)));refine FE Z (Bd j λbe ac j=>vH (Qj (e:=JH) ac Jy E3 (QC (i:=4))) ?_);exact au j
 refine Gx 1 Z (Ee d (Gc 2 Z (vH (Ek (xs:=[]) (es:=map JH []) Jy Z Z Z Z Z trivial Z Z) ?_)));refine Fg 9 Z Z (Bd h λF ar h=>Ct F [0,1,2,3,4] [1,3,5,7] (λF=>[(9,.o 4 (AI F) 1)]) (λF=>[(4,.r 9 1 (map JH F))]) Zf ?_ (λenv H d=>?_))
 .refine G0 1 Z (Lp [0,1,2,3,4] [1,3,5,7] (λG=>[(9,.o 4 (AI G.1) 1),(10,I G.2)]) (λG=>[(4,.r 9 1 (map JH G.1))]) ar Zf (Lr [0,1,2,3,4]) λG bg m ad=>?_);refine G0 6 Z (Lg 3 Z Z (Q8 Z m (λ_ m=>?_) (λ_ m=>?_)))
  .exact Jd ad m
  refine Gc 9 Z (Bd m λav af m=>Iz af Z (Go 2 Z (vH (Ek (xs:=[.tmp 78]) (es:=map JH [av.Ap]) Jy Z Z Z Z Z ⟨Z,trivial⟩ Z Z) ?_)));refine FE Z (Bd m λbh ag m=>vH (Qj (e:=JH) ag Jy E3 (QC (i:=5))) ?_);exact au m
 refine Gx 1 Z (Ee d (Gc 2 Z (vH (Ek (xs:=[]) (es:=map JH []) Jy Z Z Z Z Z trivial Z Z) ?_)));refine Fg 9 Z Z (Bd h λJ aw h=>Ct J [0,1,2,3,4,5] [1,3,5,7,9] (λJ=>[(11,.o 5 (AI J) 1)]) (λJ=>[(5,.r 9 1 (map JH J))]) Zf ?_ (λenv H d=>?_))
 .refine G0 1 Z (Lp [0,1,2,3,4,5] [1,3,5,7,9] (λL=>[(11,.o 5 (AI L.1) 1),(12,I L.2)]) (λL=>[(5,.r 9 1 (map JH L.1))]) aw Zf (Lr [0,1,2,3,4,5]) λL bi q ah=>?_);refine G0 6 Z (Lg 3 Z Z (Q8 Z q (λ_ q=>?_) (λ_ q=>?_)))
  .exact Jd ah q
  refine Gc 9 Z (Bd q λax aj q=>Iz aj Z (Go 2 Z (vH (Ek (xs:=[.tmp 95]) (es:=map JH [ax.Ap]) Jy Z Z Z Z Z ⟨Z,trivial⟩ Z Z) ?_)));refine FE Z (Bd q λbj ak q=>vH (Qj (e:=JH) ak Jy E3 (QC (i:=6))) ?_);exact au q
 refine Gx 1 Z (Ee d (Gc 1 Z (Bd h λN ay h=>Cg N [] [] (λN=>[(2,.b N)]) Ze Zf ?_ ?_)))
 .exact au ay
 exact au h
def G5(n:Nat)(d:Int)(f:Int)(g:Int):AB Bool:=AH ((bif f<=d then AC (AG (d<=g))else AC AD):AB Bool) λh=>AC h
instance k_d(d:Int)(f:Int)(g:Int):Ks (G5 n d f g) 107 [I d,I f,I g] [] (λr=>.b r):=KA func107
def F5(d:CB)(f:Int):AB Bool:=AH (G5 n f 0 (i64.wrap ((AI d.Au:Int)-1))) λg=>AC g
instance z9(d:CB)(f:Int):Ks (F5 n d f) 108 [.a (CB.c d),I f] [] (λr=>.b r):=KA func108
def OJ(g:CB)(h:AA CH)(rec229:CB->(AA CH)->AB Bool)(f:Int):AB (CG Int (CG Unit Bool)):=(bif f<(AI h:Int) then AH (CJ h f) λd=>AH ((bif (d.As==0)then AH (F5 n g d.Al) λj=>(bif j then AC ((AI d.Ac:Int)==0)else AC AD)else AC AD):AB Bool) λm=>AH (AH (G5 n d.As 1 64) λq=>(bif q then(bif (d.Al==0)then(bif 0<(AI d.Ac:Int) then AH (rec229 g d.Ac) λt=>AC t else AC AD)else AC AD)else AC AD):AB Bool) λx=>AH ((bif (!m)then AC (!x)else AC AD):AB Bool) λy=>(bif y then AC (.d (.d AD))else AC (.k (i64.wrap (f+1))))else AC (.d (.k ())))
def iq(rec229:CB->(AA CH)->AB Bool)(n:Nat)(g:CB)(h:AA CH):AB Bool:=AH (iter (OJ n g h rec229) n 0:AB (CG Unit Bool)) λf=>match f with|.k d=>(AC AE)|.d d=>AC d
theorem QaY(rec229:CB->(AA CH)->AB Bool)(F:∀(f:CB) (g:AA CH),Ks (rec229 f g) 180 [.a (CB.c f),.q 3 (map CH.enc g)] [] (λr=>.b r))(n:Nat)(f:CB)(g:AA CH):Ks (iq rec229 n f g) 180 [.a (CB.c f),.q 3 (map CH.enc g)] [] (λr=>.b r):=by
 refine Kg 12 func180 Z Z Z Z λr h=>Bd h λG J h=>D_ (b:=G) [] [] Ze Ze Zf ?_ (λ_ L=>?_)
 .refine G0 1 Z (Lp [0] [1,2] (λy=>[(5,I y)]) Ze J Zf (Lr [0]) λy R d j=>?_);refine G0 5 Z (Lg 3 Z Z (Q8 Z d (λ_ d=>?_) (λ_ d=>?_)))
  .exact Jd j d
  refine Gc 8 Z (Bd d λM E d=>FU E (QO M) Z (Go 6 Z (Bd d λm N d=>Ct m [0,1] [1,2,5,6] (λm=>[(7,.b m)]) Ze Zf ?_ (λenv H q=>?_))))
  .exact au N
  refine Gx 1 Z (Ee q (Gc 1 Z (Bd d λt O d=>Ct t [0] [1,2,5,7] (λt=>[(8,.b t)]) Ze Zf ?_ (λenv H q=>?_))))
  .exact au O
  refine Gx 1 Z (Ee q (Gc 1 Z (Bd d λx P d=>Cg x [0] [1,2,5] (λx=>[(59,.b x)]) Ze Zf ?_ ?_)))
  .exact au P
  exact DX j d h
 subst L;exact au h
def TB:Nat->CB->(AA CH)->AB Bool
  |0=>λ_ _=>AF
  |n+1=>iq (TB n) n
instance k_y:∀(d:CB) (f:AA CH),Ks (TB n d f) 180 [.a (CB.c d),.q 3 (map CH.enc f)] [] (λr=>.b r):=by
  induction n with
  |zero=>exact λ_ _=>⟨nofun⟩
  |succ n ih=>exact QaY _ ih n
def Tb(q:CB)(g:AN)(d:Int):AB (CG Int (CG Unit Bool)):=(bif d<(AI g.Ar:Int) then AH (CJ g.Ar d) λf=>AH (AH (F5 n q f.Al) λh=>(bif (!h)then AC AE else(bif f.B9<1 then AC AE else AH (G5 n f.Bu 0 1099511627776) λj=>AC (!j))):AB Bool) λm=>(bif m then AC (.d (.d AD))else AC (.k (i64.wrap (d+1))))else AC (.d (.k ())))
def O2(g:CB)(d:AN):AB Bool:=AH (iter (Tb n g d) n 0:AB (CG Unit Bool)) λh=>match h with|.k f=>(AH (AH (G5 n d.A' 1 3) λj=>(bif j then AH (TB n g d.Ad) λm=>(bif m then(bif (d.An==(-1))then AC AE else AH (F5 n g d.An) λq=>AC q)else AC AD)else AC AD):AB Bool) λt=>AC t)|.d f=>AC f
instance xo(d:CB)(f:AN):Ks (O2 n d f) 109 [.a (CB.c d),.a (AN.c f)] [] (λr=>.b r):=KA func109
def TT(f:CB)(d:Int):AB (CG Int (CG Unit Bool)):=(bif d<(AI f.Au:Int) then AH (CJ f.Au d) λg=>AH (G5 n g.AW 1 3) λh=>(bif (!h)then AC (.d (.d AD))else AC (.k (i64.wrap (d+1))))else AC (.d (.k ())))
def U8(n:Nat)(q:CB)(g:Int)(f:Cr)(d:Int):AB (CG Int (CG Unit (CG Int (CG Unit Bool)))):=(bif d<g then AH (AH (CJ q.Az d) λh=>(bif (h.BA==f.BA)then AH (CJ q.Az d) λj=>AC (j.To==f.To)else AC AD):AB Bool) λm=>(bif m then AC (.d (.d (.d (.d AD))))else AC (.k (i64.wrap (d+1))))else AC (.d (.k ())))
def Ta(h:CB)(f:Int):AB (CG Int (CG Unit Bool)):=(bif f<(AI h.Az:Int) then AH (CJ h.Az f) λd=>AH (AH (F5 n h d.BA) λj=>(bif (!j)then AC AE else AH (F5 n h d.To) λm=>(bif (!m)then AC AE else(bif d.Bn<0 then AC AE else(bif d.Br<d.Bn then AC AE else AC (AG (68719476736<d.Br)))))):AB Bool) λq=>(bif q then AC (.d (.d AD))else AH (iter (U8 n h f d) n 0:AB (CG Unit (CG Int (CG Unit Bool)))) λt=>match t with|.k g=>(AC (.k (i64.wrap (f+1))))|.d g=>AC g)else AC (.d (.k ())))
def TM(f:CB)(d:Int):AB (CG Int (CG Unit Bool)):=(bif d<(AI f.AO:Int) then AH (CJ f.AO d) λg=>AH (O2 n f g) λh=>(bif (!h)then AC (.d (.d AD))else AC (.k (i64.wrap (d+1))))else AC (.d (.k ())))
def T7(h:CB)(d:Int):AB (CG Int (CG Unit Bool)):=(bif d<(AI h.A4:Int) then AH (CJ h.A4 d) λf=>AH (G5 n f.B_ 0 1099511627776) λg=>(bif (!g)then AC (.d (.d AD))else AC (.k (i64.wrap (d+1))))else AC (.d (.k ())))
def UN(x:CB)(f:Int):AB (CG Int (CG Unit Bool)):=(bif f<(AI x.Ab:Int) then AH (CJ x.Ab f) λd=>AH (AH (G5 n d.BU 0 68719476736) λg=>(bif g then(bif (d.As==0)then AC (!d.BM)else AC AD)else AC AD):AB Bool) λh=>AH ((bif (d.BU==0)then AH (G5 n d.As 1 64) λj=>(bif j then AC (!d.BM)else AC AD)else AC AD):AB Bool) λm=>AH ((bif (d.BU==0)then(bif (d.As==0)then AC d.BM else AC AD)else AC AD):AB Bool) λq=>AH ((bif (!h)then(bif (!m)then AC (!q)else AC AD)else AC AD):AB Bool) λt=>(bif t then AC (.d (.d AD))else AC (.k (i64.wrap (f+1))))else AC (.d (.k ())))
def U7(n:Nat)(h:CB)(f:Int):AB (CG Int (CG Unit Bool)):=(bif f<(AI h.AV:Int) then AH (CJ h.AV f) λd=>AH ((bif d.BA<0 then AC AE else(bif d.To<d.BA then AC AE else AC (AG (120<d.To)))):AB Bool) λg=>(bif g then AC (.d (.d AD))else AC (.k (i64.wrap (f+1))))else AC (.d (.k ())))
def UO(n:Nat)(m:CB)(h:Int)(d:CQ)(f:Int):AB (CG Int (CG Unit (CG Int (CG Unit Bool)))):=(bif f<h then AH (CJ m.Ay f) λg=>AH ((bif (g.AN==d.AN)then(bif (g.AX==d.AX)then AC (g.B2==d.B2)else AC AD)else AC AD):AB Bool) λj=>(bif j then AC (.d (.d (.d (.d AD))))else AC (.k (i64.wrap (f+1))))else AC (.d (.k ())))
def UX(h:CB)(f:Int):AB (CG Int (CG Unit Bool)):=(bif f<(AI h.Ay:Int) then AH (CJ h.Ay f) λd=>AH (AH (G5 n d.AN 0 (i64.wrap ((AI h.AO:Int)-1))) λj=>(bif (!j)then AC AE else AH (G5 n d.AX (-1) (i64.wrap ((AI h.AV:Int)-1))) λm=>(bif (!m)then AC AE else AH (G5 n d.B2 1 4000) λq=>(bif (!q)then AC AE else AH (G5 n d.BO 1 1125899906842624) λt=>AC (!t)))):AB Bool) λx=>(bif x then AC (.d (.d AD))else AH (iter (UO n h f d) n 0:AB (CG Unit (CG Int (CG Unit Bool)))) λy=>match y with|.k g=>(AC (.k (i64.wrap (f+1))))|.d g=>AC g)else AC (.d (.k ())))
def PE(d:CB):AB Bool:=AH (iter (TT n d) n 0:AB (CG Unit Bool)) λQ=>match Q with|.k q=>(AH (iter (Ta n d) n 0:AB (CG Unit Bool)) λR=>match R with|.k t=>(AH (iter (TM n d) n 0:AB (CG Unit Bool)) λx=>match x with|.k f=>(AH (iter (T7 n d) n 0:AB (CG Unit Bool)) λy=>match y with|.k g=>(AH (iter (UN n d) n 0:AB (CG Unit Bool)) λB=>match B with|.k h=>(AH (iter (U7 n d) n 0:AB (CG Unit Bool)) λE=>match E with|.k j=>(AH (iter (UX n d) n 0:AB (CG Unit Bool)) λF=>match F with|.k m=>(AH (AH (G5 n d.AQ.A9 0 16) λG=>(bif G then AH (G5 n d.AQ.A8 0 16) λH=>(bif H then AH (G5 n d.AQ.A6 0 4294967296) λJ=>(bif J then AH (G5 n d.AQ.Am 0 4294967296) λL=>(bif L then AH (G5 n d.AQ.BF 0 100000) λM=>(bif M then AH (G5 n d.Bk 0 1125899906842624) λN=>(bif N then AH (G5 n d.Aw 0 1099511627776) λO=>AC O else AC AD)else AC AD)else AC AD)else AC AD)else AC AD)else AC AD):AB Bool) λP=>AC P)|.d m=>AC m)|.d j=>AC j)|.d h=>AC h)|.d g=>AC g)|.d f=>AC f)|.d t=>AC t)|.d q=>AC q
instance yC(a1:CB):Ks (PE n a1) 48 [.a (CB.c a1)] [] (λr=>.b r):=by
 refine Kg 12 func48 Z Z Z Z λr h=>Bd h λco cp h=>Fb (b:=co) [0] [1] Ze Ze Zf ?_ (λcz env H q d=>?_)
 .refine G0 1 Z (Lp [0] [1] (λbk=>[(3,I bk)]) Ze cp Zf (Lr [0]) λbk dn cq bl=>?_);exact DX bl cq h
 subst q;refine Gx 1 Z (Ee d (Gc 6 Z (Bd h λcr bm h=>Fb (b:=cr) [0] [1] Ze Ze Zf ?_ (λda env H q d=>?_))))
 .refine G0 1 Z (Lp [0] [1] (λac=>[(4,I ac)]) Ze bm Zf (Lr [0]) λac db g G=>?_);refine G0 6 Z (Lg 3 Z Z (Q8 Z g (λ_ g=>?_) (λ_ g=>?_)))
  .exact Jd G g
  refine Gc 9 Z (Bd g λdc al g=>Iz al Z (Go 7 Z (Bd g λM bn g=>Ct M [0,1] [1,4,5] (λM=>[(76,.b M)]) Ze Zf ?_ (λenv H d=>?_))))
  .exact au bn
  refine Gx 1 Z (Ee d (Cn Z g (λ_ g=>?_) (λ_ g=>?_)))
  .exact DX G g h
  refine Gc 7 Z (Bd g λbo bp g=>Fb (b:=bo) [0] [1,4] Ze Ze Zf ?_ (λcs env H q d=>?_))
  .refine G0 1 Z (Lp [0,1] [1,4,5] (λad=>[(6,I ad)]) Ze bp Zf (Lr [0,1]) λad dd t X=>?_);refine G0 8 Z (Q8 Z t (λ_ t=>?_) (λ_ t=>?_))
   .exact Jd X t
   refine Gc 5 Z (Bd t λN y t=>Ct N [0,1] [1,4,5,6] (λN=>[(101,.b N)]) Ze Zf ?_ (λenv H d=>?_))
   .refine G0 0 Z (DT 18 Z (D 3 Z ?_));obtain⟨J,ao,y⟩:=QE y;refine DS.wo (x:=.rp [I J.BA,I J.To,I J.Bn,I J.Br]) ?_ ?_
    .exact Ix ao Gb GL Z Wp
    refine D 6 Z (DS.is 9 y Z Z Z (λ_ y=>?_) (λ_ y=>?_))
    .refine D 3 Z ?_;obtain⟨E,ar,y⟩:=QE y;refine DS.v (x:=(.rp [I E.BA,I E.To,I E.Bn,I E.Br])) (M4 (e:=Cr.c) (l:=a1.Az) (v:=E) ar Gb GL) ?_ (hg:=(gT Z));exact au y
    exact au y
   refine Gx 1 Z (Ee d (Cn Z t (λ_ t=>?_) (λ_ t=>?_)))
   .refine Gc 8 Z (I7 t ?_);obtain rfl:=Oj X t;exact DX G g h
   exact au t
  subst q;exact Gx 2 Z (Ee d (Gc 5 Z (QZ g (Lr [0]))))
 subst q;refine Gx 1 Z (Ee d (Gc 6 Z (Bd h λbq br h=>Fb (b:=bq) [0] [1] Ze Ze Zf ?_ (λct env H q d=>?_))))
 .refine G0 1 Z (Lp [0] [1] (λae=>[(7,I ae)]) Ze br Zf (Lr [0]) λae de B Y=>?_);refine G0 6 Z (Lg 3 Z Z (Q8 Z B (λ_ B=>?_) (λ_ B=>?_)))
  .exact Jd Y B
  refine Gc 5 Z (DT 6 Z (D 4 Z ?_));obtain⟨F,ax,B⟩:=QE B;refine DS.wo (x:=.rp [.str F.Ap,.q 3 (map CH.enc F.Ad),I F.A',.q 3 (map CO.c F.Ar),I F.An]) ?_ ?_
  .exact Ix ax EJ EW Z Wp
  exact DX Y B h
 subst q;refine Gx 1 Z (Ee d (Gc 6 Z (Bd h λbs bu h=>Fb (b:=bs) [0] [1] Ze Ze Zf ?_ (λcu env H q d=>?_))))
 .refine G0 1 Z (Lp [0] [1] (λaf=>[(8,I af)]) Ze bu Zf (Lr [0]) λaf df bv ay=>?_);exact DX ay bv h
 subst q;refine Gx 1 Z (Ee d (Gc 6 Z (Bd h λbw bx h=>Fb (b:=bw) [0] [1] Ze Ze Zf ?_ (λcv env H q d=>?_))))
 .refine G0 1 Z (Lp [0] [1] (λag=>[(9,I ag)]) Ze bx Zf (Lr [0]) λag dg f aa=>?_);refine G0 6 Z (Lg 3 Z Z (Q8 Z f (λ_ f=>?_) (λ_ f=>?_)))
  .exact Jd aa f
  refine Gc 9 Z (Bd f λdh ba f=>Iz ba Z (Go 6 Z (Bd f λO bz f=>Ct O [0,1] [1,9,10] (λO=>[(11,.b O)]) Ze Zf ?_ (λenv H d=>?_))))
  .exact au bz
  refine Gx 1 Z (Ee d (Gc 1 Z (Bd f λP ca f=>Ct P [0,1] [1,9,10,11] (λP=>[(12,.b P)]) Ze Zf ?_ (λenv H d=>?_))))
  .exact au ca
  refine Gx 1 Z (Ee d (Gc 1 Z (Bd f λQ cb f=>Ct Q [0] [1,9,11,12] (λQ=>[(13,.b Q)]) Ze Zf ?_ (λenv H d=>?_))))
  .exact au cb
  refine Gx 1 Z (Ee d (Gc 1 Z (Bd f λR cc f=>Ct R [0] [1,9] (λR=>[(191,.b R)]) Ze Zf ?_ (λenv H d=>?_))))
  .exact au cc
  refine Gx 1 Z (Ee d (Cn Z f (λ_ f=>?_) (λ_ f=>?_)))
  .exact DX aa f h
  exact au f
 subst q;refine Gx 1 Z (Ee d (Gc 6 Z (Bd h λcd ce h=>Fb (b:=cd) [0] [1] Ze Ze Zf ?_ (λcw env H q d=>?_))))
 .refine G0 1 Z (Lp [0] [1] (λah=>[(14,I ah)]) Ze ce Zf (Lr [0]) λah di cf bc=>?_);exact DX bc cf h
 subst q;refine Gx 1 Z (Ee d (Gc 6 Z (Bd h λcg ch h=>Fb (b:=cg) [0] [1] Ze Ze Zf ?_ (λcx env H q d=>?_))))
 .refine G0 1 Z (Lp [0] [1] (λai=>[(16,I ai)]) Ze ch Zf (Lr [0]) λai dj j L=>?_);refine G0 6 Z (Lg 3 Z Z (Q8 Z j (λ_ j=>?_) (λ_ j=>?_)))
  .exact Jd L j
  refine Gc 9 Z (Bd j λdk be j=>Iz be Z (Go 7 Z (Bd j λT ci j=>Ct T [0,1] [1,16,17] (λT=>[(260,.b T)]) Ze Zf ?_ (λenv H d=>?_))))
  .exact au ci
  refine Gx 1 Z (Ee d (Cn Z j (λ_ j=>?_) (λ_ j=>?_)))
  .exact DX L j h
  refine Gc 7 Z (Bd j λcj cl j=>Fb (b:=cj) [0] [1,16] Ze Ze Zf ?_ (λcy env H q d=>?_))
  .refine G0 1 Z (Lp [0,1] [1,16,17] (λaj=>[(18,I aj)]) Ze cl Zf (Lr [0,1]) λaj dl m ab=>?_);refine G0 8 Z (Q8 Z m (λ_ m=>?_) (λ_ m=>?_))
   .exact Jd ab m
   refine Gc 9 Z (Bd m λdm bi m=>Iz bi Z (Go 6 Z (Bd m λV cm m=>Ct V [0,1] [1,16,17,18] (λV=>[(289,.b V)]) Ze Zf ?_ (λenv H d=>?_))))
   .exact au cm
   refine Gx 1 Z (Ee d (Cn Z m (λ_ m=>?_) (λ_ m=>?_)))
   .refine Gc 8 Z (I7 m ?_);obtain rfl:=Oj ab m;exact DX L j h
   exact au m
  subst q;exact Gx 2 Z (Ee d (Gc 5 Z (QZ j (Lr [0]))))
 subst q;refine Gx 1 Z (Ee d (Gc 9 Z (Bd h λW cn h=>Cg W [] [] (λW=>[(2,.b W)]) Ze Zf ?_ ?_)))
 .exact au cn
 exact au h
def TQ(n:Nat)(f:AR)(rec233:AR->AB Bool)(d:Int):AB (CG Int (CG Unit Bool)):=(bif d<(AI f.Ac:Int) then AH (CJ f.Ac d) λg=>AH (rec233 g) λh=>(bif (!h)then AC (.d (.d AD))else AC (.k (i64.wrap (d+1))))else AC (.d (.k ())))
def P6(rec233:AR->AB Bool)(n:Nat)(d:AR):AB Bool:=(bif (d.AW==1)then AH ((bif 1<=d.Bz then(bif d.Bz<=3 then(bif 0<=d.N then(bif d.N<=10000 then AC ((AI d.Ac:Int)==0)else AC AD)else AC AD)else AC AD)else AC AD):AB Bool) λx=>AC x else AH ((bif (d.AW==2)then AC (d.AW==2)else AC (d.AW==3)):AB Bool) λh=>AH ((bif h then AH ((bif (AI d.Ac:Int)<1 then AC AE else AC (AG (16<(AI d.Ac:Int)))):AB Bool) λj=>(bif j then AC (.d AD)else AC (.k ()))else(bif (d.AW==4)then(bif ((AI d.Ac:Int) != 1)then AC (.d AD)else AC (.k ()))else AC (.d AD))):AB (CG Unit Bool)) λm=>match m with|.k f=>(AH ((bif (d.Bz != 0)then AC AE else AC (d.N != 0)):AB Bool) λq=>(bif q then AC AD else AH (iter (TQ n d rec233) n 0:AB (CG Unit Bool)) λt=>match t with|.k g=>(AC AE)|.d g=>AC g))|.d f=>AC f)
theorem Qbf(rec233:AR->AB Bool)(O:∀(j:AR),Ks (rec233 j) 268 [.a (AR.c j)] [] (λr=>.b r))(n:Nat)(j:AR):Ks (P6 rec233 n j) 268 [.a (AR.c j)] [] (λr=>.b r):=by
 refine Kg 20 func268 Z Z Z Z λr h=>Cn Z h (λ_ h=>?_) (λ_ h=>?_)
 .exact au h
 refine Gc 7 Z (Bd h λm Q h=>Ct m [0] [1,5] (λm=>[(32,.b m)]) Ze Zf ?_ (λenv H g=>?_))
 .exact au Q
 refine Gx 1 Z (Ee g (Bd h λR d h=>Fb (b:=R) [0] [1] Ze Ze Zf ?_ (λab env H hb g=>?_)))
 .refine G0 0 Z (Cn Z d (λ_ d=>?_) (λ_ d=>?_))
  .refine Gc 1 Z (Bd d λq T d=>Ct q [0] [1] (λq=>[(44,.b q)]) Ze Zf ?_ (λenv H g=>?_))
   .exact au T
   refine Gx 1 Z (Ee g (Cn Z d (λ_ d=>?_) (λ_ d=>?_)))
   .refine Gc 6 Z ?_;cases d;exact au h
   exact au d
  refine Gc 6 Z (Q8 Z d (λ_ d=>?_) (λ_ d=>?_))
  .refine Gc 6 Z ?_;cases d;exact au h
  refine Gc 4 Z (Lg 3 Z Z (Cn Z d (λ_ d=>?_) (λ_ d=>?_)))
  .refine Gc 6 Z ?_;cases d;exact au h
  exact au d
 subst hb;refine Gx 2 Z (Ee g (Gc 2 Z (Bd h λt V h=>Ct t [0] [1] (λt=>[(58,.b t)]) Ze Zf ?_ (λenv H g=>?_))))
 .exact au V
 refine Gx 1 Z (Ee g (Cn Z h (λ_ h=>?_) (λ_ h=>?_)))
 .exact au h
 refine Gc 8 Z (Bd h λW X h=>D_ (b:=W) [] [] Ze Ze Zf ?_ (λ_ Y=>?_))
 .refine G0 1 Z (Lp [0] [1] (λy=>[(3,I y)]) Ze X Zf (Lr [0]) λy ae f x=>?_);refine G0 6 Z (Lg 3 Z Z (Q8 Z f (λ_ f=>?_) (λ_ f=>?_)))
  .exact Jd x f
  refine Gc 9 Z (Bd f λaa M f=>FU M (Ji aa) Z (Go 1 Z (Cz [] f Kc Z λaf ad f=>Go 3 Z (Cn Z f (λ_ f=>?_) (λ_ f=>?_)))))
  .exact DX x f h
  exact au f
 subst Y;exact au h
def Ms:Nat->AR->AB Bool
  |0=>λ_=>AF
  |n+1=>P6 (Ms n) n
instance zr:∀(d:AR),Ks (Ms n d) 268 [.a (AR.c d)] [] (λr=>.b r):=by
  induction n with
  |zero=>exact λ_=>⟨nofun⟩
  |succ n ih=>exact Qbf _ ih n
def O_(d:AR):AB Int:=AH (N3 n d 0) λf=>(bif 256<f then AC 2 else AH (Ms n d) λg=>(bif (!g)then AC 71 else AC 0))
instance xy(d:AR):Ks (O_ n d) 183 [.a (AR.c d)] [] (λr=>I r):=KA func183
def T9(B:AA AY)(rec231:(AA AY)->AB Bool)(f:Int):AB (CG Int (CG Unit Bool)):=(bif f<(AI B:Int) then AH (CJ B f) λd=>AH ((bif (d.AW==1)then AH ((bif d.By<1 then AC AE else(bif 5<d.By then AC AE else AH (Mb n d.AR) λh=>(bif (!h)then AC AE else(bif ((AI d.Ba:Int) != 0)then AC AE else AC ((AI d.Bh:Int) != 0))))):AB Bool) λj=>(bif j then AC (.d (.d (.d AD)))else AC (.k ()))else(bif (d.AW==2)then AH ((bif (d.By != 0)then AC AE else AH (O_ n d.AR) λm=>(bif (m != 0)then AC AE else(bif ((AI d.Ba:Int)==0)then AC AE else AH (rec231 d.Ba) λq=>(bif (!q)then AC AE else AH (rec231 d.Bh) λt=>AC (!t))))):AB Bool) λx=>(bif x then AC (.d (.d (.d AD)))else AC (.k ()))else AC (.d (.d (.d AD))))):AB (CG Unit (CG Int (CG Unit Bool)))) λy=>match y with|.k g=>(AC (.k (i64.wrap (f+1))))|.d g=>AC g else AC (.d (.k ())))
def P4(rec231:(AA AY)->AB Bool)(n:Nat)(g:AA AY):AB Bool:=AH (iter (T9 n g rec231) n 0:AB (CG Unit Bool)) λf=>match f with|.k d=>(AC AE)|.d d=>AC d
theorem Qbe(rec231:(AA AY)->AB Bool)(R:∀(t:AA AY),Ks (rec231 t) 111 [.q 8 (map AY.enc t)] [] (λr=>.b r))(n:Nat)(t:AA AY):Ks (P4 rec231 n t) 111 [.q 8 (map AY.enc t)] [] (λr=>.b r):=by
 refine Kg 11 func111 Z Z Z Z λr h=>Bd h λL M h=>D_ (b:=L) [] [] Ze Ze Zf ?_ (λ_ T=>?_)
 .refine G0 1 Z (Lp [] [0] (λx=>[(3,I x)]) Ze M Zf (Lr []) λx X f g=>?_);refine G0 5 Z (Lg 3 Z Z (Q8 Z f (λ_ f=>?_) (λ_ f=>?_)))
  .exact Jd g f
  refine Gc 8 Z (Bd f λN B f=>FU B (Yq N) Z (Go 18 Z (Bd f λO d f=>Fb (b:=O) [] [0,3] Ze Ze Zf ?_ (λW env H hb j=>?_))))
  .refine G0 0 Z (Cn Z d (λ_ d=>?_) (λ_ d=>?_))
   .refine Gc 1 Z (Bd d λm P d=>Ct m [] [0,3] (λm=>[(44,.b m)]) Ze Zf ?_ (λenv H j=>?_))
    .exact au P
    refine Gx 1 Z (Ee j (Cn Z d (λ_ d=>?_) (λ_ d=>?_)))
    .refine Gc 6 Z ?_;cases d;exact DX g f h
    exact au d
   refine Gc 6 Z (Q8 Z d (λ_ d=>?_) (λ_ d=>?_))
   .refine Gc 6 Z ?_;cases d;exact DX g f h
   refine Gc 1 Z (Bd d λq Q d=>Ct q [] [0,3] (λq=>[(73,.b q)]) Ze Zf ?_ (λenv H j=>?_))
   .exact au Q
   refine Gx 1 Z (Ee j (Cn Z d (λ_ d=>?_) (λ_ d=>?_)))
   .refine Gc 6 Z ?_;cases d;exact DX g f h
   exact au d
  subst hb;exact Gx 3 Z (Ee j (Gc 5 Z (QZ f (Lr []))))
 subst T;exact au h
def Mq:Nat->(AA AY)->AB Bool
  |0=>λ_=>AF
  |n+1=>P4 (Mq n) n
instance zp:∀(d:AA AY),Ks (Mq n d) 111 [.q 8 (map AY.enc d)] [] (λr=>.b r):=by
  induction n with
  |zero=>exact λ_=>⟨nofun⟩
  |succ n ih=>exact Qbe _ ih n
def OV(d:AA AY):AB Int:=AH (Rp n d 0) λf=>AH ((bif 64<f.1 then AC AE else AC (AG (256<f.2))):AB Bool) λh=>(bif h then AC 2 else AH ((bif ((AI d:Int)==0)then AC AE else AH (Mq n d) λg=>AC (!g)):AB Bool) λj=>(bif j then AC 71 else AC 0))
instance xQ(d:AA AY):Ks (OV n d) 49 [.q 8 (map AY.enc d)] [] (λr=>I r):=KA func49
def eh(n:Nat)(q:AA CH)(f:(AA Int)×Int)(g:AA Int)(d:(AA Int)×Int):AB (CG ((AA Int)×Int) (AA Int)):=AH (AH (CJ q f.2) λh=>(bif d.2<h.As then AC (AG ((AI d.1:Int)<=256))else AC AD):AB Bool) λj=>(bif j then AH (app d.1 g) λm=>AC (.k (m,i64.wrap (d.2+1)))else AC (.d d.1))
def Te(f:AA CH)(rec235:(AA CH)->AB (AA Int))(d:(AA Int)×Int):AB (CG ((AA Int)×Int) (AA Int)):=AH ((bif d.2<(AI f:Int) then AC (AG ((AI d.1:Int)<=256))else AC AD):AB Bool) λg=>(bif g then AH (AH (CJ f d.2) λh=>(bif (h.As==0)then AH (CJ f d.2) λj=>AH (app d.1 [j.Al]) λm=>AC m else AH (CJ f d.2) λq=>AH (rec235 q.Ac) λt=>AH (iter (eh n f d t) n (d.1,0):AB (AA Int)) λx=>AC x):AB (AA Int)) λy=>AC (.k (y,i64.wrap (d.2+1)))else AC (.d d.1))
def P3(rec235:(AA CH)->AB (AA Int))(n:Nat)(f:AA CH):AB (AA Int):=AH (iter (Te n f rec235) n (([]:AA Int),0):AB (AA Int)) λd=>AC d
theorem QaZ(rec235:(AA CH)->AB (AA Int))(ag:∀(G:AA CH),Kq (rec235 G) 112 [.q 3 (map CH.enc G)] [] (λr=>.o 0 (AI r) 1) (λr=>[.r 3 1 (map eI r)]))(n:Nat)(G:AA CH):Kq (P3 rec235 n G) 112 [.q 3 (map CH.enc G)] [] (λr=>.o 0 (AI r) 1) (λr=>[.r 3 1 (map eI r)]):=by
 refine Kg 7 func112 Z Z Z Z λr h=>vH (Ek (xs:=[]) (es:=map eI []) QF Z Z Z Z Z trivial Z Z) ?_;refine Fg 9 Z Z (Bd h λm aa h=>Cg m [0] [] (λm=>[(3,.o 0 (AI m) 1)]) (λm=>[(0,.r 3 1 (map eI m))]) Zf ?_ ?_)
 .refine G0 1 Z (Lp [0] [0] (λq=>[(3,.o 0 (AI q.1) 1),(4,I q.2)]) (λq=>[(0,.r 3 1 (map eI q.1))]) aa Zf (Lr [0]) λq ai f L=>?_);refine G0 2 Z (Bd f λE ab f=>Ct E [0] [0,3,4] (λE=>[(16,.b E)]) Ze Zf ?_ (λenv H B=>?_))
  .exact au ab
  refine Gx 1 Z (Ee B (Q8 Z f (λ_ f=>?_) (λ_ f=>?_)))
  .exact Jd L f
  refine Gc 3 Z (Bd f λt d f=>Cg t [0] [0,4] (λt=>[(3,.o 0 (AI t) 1)]) (λt=>[(0,.r 3 1 (map eI t))]) Zf ?_ ?_)
  .refine G0 6 Z (Bd d λac N d=>FU N (QO ac) Z (Go 5 Z (Cn Z d (λ_ d=>?_) (λ_ d=>?_))))
   .refine Gc 5 Z (Bd d λJ P d=>FU P (QO J) Z (Go 2 Z (vH (Ek (xs:=[.tmp 30]) (es:=map eI [J.Al]) QF Z Z Z Z Z ⟨Z,trivial⟩ Z Z) ?_)));refine FE Z (Bd d λaj Q d=>vH (Qj (e:=eI) Q QF EB (QC (i:=1))) ?_);exact au d
   refine Gc 6 Z (Bd d λad R d=>FU R (QO ad) Z (Go 2 Z (Cd [] d Kc Z λak ah d=>Fg 8 Z Z (Bd d λx ae d=>Ct x [0] [0,4] (λx=>[(3,.o 0 (AI x) 1)]) (λx=>[(0,.r 3 1 (map eI x))]) Zf ?_ (λenv H B=>?_)))))
   .refine G0 1 Z (Lp [0,1] [0,4,5] (λy=>[(3,.o 0 (AI y.1) 1),(6,I y.2)]) (λy=>[(0,.r 3 1 (map eI y.1))]) ae Zf (Lr [0,1]) λy al g T=>?_);refine G0 2 Z (Bd g λF j g=>Ct F [0,1] [0,3,4,5,6] (λF=>[(50,.b F)]) Ze Zf ?_ (λenv H B=>?_))
    .refine G0 4 Z (Bd j λaf V j=>FU V (QO af) Z (Go 4 Z (Is 46 j Z (λ_ j=>?_) (λ_ j=>?_))))
     iterate 2 exact au j
    refine Gx 1 Z (Ee B (Q8 Z g (λ_ g=>?_) (λ_ g=>?_)))
    .exact Jd T g
    refine Gc 7 Z (Bd g λam Y g=>vH (Qj (e:=eI) Y QF EB (QC (i:=1))) ?_);exact au g
   refine Gx 1 Z ?_;cases d;exact Nt (En B (Lr [0]))
  exact au f
 exact au h
def Mp:Nat->(AA CH)->AB (AA Int)
  |0=>λ_=>AF
  |n+1=>P3 (Mp n) n
instance zo:∀(d:AA CH),Kq (Mp n d) 112 [.q 3 (map CH.enc d)] [] (λr=>.o 0 (AI r) 1) (λr=>[.r 3 1 (map eI r)]):=by
  induction n with
  |zero=>exact λ_=>⟨nofun⟩
  |succ n ih=>exact QaZ _ ih n
def TJ(n:Nat)(f:CB)(m:Int)(q:Int)(d:Int):AB (CG Int (CG Unit Int)):=(bif d<(AI f.Az:Int) then AH (AH (CJ f.Az d) λg=>(bif (g.BA==m)then AH (CJ f.Az d) λh=>AC (h.To==q)else AC AD):AB Bool) λj=>(bif j then AC (.d (.d d))else AC (.k (i64.wrap (d+1))))else AC (.d (.k ())))
def MV(g:CB)(h:Int)(j:Int):AB Int:=AH (iter (TJ n g h j) n 0:AB (CG Unit Int)) λf=>match f with|.k d=>(AC (-1))|.d d=>AC d
instance yt(d:CB)(f:Int)(g:Int):Ks (MV n d f g) 113 [.a (CB.c d),I f,I g] [] (λr=>I r):=KA func113
def Tn(n:Nat)(f:AA Int)(j:Int)(d:Int×Int):AB (CG (Int×Int) Int):=(bif d.2<(AI f:Int) then AH (CJ f d.2) λg=>AH ((bif (g==j)then AC (i64.wrap (d.1+1))else AC d.1):AB Int) λh=>AC (.k (h,i64.wrap (d.2+1)))else AC (.d d.1))
def Mi(f:AA Int)(g:Int):AB Int:=AH (iter (Tn n f g) n (0,0):AB Int) λd=>AC d
instance jo(x:AA Int)(y:Int):Ks (Mi n x y) 114 [.q 1 (map eI x),I y] [] (λr=>I r):=by
 refine Kg 16 func114 Z Z Z Z λr h=>Bd h λf B h=>Cg f [] [] (λf=>[(5,I f)]) Ze Zf ?_ ?_
 .refine G0 1 Z (Lp [] [0,1] (λg=>[(5,I g.1),(6,I g.2)]) Ze B Zf (Lr []) λg G d m=>?_);refine G0 5 Z (Lg 3 Z Z (Q8 Z d (λ_ d=>?_) (λ_ d=>?_)))
  .exact Jd m d
  refine Gc 8 Z (Bd d λJ t d=>Iz t Z (Go 5 Z (Bd d λj E d=>Ct j [] [0,1,6] (λj=>[(5,I j)]) Ze Zf ?_ (λenv H F=>?_))))
  .exact au E
  exact Gx 2 Z (Ee F (Gc 5 Z (QZ d (Lr []))))
 exact au h
def TW(g:CB)(f:AA Int)(d:Int):AB (CG Int (CG Unit Bool)):=(bif d<(AI f:Int) then AH ((bif (d==0)then AC 1 else(bif (d==(i64.wrap ((AI f:Int)-1)))then AC 3 else AC 2)):AB Int) λh=>AH (AH (CJ f d) λj=>AH (CJ g.Au j) λm=>(bif (m.AW != h)then AC AE else(bif 0<d then AH (CJ f (i64.wrap (d-1))) λq=>AH (CJ f d) λt=>AH (MV n g q t) λx=>AC (AG (x<0))else AC AD)):AB Bool) λy=>(bif y then AC (.d (.d AD))else AC (.k (i64.wrap (d+1))))else AC (.d (.k ())))
def U4(f:AN)(m:AA Int)(d:Int):AB (CG Int (CG Unit Bool)):=(bif d<(AI f.Ar:Int) then AH (CJ f.Ar d) λg=>AH (Mi n m g.Al) λh=>AH (CJ f.Ar d) λj=>(bif h<j.B9 then AC (.d (.d AD))else AC (.k (i64.wrap (d+1))))else AC (.d (.k ())))
def Oz(j:CB)(d:AN):AB Bool:=AH (Mp n d.Ad) λf=>AH ((bif (AI f:Int)<2 then AC AE else AC (AG (256<(AI f:Int)))):AB Bool) λE=>(bif E then AC AD else AH (iter (TW n j f) n 0:AB (CG Unit Bool)) λm=>match m with|.k g=>(AH ((bif (d.An != (-1))then AH (CJ j.Au d.An) λq=>(bif (q.AW != 2)then AC AE else AH (Mi n f d.An) λt=>(bif (t==0)then AC AE else AH (MV n j d.An d.An) λx=>AC (AG (x<0))))else AC AD):AB Bool) λy=>(bif y then AC AD else AH (iter (U4 n d f) n 0:AB (CG Unit Bool)) λB=>match B with|.k h=>(AC AE)|.d h=>AC h))|.d g=>AC g)
instance xl(a1:CB)(a2:AN):Ks (Oz n a1 a2) 50 [.a (CB.c a1),.a (AN.c a2)] [] (λr=>.b r):=by
 refine Kg 11 func50 Z Z Z Z λr h=>Cd [] h Kc Z λr1 aw h=>Fg 12 Z Z (Bd h λW h4 h=>Ct W [0,1,2] [2,3,5,6] (λW=>[(20,.b W)]) Ze Zf ?_ (λenv H j=>?_))
 .exact au h4
 refine Gx 1 Z (Ee j (Cn Z h (λ_ h=>?_) (λ_ h=>?_)))
 .exact au h
 refine Gc 8 Z (Bd h λag ah h=>Fb (b:=ag) [0,1,2] [2,3,5] Ze Ze Zf ?_ (λaq env H B j=>?_))
 .refine G0 1 Z (Lp [0,1,2] [2,3,5,6] (λm=>[(7,I m)]) Ze ah Zf (Lr [0,1,2]) λm ax g E=>?_);refine G0 8 Z (Q8 Z g (λ_ g=>?_) (λ_ g=>?_))
  .exact Jd E g
  refine Gc 22 Z (Bd g λF ai g=>Ct F [0,1,2] [2,3,5,6,7] (λF=>[(8,I F)]) Ze Zf ?_ (λenv H j=>?_))
  .exact au ai
  refine Gx 2 Z (Ee j (Gc 1 Z (Bd g λG d g=>Ct G [0,1,2] [2,3,5,6,7] (λG=>[(61,.b G)]) Ze Zf ?_ (λenv H j=>?_))))
  .refine G0 0 Z (DT 25 Z (D 4 Z ?_));obtain⟨aj,J,d⟩:=QE d;refine DS.v (x:=(.p 2 (toNat m*1))) (Qd J Z EB EC) ?_;refine DS.v (x:=(I aj)) (Ez Z EE Z (Qh J)) ?_;obtain⟨V,Y,d⟩:=QE d;refine DS.wo (x:=.rp [.str V.Ap,I V.AW]) ?_ ?_
   .exact Ix Y runUnderlying22 sizeOf214 Z Wp
   refine D 5 Z (DS.is 11 d Z Z Z (λ_ d=>?_) (λ_ d=>?_))
   .exact au d
   .refine D 3 Z (DS.is 14 d Z Z Z (λ_ d=>?_) (λ_ d=>?_))
    .refine D 4 Z ?_;obtain⟨ak,L,d⟩:=QE d;refine DS.v (x:=(.p 2 (toNat (i64.wrap (m-1))*1))) (Qd L Z EB EC) ?_ (hg:=(gT Z));refine DS.v (x:=(I ak)) (Ez Z EE Z (Qh L)) ?_ (hg:=(gT Z));refine D 2 Z ?_;obtain⟨al,M,d⟩:=QE d;refine DS.v (x:=(.p 2 (toNat m*1))) (Qd M Z EB EC) ?_ (hg:=(gT Z));refine DS.v (x:=(I al)) (Ez Z EE Z (Qh M)) ?_ (hg:=(gT Z));exact au d
    exact au d
  refine Gx 1 Z (Ee j (Cn Z g (λ_ g=>?_) (λ_ g=>?_)))
  .exact DX E g h
  exact au g
 subst B;refine Gx 1 Z (Ee j (Gc 2 Z (Bd h λN am h=>Ct N [1,2] [3,5] (λN=>[(90,.b N)]) Ze Zf ?_ (λenv H j=>?_))))
 .exact au am
 refine Gx 1 Z (Ee j (Cn Z h (λ_ h=>?_) (λ_ h=>?_)))
 .exact au h
 refine Gc 8 Z (Bd h λan ao h=>D_ (b:=an) [] [] Ze Ze Zf ?_ (λ_ B=>?_))
 .refine G0 1 Z (Lp [0,1] [3,5] (λO=>[(9,I O)]) Ze ao Zf (Lr [0,1]) λO av f y=>?_);refine G0 6 Z (Lg 3 Z Z (Q8 Z f (λ_ f=>?_) (λ_ f=>?_)))
  .exact Jd y f
  refine Gc 5 Z (DT 14 Z (D 4 Z ?_));obtain⟨q,Q,f⟩:=QE f;refine DS.wo (x:=.rp [I q.Al,I q.B9,I q.Bu]) ?_ ?_
  .exact Ix Q GF sizeOf245 Z Wp
  refine D 2 Z ?_;obtain⟨ae,R,f⟩:=QE f;refine DS.wo (x:=I ae) ?_ ?_
  .refine Zi (C7.fn call114 rfl rfl rfl) (Dt.cons rfl (.inr ⟨_,_,_,_,_,rfl,rfl,X2 ..,rfl⟩) (Dt.cons rfl (.inl ⟨rfl,rfl⟩) Dt.nil)) ((jo _ _ _).c _ R) (by rintro _ _ ⟨rfl,rfl⟩;rfl) ?_;rintro _ _ ⟨rfl,rfl⟩;exact FE Z Wp
  refine D 3 Z ?_;obtain⟨t,T,f⟩:=QE f;refine DS.wo (x:=.rp [I t.Al,I t.B9,I t.Bu]) ?_ ?_
  .exact Ix T GF sizeOf245 Z Wp
  exact DX y f h
 subst B;exact au h
def V2(f:CB)(d:Int):AB (CG Int (CG Unit Int)):=(bif d<(AI f.AO:Int) then AH (CJ f.AO d) λg=>AH (Oz n f g) λh=>(bif (!h)then AC (.d (.d 72))else AC (.k (i64.wrap (d+1))))else AC (.d (.k ())))
def HQ(d:CB):AB Int:=AH (PU n d) λj=>(bif (!j)then AC 2 else AH (O3 n d) λm=>(bif (!m)then AC 70 else AH (PE n d) λq=>(bif (!q)then AC 71 else AH (OV n d.BN) λg=>(bif (g != 0)then AC g else AH (iter (V2 n d) n 0:AB (CG Unit Int)) λh=>match h with|.k f=>(AC 0)|.d f=>AC f))))
instance k_f(t:CB):Ks (HQ n t) 14 [.a (CB.c t)] [] (λr=>I r):=by
 refine Kg 10 func14 Z Z Z Z λr h=>Cz [] h Kc Z λR M h=>Go 3 Z (Cn Z h (λ_ h=>?_) (λ_ h=>?_))
 .exact au h
 refine Gc 6 Z (Cz [] h Kc Z λT N h=>Go 3 Z (Cn Z h (λ_ h=>?_) (λ_ h=>?_)))
 .exact au h
 refine Gc 6 Z (Cz [] h Kc Z λV O h=>Go 3 Z (Cn Z h (λ_ h=>?_) (λ_ h=>?_)))
 .exact au h
 refine Gc 6 Z (Cz [] h Kc Z λW P h=>Go 10 Z (Cn Z h (λ_ h=>?_) (λ_ h=>?_)))
 .exact au h
 refine Gc 8 Z (Bd h λG H h=>D_ (b:=G) [] [] Ze Ze Zf ?_ (λ_ J=>?_))
 .refine G0 1 Z (Lp [0] [1] (λj=>[(4,I j)]) Ze H Zf (Lr [0]) λj Q d g=>(G0 6 Z (Lg 3 Z Z (Q8 Z d (λ_ d=>?_) (λ_ d=>?_)))))
  .exact Jd g d
  refine Gc 5 Z (DT 6 Z (D 4 Z ?_));obtain⟨f,q,d⟩:=QE d;refine DS.wo (x:=.rp [.str f.Ap,.q 3 (map CH.enc f.Ad),I f.A',.q 3 (map CO.c f.Ar),I f.An]) ?_ ?_
  .exact Ix q EJ EW Z Wp
  exact DX g d h
 subst J;exact au h
def T8(n:Nat)(f:AA CH)(m:Int)(rec240:(AA CH)->Int->AB Int)(d:Int×Int):AB (CG (Int×Int) Int):=AH ((bif d.2<(AI f:Int) then AC (AG (d.1<500))else AC AD):AB Bool) λg=>(bif g then AH (CJ f d.2) λh=>AH (rec240 h.Ac (i64.wrap (m+1))) λj=>AC (.k (i64.wrap (d.1+j),i64.wrap (d.2+1)))else AC (.d d.1))
def P7(rec240:(AA CH)->Int->AB Int)(n:Nat)(d:AA CH)(f:Int):AB Int:=(bif 20<f then AC 500 else AH (iter (T8 n d f rec240) n ((AI d:Int),0):AB Int) λg=>AC g)
theorem Qbp(rec240:(AA CH)->Int->AB Int)(B:∀(f:AA CH) (g:Int),Ks (rec240 f g) 123 [.q 3 (map CH.enc f),I g] [] (λr=>I r))(n:Nat)(f:AA CH)(g:Int):Ks (P7 rec240 n f g) 123 [.q 3 (map CH.enc f),I g] [] (λr=>I r):=by
 refine Kg 8 func123 Z Z Z Z λr h=>Lg 10 Z Z (Cn Z h (λ_ h=>?_) (λ_ h=>?_))
 .exact au h
 refine Gc 8 Z (Bd h λj F h=>Cg j [] [] (λj=>[(5,I j)]) Ze Zf ?_ ?_)
 .refine G0 1 Z (Lp [] [0,1] (λm=>[(5,I m.1),(6,I m.2)]) Ze F Zf (Lr []) λm L d t=>?_);refine G0 2 Z (Bd d λq G d=>Cg q [] [0,1,5,6] (λq=>[(18,.b q)]) Ze Zf ?_ ?_)
  .exact au G
  refine Q8 Z d (λ_ d=>?_) (λ_ d=>?_)
  .exact Jd t d
  exact Gc 8 Z (Bd d λH y d=>FU y (QO H) Z (Go 4 Z (Cz [] d Kc Z λM J d=>Go 10 Z (QZ d (Lr [])))))
 exact au h
def Mt:Nat->(AA CH)->Int->AB Int
  |0=>λ_ _=>AF
  |n+1=>P7 (Mt n) n
instance zt:∀(d:AA CH) (f:Int),Ks (Mt n d f) 123 [.q 3 (map CH.enc d),I f] [] (λr=>I r):=by
  induction n with
  |zero=>exact λ_ _=>⟨nofun⟩
  |succ n ih=>exact Qbp _ ih n
def U5(n:Nat)(f:AA AR)(m:Int)(rec242:(AA AR)->Int->AB Int)(d:Int×Int):AB (CG (Int×Int) Int):=AH ((bif d.2<(AI f:Int) then AC (AG (d.1<500))else AC AD):AB Bool) λg=>(bif g then AH (CJ f d.2) λh=>AH (rec242 h.Ac (i64.wrap (m+1))) λj=>AC (.k (i64.wrap (d.1+j),i64.wrap (d.2+1)))else AC (.d d.1))
def P5(rec242:(AA AR)->Int->AB Int)(n:Nat)(d:AA AR)(f:Int):AB Int:=(bif 20<f then AC 500 else AH (iter (U5 n d f rec242) n ((AI d:Int),0):AB Int) λg=>AC g)
theorem Qbd(rec242:(AA AR)->Int->AB Int)(B:∀(f:AA AR) (g:Int),Ks (rec242 f g) 195 [.q 4 (map AR.enc f),I g] [] (λr=>I r))(n:Nat)(f:AA AR)(g:Int):Ks (P5 rec242 n f g) 195 [.q 4 (map AR.enc f),I g] [] (λr=>I r):=by
 refine Kg 8 func195 Z Z Z Z λr h=>Lg 10 Z Z (Cn Z h (λ_ h=>?_) (λ_ h=>?_))
 .exact au h
 refine Gc 8 Z (Bd h λj F h=>Cg j [] [] (λj=>[(5,I j)]) Ze Zf ?_ ?_)
 .refine G0 1 Z (Lp [] [0,1] (λm=>[(5,I m.1),(6,I m.2)]) Ze F Zf (Lr []) λm L d t=>?_);refine G0 2 Z (Bd d λq G d=>Cg q [] [0,1,5,6] (λq=>[(18,.b q)]) Ze Zf ?_ ?_)
  .exact au G
  refine Q8 Z d (λ_ d=>?_) (λ_ d=>?_)
  .exact Jd t d
  exact Gc 8 Z (Bd d λH y d=>FU y (Ji H) Z (Go 4 Z (Cz [] d Kc Z λM J d=>Go 10 Z (QZ d (Lr [])))))
 exact au h
def Mr:Nat->(AA AR)->Int->AB Int
  |0=>λ_ _=>AF
  |n+1=>P5 (Mr n) n
instance zq:∀(d:AA AR) (f:Int),Ks (Mr n d f) 195 [.q 4 (map AR.enc d),I f] [] (λr=>I r):=by
  induction n with
  |zero=>exact λ_ _=>⟨nofun⟩
  |succ n ih=>exact Qbd _ ih n
def TZ(f:AA AY)(g:Int)(rec241:(AA AY)->Int->AB Int)(d:Int×Int):AB (CG (Int×Int) Int):=AH ((bif d.2<(AI f:Int) then AC (AG (d.1<500))else AC AD):AB Bool) λh=>(bif h then AH (CJ f d.2) λj=>AH (Mr n [j.AR] 0) λm=>AH (CJ f d.2) λq=>AH (rec241 q.Ba (i64.wrap (g+1))) λt=>AH (CJ f d.2) λx=>AH (rec241 x.Bh (i64.wrap (g+1))) λy=>AC (.k (i64.wrap ((i64.wrap ((i64.wrap (d.1+m))+t))+y),i64.wrap (d.2+1)))else AC (.d d.1))
def P2(rec241:(AA AY)->Int->AB Int)(n:Nat)(d:AA AY)(f:Int):AB Int:=(bif 20<f then AC 500 else AH (iter (TZ n d f rec241) n ((AI d:Int),0):AB Int) λg=>AC g)
theorem Qbc(rec241:(AA AY)->Int->AB Int)(M:∀(m:AA AY) (q:Int),Ks (rec241 m q) 124 [.q 8 (map AY.enc m),I q] [] (λr=>I r))(n:Nat)(m:AA AY)(q:Int):Ks (P2 rec241 n m q) 124 [.q 8 (map AY.enc m),I q] [] (λr=>I r):=by
 refine Kg 8 func124 Z Z Z Z λr h=>Lg 10 Z Z (Cn Z h (λ_ h=>?_) (λ_ h=>?_))
 .exact au h
 refine Gc 8 Z (Bd h λt P h=>Cg t [] [] (λt=>[(5,I t)]) Ze Zf ?_ ?_)
 .refine G0 1 Z (Lp [] [0,1] (λy=>[(5,I y.1),(6,I y.2)]) Ze P Zf (Lr []) λy V d E=>?_);refine G0 2 Z (Bd d λB Q d=>Cg B [] [0,1,5,6] (λB=>[(18,.b B)]) Ze Zf ?_ ?_)
  .exact au Q
  refine Q8 Z d (λ_ d=>?_) (λ_ d=>?_)
  .exact Jd E d
  refine Gc 4 Z (DT 26 Z (D 3 Z ?_));obtain⟨f,G,d⟩:=QE d;refine DS.v (x:=(.rp [I f.AW,I f.By,I f.AR.AW,I f.AR.Bz,I f.AR.N,.q 4 (map AR.enc f.AR.Ac),.q 8 (map AY.enc f.Ba),.q 8 (map AY.enc f.Bh)])) (lV (e:=AY.enc) G (Yq f) GG GW) ?_;refine D 2 Z ?_;refine DS.wo (x:=.q 4 (map AR.enc [f.AR])) ?_ ?_
  .refine vH (QP (xs:=[.tmp 26]) (es:=[AR.c f.AR]) _f Z Z Z Z Z ⟨Z,trivial⟩ Z Z) ?_;refine Nw (x:=(.q 4 (map AR.enc [f.AR]))) (H:=[]) (by simp[Ji]) Z ?_;exact Wp
  refine Dz [] d Kc Z λW R d=>D 3 Z ?_;obtain⟨g,J,d⟩:=QE d;refine DS.v (x:=(.rp [I g.AW,I g.By,I g.AR.AW,I g.AR.Bz,I g.AR.N,.q 4 (map AR.enc g.AR.Ac),.q 8 (map AY.enc g.Ba),.q 8 (map AY.enc g.Bh)])) (lV (e:=AY.enc) J (Yq g) GG GW) ?_;refine D 4 Z ?_;refine Dz [] d Kc Z λX T d=>D 3 Z ?_;obtain⟨j,L,d⟩:=QE d;refine DS.v (x:=(.rp [I j.AW,I j.By,I j.AR.AW,I j.AR.Bz,I j.AR.N,.q 4 (map AR.enc j.AR.Ac),.q 8 (map AY.enc j.Ba),.q 8 (map AY.enc j.Bh)])) (lV (e:=AY.enc) L (Yq j) GG GW) ?_;exact au d
 exact au h
def Mo:Nat->(AA AY)->Int->AB Int
  |0=>λ_ _=>AF
  |n+1=>P2 (Mo n) n
instance zm:∀(d:AA AY) (f:Int),Ks (Mo n d f) 124 [.q 8 (map AY.enc d),I f] [] (λr=>I r):=by
  induction n with
  |zero=>exact λ_ _=>⟨nofun⟩
  |succ n ih=>exact Qbc _ ih n
end Go.Sw
