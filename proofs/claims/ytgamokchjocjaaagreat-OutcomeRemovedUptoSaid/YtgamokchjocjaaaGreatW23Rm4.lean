/- What the functions compute that OutcomeRemoved reaches, and that their calls refine it (part 4 of 6). -/
import Derived.Test.YtgamokchjocjaaaGreatW23Rm3
set_option linter.unusedVariables false
set_option linter.unusedSimpArgs false
set_option maxRecDepth 100000
set_option maxHeartbeats 4000000
namespace Go.Sw
open Option renaming some→AC,none→AF,bind→AH
open Bool renaming false→AD,true→AE
open Decidable renaming decide→AG
open List renaming length→AI
variable (n:Nat)
open List(map)
open Int(toNat)
open Go.IntKind(i64 u64 u8)
open Go.Proofs Tryz
def Iu(f:AA CD)(d:(AA CD)×Int×Int):AB (CG ((AA CD)×Int×Int) (AA CD)):=(bif d.2.2<(AI f:Int) then AH (CJ f d.2.2) λh=>AH (L5 n h d.2.1 d.1) λg=>AC (.k (g.2,g.1,i64.wrap (d.2.2+1)))else AC (.d d.1))
def I5(d:AA CD):AB (AA CD):=AH (O4 n d) λk=>AH ((bif k then AH (K6 n) λt=>AH (app [] [{BQ:=AE,Bh:=(-1),Lo:=0,Hi:=0:CD}]) λm=>AC m else AC []):AB (AA CD)) λq=>AH (WS n d) λf=>AH (OT n f) λg=>AH (LV (λx y=>PN n x y) g) λh=>AH (iter (Iu n h) n (q,(-1),0):AB (AA CD)) λj=>AC j
instance yK(G:AA CD):Kq (I5 n G) 16 [.q 4 (map CD.c G)] [] (λr=>.o 0 (AI r) 4) (λr=>[.r 62 4 (map CD.c r),.c 51 [.o 0 (AI r) 4]]):=by
 refine Kg 9 func16 Z Z Z Z λr h=>Cz [] h Kc Z λr1 R h=>Go 2 Z (Bd h λB g h=>Ct B [0,0] [0,2] Ze (λB=>[(0,.c 51 [.o 1 (AI B) 4]),(1,.r 62 4 (map CD.c B))]) Zf ?_ (λenv H J=>?_))
 .refine G0 0 Z (Cn Z g (λ_ g=>?_) (λ_ g=>?_))
  .refine HF 3 [1] [(0,0,1),(1,0,0),(0,1,1)] (by kernel_rfl) ?_;refine JR (lo:=0) (x:=.n) ⟨Z,trivial⟩ ?_;obtain⟨r8,M,g⟩:=QF g;refine Ey (x:=.a [.b AE,I (-1),I 0,I 0]) (X1:=[.c 51 [.n],.c 62 [.b AE,I (-1),I 0,I 0]]) ?_ ?_
   .refine Qh [] (C6.fn call44 Z Z Z) ((Wl _).c _ M) ?_;rintro _ _ ⟨rfl,rfl⟩;exact FE Z Wp
   refine DK.wo (x:=.q 4 (map CD.c [{BQ:=AE,Bh:=(-1),Lo:=0,Hi:=0:CD}])) ?_ ?_
   .refine vH (QM (xs:=[.tmp 11]) Jj Z Z Z Z Z ⟨Z,trivial⟩ Z Z) ?_;exact FE Z Wp
   refine DK.done Z Z (Bd g λl9 N g=>?_);refine vH (QoO N Jj EN K3) ?_;exact au g
  refine Gc 1 Z ?_;cases g;refine Eo (Ya (i:=0) (m:=0) (t:=62) (k:=4) Z Z Z) ?_;exact Lr [0,1]
 refine Gx 1 Z (Ef J (Gc 3 Z (Cd [] h Kc Z λT P h=>FE Z (Cd [2] h Kc Z λV Q h=>Fg 6 Z Z (Bd h λW q h=>?_)))));refine Qh [2] (C6.fn call50 Z Z Z) (oh Qhj q (λx y c h=>(iw n x y).c c h) Gi ES call51 Zf Z) ?_;rintro _ _ ⟨rfl,rfl⟩;refine FE Z ?_;refine Eu (Q4 (s:=3) Z (congrArg (λn=>A.s 2 0 n 4) (dQ q))) ?_;refine Go 22 Z (Bd h λj O h=>Cg j [0,1] [2] Ze (λj=>[(0,.c 51 [.o 1 (AI j) 4]),(1,.r 62 4 (map CD.c j))]) Zf ?_ ?_)
 .refine G0 1 Z (Lp [0,1,3,2] [2,5,20,21] (λf=>[(22,I f.2.2)]) (λf=>[(0,.c 51 [.o 1 (AI f.1) 4]),(1,.r 62 4 (map CD.c f.1)),(2,.c 3 [I f.2.1])]) O Zf (Lr [0,1,3,2]) λf X d E=>?_);refine G0 6 Z (Q7 Z d (λ_ d=>?_) (λ_ d=>?_))
  .exact Jc E d
  refine Gc 6 Z (Bd d λY z d=>?_);refine vV (Qf z Z EN ES) ?_;refine vV (Qv Z Gi ES Z (Qi z) Z Z) ?_;exact au d
 exact au h
def J9(f:(AA CX)×Int)(k:Ui×Int)(d:(AA CD)×Int):AB (CG ((AA CD)×Int) (AA CD)):=(bif d.2<(AI f.1:Int) then AH (CJ f.1 d.2) λg=>AH (I7 n k.1 g) λh=>AH (app d.1 h) λj=>AC (.k (j,i64.wrap (d.2+1)))else AC (.d d.1))
def HE(g:CB)(h:CE)(j:AP)(k:AA CN)(m:AA Ae)(z:AA CF)(B:Int):AB ((AA CD)×Int):=AH (O9 n g h j k m z B) λq=>AH (LY n g h j q.Ba k m) λd=>AH ((bif (d.2 != 0)then AC (d.2 != 2)else AC AD):AB Bool) λE=>(bif E then AC ([],d.2)else AH (I1 n q) λf=>(bif (f.2 != 0)then AC ([],f.2)else(bif (d.2==2)then AH (KS n f.1) λt=>AC (t,0)else AH (iter (J9 n d f) n ([],0):AB (AA CD)) λx=>AH (I5 n x) λy=>AC (y,0))))
instance jM(B:CB)(E:CE)(F:AP)(G:AA CN)(J:AA Ae)(L:AA CF)(M:Int):Kq (HE n B E F G J L M) 6 [.a (CB.c B),.a (CE.c E),.a (AP.c F),.q 5 (map CN.c G),.q 4 (map Ae.c J),.q 4 (map CF.c L),I M] [] (λr=>.t [.o 0 (AI r.1) 4,I r.2]) (λr=>[.r 62 4 (map CD.c r.1)]):=by
 refine Kg 18 func6 Z Z Z Z λr h=>Cd [] h Kc Z λr1 W h=>Fg 13 Z Z (Cd [] h Kc Z λr2 X h=>Fg 9 Z Z (Bd h λm T h=>Ct m [4,5] [14,15,16,17] (λm=>[(45,.b m)]) Ze Zf ?_ (λenv H N=>?_)))
 .exact au T
 refine Gx 1 Z (Ef N (Cn Z h (λ_ h=>?_) (λ_ h=>?_)))
 .refine Gc 9 Z ?_;obtain rfl:=Oi h;refine R2 14 15 Z Z ?_;refine Eo (Et (s:=14) (k:=4) (t:=62) (XR Z) Z) ?_;exact Lr [2]
 refine Gc 5 Z (Cd [0] h Kc Z λr8 Y h=>Fg 9 Z Z (Cn Z h (λ_ h=>?_) (λ_ h=>?_)))
 .refine Gc 9 Z ?_;obtain rfl:=Oi h;refine R2 14 15 Z Z ?_;refine Eo (Et (s:=14) (k:=4) (t:=62) (XR Z) Z) ?_;exact Lr [2]
 refine Gc 9 Z (Cn Z h (λ_ h=>?_) (λ_ h=>?_))
 .exact au h
 refine Gc 10 Z (Bd h λg Q h=>Cg g [0] [] (λg=>[(14,.o 0 (AI g) 4)]) (λg=>[(0,.r 62 4 (map CD.c g))]) Zf ?_ ?_)
 .refine G0 1 Z (Lp [0,0,1] [55,56] (λf=>[(14,.o 0 (AI f.1) 4),(16,.p 1 0),(57,I f.2)]) (λf=>[(0,.r 62 4 (map CD.c f.1))]) Q Zf ?_ ?_)
  .refine Eo (Et (s:=14) (k:=4) (t:=62) (XR Z) Z) ?_;exact Lr [2,0,1]
  intro f aa d x;refine G0 6 Z (Q7 Z d (λ_ d=>?_) (λ_ d=>?_))
  .exact Jc x d
  refine Gc 6 Z (Bd d λR j d=>?_);refine vX (.p 2 (toNat f.2*2)) (Qf j Z GV GZ) ?_;refine vX (.a (CX.c R)) (Qv Z isAgg116 GZ Z (Qi j) Z Z) ?_;refine Go 8 Z (Cd [] d Kc Z λab V d=>FE Z (Bd d λac z d=>vH (Ql (e:=CD.c) z Jj EN (QE (i:=4))) ?_));exact au d
 refine Gc 3 Z ?_;refine Eu (Yo [(14,_),(67,_)] Z Z (Cy.cons Z Er (Cy.cons Z Er Cy.nil)) (Ec (QT _))) ?_;exact au h
def d5(n:Nat)(f:AA CD)(j:AA CD)(d:Int):AB (CG Int (CG Unit Bool)):=(bif d<(AI f:Int) then AH (CJ f d) λg=>AH (CJ j d) λh=>(bif (g != h)then AC (.d (.d AD))else AC (.k (i64.wrap (d+1))))else AC (.d (.k ())))
def L6(f:AA CD)(g:AA CD):AB Bool:=(bif ((AI f:Int) != (AI g:Int))then AC AD else AH (iter (d5 n f g) n 0:AB (CG Unit Bool)) λh=>match h with|.k d=>(AC AE)|.d d=>AC d)
instance xd(y:AA CD)(z:AA CD):Ks (L6 n y z) 10 [.q 4 (map CD.c y),.q 4 (map CD.c z)] [] (λr=>.b r):=by
 refine Kg 9 func10 Z Z Z Z λr h=>Lg 1 Z Z (Lg 3 Z Z (Cn Z h (λ_ h=>?_) (λ_ h=>?_)))
 .exact au h
 refine Gc 8 Z (Bd h λE F h=>D5 (b:=E) [] [] Ze Ze Zf ?_ (λ_ G=>?_))
 .refine G0 1 Z (Lp [] [0,1] (λk=>[(5,I k)]) Ze F Zf (Lr []) λk J d j=>(G0 5 Z (Lg 3 Z Z (Q7 Z d (λ_ d=>?_) (λ_ d=>?_)))))
  .exact Jc j d
  refine Gc 5 Z (DR 8 Z (D 2 Z ?_));obtain⟨f,q,d⟩:=QF d;refine DS.wo (x:=.rp [.b f.BQ,I f.Bh,I f.Lo,I f.Hi]) ?_ ?_
  .exact Ix q EN ES Z Wp
  refine D 3 Z ?_;obtain⟨g,t,d⟩:=QF d;refine DS.wo (x:=.rp [.b g.BQ,I g.Bh,I g.Lo,I g.Hi]) ?_ ?_
  .exact Ix t EN ES Z Wp
  refine D 1 Z (Eh Z (vV (rK oF Z Z) ?_));exact DV j d h
 subst G;exact au h
def Ki(f:Int)(g:AA Ae)(h:AA CF)(j:AA CD):AB Bool:=AH (eH n f) λk=>AH (ZS n) λt=>AH (HE n ({Ap:=[99],Au:=[{Ap:=[115],AY:=1:Am},{Ap:=[101],AY:=3:Am}],Az:=[{A':=0,To:=1,Bp:=10,Bq:=1000:Co}],AO:=k,A0:=[{Ap:=[119],B_:=0:A3}],Ab:=[],AV:=[],Ay:=[],BL:=[{UI with AY:=1,By:=4:AX}],AQ:=Uw,Bk:=0,Aw:=0:CB}) ({AS:=[],BN:=[[0]]:CE}) ({UH with BT:=1:AP}) [] g h (-1)) λd=>AH (AH (L6 n d.1 j) λm=>(bif m then AC (d.2==0)else AC AD):AB Bool) λq=>AC q
instance M9(d:Int)(f:AA Ae)(g:AA CF)(j:AA CD):Ks (Ki n d f g j) 11 [I d,.q 4 (map Ae.c f),.q 4 (map CF.c g),.q 4 (map CD.c j)] [] (λr=>.b r):=by
 refine Kg 8 func11 Z Z Z Z λr h=>Cd [] h Kc Z λt m h=>FE Z (Cd [] h Kc Z λx q h=>Fg 3 Z Z ?_);refine Eu (Yo [(13,_)] Z Z (Cy.cons Z (DM.agg (Ed (Ee _) (Ed Er (Ek _)))) Cy.nil) (Ec (Ec (Ec (Ec (Ec (Dh.cells (Ed (Ee _) (Ed Er (Ek _))) (QT _)))))))) (Eu (Yo [(13,_)] Z Z (Cy.cons Z (DM.agg (Ed (Ee _) (Ed (Ee _) (Ed Er (Ek _))))) Cy.nil) (Ec (Ec (Ec (Ec (Ec (Dh.cells (Ed (Ee _) (Ed (Ee _) (Ed Er (Ek _)))) (QT _)))))))) ?_);refine Eu (Yo [(13,_)] Z Z (Cy.cons Z (DM.agg (Ed (Ee _) (Ed (Ee _) (Ed (Ee _) (Ed Er (Ek _)))))) Cy.nil) (Ec (Ec (Ec (Ec (Ec (Dh.cells (Ed (Ee _) (Ed (Ee _) (Ed (Ee _) (Ed Er (Ek _))))) (QT _)))))))) ?_;refine Eu (Yo [(13,_)] Z Z (Cy.cons Z (DM.agg (Ed (Ee _) (Ed (Ee _) (Ed (Ee _) (Ed (Ee _) (Ed Er (Ek _))))))) Cy.nil) (Ec (Ec (Ec (Ec (Ec (Dh.cells (Ed (Ee _) (Ed (Ee _) (Ed (Ee _) (Ed (Ee _) (Ed Er (Ek _)))))) (QT _)))))))) (Eu (Yo [(13,_)] Z Z (Cy.cons Z (DM.agg (Ed (Ee _) (Ed (Ee _) (Ed (Ee _) (Ed (Ee _) (Ed (Ee _) (Ed (Ee _) (Ed (Ee _) (Ed (Ee _) (Ed Er (Ek _))))))))))) Cy.nil) (Ec (Ec (Ec (Ec (Ec (Dh.cells (Ed (Ee _) (Ed (Ee _) (Ed (Ee _) (Ed (Ee _) (Ed (Ee _) (Ed (Ee _) (Ed (Ee _) (Ed (Ee _) (Ed Er (Ek _)))))))))) (QT _)))))))) ?_);refine Eu (Yo [(14,_)] Z Z (Cy.cons Z (DM.agg (Ed (Ee _) (Ed Er (Ek _)))) Cy.nil) (Ec (Ec (Ec (Ec (Ec (Ec (Ec (Dh.cells (Ed (Ee _) (Ed Er (Ek _))) (QT _)))))))))) (Bd h λy k h=>?_);refine Qh [] (C6.fn call6 Z Z Z) (C.nils (FI.eq (FI.eq (FI.eq (FI.nl (FI.eq (FI.eq (FI.eq FI.nil))))))) ((jM _ _ _ _ _ _ _ _).c _ k)) ?_;rintro _ _ ⟨rfl,rfl⟩;exact au h
def MR(n:Nat):AB Unit:=AC ()
instance M8:Kq (MR n) 12 [] [] (λ_=>.o 0 ([{BT:=1,AT:=0,Lo:=0,Hi:=5:Ae},{BT:=1,AT:=1,Lo:=100,Hi:=101:Ae}].length) 4) (λ_=>[.r 91 4 (map Ae.c [{BT:=1,AT:=0,Lo:=0,Hi:=5:Ae},{BT:=1,AT:=1,Lo:=100,Hi:=101:Ae}])]):=KA func12
def PU(f:CE)(d:CD):AB Int:=AH (Iy n f) λg=>(bif (g != 0)then AC g else AH ((bif (-1)<=d.Bh then(bif d.Bh<(AI f.AS:Int) then(bif (-288230376151711744)<=d.Lo then(bif d.Lo<=d.Hi then AC (AG (d.Hi<=288230376151711744))else AC AD)else AC AD)else AC AD)else AC AD):AB Bool) λj=>AH ((bif d.BQ then AH (K6 n) λk=>AC (d==({BQ:=AE,Bh:=(-1),Lo:=0,Hi:=0:CD}))else AC j):AB Bool) λh=>(bif (!h)then AC 230 else AC 0))
instance aI(t:CE)(g:CD):Ks (PU n t g) 15 [.a (CE.c t),.a (CD.c g)] [] (λr=>I r):=by
 refine Kg 11 func15 Z Z Z Z λr h=>Cz [] h Kc Z λG E h=>Go 9 Z (Cn Z h (λ_ h=>?_) (λ_ h=>?_))
 .exact au h
 refine Gc 3 Z (Bd h λj B h=>Ct j [1] [3] (λj=>[(6,.b j)]) Ze Zf ?_ (λenv H z=>?_))
 .exact au B
 refine Gx 1 Z (Ef z (Gc 7 Z (Bd h λf d h=>Cg f [] [] (λf=>[(6,.b f)]) Ze Zf ?_ ?_)))
 .refine G0 0 Z (Cn Z d (λ_ d=>?_) (λ_ d=>?_))
  .refine HF 2 [1] [(0,0,1),(1,0,0)] (by kernel_rfl) ?_;refine JR (lo:=0) ⟨Z,trivial⟩ ?_;obtain⟨F,m,d⟩:=QF d;refine Ey (x:=.a [.b AE,I (-1),I 0,I 0]) (X1:=[.c 62 (CD.c g),.c 62 [.b AE,I (-1),I 0,I 0]]) ?_ ?_
   .refine Qh [] (C6.fn call44 Z Z Z) ((Wl _).c _ m) ?_;rintro _ _ ⟨rfl,rfl⟩;exact FE Z Wp
   refine DK.done Z Z ?_;refine vV (gm (p:=g) (q:={BQ:=AE,Bh:=(-1),Lo:=0,Hi:=0:CD}) oF Z Z) ?_;exact Gl 2 Z d []
  exact au d
 exact au h
def Wd(f:CE)(d:CD):AB (CK×Int):=AH (PU n f d) λg=>(bif (g != 0)then AC ({Lo:=0,Hi:=0:CK},g)else(bif d.BQ then AC ({Lo:=0,Hi:=0:CK},230)else AH (L1 n f d.Bh ({Lo:=d.Lo,Hi:=d.Hi:CK})) λh=>AC ({Lo:=h.Lo,Hi:=h.Hi:CK},0)))
instance aJ(d:CE)(f:CD):Kq (Wd n d f) 13 [.a (CE.c d),.a (CD.c f)] [] (λr=>.t [.a [I r.1.Lo,I r.1.Hi],I r.2]) (λr=>[.c 67 [I r.1.Lo,I r.1.Hi]]):=KA func13
abbrev HO:AA CD:=[{BQ:=AE,Bh:=(-1),Lo:=0,Hi:=0:CD},{BQ:=AD,Bh:=(-1),Lo:=100,Hi:=101:CD}]
abbrev C2:AA Ae:=[{BT:=1,AT:=0,Lo:=0,Hi:=5:Ae},{BT:=1,AT:=1,Lo:=100,Hi:=101:Ae}]
abbrev Pt:AA CD:=[{BQ:=AD,Bh:=1,Lo:=1,Hi:=2:CD},{BQ:=AD,Bh:=1,Lo:=3,Hi:=4:CD}]
abbrev HN:AA CD:=[{BQ:=AD,Bh:=(-1),Lo:=100,Hi:=101:CD}]
abbrev HM:AA CD:=[{BQ:=AD,Bh:=(-1),Lo:=160,Hi:=161:CD}]
abbrev D9:AA CD:=[{BQ:=AE,Bh:=(-1),Lo:=0,Hi:=0:CD}]
abbrev HL:AA CF:=[{UB with BQ:=AE:CF}]
abbrev HK:AA CF:=[{UB with Bb:=60:CF}]
abbrev JU:CE:={AS:=[],BN:=[[0]]:CE}
def U7:AB Bool:=AH (AH (Ki n 0 [] [] D9) λf=>(bif (!f)then AC AE else AH (MR n) λB=>AH (Ki n 0 C2 [] HN) λg=>(bif (!g)then AC AE else AH (MR n) λE=>AH (Ki n 0 C2 HL D9) λh=>(bif (!h)then AC AE else AH (MR n) λF=>AH (Ki n 100 C2 [] HO) λj=>(bif (!j)then AC AE else AH (MR n) λG=>AH (Ki n 0 C2 HK HM) λk=>AC (!k))))):AB Bool) λm=>(bif m then AC AD else AH (ZS n) λH=>AH (Wd n (JU) ({BQ:=AD,Bh:=(-1),Lo:=100,Hi:=101:CD})) λd=>AH (ZS n) λJ=>AH (Wd n (JU) ({BQ:=AE,Bh:=(-1),Lo:=0,Hi:=0:CD})) λq=>AH ((bif (({Lo:=d.1.Lo,Hi:=d.1.Hi:CK})==({Lo:=100,Hi:=101:CK}))then(bif (d.2==0)then(bif (q.2==230)then AH (ZS n) λL=>AH (PU n (JU) ({BQ:=AE,Bh:=(-1),Lo:=0,Hi:=0:CD})) λt=>(bif (t==0)then AH (ZS n) λM=>AH (PU n (JU) Uz) λx=>(bif (x==230)then AH (I5 n Pt) λy=>AC ((AI y:Int)==1)else AC AD)else AC AD)else AC AD)else AC AD)else AC AD):AB Bool) λz=>AC z)
instance uj:Ks (U7 n) 4 [] [] (λr=>.b r):=by
 refine Kg 28 func4 Z Z Z Z λr h=>Bd h λk g h=>Ct k [0,1] [1,2] (λk=>[(47,.b k)]) Ze Zf ?_ (λenv H ak=>?_)
 .refine G0 0 Z (HF 34 [5,12,21,29] [(0,0,0),(0,0,0),(0,0,0),(0,0,0),(0,0,0),(1,0,0),(0,0,1),(0,0,1),(0,1,1),(0,1,1),(0,1,1),(0,1,1),(1,1,0),(0,1,2),(0,1,2),(0,1,2),(0,1,2),(0,2,2),(0,2,2),(0,2,2),(0,2,2),(1,2,0),(0,2,3),(0,2,3),(0,2,3),(0,3,3),(0,3,3),(0,3,3),(0,3,3),(1,3,0),(0,3,4),(0,3,4),(0,3,4),(0,3,4)] (by kernel_rfl) (Dk 1 Z ?_));refine DK.wo (x:=.q 4 (map CD.c D9)) ?_ ?_
  .refine vH (QM (xs:=[.tmp 11]) (es:=map CD.c D9) Jj Z Z Z Z Z ⟨Z,trivial⟩ Z Z) ?_;refine aV (.q 4 (map CD.c D9)) [_,_,_] Z Z ?_;exact Wp
  obtain⟨E,L,g⟩:=QF g;refine DK.wo (x:=.b E) ?_ ?_
  .refine Qh [] (C6.fn call11 Z Z Z) (C.nils (FI.eq (FI.nl (FI.nl (FI.eq FI.nil)))) ((M9 _ _ _ _ _).c _ L)) ?_;rintro _ _ ⟨rfl,rfl⟩;refine aV (.b E) [_,_,_] Z Z ?_;exact Wp
  refine Dk 2 Z (DK.is 4 g Z Z Z (λ_ g=>?_) (λ_ g=>?_))
  .exact Dk 29 Z (DK.done Z Z (Gl 4 Z g [0,1]))
  .obtain⟨ao,N,g⟩:=QF g;refine Ey (x:=.o 3 (AI C2) 4) (X1:=[.c 62 [.b AE,I (-1),I 0,I 0],.c 62 [.b AD,I (-1),I 100,I 101],.c 62 [.b AD,I (-1),I 160,I 161],.r 91 4 (map Ae.c C2)]) ?_ ?_
   .refine Qh [] (C6.fn call12 Z Z Z) ((M8 _).c _ N) ?_ (hg:=(gT Z));rintro _ _ ⟨rfl,rfl⟩;refine aV (.o 3 (AI C2) 4) [_,_,_,.r 91 4 (map Ae.c C2)] Z Z ?_;exact Wp
   refine Wf (lo:=0) (hi:=1) (x:=.a [.b AD,I (-1),I 100,I 101]) ⟨Z,Z,trivial⟩ ?_;refine J4 (lo:=0) (hi:=1) (x:=.q 4 (map CD.c HN)) ⟨?_,?_,trivial⟩ ?_
   .refine vH (QM (xs:=[.tmp 17]) (es:=map CD.c HN) Jj Z Z Z Z Z ⟨Z,trivial⟩ Z Z) ?_ (gT Z);refine aV (.q 4 (map CD.c HN)) [_,_,_,_] Z Z ?_;exact Wp
   .refine vH (QM (xs:=[.tmp 17]) (es:=map CD.c HN) Jj Z Z Z Z Z ⟨Z,trivial⟩ Z Z) ?_ (gT Z);refine aV (.q 4 (map CD.c HN)) [_,_,_] Z Z ?_;exact Wp
   obtain⟨F,O,g⟩:=QF g;refine DK.wo (x:=.b F) ?_ ?_
   .refine ZI (C6.fn call11 rfl rfl rfl) (Dn.cons rfl (.inl ⟨rfl,rfl⟩) (Dn.cons rfl (.inr ⟨_,_,_,_,_,rfl,rfl,X2 ..,rfl⟩) (Dn.cons rfl (.inl ⟨rfl,rfl⟩) (Dn.cons rfl (.inl ⟨rfl,rfl⟩) Dn.nil)))) (C.nils (FI.eq (FI.eq (FI.nl (FI.eq FI.nil)))) ((M9 _ _ _ _ _).c _ O)) (by rintro _ _ ⟨rfl,rfl⟩;rfl) ?_ (gT rfl);rintro _ _ ⟨rfl,rfl⟩;refine aV (.b F) [_,_,_,_] Z Z ?_;exact Wp
   refine Dk 3 Z (DK.is 11 g Z Z Z (λ_ g=>?_) (λ_ g=>?_))
   .exact Dk 22 Z (DK.done Z Z (Gl 4 Z g [0,1]))
   .obtain⟨aq,Q,g⟩:=QF g;refine Ey (x:=.o 4 (AI C2) 4) (X1:=[.c 62 [.b AE,I (-1),I 0,I 0],.c 62 [.b AD,I (-1),I 100,I 101],.c 62 [.b AD,I (-1),I 160,I 161],.r 91 4 (map Ae.c C2),.r 91 4 (map Ae.c C2)]) ?_ ?_
    .refine Qh [] (C6.fn call12 Z Z Z) ((M8 _).c _ Q) ?_ (hg:=(gT Z));rintro _ _ ⟨rfl,rfl⟩;refine aV (.o 4 (AI C2) 4) [_,_,_,_,.r 91 4 (map Ae.c C2)] Z Z ?_;exact Wp
    refine Dk 1 Z ?_;refine J4 (lo:=1) (hi:=2) (x:=.q 4 (map CF.c HL)) ⟨?_,?_,trivial⟩ ?_
    .refine vH (QM (xs:=[.tmp 24]) (es:=map CF.c HL) Ik Z Z Z Z Z ⟨Z,trivial⟩ Z Z) ?_ (gT Z);refine aV (.q 4 (map CF.c HL)) [_,_,_,_,_] Z Z ?_;exact Wp
    .refine vH (QM (xs:=[.tmp 24]) (es:=map CF.c HL) Ik Z Z Z Z Z ⟨Z,trivial⟩ Z Z) ?_ (gT Z);refine aV (.q 4 (map CF.c HL)) [_,_,_,_] Z Z ?_;exact Wp
    refine Wf (lo:=1) (hi:=2) (x:=.a [.b AE,I (-1),I 0,I 0]) ⟨Z,Z,trivial⟩ ?_;refine J4 (lo:=1) (hi:=2) (x:=.q 4 (map CD.c D9)) ⟨?_,?_,trivial⟩ ?_
    .refine vH (QM (xs:=[.tmp 26]) (es:=map CD.c D9) Jj Z Z Z Z Z ⟨Z,trivial⟩ Z Z) ?_ (gT Z);refine aV (.q 4 (map CD.c D9)) [_,_,_,_,_] Z Z ?_;exact Wp
    .refine vH (QM (xs:=[.tmp 26]) (es:=map CD.c D9) Jj Z Z Z Z Z ⟨Z,trivial⟩ Z Z) ?_ (gT Z);refine aV (.q 4 (map CD.c D9)) [_,_,_,_] Z Z ?_;exact Wp
    obtain⟨G,R,g⟩:=QF g;refine DK.wo (x:=.b G) ?_ ?_
    .refine ZI (C6.fn call11 rfl rfl rfl) (Dn.cons rfl (.inl ⟨rfl,rfl⟩) (Dn.cons rfl (.inr ⟨_,_,_,_,_,rfl,rfl,X2 ..,rfl⟩) (Dn.cons rfl (.inl ⟨rfl,rfl⟩) (Dn.cons rfl (.inl ⟨rfl,rfl⟩) Dn.nil)))) ((M9 _ _ _ _ _).c _ R) (by rintro _ _ ⟨rfl,rfl⟩;rfl) ?_ (gT rfl);rintro _ _ ⟨rfl,rfl⟩;refine aV (.b G) [_,_,_,_,_] Z Z ?_;exact Wp
    refine Dk 3 Z (DK.is 20 g Z Z Z (λ_ g=>?_) (λ_ g=>?_))
    .exact Dk 13 Z (DK.done Z Z (Gl 4 Z g [0,1]))
    .obtain⟨ar,V,g⟩:=QF g;refine Ey (x:=.o 5 (AI C2) 4) (X1:=[.c 62 [.b AE,I (-1),I 0,I 0],.c 62 [.b AD,I (-1),I 100,I 101],.c 62 [.b AD,I (-1),I 160,I 161],.r 91 4 (map Ae.c C2),.r 91 4 (map Ae.c C2),.r 91 4 (map Ae.c C2)]) ?_ ?_
     .refine Qh [] (C6.fn call12 Z Z Z) ((M8 _).c _ V) ?_ (hg:=(gT Z));rintro _ _ ⟨rfl,rfl⟩;refine aV (.o 5 (AI C2) 4) [_,_,_,_,_,.r 91 4 (map Ae.c C2)] Z Z ?_;exact Wp
     refine Wf (lo:=2) (hi:=3) (x:=.a [.b AE,I (-1),I 0,I 0]) ⟨Z,Z,trivial⟩ ?_;refine Wf (lo:=2) (hi:=3) (x:=.a [.b AD,I (-1),I 100,I 101]) ⟨Z,Z,trivial⟩ ?_;refine J4 (lo:=2) (hi:=3) (x:=.q 4 (map CD.c HO)) ⟨?_,?_,trivial⟩ ?_
     .refine vH (QM (xs:=[.tmp 33,.tmp 34]) (es:=map CD.c HO) Jj Z Z Z Z Z ⟨Z,Z,trivial⟩ Z Z) ?_ (gT Z);refine aV (.q 4 (map CD.c HO)) [_,_,_,_,_,_] Z Z ?_;exact Wp
     .refine vH (QM (xs:=[.tmp 33,.tmp 34]) (es:=map CD.c HO) Jj Z Z Z Z Z ⟨Z,Z,trivial⟩ Z Z) ?_ (gT Z);refine aV (.q 4 (map CD.c HO)) [_,_,_,_,_] Z Z ?_;exact Wp
     obtain⟨J,W,g⟩:=QF g;refine DK.wo (x:=.b J) ?_ ?_
     .refine ZI (C6.fn call11 rfl rfl rfl) (Dn.cons rfl (.inl ⟨rfl,rfl⟩) (Dn.cons rfl (.inr ⟨_,_,_,_,_,rfl,rfl,X2 ..,rfl⟩) (Dn.cons rfl (.inl ⟨rfl,rfl⟩) (Dn.cons rfl (.inl ⟨rfl,rfl⟩) Dn.nil)))) (C.nils (FI.eq (FI.eq (FI.nl (FI.eq FI.nil)))) ((M9 _ _ _ _ _).c _ W)) (by rintro _ _ ⟨rfl,rfl⟩;rfl) ?_ (gT rfl);rintro _ _ ⟨rfl,rfl⟩;refine aV (.b J) [_,_,_,_,_,_] Z Z ?_;exact Wp
     refine Dk 3 Z (DK.is 28 g Z Z Z (λ_ g=>?_) (λ_ g=>?_))
     .exact Dk 5 Z (DK.done Z Z (Gl 4 Z g [0,1]))
     .obtain⟨av,Y,g⟩:=QF g;refine Ey (x:=.o 6 (AI C2) 4) (X1:=[.c 62 [.b AE,I (-1),I 0,I 0],.c 62 [.b AD,I (-1),I 100,I 101],.c 62 [.b AD,I (-1),I 160,I 161],.r 91 4 (map Ae.c C2),.r 91 4 (map Ae.c C2),.r 91 4 (map Ae.c C2),.r 91 4 (map Ae.c C2)]) ?_ ?_
      .refine Qh [] (C6.fn call12 Z Z Z) ((M8 _).c _ Y) ?_ (hg:=(gT Z));rintro _ _ ⟨rfl,rfl⟩;refine aV (.o 6 (AI C2) 4) [_,_,_,_,_,_,.r 91 4 (map Ae.c C2)] Z Z ?_;exact Wp
      refine Dk 1 Z ?_;refine J4 (lo:=3) (hi:=4) (x:=.q 4 (map CF.c HK)) ⟨?_,?_,trivial⟩ ?_
      .refine vH (QM (xs:=[.tmp 41]) (es:=map CF.c HK) Ik Z Z Z Z Z ⟨Z,trivial⟩ Z Z) ?_ (gT Z);refine aV (.q 4 (map CF.c HK)) [_,_,_,_,_,_,_] Z Z ?_;exact Wp
      .refine vH (QM (xs:=[.tmp 41]) (es:=map CF.c HK) Ik Z Z Z Z Z ⟨Z,trivial⟩ Z Z) ?_ (gT Z);refine aV (.q 4 (map CF.c HK)) [_,_,_,_,_,_] Z Z ?_;exact Wp
      refine Wf (lo:=3) (hi:=4) (x:=.a [.b AD,I (-1),I 160,I 161]) ⟨Z,Z,trivial⟩ ?_;refine J4 (lo:=3) (hi:=4) (x:=.q 4 (map CD.c HM)) ⟨?_,?_,trivial⟩ ?_
      .refine vH (QM (xs:=[.tmp 43]) (es:=map CD.c HM) Jj Z Z Z Z Z ⟨Z,trivial⟩ Z Z) ?_ (gT Z);refine aV (.q 4 (map CD.c HM)) [_,_,_,_,_,_,_] Z Z ?_;exact Wp
      .refine vH (QM (xs:=[.tmp 43]) (es:=map CD.c HM) Jj Z Z Z Z Z ⟨Z,trivial⟩ Z Z) ?_ (gT Z);refine aV (.q 4 (map CD.c HM)) [_,_,_,_,_,_] Z Z ?_;exact Wp
      exact DK.done Z Z (Cb g Kc Z (ls (lo (ls (ls ln)))) λaw an g=>Gl 3 Z g [0,1])
 refine Gx 1 Z (Ef ak (Cn Z h (λ_ h=>?_) (λ_ h=>?_)))
 .exact au h
 refine Gc 3 Z ?_;obtain⟨ax,m,h⟩:=QF h;obtain⟨d,t,h⟩:=QF h;refine Yu 8 1 [49,50,51,48,52,53,4,1000007] [AE,AD,AE,AD,AD,AD,AE,AE] [[],[],[0],[0,2],[0,2],[0,2],[],[0,2,6]] [[],[0],[6],[0,2],[0,6],[0,2,6],[0,2,6,7]] [[(0,1),(2,4)],[(0,0),(1,1),(2,2),(4,4)],[(1,3),(4,5)],[(3,3),(5,5)],[(3,3),(5,5)],[(3,3),(5,5),(6,6)],[(0,2),(1,4),(3,5)],[(5,6)]] [.a [.q 3 (map CC.c []),.q 1 (map (Qx 1 (Qe .i64)) [[0]])],.a [.b AD,I (-1),I 100,I 101],.t [.a [I d.1.Lo,I d.1.Hi],I d.2],.t [.a [I d.1.Lo,I d.1.Hi],I d.2],.a [I d.1.Lo,I d.1.Hi],I d.2,.p 2 0,.any] [[.c 62 [.b AE,I (-1),I 0,I 0],.c 62 [.b AD,I (-1),I 100,I 101],.dead],[.c 62 [.b AE,I (-1),I 0,I 0],.c 62 [.b AD,I (-1),I 100,I 101],.dead,.dead,.c 39 [.q 3 (map CC.c []),.q 1 (map (Qx 1 (Qe .i64)) [[0]])]],[.c 62 [.b AE,I (-1),I 0,I 0],.c 62 [.b AD,I (-1),I 100,I 101],.c 67 [I 0,I 0]],[.c 62 [.b AE,I (-1),I 0,I 0],.c 62 [.b AD,I (-1),I 100,I 101],.dead,.dead,.c 39 [.q 3 (map CC.c []),.q 1 (map (Qx 1 (Qe .i64)) [[0]])],.c 67 [I d.1.Lo,I d.1.Hi]],[.c 62 [.b AE,I (-1),I 0,I 0],.c 62 [.b AD,I (-1),I 100,I 101],.c 67 [I 0,I 0],.dead,.c 39 [.q 3 (map CC.c []),.q 1 (map (Qx 1 (Qe .i64)) [[0]])]],[.c 62 [.b AE,I (-1),I 0,I 0],.c 62 [.b AD,I (-1),I 100,I 101],.c 67 [I 0,I 0],.dead,.c 39 [.q 3 (map CC.c []),.q 1 (map (Qx 1 (Qe .i64)) [[0]])],.c 67 [I d.1.Lo,I d.1.Hi]],[.c 62 [.b AE,I (-1),I 0,I 0],.c 62 [.b AD,I (-1),I 100,I 101],.c 67 [I d.1.Lo,I d.1.Hi],.dead,.c 39 [.q 3 (map CC.c []),.q 1 (map (Qx 1 (Qe .i64)) [[0]])],.c 67 [I d.1.Lo,I d.1.Hi]]] ([.c 62 [.b AE,I (-1),I 0,I 0],.c 62 [.b AD,I (-1),I 100,I 101],.c 67 [I d.1.Lo,I d.1.Hi],.dead,.c 39 [.q 3 (map CC.c []),.q 1 (map (Qx 1 (Qe .i64)) [[0]])],.c 67 [I d.1.Lo,I d.1.Hi]]) C' Z Z Z Z Z Z Z ?_ Z ?_
 .refine CL.cons ?_ (CL.cons (Qa (v0 Z Z) (Qa (v0 Z Z) (Qa (v0 Z Z) (Qa (v0 Z Z) (Qc))))) (CL.cons ?_ (CL.cons (Qa (v0 Z Z) (Qa (v0 Z Z) (Qc))) (CL.cons (Qa (v0 Z Z) (Qa (v0 Z Z) (Qc))) (CL.cons (Qa (v0 Z Z) (Qa (v0 Z Z) (Qa (v0 Z Z) (Qc)))) (CL.cons ?_ (CL.cons ?_ (CL.nil))))))))
  .refine Qa ?_ (Qa ?_ (Qc))
   iterate 2 refine Fu Z sN ?_;refine Qh [] (C6.fn call14 Z Z Z) ((fP _).c _ m) ?_;rintro _ _ ⟨rfl,rfl⟩;refine aV (.a [.q 3 (map CC.c []),.o 3 ([[0]].length) 1]) [_,_,_,.r 114 1 (map (Qx 1 (Qe .i64)) [[0]]),.c 39 [.q 3 (map CC.c []),.o 3 ([[0]].length) 1]] Z Z ?_;refine Eu (Yo [(49,_)] Z Z (Cy.cons Z (DM.agg (Ed (Ee _) (Ed Er (Ek _)))) Cy.nil) (Ec (Ec (Ec (Ec (Dh.cells (Ed (Ee _) (Ed Er (Ek _))) (QT _))))))) ?_;refine Eu Sd ?_;exact Wp
  .refine Qa ?_ (Qa ?_ (Qc))
   iterate 2 refine Fu Z (sD 0 (sD 1 sN)) ?_;refine Qh [] (C6.fn call13 Z Z Z) ((aJ _ _ _).c _ t) ?_;rintro _ _ ⟨rfl,rfl⟩;refine aV (.t [.a [I d.1.Lo,I d.1.Hi],I d.2]) [_,_,_,_,_,.c 67 [I d.1.Lo,I d.1.Hi]] Z Z ?_;exact Wp
  .refine Qa ?_ (Qa ?_ (Qa ?_ (Qc)))
   iterate 3 exact Jk.alloc _ 4 67 2 _ Z Z Z Z Z Z Z (Im.alloc (v:=(.a [I 0,I 0])) EJ (Fh Z)) Z
  .refine Qa ?_ (Qc)
   .refine Sh Z (sD 6 (sD 4 sN)) ?_;refine vU (Ez Z Z Z Gf Z Z Z Z Z Z Z) ?_;refine NU (H:=[_,_,.c 67 [I d.1.Lo,I d.1.Hi],_,_,_]) Z ?_;exact Wp
 refine Go 4 Z ?_;obtain⟨ay,y,h⟩:=QF h;obtain⟨f,z,h⟩:=QF h;refine Yu 8 1 [55,56,57,54,58,59,6,1000007] [AE,AD,AE,AD,AD,AD,AE,AE] [[],[],[0],[0,2],[0,2],[0,2],[],[0,2,6]] [[],[0],[6],[0,2],[0,6],[0,2,6],[0,2,6,7]] [[(0,1),(2,4)],[(0,0),(1,1),(2,2),(4,4)],[(1,3),(4,5)],[(3,3),(5,5)],[(3,3),(5,5)],[(3,3),(5,5),(6,6)],[(0,2),(1,4),(3,5)],[(5,6)]] [.a [.q 3 (map CC.c []),.q 1 (map (Qx 1 (Qe .i64)) [[0]])],.a [.b AE,I (-1),I 0,I 0],.t [.a [I f.1.Lo,I f.1.Hi],I f.2],.t [.a [I f.1.Lo,I f.1.Hi],I f.2],.a [I f.1.Lo,I f.1.Hi],I f.2,.p 6 0,.any] [[.c 62 [.b AE,I (-1),I 0,I 0],.c 62 [.b AD,I (-1),I 100,I 101],.c 67 [I d.1.Lo,I d.1.Hi],.dead,.c 39 [.q 3 (map CC.c []),.q 1 (map (Qx 1 (Qe .i64)) [[0]])],.c 67 [I d.1.Lo,I d.1.Hi],.dead],[.c 62 [.b AE,I (-1),I 0,I 0],.c 62 [.b AD,I (-1),I 100,I 101],.c 67 [I d.1.Lo,I d.1.Hi],.dead,.c 39 [.q 3 (map CC.c []),.q 1 (map (Qx 1 (Qe .i64)) [[0]])],.c 67 [I d.1.Lo,I d.1.Hi],.dead,.dead,.c 39 [.q 3 (map CC.c []),.q 1 (map (Qx 1 (Qe .i64)) [[0]])]],[.c 62 [.b AE,I (-1),I 0,I 0],.c 62 [.b AD,I (-1),I 100,I 101],.c 67 [I d.1.Lo,I d.1.Hi],.dead,.c 39 [.q 3 (map CC.c []),.q 1 (map (Qx 1 (Qe .i64)) [[0]])],.c 67 [I d.1.Lo,I d.1.Hi],.c 67 [I 0,I 0]],[.c 62 [.b AE,I (-1),I 0,I 0],.c 62 [.b AD,I (-1),I 100,I 101],.c 67 [I d.1.Lo,I d.1.Hi],.dead,.c 39 [.q 3 (map CC.c []),.q 1 (map (Qx 1 (Qe .i64)) [[0]])],.c 67 [I d.1.Lo,I d.1.Hi],.dead,.dead,.c 39 [.q 3 (map CC.c []),.q 1 (map (Qx 1 (Qe .i64)) [[0]])],.c 67 [I f.1.Lo,I f.1.Hi]],[.c 62 [.b AE,I (-1),I 0,I 0],.c 62 [.b AD,I (-1),I 100,I 101],.c 67 [I d.1.Lo,I d.1.Hi],.dead,.c 39 [.q 3 (map CC.c []),.q 1 (map (Qx 1 (Qe .i64)) [[0]])],.c 67 [I d.1.Lo,I d.1.Hi],.c 67 [I 0,I 0],.dead,.c 39 [.q 3 (map CC.c []),.q 1 (map (Qx 1 (Qe .i64)) [[0]])]],[.c 62 [.b AE,I (-1),I 0,I 0],.c 62 [.b AD,I (-1),I 100,I 101],.c 67 [I d.1.Lo,I d.1.Hi],.dead,.c 39 [.q 3 (map CC.c []),.q 1 (map (Qx 1 (Qe .i64)) [[0]])],.c 67 [I d.1.Lo,I d.1.Hi],.c 67 [I 0,I 0],.dead,.c 39 [.q 3 (map CC.c []),.q 1 (map (Qx 1 (Qe .i64)) [[0]])],.c 67 [I f.1.Lo,I f.1.Hi]],[.c 62 [.b AE,I (-1),I 0,I 0],.c 62 [.b AD,I (-1),I 100,I 101],.c 67 [I d.1.Lo,I d.1.Hi],.dead,.c 39 [.q 3 (map CC.c []),.q 1 (map (Qx 1 (Qe .i64)) [[0]])],.c 67 [I d.1.Lo,I d.1.Hi],.c 67 [I f.1.Lo,I f.1.Hi],.dead,.c 39 [.q 3 (map CC.c []),.q 1 (map (Qx 1 (Qe .i64)) [[0]])],.c 67 [I f.1.Lo,I f.1.Hi]]] ([.c 62 [.b AE,I (-1),I 0,I 0],.c 62 [.b AD,I (-1),I 100,I 101],.c 67 [I d.1.Lo,I d.1.Hi],.dead,.c 39 [.q 3 (map CC.c []),.q 1 (map (Qx 1 (Qe .i64)) [[0]])],.c 67 [I d.1.Lo,I d.1.Hi],.c 67 [I f.1.Lo,I f.1.Hi],.dead,.c 39 [.q 3 (map CC.c []),.q 1 (map (Qx 1 (Qe .i64)) [[0]])],.c 67 [I f.1.Lo,I f.1.Hi]]) C' Z Z Z Z Z Z Z ?_ Z ?_
 .refine CL.cons ?_ (CL.cons (Qa (v0 Z Z) (Qa (v0 Z Z) (Qa (v0 Z Z) (Qa (v0 Z Z) (Qc))))) (CL.cons ?_ (CL.cons (Qa (v0 Z Z) (Qa (v0 Z Z) (Qc))) (CL.cons (Qa (v0 Z Z) (Qa (v0 Z Z) (Qc))) (CL.cons (Qa (v0 Z Z) (Qa (v0 Z Z) (Qa (v0 Z Z) (Qc)))) (CL.cons ?_ (CL.cons ?_ (CL.nil))))))))
  .refine Qa ?_ (Qa ?_ (Qc))
   iterate 2 refine Fu Z sN ?_;refine Qh [] (C6.fn call14 Z Z Z) ((fP _).c _ y) ?_;rintro _ _ ⟨rfl,rfl⟩;refine aV (.a [.q 3 (map CC.c []),.o 7 ([[0]].length) 1]) [_,_,_,_,_,_,_,.r 114 1 (map (Qx 1 (Qe .i64)) [[0]]),.c 39 [.q 3 (map CC.c []),.o 7 ([[0]].length) 1]] Z Z ?_;refine Eu (Yo [(55,_)] Z Z (Cy.cons Z (DM.agg (Ed (Ee _) (Ed Er (Ek _)))) Cy.nil) (Ec (Ec (Ec (Ec (Ec (Ec (Ec (Ec (Dh.cells (Ed (Ee _) (Ed Er (Ek _))) (QT _))))))))))) ?_;refine Eu Sd ?_;exact Wp
  .refine Qa ?_ (Qa ?_ (Qc))
   iterate 2 refine Fu Z (sD 0 (sD 1 sN)) ?_;refine Qh [] (C6.fn call13 Z Z Z) ((aJ _ _ _).c _ z) ?_;rintro _ _ ⟨rfl,rfl⟩;refine aV (.t [.a [I f.1.Lo,I f.1.Hi],I f.2]) [_,_,_,_,_,_,_,_,_,.c 67 [I f.1.Lo,I f.1.Hi]] Z Z ?_;exact Wp
  .refine Qa ?_ (Qa ?_ (Qa ?_ (Qc)))
   iterate 3 exact Jk.alloc _ 6 67 6 _ Z Z Z Z Z Z Z (Im.alloc (v:=(.a [I 0,I 0])) EJ (Fh Z)) Z
  .refine Qa ?_ (Qc)
   .refine Sh Z (sD 6 (sD 4 sN)) ?_;refine vU (Ez Z Z Z Gf Z Z Z Z Z Z Z) ?_;refine NU (H:=[_,_,_,_,_,_,.c 67 [I f.1.Lo,I f.1.Hi],_,_,_]) Z ?_;exact Wp
 refine Go 4 Z (Bd h λB j h=>Cg B [] [] (λB=>[(0,.b B)]) Ze Zf ?_ ?_)
 .refine G0 0 Z (HF 26 [12,18] [(0,0,0),(0,0,0),(0,0,0),(0,0,0),(0,0,0),(0,0,0),(0,0,0),(0,0,0),(0,0,0),(0,0,0),(0,0,0),(0,0,0),(1,0,0),(0,0,1),(0,1,1),(0,1,1),(0,1,1),(0,1,1),(1,1,0),(0,1,2),(0,2,2),(0,2,2),(0,2,2),(0,2,2),(0,2,2),(0,2,2)] (by kernel_rfl) (Dk 2 Z ?_));refine DK.wo (x:=.b (({Lo:=d.1.Lo,Hi:=d.1.Hi:CK})==({Lo:=100,Hi:=101:CK}))) ?_ ?_
  .refine vX (.b (({Lo:=d.1.Lo,Hi:=d.1.Hi:CK})==({Lo:=100,Hi:=101:CK}))) (gm (p:={Lo:=d.1.Lo,Hi:=d.1.Hi:CK}) (q:={Lo:=100,Hi:=101:CK}) _C Z Z) ?_;exact Wp
  refine Dk 1 Z (DK.is 3 j Z Z Z (λ_ j=>?_) (λ_ j=>?_))
  .refine Dk 4 Z (DK.is 7 j Z Z Z (λ_ j=>?_) (λ_ j=>?_))
   .refine Dk 4 Z (DK.is 11 j Z Z Z (λ_ j=>?_) (λ_ j=>?_))
    .obtain⟨az,ae,j⟩:=QF j;refine Ey (x:=.a [.q 3 (map CC.c []),.q 1 (map (Qx 1 (Qe .i64)) [[0]])]) (X1:=[.c 62 [.b AE,I (-1),I 0,I 0],.c 62 [.b AD,I (-1),I 100,I 101],.c 67 [I d.1.Lo,I d.1.Hi],.dead,.c 39 [.q 3 (map CC.c []),.q 1 (map (Qx 1 (Qe .i64)) [[0]])],.c 67 [I d.1.Lo,I d.1.Hi],.c 67 [I f.1.Lo,I f.1.Hi],.dead,.c 39 [.q 3 (map CC.c []),.q 1 (map (Qx 1 (Qe .i64)) [[0]])],.c 67 [I f.1.Lo,I f.1.Hi],.dead,.c 39 [.q 3 (map CC.c []),.q 1 (map (Qx 1 (Qe .i64)) [[0]])]]) ?_ ?_
     .refine Qh [] (C6.fn call14 Z Z Z) ((fP _).c _ ae) ?_ (hg:=(gT Z));rintro _ _ ⟨rfl,rfl⟩;refine aV (.a [.q 3 (map CC.c []),.o 10 ([[0]].length) 1]) [_,_,_,_,_,_,_,_,_,_,.r 114 1 (map (Qx 1 (Qe .i64)) [[0]]),.c 39 [.q 3 (map CC.c []),.o 10 ([[0]].length) 1]] Z Z ?_;refine Eu (Yo [(72,_)] Z Z (Cy.cons Z (DM.agg (Ed (Ee _) (Ed Er (Ek _)))) Cy.nil) (Ec (Ec (Ec (Ec (Ec (Ec (Ec (Ec (Ec (Ec (Ec (Dh.cells (Ed (Ee _) (Ed Er (Ek _))) (QT _)))))))))))))) ?_;refine Eu Sd ?_;exact Wp
     refine Wf (lo:=0) (hi:=1) (x:=.a [.b AE,I (-1),I 0,I 0]) ⟨Z,Z,trivial⟩ ?_;obtain⟨al,af,j⟩:=QF j;refine DK.wo (x:=I al) ?_ ?_
     .exact Pc [] Z (C6.fn call15 Z Z Z) ((aI _ _ _).c _ af) (hg:=(gT Z)) Z Wp
     refine Dk 3 Z (DK.is 17 j Z Z Z (λ_ j=>?_) (λ_ j=>?_))
     .obtain⟨ba,ah,j⟩:=QF j;refine Ey (x:=.a [.q 3 (map CC.c []),.q 1 (map (Qx 1 (Qe .i64)) [[0]])]) (X1:=[.c 62 [.b AE,I (-1),I 0,I 0],.c 62 [.b AD,I (-1),I 100,I 101],.c 67 [I d.1.Lo,I d.1.Hi],.dead,.c 39 [.q 3 (map CC.c []),.q 1 (map (Qx 1 (Qe .i64)) [[0]])],.c 67 [I d.1.Lo,I d.1.Hi],.c 67 [I f.1.Lo,I f.1.Hi],.dead,.c 39 [.q 3 (map CC.c []),.q 1 (map (Qx 1 (Qe .i64)) [[0]])],.c 67 [I f.1.Lo,I f.1.Hi],.dead,.c 39 [.q 3 (map CC.c []),.q 1 (map (Qx 1 (Qe .i64)) [[0]])],.dead,.c 39 [.q 3 (map CC.c []),.q 1 (map (Qx 1 (Qe .i64)) [[0]])]]) ?_ ?_
      .refine Qh [] (C6.fn call14 Z Z Z) ((fP _).c _ ah) ?_ (hg:=(gT Z));rintro _ _ ⟨rfl,rfl⟩;refine aV (.a [.q 3 (map CC.c []),.o 12 ([[0]].length) 1]) [_,_,_,_,_,_,_,_,_,_,_,_,.r 114 1 (map (Qx 1 (Qe .i64)) [[0]]),.c 39 [.q 3 (map CC.c []),.o 12 ([[0]].length) 1]] Z Z ?_;refine Eu (Yo [(78,_)] Z Z (Cy.cons Z (DM.agg (Ed (Ee _) (Ed Er (Ek _)))) Cy.nil) (Ec (Ec (Ec (Ec (Ec (Ec (Ec (Ec (Ec (Ec (Ec (Ec (Ec (Dh.cells (Ed (Ee _) (Ed Er (Ek _))) (QT _)))))))))))))))) ?_;refine Eu Sd ?_;exact Wp
      refine Dk 1 Z ?_;obtain⟨am,ai,j⟩:=QF j;refine DK.wo (x:=I am) ?_ ?_
      .exact Pc [] Z (C6.fn call15 Z Z Z) ((aI _ _ _).c _ ai) (hg:=(gT Z)) Z Wp
      refine Dk 3 Z (DK.is 23 j Z Z Z (λ_ j=>?_) (λ_ j=>?_))
      .refine Dk 2 Z (DK.done Z Z ?_);refine vH (QM (xs:=[.tmp 84,.tmp 85]) (es:=map CD.c Pt) Jj Z Z Z Z Z ⟨Z,Z,trivial⟩ Z Z) ?_ (gT Z);exact au j
      .exact Dk 2 Z (DK.done Z Z (Gl 7 Z j []))
     .exact Dk 8 Z (DK.done Z Z (Gl 7 Z j []))
    .exact Dk 14 Z (DK.done Z Z (Gl 7 Z j []))
   .exact Dk 18 Z (DK.done Z Z (Gl 7 Z j []))
  .exact Dk 22 Z (DK.done Z Z (Gl 7 Z j []))
 exact au h
def Lq(n:Nat)(f:AA CH)(rec213:(AA CH)->AB Int)(d:Int×Int):AB (CG (Int×Int) Int):=AH ((bif d.2<(AI f:Int) then AC (AG (d.1<=256))else AC AD):AB Bool) λg=>(bif g then AH (CJ f d.2) λh=>AH (rec213 h.Ac) λj=>AC (.k (i64.wrap (d.1+j),i64.wrap (d.2+1)))else AC (.d d.1))
def Wh(rec213:(AA CH)->AB Int)(n:Nat)(f:AA CH):AB Int:=AH (iter (Lq n f rec213) n ((AI f:Int),0):AB Int) λd=>AC (if 257<d then 257 else d)
theorem Qbi(rec213:(AA CH)->AB Int)(x:∀(f:AA CH),Ks (rec213 f) 55 [.q 3 (map CH.enc f)] [] (λr=>I r))(n:Nat)(f:AA CH):Ks (Wh rec213 n f) 55 [.q 3 (map CH.enc f)] [] (λr=>I r):=by
 refine Kg 8 func55 Z Z Z Z λr h=>Lg 9 Z Z (Bd h λg y h=>Cg g [] [] (λg=>[(3,I g)]) Ze Zf ?_ ?_)
 .refine G0 1 Z (Lp [] [0] (λj=>[(3,I j.1),(4,I j.2)]) Ze y Zf (Lr []) λj F d m=>?_);refine G0 2 Z (Bd d λk z d=>Cg k [] [0,3,4] (λk=>[(14,.b k)]) Ze Zf ?_ ?_)
  .exact au z
  refine Q7 Z d (λ_ d=>?_) (λ_ d=>?_)
  .exact Jc m d
  exact Gc 8 Z (Bd d λB t d=>FJ t (QL B) Z (Go 2 Z (Cz [] d Kc Z λG E d=>Go 10 Z (Q1 d (Lr [])))))
 exact au h
def JO:Nat->(AA CH)->AB Int
  |0=>λ_=>AF
  |n+1=>Wh (JO n) n
instance yd:∀(d:AA CH),Ks (JO n d) 55 [.q 3 (map CH.enc d)] [] (λr=>I r):=by
  induction n with
  |zero=>exact λ_=>⟨nofun⟩
  |succ n ih=>exact Qbi _ ih n
def KO(n:Nat)(g:AA CH)(h:Int)(rec214:(AA CH)->Int->AB Int)(d:Int×Int):AB (CG (Int×Int) Int):=AH ((bif d.2<(AI g:Int) then AC (AG (0<h))else AC AD):AB Bool) λj=>(bif j then AH (CJ g d.2) λk=>AH ((bif ((AI k.Ac:Int) != 0)then AH (CJ g d.2) λm=>AH (rec214 m.Ac (i64.wrap (h-1))) λf=>AC (if d.1<i64.wrap (1+f)then i64.wrap (1+f)else d.1)else AC d.1):AB Int) λq=>AC (.k (q,i64.wrap (d.2+1)))else AC (.d d.1))
def iI(rec214:(AA CH)->Int->AB Int)(n:Nat)(f:AA CH)(g:Int):AB Int:=AH (iter (KO n f g rec214) n (0,0):AB Int) λd=>AC d
theorem Qbh(rec214:(AA CH)->Int->AB Int)(G:∀(g:AA CH) (j:Int),Ks (rec214 g j) 56 [.q 3 (map CH.enc g),I j] [] (λr=>I r))(n:Nat)(g:AA CH)(j:Int):Ks (iI rec214 n g j) 56 [.q 3 (map CH.enc g),I j] [] (λr=>I r):=by
 refine Kg 16 func56 Z Z Z Z λr h=>Bd h λk J h=>Cg k [] [] (λk=>[(5,I k)]) Ze Zf ?_ ?_
 .refine G0 1 Z (Lp [] [0,1] (λm=>[(5,I m.1),(6,I m.2)]) Ze J Zf (Lr []) λm P d y=>?_);refine G0 2 Z (Bd d λq L d=>Ct q [] [0,1,5,6] (λq=>[(14,.b q)]) Ze Zf ?_ (λenv H t=>?_))
  .exact au L
  refine Gx 1 Z (Ef t (Q7 Z d (λ_ d=>?_) (λ_ d=>?_)))
  .exact Jc y d
  refine Gc 8 Z (Bd d λM B d=>FJ B (QL M) Z (Go 2 Z (Lg 3 Z Z (Bd d λx f d=>Ct x [] [0,1,6] (λx=>[(5,I x)]) Ze Zf ?_ (λenv H t=>?_)))))
  .refine G0 0 Z (Cn Z f (λ_ f=>?_) (λ_ f=>?_))
   .refine Gc 4 Z (Bd f λN F f=>FJ F (QL N) Z (Go 4 Z (Cz [] f Kc Z λQ O f=>Go 1 Z ?_)));exact au f
   exact au f
  exact Gx 2 Z (Ef t (Gc 5 Z (Q1 d (Lr []))))
 exact au h
def RP:Nat->(AA CH)->Int->AB Int
  |0=>λ_ _=>AF
  |n+1=>iI (RP n) n
instance k_q:∀(d:AA CH) (f:Int),Ks (RP n d f) 56 [.q 3 (map CH.enc d),I f] [] (λr=>I r):=by
  induction n with
  |zero=>exact λ_ _=>⟨nofun⟩
  |succ n ih=>exact Qbh _ ih n
def Lu(n:Nat)(d:AR):AB Bool:=AH ((bif (d.AY==0)then(bif (d.Bw==0)then(bif (d.N==0)then AC ((AI d.Ac:Int)==0)else AC AD)else AC AD)else AC AD):AB Bool) λf=>AC f
instance xT(d:AR):Ks (Lu n d) 182 [.a (AR.c d)] [] (λr=>.b r):=KA func182
def LZ(n:Nat)(f:AR)(k:Int)(rec218:AR->Int->AB Int)(d:Int×Int):AB (CG (Int×Int) Int):=AH ((bif d.2<(AI f.Ac:Int) then AC (AG (d.1<=256))else AC AD):AB Bool) λg=>(bif g then AH (CJ f.Ac d.2) λh=>AH (rec218 h (i64.wrap (k+1))) λj=>AC (.k (i64.wrap (d.1+j),i64.wrap (d.2+1)))else AC (.d d.1))
def iL(rec218:AR->Int->AB Int)(n:Nat)(g:AR)(d:Int):AB Int:=(bif 16<d then AC 1000 else AH (iter (LZ n g d rec218) n (1,0):AB Int) λf=>AC f)
theorem Qan(rec218:AR->Int->AB Int)(y:∀(f:AR) (g:Int),Ks (rec218 f g) 183 [.a (AR.c f),I g] [] (λr=>I r))(n:Nat)(f:AR)(g:Int):Ks (iL rec218 n f g) 183 [.a (AR.c f),I g] [] (λr=>I r):=by
 refine Kg 13 func183 Z Z Z Z λr h=>Cn Z h (λ_ h=>?_) (λ_ h=>?_)
 .exact au h
 refine Gc 13 Z (Bd h λj B h=>Cg j [] [] (λj=>[(5,I j)]) Ze Zf ?_ ?_)
 .refine G0 1 Z (Lp [0] [1,2] (λk=>[(5,I k.1),(6,I k.2)]) Ze B Zf (Lr [0]) λk H d q=>?_);refine G0 2 Z (Bd d λm E d=>Cg m [0] [1,2,5,6] (λm=>[(17,.b m)]) Ze Zf ?_ ?_)
  .exact au E
  refine Q7 Z d (λ_ d=>?_) (λ_ d=>?_)
  .exact Jc q d
  exact Gc 9 Z (Bd d λF x d=>FJ x (Jf F) Z (Go 3 Z (Cz [] d Kc Z λJ G d=>Go 10 Z (Q1 d (Lr [0])))))
 exact au h
def NZ:Nat->AR->Int->AB Int
  |0=>λ_ _=>AF
  |n+1=>iL (NZ n) n
instance k_l:∀(d:AR) (f:Int),Ks (NZ n d f) 183 [.a (AR.c d),I f] [] (λr=>I r):=by
  induction n with
  |zero=>exact λ_ _=>⟨nofun⟩
  |succ n ih=>exact Qan _ ih n
def Ll(f:AA AX)(j:Int)(rec216:(AA AX)->Int->AB (Int×Int))(d:Int×Int×Int):AB (CG (Int×Int×Int) (Int×Int)):=AH ((bif d.2.2<(AI f:Int) then(bif d.1<=64 then AC (AG (d.2.1<=256))else AC AD)else AC AD):AB Bool) λk=>(bif k then AH (CJ f d.2.2) λm=>AH (rec216 m.BX (i64.wrap (j+1))) λg=>AH (CJ f d.2.2) λq=>AH (rec216 q.Be (i64.wrap (j+1))) λh=>AH (CJ f d.2.2) λt=>AH (Lu n t.AR) λx=>AH ((bif (!x)then AH (CJ f d.2.2) λy=>AH (NZ n y.AR 0) λz=>AC (i64.wrap ((i64.wrap ((i64.wrap (d.2.1+g.2))+h.2))+z))else AC (i64.wrap ((i64.wrap (d.2.1+g.2))+h.2))):AB Int) λB=>AC (.k (i64.wrap ((i64.wrap ((i64.wrap (d.1+1))+g.1))+h.1),B,i64.wrap (d.2.2+1)))else AC (.d (d.1,d.2.1)))
def iJ(rec216:(AA AX)->Int->AB (Int×Int))(n:Nat)(f:AA AX)(g:Int):AB (Int×Int):=AH ((bif 0<(AI f:Int) then AC (AG (16<g))else AC AD):AB Bool) λh=>(bif h then AC (1000,1000)else AH (iter (Ll n f g rec216) n (0,0,0):AB (Int×Int)) λd=>AC (d.1,d.2))
theorem Qbr(rec216:(AA AX)->Int->AB (Int×Int))(M:∀(m:AA AX) (q:Int),Ks (rec216 m q) 106 [.q 8 (map AX.enc m),I q] [] (λr=>.t [I r.1,I r.2]))(n:Nat)(m:AA AX)(q:Int):Ks (iJ rec216 n m q) 106 [.q 8 (map AX.enc m),I q] [] (λr=>.t [I r.1,I r.2]):=by
 refine Kg 8 func106 Z Z Z Z λr h=>Bd h λy W h=>Ct y [] [0,1] (λy=>[(19,.b y)]) Ze Zf ?_ (λenv H g=>?_)
 .exact au W
 refine Gx 1 Z (Ef g (Cn Z h (λ_ h=>?_) (λ_ h=>?_)))
 .exact au h
 refine Gc 18 Z (Bd h λj O h=>Cg j [] [] (λj=>[(6,I j.1),(7,I j.2)]) Ze Zf ?_ ?_)
 .refine G0 1 Z (Lp [] [0,1] (λk=>[(6,I k.1),(7,I k.2.1),(8,I k.2.2)]) Ze O Zf (Lr []) λk ac d z=>?_);refine G0 2 Z (Bd d λt P d=>Ct t [] [0,1,6,7,8] (λt=>[(31,.b t)]) Ze Zf ?_ (λenv H g=>?_))
  .exact au P
  refine Gx 1 Z (Ef g (Q7 Z d (λ_ d=>?_) (λ_ d=>?_)))
  .exact Jc z d
  refine Gc 8 Z (Bd d λQ E d=>FJ E (Yq Q) Z (Go 4 Z (Cd [] d Kc Z λad X d=>Fg 11 Z Z (Bd d λR F d=>FJ F (Yq R) Z (Go 4 Z (Cd [] d Kc Z λae Y d=>Fg 32 Z Z (Bd d λT G d=>FJ G (Yq T) Z (Go 2 Z (Cz [] d Kc Z λaf aa d=>Go 3 Z (Bd d λx f d=>Ct x [] [0,1,6,8] (λx=>[(7,I x)]) Ze Zf ?_ (λenv H g=>?_)))))))))))
  .refine G0 0 Z (Cn Z f (λ_ f=>?_) (λ_ f=>?_))
   .exact Gc 4 Z (Bd f λV L f=>FJ L (Yq V) Z (Go 2 Z (Cz [] f Kc Z λag ab f=>Gl 3 Z f [])))
   exact au f
  exact Gx 2 Z (Ef g (Gc 5 Z (Q1 d (Lr []))))
 exact au h
def RS:Nat->(AA AX)->Int->AB (Int×Int)
  |0=>λ_ _=>AF
  |n+1=>iJ (RS n) n
instance k_p:∀(d:AA AX) (f:Int),Ks (RS n d f) 106 [.q 8 (map AX.enc d),I f] [] (λr=>.t [I r.1,I r.2]):=by
  induction n with
  |zero=>exact λ_ _=>⟨nofun⟩
  |succ n ih=>exact Qbr _ ih n
def N3(d:AA AX):AB Bool:=AH (RS n d 0) λf=>AH ((bif (AI d:Int)<=20 then(bif f.1<=80 then AC (AG (f.2<=300))else AC AD)else AC AD):AB Bool) λg=>AC g
instance vz(d:AA AX):Ks (N3 n d) 57 [.q 8 (map AX.enc d)] [] (λr=>.b r):=KA func57
def KQ(f:CB)(d:Int×Int):AB (CG (Int×Int) (CG Int Bool)):=AH ((bif d.2<(AI f.AO:Int) then AC (AG (d.1<=200))else AC AD):AB Bool) λg=>(bif g then AH (CJ f.AO d.2) λh=>AH (CJ f.AO d.2) λj=>AH (JO n j.Ad) λk=>AH (CJ f.AO d.2) λm=>AH (RP n m.Ad 17) λq=>(bif 16<q then AC (.d (.d AD))else AC (.k (i64.wrap ((i64.wrap (d.1+(AI h.Ar:Int)))+k),i64.wrap (d.2+1))))else AC (.d (.k d.1)))
def KZ(d:CB):AB Bool:=AH (iter (KQ n d) n (i64.wrap ((i64.wrap ((i64.wrap ((i64.wrap ((i64.wrap ((i64.wrap ((AI d.Au:Int)+(AI d.Az:Int)))+(AI d.AO:Int)))+(AI d.A0:Int)))+(AI d.Ab:Int)))+(AI d.AV:Int)))+(AI d.Ay:Int)),0):AB (CG Int Bool)) λg=>match g with|.k f=>(AH ((bif f<=200 then(bif (AI d.Ap:Int)<=100 then AH (N3 n d.BL) λh=>AC h else AC AD)else AC AD):AB Bool) λj=>AC j)|.d f=>AC f
instance yA(F:CB):Ks (KZ n F) 17 [.a (CB.c F)] [] (λr=>.b r):=by
 refine Kg 10 func17 Z Z Z Z λr h=>Lg 2 Z Z (Lg 3 Z Z (Lg 3 Z Z (Lg 3 Z Z (Lg 3 Z Z (Lg 3 Z Z (Lg 10 Z Z (Bd h λG J h=>FT (b:=G) [0] [1] (λj=>[(3,I j)]) Ze Zf ?_ (λj env H L k=>?_))))))))
 .refine G0 1 Z (Lp [0] [1] (λm=>[(3,I m.1),(4,I m.2)]) Ze J Zf (Lr [0]) λm O d q=>?_);refine G0 2 Z (Bd d λt M d=>Ct t [0] [1,3,4] (λt=>[(40,.b t)]) Ze Zf ?_ (λenv H k=>?_))
  .exact au M
  refine Gx 1 Z (Ef k (Q7 Z d (λ_ d=>?_) (λ_ d=>?_)))
  .exact Jc q d
  refine Gc 5 Z (DR 16 Z (D 4 Z ?_));obtain⟨f,B,d⟩:=QF d;refine DS.wo (x:=.rp [.str f.Ap,.q 3 (map CH.enc f.Ad),I f.BH,.q 3 (map CO.c f.Ar),I f.Ak]) ?_ ?_
  .exact Ix B EK EU Z Wp
  refine D 2 Z ?_;refine DS.wo (x:=I (AI f.Ar:Int)) ?_ ?_
  .exact mN Gz Z Wp
  refine D 4 Z ?_;obtain⟨g,E,d⟩:=QF d;refine DS.wo (x:=.rp [.str g.Ap,.q 3 (map CH.enc g.Ad),I g.BH,.q 3 (map CO.c g.Ar),I g.Ak]) ?_ ?_
  .exact Ix E EK EU Z Wp
  exact DV q d h
 subst L;refine Gx 1 Z (Ef k (Gc 1 Z (Bd h λy N h=>Cg y [] [] (λy=>[(2,.b y)]) Ze Zf ?_ ?_)))
 .exact au N
 exact au h
def Te(g:CB)(d:Int):AB (CG Int (CG Unit Bool)):=(bif d<(AI g.AO:Int) then AH (CJ g.AO d) λf=>AH ((bif 64<(AI f.Ar:Int) then AC AE else AH (RP n f.Ad 17) λh=>(bif 16<h then AC AE else AH (JO n f.Ad) λj=>AC (AG (256<j)))):AB Bool) λk=>(bif k then AC (.d (.d AD))else AC (.k (i64.wrap (d+1))))else AC (.d (.k ())))
def OG(d:CB):AB Bool:=AH ((bif 40<(AI d.Au:Int) then AC AE else(bif 512<(AI d.Az:Int) then AC AE else(bif 8<(AI d.AO:Int) then AC AE else(bif 32<(AI d.A0:Int) then AC AE else(bif 32<(AI d.Ab:Int) then AC AE else(bif 32<(AI d.AV:Int) then AC AE else AC (AG (32<(AI d.Ay:Int))))))))):AB Bool) λh=>(bif h then AC AD else AH (iter (Te n d) n 0:AB (CG Unit Bool)) λg=>match g with|.k f=>(AC AE)|.d f=>AC f)
instance wK(d:CB):Ks (OG n d) 58 [.a (CB.c d)] [] (λr=>.b r):=KA func58
def PG(n:Nat)(d:AA UInt8):AB Bool:=AH ((bif (d==[99,111,117,114,115,101])then AC (d==[99,111,117,114,115,101])else(bif (d==[109,97,116,115])then AC (d==[109,97,116,115])else(bif (d==[115,116,97,114,116])then AC (d==[115,116,97,114,116])else(bif (d==[112,97,115,115])then AC (d==[112,97,115,115])else(bif (d==[101,110,100])then AC (d==[101,110,100])else(bif (d==[108,101,103])then AC (d==[108,101,103])else(bif (d==[116,111])then AC (d==[116,111])else(bif (d==[100,105,115,116,97,110,99,101])then AC (d==[100,105,115,116,97,110,99,101])else(bif (d==[103,117,110])then AC (d==[103,117,110])else(bif (d==[99,104,105,112])then AC (d==[99,104,105,112])else(bif (d==[115,108,111,116])then AC (d==[115,108,111,116])else(bif (d==[108,97,112,115])then AC (d==[108,97,112,115])else(bif (d==[108,97,112])then AC (d==[108,97,112])else(bif (d==[99,117,116,111,102,102])then AC (d==[99,117,116,111,102,102])else(bif (d==[101,120,116,114,97])then AC (d==[101,120,116,114,97])else(bif (d==[119,97,118,101])then AC (d==[119,97,118,101])else(bif (d==[111,102,102,101,110,99,101])then AC (d==[111,102,102,101,110,99,101])else(bif (d==[111,117,116])then AC (d==[111,117,116])else(bif (d==[99,97,116,101,103,111,114,121])then AC (d==[99,97,116,101,103,111,114,121])else(bif (d==[112,114,105,122,101])then AC (d==[112,114,105,122,101])else(bif (d==[97,108,108])then AC (d==[97,108,108])else AC (d==[116,105,101,115])))))))))))))))))))))):AB Bool) λf=>(bif f then AC AE else AH ((bif (d==[105,102])then AC (d==[105,102])else(bif (d==[101,108,115,101])then AC (d==[101,108,115,101])else(bif (d==[97,110,100])then AC (d==[97,110,100])else(bif (d==[111,114])then AC (d==[111,114])else(bif (d==[110,111,116])then AC (d==[110,111,116])else(bif (d==[111,108,100,101,114])then AC (d==[111,108,100,101,114])else(bif (d==[121,111,117,110,103,101,114])then AC (d==[121,111,117,110,103,101,114])else(bif (d==[98,105,98])then AC (d==[98,105,98])else(bif (d==[100,114,97,119])then AC (d==[100,114,97,119])else(bif (d==[102,105,101,108,100])then AC (d==[102,105,101,108,100])else(bif (d==[115,104,111,114,116])then AC (d==[115,104,111,114,116])else(bif (d==[102,97,117,108,116,115])then AC (d==[102,97,117,108,116,115])else(bif (d==[109,105,115,115,101,115])then AC (d==[109,105,115,115,101,115])else(bif (d==[115,116,114,97,121,115])then AC (d==[115,116,114,97,121,115])else(bif (d==[119,105,110,100,111,119])then AC (d==[119,105,110,100,111,119])else(bif (d==[114,101,115,105,100,117,97,108])then AC (d==[114,101,115,105,100,117,97,108])else(bif (d==[100,114,105,102,116])then AC (d==[100,114,105,102,116])else(bif (d==[112,114,111,116,101,115,116])then AC (d==[112,114,111,116,101,115,116])else(bif (d==[102,101,101])then AC (d==[102,101,101])else AC (d==[100,101,97,100,108,105,110,101])))))))))))))))))))):AB Bool) λg=>(bif g then AC AE else AC AD))
instance xO(d:AA UInt8):Ks (PG n d) 184 [.str d] [] (λr=>.b r):=KA func184
def dx(n:Nat)(f:AA UInt8)(d:Int):AB (CG Int (CG Unit Bool)):=(bif d<(AI f:Int) then AH (AH (CJ f d) λg=>(bif (g.toNat:Int)<97 then AH (CJ f d) λh=>(bif (h.toNat:Int)<48 then AH (CJ f d) λj=>AC ((j.toNat:Int) != 95)else AH (CJ f d) λk=>(bif 57<(k.toNat:Int) then AH (CJ f d) λm=>AC ((m.toNat:Int) != 95)else AC AD))else AH (CJ f d) λq=>(bif 122<(q.toNat:Int) then AH (CJ f d) λt=>(bif (t.toNat:Int)<48 then AH (CJ f d) λx=>AC ((x.toNat:Int) != 95)else AH (CJ f d) λy=>(bif 57<(y.toNat:Int) then AH (CJ f d) λz=>AC ((z.toNat:Int) != 95)else AC AD))else AC AD)):AB Bool) λB=>(bif B then AC (.d (.d AD))else AC (.k (i64.wrap (d+1))))else AC (.d (.k ())))
def L8(d:AA UInt8):AB Bool:=AH ((bif (AI d:Int)<1 then AC AE else(bif 24<(AI d:Int) then AC AE else AH (CJ d 0) λh=>(bif (h.toNat:Int)<97 then AC AE else AH (CJ d 0) λj=>AC (AG (122<(j.toNat:Int)))))):AB Bool) λm=>(bif m then AC AD else AH (iter (dx n d) n 1:AB (CG Unit Bool)) λk=>match k with|.k f=>(AH (PG n d) λg=>AC (!g))|.d f=>AC f)
instance xg(d:AA UInt8):Ks (L8 n d) 107 [.str d] [] (λr=>.b r):=KA func107
def Ty(n:Nat)(g:AA (AA UInt8))(f:Int)(d:Int):AB (CG Int (CG Unit (CG Int (CG Unit Bool)))):=(bif d<f then AH (CJ g d) λh=>AH (CJ g f) λj=>(bif (h==j)then AC (.d (.d (.d (.d AD))))else AC (.k (i64.wrap (d+1))))else AC (.d (.k ())))
def T6(g:AA (AA UInt8))(d:Int):AB (CG Int (CG Unit Bool)):=(bif d<(AI g:Int) then AH (CJ g d) λh=>AH (L8 n h) λj=>(bif (!j)then AC (.d (.d AD))else AH (iter (Ty n g d) n 0:AB (CG Unit (CG Int (CG Unit Bool)))) λk=>match k with|.k f=>(AC (.k (i64.wrap (d+1))))|.d f=>AC f)else AC (.d (.k ())))
def IG(g:AA (AA UInt8)):AB Bool:=AH (iter (T6 n g) n 0:AB (CG Unit Bool)) λf=>match f with|.k d=>(AC AE)|.d d=>AC d
instance yP(J:AA (AA UInt8)):Ks (IG n J) 108 [.q 1 (map JD J)] [] (λr=>.b r):=by
 refine Kg 11 func108 Z Z Z Z λr h=>Bd h λL M h=>D5 (b:=L) [] [] Ze Ze Zf ?_ (λ_ j=>?_)
 .refine G0 1 Z (Lp [] [0] (λm=>[(3,I m)]) Ze M Zf (Lr []) λm X d g=>(G0 5 Z (Lg 3 Z Z (Q7 Z d (λ_ d=>?_) (λ_ d=>?_)))))
  .exact Jc g d
  refine Gc 9 Z (Bd d λY y d=>Iz y Z (Go 1 Z (Cz [] d Kc Z λaa V d=>Go 3 Z (Cn Z d (λ_ d=>?_) (λ_ d=>?_)))))
  .exact DV g d h
  refine Gc 7 Z (Bd d λN O d=>FT (b:=N) [] [0,3] Ze Ze Zf ?_ (λW env H j P=>?_))
  .refine G0 1 Z (Lp [] [0,3] (λq=>[(4,I q)]) Ze O Zf (Lr []) λq ab f k=>(G0 8 Z (Q7 Z f (λ_ f=>?_) (λ_ f=>?_))))
   .exact Jc k f
   refine Gc 5 Z (DR 8 Z (D 2 Z ?_));obtain⟨Q,E,f⟩:=QF f;refine DS.wo (x:=.rp [.str Q]) ?_ ?_
   .exact Ix E E4 sizeOf9 Z Wp
   refine D 3 Z ?_;obtain⟨R,F,f⟩:=QF f;refine DS.wo (x:=.rp [.str R]) ?_ ?_
   .exact Ix F E4 sizeOf9 Z Wp
   refine D 1 Z (Eh Z (Go 3 Z (Cn Z f (λ_ f=>?_) (λ_ f=>?_))))
   .refine Gc 8 Z (Il f ?_);obtain rfl:=Oj k f;exact DV g d h
   exact au f
  subst j;exact Gx 2 Z (Ef P (Gc 5 Z (Q1 d (Lr []))))
 subst j;exact au h
def TD(n:Nat)(f:CB)(d:(AA (AA UInt8))×Int):AB (CG ((AA (AA UInt8))×Int) (AA (AA UInt8))):=(bif d.2<(AI f.Au:Int) then AH (CJ f.Au d.2) λg=>AH (app d.1 [g.Ap]) λh=>AC (.k (h,i64.wrap (d.2+1)))else AC (.d d.1))
def T8(n:Nat)(f:CB)(d:(AA (AA UInt8))×Int):AB (CG ((AA (AA UInt8))×Int) (AA (AA UInt8))):=(bif d.2<(AI f.AO:Int) then AH (CJ f.AO d.2) λg=>AH (app d.1 [g.Ap]) λh=>AC (.k (h,i64.wrap (d.2+1)))else AC (.d d.1))
def TS(n:Nat)(f:CB)(d:(AA (AA UInt8))×Int):AB (CG ((AA (AA UInt8))×Int) (AA (AA UInt8))):=(bif d.2<(AI f.A0:Int) then AH (CJ f.A0 d.2) λg=>AH (app d.1 [g.Ap]) λh=>AC (.k (h,i64.wrap (d.2+1)))else AC (.d d.1))
def Sq(n:Nat)(f:CB)(d:(AA (AA UInt8))×Int):AB (CG ((AA (AA UInt8))×Int) (AA (AA UInt8))):=(bif d.2<(AI f.Ab:Int) then AH (CJ f.Ab d.2) λg=>AH (app d.1 [g.Ap]) λh=>AC (.k (h,i64.wrap (d.2+1)))else AC (.d d.1))
def So(n:Nat)(f:CB)(d:(AA (AA UInt8))×Int):AB (CG ((AA (AA UInt8))×Int) (AA (AA UInt8))):=(bif d.2<(AI f.AV:Int) then AH (CJ f.AV d.2) λg=>AH (app d.1 [g.Ap]) λh=>AC (.k (h,i64.wrap (d.2+1)))else AC (.d d.1))
def OH(d:CB):AB Bool:=AH (iter (TD n d) n (([]:AA (AA UInt8)),0):AB (AA (AA UInt8))) λB=>AH (iter (T8 n d) n (([]:AA (AA UInt8)),0):AB (AA (AA UInt8))) λj=>AH (iter (TS n d) n (([]:AA (AA UInt8)),0):AB (AA (AA UInt8))) λk=>AH (iter (Sq n d) n (([]:AA (AA UInt8)),0):AB (AA (AA UInt8))) λm=>AH (iter (So n d) n (([]:AA (AA UInt8)),0):AB (AA (AA UInt8))) λq=>AH (AH (L8 n d.Ap) λt=>(bif t then AH (IG n B) λx=>(bif x then AH (IG n j) λy=>(bif y then AH (IG n k) λf=>(bif f then AH (IG n m) λg=>(bif g then AH (IG n q) λh=>AC h else AC AD)else AC AD)else AC AD)else AC AD)else AC AD):AB Bool) λz=>AC z
instance wL(a1:CB):Ks (OH n a1) 59 [.a (CB.c a1)] [] (λr=>.b r):=by
 refine Kg 8 func59 Z Z Z Z λr h=>vH (El (xs:=[]) (es:=map JD []) Jr Z Z Z Z Z trivial Z Z) ?_;refine Fg 9 Z Z (Bd h λJ h9 h=>Ct J [0,1] [1] (λJ=>[(3,.o 1 (AI J) 1)]) (λJ=>[(1,.r 9 1 (map JD J))]) Zf ?_ (λenv H d=>?_))
 .refine G0 1 Z (Lp [0,1] [1] (λq=>[(3,.o 1 (AI q.1) 1),(4,I q.2)]) (λq=>[(1,.r 9 1 (map JD q.1))]) h9 Zf (Lr [0,1]) λq ax f M=>?_);refine G0 6 Z (Lg 3 Z Z (Q7 Z f (λ_ f=>?_) (λ_ f=>?_)))
  .exact Jc M f
  refine Gc 9 Z (Bd f λaj O f=>Iz O Z (Go 2 Z (vH (El (xs:=[.tmp 27]) (es:=map JD [aj.Ap]) Jr Z Z Z Z Z ⟨Z,trivial⟩ Z Z) ?_)));refine FE Z (Bd f λay P f=>vH (Ql (e:=JD) P Jr E4 (QE (i:=2))) ?_);exact au f
 refine Gx 1 Z (Ef d (Gc 2 Z (vH (El (xs:=[]) (es:=map JD []) Jr Z Z Z Z Z trivial Z Z) ?_)));refine Fg 9 Z Z (Bd h λt ak h=>Ct t [0,1,2] [1,3] (λt=>[(5,.o 2 (AI t) 1)]) (λt=>[(2,.r 9 1 (map JD t))]) Zf ?_ (λenv H d=>?_))
 .refine G0 1 Z (Lp [0,1,2] [1,3] (λx=>[(5,.o 2 (AI x.1) 1),(6,I x.2)]) (λx=>[(2,.r 9 1 (map JD x.1))]) ak Zf (Lr [0,1,2]) λx az g Q=>?_);refine G0 6 Z (Lg 3 Z Z (Q7 Z g (λ_ g=>?_) (λ_ g=>?_)))
  .exact Jc Q g
  refine Gc 9 Z (Bd g λal T g=>Iz T Z (Go 2 Z (vH (El (xs:=[.tmp 44]) (es:=map JD [al.Ap]) Jr Z Z Z Z Z ⟨Z,trivial⟩ Z Z) ?_)));refine FE Z (Bd g λba V g=>vH (Ql (e:=JD) V Jr E4 (QE (i:=3))) ?_);exact au g
 refine Gx 1 Z (Ef d (Gc 2 Z (vH (El (xs:=[]) (es:=map JD []) Jr Z Z Z Z Z trivial Z Z) ?_)));refine Fg 9 Z Z (Bd h λy am h=>Ct y [0,1,2,3] [1,3,5] (λy=>[(7,.o 3 (AI y) 1)]) (λy=>[(3,.r 9 1 (map JD y))]) Zf ?_ (λenv H d=>?_))
 .refine G0 1 Z (Lp [0,1,2,3] [1,3,5] (λz=>[(7,.o 3 (AI z.1) 1),(8,I z.2)]) (λz=>[(3,.r 9 1 (map JD z.1))]) am Zf (Lr [0,1,2,3]) λz bb j W=>?_);refine G0 6 Z (Lg 3 Z Z (Q7 Z j (λ_ j=>?_) (λ_ j=>?_)))
  .exact Jc W j
  refine Gc 9 Z (Bd j λan Y j=>Iz Y Z (Go 2 Z (vH (El (xs:=[.tmp 61]) (es:=map JD [an.Ap]) Jr Z Z Z Z Z ⟨Z,trivial⟩ Z Z) ?_)));refine FE Z (Bd j λbc aa j=>vH (Ql (e:=JD) aa Jr E4 (QE (i:=4))) ?_);exact au j
 refine Gx 1 Z (Ef d (Gc 2 Z (vH (El (xs:=[]) (es:=map JD []) Jr Z Z Z Z Z trivial Z Z) ?_)));refine Fg 9 Z Z (Bd h λB ao h=>Ct B [0,1,2,3,4] [1,3,5,7] (λB=>[(9,.o 4 (AI B) 1)]) (λB=>[(4,.r 9 1 (map JD B))]) Zf ?_ (λenv H d=>?_))
 .refine G0 1 Z (Lp [0,1,2,3,4] [1,3,5,7] (λE=>[(9,.o 4 (AI E.1) 1),(10,I E.2)]) (λE=>[(4,.r 9 1 (map JD E.1))]) ao Zf (Lr [0,1,2,3,4]) λE bd k ab=>?_);refine G0 6 Z (Lg 3 Z Z (Q7 Z k (λ_ k=>?_) (λ_ k=>?_)))
  .exact Jc ab k
  refine Gc 9 Z (Bd k λaq ad k=>Iz ad Z (Go 2 Z (vH (El (xs:=[.tmp 78]) (es:=map JD [aq.Ap]) Jr Z Z Z Z Z ⟨Z,trivial⟩ Z Z) ?_)));refine FE Z (Bd k λbe ae k=>vH (Ql (e:=JD) ae Jr E4 (QE (i:=5))) ?_);exact au k
 refine Gx 1 Z (Ef d (Gc 2 Z (vH (El (xs:=[]) (es:=map JD []) Jr Z Z Z Z Z trivial Z Z) ?_)));refine Fg 9 Z Z (Bd h λF ar h=>Ct F [0,1,2,3,4,5] [1,3,5,7,9] (λF=>[(11,.o 5 (AI F) 1)]) (λF=>[(5,.r 9 1 (map JD F))]) Zf ?_ (λenv H d=>?_))
 .refine G0 1 Z (Lp [0,1,2,3,4,5] [1,3,5,7,9] (λG=>[(11,.o 5 (AI G.1) 1),(12,I G.2)]) (λG=>[(5,.r 9 1 (map JD G.1))]) ar Zf (Lr [0,1,2,3,4,5]) λG bg m af=>?_);refine G0 6 Z (Lg 3 Z Z (Q7 Z m (λ_ m=>?_) (λ_ m=>?_)))
  .exact Jc af m
  refine Gc 9 Z (Bd m λav ah m=>Iz ah Z (Go 2 Z (vH (El (xs:=[.tmp 95]) (es:=map JD [av.Ap]) Jr Z Z Z Z Z ⟨Z,trivial⟩ Z Z) ?_)));refine FE Z (Bd m λbh ai m=>vH (Ql (e:=JD) ai Jr E4 (QE (i:=6))) ?_);exact au m
 refine Gx 1 Z (Ef d (Gc 1 Z (Bd h λL aw h=>Cg L [] [] (λL=>[(2,.b L)]) Ze Zf ?_ ?_)))
 .exact au aw
 exact au h
def Fz(n:Nat)(d:Int)(f:Int)(g:Int):AB Bool:=AH ((bif f<=d then AC (AG (d<=g))else AC AD):AB Bool) λh=>AC h
instance k_d(d:Int)(f:Int)(g:Int):Ks (Fz n d f g) 109 [I d,I f,I g] [] (λr=>.b r):=KA func109
def Fv(d:CB)(f:Int):AB Bool:=AH (Fz n f 0 (i64.wrap ((AI d.Au:Int)-1))) λg=>AC g
instance yj(d:CB)(f:Int):Ks (Fv n d f) 110 [.a (CB.c d),I f] [] (λr=>.b r):=KA func110
def Ng(g:CB)(h:AA CH)(rec229:CB->(AA CH)->AB Bool)(f:Int):AB (CG Int (CG Unit Bool)):=(bif f<(AI h:Int) then AH (CJ h f) λd=>AH ((bif (d.As==0)then AH (Fv n g d.Am) λj=>(bif j then AC ((AI d.Ac:Int)==0)else AC AD)else AC AD):AB Bool) λk=>AH (AH (Fz n d.As 1 64) λm=>(bif m then(bif (d.Am==0)then(bif 0<(AI d.Ac:Int) then AH (rec229 g d.Ac) λq=>AC q else AC AD)else AC AD)else AC AD):AB Bool) λt=>AH ((bif (!k)then AC (!t)else AC AD):AB Bool) λx=>(bif x then AC (.d (.d AD))else AC (.k (i64.wrap (f+1))))else AC (.d (.k ())))
def iG(rec229:CB->(AA CH)->AB Bool)(n:Nat)(g:CB)(h:AA CH):AB Bool:=AH (iter (Ng n g h rec229) n 0:AB (CG Unit Bool)) λf=>match f with|.k d=>(AC AE)|.d d=>AC d
theorem QaY(rec229:CB->(AA CH)->AB Bool)(B:∀(f:CB) (g:AA CH),Ks (rec229 f g) 185 [.a (CB.c f),.q 3 (map CH.enc g)] [] (λr=>.b r))(n:Nat)(f:CB)(g:AA CH):Ks (iG rec229 n f g) 185 [.a (CB.c f),.q 3 (map CH.enc g)] [] (λr=>.b r):=by
 refine Kg 12 func185 Z Z Z Z λr h=>Bd h λE F h=>D5 (b:=E) [] [] Ze Ze Zf ?_ (λ_ G=>?_)
 .refine G0 1 Z (Lp [0] [1,2] (λx=>[(5,I x)]) Ze F Zf (Lr [0]) λx P d j=>?_);refine G0 5 Z (Lg 3 Z Z (Q7 Z d (λ_ d=>?_) (λ_ d=>?_)))
  .exact Jc j d
  refine Gc 8 Z (Bd d λJ z d=>FJ z (QL J) Z (Go 6 Z (Bd d λk L d=>Ct k [0,1] [1,2,5,6] (λk=>[(7,.b k)]) Ze Zf ?_ (λenv H m=>?_))))
  .exact au L
  refine Gx 1 Z (Ef m (Gc 1 Z (Bd d λq M d=>Ct q [0] [1,2,5,7] (λq=>[(8,.b q)]) Ze Zf ?_ (λenv H m=>?_))))
  .exact au M
  refine Gx 1 Z (Ef m (Gc 1 Z (Bd d λt N d=>Cg t [0] [1,2,5] (λt=>[(59,.b t)]) Ze Zf ?_ ?_)))
  .exact au N
  exact DV j d h
 subst G;exact au h
def Sk:Nat->CB->(AA CH)->AB Bool
  |0=>λ_ _=>AF
  |n+1=>iG (Sk n) n
instance k_x:∀(d:CB) (f:AA CH),Ks (Sk n d f) 185 [.a (CB.c d),.q 3 (map CH.enc f)] [] (λr=>.b r):=by
  induction n with
  |zero=>exact λ_ _=>⟨nofun⟩
  |succ n ih=>exact QaY _ ih n
def S9(m:CB)(g:AN)(d:Int):AB (CG Int (CG Unit Bool)):=(bif d<(AI g.Ar:Int) then AH (CJ g.Ar d) λf=>AH (AH (Fv n m f.Am) λh=>(bif (!h)then AC AE else(bif f.B9<1 then AC AE else AH (Fz n f.Bu 0 1099511627776) λj=>AC (!j))):AB Bool) λk=>(bif k then AC (.d (.d AD))else AC (.k (i64.wrap (d+1))))else AC (.d (.k ())))
def Ox(g:CB)(d:AN):AB Bool:=AH (iter (S9 n g d) n 0:AB (CG Unit Bool)) λh=>match h with|.k f=>(AH (AH (Fz n d.BH 1 3) λj=>(bif j then AH (Sk n g d.Ad) λk=>(bif k then(bif (d.Ak==(-1))then AC AE else AH (Fv n g d.Ak) λm=>AC m)else AC AD)else AC AD):AB Bool) λq=>AC q)|.d f=>AC f
instance w5(d:CB)(f:AN):Ks (Ox n d f) 111 [.a (CB.c d),.a (AN.c f)] [] (λr=>.b r):=KA func111
def TF(f:CB)(d:Int):AB (CG Int (CG Unit Bool)):=(bif d<(AI f.Au:Int) then AH (CJ f.Au d) λg=>AH (Fz n g.AY 1 3) λh=>(bif (!h)then AC (.d (.d AD))else AC (.k (i64.wrap (d+1))))else AC (.d (.k ())))
def Sr(n:Nat)(m:CB)(g:Int)(f:Co)(d:Int):AB (CG Int (CG Unit (CG Int (CG Unit Bool)))):=(bif d<g then AH (AH (CJ m.Az d) λh=>(bif (h.A'==f.A')then AH (CJ m.Az d) λj=>AC (j.To==f.To)else AC AD):AB Bool) λk=>(bif k then AC (.d (.d (.d (.d AD))))else AC (.k (i64.wrap (d+1))))else AC (.d (.k ())))
def TE(h:CB)(f:Int):AB (CG Int (CG Unit Bool)):=(bif f<(AI h.Az:Int) then AH (CJ h.Az f) λd=>AH (AH (Fv n h d.A') λj=>(bif (!j)then AC AE else AH (Fv n h d.To) λk=>(bif (!k)then AC AE else(bif d.Bp<0 then AC AE else(bif d.Bq<d.Bp then AC AE else AC (AG (68719476736<d.Bq)))))):AB Bool) λm=>(bif m then AC (.d (.d AD))else AH (iter (Sr n h f d) n 0:AB (CG Unit (CG Int (CG Unit Bool)))) λq=>match q with|.k g=>(AC (.k (i64.wrap (f+1))))|.d g=>AC g)else AC (.d (.k ())))
def Tj(f:CB)(d:Int):AB (CG Int (CG Unit Bool)):=(bif d<(AI f.AO:Int) then AH (CJ f.AO d) λg=>AH (Ox n f g) λh=>(bif (!h)then AC (.d (.d AD))else AC (.k (i64.wrap (d+1))))else AC (.d (.k ())))
def Td(h:CB)(d:Int):AB (CG Int (CG Unit Bool)):=(bif d<(AI h.A0:Int) then AH (CJ h.A0 d) λf=>AH (Fz n f.B_ 0 1099511627776) λg=>(bif (!g)then AC (.d (.d AD))else AC (.k (i64.wrap (d+1))))else AC (.d (.k ())))
def Sl(t:CB)(f:Int):AB (CG Int (CG Unit Bool)):=(bif f<(AI t.Ab:Int) then AH (CJ t.Ab f) λd=>AH (AH (Fz n d.Bb 0 68719476736) λg=>(bif g then(bif (d.As==0)then AC (!d.BQ)else AC AD)else AC AD):AB Bool) λh=>AH ((bif (d.Bb==0)then AH (Fz n d.As 1 64) λj=>(bif j then AC (!d.BQ)else AC AD)else AC AD):AB Bool) λk=>AH ((bif (d.Bb==0)then(bif (d.As==0)then AC d.BQ else AC AD)else AC AD):AB Bool) λm=>AH ((bif (!h)then(bif (!k)then AC (!m)else AC AD)else AC AD):AB Bool) λq=>(bif q then AC (.d (.d AD))else AC (.k (i64.wrap (f+1))))else AC (.d (.k ())))
def S5(n:Nat)(h:CB)(f:Int):AB (CG Int (CG Unit Bool)):=(bif f<(AI h.AV:Int) then AH (CJ h.AV f) λd=>AH ((bif d.A'<0 then AC AE else(bif d.To<d.A' then AC AE else AC (AG (120<d.To)))):AB Bool) λg=>(bif g then AC (.d (.d AD))else AC (.k (i64.wrap (f+1))))else AC (.d (.k ())))
def TQ(n:Nat)(k:CB)(h:Int)(d:CS)(f:Int):AB (CG Int (CG Unit (CG Int (CG Unit Bool)))):=(bif f<h then AH (CJ k.Ay f) λg=>AH ((bif (g.AN==d.AN)then(bif (g.AW==d.AW)then AC (g.Bz==d.Bz)else AC AD)else AC AD):AB Bool) λj=>(bif j then AC (.d (.d (.d (.d AD))))else AC (.k (i64.wrap (f+1))))else AC (.d (.k ())))
def UQ(h:CB)(f:Int):AB (CG Int (CG Unit Bool)):=(bif f<(AI h.Ay:Int) then AH (CJ h.Ay f) λd=>AH (AH (Fz n d.AN 0 (i64.wrap ((AI h.AO:Int)-1))) λj=>(bif (!j)then AC AE else AH (Fz n d.AW (-1) (i64.wrap ((AI h.AV:Int)-1))) λk=>(bif (!k)then AC AE else AH (Fz n d.Bz 1 4000) λm=>(bif (!m)then AC AE else AH (Fz n d.BP 1 1125899906842624) λq=>AC (!q)))):AB Bool) λt=>(bif t then AC (.d (.d AD))else AH (iter (TQ n h f d) n 0:AB (CG Unit (CG Int (CG Unit Bool)))) λx=>match x with|.k g=>(AC (.k (i64.wrap (f+1))))|.d g=>AC g)else AC (.d (.k ())))
def Ov(d:CB):AB Bool:=AH (iter (TF n d) n 0:AB (CG Unit Bool)) λO=>match O with|.k m=>(AH (iter (TE n d) n 0:AB (CG Unit Bool)) λP=>match P with|.k q=>(AH (iter (Tj n d) n 0:AB (CG Unit Bool)) λt=>match t with|.k f=>(AH (iter (Td n d) n 0:AB (CG Unit Bool)) λx=>match x with|.k g=>(AH (iter (Sl n d) n 0:AB (CG Unit Bool)) λy=>match y with|.k h=>(AH (iter (S5 n d) n 0:AB (CG Unit Bool)) λz=>match z with|.k j=>(AH (iter (UQ n d) n 0:AB (CG Unit Bool)) λB=>match B with|.k k=>(AH (AH (Fz n d.AQ.A8 0 16) λE=>(bif E then AH (Fz n d.AQ.A7 0 16) λF=>(bif F then AH (Fz n d.AQ.A6 0 4294967296) λG=>(bif G then AH (Fz n d.AQ.Al 0 4294967296) λH=>(bif H then AH (Fz n d.AQ.BG 0 100000) λJ=>(bif J then AH (Fz n d.Bk 0 1125899906842624) λL=>(bif L then AH (Fz n d.Aw 0 1099511627776) λM=>AC M else AC AD)else AC AD)else AC AD)else AC AD)else AC AD)else AC AD):AB Bool) λN=>AC N)|.d k=>AC k)|.d j=>AC j)|.d h=>AC h)|.d g=>AC g)|.d f=>AC f)|.d q=>AC q)|.d m=>AC m
instance wy(a1:CB):Ks (Ov n a1) 60 [.a (CB.c a1)] [] (λr=>.b r):=by
 refine Kg 12 func60 Z Z Z Z λr h=>Bd h λcm cn h=>FT (b:=cm) [0] [1] Ze Ze Zf ?_ (λcx env H m d=>?_)
 .refine G0 1 Z (Lp [0] [1] (λbi=>[(3,I bi)]) Ze cn Zf (Lr [0]) λbi dl co bj=>?_);exact DV bj co h
 subst m;refine Gx 1 Z (Ef d (Gc 6 Z (Bd h λcp bk h=>FT (b:=cp) [0] [1] Ze Ze Zf ?_ (λcy env H m d=>?_))))
 .refine G0 1 Z (Lp [0] [1] (λaa=>[(4,I aa)]) Ze bk Zf (Lr [0]) λaa cz g E=>?_);refine G0 6 Z (Lg 3 Z Z (Q7 Z g (λ_ g=>?_) (λ_ g=>?_)))
  .exact Jc E g
  refine Gc 9 Z (Bd g λda aj g=>Iz aj Z (Go 7 Z (Bd g λJ bl g=>Ct J [0,1] [1,4,5] (λJ=>[(76,.b J)]) Ze Zf ?_ (λenv H d=>?_))))
  .exact au bl
  refine Gx 1 Z (Ef d (Cn Z g (λ_ g=>?_) (λ_ g=>?_)))
  .exact DV E g h
  refine Gc 7 Z (Bd g λbm bn g=>FT (b:=bm) [0] [1,4] Ze Ze Zf ?_ (λcq env H m d=>?_))
  .refine G0 1 Z (Lp [0,1] [1,4,5] (λab=>[(6,I ab)]) Ze bn Zf (Lr [0,1]) λab db q V=>?_);refine G0 8 Z (Q7 Z q (λ_ q=>?_) (λ_ q=>?_))
   .exact Jc V q
   refine Gc 5 Z (Bd q λL t q=>Ct L [0,1] [1,4,5,6] (λL=>[(101,.b L)]) Ze Zf ?_ (λenv H d=>?_))
   .refine G0 0 Z (DR 18 Z (D 3 Z ?_));obtain⟨F,am,t⟩:=QF t;refine DS.wo (x:=.rp [I F.A',I F.To,I F.Bp,I F.Bq]) ?_ ?_
    .exact Ix am Gd GM Z Wp
    refine D 6 Z (DS.is 9 t Z Z Z (λ_ t=>?_) (λ_ t=>?_))
    .refine D 3 Z ?_;obtain⟨z,ao,t⟩:=QF t;refine DS.v (x:=(.rp [I z.A',I z.To,I z.Bp,I z.Bq])) (Mg (e:=Co.c) (l:=a1.Az) (v:=z) ao Gd GM) ?_ (hg:=(gT Z));exact au t
    exact au t
   refine Gx 1 Z (Ef d (Cn Z q (λ_ q=>?_) (λ_ q=>?_)))
   .refine Gc 8 Z (Il q ?_);obtain rfl:=Oj V q;exact DV E g h
   exact au q
  subst m;exact Gx 2 Z (Ef d (Gc 5 Z (Q1 g (Lr [0]))))
 subst m;refine Gx 1 Z (Ef d (Gc 6 Z (Bd h λbo bp h=>FT (b:=bo) [0] [1] Ze Ze Zf ?_ (λcr env H m d=>?_))))
 .refine G0 1 Z (Lp [0] [1] (λac=>[(7,I ac)]) Ze bp Zf (Lr [0]) λac dc y W=>?_);refine G0 6 Z (Lg 3 Z Z (Q7 Z y (λ_ y=>?_) (λ_ y=>?_)))
  .exact Jc W y
  refine Gc 5 Z (DR 6 Z (D 4 Z ?_));obtain⟨B,av,y⟩:=QF y;refine DS.wo (x:=.rp [.str B.Ap,.q 3 (map CH.enc B.Ad),I B.BH,.q 3 (map CO.c B.Ar),I B.Ak]) ?_ ?_
  .exact Ix av EK EU Z Wp
  exact DV W y h
 subst m;refine Gx 1 Z (Ef d (Gc 6 Z (Bd h λbq br h=>FT (b:=bq) [0] [1] Ze Ze Zf ?_ (λcs env H m d=>?_))))
 .refine G0 1 Z (Lp [0] [1] (λad=>[(8,I ad)]) Ze br Zf (Lr [0]) λad dd bs aw=>?_);exact DV aw bs h
 subst m;refine Gx 1 Z (Ef d (Gc 6 Z (Bd h λbu bv h=>FT (b:=bu) [0] [1] Ze Ze Zf ?_ (λct env H m d=>?_))))
 .refine G0 1 Z (Lp [0] [1] (λae=>[(9,I ae)]) Ze bv Zf (Lr [0]) λae de f X=>?_);refine G0 6 Z (Lg 3 Z Z (Q7 Z f (λ_ f=>?_) (λ_ f=>?_)))
  .exact Jc X f
  refine Gc 9 Z (Bd f λdf ay f=>Iz ay Z (Go 6 Z (Bd f λM bw f=>Ct M [0,1] [1,9,10] (λM=>[(11,.b M)]) Ze Zf ?_ (λenv H d=>?_))))
  .exact au bw
  refine Gx 1 Z (Ef d (Gc 1 Z (Bd f λN bx f=>Ct N [0,1] [1,9,10,11] (λN=>[(12,.b N)]) Ze Zf ?_ (λenv H d=>?_))))
  .exact au bx
  refine Gx 1 Z (Ef d (Gc 1 Z (Bd f λO bz f=>Ct O [0] [1,9,11,12] (λO=>[(13,.b O)]) Ze Zf ?_ (λenv H d=>?_))))
  .exact au bz
  refine Gx 1 Z (Ef d (Gc 1 Z (Bd f λP ca f=>Ct P [0] [1,9] (λP=>[(191,.b P)]) Ze Zf ?_ (λenv H d=>?_))))
  .exact au ca
  refine Gx 1 Z (Ef d (Cn Z f (λ_ f=>?_) (λ_ f=>?_)))
  .exact DV X f h
  exact au f
 subst m;refine Gx 1 Z (Ef d (Gc 6 Z (Bd h λcb cc h=>FT (b:=cb) [0] [1] Ze Ze Zf ?_ (λcu env H m d=>?_))))
 .refine G0 1 Z (Lp [0] [1] (λaf=>[(14,I af)]) Ze cc Zf (Lr [0]) λaf dg cd ba=>?_);exact DV ba cd h
 subst m;refine Gx 1 Z (Ef d (Gc 6 Z (Bd h λce cf h=>FT (b:=ce) [0] [1] Ze Ze Zf ?_ (λcv env H m d=>?_))))
 .refine G0 1 Z (Lp [0] [1] (λag=>[(16,I ag)]) Ze cf Zf (Lr [0]) λag dh j G=>?_);refine G0 6 Z (Lg 3 Z Z (Q7 Z j (λ_ j=>?_) (λ_ j=>?_)))
  .exact Jc G j
  refine Gc 9 Z (Bd j λdi bc j=>Iz bc Z (Go 7 Z (Bd j λQ cg j=>Ct Q [0,1] [1,16,17] (λQ=>[(260,.b Q)]) Ze Zf ?_ (λenv H d=>?_))))
  .exact au cg
  refine Gx 1 Z (Ef d (Cn Z j (λ_ j=>?_) (λ_ j=>?_)))
  .exact DV G j h
  refine Gc 7 Z (Bd j λch ci j=>FT (b:=ch) [0] [1,16] Ze Ze Zf ?_ (λcw env H m d=>?_))
  .refine G0 1 Z (Lp [0,1] [1,16,17] (λah=>[(18,I ah)]) Ze ci Zf (Lr [0,1]) λah dj k Y=>?_);refine G0 8 Z (Q7 Z k (λ_ k=>?_) (λ_ k=>?_))
   .exact Jc Y k
   refine Gc 9 Z (Bd k λdk bg k=>Iz bg Z (Go 6 Z (Bd k λR cj k=>Ct R [0,1] [1,16,17,18] (λR=>[(289,.b R)]) Ze Zf ?_ (λenv H d=>?_))))
   .exact au cj
   refine Gx 1 Z (Ef d (Cn Z k (λ_ k=>?_) (λ_ k=>?_)))
   .refine Gc 8 Z (Il k ?_);obtain rfl:=Oj Y k;exact DV G j h
   exact au k
  subst m;exact Gx 2 Z (Ef d (Gc 5 Z (Q1 j (Lr [0]))))
 subst m;refine Gx 1 Z (Ef d (Gc 9 Z (Bd h λT cl h=>Cg T [] [] (λT=>[(2,.b T)]) Ze Zf ?_ ?_)))
 .exact au cl
 exact au h
def Ti(n:Nat)(f:AR)(rec233:AR->AB Bool)(d:Int):AB (CG Int (CG Unit Bool)):=(bif d<(AI f.Ac:Int) then AH (CJ f.Ac d) λg=>AH (rec233 g) λh=>(bif (!h)then AC (.d (.d AD))else AC (.k (i64.wrap (d+1))))else AC (.d (.k ())))
def Pb(rec233:AR->AB Bool)(n:Nat)(d:AR):AB Bool:=(bif (d.AY==1)then AH ((bif 1<=d.Bw then(bif d.Bw<=3 then(bif 0<=d.N then(bif d.N<=10000 then AC ((AI d.Ac:Int)==0)else AC AD)else AC AD)else AC AD)else AC AD):AB Bool) λt=>AC t else AH ((bif (d.AY==2)then AC (d.AY==2)else AC (d.AY==3)):AB Bool) λh=>AH ((bif h then AH ((bif (AI d.Ac:Int)<1 then AC AE else AC (AG (16<(AI d.Ac:Int)))):AB Bool) λj=>(bif j then AC (.d AD)else AC (.k ()))else(bif (d.AY==4)then(bif ((AI d.Ac:Int) != 1)then AC (.d AD)else AC (.k ()))else AC (.d AD))):AB (CG Unit Bool)) λk=>match k with|.k f=>(AH ((bif (d.Bw != 0)then AC AE else AC (d.N != 0)):AB Bool) λm=>(bif m then AC AD else AH (iter (Ti n d rec233) n 0:AB (CG Unit Bool)) λq=>match q with|.k g=>(AC AE)|.d g=>AC g))|.d f=>AC f)
theorem Qbg(rec233:AR->AB Bool)(M:∀(j:AR),Ks (rec233 j) 264 [.a (AR.c j)] [] (λr=>.b r))(n:Nat)(j:AR):Ks (Pb rec233 n j) 264 [.a (AR.c j)] [] (λr=>.b r):=by
 refine Kg 20 func264 Z Z Z Z λr h=>Cn Z h (λ_ h=>?_) (λ_ h=>?_)
 .exact au h
 refine Gc 7 Z (Bd h λk O h=>Ct k [0] [1,5] (λk=>[(32,.b k)]) Ze Zf ?_ (λenv H g=>?_))
 .exact au O
 refine Gx 1 Z (Ef g (Bd h λP d h=>FT (b:=P) [0] [1] Ze Ze Zf ?_ (λY env H hb g=>?_)))
 .refine G0 0 Z (Cn Z d (λ_ d=>?_) (λ_ d=>?_))
  .refine Gc 1 Z (Bd d λm Q d=>Ct m [0] [1] (λm=>[(44,.b m)]) Ze Zf ?_ (λenv H g=>?_))
   .exact au Q
   refine Gx 1 Z (Ef g (Cn Z d (λ_ d=>?_) (λ_ d=>?_)))
   .refine Gc 6 Z ?_;cases d;exact au h
   exact au d
  refine Gc 6 Z (Q7 Z d (λ_ d=>?_) (λ_ d=>?_))
  .refine Gc 6 Z ?_;cases d;exact au h
  refine Gc 4 Z (Lg 3 Z Z (Cn Z d (λ_ d=>?_) (λ_ d=>?_)))
  .refine Gc 6 Z ?_;cases d;exact au h
  exact au d
 subst hb;refine Gx 2 Z (Ef g (Gc 2 Z (Bd h λq R h=>Ct q [0] [1] (λq=>[(58,.b q)]) Ze Zf ?_ (λenv H g=>?_))))
 .exact au R
 refine Gx 1 Z (Ef g (Cn Z h (λ_ h=>?_) (λ_ h=>?_)))
 .exact au h
 refine Gc 8 Z (Bd h λT V h=>D5 (b:=T) [] [] Ze Ze Zf ?_ (λ_ W=>?_))
 .refine G0 1 Z (Lp [0] [1] (λx=>[(3,I x)]) Ze V Zf (Lr [0]) λx ac f t=>?_);refine G0 6 Z (Lg 3 Z Z (Q7 Z f (λ_ f=>?_) (λ_ f=>?_)))
  .exact Jc t f
  refine Gc 9 Z (Bd f λX J f=>FJ J (Jf X) Z (Go 1 Z (Cz [] f Kc Z λad ab f=>Go 3 Z (Cn Z f (λ_ f=>?_) (λ_ f=>?_)))))
  .exact DV t f h
  exact au f
 subst W;exact au h
def MS:Nat->AR->AB Bool
  |0=>λ_=>AF
  |n+1=>Pb (MS n) n
instance yW:∀(d:AR),Ks (MS n d) 264 [.a (AR.c d)] [] (λr=>.b r):=by
  induction n with
  |zero=>exact λ_=>⟨nofun⟩
  |succ n ih=>exact Qbg _ ih n
def O7(d:AR):AB Int:=AH (NZ n d 0) λf=>(bif 256<f then AC 2 else AH (MS n d) λg=>(bif (!g)then AC 71 else AC 0))
instance xD(d:AR):Ks (O7 n d) 186 [.a (AR.c d)] [] (λr=>I r):=KA func186
def UN(y:AA AX)(rec231:(AA AX)->AB Bool)(f:Int):AB (CG Int (CG Unit Bool)):=(bif f<(AI y:Int) then AH (CJ y f) λd=>AH ((bif (d.AY==1)then AH ((bif d.By<1 then AC AE else(bif 5<d.By then AC AE else AH (Lu n d.AR) λh=>(bif (!h)then AC AE else(bif ((AI d.BX:Int) != 0)then AC AE else AC ((AI d.Be:Int) != 0))))):AB Bool) λj=>(bif j then AC (.d (.d (.d AD)))else AC (.k ()))else(bif (d.AY==2)then AH ((bif (d.By != 0)then AC AE else AH (O7 n d.AR) λk=>(bif (k != 0)then AC AE else(bif ((AI d.BX:Int)==0)then AC AE else AH (rec231 d.BX) λm=>(bif (!m)then AC AE else AH (rec231 d.Be) λq=>AC (!q))))):AB Bool) λt=>(bif t then AC (.d (.d (.d AD)))else AC (.k ()))else AC (.d (.d (.d AD))))):AB (CG Unit (CG Int (CG Unit Bool)))) λx=>match x with|.k g=>(AC (.k (i64.wrap (f+1))))|.d g=>AC g else AC (.d (.k ())))
def Pg(rec231:(AA AX)->AB Bool)(n:Nat)(g:AA AX):AB Bool:=AH (iter (UN n g rec231) n 0:AB (CG Unit Bool)) λf=>match f with|.k d=>(AC AE)|.d d=>AC d
theorem Qbf(rec231:(AA AX)->AB Bool)(P:∀(q:AA AX),Ks (rec231 q) 112 [.q 8 (map AX.enc q)] [] (λr=>.b r))(n:Nat)(q:AA AX):Ks (Pg rec231 n q) 112 [.q 8 (map AX.enc q)] [] (λr=>.b r):=by
 refine Kg 11 func112 Z Z Z Z λr h=>Bd h λG J h=>D5 (b:=G) [] [] Ze Ze Zf ?_ (λ_ Q=>?_)
 .refine G0 1 Z (Lp [] [0] (λt=>[(3,I t)]) Ze J Zf (Lr []) λt V f g=>?_);refine G0 5 Z (Lg 3 Z Z (Q7 Z f (λ_ f=>?_) (λ_ f=>?_)))
  .exact Jc g f
  refine Gc 8 Z (Bd f λL y f=>FJ y (Yq L) Z (Go 18 Z (Bd f λM d f=>FT (b:=M) [] [0,3] Ze Ze Zf ?_ (λT env H hb j=>?_))))
  .refine G0 0 Z (Cn Z d (λ_ d=>?_) (λ_ d=>?_))
   .refine Gc 1 Z (Bd d λk N d=>Ct k [] [0,3] (λk=>[(44,.b k)]) Ze Zf ?_ (λenv H j=>?_))
    .exact au N
    refine Gx 1 Z (Ef j (Cn Z d (λ_ d=>?_) (λ_ d=>?_)))
    .refine Gc 6 Z ?_;cases d;exact DV g f h
    exact au d
   refine Gc 6 Z (Q7 Z d (λ_ d=>?_) (λ_ d=>?_))
   .refine Gc 6 Z ?_;cases d;exact DV g f h
   refine Gc 1 Z (Bd d λm O d=>Ct m [] [0,3] (λm=>[(73,.b m)]) Ze Zf ?_ (λenv H j=>?_))
   .exact au O
   refine Gx 1 Z (Ef j (Cn Z d (λ_ d=>?_) (λ_ d=>?_)))
   .refine Gc 6 Z ?_;cases d;exact DV g f h
   exact au d
  subst hb;exact Gx 3 Z (Ef j (Gc 5 Z (Q1 f (Lr []))))
 subst Q;exact au h
def MW:Nat->(AA AX)->AB Bool
  |0=>λ_=>AF
  |n+1=>Pg (MW n) n
instance yb:∀(d:AA AX),Ks (MW n d) 112 [.q 8 (map AX.enc d)] [] (λr=>.b r):=by
  induction n with
  |zero=>exact λ_=>⟨nofun⟩
  |succ n ih=>exact Qbf _ ih n
def O2(d:AA AX):AB Int:=AH (RS n d 0) λf=>AH ((bif 64<f.1 then AC AE else AC (AG (256<f.2))):AB Bool) λh=>(bif h then AC 2 else AH ((bif ((AI d:Int)==0)then AC AE else AH (MW n d) λg=>AC (!g)):AB Bool) λj=>(bif j then AC 71 else AC 0))
instance w9(d:AA AX):Ks (O2 n d) 61 [.q 8 (map AX.enc d)] [] (λr=>I r):=KA func61
def dy(n:Nat)(m:AA CH)(f:(AA Int)×Int)(g:AA Int)(d:(AA Int)×Int):AB (CG ((AA Int)×Int) (AA Int)):=AH (AH (CJ m f.2) λh=>(bif d.2<h.As then AC (AG ((AI d.1:Int)<=256))else AC AD):AB Bool) λj=>(bif j then AH (app d.1 g) λk=>AC (.k (k,i64.wrap (d.2+1)))else AC (.d d.1))
def Ts(f:AA CH)(rec235:(AA CH)->AB (AA Int))(d:(AA Int)×Int):AB (CG ((AA Int)×Int) (AA Int)):=AH ((bif d.2<(AI f:Int) then AC (AG ((AI d.1:Int)<=256))else AC AD):AB Bool) λg=>(bif g then AH (AH (CJ f d.2) λh=>(bif (h.As==0)then AH (CJ f d.2) λj=>AH (app d.1 [j.Am]) λk=>AC k else AH (CJ f d.2) λm=>AH (rec235 m.Ac) λq=>AH (iter (dy n f d q) n (d.1,0):AB (AA Int)) λt=>AC t):AB (AA Int)) λx=>AC (.k (x,i64.wrap (d.2+1)))else AC (.d d.1))
def Pf(rec235:(AA CH)->AB (AA Int))(n:Nat)(f:AA CH):AB (AA Int):=AH (iter (Ts n f rec235) n (([]:AA Int),0):AB (AA Int)) λd=>AC d
theorem QaZ(rec235:(AA CH)->AB (AA Int))(ae:∀(E:AA CH),Kq (rec235 E) 113 [.q 3 (map CH.enc E)] [] (λr=>.o 0 (AI r) 1) (λr=>[.r 3 1 (map (Qe .i64) r)]))(n:Nat)(E:AA CH):Kq (Pf rec235 n E) 113 [.q 3 (map CH.enc E)] [] (λr=>.o 0 (AI r) 1) (λr=>[.r 3 1 (map (Qe .i64) r)]):=by
 refine Kg 7 func113 Z Z Z Z λr h=>vH (El (xs:=[]) (es:=map (Qe .i64) []) Qu Z Z Z Z Z trivial Z Z) ?_;refine Fg 9 Z Z (Bd h λk X h=>Cg k [0] [] (λk=>[(3,.o 0 (AI k) 1)]) (λk=>[(0,.r 3 1 (map (Qe .i64) k))]) Zf ?_ ?_)
 .refine G0 1 Z (Lp [0] [0] (λm=>[(3,.o 0 (AI m.1) 1),(4,I m.2)]) (λm=>[(0,.r 3 1 (map (Qe .i64) m.1))]) X Zf (Lr [0]) λm ag f G=>?_);refine G0 2 Z (Bd f λz Y f=>Ct z [0] [0,3,4] (λz=>[(16,.b z)]) Ze Zf ?_ (λenv H y=>?_))
  .exact au Y
  refine Gx 1 Z (Ef y (Q7 Z f (λ_ f=>?_) (λ_ f=>?_)))
  .exact Jc G f
  refine Gc 3 Z (Bd f λq d f=>Cg q [0] [0,4] (λq=>[(3,.o 0 (AI q) 1)]) (λq=>[(0,.r 3 1 (map (Qe .i64) q))]) Zf ?_ ?_)
  .refine G0 6 Z (Bd d λaa L d=>FJ L (QL aa) Z (Go 5 Z (Cn Z d (λ_ d=>?_) (λ_ d=>?_))))
   .refine Gc 5 Z (Bd d λF N d=>FJ N (QL F) Z (Go 2 Z (vH (El (xs:=[.tmp 30]) (es:=map (Qe .i64) [F.Am]) Qu Z Z Z Z Z ⟨Z,trivial⟩ Z Z) ?_)));refine FE Z (Bd d λah O d=>vH (Ql (e:=(Qe .i64)) O Qu EC (QE (i:=1))) ?_);exact au d
   refine Gc 6 Z (Bd d λab P d=>FJ P (QL ab) Z (Go 2 Z (Cd [] d Kc Z λai af d=>Fg 8 Z Z (Bd d λt ac d=>Ct t [0] [0,4] (λt=>[(3,.o 0 (AI t) 1)]) (λt=>[(0,.r 3 1 (map (Qe .i64) t))]) Zf ?_ (λenv H y=>?_)))))
   .refine G0 1 Z (Lp [0,1] [0,4,5] (λx=>[(3,.o 0 (AI x.1) 1),(6,I x.2)]) (λx=>[(0,.r 3 1 (map (Qe .i64) x.1))]) ac Zf (Lr [0,1]) λx aj g Q=>?_);refine G0 2 Z (Bd g λB j g=>Ct B [0,1] [0,3,4,5,6] (λB=>[(50,.b B)]) Ze Zf ?_ (λenv H y=>?_))
    .refine G0 4 Z (Bd j λad R j=>FJ R (QL ad) Z (Go 4 Z (Is 46 j Z (λ_ j=>?_) (λ_ j=>?_))))
     iterate 2 exact au j
    refine Gx 1 Z (Ef y (Q7 Z g (λ_ g=>?_) (λ_ g=>?_)))
    .exact Jc Q g
    refine Gc 7 Z (Bd g λak W g=>vH (Ql (e:=(Qe .i64)) W Qu EC (QE (i:=1))) ?_);exact au g
   refine Gx 1 Z ?_;cases d;exact NS (Eo y (Lr [0]))
  exact au f
 exact au h
def MV:Nat->(AA CH)->AB (AA Int)
  |0=>λ_=>AF
  |n+1=>Pf (MV n) n
instance yZ:∀(d:AA CH),Kq (MV n d) 113 [.q 3 (map CH.enc d)] [] (λr=>.o 0 (AI r) 1) (λr=>[.r 3 1 (map (Qe .i64) r)]):=by
  induction n with
  |zero=>exact λ_=>⟨nofun⟩
  |succ n ih=>exact QaZ _ ih n
def Sp(n:Nat)(f:CB)(k:Int)(m:Int)(d:Int):AB (CG Int (CG Unit Int)):=(bif d<(AI f.Az:Int) then AH (AH (CJ f.Az d) λg=>(bif (g.A'==k)then AH (CJ f.Az d) λh=>AC (h.To==m)else AC AD):AB Bool) λj=>(bif j then AC (.d (.d d))else AC (.k (i64.wrap (d+1))))else AC (.d (.k ())))
def Lt(g:CB)(h:Int)(j:Int):AB Int:=AH (iter (Sp n g h j) n 0:AB (CG Unit Int)) λf=>match f with|.k d=>(AC (-1))|.d d=>AC d
instance xS(d:CB)(f:Int)(g:Int):Ks (Lt n d f g) 114 [.a (CB.c d),I f,I g] [] (λr=>I r):=KA func114
def S_(n:Nat)(f:AA Int)(j:Int)(d:Int×Int):AB (CG (Int×Int) Int):=(bif d.2<(AI f:Int) then AH (CJ f d.2) λg=>AH ((bif (g==j)then AC (i64.wrap (d.1+1))else AC d.1):AB Int) λh=>AC (.k (h,i64.wrap (d.2+1)))else AC (.d d.1))
def MP(f:AA Int)(g:Int):AB Int:=AH (iter (S_ n f g) n (0,0):AB Int) λd=>AC d
instance jH(t:AA Int)(x:Int):Ks (MP n t x) 115 [.q 1 (map (Qe .i64) t),I x] [] (λr=>I r):=by
 refine Kg 16 func115 Z Z Z Z λr h=>Bd h λf y h=>Cg f [] [] (λf=>[(5,I f)]) Ze Zf ?_ ?_
 .refine G0 1 Z (Lp [] [0,1] (λg=>[(5,I g.1),(6,I g.2)]) Ze y Zf (Lr []) λg E d k=>?_);refine G0 5 Z (Lg 3 Z Z (Q7 Z d (λ_ d=>?_) (λ_ d=>?_)))
  .exact Jc k d
  refine Gc 8 Z (Bd d λF q d=>Iz q Z (Go 5 Z (Bd d λj z d=>Ct j [] [0,1,6] (λj=>[(5,I j)]) Ze Zf ?_ (λenv H B=>?_))))
  .exact au z
  exact Gx 2 Z (Ef B (Gc 5 Z (Q1 d (Lr []))))
 exact au h
def TY(g:CB)(f:AA Int)(d:Int):AB (CG Int (CG Unit Bool)):=(bif d<(AI f:Int) then AH ((bif (d==0)then AC 1 else(bif (d==(i64.wrap ((AI f:Int)-1)))then AC 3 else AC 2)):AB Int) λh=>AH (AH (CJ f d) λj=>AH (CJ g.Au j) λk=>(bif (k.AY != h)then AC AE else(bif 0<d then AH (CJ f (i64.wrap (d-1))) λm=>AH (CJ f d) λq=>AH (Lt n g m q) λt=>AC (AG (t<0))else AC AD)):AB Bool) λx=>(bif x then AC (.d (.d AD))else AC (.k (i64.wrap (d+1))))else AC (.d (.k ())))
def Sm(f:AN)(k:AA Int)(d:Int):AB (CG Int (CG Unit Bool)):=(bif d<(AI f.Ar:Int) then AH (CJ f.Ar d) λg=>AH (MP n k g.Am) λh=>AH (CJ f.Ar d) λj=>(bif h<j.B9 then AC (.d (.d AD))else AC (.k (i64.wrap (d+1))))else AC (.d (.k ())))
def N6(j:CB)(d:AN):AB Bool:=AH (MV n d.Ad) λf=>AH ((bif (AI f:Int)<2 then AC AE else AC (AG (256<(AI f:Int)))):AB Bool) λz=>(bif z then AC AD else AH (iter (TY n j f) n 0:AB (CG Unit Bool)) λk=>match k with|.k g=>(AH ((bif (d.Ak != (-1))then AH (CJ j.Au d.Ak) λm=>(bif (m.AY != 2)then AC AE else AH (MP n f d.Ak) λq=>(bif (q==0)then AC AE else AH (Lt n j d.Ak d.Ak) λt=>AC (AG (t<0))))else AC AD):AB Bool) λx=>(bif x then AC AD else AH (iter (Sm n d f) n 0:AB (CG Unit Bool)) λy=>match y with|.k h=>(AC AE)|.d h=>AC h))|.d g=>AC g)
instance v9(a1:CB)(a2:AN):Ks (N6 n a1 a2) 62 [.a (CB.c a1),.a (AN.c a2)] [] (λr=>.b r):=by
 refine Kg 11 func62 Z Z Z Z λr h=>Cd [] h Kc Z λr1 ar h=>Fg 12 Z Z (Bd h λT h4 h=>Ct T [0,1,2] [2,3,5,6] (λT=>[(20,.b T)]) Ze Zf ?_ (λenv H j=>?_))
 .exact au h4
 refine Gx 1 Z (Ef j (Cn Z h (λ_ h=>?_) (λ_ h=>?_)))
 .exact au h
 refine Gc 8 Z (Bd h λae af h=>FT (b:=ae) [0,1,2] [2,3,5] Ze Ze Zf ?_ (λan env H y j=>?_))
 .refine G0 1 Z (Lp [0,1,2] [2,3,5,6] (λk=>[(7,I k)]) Ze af Zf (Lr [0,1,2]) λk av g z=>?_);refine G0 8 Z (Q7 Z g (λ_ g=>?_) (λ_ g=>?_))
  .exact Jc z g
  refine Gc 22 Z (Bd g λB ag g=>Ct B [0,1,2] [2,3,5,6,7] (λB=>[(8,I B)]) Ze Zf ?_ (λenv H j=>?_))
  .exact au ag
  refine Gx 2 Z (Ef j (Gc 1 Z (Bd g λE d g=>Ct E [0,1,2] [2,3,5,6,7] (λE=>[(61,.b E)]) Ze Zf ?_ (λenv H j=>?_))))
  .refine G0 0 Z (DR 25 Z (D 4 Z ?_));obtain⟨ah,F,d⟩:=QF d;refine DS.v (x:=(.p 2 (toNat k*1))) (Qf F Z EC ED) ?_;refine DS.v (x:=(I ah)) (EA Z EF Z (Qi F)) ?_;obtain⟨R,W,d⟩:=QF d;refine DS.wo (x:=.rp [.str R.Ap,I R.AY]) ?_ ?_
   .exact Ix W runUnderlying22 sizeOf207 Z Wp
   refine D 5 Z (DS.is 11 d Z Z Z (λ_ d=>?_) (λ_ d=>?_))
   .exact au d
   .refine D 3 Z (DS.is 14 d Z Z Z (λ_ d=>?_) (λ_ d=>?_))
    .refine D 4 Z ?_;obtain⟨ai,G,d⟩:=QF d;refine DS.v (x:=(.p 2 (toNat (i64.wrap (k-1))*1))) (Qf G Z EC ED) ?_ (hg:=(gT Z));refine DS.v (x:=(I ai)) (EA Z EF Z (Qi G)) ?_ (hg:=(gT Z));refine D 2 Z ?_;obtain⟨aj,J,d⟩:=QF d;refine DS.v (x:=(.p 2 (toNat k*1))) (Qf J Z EC ED) ?_ (hg:=(gT Z));refine DS.v (x:=(I aj)) (EA Z EF Z (Qi J)) ?_ (hg:=(gT Z));exact au d
    exact au d
  refine Gx 1 Z (Ef j (Cn Z g (λ_ g=>?_) (λ_ g=>?_)))
  .exact DV z g h
  exact au g
 subst y;refine Gx 1 Z (Ef j (Gc 2 Z (Bd h λL ak h=>Ct L [1,2] [3,5] (λL=>[(90,.b L)]) Ze Zf ?_ (λenv H j=>?_))))
 .exact au ak
 refine Gx 1 Z (Ef j (Cn Z h (λ_ h=>?_) (λ_ h=>?_)))
 .exact au h
 refine Gc 8 Z (Bd h λal am h=>D5 (b:=al) [] [] Ze Ze Zf ?_ (λ_ y=>?_))
 .refine G0 1 Z (Lp [0,1] [3,5] (λM=>[(9,I M)]) Ze am Zf (Lr [0,1]) λM aq f t=>?_);refine G0 6 Z (Lg 3 Z Z (Q7 Z f (λ_ f=>?_) (λ_ f=>?_)))
  .exact Jc t f
  refine Gc 5 Z (DR 14 Z (D 4 Z ?_));obtain⟨m,O,f⟩:=QF f;refine DS.wo (x:=.rp [I m.Am,I m.B9,I m.Bu]) ?_ ?_
  .exact Ix O Gz sizeOf226 Z Wp
  refine D 2 Z ?_;obtain⟨ac,P,f⟩:=QF f;refine DS.wo (x:=I ac) ?_ ?_
  .refine ZI (C6.fn call115 rfl rfl rfl) (Dn.cons rfl (.inr ⟨_,_,_,_,_,rfl,rfl,X2 ..,rfl⟩) (Dn.cons rfl (.inl ⟨rfl,rfl⟩) Dn.nil)) ((jH _ _ _).c _ P) (by rintro _ _ ⟨rfl,rfl⟩;rfl) ?_;rintro _ _ ⟨rfl,rfl⟩;exact FE Z Wp
  refine D 3 Z ?_;obtain⟨q,Q,f⟩:=QF f;refine DS.wo (x:=.rp [I q.Am,I q.B9,I q.Bu]) ?_ ?_
  .exact Ix Q Gz sizeOf226 Z Wp
  exact DV t f h
 subst y;exact au h
def Sx(f:CB)(d:Int):AB (CG Int (CG Unit Int)):=(bif d<(AI f.AO:Int) then AH (CJ f.AO d) λg=>AH (N6 n f g) λh=>(bif (!h)then AC (.d (.d 72))else AC (.k (i64.wrap (d+1))))else AC (.d (.k ())))
def HD(d:CB):AB Int:=AH (OG n d) λj=>(bif (!j)then AC 2 else AH (OH n d) λk=>(bif (!k)then AC 70 else AH (Ov n d) λm=>(bif (!m)then AC 71 else AH (O2 n d.BL) λg=>(bif (g != 0)then AC g else AH (iter (Sx n d) n 0:AB (CG Unit Int)) λh=>match h with|.k f=>(AC 0)|.d f=>AC f))))
instance k_e(q:CB):Ks (HD n q) 18 [.a (CB.c q)] [] (λr=>I r):=by
 refine Kg 10 func18 Z Z Z Z λr h=>Cz [] h Kc Z λP J h=>Go 3 Z (Cn Z h (λ_ h=>?_) (λ_ h=>?_))
 .exact au h
 refine Gc 6 Z (Cz [] h Kc Z λQ L h=>Go 3 Z (Cn Z h (λ_ h=>?_) (λ_ h=>?_)))
 .exact au h
 refine Gc 6 Z (Cz [] h Kc Z λR M h=>Go 3 Z (Cn Z h (λ_ h=>?_) (λ_ h=>?_)))
 .exact au h
 refine Gc 6 Z (Cz [] h Kc Z λT N h=>Go 10 Z (Cn Z h (λ_ h=>?_) (λ_ h=>?_)))
 .exact au h
 refine Gc 8 Z (Bd h λE F h=>D5 (b:=E) [] [] Ze Ze Zf ?_ (λ_ G=>?_))
 .refine G0 1 Z (Lp [0] [1] (λj=>[(4,I j)]) Ze F Zf (Lr [0]) λj O d g=>(G0 6 Z (Lg 3 Z Z (Q7 Z d (λ_ d=>?_) (λ_ d=>?_)))))
  .exact Jc g d
  refine Gc 5 Z (DR 6 Z (D 4 Z ?_));obtain⟨f,m,d⟩:=QF d;refine DS.wo (x:=.rp [.str f.Ap,.q 3 (map CH.enc f.Ad),I f.BH,.q 3 (map CO.c f.Ar),I f.Ak]) ?_ ?_
  .exact Ix m EK EU Z Wp
  exact DV g d h
 subst G;exact au h
def UU(n:Nat)(f:AA CH)(k:Int)(rec240:(AA CH)->Int->AB Int)(d:Int×Int):AB (CG (Int×Int) Int):=AH ((bif d.2<(AI f:Int) then AC (AG (d.1<500))else AC AD):AB Bool) λg=>(bif g then AH (CJ f d.2) λh=>AH (rec240 h.Ac (i64.wrap (k+1))) λj=>AC (.k (i64.wrap (d.1+j),i64.wrap (d.2+1)))else AC (.d d.1))
def Pd(rec240:(AA CH)->Int->AB Int)(n:Nat)(d:AA CH)(f:Int):AB Int:=(bif 20<f then AC 500 else AH (iter (UU n d f rec240) n ((AI d:Int),0):AB Int) λg=>AC g)
theorem Qbq(rec240:(AA CH)->Int->AB Int)(y:∀(f:AA CH) (g:Int),Ks (rec240 f g) 116 [.q 3 (map CH.enc f),I g] [] (λr=>I r))(n:Nat)(f:AA CH)(g:Int):Ks (Pd rec240 n f g) 116 [.q 3 (map CH.enc f),I g] [] (λr=>I r):=by
 refine Kg 8 func116 Z Z Z Z λr h=>Lg 10 Z Z (Cn Z h (λ_ h=>?_) (λ_ h=>?_))
 .exact au h
 refine Gc 8 Z (Bd h λj B h=>Cg j [] [] (λj=>[(5,I j)]) Ze Zf ?_ ?_)
 .refine G0 1 Z (Lp [] [0,1] (λk=>[(5,I k.1),(6,I k.2)]) Ze B Zf (Lr []) λk H d q=>?_);refine G0 2 Z (Bd d λm E d=>Cg m [] [0,1,5,6] (λm=>[(18,.b m)]) Ze Zf ?_ ?_)
  .exact au E
  refine Q7 Z d (λ_ d=>?_) (λ_ d=>?_)
  .exact Jc q d
  exact Gc 8 Z (Bd d λF x d=>FJ x (QL F) Z (Go 4 Z (Cz [] d Kc Z λJ G d=>Go 10 Z (Q1 d (Lr [])))))
 exact au h
def MT:Nat->(AA CH)->Int->AB Int
  |0=>λ_ _=>AF
  |n+1=>Pd (MT n) n
instance yX:∀(d:AA CH) (f:Int),Ks (MT n d f) 116 [.q 3 (map CH.enc d),I f] [] (λr=>I r):=by
  induction n with
  |zero=>exact λ_ _=>⟨nofun⟩
  |succ n ih=>exact Qbq _ ih n
def TN(n:Nat)(f:AA AR)(k:Int)(rec242:(AA AR)->Int->AB Int)(d:Int×Int):AB (CG (Int×Int) Int):=AH ((bif d.2<(AI f:Int) then AC (AG (d.1<500))else AC AD):AB Bool) λg=>(bif g then AH (CJ f d.2) λh=>AH (rec242 h.Ac (i64.wrap (k+1))) λj=>AC (.k (i64.wrap (d.1+j),i64.wrap (d.2+1)))else AC (.d d.1))
def Pe(rec242:(AA AR)->Int->AB Int)(n:Nat)(d:AA AR)(f:Int):AB Int:=(bif 20<f then AC 500 else AH (iter (TN n d f rec242) n ((AI d:Int),0):AB Int) λg=>AC g)
theorem Qbe(rec242:(AA AR)->Int->AB Int)(y:∀(f:AA AR) (g:Int),Ks (rec242 f g) 187 [.q 4 (map AR.enc f),I g] [] (λr=>I r))(n:Nat)(f:AA AR)(g:Int):Ks (Pe rec242 n f g) 187 [.q 4 (map AR.enc f),I g] [] (λr=>I r):=by
 refine Kg 8 func187 Z Z Z Z λr h=>Lg 10 Z Z (Cn Z h (λ_ h=>?_) (λ_ h=>?_))
 .exact au h
 refine Gc 8 Z (Bd h λj B h=>Cg j [] [] (λj=>[(5,I j)]) Ze Zf ?_ ?_)
 .refine G0 1 Z (Lp [] [0,1] (λk=>[(5,I k.1),(6,I k.2)]) Ze B Zf (Lr []) λk H d q=>?_);refine G0 2 Z (Bd d λm E d=>Cg m [] [0,1,5,6] (λm=>[(18,.b m)]) Ze Zf ?_ ?_)
  .exact au E
  refine Q7 Z d (λ_ d=>?_) (λ_ d=>?_)
  .exact Jc q d
  exact Gc 8 Z (Bd d λF x d=>FJ x (Jf F) Z (Go 4 Z (Cz [] d Kc Z λJ G d=>Go 10 Z (Q1 d (Lr [])))))
 exact au h
def MU:Nat->(AA AR)->Int->AB Int
  |0=>λ_ _=>AF
  |n+1=>Pe (MU n) n
instance yY:∀(d:AA AR) (f:Int),Ks (MU n d f) 187 [.q 4 (map AR.enc d),I f] [] (λr=>I r):=by
  induction n with
  |zero=>exact λ_ _=>⟨nofun⟩
  |succ n ih=>exact Qbe _ ih n
def T7(f:AA AX)(g:Int)(rec241:(AA AX)->Int->AB Int)(d:Int×Int):AB (CG (Int×Int) Int):=AH ((bif d.2<(AI f:Int) then AC (AG (d.1<500))else AC AD):AB Bool) λh=>(bif h then AH (CJ f d.2) λj=>AH (MU n [j.AR] 0) λk=>AH (CJ f d.2) λm=>AH (rec241 m.BX (i64.wrap (g+1))) λq=>AH (CJ f d.2) λt=>AH (rec241 t.Be (i64.wrap (g+1))) λx=>AC (.k (i64.wrap ((i64.wrap ((i64.wrap (d.1+k))+q))+x),i64.wrap (d.2+1)))else AC (.d d.1))
def Ph(rec241:(AA AX)->Int->AB Int)(n:Nat)(d:AA AX)(f:Int):AB Int:=(bif 20<f then AC 500 else AH (iter (T7 n d f rec241) n ((AI d:Int),0):AB Int) λg=>AC g)
theorem Qbd(rec241:(AA AX)->Int->AB Int)(J:∀(k:AA AX) (m:Int),Ks (rec241 k m) 117 [.q 8 (map AX.enc k),I m] [] (λr=>I r))(n:Nat)(k:AA AX)(m:Int):Ks (Ph rec241 n k m) 117 [.q 8 (map AX.enc k),I m] [] (λr=>I r):=by
 refine Kg 8 func117 Z Z Z Z λr h=>Lg 10 Z Z (Cn Z h (λ_ h=>?_) (λ_ h=>?_))
 .exact au h
 refine Gc 8 Z (Bd h λq M h=>Cg q [] [] (λq=>[(5,I q)]) Ze Zf ?_ ?_)
 .refine G0 1 Z (Lp [] [0,1] (λt=>[(5,I t.1),(6,I t.2)]) Ze M Zf (Lr []) λt R d z=>?_);refine G0 2 Z (Bd d λy O d=>Cg y [] [0,1,5,6] (λy=>[(18,.b y)]) Ze Zf ?_ ?_)
  .exact au O
  refine Q7 Z d (λ_ d=>?_) (λ_ d=>?_)
  .exact Jc z d
  refine Gc 4 Z (DR 26 Z (D 3 Z ?_));obtain⟨f,E,d⟩:=QF d;refine DS.v (x:=(.rp [I f.AY,I f.By,I f.AR.AY,I f.AR.Bw,I f.AR.N,.q 4 (map AR.enc f.AR.Ac),.q 8 (map AX.enc f.BX),.q 8 (map AX.enc f.Be)])) (lK (e:=AX.enc) E (Yq f) GG GX) ?_;refine D 2 Z ?_;refine DS.wo (x:=.q 4 (map AR.enc [f.AR])) ?_ ?_
  .refine vH (QM (xs:=[.tmp 26]) (es:=[AR.c f.AR]) _B Z Z Z Z Z ⟨Z,trivial⟩ Z Z) ?_;refine NV (x:=(.q 4 (map AR.enc [f.AR]))) (H:=[]) (by simp[Jf]) Z ?_;exact Wp
  refine Dz [] d Kc Z λT P d=>D 3 Z ?_;obtain⟨g,F,d⟩:=QF d;refine DS.v (x:=(.rp [I g.AY,I g.By,I g.AR.AY,I g.AR.Bw,I g.AR.N,.q 4 (map AR.enc g.AR.Ac),.q 8 (map AX.enc g.BX),.q 8 (map AX.enc g.Be)])) (lK (e:=AX.enc) F (Yq g) GG GX) ?_;refine D 4 Z ?_;refine Dz [] d Kc Z λV Q d=>D 3 Z ?_;obtain⟨j,G,d⟩:=QF d;refine DS.v (x:=(.rp [I j.AY,I j.By,I j.AR.AY,I j.AR.Bw,I j.AR.N,.q 4 (map AR.enc j.AR.Ac),.q 8 (map AX.enc j.BX),.q 8 (map AX.enc j.Be)])) (lK (e:=AX.enc) G (Yq j) GG GX) ?_;exact au d
 exact au h
def MX:Nat->(AA AX)->Int->AB Int
  |0=>λ_ _=>AF
  |n+1=>Ph (MX n) n
instance yc:∀(d:AA AX) (f:Int),Ks (MX n d f) 117 [.q 8 (map AX.enc d),I f] [] (λr=>I r):=by
  induction n with
  |zero=>exact λ_ _=>⟨nofun⟩
  |succ n ih=>exact Qbd _ ih n
end Go.Sw
