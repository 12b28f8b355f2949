/- What the functions compute that OutcomeWays reaches, and that their calls refine it (part 4 of 6). -/
import Derived.Test.YtbiglpikpigidaaGreatW23Wa3
set_option linter.unusedVariables false
set_option linter.unusedSimpArgs false
set_option maxRecDepth 100000
set_option maxHeartbeats 4000000
namespace Go.Sw
open Option renaming some→AC,none→AF,bind→AH
open Bool renaming false→AD,true→AE
open Decidable renaming decide→AG
open List renaming length→AI
variable (n:Nat)
open List(map)
open Int(toNat)
open Go.IntKind(i64 u64 u8)
open Go.Proofs Tryz
def I8(f:AA CB)(d:(AA CB)×Int×Int):AB (CF ((AA CB)×Int×Int) (AA CB)):=(bif d.2.2<(AI f:Int) then AH (CI f d.2.2) λh=>AH (MW n h d.2.1 d.1) λg=>AC (.k (g.2,g.1,i64.wrap (d.2.2+1)))else AC (.d d.1))
def Ih(d:AA CB):AB (AA CB):=AH (O_ n d) λm=>AH ((bif m then AH (Kn n) λB=>AH (app [] [{A':=AE,A_:=(-1),Lo:=0,Hi:=0:CB}]) λq=>AC q else AC []):AB (AA CB)) λt=>AH (V1 n d) λf=>AH (PY n f) λg=>AH (L8 (λx y=>Po n x y) g) λh=>AH (iter (I8 n h) n (t,(-1),0):AB (AA CB)) λj=>AC j
instance j_(J:AA CB):Kq (Ih n J) 15 [.q 4 (map CB.c J)] [] (λr=>.o 0 (AI r) 4) (λr=>[.r 77 4 (map CB.c r),.c 51 [.o 0 (AI r) 4]]):=by
 refine Kg 9 func15 Z Z Z Z λr h=>Cz [] h Kc Z λr1 T h=>Go 2 Z (Bd h λE g h=>Ct E [0,0] [0,2] Ze (λE=>[(0,.c 51 [.o 1 (AI E) 4]),(1,.r 77 4 (map CB.c E))]) Zf ?_ (λenv H L=>?_))
 .refine G0 0 Z (Cn Z g (λ_ g=>?_) (λ_ g=>?_))
  .refine HY 3 [1] [(0,0,1),(1,0,0),(0,1,1)] (by kernel_rfl) ?_;refine KG (lo:=0) (x:=.n) ⟨Z,trivial⟩ ?_;obtain⟨r8,N,g⟩:=Qw g;refine Ex (x:=.a [.b AE,I (-1),I 0,I 0]) (X1:=[.c 51 [.n],.c 77 [.b AE,I (-1),I 0,I 0]]) ?_ ?_
   .refine Qf [] (C6.fn call53 Z Z Z) ((ZB _).c _ N) ?_;rintro _ _ ⟨rfl,rfl⟩;exact FE Z Wp
   refine DK.wo (x:=.q 4 (map CB.c [{A':=AE,A_:=(-1),Lo:=0,Hi:=0:CB}])) ?_ ?_
   .refine vH (QN (xs:=[.tmp 11]) Jm Z Z Z Z Z ⟨Z,trivial⟩ Z Z) ?_;exact FE Z Wp
   refine DK.done Z Z (Bd g λl9 O g=>?_);refine vH (Qpz O Jm ED L9) ?_;exact au g
  refine Gc 1 Z ?_;cases g;refine En (Ye (i:=0) (m:=0) (t:=77) (k:=4) Z Z Z) ?_;exact Lr [0,1]
 refine Gx 1 Z (Ee L (Gc 3 Z (Cd [] h Kc Z λV Q h=>FE Z (Cd [2] h Kc Z λW R h=>Fg 6 Z Z (Bd h λX q h=>?_)))));refine Qf [2] (C6.fn call57 Z Z Z) (qU Qhy q (λx y c h=>(jf n x y).c c h) Gg EG call58 Zf Z) ?_;rintro _ _ ⟨rfl,rfl⟩;refine FE Z ?_;refine Et (Q8 (s:=3) Z (congrArg (λn=>A.s 2 0 n 4) (eG q))) ?_;refine Go 22 Z (Bd h λj P h=>Cg j [0,1] [2] Ze (λj=>[(0,.c 51 [.o 1 (AI j) 4]),(1,.r 77 4 (map CB.c j))]) Zf ?_ ?_)
 .refine G0 1 Z (Lp [0,1,3,2] [2,5,20,21] (λf=>[(22,I f.2.2)]) (λf=>[(0,.c 51 [.o 1 (AI f.1) 4]),(1,.r 77 4 (map CB.c f.1)),(2,.c 3 [I f.2.1])]) P Zf (Lr [0,1,3,2]) λf Y d F=>?_);refine G0 6 Z (Q5 Z d (λ_ d=>?_) (λ_ d=>?_))
  .exact Je F d
  refine Gc 6 Z (Bd d λaa B d=>?_);refine vV (Qd B Z ED EG) ?_;refine vV (Qt Z Gg EG Z (Qh B) Z Z) ?_;exact au d
 exact au h
def Ku(f:(AA CU)×Int)(m:Ui×Int)(d:(AA CB)×Int):AB (CF ((AA CB)×Int) (AA CB)):=(bif d.2<(AI f.1:Int) then AH (CI f.1 d.2) λg=>AH (J8 n m.1 g) λh=>AH (app d.1 h) λj=>AC (.k (j,i64.wrap (d.2+1)))else AC (.d d.1))
def KB(g:CA)(h:CD)(j:AO)(m:AA CL)(q:AA Ac)(E:AA CE)(F:Int):AB ((AA CB)×Int):=AH (Mp n g h j m q E F) λt=>AH (HW n g h j t.BV m q) λd=>AH ((bif (d.2 != 0)then AC (d.2 != 2)else AC AD):AB Bool) λG=>(bif G then AC ([],d.2)else AH (IH n t) λf=>(bif (f.2 != 0)then AC ([],f.2)else(bif (d.2==2)then AH (K5 n f.1) λx=>AC (x,0)else AH (iter (Ku n d f) n ([],0):AB (AA CB)) λy=>AH (Ih n y) λB=>AC (B,0))))
instance bE(E:CA)(F:CD)(G:AO)(J:AA CL)(L:AA Ac)(M:AA CE)(N:Int):Kq (KB n E F G J L M N) 8 [.a (CA.c E),.a (CD.c F),.a (AO.c G),.q 5 (map CL.c J),.q 4 (map Ac.c L),.q 4 (map CE.c M),I N] [] (λr=>.t [.o 0 (AI r.1) 4,I r.2]) (λr=>[.r 77 4 (map CB.c r.1)]):=by
 refine Kg 18 func8 Z Z Z Z λr h=>Cd [] h Kc Z λr1 X h=>Fg 13 Z Z (Cd [] h Kc Z λr2 Y h=>Fg 9 Z Z (Bd h λm V h=>Ct m [4,5] [14,15,16,17] (λm=>[(45,.b m)]) Ze Zf ?_ (λenv H O=>?_)))
 .exact au V
 refine Gx 1 Z (Ee O (Cn Z h (λ_ h=>?_) (λ_ h=>?_)))
 .refine Gc 9 Z ?_;obtain rfl:=Oi h;refine R2 14 15 Z Z ?_;refine En (Er (s:=14) (k:=4) (t:=77) (XQ Z) Z) ?_;exact Lr [2]
 refine Gc 5 Z (Cd [0] h Kc Z λr8 aa h=>Fg 9 Z Z (Cn Z h (λ_ h=>?_) (λ_ h=>?_)))
 .refine Gc 9 Z ?_;obtain rfl:=Oi h;refine R2 14 15 Z Z ?_;refine En (Er (s:=14) (k:=4) (t:=77) (XQ Z) Z) ?_;exact Lr [2]
 refine Gc 9 Z (Cn Z h (λ_ h=>?_) (λ_ h=>?_))
 .exact au h
 refine Gc 10 Z (Bd h λg R h=>Cg g [0] [] (λg=>[(14,.o 0 (AI g) 4)]) (λg=>[(0,.r 77 4 (map CB.c g))]) Zf ?_ ?_)
 .refine G0 1 Z (Lp [0,0,1] [55,56] (λf=>[(14,.o 0 (AI f.1) 4),(16,.p 1 0),(57,I f.2)]) (λf=>[(0,.r 77 4 (map CB.c f.1))]) R Zf ?_ ?_)
  .refine En (Er (s:=14) (k:=4) (t:=77) (XQ Z) Z) ?_;exact Lr [2,0,1]
  intro f ab d x;refine G0 6 Z (Q5 Z d (λ_ d=>?_) (λ_ d=>?_))
  .exact Je x d
  refine Gc 6 Z (Bd d λT j d=>?_);refine vX (.p 2 (toNat f.2*2)) (Qd j Z GI GS) ?_;refine vX (.a (CU.c T)) (Qt Z isAgg75 GS Z (Qh j) Z Z) ?_;refine Go 8 Z (Cd [] d Kc Z λac W d=>FE Z (Bd d λad B d=>vH (Qj (e:=CB.c) B Jm ED (QE (i:=4))) ?_));exact au d
 refine Gc 3 Z ?_;refine Et (Ym [(14,_),(67,_)] Z Z (Cx.cons Z Ep (Cx.cons Z Ep Cx.nil)) (Ec (QQ _))) ?_;exact au h
def e7(n:Nat)(f:AA CB)(j:AA CB)(d:Int):AB (CF Int (CF Unit Bool)):=(bif d<(AI f:Int) then AH (CI f d) λg=>AH (CI j d) λh=>(bif (g != h)then AC (.d (.d AD))else AC (.k (i64.wrap (d+1))))else AC (.d (.k ())))
def Pp(f:AA CB)(g:AA CB):AB Bool:=(bif ((AI f:Int) != (AI g:Int))then AC AD else AH (iter (e7 n f g) n 0:AB (CF Unit Bool)) λh=>match h with|.k d=>(AC AE)|.d d=>AC d)
instance jh(B:AA CB)(E:AA CB):Ks (Pp n B E) 12 [.q 4 (map CB.c B),.q 4 (map CB.c E)] [] (λr=>.b r):=by
 refine Kg 9 func12 Z Z Z Z λr h=>Lg 1 Z Z (Lg 3 Z Z (Cn Z h (λ_ h=>?_) (λ_ h=>?_)))
 .exact au h
 refine Gc 8 Z (Bd h λG H h=>D4 (b:=G) [] [] Ze Ze Zf ?_ (λ_ J=>?_))
 .refine G0 1 Z (Lp [] [0,1] (λm=>[(5,I m)]) Ze H Zf (Lr []) λm M d j=>(G0 5 Z (Lg 3 Z Z (Q5 Z d (λ_ d=>?_) (λ_ d=>?_)))))
  .exact Je j d
  refine Gc 5 Z (DP 8 Z (D 2 Z ?_));obtain⟨f,t,d⟩:=Qw d;refine DS.wo (x:=.rp [.b f.A',I f.A_,I f.Lo,I f.Hi]) ?_ ?_
  .exact Ix t ED EG Z Wp
  refine D 3 Z ?_;obtain⟨g,y,d⟩:=Qw d;refine DS.wo (x:=.rp [.b g.A',I g.A_,I g.Lo,I g.Hi]) ?_ ?_
  .exact Ix y ED EG Z Wp
  refine D 1 Z (Eg Z (vV (sr po Z Z) ?_));exact DZ j d h
 subst J;exact au h
def LC(f:Int)(g:AA Ac)(h:AA CE)(j:AA CB):AB Bool:=AH (fF n f) λm=>AH (LD n) λx=>AH (KB n ({Ao:=[99],Ar:=[{Ao:=[115],AX:=1:Al},{Ao:=[101],AX:=3:Al}],Az:=[{BA:=0,To:=1,Bl:=10,Bq:=1000:Cp}],AP:=m,A0:=[{Ao:=[119],B9:=0:A2}],Ab:=[],AV:=[],Ay:=[],BN:=[{UI with AX:=1,By:=4:AY}],AQ:=Uw,Bj:=0,Av:=0:CA}) ({AR:=[],BP:=[[0]]:CD}) ({UH with BT:=1:AO}) [] g h (-1)) λd=>AH (AH (Pp n d.1 j) λq=>(bif q then AC (d.2==0)else AC AD):AB Bool) λt=>AC t
instance Na(d:Int)(f:AA Ac)(g:AA CE)(j:AA CB):Ks (LC n d f g j) 19 [I d,.q 4 (map Ac.c f),.q 4 (map CE.c g),.q 4 (map CB.c j)] [] (λr=>.b r):=by
 refine Kg 8 func19 Z Z Z Z λr h=>Cd [] h Kc Z λx q h=>FE Z (Cd [] h Kc Z λy t h=>Fg 3 Z Z ?_);refine Et (Ym [(13,_)] Z Z (Cx.cons Z (DO.agg (CN.k (Ed Ep (Ej _)))) Cx.nil) (Ec (Ec (Ec (Ec (Ec (Dg.cells (CN.k (Ed Ep (Ej _))) (QQ _)))))))) (Et (Ym [(13,_)] Z Z (Cx.cons Z (DO.agg (CN.k (CN.k (Ed Ep (Ej _))))) Cx.nil) (Ec (Ec (Ec (Ec (Ec (Dg.cells (CN.k (CN.k (Ed Ep (Ej _)))) (QQ _)))))))) ?_);refine Et (Ym [(13,_)] Z Z (Cx.cons Z (DO.agg (CN.k (CN.k (CN.k (Ed Ep (Ej _)))))) Cx.nil) (Ec (Ec (Ec (Ec (Ec (Dg.cells (CN.k (CN.k (CN.k (Ed Ep (Ej _))))) (QQ _)))))))) ?_;refine Et (Ym [(13,_)] Z Z (Cx.cons Z (DO.agg (CN.k (CN.k (CN.k (CN.k (Ed Ep (Ej _))))))) Cx.nil) (Ec (Ec (Ec (Ec (Ec (Dg.cells (CN.k (CN.k (CN.k (CN.k (Ed Ep (Ej _)))))) (QQ _)))))))) (Et (Ym [(13,_)] Z Z (Cx.cons Z (DO.agg (CN.k (CN.k (CN.k (CN.k (CN.k (CN.k (CN.k (CN.k (Ed Ep (Ej _))))))))))) Cx.nil) (Ec (Ec (Ec (Ec (Ec (Dg.cells (CN.k (CN.k (CN.k (CN.k (CN.k (CN.k (CN.k (CN.k (Ed Ep (Ej _)))))))))) (QQ _)))))))) ?_);refine Et (Ym [(14,_)] Z Z (Cx.cons Z (DO.agg (CN.k (Ed Ep (Ej _)))) Cx.nil) (Ec (Ec (Ec (Ec (Ec (Ec (Ec (Dg.cells (CN.k (Ed Ep (Ej _))) (QQ _)))))))))) (Bd h λB m h=>?_);refine Qf [] (C6.fn call8 Z Z Z) (C.nils (FT.eq (FT.eq (FT.eq (FT.nl (FT.eq (FT.eq (FT.eq FT.nil))))))) ((bE _ _ _ _ _ _ _ _).c _ m)) ?_;rintro _ _ ⟨rfl,rfl⟩;exact au h
def Ms(n:Nat):AB Unit:=AC ()
instance NZ:Kq (Ms n) 20 [] [] (λ_=>.o 0 ([{BT:=1,AT:=0,Lo:=0,Hi:=5:Ac},{BT:=1,AT:=1,Lo:=100,Hi:=101:Ac}].length) 4) (λ_=>[.r 104 4 (map Ac.c [{BT:=1,AT:=0,Lo:=0,Hi:=5:Ac},{BT:=1,AT:=1,Lo:=100,Hi:=101:Ac}])]):=KA func20
def KC(f:CD)(d:CB):AB Int:=AH (JW n f) λg=>(bif (g != 0)then AC g else AH ((bif (-1)<=d.A_ then(bif d.A_<(AI f.AR:Int) then(bif (-288230376151711744)<=d.Lo then(bif d.Lo<=d.Hi then AC (AG (d.Hi<=288230376151711744))else AC AD)else AC AD)else AC AD)else AC AD):AB Bool) λj=>AH ((bif d.A' then AH (Kn n) λm=>AC (d==({A':=AE,A_:=(-1),Lo:=0,Hi:=0:CB}))else AC j):AB Bool) λh=>(bif (!h)then AC 230 else AC 0))
instance SB(y:CD)(g:CB):Ks (KC n y g) 18 [.a (CD.c y),.a (CB.c g)] [] (λr=>I r):=by
 refine Kg 11 func18 Z Z Z Z λr h=>Cz [] h Kc Z λL G h=>Go 9 Z (Cn Z h (λ_ h=>?_) (λ_ h=>?_))
 .exact au h
 refine Gc 3 Z (Bd h λj F h=>Ct j [1] [3] (λj=>[(6,.b j)]) Ze Zf ?_ (λenv H E=>?_))
 .exact au F
 refine Gx 1 Z (Ee E (Gc 7 Z (Bd h λf d h=>Cg f [] [] (λf=>[(6,.b f)]) Ze Zf ?_ ?_)))
 .refine G0 0 Z (Cn Z d (λ_ d=>?_) (λ_ d=>?_))
  .refine HY 2 [1] [(0,0,1),(1,0,0)] (by kernel_rfl) ?_;refine KG (lo:=0) ⟨Z,trivial⟩ ?_;obtain⟨J,t,d⟩:=Qw d;refine Ex (x:=.a [.b AE,I (-1),I 0,I 0]) (X1:=[.c 77 (CB.c g),.c 77 [.b AE,I (-1),I 0,I 0]]) ?_ ?_
   .refine Qf [] (C6.fn call53 Z Z Z) ((ZB _).c _ t) ?_;rintro _ _ ⟨rfl,rfl⟩;exact FE Z Wp
   refine DK.done Z Z ?_;refine vV (iQ (p:=g) (q:={A':=AE,A_:=(-1),Lo:=0,Hi:=0:CB}) po Z Z) ?_;exact Gl 2 Z d []
  exact au d
 exact au h
def W5(f:CD)(d:CB):AB (CJ×Int):=AH (KC n f d) λg=>(bif (g != 0)then AC ({Lo:=0,Hi:=0:CJ},g)else(bif d.A' then AC ({Lo:=0,Hi:=0:CJ},230)else AH (MU n f d.A_ ({Lo:=d.Lo,Hi:=d.Hi:CJ})) λh=>AC ({Lo:=h.Lo,Hi:=h.Hi:CJ},0)))
instance bB(d:CD)(f:CB):Kq (W5 n d f) 21 [.a (CD.c d),.a (CB.c f)] [] (λr=>.t [.a [I r.1.Lo,I r.1.Hi],I r.2]) (λr=>[.c 83 [I r.1.Lo,I r.1.Hi]]):=KA func21
abbrev Ho:AA CB:=[{A':=AE,A_:=(-1),Lo:=0,Hi:=0:CB},{A':=AD,A_:=(-1),Lo:=100,Hi:=101:CB}]
abbrev C3:AA Ac:=[{BT:=1,AT:=0,Lo:=0,Hi:=5:Ac},{BT:=1,AT:=1,Lo:=100,Hi:=101:Ac}]
abbrev RE:AA CB:=[{A':=AD,A_:=1,Lo:=1,Hi:=2:CB},{A':=AD,A_:=1,Lo:=3,Hi:=4:CB}]
abbrev Hn:AA CB:=[{A':=AD,A_:=(-1),Lo:=100,Hi:=101:CB}]
abbrev Hm:AA CB:=[{A':=AD,A_:=(-1),Lo:=160,Hi:=161:CB}]
abbrev FM:AA CB:=[{A':=AE,A_:=(-1),Lo:=0,Hi:=0:CB}]
abbrev Hl:AA CE:=[{UB with A':=AE:CE}]
abbrev Hj:AA CE:=[{UB with BW:=60:CE}]
abbrev KI:CD:={AR:=[],BP:=[[0]]:CD}
def Wz:AB Bool:=AH (AH (LC n 0 [] [] FM) λf=>(bif (!f)then AC AE else AH (Ms n) λF=>AH (LC n 0 C3 [] Hn) λg=>(bif (!g)then AC AE else AH (Ms n) λG=>AH (LC n 0 C3 Hl FM) λh=>(bif (!h)then AC AE else AH (Ms n) λH=>AH (LC n 100 C3 [] Ho) λj=>(bif (!j)then AC AE else AH (Ms n) λJ=>AH (LC n 0 C3 Hj Hm) λm=>AC (!m))))):AB Bool) λq=>(bif q then AC AD else AH (LD n) λL=>AH (W5 n (KI) ({A':=AD,A_:=(-1),Lo:=100,Hi:=101:CB})) λd=>AH (LD n) λM=>AH (W5 n (KI) ({A':=AE,A_:=(-1),Lo:=0,Hi:=0:CB})) λt=>AH ((bif (({Lo:=d.1.Lo,Hi:=d.1.Hi:CJ})==({Lo:=100,Hi:=101:CJ}))then(bif (d.2==0)then(bif (t.2==230)then AH (LD n) λN=>AH (KC n (KI) ({A':=AE,A_:=(-1),Lo:=0,Hi:=0:CB})) λx=>(bif (x==0)then AH (LD n) λO=>AH (KC n (KI) Uz) λy=>(bif (y==230)then AH (Ih n RE) λB=>AC ((AI B:Int)==1)else AC AD)else AC AD)else AC AD)else AC AD)else AC AD):AB Bool) λE=>AC E)
instance jX:Ks (Wz n) 6 [] [] (λr=>.b r):=by
 refine Kg 28 func6 Z Z Z Z λr h=>Bd h λm g h=>Ct m [0,1] [1,2] (λm=>[(47,.b m)]) Ze Zf ?_ (λenv H am=>?_)
 .refine G0 0 Z (HY 34 [5,12,21,29] [(0,0,0),(0,0,0),(0,0,0),(0,0,0),(0,0,0),(1,0,0),(0,0,1),(0,0,1),(0,1,1),(0,1,1),(0,1,1),(0,1,1),(1,1,0),(0,1,2),(0,1,2),(0,1,2),(0,1,2),(0,2,2),(0,2,2),(0,2,2),(0,2,2),(1,2,0),(0,2,3),(0,2,3),(0,2,3),(0,3,3),(0,3,3),(0,3,3),(0,3,3),(1,3,0),(0,3,4),(0,3,4),(0,3,4),(0,3,4)] (by kernel_rfl) (Dk 1 Z ?_));refine DK.wo (x:=.q 4 (map CB.c FM)) ?_ ?_
  .refine vH (QN (xs:=[.tmp 11]) (es:=map CB.c FM) Jm Z Z Z Z Z ⟨Z,trivial⟩ Z Z) ?_;refine aV (.q 4 (map CB.c FM)) [_,_,_] Z Z ?_;exact Wp
  obtain⟨G,N,g⟩:=Qw g;refine DK.wo (x:=.b G) ?_ ?_
  .refine Qf [] (C6.fn call19 Z Z Z) (C.nils (FT.eq (FT.nl (FT.nl (FT.eq FT.nil)))) ((Na _ _ _ _ _).c _ N)) ?_;rintro _ _ ⟨rfl,rfl⟩;refine aV (.b G) [_,_,_] Z Z ?_;exact Wp
  refine Dk 2 Z (DK.is 4 g Z Z Z (λ_ g=>?_) (λ_ g=>?_))
  .exact Dk 29 Z (DK.done Z Z (Gl 4 Z g [0,1]))
  .obtain⟨ar,P,g⟩:=Qw g;refine Ex (x:=.o 3 (AI C3) 4) (X1:=[.c 77 [.b AE,I (-1),I 0,I 0],.c 77 [.b AD,I (-1),I 100,I 101],.c 77 [.b AD,I (-1),I 160,I 161],.r 104 4 (map Ac.c C3)]) ?_ ?_
   .refine Qf [] (C6.fn call20 Z Z Z) ((NZ _).c _ P) ?_ (hg:=(gT Z));rintro _ _ ⟨rfl,rfl⟩;refine aV (.o 3 (AI C3) 4) [_,_,_,.r 104 4 (map Ac.c C3)] Z Z ?_;exact Wp
   refine W7 (lo:=0) (hi:=1) (x:=.a [.b AD,I (-1),I 100,I 101]) ⟨Z,Z,trivial⟩ ?_;refine KS (lo:=0) (hi:=1) (x:=.q 4 (map CB.c Hn)) ⟨?_,?_,trivial⟩ ?_
   .refine vH (QN (xs:=[.tmp 17]) (es:=map CB.c Hn) Jm Z Z Z Z Z ⟨Z,trivial⟩ Z Z) ?_ (gT Z);refine aV (.q 4 (map CB.c Hn)) [_,_,_,_] Z Z ?_;exact Wp
   .refine vH (QN (xs:=[.tmp 17]) (es:=map CB.c Hn) Jm Z Z Z Z Z ⟨Z,trivial⟩ Z Z) ?_ (gT Z);refine aV (.q 4 (map CB.c Hn)) [_,_,_] Z Z ?_;exact Wp
   obtain⟨J,Q,g⟩:=Qw g;refine DK.wo (x:=.b J) ?_ ?_
   .refine Zk (C6.fn call19 rfl rfl rfl) (Dw.cons rfl (.inl ⟨rfl,rfl⟩) (Dw.cons rfl (.inr ⟨_,_,_,_,_,rfl,rfl,X0 ..,rfl⟩) (Dw.cons rfl (.inl ⟨rfl,rfl⟩) (Dw.cons rfl (.inl ⟨rfl,rfl⟩) Dw.nil)))) (C.nils (FT.eq (FT.eq (FT.nl (FT.eq FT.nil)))) ((Na _ _ _ _ _).c _ Q)) (by rintro _ _ ⟨rfl,rfl⟩;rfl) ?_ (gT rfl);rintro _ _ ⟨rfl,rfl⟩;refine aV (.b J) [_,_,_,_] Z Z ?_;exact Wp
   refine Dk 3 Z (DK.is 11 g Z Z Z (λ_ g=>?_) (λ_ g=>?_))
   .exact Dk 22 Z (DK.done Z Z (Gl 4 Z g [0,1]))
   .obtain⟨av,T,g⟩:=Qw g;refine Ex (x:=.o 4 (AI C3) 4) (X1:=[.c 77 [.b AE,I (-1),I 0,I 0],.c 77 [.b AD,I (-1),I 100,I 101],.c 77 [.b AD,I (-1),I 160,I 161],.r 104 4 (map Ac.c C3),.r 104 4 (map Ac.c C3)]) ?_ ?_
    .refine Qf [] (C6.fn call20 Z Z Z) ((NZ _).c _ T) ?_ (hg:=(gT Z));rintro _ _ ⟨rfl,rfl⟩;refine aV (.o 4 (AI C3) 4) [_,_,_,_,.r 104 4 (map Ac.c C3)] Z Z ?_;exact Wp
    refine Dk 1 Z ?_;refine KS (lo:=1) (hi:=2) (x:=.q 4 (map CE.c Hl)) ⟨?_,?_,trivial⟩ ?_
    .refine vH (QN (xs:=[.tmp 24]) (es:=map CE.c Hl) L4 Z Z Z Z Z ⟨Z,trivial⟩ Z Z) ?_ (gT Z);refine aV (.q 4 (map CE.c Hl)) [_,_,_,_,_] Z Z ?_;exact Wp
    .refine vH (QN (xs:=[.tmp 24]) (es:=map CE.c Hl) L4 Z Z Z Z Z ⟨Z,trivial⟩ Z Z) ?_ (gT Z);refine aV (.q 4 (map CE.c Hl)) [_,_,_,_] Z Z ?_;exact Wp
    refine W7 (lo:=1) (hi:=2) (x:=.a [.b AE,I (-1),I 0,I 0]) ⟨Z,Z,trivial⟩ ?_;refine KS (lo:=1) (hi:=2) (x:=.q 4 (map CB.c FM)) ⟨?_,?_,trivial⟩ ?_
    .refine vH (QN (xs:=[.tmp 26]) (es:=map CB.c FM) Jm Z Z Z Z Z ⟨Z,trivial⟩ Z Z) ?_ (gT Z);refine aV (.q 4 (map CB.c FM)) [_,_,_,_,_] Z Z ?_;exact Wp
    .refine vH (QN (xs:=[.tmp 26]) (es:=map CB.c FM) Jm Z Z Z Z Z ⟨Z,trivial⟩ Z Z) ?_ (gT Z);refine aV (.q 4 (map CB.c FM)) [_,_,_,_] Z Z ?_;exact Wp
    obtain⟨L,V,g⟩:=Qw g;refine DK.wo (x:=.b L) ?_ ?_
    .refine Zk (C6.fn call19 rfl rfl rfl) (Dw.cons rfl (.inl ⟨rfl,rfl⟩) (Dw.cons rfl (.inr ⟨_,_,_,_,_,rfl,rfl,X0 ..,rfl⟩) (Dw.cons rfl (.inl ⟨rfl,rfl⟩) (Dw.cons rfl (.inl ⟨rfl,rfl⟩) Dw.nil)))) ((Na _ _ _ _ _).c _ V) (by rintro _ _ ⟨rfl,rfl⟩;rfl) ?_ (gT rfl);rintro _ _ ⟨rfl,rfl⟩;refine aV (.b L) [_,_,_,_,_] Z Z ?_;exact Wp
    refine Dk 3 Z (DK.is 20 g Z Z Z (λ_ g=>?_) (λ_ g=>?_))
    .exact Dk 13 Z (DK.done Z Z (Gl 4 Z g [0,1]))
    .obtain⟨aw,X,g⟩:=Qw g;refine Ex (x:=.o 5 (AI C3) 4) (X1:=[.c 77 [.b AE,I (-1),I 0,I 0],.c 77 [.b AD,I (-1),I 100,I 101],.c 77 [.b AD,I (-1),I 160,I 161],.r 104 4 (map Ac.c C3),.r 104 4 (map Ac.c C3),.r 104 4 (map Ac.c C3)]) ?_ ?_
     .refine Qf [] (C6.fn call20 Z Z Z) ((NZ _).c _ X) ?_ (hg:=(gT Z));rintro _ _ ⟨rfl,rfl⟩;refine aV (.o 5 (AI C3) 4) [_,_,_,_,_,.r 104 4 (map Ac.c C3)] Z Z ?_;exact Wp
     refine W7 (lo:=2) (hi:=3) (x:=.a [.b AE,I (-1),I 0,I 0]) ⟨Z,Z,trivial⟩ ?_;refine W7 (lo:=2) (hi:=3) (x:=.a [.b AD,I (-1),I 100,I 101]) ⟨Z,Z,trivial⟩ ?_;refine KS (lo:=2) (hi:=3) (x:=.q 4 (map CB.c Ho)) ⟨?_,?_,trivial⟩ ?_
     .refine vH (QN (xs:=[.tmp 33,.tmp 34]) (es:=map CB.c Ho) Jm Z Z Z Z Z ⟨Z,Z,trivial⟩ Z Z) ?_ (gT Z);refine aV (.q 4 (map CB.c Ho)) [_,_,_,_,_,_] Z Z ?_;exact Wp
     .refine vH (QN (xs:=[.tmp 33,.tmp 34]) (es:=map CB.c Ho) Jm Z Z Z Z Z ⟨Z,Z,trivial⟩ Z Z) ?_ (gT Z);refine aV (.q 4 (map CB.c Ho)) [_,_,_,_,_] Z Z ?_;exact Wp
     obtain⟨M,Y,g⟩:=Qw g;refine DK.wo (x:=.b M) ?_ ?_
     .refine Zk (C6.fn call19 rfl rfl rfl) (Dw.cons rfl (.inl ⟨rfl,rfl⟩) (Dw.cons rfl (.inr ⟨_,_,_,_,_,rfl,rfl,X0 ..,rfl⟩) (Dw.cons rfl (.inl ⟨rfl,rfl⟩) (Dw.cons rfl (.inl ⟨rfl,rfl⟩) Dw.nil)))) (C.nils (FT.eq (FT.eq (FT.nl (FT.eq FT.nil)))) ((Na _ _ _ _ _).c _ Y)) (by rintro _ _ ⟨rfl,rfl⟩;rfl) ?_ (gT rfl);rintro _ _ ⟨rfl,rfl⟩;refine aV (.b M) [_,_,_,_,_,_] Z Z ?_;exact Wp
     refine Dk 3 Z (DK.is 28 g Z Z Z (λ_ g=>?_) (λ_ g=>?_))
     .exact Dk 5 Z (DK.done Z Z (Gl 4 Z g [0,1]))
     .obtain⟨ax,ab,g⟩:=Qw g;refine Ex (x:=.o 6 (AI C3) 4) (X1:=[.c 77 [.b AE,I (-1),I 0,I 0],.c 77 [.b AD,I (-1),I 100,I 101],.c 77 [.b AD,I (-1),I 160,I 161],.r 104 4 (map Ac.c C3),.r 104 4 (map Ac.c C3),.r 104 4 (map Ac.c C3),.r 104 4 (map Ac.c C3)]) ?_ ?_
      .refine Qf [] (C6.fn call20 Z Z Z) ((NZ _).c _ ab) ?_ (hg:=(gT Z));rintro _ _ ⟨rfl,rfl⟩;refine aV (.o 6 (AI C3) 4) [_,_,_,_,_,_,.r 104 4 (map Ac.c C3)] Z Z ?_;exact Wp
      refine Dk 1 Z ?_;refine KS (lo:=3) (hi:=4) (x:=.q 4 (map CE.c Hj)) ⟨?_,?_,trivial⟩ ?_
      .refine vH (QN (xs:=[.tmp 41]) (es:=map CE.c Hj) L4 Z Z Z Z Z ⟨Z,trivial⟩ Z Z) ?_ (gT Z);refine aV (.q 4 (map CE.c Hj)) [_,_,_,_,_,_,_] Z Z ?_;exact Wp
      .refine vH (QN (xs:=[.tmp 41]) (es:=map CE.c Hj) L4 Z Z Z Z Z ⟨Z,trivial⟩ Z Z) ?_ (gT Z);refine aV (.q 4 (map CE.c Hj)) [_,_,_,_,_,_] Z Z ?_;exact Wp
      refine W7 (lo:=3) (hi:=4) (x:=.a [.b AD,I (-1),I 160,I 161]) ⟨Z,Z,trivial⟩ ?_;refine KS (lo:=3) (hi:=4) (x:=.q 4 (map CB.c Hm)) ⟨?_,?_,trivial⟩ ?_
      .refine vH (QN (xs:=[.tmp 43]) (es:=map CB.c Hm) Jm Z Z Z Z Z ⟨Z,trivial⟩ Z Z) ?_ (gT Z);refine aV (.q 4 (map CB.c Hm)) [_,_,_,_,_,_,_] Z Z ?_;exact Wp
      .refine vH (QN (xs:=[.tmp 43]) (es:=map CB.c Hm) Jm Z Z Z Z Z ⟨Z,trivial⟩ Z Z) ?_ (gT Z);refine aV (.q 4 (map CB.c Hm)) [_,_,_,_,_,_] Z Z ?_;exact Wp
      exact DK.done Z Z (Cb g Kc Z (ls (lo (ls (ls ln)))) λay aq g=>Gl 3 Z g [0,1])
 refine Gx 1 Z (Ee am (Cn Z h (λ_ h=>?_) (λ_ h=>?_)))
 .exact au h
 refine Gc 3 Z ?_;obtain⟨az,t,h⟩:=Qw h;obtain⟨d,y,h⟩:=Qw h;refine Yx 8 1 [49,50,51,48,52,53,4,1000007] [AE,AD,AE,AD,AD,AD,AE,AE] [[],[],[0],[0,2],[0,2],[0,2],[],[0,2,6]] [[],[0],[6],[0,2],[0,6],[0,2,6],[0,2,6,7]] [[(0,1),(2,4)],[(0,0),(1,1),(2,2),(4,4)],[(1,3),(4,5)],[(3,3),(5,5)],[(3,3),(5,5)],[(3,3),(5,5),(6,6)],[(0,2),(1,4),(3,5)],[(5,6)]] [.a [.q 3 (map CC.c []),.q 1 (map (Qu 1 eI) [[0]])],.a [.b AD,I (-1),I 100,I 101],.t [.a [I d.1.Lo,I d.1.Hi],I d.2],.t [.a [I d.1.Lo,I d.1.Hi],I d.2],.a [I d.1.Lo,I d.1.Hi],I d.2,.p 2 0,.any] [[.c 77 [.b AE,I (-1),I 0,I 0],.c 77 [.b AD,I (-1),I 100,I 101],.dead],[.c 77 [.b AE,I (-1),I 0,I 0],.c 77 [.b AD,I (-1),I 100,I 101],.dead,.dead,.c 39 [.q 3 (map CC.c []),.q 1 (map (Qu 1 eI) [[0]])]],[.c 77 [.b AE,I (-1),I 0,I 0],.c 77 [.b AD,I (-1),I 100,I 101],.c 83 [I 0,I 0]],[.c 77 [.b AE,I (-1),I 0,I 0],.c 77 [.b AD,I (-1),I 100,I 101],.dead,.dead,.c 39 [.q 3 (map CC.c []),.q 1 (map (Qu 1 eI) [[0]])],.c 83 [I d.1.Lo,I d.1.Hi]],[.c 77 [.b AE,I (-1),I 0,I 0],.c 77 [.b AD,I (-1),I 100,I 101],.c 83 [I 0,I 0],.dead,.c 39 [.q 3 (map CC.c []),.q 1 (map (Qu 1 eI) [[0]])]],[.c 77 [.b AE,I (-1),I 0,I 0],.c 77 [.b AD,I (-1),I 100,I 101],.c 83 [I 0,I 0],.dead,.c 39 [.q 3 (map CC.c []),.q 1 (map (Qu 1 eI) [[0]])],.c 83 [I d.1.Lo,I d.1.Hi]],[.c 77 [.b AE,I (-1),I 0,I 0],.c 77 [.b AD,I (-1),I 100,I 101],.c 83 [I d.1.Lo,I d.1.Hi],.dead,.c 39 [.q 3 (map CC.c []),.q 1 (map (Qu 1 eI) [[0]])],.c 83 [I d.1.Lo,I d.1.Hi]]] ([.c 77 [.b AE,I (-1),I 0,I 0],.c 77 [.b AD,I (-1),I 100,I 101],.c 83 [I d.1.Lo,I d.1.Hi],.dead,.c 39 [.q 3 (map CC.c []),.q 1 (map (Qu 1 eI) [[0]])],.c 83 [I d.1.Lo,I d.1.Hi]]) DD Z Z Z Z Z Z Z ?_ Z ?_
 .refine Co.cons ?_ (M1 (Co.cons ?_ (M1 (M1 (M1 (Co.cons ?_ (Co.cons ?_ (Co.nil))))))))
  .refine Qb ?_ (Qb ?_ (Qg))
   iterate 2 refine F7 Z sN ?_;refine Qf [] (C6.fn call22 Z Z Z) ((gI _).c _ t) ?_;rintro _ _ ⟨rfl,rfl⟩;refine aV (.a [.q 3 (map CC.c []),.o 3 ([[0]].length) 1]) [_,_,_,.r 73 1 (map (Qu 1 eI) [[0]]),.c 39 [.q 3 (map CC.c []),.o 3 ([[0]].length) 1]] Z Z ?_;refine Et (Ym [(49,_)] Z Z (Cx.cons Z (DO.agg (CN.k (Ed Ep (Ej _)))) Cx.nil) (Ec (Ec (Ec (Ec (Dg.cells (CN.k (Ed Ep (Ej _))) (QQ _))))))) ?_;refine Et S5 ?_;exact Wp
  .refine Qb ?_ (Qb ?_ (Qg))
   iterate 2 refine F7 Z (sD 0 (sD 1 sN)) ?_;refine Qf [] (C6.fn call21 Z Z Z) ((bB _ _ _).c _ y) ?_;rintro _ _ ⟨rfl,rfl⟩;refine aV (.t [.a [I d.1.Lo,I d.1.Hi],I d.2]) [_,_,_,_,_,.c 83 [I d.1.Lo,I d.1.Hi]] Z Z ?_;exact Wp
  .refine Qb ?_ (Qb ?_ (Qb ?_ (Qg)))
   iterate 3 exact Jn.alloc _ 4 83 2 _ Z Z Z Z Z Z Z (I5.alloc (v:=(.a [I 0,I 0])) EK (Fu Z)) Z
  .refine Qb ?_ (Qg)
   .refine S9 Z (sD 6 (sD 4 sN)) ?_;refine vU (Ey Z Z Z Ge Z Z Z Z Z Z Z) ?_;refine Nx (H:=[_,_,.c 83 [I d.1.Lo,I d.1.Hi],_,_,_]) Z ?_;exact Wp
 refine Go 4 Z ?_;obtain⟨ba,B,h⟩:=Qw h;obtain⟨f,E,h⟩:=Qw h;refine Yx 8 1 [55,56,57,54,58,59,6,1000007] [AE,AD,AE,AD,AD,AD,AE,AE] [[],[],[0],[0,2],[0,2],[0,2],[],[0,2,6]] [[],[0],[6],[0,2],[0,6],[0,2,6],[0,2,6,7]] [[(0,1),(2,4)],[(0,0),(1,1),(2,2),(4,4)],[(1,3),(4,5)],[(3,3),(5,5)],[(3,3),(5,5)],[(3,3),(5,5),(6,6)],[(0,2),(1,4),(3,5)],[(5,6)]] [.a [.q 3 (map CC.c []),.q 1 (map (Qu 1 eI) [[0]])],.a [.b AE,I (-1),I 0,I 0],.t [.a [I f.1.Lo,I f.1.Hi],I f.2],.t [.a [I f.1.Lo,I f.1.Hi],I f.2],.a [I f.1.Lo,I f.1.Hi],I f.2,.p 6 0,.any] [[.c 77 [.b AE,I (-1),I 0,I 0],.c 77 [.b AD,I (-1),I 100,I 101],.c 83 [I d.1.Lo,I d.1.Hi],.dead,.c 39 [.q 3 (map CC.c []),.q 1 (map (Qu 1 eI) [[0]])],.c 83 [I d.1.Lo,I d.1.Hi],.dead],[.c 77 [.b AE,I (-1),I 0,I 0],.c 77 [.b AD,I (-1),I 100,I 101],.c 83 [I d.1.Lo,I d.1.Hi],.dead,.c 39 [.q 3 (map CC.c []),.q 1 (map (Qu 1 eI) [[0]])],.c 83 [I d.1.Lo,I d.1.Hi],.dead,.dead,.c 39 [.q 3 (map CC.c []),.q 1 (map (Qu 1 eI) [[0]])]],[.c 77 [.b AE,I (-1),I 0,I 0],.c 77 [.b AD,I (-1),I 100,I 101],.c 83 [I d.1.Lo,I d.1.Hi],.dead,.c 39 [.q 3 (map CC.c []),.q 1 (map (Qu 1 eI) [[0]])],.c 83 [I d.1.Lo,I d.1.Hi],.c 83 [I 0,I 0]],[.c 77 [.b AE,I (-1),I 0,I 0],.c 77 [.b AD,I (-1),I 100,I 101],.c 83 [I d.1.Lo,I d.1.Hi],.dead,.c 39 [.q 3 (map CC.c []),.q 1 (map (Qu 1 eI) [[0]])],.c 83 [I d.1.Lo,I d.1.Hi],.dead,.dead,.c 39 [.q 3 (map CC.c []),.q 1 (map (Qu 1 eI) [[0]])],.c 83 [I f.1.Lo,I f.1.Hi]],[.c 77 [.b AE,I (-1),I 0,I 0],.c 77 [.b AD,I (-1),I 100,I 101],.c 83 [I d.1.Lo,I d.1.Hi],.dead,.c 39 [.q 3 (map CC.c []),.q 1 (map (Qu 1 eI) [[0]])],.c 83 [I d.1.Lo,I d.1.Hi],.c 83 [I 0,I 0],.dead,.c 39 [.q 3 (map CC.c []),.q 1 (map (Qu 1 eI) [[0]])]],[.c 77 [.b AE,I (-1),I 0,I 0],.c 77 [.b AD,I (-1),I 100,I 101],.c 83 [I d.1.Lo,I d.1.Hi],.dead,.c 39 [.q 3 (map CC.c []),.q 1 (map (Qu 1 eI) [[0]])],.c 83 [I d.1.Lo,I d.1.Hi],.c 83 [I 0,I 0],.dead,.c 39 [.q 3 (map CC.c []),.q 1 (map (Qu 1 eI) [[0]])],.c 83 [I f.1.Lo,I f.1.Hi]],[.c 77 [.b AE,I (-1),I 0,I 0],.c 77 [.b AD,I (-1),I 100,I 101],.c 83 [I d.1.Lo,I d.1.Hi],.dead,.c 39 [.q 3 (map CC.c []),.q 1 (map (Qu 1 eI) [[0]])],.c 83 [I d.1.Lo,I d.1.Hi],.c 83 [I f.1.Lo,I f.1.Hi],.dead,.c 39 [.q 3 (map CC.c []),.q 1 (map (Qu 1 eI) [[0]])],.c 83 [I f.1.Lo,I f.1.Hi]]] ([.c 77 [.b AE,I (-1),I 0,I 0],.c 77 [.b AD,I (-1),I 100,I 101],.c 83 [I d.1.Lo,I d.1.Hi],.dead,.c 39 [.q 3 (map CC.c []),.q 1 (map (Qu 1 eI) [[0]])],.c 83 [I d.1.Lo,I d.1.Hi],.c 83 [I f.1.Lo,I f.1.Hi],.dead,.c 39 [.q 3 (map CC.c []),.q 1 (map (Qu 1 eI) [[0]])],.c 83 [I f.1.Lo,I f.1.Hi]]) DD Z Z Z Z Z Z Z ?_ Z ?_
 .refine Co.cons ?_ (M1 (Co.cons ?_ (M1 (M1 (M1 (Co.cons ?_ (Co.cons ?_ (Co.nil))))))))
  .refine Qb ?_ (Qb ?_ (Qg))
   iterate 2 refine F7 Z sN ?_;refine Qf [] (C6.fn call22 Z Z Z) ((gI _).c _ B) ?_;rintro _ _ ⟨rfl,rfl⟩;refine aV (.a [.q 3 (map CC.c []),.o 7 ([[0]].length) 1]) [_,_,_,_,_,_,_,.r 73 1 (map (Qu 1 eI) [[0]]),.c 39 [.q 3 (map CC.c []),.o 7 ([[0]].length) 1]] Z Z ?_;refine Et (Ym [(55,_)] Z Z (Cx.cons Z (DO.agg (CN.k (Ed Ep (Ej _)))) Cx.nil) (Ec (Ec (Ec (Ec (Ec (Ec (Ec (Ec (Dg.cells (CN.k (Ed Ep (Ej _))) (QQ _))))))))))) ?_;refine Et S5 ?_;exact Wp
  .refine Qb ?_ (Qb ?_ (Qg))
   iterate 2 refine F7 Z (sD 0 (sD 1 sN)) ?_;refine Qf [] (C6.fn call21 Z Z Z) ((bB _ _ _).c _ E) ?_;rintro _ _ ⟨rfl,rfl⟩;refine aV (.t [.a [I f.1.Lo,I f.1.Hi],I f.2]) [_,_,_,_,_,_,_,_,_,.c 83 [I f.1.Lo,I f.1.Hi]] Z Z ?_;exact Wp
  .refine Qb ?_ (Qb ?_ (Qb ?_ (Qg)))
   iterate 3 exact Jn.alloc _ 6 83 6 _ Z Z Z Z Z Z Z (I5.alloc (v:=(.a [I 0,I 0])) EK (Fu Z)) Z
  .refine Qb ?_ (Qg)
   .refine S9 Z (sD 6 (sD 4 sN)) ?_;refine vU (Ey Z Z Z Ge Z Z Z Z Z Z Z) ?_;refine Nx (H:=[_,_,_,_,_,_,.c 83 [I f.1.Lo,I f.1.Hi],_,_,_]) Z ?_;exact Wp
 refine Go 4 Z (Bd h λF j h=>Cg F [] [] (λF=>[(0,.b F)]) Ze Zf ?_ ?_)
 .refine G0 0 Z (HY 26 [12,18] [(0,0,0),(0,0,0),(0,0,0),(0,0,0),(0,0,0),(0,0,0),(0,0,0),(0,0,0),(0,0,0),(0,0,0),(0,0,0),(0,0,0),(1,0,0),(0,0,1),(0,1,1),(0,1,1),(0,1,1),(0,1,1),(1,1,0),(0,1,2),(0,2,2),(0,2,2),(0,2,2),(0,2,2),(0,2,2),(0,2,2)] (by kernel_rfl) (Dk 2 Z ?_));refine DK.wo (x:=.b (({Lo:=d.1.Lo,Hi:=d.1.Hi:CJ})==({Lo:=100,Hi:=101:CJ}))) ?_ ?_
  .refine vX (.b (({Lo:=d.1.Lo,Hi:=d.1.Hi:CJ})==({Lo:=100,Hi:=101:CJ}))) (iQ (p:={Lo:=d.1.Lo,Hi:=d.1.Hi:CJ}) (q:={Lo:=100,Hi:=101:CJ}) O? Z Z) ?_;exact Wp
  refine Dk 1 Z (DK.is 3 j Z Z Z (λ_ j=>?_) (λ_ j=>?_))
  .refine Dk 4 Z (DK.is 7 j Z Z Z (λ_ j=>?_) (λ_ j=>?_))
   .refine Dk 4 Z (DK.is 11 j Z Z Z (λ_ j=>?_) (λ_ j=>?_))
    .obtain⟨bb,ag,j⟩:=Qw j;refine Ex (x:=.a [.q 3 (map CC.c []),.q 1 (map (Qu 1 eI) [[0]])]) (X1:=[.c 77 [.b AE,I (-1),I 0,I 0],.c 77 [.b AD,I (-1),I 100,I 101],.c 83 [I d.1.Lo,I d.1.Hi],.dead,.c 39 [.q 3 (map CC.c []),.q 1 (map (Qu 1 eI) [[0]])],.c 83 [I d.1.Lo,I d.1.Hi],.c 83 [I f.1.Lo,I f.1.Hi],.dead,.c 39 [.q 3 (map CC.c []),.q 1 (map (Qu 1 eI) [[0]])],.c 83 [I f.1.Lo,I f.1.Hi],.dead,.c 39 [.q 3 (map CC.c []),.q 1 (map (Qu 1 eI) [[0]])]]) ?_ ?_
     .refine Qf [] (C6.fn call22 Z Z Z) ((gI _).c _ ag) ?_ (hg:=(gT Z));rintro _ _ ⟨rfl,rfl⟩;refine aV (.a [.q 3 (map CC.c []),.o 10 ([[0]].length) 1]) [_,_,_,_,_,_,_,_,_,_,.r 73 1 (map (Qu 1 eI) [[0]]),.c 39 [.q 3 (map CC.c []),.o 10 ([[0]].length) 1]] Z Z ?_;refine Et (Ym [(72,_)] Z Z (Cx.cons Z (DO.agg (CN.k (Ed Ep (Ej _)))) Cx.nil) (Ec (Ec (Ec (Ec (Ec (Ec (Ec (Ec (Ec (Ec (Ec (Dg.cells (CN.k (Ed Ep (Ej _))) (QQ _)))))))))))))) ?_;refine Et S5 ?_;exact Wp
     refine W7 (lo:=0) (hi:=1) (x:=.a [.b AE,I (-1),I 0,I 0]) ⟨Z,Z,trivial⟩ ?_;obtain⟨an,ah,j⟩:=Qw j;refine DK.wo (x:=I an) ?_ ?_
     .exact Pc [] Z (C6.fn call18 Z Z Z) ((SB _ _ _).c _ ah) (hg:=(gT Z)) Z Wp
     refine Dk 3 Z (DK.is 17 j Z Z Z (λ_ j=>?_) (λ_ j=>?_))
     .obtain⟨bc,aj,j⟩:=Qw j;refine Ex (x:=.a [.q 3 (map CC.c []),.q 1 (map (Qu 1 eI) [[0]])]) (X1:=[.c 77 [.b AE,I (-1),I 0,I 0],.c 77 [.b AD,I (-1),I 100,I 101],.c 83 [I d.1.Lo,I d.1.Hi],.dead,.c 39 [.q 3 (map CC.c []),.q 1 (map (Qu 1 eI) [[0]])],.c 83 [I d.1.Lo,I d.1.Hi],.c 83 [I f.1.Lo,I f.1.Hi],.dead,.c 39 [.q 3 (map CC.c []),.q 1 (map (Qu 1 eI) [[0]])],.c 83 [I f.1.Lo,I f.1.Hi],.dead,.c 39 [.q 3 (map CC.c []),.q 1 (map (Qu 1 eI) [[0]])],.dead,.c 39 [.q 3 (map CC.c []),.q 1 (map (Qu 1 eI) [[0]])]]) ?_ ?_
      .refine Qf [] (C6.fn call22 Z Z Z) ((gI _).c _ aj) ?_ (hg:=(gT Z));rintro _ _ ⟨rfl,rfl⟩;refine aV (.a [.q 3 (map CC.c []),.o 12 ([[0]].length) 1]) [_,_,_,_,_,_,_,_,_,_,_,_,.r 73 1 (map (Qu 1 eI) [[0]]),.c 39 [.q 3 (map CC.c []),.o 12 ([[0]].length) 1]] Z Z ?_;refine Et (Ym [(78,_)] Z Z (Cx.cons Z (DO.agg (CN.k (Ed Ep (Ej _)))) Cx.nil) (Ec (Ec (Ec (Ec (Ec (Ec (Ec (Ec (Ec (Ec (Ec (Ec (Ec (Dg.cells (CN.k (Ed Ep (Ej _))) (QQ _)))))))))))))))) ?_;refine Et S5 ?_;exact Wp
      refine Dk 1 Z ?_;obtain⟨ao,ak,j⟩:=Qw j;refine DK.wo (x:=I ao) ?_ ?_
      .exact Pc [] Z (C6.fn call18 Z Z Z) ((SB _ _ _).c _ ak) (hg:=(gT Z)) Z Wp
      refine Dk 3 Z (DK.is 23 j Z Z Z (λ_ j=>?_) (λ_ j=>?_))
      .refine Dk 2 Z (DK.done Z Z ?_);refine vH (QN (xs:=[.tmp 84,.tmp 85]) (es:=map CB.c RE) Jm Z Z Z Z Z ⟨Z,Z,trivial⟩ Z Z) ?_ (gT Z);exact au j
      .exact Dk 2 Z (DK.done Z Z (Gl 7 Z j []))
     .exact Dk 8 Z (DK.done Z Z (Gl 7 Z j []))
    .exact Dk 14 Z (DK.done Z Z (Gl 7 Z j []))
   .exact Dk 18 Z (DK.done Z Z (Gl 7 Z j []))
  .exact Dk 22 Z (DK.done Z Z (Gl 7 Z j []))
 exact au h
def MP(n:Nat)(f:AA CG)(rec213:(AA CG)->AB Int)(d:Int×Int):AB (CF (Int×Int) Int):=AH ((bif d.2<(AI f:Int) then AC (AG (d.1<=256))else AC AD):AB Bool) λg=>(bif g then AH (CI f d.2) λh=>AH (rec213 h.Ad) λj=>AC (.k (i64.wrap (d.1+j),i64.wrap (d.2+1)))else AC (.d d.1))
def W9(rec213:(AA CG)->AB Int)(n:Nat)(f:AA CG):AB Int:=AH (iter (MP n f rec213) n ((AI f:Int),0):AB Int) λd=>AC (if 257<d then 257 else d)
theorem Qbc(rec213:(AA CG)->AB Int)(y:∀(f:AA CG),Ks (rec213 f) 66 [.q 3 (map CG.enc f)] [] (λr=>I r))(n:Nat)(f:AA CG):Ks (W9 rec213 n f) 66 [.q 3 (map CG.enc f)] [] (λr=>I r):=by
 refine Kg 8 func66 Z Z Z Z λr h=>Lg 9 Z Z (Bd h λg B h=>Cg g [] [] (λg=>[(3,I g)]) Ze Zf ?_ ?_)
 .refine G0 1 Z (Lp [] [0] (λj=>[(3,I j.1),(4,I j.2)]) Ze B Zf (Lr []) λj H d q=>?_);refine G0 2 Z (Bd d λm E d=>Cg m [] [0,3,4] (λm=>[(14,.b m)]) Ze Zf ?_ ?_)
  .exact au E
  refine Q5 Z d (λ_ d=>?_) (λ_ d=>?_)
  .exact Je q d
  exact Gc 8 Z (Bd d λF x d=>FU x (QM F) Z (Go 2 Z (Cz [] d Kc Z λJ G d=>Go 10 Z (QZ d (Lr [])))))
 exact au h
def KD:Nat->(AA CG)->AB Int
  |0=>λ_=>AF
  |n+1=>W9 (KD n) n
instance z9:∀(d:AA CG),Ks (KD n d) 66 [.q 3 (map CG.enc d)] [] (λr=>I r):=by
  induction n with
  |zero=>exact λ_=>⟨nofun⟩
  |succ n ih=>exact Qbc _ ih n
def Kt(n:Nat)(g:AA CG)(h:Int)(rec214:(AA CG)->Int->AB Int)(d:Int×Int):AB (CF (Int×Int) Int):=AH ((bif d.2<(AI g:Int) then AC (AG (0<h))else AC AD):AB Bool) λj=>(bif j then AH (CI g d.2) λm=>AH ((bif ((AI m.Ad:Int) != 0)then AH (CI g d.2) λq=>AH (rec214 q.Ad (i64.wrap (h-1))) λf=>AC (if d.1<i64.wrap (1+f)then i64.wrap (1+f)else d.1)else AC d.1):AB Int) λt=>AC (.k (t,i64.wrap (d.2+1)))else AC (.d d.1))
def iz(rec214:(AA CG)->Int->AB Int)(n:Nat)(f:AA CG)(g:Int):AB Int:=AH (iter (Kt n f g rec214) n (0,0):AB Int) λd=>AC d
theorem Qbb(rec214:(AA CG)->Int->AB Int)(L:∀(g:AA CG) (j:Int),Ks (rec214 g j) 67 [.q 3 (map CG.enc g),I j] [] (λr=>I r))(n:Nat)(g:AA CG)(j:Int):Ks (iz rec214 n g j) 67 [.q 3 (map CG.enc g),I j] [] (λr=>I r):=by
 refine Kg 16 func67 Z Z Z Z λr h=>Bd h λm M h=>Cg m [] [] (λm=>[(5,I m)]) Ze Zf ?_ ?_
 .refine G0 1 Z (Lp [] [0,1] (λq=>[(5,I q.1),(6,I q.2)]) Ze M Zf (Lr []) λq R d B=>?_);refine G0 2 Z (Bd d λt N d=>Ct t [] [0,1,5,6] (λt=>[(14,.b t)]) Ze Zf ?_ (λenv H x=>?_))
  .exact au N
  refine Gx 1 Z (Ee x (Q5 Z d (λ_ d=>?_) (λ_ d=>?_)))
  .exact Je B d
  refine Gc 8 Z (Bd d λO F d=>FU F (QM O) Z (Go 2 Z (Lg 3 Z Z (Bd d λy f d=>Ct y [] [0,1,6] (λy=>[(5,I y)]) Ze Zf ?_ (λenv H x=>?_)))))
  .refine G0 0 Z (Cn Z f (λ_ f=>?_) (λ_ f=>?_))
   .refine Gc 4 Z (Bd f λP J f=>FU J (QM P) Z (Go 4 Z (Cz [] f Kc Z λT Q f=>Go 1 Z ?_)));exact au f
   exact au f
  exact Gx 2 Z (Ee x (Gc 5 Z (QZ d (Lr []))))
 exact au h
def Rm:Nat->(AA CG)->Int->AB Int
  |0=>λ_ _=>AF
  |n+1=>iz (Rm n) n
instance k_s:∀(d:AA CG) (f:Int),Ks (Rm n d f) 67 [.q 3 (map CG.enc d),I f] [] (λr=>I r):=by
  induction n with
  |zero=>exact λ_ _=>⟨nofun⟩
  |succ n ih=>exact Qbb _ ih n
def Mh(n:Nat)(d:AS):AB Bool:=AH ((bif (d.AX==0)then(bif (d.Bw==0)then(bif (d.N==0)then AC ((AI d.Ad:Int)==0)else AC AD)else AC AD)else AC AD):AB Bool) λf=>AC f
instance zD(d:AS):Ks (Mh n d) 181 [.a (AS.c d)] [] (λr=>.b r):=KA func181
def MK(n:Nat)(f:AS)(m:Int)(rec218:AS->Int->AB Int)(d:Int×Int):AB (CF (Int×Int) Int):=AH ((bif d.2<(AI f.Ad:Int) then AC (AG (d.1<=256))else AC AD):AB Bool) λg=>(bif g then AH (CI f.Ad d.2) λh=>AH (rec218 h (i64.wrap (m+1))) λj=>AC (.k (i64.wrap (d.1+j),i64.wrap (d.2+1)))else AC (.d d.1))
def i6(rec218:AS->Int->AB Int)(n:Nat)(g:AS)(d:Int):AB Int:=(bif 16<d then AC 1000 else AH (iter (MK n g d rec218) n (1,0):AB Int) λf=>AC f)
theorem Qam(rec218:AS->Int->AB Int)(B:∀(f:AS) (g:Int),Ks (rec218 f g) 182 [.a (AS.c f),I g] [] (λr=>I r))(n:Nat)(f:AS)(g:Int):Ks (i6 rec218 n f g) 182 [.a (AS.c f),I g] [] (λr=>I r):=by
 refine Kg 13 func182 Z Z Z Z λr h=>Cn Z h (λ_ h=>?_) (λ_ h=>?_)
 .exact au h
 refine Gc 13 Z (Bd h λj F h=>Cg j [] [] (λj=>[(5,I j)]) Ze Zf ?_ ?_)
 .refine G0 1 Z (Lp [0] [1,2] (λm=>[(5,I m.1),(6,I m.2)]) Ze F Zf (Lr [0]) λm L d t=>?_);refine G0 2 Z (Bd d λq G d=>Cg q [0] [1,2,5,6] (λq=>[(17,.b q)]) Ze Zf ?_ ?_)
  .exact au G
  refine Q5 Z d (λ_ d=>?_) (λ_ d=>?_)
  .exact Je t d
  exact Gc 9 Z (Bd d λH y d=>FU y (Ji H) Z (Go 3 Z (Cz [] d Kc Z λM J d=>Go 10 Z (QZ d (Lr [0])))))
 exact au h
def N2:Nat->AS->Int->AB Int
  |0=>λ_ _=>AF
  |n+1=>i6 (N2 n) n
instance k_n:∀(d:AS) (f:Int),Ks (N2 n d f) 182 [.a (AS.c d),I f] [] (λr=>I r):=by
  induction n with
  |zero=>exact λ_ _=>⟨nofun⟩
  |succ n ih=>exact Qam _ ih n
def ML(f:AA AY)(j:Int)(rec216:(AA AY)->Int->AB (Int×Int))(d:Int×Int×Int):AB (CF (Int×Int×Int) (Int×Int)):=AH ((bif d.2.2<(AI f:Int) then(bif d.1<=64 then AC (AG (d.2.1<=256))else AC AD)else AC AD):AB Bool) λm=>(bif m then AH (CI f d.2.2) λq=>AH (rec216 q.BY (i64.wrap (j+1))) λg=>AH (CI f d.2.2) λt=>AH (rec216 t.Bf (i64.wrap (j+1))) λh=>AH (CI f d.2.2) λx=>AH (Mh n x.AS) λy=>AH ((bif (!y)then AH (CI f d.2.2) λB=>AH (N2 n B.AS 0) λE=>AC (i64.wrap ((i64.wrap ((i64.wrap (d.2.1+g.2))+h.2))+E))else AC (i64.wrap ((i64.wrap (d.2.1+g.2))+h.2))):AB Int) λF=>AC (.k (i64.wrap ((i64.wrap ((i64.wrap (d.1+1))+g.1))+h.1),F,i64.wrap (d.2.2+1)))else AC (.d (d.1,d.2.1)))
def i5(rec216:(AA AY)->Int->AB (Int×Int))(n:Nat)(f:AA AY)(g:Int):AB (Int×Int):=AH ((bif 0<(AI f:Int) then AC (AG (16<g))else AC AD):AB Bool) λh=>(bif h then AC (1000,1000)else AH (iter (ML n f g rec216) n (0,0,0):AB (Int×Int)) λd=>AC (d.1,d.2))
theorem Qbm(rec216:(AA AY)->Int->AB (Int×Int))(O:∀(q:AA AY) (t:Int),Ks (rec216 q t) 110 [.q 8 (map AY.enc q),I t] [] (λr=>.t [I r.1,I r.2]))(n:Nat)(q:AA AY)(t:Int):Ks (i5 rec216 n q t) 110 [.q 8 (map AY.enc q),I t] [] (λr=>.t [I r.1,I r.2]):=by
 refine Kg 8 func110 Z Z Z Z λr h=>Bd h λB Y h=>Ct B [] [0,1] (λB=>[(19,.b B)]) Ze Zf ?_ (λenv H g=>?_)
 .exact au Y
 refine Gx 1 Z (Ee g (Cn Z h (λ_ h=>?_) (λ_ h=>?_)))
 .exact au h
 refine Gc 18 Z (Bd h λj Q h=>Cg j [] [] (λj=>[(6,I j.1),(7,I j.2)]) Ze Zf ?_ ?_)
 .refine G0 1 Z (Lp [] [0,1] (λm=>[(6,I m.1),(7,I m.2.1),(8,I m.2.2)]) Ze Q Zf (Lr []) λm ae d E=>?_);refine G0 2 Z (Bd d λx R d=>Ct x [] [0,1,6,7,8] (λx=>[(31,.b x)]) Ze Zf ?_ (λenv H g=>?_))
  .exact au R
  refine Gx 1 Z (Ee g (Q5 Z d (λ_ d=>?_) (λ_ d=>?_)))
  .exact Je E d
  refine Gc 8 Z (Bd d λT G d=>FU G (Yt T) Z (Go 4 Z (Cd [] d Kc Z λaf aa d=>Fg 11 Z Z (Bd d λV J d=>FU J (Yt V) Z (Go 4 Z (Cd [] d Kc Z λag ab d=>Fg 32 Z Z (Bd d λW L d=>FU L (Yt W) Z (Go 2 Z (Cz [] d Kc Z λah ac d=>Go 3 Z (Bd d λy f d=>Ct y [] [0,1,6,8] (λy=>[(7,I y)]) Ze Zf ?_ (λenv H g=>?_)))))))))))
  .refine G0 0 Z (Cn Z f (λ_ f=>?_) (λ_ f=>?_))
   .exact Gc 4 Z (Bd f λX N f=>FU N (Yt X) Z (Go 2 Z (Cz [] f Kc Z λai ad f=>Gl 3 Z f [])))
   exact au f
  exact Gx 2 Z (Ee g (Gc 5 Z (QZ d (Lr []))))
 exact au h
def Ro:Nat->(AA AY)->Int->AB (Int×Int)
  |0=>λ_ _=>AF
  |n+1=>i5 (Ro n) n
instance k_q:∀(d:AA AY) (f:Int),Ks (Ro n d f) 110 [.q 8 (map AY.enc d),I f] [] (λr=>.t [I r.1,I r.2]):=by
  induction n with
  |zero=>exact λ_ _=>⟨nofun⟩
  |succ n ih=>exact Qbm _ ih n
def On(d:AA AY):AB Bool:=AH (Ro n d 0) λf=>AH ((bif (AI d:Int)<=20 then(bif f.1<=80 then AC (AG (f.2<=300))else AC AD)else AC AD):AB Bool) λg=>AC g
instance xk(d:AA AY):Ks (On n d) 68 [.q 8 (map AY.enc d)] [] (λr=>.b r):=KA func68
def Kr(f:CA)(d:Int×Int):AB (CF (Int×Int) (CF Int Bool)):=AH ((bif d.2<(AI f.AP:Int) then AC (AG (d.1<=200))else AC AD):AB Bool) λg=>(bif g then AH (CI f.AP d.2) λh=>AH (CI f.AP d.2) λj=>AH (KD n j.Ae) λm=>AH (CI f.AP d.2) λq=>AH (Rm n q.Ae 17) λt=>(bif 16<t then AC (.d (.d AD))else AC (.k (i64.wrap ((i64.wrap (d.1+(AI h.Aq:Int)))+m),i64.wrap (d.2+1))))else AC (.d (.k d.1)))
def K7(d:CA):AB Bool:=AH (iter (Kr n d) n (i64.wrap ((i64.wrap ((i64.wrap ((i64.wrap ((i64.wrap ((i64.wrap ((AI d.Ar:Int)+(AI d.Az:Int)))+(AI d.AP:Int)))+(AI d.A0:Int)))+(AI d.Ab:Int)))+(AI d.AV:Int)))+(AI d.Ay:Int)),0):AB (CF Int Bool)) λg=>match g with|.k f=>(AH ((bif f<=200 then(bif (AI d.Ao:Int)<=100 then AH (On n d.BN) λh=>AC h else AC AD)else AC AD):AB Bool) λj=>AC j)|.d f=>AC f
instance zR(J:CA):Ks (K7 n J) 23 [.a (CA.c J)] [] (λr=>.b r):=by
 refine Kg 10 func23 Z Z Z Z λr h=>Lg 2 Z Z (Lg 3 Z Z (Lg 3 Z Z (Lg 3 Z Z (Lg 3 Z Z (Lg 3 Z Z (Lg 10 Z Z (Bd h λL M h=>FX (b:=L) [0] [1] (λj=>[(3,I j)]) Ze Zf ?_ (λj env H N m=>?_))))))))
 .refine G0 1 Z (Lp [0] [1] (λq=>[(3,I q.1),(4,I q.2)]) Ze M Zf (Lr [0]) λq Q d t=>?_);refine G0 2 Z (Bd d λy O d=>Ct y [0] [1,3,4] (λy=>[(40,.b y)]) Ze Zf ?_ (λenv H m=>?_))
  .exact au O
  refine Gx 1 Z (Ee m (Q5 Z d (λ_ d=>?_) (λ_ d=>?_)))
  .exact Je t d
  refine Gc 5 Z (DP 16 Z (D 4 Z ?_));obtain⟨f,F,d⟩:=Qw d;refine DS.wo (x:=.rp [.str f.Ao,.q 3 (map CG.enc f.Ae),I f.BI,.q 3 (map CO.c f.Aq),I f.Am]) ?_ ?_
  .exact Ix F EL EW Z Wp
  refine D 2 Z ?_;refine DS.wo (x:=I (AI f.Aq:Int)) ?_ ?_
  .exact nO GG Z Wp
  refine D 4 Z ?_;obtain⟨g,G,d⟩:=Qw d;refine DS.wo (x:=.rp [.str g.Ao,.q 3 (map CG.enc g.Ae),I g.BI,.q 3 (map CO.c g.Aq),I g.Am]) ?_ ?_
  .exact Ix G EL EW Z Wp
  exact DZ t d h
 subst N;refine Gx 1 Z (Ee m (Gc 1 Z (Bd h λB P h=>Cg B [] [] (λB=>[(2,.b B)]) Ze Zf ?_ ?_)))
 .exact au P
 exact au h
def T5(g:CA)(d:Int):AB (CF Int (CF Unit Bool)):=(bif d<(AI g.AP:Int) then AH (CI g.AP d) λf=>AH ((bif 64<(AI f.Aq:Int) then AC AE else AH (Rm n f.Ae 17) λh=>(bif 16<h then AC AE else AH (KD n f.Ae) λj=>AC (AG (256<j)))):AB Bool) λm=>(bif m then AC (.d (.d AD))else AC (.k (i64.wrap (d+1))))else AC (.d (.k ())))
def PU(d:CA):AB Bool:=AH ((bif 40<(AI d.Ar:Int) then AC AE else(bif 512<(AI d.Az:Int) then AC AE else(bif 8<(AI d.AP:Int) then AC AE else(bif 32<(AI d.A0:Int) then AC AE else(bif 32<(AI d.Ab:Int) then AC AE else(bif 32<(AI d.AV:Int) then AC AE else AC (AG (32<(AI d.Ay:Int))))))))):AB Bool) λh=>(bif h then AC AD else AH (iter (T5 n d) n 0:AB (CF Unit Bool)) λg=>match g with|.k f=>(AC AE)|.d f=>AC f)
instance yY(d:CA):Ks (PU n d) 46 [.a (CA.c d)] [] (λr=>.b r):=KA func46
def Pb(n:Nat)(d:AA UInt8):AB Bool:=AH ((bif (d==[99,111,117,114,115,101])then AC (d==[99,111,117,114,115,101])else(bif (d==[109,97,116,115])then AC (d==[109,97,116,115])else(bif (d==[115,116,97,114,116])then AC (d==[115,116,97,114,116])else(bif (d==[112,97,115,115])then AC (d==[112,97,115,115])else(bif (d==[101,110,100])then AC (d==[101,110,100])else(bif (d==[108,101,103])then AC (d==[108,101,103])else(bif (d==[116,111])then AC (d==[116,111])else(bif (d==[100,105,115,116,97,110,99,101])then AC (d==[100,105,115,116,97,110,99,101])else(bif (d==[103,117,110])then AC (d==[103,117,110])else(bif (d==[99,104,105,112])then AC (d==[99,104,105,112])else(bif (d==[115,108,111,116])then AC (d==[115,108,111,116])else(bif (d==[108,97,112,115])then AC (d==[108,97,112,115])else(bif (d==[108,97,112])then AC (d==[108,97,112])else(bif (d==[99,117,116,111,102,102])then AC (d==[99,117,116,111,102,102])else(bif (d==[101,120,116,114,97])then AC (d==[101,120,116,114,97])else(bif (d==[119,97,118,101])then AC (d==[119,97,118,101])else(bif (d==[111,102,102,101,110,99,101])then AC (d==[111,102,102,101,110,99,101])else(bif (d==[111,117,116])then AC (d==[111,117,116])else(bif (d==[99,97,116,101,103,111,114,121])then AC (d==[99,97,116,101,103,111,114,121])else(bif (d==[112,114,105,122,101])then AC (d==[112,114,105,122,101])else(bif (d==[97,108,108])then AC (d==[97,108,108])else AC (d==[116,105,101,115])))))))))))))))))))))):AB Bool) λf=>(bif f then AC AE else AH ((bif (d==[105,102])then AC (d==[105,102])else(bif (d==[101,108,115,101])then AC (d==[101,108,115,101])else(bif (d==[97,110,100])then AC (d==[97,110,100])else(bif (d==[111,114])then AC (d==[111,114])else(bif (d==[110,111,116])then AC (d==[110,111,116])else(bif (d==[111,108,100,101,114])then AC (d==[111,108,100,101,114])else(bif (d==[121,111,117,110,103,101,114])then AC (d==[121,111,117,110,103,101,114])else(bif (d==[98,105,98])then AC (d==[98,105,98])else(bif (d==[100,114,97,119])then AC (d==[100,114,97,119])else(bif (d==[102,105,101,108,100])then AC (d==[102,105,101,108,100])else(bif (d==[115,104,111,114,116])then AC (d==[115,104,111,114,116])else(bif (d==[102,97,117,108,116,115])then AC (d==[102,97,117,108,116,115])else(bif (d==[109,105,115,115,101,115])then AC (d==[109,105,115,115,101,115])else(bif (d==[115,116,114,97,121,115])then AC (d==[115,116,114,97,121,115])else(bif (d==[119,105,110,100,111,119])then AC (d==[119,105,110,100,111,119])else(bif (d==[114,101,115,105,100,117,97,108])then AC (d==[114,101,115,105,100,117,97,108])else(bif (d==[100,114,105,102,116])then AC (d==[100,114,105,102,116])else(bif (d==[112,114,111,116,101,115,116])then AC (d==[112,114,111,116,101,115,116])else(bif (d==[102,101,101])then AC (d==[102,101,101])else AC (d==[100,101,97,100,108,105,110,101])))))))))))))))))))):AB Bool) λg=>(bif g then AC AE else AC AD))
instance yg(d:AA UInt8):Ks (Pb n d) 179 [.str d] [] (λr=>.b r):=KA func179
def e9(n:Nat)(f:AA UInt8)(d:Int):AB (CF Int (CF Unit Bool)):=(bif d<(AI f:Int) then AH (AH (CI f d) λg=>(bif (g.toNat:Int)<97 then AH (CI f d) λh=>(bif (h.toNat:Int)<48 then AH (CI f d) λj=>AC ((j.toNat:Int) != 95)else AH (CI f d) λm=>(bif 57<(m.toNat:Int) then AH (CI f d) λq=>AC ((q.toNat:Int) != 95)else AC AD))else AH (CI f d) λt=>(bif 122<(t.toNat:Int) then AH (CI f d) λx=>(bif (x.toNat:Int)<48 then AH (CI f d) λy=>AC ((y.toNat:Int) != 95)else AH (CI f d) λB=>(bif 57<(B.toNat:Int) then AH (CI f d) λE=>AC ((E.toNat:Int) != 95)else AC AD))else AC AD)):AB Bool) λF=>(bif F then AC (.d (.d AD))else AC (.k (i64.wrap (d+1))))else AC (.d (.k ())))
def Mf(d:AA UInt8):AB Bool:=AH ((bif (AI d:Int)<1 then AC AE else(bif 24<(AI d:Int) then AC AE else AH (CI d 0) λh=>(bif (h.toNat:Int)<97 then AC AE else AH (CI d 0) λj=>AC (AG (122<(j.toNat:Int)))))):AB Bool) λq=>(bif q then AC AD else AH (iter (e9 n d) n 1:AB (CF Unit Bool)) λm=>match m with|.k f=>(AH (Pb n d) λg=>AC (!g))|.d f=>AC f)
instance zB(d:AA UInt8):Ks (Mf n d) 105 [.str d] [] (λr=>.b r):=KA func105
def VQ(n:Nat)(g:AA (AA UInt8))(f:Int)(d:Int):AB (CF Int (CF Unit (CF Int (CF Unit Bool)))):=(bif d<f then AH (CI g d) λh=>AH (CI g f) λj=>(bif (h==j)then AC (.d (.d (.d (.d AD))))else AC (.k (i64.wrap (d+1))))else AC (.d (.k ())))
def Tr(g:AA (AA UInt8))(d:Int):AB (CF Int (CF Unit Bool)):=(bif d<(AI g:Int) then AH (CI g d) λh=>AH (Mf n h) λj=>(bif (!j)then AC (.d (.d AD))else AH (iter (VQ n g d) n 0:AB (CF Unit (CF Int (CF Unit Bool)))) λm=>match m with|.k f=>(AC (.k (i64.wrap (d+1))))|.d f=>AC f)else AC (.d (.k ())))
def Id(g:AA (AA UInt8)):AB Bool:=AH (iter (Tr n g) n 0:AB (CF Unit Bool)) λf=>match f with|.k d=>(AC AE)|.d d=>AC d
instance zg(M:AA (AA UInt8)):Ks (Id n M) 106 [.q 1 (map JK M)] [] (λr=>.b r):=by
 refine Kg 11 func106 Z Z Z Z λr h=>Bd h λN O h=>D4 (b:=N) [] [] Ze Ze Zf ?_ (λ_ j=>?_)
 .refine G0 1 Z (Lp [] [0] (λq=>[(3,I q)]) Ze O Zf (Lr []) λq aa d g=>(G0 5 Z (Lg 3 Z Z (Q5 Z d (λ_ d=>?_) (λ_ d=>?_)))))
  .exact Je g d
  refine Gc 9 Z (Bd d λab B d=>Iz B Z (Go 1 Z (Cz [] d Kc Z λac X d=>Go 3 Z (Cn Z d (λ_ d=>?_) (λ_ d=>?_)))))
  .exact DZ g d h
  refine Gc 7 Z (Bd d λP Q d=>FX (b:=P) [] [0,3] Ze Ze Zf ?_ (λY env H j R=>?_))
  .refine G0 1 Z (Lp [] [0,3] (λt=>[(4,I t)]) Ze Q Zf (Lr []) λt ad f m=>(G0 8 Z (Q5 Z f (λ_ f=>?_) (λ_ f=>?_))))
   .exact Je m f
   refine Gc 5 Z (DP 8 Z (D 2 Z ?_));obtain⟨T,G,f⟩:=Qw f;refine DS.wo (x:=.rp [.str T]) ?_ ?_
   .exact Ix G E3 sizeOf9 Z Wp
   refine D 3 Z ?_;obtain⟨V,J,f⟩:=Qw f;refine DS.wo (x:=.rp [.str V]) ?_ ?_
   .exact Ix J E3 sizeOf9 Z Wp
   refine D 1 Z (Eg Z (Go 3 Z (Cn Z f (λ_ f=>?_) (λ_ f=>?_))))
   .refine Gc 8 Z (IN f ?_);obtain rfl:=Oj m f;exact DZ g d h
   exact au f
  subst j;exact Gx 2 Z (Ee R (Gc 5 Z (QZ d (Lr []))))
 subst j;exact au h
def Tz(n:Nat)(f:CA)(d:(AA (AA UInt8))×Int):AB (CF ((AA (AA UInt8))×Int) (AA (AA UInt8))):=(bif d.2<(AI f.Ar:Int) then AH (CI f.Ar d.2) λg=>AH (app d.1 [g.Ao]) λh=>AC (.k (h,i64.wrap (d.2+1)))else AC (.d d.1))
def UV(n:Nat)(f:CA)(d:(AA (AA UInt8))×Int):AB (CF ((AA (AA UInt8))×Int) (AA (AA UInt8))):=(bif d.2<(AI f.AP:Int) then AH (CI f.AP d.2) λg=>AH (app d.1 [g.Ao]) λh=>AC (.k (h,i64.wrap (d.2+1)))else AC (.d d.1))
def UZ(n:Nat)(f:CA)(d:(AA (AA UInt8))×Int):AB (CF ((AA (AA UInt8))×Int) (AA (AA UInt8))):=(bif d.2<(AI f.A0:Int) then AH (CI f.A0 d.2) λg=>AH (app d.1 [g.Ao]) λh=>AC (.k (h,i64.wrap (d.2+1)))else AC (.d d.1))
def U5(n:Nat)(f:CA)(d:(AA (AA UInt8))×Int):AB (CF ((AA (AA UInt8))×Int) (AA (AA UInt8))):=(bif d.2<(AI f.Ab:Int) then AH (CI f.Ab d.2) λg=>AH (app d.1 [g.Ao]) λh=>AC (.k (h,i64.wrap (d.2+1)))else AC (.d d.1))
def U8(n:Nat)(f:CA)(d:(AA (AA UInt8))×Int):AB (CF ((AA (AA UInt8))×Int) (AA (AA UInt8))):=(bif d.2<(AI f.AV:Int) then AH (CI f.AV d.2) λg=>AH (app d.1 [g.Ao]) λh=>AC (.k (h,i64.wrap (d.2+1)))else AC (.d d.1))
def O2(d:CA):AB Bool:=AH (iter (Tz n d) n (([]:AA (AA UInt8)),0):AB (AA (AA UInt8))) λF=>AH (iter (UV n d) n (([]:AA (AA UInt8)),0):AB (AA (AA UInt8))) λj=>AH (iter (UZ n d) n (([]:AA (AA UInt8)),0):AB (AA (AA UInt8))) λm=>AH (iter (U5 n d) n (([]:AA (AA UInt8)),0):AB (AA (AA UInt8))) λq=>AH (iter (U8 n d) n (([]:AA (AA UInt8)),0):AB (AA (AA UInt8))) λt=>AH (AH (Mf n d.Ao) λx=>(bif x then AH (Id n F) λy=>(bif y then AH (Id n j) λB=>(bif B then AH (Id n m) λf=>(bif f then AH (Id n q) λg=>(bif g then AH (Id n t) λh=>AC h else AC AD)else AC AD)else AC AD)else AC AD)else AC AD):AB Bool) λE=>AC E
instance xx(a1:CA):Ks (O2 n a1) 47 [.a (CA.c a1)] [] (λr=>.b r):=by
 refine Kg 8 func47 Z Z Z Z λr h=>vH (Ek (xs:=[]) (es:=map JK []) Jz Z Z Z Z Z trivial Z Z) ?_;refine Fg 9 Z Z (Bd h λM h9 h=>Ct M [0,1] [1] (λM=>[(3,.o 1 (AI M) 1)]) (λM=>[(1,.r 9 1 (map JK M))]) Zf ?_ (λenv H d=>?_))
 .refine G0 1 Z (Lp [0,1] [1] (λt=>[(3,.o 1 (AI t.1) 1),(4,I t.2)]) (λt=>[(1,.r 9 1 (map JK t.1))]) h9 Zf (Lr [0,1]) λt az f O=>?_);refine G0 6 Z (Lg 3 Z Z (Q5 Z f (λ_ f=>?_) (λ_ f=>?_)))
  .exact Je O f
  refine Gc 9 Z (Bd f λal Q f=>Iz Q Z (Go 2 Z (vH (Ek (xs:=[.tmp 27]) (es:=map JK [al.Ao]) Jz Z Z Z Z Z ⟨Z,trivial⟩ Z Z) ?_)));refine FE Z (Bd f λba R f=>vH (Qj (e:=JK) R Jz E3 (QE (i:=2))) ?_);exact au f
 refine Gx 1 Z (Ee d (Gc 2 Z (vH (Ek (xs:=[]) (es:=map JK []) Jz Z Z Z Z Z trivial Z Z) ?_)));refine Fg 9 Z Z (Bd h λx am h=>Ct x [0,1,2] [1,3] (λx=>[(5,.o 2 (AI x) 1)]) (λx=>[(2,.r 9 1 (map JK x))]) Zf ?_ (λenv H d=>?_))
 .refine G0 1 Z (Lp [0,1,2] [1,3] (λy=>[(5,.o 2 (AI y.1) 1),(6,I y.2)]) (λy=>[(2,.r 9 1 (map JK y.1))]) am Zf (Lr [0,1,2]) λy bb g T=>?_);refine G0 6 Z (Lg 3 Z Z (Q5 Z g (λ_ g=>?_) (λ_ g=>?_)))
  .exact Je T g
  refine Gc 9 Z (Bd g λan W g=>Iz W Z (Go 2 Z (vH (Ek (xs:=[.tmp 44]) (es:=map JK [an.Ao]) Jz Z Z Z Z Z ⟨Z,trivial⟩ Z Z) ?_)));refine FE Z (Bd g λbc X g=>vH (Qj (e:=JK) X Jz E3 (QE (i:=3))) ?_);exact au g
 refine Gx 1 Z (Ee d (Gc 2 Z (vH (Ek (xs:=[]) (es:=map JK []) Jz Z Z Z Z Z trivial Z Z) ?_)));refine Fg 9 Z Z (Bd h λB ao h=>Ct B [0,1,2,3] [1,3,5] (λB=>[(7,.o 3 (AI B) 1)]) (λB=>[(3,.r 9 1 (map JK B))]) Zf ?_ (λenv H d=>?_))
 .refine G0 1 Z (Lp [0,1,2,3] [1,3,5] (λE=>[(7,.o 3 (AI E.1) 1),(8,I E.2)]) (λE=>[(3,.r 9 1 (map JK E.1))]) ao Zf (Lr [0,1,2,3]) λE bd j Y=>?_);refine G0 6 Z (Lg 3 Z Z (Q5 Z j (λ_ j=>?_) (λ_ j=>?_)))
  .exact Je Y j
  refine Gc 9 Z (Bd j λaq ab j=>Iz ab Z (Go 2 Z (vH (Ek (xs:=[.tmp 61]) (es:=map JK [aq.Ao]) Jz Z Z Z Z Z ⟨Z,trivial⟩ Z Z) ?_)));refine FE Z (Bd j λbe ac j=>vH (Qj (e:=JK) ac Jz E3 (QE (i:=4))) ?_);exact au j
 refine Gx 1 Z (Ee d (Gc 2 Z (vH (Ek (xs:=[]) (es:=map JK []) Jz Z Z Z Z Z trivial Z Z) ?_)));refine Fg 9 Z Z (Bd h λF ar h=>Ct F [0,1,2,3,4] [1,3,5,7] (λF=>[(9,.o 4 (AI F) 1)]) (λF=>[(4,.r 9 1 (map JK F))]) Zf ?_ (λenv H d=>?_))
 .refine G0 1 Z (Lp [0,1,2,3,4] [1,3,5,7] (λG=>[(9,.o 4 (AI G.1) 1),(10,I G.2)]) (λG=>[(4,.r 9 1 (map JK G.1))]) ar Zf (Lr [0,1,2,3,4]) λG bg m ad=>?_);refine G0 6 Z (Lg 3 Z Z (Q5 Z m (λ_ m=>?_) (λ_ m=>?_)))
  .exact Je ad m
  refine Gc 9 Z (Bd m λav af m=>Iz af Z (Go 2 Z (vH (Ek (xs:=[.tmp 78]) (es:=map JK [av.Ao]) Jz Z Z Z Z Z ⟨Z,trivial⟩ Z Z) ?_)));refine FE Z (Bd m λbh ag m=>vH (Qj (e:=JK) ag Jz E3 (QE (i:=5))) ?_);exact au m
 refine Gx 1 Z (Ee d (Gc 2 Z (vH (Ek (xs:=[]) (es:=map JK []) Jz Z Z Z Z Z trivial Z Z) ?_)));refine Fg 9 Z Z (Bd h λJ aw h=>Ct J [0,1,2,3,4,5] [1,3,5,7,9] (λJ=>[(11,.o 5 (AI J) 1)]) (λJ=>[(5,.r 9 1 (map JK J))]) Zf ?_ (λenv H d=>?_))
 .refine G0 1 Z (Lp [0,1,2,3,4,5] [1,3,5,7,9] (λL=>[(11,.o 5 (AI L.1) 1),(12,I L.2)]) (λL=>[(5,.r 9 1 (map JK L.1))]) aw Zf (Lr [0,1,2,3,4,5]) λL bi q ah=>?_);refine G0 6 Z (Lg 3 Z Z (Q5 Z q (λ_ q=>?_) (λ_ q=>?_)))
  .exact Je ah q
  refine Gc 9 Z (Bd q λax aj q=>Iz aj Z (Go 2 Z (vH (Ek (xs:=[.tmp 95]) (es:=map JK [ax.Ao]) Jz Z Z Z Z Z ⟨Z,trivial⟩ Z Z) ?_)));refine FE Z (Bd q λbj ak q=>vH (Qj (e:=JK) ak Jz E3 (QE (i:=6))) ?_);exact au q
 refine Gx 1 Z (Ee d (Gc 1 Z (Bd h λN ay h=>Cg N [] [] (λN=>[(2,.b N)]) Ze Zf ?_ ?_)))
 .exact au ay
 exact au h
def G9(n:Nat)(d:Int)(f:Int)(g:Int):AB Bool:=AH ((bif f<=d then AC (AG (d<=g))else AC AD):AB Bool) λh=>AC h
instance k_c(d:Int)(f:Int)(g:Int):Ks (G9 n d f g) 107 [I d,I f,I g] [] (λr=>.b r):=KA func107
def LY(d:CA)(f:Int):AB Bool:=AH (G9 n f 0 (i64.wrap ((AI d.Ar:Int)-1))) λg=>AC g
instance k_z(d:CA)(f:Int):Ks (LY n d f) 108 [.a (CA.c d),I f] [] (λr=>.b r):=KA func108
def OI(g:CA)(h:AA CG)(rec229:CA->(AA CG)->AB Bool)(f:Int):AB (CF Int (CF Unit Bool)):=(bif f<(AI h:Int) then AH (CI h f) λd=>AH ((bif (d.As==0)then AH (LY n g d.Al) λj=>(bif j then AC ((AI d.Ad:Int)==0)else AC AD)else AC AD):AB Bool) λm=>AH (AH (G9 n d.As 1 64) λq=>(bif q then(bif (d.Al==0)then(bif 0<(AI d.Ad:Int) then AH (rec229 g d.Ad) λt=>AC t else AC AD)else AC AD)else AC AD):AB Bool) λx=>AH ((bif (!m)then AC (!x)else AC AD):AB Bool) λy=>(bif y then AC (.d (.d AD))else AC (.k (i64.wrap (f+1))))else AC (.d (.k ())))
def iw(rec229:CA->(AA CG)->AB Bool)(n:Nat)(g:CA)(h:AA CG):AB Bool:=AH (iter (OI n g h rec229) n 0:AB (CF Unit Bool)) λf=>match f with|.k d=>(AC AE)|.d d=>AC d
theorem QaT(rec229:CA->(AA CG)->AB Bool)(F:∀(f:CA) (g:AA CG),Ks (rec229 f g) 180 [.a (CA.c f),.q 3 (map CG.enc g)] [] (λr=>.b r))(n:Nat)(f:CA)(g:AA CG):Ks (iw rec229 n f g) 180 [.a (CA.c f),.q 3 (map CG.enc g)] [] (λr=>.b r):=by
 refine Kg 12 func180 Z Z Z Z λr h=>Bd h λG J h=>D4 (b:=G) [] [] Ze Ze Zf ?_ (λ_ L=>?_)
 .refine G0 1 Z (Lp [0] [1,2] (λy=>[(5,I y)]) Ze J Zf (Lr [0]) λy R d j=>?_);refine G0 5 Z (Lg 3 Z Z (Q5 Z d (λ_ d=>?_) (λ_ d=>?_)))
  .exact Je j d
  refine Gc 8 Z (Bd d λM E d=>FU E (QM M) Z (Go 6 Z (Bd d λm N d=>Ct m [0,1] [1,2,5,6] (λm=>[(7,.b m)]) Ze Zf ?_ (λenv H q=>?_))))
  .exact au N
  refine Gx 1 Z (Ee q (Gc 1 Z (Bd d λt O d=>Ct t [0] [1,2,5,7] (λt=>[(8,.b t)]) Ze Zf ?_ (λenv H q=>?_))))
  .exact au O
  refine Gx 1 Z (Ee q (Gc 1 Z (Bd d λx P d=>Cg x [0] [1,2,5] (λx=>[(59,.b x)]) Ze Zf ?_ ?_)))
  .exact au P
  exact DZ j d h
 subst L;exact au h
def TB:Nat->CA->(AA CG)->AB Bool
  |0=>λ_ _=>AF
  |n+1=>iw (TB n) n
instance k_w:∀(d:CA) (f:AA CG),Ks (TB n d f) 180 [.a (CA.c d),.q 3 (map CG.enc f)] [] (λr=>.b r):=by
  induction n with
  |zero=>exact λ_ _=>⟨nofun⟩
  |succ n ih=>exact QaT _ ih n
def Tc(q:CA)(g:AN)(d:Int):AB (CF Int (CF Unit Bool)):=(bif d<(AI g.Aq:Int) then AH (CI g.Aq d) λf=>AH (AH (LY n q f.Al) λh=>(bif (!h)then AC AE else(bif f.B8<1 then AC AE else AH (G9 n f.Bt 0 1099511627776) λj=>AC (!j))):AB Bool) λm=>(bif m then AC (.d (.d AD))else AC (.k (i64.wrap (d+1))))else AC (.d (.k ())))
def O1(g:CA)(d:AN):AB Bool:=AH (iter (Tc n g d) n 0:AB (CF Unit Bool)) λh=>match h with|.k f=>(AH (AH (G9 n d.BI 1 3) λj=>(bif j then AH (TB n g d.Ae) λm=>(bif m then(bif (d.Am==(-1))then AC AE else AH (LY n g d.Am) λq=>AC q)else AC AD)else AC AD):AB Bool) λt=>AC t)|.d f=>AC f
instance xw(d:CA)(f:AN):Ks (O1 n d f) 109 [.a (CA.c d),.a (AN.c f)] [] (λr=>.b r):=KA func109
def TT(f:CA)(d:Int):AB (CF Int (CF Unit Bool)):=(bif d<(AI f.Ar:Int) then AH (CI f.Ar d) λg=>AH (G9 n g.AX 1 3) λh=>(bif (!h)then AC (.d (.d AD))else AC (.k (i64.wrap (d+1))))else AC (.d (.k ())))
def U7(n:Nat)(q:CA)(g:Int)(f:Cp)(d:Int):AB (CF Int (CF Unit (CF Int (CF Unit Bool)))):=(bif d<g then AH (AH (CI q.Az d) λh=>(bif (h.BA==f.BA)then AH (CI q.Az d) λj=>AC (j.To==f.To)else AC AD):AB Bool) λm=>(bif m then AC (.d (.d (.d (.d AD))))else AC (.k (i64.wrap (d+1))))else AC (.d (.k ())))
def Tb(h:CA)(f:Int):AB (CF Int (CF Unit Bool)):=(bif f<(AI h.Az:Int) then AH (CI h.Az f) λd=>AH (AH (LY n h d.BA) λj=>(bif (!j)then AC AE else AH (LY n h d.To) λm=>(bif (!m)then AC AE else(bif d.Bl<0 then AC AE else(bif d.Bq<d.Bl then AC AE else AC (AG (68719476736<d.Bq)))))):AB Bool) λq=>(bif q then AC (.d (.d AD))else AH (iter (U7 n h f d) n 0:AB (CF Unit (CF Int (CF Unit Bool)))) λt=>match t with|.k g=>(AC (.k (i64.wrap (f+1))))|.d g=>AC g)else AC (.d (.k ())))
def TK(f:CA)(d:Int):AB (CF Int (CF Unit Bool)):=(bif d<(AI f.AP:Int) then AH (CI f.AP d) λg=>AH (O1 n f g) λh=>(bif (!h)then AC (.d (.d AD))else AC (.k (i64.wrap (d+1))))else AC (.d (.k ())))
def T8(h:CA)(d:Int):AB (CF Int (CF Unit Bool)):=(bif d<(AI h.A0:Int) then AH (CI h.A0 d) λf=>AH (G9 n f.B9 0 1099511627776) λg=>(bif (!g)then AC (.d (.d AD))else AC (.k (i64.wrap (d+1))))else AC (.d (.k ())))
def UO(x:CA)(f:Int):AB (CF Int (CF Unit Bool)):=(bif f<(AI x.Ab:Int) then AH (CI x.Ab f) λd=>AH (AH (G9 n d.BW 0 68719476736) λg=>(bif g then(bif (d.As==0)then AC (!d.A')else AC AD)else AC AD):AB Bool) λh=>AH ((bif (d.BW==0)then AH (G9 n d.As 1 64) λj=>(bif j then AC (!d.A')else AC AD)else AC AD):AB Bool) λm=>AH ((bif (d.BW==0)then(bif (d.As==0)then AC d.A' else AC AD)else AC AD):AB Bool) λq=>AH ((bif (!h)then(bif (!m)then AC (!q)else AC AD)else AC AD):AB Bool) λt=>(bif t then AC (.d (.d AD))else AC (.k (i64.wrap (f+1))))else AC (.d (.k ())))
def U6(n:Nat)(h:CA)(f:Int):AB (CF Int (CF Unit Bool)):=(bif f<(AI h.AV:Int) then AH (CI h.AV f) λd=>AH ((bif d.BA<0 then AC AE else(bif d.To<d.BA then AC AE else AC (AG (120<d.To)))):AB Bool) λg=>(bif g then AC (.d (.d AD))else AC (.k (i64.wrap (f+1))))else AC (.d (.k ())))
def UP(n:Nat)(m:CA)(h:Int)(d:CQ)(f:Int):AB (CF Int (CF Unit (CF Int (CF Unit Bool)))):=(bif f<h then AH (CI m.Ay f) λg=>AH ((bif (g.AN==d.AN)then(bif (g.AW==d.AW)then AC (g.B0==d.B0)else AC AD)else AC AD):AB Bool) λj=>(bif j then AC (.d (.d (.d (.d AD))))else AC (.k (i64.wrap (f+1))))else AC (.d (.k ())))
def UY(h:CA)(f:Int):AB (CF Int (CF Unit Bool)):=(bif f<(AI h.Ay:Int) then AH (CI h.Ay f) λd=>AH (AH (G9 n d.AN 0 (i64.wrap ((AI h.AP:Int)-1))) λj=>(bif (!j)then AC AE else AH (G9 n d.AW (-1) (i64.wrap ((AI h.AV:Int)-1))) λm=>(bif (!m)then AC AE else AH (G9 n d.B0 1 4000) λq=>(bif (!q)then AC AE else AH (G9 n d.BO 1 1125899906842624) λt=>AC (!t)))):AB Bool) λx=>(bif x then AC (.d (.d AD))else AH (iter (UP n h f d) n 0:AB (CF Unit (CF Int (CF Unit Bool)))) λy=>match y with|.k g=>(AC (.k (i64.wrap (f+1))))|.d g=>AC g)else AC (.d (.k ())))
def PD(d:CA):AB Bool:=AH (iter (TT n d) n 0:AB (CF Unit Bool)) λQ=>match Q with|.k q=>(AH (iter (Tb n d) n 0:AB (CF Unit Bool)) λR=>match R with|.k t=>(AH (iter (TK n d) n 0:AB (CF Unit Bool)) λx=>match x with|.k f=>(AH (iter (T8 n d) n 0:AB (CF Unit Bool)) λy=>match y with|.k g=>(AH (iter (UO n d) n 0:AB (CF Unit Bool)) λB=>match B with|.k h=>(AH (iter (U6 n d) n 0:AB (CF Unit Bool)) λE=>match E with|.k j=>(AH (iter (UY n d) n 0:AB (CF Unit Bool)) λF=>match F with|.k m=>(AH (AH (G9 n d.AQ.A8 0 16) λG=>(bif G then AH (G9 n d.AQ.A6 0 16) λH=>(bif H then AH (G9 n d.AQ.A5 0 4294967296) λJ=>(bif J then AH (G9 n d.AQ.Ak 0 4294967296) λL=>(bif L then AH (G9 n d.AQ.BC 0 100000) λM=>(bif M then AH (G9 n d.Bj 0 1125899906842624) λN=>(bif N then AH (G9 n d.Av 0 1099511627776) λO=>AC O else AC AD)else AC AD)else AC AD)else AC AD)else AC AD)else AC AD):AB Bool) λP=>AC P)|.d m=>AC m)|.d j=>AC j)|.d h=>AC h)|.d g=>AC g)|.d f=>AC f)|.d t=>AC t)|.d q=>AC q
instance yI(a1:CA):Ks (PD n a1) 48 [.a (CA.c a1)] [] (λr=>.b r):=by
 refine Kg 12 func48 Z Z Z Z λr h=>Bd h λco cp h=>FX (b:=co) [0] [1] Ze Ze Zf ?_ (λcz env H q d=>?_)
 .refine G0 1 Z (Lp [0] [1] (λbk=>[(3,I bk)]) Ze cp Zf (Lr [0]) λbk dn cq bl=>?_);exact DZ bl cq h
 subst q;refine Gx 1 Z (Ee d (Gc 6 Z (Bd h λcr bm h=>FX (b:=cr) [0] [1] Ze Ze Zf ?_ (λda env H q d=>?_))))
 .refine G0 1 Z (Lp [0] [1] (λac=>[(4,I ac)]) Ze bm Zf (Lr [0]) λac db g G=>?_);refine G0 6 Z (Lg 3 Z Z (Q5 Z g (λ_ g=>?_) (λ_ g=>?_)))
  .exact Je G g
  refine Gc 9 Z (Bd g λdc al g=>Iz al Z (Go 7 Z (Bd g λM bn g=>Ct M [0,1] [1,4,5] (λM=>[(76,.b M)]) Ze Zf ?_ (λenv H d=>?_))))
  .exact au bn
  refine Gx 1 Z (Ee d (Cn Z g (λ_ g=>?_) (λ_ g=>?_)))
  .exact DZ G g h
  refine Gc 7 Z (Bd g λbo bp g=>FX (b:=bo) [0] [1,4] Ze Ze Zf ?_ (λcs env H q d=>?_))
  .refine G0 1 Z (Lp [0,1] [1,4,5] (λad=>[(6,I ad)]) Ze bp Zf (Lr [0,1]) λad dd t X=>?_);refine G0 8 Z (Q5 Z t (λ_ t=>?_) (λ_ t=>?_))
   .exact Je X t
   refine Gc 5 Z (Bd t λN y t=>Ct N [0,1] [1,4,5,6] (λN=>[(101,.b N)]) Ze Zf ?_ (λenv H d=>?_))
   .refine G0 0 Z (DP 18 Z (D 3 Z ?_));obtain⟨J,ao,y⟩:=Qw y;refine DS.wo (x:=.rp [I J.BA,I J.To,I J.Bl,I J.Bq]) ?_ ?_
    .exact Ix ao Gb GN Z Wp
    refine D 6 Z (DS.is 9 y Z Z Z (λ_ y=>?_) (λ_ y=>?_))
    .refine D 3 Z ?_;obtain⟨E,ar,y⟩:=Qw y;refine DS.v (x:=(.rp [I E.BA,I E.To,I E.Bl,I E.Bq])) (QV (e:=Cp.c) (l:=a1.Az) (v:=E) ar Gb GN) ?_ (hg:=(gT Z));exact au y
    exact au y
   refine Gx 1 Z (Ee d (Cn Z t (λ_ t=>?_) (λ_ t=>?_)))
   .refine Gc 8 Z (IN t ?_);obtain rfl:=Oj X t;exact DZ G g h
   exact au t
  subst q;exact Gx 2 Z (Ee d (Gc 5 Z (QZ g (Lr [0]))))
 subst q;refine Gx 1 Z (Ee d (Gc 6 Z (Bd h λbq br h=>FX (b:=bq) [0] [1] Ze Ze Zf ?_ (λct env H q d=>?_))))
 .refine G0 1 Z (Lp [0] [1] (λae=>[(7,I ae)]) Ze br Zf (Lr [0]) λae de B Y=>?_);refine G0 6 Z (Lg 3 Z Z (Q5 Z B (λ_ B=>?_) (λ_ B=>?_)))
  .exact Je Y B
  refine Gc 5 Z (DP 6 Z (D 4 Z ?_));obtain⟨F,ax,B⟩:=Qw B;refine DS.wo (x:=.rp [.str F.Ao,.q 3 (map CG.enc F.Ae),I F.BI,.q 3 (map CO.c F.Aq),I F.Am]) ?_ ?_
  .exact Ix ax EL EW Z Wp
  exact DZ Y B h
 subst q;refine Gx 1 Z (Ee d (Gc 6 Z (Bd h λbs bu h=>FX (b:=bs) [0] [1] Ze Ze Zf ?_ (λcu env H q d=>?_))))
 .refine G0 1 Z (Lp [0] [1] (λaf=>[(8,I af)]) Ze bu Zf (Lr [0]) λaf df bv ay=>?_);exact DZ ay bv h
 subst q;refine Gx 1 Z (Ee d (Gc 6 Z (Bd h λbw bx h=>FX (b:=bw) [0] [1] Ze Ze Zf ?_ (λcv env H q d=>?_))))
 .refine G0 1 Z (Lp [0] [1] (λag=>[(9,I ag)]) Ze bx Zf (Lr [0]) λag dg f aa=>?_);refine G0 6 Z (Lg 3 Z Z (Q5 Z f (λ_ f=>?_) (λ_ f=>?_)))
  .exact Je aa f
  refine Gc 9 Z (Bd f λdh ba f=>Iz ba Z (Go 6 Z (Bd f λO bz f=>Ct O [0,1] [1,9,10] (λO=>[(11,.b O)]) Ze Zf ?_ (λenv H d=>?_))))
  .exact au bz
  refine Gx 1 Z (Ee d (Gc 1 Z (Bd f λP ca f=>Ct P [0,1] [1,9,10,11] (λP=>[(12,.b P)]) Ze Zf ?_ (λenv H d=>?_))))
  .exact au ca
  refine Gx 1 Z (Ee d (Gc 1 Z (Bd f λQ cb f=>Ct Q [0] [1,9,11,12] (λQ=>[(13,.b Q)]) Ze Zf ?_ (λenv H d=>?_))))
  .exact au cb
  refine Gx 1 Z (Ee d (Gc 1 Z (Bd f λR cc f=>Ct R [0] [1,9] (λR=>[(191,.b R)]) Ze Zf ?_ (λenv H d=>?_))))
  .exact au cc
  refine Gx 1 Z (Ee d (Cn Z f (λ_ f=>?_) (λ_ f=>?_)))
  .exact DZ aa f h
  exact au f
 subst q;refine Gx 1 Z (Ee d (Gc 6 Z (Bd h λcd ce h=>FX (b:=cd) [0] [1] Ze Ze Zf ?_ (λcw env H q d=>?_))))
 .refine G0 1 Z (Lp [0] [1] (λah=>[(14,I ah)]) Ze ce Zf (Lr [0]) λah di cf bc=>?_);exact DZ bc cf h
 subst q;refine Gx 1 Z (Ee d (Gc 6 Z (Bd h λcg ch h=>FX (b:=cg) [0] [1] Ze Ze Zf ?_ (λcx env H q d=>?_))))
 .refine G0 1 Z (Lp [0] [1] (λai=>[(16,I ai)]) Ze ch Zf (Lr [0]) λai dj j L=>?_);refine G0 6 Z (Lg 3 Z Z (Q5 Z j (λ_ j=>?_) (λ_ j=>?_)))
  .exact Je L j
  refine Gc 9 Z (Bd j λdk be j=>Iz be Z (Go 7 Z (Bd j λT ci j=>Ct T [0,1] [1,16,17] (λT=>[(260,.b T)]) Ze Zf ?_ (λenv H d=>?_))))
  .exact au ci
  refine Gx 1 Z (Ee d (Cn Z j (λ_ j=>?_) (λ_ j=>?_)))
  .exact DZ L j h
  refine Gc 7 Z (Bd j λcj cl j=>FX (b:=cj) [0] [1,16] Ze Ze Zf ?_ (λcy env H q d=>?_))
  .refine G0 1 Z (Lp [0,1] [1,16,17] (λaj=>[(18,I aj)]) Ze cl Zf (Lr [0,1]) λaj dl m ab=>?_);refine G0 8 Z (Q5 Z m (λ_ m=>?_) (λ_ m=>?_))
   .exact Je ab m
   refine Gc 9 Z (Bd m λdm bi m=>Iz bi Z (Go 6 Z (Bd m λV cm m=>Ct V [0,1] [1,16,17,18] (λV=>[(289,.b V)]) Ze Zf ?_ (λenv H d=>?_))))
   .exact au cm
   refine Gx 1 Z (Ee d (Cn Z m (λ_ m=>?_) (λ_ m=>?_)))
   .refine Gc 8 Z (IN m ?_);obtain rfl:=Oj ab m;exact DZ L j h
   exact au m
  subst q;exact Gx 2 Z (Ee d (Gc 5 Z (QZ j (Lr [0]))))
 subst q;refine Gx 1 Z (Ee d (Gc 9 Z (Bd h λW cn h=>Cg W [] [] (λW=>[(2,.b W)]) Ze Zf ?_ ?_)))
 .exact au cn
 exact au h
def TP(n:Nat)(f:AS)(rec233:AS->AB Bool)(d:Int):AB (CF Int (CF Unit Bool)):=(bif d<(AI f.Ad:Int) then AH (CI f.Ad d) λg=>AH (rec233 g) λh=>(bif (!h)then AC (.d (.d AD))else AC (.k (i64.wrap (d+1))))else AC (.d (.k ())))
def P6(rec233:AS->AB Bool)(n:Nat)(d:AS):AB Bool:=(bif (d.AX==1)then AH ((bif 1<=d.Bw then(bif d.Bw<=3 then(bif 0<=d.N then(bif d.N<=10000 then AC ((AI d.Ad:Int)==0)else AC AD)else AC AD)else AC AD)else AC AD):AB Bool) λx=>AC x else AH ((bif (d.AX==2)then AC (d.AX==2)else AC (d.AX==3)):AB Bool) λh=>AH ((bif h then AH ((bif (AI d.Ad:Int)<1 then AC AE else AC (AG (16<(AI d.Ad:Int)))):AB Bool) λj=>(bif j then AC (.d AD)else AC (.k ()))else(bif (d.AX==4)then(bif ((AI d.Ad:Int) != 1)then AC (.d AD)else AC (.k ()))else AC (.d AD))):AB (CF Unit Bool)) λm=>match m with|.k f=>(AH ((bif (d.Bw != 0)then AC AE else AC (d.N != 0)):AB Bool) λq=>(bif q then AC AD else AH (iter (TP n d rec233) n 0:AB (CF Unit Bool)) λt=>match t with|.k g=>(AC AE)|.d g=>AC g))|.d f=>AC f)
theorem Qba(rec233:AS->AB Bool)(O:∀(j:AS),Ks (rec233 j) 268 [.a (AS.c j)] [] (λr=>.b r))(n:Nat)(j:AS):Ks (P6 rec233 n j) 268 [.a (AS.c j)] [] (λr=>.b r):=by
 refine Kg 20 func268 Z Z Z Z λr h=>Cn Z h (λ_ h=>?_) (λ_ h=>?_)
 .exact au h
 refine Gc 7 Z (Bd h λm Q h=>Ct m [0] [1,5] (λm=>[(32,.b m)]) Ze Zf ?_ (λenv H g=>?_))
 .exact au Q
 refine Gx 1 Z (Ee g (Bd h λR d h=>FX (b:=R) [0] [1] Ze Ze Zf ?_ (λab env H hb g=>?_)))
 .refine G0 0 Z (Cn Z d (λ_ d=>?_) (λ_ d=>?_))
  .refine Gc 1 Z (Bd d λq T d=>Ct q [0] [1] (λq=>[(44,.b q)]) Ze Zf ?_ (λenv H g=>?_))
   .exact au T
   refine Gx 1 Z (Ee g (Cn Z d (λ_ d=>?_) (λ_ d=>?_)))
   .refine Gc 6 Z ?_;cases d;exact au h
   exact au d
  refine Gc 6 Z (Q5 Z d (λ_ d=>?_) (λ_ d=>?_))
  .refine Gc 6 Z ?_;cases d;exact au h
  refine Gc 4 Z (Lg 3 Z Z (Cn Z d (λ_ d=>?_) (λ_ d=>?_)))
  .refine Gc 6 Z ?_;cases d;exact au h
  exact au d
 subst hb;refine Gx 2 Z (Ee g (Gc 2 Z (Bd h λt V h=>Ct t [0] [1] (λt=>[(58,.b t)]) Ze Zf ?_ (λenv H g=>?_))))
 .exact au V
 refine Gx 1 Z (Ee g (Cn Z h (λ_ h=>?_) (λ_ h=>?_)))
 .exact au h
 refine Gc 8 Z (Bd h λW X h=>D4 (b:=W) [] [] Ze Ze Zf ?_ (λ_ Y=>?_))
 .refine G0 1 Z (Lp [0] [1] (λy=>[(3,I y)]) Ze X Zf (Lr [0]) λy ae f x=>?_);refine G0 6 Z (Lg 3 Z Z (Q5 Z f (λ_ f=>?_) (λ_ f=>?_)))
  .exact Je x f
  refine Gc 9 Z (Bd f λaa M f=>FU M (Ji aa) Z (Go 1 Z (Cz [] f Kc Z λaf ad f=>Go 3 Z (Cn Z f (λ_ f=>?_) (λ_ f=>?_)))))
  .exact DZ x f h
  exact au f
 subst Y;exact au h
def Mx:Nat->AS->AB Bool
  |0=>λ_=>AF
  |n+1=>P6 (Mx n) n
instance zw:∀(d:AS),Ks (Mx n d) 268 [.a (AS.c d)] [] (λr=>.b r):=by
  induction n with
  |zero=>exact λ_=>⟨nofun⟩
  |succ n ih=>exact Qba _ ih n
def O9(d:AS):AB Int:=AH (N2 n d 0) λf=>(bif 256<f then AC 2 else AH (Mx n d) λg=>(bif (!g)then AC 71 else AC 0))
instance yC(d:AS):Ks (O9 n d) 183 [.a (AS.c d)] [] (λr=>I r):=KA func183
def T_(B:AA AY)(rec231:(AA AY)->AB Bool)(f:Int):AB (CF Int (CF Unit Bool)):=(bif f<(AI B:Int) then AH (CI B f) λd=>AH ((bif (d.AX==1)then AH ((bif d.By<1 then AC AE else(bif 5<d.By then AC AE else AH (Mh n d.AS) λh=>(bif (!h)then AC AE else(bif ((AI d.BY:Int) != 0)then AC AE else AC ((AI d.Bf:Int) != 0))))):AB Bool) λj=>(bif j then AC (.d (.d (.d AD)))else AC (.k ()))else(bif (d.AX==2)then AH ((bif (d.By != 0)then AC AE else AH (O9 n d.AS) λm=>(bif (m != 0)then AC AE else(bif ((AI d.BY:Int)==0)then AC AE else AH (rec231 d.BY) λq=>(bif (!q)then AC AE else AH (rec231 d.Bf) λt=>AC (!t))))):AB Bool) λx=>(bif x then AC (.d (.d (.d AD)))else AC (.k ()))else AC (.d (.d (.d AD))))):AB (CF Unit (CF Int (CF Unit Bool)))) λy=>match y with|.k g=>(AC (.k (i64.wrap (f+1))))|.d g=>AC g else AC (.d (.k ())))
def P4(rec231:(AA AY)->AB Bool)(n:Nat)(g:AA AY):AB Bool:=AH (iter (T_ n g rec231) n 0:AB (CF Unit Bool)) λf=>match f with|.k d=>(AC AE)|.d d=>AC d
theorem Qa9(rec231:(AA AY)->AB Bool)(R:∀(t:AA AY),Ks (rec231 t) 111 [.q 8 (map AY.enc t)] [] (λr=>.b r))(n:Nat)(t:AA AY):Ks (P4 rec231 n t) 111 [.q 8 (map AY.enc t)] [] (λr=>.b r):=by
 refine Kg 11 func111 Z Z Z Z λr h=>Bd h λL M h=>D4 (b:=L) [] [] Ze Ze Zf ?_ (λ_ T=>?_)
 .refine G0 1 Z (Lp [] [0] (λx=>[(3,I x)]) Ze M Zf (Lr []) λx X f g=>?_);refine G0 5 Z (Lg 3 Z Z (Q5 Z f (λ_ f=>?_) (λ_ f=>?_)))
  .exact Je g f
  refine Gc 8 Z (Bd f λN B f=>FU B (Yt N) Z (Go 18 Z (Bd f λO d f=>FX (b:=O) [] [0,3] Ze Ze Zf ?_ (λW env H hb j=>?_))))
  .refine G0 0 Z (Cn Z d (λ_ d=>?_) (λ_ d=>?_))
   .refine Gc 1 Z (Bd d λm P d=>Ct m [] [0,3] (λm=>[(44,.b m)]) Ze Zf ?_ (λenv H j=>?_))
    .exact au P
    refine Gx 1 Z (Ee j (Cn Z d (λ_ d=>?_) (λ_ d=>?_)))
    .refine Gc 6 Z ?_;cases d;exact DZ g f h
    exact au d
   refine Gc 6 Z (Q5 Z d (λ_ d=>?_) (λ_ d=>?_))
   .refine Gc 6 Z ?_;cases d;exact DZ g f h
   refine Gc 1 Z (Bd d λq Q d=>Ct q [] [0,3] (λq=>[(73,.b q)]) Ze Zf ?_ (λenv H j=>?_))
   .exact au Q
   refine Gx 1 Z (Ee j (Cn Z d (λ_ d=>?_) (λ_ d=>?_)))
   .refine Gc 6 Z ?_;cases d;exact DZ g f h
   exact au d
  subst hb;exact Gx 3 Z (Ee j (Gc 5 Z (QZ f (Lr []))))
 subst T;exact au h
def Mv:Nat->(AA AY)->AB Bool
  |0=>λ_=>AF
  |n+1=>P4 (Mv n) n
instance zt:∀(d:AA AY),Ks (Mv n d) 111 [.q 8 (map AY.enc d)] [] (λr=>.b r):=by
  induction n with
  |zero=>exact λ_=>⟨nofun⟩
  |succ n ih=>exact Qa9 _ ih n
def OU(d:AA AY):AB Int:=AH (Ro n d 0) λf=>AH ((bif 64<f.1 then AC AE else AC (AG (256<f.2))):AB Bool) λh=>(bif h then AC 2 else AH ((bif ((AI d:Int)==0)then AC AE else AH (Mv n d) λg=>AC (!g)):AB Bool) λj=>(bif j then AC 71 else AC 0))
instance xV(d:AA AY):Ks (OU n d) 49 [.q 8 (map AY.enc d)] [] (λr=>I r):=KA func49
def e8(n:Nat)(q:AA CG)(f:(AA Int)×Int)(g:AA Int)(d:(AA Int)×Int):AB (CF ((AA Int)×Int) (AA Int)):=AH (AH (CI q f.2) λh=>(bif d.2<h.As then AC (AG ((AI d.1:Int)<=256))else AC AD):AB Bool) λj=>(bif j then AH (app d.1 g) λm=>AC (.k (m,i64.wrap (d.2+1)))else AC (.d d.1))
def Tf(f:AA CG)(rec235:(AA CG)->AB (AA Int))(d:(AA Int)×Int):AB (CF ((AA Int)×Int) (AA Int)):=AH ((bif d.2<(AI f:Int) then AC (AG ((AI d.1:Int)<=256))else AC AD):AB Bool) λg=>(bif g then AH (AH (CI f d.2) λh=>(bif (h.As==0)then AH (CI f d.2) λj=>AH (app d.1 [j.Al]) λm=>AC m else AH (CI f d.2) λq=>AH (rec235 q.Ad) λt=>AH (iter (e8 n f d t) n (d.1,0):AB (AA Int)) λx=>AC x):AB (AA Int)) λy=>AC (.k (y,i64.wrap (d.2+1)))else AC (.d d.1))
def P3(rec235:(AA CG)->AB (AA Int))(n:Nat)(f:AA CG):AB (AA Int):=AH (iter (Tf n f rec235) n (([]:AA Int),0):AB (AA Int)) λd=>AC d
theorem QaU(rec235:(AA CG)->AB (AA Int))(ag:∀(G:AA CG),Kq (rec235 G) 112 [.q 3 (map CG.enc G)] [] (λr=>.o 0 (AI r) 1) (λr=>[.r 3 1 (map eI r)]))(n:Nat)(G:AA CG):Kq (P3 rec235 n G) 112 [.q 3 (map CG.enc G)] [] (λr=>.o 0 (AI r) 1) (λr=>[.r 3 1 (map eI r)]):=by
 refine Kg 7 func112 Z Z Z Z λr h=>vH (Ek (xs:=[]) (es:=map eI []) QG Z Z Z Z Z trivial Z Z) ?_;refine Fg 9 Z Z (Bd h λm aa h=>Cg m [0] [] (λm=>[(3,.o 0 (AI m) 1)]) (λm=>[(0,.r 3 1 (map eI m))]) Zf ?_ ?_)
 .refine G0 1 Z (Lp [0] [0] (λq=>[(3,.o 0 (AI q.1) 1),(4,I q.2)]) (λq=>[(0,.r 3 1 (map eI q.1))]) aa Zf (Lr [0]) λq ai f L=>?_);refine G0 2 Z (Bd f λE ab f=>Ct E [0] [0,3,4] (λE=>[(16,.b E)]) Ze Zf ?_ (λenv H B=>?_))
  .exact au ab
  refine Gx 1 Z (Ee B (Q5 Z f (λ_ f=>?_) (λ_ f=>?_)))
  .exact Je L f
  refine Gc 3 Z (Bd f λt d f=>Cg t [0] [0,4] (λt=>[(3,.o 0 (AI t) 1)]) (λt=>[(0,.r 3 1 (map eI t))]) Zf ?_ ?_)
  .refine G0 6 Z (Bd d λac N d=>FU N (QM ac) Z (Go 5 Z (Cn Z d (λ_ d=>?_) (λ_ d=>?_))))
   .refine Gc 5 Z (Bd d λJ P d=>FU P (QM J) Z (Go 2 Z (vH (Ek (xs:=[.tmp 30]) (es:=map eI [J.Al]) QG Z Z Z Z Z ⟨Z,trivial⟩ Z Z) ?_)));refine FE Z (Bd d λaj Q d=>vH (Qj (e:=eI) Q QG EB (QE (i:=1))) ?_);exact au d
   refine Gc 6 Z (Bd d λad R d=>FU R (QM ad) Z (Go 2 Z (Cd [] d Kc Z λak ah d=>Fg 8 Z Z (Bd d λx ae d=>Ct x [0] [0,4] (λx=>[(3,.o 0 (AI x) 1)]) (λx=>[(0,.r 3 1 (map eI x))]) Zf ?_ (λenv H B=>?_)))))
   .refine G0 1 Z (Lp [0,1] [0,4,5] (λy=>[(3,.o 0 (AI y.1) 1),(6,I y.2)]) (λy=>[(0,.r 3 1 (map eI y.1))]) ae Zf (Lr [0,1]) λy al g T=>?_);refine G0 2 Z (Bd g λF j g=>Ct F [0,1] [0,3,4,5,6] (λF=>[(50,.b F)]) Ze Zf ?_ (λenv H B=>?_))
    .refine G0 4 Z (Bd j λaf V j=>FU V (QM af) Z (Go 4 Z (Is 46 j Z (λ_ j=>?_) (λ_ j=>?_))))
     iterate 2 exact au j
    refine Gx 1 Z (Ee B (Q5 Z g (λ_ g=>?_) (λ_ g=>?_)))
    .exact Je T g
    refine Gc 7 Z (Bd g λam Y g=>vH (Qj (e:=eI) Y QG EB (QE (i:=1))) ?_);exact au g
   refine Gx 1 Z ?_;cases d;exact Nv (En B (Lr [0]))
  exact au f
 exact au h
def Mu:Nat->(AA CG)->AB (AA Int)
  |0=>λ_=>AF
  |n+1=>P3 (Mu n) n
instance zr:∀(d:AA CG),Kq (Mu n d) 112 [.q 3 (map CG.enc d)] [] (λr=>.o 0 (AI r) 1) (λr=>[.r 3 1 (map eI r)]):=by
  induction n with
  |zero=>exact λ_=>⟨nofun⟩
  |succ n ih=>exact QaU _ ih n
def TI(n:Nat)(f:CA)(m:Int)(q:Int)(d:Int):AB (CF Int (CF Unit Int)):=(bif d<(AI f.Az:Int) then AH (AH (CI f.Az d) λg=>(bif (g.BA==m)then AH (CI f.Az d) λh=>AC (h.To==q)else AC AD):AB Bool) λj=>(bif j then AC (.d (.d d))else AC (.k (i64.wrap (d+1))))else AC (.d (.k ())))
def Mc(g:CA)(h:Int)(j:Int):AB Int:=AH (iter (TI n g h j) n 0:AB (CF Unit Int)) λf=>match f with|.k d=>(AC (-1))|.d d=>AC d
instance y7(d:CA)(f:Int)(g:Int):Ks (Mc n d f g) 113 [.a (CA.c d),I f,I g] [] (λr=>I r):=KA func113
def Tn(n:Nat)(f:AA Int)(j:Int)(d:Int×Int):AB (CF (Int×Int) Int):=(bif d.2<(AI f:Int) then AH (CI f d.2) λg=>AH ((bif (g==j)then AC (i64.wrap (d.1+1))else AC d.1):AB Int) λh=>AC (.k (h,i64.wrap (d.2+1)))else AC (.d d.1))
def Mo(f:AA Int)(g:Int):AB Int:=AH (iter (Tn n f g) n (0,0):AB Int) λd=>AC d
instance jv(x:AA Int)(y:Int):Ks (Mo n x y) 114 [.q 1 (map eI x),I y] [] (λr=>I r):=by
 refine Kg 16 func114 Z Z Z Z λr h=>Bd h λf B h=>Cg f [] [] (λf=>[(5,I f)]) Ze Zf ?_ ?_
 .refine G0 1 Z (Lp [] [0,1] (λg=>[(5,I g.1),(6,I g.2)]) Ze B Zf (Lr []) λg G d m=>?_);refine G0 5 Z (Lg 3 Z Z (Q5 Z d (λ_ d=>?_) (λ_ d=>?_)))
  .exact Je m d
  refine Gc 8 Z (Bd d λJ t d=>Iz t Z (Go 5 Z (Bd d λj E d=>Ct j [] [0,1,6] (λj=>[(5,I j)]) Ze Zf ?_ (λenv H F=>?_))))
  .exact au E
  exact Gx 2 Z (Ee F (Gc 5 Z (QZ d (Lr []))))
 exact au h
def TW(g:CA)(f:AA Int)(d:Int):AB (CF Int (CF Unit Bool)):=(bif d<(AI f:Int) then AH ((bif (d==0)then AC 1 else(bif (d==(i64.wrap ((AI f:Int)-1)))then AC 3 else AC 2)):AB Int) λh=>AH (AH (CI f d) λj=>AH (CI g.Ar j) λm=>(bif (m.AX != h)then AC AE else(bif 0<d then AH (CI f (i64.wrap (d-1))) λq=>AH (CI f d) λt=>AH (Mc n g q t) λx=>AC (AG (x<0))else AC AD)):AB Bool) λy=>(bif y then AC (.d (.d AD))else AC (.k (i64.wrap (d+1))))else AC (.d (.k ())))
def U3(f:AN)(m:AA Int)(d:Int):AB (CF Int (CF Unit Bool)):=(bif d<(AI f.Aq:Int) then AH (CI f.Aq d) λg=>AH (Mo n m g.Al) λh=>AH (CI f.Aq d) λj=>(bif h<j.B8 then AC (.d (.d AD))else AC (.k (i64.wrap (d+1))))else AC (.d (.k ())))
def Ox(j:CA)(d:AN):AB Bool:=AH (Mu n d.Ae) λf=>AH ((bif (AI f:Int)<2 then AC AE else AC (AG (256<(AI f:Int)))):AB Bool) λE=>(bif E then AC AD else AH (iter (TW n j f) n 0:AB (CF Unit Bool)) λm=>match m with|.k g=>(AH ((bif (d.Am != (-1))then AH (CI j.Ar d.Am) λq=>(bif (q.AX != 2)then AC AE else AH (Mo n f d.Am) λt=>(bif (t==0)then AC AE else AH (Mc n j d.Am d.Am) λx=>AC (AG (x<0))))else AC AD):AB Bool) λy=>(bif y then AC AD else AH (iter (U3 n d f) n 0:AB (CF Unit Bool)) λB=>match B with|.k h=>(AC AE)|.d h=>AC h))|.d g=>AC g)
instance xr(a1:CA)(a2:AN):Ks (Ox n a1 a2) 50 [.a (CA.c a1),.a (AN.c a2)] [] (λr=>.b r):=by
 refine Kg 11 func50 Z Z Z Z λr h=>Cd [] h Kc Z λr1 aw h=>Fg 12 Z Z (Bd h λW h4 h=>Ct W [0,1,2] [2,3,5,6] (λW=>[(20,.b W)]) Ze Zf ?_ (λenv H j=>?_))
 .exact au h4
 refine Gx 1 Z (Ee j (Cn Z h (λ_ h=>?_) (λ_ h=>?_)))
 .exact au h
 refine Gc 8 Z (Bd h λag ah h=>FX (b:=ag) [0,1,2] [2,3,5] Ze Ze Zf ?_ (λaq env H B j=>?_))
 .refine G0 1 Z (Lp [0,1,2] [2,3,5,6] (λm=>[(7,I m)]) Ze ah Zf (Lr [0,1,2]) λm ax g E=>?_);refine G0 8 Z (Q5 Z g (λ_ g=>?_) (λ_ g=>?_))
  .exact Je E g
  refine Gc 22 Z (Bd g λF ai g=>Ct F [0,1,2] [2,3,5,6,7] (λF=>[(8,I F)]) Ze Zf ?_ (λenv H j=>?_))
  .exact au ai
  refine Gx 2 Z (Ee j (Gc 1 Z (Bd g λG d g=>Ct G [0,1,2] [2,3,5,6,7] (λG=>[(61,.b G)]) Ze Zf ?_ (λenv H j=>?_))))
  .refine G0 0 Z (DP 25 Z (D 4 Z ?_));obtain⟨aj,J,d⟩:=Qw d;refine DS.v (x:=(.p 2 (toNat m*1))) (Qd J Z EB EC) ?_;refine DS.v (x:=(I aj)) (Ez Z EF Z (Qh J)) ?_;obtain⟨V,Y,d⟩:=Qw d;refine DS.wo (x:=.rp [.str V.Ao,I V.AX]) ?_ ?_
   .exact Ix Y runUnderlying22 sizeOf214 Z Wp
   refine D 5 Z (DS.is 11 d Z Z Z (λ_ d=>?_) (λ_ d=>?_))
   .exact au d
   .refine D 3 Z (DS.is 14 d Z Z Z (λ_ d=>?_) (λ_ d=>?_))
    .refine D 4 Z ?_;obtain⟨ak,L,d⟩:=Qw d;refine DS.v (x:=(.p 2 (toNat (i64.wrap (m-1))*1))) (Qd L Z EB EC) ?_ (hg:=(gT Z));refine DS.v (x:=(I ak)) (Ez Z EF Z (Qh L)) ?_ (hg:=(gT Z));refine D 2 Z ?_;obtain⟨al,M,d⟩:=Qw d;refine DS.v (x:=(.p 2 (toNat m*1))) (Qd M Z EB EC) ?_ (hg:=(gT Z));refine DS.v (x:=(I al)) (Ez Z EF Z (Qh M)) ?_ (hg:=(gT Z));exact au d
    exact au d
  refine Gx 1 Z (Ee j (Cn Z g (λ_ g=>?_) (λ_ g=>?_)))
  .exact DZ E g h
  exact au g
 subst B;refine Gx 1 Z (Ee j (Gc 2 Z (Bd h λN am h=>Ct N [1,2] [3,5] (λN=>[(90,.b N)]) Ze Zf ?_ (λenv H j=>?_))))
 .exact au am
 refine Gx 1 Z (Ee j (Cn Z h (λ_ h=>?_) (λ_ h=>?_)))
 .exact au h
 refine Gc 8 Z (Bd h λan ao h=>D4 (b:=an) [] [] Ze Ze Zf ?_ (λ_ B=>?_))
 .refine G0 1 Z (Lp [0,1] [3,5] (λO=>[(9,I O)]) Ze ao Zf (Lr [0,1]) λO av f y=>?_);refine G0 6 Z (Lg 3 Z Z (Q5 Z f (λ_ f=>?_) (λ_ f=>?_)))
  .exact Je y f
  refine Gc 5 Z (DP 14 Z (D 4 Z ?_));obtain⟨q,Q,f⟩:=Qw f;refine DS.wo (x:=.rp [I q.Al,I q.B8,I q.Bt]) ?_ ?_
  .exact Ix Q GG sizeOf245 Z Wp
  refine D 2 Z ?_;obtain⟨ae,R,f⟩:=Qw f;refine DS.wo (x:=I ae) ?_ ?_
  .refine Zk (C6.fn call114 rfl rfl rfl) (Dw.cons rfl (.inr ⟨_,_,_,_,_,rfl,rfl,X0 ..,rfl⟩) (Dw.cons rfl (.inl ⟨rfl,rfl⟩) Dw.nil)) ((jv _ _ _).c _ R) (by rintro _ _ ⟨rfl,rfl⟩;rfl) ?_;rintro _ _ ⟨rfl,rfl⟩;exact FE Z Wp
  refine D 3 Z ?_;obtain⟨t,T,f⟩:=Qw f;refine DS.wo (x:=.rp [I t.Al,I t.B8,I t.Bt]) ?_ ?_
  .exact Ix T GG sizeOf245 Z Wp
  exact DZ y f h
 subst B;exact au h
def VZ(f:CA)(d:Int):AB (CF Int (CF Unit Int)):=(bif d<(AI f.AP:Int) then AH (CI f.AP d) λg=>AH (Ox n f g) λh=>(bif (!h)then AC (.d (.d 72))else AC (.k (i64.wrap (d+1))))else AC (.d (.k ())))
def HU(d:CA):AB Int:=AH (PU n d) λj=>(bif (!j)then AC 2 else AH (O2 n d) λm=>(bif (!m)then AC 70 else AH (PD n d) λq=>(bif (!q)then AC 71 else AH (OU n d.BN) λg=>(bif (g != 0)then AC g else AH (iter (VZ n d) n 0:AB (CF Unit Int)) λh=>match h with|.k f=>(AC 0)|.d f=>AC f))))
instance k_e(t:CA):Ks (HU n t) 14 [.a (CA.c t)] [] (λr=>I r):=by
 refine Kg 10 func14 Z Z Z Z λr h=>Cz [] h Kc Z λR M h=>Go 3 Z (Cn Z h (λ_ h=>?_) (λ_ h=>?_))
 .exact au h
 refine Gc 6 Z (Cz [] h Kc Z λT N h=>Go 3 Z (Cn Z h (λ_ h=>?_) (λ_ h=>?_)))
 .exact au h
 refine Gc 6 Z (Cz [] h Kc Z λV O h=>Go 3 Z (Cn Z h (λ_ h=>?_) (λ_ h=>?_)))
 .exact au h
 refine Gc 6 Z (Cz [] h Kc Z λW P h=>Go 10 Z (Cn Z h (λ_ h=>?_) (λ_ h=>?_)))
 .exact au h
 refine Gc 8 Z (Bd h λG H h=>D4 (b:=G) [] [] Ze Ze Zf ?_ (λ_ J=>?_))
 .refine G0 1 Z (Lp [0] [1] (λj=>[(4,I j)]) Ze H Zf (Lr [0]) λj Q d g=>(G0 6 Z (Lg 3 Z Z (Q5 Z d (λ_ d=>?_) (λ_ d=>?_)))))
  .exact Je g d
  refine Gc 5 Z (DP 6 Z (D 4 Z ?_));obtain⟨f,q,d⟩:=Qw d;refine DS.wo (x:=.rp [.str f.Ao,.q 3 (map CG.enc f.Ae),I f.BI,.q 3 (map CO.c f.Aq),I f.Am]) ?_ ?_
  .exact Ix q EL EW Z Wp
  exact DZ g d h
 subst J;exact au h
def T9(n:Nat)(f:AA CG)(m:Int)(rec240:(AA CG)->Int->AB Int)(d:Int×Int):AB (CF (Int×Int) Int):=AH ((bif d.2<(AI f:Int) then AC (AG (d.1<500))else AC AD):AB Bool) λg=>(bif g then AH (CI f d.2) λh=>AH (rec240 h.Ad (i64.wrap (m+1))) λj=>AC (.k (i64.wrap (d.1+j),i64.wrap (d.2+1)))else AC (.d d.1))
def P7(rec240:(AA CG)->Int->AB Int)(n:Nat)(d:AA CG)(f:Int):AB Int:=(bif 20<f then AC 500 else AH (iter (T9 n d f rec240) n ((AI d:Int),0):AB Int) λg=>AC g)
theorem Qbl(rec240:(AA CG)->Int->AB Int)(B:∀(f:AA CG) (g:Int),Ks (rec240 f g) 123 [.q 3 (map CG.enc f),I g] [] (λr=>I r))(n:Nat)(f:AA CG)(g:Int):Ks (P7 rec240 n f g) 123 [.q 3 (map CG.enc f),I g] [] (λr=>I r):=by
 refine Kg 8 func123 Z Z Z Z λr h=>Lg 10 Z Z (Cn Z h (λ_ h=>?_) (λ_ h=>?_))
 .exact au h
 refine Gc 8 Z (Bd h λj F h=>Cg j [] [] (λj=>[(5,I j)]) Ze Zf ?_ ?_)
 .refine G0 1 Z (Lp [] [0,1] (λm=>[(5,I m.1),(6,I m.2)]) Ze F Zf (Lr []) λm L d t=>?_);refine G0 2 Z (Bd d λq G d=>Cg q [] [0,1,5,6] (λq=>[(18,.b q)]) Ze Zf ?_ ?_)
  .exact au G
  refine Q5 Z d (λ_ d=>?_) (λ_ d=>?_)
  .exact Je t d
  exact Gc 8 Z (Bd d λH y d=>FU y (QM H) Z (Go 4 Z (Cz [] d Kc Z λM J d=>Go 10 Z (QZ d (Lr [])))))
 exact au h
def My:Nat->(AA CG)->Int->AB Int
  |0=>λ_ _=>AF
  |n+1=>P7 (My n) n
instance zx:∀(d:AA CG) (f:Int),Ks (My n d f) 123 [.q 3 (map CG.enc d),I f] [] (λr=>I r):=by
  induction n with
  |zero=>exact λ_ _=>⟨nofun⟩
  |succ n ih=>exact Qbl _ ih n
def U4(n:Nat)(f:AA AS)(m:Int)(rec242:(AA AS)->Int->AB Int)(d:Int×Int):AB (CF (Int×Int) Int):=AH ((bif d.2<(AI f:Int) then AC (AG (d.1<500))else AC AD):AB Bool) λg=>(bif g then AH (CI f d.2) λh=>AH (rec242 h.Ad (i64.wrap (m+1))) λj=>AC (.k (i64.wrap (d.1+j),i64.wrap (d.2+1)))else AC (.d d.1))
def P5(rec242:(AA AS)->Int->AB Int)(n:Nat)(d:AA AS)(f:Int):AB Int:=(bif 20<f then AC 500 else AH (iter (U4 n d f rec242) n ((AI d:Int),0):AB Int) λg=>AC g)
theorem Qa8(rec242:(AA AS)->Int->AB Int)(B:∀(f:AA AS) (g:Int),Ks (rec242 f g) 195 [.q 4 (map AS.enc f),I g] [] (λr=>I r))(n:Nat)(f:AA AS)(g:Int):Ks (P5 rec242 n f g) 195 [.q 4 (map AS.enc f),I g] [] (λr=>I r):=by
 refine Kg 8 func195 Z Z Z Z λr h=>Lg 10 Z Z (Cn Z h (λ_ h=>?_) (λ_ h=>?_))
 .exact au h
 refine Gc 8 Z (Bd h λj F h=>Cg j [] [] (λj=>[(5,I j)]) Ze Zf ?_ ?_)
 .refine G0 1 Z (Lp [] [0,1] (λm=>[(5,I m.1),(6,I m.2)]) Ze F Zf (Lr []) λm L d t=>?_);refine G0 2 Z (Bd d λq G d=>Cg q [] [0,1,5,6] (λq=>[(18,.b q)]) Ze Zf ?_ ?_)
  .exact au G
  refine Q5 Z d (λ_ d=>?_) (λ_ d=>?_)
  .exact Je t d
  exact Gc 8 Z (Bd d λH y d=>FU y (Ji H) Z (Go 4 Z (Cz [] d Kc Z λM J d=>Go 10 Z (QZ d (Lr [])))))
 exact au h
def Mw:Nat->(AA AS)->Int->AB Int
  |0=>λ_ _=>AF
  |n+1=>P5 (Mw n) n
instance zu:∀(d:AA AS) (f:Int),Ks (Mw n d f) 195 [.q 4 (map AS.enc d),I f] [] (λr=>I r):=by
  induction n with
  |zero=>exact λ_ _=>⟨nofun⟩
  |succ n ih=>exact Qa8 _ ih n
def Ta(f:AA AY)(g:Int)(rec241:(AA AY)->Int->AB Int)(d:Int×Int):AB (CF (Int×Int) Int):=AH ((bif d.2<(AI f:Int) then AC (AG (d.1<500))else AC AD):AB Bool) λh=>(bif h then AH (CI f d.2) λj=>AH (Mw n [j.AS] 0) λm=>AH (CI f d.2) λq=>AH (rec241 q.BY (i64.wrap (g+1))) λt=>AH (CI f d.2) λx=>AH (rec241 x.Bf (i64.wrap (g+1))) λy=>AC (.k (i64.wrap ((i64.wrap ((i64.wrap (d.1+m))+t))+y),i64.wrap (d.2+1)))else AC (.d d.1))
def P2(rec241:(AA AY)->Int->AB Int)(n:Nat)(d:AA AY)(f:Int):AB Int:=(bif 20<f then AC 500 else AH (iter (Ta n d f rec241) n ((AI d:Int),0):AB Int) λg=>AC g)
theorem Qa7(rec241:(AA AY)->Int->AB Int)(M:∀(m:AA AY) (q:Int),Ks (rec241 m q) 124 [.q 8 (map AY.enc m),I q] [] (λr=>I r))(n:Nat)(m:AA AY)(q:Int):Ks (P2 rec241 n m q) 124 [.q 8 (map AY.enc m),I q] [] (λr=>I r):=by
 refine Kg 8 func124 Z Z Z Z λr h=>Lg 10 Z Z (Cn Z h (λ_ h=>?_) (λ_ h=>?_))
 .exact au h
 refine Gc 8 Z (Bd h λt P h=>Cg t [] [] (λt=>[(5,I t)]) Ze Zf ?_ ?_)
 .refine G0 1 Z (Lp [] [0,1] (λy=>[(5,I y.1),(6,I y.2)]) Ze P Zf (Lr []) λy V d E=>?_);refine G0 2 Z (Bd d λB Q d=>Cg B [] [0,1,5,6] (λB=>[(18,.b B)]) Ze Zf ?_ ?_)
  .exact au Q
  refine Q5 Z d (λ_ d=>?_) (λ_ d=>?_)
  .exact Je E d
  refine Gc 4 Z (DP 26 Z (D 3 Z ?_));obtain⟨f,G,d⟩:=Qw d;refine DS.v (x:=(.rp [I f.AX,I f.By,I f.AS.AX,I f.AS.Bw,I f.AS.N,.q 4 (map AS.enc f.AS.Ad),.q 8 (map AY.enc f.BY),.q 8 (map AY.enc f.Bf)])) (lu (e:=AY.enc) G (Yt f) GH GZ) ?_;refine D 2 Z ?_;refine DS.wo (x:=.q 4 (map AS.enc [f.AS])) ?_ ?_
  .refine vH (QN (xs:=[.tmp 26]) (es:=[AS.c f.AS]) N? Z Z Z Z Z ⟨Z,trivial⟩ Z Z) ?_;refine Ny (x:=(.q 4 (map AS.enc [f.AS]))) (H:=[]) (by simp[Ji]) Z ?_;exact Wp
  refine Dz [] d Kc Z λW R d=>D 3 Z ?_;obtain⟨g,J,d⟩:=Qw d;refine DS.v (x:=(.rp [I g.AX,I g.By,I g.AS.AX,I g.AS.Bw,I g.AS.N,.q 4 (map AS.enc g.AS.Ad),.q 8 (map AY.enc g.BY),.q 8 (map AY.enc g.Bf)])) (lu (e:=AY.enc) J (Yt g) GH GZ) ?_;refine D 4 Z ?_;refine Dz [] d Kc Z λX T d=>D 3 Z ?_;obtain⟨j,L,d⟩:=Qw d;refine DS.v (x:=(.rp [I j.AX,I j.By,I j.AS.AX,I j.AS.Bw,I j.AS.N,.q 4 (map AS.enc j.AS.Ad),.q 8 (map AY.enc j.BY),.q 8 (map AY.enc j.Bf)])) (lu (e:=AY.enc) L (Yt j) GH GZ) ?_;exact au d
 exact au h
def Mt:Nat->(AA AY)->Int->AB Int
  |0=>λ_ _=>AF
  |n+1=>P2 (Mt n) n
instance zq:∀(d:AA AY) (f:Int),Ks (Mt n d f) 124 [.q 8 (map AY.enc d),I f] [] (λr=>I r):=by
  induction n with
  |zero=>exact λ_ _=>⟨nofun⟩
  |succ n ih=>exact Qa7 _ ih n
end Go.Sw
