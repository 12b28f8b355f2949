/- What the functions compute that OutcomeWays reaches, and that their calls refine it (part 6 of 6). -/
import Derived.Test.YtbiglpikpigidaaGreatW23Wa5
set_option linter.unusedVariables false
set_option linter.unusedSimpArgs false
set_option maxRecDepth 100000
set_option maxHeartbeats 4000000
namespace Go.Sw
open Option renaming some→AC,none→AF,bind→AH
open Bool renaming false→AD,true→AE
open Decidable renaming decide→AG
open List renaming length→AI
variable (n:Nat)
open List(map)
open Int(toNat)
open Go.IntKind(i64 u64 u8)
open Go.Proofs Tryz
def nv(n:Nat)(f:(AA AO)×Int)(g:CH)(d:Int):AB (CF Int Int):=AH ((bif d<(AI f.1:Int) then AH (CI f.1 d) λh=>AC (AG (h.BT<g.AO.BT))else AC AD):AB Bool) λj=>(bif j then AC (.k (i64.wrap (d+1)))else AC (.d d))
def TG(G:CA)(h:AA CH)(d:(AA AO)×Int):AB (CF ((AA AO)×Int) (AA AO)):=(bif d.2<(AI h:Int) then AH (AH (CI h d.2) λf=>AH (AH (CI h d.2) λj=>(bif (j.AX != 1)then AC AE else(bif (AI G.AP:Int)<=f.AO.AN then AC AE else(bif (AI G.A0:Int)<=f.AO.A2 then AC AE else AH (Ph n d.1 f.AO.BT) λm=>AC (AG (0<=m))))):AB Bool) λq=>(bif q then AC d.1 else AH (iter (nv n d f) n 0:AB Int) λg=>AH (Dm d.1 0 g) λt=>AH (app ([]:AA AO) t) λx=>AH (app x [f.AO]) λy=>AH (Dm d.1 g (AI d.1:Int)) λB=>AH (app y B) λE=>AC E):AB (AA AO)) λF=>AC (.k (F,i64.wrap (d.2+1)))else AC (.d d.1))
def Ts(n:Nat)(f:AA AO)(g:Int)(d:Int):AB (CF Int (CF Unit (CF Int (CF Unit ((AA AO)×Int))))):=(bif d<g then AH (CI f g) λh=>AH (CI f d) λj=>(bif (h.BB==j.BB)then AC (.d (.d (.d (.d ([],180)))))else AC (.k (i64.wrap (d+1))))else AC (.d (.k ())))
def TD(g:AA AO)(d:Int):AB (CF Int (CF Unit ((AA AO)×Int))):=(bif d<(AI g:Int) then AH (iter (Ts n g d) n 0:AB (CF Unit (CF Int (CF Unit ((AA AO)×Int))))) λh=>match h with|.k f=>(AC (.k (i64.wrap (d+1))))|.d f=>AC f else AC (.d (.k ())))
def MV(h:CA)(m:AA CH):AB ((AA AO)×Int):=AH (HU n h) λj=>(bif (j != 0)then AC ([],j)else AH (Kl n m) λq=>AH (iter (TG n h q) n (([]:AA AO),0):AB (AA AO)) λd=>(bif 4000<(AI d:Int) then AC ([],2)else AH (iter (TD n d) n 0:AB (CF Unit ((AA AO)×Int))) λg=>match g with|.k f=>(AC (d,0))|.d f=>AC f))
instance yu(a1:CA)(a2:AA CH):Kq (MV n a1 a2) 26 [.a (CA.c a1),.q 57 (map CH.c a2)] [] (λr=>.t [.o 0 (AI r.1) 8,I r.2]) (λr=>[.r 41 8 (map AO.c r.1)]):=by
 refine Kg 10 func26 Z Z Z Z λr h=>Cz [] h Kc Z λr1 bu h=>Go 10 Z (Cn Z h (λ_ h=>?_) (λ_ h=>?_))
 .refine Gc 9 Z ?_;obtain rfl:=Oi h;refine R2 4 5 Z Z ?_;refine En (Er (s:=4) (k:=8) (t:=41) (XQ Z) Z) ?_;exact Lr [1]
 refine Gc 5 Z (Cd [] h Kc Z λr3 bv h=>Fg 5 Z Z (vH (Ek (xs:=[]) (es:=map AO.c []) ZY Z Z Z Z Z trivial Z Z) ?_));refine Fg 9 Z Z (Bd h λL ay h=>Ct L [2] [] (λL=>[(7,.o 0 (AI L) 8)]) (λL=>[(0,.r 41 8 (map AO.c L))]) Zf ?_ (λenv H B=>?_))
 .refine G0 1 Z (Lp [1,0,2] [1,2] (λd=>[(7,.o 2 (AI d.1) 8),(8,I d.2)]) (λd=>[(2,.r 41 8 (map AO.c d.1))]) ay Zf (Lr [1,0,2]) λd bm E ah=>?_);refine G0 9 Z (Q5 Z E (λ_ E=>?_) (λ_ E=>?_))
  .exact Gc 2 Z (QF E (Gx 1 Z (DX ah E (Lr [2]))))
  refine Gc 3 Z (Bd E λM g E=>Ct M [0,1,2] [1,2,8] (λM=>[(7,.o 2 (AI M) 8)]) (λM=>[(2,.r 41 8 (map AO.c M))]) Zf ?_ (λenv H B=>?_))
  .refine G0 5 Z (Bd g λq W g=>?_);refine vX (.p 0 (toNat d.2*57)) (Qd W Z EE EH) ?_;refine Fp QoH Z ?_;refine vX (.a (AO.c q.AO)) (Qt Z GL EO Z (Qm (f:=4) W) Z Z) ?_;refine Go 6 Z (Bd g λR T g=>Ct R [0,1,2,3] [1,2,7,8,9] (λR=>[(60,.b R)]) Ze Zf ?_ (λenv H B=>?_))
   .refine G0 3 Z (Bd T λaz X T=>?_);refine vX (.p 0 (toNat d.2*57)) (Qd X Z EE EH) ?_;refine Fp S7 Z ?_;refine vX (I az.AX) (Ez Z EF Z (Qm (f:=3) X)) ?_;exact au T
   refine Gx 1 Z (Ee B (Cn Z g (λ_ g=>?_) (λ_ g=>?_)))
   .exact au g
   refine Gc 8 Z (Bd g λj ba g=>Ct j [0,1,2,3] [1,2,7,8,9] (λj=>[(10,I j)]) Ze Zf ?_ (λenv H B=>?_))
   .refine G0 1 Z (Lp [0,1,2,3] [1,2,7,8,9] (λN=>[(10,I N)]) Ze ba Zf (Lr [0,1,2,3]) λN bn F ak=>?_);refine G0 2 Z (Bd F λV G F=>Ct V [0,1,2,3] [1,2,7,8,9,10] (λV=>[(74,.b V)]) Ze Zf ?_ (λenv H B=>?_))
    .refine G0 0 Z (DP 12 Z (D 5 Z (DS.is 4 G Z Z Z (λ_ G=>?_) (λ_ G=>?_))))
     .refine D 2 Z ?_;obtain⟨bb,Y,G⟩:=Qw G;refine DS.v (x:=(.p 2 (toNat N*8))) (Qd Y Z EJ EO) ?_ (hg:=(gT Z));refine DS.wo (x:=.p 2 (toNat N*8)) ?_ ?_
      .exact HJ (gT Z) lT Z Wp
      refine DS.v (x:=(I bb.BT)) (Ez Z EF Z (Qh Y)) ?_ (hg:=(gT Z));exact au G
     exact au G
    refine Gx 1 Z (Ee B (Q5 Z F (λ_ F=>?_) (λ_ F=>?_)))
    .exact Gc 2 Z (QF F (Gx 1 Z (DX ak F (Lr [0,1,2,3]))))
    exact au F
   refine Gx 1 Z (Ee B (HY 11 [0,4,7] [(1,0,0),(0,0,1),(0,0,1),(0,0,1),(1,1,0),(0,0,2),(0,0,2),(1,2,0),(0,0,3),(0,0,3),(0,0,3)] (by kernel_rfl) ?_));refine Ex (x:=.o 4 (AI ([]:AA AO)) 8) (X1:=[.r 120 57 (map CH.c r3),.c 33 (CA.c a1),.r 41 8 (map AO.c d.1),.c 41 (AO.c q.AO),.r 41 8 (map AO.c ([]:AA AO))]) ?_ ?_
   .refine vH (Ek (xs:=[]) (es:=map AO.c []) ZY Z Z Z Z Z trivial Z Z) ?_;exact FE Z Wp
   refine Dk 2 Z ?_;obtain⟨bo,O,g⟩:=Qw g;refine KS (lo:=0) (hi:=1) (x:=.s 2 (0+toNat 0) (toNat j-toNat 0) 8) ⟨?_,?_,trivial⟩ ?_
   iterate 2 refine vX (.s 2 (0+toNat 0) (toNat j-toNat 0) 8) (QP (l:=d.1) O EJ EO (.inl ⟨Z,Z⟩) (.inr ⟨_,Z,Z⟩)) ?_;exact Wp
   obtain⟨ae,an,g⟩:=Qw g;refine Ex (x:=.o 5 (AI ae) 8) (X1:=[.r 120 57 (map CH.c r3),.c 33 (CA.c a1),.r 41 8 (map AO.c d.1),.c 41 (AO.c q.AO),.dead,.r 41 8 (map AO.c ae)]) ?_ ?_
   .refine vH (Qj (e:=AO.c) an ZY EJ (LV (b:=2) O)) ?_;exact FE Z Wp
   refine W7 (lo:=0) (hi:=2) (x:=.a (AO.c q.AO)) ⟨Z,Z,Z,trivial⟩ ?_;refine KS (lo:=0) (hi:=2) (x:=.q 8 (map AO.c [q.AO])) ⟨?_,?_,?_,trivial⟩ ?_
   iterate 3 refine vH (QN (xs:=[.tmp 82]) (es:=map AO.c [q.AO]) ZY Z Z Z Z Z ⟨Z,trivial⟩ Z Z) ?_;exact FE Z Wp
   obtain⟨af,ao,g⟩:=Qw g;refine Ex (x:=.o 6 (AI af) 8) (X1:=[.r 120 57 (map CH.c r3),.c 33 (CA.c a1),.r 41 8 (map AO.c d.1),.c 41 (AO.c q.AO),.dead,.dead,.r 41 8 (map AO.c af)]) ?_ ?_
   .refine vH (Qj (e:=AO.c) ao ZY EJ L9) ?_;exact FE Z Wp
   refine Dk 2 Z ?_;obtain⟨bp,J,g⟩:=Qw g;refine KS (lo:=0) (hi:=3) (x:=.s 2 (0+toNat j) (toNat (AI d.1:Int)-toNat j) 8) ⟨?_,?_,?_,?_,trivial⟩ ?_
   iterate 4 refine vX (.s 2 (0+toNat j) (toNat (AI d.1:Int)-toNat j) 8) (QP (l:=d.1) J EJ EO (.inr ⟨_,Z,Z⟩) (.inl ⟨Z,Z⟩)) ?_;exact Wp
   refine DK.done Z Z (Bd g λbq aq g=>?_);refine vH (Qj (e:=AO.c) aq ZY EJ (LV (b:=2) J)) ?_;exact au g
  exact Gx 1 Z (Ee B (Gc 5 Z (QZ E (Lr [0,1,2]))))
 refine Gx 1 Z (Ee B (Gc 8 Z (Cn Z h (λ_ h=>?_) (λ_ h=>?_))))
 .refine Gc 8 Z ?_;obtain rfl:=Oi h;refine R2 4 5 Z Z ?_;refine En (Er (s:=4) (k:=8) (t:=41) (XQ Z) Z) ?_;exact Lr [1]
 refine Gc 8 Z (Bd h λbc bd h=>D4 (b:=bc) [0] [7] Ze Ze Zf ?_ (λ_ ag=>?_))
 .refine G0 1 Z (Lp [0] [7] (λP=>[(11,I P)]) Ze bd Zf (Lr [0]) λP br y aa=>?_);refine G0 9 Z (Q5 Z y (λ_ y=>?_) (λ_ y=>?_))
  .exact Je aa y
  refine Gc 9 Z (Bd y λbe bg y=>FX (b:=be) [0] [7,11] Ze Ze Zf ?_ (λbl env H ag B=>?_))
  .refine G0 1 Z (Lp [0] [7,11] (λQ=>[(12,I Q)]) Ze bg Zf (Lr [0]) λQ bs m ab=>?_);refine G0 8 Z (Q5 Z m (λ_ m=>?_) (λ_ m=>?_))
   .exact Je ab m
   refine Gc 5 Z (DP 10 Z (D 2 Z ?_));obtain⟨bh,ac,m⟩:=Qw m;refine DS.v (x:=(.p 0 (toNat P*8))) (Qd ac Z EJ EO) ?_;refine DS.wo (x:=.p 0 (toNat P*8+5)) ?_ ?_
   .exact Fp mV Z Wp
   refine DS.v (x:=(I bh.BB)) (Ez Z EF Z (Qm (f:=5) ac)) ?_;refine D 2 Z ?_;obtain⟨bi,ad,m⟩:=Qw m;refine DS.v (x:=(.p 0 (toNat Q*8))) (Qd ad Z EJ EO) ?_;refine DS.wo (x:=.p 0 (toNat Q*8+5)) ?_ ?_
   .exact Fp mV Z Wp
   refine DS.v (x:=(I bi.BB)) (Ez Z EF Z (Qm (f:=5) ad)) ?_;refine Eg Z (Go 3 Z (Cn Z m (λ_ m=>?_) (λ_ m=>?_)))
   .refine Gc 9 Z (IN m ?_);obtain rfl:=Oj ab m;refine Gx 1 Z (LT (Gx 2 Z (IN y ?_)));obtain rfl:=Oj aa y;refine Gx 1 Z (LT (Gx 1 Z ?_));obtain rfl:=Oi h;refine R2 4 5 Z Z ?_;refine En (Er (s:=4) (k:=8) (t:=41) (XQ Z) Z) ?_;exact Lr [1]
   exact au m
  subst ag;exact Gx 2 Z (Ee B (Gc 5 Z (QZ y (Lr [0]))))
 subst ag;exact au h
def U9(n:Nat)(h:AA CH)(g:A4)(d:Int):AB (CF Int (CF Unit Bool)):=(bif d<(AI h:Int) then AH (CI h d) λf=>AH (AH (CI h d) λj=>(bif (j.AX==6)then(bif (f.Ap.Al==g.Al)then(bif (f.Ap.Ag==g.Ag)then(bif f.Ap.Lo<=g.BD then AC (AG (g.BD<=f.Ap.Hi))else AC AD)else AC AD)else AC AD)else AC AD):AB Bool) λm=>(bif m then AC (.d (.d AE))else AC (.k (i64.wrap (d+1))))else AC (.d (.k ())))
def OZ(g:AA CH)(h:A4):AB Bool:=AH (iter (U9 n g h) n 0:AB (CF Unit Bool)) λf=>match f with|.k d=>(AC AD)|.d d=>AC d
instance xa(d:AA CH)(f:A4):Ks (OZ n d f) 199 [.q 57 (map CH.c d),.a (A4.c f)] [] (λr=>.b r):=KA func199
def Ou(n:Nat)(d:A4)(f:A4):AB Bool:=(bif (d.BB != f.BB)then AC (AG (d.BB<f.BB))else(bif (d.Al != f.Al)then AC (AG (d.Al<f.Al))else(bif (d.Ag != f.Ag)then AC (AG (d.Ag<f.Ag))else AC (AG (d.BD<f.BD)))))
instance xn(d:A4)(f:A4):Ks (Ou n d f) 200 [.a (A4.c d),.a (A4.c f)] [] (λr=>.b r):=KA func200
def n_(f:(AA A4)×Int)(g:CH)(d:Int):AB (CF Int Int):=AH ((bif d<(AI f.1:Int) then AH (CI f.1 d) λh=>AH (Ou n h g.A4) λj=>AC j else AC AD):AB Bool) λm=>(bif m then AC (.k (i64.wrap (d+1)))else AC (.d d))
def US(F:CA)(h:AA CH)(d:(AA A4)×Int):AB (CF ((AA A4)×Int) (AA A4)):=(bif d.2<(AI h:Int) then AH (AH (CI h d.2) λf=>AH (AH (CI h d.2) λj=>(bif (j.AX != 2)then AC AE else(bif (AI F.Ar:Int)<=f.A4.Al then AC AE else AH (OZ n h f.A4) λm=>AC m)):AB Bool) λq=>(bif q then AC d.1 else AH (iter (n_ n d f) n 0:AB Int) λg=>AH (Dm d.1 g (AI d.1:Int)) λt=>AH (app [f.A4] t) λx=>AH (Dm d.1 0 g) λy=>AH (app y x) λB=>AC B):AB (AA A4)) λE=>AC (.k (E,i64.wrap (d.2+1)))else AC (.d d.1))
def Pa(f:CA)(g:AA CH):AB (AA A4):=AH (Kl n g) λh=>AH (iter (US n f h) n (([]:AA A4),0):AB (AA A4)) λd=>AC d
instance yf(a1:CA)(a2:AA CH):Kq (Pa n a1 a2) 132 [.a (CA.c a1),.q 57 (map CH.c a2)] [] (λr=>.o 0 (AI r) 4) (λr=>[.r 98 4 (map A4.c r)]):=by
 refine Kg 9 func132 Z Z Z Z λr h=>Cd [] h Kc Z λr1 an h=>Fg 5 Z Z (vH (Ek (xs:=[]) (es:=map A4.c []) gm Z Z Z Z Z trivial Z Z) ?_);refine Fg 9 Z Z (Bd h λy ac h=>Cg y [2] [] (λy=>[(6,.o 0 (AI y) 4)]) (λy=>[(0,.r 98 4 (map A4.c y))]) Zf ?_ ?_)
 .refine G0 1 Z (Lp [0,1,2] [2,5] (λg=>[(6,.o 2 (AI g.1) 4),(7,I g.2)]) (λg=>[(2,.r 98 4 (map A4.c g.1))]) ac Zf (Lr [0,1,2]) λg ah m R=>?_);refine G0 9 Z (Q5 Z m (λ_ m=>?_) (λ_ m=>?_))
  .exact Gc 2 Z (QF m (Gx 1 Z (DX R m (Lr [2]))))
  refine Gc 3 Z (Bd m λB d m=>Cg B [0,1,2] [2,5,7] (λB=>[(6,.o 2 (AI B) 4)]) (λB=>[(2,.r 98 4 (map A4.c B))]) Zf ?_ ?_)
  .refine G0 5 Z (Bd d λQ M d=>?_);refine vX (.p 1 (toNat g.2*57)) (Qd M Z EE EH) ?_;refine Fp mN Z ?_;refine vX (.a (A4.c Q.A4)) (Qt Z isAgg98 EY Z (Qm (f:=12) M) Z Z) ?_;refine Go 6 Z (Bd d λF G d=>Ct F [0,1,2,3] [2,5,6,7,8] (λF=>[(43,.b F)]) Ze Zf ?_ (λenv H ag=>?_))
   .refine G0 3 Z (Bd G λad N G=>?_);refine vX (.p 1 (toNat g.2*57)) (Qd N Z EE EH) ?_;refine Fp S7 Z ?_;refine vX (I ad.AX) (Ez Z EF Z (Qm (f:=3) N)) ?_;exact au G
   refine Gx 1 Z (Ee ag (Cn Z d (λ_ d=>?_) (λ_ d=>?_)))
   .exact au d
   refine Gc 8 Z (Bd d λj ae d=>Cg j [0,1,2,3] [2,5,6,7,8] (λj=>[(9,I j)]) Ze Zf ?_ ?_)
   .refine G0 1 Z (Lp [0,1,2,3] [2,5,6,7,8] (λJ=>[(9,I J)]) Ze ae Zf (Lr [0,1,2,3]) λJ ai q W=>?_);refine G0 2 Z (Bd q λL t q=>Cg L [0,1,2,3] [2,5,6,7,8,9] (λL=>[(55,.b L)]) Ze Zf ?_ ?_)
    .refine G0 0 Z (DP 10 Z (D 5 Z (DS.is 4 t Z Z Z (λ_ t=>?_) (λ_ t=>?_))))
     .refine D 2 Z ?_;obtain⟨af,O,t⟩:=Qw t;refine DS.v (x:=(.p 2 (toNat J*4))) (Qd O Z EN EY) ?_ (hg:=(gT Z));refine DS.v (x:=(.a (A4.c af))) (Qt Z isAgg98 EY Z (Qh O) Z Z) ?_ (hg:=(gT Z));exact au t
     exact au t
    refine Q5 Z q (λ_ q=>?_) (λ_ q=>?_)
    .exact Gc 2 Z (QF q (Gx 1 Z (DX W q (Lr [0,1,2,3]))))
    exact au q
   refine Gc 1 Z (NI 5 1 [0,1,3,3,3] (by kernel_rfl) (Da 1 Z ?_));refine kv (Ek (xs:=[.tmp 58]) (es:=map A4.c [Q.A4]) gm Z Z Z Z Z ⟨Z,trivial⟩ Z Z) Z Z (Db 2 Z ?_);obtain⟨aj,E,d⟩:=Qw d;refine DB.wo2 (x:=.s 2 (0+toNat j) (toNat (AI g.1:Int)-toNat j) 4) ?_ ?_ ?_
   iterate 2 refine vX (.s 2 (0+toNat j) (toNat (AI g.1:Int)-toNat j) 4) (QP (l:=g.1) E EN EY (.inr ⟨_,Z,Z⟩) (.inl ⟨Z,Z⟩)) ?_;exact Wp
   refine DB.done Z (Bd d λak aa d=>vH (Qj (e:=A4.c) aa gm EN (LV (b:=2) E)) ?_);refine Fg 7 Z Z (Bd d λal P d=>?_);refine vX (.s 2 (0+toNat 0) (toNat j-toNat 0) 4) (dx (l:=g.1) P EN EY) ?_;refine Go 1 Z (Bd d λam ab d=>vH (dw (e:=A4.c) P ab gm EN (QE (i:=5))) ?_);exact au d
  exact au m
 exact au h
def TM(n:Nat)(Q:CA)(f:AA A4)(d:(AA CL)×Int):AB (CF ((AA CL)×Int) (AA CL)):=(bif d.2<(AI f:Int) then AH ((bif 0<=(i64.wrap ((AI d.1:Int)-1)) then AH (CI d.1 (i64.wrap ((AI d.1:Int)-1))) λg=>AH (CI f d.2) λh=>(bif (g.BB==h.BB)then AH (CI d.1 (i64.wrap ((AI d.1:Int)-1))) λj=>AH (CI f d.2) λm=>(bif (j.Al==m.Al)then AH (CI d.1 (i64.wrap ((AI d.1:Int)-1))) λq=>AH (CI f d.2) λt=>(bif (q.Ag==t.Ag)then AH (CI f d.2) λx=>AH (CI d.1 (i64.wrap ((AI d.1:Int)-1))) λy=>AC (AG ((i64.wrap (x.BD-y.A7))<=Q.AQ.A5))else AC AD)else AC AD)else AC AD)else AC AD):AB Bool) λB=>AH ((bif B then AH (CI f d.2) λE=>AH (CI d.1 (i64.wrap ((AI d.1:Int)-1))) λF=>AH (JN d.1 (i64.wrap ((AI d.1:Int)-1)) ({F with A7:=E.BD:CL})) λG=>AC G else AH (CI f d.2) λH=>AH (CI f d.2) λJ=>AH (CI f d.2) λL=>AH (CI f d.2) λM=>AH (CI f d.2) λN=>AH (app d.1 [{Al:=H.Al,Ag:=J.Ag,BB:=L.BB,BQ:=M.BD,A7:=N.BD:CL}]) λO=>AC O):AB (AA CL)) λP=>AC (.k (P,i64.wrap (d.2+1)))else AC (.d d.1))
def PG(d:CA)(g:AA CH):AB (AA CL):=AH (HU n d) λh=>(bif (h != 0)then AC ([]:AA CL)else AH (Pa n d g) λj=>AH (iter (TM n d j) n (([]:AA CL),0):AB (AA CL)) λf=>AC f)
instance yL(a1:CA)(a2:AA CH):Kq (PG n a1 a2) 75 [.a (CA.c a1),.q 57 (map CH.c a2)] [] (λr=>.o 0 (AI r) 5) (λr=>[.r 139 5 (map CL.c r)]):=by
 refine Kg 8 func75 Z Z Z Z λr h=>vH (Ek (xs:=[]) (es:=map CL.c []) ZW Z Z Z Z Z trivial Z Z) ?_;refine Fg 7 Z Z (Cz [] h Kc Z λr1 bh h=>Go 3 Z (Cn Z h (λ_ h=>?_) (λ_ h=>?_)))
 .exact au h
 refine Gc 6 Z (Cd [] h Kc Z λr3 bi h=>Fg 9 Z Z (Bd h λq an h=>Cg q [1] [] (λq=>[(5,.o 0 (AI q) 5)]) (λq=>[(0,.r 139 5 (map CL.c q))]) Zf ?_ ?_))
 .refine G0 1 Z (Lp [0,1,2] [2,6] (λd=>[(5,.o 1 (AI d.1) 5),(7,I d.2)]) (λd=>[(1,.r 139 5 (map CL.c d.1))]) an Zf (Lr [0,1,2]) λd bc m af=>?_);refine G0 9 Z (Q5 Z m (λ_ m=>?_) (λ_ m=>?_))
  .exact Gc 2 Z (QF m (Gx 1 Z (DX af m (Lr [1]))))
  refine Gc 13 Z (Bd m λy g m=>Ct y [0,1,2] [2,5,6,7,8] (λy=>[(83,.b y)]) Ze Zf ?_ (λenv H ae=>?_))
  .refine G0 0 Z (DP 56 Z (D 3 Z (DS.is 2 g Z Z Z (λ_ g=>?_) (λ_ g=>?_))))
   .refine D 2 Z ?_;obtain⟨ao,L,g⟩:=Qw g;refine DS.v (x:=(.p 1 (toNat (i64.wrap ((AI d.1:Int)-1))*5))) (Qd L Z ET Gd) ?_ (hg:=(gT Z));refine DS.wo (x:=.p 1 (toNat (i64.wrap ((AI d.1:Int)-1))*5+2)) ?_ ?_
    .exact HJ (gT Z) sd Z Wp
    refine DS.v (x:=(I ao.BB)) (Ez Z EF Z (Qm (f:=2) L)) ?_ (hg:=(gT Z));refine D 2 Z ?_;obtain⟨aq,M,g⟩:=Qw g;refine DS.v (x:=(.p 2 (toNat d.2*4))) (Qd M Z EN EY) ?_ (hg:=(gT Z));refine DS.wo (x:=.p 2 (toNat d.2*4+2)) ?_ ?_
    .exact HJ (gT Z) qN Z Wp
    refine DS.v (x:=(I aq.BB)) (Ez Z EF Z (Qm (f:=2) M)) ?_ (hg:=(gT Z));refine D 3 Z (DS.is 15 g Z Z Z (λ_ g=>?_) (λ_ g=>?_))
    .refine D 2 Z ?_;obtain⟨ar,N,g⟩:=Qw g;refine DS.v (x:=(.p 1 (toNat (i64.wrap ((AI d.1:Int)-1))*5))) (Qd N Z ET Gd) ?_ (hg:=(gT Z));refine DS.wo (x:=.p 1 (toNat (i64.wrap ((AI d.1:Int)-1))*5)) ?_ ?_
     .exact HJ (gT Z) QoG Z Wp
     refine DS.v (x:=(I ar.Al)) (Ez Z EF Z (Qh N)) ?_ (hg:=(gT Z));refine D 2 Z ?_;obtain⟨av,O,g⟩:=Qw g;refine DS.v (x:=(.p 2 (toNat d.2*4))) (Qd O Z EN EY) ?_ (hg:=(gT Z));refine DS.wo (x:=.p 2 (toNat d.2*4)) ?_ ?_
     .exact HJ (gT Z) lV Z Wp
     refine DS.v (x:=(I av.Al)) (Ez Z EF Z (Qh O)) ?_ (hg:=(gT Z));refine D 3 Z (DS.is 28 g Z Z Z (λ_ g=>?_) (λ_ g=>?_))
     .refine D 2 Z ?_;obtain⟨aw,P,g⟩:=Qw g;refine DS.v (x:=(.p 1 (toNat (i64.wrap ((AI d.1:Int)-1))*5))) (Qd P Z ET Gd) ?_ (hg:=(gT Z));refine DS.wo (x:=.p 1 (toNat (i64.wrap ((AI d.1:Int)-1))*5+1)) ?_ ?_
      .exact HJ (gT Z) QoF Z Wp
      refine DS.v (x:=(I aw.Ag)) (Ez Z EF Z (Qm (f:=1) P)) ?_ (hg:=(gT Z));refine D 2 Z ?_;obtain⟨ax,Q,g⟩:=Qw g;refine DS.v (x:=(.p 2 (toNat d.2*4))) (Qd Q Z EN EY) ?_ (hg:=(gT Z));refine DS.wo (x:=.p 2 (toNat d.2*4+1)) ?_ ?_
      .exact HJ (gT Z) lW Z Wp
      refine DS.v (x:=(I ax.Ag)) (Ez Z EF Z (Qm (f:=1) Q)) ?_ (hg:=(gT Z));refine D 3 Z (DS.is 41 g Z Z Z (λ_ g=>?_) (λ_ g=>?_))
      .refine D 2 Z ?_;obtain⟨ay,R,g⟩:=Qw g;refine DS.v (x:=(.p 2 (toNat d.2*4))) (Qd R Z EN EY) ?_ (hg:=(gT Z));refine DS.wo (x:=.p 2 (toNat d.2*4+3)) ?_ ?_
       .exact HJ (gT Z) h_ Z Wp
       refine DS.v (x:=(I ay.BD)) (Ez Z EF Z (Qm (f:=3) R)) ?_ (hg:=(gT Z));refine D 2 Z ?_;obtain⟨az,T,g⟩:=Qw g;refine DS.v (x:=(.p 1 (toNat (i64.wrap ((AI d.1:Int)-1))*5))) (Qd T Z ET Gd) ?_ (hg:=(gT Z));refine DS.wo (x:=.p 1 (toNat (i64.wrap ((AI d.1:Int)-1))*5+4)) ?_ ?_
       .exact HJ (gT Z) sf Z Wp
       refine DS.v (x:=(I az.A7)) (Ez Z EF Z (Qm (f:=4) T)) ?_ (hg:=(gT Z));exact au g
      exact au g
     exact au g
    exact au g
   exact au g
  refine Gx 1 Z (Ee ae (Bd m λt j m=>Ct t [0,1,2] [2,6,7] (λt=>[(5,.o 1 (AI t) 5)]) (λt=>[(1,.r 139 5 (map CL.c t))]) Zf ?_ (λenv H ae=>?_)))
  .refine G0 0 Z (Cn Z j (λ_ j=>?_) (λ_ j=>?_))
   .refine Gc 5 Z (Bd j λba V j=>?_);refine vX (.p 2 (toNat d.2*4)) (Qd V Z EN EY) ?_;refine Fp h_ Z ?_;refine vX (I ba.BD) (Ez Z EF Z (Qm (f:=3) V)) ?_;refine Bd j λbd W j=>?_;refine vV (x:=(.p 1 (toNat (i64.wrap ((AI d.1:Int)-1))*5))) (Qd W Z ET Gd) ?_;refine Fp sf Z (Bd j λbe X j=>?_);refine vU (Yy (e:=CL.c) (k:=5) (f:=4) W X EC Z Z) ?_;refine FE Z ?_;refine Et (Q8 (s:=5) Z (congrArg (λn=>A.s 1 0 n 5) (Yp X))) ?_;exact au j
   refine DP 28 Z (D 3 Z ?_);obtain⟨B,Y,j⟩:=Qw j;refine DS.v (x:=(.p 2 (toNat d.2*4))) (Qd Y Z EN EY) ?_;refine DS.wo (x:=.p 2 (toNat d.2*4)) ?_ ?_
   .exact Fp lV Z Wp
   refine DS.v (x:=(I B.Al)) (Ez Z EF Z (Qh Y)) ?_;refine D 2 Z ?_;obtain⟨E,aa,j⟩:=Qw j;refine DS.v (x:=(.p 2 (toNat d.2*4))) (Qd aa Z EN EY) ?_;refine DS.wo (x:=.p 2 (toNat d.2*4+1)) ?_ ?_
   .exact Fp lW Z Wp
   refine DS.v (x:=(I E.Ag)) (Ez Z EF Z (Qm (f:=1) aa)) ?_;refine D 2 Z ?_;obtain⟨F,ab,j⟩:=Qw j;refine DS.v (x:=(.p 2 (toNat d.2*4))) (Qd ab Z EN EY) ?_;refine DS.wo (x:=.p 2 (toNat d.2*4+2)) ?_ ?_
   .exact Fp qN Z Wp
   refine DS.v (x:=(I F.BB)) (Ez Z EF Z (Qm (f:=2) ab)) ?_;refine D 2 Z ?_;obtain⟨G,ac,j⟩:=Qw j;refine DS.v (x:=(.p 2 (toNat d.2*4))) (Qd ac Z EN EY) ?_;refine DS.wo (x:=.p 2 (toNat d.2*4+3)) ?_ ?_
   .exact Fp h_ Z Wp
   refine DS.v (x:=(I G.BD)) (Ez Z EF Z (Qm (f:=3) ac)) ?_;refine D 2 Z ?_;obtain⟨J,ad,j⟩:=Qw j;refine DS.v (x:=(.p 2 (toNat d.2*4))) (Qd ad Z EN EY) ?_;refine DS.wo (x:=.p 2 (toNat d.2*4+3)) ?_ ?_
   .exact Fp h_ Z Wp
   refine DS.v (x:=(I J.BD)) (Ez Z EF Z (Qm (f:=3) ad)) ?_;refine D 1 Z ?_;refine DS.wo (x:=.q 5 (map CL.c [{Al:=B.Al,Ag:=E.Ag,BB:=F.BB,BQ:=G.BD,A7:=J.BD:CL}])) ?_ ?_
   .refine vH (QN (xs:=[.tmp 119]) (es:=map CL.c [{Al:=B.Al,Ag:=E.Ag,BB:=F.BB,BQ:=G.BD,A7:=J.BD:CL}]) ZW Z Z Z Z Z ⟨Z,trivial⟩ Z Z) ?_;exact FE Z Wp
   refine Eg Z (Bd j λbg am j=>vH (Qj (e:=CL.c) am ZW ET L9) ?_);exact au j
  exact Gx 2 Z (Ee ae (Gc 5 Z (QZ m (Lr [0,1,2]))))
 exact au h
def Th(n:Nat)(q:Int)(f:AA CL)(d:(AA CL)×Int):AB (CF ((AA CL)×Int) (AA CL)):=(bif d.2<(AI f:Int) then AH (CI f d.2) λg=>AH ((bif (g.BB==q)then AH (CI f d.2) λh=>AH (app d.1 [h]) λj=>AC j else AC d.1):AB (AA CL)) λm=>AC (.k (m,i64.wrap (d.2+1)))else AC (.d d.1))
def Pw(f:CA)(g:AA CH)(h:Int):AB (AA CL):=AH (PG n f g) λj=>AH (iter (Th n h j) n (([]:AA CL),0):AB (AA CL)) λd=>AC d
instance jq(F:CA)(G:AA CH)(J:Int):Kq (Pw n F G J) 27 [.a (CA.c F),.q 57 (map CH.c G),I J] [] (λr=>.o 0 (AI r) 5) (λr=>[.r 139 5 (map CL.c r)]):=by
 refine Kg 10 func27 Z Z Z Z λr h=>Cd [] h Kc Z λT N h=>Fg 5 Z Z (vH (Ek (xs:=[]) ZW Z Z Z Z Z trivial Z Z) (Fg 9 Z Z (Bd h λg L h=>Cg g [1] [] (λg=>[(8,.o 0 (AI g) 5)]) (λg=>[(0,.r 139 5 (map CL.c g))]) Zf ?_ ?_)))
 .refine G0 1 Z (Lp [1,2] [2,7] (λj=>[(8,.o 1 (AI j.1) 5),(9,I j.2)]) (λj=>[(1,.r 139 5 (map CL.c j.1))]) L Zf (Lr [1,2]) λj O d x=>?_);refine G0 9 Z (Q5 Z d (λ_ d=>?_) (λ_ d=>?_))
  .exact Gc 2 Z (QF d (Gx 1 Z (DX x d (Lr [1]))))
  refine Gc 8 Z (Bd d λP q d=>(vV (Qd q Z ET Gd) ?_));refine Fp sd Z ?_;refine vV (Ez Z EF Z (Qm q)) (Go 4 Z (Bd d λm f d=>Ct m [0,0] [2,7,9] (λm=>[(8,.o 1 (AI m) 5)]) (λm=>[(1,.r 139 5 (map CL.c m))]) Zf ?_ (λenv H M=>?_)))
  .refine G0 0 Z (Cn Z f (λ_ f=>?_) (λ_ f=>?_))
   .refine Gc 4 Z (Bd f λQ t f=>(vV (Qd t Z ET Gd) ?_));refine vV (Qt Z isAgg139 Gd Z (Qh t) Z Z) (vH (Ek (xs:=[.tmp 31]) ZW Z Z Z Z Z ⟨Z,trivial⟩ Z Z) ?_);refine FE Z (Bd f λR E f=>vH (Qj (e:=CL.c) E ZW ET (QE (i:=2))) ?_);exact au f
   exact au f
  exact Gx 2 Z (Ee M (Gc 5 Z (QZ d (Lr [0,1]))))
 exact au h
def nr(n:Nat)(f:(AA Int)×Int)(g:CH)(h:CH)(d:Int):AB (CF Int Int):=AH ((bif d<(AI f.1:Int) then AH (CI f.1 d) λj=>AC (AG (j<(i64.wrap (g.Af.BK+h.Aj.BK))))else AC AD):AB Bool) λm=>(bif m then AC (.k (i64.wrap (d+1)))else AC (.d d))
def Tq(j:AA CH)(G:Int)(d:(AA Int)×Int):AB (CF ((AA Int)×Int) (AA Int)):=(bif d.2<(AI j:Int) then AH (AH (CI j d.2) λm=>(bif (m.AX != G)then AC d.1 else AH (CI j d.2) λg=>AH (CI j d.2) λh=>AH (iter (nr n d g h) n 0:AB Int) λf=>AH ((bif f<(AI d.1:Int) then AH (CI d.1 f) λq=>AC (q==(i64.wrap (g.Af.BK+h.Aj.BK)))else AC AD):AB Bool) λt=>(bif t then AC d.1 else AH (Dm d.1 f (AI d.1:Int)) λx=>AH (app [i64.wrap (g.Af.BK+h.Aj.BK)] x) λy=>AH (Dm d.1 0 f) λB=>AH (app B y) λE=>AC E)):AB (AA Int)) λF=>AC (.k (F,i64.wrap (d.2+1)))else AC (.d d.1))
def MQ(f:AA CH)(g:Int):AB (AA Int):=AH (iter (Tq n f g) n (([]:AA Int),0):AB (AA Int)) λd=>AC d
instance yn(a1:AA CH)(a2:Int):Kq (MQ n a1 a2) 201 [.q 57 (map CH.c a1),I a2] [] (λr=>.o 0 (AI r) 1) (λr=>[.r 3 1 (map eI r)]):=by
 refine Kg 7 func201 Z Z Z Z λr h=>vH (Ek (xs:=[]) (es:=map eI []) QG Z Z Z Z Z trivial Z Z) ?_;refine Fg 9 Z Z (Bd h λF ai h=>Cg F [0] [] (λF=>[(5,.o 0 (AI F) 1)]) (λF=>[(0,.r 3 1 (map eI F))]) Zf ?_ ?_)
 .refine G0 1 Z (Lp [0] [0,1] (λj=>[(5,.o 0 (AI j.1) 1),(6,I j.2)]) (λj=>[(0,.r 3 1 (map eI j.1))]) ai Zf (Lr [0]) λj am m T=>?_);refine G0 5 Z (Lg 3 Z Z (Q5 Z m (λ_ m=>?_) (λ_ m=>?_)))
  .exact Gc 2 Z (QF m (Gx 1 Z (DX T m (Lr [0]))))
  refine Gc 3 Z (Bd m λG g m=>Cg G [0] [0,1,6] (λG=>[(5,.o 0 (AI G) 1)]) (λG=>[(0,.r 3 1 (map eI G))]) Zf ?_ ?_)
  .refine G0 6 Z (Bd g λan W g=>Iz W Z (Go 6 Z (Cn Z g (λ_ g=>?_) (λ_ g=>?_))))
   .exact au g
   refine Gc 3 Z (DP 12 Z (D 2 Z ?_));obtain⟨d,Y,g⟩:=Qw g;refine DS.wo (x:=.rp [I d.BF,I d.No,I d.At,I d.AX,I d.AO.BT,I d.AO.AN,I d.AO.A2,I d.AO.BM,I d.AO.B5,I d.AO.BB,I d.AO.Bk,I d.AO.B4,I d.A4.Al,I d.A4.Ag,I d.A4.BB,I d.A4.BD,I d.Aa.Al,I d.Aa.Ag,I d.Aa.BD,I d.Aa.True,I d.Aa.B6,I d.An.Bs,I d.An.Be,I d.An.Ba,I d.An.Br,I d.An.Bc,I d.An.BZ,I d.An.Bl,I d.An.Bq,I d.Ac.BT,I d.Ac.AT,I d.Ac.Lo,I d.Ac.Hi,I d.Ap.Al,I d.Ap.Ag,I d.Ap.Lo,I d.Ap.Hi,I d.Bb.A,I d.Bb.B,I d.Aj.BK,I d.Aj.BT,I d.Aj.AZ,I d.Aj.AT,I d.Au.BK,I d.Au.By,I d.Au.Bj,I d.Au.B2,I d.Af.BK,I d.Af.BU,I d.Af.AX,I d.Af.BT,I d.Af.AT,I d.Af.BO,I d.BE.BK,.b d.BE.Bg,I d.Bo.BF,I d.Bo.No]) ?_ ?_
   .exact Ix Y EE EH Z Wp
   refine D 5 Z ?_;obtain⟨f,aa,g⟩:=Qw g;refine DS.wo (x:=.rp [I f.BF,I f.No,I f.At,I f.AX,I f.AO.BT,I f.AO.AN,I f.AO.A2,I f.AO.BM,I f.AO.B5,I f.AO.BB,I f.AO.Bk,I f.AO.B4,I f.A4.Al,I f.A4.Ag,I f.A4.BB,I f.A4.BD,I f.Aa.Al,I f.Aa.Ag,I f.Aa.BD,I f.Aa.True,I f.Aa.B6,I f.An.Bs,I f.An.Be,I f.An.Ba,I f.An.Br,I f.An.Bc,I f.An.BZ,I f.An.Bl,I f.An.Bq,I f.Ac.BT,I f.Ac.AT,I f.Ac.Lo,I f.Ac.Hi,I f.Ap.Al,I f.Ap.Ag,I f.Ap.Lo,I f.Ap.Hi,I f.Bb.A,I f.Bb.B,I f.Aj.BK,I f.Aj.BT,I f.Aj.AZ,I f.Aj.AT,I f.Au.BK,I f.Au.By,I f.Au.Bj,I f.Au.B2,I f.Af.BK,I f.Af.BU,I f.Af.AX,I f.Af.BT,I f.Af.AT,I f.Af.BO,I f.BE.BK,.b f.BE.Bg,I f.Bo.BF,I f.Bo.No]) ?_ ?_
   .exact Ix aa EE EH Z Wp
   refine D 3 Z (Eg Z (Go 10 Z (Bd g λt aj g=>?_)));refine Ct t [0] [0,1,5,6,7] (λt=>[(8,I t)]) Ze Zf ?_ (λenv H R=>?_)
   .refine G0 1 Z (Lp [0] [0,1,5,6,7] (λJ=>[(8,I J)]) Ze aj Zf (Lr [0]) λJ ao q ab=>?_);refine G0 2 Z (Bd q λL y q=>Ct L [0] [0,1,5,6,7,8] (λL=>[(48,.b L)]) Ze Zf ?_ (λenv H R=>?_))
    .refine G0 6 Z (Is 41 y Z (λ_ y=>?_) (λ_ y=>?_))
     .refine Go 2 Z (Bd y λak N y=>?_);refine vX (.p 0 (toNat J*1)) (Qd N Z EB EC) ?_ (gT Z);refine vX (I ak) (Ez Z EF Z (Qh N)) ?_ (gT Z);exact au y
     exact au y
    refine Gx 1 Z (Ee R (Q5 Z q (λ_ q=>?_) (λ_ q=>?_)))
    .exact Gc 2 Z (QF q (Gx 1 Z (DX ab q (Lr [0]))))
    exact au q
   refine Gx 1 Z (Ee R (Gc 2 Z (Bd g λM E g=>Cg M [0] [0,1,5,6,7,8] (λM=>[(62,.b M)]) Ze Zf ?_ ?_)))
   .refine G0 6 Z (Is 55 E Z (λ_ E=>?_) (λ_ E=>?_))
    .refine Go 2 Z (Bd E λal O E=>?_);refine vX (.p 0 (toNat t*1)) (Qd O Z EB EC) ?_ (gT Z);refine vX (I al) (Ez Z EF Z (Qh O)) ?_ (gT Z);exact au E
    exact au E
   refine Cn Z g (λ_ g=>?_) (λ_ g=>?_)
   .exact au g
   refine Gc 5 Z (vH (Ek (xs:=[.tmp 63]) (es:=map eI [i64.wrap (d.Af.BK+f.Aj.BK)]) QG Z Z Z Z Z ⟨Z,trivial⟩ Z Z) ?_);refine Fg 2 Z Z (Bd g λaq P g=>?_);refine vX (.s 0 (0+toNat t) (toNat (AI j.1:Int)-toNat t) 1) (QP (l:=j.1) P EB EC (.inr ⟨_,Z,Z⟩) (.inl ⟨Z,Z⟩)) ?_;refine Bd g λar ag g=>vH (Qj (e:=eI) ag QG EB (LV (b:=0) P)) ?_;refine Fg 7 Z Z (Bd g λav Q g=>?_);refine vX (.s 0 (0+toNat 0) (toNat t-toNat 0) 1) (dx (l:=j.1) Q EB EC) ?_;refine Go 1 Z (Bd g λaw ah g=>vH (dw (e:=eI) Q ah QG EB (QE (i:=2))) ?_);exact au g
  exact au m
 exact au h
def T6(n:Nat)(g:AA CH)(y:AA Int)(f:(AA Aj)×Int)(d:Int):AB (CF Int (AA Aj)):=(bif d<(AI g:Int) then AH (AH (CI g d) λh=>(bif (h.AX==8)then AH (CI g d) λj=>AH (CI y f.2) λm=>AC (j.Aj.BK==m)else AC AD):AB Bool) λq=>(bif q then AH (CI g d) λt=>AH (app f.1 [t.Aj]) λx=>AC (.d x)else AC (.k (i64.wrap (d+1))))else AC (.d f.1))
def Td(h:AA CH)(g:AA Int)(d:(AA Aj)×Int):AB (CF ((AA Aj)×Int) (AA Aj)):=(bif d.2<(AI g:Int) then AH (iter (T6 n h g d) n 0:AB (AA Aj)) λf=>AC (.k (f,i64.wrap (d.2+1)))else AC (.d d.1))
def Mj(g:AA CH):AB (AA Aj):=AH (Kl n g) λf=>AH (MQ n f 8) λh=>AH (iter (Td n f h) n (([]:AA Aj),0):AB (AA Aj)) λd=>AC d
instance zG(a1:AA CH):Kq (Mj n a1) 133 [.q 57 (map CH.c a1)] [] (λr=>.o 0 (AI r) 4) (λr=>[.r 110 4 (map Aj.c r)]):=by
 refine Kg 8 func133 Z Z Z Z λr h=>Cd [] h Kc Z λr1 af h=>Fg 6 Z Z ?_;refine Et (Ym [(3,_),(9,_),(10,_)] Z Z (Cx.cons Z Ep (Cx.cons Z Ep (Cx.cons Z Ep Cx.nil))) (Ec (QQ _))) ?_;refine Cd [] h Kc Z λr2 ag h=>Fg 5 Z Z (vH (Ek (xs:=[]) (es:=map Aj.c []) kn Z Z Z Z Z trivial Z Z) ?_);refine Fg 9 Z Z (Bd h λq W h=>Cg q [1] [] (λq=>[(5,.o 0 (AI q) 4)]) (λq=>[(0,.r 110 4 (map Aj.c q))]) Zf ?_ ?_)
 .refine G0 1 Z (Lp [1,2] [3,4] (λm=>[(5,.o 1 (AI m.1) 4),(6,I m.2)]) (λm=>[(1,.r 110 4 (map Aj.c m.1))]) W Zf (Lr [1,2]) λm ac j L=>?_);refine G0 9 Z (Q5 Z j (λ_ j=>?_) (λ_ j=>?_))
  .exact Gc 2 Z (QF j (Gx 1 Z (DX L j (Lr [1]))))
  refine Gc 9 Z (Bd j λt X j=>Ct t [0,1] [3,4,6] (λt=>[(5,.o 1 (AI t) 4)]) (λt=>[(1,.r 110 4 (map Aj.c t))]) Zf ?_ (λenv H G=>?_))
  .refine G0 1 Z (Lp [0,1] [3,4,5,6] (λJ=>[(7,I J)]) Ze X Zf (Lr [0,1]) λJ ad f E=>?_);refine G0 5 Z (Lg 3 Z Z (Q5 Z f (λ_ f=>?_) (λ_ f=>?_)))
   .exact Gc 2 Z (QF f (Gx 1 Z (DX E f (Lr [0,1]))))
   refine Gc 5 Z (Bd f λy g f=>Ct y [0,1] [3,4,5,6,7] (λy=>[(43,.b y)]) Ze Zf ?_ (λenv H G=>?_))
   .refine G0 0 Z (DP 17 Z (D 2 Z ?_));obtain⟨d,O,g⟩:=Qw g;refine DS.wo (x:=.rp [I d.BF,I d.No,I d.At,I d.AX,I d.AO.BT,I d.AO.AN,I d.AO.A2,I d.AO.BM,I d.AO.B5,I d.AO.BB,I d.AO.Bk,I d.AO.B4,I d.A4.Al,I d.A4.Ag,I d.A4.BB,I d.A4.BD,I d.Aa.Al,I d.Aa.Ag,I d.Aa.BD,I d.Aa.True,I d.Aa.B6,I d.An.Bs,I d.An.Be,I d.An.Ba,I d.An.Br,I d.An.Bc,I d.An.BZ,I d.An.Bl,I d.An.Bq,I d.Ac.BT,I d.Ac.AT,I d.Ac.Lo,I d.Ac.Hi,I d.Ap.Al,I d.Ap.Ag,I d.Ap.Lo,I d.Ap.Hi,I d.Bb.A,I d.Bb.B,I d.Aj.BK,I d.Aj.BT,I d.Aj.AZ,I d.Aj.AT,I d.Au.BK,I d.Au.By,I d.Au.Bj,I d.Au.B2,I d.Af.BK,I d.Af.BU,I d.Af.AX,I d.Af.BT,I d.Af.AT,I d.Af.BO,I d.BE.BK,.b d.BE.Bg,I d.Bo.BF,I d.Bo.No]) ?_ ?_
    .exact Ix O EE EH Z Wp
    refine D 4 Z (DS.is 6 g Z Z Z (λ_ g=>?_) (λ_ g=>?_))
    .refine D 2 Z ?_;obtain⟨Y,Q,g⟩:=Qw g;refine DS.v (QV (e:=CH.c) (l:=r1) (v:=Y) Q EE EH) ?_ (hg:=(gT Z));refine D 5 Z ?_;obtain⟨aa,F,g⟩:=Qw g;refine DS.v (x:=(.p 0 (toNat m.2*1))) (Qd F Z EB EC) ?_ (hg:=(gT Z));refine DS.v (x:=(I aa)) (Ez Z EF Z (Qh F)) ?_ (hg:=(gT Z));exact au g
    exact au g
   refine Gx 1 Z (Ee G (Cn Z f (λ_ f=>?_) (λ_ f=>?_)))
   .refine Gc 5 Z (Bd f λab T f=>Iz T Z (Go 2 Z (vH (Ek (xs:=[.tmp 49]) (es:=map Aj.c [ab.Aj]) kn Z Z Z Z Z ⟨Z,trivial⟩ Z Z) ?_)));refine FE Z (Bd f λae V f=>vH (Qj (e:=Aj.c) V kn Gm (QE (i:=2))) ?_);refine Fg 6 Z Z (QF f ?_);obtain rfl:=Oj E f;exact Gx 1 Z (Nv (Lr [0,3]))
   exact au f
  exact Gx 2 Z (Ee G (Gc 5 Z (QZ j (Lr [0,1]))))
 exact au h
def oA(n:Nat)(f:AA Int)(j:Int)(d:Int):AB (CF Int Int):=AH ((bif d<(AI f:Int) then AH (CI f d) λg=>AC (AG (g<j))else AC AD):AB Bool) λh=>(bif h then AC (.k (i64.wrap (d+1)))else AC (.d d))
def Ma(d:AA Int)(g:Int):AB (AA Int):=AH (iter (oA n d g) n 0:AB Int) λf=>AH ((bif f<(AI d:Int) then AH (CI d f) λh=>AC (h==g)else AC AD):AB Bool) λj=>(bif j then AC d else AH (Dm d f (AI d:Int)) λm=>AH (app [g] m) λq=>AH (Dm d 0 f) λt=>AH (app t q) λx=>AC x)
instance yz(j:AA Int)(R:Int):Kq (Ma n j R) 134 [.o 0 (AI j) 1,I R] [.r 3 1 (map eI j)] (λr=>.o 1 (AI r) 1) (λr=>[.dead,.r 3 1 (map eI r)]):=by
 refine Kg 11 func134 Z Z Z Z λr h=>Bd h λm T h=>Ct m [0] [0,1] (λm=>[(5,I m)]) Ze Zf ?_ (λenv H q=>?_)
 .refine G0 1 Z (Lp [0] [0,1] (λG=>[(5,I G)]) Ze T Zf (Lr [0]) λG V d J=>?_);refine G0 2 Z (Bd d λt f d=>Ct t [0] [0,1,5] (λt=>[(18,.b t)]) Ze Zf ?_ (λenv H q=>?_))
  .refine G0 6 Z (Is 11 f Z (λ_ f=>?_) (λ_ f=>?_))
   .refine Go 2 Z (Bd f λW x f=>?_);refine vV (Qd x Z EB EC) ?_ (gT Z);refine vV (Ez Z EF Z (Qh x)) ?_ (gT Z);exact au f
   exact au f
  refine Gx 1 Z (Ee q (Q5 Z d (λ_ d=>?_) (λ_ d=>?_)))
  .exact Gc 2 Z (QF d (Gx 1 Z (DX J d (Lr [0]))))
  exact au d
 refine Gx 1 Z (Ee q (Gc 2 Z (Bd h λy g h=>Cg y [0] [0,1,5] (λy=>[(32,.b y)]) Ze Zf ?_ ?_)))
 .refine G0 6 Z (Is 25 g Z (λ_ g=>?_) (λ_ g=>?_))
  .refine Go 2 Z (Bd g λX B g=>?_);refine vV (Qd B Z EB EC) ?_ (gT Z);refine vV (Ez Z EF Z (Qh B)) ?_ (gT Z);exact au g
  exact au g
 refine Cn Z h (λ_ h=>?_) (λ_ h=>?_)
 .refine Gc 8 Z ?_;obtain rfl:=Oi h;refine R1 4 Z ?_;refine En (ma (s:=4) (i:=0) Z Z Z) ?_;exact Lr [0,1]
 refine Gc 5 Z (vH (Ek (xs:=[.tmp 34]) QG Z Z Z Z Z ⟨Z,trivial⟩ Z Z) ?_);refine Fg 2 Z Z (Bd h λY E h=>?_);refine vV (QP (l:=j) E EB EC (.inr ⟨_,Z,Z⟩) (.inl ⟨Z,Z⟩)) ?_;refine Bd h λaa P h=>vH (Qj P QG EB (LV (b:=0) E)) ?_;refine Fg 8 Z Z (Bd h λab F h=>?_);refine vV (dx (l:=j) F EB EC) ?_;refine Go 1 Z (Bd h λac Q h=>vH (dw F Q QG EB (QE (i:=2))) ?_);exact au h
def MJ(n:Nat)(f:AA CH)(q:Int)(t:Int)(d:Int):AB (CF Int (CF Unit Int)):=(bif d<(AI f:Int) then AH (AH (CI f d) λg=>(bif (g.AX==10)then AH (CI f d) λh=>(bif (h.Af.BK==q)then AH (CI f d) λj=>AC (j.Af.BU==t)else AC AD)else AC AD):AB Bool) λm=>(bif m then AC (.d (.d d))else AC (.k (i64.wrap (d+1))))else AC (.d (.k ())))
def ID(g:AA CH)(h:Int)(j:Int):AB Int:=AH (iter (MJ n g h j) n 0:AB (CF Unit Int)) λf=>match f with|.k d=>(AC (-1))|.d d=>AC d
instance zk(d:AA CH)(f:Int)(g:Int):Ks (ID n d f g) 274 [.q 57 (map CH.c d),I f,I g] [] (λr=>I r):=KA func274
def VU(n:Nat)(f:AA CH)(q:Int)(d:Int):AB (CF Int (CF Unit Bool)):=(bif d<(AI f:Int) then AH (AH (CI f d) λg=>(bif (g.AX==11)then AH (CI f d) λh=>(bif (h.BE.BK==q)then AH (CI f d) λj=>AC j.BE.Bg else AC AD)else AC AD):AB Bool) λm=>(bif m then AC (.d (.d AE))else AC (.k (i64.wrap (d+1))))else AC (.d (.k ())))
def PZ(f:AA CH)(g:Int):AB Bool:=AH (AH (ID n f g 1) λj=>(bif j<0 then AC AE else AH (ID n f g 2) λm=>AC (AG (0<=m))):AB Bool) λq=>(bif q then AC AD else AH (iter (VU n f g) n 0:AB (CF Unit Bool)) λh=>match h with|.k d=>(AC AD)|.d d=>AC d)
instance ye(d:AA CH)(f:Int):Ks (PZ n d f) 273 [.q 57 (map CH.c d),I f] [] (λr=>.b r):=KA func273
def J1(d:AA CH)(f:Int):AB Int:=AH (PZ n d f) λh=>(bif h then AC (-1)else AH (ID n d f 2) λg=>(bif 0<=g then AC g else AH (ID n d f 1) λj=>AC j))
instance zY(d:AA CH)(f:Int):Ks (J1 n d f) 202 [.q 57 (map CH.c d),I f] [] (λr=>I r):=KA func202
def TF(g:AA CH)(h:AA Int)(d:(AA Af)×Int):AB (CF ((AA Af)×Int) (AA Af)):=(bif d.2<(AI h:Int) then AH (CI h d.2) λj=>AH (J1 n g j) λf=>AH ((bif 0<=f then AH (CI g f) λm=>AH (app d.1 [m.Af]) λq=>AC q else AC d.1):AB (AA Af)) λt=>AC (.k (t,i64.wrap (d.2+1)))else AC (.d d.1))
def OW(g:AA CH):AB (AA Af):=AH (Kl n g) λd=>AH (MQ n d 10) λh=>AH (iter (TF n d h) n (([]:AA Af),0):AB (AA Af)) λf=>AC f
instance xX(F:AA CH):Kq (OW n F) 135 [.q 57 (map CH.c F)] [] (λr=>.o 0 (AI r) 6) (λr=>[.r 114 6 (map Af.c r)]):=by
 refine Kg 8 func135 Z Z Z Z λr h=>Cd [] h Kc Z λV M h=>Fg 6 Z Z ?_;refine Et (Ym [(3,_),(9,_),(10,_)] Z Z (Cx.cons Z Ep (Cx.cons Z Ep (Cx.cons Z Ep Cx.nil))) (Ec (QQ _))) (Cd [] h Kc Z λW N h=>Fg 5 Z Z (vH (Ek (xs:=[]) ko Z Z Z Z Z trivial Z Z) ?_));refine Fg 9 Z Z (Bd h λg G h=>Cg g [1] [] (λg=>[(5,.o 0 (AI g) 6)]) (λg=>[(0,.r 114 6 (map Af.c g))]) Zf ?_ ?_)
 .refine G0 1 Z (Lp [1,2] [3,4] (λj=>[(5,.o 1 (AI j.1) 6),(6,I j.2)]) (λj=>[(1,.r 114 6 (map Af.c j.1))]) G Zf (Lr [1,2]) λj O d t=>?_);refine G0 9 Z (Q5 Z d (λ_ d=>?_) (λ_ d=>?_))
  .exact Gc 2 Z (QF d (Gx 1 Z (DX t d (Lr [1]))))
  refine Gc 9 Z (Bd d λP q d=>(vV (Qd q Z EB EC) ?_));refine vV (Ez Z EF Z (Qh q)) ?_;refine Cz [] d Kc Z λQ L d=>Go 9 Z (Bd d λm f d=>Ct m [0,0] [3,4,6] (λm=>[(5,.o 1 (AI m) 6)]) (λm=>[(1,.r 114 6 (map Af.c m))]) Zf ?_ (λenv H J=>?_))
  .refine G0 0 Z (Cn Z f (λ_ f=>?_) (λ_ f=>?_))
   .refine Gc 4 Z (Bd f λR B f=>Iz B Z (Go 2 Z (vH (Ek (xs:=[.tmp 32]) ko Z Z Z Z Z ⟨Z,trivial⟩ Z Z) ?_)));refine FE Z (Bd f λT E f=>vH (Qj (e:=Af.c) E ko GT (QE (i:=2))) ?_);exact au f
   exact au f
  exact Gx 2 Z (Ee J (Gc 5 Z (QZ d (Lr [0,1]))))
 exact au h
def O7(g:AA CH)(h:Int):AB (Af×Bool):=AH (Kl n g) λd=>AH (J1 n d h) λf=>(bif f<0 then AC (UF,AD)else AH (CI d f) λj=>AC (j.Af,AE))
instance yA(f:AA CH)(g:Int):Kq (O7 n f g) 203 [.q 57 (map CH.c f),I g] [] (λr=>.t [.a (Af.c r.1),.b r.2]) (λr=>[.c 114 (Af.c r.1)]):=by
 refine Kg 9 func203 Z Z Z Z λr h=>Cd [] h Kc Z λt m h=>Fg 7 Z Z (Cb h Kc Z (lo (ls ln)) λx q h=>Go 10 Z (Cn Z h (λ_ h=>?_) (λ_ h=>?_)))
 .exact au h
 refine Gc 6 Z (Bd h λy d h=>(vV (Qd d Z EE EH) ?_));refine Fp Qmv Z (vV (Qt Z isAgg114 GX Z (Qm d) Z Z) ?_);exact au h
def UU(n:Nat)(j:Int)(f:AA Aj)(d:Int):AB (CF Int (CF Unit (Aj×Bool))):=(bif d<(AI f:Int) then AH (CI f d) λg=>(bif (g.BK==j)then AH (CI f d) λh=>AC (.d (.d (h,AE)))else AC (.k (i64.wrap (d+1))))else AC (.d (.k ())))
def O'(g:AA CH)(h:Int):AB (Aj×Bool):=AH (Mj n g) λj=>AH (iter (UU n h j) n 0:AB (CF Unit (Aj×Bool))) λf=>match f with|.k d=>(AC (UE,AD))|.d d=>AC d
instance yE(x:AA CH)(y:Int):Kq (O' n x y) 204 [.q 57 (map CH.c x),I y] [] (λr=>.t [.a (Aj.c r.1),.b r.2]) (λr=>[.c 110 (Aj.c r.1)]):=by
 refine Kg 9 func204 Z Z Z Z λr h=>Cd [] h Kc Z λN H h=>Fg 9 Z Z (Bd h λB E h=>D4 (b:=B) [0] [4] Ze Ze Zf ?_ (λ_ F=>?_))
 .refine G0 1 Z (Lp [0,1] [1,4,6] (λm=>[(7,I m)]) Ze E Zf (Lr [0,1]) λm J d f=>(G0 9 Z (Q5 Z d (λ_ d=>?_) (λ_ d=>?_))))
  .exact Je f d
  refine Gc 8 Z (Bd d λL g d=>(vV (Qd g Z Gm GO) ?_));refine Fp sa Z (vV (Ez Z EF Z (Qh g)) ?_);refine Go 4 Z (Cn Z d (λ_ d=>?_) (λ_ d=>?_))
  .refine Gc 4 Z (Bd d λM j d=>(vV (Qd j Z Gm GO) ?_));refine vV (Qt Z isAgg110 GO Z (Qh j) Z Z) (Go 7 Z (IN d ?_));obtain rfl:=Oj f d;exact au h
  exact au d
 subst F;exact au h
def Pz(j:CA)(m:AA CH)(q:Int):AB (Int×CE×Bool):=AH (O7 n m q) λd=>AH ((bif d.2 then(bif (d.1.AX==3)then AC (.d (d.1.BT,{AT:=d.1.AT,BW:=d.1.BO,As:=0,A':=AD:CE},AE))else(bif (d.1.AX==4)then AC (.d (d.1.BT,{AT:=d.1.AT,BW:=0,As:=d.1.BO,A':=AD:CE},AE))else(bif (d.1.AX==5)then AC (.d (d.1.BT,{AT:=d.1.AT,BW:=0,As:=0,A':=AE:CE},AE))else(bif (d.1.AX==2)then AC (.d (0,UB,AD))else AC (.k ())))))else AC (.k ())):AB (CF Unit (Int×CE×Bool))) λx=>match x with|.k h=>(AH (O' n m q) λf=>AH ((bif (!f.2)then AC AE else(bif f.1.AZ<0 then AC AE else AC (AG ((AI j.Ab:Int)<=f.1.AZ)))):AB Bool) λt=>(bif t then AC (0,UB,AD)else AH (CI j.Ab f.1.AZ) λg=>AC (f.1.BT,{AT:=f.1.AT,BW:=g.BW,As:=g.As,A':=g.A':CE},AE)))|.d h=>AC h
instance jx(t:CA)(x:AA CH)(y:Int):Kq (Pz n t x y) 136 [.a (CA.c t),.q 57 (map CH.c x),I y] [] (λr=>.t [I r.1,.a (CE.c r.2.1),.b r.2.2]) (λr=>[.c 50 (CE.c r.2.1)]):=by
 refine Kg 12 func136 Z Z Z Z λr h=>Cd [] h Kc Z λO L h=>Fg 14 Z Z (Bd h λG d h=>FX (b:=G) [0,1] [1,2,3,7] Ze Ze Zf ?_ (λM env H hb B=>?_))
 .refine G0 0 Z (Cn Z d (λ_ d=>?_) (λ_ d=>?_))
  .refine Gc 13 Z (Cn Z d (λ_ d=>?_) (λ_ d=>?_))
   .refine Gc 1 Z (DP 8 Z (D 8 Z (Eg Z (Go 6 Z ?_))));cases d;exact au h
   refine Gc 6 Z (Cn Z d (λ_ d=>?_) (λ_ d=>?_))
   .refine Gc 1 Z (DP 8 Z (D 8 Z (Eg Z (Go 6 Z ?_))));cases d;exact au h
   refine Gc 6 Z (Cn Z d (λ_ d=>?_) (λ_ d=>?_))
   .refine Gc 1 Z (DP 6 Z (D 6 Z (Eg Z (Go 6 Z ?_))));cases d;exact au h
   refine Gc 6 Z (Cn Z d (λ_ d=>?_) (λ_ d=>?_))
   .refine Gc 10 Z ?_;cases d;exact au h
   refine Gc 2 Z ?_;cases d;exact KR Z (Lr [0,1])
  refine Gc 1 Z ?_;cases d;exact KR Z (Lr [0,1])
 subst hb;refine Gx 1 Z (Ee B (Gc 4 Z (Cd [] h Kc Z λN J h=>Fg 10 Z Z (Bd h λf F h=>Cg f [0,1,3] [3,7,11] (λf=>[(71,.b f)]) Ze Zf ?_ ?_))))
 .exact au F
 exact au h
def TE(f:AA Aj)(d:(AA Int)×Int):AB (CF ((AA Int)×Int) (AA Int)):=(bif d.2<(AI f:Int) then AH (CI f d.2) λg=>AH (Ma n d.1 g.BK) λh=>AC (.k (h,i64.wrap (d.2+1)))else AC (.d d.1))
def T3(f:AA Af)(d:(AA Int)×Int):AB (CF ((AA Int)×Int) (AA Int)):=(bif d.2<(AI f:Int) then AH (CI f d.2) λg=>AH (Ma n d.1 g.BK) λh=>AC (.k (h,i64.wrap (d.2+1)))else AC (.d d.1))
def VO(y:CA)(B:AA CH)(E:Int)(f:AA Int)(d:(AA Int)×(AA CE)×Int):AB (CF ((AA Int)×(AA CE)×Int) ((AA Int)×(AA CE))):=(bif d.2.2<(AI f:Int) then AH (CI f d.2.2) λj=>AH (Pz n y B j) λg=>AH ((bif g.2.2 then AC (g.1==E)else AC AD):AB Bool) λm=>AH ((bif m then AH (CI f d.2.2) λq=>AH (app d.1 [q]) λt=>AH (app d.2.1 [g.2.1]) λx=>AC (t,x)else AC (d.1,d.2.1)):AB ((AA Int)×(AA CE))) λh=>AC (.k (h.1,h.2,i64.wrap (d.2.2+1)))else AC (.d (d.1,d.2.1)))
def Pd(g:CA)(f:AA CH)(q:Int):AB ((AA Int)×(AA CE)):=AH (HU n g) λt=>(bif (t != 0)then AC ([],[])else AH (Mj n f) λx=>AH (iter (TE n x) n (([]:AA Int),0):AB (AA Int)) λh=>AH (OW n f) λj=>AH (iter (T3 n j) n (h,0):AB (AA Int)) λm=>AH (iter (VO n g f q m) n (([]:AA Int),([]:AA CE),0):AB ((AA Int)×(AA CE))) λd=>AC (d.1,d.2))
instance yh(J:CA)(W:AA CH)(a3:Int):Kq (Pd n J W a3) 76 [.a (CA.c J),.q 57 (map CH.c W),I a3] [] (λr=>.t [.o 0 (AI r.1) 1,.o 1 (AI r.2) 4]) (λr=>[.r 3 1 (map eI r.1),.r 50 4 (map CE.c r.2)]):=by
 refine Kg 11 func76 Z Z Z Z λr h=>Cz [] h Kc Z λr1 aq h=>Go 3 Z (Cn Z h (λ_ h=>?_) (λ_ h=>?_))
 .refine Gc 8 Z ?_;obtain rfl:=Oi h;refine R2 6 7 Z Z ?_;refine En (Er (s:=6) (k:=1) (t:=3) (XQ Z) Z) ?_;refine En (Er (s:=7) (k:=4) (t:=50) (XQ Z) Z) ?_;exact Lr [1,2]
 refine Gc 4 Z (vH (Ek (xs:=[]) (es:=map eI []) QG Z Z Z Z Z trivial Z Z) ?_);refine Fg 6 Z Z (Cd [] h Kc Z λr3 ar h=>Fg 9 Z Z (Bd h λM ai h=>Ct M [0,1] [1,2,3] (λM=>[(8,.o 1 (AI M) 1)]) (λM=>[(1,.r 3 1 (map eI M))]) Zf ?_ (λenv H y=>?_)))
 .refine G0 1 Z (Lp [0,1,2] [1,2,3,9] (λF=>[(8,.o 1 (AI F.1) 1),(10,I F.2)]) (λF=>[(1,.r 3 1 (map eI F.1))]) ai Zf (Lr [0,1,2]) λF av q X=>?_);refine G0 9 Z (Q5 Z q (λ_ q=>?_) (λ_ q=>?_))
  .exact Gc 2 Z (QF q (Gx 1 Z (DX X q (Lr [0,1]))))
  refine Gc 8 Z (Bd q λaj N q=>?_);refine vX (.p 2 (toNat F.2*4)) (Qd N Z Gm GO) ?_;refine Fp sa Z ?_;refine vX (I aj.BK) (Ez Z EF Z (Qh N)) ?_;exact au q
 refine Gx 1 Z (Ee y (Gc 3 Z (Cd [] h Kc Z λaw ao h=>Fg 9 Z Z (Bd h λj ak h=>Ct j [0,1] [1,2,3] (λj=>[(8,.o 1 (AI j) 1)]) (λj=>[(1,.r 3 1 (map eI j))]) Zf ?_ (λenv H y=>?_)))))
 .refine G0 1 Z (Lp [0,1,2] [1,2,3,11] (λG=>[(8,.o 1 (AI G.1) 1),(12,I G.2)]) (λG=>[(1,.r 3 1 (map eI G.1))]) ak Zf (Lr [0,1,2]) λG ax x aa=>?_);refine G0 9 Z (Q5 Z x (λ_ x=>?_) (λ_ x=>?_))
  .exact Gc 2 Z (QF x (Gx 1 Z (DX aa x (Lr [0,1]))))
  refine Gc 8 Z (Bd x λal O x=>?_);refine vX (.p 2 (toNat G.2*6)) (Qd O Z GT GX) ?_;refine Fp QoI Z ?_;refine vX (I al.BK) (Ez Z EF Z (Qh O)) ?_;exact au x
 refine Gx 1 Z (Ee y (Gc 2 Z (vH (Ek (xs:=[]) (es:=map eI []) QG Z Z Z Z Z trivial Z Z) ?_)));refine Fg 5 Z Z (vH (Ek (xs:=[]) (es:=map CE.c []) L4 Z Z Z Z Z trivial Z Z) ?_);refine Fg 9 Z Z (Bd h λB am h=>Cg B [2,3] [] (λB=>[(13,.o 0 (AI B.1) 1),(14,.o 1 (AI B.2) 4)]) (λB=>[(0,.r 3 1 (map eI B.1)),(1,.r 50 4 (map CE.c B.2))]) Zf ?_ ?_)
 .refine G0 1 Z (Lp [0,1,2,3] [1,2,3,8] (λd=>[(13,.o 2 (AI d.1) 1),(14,.o 3 (AI d.2.1) 4),(15,I d.2.2)]) (λd=>[(2,.r 3 1 (map eI d.1)),(3,.r 50 4 (map CE.c d.2.1))]) am Zf (Lr [0,1,2,3]) λd ay g ac=>?_);refine G0 9 Z (Q5 Z g (λ_ g=>?_) (λ_ g=>?_))
  .exact Gc 2 Z (QF g (Gx 1 Z (DX ac g (Lr [2,3]))))
  refine Gc 5 Z ?_;obtain⟨P,L,g⟩:=Qw g;obtain⟨f,Q,g⟩:=Qw g;refine Yx 14 1 [62,63,64,65,66,67,68,61,69,70,71,17,16,1000013] [AD,AD,AD,AD,AD,AD,AE,AD,AD,AD,AD,AE,AD,AE] [[],[],[],[],[],[],[],[6],[6],[6],[6],[],[6,11],[6,11]] [[],[6],[11],[6,11],[6,11,13]] [[(0,0),(2,2)],[(0,0),(2,2)],[(0,0),(2,2)],[(0,0),(2,2)],[(0,0),(2,2)],[(0,0),(2,2)],[(0,1),(2,3)],[(1,1),(3,3)],[(1,1),(3,3)],[(1,1),(3,3)],[(1,1),(3,3),(4,4)],[(0,2),(1,3)],[(3,3)],[(3,4)]] [.a (CA.c J),.q 57 (map CH.c W),.o 1 (AI j) 1,I d.2.2,.p 1 (toNat d.2.2*1),I P,.t [I f.1,.a (CE.c f.2.1),.b f.2.2],.t [I f.1,.a (CE.c f.2.1),.b f.2.2],I f.1,.a (CE.c f.2.1),.b f.2.2,.p 4 0,I f.1,.any] [[.c 33 (CA.c J),.r 3 1 (map eI j),.r 3 1 (map eI d.1),.r 50 4 (map CE.c d.2.1),.dead],[.c 33 (CA.c J),.r 3 1 (map eI j),.r 3 1 (map eI d.1),.r 50 4 (map CE.c d.2.1),.dead,.c 50 (CE.c f.2.1)],[.c 33 (CA.c J),.r 3 1 (map eI j),.r 3 1 (map eI d.1),.r 50 4 (map CE.c d.2.1),.c 50 (CE.c UB)],[.c 33 (CA.c J),.r 3 1 (map eI j),.r 3 1 (map eI d.1),.r 50 4 (map CE.c d.2.1),.c 50 (CE.c UB),.c 50 (CE.c f.2.1)],[.c 33 (CA.c J),.r 3 1 (map eI j),.r 3 1 (map eI d.1),.r 50 4 (map CE.c d.2.1),.c 50 (CE.c f.2.1),.c 50 (CE.c f.2.1)]] ([.c 33 (CA.c J),.r 3 1 (map eI j),.r 3 1 (map eI d.1),.r 50 4 (map CE.c d.2.1),.c 50 (CE.c f.2.1),.c 50 (CE.c f.2.1)]) DD Z Z Z Z Z Z Z ?_ Z ?_
  .refine M1 (M1 (M1 (M1 (Co.cons ?_ (Co.cons ?_ (Co.cons ?_ (M1 (M1 (M1 (M1 (Co.cons ?_ (M1 (Co.cons ?_ (Co.nil))))))))))))))
   .refine Qb ?_ (Qb ?_ (Qg))
    iterate 2 refine Om Z (sD 2 (sD 3 sN)) ?_;refine vX (.p 1 (toNat d.2.2*1)) (Qd L Z EB EC) ?_;exact Wp
   .refine Qb ?_ (Qb ?_ (Qg))
    iterate 2 refine Om Z (sD 4 sN) ?_;refine vX (I P) (Ez Z EF Z (Qh L)) ?_;exact Wp
   .refine Qb ?_ (Qb ?_ (Qg))
    iterate 2 refine F7 Z (sD 0 (sD 1 (sD 5 sN))) ?_;refine Qf [] (C6.fn call136 Z Z Z) ((jx _ _ _ _).c _ Q) ?_;rintro _ _ ⟨rfl,rfl⟩;exact FE Z Wp
   .refine Qb ?_ (Qb ?_ (Qg))
    iterate 2 exact Jn.alloc _ 17 50 4 _ Z Z Z Z Z Z Z (I5.alloc (v:=(.a [I 0,I 0,I 0,.b AD])) zeroValue50 (Fu Z)) Z
   .refine Qb ?_ (Qg)
    .refine S9 Z (sD 11 (sD 9 sN)) ?_;refine vU (Ey Z Z Z Gf Z Z Z Z Z Z Z) ?_;exact FE Z Wp
  refine Go 4 Z (Bd g λR an g=>Ct R [0,1,2,3,4] [1,2,3,8,13,14,15,17] (λR=>[(77,.b R)]) Ze Zf ?_ (λenv H y=>?_))
  .exact au an
  refine Gx 1 Z (Ee y (Bd g λE m g=>Ct E [0,1,0,0] [1,2,3,8,15] (λE=>[(13,.o 2 (AI E.1) 1),(14,.o 3 (AI E.2) 4)]) (λE=>[(2,.r 3 1 (map eI E.1)),(3,.r 50 4 (map CE.c E.2))]) Zf ?_ (λenv H y=>?_)))
  .refine G0 0 Z (Cn Z m (λ_ m=>?_) (λ_ m=>?_))
   .refine Gc 5 Z (Bd m λV T m=>?_);refine vX (.p 1 (toNat d.2.2*1)) (Qd T Z EB EC) ?_;refine vX (I V) (Ez Z EF Z (Qh T)) ?_;refine vH (Ek (xs:=[.tmp 82]) (es:=map eI [V]) QG Z Z Z Z Z ⟨Z,trivial⟩ Z Z) ?_;refine FE Z (Bd m λaz af m=>vH (Qj (e:=eI) af QG EB (QE (i:=5))) ?_);refine Fg 6 Z Z (vH (Ek (xs:=[.tmp 86]) (es:=map CE.c [f.2.1]) L4 Z Z Z Z Z ⟨Z,trivial⟩ Z Z) ?_);refine FE Z (Bd m λba ag m=>vH (Qj (e:=CE.c) ag L4 EQ (QE (i:=7))) ?_);exact au m
   exact au m
  exact Gx 2 Z (Ee y (Gc 5 Z (QZ g (Lr [0,1,2,3]))))
 exact au h
def oB(n:Nat)(m:AA CE)(f:(AA CE)×Int)(d:Int):AB (CF Int Int):=AH ((bif d<(AI f.1:Int) then AH (CI f.1 d) λg=>AH (CI m f.2) λh=>AC (AG (g.AT<=h.AT))else AC AD):AB Bool) λj=>(bif j then AC (.k (i64.wrap (d+1)))else AC (.d d))
def Tj(g:AA CE)(d:(AA CE)×Int):AB (CF ((AA CE)×Int) (AA CE)):=(bif d.2<(AI g:Int) then AH (iter (oB n g d) n 0:AB Int) λf=>AH (CI g d.2) λh=>AH (Dm d.1 f (AI d.1:Int)) λj=>AH (app [h] j) λm=>AH (Dm d.1 0 f) λq=>AH (app q m) λt=>AC (.k (t,i64.wrap (d.2+1)))else AC (.d d.1))
def Oz(f:AA CE):AB (AA CE):=AH (iter (Tj n f) n (([]:AA CE),0):AB (AA CE)) λd=>AC d
instance xu(Q:AA CE):Kq (Oz n Q) 77 [.q 4 (map CE.c Q)] [] (λr=>.o 0 (AI r) 4) (λr=>[.r 50 4 (map CE.c r)]):=by
 refine Kg 7 func77 Z Z Z Z λr h=>vH (Ek (xs:=[]) (es:=map CE.c []) L4 Z Z Z Z Z trivial Z Z) ?_;refine Fg 9 Z Z (Bd h λB Y h=>Cg B [0] [] (λB=>[(3,.o 0 (AI B) 4)]) (λB=>[(0,.r 50 4 (map CE.c B))]) Zf ?_ ?_)
 .refine G0 1 Z (Lp [0] [0] (λj=>[(3,.o 0 (AI j.1) 4),(4,I j.2)]) (λj=>[(0,.r 50 4 (map CE.c j.1))]) Y Zf (Lr [0]) λj af d R=>?_);refine G0 5 Z (Lg 3 Z Z (Q5 Z d (λ_ d=>?_) (λ_ d=>?_)))
  .exact Gc 2 Z (QF d (Gx 1 Z (DX R d (Lr [0]))))
  refine Gc 10 Z (Bd d λm V d=>Cg m [0] [0,3,4] (λm=>[(5,I m)]) Ze Zf ?_ ?_)
  .refine G0 1 Z (Lp [0] [0,3,4] (λt=>[(5,I t)]) Ze V Zf (Lr [0]) λt aa g H=>?_);refine G0 2 Z (Bd g λE f g=>Cg E [0] [0,3,4,5] (λE=>[(30,.b E)]) Ze Zf ?_ ?_)
   .refine G0 0 Z (DP 15 Z (D 5 Z (DS.is 4 f Z Z Z (λ_ f=>?_) (λ_ f=>?_))))
    .refine D 2 Z ?_;obtain⟨W,F,f⟩:=Qw f;refine DS.v (x:=(.p 0 (toNat t*4))) (Qd F Z EQ Gf) ?_ (hg:=(gT Z));refine DS.wo (x:=.p 0 (toNat t*4)) ?_ ?_
     .exact HJ (gT Z) QqJ Z Wp
     refine DS.v (x:=(I W.AT)) (Ez Z EF Z (Qh F)) ?_ (hg:=(gT Z));refine D 2 Z ?_;obtain⟨X,L,f⟩:=Qw f;refine DS.v (QV (e:=CE.c) (l:=Q) (v:=X) L EQ Gf) ?_ (hg:=(gT Z));exact au f
    exact au f
   refine Q5 Z g (λ_ g=>?_) (λ_ g=>?_)
   .exact Gc 2 Z (QF g (Gx 1 Z (DX H g (Lr [0]))))
   exact au g
  refine Gc 1 Z (NI 8 4 [0,0,0,0,1,3,3,3] (by kernel_rfl) (Da 2 Z ?_));obtain⟨q,N,d⟩:=Qw d;refine DA.wo (x:=.rp [I q.AT,I q.BW,I q.As,.b q.A']) ?_ ?_
  .exact Ix N EQ Gf Z Wp
  refine Da 1 Z ?_;refine kv (Ek (xs:=[.tmp 36]) (es:=map CE.c [q]) L4 Z Z Z Z Z ⟨Z,trivial⟩ Z Z) Z Z (Db 2 Z ?_);obtain⟨ab,y,d⟩:=Qw d;refine DB.wo2 (x:=.s 0 (0+toNat m) (toNat (AI j.1:Int)-toNat m) 4) ?_ ?_ ?_
  iterate 2 refine vV (QP (l:=j.1) y EQ Gf (.inr ⟨_,Z,Z⟩) (.inl ⟨Z,Z⟩)) ?_;exact Wp
  refine DB.done Z (Bd d λac O d=>vH (Qj (e:=CE.c) O L4 EQ (LV (b:=0) y)) ?_);refine Fg 7 Z Z (Bd d λad G d=>?_);refine vV (dx (l:=j.1) G EQ Gf) ?_;refine Go 1 Z (Bd d λae P d=>vH (dw (e:=CE.c) G P L4 EQ (QE (i:=2))) ?_);exact au d
 exact au h
def Mk(d:CA)(f:Int):AB Int:=AH (HU n d) λg=>(bif (g != 0)then AC g else AH ((bif f<0 then AC AE else AC (AG ((AI d.AP:Int)<=f))):AB Bool) λh=>(bif h then AC 90 else AC 0))
instance zH(d:CA)(f:Int):Ks (Mk n d f) 137 [.a (CA.c d),I f] [] (λr=>I r):=KA func137
def Oe(d:CA)(f:Int):AB ((AA Int)×Int):=AH (Mk n d f) λg=>(bif (g != 0)then AC ([],g)else AH (CI d.AP f) λj=>AH (AC ():AB Unit) λm=>AH (Rn n j.Ae) λh=>AH (AC ():AB Unit) λq=>(bif 256<(i64.wrap ((AI h:Int)+0)) then AC ([],2)else AC (h,0)))
instance xe(d:CA)(f:Int):Kq (Oe n d f) 78 [.a (CA.c d),I f,I 0] [] (λr=>.t [.o 0 (AI r.1) 1,I r.2]) (λr=>[.r 3 1 (map eI r.1)]):=by
 refine Kg 11 func78 Z Z Z Z λr h=>Cz [] h Kc Z λL G h=>Go 10 Z (Cn Z h (λ_ h=>?_) (λ_ h=>?_))
 .refine Gc 9 Z ?_;obtain rfl:=Oi h;refine R2 6 7 Z Z ?_;exact En (Er (s:=6) (XQ Z) Z) (Lr [1])
 refine Gc 7 Z (Bd h λM j h=>Iz j Z (Go 7 Z (Bd h λx y h=>Ct x [1] [2,9] (λ_=>[(35,.b AD)]) Ze Zf ?_ (λenv H m=>?_))))
 .exact au y
 refine Gx 1 Z (Ee m (Gc 7 Z (Cd [] h Kc Z λB J h=>Fg 5 Z Z (Bd h λE F h=>Cg E [0,1] [2,9,10] (λ_=>[(47,.b (AG (256<(i64.wrap (AI B+0)))))]) Ze Zf ?_ ?_))))
 .exact au F
 refine Cn Z h (λ_ h=>?_) (λ_ h=>?_)
 .refine Gc 8 Z ?_;obtain rfl:=Oi h;refine R2 6 7 Z Z (En (Er (s:=6) (k:=1) (t:=3) (XQ Z) Z) ?_);exact Lr [2]
 refine Gc 6 Z ?_;refine Go 12 Z ?_;exact au h
def eo(n:Nat)(d:(AA CE)×Int×Int):AB (CF ((AA CE)×Int×Int) (AA CE)):=(bif d.2.2<(AI d.1:Int) then AH (CI d.1 d.2.2) λf=>AH (CI d.1 d.2.2) λh=>AH (JN d.1 d.2.2 ({h with As:=(if d.2.1<f.As then d.2.1 else f.As):CE})) λg=>AH (CI g d.2.2) λj=>AC (.k (g,i64.wrap (d.2.1-j.As),i64.wrap (d.2.2+1)))else AC (.d d.1))
def UR(h:CA)(H:AA CH)(G:Int)(j:(AA AO)×Int)(d:Int):AB (CF Int (CF Unit (AA CE))):=(bif d<(AI j.1:Int) then AH (AH (CI j.1 d) λm=>(bif (m.BT != G)then AC (.k ())else AH (Pd n h H G) λq=>AH (Oz n q.2) λt=>AH (CI j.1 d) λg=>AH (Oe n h g.AN) λx=>AH (CI h.AP g.AN) λy=>AH ((bif (y.Am==(-1))then AC 0 else AC (i64.wrap (256-(AI x.1:Int)))):AB Int) λB=>AH (iter (eo n) n (t,B,0):AB (AA CE)) λE=>AC (.d (.d (.d E)))):AB (CF Unit (CF Int (CF Unit (AA CE))))) λF=>match F with|.k f=>(AC (.k (i64.wrap (d+1))))|.d f=>AC f else AC (.d (.k ())))
def Py(g:CA)(h:AA CH)(m:Int):AB (AA CE):=AH (MV n g h) λj=>(bif (j.2 != 0)then AC []else AH (iter (UR n g h m j) n 0:AB (CF Unit (AA CE))) λf=>match f with|.k d=>(AC [])|.d d=>AC d)
instance ju(a1:CA)(a2:AA CH)(a3:Int):Kq (Py n a1 a2 a3) 28 [.a (CA.c a1),.q 57 (map CH.c a2),I a3] [] (λr=>.o 0 (AI r) 4) (λr=>[.r 50 4 (map CE.c r)]):=by
 refine Kg 10 func28 Z Z Z Z λr h=>Cd [] h Kc Z λr1 ay h=>Fg 14 Z Z (Cn Z h (λ_ h=>?_) (λ_ h=>?_))
 .refine Gc 7 Z ?_;obtain rfl:=Oi h;refine R1 6 Z ?_;refine En (Er (s:=6) (k:=4) (t:=50) (XQ Z) Z) ?_;exact Lr [2]
 refine Gc 8 Z (Bd h λV W h=>D4 (b:=V) [] [] Ze Ze Zf ?_ (λ_ af=>?_))
 .refine G0 1 Z (Lp [0,1] [1,2,3,7] (λx=>[(9,I x)]) Ze W Zf (Lr [0,1]) λx am m E=>?_);refine G0 9 Z (Q5 Z m (λ_ m=>?_) (λ_ m=>?_))
  .exact Je E m
  refine Gc 3 Z (Bd m λX d m=>D4 (b:=X) [0,1] [1,2,3,7,9] Ze Ze Zf ?_ (λ_ hb=>?_))
  .refine G0 6 Z (Bd d λY F d=>?_);refine vX (.p 1 (toNat x*8)) (Qd F Z EJ EO) ?_;refine Fp lT Z ?_;refine vX (I Y.BT) (Ez Z EF Z (Qh F)) ?_;refine Go 4 Z (Cn Z d (λ_ d=>?_) (λ_ d=>?_))
   .refine Gc 3 Z ?_;cases d;exact KR Z (Lr [0,1])
   refine Gc 7 Z (Cd [] d Kc Z λan aj d=>Fg 10 Z Z ?_);refine Et (Ym [(11,_),(38,_),(42,_),(44,_),(45,_)] Z Z (Cx.cons Z Ep (Cx.cons Z (DO.tup (CN.k (Ed Ep (Ej _)))) (Cx.cons Z (DO.tup (CN.k (Ed Ep (Ej _)))) (Cx.cons Z Ep (Cx.cons Z Ep Cx.nil))))) (Ec (Ec (Ec (Ec (QQ _)))))) ?_;refine Cd [] d Kc Z λao ak d=>Fg 7 Z Z (Bd d λaa G d=>?_);refine vX (.p 1 (toNat x*8)) (Qd G Z EJ EO) ?_;refine Fp QqK Z ?_;refine vX (I aa.AN) (Ez Z EF Z (Qm (f:=1) G)) ?_;refine Go 7 Z (Cd [] d Kc Z λaq al d=>Fg 21 Z Z (Bd d λar Q d=>Iz Q Z (Go 5 Z (Bd d λy ab d=>Ct y [4] [11] (λy=>[(15,I y)]) Ze Zf ?_ (λenv H ag=>?_)))))
   .exact au ab
   refine Gx 1 Z (Ee ag (Gc 6 Z (Bd d λq ac d=>Cg q [0] [] (λq=>[(11,.o 0 (AI q) 4)]) (λq=>[(0,.r 50 4 (map CE.c q))]) Zf ?_ ?_)))
   .refine G0 1 Z (Lp [0] [] (λj=>[(11,.o 0 (AI j.1) 4),(15,I j.2.1),(16,I j.2.2)]) (λj=>[(0,.r 50 4 (map CE.c j.1))]) ac Zf (Lr [0]) λj av g R=>?_);refine G0 9 Z (Q5 Z g (λ_ g=>?_) (λ_ g=>?_))
    .exact Gc 2 Z (QF g (Gx 1 Z (DX R g (Lr [0]))))
    refine Gc 10 Z (Bd g λB J g=>?_);refine vX (.p 0 (toNat j.2.2*4)) (Qd J Z EQ Gf) ?_;refine Fp lU Z ?_;refine vX (I B.As) (Ez Z EF Z (Qm (f:=2) J)) ?_;refine Go 1 Z ?_;refine vX (I (if j.2.1<B.As then j.2.1 else B.As)) (CS.min Z Z Z Z) ?_;refine Bd g λaw L g=>?_;refine vX (.p 0 (toNat j.2.2*4)) (Qd L Z EQ Gf) ?_;refine Fp lU Z (Bd g λax M g=>?_);refine vU (Yy (e:=CE.c) (k:=4) (f:=2) L M EC Z Z) ?_;refine FE Z ?_;refine Et (Q8 (s:=11) Z (congrArg (λn=>A.s 0 0 n 4) (Yp M))) ?_;refine Go 6 Z (Bd g λad N g=>?_);refine vX (.p 0 (toNat j.2.2*4)) (Qd N Z EQ Gf) ?_;refine Fp lU Z ?_;refine vX (I ad.As) (Ez Z EF Z (Qm (f:=2) N)) ?_;exact au g
   refine Gc 8 Z ?_;cases d;exact DZ E m h
  subst hb;exact au m
 subst af;refine Gc 6 Z ?_;obtain rfl:=Oi h;refine R1 6 Z ?_;refine En (Er (s:=6) (k:=4) (t:=50) (XQ Z) Z) ?_;exact Lr [0]
def MD(n:Nat)(f:AA CE)(d:Int×Int):AB (CF (Int×Int) Int):=(bif d.2<(AI f:Int) then AH (CI f d.2) λg=>AC (.k (i64.wrap (d.1+g.As),i64.wrap (d.2+1)))else AC (.d d.1))
def Ig(d:AA CE):AB Int:=AH (iter (MD n d) n (0,0):AB Int) λf=>AC f
instance j9(m:AA CE):Ks (Ig n m) 10 [.q 4 (map CE.c m)] [] (λr=>I r):=by
 refine Kg 16 func10 Z Z Z Z λr h=>Bd h λf t h=>Cg f [] [] (λf=>[(3,I f)]) Ze Zf ?_ ?_
 .refine G0 1 Z (Lp [] [0] (λg=>[(3,I g.1),(4,I g.2)]) Ze t Zf (Lr []) λg x d q=>?_);refine G0 5 Z (Lg 3 Z Z (Q5 Z d (λ_ d=>?_) (λ_ d=>?_)))
  .exact Gc 2 Z (QF d (Gx 1 Z (DX q d (Lr []))))
  exact au d
 exact au h
def UM(n:Nat)(f:CD)(d:Int):AB (CF Int (CF Unit Bool)):=(bif d<(AI f.BP:Int) then AH (CI f.BP d) λg=>(bif 12<(AI g:Int) then AC (.d (.d AD))else AC (.k (i64.wrap (d+1))))else AC (.d (.k ())))
def Ot(f:CD):AB Bool:=AH ((bif 8<(AI f.AR:Int) then AC AE else AC (AG (10<(AI f.BP:Int)))):AB Bool) λh=>(bif h then AC AD else AH (iter (UM n f) n 0:AB (CF Unit Bool)) λg=>match g with|.k d=>(AC AE)|.d d=>AC d)
instance xm(d:CD):Ks (Ot n d) 81 [.a (CD.c d)] [] (λr=>.b r):=KA func81
def TX(n:Nat)(f:AA Int)(j:Int)(d:Int×Int):AB (CF (Int×Int) Int):=(bif d.2<(AI f:Int) then AH (CI f d.2) λg=>AH ((bif (g==j)then AC d.2 else AC d.1):AB Int) λh=>AC (.k (h,i64.wrap (d.2+1)))else AC (.d d.1))
def V'(f:AA Int)(g:Int):AB Int:=AH (iter (TX n f g) n ((-1),0):AB Int) λd=>AC d
instance wQ(x:AA Int)(y:Int):Ks (V' n x y) 138 [.q 1 (map eI x),I y] [] (λr=>I r):=by
 refine Kg 16 func138 Z Z Z Z λr h=>Bd h λf B h=>Cg f [] [] (λf=>[(5,I f)]) Ze Zf ?_ ?_
 .refine G0 1 Z (Lp [] [0,1] (λg=>[(5,I g.1),(6,I g.2)]) Ze B Zf (Lr []) λg G d m=>?_);refine G0 5 Z (Lg 3 Z Z (Q5 Z d (λ_ d=>?_) (λ_ d=>?_)))
  .exact Gc 2 Z (QF d (Gx 1 Z (DX m d (Lr []))))
  refine Gc 8 Z (Bd d λJ t d=>Iz t Z (Go 5 Z (Bd d λj E d=>Ct j [] [0,1,6] (λj=>[(5,I j)]) Ze Zf ?_ (λenv H F=>?_))))
  .exact au E
  exact Gx 2 Z (Ee F (Gc 5 Z (QZ d (Lr []))))
 exact au h
def ew(n:Nat)(g:Int)(h:AN)(d:(AA Int)×Int):AB (CF ((AA Int)×Int) (AA Int)):=(bif d.2<g then AH (app d.1 [h.Am]) λf=>AC (.k (f,i64.wrap (d.2+1)))else AC (.d d.1))
def Oa(j:CA)(m:Int)(f:Int):AB ((AA Int)×Int):=AH (Mk n j m) λq=>(bif (q != 0)then AC ([],q)else AH (CI j.AP m) λg=>AH ((bif f<0 then AC AE else(bif 0<f then AC (g.Am==(-1))else AC AD)):AB Bool) λG=>(bif G then AC ([],90)else AH (Rn n g.Ae) λd=>AH ((bif 256<f then AC AE else AC (AG (256<(i64.wrap ((AI d:Int)+f))))):AB Bool) λt=>(bif t then AC ([],2)else(bif (f==0)then AC (d,0)else AH (V' n d g.Am) λh=>AH (Dm d 0 (i64.wrap (h+1))) λx=>AH (app ([]:AA Int) x) λy=>AH (iter (ew n f g) n (y,0):AB (AA Int)) λB=>AH (Dm d (i64.wrap (h+1)) (AI d:Int)) λE=>AH (app B E) λF=>AC (F,0)))))
instance xb(P:CA)(Q:Int)(R:Int):Kq (Oa n P Q R) 78 [.a (CA.c P),I Q,I R] [] (λr=>.t [.o 0 (AI r.1) 1,I r.2]) (λr=>[.r 3 1 (map eI r.1)]):=by
 refine Kg 11 func78 Z Z Z Z λr h=>Cz [] h Kc Z λr1 ac h=>Go 10 Z (Cn Z h (λ_ h=>?_) (λ_ h=>?_))
 .refine Gc 9 Z ?_;obtain rfl:=Oi h;refine R2 6 7 Z Z ?_;refine En (Er (s:=6) (k:=1) (t:=3) (XQ Z) Z) ?_;exact Lr [1]
 refine Gc 7 Z (Bd h λY V h=>Iz V Z (Go 7 Z (Bd h λB h7 h=>Ct B [1] [2,9] (λB=>[(35,.b B)]) Ze Zf ?_ (λenv H j=>?_))))
 .exact au h7
 refine Gx 1 Z (Ee j (Cn Z h (λ_ h=>?_) (λ_ h=>?_)))
 .refine Gc 8 Z ?_;obtain rfl:=Oi h;refine R2 6 7 Z Z ?_;refine En (Er (s:=6) (k:=1) (t:=3) (XQ Z) Z) ?_;exact Lr [1]
 refine Gc 6 Z (Cd [] h Kc Z λy aa h=>Fg 5 Z Z (Bd h λm W h=>Ct m [0,1] [2,9,10] (λm=>[(47,.b m)]) Ze Zf ?_ (λenv H j=>?_)))
 .exact au W
 refine Gx 1 Z (Ee j (Cn Z h (λ_ h=>?_) (λ_ h=>?_)))
 .refine Gc 8 Z ?_;obtain rfl:=Oi h;refine R2 6 7 Z Z ?_;refine En (Er (s:=6) (k:=1) (t:=3) (XQ Z) Z) ?_;exact Lr [2]
 refine Gc 9 Z (Cn Z h (λ_ h=>?_) (λ_ h=>?_))
 .exact au h
 refine Gc 7 Z (Cb h Kc Z (lo (ls ln)) λad ab h=>Go 6 Z (vH (Ek (xs:=[]) (es:=map eI []) QG Z Z Z Z Z trivial Z Z) ?_));refine Fg 2 Z Z (Bd h λae q h=>?_);refine vV (QP (l:=y) q EB EC (.inl ⟨Z,Z⟩) (.inr ⟨_,Z,Z⟩)) ?_;refine Bd h λaf J h=>vH (Qj (e:=eI) J QG EB (LV (b:=1) q)) ?_;refine Fg 9 Z Z (Bd h λf X h=>Cg f [1,2] [10,11] (λf=>[(12,.o 1 (AI f) 1)]) (λf=>[(1,.r 3 1 (map eI f))]) Zf ?_ ?_)
 .refine G0 1 Z (Lp [0,1,3] [2,9,10,11] (λg=>[(12,.o 2 (AI g.1) 1),(13,I g.2)]) (λg=>[(2,.r 3 1 (map eI g.1))]) X Zf (Lr [0,1,3]) λg ag d L=>?_);refine G0 8 Z (Q5 Z d (λ_ d=>?_) (λ_ d=>?_))
  .exact Gc 2 Z (QF d (Gx 1 Z (DX L d (Lr [1,2]))))
  refine Gc 8 Z (vH (Ek (xs:=[.tmp 68]) (es:=map eI [Y.Am]) QG Z Z Z Z Z ⟨Z,trivial⟩ Z Z) ?_);refine FE Z (Bd d λah N d=>vH (Qj (e:=eI) N QG EB (QE (i:=3))) ?_);exact au d
 refine Gc 5 Z (Bd h λai x h=>?_);refine vV (QP (l:=y) x EB EC (.inr ⟨_,Z,Z⟩) (.inl ⟨Z,Z⟩)) ?_;refine Bd h λaj O h=>vH (Qj (e:=eI) O QG EB (LV (b:=0) x)) ?_;exact au h
def Pi(d:CA)(q:CD)(g:AO)(t:Int)(x:AA CL)(y:AA Ac):AB Bool:=AH (AH (K7 n d) λB=>(bif (!B)then AC AE else(bif 8<(AI d.Ar:Int) then AC AE else AH (Ot n q) λh=>(bif (!h)then AC AE else(bif 4<(AI x:Int) then AC AE else AC (AG (6<(AI y:Int))))))):AB Bool) λE=>(bif E then AC AD else AH ((bif g.AN<0 then AC AE else AC (AG ((AI d.AP:Int)<=g.AN))):AB Bool) λj=>(bif j then AC AE else AH (Oa n d g.AN t) λf=>AH ((bif (f.2 != 0)then AC AE else AC (AG ((AI f.1:Int)<=8))):AB Bool) λm=>AC m))
instance jb(d:CA)(f:CD)(g:AO)(h:Int)(j:AA CL)(m:AA Ac):Ks (Pi n d f g h j m) 30 [.a (CA.c d),.a (CD.c f),.a (AO.c g),I h,.q 5 (map CL.c j),.q 4 (map Ac.c m)] [] (λr=>.b r):=KA func30
def U1(n:Nat)(x:Int)(f:AA CH)(d:(AA Ac)×Int):AB (CF ((AA Ac)×Int) (AA Ac)):=(bif d.2<(AI f:Int) then AH (AH (CI f d.2) λg=>(bif (g.AX==5)then AH (CI f d.2) λh=>AC (h.Ac.BT==x)else AC AD):AB Bool) λj=>AH ((bif j then AH (CI f d.2) λm=>AH (app d.1 [m.Ac]) λq=>AC q else AC d.1):AB (AA Ac)) λt=>AC (.k (t,i64.wrap (d.2+1)))else AC (.d d.1))
def VS(x:CA)(y:AA CH)(B:Int)(g:(AA CC)×(AA (AA Int))×Int)(h:(AA AO)×Int)(f:Int):AB (CF Int (CF Unit ((AA CC)×(AA (AA Int))×Int×Int×Int×Int×Int×Int×Int×Int×(AA CL)×(AA Ac)×(AA CE)×Bool))):=(bif f<(AI h.1:Int) then AH (AH (CI h.1 f) λE=>(bif (E.BT != B)then AC (.k ())else AH (CI h.1 f) λd=>AH (CI h.1 f) λF=>AH (Pw n x y F.BB) λm=>AH (Py n x y B) λq=>AH (Kl n y) λG=>AH (iter (U1 n B G) n ([],0):AB (AA Ac)) λt=>AH (Ig n q) λH=>AH (Pi n x ({AR:=g.1,BP:=g.2.1:CD}) d H m t) λJ=>AC (.d (.d (.d (g.1,g.2.1,d.BT,d.AN,d.A2,d.BM,d.B5,d.BB,d.Bk,d.B4,m,t,q,J))))):AB (CF Unit (CF Int (CF Unit ((AA CC)×(AA (AA Int))×Int×Int×Int×Int×Int×Int×Int×Int×(AA CL)×(AA Ac)×(AA CE)×Bool))))) λL=>match L with|.k j=>(AC (.k (i64.wrap (f+1))))|.d j=>AC j else AC (.d (.k ())))
def Pt(f:CA)(g:AA CH)(y:Int):AB ((AA CC)×(AA (AA Int))×Int×Int×Int×Int×Int×Int×Int×Int×(AA CL)×(AA Ac)×(AA CE)×Bool):=AH (AH (K7 n f) λB=>(bif (!B)then AC AE else(bif 16<(AI g:Int) then AC AE else AH (HU n f) λq=>(bif (q != 0)then AC AE else AH (PP n f 10) λt=>AC (!t)))):AB Bool) λE=>(bif E then AC ([],[],0,0,0,0,0,0,0,0,[],[],[],AD)else AH (Pf n f g) λh=>AH (MV n f g) λj=>AH ((bif (h.2.2 != 0)then AC AE else AC (j.2 != 0)):AB Bool) λx=>(bif x then AC ([],[],0,0,0,0,0,0,0,0,[],[],[],AD)else AH (iter (VS n f g y h j) n 0:AB (CF Unit ((AA CC)×(AA (AA Int))×Int×Int×Int×Int×Int×Int×Int×Int×(AA CL)×(AA Ac)×(AA CE)×Bool))) λm=>match m with|.k d=>(AC ([],[],0,0,0,0,0,0,0,0,[],[],[],AD))|.d d=>AC d))
instance jm(N:CA)(a2:AA CH)(a3:Int):Kq (Pt n N a2 a3) 7 [.a (CA.c N),.q 57 (map CH.c a2),I a3] [] (λr=>.t [.a [.q 3 (map CC.c r.1),.q 1 (map (Qu 1 eI) r.2.1),I r.2.2.1,I r.2.2.2.1,I r.2.2.2.2.1,I r.2.2.2.2.2.1,I r.2.2.2.2.2.2.1,I r.2.2.2.2.2.2.2.1,I r.2.2.2.2.2.2.2.2.1,I r.2.2.2.2.2.2.2.2.2.1,.q 5 (map CL.c r.2.2.2.2.2.2.2.2.2.2.1),.o 0 (AI r.2.2.2.2.2.2.2.2.2.2.2.1) 4,.q 4 (map CE.c r.2.2.2.2.2.2.2.2.2.2.2.2.1)],.b r.2.2.2.2.2.2.2.2.2.2.2.2.2]) (λr=>[.r 104 4 (map Ac.c r.2.2.2.2.2.2.2.2.2.2.2.1),.c 46 [.q 3 (map CC.c r.1),.q 1 (map (Qu 1 eI) r.2.1),I r.2.2.1,I r.2.2.2.1,I r.2.2.2.2.1,I r.2.2.2.2.2.1,I r.2.2.2.2.2.2.1,I r.2.2.2.2.2.2.2.1,I r.2.2.2.2.2.2.2.2.1,I r.2.2.2.2.2.2.2.2.2.1,.q 5 (map CL.c r.2.2.2.2.2.2.2.2.2.2.1),.o 0 (AI r.2.2.2.2.2.2.2.2.2.2.2.1) 4,.q 4 (map CE.c r.2.2.2.2.2.2.2.2.2.2.2.2.1)]]):=by
 refine Kg 9 func7 Z Z Z Z λr h=>Bd h λb7 h8 h=>Ct b7 [0,1] [1,2,3,6] (λb7=>[(33,.b b7)]) Ze Zf ?_ (λenv H O=>?_)
 .exact au h8
 refine Gx 1 Z (Ee O (Cn Z h (λ_ h=>?_) (λ_ h=>?_)))
 .refine Gc 9 Z ?_;obtain rfl:=Oi h;refine⟨[(6,.p 1 0),(7,.b AD)],[.r 104 4 (map Ac.c ([]:AA Ac)),.c 46 [.q 3 (map CC.c ([]:AA CC)),.q 1 (map (Qu 1 eI) ([]:AA (AA Int))),I 0,I 0,I 0,I 0,I 0,I 0,I 0,I 0,.q 5 (map CL.c ([]:AA CL)),.o 0 (AI ([]:AA Ac)) 4,.q 4 (map CE.c ([]:AA CE))]],_,?_,QJ Z Z (C5.cons (Yk isAgg46 sizeOf46 Z Z Z) (C5.cons D2.tmp C5.nil)),Z,Z⟩;refine En (Ye (i:=1) (m:=11) (t:=104) (k:=4) Z Z Z) ?_;exact Lr [2,1]
 refine Gc 6 Z (Cd [] h Kc Z λj bk h=>Fg 12 Z Z (Cd [] h Kc Z λL bl h=>Fg 9 Z Z (Bd h λag bd h=>Ct ag [0,1,3,4] [1,2,3,6,8,10] (λag=>[(52,.b ag)]) Ze Zf ?_ (λenv H O=>?_))))
 .exact au bd
 refine Gx 1 Z (Ee O (Cn Z h (λ_ h=>?_) (λ_ h=>?_)))
 .refine Gc 9 Z ?_;obtain rfl:=Oi h;refine⟨[(6,.p 1 0),(7,.b AD)],[.r 104 4 (map Ac.c ([]:AA Ac)),.c 46 [.q 3 (map CC.c ([]:AA CC)),.q 1 (map (Qu 1 eI) ([]:AA (AA Int))),I 0,I 0,I 0,I 0,I 0,I 0,I 0,I 0,.q 5 (map CL.c ([]:AA CL)),.o 0 (AI ([]:AA Ac)) 4,.q 4 (map CE.c ([]:AA CE))]],_,?_,QJ Z Z (C5.cons (Yk isAgg46 sizeOf46 Z Z Z) (C5.cons D2.tmp C5.nil)),Z,Z⟩;refine En (Ye (i:=1) (m:=11) (t:=104) (k:=4) Z Z Z) ?_;exact Lr [4,1]
 refine Gc 8 Z (Bd h λav aw h=>D4 (b:=av) [1] [6] Ze Ze Zf ?_ (λ_ be=>?_))
 .refine G0 1 Z (Lp [0,1,2,3] [1,2,3,6,8,10] (λq=>[(12,I q)]) Ze aw Zf (Lr [0,1,2,3]) λq bm J Y=>?_);refine G0 9 Z (Q5 Z J (λ_ J=>?_) (λ_ J=>?_))
  .exact Je Y J
  refine Gc 3 Z (Bd J λax g J=>D4 (b:=ax) [0,1,2,3] [1,2,3,6,8,10,12] Ze Ze Zf ?_ (λ_ hb=>?_))
  .refine G0 6 Z (Bd g λay aa g=>?_);refine vX (.p 3 (toNat q*8)) (Qd aa Z EJ EO) ?_;refine Fp lT Z ?_;refine vX (I ay.BT) (Ez Z EF Z (Qh aa)) ?_;refine Go 4 Z (Cn Z g (λ_ g=>?_) (λ_ g=>?_))
   .refine Gc 3 Z ?_;cases g;exact KR Z (Lr [0,1,2,3])
   refine Gc 3 Z ?_;obtain⟨d,y,g⟩:=Qw g;obtain⟨V,M,g⟩:=Qw g;obtain⟨P,ab,g⟩:=Qw g;obtain⟨Q,ac,g⟩:=Qw g;refine Yx 19 1 [67,68,69,70,71,72,73,74,75,76,77,78,79,80,81,82,83,84,13] [AD,AD,AD,AD,AD,AD,AD,AD,AD,AD,AD,AD,AE,AD,AD,AD,AE,AD,AE] [[],[],[],[],[],[],[],[],[],[],[],[],[],[],[],[],[12],[12,16],[]] [[],[12],[18],[12,16],[12,18],[12,16,18]] [[(0,0),(1,1),(2,2),(3,3),(4,4),(5,5)],[(0,0),(1,1),(2,2),(3,3),(4,4),(5,5)],[(0,0),(1,1),(2,2),(3,3),(4,4),(5,5)],[(0,0),(1,1),(2,2),(3,3),(4,4),(5,5)],[(0,0),(1,1),(2,2),(3,3),(4,4),(5,5)],[(0,0),(2,2)],[(0,0),(2,2)],[(0,0),(2,2)],[(0,0),(2,2)],[(0,0),(2,2)],[(0,0),(2,2)],[(0,0),(2,2)],[(0,1),(2,4)],[(0,0),(1,1),(2,2),(4,4)],[(0,0),(1,1),(2,2),(4,4)],[(0,0),(1,1),(2,2),(4,4)],[(1,3),(4,5)],[(3,3),(5,5)],[(0,2),(1,4),(3,5)]] [.a [.q 3 (map CC.c j.1),.q 1 (map (Qu 1 eI) j.2.1)],.o 3 (AI L.1) 8,I q,.p 3 (toNat q*8),.a (AO.c d),.a (CA.c N),.q 57 (map CH.c a2),.o 3 (AI L.1) 8,I q,.p 3 (toNat q*8),.p 3 (toNat q*8+5),I V.BB,.q 5 (map CL.c P),.a (CA.c N),.q 57 (map CH.c a2),I a3,.q 4 (map CE.c Q),.a [.q 3 (map CC.c j.1),.q 1 (map (Qu 1 eI) j.2.1),I d.BT,I d.AN,I d.A2,I d.BM,I d.B5,I d.BB,I d.Bk,I d.B4,.q 5 (map CL.c P),.n,.q 4 (map CE.c Q)],.p 4 0] [[.c 33 (CA.c N),.c 46 (CV.c Ca),.c 39 [.q 3 (map CC.c j.1),.q 1 (map (Qu 1 eI) j.2.1)],.r 41 8 (map AO.c L.1),.dead],[.c 33 (CA.c N),.c 46 (CV.c Ca),.c 39 [.q 3 (map CC.c j.1),.q 1 (map (Qu 1 eI) j.2.1)],.r 41 8 (map AO.c L.1),.dead,.dead],[.c 33 (CA.c N),.c 46 (CV.c Ca),.c 39 [.q 3 (map CC.c j.1),.q 1 (map (Qu 1 eI) j.2.1)],.r 41 8 (map AO.c L.1),.c 46 [.q 3 (map CC.c []),.q 1 (map (Qu 1 eI) []),I 0,I 0,I 0,I 0,I 0,I 0,I 0,I 0,.q 5 (map CL.c []),.n,.q 4 (map CE.c [])]],[.c 33 (CA.c N),.c 46 (CV.c Ca),.c 39 [.q 3 (map CC.c j.1),.q 1 (map (Qu 1 eI) j.2.1)],.r 41 8 (map AO.c L.1),.dead,.dead,.dead],[.c 33 (CA.c N),.c 46 (CV.c Ca),.c 39 [.q 3 (map CC.c j.1),.q 1 (map (Qu 1 eI) j.2.1)],.r 41 8 (map AO.c L.1),.c 46 [.q 3 (map CC.c []),.q 1 (map (Qu 1 eI) []),I 0,I 0,I 0,I 0,I 0,I 0,I 0,I 0,.q 5 (map CL.c []),.n,.q 4 (map CE.c [])],.dead],[.c 33 (CA.c N),.c 46 (CV.c Ca),.c 39 [.q 3 (map CC.c j.1),.q 1 (map (Qu 1 eI) j.2.1)],.r 41 8 (map AO.c L.1),.c 46 [.q 3 (map CC.c []),.q 1 (map (Qu 1 eI) []),I 0,I 0,I 0,I 0,I 0,I 0,I 0,I 0,.q 5 (map CL.c []),.n,.q 4 (map CE.c [])],.dead,.dead]] ([.c 33 (CA.c N),.c 46 (CV.c Ca),.c 39 [.q 3 (map CC.c j.1),.q 1 (map (Qu 1 eI) j.2.1)],.r 41 8 (map AO.c L.1),.c 46 [.q 3 (map CC.c []),.q 1 (map (Qu 1 eI) []),I 0,I 0,I 0,I 0,I 0,I 0,I 0,I 0,.q 5 (map CL.c []),.n,.q 4 (map CE.c [])],.dead,.dead]) DD Z Z Z Z Z Z Z ?_ Z ?_
   .refine M1 (M1 (M1 (Co.cons ?_ (Co.cons ?_ (M1 (M1 (M1 (M1 (Co.cons ?_ (Co.cons ?_ (Co.cons ?_ (Co.cons ?_ (M1 (M1 (M1 (Co.cons ?_ (M1 (Co.cons ?_ (Co.nil)))))))))))))))))))
    .refine Qb ?_ (Qb ?_ (Qb ?_ (Qb ?_ (Qb ?_ (Qb ?_ (Qg))))))
     iterate 6 refine Om Z (sD 1 (sD 2 sN)) ?_;refine vX (.p 3 (toNat q*8)) (Qd y Z EJ EO) ?_;exact Wp
    .refine Qb ?_ (Qb ?_ (Qb ?_ (Qb ?_ (Qb ?_ (Qb ?_ (Qg))))))
     iterate 6 refine Om Z (sD 3 sN) ?_;refine vX (.a (AO.c d)) (Qt Z GL EO Z (Qh y) Z Z) ?_;exact Wp
    .refine Qb ?_ (Qb ?_ (Qg))
     iterate 2 refine Om Z (sD 7 (sD 8 sN)) ?_;refine vX (.p 3 (toNat q*8)) (Qd M Z EJ EO) ?_;exact Wp
    .refine Qb ?_ (Qb ?_ (Qg))
     iterate 2 refine Om Z (sD 9 sN) ?_;exact Fp mV Z Wp
    .refine Qb ?_ (Qb ?_ (Qg))
     iterate 2 refine Om Z (sD 10 sN) ?_;refine vX (I V.BB) (Ez Z EF Z (Qm (f:=5) M)) ?_;exact Wp
    .refine Qb ?_ (Qb ?_ (Qg))
     iterate 2 refine F7 Z (sD 5 (sD 6 (sD 11 sN))) ?_;refine Qf [] (C6.fn call27 Z Z Z) ((jq _ _ _ _).c _ ab) ?_;rintro _ _ ⟨rfl,rfl⟩;refine FE Z ?_;refine Et (Ym [(79,_)] Z Z (Cx.cons Z Ep Cx.nil) (Ec (Ec (Ec (Ec (Ec (Ec (QQ _)))))))) ?_;refine Et S5 ?_;exact Wp
    .refine Qb ?_ (Qb ?_ (Qg))
     iterate 2 refine F7 Z (sD 13 (sD 14 (sD 15 sN))) ?_;refine Qf [] (C6.fn call28 Z Z Z) ((ju _ _ _ _).c _ ac) ?_;rintro _ _ ⟨rfl,rfl⟩;refine FE Z ?_;refine Et (Ym [(83,_)] Z Z (Cx.cons Z Ep Cx.nil) (Ec (Ec (Ec (Ec (Ec (Ec (Ec (QQ _))))))))) ?_;refine Et S5 ?_;exact Wp
    .refine Qb ?_ (Qb ?_ (Qb ?_ (Qg)))
     iterate 3 exact Jn.alloc _ 13 46 4 _ Z Z Z Z Z Z Z (I5.alloc (v:=(.a [.q 3 (map CC.c []),.q 1 (map (Qu 1 eI) []),I 0,I 0,I 0,I 0,I 0,I 0,I 0,I 0,.q 5 (map CL.c []),.n,.q 4 (map CE.c [])])) zeroValue46 (Fu Z)) Z
   refine Go 6 Z (Cd [] g Kc Z λbn bi g=>Fg 9 Z Z (Bd g λR az g=>Cg R [0,1,2,3,4] [3,6,8] (λ_=>[(13,.p 3 0)]) (λR=>[(3,.c 46 [.q 3 (map CC.c j.1),.q 1 (map (Qu 1 eI) j.2.1),I d.BT,I d.AN,I d.A2,I d.BM,I d.B5,I d.BB,I d.Bk,I d.B4,.q 5 (map CL.c P),.o 4 (AI R) 4,.q 4 (map CE.c Q)]),(4,.r 104 4 (map Ac.c R))]) Zf ?_ ?_))
   .refine G0 1 Z (Lp [0,1,2,4,0,7] [2,3,6,8,13,14] (λE=>[(15,I E.2)]) (λE=>[(3,.c 46 [.q 3 (map CC.c j.1),.q 1 (map (Qu 1 eI) j.2.1),I d.BT,I d.AN,I d.A2,I d.BM,I d.B5,I d.BB,I d.Bk,I d.B4,.q 5 (map CL.c P),.o 4 (AI E.1) 4,.q 4 (map CE.c Q)]),(4,.r 104 4 (map Ac.c E.1))]) az Zf ?_ ?_)
    .refine En (Ye (i:=4) (m:=11) (t:=104) (k:=4) Z Z Z) ?_;exact Lr [0,1,2,4,8,7]
    intro E bo B aj;refine G0 9 Z (Q5 Z B (λ_ B=>?_) (λ_ B=>?_))
    .exact Gc 2 Z (QF B (Gx 1 Z (DX aj B (Lr [0,1,2,3,4]))))
    refine Gc 5 Z (Bd B λW F B=>Ct W [0,1,2,3,4,5] [2,3,6,8,13,14,15] (λW=>[(108,.b W)]) Ze Zf ?_ (λenv H O=>?_))
    .refine G0 3 Z (Bd F λba ad F=>?_);refine vX (.p 5 (toNat E.2*57)) (Qd ad Z EE EH) ?_;refine Fp S7 Z ?_;refine vX (I ba.AX) (Ez Z EF Z (Qm (f:=3) ad)) ?_;refine Go 2 Z (Is 99 F Z (λ_ F=>?_) (λ_ F=>?_))
     .refine Go 2 Z (Bd F λbb ae F=>?_);refine vX (.p 5 (toNat E.2*57)) (Qd ae Z EE EH) ?_ (gT Z);refine HJ (gT Z) sb Z (HJ (gT Z) QoJ Z ?_);refine vX (I bb.Ac.BT) (Ez Z EF Z (Qm (f:=29) ae)) ?_ (gT Z);exact au F
     exact au F
    refine Gx 1 Z (Ee O (Bd B λT G B=>Ct T [0,1,2,3,0,5] [2,3,6,8,13,14,15] Ze (λT=>[(3,.c 46 [.q 3 (map CC.c j.1),.q 1 (map (Qu 1 eI) j.2.1),I d.BT,I d.AN,I d.A2,I d.BM,I d.B5,I d.BB,I d.Bk,I d.B4,.q 5 (map CL.c P),.o 4 (AI T) 4,.q 4 (map CE.c Q)]),(4,.r 104 4 (map Ac.c T))]) Zf ?_ (λenv H O=>?_)))
    .refine G0 0 Z (Cn Z G (λ_ G=>?_) (λ_ G=>?_))
     .refine DP 8 Z (D 4 Z ?_);obtain⟨X,af,G⟩:=Qw G;refine DS.v (x:=(.p 5 (toNat E.2*57))) (Qd af Z EE EH) ?_;refine DS.wo (x:=.p 5 (toNat E.2*57+29)) ?_ ?_
      .exact Fp sb Z Wp
      refine DS.v (x:=(.a (Ac.c X.Ac))) (Qt Z isAgg104 G2 Z (Qm (f:=29) af) Z Z) ?_;refine DS.wo (x:=.q 4 (map Ac.c [X.Ac])) ?_ ?_
      .refine vH (QN (xs:=[.tmp 115]) (es:=map Ac.c [X.Ac]) pG Z Z Z Z Z ⟨Z,trivial⟩ Z Z) ?_;exact FE Z Wp
      refine Eg Z (Bd G λbp an G=>vH (Qj (e:=Ac.c) an pG runUnderlying43 L9) ?_);exact au G
     exact au G
    exact Gx 2 Z (Ee O (Gc 5 Z (QZ B (Lr [0,1,2,3,4,5]))))
   refine Gc 1 Z (DP 13 Z (D 7 Z ?_));refine Dz [] g Kc Z λbq bj g=>D 4 Z ?_;obtain⟨bc,ao,g⟩:=Qw g;refine DS.wo (x:=.b bc) ?_ ?_
   .refine Zk (C6.fn call30 rfl rfl rfl) (Dw.cons rfl (.inl ⟨rfl,rfl⟩) (Dw.cons rfl (.inl ⟨rfl,rfl⟩) (Dw.cons rfl (.inl ⟨rfl,rfl⟩) (Dw.cons rfl (.inl ⟨rfl,rfl⟩) (Dw.cons rfl (.inl ⟨rfl,rfl⟩) (Dw.cons rfl (.inr ⟨_,_,_,_,_,rfl,rfl,X0 ..,rfl⟩) Dw.nil)))))) ((jb _ _ _ _ _ _ _).c _ ao) (by rintro _ _ ⟨rfl,rfl⟩;rfl) ?_;rintro _ _ ⟨rfl,rfl⟩;exact FE Z Wp
   refine Eg Z (Go 6 Z ?_);cases g;exact DZ Y J h
  subst hb;exact au J
 subst be;refine Gc 8 Z ?_;obtain rfl:=Oi h;refine⟨[(6,.p 1 0),(7,.b AD)],[.r 104 4 (map Ac.c ([]:AA Ac)),.c 46 [.q 3 (map CC.c ([]:AA CC)),.q 1 (map (Qu 1 eI) ([]:AA (AA Int))),I 0,I 0,I 0,I 0,I 0,I 0,I 0,I 0,.q 5 (map CL.c ([]:AA CL)),.o 0 (AI ([]:AA Ac)) 4,.q 4 (map CE.c ([]:AA CE))]],_,?_,QJ Z Z (C5.cons (Yk isAgg46 sizeOf46 Z Z Z) (C5.cons D2.tmp C5.nil)),Z,Z⟩;refine En (Ye (i:=0) (m:=11) (t:=104) (k:=4) Z Z Z) ?_;exact Lr [1,0]
def Pn(f:CA)(g:CD)(m:AO)(q:Int)(h:AA CL)(t:AA Ac)(x:CU):AB Int:=AH (NF n f g m q h t) λy=>(match y with|.c0 j=>((bif (j != 0)then AC j else AF))|.c1 d=>(AH (Ii n x f g d.1 d.2.1 h d.2.2.1 d.2.2.2.2 d.2.2.2.1 f g) λB=>(bif (!B)then AC 190 else AC 0)))
instance je(d:CA)(g:CD)(j:AO)(y:Int)(q:AA CL)(B:AA Ac)(t:CU):Ks (Pn n d g j y q B t) 62 [.a (CA.c d),.a (CD.c g),.a (AO.c j),I y,.q 5 (map CL.c q),.q 4 (map Ac.c B),.a (CU.c t)] [] (λr=>I r):=by
 refine Kg 17 func62 Z Z Z Z λr h=>Bd h λJ E h=>?_;refine Qf [] (C6.fn call35 Z Z Z) (jT _ _ _ _ _ _ _ _ E) ?_;intro ra rH F;rcases J with M|f
 .obtain⟨rfl,rfl⟩:=F;refine Fg 14 Z Z (Cn Z h (λ_ h=>?_) (λ_ h=>?_))
  .exact L' 8 Z h 14 []
  refine Gc 4 Z ?_;cases h
 .obtain⟨rfl,rfl⟩:=F;refine aV (.t [.p 4 0,I 0]) [.c 33 (CA.c d),.c 39 (CD.c g),.c 41 (AO.c j),.c 75 (CU.c t),.c 136 [.str d.Ao,.q 2 (map Al.c d.Ar),.q 4 (map Cp.c d.Az),.q 5 (map AN.c d.AP),.q 2 (map A2.c d.A0),.q 4 (map AZ.c d.Ab),.q 3 (map AW.c d.AV),.q 4 (map CQ.c d.Ay),.q 8 (map AY.enc d.BN),I d.AQ.A8,I d.AQ.A6,I d.AQ.A5,I d.AQ.Ak,I d.AQ.BC,I d.Bj,I d.Av,.q 3 (map CC.c g.AR),.q 1 (map (Qu 1 eI) g.BP),.q 1 (map eI f.1),.o 5 (AI f.2.1) 2,.q 5 (map CL.c q),.o 6 (AI f.2.2.1) 3,.map 7,.fn (.func 95) [] [.p 8 0,.p 9 0,.p 10 0],I f.2.2.2.2],.r 83 2 (map CJ.c f.2.1),.r 145 3 (map Ue.c f.2.2.1),.map (Qo I (λx=>A.a (Ue.c x)) f.2.2.2.1),.c 128 [.p 4 0],.c 33 (CA.c d),.c 39 (CD.c g)] Z Z ?_;refine Go 11 Z ?_;refine vX (.b AD) (CS.neq (m:=0) (n:=0) Z Z Z) ?_;refine Go 10 Z ?_;refine Et (Ym (i:=5) [] Z Z Cx.nil (Ec (Ec (Ec (Ec (Dg.cells (CN.k (CN.k (CN.k (CN.k (CN.k (CN.k (CN.k (CN.k (CN.k (CN.k (CN.k (CN.k (CN.k (CN.k (CN.k (CN.k (CN.k (CN.k (CN.k (Ed Ep (Ej _))))))))))))))))))))) (Ec (QQ _)))))))) ?_;refine Et (Ym (i:=6) [] Z Z Cx.nil (Ec (Ec (Ec (Ec (Dg.cells (CN.k (CN.k (CN.k (CN.k (CN.k (CN.k (CN.k (CN.k (CN.k (CN.k (CN.k (CN.k (CN.k (CN.k (CN.k (CN.k (CN.k (CN.k (CN.k (CN.k (CN.k (Ed Ep (Ej _))))))))))))))))))))))) (Ec (Ec (QQ _))))))))) ?_;refine Cz [4,7,8,9,10] h (kA _ _ _ _ _ _ _ _ _ _ _ _).c Z λN L h=>Go 3 Z (Cn Z h (λ_ h=>?_) (λ_ h=>?_))
  .exact L' 7 Z h 14 []
  exact L' 8 Z h 14 []
def Pm(f:CA)(g:CD)(h:AO)(j:AA CL)(m:AA Ac)(y:AA CE)(q:CU)(B:Int):AB ((AA CB)×Int):=AH (Mp n f g h j m y B) λt=>AH (Pn n f g h t.BV j m q) λx=>(bif (x != 0)then AC ([],x)else AH (IH n t) λd=>(bif (d.2 != 0)then AC ([],d.2)else AH (J8 n d.1 q) λE=>AC (E,0)))
instance jd(d:CA)(f:CD)(g:AO)(j:AA CL)(m:AA Ac)(q:AA CE)(x:CU)(y:Int):Kq (Pm n d f g j m q x y) 16 [.a (CA.c d),.a (CD.c f),.a (AO.c g),.q 5 (map CL.c j),.q 4 (map Ac.c m),.q 4 (map CE.c q),.a (CU.c x),I y] [] (λr=>.t [.o 0 (AI r.1) 4,I r.2]) (λr=>[.r 77 4 (map CB.c r.1)]):=by
 refine Kg 19 func16 Z Z Z Z λr h=>Cd [] h (jw _ _ _ _ _ _ _ _).c Z λL F h=>Fg 15 Z Z (Cz [] h (je _ _ _ _ _ _ _ _).c Z λM G h=>Go 9 Z (Cn Z h (λ_ h=>?_) (λ_ h=>?_)))
 .refine Gc 9 Z ?_;obtain rfl:=Oi h;refine R2 16 17 Z Z ?_;refine En (Er (s:=16) (k:=4) (t:=77) (XQ Z) Z) ?_;exact Lr [6]
 refine Gc 5 Z (Cd [5] h (kB _ _).c Z λN H h=>Fg 9 Z Z (Cn Z h (λ_ h=>?_) (λ_ h=>?_)))
 .refine Gc 9 Z ?_;obtain rfl:=Oi h;refine R2 16 17 Z Z ?_;refine En (Er (s:=16) (k:=4) (t:=77) (XQ Z) Z) ?_;exact Lr [6]
 refine Gc 6 Z (Cd [] h (j7 _ _ _).c Z λO J h=>Fg 5 Z Z ?_);obtain rfl:=Oi h;exact R2 16 17 Z Z (Lr [6])
def TR(n:Nat)(h:AA CB)(g:AA CB)(f:Int)(d:Bool×Int):AB (CF (Bool×Int) Bool):=(bif d.2<(AI g:Int) then AH ((bif d.1 then AC AE else AH (CI h f) λj=>(bif j.A' then AH (CI g d.2) λm=>(bif m.A' then AC AE else AH (CI h f) λq=>(bif (!q.A')then AH (CI g d.2) λt=>(bif (!t.A')then AH (CI h f) λx=>AH (CI g d.2) λy=>(bif (x.A_==y.A_)then AH (CI g d.2) λB=>AH (CI h f) λE=>(bif B.Lo<=E.Lo then AH (CI h f) λF=>AH (CI g d.2) λG=>AC (AG (F.Hi<=G.Hi))else AC AD)else AC AD)else AC AD)else AC AD))else AH (CI h f) λH=>(bif (!H.A')then AH (CI g d.2) λJ=>(bif (!J.A')then AH (CI h f) λL=>AH (CI g d.2) λM=>(bif (L.A_==M.A_)then AH (CI g d.2) λN=>AH (CI h f) λO=>(bif N.Lo<=O.Lo then AH (CI h f) λP=>AH (CI g d.2) λQ=>AC (AG (P.Hi<=Q.Hi))else AC AD)else AC AD)else AC AD)else AC AD))):AB Bool) λR=>AC (.k (R,i64.wrap (d.2+1)))else AC (.d d.1))
def V0(g:AA CB)(h:AA CB)(d:Int):AB (CF Int (CF Unit Bool)):=(bif d<(AI g:Int) then AH (iter (TR n g h d) n (AD,0):AB Bool) λf=>(bif (!f)then AC (.d (.d AD))else AC (.k (i64.wrap (d+1))))else AC (.d (.k ())))
def Ps(g:AA CB)(h:AA CB):AB Bool:=AH (iter (V0 n g h) n 0:AB (CF Unit Bool)) λf=>match f with|.k d=>(AC AE)|.d d=>AC d
instance jl(j:AA CB)(m:AA CB):Ks (Ps n j m) 17 [.q 4 (map CB.c j),.q 4 (map CB.c m)] [] (λr=>.b r):=by
 refine Kg 11 func17 Z Z Z Z λr h=>Bd h λbp bq h=>D4 (b:=bp) [] [] Ze Ze Zf ?_ (λ_ bs=>?_)
 .refine G0 1 Z (Lp [] [0,1] (λac=>[(5,I ac)]) Ze bq Zf (Lr []) λac bw f ab=>?_);refine G0 5 Z (Lg 3 Z Z (Q5 Z f (λ_ f=>?_) (λ_ f=>?_)))
  .exact Gc 2 Z (QF f (Gx 1 Z (c5 ab f Z (Lr []))))
  refine Gc 15 Z (Bd f λX br f=>Cg X [] [0,1,5] (λX=>[(6,.b X)]) Ze Zf ?_ ?_)
  .refine G0 1 Z (Lp [] [0,1,5] (λY=>[(6,.b Y.1),(7,I Y.2)]) Ze br Zf (Lr []) λY bx g ae=>?_);refine G0 5 Z (Lg 3 Z Z (Q5 Z g (λ_ g=>?_) (λ_ g=>?_)))
   .exact Gc 2 Z (QF g (Gx 1 Z (DX ae g (Lr []))))
   refine Gc 4 Z (Bd g λaa d g=>Ct aa [] [0,1,5,7] (λaa=>[(6,.b aa)]) Ze Zf ?_ (λenv H bu=>?_))
   .refine G0 0 Z (DP 67 Z (D 2 Z (DS.is 1 d Z Z Z (λ_ d=>?_) (λ_ d=>?_))))
    .exact D 65 Z (Eg Z (Gl 5 Z d []))
    .refine D 2 Z ?_;obtain⟨q,ah,d⟩:=Qw d;refine DS.v (x:=(.rp [.b q.A',I q.A_,I q.Lo,I q.Hi])) (QV (e:=CB.c) (l:=j) (v:=q) ah ED EG) ?_ (hg:=(gT Z));refine D 3 Z (DS.is 7 d Z Z Z (λ_ d=>?_) (λ_ d=>?_))
     .refine D 2 Z ?_;obtain⟨t,aj,d⟩:=Qw d;refine DS.v (x:=(.rp [.b t.A',I t.A_,I t.Lo,I t.Hi])) (QV (e:=CB.c) (l:=m) (v:=t) aj ED EG) ?_ (hg:=(gT Z));refine D 5 Z (DS.is 15 d Z Z Z (λ_ d=>?_) (λ_ d=>?_))
      .exact D 51 Z (Eg Z (Gl 5 Z d []))
      .refine D 2 Z ?_;obtain⟨y,al,d⟩:=Qw d;refine DS.v (x:=(.rp [.b y.A',I y.A_,I y.Lo,I y.Hi])) (QV (e:=CB.c) (l:=j) (v:=y) al ED EG) ?_ (hg:=(gT Z));refine D 4 Z (DS.is 22 d Z Z Z (λ_ d=>?_) (λ_ d=>?_))
       .refine D 2 Z ?_;obtain⟨B,an,d⟩:=Qw d;refine DS.v (x:=(.rp [.b B.A',I B.A_,I B.Lo,I B.Hi])) (QV (e:=CB.c) (l:=m) (v:=B) an ED EG) ?_ (hg:=(gT Z));refine D 5 Z (DS.is 30 d Z Z Z (λ_ d=>?_) (λ_ d=>?_))
        .refine D 2 Z ?_;obtain⟨E,aq,d⟩:=Qw d;refine DS.v (x:=(.rp [.b E.A',I E.A_,I E.Lo,I E.Hi])) (QV (e:=CB.c) (l:=j) (v:=E) aq ED EG) ?_ (hg:=(gT Z));refine D 4 Z ?_;obtain⟨F,ar,d⟩:=Qw d;refine DS.v (x:=(.rp [.b F.A',I F.A_,I F.Lo,I F.Hi])) (QV (e:=CB.c) (l:=m) (v:=F) ar ED EG) ?_ (hg:=(gT Z));refine D 5 Z (DS.is 43 d Z Z Z (λ_ d=>?_) (λ_ d=>?_))
         .refine D 2 Z ?_;obtain⟨G,aw,d⟩:=Qw d;refine DS.v (x:=(.rp [.b G.A',I G.A_,I G.Lo,I G.Hi])) (QV (e:=CB.c) (l:=m) (v:=G) aw ED EG) ?_ (hg:=(gT Z));refine D 4 Z ?_;obtain⟨J,ax,d⟩:=Qw d;refine DS.v (x:=(.rp [.b J.A',I J.A_,I J.Lo,I J.Hi])) (QV (e:=CB.c) (l:=j) (v:=J) ax ED EG) ?_ (hg:=(gT Z));refine D 5 Z (DS.is 56 d Z Z Z (λ_ d=>?_) (λ_ d=>?_))
          .refine D 2 Z ?_;obtain⟨L,az,d⟩:=Qw d;refine DS.v (x:=(.rp [.b L.A',I L.A_,I L.Lo,I L.Hi])) (QV (e:=CB.c) (l:=j) (v:=L) az ED EG) ?_ (hg:=(gT Z));refine D 4 Z ?_;obtain⟨M,ba,d⟩:=Qw d;refine DS.v (x:=(.rp [.b M.A',I M.A_,I M.Lo,I M.Hi])) (QV (e:=CB.c) (l:=m) (v:=M) ba ED EG) ?_ (hg:=(gT Z));exact D 2 Z (Eg Z (Gl 5 Z d []))
          .exact D 10 Z (Eg Z (Gl 5 Z d []))
         .exact D 23 Z (Eg Z (Gl 5 Z d []))
        .exact D 36 Z (Eg Z (Gl 5 Z d []))
       .exact D 44 Z (Eg Z (Gl 5 Z d []))
     .refine D 10 Z ?_;obtain⟨N,bb,d⟩:=Qw d;refine DS.v (x:=(.rp [.b N.A',I N.A_,I N.Lo,I N.Hi])) (QV (e:=CB.c) (l:=j) (v:=N) bb ED EG) ?_ (hg:=(gT Z));refine D 4 Z (DS.is 22 d Z Z Z (λ_ d=>?_) (λ_ d=>?_))
      .refine D 2 Z ?_;obtain⟨O,bd,d⟩:=Qw d;refine DS.v (x:=(.rp [.b O.A',I O.A_,I O.Lo,I O.Hi])) (QV (e:=CB.c) (l:=m) (v:=O) bd ED EG) ?_ (hg:=(gT Z));refine D 5 Z (DS.is 30 d Z Z Z (λ_ d=>?_) (λ_ d=>?_))
       .refine D 2 Z ?_;obtain⟨P,bg,d⟩:=Qw d;refine DS.v (x:=(.rp [.b P.A',I P.A_,I P.Lo,I P.Hi])) (QV (e:=CB.c) (l:=j) (v:=P) bg ED EG) ?_ (hg:=(gT Z));refine D 4 Z ?_;obtain⟨Q,bh,d⟩:=Qw d;refine DS.v (x:=(.rp [.b Q.A',I Q.A_,I Q.Lo,I Q.Hi])) (QV (e:=CB.c) (l:=m) (v:=Q) bh ED EG) ?_ (hg:=(gT Z));refine D 5 Z (DS.is 43 d Z Z Z (λ_ d=>?_) (λ_ d=>?_))
        .refine D 2 Z ?_;obtain⟨R,bj,d⟩:=Qw d;refine DS.v (x:=(.rp [.b R.A',I R.A_,I R.Lo,I R.Hi])) (QV (e:=CB.c) (l:=m) (v:=R) bj ED EG) ?_ (hg:=(gT Z));refine D 4 Z ?_;obtain⟨T,bk,d⟩:=Qw d;refine DS.v (x:=(.rp [.b T.A',I T.A_,I T.Lo,I T.Hi])) (QV (e:=CB.c) (l:=j) (v:=T) bk ED EG) ?_ (hg:=(gT Z));refine D 5 Z (DS.is 56 d Z Z Z (λ_ d=>?_) (λ_ d=>?_))
         .refine D 2 Z ?_;obtain⟨V,bm,d⟩:=Qw d;refine DS.v (x:=(.rp [.b V.A',I V.A_,I V.Lo,I V.Hi])) (QV (e:=CB.c) (l:=j) (v:=V) bm ED EG) ?_ (hg:=(gT Z));refine D 4 Z ?_;obtain⟨W,bn,d⟩:=Qw d;refine DS.v (x:=(.rp [.b W.A',I W.A_,I W.Lo,I W.Hi])) (QV (e:=CB.c) (l:=m) (v:=W) bn ED EG) ?_ (hg:=(gT Z));exact D 2 Z (Eg Z (Gl 5 Z d []))
         .exact D 10 Z (Eg Z (Gl 5 Z d []))
        .exact D 23 Z (Eg Z (Gl 5 Z d []))
       .exact D 36 Z (Eg Z (Gl 5 Z d []))
      .exact D 44 Z (Eg Z (Gl 5 Z d []))
   exact Gx 2 Z (Ee bu (Gc 5 Z (QZ g (Lr []))))
  refine Gc 6 Z (Cn Z f (λ_ f=>?_) (λ_ f=>?_))
  .refine Gc 8 Z (IN f ?_);obtain rfl:=Oj ab f;exact Gx 1 Z (LT (Gx 1 Z (Rt h 4 [])))
  exact Gc 8 Z (QZ f (Lr []))
 subst bs;exact L' 6 Z h 4 []
def ey(x:CA)(y:Int)(d:(AA CC)×(AA (AA Int))×Int×Int×Int×Int×Int×Int×Int×Int×(AA CL)×(AA Ac)×(AA CE)×Bool)(B:(AA CB)×Int)(h:(AA CU)×Int)(f:(AA CB)×Int):AB (CF ((AA CB)×Int) (CF (AA CB) Bool)):=(bif f.2<(AI h.1:Int) then AH (CI h.1 f.2) λj=>AH (Pm n x ({AR:=d.1,BP:=d.2.1:CD}) ({BT:=d.2.2.1,AN:=d.2.2.2.1,A2:=d.2.2.2.2.1,BM:=d.2.2.2.2.2.1,B5:=d.2.2.2.2.2.2.1,BB:=d.2.2.2.2.2.2.2.1,Bk:=d.2.2.2.2.2.2.2.2.1,B4:=d.2.2.2.2.2.2.2.2.2.1:AO}) d.2.2.2.2.2.2.2.2.2.2.1 d.2.2.2.2.2.2.2.2.2.2.2.1 d.2.2.2.2.2.2.2.2.2.2.2.2.1 j y) λg=>AH ((bif (g.2 != 0)then AC AE else(bif (AI g.1:Int)<1 then AC AE else(bif 2<(AI g.1:Int) then AC AE else AH (Ps n g.1 B.1) λm=>AC (!m)))):AB Bool) λq=>(bif q then AC (.d (.d AD))else AH (app f.1 g.1) λt=>AC (.k (t,i64.wrap (f.2+1))))else AC (.d (.k f.1)))
def TZ(n:Nat)(j:(AA CB)×Int)(f:AA CB)(g:Int)(d:Bool×Bool×Int):AB (CF (Bool×Bool×Int) (Bool×Bool)):=(bif d.2.2<(AI f:Int) then AH (AH (CI f d.2.2) λm=>AH (CI j.1 g) λq=>(bif (m.A'==q.A')then AH (CI f d.2.2) λt=>AH (CI j.1 g) λx=>AC (t.A_==x.A_)else AC AD):AB Bool) λh=>AH ((bif d.1 then AC AE else(bif h then AH (CI f d.2.2) λy=>AH (CI j.1 g) λB=>AC (y.Lo==B.Lo)else AC AD)):AB Bool) λE=>AH ((bif d.2.1 then AC AE else(bif h then AH (CI f d.2.2) λF=>AH (CI j.1 g) λG=>AC (F.Hi==G.Hi)else AC AD)):AB Bool) λH=>AC (.k (E,H,i64.wrap (d.2.2+1)))else AC (.d (d.1,d.2.1)))
def ei(t:(AA CC)×(AA (AA Int))×Int×Int×Int×Int×Int×Int×Int×Int×(AA CL)×(AA Ac)×(AA CE)×Bool)(g:(AA CB)×Int)(h:AA CB)(d:Int):AB (CF Int (CF Unit Bool)):=(bif d<(AI g.1:Int) then AH (iter (TZ n g h d) n (AD,AD,0):AB (Bool×Bool)) λf=>AH ((bif (!f.1)then AC AE else(bif (!f.2)then AC AE else AH (CI g.1 d) λj=>AH (KC n ({AR:=t.1,BP:=t.2.1:CD}) j) λm=>AC (m != 0))):AB Bool) λq=>(bif q then AC (.d (.d AD))else AC (.k (i64.wrap (d+1))))else AC (.d (.k ())))
def Pq(j:CA)(F:AA CH)(G:Int)(t:Int):AB Bool:=AH (Wz 300) λH=>(bif (!H)then AC AD else AH (Pt n j F G) λd=>(bif (!d.2.2.2.2.2.2.2.2.2.2.2.2.2)then AC AE else AH (KB n j ({AR:=d.1,BP:=d.2.1:CD}) ({BT:=d.2.2.1,AN:=d.2.2.2.1,A2:=d.2.2.2.2.1,BM:=d.2.2.2.2.2.1,B5:=d.2.2.2.2.2.2.1,BB:=d.2.2.2.2.2.2.2.1,Bk:=d.2.2.2.2.2.2.2.2.1,B4:=d.2.2.2.2.2.2.2.2.2.1:AO}) d.2.2.2.2.2.2.2.2.2.2.1 d.2.2.2.2.2.2.2.2.2.2.2.1 d.2.2.2.2.2.2.2.2.2.2.2.2.1 t) λh=>AH (Ig n d.2.2.2.2.2.2.2.2.2.2.2.2.1) λJ=>AH (HW n j ({AR:=d.1,BP:=d.2.1:CD}) ({BT:=d.2.2.1,AN:=d.2.2.2.1,A2:=d.2.2.2.2.1,BM:=d.2.2.2.2.2.1,B5:=d.2.2.2.2.2.2.1,BB:=d.2.2.2.2.2.2.2.1,Bk:=d.2.2.2.2.2.2.2.2.1,B4:=d.2.2.2.2.2.2.2.2.2.1:AO}) J d.2.2.2.2.2.2.2.2.2.2.1 d.2.2.2.2.2.2.2.2.2.2.2.1) λm=>AH ((bif (h.2 != 0)then AC AE else AC (m.2 != 0)):AB Bool) λL=>(bif L then AH ((bif ((AI h.1:Int)==0)then AC AE else AC (m.2==2)):AB Bool) λx=>AC x else AH (Ih n h.1) λy=>AH (Pp n y h.1) λB=>(bif (!B)then AC AD else AH (iter (ey n j t d h m) n ([],0):AB (CF (AA CB) Bool)) λE=>match E with|.k f=>(AH (iter (ei n d h f) n 0:AB (CF Unit Bool)) λq=>match q with|.k g=>(AC AE)|.d g=>AC g)|.d f=>AC f))))
instance ji(a1:CA)(a2:AA CH)(a3:Int)(a4:Int):Ks (Pq n a1 a2 a3 a4) 5 [.a (CA.c a1),.q 57 (map CH.c a2),I a3,I a4] [] (λr=>.b r):=by
 refine Kg 9 func5 Z Z Z Z λr h=>Cz [] h (jX _).c Z λr1 ct h=>Go 3 Z (Cn Z h (λ_ h=>?_) (λ_ h=>?_))
 .exact L' 7 Z h 8 []
 refine Gc 7 Z (Cd [] h (jm _ _ _ _).c Z λd cu h=>Fg 15 Z Z (Cn Z h (λ_ h=>?_) (λ_ h=>?_)))
 .exact L' 7 Z h 8 []
 refine Gc 16 Z ?_;refine Et (Ym [(26,_),(30,_),(31,_),(44,_)] Z Z (Cx.cons Z (DO.tup (Ed (DO.agg (CN.k (CN.k (CN.k (CN.k (CN.k (CN.k (CN.k (CN.k (CN.k (CN.k (CN.k (Ed Ep (Ej _)))))))))))))) (Ej _))) (Cx.cons Z (DO.tup (Ed (DO.agg (CN.k (CN.k (CN.k (CN.k (CN.k (CN.k (CN.k (CN.k (CN.k (CN.k (CN.k (Ed Ep (Ej _)))))))))))))) (Ej _))) (Cx.cons Z (DO.agg (CN.k (CN.k (CN.k (CN.k (CN.k (CN.k (CN.k (CN.k (CN.k (CN.k (CN.k (Ed Ep (Ej _)))))))))))))) (Cx.cons Z Ep Cx.nil)))) (Ec (Ec (Dg.cells (CN.k (CN.k (CN.k (CN.k (CN.k (CN.k (CN.k (CN.k (CN.k (CN.k (CN.k (Ed Ep (Ej _))))))))))))) (Dg.cells (CN.k (CN.k (CN.k (CN.k (CN.k (CN.k (CN.k (CN.k (CN.k (CN.k (CN.k (Ed Ep (Ej _))))))))))))) (QQ _)))))) ?_;refine Cd [] h (bE _ _ _ _ _ _ _ _).c Z λr5 cv h=>Fg 8 Z Z (NI 17 12 [0,0,0,0,0,0,0,0,0,0,0,0,1,2,2,2,2] (by kernel_rfl) (Da 7 Z ?_));obtain⟨r6,cg,h⟩:=Qw h;refine DA.wo (x:=I r6) ?_ ?_
 .exact Pc [] Z (C6.fn call10 Z Z Z) ((j9 _ _).c _ cg) Z Wp
 refine Da 4 Z ?_;obtain⟨r7,ch,h⟩:=Qw h;refine DA.op (x:=.t [.o 5 (AI r7.1) 2,I r7.2]) (H1:=[.c 33 (CA.c a1),.dead,.c 46 [.q 3 (map CC.c d.1),.q 1 (map (Qu 1 eI) d.2.1),I d.2.2.1,I d.2.2.2.1,I d.2.2.2.2.1,I d.2.2.2.2.2.1,I d.2.2.2.2.2.2.1,I d.2.2.2.2.2.2.2.1,I d.2.2.2.2.2.2.2.2.1,I d.2.2.2.2.2.2.2.2.2.1,.q 5 (map CL.c d.2.2.2.2.2.2.2.2.2.2.1),.q 4 (map Ac.c d.2.2.2.2.2.2.2.2.2.2.2.1),.q 4 (map CE.c d.2.2.2.2.2.2.2.2.2.2.2.2.1)],.c 46 [.q 3 (map CC.c d.1),.q 1 (map (Qu 1 eI) d.2.1),I d.2.2.1,I d.2.2.2.1,I d.2.2.2.2.1,I d.2.2.2.2.2.1,I d.2.2.2.2.2.2.1,I d.2.2.2.2.2.2.2.1,I d.2.2.2.2.2.2.2.2.1,I d.2.2.2.2.2.2.2.2.2.1,.q 5 (map CL.c d.2.2.2.2.2.2.2.2.2.2.1),.q 4 (map Ac.c d.2.2.2.2.2.2.2.2.2.2.2.1),.q 4 (map CE.c d.2.2.2.2.2.2.2.2.2.2.2.2.1)],.r 77 4 (map CB.c r5.1),.r 75 2 (map CU.c r7.1),.c 55 [.o 5 (AI r7.1) 2]]) ?_ ?_
 .refine Qf [] (C6.fn call9 Z Z Z) ((kC _ _ _ _ _ _ _).c _ ch) ?_;rintro _ _ ⟨rfl,rfl⟩;exact FE Z Wp
 refine Db 4 Z (DB.done Z (Go 5 Z (Bd h λb9 V h=>?_)));refine Ct b9 [0,3,4,5] [3,4,9,11,13,14] (λb9=>[(72,.b b9)]) Ze Zf ?_ (λenv H G=>?_)
 .refine G0 4 Z (Is 69 V Z (λ_ V=>?_) (λ_ V=>?_))
  iterate 2 exact Gl 4 Z V [0,3,4,5]
 refine Gx 1 Z (Ee G (Cn Z h (λ_ h=>?_) (λ_ h=>?_)))
 .refine Gc 1 Z (Bd h λah W h=>Ct ah [] [] (λah=>[(8,.b ah)]) Ze Zf ?_ (λenv H G=>?_))
  .refine G0 5 Z (Is 76 W Z (λ_ W=>?_) (λ_ W=>?_))
   iterate 2 exact Gl 5 Z W []
  exact Gx 1 Z (Ee G (L' 2 Z h 8 []))
 refine Gc 6 Z ?_;refine Et (Ym [(11,_),(80,_)] Z Z (Cx.cons Z Ep (Cx.cons Z Ep Cx.nil)) (Ec (Ec (Ec (QQ _))))) ?_;refine Cd [] h (j_ _ _).c Z λcw cn h=>Fg 1 Z Z (Cb h (jh _ _ _).c Z (lo (ls ln)) λcx co h=>Go 3 Z (Cn Z h (λ_ h=>?_) (λ_ h=>?_)))
 .exact L' 7 Z h 8 []
 refine Gc 13 Z (Bd h λci cj h=>FX (b:=ci) [1,3] [9,11] (λR=>[(15,.o 1 (AI R) 4)]) (λR=>[(1,.r 77 4 (map CB.c R))]) Zf ?_ (λR env H ai G=>?_))
 .refine G0 1 Z (Lp [0,1,3,0] [3,4,9,11,13] (λL=>[(15,.o 3 (AI L.1) 4),(16,I L.2)]) (λL=>[(3,.r 77 4 (map CB.c L.1))]) cj Zf ?_ ?_)
  .refine En (Er (s:=15) (k:=4) (t:=77) (XQ Z) Z) ?_;exact Lr [0,1,3,6]
  intro L cy j aj;refine G0 9 Z (Q5 Z j (λ_ j=>?_) (λ_ j=>?_))
  .exact Gc 2 Z (QF j (Gx 1 Z (c5 aj j Z (Lr [1,3]))))
  refine Gc 5 Z (NI 21 16 [0,0,0,0,0,0,0,0,0,0,0,0,0,0,0,0,1,2,2,2,2] (by kernel_rfl) (Da 13 Z ?_));obtain⟨bk,ak,j⟩:=Qw j;refine DA.wo (x:=.p 2 (toNat L.2*2)) ?_ ?_
  .refine vX (.p 2 (toNat L.2*2)) (Qd ak Z GI GS) ?_;exact Wp
  refine DA.wo (x:=.a (CU.c bk)) ?_ ?_
  .refine vX (.a (CU.c bk)) (Qt Z isAgg75 GS Z (Qh ak) Z Z) ?_;exact Wp
  refine Da 1 Z ?_;obtain⟨al,bq,j⟩:=Qw j;refine DA.op (x:=.t [.o 4 (AI al.1) 4,I al.2]) (H1:=[.c 33 (CA.c a1),.c 46 [.q 3 (map CC.c d.1),.q 1 (map (Qu 1 eI) d.2.1),I d.2.2.1,I d.2.2.2.1,I d.2.2.2.2.1,I d.2.2.2.2.2.1,I d.2.2.2.2.2.2.1,I d.2.2.2.2.2.2.2.1,I d.2.2.2.2.2.2.2.2.1,I d.2.2.2.2.2.2.2.2.2.1,.q 5 (map CL.c d.2.2.2.2.2.2.2.2.2.2.1),.q 4 (map Ac.c d.2.2.2.2.2.2.2.2.2.2.2.1),.q 4 (map CE.c d.2.2.2.2.2.2.2.2.2.2.2.2.1)],.r 75 2 (map CU.c r7.1),.r 77 4 (map CB.c L.1),.r 77 4 (map CB.c al.1)]) ?_ ?_
  .refine Qf [] (C6.fn call16 Z Z Z) ((jd _ _ _ _ _ _ _ _ _).c _ bq) ?_;rintro _ _ ⟨rfl,rfl⟩;exact FE Z Wp
  refine Db 4 Z (DB.done Z (Go 5 Z (Bd j λam J j=>?_)));refine Ct am [0,1,2,3,4] [3,4,9,11,13,15,16,17] (λam=>[(128,.b am)]) Ze Zf ?_ (λenv H G=>?_)
  .refine G0 4 Z (Is 113 J Z (λ_ J=>?_) (λ_ J=>?_))
   .exact Gl 16 Z J [0,1,2,3,4]
   .refine Go 5 Z (Is 118 J Z (λ_ J=>?_) (λ_ J=>?_))
    .exact Gl 11 Z J [0,1,2,3,4]
    .refine Go 5 Z (Is 123 J Z (λ_ J=>?_) (λ_ J=>?_))
     .exact Gl 6 Z J [0,1,2,3,4]
     .exact Go 2 Z (Cb J (jl _ _ _).c Z (lo (ls ln)) λcz cp J=>Gl 3 Z J [0,1,2,3,4])
  refine Gx 1 Z (Ee G (Cn Z j (λ_ j=>?_) (λ_ j=>?_)))
  .refine Gc 9 Z (IN j ?_);obtain rfl:=Oj aj j;exact Gx 1 Z (LT (Gx 1 Z (Rt h 8 [])))
  refine Gc 5 Z (Bd j λda bw j=>vH (Qj (e:=CB.c) bw Jm ED (QE (i:=4))) ?_);exact Fg 9 Z Z (QZ j (Lr [0,1,2,5]))
 subst ai;refine Gx 1 Z (Ee G (Gc 6 Z (Bd h λbx bz h=>D4 (b:=bx) [] [] Ze Ze Zf ?_ (λ_ ai=>?_))))
 .refine G0 1 Z (Lp [0,1] [9,11,15] (λan=>[(19,I an)]) Ze bz Zf (Lr [0,1]) λan cq g ac=>?_);refine G0 5 Z (Lg 3 Z Z (Q5 Z g (λ_ g=>?_) (λ_ g=>?_)))
  .exact Gc 2 Z (QF g (Gx 1 Z (c5 ac g Z (Lr []))))
  refine Gc 16 Z (Bd g λT ca g=>Ct T [0,1] [9,11,15,19] (λT=>[(20,.b T.1),(21,.b T.2)]) Ze Zf ?_ (λenv H G=>?_))
  .refine G0 1 Z (Lp [0,1] [9,11,15,19] (λE=>[(20,.b E.1),(21,.b E.2.1),(22,I E.2.2)]) Ze ca Zf (Lr [0,1]) λE cr F ar=>?_);refine G0 9 Z (Q5 Z F (λ_ F=>?_) (λ_ F=>?_))
   .exact Gc 2 Z (QF F (Gx 1 Z (DX ar F (Lr [0,1]))))
   refine Gc 5 Z (Bd F λX m F=>Ct X [0,1] [9,11,15,19,20,21,22] (λX=>[(23,.b X)]) Ze Zf ?_ (λenv H G=>?_))
   .refine G0 0 Z (DP 22 Z (D 2 Z ?_));obtain⟨ao,ad,m⟩:=Qw m;refine DS.v (x:=(.p 1 (toNat E.2.2*4))) (Qd ad Z ED EG) ?_;refine DS.wo (x:=.p 1 (toNat E.2.2*4)) ?_ ?_
    .exact Fp QqH Z Wp
    refine DS.v (x:=(.b ao.A')) (Ez Z isAgg4 Z (Qh ad)) ?_;refine D 2 Z ?_;obtain⟨M,aw,m⟩:=Qw m;refine DS.wo (x:=.rp [.b M.A',I M.A_,I M.Lo,I M.Hi]) ?_ ?_
    .exact Ix aw ED EG Z Wp
    refine D 2 Z ?_;refine DS.v (x:=(.b (ao.A'==M.A'))) (Qkt GY) ?_;refine D 1 Z (DS.is 11 m Z Z Z (λ_ m=>?_) (λ_ m=>?_))
    .refine D 2 Z ?_;obtain⟨cb,ae,m⟩:=Qw m;refine DS.v (x:=(.p 1 (toNat E.2.2*4))) (Qd ae Z ED EG) ?_ (hg:=(gT Z));refine DS.wo (x:=.p 1 (toNat E.2.2*4+1)) ?_ ?_
     .exact HJ (gT Z) qM Z Wp
     refine DS.v (x:=(I cb.A_)) (Ez Z EF Z (Qm (f:=1) ae)) ?_ (hg:=(gT Z));refine D 2 Z ?_;obtain⟨N,ay,m⟩:=Qw m;refine DS.v (x:=(.rp [.b N.A',I N.A_,I N.Lo,I N.Hi])) (QV (e:=CB.c) (l:=r5.1) (v:=N) ay ED EG) ?_ (hg:=(gT Z));exact D 2 Z (Eg Z (Gl 4 Z m [0,1]))
    .exact D 10 Z (Eg Z (Gl 4 Z m [0,1]))
   refine Gx 1 Z (Ee G (Gc 1 Z (Bd F λY q F=>Ct Y [0,1] [9,11,15,19,21,22,23] (λY=>[(20,.b Y)]) Ze Zf ?_ (λenv H G=>?_))))
   .refine G0 0 Z (DP 14 Z (D 2 Z (DS.is 1 q Z Z Z (λ_ q=>?_) (λ_ q=>?_))))
    .exact D 12 Z (Eg Z (Gl 5 Z q [0,1]))
    .refine D 2 Z (DS.is 3 q Z Z Z (λ_ q=>?_) (λ_ q=>?_))
     .refine D 2 Z ?_;obtain⟨cc,af,q⟩:=Qw q;refine DS.v (x:=(.p 1 (toNat E.2.2*4))) (Qd af Z ED EG) ?_ (hg:=(gT Z));refine DS.wo (x:=.p 1 (toNat E.2.2*4+2)) ?_ ?_
      .exact HJ (gT Z) QqG Z Wp
      refine DS.v (x:=(I cc.Lo)) (Ez Z EF Z (Qm (f:=2) af)) ?_ (hg:=(gT Z));refine D 2 Z ?_;obtain⟨O,bb,q⟩:=Qw q;refine DS.v (x:=(.rp [.b O.A',I O.A_,I O.Lo,I O.Hi])) (QV (e:=CB.c) (l:=r5.1) (v:=O) bb ED EG) ?_ (hg:=(gT Z));exact D 2 Z (Eg Z (Gl 5 Z q [0,1]))
     .exact D 10 Z (Eg Z (Gl 5 Z q [0,1]))
   refine Gx 1 Z (Ee G (Bd F λaa y F=>Ct aa [0,1] [9,11,15,19,20,22] (λaa=>[(21,.b aa)]) Ze Zf ?_ (λenv H G=>?_)))
   .refine G0 0 Z (DP 14 Z (D 2 Z (DS.is 1 y Z Z Z (λ_ y=>?_) (λ_ y=>?_))))
    .exact D 12 Z (Eg Z (Gl 5 Z y [0,1]))
    .refine D 2 Z (DS.is 3 y Z Z Z (λ_ y=>?_) (λ_ y=>?_))
     .refine D 2 Z ?_;obtain⟨cd,ag,y⟩:=Qw y;refine DS.v (x:=(.p 1 (toNat E.2.2*4))) (Qd ag Z ED EG) ?_ (hg:=(gT Z));refine DS.wo (x:=.p 1 (toNat E.2.2*4+3)) ?_ ?_
      .exact HJ (gT Z) dr Z Wp
      refine DS.v (x:=(I cd.Hi)) (Ez Z EF Z (Qm (f:=3) ag)) ?_ (hg:=(gT Z));refine D 2 Z ?_;obtain⟨P,be,y⟩:=Qw y;refine DS.v (x:=(.rp [.b P.A',I P.A_,I P.Lo,I P.Hi])) (QV (e:=CB.c) (l:=r5.1) (v:=P) be ED EG) ?_ (hg:=(gT Z));exact D 2 Z (Eg Z (Gl 5 Z y [0,1]))
     .exact D 10 Z (Eg Z (Gl 5 Z y [0,1]))
   exact Gx 2 Z (Ee G (Gc 5 Z (QZ F (Lr [0,1]))))
  refine Gx 1 Z (Ee G (Gc 1 Z (Bd g λab B g=>Cg ab [0,1] [9,11,15,19] (λab=>[(217,.b ab)]) Ze Zf ?_ ?_)))
  .refine G0 0 Z (DP 13 Z (D 3 Z (DS.is 2 B Z Z Z (λ_ B=>?_) (λ_ B=>?_))))
   .exact D 10 Z (Eg Z (Gl 4 Z B [0,1]))
   .refine D 4 Z (DS.is 6 B Z Z Z (λ_ B=>?_) (λ_ B=>?_))
    .exact D 6 Z (Eg Z (Gl 4 Z B [0,1]))
    .refine D 4 Z ?_;obtain⟨Q,bi,B⟩:=Qw B;refine DS.v (x:=(.rp [.b Q.A',I Q.A_,I Q.Lo,I Q.Hi])) (QV (e:=CB.c) (l:=r5.1) (v:=Q) bi ED EG) ?_ (hg:=(gT Z));exact D 1 Z (Eg Z (Cz [] B (SB _ _ _).c Z λcs cm B=>Gl 3 Z B [0,1]))
  refine Cn Z g (λ_ g=>?_) (λ_ g=>?_)
  .refine Gc 8 Z (IN g ?_);obtain rfl:=Oj ac g;exact Gx 1 Z (LT (Gx 1 Z (Rt h 8 [])))
  exact Gc 8 Z (QZ g (Lr [0,1]))
 subst ai;exact L' 6 Z h 8 []
end Go.Sw
