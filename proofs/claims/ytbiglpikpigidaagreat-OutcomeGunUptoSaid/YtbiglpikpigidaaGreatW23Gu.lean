/- What the functions compute that OutcomeGun reaches, and that their calls refine it (part 6 of 6). -/
import Derived.Test.YtbiglpikpigidaaGreatW23Gu5
set_option linter.unusedVariables false
set_option linter.unusedSimpArgs false
set_option maxRecDepth 100000
set_option maxHeartbeats 4000000
namespace Go.Sw
open Option renaming some→AC,bind→AH
open Bool renaming false→AD,true→AE
open Decidable renaming decide→AG
open List renaming length→AI
variable (n:Nat)
open List(map)
open Int(toNat)
open Go.IntKind(i64 u64 u8)
open Go.Proofs Tryz
def nY(n:Nat)(f:(AA AP)×Int)(g:CI)(d:Int):AB (CG Int Int):=AH ((bif d<(AI f.1:Int) then AH (CJ f.1 d) λh=>AC (AG (h.BU<g.AP.BU))else AC AD):AB Bool) λj=>(bif j then AC (.k (i64.wrap (d+1)))else AC (.d d))
def TP(G:CB)(h:AA CI)(d:(AA AP)×Int):AB (CG ((AA AP)×Int) (AA AP)):=(bif d.2<(AI h:Int) then AH (AH (CJ h d.2) λf=>AH (AH (CJ h d.2) λj=>(bif (j.AX != 1)then AC AE else(bif (AI G.AO:Int)<=f.AP.AN then AC AE else(bif (AI G.Ap:Int)<=f.AP.Aw then AC AE else AH (Pr n d.1 f.AP.BU) λm=>AC (AG (0<=m))))):AB Bool) λq=>(bif q then AC d.1 else AH (iter (nY n d f) n 0:AB Int) λg=>AH (Dn d.1 0 g) λt=>AH (app ([]:AA AP) t) λx=>AH (app x [f.AP]) λy=>AH (Dn d.1 g (AI d.1:Int)) λB=>AH (app y B) λE=>AC E):AB (AA AP)) λF=>AC (.k (F,i64.wrap (d.2+1)))else AC (.d d.1))
def Tz(n:Nat)(f:AA AP)(g:Int)(d:Int):AB (CG Int (CG Unit (CG Int (CG Unit ((AA AP)×Int))))):=(bif d<g then AH (CJ f g) λh=>AH (CJ f d) λj=>(bif (h.BB==j.BB)then AC (.d (.d (.d (.d ([],180)))))else AC (.k (i64.wrap (d+1))))else AC (.d (.k ())))
def TM(g:AA AP)(d:Int):AB (CG Int (CG Unit ((AA AP)×Int))):=(bif d<(AI g:Int) then AH (iter (Tz n g d) n 0:AB (CG Unit (CG Int (CG Unit ((AA AP)×Int))))) λh=>match h with|.k f=>(AC (.k (i64.wrap (d+1))))|.d f=>AC f else AC (.d (.k ())))
def MY(h:CB)(m:AA CI):AB ((AA AP)×Int):=AH (HL n h) λj=>(bif (j != 0)then AC ([],j)else AH (Kx n m) λq=>AH (iter (TP n h q) n (([]:AA AP),0):AB (AA AP)) λd=>(bif 4000<(AI d:Int) then AC ([],2)else AH (iter (TM n d) n 0:AB (CG Unit ((AA AP)×Int))) λg=>match g with|.k f=>(AC (d,0))|.d f=>AC f))
instance yu(a1:CB)(a2:AA CI):Kq (MY n a1 a2) 26 [.a (CB.c a1),.q 57 (map CI.c a2)] [] (λr=>.t [.o 0 (AI r.1) 8,I r.2]) (λr=>[.r 41 8 (map AP.c r.1)]):=by
 refine Kg 10 func26 Z Z Z Z λr h=>Cz [] h Kc Z λr1 bu h=>Go 10 Z (Cn Z h (λ_ h=>?_) (λ_ h=>?_))
 .refine Gc 9 Z ?_;obtain rfl:=Oi h;refine R2 4 5 Z Z ?_;refine En (Er (s:=4) (k:=8) (t:=41) (XQ Z) Z) ?_;exact Lr [1]
 refine Gc 5 Z (Cd [] h Kc Z λr3 bv h=>Fg 5 Z Z (vH (Ek (xs:=[]) (es:=map AP.c []) ZY Z Z Z Z Z trivial Z Z) ?_));refine Fg 9 Z Z (Bd h λL ay h=>Ct L [2] [] (λL=>[(7,.o 0 (AI L) 8)]) (λL=>[(0,.r 41 8 (map AP.c L))]) Zf ?_ (λenv H B=>?_))
 .refine G0 1 Z (Lp [1,0,2] [1,2] (λd=>[(7,.o 2 (AI d.1) 8),(8,I d.2)]) (λd=>[(2,.r 41 8 (map AP.c d.1))]) ay Zf (Lr [1,0,2]) λd bm E ah=>?_);refine G0 9 Z (Q8 Z E (λ_ E=>?_) (λ_ E=>?_))
  .exact Gc 2 Z (QH E (Gx 1 Z (DW ah E (Lr [2]))))
  refine Gc 3 Z (Bd E λM g E=>Ct M [0,1,2] [1,2,8] (λM=>[(7,.o 2 (AI M) 8)]) (λM=>[(2,.r 41 8 (map AP.c M))]) Zf ?_ (λenv H B=>?_))
  .refine G0 5 Z (Bd g λq W g=>?_);refine vX (.p 0 (toNat d.2*57)) (Qd W Z ED EF) ?_;refine Fp Qow Z ?_;refine vX (.a (AP.c q.AP)) (Qt Z GK EN Z (Qo (f:=4) W) Z Z) ?_;refine Go 6 Z (Bd g λR T g=>Ct R [0,1,2,3] [1,2,7,8,9] (λR=>[(60,.b R)]) Ze Zf ?_ (λenv H B=>?_))
   .refine G0 3 Z (Bd T λaz X T=>?_);refine vX (.p 0 (toNat d.2*57)) (Qd X Z ED EF) ?_;refine Fp TF Z ?_;refine vX (I az.AX) (Ez Z EE Z (Qo (f:=3) X)) ?_;exact au T
   refine Gx 1 Z (Ee B (Cn Z g (λ_ g=>?_) (λ_ g=>?_)))
   .exact au g
   refine Gc 8 Z (Bd g λj ba g=>Ct j [0,1,2,3] [1,2,7,8,9] (λj=>[(10,I j)]) Ze Zf ?_ (λenv H B=>?_))
   .refine G0 1 Z (Lp [0,1,2,3] [1,2,7,8,9] (λN=>[(10,I N)]) Ze ba Zf (Lr [0,1,2,3]) λN bn F ak=>?_);refine G0 2 Z (Bd F λV G F=>Ct V [0,1,2,3] [1,2,7,8,9,10] (λV=>[(74,.b V)]) Ze Zf ?_ (λenv H B=>?_))
    .refine G0 0 Z (DU 12 Z (D 5 Z (DS.is 4 G Z Z Z (λ_ G=>?_) (λ_ G=>?_))))
     .refine D 2 Z ?_;obtain⟨bb,Y,G⟩:=QE G;refine DS.v (x:=(.p 2 (toNat N*8))) (Qd Y Z EH EN) ?_ (hg:=(gT Z));refine DS.wo (x:=.p 2 (toNat N*8)) ?_ ?_
      .exact H7 (gT Z) lC Z Wp
      refine DS.v (x:=(I bb.BU)) (Ez Z EE Z (Qh Y)) ?_ (hg:=(gT Z));exact au G
     exact au G
    refine Gx 1 Z (Ee B (Q8 Z F (λ_ F=>?_) (λ_ F=>?_)))
    .exact Gc 2 Z (QH F (Gx 1 Z (DW ak F (Lr [0,1,2,3]))))
    exact au F
   refine Gx 1 Z (Ee B (Hn 11 [0,4,7] [(1,0,0),(0,0,1),(0,0,1),(0,0,1),(1,1,0),(0,0,2),(0,0,2),(1,2,0),(0,0,3),(0,0,3),(0,0,3)] (by kernel_rfl) ?_));refine Ex (x:=.o 4 (AI ([]:AA AP)) 8) (X1:=[.r 120 57 (map CI.c r3),.c 33 (CB.c a1),.r 41 8 (map AP.c d.1),.c 41 (AP.c q.AP),.r 41 8 (map AP.c ([]:AA AP))]) ?_ ?_
   .refine vH (Ek (xs:=[]) (es:=map AP.c []) ZY Z Z Z Z Z trivial Z Z) ?_;exact FE Z Wp
   refine Dk 2 Z ?_;obtain⟨bo,O,g⟩:=QE g;refine Ke (lo:=0) (hi:=1) (x:=.s 2 (0+toNat 0) (toNat j-toNat 0) 8) ⟨?_,?_,trivial⟩ ?_
   iterate 2 refine vX (.s 2 (0+toNat 0) (toNat j-toNat 0) 8) (QP (l:=d.1) O EH EN (.inl ⟨Z,Z⟩) (.inr ⟨_,Z,Z⟩)) ?_;exact Wp
   obtain⟨ae,an,g⟩:=QE g;refine Ex (x:=.o 5 (AI ae) 8) (X1:=[.r 120 57 (map CI.c r3),.c 33 (CB.c a1),.r 41 8 (map AP.c d.1),.c 41 (AP.c q.AP),.dead,.r 41 8 (map AP.c ae)]) ?_ ?_
   .refine vH (Qj (e:=AP.c) an ZY EH (LZ (b:=2) O)) ?_;exact FE Z Wp
   refine W9 (lo:=0) (hi:=2) (x:=.a (AP.c q.AP)) ⟨Z,Z,Z,trivial⟩ ?_;refine Ke (lo:=0) (hi:=2) (x:=.q 8 (map AP.c [q.AP])) ⟨?_,?_,?_,trivial⟩ ?_
   iterate 3 refine vH (QO (xs:=[.tmp 82]) (es:=map AP.c [q.AP]) ZY Z Z Z Z Z ⟨Z,trivial⟩ Z Z) ?_;exact FE Z Wp
   obtain⟨af,ao,g⟩:=QE g;refine Ex (x:=.o 6 (AI af) 8) (X1:=[.r 120 57 (map CI.c r3),.c 33 (CB.c a1),.r 41 8 (map AP.c d.1),.c 41 (AP.c q.AP),.dead,.dead,.r 41 8 (map AP.c af)]) ?_ ?_
   .refine vH (Qj (e:=AP.c) ao ZY EH La) ?_;exact FE Z Wp
   refine Dk 2 Z ?_;obtain⟨bp,J,g⟩:=QE g;refine Ke (lo:=0) (hi:=3) (x:=.s 2 (0+toNat j) (toNat (AI d.1:Int)-toNat j) 8) ⟨?_,?_,?_,?_,trivial⟩ ?_
   iterate 4 refine vX (.s 2 (0+toNat j) (toNat (AI d.1:Int)-toNat j) 8) (QP (l:=d.1) J EH EN (.inr ⟨_,Z,Z⟩) (.inl ⟨Z,Z⟩)) ?_;exact Wp
   refine DK.done Z Z (Bd g λbq aq g=>?_);refine vH (Qj (e:=AP.c) aq ZY EH (LZ (b:=2) J)) ?_;exact au g
  exact Gx 1 Z (Ee B (Gc 5 Z (Q1 E (Lr [0,1,2]))))
 refine Gx 1 Z (Ee B (Gc 8 Z (Cn Z h (λ_ h=>?_) (λ_ h=>?_))))
 .refine Gc 8 Z ?_;obtain rfl:=Oi h;refine R2 4 5 Z Z ?_;refine En (Er (s:=4) (k:=8) (t:=41) (XQ Z) Z) ?_;exact Lr [1]
 refine Gc 8 Z (Bd h λbc bd h=>E_ (b:=bc) [0] [7] Ze Ze Zf ?_ (λ_ ag=>?_))
 .refine G0 1 Z (Lp [0] [7] (λP=>[(11,I P)]) Ze bd Zf (Lr [0]) λP br y aa=>?_);refine G0 9 Z (Q8 Z y (λ_ y=>?_) (λ_ y=>?_))
  .exact Je aa y
  refine Gc 9 Z (Bd y λbe bg y=>Fe (b:=be) [0] [7,11] Ze Ze Zf ?_ (λbl env H ag B=>?_))
  .refine G0 1 Z (Lp [0] [7,11] (λQ=>[(12,I Q)]) Ze bg Zf (Lr [0]) λQ bs m ab=>?_);refine G0 8 Z (Q8 Z m (λ_ m=>?_) (λ_ m=>?_))
   .exact Je ab m
   refine Gc 5 Z (DU 10 Z (D 2 Z ?_));obtain⟨bh,ac,m⟩:=QE m;refine DS.v (x:=(.p 0 (toNat P*8))) (Qd ac Z EH EN) ?_;refine DS.wo (x:=.p 0 (toNat P*8+5)) ?_ ?_
   .exact Fp mG Z Wp
   refine DS.v (x:=(I bh.BB)) (Ez Z EE Z (Qo (f:=5) ac)) ?_;refine D 2 Z ?_;obtain⟨bi,ad,m⟩:=QE m;refine DS.v (x:=(.p 0 (toNat Q*8))) (Qd ad Z EH EN) ?_;refine DS.wo (x:=.p 0 (toNat Q*8+5)) ?_ ?_
   .exact Fp mG Z Wp
   refine DS.v (x:=(I bi.BB)) (Ez Z EE Z (Qo (f:=5) ad)) ?_;refine Eg Z (Go 3 Z (Cn Z m (λ_ m=>?_) (λ_ m=>?_)))
   .refine Gc 9 Z (JV m ?_);obtain rfl:=Oj ab m;refine Gx 1 Z (N4 (Gx 2 Z (JV y ?_)));obtain rfl:=Oj aa y;refine Gx 1 Z (N4 (Gx 1 Z ?_));obtain rfl:=Oi h;refine R2 4 5 Z Z ?_;refine En (Er (s:=4) (k:=8) (t:=41) (XQ Z) Z) ?_;exact Lr [1]
   exact au m
  subst ag;exact Gx 2 Z (Ee B (Gc 5 Z (Q1 y (Lr [0]))))
 subst ag;exact au h
def VP(n:Nat)(h:AA CI)(g:A5)(d:Int):AB (CG Int (CG Unit Bool)):=(bif d<(AI h:Int) then AH (CJ h d) λf=>AH (AH (CJ h d) λj=>(bif (j.AX==6)then(bif (f.Au.Al==g.Al)then(bif (f.Au.Ah==g.Ah)then(bif f.Au.Lo<=g.BD then AC (AG (g.BD<=f.Au.Hi))else AC AD)else AC AD)else AC AD)else AC AD):AB Bool) λm=>(bif m then AC (.d (.d AE))else AC (.k (i64.wrap (d+1))))else AC (.d (.k ())))
def On(g:AA CI)(h:A5):AB Bool:=AH (iter (VP n g h) n 0:AB (CG Unit Bool)) λf=>match f with|.k d=>(AC AD)|.d d=>AC d
instance xb(d:AA CI)(f:A5):Ks (On n d f) 199 [.q 57 (map CI.c d),.a (A5.c f)] [] (λr=>.b r):=KA func199
def O4(n:Nat)(d:A5)(f:A5):AB Bool:=(bif (d.BB != f.BB)then AC (AG (d.BB<f.BB))else(bif (d.Al != f.Al)then AC (AG (d.Al<f.Al))else(bif (d.Ah != f.Ah)then AC (AG (d.Ah<f.Ah))else AC (AG (d.BD<f.BD)))))
instance xp(d:A5)(f:A5):Ks (O4 n d f) 200 [.a (A5.c d),.a (A5.c f)] [] (λr=>.b r):=KA func200
def nj(f:(AA A5)×Int)(g:CI)(d:Int):AB (CG Int Int):=AH ((bif d<(AI f.1:Int) then AH (CJ f.1 d) λh=>AH (O4 n h g.A5) λj=>AC j else AC AD):AB Bool) λm=>(bif m then AC (.k (i64.wrap (d+1)))else AC (.d d))
def UY(F:CB)(h:AA CI)(d:(AA A5)×Int):AB (CG ((AA A5)×Int) (AA A5)):=(bif d.2<(AI h:Int) then AH (AH (CJ h d.2) λf=>AH (AH (CJ h d.2) λj=>(bif (j.AX != 2)then AC AE else(bif (AI F.Av:Int)<=f.A5.Al then AC AE else AH (On n h f.A5) λm=>AC m)):AB Bool) λq=>(bif q then AC d.1 else AH (iter (nj n d f) n 0:AB Int) λg=>AH (Dn d.1 g (AI d.1:Int)) λt=>AH (app [f.A5] t) λx=>AH (Dn d.1 0 g) λy=>AH (app y x) λB=>AC B):AB (AA A5)) λE=>AC (.k (E,i64.wrap (d.2+1)))else AC (.d d.1))
def Pj(f:CB)(g:AA CI):AB (AA A5):=AH (Kx n g) λh=>AH (iter (UY n f h) n (([]:AA A5),0):AB (AA A5)) λd=>AC d
instance yf(a1:CB)(a2:AA CI):Kq (Pj n a1 a2) 132 [.a (CB.c a1),.q 57 (map CI.c a2)] [] (λr=>.o 0 (AI r) 4) (λr=>[.r 98 4 (map A5.c r)]):=by
 refine Kg 9 func132 Z Z Z Z λr h=>Cd [] h Kc Z λr1 an h=>Fg 5 Z Z (vH (Ek (xs:=[]) (es:=map A5.c []) ge Z Z Z Z Z trivial Z Z) ?_);refine Fg 9 Z Z (Bd h λy ac h=>Cg y [2] [] (λy=>[(6,.o 0 (AI y) 4)]) (λy=>[(0,.r 98 4 (map A5.c y))]) Zf ?_ ?_)
 .refine G0 1 Z (Lp [0,1,2] [2,5] (λg=>[(6,.o 2 (AI g.1) 4),(7,I g.2)]) (λg=>[(2,.r 98 4 (map A5.c g.1))]) ac Zf (Lr [0,1,2]) λg ah m R=>?_);refine G0 9 Z (Q8 Z m (λ_ m=>?_) (λ_ m=>?_))
  .exact Gc 2 Z (QH m (Gx 1 Z (DW R m (Lr [2]))))
  refine Gc 3 Z (Bd m λB d m=>Cg B [0,1,2] [2,5,7] (λB=>[(6,.o 2 (AI B) 4)]) (λB=>[(2,.r 98 4 (map A5.c B))]) Zf ?_ ?_)
  .refine G0 5 Z (Bd d λQ M d=>?_);refine vX (.p 1 (toNat g.2*57)) (Qd M Z ED EF) ?_;refine Fp l_ Z ?_;refine vX (.a (A5.c Q.A5)) (Qt Z isAgg98 EY Z (Qo (f:=12) M) Z Z) ?_;refine Go 6 Z (Bd d λF G d=>Ct F [0,1,2,3] [2,5,6,7,8] (λF=>[(43,.b F)]) Ze Zf ?_ (λenv H ag=>?_))
   .refine G0 3 Z (Bd G λad N G=>?_);refine vX (.p 1 (toNat g.2*57)) (Qd N Z ED EF) ?_;refine Fp TF Z ?_;refine vX (I ad.AX) (Ez Z EE Z (Qo (f:=3) N)) ?_;exact au G
   refine Gx 1 Z (Ee ag (Cn Z d (λ_ d=>?_) (λ_ d=>?_)))
   .exact au d
   refine Gc 8 Z (Bd d λj ae d=>Cg j [0,1,2,3] [2,5,6,7,8] (λj=>[(9,I j)]) Ze Zf ?_ ?_)
   .refine G0 1 Z (Lp [0,1,2,3] [2,5,6,7,8] (λJ=>[(9,I J)]) Ze ae Zf (Lr [0,1,2,3]) λJ ai q W=>?_);refine G0 2 Z (Bd q λL t q=>Cg L [0,1,2,3] [2,5,6,7,8,9] (λL=>[(55,.b L)]) Ze Zf ?_ ?_)
    .refine G0 0 Z (DU 10 Z (D 5 Z (DS.is 4 t Z Z Z (λ_ t=>?_) (λ_ t=>?_))))
     .refine D 2 Z ?_;obtain⟨af,O,t⟩:=QE t;refine DS.v (x:=(.p 2 (toNat J*4))) (Qd O Z EL EY) ?_ (hg:=(gT Z));refine DS.v (x:=(.a (A5.c af))) (Qt Z isAgg98 EY Z (Qh O) Z Z) ?_ (hg:=(gT Z));exact au t
     exact au t
    refine Q8 Z q (λ_ q=>?_) (λ_ q=>?_)
    .exact Gc 2 Z (QH q (Gx 1 Z (DW W q (Lr [0,1,2,3]))))
    exact au q
   refine Gc 1 Z (P7 5 1 [0,1,3,3,3] (by kernel_rfl) (Da 1 Z ?_));refine kO (Ek (xs:=[.tmp 58]) (es:=map A5.c [Q.A5]) ge Z Z Z Z Z ⟨Z,trivial⟩ Z Z) Z Z (Db 2 Z ?_);obtain⟨aj,E,d⟩:=QE d;refine DB.wo2 (x:=.s 2 (0+toNat j) (toNat (AI g.1:Int)-toNat j) 4) ?_ ?_ ?_
   iterate 2 refine vX (.s 2 (0+toNat j) (toNat (AI g.1:Int)-toNat j) 4) (QP (l:=g.1) E EL EY (.inr ⟨_,Z,Z⟩) (.inl ⟨Z,Z⟩)) ?_;exact Wp
   refine DB.done Z (Bd d λak aa d=>vH (Qj (e:=A5.c) aa ge EL (LZ (b:=2) E)) ?_);refine Fg 7 Z Z (Bd d λal P d=>?_);refine vX (.s 2 (0+toNat 0) (toNat j-toNat 0) 4) (dc (l:=g.1) P EL EY) ?_;refine Go 1 Z (Bd d λam ab d=>vH (da (e:=A5.c) P ab ge EL (QC (i:=5))) ?_);exact au d
  exact au m
 exact au h
def TT(n:Nat)(Q:CB)(f:AA A5)(d:(AA CN)×Int):AB (CG ((AA CN)×Int) (AA CN)):=(bif d.2<(AI f:Int) then AH ((bif 0<=(i64.wrap ((AI d.1:Int)-1)) then AH (CJ d.1 (i64.wrap ((AI d.1:Int)-1))) λg=>AH (CJ f d.2) λh=>(bif (g.BB==h.BB)then AH (CJ d.1 (i64.wrap ((AI d.1:Int)-1))) λj=>AH (CJ f d.2) λm=>(bif (j.Al==m.Al)then AH (CJ d.1 (i64.wrap ((AI d.1:Int)-1))) λq=>AH (CJ f d.2) λt=>(bif (q.Ah==t.Ah)then AH (CJ f d.2) λx=>AH (CJ d.1 (i64.wrap ((AI d.1:Int)-1))) λy=>AC (AG ((i64.wrap (x.BD-y.A8))<=Q.AQ.A6))else AC AD)else AC AD)else AC AD)else AC AD):AB Bool) λB=>AH ((bif B then AH (CJ f d.2) λE=>AH (CJ d.1 (i64.wrap ((AI d.1:Int)-1))) λF=>AH (JG d.1 (i64.wrap ((AI d.1:Int)-1)) ({F with A8:=E.BD:CN})) λG=>AC G else AH (CJ f d.2) λH=>AH (CJ f d.2) λJ=>AH (CJ f d.2) λL=>AH (CJ f d.2) λM=>AH (CJ f d.2) λN=>AH (app d.1 [{Al:=H.Al,Ah:=J.Ah,BB:=L.BB,BQ:=M.BD,A8:=N.BD:CN}]) λO=>AC O):AB (AA CN)) λP=>AC (.k (P,i64.wrap (d.2+1)))else AC (.d d.1))
def PP(d:CB)(g:AA CI):AB (AA CN):=AH (HL n d) λh=>(bif (h != 0)then AC ([]:AA CN)else AH (Pj n d g) λj=>AH (iter (TT n d j) n (([]:AA CN),0):AB (AA CN)) λf=>AC f)
instance yL(a1:CB)(a2:AA CI):Kq (PP n a1 a2) 75 [.a (CB.c a1),.q 57 (map CI.c a2)] [] (λr=>.o 0 (AI r) 5) (λr=>[.r 139 5 (map CN.c r)]):=by
 refine Kg 8 func75 Z Z Z Z λr h=>vH (Ek (xs:=[]) (es:=map CN.c []) ZW Z Z Z Z Z trivial Z Z) ?_;refine Fg 7 Z Z (Cz [] h Kc Z λr1 bh h=>Go 3 Z (Cn Z h (λ_ h=>?_) (λ_ h=>?_)))
 .exact au h
 refine Gc 6 Z (Cd [] h Kc Z λr3 bi h=>Fg 9 Z Z (Bd h λq an h=>Cg q [1] [] (λq=>[(5,.o 0 (AI q) 5)]) (λq=>[(0,.r 139 5 (map CN.c q))]) Zf ?_ ?_))
 .refine G0 1 Z (Lp [0,1,2] [2,6] (λd=>[(5,.o 1 (AI d.1) 5),(7,I d.2)]) (λd=>[(1,.r 139 5 (map CN.c d.1))]) an Zf (Lr [0,1,2]) λd bc m af=>?_);refine G0 9 Z (Q8 Z m (λ_ m=>?_) (λ_ m=>?_))
  .exact Gc 2 Z (QH m (Gx 1 Z (DW af m (Lr [1]))))
  refine Gc 13 Z (Bd m λy g m=>Ct y [0,1,2] [2,5,6,7,8] (λy=>[(83,.b y)]) Ze Zf ?_ (λenv H ae=>?_))
  .refine G0 0 Z (DU 56 Z (D 3 Z (DS.is 2 g Z Z Z (λ_ g=>?_) (λ_ g=>?_))))
   .refine D 2 Z ?_;obtain⟨ao,L,g⟩:=QE g;refine DS.v (x:=(.p 1 (toNat (i64.wrap ((AI d.1:Int)-1))*5))) (Qd L Z ET Gd) ?_ (hg:=(gT Z));refine DS.wo (x:=.p 1 (toNat (i64.wrap ((AI d.1:Int)-1))*5+2)) ?_ ?_
    .exact H7 (gT Z) sM Z Wp
    refine DS.v (x:=(I ao.BB)) (Ez Z EE Z (Qo (f:=2) L)) ?_ (hg:=(gT Z));refine D 2 Z ?_;obtain⟨aq,M,g⟩:=QE g;refine DS.v (x:=(.p 2 (toNat d.2*4))) (Qd M Z EL EY) ?_ (hg:=(gT Z));refine DS.wo (x:=.p 2 (toNat d.2*4+2)) ?_ ?_
    .exact H7 (gT Z) qG Z Wp
    refine DS.v (x:=(I aq.BB)) (Ez Z EE Z (Qo (f:=2) M)) ?_ (hg:=(gT Z));refine D 3 Z (DS.is 15 g Z Z Z (λ_ g=>?_) (λ_ g=>?_))
    .refine D 2 Z ?_;obtain⟨ar,N,g⟩:=QE g;refine DS.v (x:=(.p 1 (toNat (i64.wrap ((AI d.1:Int)-1))*5))) (Qd N Z ET Gd) ?_ (hg:=(gT Z));refine DS.wo (x:=.p 1 (toNat (i64.wrap ((AI d.1:Int)-1))*5)) ?_ ?_
     .exact H7 (gT Z) Qov Z Wp
     refine DS.v (x:=(I ar.Al)) (Ez Z EE Z (Qh N)) ?_ (hg:=(gT Z));refine D 2 Z ?_;obtain⟨av,O,g⟩:=QE g;refine DS.v (x:=(.p 2 (toNat d.2*4))) (Qd O Z EL EY) ?_ (hg:=(gT Z));refine DS.wo (x:=.p 2 (toNat d.2*4)) ?_ ?_
     .exact H7 (gT Z) lE Z Wp
     refine DS.v (x:=(I av.Al)) (Ez Z EE Z (Qh O)) ?_ (hg:=(gT Z));refine D 3 Z (DS.is 28 g Z Z Z (λ_ g=>?_) (λ_ g=>?_))
     .refine D 2 Z ?_;obtain⟨aw,P,g⟩:=QE g;refine DS.v (x:=(.p 1 (toNat (i64.wrap ((AI d.1:Int)-1))*5))) (Qd P Z ET Gd) ?_ (hg:=(gT Z));refine DS.wo (x:=.p 1 (toNat (i64.wrap ((AI d.1:Int)-1))*5+1)) ?_ ?_
      .exact H7 (gT Z) Qou Z Wp
      refine DS.v (x:=(I aw.Ah)) (Ez Z EE Z (Qo (f:=1) P)) ?_ (hg:=(gT Z));refine D 2 Z ?_;obtain⟨ax,Q,g⟩:=QE g;refine DS.v (x:=(.p 2 (toNat d.2*4))) (Qd Q Z EL EY) ?_ (hg:=(gT Z));refine DS.wo (x:=.p 2 (toNat d.2*4+1)) ?_ ?_
      .exact H7 (gT Z) lF Z Wp
      refine DS.v (x:=(I ax.Ah)) (Ez Z EE Z (Qo (f:=1) Q)) ?_ (hg:=(gT Z));refine D 3 Z (DS.is 41 g Z Z Z (λ_ g=>?_) (λ_ g=>?_))
      .refine D 2 Z ?_;obtain⟨ay,R,g⟩:=QE g;refine DS.v (x:=(.p 2 (toNat d.2*4))) (Qd R Z EL EY) ?_ (hg:=(gT Z));refine DS.wo (x:=.p 2 (toNat d.2*4+3)) ?_ ?_
       .exact H7 (gT Z) g_ Z Wp
       refine DS.v (x:=(I ay.BD)) (Ez Z EE Z (Qo (f:=3) R)) ?_ (hg:=(gT Z));refine D 2 Z ?_;obtain⟨az,T,g⟩:=QE g;refine DS.v (x:=(.p 1 (toNat (i64.wrap ((AI d.1:Int)-1))*5))) (Qd T Z ET Gd) ?_ (hg:=(gT Z));refine DS.wo (x:=.p 1 (toNat (i64.wrap ((AI d.1:Int)-1))*5+4)) ?_ ?_
       .exact H7 (gT Z) sQ Z Wp
       refine DS.v (x:=(I az.A8)) (Ez Z EE Z (Qo (f:=4) T)) ?_ (hg:=(gT Z));exact au g
      exact au g
     exact au g
    exact au g
   exact au g
  refine Gx 1 Z (Ee ae (Bd m λt j m=>Ct t [0,1,2] [2,6,7] (λt=>[(5,.o 1 (AI t) 5)]) (λt=>[(1,.r 139 5 (map CN.c t))]) Zf ?_ (λenv H ae=>?_)))
  .refine G0 0 Z (Cn Z j (λ_ j=>?_) (λ_ j=>?_))
   .refine Gc 5 Z (Bd j λba V j=>?_);refine vX (.p 2 (toNat d.2*4)) (Qd V Z EL EY) ?_;refine Fp g_ Z ?_;refine vX (I ba.BD) (Ez Z EE Z (Qo (f:=3) V)) ?_;refine Bd j λbd W j=>?_;refine vV (x:=(.p 1 (toNat (i64.wrap ((AI d.1:Int)-1))*5))) (Qd W Z ET Gd) ?_;refine Fp sQ Z (Bd j λbe X j=>?_);refine vU (Yp (e:=CN.c) (k:=5) (f:=4) W X EC Z Z) ?_;refine FE Z ?_;refine Et (QZ (s:=5) Z (congrArg (λn=>A.s 1 0 n 5) (Q6 X))) ?_;exact au j
   refine DU 28 Z (D 3 Z ?_);obtain⟨B,Y,j⟩:=QE j;refine DS.v (x:=(.p 2 (toNat d.2*4))) (Qd Y Z EL EY) ?_;refine DS.wo (x:=.p 2 (toNat d.2*4)) ?_ ?_
   .exact Fp lE Z Wp
   refine DS.v (x:=(I B.Al)) (Ez Z EE Z (Qh Y)) ?_;refine D 2 Z ?_;obtain⟨E,aa,j⟩:=QE j;refine DS.v (x:=(.p 2 (toNat d.2*4))) (Qd aa Z EL EY) ?_;refine DS.wo (x:=.p 2 (toNat d.2*4+1)) ?_ ?_
   .exact Fp lF Z Wp
   refine DS.v (x:=(I E.Ah)) (Ez Z EE Z (Qo (f:=1) aa)) ?_;refine D 2 Z ?_;obtain⟨F,ab,j⟩:=QE j;refine DS.v (x:=(.p 2 (toNat d.2*4))) (Qd ab Z EL EY) ?_;refine DS.wo (x:=.p 2 (toNat d.2*4+2)) ?_ ?_
   .exact Fp qG Z Wp
   refine DS.v (x:=(I F.BB)) (Ez Z EE Z (Qo (f:=2) ab)) ?_;refine D 2 Z ?_;obtain⟨G,ac,j⟩:=QE j;refine DS.v (x:=(.p 2 (toNat d.2*4))) (Qd ac Z EL EY) ?_;refine DS.wo (x:=.p 2 (toNat d.2*4+3)) ?_ ?_
   .exact Fp g_ Z Wp
   refine DS.v (x:=(I G.BD)) (Ez Z EE Z (Qo (f:=3) ac)) ?_;refine D 2 Z ?_;obtain⟨J,ad,j⟩:=QE j;refine DS.v (x:=(.p 2 (toNat d.2*4))) (Qd ad Z EL EY) ?_;refine DS.wo (x:=.p 2 (toNat d.2*4+3)) ?_ ?_
   .exact Fp g_ Z Wp
   refine DS.v (x:=(I J.BD)) (Ez Z EE Z (Qo (f:=3) ad)) ?_;refine D 1 Z ?_;refine DS.wo (x:=.q 5 (map CN.c [{Al:=B.Al,Ah:=E.Ah,BB:=F.BB,BQ:=G.BD,A8:=J.BD:CN}])) ?_ ?_
   .refine vH (QO (xs:=[.tmp 119]) (es:=map CN.c [{Al:=B.Al,Ah:=E.Ah,BB:=F.BB,BQ:=G.BD,A8:=J.BD:CN}]) ZW Z Z Z Z Z ⟨Z,trivial⟩ Z Z) ?_;exact FE Z Wp
   refine Eg Z (Bd j λbg am j=>vH (Qj (e:=CN.c) am ZW ET La) ?_);exact au j
  exact Gx 2 Z (Ee ae (Gc 5 Z (Q1 m (Lr [0,1,2]))))
 exact au h
def Tm(n:Nat)(q:Int)(f:AA CN)(d:(AA CN)×Int):AB (CG ((AA CN)×Int) (AA CN)):=(bif d.2<(AI f:Int) then AH (CJ f d.2) λg=>AH ((bif (g.BB==q)then AH (CJ f d.2) λh=>AH (app d.1 [h]) λj=>AC j else AC d.1):AB (AA CN)) λm=>AC (.k (m,i64.wrap (d.2+1)))else AC (.d d.1))
def P1(f:CB)(g:AA CI)(h:Int):AB (AA CN):=AH (PP n f g) λj=>AH (iter (Tm n h j) n (([]:AA CN),0):AB (AA CN)) λd=>AC d
instance jd(F:CB)(G:AA CI)(J:Int):Kq (P1 n F G J) 27 [.a (CB.c F),.q 57 (map CI.c G),I J] [] (λr=>.o 0 (AI r) 5) (λr=>[.r 139 5 (map CN.c r)]):=by
 refine Kg 10 func27 Z Z Z Z λr h=>Cd [] h Kc Z λT N h=>Fg 5 Z Z (vH (Ek (xs:=[]) ZW Z Z Z Z Z trivial Z Z) (Fg 9 Z Z (Bd h λg L h=>Cg g [1] [] (λg=>[(8,.o 0 (AI g) 5)]) (λg=>[(0,.r 139 5 (map CN.c g))]) Zf ?_ ?_)))
 .refine G0 1 Z (Lp [1,2] [2,7] (λj=>[(8,.o 1 (AI j.1) 5),(9,I j.2)]) (λj=>[(1,.r 139 5 (map CN.c j.1))]) L Zf (Lr [1,2]) λj O d x=>?_);refine G0 9 Z (Q8 Z d (λ_ d=>?_) (λ_ d=>?_))
  .exact Gc 2 Z (QH d (Gx 1 Z (DW x d (Lr [1]))))
  refine Gc 8 Z (Bd d λP q d=>(vV (Qd q Z ET Gd) ?_));refine Fp sM Z ?_;refine vV (Ez Z EE Z (Qo q)) (Go 4 Z (Bd d λm f d=>Ct m [0,0] [2,7,9] (λm=>[(8,.o 1 (AI m) 5)]) (λm=>[(1,.r 139 5 (map CN.c m))]) Zf ?_ (λenv H M=>?_)))
  .refine G0 0 Z (Cn Z f (λ_ f=>?_) (λ_ f=>?_))
   .refine Gc 4 Z (Bd f λQ t f=>(vV (Qd t Z ET Gd) ?_));refine vV (Qt Z isAgg139 Gd Z (Qh t) Z Z) (vH (Ek (xs:=[.tmp 31]) ZW Z Z Z Z Z ⟨Z,trivial⟩ Z Z) ?_);refine FE Z (Bd f λR E f=>vH (Qj (e:=CN.c) E ZW ET (QC (i:=2))) ?_);exact au f
   exact au f
  exact Gx 2 Z (Ee M (Gc 5 Z (Q1 d (Lr [0,1]))))
 exact au h
def nU(n:Nat)(f:(AA Int)×Int)(g:CI)(h:CI)(d:Int):AB (CG Int Int):=AH ((bif d<(AI f.1:Int) then AH (CJ f.1 d) λj=>AC (AG (j<(i64.wrap (g.Ag.BJ+h.Aj.BJ))))else AC AD):AB Bool) λm=>(bif m then AC (.k (i64.wrap (d+1)))else AC (.d d))
def Tw(j:AA CI)(G:Int)(d:(AA Int)×Int):AB (CG ((AA Int)×Int) (AA Int)):=(bif d.2<(AI j:Int) then AH (AH (CJ j d.2) λm=>(bif (m.AX != G)then AC d.1 else AH (CJ j d.2) λg=>AH (CJ j d.2) λh=>AH (iter (nU n d g h) n 0:AB Int) λf=>AH ((bif f<(AI d.1:Int) then AH (CJ d.1 f) λq=>AC (q==(i64.wrap (g.Ag.BJ+h.Aj.BJ)))else AC AD):AB Bool) λt=>(bif t then AC d.1 else AH (Dn d.1 f (AI d.1:Int)) λx=>AH (app [i64.wrap (g.Ag.BJ+h.Aj.BJ)] x) λy=>AH (Dn d.1 0 f) λB=>AH (app B y) λE=>AC E)):AB (AA Int)) λF=>AC (.k (F,i64.wrap (d.2+1)))else AC (.d d.1))
def MT(f:AA CI)(g:Int):AB (AA Int):=AH (iter (Tw n f g) n (([]:AA Int),0):AB (AA Int)) λd=>AC d
instance yo(a1:AA CI)(a2:Int):Kq (MT n a1 a2) 201 [.q 57 (map CI.c a1),I a2] [] (λr=>.o 0 (AI r) 1) (λr=>[.r 3 1 (map eI r)]):=by
 refine Kg 7 func201 Z Z Z Z λr h=>vH (Ek (xs:=[]) (es:=map eI []) QF Z Z Z Z Z trivial Z Z) ?_;refine Fg 9 Z Z (Bd h λF ai h=>Cg F [0] [] (λF=>[(5,.o 0 (AI F) 1)]) (λF=>[(0,.r 3 1 (map eI F))]) Zf ?_ ?_)
 .refine G0 1 Z (Lp [0] [0,1] (λj=>[(5,.o 0 (AI j.1) 1),(6,I j.2)]) (λj=>[(0,.r 3 1 (map eI j.1))]) ai Zf (Lr [0]) λj am m T=>?_);refine G0 5 Z (Lg 3 Z Z (Q8 Z m (λ_ m=>?_) (λ_ m=>?_)))
  .exact Gc 2 Z (QH m (Gx 1 Z (DW T m (Lr [0]))))
  refine Gc 3 Z (Bd m λG g m=>Cg G [0] [0,1,6] (λG=>[(5,.o 0 (AI G) 1)]) (λG=>[(0,.r 3 1 (map eI G))]) Zf ?_ ?_)
  .refine G0 6 Z (Bd g λan W g=>Iz W Z (Go 6 Z (Cn Z g (λ_ g=>?_) (λ_ g=>?_))))
   .exact au g
   refine Gc 3 Z (DU 12 Z (D 2 Z ?_));obtain⟨d,Y,g⟩:=QE g;refine DS.wo (x:=.rp [I d.BF,I d.No,I d.At,I d.AX,I d.AP.BU,I d.AP.AN,I d.AP.Aw,I d.AP.BK,I d.AP.B7,I d.AP.BB,I d.AP.Bl,I d.AP.B6,I d.A5.Al,I d.A5.Ah,I d.A5.BB,I d.A5.BD,I d.Aa.Al,I d.Aa.Ah,I d.Aa.BD,I d.Aa.True,I d.Aa.B8,I d.Ao.Bt,I d.Ao.Bg,I d.Ao.Bc,I d.Ao.Bs,I d.Ao.Bf,I d.Ao.Bb,I d.Ao.Bo,I d.Ao.Br,I d.Ae.BU,I d.Ae.AT,I d.Ae.Lo,I d.Ae.Hi,I d.Au.Al,I d.Au.Ah,I d.Au.Lo,I d.Au.Hi,I d.Be.A,I d.Be.B,I d.Aj.BJ,I d.Aj.BU,I d.Aj.AZ,I d.Aj.AT,I d.Ay.BJ,I d.Ay.By,I d.Ay.Bk,I d.Ay.B4,I d.Ag.BJ,I d.Ag.BW,I d.Ag.AX,I d.Ag.BU,I d.Ag.AT,I d.Ag.BO,I d.BE.BJ,.b d.BE.Bi,I d.Bq.BF,I d.Bq.No]) ?_ ?_
   .exact Ix Y ED EF Z Wp
   refine D 5 Z ?_;obtain⟨f,aa,g⟩:=QE g;refine DS.wo (x:=.rp [I f.BF,I f.No,I f.At,I f.AX,I f.AP.BU,I f.AP.AN,I f.AP.Aw,I f.AP.BK,I f.AP.B7,I f.AP.BB,I f.AP.Bl,I f.AP.B6,I f.A5.Al,I f.A5.Ah,I f.A5.BB,I f.A5.BD,I f.Aa.Al,I f.Aa.Ah,I f.Aa.BD,I f.Aa.True,I f.Aa.B8,I f.Ao.Bt,I f.Ao.Bg,I f.Ao.Bc,I f.Ao.Bs,I f.Ao.Bf,I f.Ao.Bb,I f.Ao.Bo,I f.Ao.Br,I f.Ae.BU,I f.Ae.AT,I f.Ae.Lo,I f.Ae.Hi,I f.Au.Al,I f.Au.Ah,I f.Au.Lo,I f.Au.Hi,I f.Be.A,I f.Be.B,I f.Aj.BJ,I f.Aj.BU,I f.Aj.AZ,I f.Aj.AT,I f.Ay.BJ,I f.Ay.By,I f.Ay.Bk,I f.Ay.B4,I f.Ag.BJ,I f.Ag.BW,I f.Ag.AX,I f.Ag.BU,I f.Ag.AT,I f.Ag.BO,I f.BE.BJ,.b f.BE.Bi,I f.Bq.BF,I f.Bq.No]) ?_ ?_
   .exact Ix aa ED EF Z Wp
   refine D 3 Z (Eg Z (Go 10 Z (Bd g λt aj g=>?_)));refine Ct t [0] [0,1,5,6,7] (λt=>[(8,I t)]) Ze Zf ?_ (λenv H R=>?_)
   .refine G0 1 Z (Lp [0] [0,1,5,6,7] (λJ=>[(8,I J)]) Ze aj Zf (Lr [0]) λJ ao q ab=>?_);refine G0 2 Z (Bd q λL y q=>Ct L [0] [0,1,5,6,7,8] (λL=>[(48,.b L)]) Ze Zf ?_ (λenv H R=>?_))
    .refine G0 6 Z (Is 41 y Z (λ_ y=>?_) (λ_ y=>?_))
     .refine Go 2 Z (Bd y λak N y=>?_);refine vX (.p 0 (toNat J*1)) (Qd N Z EB EC) ?_ (gT Z);refine vX (I ak) (Ez Z EE Z (Qh N)) ?_ (gT Z);exact au y
     exact au y
    refine Gx 1 Z (Ee R (Q8 Z q (λ_ q=>?_) (λ_ q=>?_)))
    .exact Gc 2 Z (QH q (Gx 1 Z (DW ab q (Lr [0]))))
    exact au q
   refine Gx 1 Z (Ee R (Gc 2 Z (Bd g λM E g=>Cg M [0] [0,1,5,6,7,8] (λM=>[(62,.b M)]) Ze Zf ?_ ?_)))
   .refine G0 6 Z (Is 55 E Z (λ_ E=>?_) (λ_ E=>?_))
    .refine Go 2 Z (Bd E λal O E=>?_);refine vX (.p 0 (toNat t*1)) (Qd O Z EB EC) ?_ (gT Z);refine vX (I al) (Ez Z EE Z (Qh O)) ?_ (gT Z);exact au E
    exact au E
   refine Cn Z g (λ_ g=>?_) (λ_ g=>?_)
   .exact au g
   refine Gc 5 Z (vH (Ek (xs:=[.tmp 63]) (es:=map eI [i64.wrap (d.Ag.BJ+f.Aj.BJ)]) QF Z Z Z Z Z ⟨Z,trivial⟩ Z Z) ?_);refine Fg 2 Z Z (Bd g λaq P g=>?_);refine vX (.s 0 (0+toNat t) (toNat (AI j.1:Int)-toNat t) 1) (QP (l:=j.1) P EB EC (.inr ⟨_,Z,Z⟩) (.inl ⟨Z,Z⟩)) ?_;refine Bd g λar ag g=>vH (Qj (e:=eI) ag QF EB (LZ (b:=0) P)) ?_;refine Fg 7 Z Z (Bd g λav Q g=>?_);refine vX (.s 0 (0+toNat 0) (toNat t-toNat 0) 1) (dc (l:=j.1) Q EB EC) ?_;refine Go 1 Z (Bd g λaw ah g=>vH (da (e:=eI) Q ah QF EB (QC (i:=2))) ?_);exact au g
  exact au m
 exact au h
def UL(n:Nat)(g:AA CI)(y:AA Int)(f:(AA Aj)×Int)(d:Int):AB (CG Int (AA Aj)):=(bif d<(AI g:Int) then AH (AH (CJ g d) λh=>(bif (h.AX==8)then AH (CJ g d) λj=>AH (CJ y f.2) λm=>AC (j.Aj.BJ==m)else AC AD):AB Bool) λq=>(bif q then AH (CJ g d) λt=>AH (app f.1 [t.Aj]) λx=>AC (.d x)else AC (.k (i64.wrap (d+1))))else AC (.d f.1))
def Ti(h:AA CI)(g:AA Int)(d:(AA Aj)×Int):AB (CG ((AA Aj)×Int) (AA Aj)):=(bif d.2<(AI g:Int) then AH (iter (UL n h g d) n 0:AB (AA Aj)) λf=>AC (.k (f,i64.wrap (d.2+1)))else AC (.d d.1))
def Ml(g:AA CI):AB (AA Aj):=AH (Kx n g) λf=>AH (MT n f 8) λh=>AH (iter (Ti n f h) n (([]:AA Aj),0):AB (AA Aj)) λd=>AC d
instance zF(a1:AA CI):Kq (Ml n a1) 133 [.q 57 (map CI.c a1)] [] (λr=>.o 0 (AI r) 4) (λr=>[.r 110 4 (map Aj.c r)]):=by
 refine Kg 8 func133 Z Z Z Z λr h=>Cd [] h Kc Z λr1 af h=>Fg 6 Z Z ?_;refine Et (Yl [(3,_),(9,_),(10,_)] Z Z (Cx.cons Z Ep (Cx.cons Z Ep (Cx.cons Z Ep Cx.nil))) (Ec (QU _))) ?_;refine Cd [] h Kc Z λr2 ag h=>Fg 5 Z Z (vH (Ek (xs:=[]) (es:=map Aj.c []) kW Z Z Z Z Z trivial Z Z) ?_);refine Fg 9 Z Z (Bd h λq W h=>Cg q [1] [] (λq=>[(5,.o 0 (AI q) 4)]) (λq=>[(0,.r 110 4 (map Aj.c q))]) Zf ?_ ?_)
 .refine G0 1 Z (Lp [1,2] [3,4] (λm=>[(5,.o 1 (AI m.1) 4),(6,I m.2)]) (λm=>[(1,.r 110 4 (map Aj.c m.1))]) W Zf (Lr [1,2]) λm ac j L=>?_);refine G0 9 Z (Q8 Z j (λ_ j=>?_) (λ_ j=>?_))
  .exact Gc 2 Z (QH j (Gx 1 Z (DW L j (Lr [1]))))
  refine Gc 9 Z (Bd j λt X j=>Ct t [0,1] [3,4,6] (λt=>[(5,.o 1 (AI t) 4)]) (λt=>[(1,.r 110 4 (map Aj.c t))]) Zf ?_ (λenv H G=>?_))
  .refine G0 1 Z (Lp [0,1] [3,4,5,6] (λJ=>[(7,I J)]) Ze X Zf (Lr [0,1]) λJ ad f E=>?_);refine G0 5 Z (Lg 3 Z Z (Q8 Z f (λ_ f=>?_) (λ_ f=>?_)))
   .exact Gc 2 Z (QH f (Gx 1 Z (DW E f (Lr [0,1]))))
   refine Gc 5 Z (Bd f λy g f=>Ct y [0,1] [3,4,5,6,7] (λy=>[(43,.b y)]) Ze Zf ?_ (λenv H G=>?_))
   .refine G0 0 Z (DU 17 Z (D 2 Z ?_));obtain⟨d,O,g⟩:=QE g;refine DS.wo (x:=.rp [I d.BF,I d.No,I d.At,I d.AX,I d.AP.BU,I d.AP.AN,I d.AP.Aw,I d.AP.BK,I d.AP.B7,I d.AP.BB,I d.AP.Bl,I d.AP.B6,I d.A5.Al,I d.A5.Ah,I d.A5.BB,I d.A5.BD,I d.Aa.Al,I d.Aa.Ah,I d.Aa.BD,I d.Aa.True,I d.Aa.B8,I d.Ao.Bt,I d.Ao.Bg,I d.Ao.Bc,I d.Ao.Bs,I d.Ao.Bf,I d.Ao.Bb,I d.Ao.Bo,I d.Ao.Br,I d.Ae.BU,I d.Ae.AT,I d.Ae.Lo,I d.Ae.Hi,I d.Au.Al,I d.Au.Ah,I d.Au.Lo,I d.Au.Hi,I d.Be.A,I d.Be.B,I d.Aj.BJ,I d.Aj.BU,I d.Aj.AZ,I d.Aj.AT,I d.Ay.BJ,I d.Ay.By,I d.Ay.Bk,I d.Ay.B4,I d.Ag.BJ,I d.Ag.BW,I d.Ag.AX,I d.Ag.BU,I d.Ag.AT,I d.Ag.BO,I d.BE.BJ,.b d.BE.Bi,I d.Bq.BF,I d.Bq.No]) ?_ ?_
    .exact Ix O ED EF Z Wp
    refine D 4 Z (DS.is 6 g Z Z Z (λ_ g=>?_) (λ_ g=>?_))
    .refine D 2 Z ?_;obtain⟨Y,Q,g⟩:=QE g;refine DS.v (NB (e:=CI.c) (l:=r1) (v:=Y) Q ED EF) ?_ (hg:=(gT Z));refine D 5 Z ?_;obtain⟨aa,F,g⟩:=QE g;refine DS.v (x:=(.p 0 (toNat m.2*1))) (Qd F Z EB EC) ?_ (hg:=(gT Z));refine DS.v (x:=(I aa)) (Ez Z EE Z (Qh F)) ?_ (hg:=(gT Z));exact au g
    exact au g
   refine Gx 1 Z (Ee G (Cn Z f (λ_ f=>?_) (λ_ f=>?_)))
   .refine Gc 5 Z (Bd f λab T f=>Iz T Z (Go 2 Z (vH (Ek (xs:=[.tmp 49]) (es:=map Aj.c [ab.Aj]) kW Z Z Z Z Z ⟨Z,trivial⟩ Z Z) ?_)));refine FE Z (Bd f λae V f=>vH (Qj (e:=Aj.c) V kW Gm (QC (i:=2))) ?_);refine Fg 6 Z Z (QH f ?_);obtain rfl:=Oj E f;exact Gx 1 Z (N5 (Lr [0,3]))
   exact au f
  exact Gx 2 Z (Ee G (Gc 5 Z (Q1 j (Lr [0,1]))))
 exact au h
def nk(n:Nat)(f:AA Int)(j:Int)(d:Int):AB (CG Int Int):=AH ((bif d<(AI f:Int) then AH (CJ f d) λg=>AC (AG (g<j))else AC AD):AB Bool) λh=>(bif h then AC (.k (i64.wrap (d+1)))else AC (.d d))
def Mc(d:AA Int)(g:Int):AB (AA Int):=AH (iter (nk n d g) n 0:AB Int) λf=>AH ((bif f<(AI d:Int) then AH (CJ d f) λh=>AC (h==g)else AC AD):AB Bool) λj=>(bif j then AC d else AH (Dn d f (AI d:Int)) λm=>AH (app [g] m) λq=>AH (Dn d 0 f) λt=>AH (app t q) λx=>AC x)
instance yy(j:AA Int)(R:Int):Kq (Mc n j R) 134 [.o 0 (AI j) 1,I R] [.r 3 1 (map eI j)] (λr=>.o 1 (AI r) 1) (λr=>[.dead,.r 3 1 (map eI r)]):=by
 refine Kg 11 func134 Z Z Z Z λr h=>Bd h λm T h=>Ct m [0] [0,1] (λm=>[(5,I m)]) Ze Zf ?_ (λenv H q=>?_)
 .refine G0 1 Z (Lp [0] [0,1] (λG=>[(5,I G)]) Ze T Zf (Lr [0]) λG V d J=>?_);refine G0 2 Z (Bd d λt f d=>Ct t [0] [0,1,5] (λt=>[(18,.b t)]) Ze Zf ?_ (λenv H q=>?_))
  .refine G0 6 Z (Is 11 f Z (λ_ f=>?_) (λ_ f=>?_))
   .refine Go 2 Z (Bd f λW x f=>?_);refine vV (Qd x Z EB EC) ?_ (gT Z);refine vV (Ez Z EE Z (Qh x)) ?_ (gT Z);exact au f
   exact au f
  refine Gx 1 Z (Ee q (Q8 Z d (λ_ d=>?_) (λ_ d=>?_)))
  .exact Gc 2 Z (QH d (Gx 1 Z (DW J d (Lr [0]))))
  exact au d
 refine Gx 1 Z (Ee q (Gc 2 Z (Bd h λy g h=>Cg y [0] [0,1,5] (λy=>[(32,.b y)]) Ze Zf ?_ ?_)))
 .refine G0 6 Z (Is 25 g Z (λ_ g=>?_) (λ_ g=>?_))
  .refine Go 2 Z (Bd g λX B g=>?_);refine vV (Qd B Z EB EC) ?_ (gT Z);refine vV (Ez Z EE Z (Qh B)) ?_ (gT Z);exact au g
  exact au g
 refine Cn Z h (λ_ h=>?_) (λ_ h=>?_)
 .refine Gc 8 Z ?_;obtain rfl:=Oi h;refine R1 4 Z ?_;refine En (mO (s:=4) (i:=0) Z Z Z) ?_;exact Lr [0,1]
 refine Gc 5 Z (vH (Ek (xs:=[.tmp 34]) QF Z Z Z Z Z ⟨Z,trivial⟩ Z Z) ?_);refine Fg 2 Z Z (Bd h λY E h=>?_);refine vV (QP (l:=j) E EB EC (.inr ⟨_,Z,Z⟩) (.inl ⟨Z,Z⟩)) ?_;refine Bd h λaa P h=>vH (Qj P QF EB (LZ (b:=0) E)) ?_;refine Fg 8 Z Z (Bd h λab F h=>?_);refine vV (dc (l:=j) F EB EC) ?_;refine Go 1 Z (Bd h λac Q h=>vH (da F Q QF EB (QC (i:=2))) ?_);exact au h
def MM(n:Nat)(f:AA CI)(q:Int)(t:Int)(d:Int):AB (CG Int (CG Unit Int)):=(bif d<(AI f:Int) then AH (AH (CJ f d) λg=>(bif (g.AX==10)then AH (CJ f d) λh=>(bif (h.Ag.BJ==q)then AH (CJ f d) λj=>AC (j.Ag.BW==t)else AC AD)else AC AD):AB Bool) λm=>(bif m then AC (.d (.d d))else AC (.k (i64.wrap (d+1))))else AC (.d (.k ())))
def IP(g:AA CI)(h:Int)(j:Int):AB Int:=AH (iter (MM n g h j) n 0:AB (CG Unit Int)) λf=>match f with|.k d=>(AC (-1))|.d d=>AC d
instance zn(d:AA CI)(f:Int)(g:Int):Ks (IP n d f g) 274 [.q 57 (map CI.c d),I f,I g] [] (λr=>I r):=KA func274
def V0(n:Nat)(f:AA CI)(q:Int)(d:Int):AB (CG Int (CG Unit Bool)):=(bif d<(AI f:Int) then AH (AH (CJ f d) λg=>(bif (g.AX==11)then AH (CJ f d) λh=>(bif (h.BE.BJ==q)then AH (CJ f d) λj=>AC j.BE.Bi else AC AD)else AC AD):AB Bool) λm=>(bif m then AC (.d (.d AE))else AC (.k (i64.wrap (d+1))))else AC (.d (.k ())))
def Pi(f:AA CI)(g:Int):AB Bool:=AH (AH (IP n f g 1) λj=>(bif j<0 then AC AE else AH (IP n f g 2) λm=>AC (AG (0<=m))):AB Bool) λq=>(bif q then AC AD else AH (iter (V0 n f g) n 0:AB (CG Unit Bool)) λh=>match h with|.k d=>(AC AD)|.d d=>AC d)
instance ye(d:AA CI)(f:Int):Ks (Pi n d f) 273 [.q 57 (map CI.c d),I f] [] (λr=>.b r):=KA func273
def KD(d:AA CI)(f:Int):AB Int:=AH (Pi n d f) λh=>(bif h then AC (-1)else AH (IP n d f 2) λg=>(bif 0<=g then AC g else AH (IP n d f 1) λj=>AC j))
instance zZ(d:AA CI)(f:Int):Ks (KD n d f) 202 [.q 57 (map CI.c d),I f] [] (λr=>I r):=KA func202
def TO(g:AA CI)(h:AA Int)(d:(AA Ag)×Int):AB (CG ((AA Ag)×Int) (AA Ag)):=(bif d.2<(AI h:Int) then AH (CJ h d.2) λj=>AH (KD n g j) λf=>AH ((bif 0<=f then AH (CJ g f) λm=>AH (app d.1 [m.Ag]) λq=>AC q else AC d.1):AB (AA Ag)) λt=>AC (.k (t,i64.wrap (d.2+1)))else AC (.d d.1))
def Og(g:AA CI):AB (AA Ag):=AH (Kx n g) λd=>AH (MT n d 10) λh=>AH (iter (TO n d h) n (([]:AA Ag),0):AB (AA Ag)) λf=>AC f
instance xY(F:AA CI):Kq (Og n F) 135 [.q 57 (map CI.c F)] [] (λr=>.o 0 (AI r) 6) (λr=>[.r 114 6 (map Ag.c r)]):=by
 refine Kg 8 func135 Z Z Z Z λr h=>Cd [] h Kc Z λV M h=>Fg 6 Z Z ?_;refine Et (Yl [(3,_),(9,_),(10,_)] Z Z (Cx.cons Z Ep (Cx.cons Z Ep (Cx.cons Z Ep Cx.nil))) (Ec (QU _))) (Cd [] h Kc Z λW N h=>Fg 5 Z Z (vH (Ek (xs:=[]) kX Z Z Z Z Z trivial Z Z) ?_));refine Fg 9 Z Z (Bd h λg G h=>Cg g [1] [] (λg=>[(5,.o 0 (AI g) 6)]) (λg=>[(0,.r 114 6 (map Ag.c g))]) Zf ?_ ?_)
 .refine G0 1 Z (Lp [1,2] [3,4] (λj=>[(5,.o 1 (AI j.1) 6),(6,I j.2)]) (λj=>[(1,.r 114 6 (map Ag.c j.1))]) G Zf (Lr [1,2]) λj O d t=>?_);refine G0 9 Z (Q8 Z d (λ_ d=>?_) (λ_ d=>?_))
  .exact Gc 2 Z (QH d (Gx 1 Z (DW t d (Lr [1]))))
  refine Gc 9 Z (Bd d λP q d=>(vV (Qd q Z EB EC) ?_));refine vV (Ez Z EE Z (Qh q)) ?_;refine Cz [] d Kc Z λQ L d=>Go 9 Z (Bd d λm f d=>Ct m [0,0] [3,4,6] (λm=>[(5,.o 1 (AI m) 6)]) (λm=>[(1,.r 114 6 (map Ag.c m))]) Zf ?_ (λenv H J=>?_))
  .refine G0 0 Z (Cn Z f (λ_ f=>?_) (λ_ f=>?_))
   .refine Gc 4 Z (Bd f λR B f=>Iz B Z (Go 2 Z (vH (Ek (xs:=[.tmp 32]) kX Z Z Z Z Z ⟨Z,trivial⟩ Z Z) ?_)));refine FE Z (Bd f λT E f=>vH (Qj (e:=Ag.c) E kX GR (QC (i:=2))) ?_);exact au f
   exact au f
  exact Gx 2 Z (Ee J (Gc 5 Z (Q1 d (Lr [0,1]))))
 exact au h
def PD(g:AA CI)(h:Int):AB (Ag×Bool):=AH (Kx n g) λd=>AH (KD n d h) λf=>(bif f<0 then AC (UF,AD)else AH (CJ d f) λj=>AC (j.Ag,AE))
instance yA(f:AA CI)(g:Int):Kq (PD n f g) 203 [.q 57 (map CI.c f),I g] [] (λr=>.t [.a (Ag.c r.1),.b r.2]) (λr=>[.c 114 (Ag.c r.1)]):=by
 refine Kg 9 func203 Z Z Z Z λr h=>Cd [] h Kc Z λt m h=>Fg 7 Z Z (Cb h Kc Z (lo (ls ln)) λx q h=>Go 10 Z (Cn Z h (λ_ h=>?_) (λ_ h=>?_)))
 .exact au h
 refine Gc 6 Z (Bd h λy d h=>(vV (Qd d Z ED EF) ?_));refine Fp Qmn Z (vV (Qt Z isAgg114 GW Z (Qo d) Z Z) ?_);exact au h
def U1(n:Nat)(j:Int)(f:AA Aj)(d:Int):AB (CG Int (CG Unit (Aj×Bool))):=(bif d<(AI f:Int) then AH (CJ f d) λg=>(bif (g.BJ==j)then AH (CJ f d) λh=>AC (.d (.d (h,AE)))else AC (.k (i64.wrap (d+1))))else AC (.d (.k ())))
def PH(g:AA CI)(h:Int):AB (Aj×Bool):=AH (Ml n g) λj=>AH (iter (U1 n h j) n 0:AB (CG Unit (Aj×Bool))) λf=>match f with|.k d=>(AC (UE,AD))|.d d=>AC d
instance yE(x:AA CI)(y:Int):Kq (PH n x y) 204 [.q 57 (map CI.c x),I y] [] (λr=>.t [.a (Aj.c r.1),.b r.2]) (λr=>[.c 110 (Aj.c r.1)]):=by
 refine Kg 9 func204 Z Z Z Z λr h=>Cd [] h Kc Z λN H h=>Fg 9 Z Z (Bd h λB E h=>E_ (b:=B) [0] [4] Ze Ze Zf ?_ (λ_ F=>?_))
 .refine G0 1 Z (Lp [0,1] [1,4,6] (λm=>[(7,I m)]) Ze E Zf (Lr [0,1]) λm J d f=>(G0 9 Z (Q8 Z d (λ_ d=>?_) (λ_ d=>?_))))
  .exact Je f d
  refine Gc 8 Z (Bd d λL g d=>(vV (Qd g Z Gm GN) ?_));refine Fp sK Z (vV (Ez Z EE Z (Qh g)) ?_);refine Go 4 Z (Cn Z d (λ_ d=>?_) (λ_ d=>?_))
  .refine Gc 4 Z (Bd d λM j d=>(vV (Qd j Z Gm GN) ?_));refine vV (Qt Z isAgg110 GN Z (Qh j) Z Z) (Go 7 Z (JV d ?_));obtain rfl:=Oj f d;exact au h
  exact au d
 subst F;exact au h
def P5(j:CB)(m:AA CI)(q:Int):AB (Int×CF×Bool):=AH (PD n m q) λd=>AH ((bif d.2 then(bif (d.1.AX==3)then AC (.d (d.1.BU,{AT:=d.1.AT,BX:=d.1.BO,Ax:=0,BM:=AD:CF},AE))else(bif (d.1.AX==4)then AC (.d (d.1.BU,{AT:=d.1.AT,BX:=0,Ax:=d.1.BO,BM:=AD:CF},AE))else(bif (d.1.AX==5)then AC (.d (d.1.BU,{AT:=d.1.AT,BX:=0,Ax:=0,BM:=AE:CF},AE))else(bif (d.1.AX==2)then AC (.d (0,UB,AD))else AC (.k ())))))else AC (.k ())):AB (CG Unit (Int×CF×Bool))) λx=>match x with|.k h=>(AH (PH n m q) λf=>AH ((bif (!f.2)then AC AE else(bif f.1.AZ<0 then AC AE else AC (AG ((AI j.Ab:Int)<=f.1.AZ)))):AB Bool) λt=>(bif t then AC (0,UB,AD)else AH (CJ j.Ab f.1.AZ) λg=>AC (f.1.BU,{AT:=f.1.AT,BX:=g.BX,Ax:=g.Ax,BM:=g.BM:CF},AE)))|.d h=>AC h
instance jk(t:CB)(x:AA CI)(y:Int):Kq (P5 n t x y) 136 [.a (CB.c t),.q 57 (map CI.c x),I y] [] (λr=>.t [I r.1,.a (CF.c r.2.1),.b r.2.2]) (λr=>[.c 50 (CF.c r.2.1)]):=by
 refine Kg 12 func136 Z Z Z Z λr h=>Cd [] h Kc Z λO L h=>Fg 14 Z Z (Bd h λG d h=>Fe (b:=G) [0,1] [1,2,3,7] Ze Ze Zf ?_ (λM env H hb B=>?_))
 .refine G0 0 Z (Cn Z d (λ_ d=>?_) (λ_ d=>?_))
  .refine Gc 13 Z (Cn Z d (λ_ d=>?_) (λ_ d=>?_))
   .refine Gc 1 Z (DU 8 Z (D 8 Z (Eg Z (Go 6 Z ?_))));cases d;exact au h
   refine Gc 6 Z (Cn Z d (λ_ d=>?_) (λ_ d=>?_))
   .refine Gc 1 Z (DU 8 Z (D 8 Z (Eg Z (Go 6 Z ?_))));cases d;exact au h
   refine Gc 6 Z (Cn Z d (λ_ d=>?_) (λ_ d=>?_))
   .refine Gc 1 Z (DU 6 Z (D 6 Z (Eg Z (Go 6 Z ?_))));cases d;exact au h
   refine Gc 6 Z (Cn Z d (λ_ d=>?_) (λ_ d=>?_))
   .refine Gc 10 Z ?_;cases d;exact au h
   refine Gc 2 Z ?_;cases d;exact Ki Z (Lr [0,1])
  refine Gc 1 Z ?_;cases d;exact Ki Z (Lr [0,1])
 subst hb;refine Gx 1 Z (Ee B (Gc 4 Z (Cd [] h Kc Z λN J h=>Fg 10 Z Z (Bd h λf F h=>Cg f [0,1,3] [3,7,11] (λf=>[(71,.b f)]) Ze Zf ?_ ?_))))
 .exact au F
 exact au h
def TN(f:AA Aj)(d:(AA Int)×Int):AB (CG ((AA Int)×Int) (AA Int)):=(bif d.2<(AI f:Int) then AH (CJ f d.2) λg=>AH (Mc n d.1 g.BJ) λh=>AC (.k (h,i64.wrap (d.2+1)))else AC (.d d.1))
def T8(f:AA Ag)(d:(AA Int)×Int):AB (CG ((AA Int)×Int) (AA Int)):=(bif d.2<(AI f:Int) then AH (CJ f d.2) λg=>AH (Mc n d.1 g.BJ) λh=>AC (.k (h,i64.wrap (d.2+1)))else AC (.d d.1))
def VV(y:CB)(B:AA CI)(E:Int)(f:AA Int)(d:(AA Int)×(AA CF)×Int):AB (CG ((AA Int)×(AA CF)×Int) ((AA Int)×(AA CF))):=(bif d.2.2<(AI f:Int) then AH (CJ f d.2.2) λj=>AH (P5 n y B j) λg=>AH ((bif g.2.2 then AC (g.1==E)else AC AD):AB Bool) λm=>AH ((bif m then AH (CJ f d.2.2) λq=>AH (app d.1 [q]) λt=>AH (app d.2.1 [g.2.1]) λx=>AC (t,x)else AC (d.1,d.2.1)):AB ((AA Int)×(AA CF))) λh=>AC (.k (h.1,h.2,i64.wrap (d.2.2+1)))else AC (.d (d.1,d.2.1)))
def Pn(g:CB)(f:AA CI)(q:Int):AB ((AA Int)×(AA CF)):=AH (HL n g) λt=>(bif (t != 0)then AC ([],[])else AH (Ml n f) λx=>AH (iter (TN n x) n (([]:AA Int),0):AB (AA Int)) λh=>AH (Og n f) λj=>AH (iter (T8 n j) n (h,0):AB (AA Int)) λm=>AH (iter (VV n g f q m) n (([]:AA Int),([]:AA CF),0):AB ((AA Int)×(AA CF))) λd=>AC (d.1,d.2))
instance yh(J:CB)(W:AA CI)(a3:Int):Kq (Pn n J W a3) 76 [.a (CB.c J),.q 57 (map CI.c W),I a3] [] (λr=>.t [.o 0 (AI r.1) 1,.o 1 (AI r.2) 4]) (λr=>[.r 3 1 (map eI r.1),.r 50 4 (map CF.c r.2)]):=by
 refine Kg 11 func76 Z Z Z Z λr h=>Cz [] h Kc Z λr1 aq h=>Go 3 Z (Cn Z h (λ_ h=>?_) (λ_ h=>?_))
 .refine Gc 8 Z ?_;obtain rfl:=Oi h;refine R2 6 7 Z Z ?_;refine En (Er (s:=6) (k:=1) (t:=3) (XQ Z) Z) ?_;refine En (Er (s:=7) (k:=4) (t:=50) (XQ Z) Z) ?_;exact Lr [1,2]
 refine Gc 4 Z (vH (Ek (xs:=[]) (es:=map eI []) QF Z Z Z Z Z trivial Z Z) ?_);refine Fg 6 Z Z (Cd [] h Kc Z λr3 ar h=>Fg 9 Z Z (Bd h λM ai h=>Ct M [0,1] [1,2,3] (λM=>[(8,.o 1 (AI M) 1)]) (λM=>[(1,.r 3 1 (map eI M))]) Zf ?_ (λenv H y=>?_)))
 .refine G0 1 Z (Lp [0,1,2] [1,2,3,9] (λF=>[(8,.o 1 (AI F.1) 1),(10,I F.2)]) (λF=>[(1,.r 3 1 (map eI F.1))]) ai Zf (Lr [0,1,2]) λF av q X=>?_);refine G0 9 Z (Q8 Z q (λ_ q=>?_) (λ_ q=>?_))
  .exact Gc 2 Z (QH q (Gx 1 Z (DW X q (Lr [0,1]))))
  refine Gc 8 Z (Bd q λaj N q=>?_);refine vX (.p 2 (toNat F.2*4)) (Qd N Z Gm GN) ?_;refine Fp sK Z ?_;refine vX (I aj.BJ) (Ez Z EE Z (Qh N)) ?_;exact au q
 refine Gx 1 Z (Ee y (Gc 3 Z (Cd [] h Kc Z λaw ao h=>Fg 9 Z Z (Bd h λj ak h=>Ct j [0,1] [1,2,3] (λj=>[(8,.o 1 (AI j) 1)]) (λj=>[(1,.r 3 1 (map eI j))]) Zf ?_ (λenv H y=>?_)))))
 .refine G0 1 Z (Lp [0,1,2] [1,2,3,11] (λG=>[(8,.o 1 (AI G.1) 1),(12,I G.2)]) (λG=>[(1,.r 3 1 (map eI G.1))]) ak Zf (Lr [0,1,2]) λG ax x aa=>?_);refine G0 9 Z (Q8 Z x (λ_ x=>?_) (λ_ x=>?_))
  .exact Gc 2 Z (QH x (Gx 1 Z (DW aa x (Lr [0,1]))))
  refine Gc 8 Z (Bd x λal O x=>?_);refine vX (.p 2 (toNat G.2*6)) (Qd O Z GR GW) ?_;refine Fp Qox Z ?_;refine vX (I al.BJ) (Ez Z EE Z (Qh O)) ?_;exact au x
 refine Gx 1 Z (Ee y (Gc 2 Z (vH (Ek (xs:=[]) (es:=map eI []) QF Z Z Z Z Z trivial Z Z) ?_)));refine Fg 5 Z Z (vH (Ek (xs:=[]) (es:=map CF.c []) L6 Z Z Z Z Z trivial Z Z) ?_);refine Fg 9 Z Z (Bd h λB am h=>Cg B [2,3] [] (λB=>[(13,.o 0 (AI B.1) 1),(14,.o 1 (AI B.2) 4)]) (λB=>[(0,.r 3 1 (map eI B.1)),(1,.r 50 4 (map CF.c B.2))]) Zf ?_ ?_)
 .refine G0 1 Z (Lp [0,1,2,3] [1,2,3,8] (λd=>[(13,.o 2 (AI d.1) 1),(14,.o 3 (AI d.2.1) 4),(15,I d.2.2)]) (λd=>[(2,.r 3 1 (map eI d.1)),(3,.r 50 4 (map CF.c d.2.1))]) am Zf (Lr [0,1,2,3]) λd ay g ac=>?_);refine G0 9 Z (Q8 Z g (λ_ g=>?_) (λ_ g=>?_))
  .exact Gc 2 Z (QH g (Gx 1 Z (DW ac g (Lr [2,3]))))
  refine Gc 5 Z ?_;obtain⟨P,L,g⟩:=QE g;obtain⟨f,Q,g⟩:=QE g;refine Yv 14 1 [62,63,64,65,66,67,68,61,69,70,71,17,16,1000013] [AD,AD,AD,AD,AD,AD,AE,AD,AD,AD,AD,AE,AD,AE] [[],[],[],[],[],[],[],[6],[6],[6],[6],[],[6,11],[6,11]] [[],[6],[11],[6,11],[6,11,13]] [[(0,0),(2,2)],[(0,0),(2,2)],[(0,0),(2,2)],[(0,0),(2,2)],[(0,0),(2,2)],[(0,0),(2,2)],[(0,1),(2,3)],[(1,1),(3,3)],[(1,1),(3,3)],[(1,1),(3,3)],[(1,1),(3,3),(4,4)],[(0,2),(1,3)],[(3,3)],[(3,4)]] [.a (CB.c J),.q 57 (map CI.c W),.o 1 (AI j) 1,I d.2.2,.p 1 (toNat d.2.2*1),I P,.t [I f.1,.a (CF.c f.2.1),.b f.2.2],.t [I f.1,.a (CF.c f.2.1),.b f.2.2],I f.1,.a (CF.c f.2.1),.b f.2.2,.p 4 0,I f.1,.any] [[.c 33 (CB.c J),.r 3 1 (map eI j),.r 3 1 (map eI d.1),.r 50 4 (map CF.c d.2.1),.dead],[.c 33 (CB.c J),.r 3 1 (map eI j),.r 3 1 (map eI d.1),.r 50 4 (map CF.c d.2.1),.dead,.c 50 (CF.c f.2.1)],[.c 33 (CB.c J),.r 3 1 (map eI j),.r 3 1 (map eI d.1),.r 50 4 (map CF.c d.2.1),.c 50 (CF.c UB)],[.c 33 (CB.c J),.r 3 1 (map eI j),.r 3 1 (map eI d.1),.r 50 4 (map CF.c d.2.1),.c 50 (CF.c UB),.c 50 (CF.c f.2.1)],[.c 33 (CB.c J),.r 3 1 (map eI j),.r 3 1 (map eI d.1),.r 50 4 (map CF.c d.2.1),.c 50 (CF.c f.2.1),.c 50 (CF.c f.2.1)]] ([.c 33 (CB.c J),.r 3 1 (map eI j),.r 3 1 (map eI d.1),.r 50 4 (map CF.c d.2.1),.c 50 (CF.c f.2.1),.c 50 (CF.c f.2.1)]) DF Z Z Z Z Z Z Z ?_ Z ?_
  .refine M1 (M1 (M1 (M1 (Cq.cons ?_ (Cq.cons ?_ (Cq.cons ?_ (M1 (M1 (M1 (M1 (Cq.cons ?_ (M1 (Cq.cons ?_ (Cq.nil))))))))))))))
   .refine Qb ?_ (Qb ?_ (Qf))
    iterate 2 refine Om Z (sD 2 (sD 3 sN)) ?_;refine vX (.p 1 (toNat d.2.2*1)) (Qd L Z EB EC) ?_;exact Wp
   .refine Qb ?_ (Qb ?_ (Qf))
    iterate 2 refine Om Z (sD 4 sN) ?_;refine vX (I P) (Ez Z EE Z (Qh L)) ?_;exact Wp
   .refine Qb ?_ (Qb ?_ (Qf))
    iterate 2 refine F9 Z (sD 0 (sD 1 (sD 5 sN))) ?_;refine Qg [] (C8.fn call136 Z Z Z) ((jk _ _ _ _).c _ Q) ?_;rintro _ _ ⟨rfl,rfl⟩;exact FE Z Wp
   .refine Qb ?_ (Qb ?_ (Qf))
    iterate 2 exact Jm.alloc _ 17 50 4 _ Z Z Z Z Z Z Z (JW.alloc (v:=(.a [I 0,I 0,I 0,.b AD])) zeroValue50 (Fu Z)) Z
   .refine Qb ?_ (Qf)
    .refine TH Z (sD 11 (sD 9 sN)) ?_;refine vU (Ey Z Z Z Gf Z Z Z Z Z Z Z) ?_;exact FE Z Wp
  refine Go 4 Z (Bd g λR an g=>Ct R [0,1,2,3,4] [1,2,3,8,13,14,15,17] (λR=>[(77,.b R)]) Ze Zf ?_ (λenv H y=>?_))
  .exact au an
  refine Gx 1 Z (Ee y (Bd g λE m g=>Ct E [0,1,0,0] [1,2,3,8,15] (λE=>[(13,.o 2 (AI E.1) 1),(14,.o 3 (AI E.2) 4)]) (λE=>[(2,.r 3 1 (map eI E.1)),(3,.r 50 4 (map CF.c E.2))]) Zf ?_ (λenv H y=>?_)))
  .refine G0 0 Z (Cn Z m (λ_ m=>?_) (λ_ m=>?_))
   .refine Gc 5 Z (Bd m λV T m=>?_);refine vX (.p 1 (toNat d.2.2*1)) (Qd T Z EB EC) ?_;refine vX (I V) (Ez Z EE Z (Qh T)) ?_;refine vH (Ek (xs:=[.tmp 82]) (es:=map eI [V]) QF Z Z Z Z Z ⟨Z,trivial⟩ Z Z) ?_;refine FE Z (Bd m λaz af m=>vH (Qj (e:=eI) af QF EB (QC (i:=5))) ?_);refine Fg 6 Z Z (vH (Ek (xs:=[.tmp 86]) (es:=map CF.c [f.2.1]) L6 Z Z Z Z Z ⟨Z,trivial⟩ Z Z) ?_);refine FE Z (Bd m λba ag m=>vH (Qj (e:=CF.c) ag L6 EQ (QC (i:=7))) ?_);exact au m
   exact au m
  exact Gx 2 Z (Ee y (Gc 5 Z (Q1 g (Lr [0,1,2,3]))))
 exact au h
def nm(n:Nat)(m:AA CF)(f:(AA CF)×Int)(d:Int):AB (CG Int Int):=AH ((bif d<(AI f.1:Int) then AH (CJ f.1 d) λg=>AH (CJ m f.2) λh=>AC (AG (g.AT<=h.AT))else AC AD):AB Bool) λj=>(bif j then AC (.k (i64.wrap (d+1)))else AC (.d d))
def Tp(g:AA CF)(d:(AA CF)×Int):AB (CG ((AA CF)×Int) (AA CF)):=(bif d.2<(AI g:Int) then AH (iter (nm n g d) n 0:AB Int) λf=>AH (CJ g d.2) λh=>AH (Dn d.1 f (AI d.1:Int)) λj=>AH (app [h] j) λm=>AH (Dn d.1 0 f) λq=>AH (app q m) λt=>AC (.k (t,i64.wrap (d.2+1)))else AC (.d d.1))
def O7(f:AA CF):AB (AA CF):=AH (iter (Tp n f) n (([]:AA CF),0):AB (AA CF)) λd=>AC d
instance xu(Q:AA CF):Kq (O7 n Q) 77 [.q 4 (map CF.c Q)] [] (λr=>.o 0 (AI r) 4) (λr=>[.r 50 4 (map CF.c r)]):=by
 refine Kg 7 func77 Z Z Z Z λr h=>vH (Ek (xs:=[]) (es:=map CF.c []) L6 Z Z Z Z Z trivial Z Z) ?_;refine Fg 9 Z Z (Bd h λB Y h=>Cg B [0] [] (λB=>[(3,.o 0 (AI B) 4)]) (λB=>[(0,.r 50 4 (map CF.c B))]) Zf ?_ ?_)
 .refine G0 1 Z (Lp [0] [0] (λj=>[(3,.o 0 (AI j.1) 4),(4,I j.2)]) (λj=>[(0,.r 50 4 (map CF.c j.1))]) Y Zf (Lr [0]) λj af d R=>?_);refine G0 5 Z (Lg 3 Z Z (Q8 Z d (λ_ d=>?_) (λ_ d=>?_)))
  .exact Gc 2 Z (QH d (Gx 1 Z (DW R d (Lr [0]))))
  refine Gc 10 Z (Bd d λm V d=>Cg m [0] [0,3,4] (λm=>[(5,I m)]) Ze Zf ?_ ?_)
  .refine G0 1 Z (Lp [0] [0,3,4] (λt=>[(5,I t)]) Ze V Zf (Lr [0]) λt aa g H=>?_);refine G0 2 Z (Bd g λE f g=>Cg E [0] [0,3,4,5] (λE=>[(30,.b E)]) Ze Zf ?_ ?_)
   .refine G0 0 Z (DU 15 Z (D 5 Z (DS.is 4 f Z Z Z (λ_ f=>?_) (λ_ f=>?_))))
    .refine D 2 Z ?_;obtain⟨W,F,f⟩:=QE f;refine DS.v (x:=(.p 0 (toNat t*4))) (Qd F Z EQ Gf) ?_ (hg:=(gT Z));refine DS.wo (x:=.p 0 (toNat t*4)) ?_ ?_
     .exact H7 (gT Z) QqC Z Wp
     refine DS.v (x:=(I W.AT)) (Ez Z EE Z (Qh F)) ?_ (hg:=(gT Z));refine D 2 Z ?_;obtain⟨X,L,f⟩:=QE f;refine DS.v (NB (e:=CF.c) (l:=Q) (v:=X) L EQ Gf) ?_ (hg:=(gT Z));exact au f
    exact au f
   refine Q8 Z g (λ_ g=>?_) (λ_ g=>?_)
   .exact Gc 2 Z (QH g (Gx 1 Z (DW H g (Lr [0]))))
   exact au g
  refine Gc 1 Z (P7 8 4 [0,0,0,0,1,3,3,3] (by kernel_rfl) (Da 2 Z ?_));obtain⟨q,N,d⟩:=QE d;refine DA.wo (x:=.rp [I q.AT,I q.BX,I q.Ax,.b q.BM]) ?_ ?_
  .exact Ix N EQ Gf Z Wp
  refine Da 1 Z ?_;refine kO (Ek (xs:=[.tmp 36]) (es:=map CF.c [q]) L6 Z Z Z Z Z ⟨Z,trivial⟩ Z Z) Z Z (Db 2 Z ?_);obtain⟨ab,y,d⟩:=QE d;refine DB.wo2 (x:=.s 0 (0+toNat m) (toNat (AI j.1:Int)-toNat m) 4) ?_ ?_ ?_
  iterate 2 refine vV (QP (l:=j.1) y EQ Gf (.inr ⟨_,Z,Z⟩) (.inl ⟨Z,Z⟩)) ?_;exact Wp
  refine DB.done Z (Bd d λac O d=>vH (Qj (e:=CF.c) O L6 EQ (LZ (b:=0) y)) ?_);refine Fg 7 Z Z (Bd d λad G d=>?_);refine vV (dc (l:=j.1) G EQ Gf) ?_;refine Go 1 Z (Bd d λae P d=>vH (da (e:=CF.c) G P L6 EQ (QC (i:=2))) ?_);exact au d
 exact au h
def Mm(d:CB)(f:Int):AB Int:=AH (HL n d) λg=>(bif (g != 0)then AC g else AH ((bif f<0 then AC AE else AC (AG ((AI d.AO:Int)<=f))):AB Bool) λh=>(bif h then AC 90 else AC 0))
instance zG(d:CB)(f:Int):Ks (Mm n d f) 137 [.a (CB.c d),I f] [] (λr=>I r):=KA func137
def Ov(d:CB)(f:Int):AB ((AA Int)×Int):=AH (Mm n d f) λg=>(bif (g != 0)then AC ([],g)else AH (CJ d.AO f) λj=>AH (AC ():AB Unit) λm=>AH (Rv n j.Af) λh=>AH (AC ():AB Unit) λq=>(bif 256<(i64.wrap ((AI h:Int)+0)) then AC ([],2)else AC (h,0)))
instance xh(d:CB)(f:Int):Kq (Ov n d f) 78 [.a (CB.c d),I f,I 0] [] (λr=>.t [.o 0 (AI r.1) 1,I r.2]) (λr=>[.r 3 1 (map eI r.1)]):=by
 refine Kg 11 func78 Z Z Z Z λr h=>Cz [] h Kc Z λL G h=>Go 10 Z (Cn Z h (λ_ h=>?_) (λ_ h=>?_))
 .refine Gc 9 Z ?_;obtain rfl:=Oi h;refine R2 6 7 Z Z ?_;exact En (Er (s:=6) (XQ Z) Z) (Lr [1])
 refine Gc 7 Z (Bd h λM j h=>Iz j Z (Go 7 Z (Bd h λx y h=>Ct x [1] [2,9] (λ_=>[(35,.b AD)]) Ze Zf ?_ (λenv H m=>?_))))
 .exact au y
 refine Gx 1 Z (Ee m (Gc 7 Z (Cd [] h Kc Z λB J h=>Fg 5 Z Z (Bd h λE F h=>Cg E [0,1] [2,9,10] (λ_=>[(47,.b (AG (256<(i64.wrap (AI B+0)))))]) Ze Zf ?_ ?_))))
 .exact au F
 refine Cn Z h (λ_ h=>?_) (λ_ h=>?_)
 .refine Gc 8 Z ?_;obtain rfl:=Oi h;refine R2 6 7 Z Z (En (Er (s:=6) (k:=1) (t:=3) (XQ Z) Z) ?_);exact Lr [2]
 refine Gc 6 Z ?_;refine Go 12 Z ?_;exact au h
def eX(n:Nat)(d:(AA CF)×Int×Int):AB (CG ((AA CF)×Int×Int) (AA CF)):=(bif d.2.2<(AI d.1:Int) then AH (CJ d.1 d.2.2) λf=>AH (CJ d.1 d.2.2) λh=>AH (JG d.1 d.2.2 ({h with Ax:=(if d.2.1<f.Ax then d.2.1 else f.Ax):CF})) λg=>AH (CJ g d.2.2) λj=>AC (.k (g,i64.wrap (d.2.1-j.Ax),i64.wrap (d.2.2+1)))else AC (.d d.1))
def UX(h:CB)(H:AA CI)(G:Int)(j:(AA AP)×Int)(d:Int):AB (CG Int (CG Unit (AA CF))):=(bif d<(AI j.1:Int) then AH (AH (CJ j.1 d) λm=>(bif (m.BU != G)then AC (.k ())else AH (Pn n h H G) λq=>AH (O7 n q.2) λt=>AH (CJ j.1 d) λg=>AH (Ov n h g.AN) λx=>AH (CJ h.AO g.AN) λy=>AH ((bif (y.Am==(-1))then AC 0 else AC (i64.wrap (256-(AI x.1:Int)))):AB Int) λB=>AH (iter (eX n) n (t,B,0):AB (AA CF)) λE=>AC (.d (.d (.d E)))):AB (CG Unit (CG Int (CG Unit (AA CF))))) λF=>match F with|.k f=>(AC (.k (i64.wrap (d+1))))|.d f=>AC f else AC (.d (.k ())))
def P4(g:CB)(h:AA CI)(m:Int):AB (AA CF):=AH (MY n g h) λj=>(bif (j.2 != 0)then AC []else AH (iter (UX n g h m j) n 0:AB (CG Unit (AA CF))) λf=>match f with|.k d=>(AC [])|.d d=>AC d)
instance jh(a1:CB)(a2:AA CI)(a3:Int):Kq (P4 n a1 a2 a3) 28 [.a (CB.c a1),.q 57 (map CI.c a2),I a3] [] (λr=>.o 0 (AI r) 4) (λr=>[.r 50 4 (map CF.c r)]):=by
 refine Kg 10 func28 Z Z Z Z λr h=>Cd [] h Kc Z λr1 ay h=>Fg 14 Z Z (Cn Z h (λ_ h=>?_) (λ_ h=>?_))
 .refine Gc 7 Z ?_;obtain rfl:=Oi h;refine R1 6 Z ?_;refine En (Er (s:=6) (k:=4) (t:=50) (XQ Z) Z) ?_;exact Lr [2]
 refine Gc 8 Z (Bd h λV W h=>E_ (b:=V) [] [] Ze Ze Zf ?_ (λ_ af=>?_))
 .refine G0 1 Z (Lp [0,1] [1,2,3,7] (λx=>[(9,I x)]) Ze W Zf (Lr [0,1]) λx am m E=>?_);refine G0 9 Z (Q8 Z m (λ_ m=>?_) (λ_ m=>?_))
  .exact Je E m
  refine Gc 3 Z (Bd m λX d m=>E_ (b:=X) [0,1] [1,2,3,7,9] Ze Ze Zf ?_ (λ_ hb=>?_))
  .refine G0 6 Z (Bd d λY F d=>?_);refine vX (.p 1 (toNat x*8)) (Qd F Z EH EN) ?_;refine Fp lC Z ?_;refine vX (I Y.BU) (Ez Z EE Z (Qh F)) ?_;refine Go 4 Z (Cn Z d (λ_ d=>?_) (λ_ d=>?_))
   .refine Gc 3 Z ?_;cases d;exact Ki Z (Lr [0,1])
   refine Gc 7 Z (Cd [] d Kc Z λan aj d=>Fg 10 Z Z ?_);refine Et (Yl [(11,_),(38,_),(42,_),(44,_),(45,_)] Z Z (Cx.cons Z Ep (Cx.cons Z (DN.tup (CW.k (Ed Ep (Ej _)))) (Cx.cons Z (DN.tup (CW.k (Ed Ep (Ej _)))) (Cx.cons Z Ep (Cx.cons Z Ep Cx.nil))))) (Ec (Ec (Ec (Ec (QU _)))))) ?_;refine Cd [] d Kc Z λao ak d=>Fg 7 Z Z (Bd d λaa G d=>?_);refine vX (.p 1 (toNat x*8)) (Qd G Z EH EN) ?_;refine Fp QqD Z ?_;refine vX (I aa.AN) (Ez Z EE Z (Qo (f:=1) G)) ?_;refine Go 7 Z (Cd [] d Kc Z λaq al d=>Fg 21 Z Z (Bd d λar Q d=>Iz Q Z (Go 5 Z (Bd d λy ab d=>Ct y [4] [11] (λy=>[(15,I y)]) Ze Zf ?_ (λenv H ag=>?_)))))
   .exact au ab
   refine Gx 1 Z (Ee ag (Gc 6 Z (Bd d λq ac d=>Cg q [0] [] (λq=>[(11,.o 0 (AI q) 4)]) (λq=>[(0,.r 50 4 (map CF.c q))]) Zf ?_ ?_)))
   .refine G0 1 Z (Lp [0] [] (λj=>[(11,.o 0 (AI j.1) 4),(15,I j.2.1),(16,I j.2.2)]) (λj=>[(0,.r 50 4 (map CF.c j.1))]) ac Zf (Lr [0]) λj av g R=>?_);refine G0 9 Z (Q8 Z g (λ_ g=>?_) (λ_ g=>?_))
    .exact Gc 2 Z (QH g (Gx 1 Z (DW R g (Lr [0]))))
    refine Gc 10 Z (Bd g λB J g=>?_);refine vX (.p 0 (toNat j.2.2*4)) (Qd J Z EQ Gf) ?_;refine Fp lD Z ?_;refine vX (I B.Ax) (Ez Z EE Z (Qo (f:=2) J)) ?_;refine Go 1 Z ?_;refine vX (I (if j.2.1<B.Ax then j.2.1 else B.Ax)) (CT.min Z Z Z Z) ?_;refine Bd g λaw L g=>?_;refine vX (.p 0 (toNat j.2.2*4)) (Qd L Z EQ Gf) ?_;refine Fp lD Z (Bd g λax M g=>?_);refine vU (Yp (e:=CF.c) (k:=4) (f:=2) L M EC Z Z) ?_;refine FE Z ?_;refine Et (QZ (s:=11) Z (congrArg (λn=>A.s 0 0 n 4) (Q6 M))) ?_;refine Go 6 Z (Bd g λad N g=>?_);refine vX (.p 0 (toNat j.2.2*4)) (Qd N Z EQ Gf) ?_;refine Fp lD Z ?_;refine vX (I ad.Ax) (Ez Z EE Z (Qo (f:=2) N)) ?_;exact au g
   refine Gc 8 Z ?_;cases d;exact DX E m h
  subst hb;exact au m
 subst af;refine Gc 6 Z ?_;obtain rfl:=Oi h;refine R1 6 Z ?_;refine En (Er (s:=6) (k:=4) (t:=50) (XQ Z) Z) ?_;exact Lr [0]
def MG(n:Nat)(f:AA CF)(d:Int×Int):AB (CG (Int×Int) Int):=(bif d.2<(AI f:Int) then AH (CJ f d.2) λg=>AC (.k (i64.wrap (d.1+g.Ax),i64.wrap (d.2+1)))else AC (.d d.1))
def KH(d:AA CF):AB Int:=AH (iter (MG n d) n (0,0):AB Int) λf=>AC f
instance jp(m:AA CF):Ks (KH n m) 10 [.q 4 (map CF.c m)] [] (λr=>I r):=by
 refine Kg 16 func10 Z Z Z Z λr h=>Bd h λf t h=>Cg f [] [] (λf=>[(3,I f)]) Ze Zf ?_ ?_
 .refine G0 1 Z (Lp [] [0] (λg=>[(3,I g.1),(4,I g.2)]) Ze t Zf (Lr []) λg x d q=>?_);refine G0 5 Z (Lg 3 Z Z (Q8 Z d (λ_ d=>?_) (λ_ d=>?_)))
  .exact Gc 2 Z (QH d (Gx 1 Z (DW q d (Lr []))))
  exact au d
 exact au h
def UR(n:Nat)(f:CE)(d:Int):AB (CG Int (CG Unit Bool)):=(bif d<(AI f.BP:Int) then AH (CJ f.BP d) λg=>(bif 12<(AI g:Int) then AC (.d (.d AD))else AC (.k (i64.wrap (d+1))))else AC (.d (.k ())))
def O3(f:CE):AB Bool:=AH ((bif 8<(AI f.AS:Int) then AC AE else AC (AG (10<(AI f.BP:Int)))):AB Bool) λh=>(bif h then AC AD else AH (iter (UR n f) n 0:AB (CG Unit Bool)) λg=>match g with|.k d=>(AC AE)|.d d=>AC d)
instance xo(d:CE):Ks (O3 n d) 81 [.a (CE.c d)] [] (λr=>.b r):=KA func81
def Td(n:Nat)(f:AA Int)(j:Int)(d:Int×Int):AB (CG (Int×Int) Int):=(bif d.2<(AI f:Int) then AH (CJ f d.2) λg=>AH ((bif (g==j)then AC d.2 else AC d.1):AB Int) λh=>AC (.k (h,i64.wrap (d.2+1)))else AC (.d d.1))
def WC(f:AA Int)(g:Int):AB Int:=AH (iter (Td n f g) n ((-1),0):AB Int) λd=>AC d
instance wP(x:AA Int)(y:Int):Ks (WC n x y) 138 [.q 1 (map eI x),I y] [] (λr=>I r):=by
 refine Kg 16 func138 Z Z Z Z λr h=>Bd h λf B h=>Cg f [] [] (λf=>[(5,I f)]) Ze Zf ?_ ?_
 .refine G0 1 Z (Lp [] [0,1] (λg=>[(5,I g.1),(6,I g.2)]) Ze B Zf (Lr []) λg G d m=>?_);refine G0 5 Z (Lg 3 Z Z (Q8 Z d (λ_ d=>?_) (λ_ d=>?_)))
  .exact Gc 2 Z (QH d (Gx 1 Z (DW m d (Lr []))))
  refine Gc 8 Z (Bd d λJ t d=>Iz t Z (Go 5 Z (Bd d λj E d=>Ct j [] [0,1,6] (λj=>[(5,I j)]) Ze Zf ?_ (λenv H F=>?_))))
  .exact au E
  exact Gx 2 Z (Ee F (Gc 5 Z (Q1 d (Lr []))))
 exact au h
def eZ(n:Nat)(g:Int)(h:AN)(d:(AA Int)×Int):AB (CG ((AA Int)×Int) (AA Int)):=(bif d.2<g then AH (app d.1 [h.Am]) λf=>AC (.k (f,i64.wrap (d.2+1)))else AC (.d d.1))
def Oo(j:CB)(m:Int)(f:Int):AB ((AA Int)×Int):=AH (Mm n j m) λq=>(bif (q != 0)then AC ([],q)else AH (CJ j.AO m) λg=>AH ((bif f<0 then AC AE else(bif 0<f then AC (g.Am==(-1))else AC AD)):AB Bool) λG=>(bif G then AC ([],90)else AH (Rv n g.Af) λd=>AH ((bif 256<f then AC AE else AC (AG (256<(i64.wrap ((AI d:Int)+f))))):AB Bool) λt=>(bif t then AC ([],2)else(bif (f==0)then AC (d,0)else AH (WC n d g.Am) λh=>AH (Dn d 0 (i64.wrap (h+1))) λx=>AH (app ([]:AA Int) x) λy=>AH (iter (eZ n f g) n (y,0):AB (AA Int)) λB=>AH (Dn d (i64.wrap (h+1)) (AI d:Int)) λE=>AH (app B E) λF=>AC (F,0)))))
instance xd(P:CB)(Q:Int)(R:Int):Kq (Oo n P Q R) 78 [.a (CB.c P),I Q,I R] [] (λr=>.t [.o 0 (AI r.1) 1,I r.2]) (λr=>[.r 3 1 (map eI r.1)]):=by
 refine Kg 11 func78 Z Z Z Z λr h=>Cz [] h Kc Z λr1 ac h=>Go 10 Z (Cn Z h (λ_ h=>?_) (λ_ h=>?_))
 .refine Gc 9 Z ?_;obtain rfl:=Oi h;refine R2 6 7 Z Z ?_;refine En (Er (s:=6) (k:=1) (t:=3) (XQ Z) Z) ?_;exact Lr [1]
 refine Gc 7 Z (Bd h λY V h=>Iz V Z (Go 7 Z (Bd h λB h7 h=>Ct B [1] [2,9] (λB=>[(35,.b B)]) Ze Zf ?_ (λenv H j=>?_))))
 .exact au h7
 refine Gx 1 Z (Ee j (Cn Z h (λ_ h=>?_) (λ_ h=>?_)))
 .refine Gc 8 Z ?_;obtain rfl:=Oi h;refine R2 6 7 Z Z ?_;refine En (Er (s:=6) (k:=1) (t:=3) (XQ Z) Z) ?_;exact Lr [1]
 refine Gc 6 Z (Cd [] h Kc Z λy aa h=>Fg 5 Z Z (Bd h λm W h=>Ct m [0,1] [2,9,10] (λm=>[(47,.b m)]) Ze Zf ?_ (λenv H j=>?_)))
 .exact au W
 refine Gx 1 Z (Ee j (Cn Z h (λ_ h=>?_) (λ_ h=>?_)))
 .refine Gc 8 Z ?_;obtain rfl:=Oi h;refine R2 6 7 Z Z ?_;refine En (Er (s:=6) (k:=1) (t:=3) (XQ Z) Z) ?_;exact Lr [2]
 refine Gc 9 Z (Cn Z h (λ_ h=>?_) (λ_ h=>?_))
 .exact au h
 refine Gc 7 Z (Cb h Kc Z (lo (ls ln)) λad ab h=>Go 6 Z (vH (Ek (xs:=[]) (es:=map eI []) QF Z Z Z Z Z trivial Z Z) ?_));refine Fg 2 Z Z (Bd h λae q h=>?_);refine vV (QP (l:=y) q EB EC (.inl ⟨Z,Z⟩) (.inr ⟨_,Z,Z⟩)) ?_;refine Bd h λaf J h=>vH (Qj (e:=eI) J QF EB (LZ (b:=1) q)) ?_;refine Fg 9 Z Z (Bd h λf X h=>Cg f [1,2] [10,11] (λf=>[(12,.o 1 (AI f) 1)]) (λf=>[(1,.r 3 1 (map eI f))]) Zf ?_ ?_)
 .refine G0 1 Z (Lp [0,1,3] [2,9,10,11] (λg=>[(12,.o 2 (AI g.1) 1),(13,I g.2)]) (λg=>[(2,.r 3 1 (map eI g.1))]) X Zf (Lr [0,1,3]) λg ag d L=>?_);refine G0 8 Z (Q8 Z d (λ_ d=>?_) (λ_ d=>?_))
  .exact Gc 2 Z (QH d (Gx 1 Z (DW L d (Lr [1,2]))))
  refine Gc 8 Z (vH (Ek (xs:=[.tmp 68]) (es:=map eI [Y.Am]) QF Z Z Z Z Z ⟨Z,trivial⟩ Z Z) ?_);refine FE Z (Bd d λah N d=>vH (Qj (e:=eI) N QF EB (QC (i:=3))) ?_);exact au d
 refine Gc 5 Z (Bd h λai x h=>?_);refine vV (QP (l:=y) x EB EC (.inr ⟨_,Z,Z⟩) (.inl ⟨Z,Z⟩)) ?_;refine Bd h λaj O h=>vH (Qj (e:=eI) O QF EB (LZ (b:=0) x)) ?_;exact au h
def Ps(d:CB)(q:CE)(g:AP)(t:Int)(x:AA CN)(y:AA Ae):AB Bool:=AH (AH (LE n d) λB=>(bif (!B)then AC AE else(bif 8<(AI d.Av:Int) then AC AE else AH (O3 n q) λh=>(bif (!h)then AC AE else(bif 4<(AI x:Int) then AC AE else AC (AG (6<(AI y:Int))))))):AB Bool) λE=>(bif E then AC AD else AH ((bif g.AN<0 then AC AE else AC (AG ((AI d.AO:Int)<=g.AN))):AB Bool) λj=>(bif j then AC AE else AH (Oo n d g.AN t) λf=>AH ((bif (f.2 != 0)then AC AE else AC (AG ((AI f.1:Int)<=8))):AB Bool) λm=>AC m))
instance jS(d:CB)(f:CE)(g:AP)(h:Int)(j:AA CN)(m:AA Ae):Ks (Ps n d f g h j m) 30 [.a (CB.c d),.a (CE.c f),.a (AP.c g),I h,.q 5 (map CN.c j),.q 4 (map Ae.c m)] [] (λr=>.b r):=KA func30
def U7(n:Nat)(x:Int)(f:AA CI)(d:(AA Ae)×Int):AB (CG ((AA Ae)×Int) (AA Ae)):=(bif d.2<(AI f:Int) then AH (AH (CJ f d.2) λg=>(bif (g.AX==5)then AH (CJ f d.2) λh=>AC (h.Ae.BU==x)else AC AD):AB Bool) λj=>AH ((bif j then AH (CJ f d.2) λm=>AH (app d.1 [m.Ae]) λq=>AC q else AC d.1):AB (AA Ae)) λt=>AC (.k (t,i64.wrap (d.2+1)))else AC (.d d.1))
def VY(x:CB)(y:AA CI)(B:Int)(g:(AA CD)×(AA (AA Int))×Int)(h:(AA AP)×Int)(f:Int):AB (CG Int (CG Unit ((AA CD)×(AA (AA Int))×Int×Int×Int×Int×Int×Int×Int×Int×(AA CN)×(AA Ae)×(AA CF)×Bool))):=(bif f<(AI h.1:Int) then AH (AH (CJ h.1 f) λE=>(bif (E.BU != B)then AC (.k ())else AH (CJ h.1 f) λd=>AH (CJ h.1 f) λF=>AH (P1 n x y F.BB) λm=>AH (P4 n x y B) λq=>AH (Kx n y) λG=>AH (iter (U7 n B G) n ([],0):AB (AA Ae)) λt=>AH (KH n q) λH=>AH (Ps n x ({AS:=g.1,BP:=g.2.1:CE}) d H m t) λJ=>AC (.d (.d (.d (g.1,g.2.1,d.BU,d.AN,d.Aw,d.BK,d.B7,d.BB,d.Bl,d.B6,m,t,q,J))))):AB (CG Unit (CG Int (CG Unit ((AA CD)×(AA (AA Int))×Int×Int×Int×Int×Int×Int×Int×Int×(AA CN)×(AA Ae)×(AA CF)×Bool))))) λL=>match L with|.k j=>(AC (.k (i64.wrap (f+1))))|.d j=>AC j else AC (.d (.k ())))
def Py(f:CB)(g:AA CI)(y:Int):AB ((AA CD)×(AA (AA Int))×Int×Int×Int×Int×Int×Int×Int×Int×(AA CN)×(AA Ae)×(AA CF)×Bool):=AH (AH (LE n f) λB=>(bif (!B)then AC AE else(bif 16<(AI g:Int) then AC AE else AH (HL n f) λq=>(bif (q != 0)then AC AE else AH (PW n f 10) λt=>AC (!t)))):AB Bool) λE=>(bif E then AC ([],[],0,0,0,0,0,0,0,0,[],[],[],AD)else AH (Pp n f g) λh=>AH (MY n f g) λj=>AH ((bif (h.2.2 != 0)then AC AE else AC (j.2 != 0)):AB Bool) λx=>(bif x then AC ([],[],0,0,0,0,0,0,0,0,[],[],[],AD)else AH (iter (VY n f g y h j) n 0:AB (CG Unit ((AA CD)×(AA (AA Int))×Int×Int×Int×Int×Int×Int×Int×Int×(AA CN)×(AA Ae)×(AA CF)×Bool))) λm=>match m with|.k d=>(AC ([],[],0,0,0,0,0,0,0,0,[],[],[],AD))|.d d=>AC d))
instance jY(N:CB)(a2:AA CI)(a3:Int):Kq (Py n N a2 a3) 7 [.a (CB.c N),.q 57 (map CI.c a2),I a3] [] (λr=>.t [.a [.q 3 (map CD.c r.1),.q 1 (map (Qu 1 eI) r.2.1),I r.2.2.1,I r.2.2.2.1,I r.2.2.2.2.1,I r.2.2.2.2.2.1,I r.2.2.2.2.2.2.1,I r.2.2.2.2.2.2.2.1,I r.2.2.2.2.2.2.2.2.1,I r.2.2.2.2.2.2.2.2.2.1,.q 5 (map CN.c r.2.2.2.2.2.2.2.2.2.2.1),.o 0 (AI r.2.2.2.2.2.2.2.2.2.2.2.1) 4,.q 4 (map CF.c r.2.2.2.2.2.2.2.2.2.2.2.2.1)],.b r.2.2.2.2.2.2.2.2.2.2.2.2.2]) (λr=>[.r 104 4 (map Ae.c r.2.2.2.2.2.2.2.2.2.2.2.1),.c 46 [.q 3 (map CD.c r.1),.q 1 (map (Qu 1 eI) r.2.1),I r.2.2.1,I r.2.2.2.1,I r.2.2.2.2.1,I r.2.2.2.2.2.1,I r.2.2.2.2.2.2.1,I r.2.2.2.2.2.2.2.1,I r.2.2.2.2.2.2.2.2.1,I r.2.2.2.2.2.2.2.2.2.1,.q 5 (map CN.c r.2.2.2.2.2.2.2.2.2.2.1),.o 0 (AI r.2.2.2.2.2.2.2.2.2.2.2.1) 4,.q 4 (map CF.c r.2.2.2.2.2.2.2.2.2.2.2.2.1)]]):=by
 refine Kg 9 func7 Z Z Z Z λr h=>Bd h λb7 h8 h=>Ct b7 [0,1] [1,2,3,6] (λb7=>[(33,.b b7)]) Ze Zf ?_ (λenv H O=>?_)
 .exact au h8
 refine Gx 1 Z (Ee O (Cn Z h (λ_ h=>?_) (λ_ h=>?_)))
 .refine Gc 9 Z ?_;obtain rfl:=Oi h;refine⟨[(6,.p 1 0),(7,.b AD)],[.r 104 4 (map Ae.c ([]:AA Ae)),.c 46 [.q 3 (map CD.c ([]:AA CD)),.q 1 (map (Qu 1 eI) ([]:AA (AA Int))),I 0,I 0,I 0,I 0,I 0,I 0,I 0,I 0,.q 5 (map CN.c ([]:AA CN)),.o 0 (AI ([]:AA Ae)) 4,.q 4 (map CF.c ([]:AA CF))]],_,?_,QI Z Z (C6.cons (Yi isAgg46 sizeOf46 Z Z Z) (C6.cons Dy.tmp C6.nil)),Z,Z⟩;refine En (Yb (i:=1) (m:=11) (t:=104) (k:=4) Z Z Z) ?_;exact Lr [2,1]
 refine Gc 6 Z (Cd [] h Kc Z λj bk h=>Fg 12 Z Z (Cd [] h Kc Z λL bl h=>Fg 9 Z Z (Bd h λag bd h=>Ct ag [0,1,3,4] [1,2,3,6,8,10] (λag=>[(52,.b ag)]) Ze Zf ?_ (λenv H O=>?_))))
 .exact au bd
 refine Gx 1 Z (Ee O (Cn Z h (λ_ h=>?_) (λ_ h=>?_)))
 .refine Gc 9 Z ?_;obtain rfl:=Oi h;refine⟨[(6,.p 1 0),(7,.b AD)],[.r 104 4 (map Ae.c ([]:AA Ae)),.c 46 [.q 3 (map CD.c ([]:AA CD)),.q 1 (map (Qu 1 eI) ([]:AA (AA Int))),I 0,I 0,I 0,I 0,I 0,I 0,I 0,I 0,.q 5 (map CN.c ([]:AA CN)),.o 0 (AI ([]:AA Ae)) 4,.q 4 (map CF.c ([]:AA CF))]],_,?_,QI Z Z (C6.cons (Yi isAgg46 sizeOf46 Z Z Z) (C6.cons Dy.tmp C6.nil)),Z,Z⟩;refine En (Yb (i:=1) (m:=11) (t:=104) (k:=4) Z Z Z) ?_;exact Lr [4,1]
 refine Gc 8 Z (Bd h λav aw h=>E_ (b:=av) [1] [6] Ze Ze Zf ?_ (λ_ be=>?_))
 .refine G0 1 Z (Lp [0,1,2,3] [1,2,3,6,8,10] (λq=>[(12,I q)]) Ze aw Zf (Lr [0,1,2,3]) λq bm J Y=>?_);refine G0 9 Z (Q8 Z J (λ_ J=>?_) (λ_ J=>?_))
  .exact Je Y J
  refine Gc 3 Z (Bd J λax g J=>E_ (b:=ax) [0,1,2,3] [1,2,3,6,8,10,12] Ze Ze Zf ?_ (λ_ hb=>?_))
  .refine G0 6 Z (Bd g λay aa g=>?_);refine vX (.p 3 (toNat q*8)) (Qd aa Z EH EN) ?_;refine Fp lC Z ?_;refine vX (I ay.BU) (Ez Z EE Z (Qh aa)) ?_;refine Go 4 Z (Cn Z g (λ_ g=>?_) (λ_ g=>?_))
   .refine Gc 3 Z ?_;cases g;exact Ki Z (Lr [0,1,2,3])
   refine Gc 3 Z ?_;obtain⟨d,y,g⟩:=QE g;obtain⟨V,M,g⟩:=QE g;obtain⟨P,ab,g⟩:=QE g;obtain⟨Q,ac,g⟩:=QE g;refine Yv 19 1 [67,68,69,70,71,72,73,74,75,76,77,78,79,80,81,82,83,84,13] [AD,AD,AD,AD,AD,AD,AD,AD,AD,AD,AD,AD,AE,AD,AD,AD,AE,AD,AE] [[],[],[],[],[],[],[],[],[],[],[],[],[],[],[],[],[12],[12,16],[]] [[],[12],[18],[12,16],[12,18],[12,16,18]] [[(0,0),(1,1),(2,2),(3,3),(4,4),(5,5)],[(0,0),(1,1),(2,2),(3,3),(4,4),(5,5)],[(0,0),(1,1),(2,2),(3,3),(4,4),(5,5)],[(0,0),(1,1),(2,2),(3,3),(4,4),(5,5)],[(0,0),(1,1),(2,2),(3,3),(4,4),(5,5)],[(0,0),(2,2)],[(0,0),(2,2)],[(0,0),(2,2)],[(0,0),(2,2)],[(0,0),(2,2)],[(0,0),(2,2)],[(0,0),(2,2)],[(0,1),(2,4)],[(0,0),(1,1),(2,2),(4,4)],[(0,0),(1,1),(2,2),(4,4)],[(0,0),(1,1),(2,2),(4,4)],[(1,3),(4,5)],[(3,3),(5,5)],[(0,2),(1,4),(3,5)]] [.a [.q 3 (map CD.c j.1),.q 1 (map (Qu 1 eI) j.2.1)],.o 3 (AI L.1) 8,I q,.p 3 (toNat q*8),.a (AP.c d),.a (CB.c N),.q 57 (map CI.c a2),.o 3 (AI L.1) 8,I q,.p 3 (toNat q*8),.p 3 (toNat q*8+5),I V.BB,.q 5 (map CN.c P),.a (CB.c N),.q 57 (map CI.c a2),I a3,.q 4 (map CF.c Q),.a [.q 3 (map CD.c j.1),.q 1 (map (Qu 1 eI) j.2.1),I d.BU,I d.AN,I d.Aw,I d.BK,I d.B7,I d.BB,I d.Bl,I d.B6,.q 5 (map CN.c P),.n,.q 4 (map CF.c Q)],.p 4 0] [[.c 33 (CB.c N),.c 46 (CV.c Cc),.c 39 [.q 3 (map CD.c j.1),.q 1 (map (Qu 1 eI) j.2.1)],.r 41 8 (map AP.c L.1),.dead],[.c 33 (CB.c N),.c 46 (CV.c Cc),.c 39 [.q 3 (map CD.c j.1),.q 1 (map (Qu 1 eI) j.2.1)],.r 41 8 (map AP.c L.1),.dead,.dead],[.c 33 (CB.c N),.c 46 (CV.c Cc),.c 39 [.q 3 (map CD.c j.1),.q 1 (map (Qu 1 eI) j.2.1)],.r 41 8 (map AP.c L.1),.c 46 [.q 3 (map CD.c []),.q 1 (map (Qu 1 eI) []),I 0,I 0,I 0,I 0,I 0,I 0,I 0,I 0,.q 5 (map CN.c []),.n,.q 4 (map CF.c [])]],[.c 33 (CB.c N),.c 46 (CV.c Cc),.c 39 [.q 3 (map CD.c j.1),.q 1 (map (Qu 1 eI) j.2.1)],.r 41 8 (map AP.c L.1),.dead,.dead,.dead],[.c 33 (CB.c N),.c 46 (CV.c Cc),.c 39 [.q 3 (map CD.c j.1),.q 1 (map (Qu 1 eI) j.2.1)],.r 41 8 (map AP.c L.1),.c 46 [.q 3 (map CD.c []),.q 1 (map (Qu 1 eI) []),I 0,I 0,I 0,I 0,I 0,I 0,I 0,I 0,.q 5 (map CN.c []),.n,.q 4 (map CF.c [])],.dead],[.c 33 (CB.c N),.c 46 (CV.c Cc),.c 39 [.q 3 (map CD.c j.1),.q 1 (map (Qu 1 eI) j.2.1)],.r 41 8 (map AP.c L.1),.c 46 [.q 3 (map CD.c []),.q 1 (map (Qu 1 eI) []),I 0,I 0,I 0,I 0,I 0,I 0,I 0,I 0,.q 5 (map CN.c []),.n,.q 4 (map CF.c [])],.dead,.dead]] ([.c 33 (CB.c N),.c 46 (CV.c Cc),.c 39 [.q 3 (map CD.c j.1),.q 1 (map (Qu 1 eI) j.2.1)],.r 41 8 (map AP.c L.1),.c 46 [.q 3 (map CD.c []),.q 1 (map (Qu 1 eI) []),I 0,I 0,I 0,I 0,I 0,I 0,I 0,I 0,.q 5 (map CN.c []),.n,.q 4 (map CF.c [])],.dead,.dead]) DF Z Z Z Z Z Z Z ?_ Z ?_
   .refine M1 (M1 (M1 (Cq.cons ?_ (Cq.cons ?_ (M1 (M1 (M1 (M1 (Cq.cons ?_ (Cq.cons ?_ (Cq.cons ?_ (Cq.cons ?_ (M1 (M1 (M1 (Cq.cons ?_ (M1 (Cq.cons ?_ (Cq.nil)))))))))))))))))))
    .refine Qb ?_ (Qb ?_ (Qb ?_ (Qb ?_ (Qb ?_ (Qb ?_ (Qf))))))
     iterate 6 refine Om Z (sD 1 (sD 2 sN)) ?_;refine vX (.p 3 (toNat q*8)) (Qd y Z EH EN) ?_;exact Wp
    .refine Qb ?_ (Qb ?_ (Qb ?_ (Qb ?_ (Qb ?_ (Qb ?_ (Qf))))))
     iterate 6 refine Om Z (sD 3 sN) ?_;refine vX (.a (AP.c d)) (Qt Z GK EN Z (Qh y) Z Z) ?_;exact Wp
    .refine Qb ?_ (Qb ?_ (Qf))
     iterate 2 refine Om Z (sD 7 (sD 8 sN)) ?_;refine vX (.p 3 (toNat q*8)) (Qd M Z EH EN) ?_;exact Wp
    .refine Qb ?_ (Qb ?_ (Qf))
     iterate 2 refine Om Z (sD 9 sN) ?_;exact Fp mG Z Wp
    .refine Qb ?_ (Qb ?_ (Qf))
     iterate 2 refine Om Z (sD 10 sN) ?_;refine vX (I V.BB) (Ez Z EE Z (Qo (f:=5) M)) ?_;exact Wp
    .refine Qb ?_ (Qb ?_ (Qf))
     iterate 2 refine F9 Z (sD 5 (sD 6 (sD 11 sN))) ?_;refine Qg [] (C8.fn call27 Z Z Z) ((jd _ _ _ _).c _ ab) ?_;rintro _ _ ⟨rfl,rfl⟩;refine FE Z ?_;refine Et (Yl [(79,_)] Z Z (Cx.cons Z Ep Cx.nil) (Ec (Ec (Ec (Ec (Ec (Ec (QU _)))))))) ?_;refine Et TD ?_;exact Wp
    .refine Qb ?_ (Qb ?_ (Qf))
     iterate 2 refine F9 Z (sD 13 (sD 14 (sD 15 sN))) ?_;refine Qg [] (C8.fn call28 Z Z Z) ((jh _ _ _ _).c _ ac) ?_;rintro _ _ ⟨rfl,rfl⟩;refine FE Z ?_;refine Et (Yl [(83,_)] Z Z (Cx.cons Z Ep Cx.nil) (Ec (Ec (Ec (Ec (Ec (Ec (Ec (QU _))))))))) ?_;refine Et TD ?_;exact Wp
    .refine Qb ?_ (Qb ?_ (Qb ?_ (Qf)))
     iterate 3 exact Jm.alloc _ 13 46 4 _ Z Z Z Z Z Z Z (JW.alloc (v:=(.a [.q 3 (map CD.c []),.q 1 (map (Qu 1 eI) []),I 0,I 0,I 0,I 0,I 0,I 0,I 0,I 0,.q 5 (map CN.c []),.n,.q 4 (map CF.c [])])) zeroValue46 (Fu Z)) Z
   refine Go 6 Z (Cd [] g Kc Z λbn bi g=>Fg 9 Z Z (Bd g λR az g=>Cg R [0,1,2,3,4] [3,6,8] (λ_=>[(13,.p 3 0)]) (λR=>[(3,.c 46 [.q 3 (map CD.c j.1),.q 1 (map (Qu 1 eI) j.2.1),I d.BU,I d.AN,I d.Aw,I d.BK,I d.B7,I d.BB,I d.Bl,I d.B6,.q 5 (map CN.c P),.o 4 (AI R) 4,.q 4 (map CF.c Q)]),(4,.r 104 4 (map Ae.c R))]) Zf ?_ ?_))
   .refine G0 1 Z (Lp [0,1,2,4,0,7] [2,3,6,8,13,14] (λE=>[(15,I E.2)]) (λE=>[(3,.c 46 [.q 3 (map CD.c j.1),.q 1 (map (Qu 1 eI) j.2.1),I d.BU,I d.AN,I d.Aw,I d.BK,I d.B7,I d.BB,I d.Bl,I d.B6,.q 5 (map CN.c P),.o 4 (AI E.1) 4,.q 4 (map CF.c Q)]),(4,.r 104 4 (map Ae.c E.1))]) az Zf ?_ ?_)
    .refine En (Yb (i:=4) (m:=11) (t:=104) (k:=4) Z Z Z) ?_;exact Lr [0,1,2,4,8,7]
    intro E bo B aj;refine G0 9 Z (Q8 Z B (λ_ B=>?_) (λ_ B=>?_))
    .exact Gc 2 Z (QH B (Gx 1 Z (DW aj B (Lr [0,1,2,3,4]))))
    refine Gc 5 Z (Bd B λW F B=>Ct W [0,1,2,3,4,5] [2,3,6,8,13,14,15] (λW=>[(108,.b W)]) Ze Zf ?_ (λenv H O=>?_))
    .refine G0 3 Z (Bd F λba ad F=>?_);refine vX (.p 5 (toNat E.2*57)) (Qd ad Z ED EF) ?_;refine Fp TF Z ?_;refine vX (I ba.AX) (Ez Z EE Z (Qo (f:=3) ad)) ?_;refine Go 2 Z (Is 99 F Z (λ_ F=>?_) (λ_ F=>?_))
     .refine Go 2 Z (Bd F λbb ae F=>?_);refine vX (.p 5 (toNat E.2*57)) (Qd ae Z ED EF) ?_ (gT Z);refine H7 (gT Z) sL Z (H7 (gT Z) Qoy Z ?_);refine vX (I bb.Ae.BU) (Ez Z EE Z (Qo (f:=29) ae)) ?_ (gT Z);exact au F
     exact au F
    refine Gx 1 Z (Ee O (Bd B λT G B=>Ct T [0,1,2,3,0,5] [2,3,6,8,13,14,15] Ze (λT=>[(3,.c 46 [.q 3 (map CD.c j.1),.q 1 (map (Qu 1 eI) j.2.1),I d.BU,I d.AN,I d.Aw,I d.BK,I d.B7,I d.BB,I d.Bl,I d.B6,.q 5 (map CN.c P),.o 4 (AI T) 4,.q 4 (map CF.c Q)]),(4,.r 104 4 (map Ae.c T))]) Zf ?_ (λenv H O=>?_)))
    .refine G0 0 Z (Cn Z G (λ_ G=>?_) (λ_ G=>?_))
     .refine DU 8 Z (D 4 Z ?_);obtain⟨X,af,G⟩:=QE G;refine DS.v (x:=(.p 5 (toNat E.2*57))) (Qd af Z ED EF) ?_;refine DS.wo (x:=.p 5 (toNat E.2*57+29)) ?_ ?_
      .exact Fp sL Z Wp
      refine DS.v (x:=(.a (Ae.c X.Ae))) (Qt Z isAgg104 GZ Z (Qo (f:=29) af) Z Z) ?_;refine DS.wo (x:=.q 4 (map Ae.c [X.Ae])) ?_ ?_
      .refine vH (QO (xs:=[.tmp 115]) (es:=map Ae.c [X.Ae]) oY Z Z Z Z Z ⟨Z,trivial⟩ Z Z) ?_;exact FE Z Wp
      refine Eg Z (Bd G λbp an G=>vH (Qj (e:=Ae.c) an oY runUnderlying43 La) ?_);exact au G
     exact au G
    exact Gx 2 Z (Ee O (Gc 5 Z (Q1 B (Lr [0,1,2,3,4,5]))))
   refine Gc 1 Z (DU 13 Z (D 7 Z ?_));refine Dz [] g Kc Z λbq bj g=>D 4 Z ?_;obtain⟨bc,ao,g⟩:=QE g;refine DS.wo (x:=.b bc) ?_ ?_
   .refine Zj (C8.fn call30 rfl rfl rfl) (Dv.cons rfl (.inl ⟨rfl,rfl⟩) (Dv.cons rfl (.inl ⟨rfl,rfl⟩) (Dv.cons rfl (.inl ⟨rfl,rfl⟩) (Dv.cons rfl (.inl ⟨rfl,rfl⟩) (Dv.cons rfl (.inl ⟨rfl,rfl⟩) (Dv.cons rfl (.inr ⟨_,_,_,_,_,rfl,rfl,X0 ..,rfl⟩) Dv.nil)))))) ((jS _ _ _ _ _ _ _).c _ ao) (by rintro _ _ ⟨rfl,rfl⟩;rfl) ?_;rintro _ _ ⟨rfl,rfl⟩;exact FE Z Wp
   refine Eg Z (Go 6 Z ?_);cases g;exact DX Y J h
  subst hb;exact au J
 subst be;refine Gc 8 Z ?_;obtain rfl:=Oi h;refine⟨[(6,.p 1 0),(7,.b AD)],[.r 104 4 (map Ae.c ([]:AA Ae)),.c 46 [.q 3 (map CD.c ([]:AA CD)),.q 1 (map (Qu 1 eI) ([]:AA (AA Int))),I 0,I 0,I 0,I 0,I 0,I 0,I 0,I 0,.q 5 (map CN.c ([]:AA CN)),.o 0 (AI ([]:AA Ae)) 4,.q 4 (map CF.c ([]:AA CF))]],_,?_,QI Z Z (C6.cons (Yi isAgg46 sizeOf46 Z Z Z) (C6.cons Dy.tmp C6.nil)),Z,Z⟩;refine En (Yb (i:=0) (m:=11) (t:=104) (k:=4) Z Z Z) ?_;exact Lr [1,0]
def VS(n:Nat)(g:AA CC)(h:Int)(f:(AA CC)×Int):AB (CG ((AA CC)×Int) (AA CC)):=(bif f.2<(AI g:Int) then AH (CJ g f.2) λd=>AH ((bif (!d.BM)then AC ({BM:=d.BM,BS:=d.BS,Lo:=i64.wrap (d.Lo+h),Hi:=i64.wrap (d.Hi+h):CC})else AC d):AB CC) λj=>AH (app f.1 [j]) λm=>AC (.k (m,i64.wrap (f.2+1)))else AC (.d f.1))
def Pu(f:AA CC)(g:Int):AB (AA CC):=AH (iter (VS n f g) n ([],0):AB (AA CC)) λd=>AC d
instance jU(F:AA CC)(G:Int):Kq (Pu n F G) 13 [.q 4 (map CC.c F),I G] [] (λr=>.o 0 (AI r) 4) (λr=>[.r 77 4 (map CC.c r)]):=by
 refine Kg 16 func13 Z Z Z Z λr h=>Bd h λf H h=>Cg f [0] [] (λf=>[(5,.o 0 (AI f) 4)]) (λf=>[(0,.r 77 4 (map CC.c f))]) Zf ?_ ?_
 .refine G0 1 Z (Lp [0] [0,1] (λg=>[(5,.o 0 (AI g.1) 4),(6,I g.2)]) (λg=>[(0,.r 77 4 (map CC.c g.1))]) H Zf ?_ ?_)
  .refine En (Er (s:=5) (k:=4) (t:=77) (XQ Z) Z) ?_;exact Lr [0]
  intro g J d q;refine G0 5 Z (Lg 3 Z Z (Q8 Z d (λ_ d=>?_) (λ_ d=>?_)))
  .exact Gc 2 Z (QH d (Gx 1 Z (DW q d (Lr [0]))))
  refine Gc 8 Z (Bd d λL y d=>Iz y Z (Go 13 Z (Bd d λm j d=>Cg m [0,1] [0,1,5,6,7] Ze (λm=>[(1,.c 77 (CC.c m))]) Zf ?_ ?_)))
  .refine G0 0 Z (Cn Z j (λ_ j=>?_) (λ_ j=>?_))
   .exact m7 18 Z j [0,1]
   exact m7 1 Z j [0,1]
  refine Gc 3 Z (vH (Ek (xs:=[.tmp 32]) (es:=map CC.c [m]) Jf Z Z Z Z Z ⟨Z,trivial⟩ Z Z) ?_);refine FE Z (Bd d λM E d=>vH (Qj (e:=CC.c) E Jf EM (QC (i:=2))) ?_);exact Fg 9 Z Z (Q1 d (Lr [3]))
 exact TJ 7 Z h 4 [0]
def Mo(f:CB)(O:AA CI)(P:Int)(t:Int)(g:Int):AB Bool:=AH (W2 300) λQ=>(bif (!Q)then AC AD else AH (Py n f O P) λd=>AH ((bif (!d.2.2.2.2.2.2.2.2.2.2.2.2.2)then AC AE else(bif g<0 then AC AE else(bif 1073741824<g then AC AE else(bif d.2.2.2.1<0 then AC AE else(bif (AI f.AO:Int)<=d.2.2.2.1 then AC AE else(bif d.2.2.2.2.1<0 then AC AE else(bif (AI f.Ap:Int)<=d.2.2.2.2.1 then AC AE else AH (CJ f.AO d.2.2.2.1) λx=>(bif (x.A9 != 1)then AC AE else AH (CJ f.AO d.2.2.2.1) λy=>AC (AG (0<(AI y.Aq:Int))))))))))):AB Bool) λB=>(bif B then AC AE else AH (app ([]:AA Aw) f.Ap) λh=>AH (CJ f.Ap d.2.2.2.2.1) λE=>AH (CJ h d.2.2.2.2.1) λF=>AH (JG h d.2.2.2.2.1 ({An:=F.An,Bv:=i64.wrap (E.Bv+g):Aw})) λj=>AH (HL n ({f with Ap:=j:CB})) λG=>(bif (G != 0)then AC AE else AH (KH n d.2.2.2.2.2.2.2.2.2.2.2.2.1) λH=>AH (Kz n f ({AS:=d.1,BP:=d.2.1:CE}) ({BU:=d.2.2.1,AN:=d.2.2.2.1,Aw:=d.2.2.2.2.1,BK:=d.2.2.2.2.2.1,B7:=d.2.2.2.2.2.2.1,BB:=d.2.2.2.2.2.2.2.1,Bl:=d.2.2.2.2.2.2.2.2.1,B6:=d.2.2.2.2.2.2.2.2.2.1:AP}) H d.2.2.2.2.2.2.2.2.2.2.1 d.2.2.2.2.2.2.2.2.2.2.2.1) λJ=>AH (NJ n f ({AS:=d.1,BP:=d.2.1:CE}) ({BU:=d.2.2.1,AN:=d.2.2.2.1,Aw:=d.2.2.2.2.1,BK:=d.2.2.2.2.2.1,B7:=d.2.2.2.2.2.2.1,BB:=d.2.2.2.2.2.2.2.1,Bl:=d.2.2.2.2.2.2.2.2.1,B6:=d.2.2.2.2.2.2.2.2.2.1:AP}) d.2.2.2.2.2.2.2.2.2.2.1 d.2.2.2.2.2.2.2.2.2.2.2.1 d.2.2.2.2.2.2.2.2.2.2.2.2.1 t) λm=>AH (NJ n ({f with Ap:=j:CB}) ({AS:=d.1,BP:=d.2.1:CE}) ({BU:=d.2.2.1,AN:=d.2.2.2.1,Aw:=d.2.2.2.2.1,BK:=d.2.2.2.2.2.1,B7:=d.2.2.2.2.2.2.1,BB:=d.2.2.2.2.2.2.2.1,Bl:=d.2.2.2.2.2.2.2.2.1,B6:=d.2.2.2.2.2.2.2.2.2.1:AP}) d.2.2.2.2.2.2.2.2.2.2.1 d.2.2.2.2.2.2.2.2.2.2.2.1 d.2.2.2.2.2.2.2.2.2.2.2.2.1 t) λq=>AH ((bif (m.2==q.2)then(bif (J.2 != 0)then AC AE else AH (Pu n m.1 (i64.wrap (0-g))) λL=>AH (Pw n q.1 L) λM=>AC M)else AC AD):AB Bool) λN=>AC N)))
instance jc(m:CB)(a2:AA CI)(a3:Int)(a4:Int)(a5:Int):Ks (Mo n m a2 a3 a4 a5) 4 [.a (CB.c m),.q 57 (map CI.c a2),I a3,I a4,I a5] [] (λr=>.b r):=by
 refine Kg 9 func4 Z Z Z Z λr h=>Cz [] h (jO _).c Z λr1 an h=>Go 3 Z (Cn Z h (λ_ h=>?_) (λ_ h=>?_))
 .exact TJ 7 Z h 10 []
 refine Gc 7 Z (Cd [] h (jY _ _ _ _).c Z λg ao h=>Fg 10 Z Z (Bd h λy d h=>Ct y [0,3,1] [3,4,5,11] (λy=>[(91,.b y)]) (λ_=>[(1,.c 46 [.q 3 (map CD.c g.1),.q 1 (map (Qu 1 eI) g.2.1),I g.2.2.1,I g.2.2.2.1,I g.2.2.2.2.1,I g.2.2.2.2.2.1,I g.2.2.2.2.2.2.1,I g.2.2.2.2.2.2.2.1,I g.2.2.2.2.2.2.2.2.1,I g.2.2.2.2.2.2.2.2.2.1,.q 5 (map CN.c g.2.2.2.2.2.2.2.2.2.2.1),.o 2 (AI g.2.2.2.2.2.2.2.2.2.2.2.1) 4,.q 4 (map CF.c g.2.2.2.2.2.2.2.2.2.2.2.2.1)])]) Zf ?_ (λenv H af=>?_)))
 .refine G0 4 Z (Is 31 d Z (λ_ d=>?_) (λ_ d=>?_))
  .exact Gl 61 Z d [0,3,1]
  .refine Go 4 Z (Is 35 d Z (λ_ d=>?_) (λ_ d=>?_))
   .exact Gl 57 Z d [0,3,1]
   .refine Go 4 Z (Is 39 d Z (λ_ d=>?_) (λ_ d=>?_))
    .exact Gl 53 Z d [0,3,1]
    .refine Go 6 Z (Is 45 d Z (λ_ d=>?_) (λ_ d=>?_))
     .exact Gl 47 Z d [0,3,1]
     .refine Go 5 Z (Lg 3 Z Z (Is 54 d Z (λ_ d=>?_) (λ_ d=>?_)))
      .exact Gl 38 Z d [0,3,1]
      .refine Go 6 Z (Is 60 d Z (λ_ d=>?_) (λ_ d=>?_))
       .exact Gl 32 Z d [0,3,1]
       .refine Go 5 Z (Lg 3 Z Z (Is 69 d Z (λ_ d=>?_) (λ_ d=>?_)))
        .exact Gl 23 Z d [0,3,1]
        .refine Go 5 Z (Bd d λaq Q d=>Iz Q Z (Go 5 Z (Is 80 d Z (λ_ d=>?_) (λ_ d=>?_))))
         .exact Gl 12 Z d [0,3,1]
         .exact Go 5 Z (Bd d λar T d=>Iz T Z (Go 2 Z (Lm Z (Gl 3 Z d [0,3,1]))))
 refine Gx 1 Z (Ee af (Cn Z h (λ_ h=>?_) (λ_ h=>?_)))
 .exact TJ 7 Z h 10 []
 refine Gc 11 Z (vH (Ek (xs:=[]) (es:=map Aw.c []) o9 Z Z Z Z Z trivial Z Z) ?_);refine Fg 2 Z Z (Bd h λav W h=>vH (Qj (e:=Aw.c) W o9 GG La) ?_);refine Fg 5 Z Z (DU 15 Z (D 10 Z ?_));obtain⟨F,X,h⟩:=QE h;refine DS.wo (x:=.rp [.str F.An,I F.Bv]) ?_ ?_
 .exact Ix X GG sizeOf68 Z Wp
 refine D 4 Z (Eg Z (Bd h λaw B h=>?_));refine vX (.p 5 (toNat g.2.2.2.2.1*2)) (Qd B Z GG sizeOf68) ?_;refine Fp QqA Z (Bd h λag q h=>?_);refine vU (Yp (e:=Aw.c) (k:=2) (f:=1) B q EC Z Z) ?_;refine FE Z ?_;refine Et (QZ (s:=96) Z (congrArg (λn=>A.s 5 0 n 2) (Q6 q))) ?_;refine Et (QZ (s:=99) Z (congrArg (λn=>A.s 5 0 n 2) (Q6 q))) ?_;refine Et (S1 (i:=3) Z (congrArg (λnz=>CU.cells 33 [.str m.An,.q 2 (map Al.c m.Av),.q 4 (map Cr.c m.A4),.q 5 (map AN.c m.AO),.o 5 nz 2,.q 4 (map AZ.c m.Ab),.q 3 (map AW.c m.AV),.q 4 (map CQ.c m.A3),.q 8 (map AY.enc m.BN),I m.AQ.A_,I m.AQ.A7,I m.AQ.A6,I m.AQ.Ak,I m.AQ.BC,I m.Bk,I m.Az]) (Q6 q))) ?_;refine Go 6 Z ?_;refine Et (Yl [(96,_),(99,_),(115,_)] Z Z (Cx.cons Z Ep (Cx.cons Z Ep (Cx.cons Z (DN.agg (CW.k (CW.k (CW.k (CW.k (Ed Ep (Ej _))))))) Cx.nil))) (Ec (Ec (Ec (Dm.cells (CW.k (CW.k (CW.k (CW.k (Ed Ep (Ej _)))))) (Ec (Ec (QU _)))))))) ?_;refine Et (Yl (i:=2) [] Z Z Cx.nil (Ec (Dm.cells (CW.k (CW.k (CW.k (CW.k (CW.k (CW.k (CW.k (CW.k (CW.k (CW.k (CW.k (Ed Ep (Ej _))))))))))))) (Ec (QU _))))) ?_;refine Cz [] h (yi _ _).c Z λax ai h=>Go 3 Z (Cn Z h (λ_ h=>?_) (λ_ h=>?_))
 .exact TJ 7 Z h 10 []
 refine Gc 3 Z (P7 17 12 [0,0,0,0,0,0,0,0,0,0,0,0,1,2,2,2,2] (by kernel_rfl) (Da 7 Z ?_));obtain⟨ah,aa,h⟩:=QE h;refine DA.wo (x:=I ah) ?_ ?_
 .exact Pc [] Z (C8.fn call10 Z Z Z) ((jp _ _).c _ aa) Z Wp
 refine Da 4 Z ?_;obtain⟨t,ab,h⟩:=QE h;refine DA.op (x:=.t [.o 6 (AI t.1) 2,I t.2]) (H1:=[.c 33 (CB.c m),.c 46 [.q 3 (map CD.c g.1),.q 1 (map (Qu 1 eI) g.2.1),I g.2.2.1,I g.2.2.2.1,I g.2.2.2.2.1,I g.2.2.2.2.2.1,I g.2.2.2.2.2.2.1,I g.2.2.2.2.2.2.2.1,I g.2.2.2.2.2.2.2.2.1,I g.2.2.2.2.2.2.2.2.2.1,.q 5 (map CN.c g.2.2.2.2.2.2.2.2.2.2.1),.q 4 (map Ae.c g.2.2.2.2.2.2.2.2.2.2.2.1),.q 4 (map CF.c g.2.2.2.2.2.2.2.2.2.2.2.2.1)],.dead,.c 33 (CB.c ({m with Ap:=ag:CB})),.dead,.dead,.r 75 2 (map CX.c t.1),.c 55 [.o 6 (AI t.1) 2]]) ?_ ?_
 .refine Qg [] (C8.fn call9 Z Z Z) ((vh _ _ _ _ _ _ _).c _ ab) ?_;rintro _ _ ⟨rfl,rfl⟩;exact FE Z Wp
 refine Db 4 Z (DB.done Z (Go 17 Z (Cd [] h (jK _ _ _ _ _ _ _ _).c Z λay aj h=>Fg 21 Z Z (Cd [] h (jK _ _ _ _ _ _ _ _).c Z λaz ak h=>Fg 8 Z Z (Bd h λE j h=>?_)))));refine Cg E [] [] (λE=>[(10,.b E)]) Ze Zf ?_ ?_
 .refine G0 5 Z (Is 169 j Z (λ_ j=>?_) (λ_ j=>?_))
  .refine Go 3 Z (Is 172 j Z (λ_ j=>?_) (λ_ j=>?_))
   .exact Gl 10 Z j []
   .refine Go 4 Z ?_;refine Et (Yl [(16,_),(134,_),(147,_),(148,_),(174,_)] Z Z (Cx.cons Z Ep (Cx.cons Z (DN.tup (Ed Ep (Ej _))) (Cx.cons Z (DN.tup (Ed Ep (Ej _))) (Cx.cons Z Ep (Cx.cons Z Ep Cx.nil))))) (Ec (Ec (Ec (Ec (Ec (Ec (Ec (Ec (Ec (QU _))))))))))) ?_;exact Cd [] j (jU _ _ _).c Z λba al j=>FE Z (Cb j (jW _ _ _).c Z (lo (lo ln)) λbb am j=>Gl 4 Z j [])
  .exact Gl 13 Z j []
 exact TJ 1 Z h 10 []
end Go.Sw
