/- What the functions compute that OutcomeRemoved reaches, and that their calls refine it (part 6 of 6). -/
import Derived.Test.YtgamokchjocjaaaGreatW23Rm5
set_option linter.unusedVariables false
set_option linter.unusedSimpArgs false
set_option maxRecDepth 100000
set_option maxHeartbeats 4000000
namespace Go.Sw
open Option renaming some→AC,bind→AH
open Bool renaming false→AD,true→AE
open Decidable renaming decide→AG
open List renaming length→AI
variable (n:Nat)
open List(map)
open Int(toNat)
open Go.IntKind(i64 u64 u8)
open Go.Proofs Tryz
def md(n:Nat)(f:(AA AP)×Int)(g:CI)(d:Int):AB (CG Int Int):=AH ((bif d<(AI f.1:Int) then AH (CJ f.1 d) λh=>AC (AG (h.BT<g.AP.BT))else AC AD):AB Bool) λj=>(bif j then AC (.k (i64.wrap (d+1)))else AC (.d d))
def Tr(E:CB)(h:AA CI)(d:(AA AP)×Int):AB (CG ((AA AP)×Int) (AA AP)):=(bif d.2<(AI h:Int) then AH (AH (CJ h d.2) λf=>AH (AH (CJ h d.2) λj=>(bif (j.AY != 1)then AC AE else(bif (AI E.AO:Int)<=f.AP.AN then AC AE else(bif (AI E.A0:Int)<=f.AP.A3 then AC AE else AH (Of n d.1 f.AP.BT) λk=>AC (AG (0<=k))))):AB Bool) λm=>(bif m then AC d.1 else AH (iter (md n d f) n 0:AB Int) λg=>AH (Dd d.1 0 g) λq=>AH (app ([]:AA AP) q) λt=>AH (app t [f.AP]) λx=>AH (Dd d.1 g (AI d.1:Int)) λy=>AH (app x y) λz=>AC z):AB (AA AP)) λB=>AC (.k (B,i64.wrap (d.2+1)))else AC (.d d.1))
def UP(n:Nat)(f:AA AP)(g:Int)(d:Int):AB (CG Int (CG Unit (CG Int (CG Unit ((AA AP)×Int))))):=(bif d<g then AH (CJ f g) λh=>AH (CJ f d) λj=>(bif (h.BA==j.BA)then AC (.d (.d (.d (.d ([],180)))))else AC (.k (i64.wrap (d+1))))else AC (.d (.k ())))
def UR(g:AA AP)(d:Int):AB (CG Int (CG Unit ((AA AP)×Int))):=(bif d<(AI g:Int) then AH (iter (UP n g d) n 0:AB (CG Unit (CG Int (CG Unit ((AA AP)×Int))))) λh=>match h with|.k f=>(AC (.k (i64.wrap (d+1))))|.d f=>AC f else AC (.d (.k ())))
def MB(h:CB)(k:AA CI):AB ((AA AP)×Int):=AH (HD n h) λj=>(bif (j != 0)then AC ([],j)else AH (F8 n k) λm=>AH (iter (Tr n h m) n (([]:AA AP),0):AB (AA AP)) λd=>(bif 4000<(AI d:Int) then AC ([],2)else AH (iter (UR n d) n 0:AB (CG Unit ((AA AP)×Int))) λg=>match g with|.k f=>(AC (d,0))|.d f=>AC f))
instance xl(a1:CB)(a2:AA CI):Kq (MB n a1 a2) 21 [.a (CB.c a1),.q 57 (map CI.c a2)] [] (λr=>.t [.o 0 (AI r.1) 8,I r.2]) (λr=>[.r 41 8 (map AP.c r.1)]):=by
 refine Kg 10 func21 Z Z Z Z λr h=>Cz [] h Kc Z λr1 bs h=>Go 10 Z (Cn Z h (λ_ h=>?_) (λ_ h=>?_))
 .refine Gc 9 Z ?_;obtain rfl:=Oi h;refine R2 4 5 Z Z ?_;refine Eo (Et (s:=4) (k:=8) (t:=41) (XR Z) Z) ?_;exact Lr [1]
 refine Gc 5 Z (Cd [] h Kc Z λr3 bu h=>Fg 5 Z Z (vH (El (xs:=[]) (es:=map AP.c []) W6 Z Z Z Z Z trivial Z Z) ?_));refine Fg 9 Z Z (Bd h λJ ax h=>Ct J [2] [] (λJ=>[(7,.o 0 (AI J) 8)]) (λJ=>[(0,.r 41 8 (map AP.c J))]) Zf ?_ (λenv H z=>?_))
 .refine G0 1 Z (Lp [1,0,2] [1,2] (λd=>[(7,.o 2 (AI d.1) 8),(8,I d.2)]) (λd=>[(2,.r 41 8 (map AP.c d.1))]) ax Zf (Lr [1,0,2]) λd bl B ag=>?_);refine G0 9 Z (Q7 Z B (λ_ B=>?_) (λ_ B=>?_))
  .exact Gc 2 Z (QI B (Gx 1 Z (DU ag B (Lr [2]))))
  refine Gc 3 Z (Bd B λL g B=>Ct L [0,1,2] [1,2,8] (λL=>[(7,.o 2 (AI L) 8)]) (λL=>[(2,.r 41 8 (map AP.c L))]) Zf ?_ (λenv H z=>?_))
  .refine G0 5 Z (Bd g λq V g=>?_);refine vX (.p 0 (toNat d.2*57)) (Qf V Z EE EG) ?_;refine Fp Qn4 Z ?_;refine vX (.a (AP.c q.AP)) (Qv Z GK EP Z (Qp (f:=4) V) Z Z) ?_;refine Go 6 Z (Bd g λQ R g=>Ct Q [0,1,2,3] [1,2,7,8,9] (λQ=>[(60,.b Q)]) Ze Zf ?_ (λenv H z=>?_))
   .refine G0 3 Z (Bd R λay W R=>?_);refine vX (.p 0 (toNat d.2*57)) (Qf W Z EE EG) ?_;refine Fp Sf Z ?_;refine vX (I ay.AY) (EA Z EF Z (Qp (f:=3) W)) ?_;exact au R
   refine Gx 1 Z (Ef z (Cn Z g (λ_ g=>?_) (λ_ g=>?_)))
   .exact au g
   refine Gc 8 Z (Bd g λj az g=>Ct j [0,1,2,3] [1,2,7,8,9] (λj=>[(10,I j)]) Ze Zf ?_ (λenv H z=>?_))
   .refine G0 1 Z (Lp [0,1,2,3] [1,2,7,8,9] (λM=>[(10,I M)]) Ze az Zf (Lr [0,1,2,3]) λM bm E aj=>?_);refine G0 2 Z (Bd E λT F E=>Ct T [0,1,2,3] [1,2,7,8,9,10] (λT=>[(74,.b T)]) Ze Zf ?_ (λenv H z=>?_))
    .refine G0 0 Z (DR 12 Z (D 5 Z (DS.is 4 F Z Z Z (λ_ F=>?_) (λ_ F=>?_))))
     .refine D 2 Z ?_;obtain⟨ba,X,F⟩:=QF F;refine DS.v (x:=(.p 2 (toNat M*8))) (Qf X Z EI EP) ?_ (hg:=(gT Z));refine DS.wo (x:=.p 2 (toNat M*8)) ?_ ?_
      .exact HR (gT Z) j_ Z Wp
      refine DS.v (x:=(I ba.BT)) (EA Z EF Z (Qi X)) ?_ (hg:=(gT Z));exact au F
     exact au F
    refine Gx 1 Z (Ef z (Q7 Z E (λ_ E=>?_) (λ_ E=>?_)))
    .exact Gc 2 Z (QI E (Gx 1 Z (DU aj E (Lr [0,1,2,3]))))
    exact au E
   refine Gx 1 Z (Ef z (HF 11 [0,4,7] [(1,0,0),(0,0,1),(0,0,1),(0,0,1),(1,1,0),(0,0,2),(0,0,2),(1,2,0),(0,0,3),(0,0,3),(0,0,3)] (by kernel_rfl) ?_));refine Ey (x:=.o 4 (AI ([]:AA AP)) 8) (X1:=[.r 107 57 (map CI.c r3),.c 33 (CB.c a1),.r 41 8 (map AP.c d.1),.c 41 (AP.c q.AP),.r 41 8 (map AP.c ([]:AA AP))]) ?_ ?_
   .refine vH (El (xs:=[]) (es:=map AP.c []) W6 Z Z Z Z Z trivial Z Z) ?_;exact FE Z Wp
   refine Dk 2 Z ?_;obtain⟨bn,N,g⟩:=QF g;refine J4 (lo:=0) (hi:=1) (x:=.s 2 (0+toNat 0) (toNat j-toNat 0) 8) ⟨?_,?_,trivial⟩ ?_
   iterate 2 refine vX (.s 2 (0+toNat 0) (toNat j-toNat 0) 8) (QO (l:=d.1) N EI EP (.inl ⟨Z,Z⟩) (.inr ⟨_,Z,Z⟩)) ?_;exact Wp
   obtain⟨ad,am,g⟩:=QF g;refine Ey (x:=.o 5 (AI ad) 8) (X1:=[.r 107 57 (map CI.c r3),.c 33 (CB.c a1),.r 41 8 (map AP.c d.1),.c 41 (AP.c q.AP),.dead,.r 41 8 (map AP.c ad)]) ?_ ?_
   .refine vH (Ql (e:=AP.c) am W6 EI (K0 (b:=2) N)) ?_;exact FE Z Wp
   refine Wf (lo:=0) (hi:=2) (x:=.a (AP.c q.AP)) ⟨Z,Z,Z,trivial⟩ ?_;refine J4 (lo:=0) (hi:=2) (x:=.q 8 (map AP.c [q.AP])) ⟨?_,?_,?_,trivial⟩ ?_
   iterate 3 refine vH (QM (xs:=[.tmp 82]) (es:=map AP.c [q.AP]) W6 Z Z Z Z Z ⟨Z,trivial⟩ Z Z) ?_;exact FE Z Wp
   obtain⟨ae,an,g⟩:=QF g;refine Ey (x:=.o 6 (AI ae) 8) (X1:=[.r 107 57 (map CI.c r3),.c 33 (CB.c a1),.r 41 8 (map AP.c d.1),.c 41 (AP.c q.AP),.dead,.dead,.r 41 8 (map AP.c ae)]) ?_ ?_
   .refine vH (Ql (e:=AP.c) an W6 EI K3) ?_;exact FE Z Wp
   refine Dk 2 Z ?_;obtain⟨bo,G,g⟩:=QF g;refine J4 (lo:=0) (hi:=3) (x:=.s 2 (0+toNat j) (toNat (AI d.1:Int)-toNat j) 8) ⟨?_,?_,?_,?_,trivial⟩ ?_
   iterate 4 refine vX (.s 2 (0+toNat j) (toNat (AI d.1:Int)-toNat j) 8) (QO (l:=d.1) G EI EP (.inr ⟨_,Z,Z⟩) (.inl ⟨Z,Z⟩)) ?_;exact Wp
   refine DK.done Z Z (Bd g λbp ao g=>?_);refine vH (Ql (e:=AP.c) ao W6 EI (K0 (b:=2) G)) ?_;exact au g
  exact Gx 1 Z (Ef z (Gc 5 Z (Q1 B (Lr [0,1,2]))))
 refine Gx 1 Z (Ef z (Gc 8 Z (Cn Z h (λ_ h=>?_) (λ_ h=>?_))))
 .refine Gc 8 Z ?_;obtain rfl:=Oi h;refine R2 4 5 Z Z ?_;refine Eo (Et (s:=4) (k:=8) (t:=41) (XR Z) Z) ?_;exact Lr [1]
 refine Gc 8 Z (Bd h λbb bc h=>D5 (b:=bb) [0] [7] Ze Ze Zf ?_ (λ_ af=>?_))
 .refine G0 1 Z (Lp [0] [7] (λO=>[(11,I O)]) Ze bc Zf (Lr [0]) λO bq y Y=>?_);refine G0 9 Z (Q7 Z y (λ_ y=>?_) (λ_ y=>?_))
  .exact Jc Y y
  refine Gc 9 Z (Bd y λbd be y=>FT (b:=bd) [0] [7,11] Ze Ze Zf ?_ (λbk env H af z=>?_))
  .refine G0 1 Z (Lp [0] [7,11] (λP=>[(12,I P)]) Ze be Zf (Lr [0]) λP br m aa=>?_);refine G0 8 Z (Q7 Z m (λ_ m=>?_) (λ_ m=>?_))
   .exact Jc aa m
   refine Gc 5 Z (DR 10 Z (D 2 Z ?_));obtain⟨bg,ab,m⟩:=QF m;refine DS.v (x:=(.p 0 (toNat O*8))) (Qf ab Z EI EP) ?_;refine DS.wo (x:=.p 0 (toNat O*8+5)) ?_ ?_
   .exact Fp lN Z Wp
   refine DS.v (x:=(I bg.BA)) (EA Z EF Z (Qp (f:=5) ab)) ?_;refine D 2 Z ?_;obtain⟨bh,ac,m⟩:=QF m;refine DS.v (x:=(.p 0 (toNat P*8))) (Qf ac Z EI EP) ?_;refine DS.wo (x:=.p 0 (toNat P*8+5)) ?_ ?_
   .exact Fp lN Z Wp
   refine DS.v (x:=(I bh.BA)) (EA Z EF Z (Qp (f:=5) ac)) ?_;refine Eh Z (Go 3 Z (Cn Z m (λ_ m=>?_) (λ_ m=>?_)))
   .refine Gc 9 Z (Il m ?_);obtain rfl:=Oj aa m;refine Gx 1 Z (NR (Gx 2 Z (Il y ?_)));obtain rfl:=Oj Y y;refine Gx 1 Z (NR (Gx 1 Z ?_));obtain rfl:=Oi h;refine R2 4 5 Z Z ?_;refine Eo (Et (s:=4) (k:=8) (t:=41) (XR Z) Z) ?_;exact Lr [1]
   exact au m
  subst af;exact Gx 2 Z (Ef z (Gc 5 Z (Q1 y (Lr [0]))))
 subst af;exact au h
def Tg(n:Nat)(h:AA CI)(g:A5)(d:Int):AB (CG Int (CG Unit Bool)):=(bif d<(AI h:Int) then AH (CJ h d) λf=>AH (AH (CJ h d) λj=>(bif (j.AY==6)then(bif (f.Aq.Am==g.Am)then(bif (f.Aq.Ag==g.Ag)then(bif f.Aq.Lo<=g.BB then AC (AG (g.BB<=f.Aq.Hi))else AC AD)else AC AD)else AC AD)else AC AD):AB Bool) λk=>(bif k then AC (.d (.d AE))else AC (.k (i64.wrap (d+1))))else AC (.d (.k ())))
def Oe(g:AA CI)(h:A5):AB Bool:=AH (iter (Tg n g h) n 0:AB (CG Unit Bool)) λf=>match f with|.k d=>(AC AD)|.d d=>AC d
instance wm(d:AA CI)(f:A5):Ks (Oe n d f) 191 [.q 57 (map CI.c d),.a (A5.c f)] [] (λr=>.b r):=KA func191
def OO(n:Nat)(d:A5)(f:A5):AB Bool:=(bif (d.BA != f.BA)then AC (AG (d.BA<f.BA))else(bif (d.Am != f.Am)then AC (AG (d.Am<f.Am))else(bif (d.Ag != f.Ag)then AC (AG (d.Ag<f.Ag))else AC (AG (d.BB<f.BB)))))
instance wR(d:A5)(f:A5):Ks (OO n d f) 192 [.a (A5.c d),.a (A5.c f)] [] (λr=>.b r):=KA func192
def mY(f:(AA A5)×Int)(g:CI)(d:Int):AB (CG Int Int):=AH ((bif d<(AI f.1:Int) then AH (CJ f.1 d) λh=>AH (OO n h g.A5) λj=>AC j else AC AD):AB Bool) λk=>(bif k then AC (.k (i64.wrap (d+1)))else AC (.d d))
def Sy(B:CB)(h:AA CI)(d:(AA A5)×Int):AB (CG ((AA A5)×Int) (AA A5)):=(bif d.2<(AI h:Int) then AH (AH (CJ h d.2) λf=>AH (AH (CJ h d.2) λj=>(bif (j.AY != 2)then AC AE else(bif (AI B.Au:Int)<=f.A5.Am then AC AE else AH (Oe n h f.A5) λk=>AC k)):AB Bool) λm=>(bif m then AC d.1 else AH (iter (mY n d f) n 0:AB Int) λg=>AH (Dd d.1 g (AI d.1:Int)) λq=>AH (app [f.A5] q) λt=>AH (Dd d.1 0 g) λx=>AH (app x t) λy=>AC y):AB (AA A5)) λz=>AC (.k (z,i64.wrap (d.2+1)))else AC (.d d.1))
def O5(f:CB)(g:AA CI):AB (AA A5):=AH (F8 n g) λh=>AH (iter (Sy n f h) n (([]:AA A5),0):AB (AA A5)) λd=>AC d
instance xB(a1:CB)(a2:AA CI):Kq (O5 n a1 a2) 125 [.a (CB.c a1),.q 57 (map CI.c a2)] [] (λr=>.o 0 (AI r) 4) (λr=>[.r 85 4 (map A5.c r)]):=by
 refine Kg 9 func125 Z Z Z Z λr h=>Cd [] h Kc Z λr1 al h=>Fg 5 Z Z (vH (El (xs:=[]) (es:=map A5.c []) gI Z Z Z Z Z trivial Z Z) ?_);refine Fg 9 Z Z (Bd h λt aa h=>Cg t [2] [] (λt=>[(6,.o 0 (AI t) 4)]) (λt=>[(0,.r 85 4 (map A5.c t))]) Zf ?_ ?_)
 .refine G0 1 Z (Lp [0,1,2] [2,5] (λg=>[(6,.o 2 (AI g.1) 4),(7,I g.2)]) (λg=>[(2,.r 85 4 (map A5.c g.1))]) aa Zf (Lr [0,1,2]) λg af k P=>?_);refine G0 9 Z (Q7 Z k (λ_ k=>?_) (λ_ k=>?_))
  .exact Gc 2 Z (QI k (Gx 1 Z (DU P k (Lr [2]))))
  refine Gc 3 Z (Bd k λy d k=>Cg y [0,1,2] [2,5,7] (λy=>[(6,.o 2 (AI y) 4)]) (λy=>[(2,.r 85 4 (map A5.c y))]) Zf ?_ ?_)
  .refine G0 5 Z (Bd d λO J d=>?_);refine vX (.p 1 (toNat g.2*57)) (Qf J Z EE EG) ?_;refine Fp kh Z ?_;refine vX (.a (A5.c O.A5)) (Qv Z isAgg85 EZ Z (Qp (f:=12) J) Z Z) ?_;refine Go 6 Z (Bd d λB E d=>Ct B [0,1,2,3] [2,5,6,7,8] (λB=>[(43,.b B)]) Ze Zf ?_ (λenv H ae=>?_))
   .refine G0 3 Z (Bd E λab L E=>?_);refine vX (.p 1 (toNat g.2*57)) (Qf L Z EE EG) ?_;refine Fp Sf Z ?_;refine vX (I ab.AY) (EA Z EF Z (Qp (f:=3) L)) ?_;exact au E
   refine Gx 1 Z (Ef ae (Cn Z d (λ_ d=>?_) (λ_ d=>?_)))
   .exact au d
   refine Gc 8 Z (Bd d λj ac d=>Cg j [0,1,2,3] [2,5,6,7,8] (λj=>[(9,I j)]) Ze Zf ?_ ?_)
   .refine G0 1 Z (Lp [0,1,2,3] [2,5,6,7,8] (λF=>[(9,I F)]) Ze ac Zf (Lr [0,1,2,3]) λF ag m T=>?_);refine G0 2 Z (Bd m λG q m=>Cg G [0,1,2,3] [2,5,6,7,8,9] (λG=>[(55,.b G)]) Ze Zf ?_ ?_)
    .refine G0 0 Z (DR 10 Z (D 5 Z (DS.is 4 q Z Z Z (λ_ q=>?_) (λ_ q=>?_))))
     .refine D 2 Z ?_;obtain⟨ad,M,q⟩:=QF q;refine DS.v (x:=(.p 2 (toNat F*4))) (Qf M Z EM EZ) ?_ (hg:=(gT Z));refine DS.v (x:=(.a (A5.c ad))) (Qv Z isAgg85 EZ Z (Qi M) Z Z) ?_ (hg:=(gT Z));exact au q
     exact au q
    refine Q7 Z m (λ_ m=>?_) (λ_ m=>?_)
    .exact Gc 2 Z (QI m (Gx 1 Z (DU T m (Lr [0,1,2,3]))))
    exact au m
   refine Gc 1 Z (PZ 5 1 [0,1,3,3,3] (by kernel_rfl) (Da 1 Z ?_));refine jl (El (xs:=[.tmp 58]) (es:=map A5.c [O.A5]) gI Z Z Z Z Z ⟨Z,trivial⟩ Z Z) Z Z (Db 2 Z ?_);obtain⟨ah,z,d⟩:=QF d;refine DB.wo2 (x:=.s 2 (0+toNat j) (toNat (AI g.1:Int)-toNat j) 4) ?_ ?_ ?_
   iterate 2 refine vX (.s 2 (0+toNat j) (toNat (AI g.1:Int)-toNat j) 4) (QO (l:=g.1) z EM EZ (.inr ⟨_,Z,Z⟩) (.inl ⟨Z,Z⟩)) ?_;exact Wp
   refine DB.done Z (Bd d λai X d=>vH (Ql (e:=A5.c) X gI EM (K0 (b:=2) z)) ?_);refine Fg 7 Z Z (Bd d λaj N d=>?_);refine vX (.s 2 (0+toNat 0) (toNat j-toNat 0) 4) (dD (l:=g.1) N EM EZ) ?_;refine Go 1 Z (Bd d λak Y d=>vH (dC (e:=A5.c) N Y gI EM (QE (i:=5))) ?_);exact au d
  exact au k
 exact au h
def UV(n:Nat)(O:CB)(f:AA A5)(d:(AA CN)×Int):AB (CG ((AA CN)×Int) (AA CN)):=(bif d.2<(AI f:Int) then AH ((bif 0<=(i64.wrap ((AI d.1:Int)-1)) then AH (CJ d.1 (i64.wrap ((AI d.1:Int)-1))) λg=>AH (CJ f d.2) λh=>(bif (g.BA==h.BA)then AH (CJ d.1 (i64.wrap ((AI d.1:Int)-1))) λj=>AH (CJ f d.2) λk=>(bif (j.Am==k.Am)then AH (CJ d.1 (i64.wrap ((AI d.1:Int)-1))) λm=>AH (CJ f d.2) λq=>(bif (m.Ag==q.Ag)then AH (CJ f d.2) λt=>AH (CJ d.1 (i64.wrap ((AI d.1:Int)-1))) λx=>AC (AG ((i64.wrap (t.BB-x.A9))<=O.AQ.A6))else AC AD)else AC AD)else AC AD)else AC AD):AB Bool) λy=>AH ((bif y then AH (CJ f d.2) λz=>AH (CJ d.1 (i64.wrap ((AI d.1:Int)-1))) λB=>AH (JG d.1 (i64.wrap ((AI d.1:Int)-1)) ({B with A9:=z.BB:CN})) λE=>AC E else AH (CJ f d.2) λF=>AH (CJ f d.2) λG=>AH (CJ f d.2) λH=>AH (CJ f d.2) λJ=>AH (CJ f d.2) λL=>AH (app d.1 [{Am:=F.Am,Ag:=G.Ag,BA:=H.BA,BO:=J.BB,A9:=L.BB:CN}]) λM=>AC M):AB (AA CN)) λN=>AC (.k (N,i64.wrap (d.2+1)))else AC (.d d.1))
def N9(d:CB)(g:AA CI):AB (AA CN):=AH (HD n d) λh=>(bif (h != 0)then AC ([]:AA CN)else AH (O5 n d g) λj=>AH (iter (UV n d j) n (([]:AA CN),0):AB (AA CN)) λf=>AC f)
instance wB(a1:CB)(a2:AA CI):Kq (N9 n a1 a2) 69 [.a (CB.c a1),.q 57 (map CI.c a2)] [] (λr=>.o 0 (AI r) 5) (λr=>[.r 129 5 (map CN.c r)]):=by
 refine Kg 8 func69 Z Z Z Z λr h=>vH (El (xs:=[]) (es:=map CN.c []) W2 Z Z Z Z Z trivial Z Z) ?_;refine Fg 7 Z Z (Cz [] h Kc Z λr1 bg h=>Go 3 Z (Cn Z h (λ_ h=>?_) (λ_ h=>?_)))
 .exact au h
 refine Gc 6 Z (Cd [] h Kc Z λr3 bh h=>Fg 9 Z Z (Bd h λq am h=>Cg q [1] [] (λq=>[(5,.o 0 (AI q) 5)]) (λq=>[(0,.r 129 5 (map CN.c q))]) Zf ?_ ?_))
 .refine G0 1 Z (Lp [0,1,2] [2,6] (λd=>[(5,.o 1 (AI d.1) 5),(7,I d.2)]) (λd=>[(1,.r 129 5 (map CN.c d.1))]) am Zf (Lr [0,1,2]) λd bb m ae=>?_);refine G0 9 Z (Q7 Z m (λ_ m=>?_) (λ_ m=>?_))
  .exact Gc 2 Z (QI m (Gx 1 Z (DU ae m (Lr [1]))))
  refine Gc 13 Z (Bd m λy g m=>Ct y [0,1,2] [2,5,6,7,8] (λy=>[(83,.b y)]) Ze Zf ?_ (λenv H ad=>?_))
  .refine G0 0 Z (DR 56 Z (D 3 Z (DS.is 2 g Z Z Z (λ_ g=>?_) (λ_ g=>?_))))
   .refine D 2 Z ?_;obtain⟨an,J,g⟩:=QF g;refine DS.v (x:=(.p 1 (toNat (i64.wrap ((AI d.1:Int)-1))*5))) (Qf J Z EV Ge) ?_ (hg:=(gT Z));refine DS.wo (x:=.p 1 (toNat (i64.wrap ((AI d.1:Int)-1))*5+2)) ?_ ?_
    .exact HR (gT Z) qL Z Wp
    refine DS.v (x:=(I an.BA)) (EA Z EF Z (Qp (f:=2) J)) ?_ (hg:=(gT Z));refine D 2 Z ?_;obtain⟨ao,L,g⟩:=QF g;refine DS.v (x:=(.p 2 (toNat d.2*4))) (Qf L Z EM EZ) ?_ (hg:=(gT Z));refine DS.wo (x:=.p 2 (toNat d.2*4+2)) ?_ ?_
    .exact HR (gT Z) pG Z Wp
    refine DS.v (x:=(I ao.BA)) (EA Z EF Z (Qp (f:=2) L)) ?_ (hg:=(gT Z));refine D 3 Z (DS.is 15 g Z Z Z (λ_ g=>?_) (λ_ g=>?_))
    .refine D 2 Z ?_;obtain⟨aq,M,g⟩:=QF g;refine DS.v (x:=(.p 1 (toNat (i64.wrap ((AI d.1:Int)-1))*5))) (Qf M Z EV Ge) ?_ (hg:=(gT Z));refine DS.wo (x:=.p 1 (toNat (i64.wrap ((AI d.1:Int)-1))*5)) ?_ ?_
     .exact HR (gT Z) Qn3 Z Wp
     refine DS.v (x:=(I aq.Am)) (EA Z EF Z (Qi M)) ?_ (hg:=(gT Z));refine D 2 Z ?_;obtain⟨ar,N,g⟩:=QF g;refine DS.v (x:=(.p 2 (toNat d.2*4))) (Qf N Z EM EZ) ?_ (hg:=(gT Z));refine DS.wo (x:=.p 2 (toNat d.2*4)) ?_ ?_
     .exact HR (gT Z) kB Z Wp
     refine DS.v (x:=(I ar.Am)) (EA Z EF Z (Qi N)) ?_ (hg:=(gT Z));refine D 3 Z (DS.is 28 g Z Z Z (λ_ g=>?_) (λ_ g=>?_))
     .refine D 2 Z ?_;obtain⟨av,O,g⟩:=QF g;refine DS.v (x:=(.p 1 (toNat (i64.wrap ((AI d.1:Int)-1))*5))) (Qf O Z EV Ge) ?_ (hg:=(gT Z));refine DS.wo (x:=.p 1 (toNat (i64.wrap ((AI d.1:Int)-1))*5+1)) ?_ ?_
      .exact HR (gT Z) Qn2 Z Wp
      refine DS.v (x:=(I av.Ag)) (EA Z EF Z (Qp (f:=1) O)) ?_ (hg:=(gT Z));refine D 2 Z ?_;obtain⟨aw,P,g⟩:=QF g;refine DS.v (x:=(.p 2 (toNat d.2*4))) (Qf P Z EM EZ) ?_ (hg:=(gT Z));refine DS.wo (x:=.p 2 (toNat d.2*4+1)) ?_ ?_
      .exact HR (gT Z) kC Z Wp
      refine DS.v (x:=(I aw.Ag)) (EA Z EF Z (Qp (f:=1) P)) ?_ (hg:=(gT Z));refine D 3 Z (DS.is 41 g Z Z Z (λ_ g=>?_) (λ_ g=>?_))
      .refine D 2 Z ?_;obtain⟨ax,Q,g⟩:=QF g;refine DS.v (x:=(.p 2 (toNat d.2*4))) (Qf Q Z EM EZ) ?_ (hg:=(gT Z));refine DS.wo (x:=.p 2 (toNat d.2*4+3)) ?_ ?_
       .exact HR (gT Z) gW Z Wp
       refine DS.v (x:=(I ax.BB)) (EA Z EF Z (Qp (f:=3) Q)) ?_ (hg:=(gT Z));refine D 2 Z ?_;obtain⟨ay,R,g⟩:=QF g;refine DS.v (x:=(.p 1 (toNat (i64.wrap ((AI d.1:Int)-1))*5))) (Qf R Z EV Ge) ?_ (hg:=(gT Z));refine DS.wo (x:=.p 1 (toNat (i64.wrap ((AI d.1:Int)-1))*5+4)) ?_ ?_
       .exact HR (gT Z) qM Z Wp
       refine DS.v (x:=(I ay.A9)) (EA Z EF Z (Qp (f:=4) R)) ?_ (hg:=(gT Z));exact au g
      exact au g
     exact au g
    exact au g
   exact au g
  refine Gx 1 Z (Ef ad (Bd m λt j m=>Ct t [0,1,2] [2,6,7] (λt=>[(5,.o 1 (AI t) 5)]) (λt=>[(1,.r 129 5 (map CN.c t))]) Zf ?_ (λenv H ad=>?_)))
  .refine G0 0 Z (Cn Z j (λ_ j=>?_) (λ_ j=>?_))
   .refine Gc 5 Z (Bd j λaz T j=>?_);refine vX (.p 2 (toNat d.2*4)) (Qf T Z EM EZ) ?_;refine Fp gW Z ?_;refine vX (I az.BB) (EA Z EF Z (Qp (f:=3) T)) ?_;refine Bd j λbc V j=>?_;refine vV (x:=(.p 1 (toNat (i64.wrap ((AI d.1:Int)-1))*5))) (Qf V Z EV Ge) ?_;refine Fp qM Z (Bd j λbd W j=>?_);refine vU (Yv (e:=CN.c) (k:=5) (f:=4) V W ED Z Z) ?_;refine FE Z ?_;refine Eu (Q4 (s:=5) Z (congrArg (λn=>A.s 1 0 n 5) (Yl W))) ?_;exact au j
   refine DR 28 Z (D 3 Z ?_);obtain⟨z,X,j⟩:=QF j;refine DS.v (x:=(.p 2 (toNat d.2*4))) (Qf X Z EM EZ) ?_;refine DS.wo (x:=.p 2 (toNat d.2*4)) ?_ ?_
   .exact Fp kB Z Wp
   refine DS.v (x:=(I z.Am)) (EA Z EF Z (Qi X)) ?_;refine D 2 Z ?_;obtain⟨B,Y,j⟩:=QF j;refine DS.v (x:=(.p 2 (toNat d.2*4))) (Qf Y Z EM EZ) ?_;refine DS.wo (x:=.p 2 (toNat d.2*4+1)) ?_ ?_
   .exact Fp kC Z Wp
   refine DS.v (x:=(I B.Ag)) (EA Z EF Z (Qp (f:=1) Y)) ?_;refine D 2 Z ?_;obtain⟨E,aa,j⟩:=QF j;refine DS.v (x:=(.p 2 (toNat d.2*4))) (Qf aa Z EM EZ) ?_;refine DS.wo (x:=.p 2 (toNat d.2*4+2)) ?_ ?_
   .exact Fp pG Z Wp
   refine DS.v (x:=(I E.BA)) (EA Z EF Z (Qp (f:=2) aa)) ?_;refine D 2 Z ?_;obtain⟨F,ab,j⟩:=QF j;refine DS.v (x:=(.p 2 (toNat d.2*4))) (Qf ab Z EM EZ) ?_;refine DS.wo (x:=.p 2 (toNat d.2*4+3)) ?_ ?_
   .exact Fp gW Z Wp
   refine DS.v (x:=(I F.BB)) (EA Z EF Z (Qp (f:=3) ab)) ?_;refine D 2 Z ?_;obtain⟨G,ac,j⟩:=QF j;refine DS.v (x:=(.p 2 (toNat d.2*4))) (Qf ac Z EM EZ) ?_;refine DS.wo (x:=.p 2 (toNat d.2*4+3)) ?_ ?_
   .exact Fp gW Z Wp
   refine DS.v (x:=(I G.BB)) (EA Z EF Z (Qp (f:=3) ac)) ?_;refine D 1 Z ?_;refine DS.wo (x:=.q 5 (map CN.c [{Am:=z.Am,Ag:=B.Ag,BA:=E.BA,BO:=F.BB,A9:=G.BB:CN}])) ?_ ?_
   .refine vH (QM (xs:=[.tmp 119]) (es:=map CN.c [{Am:=z.Am,Ag:=B.Ag,BA:=E.BA,BO:=F.BB,A9:=G.BB:CN}]) W2 Z Z Z Z Z ⟨Z,trivial⟩ Z Z) ?_;exact FE Z Wp
   refine Eh Z (Bd j λbe al j=>vH (Ql (e:=CN.c) al W2 EV K3) ?_);exact au j
  exact Gx 2 Z (Ef ad (Gc 5 Z (Q1 m (Lr [0,1,2]))))
 exact au h
def TJ(n:Nat)(m:Int)(f:AA CN)(d:(AA CN)×Int):AB (CG ((AA CN)×Int) (AA CN)):=(bif d.2<(AI f:Int) then AH (CJ f d.2) λg=>AH ((bif (g.BA==m)then AH (CJ f d.2) λh=>AH (app d.1 [h]) λj=>AC j else AC d.1):AB (AA CN)) λk=>AC (.k (k,i64.wrap (d.2+1)))else AC (.d d.1))
def PT(f:CB)(g:AA CI)(h:Int):AB (AA CN):=AH (N9 n f g) λj=>AH (iter (TJ n h j) n (([]:AA CN),0):AB (AA CN)) λd=>AC d
instance jB(B:CB)(E:AA CI)(F:Int):Kq (PT n B E F) 22 [.a (CB.c B),.q 57 (map CI.c E),I F] [] (λr=>.o 0 (AI r) 5) (λr=>[.r 129 5 (map CN.c r)]):=by
 refine Kg 10 func22 Z Z Z Z λr h=>Cd [] h Kc Z λQ L h=>Fg 5 Z Z (vH (El (xs:=[]) W2 Z Z Z Z Z trivial Z Z) (Fg 9 Z Z (Bd h λg G h=>Cg g [1] [] (λg=>[(8,.o 0 (AI g) 5)]) (λg=>[(0,.r 129 5 (map CN.c g))]) Zf ?_ ?_)))
 .refine G0 1 Z (Lp [1,2] [2,7] (λj=>[(8,.o 1 (AI j.1) 5),(9,I j.2)]) (λj=>[(1,.r 129 5 (map CN.c j.1))]) G Zf (Lr [1,2]) λj M d t=>?_);refine G0 9 Z (Q7 Z d (λ_ d=>?_) (λ_ d=>?_))
  .exact Gc 2 Z (QI d (Gx 1 Z (DU t d (Lr [1]))))
  refine Gc 8 Z (Bd d λN m d=>(vV (Qf m Z EV Ge) ?_));refine Fp qL Z ?_;refine vV (EA Z EF Z (Qp m)) (Go 4 Z (Bd d λk f d=>Ct k [0,0] [2,7,9] (λk=>[(8,.o 1 (AI k) 5)]) (λk=>[(1,.r 129 5 (map CN.c k))]) Zf ?_ (λenv H J=>?_)))
  .refine G0 0 Z (Cn Z f (λ_ f=>?_) (λ_ f=>?_))
   .refine Gc 4 Z (Bd f λO q f=>(vV (Qf q Z EV Ge) ?_));refine vV (Qv Z isAgg129 Ge Z (Qi q) Z Z) (vH (El (xs:=[.tmp 31]) W2 Z Z Z Z Z ⟨Z,trivial⟩ Z Z) ?_);refine FE Z (Bd f λP z f=>vH (Ql (e:=CN.c) z W2 EV (QE (i:=2))) ?_);exact au f
   exact au f
  exact Gx 2 Z (Ef J (Gc 5 Z (Q1 d (Lr [0,1]))))
 exact au h
def mX(n:Nat)(f:(AA Int)×Int)(g:CI)(h:CI)(d:Int):AB (CG Int Int):=AH ((bif d<(AI f.1:Int) then AH (CJ f.1 d) λj=>AC (AG (j<(i64.wrap (g.Af.BI+h.Ai.BI))))else AC AD):AB Bool) λk=>(bif k then AC (.k (i64.wrap (d+1)))else AC (.d d))
def S0(j:AA CI)(E:Int)(d:(AA Int)×Int):AB (CG ((AA Int)×Int) (AA Int)):=(bif d.2<(AI j:Int) then AH (AH (CJ j d.2) λk=>(bif (k.AY != E)then AC d.1 else AH (CJ j d.2) λg=>AH (CJ j d.2) λh=>AH (iter (mX n d g h) n 0:AB Int) λf=>AH ((bif f<(AI d.1:Int) then AH (CJ d.1 f) λm=>AC (m==(i64.wrap (g.Af.BI+h.Ai.BI)))else AC AD):AB Bool) λq=>(bif q then AC d.1 else AH (Dd d.1 f (AI d.1:Int)) λt=>AH (app [i64.wrap (g.Af.BI+h.Ai.BI)] t) λx=>AH (Dd d.1 0 f) λy=>AH (app y x) λz=>AC z)):AB (AA Int)) λB=>AC (.k (B,i64.wrap (d.2+1)))else AC (.d d.1))
def Lv(f:AA CI)(g:Int):AB (AA Int):=AH (iter (S0 n f g) n (([]:AA Int),0):AB (AA Int)) λd=>AC d
instance xU(a1:AA CI)(a2:Int):Kq (Lv n a1 a2) 193 [.q 57 (map CI.c a1),I a2] [] (λr=>.o 0 (AI r) 1) (λr=>[.r 3 1 (map (Qe .i64) r)]):=by
 refine Kg 7 func193 Z Z Z Z λr h=>vH (El (xs:=[]) (es:=map (Qe .i64) []) Qu Z Z Z Z Z trivial Z Z) ?_;refine Fg 9 Z Z (Bd h λz ag h=>Cg z [0] [] (λz=>[(5,.o 0 (AI z) 1)]) (λz=>[(0,.r 3 1 (map (Qe .i64) z))]) Zf ?_ ?_)
 .refine G0 1 Z (Lp [0] [0,1] (λj=>[(5,.o 0 (AI j.1) 1),(6,I j.2)]) (λj=>[(0,.r 3 1 (map (Qe .i64) j.1))]) ag Zf (Lr [0]) λj ak k Q=>?_);refine G0 5 Z (Lg 3 Z Z (Q7 Z k (λ_ k=>?_) (λ_ k=>?_)))
  .exact Gc 2 Z (QI k (Gx 1 Z (DU Q k (Lr [0]))))
  refine Gc 3 Z (Bd k λE g k=>Cg E [0] [0,1,6] (λE=>[(5,.o 0 (AI E) 1)]) (λE=>[(0,.r 3 1 (map (Qe .i64) E))]) Zf ?_ ?_)
  .refine G0 6 Z (Bd g λal T g=>Iz T Z (Go 6 Z (Cn Z g (λ_ g=>?_) (λ_ g=>?_))))
   .exact au g
   refine Gc 3 Z (DR 12 Z (D 2 Z ?_));obtain⟨d,W,g⟩:=QF g;refine DS.wo (x:=.rp [I d.BD,I d.No,I d.At,I d.AY,I d.AP.BT,I d.AP.AN,I d.AP.A3,I d.AP.BM,I d.AP.B4,I d.AP.BA,I d.AP.Bl,I d.AP.B5,I d.A5.Am,I d.A5.Ag,I d.A5.BA,I d.A5.BB,I d.Aa.Am,I d.Aa.Ag,I d.Aa.BB,I d.Aa.True,I d.Aa.B7,I d.An.Bs,I d.An.Bg,I d.An.BZ,I d.An.Br,I d.An.Bf,I d.An.BY,I d.An.Bp,I d.An.Bq,I d.Ae.BT,I d.Ae.AT,I d.Ae.Lo,I d.Ae.Hi,I d.Aq.Am,I d.Aq.Ag,I d.Aq.Lo,I d.Aq.Hi,I d.Bc.A,I d.Bc.B,I d.Ai.BI,I d.Ai.BT,I d.Ai.AZ,I d.Ai.AT,I d.Av.BI,I d.Av.By,I d.Av.Bk,I d.Av.B2,I d.Af.BI,I d.Af.BU,I d.Af.AY,I d.Af.BT,I d.Af.AT,I d.Af.BP,I d.BC.BI,.b d.BC.Bi,I d.Bo.BD,I d.Bo.No]) ?_ ?_
   .exact Ix W EE EG Z Wp
   refine D 5 Z ?_;obtain⟨f,X,g⟩:=QF g;refine DS.wo (x:=.rp [I f.BD,I f.No,I f.At,I f.AY,I f.AP.BT,I f.AP.AN,I f.AP.A3,I f.AP.BM,I f.AP.B4,I f.AP.BA,I f.AP.Bl,I f.AP.B5,I f.A5.Am,I f.A5.Ag,I f.A5.BA,I f.A5.BB,I f.Aa.Am,I f.Aa.Ag,I f.Aa.BB,I f.Aa.True,I f.Aa.B7,I f.An.Bs,I f.An.Bg,I f.An.BZ,I f.An.Br,I f.An.Bf,I f.An.BY,I f.An.Bp,I f.An.Bq,I f.Ae.BT,I f.Ae.AT,I f.Ae.Lo,I f.Ae.Hi,I f.Aq.Am,I f.Aq.Ag,I f.Aq.Lo,I f.Aq.Hi,I f.Bc.A,I f.Bc.B,I f.Ai.BI,I f.Ai.BT,I f.Ai.AZ,I f.Ai.AT,I f.Av.BI,I f.Av.By,I f.Av.Bk,I f.Av.B2,I f.Af.BI,I f.Af.BU,I f.Af.AY,I f.Af.BT,I f.Af.AT,I f.Af.BP,I f.BC.BI,.b f.BC.Bi,I f.Bo.BD,I f.Bo.No]) ?_ ?_
   .exact Ix X EE EG Z Wp
   refine D 3 Z (Eh Z (Go 10 Z (Bd g λq ah g=>?_)));refine Ct q [0] [0,1,5,6,7] (λq=>[(8,I q)]) Ze Zf ?_ (λenv H P=>?_)
   .refine G0 1 Z (Lp [0] [0,1,5,6,7] (λF=>[(8,I F)]) Ze ah Zf (Lr [0]) λF am m Y=>?_);refine G0 2 Z (Bd m λG t m=>Ct G [0] [0,1,5,6,7,8] (λG=>[(48,.b G)]) Ze Zf ?_ (λenv H P=>?_))
    .refine G0 6 Z (Is 41 t Z (λ_ t=>?_) (λ_ t=>?_))
     .refine Go 2 Z (Bd t λai L t=>?_);refine vX (.p 0 (toNat F*1)) (Qf L Z EC ED) ?_ (gT Z);refine vX (I ai) (EA Z EF Z (Qi L)) ?_ (gT Z);exact au t
     exact au t
    refine Gx 1 Z (Ef P (Q7 Z m (λ_ m=>?_) (λ_ m=>?_)))
    .exact Gc 2 Z (QI m (Gx 1 Z (DU Y m (Lr [0]))))
    exact au m
   refine Gx 1 Z (Ef P (Gc 2 Z (Bd g λJ y g=>Cg J [0] [0,1,5,6,7,8] (λJ=>[(62,.b J)]) Ze Zf ?_ ?_)))
   .refine G0 6 Z (Is 55 y Z (λ_ y=>?_) (λ_ y=>?_))
    .refine Go 2 Z (Bd y λaj M y=>?_);refine vX (.p 0 (toNat q*1)) (Qf M Z EC ED) ?_ (gT Z);refine vX (I aj) (EA Z EF Z (Qi M)) ?_ (gT Z);exact au y
    exact au y
   refine Cn Z g (λ_ g=>?_) (λ_ g=>?_)
   .exact au g
   refine Gc 5 Z (vH (El (xs:=[.tmp 63]) (es:=map (Qe .i64) [i64.wrap (d.Af.BI+f.Ai.BI)]) Qu Z Z Z Z Z ⟨Z,trivial⟩ Z Z) ?_);refine Fg 2 Z Z (Bd g λan N g=>?_);refine vX (.s 0 (0+toNat q) (toNat (AI j.1:Int)-toNat q) 1) (QO (l:=j.1) N EC ED (.inr ⟨_,Z,Z⟩) (.inl ⟨Z,Z⟩)) ?_;refine Bd g λao ae g=>vH (Ql (e:=(Qe .i64)) ae Qu EC (K0 (b:=0) N)) ?_;refine Fg 7 Z Z (Bd g λaq O g=>?_);refine vX (.s 0 (0+toNat 0) (toNat q-toNat 0) 1) (dD (l:=j.1) O EC ED) ?_;refine Go 1 Z (Bd g λar af g=>vH (dC (e:=(Qe .i64)) O af Qu EC (QE (i:=2))) ?_);exact au g
  exact au k
 exact au h
def Ta(n:Nat)(g:AA CI)(x:AA Int)(f:(AA Ai)×Int)(d:Int):AB (CG Int (AA Ai)):=(bif d<(AI g:Int) then AH (AH (CJ g d) λh=>(bif (h.AY==8)then AH (CJ g d) λj=>AH (CJ x f.2) λk=>AC (j.Ai.BI==k)else AC AD):AB Bool) λm=>(bif m then AH (CJ g d) λq=>AH (app f.1 [q.Ai]) λt=>AC (.d t)else AC (.k (i64.wrap (d+1))))else AC (.d f.1))
def TT(h:AA CI)(g:AA Int)(d:(AA Ai)×Int):AB (CG ((AA Ai)×Int) (AA Ai)):=(bif d.2<(AI g:Int) then AH (iter (Ta n h g d) n 0:AB (AA Ai)) λf=>AC (.k (f,i64.wrap (d.2+1)))else AC (.d d.1))
def L3(g:AA CI):AB (AA Ai):=AH (F8 n g) λf=>AH (Lv n f 8) λh=>AH (iter (TT n f h) n (([]:AA Ai),0):AB (AA Ai)) λd=>AC d
instance xa(a1:AA CI):Kq (L3 n a1) 126 [.q 57 (map CI.c a1)] [] (λr=>.o 0 (AI r) 4) (λr=>[.r 97 4 (map Ai.c r)]):=by
 refine Kg 8 func126 Z Z Z Z λr h=>Cd [] h Kc Z λr1 ad h=>Fg 6 Z Z ?_;refine Eu (Yo [(3,_),(9,_),(10,_)] Z Z (Cy.cons Z Er (Cy.cons Z Er (Cy.cons Z Er Cy.nil))) (Ec (QT _))) ?_;refine Cd [] h Kc Z λr2 ae h=>Fg 5 Z Z (vH (El (xs:=[]) (es:=map Ai.c []) ju Z Z Z Z Z trivial Z Z) ?_);refine Fg 9 Z Z (Bd h λm T h=>Cg m [1] [] (λm=>[(5,.o 0 (AI m) 4)]) (λm=>[(0,.r 97 4 (map Ai.c m))]) Zf ?_ ?_)
 .refine G0 1 Z (Lp [1,2] [3,4] (λk=>[(5,.o 1 (AI k.1) 4),(6,I k.2)]) (λk=>[(1,.r 97 4 (map Ai.c k.1))]) T Zf (Lr [1,2]) λk aa j G=>?_);refine G0 9 Z (Q7 Z j (λ_ j=>?_) (λ_ j=>?_))
  .exact Gc 2 Z (QI j (Gx 1 Z (DU G j (Lr [1]))))
  refine Gc 9 Z (Bd j λq V j=>Ct q [0,1] [3,4,6] (λq=>[(5,.o 1 (AI q) 4)]) (λq=>[(1,.r 97 4 (map Ai.c q))]) Zf ?_ (λenv H E=>?_))
  .refine G0 1 Z (Lp [0,1] [3,4,5,6] (λF=>[(7,I F)]) Ze V Zf (Lr [0,1]) λF ab f y=>?_);refine G0 5 Z (Lg 3 Z Z (Q7 Z f (λ_ f=>?_) (λ_ f=>?_)))
   .exact Gc 2 Z (QI f (Gx 1 Z (DU y f (Lr [0,1]))))
   refine Gc 5 Z (Bd f λt g f=>Ct t [0,1] [3,4,5,6,7] (λt=>[(43,.b t)]) Ze Zf ?_ (λenv H E=>?_))
   .refine G0 0 Z (DR 17 Z (D 2 Z ?_));obtain⟨d,M,g⟩:=QF g;refine DS.wo (x:=.rp [I d.BD,I d.No,I d.At,I d.AY,I d.AP.BT,I d.AP.AN,I d.AP.A3,I d.AP.BM,I d.AP.B4,I d.AP.BA,I d.AP.Bl,I d.AP.B5,I d.A5.Am,I d.A5.Ag,I d.A5.BA,I d.A5.BB,I d.Aa.Am,I d.Aa.Ag,I d.Aa.BB,I d.Aa.True,I d.Aa.B7,I d.An.Bs,I d.An.Bg,I d.An.BZ,I d.An.Br,I d.An.Bf,I d.An.BY,I d.An.Bp,I d.An.Bq,I d.Ae.BT,I d.Ae.AT,I d.Ae.Lo,I d.Ae.Hi,I d.Aq.Am,I d.Aq.Ag,I d.Aq.Lo,I d.Aq.Hi,I d.Bc.A,I d.Bc.B,I d.Ai.BI,I d.Ai.BT,I d.Ai.AZ,I d.Ai.AT,I d.Av.BI,I d.Av.By,I d.Av.Bk,I d.Av.B2,I d.Af.BI,I d.Af.BU,I d.Af.AY,I d.Af.BT,I d.Af.AT,I d.Af.BP,I d.BC.BI,.b d.BC.Bi,I d.Bo.BD,I d.Bo.No]) ?_ ?_
    .exact Ix M EE EG Z Wp
    refine D 4 Z (DS.is 6 g Z Z Z (λ_ g=>?_) (λ_ g=>?_))
    .refine D 2 Z ?_;obtain⟨W,O,g⟩:=QF g;refine DS.v (Mg (e:=CI.c) (l:=r1) (v:=W) O EE EG) ?_ (hg:=(gT Z));refine D 5 Z ?_;obtain⟨X,z,g⟩:=QF g;refine DS.v (x:=(.p 0 (toNat k.2*1))) (Qf z Z EC ED) ?_ (hg:=(gT Z));refine DS.v (x:=(I X)) (EA Z EF Z (Qi z)) ?_ (hg:=(gT Z));exact au g
    exact au g
   refine Gx 1 Z (Ef E (Cn Z f (λ_ f=>?_) (λ_ f=>?_)))
   .refine Gc 5 Z (Bd f λY Q f=>Iz Q Z (Go 2 Z (vH (El (xs:=[.tmp 49]) (es:=map Ai.c [Y.Ai]) ju Z Z Z Z Z ⟨Z,trivial⟩ Z Z) ?_)));refine FE Z (Bd f λac R f=>vH (Ql (e:=Ai.c) R ju Gp (QE (i:=2))) ?_);refine Fg 6 Z Z (QI f ?_);obtain rfl:=Oj y f;exact Gx 1 Z (NS (Lr [0,3]))
   exact au f
  exact Gx 2 Z (Ef E (Gc 5 Z (Q1 j (Lr [0,1]))))
 exact au h
def ml(n:Nat)(f:AA Int)(j:Int)(d:Int):AB (CG Int Int):=AH ((bif d<(AI f:Int) then AH (CJ f d) λg=>AC (AG (g<j))else AC AD):AB Bool) λh=>(bif h then AC (.k (i64.wrap (d+1)))else AC (.d d))
def Lz(d:AA Int)(g:Int):AB (AA Int):=AH (iter (ml n d g) n 0:AB Int) λf=>AH ((bif f<(AI d:Int) then AH (CJ d f) λh=>AC (h==g)else AC AD):AB Bool) λj=>(bif j then AC d else AH (Dd d f (AI d:Int)) λk=>AH (app [g] k) λm=>AH (Dd d 0 f) λq=>AH (app q m) λt=>AC t)
instance xW(j:AA Int)(P:Int):Kq (Lz n j P) 127 [.o 0 (AI j) 1,I P] [.r 3 1 (map (Qe .i64) j)] (λr=>.o 1 (AI r) 1) (λr=>[.dead,.r 3 1 (map (Qe .i64) r)]):=by
 refine Kg 11 func127 Z Z Z Z λr h=>Bd h λk Q h=>Ct k [0] [0,1] (λk=>[(5,I k)]) Ze Zf ?_ (λenv H m=>?_)
 .refine G0 1 Z (Lp [0] [0,1] (λE=>[(5,I E)]) Ze Q Zf (Lr [0]) λE R d F=>?_);refine G0 2 Z (Bd d λq f d=>Ct q [0] [0,1,5] (λq=>[(18,.b q)]) Ze Zf ?_ (λenv H m=>?_))
  .refine G0 6 Z (Is 11 f Z (λ_ f=>?_) (λ_ f=>?_))
   .refine Go 2 Z (Bd f λT t f=>?_);refine vV (Qf t Z EC ED) ?_ (gT Z);refine vV (EA Z EF Z (Qi t)) ?_ (gT Z);exact au f
   exact au f
  refine Gx 1 Z (Ef m (Q7 Z d (λ_ d=>?_) (λ_ d=>?_)))
  .exact Gc 2 Z (QI d (Gx 1 Z (DU F d (Lr [0]))))
  exact au d
 refine Gx 1 Z (Ef m (Gc 2 Z (Bd h λx g h=>Cg x [0] [0,1,5] (λx=>[(32,.b x)]) Ze Zf ?_ ?_)))
 .refine G0 6 Z (Is 25 g Z (λ_ g=>?_) (λ_ g=>?_))
  .refine Go 2 Z (Bd g λV y g=>?_);refine vV (Qf y Z EC ED) ?_ (gT Z);refine vV (EA Z EF Z (Qi y)) ?_ (gT Z);exact au g
  exact au g
 refine Cn Z h (λ_ h=>?_) (λ_ h=>?_)
 .refine Gc 8 Z ?_;obtain rfl:=Oi h;refine R1 4 Z ?_;refine Eo (lW (s:=4) (i:=0) Z Z Z) ?_;exact Lr [0,1]
 refine Gc 5 Z (vH (El (xs:=[.tmp 34]) Qu Z Z Z Z Z ⟨Z,trivial⟩ Z Z) ?_);refine Fg 2 Z Z (Bd h λW z h=>?_);refine vV (QO (l:=j) z EC ED (.inr ⟨_,Z,Z⟩) (.inl ⟨Z,Z⟩)) ?_;refine Bd h λX N h=>vH (Ql N Qu EC (K0 (b:=0) z)) ?_;refine Fg 8 Z Z (Bd h λY B h=>?_);refine vV (dD (l:=j) B EC ED) ?_;refine Go 1 Z (Bd h λaa O h=>vH (dC B O Qu EC (QE (i:=2))) ?_);exact au h
def TX(n:Nat)(f:AA CI)(m:Int)(q:Int)(d:Int):AB (CG Int (CG Unit Int)):=(bif d<(AI f:Int) then AH (AH (CJ f d) λg=>(bif (g.AY==10)then AH (CJ f d) λh=>(bif (h.Af.BI==m)then AH (CJ f d) λj=>AC (j.Af.BU==q)else AC AD)else AC AD):AB Bool) λk=>(bif k then AC (.d (.d d))else AC (.k (i64.wrap (d+1))))else AC (.d (.k ())))
def I8(g:AA CI)(h:Int)(j:Int):AB Int:=AH (iter (TX n g h j) n 0:AB (CG Unit Int)) λf=>match f with|.k d=>(AC (-1))|.d d=>AC d
instance yN(d:AA CI)(f:Int)(g:Int):Ks (I8 n d f g) 266 [.q 57 (map CI.c d),I f,I g] [] (λr=>I r):=KA func266
def Tv(n:Nat)(f:AA CI)(m:Int)(d:Int):AB (CG Int (CG Unit Bool)):=(bif d<(AI f:Int) then AH (AH (CJ f d) λg=>(bif (g.AY==11)then AH (CJ f d) λh=>(bif (h.BC.BI==m)then AH (CJ f d) λj=>AC j.BC.Bi else AC AD)else AC AD):AB Bool) λk=>(bif k then AC (.d (.d AE))else AC (.k (i64.wrap (d+1))))else AC (.d (.k ())))
def N4(f:AA CI)(g:Int):AB Bool:=AH (AH (I8 n f g 1) λj=>(bif j<0 then AC AE else AH (I8 n f g 2) λk=>AC (AG (0<=k))):AB Bool) λm=>(bif m then AC AD else AH (iter (Tv n f g) n 0:AB (CG Unit Bool)) λh=>match h with|.k d=>(AC AD)|.d d=>AC d)
instance v7(d:AA CI)(f:Int):Ks (N4 n d f) 265 [.q 57 (map CI.c d),I f] [] (λr=>.b r):=KA func265
def L_(d:AA CI)(f:Int):AB Int:=AH (N4 n d f) λh=>(bif h then AC (-1)else AH (I8 n d f 2) λg=>(bif 0<=g then AC g else AH (I8 n d f 1) λj=>AC j))
instance xi(d:AA CI)(f:Int):Ks (L_ n d f) 194 [.q 57 (map CI.c d),I f] [] (λr=>I r):=KA func194
def UO(g:AA CI)(h:AA Int)(d:(AA Af)×Int):AB (CG ((AA Af)×Int) (AA Af)):=(bif d.2<(AI h:Int) then AH (CJ h d.2) λj=>AH (L_ n g j) λf=>AH ((bif 0<=f then AH (CJ g f) λk=>AH (app d.1 [k.Af]) λm=>AC m else AC d.1):AB (AA Af)) λq=>AC (.k (q,i64.wrap (d.2+1)))else AC (.d d.1))
def N'(g:AA CI):AB (AA Af):=AH (F8 n g) λd=>AH (Lv n d 10) λh=>AH (iter (UO n d h) n (([]:AA Af),0):AB (AA Af)) λf=>AC f
instance wD(B:AA CI):Kq (N' n B) 128 [.q 57 (map CI.c B)] [] (λr=>.o 0 (AI r) 6) (λr=>[.r 101 6 (map Af.c r)]):=by
 refine Kg 8 func128 Z Z Z Z λr h=>Cd [] h Kc Z λR J h=>Fg 6 Z Z ?_;refine Eu (Yo [(3,_),(9,_),(10,_)] Z Z (Cy.cons Z Er (Cy.cons Z Er (Cy.cons Z Er Cy.nil))) (Ec (QT _))) (Cd [] h Kc Z λT L h=>Fg 5 Z Z (vH (El (xs:=[]) jv Z Z Z Z Z trivial Z Z) ?_));refine Fg 9 Z Z (Bd h λg E h=>Cg g [1] [] (λg=>[(5,.o 0 (AI g) 6)]) (λg=>[(0,.r 101 6 (map Af.c g))]) Zf ?_ ?_)
 .refine G0 1 Z (Lp [1,2] [3,4] (λj=>[(5,.o 1 (AI j.1) 6),(6,I j.2)]) (λj=>[(1,.r 101 6 (map Af.c j.1))]) E Zf (Lr [1,2]) λj M d q=>?_);refine G0 9 Z (Q7 Z d (λ_ d=>?_) (λ_ d=>?_))
  .exact Gc 2 Z (QI d (Gx 1 Z (DU q d (Lr [1]))))
  refine Gc 9 Z (Bd d λN m d=>(vV (Qf m Z EC ED) ?_));refine vV (EA Z EF Z (Qi m)) ?_;refine Cz [] d Kc Z λO G d=>Go 9 Z (Bd d λk f d=>Ct k [0,0] [3,4,6] (λk=>[(5,.o 1 (AI k) 6)]) (λk=>[(1,.r 101 6 (map Af.c k))]) Zf ?_ (λenv H F=>?_))
  .refine G0 0 Z (Cn Z f (λ_ f=>?_) (λ_ f=>?_))
   .refine Gc 4 Z (Bd f λP y f=>Iz y Z (Go 2 Z (vH (El (xs:=[.tmp 32]) jv Z Z Z Z Z ⟨Z,trivial⟩ Z Z) ?_)));refine FE Z (Bd f λQ z f=>vH (Ql (e:=Af.c) z jv GR (QE (i:=2))) ?_);exact au f
   exact au f
  exact Gx 2 Z (Ef F (Gc 5 Z (Q1 d (Lr [0,1]))))
 exact au h
def OU(g:AA CI)(h:Int):AB (Af×Bool):=AH (F8 n g) λd=>AH (L_ n d h) λf=>(bif f<0 then AC (UF,AD)else AH (CJ d f) λj=>AC (j.Af,AE))
instance wY(f:AA CI)(g:Int):Kq (OU n f g) 195 [.q 57 (map CI.c f),I g] [] (λr=>.t [.a (Af.c r.1),.b r.2]) (λr=>[.c 101 (Af.c r.1)]):=by
 refine Kg 9 func195 Z Z Z Z λr h=>Cd [] h Kc Z λq k h=>Fg 7 Z Z (Cb h Kc Z (lo (ls ln)) λt m h=>Go 10 Z (Cn Z h (λ_ h=>?_) (λ_ h=>?_)))
 .exact au h
 refine Gc 6 Z (Bd h λx d h=>(vV (Qf d Z EE EG) ?_));refine Fp Ql4 Z (vV (Qv Z isAgg101 GW Z (Qp d) Z Z) ?_);exact au h
def S7(n:Nat)(j:Int)(f:AA Ai)(d:Int):AB (CG Int (CG Unit (Ai×Bool))):=(bif d<(AI f:Int) then AH (CJ f d) λg=>(bif (g.BI==j)then AH (CJ f d) λh=>AC (.d (.d (h,AE)))else AC (.k (i64.wrap (d+1))))else AC (.d (.k ())))
def Oz(g:AA CI)(h:Int):AB (Ai×Bool):=AH (L3 n g) λj=>AH (iter (S7 n h j) n 0:AB (CG Unit (Ai×Bool))) λf=>match f with|.k d=>(AC (UE,AD))|.d d=>AC d
instance w6(t:AA CI)(x:Int):Kq (Oz n t x) 196 [.q 57 (map CI.c t),I x] [] (λr=>.t [.a (Ai.c r.1),.b r.2]) (λr=>[.c 97 (Ai.c r.1)]):=by
 refine Kg 9 func196 Z Z Z Z λr h=>Cd [] h Kc Z λL F h=>Fg 9 Z Z (Bd h λy z h=>D5 (b:=y) [0] [4] Ze Ze Zf ?_ (λ_ B=>?_))
 .refine G0 1 Z (Lp [0,1] [1,4,6] (λk=>[(7,I k)]) Ze z Zf (Lr [0,1]) λk G d f=>(G0 9 Z (Q7 Z d (λ_ d=>?_) (λ_ d=>?_))))
  .exact Jc f d
  refine Gc 8 Z (Bd d λH g d=>(vV (Qf g Z Gp GQ) ?_));refine Fp pH Z (vV (EA Z EF Z (Qi g)) ?_);refine Go 4 Z (Cn Z d (λ_ d=>?_) (λ_ d=>?_))
  .refine Gc 4 Z (Bd d λJ j d=>(vV (Qf j Z Gp GQ) ?_));refine vV (Qv Z isAgg97 GQ Z (Qi j) Z Z) (Go 7 Z (Il d ?_));obtain rfl:=Oj f d;exact au h
  exact au d
 subst B;exact au h
def PV(j:CB)(k:AA CI)(m:Int):AB (Int×CF×Bool):=AH (OU n k m) λd=>AH ((bif d.2 then(bif (d.1.AY==3)then AC (.d (d.1.BT,{AT:=d.1.AT,Bb:=d.1.BP,As:=0,BQ:=AD:CF},AE))else(bif (d.1.AY==4)then AC (.d (d.1.BT,{AT:=d.1.AT,Bb:=0,As:=d.1.BP,BQ:=AD:CF},AE))else(bif (d.1.AY==5)then AC (.d (d.1.BT,{AT:=d.1.AT,Bb:=0,As:=0,BQ:=AE:CF},AE))else(bif (d.1.AY==2)then AC (.d (0,UB,AD))else AC (.k ())))))else AC (.k ())):AB (CG Unit (Int×CF×Bool))) λt=>match t with|.k h=>(AH (Oz n k m) λf=>AH ((bif (!f.2)then AC AE else(bif f.1.AZ<0 then AC AE else AC (AG ((AI j.Ab:Int)<=f.1.AZ)))):AB Bool) λq=>(bif q then AC (0,UB,AD)else AH (CJ j.Ab f.1.AZ) λg=>AC (f.1.BT,{AT:=f.1.AT,Bb:=g.Bb,As:=g.As,BQ:=g.BQ:CF},AE)))|.d h=>AC h
instance jC(q:CB)(t:AA CI)(x:Int):Kq (PV n q t x) 129 [.a (CB.c q),.q 57 (map CI.c t),I x] [] (λr=>.t [I r.1,.a (CF.c r.2.1),.b r.2.2]) (λr=>[.c 50 (CF.c r.2.1)]):=by
 refine Kg 12 func129 Z Z Z Z λr h=>Cd [] h Kc Z λM G h=>Fg 14 Z Z (Bd h λE d h=>FT (b:=E) [0,1] [1,2,3,7] Ze Ze Zf ?_ (λJ env H hb y=>?_))
 .refine G0 0 Z (Cn Z d (λ_ d=>?_) (λ_ d=>?_))
  .refine Gc 13 Z (Cn Z d (λ_ d=>?_) (λ_ d=>?_))
   .refine Gc 1 Z (DR 8 Z (D 8 Z (Eh Z (Go 6 Z ?_))));cases d;exact au h
   refine Gc 6 Z (Cn Z d (λ_ d=>?_) (λ_ d=>?_))
   .refine Gc 1 Z (DR 8 Z (D 8 Z (Eh Z (Go 6 Z ?_))));cases d;exact au h
   refine Gc 6 Z (Cn Z d (λ_ d=>?_) (λ_ d=>?_))
   .refine Gc 1 Z (DR 6 Z (D 6 Z (Eh Z (Go 6 Z ?_))));cases d;exact au h
   refine Gc 6 Z (Cn Z d (λ_ d=>?_) (λ_ d=>?_))
   .refine Gc 10 Z ?_;cases d;exact au h
   refine Gc 2 Z ?_;cases d;exact J7 Z (Lr [0,1])
  refine Gc 1 Z ?_;cases d;exact J7 Z (Lr [0,1])
 subst hb;refine Gx 1 Z (Ef y (Gc 4 Z (Cd [] h Kc Z λL F h=>Fg 10 Z Z (Bd h λf B h=>Cg f [0,1,3] [3,7,11] (λf=>[(71,.b f)]) Ze Zf ?_ ?_))))
 .exact au B
 exact au h
def Tf(f:AA Ai)(d:(AA Int)×Int):AB (CG ((AA Int)×Int) (AA Int)):=(bif d.2<(AI f:Int) then AH (CJ f d.2) λg=>AH (Lz n d.1 g.BI) λh=>AC (.k (h,i64.wrap (d.2+1)))else AC (.d d.1))
def TW(f:AA Af)(d:(AA Int)×Int):AB (CG ((AA Int)×Int) (AA Int)):=(bif d.2<(AI f:Int) then AH (CJ f d.2) λg=>AH (Lz n d.1 g.BI) λh=>AC (.k (h,i64.wrap (d.2+1)))else AC (.d d.1))
def UT(x:CB)(y:AA CI)(z:Int)(f:AA Int)(d:(AA Int)×(AA CF)×Int):AB (CG ((AA Int)×(AA CF)×Int) ((AA Int)×(AA CF))):=(bif d.2.2<(AI f:Int) then AH (CJ f d.2.2) λj=>AH (PV n x y j) λg=>AH ((bif g.2.2 then AC (g.1==z)else AC AD):AB Bool) λk=>AH ((bif k then AH (CJ f d.2.2) λm=>AH (app d.1 [m]) λq=>AH (app d.2.1 [g.2.1]) λt=>AC (q,t)else AC (d.1,d.2.1)):AB ((AA Int)×(AA CF))) λh=>AC (.k (h.1,h.2,i64.wrap (d.2.2+1)))else AC (.d (d.1,d.2.1)))
def PA(g:CB)(f:AA CI)(m:Int):AB ((AA Int)×(AA CF)):=AH (HD n g) λq=>(bif (q != 0)then AC ([],[])else AH (L3 n f) λt=>AH (iter (Tf n t) n (([]:AA Int),0):AB (AA Int)) λh=>AH (N' n f) λj=>AH (iter (TW n j) n (h,0):AB (AA Int)) λk=>AH (iter (UT n g f m k) n (([]:AA Int),([]:AA CF),0):AB ((AA Int)×(AA CF))) λd=>AC (d.1,d.2))
instance xI(G:CB)(V:AA CI)(a3:Int):Kq (PA n G V a3) 70 [.a (CB.c G),.q 57 (map CI.c V),I a3] [] (λr=>.t [.o 0 (AI r.1) 1,.o 1 (AI r.2) 4]) (λr=>[.r 3 1 (map (Qe .i64) r.1),.r 50 4 (map CF.c r.2)]):=by
 refine Kg 11 func70 Z Z Z Z λr h=>Cz [] h Kc Z λr1 ao h=>Go 3 Z (Cn Z h (λ_ h=>?_) (λ_ h=>?_))
 .refine Gc 8 Z ?_;obtain rfl:=Oi h;refine R2 6 7 Z Z ?_;refine Eo (Et (s:=6) (k:=1) (t:=3) (XR Z) Z) ?_;refine Eo (Et (s:=7) (k:=4) (t:=50) (XR Z) Z) ?_;exact Lr [1,2]
 refine Gc 4 Z (vH (El (xs:=[]) (es:=map (Qe .i64) []) Qu Z Z Z Z Z trivial Z Z) ?_);refine Fg 6 Z Z (Cd [] h Kc Z λr3 aq h=>Fg 9 Z Z (Bd h λL ah h=>Ct L [0,1] [1,2,3] (λL=>[(8,.o 1 (AI L) 1)]) (λL=>[(1,.r 3 1 (map (Qe .i64) L))]) Zf ?_ (λenv H y=>?_)))
 .refine G0 1 Z (Lp [0,1,2] [1,2,3,9] (λE=>[(8,.o 1 (AI E.1) 1),(10,I E.2)]) (λE=>[(1,.r 3 1 (map (Qe .i64) E.1))]) ah Zf (Lr [0,1,2]) λE ar q W=>?_);refine G0 9 Z (Q7 Z q (λ_ q=>?_) (λ_ q=>?_))
  .exact Gc 2 Z (QI q (Gx 1 Z (DU W q (Lr [0,1]))))
  refine Gc 8 Z (Bd q λai M q=>?_);refine vX (.p 2 (toNat E.2*4)) (Qf M Z Gp GQ) ?_;refine Fp pH Z ?_;refine vX (I ai.BI) (EA Z EF Z (Qi M)) ?_;exact au q
 refine Gx 1 Z (Ef y (Gc 3 Z (Cd [] h Kc Z λav an h=>Fg 9 Z Z (Bd h λj aj h=>Ct j [0,1] [1,2,3] (λj=>[(8,.o 1 (AI j) 1)]) (λj=>[(1,.r 3 1 (map (Qe .i64) j))]) Zf ?_ (λenv H y=>?_)))))
 .refine G0 1 Z (Lp [0,1,2] [1,2,3,11] (λF=>[(8,.o 1 (AI F.1) 1),(12,I F.2)]) (λF=>[(1,.r 3 1 (map (Qe .i64) F.1))]) aj Zf (Lr [0,1,2]) λF aw x Y=>?_);refine G0 9 Z (Q7 Z x (λ_ x=>?_) (λ_ x=>?_))
  .exact Gc 2 Z (QI x (Gx 1 Z (DU Y x (Lr [0,1]))))
  refine Gc 8 Z (Bd x λak N x=>?_);refine vX (.p 2 (toNat F.2*6)) (Qf N Z GR GW) ?_;refine Fp Qn5 Z ?_;refine vX (I ak.BI) (EA Z EF Z (Qi N)) ?_;exact au x
 refine Gx 1 Z (Ef y (Gc 2 Z (vH (El (xs:=[]) (es:=map (Qe .i64) []) Qu Z Z Z Z Z trivial Z Z) ?_)));refine Fg 5 Z Z (vH (El (xs:=[]) (es:=map CF.c []) Ik Z Z Z Z Z trivial Z Z) ?_);refine Fg 9 Z Z (Bd h λz al h=>Cg z [2,3] [] (λz=>[(13,.o 0 (AI z.1) 1),(14,.o 1 (AI z.2) 4)]) (λz=>[(0,.r 3 1 (map (Qe .i64) z.1)),(1,.r 50 4 (map CF.c z.2))]) Zf ?_ ?_)
 .refine G0 1 Z (Lp [0,1,2,3] [1,2,3,8] (λd=>[(13,.o 2 (AI d.1) 1),(14,.o 3 (AI d.2.1) 4),(15,I d.2.2)]) (λd=>[(2,.r 3 1 (map (Qe .i64) d.1)),(3,.r 50 4 (map CF.c d.2.1))]) al Zf (Lr [0,1,2,3]) λd ax g ab=>?_);refine G0 9 Z (Q7 Z g (λ_ g=>?_) (λ_ g=>?_))
  .exact Gc 2 Z (QI g (Gx 1 Z (DU ab g (Lr [2,3]))))
  refine Gc 5 Z ?_;obtain⟨O,J,g⟩:=QF g;obtain⟨f,P,g⟩:=QF g;refine Yu 14 1 [62,63,64,65,66,67,68,61,69,70,71,17,16,1000013] [AD,AD,AD,AD,AD,AD,AE,AD,AD,AD,AD,AE,AD,AE] [[],[],[],[],[],[],[],[6],[6],[6],[6],[],[6,11],[6,11]] [[],[6],[11],[6,11],[6,11,13]] [[(0,0),(2,2)],[(0,0),(2,2)],[(0,0),(2,2)],[(0,0),(2,2)],[(0,0),(2,2)],[(0,0),(2,2)],[(0,1),(2,3)],[(1,1),(3,3)],[(1,1),(3,3)],[(1,1),(3,3)],[(1,1),(3,3),(4,4)],[(0,2),(1,3)],[(3,3)],[(3,4)]] [.a (CB.c G),.q 57 (map CI.c V),.o 1 (AI j) 1,I d.2.2,.p 1 (toNat d.2.2*1),I O,.t [I f.1,.a (CF.c f.2.1),.b f.2.2],.t [I f.1,.a (CF.c f.2.1),.b f.2.2],I f.1,.a (CF.c f.2.1),.b f.2.2,.p 4 0,I f.1,.any] [[.c 33 (CB.c G),.r 3 1 (map (Qe .i64) j),.r 3 1 (map (Qe .i64) d.1),.r 50 4 (map CF.c d.2.1),.dead],[.c 33 (CB.c G),.r 3 1 (map (Qe .i64) j),.r 3 1 (map (Qe .i64) d.1),.r 50 4 (map CF.c d.2.1),.dead,.c 50 (CF.c f.2.1)],[.c 33 (CB.c G),.r 3 1 (map (Qe .i64) j),.r 3 1 (map (Qe .i64) d.1),.r 50 4 (map CF.c d.2.1),.c 50 (CF.c UB)],[.c 33 (CB.c G),.r 3 1 (map (Qe .i64) j),.r 3 1 (map (Qe .i64) d.1),.r 50 4 (map CF.c d.2.1),.c 50 (CF.c UB),.c 50 (CF.c f.2.1)],[.c 33 (CB.c G),.r 3 1 (map (Qe .i64) j),.r 3 1 (map (Qe .i64) d.1),.r 50 4 (map CF.c d.2.1),.c 50 (CF.c f.2.1),.c 50 (CF.c f.2.1)]] ([.c 33 (CB.c G),.r 3 1 (map (Qe .i64) j),.r 3 1 (map (Qe .i64) d.1),.r 50 4 (map CF.c d.2.1),.c 50 (CF.c f.2.1),.c 50 (CF.c f.2.1)]) C' Z Z Z Z Z Z Z ?_ Z ?_
  .refine CL.cons (Qa (v0 Z Z) (Qa (v0 Z Z) (Qc))) (CL.cons (Qa (v0 Z Z) (Qa (v0 Z Z) (Qc))) (CL.cons (Qa (v0 Z Z) (Qa (v0 Z Z) (Qc))) (CL.cons (Qa (v0 Z Z) (Qa (v0 Z Z) (Qc))) (CL.cons ?_ (CL.cons ?_ (CL.cons ?_ (CL.cons (Qa (v0 Z Z) (Qa (v0 Z Z) (Qc))) (CL.cons (Qa (v0 Z Z) (Qa (v0 Z Z) (Qc))) (CL.cons (Qa (v0 Z Z) (Qa (v0 Z Z) (Qc))) (CL.cons (Qa (v0 Z Z) (Qa (v0 Z Z) (Qa (v0 Z Z) (Qc)))) (CL.cons ?_ (CL.cons (Qa (v0 Z Z) (Qc)) (CL.cons ?_ (CL.nil))))))))))))))
   .refine Qa ?_ (Qa ?_ (Qc))
    iterate 2 refine Om Z (sD 2 (sD 3 sN)) ?_;refine vX (.p 1 (toNat d.2.2*1)) (Qf J Z EC ED) ?_;exact Wp
   .refine Qa ?_ (Qa ?_ (Qc))
    iterate 2 refine Om Z (sD 4 sN) ?_;refine vX (I O) (EA Z EF Z (Qi J)) ?_;exact Wp
   .refine Qa ?_ (Qa ?_ (Qc))
    iterate 2 refine Fu Z (sD 0 (sD 1 (sD 5 sN))) ?_;refine Qh [] (C6.fn call129 Z Z Z) ((jC _ _ _ _).c _ P) ?_;rintro _ _ ⟨rfl,rfl⟩;exact FE Z Wp
   .refine Qa ?_ (Qa ?_ (Qc))
    iterate 2 exact Jk.alloc _ 17 50 4 _ Z Z Z Z Z Z Z (Im.alloc (v:=(.a [I 0,I 0,I 0,.b AD])) zeroValue50 (Fh Z)) Z
   .refine Qa ?_ (Qc)
    .refine Sh Z (sD 11 (sD 9 sN)) ?_;refine vU (Ez Z Z Z Gg Z Z Z Z Z Z Z) ?_;exact FE Z Wp
  refine Go 4 Z (Bd g λQ am g=>Ct Q [0,1,2,3,4] [1,2,3,8,13,14,15,17] (λQ=>[(77,.b Q)]) Ze Zf ?_ (λenv H y=>?_))
  .exact au am
  refine Gx 1 Z (Ef y (Bd g λB m g=>Ct B [0,1,0,0] [1,2,3,8,15] (λB=>[(13,.o 2 (AI B.1) 1),(14,.o 3 (AI B.2) 4)]) (λB=>[(2,.r 3 1 (map (Qe .i64) B.1)),(3,.r 50 4 (map CF.c B.2))]) Zf ?_ (λenv H y=>?_)))
  .refine G0 0 Z (Cn Z m (λ_ m=>?_) (λ_ m=>?_))
   .refine Gc 5 Z (Bd m λT R m=>?_);refine vX (.p 1 (toNat d.2.2*1)) (Qf R Z EC ED) ?_;refine vX (I T) (EA Z EF Z (Qi R)) ?_;refine vH (El (xs:=[.tmp 82]) (es:=map (Qe .i64) [T]) Qu Z Z Z Z Z ⟨Z,trivial⟩ Z Z) ?_;refine FE Z (Bd m λay ae m=>vH (Ql (e:=(Qe .i64)) ae Qu EC (QE (i:=5))) ?_);refine Fg 6 Z Z (vH (El (xs:=[.tmp 86]) (es:=map CF.c [f.2.1]) Ik Z Z Z Z Z ⟨Z,trivial⟩ Z Z) ?_);refine FE Z (Bd m λaz af m=>vH (Ql (e:=CF.c) af Ik EQ (QE (i:=7))) ?_);exact au m
   exact au m
  exact Gx 2 Z (Ef y (Gc 5 Z (Q1 g (Lr [0,1,2,3]))))
 exact au h
def mc(n:Nat)(k:AA CF)(f:(AA CF)×Int)(d:Int):AB (CG Int Int):=AH ((bif d<(AI f.1:Int) then AH (CJ f.1 d) λg=>AH (CJ k f.2) λh=>AC (AG (g.AT<=h.AT))else AC AD):AB Bool) λj=>(bif j then AC (.k (i64.wrap (d+1)))else AC (.d d))
def S1(g:AA CF)(d:(AA CF)×Int):AB (CG ((AA CF)×Int) (AA CF)):=(bif d.2<(AI g:Int) then AH (iter (mc n g d) n 0:AB Int) λf=>AH (CJ g d.2) λh=>AH (Dd d.1 f (AI d.1:Int)) λj=>AH (app [h] j) λk=>AH (Dd d.1 0 f) λm=>AH (app m k) λq=>AC (.k (q,i64.wrap (d.2+1)))else AC (.d d.1))
def Nv(f:AA CF):AB (AA CF):=AH (iter (S1 n f) n (([]:AA CF),0):AB (AA CF)) λd=>AC d
instance vr(O:AA CF):Kq (Nv n O) 71 [.q 4 (map CF.c O)] [] (λr=>.o 0 (AI r) 4) (λr=>[.r 50 4 (map CF.c r)]):=by
 refine Kg 7 func71 Z Z Z Z λr h=>vH (El (xs:=[]) (es:=map CF.c []) Ik Z Z Z Z Z trivial Z Z) ?_;refine Fg 9 Z Z (Bd h λy W h=>Cg y [0] [] (λy=>[(3,.o 0 (AI y) 4)]) (λy=>[(0,.r 50 4 (map CF.c y))]) Zf ?_ ?_)
 .refine G0 1 Z (Lp [0] [0] (λj=>[(3,.o 0 (AI j.1) 4),(4,I j.2)]) (λj=>[(0,.r 50 4 (map CF.c j.1))]) W Zf (Lr [0]) λj ad d P=>?_);refine G0 5 Z (Lg 3 Z Z (Q7 Z d (λ_ d=>?_) (λ_ d=>?_)))
  .exact Gc 2 Z (QI d (Gx 1 Z (DU P d (Lr [0]))))
  refine Gc 10 Z (Bd d λk R d=>Cg k [0] [0,3,4] (λk=>[(5,I k)]) Ze Zf ?_ ?_)
  .refine G0 1 Z (Lp [0] [0,3,4] (λq=>[(5,I q)]) Ze R Zf (Lr [0]) λq X g F=>?_);refine G0 2 Z (Bd g λz f g=>Cg z [0] [0,3,4,5] (λz=>[(30,.b z)]) Ze Zf ?_ ?_)
   .refine G0 0 Z (DR 15 Z (D 5 Z (DS.is 4 f Z Z Z (λ_ f=>?_) (λ_ f=>?_))))
    .refine D 2 Z ?_;obtain⟨T,B,f⟩:=QF f;refine DS.v (x:=(.p 0 (toNat q*4))) (Qf B Z EQ Gg) ?_ (hg:=(gT Z));refine DS.wo (x:=.p 0 (toNat q*4)) ?_ ?_
     .exact HR (gT Z) Y? Z Wp
     refine DS.v (x:=(I T.AT)) (EA Z EF Z (Qi B)) ?_ (hg:=(gT Z));refine D 2 Z ?_;obtain⟨V,H,f⟩:=QF f;refine DS.v (Mg (e:=CF.c) (l:=O) (v:=V) H EQ Gg) ?_ (hg:=(gT Z));exact au f
    exact au f
   refine Q7 Z g (λ_ g=>?_) (λ_ g=>?_)
   .exact Gc 2 Z (QI g (Gx 1 Z (DU F g (Lr [0]))))
   exact au g
  refine Gc 1 Z (PZ 8 4 [0,0,0,0,1,3,3,3] (by kernel_rfl) (Da 2 Z ?_));obtain⟨m,L,d⟩:=QF d;refine DA.wo (x:=.rp [I m.AT,I m.Bb,I m.As,.b m.BQ]) ?_ ?_
  .exact Ix L EQ Gg Z Wp
  refine Da 1 Z ?_;refine jl (El (xs:=[.tmp 36]) (es:=map CF.c [m]) Ik Z Z Z Z Z ⟨Z,trivial⟩ Z Z) Z Z (Db 2 Z ?_);obtain⟨Y,t,d⟩:=QF d;refine DB.wo2 (x:=.s 0 (0+toNat k) (toNat (AI j.1:Int)-toNat k) 4) ?_ ?_ ?_
  iterate 2 refine vV (QO (l:=j.1) t EQ Gg (.inr ⟨_,Z,Z⟩) (.inl ⟨Z,Z⟩)) ?_;exact Wp
  refine DB.done Z (Bd d λaa M d=>vH (Ql (e:=CF.c) M Ik EQ (K0 (b:=0) t)) ?_);refine Fg 7 Z Z (Bd d λab E d=>?_);refine vV (dD (l:=j.1) E EQ Gg) ?_;refine Go 1 Z (Bd d λac N d=>vH (dC (e:=CF.c) E N Ik EQ (QE (i:=2))) ?_);exact au d
 exact au h
def Ly(d:CB)(f:Int):AB Int:=AH (HD n d) λg=>(bif (g != 0)then AC g else AH ((bif f<0 then AC AE else AC (AG ((AI d.AO:Int)<=f))):AB Bool) λh=>(bif h then AC 90 else AC 0))
instance xV(d:CB)(f:Int):Ks (Ly n d f) 130 [.a (CB.c d),I f] [] (λr=>I r):=KA func130
def Nw(d:CB)(f:Int):AB ((AA Int)×Int):=AH (Ly n d f) λg=>(bif (g != 0)then AC ([],g)else AH (CJ d.AO f) λj=>AH (AC ():AB Unit) λk=>AH (RT n j.Ad) λh=>AH (AC ():AB Unit) λm=>(bif 256<(i64.wrap ((AI h:Int)+0)) then AC ([],2)else AC (h,0)))
instance vu(d:CB)(f:Int):Kq (Nw n d f) 72 [.a (CB.c d),I f,I 0] [] (λr=>.t [.o 0 (AI r.1) 1,I r.2]) (λr=>[.r 3 1 (map (Qe .i64) r.1)]):=by
 refine Kg 11 func72 Z Z Z Z λr h=>Cz [] h Kc Z λJ F h=>Go 10 Z (Cn Z h (λ_ h=>?_) (λ_ h=>?_))
 .refine Gc 9 Z ?_;obtain rfl:=Oi h;refine R2 6 7 Z Z ?_;exact Eo (Et (s:=6) (XR Z) Z) (Lr [1])
 refine Gc 7 Z (Bd h λL j h=>Iz j Z (Go 7 Z (Bd h λx y h=>Ct x [1] [2,9] (λ_=>[(35,.b AD)]) Ze Zf ?_ (λenv H m=>?_))))
 .exact au y
 refine Gx 1 Z (Ef m (Gc 7 Z (Cd [] h Kc Z λz G h=>Fg 5 Z Z (Bd h λB E h=>Cg B [0,1] [2,9,10] (λ_=>[(47,.b (AG (256<(i64.wrap (AI z+0)))))]) Ze Zf ?_ ?_))))
 .exact au E
 refine Cn Z h (λ_ h=>?_) (λ_ h=>?_)
 .refine Gc 8 Z ?_;obtain rfl:=Oi h;refine R2 6 7 Z Z (Eo (Et (s:=6) (k:=1) (t:=3) (XR Z) Z) ?_);exact Lr [2]
 refine Gc 6 Z ?_;refine Go 12 Z ?_;exact au h
def d6(n:Nat)(d:(AA CF)×Int×Int):AB (CG ((AA CF)×Int×Int) (AA CF)):=(bif d.2.2<(AI d.1:Int) then AH (CJ d.1 d.2.2) λf=>AH (CJ d.1 d.2.2) λh=>AH (JG d.1 d.2.2 ({h with As:=(if d.2.1<f.As then d.2.1 else f.As):CF})) λg=>AH (CJ g d.2.2) λj=>AC (.k (g,i64.wrap (d.2.1-j.As),i64.wrap (d.2.2+1)))else AC (.d d.1))
def Su(h:CB)(F:AA CI)(E:Int)(j:(AA AP)×Int)(d:Int):AB (CG Int (CG Unit (AA CF))):=(bif d<(AI j.1:Int) then AH (AH (CJ j.1 d) λk=>(bif (k.BT != E)then AC (.k ())else AH (PA n h F E) λm=>AH (Nv n m.2) λq=>AH (CJ j.1 d) λg=>AH (Nw n h g.AN) λt=>AH (CJ h.AO g.AN) λx=>AH ((bif (x.Ak==(-1))then AC 0 else AC (i64.wrap (256-(AI t.1:Int)))):AB Int) λy=>AH (iter (d6 n) n (q,y,0):AB (AA CF)) λz=>AC (.d (.d (.d z)))):AB (CG Unit (CG Int (CG Unit (AA CF))))) λB=>match B with|.k f=>(AC (.k (i64.wrap (d+1))))|.d f=>AC f else AC (.d (.k ())))
def PW(g:CB)(h:AA CI)(k:Int):AB (AA CF):=AH (MB n g h) λj=>(bif (j.2 != 0)then AC []else AH (iter (Su n g h k j) n 0:AB (CG Unit (AA CF))) λf=>match f with|.k d=>(AC [])|.d d=>AC d)
instance jD(a1:CB)(a2:AA CI)(a3:Int):Kq (PW n a1 a2 a3) 23 [.a (CB.c a1),.q 57 (map CI.c a2),I a3] [] (λr=>.o 0 (AI r) 4) (λr=>[.r 50 4 (map CF.c r)]):=by
 refine Kg 10 func23 Z Z Z Z λr h=>Cd [] h Kc Z λr1 ax h=>Fg 14 Z Z (Cn Z h (λ_ h=>?_) (λ_ h=>?_))
 .refine Gc 7 Z ?_;obtain rfl:=Oi h;refine R1 6 Z ?_;refine Eo (Et (s:=6) (k:=4) (t:=50) (XR Z) Z) ?_;exact Lr [2]
 refine Gc 8 Z (Bd h λT V h=>D5 (b:=T) [] [] Ze Ze Zf ?_ (λ_ ae=>?_))
 .refine G0 1 Z (Lp [0,1] [1,2,3,7] (λx=>[(9,I x)]) Ze V Zf (Lr [0,1]) λx al m B=>?_);refine G0 9 Z (Q7 Z m (λ_ m=>?_) (λ_ m=>?_))
  .exact Jc B m
  refine Gc 3 Z (Bd m λW d m=>D5 (b:=W) [0,1] [1,2,3,7,9] Ze Ze Zf ?_ (λ_ hb=>?_))
  .refine G0 6 Z (Bd d λX E d=>?_);refine vX (.p 1 (toNat x*8)) (Qf E Z EI EP) ?_;refine Fp j_ Z ?_;refine vX (I X.BT) (EA Z EF Z (Qi E)) ?_;refine Go 4 Z (Cn Z d (λ_ d=>?_) (λ_ d=>?_))
   .refine Gc 3 Z ?_;cases d;exact J7 Z (Lr [0,1])
   refine Gc 7 Z (Cd [] d Kc Z λam ai d=>Fg 10 Z Z ?_);refine Eu (Yo [(11,_),(38,_),(42,_),(44,_),(45,_)] Z Z (Cy.cons Z Er (Cy.cons Z (DM.tup (Ed (Ee _) (Ed Er (Ek _)))) (Cy.cons Z (DM.tup (Ed (Ee _) (Ed Er (Ek _)))) (Cy.cons Z Er (Cy.cons Z Er Cy.nil))))) (Ec (Ec (Ec (Ec (QT _)))))) ?_;refine Cd [] d Kc Z λan aj d=>Fg 7 Z Z (Bd d λY F d=>?_);refine vX (.p 1 (toNat x*8)) (Qf F Z EI EP) ?_;refine Fp X? Z ?_;refine vX (I Y.AN) (EA Z EF Z (Qp (f:=1) F)) ?_;refine Go 7 Z (Cd [] d Kc Z λao ak d=>Fg 21 Z Z (Bd d λaq P d=>Iz P Z (Go 5 Z (Bd d λy aa d=>Ct y [4] [11] (λy=>[(15,I y)]) Ze Zf ?_ (λenv H af=>?_)))))
   .exact au aa
   refine Gx 1 Z (Ef af (Gc 6 Z (Bd d λq ab d=>Cg q [0] [] (λq=>[(11,.o 0 (AI q) 4)]) (λq=>[(0,.r 50 4 (map CF.c q))]) Zf ?_ ?_)))
   .refine G0 1 Z (Lp [0] [] (λj=>[(11,.o 0 (AI j.1) 4),(15,I j.2.1),(16,I j.2.2)]) (λj=>[(0,.r 50 4 (map CF.c j.1))]) ab Zf (Lr [0]) λj ar g Q=>?_);refine G0 9 Z (Q7 Z g (λ_ g=>?_) (λ_ g=>?_))
    .exact Gc 2 Z (QI g (Gx 1 Z (DU Q g (Lr [0]))))
    refine Gc 10 Z (Bd g λz G g=>?_);refine vX (.p 0 (toNat j.2.2*4)) (Qf G Z EQ Gg) ?_;refine Fp kA Z ?_;refine vX (I z.As) (EA Z EF Z (Qp (f:=2) G)) ?_;refine Go 1 Z ?_;refine vX (I (if j.2.1<z.As then j.2.1 else z.As)) (CU.min Z Z Z Z) ?_;refine Bd g λav J g=>?_;refine vX (.p 0 (toNat j.2.2*4)) (Qf J Z EQ Gg) ?_;refine Fp kA Z (Bd g λaw L g=>?_);refine vU (Yv (e:=CF.c) (k:=4) (f:=2) J L ED Z Z) ?_;refine FE Z ?_;refine Eu (Q4 (s:=11) Z (congrArg (λn=>A.s 0 0 n 4) (Yl L))) ?_;refine Go 6 Z (Bd g λac M g=>?_);refine vX (.p 0 (toNat j.2.2*4)) (Qf M Z EQ Gg) ?_;refine Fp kA Z ?_;refine vX (I ac.As) (EA Z EF Z (Qp (f:=2) M)) ?_;exact au g
   refine Gc 8 Z ?_;cases d;exact DV B m h
  subst hb;exact au m
 subst ae;refine Gc 6 Z ?_;obtain rfl:=Oi h;refine R1 6 Z ?_;refine Eo (Et (s:=6) (k:=4) (t:=50) (XR Z) Z) ?_;exact Lr [0]
def Lc(n:Nat)(f:AA CF)(d:Int×Int):AB (CG (Int×Int) Int):=(bif d.2<(AI f:Int) then AH (CJ f d.2) λg=>AC (.k (i64.wrap (d.1+g.As),i64.wrap (d.2+1)))else AC (.d d.1))
def I_(d:AA CF):AB Int:=AH (iter (Lc n d) n (0,0):AB Int) λf=>AC f
instance jL(k:AA CF):Ks (I_ n k) 8 [.q 4 (map CF.c k)] [] (λr=>I r):=by
 refine Kg 16 func8 Z Z Z Z λr h=>Bd h λf q h=>Cg f [] [] (λf=>[(3,I f)]) Ze Zf ?_ ?_
 .refine G0 1 Z (Lp [] [0] (λg=>[(3,I g.1),(4,I g.2)]) Ze q Zf (Lr []) λg t d m=>?_);refine G0 5 Z (Lg 3 Z Z (Q7 Z d (λ_ d=>?_) (λ_ d=>?_)))
  .exact Gc 2 Z (QI d (Gx 1 Z (DU m d (Lr []))))
  exact au d
 exact au h
def Tw(n:Nat)(f:CE)(d:Int):AB (CG Int (CG Unit Bool)):=(bif d<(AI f.BN:Int) then AH (CJ f.BN d) λg=>(bif 12<(AI g:Int) then AC (.d (.d AD))else AC (.k (i64.wrap (d+1))))else AC (.d (.k ())))
def OR(f:CE):AB Bool:=AH ((bif 8<(AI f.AS:Int) then AC AE else AC (AG (10<(AI f.BN:Int)))):AB Bool) λh=>(bif h then AC AD else AH (iter (Tw n f) n 0:AB (CG Unit Bool)) λg=>match g with|.k d=>(AC AE)|.d d=>AC d)
instance wU(d:CE):Ks (OR n d) 75 [.a (CE.c d)] [] (λr=>.b r):=KA func75
def S6(n:Nat)(f:AA Int)(j:Int)(d:Int×Int):AB (CG (Int×Int) Int):=(bif d.2<(AI f:Int) then AH (CJ f d.2) λg=>AH ((bif (g==j)then AC d.2 else AC d.1):AB Int) λh=>AC (.k (h,i64.wrap (d.2+1)))else AC (.d d.1))
def WX(f:AA Int)(g:Int):AB Int:=AH (iter (S6 n f g) n ((-1),0):AB Int) λd=>AC d
instance vo(t:AA Int)(x:Int):Ks (WX n t x) 131 [.q 1 (map (Qe .i64) t),I x] [] (λr=>I r):=by
 refine Kg 16 func131 Z Z Z Z λr h=>Bd h λf y h=>Cg f [] [] (λf=>[(5,I f)]) Ze Zf ?_ ?_
 .refine G0 1 Z (Lp [] [0,1] (λg=>[(5,I g.1),(6,I g.2)]) Ze y Zf (Lr []) λg E d k=>?_);refine G0 5 Z (Lg 3 Z Z (Q7 Z d (λ_ d=>?_) (λ_ d=>?_)))
  .exact Gc 2 Z (QI d (Gx 1 Z (DU k d (Lr []))))
  refine Gc 8 Z (Bd d λF q d=>Iz q Z (Go 5 Z (Bd d λj z d=>Ct j [] [0,1,6] (λj=>[(5,I j)]) Ze Zf ?_ (λenv H B=>?_))))
  .exact au z
  exact Gx 2 Z (Ef B (Gc 5 Z (Q1 d (Lr []))))
 exact au h
def d8(n:Nat)(g:Int)(h:AN)(d:(AA Int)×Int):AB (CG ((AA Int)×Int) (AA Int)):=(bif d.2<g then AH (app d.1 [h.Ak]) λf=>AC (.k (f,i64.wrap (d.2+1)))else AC (.d d.1))
def OK(j:CB)(k:Int)(f:Int):AB ((AA Int)×Int):=AH (Ly n j k) λm=>(bif (m != 0)then AC ([],m)else AH (CJ j.AO k) λg=>AH ((bif f<0 then AC AE else(bif 0<f then AC (g.Ak==(-1))else AC AD)):AB Bool) λE=>(bif E then AC ([],90)else AH (RT n g.Ad) λd=>AH ((bif 256<f then AC AE else AC (AG (256<(i64.wrap ((AI d:Int)+f))))):AB Bool) λq=>(bif q then AC ([],2)else(bif (f==0)then AC (d,0)else AH (WX n d g.Ak) λh=>AH (Dd d 0 (i64.wrap (h+1))) λt=>AH (app ([]:AA Int) t) λx=>AH (iter (d8 n f g) n (x,0):AB (AA Int)) λy=>AH (Dd d (i64.wrap (h+1)) (AI d:Int)) λz=>AH (app y z) λB=>AC (B,0)))))
instance wO(O:CB)(P:Int)(Q:Int):Kq (OK n O P Q) 72 [.a (CB.c O),I P,I Q] [] (λr=>.t [.o 0 (AI r.1) 1,I r.2]) (λr=>[.r 3 1 (map (Qe .i64) r.1)]):=by
 refine Kg 11 func72 Z Z Z Z λr h=>Cz [] h Kc Z λr1 ac h=>Go 10 Z (Cn Z h (λ_ h=>?_) (λ_ h=>?_))
 .refine Gc 9 Z ?_;obtain rfl:=Oi h;refine R2 6 7 Z Z ?_;refine Eo (Et (s:=6) (k:=1) (t:=3) (XR Z) Z) ?_;exact Lr [1]
 refine Gc 7 Z (Bd h λX T h=>Iz T Z (Go 7 Z (Bd h λz Y h=>Ct z [1] [2,9] (λz=>[(35,.b z)]) Ze Zf ?_ (λenv H j=>?_))))
 .exact au Y
 refine Gx 1 Z (Ef j (Cn Z h (λ_ h=>?_) (λ_ h=>?_)))
 .refine Gc 8 Z ?_;obtain rfl:=Oi h;refine R2 6 7 Z Z ?_;refine Eo (Et (s:=6) (k:=1) (t:=3) (XR Z) Z) ?_;exact Lr [1]
 refine Gc 6 Z (Cd [] h Kc Z λy aa h=>Fg 5 Z Z (Bd h λm V h=>Ct m [0,1] [2,9,10] (λm=>[(47,.b m)]) Ze Zf ?_ (λenv H j=>?_)))
 .exact au V
 refine Gx 1 Z (Ef j (Cn Z h (λ_ h=>?_) (λ_ h=>?_)))
 .refine Gc 8 Z ?_;obtain rfl:=Oi h;refine R2 6 7 Z Z ?_;refine Eo (Et (s:=6) (k:=1) (t:=3) (XR Z) Z) ?_;exact Lr [2]
 refine Gc 9 Z (Cn Z h (λ_ h=>?_) (λ_ h=>?_))
 .exact au h
 refine Gc 7 Z (Cb h Kc Z (lo (ls ln)) λad ab h=>Go 6 Z (vH (El (xs:=[]) (es:=map (Qe .i64) []) Qu Z Z Z Z Z trivial Z Z) ?_));refine Fg 2 Z Z (Bd h λae q h=>?_);refine vV (QO (l:=y) q EC ED (.inl ⟨Z,Z⟩) (.inr ⟨_,Z,Z⟩)) ?_;refine Bd h λaf G h=>vH (Ql (e:=(Qe .i64)) G Qu EC (K0 (b:=1) q)) ?_;refine Fg 9 Z Z (Bd h λf W h=>Cg f [1,2] [10,11] (λf=>[(12,.o 1 (AI f) 1)]) (λf=>[(1,.r 3 1 (map (Qe .i64) f))]) Zf ?_ ?_)
 .refine G0 1 Z (Lp [0,1,3] [2,9,10,11] (λg=>[(12,.o 2 (AI g.1) 1),(13,I g.2)]) (λg=>[(2,.r 3 1 (map (Qe .i64) g.1))]) W Zf (Lr [0,1,3]) λg ag d J=>?_);refine G0 8 Z (Q7 Z d (λ_ d=>?_) (λ_ d=>?_))
  .exact Gc 2 Z (QI d (Gx 1 Z (DU J d (Lr [1,2]))))
  refine Gc 8 Z (vH (El (xs:=[.tmp 68]) (es:=map (Qe .i64) [X.Ak]) Qu Z Z Z Z Z ⟨Z,trivial⟩ Z Z) ?_);refine FE Z (Bd d λah M d=>vH (Ql (e:=(Qe .i64)) M Qu EC (QE (i:=3))) ?_);exact au d
 refine Gc 5 Z (Bd h λai x h=>?_);refine vV (QO (l:=y) x EC ED (.inr ⟨_,Z,Z⟩) (.inl ⟨Z,Z⟩)) ?_;refine Bd h λaj N h=>vH (Ql (e:=(Qe .i64)) N Qu EC (K0 (b:=0) x)) ?_;exact au h
def PK(d:CB)(m:CE)(g:AP)(q:Int)(t:AA CN)(x:AA Ae):AB Bool:=AH (AH (KZ n d) λy=>(bif (!y)then AC AE else(bif 8<(AI d.Au:Int) then AC AE else AH (OR n m) λh=>(bif (!h)then AC AE else(bif 4<(AI t:Int) then AC AE else AC (AG (6<(AI x:Int))))))):AB Bool) λz=>(bif z then AC AD else AH ((bif g.AN<0 then AC AE else AC (AG ((AI d.AO:Int)<=g.AN))):AB Bool) λj=>(bif j then AC AE else AH (OK n d g.AN q) λf=>AH ((bif (f.2 != 0)then AC AE else AC (AG ((AI f.1:Int)<=8))):AB Bool) λk=>AC k))
instance iu(d:CB)(f:CE)(g:AP)(h:Int)(j:AA CN)(k:AA Ae):Ks (PK n d f g h j k) 25 [.a (CB.c d),.a (CE.c f),.a (AP.c g),I h,.q 5 (map CN.c j),.q 4 (map Ae.c k)] [] (λr=>.b r):=KA func25
def Tk(n:Nat)(t:Int)(f:AA CI)(d:(AA Ae)×Int):AB (CG ((AA Ae)×Int) (AA Ae)):=(bif d.2<(AI f:Int) then AH (AH (CJ f d.2) λg=>(bif (g.AY==5)then AH (CJ f d.2) λh=>AC (h.Ae.BT==t)else AC AD):AB Bool) λj=>AH ((bif j then AH (CJ f d.2) λk=>AH (app d.1 [k.Ae]) λm=>AC m else AC d.1):AB (AA Ae)) λq=>AC (.k (q,i64.wrap (d.2+1)))else AC (.d d.1))
def Tz(t:CB)(x:AA CI)(y:Int)(g:(AA CC)×(AA (AA Int))×Int)(h:(AA AP)×Int)(f:Int):AB (CG Int (CG Unit ((AA CC)×(AA (AA Int))×Int×Int×Int×Int×Int×Int×Int×Int×(AA CN)×(AA Ae)×(AA CF)×Bool))):=(bif f<(AI h.1:Int) then AH (AH (CJ h.1 f) λz=>(bif (z.BT != y)then AC (.k ())else AH (CJ h.1 f) λd=>AH (CJ h.1 f) λB=>AH (PT n t x B.BA) λk=>AH (PW n t x y) λm=>AH (F8 n x) λE=>AH (iter (Tk n y E) n ([],0):AB (AA Ae)) λq=>AH (I_ n m) λF=>AH (PK n t ({AS:=g.1,BN:=g.2.1:CE}) d F k q) λG=>AC (.d (.d (.d (g.1,g.2.1,d.BT,d.AN,d.A3,d.BM,d.B4,d.BA,d.Bl,d.B5,k,q,m,G))))):AB (CG Unit (CG Int (CG Unit ((AA CC)×(AA (AA Int))×Int×Int×Int×Int×Int×Int×Int×Int×(AA CN)×(AA Ae)×(AA CF)×Bool))))) λH=>match H with|.k j=>(AC (.k (i64.wrap (f+1))))|.d j=>AC j else AC (.d (.k ())))
def OJ(f:CB)(g:AA CI)(x:Int):AB ((AA CC)×(AA (AA Int))×Int×Int×Int×Int×Int×Int×Int×Int×(AA CN)×(AA Ae)×(AA CF)×Bool):=AH (AH (KZ n f) λy=>(bif (!y)then AC AE else(bif 16<(AI g:Int) then AC AE else AH (HD n f) λm=>(bif (m != 0)then AC AE else AH (N7 n f 10) λq=>AC (!q)))):AB Bool) λz=>(bif z then AC ([],[],0,0,0,0,0,0,0,0,[],[],[],AD)else AH (PC n f g) λh=>AH (MB n f g) λj=>AH ((bif (h.2.2 != 0)then AC AE else AC (j.2 != 0)):AB Bool) λt=>(bif t then AC ([],[],0,0,0,0,0,0,0,0,[],[],[],AD)else AH (iter (Tz n f g x h j) n 0:AB (CG Unit ((AA CC)×(AA (AA Int))×Int×Int×Int×Int×Int×Int×Int×Int×(AA CN)×(AA Ae)×(AA CF)×Bool))) λk=>match k with|.k d=>(AC ([],[],0,0,0,0,0,0,0,0,[],[],[],AD))|.d d=>AC d))
instance wN(M:CB)(a2:AA CI)(a3:Int):Kq (OJ n M a2 a3) 5 [.a (CB.c M),.q 57 (map CI.c a2),I a3] [] (λr=>.t [.a [.q 3 (map CC.c r.1),.q 1 (map (Qx 1 (Qe .i64)) r.2.1),I r.2.2.1,I r.2.2.2.1,I r.2.2.2.2.1,I r.2.2.2.2.2.1,I r.2.2.2.2.2.2.1,I r.2.2.2.2.2.2.2.1,I r.2.2.2.2.2.2.2.2.1,I r.2.2.2.2.2.2.2.2.2.1,.q 5 (map CN.c r.2.2.2.2.2.2.2.2.2.2.1),.o 0 (AI r.2.2.2.2.2.2.2.2.2.2.2.1) 4,.q 4 (map CF.c r.2.2.2.2.2.2.2.2.2.2.2.2.1)],.b r.2.2.2.2.2.2.2.2.2.2.2.2.2]) (λr=>[.r 91 4 (map Ae.c r.2.2.2.2.2.2.2.2.2.2.2.1),.c 46 [.q 3 (map CC.c r.1),.q 1 (map (Qx 1 (Qe .i64)) r.2.1),I r.2.2.1,I r.2.2.2.1,I r.2.2.2.2.1,I r.2.2.2.2.2.1,I r.2.2.2.2.2.2.1,I r.2.2.2.2.2.2.2.1,I r.2.2.2.2.2.2.2.2.1,I r.2.2.2.2.2.2.2.2.2.1,.q 5 (map CN.c r.2.2.2.2.2.2.2.2.2.2.1),.o 0 (AI r.2.2.2.2.2.2.2.2.2.2.2.1) 4,.q 4 (map CF.c r.2.2.2.2.2.2.2.2.2.2.2.2.1)]]):=by
 refine Kg 9 func5 Z Z Z Z λr h=>Bd h λb7 h8 h=>Ct b7 [0,1] [1,2,3,6] (λb7=>[(33,.b b7)]) Ze Zf ?_ (λenv H N=>?_)
 .exact au h8
 refine Gx 1 Z (Ef N (Cn Z h (λ_ h=>?_) (λ_ h=>?_)))
 .refine Gc 9 Z ?_;obtain rfl:=Oi h;refine⟨[(6,.p 1 0),(7,.b AD)],[.r 91 4 (map Ae.c ([]:AA Ae)),.c 46 [.q 3 (map CC.c ([]:AA CC)),.q 1 (map (Qx 1 (Qe .i64)) ([]:AA (AA Int))),I 0,I 0,I 0,I 0,I 0,I 0,I 0,I 0,.q 5 (map CN.c ([]:AA CN)),.o 0 (AI ([]:AA Ae)) 4,.q 4 (map CF.c ([]:AA CF))]],_,?_,QH Z Z (C4.cons (Yg isAgg46 sizeOf46 Z Z Z) (C4.cons Dq.tmp C4.nil)),Z,Z⟩;refine Eo (Ya (i:=1) (m:=11) (t:=91) (k:=4) Z Z Z) ?_;exact Lr [2,1]
 refine Gc 6 Z (Cd [] h Kc Z λj bj h=>Fg 12 Z Z (Cd [] h Kc Z λJ bk h=>Fg 9 Z Z (Bd h λaf bc h=>Ct af [0,1,3,4] [1,2,3,6,8,10] (λaf=>[(52,.b af)]) Ze Zf ?_ (λenv H N=>?_))))
 .exact au bc
 refine Gx 1 Z (Ef N (Cn Z h (λ_ h=>?_) (λ_ h=>?_)))
 .refine Gc 9 Z ?_;obtain rfl:=Oi h;refine⟨[(6,.p 1 0),(7,.b AD)],[.r 91 4 (map Ae.c ([]:AA Ae)),.c 46 [.q 3 (map CC.c ([]:AA CC)),.q 1 (map (Qx 1 (Qe .i64)) ([]:AA (AA Int))),I 0,I 0,I 0,I 0,I 0,I 0,I 0,I 0,.q 5 (map CN.c ([]:AA CN)),.o 0 (AI ([]:AA Ae)) 4,.q 4 (map CF.c ([]:AA CF))]],_,?_,QH Z Z (C4.cons (Yg isAgg46 sizeOf46 Z Z Z) (C4.cons Dq.tmp C4.nil)),Z,Z⟩;refine Eo (Ya (i:=1) (m:=11) (t:=91) (k:=4) Z Z Z) ?_;exact Lr [4,1]
 refine Gc 8 Z (Bd h λar av h=>D5 (b:=ar) [1] [6] Ze Ze Zf ?_ (λ_ bd=>?_))
 .refine G0 1 Z (Lp [0,1,2,3] [1,2,3,6,8,10] (λq=>[(12,I q)]) Ze av Zf (Lr [0,1,2,3]) λq bl G X=>?_);refine G0 9 Z (Q7 Z G (λ_ G=>?_) (λ_ G=>?_))
  .exact Jc X G
  refine Gc 3 Z (Bd G λaw g G=>D5 (b:=aw) [0,1,2,3] [1,2,3,6,8,10,12] Ze Ze Zf ?_ (λ_ hb=>?_))
  .refine G0 6 Z (Bd g λax Y g=>?_);refine vX (.p 3 (toNat q*8)) (Qf Y Z EI EP) ?_;refine Fp j_ Z ?_;refine vX (I ax.BT) (EA Z EF Z (Qi Y)) ?_;refine Go 4 Z (Cn Z g (λ_ g=>?_) (λ_ g=>?_))
   .refine Gc 3 Z ?_;cases g;exact J7 Z (Lr [0,1,2,3])
   refine Gc 3 Z ?_;obtain⟨d,y,g⟩:=QF g;obtain⟨T,L,g⟩:=QF g;obtain⟨O,aa,g⟩:=QF g;obtain⟨P,ab,g⟩:=QF g;refine Yu 19 1 [67,68,69,70,71,72,73,74,75,76,77,78,79,80,81,82,83,84,13] [AD,AD,AD,AD,AD,AD,AD,AD,AD,AD,AD,AD,AE,AD,AD,AD,AE,AD,AE] [[],[],[],[],[],[],[],[],[],[],[],[],[],[],[],[],[12],[12,16],[]] [[],[12],[18],[12,16],[12,18],[12,16,18]] [[(0,0),(1,1),(2,2),(3,3),(4,4),(5,5)],[(0,0),(1,1),(2,2),(3,3),(4,4),(5,5)],[(0,0),(1,1),(2,2),(3,3),(4,4),(5,5)],[(0,0),(1,1),(2,2),(3,3),(4,4),(5,5)],[(0,0),(1,1),(2,2),(3,3),(4,4),(5,5)],[(0,0),(2,2)],[(0,0),(2,2)],[(0,0),(2,2)],[(0,0),(2,2)],[(0,0),(2,2)],[(0,0),(2,2)],[(0,0),(2,2)],[(0,1),(2,4)],[(0,0),(1,1),(2,2),(4,4)],[(0,0),(1,1),(2,2),(4,4)],[(0,0),(1,1),(2,2),(4,4)],[(1,3),(4,5)],[(3,3),(5,5)],[(0,2),(1,4),(3,5)]] [.a [.q 3 (map CC.c j.1),.q 1 (map (Qx 1 (Qe .i64)) j.2.1)],.o 3 (AI J.1) 8,I q,.p 3 (toNat q*8),.a (AP.c d),.a (CB.c M),.q 57 (map CI.c a2),.o 3 (AI J.1) 8,I q,.p 3 (toNat q*8),.p 3 (toNat q*8+5),I T.BA,.q 5 (map CN.c O),.a (CB.c M),.q 57 (map CI.c a2),I a3,.q 4 (map CF.c P),.a [.q 3 (map CC.c j.1),.q 1 (map (Qx 1 (Qe .i64)) j.2.1),I d.BT,I d.AN,I d.A3,I d.BM,I d.B4,I d.BA,I d.Bl,I d.B5,.q 5 (map CN.c O),.n,.q 4 (map CF.c P)],.p 4 0] [[.c 33 (CB.c M),.c 46 (CV.c Cc),.c 39 [.q 3 (map CC.c j.1),.q 1 (map (Qx 1 (Qe .i64)) j.2.1)],.r 41 8 (map AP.c J.1),.dead],[.c 33 (CB.c M),.c 46 (CV.c Cc),.c 39 [.q 3 (map CC.c j.1),.q 1 (map (Qx 1 (Qe .i64)) j.2.1)],.r 41 8 (map AP.c J.1),.dead,.dead],[.c 33 (CB.c M),.c 46 (CV.c Cc),.c 39 [.q 3 (map CC.c j.1),.q 1 (map (Qx 1 (Qe .i64)) j.2.1)],.r 41 8 (map AP.c J.1),.c 46 [.q 3 (map CC.c []),.q 1 (map (Qx 1 (Qe .i64)) []),I 0,I 0,I 0,I 0,I 0,I 0,I 0,I 0,.q 5 (map CN.c []),.n,.q 4 (map CF.c [])]],[.c 33 (CB.c M),.c 46 (CV.c Cc),.c 39 [.q 3 (map CC.c j.1),.q 1 (map (Qx 1 (Qe .i64)) j.2.1)],.r 41 8 (map AP.c J.1),.dead,.dead,.dead],[.c 33 (CB.c M),.c 46 (CV.c Cc),.c 39 [.q 3 (map CC.c j.1),.q 1 (map (Qx 1 (Qe .i64)) j.2.1)],.r 41 8 (map AP.c J.1),.c 46 [.q 3 (map CC.c []),.q 1 (map (Qx 1 (Qe .i64)) []),I 0,I 0,I 0,I 0,I 0,I 0,I 0,I 0,.q 5 (map CN.c []),.n,.q 4 (map CF.c [])],.dead],[.c 33 (CB.c M),.c 46 (CV.c Cc),.c 39 [.q 3 (map CC.c j.1),.q 1 (map (Qx 1 (Qe .i64)) j.2.1)],.r 41 8 (map AP.c J.1),.c 46 [.q 3 (map CC.c []),.q 1 (map (Qx 1 (Qe .i64)) []),I 0,I 0,I 0,I 0,I 0,I 0,I 0,I 0,.q 5 (map CN.c []),.n,.q 4 (map CF.c [])],.dead,.dead]] ([.c 33 (CB.c M),.c 46 (CV.c Cc),.c 39 [.q 3 (map CC.c j.1),.q 1 (map (Qx 1 (Qe .i64)) j.2.1)],.r 41 8 (map AP.c J.1),.c 46 [.q 3 (map CC.c []),.q 1 (map (Qx 1 (Qe .i64)) []),I 0,I 0,I 0,I 0,I 0,I 0,I 0,I 0,.q 5 (map CN.c []),.n,.q 4 (map CF.c [])],.dead,.dead]) C' Z Z Z Z Z Z Z ?_ Z ?_
   .refine CL.cons (Qa (v0 Z Z) (Qa (v0 Z Z) (Qa (v0 Z Z) (Qa (v0 Z Z) (Qa (v0 Z Z) (Qa (v0 Z Z) (Qc))))))) (CL.cons (Qa (v0 Z Z) (Qa (v0 Z Z) (Qa (v0 Z Z) (Qa (v0 Z Z) (Qa (v0 Z Z) (Qa (v0 Z Z) (Qc))))))) (CL.cons (Qa (v0 Z Z) (Qa (v0 Z Z) (Qa (v0 Z Z) (Qa (v0 Z Z) (Qa (v0 Z Z) (Qa (v0 Z Z) (Qc))))))) (CL.cons ?_ (CL.cons ?_ (CL.cons (Qa (v0 Z Z) (Qa (v0 Z Z) (Qc))) (CL.cons (Qa (v0 Z Z) (Qa (v0 Z Z) (Qc))) (CL.cons (Qa (v0 Z Z) (Qa (v0 Z Z) (Qc))) (CL.cons (Qa (v0 Z Z) (Qa (v0 Z Z) (Qc))) (CL.cons ?_ (CL.cons ?_ (CL.cons ?_ (CL.cons ?_ (CL.cons (Qa (v0 Z Z) (Qa (v0 Z Z) (Qa (v0 Z Z) (Qa (v0 Z Z) (Qc))))) (CL.cons (Qa (v0 Z Z) (Qa (v0 Z Z) (Qa (v0 Z Z) (Qa (v0 Z Z) (Qc))))) (CL.cons (Qa (v0 Z Z) (Qa (v0 Z Z) (Qa (v0 Z Z) (Qa (v0 Z Z) (Qc))))) (CL.cons ?_ (CL.cons (Qa (v0 Z Z) (Qa (v0 Z Z) (Qc))) (CL.cons ?_ (CL.nil)))))))))))))))))))
    .refine Qa ?_ (Qa ?_ (Qa ?_ (Qa ?_ (Qa ?_ (Qa ?_ (Qc))))))
     iterate 6 refine Om Z (sD 1 (sD 2 sN)) ?_;refine vX (.p 3 (toNat q*8)) (Qf y Z EI EP) ?_;exact Wp
    .refine Qa ?_ (Qa ?_ (Qa ?_ (Qa ?_ (Qa ?_ (Qa ?_ (Qc))))))
     iterate 6 refine Om Z (sD 3 sN) ?_;refine vX (.a (AP.c d)) (Qv Z GK EP Z (Qi y) Z Z) ?_;exact Wp
    .refine Qa ?_ (Qa ?_ (Qc))
     iterate 2 refine Om Z (sD 7 (sD 8 sN)) ?_;refine vX (.p 3 (toNat q*8)) (Qf L Z EI EP) ?_;exact Wp
    .refine Qa ?_ (Qa ?_ (Qc))
     iterate 2 refine Om Z (sD 9 sN) ?_;exact Fp lN Z Wp
    .refine Qa ?_ (Qa ?_ (Qc))
     iterate 2 refine Om Z (sD 10 sN) ?_;refine vX (I T.BA) (EA Z EF Z (Qp (f:=5) L)) ?_;exact Wp
    .refine Qa ?_ (Qa ?_ (Qc))
     iterate 2 refine Fu Z (sD 5 (sD 6 (sD 11 sN))) ?_;refine Qh [] (C6.fn call22 Z Z Z) ((jB _ _ _ _).c _ aa) ?_;rintro _ _ ⟨rfl,rfl⟩;refine FE Z ?_;refine Eu (Yo [(79,_)] Z Z (Cy.cons Z Er Cy.nil) (Ec (Ec (Ec (Ec (Ec (Ec (QT _)))))))) ?_;refine Eu Sd ?_;exact Wp
    .refine Qa ?_ (Qa ?_ (Qc))
     iterate 2 refine Fu Z (sD 13 (sD 14 (sD 15 sN))) ?_;refine Qh [] (C6.fn call23 Z Z Z) ((jD _ _ _ _).c _ ab) ?_;rintro _ _ ⟨rfl,rfl⟩;refine FE Z ?_;refine Eu (Yo [(83,_)] Z Z (Cy.cons Z Er Cy.nil) (Ec (Ec (Ec (Ec (Ec (Ec (Ec (QT _))))))))) ?_;refine Eu Sd ?_;exact Wp
    .refine Qa ?_ (Qa ?_ (Qa ?_ (Qc)))
     iterate 3 exact Jk.alloc _ 13 46 4 _ Z Z Z Z Z Z Z (Im.alloc (v:=(.a [.q 3 (map CC.c []),.q 1 (map (Qx 1 (Qe .i64)) []),I 0,I 0,I 0,I 0,I 0,I 0,I 0,I 0,.q 5 (map CN.c []),.n,.q 4 (map CF.c [])])) zeroValue46 (Fh Z)) Z
   refine Go 6 Z (Cd [] g Kc Z λbm bh g=>Fg 9 Z Z (Bd g λQ ay g=>Cg Q [0,1,2,3,4] [3,6,8] (λ_=>[(13,.p 3 0)]) (λQ=>[(3,.c 46 [.q 3 (map CC.c j.1),.q 1 (map (Qx 1 (Qe .i64)) j.2.1),I d.BT,I d.AN,I d.A3,I d.BM,I d.B4,I d.BA,I d.Bl,I d.B5,.q 5 (map CN.c O),.o 4 (AI Q) 4,.q 4 (map CF.c P)]),(4,.r 91 4 (map Ae.c Q))]) Zf ?_ ?_))
   .refine G0 1 Z (Lp [0,1,2,4,0,7] [2,3,6,8,13,14] (λB=>[(15,I B.2)]) (λB=>[(3,.c 46 [.q 3 (map CC.c j.1),.q 1 (map (Qx 1 (Qe .i64)) j.2.1),I d.BT,I d.AN,I d.A3,I d.BM,I d.B4,I d.BA,I d.Bl,I d.B5,.q 5 (map CN.c O),.o 4 (AI B.1) 4,.q 4 (map CF.c P)]),(4,.r 91 4 (map Ae.c B.1))]) ay Zf ?_ ?_)
    .refine Eo (Ya (i:=4) (m:=11) (t:=91) (k:=4) Z Z Z) ?_;exact Lr [0,1,2,4,8,7]
    intro B bn z ai;refine G0 9 Z (Q7 Z z (λ_ z=>?_) (λ_ z=>?_))
    .exact Gc 2 Z (QI z (Gx 1 Z (DU ai z (Lr [0,1,2,3,4]))))
    refine Gc 5 Z (Bd z λV E z=>Ct V [0,1,2,3,4,5] [2,3,6,8,13,14,15] (λV=>[(108,.b V)]) Ze Zf ?_ (λenv H N=>?_))
    .refine G0 3 Z (Bd E λaz ac E=>?_);refine vX (.p 5 (toNat B.2*57)) (Qf ac Z EE EG) ?_;refine Fp Sf Z ?_;refine vX (I az.AY) (EA Z EF Z (Qp (f:=3) ac)) ?_;refine Go 2 Z (Is 99 E Z (λ_ E=>?_) (λ_ E=>?_))
     .refine Go 2 Z (Bd E λba ad E=>?_);refine vX (.p 5 (toNat B.2*57)) (Qf ad Z EE EG) ?_ (gT Z);refine HR (gT Z) qK Z (HR (gT Z) i? Z ?_);refine vX (I ba.Ae.BT) (EA Z EF Z (Qp (f:=29) ad)) ?_ (gT Z);exact au E
     exact au E
    refine Gx 1 Z (Ef N (Bd z λR F z=>Ct R [0,1,2,3,0,5] [2,3,6,8,13,14,15] Ze (λR=>[(3,.c 46 [.q 3 (map CC.c j.1),.q 1 (map (Qx 1 (Qe .i64)) j.2.1),I d.BT,I d.AN,I d.A3,I d.BM,I d.B4,I d.BA,I d.Bl,I d.B5,.q 5 (map CN.c O),.o 4 (AI R) 4,.q 4 (map CF.c P)]),(4,.r 91 4 (map Ae.c R))]) Zf ?_ (λenv H N=>?_)))
    .refine G0 0 Z (Cn Z F (λ_ F=>?_) (λ_ F=>?_))
     .refine DR 8 Z (D 4 Z ?_);obtain⟨W,ae,F⟩:=QF F;refine DS.v (x:=(.p 5 (toNat B.2*57))) (Qf ae Z EE EG) ?_;refine DS.wo (x:=.p 5 (toNat B.2*57+29)) ?_ ?_
      .exact Fp qK Z Wp
      refine DS.v (x:=(.a (Ae.c W.Ae))) (Qv Z isAgg91 sizeOf91 Z (Qp (f:=29) ae) Z Z) ?_;refine DS.wo (x:=.q 4 (map Ae.c [W.Ae])) ?_ ?_
      .refine vH (QM (xs:=[.tmp 115]) (es:=map Ae.c [W.Ae]) nq Z Z Z Z Z ⟨Z,trivial⟩ Z Z) ?_;exact FE Z Wp
      refine Eh Z (Bd F λbo am F=>vH (Ql (e:=Ae.c) am nq runUnderlying43 K3) ?_);exact au F
     exact au F
    exact Gx 2 Z (Ef N (Gc 5 Z (Q1 z (Lr [0,1,2,3,4,5]))))
   refine Gc 1 Z (DR 13 Z (D 7 Z ?_));refine Dz [] g Kc Z λbp bi g=>D 4 Z ?_;obtain⟨bb,an,g⟩:=QF g;refine DS.wo (x:=.b bb) ?_ ?_
   .refine ZI (C6.fn call25 rfl rfl rfl) (Dn.cons rfl (.inl ⟨rfl,rfl⟩) (Dn.cons rfl (.inl ⟨rfl,rfl⟩) (Dn.cons rfl (.inl ⟨rfl,rfl⟩) (Dn.cons rfl (.inl ⟨rfl,rfl⟩) (Dn.cons rfl (.inl ⟨rfl,rfl⟩) (Dn.cons rfl (.inr ⟨_,_,_,_,_,rfl,rfl,X2 ..,rfl⟩) Dn.nil)))))) ((iu _ _ _ _ _ _ _).c _ an) (by rintro _ _ ⟨rfl,rfl⟩;rfl) ?_;rintro _ _ ⟨rfl,rfl⟩;exact FE Z Wp
   refine Eh Z (Go 6 Z ?_);cases g;exact DV X G h
  subst hb;exact au G
 subst bd;refine Gc 8 Z ?_;obtain rfl:=Oi h;refine⟨[(6,.p 1 0),(7,.b AD)],[.r 91 4 (map Ae.c ([]:AA Ae)),.c 46 [.q 3 (map CC.c ([]:AA CC)),.q 1 (map (Qx 1 (Qe .i64)) ([]:AA (AA Int))),I 0,I 0,I 0,I 0,I 0,I 0,I 0,I 0,.q 5 (map CN.c ([]:AA CN)),.o 0 (AI ([]:AA Ae)) 4,.q 4 (map CF.c ([]:AA CF))]],_,?_,QH Z Z (C4.cons (Yg isAgg46 sizeOf46 Z Z Z) (C4.cons Dq.tmp C4.nil)),Z,Z⟩;refine Eo (Ya (i:=0) (m:=11) (t:=91) (k:=4) Z Z Z) ?_;exact Lr [1,0]
def KT(n:Nat)(d:AA CX)(f:Int):AB Int:=AH ((bif (f==(-1))then AC (AG (0<(AI d:Int)))else AC AD):AB Bool) λg=>(bif g then AH (CJ d 0) λh=>AC (i64.wrap ((AI h.BJ:Int)-1))else AC f)
instance xw(d:AA CX)(f:Int):Ks (KT n d f) 9 [.q 2 (map CX.c d),I f] [] (λr=>I r):=KA func9
def PS(h:CB)(F:AA CI)(G:Int)(m:Int)(j:Int):AB Bool:=AH (U7 300) λH=>(bif (!H)then AC AD else AH (OJ n h F G) λd=>AH ((bif (!d.2.2.2.2.2.2.2.2.2.2.2.2.2)then AC AE else(bif j<0 then AC AE else AC (AG (256<j)))):AB Bool) λJ=>(bif J then AC AE else AH (app ([]:AA CF) d.2.2.2.2.2.2.2.2.2.2.2.2.1) λq=>AH (app q [{AT:=j,Bb:=0,As:=0,BQ:=AE:CF}]) λt=>AH (HE n h ({AS:=d.1,BN:=d.2.1:CE}) ({BT:=d.2.2.1,AN:=d.2.2.2.1,A3:=d.2.2.2.2.1,BM:=d.2.2.2.2.2.1,B4:=d.2.2.2.2.2.2.1,BA:=d.2.2.2.2.2.2.2.1,Bl:=d.2.2.2.2.2.2.2.2.1,B5:=d.2.2.2.2.2.2.2.2.2.1:AP}) d.2.2.2.2.2.2.2.2.2.2.1 d.2.2.2.2.2.2.2.2.2.2.2.1 d.2.2.2.2.2.2.2.2.2.2.2.2.1 m) λf=>AH (HE n h ({AS:=d.1,BN:=d.2.1:CE}) ({BT:=d.2.2.1,AN:=d.2.2.2.1,A3:=d.2.2.2.2.1,BM:=d.2.2.2.2.2.1,B4:=d.2.2.2.2.2.2.1,BA:=d.2.2.2.2.2.2.2.1,Bl:=d.2.2.2.2.2.2.2.2.1,B5:=d.2.2.2.2.2.2.2.2.2.1:AP}) d.2.2.2.2.2.2.2.2.2.2.1 d.2.2.2.2.2.2.2.2.2.2.2.1 t m) λg=>AH (I_ n d.2.2.2.2.2.2.2.2.2.2.2.2.1) λx=>AH (LY n h ({AS:=d.1,BN:=d.2.1:CE}) ({BT:=d.2.2.1,AN:=d.2.2.2.1,A3:=d.2.2.2.2.1,BM:=d.2.2.2.2.2.1,B4:=d.2.2.2.2.2.2.1,BA:=d.2.2.2.2.2.2.2.1,Bl:=d.2.2.2.2.2.2.2.2.1,B5:=d.2.2.2.2.2.2.2.2.2.1:AP}) x d.2.2.2.2.2.2.2.2.2.2.1 d.2.2.2.2.2.2.2.2.2.2.2.1) λk=>(bif (f.2 != g.2)then AC AD else AH ((bif (f.2 != 0)then AC AE else AC (k.2 != 0)):AB Bool) λy=>(bif y then AC AE else AH (KT n k.1 m) λz=>(bif j<=z then AH (L6 n g.1 [{BQ:=AE,Bh:=(-1),Lo:=0,Hi:=0:CD}]) λB=>AC B else AH (L6 n f.1 g.1) λE=>AC E)))))
instance i7(k:CB)(F:AA CI)(G:Int)(J:Int)(j:Int):Ks (PS n k F G J j) 3 [.a (CB.c k),.q 57 (map CI.c F),I G,I J,I j] [] (λr=>.b r):=by
 refine Kg 9 func3 Z Z Z Z λr h=>Cz [] h Kc Z λr1 W h=>Go 3 Z (Cn Z h (λ_ h=>?_) (λ_ h=>?_))
 .exact au h
 refine Gc 7 Z (Cd [] h Kc Z λd X h=>Fg 10 Z Z (Bd h λm R h=>Ct m [0,3,1] [3,4,5,11] (λm=>[(38,.b m)]) (λ_=>[(1,.c 46 [.q 3 (map CC.c d.1),.q 1 (map (Qx 1 (Qe .i64)) d.2.1),I d.2.2.1,I d.2.2.2.1,I d.2.2.2.2.1,I d.2.2.2.2.2.1,I d.2.2.2.2.2.2.1,I d.2.2.2.2.2.2.2.1,I d.2.2.2.2.2.2.2.2.1,I d.2.2.2.2.2.2.2.2.2.1,.q 5 (map CN.c d.2.2.2.2.2.2.2.2.2.2.1),.o 2 (AI d.2.2.2.2.2.2.2.2.2.2.2.1) 4,.q 4 (map CF.c d.2.2.2.2.2.2.2.2.2.2.2.2.1)])]) Zf ?_ (λenv H M=>?_)))
 .exact au R
 refine Gx 1 Z (Ef M (Cn Z h (λ_ h=>?_) (λ_ h=>?_)))
 .exact au h
 refine Gc 4 Z (vH (El (xs:=[]) (es:=map CF.c []) Ik Z Z Z Z Z trivial Z Z) ?_);refine Fg 2 Z Z (Bd h λY t h=>vH (Ql (e:=CF.c) t Ik EQ K3) ?_);refine Fg 2 Z Z (vH (El (xs:=[.tmp 44]) (es:=map CF.c [{AT:=j,Bb:=0,As:=0,BQ:=AE:CF}]) Ik Z Z Z Z Z ⟨Z,trivial⟩ Z Z) ?_);refine FE Z (Bd h λaa y h=>vH (Ql (e:=CF.c) y Ik EQ (QE (i:=5))) ?_);refine Fg 17 Z Z ?_;refine Eu (Yo [(56,_)] Z Z (Cy.cons Z Er Cy.nil) (Ec (Dh.cells (Ed (Ee _) (Ed (Ee _) (Ed (Ee _) (Ed (Ee _) (Ed (Ee _) (Ed (Ee _) (Ed (Ee _) (Ed (Ee _) (Ed (Ee _) (Ed (Ee _) (Ed (Ee _) (Ed Er (Ek _))))))))))))) (Ec (QT _))))) ?_;refine Cd [] h Kc Z λN T h=>Fg 20 Z Z ?_;refine Eu (Yo [(13,_),(46,_),(73,_)] Z Z (Cy.cons Z Er (Cy.cons Z Er (Cy.cons Z Er Cy.nil))) (Ec (Ec (Ec (Ec (Ec (Ec (Ec (QT _))))))))) ?_;refine Cd [] h Kc Z λO V h=>Fg 8 Z Z (PZ 17 12 [0,0,0,0,0,0,0,0,0,0,0,0,1,2,2,2,2] (by kernel_rfl) (Da 7 Z ?_));obtain⟨P,z,h⟩:=QF h;refine DA.wo (x:=I P) ?_ ?_
 .exact Pc [] Z (C6.fn call8 Z Z Z) ((jL _ _).c _ z) Z Wp
 refine Da 4 Z ?_;obtain⟨f,B,h⟩:=QF h;refine DA.op (x:=.t [.o 9 (AI f.1) 2,I f.2]) (H1:=[.c 33 (CB.c k),.c 46 [.q 3 (map CC.c d.1),.q 1 (map (Qx 1 (Qe .i64)) d.2.1),I d.2.2.1,I d.2.2.2.1,I d.2.2.2.2.1,I d.2.2.2.2.2.1,I d.2.2.2.2.2.2.1,I d.2.2.2.2.2.2.2.1,I d.2.2.2.2.2.2.2.2.1,I d.2.2.2.2.2.2.2.2.2.1,.q 5 (map CN.c d.2.2.2.2.2.2.2.2.2.2.1),.q 4 (map Ae.c d.2.2.2.2.2.2.2.2.2.2.2.1),.q 4 (map CF.c d.2.2.2.2.2.2.2.2.2.2.2.2.1)],.dead,.dead,.dead,.r 50 4 (map CF.c [{AT:=j,Bb:=0,As:=0,BQ:=AE:CF}]),.dead,.r 62 4 (map CD.c N.1),.r 62 4 (map CD.c O.1),.r 116 2 (map CX.c f.1),.c 55 [.o 9 (AI f.1) 2]]) ?_ ?_
 .refine Qh [] (C6.fn call7 Z Z Z) ((t8 _ _ _ _ _ _ _).c _ B) ?_;rintro _ _ ⟨rfl,rfl⟩;exact FE Z Wp
 refine Db 4 Z (DB.done Z (Go 11 Z (Cn Z h (λ_ h=>?_) (λ_ h=>?_))))
 .exact au h
 refine Gc 4 Z (Bd h λg Q h=>Cg g [7,8,9] [3,4,14,16,18] (λg=>[(102,.b g)]) Ze Zf ?_ ?_)
 .exact au Q
 exact au h
end Go.Sw
