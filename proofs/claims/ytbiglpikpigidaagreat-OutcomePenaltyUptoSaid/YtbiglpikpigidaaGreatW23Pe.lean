/- What the functions compute that OutcomePenalty reaches, and that their calls refine it (part 6 of 6). -/
import Derived.Test.YtbiglpikpigidaaGreatW23Pe5
set_option linter.unusedVariables false
set_option linter.unusedSimpArgs false
set_option maxRecDepth 100000
set_option maxHeartbeats 4000000
namespace Go.Sw
open Option renaming some→AC,bind→AH
open Bool renaming false→AD,true→AE
open Decidable renaming decide→AG
open List renaming length→AI
variable (n:Nat)
open List(map)
open Int(toNat)
open Go.IntKind(i64 u64 u8)
open Go.Proofs Tryz
def ng(n:Nat)(f:(AA AP)×Int)(g:CI)(d:Int):AB (CG Int Int):=AH ((bif d<(AI f.1:Int) then AH (CJ f.1 d) λh=>AC (AG (h.BW<g.AP.BW))else AC AD):AB Bool) λj=>(bif j then AC (.k (i64.wrap (d+1)))else AC (.d d))
def TH(G:CB)(h:AA CI)(d:(AA AP)×Int):AB (CG ((AA AP)×Int) (AA AP)):=(bif d.2<(AI h:Int) then AH (AH (CJ h d.2) λf=>AH (AH (CJ h d.2) λj=>(bif (j.AW != 1)then AC AE else(bif (AI G.AO:Int)<=f.AP.AN then AC AE else(bif (AI G.A4:Int)<=f.AP.A3 then AC AE else AH (Pi n d.1 f.AP.BW) λm=>AC (AG (0<=m))))):AB Bool) λq=>(bif q then AC d.1 else AH (iter (ng n d f) n 0:AB Int) λg=>AH (Dj d.1 0 g) λt=>AH (app ([]:AA AP) t) λx=>AH (app x [f.AP]) λy=>AH (Dj d.1 g (AI d.1:Int)) λB=>AH (app y B) λE=>AC E):AB (AA AP)) λF=>AC (.k (F,i64.wrap (d.2+1)))else AC (.d d.1))
def Tr(n:Nat)(f:AA AP)(g:Int)(d:Int):AB (CG Int (CG Unit (CG Int (CG Unit ((AA AP)×Int))))):=(bif d<g then AH (CJ f g) λh=>AH (CJ f d) λj=>(bif (h.BB==j.BB)then AC (.d (.d (.d (.d ([],180)))))else AC (.k (i64.wrap (d+1))))else AC (.d (.k ())))
def TE(g:AA AP)(d:Int):AB (CG Int (CG Unit ((AA AP)×Int))):=(bif d<(AI g:Int) then AH (iter (Tr n g d) n 0:AB (CG Unit (CG Int (CG Unit ((AA AP)×Int))))) λh=>match h with|.k f=>(AC (.k (i64.wrap (d+1))))|.d f=>AC f else AC (.d (.k ())))
def MP(h:CB)(m:AA CI):AB ((AA AP)×Int):=AH (HQ n h) λj=>(bif (j != 0)then AC ([],j)else AH (Km n m) λq=>AH (iter (TH n h q) n (([]:AA AP),0):AB (AA AP)) λd=>(bif 4000<(AI d:Int) then AC ([],2)else AH (iter (TE n d) n 0:AB (CG Unit ((AA AP)×Int))) λg=>match g with|.k f=>(AC (d,0))|.d f=>AC f))
instance ym(a1:CB)(a2:AA CI):Kq (MP n a1 a2) 26 [.a (CB.c a1),.q 57 (map CI.c a2)] [] (λr=>.t [.o 0 (AI r.1) 8,I r.2]) (λr=>[.r 41 8 (map AP.c r.1)]):=by
 refine Kg 10 func26 Z Z Z Z λr h=>Cz [] h Kc Z λr1 bu h=>Go 10 Z (Cn Z h (λ_ h=>?_) (λ_ h=>?_))
 .refine Gc 9 Z ?_;obtain rfl:=Oi h;refine R2 4 5 Z Z ?_;refine En (Er (s:=4) (k:=8) (t:=41) (XR Z) Z) ?_;exact Lr [1]
 refine Gc 5 Z (Cd [] h Kc Z λr3 bv h=>Fg 5 Z Z (vH (Ek (xs:=[]) (es:=map AP.c []) ZW Z Z Z Z Z trivial Z Z) ?_));refine Fg 9 Z Z (Bd h λL ay h=>Ct L [2] [] (λL=>[(7,.o 0 (AI L) 8)]) (λL=>[(0,.r 41 8 (map AP.c L))]) Zf ?_ (λenv H B=>?_))
 .refine G0 1 Z (Lp [1,0,2] [1,2] (λd=>[(7,.o 2 (AI d.1) 8),(8,I d.2)]) (λd=>[(2,.r 41 8 (map AP.c d.1))]) ay Zf (Lr [1,0,2]) λd bm E ah=>?_);refine G0 9 Z (Q8 Z E (λ_ E=>?_) (λ_ E=>?_))
  .exact Gc 2 Z (QH E (Gx 1 Z (DV ah E (Lr [2]))))
  refine Gc 3 Z (Bd E λM g E=>Ct M [0,1,2] [1,2,8] (λM=>[(7,.o 2 (AI M) 8)]) (λM=>[(2,.r 41 8 (map AP.c M))]) Zf ?_ (λenv H B=>?_))
  .refine G0 5 Z (Bd g λq W g=>?_);refine vX (.p 0 (toNat d.2*57)) (Qd W Z ED EF) ?_;refine Fp Qor Z ?_;refine vX (.a (AP.c q.AP)) (Qs Z GJ EN Z (Qo (f:=4) W) Z Z) ?_;refine Go 6 Z (Bd g λR T g=>Ct R [0,1,2,3] [1,2,7,8,9] (λR=>[(60,.b R)]) Ze Zf ?_ (λenv H B=>?_))
   .refine G0 3 Z (Bd T λaz X T=>?_);refine vX (.p 0 (toNat d.2*57)) (Qd X Z ED EF) ?_;refine Fp S7 Z ?_;refine vX (I az.AW) (Ez Z EE Z (Qo (f:=3) X)) ?_;exact au T
   refine Gx 1 Z (Ee B (Cn Z g (λ_ g=>?_) (λ_ g=>?_)))
   .exact au g
   refine Gc 8 Z (Bd g λj ba g=>Ct j [0,1,2,3] [1,2,7,8,9] (λj=>[(10,I j)]) Ze Zf ?_ (λenv H B=>?_))
   .refine G0 1 Z (Lp [0,1,2,3] [1,2,7,8,9] (λN=>[(10,I N)]) Ze ba Zf (Lr [0,1,2,3]) λN bn F ak=>?_);refine G0 2 Z (Bd F λV G F=>Ct V [0,1,2,3] [1,2,7,8,9,10] (λV=>[(74,.b V)]) Ze Zf ?_ (λenv H B=>?_))
    .refine G0 0 Z (DT 12 Z (D 5 Z (DS.is 4 G Z Z Z (λ_ G=>?_) (λ_ G=>?_))))
     .refine D 2 Z ?_;obtain⟨bb,Y,G⟩:=QE G;refine DS.v (x:=(.p 2 (toNat N*8))) (Qd Y Z EH EN) ?_ (hg:=(gT Z));refine DS.wo (x:=.p 2 (toNat N*8)) ?_ ?_
      .exact Ho (gT Z) lH Z Wp
      refine DS.v (x:=(I bb.BW)) (Ez Z EE Z (Qh Y)) ?_ (hg:=(gT Z));exact au G
     exact au G
    refine Gx 1 Z (Ee B (Q8 Z F (λ_ F=>?_) (λ_ F=>?_)))
    .exact Gc 2 Z (QH F (Gx 1 Z (DV ak F (Lr [0,1,2,3]))))
    exact au F
   refine Gx 1 Z (Ee B (HT 11 [0,4,7] [(1,0,0),(0,0,1),(0,0,1),(0,0,1),(1,1,0),(0,0,2),(0,0,2),(1,2,0),(0,0,3),(0,0,3),(0,0,3)] (by kernel_rfl) ?_));refine Ex (x:=.o 4 (AI ([]:AA AP)) 8) (X1:=[.r 120 57 (map CI.c r3),.c 33 (CB.c a1),.r 41 8 (map AP.c d.1),.c 41 (AP.c q.AP),.r 41 8 (map AP.c ([]:AA AP))]) ?_ ?_
   .refine vH (Ek (xs:=[]) (es:=map AP.c []) ZW Z Z Z Z Z trivial Z Z) ?_;exact FE Z Wp
   refine Dk 2 Z ?_;obtain⟨bo,O,g⟩:=QE g;refine KT (lo:=0) (hi:=1) (x:=.s 2 (0+toNat 0) (toNat j-toNat 0) 8) ⟨?_,?_,trivial⟩ ?_
   iterate 2 refine vX (.s 2 (0+toNat 0) (toNat j-toNat 0) 8) (QQ (l:=d.1) O EH EN (.inl ⟨Z,Z⟩) (.inr ⟨_,Z,Z⟩)) ?_;exact Wp
   obtain⟨ae,an,g⟩:=QE g;refine Ex (x:=.o 5 (AI ae) 8) (X1:=[.r 120 57 (map CI.c r3),.c 33 (CB.c a1),.r 41 8 (map AP.c d.1),.c 41 (AP.c q.AP),.dead,.r 41 8 (map AP.c ae)]) ?_ ?_
   .refine vH (Qj (e:=AP.c) an ZW EH (LS (b:=2) O)) ?_;exact FE Z Wp
   refine W8 (lo:=0) (hi:=2) (x:=.a (AP.c q.AP)) ⟨Z,Z,Z,trivial⟩ ?_;refine KT (lo:=0) (hi:=2) (x:=.q 8 (map AP.c [q.AP])) ⟨?_,?_,?_,trivial⟩ ?_
   iterate 3 refine vH (QP (xs:=[.tmp 82]) (es:=map AP.c [q.AP]) ZW Z Z Z Z Z ⟨Z,trivial⟩ Z Z) ?_;exact FE Z Wp
   obtain⟨af,ao,g⟩:=QE g;refine Ex (x:=.o 6 (AI af) 8) (X1:=[.r 120 57 (map CI.c r3),.c 33 (CB.c a1),.r 41 8 (map AP.c d.1),.c 41 (AP.c q.AP),.dead,.dead,.r 41 8 (map AP.c af)]) ?_ ?_
   .refine vH (Qj (e:=AP.c) ao ZW EH LT) ?_;exact FE Z Wp
   refine Dk 2 Z ?_;obtain⟨bp,J,g⟩:=QE g;refine KT (lo:=0) (hi:=3) (x:=.s 2 (0+toNat j) (toNat (AI d.1:Int)-toNat j) 8) ⟨?_,?_,?_,?_,trivial⟩ ?_
   iterate 4 refine vX (.s 2 (0+toNat j) (toNat (AI d.1:Int)-toNat j) 8) (QQ (l:=d.1) J EH EN (.inr ⟨_,Z,Z⟩) (.inl ⟨Z,Z⟩)) ?_;exact Wp
   refine DK.done Z Z (Bd g λbq aq g=>?_);refine vH (Qj (e:=AP.c) aq ZW EH (LS (b:=2) J)) ?_;exact au g
  exact Gx 1 Z (Ee B (Gc 5 Z (QZ E (Lr [0,1,2]))))
 refine Gx 1 Z (Ee B (Gc 8 Z (Cn Z h (λ_ h=>?_) (λ_ h=>?_))))
 .refine Gc 8 Z ?_;obtain rfl:=Oi h;refine R2 4 5 Z Z ?_;refine En (Er (s:=4) (k:=8) (t:=41) (XR Z) Z) ?_;exact Lr [1]
 refine Gc 8 Z (Bd h λbc bd h=>D_ (b:=bc) [0] [7] Ze Ze Zf ?_ (λ_ ag=>?_))
 .refine G0 1 Z (Lp [0] [7] (λP=>[(11,I P)]) Ze bd Zf (Lr [0]) λP br y aa=>?_);refine G0 9 Z (Q8 Z y (λ_ y=>?_) (λ_ y=>?_))
  .exact Jd aa y
  refine Gc 9 Z (Bd y λbe bg y=>Fb (b:=be) [0] [7,11] Ze Ze Zf ?_ (λbl env H ag B=>?_))
  .refine G0 1 Z (Lp [0] [7,11] (λQ=>[(12,I Q)]) Ze bg Zf (Lr [0]) λQ bs m ab=>?_);refine G0 8 Z (Q8 Z m (λ_ m=>?_) (λ_ m=>?_))
   .exact Jd ab m
   refine Gc 5 Z (DT 10 Z (D 2 Z ?_));obtain⟨bh,ac,m⟩:=QE m;refine DS.v (x:=(.p 0 (toNat P*8))) (Qd ac Z EH EN) ?_;refine DS.wo (x:=.p 0 (toNat P*8+5)) ?_ ?_
   .exact Fp mK Z Wp
   refine DS.v (x:=(I bh.BB)) (Ez Z EE Z (Qo (f:=5) ac)) ?_;refine D 2 Z ?_;obtain⟨bi,ad,m⟩:=QE m;refine DS.v (x:=(.p 0 (toNat Q*8))) (Qd ad Z EH EN) ?_;refine DS.wo (x:=.p 0 (toNat Q*8+5)) ?_ ?_
   .exact Fp mK Z Wp
   refine DS.v (x:=(I bi.BB)) (Ez Z EE Z (Qo (f:=5) ad)) ?_;refine Eg Z (Go 3 Z (Cn Z m (λ_ m=>?_) (λ_ m=>?_)))
   .refine Gc 9 Z (I7 m ?_);obtain rfl:=Oj ab m;refine Gx 1 Z (Ns (Gx 2 Z (I7 y ?_)));obtain rfl:=Oj aa y;refine Gx 1 Z (Ns (Gx 1 Z ?_));obtain rfl:=Oi h;refine R2 4 5 Z Z ?_;refine En (Er (s:=4) (k:=8) (t:=41) (XR Z) Z) ?_;exact Lr [1]
   exact au m
  subst ag;exact Gx 2 Z (Ee B (Gc 5 Z (QZ y (Lr [0]))))
 subst ag;exact au h
def U'(n:Nat)(h:AA CI)(g:A5)(d:Int):AB (CG Int (CG Unit Bool)):=(bif d<(AI h:Int) then AH (CJ h d) λf=>AH (AH (CJ h d) λj=>(bif (j.AW==6)then(bif (f.Aq.Al==g.Al)then(bif (f.Aq.Ah==g.Ah)then(bif f.Aq.Lo<=g.BC then AC (AG (g.BC<=f.Aq.Hi))else AC AD)else AC AD)else AC AD)else AC AD):AB Bool) λm=>(bif m then AC (.d (.d AE))else AC (.k (i64.wrap (d+1))))else AC (.d (.k ())))
def Oa(g:AA CI)(h:A5):AB Bool:=AH (iter (U' n g h) n 0:AB (CG Unit Bool)) λf=>match f with|.k d=>(AC AD)|.d d=>AC d
instance xV(d:AA CI)(f:A5):Ks (Oa n d f) 199 [.q 57 (map CI.c d),.a (A5.c f)] [] (λr=>.b r):=KA func199
def Ov(n:Nat)(d:A5)(f:A5):AB Bool:=(bif (d.BB != f.BB)then AC (AG (d.BB<f.BB))else(bif (d.Al != f.Al)then AC (AG (d.Al<f.Al))else(bif (d.Ah != f.Ah)then AC (AG (d.Ah<f.Ah))else AC (AG (d.BC<f.BC)))))
instance xi(d:A5)(f:A5):Ks (Ov n d f) 200 [.a (A5.c d),.a (A5.c f)] [] (λr=>.b r):=KA func200
def np(f:(AA A5)×Int)(g:CI)(d:Int):AB (CG Int Int):=AH ((bif d<(AI f.1:Int) then AH (CJ f.1 d) λh=>AH (Ov n h g.A5) λj=>AC j else AC AD):AB Bool) λm=>(bif m then AC (.k (i64.wrap (d+1)))else AC (.d d))
def UR(F:CB)(h:AA CI)(d:(AA A5)×Int):AB (CG ((AA A5)×Int) (AA A5)):=(bif d.2<(AI h:Int) then AH (AH (CJ h d.2) λf=>AH (AH (CJ h d.2) λj=>(bif (j.AW != 2)then AC AE else(bif (AI F.Au:Int)<=f.A5.Al then AC AE else AH (Oa n h f.A5) λm=>AC m)):AB Bool) λq=>(bif q then AC d.1 else AH (iter (np n d f) n 0:AB Int) λg=>AH (Dj d.1 g (AI d.1:Int)) λt=>AH (app [f.A5] t) λx=>AH (Dj d.1 0 g) λy=>AH (app y x) λB=>AC B):AB (AA A5)) λE=>AC (.k (E,i64.wrap (d.2+1)))else AC (.d d.1))
def Pb(f:CB)(g:AA CI):AB (AA A5):=AH (Km n g) λh=>AH (iter (UR n f h) n (([]:AA A5),0):AB (AA A5)) λd=>AC d
instance yY(a1:CB)(a2:AA CI):Kq (Pb n a1 a2) 132 [.a (CB.c a1),.q 57 (map CI.c a2)] [] (λr=>.o 0 (AI r) 4) (λr=>[.r 98 4 (map A5.c r)]):=by
 refine Kg 9 func132 Z Z Z Z λr h=>Cd [] h Kc Z λr1 an h=>Fg 5 Z Z (vH (Ek (xs:=[]) (es:=map A5.c []) gj Z Z Z Z Z trivial Z Z) ?_);refine Fg 9 Z Z (Bd h λy ac h=>Cg y [2] [] (λy=>[(6,.o 0 (AI y) 4)]) (λy=>[(0,.r 98 4 (map A5.c y))]) Zf ?_ ?_)
 .refine G0 1 Z (Lp [0,1,2] [2,5] (λg=>[(6,.o 2 (AI g.1) 4),(7,I g.2)]) (λg=>[(2,.r 98 4 (map A5.c g.1))]) ac Zf (Lr [0,1,2]) λg ah m R=>?_);refine G0 9 Z (Q8 Z m (λ_ m=>?_) (λ_ m=>?_))
  .exact Gc 2 Z (QH m (Gx 1 Z (DV R m (Lr [2]))))
  refine Gc 3 Z (Bd m λB d m=>Cg B [0,1,2] [2,5,7] (λB=>[(6,.o 2 (AI B) 4)]) (λB=>[(2,.r 98 4 (map A5.c B))]) Zf ?_ ?_)
  .refine G0 5 Z (Bd d λQ M d=>?_);refine vX (.p 1 (toNat g.2*57)) (Qd M Z ED EF) ?_;refine Fp mE Z ?_;refine vX (.a (A5.c Q.A5)) (Qs Z isAgg98 EY Z (Qo (f:=12) M) Z Z) ?_;refine Go 6 Z (Bd d λF G d=>Ct F [0,1,2,3] [2,5,6,7,8] (λF=>[(43,.b F)]) Ze Zf ?_ (λenv H ag=>?_))
   .refine G0 3 Z (Bd G λad N G=>?_);refine vX (.p 1 (toNat g.2*57)) (Qd N Z ED EF) ?_;refine Fp S7 Z ?_;refine vX (I ad.AW) (Ez Z EE Z (Qo (f:=3) N)) ?_;exact au G
   refine Gx 1 Z (Ee ag (Cn Z d (λ_ d=>?_) (λ_ d=>?_)))
   .exact au d
   refine Gc 8 Z (Bd d λj ae d=>Cg j [0,1,2,3] [2,5,6,7,8] (λj=>[(9,I j)]) Ze Zf ?_ ?_)
   .refine G0 1 Z (Lp [0,1,2,3] [2,5,6,7,8] (λJ=>[(9,I J)]) Ze ae Zf (Lr [0,1,2,3]) λJ ai q W=>?_);refine G0 2 Z (Bd q λL t q=>Cg L [0,1,2,3] [2,5,6,7,8,9] (λL=>[(55,.b L)]) Ze Zf ?_ ?_)
    .refine G0 0 Z (DT 10 Z (D 5 Z (DS.is 4 t Z Z Z (λ_ t=>?_) (λ_ t=>?_))))
     .refine D 2 Z ?_;obtain⟨af,O,t⟩:=QE t;refine DS.v (x:=(.p 2 (toNat J*4))) (Qd O Z EL EY) ?_ (hg:=(gT Z));refine DS.v (x:=(.a (A5.c af))) (Qs Z isAgg98 EY Z (Qh O) Z Z) ?_ (hg:=(gT Z));exact au t
     exact au t
    refine Q8 Z q (λ_ q=>?_) (λ_ q=>?_)
    .exact Gc 2 Z (QH q (Gx 1 Z (DV W q (Lr [0,1,2,3]))))
    exact au q
   refine Gc 1 Z (P0 5 1 [0,1,3,3,3] (by kernel_rfl) (Da 1 Z ?_));refine kU (Ek (xs:=[.tmp 58]) (es:=map A5.c [Q.A5]) gj Z Z Z Z Z ⟨Z,trivial⟩ Z Z) Z Z (Db 2 Z ?_);obtain⟨aj,E,d⟩:=QE d;refine DB.wo2 (x:=.s 2 (0+toNat j) (toNat (AI g.1:Int)-toNat j) 4) ?_ ?_ ?_
   iterate 2 refine vX (.s 2 (0+toNat j) (toNat (AI g.1:Int)-toNat j) 4) (QQ (l:=g.1) E EL EY (.inr ⟨_,Z,Z⟩) (.inl ⟨Z,Z⟩)) ?_;exact Wp
   refine DB.done Z (Bd d λak aa d=>vH (Qj (e:=A5.c) aa gj EL (LS (b:=2) E)) ?_);refine Fg 7 Z Z (Bd d λal P d=>?_);refine vX (.s 2 (0+toNat 0) (toNat j-toNat 0) 4) (dp (l:=g.1) P EL EY) ?_;refine Go 1 Z (Bd d λam ab d=>vH (dm (e:=A5.c) P ab gj EL (QC (i:=5))) ?_);exact au d
  exact au m
 exact au h
def TN(n:Nat)(Q:CB)(f:AA A5)(d:(AA CM)×Int):AB (CG ((AA CM)×Int) (AA CM)):=(bif d.2<(AI f:Int) then AH ((bif 0<=(i64.wrap ((AI d.1:Int)-1)) then AH (CJ d.1 (i64.wrap ((AI d.1:Int)-1))) λg=>AH (CJ f d.2) λh=>(bif (g.BB==h.BB)then AH (CJ d.1 (i64.wrap ((AI d.1:Int)-1))) λj=>AH (CJ f d.2) λm=>(bif (j.Al==m.Al)then AH (CJ d.1 (i64.wrap ((AI d.1:Int)-1))) λq=>AH (CJ f d.2) λt=>(bif (q.Ah==t.Ah)then AH (CJ f d.2) λx=>AH (CJ d.1 (i64.wrap ((AI d.1:Int)-1))) λy=>AC (AG ((i64.wrap (x.BC-y.A7))<=Q.AQ.A6))else AC AD)else AC AD)else AC AD)else AC AD):AB Bool) λB=>AH ((bif B then AH (CJ f d.2) λE=>AH (CJ d.1 (i64.wrap ((AI d.1:Int)-1))) λF=>AH (JK d.1 (i64.wrap ((AI d.1:Int)-1)) ({F with A7:=E.BC:CM})) λG=>AC G else AH (CJ f d.2) λH=>AH (CJ f d.2) λJ=>AH (CJ f d.2) λL=>AH (CJ f d.2) λM=>AH (CJ f d.2) λN=>AH (app d.1 [{Al:=H.Al,Ah:=J.Ah,BB:=L.BB,BT:=M.BC,A7:=N.BC:CM}]) λO=>AC O):AB (AA CM)) λP=>AC (.k (P,i64.wrap (d.2+1)))else AC (.d d.1))
def PH(d:CB)(g:AA CI):AB (AA CM):=AH (HQ n d) λh=>(bif (h != 0)then AC ([]:AA CM)else AH (Pb n d g) λj=>AH (iter (TN n d j) n (([]:AA CM),0):AB (AA CM)) λf=>AC f)
instance yF(a1:CB)(a2:AA CI):Kq (PH n a1 a2) 75 [.a (CB.c a1),.q 57 (map CI.c a2)] [] (λr=>.o 0 (AI r) 5) (λr=>[.r 139 5 (map CM.c r)]):=by
 refine Kg 8 func75 Z Z Z Z λr h=>vH (Ek (xs:=[]) (es:=map CM.c []) ZU Z Z Z Z Z trivial Z Z) ?_;refine Fg 7 Z Z (Cz [] h Kc Z λr1 bh h=>Go 3 Z (Cn Z h (λ_ h=>?_) (λ_ h=>?_)))
 .exact au h
 refine Gc 6 Z (Cd [] h Kc Z λr3 bi h=>Fg 9 Z Z (Bd h λq an h=>Cg q [1] [] (λq=>[(5,.o 0 (AI q) 5)]) (λq=>[(0,.r 139 5 (map CM.c q))]) Zf ?_ ?_))
 .refine G0 1 Z (Lp [0,1,2] [2,6] (λd=>[(5,.o 1 (AI d.1) 5),(7,I d.2)]) (λd=>[(1,.r 139 5 (map CM.c d.1))]) an Zf (Lr [0,1,2]) λd bc m af=>?_);refine G0 9 Z (Q8 Z m (λ_ m=>?_) (λ_ m=>?_))
  .exact Gc 2 Z (QH m (Gx 1 Z (DV af m (Lr [1]))))
  refine Gc 13 Z (Bd m λy g m=>Ct y [0,1,2] [2,5,6,7,8] (λy=>[(83,.b y)]) Ze Zf ?_ (λenv H ae=>?_))
  .refine G0 0 Z (DT 56 Z (D 3 Z (DS.is 2 g Z Z Z (λ_ g=>?_) (λ_ g=>?_))))
   .refine D 2 Z ?_;obtain⟨ao,L,g⟩:=QE g;refine DS.v (x:=(.p 1 (toNat (i64.wrap ((AI d.1:Int)-1))*5))) (Qd L Z ET Gd) ?_ (hg:=(gT Z));refine DS.wo (x:=.p 1 (toNat (i64.wrap ((AI d.1:Int)-1))*5+2)) ?_ ?_
    .exact Ho (gT Z) sL Z Wp
    refine DS.v (x:=(I ao.BB)) (Ez Z EE Z (Qo (f:=2) L)) ?_ (hg:=(gT Z));refine D 2 Z ?_;obtain⟨aq,M,g⟩:=QE g;refine DS.v (x:=(.p 2 (toNat d.2*4))) (Qd M Z EL EY) ?_ (hg:=(gT Z));refine DS.wo (x:=.p 2 (toNat d.2*4+2)) ?_ ?_
    .exact Ho (gT Z) qG Z Wp
    refine DS.v (x:=(I aq.BB)) (Ez Z EE Z (Qo (f:=2) M)) ?_ (hg:=(gT Z));refine D 3 Z (DS.is 15 g Z Z Z (λ_ g=>?_) (λ_ g=>?_))
    .refine D 2 Z ?_;obtain⟨ar,N,g⟩:=QE g;refine DS.v (x:=(.p 1 (toNat (i64.wrap ((AI d.1:Int)-1))*5))) (Qd N Z ET Gd) ?_ (hg:=(gT Z));refine DS.wo (x:=.p 1 (toNat (i64.wrap ((AI d.1:Int)-1))*5)) ?_ ?_
     .exact Ho (gT Z) Qoq Z Wp
     refine DS.v (x:=(I ar.Al)) (Ez Z EE Z (Qh N)) ?_ (hg:=(gT Z));refine D 2 Z ?_;obtain⟨av,O,g⟩:=QE g;refine DS.v (x:=(.p 2 (toNat d.2*4))) (Qd O Z EL EY) ?_ (hg:=(gT Z));refine DS.wo (x:=.p 2 (toNat d.2*4)) ?_ ?_
     .exact Ho (gT Z) lJ Z Wp
     refine DS.v (x:=(I av.Al)) (Ez Z EE Z (Qh O)) ?_ (hg:=(gT Z));refine D 3 Z (DS.is 28 g Z Z Z (λ_ g=>?_) (λ_ g=>?_))
     .refine D 2 Z ?_;obtain⟨aw,P,g⟩:=QE g;refine DS.v (x:=(.p 1 (toNat (i64.wrap ((AI d.1:Int)-1))*5))) (Qd P Z ET Gd) ?_ (hg:=(gT Z));refine DS.wo (x:=.p 1 (toNat (i64.wrap ((AI d.1:Int)-1))*5+1)) ?_ ?_
      .exact Ho (gT Z) Qop Z Wp
      refine DS.v (x:=(I aw.Ah)) (Ez Z EE Z (Qo (f:=1) P)) ?_ (hg:=(gT Z));refine D 2 Z ?_;obtain⟨ax,Q,g⟩:=QE g;refine DS.v (x:=(.p 2 (toNat d.2*4))) (Qd Q Z EL EY) ?_ (hg:=(gT Z));refine DS.wo (x:=.p 2 (toNat d.2*4+1)) ?_ ?_
      .exact Ho (gT Z) lK Z Wp
      refine DS.v (x:=(I ax.Ah)) (Ez Z EE Z (Qo (f:=1) Q)) ?_ (hg:=(gT Z));refine D 3 Z (DS.is 41 g Z Z Z (λ_ g=>?_) (λ_ g=>?_))
      .refine D 2 Z ?_;obtain⟨ay,R,g⟩:=QE g;refine DS.v (x:=(.p 2 (toNat d.2*4))) (Qd R Z EL EY) ?_ (hg:=(gT Z));refine DS.wo (x:=.p 2 (toNat d.2*4+3)) ?_ ?_
       .exact Ho (gT Z) iA Z Wp
       refine DS.v (x:=(I ay.BC)) (Ez Z EE Z (Qo (f:=3) R)) ?_ (hg:=(gT Z));refine D 2 Z ?_;obtain⟨az,T,g⟩:=QE g;refine DS.v (x:=(.p 1 (toNat (i64.wrap ((AI d.1:Int)-1))*5))) (Qd T Z ET Gd) ?_ (hg:=(gT Z));refine DS.wo (x:=.p 1 (toNat (i64.wrap ((AI d.1:Int)-1))*5+4)) ?_ ?_
       .exact Ho (gT Z) sM Z Wp
       refine DS.v (x:=(I az.A7)) (Ez Z EE Z (Qo (f:=4) T)) ?_ (hg:=(gT Z));exact au g
      exact au g
     exact au g
    exact au g
   exact au g
  refine Gx 1 Z (Ee ae (Bd m λt j m=>Ct t [0,1,2] [2,6,7] (λt=>[(5,.o 1 (AI t) 5)]) (λt=>[(1,.r 139 5 (map CM.c t))]) Zf ?_ (λenv H ae=>?_)))
  .refine G0 0 Z (Cn Z j (λ_ j=>?_) (λ_ j=>?_))
   .refine Gc 5 Z (Bd j λba V j=>?_);refine vX (.p 2 (toNat d.2*4)) (Qd V Z EL EY) ?_;refine Fp iA Z ?_;refine vX (I ba.BC) (Ez Z EE Z (Qo (f:=3) V)) ?_;refine Bd j λbd W j=>?_;refine vV (x:=(.p 1 (toNat (i64.wrap ((AI d.1:Int)-1))*5))) (Qd W Z ET Gd) ?_;refine Fp sM Z (Bd j λbe X j=>?_);refine vU (Yv (e:=CM.c) (k:=5) (f:=4) W X EC Z Z) ?_;refine FE Z ?_;refine Et (Q5 (s:=5) Z (congrArg (λn=>A.s 1 0 n 5) (Ym X))) ?_;exact au j
   refine DT 28 Z (D 3 Z ?_);obtain⟨B,Y,j⟩:=QE j;refine DS.v (x:=(.p 2 (toNat d.2*4))) (Qd Y Z EL EY) ?_;refine DS.wo (x:=.p 2 (toNat d.2*4)) ?_ ?_
   .exact Fp lJ Z Wp
   refine DS.v (x:=(I B.Al)) (Ez Z EE Z (Qh Y)) ?_;refine D 2 Z ?_;obtain⟨E,aa,j⟩:=QE j;refine DS.v (x:=(.p 2 (toNat d.2*4))) (Qd aa Z EL EY) ?_;refine DS.wo (x:=.p 2 (toNat d.2*4+1)) ?_ ?_
   .exact Fp lK Z Wp
   refine DS.v (x:=(I E.Ah)) (Ez Z EE Z (Qo (f:=1) aa)) ?_;refine D 2 Z ?_;obtain⟨F,ab,j⟩:=QE j;refine DS.v (x:=(.p 2 (toNat d.2*4))) (Qd ab Z EL EY) ?_;refine DS.wo (x:=.p 2 (toNat d.2*4+2)) ?_ ?_
   .exact Fp qG Z Wp
   refine DS.v (x:=(I F.BB)) (Ez Z EE Z (Qo (f:=2) ab)) ?_;refine D 2 Z ?_;obtain⟨G,ac,j⟩:=QE j;refine DS.v (x:=(.p 2 (toNat d.2*4))) (Qd ac Z EL EY) ?_;refine DS.wo (x:=.p 2 (toNat d.2*4+3)) ?_ ?_
   .exact Fp iA Z Wp
   refine DS.v (x:=(I G.BC)) (Ez Z EE Z (Qo (f:=3) ac)) ?_;refine D 2 Z ?_;obtain⟨J,ad,j⟩:=QE j;refine DS.v (x:=(.p 2 (toNat d.2*4))) (Qd ad Z EL EY) ?_;refine DS.wo (x:=.p 2 (toNat d.2*4+3)) ?_ ?_
   .exact Fp iA Z Wp
   refine DS.v (x:=(I J.BC)) (Ez Z EE Z (Qo (f:=3) ad)) ?_;refine D 1 Z ?_;refine DS.wo (x:=.q 5 (map CM.c [{Al:=B.Al,Ah:=E.Ah,BB:=F.BB,BT:=G.BC,A7:=J.BC:CM}])) ?_ ?_
   .refine vH (QP (xs:=[.tmp 119]) (es:=map CM.c [{Al:=B.Al,Ah:=E.Ah,BB:=F.BB,BT:=G.BC,A7:=J.BC:CM}]) ZU Z Z Z Z Z ⟨Z,trivial⟩ Z Z) ?_;exact FE Z Wp
   refine Eg Z (Bd j λbg am j=>vH (Qj (e:=CM.c) am ZU ET LT) ?_);exact au j
  exact Gx 2 Z (Ee ae (Gc 5 Z (QZ m (Lr [0,1,2]))))
 exact au h
def Tg(n:Nat)(q:Int)(f:AA CM)(d:(AA CM)×Int):AB (CG ((AA CM)×Int) (AA CM)):=(bif d.2<(AI f:Int) then AH (CJ f d.2) λg=>AH ((bif (g.BB==q)then AH (CJ f d.2) λh=>AH (app d.1 [h]) λj=>AC j else AC d.1):AB (AA CM)) λm=>AC (.k (m,i64.wrap (d.2+1)))else AC (.d d.1))
def Pu(f:CB)(g:AA CI)(h:Int):AB (AA CM):=AH (PH n f g) λj=>AH (iter (Tg n h j) n (([]:AA CM),0):AB (AA CM)) λd=>AC d
instance ji(F:CB)(G:AA CI)(J:Int):Kq (Pu n F G J) 27 [.a (CB.c F),.q 57 (map CI.c G),I J] [] (λr=>.o 0 (AI r) 5) (λr=>[.r 139 5 (map CM.c r)]):=by
 refine Kg 10 func27 Z Z Z Z λr h=>Cd [] h Kc Z λT N h=>Fg 5 Z Z (vH (Ek (xs:=[]) ZU Z Z Z Z Z trivial Z Z) (Fg 9 Z Z (Bd h λg L h=>Cg g [1] [] (λg=>[(8,.o 0 (AI g) 5)]) (λg=>[(0,.r 139 5 (map CM.c g))]) Zf ?_ ?_)))
 .refine G0 1 Z (Lp [1,2] [2,7] (λj=>[(8,.o 1 (AI j.1) 5),(9,I j.2)]) (λj=>[(1,.r 139 5 (map CM.c j.1))]) L Zf (Lr [1,2]) λj O d x=>?_);refine G0 9 Z (Q8 Z d (λ_ d=>?_) (λ_ d=>?_))
  .exact Gc 2 Z (QH d (Gx 1 Z (DV x d (Lr [1]))))
  refine Gc 8 Z (Bd d λP q d=>(vV (Qd q Z ET Gd) ?_));refine Fp sL Z ?_;refine vV (Ez Z EE Z (Qo q)) (Go 4 Z (Bd d λm f d=>Ct m [0,0] [2,7,9] (λm=>[(8,.o 1 (AI m) 5)]) (λm=>[(1,.r 139 5 (map CM.c m))]) Zf ?_ (λenv H M=>?_)))
  .refine G0 0 Z (Cn Z f (λ_ f=>?_) (λ_ f=>?_))
   .refine Gc 4 Z (Bd f λQ t f=>(vV (Qd t Z ET Gd) ?_));refine vV (Qs Z isAgg139 Gd Z (Qh t) Z Z) (vH (Ek (xs:=[.tmp 31]) ZU Z Z Z Z Z ⟨Z,trivial⟩ Z Z) ?_);refine FE Z (Bd f λR E f=>vH (Qj (e:=CM.c) E ZU ET (QC (i:=2))) ?_);exact au f
   exact au f
  exact Gx 2 Z (Ee M (Gc 5 Z (QZ d (Lr [0,1]))))
 exact au h
def nY(n:Nat)(f:(AA Int)×Int)(g:CI)(h:CI)(d:Int):AB (CG Int Int):=AH ((bif d<(AI f.1:Int) then AH (CJ f.1 d) λj=>AC (AG (j<(i64.wrap (g.Af.BJ+h.Ak.BJ))))else AC AD):AB Bool) λm=>(bif m then AC (.k (i64.wrap (d+1)))else AC (.d d))
def Tp(j:AA CI)(G:Int)(d:(AA Int)×Int):AB (CG ((AA Int)×Int) (AA Int)):=(bif d.2<(AI j:Int) then AH (AH (CJ j d.2) λm=>(bif (m.AW != G)then AC d.1 else AH (CJ j d.2) λg=>AH (CJ j d.2) λh=>AH (iter (nY n d g h) n 0:AB Int) λf=>AH ((bif f<(AI d.1:Int) then AH (CJ d.1 f) λq=>AC (q==(i64.wrap (g.Af.BJ+h.Ak.BJ)))else AC AD):AB Bool) λt=>(bif t then AC d.1 else AH (Dj d.1 f (AI d.1:Int)) λx=>AH (app [i64.wrap (g.Af.BJ+h.Ak.BJ)] x) λy=>AH (Dj d.1 0 f) λB=>AH (app B y) λE=>AC E)):AB (AA Int)) λF=>AC (.k (F,i64.wrap (d.2+1)))else AC (.d d.1))
def MJ(f:AA CI)(g:Int):AB (AA Int):=AH (iter (Tp n f g) n (([]:AA Int),0):AB (AA Int)) λd=>AC d
instance yg(a1:AA CI)(a2:Int):Kq (MJ n a1 a2) 201 [.q 57 (map CI.c a1),I a2] [] (λr=>.o 0 (AI r) 1) (λr=>[.r 3 1 (map eI r)]):=by
 refine Kg 7 func201 Z Z Z Z λr h=>vH (Ek (xs:=[]) (es:=map eI []) QF Z Z Z Z Z trivial Z Z) ?_;refine Fg 9 Z Z (Bd h λF ai h=>Cg F [0] [] (λF=>[(5,.o 0 (AI F) 1)]) (λF=>[(0,.r 3 1 (map eI F))]) Zf ?_ ?_)
 .refine G0 1 Z (Lp [0] [0,1] (λj=>[(5,.o 0 (AI j.1) 1),(6,I j.2)]) (λj=>[(0,.r 3 1 (map eI j.1))]) ai Zf (Lr [0]) λj am m T=>?_);refine G0 5 Z (Lg 3 Z Z (Q8 Z m (λ_ m=>?_) (λ_ m=>?_)))
  .exact Gc 2 Z (QH m (Gx 1 Z (DV T m (Lr [0]))))
  refine Gc 3 Z (Bd m λG g m=>Cg G [0] [0,1,6] (λG=>[(5,.o 0 (AI G) 1)]) (λG=>[(0,.r 3 1 (map eI G))]) Zf ?_ ?_)
  .refine G0 6 Z (Bd g λan W g=>Iz W Z (Go 6 Z (Cn Z g (λ_ g=>?_) (λ_ g=>?_))))
   .exact au g
   refine Gc 3 Z (DT 12 Z (D 2 Z ?_));obtain⟨d,Y,g⟩:=QE g;refine DS.wo (x:=.rp [I d.BE,I d.No,I d.At,I d.AW,I d.AP.BW,I d.AP.AN,I d.AP.A3,I d.AP.BK,I d.AP.B6,I d.AP.BB,I d.AP.Bl,I d.AP.B5,I d.A5.Al,I d.A5.Ah,I d.A5.BB,I d.A5.BC,I d.Aa.Al,I d.Aa.Ah,I d.Aa.BC,I d.Aa.True,I d.Aa.B7,I d.Ao.Bt,I d.Ao.Bg,I d.Ao.Bc,I d.Ao.Bs,I d.Ao.Bf,I d.Ao.Bb,I d.Ao.Bn,I d.Ao.Br,I d.Ae.BW,I d.Ae.AT,I d.Ae.Lo,I d.Ae.Hi,I d.Aq.Al,I d.Aq.Ah,I d.Aq.Lo,I d.Aq.Hi,I d.Be.A,I d.Be.B,I d.Ak.BJ,I d.Ak.BW,I d.Ak.AZ,I d.Ak.AT,I d.Av.BJ,I d.Av.By,I d.Av.Bk,I d.Av.B3,I d.Af.BJ,I d.Af.BX,I d.Af.AW,I d.Af.BW,I d.Af.AT,I d.Af.BO,I d.BD.BJ,.b d.BD.Bi,I d.Bp.BE,I d.Bp.No]) ?_ ?_
   .exact Ix Y ED EF Z Wp
   refine D 5 Z ?_;obtain⟨f,aa,g⟩:=QE g;refine DS.wo (x:=.rp [I f.BE,I f.No,I f.At,I f.AW,I f.AP.BW,I f.AP.AN,I f.AP.A3,I f.AP.BK,I f.AP.B6,I f.AP.BB,I f.AP.Bl,I f.AP.B5,I f.A5.Al,I f.A5.Ah,I f.A5.BB,I f.A5.BC,I f.Aa.Al,I f.Aa.Ah,I f.Aa.BC,I f.Aa.True,I f.Aa.B7,I f.Ao.Bt,I f.Ao.Bg,I f.Ao.Bc,I f.Ao.Bs,I f.Ao.Bf,I f.Ao.Bb,I f.Ao.Bn,I f.Ao.Br,I f.Ae.BW,I f.Ae.AT,I f.Ae.Lo,I f.Ae.Hi,I f.Aq.Al,I f.Aq.Ah,I f.Aq.Lo,I f.Aq.Hi,I f.Be.A,I f.Be.B,I f.Ak.BJ,I f.Ak.BW,I f.Ak.AZ,I f.Ak.AT,I f.Av.BJ,I f.Av.By,I f.Av.Bk,I f.Av.B3,I f.Af.BJ,I f.Af.BX,I f.Af.AW,I f.Af.BW,I f.Af.AT,I f.Af.BO,I f.BD.BJ,.b f.BD.Bi,I f.Bp.BE,I f.Bp.No]) ?_ ?_
   .exact Ix aa ED EF Z Wp
   refine D 3 Z (Eg Z (Go 10 Z (Bd g λt aj g=>?_)));refine Ct t [0] [0,1,5,6,7] (λt=>[(8,I t)]) Ze Zf ?_ (λenv H R=>?_)
   .refine G0 1 Z (Lp [0] [0,1,5,6,7] (λJ=>[(8,I J)]) Ze aj Zf (Lr [0]) λJ ao q ab=>?_);refine G0 2 Z (Bd q λL y q=>Ct L [0] [0,1,5,6,7,8] (λL=>[(48,.b L)]) Ze Zf ?_ (λenv H R=>?_))
    .refine G0 6 Z (Is 41 y Z (λ_ y=>?_) (λ_ y=>?_))
     .refine Go 2 Z (Bd y λak N y=>?_);refine vX (.p 0 (toNat J*1)) (Qd N Z EB EC) ?_ (gT Z);refine vX (I ak) (Ez Z EE Z (Qh N)) ?_ (gT Z);exact au y
     exact au y
    refine Gx 1 Z (Ee R (Q8 Z q (λ_ q=>?_) (λ_ q=>?_)))
    .exact Gc 2 Z (QH q (Gx 1 Z (DV ab q (Lr [0]))))
    exact au q
   refine Gx 1 Z (Ee R (Gc 2 Z (Bd g λM E g=>Cg M [0] [0,1,5,6,7,8] (λM=>[(62,.b M)]) Ze Zf ?_ ?_)))
   .refine G0 6 Z (Is 55 E Z (λ_ E=>?_) (λ_ E=>?_))
    .refine Go 2 Z (Bd E λal O E=>?_);refine vX (.p 0 (toNat t*1)) (Qd O Z EB EC) ?_ (gT Z);refine vX (I al) (Ez Z EE Z (Qh O)) ?_ (gT Z);exact au E
    exact au E
   refine Cn Z g (λ_ g=>?_) (λ_ g=>?_)
   .exact au g
   refine Gc 5 Z (vH (Ek (xs:=[.tmp 63]) (es:=map eI [i64.wrap (d.Af.BJ+f.Ak.BJ)]) QF Z Z Z Z Z ⟨Z,trivial⟩ Z Z) ?_);refine Fg 2 Z Z (Bd g λaq P g=>?_);refine vX (.s 0 (0+toNat t) (toNat (AI j.1:Int)-toNat t) 1) (QQ (l:=j.1) P EB EC (.inr ⟨_,Z,Z⟩) (.inl ⟨Z,Z⟩)) ?_;refine Bd g λar ag g=>vH (Qj (e:=eI) ag QF EB (LS (b:=0) P)) ?_;refine Fg 7 Z Z (Bd g λav Q g=>?_);refine vX (.s 0 (0+toNat 0) (toNat t-toNat 0) 1) (dp (l:=j.1) Q EB EC) ?_;refine Go 1 Z (Bd g λaw ah g=>vH (dm (e:=eI) Q ah QF EB (QC (i:=2))) ?_);exact au g
  exact au m
 exact au h
def T5(n:Nat)(g:AA CI)(y:AA Int)(f:(AA Ak)×Int)(d:Int):AB (CG Int (AA Ak)):=(bif d<(AI g:Int) then AH (AH (CJ g d) λh=>(bif (h.AW==8)then AH (CJ g d) λj=>AH (CJ y f.2) λm=>AC (j.Ak.BJ==m)else AC AD):AB Bool) λq=>(bif q then AH (CJ g d) λt=>AH (app f.1 [t.Ak]) λx=>AC (.d x)else AC (.k (i64.wrap (d+1))))else AC (.d f.1))
def Tc(h:AA CI)(g:AA Int)(d:(AA Ak)×Int):AB (CG ((AA Ak)×Int) (AA Ak)):=(bif d.2<(AI g:Int) then AH (iter (T5 n h g d) n 0:AB (AA Ak)) λf=>AC (.k (f,i64.wrap (d.2+1)))else AC (.d d.1))
def Md(g:AA CI):AB (AA Ak):=AH (Km n g) λf=>AH (MJ n f 8) λh=>AH (iter (Tc n f h) n (([]:AA Ak),0):AB (AA Ak)) λd=>AC d
instance y7(a1:AA CI):Kq (Md n a1) 133 [.q 57 (map CI.c a1)] [] (λr=>.o 0 (AI r) 4) (λr=>[.r 110 4 (map Ak.c r)]):=by
 refine Kg 8 func133 Z Z Z Z λr h=>Cd [] h Kc Z λr1 af h=>Fg 6 Z Z ?_;refine Et (Yk [(3,_),(9,_),(10,_)] Z Z (Cy.cons Z Ep (Cy.cons Z Ep (Cy.cons Z Ep Cy.nil))) (Ec (QU _))) ?_;refine Cd [] h Kc Z λr2 ag h=>Fg 5 Z Z (vH (Ek (xs:=[]) (es:=map Ak.c []) kl Z Z Z Z Z trivial Z Z) ?_);refine Fg 9 Z Z (Bd h λq W h=>Cg q [1] [] (λq=>[(5,.o 0 (AI q) 4)]) (λq=>[(0,.r 110 4 (map Ak.c q))]) Zf ?_ ?_)
 .refine G0 1 Z (Lp [1,2] [3,4] (λm=>[(5,.o 1 (AI m.1) 4),(6,I m.2)]) (λm=>[(1,.r 110 4 (map Ak.c m.1))]) W Zf (Lr [1,2]) λm ac j L=>?_);refine G0 9 Z (Q8 Z j (λ_ j=>?_) (λ_ j=>?_))
  .exact Gc 2 Z (QH j (Gx 1 Z (DV L j (Lr [1]))))
  refine Gc 9 Z (Bd j λt X j=>Ct t [0,1] [3,4,6] (λt=>[(5,.o 1 (AI t) 4)]) (λt=>[(1,.r 110 4 (map Ak.c t))]) Zf ?_ (λenv H G=>?_))
  .refine G0 1 Z (Lp [0,1] [3,4,5,6] (λJ=>[(7,I J)]) Ze X Zf (Lr [0,1]) λJ ad f E=>?_);refine G0 5 Z (Lg 3 Z Z (Q8 Z f (λ_ f=>?_) (λ_ f=>?_)))
   .exact Gc 2 Z (QH f (Gx 1 Z (DV E f (Lr [0,1]))))
   refine Gc 5 Z (Bd f λy g f=>Ct y [0,1] [3,4,5,6,7] (λy=>[(43,.b y)]) Ze Zf ?_ (λenv H G=>?_))
   .refine G0 0 Z (DT 17 Z (D 2 Z ?_));obtain⟨d,O,g⟩:=QE g;refine DS.wo (x:=.rp [I d.BE,I d.No,I d.At,I d.AW,I d.AP.BW,I d.AP.AN,I d.AP.A3,I d.AP.BK,I d.AP.B6,I d.AP.BB,I d.AP.Bl,I d.AP.B5,I d.A5.Al,I d.A5.Ah,I d.A5.BB,I d.A5.BC,I d.Aa.Al,I d.Aa.Ah,I d.Aa.BC,I d.Aa.True,I d.Aa.B7,I d.Ao.Bt,I d.Ao.Bg,I d.Ao.Bc,I d.Ao.Bs,I d.Ao.Bf,I d.Ao.Bb,I d.Ao.Bn,I d.Ao.Br,I d.Ae.BW,I d.Ae.AT,I d.Ae.Lo,I d.Ae.Hi,I d.Aq.Al,I d.Aq.Ah,I d.Aq.Lo,I d.Aq.Hi,I d.Be.A,I d.Be.B,I d.Ak.BJ,I d.Ak.BW,I d.Ak.AZ,I d.Ak.AT,I d.Av.BJ,I d.Av.By,I d.Av.Bk,I d.Av.B3,I d.Af.BJ,I d.Af.BX,I d.Af.AW,I d.Af.BW,I d.Af.AT,I d.Af.BO,I d.BD.BJ,.b d.BD.Bi,I d.Bp.BE,I d.Bp.No]) ?_ ?_
    .exact Ix O ED EF Z Wp
    refine D 4 Z (DS.is 6 g Z Z Z (λ_ g=>?_) (λ_ g=>?_))
    .refine D 2 Z ?_;obtain⟨Y,Q,g⟩:=QE g;refine DS.v (M4 (e:=CI.c) (l:=r1) (v:=Y) Q ED EF) ?_ (hg:=(gT Z));refine D 5 Z ?_;obtain⟨aa,F,g⟩:=QE g;refine DS.v (x:=(.p 0 (toNat m.2*1))) (Qd F Z EB EC) ?_ (hg:=(gT Z));refine DS.v (x:=(I aa)) (Ez Z EE Z (Qh F)) ?_ (hg:=(gT Z));exact au g
    exact au g
   refine Gx 1 Z (Ee G (Cn Z f (λ_ f=>?_) (λ_ f=>?_)))
   .refine Gc 5 Z (Bd f λab T f=>Iz T Z (Go 2 Z (vH (Ek (xs:=[.tmp 49]) (es:=map Ak.c [ab.Ak]) kl Z Z Z Z Z ⟨Z,trivial⟩ Z Z) ?_)));refine FE Z (Bd f λae V f=>vH (Qj (e:=Ak.c) V kl Gm (QC (i:=2))) ?_);refine Fg 6 Z Z (QH f ?_);obtain rfl:=Oj E f;exact Gx 1 Z (Nt (Lr [0,3]))
   exact au f
  exact Gx 2 Z (Ee G (Gc 5 Z (QZ j (Lr [0,1]))))
 exact au h
def nq(n:Nat)(f:AA Int)(j:Int)(d:Int):AB (CG Int Int):=AH ((bif d<(AI f:Int) then AH (CJ f d) λg=>AC (AG (g<j))else AC AD):AB Bool) λh=>(bif h then AC (.k (i64.wrap (d+1)))else AC (.d d))
def MT(d:AA Int)(g:Int):AB (AA Int):=AH (iter (nq n d g) n 0:AB Int) λf=>AH ((bif f<(AI d:Int) then AH (CJ d f) λh=>AC (h==g)else AC AD):AB Bool) λj=>(bif j then AC d else AH (Dj d f (AI d:Int)) λm=>AH (app [g] m) λq=>AH (Dj d 0 f) λt=>AH (app t q) λx=>AC x)
instance yq(j:AA Int)(R:Int):Kq (MT n j R) 134 [.o 0 (AI j) 1,I R] [.r 3 1 (map eI j)] (λr=>.o 1 (AI r) 1) (λr=>[.dead,.r 3 1 (map eI r)]):=by
 refine Kg 11 func134 Z Z Z Z λr h=>Bd h λm T h=>Ct m [0] [0,1] (λm=>[(5,I m)]) Ze Zf ?_ (λenv H q=>?_)
 .refine G0 1 Z (Lp [0] [0,1] (λG=>[(5,I G)]) Ze T Zf (Lr [0]) λG V d J=>?_);refine G0 2 Z (Bd d λt f d=>Ct t [0] [0,1,5] (λt=>[(18,.b t)]) Ze Zf ?_ (λenv H q=>?_))
  .refine G0 6 Z (Is 11 f Z (λ_ f=>?_) (λ_ f=>?_))
   .refine Go 2 Z (Bd f λW x f=>?_);refine vV (Qd x Z EB EC) ?_ (gT Z);refine vV (Ez Z EE Z (Qh x)) ?_ (gT Z);exact au f
   exact au f
  refine Gx 1 Z (Ee q (Q8 Z d (λ_ d=>?_) (λ_ d=>?_)))
  .exact Gc 2 Z (QH d (Gx 1 Z (DV J d (Lr [0]))))
  exact au d
 refine Gx 1 Z (Ee q (Gc 2 Z (Bd h λy g h=>Cg y [0] [0,1,5] (λy=>[(32,.b y)]) Ze Zf ?_ ?_)))
 .refine G0 6 Z (Is 25 g Z (λ_ g=>?_) (λ_ g=>?_))
  .refine Go 2 Z (Bd g λX B g=>?_);refine vV (Qd B Z EB EC) ?_ (gT Z);refine vV (Ez Z EE Z (Qh B)) ?_ (gT Z);exact au g
  exact au g
 refine Cn Z h (λ_ h=>?_) (λ_ h=>?_)
 .refine Gc 8 Z ?_;obtain rfl:=Oi h;refine R1 4 Z ?_;refine En (mS (s:=4) (i:=0) Z Z Z) ?_;exact Lr [0,1]
 refine Gc 5 Z (vH (Ek (xs:=[.tmp 34]) QF Z Z Z Z Z ⟨Z,trivial⟩ Z Z) ?_);refine Fg 2 Z Z (Bd h λY E h=>?_);refine vV (QQ (l:=j) E EB EC (.inr ⟨_,Z,Z⟩) (.inl ⟨Z,Z⟩)) ?_;refine Bd h λaa P h=>vH (Qj P QF EB (LS (b:=0) E)) ?_;refine Fg 8 Z Z (Bd h λab F h=>?_);refine vV (dp (l:=j) F EB EC) ?_;refine Go 1 Z (Bd h λac Q h=>vH (dm F Q QF EB (QC (i:=2))) ?_);exact au h
def MD(n:Nat)(f:AA CI)(q:Int)(t:Int)(d:Int):AB (CG Int (CG Unit Int)):=(bif d<(AI f:Int) then AH (AH (CJ f d) λg=>(bif (g.AW==10)then AH (CJ f d) λh=>(bif (h.Af.BJ==q)then AH (CJ f d) λj=>AC (j.Af.BX==t)else AC AD)else AC AD):AB Bool) λm=>(bif m then AC (.d (.d d))else AC (.k (i64.wrap (d+1))))else AC (.d (.k ())))
def IE(g:AA CI)(h:Int)(j:Int):AB Int:=AH (iter (MD n g h j) n 0:AB (CG Unit Int)) λf=>match f with|.k d=>(AC (-1))|.d d=>AC d
instance zg(d:AA CI)(f:Int)(g:Int):Ks (IE n d f g) 274 [.q 57 (map CI.c d),I f,I g] [] (λr=>I r):=KA func274
def VX(n:Nat)(f:AA CI)(q:Int)(d:Int):AB (CG Int (CG Unit Bool)):=(bif d<(AI f:Int) then AH (AH (CJ f d) λg=>(bif (g.AW==11)then AH (CJ f d) λh=>(bif (h.BD.BJ==q)then AH (CJ f d) λj=>AC j.BD.Bi else AC AD)else AC AD):AB Bool) λm=>(bif m then AC (.d (.d AE))else AC (.k (i64.wrap (d+1))))else AC (.d (.k ())))
def Pa(f:AA CI)(g:Int):AB Bool:=AH (AH (IE n f g 1) λj=>(bif j<0 then AC AE else AH (IE n f g 2) λm=>AC (AG (0<=m))):AB Bool) λq=>(bif q then AC AD else AH (iter (VX n f g) n 0:AB (CG Unit Bool)) λh=>match h with|.k d=>(AC AD)|.d d=>AC d)
instance yX(d:AA CI)(f:Int):Ks (Pa n d f) 273 [.q 57 (map CI.c d),I f] [] (λr=>.b r):=KA func273
def J4(d:AA CI)(f:Int):AB Int:=AH (Pa n d f) λh=>(bif h then AC (-1)else AH (IE n d f 2) λg=>(bif 0<=g then AC g else AH (IE n d f 1) λj=>AC j))
instance zT(d:AA CI)(f:Int):Ks (J4 n d f) 202 [.q 57 (map CI.c d),I f] [] (λr=>I r):=KA func202
def TG(g:AA CI)(h:AA Int)(d:(AA Af)×Int):AB (CG ((AA Af)×Int) (AA Af)):=(bif d.2<(AI h:Int) then AH (CJ h d.2) λj=>AH (J4 n g j) λf=>AH ((bif 0<=f then AH (CJ g f) λm=>AH (app d.1 [m.Af]) λq=>AC q else AC d.1):AB (AA Af)) λt=>AC (.k (t,i64.wrap (d.2+1)))else AC (.d d.1))
def OX(g:AA CI):AB (AA Af):=AH (Km n g) λd=>AH (MJ n d 10) λh=>AH (iter (TG n d h) n (([]:AA Af),0):AB (AA Af)) λf=>AC f
instance xS(F:AA CI):Kq (OX n F) 135 [.q 57 (map CI.c F)] [] (λr=>.o 0 (AI r) 6) (λr=>[.r 114 6 (map Af.c r)]):=by
 refine Kg 8 func135 Z Z Z Z λr h=>Cd [] h Kc Z λV M h=>Fg 6 Z Z ?_;refine Et (Yk [(3,_),(9,_),(10,_)] Z Z (Cy.cons Z Ep (Cy.cons Z Ep (Cy.cons Z Ep Cy.nil))) (Ec (QU _))) (Cd [] h Kc Z λW N h=>Fg 5 Z Z (vH (Ek (xs:=[]) km Z Z Z Z Z trivial Z Z) ?_));refine Fg 9 Z Z (Bd h λg G h=>Cg g [1] [] (λg=>[(5,.o 0 (AI g) 6)]) (λg=>[(0,.r 114 6 (map Af.c g))]) Zf ?_ ?_)
 .refine G0 1 Z (Lp [1,2] [3,4] (λj=>[(5,.o 1 (AI j.1) 6),(6,I j.2)]) (λj=>[(1,.r 114 6 (map Af.c j.1))]) G Zf (Lr [1,2]) λj O d t=>?_);refine G0 9 Z (Q8 Z d (λ_ d=>?_) (λ_ d=>?_))
  .exact Gc 2 Z (QH d (Gx 1 Z (DV t d (Lr [1]))))
  refine Gc 9 Z (Bd d λP q d=>(vV (Qd q Z EB EC) ?_));refine vV (Ez Z EE Z (Qh q)) ?_;refine Cz [] d Kc Z λQ L d=>Go 9 Z (Bd d λm f d=>Ct m [0,0] [3,4,6] (λm=>[(5,.o 1 (AI m) 6)]) (λm=>[(1,.r 114 6 (map Af.c m))]) Zf ?_ (λenv H J=>?_))
  .refine G0 0 Z (Cn Z f (λ_ f=>?_) (λ_ f=>?_))
   .refine Gc 4 Z (Bd f λR B f=>Iz B Z (Go 2 Z (vH (Ek (xs:=[.tmp 32]) km Z Z Z Z Z ⟨Z,trivial⟩ Z Z) ?_)));refine FE Z (Bd f λT E f=>vH (Qj (e:=Af.c) E km GQ (QC (i:=2))) ?_);exact au f
   exact au f
  exact Gx 2 Z (Ee J (Gc 5 Z (QZ d (Lr [0,1]))))
 exact au h
def O8(g:AA CI)(h:Int):AB (Af×Bool):=AH (Km n g) λd=>AH (J4 n d h) λf=>(bif f<0 then AC (UF,AD)else AH (CJ d f) λj=>AC (j.Af,AE))
instance xw(f:AA CI)(g:Int):Kq (O8 n f g) 203 [.q 57 (map CI.c f),I g] [] (λr=>.t [.a (Af.c r.1),.b r.2]) (λr=>[.c 114 (Af.c r.1)]):=by
 refine Kg 9 func203 Z Z Z Z λr h=>Cd [] h Kc Z λt m h=>Fg 7 Z Z (Cb h Kc Z (lo (ls ln)) λx q h=>Go 10 Z (Cn Z h (λ_ h=>?_) (λ_ h=>?_)))
 .exact au h
 refine Gc 6 Z (Bd h λy d h=>(vV (Qd d Z ED EF) ?_));refine Fp Qml Z (vV (Qs Z isAgg114 GV Z (Qo d) Z Z) ?_);exact au h
def UT(n:Nat)(j:Int)(f:AA Ak)(d:Int):AB (CG Int (CG Unit (Ak×Bool))):=(bif d<(AI f:Int) then AH (CJ f d) λg=>(bif (g.BJ==j)then AH (CJ f d) λh=>AC (.d (.d (h,AE)))else AC (.k (i64.wrap (d+1))))else AC (.d (.k ())))
def PA(g:AA CI)(h:Int):AB (Ak×Bool):=AH (Md n g) λj=>AH (iter (UT n h j) n 0:AB (CG Unit (Ak×Bool))) λf=>match f with|.k d=>(AC (UE,AD))|.d d=>AC d
instance x9(x:AA CI)(y:Int):Kq (PA n x y) 204 [.q 57 (map CI.c x),I y] [] (λr=>.t [.a (Ak.c r.1),.b r.2]) (λr=>[.c 110 (Ak.c r.1)]):=by
 refine Kg 9 func204 Z Z Z Z λr h=>Cd [] h Kc Z λN H h=>Fg 9 Z Z (Bd h λB E h=>D_ (b:=B) [0] [4] Ze Ze Zf ?_ (λ_ F=>?_))
 .refine G0 1 Z (Lp [0,1] [1,4,6] (λm=>[(7,I m)]) Ze E Zf (Lr [0,1]) λm J d f=>(G0 9 Z (Q8 Z d (λ_ d=>?_) (λ_ d=>?_))))
  .exact Jd f d
  refine Gc 8 Z (Bd d λL g d=>(vV (Qd g Z Gm GM) ?_));refine Fp sJ Z (vV (Ez Z EE Z (Qh g)) ?_);refine Go 4 Z (Cn Z d (λ_ d=>?_) (λ_ d=>?_))
  .refine Gc 4 Z (Bd d λM j d=>(vV (Qd j Z Gm GM) ?_));refine vV (Qs Z isAgg110 GM Z (Qh j) Z Z) (Go 7 Z (I7 d ?_));obtain rfl:=Oj f d;exact au h
  exact au d
 subst F;exact au h
def Py(j:CB)(m:AA CI)(q:Int):AB (Int×CF×Bool):=AH (O8 n m q) λd=>AH ((bif d.2 then(bif (d.1.AW==3)then AC (.d (d.1.BW,{AT:=d.1.AT,BU:=d.1.BO,As:=0,BM:=AD:CF},AE))else(bif (d.1.AW==4)then AC (.d (d.1.BW,{AT:=d.1.AT,BU:=0,As:=d.1.BO,BM:=AD:CF},AE))else(bif (d.1.AW==5)then AC (.d (d.1.BW,{AT:=d.1.AT,BU:=0,As:=0,BM:=AE:CF},AE))else(bif (d.1.AW==2)then AC (.d (0,UB,AD))else AC (.k ())))))else AC (.k ())):AB (CG Unit (Int×CF×Bool))) λx=>match x with|.k h=>(AH (PA n m q) λf=>AH ((bif (!f.2)then AC AE else(bif f.1.AZ<0 then AC AE else AC (AG ((AI j.Ab:Int)<=f.1.AZ)))):AB Bool) λt=>(bif t then AC (0,UB,AD)else AH (CJ j.Ab f.1.AZ) λg=>AC (f.1.BW,{AT:=f.1.AT,BU:=g.BU,As:=g.As,BM:=g.BM:CF},AE)))|.d h=>AC h
instance jp(t:CB)(x:AA CI)(y:Int):Kq (Py n t x y) 136 [.a (CB.c t),.q 57 (map CI.c x),I y] [] (λr=>.t [I r.1,.a (CF.c r.2.1),.b r.2.2]) (λr=>[.c 50 (CF.c r.2.1)]):=by
 refine Kg 12 func136 Z Z Z Z λr h=>Cd [] h Kc Z λO L h=>Fg 14 Z Z (Bd h λG d h=>Fb (b:=G) [0,1] [1,2,3,7] Ze Ze Zf ?_ (λM env H hb B=>?_))
 .refine G0 0 Z (Cn Z d (λ_ d=>?_) (λ_ d=>?_))
  .refine Gc 13 Z (Cn Z d (λ_ d=>?_) (λ_ d=>?_))
   .refine Gc 1 Z (DT 8 Z (D 8 Z (Eg Z (Go 6 Z ?_))));cases d;exact au h
   refine Gc 6 Z (Cn Z d (λ_ d=>?_) (λ_ d=>?_))
   .refine Gc 1 Z (DT 8 Z (D 8 Z (Eg Z (Go 6 Z ?_))));cases d;exact au h
   refine Gc 6 Z (Cn Z d (λ_ d=>?_) (λ_ d=>?_))
   .refine Gc 1 Z (DT 6 Z (D 6 Z (Eg Z (Go 6 Z ?_))));cases d;exact au h
   refine Gc 6 Z (Cn Z d (λ_ d=>?_) (λ_ d=>?_))
   .refine Gc 10 Z ?_;cases d;exact au h
   refine Gc 2 Z ?_;cases d;exact KW Z (Lr [0,1])
  refine Gc 1 Z ?_;cases d;exact KW Z (Lr [0,1])
 subst hb;refine Gx 1 Z (Ee B (Gc 4 Z (Cd [] h Kc Z λN J h=>Fg 10 Z Z (Bd h λf F h=>Cg f [0,1,3] [3,7,11] (λf=>[(71,.b f)]) Ze Zf ?_ ?_))))
 .exact au F
 exact au h
def TF(f:AA Ak)(d:(AA Int)×Int):AB (CG ((AA Int)×Int) (AA Int)):=(bif d.2<(AI f:Int) then AH (CJ f d.2) λg=>AH (MT n d.1 g.BJ) λh=>AC (.k (h,i64.wrap (d.2+1)))else AC (.d d.1))
def Tz(f:AA Af)(d:(AA Int)×Int):AB (CG ((AA Int)×Int) (AA Int)):=(bif d.2<(AI f:Int) then AH (CJ f d.2) λg=>AH (MT n d.1 g.BJ) λh=>AC (.k (h,i64.wrap (d.2+1)))else AC (.d d.1))
def VS(y:CB)(B:AA CI)(E:Int)(f:AA Int)(d:(AA Int)×(AA CF)×Int):AB (CG ((AA Int)×(AA CF)×Int) ((AA Int)×(AA CF))):=(bif d.2.2<(AI f:Int) then AH (CJ f d.2.2) λj=>AH (Py n y B j) λg=>AH ((bif g.2.2 then AC (g.1==E)else AC AD):AB Bool) λm=>AH ((bif m then AH (CJ f d.2.2) λq=>AH (app d.1 [q]) λt=>AH (app d.2.1 [g.2.1]) λx=>AC (t,x)else AC (d.1,d.2.1)):AB ((AA Int)×(AA CF))) λh=>AC (.k (h.1,h.2,i64.wrap (d.2.2+1)))else AC (.d (d.1,d.2.1)))
def Pe(g:CB)(f:AA CI)(q:Int):AB ((AA Int)×(AA CF)):=AH (HQ n g) λt=>(bif (t != 0)then AC ([],[])else AH (Md n f) λx=>AH (iter (TF n x) n (([]:AA Int),0):AB (AA Int)) λh=>AH (OX n f) λj=>AH (iter (Tz n j) n (h,0):AB (AA Int)) λm=>AH (iter (VS n g f q m) n (([]:AA Int),([]:AA CF),0):AB ((AA Int)×(AA CF))) λd=>AC (d.1,d.2))
instance yb(J:CB)(W:AA CI)(a3:Int):Kq (Pe n J W a3) 76 [.a (CB.c J),.q 57 (map CI.c W),I a3] [] (λr=>.t [.o 0 (AI r.1) 1,.o 1 (AI r.2) 4]) (λr=>[.r 3 1 (map eI r.1),.r 50 4 (map CF.c r.2)]):=by
 refine Kg 11 func76 Z Z Z Z λr h=>Cz [] h Kc Z λr1 aq h=>Go 3 Z (Cn Z h (λ_ h=>?_) (λ_ h=>?_))
 .refine Gc 8 Z ?_;obtain rfl:=Oi h;refine R2 6 7 Z Z ?_;refine En (Er (s:=6) (k:=1) (t:=3) (XR Z) Z) ?_;refine En (Er (s:=7) (k:=4) (t:=50) (XR Z) Z) ?_;exact Lr [1,2]
 refine Gc 4 Z (vH (Ek (xs:=[]) (es:=map eI []) QF Z Z Z Z Z trivial Z Z) ?_);refine Fg 6 Z Z (Cd [] h Kc Z λr3 ar h=>Fg 9 Z Z (Bd h λM ai h=>Ct M [0,1] [1,2,3] (λM=>[(8,.o 1 (AI M) 1)]) (λM=>[(1,.r 3 1 (map eI M))]) Zf ?_ (λenv H y=>?_)))
 .refine G0 1 Z (Lp [0,1,2] [1,2,3,9] (λF=>[(8,.o 1 (AI F.1) 1),(10,I F.2)]) (λF=>[(1,.r 3 1 (map eI F.1))]) ai Zf (Lr [0,1,2]) λF av q X=>?_);refine G0 9 Z (Q8 Z q (λ_ q=>?_) (λ_ q=>?_))
  .exact Gc 2 Z (QH q (Gx 1 Z (DV X q (Lr [0,1]))))
  refine Gc 8 Z (Bd q λaj N q=>?_);refine vX (.p 2 (toNat F.2*4)) (Qd N Z Gm GM) ?_;refine Fp sJ Z ?_;refine vX (I aj.BJ) (Ez Z EE Z (Qh N)) ?_;exact au q
 refine Gx 1 Z (Ee y (Gc 3 Z (Cd [] h Kc Z λaw ao h=>Fg 9 Z Z (Bd h λj ak h=>Ct j [0,1] [1,2,3] (λj=>[(8,.o 1 (AI j) 1)]) (λj=>[(1,.r 3 1 (map eI j))]) Zf ?_ (λenv H y=>?_)))))
 .refine G0 1 Z (Lp [0,1,2] [1,2,3,11] (λG=>[(8,.o 1 (AI G.1) 1),(12,I G.2)]) (λG=>[(1,.r 3 1 (map eI G.1))]) ak Zf (Lr [0,1,2]) λG ax x aa=>?_);refine G0 9 Z (Q8 Z x (λ_ x=>?_) (λ_ x=>?_))
  .exact Gc 2 Z (QH x (Gx 1 Z (DV aa x (Lr [0,1]))))
  refine Gc 8 Z (Bd x λal O x=>?_);refine vX (.p 2 (toNat G.2*6)) (Qd O Z GQ GV) ?_;refine Fp Qos Z ?_;refine vX (I al.BJ) (Ez Z EE Z (Qh O)) ?_;exact au x
 refine Gx 1 Z (Ee y (Gc 2 Z (vH (Ek (xs:=[]) (es:=map eI []) QF Z Z Z Z Z trivial Z Z) ?_)));refine Fg 5 Z Z (vH (Ek (xs:=[]) (es:=map CF.c []) I5 Z Z Z Z Z trivial Z Z) ?_);refine Fg 9 Z Z (Bd h λB am h=>Cg B [2,3] [] (λB=>[(13,.o 0 (AI B.1) 1),(14,.o 1 (AI B.2) 4)]) (λB=>[(0,.r 3 1 (map eI B.1)),(1,.r 50 4 (map CF.c B.2))]) Zf ?_ ?_)
 .refine G0 1 Z (Lp [0,1,2,3] [1,2,3,8] (λd=>[(13,.o 2 (AI d.1) 1),(14,.o 3 (AI d.2.1) 4),(15,I d.2.2)]) (λd=>[(2,.r 3 1 (map eI d.1)),(3,.r 50 4 (map CF.c d.2.1))]) am Zf (Lr [0,1,2,3]) λd ay g ac=>?_);refine G0 9 Z (Q8 Z g (λ_ g=>?_) (λ_ g=>?_))
  .exact Gc 2 Z (QH g (Gx 1 Z (DV ac g (Lr [2,3]))))
  refine Gc 5 Z ?_;obtain⟨P,L,g⟩:=QE g;obtain⟨f,Q,g⟩:=QE g;refine Yu 14 1 [62,63,64,65,66,67,68,61,69,70,71,17,16,1000013] [AD,AD,AD,AD,AD,AD,AE,AD,AD,AD,AD,AE,AD,AE] [[],[],[],[],[],[],[],[6],[6],[6],[6],[],[6,11],[6,11]] [[],[6],[11],[6,11],[6,11,13]] [[(0,0),(2,2)],[(0,0),(2,2)],[(0,0),(2,2)],[(0,0),(2,2)],[(0,0),(2,2)],[(0,0),(2,2)],[(0,1),(2,3)],[(1,1),(3,3)],[(1,1),(3,3)],[(1,1),(3,3)],[(1,1),(3,3),(4,4)],[(0,2),(1,3)],[(3,3)],[(3,4)]] [.a (CB.c J),.q 57 (map CI.c W),.o 1 (AI j) 1,I d.2.2,.p 1 (toNat d.2.2*1),I P,.t [I f.1,.a (CF.c f.2.1),.b f.2.2],.t [I f.1,.a (CF.c f.2.1),.b f.2.2],I f.1,.a (CF.c f.2.1),.b f.2.2,.p 4 0,I f.1,.any] [[.c 33 (CB.c J),.r 3 1 (map eI j),.r 3 1 (map eI d.1),.r 50 4 (map CF.c d.2.1),.dead],[.c 33 (CB.c J),.r 3 1 (map eI j),.r 3 1 (map eI d.1),.r 50 4 (map CF.c d.2.1),.dead,.c 50 (CF.c f.2.1)],[.c 33 (CB.c J),.r 3 1 (map eI j),.r 3 1 (map eI d.1),.r 50 4 (map CF.c d.2.1),.c 50 (CF.c UB)],[.c 33 (CB.c J),.r 3 1 (map eI j),.r 3 1 (map eI d.1),.r 50 4 (map CF.c d.2.1),.c 50 (CF.c UB),.c 50 (CF.c f.2.1)],[.c 33 (CB.c J),.r 3 1 (map eI j),.r 3 1 (map eI d.1),.r 50 4 (map CF.c d.2.1),.c 50 (CF.c f.2.1),.c 50 (CF.c f.2.1)]] ([.c 33 (CB.c J),.r 3 1 (map eI j),.r 3 1 (map eI d.1),.r 50 4 (map CF.c d.2.1),.c 50 (CF.c f.2.1),.c 50 (CF.c f.2.1)]) DD Z Z Z Z Z Z Z ?_ Z ?_
  .refine M1 (M1 (M1 (M1 (Cq.cons ?_ (Cq.cons ?_ (Cq.cons ?_ (M1 (M1 (M1 (M1 (Cq.cons ?_ (M1 (Cq.cons ?_ (Cq.nil))))))))))))))
   .refine Qb ?_ (Qb ?_ (Qf))
    iterate 2 refine Om Z (sD 2 (sD 3 sN)) ?_;refine vX (.p 1 (toNat d.2.2*1)) (Qd L Z EB EC) ?_;exact Wp
   .refine Qb ?_ (Qb ?_ (Qf))
    iterate 2 refine Om Z (sD 4 sN) ?_;refine vX (I P) (Ez Z EE Z (Qh L)) ?_;exact Wp
   .refine Qb ?_ (Qb ?_ (Qf))
    iterate 2 refine F4 Z (sD 0 (sD 1 (sD 5 sN))) ?_;refine Qg [] (C7.fn call136 Z Z Z) ((jp _ _ _ _).c _ Q) ?_;rintro _ _ ⟨rfl,rfl⟩;exact FE Z Wp
   .refine Qb ?_ (Qb ?_ (Qf))
    iterate 2 exact Jl.alloc _ 17 50 4 _ Z Z Z Z Z Z Z (I8.alloc (v:=(.a [I 0,I 0,I 0,.b AD])) zeroValue50 (Fr Z)) Z
   .refine Qb ?_ (Qf)
    .refine S9 Z (sD 11 (sD 9 sN)) ?_;refine vU (Ey Z Z Z Gf Z Z Z Z Z Z Z) ?_;exact FE Z Wp
  refine Go 4 Z (Bd g λR an g=>Ct R [0,1,2,3,4] [1,2,3,8,13,14,15,17] (λR=>[(77,.b R)]) Ze Zf ?_ (λenv H y=>?_))
  .exact au an
  refine Gx 1 Z (Ee y (Bd g λE m g=>Ct E [0,1,0,0] [1,2,3,8,15] (λE=>[(13,.o 2 (AI E.1) 1),(14,.o 3 (AI E.2) 4)]) (λE=>[(2,.r 3 1 (map eI E.1)),(3,.r 50 4 (map CF.c E.2))]) Zf ?_ (λenv H y=>?_)))
  .refine G0 0 Z (Cn Z m (λ_ m=>?_) (λ_ m=>?_))
   .refine Gc 5 Z (Bd m λV T m=>?_);refine vX (.p 1 (toNat d.2.2*1)) (Qd T Z EB EC) ?_;refine vX (I V) (Ez Z EE Z (Qh T)) ?_;refine vH (Ek (xs:=[.tmp 82]) (es:=map eI [V]) QF Z Z Z Z Z ⟨Z,trivial⟩ Z Z) ?_;refine FE Z (Bd m λaz af m=>vH (Qj (e:=eI) af QF EB (QC (i:=5))) ?_);refine Fg 6 Z Z (vH (Ek (xs:=[.tmp 86]) (es:=map CF.c [f.2.1]) I5 Z Z Z Z Z ⟨Z,trivial⟩ Z Z) ?_);refine FE Z (Bd m λba ag m=>vH (Qj (e:=CF.c) ag I5 EO (QC (i:=7))) ?_);exact au m
   exact au m
  exact Gx 2 Z (Ee y (Gc 5 Z (QZ g (Lr [0,1,2,3]))))
 exact au h
def nr(n:Nat)(m:AA CF)(f:(AA CF)×Int)(d:Int):AB (CG Int Int):=AH ((bif d<(AI f.1:Int) then AH (CJ f.1 d) λg=>AH (CJ m f.2) λh=>AC (AG (g.AT<=h.AT))else AC AD):AB Bool) λj=>(bif j then AC (.k (i64.wrap (d+1)))else AC (.d d))
def Ti(g:AA CF)(d:(AA CF)×Int):AB (CG ((AA CF)×Int) (AA CF)):=(bif d.2<(AI g:Int) then AH (iter (nr n g d) n 0:AB Int) λf=>AH (CJ g d.2) λh=>AH (Dj d.1 f (AI d.1:Int)) λj=>AH (app [h] j) λm=>AH (Dj d.1 0 f) λq=>AH (app q m) λt=>AC (.k (t,i64.wrap (d.2+1)))else AC (.d d.1))
def O0(f:AA CF):AB (AA CF):=AH (iter (Ti n f) n (([]:AA CF),0):AB (AA CF)) λd=>AC d
instance xm(Q:AA CF):Kq (O0 n Q) 77 [.q 4 (map CF.c Q)] [] (λr=>.o 0 (AI r) 4) (λr=>[.r 50 4 (map CF.c r)]):=by
 refine Kg 7 func77 Z Z Z Z λr h=>vH (Ek (xs:=[]) (es:=map CF.c []) I5 Z Z Z Z Z trivial Z Z) ?_;refine Fg 9 Z Z (Bd h λB Y h=>Cg B [0] [] (λB=>[(3,.o 0 (AI B) 4)]) (λB=>[(0,.r 50 4 (map CF.c B))]) Zf ?_ ?_)
 .refine G0 1 Z (Lp [0] [0] (λj=>[(3,.o 0 (AI j.1) 4),(4,I j.2)]) (λj=>[(0,.r 50 4 (map CF.c j.1))]) Y Zf (Lr [0]) λj af d R=>?_);refine G0 5 Z (Lg 3 Z Z (Q8 Z d (λ_ d=>?_) (λ_ d=>?_)))
  .exact Gc 2 Z (QH d (Gx 1 Z (DV R d (Lr [0]))))
  refine Gc 10 Z (Bd d λm V d=>Cg m [0] [0,3,4] (λm=>[(5,I m)]) Ze Zf ?_ ?_)
  .refine G0 1 Z (Lp [0] [0,3,4] (λt=>[(5,I t)]) Ze V Zf (Lr [0]) λt aa g H=>?_);refine G0 2 Z (Bd g λE f g=>Cg E [0] [0,3,4,5] (λE=>[(30,.b E)]) Ze Zf ?_ ?_)
   .refine G0 0 Z (DT 15 Z (D 5 Z (DS.is 4 f Z Z Z (λ_ f=>?_) (λ_ f=>?_))))
    .refine D 2 Z ?_;obtain⟨W,F,f⟩:=QE f;refine DS.v (x:=(.p 0 (toNat t*4))) (Qd F Z EO Gf) ?_ (hg:=(gT Z));refine DS.wo (x:=.p 0 (toNat t*4)) ?_ ?_
     .exact Ho (gT Z) y? Z Wp
     refine DS.v (x:=(I W.AT)) (Ez Z EE Z (Qh F)) ?_ (hg:=(gT Z));refine D 2 Z ?_;obtain⟨X,L,f⟩:=QE f;refine DS.v (M4 (e:=CF.c) (l:=Q) (v:=X) L EO Gf) ?_ (hg:=(gT Z));exact au f
    exact au f
   refine Q8 Z g (λ_ g=>?_) (λ_ g=>?_)
   .exact Gc 2 Z (QH g (Gx 1 Z (DV H g (Lr [0]))))
   exact au g
  refine Gc 1 Z (P0 8 4 [0,0,0,0,1,3,3,3] (by kernel_rfl) (Da 2 Z ?_));obtain⟨q,N,d⟩:=QE d;refine DA.wo (x:=.rp [I q.AT,I q.BU,I q.As,.b q.BM]) ?_ ?_
  .exact Ix N EO Gf Z Wp
  refine Da 1 Z ?_;refine kU (Ek (xs:=[.tmp 36]) (es:=map CF.c [q]) I5 Z Z Z Z Z ⟨Z,trivial⟩ Z Z) Z Z (Db 2 Z ?_);obtain⟨ab,y,d⟩:=QE d;refine DB.wo2 (x:=.s 0 (0+toNat m) (toNat (AI j.1:Int)-toNat m) 4) ?_ ?_ ?_
  iterate 2 refine vV (QQ (l:=j.1) y EO Gf (.inr ⟨_,Z,Z⟩) (.inl ⟨Z,Z⟩)) ?_;exact Wp
  refine DB.done Z (Bd d λac O d=>vH (Qj (e:=CF.c) O I5 EO (LS (b:=0) y)) ?_);refine Fg 7 Z Z (Bd d λad G d=>?_);refine vV (dp (l:=j.1) G EO Gf) ?_;refine Go 1 Z (Bd d λae P d=>vH (dm (e:=CF.c) G P I5 EO (QC (i:=2))) ?_);exact au d
 exact au h
def Me(d:CB)(f:Int):AB Int:=AH (HQ n d) λg=>(bif (g != 0)then AC g else AH ((bif f<0 then AC AE else AC (AG ((AI d.AO:Int)<=f))):AB Bool) λh=>(bif h then AC 90 else AC 0))
instance y8(d:CB)(f:Int):Ks (Me n d f) 137 [.a (CB.c d),I f] [] (λr=>I r):=KA func137
def Of(d:CB)(f:Int):AB ((AA Int)×Int):=AH (Me n d f) λg=>(bif (g != 0)then AC ([],g)else AH (CJ d.AO f) λj=>AH (AC ():AB Unit) λm=>AH (Ro n j.Ad) λh=>AH (AC ():AB Unit) λq=>(bif 256<(i64.wrap ((AI h:Int)+0)) then AC ([],2)else AC (h,0)))
instance xZ(d:CB)(f:Int):Kq (Of n d f) 78 [.a (CB.c d),I f,I 0] [] (λr=>.t [.o 0 (AI r.1) 1,I r.2]) (λr=>[.r 3 1 (map eI r.1)]):=by
 refine Kg 11 func78 Z Z Z Z λr h=>Cz [] h Kc Z λL G h=>Go 10 Z (Cn Z h (λ_ h=>?_) (λ_ h=>?_))
 .refine Gc 9 Z ?_;obtain rfl:=Oi h;refine R2 6 7 Z Z ?_;exact En (Er (s:=6) (XR Z) Z) (Lr [1])
 refine Gc 7 Z (Bd h λM j h=>Iz j Z (Go 7 Z (Bd h λx y h=>Ct x [1] [2,9] (λ_=>[(35,.b AD)]) Ze Zf ?_ (λenv H m=>?_))))
 .exact au y
 refine Gx 1 Z (Ee m (Gc 7 Z (Cd [] h Kc Z λB J h=>Fg 5 Z Z (Bd h λE F h=>Cg E [0,1] [2,9,10] (λ_=>[(47,.b (AG (256<(i64.wrap (AI B+0)))))]) Ze Zf ?_ ?_))))
 .exact au F
 refine Cn Z h (λ_ h=>?_) (λ_ h=>?_)
 .refine Gc 8 Z ?_;obtain rfl:=Oi h;refine R2 6 7 Z Z (En (Er (s:=6) (k:=1) (t:=3) (XR Z) Z) ?_);exact Lr [2]
 refine Gc 6 Z ?_;refine Go 12 Z ?_;exact au h
def eY(n:Nat)(d:(AA CF)×Int×Int):AB (CG ((AA CF)×Int×Int) (AA CF)):=(bif d.2.2<(AI d.1:Int) then AH (CJ d.1 d.2.2) λf=>AH (CJ d.1 d.2.2) λh=>AH (JK d.1 d.2.2 ({h with As:=(if d.2.1<f.As then d.2.1 else f.As):CF})) λg=>AH (CJ g d.2.2) λj=>AC (.k (g,i64.wrap (d.2.1-j.As),i64.wrap (d.2.2+1)))else AC (.d d.1))
def UQ(h:CB)(H:AA CI)(G:Int)(j:(AA AP)×Int)(d:Int):AB (CG Int (CG Unit (AA CF))):=(bif d<(AI j.1:Int) then AH (AH (CJ j.1 d) λm=>(bif (m.BW != G)then AC (.k ())else AH (Pe n h H G) λq=>AH (O0 n q.2) λt=>AH (CJ j.1 d) λg=>AH (Of n h g.AN) λx=>AH (CJ h.AO g.AN) λy=>AH ((bif (y.An==(-1))then AC 0 else AC (i64.wrap (256-(AI x.1:Int)))):AB Int) λB=>AH (iter (eY n) n (t,B,0):AB (AA CF)) λE=>AC (.d (.d (.d E)))):AB (CG Unit (CG Int (CG Unit (AA CF))))) λF=>match F with|.k f=>(AC (.k (i64.wrap (d+1))))|.d f=>AC f else AC (.d (.k ())))
def Px(g:CB)(h:AA CI)(m:Int):AB (AA CF):=AH (MP n g h) λj=>(bif (j.2 != 0)then AC []else AH (iter (UQ n g h m j) n 0:AB (CG Unit (AA CF))) λf=>match f with|.k d=>(AC [])|.d d=>AC d)
instance jn(a1:CB)(a2:AA CI)(a3:Int):Kq (Px n a1 a2 a3) 28 [.a (CB.c a1),.q 57 (map CI.c a2),I a3] [] (λr=>.o 0 (AI r) 4) (λr=>[.r 50 4 (map CF.c r)]):=by
 refine Kg 10 func28 Z Z Z Z λr h=>Cd [] h Kc Z λr1 ay h=>Fg 14 Z Z (Cn Z h (λ_ h=>?_) (λ_ h=>?_))
 .refine Gc 7 Z ?_;obtain rfl:=Oi h;refine R1 6 Z ?_;refine En (Er (s:=6) (k:=4) (t:=50) (XR Z) Z) ?_;exact Lr [2]
 refine Gc 8 Z (Bd h λV W h=>D_ (b:=V) [] [] Ze Ze Zf ?_ (λ_ af=>?_))
 .refine G0 1 Z (Lp [0,1] [1,2,3,7] (λx=>[(9,I x)]) Ze W Zf (Lr [0,1]) λx am m E=>?_);refine G0 9 Z (Q8 Z m (λ_ m=>?_) (λ_ m=>?_))
  .exact Jd E m
  refine Gc 3 Z (Bd m λX d m=>D_ (b:=X) [0,1] [1,2,3,7,9] Ze Ze Zf ?_ (λ_ hb=>?_))
  .refine G0 6 Z (Bd d λY F d=>?_);refine vX (.p 1 (toNat x*8)) (Qd F Z EH EN) ?_;refine Fp lH Z ?_;refine vX (I Y.BW) (Ez Z EE Z (Qh F)) ?_;refine Go 4 Z (Cn Z d (λ_ d=>?_) (λ_ d=>?_))
   .refine Gc 3 Z ?_;cases d;exact KW Z (Lr [0,1])
   refine Gc 7 Z (Cd [] d Kc Z λan aj d=>Fg 10 Z Z ?_);refine Et (Yk [(11,_),(38,_),(42,_),(44,_),(45,_)] Z Z (Cy.cons Z Ep (Cy.cons Z (DQ.tup (CY.k (Ed Ep (Ej _)))) (Cy.cons Z (DQ.tup (CY.k (Ed Ep (Ej _)))) (Cy.cons Z Ep (Cy.cons Z Ep Cy.nil))))) (Ec (Ec (Ec (Ec (QU _)))))) ?_;refine Cd [] d Kc Z λao ak d=>Fg 7 Z Z (Bd d λaa G d=>?_);refine vX (.p 1 (toNat x*8)) (Qd G Z EH EN) ?_;refine Fp x? Z ?_;refine vX (I aa.AN) (Ez Z EE Z (Qo (f:=1) G)) ?_;refine Go 7 Z (Cd [] d Kc Z λaq al d=>Fg 21 Z Z (Bd d λar Q d=>Iz Q Z (Go 5 Z (Bd d λy ab d=>Ct y [4] [11] (λy=>[(15,I y)]) Ze Zf ?_ (λenv H ag=>?_)))))
   .exact au ab
   refine Gx 1 Z (Ee ag (Gc 6 Z (Bd d λq ac d=>Cg q [0] [] (λq=>[(11,.o 0 (AI q) 4)]) (λq=>[(0,.r 50 4 (map CF.c q))]) Zf ?_ ?_)))
   .refine G0 1 Z (Lp [0] [] (λj=>[(11,.o 0 (AI j.1) 4),(15,I j.2.1),(16,I j.2.2)]) (λj=>[(0,.r 50 4 (map CF.c j.1))]) ac Zf (Lr [0]) λj av g R=>?_);refine G0 9 Z (Q8 Z g (λ_ g=>?_) (λ_ g=>?_))
    .exact Gc 2 Z (QH g (Gx 1 Z (DV R g (Lr [0]))))
    refine Gc 10 Z (Bd g λB J g=>?_);refine vX (.p 0 (toNat j.2.2*4)) (Qd J Z EO Gf) ?_;refine Fp lI Z ?_;refine vX (I B.As) (Ez Z EE Z (Qo (f:=2) J)) ?_;refine Go 1 Z ?_;refine vX (I (if j.2.1<B.As then j.2.1 else B.As)) (CT.min Z Z Z Z) ?_;refine Bd g λaw L g=>?_;refine vX (.p 0 (toNat j.2.2*4)) (Qd L Z EO Gf) ?_;refine Fp lI Z (Bd g λax M g=>?_);refine vU (Yv (e:=CF.c) (k:=4) (f:=2) L M EC Z Z) ?_;refine FE Z ?_;refine Et (Q5 (s:=11) Z (congrArg (λn=>A.s 0 0 n 4) (Ym M))) ?_;refine Go 6 Z (Bd g λad N g=>?_);refine vX (.p 0 (toNat j.2.2*4)) (Qd N Z EO Gf) ?_;refine Fp lI Z ?_;refine vX (I ad.As) (Ez Z EE Z (Qo (f:=2) N)) ?_;exact au g
   refine Gc 8 Z ?_;cases d;exact DX E m h
  subst hb;exact au m
 subst af;refine Gc 6 Z ?_;obtain rfl:=Oi h;refine R1 6 Z ?_;refine En (Er (s:=6) (k:=4) (t:=50) (XR Z) Z) ?_;exact Lr [0]
def L8(n:Nat)(f:AA CF)(d:Int×Int):AB (CG (Int×Int) Int):=(bif d.2<(AI f:Int) then AH (CJ f d.2) λg=>AC (.k (i64.wrap (d.1+g.As),i64.wrap (d.2+1)))else AC (.d d.1))
def J9(d:AA CF):AB Int:=AH (iter (L8 n d) n (0,0):AB Int) λf=>AC f
instance jw(m:AA CF):Ks (J9 n m) 10 [.q 4 (map CF.c m)] [] (λr=>I r):=by
 refine Kg 16 func10 Z Z Z Z λr h=>Bd h λf t h=>Cg f [] [] (λf=>[(3,I f)]) Ze Zf ?_ ?_
 .refine G0 1 Z (Lp [] [0] (λg=>[(3,I g.1),(4,I g.2)]) Ze t Zf (Lr []) λg x d q=>?_);refine G0 5 Z (Lg 3 Z Z (Q8 Z d (λ_ d=>?_) (λ_ d=>?_)))
  .exact Gc 2 Z (QH d (Gx 1 Z (DV q d (Lr []))))
  exact au d
 exact au h
def UL(n:Nat)(f:CE)(d:Int):AB (CG Int (CG Unit Bool)):=(bif d<(AI f.BQ:Int) then AH (CJ f.BQ d) λg=>(bif 12<(AI g:Int) then AC (.d (.d AD))else AC (.k (i64.wrap (d+1))))else AC (.d (.k ())))
def Ou(f:CE):AB Bool:=AH ((bif 8<(AI f.AS:Int) then AC AE else AC (AG (10<(AI f.BQ:Int)))):AB Bool) λh=>(bif h then AC AD else AH (iter (UL n f) n 0:AB (CG Unit Bool)) λg=>match g with|.k d=>(AC AE)|.d d=>AC d)
instance xh(d:CE):Ks (Ou n d) 81 [.a (CE.c d)] [] (λr=>.b r):=KA func81
def TX(n:Nat)(f:AA Int)(j:Int)(d:Int×Int):AB (CG (Int×Int) Int):=(bif d.2<(AI f:Int) then AH (CJ f d.2) λg=>AH ((bif (g==j)then AC d.2 else AC d.1):AB Int) λh=>AC (.k (h,i64.wrap (d.2+1)))else AC (.d d.1))
def WB(f:AA Int)(g:Int):AB Int:=AH (iter (TX n f g) n ((-1),0):AB Int) λd=>AC d
instance wK(x:AA Int)(y:Int):Ks (WB n x y) 138 [.q 1 (map eI x),I y] [] (λr=>I r):=by
 refine Kg 16 func138 Z Z Z Z λr h=>Bd h λf B h=>Cg f [] [] (λf=>[(5,I f)]) Ze Zf ?_ ?_
 .refine G0 1 Z (Lp [] [0,1] (λg=>[(5,I g.1),(6,I g.2)]) Ze B Zf (Lr []) λg G d m=>?_);refine G0 5 Z (Lg 3 Z Z (Q8 Z d (λ_ d=>?_) (λ_ d=>?_)))
  .exact Gc 2 Z (QH d (Gx 1 Z (DV m d (Lr []))))
  refine Gc 8 Z (Bd d λJ t d=>Iz t Z (Go 5 Z (Bd d λj E d=>Ct j [] [0,1,6] (λj=>[(5,I j)]) Ze Zf ?_ (λenv H F=>?_))))
  .exact au E
  exact Gx 2 Z (Ee F (Gc 5 Z (QZ d (Lr []))))
 exact au h
def ec(n:Nat)(g:Int)(h:AN)(d:(AA Int)×Int):AB (CG ((AA Int)×Int) (AA Int)):=(bif d.2<g then AH (app d.1 [h.An]) λf=>AC (.k (f,i64.wrap (d.2+1)))else AC (.d d.1))
def Oc(j:CB)(m:Int)(f:Int):AB ((AA Int)×Int):=AH (Me n j m) λq=>(bif (q != 0)then AC ([],q)else AH (CJ j.AO m) λg=>AH ((bif f<0 then AC AE else(bif 0<f then AC (g.An==(-1))else AC AD)):AB Bool) λG=>(bif G then AC ([],90)else AH (Ro n g.Ad) λd=>AH ((bif 256<f then AC AE else AC (AG (256<(i64.wrap ((AI d:Int)+f))))):AB Bool) λt=>(bif t then AC ([],2)else(bif (f==0)then AC (d,0)else AH (WB n d g.An) λh=>AH (Dj d 0 (i64.wrap (h+1))) λx=>AH (app ([]:AA Int) x) λy=>AH (iter (ec n f g) n (y,0):AB (AA Int)) λB=>AH (Dj d (i64.wrap (h+1)) (AI d:Int)) λE=>AH (app B E) λF=>AC (F,0)))))
instance xW(P:CB)(Q:Int)(R:Int):Kq (Oc n P Q R) 78 [.a (CB.c P),I Q,I R] [] (λr=>.t [.o 0 (AI r.1) 1,I r.2]) (λr=>[.r 3 1 (map eI r.1)]):=by
 refine Kg 11 func78 Z Z Z Z λr h=>Cz [] h Kc Z λr1 ac h=>Go 10 Z (Cn Z h (λ_ h=>?_) (λ_ h=>?_))
 .refine Gc 9 Z ?_;obtain rfl:=Oi h;refine R2 6 7 Z Z ?_;refine En (Er (s:=6) (k:=1) (t:=3) (XR Z) Z) ?_;exact Lr [1]
 refine Gc 7 Z (Bd h λY V h=>Iz V Z (Go 7 Z (Bd h λB h7 h=>Ct B [1] [2,9] (λB=>[(35,.b B)]) Ze Zf ?_ (λenv H j=>?_))))
 .exact au h7
 refine Gx 1 Z (Ee j (Cn Z h (λ_ h=>?_) (λ_ h=>?_)))
 .refine Gc 8 Z ?_;obtain rfl:=Oi h;refine R2 6 7 Z Z ?_;refine En (Er (s:=6) (k:=1) (t:=3) (XR Z) Z) ?_;exact Lr [1]
 refine Gc 6 Z (Cd [] h Kc Z λy aa h=>Fg 5 Z Z (Bd h λm W h=>Ct m [0,1] [2,9,10] (λm=>[(47,.b m)]) Ze Zf ?_ (λenv H j=>?_)))
 .exact au W
 refine Gx 1 Z (Ee j (Cn Z h (λ_ h=>?_) (λ_ h=>?_)))
 .refine Gc 8 Z ?_;obtain rfl:=Oi h;refine R2 6 7 Z Z ?_;refine En (Er (s:=6) (k:=1) (t:=3) (XR Z) Z) ?_;exact Lr [2]
 refine Gc 9 Z (Cn Z h (λ_ h=>?_) (λ_ h=>?_))
 .exact au h
 refine Gc 7 Z (Cb h Kc Z (lo (ls ln)) λad ab h=>Go 6 Z (vH (Ek (xs:=[]) (es:=map eI []) QF Z Z Z Z Z trivial Z Z) ?_));refine Fg 2 Z Z (Bd h λae q h=>?_);refine vV (QQ (l:=y) q EB EC (.inl ⟨Z,Z⟩) (.inr ⟨_,Z,Z⟩)) ?_;refine Bd h λaf J h=>vH (Qj (e:=eI) J QF EB (LS (b:=1) q)) ?_;refine Fg 9 Z Z (Bd h λf X h=>Cg f [1,2] [10,11] (λf=>[(12,.o 1 (AI f) 1)]) (λf=>[(1,.r 3 1 (map eI f))]) Zf ?_ ?_)
 .refine G0 1 Z (Lp [0,1,3] [2,9,10,11] (λg=>[(12,.o 2 (AI g.1) 1),(13,I g.2)]) (λg=>[(2,.r 3 1 (map eI g.1))]) X Zf (Lr [0,1,3]) λg ag d L=>?_);refine G0 8 Z (Q8 Z d (λ_ d=>?_) (λ_ d=>?_))
  .exact Gc 2 Z (QH d (Gx 1 Z (DV L d (Lr [1,2]))))
  refine Gc 8 Z (vH (Ek (xs:=[.tmp 68]) (es:=map eI [Y.An]) QF Z Z Z Z Z ⟨Z,trivial⟩ Z Z) ?_);refine FE Z (Bd d λah N d=>vH (Qj (e:=eI) N QF EB (QC (i:=3))) ?_);exact au d
 refine Gc 5 Z (Bd h λai x h=>?_);refine vV (QQ (l:=y) x EB EC (.inr ⟨_,Z,Z⟩) (.inl ⟨Z,Z⟩)) ?_;refine Bd h λaj O h=>vH (Qj (e:=eI) O QF EB (LS (b:=0) x)) ?_;exact au h
def Pj(d:CB)(q:CE)(g:AP)(t:Int)(x:AA CM)(y:AA Ae):AB Bool:=AH (AH (K7 n d) λB=>(bif (!B)then AC AE else(bif 8<(AI d.Au:Int) then AC AE else AH (Ou n q) λh=>(bif (!h)then AC AE else(bif 4<(AI x:Int) then AC AE else AC (AG (6<(AI y:Int))))))):AB Bool) λE=>(bif E then AC AD else AH ((bif g.AN<0 then AC AE else AC (AG ((AI d.AO:Int)<=g.AN))):AB Bool) λj=>(bif j then AC AE else AH (Oc n d g.AN t) λf=>AH ((bif (f.2 != 0)then AC AE else AC (AG ((AI f.1:Int)<=8))):AB Bool) λm=>AC m))
instance jY(d:CB)(f:CE)(g:AP)(h:Int)(j:AA CM)(m:AA Ae):Ks (Pj n d f g h j m) 30 [.a (CB.c d),.a (CE.c f),.a (AP.c g),I h,.q 5 (map CM.c j),.q 4 (map Ae.c m)] [] (λr=>.b r):=KA func30
def UZ(n:Nat)(x:Int)(f:AA CI)(d:(AA Ae)×Int):AB (CG ((AA Ae)×Int) (AA Ae)):=(bif d.2<(AI f:Int) then AH (AH (CJ f d.2) λg=>(bif (g.AW==5)then AH (CJ f d.2) λh=>AC (h.Ae.BW==x)else AC AD):AB Bool) λj=>AH ((bif j then AH (CJ f d.2) λm=>AH (app d.1 [m.Ae]) λq=>AC q else AC d.1):AB (AA Ae)) λt=>AC (.k (t,i64.wrap (d.2+1)))else AC (.d d.1))
def VV(x:CB)(y:AA CI)(B:Int)(g:(AA CD)×(AA (AA Int))×Int)(h:(AA AP)×Int)(f:Int):AB (CG Int (CG Unit ((AA CD)×(AA (AA Int))×Int×Int×Int×Int×Int×Int×Int×Int×(AA CM)×(AA Ae)×(AA CF)×Bool))):=(bif f<(AI h.1:Int) then AH (AH (CJ h.1 f) λE=>(bif (E.BW != B)then AC (.k ())else AH (CJ h.1 f) λd=>AH (CJ h.1 f) λF=>AH (Pu n x y F.BB) λm=>AH (Px n x y B) λq=>AH (Km n y) λG=>AH (iter (UZ n B G) n ([],0):AB (AA Ae)) λt=>AH (J9 n q) λH=>AH (Pj n x ({AS:=g.1,BQ:=g.2.1:CE}) d H m t) λJ=>AC (.d (.d (.d (g.1,g.2.1,d.BW,d.AN,d.A3,d.BK,d.B6,d.BB,d.Bl,d.B5,m,t,q,J))))):AB (CG Unit (CG Int (CG Unit ((AA CD)×(AA (AA Int))×Int×Int×Int×Int×Int×Int×Int×Int×(AA CM)×(AA Ae)×(AA CF)×Bool))))) λL=>match L with|.k j=>(AC (.k (i64.wrap (f+1))))|.d j=>AC j else AC (.d (.k ())))
def Pr(f:CB)(g:AA CI)(y:Int):AB ((AA CD)×(AA (AA Int))×Int×Int×Int×Int×Int×Int×Int×Int×(AA CM)×(AA Ae)×(AA CF)×Bool):=AH (AH (K7 n f) λB=>(bif (!B)then AC AE else(bif 16<(AI g:Int) then AC AE else AH (HQ n f) λq=>(bif (q != 0)then AC AE else AH (PP n f 10) λt=>AC (!t)))):AB Bool) λE=>(bif E then AC ([],[],0,0,0,0,0,0,0,0,[],[],[],AD)else AH (Pg n f g) λh=>AH (MP n f g) λj=>AH ((bif (h.2.2 != 0)then AC AE else AC (j.2 != 0)):AB Bool) λx=>(bif x then AC ([],[],0,0,0,0,0,0,0,0,[],[],[],AD)else AH (iter (VV n f g y h j) n 0:AB (CG Unit ((AA CD)×(AA (AA Int))×Int×Int×Int×Int×Int×Int×Int×Int×(AA CM)×(AA Ae)×(AA CF)×Bool))) λm=>match m with|.k d=>(AC ([],[],0,0,0,0,0,0,0,0,[],[],[],AD))|.d d=>AC d))
instance je(N:CB)(a2:AA CI)(a3:Int):Kq (Pr n N a2 a3) 7 [.a (CB.c N),.q 57 (map CI.c a2),I a3] [] (λr=>.t [.a [.q 3 (map CD.c r.1),.q 1 (map (Qu 1 eI) r.2.1),I r.2.2.1,I r.2.2.2.1,I r.2.2.2.2.1,I r.2.2.2.2.2.1,I r.2.2.2.2.2.2.1,I r.2.2.2.2.2.2.2.1,I r.2.2.2.2.2.2.2.2.1,I r.2.2.2.2.2.2.2.2.2.1,.q 5 (map CM.c r.2.2.2.2.2.2.2.2.2.2.1),.o 0 (AI r.2.2.2.2.2.2.2.2.2.2.2.1) 4,.q 4 (map CF.c r.2.2.2.2.2.2.2.2.2.2.2.2.1)],.b r.2.2.2.2.2.2.2.2.2.2.2.2.2]) (λr=>[.r 104 4 (map Ae.c r.2.2.2.2.2.2.2.2.2.2.2.1),.c 46 [.q 3 (map CD.c r.1),.q 1 (map (Qu 1 eI) r.2.1),I r.2.2.1,I r.2.2.2.1,I r.2.2.2.2.1,I r.2.2.2.2.2.1,I r.2.2.2.2.2.2.1,I r.2.2.2.2.2.2.2.1,I r.2.2.2.2.2.2.2.2.1,I r.2.2.2.2.2.2.2.2.2.1,.q 5 (map CM.c r.2.2.2.2.2.2.2.2.2.2.1),.o 0 (AI r.2.2.2.2.2.2.2.2.2.2.2.1) 4,.q 4 (map CF.c r.2.2.2.2.2.2.2.2.2.2.2.2.1)]]):=by
 refine Kg 9 func7 Z Z Z Z λr h=>Bd h λb7 h8 h=>Ct b7 [0,1] [1,2,3,6] (λb7=>[(33,.b b7)]) Ze Zf ?_ (λenv H O=>?_)
 .exact au h8
 refine Gx 1 Z (Ee O (Cn Z h (λ_ h=>?_) (λ_ h=>?_)))
 .refine Gc 9 Z ?_;obtain rfl:=Oi h;refine⟨[(6,.p 1 0),(7,.b AD)],[.r 104 4 (map Ae.c ([]:AA Ae)),.c 46 [.q 3 (map CD.c ([]:AA CD)),.q 1 (map (Qu 1 eI) ([]:AA (AA Int))),I 0,I 0,I 0,I 0,I 0,I 0,I 0,I 0,.q 5 (map CM.c ([]:AA CM)),.o 0 (AI ([]:AA Ae)) 4,.q 4 (map CF.c ([]:AA CF))]],_,?_,QK Z Z (C6.cons (Yh isAgg46 sizeOf46 Z Z Z) (C6.cons Dw.tmp C6.nil)),Z,Z⟩;refine En (Yb (i:=1) (m:=11) (t:=104) (k:=4) Z Z Z) ?_;exact Lr [2,1]
 refine Gc 6 Z (Cd [] h Kc Z λj bk h=>Fg 12 Z Z (Cd [] h Kc Z λL bl h=>Fg 9 Z Z (Bd h λag bd h=>Ct ag [0,1,3,4] [1,2,3,6,8,10] (λag=>[(52,.b ag)]) Ze Zf ?_ (λenv H O=>?_))))
 .exact au bd
 refine Gx 1 Z (Ee O (Cn Z h (λ_ h=>?_) (λ_ h=>?_)))
 .refine Gc 9 Z ?_;obtain rfl:=Oi h;refine⟨[(6,.p 1 0),(7,.b AD)],[.r 104 4 (map Ae.c ([]:AA Ae)),.c 46 [.q 3 (map CD.c ([]:AA CD)),.q 1 (map (Qu 1 eI) ([]:AA (AA Int))),I 0,I 0,I 0,I 0,I 0,I 0,I 0,I 0,.q 5 (map CM.c ([]:AA CM)),.o 0 (AI ([]:AA Ae)) 4,.q 4 (map CF.c ([]:AA CF))]],_,?_,QK Z Z (C6.cons (Yh isAgg46 sizeOf46 Z Z Z) (C6.cons Dw.tmp C6.nil)),Z,Z⟩;refine En (Yb (i:=1) (m:=11) (t:=104) (k:=4) Z Z Z) ?_;exact Lr [4,1]
 refine Gc 8 Z (Bd h λav aw h=>D_ (b:=av) [1] [6] Ze Ze Zf ?_ (λ_ be=>?_))
 .refine G0 1 Z (Lp [0,1,2,3] [1,2,3,6,8,10] (λq=>[(12,I q)]) Ze aw Zf (Lr [0,1,2,3]) λq bm J Y=>?_);refine G0 9 Z (Q8 Z J (λ_ J=>?_) (λ_ J=>?_))
  .exact Jd Y J
  refine Gc 3 Z (Bd J λax g J=>D_ (b:=ax) [0,1,2,3] [1,2,3,6,8,10,12] Ze Ze Zf ?_ (λ_ hb=>?_))
  .refine G0 6 Z (Bd g λay aa g=>?_);refine vX (.p 3 (toNat q*8)) (Qd aa Z EH EN) ?_;refine Fp lH Z ?_;refine vX (I ay.BW) (Ez Z EE Z (Qh aa)) ?_;refine Go 4 Z (Cn Z g (λ_ g=>?_) (λ_ g=>?_))
   .refine Gc 3 Z ?_;cases g;exact KW Z (Lr [0,1,2,3])
   refine Gc 3 Z ?_;obtain⟨d,y,g⟩:=QE g;obtain⟨V,M,g⟩:=QE g;obtain⟨P,ab,g⟩:=QE g;obtain⟨Q,ac,g⟩:=QE g;refine Yu 19 1 [67,68,69,70,71,72,73,74,75,76,77,78,79,80,81,82,83,84,13] [AD,AD,AD,AD,AD,AD,AD,AD,AD,AD,AD,AD,AE,AD,AD,AD,AE,AD,AE] [[],[],[],[],[],[],[],[],[],[],[],[],[],[],[],[],[12],[12,16],[]] [[],[12],[18],[12,16],[12,18],[12,16,18]] [[(0,0),(1,1),(2,2),(3,3),(4,4),(5,5)],[(0,0),(1,1),(2,2),(3,3),(4,4),(5,5)],[(0,0),(1,1),(2,2),(3,3),(4,4),(5,5)],[(0,0),(1,1),(2,2),(3,3),(4,4),(5,5)],[(0,0),(1,1),(2,2),(3,3),(4,4),(5,5)],[(0,0),(2,2)],[(0,0),(2,2)],[(0,0),(2,2)],[(0,0),(2,2)],[(0,0),(2,2)],[(0,0),(2,2)],[(0,0),(2,2)],[(0,1),(2,4)],[(0,0),(1,1),(2,2),(4,4)],[(0,0),(1,1),(2,2),(4,4)],[(0,0),(1,1),(2,2),(4,4)],[(1,3),(4,5)],[(3,3),(5,5)],[(0,2),(1,4),(3,5)]] [.a [.q 3 (map CD.c j.1),.q 1 (map (Qu 1 eI) j.2.1)],.o 3 (AI L.1) 8,I q,.p 3 (toNat q*8),.a (AP.c d),.a (CB.c N),.q 57 (map CI.c a2),.o 3 (AI L.1) 8,I q,.p 3 (toNat q*8),.p 3 (toNat q*8+5),I V.BB,.q 5 (map CM.c P),.a (CB.c N),.q 57 (map CI.c a2),I a3,.q 4 (map CF.c Q),.a [.q 3 (map CD.c j.1),.q 1 (map (Qu 1 eI) j.2.1),I d.BW,I d.AN,I d.A3,I d.BK,I d.B6,I d.BB,I d.Bl,I d.B5,.q 5 (map CM.c P),.n,.q 4 (map CF.c Q)],.p 4 0] [[.c 33 (CB.c N),.c 46 (CU.c Cc),.c 39 [.q 3 (map CD.c j.1),.q 1 (map (Qu 1 eI) j.2.1)],.r 41 8 (map AP.c L.1),.dead],[.c 33 (CB.c N),.c 46 (CU.c Cc),.c 39 [.q 3 (map CD.c j.1),.q 1 (map (Qu 1 eI) j.2.1)],.r 41 8 (map AP.c L.1),.dead,.dead],[.c 33 (CB.c N),.c 46 (CU.c Cc),.c 39 [.q 3 (map CD.c j.1),.q 1 (map (Qu 1 eI) j.2.1)],.r 41 8 (map AP.c L.1),.c 46 [.q 3 (map CD.c []),.q 1 (map (Qu 1 eI) []),I 0,I 0,I 0,I 0,I 0,I 0,I 0,I 0,.q 5 (map CM.c []),.n,.q 4 (map CF.c [])]],[.c 33 (CB.c N),.c 46 (CU.c Cc),.c 39 [.q 3 (map CD.c j.1),.q 1 (map (Qu 1 eI) j.2.1)],.r 41 8 (map AP.c L.1),.dead,.dead,.dead],[.c 33 (CB.c N),.c 46 (CU.c Cc),.c 39 [.q 3 (map CD.c j.1),.q 1 (map (Qu 1 eI) j.2.1)],.r 41 8 (map AP.c L.1),.c 46 [.q 3 (map CD.c []),.q 1 (map (Qu 1 eI) []),I 0,I 0,I 0,I 0,I 0,I 0,I 0,I 0,.q 5 (map CM.c []),.n,.q 4 (map CF.c [])],.dead],[.c 33 (CB.c N),.c 46 (CU.c Cc),.c 39 [.q 3 (map CD.c j.1),.q 1 (map (Qu 1 eI) j.2.1)],.r 41 8 (map AP.c L.1),.c 46 [.q 3 (map CD.c []),.q 1 (map (Qu 1 eI) []),I 0,I 0,I 0,I 0,I 0,I 0,I 0,I 0,.q 5 (map CM.c []),.n,.q 4 (map CF.c [])],.dead,.dead]] ([.c 33 (CB.c N),.c 46 (CU.c Cc),.c 39 [.q 3 (map CD.c j.1),.q 1 (map (Qu 1 eI) j.2.1)],.r 41 8 (map AP.c L.1),.c 46 [.q 3 (map CD.c []),.q 1 (map (Qu 1 eI) []),I 0,I 0,I 0,I 0,I 0,I 0,I 0,I 0,.q 5 (map CM.c []),.n,.q 4 (map CF.c [])],.dead,.dead]) DD Z Z Z Z Z Z Z ?_ Z ?_
   .refine M1 (M1 (M1 (Cq.cons ?_ (Cq.cons ?_ (M1 (M1 (M1 (M1 (Cq.cons ?_ (Cq.cons ?_ (Cq.cons ?_ (Cq.cons ?_ (M1 (M1 (M1 (Cq.cons ?_ (M1 (Cq.cons ?_ (Cq.nil)))))))))))))))))))
    .refine Qb ?_ (Qb ?_ (Qb ?_ (Qb ?_ (Qb ?_ (Qb ?_ (Qf))))))
     iterate 6 refine Om Z (sD 1 (sD 2 sN)) ?_;refine vX (.p 3 (toNat q*8)) (Qd y Z EH EN) ?_;exact Wp
    .refine Qb ?_ (Qb ?_ (Qb ?_ (Qb ?_ (Qb ?_ (Qb ?_ (Qf))))))
     iterate 6 refine Om Z (sD 3 sN) ?_;refine vX (.a (AP.c d)) (Qs Z GJ EN Z (Qh y) Z Z) ?_;exact Wp
    .refine Qb ?_ (Qb ?_ (Qf))
     iterate 2 refine Om Z (sD 7 (sD 8 sN)) ?_;refine vX (.p 3 (toNat q*8)) (Qd M Z EH EN) ?_;exact Wp
    .refine Qb ?_ (Qb ?_ (Qf))
     iterate 2 refine Om Z (sD 9 sN) ?_;exact Fp mK Z Wp
    .refine Qb ?_ (Qb ?_ (Qf))
     iterate 2 refine Om Z (sD 10 sN) ?_;refine vX (I V.BB) (Ez Z EE Z (Qo (f:=5) M)) ?_;exact Wp
    .refine Qb ?_ (Qb ?_ (Qf))
     iterate 2 refine F4 Z (sD 5 (sD 6 (sD 11 sN))) ?_;refine Qg [] (C7.fn call27 Z Z Z) ((ji _ _ _ _).c _ ab) ?_;rintro _ _ ⟨rfl,rfl⟩;refine FE Z ?_;refine Et (Yk [(79,_)] Z Z (Cy.cons Z Ep Cy.nil) (Ec (Ec (Ec (Ec (Ec (Ec (QU _)))))))) ?_;refine Et S4 ?_;exact Wp
    .refine Qb ?_ (Qb ?_ (Qf))
     iterate 2 refine F4 Z (sD 13 (sD 14 (sD 15 sN))) ?_;refine Qg [] (C7.fn call28 Z Z Z) ((jn _ _ _ _).c _ ac) ?_;rintro _ _ ⟨rfl,rfl⟩;refine FE Z ?_;refine Et (Yk [(83,_)] Z Z (Cy.cons Z Ep Cy.nil) (Ec (Ec (Ec (Ec (Ec (Ec (Ec (QU _))))))))) ?_;refine Et S4 ?_;exact Wp
    .refine Qb ?_ (Qb ?_ (Qb ?_ (Qf)))
     iterate 3 exact Jl.alloc _ 13 46 4 _ Z Z Z Z Z Z Z (I8.alloc (v:=(.a [.q 3 (map CD.c []),.q 1 (map (Qu 1 eI) []),I 0,I 0,I 0,I 0,I 0,I 0,I 0,I 0,.q 5 (map CM.c []),.n,.q 4 (map CF.c [])])) zeroValue46 (Fr Z)) Z
   refine Go 6 Z (Cd [] g Kc Z λbn bi g=>Fg 9 Z Z (Bd g λR az g=>Cg R [0,1,2,3,4] [3,6,8] (λ_=>[(13,.p 3 0)]) (λR=>[(3,.c 46 [.q 3 (map CD.c j.1),.q 1 (map (Qu 1 eI) j.2.1),I d.BW,I d.AN,I d.A3,I d.BK,I d.B6,I d.BB,I d.Bl,I d.B5,.q 5 (map CM.c P),.o 4 (AI R) 4,.q 4 (map CF.c Q)]),(4,.r 104 4 (map Ae.c R))]) Zf ?_ ?_))
   .refine G0 1 Z (Lp [0,1,2,4,0,7] [2,3,6,8,13,14] (λE=>[(15,I E.2)]) (λE=>[(3,.c 46 [.q 3 (map CD.c j.1),.q 1 (map (Qu 1 eI) j.2.1),I d.BW,I d.AN,I d.A3,I d.BK,I d.B6,I d.BB,I d.Bl,I d.B5,.q 5 (map CM.c P),.o 4 (AI E.1) 4,.q 4 (map CF.c Q)]),(4,.r 104 4 (map Ae.c E.1))]) az Zf ?_ ?_)
    .refine En (Yb (i:=4) (m:=11) (t:=104) (k:=4) Z Z Z) ?_;exact Lr [0,1,2,4,8,7]
    intro E bo B aj;refine G0 9 Z (Q8 Z B (λ_ B=>?_) (λ_ B=>?_))
    .exact Gc 2 Z (QH B (Gx 1 Z (DV aj B (Lr [0,1,2,3,4]))))
    refine Gc 5 Z (Bd B λW F B=>Ct W [0,1,2,3,4,5] [2,3,6,8,13,14,15] (λW=>[(108,.b W)]) Ze Zf ?_ (λenv H O=>?_))
    .refine G0 3 Z (Bd F λba ad F=>?_);refine vX (.p 5 (toNat E.2*57)) (Qd ad Z ED EF) ?_;refine Fp S7 Z ?_;refine vX (I ba.AW) (Ez Z EE Z (Qo (f:=3) ad)) ?_;refine Go 2 Z (Is 99 F Z (λ_ F=>?_) (λ_ F=>?_))
     .refine Go 2 Z (Bd F λbb ae F=>?_);refine vX (.p 5 (toNat E.2*57)) (Qd ae Z ED EF) ?_ (gT Z);refine Ho (gT Z) sK Z (Ho (gT Z) Qot Z ?_);refine vX (I bb.Ae.BW) (Ez Z EE Z (Qo (f:=29) ae)) ?_ (gT Z);exact au F
     exact au F
    refine Gx 1 Z (Ee O (Bd B λT G B=>Ct T [0,1,2,3,0,5] [2,3,6,8,13,14,15] Ze (λT=>[(3,.c 46 [.q 3 (map CD.c j.1),.q 1 (map (Qu 1 eI) j.2.1),I d.BW,I d.AN,I d.A3,I d.BK,I d.B6,I d.BB,I d.Bl,I d.B5,.q 5 (map CM.c P),.o 4 (AI T) 4,.q 4 (map CF.c Q)]),(4,.r 104 4 (map Ae.c T))]) Zf ?_ (λenv H O=>?_)))
    .refine G0 0 Z (Cn Z G (λ_ G=>?_) (λ_ G=>?_))
     .refine DT 8 Z (D 4 Z ?_);obtain⟨X,af,G⟩:=QE G;refine DS.v (x:=(.p 5 (toNat E.2*57))) (Qd af Z ED EF) ?_;refine DS.wo (x:=.p 5 (toNat E.2*57+29)) ?_ ?_
      .exact Fp sK Z Wp
      refine DS.v (x:=(.a (Ae.c X.Ae))) (Qs Z isAgg104 GY Z (Qo (f:=29) af) Z Z) ?_;refine DS.wo (x:=.q 4 (map Ae.c [X.Ae])) ?_ ?_
      .refine vH (QP (xs:=[.tmp 115]) (es:=map Ae.c [X.Ae]) oh Z Z Z Z Z ⟨Z,trivial⟩ Z Z) ?_;exact FE Z Wp
      refine Eg Z (Bd G λbp an G=>vH (Qj (e:=Ae.c) an oh runUnderlying43 LT) ?_);exact au G
     exact au G
    exact Gx 2 Z (Ee O (Gc 5 Z (QZ B (Lr [0,1,2,3,4,5]))))
   refine Gc 1 Z (DT 13 Z (D 7 Z ?_));refine Dz [] g Kc Z λbq bj g=>D 4 Z ?_;obtain⟨bc,ao,g⟩:=QE g;refine DS.wo (x:=.b bc) ?_ ?_
   .refine Zi (C7.fn call30 rfl rfl rfl) (Dt.cons rfl (.inl ⟨rfl,rfl⟩) (Dt.cons rfl (.inl ⟨rfl,rfl⟩) (Dt.cons rfl (.inl ⟨rfl,rfl⟩) (Dt.cons rfl (.inl ⟨rfl,rfl⟩) (Dt.cons rfl (.inl ⟨rfl,rfl⟩) (Dt.cons rfl (.inr ⟨_,_,_,_,_,rfl,rfl,X2 ..,rfl⟩) Dt.nil)))))) ((jY _ _ _ _ _ _ _).c _ ao) (by rintro _ _ ⟨rfl,rfl⟩;rfl) ?_;rintro _ _ ⟨rfl,rfl⟩;exact FE Z Wp
   refine Eg Z (Go 6 Z ?_);cases g;exact DX Y J h
  subst hb;exact au J
 subst be;refine Gc 8 Z ?_;obtain rfl:=Oi h;refine⟨[(6,.p 1 0),(7,.b AD)],[.r 104 4 (map Ae.c ([]:AA Ae)),.c 46 [.q 3 (map CD.c ([]:AA CD)),.q 1 (map (Qu 1 eI) ([]:AA (AA Int))),I 0,I 0,I 0,I 0,I 0,I 0,I 0,I 0,.q 5 (map CM.c ([]:AA CM)),.o 0 (AI ([]:AA Ae)) 4,.q 4 (map CF.c ([]:AA CF))]],_,?_,QK Z Z (C6.cons (Yh isAgg46 sizeOf46 Z Z Z) (C6.cons Dw.tmp C6.nil)),Z,Z⟩;refine En (Yb (i:=0) (m:=11) (t:=104) (k:=4) Z Z Z) ?_;exact Lr [1,0]
def K8(n:Nat)(d:AA CW)(f:Int):AB Int:=AH ((bif (f==(-1))then AC (AG (0<(AI d:Int)))else AC AD):AB Bool) λg=>(bif g then AH (CJ d 0) λh=>AC (i64.wrap ((AI h.BL:Int)-1))else AC f)
instance jr(d:AA CW)(f:Int):Ks (K8 n d f) 11 [.q 2 (map CW.c d),I f] [] (λr=>I r):=KA func11
def VO(n:Nat)(g:AA CC)(h:Int)(f:(AA CC)×Int):AB (CG ((AA CC)×Int) (AA CC)):=(bif f.2<(AI g:Int) then AH (CJ g f.2) λd=>AH ((bif (!d.BM)then AC ({BM:=d.BM,BS:=d.BS,Lo:=i64.wrap (d.Lo+h),Hi:=i64.wrap (d.Hi+h):CC})else AC d):AB CC) λj=>AH (app f.1 [j]) λm=>AC (.k (m,i64.wrap (f.2+1)))else AC (.d f.1))
def Pn(f:AA CC)(g:Int):AB (AA CC):=AH (iter (VO n f g) n ([],0):AB (AA CC)) λd=>AC d
instance ja(F:AA CC)(G:Int):Kq (Pn n F G) 13 [.q 4 (map CC.c F),I G] [] (λr=>.o 0 (AI r) 4) (λr=>[.r 77 4 (map CC.c r)]):=by
 refine Kg 16 func13 Z Z Z Z λr h=>Bd h λf H h=>Cg f [0] [] (λf=>[(5,.o 0 (AI f) 4)]) (λf=>[(0,.r 77 4 (map CC.c f))]) Zf ?_ ?_
 .refine G0 1 Z (Lp [0] [0,1] (λg=>[(5,.o 0 (AI g.1) 4),(6,I g.2)]) (λg=>[(0,.r 77 4 (map CC.c g.1))]) H Zf ?_ ?_)
  .refine En (Er (s:=5) (k:=4) (t:=77) (XR Z) Z) ?_;exact Lr [0]
  intro g J d q;refine G0 5 Z (Lg 3 Z Z (Q8 Z d (λ_ d=>?_) (λ_ d=>?_)))
  .exact Gc 2 Z (QH d (Gx 1 Z (DV q d (Lr [0]))))
  refine Gc 8 Z (Bd d λL y d=>Iz y Z (Go 13 Z (Bd d λm j d=>Cg m [0,1] [0,1,5,6,7] Ze (λm=>[(1,.c 77 (CC.c m))]) Zf ?_ ?_)))
  .refine G0 0 Z (Cn Z j (λ_ j=>?_) (λ_ j=>?_))
   .exact nA 18 Z j [0,1]
   exact nA 1 Z j [0,1]
  refine Gc 3 Z (vH (Ek (xs:=[.tmp 32]) (es:=map CC.c [m]) Je Z Z Z Z Z ⟨Z,trivial⟩ Z Z) ?_);refine FE Z (Bd d λM E d=>vH (Qj (e:=CC.c) E Je EM (QC (i:=2))) ?_);exact Fg 9 Z Z (QZ d (Lr [3]))
 exact TA 7 Z h 4 [0]
def Pp(h:CB)(L:AA CI)(M:Int)(t:Int)(j:Int)(m:Int):AB Bool:=AH (W0 300) λN=>(bif (!N)then AC AD else AH (Pr n h L M) λd=>AH ((bif (!d.2.2.2.2.2.2.2.2.2.2.2.2.2)then AC AE else(bif m<0 then AC AE else(bif 68719476736<m then AC AE else(bif j<0 then AC AE else AC (AG (256<j)))))):AB Bool) λO=>(bif O then AC AE else AH (app ([]:AA CF) d.2.2.2.2.2.2.2.2.2.2.2.2.1) λx=>AH (app x [{AT:=j,BU:=m,As:=0,BM:=AD:CF}]) λy=>AH (NA n h ({AS:=d.1,BQ:=d.2.1:CE}) ({BW:=d.2.2.1,AN:=d.2.2.2.1,A3:=d.2.2.2.2.1,BK:=d.2.2.2.2.2.1,B6:=d.2.2.2.2.2.2.1,BB:=d.2.2.2.2.2.2.2.1,Bl:=d.2.2.2.2.2.2.2.2.1,B5:=d.2.2.2.2.2.2.2.2.2.1:AP}) d.2.2.2.2.2.2.2.2.2.2.1 d.2.2.2.2.2.2.2.2.2.2.2.1 d.2.2.2.2.2.2.2.2.2.2.2.2.1 t) λf=>AH (NA n h ({AS:=d.1,BQ:=d.2.1:CE}) ({BW:=d.2.2.1,AN:=d.2.2.2.1,A3:=d.2.2.2.2.1,BK:=d.2.2.2.2.2.1,B6:=d.2.2.2.2.2.2.1,BB:=d.2.2.2.2.2.2.2.1,Bl:=d.2.2.2.2.2.2.2.2.1,B5:=d.2.2.2.2.2.2.2.2.2.1:AP}) d.2.2.2.2.2.2.2.2.2.2.1 d.2.2.2.2.2.2.2.2.2.2.2.1 y t) λg=>AH (J9 n d.2.2.2.2.2.2.2.2.2.2.2.2.1) λB=>AH (HF n h ({AS:=d.1,BQ:=d.2.1:CE}) ({BW:=d.2.2.1,AN:=d.2.2.2.1,A3:=d.2.2.2.2.1,BK:=d.2.2.2.2.2.1,B6:=d.2.2.2.2.2.2.1,BB:=d.2.2.2.2.2.2.2.1,Bl:=d.2.2.2.2.2.2.2.2.1,B5:=d.2.2.2.2.2.2.2.2.2.1:AP}) B d.2.2.2.2.2.2.2.2.2.2.1 d.2.2.2.2.2.2.2.2.2.2.2.1) λq=>(bif (f.2 != g.2)then AC AD else AH ((bif (f.2 != 0)then AC AE else AC (q.2 != 0)):AB Bool) λE=>(bif E then AC AE else AH (K8 n q.1 t) λF=>(bif j<=F then AH (Pn n f.1 m) λG=>AH (Ml n g.1 G) λH=>AC H else AH (Ml n f.1 g.1) λJ=>AC J)))))
instance jc(y:CB)(W:AA CI)(X:Int)(Y:Int)(q:Int)(t:Int):Ks (Pp n y W X Y q t) 3 [.a (CB.c y),.q 57 (map CI.c W),I X,I Y,I q,I t] [] (λr=>.b r):=by
 refine Kg 9 func3 Z Z Z Z λr h=>Cz [] h (jU _).c Z λr1 al h=>Go 3 Z (Cn Z h (λ_ h=>?_) (λ_ h=>?_))
 .exact TA 7 Z h 12 []
 refine Gc 7 Z (Cd [] h (je _ _ _ _).c Z λd am h=>Fg 10 Z Z (Bd h λB f h=>Ct B [0,3,1] [3,4,5,6,13] (λB=>[(48,.b B)]) (λ_=>[(1,.c 46 [.q 3 (map CD.c d.1),.q 1 (map (Qu 1 eI) d.2.1),I d.2.2.1,I d.2.2.2.1,I d.2.2.2.2.1,I d.2.2.2.2.2.1,I d.2.2.2.2.2.2.1,I d.2.2.2.2.2.2.2.1,I d.2.2.2.2.2.2.2.2.1,I d.2.2.2.2.2.2.2.2.2.1,.q 5 (map CM.c d.2.2.2.2.2.2.2.2.2.2.1),.o 2 (AI d.2.2.2.2.2.2.2.2.2.2.2.1) 4,.q 4 (map CF.c d.2.2.2.2.2.2.2.2.2.2.2.2.1)])]) Zf ?_ (λenv H ab=>?_)))
 .refine G0 4 Z (Is 33 f Z (λ_ f=>?_) (λ_ f=>?_))
  .exact Gl 16 Z f [0,3,1]
  .refine Go 4 Z (Is 37 f Z (λ_ f=>?_) (λ_ f=>?_))
   .exact Gl 12 Z f [0,3,1]
   .refine Go 4 Z (Is 41 f Z (λ_ f=>?_) (λ_ f=>?_))
    .exact Gl 8 Z f [0,3,1]
    .refine Go 4 Z (Is 45 f Z (λ_ f=>?_) (λ_ f=>?_))
     iterate 2 exact Gl 4 Z f [0,3,1]
 refine Gx 1 Z (Ee ab (Cn Z h (λ_ h=>?_) (λ_ h=>?_)))
 .exact TA 7 Z h 12 []
 refine Gc 4 Z (vH (Ek (xs:=[]) (es:=map CF.c []) I5 Z Z Z Z Z trivial Z Z) ?_);refine Fg 2 Z Z (Bd h λan M h=>vH (Qj (e:=CF.c) M I5 EO LT) ?_);refine Fg 3 Z Z (vH (Ek (xs:=[.tmp 55]) (es:=map CF.c [{AT:=q,BU:=t,As:=0,BM:=AD:CF}]) I5 Z Z Z Z Z ⟨Z,trivial⟩ Z Z) ?_);refine FE Z (Bd h λao N h=>vH (Qj (e:=CF.c) N I5 EO (QC (i:=5))) ?_);refine Fg 17 Z Z ?_;refine Et (Yk [(67,_)] Z Z (Cy.cons Z Ep Cy.nil) (Ec (Do.cells (CY.k (CY.k (CY.k (CY.k (CY.k (CY.k (CY.k (CY.k (CY.k (CY.k (CY.k (Ed Ep (Ej _))))))))))))) (Ec (QU _))))) ?_;refine Cd [] h (jQ _ _ _ _ _ _ _ _).c Z λac af h=>Fg 20 Z Z ?_;refine Et (Yk [(15,_),(57,_),(84,_)] Z Z (Cy.cons Z Ep (Cy.cons Z Ep (Cy.cons Z Ep Cy.nil))) (Ec (Ec (Ec (Ec (Ec (Ec (Ec (QU _))))))))) ?_;refine Cd [] h (jQ _ _ _ _ _ _ _ _).c Z λad ag h=>Fg 8 Z Z (P0 17 12 [0,0,0,0,0,0,0,0,0,0,0,0,1,2,2,2,2] (by kernel_rfl) (Da 7 Z ?_));obtain⟨ae,O,h⟩:=QE h;refine DA.wo (x:=I ae) ?_ ?_
 .exact Pc [] Z (C7.fn call10 Z Z Z) ((jw _ _).c _ O) Z Wp
 refine Da 4 Z ?_;obtain⟨j,P,h⟩:=QE h;refine DA.op (x:=.t [.o 9 (AI j.1) 2,I j.2]) (H1:=[.c 33 (CB.c y),.c 46 [.q 3 (map CD.c d.1),.q 1 (map (Qu 1 eI) d.2.1),I d.2.2.1,I d.2.2.2.1,I d.2.2.2.2.1,I d.2.2.2.2.2.1,I d.2.2.2.2.2.2.1,I d.2.2.2.2.2.2.2.1,I d.2.2.2.2.2.2.2.2.1,I d.2.2.2.2.2.2.2.2.2.1,.q 5 (map CM.c d.2.2.2.2.2.2.2.2.2.2.1),.q 4 (map Ae.c d.2.2.2.2.2.2.2.2.2.2.2.1),.q 4 (map CF.c d.2.2.2.2.2.2.2.2.2.2.2.2.1)],.dead,.dead,.dead,.r 50 4 (map CF.c [{AT:=q,BU:=t,As:=0,BM:=AD:CF}]),.dead,.r 77 4 (map CC.c ac.1),.r 77 4 (map CC.c ad.1),.r 75 2 (map CW.c j.1),.c 55 [.o 9 (AI j.1) 2]]) ?_ ?_
 .refine Qg [] (C7.fn call9 Z Z Z) ((j3 _ _ _ _ _ _ _).c _ P) ?_;rintro _ _ ⟨rfl,rfl⟩;exact FE Z Wp
 refine Db 4 Z (DB.done Z (Go 11 Z (Cn Z h (λ_ h=>?_) (λ_ h=>?_))))
 .exact TA 7 Z h 12 []
 refine Gc 4 Z (Bd h λm g h=>Cg m [7,8,9] [3,4,5,16,18,20] (λm=>[(113,.b m)]) Ze Zf ?_ ?_)
 .refine G0 4 Z (Is 110 g Z (λ_ g=>?_) (λ_ g=>?_))
  iterate 2 exact Gl 4 Z g [7,8,9]
 refine Cn Z h (λ_ h=>?_) (λ_ h=>?_)
 .exact TA 7 Z h 12 []
 refine Gc 8 Z (Cb h (jr _ _ _).c Z (lo (ls ln)) λaq ah h=>Go 3 Z (Cn Z h (λ_ h=>?_) (λ_ h=>?_)))
 .refine Gc 5 Z ?_;refine Et (Yk [(16,_),(120,_)] Z Z (Cy.cons Z Ep (Cy.cons Z Ep Cy.nil)) (Ec (QU _))) ?_;exact Cd [] h (ja _ _ _).c Z λar ai h=>FE Z (Cb h (bB _ _ _).c Z (lo (lo ln)) λav aj h=>Gt 5 Z h 12 [])
 exact Gc 6 Z (Cb h (bB _ _ _).c Z (lo (lo ln)) λaw ak h=>Gt 4 Z h 12 [])
end Go.Sw
