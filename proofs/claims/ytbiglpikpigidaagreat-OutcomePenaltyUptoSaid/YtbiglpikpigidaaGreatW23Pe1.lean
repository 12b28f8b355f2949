/- What the functions compute that OutcomePenalty reaches, and that their calls refine it (part 1 of 6). -/
import Derived.Test.YtbiglpikpigidaaGreatW23PeB
import Derived.Test.YtbiglpikpigidaaGreatV23Pe
set_option linter.unusedVariables false
set_option linter.unusedSimpArgs false
set_option maxRecDepth 100000
set_option maxHeartbeats 4000000
namespace Go.Sw
open Option renaming some→AC,none→AF,bind→AH
open Bool renaming false→AD,true→AE
open Decidable renaming decide→AG
open List renaming length→AI
variable (n:Nat)
open List(map)
open Int(toNat)
open Go.IntKind(i64 u64 u8)
open Go.Proofs Tryz
def e8(n:Nat)(d:Int):AB (AA AN):=AH ((bif 0<d then AC [{Al:=1,B9:=1,Bu:=d:CO}]else AC []):AB (AA CO)) λf=>AC [{Ap:=[100],Ad:=[UA,{UA with Al:=1:CH}],A':=1,Ar:=f,An:=(-1):AN}]
instance va(g:Int):Kq (e8 n g) 64 [I g] [] (λr=>.a [.str [99],.o 0 ([{Ap:=[115],AW:=1:Al},{Ap:=[101],AW:=3:Al}].length) 2,.o 1 ([{BA:=0,To:=1,Bn:=10,Br:=1000:Cr}].length) 4,.o 2 (AI r) 5,.o 3 ([{Ap:=[119],B_:=0:A3}].length) 2,.q 4 (map AZ.c []),.q 3 (map AX.c []),.q 4 (map CQ.c []),.o 4 ([{UI with AW:=1,By:=4:AY}].length) 8,I 0,I 0,I 0,I 0,I 0,I 0,I 0]) (λr=>[.r 214 2 (map Al.c [{Ap:=[115],AW:=1:Al},{Ap:=[101],AW:=3:Al}]),.r 221 4 (map Cr.c [{BA:=0,To:=1,Bn:=10,Br:=1000:Cr}]),.r 66 5 (map AN.c r),.r 68 2 (map A3.c [{Ap:=[119],B_:=0:A3}]),.r 257 8 (map AY.enc [{UI with AW:=1,By:=4:AY}]),.c 33 [.str [99],.o 0 ([{Ap:=[115],AW:=1:Al},{Ap:=[101],AW:=3:Al}].length) 2,.o 1 ([{BA:=0,To:=1,Bn:=10,Br:=1000:Cr}].length) 4,.o 2 (AI r) 5,.o 3 ([{Ap:=[119],B_:=0:A3}].length) 2,.q 4 (map AZ.c []),.q 3 (map AX.c []),.q 4 (map CQ.c []),.o 4 ([{UI with AW:=1,By:=4:AY}].length) 8,I 0,I 0,I 0,I 0,I 0,I 0,I 0]]):=by
 refine Kg 9 func64 Z Z Z Z λr h=>vH (Ek (xs:=[.tmp 4,.tmp 5]) cH Z Z Z Z Z ⟨Z,Z,trivial⟩ Z Z) ?_;refine Fg 12 Z Z (Bd h λf d h=>Cg f [0,2,1] [2,3] Ze (λf=>[(1,.c 66 [.str [100],.o 2 ([UA,{UA with Al:=1:CH}].length) 3,I 1,.q 3 (map CO.c f),I (-1)])]) Zf ?_ ?_)
 .refine G0 0 Z (Cn Z d (λ_ d=>?_) (λ_ d=>?_))
  .refine Gc 3 Z (vH (Ek (xs:=[.tmp 11]) cG Z Z Z Z Z ⟨Z,trivial⟩ Z Z) (Fg 3 Z Z ?_));cases d;exact En (Yk [(12,_)] Z Z (Cy.cons Z Ep Cy.nil) (Ec (Ec (Do.cells (CY.k (CY.k (CY.k (Ed Ep (Ej _))))) (Ec (QU _)))))) (Lr [0,2,1])
  exact au d
 refine Gc 4 Z (vH (Ek (xs:=[.tmp 14,.tmp 15]) cL Z Z Z Z Z ⟨Z,Z,trivial⟩ Z Z) (Fg 1 Z Z (vH (Ek (xs:=[.tmp 17]) cJ Z Z Z Z Z ⟨Z,trivial⟩ Z Z) ?_)));refine Fg 1 Z Z ?_;refine Et (Yk [(19,_)] Z Z (Cy.cons Z (DQ.agg (CY.k (Ed Ep (Ej _)))) Cy.nil) (Ec (Do.cells (CY.k (Ed Ep (Ej _))) (Ec (QU _))))) (vH (Ek (xs:=[.tmp 19]) cI Z Z Z Z Z ⟨Z,trivial⟩ Z Z) ?_);exact au h
def LD(n:Nat):AB Unit:=AC ()
instance gD:Kq (LD n) 22 [] [] (λ_=>.a [.q 3 (map CD.c []),.o 0 ([[0]].length) 1]) (λ_=>[.r 73 1 (map (Qu 1 eI) [[0]]),.c 39 [.q 3 (map CD.c []),.o 0 ([[0]].length) 1]]):=by
 refine Kg 7 func22 Z Z Z Z λr h=>vH (Ek (xs:=[.const (.int .i64 0)]) QF Z Z Z Z Z ⟨Z,trivial⟩ Z Z) ?_;refine Et (Yk [(1,_)] Z Z (Cy.cons Z Ep Cy.nil) (Ec (Ec (QU _)))) ?_;refine vH (Ek (xs:=[.tmp 1]) og Z Z Z Z Z ⟨Z,trivial⟩ Z Z) (Fg 5 Z Z ?_);exact Rx [2,0] [0] Z (JP Z (Yh isAgg39 sizeOf39 Z Z Z)) ⟨Z,Z⟩
def T_(n:Nat)(f:AA CF)(d:Ui×Int):AB (CG (Ui×Int) Ui):=(bif d.2<(AI f:Int) then AH (CJ f d.2) λg=>AC (.k ({d.1 with BY:=i64.wrap (d.1.BY+g.As):Ui},i64.wrap (d.2+1)))else AC (.d d.1))
def PY(f:CB)(g:CE)(h:AP)(j:AA CM)(m:AA Ae)(d:AA CF)(q:Int):AB Ui:=AH (iter (T_ n d) n ({A0:=f,Bj:=g,Ag:=h,Bv:=j,Bq:=m,BP:=d,BY:=0,Aj:=q:Ui},0):AB Ui) λt=>AC t
instance yV(g:CB)(j:CE)(m:AP)(q:AA CM)(t:AA Ae)(x:AA CF)(y:Int):Kq (PY n g j m q t x y) 31 [.a (CB.c g),.a (CE.c j),.a (AP.c m),.q 5 (map CM.c q),.q 4 (map Ae.c t),.q 4 (map CF.c x),I y] [] (λr=>.a (Ui.c r)) (λr=>[.c 123 (Ui.c r)]):=by
 refine Kg 26 func31 Z Z Z Z λr h=>Lg 3 Z Z (Bd h λf F h=>Cg f [0,1] [] (λ_=>[(14,.p 0 0),(15,.p 1 0)]) (λf=>[(0,.c 123 (Ui.c FJ)),(1,.c 123 (Ui.c f))]) Zf ?_ ?_)
 .refine G0 1 Z (Lp [3,4] [14,15,26,27] (λd=>[(28,I d.2)]) (λd=>[(1,.c 123 (Ui.c d.1))]) F Zf (Lr [3,4]) λd G B E=>?_);exact Jd E B
 exact au h
def L_(n:Nat)(j:AA CH)(m:Int)(rec12:(AA CH)->Int->AB (Int×Int))(d:Int×Int×Int):AB (CG (Int×Int×Int) (Int×Int)):=(bif d.2.2<(AI j:Int) then AH (AH (CJ j d.2.2) λg=>AH ((bif ((AI g.Ac:Int)==0)then AC AE else(bif (m==0)then AC AE else AC (AG (256<d.2.1)))):AB Bool) λq=>(bif q then AC (d.1,d.2.1)else AH (rec12 g.Ac (i64.wrap (m-1))) λf=>AC ((if d.1<i64.wrap (f.1+1)then i64.wrap (f.1+1)else d.1),i64.wrap (d.2.1+f.2))):AB (Int×Int)) λh=>AC (.k (h.1,h.2,i64.wrap (d.2.2+1)))else AC (.d (d.1,d.2.1)))
def P8(rec12:(AA CH)->Int->AB (Int×Int))(n:Nat)(f:AA CH)(g:Int):AB (Int×Int):=AH (iter (L_ n f g rec12) n (0,(AI f:Int),0):AB (Int×Int)) λd=>AC (d.1,d.2)
theorem QdD(rec12:(AA CH)->Int->AB (Int×Int))(F:∀(q:AA CH) (t:Int),Ks (rec12 q t) 222 [.q 3 (map CH.enc q),I t] [] (λr=>.t [I r.1,I r.2]))(n:Nat)(q:AA CH)(t:Int):Ks (P8 rec12 n q t) 222 [.q 3 (map CH.enc q),I t] [] (λr=>.t [I r.1,I r.2]):=by
 refine Kg 9 func222 Z Z Z Z λr h=>Lg 7 Z Z (Lg 3 Z Z (Bd h λg G h=>Cg g [] [] (λg=>[(4,I g.1),(5,I g.2)]) Ze Zf ?_ ?_))
 .refine G0 1 Z (Lp [] [1,12,13] (λj=>[(4,I j.1),(5,I j.2.1),(14,I j.2.2)]) Ze G Zf (Lr []) λj L d y=>?_);refine G0 6 Z (Q8 Z d (λ_ d=>?_) (λ_ d=>?_))
  .exact Jd y d
  refine Gc 3 Z (Bd d λm f d=>Cg m [] [1,12,13,14] (λm=>[(4,I m.1),(5,I m.2)]) Ze Zf ?_ ?_)
  .refine G0 3 Z (Bd f λH E f=>FU E (QO H) Z (Go 7 Z (Bd f λx J f=>Cg x [0] [1,4,5,7,12,13,14] (λx=>[(29,.b x)]) Ze Zf ?_ ?_)))
   .exact au J
   exact au f
  exact au d
 exact au h
def KG:Nat->(AA CH)->Int->AB (Int×Int)
  |0=>λ_ _=>AF
  |n+1=>P8 (KG n) n
instance z8:∀(d:AA CH) (f:Int),Ks (KG n d f) 222 [.q 3 (map CH.enc d),I f] [] (λr=>.t [I r.1,I r.2]):=by
  induction n with
  |zero=>exact λ_ _=>⟨nofun⟩
  |succ n ih=>exact QdD _ ih n
def VZ(h:CB)(d:Int):AB (CG Int (CG Unit Bool)):=(bif d<(AI h.AO:Int) then AH (CJ h.AO d) λf=>AH (KG n f.Ad 17) λg=>AH ((bif 64<(AI f.Ar:Int) then AC AE else(bif 16<g.1 then AC AE else AC (AG (256<g.2)))):AB Bool) λj=>(bif j then AC (.d (.d AD))else AC (.k (i64.wrap (d+1))))else AC (.d (.k ())))
def O7(d:CB):AB Bool:=AH ((bif 40<(AI d.Au:Int) then AC AE else(bif 512<(AI d.Az:Int) then AC AE else(bif 8<(AI d.AO:Int) then AC AE else(bif 32<(AI d.A4:Int) then AC AE else(bif 32<(AI d.Ab:Int) then AC AE else(bif 32<(AI d.AV:Int) then AC AE else AC (AG (32<(AI d.Ay:Int))))))))):AB Bool) λh=>(bif h then AC AD else AH (iter (VZ n d) n 0:AB (CG Unit Bool)) λg=>match g with|.k f=>(AC AE)|.d f=>AC f)
instance xv(d:CB):Ks (O7 n d) 154 [.a (CB.c d)] [] (λr=>.b r):=KA func154
def MA(n:Nat)(d:(AA Int)×Int):AB (CG ((AA Int)×Int) (AA Int)):=(bif d.2<=122 then AH (Lt 256 d.1 d.2) λh=>AH (JK d.1 d.2 2) λf=>AH (Lt 256 f (u8.wrap (d.2-32))) λj=>AH (JK f (u8.wrap (d.2-32)) 2) λg=>AC (.k (g,u8.wrap (d.2+1)))else AC (.d d.1))
def OB(n:Nat)(d:(AA Int)×Int):AB (CG ((AA Int)×Int) (AA Int)):=(bif d.2<=57 then AH (Lt 256 d.1 d.2) λg=>AH (JK d.1 d.2 3) λf=>AC (.k (f,u8.wrap (d.2+1)))else AC (.d d.1))
def UW(n:Nat)(d:(AA Int)×Int):AB (CG ((AA Int)×Int) (AA Int)):=(bif d.2<([123,125,40,41,91,93,59,44,61,60,62].length:Int) then AH (CJ [123,125,40,41,91,93,59,44,61,60,62] d.2) λf=>AH (Lt 256 d.1 f) λh=>AH (JK d.1 f 4) λg=>AC (.k (g,i64.wrap (d.2+1)))else AC (.d d.1))
def ee(n:Nat)(d:(AA Int)×Int):AB (CG ((AA Int)×Int) (AA Int)):=(bif d.2<(([32,9,10,13].length):Int) then AH (CJ [32,9,10,13] d.2) λf=>AH (Lt 256 d.1 f) λh=>AH (JK d.1 f 1) λg=>AC (.k (g,i64.wrap (d.2+1)))else AC (.d d.1))
def Pt:AB (AA Int):=AH (iter (MA n) n (List.replicate 256 0,97):AB (AA Int)) λf=>AH (iter (OB n) n (f,48):AB (AA Int)) λg=>AH (iter (UW n) n (g,0):AB (AA Int)) λh=>AH (iter (ee n) n (h,0):AB (AA Int)) λd=>AH (Ng 256 d) λj=>AH (Ng 256 d) λq=>AH (Ng 256 j) λm=>AC m
instance jg:Kq (Pt n) 325 [] [] (λr=>.a (List.flatten (map (Yp .u8) r))) (λr=>[.r 447 1 (map (Yp .u8) r)]):=by
 refine Kg 2 func325 Z Z Z Z λr h=>vH (ua (n:=256) (k:=1) (e:=(Yp .u8)) (z:=0) zeroValue447 (by kernel_rfl) (by kernel_rfl) (by kernel_rfl) Z) ?_;refine Fg 8 Z Z (Bd h λG an h=>Ct G [0] [0] Ze (λG=>[(0,.r 447 1 (map (Yp .u8) G))]) Zf ?_ (λenv H y=>?_))
 .refine G0 1 Z (Lp [0] [0] (λq=>[(1,.i .u8 q.2)]) (λq=>[(0,.r 447 1 (map (Yp .u8) q.1))]) an Zf (Lr [0]) λq az d W=>?_);refine G0 7 Z (Q8 Z d (λ_ d=>?_) (λ_ d=>?_))
  .exact Jd W d
  refine Gc 8 Z (Bd d λba J d=>?_);refine vX (.p 0 (toNat q.2*1)) (Zt (n:=256) (k:=1) (l:=q.1) J E9 Ga Z) ?_;refine Bd d λao Y d=>?_;refine vU (Yv (e:=(Yp .u8)) (k:=1) (f:=0) (Sz J).2 Y Ga Z Z) ?_;refine FE Z (Bd d λbb L d=>?_);refine vX (.p 0 (toNat (u8.wrap (q.2-32))*1)) (Zt (n:=256) (k:=1) (l:=ao) L E9 Ga Z) ?_;refine Bd d λbc aa d=>?_;refine vU (Yv (e:=(Yp .u8)) (k:=1) (f:=0) (Sz L).2 aa Ga Z Z) ?_;exact au d
 refine Gx 1 Z (Ee y (Gc 6 Z (Bd h λM aq h=>Ct M [0] [0] Ze (λM=>[(0,.r 447 1 (map (Yp .u8) M))]) Zf ?_ (λenv H y=>?_))))
 .refine G0 1 Z (Lp [0] [0] (λt=>[(2,.i .u8 t.2)]) (λt=>[(0,.r 447 1 (map (Yp .u8) t.1))]) aq Zf (Lr [0]) λt bd m ab=>?_);refine G0 7 Z (Q8 Z m (λ_ m=>?_) (λ_ m=>?_))
  .exact Jd ab m
  refine Gc 6 Z (Bd m λbe N m=>?_);refine vX (.p 0 (toNat t.2*1)) (Zt (n:=256) (k:=1) (l:=t.1) N E9 Ga Z) ?_;refine Bd m λbg ad m=>?_;refine vU (Yv (e:=(Yp .u8)) (k:=1) (f:=0) (Sz N).2 ad Ga Z Z) ?_;exact au m
 refine Gx 1 Z (Ee y (Gc 3 Z (vH (Ek (xs:=[.const (.int .u8 123),.const (.int .u8 125),.const (.int .u8 40),.const (.int .u8 41),.const (.int .u8 91),.const (.int .u8 93),.const (.int .u8 59),.const (.int .u8 44),.const (.int .u8 61),.const (.int .u8 60),.const (.int .u8 62)]) (es:=map (Yp .u8) [123,125,40,41,91,93,59,44,61,60,62]) Nx Z Z Z Z Z ⟨Z,Z,Z,Z,Z,Z,Z,Z,Z,Z,Z,trivial⟩ Z Z) ?_)));refine FE Z (vH (QmX (es:=map (Yp .u8) [123,125,40,41,91,93,59,44,61,60,62]) underlying279 underlying5 (X2 ..) Z) ?_);refine FE Z (Lg 3 Z Z (Bd h λO ar h=>Ct O [0] [0] Ze (λO=>[(0,.r 447 1 (map (Yp .u8) O))]) Zf ?_ (λenv H y=>?_)))
 .refine G0 1 Z (Lp [0] [0,23,24] (λB=>[(25,I B.2)]) (λB=>[(0,.r 447 1 (map (Yp .u8) B.1))]) ar Zf (Lr [0]) λB bh g ae=>?_);refine G0 6 Z (Q8 Z g (λ_ g=>?_) (λ_ g=>?_))
  .exact Jd ae g
  refine Gc 6 Z (Bd g λav ag g=>Iz ag Z (Go 6 Z (Bd g λbi P g=>?_)));refine vX (.p 0 (toNat av*1)) (Zt (n:=256) (k:=1) (l:=B.1) P E9 Ga Z) ?_;refine Bd g λbj ah g=>?_;refine vU (Yv (e:=(Yp .u8)) (k:=1) (f:=0) (Sz P).2 ah Ga Z Z) ?_;exact au g
 refine Gx 1 Z (Ee y (Gc 3 Z (vH (Ek (xs:=[.const (.int .u8 32),.const (.int .u8 9),.const (.int .u8 10),.const (.int .u8 13)]) (es:=map (Yp .u8) [32,9,10,13]) Nx Z Z Z Z Z ⟨Z,Z,Z,Z,trivial⟩ Z Z) ?_)));refine Fg 4 Z Z (Bd h λF aw h=>Cg F [0] [0] Ze (λF=>[(0,.r 447 1 (map (Yp .u8) F))]) Zf ?_ ?_)
 .refine G0 1 Z (Lp [0,1] [0,32,33] (λx=>[(34,I x.2)]) (λx=>[(0,.r 447 1 (map (Yp .u8) x.1))]) aw Zf (Lr [0,1]) λx bk j ai=>?_);refine G0 6 Z (Q8 Z j (λ_ j=>?_) (λ_ j=>?_))
  .exact Jd ai j
  refine Gc 6 Z (Bd j λV Q j=>?_);refine vX (.p 1 (toNat x.2*1)) (Qd Q Z EX Ga) ?_;refine vX (.i .u8 V) (Ez Z isAgg5 Z (Qh Q)) ?_;refine Go 5 Z (Bd j λbl R j=>?_);refine vX (.p 0 (toNat V*1)) (Zt (n:=256) (k:=1) (l:=x.1) R E9 Ga Z) ?_;refine Bd j λbm ak j=>?_;refine vU (Yv (e:=(Yp .u8)) (k:=1) (f:=0) (Sz R).2 ak Ga Z Z) ?_;exact au j
 refine Gc 2 Z (Bd h λax al h=>?_);refine vX (.a (List.flatten (map (Yp .u8) ax))) (Qjs (e:=(Yp .u8)) al Zf Z isAgg447 G2) ?_;refine Bd h λbn am h=>Bd h λay E h=>?_;obtain⟨T,rfl⟩:=Ss am;refine vU (uc (e:=(Yp .u8)) (l:=F) (l':=ay) T (lD E) Zf Z G2 Zf Zf (congrArg (λl=>List.flatten (map (Yp .u8) l)) (Ss E).2.symm)) ?_;refine Fg 3 Z Z ?_;obtain rfl:=Oi h;exact Rx [0] [0] Z (JP Z (QmM (e:=(Yp .u8)) (lD E) Zf Z isAgg447 G2)) ⟨Z,Z⟩
def VN(n:Nat)(g:AA UInt8)(q:AA Int)(d:Int):AB (CG Int (CG Unit Bool)):=(bif d<(AI g:Int) then AH (CJ g d) λh=>AH (Lt 256 q (h.toNat:Int)) λf=>AH ((bif (f != 2)then(bif (d==0)then AC AE else(bif (f != 3)then AH (CJ g d) λj=>AC ((j.toNat:Int) != 95)else AC AD))else AC AD):AB Bool) λm=>(bif m then AC (.d (.d AD))else AC (.k (i64.wrap (d+1))))else AC (.d (.k ())))
def Pf(f:AA UInt8):AB Bool:=AH (Pt n) λh=>AH (Ng 256 (List.replicate 256 0)) λm=>AH (Ng 256 h) λj=>AH (iter (VN n f j) n 0:AB (CG Unit Bool)) λg=>match g with|.k d=>(AC (f != []))|.d d=>AC d
instance yc(y:AA UInt8):Ks (Pf n y) 312 [.str y] [] (λr=>.b r):=by
 refine Kg 7 func312 Z Z Z Z λr h=>Bd h λP B h=>?_;refine Qg [] (C7.fn call325 Z Z Z) ((jg _).c _ B) ?_;rintro _ _ ⟨rfl,rfl⟩;refine Nw (Qp9 (e:=(Yp .u8)) Zf _ _) Z ?_;refine vH (ua (n:=256) (k:=1) (e:=(Yp .u8)) (z:=0) zeroValue447 (by kernel_rfl) (by kernel_rfl) (by kernel_rfl) Z) ?_;refine FE Z (Bd h λQ E h=>Bd h λF j h=>?_);obtain⟨q,rfl⟩:=Ss E;refine vU (uc (e:=(Yp .u8)) (l:=(List.replicate 256 0)) (l':=F) q (lD j) Zf Z G2 Zf Zf (congrArg (λl=>List.flatten (map (Yp .u8) l)) (Ss j).2.symm)) ?_;refine Fg 6 Z Z ?_;refine vV (t8 Z Z Gh Z) ?_;refine Go 3 Z (Bd h λG H h=>D_ (b:=G) [] [0] Ze Ze Zf ?_ (λ_ J=>?_))
 .refine G0 1 Z (Lp [1] [0,3,8] (λm=>[(9,I m)]) Ze H Zf (Lr [1]) λm O d f=>?_);refine G0 6 Z (Q8 Z d (λ_ d=>?_) (λ_ d=>?_))
  .exact Jd f d
  refine Gc 14 Z (Bd d λL x d=>?_);refine vX (.i .u8 (L.toNat:Int)) (uA x Gh) ?_;refine Bd d λM g d=>?_;refine vV (Zt (n:=256) (k:=1) (l:=F) g E9 Ga Z) ?_;refine vX (.i .u8 M) (Ez Z isAgg5 Z (Qh (Sz g).2)) ?_;exact DX f d h
 subst J;exact au h
def Wx(d:AA UInt8):AB Bool:=AH (AH (Pf n d) λj=>(bif j then AH (cat [32] d) λf=>AH (cat f [32]) λg=>AH (dV [32,99,111,117,114,115,101,32,109,97,116,115,32,115,116,97,114,116,32,112,97,115,115,32,101,110,100,32,108,101,103,32,116,111,32,100,105,115,116,97,110,99,101,32,103,117,110,32,99,104,105,112,32,115,108,111,116,32,108,97,112,115,32,108,97,112,32,99,117,116,111,102,102,32,101,120,116,114,97,32,119,97,118,101,32,111,102,102,101,110,99,101,32,111,117,116,32,99,97,116,101,103,111,114,121,32,112,114,105,122,101,32,97,108,108,32,116,105,101,115,32,105,102,32,101,108,115,101,32,97,110,100,32,111,114,32,110,111,116,32,111,108,100,101,114,32,121,111,117,110,103,101,114,32,98,105,98,32,100,114,97,119,32,102,105,101,108,100,32,115,104,111,114,116,32,102,97,117,108,116,115,32,109,105,115,115,101,115,32,115,116,114,97,121,115,32,119,105,110,100,111,119,32,114,101,115,105,100,117,97,108,32,100,114,105,102,116,32,112,114,111,116,101,115,116,32,102,101,101,32,100,101,97,100,108,105,110,101,32] g) λh=>AC h else AC AD):AB Bool) λm=>AC m
instance xG(q:AA UInt8):Ks (Wx n q) 282 [.str q] [] (λr=>.b r):=by
 refine Kg 6 func282 Z Z Z Z λr h=>Bd h λf d h=>Cg f [] [] (λf=>[(2,.b f)]) Ze Zf ?_ ?_
 .refine G0 2 Z (Cz [] d Kc Z λF x d=>Go 1 Z (Is 5 d Z (λ_ d=>?_) (λ_ d=>?_)))
  .refine Go 1 Z (Bd d λy g d=>?_);refine vV (t_ g) (Bd d λB j d=>?_) (gT Z);refine vV (t_ j) (Bd d λE m d=>?_) (gT Z);refine Qg [] (C7.fn call313 Z Z Z) (C.contains QdG Z m) ?_ (hg:=(gT Z));rintro _ _ ⟨rfl,rfl⟩;exact au d
  exact au d
 exact au h
def OD(n:Nat)(g:AA UInt8)(f:Int):AB (CG Int (CG Unit Bool)):=(bif f<(AI g:Int) then AH (CJ g f) λd=>AH ((bif (d.toNat:Int)<97 then(bif (d.toNat:Int)<48 then AC ((d.toNat:Int) != 95)else(bif 57<(d.toNat:Int) then AC ((d.toNat:Int) != 95)else AC AD))else(bif 122<(d.toNat:Int) then(bif (d.toNat:Int)<48 then AC ((d.toNat:Int) != 95)else(bif 57<(d.toNat:Int) then AC ((d.toNat:Int) != 95)else AC AD))else AC AD)):AB Bool) λh=>(bif h then AC (.d (.d AD))else AC (.k (i64.wrap (f+1))))else AC (.d (.k ())))
def HE(d:AA UInt8):AB Bool:=AH ((bif (AI d:Int)<1 then AC AE else(bif 24<(AI d:Int) then AC AE else AH (CJ d 0) λg=>(bif (g.toNat:Int)<97 then AC AE else AH (CJ d 0) λh=>AC (AG (122<(h.toNat:Int)))))):AB Bool) λq=>(bif q then AC AD else AH (iter (OD n d) n 0:AB (CG Unit Bool)) λj=>match j with|.k f=>(AH (Wx n d) λm=>AC (!m))|.d f=>AC f)
instance zw(d:AA UInt8):Ks (HE n d) 223 [.str d] [] (λr=>.b r):=KA func223
def WM(n:Nat)(d:Al):AB Unit:=AC ()
instance wT(d:Al):Ks (WM n d) 225 [.a (Al.c d)] [] (λ_=>.str d.Ap):=KA func225
def nP(g:AA Al)(d:(AA (AA UInt8×Bool))×Int):AB (CG ((AA (AA UInt8×Bool))×Int) (CG Unit Bool)):=(bif d.2<(AI g:Int) then AH (CJ g d.2) λf=>AH (WM n f) λt=>AH (AH (HE n f.Ap) λh=>(bif (!h)then AC AE else AH (AC (Qm d.1 f.Ap AD)) λj=>AC j):AB Bool) λm=>(bif m then AC (.d (.d AD))else AH (AC (QL d.1 f.Ap AE)) λq=>AC (.k (q,i64.wrap (d.2+1))))else AC (.d (.k ())))
def Wa(g:AA Al):AB Bool:=AH (iter (nP n g) n ([],0):AB (CG Unit Bool)) λf=>match f with|.k d=>(AC AE)|.d d=>AC d
instance wm(F:AA Al):Ks (Wa n F) 224 [.q 2 (map Al.c F),.f 225] [] (λr=>.b r):=by
 refine Kg 7 func224 Z Z Z Z λr h=>vH Yi ?_;refine Fg 7 Z Z (Lg 3 Z Z (Bd h λG H h=>D_ (b:=G) [] [] Ze Ze Zf ?_ (λ_ J=>?_)))
 .refine G0 1 Z (Lp [0] [1,5,10,11] (λg=>[(12,I g.2)]) (λg=>[(0,.map (Qn A.str A.b g.1))]) H Zf (Lr [0]) λg O d j=>?_);refine G0 6 Z (Q8 Z d (λ_ d=>?_) (λ_ d=>?_))
  .exact Jd j d
  refine Gc 6 Z (Bd d λP t d=>Iz t Z (Go 9 Z (Cz [] d Kc Z λQ M d=>Go 5 Z (Bd d λm f d=>Cg m [0] [1,5,8,10,11,12] (λm=>[(26,.b m)]) Ze Zf ?_ ?_))))
  .refine G0 2 Z (Cz [] f Kc Z λR N f=>Go 2 Z (Is 22 f Z (λ_ f=>?_) (λ_ f=>?_)))
   .exact au f
   .refine Go 2 Z (Bd f λT y f=>(vV (Q7 L1 y E0 E7 ZR.bool) ?_ (gT Z)));exact au f
  refine Cn Z d (λ_ d=>?_) (λ_ d=>?_)
  .exact DX j d h
  refine Gc 5 Z (Bd d λV E d=>(vU (Ye L1 E Z E0) ?_));exact au d
 subst J;exact au h
def Wk(n:Nat)(d:AN):AB Unit:=AC ()
instance wz(d:AN):Ks (Wk n d) 227 [.a (AN.c d)] [] (λ_=>.str d.Ap):=KA func227
def nR(g:AA AN)(d:(AA (AA UInt8×Bool))×Int):AB (CG ((AA (AA UInt8×Bool))×Int) (CG Unit Bool)):=(bif d.2<(AI g:Int) then AH (CJ g d.2) λf=>AH (Wk n f) λt=>AH (AH (HE n f.Ap) λh=>(bif (!h)then AC AE else AH (AC (Qm d.1 f.Ap AD)) λj=>AC j):AB Bool) λm=>(bif m then AC (.d (.d AD))else AH (AC (QL d.1 f.Ap AE)) λq=>AC (.k (q,i64.wrap (d.2+1))))else AC (.d (.k ())))
def WS(g:AA AN):AB Bool:=AH (iter (nR n g) n ([],0):AB (CG Unit Bool)) λf=>match f with|.k d=>(AC AE)|.d d=>AC d
instance wZ(F:AA AN):Ks (WS n F) 226 [.q 5 (map AN.c F),.f 227] [] (λr=>.b r):=by
 refine Kg 7 func226 Z Z Z Z λr h=>vH Yi ?_;refine Fg 7 Z Z (Lg 3 Z Z (Bd h λG H h=>D_ (b:=G) [] [] Ze Ze Zf ?_ (λ_ J=>?_)))
 .refine G0 1 Z (Lp [0] [1,5,10,11] (λg=>[(12,I g.2)]) (λg=>[(0,.map (Qn A.str A.b g.1))]) H Zf (Lr [0]) λg O d j=>?_);refine G0 6 Z (Q8 Z d (λ_ d=>?_) (λ_ d=>?_))
  .exact Jd j d
  refine Gc 6 Z (Bd d λP t d=>Iz t Z (Go 9 Z (Cz [] d Kc Z λQ M d=>Go 5 Z (Bd d λm f d=>Cg m [0] [1,5,8,10,11,12] (λm=>[(26,.b m)]) Ze Zf ?_ ?_))))
  .refine G0 2 Z (Cz [] f Kc Z λR N f=>Go 2 Z (Is 22 f Z (λ_ f=>?_) (λ_ f=>?_)))
   .exact au f
   .refine Go 2 Z (Bd f λT y f=>(vV (Q7 L1 y E0 E7 ZR.bool) ?_ (gT Z)));exact au f
  refine Cn Z d (λ_ d=>?_) (λ_ d=>?_)
  .exact DX j d h
  refine Gc 5 Z (Bd d λV E d=>(vU (Ye L1 E Z E0) ?_));exact au d
 subst J;exact au h
def WD(n:Nat)(d:A3):AB Unit:=AC ()
instance wM(d:A3):Ks (WD n d) 229 [.a (A3.c d)] [] (λ_=>.str d.Ap):=KA func229
def nQ(g:AA A3)(d:(AA (AA UInt8×Bool))×Int):AB (CG ((AA (AA UInt8×Bool))×Int) (CG Unit Bool)):=(bif d.2<(AI g:Int) then AH (CJ g d.2) λf=>AH (WD n f) λt=>AH (AH (HE n f.Ap) λh=>(bif (!h)then AC AE else AH (AC (Qm d.1 f.Ap AD)) λj=>AC j):AB Bool) λm=>(bif m then AC (.d (.d AD))else AH (AC (QL d.1 f.Ap AE)) λq=>AC (.k (q,i64.wrap (d.2+1))))else AC (.d (.k ())))
def V5(g:AA A3):AB Bool:=AH (iter (nQ n g) n ([],0):AB (CG Unit Bool)) λf=>match f with|.k d=>(AC AE)|.d d=>AC d
instance wD(F:AA A3):Ks (V5 n F) 228 [.q 2 (map A3.c F),.f 229] [] (λr=>.b r):=by
 refine Kg 7 func228 Z Z Z Z λr h=>vH Yi ?_;refine Fg 7 Z Z (Lg 3 Z Z (Bd h λG H h=>D_ (b:=G) [] [] Ze Ze Zf ?_ (λ_ J=>?_)))
 .refine G0 1 Z (Lp [0] [1,5,10,11] (λg=>[(12,I g.2)]) (λg=>[(0,.map (Qn A.str A.b g.1))]) H Zf (Lr [0]) λg O d j=>?_);refine G0 6 Z (Q8 Z d (λ_ d=>?_) (λ_ d=>?_))
  .exact Jd j d
  refine Gc 6 Z (Bd d λP t d=>Iz t Z (Go 9 Z (Cz [] d Kc Z λQ M d=>Go 5 Z (Bd d λm f d=>Cg m [0] [1,5,8,10,11,12] (λm=>[(26,.b m)]) Ze Zf ?_ ?_))))
  .refine G0 2 Z (Cz [] f Kc Z λR N f=>Go 2 Z (Is 22 f Z (λ_ f=>?_) (λ_ f=>?_)))
   .exact au f
   .refine Go 2 Z (Bd f λT y f=>(vV (Q7 L1 y E0 E7 ZR.bool) ?_ (gT Z)));exact au f
  refine Cn Z d (λ_ d=>?_) (λ_ d=>?_)
  .exact DX j d h
  refine Gc 5 Z (Bd d λV E d=>(vU (Ye L1 E Z E0) ?_));exact au d
 subst J;exact au h
def WR(n:Nat)(d:AZ):AB Unit:=AC ()
instance wY(d:AZ):Ks (WR n d) 231 [.a (AZ.c d)] [] (λ_=>.str d.Ap):=KA func231
def nn(g:AA AZ)(d:(AA (AA UInt8×Bool))×Int):AB (CG ((AA (AA UInt8×Bool))×Int) (CG Unit Bool)):=(bif d.2<(AI g:Int) then AH (CJ g d.2) λf=>AH (WR n f) λt=>AH (AH (HE n f.Ap) λh=>(bif (!h)then AC AE else AH (AC (Qm d.1 f.Ap AD)) λj=>AC j):AB Bool) λm=>(bif m then AC (.d (.d AD))else AH (AC (QL d.1 f.Ap AE)) λq=>AC (.k (q,i64.wrap (d.2+1))))else AC (.d (.k ())))
def V'(g:AA AZ):AB Bool:=AH (iter (nn n g) n ([],0):AB (CG Unit Bool)) λf=>match f with|.k d=>(AC AE)|.d d=>AC d
instance wI(F:AA AZ):Ks (V' n F) 230 [.q 4 (map AZ.c F),.f 231] [] (λr=>.b r):=by
 refine Kg 7 func230 Z Z Z Z λr h=>vH Yi ?_;refine Fg 7 Z Z (Lg 3 Z Z (Bd h λG H h=>D_ (b:=G) [] [] Ze Ze Zf ?_ (λ_ J=>?_)))
 .refine G0 1 Z (Lp [0] [1,5,10,11] (λg=>[(12,I g.2)]) (λg=>[(0,.map (Qn A.str A.b g.1))]) H Zf (Lr [0]) λg O d j=>?_);refine G0 6 Z (Q8 Z d (λ_ d=>?_) (λ_ d=>?_))
  .exact Jd j d
  refine Gc 6 Z (Bd d λP t d=>Iz t Z (Go 9 Z (Cz [] d Kc Z λQ M d=>Go 5 Z (Bd d λm f d=>Cg m [0] [1,5,8,10,11,12] (λm=>[(26,.b m)]) Ze Zf ?_ ?_))))
  .refine G0 2 Z (Cz [] f Kc Z λR N f=>Go 2 Z (Is 22 f Z (λ_ f=>?_) (λ_ f=>?_)))
   .exact au f
   .refine Go 2 Z (Bd f λT y f=>(vV (Q7 L1 y E0 E7 ZR.bool) ?_ (gT Z)));exact au f
  refine Cn Z d (λ_ d=>?_) (λ_ d=>?_)
  .exact DX j d h
  refine Gc 5 Z (Bd d λV E d=>(vU (Ye L1 E Z E0) ?_));exact au d
 subst J;exact au h
def Wj(n:Nat)(d:AX):AB Unit:=AC ()
instance wy(d:AX):Ks (Wj n d) 233 [.a (AX.c d)] [] (λ_=>.str d.Ap):=KA func233
def nJ(g:AA AX)(d:(AA (AA UInt8×Bool))×Int):AB (CG ((AA (AA UInt8×Bool))×Int) (CG Unit Bool)):=(bif d.2<(AI g:Int) then AH (CJ g d.2) λf=>AH (Wj n f) λt=>AH (AH (HE n f.Ap) λh=>(bif (!h)then AC AE else AH (AC (Qm d.1 f.Ap AD)) λj=>AC j):AB Bool) λm=>(bif m then AC (.d (.d AD))else AH (AC (QL d.1 f.Ap AE)) λq=>AC (.k (q,i64.wrap (d.2+1))))else AC (.d (.k ())))
def WT(g:AA AX):AB Bool:=AH (iter (nJ n g) n ([],0):AB (CG Unit Bool)) λf=>match f with|.k d=>(AC AE)|.d d=>AC d
instance wb(F:AA AX):Ks (WT n F) 232 [.q 3 (map AX.c F),.f 233] [] (λr=>.b r):=by
 refine Kg 7 func232 Z Z Z Z λr h=>vH Yi ?_;refine Fg 7 Z Z (Lg 3 Z Z (Bd h λG H h=>D_ (b:=G) [] [] Ze Ze Zf ?_ (λ_ J=>?_)))
 .refine G0 1 Z (Lp [0] [1,5,10,11] (λg=>[(12,I g.2)]) (λg=>[(0,.map (Qn A.str A.b g.1))]) H Zf (Lr [0]) λg O d j=>?_);refine G0 6 Z (Q8 Z d (λ_ d=>?_) (λ_ d=>?_))
  .exact Jd j d
  refine Gc 6 Z (Bd d λP t d=>Iz t Z (Go 9 Z (Cz [] d Kc Z λQ M d=>Go 5 Z (Bd d λm f d=>Cg m [0] [1,5,8,10,11,12] (λm=>[(26,.b m)]) Ze Zf ?_ ?_))))
  .refine G0 2 Z (Cz [] f Kc Z λR N f=>Go 2 Z (Is 22 f Z (λ_ f=>?_) (λ_ f=>?_)))
   .exact au f
   .refine Go 2 Z (Bd f λT y f=>(vV (Q7 L1 y E0 E7 ZR.bool) ?_ (gT Z)));exact au f
  refine Cn Z d (λ_ d=>?_) (λ_ d=>?_)
  .exact DX j d h
  refine Gc 5 Z (Bd d λV E d=>(vU (Ye L1 E Z E0) ?_));exact au d
 subst J;exact au h
def Ww(d:CB):AB Bool:=AH (AH (HE n d.Ap) λf=>(bif f then AH (Wa n d.Au) λg=>(bif g then AH (WS n d.AO) λh=>(bif h then AH (V5 n d.A4) λj=>(bif j then AH (V' n d.Ab) λm=>(bif m then AH (WT n d.AV) λq=>AC q else AC AD)else AC AD)else AC AD)else AC AD)else AC AD):AB Bool) λt=>AC t
instance xF(d:CB):Ks (Ww n d) 155 [.a (CB.c d)] [] (λr=>.b r):=KA func155
def WW(n:Nat)(d:Int)(f:Int)(g:Int):AB Bool:=AH ((bif d<f then AC AE else AC (AG (g<d))):AB Bool) λh=>AC h
instance wg(d:Int)(f:Int)(g:Int):Ks (WW n d f g) 283 [I d,.p 0 0,.p 1 0] [.c 3 [I f],.c 3 [I g]] (λr=>.b r):=KA func283
def nf(f:AA Int)(j:Int)(m:Int)(d:Int):AB (CG Int (CG Unit Int)):=(bif d<(AI f:Int) then AH (CJ f d) λg=>AH (WW n g j m) λh=>(bif h then AC (.d (.d d))else AC (.k (i64.wrap (d+1))))else AC (.d (.k ())))
def fO(g:AA Int)(h:Int)(j:Int):AB Int:=AH (iter (nf n g h j) n 0:AB (CG Unit Int)) λf=>match f with|.k d=>(AC (-1))|.d d=>AC d
instance vw(d:AA Int)(f:Int)(g:Int):Ks (fO n d f g) 194 [.q 1 (map eI d),.fn (.func 283) [] [.p 0 0,.p 1 0]] [.c 3 [I f],.c 3 [I g]] (λr=>I r):=KA func194
def Wu(d:AA Int)(f:Int)(g:Int):AB Bool:=AH (fO n d f g) λh=>AC (AG (0<=h))
instance xD(d:AA Int)(f:Int)(g:Int):Ks (Wu n d f g) 121 [.q 1 (map eI d),.fn (.func 283) [] [.p 0 0,.p 1 0]] [.c 3 [I f],.c 3 [I g]] (λr=>.b r):=KA func121
def FR(d:Int)(f:Int)(g:AA Int):AB Bool:=AH (Wu n g d f) λh=>AC (!h)
instance k_a(d:Int)(f:Int)(g:AA Int):Ks (FR n d f g) 235 [I d,I f,.q 1 (map eI g)] [] (λr=>.b r):=KA func235
def OU(d:Al):AB Bool:=AH (FR n 1 3 [d.AW]) λf=>AC f
instance xP(d:Al):Ks (OU n d) 244 [.a (Al.c d)] [] (λr=>.b r):=KA func244
def fI(d:Al):AB Bool:=AH (OU n d) λf=>AC (!f)
instance vn(d:Al):Ks (fI n d) 289 [.a (Al.c d),.p 0 0] [.c 380 [.f 244]] (λr=>.b r):=KA func289
def nO(f:AA Al)(d:Int):AB (CG Int (CG Unit Int)):=(bif d<(AI f:Int) then AH (CJ f d) λg=>AH (fI n g) λh=>(bif h then AC (.d (.d d))else AC (.k (i64.wrap (d+1))))else AC (.d (.k ())))
def WY(g:AA Al):AB Int:=AH (iter (nO n g) n 0:AB (CG Unit Int)) λf=>match f with|.k d=>(AC (-1))|.d d=>AC d
instance wj(d:AA Al):Ks (WY n d) 316 [.q 2 (map Al.c d),.fn (.func 289) [] [.p 0 0]] [.c 380 [.f 244]] (λr=>I r):=KA func316
def Wv(d:AA Al):AB Bool:=AH (WY n d) λf=>AC (AG (0<=f))
instance xE(d:AA Al):Ks (Wv n d) 288 [.q 2 (map Al.c d),.fn (.func 289) [] [.p 0 0]] [.c 380 [.f 244]] (λr=>.b r):=KA func288
def OQ(d:AA Al):AB Bool:=AH (Wv n d) λf=>AC (!f)
instance xM(d:AA Al):Ks (OQ n d) 243 [.q 2 (map Al.c d),.f 244] [] (λr=>.b r):=KA func243
def Ot(d:Cr)(f:Int):AB Bool:=AH (AH (FR n 0 f [d.BA,d.To]) λg=>(bif g then AH (FR n 0 68719476736 [d.Bn,d.Br]) λh=>(bif h then AC (AG (d.Bn<=d.Br))else AC AD)else AC AD):AB Bool) λj=>AC j
instance xg(d:Cr)(f:Int):Ks (Ot n d f) 240 [.a (Cr.c d),.p 0 0] [.c 3 [I f]] (λr=>.b r):=KA func240
def e9(d:Cr)(f:Int):AB Bool:=AH (Ot n d f) λg=>AC (!g)
instance vb(d:Cr)(f:Int):Ks (e9 n d f) 291 [.a (Cr.c d),.p 0 0] [.c 222 [.fn (.func 240) [] [.p 1 0]],.c 3 [I f]] (λr=>.b r):=KA func291
def nk(f:AA Cr)(j:Int)(d:Int):AB (CG Int (CG Unit Int)):=(bif d<(AI f:Int) then AH (CJ f d) λg=>AH (e9 n g j) λh=>(bif h then AC (.d (.d d))else AC (.k (i64.wrap (d+1))))else AC (.d (.k ())))
def Wb(g:AA Cr)(h:Int):AB Int:=AH (iter (nk n g h) n 0:AB (CG Unit Int)) λf=>match f with|.k d=>(AC (-1))|.d d=>AC d
instance wn(d:AA Cr)(f:Int):Ks (Wb n d f) 98 [.q 4 (map Cr.c d),.fn (.func 291) [] [.p 0 0]] [.c 222 [.fn (.func 240) [] [.p 1 0]],.c 3 [I f]] (λr=>I r):=KA func98
def We(d:AA Cr)(f:Int):AB Bool:=AH (Wb n d f) λg=>AC (AG (0<=g))
instance wt(d:AA Cr)(f:Int):Ks (We n d f) 290 [.q 4 (map Cr.c d),.fn (.func 291) [] [.p 0 0]] [.c 222 [.fn (.func 240) [] [.p 1 0]],.c 3 [I f]] (λr=>.b r):=KA func290
def PB(d:AA Cr)(f:Int):AB Bool:=AH (We n d f) λg=>AC (!g)
instance x_(d:AA Cr)(f:Int):Ks (PB n d f) 245 [.q 4 (map Cr.c d),.fn (.func 240) [] [.p 0 0]] [.c 3 [I f]] (λr=>.b r):=KA func245
def V4(n:Nat)(d:Cr):AB Unit:=AC ()
instance wC(d:Cr):Kq (V4 n d) 247 [.a (Cr.c d)] [] (λ_=>.a [I d.BA,I d.To]) (λ_=>[.c 294 [I d.BA,I d.To]]):=KA func247
def Tu(g:AA Cr)(d:(AA (Ul×Bool))×Int):AB (CG ((AA (Ul×Bool))×Int) (AA (Ul×Bool))):=(bif d.2<(AI g:Int) then AH (CJ g d.2) λf=>AH (V4 n f) λj=>AH (AC (QL d.1 ({BZ:=f.BA,to_:=f.To:Ul}) AE)) λh=>AC (.k (h,i64.wrap (d.2+1)))else AC (.d d.1))
def WP(d:AA Cr):AB Bool:=AH (iter (Tu n d) n ([],0):AB (AA (Ul×Bool))) λf=>AC ((AI f:Int)==(AI d:Int))
instance wV(y:AA Cr):Ks (WP n y) 246 [.q 4 (map Cr.c y),.f 247] [] (λr=>.b r):=by
 refine Kg 7 func246 Z Z Z Z λr h=>vH Yi ?_;refine Fg 7 Z Z (Lg 3 Z Z (Bd h λg B h=>Cg g [0] [0,5] Ze (λg=>[(0,.map (Qn (λx=>A.a (Ul.c x)) A.b g))]) Zf ?_ ?_))
 .refine G0 1 Z (Lp [0] [0,1,5,9,10] (λf=>[(11,I f.2)]) (λf=>[(0,.map (Qn (λx=>A.a (Ul.c x)) A.b f.1))]) B Zf (Lr [0]) λf F d j=>?_);refine G0 6 Z (Q8 Z d (λ_ d=>?_) (λ_ d=>?_))
  .exact Jd j d
  refine Gc 6 Z (Bd d λG q d=>Iz q Z (Go 9 Z (Cd [] d Kc Z λH E d=>FE Z (Bd d λJ t d=>(vU (Ye dh t Z Gv) ?_)))));exact au d
 refine Gc 3 Z (vV (sy Gv Z) ?_);exact au h
def OP(rec50:(AA CH)->Int->AB Bool)(n:Nat)(d:CH)(f:Int):AB Bool:=(bif (d.As==0)then AH (AH (FR n 0 f [d.Al]) λm=>(bif m then AC ((AI d.Ac:Int)==0)else AC AD):AB Bool) λq=>AC q else AH (AH (FR n 1 64 [d.As]) λg=>(bif g then(bif (d.Al==0)then(bif 0<(AI d.Ac:Int) then AH (rec50 d.Ac f) λh=>AC h else AC AD)else AC AD)else AC AD):AB Bool) λj=>AC j)
instance xL(rec50:(AA CH)->Int->AB Bool)[g:∀(d:AA CH) (f:Int),Ks (rec50 d f) 236 [.q 3 (map CH.enc d),.fn (.func 234) [] [.p 0 0,.p 1 0]] [.c 3 [I f],.c 372 [.fn (.func 234) [] [.p 0 0,.p 1 0]]] (λr=>.b r)](n:Nat)(d:CH)(f:Int):Ks (OP rec50 n d f) 234 [.a (CH.c d),.p 0 0,.p 1 0] [.c 3 [I f],.c 372 [.fn (.func 234) [] [.p 0 0,.p 1 0]]] (λr=>.b r):=KA func234
def fe(rec50:(AA CH)->Int->AB Bool)(n:Nat)(d:CH)(f:Int):AB Bool:=AH (OP rec50 n d f) λg=>AC (!g)
instance jT(rec50:(AA CH)->Int->AB Bool)[g:∀(d:AA CH) (f:Int),Ks (rec50 d f) 236 [.q 3 (map CH.enc d),.fn (.func 234) [] [.p 0 0,.p 1 0]] [.c 3 [I f],.c 372 [.fn (.func 234) [] [.p 0 0,.p 1 0]]] (λr=>.b r)](n:Nat)(d:CH)(f:Int):Ks (fe rec50 n d f) 285 [.a (CH.c d),.p 0 0] [.c 372 [.fn (.func 234) [] [.p 1 0,.p 2 0]],.c 3 [I f],.c 372 [.fn (.func 234) [] [.p 1 0,.p 2 0]]] (λr=>.b r):=KA func285
def nI(f:AA CH)(j:Int)(rec50:(AA CH)->Int->AB Bool)(d:Int):AB (CG Int (CG Unit Int)):=(bif d<(AI f:Int) then AH (CJ f d) λg=>AH (fe rec50 n g j) λh=>(bif h then AC (.d (.d d))else AC (.k (i64.wrap (d+1))))else AC (.d (.k ())))
def fR(rec50:(AA CH)->Int->AB Bool)(n:Nat)(g:AA CH)(h:Int):AB Int:=AH (iter (nI n g h rec50) n 0:AB (CG Unit Int)) λf=>match f with|.k d=>(AC (-1))|.d d=>AC d
instance vz(rec50:(AA CH)->Int->AB Bool)[y:∀(f:AA CH) (g:Int),Ks (rec50 f g) 236 [.q 3 (map CH.enc f),.fn (.func 234) [] [.p 0 0,.p 1 0]] [.c 3 [I g],.c 372 [.fn (.func 234) [] [.p 0 0,.p 1 0]]] (λr=>.b r)](n:Nat)(f:AA CH)(g:Int):Ks (fR rec50 n f g) 314 [.q 3 (map CH.enc f),.fn (.func 285) [] [.p 0 0]] [.c 372 [.fn (.func 234) [] [.p 1 0,.p 2 0]],.c 3 [I g],.c 372 [.fn (.func 234) [] [.p 1 0,.p 2 0]]] (λr=>I r):=by
 refine Kg 9 func314 Z Z Z Z λr h=>Lg 3 Z Z (Bd h λB E h=>D_ (b:=B) [0,1,2] [] Ze Ze Zf ?_ (λ_ F=>?_))
 .refine G0 1 Z (Lp [0,1,2] [0,1,7] (λm=>[(8,I m)]) Ze E Zf (Lr [0,1,2]) λm L d j=>?_);refine G0 6 Z (Q8 Z d (λ_ d=>?_) (λ_ d=>?_))
  .exact Jd j d
  refine Gc 15 Z (Bd d λG t d=>FU t (QO G) Z (Go 1 Z (Cz [0,1,2] d (jT rec50 _ _ _).c Z λM J d=>Go 2 Z (Cn Z d (λ_ d=>?_) (λ_ d=>?_)))))
  .exact DX j d h
  exact au d
 subst F;exact au h
def fG(rec50:(AA CH)->Int->AB Bool)(n:Nat)(d:AA CH)(f:Int):AB Bool:=AH (fR rec50 n d f) λg=>AC (AG (0<=g))
instance vj(rec50:(AA CH)->Int->AB Bool)[g:∀(d:AA CH) (f:Int),Ks (rec50 d f) 236 [.q 3 (map CH.enc d),.fn (.func 234) [] [.p 0 0,.p 1 0]] [.c 3 [I f],.c 372 [.fn (.func 234) [] [.p 0 0,.p 1 0]]] (λr=>.b r)](n:Nat)(d:AA CH)(f:Int):Ks (fG rec50 n d f) 284 [.q 3 (map CH.enc d),.fn (.func 285) [] [.p 0 0]] [.c 372 [.fn (.func 234) [] [.p 1 0,.p 2 0]],.c 3 [I f],.c 372 [.fn (.func 234) [] [.p 1 0,.p 2 0]]] (λr=>.b r):=KA func284
def fj(rec50:(AA CH)->Int->AB Bool)(n:Nat)(d:AA CH)(f:Int):AB Bool:=AH (fG rec50 n d f) λg=>AC (!g)
theorem QcO(rec50:(AA CH)->Int->AB Bool)(g:∀(d:AA CH) (f:Int),Ks (rec50 d f) 236 [.q 3 (map CH.enc d),.fn (.func 234) [] [.p 0 0,.p 1 0]] [.c 3 [I f],.c 372 [.fn (.func 234) [] [.p 0 0,.p 1 0]]] (λr=>.b r))(n:Nat)(d:AA CH)(f:Int):Ks (fj rec50 n d f) 236 [.q 3 (map CH.enc d),.fn (.func 234) [] [.p 0 0,.p 1 0]] [.c 3 [I f],.c 372 [.fn (.func 234) [] [.p 0 0,.p 1 0]]] (λr=>.b r):=KA func236
def LB:Nat->(AA CH)->Int->AB Bool
  |0=>λ_ _=>AF
  |n+1=>fj (LB n) n
instance zf:∀(d:AA CH) (f:Int),Ks (LB n d f) 236 [.q 3 (map CH.enc d),.fn (.func 234) [] [.p 0 0,.p 1 0]] [.c 3 [I f],.c 372 [.fn (.func 234) [] [.p 0 0,.p 1 0]]] (λr=>.b r):=by
  induction n with
  |zero=>exact λ_ _=>⟨nofun⟩
  |succ n ih=>exact QcO _ ih n
def PD(d:CO)(g:Int):AB Bool:=AH (AH (FR n 0 g [d.Al]) λh=>(bif h then(bif 1<=d.B9 then AH (FR n 0 1099511627776 [d.Bu]) λf=>AC f else AC AD)else AC AD):AB Bool) λj=>AC j
instance yB(d:CO)(f:Int):Ks (PD n d f) 237 [.a (CO.c d),.p 0 0] [.c 3 [I f]] (λr=>.b r):=KA func237
def fH(d:CO)(f:Int):AB Bool:=AH (PD n d f) λg=>AC (!g)
instance vk(d:CO)(f:Int):Ks (fH n d f) 287 [.a (CO.c d),.p 0 0] [.c 375 [.fn (.func 237) [] [.p 1 0]],.c 3 [I f]] (λr=>.b r):=KA func287
def na(f:AA CO)(j:Int)(d:Int):AB (CG Int (CG Unit Int)):=(bif d<(AI f:Int) then AH (CJ f d) λg=>AH (fH n g j) λh=>(bif h then AC (.d (.d d))else AC (.k (i64.wrap (d+1))))else AC (.d (.k ())))
def WU(g:AA CO)(h:Int):AB Int:=AH (iter (na n g h) n 0:AB (CG Unit Int)) λf=>match f with|.k d=>(AC (-1))|.d d=>AC d
instance wd(d:AA CO)(f:Int):Ks (WU n d f) 315 [.q 3 (map CO.c d),.fn (.func 287) [] [.p 0 0]] [.c 375 [.fn (.func 237) [] [.p 1 0]],.c 3 [I f]] (λr=>I r):=KA func315
def Wh(d:AA CO)(f:Int):AB Bool:=AH (WU n d f) λg=>AC (AG (0<=g))
instance ww(d:AA CO)(f:Int):Ks (Wh n d f) 286 [.q 3 (map CO.c d),.fn (.func 287) [] [.p 0 0]] [.c 375 [.fn (.func 237) [] [.p 1 0]],.c 3 [I f]] (λr=>.b r):=KA func286
def PC(d:AA CO)(f:Int):AB Bool:=AH (Wh n d f) λg=>AC (!g)
instance yA(d:AA CO)(f:Int):Ks (PC n d f) 239 [.q 3 (map CO.c d),.fn (.func 237) [] [.p 0 0]] [.c 3 [I f]] (λr=>.b r):=KA func239
def O6(d:AN)(f:Int):AB Bool:=AH (AH (FR n 1 3 [d.A']) λg=>(bif g then AH (FR n (-1) f [d.An]) λh=>(bif h then AH (LB n d.Ad f) λj=>(bif j then AH (PC n d.Ar f) λm=>AC m else AC AD)else AC AD)else AC AD):AB Bool) λq=>AC q
instance xu(d:AN)(f:Int):Ks (O6 n d f) 238 [.a (AN.c d),.p 0 0,.p 1 0,.p 2 0] [.c 3 [I f],.c 372 [.fn (.func 234) [] [.p 0 0,.p 1 0]],.c 375 [.fn (.func 237) [] [.p 0 0]]] (λr=>.b r):=KA func238
def fX(d:AN)(f:Int):AB Bool:=AH (O6 n d f) λg=>AC (!g)
instance v_(d:AN)(f:Int):Ks (fX n d f) 259 [.a (AN.c d),.p 0 0] [.c 297 [.fn (.func 238) [] [.p 1 0,.p 2 0,.p 3 0]],.c 3 [I f],.c 372 [.fn (.func 234) [] [.p 1 0,.p 2 0]],.c 375 [.fn (.func 237) [] [.p 1 0]]] (λr=>.b r):=KA func259
def nS(f:AA AN)(j:Int)(d:Int):AB (CG Int (CG Unit Int)):=(bif d<(AI f:Int) then AH (CJ f d) λg=>AH (fX n g j) λh=>(bif h then AC (.d (.d d))else AC (.k (i64.wrap (d+1))))else AC (.d (.k ())))
def WC(g:AA AN)(h:Int):AB Int:=AH (iter (nS n g h) n 0:AB (CG Unit Int)) λf=>match f with|.k d=>(AC (-1))|.d d=>AC d
instance wL(d:AA AN)(f:Int):Ks (WC n d f) 303 [.q 5 (map AN.c d),.fn (.func 259) [] [.p 0 0]] [.c 297 [.fn (.func 238) [] [.p 1 0,.p 2 0,.p 3 0]],.c 3 [I f],.c 372 [.fn (.func 234) [] [.p 1 0,.p 2 0]],.c 375 [.fn (.func 237) [] [.p 1 0]]] (λr=>I r):=KA func303
def WV(d:AA AN)(f:Int):AB Bool:=AH (WC n d f) λg=>AC (AG (0<=g))
instance we(d:AA AN)(f:Int):Ks (WV n d f) 258 [.q 5 (map AN.c d),.fn (.func 259) [] [.p 0 0]] [.c 297 [.fn (.func 238) [] [.p 1 0,.p 2 0,.p 3 0]],.c 3 [I f],.c 372 [.fn (.func 234) [] [.p 1 0,.p 2 0]],.c 375 [.fn (.func 237) [] [.p 1 0]]] (λr=>.b r):=KA func258
def OZ(d:AA AN)(f:Int):AB Bool:=AH (WV n d f) λg=>AC (!g)
instance xU(d:AA AN)(f:Int):Ks (OZ n d f) 158 [.q 5 (map AN.c d),.fn (.func 238) [] [.p 0 0,.p 1 0,.p 2 0]] [.c 3 [I f],.c 372 [.fn (.func 234) [] [.p 0 0,.p 1 0]],.c 375 [.fn (.func 237) [] [.p 0 0]]] (λr=>.b r):=KA func158
def OY(d:A3):AB Bool:=AH (FR n 0 1099511627776 [d.B_]) λf=>AC f
instance xT(d:A3):Ks (OY n d) 249 [.a (A3.c d)] [] (λr=>.b r):=KA func249
def fT(d:A3):AB Bool:=AH (OY n d) λf=>AC (!f)
instance v7(d:A3):Ks (fT n d) 293 [.a (A3.c d),.p 0 0] [.c 385 [.f 249]] (λr=>.b r):=KA func293
def nK(f:AA A3)(d:Int):AB (CG Int (CG Unit Int)):=(bif d<(AI f:Int) then AH (CJ f d) λg=>AH (fT n g) λh=>(bif h then AC (.d (.d d))else AC (.k (i64.wrap (d+1))))else AC (.d (.k ())))
def Wg(g:AA A3):AB Int:=AH (iter (nK n g) n 0:AB (CG Unit Int)) λf=>match f with|.k d=>(AC (-1))|.d d=>AC d
instance wv(d:AA A3):Ks (Wg n d) 317 [.q 2 (map A3.c d),.fn (.func 293) [] [.p 0 0]] [.c 385 [.f 249]] (λr=>I r):=KA func317
def Wq(d:AA A3):AB Bool:=AH (Wg n d) λf=>AC (AG (0<=f))
instance w_(d:AA A3):Ks (Wq n d) 292 [.q 2 (map A3.c d),.fn (.func 293) [] [.p 0 0]] [.c 385 [.f 249]] (λr=>.b r):=KA func292
def PN(d:AA A3):AB Bool:=AH (Wq n d) λf=>AC (!f)
instance yK(d:AA A3):Ks (PN n d) 248 [.q 2 (map A3.c d),.f 249] [] (λr=>.b r):=KA func248
def PO(d:AZ):AB Bool:=(bif d.BM then AH ((bif (d.BU==0)then AC (d.As==0)else AC AD):AB Bool) λh=>AC h else(bif (d.As != 0)then AH ((bif (d.BU==0)then AH (FR n 1 64 [d.As]) λf=>AC f else AC AD):AB Bool) λj=>AC j else AH (FR n 0 68719476736 [d.BU]) λg=>AC g))
instance yL(d:AZ):Ks (PO n d) 241 [.a (AZ.c d)] [] (λr=>.b r):=KA func241
def fQ(d:AZ):AB Bool:=AH (PO n d) λf=>AC (!f)
instance vy(d:AZ):Ks (fQ n d) 295 [.a (AZ.c d),.p 0 0] [.c 377 [.f 241]] (λr=>.b r):=KA func295
def nF(f:AA AZ)(d:Int):AB (CG Int (CG Unit Int)):=(bif d<(AI f:Int) then AH (CJ f d) λg=>AH (fQ n g) λh=>(bif h then AC (.d (.d d))else AC (.k (i64.wrap (d+1))))else AC (.d (.k ())))
def Wr(g:AA AZ):AB Int:=AH (iter (nF n g) n 0:AB (CG Unit Int)) λf=>match f with|.k d=>(AC (-1))|.d d=>AC d
instance xA(d:AA AZ):Ks (Wr n d) 318 [.q 4 (map AZ.c d),.fn (.func 295) [] [.p 0 0]] [.c 377 [.f 241]] (λr=>I r):=KA func318
def Wn(d:AA AZ):AB Bool:=AH (Wr n d) λf=>AC (AG (0<=f))
instance w8(d:AA AZ):Ks (Wn n d) 294 [.q 4 (map AZ.c d),.fn (.func 295) [] [.p 0 0]] [.c 377 [.f 241]] (λr=>.b r):=KA func294
def OR(d:AA AZ):AB Bool:=AH (Wn n d) λf=>AC (!f)
instance xN(d:AA AZ):Ks (OR n d) 250 [.q 4 (map AZ.c d),.f 241] [] (λr=>.b r):=KA func250
def PX(d:AX):AB Bool:=AH (AH (FR n 0 120 [d.BA,d.To]) λf=>(bif f then AC (AG (d.BA<=d.To))else AC AD):AB Bool) λg=>AC g
instance yU(d:AX):Ks (PX n d) 252 [.a (AX.c d)] [] (λr=>.b r):=KA func252
def fN(d:AX):AB Bool:=AH (PX n d) λf=>AC (!f)
instance vv(d:AX):Ks (fN n d) 297 [.a (AX.c d),.p 0 0] [.c 388 [.f 252]] (λr=>.b r):=KA func297
def nM(f:AA AX)(d:Int):AB (CG Int (CG Unit Int)):=(bif d<(AI f:Int) then AH (CJ f d) λg=>AH (fN n g) λh=>(bif h then AC (.d (.d d))else AC (.k (i64.wrap (d+1))))else AC (.d (.k ())))
def V7(g:AA AX):AB Int:=AH (iter (nM n g) n 0:AB (CG Unit Int)) λf=>match f with|.k d=>(AC (-1))|.d d=>AC d
instance wE(d:AA AX):Ks (V7 n d) 319 [.q 3 (map AX.c d),.fn (.func 297) [] [.p 0 0]] [.c 388 [.f 252]] (λr=>I r):=KA func319
def WQ(d:AA AX):AB Bool:=AH (V7 n d) λf=>AC (AG (0<=f))
instance wW(d:AA AX):Ks (WQ n d) 296 [.q 3 (map AX.c d),.fn (.func 297) [] [.p 0 0]] [.c 388 [.f 252]] (λr=>.b r):=KA func296
def Oh(d:AA AX):AB Bool:=AH (WQ n d) λf=>AC (!f)
instance xb(d:AA AX):Ks (Oh n d) 251 [.q 3 (map AX.c d),.f 252] [] (λr=>.b r):=KA func251
def O4(d:CQ)(f:CB):AB Bool:=AH (AH (FR n 0 (i64.wrap ((AI f.AO:Int)-1)) [d.AN]) λg=>(bif g then AH (FR n (-1) (i64.wrap ((AI f.AV:Int)-1)) [d.AX]) λh=>(bif h then AH (FR n 1 4000 [d.B2]) λj=>(bif j then AH (FR n 1 1125899906842624 [d.BO]) λm=>AC m else AC AD)else AC AD)else AC AD):AB Bool) λq=>AC q
instance xq(d:CQ)(f:CB):Ks (O4 n d f) 242 [.a (CQ.c d),.p 0 0] [.c 33 (CB.c f)] (λr=>.b r):=KA func242
def fM(d:CQ)(f:CB):AB Bool:=AH (O4 n d f) λg=>AC (!g)
instance vu(d:CQ)(f:CB):Ks (fM n d f) 299 [.a (CQ.c d),.p 0 0] [.c 378 [.fn (.func 242) [] [.p 1 0]],.c 33 (CB.c f)] (λr=>.b r):=KA func299
def nB(f:AA CQ)(j:CB)(d:Int):AB (CG Int (CG Unit Int)):=(bif d<(AI f:Int) then AH (CJ f d) λg=>AH (fM n g j) λh=>(bif h then AC (.d (.d d))else AC (.k (i64.wrap (d+1))))else AC (.d (.k ())))
def Wc(g:AA CQ)(h:CB):AB Int:=AH (iter (nB n g h) n 0:AB (CG Unit Int)) λf=>match f with|.k d=>(AC (-1))|.d d=>AC d
instance wq(d:AA CQ)(f:CB):Ks (Wc n d f) 320 [.q 4 (map CQ.c d),.fn (.func 299) [] [.p 0 0]] [.c 378 [.fn (.func 242) [] [.p 1 0]],.c 33 (CB.c f)] (λr=>I r):=KA func320
def WZ(d:AA CQ)(f:CB):AB Bool:=AH (Wc n d f) λg=>AC (AG (0<=g))
instance wk(d:AA CQ)(f:CB):Ks (WZ n d f) 298 [.q 4 (map CQ.c d),.fn (.func 299) [] [.p 0 0]] [.c 378 [.fn (.func 242) [] [.p 1 0]],.c 33 (CB.c f)] (λr=>.b r):=KA func298
def OO(d:AA CQ)(f:CB):AB Bool:=AH (WZ n d f) λg=>AC (!g)
instance xK(d:AA CQ)(f:CB):Ks (OO n d f) 253 [.q 4 (map CQ.c d),.fn (.func 242) [] [.p 0 0]] [.c 33 (CB.c f)] (λr=>.b r):=KA func253
def V8(n:Nat)(d:CQ):AB Unit:=AC ()
instance wF(d:CQ):Kq (V8 n d) 255 [.a (CQ.c d)] [] (λ_=>.a [I d.AN,I d.AX,I d.B2]) (λ_=>[.c 392 [I d.AN,I d.AX,I d.B2]]):=KA func255
def TP(g:AA CQ)(d:(AA (Up×Bool))×Int):AB (CG ((AA (Up×Bool))×Int) (AA (Up×Bool))):=(bif d.2<(AI g:Int) then AH (CJ g d.2) λf=>AH (V8 n f) λj=>AH (AC (QL d.1 ({B4:=f.AN,B0:=f.AX,CA:=f.B2:Up}) AE)) λh=>AC (.k (h,i64.wrap (d.2+1)))else AC (.d d.1))
def WN(d:AA CQ):AB Bool:=AH (iter (TP n d) n ([],0):AB (AA (Up×Bool))) λf=>AC ((AI f:Int)==(AI d:Int))
instance wU(y:AA CQ):Ks (WN n y) 254 [.q 4 (map CQ.c y),.f 255] [] (λr=>.b r):=by
 refine Kg 7 func254 Z Z Z Z λr h=>vH Yi ?_;refine Fg 7 Z Z (Lg 3 Z Z (Bd h λg B h=>Cg g [0] [0,5] Ze (λg=>[(0,.map (Qn (λx=>A.a (Up.c x)) A.b g))]) Zf ?_ ?_))
 .refine G0 1 Z (Lp [0] [0,1,5,9,10] (λf=>[(11,I f.2)]) (λf=>[(0,.map (Qn (λx=>A.a (Up.c x)) A.b f.1))]) B Zf (Lr [0]) λf F d j=>?_);refine G0 6 Z (Q8 Z d (λ_ d=>?_) (λ_ d=>?_))
  .exact Jd j d
  refine Gc 6 Z (Bd d λG q d=>Iz q Z (Go 9 Z (Cd [] d Kc Z λH E d=>FE Z (Bd d λJ t d=>(vU (Ye Qql t Z underlying415) ?_)))));exact au d
 refine Gc 3 Z (vV (sy underlying415 Z) ?_);exact au h
def Ph(d:CB):AB Bool:=AH (AH (OQ n d.Au) λf=>(bif f then AH (PB n d.Az (i64.wrap ((AI d.Au:Int)-1))) λg=>(bif g then AH (WP n d.Az) λh=>(bif h then AH (OZ n d.AO (i64.wrap ((AI d.Au:Int)-1))) λj=>(bif j then AH (PN n d.A4) λm=>(bif m then AH (OR n d.Ab) λq=>(bif q then AH (Oh n d.AV) λt=>(bif t then AH (OO n d.Ay d) λx=>(bif x then AH (WN n d.Ay) λy=>(bif y then AH (FR n 0 16 [d.AQ.A9,d.AQ.A8]) λB=>(bif B then AH (FR n 0 4294967296 [d.AQ.A6,d.AQ.Am]) λE=>(bif E then AH (FR n 0 100000 [d.AQ.BF]) λF=>(bif F then AH (FR n 0 1125899906842624 [d.Bk]) λG=>(bif G then AH (FR n 0 1099511627776 [d.Aw]) λH=>AC H else AC AD)else AC AD)else AC AD)else AC AD)else AC AD)else AC AD)else AC AD)else AC AD)else AC AD)else AC AD)else AC AD)else AC AD)else AC AD):AB Bool) λJ=>AC J
instance ye(f:CB):Ks (Ph n f) 156 [.a (CB.c f)] [] (λr=>.b r):=by
 refine Kg 10 func156 Z Z Z Z λr h=>Lg 55 Z Z (Bd h λd g h=>Cg d [] [] (λd=>[(2,.b d)]) Ze Zf ?_ ?_)
 .exact au g
 exact au h
def nD(n:Nat)(f:AA AY)(d:(AA Um)×Int):AB (CG ((AA Um)×Int) (AA Um)):=(bif d.2<(AI f:Int) then AH (CJ f d.2) λg=>AH (app d.1 [Um.ctyping_step ({AY:=g:Uq})]) λh=>AC (.k (h,i64.wrap (d.2+1)))else AC (.d d.1))
def Mf(d:AA AY):AB (AA Um):=AH (iter (nD n d) n ([],0):AB (AA Um)) λf=>AC f
instance jh(x:AA AY):Kq (Mf n x) 257 [.q 8 (map AY.enc x)] [] (λr=>.o 0 (AI r) 1) (λr=>[.r 422 1 (map Um.enc r)]):=by
 refine Kg 9 func257 Z Z Z Z λr h=>Lg 3 Z Z (Bd h λg B h=>Cg g [0] [] (λg=>[(2,.o 0 (AI g) 1)]) (λg=>[(0,.r 422 1 (map Um.enc g))]) Zf ?_ ?_)
 .refine G0 1 Z (Lp [0] [5,6] (λf=>[(2,.o 0 (AI f.1) 1),(7,I f.2)]) (λf=>[(0,.r 422 1 (map Um.enc f.1))]) B Zf ?_ ?_)
  .exact En (Er (s:=2) (XR Z) Z) (Lr [0])
  intro f E d j;refine G0 6 Z (Q8 Z d (λ_ d=>?_) (λ_ d=>?_))
  .exact Jd j d
  refine Gc 6 Z (Bd d λy q d=>FU q (Yq y) Z (Go 9 Z ?_));refine vV (eD Z GD (by nofun) Z) (vH (Ek (xs:=[.tmp 14]) dY Z Z Z Z Z ⟨Z,trivial⟩ Z Z) ?_);refine FE Z (Bd d λF t d=>vH (Qj (e:=Um.enc) t dY Gk (QC (i:=2))) ?_);exact au d
 exact au h
def K3(n:Nat)(d:Uj):AB Bool:=AH ((bif (d.AR.AW==0)then(bif (d.AR.Bz==0)then(bif (d.AR.N==0)then AC ((AI d.AR.Ac:Int)==0)else AC AD)else AC AD)else AC AD):AB Bool) λf=>AC f
instance zH(d:Uj):Ks (K3 n d) 321 [.a (Uj.c ({AR:=d.AR:Uj}))] [] (λr=>.b r):=KA func321
def LA(d:Uq):AB (AA Um):=AH (Mf n d.AY.Ba) λf=>AH (Mf n d.AY.Bh) λg=>AH (app f g) λh=>AC h
instance bC(d:Uq):Kq (LA n d) 328 [.a (Uq.c d)] [] (λr=>.o 0 (AI r) 1) (λr=>[.r 422 1 (map Um.enc r)]):=by
 refine Kg 7 func328 Z Z Z Z λr h=>P0 7 3 [0,0,0,1,3,3,3] (by kernel_rfl) (Da 3 Z ?_);obtain⟨f,g,h⟩:=QE h;refine DA.op (x:=.o 1 (AI f) 1) (H1:=[.c 425 (Uq.c d),.r 422 1 (map Um.enc f)]) ?_ ?_
 .refine Qg [] (C7.fn call257 Z Z Z) ((jh _ _).c _ g) ?_;rintro _ _ ⟨rfl,rfl⟩;exact FE Z Wp
 refine Db 2 Z ?_;refine DB.wo2 (Ld isAgg29 Z Wp) (Ld isAgg29 Z Wp) (DB.done Z (Cd [] h Kc Z λq m h=>FE Z (Bd h λt j h=>vH (Qj j dY Gk (QC (i:=2))) ?_)));exact au h
def nT(n:Nat)(f:AA AR)(d:(AA Um)×Int):AB (CG ((AA Um)×Int) (AA Um)):=(bif d.2<(AI f:Int) then AH (CJ f d.2) λg=>AH (app d.1 [Um.ctyping_cond ({AR:=g:Uj})]) λh=>AC (.k (h,i64.wrap (d.2+1)))else AC (.d d.1))
def Wm(d:AA AR):AB (AA Um):=AH (iter (nT n d) n ([],0):AB (AA Um)) λf=>AC f
instance w7(x:AA AR):Kq (Wm n x) 330 [.q 4 (map AR.enc x)] [] (λr=>.o 0 (AI r) 1) (λr=>[.r 422 1 (map Um.enc r)]):=by
 refine Kg 9 func330 Z Z Z Z λr h=>Lg 3 Z Z (Bd h λg B h=>Cg g [0] [] (λg=>[(2,.o 0 (AI g) 1)]) (λg=>[(0,.r 422 1 (map Um.enc g))]) Zf ?_ ?_)
 .refine G0 1 Z (Lp [0] [5,6] (λf=>[(2,.o 0 (AI f.1) 1),(7,I f.2)]) (λf=>[(0,.r 422 1 (map Um.enc f.1))]) B Zf ?_ ?_)
  .exact En (Er (s:=2) (XR Z) Z) (Lr [0])
  intro f E d j;refine G0 6 Z (Q8 Z d (λ_ d=>?_) (λ_ d=>?_))
  .exact Jd j d
  refine Gc 6 Z (Bd d λy q d=>FU q (Ji y) Z (Go 9 Z ?_));refine vV (eD Z EU (by nofun) Z) (vH (Ek (xs:=[.tmp 14]) dY Z Z Z Z Z ⟨Z,trivial⟩ Z Z) ?_);refine FE Z (Bd d λF t d=>vH (Qj (e:=Um.enc) t dY Gk (QC (i:=2))) ?_);exact au d
 exact au h
def KD(d:Uj):AB (AA Um):=AH (Wm n d.AR.Ac) λf=>AC f
instance bD(d:Uj):Kq (KD n d) 327 [.a (Uj.c ({AR:=d.AR:Uj}))] [] (λr=>.o 0 (AI r) 1) (λr=>[.r 422 1 (map Um.enc r)]):=KA func327
def MH(B:AA Um)(E:Int)(rec95:(AA Um)->Int->Uk->AB (Uk×Bool))(d:Uk×Int):AB (CG (Uk×Int) (CG Uk (Uk×Bool))):=(bif d.2<(AI B:Int) then AH (CJ B d.2) λF=>Um.elim F (λj=>AH (AH (K3 n ({AR:=j.AY.AR:Uj})) λG=>(bif (!G)then AH (rec95 [Um.ctyping_cond ({AR:=j.AY.AR:Uj})] 0 ({BG:=i64.wrap (d.1.BG+1),BH:=d.1.BH:Uk})) λm=>AC (m.1,(!m.2))else AC ({BG:=i64.wrap (d.1.BG+1),BH:=d.1.BH:Uk},AD)):AB (Uk×Bool)) λf=>(bif f.2 then AC (.d (.d (f.1,AD)))else AH ((bif 64<f.1.BG then AC (f.1,AE)else(bif 256<f.1.BH then AC (f.1,AE)else AH (LA n j) λx=>AH (rec95 x (i64.wrap (E+1)) f.1) λq=>AC (q.1,(!q.2)))):AB (Uk×Bool)) λg=>(bif g.2 then AC (.d (.d (g.1,AD)))else AC (.k (g.1,i64.wrap (d.2+1)))))) (λH=>AH ((bif 64<d.1.BG then AC ({BG:=d.1.BG,BH:=i64.wrap (d.1.BH+1):Uk},AE)else(bif 256<(i64.wrap (d.1.BH+1)) then AC ({BG:=d.1.BG,BH:=i64.wrap (d.1.BH+1):Uk},AE)else AH (KD n ({AR:=H.AR:Uj})) λy=>AH (rec95 y (i64.wrap (E+1)) ({BG:=d.1.BG,BH:=i64.wrap (d.1.BH+1):Uk})) λt=>AC (t.1,(!t.2)))):AB (Uk×Bool)) λh=>(bif h.2 then AC (.d (.d (h.1,AD)))else AC (.k (h.1,i64.wrap (d.2+1)))))else AC (.d (.k d.1)))
def iz(rec95:(AA Um)->Int->Uk->AB (Uk×Bool))(n:Nat)(f:AA Um)(g:Int)(h:Uk):AB (Uk×Bool):=AH ((bif 0<(AI f:Int) then AC (AG (16<g))else AC AD):AB Bool) λm=>(bif m then AC (h,AD)else AH (iter (MH n f g rec95) n (h,0):AB (CG Uk (Uk×Bool))) λj=>match j with|.k d=>(AC (d,AE))|.d d=>AC d)
theorem Qay(rec95:(AA Um)->Int->Uk->AB (Uk×Bool))(ad:∀(x:AA Um) (L:Int) (M:Uk),Kq (rec95 x L M) 300 [.p 0 0,.o 1 (AI x) 1,I L] [.c 418 (Uk.c M),.r 422 1 (map Um.enc x)] (λr=>.b r.2) (λr=>[.c 418 (Uk.c r.1),.r 422 1 (map Um.enc x)]))(n:Nat)(x:AA Um)(L:Int)(M:Uk):Kq (iz rec95 n x L M) 300 [.p 0 0,.o 1 (AI x) 1,I L] [.c 418 (Uk.c M),.r 422 1 (map Um.enc x)] (λr=>.b r.2) (λr=>[.c 418 (Uk.c r.1),.r 422 1 (map Um.enc x)]):=by
 refine Kg 7 func300 Z Z Z Z λr h=>Bd h λb2 h3 h=>Ct b2 [0,1] [0,1,2] (λb2=>[(18,.b b2)]) Ze Zf ?_ (λenv H B=>?_)
 .exact au h3
 refine Gx 1 Z (Ee B (Cn Z h (λ_ h=>?_) (λ_ h=>?_)))
 .exact au h
 refine Gc 10 Z (Bd h λaf ag h=>D_ (b:=af) [0,1] [] Ze (λN=>[(0,.c 418 (Uk.c N))]) Zf ?_ (λN ah=>?_))
 .refine G0 1 Z (Lp [0,1] [0,2,19,20] (λE=>[(21,I E.2)]) (λE=>[(0,.c 418 (Uk.c E.1))]) ag Zf (Lr [0,1]) λE al d y=>?_);refine G0 6 Z (Q8 Z d (λ_ d=>?_) (λ_ d=>?_))
  .exact Jd y d
  refine Gc 6 Z (Bd d λaa O d=>?_);refine vX (.p 1 (toNat E.2*1)) (Qd O Z Gk sizeOf422) ?_;refine vX (Um.val aa) (Ez Z isAgg422 Z (Qh O)) ?_;refine Go 12 Z ?_;rcases JJ aa with⟨F,hE90⟩|⟨J,hE92⟩
  .have d:=Jw hE90 d;refine Et (Q5 (s:=8) (a':=.iface 425 (.a (Uq.c F))) Z (congrArg Um.val hE90)) ?_;refine Et (Q5 (s:=24) (a':=.iface 425 (.a (Uq.c F))) Z (congrArg Um.val hE90)) ?_;refine Et (Q5 (s:=25) (a':=.iface 425 (.a (Uq.c F))) Z (congrArg Um.val hE90)) ?_;refine vX (.t [.a [I 0,I 0,I 0,.q 4 (map AR.enc [])],.b AD]) (lQ (z:=(.a [I 0,I 0,I 0,.q 4 (map AR.enc [])])) EU (by intro m;nofun) Z G3 (Fr Z)) ?_;refine Go 7 Z ?_;refine vX (.t [.a (Uq.c F),.b AE]) (Sy GD (by intro m;nofun)) ?_;refine Go 34 Z (Bd d λG j d=>Ct G [0,1] [0,2,8,19,20,21] (λG=>[(60,.b G.2)]) (λG=>[(0,.c 418 (Uk.c G.1))]) Zf ?_ (λenv H B=>?_))
   .refine G0 2 Z (Cz [] j Kc Z λam ai j=>Go 2 Z (Is 53 j Z (λ_ j=>?_) (λ_ j=>?_)))
    .refine Go 2 Z ?_;refine vX (.iface 443 (.a (Uj.c ({AR:=F.AY.AR:Uj})))) (eD Z EU (by intro m;nofun) Z) ?_ (gT Z);exact au j
    exact au j
   refine Gx 1 Z (Ee B (Cn Z d (λ_ d=>?_) (λ_ d=>?_)))
   .exact DX y d h
   refine Gc 4 Z (Bd d λq f d=>Ct q [0,1] [0,2,19,20,21] (λq=>[(81,.b q.2)]) (λq=>[(0,.c 418 (Uk.c q.1))]) Zf ?_ (λenv H B=>?_))
   .refine G0 7 Z (Is 66 f Z (λ_ f=>?_) (λ_ f=>?_))
    .exact au f
    .refine Go 7 Z (Is 73 f Z (λ_ f=>?_) (λ_ f=>?_))
     .exact au f
     .refine Go 2 Z (Bd f λaj T f=>?_);refine Qg [] (gy call328 Z Z Z Z (λ_ _=>by kernel_rfl)) ((bC _ _).c _ T) ?_ (hg:=(gT Z));rintro _ _ ⟨rfl,rfl⟩;exact au f
   refine Gx 1 Z (Ee B (Cn Z d (λ_ d=>?_) (λ_ d=>?_)))
   .exact DX y d h
   exact au d
  .have d:=Ju hE92 d;refine Et (Q5 (s:=8) (a':=.iface 443 (.a (Uj.c ({AR:=J.AR:Uj})))) Z (congrArg Um.val hE92)) ?_;refine Et (Q5 (s:=24) (a':=.iface 443 (.a (Uj.c ({AR:=J.AR:Uj})))) Z (congrArg Um.val hE92)) ?_;refine Et (Q5 (s:=25) (a':=.iface 443 (.a (Uj.c ({AR:=J.AR:Uj})))) Z (congrArg Um.val hE92)) ?_;refine vX (.t [.a (Uj.c ({AR:=J.AR:Uj})),.b AE]) (Sy EU (by intro m;nofun)) ?_;refine Go 24 Z (Bd d λt g d=>Cg t [0,1] [0,2,19,20,21] (λt=>[(81,.b t.2)]) (λt=>[(0,.c 418 (Uk.c t.1))]) Zf ?_ ?_)
   .refine G0 7 Z (Is 66 g Z (λ_ g=>?_) (λ_ g=>?_))
    .exact au g
    .refine Go 7 Z (Is 73 g Z (λ_ g=>?_) (λ_ g=>?_))
     .exact au g
     .refine Go 2 Z (Bd g λak Y g=>?_);refine Qg [] (gy call327 Z Z Z Z (λ_ _=>by kernel_rfl)) ((bD _ _).c _ Y) ?_ (hg:=(gT Z));rintro _ _ ⟨rfl,rfl⟩;exact au g
   exact DX y d h
 subst ah;exact au h
def NB:Nat->(AA Um)->Int->Uk->AB (Uk×Bool)
  |0=>λ_ _ _=>AF
  |n+1=>iz (NB n) n
instance k_i:∀(d:AA Um) (f:Int) (g:Uk),Kq (NB n d f g) 300 [.p 0 0,.o 1 (AI d) 1,I f] [.c 418 (Uk.c g),.r 422 1 (map Um.enc d)] (λr=>.b r.2) (λr=>[.c 418 (Uk.c r.1),.r 422 1 (map Um.enc d)]):=by
  induction n with
  |zero=>exact λ_ _ _=>⟨nofun⟩
  |succ n ih=>exact Qay _ ih n
def nC(B:AA Um)(E:Int)(d:Uk×Int):AB (CG (Uk×Int) (CG Uk (Uk×Bool))):=(bif d.2<(AI B:Int) then AH (CJ B d.2) λF=>Um.elim F (λj=>AH (AH (K3 n ({AR:=j.AY.AR:Uj})) λG=>(bif (!G)then AH (NB n [Um.ctyping_cond ({AR:=j.AY.AR:Uj})] 0 ({BG:=i64.wrap (d.1.BG+1),BH:=d.1.BH:Uk})) λm=>AC (m.1,(!m.2))else AC ({BG:=i64.wrap (d.1.BG+1),BH:=d.1.BH:Uk},AD)):AB (Uk×Bool)) λf=>(bif f.2 then AC (.d (.d (f.1,AD)))else AH ((bif 64<f.1.BG then AC (f.1,AE)else(bif 256<f.1.BH then AC (f.1,AE)else AH (LA n j) λx=>AH (NB n x (i64.wrap (E+1)) f.1) λq=>AC (q.1,(!q.2)))):AB (Uk×Bool)) λg=>(bif g.2 then AC (.d (.d (g.1,AD)))else AC (.k (g.1,i64.wrap (d.2+1)))))) (λH=>AH ((bif 64<d.1.BG then AC ({BG:=d.1.BG,BH:=i64.wrap (d.1.BH+1):Uk},AE)else(bif 256<(i64.wrap (d.1.BH+1)) then AC ({BG:=d.1.BG,BH:=i64.wrap (d.1.BH+1):Uk},AE)else AH (KD n ({AR:=H.AR:Uj})) λy=>AH (NB n y (i64.wrap (E+1)) ({BG:=d.1.BG,BH:=i64.wrap (d.1.BH+1):Uk})) λt=>AC (t.1,(!t.2)))):AB (Uk×Bool)) λh=>(bif h.2 then AC (.d (.d (h.1,AD)))else AC (.k (h.1,i64.wrap (d.2+1)))))else AC (.d (.k d.1)))
def fE(f:AA Um)(g:Int)(h:Uk):AB (Uk×Bool):=AH ((bif 0<(AI f:Int) then AC (AG (16<g))else AC AD):AB Bool) λm=>(bif m then AC (h,AD)else AH (iter (nC n f g) n (h,0):AB (CG Uk (Uk×Bool))) λj=>match j with|.k d=>(AC (d,AE))|.d d=>AC d)
instance vh(a1:AA Um)(a2:Int)(a3:Uk):Kq (fE n a1 a2 a3) 300 [.p 0 0,.q 1 (map Um.enc a1),I a2] [.c 418 (Uk.c a3)] (λr=>.b r.2) (λr=>[.c 418 (Uk.c r.1)]):=by
 refine Kg 7 func300 Z Z Z Z λr h=>Bd h λV h3 h=>Ct V [0] [0,1,2] (λV=>[(18,.b V)]) Ze Zf ?_ (λenv H y=>?_)
 .exact au h3
 refine Gx 1 Z (Ee y (Cn Z h (λ_ h=>?_) (λ_ h=>?_)))
 .exact au h
 refine Gc 6 Z (Lg 3 Z Z (Bd h λab ac h=>D_ (b:=ab) [0] [] Ze (λJ=>[(0,.c 418 (Uk.c J))]) Zf ?_ (λJ ad=>?_)))
 .refine G0 1 Z (Lp [0] [0,2,19,20] (λF=>[(21,I F.2)]) (λF=>[(0,.c 418 (Uk.c F.1))]) ac Zf (Lr [0]) λF ai d x=>?_);refine G0 6 Z (Q8 Z d (λ_ d=>?_) (λ_ d=>?_))
  .exact Jd x d
  refine Gc 6 Z (Bd d λae X d=>Iz X Z (Go 13 Z ?_));rcases JJ ae with⟨B,hE90⟩|⟨G,hE92⟩
  .have d:=Jw hE90 d;refine Et (Q5 (s:=8) (a':=.iface 425 (.a (Uq.c B))) Z (congrArg Um.val hE90)) ?_;refine Et (Q5 (s:=24) (a':=.iface 425 (.a (Uq.c B))) Z (congrArg Um.val hE90)) ?_;refine Et (Q5 (s:=25) (a':=.iface 425 (.a (Uq.c B))) Z (congrArg Um.val hE90)) ?_;refine vX (.t [.a [I 0,I 0,I 0,.q 4 (map AR.enc [])],.b AD]) (lQ (z:=(.a [I 0,I 0,I 0,.q 4 (map AR.enc [])])) EU (by intro m;nofun) Z G3 (Fr Z)) ?_;refine Go 7 Z ?_;refine vX (.t [.a (Uq.c B),.b AE]) (Sy GD (by intro m;nofun)) ?_;refine Go 34 Z (Bd d λE j d=>Ct E [0] [0,2,8,19,20,21] (λE=>[(60,.b E.2)]) (λE=>[(0,.c 418 (Uk.c E.1))]) Zf ?_ (λenv H y=>?_))
   .refine G0 2 Z (Cz [] j Kc Z λaj af j=>Go 2 Z (Is 53 j Z (λ_ j=>?_) (λ_ j=>?_)))
    .refine Go 2 Z ?_;refine vX (.iface 443 (.a (Uj.c ({AR:=B.AY.AR:Uj})))) (eD Z EU (by intro m;nofun) Z) ?_ (gT Z);exact au j
    exact au j
   refine Gx 1 Z (Ee y (Cn Z d (λ_ d=>?_) (λ_ d=>?_)))
   .exact DX x d h
   refine Gc 4 Z (Bd d λq f d=>Ct q [0] [0,2,19,20,21] (λq=>[(81,.b q.2)]) (λq=>[(0,.c 418 (Uk.c q.1))]) Zf ?_ (λenv H y=>?_))
   .refine G0 7 Z (Is 66 f Z (λ_ f=>?_) (λ_ f=>?_))
    .exact au f
    .refine Go 7 Z (Is 73 f Z (λ_ f=>?_) (λ_ f=>?_))
     .exact au f
     .refine Go 2 Z (Bd f λag O f=>?_);refine Qg [] (gy call328 Z Z Z Z (λ_ _=>by kernel_rfl)) ((bC _ _).c _ O) ?_ (hg:=(gT Z));rintro _ _ ⟨rfl,rfl⟩;exact au f
   refine Gx 1 Z (Ee y (Cn Z d (λ_ d=>?_) (λ_ d=>?_)))
   .exact DX x d h
   exact au d
  .have d:=Ju hE92 d;refine Et (Q5 (s:=8) (a':=.iface 443 (.a (Uj.c ({AR:=G.AR:Uj})))) Z (congrArg Um.val hE92)) ?_;refine Et (Q5 (s:=24) (a':=.iface 443 (.a (Uj.c ({AR:=G.AR:Uj})))) Z (congrArg Um.val hE92)) ?_;refine Et (Q5 (s:=25) (a':=.iface 443 (.a (Uj.c ({AR:=G.AR:Uj})))) Z (congrArg Um.val hE92)) ?_;refine vX (.t [.a (Uj.c ({AR:=G.AR:Uj})),.b AE]) (Sy EU (by intro m;nofun)) ?_;refine Go 24 Z (Bd d λt g d=>Cg t [0] [0,2,19,20,21] (λt=>[(81,.b t.2)]) (λt=>[(0,.c 418 (Uk.c t.1))]) Zf ?_ ?_)
   .refine G0 7 Z (Is 66 g Z (λ_ g=>?_) (λ_ g=>?_))
    .exact au g
    .refine Go 7 Z (Is 73 g Z (λ_ g=>?_) (λ_ g=>?_))
     .exact au g
     .refine Go 2 Z (Bd g λah T g=>?_);refine Qg [] (gy call327 Z Z Z Z (λ_ _=>by kernel_rfl)) ((bD _ _).c _ T) ?_ (hg:=(gT Z));rintro _ _ ⟨rfl,rfl⟩;exact au g
   exact DX x d h
 subst ad;exact au h
def Wt(rec99:(AA Um)->AB Bool)(n:Nat)(d:Uj):AB Bool:=AH ((bif (d.AR.Bz==0)then AC (d.AR.N==0)else AC AD):AB Bool) λg=>(bif (d.AR.AW==1)then AH (AH (FR n 1 3 [d.AR.Bz]) λh=>(bif h then AH (FR n 0 10000 [d.AR.N]) λj=>(bif j then AC ((AI d.AR.Ac:Int)==0)else AC AD)else AC AD):AB Bool) λm=>AC m else AH ((bif (d.AR.AW==4)then(bif g then AC (.k ((AI d.AR.Ac:Int)==1))else AC (.k AD))else AH ((bif (d.AR.AW==2)then AC (d.AR.AW==2)else AC (d.AR.AW==3)):AB Bool) λq=>(bif q then(bif g then(bif 0<(AI d.AR.Ac:Int) then AC (.k (AG ((AI d.AR.Ac:Int)<=16)))else AC (.k AD))else AC (.k AD))else AC (.d AD))):AB (CG Bool Bool)) λt=>match t with|.k f=>(AH ((bif f then AH (KD n ({AR:=d.AR:Uj})) λx=>AH (rec99 x) λy=>AC (!y)else AC AD):AB Bool) λB=>AC B)|.d f=>AC f)
instance xC(rec99:(AA Um)->AB Bool)[E:∀(g:AA Um),Ks (rec99 g) 301 [.q 1 (map Um.enc g),.f 302] [] (λr=>.b r)](n:Nat)(g:Uj):Ks (Wt rec99 n g) 323 [.iface 443 (.a (Uj.c ({AR:=g.AR:Uj})))] [] (λr=>.b r):=by
 refine Kg 14 func323 Z Z Z Z λr h=>?_;refine vX (.t [.a (Uj.c ({AR:=g.AR:Uj})),.b AE]) (Sy EU (by intro m;nofun)) ?_;refine Go 12 Z (Bd h λx M h=>Ct x [0] [3] (λx=>[(4,.b x)]) Ze Zf ?_ (λenv H f=>?_))
 .exact au M
 refine Gx 1 Z (Ee f (Gc 15 Z (Cn Z h (λ_ h=>?_) (λ_ h=>?_))))
 .exact au h
 refine Gc 6 Z (Bd h λG d h=>Fb (b:=G) [0] [3] (λj=>[(4,.b j)]) Ze Zf ?_ (λj env H hb f=>?_))
 .refine G0 0 Z (Cn Z d (λ_ d=>?_) (λ_ d=>?_))
  .exact au d
  refine Gc 7 Z (Bd d λq J d=>Ct q [0] [3,4] (λq=>[(55,.b q)]) Ze Zf ?_ (λenv H f=>?_))
  .exact au J
  refine Gx 1 Z (Ee f (Q8 Z d (λ_ d=>?_) (λ_ d=>?_)))
  .refine Gc 6 Z ?_;cases d;exact au h
  exact au d
 subst hb;refine Gx 2 Z (Ee f (Gc 1 Z (Bd h λt L h=>Cg t [] [] (λt=>[(2,.b t)]) Ze Zf ?_ ?_)))
 .exact au L
 exact au h
def fa(rec99:(AA Um)->AB Bool)(n:Nat)(Q:Um):AB Bool:=Um.elim Q (λf=>(bif (f.AY.AW==1)then AH (AH (FR n 1 5 [f.AY.By]) λj=>(bif j then AH (K3 n ({AR:=f.AY.AR:Uj})) λm=>(bif m then AH (LA n f) λq=>AC ((AI q:Int)==0)else AC AD)else AC AD):AB Bool) λt=>AC t else(bif (f.AY.AW==2)then AH ((bif (f.AY.By==0)then AH (Wt rec99 n ({AR:=f.AY.AR:Uj})) λx=>(bif x then(bif 0<(AI f.AY.Ba:Int) then AH (LA n f) λy=>AH (rec99 y) λB=>AC (!B)else AC AD)else AC AD)else AC AD):AB Bool) λE=>AC E else AC AD))) (λd=>AH ((bif (d.AR.Bz==0)then AC (d.AR.N==0)else AC AD):AB Bool) λh=>(bif (d.AR.AW==1)then AH (AH (FR n 1 3 [d.AR.Bz]) λF=>(bif F then AH (FR n 0 10000 [d.AR.N]) λG=>(bif G then AC ((AI d.AR.Ac:Int)==0)else AC AD)else AC AD):AB Bool) λH=>AC H else AH ((bif (d.AR.AW==4)then(bif h then AC (.k ((AI d.AR.Ac:Int)==1))else AC (.k AD))else AH ((bif (d.AR.AW==2)then AC (d.AR.AW==2)else AC (d.AR.AW==3)):AB Bool) λJ=>(bif J then(bif h then(bif 0<(AI d.AR.Ac:Int) then AC (.k (AG ((AI d.AR.Ac:Int)<=16)))else AC (.k AD))else AC (.k AD))else AC (.d AD))):AB (CG Bool Bool)) λL=>match L with|.k g=>(AH ((bif g then AH (KD n ({AR:=d.AR:Uj})) λM=>AH (rec99 M) λO=>AC (!O)else AC AD):AB Bool) λP=>AC P)|.d g=>AC g))
instance jR(rec99:(AA Um)->AB Bool)[O:∀(j:AA Um),Ks (rec99 j) 301 [.q 1 (map Um.enc j),.f 302] [] (λr=>.b r)](n:Nat)(j:Um):Ks (fa rec99 n j) 323 [Um.val j] [] (λr=>.b r):=by
 refine Kg 14 func323 Z Z Z Z λr h=>?_;rcases JJ j with⟨E,hE2⟩|⟨F,hE4⟩
 .have h:=Jw hE2 h;refine Et (Q5 (s:=0) (a':=.iface 425 (.a (Uq.c E))) Z (congrArg Um.val hE2)) ?_;refine Et (Q5 (s:=7) (a':=.iface 425 (.a (Uq.c E))) Z (congrArg Um.val hE2)) ?_;refine vX (.t [.a [I 0,I 0,I 0,.q 4 (map AR.enc [])],.b AD]) (lQ (z:=(.a [I 0,I 0,I 0,.q 4 (map AR.enc [])])) EU (by intro m;nofun) Z G3 (Fr Z)) ?_;refine Go 7 Z ?_;refine vX (.t [.a (Uq.c E),.b AE]) (Sy GD (by intro m;nofun)) ?_;refine Go 35 Z (Cn Z h (λ_ h=>?_) (λ_ h=>?_))
  .exact au h
  refine Gc 6 Z (Cn Z h (λ_ h=>?_) (λ_ h=>?_))
  .refine Gc 1 Z (Bd h λq g h=>Ct q [] [] (λq=>[(2,.b q)]) Ze Zf ?_ (λenv H f=>?_))
   .refine G0 6 Z (Is 113 g Z (λ_ g=>?_) (λ_ g=>?_))
    .refine Go 1 Z ?_;refine vX (.iface 443 (.a (Uj.c ({AR:=E.AY.AR:Uj})))) (eD Z EU (by intro m;nofun) Z) ?_ (gT Z);exact au g
    exact au g
   exact Gx 1 Z (Ee f (TA 4 Z h 2 []))
  exact au h
 .have h:=Ju hE4 h;refine Et (Q5 (s:=0) (a':=.iface 443 (.a (Uj.c ({AR:=F.AR:Uj})))) Z (congrArg Um.val hE4)) ?_;refine Et (Q5 (s:=7) (a':=.iface 443 (.a (Uj.c ({AR:=F.AR:Uj})))) Z (congrArg Um.val hE4)) ?_;refine vX (.t [.a (Uj.c ({AR:=F.AR:Uj})),.b AE]) (Sy EU (by intro m;nofun)) ?_;refine Go 12 Z (Bd h λt Q h=>Ct t [0] [3] (λt=>[(4,.b t)]) Ze Zf ?_ (λenv H f=>?_))
  .exact au Q
  refine Gx 1 Z (Ee f (Gc 15 Z (Cn Z h (λ_ h=>?_) (λ_ h=>?_))))
  .exact au h
  refine Gc 6 Z (Bd h λR d h=>Fb (b:=R) [0] [3] (λx=>[(4,.b x)]) Ze Zf ?_ (λx env H hb f=>?_))
  .refine G0 0 Z (Cn Z d (λ_ d=>?_) (λ_ d=>?_))
   .exact au d
   refine Gc 7 Z (Bd d λy T d=>Ct y [0] [3,4] (λy=>[(55,.b y)]) Ze Zf ?_ (λenv H f=>?_))
   .exact au T
   refine Gx 1 Z (Ee f (Q8 Z d (λ_ d=>?_) (λ_ d=>?_)))
   .refine Gc 6 Z ?_;cases d;exact au h
   exact au d
  subst hb;refine Gx 2 Z (Ee f (Gc 1 Z (Bd h λB V h=>Cg B [] [] (λB=>[(2,.b B)]) Ze Zf ?_ ?_)))
  .exact au V
  exact au h
def W4(rec99:(AA Um)->AB Bool)(n:Nat)(d:Um):AB Bool:=AH (fa rec99 n d) λf=>AC (!f)
instance jX(rec99:(AA Um)->AB Bool)[f:∀(d:AA Um),Ks (rec99 d) 301 [.q 1 (map Um.enc d),.f 302] [] (λr=>.b r)](n:Nat)(d:Um):Ks (W4 rec99 n d) 302 [Um.val d] [] (λr=>.b r):=by
 exact Kg 8 func302 Z Z Z Z λr h=>Bd h λj g h=>Pc [] Z (C7.fn call323 Z Z Z) ((jR rec99 _ _).c _ g) (hargs:=by first|exact Z|exact Eq.trans (by exact Z) (S3 _ (by simp[YJ,YK,Um.data])).symm) Z (Gt 5 Z h 2 [])
def nL(f:AA Um)(rec99:(AA Um)->AB Bool)(d:Int):AB (CG Int (CG Unit Int)):=(bif d<(AI f:Int) then AH (CJ f d) λg=>AH (W4 rec99 n g) λh=>(bif h then AC (.d (.d d))else AC (.k (i64.wrap (d+1))))else AC (.d (.k ())))
def fL(rec99:(AA Um)->AB Bool)(n:Nat)(g:AA Um):AB Int:=AH (iter (nL n g rec99) n 0:AB (CG Unit Int)) λf=>match f with|.k d=>(AC (-1))|.d d=>AC d
instance vr(rec99:(AA Um)->AB Bool)[y:∀(f:AA Um),Ks (rec99 f) 301 [.q 1 (map Um.enc f),.f 302] [] (λr=>.b r)](n:Nat)(f:AA Um):Ks (fL rec99 n f) 322 [.q 1 (map Um.enc f),.f 302] [] (λr=>I r):=by
 refine Kg 9 func322 Z Z Z Z λr h=>Lg 3 Z Z (Bd h λB E h=>D_ (b:=B) [] [] Ze Ze Zf ?_ (λ_ F=>?_))
 .refine G0 1 Z (Lp [] [0,1,7] (λj=>[(8,I j)]) Ze E Zf (Lr []) λj H d g=>?_);refine G0 6 Z (Q8 Z d (λ_ d=>?_) (λ_ d=>?_))
  .exact Jd g d
  refine Gc 15 Z (Bd d λJ q d=>Iz q Z (Go 1 Z (Bd d λL t d=>Pc [] Z (JQ call302 Z Z Z Z) ((jX rec99 _ _).c _ t) (hargs:=by first|exact Z|exact Eq.trans (by exact Z) (S3 _ (by simp[YJ,YK,Um.data])).symm) Z (Go 2 Z (Cn Z d (λ_ d=>?_) (λ_ d=>?_))))))
  .exact DX g d h
  exact au d
 subst F;exact au h
def X_(rec99:(AA Um)->AB Bool)(n:Nat)(d:AA Um):AB Bool:=AH (fL rec99 n d) λf=>AC (AG (0<=f))
theorem Qaz(rec99:(AA Um)->AB Bool)(f:∀(d:AA Um),Ks (rec99 d) 301 [.q 1 (map Um.enc d),.f 302] [] (λr=>.b r))(n:Nat)(d:AA Um):Ks (X_ rec99 n d) 301 [.q 1 (map Um.enc d),.f 302] [] (λr=>.b r):=KA func301
def KF:Nat->(AA Um)->AB Bool
  |0=>λ_=>AF
  |n+1=>X_ (KF n) n
instance zy:∀(d:AA Um),Ks (KF n d) 301 [.q 1 (map Um.enc d),.f 302] [] (λr=>.b r):=by
  induction n with
  |zero=>exact λ_=>⟨nofun⟩
  |succ n ih=>exact Qaz _ ih n
def fB(d:AA Um):AB Int:=AH (fE n d 0 ({BG:=0,BH:=0:Uk})) λf=>(bif (!f.2)then AC 2 else AH ((bif ((AI d:Int)==0)then AC AE else AH (KF n d) λg=>AC g):AB Bool) λh=>(bif h then AC 71 else AC 0))
instance vg(d:AA Um):Ks (fB n d) 256 [.q 1 (map Um.enc d)] [] (λr=>I r):=KA func256
def WH(d:AA AY):AB Int:=AH (Mf n d) λf=>AH (fB n f) λg=>AC g
instance wP(d:AA AY):Ks (WH n d) 157 [.q 8 (map AY.enc d)] [] (λr=>I r):=KA func157
def L6(n:Nat)(f:CH)(g:AA Int)(d:(AA Int)×Int):AB (CG ((AA Int)×Int) (CG (AA Int) (CG ((AA Int)×Int) (CG (AA Int) (AA Int))))):=(bif d.2<(if f.As<1 then 1 else f.As) then(bif 256<(AI d.1:Int) then AC (.d (.d (.d (.d d.1))))else AH (app d.1 g) λh=>AC (.k (h,i64.wrap (d.2+1))))else AC (.d (.k d.1)))
def L7(h:AA CH)(rec118:(AA CH)->AB (AA Int))(d:(AA Int)×Int):AB (CG ((AA Int)×Int) (CG (AA Int) (AA Int))):=(bif d.2<(AI h:Int) then AH (CJ h d.2) λg=>AH ((bif 0<g.As then AH (rec118 g.Ac) λj=>AC j else AC [g.Al]):AB (AA Int)) λm=>AH (iter (L6 n g m) n (d.1,0):AB (CG (AA Int) (CG ((AA Int)×Int) (CG (AA Int) (AA Int))))) λq=>match q with|.k f=>(AC (.k (f,i64.wrap (d.2+1))))|.d f=>AC f else AC (.d (.k d.1)))
def P9(rec118:(AA CH)->AB (AA Int))(n:Nat)(g:AA CH):AB (AA Int):=AH (iter (L7 n g rec118) n ([],0):AB (CG (AA Int) (AA Int))) λf=>match f with|.k d=>(AC d)|.d d=>AC d
theorem Qc7(rec118:(AA CH)->AB (AA Int))(Q:∀(B:AA CH),Kq (rec118 B) 260 [.q 3 (map CH.enc B)] [] (λr=>.o 0 (AI r) 1) (λr=>[.r 3 1 (map eI r)]))(n:Nat)(B:AA CH):Kq (P9 rec118 n B) 260 [.q 3 (map CH.enc B)] [] (λr=>.o 0 (AI r) 1) (λr=>[.r 3 1 (map eI r)]):=by
 refine Kg 9 func260 Z Z Z Z λr h=>Lg 3 Z Z (Bd h λR T h=>D_ (b:=R) [0] [] (λg=>[(2,.o 0 (AI g) 1)]) (λg=>[(0,.r 3 1 (map eI g))]) Zf ?_ (λg E=>?_))
 .refine G0 1 Z (Lp [0] [6,7] (λm=>[(2,.o 0 (AI m.1) 1),(8,I m.2)]) (λm=>[(0,.r 3 1 (map eI m.1))]) T Zf ?_ ?_)
  .refine En (Er (s:=2) (k:=1) (t:=3) (XR Z) Z) ?_;exact Lr [0]
  intro m Y d F;refine G0 6 Z (Q8 Z d (λ_ d=>?_) (λ_ d=>?_))
  .exact Jd F d
  refine Gc 6 Z (Bd d λy M d=>FU M (QO y) Z (Go 9 Z (vH (Ek (xs:=[.tmp 13]) (es:=map eI [y.Al]) QF Z Z Z Z Z ⟨Z,trivial⟩ Z Z) ?_)));refine Fg 11 Z Z (Bd d λq V d=>Ct q [0,1,0] [2,4,6,7,8] (λq=>[(5,.o 2 (AI q) 1)]) (λq=>[(2,.r 3 1 (map eI q))]) Zf ?_ (λenv H G=>?_))
  .exact au V
  refine Gx 1 Z (Ee G (Gc 4 Z ?_));refine vX (I (if y.As<1 then 1 else y.As)) (CT.max Z Z Z Z) ?_;refine Go 3 Z (Bd d λW X d=>Fb (b:=W) [0] [6,7,8] (λj=>[(2,.o 0 (AI j) 1)]) (λj=>[(0,.r 3 1 (map eI j))]) Zf ?_ (λj env H E G=>?_))
  .refine G0 1 Z (Lp [0,2] [5,6,7,8,23] (λx=>[(2,.o 0 (AI x.1) 1),(24,I x.2)]) (λx=>[(0,.r 3 1 (map eI x.1))]) X Zf (Lr [0,2]) λx aa f J=>?_);refine G0 6 Z (Q8 Z f (λ_ f=>?_) (λ_ f=>?_))
   .exact Jd J f
   refine Gc 12 Z (Cn Z f (λ_ f=>?_) (λ_ f=>?_))
   .refine Gc 10 Z (I7 f ?_);obtain rfl:=Oj J f;exact DX F d h
   refine Gc 5 Z (Bd f λab P f=>vH (Qj (e:=eI) P QF EB (QC (i:=1))) ?_);exact au f
  subst E;exact Gx 2 Z (Ee G (Gc 4 Z (QZ d (Lr [0]))))
 subst E;exact au h
def KH:Nat->(AA CH)->AB (AA Int)
  |0=>λ_=>AF
  |n+1=>P9 (KH n) n
instance z_:∀(d:AA CH),Kq (KH n d) 260 [.q 3 (map CH.enc d)] [] (λr=>.o 0 (AI r) 1) (λr=>[.r 3 1 (map eI r)]):=by
  induction n with
  |zero=>exact λ_=>⟨nofun⟩
  |succ n ih=>exact Qc7 _ ih n
def OS(n:Nat)(d:CO)(f:AA (Int×Int)):AB Bool:=AH (AC (Qm f d.Al 0)) λg=>AC (AG (d.B9<=g))
instance xO(d:CO)(f:AA (Int×Int)):Ks (OS n d f) 261 [.a (CO.c d),.p 0 0] [.c 137 [.map 1],.map (Qn I I f)] (λr=>.b r):=by
 refine Kg 11 func261 Z Z Z Z λr h=>Bd h λj g h=>(vV (Q7 YN g EK EV Eo) ?_);exact au h
def fJ(d:CO)(f:AA (Int×Int)):AB Bool:=AH (OS n d f) λg=>AC (!g)
instance vo(d:CO)(f:AA (Int×Int)):Ks (fJ n d f) 287 [.a (CO.c d),.p 0 0] [.c 375 [.fn (.func 261) [] [.p 1 0]],.c 137 [.map 2],.map (Qn I I f)] (λr=>.b r):=KA func287
def nm(f:AA CO)(j:AA (Int×Int))(d:Int):AB (CG Int (CG Unit Int)):=(bif d<(AI f:Int) then AH (CJ f d) λg=>AH (fJ n g j) λh=>(bif h then AC (.d (.d d))else AC (.k (i64.wrap (d+1))))else AC (.d (.k ())))
def fU(g:AA CO)(h:AA (Int×Int)):AB Int:=AH (iter (nm n g h) n 0:AB (CG Unit Int)) λf=>match f with|.k d=>(AC (-1))|.d d=>AC d
instance v8(d:AA CO)(f:AA (Int×Int)):Ks (fU n d f) 315 [.q 3 (map CO.c d),.fn (.func 287) [] [.p 0 0]] [.c 375 [.fn (.func 261) [] [.p 1 0]],.c 137 [.map 2],.map (Qn I I f)] (λr=>I r):=KA func315
def fA(d:AA CO)(f:AA (Int×Int)):AB Bool:=AH (fU n d f) λg=>AC (AG (0<=g))
instance ve(d:AA CO)(f:AA (Int×Int)):Ks (fA n d f) 286 [.q 3 (map CO.c d),.fn (.func 287) [] [.p 0 0]] [.c 375 [.fn (.func 261) [] [.p 1 0]],.c 137 [.map 2],.map (Qn I I f)] (λr=>.b r):=KA func286
def ey(d:AA CO)(f:AA (Int×Int)):AB Bool:=AH (fA n d f) λg=>AC (!g)
instance vW(d:AA CO)(f:AA (Int×Int)):Ks (ey n d f) 239 [.q 3 (map CO.c d),.fn (.func 261) [] [.p 0 0]] [.c 137 [.map 1],.map (Qn I I f)] (λr=>.b r):=KA func239
def Ko(n:Nat)(y:CB)(B:AA (Ul×Bool))(g:AA Int)(d:(AA (Int×Int))×Int):AB (CG ((AA (Int×Int))×Int) (CG (AA (Int×Int)) Bool)):=(bif d.2<(AI g:Int) then AH (CJ g d.2) λf=>AH (CJ y.Au f) λh=>AH ((bif ((h.AW==1) != (d.2==0))then AC AE else(bif ((h.AW==3) != (d.2==(i64.wrap ((AI g:Int)-1))))then AC AE else(bif 0<d.2 then AH (CJ g (i64.wrap (d.2-1))) λj=>AH (AC (Qm B ({BZ:=j,to_:=f:Ul}) AD)) λm=>AC (!m)else AC AD))):AB Bool) λq=>(bif q then AC (.d (.d AD))else AH (AC (Qm d.1 f 0)) λt=>AH (AC (QL d.1 f (i64.wrap (t+1)))) λx=>AC (.k (x,i64.wrap (d.2+1))))else AC (.d (.k d.1)))
def Ol(h:CB)(f:AN)(j:AA (Ul×Bool)):AB Bool:=AH (KH n f.Ad) λg=>AH ((bif (i64.wrap ((AI g:Int)-1))<1 then AC AE else AC (AG (256<=(i64.wrap ((AI g:Int)-1))))):AB Bool) λE=>(bif E then AC AD else AH (iter (Ko n h j g) n ([],0):AB (CG (AA (Int×Int)) Bool)) λm=>match m with|.k d=>(AH ((bif 0<=f.An then AH (AC (Qm d f.An 0)) λq=>(bif (q==0)then AC AE else AH (CJ h.Au f.An) λt=>(bif (t.AW != 2)then AC AE else AH (AC (Qm j ({BZ:=f.An,to_:=f.An:Ul}) AD)) λx=>AC (!x)))else AC AD):AB Bool) λy=>(bif y then AC AD else AH (ey n f.Ar d) λB=>AC B))|.d d=>AC d)
instance xc(a1:CB)(y:AN)(L:AA (Ul×Bool)):Ks (Ol n a1 y L) 160 [.a (CB.c a1),.a (AN.c y),.map 0] [.map (Qn (λx=>A.a (Ul.c x)) A.b L)] (λr=>.b r):=by
 refine Kg 11 func160 Z Z Z Z λr h=>Cd [] h Kc Z λr1 aq h=>Fg 13 Z Z (Bd h λP h4 h=>Ct P [0,1,2,3] [2,3,4,7,8] (λP=>[(25,.b P)]) Ze Zf ?_ (λenv H m=>?_))
 .exact au h4
 refine Gx 1 Z (Ee m (Cn Z h (λ_ h=>?_) (λ_ h=>?_)))
 .exact au h
 refine Gc 4 Z (vH Yi ?_);refine Fg 12 Z Z (Bd h λaj ak h=>Fb (b:=aj) [0,1,2,4,5] [2,3,4] (λ_=>[(9,.p 3 0)]) (λq=>[(3,.c 137 [.map 4]),(4,.map (Qn I I q))]) Zf ?_ (λq env H al m=>?_))
 .refine G0 1 Z (Lp [0,1,2,3,5,4] [2,3,4,7,8,9,27,28] (λj=>[(29,I j.2)]) (λj=>[(4,.c 137 [.map 5]),(5,.map (Qn I I j.1))]) ak Zf (Lr [0,1,2,3,5,4]) λj ar d B=>?_);refine G0 6 Z (Q8 Z d (λ_ d=>?_) (λ_ d=>?_))
  .exact Jd B d
  refine Gc 7 Z (Bd d λt E d=>?_);refine vX (.p 3 (toNat j.2*1)) (Qd E Z EB EC) ?_;refine vX (I t) (Ez Z EE Z (Qh E)) ?_;refine Go 9 Z (Bd d λM R d=>Iz R Z (Go 7 Z (Bd d λF g d=>Ct F [0,1,2,3,4,5] [2,3,4,7,8,9,11,27,28,29] (λF=>[(68,.b F)]) Ze Zf ?_ (λenv H m=>?_))))
  .refine G0 5 Z ?_;refine vX (.b ((M.AW==1) != (j.2==0))) (sr runUnderlying4) ?_;refine Go 1 Z (Is 45 g Z (λ_ g=>?_) (λ_ g=>?_))
   .exact au g
   .refine Go 5 Z ?_;refine vV (x:=(.b ((M.AW==3) != (j.2==(i64.wrap ((AI r1:Int)-1)))))) (sr runUnderlying4) ?_ (gT Z);refine Go 2 Z (Is 53 g Z (λ_ g=>?_) (λ_ g=>?_))
    .exact au g
    .refine Go 3 Z (Is 56 g Z (λ_ g=>?_) (λ_ g=>?_))
     .refine Go 4 Z (Bd g λN G g=>?_);refine vX (.p 3 (toNat (i64.wrap (j.2-1))*1)) (Qd G Z EB EC) ?_ (gT Z);refine vX (I N) (Ez Z EE Z (Qh G)) ?_ (gT Z);refine Go 2 Z (Bd g λam X g=>?_);refine vX (.b am) (Q7 (ev:=A.b) (z0:=AD) (k:=({BZ:=N,to_:=t:Ul})) (l:=L) dh X Gv E7 ZR.bool) ?_ (gT Z);exact au g
     exact au g
  refine Gx 1 Z (Ee m (Cn Z d (λ_ d=>?_) (λ_ d=>?_)))
  .exact DX B d h
  refine Gc 5 Z (Bd d λO aa d=>?_);refine vX (I O) (Q7 (ev:=I) (z0:=0) (k:=t) (l:=j.1) YN aa EK EV Eo) ?_;refine Go 1 Z (Bd d λav ab d=>?_);refine vU (Ye (ev:=I) (k:=t) (v:=(i64.wrap (O+1))) (l:=j.1) YN ab Z EK) ?_;exact au d
 subst al;refine Gx 1 Z (Ee m (Gc 9 Z (Bd h λJ f h=>Cg J [0,2,3,4] [4,9] (λJ=>[(100,.b J)]) (λ_=>[(2,.c 137 [.map 3])]) Zf ?_ ?_)))
 .refine G0 4 Z (Is 78 f Z (λ_ f=>?_) (λ_ f=>?_))
  .refine Go 2 Z (Bd f λan ad f=>?_);refine vX (I an) (Q7 (ev:=I) (z0:=0) (k:=y.An) (l:=q) YN ad EK EV Eo) ?_ (gT Z);refine Go 2 Z (Is 83 f Z (λ_ f=>?_) (λ_ f=>?_))
   .exact au f
   .refine Go 3 Z (Bd f λaw af f=>Iz af Z (Go 5 Z (Is 92 f Z (λ_ f=>?_) (λ_ f=>?_))))
    .exact au f
    .refine Go 4 Z (Bd f λao ah f=>?_);refine vX (.b ao) (Q7 (ev:=A.b) (z0:=AD) (k:=({BZ:=y.An,to_:=y.An:Ul})) (l:=L) dh ah Gv E7 ZR.bool) ?_ (gT Z);exact au f
  exact au f
 exact au h
def WJ(d:AN)(f:CB)(g:AA (Ul×Bool)):AB Bool:=AH (Ol n f d g) λh=>AC h
instance wR(d:AN)(f:CB)(g:AA (Ul×Bool)):Ks (WJ n d f g) 159 [.a (AN.c d),.p 0 0,.p 1 0] [.c 33 (CB.c f),.c 292 [.map 2],.map (Qn (λx=>A.a (Ul.c x)) A.b g)] (λr=>.b r):=KA func159
def fF(d:AN)(f:CB)(g:AA (Ul×Bool)):AB Bool:=AH (WJ n d f g) λh=>AC (!h)
instance vi(d:AN)(f:CB)(g:AA (Ul×Bool)):Ks (fF n d f g) 259 [.a (AN.c d),.p 0 0] [.c 297 [.fn (.func 159) [] [.p 1 0,.p 2 0]],.c 33 (CB.c f),.c 292 [.map 3],.map (Qn (λx=>A.a (Ul.c x)) A.b g)] (λr=>.b r):=KA func259
def nW(f:AA AN)(j:CB)(m:AA (Ul×Bool))(d:Int):AB (CG Int (CG Unit Int)):=(bif d<(AI f:Int) then AH (CJ f d) λg=>AH (fF n g j m) λh=>(bif h then AC (.d (.d d))else AC (.k (i64.wrap (d+1))))else AC (.d (.k ())))
def e7(g:AA AN)(h:CB)(j:AA (Ul×Bool)):AB Int:=AH (iter (nW n g h j) n 0:AB (CG Unit Int)) λf=>match f with|.k d=>(AC (-1))|.d d=>AC d
instance vZ(d:AA AN)(f:CB)(g:AA (Ul×Bool)):Ks (e7 n d f g) 303 [.q 5 (map AN.c d),.fn (.func 259) [] [.p 0 0]] [.c 297 [.fn (.func 159) [] [.p 1 0,.p 2 0]],.c 33 (CB.c f),.c 292 [.map 3],.map (Qn (λx=>A.a (Ul.c x)) A.b g)] (λr=>I r):=KA func303
def fW(d:AA AN)(f:CB)(g:AA (Ul×Bool)):AB Bool:=AH (e7 n d f g) λh=>AC (AG (0<=h))
instance v9(d:AA AN)(f:CB)(g:AA (Ul×Bool)):Ks (fW n d f g) 258 [.q 5 (map AN.c d),.fn (.func 259) [] [.p 0 0]] [.c 297 [.fn (.func 159) [] [.p 1 0,.p 2 0]],.c 33 (CB.c f),.c 292 [.map 3],.map (Qn (λx=>A.a (Ul.c x)) A.b g)] (λr=>.b r):=KA func258
def WI(d:AA AN)(f:CB)(g:AA (Ul×Bool)):AB Bool:=AH (fW n d f g) λh=>AC (!h)
instance wQ(d:AA AN)(f:CB)(g:AA (Ul×Bool)):Ks (WI n d f g) 158 [.q 5 (map AN.c d),.fn (.func 159) [] [.p 0 0,.p 1 0]] [.c 33 (CB.c f),.c 292 [.map 2],.map (Qn (λx=>A.a (Ul.c x)) A.b g)] (λr=>.b r):=KA func158
def OK(n:Nat)(g:CB)(d:(AA (Ul×Bool))×Int):AB (CG ((AA (Ul×Bool))×Int) (AA (Ul×Bool))):=(bif d.2<(AI g.Az:Int) then AH (CJ g.Az d.2) λf=>AH (AC (QL d.1 ({BZ:=f.BA,to_:=f.To:Ul}) AE)) λh=>AC (.k (h,i64.wrap (d.2+1)))else AC (.d d.1))
def F_(d:CB):AB Int:=AH (O7 n d) λj=>(bif (!j)then AC 2 else AH (Ww n d) λm=>(bif (!m)then AC 70 else AH (Ph n d) λq=>(bif (!q)then AC 71 else AH (WH n d.BN) λf=>(bif (f != 0)then AC f else AH (iter (OK n d) n ([],0):AB (AA (Ul×Bool))) λg=>AH (WI n d.AO d g) λh=>(bif (!h)then AC 72 else AC 0)))))
instance k_e(y:CB):Ks (F_ n y) 87 [.a (CB.c y)] [] (λr=>I r):=by
 refine Kg 11 func87 Z Z Z Z λr h=>Cz [] h Kc Z λR J h=>Go 4 Z (Cn Z h (λ_ h=>?_) (λ_ h=>?_))
 .exact au h
 refine Gc 3 Z (Cz [] h Kc Z λT L h=>Go 4 Z (Cn Z h (λ_ h=>?_) (λ_ h=>?_)))
 .exact au h
 refine Gc 3 Z (Cz [] h Kc Z λV M h=>Go 4 Z (Cn Z h (λ_ h=>?_) (λ_ h=>?_)))
 .exact au h
 refine Gc 8 Z (Cz [] h Kc Z λW N h=>Go 9 Z (Cn Z h (λ_ h=>?_) (λ_ h=>?_)))
 .exact au h
 refine Gc 4 Z (vH Yi ?_);refine Fg 9 Z Z (Lg 3 Z Z (Bd h λg H h=>Cg g [0,1,2] [1] (λ_=>[(3,.p 1 0)]) (λg=>[(1,.c 292 [.map 2]),(2,.map (Qn (λx=>A.a (Ul.c x)) A.b g))]) Zf ?_ ?_))
 .refine G0 1 Z (Lp [0,2,1] [1,3,26,27] (λf=>[(28,I f.2)]) (λf=>[(1,.c 292 [.map 2]),(2,.map (Qn (λx=>A.a (Ul.c x)) A.b f.1))]) H Zf (Lr [0,2,1]) λf O d j=>?_);refine G0 6 Z (Q8 Z d (λ_ d=>?_) (λ_ d=>?_))
  .exact Jd j d
  refine Gc 6 Z (Bd d λP q d=>Iz q Z (Go 12 Z (Bd d λQ t d=>?_)));exact vU (Ye dh t Z Gv) (Fg 7 Z Z (QZ d (Lr [0,1,2])))
 exact au h
def IG(n:Nat)(d:Int):AB Bool:=AH ((bif (-1099511627776)<=d then AC (AG (d<=1099511627776))else AC AD):AB Bool) λf=>AC f
instance zj(d:Int):Ks (IG n d) 119 [I d] [] (λr=>.b r):=KA func119
def PJ(n:Nat)(d:Int):AB Unit:=AC ()
instance yH(d:Int):Ks (PJ n d) 117 [I d] [] (λ_=>.b (d != d)):=KA func117
def Kn(f:Int)(d:Int):AB Int:=AH (PJ n f) λg=>AH (PJ n d) λh=>(bif (f != f)then(bif (d != d)then AC 0 else AC (-1))else(bif (d != d)then AC 1 else(bif f<d then AC (-1)else(bif d<f then AC 1 else AC 0))))
instance k_v(d:Int)(f:Int):Ks (Kn n d f) 60 [I d,I f] [] (λr=>I r):=KA func60
def IB(n:Nat)(g:AA Int)(d:Int):AB (CG Int (CG Unit Int)):=(bif d<(AI g:Int) then AH (CJ g d) λf=>(bif (f != 0)then AC (.d (.d f))else AC (.k (i64.wrap (d+1))))else AC (.d (.k ())))
def J6(f:AA Int):AB Int:=AH (iter (IB n f) n 0:AB (CG Unit Int)) λg=>match g with|.k d=>(AC 0)|.d d=>AC d
instance zV(d:AA Int):Ks (J6 n d) 59 [.q 1 (map eI d)] [] (λr=>I r):=KA func59
def Ws(d:Ua)(f:Ua):AB Int:=AH (Kn n d.mat f.mat) λg=>AH (Kn n d.BV f.BV) λh=>AH (J6 n [g,h]) λj=>AC j
instance xB(d:Ua)(f:Ua):Ks (Ws n d f) 193 [.a [I d.mat,I d.BV],.a [I f.mat,I f.BV]] [] (λr=>I r):=KA func193
def Mc(d:CD)(f:CD):AB Int:=AH (Ws n ({mat:=d.Al,BV:=d.Ah:Ua}) ({mat:=f.Al,BV:=f.Ah:Ua})) λg=>AC g
instance y6(d:CD)(f:CD):Ks (Mc n d f) 120 [.a (CD.c d),.a (CD.c f)] [] (λr=>I r):=KA func120
def Og(n:Nat)(d:Int):AB Bool:=AH ((bif d<(-2199023255552) then AC AE else AC (AG (2199023255552<d))):AB Bool) λf=>AC f
instance xa(d:Int):Ks (Og n d) 122 [I d] [] (λr=>.b r):=KA func122
def ns(f:AA Int)(d:Int):AB (CG Int (CG Unit Int)):=(bif d<(AI f:Int) then AH (CJ f d) λg=>AH (Og n g) λh=>(bif h then AC (.d (.d d))else AC (.k (i64.wrap (d+1))))else AC (.d (.k ())))
def WA(g:AA Int):AB Int:=AH (iter (ns n g) n 0:AB (CG Unit Int)) λf=>match f with|.k d=>(AC (-1))|.d d=>AC d
instance wJ(d:AA Int):Ks (WA n d) 194 [.q 1 (map eI d),.f 122] [] (λr=>I r):=KA func194
end Go.Sw
