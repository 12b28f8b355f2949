/- What the functions compute that OutcomeWays reaches, and that their calls refine it (part 1 of 6). -/
import Derived.Test.YtbiglpikpigidaaGreatW23WaB
import Derived.Test.YtbiglpikpigidaaGreatV23Wa
set_option linter.unusedVariables false
set_option linter.unusedSimpArgs false
set_option maxRecDepth 100000
set_option maxHeartbeats 4000000
namespace Go.Sw
open Option renaming some→AC,none→AF,bind→AH
open Bool renaming false→AD,true→AE
open Decidable renaming decide→AG
open List renaming length→AI
variable (n:Nat)
open List(map)
open Int(toNat)
open Go.IntKind(i64 u64 u8)
open Go.Proofs Tryz
def fF(n:Nat)(d:Int):AB (AA AN):=AH ((bif 0<d then AC [{Al:=1,B8:=1,Bt:=d:CO}]else AC []):AB (AA CO)) λf=>AC [{Ao:=[100],Ae:=[UA,{UA with Al:=1:CG}],BI:=1,Aq:=f,Am:=(-1):AN}]
instance vi(g:Int):Kq (fF n g) 64 [I g] [] (λr=>.a [.str [99],.o 0 ([{Ao:=[115],AX:=1:Al},{Ao:=[101],AX:=3:Al}].length) 2,.o 1 ([{BA:=0,To:=1,Bl:=10,Bq:=1000:Cp}].length) 4,.o 2 (AI r) 5,.o 3 ([{Ao:=[119],B9:=0:A2}].length) 2,.q 4 (map AZ.c []),.q 3 (map AW.c []),.q 4 (map CQ.c []),.o 4 ([{UI with AX:=1,By:=4:AY}].length) 8,I 0,I 0,I 0,I 0,I 0,I 0,I 0]) (λr=>[.r 214 2 (map Al.c [{Ao:=[115],AX:=1:Al},{Ao:=[101],AX:=3:Al}]),.r 221 4 (map Cp.c [{BA:=0,To:=1,Bl:=10,Bq:=1000:Cp}]),.r 66 5 (map AN.c r),.r 68 2 (map A2.c [{Ao:=[119],B9:=0:A2}]),.r 257 8 (map AY.enc [{UI with AX:=1,By:=4:AY}]),.c 33 [.str [99],.o 0 ([{Ao:=[115],AX:=1:Al},{Ao:=[101],AX:=3:Al}].length) 2,.o 1 ([{BA:=0,To:=1,Bl:=10,Bq:=1000:Cp}].length) 4,.o 2 (AI r) 5,.o 3 ([{Ao:=[119],B9:=0:A2}].length) 2,.q 4 (map AZ.c []),.q 3 (map AW.c []),.q 4 (map CQ.c []),.o 4 ([{UI with AX:=1,By:=4:AY}].length) 8,I 0,I 0,I 0,I 0,I 0,I 0,I 0]]):=by
 refine Kg 9 func64 Z Z Z Z λr h=>vH (Ek (xs:=[.tmp 4,.tmp 5]) cI Z Z Z Z Z ⟨Z,Z,trivial⟩ Z Z) ?_;refine Fg 12 Z Z (Bd h λf d h=>Cg f [0,2,1] [2,3] Ze (λf=>[(1,.c 66 [.str [100],.o 2 ([UA,{UA with Al:=1:CG}].length) 3,I 1,.q 3 (map CO.c f),I (-1)])]) Zf ?_ ?_)
 .refine G0 0 Z (Cn Z d (λ_ d=>?_) (λ_ d=>?_))
  .refine Gc 3 Z (vH (Ek (xs:=[.tmp 11]) cH Z Z Z Z Z ⟨Z,trivial⟩ Z Z) (Fg 3 Z Z ?_));cases d;exact En (Ym [(12,_)] Z Z (Cx.cons Z Ep Cx.nil) (Ec (Ec (Dg.cells (CN.k (CN.k (CN.k (Ed Ep (Ej _))))) (Ec (QQ _)))))) (Lr [0,2,1])
  exact au d
 refine Gc 4 Z (vH (Ek (xs:=[.tmp 14,.tmp 15]) cL Z Z Z Z Z ⟨Z,Z,trivial⟩ Z Z) (Fg 1 Z Z (vH (Ek (xs:=[.tmp 17]) cK Z Z Z Z Z ⟨Z,trivial⟩ Z Z) ?_)));refine Fg 1 Z Z ?_;refine Et (Ym [(19,_)] Z Z (Cx.cons Z (DO.agg (CN.k (Ed Ep (Ej _)))) Cx.nil) (Ec (Dg.cells (CN.k (Ed Ep (Ej _))) (Ec (QQ _))))) (vH (Ek (xs:=[.tmp 19]) cJ Z Z Z Z Z ⟨Z,trivial⟩ Z Z) ?_);exact au h
def LD(n:Nat):AB Unit:=AC ()
instance gI:Kq (LD n) 22 [] [] (λ_=>.a [.q 3 (map CC.c []),.o 0 ([[0]].length) 1]) (λ_=>[.r 73 1 (map (Qu 1 eI) [[0]]),.c 39 [.q 3 (map CC.c []),.o 0 ([[0]].length) 1]]):=by
 refine Kg 7 func22 Z Z Z Z λr h=>vH (Ek (xs:=[.const (.int .i64 0)]) QG Z Z Z Z Z ⟨Z,trivial⟩ Z Z) ?_;refine Et (Ym [(1,_)] Z Z (Cx.cons Z Ep Cx.nil) (Ec (Ec (QQ _)))) ?_;refine vH (Ek (xs:=[.tmp 1]) pF Z Z Z Z Z ⟨Z,trivial⟩ Z Z) (Fg 5 Z Z ?_);exact Rx [2,0] [0] Z (JS Z (Yk isAgg39 sizeOf39 Z Z Z)) ⟨Z,Z⟩
def UL(n:Nat)(f:AA CE)(d:Ui×Int):AB (CF (Ui×Int) Ui):=(bif d.2<(AI f:Int) then AH (CI f d.2) λg=>AC (.k ({d.1 with BV:=i64.wrap (d.1.BV+g.As):Ui},i64.wrap (d.2+1)))else AC (.d d.1))
def Mp(f:CA)(g:CD)(h:AO)(j:AA CL)(m:AA Ac)(d:AA CE)(q:Int):AB Ui:=AH (iter (UL n d) n ({A3:=f,Bh:=g,Ai:=h,Bu:=j,Bp:=m,Bi:=d,BV:=0,Aw:=q:Ui},0):AB Ui) λt=>AC t
instance jw(g:CA)(j:CD)(m:AO)(q:AA CL)(t:AA Ac)(x:AA CE)(y:Int):Kq (Mp n g j m q t x y) 31 [.a (CA.c g),.a (CD.c j),.a (AO.c m),.q 5 (map CL.c q),.q 4 (map Ac.c t),.q 4 (map CE.c x),I y] [] (λr=>.a (Ui.c r)) (λr=>[.c 123 (Ui.c r)]):=by
 refine Kg 26 func31 Z Z Z Z λr h=>Lg 3 Z Z (Bd h λf F h=>Cg f [0,1] [] (λ_=>[(14,.p 0 0),(15,.p 1 0)]) (λf=>[(0,.c 123 (Ui.c FO)),(1,.c 123 (Ui.c f))]) Zf ?_ ?_)
 .refine G0 1 Z (Lp [3,4] [14,15,26,27] (λd=>[(28,I d.2)]) (λd=>[(1,.c 123 (Ui.c d.1))]) F Zf (Lr [3,4]) λd G B E=>?_);exact Je E B
 exact au h
def MF(n:Nat)(j:AA CG)(m:Int)(rec12:(AA CG)->Int->AB (Int×Int))(d:Int×Int×Int):AB (CF (Int×Int×Int) (Int×Int)):=(bif d.2.2<(AI j:Int) then AH (AH (CI j d.2.2) λg=>AH ((bif ((AI g.Ad:Int)==0)then AC AE else(bif (m==0)then AC AE else AC (AG (256<d.2.1)))):AB Bool) λq=>(bif q then AC (d.1,d.2.1)else AH (rec12 g.Ad (i64.wrap (m-1))) λf=>AC ((if d.1<i64.wrap (f.1+1)then i64.wrap (f.1+1)else d.1),i64.wrap (d.2.1+f.2))):AB (Int×Int)) λh=>AC (.k (h.1,h.2,i64.wrap (d.2.2+1)))else AC (.d (d.1,d.2.1)))
def P8(rec12:(AA CG)->Int->AB (Int×Int))(n:Nat)(f:AA CG)(g:Int):AB (Int×Int):=AH (iter (MF n f g rec12) n (0,(AI f:Int),0):AB (Int×Int)) λd=>AC (d.1,d.2)
theorem QdI(rec12:(AA CG)->Int->AB (Int×Int))(F:∀(q:AA CG) (t:Int),Ks (rec12 q t) 222 [.q 3 (map CG.enc q),I t] [] (λr=>.t [I r.1,I r.2]))(n:Nat)(q:AA CG)(t:Int):Ks (P8 rec12 n q t) 222 [.q 3 (map CG.enc q),I t] [] (λr=>.t [I r.1,I r.2]):=by
 refine Kg 9 func222 Z Z Z Z λr h=>Lg 7 Z Z (Lg 3 Z Z (Bd h λg G h=>Cg g [] [] (λg=>[(4,I g.1),(5,I g.2)]) Ze Zf ?_ ?_))
 .refine G0 1 Z (Lp [] [1,12,13] (λj=>[(4,I j.1),(5,I j.2.1),(14,I j.2.2)]) Ze G Zf (Lr []) λj L d y=>?_);refine G0 6 Z (Q5 Z d (λ_ d=>?_) (λ_ d=>?_))
  .exact Je y d
  refine Gc 3 Z (Bd d λm f d=>Cg m [] [1,12,13,14] (λm=>[(4,I m.1),(5,I m.2)]) Ze Zf ?_ ?_)
  .refine G0 3 Z (Bd f λH E f=>FU E (QM H) Z (Go 7 Z (Bd f λx J f=>Cg x [0] [1,4,5,7,12,13,14] (λx=>[(29,.b x)]) Ze Zf ?_ ?_)))
   .exact au J
   exact au f
  exact au d
 exact au h
def KF:Nat->(AA CG)->Int->AB (Int×Int)
  |0=>λ_ _=>AF
  |n+1=>P8 (KF n) n
instance _A:∀(d:AA CG) (f:Int),Ks (KF n d f) 222 [.q 3 (map CG.enc d),I f] [] (λr=>.t [I r.1,I r.2]):=by
  induction n with
  |zero=>exact λ_ _=>⟨nofun⟩
  |succ n ih=>exact QdI _ ih n
def VW(h:CA)(d:Int):AB (CF Int (CF Unit Bool)):=(bif d<(AI h.AP:Int) then AH (CI h.AP d) λf=>AH (KF n f.Ae 17) λg=>AH ((bif 64<(AI f.Aq:Int) then AC AE else(bif 16<g.1 then AC AE else AC (AG (256<g.2)))):AB Bool) λj=>(bif j then AC (.d (.d AD))else AC (.k (i64.wrap (d+1))))else AC (.d (.k ())))
def O6(d:CA):AB Bool:=AH ((bif 40<(AI d.Ar:Int) then AC AE else(bif 512<(AI d.Az:Int) then AC AE else(bif 8<(AI d.AP:Int) then AC AE else(bif 32<(AI d.A0:Int) then AC AE else(bif 32<(AI d.Ab:Int) then AC AE else(bif 32<(AI d.AV:Int) then AC AE else AC (AG (32<(AI d.Ay:Int))))))))):AB Bool) λh=>(bif h then AC AD else AH (iter (VW n d) n 0:AB (CF Unit Bool)) λg=>match g with|.k f=>(AC AE)|.d f=>AC f)
instance x_(d:CA):Ks (O6 n d) 154 [.a (CA.c d)] [] (λr=>.b r):=KA func154
def MG(n:Nat)(d:(AA Int)×Int):AB (CF ((AA Int)×Int) (AA Int)):=(bif d.2<=122 then AH (L0 256 d.1 d.2) λh=>AH (JN d.1 d.2 2) λf=>AH (L0 256 f (u8.wrap (d.2-32))) λj=>AH (JN f (u8.wrap (d.2-32)) 2) λg=>AC (.k (g,u8.wrap (d.2+1)))else AC (.d d.1))
def OA(n:Nat)(d:(AA Int)×Int):AB (CF ((AA Int)×Int) (AA Int)):=(bif d.2<=57 then AH (L0 256 d.1 d.2) λg=>AH (JN d.1 d.2 3) λf=>AC (.k (f,u8.wrap (d.2+1)))else AC (.d d.1))
def UX(n:Nat)(d:(AA Int)×Int):AB (CF ((AA Int)×Int) (AA Int)):=(bif d.2<([123,125,40,41,91,93,59,44,61,60,62].length:Int) then AH (CI [123,125,40,41,91,93,59,44,61,60,62] d.2) λf=>AH (L0 256 d.1 f) λh=>AH (JN d.1 f 4) λg=>AC (.k (g,i64.wrap (d.2+1)))else AC (.d d.1))
def ez(n:Nat)(d:(AA Int)×Int):AB (CF ((AA Int)×Int) (AA Int)):=(bif d.2<(([32,9,10,13].length):Int) then AH (CI [32,9,10,13] d.2) λf=>AH (L0 256 d.1 f) λh=>AH (JN d.1 f 1) λg=>AC (.k (g,i64.wrap (d.2+1)))else AC (.d d.1))
def Pv:AB (AA Int):=AH (iter (MG n) n (List.replicate 256 0,97):AB (AA Int)) λf=>AH (iter (OA n) n (f,48):AB (AA Int)) λg=>AH (iter (UX n) n (g,0):AB (AA Int)) λh=>AH (iter (ez n) n (h,0):AB (AA Int)) λd=>AH (Nj 256 d) λj=>AH (Nj 256 d) λq=>AH (Nj 256 j) λm=>AC m
instance jo:Kq (Pv n) 325 [] [] (λr=>.a (List.flatten (map (Ys .u8) r))) (λr=>[.r 447 1 (map (Ys .u8) r)]):=by
 refine Kg 2 func325 Z Z Z Z λr h=>vH (uo (n:=256) (k:=1) (e:=(Ys .u8)) (z:=0) zeroValue447 (by kernel_rfl) (by kernel_rfl) (by kernel_rfl) Z) ?_;refine Fg 8 Z Z (Bd h λG an h=>Ct G [0] [0] Ze (λG=>[(0,.r 447 1 (map (Ys .u8) G))]) Zf ?_ (λenv H y=>?_))
 .refine G0 1 Z (Lp [0] [0] (λq=>[(1,.i .u8 q.2)]) (λq=>[(0,.r 447 1 (map (Ys .u8) q.1))]) an Zf (Lr [0]) λq az d W=>?_);refine G0 7 Z (Q5 Z d (λ_ d=>?_) (λ_ d=>?_))
  .exact Je W d
  refine Gc 8 Z (Bd d λba J d=>?_);refine vX (.p 0 (toNat q.2*1)) (Zw (n:=256) (k:=1) (l:=q.1) J E9 Ga Z) ?_;refine Bd d λao Y d=>?_;refine vU (Yy (e:=(Ys .u8)) (k:=1) (f:=0) (S0 J).2 Y Ga Z Z) ?_;refine FE Z (Bd d λbb L d=>?_);refine vX (.p 0 (toNat (u8.wrap (q.2-32))*1)) (Zw (n:=256) (k:=1) (l:=ao) L E9 Ga Z) ?_;refine Bd d λbc aa d=>?_;refine vU (Yy (e:=(Ys .u8)) (k:=1) (f:=0) (S0 L).2 aa Ga Z Z) ?_;exact au d
 refine Gx 1 Z (Ee y (Gc 6 Z (Bd h λM aq h=>Ct M [0] [0] Ze (λM=>[(0,.r 447 1 (map (Ys .u8) M))]) Zf ?_ (λenv H y=>?_))))
 .refine G0 1 Z (Lp [0] [0] (λt=>[(2,.i .u8 t.2)]) (λt=>[(0,.r 447 1 (map (Ys .u8) t.1))]) aq Zf (Lr [0]) λt bd m ab=>?_);refine G0 7 Z (Q5 Z m (λ_ m=>?_) (λ_ m=>?_))
  .exact Je ab m
  refine Gc 6 Z (Bd m λbe N m=>?_);refine vX (.p 0 (toNat t.2*1)) (Zw (n:=256) (k:=1) (l:=t.1) N E9 Ga Z) ?_;refine Bd m λbg ad m=>?_;refine vU (Yy (e:=(Ys .u8)) (k:=1) (f:=0) (S0 N).2 ad Ga Z Z) ?_;exact au m
 refine Gx 1 Z (Ee y (Gc 3 Z (vH (Ek (xs:=[.const (.int .u8 123),.const (.int .u8 125),.const (.int .u8 40),.const (.int .u8 41),.const (.int .u8 91),.const (.int .u8 93),.const (.int .u8 59),.const (.int .u8 44),.const (.int .u8 61),.const (.int .u8 60),.const (.int .u8 62)]) (es:=map (Ys .u8) [123,125,40,41,91,93,59,44,61,60,62]) Nz Z Z Z Z Z ⟨Z,Z,Z,Z,Z,Z,Z,Z,Z,Z,Z,trivial⟩ Z Z) ?_)));refine FE Z (vH (Qm9 (es:=map (Ys .u8) [123,125,40,41,91,93,59,44,61,60,62]) underlying279 underlying5 (X0 ..) Z) ?_);refine FE Z (Lg 3 Z Z (Bd h λO ar h=>Ct O [0] [0] Ze (λO=>[(0,.r 447 1 (map (Ys .u8) O))]) Zf ?_ (λenv H y=>?_)))
 .refine G0 1 Z (Lp [0] [0,23,24] (λB=>[(25,I B.2)]) (λB=>[(0,.r 447 1 (map (Ys .u8) B.1))]) ar Zf (Lr [0]) λB bh g ae=>?_);refine G0 6 Z (Q5 Z g (λ_ g=>?_) (λ_ g=>?_))
  .exact Je ae g
  refine Gc 6 Z (Bd g λav ag g=>Iz ag Z (Go 6 Z (Bd g λbi P g=>?_)));refine vX (.p 0 (toNat av*1)) (Zw (n:=256) (k:=1) (l:=B.1) P E9 Ga Z) ?_;refine Bd g λbj ah g=>?_;refine vU (Yy (e:=(Ys .u8)) (k:=1) (f:=0) (S0 P).2 ah Ga Z Z) ?_;exact au g
 refine Gx 1 Z (Ee y (Gc 3 Z (vH (Ek (xs:=[.const (.int .u8 32),.const (.int .u8 9),.const (.int .u8 10),.const (.int .u8 13)]) (es:=map (Ys .u8) [32,9,10,13]) Nz Z Z Z Z Z ⟨Z,Z,Z,Z,trivial⟩ Z Z) ?_)));refine Fg 4 Z Z (Bd h λF aw h=>Cg F [0] [0] Ze (λF=>[(0,.r 447 1 (map (Ys .u8) F))]) Zf ?_ ?_)
 .refine G0 1 Z (Lp [0,1] [0,32,33] (λx=>[(34,I x.2)]) (λx=>[(0,.r 447 1 (map (Ys .u8) x.1))]) aw Zf (Lr [0,1]) λx bk j ai=>?_);refine G0 6 Z (Q5 Z j (λ_ j=>?_) (λ_ j=>?_))
  .exact Je ai j
  refine Gc 6 Z (Bd j λV Q j=>?_);refine vX (.p 1 (toNat x.2*1)) (Qd Q Z EX Ga) ?_;refine vX (.i .u8 V) (Ez Z isAgg5 Z (Qh Q)) ?_;refine Go 5 Z (Bd j λbl R j=>?_);refine vX (.p 0 (toNat V*1)) (Zw (n:=256) (k:=1) (l:=x.1) R E9 Ga Z) ?_;refine Bd j λbm ak j=>?_;refine vU (Yy (e:=(Ys .u8)) (k:=1) (f:=0) (S0 R).2 ak Ga Z Z) ?_;exact au j
 refine Gc 2 Z (Bd h λax al h=>?_);refine vX (.a (List.flatten (map (Ys .u8) ax))) (Qjy (e:=(Ys .u8)) al Zf Z isAgg447 G5) ?_;refine Bd h λbn am h=>Bd h λay E h=>?_;obtain⟨T,rfl⟩:=St am;refine vU (uq (e:=(Ys .u8)) (l:=F) (l':=ay) T (lP E) Zf Z G5 Zf Zf (congrArg (λl=>List.flatten (map (Ys .u8) l)) (St E).2.symm)) ?_;refine Fg 3 Z Z ?_;obtain rfl:=Oi h;exact Rx [0] [0] Z (JS Z (QmY (e:=(Ys .u8)) (lP E) Zf Z isAgg447 G5)) ⟨Z,Z⟩
def U'(n:Nat)(g:AA UInt8)(q:AA Int)(d:Int):AB (CF Int (CF Unit Bool)):=(bif d<(AI g:Int) then AH (CI g d) λh=>AH (L0 256 q (h.toNat:Int)) λf=>AH ((bif (f != 2)then(bif (d==0)then AC AE else(bif (f != 3)then AH (CI g d) λj=>AC ((j.toNat:Int) != 95)else AC AD))else AC AD):AB Bool) λm=>(bif m then AC (.d (.d AD))else AC (.k (i64.wrap (d+1))))else AC (.d (.k ())))
def Pe(f:AA UInt8):AB Bool:=AH (Pv n) λh=>AH (Nj 256 (List.replicate 256 0)) λm=>AH (Nj 256 h) λj=>AH (iter (U' n f j) n 0:AB (CF Unit Bool)) λg=>match g with|.k d=>(AC (f != []))|.d d=>AC d
instance yi(y:AA UInt8):Ks (Pe n y) 312 [.str y] [] (λr=>.b r):=by
 refine Kg 7 func312 Z Z Z Z λr h=>Bd h λP B h=>?_;refine Qf [] (C6.fn call325 Z Z Z) ((jo _).c _ B) ?_;rintro _ _ ⟨rfl,rfl⟩;refine Ny (Qqm (e:=(Ys .u8)) Zf _ _) Z ?_;refine vH (uo (n:=256) (k:=1) (e:=(Ys .u8)) (z:=0) zeroValue447 (by kernel_rfl) (by kernel_rfl) (by kernel_rfl) Z) ?_;refine FE Z (Bd h λQ E h=>Bd h λF j h=>?_);obtain⟨q,rfl⟩:=St E;refine vU (uq (e:=(Ys .u8)) (l:=(List.replicate 256 0)) (l':=F) q (lP j) Zf Z G5 Zf Zf (congrArg (λl=>List.flatten (map (Ys .u8) l)) (St j).2.symm)) ?_;refine Fg 6 Z Z ?_;refine vV (tI Z Z Gh Z) ?_;refine Go 3 Z (Bd h λG H h=>D4 (b:=G) [] [0] Ze Ze Zf ?_ (λ_ J=>?_))
 .refine G0 1 Z (Lp [1] [0,3,8] (λm=>[(9,I m)]) Ze H Zf (Lr [1]) λm O d f=>?_);refine G0 6 Z (Q5 Z d (λ_ d=>?_) (λ_ d=>?_))
  .exact Je f d
  refine Gc 14 Z (Bd d λL x d=>?_);refine vX (.i .u8 (L.toNat:Int)) (uJ x Gh) ?_;refine Bd d λM g d=>?_;refine vV (Zw (n:=256) (k:=1) (l:=F) g E9 Ga Z) ?_;refine vX (.i .u8 M) (Ez Z isAgg5 Z (Qh (S0 g).2)) ?_;exact DZ f d h
 subst J;exact au h
def Ww(d:AA UInt8):AB Bool:=AH (AH (Pe n d) λj=>(bif j then AH (cat [32] d) λf=>AH (cat f [32]) λg=>AH (dY [32,99,111,117,114,115,101,32,109,97,116,115,32,115,116,97,114,116,32,112,97,115,115,32,101,110,100,32,108,101,103,32,116,111,32,100,105,115,116,97,110,99,101,32,103,117,110,32,99,104,105,112,32,115,108,111,116,32,108,97,112,115,32,108,97,112,32,99,117,116,111,102,102,32,101,120,116,114,97,32,119,97,118,101,32,111,102,102,101,110,99,101,32,111,117,116,32,99,97,116,101,103,111,114,121,32,112,114,105,122,101,32,97,108,108,32,116,105,101,115,32,105,102,32,101,108,115,101,32,97,110,100,32,111,114,32,110,111,116,32,111,108,100,101,114,32,121,111,117,110,103,101,114,32,98,105,98,32,100,114,97,119,32,102,105,101,108,100,32,115,104,111,114,116,32,102,97,117,108,116,115,32,109,105,115,115,101,115,32,115,116,114,97,121,115,32,119,105,110,100,111,119,32,114,101,115,105,100,117,97,108,32,100,114,105,102,116,32,112,114,111,116,101,115,116,32,102,101,101,32,100,101,97,100,108,105,110,101,32] g) λh=>AC h else AC AD):AB Bool) λm=>AC m
instance xL(q:AA UInt8):Ks (Ww n q) 282 [.str q] [] (λr=>.b r):=by
 refine Kg 6 func282 Z Z Z Z λr h=>Bd h λf d h=>Cg f [] [] (λf=>[(2,.b f)]) Ze Zf ?_ ?_
 .refine G0 2 Z (Cz [] d Kc Z λF x d=>Go 1 Z (Is 5 d Z (λ_ d=>?_) (λ_ d=>?_)))
  .refine Go 1 Z (Bd d λy g d=>?_);refine vV (tK g) (Bd d λB j d=>?_) (gT Z);refine vV (tK j) (Bd d λE m d=>?_) (gT Z);refine Qf [] (C6.fn call313 Z Z Z) (C.contains QdL Z m) ?_ (hg:=(gT Z));rintro _ _ ⟨rfl,rfl⟩;exact au d
  exact au d
 exact au h
def OC(n:Nat)(g:AA UInt8)(f:Int):AB (CF Int (CF Unit Bool)):=(bif f<(AI g:Int) then AH (CI g f) λd=>AH ((bif (d.toNat:Int)<97 then(bif (d.toNat:Int)<48 then AC ((d.toNat:Int) != 95)else(bif 57<(d.toNat:Int) then AC ((d.toNat:Int) != 95)else AC AD))else(bif 122<(d.toNat:Int) then(bif (d.toNat:Int)<48 then AC ((d.toNat:Int) != 95)else(bif 57<(d.toNat:Int) then AC ((d.toNat:Int) != 95)else AC AD))else AC AD)):AB Bool) λh=>(bif h then AC (.d (.d AD))else AC (.k (i64.wrap (f+1))))else AC (.d (.k ())))
def HL(d:AA UInt8):AB Bool:=AH ((bif (AI d:Int)<1 then AC AE else(bif 24<(AI d:Int) then AC AE else AH (CI d 0) λg=>(bif (g.toNat:Int)<97 then AC AE else AH (CI d 0) λh=>AC (AG (122<(h.toNat:Int)))))):AB Bool) λq=>(bif q then AC AD else AH (iter (OC n d) n 0:AB (CF Unit Bool)) λj=>match j with|.k f=>(AH (Ww n d) λm=>AC (!m))|.d f=>AC f)
instance z8(d:AA UInt8):Ks (HL n d) 223 [.str d] [] (λr=>.b r):=KA func223
def WJ(n:Nat)(d:Al):AB Unit:=AC ()
instance wb(d:Al):Ks (WJ n d) 225 [.a (Al.c d)] [] (λ_=>.str d.Ao):=KA func225
def nf(g:AA Al)(d:(AA (AA UInt8×Bool))×Int):AB (CF ((AA (AA UInt8×Bool))×Int) (CF Unit Bool)):=(bif d.2<(AI g:Int) then AH (CI g d.2) λf=>AH (WJ n f) λt=>AH (AH (HL n f.Ao) λh=>(bif (!h)then AC AE else AH (AC (Qn d.1 f.Ao AD)) λj=>AC j):AB Bool) λm=>(bif m then AC (.d (.d AD))else AH (AC (QK d.1 f.Ao AE)) λq=>AC (.k (q,i64.wrap (d.2+1))))else AC (.d (.k ())))
def WZ(g:AA Al):AB Bool:=AH (iter (nf n g) n ([],0):AB (CF Unit Bool)) λf=>match f with|.k d=>(AC AE)|.d d=>AC d
instance wv(F:AA Al):Ks (WZ n F) 224 [.q 2 (map Al.c F),.f 225] [] (λr=>.b r):=by
 refine Kg 7 func224 Z Z Z Z λr h=>vH Yl ?_;refine Fg 7 Z Z (Lg 3 Z Z (Bd h λG H h=>D4 (b:=G) [] [] Ze Ze Zf ?_ (λ_ J=>?_)))
 .refine G0 1 Z (Lp [0] [1,5,10,11] (λg=>[(12,I g.2)]) (λg=>[(0,.map (Qo A.str A.b g.1))]) H Zf (Lr [0]) λg O d j=>?_);refine G0 6 Z (Q5 Z d (λ_ d=>?_) (λ_ d=>?_))
  .exact Je j d
  refine Gc 6 Z (Bd d λP t d=>Iz t Z (Go 9 Z (Cz [] d Kc Z λQ M d=>Go 5 Z (Bd d λm f d=>Cg m [0] [1,5,8,10,11,12] (λm=>[(26,.b m)]) Ze Zf ?_ ?_))))
  .refine G0 2 Z (Cz [] f Kc Z λR N f=>Go 2 Z (Is 22 f Z (λ_ f=>?_) (λ_ f=>?_)))
   .exact au f
   .refine Go 2 Z (Bd f λT y f=>(vV (Yb L7 y E0 E7 ZR.bool) ?_ (gT Z)));exact au f
  refine Cn Z d (λ_ d=>?_) (λ_ d=>?_)
  .exact DZ j d h
  refine Gc 5 Z (Bd d λV E d=>(vU (Yh L7 E Z E0) ?_));exact au d
 subst J;exact au h
def Wj(n:Nat)(d:AN):AB Unit:=AC ()
instance w_(d:AN):Ks (Wj n d) 227 [.a (AN.c d)] [] (λ_=>.str d.Ao):=KA func227
def nh(g:AA AN)(d:(AA (AA UInt8×Bool))×Int):AB (CF ((AA (AA UInt8×Bool))×Int) (CF Unit Bool)):=(bif d.2<(AI g:Int) then AH (CI g d.2) λf=>AH (Wj n f) λt=>AH (AH (HL n f.Ao) λh=>(bif (!h)then AC AE else AH (AC (Qn d.1 f.Ao AD)) λj=>AC j):AB Bool) λm=>(bif m then AC (.d (.d AD))else AH (AC (QK d.1 f.Ao AE)) λq=>AC (.k (q,i64.wrap (d.2+1))))else AC (.d (.k ())))
def WR(g:AA AN):AB Bool:=AH (iter (nh n g) n ([],0):AB (CF Unit Bool)) λf=>match f with|.k d=>(AC AE)|.d d=>AC d
instance wj(F:AA AN):Ks (WR n F) 226 [.q 5 (map AN.c F),.f 227] [] (λr=>.b r):=by
 refine Kg 7 func226 Z Z Z Z λr h=>vH Yl ?_;refine Fg 7 Z Z (Lg 3 Z Z (Bd h λG H h=>D4 (b:=G) [] [] Ze Ze Zf ?_ (λ_ J=>?_)))
 .refine G0 1 Z (Lp [0] [1,5,10,11] (λg=>[(12,I g.2)]) (λg=>[(0,.map (Qo A.str A.b g.1))]) H Zf (Lr [0]) λg O d j=>?_);refine G0 6 Z (Q5 Z d (λ_ d=>?_) (λ_ d=>?_))
  .exact Je j d
  refine Gc 6 Z (Bd d λP t d=>Iz t Z (Go 9 Z (Cz [] d Kc Z λQ M d=>Go 5 Z (Bd d λm f d=>Cg m [0] [1,5,8,10,11,12] (λm=>[(26,.b m)]) Ze Zf ?_ ?_))))
  .refine G0 2 Z (Cz [] f Kc Z λR N f=>Go 2 Z (Is 22 f Z (λ_ f=>?_) (λ_ f=>?_)))
   .exact au f
   .refine Go 2 Z (Bd f λT y f=>(vV (Yb L7 y E0 E7 ZR.bool) ?_ (gT Z)));exact au f
  refine Cn Z d (λ_ d=>?_) (λ_ d=>?_)
  .exact DZ j d h
  refine Gc 5 Z (Bd d λV E d=>(vU (Yh L7 E Z E0) ?_));exact au d
 subst J;exact au h
def WB(n:Nat)(d:A2):AB Unit:=AC ()
instance wS(d:A2):Ks (WB n d) 229 [.a (A2.c d)] [] (λ_=>.str d.Ao):=KA func229
def ng(g:AA A2)(d:(AA (AA UInt8×Bool))×Int):AB (CF ((AA (AA UInt8×Bool))×Int) (CF Unit Bool)):=(bif d.2<(AI g:Int) then AH (CI g d.2) λf=>AH (WB n f) λt=>AH (AH (HL n f.Ao) λh=>(bif (!h)then AC AE else AH (AC (Qn d.1 f.Ao AD)) λj=>AC j):AB Bool) λm=>(bif m then AC (.d (.d AD))else AH (AC (QK d.1 f.Ao AE)) λq=>AC (.k (q,i64.wrap (d.2+1))))else AC (.d (.k ())))
def V3(g:AA A2):AB Bool:=AH (iter (ng n g) n ([],0):AB (CF Unit Bool)) λf=>match f with|.k d=>(AC AE)|.d d=>AC d
instance wJ(F:AA A2):Ks (V3 n F) 228 [.q 2 (map A2.c F),.f 229] [] (λr=>.b r):=by
 refine Kg 7 func228 Z Z Z Z λr h=>vH Yl ?_;refine Fg 7 Z Z (Lg 3 Z Z (Bd h λG H h=>D4 (b:=G) [] [] Ze Ze Zf ?_ (λ_ J=>?_)))
 .refine G0 1 Z (Lp [0] [1,5,10,11] (λg=>[(12,I g.2)]) (λg=>[(0,.map (Qo A.str A.b g.1))]) H Zf (Lr [0]) λg O d j=>?_);refine G0 6 Z (Q5 Z d (λ_ d=>?_) (λ_ d=>?_))
  .exact Je j d
  refine Gc 6 Z (Bd d λP t d=>Iz t Z (Go 9 Z (Cz [] d Kc Z λQ M d=>Go 5 Z (Bd d λm f d=>Cg m [0] [1,5,8,10,11,12] (λm=>[(26,.b m)]) Ze Zf ?_ ?_))))
  .refine G0 2 Z (Cz [] f Kc Z λR N f=>Go 2 Z (Is 22 f Z (λ_ f=>?_) (λ_ f=>?_)))
   .exact au f
   .refine Go 2 Z (Bd f λT y f=>(vV (Yb L7 y E0 E7 ZR.bool) ?_ (gT Z)));exact au f
  refine Cn Z d (λ_ d=>?_) (λ_ d=>?_)
  .exact DZ j d h
  refine Gc 5 Z (Bd d λV E d=>(vU (Yh L7 E Z E0) ?_));exact au d
 subst J;exact au h
def WQ(n:Nat)(d:AZ):AB Unit:=AC ()
instance wi(d:AZ):Ks (WQ n d) 231 [.a (AZ.c d)] [] (λ_=>.str d.Ao):=KA func231
def n9(g:AA AZ)(d:(AA (AA UInt8×Bool))×Int):AB (CF ((AA (AA UInt8×Bool))×Int) (CF Unit Bool)):=(bif d.2<(AI g:Int) then AH (CI g d.2) λf=>AH (WQ n f) λt=>AH (AH (HL n f.Ao) λh=>(bif (!h)then AC AE else AH (AC (Qn d.1 f.Ao AD)) λj=>AC j):AB Bool) λm=>(bif m then AC (.d (.d AD))else AH (AC (QK d.1 f.Ao AE)) λq=>AC (.k (q,i64.wrap (d.2+1))))else AC (.d (.k ())))
def V9(g:AA AZ):AB Bool:=AH (iter (n9 n g) n ([],0):AB (CF Unit Bool)) λf=>match f with|.k d=>(AC AE)|.d d=>AC d
instance wO(F:AA AZ):Ks (V9 n F) 230 [.q 4 (map AZ.c F),.f 231] [] (λr=>.b r):=by
 refine Kg 7 func230 Z Z Z Z λr h=>vH Yl ?_;refine Fg 7 Z Z (Lg 3 Z Z (Bd h λG H h=>D4 (b:=G) [] [] Ze Ze Zf ?_ (λ_ J=>?_)))
 .refine G0 1 Z (Lp [0] [1,5,10,11] (λg=>[(12,I g.2)]) (λg=>[(0,.map (Qo A.str A.b g.1))]) H Zf (Lr [0]) λg O d j=>?_);refine G0 6 Z (Q5 Z d (λ_ d=>?_) (λ_ d=>?_))
  .exact Je j d
  refine Gc 6 Z (Bd d λP t d=>Iz t Z (Go 9 Z (Cz [] d Kc Z λQ M d=>Go 5 Z (Bd d λm f d=>Cg m [0] [1,5,8,10,11,12] (λm=>[(26,.b m)]) Ze Zf ?_ ?_))))
  .refine G0 2 Z (Cz [] f Kc Z λR N f=>Go 2 Z (Is 22 f Z (λ_ f=>?_) (λ_ f=>?_)))
   .exact au f
   .refine Go 2 Z (Bd f λT y f=>(vV (Yb L7 y E0 E7 ZR.bool) ?_ (gT Z)));exact au f
  refine Cn Z d (λ_ d=>?_) (λ_ d=>?_)
  .exact DZ j d h
  refine Gc 5 Z (Bd d λV E d=>(vU (Yh L7 E Z E0) ?_));exact au d
 subst J;exact au h
def Wi(n:Nat)(d:AW):AB Unit:=AC ()
instance w9(d:AW):Ks (Wi n d) 233 [.a (AW.c d)] [] (λ_=>.str d.Ao):=KA func233
def nV(g:AA AW)(d:(AA (AA UInt8×Bool))×Int):AB (CF ((AA (AA UInt8×Bool))×Int) (CF Unit Bool)):=(bif d.2<(AI g:Int) then AH (CI g d.2) λf=>AH (Wi n f) λt=>AH (AH (HL n f.Ao) λh=>(bif (!h)then AC AE else AH (AC (Qn d.1 f.Ao AD)) λj=>AC j):AB Bool) λm=>(bif m then AC (.d (.d AD))else AH (AC (QK d.1 f.Ao AE)) λq=>AC (.k (q,i64.wrap (d.2+1))))else AC (.d (.k ())))
def WS(g:AA AW):AB Bool:=AH (iter (nV n g) n ([],0):AB (CF Unit Bool)) λf=>match f with|.k d=>(AC AE)|.d d=>AC d
instance wk(F:AA AW):Ks (WS n F) 232 [.q 3 (map AW.c F),.f 233] [] (λr=>.b r):=by
 refine Kg 7 func232 Z Z Z Z λr h=>vH Yl ?_;refine Fg 7 Z Z (Lg 3 Z Z (Bd h λG H h=>D4 (b:=G) [] [] Ze Ze Zf ?_ (λ_ J=>?_)))
 .refine G0 1 Z (Lp [0] [1,5,10,11] (λg=>[(12,I g.2)]) (λg=>[(0,.map (Qo A.str A.b g.1))]) H Zf (Lr [0]) λg O d j=>?_);refine G0 6 Z (Q5 Z d (λ_ d=>?_) (λ_ d=>?_))
  .exact Je j d
  refine Gc 6 Z (Bd d λP t d=>Iz t Z (Go 9 Z (Cz [] d Kc Z λQ M d=>Go 5 Z (Bd d λm f d=>Cg m [0] [1,5,8,10,11,12] (λm=>[(26,.b m)]) Ze Zf ?_ ?_))))
  .refine G0 2 Z (Cz [] f Kc Z λR N f=>Go 2 Z (Is 22 f Z (λ_ f=>?_) (λ_ f=>?_)))
   .exact au f
   .refine Go 2 Z (Bd f λT y f=>(vV (Yb L7 y E0 E7 ZR.bool) ?_ (gT Z)));exact au f
  refine Cn Z d (λ_ d=>?_) (λ_ d=>?_)
  .exact DZ j d h
  refine Gc 5 Z (Bd d λV E d=>(vU (Yh L7 E Z E0) ?_));exact au d
 subst J;exact au h
def Wv(d:CA):AB Bool:=AH (AH (HL n d.Ao) λf=>(bif f then AH (WZ n d.Ar) λg=>(bif g then AH (WR n d.AP) λh=>(bif h then AH (V3 n d.A0) λj=>(bif j then AH (V9 n d.Ab) λm=>(bif m then AH (WS n d.AV) λq=>AC q else AC AD)else AC AD)else AC AD)else AC AD)else AC AD):AB Bool) λt=>AC t
instance xK(d:CA):Ks (Wv n d) 155 [.a (CA.c d)] [] (λr=>.b r):=KA func155
def WV(n:Nat)(d:Int)(f:Int)(g:Int):AB Bool:=AH ((bif d<f then AC AE else AC (AG (g<d))):AB Bool) λh=>AC h
instance wq(d:Int)(f:Int)(g:Int):Ks (WV n d f g) 283 [I d,.p 0 0,.p 1 0] [.c 3 [I f],.c 3 [I g]] (λr=>.b r):=KA func283
def nu(f:AA Int)(j:Int)(m:Int)(d:Int):AB (CF Int (CF Unit Int)):=(bif d<(AI f:Int) then AH (CI f d) λg=>AH (WV n g j m) λh=>(bif h then AC (.d (.d d))else AC (.k (i64.wrap (d+1))))else AC (.d (.k ())))
def fW(g:AA Int)(h:Int)(j:Int):AB Int:=AH (iter (nu n g h j) n 0:AB (CF Unit Int)) λf=>match f with|.k d=>(AC (-1))|.d d=>AC d
instance v9(d:AA Int)(f:Int)(g:Int):Ks (fW n d f g) 194 [.q 1 (map eI d),.fn (.func 283) [] [.p 0 0,.p 1 0]] [.c 3 [I f],.c 3 [I g]] (λr=>I r):=KA func194
def Wt(d:AA Int)(f:Int)(g:Int):AB Bool:=AH (fW n d f g) λh=>AC (AG (0<=h))
instance xI(d:AA Int)(f:Int)(g:Int):Ks (Wt n d f g) 121 [.q 1 (map eI d),.fn (.func 283) [] [.p 0 0,.p 1 0]] [.c 3 [I f],.c 3 [I g]] (λr=>.b r):=KA func121
def FQ(d:Int)(f:Int)(g:AA Int):AB Bool:=AH (Wt n g d f) λh=>AC (!h)
instance k_a(d:Int)(f:Int)(g:AA Int):Ks (FQ n d f g) 235 [I d,I f,.q 1 (map eI g)] [] (λr=>.b r):=KA func235
def OS(d:Al):AB Bool:=AH (FQ n 1 3 [d.AX]) λf=>AC f
instance xU(d:Al):Ks (OS n d) 244 [.a (Al.c d)] [] (λr=>.b r):=KA func244
def fO(d:Al):AB Bool:=AH (OS n d) λf=>AC (!f)
instance vw(d:Al):Ks (fO n d) 289 [.a (Al.c d),.p 0 0] [.c 380 [.f 244]] (λr=>.b r):=KA func289
def na(f:AA Al)(d:Int):AB (CF Int (CF Unit Int)):=(bif d<(AI f:Int) then AH (CI f d) λg=>AH (fO n g) λh=>(bif h then AC (.d (.d d))else AC (.k (i64.wrap (d+1))))else AC (.d (.k ())))
def WX(g:AA Al):AB Int:=AH (iter (na n g) n 0:AB (CF Unit Int)) λf=>match f with|.k d=>(AC (-1))|.d d=>AC d
instance wt(d:AA Al):Ks (WX n d) 316 [.q 2 (map Al.c d),.fn (.func 289) [] [.p 0 0]] [.c 380 [.f 244]] (λr=>I r):=KA func316
def Wu(d:AA Al):AB Bool:=AH (WX n d) λf=>AC (AG (0<=f))
instance xJ(d:AA Al):Ks (Wu n d) 288 [.q 2 (map Al.c d),.fn (.func 289) [] [.p 0 0]] [.c 380 [.f 244]] (λr=>.b r):=KA func288
def OP(d:AA Al):AB Bool:=AH (Wu n d) λf=>AC (!f)
instance xR(d:AA Al):Ks (OP n d) 243 [.q 2 (map Al.c d),.f 244] [] (λr=>.b r):=KA func243
def Oo(d:Cp)(f:Int):AB Bool:=AH (AH (FQ n 0 f [d.BA,d.To]) λg=>(bif g then AH (FQ n 0 68719476736 [d.Bl,d.Bq]) λh=>(bif h then AC (AG (d.Bl<=d.Bq))else AC AD)else AC AD):AB Bool) λj=>AC j
instance xl(d:Cp)(f:Int):Ks (Oo n d f) 240 [.a (Cp.c d),.p 0 0] [.c 3 [I f]] (λr=>.b r):=KA func240
def fG(d:Cp)(f:Int):AB Bool:=AH (Oo n d f) λg=>AC (!g)
instance vj(d:Cp)(f:Int):Ks (fG n d f) 291 [.a (Cp.c d),.p 0 0] [.c 222 [.fn (.func 240) [] [.p 1 0]],.c 3 [I f]] (λr=>.b r):=KA func291
def n7(f:AA Cp)(j:Int)(d:Int):AB (CF Int (CF Unit Int)):=(bif d<(AI f:Int) then AH (CI f d) λg=>AH (fG n g j) λh=>(bif h then AC (.d (.d d))else AC (.k (i64.wrap (d+1))))else AC (.d (.k ())))
def Wa(g:AA Cp)(h:Int):AB Int:=AH (iter (n7 n g h) n 0:AB (CF Unit Int)) λf=>match f with|.k d=>(AC (-1))|.d d=>AC d
instance ww(d:AA Cp)(f:Int):Ks (Wa n d f) 98 [.q 4 (map Cp.c d),.fn (.func 291) [] [.p 0 0]] [.c 222 [.fn (.func 240) [] [.p 1 0]],.c 3 [I f]] (λr=>I r):=KA func98
def Wd(d:AA Cp)(f:Int):AB Bool:=AH (Wa n d f) λg=>AC (AG (0<=g))
instance wz(d:AA Cp)(f:Int):Ks (Wd n d f) 290 [.q 4 (map Cp.c d),.fn (.func 291) [] [.p 0 0]] [.c 222 [.fn (.func 240) [] [.p 1 0]],.c 3 [I f]] (λr=>.b r):=KA func290
def PA(d:AA Cp)(f:Int):AB Bool:=AH (Wd n d f) λg=>AC (!g)
instance yF(d:AA Cp)(f:Int):Ks (PA n d f) 245 [.q 4 (map Cp.c d),.fn (.func 240) [] [.p 0 0]] [.c 3 [I f]] (λr=>.b r):=KA func245
def V2(n:Nat)(d:Cp):AB Unit:=AC ()
instance wI(d:Cp):Kq (V2 n d) 247 [.a (Cp.c d)] [] (λ_=>.a [I d.BA,I d.To]) (λ_=>[.c 294 [I d.BA,I d.To]]):=KA func247
def Tv(g:AA Cp)(d:(AA (Ul×Bool))×Int):AB (CF ((AA (Ul×Bool))×Int) (AA (Ul×Bool))):=(bif d.2<(AI g:Int) then AH (CI g d.2) λf=>AH (V2 n f) λj=>AH (AC (QK d.1 ({BX:=f.BA,to_:=f.To:Ul}) AE)) λh=>AC (.k (h,i64.wrap (d.2+1)))else AC (.d d.1))
def WN(d:AA Cp):AB Bool:=AH (iter (Tv n d) n ([],0):AB (AA (Ul×Bool))) λf=>AC ((AI f:Int)==(AI d:Int))
instance we(y:AA Cp):Ks (WN n y) 246 [.q 4 (map Cp.c y),.f 247] [] (λr=>.b r):=by
 refine Kg 7 func246 Z Z Z Z λr h=>vH Yl ?_;refine Fg 7 Z Z (Lg 3 Z Z (Bd h λg B h=>Cg g [0] [0,5] Ze (λg=>[(0,.map (Qo (λx=>A.a (Ul.c x)) A.b g))]) Zf ?_ ?_))
 .refine G0 1 Z (Lp [0] [0,1,5,9,10] (λf=>[(11,I f.2)]) (λf=>[(0,.map (Qo (λx=>A.a (Ul.c x)) A.b f.1))]) B Zf (Lr [0]) λf F d j=>?_);refine G0 6 Z (Q5 Z d (λ_ d=>?_) (λ_ d=>?_))
  .exact Je j d
  refine Gc 6 Z (Bd d λG q d=>Iz q Z (Go 9 Z (Cd [] d Kc Z λH E d=>FE Z (Bd d λJ t d=>(vU (Yh dt t Z Gv) ?_)))));exact au d
 refine Gc 3 Z (vV (tH Gv Z) ?_);exact au h
def OO(rec50:(AA CG)->Int->AB Bool)(n:Nat)(d:CG)(f:Int):AB Bool:=(bif (d.As==0)then AH (AH (FQ n 0 f [d.Al]) λm=>(bif m then AC ((AI d.Ad:Int)==0)else AC AD):AB Bool) λq=>AC q else AH (AH (FQ n 1 64 [d.As]) λg=>(bif g then(bif (d.Al==0)then(bif 0<(AI d.Ad:Int) then AH (rec50 d.Ad f) λh=>AC h else AC AD)else AC AD)else AC AD):AB Bool) λj=>AC j)
instance xQ(rec50:(AA CG)->Int->AB Bool)[g:∀(d:AA CG) (f:Int),Ks (rec50 d f) 236 [.q 3 (map CG.enc d),.fn (.func 234) [] [.p 0 0,.p 1 0]] [.c 3 [I f],.c 372 [.fn (.func 234) [] [.p 0 0,.p 1 0]]] (λr=>.b r)](n:Nat)(d:CG)(f:Int):Ks (OO rec50 n d f) 234 [.a (CG.c d),.p 0 0,.p 1 0] [.c 3 [I f],.c 372 [.fn (.func 234) [] [.p 0 0,.p 1 0]]] (λr=>.b r):=KA func234
def fm(rec50:(AA CG)->Int->AB Bool)(n:Nat)(d:CG)(f:Int):AB Bool:=AH (OO rec50 n d f) λg=>AC (!g)
instance jW(rec50:(AA CG)->Int->AB Bool)[g:∀(d:AA CG) (f:Int),Ks (rec50 d f) 236 [.q 3 (map CG.enc d),.fn (.func 234) [] [.p 0 0,.p 1 0]] [.c 3 [I f],.c 372 [.fn (.func 234) [] [.p 0 0,.p 1 0]]] (λr=>.b r)](n:Nat)(d:CG)(f:Int):Ks (fm rec50 n d f) 285 [.a (CG.c d),.p 0 0] [.c 372 [.fn (.func 234) [] [.p 1 0,.p 2 0]],.c 3 [I f],.c 372 [.fn (.func 234) [] [.p 1 0,.p 2 0]]] (λr=>.b r):=KA func285
def nU(f:AA CG)(j:Int)(rec50:(AA CG)->Int->AB Bool)(d:Int):AB (CF Int (CF Unit Int)):=(bif d<(AI f:Int) then AH (CI f d) λg=>AH (fm rec50 n g j) λh=>(bif h then AC (.d (.d d))else AC (.k (i64.wrap (d+1))))else AC (.d (.k ())))
def fa(rec50:(AA CG)->Int->AB Bool)(n:Nat)(g:AA CG)(h:Int):AB Int:=AH (iter (nU n g h rec50) n 0:AB (CF Unit Int)) λf=>match f with|.k d=>(AC (-1))|.d d=>AC d
instance wB(rec50:(AA CG)->Int->AB Bool)[y:∀(f:AA CG) (g:Int),Ks (rec50 f g) 236 [.q 3 (map CG.enc f),.fn (.func 234) [] [.p 0 0,.p 1 0]] [.c 3 [I g],.c 372 [.fn (.func 234) [] [.p 0 0,.p 1 0]]] (λr=>.b r)](n:Nat)(f:AA CG)(g:Int):Ks (fa rec50 n f g) 314 [.q 3 (map CG.enc f),.fn (.func 285) [] [.p 0 0]] [.c 372 [.fn (.func 234) [] [.p 1 0,.p 2 0]],.c 3 [I g],.c 372 [.fn (.func 234) [] [.p 1 0,.p 2 0]]] (λr=>I r):=by
 refine Kg 9 func314 Z Z Z Z λr h=>Lg 3 Z Z (Bd h λB E h=>D4 (b:=B) [0,1,2] [] Ze Ze Zf ?_ (λ_ F=>?_))
 .refine G0 1 Z (Lp [0,1,2] [0,1,7] (λm=>[(8,I m)]) Ze E Zf (Lr [0,1,2]) λm L d j=>?_);refine G0 6 Z (Q5 Z d (λ_ d=>?_) (λ_ d=>?_))
  .exact Je j d
  refine Gc 15 Z (Bd d λG t d=>FU t (QM G) Z (Go 1 Z (Cz [0,1,2] d (jW rec50 _ _ _).c Z λM J d=>Go 2 Z (Cn Z d (λ_ d=>?_) (λ_ d=>?_)))))
  .exact DZ j d h
  exact au d
 subst F;exact au h
def fM(rec50:(AA CG)->Int->AB Bool)(n:Nat)(d:AA CG)(f:Int):AB Bool:=AH (fa rec50 n d f) λg=>AC (AG (0<=g))
instance vu(rec50:(AA CG)->Int->AB Bool)[g:∀(d:AA CG) (f:Int),Ks (rec50 d f) 236 [.q 3 (map CG.enc d),.fn (.func 234) [] [.p 0 0,.p 1 0]] [.c 3 [I f],.c 372 [.fn (.func 234) [] [.p 0 0,.p 1 0]]] (λr=>.b r)](n:Nat)(d:AA CG)(f:Int):Ks (fM rec50 n d f) 284 [.q 3 (map CG.enc d),.fn (.func 285) [] [.p 0 0]] [.c 372 [.fn (.func 234) [] [.p 1 0,.p 2 0]],.c 3 [I f],.c 372 [.fn (.func 234) [] [.p 1 0,.p 2 0]]] (λr=>.b r):=KA func284
def fw(rec50:(AA CG)->Int->AB Bool)(n:Nat)(d:AA CG)(f:Int):AB Bool:=AH (fM rec50 n d f) λg=>AC (!g)
theorem QcR(rec50:(AA CG)->Int->AB Bool)(g:∀(d:AA CG) (f:Int),Ks (rec50 d f) 236 [.q 3 (map CG.enc d),.fn (.func 234) [] [.p 0 0,.p 1 0]] [.c 3 [I f],.c 372 [.fn (.func 234) [] [.p 0 0,.p 1 0]]] (λr=>.b r))(n:Nat)(d:AA CG)(f:Int):Ks (fw rec50 n d f) 236 [.q 3 (map CG.enc d),.fn (.func 234) [] [.p 0 0,.p 1 0]] [.c 3 [I f],.c 372 [.fn (.func 234) [] [.p 0 0,.p 1 0]]] (λr=>.b r):=KA func236
def LA:Nat->(AA CG)->Int->AB Bool
  |0=>λ_ _=>AF
  |n+1=>fw (LA n) n
instance zj:∀(d:AA CG) (f:Int),Ks (LA n d f) 236 [.q 3 (map CG.enc d),.fn (.func 234) [] [.p 0 0,.p 1 0]] [.c 3 [I f],.c 372 [.fn (.func 234) [] [.p 0 0,.p 1 0]]] (λr=>.b r):=by
  induction n with
  |zero=>exact λ_ _=>⟨nofun⟩
  |succ n ih=>exact QcR _ ih n
def PC(d:CO)(g:Int):AB Bool:=AH (AH (FQ n 0 g [d.Al]) λh=>(bif h then(bif 1<=d.B8 then AH (FQ n 0 1099511627776 [d.Bt]) λf=>AC f else AC AD)else AC AD):AB Bool) λj=>AC j
instance yH(d:CO)(f:Int):Ks (PC n d f) 237 [.a (CO.c d),.p 0 0] [.c 3 [I f]] (λr=>.b r):=KA func237
def fN(d:CO)(f:Int):AB Bool:=AH (PC n d f) λg=>AC (!g)
instance vv(d:CO)(f:Int):Ks (fN n d f) 287 [.a (CO.c d),.p 0 0] [.c 375 [.fn (.func 237) [] [.p 1 0]],.c 3 [I f]] (λr=>.b r):=KA func287
def nt(f:AA CO)(j:Int)(d:Int):AB (CF Int (CF Unit Int)):=(bif d<(AI f:Int) then AH (CI f d) λg=>AH (fN n g j) λh=>(bif h then AC (.d (.d d))else AC (.k (i64.wrap (d+1))))else AC (.d (.k ())))
def WT(g:AA CO)(h:Int):AB Int:=AH (iter (nt n g h) n 0:AB (CF Unit Int)) λf=>match f with|.k d=>(AC (-1))|.d d=>AC d
instance wm(d:AA CO)(f:Int):Ks (WT n d f) 315 [.q 3 (map CO.c d),.fn (.func 287) [] [.p 0 0]] [.c 375 [.fn (.func 237) [] [.p 1 0]],.c 3 [I f]] (λr=>I r):=KA func315
def Wg(d:AA CO)(f:Int):AB Bool:=AH (WT n d f) λg=>AC (AG (0<=g))
instance w7(d:AA CO)(f:Int):Ks (Wg n d f) 286 [.q 3 (map CO.c d),.fn (.func 287) [] [.p 0 0]] [.c 375 [.fn (.func 237) [] [.p 1 0]],.c 3 [I f]] (λr=>.b r):=KA func286
def PB(d:AA CO)(f:Int):AB Bool:=AH (Wg n d f) λg=>AC (!g)
instance yG(d:AA CO)(f:Int):Ks (PB n d f) 239 [.q 3 (map CO.c d),.fn (.func 237) [] [.p 0 0]] [.c 3 [I f]] (λr=>.b r):=KA func239
def O5(d:AN)(f:Int):AB Bool:=AH (AH (FQ n 1 3 [d.BI]) λg=>(bif g then AH (FQ n (-1) f [d.Am]) λh=>(bif h then AH (LA n d.Ae f) λj=>(bif j then AH (PB n d.Aq f) λm=>AC m else AC AD)else AC AD)else AC AD):AB Bool) λq=>AC q
instance x9(d:AN)(f:Int):Ks (O5 n d f) 238 [.a (AN.c d),.p 0 0,.p 1 0,.p 2 0] [.c 3 [I f],.c 372 [.fn (.func 234) [] [.p 0 0,.p 1 0]],.c 375 [.fn (.func 237) [] [.p 0 0]]] (λr=>.b r):=KA func238
def fg(d:AN)(f:Int):AB Bool:=AH (O5 n d f) λg=>AC (!g)
instance wF(d:AN)(f:Int):Ks (fg n d f) 259 [.a (AN.c d),.p 0 0] [.c 297 [.fn (.func 238) [] [.p 1 0,.p 2 0,.p 3 0]],.c 3 [I f],.c 372 [.fn (.func 234) [] [.p 1 0,.p 2 0]],.c 375 [.fn (.func 237) [] [.p 1 0]]] (λr=>.b r):=KA func259
def nj(f:AA AN)(j:Int)(d:Int):AB (CF Int (CF Unit Int)):=(bif d<(AI f:Int) then AH (CI f d) λg=>AH (fg n g j) λh=>(bif h then AC (.d (.d d))else AC (.k (i64.wrap (d+1))))else AC (.d (.k ())))
def WA(g:AA AN)(h:Int):AB Int:=AH (iter (nj n g h) n 0:AB (CF Unit Int)) λf=>match f with|.k d=>(AC (-1))|.d d=>AC d
instance wR(d:AA AN)(f:Int):Ks (WA n d f) 303 [.q 5 (map AN.c d),.fn (.func 259) [] [.p 0 0]] [.c 297 [.fn (.func 238) [] [.p 1 0,.p 2 0,.p 3 0]],.c 3 [I f],.c 372 [.fn (.func 234) [] [.p 1 0,.p 2 0]],.c 375 [.fn (.func 237) [] [.p 1 0]]] (λr=>I r):=KA func303
def WU(d:AA AN)(f:Int):AB Bool:=AH (WA n d f) λg=>AC (AG (0<=g))
instance wn(d:AA AN)(f:Int):Ks (WU n d f) 258 [.q 5 (map AN.c d),.fn (.func 259) [] [.p 0 0]] [.c 297 [.fn (.func 238) [] [.p 1 0,.p 2 0,.p 3 0]],.c 3 [I f],.c 372 [.fn (.func 234) [] [.p 1 0,.p 2 0]],.c 375 [.fn (.func 237) [] [.p 1 0]]] (λr=>.b r):=KA func258
def OY(d:AA AN)(f:Int):AB Bool:=AH (WU n d f) λg=>AC (!g)
instance xZ(d:AA AN)(f:Int):Ks (OY n d f) 158 [.q 5 (map AN.c d),.fn (.func 238) [] [.p 0 0,.p 1 0,.p 2 0]] [.c 3 [I f],.c 372 [.fn (.func 234) [] [.p 0 0,.p 1 0]],.c 375 [.fn (.func 237) [] [.p 0 0]]] (λr=>.b r):=KA func158
def OX(d:A2):AB Bool:=AH (FQ n 0 1099511627776 [d.B9]) λf=>AC f
instance xY(d:A2):Ks (OX n d) 249 [.a (A2.c d)] [] (λr=>.b r):=KA func249
def fc(d:A2):AB Bool:=AH (OX n d) λf=>AC (!f)
instance wC(d:A2):Ks (fc n d) 293 [.a (A2.c d),.p 0 0] [.c 385 [.f 249]] (λr=>.b r):=KA func293
def nW(f:AA A2)(d:Int):AB (CF Int (CF Unit Int)):=(bif d<(AI f:Int) then AH (CI f d) λg=>AH (fc n g) λh=>(bif h then AC (.d (.d d))else AC (.k (i64.wrap (d+1))))else AC (.d (.k ())))
def Wf(g:AA A2):AB Int:=AH (iter (nW n g) n 0:AB (CF Unit Int)) λf=>match f with|.k d=>(AC (-1))|.d d=>AC d
instance w6(d:AA A2):Ks (Wf n d) 317 [.q 2 (map A2.c d),.fn (.func 293) [] [.p 0 0]] [.c 385 [.f 249]] (λr=>I r):=KA func317
def Wo(d:AA A2):AB Bool:=AH (Wf n d) λf=>AC (AG (0<=f))
instance xE(d:AA A2):Ks (Wo n d) 292 [.q 2 (map A2.c d),.fn (.func 293) [] [.p 0 0]] [.c 385 [.f 249]] (λr=>.b r):=KA func292
def PN(d:AA A2):AB Bool:=AH (Wo n d) λf=>AC (!f)
instance yR(d:AA A2):Ks (PN n d) 248 [.q 2 (map A2.c d),.f 249] [] (λr=>.b r):=KA func248
def PO(d:AZ):AB Bool:=(bif d.A' then AH ((bif (d.BW==0)then AC (d.As==0)else AC AD):AB Bool) λh=>AC h else(bif (d.As != 0)then AH ((bif (d.BW==0)then AH (FQ n 1 64 [d.As]) λf=>AC f else AC AD):AB Bool) λj=>AC j else AH (FQ n 0 68719476736 [d.BW]) λg=>AC g))
instance yS(d:AZ):Ks (PO n d) 241 [.a (AZ.c d)] [] (λr=>.b r):=KA func241
def fY(d:AZ):AB Bool:=AH (PO n d) λf=>AC (!f)
instance wA(d:AZ):Ks (fY n d) 295 [.a (AZ.c d),.p 0 0] [.c 377 [.f 241]] (λr=>.b r):=KA func295
def nT(f:AA AZ)(d:Int):AB (CF Int (CF Unit Int)):=(bif d<(AI f:Int) then AH (CI f d) λg=>AH (fY n g) λh=>(bif h then AC (.d (.d d))else AC (.k (i64.wrap (d+1))))else AC (.d (.k ())))
def Wq(g:AA AZ):AB Int:=AH (iter (nT n g) n 0:AB (CF Unit Int)) λf=>match f with|.k d=>(AC (-1))|.d d=>AC d
instance xF(d:AA AZ):Ks (Wq n d) 318 [.q 4 (map AZ.c d),.fn (.func 295) [] [.p 0 0]] [.c 377 [.f 241]] (λr=>I r):=KA func318
def Wm(d:AA AZ):AB Bool:=AH (Wq n d) λf=>AC (AG (0<=f))
instance xC(d:AA AZ):Ks (Wm n d) 294 [.q 4 (map AZ.c d),.fn (.func 295) [] [.p 0 0]] [.c 377 [.f 241]] (λr=>.b r):=KA func294
def OQ(d:AA AZ):AB Bool:=AH (Wm n d) λf=>AC (!f)
instance xS(d:AA AZ):Ks (OQ n d) 250 [.q 4 (map AZ.c d),.f 241] [] (λr=>.b r):=KA func250
def PX(d:AW):AB Bool:=AH (AH (FQ n 0 120 [d.BA,d.To]) λf=>(bif f then AC (AG (d.BA<=d.To))else AC AD):AB Bool) λg=>AC g
instance yc(d:AW):Ks (PX n d) 252 [.a (AW.c d)] [] (λr=>.b r):=KA func252
def fU(d:AW):AB Bool:=AH (PX n d) λf=>AC (!f)
instance v8(d:AW):Ks (fU n d) 297 [.a (AW.c d),.p 0 0] [.c 388 [.f 252]] (λr=>.b r):=KA func297
def nY(f:AA AW)(d:Int):AB (CF Int (CF Unit Int)):=(bif d<(AI f:Int) then AH (CI f d) λg=>AH (fU n g) λh=>(bif h then AC (.d (.d d))else AC (.k (i64.wrap (d+1))))else AC (.d (.k ())))
def V4(g:AA AW):AB Int:=AH (iter (nY n g) n 0:AB (CF Unit Int)) λf=>match f with|.k d=>(AC (-1))|.d d=>AC d
instance wK(d:AA AW):Ks (V4 n d) 319 [.q 3 (map AW.c d),.fn (.func 297) [] [.p 0 0]] [.c 388 [.f 252]] (λr=>I r):=KA func319
def WP(d:AA AW):AB Bool:=AH (V4 n d) λf=>AC (AG (0<=f))
instance wg(d:AA AW):Ks (WP n d) 296 [.q 3 (map AW.c d),.fn (.func 297) [] [.p 0 0]] [.c 388 [.f 252]] (λr=>.b r):=KA func296
def Og(d:AA AW):AB Bool:=AH (WP n d) λf=>AC (!f)
instance xh(d:AA AW):Ks (Og n d) 251 [.q 3 (map AW.c d),.f 252] [] (λr=>.b r):=KA func251
def O3(d:CQ)(f:CA):AB Bool:=AH (AH (FQ n 0 (i64.wrap ((AI f.AP:Int)-1)) [d.AN]) λg=>(bif g then AH (FQ n (-1) (i64.wrap ((AI f.AV:Int)-1)) [d.AW]) λh=>(bif h then AH (FQ n 1 4000 [d.B0]) λj=>(bif j then AH (FQ n 1 1125899906842624 [d.BO]) λm=>AC m else AC AD)else AC AD)else AC AD):AB Bool) λq=>AC q
instance xy(d:CQ)(f:CA):Ks (O3 n d f) 242 [.a (CQ.c d),.p 0 0] [.c 33 (CA.c f)] (λr=>.b r):=KA func242
def fT(d:CQ)(f:CA):AB Bool:=AH (O3 n d f) λg=>AC (!g)
instance v7(d:CQ)(f:CA):Ks (fT n d f) 299 [.a (CQ.c d),.p 0 0] [.c 378 [.fn (.func 242) [] [.p 1 0]],.c 33 (CA.c f)] (λr=>.b r):=KA func299
def nQ(f:AA CQ)(j:CA)(d:Int):AB (CF Int (CF Unit Int)):=(bif d<(AI f:Int) then AH (CI f d) λg=>AH (fT n g j) λh=>(bif h then AC (.d (.d d))else AC (.k (i64.wrap (d+1))))else AC (.d (.k ())))
def Wb(g:AA CQ)(h:CA):AB Int:=AH (iter (nQ n g h) n 0:AB (CF Unit Int)) λf=>match f with|.k d=>(AC (-1))|.d d=>AC d
instance wx(d:AA CQ)(f:CA):Ks (Wb n d f) 320 [.q 4 (map CQ.c d),.fn (.func 299) [] [.p 0 0]] [.c 378 [.fn (.func 242) [] [.p 1 0]],.c 33 (CA.c f)] (λr=>I r):=KA func320
def WY(d:AA CQ)(f:CA):AB Bool:=AH (Wb n d f) λg=>AC (AG (0<=g))
instance wu(d:AA CQ)(f:CA):Ks (WY n d f) 298 [.q 4 (map CQ.c d),.fn (.func 299) [] [.p 0 0]] [.c 378 [.fn (.func 242) [] [.p 1 0]],.c 33 (CA.c f)] (λr=>.b r):=KA func298
def OM(d:AA CQ)(f:CA):AB Bool:=AH (WY n d f) λg=>AC (!g)
instance xP(d:AA CQ)(f:CA):Ks (OM n d f) 253 [.q 4 (map CQ.c d),.fn (.func 242) [] [.p 0 0]] [.c 33 (CA.c f)] (λr=>.b r):=KA func253
def V6(n:Nat)(d:CQ):AB Unit:=AC ()
instance wL(d:CQ):Kq (V6 n d) 255 [.a (CQ.c d)] [] (λ_=>.a [I d.AN,I d.AW,I d.B0]) (λ_=>[.c 392 [I d.AN,I d.AW,I d.B0]]):=KA func255
def TO(g:AA CQ)(d:(AA (Up×Bool))×Int):AB (CF ((AA (Up×Bool))×Int) (AA (Up×Bool))):=(bif d.2<(AI g:Int) then AH (CI g d.2) λf=>AH (V6 n f) λj=>AH (AC (QK d.1 ({B3:=f.AN,Bz:=f.AW,B':=f.B0:Up}) AE)) λh=>AC (.k (h,i64.wrap (d.2+1)))else AC (.d d.1))
def WM(d:AA CQ):AB Bool:=AH (iter (TO n d) n ([],0):AB (AA (Up×Bool))) λf=>AC ((AI f:Int)==(AI d:Int))
instance wd(y:AA CQ):Ks (WM n y) 254 [.q 4 (map CQ.c y),.f 255] [] (λr=>.b r):=by
 refine Kg 7 func254 Z Z Z Z λr h=>vH Yl ?_;refine Fg 7 Z Z (Lg 3 Z Z (Bd h λg B h=>Cg g [0] [0,5] Ze (λg=>[(0,.map (Qo (λx=>A.a (Up.c x)) A.b g))]) Zf ?_ ?_))
 .refine G0 1 Z (Lp [0] [0,1,5,9,10] (λf=>[(11,I f.2)]) (λf=>[(0,.map (Qo (λx=>A.a (Up.c x)) A.b f.1))]) B Zf (Lr [0]) λf F d j=>?_);refine G0 6 Z (Q5 Z d (λ_ d=>?_) (λ_ d=>?_))
  .exact Je j d
  refine Gc 6 Z (Bd d λG q d=>Iz q Z (Go 9 Z (Cd [] d Kc Z λH E d=>FE Z (Bd d λJ t d=>(vU (Yh Qqw t Z underlying415) ?_)))));exact au d
 refine Gc 3 Z (vV (tH underlying415 Z) ?_);exact au h
def Pg(d:CA):AB Bool:=AH (AH (OP n d.Ar) λf=>(bif f then AH (PA n d.Az (i64.wrap ((AI d.Ar:Int)-1))) λg=>(bif g then AH (WN n d.Az) λh=>(bif h then AH (OY n d.AP (i64.wrap ((AI d.Ar:Int)-1))) λj=>(bif j then AH (PN n d.A0) λm=>(bif m then AH (OQ n d.Ab) λq=>(bif q then AH (Og n d.AV) λt=>(bif t then AH (OM n d.Ay d) λx=>(bif x then AH (WM n d.Ay) λy=>(bif y then AH (FQ n 0 16 [d.AQ.A8,d.AQ.A6]) λB=>(bif B then AH (FQ n 0 4294967296 [d.AQ.A5,d.AQ.Ak]) λE=>(bif E then AH (FQ n 0 100000 [d.AQ.BC]) λF=>(bif F then AH (FQ n 0 1125899906842624 [d.Bj]) λG=>(bif G then AH (FQ n 0 1099511627776 [d.Av]) λH=>AC H else AC AD)else AC AD)else AC AD)else AC AD)else AC AD)else AC AD)else AC AD)else AC AD)else AC AD)else AC AD)else AC AD)else AC AD)else AC AD):AB Bool) λJ=>AC J
instance yk(f:CA):Ks (Pg n f) 156 [.a (CA.c f)] [] (λr=>.b r):=by
 refine Kg 10 func156 Z Z Z Z λr h=>Lg 55 Z Z (Bd h λd g h=>Cg d [] [] (λd=>[(2,.b d)]) Ze Zf ?_ ?_)
 .exact au g
 exact au h
def nS(n:Nat)(f:AA AY)(d:(AA Um)×Int):AB (CF ((AA Um)×Int) (AA Um)):=(bif d.2<(AI f:Int) then AH (CI f d.2) λg=>AH (app d.1 [Um.ctyping_step ({AY:=g:Uq})]) λh=>AC (.k (h,i64.wrap (d.2+1)))else AC (.d d.1))
def Ml(d:AA AY):AB (AA Um):=AH (iter (nS n d) n ([],0):AB (AA Um)) λf=>AC f
instance jp(x:AA AY):Kq (Ml n x) 257 [.q 8 (map AY.enc x)] [] (λr=>.o 0 (AI r) 1) (λr=>[.r 422 1 (map Um.enc r)]):=by
 refine Kg 9 func257 Z Z Z Z λr h=>Lg 3 Z Z (Bd h λg B h=>Cg g [0] [] (λg=>[(2,.o 0 (AI g) 1)]) (λg=>[(0,.r 422 1 (map Um.enc g))]) Zf ?_ ?_)
 .refine G0 1 Z (Lp [0] [5,6] (λf=>[(2,.o 0 (AI f.1) 1),(7,I f.2)]) (λf=>[(0,.r 422 1 (map Um.enc f.1))]) B Zf ?_ ?_)
  .exact En (Er (s:=2) (XQ Z) Z) (Lr [0])
  intro f E d j;refine G0 6 Z (Q5 Z d (λ_ d=>?_) (λ_ d=>?_))
  .exact Je j d
  refine Gc 6 Z (Bd d λy q d=>FU q (Yt y) Z (Go 9 Z ?_));refine vV (eN Z GD (by nofun) Z) (vH (Ek (xs:=[.tmp 14]) dc Z Z Z Z Z ⟨Z,trivial⟩ Z Z) ?_);refine FE Z (Bd d λF t d=>vH (Qj (e:=Um.enc) t dc Gk (QE (i:=2))) ?_);exact au d
 exact au h
def K4(n:Nat)(d:Uj):AB Bool:=AH ((bif (d.AS.AX==0)then(bif (d.AS.Bw==0)then(bif (d.AS.N==0)then AC ((AI d.AS.Ad:Int)==0)else AC AD)else AC AD)else AC AD):AB Bool) λf=>AC f
instance zO(d:Uj):Ks (K4 n d) 321 [.a (Uj.c ({AS:=d.AS:Uj}))] [] (λr=>.b r):=KA func321
def K_(d:Uq):AB (AA Um):=AH (Ml n d.AY.BY) λf=>AH (Ml n d.AY.Bf) λg=>AH (app f g) λh=>AC h
instance bC(d:Uq):Kq (K_ n d) 328 [.a (Uq.c d)] [] (λr=>.o 0 (AI r) 1) (λr=>[.r 422 1 (map Um.enc r)]):=by
 refine Kg 7 func328 Z Z Z Z λr h=>NI 7 3 [0,0,0,1,3,3,3] (by kernel_rfl) (Da 3 Z ?_);obtain⟨f,g,h⟩:=Qw h;refine DA.op (x:=.o 1 (AI f) 1) (H1:=[.c 425 (Uq.c d),.r 422 1 (map Um.enc f)]) ?_ ?_
 .refine Qf [] (C6.fn call257 Z Z Z) ((jp _ _).c _ g) ?_;rintro _ _ ⟨rfl,rfl⟩;exact FE Z Wp
 refine Db 2 Z ?_;refine DB.wo2 (Ld isAgg29 Z Wp) (Ld isAgg29 Z Wp) (DB.done Z (Cd [] h Kc Z λq m h=>FE Z (Bd h λt j h=>vH (Qj j dc Gk (QE (i:=2))) ?_)));exact au h
def nk(n:Nat)(f:AA AS)(d:(AA Um)×Int):AB (CF ((AA Um)×Int) (AA Um)):=(bif d.2<(AI f:Int) then AH (CI f d.2) λg=>AH (app d.1 [Um.ctyping_cond ({AS:=g:Uj})]) λh=>AC (.k (h,i64.wrap (d.2+1)))else AC (.d d.1))
def Wl(d:AA AS):AB (AA Um):=AH (iter (nk n d) n ([],0):AB (AA Um)) λf=>AC f
instance xB(x:AA AS):Kq (Wl n x) 330 [.q 4 (map AS.enc x)] [] (λr=>.o 0 (AI r) 1) (λr=>[.r 422 1 (map Um.enc r)]):=by
 refine Kg 9 func330 Z Z Z Z λr h=>Lg 3 Z Z (Bd h λg B h=>Cg g [0] [] (λg=>[(2,.o 0 (AI g) 1)]) (λg=>[(0,.r 422 1 (map Um.enc g))]) Zf ?_ ?_)
 .refine G0 1 Z (Lp [0] [5,6] (λf=>[(2,.o 0 (AI f.1) 1),(7,I f.2)]) (λf=>[(0,.r 422 1 (map Um.enc f.1))]) B Zf ?_ ?_)
  .exact En (Er (s:=2) (XQ Z) Z) (Lr [0])
  intro f E d j;refine G0 6 Z (Q5 Z d (λ_ d=>?_) (λ_ d=>?_))
  .exact Je j d
  refine Gc 6 Z (Bd d λy q d=>FU q (Ji y) Z (Go 9 Z ?_));refine vV (eN Z EU (by nofun) Z) (vH (Ek (xs:=[.tmp 14]) dc Z Z Z Z Z ⟨Z,trivial⟩ Z Z) ?_);refine FE Z (Bd d λF t d=>vH (Qj (e:=Um.enc) t dc Gk (QE (i:=2))) ?_);exact au d
 exact au h
def J_(d:Uj):AB (AA Um):=AH (Wl n d.AS.Ad) λf=>AC f
instance bD(d:Uj):Kq (J_ n d) 327 [.a (Uj.c ({AS:=d.AS:Uj}))] [] (λr=>.o 0 (AI r) 1) (λr=>[.r 422 1 (map Um.enc r)]):=KA func327
def MN(B:AA Um)(E:Int)(rec95:(AA Um)->Int->Uk->AB (Uk×Bool))(d:Uk×Int):AB (CF (Uk×Int) (CF Uk (Uk×Bool))):=(bif d.2<(AI B:Int) then AH (CI B d.2) λF=>Um.elim F (λj=>AH (AH (K4 n ({AS:=j.AY.AS:Uj})) λG=>(bif (!G)then AH (rec95 [Um.ctyping_cond ({AS:=j.AY.AS:Uj})] 0 ({BG:=i64.wrap (d.1.BG+1),BH:=d.1.BH:Uk})) λm=>AC (m.1,(!m.2))else AC ({BG:=i64.wrap (d.1.BG+1),BH:=d.1.BH:Uk},AD)):AB (Uk×Bool)) λf=>(bif f.2 then AC (.d (.d (f.1,AD)))else AH ((bif 64<f.1.BG then AC (f.1,AE)else(bif 256<f.1.BH then AC (f.1,AE)else AH (K_ n j) λx=>AH (rec95 x (i64.wrap (E+1)) f.1) λq=>AC (q.1,(!q.2)))):AB (Uk×Bool)) λg=>(bif g.2 then AC (.d (.d (g.1,AD)))else AC (.k (g.1,i64.wrap (d.2+1)))))) (λH=>AH ((bif 64<d.1.BG then AC ({BG:=d.1.BG,BH:=i64.wrap (d.1.BH+1):Uk},AE)else(bif 256<(i64.wrap (d.1.BH+1)) then AC ({BG:=d.1.BG,BH:=i64.wrap (d.1.BH+1):Uk},AE)else AH (J_ n ({AS:=H.AS:Uj})) λy=>AH (rec95 y (i64.wrap (E+1)) ({BG:=d.1.BG,BH:=i64.wrap (d.1.BH+1):Uk})) λt=>AC (t.1,(!t.2)))):AB (Uk×Bool)) λh=>(bif h.2 then AC (.d (.d (h.1,AD)))else AC (.k (h.1,i64.wrap (d.2+1)))))else AC (.d (.k d.1)))
def i7(rec95:(AA Um)->Int->Uk->AB (Uk×Bool))(n:Nat)(f:AA Um)(g:Int)(h:Uk):AB (Uk×Bool):=AH ((bif 0<(AI f:Int) then AC (AG (16<g))else AC AD):AB Bool) λm=>(bif m then AC (h,AD)else AH (iter (MN n f g rec95) n (h,0):AB (CF Uk (Uk×Bool))) λj=>match j with|.k d=>(AC (d,AE))|.d d=>AC d)
theorem Qay(rec95:(AA Um)->Int->Uk->AB (Uk×Bool))(ad:∀(x:AA Um) (L:Int) (M:Uk),Kq (rec95 x L M) 300 [.p 0 0,.o 1 (AI x) 1,I L] [.c 418 (Uk.c M),.r 422 1 (map Um.enc x)] (λr=>.b r.2) (λr=>[.c 418 (Uk.c r.1),.r 422 1 (map Um.enc x)]))(n:Nat)(x:AA Um)(L:Int)(M:Uk):Kq (i7 rec95 n x L M) 300 [.p 0 0,.o 1 (AI x) 1,I L] [.c 418 (Uk.c M),.r 422 1 (map Um.enc x)] (λr=>.b r.2) (λr=>[.c 418 (Uk.c r.1),.r 422 1 (map Um.enc x)]):=by
 refine Kg 7 func300 Z Z Z Z λr h=>Bd h λb2 h3 h=>Ct b2 [0,1] [0,1,2] (λb2=>[(18,.b b2)]) Ze Zf ?_ (λenv H B=>?_)
 .exact au h3
 refine Gx 1 Z (Ee B (Cn Z h (λ_ h=>?_) (λ_ h=>?_)))
 .exact au h
 refine Gc 10 Z (Bd h λaf ag h=>D4 (b:=af) [0,1] [] Ze (λN=>[(0,.c 418 (Uk.c N))]) Zf ?_ (λN ah=>?_))
 .refine G0 1 Z (Lp [0,1] [0,2,19,20] (λE=>[(21,I E.2)]) (λE=>[(0,.c 418 (Uk.c E.1))]) ag Zf (Lr [0,1]) λE al d y=>?_);refine G0 6 Z (Q5 Z d (λ_ d=>?_) (λ_ d=>?_))
  .exact Je y d
  refine Gc 6 Z (Bd d λaa O d=>?_);refine vX (.p 1 (toNat E.2*1)) (Qd O Z Gk sizeOf422) ?_;refine vX (Um.val aa) (Ez Z isAgg422 Z (Qh O)) ?_;refine Go 12 Z ?_;rcases JM aa with⟨F,hE90⟩|⟨J,hE92⟩
  .have d:=Jy hE90 d;refine Et (Q8 (s:=8) (a':=.iface 425 (.a (Uq.c F))) Z (congrArg Um.val hE90)) ?_;refine Et (Q8 (s:=24) (a':=.iface 425 (.a (Uq.c F))) Z (congrArg Um.val hE90)) ?_;refine Et (Q8 (s:=25) (a':=.iface 425 (.a (Uq.c F))) Z (congrArg Um.val hE90)) ?_;refine vX (.t [.a [I 0,I 0,I 0,.q 4 (map AS.enc [])],.b AD]) (li (z:=(.a [I 0,I 0,I 0,.q 4 (map AS.enc [])])) EU (by intro m;nofun) Z G6 (Fu Z)) ?_;refine Go 7 Z ?_;refine vX (.t [.a (Uq.c F),.b AE]) (Sz GD (by intro m;nofun)) ?_;refine Go 34 Z (Bd d λG j d=>Ct G [0,1] [0,2,8,19,20,21] (λG=>[(60,.b G.2)]) (λG=>[(0,.c 418 (Uk.c G.1))]) Zf ?_ (λenv H B=>?_))
   .refine G0 2 Z (Cz [] j Kc Z λam ai j=>Go 2 Z (Is 53 j Z (λ_ j=>?_) (λ_ j=>?_)))
    .refine Go 2 Z ?_;refine vX (.iface 443 (.a (Uj.c ({AS:=F.AY.AS:Uj})))) (eN Z EU (by intro m;nofun) Z) ?_ (gT Z);exact au j
    exact au j
   refine Gx 1 Z (Ee B (Cn Z d (λ_ d=>?_) (λ_ d=>?_)))
   .exact DZ y d h
   refine Gc 4 Z (Bd d λq f d=>Ct q [0,1] [0,2,19,20,21] (λq=>[(81,.b q.2)]) (λq=>[(0,.c 418 (Uk.c q.1))]) Zf ?_ (λenv H B=>?_))
   .refine G0 7 Z (Is 66 f Z (λ_ f=>?_) (λ_ f=>?_))
    .exact au f
    .refine Go 7 Z (Is 73 f Z (λ_ f=>?_) (λ_ f=>?_))
     .exact au f
     .refine Go 2 Z (Bd f λaj T f=>?_);refine Qf [] (gy call328 Z Z Z Z (λ_ _=>by kernel_rfl)) ((bC _ _).c _ T) ?_ (hg:=(gT Z));rintro _ _ ⟨rfl,rfl⟩;exact au f
   refine Gx 1 Z (Ee B (Cn Z d (λ_ d=>?_) (λ_ d=>?_)))
   .exact DZ y d h
   exact au d
  .have d:=Jw hE92 d;refine Et (Q8 (s:=8) (a':=.iface 443 (.a (Uj.c ({AS:=J.AS:Uj})))) Z (congrArg Um.val hE92)) ?_;refine Et (Q8 (s:=24) (a':=.iface 443 (.a (Uj.c ({AS:=J.AS:Uj})))) Z (congrArg Um.val hE92)) ?_;refine Et (Q8 (s:=25) (a':=.iface 443 (.a (Uj.c ({AS:=J.AS:Uj})))) Z (congrArg Um.val hE92)) ?_;refine vX (.t [.a (Uj.c ({AS:=J.AS:Uj})),.b AE]) (Sz EU (by intro m;nofun)) ?_;refine Go 24 Z (Bd d λt g d=>Cg t [0,1] [0,2,19,20,21] (λt=>[(81,.b t.2)]) (λt=>[(0,.c 418 (Uk.c t.1))]) Zf ?_ ?_)
   .refine G0 7 Z (Is 66 g Z (λ_ g=>?_) (λ_ g=>?_))
    .exact au g
    .refine Go 7 Z (Is 73 g Z (λ_ g=>?_) (λ_ g=>?_))
     .exact au g
     .refine Go 2 Z (Bd g λak Y g=>?_);refine Qf [] (gy call327 Z Z Z Z (λ_ _=>by kernel_rfl)) ((bD _ _).c _ Y) ?_ (hg:=(gT Z));rintro _ _ ⟨rfl,rfl⟩;exact au g
   exact DZ y d h
 subst ah;exact au h
def NG:Nat->(AA Um)->Int->Uk->AB (Uk×Bool)
  |0=>λ_ _ _=>AF
  |n+1=>i7 (NG n) n
instance k_h:∀(d:AA Um) (f:Int) (g:Uk),Kq (NG n d f g) 300 [.p 0 0,.o 1 (AI d) 1,I f] [.c 418 (Uk.c g),.r 422 1 (map Um.enc d)] (λr=>.b r.2) (λr=>[.c 418 (Uk.c r.1),.r 422 1 (map Um.enc d)]):=by
  induction n with
  |zero=>exact λ_ _ _=>⟨nofun⟩
  |succ n ih=>exact Qay _ ih n
def nR(B:AA Um)(E:Int)(d:Uk×Int):AB (CF (Uk×Int) (CF Uk (Uk×Bool))):=(bif d.2<(AI B:Int) then AH (CI B d.2) λF=>Um.elim F (λj=>AH (AH (K4 n ({AS:=j.AY.AS:Uj})) λG=>(bif (!G)then AH (NG n [Um.ctyping_cond ({AS:=j.AY.AS:Uj})] 0 ({BG:=i64.wrap (d.1.BG+1),BH:=d.1.BH:Uk})) λm=>AC (m.1,(!m.2))else AC ({BG:=i64.wrap (d.1.BG+1),BH:=d.1.BH:Uk},AD)):AB (Uk×Bool)) λf=>(bif f.2 then AC (.d (.d (f.1,AD)))else AH ((bif 64<f.1.BG then AC (f.1,AE)else(bif 256<f.1.BH then AC (f.1,AE)else AH (K_ n j) λx=>AH (NG n x (i64.wrap (E+1)) f.1) λq=>AC (q.1,(!q.2)))):AB (Uk×Bool)) λg=>(bif g.2 then AC (.d (.d (g.1,AD)))else AC (.k (g.1,i64.wrap (d.2+1)))))) (λH=>AH ((bif 64<d.1.BG then AC ({BG:=d.1.BG,BH:=i64.wrap (d.1.BH+1):Uk},AE)else(bif 256<(i64.wrap (d.1.BH+1)) then AC ({BG:=d.1.BG,BH:=i64.wrap (d.1.BH+1):Uk},AE)else AH (J_ n ({AS:=H.AS:Uj})) λy=>AH (NG n y (i64.wrap (E+1)) ({BG:=d.1.BG,BH:=i64.wrap (d.1.BH+1):Uk})) λt=>AC (t.1,(!t.2)))):AB (Uk×Bool)) λh=>(bif h.2 then AC (.d (.d (h.1,AD)))else AC (.k (h.1,i64.wrap (d.2+1)))))else AC (.d (.k d.1)))
def fK(f:AA Um)(g:Int)(h:Uk):AB (Uk×Bool):=AH ((bif 0<(AI f:Int) then AC (AG (16<g))else AC AD):AB Bool) λm=>(bif m then AC (h,AD)else AH (iter (nR n f g) n (h,0):AB (CF Uk (Uk×Bool))) λj=>match j with|.k d=>(AC (d,AE))|.d d=>AC d)
instance vq(a1:AA Um)(a2:Int)(a3:Uk):Kq (fK n a1 a2 a3) 300 [.p 0 0,.q 1 (map Um.enc a1),I a2] [.c 418 (Uk.c a3)] (λr=>.b r.2) (λr=>[.c 418 (Uk.c r.1)]):=by
 refine Kg 7 func300 Z Z Z Z λr h=>Bd h λV h3 h=>Ct V [0] [0,1,2] (λV=>[(18,.b V)]) Ze Zf ?_ (λenv H y=>?_)
 .exact au h3
 refine Gx 1 Z (Ee y (Cn Z h (λ_ h=>?_) (λ_ h=>?_)))
 .exact au h
 refine Gc 6 Z (Lg 3 Z Z (Bd h λab ac h=>D4 (b:=ab) [0] [] Ze (λJ=>[(0,.c 418 (Uk.c J))]) Zf ?_ (λJ ad=>?_)))
 .refine G0 1 Z (Lp [0] [0,2,19,20] (λF=>[(21,I F.2)]) (λF=>[(0,.c 418 (Uk.c F.1))]) ac Zf (Lr [0]) λF ai d x=>?_);refine G0 6 Z (Q5 Z d (λ_ d=>?_) (λ_ d=>?_))
  .exact Je x d
  refine Gc 6 Z (Bd d λae X d=>Iz X Z (Go 13 Z ?_));rcases JM ae with⟨B,hE90⟩|⟨G,hE92⟩
  .have d:=Jy hE90 d;refine Et (Q8 (s:=8) (a':=.iface 425 (.a (Uq.c B))) Z (congrArg Um.val hE90)) ?_;refine Et (Q8 (s:=24) (a':=.iface 425 (.a (Uq.c B))) Z (congrArg Um.val hE90)) ?_;refine Et (Q8 (s:=25) (a':=.iface 425 (.a (Uq.c B))) Z (congrArg Um.val hE90)) ?_;refine vX (.t [.a [I 0,I 0,I 0,.q 4 (map AS.enc [])],.b AD]) (li (z:=(.a [I 0,I 0,I 0,.q 4 (map AS.enc [])])) EU (by intro m;nofun) Z G6 (Fu Z)) ?_;refine Go 7 Z ?_;refine vX (.t [.a (Uq.c B),.b AE]) (Sz GD (by intro m;nofun)) ?_;refine Go 34 Z (Bd d λE j d=>Ct E [0] [0,2,8,19,20,21] (λE=>[(60,.b E.2)]) (λE=>[(0,.c 418 (Uk.c E.1))]) Zf ?_ (λenv H y=>?_))
   .refine G0 2 Z (Cz [] j Kc Z λaj af j=>Go 2 Z (Is 53 j Z (λ_ j=>?_) (λ_ j=>?_)))
    .refine Go 2 Z ?_;refine vX (.iface 443 (.a (Uj.c ({AS:=B.AY.AS:Uj})))) (eN Z EU (by intro m;nofun) Z) ?_ (gT Z);exact au j
    exact au j
   refine Gx 1 Z (Ee y (Cn Z d (λ_ d=>?_) (λ_ d=>?_)))
   .exact DZ x d h
   refine Gc 4 Z (Bd d λq f d=>Ct q [0] [0,2,19,20,21] (λq=>[(81,.b q.2)]) (λq=>[(0,.c 418 (Uk.c q.1))]) Zf ?_ (λenv H y=>?_))
   .refine G0 7 Z (Is 66 f Z (λ_ f=>?_) (λ_ f=>?_))
    .exact au f
    .refine Go 7 Z (Is 73 f Z (λ_ f=>?_) (λ_ f=>?_))
     .exact au f
     .refine Go 2 Z (Bd f λag O f=>?_);refine Qf [] (gy call328 Z Z Z Z (λ_ _=>by kernel_rfl)) ((bC _ _).c _ O) ?_ (hg:=(gT Z));rintro _ _ ⟨rfl,rfl⟩;exact au f
   refine Gx 1 Z (Ee y (Cn Z d (λ_ d=>?_) (λ_ d=>?_)))
   .exact DZ x d h
   exact au d
  .have d:=Jw hE92 d;refine Et (Q8 (s:=8) (a':=.iface 443 (.a (Uj.c ({AS:=G.AS:Uj})))) Z (congrArg Um.val hE92)) ?_;refine Et (Q8 (s:=24) (a':=.iface 443 (.a (Uj.c ({AS:=G.AS:Uj})))) Z (congrArg Um.val hE92)) ?_;refine Et (Q8 (s:=25) (a':=.iface 443 (.a (Uj.c ({AS:=G.AS:Uj})))) Z (congrArg Um.val hE92)) ?_;refine vX (.t [.a (Uj.c ({AS:=G.AS:Uj})),.b AE]) (Sz EU (by intro m;nofun)) ?_;refine Go 24 Z (Bd d λt g d=>Cg t [0] [0,2,19,20,21] (λt=>[(81,.b t.2)]) (λt=>[(0,.c 418 (Uk.c t.1))]) Zf ?_ ?_)
   .refine G0 7 Z (Is 66 g Z (λ_ g=>?_) (λ_ g=>?_))
    .exact au g
    .refine Go 7 Z (Is 73 g Z (λ_ g=>?_) (λ_ g=>?_))
     .exact au g
     .refine Go 2 Z (Bd g λah T g=>?_);refine Qf [] (gy call327 Z Z Z Z (λ_ _=>by kernel_rfl)) ((bD _ _).c _ T) ?_ (hg:=(gT Z));rintro _ _ ⟨rfl,rfl⟩;exact au g
   exact DZ x d h
 subst ad;exact au h
def Ws(rec99:(AA Um)->AB Bool)(n:Nat)(d:Uj):AB Bool:=AH ((bif (d.AS.Bw==0)then AC (d.AS.N==0)else AC AD):AB Bool) λg=>(bif (d.AS.AX==1)then AH (AH (FQ n 1 3 [d.AS.Bw]) λh=>(bif h then AH (FQ n 0 10000 [d.AS.N]) λj=>(bif j then AC ((AI d.AS.Ad:Int)==0)else AC AD)else AC AD):AB Bool) λm=>AC m else AH ((bif (d.AS.AX==4)then(bif g then AC (.k ((AI d.AS.Ad:Int)==1))else AC (.k AD))else AH ((bif (d.AS.AX==2)then AC (d.AS.AX==2)else AC (d.AS.AX==3)):AB Bool) λq=>(bif q then(bif g then(bif 0<(AI d.AS.Ad:Int) then AC (.k (AG ((AI d.AS.Ad:Int)<=16)))else AC (.k AD))else AC (.k AD))else AC (.d AD))):AB (CF Bool Bool)) λt=>match t with|.k f=>(AH ((bif f then AH (J_ n ({AS:=d.AS:Uj})) λx=>AH (rec99 x) λy=>AC (!y)else AC AD):AB Bool) λB=>AC B)|.d f=>AC f)
instance xH(rec99:(AA Um)->AB Bool)[E:∀(g:AA Um),Ks (rec99 g) 301 [.q 1 (map Um.enc g),.f 302] [] (λr=>.b r)](n:Nat)(g:Uj):Ks (Ws rec99 n g) 323 [.iface 443 (.a (Uj.c ({AS:=g.AS:Uj})))] [] (λr=>.b r):=by
 refine Kg 14 func323 Z Z Z Z λr h=>?_;refine vX (.t [.a (Uj.c ({AS:=g.AS:Uj})),.b AE]) (Sz EU (by intro m;nofun)) ?_;refine Go 12 Z (Bd h λx M h=>Ct x [0] [3] (λx=>[(4,.b x)]) Ze Zf ?_ (λenv H f=>?_))
 .exact au M
 refine Gx 1 Z (Ee f (Gc 15 Z (Cn Z h (λ_ h=>?_) (λ_ h=>?_))))
 .exact au h
 refine Gc 6 Z (Bd h λG d h=>FX (b:=G) [0] [3] (λj=>[(4,.b j)]) Ze Zf ?_ (λj env H hb f=>?_))
 .refine G0 0 Z (Cn Z d (λ_ d=>?_) (λ_ d=>?_))
  .exact au d
  refine Gc 7 Z (Bd d λq J d=>Ct q [0] [3,4] (λq=>[(55,.b q)]) Ze Zf ?_ (λenv H f=>?_))
  .exact au J
  refine Gx 1 Z (Ee f (Q5 Z d (λ_ d=>?_) (λ_ d=>?_)))
  .refine Gc 6 Z ?_;cases d;exact au h
  exact au d
 subst hb;refine Gx 2 Z (Ee f (Gc 1 Z (Bd h λt L h=>Cg t [] [] (λt=>[(2,.b t)]) Ze Zf ?_ ?_)))
 .exact au L
 exact au h
def fj(rec99:(AA Um)->AB Bool)(n:Nat)(Q:Um):AB Bool:=Um.elim Q (λf=>(bif (f.AY.AX==1)then AH (AH (FQ n 1 5 [f.AY.By]) λj=>(bif j then AH (K4 n ({AS:=f.AY.AS:Uj})) λm=>(bif m then AH (K_ n f) λq=>AC ((AI q:Int)==0)else AC AD)else AC AD):AB Bool) λt=>AC t else(bif (f.AY.AX==2)then AH ((bif (f.AY.By==0)then AH (Ws rec99 n ({AS:=f.AY.AS:Uj})) λx=>(bif x then(bif 0<(AI f.AY.BY:Int) then AH (K_ n f) λy=>AH (rec99 y) λB=>AC (!B)else AC AD)else AC AD)else AC AD):AB Bool) λE=>AC E else AC AD))) (λd=>AH ((bif (d.AS.Bw==0)then AC (d.AS.N==0)else AC AD):AB Bool) λh=>(bif (d.AS.AX==1)then AH (AH (FQ n 1 3 [d.AS.Bw]) λF=>(bif F then AH (FQ n 0 10000 [d.AS.N]) λG=>(bif G then AC ((AI d.AS.Ad:Int)==0)else AC AD)else AC AD):AB Bool) λH=>AC H else AH ((bif (d.AS.AX==4)then(bif h then AC (.k ((AI d.AS.Ad:Int)==1))else AC (.k AD))else AH ((bif (d.AS.AX==2)then AC (d.AS.AX==2)else AC (d.AS.AX==3)):AB Bool) λJ=>(bif J then(bif h then(bif 0<(AI d.AS.Ad:Int) then AC (.k (AG ((AI d.AS.Ad:Int)<=16)))else AC (.k AD))else AC (.k AD))else AC (.d AD))):AB (CF Bool Bool)) λL=>match L with|.k g=>(AH ((bif g then AH (J_ n ({AS:=d.AS:Uj})) λM=>AH (rec99 M) λO=>AC (!O)else AC AD):AB Bool) λP=>AC P)|.d g=>AC g))
instance jU(rec99:(AA Um)->AB Bool)[O:∀(j:AA Um),Ks (rec99 j) 301 [.q 1 (map Um.enc j),.f 302] [] (λr=>.b r)](n:Nat)(j:Um):Ks (fj rec99 n j) 323 [Um.val j] [] (λr=>.b r):=by
 refine Kg 14 func323 Z Z Z Z λr h=>?_;rcases JM j with⟨E,hE2⟩|⟨F,hE4⟩
 .have h:=Jy hE2 h;refine Et (Q8 (s:=0) (a':=.iface 425 (.a (Uq.c E))) Z (congrArg Um.val hE2)) ?_;refine Et (Q8 (s:=7) (a':=.iface 425 (.a (Uq.c E))) Z (congrArg Um.val hE2)) ?_;refine vX (.t [.a [I 0,I 0,I 0,.q 4 (map AS.enc [])],.b AD]) (li (z:=(.a [I 0,I 0,I 0,.q 4 (map AS.enc [])])) EU (by intro m;nofun) Z G6 (Fu Z)) ?_;refine Go 7 Z ?_;refine vX (.t [.a (Uq.c E),.b AE]) (Sz GD (by intro m;nofun)) ?_;refine Go 35 Z (Cn Z h (λ_ h=>?_) (λ_ h=>?_))
  .exact au h
  refine Gc 6 Z (Cn Z h (λ_ h=>?_) (λ_ h=>?_))
  .refine Gc 1 Z (Bd h λq g h=>Ct q [] [] (λq=>[(2,.b q)]) Ze Zf ?_ (λenv H f=>?_))
   .refine G0 6 Z (Is 113 g Z (λ_ g=>?_) (λ_ g=>?_))
    .refine Go 1 Z ?_;refine vX (.iface 443 (.a (Uj.c ({AS:=E.AY.AS:Uj})))) (eN Z EU (by intro m;nofun) Z) ?_ (gT Z);exact au g
    exact au g
   exact Gx 1 Z (Ee f (L' 4 Z h 2 []))
  exact au h
 .have h:=Jw hE4 h;refine Et (Q8 (s:=0) (a':=.iface 443 (.a (Uj.c ({AS:=F.AS:Uj})))) Z (congrArg Um.val hE4)) ?_;refine Et (Q8 (s:=7) (a':=.iface 443 (.a (Uj.c ({AS:=F.AS:Uj})))) Z (congrArg Um.val hE4)) ?_;refine vX (.t [.a (Uj.c ({AS:=F.AS:Uj})),.b AE]) (Sz EU (by intro m;nofun)) ?_;refine Go 12 Z (Bd h λt Q h=>Ct t [0] [3] (λt=>[(4,.b t)]) Ze Zf ?_ (λenv H f=>?_))
  .exact au Q
  refine Gx 1 Z (Ee f (Gc 15 Z (Cn Z h (λ_ h=>?_) (λ_ h=>?_))))
  .exact au h
  refine Gc 6 Z (Bd h λR d h=>FX (b:=R) [0] [3] (λx=>[(4,.b x)]) Ze Zf ?_ (λx env H hb f=>?_))
  .refine G0 0 Z (Cn Z d (λ_ d=>?_) (λ_ d=>?_))
   .exact au d
   refine Gc 7 Z (Bd d λy T d=>Ct y [0] [3,4] (λy=>[(55,.b y)]) Ze Zf ?_ (λenv H f=>?_))
   .exact au T
   refine Gx 1 Z (Ee f (Q5 Z d (λ_ d=>?_) (λ_ d=>?_)))
   .refine Gc 6 Z ?_;cases d;exact au h
   exact au d
  subst hb;refine Gx 2 Z (Ee f (Gc 1 Z (Bd h λB V h=>Cg B [] [] (λB=>[(2,.b B)]) Ze Zf ?_ ?_)))
  .exact au V
  exact au h
def W3(rec99:(AA Um)->AB Bool)(n:Nat)(d:Um):AB Bool:=AH (fj rec99 n d) λf=>AC (!f)
instance ja(rec99:(AA Um)->AB Bool)[f:∀(d:AA Um),Ks (rec99 d) 301 [.q 1 (map Um.enc d),.f 302] [] (λr=>.b r)](n:Nat)(d:Um):Ks (W3 rec99 n d) 302 [Um.val d] [] (λr=>.b r):=by
 exact Kg 8 func302 Z Z Z Z λr h=>Bd h λj g h=>Pc [] Z (C6.fn call323 Z Z Z) ((jU rec99 _ _).c _ g) (hargs:=by first|exact Z|exact Eq.trans (by exact Z) (S4 _ (by simp[YK,YL,Um.data])).symm) Z (Gt 5 Z h 2 [])
def nX(f:AA Um)(rec99:(AA Um)->AB Bool)(d:Int):AB (CF Int (CF Unit Int)):=(bif d<(AI f:Int) then AH (CI f d) λg=>AH (W3 rec99 n g) λh=>(bif h then AC (.d (.d d))else AC (.k (i64.wrap (d+1))))else AC (.d (.k ())))
def fR(rec99:(AA Um)->AB Bool)(n:Nat)(g:AA Um):AB Int:=AH (iter (nX n g rec99) n 0:AB (CF Unit Int)) λf=>match f with|.k d=>(AC (-1))|.d d=>AC d
instance vz(rec99:(AA Um)->AB Bool)[y:∀(f:AA Um),Ks (rec99 f) 301 [.q 1 (map Um.enc f),.f 302] [] (λr=>.b r)](n:Nat)(f:AA Um):Ks (fR rec99 n f) 322 [.q 1 (map Um.enc f),.f 302] [] (λr=>I r):=by
 refine Kg 9 func322 Z Z Z Z λr h=>Lg 3 Z Z (Bd h λB E h=>D4 (b:=B) [] [] Ze Ze Zf ?_ (λ_ F=>?_))
 .refine G0 1 Z (Lp [] [0,1,7] (λj=>[(8,I j)]) Ze E Zf (Lr []) λj H d g=>?_);refine G0 6 Z (Q5 Z d (λ_ d=>?_) (λ_ d=>?_))
  .exact Je g d
  refine Gc 15 Z (Bd d λJ q d=>Iz q Z (Go 1 Z (Bd d λL t d=>Pc [] Z (JT call302 Z Z Z Z) ((ja rec99 _ _).c _ t) (hargs:=by first|exact Z|exact Eq.trans (by exact Z) (S4 _ (by simp[YK,YL,Um.data])).symm) Z (Go 2 Z (Cn Z d (λ_ d=>?_) (λ_ d=>?_))))))
  .exact DZ g d h
  exact au d
 subst F;exact au h
def W_(rec99:(AA Um)->AB Bool)(n:Nat)(d:AA Um):AB Bool:=AH (fR rec99 n d) λf=>AC (AG (0<=f))
theorem Qaz(rec99:(AA Um)->AB Bool)(f:∀(d:AA Um),Ks (rec99 d) 301 [.q 1 (map Um.enc d),.f 302] [] (λr=>.b r))(n:Nat)(d:AA Um):Ks (W_ rec99 n d) 301 [.q 1 (map Um.enc d),.f 302] [] (λr=>.b r):=KA func301
def KE:Nat->(AA Um)->AB Bool
  |0=>λ_=>AF
  |n+1=>W_ (KE n) n
instance z_:∀(d:AA Um),Ks (KE n d) 301 [.q 1 (map Um.enc d),.f 302] [] (λr=>.b r):=by
  induction n with
  |zero=>exact λ_=>⟨nofun⟩
  |succ n ih=>exact Qaz _ ih n
def fJ(d:AA Um):AB Int:=AH (fK n d 0 ({BG:=0,BH:=0:Uk})) λf=>(bif (!f.2)then AC 2 else AH ((bif ((AI d:Int)==0)then AC AE else AH (KE n d) λg=>AC g):AB Bool) λh=>(bif h then AC 71 else AC 0))
instance vo(d:AA Um):Ks (fJ n d) 256 [.q 1 (map Um.enc d)] [] (λr=>I r):=KA func256
def WE(d:AA AY):AB Int:=AH (Ml n d) λf=>AH (fJ n f) λg=>AC g
instance wV(d:AA AY):Ks (WE n d) 157 [.q 8 (map AY.enc d)] [] (λr=>I r):=KA func157
def MB(n:Nat)(f:CG)(g:AA Int)(d:(AA Int)×Int):AB (CF ((AA Int)×Int) (CF (AA Int) (CF ((AA Int)×Int) (CF (AA Int) (AA Int))))):=(bif d.2<(if f.As<1 then 1 else f.As) then(bif 256<(AI d.1:Int) then AC (.d (.d (.d (.d d.1))))else AH (app d.1 g) λh=>AC (.k (h,i64.wrap (d.2+1))))else AC (.d (.k d.1)))
def MC(h:AA CG)(rec118:(AA CG)->AB (AA Int))(d:(AA Int)×Int):AB (CF ((AA Int)×Int) (CF (AA Int) (AA Int))):=(bif d.2<(AI h:Int) then AH (CI h d.2) λg=>AH ((bif 0<g.As then AH (rec118 g.Ad) λj=>AC j else AC [g.Al]):AB (AA Int)) λm=>AH (iter (MB n g m) n (d.1,0):AB (CF (AA Int) (CF ((AA Int)×Int) (CF (AA Int) (AA Int))))) λq=>match q with|.k f=>(AC (.k (f,i64.wrap (d.2+1))))|.d f=>AC f else AC (.d (.k d.1)))
def iv(rec118:(AA CG)->AB (AA Int))(n:Nat)(g:AA CG):AB (AA Int):=AH (iter (MC n g rec118) n ([],0):AB (CF (AA Int) (AA Int))) λf=>match f with|.k d=>(AC d)|.d d=>AC d
theorem Qda(rec118:(AA CG)->AB (AA Int))(Q:∀(B:AA CG),Kq (rec118 B) 260 [.q 3 (map CG.enc B)] [] (λr=>.o 0 (AI r) 1) (λr=>[.r 3 1 (map eI r)]))(n:Nat)(B:AA CG):Kq (iv rec118 n B) 260 [.q 3 (map CG.enc B)] [] (λr=>.o 0 (AI r) 1) (λr=>[.r 3 1 (map eI r)]):=by
 refine Kg 9 func260 Z Z Z Z λr h=>Lg 3 Z Z (Bd h λR T h=>D4 (b:=R) [0] [] (λg=>[(2,.o 0 (AI g) 1)]) (λg=>[(0,.r 3 1 (map eI g))]) Zf ?_ (λg E=>?_))
 .refine G0 1 Z (Lp [0] [6,7] (λm=>[(2,.o 0 (AI m.1) 1),(8,I m.2)]) (λm=>[(0,.r 3 1 (map eI m.1))]) T Zf ?_ ?_)
  .refine En (Er (s:=2) (k:=1) (t:=3) (XQ Z) Z) ?_;exact Lr [0]
  intro m Y d F;refine G0 6 Z (Q5 Z d (λ_ d=>?_) (λ_ d=>?_))
  .exact Je F d
  refine Gc 6 Z (Bd d λy M d=>FU M (QM y) Z (Go 9 Z (vH (Ek (xs:=[.tmp 13]) (es:=map eI [y.Al]) QG Z Z Z Z Z ⟨Z,trivial⟩ Z Z) ?_)));refine Fg 11 Z Z (Bd d λq V d=>Ct q [0,1,0] [2,4,6,7,8] (λq=>[(5,.o 2 (AI q) 1)]) (λq=>[(2,.r 3 1 (map eI q))]) Zf ?_ (λenv H G=>?_))
  .exact au V
  refine Gx 1 Z (Ee G (Gc 4 Z ?_));refine vX (I (if y.As<1 then 1 else y.As)) (CS.max Z Z Z Z) ?_;refine Go 3 Z (Bd d λW X d=>FX (b:=W) [0] [6,7,8] (λj=>[(2,.o 0 (AI j) 1)]) (λj=>[(0,.r 3 1 (map eI j))]) Zf ?_ (λj env H E G=>?_))
  .refine G0 1 Z (Lp [0,2] [5,6,7,8,23] (λx=>[(2,.o 0 (AI x.1) 1),(24,I x.2)]) (λx=>[(0,.r 3 1 (map eI x.1))]) X Zf (Lr [0,2]) λx aa f J=>?_);refine G0 6 Z (Q5 Z f (λ_ f=>?_) (λ_ f=>?_))
   .exact Je J f
   refine Gc 12 Z (Cn Z f (λ_ f=>?_) (λ_ f=>?_))
   .refine Gc 10 Z (IN f ?_);obtain rfl:=Oj J f;exact DZ F d h
   refine Gc 5 Z (Bd f λab P f=>vH (Qj (e:=eI) P QG EB (QE (i:=1))) ?_);exact au f
  subst E;exact Gx 2 Z (Ee G (Gc 4 Z (QZ d (Lr [0]))))
 subst E;exact au h
def TA:Nat->(AA CG)->AB (AA Int)
  |0=>λ_=>AF
  |n+1=>iv (TA n) n
instance k_y:∀(d:AA CG),Kq (TA n d) 260 [.q 3 (map CG.enc d)] [] (λr=>.o 0 (AI r) 1) (λr=>[.r 3 1 (map eI r)]):=by
  induction n with
  |zero=>exact λ_=>⟨nofun⟩
  |succ n ih=>exact Qda _ ih n
def OR(n:Nat)(d:CO)(f:AA (Int×Int)):AB Bool:=AH (AC (Qn f d.Al 0)) λg=>AC (AG (d.B8<=g))
instance xT(d:CO)(f:AA (Int×Int)):Ks (OR n d f) 261 [.a (CO.c d),.p 0 0] [.c 137 [.map 1],.map (Qo I I f)] (λr=>.b r):=by
 refine Kg 11 func261 Z Z Z Z λr h=>Bd h λj g h=>(vV (Yb YN g EM EV Eo) ?_);exact au h
def fP(d:CO)(f:AA (Int×Int)):AB Bool:=AH (OR n d f) λg=>AC (!g)
instance vx(d:CO)(f:AA (Int×Int)):Ks (fP n d f) 287 [.a (CO.c d),.p 0 0] [.c 375 [.fn (.func 261) [] [.p 1 0]],.c 137 [.map 2],.map (Qo I I f)] (λr=>.b r):=KA func287
def n8(f:AA CO)(j:AA (Int×Int))(d:Int):AB (CF Int (CF Unit Int)):=(bif d<(AI f:Int) then AH (CI f d) λg=>AH (fP n g j) λh=>(bif h then AC (.d (.d d))else AC (.k (i64.wrap (d+1))))else AC (.d (.k ())))
def fe(g:AA CO)(h:AA (Int×Int)):AB Int:=AH (iter (n8 n g h) n 0:AB (CF Unit Int)) λf=>match f with|.k d=>(AC (-1))|.d d=>AC d
instance wD(d:AA CO)(f:AA (Int×Int)):Ks (fe n d f) 315 [.q 3 (map CO.c d),.fn (.func 287) [] [.p 0 0]] [.c 375 [.fn (.func 261) [] [.p 1 0]],.c 137 [.map 2],.map (Qo I I f)] (λr=>I r):=KA func315
def fI(d:AA CO)(f:AA (Int×Int)):AB Bool:=AH (fe n d f) λg=>AC (AG (0<=g))
instance vn(d:AA CO)(f:AA (Int×Int)):Ks (fI n d f) 286 [.q 3 (map CO.c d),.fn (.func 287) [] [.p 0 0]] [.c 375 [.fn (.func 261) [] [.p 1 0]],.c 137 [.map 2],.map (Qo I I f)] (λr=>.b r):=KA func286
def fA(d:AA CO)(f:AA (Int×Int)):AB Bool:=AH (fI n d f) λg=>AC (!g)
instance ve(d:AA CO)(f:AA (Int×Int)):Ks (fA n d f) 239 [.q 3 (map CO.c d),.fn (.func 261) [] [.p 0 0]] [.c 137 [.map 1],.map (Qo I I f)] (λr=>.b r):=KA func239
def Ko(n:Nat)(y:CA)(B:AA (Ul×Bool))(g:AA Int)(d:(AA (Int×Int))×Int):AB (CF ((AA (Int×Int))×Int) (CF (AA (Int×Int)) Bool)):=(bif d.2<(AI g:Int) then AH (CI g d.2) λf=>AH (CI y.Ar f) λh=>AH ((bif ((h.AX==1) != (d.2==0))then AC AE else(bif ((h.AX==3) != (d.2==(i64.wrap ((AI g:Int)-1))))then AC AE else(bif 0<d.2 then AH (CI g (i64.wrap (d.2-1))) λj=>AH (AC (Qn B ({BX:=j,to_:=f:Ul}) AD)) λm=>AC (!m)else AC AD))):AB Bool) λq=>(bif q then AC (.d (.d AD))else AH (AC (Qn d.1 f 0)) λt=>AH (AC (QK d.1 f (i64.wrap (t+1)))) λx=>AC (.k (x,i64.wrap (d.2+1))))else AC (.d (.k d.1)))
def Oh(h:CA)(f:AN)(j:AA (Ul×Bool)):AB Bool:=AH (TA n f.Ae) λg=>AH ((bif (i64.wrap ((AI g:Int)-1))<1 then AC AE else AC (AG (256<=(i64.wrap ((AI g:Int)-1))))):AB Bool) λE=>(bif E then AC AD else AH (iter (Ko n h j g) n ([],0):AB (CF (AA (Int×Int)) Bool)) λm=>match m with|.k d=>(AH ((bif 0<=f.Am then AH (AC (Qn d f.Am 0)) λq=>(bif (q==0)then AC AE else AH (CI h.Ar f.Am) λt=>(bif (t.AX != 2)then AC AE else AH (AC (Qn j ({BX:=f.Am,to_:=f.Am:Ul}) AD)) λx=>AC (!x)))else AC AD):AB Bool) λy=>(bif y then AC AD else AH (fA n f.Aq d) λB=>AC B))|.d d=>AC d)
instance xi(a1:CA)(y:AN)(L:AA (Ul×Bool)):Ks (Oh n a1 y L) 160 [.a (CA.c a1),.a (AN.c y),.map 0] [.map (Qo (λx=>A.a (Ul.c x)) A.b L)] (λr=>.b r):=by
 refine Kg 11 func160 Z Z Z Z λr h=>Cd [] h Kc Z λr1 aq h=>Fg 13 Z Z (Bd h λP h4 h=>Ct P [0,1,2,3] [2,3,4,7,8] (λP=>[(25,.b P)]) Ze Zf ?_ (λenv H m=>?_))
 .exact au h4
 refine Gx 1 Z (Ee m (Cn Z h (λ_ h=>?_) (λ_ h=>?_)))
 .exact au h
 refine Gc 4 Z (vH Yl ?_);refine Fg 12 Z Z (Bd h λaj ak h=>FX (b:=aj) [0,1,2,4,5] [2,3,4] (λ_=>[(9,.p 3 0)]) (λq=>[(3,.c 137 [.map 4]),(4,.map (Qo I I q))]) Zf ?_ (λq env H al m=>?_))
 .refine G0 1 Z (Lp [0,1,2,3,5,4] [2,3,4,7,8,9,27,28] (λj=>[(29,I j.2)]) (λj=>[(4,.c 137 [.map 5]),(5,.map (Qo I I j.1))]) ak Zf (Lr [0,1,2,3,5,4]) λj ar d B=>?_);refine G0 6 Z (Q5 Z d (λ_ d=>?_) (λ_ d=>?_))
  .exact Je B d
  refine Gc 7 Z (Bd d λt E d=>?_);refine vX (.p 3 (toNat j.2*1)) (Qd E Z EB EC) ?_;refine vX (I t) (Ez Z EF Z (Qh E)) ?_;refine Go 9 Z (Bd d λM R d=>Iz R Z (Go 7 Z (Bd d λF g d=>Ct F [0,1,2,3,4,5] [2,3,4,7,8,9,11,27,28,29] (λF=>[(68,.b F)]) Ze Zf ?_ (λenv H m=>?_))))
  .refine G0 5 Z ?_;refine vX (.b ((M.AX==1) != (j.2==0))) (tE GY) ?_;refine Go 1 Z (Is 45 g Z (λ_ g=>?_) (λ_ g=>?_))
   .exact au g
   .refine Go 5 Z ?_;refine vV (x:=(.b ((M.AX==3) != (j.2==(i64.wrap ((AI r1:Int)-1)))))) (tE GY) ?_ (gT Z);refine Go 2 Z (Is 53 g Z (λ_ g=>?_) (λ_ g=>?_))
    .exact au g
    .refine Go 3 Z (Is 56 g Z (λ_ g=>?_) (λ_ g=>?_))
     .refine Go 4 Z (Bd g λN G g=>?_);refine vX (.p 3 (toNat (i64.wrap (j.2-1))*1)) (Qd G Z EB EC) ?_ (gT Z);refine vX (I N) (Ez Z EF Z (Qh G)) ?_ (gT Z);refine Go 2 Z (Bd g λam X g=>?_);refine vX (.b am) (Yb (ev:=A.b) (z0:=AD) (k:=({BX:=N,to_:=t:Ul})) (l:=L) dt X Gv E7 ZR.bool) ?_ (gT Z);exact au g
     exact au g
  refine Gx 1 Z (Ee m (Cn Z d (λ_ d=>?_) (λ_ d=>?_)))
  .exact DZ B d h
  refine Gc 5 Z (Bd d λO aa d=>?_);refine vX (I O) (Yb (ev:=I) (z0:=0) (k:=t) (l:=j.1) YN aa EM EV Eo) ?_;refine Go 1 Z (Bd d λav ab d=>?_);refine vU (Yh (ev:=I) (k:=t) (v:=(i64.wrap (O+1))) (l:=j.1) YN ab Z EM) ?_;exact au d
 subst al;refine Gx 1 Z (Ee m (Gc 9 Z (Bd h λJ f h=>Cg J [0,2,3,4] [4,9] (λJ=>[(100,.b J)]) (λ_=>[(2,.c 137 [.map 3])]) Zf ?_ ?_)))
 .refine G0 4 Z (Is 78 f Z (λ_ f=>?_) (λ_ f=>?_))
  .refine Go 2 Z (Bd f λan ad f=>?_);refine vX (I an) (Yb (ev:=I) (z0:=0) (k:=y.Am) (l:=q) YN ad EM EV Eo) ?_ (gT Z);refine Go 2 Z (Is 83 f Z (λ_ f=>?_) (λ_ f=>?_))
   .exact au f
   .refine Go 3 Z (Bd f λaw af f=>Iz af Z (Go 5 Z (Is 92 f Z (λ_ f=>?_) (λ_ f=>?_))))
    .exact au f
    .refine Go 4 Z (Bd f λao ah f=>?_);refine vX (.b ao) (Yb (ev:=A.b) (z0:=AD) (k:=({BX:=y.Am,to_:=y.Am:Ul})) (l:=L) dt ah Gv E7 ZR.bool) ?_ (gT Z);exact au f
  exact au f
 exact au h
def WH(d:AN)(f:CA)(g:AA (Ul×Bool)):AB Bool:=AH (Oh n f d g) λh=>AC h
instance wY(d:AN)(f:CA)(g:AA (Ul×Bool)):Ks (WH n d f g) 159 [.a (AN.c d),.p 0 0,.p 1 0] [.c 33 (CA.c f),.c 292 [.map 2],.map (Qo (λx=>A.a (Ul.c x)) A.b g)] (λr=>.b r):=KA func159
def fL(d:AN)(f:CA)(g:AA (Ul×Bool)):AB Bool:=AH (WH n d f g) λh=>AC (!h)
instance vr(d:AN)(f:CA)(g:AA (Ul×Bool)):Ks (fL n d f g) 259 [.a (AN.c d),.p 0 0] [.c 297 [.fn (.func 159) [] [.p 1 0,.p 2 0]],.c 33 (CA.c f),.c 292 [.map 3],.map (Qo (λx=>A.a (Ul.c x)) A.b g)] (λr=>.b r):=KA func259
def np(f:AA AN)(j:CA)(m:AA (Ul×Bool))(d:Int):AB (CF Int (CF Unit Int)):=(bif d<(AI f:Int) then AH (CI f d) λg=>AH (fL n g j m) λh=>(bif h then AC (.d (.d d))else AC (.k (i64.wrap (d+1))))else AC (.d (.k ())))
def fE(g:AA AN)(h:CA)(j:AA (Ul×Bool)):AB Int:=AH (iter (np n g h j) n 0:AB (CF Unit Int)) λf=>match f with|.k d=>(AC (-1))|.d d=>AC d
instance vh(d:AA AN)(f:CA)(g:AA (Ul×Bool)):Ks (fE n d f g) 303 [.q 5 (map AN.c d),.fn (.func 259) [] [.p 0 0]] [.c 297 [.fn (.func 159) [] [.p 1 0,.p 2 0]],.c 33 (CA.c f),.c 292 [.map 3],.map (Qo (λx=>A.a (Ul.c x)) A.b g)] (λr=>I r):=KA func303
def ff(d:AA AN)(f:CA)(g:AA (Ul×Bool)):AB Bool:=AH (fE n d f g) λh=>AC (AG (0<=h))
instance wE(d:AA AN)(f:CA)(g:AA (Ul×Bool)):Ks (ff n d f g) 258 [.q 5 (map AN.c d),.fn (.func 259) [] [.p 0 0]] [.c 297 [.fn (.func 159) [] [.p 1 0,.p 2 0]],.c 33 (CA.c f),.c 292 [.map 3],.map (Qo (λx=>A.a (Ul.c x)) A.b g)] (λr=>.b r):=KA func258
def WG(d:AA AN)(f:CA)(g:AA (Ul×Bool)):AB Bool:=AH (ff n d f g) λh=>AC (!h)
instance wW(d:AA AN)(f:CA)(g:AA (Ul×Bool)):Ks (WG n d f g) 158 [.q 5 (map AN.c d),.fn (.func 159) [] [.p 0 0,.p 1 0]] [.c 33 (CA.c f),.c 292 [.map 2],.map (Qo (λx=>A.a (Ul.c x)) A.b g)] (λr=>.b r):=KA func158
def OJ(n:Nat)(g:CA)(d:(AA (Ul×Bool))×Int):AB (CF ((AA (Ul×Bool))×Int) (AA (Ul×Bool))):=(bif d.2<(AI g.Az:Int) then AH (CI g.Az d.2) λf=>AH (AC (QK d.1 ({BX:=f.BA,to_:=f.To:Ul}) AE)) λh=>AC (.k (h,i64.wrap (d.2+1)))else AC (.d d.1))
def G8(d:CA):AB Int:=AH (O6 n d) λj=>(bif (!j)then AC 2 else AH (Wv n d) λm=>(bif (!m)then AC 70 else AH (Pg n d) λq=>(bif (!q)then AC 71 else AH (WE n d.BN) λf=>(bif (f != 0)then AC f else AH (iter (OJ n d) n ([],0):AB (AA (Ul×Bool))) λg=>AH (WG n d.AP d g) λh=>(bif (!h)then AC 72 else AC 0)))))
instance k_d(y:CA):Ks (G8 n y) 87 [.a (CA.c y)] [] (λr=>I r):=by
 refine Kg 11 func87 Z Z Z Z λr h=>Cz [] h Kc Z λR J h=>Go 4 Z (Cn Z h (λ_ h=>?_) (λ_ h=>?_))
 .exact au h
 refine Gc 3 Z (Cz [] h Kc Z λT L h=>Go 4 Z (Cn Z h (λ_ h=>?_) (λ_ h=>?_)))
 .exact au h
 refine Gc 3 Z (Cz [] h Kc Z λV M h=>Go 4 Z (Cn Z h (λ_ h=>?_) (λ_ h=>?_)))
 .exact au h
 refine Gc 8 Z (Cz [] h Kc Z λW N h=>Go 9 Z (Cn Z h (λ_ h=>?_) (λ_ h=>?_)))
 .exact au h
 refine Gc 4 Z (vH Yl ?_);refine Fg 9 Z Z (Lg 3 Z Z (Bd h λg H h=>Cg g [0,1,2] [1] (λ_=>[(3,.p 1 0)]) (λg=>[(1,.c 292 [.map 2]),(2,.map (Qo (λx=>A.a (Ul.c x)) A.b g))]) Zf ?_ ?_))
 .refine G0 1 Z (Lp [0,2,1] [1,3,26,27] (λf=>[(28,I f.2)]) (λf=>[(1,.c 292 [.map 2]),(2,.map (Qo (λx=>A.a (Ul.c x)) A.b f.1))]) H Zf (Lr [0,2,1]) λf O d j=>?_);refine G0 6 Z (Q5 Z d (λ_ d=>?_) (λ_ d=>?_))
  .exact Je j d
  refine Gc 6 Z (Bd d λP q d=>Iz q Z (Go 12 Z (Bd d λQ t d=>?_)));exact vU (Yh dt t Z Gv) (Fg 7 Z Z (QZ d (Lr [0,1,2])))
 exact au h
def IF(n:Nat)(d:Int):AB Bool:=AH ((bif (-1099511627776)<=d then AC (AG (d<=1099511627776))else AC AD):AB Bool) λf=>AC f
instance zo(d:Int):Ks (IF n d) 119 [I d] [] (λr=>.b r):=KA func119
def PI(n:Nat)(d:Int):AB Unit:=AC ()
instance yN(d:Int):Ks (PI n d) 117 [I d] [] (λ_=>.b (d != d)):=KA func117
def Km(f:Int)(d:Int):AB Int:=AH (PI n f) λg=>AH (PI n d) λh=>(bif (f != f)then(bif (d != d)then AC 0 else AC (-1))else(bif (d != d)then AC 1 else(bif f<d then AC (-1)else(bif d<f then AC 1 else AC 0))))
instance k_t(d:Int)(f:Int):Ks (Km n d f) 60 [I d,I f] [] (λr=>I r):=KA func60
def IB(n:Nat)(g:AA Int)(d:Int):AB (CF Int (CF Unit Int)):=(bif d<(AI g:Int) then AH (CI g d) λf=>(bif (f != 0)then AC (.d (.d f))else AC (.k (i64.wrap (d+1))))else AC (.d (.k ())))
def J3(f:AA Int):AB Int:=AH (iter (IB n f) n 0:AB (CF Unit Int)) λg=>match g with|.k d=>(AC 0)|.d d=>AC d
instance za(d:AA Int):Ks (J3 n d) 59 [.q 1 (map eI d)] [] (λr=>I r):=KA func59
def Wr(d:Ua)(f:Ua):AB Int:=AH (Km n d.mat f.mat) λg=>AH (Km n d.BS f.BS) λh=>AH (J3 n [g,h]) λj=>AC j
instance xG(d:Ua)(f:Ua):Ks (Wr n d f) 193 [.a [I d.mat,I d.BS],.a [I f.mat,I f.BS]] [] (λr=>I r):=KA func193
def Mi(d:CC)(f:CC):AB Int:=AH (Wr n ({mat:=d.Al,BS:=d.Ag:Ua}) ({mat:=f.Al,BS:=f.Ag:Ua})) λg=>AC g
instance zF(d:CC)(f:CC):Ks (Mi n d f) 120 [.a (CC.c d),.a (CC.c f)] [] (λr=>I r):=KA func120
def Of(n:Nat)(d:Int):AB Bool:=AH ((bif d<(-2199023255552) then AC AE else AC (AG (2199023255552<d))):AB Bool) λf=>AC f
instance xg(d:Int):Ks (Of n d) 122 [I d] [] (λr=>.b r):=KA func122
def oC(f:AA Int)(d:Int):AB (CF Int (CF Unit Int)):=(bif d<(AI f:Int) then AH (CI f d) λg=>AH (Of n g) λh=>(bif h then AC (.d (.d d))else AC (.k (i64.wrap (d+1))))else AC (.d (.k ())))
def V_(g:AA Int):AB Int:=AH (iter (oC n g) n 0:AB (CF Unit Int)) λf=>match f with|.k d=>(AC (-1))|.d d=>AC d
instance wP(d:AA Int):Ks (V_ n d) 194 [.q 1 (map eI d),.f 122] [] (λr=>I r):=KA func194
end Go.Sw
