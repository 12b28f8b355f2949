/- What the functions compute that OutcomeGun reaches, and that their calls refine it (part 1 of 6). -/
import Derived.Test.YtbiglpikpigidaaGreatW23GuB
import Derived.Test.YtbiglpikpigidaaGreatV23Gu
set_option linter.unusedVariables false
set_option linter.unusedSimpArgs false
set_option maxRecDepth 100000
set_option maxHeartbeats 4000000
namespace Go.Sw
open Option renaming some→AC,none→AF,bind→AH
open Bool renaming false→AD,true→AE
open Decidable renaming decide→AG
open List renaming length→AI
variable (n:Nat)
open List(map)
open Int(toNat)
open Go.IntKind(i64 u64 u8)
open Go.Proofs Tryz
def ez(n:Nat)(d:Int):AB (AA AN):=AH ((bif 0<d then AC [{Al:=1,B_:=1,Bu:=d:CO}]else AC []):AB (AA CO)) λf=>AC [{An:=[100],Af:=[UA,{UA with Al:=1:CH}],A9:=1,Aq:=f,Am:=(-1):AN}]
instance ve(g:Int):Kq (ez n g) 64 [I g] [] (λr=>.a [.str [99],.o 0 ([{An:=[115],AX:=1:Al},{An:=[101],AX:=3:Al}].length) 2,.o 1 ([{BA:=0,To:=1,Bo:=10,Br:=1000:Cr}].length) 4,.o 2 (AI r) 5,.o 3 ([{An:=[119],Bv:=0:Aw}].length) 2,.q 4 (map AZ.c []),.q 3 (map AW.c []),.q 4 (map CQ.c []),.o 4 ([{UI with AX:=1,By:=4:AY}].length) 8,I 0,I 0,I 0,I 0,I 0,I 0,I 0]) (λr=>[.r 214 2 (map Al.c [{An:=[115],AX:=1:Al},{An:=[101],AX:=3:Al}]),.r 221 4 (map Cr.c [{BA:=0,To:=1,Bo:=10,Br:=1000:Cr}]),.r 66 5 (map AN.c r),.r 68 2 (map Aw.c [{An:=[119],Bv:=0:Aw}]),.r 257 8 (map AY.enc [{UI with AX:=1,By:=4:AY}]),.c 33 [.str [99],.o 0 ([{An:=[115],AX:=1:Al},{An:=[101],AX:=3:Al}].length) 2,.o 1 ([{BA:=0,To:=1,Bo:=10,Br:=1000:Cr}].length) 4,.o 2 (AI r) 5,.o 3 ([{An:=[119],Bv:=0:Aw}].length) 2,.q 4 (map AZ.c []),.q 3 (map AW.c []),.q 4 (map CQ.c []),.o 4 ([{UI with AX:=1,By:=4:AY}].length) 8,I 0,I 0,I 0,I 0,I 0,I 0,I 0]]):=by
 refine Kg 9 func64 Z Z Z Z λr h=>vH (Ek (xs:=[.tmp 4,.tmp 5]) cF Z Z Z Z Z ⟨Z,Z,trivial⟩ Z Z) ?_;refine Fg 12 Z Z (Bd h λf d h=>Cg f [0,2,1] [2,3] Ze (λf=>[(1,.c 66 [.str [100],.o 2 ([UA,{UA with Al:=1:CH}].length) 3,I 1,.q 3 (map CO.c f),I (-1)])]) Zf ?_ ?_)
 .refine G0 0 Z (Cn Z d (λ_ d=>?_) (λ_ d=>?_))
  .refine Gc 3 Z (vH (Ek (xs:=[.tmp 11]) cC Z Z Z Z Z ⟨Z,trivial⟩ Z Z) (Fg 3 Z Z ?_));cases d;exact En (Yl [(12,_)] Z Z (Cx.cons Z Ep Cx.nil) (Ec (Ec (Dm.cells (CW.k (CW.k (CW.k (Ed Ep (Ej _))))) (Ec (QU _)))))) (Lr [0,2,1])
  exact au d
 refine Gc 4 Z (vH (Ek (xs:=[.tmp 14,.tmp 15]) cI Z Z Z Z Z ⟨Z,Z,trivial⟩ Z Z) (Fg 1 Z Z (vH (Ek (xs:=[.tmp 17]) cH Z Z Z Z Z ⟨Z,trivial⟩ Z Z) ?_)));refine Fg 1 Z Z ?_;refine Et (Yl [(19,_)] Z Z (Cx.cons Z (DN.agg (CW.k (Ed Ep (Ej _)))) Cx.nil) (Ec (Dm.cells (CW.k (Ed Ep (Ej _))) (Ec (QU _))))) (vH (Ek (xs:=[.tmp 19]) cG Z Z Z Z Z ⟨Z,trivial⟩ Z Z) ?_);exact au h
def LK(n:Nat):AB Unit:=AC ()
instance f_:Kq (LK n) 22 [] [] (λ_=>.a [.q 3 (map CD.c []),.o 0 ([[0]].length) 1]) (λ_=>[.r 73 1 (map (Qu 1 eI) [[0]]),.c 39 [.q 3 (map CD.c []),.o 0 ([[0]].length) 1]]):=by
 refine Kg 7 func22 Z Z Z Z λr h=>vH (Ek (xs:=[.const (.int .i64 0)]) QF Z Z Z Z Z ⟨Z,trivial⟩ Z Z) ?_;refine Et (Yl [(1,_)] Z Z (Cx.cons Z Ep Cx.nil) (Ec (Ec (QU _)))) ?_;refine vH (Ek (xs:=[.tmp 1]) oX Z Z Z Z Z ⟨Z,trivial⟩ Z Z) (Fg 5 Z Z ?_);exact Rx [2,0] [0] Z (JQ Z (Yi isAgg39 sizeOf39 Z Z Z)) ⟨Z,Z⟩
def UQ(n:Nat)(f:AA CF)(d:Ui×Int):AB (CG (Ui×Int) Ui):=(bif d.2<(AI f:Int) then AH (CJ f d.2) λg=>AC (.k ({d.1 with BV:=i64.wrap (d.1.BV+g.Ax):Ui},i64.wrap (d.2+1)))else AC (.d d.1))
def Pg(f:CB)(g:CE)(h:AP)(j:AA CN)(m:AA Ae)(d:AA CF)(a7:Int):AB Ui:=AH (iter (UQ n d) n ({Ar:=f,Bj:=g,Ad:=h,Bw:=j,Bm:=m,BY:=d,BV:=0,As:=a7:Ui},0):AB Ui) λq=>AC q
instance yc(g:CB)(j:CE)(m:AP)(q:AA CN)(t:AA Ae)(x:AA CF)(a7:Int):Kq (Pg n g j m q t x a7) 31 [.a (CB.c g),.a (CE.c j),.a (AP.c m),.q 5 (map CN.c q),.q 4 (map Ae.c t),.q 4 (map CF.c x),I a7] [] (λr=>.a (Ui.c r)) (λr=>[.c 123 (Ui.c r)]):=by
 refine Kg 26 func31 Z Z Z Z λr h=>Lg 3 Z Z (Bd h λf E h=>Cg f [0,1] [] (λ_=>[(14,.p 0 0),(15,.p 1 0)]) (λf=>[(0,.c 123 (Ui.c FO)),(1,.c 123 (Ui.c f))]) Zf ?_ ?_)
 .refine G0 1 Z (Lp [3,4] [14,15,26,27] (λd=>[(28,I d.2)]) (λd=>[(1,.c 123 (Ui.c d.1))]) E Zf (Lr [3,4]) λd F y B=>?_);exact Je B y
 exact au h
def MI(n:Nat)(j:AA CH)(m:Int)(rec12:(AA CH)->Int->AB (Int×Int))(d:Int×Int×Int):AB (CG (Int×Int×Int) (Int×Int)):=(bif d.2.2<(AI j:Int) then AH (AH (CJ j d.2.2) λg=>AH ((bif ((AI g.Ac:Int)==0)then AC AE else(bif (m==0)then AC AE else AC (AG (256<d.2.1)))):AB Bool) λq=>(bif q then AC (d.1,d.2.1)else AH (rec12 g.Ac (i64.wrap (m-1))) λf=>AC ((if d.1<i64.wrap (f.1+1)then i64.wrap (f.1+1)else d.1),i64.wrap (d.2.1+f.2))):AB (Int×Int)) λh=>AC (.k (h.1,h.2,i64.wrap (d.2.2+1)))else AC (.d (d.1,d.2.1)))
def RD(rec12:(AA CH)->Int->AB (Int×Int))(n:Nat)(f:AA CH)(g:Int):AB (Int×Int):=AH (iter (MI n f g rec12) n (0,(AI f:Int),0):AB (Int×Int)) λd=>AC (d.1,d.2)
theorem QdD(rec12:(AA CH)->Int->AB (Int×Int))(F:∀(q:AA CH) (t:Int),Ks (rec12 q t) 222 [.q 3 (map CH.enc q),I t] [] (λr=>.t [I r.1,I r.2]))(n:Nat)(q:AA CH)(t:Int):Ks (RD rec12 n q t) 222 [.q 3 (map CH.enc q),I t] [] (λr=>.t [I r.1,I r.2]):=by
 refine Kg 9 func222 Z Z Z Z λr h=>Lg 7 Z Z (Lg 3 Z Z (Bd h λg G h=>Cg g [] [] (λg=>[(4,I g.1),(5,I g.2)]) Ze Zf ?_ ?_))
 .refine G0 1 Z (Lp [] [1,12,13] (λj=>[(4,I j.1),(5,I j.2.1),(14,I j.2.2)]) Ze G Zf (Lr []) λj L d y=>?_);refine G0 6 Z (Q8 Z d (λ_ d=>?_) (λ_ d=>?_))
  .exact Je y d
  refine Gc 3 Z (Bd d λm f d=>Cg m [] [1,12,13,14] (λm=>[(4,I m.1),(5,I m.2)]) Ze Zf ?_ ?_)
  .refine G0 3 Z (Bd f λH E f=>FW E (QN H) Z (Go 7 Z (Bd f λx J f=>Cg x [0] [1,4,5,7,12,13,14] (λx=>[(29,.b x)]) Ze Zf ?_ ?_)))
   .exact au J
   exact au f
  exact au d
 exact au h
def KO:Nat->(AA CH)->Int->AB (Int×Int)
  |0=>λ_ _=>AF
  |n+1=>RD (KO n) n
instance _G:∀(d:AA CH) (f:Int),Ks (KO n d f) 222 [.q 3 (map CH.enc d),I f] [] (λr=>.t [I r.1,I r.2]):=by
  induction n with
  |zero=>exact λ_ _=>⟨nofun⟩
  |succ n ih=>exact QdD _ ih n
def V2(h:CB)(d:Int):AB (CG Int (CG Unit Bool)):=(bif d<(AI h.AO:Int) then AH (CJ h.AO d) λf=>AH (KO n f.Af 17) λg=>AH ((bif 64<(AI f.Aq:Int) then AC AE else(bif 16<g.1 then AC AE else AC (AG (256<g.2)))):AB Bool) λj=>(bif j then AC (.d (.d AD))else AC (.k (i64.wrap (d+1))))else AC (.d (.k ())))
def PC(d:CB):AB Bool:=AH ((bif 40<(AI d.Av:Int) then AC AE else(bif 512<(AI d.A4:Int) then AC AE else(bif 8<(AI d.AO:Int) then AC AE else(bif 32<(AI d.Ap:Int) then AC AE else(bif 32<(AI d.Ab:Int) then AC AE else(bif 32<(AI d.AV:Int) then AC AE else AC (AG (32<(AI d.A3:Int))))))))):AB Bool) λh=>(bif h then AC AD else AH (iter (V2 n d) n 0:AB (CG Unit Bool)) λg=>match g with|.k f=>(AC AE)|.d f=>AC f)
instance x_(d:CB):Ks (PC n d) 154 [.a (CB.c d)] [] (λr=>.b r):=KA func154
def MJ(n:Nat)(d:(AA Int)×Int):AB (CG ((AA Int)×Int) (AA Int)):=(bif d.2<=122 then AH (L2 256 d.1 d.2) λh=>AH (JG d.1 d.2 2) λf=>AH (L2 256 f (u8.wrap (d.2-32))) λj=>AH (JG f (u8.wrap (d.2-32)) 2) λg=>AC (.k (g,u8.wrap (d.2+1)))else AC (.d d.1))
def OK(n:Nat)(d:(AA Int)×Int):AB (CG ((AA Int)×Int) (AA Int)):=(bif d.2<=57 then AH (L2 256 d.1 d.2) λg=>AH (JG d.1 d.2 3) λf=>AC (.k (f,u8.wrap (d.2+1)))else AC (.d d.1))
def U4(n:Nat)(d:(AA Int)×Int):AB (CG ((AA Int)×Int) (AA Int)):=(bif d.2<([123,125,40,41,91,93,59,44,61,60,62].length:Int) then AH (CJ [123,125,40,41,91,93,59,44,61,60,62] d.2) λf=>AH (L2 256 d.1 f) λh=>AH (JG d.1 f 4) λg=>AC (.k (g,i64.wrap (d.2+1)))else AC (.d d.1))
def ec(n:Nat)(d:(AA Int)×Int):AB (CG ((AA Int)×Int) (AA Int)):=(bif d.2<(([32,9,10,13].length):Int) then AH (CJ [32,9,10,13] d.2) λf=>AH (L2 256 d.1 f) λh=>AH (JG d.1 f 1) λg=>AC (.k (g,i64.wrap (d.2+1)))else AC (.d d.1))
def P0:AB (AA Int):=AH (iter (MJ n) n (List.replicate 256 0,97):AB (AA Int)) λf=>AH (iter (OK n) n (f,48):AB (AA Int)) λg=>AH (iter (U4 n) n (g,0):AB (AA Int)) λh=>AH (iter (ec n) n (h,0):AB (AA Int)) λd=>AH (Np 256 d) λj=>AH (Np 256 d) λq=>AH (Np 256 j) λm=>AC m
instance ja:Kq (P0 n) 325 [] [] (λr=>.a (List.flatten (map (Yq .u8) r))) (λr=>[.r 447 1 (map (Yq .u8) r)]):=by
 refine Kg 2 func325 Z Z Z Z λr h=>vH (uf (n:=256) (k:=1) (e:=(Yq .u8)) (z:=0) zeroValue447 (by kernel_rfl) (by kernel_rfl) (by kernel_rfl) Z) ?_;refine Fg 8 Z Z (Bd h λG an h=>Ct G [0] [0] Ze (λG=>[(0,.r 447 1 (map (Yq .u8) G))]) Zf ?_ (λenv H y=>?_))
 .refine G0 1 Z (Lp [0] [0] (λq=>[(1,.i .u8 q.2)]) (λq=>[(0,.r 447 1 (map (Yq .u8) q.1))]) an Zf (Lr [0]) λq az d W=>?_);refine G0 7 Z (Q8 Z d (λ_ d=>?_) (λ_ d=>?_))
  .exact Je W d
  refine Gc 8 Z (Bd d λba J d=>?_);refine vX (.p 0 (toNat q.2*1)) (Zu (n:=256) (k:=1) (l:=q.1) J E9 Ga Z) ?_;refine Bd d λao Y d=>?_;refine vU (Yp (e:=(Yq .u8)) (k:=1) (f:=0) (S8 J).2 Y Ga Z Z) ?_;refine FE Z (Bd d λbb L d=>?_);refine vX (.p 0 (toNat (u8.wrap (q.2-32))*1)) (Zu (n:=256) (k:=1) (l:=ao) L E9 Ga Z) ?_;refine Bd d λbc aa d=>?_;refine vU (Yp (e:=(Yq .u8)) (k:=1) (f:=0) (S8 L).2 aa Ga Z Z) ?_;exact au d
 refine Gx 1 Z (Ee y (Gc 6 Z (Bd h λM aq h=>Ct M [0] [0] Ze (λM=>[(0,.r 447 1 (map (Yq .u8) M))]) Zf ?_ (λenv H y=>?_))))
 .refine G0 1 Z (Lp [0] [0] (λt=>[(2,.i .u8 t.2)]) (λt=>[(0,.r 447 1 (map (Yq .u8) t.1))]) aq Zf (Lr [0]) λt bd m ab=>?_);refine G0 7 Z (Q8 Z m (λ_ m=>?_) (λ_ m=>?_))
  .exact Je ab m
  refine Gc 6 Z (Bd m λbe N m=>?_);refine vX (.p 0 (toNat t.2*1)) (Zu (n:=256) (k:=1) (l:=t.1) N E9 Ga Z) ?_;refine Bd m λbg ad m=>?_;refine vU (Yp (e:=(Yq .u8)) (k:=1) (f:=0) (S8 N).2 ad Ga Z Z) ?_;exact au m
 refine Gx 1 Z (Ee y (Gc 3 Z (vH (Ek (xs:=[.const (.int .u8 123),.const (.int .u8 125),.const (.int .u8 40),.const (.int .u8 41),.const (.int .u8 91),.const (.int .u8 93),.const (.int .u8 59),.const (.int .u8 44),.const (.int .u8 61),.const (.int .u8 60),.const (.int .u8 62)]) (es:=map (Yq .u8) [123,125,40,41,91,93,59,44,61,60,62]) N9 Z Z Z Z Z ⟨Z,Z,Z,Z,Z,Z,Z,Z,Z,Z,Z,trivial⟩ Z Z) ?_)));refine FE Z (vH (QmZ (es:=map (Yq .u8) [123,125,40,41,91,93,59,44,61,60,62]) underlying279 underlying5 (X0 ..) Z) ?_);refine FE Z (Lg 3 Z Z (Bd h λO ar h=>Ct O [0] [0] Ze (λO=>[(0,.r 447 1 (map (Yq .u8) O))]) Zf ?_ (λenv H y=>?_)))
 .refine G0 1 Z (Lp [0] [0,23,24] (λB=>[(25,I B.2)]) (λB=>[(0,.r 447 1 (map (Yq .u8) B.1))]) ar Zf (Lr [0]) λB bh g ae=>?_);refine G0 6 Z (Q8 Z g (λ_ g=>?_) (λ_ g=>?_))
  .exact Je ae g
  refine Gc 6 Z (Bd g λav ag g=>Iz ag Z (Go 6 Z (Bd g λbi P g=>?_)));refine vX (.p 0 (toNat av*1)) (Zu (n:=256) (k:=1) (l:=B.1) P E9 Ga Z) ?_;refine Bd g λbj ah g=>?_;refine vU (Yp (e:=(Yq .u8)) (k:=1) (f:=0) (S8 P).2 ah Ga Z Z) ?_;exact au g
 refine Gx 1 Z (Ee y (Gc 3 Z (vH (Ek (xs:=[.const (.int .u8 32),.const (.int .u8 9),.const (.int .u8 10),.const (.int .u8 13)]) (es:=map (Yq .u8) [32,9,10,13]) N9 Z Z Z Z Z ⟨Z,Z,Z,Z,trivial⟩ Z Z) ?_)));refine Fg 4 Z Z (Bd h λF aw h=>Cg F [0] [0] Ze (λF=>[(0,.r 447 1 (map (Yq .u8) F))]) Zf ?_ ?_)
 .refine G0 1 Z (Lp [0,1] [0,32,33] (λx=>[(34,I x.2)]) (λx=>[(0,.r 447 1 (map (Yq .u8) x.1))]) aw Zf (Lr [0,1]) λx bk j ai=>?_);refine G0 6 Z (Q8 Z j (λ_ j=>?_) (λ_ j=>?_))
  .exact Je ai j
  refine Gc 6 Z (Bd j λV Q j=>?_);refine vX (.p 1 (toNat x.2*1)) (Qd Q Z EX Ga) ?_;refine vX (.i .u8 V) (Ez Z isAgg5 Z (Qh Q)) ?_;refine Go 5 Z (Bd j λbl R j=>?_);refine vX (.p 0 (toNat V*1)) (Zu (n:=256) (k:=1) (l:=x.1) R E9 Ga Z) ?_;refine Bd j λbm ak j=>?_;refine vU (Yp (e:=(Yq .u8)) (k:=1) (f:=0) (S8 R).2 ak Ga Z Z) ?_;exact au j
 refine Gc 2 Z (Bd h λax al h=>?_);refine vX (.a (List.flatten (map (Yq .u8) ax))) (Qju (e:=(Yq .u8)) al Zf Z isAgg447 G3) ?_;refine Bd h λbn am h=>Bd h λay E h=>?_;obtain⟨T,rfl⟩:=S3 am;refine vU (ug (e:=(Yq .u8)) (l:=F) (l':=ay) T (k9 E) Zf Z G3 Zf Zf (congrArg (λl=>List.flatten (map (Yq .u8) l)) (S3 E).2.symm)) ?_;refine Fg 3 Z Z ?_;obtain rfl:=Oi h;exact Rx [0] [0] Z (JQ Z (QmO (e:=(Yq .u8)) (k9 E) Zf Z isAgg447 G3)) ⟨Z,Z⟩
def VQ(n:Nat)(g:AA UInt8)(q:AA Int)(d:Int):AB (CG Int (CG Unit Bool)):=(bif d<(AI g:Int) then AH (CJ g d) λh=>AH (L2 256 q (h.toNat:Int)) λf=>AH ((bif (f != 2)then(bif (d==0)then AC AE else(bif (f != 3)then AH (CJ g d) λj=>AC ((j.toNat:Int) != 95)else AC AD))else AC AD):AB Bool) λm=>(bif m then AC (.d (.d AD))else AC (.k (i64.wrap (d+1))))else AC (.d (.k ())))
def Po(f:AA UInt8):AB Bool:=AH (P0 n) λh=>AH (Np 256 (List.replicate 256 0)) λm=>AH (Np 256 h) λj=>AH (iter (VQ n f j) n 0:AB (CG Unit Bool)) λg=>match g with|.k d=>(AC (f != []))|.d d=>AC d
instance yj(y:AA UInt8):Ks (Po n y) 312 [.str y] [] (λr=>.b r):=by
 refine Kg 7 func312 Z Z Z Z λr h=>Bd h λP B h=>?_;refine Qg [] (C8.fn call325 Z Z Z) ((ja _).c _ B) ?_;rintro _ _ ⟨rfl,rfl⟩;refine N8 (Qqe (e:=(Yq .u8)) Zf _ _) Z ?_;refine vH (uf (n:=256) (k:=1) (e:=(Yq .u8)) (z:=0) zeroValue447 (by kernel_rfl) (by kernel_rfl) (by kernel_rfl) Z) ?_;refine FE Z (Bd h λQ E h=>Bd h λF j h=>?_);obtain⟨q,rfl⟩:=S3 E;refine vU (ug (e:=(Yq .u8)) (l:=(List.replicate 256 0)) (l':=F) q (k9 j) Zf Z G3 Zf Zf (congrArg (λl=>List.flatten (map (Yq .u8) l)) (S3 j).2.symm)) ?_;refine Fg 6 Z Z ?_;refine vV (uA Z Z Gh Z) ?_;refine Go 3 Z (Bd h λG H h=>E_ (b:=G) [] [0] Ze Ze Zf ?_ (λ_ J=>?_))
 .refine G0 1 Z (Lp [1] [0,3,8] (λm=>[(9,I m)]) Ze H Zf (Lr [1]) λm O d f=>?_);refine G0 6 Z (Q8 Z d (λ_ d=>?_) (λ_ d=>?_))
  .exact Je f d
  refine Gc 14 Z (Bd d λL x d=>?_);refine vX (.i .u8 (L.toNat:Int)) (uD x Gh) ?_;refine Bd d λM g d=>?_;refine vV (Zu (n:=256) (k:=1) (l:=F) g E9 Ga Z) ?_;refine vX (.i .u8 M) (Ez Z isAgg5 Z (Qh (S8 g).2)) ?_;exact DX f d h
 subst J;exact au h
def Wy(d:AA UInt8):AB Bool:=AH (AH (Po n d) λj=>(bif j then AH (cat [32] d) λf=>AH (cat f [32]) λg=>AH (dR [32,99,111,117,114,115,101,32,109,97,116,115,32,115,116,97,114,116,32,112,97,115,115,32,101,110,100,32,108,101,103,32,116,111,32,100,105,115,116,97,110,99,101,32,103,117,110,32,99,104,105,112,32,115,108,111,116,32,108,97,112,115,32,108,97,112,32,99,117,116,111,102,102,32,101,120,116,114,97,32,119,97,118,101,32,111,102,102,101,110,99,101,32,111,117,116,32,99,97,116,101,103,111,114,121,32,112,114,105,122,101,32,97,108,108,32,116,105,101,115,32,105,102,32,101,108,115,101,32,97,110,100,32,111,114,32,110,111,116,32,111,108,100,101,114,32,121,111,117,110,103,101,114,32,98,105,98,32,100,114,97,119,32,102,105,101,108,100,32,115,104,111,114,116,32,102,97,117,108,116,115,32,109,105,115,115,101,115,32,115,116,114,97,121,115,32,119,105,110,100,111,119,32,114,101,115,105,100,117,97,108,32,100,114,105,102,116,32,112,114,111,116,101,115,116,32,102,101,101,32,100,101,97,100,108,105,110,101,32] g) λh=>AC h else AC AD):AB Bool) λm=>AC m
instance xN(q:AA UInt8):Ks (Wy n q) 282 [.str q] [] (λr=>.b r):=by
 refine Kg 6 func282 Z Z Z Z λr h=>Bd h λf d h=>Cg f [] [] (λf=>[(2,.b f)]) Ze Zf ?_ ?_
 .refine G0 2 Z (Cz [] d Kc Z λF x d=>Go 1 Z (Is 5 d Z (λ_ d=>?_) (λ_ d=>?_)))
  .refine Go 1 Z (Bd d λy g d=>?_);refine vV (uC g) (Bd d λB j d=>?_) (gT Z);refine vV (uC j) (Bd d λE m d=>?_) (gT Z);refine Qg [] (C8.fn call313 Z Z Z) (C.contains QdG Z m) ?_ (hg:=(gT Z));rintro _ _ ⟨rfl,rfl⟩;exact au d
  exact au d
 exact au h
def OM(n:Nat)(g:AA UInt8)(f:Int):AB (CG Int (CG Unit Bool)):=(bif f<(AI g:Int) then AH (CJ g f) λd=>AH ((bif (d.toNat:Int)<97 then(bif (d.toNat:Int)<48 then AC ((d.toNat:Int) != 95)else(bif 57<(d.toNat:Int) then AC ((d.toNat:Int) != 95)else AC AD))else(bif 122<(d.toNat:Int) then(bif (d.toNat:Int)<48 then AC ((d.toNat:Int) != 95)else(bif 57<(d.toNat:Int) then AC ((d.toNat:Int) != 95)else AC AD))else AC AD)):AB Bool) λh=>(bif h then AC (.d (.d AD))else AC (.k (i64.wrap (f+1))))else AC (.d (.k ())))
def HN(d:AA UInt8):AB Bool:=AH ((bif (AI d:Int)<1 then AC AE else(bif 24<(AI d:Int) then AC AE else AH (CJ d 0) λg=>(bif (g.toNat:Int)<97 then AC AE else AH (CJ d 0) λh=>AC (AG (122<(h.toNat:Int)))))):AB Bool) λq=>(bif q then AC AD else AH (iter (OM n d) n 0:AB (CG Unit Bool)) λj=>match j with|.k f=>(AH (Wy n d) λm=>AC (!m))|.d f=>AC f)
instance _D(d:AA UInt8):Ks (HN n d) 223 [.str d] [] (λr=>.b r):=KA func223
def WN(n:Nat)(d:Al):AB Unit:=AC ()
instance wZ(d:Al):Ks (WN n d) 225 [.a (Al.c d)] [] (λ_=>.str d.An):=KA func225
def nL(g:AA Al)(d:(AA (AA UInt8×Bool))×Int):AB (CG ((AA (AA UInt8×Bool))×Int) (CG Unit Bool)):=(bif d.2<(AI g:Int) then AH (CJ g d.2) λf=>AH (WN n f) λt=>AH (AH (HN n f.An) λh=>(bif (!h)then AC AE else AH (AC (Qm d.1 f.An AD)) λj=>AC j):AB Bool) λm=>(bif m then AC (.d (.d AD))else AH (AC (QK d.1 f.An AE)) λq=>AC (.k (q,i64.wrap (d.2+1))))else AC (.d (.k ())))
def Wb(g:AA Al):AB Bool:=AH (iter (nL n g) n ([],0):AB (CG Unit Bool)) λf=>match f with|.k d=>(AC AE)|.d d=>AC d
instance wx(F:AA Al):Ks (Wb n F) 224 [.q 2 (map Al.c F),.f 225] [] (λr=>.b r):=by
 refine Kg 7 func224 Z Z Z Z λr h=>vH Yj ?_;refine Fg 7 Z Z (Lg 3 Z Z (Bd h λG H h=>E_ (b:=G) [] [] Ze Ze Zf ?_ (λ_ J=>?_)))
 .refine G0 1 Z (Lp [0] [1,5,10,11] (λg=>[(12,I g.2)]) (λg=>[(0,.map (Qn A.str A.b g.1))]) H Zf (Lr [0]) λg O d j=>?_);refine G0 6 Z (Q8 Z d (λ_ d=>?_) (λ_ d=>?_))
  .exact Je j d
  refine Gc 6 Z (Bd d λP t d=>Iz t Z (Go 9 Z (Cz [] d Kc Z λQ M d=>Go 5 Z (Bd d λm f d=>Cg m [0] [1,5,8,10,11,12] (λm=>[(26,.b m)]) Ze Zf ?_ ?_))))
  .refine G0 2 Z (Cz [] f Kc Z λR N f=>Go 2 Z (Is 22 f Z (λ_ f=>?_) (λ_ f=>?_)))
   .exact au f
   .refine Go 2 Z (Bd f λT y f=>(vV (Q7 L_ y E0 E7 ZR.bool) ?_ (gT Z)));exact au f
  refine Cn Z d (λ_ d=>?_) (λ_ d=>?_)
  .exact DX j d h
  refine Gc 5 Z (Bd d λV E d=>(vU (Yf L_ E Z E0) ?_));exact au d
 subst J;exact au h
def Wl(n:Nat)(d:AN):AB Unit:=AC ()
instance xB(d:AN):Ks (Wl n d) 227 [.a (AN.c d)] [] (λ_=>.str d.An):=KA func227
def nN(g:AA AN)(d:(AA (AA UInt8×Bool))×Int):AB (CG ((AA (AA UInt8×Bool))×Int) (CG Unit Bool)):=(bif d.2<(AI g:Int) then AH (CJ g d.2) λf=>AH (Wl n f) λt=>AH (AH (HN n f.An) λh=>(bif (!h)then AC AE else AH (AC (Qm d.1 f.An AD)) λj=>AC j):AB Bool) λm=>(bif m then AC (.d (.d AD))else AH (AC (QK d.1 f.An AE)) λq=>AC (.k (q,i64.wrap (d.2+1))))else AC (.d (.k ())))
def WT(g:AA AN):AB Bool:=AH (iter (nN n g) n ([],0):AB (CG Unit Bool)) λf=>match f with|.k d=>(AC AE)|.d d=>AC d
instance wk(F:AA AN):Ks (WT n F) 226 [.q 5 (map AN.c F),.f 227] [] (λr=>.b r):=by
 refine Kg 7 func226 Z Z Z Z λr h=>vH Yj ?_;refine Fg 7 Z Z (Lg 3 Z Z (Bd h λG H h=>E_ (b:=G) [] [] Ze Ze Zf ?_ (λ_ J=>?_)))
 .refine G0 1 Z (Lp [0] [1,5,10,11] (λg=>[(12,I g.2)]) (λg=>[(0,.map (Qn A.str A.b g.1))]) H Zf (Lr [0]) λg O d j=>?_);refine G0 6 Z (Q8 Z d (λ_ d=>?_) (λ_ d=>?_))
  .exact Je j d
  refine Gc 6 Z (Bd d λP t d=>Iz t Z (Go 9 Z (Cz [] d Kc Z λQ M d=>Go 5 Z (Bd d λm f d=>Cg m [0] [1,5,8,10,11,12] (λm=>[(26,.b m)]) Ze Zf ?_ ?_))))
  .refine G0 2 Z (Cz [] f Kc Z λR N f=>Go 2 Z (Is 22 f Z (λ_ f=>?_) (λ_ f=>?_)))
   .exact au f
   .refine Go 2 Z (Bd f λT y f=>(vV (Q7 L_ y E0 E7 ZR.bool) ?_ (gT Z)));exact au f
  refine Cn Z d (λ_ d=>?_) (λ_ d=>?_)
  .exact DX j d h
  refine Gc 5 Z (Bd d λV E d=>(vU (Yf L_ E Z E0) ?_));exact au d
 subst J;exact au h
def WE(n:Nat)(d:Aw):AB Unit:=AC ()
instance wR(d:Aw):Ks (WE n d) 229 [.a (Aw.c d)] [] (λ_=>.str d.An):=KA func229
def nM(g:AA Aw)(d:(AA (AA UInt8×Bool))×Int):AB (CG ((AA (AA UInt8×Bool))×Int) (CG Unit Bool)):=(bif d.2<(AI g:Int) then AH (CJ g d.2) λf=>AH (WE n f) λt=>AH (AH (HN n f.An) λh=>(bif (!h)then AC AE else AH (AC (Qm d.1 f.An AD)) λj=>AC j):AB Bool) λm=>(bif m then AC (.d (.d AD))else AH (AC (QK d.1 f.An AE)) λq=>AC (.k (q,i64.wrap (d.2+1))))else AC (.d (.k ())))
def V7(g:AA Aw):AB Bool:=AH (iter (nM n g) n ([],0):AB (CG Unit Bool)) λf=>match f with|.k d=>(AC AE)|.d d=>AC d
instance wI(F:AA Aw):Ks (V7 n F) 228 [.q 2 (map Aw.c F),.f 229] [] (λr=>.b r):=by
 refine Kg 7 func228 Z Z Z Z λr h=>vH Yj ?_;refine Fg 7 Z Z (Lg 3 Z Z (Bd h λG H h=>E_ (b:=G) [] [] Ze Ze Zf ?_ (λ_ J=>?_)))
 .refine G0 1 Z (Lp [0] [1,5,10,11] (λg=>[(12,I g.2)]) (λg=>[(0,.map (Qn A.str A.b g.1))]) H Zf (Lr [0]) λg O d j=>?_);refine G0 6 Z (Q8 Z d (λ_ d=>?_) (λ_ d=>?_))
  .exact Je j d
  refine Gc 6 Z (Bd d λP t d=>Iz t Z (Go 9 Z (Cz [] d Kc Z λQ M d=>Go 5 Z (Bd d λm f d=>Cg m [0] [1,5,8,10,11,12] (λm=>[(26,.b m)]) Ze Zf ?_ ?_))))
  .refine G0 2 Z (Cz [] f Kc Z λR N f=>Go 2 Z (Is 22 f Z (λ_ f=>?_) (λ_ f=>?_)))
   .exact au f
   .refine Go 2 Z (Bd f λT y f=>(vV (Q7 L_ y E0 E7 ZR.bool) ?_ (gT Z)));exact au f
  refine Cn Z d (λ_ d=>?_) (λ_ d=>?_)
  .exact DX j d h
  refine Gc 5 Z (Bd d λV E d=>(vU (Yf L_ E Z E0) ?_));exact au d
 subst J;exact au h
def WS(n:Nat)(d:AZ):AB Unit:=AC ()
instance wj(d:AZ):Ks (WS n d) 231 [.a (AZ.c d)] [] (λ_=>.str d.An):=KA func231
def nh(g:AA AZ)(d:(AA (AA UInt8×Bool))×Int):AB (CG ((AA (AA UInt8×Bool))×Int) (CG Unit Bool)):=(bif d.2<(AI g:Int) then AH (CJ g d.2) λf=>AH (WS n f) λt=>AH (AH (HN n f.An) λh=>(bif (!h)then AC AE else AH (AC (Qm d.1 f.An AD)) λj=>AC j):AB Bool) λm=>(bif m then AC (.d (.d AD))else AH (AC (QK d.1 f.An AE)) λq=>AC (.k (q,i64.wrap (d.2+1))))else AC (.d (.k ())))
def WA(g:AA AZ):AB Bool:=AH (iter (nh n g) n ([],0):AB (CG Unit Bool)) λf=>match f with|.k d=>(AC AE)|.d d=>AC d
instance wN(F:AA AZ):Ks (WA n F) 230 [.q 4 (map AZ.c F),.f 231] [] (λr=>.b r):=by
 refine Kg 7 func230 Z Z Z Z λr h=>vH Yj ?_;refine Fg 7 Z Z (Lg 3 Z Z (Bd h λG H h=>E_ (b:=G) [] [] Ze Ze Zf ?_ (λ_ J=>?_)))
 .refine G0 1 Z (Lp [0] [1,5,10,11] (λg=>[(12,I g.2)]) (λg=>[(0,.map (Qn A.str A.b g.1))]) H Zf (Lr [0]) λg O d j=>?_);refine G0 6 Z (Q8 Z d (λ_ d=>?_) (λ_ d=>?_))
  .exact Je j d
  refine Gc 6 Z (Bd d λP t d=>Iz t Z (Go 9 Z (Cz [] d Kc Z λQ M d=>Go 5 Z (Bd d λm f d=>Cg m [0] [1,5,8,10,11,12] (λm=>[(26,.b m)]) Ze Zf ?_ ?_))))
  .refine G0 2 Z (Cz [] f Kc Z λR N f=>Go 2 Z (Is 22 f Z (λ_ f=>?_) (λ_ f=>?_)))
   .exact au f
   .refine Go 2 Z (Bd f λT y f=>(vV (Q7 L_ y E0 E7 ZR.bool) ?_ (gT Z)));exact au f
  refine Cn Z d (λ_ d=>?_) (λ_ d=>?_)
  .exact DX j d h
  refine Gc 5 Z (Bd d λV E d=>(vU (Yf L_ E Z E0) ?_));exact au d
 subst J;exact au h
def Wk(n:Nat)(d:AW):AB Unit:=AC ()
instance xA(d:AW):Ks (Wk n d) 233 [.a (AW.c d)] [] (λ_=>.str d.An):=KA func233
def nC(g:AA AW)(d:(AA (AA UInt8×Bool))×Int):AB (CG ((AA (AA UInt8×Bool))×Int) (CG Unit Bool)):=(bif d.2<(AI g:Int) then AH (CJ g d.2) λf=>AH (Wk n f) λt=>AH (AH (HN n f.An) λh=>(bif (!h)then AC AE else AH (AC (Qm d.1 f.An AD)) λj=>AC j):AB Bool) λm=>(bif m then AC (.d (.d AD))else AH (AC (QK d.1 f.An AE)) λq=>AC (.k (q,i64.wrap (d.2+1))))else AC (.d (.k ())))
def WU(g:AA AW):AB Bool:=AH (iter (nC n g) n ([],0):AB (CG Unit Bool)) λf=>match f with|.k d=>(AC AE)|.d d=>AC d
instance wm(F:AA AW):Ks (WU n F) 232 [.q 3 (map AW.c F),.f 233] [] (λr=>.b r):=by
 refine Kg 7 func232 Z Z Z Z λr h=>vH Yj ?_;refine Fg 7 Z Z (Lg 3 Z Z (Bd h λG H h=>E_ (b:=G) [] [] Ze Ze Zf ?_ (λ_ J=>?_)))
 .refine G0 1 Z (Lp [0] [1,5,10,11] (λg=>[(12,I g.2)]) (λg=>[(0,.map (Qn A.str A.b g.1))]) H Zf (Lr [0]) λg O d j=>?_);refine G0 6 Z (Q8 Z d (λ_ d=>?_) (λ_ d=>?_))
  .exact Je j d
  refine Gc 6 Z (Bd d λP t d=>Iz t Z (Go 9 Z (Cz [] d Kc Z λQ M d=>Go 5 Z (Bd d λm f d=>Cg m [0] [1,5,8,10,11,12] (λm=>[(26,.b m)]) Ze Zf ?_ ?_))))
  .refine G0 2 Z (Cz [] f Kc Z λR N f=>Go 2 Z (Is 22 f Z (λ_ f=>?_) (λ_ f=>?_)))
   .exact au f
   .refine Go 2 Z (Bd f λT y f=>(vV (Q7 L_ y E0 E7 ZR.bool) ?_ (gT Z)));exact au f
  refine Cn Z d (λ_ d=>?_) (λ_ d=>?_)
  .exact DX j d h
  refine Gc 5 Z (Bd d λV E d=>(vU (Yf L_ E Z E0) ?_));exact au d
 subst J;exact au h
def Wx(d:CB):AB Bool:=AH (AH (HN n d.An) λf=>(bif f then AH (Wb n d.Av) λg=>(bif g then AH (WT n d.AO) λh=>(bif h then AH (V7 n d.Ap) λj=>(bif j then AH (WA n d.Ab) λm=>(bif m then AH (WU n d.AV) λq=>AC q else AC AD)else AC AD)else AC AD)else AC AD)else AC AD):AB Bool) λt=>AC t
instance xM(d:CB):Ks (Wx n d) 155 [.a (CB.c d)] [] (λr=>.b r):=KA func155
def WX(n:Nat)(d:Int)(f:Int)(g:Int):AB Bool:=AH ((bif d<f then AC AE else AC (AG (g<d))):AB Bool) λh=>AC h
instance ws(d:Int)(f:Int)(g:Int):Ks (WX n d f g) 283 [I d,.p 0 0,.p 1 0] [.c 3 [I f],.c 3 [I g]] (λr=>.b r):=KA func283
def nX(f:AA Int)(j:Int)(m:Int)(d:Int):AB (CG Int (CG Unit Int)):=(bif d<(AI f:Int) then AH (CJ f d) λg=>AH (WX n g j m) λh=>(bif h then AC (.d (.d d))else AC (.k (i64.wrap (d+1))))else AC (.d (.k ())))
def fM(g:AA Int)(h:Int)(j:Int):AB Int:=AH (iter (nX n g h j) n 0:AB (CG Unit Int)) λf=>match f with|.k d=>(AC (-1))|.d d=>AC d
instance v8(d:AA Int)(f:Int)(g:Int):Ks (fM n d f g) 194 [.q 1 (map eI d),.fn (.func 283) [] [.p 0 0,.p 1 0]] [.c 3 [I f],.c 3 [I g]] (λr=>I r):=KA func194
def Wv(d:AA Int)(f:Int)(g:Int):AB Bool:=AH (fM n d f g) λh=>AC (AG (0<=h))
instance xK(d:AA Int)(f:Int)(g:Int):Ks (Wv n d f g) 121 [.q 1 (map eI d),.fn (.func 283) [] [.p 0 0,.p 1 0]] [.c 3 [I f],.c 3 [I g]] (λr=>.b r):=KA func121
def FS(d:Int)(f:Int)(g:AA Int):AB Bool:=AH (Wv n g d f) λh=>AC (!h)
instance k_b(d:Int)(f:Int)(g:AA Int):Ks (FS n d f g) 235 [I d,I f,.q 1 (map eI g)] [] (λr=>.b r):=KA func235
def Oe(d:Al):AB Bool:=AH (FS n 1 3 [d.AX]) λf=>AC f
instance xW(d:Al):Ks (Oe n d) 244 [.a (Al.c d)] [] (λr=>.b r):=KA func244
def fG(d:Al):AB Bool:=AH (Oe n d) λf=>AC (!f)
instance vv(d:Al):Ks (fG n d) 289 [.a (Al.c d),.p 0 0] [.c 380 [.f 244]] (λr=>.b r):=KA func289
def nK(f:AA Al)(d:Int):AB (CG Int (CG Unit Int)):=(bif d<(AI f:Int) then AH (CJ f d) λg=>AH (fG n g) λh=>(bif h then AC (.d (.d d))else AC (.k (i64.wrap (d+1))))else AC (.d (.k ())))
def WZ(g:AA Al):AB Int:=AH (iter (nK n g) n 0:AB (CG Unit Int)) λf=>match f with|.k d=>(AC (-1))|.d d=>AC d
instance wu(d:AA Al):Ks (WZ n d) 316 [.q 2 (map Al.c d),.fn (.func 289) [] [.p 0 0]] [.c 380 [.f 244]] (λr=>I r):=KA func316
def Ww(d:AA Al):AB Bool:=AH (WZ n d) λf=>AC (AG (0<=f))
instance xL(d:AA Al):Ks (Ww n d) 288 [.q 2 (map Al.c d),.fn (.func 289) [] [.p 0 0]] [.c 380 [.f 244]] (λr=>.b r):=KA func288
def Oa(d:AA Al):AB Bool:=AH (Ww n d) λf=>AC (!f)
instance xT(d:AA Al):Ks (Oa n d) 243 [.q 2 (map Al.c d),.f 244] [] (λr=>.b r):=KA func243
def O2(d:Cr)(f:Int):AB Bool:=AH (AH (FS n 0 f [d.BA,d.To]) λg=>(bif g then AH (FS n 0 68719476736 [d.Bo,d.Br]) λh=>(bif h then AC (AG (d.Bo<=d.Br))else AC AD)else AC AD):AB Bool) λj=>AC j
instance xn(d:Cr)(f:Int):Ks (O2 n d f) 240 [.a (Cr.c d),.p 0 0] [.c 3 [I f]] (λr=>.b r):=KA func240
def e7(d:Cr)(f:Int):AB Bool:=AH (O2 n d f) λg=>AC (!g)
instance vg(d:Cr)(f:Int):Ks (e7 n d f) 291 [.a (Cr.c d),.p 0 0] [.c 222 [.fn (.func 240) [] [.p 1 0]],.c 3 [I f]] (λr=>.b r):=KA func291
def nf(f:AA Cr)(j:Int)(d:Int):AB (CG Int (CG Unit Int)):=(bif d<(AI f:Int) then AH (CJ f d) λg=>AH (e7 n g j) λh=>(bif h then AC (.d (.d d))else AC (.k (i64.wrap (d+1))))else AC (.d (.k ())))
def Wc(g:AA Cr)(h:Int):AB Int:=AH (iter (nf n g h) n 0:AB (CG Unit Int)) λf=>match f with|.k d=>(AC (-1))|.d d=>AC d
instance wy(d:AA Cr)(f:Int):Ks (Wc n d f) 98 [.q 4 (map Cr.c d),.fn (.func 291) [] [.p 0 0]] [.c 222 [.fn (.func 240) [] [.p 1 0]],.c 3 [I f]] (λr=>I r):=KA func98
def Wf(d:AA Cr)(f:Int):AB Bool:=AH (Wc n d f) λg=>AC (AG (0<=g))
instance w6(d:AA Cr)(f:Int):Ks (Wf n d f) 290 [.q 4 (map Cr.c d),.fn (.func 291) [] [.p 0 0]] [.c 222 [.fn (.func 240) [] [.p 1 0]],.c 3 [I f]] (λr=>.b r):=KA func290
def PI(d:AA Cr)(f:Int):AB Bool:=AH (Wf n d f) λg=>AC (!g)
instance yF(d:AA Cr)(f:Int):Ks (PI n d f) 245 [.q 4 (map Cr.c d),.fn (.func 240) [] [.p 0 0]] [.c 3 [I f]] (λr=>.b r):=KA func245
def V6(n:Nat)(d:Cr):AB Unit:=AC ()
instance wH(d:Cr):Kq (V6 n d) 247 [.a (Cr.c d)] [] (λ_=>.a [I d.BA,I d.To]) (λ_=>[.c 294 [I d.BA,I d.To]]):=KA func247
def T4(g:AA Cr)(d:(AA (Ul×Bool))×Int):AB (CG ((AA (Ul×Bool))×Int) (AA (Ul×Bool))):=(bif d.2<(AI g:Int) then AH (CJ g d.2) λf=>AH (V6 n f) λj=>AH (AC (QK d.1 ({BZ:=f.BA,to_:=f.To:Ul}) AE)) λh=>AC (.k (h,i64.wrap (d.2+1)))else AC (.d d.1))
def WQ(d:AA Cr):AB Bool:=AH (iter (T4 n d) n ([],0):AB (AA (Ul×Bool))) λf=>AC ((AI f:Int)==(AI d:Int))
instance we(y:AA Cr):Ks (WQ n y) 246 [.q 4 (map Cr.c y),.f 247] [] (λr=>.b r):=by
 refine Kg 7 func246 Z Z Z Z λr h=>vH Yj ?_;refine Fg 7 Z Z (Lg 3 Z Z (Bd h λg B h=>Cg g [0] [0,5] Ze (λg=>[(0,.map (Qn (λx=>A.a (Ul.c x)) A.b g))]) Zf ?_ ?_))
 .refine G0 1 Z (Lp [0] [0,1,5,9,10] (λf=>[(11,I f.2)]) (λf=>[(0,.map (Qn (λx=>A.a (Ul.c x)) A.b f.1))]) B Zf (Lr [0]) λf F d j=>?_);refine G0 6 Z (Q8 Z d (λ_ d=>?_) (λ_ d=>?_))
  .exact Je j d
  refine Gc 6 Z (Bd d λG q d=>Iz q Z (Go 9 Z (Cd [] d Kc Z λH E d=>FE Z (Bd d λJ t d=>(vU (Yf dp t Z Gv) ?_)))));exact au d
 refine Gc 3 Z (vV (s9 Gv Z) ?_);exact au h
def OZ(rec50:(AA CH)->Int->AB Bool)(n:Nat)(d:CH)(f:Int):AB Bool:=(bif (d.Ax==0)then AH (AH (FS n 0 f [d.Al]) λm=>(bif m then AC ((AI d.Ac:Int)==0)else AC AD):AB Bool) λq=>AC q else AH (AH (FS n 1 64 [d.Ax]) λg=>(bif g then(bif (d.Al==0)then(bif 0<(AI d.Ac:Int) then AH (rec50 d.Ac f) λh=>AC h else AC AD)else AC AD)else AC AD):AB Bool) λj=>AC j)
instance xS(rec50:(AA CH)->Int->AB Bool)[g:∀(d:AA CH) (f:Int),Ks (rec50 d f) 236 [.q 3 (map CH.enc d),.fn (.func 234) [] [.p 0 0,.p 1 0]] [.c 3 [I f],.c 372 [.fn (.func 234) [] [.p 0 0,.p 1 0]]] (λr=>.b r)](n:Nat)(d:CH)(f:Int):Ks (OZ rec50 n d f) 234 [.a (CH.c d),.p 0 0,.p 1 0] [.c 3 [I f],.c 372 [.fn (.func 234) [] [.p 0 0,.p 1 0]]] (λr=>.b r):=KA func234
def fa(rec50:(AA CH)->Int->AB Bool)(n:Nat)(d:CH)(f:Int):AB Bool:=AH (OZ rec50 n d f) λg=>AC (!g)
instance jN(rec50:(AA CH)->Int->AB Bool)[g:∀(d:AA CH) (f:Int),Ks (rec50 d f) 236 [.q 3 (map CH.enc d),.fn (.func 234) [] [.p 0 0,.p 1 0]] [.c 3 [I f],.c 372 [.fn (.func 234) [] [.p 0 0,.p 1 0]]] (λr=>.b r)](n:Nat)(d:CH)(f:Int):Ks (fa rec50 n d f) 285 [.a (CH.c d),.p 0 0] [.c 372 [.fn (.func 234) [] [.p 1 0,.p 2 0]],.c 3 [I f],.c 372 [.fn (.func 234) [] [.p 1 0,.p 2 0]]] (λr=>.b r):=KA func285
def nB(f:AA CH)(j:Int)(rec50:(AA CH)->Int->AB Bool)(d:Int):AB (CG Int (CG Unit Int)):=(bif d<(AI f:Int) then AH (CJ f d) λg=>AH (fa rec50 n g j) λh=>(bif h then AC (.d (.d d))else AC (.k (i64.wrap (d+1))))else AC (.d (.k ())))
def fP(rec50:(AA CH)->Int->AB Bool)(n:Nat)(g:AA CH)(h:Int):AB Int:=AH (iter (nB n g h rec50) n 0:AB (CG Unit Int)) λf=>match f with|.k d=>(AC (-1))|.d d=>AC d
instance wA(rec50:(AA CH)->Int->AB Bool)[y:∀(f:AA CH) (g:Int),Ks (rec50 f g) 236 [.q 3 (map CH.enc f),.fn (.func 234) [] [.p 0 0,.p 1 0]] [.c 3 [I g],.c 372 [.fn (.func 234) [] [.p 0 0,.p 1 0]]] (λr=>.b r)](n:Nat)(f:AA CH)(g:Int):Ks (fP rec50 n f g) 314 [.q 3 (map CH.enc f),.fn (.func 285) [] [.p 0 0]] [.c 372 [.fn (.func 234) [] [.p 1 0,.p 2 0]],.c 3 [I g],.c 372 [.fn (.func 234) [] [.p 1 0,.p 2 0]]] (λr=>I r):=by
 refine Kg 9 func314 Z Z Z Z λr h=>Lg 3 Z Z (Bd h λB E h=>E_ (b:=B) [0,1,2] [] Ze Ze Zf ?_ (λ_ F=>?_))
 .refine G0 1 Z (Lp [0,1,2] [0,1,7] (λm=>[(8,I m)]) Ze E Zf (Lr [0,1,2]) λm L d j=>?_);refine G0 6 Z (Q8 Z d (λ_ d=>?_) (λ_ d=>?_))
  .exact Je j d
  refine Gc 15 Z (Bd d λG t d=>FW t (QN G) Z (Go 1 Z (Cz [0,1,2] d (jN rec50 _ _ _).c Z λM J d=>Go 2 Z (Cn Z d (λ_ d=>?_) (λ_ d=>?_)))))
  .exact DX j d h
  exact au d
 subst F;exact au h
def fE(rec50:(AA CH)->Int->AB Bool)(n:Nat)(d:AA CH)(f:Int):AB Bool:=AH (fP rec50 n d f) λg=>AC (AG (0<=g))
instance vr(rec50:(AA CH)->Int->AB Bool)[g:∀(d:AA CH) (f:Int),Ks (rec50 d f) 236 [.q 3 (map CH.enc d),.fn (.func 234) [] [.p 0 0,.p 1 0]] [.c 3 [I f],.c 372 [.fn (.func 234) [] [.p 0 0,.p 1 0]]] (λr=>.b r)](n:Nat)(d:AA CH)(f:Int):Ks (fE rec50 n d f) 284 [.q 3 (map CH.enc d),.fn (.func 285) [] [.p 0 0]] [.c 372 [.fn (.func 234) [] [.p 1 0,.p 2 0]],.c 3 [I f],.c 372 [.fn (.func 234) [] [.p 1 0,.p 2 0]]] (λr=>.b r):=KA func284
def fg(rec50:(AA CH)->Int->AB Bool)(n:Nat)(d:AA CH)(f:Int):AB Bool:=AH (fE rec50 n d f) λg=>AC (!g)
theorem QcM(rec50:(AA CH)->Int->AB Bool)(g:∀(d:AA CH) (f:Int),Ks (rec50 d f) 236 [.q 3 (map CH.enc d),.fn (.func 234) [] [.p 0 0,.p 1 0]] [.c 3 [I f],.c 372 [.fn (.func 234) [] [.p 0 0,.p 1 0]]] (λr=>.b r))(n:Nat)(d:AA CH)(f:Int):Ks (fg rec50 n d f) 236 [.q 3 (map CH.enc d),.fn (.func 234) [] [.p 0 0,.p 1 0]] [.c 3 [I f],.c 372 [.fn (.func 234) [] [.p 0 0,.p 1 0]]] (λr=>.b r):=KA func236
def LI:Nat->(AA CH)->Int->AB Bool
  |0=>λ_ _=>AF
  |n+1=>fg (LI n) n
instance zm:∀(d:AA CH) (f:Int),Ks (LI n d f) 236 [.q 3 (map CH.enc d),.fn (.func 234) [] [.p 0 0,.p 1 0]] [.c 3 [I f],.c 372 [.fn (.func 234) [] [.p 0 0,.p 1 0]]] (λr=>.b r):=by
  induction n with
  |zero=>exact λ_ _=>⟨nofun⟩
  |succ n ih=>exact QcM _ ih n
def PK(d:CO)(g:Int):AB Bool:=AH (AH (FS n 0 g [d.Al]) λh=>(bif h then(bif 1<=d.B_ then AH (FS n 0 1099511627776 [d.Bu]) λf=>AC f else AC AD)else AC AD):AB Bool) λj=>AC j
instance yH(d:CO)(f:Int):Ks (PK n d f) 237 [.a (CO.c d),.p 0 0] [.c 3 [I f]] (λr=>.b r):=KA func237
def fF(d:CO)(f:Int):AB Bool:=AH (PK n d f) λg=>AC (!g)
instance vu(d:CO)(f:Int):Ks (fF n d f) 287 [.a (CO.c d),.p 0 0] [.c 375 [.fn (.func 237) [] [.p 1 0]],.c 3 [I f]] (λr=>.b r):=KA func287
def nW(f:AA CO)(j:Int)(d:Int):AB (CG Int (CG Unit Int)):=(bif d<(AI f:Int) then AH (CJ f d) λg=>AH (fF n g j) λh=>(bif h then AC (.d (.d d))else AC (.k (i64.wrap (d+1))))else AC (.d (.k ())))
def WV(g:AA CO)(h:Int):AB Int:=AH (iter (nW n g h) n 0:AB (CG Unit Int)) λf=>match f with|.k d=>(AC (-1))|.d d=>AC d
instance wn(d:AA CO)(f:Int):Ks (WV n d f) 315 [.q 3 (map CO.c d),.fn (.func 287) [] [.p 0 0]] [.c 375 [.fn (.func 237) [] [.p 1 0]],.c 3 [I f]] (λr=>I r):=KA func315
def Wi(d:AA CO)(f:Int):AB Bool:=AH (WV n d f) λg=>AC (AG (0<=g))
instance w9(d:AA CO)(f:Int):Ks (Wi n d f) 286 [.q 3 (map CO.c d),.fn (.func 287) [] [.p 0 0]] [.c 375 [.fn (.func 237) [] [.p 1 0]],.c 3 [I f]] (λr=>.b r):=KA func286
def PJ(d:AA CO)(f:Int):AB Bool:=AH (Wi n d f) λg=>AC (!g)
instance yG(d:AA CO)(f:Int):Ks (PJ n d f) 239 [.q 3 (map CO.c d),.fn (.func 237) [] [.p 0 0]] [.c 3 [I f]] (λr=>.b r):=KA func239
def PB(d:AN)(f:Int):AB Bool:=AH (AH (FS n 1 3 [d.A9]) λg=>(bif g then AH (FS n (-1) f [d.Am]) λh=>(bif h then AH (LI n d.Af f) λj=>(bif j then AH (PJ n d.Aq f) λm=>AC m else AC AD)else AC AD)else AC AD):AB Bool) λq=>AC q
instance x9(d:AN)(f:Int):Ks (PB n d f) 238 [.a (AN.c d),.p 0 0,.p 1 0,.p 2 0] [.c 3 [I f],.c 372 [.fn (.func 234) [] [.p 0 0,.p 1 0]],.c 375 [.fn (.func 237) [] [.p 0 0]]] (λr=>.b r):=KA func238
def fU(d:AN)(f:Int):AB Bool:=AH (PB n d f) λg=>AC (!g)
instance wE(d:AN)(f:Int):Ks (fU n d f) 259 [.a (AN.c d),.p 0 0] [.c 297 [.fn (.func 238) [] [.p 1 0,.p 2 0,.p 3 0]],.c 3 [I f],.c 372 [.fn (.func 234) [] [.p 1 0,.p 2 0]],.c 375 [.fn (.func 237) [] [.p 1 0]]] (λr=>.b r):=KA func259
def nO(f:AA AN)(j:Int)(d:Int):AB (CG Int (CG Unit Int)):=(bif d<(AI f:Int) then AH (CJ f d) λg=>AH (fU n g j) λh=>(bif h then AC (.d (.d d))else AC (.k (i64.wrap (d+1))))else AC (.d (.k ())))
def WD(g:AA AN)(h:Int):AB Int:=AH (iter (nO n g h) n 0:AB (CG Unit Int)) λf=>match f with|.k d=>(AC (-1))|.d d=>AC d
instance wQ(d:AA AN)(f:Int):Ks (WD n d f) 303 [.q 5 (map AN.c d),.fn (.func 259) [] [.p 0 0]] [.c 297 [.fn (.func 238) [] [.p 1 0,.p 2 0,.p 3 0]],.c 3 [I f],.c 372 [.fn (.func 234) [] [.p 1 0,.p 2 0]],.c 375 [.fn (.func 237) [] [.p 1 0]]] (λr=>I r):=KA func303
def WW(d:AA AN)(f:Int):AB Bool:=AH (WD n d f) λg=>AC (AG (0<=g))
instance wq(d:AA AN)(f:Int):Ks (WW n d f) 258 [.q 5 (map AN.c d),.fn (.func 259) [] [.p 0 0]] [.c 297 [.fn (.func 238) [] [.p 1 0,.p 2 0,.p 3 0]],.c 3 [I f],.c 372 [.fn (.func 234) [] [.p 1 0,.p 2 0]],.c 375 [.fn (.func 237) [] [.p 1 0]]] (λr=>.b r):=KA func258
def Ol(d:AA AN)(f:Int):AB Bool:=AH (WW n d f) λg=>AC (!g)
instance xa(d:AA AN)(f:Int):Ks (Ol n d f) 158 [.q 5 (map AN.c d),.fn (.func 238) [] [.p 0 0,.p 1 0,.p 2 0]] [.c 3 [I f],.c 372 [.fn (.func 234) [] [.p 0 0,.p 1 0]],.c 375 [.fn (.func 237) [] [.p 0 0]]] (λr=>.b r):=KA func158
def Oh(d:Aw):AB Bool:=AH (FS n 0 1099511627776 [d.Bv]) λf=>AC f
instance xZ(d:Aw):Ks (Oh n d) 249 [.a (Aw.c d)] [] (λr=>.b r):=KA func249
def fQ(d:Aw):AB Bool:=AH (Oh n d) λf=>AC (!f)
instance wB(d:Aw):Ks (fQ n d) 293 [.a (Aw.c d),.p 0 0] [.c 385 [.f 249]] (λr=>.b r):=KA func293
def nD(f:AA Aw)(d:Int):AB (CG Int (CG Unit Int)):=(bif d<(AI f:Int) then AH (CJ f d) λg=>AH (fQ n g) λh=>(bif h then AC (.d (.d d))else AC (.k (i64.wrap (d+1))))else AC (.d (.k ())))
def Wh(g:AA Aw):AB Int:=AH (iter (nD n g) n 0:AB (CG Unit Int)) λf=>match f with|.k d=>(AC (-1))|.d d=>AC d
instance w8(d:AA Aw):Ks (Wh n d) 317 [.q 2 (map Aw.c d),.fn (.func 293) [] [.p 0 0]] [.c 385 [.f 249]] (λr=>I r):=KA func317
def Wr(d:AA Aw):AB Bool:=AH (Wh n d) λf=>AC (AG (0<=f))
instance xG(d:AA Aw):Ks (Wr n d) 292 [.q 2 (map Aw.c d),.fn (.func 293) [] [.p 0 0]] [.c 385 [.f 249]] (λr=>.b r):=KA func292
def PU(d:AA Aw):AB Bool:=AH (Wr n d) λf=>AC (!f)
instance yQ(d:AA Aw):Ks (PU n d) 248 [.q 2 (map Aw.c d),.f 249] [] (λr=>.b r):=KA func248
def PV(d:AZ):AB Bool:=(bif d.BM then AH ((bif (d.BX==0)then AC (d.Ax==0)else AC AD):AB Bool) λh=>AC h else(bif (d.Ax != 0)then AH ((bif (d.BX==0)then AH (FS n 1 64 [d.Ax]) λf=>AC f else AC AD):AB Bool) λj=>AC j else AH (FS n 0 68719476736 [d.BX]) λg=>AC g))
instance yR(d:AZ):Ks (PV n d) 241 [.a (AZ.c d)] [] (λr=>.b r):=KA func241
def fO(d:AZ):AB Bool:=AH (PV n d) λf=>AC (!f)
instance v_(d:AZ):Ks (fO n d) 295 [.a (AZ.c d),.p 0 0] [.c 377 [.f 241]] (λr=>.b r):=KA func295
def nA(f:AA AZ)(d:Int):AB (CG Int (CG Unit Int)):=(bif d<(AI f:Int) then AH (CJ f d) λg=>AH (fO n g) λh=>(bif h then AC (.d (.d d))else AC (.k (i64.wrap (d+1))))else AC (.d (.k ())))
def Ws(g:AA AZ):AB Int:=AH (iter (nA n g) n 0:AB (CG Unit Int)) λf=>match f with|.k d=>(AC (-1))|.d d=>AC d
instance xH(d:AA AZ):Ks (Ws n d) 318 [.q 4 (map AZ.c d),.fn (.func 295) [] [.p 0 0]] [.c 377 [.f 241]] (λr=>I r):=KA func318
def Wo(d:AA AZ):AB Bool:=AH (Ws n d) λf=>AC (AG (0<=f))
instance xE(d:AA AZ):Ks (Wo n d) 294 [.q 4 (map AZ.c d),.fn (.func 295) [] [.p 0 0]] [.c 377 [.f 241]] (λr=>.b r):=KA func294
def Oc(d:AA AZ):AB Bool:=AH (Wo n d) λf=>AC (!f)
instance xU(d:AA AZ):Ks (Oc n d) 250 [.q 4 (map AZ.c d),.f 241] [] (λr=>.b r):=KA func250
def Pf(d:AW):AB Bool:=AH (AH (FS n 0 120 [d.BA,d.To]) λf=>(bif f then AC (AG (d.BA<=d.To))else AC AD):AB Bool) λg=>AC g
instance yb(d:AW):Ks (Pf n d) 252 [.a (AW.c d)] [] (λr=>.b r):=KA func252
def fL(d:AW):AB Bool:=AH (Pf n d) λf=>AC (!f)
instance v7(d:AW):Ks (fL n d) 297 [.a (AW.c d),.p 0 0] [.c 388 [.f 252]] (λr=>.b r):=KA func297
def nI(f:AA AW)(d:Int):AB (CG Int (CG Unit Int)):=(bif d<(AI f:Int) then AH (CJ f d) λg=>AH (fL n g) λh=>(bif h then AC (.d (.d d))else AC (.k (i64.wrap (d+1))))else AC (.d (.k ())))
def V8(g:AA AW):AB Int:=AH (iter (nI n g) n 0:AB (CG Unit Int)) λf=>match f with|.k d=>(AC (-1))|.d d=>AC d
instance wJ(d:AA AW):Ks (V8 n d) 319 [.q 3 (map AW.c d),.fn (.func 297) [] [.p 0 0]] [.c 388 [.f 252]] (λr=>I r):=KA func319
def WR(d:AA AW):AB Bool:=AH (V8 n d) λf=>AC (AG (0<=f))
instance wg(d:AA AW):Ks (WR n d) 296 [.q 3 (map AW.c d),.fn (.func 297) [] [.p 0 0]] [.c 388 [.f 252]] (λr=>.b r):=KA func296
def Ox(d:AA AW):AB Bool:=AH (WR n d) λf=>AC (!f)
instance xj(d:AA AW):Ks (Ox n d) 251 [.q 3 (map AW.c d),.f 252] [] (λr=>.b r):=KA func251
def O'(d:CQ)(f:CB):AB Bool:=AH (AH (FS n 0 (i64.wrap ((AI f.AO:Int)-1)) [d.AN]) λg=>(bif g then AH (FS n (-1) (i64.wrap ((AI f.AV:Int)-1)) [d.AW]) λh=>(bif h then AH (FS n 1 4000 [d.B3]) λj=>(bif j then AH (FS n 1 1125899906842624 [d.BO]) λm=>AC m else AC AD)else AC AD)else AC AD):AB Bool) λq=>AC q
instance xy(d:CQ)(f:CB):Ks (O' n d f) 242 [.a (CQ.c d),.p 0 0] [.c 33 (CB.c f)] (λr=>.b r):=KA func242
def fK(d:CQ)(f:CB):AB Bool:=AH (O' n d f) λg=>AC (!g)
instance vz(d:CQ)(f:CB):Ks (fK n d f) 299 [.a (CQ.c d),.p 0 0] [.c 378 [.fn (.func 242) [] [.p 1 0]],.c 33 (CB.c f)] (λr=>.b r):=KA func299
def m8(f:AA CQ)(j:CB)(d:Int):AB (CG Int (CG Unit Int)):=(bif d<(AI f:Int) then AH (CJ f d) λg=>AH (fK n g j) λh=>(bif h then AC (.d (.d d))else AC (.k (i64.wrap (d+1))))else AC (.d (.k ())))
def Wd(g:AA CQ)(h:CB):AB Int:=AH (iter (m8 n g h) n 0:AB (CG Unit Int)) λf=>match f with|.k d=>(AC (-1))|.d d=>AC d
instance wz(d:AA CQ)(f:CB):Ks (Wd n d f) 320 [.q 4 (map CQ.c d),.fn (.func 299) [] [.p 0 0]] [.c 378 [.fn (.func 242) [] [.p 1 0]],.c 33 (CB.c f)] (λr=>I r):=KA func320
def Wa(d:AA CQ)(f:CB):AB Bool:=AH (Wd n d f) λg=>AC (AG (0<=g))
instance ww(d:AA CQ)(f:CB):Ks (Wa n d f) 298 [.q 4 (map CQ.c d),.fn (.func 299) [] [.p 0 0]] [.c 378 [.fn (.func 242) [] [.p 1 0]],.c 33 (CB.c f)] (λr=>.b r):=KA func298
def OY(d:AA CQ)(f:CB):AB Bool:=AH (Wa n d f) λg=>AC (!g)
instance xR(d:AA CQ)(f:CB):Ks (OY n d f) 253 [.q 4 (map CQ.c d),.fn (.func 242) [] [.p 0 0]] [.c 33 (CB.c f)] (λr=>.b r):=KA func253
def V9(n:Nat)(d:CQ):AB Unit:=AC ()
instance wK(d:CQ):Kq (V9 n d) 255 [.a (CQ.c d)] [] (λ_=>.a [I d.AN,I d.AW,I d.B3]) (λ_=>[.c 392 [I d.AN,I d.AW,I d.B3]]):=KA func255
def TV(g:AA CQ)(d:(AA (Up×Bool))×Int):AB (CG ((AA (Up×Bool))×Int) (AA (Up×Bool))):=(bif d.2<(AI g:Int) then AH (CJ g d.2) λf=>AH (V9 n f) λj=>AH (AC (QK d.1 ({B5:=f.AN,B2:=f.AW,CA:=f.B3:Up}) AE)) λh=>AC (.k (h,i64.wrap (d.2+1)))else AC (.d d.1))
def WP(d:AA CQ):AB Bool:=AH (iter (TV n d) n ([],0):AB (AA (Up×Bool))) λf=>AC ((AI f:Int)==(AI d:Int))
instance wb(y:AA CQ):Ks (WP n y) 254 [.q 4 (map CQ.c y),.f 255] [] (λr=>.b r):=by
 refine Kg 7 func254 Z Z Z Z λr h=>vH Yj ?_;refine Fg 7 Z Z (Lg 3 Z Z (Bd h λg B h=>Cg g [0] [0,5] Ze (λg=>[(0,.map (Qn (λx=>A.a (Up.c x)) A.b g))]) Zf ?_ ?_))
 .refine G0 1 Z (Lp [0] [0,1,5,9,10] (λf=>[(11,I f.2)]) (λf=>[(0,.map (Qn (λx=>A.a (Up.c x)) A.b f.1))]) B Zf (Lr [0]) λf F d j=>?_);refine G0 6 Z (Q8 Z d (λ_ d=>?_) (λ_ d=>?_))
  .exact Je j d
  refine Gc 6 Z (Bd d λG q d=>Iz q Z (Go 9 Z (Cd [] d Kc Z λH E d=>FE Z (Bd d λJ t d=>(vU (Yf Qqp t Z underlying415) ?_)))));exact au d
 refine Gc 3 Z (vV (s9 underlying415 Z) ?_);exact au h
def Pq(d:CB):AB Bool:=AH (AH (Oa n d.Av) λf=>(bif f then AH (PI n d.A4 (i64.wrap ((AI d.Av:Int)-1))) λg=>(bif g then AH (WQ n d.A4) λh=>(bif h then AH (Ol n d.AO (i64.wrap ((AI d.Av:Int)-1))) λj=>(bif j then AH (PU n d.Ap) λm=>(bif m then AH (Oc n d.Ab) λq=>(bif q then AH (Ox n d.AV) λt=>(bif t then AH (OY n d.A3 d) λx=>(bif x then AH (WP n d.A3) λy=>(bif y then AH (FS n 0 16 [d.AQ.A_,d.AQ.A7]) λB=>(bif B then AH (FS n 0 4294967296 [d.AQ.A6,d.AQ.Ak]) λE=>(bif E then AH (FS n 0 100000 [d.AQ.BC]) λF=>(bif F then AH (FS n 0 1125899906842624 [d.Bk]) λG=>(bif G then AH (FS n 0 1099511627776 [d.Az]) λH=>AC H else AC AD)else AC AD)else AC AD)else AC AD)else AC AD)else AC AD)else AC AD)else AC AD)else AC AD)else AC AD)else AC AD)else AC AD)else AC AD):AB Bool) λJ=>AC J
instance ym(f:CB):Ks (Pq n f) 156 [.a (CB.c f)] [] (λr=>.b r):=by
 refine Kg 10 func156 Z Z Z Z λr h=>Lg 55 Z Z (Bd h λd g h=>Cg d [] [] (λd=>[(2,.b d)]) Ze Zf ?_ ?_)
 .exact au g
 exact au h
def m_(n:Nat)(f:AA AY)(d:(AA Um)×Int):AB (CG ((AA Um)×Int) (AA Um)):=(bif d.2<(AI f:Int) then AH (CJ f d.2) λg=>AH (app d.1 [Um.ctyping_step ({AY:=g:Uq})]) λh=>AC (.k (h,i64.wrap (d.2+1)))else AC (.d d.1))
def Mn(d:AA AY):AB (AA Um):=AH (iter (m_ n d) n ([],0):AB (AA Um)) λf=>AC f
instance jb(x:AA AY):Kq (Mn n x) 257 [.q 8 (map AY.enc x)] [] (λr=>.o 0 (AI r) 1) (λr=>[.r 422 1 (map Um.enc r)]):=by
 refine Kg 9 func257 Z Z Z Z λr h=>Lg 3 Z Z (Bd h λg B h=>Cg g [0] [] (λg=>[(2,.o 0 (AI g) 1)]) (λg=>[(0,.r 422 1 (map Um.enc g))]) Zf ?_ ?_)
 .refine G0 1 Z (Lp [0] [5,6] (λf=>[(2,.o 0 (AI f.1) 1),(7,I f.2)]) (λf=>[(0,.r 422 1 (map Um.enc f.1))]) B Zf ?_ ?_)
  .exact En (Er (s:=2) (XQ Z) Z) (Lr [0])
  intro f E d j;refine G0 6 Z (Q8 Z d (λ_ d=>?_) (λ_ d=>?_))
  .exact Je j d
  refine Gc 6 Z (Bd d λy q d=>FW q (Yr y) Z (Go 9 Z ?_));refine vV (eA Z GD (by nofun) Z) (vH (Ek (xs:=[.tmp 14]) dV Z Z Z Z Z ⟨Z,trivial⟩ Z Z) ?_);refine FE Z (Bd d λF t d=>vH (Qj (e:=Um.enc) t dV Gk (QC (i:=2))) ?_);exact au d
 exact au h
def LB(n:Nat)(d:Uj):AB Bool:=AH ((bif (d.AR.AX==0)then(bif (d.AR.B0==0)then(bif (d.AR.N==0)then AC ((AI d.AR.Ac:Int)==0)else AC AD)else AC AD)else AC AD):AB Bool) λf=>AC f
instance zL(d:Uj):Ks (LB n d) 321 [.a (Uj.c ({AR:=d.AR:Uj}))] [] (λr=>.b r):=KA func321
def LH(d:Uq):AB (AA Um):=AH (Mn n d.AY.Ba) λf=>AH (Mn n d.AY.Bh) λg=>AH (app f g) λh=>AC h
instance bC(d:Uq):Kq (LH n d) 328 [.a (Uq.c d)] [] (λr=>.o 0 (AI r) 1) (λr=>[.r 422 1 (map Um.enc r)]):=by
 refine Kg 7 func328 Z Z Z Z λr h=>P7 7 3 [0,0,0,1,3,3,3] (by kernel_rfl) (Da 3 Z ?_);obtain⟨f,g,h⟩:=QE h;refine DA.op (x:=.o 1 (AI f) 1) (H1:=[.c 425 (Uq.c d),.r 422 1 (map Um.enc f)]) ?_ ?_
 .refine Qg [] (C8.fn call257 Z Z Z) ((jb _ _).c _ g) ?_;rintro _ _ ⟨rfl,rfl⟩;exact FE Z Wp
 refine Db 2 Z ?_;refine DB.wo2 (Ld isAgg29 Z Wp) (Ld isAgg29 Z Wp) (DB.done Z (Cd [] h Kc Z λq m h=>FE Z (Bd h λt j h=>vH (Qj j dV Gk (QC (i:=2))) ?_)));exact au h
def nP(n:Nat)(f:AA AR)(d:(AA Um)×Int):AB (CG ((AA Um)×Int) (AA Um)):=(bif d.2<(AI f:Int) then AH (CJ f d.2) λg=>AH (app d.1 [Um.ctyping_cond ({AR:=g:Uj})]) λh=>AC (.k (h,i64.wrap (d.2+1)))else AC (.d d.1))
def Wn(d:AA AR):AB (AA Um):=AH (iter (nP n d) n ([],0):AB (AA Um)) λf=>AC f
instance xD(x:AA AR):Kq (Wn n x) 330 [.q 4 (map AR.enc x)] [] (λr=>.o 0 (AI r) 1) (λr=>[.r 422 1 (map Um.enc r)]):=by
 refine Kg 9 func330 Z Z Z Z λr h=>Lg 3 Z Z (Bd h λg B h=>Cg g [0] [] (λg=>[(2,.o 0 (AI g) 1)]) (λg=>[(0,.r 422 1 (map Um.enc g))]) Zf ?_ ?_)
 .refine G0 1 Z (Lp [0] [5,6] (λf=>[(2,.o 0 (AI f.1) 1),(7,I f.2)]) (λf=>[(0,.r 422 1 (map Um.enc f.1))]) B Zf ?_ ?_)
  .exact En (Er (s:=2) (XQ Z) Z) (Lr [0])
  intro f E d j;refine G0 6 Z (Q8 Z d (λ_ d=>?_) (λ_ d=>?_))
  .exact Je j d
  refine Gc 6 Z (Bd d λy q d=>FW q (Jj y) Z (Go 9 Z ?_));refine vV (eA Z EU (by nofun) Z) (vH (Ek (xs:=[.tmp 14]) dV Z Z Z Z Z ⟨Z,trivial⟩ Z Z) ?_);refine FE Z (Bd d λF t d=>vH (Qj (e:=Um.enc) t dV Gk (QC (i:=2))) ?_);exact au d
 exact au h
def KL(d:Uj):AB (AA Um):=AH (Wn n d.AR.Ac) λf=>AC f
instance bD(d:Uj):Kq (KL n d) 327 [.a (Uj.c ({AR:=d.AR:Uj}))] [] (λr=>.o 0 (AI r) 1) (λr=>[.r 422 1 (map Um.enc r)]):=KA func327
def MR(B:AA Um)(E:Int)(rec95:(AA Um)->Int->Uk->AB (Uk×Bool))(d:Uk×Int):AB (CG (Uk×Int) (CG Uk (Uk×Bool))):=(bif d.2<(AI B:Int) then AH (CJ B d.2) λF=>Um.elim F (λj=>AH (AH (LB n ({AR:=j.AY.AR:Uj})) λG=>(bif (!G)then AH (rec95 [Um.ctyping_cond ({AR:=j.AY.AR:Uj})] 0 ({BG:=i64.wrap (d.1.BG+1),BH:=d.1.BH:Uk})) λm=>AC (m.1,(!m.2))else AC ({BG:=i64.wrap (d.1.BG+1),BH:=d.1.BH:Uk},AD)):AB (Uk×Bool)) λf=>(bif f.2 then AC (.d (.d (f.1,AD)))else AH ((bif 64<f.1.BG then AC (f.1,AE)else(bif 256<f.1.BH then AC (f.1,AE)else AH (LH n j) λx=>AH (rec95 x (i64.wrap (E+1)) f.1) λq=>AC (q.1,(!q.2)))):AB (Uk×Bool)) λg=>(bif g.2 then AC (.d (.d (g.1,AD)))else AC (.k (g.1,i64.wrap (d.2+1)))))) (λH=>AH ((bif 64<d.1.BG then AC ({BG:=d.1.BG,BH:=i64.wrap (d.1.BH+1):Uk},AE)else(bif 256<(i64.wrap (d.1.BH+1)) then AC ({BG:=d.1.BG,BH:=i64.wrap (d.1.BH+1):Uk},AE)else AH (KL n ({AR:=H.AR:Uj})) λy=>AH (rec95 y (i64.wrap (E+1)) ({BG:=d.1.BG,BH:=i64.wrap (d.1.BH+1):Uk})) λt=>AC (t.1,(!t.2)))):AB (Uk×Bool)) λh=>(bif h.2 then AC (.d (.d (h.1,AD)))else AC (.k (h.1,i64.wrap (d.2+1)))))else AC (.d (.k d.1)))
def ir(rec95:(AA Um)->Int->Uk->AB (Uk×Bool))(n:Nat)(f:AA Um)(g:Int)(h:Uk):AB (Uk×Bool):=AH ((bif 0<(AI f:Int) then AC (AG (16<g))else AC AD):AB Bool) λm=>(bif m then AC (h,AD)else AH (iter (MR n f g rec95) n (h,0):AB (CG Uk (Uk×Bool))) λj=>match j with|.k d=>(AC (d,AE))|.d d=>AC d)
theorem Qax(rec95:(AA Um)->Int->Uk->AB (Uk×Bool))(ad:∀(x:AA Um) (L:Int) (M:Uk),Kq (rec95 x L M) 300 [.p 0 0,.o 1 (AI x) 1,I L] [.c 418 (Uk.c M),.r 422 1 (map Um.enc x)] (λr=>.b r.2) (λr=>[.c 418 (Uk.c r.1),.r 422 1 (map Um.enc x)]))(n:Nat)(x:AA Um)(L:Int)(M:Uk):Kq (ir rec95 n x L M) 300 [.p 0 0,.o 1 (AI x) 1,I L] [.c 418 (Uk.c M),.r 422 1 (map Um.enc x)] (λr=>.b r.2) (λr=>[.c 418 (Uk.c r.1),.r 422 1 (map Um.enc x)]):=by
 refine Kg 7 func300 Z Z Z Z λr h=>Bd h λb2 h3 h=>Ct b2 [0,1] [0,1,2] (λb2=>[(18,.b b2)]) Ze Zf ?_ (λenv H B=>?_)
 .exact au h3
 refine Gx 1 Z (Ee B (Cn Z h (λ_ h=>?_) (λ_ h=>?_)))
 .exact au h
 refine Gc 10 Z (Bd h λaf ag h=>E_ (b:=af) [0,1] [] Ze (λN=>[(0,.c 418 (Uk.c N))]) Zf ?_ (λN ah=>?_))
 .refine G0 1 Z (Lp [0,1] [0,2,19,20] (λE=>[(21,I E.2)]) (λE=>[(0,.c 418 (Uk.c E.1))]) ag Zf (Lr [0,1]) λE al d y=>?_);refine G0 6 Z (Q8 Z d (λ_ d=>?_) (λ_ d=>?_))
  .exact Je y d
  refine Gc 6 Z (Bd d λaa O d=>?_);refine vX (.p 1 (toNat E.2*1)) (Qd O Z Gk sizeOf422) ?_;refine vX (Um.val aa) (Ez Z isAgg422 Z (Qh O)) ?_;refine Go 12 Z ?_;rcases JK aa with⟨F,hE90⟩|⟨J,hE92⟩
  .have d:=Jw hE90 d;refine Et (QZ (s:=8) (a':=.iface 425 (.a (Uq.c F))) Z (congrArg Um.val hE90)) ?_;refine Et (QZ (s:=24) (a':=.iface 425 (.a (Uq.c F))) Z (congrArg Um.val hE90)) ?_;refine Et (QZ (s:=25) (a':=.iface 425 (.a (Uq.c F))) Z (congrArg Um.val hE90)) ?_;refine vX (.t [.a [I 0,I 0,I 0,.q 4 (map AR.enc [])],.b AD]) (lL (z:=(.a [I 0,I 0,I 0,.q 4 (map AR.enc [])])) EU (by intro m;nofun) Z G4 (Fu Z)) ?_;refine Go 7 Z ?_;refine vX (.t [.a (Uq.c F),.b AE]) (S7 GD (by intro m;nofun)) ?_;refine Go 34 Z (Bd d λG j d=>Ct G [0,1] [0,2,8,19,20,21] (λG=>[(60,.b G.2)]) (λG=>[(0,.c 418 (Uk.c G.1))]) Zf ?_ (λenv H B=>?_))
   .refine G0 2 Z (Cz [] j Kc Z λam ai j=>Go 2 Z (Is 53 j Z (λ_ j=>?_) (λ_ j=>?_)))
    .refine Go 2 Z ?_;refine vX (.iface 443 (.a (Uj.c ({AR:=F.AY.AR:Uj})))) (eA Z EU (by intro m;nofun) Z) ?_ (gT Z);exact au j
    exact au j
   refine Gx 1 Z (Ee B (Cn Z d (λ_ d=>?_) (λ_ d=>?_)))
   .exact DX y d h
   refine Gc 4 Z (Bd d λq f d=>Ct q [0,1] [0,2,19,20,21] (λq=>[(81,.b q.2)]) (λq=>[(0,.c 418 (Uk.c q.1))]) Zf ?_ (λenv H B=>?_))
   .refine G0 7 Z (Is 66 f Z (λ_ f=>?_) (λ_ f=>?_))
    .exact au f
    .refine Go 7 Z (Is 73 f Z (λ_ f=>?_) (λ_ f=>?_))
     .exact au f
     .refine Go 2 Z (Bd f λaj T f=>?_);refine Qg [] (gu call328 Z Z Z Z (λ_ _=>by kernel_rfl)) ((bC _ _).c _ T) ?_ (hg:=(gT Z));rintro _ _ ⟨rfl,rfl⟩;exact au f
   refine Gx 1 Z (Ee B (Cn Z d (λ_ d=>?_) (λ_ d=>?_)))
   .exact DX y d h
   exact au d
  .have d:=Ju hE92 d;refine Et (QZ (s:=8) (a':=.iface 443 (.a (Uj.c ({AR:=J.AR:Uj})))) Z (congrArg Um.val hE92)) ?_;refine Et (QZ (s:=24) (a':=.iface 443 (.a (Uj.c ({AR:=J.AR:Uj})))) Z (congrArg Um.val hE92)) ?_;refine Et (QZ (s:=25) (a':=.iface 443 (.a (Uj.c ({AR:=J.AR:Uj})))) Z (congrArg Um.val hE92)) ?_;refine vX (.t [.a (Uj.c ({AR:=J.AR:Uj})),.b AE]) (S7 EU (by intro m;nofun)) ?_;refine Go 24 Z (Bd d λt g d=>Cg t [0,1] [0,2,19,20,21] (λt=>[(81,.b t.2)]) (λt=>[(0,.c 418 (Uk.c t.1))]) Zf ?_ ?_)
   .refine G0 7 Z (Is 66 g Z (λ_ g=>?_) (λ_ g=>?_))
    .exact au g
    .refine Go 7 Z (Is 73 g Z (λ_ g=>?_) (λ_ g=>?_))
     .exact au g
     .refine Go 2 Z (Bd g λak Y g=>?_);refine Qg [] (gu call327 Z Z Z Z (λ_ _=>by kernel_rfl)) ((bD _ _).c _ Y) ?_ (hg:=(gT Z));rintro _ _ ⟨rfl,rfl⟩;exact au g
   exact DX y d h
 subst ah;exact au h
def NK:Nat->(AA Um)->Int->Uk->AB (Uk×Bool)
  |0=>λ_ _ _=>AF
  |n+1=>ir (NK n) n
instance k_j:∀(d:AA Um) (f:Int) (g:Uk),Kq (NK n d f g) 300 [.p 0 0,.o 1 (AI d) 1,I f] [.c 418 (Uk.c g),.r 422 1 (map Um.enc d)] (λr=>.b r.2) (λr=>[.c 418 (Uk.c r.1),.r 422 1 (map Um.enc d)]):=by
  induction n with
  |zero=>exact λ_ _ _=>⟨nofun⟩
  |succ n ih=>exact Qax _ ih n
def m9(B:AA Um)(E:Int)(d:Uk×Int):AB (CG (Uk×Int) (CG Uk (Uk×Bool))):=(bif d.2<(AI B:Int) then AH (CJ B d.2) λF=>Um.elim F (λj=>AH (AH (LB n ({AR:=j.AY.AR:Uj})) λG=>(bif (!G)then AH (NK n [Um.ctyping_cond ({AR:=j.AY.AR:Uj})] 0 ({BG:=i64.wrap (d.1.BG+1),BH:=d.1.BH:Uk})) λm=>AC (m.1,(!m.2))else AC ({BG:=i64.wrap (d.1.BG+1),BH:=d.1.BH:Uk},AD)):AB (Uk×Bool)) λf=>(bif f.2 then AC (.d (.d (f.1,AD)))else AH ((bif 64<f.1.BG then AC (f.1,AE)else(bif 256<f.1.BH then AC (f.1,AE)else AH (LH n j) λx=>AH (NK n x (i64.wrap (E+1)) f.1) λq=>AC (q.1,(!q.2)))):AB (Uk×Bool)) λg=>(bif g.2 then AC (.d (.d (g.1,AD)))else AC (.k (g.1,i64.wrap (d.2+1)))))) (λH=>AH ((bif 64<d.1.BG then AC ({BG:=d.1.BG,BH:=i64.wrap (d.1.BH+1):Uk},AE)else(bif 256<(i64.wrap (d.1.BH+1)) then AC ({BG:=d.1.BG,BH:=i64.wrap (d.1.BH+1):Uk},AE)else AH (KL n ({AR:=H.AR:Uj})) λy=>AH (NK n y (i64.wrap (E+1)) ({BG:=d.1.BG,BH:=i64.wrap (d.1.BH+1):Uk})) λt=>AC (t.1,(!t.2)))):AB (Uk×Bool)) λh=>(bif h.2 then AC (.d (.d (h.1,AD)))else AC (.k (h.1,i64.wrap (d.2+1)))))else AC (.d (.k d.1)))
def fA(f:AA Um)(g:Int)(h:Uk):AB (Uk×Bool):=AH ((bif 0<(AI f:Int) then AC (AG (16<g))else AC AD):AB Bool) λm=>(bif m then AC (h,AD)else AH (iter (m9 n f g) n (h,0):AB (CG Uk (Uk×Bool))) λj=>match j with|.k d=>(AC (d,AE))|.d d=>AC d)
instance vo(a1:AA Um)(a2:Int)(a3:Uk):Kq (fA n a1 a2 a3) 300 [.p 0 0,.q 1 (map Um.enc a1),I a2] [.c 418 (Uk.c a3)] (λr=>.b r.2) (λr=>[.c 418 (Uk.c r.1)]):=by
 refine Kg 7 func300 Z Z Z Z λr h=>Bd h λV h3 h=>Ct V [0] [0,1,2] (λV=>[(18,.b V)]) Ze Zf ?_ (λenv H y=>?_)
 .exact au h3
 refine Gx 1 Z (Ee y (Cn Z h (λ_ h=>?_) (λ_ h=>?_)))
 .exact au h
 refine Gc 6 Z (Lg 3 Z Z (Bd h λab ac h=>E_ (b:=ab) [0] [] Ze (λJ=>[(0,.c 418 (Uk.c J))]) Zf ?_ (λJ ad=>?_)))
 .refine G0 1 Z (Lp [0] [0,2,19,20] (λF=>[(21,I F.2)]) (λF=>[(0,.c 418 (Uk.c F.1))]) ac Zf (Lr [0]) λF ai d x=>?_);refine G0 6 Z (Q8 Z d (λ_ d=>?_) (λ_ d=>?_))
  .exact Je x d
  refine Gc 6 Z (Bd d λae X d=>Iz X Z (Go 13 Z ?_));rcases JK ae with⟨B,hE90⟩|⟨G,hE92⟩
  .have d:=Jw hE90 d;refine Et (QZ (s:=8) (a':=.iface 425 (.a (Uq.c B))) Z (congrArg Um.val hE90)) ?_;refine Et (QZ (s:=24) (a':=.iface 425 (.a (Uq.c B))) Z (congrArg Um.val hE90)) ?_;refine Et (QZ (s:=25) (a':=.iface 425 (.a (Uq.c B))) Z (congrArg Um.val hE90)) ?_;refine vX (.t [.a [I 0,I 0,I 0,.q 4 (map AR.enc [])],.b AD]) (lL (z:=(.a [I 0,I 0,I 0,.q 4 (map AR.enc [])])) EU (by intro m;nofun) Z G4 (Fu Z)) ?_;refine Go 7 Z ?_;refine vX (.t [.a (Uq.c B),.b AE]) (S7 GD (by intro m;nofun)) ?_;refine Go 34 Z (Bd d λE j d=>Ct E [0] [0,2,8,19,20,21] (λE=>[(60,.b E.2)]) (λE=>[(0,.c 418 (Uk.c E.1))]) Zf ?_ (λenv H y=>?_))
   .refine G0 2 Z (Cz [] j Kc Z λaj af j=>Go 2 Z (Is 53 j Z (λ_ j=>?_) (λ_ j=>?_)))
    .refine Go 2 Z ?_;refine vX (.iface 443 (.a (Uj.c ({AR:=B.AY.AR:Uj})))) (eA Z EU (by intro m;nofun) Z) ?_ (gT Z);exact au j
    exact au j
   refine Gx 1 Z (Ee y (Cn Z d (λ_ d=>?_) (λ_ d=>?_)))
   .exact DX x d h
   refine Gc 4 Z (Bd d λq f d=>Ct q [0] [0,2,19,20,21] (λq=>[(81,.b q.2)]) (λq=>[(0,.c 418 (Uk.c q.1))]) Zf ?_ (λenv H y=>?_))
   .refine G0 7 Z (Is 66 f Z (λ_ f=>?_) (λ_ f=>?_))
    .exact au f
    .refine Go 7 Z (Is 73 f Z (λ_ f=>?_) (λ_ f=>?_))
     .exact au f
     .refine Go 2 Z (Bd f λag O f=>?_);refine Qg [] (gu call328 Z Z Z Z (λ_ _=>by kernel_rfl)) ((bC _ _).c _ O) ?_ (hg:=(gT Z));rintro _ _ ⟨rfl,rfl⟩;exact au f
   refine Gx 1 Z (Ee y (Cn Z d (λ_ d=>?_) (λ_ d=>?_)))
   .exact DX x d h
   exact au d
  .have d:=Ju hE92 d;refine Et (QZ (s:=8) (a':=.iface 443 (.a (Uj.c ({AR:=G.AR:Uj})))) Z (congrArg Um.val hE92)) ?_;refine Et (QZ (s:=24) (a':=.iface 443 (.a (Uj.c ({AR:=G.AR:Uj})))) Z (congrArg Um.val hE92)) ?_;refine Et (QZ (s:=25) (a':=.iface 443 (.a (Uj.c ({AR:=G.AR:Uj})))) Z (congrArg Um.val hE92)) ?_;refine vX (.t [.a (Uj.c ({AR:=G.AR:Uj})),.b AE]) (S7 EU (by intro m;nofun)) ?_;refine Go 24 Z (Bd d λt g d=>Cg t [0] [0,2,19,20,21] (λt=>[(81,.b t.2)]) (λt=>[(0,.c 418 (Uk.c t.1))]) Zf ?_ ?_)
   .refine G0 7 Z (Is 66 g Z (λ_ g=>?_) (λ_ g=>?_))
    .exact au g
    .refine Go 7 Z (Is 73 g Z (λ_ g=>?_) (λ_ g=>?_))
     .exact au g
     .refine Go 2 Z (Bd g λah T g=>?_);refine Qg [] (gu call327 Z Z Z Z (λ_ _=>by kernel_rfl)) ((bD _ _).c _ T) ?_ (hg:=(gT Z));rintro _ _ ⟨rfl,rfl⟩;exact au g
   exact DX x d h
 subst ad;exact au h
def Wu(rec99:(AA Um)->AB Bool)(n:Nat)(d:Uj):AB Bool:=AH ((bif (d.AR.B0==0)then AC (d.AR.N==0)else AC AD):AB Bool) λg=>(bif (d.AR.AX==1)then AH (AH (FS n 1 3 [d.AR.B0]) λh=>(bif h then AH (FS n 0 10000 [d.AR.N]) λj=>(bif j then AC ((AI d.AR.Ac:Int)==0)else AC AD)else AC AD):AB Bool) λm=>AC m else AH ((bif (d.AR.AX==4)then(bif g then AC (.k ((AI d.AR.Ac:Int)==1))else AC (.k AD))else AH ((bif (d.AR.AX==2)then AC (d.AR.AX==2)else AC (d.AR.AX==3)):AB Bool) λq=>(bif q then(bif g then(bif 0<(AI d.AR.Ac:Int) then AC (.k (AG ((AI d.AR.Ac:Int)<=16)))else AC (.k AD))else AC (.k AD))else AC (.d AD))):AB (CG Bool Bool)) λt=>match t with|.k f=>(AH ((bif f then AH (KL n ({AR:=d.AR:Uj})) λx=>AH (rec99 x) λy=>AC (!y)else AC AD):AB Bool) λB=>AC B)|.d f=>AC f)
instance xJ(rec99:(AA Um)->AB Bool)[E:∀(g:AA Um),Ks (rec99 g) 301 [.q 1 (map Um.enc g),.f 302] [] (λr=>.b r)](n:Nat)(g:Uj):Ks (Wu rec99 n g) 323 [.iface 443 (.a (Uj.c ({AR:=g.AR:Uj})))] [] (λr=>.b r):=by
 refine Kg 14 func323 Z Z Z Z λr h=>?_;refine vX (.t [.a (Uj.c ({AR:=g.AR:Uj})),.b AE]) (S7 EU (by intro m;nofun)) ?_;refine Go 12 Z (Bd h λx M h=>Ct x [0] [3] (λx=>[(4,.b x)]) Ze Zf ?_ (λenv H f=>?_))
 .exact au M
 refine Gx 1 Z (Ee f (Gc 15 Z (Cn Z h (λ_ h=>?_) (λ_ h=>?_))))
 .exact au h
 refine Gc 6 Z (Bd h λG d h=>Fe (b:=G) [0] [3] (λj=>[(4,.b j)]) Ze Zf ?_ (λj env H hb f=>?_))
 .refine G0 0 Z (Cn Z d (λ_ d=>?_) (λ_ d=>?_))
  .exact au d
  refine Gc 7 Z (Bd d λq J d=>Ct q [0] [3,4] (λq=>[(55,.b q)]) Ze Zf ?_ (λenv H f=>?_))
  .exact au J
  refine Gx 1 Z (Ee f (Q8 Z d (λ_ d=>?_) (λ_ d=>?_)))
  .refine Gc 6 Z ?_;cases d;exact au h
  exact au d
 subst hb;refine Gx 2 Z (Ee f (Gc 1 Z (Bd h λt L h=>Cg t [] [] (λt=>[(2,.b t)]) Ze Zf ?_ ?_)))
 .exact au L
 exact au h
def fX(rec99:(AA Um)->AB Bool)(n:Nat)(Q:Um):AB Bool:=Um.elim Q (λf=>(bif (f.AY.AX==1)then AH (AH (FS n 1 5 [f.AY.By]) λj=>(bif j then AH (LB n ({AR:=f.AY.AR:Uj})) λm=>(bif m then AH (LH n f) λq=>AC ((AI q:Int)==0)else AC AD)else AC AD):AB Bool) λt=>AC t else(bif (f.AY.AX==2)then AH ((bif (f.AY.By==0)then AH (Wu rec99 n ({AR:=f.AY.AR:Uj})) λx=>(bif x then(bif 0<(AI f.AY.Ba:Int) then AH (LH n f) λy=>AH (rec99 y) λB=>AC (!B)else AC AD)else AC AD)else AC AD):AB Bool) λE=>AC E else AC AD))) (λd=>AH ((bif (d.AR.B0==0)then AC (d.AR.N==0)else AC AD):AB Bool) λh=>(bif (d.AR.AX==1)then AH (AH (FS n 1 3 [d.AR.B0]) λF=>(bif F then AH (FS n 0 10000 [d.AR.N]) λG=>(bif G then AC ((AI d.AR.Ac:Int)==0)else AC AD)else AC AD):AB Bool) λH=>AC H else AH ((bif (d.AR.AX==4)then(bif h then AC (.k ((AI d.AR.Ac:Int)==1))else AC (.k AD))else AH ((bif (d.AR.AX==2)then AC (d.AR.AX==2)else AC (d.AR.AX==3)):AB Bool) λJ=>(bif J then(bif h then(bif 0<(AI d.AR.Ac:Int) then AC (.k (AG ((AI d.AR.Ac:Int)<=16)))else AC (.k AD))else AC (.k AD))else AC (.d AD))):AB (CG Bool Bool)) λL=>match L with|.k g=>(AH ((bif g then AH (KL n ({AR:=d.AR:Uj})) λM=>AH (rec99 M) λO=>AC (!O)else AC AD):AB Bool) λP=>AC P)|.d g=>AC g))
instance jL(rec99:(AA Um)->AB Bool)[O:∀(j:AA Um),Ks (rec99 j) 301 [.q 1 (map Um.enc j),.f 302] [] (λr=>.b r)](n:Nat)(j:Um):Ks (fX rec99 n j) 323 [Um.val j] [] (λr=>.b r):=by
 refine Kg 14 func323 Z Z Z Z λr h=>?_;rcases JK j with⟨E,hE2⟩|⟨F,hE4⟩
 .have h:=Jw hE2 h;refine Et (QZ (s:=0) (a':=.iface 425 (.a (Uq.c E))) Z (congrArg Um.val hE2)) ?_;refine Et (QZ (s:=7) (a':=.iface 425 (.a (Uq.c E))) Z (congrArg Um.val hE2)) ?_;refine vX (.t [.a [I 0,I 0,I 0,.q 4 (map AR.enc [])],.b AD]) (lL (z:=(.a [I 0,I 0,I 0,.q 4 (map AR.enc [])])) EU (by intro m;nofun) Z G4 (Fu Z)) ?_;refine Go 7 Z ?_;refine vX (.t [.a (Uq.c E),.b AE]) (S7 GD (by intro m;nofun)) ?_;refine Go 35 Z (Cn Z h (λ_ h=>?_) (λ_ h=>?_))
  .exact au h
  refine Gc 6 Z (Cn Z h (λ_ h=>?_) (λ_ h=>?_))
  .refine Gc 1 Z (Bd h λq g h=>Ct q [] [] (λq=>[(2,.b q)]) Ze Zf ?_ (λenv H f=>?_))
   .refine G0 6 Z (Is 113 g Z (λ_ g=>?_) (λ_ g=>?_))
    .refine Go 1 Z ?_;refine vX (.iface 443 (.a (Uj.c ({AR:=E.AY.AR:Uj})))) (eA Z EU (by intro m;nofun) Z) ?_ (gT Z);exact au g
    exact au g
   exact Gx 1 Z (Ee f (TJ 4 Z h 2 []))
  exact au h
 .have h:=Ju hE4 h;refine Et (QZ (s:=0) (a':=.iface 443 (.a (Uj.c ({AR:=F.AR:Uj})))) Z (congrArg Um.val hE4)) ?_;refine Et (QZ (s:=7) (a':=.iface 443 (.a (Uj.c ({AR:=F.AR:Uj})))) Z (congrArg Um.val hE4)) ?_;refine vX (.t [.a (Uj.c ({AR:=F.AR:Uj})),.b AE]) (S7 EU (by intro m;nofun)) ?_;refine Go 12 Z (Bd h λt Q h=>Ct t [0] [3] (λt=>[(4,.b t)]) Ze Zf ?_ (λenv H f=>?_))
  .exact au Q
  refine Gx 1 Z (Ee f (Gc 15 Z (Cn Z h (λ_ h=>?_) (λ_ h=>?_))))
  .exact au h
  refine Gc 6 Z (Bd h λR d h=>Fe (b:=R) [0] [3] (λx=>[(4,.b x)]) Ze Zf ?_ (λx env H hb f=>?_))
  .refine G0 0 Z (Cn Z d (λ_ d=>?_) (λ_ d=>?_))
   .exact au d
   refine Gc 7 Z (Bd d λy T d=>Ct y [0] [3,4] (λy=>[(55,.b y)]) Ze Zf ?_ (λenv H f=>?_))
   .exact au T
   refine Gx 1 Z (Ee f (Q8 Z d (λ_ d=>?_) (λ_ d=>?_)))
   .refine Gc 6 Z ?_;cases d;exact au h
   exact au d
  subst hb;refine Gx 2 Z (Ee f (Gc 1 Z (Bd h λB V h=>Cg B [] [] (λB=>[(2,.b B)]) Ze Zf ?_ ?_)))
  .exact au V
  exact au h
def W5(rec99:(AA Um)->AB Bool)(n:Nat)(d:Um):AB Bool:=AH (fX rec99 n d) λf=>AC (!f)
instance jR(rec99:(AA Um)->AB Bool)[f:∀(d:AA Um),Ks (rec99 d) 301 [.q 1 (map Um.enc d),.f 302] [] (λr=>.b r)](n:Nat)(d:Um):Ks (W5 rec99 n d) 302 [Um.val d] [] (λr=>.b r):=by
 exact Kg 8 func302 Z Z Z Z λr h=>Bd h λj g h=>Pc [] Z (C8.fn call323 Z Z Z) ((jL rec99 _ _).c _ g) (hargs:=by first|exact Z|exact Eq.trans (by exact Z) (TB _ (by simp[YI,YJ,Um.data])).symm) Z (Gt 5 Z h 2 [])
def nF(f:AA Um)(rec99:(AA Um)->AB Bool)(d:Int):AB (CG Int (CG Unit Int)):=(bif d<(AI f:Int) then AH (CJ f d) λg=>AH (W5 rec99 n g) λh=>(bif h then AC (.d (.d d))else AC (.k (i64.wrap (d+1))))else AC (.d (.k ())))
def fJ(rec99:(AA Um)->AB Bool)(n:Nat)(g:AA Um):AB Int:=AH (iter (nF n g rec99) n 0:AB (CG Unit Int)) λf=>match f with|.k d=>(AC (-1))|.d d=>AC d
instance vy(rec99:(AA Um)->AB Bool)[y:∀(f:AA Um),Ks (rec99 f) 301 [.q 1 (map Um.enc f),.f 302] [] (λr=>.b r)](n:Nat)(f:AA Um):Ks (fJ rec99 n f) 322 [.q 1 (map Um.enc f),.f 302] [] (λr=>I r):=by
 refine Kg 9 func322 Z Z Z Z λr h=>Lg 3 Z Z (Bd h λB E h=>E_ (b:=B) [] [] Ze Ze Zf ?_ (λ_ F=>?_))
 .refine G0 1 Z (Lp [] [0,1,7] (λj=>[(8,I j)]) Ze E Zf (Lr []) λj H d g=>?_);refine G0 6 Z (Q8 Z d (λ_ d=>?_) (λ_ d=>?_))
  .exact Je g d
  refine Gc 15 Z (Bd d λJ q d=>Iz q Z (Go 1 Z (Bd d λL t d=>Pc [] Z (JR call302 Z Z Z Z) ((jR rec99 _ _).c _ t) (hargs:=by first|exact Z|exact Eq.trans (by exact Z) (TB _ (by simp[YI,YJ,Um.data])).symm) Z (Go 2 Z (Cn Z d (λ_ d=>?_) (λ_ d=>?_))))))
  .exact DX g d h
  exact au d
 subst F;exact au h
def Y_(rec99:(AA Um)->AB Bool)(n:Nat)(d:AA Um):AB Bool:=AH (fJ rec99 n d) λf=>AC (AG (0<=f))
theorem Qay(rec99:(AA Um)->AB Bool)(f:∀(d:AA Um),Ks (rec99 d) 301 [.q 1 (map Um.enc d),.f 302] [] (λr=>.b r))(n:Nat)(d:AA Um):Ks (Y_ rec99 n d) 301 [.q 1 (map Um.enc d),.f 302] [] (λr=>.b r):=KA func301
def KN:Nat->(AA Um)->AB Bool
  |0=>λ_=>AF
  |n+1=>Y_ (KN n) n
instance _F:∀(d:AA Um),Ks (KN n d) 301 [.q 1 (map Um.enc d),.f 302] [] (λr=>.b r):=by
  induction n with
  |zero=>exact λ_=>⟨nofun⟩
  |succ n ih=>exact Qay _ ih n
def e_(d:AA Um):AB Int:=AH (fA n d 0 ({BG:=0,BH:=0:Uk})) λf=>(bif (!f.2)then AC 2 else AH ((bif ((AI d:Int)==0)then AC AE else AH (KN n d) λg=>AC g):AB Bool) λh=>(bif h then AC 71 else AC 0))
instance vn(d:AA Um):Ks (e_ n d) 256 [.q 1 (map Um.enc d)] [] (λr=>I r):=KA func256
def WI(d:AA AY):AB Int:=AH (Mn n d) λf=>AH (e_ n f) λg=>AC g
instance wU(d:AA AY):Ks (WI n d) 157 [.q 8 (map AY.enc d)] [] (λr=>I r):=KA func157
def ME(n:Nat)(f:CH)(g:AA Int)(d:(AA Int)×Int):AB (CG ((AA Int)×Int) (CG (AA Int) (CG ((AA Int)×Int) (CG (AA Int) (AA Int))))):=(bif d.2<(if f.Ax<1 then 1 else f.Ax) then(bif 256<(AI d.1:Int) then AC (.d (.d (.d (.d d.1))))else AH (app d.1 g) λh=>AC (.k (h,i64.wrap (d.2+1))))else AC (.d (.k d.1)))
def MF(h:AA CH)(rec118:(AA CH)->AB (AA Int))(d:(AA Int)×Int):AB (CG ((AA Int)×Int) (CG (AA Int) (AA Int))):=(bif d.2<(AI h:Int) then AH (CJ h d.2) λg=>AH ((bif 0<g.Ax then AH (rec118 g.Ac) λj=>AC j else AC [g.Al]):AB (AA Int)) λm=>AH (iter (ME n g m) n (d.1,0):AB (CG (AA Int) (CG ((AA Int)×Int) (CG (AA Int) (AA Int))))) λq=>match q with|.k f=>(AC (.k (f,i64.wrap (d.2+1))))|.d f=>AC f else AC (.d (.k d.1)))
def RE(rec118:(AA CH)->AB (AA Int))(n:Nat)(g:AA CH):AB (AA Int):=AH (iter (MF n g rec118) n ([],0):AB (CG (AA Int) (AA Int))) λf=>match f with|.k d=>(AC d)|.d d=>AC d
theorem Qc6(rec118:(AA CH)->AB (AA Int))(Q:∀(B:AA CH),Kq (rec118 B) 260 [.q 3 (map CH.enc B)] [] (λr=>.o 0 (AI r) 1) (λr=>[.r 3 1 (map eI r)]))(n:Nat)(B:AA CH):Kq (RE rec118 n B) 260 [.q 3 (map CH.enc B)] [] (λr=>.o 0 (AI r) 1) (λr=>[.r 3 1 (map eI r)]):=by
 refine Kg 9 func260 Z Z Z Z λr h=>Lg 3 Z Z (Bd h λR T h=>E_ (b:=R) [0] [] (λg=>[(2,.o 0 (AI g) 1)]) (λg=>[(0,.r 3 1 (map eI g))]) Zf ?_ (λg E=>?_))
 .refine G0 1 Z (Lp [0] [6,7] (λm=>[(2,.o 0 (AI m.1) 1),(8,I m.2)]) (λm=>[(0,.r 3 1 (map eI m.1))]) T Zf ?_ ?_)
  .refine En (Er (s:=2) (k:=1) (t:=3) (XQ Z) Z) ?_;exact Lr [0]
  intro m Y d F;refine G0 6 Z (Q8 Z d (λ_ d=>?_) (λ_ d=>?_))
  .exact Je F d
  refine Gc 6 Z (Bd d λy M d=>FW M (QN y) Z (Go 9 Z (vH (Ek (xs:=[.tmp 13]) (es:=map eI [y.Al]) QF Z Z Z Z Z ⟨Z,trivial⟩ Z Z) ?_)));refine Fg 11 Z Z (Bd d λq V d=>Ct q [0,1,0] [2,4,6,7,8] (λq=>[(5,.o 2 (AI q) 1)]) (λq=>[(2,.r 3 1 (map eI q))]) Zf ?_ (λenv H G=>?_))
  .exact au V
  refine Gx 1 Z (Ee G (Gc 4 Z ?_));refine vX (I (if y.Ax<1 then 1 else y.Ax)) (CT.max Z Z Z Z) ?_;refine Go 3 Z (Bd d λW X d=>Fe (b:=W) [0] [6,7,8] (λj=>[(2,.o 0 (AI j) 1)]) (λj=>[(0,.r 3 1 (map eI j))]) Zf ?_ (λj env H E G=>?_))
  .refine G0 1 Z (Lp [0,2] [5,6,7,8,23] (λx=>[(2,.o 0 (AI x.1) 1),(24,I x.2)]) (λx=>[(0,.r 3 1 (map eI x.1))]) X Zf (Lr [0,2]) λx aa f J=>?_);refine G0 6 Z (Q8 Z f (λ_ f=>?_) (λ_ f=>?_))
   .exact Je J f
   refine Gc 12 Z (Cn Z f (λ_ f=>?_) (λ_ f=>?_))
   .refine Gc 10 Z (JV f ?_);obtain rfl:=Oj J f;exact DX F d h
   refine Gc 5 Z (Bd f λab P f=>vH (Qj (e:=eI) P QF EB (QC (i:=1))) ?_);exact au f
  subst E;exact Gx 2 Z (Ee G (Gc 4 Z (Q1 d (Lr [0]))))
 subst E;exact au h
def KP:Nat->(AA CH)->AB (AA Int)
  |0=>λ_=>AF
  |n+1=>RE (KP n) n
instance _J:∀(d:AA CH),Kq (KP n d) 260 [.q 3 (map CH.enc d)] [] (λr=>.o 0 (AI r) 1) (λr=>[.r 3 1 (map eI r)]):=by
  induction n with
  |zero=>exact λ_=>⟨nofun⟩
  |succ n ih=>exact Qc6 _ ih n
def Od(n:Nat)(d:CO)(f:AA (Int×Int)):AB Bool:=AH (AC (Qm f d.Al 0)) λg=>AC (AG (d.B_<=g))
instance xV(d:CO)(f:AA (Int×Int)):Ks (Od n d f) 261 [.a (CO.c d),.p 0 0] [.c 137 [.map 1],.map (Qn I I f)] (λr=>.b r):=by
 refine Kg 11 func261 Z Z Z Z λr h=>Bd h λj g h=>(vV (Q7 YM g EK EV Eo) ?_);exact au h
def fH(d:CO)(f:AA (Int×Int)):AB Bool:=AH (Od n d f) λg=>AC (!g)
instance vw(d:CO)(f:AA (Int×Int)):Ks (fH n d f) 287 [.a (CO.c d),.p 0 0] [.c 375 [.fn (.func 261) [] [.p 1 0]],.c 137 [.map 2],.map (Qn I I f)] (λr=>.b r):=KA func287
def ng(f:AA CO)(j:AA (Int×Int))(d:Int):AB (CG Int (CG Unit Int)):=(bif d<(AI f:Int) then AH (CJ f d) λg=>AH (fH n g j) λh=>(bif h then AC (.d (.d d))else AC (.k (i64.wrap (d+1))))else AC (.d (.k ())))
def fR(g:AA CO)(h:AA (Int×Int)):AB Int:=AH (iter (ng n g h) n 0:AB (CG Unit Int)) λf=>match f with|.k d=>(AC (-1))|.d d=>AC d
instance wC(d:AA CO)(f:AA (Int×Int)):Ks (fR n d f) 315 [.q 3 (map CO.c d),.fn (.func 287) [] [.p 0 0]] [.c 375 [.fn (.func 261) [] [.p 1 0]],.c 137 [.map 2],.map (Qn I I f)] (λr=>I r):=KA func315
def e9(d:AA CO)(f:AA (Int×Int)):AB Bool:=AH (fR n d f) λg=>AC (AG (0<=g))
instance vk(d:AA CO)(f:AA (Int×Int)):Ks (e9 n d f) 286 [.q 3 (map CO.c d),.fn (.func 287) [] [.p 0 0]] [.c 375 [.fn (.func 261) [] [.p 1 0]],.c 137 [.map 2],.map (Qn I I f)] (λr=>.b r):=KA func286
def eu(d:AA CO)(f:AA (Int×Int)):AB Bool:=AH (e9 n d f) λg=>AC (!g)
instance va(d:AA CO)(f:AA (Int×Int)):Ks (eu n d f) 239 [.q 3 (map CO.c d),.fn (.func 261) [] [.p 0 0]] [.c 137 [.map 1],.map (Qn I I f)] (λr=>.b r):=KA func239
def K3(n:Nat)(y:CB)(B:AA (Ul×Bool))(g:AA Int)(d:(AA (Int×Int))×Int):AB (CG ((AA (Int×Int))×Int) (CG (AA (Int×Int)) Bool)):=(bif d.2<(AI g:Int) then AH (CJ g d.2) λf=>AH (CJ y.Av f) λh=>AH ((bif ((h.AX==1) != (d.2==0))then AC AE else(bif ((h.AX==3) != (d.2==(i64.wrap ((AI g:Int)-1))))then AC AE else(bif 0<d.2 then AH (CJ g (i64.wrap (d.2-1))) λj=>AH (AC (Qm B ({BZ:=j,to_:=f:Ul}) AD)) λm=>AC (!m)else AC AD))):AB Bool) λq=>(bif q then AC (.d (.d AD))else AH (AC (Qm d.1 f 0)) λt=>AH (AC (QK d.1 f (i64.wrap (t+1)))) λx=>AC (.k (x,i64.wrap (d.2+1))))else AC (.d (.k d.1)))
def Oz(h:CB)(f:AN)(j:AA (Ul×Bool)):AB Bool:=AH (KP n f.Af) λg=>AH ((bif (i64.wrap ((AI g:Int)-1))<1 then AC AE else AC (AG (256<=(i64.wrap ((AI g:Int)-1))))):AB Bool) λE=>(bif E then AC AD else AH (iter (K3 n h j g) n ([],0):AB (CG (AA (Int×Int)) Bool)) λm=>match m with|.k d=>(AH ((bif 0<=f.Am then AH (AC (Qm d f.Am 0)) λq=>(bif (q==0)then AC AE else AH (CJ h.Av f.Am) λt=>(bif (t.AX != 2)then AC AE else AH (AC (Qm j ({BZ:=f.Am,to_:=f.Am:Ul}) AD)) λx=>AC (!x)))else AC AD):AB Bool) λy=>(bif y then AC AD else AH (eu n f.Aq d) λB=>AC B))|.d d=>AC d)
instance xk(a1:CB)(y:AN)(L:AA (Ul×Bool)):Ks (Oz n a1 y L) 160 [.a (CB.c a1),.a (AN.c y),.map 0] [.map (Qn (λx=>A.a (Ul.c x)) A.b L)] (λr=>.b r):=by
 refine Kg 11 func160 Z Z Z Z λr h=>Cd [] h Kc Z λr1 aq h=>Fg 13 Z Z (Bd h λP h4 h=>Ct P [0,1,2,3] [2,3,4,7,8] (λP=>[(25,.b P)]) Ze Zf ?_ (λenv H m=>?_))
 .exact au h4
 refine Gx 1 Z (Ee m (Cn Z h (λ_ h=>?_) (λ_ h=>?_)))
 .exact au h
 refine Gc 4 Z (vH Yj ?_);refine Fg 12 Z Z (Bd h λaj ak h=>Fe (b:=aj) [0,1,2,4,5] [2,3,4] (λ_=>[(9,.p 3 0)]) (λq=>[(3,.c 137 [.map 4]),(4,.map (Qn I I q))]) Zf ?_ (λq env H al m=>?_))
 .refine G0 1 Z (Lp [0,1,2,3,5,4] [2,3,4,7,8,9,27,28] (λj=>[(29,I j.2)]) (λj=>[(4,.c 137 [.map 5]),(5,.map (Qn I I j.1))]) ak Zf (Lr [0,1,2,3,5,4]) λj ar d B=>?_);refine G0 6 Z (Q8 Z d (λ_ d=>?_) (λ_ d=>?_))
  .exact Je B d
  refine Gc 7 Z (Bd d λt E d=>?_);refine vX (.p 3 (toNat j.2*1)) (Qd E Z EB EC) ?_;refine vX (I t) (Ez Z EE Z (Qh E)) ?_;refine Go 9 Z (Bd d λM R d=>Iz R Z (Go 7 Z (Bd d λF g d=>Ct F [0,1,2,3,4,5] [2,3,4,7,8,9,11,27,28,29] (λF=>[(68,.b F)]) Ze Zf ?_ (λenv H m=>?_))))
  .refine G0 5 Z ?_;refine vX (.b ((M.AX==1) != (j.2==0))) (sy runUnderlying4) ?_;refine Go 1 Z (Is 45 g Z (λ_ g=>?_) (λ_ g=>?_))
   .exact au g
   .refine Go 5 Z ?_;refine vV (x:=(.b ((M.AX==3) != (j.2==(i64.wrap ((AI r1:Int)-1)))))) (sy runUnderlying4) ?_ (gT Z);refine Go 2 Z (Is 53 g Z (λ_ g=>?_) (λ_ g=>?_))
    .exact au g
    .refine Go 3 Z (Is 56 g Z (λ_ g=>?_) (λ_ g=>?_))
     .refine Go 4 Z (Bd g λN G g=>?_);refine vX (.p 3 (toNat (i64.wrap (j.2-1))*1)) (Qd G Z EB EC) ?_ (gT Z);refine vX (I N) (Ez Z EE Z (Qh G)) ?_ (gT Z);refine Go 2 Z (Bd g λam X g=>?_);refine vX (.b am) (Q7 (ev:=A.b) (z0:=AD) (k:=({BZ:=N,to_:=t:Ul})) (l:=L) dp X Gv E7 ZR.bool) ?_ (gT Z);exact au g
     exact au g
  refine Gx 1 Z (Ee m (Cn Z d (λ_ d=>?_) (λ_ d=>?_)))
  .exact DX B d h
  refine Gc 5 Z (Bd d λO aa d=>?_);refine vX (I O) (Q7 (ev:=I) (z0:=0) (k:=t) (l:=j.1) YM aa EK EV Eo) ?_;refine Go 1 Z (Bd d λav ab d=>?_);refine vU (Yf (ev:=I) (k:=t) (v:=(i64.wrap (O+1))) (l:=j.1) YM ab Z EK) ?_;exact au d
 subst al;refine Gx 1 Z (Ee m (Gc 9 Z (Bd h λJ f h=>Cg J [0,2,3,4] [4,9] (λJ=>[(100,.b J)]) (λ_=>[(2,.c 137 [.map 3])]) Zf ?_ ?_)))
 .refine G0 4 Z (Is 78 f Z (λ_ f=>?_) (λ_ f=>?_))
  .refine Go 2 Z (Bd f λan ad f=>?_);refine vX (I an) (Q7 (ev:=I) (z0:=0) (k:=y.Am) (l:=q) YM ad EK EV Eo) ?_ (gT Z);refine Go 2 Z (Is 83 f Z (λ_ f=>?_) (λ_ f=>?_))
   .exact au f
   .refine Go 3 Z (Bd f λaw af f=>Iz af Z (Go 5 Z (Is 92 f Z (λ_ f=>?_) (λ_ f=>?_))))
    .exact au f
    .refine Go 4 Z (Bd f λao ah f=>?_);refine vX (.b ao) (Q7 (ev:=A.b) (z0:=AD) (k:=({BZ:=y.Am,to_:=y.Am:Ul})) (l:=L) dp ah Gv E7 ZR.bool) ?_ (gT Z);exact au f
  exact au f
 exact au h
def WK(d:AN)(f:CB)(g:AA (Ul×Bool)):AB Bool:=AH (Oz n f d g) λh=>AC h
instance wW(d:AN)(f:CB)(g:AA (Ul×Bool)):Ks (WK n d f g) 159 [.a (AN.c d),.p 0 0,.p 1 0] [.c 33 (CB.c f),.c 292 [.map 2],.map (Qn (λx=>A.a (Ul.c x)) A.b g)] (λr=>.b r):=KA func159
def fB(d:AN)(f:CB)(g:AA (Ul×Bool)):AB Bool:=AH (WK n d f g) λh=>AC (!h)
instance vq(d:AN)(f:CB)(g:AA (Ul×Bool)):Ks (fB n d f g) 259 [.a (AN.c d),.p 0 0] [.c 297 [.fn (.func 159) [] [.p 1 0,.p 2 0]],.c 33 (CB.c f),.c 292 [.map 3],.map (Qn (λx=>A.a (Ul.c x)) A.b g)] (λr=>.b r):=KA func259
def nS(f:AA AN)(j:CB)(m:AA (Ul×Bool))(d:Int):AB (CG Int (CG Unit Int)):=(bif d<(AI f:Int) then AH (CJ f d) λg=>AH (fB n g j m) λh=>(bif h then AC (.d (.d d))else AC (.k (i64.wrap (d+1))))else AC (.d (.k ())))
def ey(g:AA AN)(h:CB)(j:AA (Ul×Bool)):AB Int:=AH (iter (nS n g h j) n 0:AB (CG Unit Int)) λf=>match f with|.k d=>(AC (-1))|.d d=>AC d
instance vd(d:AA AN)(f:CB)(g:AA (Ul×Bool)):Ks (ey n d f g) 303 [.q 5 (map AN.c d),.fn (.func 259) [] [.p 0 0]] [.c 297 [.fn (.func 159) [] [.p 1 0,.p 2 0]],.c 33 (CB.c f),.c 292 [.map 3],.map (Qn (λx=>A.a (Ul.c x)) A.b g)] (λr=>I r):=KA func303
def fT(d:AA AN)(f:CB)(g:AA (Ul×Bool)):AB Bool:=AH (ey n d f g) λh=>AC (AG (0<=h))
instance wD(d:AA AN)(f:CB)(g:AA (Ul×Bool)):Ks (fT n d f g) 258 [.q 5 (map AN.c d),.fn (.func 259) [] [.p 0 0]] [.c 297 [.fn (.func 159) [] [.p 1 0,.p 2 0]],.c 33 (CB.c f),.c 292 [.map 3],.map (Qn (λx=>A.a (Ul.c x)) A.b g)] (λr=>.b r):=KA func258
def WJ(d:AA AN)(f:CB)(g:AA (Ul×Bool)):AB Bool:=AH (fT n d f g) λh=>AC (!h)
instance wV(d:AA AN)(f:CB)(g:AA (Ul×Bool)):Ks (WJ n d f g) 158 [.q 5 (map AN.c d),.fn (.func 159) [] [.p 0 0,.p 1 0]] [.c 33 (CB.c f),.c 292 [.map 2],.map (Qn (λx=>A.a (Ul.c x)) A.b g)] (λr=>.b r):=KA func158
def OV(n:Nat)(g:CB)(d:(AA (Ul×Bool))×Int):AB (CG ((AA (Ul×Bool))×Int) (AA (Ul×Bool))):=(bif d.2<(AI g.A4:Int) then AH (CJ g.A4 d.2) λf=>AH (AC (QK d.1 ({BZ:=f.BA,to_:=f.To:Ul}) AE)) λh=>AC (.k (h,i64.wrap (d.2+1)))else AC (.d d.1))
def DZ(d:CB):AB Int:=AH (PC n d) λj=>(bif (!j)then AC 2 else AH (Wx n d) λm=>(bif (!m)then AC 70 else AH (Pq n d) λq=>(bif (!q)then AC 71 else AH (WI n d.BN) λf=>(bif (f != 0)then AC f else AH (iter (OV n d) n ([],0):AB (AA (Ul×Bool))) λg=>AH (WJ n d.AO d g) λh=>(bif (!h)then AC 72 else AC 0)))))
instance k_a(y:CB):Ks (DZ n y) 87 [.a (CB.c y)] [] (λr=>I r):=by
 refine Kg 11 func87 Z Z Z Z λr h=>Cz [] h Kc Z λR J h=>Go 4 Z (Cn Z h (λ_ h=>?_) (λ_ h=>?_))
 .exact au h
 refine Gc 3 Z (Cz [] h Kc Z λT L h=>Go 4 Z (Cn Z h (λ_ h=>?_) (λ_ h=>?_)))
 .exact au h
 refine Gc 3 Z (Cz [] h Kc Z λV M h=>Go 4 Z (Cn Z h (λ_ h=>?_) (λ_ h=>?_)))
 .exact au h
 refine Gc 8 Z (Cz [] h Kc Z λW N h=>Go 9 Z (Cn Z h (λ_ h=>?_) (λ_ h=>?_)))
 .exact au h
 refine Gc 4 Z (vH Yj ?_);refine Fg 9 Z Z (Lg 3 Z Z (Bd h λg H h=>Cg g [0,1,2] [1] (λ_=>[(3,.p 1 0)]) (λg=>[(1,.c 292 [.map 2]),(2,.map (Qn (λx=>A.a (Ul.c x)) A.b g))]) Zf ?_ ?_))
 .refine G0 1 Z (Lp [0,2,1] [1,3,26,27] (λf=>[(28,I f.2)]) (λf=>[(1,.c 292 [.map 2]),(2,.map (Qn (λx=>A.a (Ul.c x)) A.b f.1))]) H Zf (Lr [0,2,1]) λf O d j=>?_);refine G0 6 Z (Q8 Z d (λ_ d=>?_) (λ_ d=>?_))
  .exact Je j d
  refine Gc 6 Z (Bd d λP q d=>Iz q Z (Go 12 Z (Bd d λQ t d=>?_)));exact vU (Yf dp t Z Gv) (Fg 7 Z Z (Q1 d (Lr [0,1,2])))
 exact au h
def IS(n:Nat)(d:Int):AB Bool:=AH ((bif (-1099511627776)<=d then AC (AG (d<=1099511627776))else AC AD):AB Bool) λf=>AC f
instance zq(d:Int):Ks (IS n d) 119 [I d] [] (λr=>.b r):=KA func119
def PR(n:Nat)(d:Int):AB Unit:=AC ()
instance yN(d:Int):Ks (PR n d) 117 [I d] [] (λ_=>.b (d != d)):=KA func117
def Ky(f:Int)(d:Int):AB Int:=AH (PR n f) λg=>AH (PR n d) λh=>(bif (f != f)then(bif (d != d)then AC 0 else AC (-1))else(bif (d != d)then AC 1 else(bif f<d then AC (-1)else(bif d<f then AC 1 else AC 0))))
instance k_w(d:Int)(f:Int):Ks (Ky n d f) 60 [I d,I f] [] (λr=>I r):=KA func60
def IM(n:Nat)(g:AA Int)(d:Int):AB (CG Int (CG Unit Int)):=(bif d<(AI g:Int) then AH (CJ g d) λf=>(bif (f != 0)then AC (.d (.d f))else AC (.k (i64.wrap (d+1))))else AC (.d (.k ())))
def KF(f:AA Int):AB Int:=AH (iter (IM n f) n 0:AB (CG Unit Int)) λg=>match g with|.k d=>(AC 0)|.d d=>AC d
instance zb(d:AA Int):Ks (KF n d) 59 [.q 1 (map eI d)] [] (λr=>I r):=KA func59
def Wt(d:Ua)(f:Ua):AB Int:=AH (Ky n d.mat f.mat) λg=>AH (Ky n d.BT f.BT) λh=>AH (KF n [g,h]) λj=>AC j
instance xI(d:Ua)(f:Ua):Ks (Wt n d f) 193 [.a [I d.mat,I d.BT],.a [I f.mat,I f.BT]] [] (λr=>I r):=KA func193
def Mk(d:CD)(f:CD):AB Int:=AH (Wt n ({mat:=d.Al,BT:=d.Ah:Ua}) ({mat:=f.Al,BT:=f.Ah:Ua})) λg=>AC g
instance zD(d:CD)(f:CD):Ks (Mk n d f) 120 [.a (CD.c d),.a (CD.c f)] [] (λr=>I r):=KA func120
def Ow(n:Nat)(d:Int):AB Bool:=AH ((bif d<(-2199023255552) then AC AE else AC (AG (2199023255552<d))):AB Bool) λf=>AC f
instance xi(d:Int):Ks (Ow n d) 122 [I d] [] (λr=>.b r):=KA func122
def nn(f:AA Int)(d:Int):AB (CG Int (CG Unit Int)):=(bif d<(AI f:Int) then AH (CJ f d) λg=>AH (Ow n g) λh=>(bif h then AC (.d (.d d))else AC (.k (i64.wrap (d+1))))else AC (.d (.k ())))
def WB(g:AA Int):AB Int:=AH (iter (nn n g) n 0:AB (CG Unit Int)) λf=>match f with|.k d=>(AC (-1))|.d d=>AC d
instance wO(d:AA Int):Ks (WB n d) 194 [.q 1 (map eI d),.f 122] [] (λr=>I r):=KA func194
end Go.Sw
