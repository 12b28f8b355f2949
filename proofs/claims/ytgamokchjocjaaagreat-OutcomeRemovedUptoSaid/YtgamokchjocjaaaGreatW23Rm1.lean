/- What the functions compute that OutcomeRemoved reaches, and that their calls refine it (part 1 of 6). -/
import Derived.Test.YtgamokchjocjaaaGreatW23RmB
import Derived.Test.YtgamokchjocjaaaGreatV23Rm
set_option linter.unusedVariables false
set_option linter.unusedSimpArgs false
set_option maxRecDepth 100000
set_option maxHeartbeats 4000000
namespace Go.Sw
open Option renaming some→AC,none→AF,bind→AH
open Bool renaming false→AD,true→AE
open Decidable renaming decide→AG
open List renaming length→AI
variable (n:Nat)
open List(map)
open Int(toNat)
open Go.IntKind(i64 u64 u8)
open Go.Proofs Tryz
def eH(n:Nat)(d:Int):AB (AA AN):=AH ((bif 0<d then AC [{Am:=1,B9:=1,Bu:=d:CO}]else AC []):AB (AA CO)) λf=>AC [{Ap:=[100],Ad:=[UA,{UA with Am:=1:CH}],BH:=1,Ar:=f,Ak:=(-1):AN}]
instance uC(g:Int):Kq (eH n g) 41 [I g] [] (λr=>.a [.str [99],.o 0 ([{Ap:=[115],AY:=1:Am},{Ap:=[101],AY:=3:Am}].length) 2,.o 1 ([{A':=0,To:=1,Bp:=10,Bq:=1000:Co}].length) 4,.o 2 (AI r) 5,.o 3 ([{Ap:=[119],B_:=0:A3}].length) 2,.q 4 (map AZ.c []),.q 3 (map AW.c []),.q 4 (map CS.c []),.o 4 ([{UI with AY:=1,By:=4:AX}].length) 8,I 0,I 0,I 0,I 0,I 0,I 0,I 0]) (λr=>[.r 207 2 (map Am.c [{Ap:=[115],AY:=1:Am},{Ap:=[101],AY:=3:Am}]),.r 214 4 (map Co.c [{A':=0,To:=1,Bp:=10,Bq:=1000:Co}]),.r 160 5 (map AN.c r),.r 228 2 (map A3.c [{Ap:=[119],B_:=0:A3}]),.r 233 8 (map AX.enc [{UI with AY:=1,By:=4:AX}]),.c 33 [.str [99],.o 0 ([{Ap:=[115],AY:=1:Am},{Ap:=[101],AY:=3:Am}].length) 2,.o 1 ([{A':=0,To:=1,Bp:=10,Bq:=1000:Co}].length) 4,.o 2 (AI r) 5,.o 3 ([{Ap:=[119],B_:=0:A3}].length) 2,.q 4 (map AZ.c []),.q 3 (map AW.c []),.q 4 (map CS.c []),.o 4 ([{UI with AY:=1,By:=4:AX}].length) 8,I 0,I 0,I 0,I 0,I 0,I 0,I 0]]):=by
 refine Kg 9 func41 Z Z Z Z λr h=>vH (El (xs:=[.tmp 4,.tmp 5]) z_ Z Z Z Z Z ⟨Z,Z,trivial⟩ Z Z) ?_;refine Fg 12 Z Z (Bd h λf d h=>Cg f [0,2,1] [2,3] Ze (λf=>[(1,.c 160 [.str [100],.o 2 ([UA,{UA with Am:=1:CH}].length) 3,I 1,.q 3 (map CO.c f),I (-1)])]) Zf ?_ ?_)
 .refine G0 0 Z (Cn Z d (λ_ d=>?_) (λ_ d=>?_))
  .refine Gc 3 Z (vH (El (xs:=[.tmp 11]) _A Z Z Z Z Z ⟨Z,trivial⟩ Z Z) (Fg 3 Z Z ?_));cases d;exact Eo (Yo [(12,_)] Z Z (Cy.cons Z Er Cy.nil) (Ec (Ec (Dh.cells (Ed (Ee _) (Ed (Ee _) (Ed (Ee _) (Ed Er (Ek _))))) (Ec (QT _)))))) (Lr [0,2,1])
  exact au d
 refine Gc 4 Z (vH (El (xs:=[.tmp 14,.tmp 15]) bQ Z Z Z Z Z ⟨Z,Z,trivial⟩ Z Z) (Fg 1 Z Z (vH (El (xs:=[.tmp 17]) bP Z Z Z Z Z ⟨Z,trivial⟩ Z Z) ?_)));refine Fg 1 Z Z ?_;refine Eu (Yo [(19,_)] Z Z (Cy.cons Z (DM.agg (Ed (Ee _) (Ed Er (Ek _)))) Cy.nil) (Ec (Dh.cells (Ed (Ee _) (Ed Er (Ek _))) (Ec (QT _))))) (vH (El (xs:=[.tmp 19]) bO Z Z Z Z Z ⟨Z,trivial⟩ Z Z) ?_);exact au h
def ZS(n:Nat):AB Unit:=AC ()
instance fP:Kq (ZS n) 14 [] [] (λ_=>.a [.q 3 (map CC.c []),.o 0 ([[0]].length) 1]) (λ_=>[.r 114 1 (map (Qx 1 (Qe .i64)) [[0]]),.c 39 [.q 3 (map CC.c []),.o 0 ([[0]].length) 1]]):=by
 refine Kg 7 func14 Z Z Z Z λr h=>vH (El (xs:=[.const (.int .i64 0)]) Qu Z Z Z Z Z ⟨Z,trivial⟩ Z Z) ?_;refine Eu (Yo [(1,_)] Z Z (Cy.cons Z Er Cy.nil) (Ec (Ec (QT _)))) ?_;refine vH (El (xs:=[.tmp 1]) np Z Z Z Z Z ⟨Z,trivial⟩ Z Z) (Fg 5 Z Z ?_);exact Rx [2,0] [0] Z (JK Z (Yg isAgg39 sizeOf39 Z Z Z)) ⟨Z,Z⟩
def TZ(n:Nat)(f:AA CF)(d:Ui×Int):AB (CG (Ui×Int) Ui):=(bif d.2<(AI f:Int) then AH (CJ f d.2) λg=>AC (.k ({d.1 with Ba:=i64.wrap (d.1.Ba+g.As):Ui},i64.wrap (d.2+1)))else AC (.d d.1))
def O9(f:CB)(g:CE)(h:AP)(j:AA CN)(k:AA Ae)(d:AA CF)(m:Int):AB Ui:=AH (iter (TZ n d) n ({A4:=f,Bj:=g,Aj:=h,B6:=j,Bt:=k,BV:=d,Ba:=0,Ao:=m:Ui},0):AB Ui) λq=>AC q
instance xF(g:CB)(j:CE)(k:AP)(m:AA CN)(q:AA Ae)(t:AA CF)(x:Int):Kq (O9 n g j k m q t x) 26 [.a (CB.c g),.a (CE.c j),.a (AP.c k),.q 5 (map CN.c m),.q 4 (map Ae.c q),.q 4 (map CF.c t),I x] [] (λr=>.a (Ui.c r)) (λr=>[.c 110 (Ui.c r)]):=by
 refine Kg 26 func26 Z Z Z Z λr h=>Lg 3 Z Z (Bd h λf B h=>Cg f [0,1] [] (λ_=>[(14,.p 0 0),(15,.p 1 0)]) (λf=>[(0,.c 110 (Ui.c E_)),(1,.c 110 (Ui.c f))]) Zf ?_ ?_)
 .refine G0 1 Z (Lp [3,4] [14,15,26,27] (λd=>[(28,I d.2)]) (λd=>[(1,.c 110 (Ui.c d.1))]) B Zf (Lr [3,4]) λd E y z=>?_);exact Jc z y
 exact au h
def Lj(n:Nat)(j:AA CH)(k:Int)(rec12:(AA CH)->Int->AB (Int×Int))(d:Int×Int×Int):AB (CG (Int×Int×Int) (Int×Int)):=(bif d.2.2<(AI j:Int) then AH (AH (CJ j d.2.2) λg=>AH ((bif ((AI g.Ac:Int)==0)then AC AE else(bif (k==0)then AC AE else AC (AG (256<d.2.1)))):AB Bool) λm=>(bif m then AC (d.1,d.2.1)else AH (rec12 g.Ac (i64.wrap (k-1))) λf=>AC ((if d.1<i64.wrap (f.1+1)then i64.wrap (f.1+1)else d.1),i64.wrap (d.2.1+f.2))):AB (Int×Int)) λh=>AC (.k (h.1,h.2,i64.wrap (d.2.2+1)))else AC (.d (d.1,d.2.1)))
def iF(rec12:(AA CH)->Int->AB (Int×Int))(n:Nat)(f:AA CH)(g:Int):AB (Int×Int):=AH (iter (Lj n f g rec12) n (0,(AI f:Int),0):AB (Int×Int)) λd=>AC (d.1,d.2)
theorem QdC(rec12:(AA CH)->Int->AB (Int×Int))(B:∀(m:AA CH) (q:Int),Ks (rec12 m q) 215 [.q 3 (map CH.enc m),I q] [] (λr=>.t [I r.1,I r.2]))(n:Nat)(m:AA CH)(q:Int):Ks (iF rec12 n m q) 215 [.q 3 (map CH.enc m),I q] [] (λr=>.t [I r.1,I r.2]):=by
 refine Kg 9 func215 Z Z Z Z λr h=>Lg 7 Z Z (Lg 3 Z Z (Bd h λg E h=>Cg g [] [] (λg=>[(4,I g.1),(5,I g.2)]) Ze Zf ?_ ?_))
 .refine G0 1 Z (Lp [] [1,12,13] (λj=>[(4,I j.1),(5,I j.2.1),(14,I j.2.2)]) Ze E Zf (Lr []) λj H d x=>?_);refine G0 6 Z (Q7 Z d (λ_ d=>?_) (λ_ d=>?_))
  .exact Jc x d
  refine Gc 3 Z (Bd d λk f d=>Cg k [] [1,12,13,14] (λk=>[(4,I k.1),(5,I k.2)]) Ze Zf ?_ ?_)
  .refine G0 3 Z (Bd f λF z f=>FJ z (QL F) Z (Go 7 Z (Bd f λt G f=>Cg t [0] [1,4,5,7,12,13,14] (λt=>[(29,.b t)]) Ze Zf ?_ ?_)))
   .exact au G
   exact au f
  exact au d
 exact au h
def Sj:Nat->(AA CH)->Int->AB (Int×Int)
  |0=>λ_ _=>AF
  |n+1=>iF (Sj n) n
instance k_y:∀(d:AA CH) (f:Int),Ks (Sj n d f) 215 [.q 3 (map CH.enc d),I f] [] (λr=>.t [I r.1,I r.2]):=by
  induction n with
  |zero=>exact λ_ _=>⟨nofun⟩
  |succ n ih=>exact QdC _ ih n
def S2(h:CB)(d:Int):AB (CG Int (CG Unit Bool)):=(bif d<(AI h.AO:Int) then AH (CJ h.AO d) λf=>AH (Sj n f.Ad 17) λg=>AH ((bif 64<(AI f.Ar:Int) then AC AE else(bif 16<g.1 then AC AE else AC (AG (256<g.2)))):AB Bool) λj=>(bif j then AC (.d (.d AD))else AC (.k (i64.wrap (d+1))))else AC (.d (.k ())))
def PI(d:CB):AB Bool:=AH ((bif 40<(AI d.Au:Int) then AC AE else(bif 512<(AI d.Az:Int) then AC AE else(bif 8<(AI d.AO:Int) then AC AE else(bif 32<(AI d.A0:Int) then AC AE else(bif 32<(AI d.Ab:Int) then AC AE else(bif 32<(AI d.AV:Int) then AC AE else AC (AG (32<(AI d.Ay:Int))))))))):AB Bool) λh=>(bif h then AC AD else AH (iter (S2 n d) n 0:AB (CG Unit Bool)) λg=>match g with|.k f=>(AC AE)|.d f=>AC f)
instance xQ(d:CB):Ks (PI n d) 147 [.a (CB.c d)] [] (λr=>.b r):=KA func147
def La(n:Nat)(d:(AA Int)×Int):AB (CG ((AA Int)×Int) (AA Int)):=(bif d.2<=122 then AH (LN 256 d.1 d.2) λh=>AH (JG d.1 d.2 2) λf=>AH (LN 256 f (u8.wrap (d.2-32))) λj=>AH (JG f (u8.wrap (d.2-32)) 2) λg=>AC (.k (g,u8.wrap (d.2+1)))else AC (.d d.1))
def Nb(n:Nat)(d:(AA Int)×Int):AB (CG ((AA Int)×Int) (AA Int)):=(bif d.2<=57 then AH (LN 256 d.1 d.2) λg=>AH (JG d.1 d.2 3) λf=>AC (.k (f,u8.wrap (d.2+1)))else AC (.d d.1))
def Sz(n:Nat)(d:(AA Int)×Int):AB (CG ((AA Int)×Int) (AA Int)):=(bif d.2<([123,125,40,41,91,93,59,44,61,60,62].length:Int) then AH (CJ [123,125,40,41,91,93,59,44,61,60,62] d.2) λf=>AH (LN 256 d.1 f) λh=>AH (JG d.1 f 4) λg=>AC (.k (g,i64.wrap (d.2+1)))else AC (.d d.1))
def d7(n:Nat)(d:(AA Int)×Int):AB (CG ((AA Int)×Int) (AA Int)):=(bif d.2<(([32,9,10,13].length):Int) then AH (CJ [32,9,10,13] d.2) λf=>AH (LN 256 d.1 f) λh=>AH (JG d.1 f 1) λg=>AC (.k (g,i64.wrap (d.2+1)))else AC (.d d.1))
def PP:AB (AA Int):=AH (iter (La n) n (List.replicate 256 0,97):AB (AA Int)) λf=>AH (iter (Nb n) n (f,48):AB (AA Int)) λg=>AH (iter (Sz n) n (g,0):AB (AA Int)) λh=>AH (iter (d7 n) n (h,0):AB (AA Int)) λd=>AH (NG 256 d) λj=>AH (NG 256 d) λm=>AH (NG 256 j) λk=>AC k
instance i4:Kq (PP n) 319 [] [] (λr=>.a (List.flatten (map (Qe .u8) r))) (λr=>[.r 442 1 (map (Qe .u8) r)]):=by
 refine Kg 2 func319 Z Z Z Z λr h=>vH (tE (n:=256) (k:=1) (e:=(Qe .u8)) (z:=0) zeroValue442 (by kernel_rfl) (by kernel_rfl) (by kernel_rfl) Z) ?_;refine Fg 8 Z Z (Bd h λG an h=>Ct G [0] [0] Ze (λG=>[(0,.r 442 1 (map (Qe .u8) G))]) Zf ?_ (λenv H y=>?_))
 .refine G0 1 Z (Lp [0] [0] (λq=>[(1,.i .u8 q.2)]) (λq=>[(0,.r 442 1 (map (Qe .u8) q.1))]) an Zf (Lr [0]) λq az d W=>?_);refine G0 7 Z (Q7 Z d (λ_ d=>?_) (λ_ d=>?_))
  .exact Jc W d
  refine Gc 8 Z (Bd d λba J d=>?_);refine vX (.p 0 (toNat q.2*1)) (ZM (n:=256) (k:=1) (l:=q.1) J Ga Gb Z) ?_;refine Bd d λao Y d=>?_;refine vU (Yv (e:=(Qe .u8)) (k:=1) (f:=0) (SX J).2 Y Gb Z Z) ?_;refine FE Z (Bd d λbb L d=>?_);refine vX (.p 0 (toNat (u8.wrap (q.2-32))*1)) (ZM (n:=256) (k:=1) (l:=ao) L Ga Gb Z) ?_;refine Bd d λbc aa d=>?_;refine vU (Yv (e:=(Qe .u8)) (k:=1) (f:=0) (SX L).2 aa Gb Z Z) ?_;exact au d
 refine Gx 1 Z (Ef y (Gc 6 Z (Bd h λM aq h=>Ct M [0] [0] Ze (λM=>[(0,.r 442 1 (map (Qe .u8) M))]) Zf ?_ (λenv H y=>?_))))
 .refine G0 1 Z (Lp [0] [0] (λt=>[(2,.i .u8 t.2)]) (λt=>[(0,.r 442 1 (map (Qe .u8) t.1))]) aq Zf (Lr [0]) λt bd m ab=>?_);refine G0 7 Z (Q7 Z m (λ_ m=>?_) (λ_ m=>?_))
  .exact Jc ab m
  refine Gc 6 Z (Bd m λbe N m=>?_);refine vX (.p 0 (toNat t.2*1)) (ZM (n:=256) (k:=1) (l:=t.1) N Ga Gb Z) ?_;refine Bd m λbg ad m=>?_;refine vU (Yv (e:=(Qe .u8)) (k:=1) (f:=0) (SX N).2 ad Gb Z Z) ?_;exact au m
 refine Gx 1 Z (Ef y (Gc 3 Z (vH (El (xs:=[.const (.int .u8 123),.const (.int .u8 125),.const (.int .u8 40),.const (.int .u8 41),.const (.int .u8 91),.const (.int .u8 93),.const (.int .u8 59),.const (.int .u8 44),.const (.int .u8 61),.const (.int .u8 60),.const (.int .u8 62)]) (es:=map (Qe .u8) [123,125,40,41,91,93,59,44,61,60,62]) NW Z Z Z Z Z ⟨Z,Z,Z,Z,Z,Z,Z,Z,Z,Z,Z,trivial⟩ Z Z) ?_)));refine FE Z (vH (QmH (es:=map (Qe .u8) [123,125,40,41,91,93,59,44,61,60,62]) underlying273 underlying5 (X2 ..) Z) ?_);refine FE Z (Lg 3 Z Z (Bd h λO ar h=>Ct O [0] [0] Ze (λO=>[(0,.r 442 1 (map (Qe .u8) O))]) Zf ?_ (λenv H y=>?_)))
 .refine G0 1 Z (Lp [0] [0,23,24] (λB=>[(25,I B.2)]) (λB=>[(0,.r 442 1 (map (Qe .u8) B.1))]) ar Zf (Lr [0]) λB bh g ae=>?_);refine G0 6 Z (Q7 Z g (λ_ g=>?_) (λ_ g=>?_))
  .exact Jc ae g
  refine Gc 6 Z (Bd g λav ag g=>Iz ag Z (Go 6 Z (Bd g λbi P g=>?_)));refine vX (.p 0 (toNat av*1)) (ZM (n:=256) (k:=1) (l:=B.1) P Ga Gb Z) ?_;refine Bd g λbj ah g=>?_;refine vU (Yv (e:=(Qe .u8)) (k:=1) (f:=0) (SX P).2 ah Gb Z Z) ?_;exact au g
 refine Gx 1 Z (Ef y (Gc 3 Z (vH (El (xs:=[.const (.int .u8 32),.const (.int .u8 9),.const (.int .u8 10),.const (.int .u8 13)]) (es:=map (Qe .u8) [32,9,10,13]) NW Z Z Z Z Z ⟨Z,Z,Z,Z,trivial⟩ Z Z) ?_)));refine Fg 4 Z Z (Bd h λF aw h=>Cg F [0] [0] Ze (λF=>[(0,.r 442 1 (map (Qe .u8) F))]) Zf ?_ ?_)
 .refine G0 1 Z (Lp [0,1] [0,32,33] (λx=>[(34,I x.2)]) (λx=>[(0,.r 442 1 (map (Qe .u8) x.1))]) aw Zf (Lr [0,1]) λx bk j ai=>?_);refine G0 6 Z (Q7 Z j (λ_ j=>?_) (λ_ j=>?_))
  .exact Jc ai j
  refine Gc 6 Z (Bd j λV Q j=>?_);refine vX (.p 1 (toNat x.2*1)) (Qf Q Z EY Gb) ?_;refine vX (.i .u8 V) (EA Z isAgg5 Z (Qi Q)) ?_;refine Go 5 Z (Bd j λbl R j=>?_);refine vX (.p 0 (toNat V*1)) (ZM (n:=256) (k:=1) (l:=x.1) R Ga Gb Z) ?_;refine Bd j λbm ak j=>?_;refine vU (Yv (e:=(Qe .u8)) (k:=1) (f:=0) (SX R).2 ak Gb Z Z) ?_;exact au j
 refine Gc 2 Z (Bd h λax al h=>?_);refine vX (.a (List.flatten (map (Qe .u8) ax))) (Qjf (e:=(Qe .u8)) al Zf Z isAgg442 G2) ?_;refine Bd h λbn am h=>Bd h λay E h=>?_;obtain⟨T,rfl⟩:=SS am;refine vU (tG (e:=(Qe .u8)) (l:=F) (l':=ay) T (kU E) Zf Z G2 Zf Zf (congrArg (λl=>List.flatten (map (Qe .u8) l)) (SS E).2.symm)) ?_;refine Fg 3 Z Z ?_;obtain rfl:=Oi h;exact Rx [0] [0] Z (JK Z (Qmw (e:=(Qe .u8)) (kU E) Zf Z isAgg442 G2)) ⟨Z,Z⟩
def Ss(n:Nat)(g:AA UInt8)(m:AA Int)(d:Int):AB (CG Int (CG Unit Bool)):=(bif d<(AI g:Int) then AH (CJ g d) λh=>AH (LN 256 m (h.toNat:Int)) λf=>AH ((bif (f != 2)then(bif (d==0)then AC AE else(bif (f != 3)then AH (CJ g d) λj=>AC ((j.toNat:Int) != 95)else AC AD))else AC AD):AB Bool) λk=>(bif k then AC (.d (.d AD))else AC (.k (i64.wrap (d+1))))else AC (.d (.k ())))
def Ow(f:AA UInt8):AB Bool:=AH (PP n) λh=>AH (NG 256 (List.replicate 256 0)) λk=>AH (NG 256 h) λj=>AH (iter (Ss n f j) n 0:AB (CG Unit Bool)) λg=>match g with|.k d=>(AC (f != []))|.d d=>AC d
instance wz(y:AA UInt8):Ks (Ow n y) 305 [.str y] [] (λr=>.b r):=by
 refine Kg 7 func305 Z Z Z Z λr h=>Bd h λP B h=>?_;refine Qh [] (C6.fn call319 Z Z Z) ((i4 _).c _ B) ?_;rintro _ _ ⟨rfl,rfl⟩;refine NV (_z (e:=(Qe .u8)) Zf _ _) Z ?_;refine vH (tE (n:=256) (k:=1) (e:=(Qe .u8)) (z:=0) zeroValue442 (by kernel_rfl) (by kernel_rfl) (by kernel_rfl) Z) ?_;refine FE Z (Bd h λQ E h=>Bd h λF j h=>?_);obtain⟨q,rfl⟩:=SS E;refine vU (tG (e:=(Qe .u8)) (l:=(List.replicate 256 0)) (l':=F) q (kU j) Zf Z G2 Zf Zf (congrArg (λl=>List.flatten (map (Qe .u8) l)) (SS j).2.symm)) ?_;refine Fg 6 Z Z ?_;refine vV (sA Z Z Gj Z) ?_;refine Go 3 Z (Bd h λG H h=>D5 (b:=G) [] [0] Ze Ze Zf ?_ (λ_ J=>?_))
 .refine G0 1 Z (Lp [1] [0,3,8] (λm=>[(9,I m)]) Ze H Zf (Lr [1]) λm O d f=>?_);refine G0 6 Z (Q7 Z d (λ_ d=>?_) (λ_ d=>?_))
  .exact Jc f d
  refine Gc 14 Z (Bd d λL x d=>?_);refine vX (.i .u8 (L.toNat:Int)) (sG x Gj) ?_;refine Bd d λM g d=>?_;refine vV (ZM (n:=256) (k:=1) (l:=F) g Ga Gb Z) ?_;refine vX (.i .u8 M) (EA Z isAgg5 Z (Qi (SX g).2)) ?_;exact DV f d h
 subst J;exact au h
def WD(d:AA UInt8):AB Bool:=AH (AH (Ow n d) λj=>(bif j then AH (cat [32] d) λf=>AH (cat f [32]) λg=>AH (c6 [32,99,111,117,114,115,101,32,109,97,116,115,32,115,116,97,114,116,32,112,97,115,115,32,101,110,100,32,108,101,103,32,116,111,32,100,105,115,116,97,110,99,101,32,103,117,110,32,99,104,105,112,32,115,108,111,116,32,108,97,112,115,32,108,97,112,32,99,117,116,111,102,102,32,101,120,116,114,97,32,119,97,118,101,32,111,102,102,101,110,99,101,32,111,117,116,32,99,97,116,101,103,111,114,121,32,112,114,105,122,101,32,97,108,108,32,116,105,101,115,32,105,102,32,101,108,115,101,32,97,110,100,32,111,114,32,110,111,116,32,111,108,100,101,114,32,121,111,117,110,103,101,114,32,98,105,98,32,100,114,97,119,32,102,105,101,108,100,32,115,104,111,114,116,32,102,97,117,108,116,115,32,109,105,115,115,101,115,32,115,116,114,97,121,115,32,119,105,110,100,111,119,32,114,101,115,105,100,117,97,108,32,100,114,105,102,116,32,112,114,111,116,101,115,116,32,102,101,101,32,100,101,97,100,108,105,110,101,32] g) λh=>AC h else AC AD):AB Bool) λk=>AC k
instance vR(m:AA UInt8):Ks (WD n m) 275 [.str m] [] (λr=>.b r):=by
 refine Kg 6 func275 Z Z Z Z λr h=>Bd h λf d h=>Cg f [] [] (λf=>[(2,.b f)]) Ze Zf ?_ ?_
 .refine G0 2 Z (Cz [] d Kc Z λB t d=>Go 1 Z (Is 5 d Z (λ_ d=>?_) (λ_ d=>?_)))
  .refine Go 1 Z (Bd d λx g d=>?_);refine vV (sE g) (Bd d λy j d=>?_) (gT Z);refine vV (sE j) (Bd d λz k d=>?_) (gT Z);refine Qh [] (C6.fn call306 Z Z Z) (C.contains QdF Z k) ?_ (hg:=(gT Z));rintro _ _ ⟨rfl,rfl⟩;exact au d
  exact au d
 exact au h
def Nq(n:Nat)(g:AA UInt8)(f:Int):AB (CG Int (CG Unit Bool)):=(bif f<(AI g:Int) then AH (CJ g f) λd=>AH ((bif (d.toNat:Int)<97 then(bif (d.toNat:Int)<48 then AC ((d.toNat:Int) != 95)else(bif 57<(d.toNat:Int) then AC ((d.toNat:Int) != 95)else AC AD))else(bif 122<(d.toNat:Int) then(bif (d.toNat:Int)<48 then AC ((d.toNat:Int) != 95)else(bif 57<(d.toNat:Int) then AC ((d.toNat:Int) != 95)else AC AD))else AC AD)):AB Bool) λh=>(bif h then AC (.d (.d AD))else AC (.k (i64.wrap (f+1))))else AC (.d (.k ())))
def F9(d:AA UInt8):AB Bool:=AH ((bif (AI d:Int)<1 then AC AE else(bif 24<(AI d:Int) then AC AE else AH (CJ d 0) λg=>(bif (g.toNat:Int)<97 then AC AE else AH (CJ d 0) λh=>AC (AG (122<(h.toNat:Int)))))):AB Bool) λm=>(bif m then AC AD else AH (iter (Nq n d) n 0:AB (CG Unit Bool)) λj=>match j with|.k f=>(AH (WD n d) λk=>AC (!k))|.d f=>AC f)
instance yg(d:AA UInt8):Ks (F9 n d) 216 [.str d] [] (λr=>.b r):=KA func216
def WQ(n:Nat)(d:Am):AB Unit:=AC ()
instance ve(d:Am):Ks (WQ n d) 218 [.a (Am.c d)] [] (λ_=>.str d.Ap):=KA func218
def mU(g:AA Am)(d:(AA (AA UInt8×Bool))×Int):AB (CG ((AA (AA UInt8×Bool))×Int) (CG Unit Bool)):=(bif d.2<(AI g:Int) then AH (CJ g d.2) λf=>AH (WQ n f) λq=>AH (AH (F9 n f.Ap) λh=>(bif (!h)then AC AE else AH (AC (Qo d.1 f.Ap AD)) λj=>AC j):AB Bool) λk=>(bif k then AC (.d (.d AD))else AH (AC (QJ d.1 f.Ap AE)) λm=>AC (.k (m,i64.wrap (d.2+1))))else AC (.d (.k ())))
def WV(g:AA Am):AB Bool:=AH (iter (mU n g) n ([],0):AB (CG Unit Bool)) λf=>match f with|.k d=>(AC AE)|.d d=>AC d
instance vk(B:AA Am):Ks (WV n B) 217 [.q 2 (map Am.c B),.f 218] [] (λr=>.b r):=by
 refine Kg 7 func217 Z Z Z Z λr h=>vH Yh ?_;refine Fg 7 Z Z (Lg 3 Z Z (Bd h λE F h=>D5 (b:=E) [] [] Ze Ze Zf ?_ (λ_ G=>?_)))
 .refine G0 1 Z (Lp [0] [1,5,10,11] (λg=>[(12,I g.2)]) (λg=>[(0,.map (Qn A.str A.b g.1))]) F Zf (Lr [0]) λg M d j=>?_);refine G0 6 Z (Q7 Z d (λ_ d=>?_) (λ_ d=>?_))
  .exact Jc j d
  refine Gc 6 Z (Bd d λN q d=>Iz q Z (Go 9 Z (Cz [] d Kc Z λO J d=>Go 5 Z (Bd d λk f d=>Cg k [0] [1,5,8,10,11,12] (λk=>[(26,.b k)]) Ze Zf ?_ ?_))))
  .refine G0 2 Z (Cz [] f Kc Z λP L f=>Go 2 Z (Is 22 f Z (λ_ f=>?_) (λ_ f=>?_)))
   .exact au f
   .refine Go 2 Z (Bd f λQ x f=>(vV (Q6 LU x E3 E8 ZR.bool) ?_ (gT Z)));exact au f
  refine Cn Z d (λ_ d=>?_) (λ_ d=>?_)
  .exact DV j d h
  refine Gc 5 Z (Bd d λR z d=>(vU (Yd LU z Z E3) ?_));exact au d
 subst G;exact au h
def WT(n:Nat)(d:AN):AB Unit:=AC ()
instance vi(d:AN):Ks (WT n d) 220 [.a (AN.c d)] [] (λ_=>.str d.Ap):=KA func220
def my(g:AA AN)(d:(AA (AA UInt8×Bool))×Int):AB (CG ((AA (AA UInt8×Bool))×Int) (CG Unit Bool)):=(bif d.2<(AI g:Int) then AH (CJ g d.2) λf=>AH (WT n f) λq=>AH (AH (F9 n f.Ap) λh=>(bif (!h)then AC AE else AH (AC (Qo d.1 f.Ap AD)) λj=>AC j):AB Bool) λk=>(bif k then AC (.d (.d AD))else AH (AC (QJ d.1 f.Ap AE)) λm=>AC (.k (m,i64.wrap (d.2+1))))else AC (.d (.k ())))
def UZ(g:AA AN):AB Bool:=AH (iter (my n g) n ([],0):AB (CG Unit Bool)) λf=>match f with|.k d=>(AC AE)|.d d=>AC d
instance ud(B:AA AN):Ks (UZ n B) 219 [.q 5 (map AN.c B),.f 220] [] (λr=>.b r):=by
 refine Kg 7 func219 Z Z Z Z λr h=>vH Yh ?_;refine Fg 7 Z Z (Lg 3 Z Z (Bd h λE F h=>D5 (b:=E) [] [] Ze Ze Zf ?_ (λ_ G=>?_)))
 .refine G0 1 Z (Lp [0] [1,5,10,11] (λg=>[(12,I g.2)]) (λg=>[(0,.map (Qn A.str A.b g.1))]) F Zf (Lr [0]) λg M d j=>?_);refine G0 6 Z (Q7 Z d (λ_ d=>?_) (λ_ d=>?_))
  .exact Jc j d
  refine Gc 6 Z (Bd d λN q d=>Iz q Z (Go 9 Z (Cz [] d Kc Z λO J d=>Go 5 Z (Bd d λk f d=>Cg k [0] [1,5,8,10,11,12] (λk=>[(26,.b k)]) Ze Zf ?_ ?_))))
  .refine G0 2 Z (Cz [] f Kc Z λP L f=>Go 2 Z (Is 22 f Z (λ_ f=>?_) (λ_ f=>?_)))
   .exact au f
   .refine Go 2 Z (Bd f λQ x f=>(vV (Q6 LU x E3 E8 ZR.bool) ?_ (gT Z)));exact au f
  refine Cn Z d (λ_ d=>?_) (λ_ d=>?_)
  .exact DV j d h
  refine Gc 5 Z (Bd d λR z d=>(vU (Yd LU z Z E3) ?_));exact au d
 subst G;exact au h
def U4(n:Nat)(d:A3):AB Unit:=AC ()
instance ug(d:A3):Ks (U4 n d) 222 [.a (A3.c d)] [] (λ_=>.str d.Ap):=KA func222
def mv(g:AA A3)(d:(AA (AA UInt8×Bool))×Int):AB (CG ((AA (AA UInt8×Bool))×Int) (CG Unit Bool)):=(bif d.2<(AI g:Int) then AH (CJ g d.2) λf=>AH (U4 n f) λq=>AH (AH (F9 n f.Ap) λh=>(bif (!h)then AC AE else AH (AC (Qo d.1 f.Ap AD)) λj=>AC j):AB Bool) λk=>(bif k then AC (.d (.d AD))else AH (AC (QJ d.1 f.Ap AE)) λm=>AC (.k (m,i64.wrap (d.2+1))))else AC (.d (.k ())))
def U'(g:AA A3):AB Bool:=AH (iter (mv n g) n ([],0):AB (CG Unit Bool)) λf=>match f with|.k d=>(AC AE)|.d d=>AC d
instance uq(B:AA A3):Ks (U' n B) 221 [.q 2 (map A3.c B),.f 222] [] (λr=>.b r):=by
 refine Kg 7 func221 Z Z Z Z λr h=>vH Yh ?_;refine Fg 7 Z Z (Lg 3 Z Z (Bd h λE F h=>D5 (b:=E) [] [] Ze Ze Zf ?_ (λ_ G=>?_)))
 .refine G0 1 Z (Lp [0] [1,5,10,11] (λg=>[(12,I g.2)]) (λg=>[(0,.map (Qn A.str A.b g.1))]) F Zf (Lr [0]) λg M d j=>?_);refine G0 6 Z (Q7 Z d (λ_ d=>?_) (λ_ d=>?_))
  .exact Jc j d
  refine Gc 6 Z (Bd d λN q d=>Iz q Z (Go 9 Z (Cz [] d Kc Z λO J d=>Go 5 Z (Bd d λk f d=>Cg k [0] [1,5,8,10,11,12] (λk=>[(26,.b k)]) Ze Zf ?_ ?_))))
  .refine G0 2 Z (Cz [] f Kc Z λP L f=>Go 2 Z (Is 22 f Z (λ_ f=>?_) (λ_ f=>?_)))
   .exact au f
   .refine Go 2 Z (Bd f λQ x f=>(vV (Q6 LU x E3 E8 ZR.bool) ?_ (gT Z)));exact au f
  refine Cn Z d (λ_ d=>?_) (λ_ d=>?_)
  .exact DV j d h
  refine Gc 5 Z (Bd d λR z d=>(vU (Yd LU z Z E3) ?_));exact au d
 subst G;exact au h
def WM(n:Nat)(d:AZ):AB Unit:=AC ()
instance va(d:AZ):Ks (WM n d) 224 [.a (AZ.c d)] [] (λ_=>.str d.Ap):=KA func224
def mr(g:AA AZ)(d:(AA (AA UInt8×Bool))×Int):AB (CG ((AA (AA UInt8×Bool))×Int) (CG Unit Bool)):=(bif d.2<(AI g:Int) then AH (CJ g d.2) λf=>AH (WM n f) λq=>AH (AH (F9 n f.Ap) λh=>(bif (!h)then AC AE else AH (AC (Qo d.1 f.Ap AD)) λj=>AC j):AB Bool) λk=>(bif k then AC (.d (.d AD))else AH (AC (QJ d.1 f.Ap AE)) λm=>AC (.k (m,i64.wrap (d.2+1))))else AC (.d (.k ())))
def VU(g:AA AZ):AB Bool:=AH (iter (mr n g) n ([],0):AB (CG Unit Bool)) λf=>match f with|.k d=>(AC AE)|.d d=>AC d
instance uy(B:AA AZ):Ks (VU n B) 223 [.q 4 (map AZ.c B),.f 224] [] (λr=>.b r):=by
 refine Kg 7 func223 Z Z Z Z λr h=>vH Yh ?_;refine Fg 7 Z Z (Lg 3 Z Z (Bd h λE F h=>D5 (b:=E) [] [] Ze Ze Zf ?_ (λ_ G=>?_)))
 .refine G0 1 Z (Lp [0] [1,5,10,11] (λg=>[(12,I g.2)]) (λg=>[(0,.map (Qn A.str A.b g.1))]) F Zf (Lr [0]) λg M d j=>?_);refine G0 6 Z (Q7 Z d (λ_ d=>?_) (λ_ d=>?_))
  .exact Jc j d
  refine Gc 6 Z (Bd d λN q d=>Iz q Z (Go 9 Z (Cz [] d Kc Z λO J d=>Go 5 Z (Bd d λk f d=>Cg k [0] [1,5,8,10,11,12] (λk=>[(26,.b k)]) Ze Zf ?_ ?_))))
  .refine G0 2 Z (Cz [] f Kc Z λP L f=>Go 2 Z (Is 22 f Z (λ_ f=>?_) (λ_ f=>?_)))
   .exact au f
   .refine Go 2 Z (Bd f λQ x f=>(vV (Q6 LU x E3 E8 ZR.bool) ?_ (gT Z)));exact au f
  refine Cn Z d (λ_ d=>?_) (λ_ d=>?_)
  .exact DV j d h
  refine Gc 5 Z (Bd d λR z d=>(vU (Yd LU z Z E3) ?_));exact au d
 subst G;exact au h
def U_(n:Nat)(d:AW):AB Unit:=AC ()
instance uo(d:AW):Ks (U_ n d) 226 [.a (AW.c d)] [] (λ_=>.str d.Ap):=KA func226
def mw(g:AA AW)(d:(AA (AA UInt8×Bool))×Int):AB (CG ((AA (AA UInt8×Bool))×Int) (CG Unit Bool)):=(bif d.2<(AI g:Int) then AH (CJ g d.2) λf=>AH (U_ n f) λq=>AH (AH (F9 n f.Ap) λh=>(bif (!h)then AC AE else AH (AC (Qo d.1 f.Ap AD)) λj=>AC j):AB Bool) λk=>(bif k then AC (.d (.d AD))else AH (AC (QJ d.1 f.Ap AE)) λm=>AC (.k (m,i64.wrap (d.2+1))))else AC (.d (.k ())))
def WU(g:AA AW):AB Bool:=AH (iter (mw n g) n ([],0):AB (CG Unit Bool)) λf=>match f with|.k d=>(AC AE)|.d d=>AC d
instance vj(B:AA AW):Ks (WU n B) 225 [.q 3 (map AW.c B),.f 226] [] (λr=>.b r):=by
 refine Kg 7 func225 Z Z Z Z λr h=>vH Yh ?_;refine Fg 7 Z Z (Lg 3 Z Z (Bd h λE F h=>D5 (b:=E) [] [] Ze Ze Zf ?_ (λ_ G=>?_)))
 .refine G0 1 Z (Lp [0] [1,5,10,11] (λg=>[(12,I g.2)]) (λg=>[(0,.map (Qn A.str A.b g.1))]) F Zf (Lr [0]) λg M d j=>?_);refine G0 6 Z (Q7 Z d (λ_ d=>?_) (λ_ d=>?_))
  .exact Jc j d
  refine Gc 6 Z (Bd d λN q d=>Iz q Z (Go 9 Z (Cz [] d Kc Z λO J d=>Go 5 Z (Bd d λk f d=>Cg k [0] [1,5,8,10,11,12] (λk=>[(26,.b k)]) Ze Zf ?_ ?_))))
  .refine G0 2 Z (Cz [] f Kc Z λP L f=>Go 2 Z (Is 22 f Z (λ_ f=>?_) (λ_ f=>?_)))
   .exact au f
   .refine Go 2 Z (Bd f λQ x f=>(vV (Q6 LU x E3 E8 ZR.bool) ?_ (gT Z)));exact au f
  refine Cn Z d (λ_ d=>?_) (λ_ d=>?_)
  .exact DV j d h
  refine Gc 5 Z (Bd d λR z d=>(vU (Yd LU z Z E3) ?_));exact au d
 subst G;exact au h
def V8(d:CB):AB Bool:=AH (AH (F9 n d.Ap) λf=>(bif f then AH (WV n d.Au) λg=>(bif g then AH (UZ n d.AO) λh=>(bif h then AH (U' n d.A0) λj=>(bif j then AH (VU n d.Ab) λk=>(bif k then AH (WU n d.AV) λm=>AC m else AC AD)else AC AD)else AC AD)else AC AD)else AC AD):AB Bool) λq=>AC q
instance vI(d:CB):Ks (V8 n d) 148 [.a (CB.c d)] [] (λr=>.b r):=KA func148
def WR(n:Nat)(d:Int)(f:Int)(g:Int):AB Bool:=AH ((bif d<f then AC AE else AC (AG (g<d))):AB Bool) λh=>AC h
instance vg(d:Int)(f:Int)(g:Int):Ks (WR n d f g) 276 [I d,.p 0 0,.p 1 0] [.c 3 [I f],.c 3 [I g]] (λr=>.b r):=KA func276
def mS(f:AA Int)(j:Int)(k:Int)(d:Int):AB (CG Int (CG Unit Int)):=(bif d<(AI f:Int) then AH (CJ f d) λg=>AH (WR n g j k) λh=>(bif h then AC (.d (.d d))else AC (.k (i64.wrap (d+1))))else AC (.d (.k ())))
def eV(g:AA Int)(h:Int)(j:Int):AB Int:=AH (iter (mS n g h j) n 0:AB (CG Unit Int)) λf=>match f with|.k d=>(AC (-1))|.d d=>AC d
instance uN(d:AA Int)(f:Int)(g:Int):Ks (eV n d f g) 173 [.q 1 (map (Qe .i64) d),.fn (.func 276) [] [.p 0 0,.p 1 0]] [.c 3 [I f],.c 3 [I g]] (λr=>I r):=KA func173
def V'(d:AA Int)(f:Int)(g:Int):AB Bool:=AH (eV n d f g) λh=>AC (AG (0<=h))
instance vL(d:AA Int)(f:Int)(g:Int):Ks (V' n d f g) 101 [.q 1 (map (Qe .i64) d),.fn (.func 276) [] [.p 0 0,.p 1 0]] [.c 3 [I f],.c 3 [I g]] (λr=>.b r):=KA func101
def FG(d:Int)(f:Int)(g:AA Int):AB Bool:=AH (V' n g d f) λh=>AC (!h)
instance k_a(d:Int)(f:Int)(g:AA Int):Ks (FG n d f g) 228 [I d,I f,.q 1 (map (Qe .i64) g)] [] (λr=>.b r):=KA func228
def OZ(d:Am):AB Bool:=AH (FG n 1 3 [d.AY]) λf=>AC f
instance wg(d:Am):Ks (OZ n d) 237 [.a (Am.c d)] [] (λr=>.b r):=KA func237
def eN(d:Am):AB Bool:=AH (OZ n d) λf=>AC (!f)
instance uH(d:Am):Ks (eN n d) 282 [.a (Am.c d),.p 0 0] [.c 373 [.f 237]] (λr=>.b r):=KA func282
def mx(f:AA Am)(d:Int):AB (CG Int (CG Unit Int)):=(bif d<(AI f:Int) then AH (CJ f d) λg=>AH (eN n g) λh=>(bif h then AC (.d (.d d))else AC (.k (i64.wrap (d+1))))else AC (.d (.k ())))
def VX(g:AA Am):AB Int:=AH (iter (mx n g) n 0:AB (CG Unit Int)) λf=>match f with|.k d=>(AC (-1))|.d d=>AC d
instance u7(d:AA Am):Ks (VX n d) 309 [.q 2 (map Am.c d),.fn (.func 282) [] [.p 0 0]] [.c 373 [.f 237]] (λr=>I r):=KA func309
def VW(d:AA Am):AB Bool:=AH (VX n d) λf=>AC (AG (0<=f))
instance u6(d:AA Am):Ks (VW n d) 281 [.q 2 (map Am.c d),.fn (.func 282) [] [.p 0 0]] [.c 373 [.f 237]] (λr=>.b r):=KA func281
def OI(d:AA Am):AB Bool:=AH (VW n d) λf=>AC (!f)
instance wM(d:AA Am):Ks (OI n d) 236 [.q 2 (map Am.c d),.f 237] [] (λr=>.b r):=KA func236
def Oo(d:Co)(f:Int):AB Bool:=AH (AH (FG n 0 f [d.A',d.To]) λg=>(bif g then AH (FG n 0 68719476736 [d.Bp,d.Bq]) λh=>(bif h then AC (AG (d.Bp<=d.Bq))else AC AD)else AC AD):AB Bool) λj=>AC j
instance wv(d:Co)(f:Int):Ks (Oo n d f) 233 [.a (Co.c d),.p 0 0] [.c 3 [I f]] (λr=>.b r):=KA func233
def eM(d:Co)(f:Int):AB Bool:=AH (Oo n d f) λg=>AC (!g)
instance uG(d:Co)(f:Int):Ks (eM n d f) 284 [.a (Co.c d),.p 0 0] [.c 215 [.fn (.func 233) [] [.p 1 0]],.c 3 [I f]] (λr=>.b r):=KA func284
def mQ(f:AA Co)(j:Int)(d:Int):AB (CG Int (CG Unit Int)):=(bif d<(AI f:Int) then AH (CJ f d) λg=>AH (eM n g j) λh=>(bif h then AC (.d (.d d))else AC (.k (i64.wrap (d+1))))else AC (.d (.k ())))
def V6(g:AA Co)(h:Int):AB Int:=AH (iter (mQ n g h) n 0:AB (CG Unit Int)) λf=>match f with|.k d=>(AC (-1))|.d d=>AC d
instance vF(d:AA Co)(f:Int):Ks (V6 n d f) 92 [.q 4 (map Co.c d),.fn (.func 284) [] [.p 0 0]] [.c 215 [.fn (.func 233) [] [.p 1 0]],.c 3 [I f]] (λr=>I r):=KA func92
def VP(d:AA Co)(f:Int):AB Bool:=AH (V6 n d f) λg=>AC (AG (0<=g))
instance uu(d:AA Co)(f:Int):Ks (VP n d f) 283 [.q 4 (map Co.c d),.fn (.func 284) [] [.p 0 0]] [.c 215 [.fn (.func 233) [] [.p 1 0]],.c 3 [I f]] (λr=>.b r):=KA func283
def PB(d:AA Co)(f:Int):AB Bool:=AH (VP n d f) λg=>AC (!g)
instance xJ(d:AA Co)(f:Int):Ks (PB n d f) 238 [.q 4 (map Co.c d),.fn (.func 233) [] [.p 0 0]] [.c 3 [I f]] (λr=>.b r):=KA func238
def WH(n:Nat)(d:Co):AB Unit:=AC ()
instance vT(d:Co):Kq (WH n d) 240 [.a (Co.c d)] [] (λ_=>.a [I d.A',I d.To]) (λ_=>[.c 288 [I d.A',I d.To]]):=KA func240
def T_(g:AA Co)(d:(AA (Ul×Bool))×Int):AB (CG ((AA (Ul×Bool))×Int) (AA (Ul×Bool))):=(bif d.2<(AI g:Int) then AH (CJ g d.2) λf=>AH (WH n f) λj=>AH (AC (QJ d.1 ({BW:=f.A',to_:=f.To:Ul}) AE)) λh=>AC (.k (h,i64.wrap (d.2+1)))else AC (.d d.1))
def VT(d:AA Co):AB Bool:=AH (iter (T_ n d) n ([],0):AB (AA (Ul×Bool))) λf=>AC ((AI f:Int)==(AI d:Int))
instance ux(t:AA Co):Ks (VT n t) 239 [.q 4 (map Co.c t),.f 240] [] (λr=>.b r):=by
 refine Kg 7 func239 Z Z Z Z λr h=>vH Yh ?_;refine Fg 7 Z Z (Lg 3 Z Z (Bd h λg y h=>Cg g [0] [0,5] Ze (λg=>[(0,.map (Qn (λx=>A.a (Ul.c x)) A.b g))]) Zf ?_ ?_))
 .refine G0 1 Z (Lp [0] [0,1,5,9,10] (λf=>[(11,I f.2)]) (λf=>[(0,.map (Qn (λx=>A.a (Ul.c x)) A.b f.1))]) y Zf (Lr [0]) λf B d j=>?_);refine G0 6 Z (Q7 Z d (λ_ d=>?_) (λ_ d=>?_))
  .exact Jc j d
  refine Gc 6 Z (Bd d λE m d=>Iz m Z (Go 9 Z (Cd [] d Kc Z λF z d=>FE Z (Bd d λG q d=>(vU (Yd dJ q Z Gw) ?_)))));exact au d
 refine Gc 3 Z (vV (r_ Gw Z) ?_);exact au h
def Og(rec50:(AA CH)->Int->AB Bool)(n:Nat)(d:CH)(f:Int):AB Bool:=(bif (d.As==0)then AH (AH (FG n 0 f [d.Am]) λk=>(bif k then AC ((AI d.Ac:Int)==0)else AC AD):AB Bool) λm=>AC m else AH (AH (FG n 1 64 [d.As]) λg=>(bif g then(bif (d.Am==0)then(bif 0<(AI d.Ac:Int) then AH (rec50 d.Ac f) λh=>AC h else AC AD)else AC AD)else AC AD):AB Bool) λj=>AC j)
instance wq(rec50:(AA CH)->Int->AB Bool)[g:∀(d:AA CH) (f:Int),Ks (rec50 d f) 229 [.q 3 (map CH.enc d),.fn (.func 227) [] [.p 0 0,.p 1 0]] [.c 3 [I f],.c 365 [.fn (.func 227) [] [.p 0 0,.p 1 0]]] (λr=>.b r)](n:Nat)(d:CH)(f:Int):Ks (Og rec50 n d f) 227 [.a (CH.c d),.p 0 0,.p 1 0] [.c 3 [I f],.c 365 [.fn (.func 227) [] [.p 0 0,.p 1 0]]] (λr=>.b r):=KA func227
def ez(rec50:(AA CH)->Int->AB Bool)(n:Nat)(d:CH)(f:Int):AB Bool:=AH (Og rec50 n d f) λg=>AC (!g)
instance il(rec50:(AA CH)->Int->AB Bool)[g:∀(d:AA CH) (f:Int),Ks (rec50 d f) 229 [.q 3 (map CH.enc d),.fn (.func 227) [] [.p 0 0,.p 1 0]] [.c 3 [I f],.c 365 [.fn (.func 227) [] [.p 0 0,.p 1 0]]] (λr=>.b r)](n:Nat)(d:CH)(f:Int):Ks (ez rec50 n d f) 278 [.a (CH.c d),.p 0 0] [.c 365 [.fn (.func 227) [] [.p 1 0,.p 2 0]],.c 3 [I f],.c 365 [.fn (.func 227) [] [.p 1 0,.p 2 0]]] (λr=>.b r):=KA func278
def mq(f:AA CH)(j:Int)(rec50:(AA CH)->Int->AB Bool)(d:Int):AB (CG Int (CG Unit Int)):=(bif d<(AI f:Int) then AH (CJ f d) λg=>AH (ez rec50 n g j) λh=>(bif h then AC (.d (.d d))else AC (.k (i64.wrap (d+1))))else AC (.d (.k ())))
def eZ(rec50:(AA CH)->Int->AB Bool)(n:Nat)(g:AA CH)(h:Int):AB Int:=AH (iter (mq n g h rec50) n 0:AB (CG Unit Int)) λf=>match f with|.k d=>(AC (-1))|.d d=>AC d
instance uR(rec50:(AA CH)->Int->AB Bool)[x:∀(f:AA CH) (g:Int),Ks (rec50 f g) 229 [.q 3 (map CH.enc f),.fn (.func 227) [] [.p 0 0,.p 1 0]] [.c 3 [I g],.c 365 [.fn (.func 227) [] [.p 0 0,.p 1 0]]] (λr=>.b r)](n:Nat)(f:AA CH)(g:Int):Ks (eZ rec50 n f g) 307 [.q 3 (map CH.enc f),.fn (.func 278) [] [.p 0 0]] [.c 365 [.fn (.func 227) [] [.p 1 0,.p 2 0]],.c 3 [I g],.c 365 [.fn (.func 227) [] [.p 1 0,.p 2 0]]] (λr=>I r):=by
 refine Kg 9 func307 Z Z Z Z λr h=>Lg 3 Z Z (Bd h λy z h=>D5 (b:=y) [0,1,2] [] Ze Ze Zf ?_ (λ_ B=>?_))
 .refine G0 1 Z (Lp [0,1,2] [0,1,7] (λk=>[(8,I k)]) Ze z Zf (Lr [0,1,2]) λk H d j=>?_);refine G0 6 Z (Q7 Z d (λ_ d=>?_) (λ_ d=>?_))
  .exact Jc j d
  refine Gc 15 Z (Bd d λE q d=>FJ q (QL E) Z (Go 1 Z (Cz [0,1,2] d (il rec50 _ _ _).c Z λJ G d=>Go 2 Z (Cn Z d (λ_ d=>?_) (λ_ d=>?_)))))
  .exact DV j d h
  exact au d
 subst B;exact au h
def eU(rec50:(AA CH)->Int->AB Bool)(n:Nat)(d:AA CH)(f:Int):AB Bool:=AH (eZ rec50 n d f) λg=>AC (AG (0<=g))
instance uM(rec50:(AA CH)->Int->AB Bool)[g:∀(d:AA CH) (f:Int),Ks (rec50 d f) 229 [.q 3 (map CH.enc d),.fn (.func 227) [] [.p 0 0,.p 1 0]] [.c 3 [I f],.c 365 [.fn (.func 227) [] [.p 0 0,.p 1 0]]] (λr=>.b r)](n:Nat)(d:AA CH)(f:Int):Ks (eU rec50 n d f) 277 [.q 3 (map CH.enc d),.fn (.func 278) [] [.p 0 0]] [.c 365 [.fn (.func 227) [] [.p 1 0,.p 2 0]],.c 3 [I f],.c 365 [.fn (.func 227) [] [.p 1 0,.p 2 0]]] (λr=>.b r):=KA func277
def fE(rec50:(AA CH)->Int->AB Bool)(n:Nat)(d:AA CH)(f:Int):AB Bool:=AH (eU rec50 n d f) λg=>AC (!g)
theorem QcO(rec50:(AA CH)->Int->AB Bool)(g:∀(d:AA CH) (f:Int),Ks (rec50 d f) 229 [.q 3 (map CH.enc d),.fn (.func 227) [] [.p 0 0,.p 1 0]] [.c 3 [I f],.c 365 [.fn (.func 227) [] [.p 0 0,.p 1 0]]] (λr=>.b r))(n:Nat)(d:AA CH)(f:Int):Ks (fE rec50 n d f) 229 [.q 3 (map CH.enc d),.fn (.func 227) [] [.p 0 0,.p 1 0]] [.c 3 [I f],.c 365 [.fn (.func 227) [] [.p 0 0,.p 1 0]]] (λr=>.b r):=KA func229
def Kh:Nat->(AA CH)->Int->AB Bool
  |0=>λ_ _=>AF
  |n+1=>fE (Kh n) n
instance yU:∀(d:AA CH) (f:Int),Ks (Kh n d f) 229 [.q 3 (map CH.enc d),.fn (.func 227) [] [.p 0 0,.p 1 0]] [.c 3 [I f],.c 365 [.fn (.func 227) [] [.p 0 0,.p 1 0]]] (λr=>.b r):=by
  induction n with
  |zero=>exact λ_ _=>⟨nofun⟩
  |succ n ih=>exact QcO _ ih n
def O0(d:CO)(g:Int):AB Bool:=AH (AH (FG n 0 g [d.Am]) λh=>(bif h then(bif 1<=d.B9 then AH (FG n 0 1099511627776 [d.Bu]) λf=>AC f else AC AD)else AC AD):AB Bool) λj=>AC j
instance w7(d:CO)(f:Int):Ks (O0 n d f) 230 [.a (CO.c d),.p 0 0] [.c 3 [I f]] (λr=>.b r):=KA func230
def ew(d:CO)(f:Int):AB Bool:=AH (O0 n d f) λg=>AC (!g)
instance uX(d:CO)(f:Int):Ks (ew n d f) 280 [.a (CO.c d),.p 0 0] [.c 368 [.fn (.func 230) [] [.p 1 0]],.c 3 [I f]] (λr=>.b r):=KA func280
def mR(f:AA CO)(j:Int)(d:Int):AB (CG Int (CG Unit Int)):=(bif d<(AI f:Int) then AH (CJ f d) λg=>AH (ew n g j) λh=>(bif h then AC (.d (.d d))else AC (.k (i64.wrap (d+1))))else AC (.d (.k ())))
def WY(g:AA CO)(h:Int):AB Int:=AH (iter (mR n g h) n 0:AB (CG Unit Int)) λf=>match f with|.k d=>(AC (-1))|.d d=>AC d
instance vq(d:AA CO)(f:Int):Ks (WY n d f) 308 [.q 3 (map CO.c d),.fn (.func 280) [] [.p 0 0]] [.c 368 [.fn (.func 230) [] [.p 1 0]],.c 3 [I f]] (λr=>I r):=KA func308
def U3(d:AA CO)(f:Int):AB Bool:=AH (WY n d f) λg=>AC (AG (0<=g))
instance uf(d:AA CO)(f:Int):Ks (U3 n d f) 279 [.q 3 (map CO.c d),.fn (.func 280) [] [.p 0 0]] [.c 368 [.fn (.func 230) [] [.p 1 0]],.c 3 [I f]] (λr=>.b r):=KA func279
def N5(d:AA CO)(f:Int):AB Bool:=AH (U3 n d f) λg=>AC (!g)
instance v8(d:AA CO)(f:Int):Ks (N5 n d f) 232 [.q 3 (map CO.c d),.fn (.func 230) [] [.p 0 0]] [.c 3 [I f]] (λr=>.b r):=KA func232
def Oh(d:AN)(f:Int):AB Bool:=AH (AH (FG n 1 3 [d.BH]) λg=>(bif g then AH (FG n (-1) f [d.Ak]) λh=>(bif h then AH (Kh n d.Ad f) λj=>(bif j then AH (N5 n d.Ar f) λk=>AC k else AC AD)else AC AD)else AC AD):AB Bool) λm=>AC m
instance ws(d:AN)(f:Int):Ks (Oh n d f) 231 [.a (AN.c d),.p 0 0,.p 1 0,.p 2 0] [.c 3 [I f],.c 365 [.fn (.func 227) [] [.p 0 0,.p 1 0]],.c 368 [.fn (.func 230) [] [.p 0 0]]] (λr=>.b r):=KA func231
def eI(d:AN)(f:Int):AB Bool:=AH (Oh n d f) λg=>AC (!g)
instance uD(d:AN)(f:Int):Ks (eI n d f) 252 [.a (AN.c d),.p 0 0] [.c 291 [.fn (.func 231) [] [.p 1 0,.p 2 0,.p 3 0]],.c 3 [I f],.c 365 [.fn (.func 227) [] [.p 1 0,.p 2 0]],.c 368 [.fn (.func 230) [] [.p 1 0]]] (λr=>.b r):=KA func252
def mu(f:AA AN)(j:Int)(d:Int):AB (CG Int (CG Unit Int)):=(bif d<(AI f:Int) then AH (CJ f d) λg=>AH (eI n g j) λh=>(bif h then AC (.d (.d d))else AC (.k (i64.wrap (d+1))))else AC (.d (.k ())))
def WI(g:AA AN)(h:Int):AB Int:=AH (iter (mu n g h) n 0:AB (CG Unit Int)) λf=>match f with|.k d=>(AC (-1))|.d d=>AC d
instance vW(d:AA AN)(f:Int):Ks (WI n d f) 296 [.q 5 (map AN.c d),.fn (.func 252) [] [.p 0 0]] [.c 291 [.fn (.func 231) [] [.p 1 0,.p 2 0,.p 3 0]],.c 3 [I f],.c 365 [.fn (.func 227) [] [.p 1 0,.p 2 0]],.c 368 [.fn (.func 230) [] [.p 1 0]]] (λr=>I r):=KA func296
def WW(d:AA AN)(f:Int):AB Bool:=AH (WI n d f) λg=>AC (AG (0<=g))
instance vn(d:AA AN)(f:Int):Ks (WW n d f) 251 [.q 5 (map AN.c d),.fn (.func 252) [] [.p 0 0]] [.c 291 [.fn (.func 231) [] [.p 1 0,.p 2 0,.p 3 0]],.c 3 [I f],.c 365 [.fn (.func 227) [] [.p 1 0,.p 2 0]],.c 368 [.fn (.func 230) [] [.p 1 0]]] (λr=>.b r):=KA func251
def O'(d:AA AN)(f:Int):AB Bool:=AH (WW n d f) λg=>AC (!g)
instance xH(d:AA AN)(f:Int):Ks (O' n d f) 151 [.q 5 (map AN.c d),.fn (.func 231) [] [.p 0 0,.p 1 0,.p 2 0]] [.c 3 [I f],.c 365 [.fn (.func 227) [] [.p 0 0,.p 1 0]],.c 368 [.fn (.func 230) [] [.p 0 0]]] (λr=>.b r):=KA func151
def OP(d:A3):AB Bool:=AH (FG n 0 1099511627776 [d.B_]) λf=>AC f
instance wS(d:A3):Ks (OP n d) 242 [.a (A3.c d)] [] (λr=>.b r):=KA func242
def eG(d:A3):AB Bool:=AH (OP n d) λf=>AC (!f)
instance uB(d:A3):Ks (eG n d) 286 [.a (A3.c d),.p 0 0] [.c 378 [.f 242]] (λr=>.b r):=KA func286
def mb(f:AA A3)(d:Int):AB (CG Int (CG Unit Int)):=(bif d<(AI f:Int) then AH (CJ f d) λg=>AH (eG n g) λh=>(bif h then AC (.d (.d d))else AC (.k (i64.wrap (d+1))))else AC (.d (.k ())))
def VN(g:AA A3):AB Int:=AH (iter (mb n g) n 0:AB (CG Unit Int)) λf=>match f with|.k d=>(AC (-1))|.d d=>AC d
instance ur(d:AA A3):Ks (VN n d) 310 [.q 2 (map A3.c d),.fn (.func 286) [] [.p 0 0]] [.c 378 [.f 242]] (λr=>I r):=KA func310
def V7(d:AA A3):AB Bool:=AH (VN n d) λf=>AC (AG (0<=f))
instance vG(d:AA A3):Ks (V7 n d) 285 [.q 2 (map A3.c d),.fn (.func 286) [] [.p 0 0]] [.c 378 [.f 242]] (λr=>.b r):=KA func285
def PH(d:AA A3):AB Bool:=AH (V7 n d) λf=>AC (!f)
instance xP(d:AA A3):Ks (PH n d) 241 [.q 2 (map A3.c d),.f 242] [] (λr=>.b r):=KA func241
def PE(d:AZ):AB Bool:=(bif d.BQ then AH ((bif (d.Bb==0)then AC (d.As==0)else AC AD):AB Bool) λh=>AC h else(bif (d.As != 0)then AH ((bif (d.Bb==0)then AH (FG n 1 64 [d.As]) λf=>AC f else AC AD):AB Bool) λj=>AC j else AH (FG n 0 68719476736 [d.Bb]) λg=>AC g))
instance xM(d:AZ):Ks (PE n d) 234 [.a (AZ.c d)] [] (λr=>.b r):=KA func234
def ec(d:AZ):AB Bool:=AH (PE n d) λf=>AC (!f)
instance uS(d:AZ):Ks (ec n d) 288 [.a (AZ.c d),.p 0 0] [.c 370 [.f 234]] (λr=>.b r):=KA func288
def mj(f:AA AZ)(d:Int):AB (CG Int (CG Unit Int)):=(bif d<(AI f:Int) then AH (CJ f d) λg=>AH (ec n g) λh=>(bif h then AC (.d (.d d))else AC (.k (i64.wrap (d+1))))else AC (.d (.k ())))
def VV(g:AA AZ):AB Int:=AH (iter (mj n g) n 0:AB (CG Unit Int)) λf=>match f with|.k d=>(AC (-1))|.d d=>AC d
instance uz(d:AA AZ):Ks (VV n d) 311 [.q 4 (map AZ.c d),.fn (.func 288) [] [.p 0 0]] [.c 370 [.f 234]] (λr=>I r):=KA func311
def V0(d:AA AZ):AB Bool:=AH (VV n d) λf=>AC (AG (0<=f))
instance u_(d:AA AZ):Ks (V0 n d) 287 [.q 4 (map AZ.c d),.fn (.func 288) [] [.p 0 0]] [.c 370 [.f 234]] (λr=>.b r):=KA func287
def OB(d:AA AZ):AB Bool:=AH (V0 n d) λf=>AC (!f)
instance wF(d:AA AZ):Ks (OB n d) 243 [.q 4 (map AZ.c d),.f 234] [] (λr=>.b r):=KA func243
def OY(d:AW):AB Bool:=AH (AH (FG n 0 120 [d.A',d.To]) λf=>(bif f then AC (AG (d.A'<=d.To))else AC AD):AB Bool) λg=>AC g
instance we(d:AW):Ks (OY n d) 245 [.a (AW.c d)] [] (λr=>.b r):=KA func245
def eY(d:AW):AB Bool:=AH (OY n d) λf=>AC (!f)
instance uQ(d:AW):Ks (eY n d) 290 [.a (AW.c d),.p 0 0] [.c 381 [.f 245]] (λr=>.b r):=KA func290
def mt(f:AA AW)(d:Int):AB (CG Int (CG Unit Int)):=(bif d<(AI f:Int) then AH (CJ f d) λg=>AH (eY n g) λh=>(bif h then AC (.d (.d d))else AC (.k (i64.wrap (d+1))))else AC (.d (.k ())))
def WJ(g:AA AW):AB Int:=AH (iter (mt n g) n 0:AB (CG Unit Int)) λf=>match f with|.k d=>(AC (-1))|.d d=>AC d
instance vY(d:AA AW):Ks (WJ n d) 312 [.q 3 (map AW.c d),.fn (.func 290) [] [.p 0 0]] [.c 381 [.f 245]] (λr=>I r):=KA func312
def U9(d:AA AW):AB Bool:=AH (WJ n d) λf=>AC (AG (0<=f))
instance um(d:AA AW):Ks (U9 n d) 289 [.q 3 (map AW.c d),.fn (.func 290) [] [.p 0 0]] [.c 381 [.f 245]] (λr=>.b r):=KA func289
def Ot(d:AA AW):AB Bool:=AH (U9 n d) λf=>AC (!f)
instance ww(d:AA AW):Ks (Ot n d) 244 [.q 3 (map AW.c d),.f 245] [] (λr=>.b r):=KA func244
def O8(d:CS)(f:CB):AB Bool:=AH (AH (FG n 0 (i64.wrap ((AI f.AO:Int)-1)) [d.AN]) λg=>(bif g then AH (FG n (-1) (i64.wrap ((AI f.AV:Int)-1)) [d.AW]) λh=>(bif h then AH (FG n 1 4000 [d.Bz]) λj=>(bif j then AH (FG n 1 1125899906842624 [d.BP]) λk=>AC k else AC AD)else AC AD)else AC AD):AB Bool) λm=>AC m
instance xE(d:CS)(f:CB):Ks (O8 n d f) 235 [.a (CS.c d),.p 0 0] [.c 33 (CB.c f)] (λr=>.b r):=KA func235
def eD(d:CS)(f:CB):AB Bool:=AH (O8 n d f) λg=>AC (!g)
instance t_(d:CS)(f:CB):Ks (eD n d f) 292 [.a (CS.c d),.p 0 0] [.c 371 [.fn (.func 235) [] [.p 1 0]],.c 33 (CB.c f)] (λr=>.b r):=KA func292
def mh(f:AA CS)(j:CB)(d:Int):AB (CG Int (CG Unit Int)):=(bif d<(AI f:Int) then AH (CJ f d) λg=>AH (eD n g j) λh=>(bif h then AC (.d (.d d))else AC (.k (i64.wrap (d+1))))else AC (.d (.k ())))
def WB(g:AA CS)(h:CB):AB Int:=AH (iter (mh n g h) n 0:AB (CG Unit Int)) λf=>match f with|.k d=>(AC (-1))|.d d=>AC d
instance vO(d:AA CS)(f:CB):Ks (WB n d f) 313 [.q 4 (map CS.c d),.fn (.func 292) [] [.p 0 0]] [.c 371 [.fn (.func 235) [] [.p 1 0]],.c 33 (CB.c f)] (λr=>I r):=KA func313
def VO(d:AA CS)(f:CB):AB Bool:=AH (WB n d f) λg=>AC (AG (0<=g))
instance ut(d:AA CS)(f:CB):Ks (VO n d f) 291 [.q 4 (map CS.c d),.fn (.func 292) [] [.p 0 0]] [.c 371 [.fn (.func 235) [] [.p 1 0]],.c 33 (CB.c f)] (λr=>.b r):=KA func291
def OD(d:AA CS)(f:CB):AB Bool:=AH (VO n d f) λg=>AC (!g)
instance wH(d:AA CS)(f:CB):Ks (OD n d f) 246 [.q 4 (map CS.c d),.fn (.func 235) [] [.p 0 0]] [.c 33 (CB.c f)] (λr=>.b r):=KA func246
def UY(n:Nat)(d:CS):AB Unit:=AC ()
instance uc(d:CS):Kq (UY n d) 248 [.a (CS.c d)] [] (λ_=>.a [I d.AN,I d.AW,I d.Bz]) (λ_=>[.c 385 [I d.AN,I d.AW,I d.Bz]]):=KA func248
def T5(g:AA CS)(d:(AA (Up×Bool))×Int):AB (CG ((AA (Up×Bool))×Int) (AA (Up×Bool))):=(bif d.2<(AI g:Int) then AH (CJ g d.2) λf=>AH (UY n f) λj=>AH (AC (QJ d.1 ({B0:=f.AN,B3:=f.AW,CA:=f.Bz:Up}) AE)) λh=>AC (.k (h,i64.wrap (d.2+1)))else AC (.d d.1))
def V2(d:AA CS):AB Bool:=AH (iter (T5 n d) n ([],0):AB (AA (Up×Bool))) λf=>AC ((AI f:Int)==(AI d:Int))
instance vB(t:AA CS):Ks (V2 n t) 247 [.q 4 (map CS.c t),.f 248] [] (λr=>.b r):=by
 refine Kg 7 func247 Z Z Z Z λr h=>vH Yh ?_;refine Fg 7 Z Z (Lg 3 Z Z (Bd h λg y h=>Cg g [0] [0,5] Ze (λg=>[(0,.map (Qn (λx=>A.a (Up.c x)) A.b g))]) Zf ?_ ?_))
 .refine G0 1 Z (Lp [0] [0,1,5,9,10] (λf=>[(11,I f.2)]) (λf=>[(0,.map (Qn (λx=>A.a (Up.c x)) A.b f.1))]) y Zf (Lr [0]) λf B d j=>?_);refine G0 6 Z (Q7 Z d (λ_ d=>?_) (λ_ d=>?_))
  .exact Jc j d
  refine Gc 6 Z (Bd d λE m d=>Iz m Z (Go 9 Z (Cd [] d Kc Z λF z d=>FE Z (Bd d λG q d=>(vU (Yd r? q Z underlying409) ?_)))));exact au d
 refine Gc 3 Z (vV (r_ underlying409 Z) ?_);exact au h
def OM(d:CB):AB Bool:=AH (AH (OI n d.Au) λf=>(bif f then AH (PB n d.Az (i64.wrap ((AI d.Au:Int)-1))) λg=>(bif g then AH (VT n d.Az) λh=>(bif h then AH (O' n d.AO (i64.wrap ((AI d.Au:Int)-1))) λj=>(bif j then AH (PH n d.A0) λk=>(bif k then AH (OB n d.Ab) λm=>(bif m then AH (Ot n d.AV) λq=>(bif q then AH (OD n d.Ay d) λt=>(bif t then AH (V2 n d.Ay) λx=>(bif x then AH (FG n 0 16 [d.AQ.A8,d.AQ.A7]) λy=>(bif y then AH (FG n 0 4294967296 [d.AQ.A6,d.AQ.Al]) λz=>(bif z then AH (FG n 0 100000 [d.AQ.BG]) λB=>(bif B then AH (FG n 0 1125899906842624 [d.Bk]) λE=>(bif E then AH (FG n 0 1099511627776 [d.Aw]) λF=>AC F else AC AD)else AC AD)else AC AD)else AC AD)else AC AD)else AC AD)else AC AD)else AC AD)else AC AD)else AC AD)else AC AD)else AC AD)else AC AD):AB Bool) λG=>AC G
instance wQ(f:CB):Ks (OM n f) 149 [.a (CB.c f)] [] (λr=>.b r):=by
 refine Kg 10 func149 Z Z Z Z λr h=>Lg 55 Z Z (Bd h λd g h=>Cg d [] [] (λd=>[(2,.b d)]) Ze Zf ?_ ?_)
 .exact au g
 exact au h
def m3(n:Nat)(f:AA AX)(d:(AA Um)×Int):AB (CG ((AA Um)×Int) (AA Um)):=(bif d.2<(AI f:Int) then AH (CJ f d.2) λg=>AH (app d.1 [Um.ctyping_step ({AX:=g:Uq})]) λh=>AC (.k (h,i64.wrap (d.2+1)))else AC (.d d.1))
def MM(d:AA AX):AB (AA Um):=AH (iter (m3 n d) n ([],0):AB (AA Um)) λf=>AC f
instance jF(t:AA AX):Kq (MM n t) 250 [.q 8 (map AX.enc t)] [] (λr=>.o 0 (AI r) 1) (λr=>[.r 416 1 (map Um.enc r)]):=by
 refine Kg 9 func250 Z Z Z Z λr h=>Lg 3 Z Z (Bd h λg y h=>Cg g [0] [] (λg=>[(2,.o 0 (AI g) 1)]) (λg=>[(0,.r 416 1 (map Um.enc g))]) Zf ?_ ?_)
 .refine G0 1 Z (Lp [0] [5,6] (λf=>[(2,.o 0 (AI f.1) 1),(7,I f.2)]) (λf=>[(0,.r 416 1 (map Um.enc f.1))]) y Zf ?_ ?_)
  .exact Eo (Et (s:=2) (XR Z) Z) (Lr [0])
  intro f z d j;refine G0 6 Z (Q7 Z d (λ_ d=>?_) (λ_ d=>?_))
  .exact Jc j d
  refine Gc 6 Z (Bd d λx m d=>FJ m (Yq x) Z (Go 9 Z ?_));refine vV (dV Z GE (by nofun) Z) (vH (El (xs:=[.tmp 14]) c_ Z Z Z Z Z ⟨Z,trivial⟩ Z Z) ?_);refine FE Z (Bd d λB q d=>vH (Ql (e:=Um.enc) q c_ Gn (QE (i:=2))) ?_);exact au d
 exact au h
def KX(n:Nat)(d:Uj):AB Bool:=AH ((bif (d.AR.AY==0)then(bif (d.AR.Bw==0)then(bif (d.AR.N==0)then AC ((AI d.AR.Ac:Int)==0)else AC AD)else AC AD)else AC AD):AB Bool) λf=>AC f
instance x9(d:Uj):Ks (KX n d) 314 [.a (Uj.c ({AR:=d.AR:Uj}))] [] (λr=>.b r):=KA func314
def Ke(d:Uq):AB (AA Um):=AH (MM n d.AX.BX) λf=>AH (MM n d.AX.Be) λg=>AH (app f g) λh=>AC h
instance aK(d:Uq):Kq (Ke n d) 322 [.a (Uq.c d)] [] (λr=>.o 0 (AI r) 1) (λr=>[.r 416 1 (map Um.enc r)]):=by
 refine Kg 7 func322 Z Z Z Z λr h=>PZ 7 3 [0,0,0,1,3,3,3] (by kernel_rfl) (Da 3 Z ?_);obtain⟨f,g,h⟩:=QF h;refine DA.op (x:=.o 1 (AI f) 1) (H1:=[.c 419 (Uq.c d),.r 416 1 (map Um.enc f)]) ?_ ?_
 .refine Qh [] (C6.fn call250 Z Z Z) ((jF _ _).c _ g) ?_;rintro _ _ ⟨rfl,rfl⟩;exact FE Z Wp
 refine Db 2 Z ?_;refine DB.wo2 (Ld isAgg29 Z Wp) (Ld isAgg29 Z Wp) (DB.done Z (Cd [] h Kc Z λm k h=>FE Z (Bd h λq j h=>vH (Ql j c_ Gn (QE (i:=2))) ?_)));exact au h
def mW(n:Nat)(f:AA AR)(d:(AA Um)×Int):AB (CG ((AA Um)×Int) (AA Um)):=(bif d.2<(AI f:Int) then AH (CJ f d.2) λg=>AH (app d.1 [Um.ctyping_cond ({AR:=g:Uj})]) λh=>AC (.k (h,i64.wrap (d.2+1)))else AC (.d d.1))
def V1(d:AA AR):AB (AA Um):=AH (iter (mW n d) n ([],0):AB (AA Um)) λf=>AC f
instance vA(t:AA AR):Kq (V1 n t) 324 [.q 4 (map AR.enc t)] [] (λr=>.o 0 (AI r) 1) (λr=>[.r 416 1 (map Um.enc r)]):=by
 refine Kg 9 func324 Z Z Z Z λr h=>Lg 3 Z Z (Bd h λg y h=>Cg g [0] [] (λg=>[(2,.o 0 (AI g) 1)]) (λg=>[(0,.r 416 1 (map Um.enc g))]) Zf ?_ ?_)
 .refine G0 1 Z (Lp [0] [5,6] (λf=>[(2,.o 0 (AI f.1) 1),(7,I f.2)]) (λf=>[(0,.r 416 1 (map Um.enc f.1))]) y Zf ?_ ?_)
  .exact Eo (Et (s:=2) (XR Z) Z) (Lr [0])
  intro f z d j;refine G0 6 Z (Q7 Z d (λ_ d=>?_) (λ_ d=>?_))
  .exact Jc j d
  refine Gc 6 Z (Bd d λx m d=>FJ m (Jf x) Z (Go 9 Z ?_));refine vV (dV Z EW (by nofun) Z) (vH (El (xs:=[.tmp 14]) c_ Z Z Z Z Z ⟨Z,trivial⟩ Z Z) ?_);refine FE Z (Bd d λB q d=>vH (Ql (e:=Um.enc) q c_ Gn (QE (i:=2))) ?_);exact au d
 exact au h
def I'(d:Uj):AB (AA Um):=AH (V1 n d.AR.Ac) λf=>AC f
instance aL(d:Uj):Kq (I' n d) 321 [.a (Uj.c ({AR:=d.AR:Uj}))] [] (λr=>.o 0 (AI r) 1) (λr=>[.r 416 1 (map Um.enc r)]):=KA func321
def Li(y:AA Um)(z:Int)(rec95:(AA Um)->Int->Uk->AB (Uk×Bool))(d:Uk×Int):AB (CG (Uk×Int) (CG Uk (Uk×Bool))):=(bif d.2<(AI y:Int) then AH (CJ y d.2) λB=>Um.elim B (λj=>AH (AH (KX n ({AR:=j.AX.AR:Uj})) λE=>(bif (!E)then AH (rec95 [Um.ctyping_cond ({AR:=j.AX.AR:Uj})] 0 ({BE:=i64.wrap (d.1.BE+1),BF:=d.1.BF:Uk})) λk=>AC (k.1,(!k.2))else AC ({BE:=i64.wrap (d.1.BE+1),BF:=d.1.BF:Uk},AD)):AB (Uk×Bool)) λf=>(bif f.2 then AC (.d (.d (f.1,AD)))else AH ((bif 64<f.1.BE then AC (f.1,AE)else(bif 256<f.1.BF then AC (f.1,AE)else AH (Ke n j) λt=>AH (rec95 t (i64.wrap (z+1)) f.1) λm=>AC (m.1,(!m.2)))):AB (Uk×Bool)) λg=>(bif g.2 then AC (.d (.d (g.1,AD)))else AC (.k (g.1,i64.wrap (d.2+1)))))) (λF=>AH ((bif 64<d.1.BE then AC ({BE:=d.1.BE,BF:=i64.wrap (d.1.BF+1):Uk},AE)else(bif 256<(i64.wrap (d.1.BF+1)) then AC ({BE:=d.1.BE,BF:=i64.wrap (d.1.BF+1):Uk},AE)else AH (I' n ({AR:=F.AR:Uj})) λx=>AH (rec95 x (i64.wrap (z+1)) ({BE:=d.1.BE,BF:=i64.wrap (d.1.BF+1):Uk})) λq=>AC (q.1,(!q.2)))):AB (Uk×Bool)) λh=>(bif h.2 then AC (.d (.d (h.1,AD)))else AC (.k (h.1,i64.wrap (d.2+1)))))else AC (.d (.k d.1)))
def iM(rec95:(AA Um)->Int->Uk->AB (Uk×Bool))(n:Nat)(f:AA Um)(g:Int)(h:Uk):AB (Uk×Bool):=AH ((bif 0<(AI f:Int) then AC (AG (16<g))else AC AD):AB Bool) λk=>(bif k then AC (h,AD)else AH (iter (Li n f g rec95) n (h,0):AB (CG Uk (Uk×Bool))) λj=>match j with|.k d=>(AC (d,AE))|.d d=>AC d)
theorem Qaz(rec95:(AA Um)->Int->Uk->AB (Uk×Bool))(ac:∀(t:AA Um) (J:Int) (L:Uk),Kq (rec95 t J L) 293 [.p 0 0,.o 1 (AI t) 1,I J] [.c 412 (Uk.c L),.r 416 1 (map Um.enc t)] (λr=>.b r.2) (λr=>[.c 412 (Uk.c r.1),.r 416 1 (map Um.enc t)]))(n:Nat)(t:AA Um)(J:Int)(L:Uk):Kq (iM rec95 n t J L) 293 [.p 0 0,.o 1 (AI t) 1,I J] [.c 412 (Uk.c L),.r 416 1 (map Um.enc t)] (λr=>.b r.2) (λr=>[.c 412 (Uk.c r.1),.r 416 1 (map Um.enc t)]):=by
 refine Kg 7 func293 Z Z Z Z λr h=>Bd h λb2 h3 h=>Ct b2 [0,1] [0,1,2] (λb2=>[(18,.b b2)]) Ze Zf ?_ (λenv H y=>?_)
 .exact au h3
 refine Gx 1 Z (Ef y (Cn Z h (λ_ h=>?_) (λ_ h=>?_)))
 .exact au h
 refine Gc 10 Z (Bd h λae af h=>D5 (b:=ae) [0,1] [] Ze (λM=>[(0,.c 412 (Uk.c M))]) Zf ?_ (λM ag=>?_))
 .refine G0 1 Z (Lp [0,1] [0,2,19,20] (λB=>[(21,I B.2)]) (λB=>[(0,.c 412 (Uk.c B.1))]) af Zf (Lr [0,1]) λB ak d x=>?_);refine G0 6 Z (Q7 Z d (λ_ d=>?_) (λ_ d=>?_))
  .exact Jc x d
  refine Gc 6 Z (Bd d λY N d=>?_);refine vX (.p 1 (toNat B.2*1)) (Qf N Z Gn sizeOf416) ?_;refine vX (Um.val Y) (EA Z isAgg416 Z (Qi N)) ?_;refine Go 12 Z ?_;rcases JF Y with⟨E,hE90⟩|⟨G,hE92⟩
  .have d:=Jq hE90 d;refine Eu (Q4 (s:=8) (a':=.iface 419 (.a (Uq.c E))) Z (congrArg Um.val hE90)) ?_;refine Eu (Q4 (s:=24) (a':=.iface 419 (.a (Uq.c E))) Z (congrArg Um.val hE90)) ?_;refine Eu (Q4 (s:=25) (a':=.iface 419 (.a (Uq.c E))) Z (congrArg Um.val hE90)) ?_;refine vX (.t [.a [I 0,I 0,I 0,.q 4 (map AR.enc [])],.b AD]) (kO (z:=(.a [I 0,I 0,I 0,.q 4 (map AR.enc [])])) EW (by intro m;nofun) Z G3 (Fh Z)) ?_;refine Go 7 Z ?_;refine vX (.t [.a (Uq.c E),.b AE]) (SW GE (by intro m;nofun)) ?_;refine Go 34 Z (Bd d λF j d=>Ct F [0,1] [0,2,8,19,20,21] (λF=>[(60,.b F.2)]) (λF=>[(0,.c 412 (Uk.c F.1))]) Zf ?_ (λenv H y=>?_))
   .refine G0 2 Z (Cz [] j Kc Z λal ah j=>Go 2 Z (Is 53 j Z (λ_ j=>?_) (λ_ j=>?_)))
    .refine Go 2 Z ?_;refine vX (.iface 438 (.a (Uj.c ({AR:=E.AX.AR:Uj})))) (dV Z EW (by intro m;nofun) Z) ?_ (gT Z);exact au j
    exact au j
   refine Gx 1 Z (Ef y (Cn Z d (λ_ d=>?_) (λ_ d=>?_)))
   .exact DV x d h
   refine Gc 4 Z (Bd d λk f d=>Ct k [0,1] [0,2,19,20,21] (λk=>[(81,.b k.2)]) (λk=>[(0,.c 412 (Uk.c k.1))]) Zf ?_ (λenv H y=>?_))
   .refine G0 7 Z (Is 66 f Z (λ_ f=>?_) (λ_ f=>?_))
    .exact au f
    .refine Go 7 Z (Is 73 f Z (λ_ f=>?_) (λ_ f=>?_))
     .exact au f
     .refine Go 2 Z (Bd f λai R f=>?_);refine Qh [] (gP call322 Z Z Z Z (λ_ _=>by kernel_rfl)) ((aK _ _).c _ R) ?_ (hg:=(gT Z));rintro _ _ ⟨rfl,rfl⟩;exact au f
   refine Gx 1 Z (Ef y (Cn Z d (λ_ d=>?_) (λ_ d=>?_)))
   .exact DV x d h
   exact au d
  .have d:=Jp hE92 d;refine Eu (Q4 (s:=8) (a':=.iface 438 (.a (Uj.c ({AR:=G.AR:Uj})))) Z (congrArg Um.val hE92)) ?_;refine Eu (Q4 (s:=24) (a':=.iface 438 (.a (Uj.c ({AR:=G.AR:Uj})))) Z (congrArg Um.val hE92)) ?_;refine Eu (Q4 (s:=25) (a':=.iface 438 (.a (Uj.c ({AR:=G.AR:Uj})))) Z (congrArg Um.val hE92)) ?_;refine vX (.t [.a (Uj.c ({AR:=G.AR:Uj})),.b AE]) (SW EW (by intro m;nofun)) ?_;refine Go 24 Z (Bd d λq g d=>Cg q [0,1] [0,2,19,20,21] (λq=>[(81,.b q.2)]) (λq=>[(0,.c 412 (Uk.c q.1))]) Zf ?_ ?_)
   .refine G0 7 Z (Is 66 g Z (λ_ g=>?_) (λ_ g=>?_))
    .exact au g
    .refine Go 7 Z (Is 73 g Z (λ_ g=>?_) (λ_ g=>?_))
     .exact au g
     .refine Go 2 Z (Bd g λaj X g=>?_);refine Qh [] (gP call321 Z Z Z Z (λ_ _=>by kernel_rfl)) ((aL _ _).c _ X) ?_ (hg:=(gT Z));rintro _ _ ⟨rfl,rfl⟩;exact au g
   exact DV x d h
 subst ag;exact au h
def Mn:Nat->(AA Um)->Int->Uk->AB (Uk×Bool)
  |0=>λ_ _ _=>AF
  |n+1=>iM (Mn n) n
instance k_i:∀(d:AA Um) (f:Int) (g:Uk),Kq (Mn n d f g) 293 [.p 0 0,.o 1 (AI d) 1,I f] [.c 412 (Uk.c g),.r 416 1 (map Um.enc d)] (λr=>.b r.2) (λr=>[.c 412 (Uk.c r.1),.r 416 1 (map Um.enc d)]):=by
  induction n with
  |zero=>exact λ_ _ _=>⟨nofun⟩
  |succ n ih=>exact Qaz _ ih n
def mn(y:AA Um)(z:Int)(d:Uk×Int):AB (CG (Uk×Int) (CG Uk (Uk×Bool))):=(bif d.2<(AI y:Int) then AH (CJ y d.2) λB=>Um.elim B (λj=>AH (AH (KX n ({AR:=j.AX.AR:Uj})) λE=>(bif (!E)then AH (Mn n [Um.ctyping_cond ({AR:=j.AX.AR:Uj})] 0 ({BE:=i64.wrap (d.1.BE+1),BF:=d.1.BF:Uk})) λk=>AC (k.1,(!k.2))else AC ({BE:=i64.wrap (d.1.BE+1),BF:=d.1.BF:Uk},AD)):AB (Uk×Bool)) λf=>(bif f.2 then AC (.d (.d (f.1,AD)))else AH ((bif 64<f.1.BE then AC (f.1,AE)else(bif 256<f.1.BF then AC (f.1,AE)else AH (Ke n j) λt=>AH (Mn n t (i64.wrap (z+1)) f.1) λm=>AC (m.1,(!m.2)))):AB (Uk×Bool)) λg=>(bif g.2 then AC (.d (.d (g.1,AD)))else AC (.k (g.1,i64.wrap (d.2+1)))))) (λF=>AH ((bif 64<d.1.BE then AC ({BE:=d.1.BE,BF:=i64.wrap (d.1.BF+1):Uk},AE)else(bif 256<(i64.wrap (d.1.BF+1)) then AC ({BE:=d.1.BE,BF:=i64.wrap (d.1.BF+1):Uk},AE)else AH (I' n ({AR:=F.AR:Uj})) λx=>AH (Mn n x (i64.wrap (z+1)) ({BE:=d.1.BE,BF:=i64.wrap (d.1.BF+1):Uk})) λq=>AC (q.1,(!q.2)))):AB (Uk×Bool)) λh=>(bif h.2 then AC (.d (.d (h.1,AD)))else AC (.k (h.1,i64.wrap (d.2+1)))))else AC (.d (.k d.1)))
def eE(f:AA Um)(g:Int)(h:Uk):AB (Uk×Bool):=AH ((bif 0<(AI f:Int) then AC (AG (16<g))else AC AD):AB Bool) λk=>(bif k then AC (h,AD)else AH (iter (mn n f g) n (h,0):AB (CG Uk (Uk×Bool))) λj=>match j with|.k d=>(AC (d,AE))|.d d=>AC d)
instance uA(Y:AA Um)(a2:Int)(a3:Uk):Kq (eE n Y a2 a3) 293 [.p 0 0,.q 1 (map Um.enc Y),I a2] [.c 412 (Uk.c a3)] (λr=>.b r.2) (λr=>[.c 412 (Uk.c r.1)]):=by
 refine Kg 7 func293 Z Z Z Z λr h=>Bd h λT h3 h=>Ct T [0] [0,1,2] (λT=>[(18,.b T)]) Ze Zf ?_ (λenv H x=>?_)
 .exact au h3
 refine Gx 1 Z (Ef x (Cn Z h (λ_ h=>?_) (λ_ h=>?_)))
 .exact au h
 refine Gc 6 Z (Lg 3 Z Z (Bd h λab ac h=>D5 (b:=ab) [0] [] Ze (λG=>[(0,.c 412 (Uk.c G))]) Zf ?_ (λG ad=>?_)))
 .refine G0 1 Z (Lp [0] [0,2,19,20] (λE=>[(21,I E.2)]) (λE=>[(0,.c 412 (Uk.c E.1))]) ac Zf (Lr [0]) λE ai d t=>?_);refine G0 6 Z (Q7 Z d (λ_ d=>?_) (λ_ d=>?_))
  .exact Jc t d
  refine Gc 6 Z (Bd d λae W d=>Iz W Z (Go 13 Z ?_));rcases JF ae with⟨y,hE90⟩|⟨F,hE92⟩
  .have d:=Jq hE90 d;refine Eu (Q4 (s:=8) (a':=.iface 419 (.a (Uq.c y))) Z (congrArg Um.val hE90)) ?_;refine Eu (Q4 (s:=24) (a':=.iface 419 (.a (Uq.c y))) Z (congrArg Um.val hE90)) ?_;refine Eu (Q4 (s:=25) (a':=.iface 419 (.a (Uq.c y))) Z (congrArg Um.val hE90)) ?_;refine vX (.t [.a [I 0,I 0,I 0,.q 4 (map AR.enc [])],.b AD]) (kO (z:=(.a [I 0,I 0,I 0,.q 4 (map AR.enc [])])) EW (by intro m;nofun) Z G3 (Fh Z)) ?_;refine Go 7 Z ?_;refine vX (.t [.a (Uq.c y),.b AE]) (SW GE (by intro m;nofun)) ?_;refine Go 34 Z (Bd d λB j d=>Ct B [0] [0,2,8,19,20,21] (λB=>[(60,.b B.2)]) (λB=>[(0,.c 412 (Uk.c B.1))]) Zf ?_ (λenv H x=>?_))
   .refine G0 2 Z (Cz [] j Kc Z λaj af j=>Go 2 Z (Is 53 j Z (λ_ j=>?_) (λ_ j=>?_)))
    .refine Go 2 Z ?_;refine vX (.iface 438 (.a (Uj.c ({AR:=y.AX.AR:Uj})))) (dV Z EW (by intro m;nofun) Z) ?_ (gT Z);exact au j
    exact au j
   refine Gx 1 Z (Ef x (Cn Z d (λ_ d=>?_) (λ_ d=>?_)))
   .exact DV t d h
   refine Gc 4 Z (Bd d λk f d=>Ct k [0] [0,2,19,20,21] (λk=>[(81,.b k.2)]) (λk=>[(0,.c 412 (Uk.c k.1))]) Zf ?_ (λenv H x=>?_))
   .refine G0 7 Z (Is 66 f Z (λ_ f=>?_) (λ_ f=>?_))
    .exact au f
    .refine Go 7 Z (Is 73 f Z (λ_ f=>?_) (λ_ f=>?_))
     .exact au f
     .refine Go 2 Z (Bd f λag N f=>?_);refine Qh [] (gP call322 Z Z Z Z (λ_ _=>by kernel_rfl)) ((aK _ _).c _ N) ?_ (hg:=(gT Z));rintro _ _ ⟨rfl,rfl⟩;exact au f
   refine Gx 1 Z (Ef x (Cn Z d (λ_ d=>?_) (λ_ d=>?_)))
   .exact DV t d h
   exact au d
  .have d:=Jp hE92 d;refine Eu (Q4 (s:=8) (a':=.iface 438 (.a (Uj.c ({AR:=F.AR:Uj})))) Z (congrArg Um.val hE92)) ?_;refine Eu (Q4 (s:=24) (a':=.iface 438 (.a (Uj.c ({AR:=F.AR:Uj})))) Z (congrArg Um.val hE92)) ?_;refine Eu (Q4 (s:=25) (a':=.iface 438 (.a (Uj.c ({AR:=F.AR:Uj})))) Z (congrArg Um.val hE92)) ?_;refine vX (.t [.a (Uj.c ({AR:=F.AR:Uj})),.b AE]) (SW EW (by intro m;nofun)) ?_;refine Go 24 Z (Bd d λq g d=>Cg q [0] [0,2,19,20,21] (λq=>[(81,.b q.2)]) (λq=>[(0,.c 412 (Uk.c q.1))]) Zf ?_ ?_)
   .refine G0 7 Z (Is 66 g Z (λ_ g=>?_) (λ_ g=>?_))
    .exact au g
    .refine Go 7 Z (Is 73 g Z (λ_ g=>?_) (λ_ g=>?_))
     .exact au g
     .refine Go 2 Z (Bd g λah R g=>?_);refine Qh [] (gP call321 Z Z Z Z (λ_ _=>by kernel_rfl)) ((aL _ _).c _ R) ?_ (hg:=(gT Z));rintro _ _ ⟨rfl,rfl⟩;exact au g
   exact DV t d h
 subst ad;exact au h
def WN(rec99:(AA Um)->AB Bool)(n:Nat)(d:Uj):AB Bool:=AH ((bif (d.AR.Bw==0)then AC (d.AR.N==0)else AC AD):AB Bool) λg=>(bif (d.AR.AY==1)then AH (AH (FG n 1 3 [d.AR.Bw]) λh=>(bif h then AH (FG n 0 10000 [d.AR.N]) λj=>(bif j then AC ((AI d.AR.Ac:Int)==0)else AC AD)else AC AD):AB Bool) λk=>AC k else AH ((bif (d.AR.AY==4)then(bif g then AC (.k ((AI d.AR.Ac:Int)==1))else AC (.k AD))else AH ((bif (d.AR.AY==2)then AC (d.AR.AY==2)else AC (d.AR.AY==3)):AB Bool) λm=>(bif m then(bif g then(bif 0<(AI d.AR.Ac:Int) then AC (.k (AG ((AI d.AR.Ac:Int)<=16)))else AC (.k AD))else AC (.k AD))else AC (.d AD))):AB (CG Bool Bool)) λq=>match q with|.k f=>(AH ((bif f then AH (I' n ({AR:=d.AR:Uj})) λt=>AH (rec99 t) λx=>AC (!x)else AC AD):AB Bool) λy=>AC y)|.d f=>AC f)
instance vb(rec99:(AA Um)->AB Bool)[z:∀(g:AA Um),Ks (rec99 g) 294 [.q 1 (map Um.enc g),.f 295] [] (λr=>.b r)](n:Nat)(g:Uj):Ks (WN rec99 n g) 316 [.iface 438 (.a (Uj.c ({AR:=g.AR:Uj})))] [] (λr=>.b r):=by
 refine Kg 14 func316 Z Z Z Z λr h=>?_;refine vX (.t [.a (Uj.c ({AR:=g.AR:Uj})),.b AE]) (SW EW (by intro m;nofun)) ?_;refine Go 12 Z (Bd h λt J h=>Ct t [0] [3] (λt=>[(4,.b t)]) Ze Zf ?_ (λenv H f=>?_))
 .exact au J
 refine Gx 1 Z (Ef f (Gc 15 Z (Cn Z h (λ_ h=>?_) (λ_ h=>?_))))
 .exact au h
 refine Gc 6 Z (Bd h λE d h=>FT (b:=E) [0] [3] (λj=>[(4,.b j)]) Ze Zf ?_ (λj env H hb f=>?_))
 .refine G0 0 Z (Cn Z d (λ_ d=>?_) (λ_ d=>?_))
  .exact au d
  refine Gc 7 Z (Bd d λk F d=>Ct k [0] [3,4] (λk=>[(55,.b k)]) Ze Zf ?_ (λenv H f=>?_))
  .exact au F
  refine Gx 1 Z (Ef f (Q7 Z d (λ_ d=>?_) (λ_ d=>?_)))
  .refine Gc 6 Z ?_;cases d;exact au h
  exact au d
 subst hb;refine Gx 2 Z (Ef f (Gc 1 Z (Bd h λq G h=>Cg q [] [] (λq=>[(2,.b q)]) Ze Zf ?_ ?_)))
 .exact au G
 exact au h
def e7(rec99:(AA Um)->AB Bool)(n:Nat)(O:Um):AB Bool:=Um.elim O (λf=>(bif (f.AX.AY==1)then AH (AH (FG n 1 5 [f.AX.By]) λj=>(bif j then AH (KX n ({AR:=f.AX.AR:Uj})) λk=>(bif k then AH (Ke n f) λm=>AC ((AI m:Int)==0)else AC AD)else AC AD):AB Bool) λq=>AC q else(bif (f.AX.AY==2)then AH ((bif (f.AX.By==0)then AH (WN rec99 n ({AR:=f.AX.AR:Uj})) λt=>(bif t then(bif 0<(AI f.AX.BX:Int) then AH (Ke n f) λx=>AH (rec99 x) λy=>AC (!y)else AC AD)else AC AD)else AC AD):AB Bool) λz=>AC z else AC AD))) (λd=>AH ((bif (d.AR.Bw==0)then AC (d.AR.N==0)else AC AD):AB Bool) λh=>(bif (d.AR.AY==1)then AH (AH (FG n 1 3 [d.AR.Bw]) λB=>(bif B then AH (FG n 0 10000 [d.AR.N]) λE=>(bif E then AC ((AI d.AR.Ac:Int)==0)else AC AD)else AC AD):AB Bool) λF=>AC F else AH ((bif (d.AR.AY==4)then(bif h then AC (.k ((AI d.AR.Ac:Int)==1))else AC (.k AD))else AH ((bif (d.AR.AY==2)then AC (d.AR.AY==2)else AC (d.AR.AY==3)):AB Bool) λG=>(bif G then(bif h then(bif 0<(AI d.AR.Ac:Int) then AC (.k (AG ((AI d.AR.Ac:Int)<=16)))else AC (.k AD))else AC (.k AD))else AC (.d AD))):AB (CG Bool Bool)) λH=>match H with|.k g=>(AH ((bif g then AH (I' n ({AR:=d.AR:Uj})) λJ=>AH (rec99 J) λL=>AC (!L)else AC AD):AB Bool) λM=>AC M)|.d g=>AC g))
instance im(rec99:(AA Um)->AB Bool)[N:∀(j:AA Um),Ks (rec99 j) 294 [.q 1 (map Um.enc j),.f 295] [] (λr=>.b r)](n:Nat)(j:Um):Ks (e7 rec99 n j) 316 [Um.val j] [] (λr=>.b r):=by
 refine Kg 14 func316 Z Z Z Z λr h=>?_;rcases JF j with⟨B,hE2⟩|⟨E,hE4⟩
 .have h:=Jq hE2 h;refine Eu (Q4 (s:=0) (a':=.iface 419 (.a (Uq.c B))) Z (congrArg Um.val hE2)) ?_;refine Eu (Q4 (s:=7) (a':=.iface 419 (.a (Uq.c B))) Z (congrArg Um.val hE2)) ?_;refine vX (.t [.a [I 0,I 0,I 0,.q 4 (map AR.enc [])],.b AD]) (kO (z:=(.a [I 0,I 0,I 0,.q 4 (map AR.enc [])])) EW (by intro m;nofun) Z G3 (Fh Z)) ?_;refine Go 7 Z ?_;refine vX (.t [.a (Uq.c B),.b AE]) (SW GE (by intro m;nofun)) ?_;refine Go 35 Z (Cn Z h (λ_ h=>?_) (λ_ h=>?_))
  .exact au h
  refine Gc 6 Z (Cn Z h (λ_ h=>?_) (λ_ h=>?_))
  .refine Gc 1 Z (Bd h λk g h=>Ct k [] [] (λk=>[(2,.b k)]) Ze Zf ?_ (λenv H f=>?_))
   .refine G0 6 Z (Is 113 g Z (λ_ g=>?_) (λ_ g=>?_))
    .refine Go 1 Z ?_;refine vX (.iface 438 (.a (Uj.c ({AR:=B.AX.AR:Uj})))) (dV Z EW (by intro m;nofun) Z) ?_ (gT Z);exact au g
    exact au g
   exact Gx 1 Z (Ef f (tp 4 Z h 2 []))
  exact au h
 .have h:=Jp hE4 h;refine Eu (Q4 (s:=0) (a':=.iface 438 (.a (Uj.c ({AR:=E.AR:Uj})))) Z (congrArg Um.val hE4)) ?_;refine Eu (Q4 (s:=7) (a':=.iface 438 (.a (Uj.c ({AR:=E.AR:Uj})))) Z (congrArg Um.val hE4)) ?_;refine vX (.t [.a (Uj.c ({AR:=E.AR:Uj})),.b AE]) (SW EW (by intro m;nofun)) ?_;refine Go 12 Z (Bd h λq P h=>Ct q [0] [3] (λq=>[(4,.b q)]) Ze Zf ?_ (λenv H f=>?_))
  .exact au P
  refine Gx 1 Z (Ef f (Gc 15 Z (Cn Z h (λ_ h=>?_) (λ_ h=>?_))))
  .exact au h
  refine Gc 6 Z (Bd h λQ d h=>FT (b:=Q) [0] [3] (λt=>[(4,.b t)]) Ze Zf ?_ (λt env H hb f=>?_))
  .refine G0 0 Z (Cn Z d (λ_ d=>?_) (λ_ d=>?_))
   .exact au d
   refine Gc 7 Z (Bd d λx R d=>Ct x [0] [3,4] (λx=>[(55,.b x)]) Ze Zf ?_ (λenv H f=>?_))
   .exact au R
   refine Gx 1 Z (Ef f (Q7 Z d (λ_ d=>?_) (λ_ d=>?_)))
   .refine Gc 6 Z ?_;cases d;exact au h
   exact au d
  subst hb;refine Gx 2 Z (Ef f (Gc 1 Z (Bd h λy T h=>Cg y [] [] (λy=>[(2,.b y)]) Ze Zf ?_ ?_)))
  .exact au T
  exact au h
def Wa(rec99:(AA Um)->AB Bool)(n:Nat)(d:Um):AB Bool:=AH (e7 rec99 n d) λf=>AC (!f)
instance iq(rec99:(AA Um)->AB Bool)[f:∀(d:AA Um),Ks (rec99 d) 294 [.q 1 (map Um.enc d),.f 295] [] (λr=>.b r)](n:Nat)(d:Um):Ks (Wa rec99 n d) 295 [Um.val d] [] (λr=>.b r):=by
 exact Kg 8 func295 Z Z Z Z λr h=>Bd h λj g h=>Pc [] Z (C6.fn call316 Z Z Z) ((im rec99 _ _).c _ g) (hargs:=by first|exact Z|exact Eq.trans (by exact Z) (Sc _ (by simp[YI,YJ,Um.data])).symm) Z (Gt 5 Z h 2 [])
def mg(f:AA Um)(rec99:(AA Um)->AB Bool)(d:Int):AB (CG Int (CG Unit Int)):=(bif d<(AI f:Int) then AH (CJ f d) λg=>AH (Wa rec99 n g) λh=>(bif h then AC (.d (.d d))else AC (.k (i64.wrap (d+1))))else AC (.d (.k ())))
def eB(rec99:(AA Um)->AB Bool)(n:Nat)(g:AA Um):AB Int:=AH (iter (mg n g rec99) n 0:AB (CG Unit Int)) λf=>match f with|.k d=>(AC (-1))|.d d=>AC d
instance t9(rec99:(AA Um)->AB Bool)[x:∀(f:AA Um),Ks (rec99 f) 294 [.q 1 (map Um.enc f),.f 295] [] (λr=>.b r)](n:Nat)(f:AA Um):Ks (eB rec99 n f) 315 [.q 1 (map Um.enc f),.f 295] [] (λr=>I r):=by
 refine Kg 9 func315 Z Z Z Z λr h=>Lg 3 Z Z (Bd h λy z h=>D5 (b:=y) [] [] Ze Ze Zf ?_ (λ_ B=>?_))
 .refine G0 1 Z (Lp [] [0,1,7] (λj=>[(8,I j)]) Ze z Zf (Lr []) λj F d g=>?_);refine G0 6 Z (Q7 Z d (λ_ d=>?_) (λ_ d=>?_))
  .exact Jc g d
  refine Gc 15 Z (Bd d λG m d=>Iz m Z (Go 1 Z (Bd d λH q d=>Pc [] Z (JL call295 Z Z Z Z) ((iq rec99 _ _).c _ q) (hargs:=by first|exact Z|exact Eq.trans (by exact Z) (Sc _ (by simp[YI,YJ,Um.data])).symm) Z (Go 2 Z (Cn Z d (λ_ d=>?_) (λ_ d=>?_))))))
  .exact DV g d h
  exact au d
 subst B;exact au h
def Wi(rec99:(AA Um)->AB Bool)(n:Nat)(d:AA Um):AB Bool:=AH (eB rec99 n d) λf=>AC (AG (0<=f))
theorem QaA(rec99:(AA Um)->AB Bool)(f:∀(d:AA Um),Ks (rec99 d) 294 [.q 1 (map Um.enc d),.f 295] [] (λr=>.b r))(n:Nat)(d:AA Um):Ks (Wi rec99 n d) 294 [.q 1 (map Um.enc d),.f 295] [] (λr=>.b r):=KA func294
def JP:Nat->(AA Um)->AB Bool
  |0=>λ_=>AF
  |n+1=>Wi (JP n) n
instance yf:∀(d:AA Um),Ks (JP n d) 294 [.q 1 (map Um.enc d),.f 295] [] (λr=>.b r):=by
  induction n with
  |zero=>exact λ_=>⟨nofun⟩
  |succ n ih=>exact QaA _ ih n
def eJ(d:AA Um):AB Int:=AH (eE n d 0 ({BE:=0,BF:=0:Uk})) λf=>(bif (!f.2)then AC 2 else AH ((bif ((AI d:Int)==0)then AC AE else AH (JP n d) λg=>AC g):AB Bool) λh=>(bif h then AC 71 else AC 0))
instance uE(d:AA Um):Ks (eJ n d) 249 [.q 1 (map Um.enc d)] [] (λr=>I r):=KA func249
def V3(d:AA AX):AB Int:=AH (MM n d) λf=>AH (eJ n f) λg=>AC g
instance vC(d:AA AX):Ks (V3 n d) 150 [.q 8 (map AX.enc d)] [] (λr=>I r):=KA func150
def Lh(n:Nat)(f:CH)(g:AA Int)(d:(AA Int)×Int):AB (CG ((AA Int)×Int) (CG (AA Int) (CG ((AA Int)×Int) (CG (AA Int) (AA Int))))):=(bif d.2<(if f.As<1 then 1 else f.As) then(bif 256<(AI d.1:Int) then AC (.d (.d (.d (.d d.1))))else AH (app d.1 g) λh=>AC (.k (h,i64.wrap (d.2+1))))else AC (.d (.k d.1)))
def Lb(h:AA CH)(rec118:(AA CH)->AB (AA Int))(d:(AA Int)×Int):AB (CG ((AA Int)×Int) (CG (AA Int) (AA Int))):=(bif d.2<(AI h:Int) then AH (CJ h d.2) λg=>AH ((bif 0<g.As then AH (rec118 g.Ac) λj=>AC j else AC [g.Am]):AB (AA Int)) λk=>AH (iter (Lh n g k) n (d.1,0):AB (CG (AA Int) (CG ((AA Int)×Int) (CG (AA Int) (AA Int))))) λm=>match m with|.k f=>(AC (.k (f,i64.wrap (d.2+1))))|.d f=>AC f else AC (.d (.k d.1)))
def Pi(rec118:(AA CH)->AB (AA Int))(n:Nat)(g:AA CH):AB (AA Int):=AH (iter (Lb n g rec118) n ([],0):AB (CG (AA Int) (AA Int))) λf=>match f with|.k d=>(AC d)|.d d=>AC d
theorem Qc6(rec118:(AA CH)->AB (AA Int))(P:∀(z:AA CH),Kq (rec118 z) 253 [.q 3 (map CH.enc z)] [] (λr=>.o 0 (AI r) 1) (λr=>[.r 3 1 (map (Qe .i64) r)]))(n:Nat)(z:AA CH):Kq (Pi rec118 n z) 253 [.q 3 (map CH.enc z)] [] (λr=>.o 0 (AI r) 1) (λr=>[.r 3 1 (map (Qe .i64) r)]):=by
 refine Kg 9 func253 Z Z Z Z λr h=>Lg 3 Z Z (Bd h λQ R h=>D5 (b:=Q) [0] [] (λg=>[(2,.o 0 (AI g) 1)]) (λg=>[(0,.r 3 1 (map (Qe .i64) g))]) Zf ?_ (λg B=>?_))
 .refine G0 1 Z (Lp [0] [6,7] (λm=>[(2,.o 0 (AI m.1) 1),(8,I m.2)]) (λm=>[(0,.r 3 1 (map (Qe .i64) m.1))]) R Zf ?_ ?_)
  .refine Eo (Et (s:=2) (k:=1) (t:=3) (XR Z) Z) ?_;exact Lr [0]
  intro m X d E;refine G0 6 Z (Q7 Z d (λ_ d=>?_) (λ_ d=>?_))
  .exact Jc E d
  refine Gc 6 Z (Bd d λy L d=>FJ L (QL y) Z (Go 9 Z (vH (El (xs:=[.tmp 13]) (es:=map (Qe .i64) [y.Am]) Qu Z Z Z Z Z ⟨Z,trivial⟩ Z Z) ?_)));refine Fg 11 Z Z (Bd d λq T d=>Ct q [0,1,0] [2,4,6,7,8] (λq=>[(5,.o 2 (AI q) 1)]) (λq=>[(2,.r 3 1 (map (Qe .i64) q))]) Zf ?_ (λenv H F=>?_))
  .exact au T
  refine Gx 1 Z (Ef F (Gc 4 Z ?_));refine vX (I (if y.As<1 then 1 else y.As)) (CU.max Z Z Z Z) ?_;refine Go 3 Z (Bd d λV W d=>FT (b:=V) [0] [6,7,8] (λj=>[(2,.o 0 (AI j) 1)]) (λj=>[(0,.r 3 1 (map (Qe .i64) j))]) Zf ?_ (λj env H B F=>?_))
  .refine G0 1 Z (Lp [0,2] [5,6,7,8,23] (λx=>[(2,.o 0 (AI x.1) 1),(24,I x.2)]) (λx=>[(0,.r 3 1 (map (Qe .i64) x.1))]) W Zf (Lr [0,2]) λx Y f G=>?_);refine G0 6 Z (Q7 Z f (λ_ f=>?_) (λ_ f=>?_))
   .exact Jc G f
   refine Gc 12 Z (Cn Z f (λ_ f=>?_) (λ_ f=>?_))
   .refine Gc 10 Z (Il f ?_);obtain rfl:=Oj G f;exact DV E d h
   refine Gc 5 Z (Bd f λaa O f=>vH (Ql (e:=(Qe .i64)) O Qu EC (QE (i:=1))) ?_);exact au f
  subst B;exact Gx 2 Z (Ef F (Gc 4 Z (Q1 d (Lr [0]))))
 subst B;exact au h
def JQ:Nat->(AA CH)->AB (AA Int)
  |0=>λ_=>AF
  |n+1=>Pi (JQ n) n
instance yi:∀(d:AA CH),Kq (JQ n d) 253 [.q 3 (map CH.enc d)] [] (λr=>.o 0 (AI r) 1) (λr=>[.r 3 1 (map (Qe .i64) r)]):=by
  induction n with
  |zero=>exact λ_=>⟨nofun⟩
  |succ n ih=>exact Qc6 _ ih n
def Oc(n:Nat)(d:CO)(f:AA (Int×Int)):AB Bool:=AH (AC (Qo f d.Am 0)) λg=>AC (AG (d.B9<=g))
instance wj(d:CO)(f:AA (Int×Int)):Ks (Oc n d f) 254 [.a (CO.c d),.p 0 0] [.c 127 [.map 1],.map (Qn (λx=>A.int .i64 x) (λx=>A.int .i64 x) f)] (λr=>.b r):=by
 refine Kg 11 func254 Z Z Z Z λr h=>Bd h λj g h=>(vV (Q6 YM g EL EX Ep) ?_);exact au h
def eW(d:CO)(f:AA (Int×Int)):AB Bool:=AH (Oc n d f) λg=>AC (!g)
instance uO(d:CO)(f:AA (Int×Int)):Ks (eW n d f) 280 [.a (CO.c d),.p 0 0] [.c 368 [.fn (.func 254) [] [.p 1 0]],.c 127 [.map 2],.map (Qn (λx=>A.int .i64 x) (λx=>A.int .i64 x) f)] (λr=>.b r):=KA func280
def m0(f:AA CO)(j:AA (Int×Int))(d:Int):AB (CG Int (CG Unit Int)):=(bif d<(AI f:Int) then AH (CJ f d) λg=>AH (eW n g j) λh=>(bif h then AC (.d (.d d))else AC (.k (i64.wrap (d+1))))else AC (.d (.k ())))
def eX(g:AA CO)(h:AA (Int×Int)):AB Int:=AH (iter (m0 n g h) n 0:AB (CG Unit Int)) λf=>match f with|.k d=>(AC (-1))|.d d=>AC d
instance uP(d:AA CO)(f:AA (Int×Int)):Ks (eX n d f) 308 [.q 3 (map CO.c d),.fn (.func 280) [] [.p 0 0]] [.c 368 [.fn (.func 254) [] [.p 1 0]],.c 127 [.map 2],.map (Qn (λx=>A.int .i64 x) (λx=>A.int .i64 x) f)] (λr=>I r):=KA func308
def eK(d:AA CO)(f:AA (Int×Int)):AB Bool:=AH (eX n d f) λg=>AC (AG (0<=g))
instance uF(d:AA CO)(f:AA (Int×Int)):Ks (eK n d f) 279 [.q 3 (map CO.c d),.fn (.func 280) [] [.p 0 0]] [.c 368 [.fn (.func 254) [] [.p 1 0]],.c 127 [.map 2],.map (Qn (λx=>A.int .i64 x) (λx=>A.int .i64 x) f)] (λr=>.b r):=KA func279
def ey(d:AA CO)(f:AA (Int×Int)):AB Bool:=AH (eK n d f) λg=>AC (!g)
instance uY(d:AA CO)(f:AA (Int×Int)):Ks (ey n d f) 232 [.q 3 (map CO.c d),.fn (.func 254) [] [.p 0 0]] [.c 127 [.map 1],.map (Qn (λx=>A.int .i64 x) (λx=>A.int .i64 x) f)] (λr=>.b r):=KA func232
def KP(n:Nat)(x:CB)(y:AA (Ul×Bool))(g:AA Int)(d:(AA (Int×Int))×Int):AB (CG ((AA (Int×Int))×Int) (CG (AA (Int×Int)) Bool)):=(bif d.2<(AI g:Int) then AH (CJ g d.2) λf=>AH (CJ x.Au f) λh=>AH ((bif ((h.AY==1) != (d.2==0))then AC AE else(bif ((h.AY==3) != (d.2==(i64.wrap ((AI g:Int)-1))))then AC AE else(bif 0<d.2 then AH (CJ g (i64.wrap (d.2-1))) λj=>AH (AC (Qo y ({BW:=j,to_:=f:Ul}) AD)) λk=>AC (!k)else AC AD))):AB Bool) λm=>(bif m then AC (.d (.d AD))else AH (AC (Qo d.1 f 0)) λq=>AH (AC (QJ d.1 f (i64.wrap (q+1)))) λt=>AC (.k (t,i64.wrap (d.2+1))))else AC (.d (.k d.1)))
def PD(h:CB)(f:AN)(j:AA (Ul×Bool)):AB Bool:=AH (JQ n f.Ad) λg=>AH ((bif (i64.wrap ((AI g:Int)-1))<1 then AC AE else AC (AG (256<=(i64.wrap ((AI g:Int)-1))))):AB Bool) λz=>(bif z then AC AD else AH (iter (KP n h j g) n ([],0):AB (CG (AA (Int×Int)) Bool)) λk=>match k with|.k d=>(AH ((bif 0<=f.Ak then AH (AC (Qo d f.Ak 0)) λm=>(bif (m==0)then AC AE else AH (CJ h.Au f.Ak) λq=>(bif (q.AY != 2)then AC AE else AH (AC (Qo j ({BW:=f.Ak,to_:=f.Ak:Ul}) AD)) λt=>AC (!t)))else AC AD):AB Bool) λx=>(bif x then AC AD else AH (ey n f.Ar d) λy=>AC y))|.d d=>AC d)
instance xL(a1:CB)(y:AN)(J:AA (Ul×Bool)):Ks (PD n a1 y J) 153 [.a (CB.c a1),.a (AN.c y),.map 0] [.map (Qn (λx=>A.a (Ul.c x)) A.b J)] (λr=>.b r):=by
 refine Kg 11 func153 Z Z Z Z λr h=>Cd [] h Kc Z λr1 ao h=>Fg 13 Z Z (Bd h λO h4 h=>Ct O [0,1,2,3] [2,3,4,7,8] (λO=>[(25,.b O)]) Ze Zf ?_ (λenv H m=>?_))
 .exact au h4
 refine Gx 1 Z (Ef m (Cn Z h (λ_ h=>?_) (λ_ h=>?_)))
 .exact au h
 refine Gc 4 Z (vH Yh ?_);refine Fg 12 Z Z (Bd h λai aj h=>FT (b:=ai) [0,1,2,4,5] [2,3,4] (λ_=>[(9,.p 3 0)]) (λq=>[(3,.c 127 [.map 4]),(4,.map (Qn (λx=>A.int .i64 x) (λx=>A.int .i64 x) q))]) Zf ?_ (λq env H ak m=>?_))
 .refine G0 1 Z (Lp [0,1,2,3,5,4] [2,3,4,7,8,9,27,28] (λj=>[(29,I j.2)]) (λj=>[(4,.c 127 [.map 5]),(5,.map (Qn (λx=>A.int .i64 x) (λx=>A.int .i64 x) j.1))]) aj Zf (Lr [0,1,2,3,5,4]) λj aq d z=>?_);refine G0 6 Z (Q7 Z d (λ_ d=>?_) (λ_ d=>?_))
  .exact Jc z d
  refine Gc 7 Z (Bd d λt B d=>?_);refine vX (.p 3 (toNat j.2*1)) (Qf B Z EC ED) ?_;refine vX (I t) (EA Z EF Z (Qi B)) ?_;refine Go 9 Z (Bd d λL Q d=>Iz Q Z (Go 7 Z (Bd d λE g d=>Ct E [0,1,2,3,4,5] [2,3,4,7,8,9,11,27,28,29] (λE=>[(68,.b E)]) Ze Zf ?_ (λenv H m=>?_))))
  .refine G0 5 Z ?_;refine vX (.b ((L.AY==1) != (j.2==0))) (sT runUnderlying4) ?_;refine Go 1 Z (Is 45 g Z (λ_ g=>?_) (λ_ g=>?_))
   .exact au g
   .refine Go 5 Z ?_;refine vV (x:=(.b ((L.AY==3) != (j.2==(i64.wrap ((AI r1:Int)-1)))))) (sT runUnderlying4) ?_ (gT Z);refine Go 2 Z (Is 53 g Z (λ_ g=>?_) (λ_ g=>?_))
    .exact au g
    .refine Go 3 Z (Is 56 g Z (λ_ g=>?_) (λ_ g=>?_))
     .refine Go 4 Z (Bd g λM F g=>?_);refine vX (.p 3 (toNat (i64.wrap (j.2-1))*1)) (Qf F Z EC ED) ?_ (gT Z);refine vX (I M) (EA Z EF Z (Qi F)) ?_ (gT Z);refine Go 2 Z (Bd g λal W g=>?_);refine vX (.b al) (Q6 (ev:=A.b) (z0:=AD) (k:=({BW:=M,to_:=t:Ul})) (l:=J) dJ W Gw E8 ZR.bool) ?_ (gT Z);exact au g
     exact au g
  refine Gx 1 Z (Ef m (Cn Z d (λ_ d=>?_) (λ_ d=>?_)))
  .exact DV z d h
  refine Gc 5 Z (Bd d λN Y d=>?_);refine vX (I N) (Q6 (ev:=(λx=>A.int .i64 x)) (z0:=0) (k:=t) (l:=j.1) YM Y EL EX Ep) ?_;refine Go 1 Z (Bd d λar aa d=>?_);refine vU (Yd (ev:=(λx=>A.int .i64 x)) (k:=t) (v:=(i64.wrap (N+1))) (l:=j.1) YM aa Z EL) ?_;exact au d
 subst ak;refine Gx 1 Z (Ef m (Gc 9 Z (Bd h λG f h=>Cg G [0,2,3,4] [4,9] (λG=>[(100,.b G)]) (λ_=>[(2,.c 127 [.map 3])]) Zf ?_ ?_)))
 .refine G0 4 Z (Is 78 f Z (λ_ f=>?_) (λ_ f=>?_))
  .refine Go 2 Z (Bd f λam ac f=>?_);refine vX (I am) (Q6 (ev:=(λx=>A.int .i64 x)) (z0:=0) (k:=y.Ak) (l:=q) YM ac EL EX Ep) ?_ (gT Z);refine Go 2 Z (Is 83 f Z (λ_ f=>?_) (λ_ f=>?_))
   .exact au f
   .refine Go 3 Z (Bd f λav ae f=>Iz ae Z (Go 5 Z (Is 92 f Z (λ_ f=>?_) (λ_ f=>?_))))
    .exact au f
    .refine Go 4 Z (Bd f λan ag f=>?_);refine vX (.b an) (Q6 (ev:=A.b) (z0:=AD) (k:=({BW:=y.Ak,to_:=y.Ak:Ul})) (l:=J) dJ ag Gw E8 ZR.bool) ?_ (gT Z);exact au f
  exact au f
 exact au h
def U6(d:AN)(f:CB)(g:AA (Ul×Bool)):AB Bool:=AH (PD n f d g) λh=>AC h
instance ui(d:AN)(f:CB)(g:AA (Ul×Bool)):Ks (U6 n d f g) 152 [.a (AN.c d),.p 0 0,.p 1 0] [.c 33 (CB.c f),.c 286 [.map 2],.map (Qn (λx=>A.a (Ul.c x)) A.b g)] (λr=>.b r):=KA func152
def eQ(d:AN)(f:CB)(g:AA (Ul×Bool)):AB Bool:=AH (U6 n d f g) λh=>AC (!h)
instance uK(d:AN)(f:CB)(g:AA (Ul×Bool)):Ks (eQ n d f g) 252 [.a (AN.c d),.p 0 0] [.c 291 [.fn (.func 152) [] [.p 1 0,.p 2 0]],.c 33 (CB.c f),.c 286 [.map 3],.map (Qn (λx=>A.a (Ul.c x)) A.b g)] (λr=>.b r):=KA func252
def mZ(f:AA AN)(j:CB)(k:AA (Ul×Bool))(d:Int):AB (CG Int (CG Unit Int)):=(bif d<(AI f:Int) then AH (CJ f d) λg=>AH (eQ n g j k) λh=>(bif h then AC (.d (.d d))else AC (.k (i64.wrap (d+1))))else AC (.d (.k ())))
def ei(g:AA AN)(h:CB)(j:AA (Ul×Bool)):AB Int:=AH (iter (mZ n g h j) n 0:AB (CG Unit Int)) λf=>match f with|.k d=>(AC (-1))|.d d=>AC d
instance uW(d:AA AN)(f:CB)(g:AA (Ul×Bool)):Ks (ei n d f g) 296 [.q 5 (map AN.c d),.fn (.func 252) [] [.p 0 0]] [.c 291 [.fn (.func 152) [] [.p 1 0,.p 2 0]],.c 33 (CB.c f),.c 286 [.map 3],.map (Qn (λx=>A.a (Ul.c x)) A.b g)] (λr=>I r):=KA func296
def eP(d:AA AN)(f:CB)(g:AA (Ul×Bool)):AB Bool:=AH (ei n d f g) λh=>AC (AG (0<=h))
instance uJ(d:AA AN)(f:CB)(g:AA (Ul×Bool)):Ks (eP n d f g) 251 [.q 5 (map AN.c d),.fn (.func 252) [] [.p 0 0]] [.c 291 [.fn (.func 152) [] [.p 1 0,.p 2 0]],.c 33 (CB.c f),.c 286 [.map 3],.map (Qn (λx=>A.a (Ul.c x)) A.b g)] (λr=>.b r):=KA func251
def V9(d:AA AN)(f:CB)(g:AA (Ul×Bool)):AB Bool:=AH (eP n d f g) λh=>AC (!h)
instance vJ(d:AA AN)(f:CB)(g:AA (Ul×Bool)):Ks (V9 n d f g) 151 [.q 5 (map AN.c d),.fn (.func 152) [] [.p 0 0,.p 1 0]] [.c 33 (CB.c f),.c 286 [.map 2],.map (Qn (λx=>A.a (Ul.c x)) A.b g)] (λr=>.b r):=KA func151
def Nt(n:Nat)(g:CB)(d:(AA (Ul×Bool))×Int):AB (CG ((AA (Ul×Bool))×Int) (AA (Ul×Bool))):=(bif d.2<(AI g.Az:Int) then AH (CJ g.Az d.2) λf=>AH (AC (QJ d.1 ({BW:=f.A',to_:=f.To:Ul}) AE)) λh=>AC (.k (h,i64.wrap (d.2+1)))else AC (.d d.1))
def F0(d:CB):AB Int:=AH (PI n d) λj=>(bif (!j)then AC 2 else AH (V8 n d) λk=>(bif (!k)then AC 70 else AH (OM n d) λm=>(bif (!m)then AC 71 else AH (V3 n d.BL) λf=>(bif (f != 0)then AC f else AH (iter (Nt n d) n ([],0):AB (AA (Ul×Bool))) λg=>AH (V9 n d.AO d g) λh=>(bif (!h)then AC 72 else AC 0)))))
instance k_c(t:CB):Ks (F0 n t) 81 [.a (CB.c t)] [] (λr=>I r):=by
 refine Kg 11 func81 Z Z Z Z λr h=>Cz [] h Kc Z λP G h=>Go 4 Z (Cn Z h (λ_ h=>?_) (λ_ h=>?_))
 .exact au h
 refine Gc 3 Z (Cz [] h Kc Z λQ H h=>Go 4 Z (Cn Z h (λ_ h=>?_) (λ_ h=>?_)))
 .exact au h
 refine Gc 3 Z (Cz [] h Kc Z λR J h=>Go 4 Z (Cn Z h (λ_ h=>?_) (λ_ h=>?_)))
 .exact au h
 refine Gc 8 Z (Cz [] h Kc Z λT L h=>Go 9 Z (Cn Z h (λ_ h=>?_) (λ_ h=>?_)))
 .exact au h
 refine Gc 4 Z (vH Yh ?_);refine Fg 9 Z Z (Lg 3 Z Z (Bd h λg F h=>Cg g [0,1,2] [1] (λ_=>[(3,.p 1 0)]) (λg=>[(1,.c 286 [.map 2]),(2,.map (Qn (λx=>A.a (Ul.c x)) A.b g))]) Zf ?_ ?_))
 .refine G0 1 Z (Lp [0,2,1] [1,3,26,27] (λf=>[(28,I f.2)]) (λf=>[(1,.c 286 [.map 2]),(2,.map (Qn (λx=>A.a (Ul.c x)) A.b f.1))]) F Zf (Lr [0,2,1]) λf M d j=>?_);refine G0 6 Z (Q7 Z d (λ_ d=>?_) (λ_ d=>?_))
  .exact Jc j d
  refine Gc 6 Z (Bd d λN m d=>Iz m Z (Go 12 Z (Bd d λO q d=>?_)));exact vU (Yd dJ q Z Gw) (Fg 7 Z Z (Q1 d (Lr [0,1,2])))
 exact au h
def Hn(n:Nat)(d:Int):AB Bool:=AH ((bif (-1099511627776)<=d then AC (AG (d<=1099511627776))else AC AD):AB Bool) λf=>AC f
instance yV(d:Int):Ks (Hn n d) 99 [I d] [] (λr=>.b r):=KA func99
def Od(n:Nat)(d:Int):AB Unit:=AC ()
instance wk(d:Int):Ks (Od n d) 105 [I d] [] (λ_=>.b (d != d)):=KA func105
def KM(f:Int)(d:Int):AB Int:=AH (Od n f) λg=>AH (Od n d) λh=>(bif (f != f)then(bif (d != d)then AC 0 else AC (-1))else(bif (d != d)then AC 1 else(bif f<d then AC (-1)else(bif d<f then AC 1 else AC 0))))
instance k_t(d:Int)(f:Int):Ks (KM n d f) 53 [I d,I f] [] (λr=>I r):=KA func53
def Hm(n:Nat)(g:AA Int)(d:Int):AB (CG Int (CG Unit Int)):=(bif d<(AI g:Int) then AH (CJ g d) λf=>(bif (f != 0)then AC (.d (.d f))else AC (.k (i64.wrap (d+1))))else AC (.d (.k ())))
def I3(f:AA Int):AB Int:=AH (iter (Hm n f) n 0:AB (CG Unit Int)) λg=>match g with|.k d=>(AC 0)|.d d=>AC d
instance yI(d:AA Int):Ks (I3 n d) 52 [.q 1 (map (Qe .i64) d)] [] (λr=>I r):=KA func52
def V_(d:Ua)(f:Ua):AB Int:=AH (KM n d.mat f.mat) λg=>AH (KM n d.BS f.BS) λh=>AH (I3 n [g,h]) λj=>AC j
instance vK(d:Ua)(f:Ua):Ks (V_ n d f) 172 [.a [I d.mat,I d.BS],.a [I f.mat,I f.BS]] [] (λr=>I r):=KA func172
def MA(d:CC)(f:CC):AB Int:=AH (V_ n ({mat:=d.Am,BS:=d.Ag:Ua}) ({mat:=f.Am,BS:=f.Ag:Ua})) λg=>AC g
instance xk(d:CC)(f:CC):Ks (MA n d f) 100 [.a (CC.c d),.a (CC.c f)] [] (λr=>I r):=KA func100
def OC(n:Nat)(d:Int):AB Bool:=AH ((bif d<(-2199023255552) then AC AE else AC (AG (2199023255552<d))):AB Bool) λf=>AC f
instance wG(d:Int):Ks (OC n d) 102 [I d] [] (λr=>.b r):=KA func102
def mf(f:AA Int)(d:Int):AB (CG Int (CG Unit Int)):=(bif d<(AI f:Int) then AH (CJ f d) λg=>AH (OC n g) λh=>(bif h then AC (.d (.d d))else AC (.k (i64.wrap (d+1))))else AC (.d (.k ())))
def VS(g:AA Int):AB Int:=AH (iter (mf n g) n 0:AB (CG Unit Int)) λf=>match f with|.k d=>(AC (-1))|.d d=>AC d
instance uw(d:AA Int):Ks (VS n d) 173 [.q 1 (map (Qe .i64) d),.f 102] [] (λr=>I r):=KA func173
end Go.Sw
