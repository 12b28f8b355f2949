/- What the functions compute that OutcomeOf reaches, and that their calls refine it (part 1 of 7). -/
import Derived.Test.YtmaeahbcmjpfpaaGreatW23OfB
import Derived.Test.YtmaeahbcmjpfpaaGreatV23Ofb
set_option linter.unusedVariables false
set_option linter.unusedSimpArgs false
set_option maxRecDepth 100000
set_option maxHeartbeats 4000000
namespace Go.Sw
open Option renaming some→AC,none→AF,bind→AH
open Bool renaming false→AD,true→AE
open Decidable renaming decide→AG
open List renaming length→AI
variable (n:Nat)
open List(map)
open Int(toNat)
open Go.IntKind(i64 u64 u8)
open Go.Proofs Tryz
def gG(n:Nat)(d:Int):AB (AA AN):=AH ((bif 0<d then AC [{Af:=1,B9:=1,Bu:=d:CX}]else AC []):AB (AA CX)) λf=>AC [{Ar:=[100],Ab:=[Uy,{Uy with Af:=1:CM}],BI:=1,Am:=f,Ae:=(-1):AN}]
instance yA(g:Int):Kq (gG n g) 49 [I g] [] (λr=>.a [.str [99],.o 0 ([{Ar:=[115],AV:=1:Af},{Ar:=[101],AV:=3:Af}].length) 2,.o 1 ([{A5:=0,To:=1,Bn:=10,Bs:=1000:C2}].length) 4,.o 2 (AI r) 5,.o 3 ([{Ar:=[119],B0:=0:Aw}].length) 2,.q 4 (map Ag.c []),.q 3 (map AZ.c []),.q 4 (map Cc.c []),.o 4 ([{UG with AV:=1,By:=4:AX}].length) 8,I 0,I 0,I 0,I 0,I 0,I 0,I 0]) (λr=>[.r 206 2 (map Af.c [{Ar:=[115],AV:=1:Af},{Ar:=[101],AV:=3:Af}]),.r 213 4 (map C2.c [{A5:=0,To:=1,Bn:=10,Bs:=1000:C2}]),.r 169 5 (map AN.c r),.r 236 2 (map Aw.c [{Ar:=[119],B0:=0:Aw}]),.r 251 8 (map AX.enc [{UG with AV:=1,By:=4:AX}]),.c 33 [.str [99],.o 0 ([{Ar:=[115],AV:=1:Af},{Ar:=[101],AV:=3:Af}].length) 2,.o 1 ([{A5:=0,To:=1,Bn:=10,Bs:=1000:C2}].length) 4,.o 2 (AI r) 5,.o 3 ([{Ar:=[119],B0:=0:Aw}].length) 2,.q 4 (map Ag.c []),.q 3 (map AZ.c []),.q 4 (map Cc.c []),.o 4 ([{UG with AV:=1,By:=4:AX}].length) 8,I 0,I 0,I 0,I 0,I 0,I 0,I 0]]):=by
 refine Kg 9 func49 Z Z Z Z λr h=>vH (Ek (xs:=[.tmp 4,.tmp 5]) Qsk Z Z Z Z Z ⟨Z,Z,trivial⟩ Z Z) ?_;refine Fg 12 Z Z (Bd h λf d h=>Cg f [0,2,1] [2,3] Ze (λf=>[(1,.c 169 [.str [100],.o 2 ([Uy,{Uy with Af:=1:CM}].length) 3,I 1,.q 3 (map CX.c f),I (-1)])]) Zf ?_ ?_)
 .refine G0 0 Z (Cn Z d (λ_ d=>?_) (λ_ d=>?_))
  .refine Gc 3 Z (vH (Ek (xs:=[.tmp 11]) Qsj Z Z Z Z Z ⟨Z,trivial⟩ Z Z) (Fg 3 Z Z ?_));cases d;exact En (Yz 3 [(12,_)]) (Lr [0,2,1])
  exact bu d
 refine Gc 4 Z (vH (Ek (xs:=[.tmp 14,.tmp 15]) da Z Z Z Z Z ⟨Z,Z,trivial⟩ Z Z) (Fg 1 Z Z (vH (Ek (xs:=[.tmp 17]) dZ Z Z Z Z Z ⟨Z,trivial⟩ Z Z) ?_)));refine Fg 1 Z Z ?_;refine Er (Yz 2 [(19,_)]) (vH (Ek (xs:=[.tmp 19]) dY Z Z Z Z Z ⟨Z,trivial⟩ Z Z) ?_);exact bu h
def LX(n:Nat):AB Unit:=AC ()
instance N4:Kq (LX n) 14 [] [] (λ_=>.a [.q 3 (map CF.c []),.o 0 ([[0]].length) 1]) (λ_=>[.r 54 1 (map (QC 1 eI) [[0]]),.c 39 [.q 3 (map CF.c []),.o 0 ([[0]].length) 1]]):=by
 refine Kg 7 func14 Z Z Z Z λr h=>vH (Ek (xs:=[.const (.int .i64 0)]) J0 Z Z Z Z Z ⟨Z,trivial⟩ Z Z) ?_;refine Er (Yz 1 [(1,_)]) ?_;refine vH (Ek (xs:=[.tmp 1]) rj Z Z Z Z Z ⟨Z,trivial⟩ Z Z) (Fg 5 Z Z ?_);exact Rx [2,0] [0] Z (YC Z (QP isAgg39 sizeOf39 Z Z Z)) ⟨Z,Z⟩
def V6(n:Nat)(f:AA CL)(d:Uh×Int):AB (CJ (Uh×Int) Uh):=(bif d.2<(AI f:Int) then AH (CN f d.2) λg=>AC (.k ({d.1 with BJ:=i64.wrap (d.1.BJ+g.Aj):Uh},i64.wrap (d.2+1)))else AC (.d d.1))
def NJ(f:CE)(g:CG)(h:AP)(j:AA CQ)(m:AA AY)(d:AA CL)(q:Int):AB Uh:=AH (iter (V6 n d) n ({Au:=f,BO:=g,Al:=h,BM:=j,A6:=m,Bo:=d,BJ:=0,Az:=q:Uh},0):AB Uh) λt=>AC t
instance lT(f:CE)(g:CG)(j:AP)(m:AA CQ)(q:AA AY)(t:AA CL)(x:Int):Kq (NJ n f g j m q t x) 37 [.a (CE.c f),.a (CG.c g),.a (AP.c j),.q 5 (map CQ.c m),.q 4 (map AY.c q),.q 4 (map CL.c t),I x] [] (λr=>.a (Uh.c r)) (λr=>[.c 139 (Uh.c r)]):=by
 exact Kg 0 func37 Z Z Z Z λr h=>by
  have:=hn 30401 [0,1] [] (λ(_:Uh)=>[(14,.p 0 0),(15,.p 1 0)]) (λy=>[(0,.w (.c 139 (Uh.c Fm))),(1,.w (.c 139 (Uh.c y)))]);have:=hl 30401 [3,4] [14,15,26,27] (λ(d:Uh×Int)=>[(28,I d.2)]) (λd=>[(1,.w (.c 139 (Uh.c d.1)))]);exact bu h
def MS(n:Nat)(j:AA CM)(m:Int)(rec12:(AA CM)->Int->AB (Int×Int))(d:Int×Int×Int):AB (CJ (Int×Int×Int) (Int×Int)):=(bif d.2.2<(AI j:Int) then AH (AH (CN j d.2.2) λg=>AH ((bif ((AI g.Aa:Int)==0)then AC AE else(bif (m==0)then AC AE else AC (AG (256<d.2.1)))):AB Bool) λq=>(bif q then AC (d.1,d.2.1)else AH (rec12 g.Aa (i64.wrap (m-1))) λf=>AC ((if d.1<i64.wrap (f.1+1)then i64.wrap (f.1+1)else d.1),i64.wrap (d.2.1+f.2))):AB (Int×Int)) λh=>AC (.k (h.1,h.2,i64.wrap (d.2.2+1)))else AC (.d (d.1,d.2.1)))
def R'(rec12:(AA CM)->Int->AB (Int×Int))(n:Nat)(f:AA CM)(g:Int):AB (Int×Int):=AH (iter (MS n f g rec12) n (0,(AI f:Int),0):AB (Int×Int)) λd=>AC (d.1,d.2)
theorem QdS(rec12:(AA CM)->Int->AB (Int×Int))(q:∀(d:AA CM) (f:Int),Ks (rec12 d f) 240 [.q 3 (map CM.enc d),I f] [] (λr=>.t [I r.1,I r.2]))(n:Nat)(d:AA CM)(f:Int):Ks (R' rec12 n d f) 240 [.q 3 (map CM.enc d),I f] [] (λr=>.t [I r.1,I r.2]):=by
 exact Kg 0 func240 Z Z Z Z λr h=>by
  have:=hn 30602 [] [] (λ(j:Int×Int)=>[(4,I j.1),(5,I j.2)]) Ze;have:=hl 30602 [] [1,12,13] (λ(g:Int×Int×Int)=>[(4,I g.1),(5,I g.2.1),(14,I g.2.2)]) Ze;have:=hn 40401 [] [1,12,13,14] (λ(m:Int×Int)=>[(4,I m.1),(5,I m.2)]) Ze;have:=hn 50100 [0] [1,4,5,7,12,13,14] (λ(t:Bool)=>[(29,.b t)]) Ze;exact bu h
def KP:Nat->(AA CM)->Int->AB (Int×Int)
  |0=>λ_ _=>AF
  |n+1=>R' (KP n) n
instance AAj:∀(d:AA CM) (f:Int),Ks (KP n d f) 240 [.q 3 (map CM.enc d),I f] [] (λr=>.t [I r.1,I r.2]):=by
  induction n with
  |zero=>exact λ_ _=>⟨nofun⟩
  |succ n ih=>exact QdS _ ih n
def WZ(h:CE)(d:Int):AB (CJ Int (CJ Unit Bool)):=(bif d<(AI h.AO:Int) then AH (CN h.AO d) λf=>AH (KP n f.Ab 17) λg=>AH ((bif 64<(AI f.Am:Int) then AC AE else(bif 16<g.1 then AC AE else AC (AG (256<g.2)))):AB Bool) λj=>(bif j then AC (.d (.d AD))else AC (.k (i64.wrap (d+1))))else AC (.d (.k ())))
def P1(d:CE):AB Bool:=AH ((bif 40<(AI d.An:Int) then AC AE else(bif 512<(AI d.As:Int) then AC AE else(bif 8<(AI d.AO:Int) then AC AE else(bif 32<(AI d.Ax:Int) then AC AE else(bif 32<(AI d.Ah:Int) then AC AE else(bif 32<(AI d.Ac:Int) then AC AE else AC (AG (32<(AI d.A3:Int))))))))):AB Bool) λh=>(bif h then AC AD else AH (iter (WZ n d) n 0:AB (CJ Unit Bool)) λg=>match g with|.k f=>(AC AE)|.d f=>AC f)
instance _b(d:CE):Kb (P1 n d) 155 [.a (CE.c d)]:=KB func155
def MT(n:Nat)(d:(AA Int)×Int):AB (CJ ((AA Int)×Int) (AA Int)):=(bif d.2<=122 then AH (L6 256 d.1 d.2) λh=>AH (JF d.1 d.2 2) λf=>AH (L6 256 f (u8.wrap (d.2-32))) λj=>AH (JF f (u8.wrap (d.2-32)) 2) λg=>AC (.k (g,u8.wrap (d.2+1)))else AC (.d d.1))
def O0(n:Nat)(d:(AA Int)×Int):AB (CJ ((AA Int)×Int) (AA Int)):=(bif d.2<=57 then AH (L6 256 d.1 d.2) λg=>AH (JF d.1 d.2 3) λf=>AC (.k (f,u8.wrap (d.2+1)))else AC (.d d.1))
def WC(n:Nat)(d:(AA Int)×Int):AB (CJ ((AA Int)×Int) (AA Int)):=(bif d.2<([123,125,40,41,91,93,59,44,61,60,62].length:Int) then AH (CN [123,125,40,41,91,93,59,44,61,60,62] d.2) λf=>AH (L6 256 d.1 f) λh=>AH (JF d.1 f 4) λg=>AC (.k (g,i64.wrap (d.2+1)))else AC (.d d.1))
def f8(n:Nat)(d:(AA Int)×Int):AB (CJ ((AA Int)×Int) (AA Int)):=(bif d.2<(([32,9,10,13].length):Int) then AH (CN [32,9,10,13] d.2) λf=>AH (L6 256 d.1 f) λh=>AH (JF d.1 f 1) λg=>AC (.k (g,i64.wrap (d.2+1)))else AC (.d d.1))
def R4:AB (AA Int):=AH (iter (MT n) n (List.replicate 256 0,97):AB (AA Int)) λf=>AH (iter (O0 n) n (f,48):AB (AA Int)) λg=>AH (iter (WC n) n (g,0):AB (AA Int)) λh=>AH (iter (f8 n) n (h,0):AB (AA Int)) λd=>AH (OD 256 d) λj=>AH (OD 256 d) λq=>AH (OD 256 j) λm=>AC m
instance lF:Kq (R4 n) 352 [] [] (λr=>.a (List.flatten (map (Q9 .u8) r))) (λr=>[.r 461 1 (map (Q9 .u8) r)]):=by
 refine Kg 2 func352 Z Z Z Z λr h=>vH (xB (n:=256) (k:=1) (e:=(Q9 .u8)) (z:=0) zeroValue461 (by kernel_rfl) (by kernel_rfl) (by kernel_rfl) Z) ?_;refine Fg 8 Z Z (Bd h λG ao h=>Ct G [0] [0] Ze (λG=>[(0,.r 461 1 (map (Q9 .u8) G))]) Zf ?_ (λenv H y=>?_))
 .refine G0 1 Z (Lp [0] [0] (λq=>[(1,.i .u8 q.2)]) (λq=>[(0,.r 461 1 (map (Q9 .u8) q.1))]) ao Zf (Lr [0]) λq ba d W=>?_);refine G0 7 Z (Dm Z d (λ_ d=>?_) (λ_ d=>?_))
  .exact FS W d
  refine Gc 8 Z (Bd d λbb J d=>?_);refine vX (.p 0 (toNat q.2*1)) (aR (n:=256) (k:=1) (l:=q.1) J EP EQ Z) ?_;refine Bd d λaq Y d=>?_;refine vU (Ys (e:=(Q9 .u8)) (k:=1) (f:=0) (T7 J).2 Y EQ Z Z) ?_;refine FE Z (Bd d λbc L d=>?_);refine vX (.p 0 (toNat (u8.wrap (q.2-32))*1)) (aR (n:=256) (k:=1) (l:=aq) L EP EQ Z) ?_;refine Bd d λbd aa d=>?_;refine vU (Ys (e:=(Q9 .u8)) (k:=1) (f:=0) (T7 L).2 aa EQ Z Z) ?_;exact bu d
 refine Gx 1 Z (Ee y (Gc 6 Z (Bd h λM ar h=>Ct M [0] [0] Ze (λM=>[(0,.r 461 1 (map (Q9 .u8) M))]) Zf ?_ (λenv H y=>?_))))
 .refine G0 1 Z (Lp [0] [0] (λt=>[(2,.i .u8 t.2)]) (λt=>[(0,.r 461 1 (map (Q9 .u8) t.1))]) ar Zf (Lr [0]) λt be m ab=>?_);refine G0 7 Z (Dm Z m (λ_ m=>?_) (λ_ m=>?_))
  .exact FS ab m
  refine Gc 6 Z (Bd m λbg N m=>?_);refine vX (.p 0 (toNat t.2*1)) (aR (n:=256) (k:=1) (l:=t.1) N EP EQ Z) ?_;refine Bd m λbh ad m=>?_;refine vU (Ys (e:=(Q9 .u8)) (k:=1) (f:=0) (T7 N).2 ad EQ Z Z) ?_;exact bu m
 refine Gx 1 Z (Ee y (Gc 3 Z (vH (Ek (xs:=[.const (.int .u8 123),.const (.int .u8 125),.const (.int .u8 40),.const (.int .u8 41),.const (.int .u8 91),.const (.int .u8 93),.const (.int .u8 59),.const (.int .u8 44),.const (.int .u8 61),.const (.int .u8 60),.const (.int .u8 62)]) (es:=map (Q9 .u8) [123,125,40,41,91,93,59,44,61,60,62]) Sf Z Z Z Z Z ⟨Z,Z,Z,Z,Z,Z,Z,Z,Z,Z,Z,trivial⟩ Z Z) ?_)));refine FE Z (vH (QmW (es:=map (Q9 .u8) [123,125,40,41,91,93,59,44,61,60,62]) underlying291 underlying5 (X4 ..) Z) ?_);refine FE Z (Lg 3 Z Z (Bd h λO av h=>Ct O [0] [0] Ze (λO=>[(0,.r 461 1 (map (Q9 .u8) O))]) Zf ?_ (λenv H y=>?_)))
 .refine G0 1 Z (Lp [0] [0,23,24] (λB=>[(25,I B.2)]) (λB=>[(0,.r 461 1 (map (Q9 .u8) B.1))]) av Zf (Lr [0]) λB bi g ae=>?_);refine G0 6 Z (Dm Z g (λ_ g=>?_) (λ_ g=>?_))
  .exact FS ae g
  refine Gc 6 Z (Bd g λaw ag g=>Iz ag Z (Go 6 Z (Bd g λbj P g=>?_)));refine vX (.p 0 (toNat aw*1)) (aR (n:=256) (k:=1) (l:=B.1) P EP EQ Z) ?_;refine Bd g λbk ah g=>?_;refine vU (Ys (e:=(Q9 .u8)) (k:=1) (f:=0) (T7 P).2 ah EQ Z Z) ?_;exact bu g
 refine Gx 1 Z (Ee y (Gc 3 Z (vH (Ek (xs:=[.const (.int .u8 32),.const (.int .u8 9),.const (.int .u8 10),.const (.int .u8 13)]) (es:=map (Q9 .u8) [32,9,10,13]) Sf Z Z Z Z Z ⟨Z,Z,Z,Z,trivial⟩ Z Z) ?_)));refine Fg 4 Z Z (Bd h λF ax h=>Cg F [0] [0] Ze (λF=>[(0,.r 461 1 (map (Q9 .u8) F))]) Zf ?_ ?_)
 .refine G0 1 Z (Lp [0,1] [0,32,33] (λx=>[(34,I x.2)]) (λx=>[(0,.r 461 1 (map (Q9 .u8) x.1))]) ax Zf (Lr [0,1]) λx bl j ai=>?_);refine G0 6 Z (Dm Z j (λ_ j=>?_) (λ_ j=>?_))
  .exact FS ai j
  refine Gc 6 Z (Bd j λV Q j=>?_);refine vX (.p 1 (toNat x.2*1)) (Qw Q Z EJ EQ) ?_;refine vX (.i .u8 V) (Ey Z isAgg5 Z (Qy Q)) ?_;refine Go 5 Z (Bd j λbm R j=>?_);refine vX (.p 0 (toNat V*1)) (aR (n:=256) (k:=1) (l:=x.1) R EP EQ Z) ?_;refine Bd j λbn ak j=>?_;refine vU (Ys (e:=(Q9 .u8)) (k:=1) (f:=0) (T7 R).2 ak EQ Z Z) ?_;exact bu j
 refine Gc 2 Z (Bd h λay am h=>?_);refine vX (.a (List.flatten (map (Q9 .u8) ay))) (Qju (e:=(Q9 .u8)) am Zf Z isAgg461 Gq) ?_;refine Bd h λbo an h=>Bd h λaz E h=>?_;obtain⟨T,rfl⟩:=Ty an;refine vU (xC (e:=(Q9 .u8)) (l:=F) (l':=az) T (nQ E) Zf Z Gq Zf Zf (congrArg (λl=>List.flatten (map (Q9 .u8) l)) (Ty E).2.symm)) ?_;refine Fg 3 Z Z ?_;obtain rfl:=Oi h;exact Rx [0] [0] Z (YC Z (QmL (e:=(Q9 .u8)) (nQ E) Zf Z isAgg461 Gq)) ⟨Z,Z⟩
def WM(n:Nat)(g:AA UInt8)(q:AA Int)(d:Int):AB (CJ Int (CJ Unit Bool)):=(bif d<(AI g:Int) then AH (CN g d) λh=>AH (L6 256 q (h.toNat:Int)) λf=>AH ((bif (f != 2)then(bif (d==0)then AC AE else(bif (f != 3)then AH (CN g d) λj=>AC ((j.toNat:Int) != 95)else AC AD))else AC AD):AB Bool) λm=>(bif m then AC (.d (.d AD))else AC (.k (i64.wrap (d+1))))else AC (.d (.k ())))
def Rd(f:AA UInt8):AB Bool:=AH (R4 n) λh=>AH (OD 256 (List.replicate 256 0)) λm=>AH (OD 256 h) λj=>AH (iter (WM n f j) n 0:AB (CJ Unit Bool)) λg=>match g with|.k d=>(AC (f != []))|.d d=>AC d
instance K?(y:AA UInt8):Kb (Rd n y) 339 [.str y]:=by
 refine Kg 7 func339 Z Z Z Z λr h=>Bd h λP B h=>?_;refine Qt [] (Dc.fn call352 Z Z Z) ((lF _).c _ B) ?_;rintro _ _ ⟨rfl,rfl⟩;refine OS (QpK (e:=(Q9 .u8)) Zf _ _) Z ?_;refine vH (xB (n:=256) (k:=1) (e:=(Q9 .u8)) (z:=0) zeroValue461 (by kernel_rfl) (by kernel_rfl) (by kernel_rfl) Z) ?_;refine FE Z (Bd h λQ E h=>Bd h λF j h=>?_);obtain⟨q,rfl⟩:=Ty E;refine vU (xC (e:=(Q9 .u8)) (l:=(List.replicate 256 0)) (l':=F) q (nQ j) Zf Z Gq Zf Zf (congrArg (λl=>List.flatten (map (Q9 .u8) l)) (Ty j).2.symm)) ?_;refine Fg 6 Z Z ?_;refine vV (vS Z Z ES Z) ?_;refine Go 3 Z (Bd h λG H h=>Hz (b:=G) [] [0] Ze Ze Zf ?_ (λ_ J=>?_))
 .refine G0 1 Z (Lp [1] [0,3,8] (λm=>[(9,I m)]) Ze H Zf (Lr [1]) λm O d f=>?_);refine G0 6 Z (Dm Z d (λ_ d=>?_) (λ_ d=>?_))
  .exact FS f d
  refine Gc 14 Z (Bd d λL x d=>?_);refine vX (.i .u8 (L.toNat:Int)) (wU x ES) ?_;refine Bd d λM g d=>?_;refine vV (aR (n:=256) (k:=1) (l:=F) g EP EQ Z) ?_;refine vX (.i .u8 M) (Ey Z isAgg5 Z (Qy (T7 g).2)) ?_;exact H9 f d h
 subst J;exact bu h
def Zb(d:AA UInt8):AB Bool:=AH (AH (Rd n d) λj=>(bif j then AH (cat [32] d) λf=>AH (cat f [32]) λg=>AH (eY [32,99,111,117,114,115,101,32,109,97,116,115,32,115,116,97,114,116,32,112,97,115,115,32,101,110,100,32,108,101,103,32,116,111,32,100,105,115,116,97,110,99,101,32,103,117,110,32,99,104,105,112,32,115,108,111,116,32,108,97,112,115,32,108,97,112,32,99,117,116,111,102,102,32,101,120,116,114,97,32,119,97,118,101,32,111,102,102,101,110,99,101,32,111,117,116,32,99,97,116,101,103,111,114,121,32,112,114,105,122,101,32,97,108,108,32,116,105,101,115,32,105,102,32,101,108,115,101,32,97,110,100,32,111,114,32,110,111,116,32,111,108,100,101,114,32,121,111,117,110,103,101,114,32,98,105,98,32,100,114,97,119,32,102,105,101,108,100,32,115,104,111,114,116,32,102,97,117,108,116,115,32,109,105,115,115,101,115,32,115,116,114,97,121,115,32,119,105,110,100,111,119,32,114,101,115,105,100,117,97,108,32,100,114,105,102,116,32,112,114,111,116,101,115,116,32,102,101,101,32,100,101,97,100,108,105,110,101,32] g) λh=>AC h else AC AD):AB Bool) λm=>AC m
instance zn(q:AA UInt8):Kb (Zb n q) 305 [.str q]:=by
 refine Kg 6 func305 Z Z Z Z λr h=>Bd h λf d h=>Cg f [] [] (λf=>[(2,.b f)]) Ze Zf ?_ ?_
 .refine G0 2 Z (Cz [] d Kc Z λF x d=>Go 1 Z (Is 5 d Z (λ_ d=>?_) (λ_ d=>?_)))
  .refine Go 1 Z (Bd d λy g d=>?_);refine vV (wT g) (Bd d λB j d=>?_) (gT Z);refine vV (wT j) (Bd d λE m d=>?_) (gT Z);refine Qt [] (Dc.fn call340 Z Z Z) (C.contains QdV Z m) ?_ (hg:=(gT Z));rintro _ _ ⟨rfl,rfl⟩;exact bu d
  exact bu d
 exact bu h
def O4(n:Nat)(g:AA UInt8)(f:Int):AB (CJ Int (CJ Unit Bool)):=(bif f<(AI g:Int) then AH (CN g f) λd=>AH ((bif (d.toNat:Int)<97 then(bif (d.toNat:Int)<48 then AC ((d.toNat:Int) != 95)else(bif 57<(d.toNat:Int) then AC ((d.toNat:Int) != 95)else AC AD))else(bif 122<(d.toNat:Int) then(bif (d.toNat:Int)<48 then AC ((d.toNat:Int) != 95)else(bif 57<(d.toNat:Int) then AC ((d.toNat:Int) != 95)else AC AD))else AC AD)):AB Bool) λh=>(bif h then AC (.d (.d AD))else AC (.k (i64.wrap (f+1))))else AC (.d (.k ())))
def HG(d:AA UInt8):AB Bool:=AH ((bif (AI d:Int)<1 then AC AE else(bif 24<(AI d:Int) then AC AE else AH (CN d 0) λg=>(bif (g.toNat:Int)<97 then AC AE else AH (CN d 0) λh=>AC (AG (122<(h.toNat:Int)))))):AB Bool) λq=>(bif q then AC AD else AH (iter (O4 n d) n 0:AB (CJ Unit Bool)) λj=>match j with|.k f=>(AH (Zb n d) λm=>AC (!m))|.d f=>AC f)
instance AAc(d:AA UInt8):Kb (HG n d) 241 [.str d]:=KB func241
def Wy(n:Nat)(d:Af):AB Unit:=AC ()
instance y7(d:Af):Ks (Wy n d) 243 [.a (Af.c d)] [] (λ_=>.str d.Ar):=KB func243
def pm(g:AA Af)(d:(AA (AA UInt8×Bool))×Int):AB (CJ ((AA (AA UInt8×Bool))×Int) (CJ Unit Bool)):=(bif d.2<(AI g:Int) then AH (CN g d.2) λf=>AH (Wy n f) λt=>AH (AH (HG n f.Ar) λh=>(bif (!h)then AC AE else AH (AC (Qd d.1 f.Ar AD)) λj=>AC j):AB Bool) λm=>(bif m then AC (.d (.d AD))else AH (AC (QE d.1 f.Ar AE)) λq=>AC (.k (q,i64.wrap (d.2+1))))else AC (.d (.k ())))
def ZB(g:AA Af):AB Bool:=AH (iter (pm n g) n ([],0):AB (CJ Unit Bool)) λf=>match f with|.k d=>(AC AE)|.d d=>AC d
instance zO(f:AA Af):Kb (ZB n f) 242 [.q 2 (map Af.c f),.f 243]:=by
 exact Kg 0 func242 Z Z Z Z λr h=>by
  have:=hn 30702 [] [] (λ(_:Unit)=>[]) Ze;have:=hl 30702 [0] [1,5,10,11] (λ(d:(AA (AA UInt8×Bool))×Int)=>[(12,I d.2)]) (λd=>[(0,.w (.map (Qi A.str A.b d.1)))]);have:=hn 60100 [0] [1,5,8,10,11,12] (λ(g:Bool)=>[(26,.b g)]) Ze;exact bu h
def ZN(n:Nat)(d:AN):AB Unit:=AC ()
instance za(d:AN):Ks (ZN n d) 245 [.a (AN.c d)] [] (λ_=>.str d.Ar):=KB func245
def pq(g:AA AN)(d:(AA (AA UInt8×Bool))×Int):AB (CJ ((AA (AA UInt8×Bool))×Int) (CJ Unit Bool)):=(bif d.2<(AI g:Int) then AH (CN g d.2) λf=>AH (ZN n f) λt=>AH (AH (HG n f.Ar) λh=>(bif (!h)then AC AE else AH (AC (Qd d.1 f.Ar AD)) λj=>AC j):AB Bool) λm=>(bif m then AC (.d (.d AD))else AH (AC (QE d.1 f.Ar AE)) λq=>AC (.k (q,i64.wrap (d.2+1))))else AC (.d (.k ())))
def W6(g:AA AN):AB Bool:=AH (iter (pq n g) n ([],0):AB (CJ Unit Bool)) λf=>match f with|.k d=>(AC AE)|.d d=>AC d
instance zF(f:AA AN):Kb (W6 n f) 244 [.q 5 (map AN.c f),.f 245]:=by
 exact Kg 0 func244 Z Z Z Z λr h=>by
  have:=hn 30702 [] [] (λ(_:Unit)=>[]) Ze;have:=hl 30702 [0] [1,5,10,11] (λ(d:(AA (AA UInt8×Bool))×Int)=>[(12,I d.2)]) (λd=>[(0,.w (.map (Qi A.str A.b d.1)))]);have:=hn 60100 [0] [1,5,8,10,11,12] (λ(g:Bool)=>[(26,.b g)]) Ze;exact bu h
def Wq(n:Nat)(d:Aw):AB Unit:=AC ()
instance yu(d:Aw):Ks (Wq n d) 247 [.a (Aw.c d)] [] (λ_=>.str d.Ar):=KB func247
def pn(g:AA Aw)(d:(AA (AA UInt8×Bool))×Int):AB (CJ ((AA (AA UInt8×Bool))×Int) (CJ Unit Bool)):=(bif d.2<(AI g:Int) then AH (CN g d.2) λf=>AH (Wq n f) λt=>AH (AH (HG n f.Ar) λh=>(bif (!h)then AC AE else AH (AC (Qd d.1 f.Ar AD)) λj=>AC j):AB Bool) λm=>(bif m then AC (.d (.d AD))else AH (AC (QE d.1 f.Ar AE)) λq=>AC (.k (q,i64.wrap (d.2+1))))else AC (.d (.k ())))
def Wf(g:AA Aw):AB Bool:=AH (iter (pn n g) n ([],0):AB (CJ Unit Bool)) λf=>match f with|.k d=>(AC AE)|.d d=>AC d
instance yi(f:AA Aw):Kb (Wf n f) 246 [.q 2 (map Aw.c f),.f 247]:=by
 exact Kg 0 func246 Z Z Z Z λr h=>by
  have:=hn 30702 [] [] (λ(_:Unit)=>[]) Ze;have:=hl 30702 [0] [1,5,10,11] (λ(d:(AA (AA UInt8×Bool))×Int)=>[(12,I d.2)]) (λd=>[(0,.w (.map (Qi A.str A.b d.1)))]);have:=hn 60100 [0] [1,5,8,10,11,12] (λ(g:Bool)=>[(26,.b g)]) Ze;exact bu h
def W3(n:Nat)(d:Ag):AB Unit:=AC ()
instance zC(d:Ag):Ks (W3 n d) 249 [.a (Ag.c d)] [] (λ_=>.str d.Ar):=KB func249
def qM(g:AA Ag)(d:(AA (AA UInt8×Bool))×Int):AB (CJ ((AA (AA UInt8×Bool))×Int) (CJ Unit Bool)):=(bif d.2<(AI g:Int) then AH (CN g d.2) λf=>AH (W3 n f) λt=>AH (AH (HG n f.Ar) λh=>(bif (!h)then AC AE else AH (AC (Qd d.1 f.Ar AD)) λj=>AC j):AB Bool) λm=>(bif m then AC (.d (.d AD))else AH (AC (QE d.1 f.Ar AE)) λq=>AC (.k (q,i64.wrap (d.2+1))))else AC (.d (.k ())))
def Wk(g:AA Ag):AB Bool:=AH (iter (qM n g) n ([],0):AB (CJ Unit Bool)) λf=>match f with|.k d=>(AC AE)|.d d=>AC d
instance yo(f:AA Ag):Kb (Wk n f) 248 [.q 4 (map Ag.c f),.f 249]:=by
 exact Kg 0 func248 Z Z Z Z λr h=>by
  have:=hn 30702 [] [] (λ(_:Unit)=>[]) Ze;have:=hl 30702 [0] [1,5,10,11] (λ(d:(AA (AA UInt8×Bool))×Int)=>[(12,I d.2)]) (λd=>[(0,.w (.map (Qi A.str A.b d.1)))]);have:=hn 60100 [0] [1,5,8,10,11,12] (λ(g:Bool)=>[(26,.b g)]) Ze;exact bu h
def ZM(n:Nat)(d:AZ):AB Unit:=AC ()
instance zZ(d:AZ):Ks (ZM n d) 251 [.a (AZ.c d)] [] (λ_=>.str d.Ar):=KB func251
def pa(g:AA AZ)(d:(AA (AA UInt8×Bool))×Int):AB (CJ ((AA (AA UInt8×Bool))×Int) (CJ Unit Bool)):=(bif d.2<(AI g:Int) then AH (CN g d.2) λf=>AH (ZM n f) λt=>AH (AH (HG n f.Ar) λh=>(bif (!h)then AC AE else AH (AC (Qd d.1 f.Ar AD)) λj=>AC j):AB Bool) λm=>(bif m then AC (.d (.d AD))else AH (AC (QE d.1 f.Ar AE)) λq=>AC (.k (q,i64.wrap (d.2+1))))else AC (.d (.k ())))
def W7(g:AA AZ):AB Bool:=AH (iter (pa n g) n ([],0):AB (CJ Unit Bool)) λf=>match f with|.k d=>(AC AE)|.d d=>AC d
instance zG(f:AA AZ):Kb (W7 n f) 250 [.q 3 (map AZ.c f),.f 251]:=by
 exact Kg 0 func250 Z Z Z Z λr h=>by
  have:=hn 30702 [] [] (λ(_:Unit)=>[]) Ze;have:=hl 30702 [0] [1,5,10,11] (λ(d:(AA (AA UInt8×Bool))×Int)=>[(12,I d.2)]) (λd=>[(0,.w (.map (Qi A.str A.b d.1)))]);have:=hn 60100 [0] [1,5,8,10,11,12] (λ(g:Bool)=>[(26,.b g)]) Ze;exact bu h
def Za(d:CE):AB Bool:=AH (AH (HG n d.Ar) λf=>(bif f then AH (ZB n d.An) λg=>(bif g then AH (W6 n d.AO) λh=>(bif h then AH (Wf n d.Ax) λj=>(bif j then AH (Wk n d.Ah) λm=>(bif m then AH (W7 n d.Ac) λq=>AC q else AC AD)else AC AD)else AC AD)else AC AD)else AC AD):AB Bool) λt=>AC t
instance zm(d:CE):Kb (Za n d) 156 [.a (CE.c d)]:=KB func156
def X_(n:Nat)(d:Int)(f:Int)(g:Int):AB Bool:=AH ((bif d<f then AC AE else AC (AG (g<d))):AB Bool) λh=>AC h
instance zK(d:Int)(f:Int)(g:Int):Ks (X_ n d f g) 306 [I d,.p 0 0,.p 1 0] [.c 3 [I f],.c 3 [I g]] (λr=>.b r):=KB func306
def qF(f:AA Int)(j:Int)(m:Int)(d:Int):AB (CJ Int (CJ Unit Int)):=(bif d<(AI f:Int) then AH (CN f d) λg=>AH (X_ n g j m) λh=>(bif h then AC (.d (.d d))else AC (.k (i64.wrap (d+1))))else AC (.d (.k ())))
def ge(g:AA Int)(h:Int)(j:Int):AB Int:=AH (iter (qF n g h j) n 0:AB (CJ Unit Int)) λf=>match f with|.k d=>(AC (-1))|.d d=>AC d
instance yU(d:AA Int)(f:Int)(g:Int):Ks (ge n d f g) 204 [.q 1 (map eI d),.fn (.func 306) [] [.p 0 0,.p 1 0]] [.c 3 [I f],.c 3 [I g]] (λr=>I r):=KB func204
def ZX(d:AA Int)(f:Int)(g:Int):AB Bool:=AH (ge n d f g) λh=>AC (AG (0<=h))
instance zj(d:AA Int)(f:Int)(g:Int):Ks (ZX n d f g) 118 [.q 1 (map eI d),.fn (.func 306) [] [.p 0 0,.p 1 0]] [.c 3 [I f],.c 3 [I g]] (λr=>.b r):=KB func118
def Fv(d:Int)(f:Int)(g:AA Int):AB Bool:=AH (ZX n g d f) λh=>AC (!h)
instance k_b(d:Int)(f:Int)(g:AA Int):Kb (Fv n d f g) 253 [I d,I f,.q 1 (map eI g)]:=KB func253
def PV(d:Af):AB Bool:=AH (Fv n 1 3 [d.AV]) λf=>AC f
instance z_(d:Af):Kb (PV n d) 262 [.a (Af.c d)]:=KB func262
def gU(d:Af):AB Bool:=AH (PV n d) λf=>AC (!f)
instance yM(d:Af):Ks (gU n d) 312 [.a (Af.c d),.p 0 0] [.c 385 [.f 262]] (λr=>.b r):=KB func312
def ph(f:AA Af)(d:Int):AB (CJ Int (CJ Unit Int)):=(bif d<(AI f:Int) then AH (CN f d) λg=>AH (gU n g) λh=>(bif h then AC (.d (.d d))else AC (.k (i64.wrap (d+1))))else AC (.d (.k ())))
def Y'(g:AA Af):AB Int:=AH (iter (ph n g) n 0:AB (CJ Unit Int)) λf=>match f with|.k d=>(AC (-1))|.d d=>AC d
instance zM(d:AA Af):Ks (Y' n d) 343 [.q 2 (map Af.c d),.fn (.func 312) [] [.p 0 0]] [.c 385 [.f 262]] (λr=>I r):=KB func343
def ZY(d:AA Af):AB Bool:=AH (Y' n d) λf=>AC (AG (0<=f))
instance zk(d:AA Af):Ks (ZY n d) 311 [.q 2 (map Af.c d),.fn (.func 312) [] [.p 0 0]] [.c 385 [.f 262]] (λr=>.b r):=KB func311
def PP(d:AA Af):AB Bool:=AH (ZY n d) λf=>AC (!f)
instance zu(d:AA Af):Kb (PP n d) 261 [.q 2 (map Af.c d),.f 262]:=KB func261
def Pn(d:C2)(f:Int):AB Bool:=AH (AH (Fv n 0 f [d.A5,d.To]) λg=>(bif g then AH (Fv n 0 68719476736 [d.Bn,d.Bs]) λh=>(bif h then AC (AG (d.Bn<=d.Bs))else AC AD)else AC AD):AB Bool) λj=>AC j
instance _O(d:C2)(f:Int):Ks (Pn n d f) 258 [.a (C2.c d),.p 0 0] [.c 3 [I f]] (λr=>.b r):=KB func258
def gH(d:C2)(f:Int):AB Bool:=AH (Pn n d f) λg=>AC (!g)
instance yB(d:C2)(f:Int):Ks (gH n d f) 314 [.a (C2.c d),.p 0 0] [.c 214 [.fn (.func 258) [] [.p 1 0]],.c 3 [I f]] (λr=>.b r):=KB func314
def qK(f:AA C2)(j:Int)(d:Int):AB (CJ Int (CJ Unit Int)):=(bif d<(AI f:Int) then AH (CN f d) λg=>AH (gH n g j) λh=>(bif h then AC (.d (.d d))else AC (.k (i64.wrap (d+1))))else AC (.d (.k ())))
def ZD(g:AA C2)(h:Int):AB Int:=AH (iter (qK n g h) n 0:AB (CJ Unit Int)) λf=>match f with|.k d=>(AC (-1))|.d d=>AC d
instance zQ(d:AA C2)(f:Int):Ks (ZD n d f) 96 [.q 4 (map C2.c d),.fn (.func 314) [] [.p 0 0]] [.c 214 [.fn (.func 258) [] [.p 1 0]],.c 3 [I f]] (λr=>I r):=KB func96
def ZG(d:AA C2)(f:Int):AB Bool:=AH (ZD n d f) λg=>AC (AG (0<=g))
instance zT(d:AA C2)(f:Int):Ks (ZG n d f) 313 [.q 4 (map C2.c d),.fn (.func 314) [] [.p 0 0]] [.c 214 [.fn (.func 258) [] [.p 1 0]],.c 3 [I f]] (λr=>.b r):=KB func313
def P6(d:AA C2)(f:Int):AB Bool:=AH (ZG n d f) λg=>AC (!g)
instance _g(d:AA C2)(f:Int):Ks (P6 n d f) 263 [.q 4 (map C2.c d),.fn (.func 258) [] [.p 0 0]] [.c 3 [I f]] (λr=>.b r):=KB func263
def We(n:Nat)(d:C2):AB Unit:=AC ()
instance yh(d:C2):Kq (We n d) 265 [.a (C2.c d)] [] (λ_=>.a [I d.A5,I d.To]) (λ_=>[.c 296 [I d.A5,I d.To]]):=KB func265
def VW(g:AA C2)(d:(AA (Uk×Bool))×Int):AB (CJ ((AA (Uk×Bool))×Int) (AA (Uk×Bool))):=(bif d.2<(AI g:Int) then AH (CN g d.2) λf=>AH (We n f) λj=>AH (AC (QE d.1 ({Be:=f.A5,to_:=f.To:Uk}) AE)) λh=>AC (.k (h,i64.wrap (d.2+1)))else AC (.d d.1))
def W0(d:AA C2):AB Bool:=AH (iter (VW n d) n ([],0):AB (AA (Uk×Bool))) λf=>AC ((AI f:Int)==(AI d:Int))
instance y_(f:AA C2):Kb (W0 n f) 264 [.q 4 (map C2.c f),.f 265]:=by
 exact Kg 0 func264 Z Z Z Z λr h=>by
  have:=hn 30401 [0] [0,5] (λ(_:AA (Uk×Bool))=>[]) (λg=>[(0,.w (.map (Qi (λx=>A.a (Uk.c x)) A.b g)))]);have:=hl 30401 [0] [0,1,5,9,10] (λ(d:(AA (Uk×Bool))×Int)=>[(11,I d.2)]) (λd=>[(0,.w (.map (Qi (λx=>A.a (Uk.c x)) A.b d.1)))]);exact bu h
def PO(rec50:(AA CM)->Int->AB Bool)(n:Nat)(d:CM)(f:Int):AB Bool:=(bif (d.Aj==0)then AH (AH (Fv n 0 f [d.Af]) λm=>(bif m then AC ((AI d.Aa:Int)==0)else AC AD):AB Bool) λq=>AC q else AH (AH (Fv n 1 64 [d.Aj]) λg=>(bif g then(bif (d.Af==0)then(bif 0<(AI d.Aa:Int) then AH (rec50 d.Aa f) λh=>AC h else AC AD)else AC AD)else AC AD):AB Bool) λj=>AC j)
instance zt(rec50:(AA CM)->Int->AB Bool)[g:∀(d:AA CM) (f:Int),Ks (rec50 d f) 254 [.q 3 (map CM.enc d),.fn (.func 252) [] [.p 0 0,.p 1 0]] [.c 3 [I f],.c 377 [.fn (.func 252) [] [.p 0 0,.p 1 0]]] (λr=>.b r)](n:Nat)(d:CM)(f:Int):Ks (PO rec50 n d f) 252 [.a (CM.c d),.p 0 0,.p 1 0] [.c 3 [I f],.c 377 [.fn (.func 252) [] [.p 0 0,.p 1 0]]] (λr=>.b r):=KB func252
def gJ(rec50:(AA CM)->Int->AB Bool)(n:Nat)(d:CM)(f:Int):AB Bool:=AH (PO rec50 n d f) λg=>AC (!g)
instance yD(rec50:(AA CM)->Int->AB Bool)[g:∀(d:AA CM) (f:Int),Ks (rec50 d f) 254 [.q 3 (map CM.enc d),.fn (.func 252) [] [.p 0 0,.p 1 0]] [.c 3 [I f],.c 377 [.fn (.func 252) [] [.p 0 0,.p 1 0]]] (λr=>.b r)](n:Nat)(d:CM)(f:Int):Ks (gJ rec50 n d f) 308 [.a (CM.c d),.p 0 0] [.c 377 [.fn (.func 252) [] [.p 1 0,.p 2 0]],.c 3 [I f],.c 377 [.fn (.func 252) [] [.p 1 0,.p 2 0]]] (λr=>.b r):=KB func308
def pZ(f:AA CM)(j:Int)(rec50:(AA CM)->Int->AB Bool)(d:Int):AB (CJ Int (CJ Unit Int)):=(bif d<(AI f:Int) then AH (CN f d) λg=>AH (gJ rec50 n g j) λh=>(bif h then AC (.d (.d d))else AC (.k (i64.wrap (d+1))))else AC (.d (.k ())))
def gi(rec50:(AA CM)->Int->AB Bool)(n:Nat)(g:AA CM)(h:Int):AB Int:=AH (iter (pZ n g h rec50) n 0:AB (CJ Unit Int)) λf=>match f with|.k d=>(AC (-1))|.d d=>AC d
instance yX(rec50:(AA CM)->Int->AB Bool)[g:∀(d:AA CM) (f:Int),Ks (rec50 d f) 254 [.q 3 (map CM.enc d),.fn (.func 252) [] [.p 0 0,.p 1 0]] [.c 3 [I f],.c 377 [.fn (.func 252) [] [.p 0 0,.p 1 0]]] (λr=>.b r)](n:Nat)(d:AA CM)(f:Int):Ks (gi rec50 n d f) 341 [.q 3 (map CM.enc d),.fn (.func 308) [] [.p 0 0]] [.c 377 [.fn (.func 252) [] [.p 1 0,.p 2 0]],.c 3 [I f],.c 377 [.fn (.func 252) [] [.p 1 0,.p 2 0]]] (λr=>I r):=by
 exact Kg 0 func341 Z Z Z Z λr h=>by
  have:=hn 20502 [0,1,2] [] (λ(_:Unit)=>[]) Ze;have:=hl 20502 [0,1,2] [0,1,7] (λ(j:Int)=>[(8,I j)]) Ze;exact bu h
def gP(rec50:(AA CM)->Int->AB Bool)(n:Nat)(d:AA CM)(f:Int):AB Bool:=AH (gi rec50 n d f) λg=>AC (AG (0<=g))
instance yI(rec50:(AA CM)->Int->AB Bool)[g:∀(d:AA CM) (f:Int),Ks (rec50 d f) 254 [.q 3 (map CM.enc d),.fn (.func 252) [] [.p 0 0,.p 1 0]] [.c 3 [I f],.c 377 [.fn (.func 252) [] [.p 0 0,.p 1 0]]] (λr=>.b r)](n:Nat)(d:AA CM)(f:Int):Ks (gP rec50 n d f) 307 [.q 3 (map CM.enc d),.fn (.func 308) [] [.p 0 0]] [.c 377 [.fn (.func 252) [] [.p 1 0,.p 2 0]],.c 3 [I f],.c 377 [.fn (.func 252) [] [.p 1 0,.p 2 0]]] (λr=>.b r):=KB func307
def iG(rec50:(AA CM)->Int->AB Bool)(n:Nat)(d:AA CM)(f:Int):AB Bool:=AH (gP rec50 n d f) λg=>AC (!g)
theorem Qc6(rec50:(AA CM)->Int->AB Bool)(g:∀(d:AA CM) (f:Int),Ks (rec50 d f) 254 [.q 3 (map CM.enc d),.fn (.func 252) [] [.p 0 0,.p 1 0]] [.c 3 [I f],.c 377 [.fn (.func 252) [] [.p 0 0,.p 1 0]]] (λr=>.b r))(n:Nat)(d:AA CM)(f:Int):Ks (iG rec50 n d f) 254 [.q 3 (map CM.enc d),.fn (.func 252) [] [.p 0 0,.p 1 0]] [.c 3 [I f],.c 377 [.fn (.func 252) [] [.p 0 0,.p 1 0]]] (λr=>.b r):=KB func254
def LW:Nat->(AA CM)->Int->AB Bool
  |0=>λ_ _=>AF
  |n+1=>iG (LW n) n
instance AAS:∀(d:AA CM) (f:Int),Ks (LW n d f) 254 [.q 3 (map CM.enc d),.fn (.func 252) [] [.p 0 0,.p 1 0]] [.c 3 [I f],.c 377 [.fn (.func 252) [] [.p 0 0,.p 1 0]]] (λr=>.b r):=by
  induction n with
  |zero=>exact λ_ _=>⟨nofun⟩
  |succ n ih=>exact Qc6 _ ih n
def P8(d:CX)(g:Int):AB Bool:=AH (AH (Fv n 0 g [d.Af]) λh=>(bif h then(bif 1<=d.B9 then AH (Fv n 0 1099511627776 [d.Bu]) λf=>AC f else AC AD)else AC AD):AB Bool) λj=>AC j
instance _i(d:CX)(f:Int):Ks (P8 n d f) 255 [.a (CX.c d),.p 0 0] [.c 3 [I f]] (λr=>.b r):=KB func255
def gR(d:CX)(f:Int):AB Bool:=AH (P8 n d f) λg=>AC (!g)
instance yK(d:CX)(f:Int):Ks (gR n d f) 310 [.a (CX.c d),.p 0 0] [.c 380 [.fn (.func 255) [] [.p 1 0]],.c 3 [I f]] (λr=>.b r):=KB func310
def qE(f:AA CX)(j:Int)(d:Int):AB (CJ Int (CJ Unit Int)):=(bif d<(AI f:Int) then AH (CN f d) λg=>AH (gR n g j) λh=>(bif h then AC (.d (.d d))else AC (.k (i64.wrap (d+1))))else AC (.d (.k ())))
def W9(g:AA CX)(h:Int):AB Int:=AH (iter (qE n g h) n 0:AB (CJ Unit Int)) λf=>match f with|.k d=>(AC (-1))|.d d=>AC d
instance zI(d:AA CX)(f:Int):Ks (W9 n d f) 342 [.q 3 (map CX.c d),.fn (.func 310) [] [.p 0 0]] [.c 380 [.fn (.func 255) [] [.p 1 0]],.c 3 [I f]] (λr=>I r):=KB func342
def ZJ(d:AA CX)(f:Int):AB Bool:=AH (W9 n d f) λg=>AC (AG (0<=g))
instance zW(d:AA CX)(f:Int):Ks (ZJ n d f) 309 [.q 3 (map CX.c d),.fn (.func 310) [] [.p 0 0]] [.c 380 [.fn (.func 255) [] [.p 1 0]],.c 3 [I f]] (λr=>.b r):=KB func309
def P7(d:AA CX)(f:Int):AB Bool:=AH (ZJ n d f) λg=>AC (!g)
instance _h(d:AA CX)(f:Int):Ks (P7 n d f) 257 [.q 3 (map CX.c d),.fn (.func 255) [] [.p 0 0]] [.c 3 [I f]] (λr=>.b r):=KB func257
def P0(d:AN)(f:Int):AB Bool:=AH (AH (Fv n 1 3 [d.BI]) λg=>(bif g then AH (Fv n (-1) f [d.Ae]) λh=>(bif h then AH (LW n d.Ab f) λj=>(bif j then AH (P7 n d.Am f) λm=>AC m else AC AD)else AC AD)else AC AD):AB Bool) λq=>AC q
instance _a(d:AN)(f:Int):Ks (P0 n d f) 256 [.a (AN.c d),.p 0 0,.p 1 0,.p 2 0] [.c 3 [I f],.c 377 [.fn (.func 252) [] [.p 0 0,.p 1 0]],.c 380 [.fn (.func 255) [] [.p 0 0]]] (λr=>.b r):=KB func256
def gt(d:AN)(f:Int):AB Bool:=AH (P0 n d f) λg=>AC (!g)
instance ye(d:AN)(f:Int):Ks (gt n d f) 277 [.a (AN.c d),.p 0 0] [.c 299 [.fn (.func 256) [] [.p 1 0,.p 2 0,.p 3 0]],.c 3 [I f],.c 377 [.fn (.func 252) [] [.p 1 0,.p 2 0]],.c 380 [.fn (.func 255) [] [.p 1 0]]] (λr=>.b r):=KB func277
def pt(f:AA AN)(j:Int)(d:Int):AB (CJ Int (CJ Unit Int)):=(bif d<(AI f:Int) then AH (CN f d) λg=>AH (gt n g j) λh=>(bif h then AC (.d (.d d))else AC (.k (i64.wrap (d+1))))else AC (.d (.k ())))
def Wo(g:AA AN)(h:Int):AB Int:=AH (iter (pt n g h) n 0:AB (CJ Unit Int)) λf=>match f with|.k d=>(AC (-1))|.d d=>AC d
instance yt(d:AA AN)(f:Int):Ks (Wo n d f) 326 [.q 5 (map AN.c d),.fn (.func 277) [] [.p 0 0]] [.c 299 [.fn (.func 256) [] [.p 1 0,.p 2 0,.p 3 0]],.c 3 [I f],.c 377 [.fn (.func 252) [] [.p 1 0,.p 2 0]],.c 380 [.fn (.func 255) [] [.p 1 0]]] (λr=>I r):=KB func326
def W_(d:AA AN)(f:Int):AB Bool:=AH (Wo n d f) λg=>AC (AG (0<=g))
instance zJ(d:AA AN)(f:Int):Ks (W_ n d f) 276 [.q 5 (map AN.c d),.fn (.func 277) [] [.p 0 0]] [.c 299 [.fn (.func 256) [] [.p 1 0,.p 2 0,.p 3 0]],.c 3 [I f],.c 377 [.fn (.func 252) [] [.p 1 0,.p 2 0]],.c 380 [.fn (.func 255) [] [.p 1 0]]] (λr=>.b r):=KB func276
def PZ(d:AA AN)(f:Int):AB Bool:=AH (W_ n d f) λg=>AC (!g)
instance _D(d:AA AN)(f:Int):Ks (PZ n d f) 159 [.q 5 (map AN.c d),.fn (.func 256) [] [.p 0 0,.p 1 0,.p 2 0]] [.c 3 [I f],.c 377 [.fn (.func 252) [] [.p 0 0,.p 1 0]],.c 380 [.fn (.func 255) [] [.p 0 0]]] (λr=>.b r):=KB func159
def PY(d:Aw):AB Bool:=AH (Fv n 0 1099511627776 [d.B0]) λf=>AC f
instance _C(d:Aw):Kb (PY n d) 267 [.a (Aw.c d)]:=KB func267
def gj(d:Aw):AB Bool:=AH (PY n d) λf=>AC (!f)
instance yY(d:Aw):Ks (gj n d) 316 [.a (Aw.c d),.p 0 0] [.c 390 [.f 267]] (λr=>.b r):=KB func316
def pb(f:AA Aw)(d:Int):AB (CJ Int (CJ Unit Int)):=(bif d<(AI f:Int) then AH (CN f d) λg=>AH (gj n g) λh=>(bif h then AC (.d (.d d))else AC (.k (i64.wrap (d+1))))else AC (.d (.k ())))
def ZI(g:AA Aw):AB Int:=AH (iter (pb n g) n 0:AB (CJ Unit Int)) λf=>match f with|.k d=>(AC (-1))|.d d=>AC d
instance zV(d:AA Aw):Ks (ZI n d) 344 [.q 2 (map Aw.c d),.fn (.func 316) [] [.p 0 0]] [.c 390 [.f 267]] (λr=>I r):=KB func344
def ZT(d:AA Aw):AB Bool:=AH (ZI n d) λf=>AC (AG (0<=f))
instance zf(d:AA Aw):Ks (ZT n d) 315 [.q 2 (map Aw.c d),.fn (.func 316) [] [.p 0 0]] [.c 390 [.f 267]] (λr=>.b r):=KB func315
def RI(d:AA Aw):AB Bool:=AH (ZT n d) λf=>AC (!f)
instance _t(d:AA Aw):Kb (RI n d) 266 [.q 2 (map Aw.c d),.f 267]:=KB func266
def RK(d:Ag):AB Bool:=(bif d.BP then AH ((bif (d.BV==0)then AC (d.Aj==0)else AC AD):AB Bool) λh=>AC h else(bif (d.Aj != 0)then AH ((bif (d.BV==0)then AH (Fv n 1 64 [d.Aj]) λf=>AC f else AC AD):AB Bool) λj=>AC j else AH (Fv n 0 68719476736 [d.BV]) λg=>AC g))
instance _u(d:Ag):Kb (RK n d) 259 [.a (Ag.c d)]:=KB func259
def gh(d:Ag):AB Bool:=AH (RK n d) λf=>AC (!f)
instance yW(d:Ag):Ks (gh n d) 318 [.a (Ag.c d),.p 0 0] [.c 382 [.f 259]] (λr=>.b r):=KB func318
def pY(f:AA Ag)(d:Int):AB (CJ Int (CJ Unit Int)):=(bif d<(AI f:Int) then AH (CN f d) λg=>AH (gh n g) λh=>(bif h then AC (.d (.d d))else AC (.k (i64.wrap (d+1))))else AC (.d (.k ())))
def ZU(g:AA Ag):AB Int:=AH (iter (pY n g) n 0:AB (CJ Unit Int)) λf=>match f with|.k d=>(AC (-1))|.d d=>AC d
instance zg(d:AA Ag):Ks (ZU n d) 345 [.q 4 (map Ag.c d),.fn (.func 318) [] [.p 0 0]] [.c 382 [.f 259]] (λr=>I r):=KB func345
def ZQ(d:AA Ag):AB Bool:=AH (ZU n d) λf=>AC (AG (0<=f))
instance ze(d:AA Ag):Ks (ZQ n d) 317 [.q 4 (map Ag.c d),.fn (.func 318) [] [.p 0 0]] [.c 382 [.f 259]] (λr=>.b r):=KB func317
def PQ(d:AA Ag):AB Bool:=AH (ZQ n d) λf=>AC (!f)
instance zw(d:AA Ag):Kb (PQ n d) 268 [.q 4 (map Ag.c d),.f 259]:=KB func268
def RV(d:AZ):AB Bool:=AH (AH (Fv n 0 120 [d.A5,d.To]) λf=>(bif f then AC (AG (d.A5<=d.To))else AC AD):AB Bool) λg=>AC g
instance C?(d:AZ):Kb (RV n d) 270 [.a (AZ.c d)]:=KB func270
def gc(d:AZ):AB Bool:=AH (RV n d) λf=>AC (!f)
instance yT(d:AZ):Ks (gc n d) 320 [.a (AZ.c d),.p 0 0] [.c 393 [.f 270]] (λr=>.b r):=KB func320
def pf(f:AA AZ)(d:Int):AB (CJ Int (CJ Unit Int)):=(bif d<(AI f:Int) then AH (CN f d) λg=>AH (gc n g) λh=>(bif h then AC (.d (.d d))else AC (.k (i64.wrap (d+1))))else AC (.d (.k ())))
def Wg(g:AA AZ):AB Int:=AH (iter (pf n g) n 0:AB (CJ Unit Int)) λf=>match f with|.k d=>(AC (-1))|.d d=>AC d
instance yj(d:AA AZ):Ks (Wg n d) 346 [.q 3 (map AZ.c d),.fn (.func 320) [] [.p 0 0]] [.c 393 [.f 270]] (λr=>I r):=KB func346
def W2(d:AA AZ):AB Bool:=AH (Wg n d) λf=>AC (AG (0<=f))
instance zB(d:AA AZ):Ks (W2 n d) 319 [.q 3 (map AZ.c d),.fn (.func 320) [] [.p 0 0]] [.c 393 [.f 270]] (λr=>.b r):=KB func319
def Pg(d:AA AZ):AB Bool:=AH (W2 n d) λf=>AC (!f)
instance _J(d:AA AZ):Kb (Pg n d) 269 [.q 3 (map AZ.c d),.f 270]:=KB func269
def Py(d:Cc)(f:CE):AB Bool:=AH (AH (Fv n 0 (i64.wrap ((AI f.AO:Int)-1)) [d.AN]) λg=>(bif g then AH (Fv n (-1) (i64.wrap ((AI f.Ac:Int)-1)) [d.AZ]) λh=>(bif h then AH (Fv n 1 4000 [d.Bk]) λj=>(bif j then AH (Fv n 1 1125899906842624 [d.BW]) λm=>AC m else AC AD)else AC AD)else AC AD):AB Bool) λq=>AC q
instance _Y(d:Cc)(f:CE):Ks (Py n d f) 260 [.a (Cc.c d),.p 0 0] [.c 33 (CE.c f)] (λr=>.b r):=KB func260
def gY(d:Cc)(f:CE):AB Bool:=AH (Py n d f) λg=>AC (!g)
instance yQ(d:Cc)(f:CE):Ks (gY n d f) 322 [.a (Cc.c d),.p 0 0] [.c 383 [.fn (.func 260) [] [.p 1 0]],.c 33 (CE.c f)] (λr=>.b r):=KB func322
def pV(f:AA Cc)(j:CE)(d:Int):AB (CJ Int (CJ Unit Int)):=(bif d<(AI f:Int) then AH (CN f d) λg=>AH (gY n g j) λh=>(bif h then AC (.d (.d d))else AC (.k (i64.wrap (d+1))))else AC (.d (.k ())))
def ZE(g:AA Cc)(h:CE):AB Int:=AH (iter (pV n g h) n 0:AB (CJ Unit Int)) λf=>match f with|.k d=>(AC (-1))|.d d=>AC d
instance zR(d:AA Cc)(f:CE):Ks (ZE n d f) 347 [.q 4 (map Cc.c d),.fn (.func 322) [] [.p 0 0]] [.c 383 [.fn (.func 260) [] [.p 1 0]],.c 33 (CE.c f)] (λr=>I r):=KB func347
def ZA(d:AA Cc)(f:CE):AB Bool:=AH (ZE n d f) λg=>AC (AG (0<=g))
instance zN(d:AA Cc)(f:CE):Ks (ZA n d f) 321 [.q 4 (map Cc.c d),.fn (.func 322) [] [.p 0 0]] [.c 383 [.fn (.func 260) [] [.p 1 0]],.c 33 (CE.c f)] (λr=>.b r):=KB func321
def PN(d:AA Cc)(f:CE):AB Bool:=AH (ZA n d f) λg=>AC (!g)
instance zr(d:AA Cc)(f:CE):Ks (PN n d f) 271 [.q 4 (map Cc.c d),.fn (.func 260) [] [.p 0 0]] [.c 33 (CE.c f)] (λr=>.b r):=KB func271
def Wh(n:Nat)(d:Cc):AB Unit:=AC ()
instance yk(d:Cc):Kq (Wh n d) 273 [.a (Cc.c d)] [] (λ_=>.a [I d.AN,I d.AZ,I d.Bk]) (λ_=>[.c 397 [I d.AN,I d.AZ,I d.Bk]]):=KB func273
def U1(g:AA Cc)(d:(AA (Um×Bool))×Int):AB (CJ ((AA (Um×Bool))×Int) (AA (Um×Bool))):=(bif d.2<(AI g:Int) then AH (CN g d.2) λf=>AH (Wh n f) λj=>AH (AC (QE d.1 ({B6:=f.AN,B3:=f.AZ,CD:=f.Bk:Um}) AE)) λh=>AC (.k (h,i64.wrap (d.2+1)))else AC (.d d.1))
def Wz(d:AA Cc):AB Bool:=AH (iter (U1 n d) n ([],0):AB (AA (Um×Bool))) λf=>AC ((AI f:Int)==(AI d:Int))
instance y8(f:AA Cc):Kb (Wz n f) 272 [.q 4 (map Cc.c f),.f 273]:=by
 exact Kg 0 func272 Z Z Z Z λr h=>by
  have:=hn 30401 [0] [0,5] (λ(_:AA (Um×Bool))=>[]) (λg=>[(0,.w (.map (Qi (λx=>A.a (Um.c x)) A.b g)))]);have:=hl 30401 [0] [0,1,5,9,10] (λ(d:(AA (Um×Bool))×Int)=>[(11,I d.2)]) (λd=>[(0,.w (.map (Qi (λx=>A.a (Um.c x)) A.b d.1)))]);exact bu h
def Rh(d:CE):AB Bool:=AH (AH (PP n d.An) λf=>(bif f then AH (P6 n d.As (i64.wrap ((AI d.An:Int)-1))) λg=>(bif g then AH (W0 n d.As) λh=>(bif h then AH (PZ n d.AO (i64.wrap ((AI d.An:Int)-1))) λj=>(bif j then AH (RI n d.Ax) λm=>(bif m then AH (PQ n d.Ah) λq=>(bif q then AH (Pg n d.Ac) λt=>(bif t then AH (PN n d.A3 d) λx=>(bif x then AH (Wz n d.A3) λy=>(bif y then AH (Fv n 0 16 [d.AT.BK,d.AT.BF]) λB=>(bif B then AH (Fv n 0 4294967296 [d.AT.BH,d.AT.A0]) λE=>(bif E then AH (Fv n 0 100000 [d.AT.Ba]) λF=>(bif F then AH (Fv n 0 1125899906842624 [d.B7]) λG=>(bif G then AH (Fv n 0 1099511627776 [d.BL]) λH=>AC H else AC AD)else AC AD)else AC AD)else AC AD)else AC AD)else AC AD)else AC AD)else AC AD)else AC AD)else AC AD)else AC AD)else AC AD)else AC AD):AB Bool) λJ=>AC J
instance O?(d:CE):Kb (Rh n d) 157 [.a (CE.c d)]:=by
 exact Kg 0 func157 Z Z Z Z λr h=>by
  have:=hn 100100 [] [] (λ(f:Bool)=>[(2,.b f)]) Ze;exact bu h
def pX(n:Nat)(f:AA AX)(d:(AA Ul)×Int):AB (CJ ((AA Ul)×Int) (AA Ul)):=(bif d.2<(AI f:Int) then AH (CN f d.2) λg=>AH (app d.1 [Ul.ctyping_step ({AX:=g:Uo})]) λh=>AC (.k (h,i64.wrap (d.2+1)))else AC (.d d.1))
def Mo(d:AA AX):AB (AA Ul):=AH (iter (pX n d) n ([],0):AB (AA Ul)) λf=>AC f
instance X?(g:AA AX):Kr (Mo n g) 275 [.q 8 (map AX.enc g)] 433 1 Ul.enc:=by
 exact Kg 0 func275 Z Z Z Z λr h=>by
  have:=hn 20401 [0] [] (λ(f:AA Ul)=>[(2,.o 0 (AI f) 1)]) (λf=>[(0,.w (.r 433 1 (map Ul.enc f)))]);have:=hl 20401 [0] [5,6] (λ(d:(AA Ul)×Int)=>[(2,.o 0 (AI d.1) 1),(7,I d.2)]) (λd=>[(0,.w (.r 433 1 (map Ul.enc d.1)))]);exact bu h
def LL(n:Nat)(d:Ui):AB Bool:=AH ((bif (d.AR.AV==0)then(bif (d.AR.Bz==0)then(bif (d.AR.N==0)then AC ((AI d.AR.Aa:Int)==0)else AC AD)else AC AD)else AC AD):AB Bool) λf=>AC f
instance u?(d:Ui):Kb (LL n d) 348 [.a (Ui.c ({AR:=d.AR:Ui}))]:=KB func348
def LV(d:Uo):AB (AA Ul):=AH (Mo n d.AX.BN) λf=>AH (Mo n d.AX.BQ) λg=>AH (app f g) λh=>AC h
instance cz(d:Uo):Kr (LV n d) 355 [.a (Uo.c d)] 433 1 Ul.enc:=by
 exact Kg 0 func355 Z Z Z Z λr h=>by
  have:=hk 1 7 [3] [(0,0,0),(0,0,0),(0,0,0),(1,0,0),(0,0,1),(0,0,1),(0,0,1)];exact bu h
def pu(n:Nat)(f:AA AR)(d:(AA Ul)×Int):AB (CJ ((AA Ul)×Int) (AA Ul)):=(bif d.2<(AI f:Int) then AH (CN f d.2) λg=>AH (app d.1 [Ul.ctyping_cond ({AR:=g:Ui})]) λh=>AC (.k (h,i64.wrap (d.2+1)))else AC (.d d.1))
def ZP(d:AA AR):AB (AA Ul):=AH (iter (pu n d) n ([],0):AB (AA Ul)) λf=>AC f
instance zd(g:AA AR):Kr (ZP n g) 358 [.q 4 (map AR.enc g)] 433 1 Ul.enc:=by
 exact Kg 0 func358 Z Z Z Z λr h=>by
  have:=hn 20401 [0] [] (λ(f:AA Ul)=>[(2,.o 0 (AI f) 1)]) (λf=>[(0,.w (.r 433 1 (map Ul.enc f)))]);have:=hl 20401 [0] [5,6] (λ(d:(AA Ul)×Int)=>[(2,.o 0 (AI d.1) 1),(7,I d.2)]) (λd=>[(0,.w (.r 433 1 (map Ul.enc d.1)))]);exact bu h
def KL(d:Ui):AB (AA Ul):=AH (ZP n d.AR.Aa) λf=>AC f
instance c4(d:Ui):Kr (KL n d) 354 [.a (Ui.c ({AR:=d.AR:Ui}))] 433 1 Ul.enc:=KB func354
def Me(B:AA Ul)(E:Int)(rec95:(AA Ul)->Int->Uj->AB (Uj×Bool))(d:Uj×Int):AB (CJ (Uj×Int) (CJ Uj (Uj×Bool))):=(bif d.2<(AI B:Int) then AH (CN B d.2) λF=>Ul.elim F (λj=>AH (AH (LL n ({AR:=j.AX.AR:Ui})) λG=>(bif (!G)then AH (rec95 [Ul.ctyping_cond ({AR:=j.AX.AR:Ui})] 0 ({A8:=i64.wrap (d.1.A8+1),A9:=d.1.A9:Uj})) λm=>AC (m.1,(!m.2))else AC ({A8:=i64.wrap (d.1.A8+1),A9:=d.1.A9:Uj},AD)):AB (Uj×Bool)) λf=>(bif f.2 then AC (.d (.d (f.1,AD)))else AH ((bif 64<f.1.A8 then AC (f.1,AE)else(bif 256<f.1.A9 then AC (f.1,AE)else AH (LV n j) λx=>AH (rec95 x (i64.wrap (E+1)) f.1) λq=>AC (q.1,(!q.2)))):AB (Uj×Bool)) λg=>(bif g.2 then AC (.d (.d (g.1,AD)))else AC (.k (g.1,i64.wrap (d.2+1)))))) (λH=>AH ((bif 64<d.1.A8 then AC ({A8:=d.1.A8,A9:=i64.wrap (d.1.A9+1):Uj},AE)else(bif 256<(i64.wrap (d.1.A9+1)) then AC ({A8:=d.1.A8,A9:=i64.wrap (d.1.A9+1):Uj},AE)else AH (KL n ({AR:=H.AR:Ui})) λy=>AH (rec95 y (i64.wrap (E+1)) ({A8:=d.1.A8,A9:=i64.wrap (d.1.A9+1):Uj})) λt=>AC (t.1,(!t.2)))):AB (Uj×Bool)) λh=>(bif h.2 then AC (.d (.d (h.1,AD)))else AC (.k (h.1,i64.wrap (d.2+1)))))else AC (.d (.k d.1)))
def j8(rec95:(AA Ul)->Int->Uj->AB (Uj×Bool))(n:Nat)(f:AA Ul)(g:Int)(h:Uj):AB (Uj×Bool):=AH ((bif 0<(AI f:Int) then AC (AG (16<g))else AC AD):AB Bool) λm=>(bif m then AC (h,AD)else AH (iter (Me n f g rec95) n (h,0):AB (CJ Uj (Uj×Bool))) λj=>match j with|.k d=>(AC (d,AE))|.d d=>AC d)
theorem Qaw(rec95:(AA Ul)->Int->Uj->AB (Uj×Bool))(ad:∀(x:AA Ul) (L:Int) (M:Uj),Kq (rec95 x L M) 323 [.p 0 0,.o 1 (AI x) 1,I L] [.c 429 (Uj.c M),.r 433 1 (map Ul.enc x)] (λr=>.b r.2) (λr=>[.c 429 (Uj.c r.1),.r 433 1 (map Ul.enc x)]))(n:Nat)(x:AA Ul)(L:Int)(M:Uj):Kq (j8 rec95 n x L M) 323 [.p 0 0,.o 1 (AI x) 1,I L] [.c 429 (Uj.c M),.r 433 1 (map Ul.enc x)] (λr=>.b r.2) (λr=>[.c 429 (Uj.c r.1),.r 433 1 (map Ul.enc x)]):=by
 refine Kg 7 func323 Z Z Z Z λr h=>Bd h λb2 h3 h=>Ct b2 [0,1] [0,1,2] (λb2=>[(18,.b b2)]) Ze Zf ?_ (λenv H B=>?_)
 .exact bu h3
 refine Gx 1 Z (Ee B (Cn Z h (λ_ h=>?_) (λ_ h=>?_)))
 .exact bu h
 refine Gc 10 Z (Bd h λaf ag h=>Hz (b:=af) [0,1] [] Ze (λN=>[(0,.c 429 (Uj.c N))]) Zf ?_ (λN ah=>?_))
 .refine G0 1 Z (Lp [0,1] [0,2,19,20] (λE=>[(21,I E.2)]) (λE=>[(0,.c 429 (Uj.c E.1))]) ag Zf (Lr [0,1]) λE am d y=>?_);refine G0 6 Z (Dm Z d (λ_ d=>?_) (λ_ d=>?_))
  .exact FS y d
  refine Gc 6 Z (Bd d λaa O d=>?_);refine vX (.p 1 (toNat E.2*1)) (Qw O Z runUnderlying400 sizeOf433) ?_;refine vX (Ul.val aa) (Ey Z isAgg433 Z (Qy O)) ?_;refine Go 12 Z ?_;rcases JH aa with⟨F,hE90⟩|⟨J,hE92⟩
  .have d:=Jq hE90 d;refine Er (Q3 (s:=8) (a':=.iface 436 (.a (Uo.c F))) Z (congrArg Ul.val hE90)) ?_;refine Er (Q3 (s:=24) (a':=.iface 436 (.a (Uo.c F))) Z (congrArg Ul.val hE90)) ?_;refine Er (Q3 (s:=25) (a':=.iface 436 (.a (Uo.c F))) Z (congrArg Ul.val hE90)) ?_;refine vX (.t [.a [I 0,I 0,I 0,.q 4 (map AR.enc [])],.b AD]) (nj (z:=(.a [I 0,I 0,I 0,.q 4 (map AR.enc [])])) EF (by intro m;nofun) Z Gr (IN Z)) ?_;refine Go 7 Z ?_;refine vX (.t [.a (Uo.c F),.b AE]) (T6 E5 (by intro m;nofun)) ?_;refine Go 34 Z (Bd d λG j d=>Ct G [0,1] [0,2,8,19,20,21] (λG=>[(60,.b G.2)]) (λG=>[(0,.c 429 (Uj.c G.1))]) Zf ?_ (λenv H B=>?_))
   .refine G0 2 Z (Cz [] j Kc Z λan ai j=>Go 2 Z (Is 53 j Z (λ_ j=>?_) (λ_ j=>?_)))
    .refine Go 2 Z ?_;refine vX (.iface 458 (.a (Ui.c ({AR:=F.AX.AR:Ui})))) (jm Z EF (by intro m;nofun) Z) ?_ (gT Z);exact bu j
    exact bu j
   refine Gx 1 Z (Ee B (Cn Z d (λ_ d=>?_) (λ_ d=>?_)))
   .exact H9 y d h
   refine Gc 4 Z (Bd d λq f d=>Ct q [0,1] [0,2,19,20,21] (λq=>[(81,.b q.2)]) (λq=>[(0,.c 429 (Uj.c q.1))]) Zf ?_ (λenv H B=>?_))
   .refine G0 7 Z (Is 66 f Z (λ_ f=>?_) (λ_ f=>?_))
    .exact bu f
    .refine Go 7 Z (Is 73 f Z (λ_ f=>?_) (λ_ f=>?_))
     .exact bu f
     .refine Go 2 Z (Bd f λaj T f=>?_);refine Qt [] (i7 call355 Z Z Z Z (λ_ _=>by kernel_rfl)) ((cz _ _).c _ T) ?_ (hg:=(gT Z));rintro _ _ ⟨rfl,rfl⟩;exact bu f
   refine Gx 1 Z (Ee B (Cn Z d (λ_ d=>?_) (λ_ d=>?_)))
   .exact H9 y d h
   exact bu d
  .have d:=Jp hE92 d;refine Er (Q3 (s:=8) (a':=.iface 458 (.a (Ui.c ({AR:=J.AR:Ui})))) Z (congrArg Ul.val hE92)) ?_;refine Er (Q3 (s:=24) (a':=.iface 458 (.a (Ui.c ({AR:=J.AR:Ui})))) Z (congrArg Ul.val hE92)) ?_;refine Er (Q3 (s:=25) (a':=.iface 458 (.a (Ui.c ({AR:=J.AR:Ui})))) Z (congrArg Ul.val hE92)) ?_;refine vX (.t [.a (Ui.c ({AR:=J.AR:Ui})),.b AE]) (T6 EF (by intro m;nofun)) ?_;refine Go 24 Z (Bd d λt g d=>Cg t [0,1] [0,2,19,20,21] (λt=>[(81,.b t.2)]) (λt=>[(0,.c 429 (Uj.c t.1))]) Zf ?_ ?_)
   .refine G0 7 Z (Is 66 g Z (λ_ g=>?_) (λ_ g=>?_))
    .exact bu g
    .refine Go 7 Z (Is 73 g Z (λ_ g=>?_) (λ_ g=>?_))
     .exact bu g
     .refine Go 2 Z (Bd g λak Y g=>?_);refine Qt [] (i7 call354 Z Z Z Z (λ_ _=>by kernel_rfl)) ((c4 _ _).c _ Y) ?_ (hg:=(gT Z));rintro _ _ ⟨rfl,rfl⟩;exact bu g
   exact H9 y d h
 subst ah;exact bu h
def Nf:Nat->(AA Ul)->Int->Uj->AB (Uj×Bool)
  |0=>λ_ _ _=>AF
  |n+1=>j8 (Nf n) n
instance k_j:∀(d:AA Ul) (f:Int) (g:Uj),Kq (Nf n d f g) 323 [.p 0 0,.o 1 (AI d) 1,I f] [.c 429 (Uj.c g),.r 433 1 (map Ul.enc d)] (λr=>.b r.2) (λr=>[.c 429 (Uj.c r.1),.r 433 1 (map Ul.enc d)]):=by
  induction n with
  |zero=>exact λ_ _ _=>⟨nofun⟩
  |succ n ih=>exact Qaw _ ih n
def pW(B:AA Ul)(E:Int)(d:Uj×Int):AB (CJ (Uj×Int) (CJ Uj (Uj×Bool))):=(bif d.2<(AI B:Int) then AH (CN B d.2) λF=>Ul.elim F (λj=>AH (AH (LL n ({AR:=j.AX.AR:Ui})) λG=>(bif (!G)then AH (Nf n [Ul.ctyping_cond ({AR:=j.AX.AR:Ui})] 0 ({A8:=i64.wrap (d.1.A8+1),A9:=d.1.A9:Uj})) λm=>AC (m.1,(!m.2))else AC ({A8:=i64.wrap (d.1.A8+1),A9:=d.1.A9:Uj},AD)):AB (Uj×Bool)) λf=>(bif f.2 then AC (.d (.d (f.1,AD)))else AH ((bif 64<f.1.A8 then AC (f.1,AE)else(bif 256<f.1.A9 then AC (f.1,AE)else AH (LV n j) λx=>AH (Nf n x (i64.wrap (E+1)) f.1) λq=>AC (q.1,(!q.2)))):AB (Uj×Bool)) λg=>(bif g.2 then AC (.d (.d (g.1,AD)))else AC (.k (g.1,i64.wrap (d.2+1)))))) (λH=>AH ((bif 64<d.1.A8 then AC ({A8:=d.1.A8,A9:=i64.wrap (d.1.A9+1):Uj},AE)else(bif 256<(i64.wrap (d.1.A9+1)) then AC ({A8:=d.1.A8,A9:=i64.wrap (d.1.A9+1):Uj},AE)else AH (KL n ({AR:=H.AR:Ui})) λy=>AH (Nf n y (i64.wrap (E+1)) ({A8:=d.1.A8,A9:=i64.wrap (d.1.A9+1):Uj})) λt=>AC (t.1,(!t.2)))):AB (Uj×Bool)) λh=>(bif h.2 then AC (.d (.d (h.1,AD)))else AC (.k (h.1,i64.wrap (d.2+1)))))else AC (.d (.k d.1)))
def gM(f:AA Ul)(g:Int)(h:Uj):AB (Uj×Bool):=AH ((bif 0<(AI f:Int) then AC (AG (16<g))else AC AD):AB Bool) λm=>(bif m then AC (h,AD)else AH (iter (pW n f g) n (h,0):AB (CJ Uj (Uj×Bool))) λj=>match j with|.k d=>(AC (d,AE))|.d d=>AC d)
instance yG(a1:AA Ul)(a2:Int)(a3:Uj):Kq (gM n a1 a2 a3) 323 [.p 0 0,.q 1 (map Ul.enc a1),I a2] [.c 429 (Uj.c a3)] (λr=>.b r.2) (λr=>[.c 429 (Uj.c r.1)]):=by
 refine Kg 7 func323 Z Z Z Z λr h=>Bd h λV h3 h=>Ct V [0] [0,1,2] (λV=>[(18,.b V)]) Ze Zf ?_ (λenv H y=>?_)
 .exact bu h3
 refine Gx 1 Z (Ee y (Cn Z h (λ_ h=>?_) (λ_ h=>?_)))
 .exact bu h
 refine Gc 6 Z (Lg 3 Z Z (Bd h λab ac h=>Hz (b:=ab) [0] [] Ze (λJ=>[(0,.c 429 (Uj.c J))]) Zf ?_ (λJ ad=>?_)))
 .refine G0 1 Z (Lp [0] [0,2,19,20] (λF=>[(21,I F.2)]) (λF=>[(0,.c 429 (Uj.c F.1))]) ac Zf (Lr [0]) λF ai d x=>?_);refine G0 6 Z (Dm Z d (λ_ d=>?_) (λ_ d=>?_))
  .exact FS x d
  refine Gc 6 Z (Bd d λae X d=>Iz X Z (Go 13 Z ?_));rcases JH ae with⟨B,hE90⟩|⟨G,hE92⟩
  .have d:=Jq hE90 d;refine Er (Q3 (s:=8) (a':=.iface 436 (.a (Uo.c B))) Z (congrArg Ul.val hE90)) ?_;refine Er (Q3 (s:=24) (a':=.iface 436 (.a (Uo.c B))) Z (congrArg Ul.val hE90)) ?_;refine Er (Q3 (s:=25) (a':=.iface 436 (.a (Uo.c B))) Z (congrArg Ul.val hE90)) ?_;refine vX (.t [.a [I 0,I 0,I 0,.q 4 (map AR.enc [])],.b AD]) (nj (z:=(.a [I 0,I 0,I 0,.q 4 (map AR.enc [])])) EF (by intro m;nofun) Z Gr (IN Z)) ?_;refine Go 7 Z ?_;refine vX (.t [.a (Uo.c B),.b AE]) (T6 E5 (by intro m;nofun)) ?_;refine Go 34 Z (Bd d λE j d=>Ct E [0] [0,2,8,19,20,21] (λE=>[(60,.b E.2)]) (λE=>[(0,.c 429 (Uj.c E.1))]) Zf ?_ (λenv H y=>?_))
   .refine G0 2 Z (Cz [] j Kc Z λaj af j=>Go 2 Z (Is 53 j Z (λ_ j=>?_) (λ_ j=>?_)))
    .refine Go 2 Z ?_;refine vX (.iface 458 (.a (Ui.c ({AR:=B.AX.AR:Ui})))) (jm Z EF (by intro m;nofun) Z) ?_ (gT Z);exact bu j
    exact bu j
   refine Gx 1 Z (Ee y (Cn Z d (λ_ d=>?_) (λ_ d=>?_)))
   .exact H9 x d h
   refine Gc 4 Z (Bd d λq f d=>Ct q [0] [0,2,19,20,21] (λq=>[(81,.b q.2)]) (λq=>[(0,.c 429 (Uj.c q.1))]) Zf ?_ (λenv H y=>?_))
   .refine G0 7 Z (Is 66 f Z (λ_ f=>?_) (λ_ f=>?_))
    .exact bu f
    .refine Go 7 Z (Is 73 f Z (λ_ f=>?_) (λ_ f=>?_))
     .exact bu f
     .refine Go 2 Z (Bd f λag O f=>?_);refine Qt [] (i7 call355 Z Z Z Z (λ_ _=>by kernel_rfl)) ((cz _ _).c _ O) ?_ (hg:=(gT Z));rintro _ _ ⟨rfl,rfl⟩;exact bu f
   refine Gx 1 Z (Ee y (Cn Z d (λ_ d=>?_) (λ_ d=>?_)))
   .exact H9 x d h
   exact bu d
  .have d:=Jp hE92 d;refine Er (Q3 (s:=8) (a':=.iface 458 (.a (Ui.c ({AR:=G.AR:Ui})))) Z (congrArg Ul.val hE92)) ?_;refine Er (Q3 (s:=24) (a':=.iface 458 (.a (Ui.c ({AR:=G.AR:Ui})))) Z (congrArg Ul.val hE92)) ?_;refine Er (Q3 (s:=25) (a':=.iface 458 (.a (Ui.c ({AR:=G.AR:Ui})))) Z (congrArg Ul.val hE92)) ?_;refine vX (.t [.a (Ui.c ({AR:=G.AR:Ui})),.b AE]) (T6 EF (by intro m;nofun)) ?_;refine Go 24 Z (Bd d λt g d=>Cg t [0] [0,2,19,20,21] (λt=>[(81,.b t.2)]) (λt=>[(0,.c 429 (Uj.c t.1))]) Zf ?_ ?_)
   .refine G0 7 Z (Is 66 g Z (λ_ g=>?_) (λ_ g=>?_))
    .exact bu g
    .refine Go 7 Z (Is 73 g Z (λ_ g=>?_) (λ_ g=>?_))
     .exact bu g
     .refine Go 2 Z (Bd g λah T g=>?_);refine Qt [] (i7 call354 Z Z Z Z (λ_ _=>by kernel_rfl)) ((c4 _ _).c _ T) ?_ (hg:=(gT Z));rintro _ _ ⟨rfl,rfl⟩;exact bu g
   exact H9 x d h
 subst ad;exact bu h
def ZW(rec99:(AA Ul)->AB Bool)(n:Nat)(d:Ui):AB Bool:=AH ((bif (d.AR.Bz==0)then AC (d.AR.N==0)else AC AD):AB Bool) λg=>(bif (d.AR.AV==1)then AH (AH (Fv n 1 3 [d.AR.Bz]) λh=>(bif h then AH (Fv n 0 10000 [d.AR.N]) λj=>(bif j then AC ((AI d.AR.Aa:Int)==0)else AC AD)else AC AD):AB Bool) λm=>AC m else AH ((bif (d.AR.AV==4)then(bif g then AC (.k ((AI d.AR.Aa:Int)==1))else AC (.k AD))else AH ((bif (d.AR.AV==2)then AC (d.AR.AV==2)else AC (d.AR.AV==3)):AB Bool) λq=>(bif q then(bif g then(bif 0<(AI d.AR.Aa:Int) then AC (.k (AG ((AI d.AR.Aa:Int)<=16)))else AC (.k AD))else AC (.k AD))else AC (.d AD))):AB (CJ Bool Bool)) λt=>match t with|.k f=>(AH ((bif f then AH (KL n ({AR:=d.AR:Ui})) λx=>AH (rec99 x) λy=>AC (!y)else AC AD):AB Bool) λB=>AC B)|.d f=>AC f)
instance zi(rec99:(AA Ul)->AB Bool)[E:∀(g:AA Ul),Kb (rec99 g) 324 [.q 1 (map Ul.enc g),.f 325]](n:Nat)(g:Ui):Kb (ZW rec99 n g) 350 [.iface 458 (.a (Ui.c ({AR:=g.AR:Ui})))]:=by
 refine Kg 14 func350 Z Z Z Z λr h=>?_;refine vX (.t [.a (Ui.c ({AR:=g.AR:Ui})),.b AE]) (T6 EF (by intro m;nofun)) ?_;refine Go 12 Z (Bd h λx M h=>Ct x [0] [3] (λx=>[(4,.b x)]) Ze Zf ?_ (λenv H f=>?_))
 .exact bu M
 refine Gx 1 Z (Ee f (Gc 15 Z (Cn Z h (λ_ h=>?_) (λ_ h=>?_))))
 .exact bu h
 refine Gc 6 Z (Bd h λG d h=>KR (b:=G) [0] [3] (λj=>[(4,.b j)]) Ze Zf ?_ (λj env H hb f=>?_))
 .refine G0 0 Z (Cn Z d (λ_ d=>?_) (λ_ d=>?_))
  .exact bu d
  refine Gc 7 Z (Bd d λq J d=>Ct q [0] [3,4] (λq=>[(55,.b q)]) Ze Zf ?_ (λenv H f=>?_))
  .exact bu J
  refine Gx 1 Z (Ee f (Dm Z d (λ_ d=>?_) (λ_ d=>?_)))
  .refine Gc 6 Z ?_;cases d;exact bu h
  exact bu d
 subst hb;refine Gx 2 Z (Ee f (Gc 1 Z (Bd h λt L h=>Cg t [] [] (λt=>[(2,.b t)]) Ze Zf ?_ ?_)))
 .exact bu L
 exact bu h
def gw(rec99:(AA Ul)->AB Bool)(n:Nat)(Q:Ul):AB Bool:=Ul.elim Q (λf=>(bif (f.AX.AV==1)then AH (AH (Fv n 1 5 [f.AX.By]) λj=>(bif j then AH (LL n ({AR:=f.AX.AR:Ui})) λm=>(bif m then AH (LV n f) λq=>AC ((AI q:Int)==0)else AC AD)else AC AD):AB Bool) λt=>AC t else(bif (f.AX.AV==2)then AH ((bif (f.AX.By==0)then AH (ZW rec99 n ({AR:=f.AX.AR:Ui})) λx=>(bif x then(bif 0<(AI f.AX.BN:Int) then AH (LV n f) λy=>AH (rec99 y) λB=>AC (!B)else AC AD)else AC AD)else AC AD):AB Bool) λE=>AC E else AC AD))) (λd=>AH ((bif (d.AR.Bz==0)then AC (d.AR.N==0)else AC AD):AB Bool) λh=>(bif (d.AR.AV==1)then AH (AH (Fv n 1 3 [d.AR.Bz]) λF=>(bif F then AH (Fv n 0 10000 [d.AR.N]) λG=>(bif G then AC ((AI d.AR.Aa:Int)==0)else AC AD)else AC AD):AB Bool) λH=>AC H else AH ((bif (d.AR.AV==4)then(bif h then AC (.k ((AI d.AR.Aa:Int)==1))else AC (.k AD))else AH ((bif (d.AR.AV==2)then AC (d.AR.AV==2)else AC (d.AR.AV==3)):AB Bool) λJ=>(bif J then(bif h then(bif 0<(AI d.AR.Aa:Int) then AC (.k (AG ((AI d.AR.Aa:Int)<=16)))else AC (.k AD))else AC (.k AD))else AC (.d AD))):AB (CJ Bool Bool)) λL=>match L with|.k g=>(AH ((bif g then AH (KL n ({AR:=d.AR:Ui})) λM=>AH (rec99 M) λO=>AC (!O)else AC AD):AB Bool) λP=>AC P)|.d g=>AC g))
instance kW(rec99:(AA Ul)->AB Bool)[O:∀(j:AA Ul),Kb (rec99 j) 324 [.q 1 (map Ul.enc j),.f 325]](n:Nat)(j:Ul):Kb (gw rec99 n j) 350 [Ul.val j]:=by
 refine Kg 14 func350 Z Z Z Z λr h=>?_;rcases JH j with⟨E,hE2⟩|⟨F,hE4⟩
 .have h:=Jq hE2 h;refine Er (Q3 (s:=0) (a':=.iface 436 (.a (Uo.c E))) Z (congrArg Ul.val hE2)) ?_;refine Er (Q3 (s:=7) (a':=.iface 436 (.a (Uo.c E))) Z (congrArg Ul.val hE2)) ?_;refine vX (.t [.a [I 0,I 0,I 0,.q 4 (map AR.enc [])],.b AD]) (nj (z:=(.a [I 0,I 0,I 0,.q 4 (map AR.enc [])])) EF (by intro m;nofun) Z Gr (IN Z)) ?_;refine Go 7 Z ?_;refine vX (.t [.a (Uo.c E),.b AE]) (T6 E5 (by intro m;nofun)) ?_;refine Go 35 Z (Cn Z h (λ_ h=>?_) (λ_ h=>?_))
  .exact bu h
  refine Gc 6 Z (Cn Z h (λ_ h=>?_) (λ_ h=>?_))
  .refine Gc 1 Z (Bd h λq g h=>Ct q [] [] (λq=>[(2,.b q)]) Ze Zf ?_ (λenv H f=>?_))
   .refine G0 6 Z (Is 113 g Z (λ_ g=>?_) (λ_ g=>?_))
    .refine Go 1 Z ?_;refine vX (.iface 458 (.a (Ui.c ({AR:=E.AX.AR:Ui})))) (jm Z EF (by intro m;nofun) Z) ?_ (gT Z);exact bu g
    exact bu g
   exact Gx 1 Z (Ee f (Hw 4 Z h 2 []))
  exact bu h
 .have h:=Jp hE4 h;refine Er (Q3 (s:=0) (a':=.iface 458 (.a (Ui.c ({AR:=F.AR:Ui})))) Z (congrArg Ul.val hE4)) ?_;refine Er (Q3 (s:=7) (a':=.iface 458 (.a (Ui.c ({AR:=F.AR:Ui})))) Z (congrArg Ul.val hE4)) ?_;refine vX (.t [.a (Ui.c ({AR:=F.AR:Ui})),.b AE]) (T6 EF (by intro m;nofun)) ?_;refine Go 12 Z (Bd h λt Q h=>Ct t [0] [3] (λt=>[(4,.b t)]) Ze Zf ?_ (λenv H f=>?_))
  .exact bu Q
  refine Gx 1 Z (Ee f (Gc 15 Z (Cn Z h (λ_ h=>?_) (λ_ h=>?_))))
  .exact bu h
  refine Gc 6 Z (Bd h λR d h=>KR (b:=R) [0] [3] (λx=>[(4,.b x)]) Ze Zf ?_ (λx env H hb f=>?_))
  .refine G0 0 Z (Cn Z d (λ_ d=>?_) (λ_ d=>?_))
   .exact bu d
   refine Gc 7 Z (Bd d λy T d=>Ct y [0] [3,4] (λy=>[(55,.b y)]) Ze Zf ?_ (λenv H f=>?_))
   .exact bu T
   refine Gx 1 Z (Ee f (Dm Z d (λ_ d=>?_) (λ_ d=>?_)))
   .refine Gc 6 Z ?_;cases d;exact bu h
   exact bu d
  subst hb;refine Gx 2 Z (Ee f (Gc 1 Z (Bd h λB V h=>Cg B [] [] (λB=>[(2,.b B)]) Ze Zf ?_ ?_)))
  .exact bu V
  exact bu h
def Zi(rec99:(AA Ul)->AB Bool)(n:Nat)(d:Ul):AB Bool:=AH (gw rec99 n d) λf=>AC (!f)
instance ki(rec99:(AA Ul)->AB Bool)[f:∀(d:AA Ul),Kb (rec99 d) 324 [.q 1 (map Ul.enc d),.f 325]](n:Nat)(d:Ul):Kb (Zi rec99 n d) 325 [Ul.val d]:=by
 exact Kg 8 func325 Z Z Z Z λr h=>Bd h λj g h=>Pc [] Z (Dc.fn call350 Z Z Z) ((kW rec99 _ _).c _ g) (hargs:=by first|exact Z|exact Eq.trans (by exact Z) (Jy _ (by simp[Q8,Yn,Ul.data])).symm) Z (Gt 5 Z h 2 [])
def pc(f:AA Ul)(rec99:(AA Ul)->AB Bool)(d:Int):AB (CJ Int (CJ Unit Int)):=(bif d<(AI f:Int) then AH (CN f d) λg=>AH (Zi rec99 n g) λh=>(bif h then AC (.d (.d d))else AC (.k (i64.wrap (d+1))))else AC (.d (.k ())))
def gX(rec99:(AA Ul)->AB Bool)(n:Nat)(g:AA Ul):AB Int:=AH (iter (pc n g rec99) n 0:AB (CJ Unit Int)) λf=>match f with|.k d=>(AC (-1))|.d d=>AC d
instance yP(rec99:(AA Ul)->AB Bool)[y:∀(f:AA Ul),Kb (rec99 f) 324 [.q 1 (map Ul.enc f),.f 325]](n:Nat)(f:AA Ul):Ki (gX rec99 n f) 349 [.q 1 (map Ul.enc f),.f 325]:=by
 refine Kg 9 func349 Z Z Z Z λr h=>Lg 3 Z Z (Bd h λB E h=>Hz (b:=B) [] [] Ze Ze Zf ?_ (λ_ F=>?_))
 .refine G0 1 Z (Lp [] [0,1,7] (λj=>[(8,I j)]) Ze E Zf (Lr []) λj H d g=>?_);refine G0 6 Z (Dm Z d (λ_ d=>?_) (λ_ d=>?_))
  .exact FS g d
  refine Gc 15 Z (Bd d λJ q d=>Iz q Z (Go 1 Z (Bd d λL t d=>Pc [] Z (aH call325 Z Z Z Z) ((ki rec99 _ _).c _ t) (hargs:=by first|exact Z|exact Eq.trans (by exact Z) (Jy _ (by simp[Q8,Yn,Ul.data])).symm) Z (Go 2 Z (Cn Z d (λ_ d=>?_) (λ_ d=>?_))))))
  .exact H9 g d h
  exact bu d
 subst F;exact bu h
def Zo(rec99:(AA Ul)->AB Bool)(n:Nat)(d:AA Ul):AB Bool:=AH (gX rec99 n d) λf=>AC (AG (0<=f))
theorem Qax(rec99:(AA Ul)->AB Bool)(f:∀(d:AA Ul),Kb (rec99 d) 324 [.q 1 (map Ul.enc d),.f 325])(n:Nat)(d:AA Ul):Kb (Zo rec99 n d) 324 [.q 1 (map Ul.enc d),.f 325]:=KB func324
def KO:Nat->(AA Ul)->AB Bool
  |0=>λ_=>AF
  |n+1=>Zo (KO n) n
instance AAi:∀(d:AA Ul),Kb (KO n d) 324 [.q 1 (map Ul.enc d),.f 325]:=by
  induction n with
  |zero=>exact λ_=>⟨nofun⟩
  |succ n ih=>exact Qax _ ih n
def gL(d:AA Ul):AB Int:=AH (gM n d 0 ({A8:=0,A9:=0:Uj})) λf=>(bif (!f.2)then AC 2 else AH ((bif ((AI d:Int)==0)then AC AE else AH (KO n d) λg=>AC g):AB Bool) λh=>(bif h then AC 71 else AC 0))
instance yF(d:AA Ul):Ki (gL n d) 274 [.q 1 (map Ul.enc d)]:=KB func274
def Wu(d:AA AX):AB Int:=AH (Mo n d) λf=>AH (gL n f) λg=>AC g
instance yx(d:AA AX):Ki (Wu n d) 158 [.q 8 (map AX.enc d)]:=KB func158
def MG(n:Nat)(f:CM)(g:AA Int)(d:(AA Int)×Int):AB (CJ ((AA Int)×Int) (CJ (AA Int) (CJ ((AA Int)×Int) (CJ (AA Int) (AA Int))))):=(bif d.2<(if f.Aj<1 then 1 else f.Aj) then(bif 256<(AI d.1:Int) then AC (.d (.d (.d (.d d.1))))else AH (app d.1 g) λh=>AC (.k (h,i64.wrap (d.2+1))))else AC (.d (.k d.1)))
def MJ(h:AA CM)(rec118:(AA CM)->AB (AA Int))(d:(AA Int)×Int):AB (CJ ((AA Int)×Int) (CJ (AA Int) (AA Int))):=(bif d.2<(AI h:Int) then AH (CN h d.2) λg=>AH ((bif 0<g.Aj then AH (rec118 g.Aa) λj=>AC j else AC [g.Af]):AB (AA Int)) λm=>AH (iter (MG n g m) n (d.1,0):AB (CJ (AA Int) (CJ ((AA Int)×Int) (CJ (AA Int) (AA Int))))) λq=>match q with|.k f=>(AC (.k (f,i64.wrap (d.2+1))))|.d f=>AC f else AC (.d (.k d.1)))
def jz(rec118:(AA CM)->AB (AA Int))(n:Nat)(g:AA CM):AB (AA Int):=AH (iter (MJ n g rec118) n ([],0):AB (CJ (AA Int) (AA Int))) λf=>match f with|.k d=>(AC d)|.d d=>AC d
theorem Qdn(rec118:(AA CM)->AB (AA Int))(t:∀(m:AA CM),Kr (rec118 m) 278 [.q 3 (map CM.enc m)] 3 1 eI)(n:Nat)(m:AA CM):Kr (jz rec118 n m) 278 [.q 3 (map CM.enc m)] 3 1 eI:=by
 exact Kg 0 func278 Z Z Z Z λr h=>by
  have:=hn 21204 [0] [] (λ(d:AA Int)=>[(2,.o 0 (AI d) 1)]) (λd=>[(0,.w (.r 3 1 (map eI d)))]);have:=hl 21204 [0] [6,7] (λ(g:(AA Int)×Int)=>[(2,.o 0 (AI g.1) 1),(8,I g.2)]) (λg=>[(0,.w (.r 3 1 (map eI g.1)))]);have:=hn 60101 [0,1,0] [2,4,6,7,8] (λ(q:AA Int)=>[(5,.o 2 (AI q) 1)]) (λq=>[(2,.w (.r 3 1 (map eI q)))]);have:=hn 80502 [0] [6,7,8] (λ(f:AA Int)=>[(2,.o 0 (AI f) 1)]) (λf=>[(0,.w (.r 3 1 (map eI f)))]);have:=hl 80502 [0,2] [5,6,7,8,23] (λ(j:(AA Int)×Int)=>[(2,.o 0 (AI j.1) 1),(24,I j.2)]) (λj=>[(0,.w (.r 3 1 (map eI j.1)))]);exact bu h
def UR:Nat->(AA CM)->AB (AA Int)
  |0=>λ_=>AF
  |n+1=>jz (UR n) n
instance k_x:∀(d:AA CM),Kr (UR n d) 278 [.q 3 (map CM.enc d)] 3 1 eI:=by
  induction n with
  |zero=>exact λ_=>⟨nofun⟩
  |succ n ih=>exact Qdn _ ih n
def PS(n:Nat)(d:CX)(f:AA (Int×Int)):AB Bool:=AH (AC (Qd f d.Af 0)) λg=>AC (AG (d.B9<=g))
instance zy(d:CX)(f:AA (Int×Int)):Ks (PS n d f) 279 [.a (CX.c d),.p 0 0] [.c 120 [.map 1],.map (Qi I I f)] (λr=>.b r):=by
 refine Kg 11 func279 Z Z Z Z λr h=>Bd h λj g h=>(vV (YO YY g EC EH Eo) ?_);exact bu h
def gV(d:CX)(f:AA (Int×Int)):AB Bool:=AH (PS n d f) λg=>AC (!g)
instance yN(d:CX)(f:AA (Int×Int)):Ks (gV n d f) 310 [.a (CX.c d),.p 0 0] [.c 380 [.fn (.func 279) [] [.p 1 0]],.c 120 [.map 2],.map (Qi I I f)] (λr=>.b r):=KB func310
def qL(f:AA CX)(j:AA (Int×Int))(d:Int):AB (CJ Int (CJ Unit Int)):=(bif d<(AI f:Int) then AH (CN f d) λg=>AH (gV n g j) λh=>(bif h then AC (.d (.d d))else AC (.k (i64.wrap (d+1))))else AC (.d (.k ())))
def gk(g:AA CX)(h:AA (Int×Int)):AB Int:=AH (iter (qL n g h) n 0:AB (CJ Unit Int)) λf=>match f with|.k d=>(AC (-1))|.d d=>AC d
instance yZ(d:AA CX)(f:AA (Int×Int)):Ks (gk n d f) 342 [.q 3 (map CX.c d),.fn (.func 310) [] [.p 0 0]] [.c 380 [.fn (.func 279) [] [.p 1 0]],.c 120 [.map 2],.map (Qi I I f)] (λr=>I r):=KB func342
def gK(d:AA CX)(f:AA (Int×Int)):AB Bool:=AH (gk n d f) λg=>AC (AG (0<=g))
instance yE(d:AA CX)(f:AA (Int×Int)):Ks (gK n d f) 309 [.q 3 (map CX.c d),.fn (.func 310) [] [.p 0 0]] [.c 380 [.fn (.func 279) [] [.p 1 0]],.c 120 [.map 2],.map (Qi I I f)] (λr=>.b r):=KB func309
def gC(d:AA CX)(f:AA (Int×Int)):AB Bool:=AH (gK n d f) λg=>AC (!g)
instance xz(d:AA CX)(f:AA (Int×Int)):Ks (gC n d f) 257 [.q 3 (map CX.c d),.fn (.func 279) [] [.p 0 0]] [.c 120 [.map 1],.map (Qi I I f)] (λr=>.b r):=KB func257
def K5(n:Nat)(y:CE)(B:AA (Uk×Bool))(g:AA Int)(d:(AA (Int×Int))×Int):AB (CJ ((AA (Int×Int))×Int) (CJ (AA (Int×Int)) Bool)):=(bif d.2<(AI g:Int) then AH (CN g d.2) λf=>AH (CN y.An f) λh=>AH ((bif ((h.AV==1) != (d.2==0))then AC AE else(bif ((h.AV==3) != (d.2==(i64.wrap ((AI g:Int)-1))))then AC AE else(bif 0<d.2 then AH (CN g (i64.wrap (d.2-1))) λj=>AH (AC (Qd B ({Be:=j,to_:=f:Uk}) AD)) λm=>AC (!m)else AC AD))):AB Bool) λq=>(bif q then AC (.d (.d AD))else AH (AC (Qd d.1 f 0)) λt=>AH (AC (QE d.1 f (i64.wrap (t+1)))) λx=>AC (.k (x,i64.wrap (d.2+1))))else AC (.d (.k d.1)))
def Pi(h:CE)(f:AN)(j:AA (Uk×Bool)):AB Bool:=AH (UR n f.Ab) λg=>AH ((bif (i64.wrap ((AI g:Int)-1))<1 then AC AE else AC (AG (256<=(i64.wrap ((AI g:Int)-1))))):AB Bool) λE=>(bif E then AC AD else AH (iter (K5 n h j g) n ([],0):AB (CJ (AA (Int×Int)) Bool)) λm=>match m with|.k d=>(AH ((bif 0<=f.Ae then AH (AC (Qd d f.Ae 0)) λq=>(bif (q==0)then AC AE else AH (CN h.An f.Ae) λt=>(bif (t.AV != 2)then AC AE else AH (AC (Qd j ({Be:=f.Ae,to_:=f.Ae:Uk}) AD)) λx=>AC (!x)))else AC AD):AB Bool) λy=>(bif y then AC AD else AH (gC n f.Am d) λB=>AC B))|.d d=>AC d)
instance _L(g:CE)(j:AN)(m:AA (Uk×Bool)):Ks (Pi n g j m) 161 [.a (CE.c g),.a (AN.c j),.map 0] [.map (Qi (λx=>A.a (Uk.c x)) A.b m)] (λr=>.b r):=by
 exact Kg 0 func161 Z Z Z Z λr h=>by
  have:=hn 30100 [0,1,2,3] [2,3,4,7,8] (λ(y:Bool)=>[(25,.b y)]) Ze;have:=hn 70702 [0,1,2,4,5] [2,3,4] (λ(_:AA (Int×Int))=>[(9,.p 3 0)]) (λf=>[(3,.w (.c 120 [.map 4])),(4,.w (.map (Qi I I f)))]);have:=hl 70702 [0,1,2,3,5,4] [2,3,4,7,8,9,27,28] (λ(d:(AA (Int×Int))×Int)=>[(29,I d.2)]) (λd=>[(5,.w (.map (Qi I I d.1)))]);have:=hn 100100 [0,1,2,3,4,5] [2,3,4,7,8,9,11,27,28,29] (λ(q:Bool)=>[(68,.b q)]) Ze;have:=hn 150100 [0,2,3,4] [4,9] (λ(t:Bool)=>[(100,.b t)]) Ze;exact bu h
def Ww(d:AN)(f:CE)(g:AA (Uk×Bool)):AB Bool:=AH (Pi n f d g) λh=>AC h
instance yz(d:AN)(f:CE)(g:AA (Uk×Bool)):Ks (Ww n d f g) 160 [.a (AN.c d),.p 0 0,.p 1 0] [.c 33 (CE.c f),.c 294 [.map 2],.map (Qi (λx=>A.a (Uk.c x)) A.b g)] (λr=>.b r):=KB func160
def gO(d:AN)(f:CE)(g:AA (Uk×Bool)):AB Bool:=AH (Ww n d f g) λh=>AC (!h)
instance yH(d:AN)(f:CE)(g:AA (Uk×Bool)):Ks (gO n d f g) 277 [.a (AN.c d),.p 0 0] [.c 299 [.fn (.func 160) [] [.p 1 0,.p 2 0]],.c 33 (CE.c f),.c 294 [.map 3],.map (Qi (λx=>A.a (Uk.c x)) A.b g)] (λr=>.b r):=KB func277
def pz(f:AA AN)(j:CE)(m:AA (Uk×Bool))(d:Int):AB (CJ Int (CJ Unit Int)):=(bif d<(AI f:Int) then AH (CN f d) λg=>AH (gO n g j m) λh=>(bif h then AC (.d (.d d))else AC (.k (i64.wrap (d+1))))else AC (.d (.k ())))
def gE(g:AA AN)(h:CE)(j:AA (Uk×Bool)):AB Int:=AH (iter (pz n g h j) n 0:AB (CJ Unit Int)) λf=>match f with|.k d=>(AC (-1))|.d d=>AC d
instance x_(d:AA AN)(f:CE)(g:AA (Uk×Bool)):Ks (gE n d f g) 326 [.q 5 (map AN.c d),.fn (.func 277) [] [.p 0 0]] [.c 299 [.fn (.func 160) [] [.p 1 0,.p 2 0]],.c 33 (CE.c f),.c 294 [.map 3],.map (Qi (λx=>A.a (Uk.c x)) A.b g)] (λr=>I r):=KB func326
def gr(d:AA AN)(f:CE)(g:AA (Uk×Bool)):AB Bool:=AH (gE n d f g) λh=>AC (AG (0<=h))
instance yd(d:AA AN)(f:CE)(g:AA (Uk×Bool)):Ks (gr n d f g) 276 [.q 5 (map AN.c d),.fn (.func 277) [] [.p 0 0]] [.c 299 [.fn (.func 160) [] [.p 1 0,.p 2 0]],.c 33 (CE.c f),.c 294 [.map 3],.map (Qi (λx=>A.a (Uk.c x)) A.b g)] (λr=>.b r):=KB func276
def Wv(d:AA AN)(f:CE)(g:AA (Uk×Bool)):AB Bool:=AH (gr n d f g) λh=>AC (!h)
instance yy(d:AA AN)(f:CE)(g:AA (Uk×Bool)):Ks (Wv n d f g) 159 [.q 5 (map AN.c d),.fn (.func 160) [] [.p 0 0,.p 1 0]] [.c 33 (CE.c f),.c 294 [.map 2],.map (Qi (λx=>A.a (Uk.c x)) A.b g)] (λr=>.b r):=KB func159
def PI(n:Nat)(g:CE)(d:(AA (Uk×Bool))×Int):AB (CJ ((AA (Uk×Bool))×Int) (AA (Uk×Bool))):=(bif d.2<(AI g.As:Int) then AH (CN g.As d.2) λf=>AH (AC (QE d.1 ({Be:=f.A5,to_:=f.To:Uk}) AE)) λh=>AC (.k (h,i64.wrap (d.2+1)))else AC (.d d.1))
def GA(d:CE):AB Int:=AH (P1 n d) λj=>(bif (!j)then AC 2 else AH (Za n d) λm=>(bif (!m)then AC 70 else AH (Rh n d) λq=>(bif (!q)then AC 71 else AH (Wu n d.BZ) λf=>(bif (f != 0)then AC f else AH (iter (PI n d) n ([],0):AB (AA (Uk×Bool))) λg=>AH (Wv n d.AO d g) λh=>(bif (!h)then AC 72 else AC 0)))))
instance k_d(f:CE):Ki (GA n f) 84 [.a (CE.c f)]:=by
 exact Kg 0 func84 Z Z Z Z λr h=>by
  have:=hn 120401 [0,1,2] [1] (λ(_:AA (Uk×Bool))=>[(3,.p 1 0)]) (λg=>[(1,.w (.c 294 [.map 2])),(2,.w (.map (Qi (λx=>A.a (Uk.c x)) A.b g)))]);have:=hl 120401 [0,2,1] [1,3,26,27] (λ(d:(AA (Uk×Bool))×Int)=>[(28,I d.2)]) (λd=>[(2,.w (.map (Qi (λx=>A.a (Uk.c x)) A.b d.1)))]);exact bu h
def IK(n:Nat)(d:Int):AB Bool:=AH ((bif (-1099511627776)<=d then AC (AG (d<=1099511627776))else AC AD):AB Bool) λf=>AC f
instance AAU(d:Int):Kb (IK n d) 116 [I d]:=KB func116
def RD(n:Nat)(d:Int):AB Unit:=AC ()
instance _p(d:Int):Ks (RD n d) 122 [I d] [] (λ_=>.b (d != d)):=KB func122
def Ky(f:Int)(d:Int):AB Int:=AH (RD n f) λg=>AH (RD n d) λh=>(bif (f != f)then(bif (d != d)then AC 0 else AC (-1))else(bif (d != d)then AC 1 else(bif f<d then AC (-1)else(bif d<f then AC 1 else AC 0))))
instance k_u(d:Int)(f:Int):Ki (Ky n d f) 61 [I d,I f]:=KB func61
def IG(n:Nat)(g:AA Int)(d:Int):AB (CJ Int (CJ Unit Int)):=(bif d<(AI g:Int) then AH (CN g d) λf=>(bif (f != 0)then AC (.d (.d f))else AC (.k (i64.wrap (d+1))))else AC (.d (.k ())))
def KG(f:AA Int):AB Int:=AH (iter (IG n f) n 0:AB (CJ Unit Int)) λg=>match g with|.k d=>(AC 0)|.d d=>AC d
instance AAH(d:AA Int):Ki (KG n d) 60 [.q 1 (map eI d)]:=KB func60
def ZV(d:Ua)(f:Ua):AB Int:=AH (Ky n d.mat f.mat) λg=>AH (Ky n d.BC f.BC) λh=>AH (KG n [g,h]) λj=>AC j
instance zh(d:Ua)(f:Ua):Ki (ZV n d f) 203 [.a [I d.mat,I d.BC],.a [I f.mat,I f.BC]]:=KB func203
def M4(d:CF)(f:CF):AB Int:=AH (ZV n ({mat:=d.Af,BC:=d.Ad:Ua}) ({mat:=f.Af,BC:=f.Ad:Ua})) λg=>AC g
instance l?(d:CF)(f:CF):Ki (M4 n d f) 117 [.a (CF.c d),.a (CF.c f)]:=KB func117
def Pf(n:Nat)(d:Int):AB Bool:=AH ((bif d<(-2199023255552) then AC AE else AC (AG (2199023255552<d))):AB Bool) λf=>AC f
instance _I(d:Int):Kb (Pf n d) 119 [I d]:=KB func119
def qQ(f:AA Int)(d:Int):AB (CJ Int (CJ Unit Int)):=(bif d<(AI f:Int) then AH (CN f d) λg=>AH (Pf n g) λh=>(bif h then AC (.d (.d d))else AC (.k (i64.wrap (d+1))))else AC (.d (.k ())))
def Wl(g:AA Int):AB Int:=AH (iter (qQ n g) n 0:AB (CJ Unit Int)) λf=>match f with|.k d=>(AC (-1))|.d d=>AC d
instance yp(d:AA Int):Ki (Wl n d) 204 [.q 1 (map eI d),.f 119]:=KB func204
end Go.Sw
