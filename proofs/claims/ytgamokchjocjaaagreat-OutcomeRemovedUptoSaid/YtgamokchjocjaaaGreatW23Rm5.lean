/- What the functions compute that OutcomeRemoved reaches, and that their calls refine it (part 5 of 6). -/
import Derived.Test.YtgamokchjocjaaaGreatW23Rm4
set_option linter.unusedVariables false
set_option linter.unusedSimpArgs false
set_option maxRecDepth 100000
set_option maxHeartbeats 4000000
namespace Go.Sw
open Option renaming some→AC,none→AF,bind→AH
open Bool renaming false→AD,true→AE
open Decidable renaming decide→AG
open List renaming length→AI
open Go renaming Value→AL
variable (n:Nat)
open List(map)
open Int(toNat)
open Go.IntKind(i64 u64 u8)
open Go.Proofs Tryz
def TB(f:CB)(d:Int):AB (CG Int (CG Unit Bool)):=(bif d<(AI f.AO:Int) then AH (AH (CJ f.AO d) λg=>AH (MT n g.Ad 0) λh=>(bif 24<h then AC AE else AH (CJ f.AO d) λj=>(bif 12<(AI j.Ar:Int) then AC AE else AH (CJ f.AO d) λk=>AC (AG (60<(AI k.Ap:Int))))):AB Bool) λm=>(bif m then AC (.d (.d AD))else AC (.k (i64.wrap (d+1))))else AC (.d (.k ())))
def TU(n:Nat)(f:CB)(d:Int):AB (CG Int (CG Unit Bool)):=(bif d<(AI f.Au:Int) then AH (CJ f.Au d) λg=>(bif 60<(AI g.Ap:Int) then AC (.d (.d AD))else AC (.k (i64.wrap (d+1))))else AC (.d (.k ())))
def OQ(d:CB):AB Bool:=AH (iter (TB n d) n 0:AB (CG Unit Bool)) λh=>match h with|.k f=>(AH (iter (TU n d) n 0:AB (CG Unit Bool)) λj=>match j with|.k g=>(AH ((bif 12<(AI d.Au:Int) then AC AE else(bif 30<(AI d.Az:Int) then AC AE else(bif 4<(AI d.AO:Int) then AC AE else(bif 6<(AI d.A0:Int) then AC AE else(bif 6<(AI d.Ab:Int) then AC AE else(bif 6<(AI d.AV:Int) then AC AE else(bif 6<(AI d.Ay:Int) then AC AE else AC (AG (60<(AI d.Ap:Int)))))))))):AB Bool) λk=>(bif k then AC AD else AH (MX n d.BL 0) λm=>AC (AG (m<=100))))|.d g=>AC g)|.d f=>AC f
instance wT(d:CB):Ks (OQ n d) 63 [.a (CB.c d)] [] (λr=>.b r):=KA func63
def dz(n:Nat)(m:AA CH)(g:(AA Int)×Int)(f:AA Int)(d:(AA Int)×Int):AB (CG ((AA Int)×Int) (AA Int)):=AH (AH (CJ m g.2) λh=>(bif d.2<h.As then(bif 0<(AI f:Int) then AC (AG ((AI d.1:Int)<=300))else AC AD)else AC AD):AB Bool) λj=>(bif j then AH (app d.1 f) λk=>AC (.k (k,i64.wrap (d.2+1)))else AC (.d d.1))
def Tl(f:AA CH)(rec243:(AA CH)->AB (AA Int))(d:(AA Int)×Int):AB (CG ((AA Int)×Int) (AA Int)):=(bif d.2<(AI f:Int) then AH (AH (CJ f d.2) λg=>(bif (g.As==0)then AH (CJ f d.2) λh=>AH (app d.1 [h.Am]) λj=>AC j else AH (CJ f d.2) λk=>AH (rec243 k.Ac) λm=>AH (iter (dz n f d m) n (d.1,0):AB (AA Int)) λq=>AC q):AB (AA Int)) λt=>AC (.k (t,i64.wrap (d.2+1)))else AC (.d d.1))
def iK(rec243:(AA CH)->AB (AA Int))(n:Nat)(f:AA CH):AB (AA Int):=AH (iter (Tl n f rec243) n (([]:AA Int),0):AB (AA Int)) λd=>AC d
theorem QaX(rec243:(AA CH)->AB (AA Int))(ac:∀(z:AA CH),Kq (rec243 z) 64 [.q 3 (map CH.enc z)] [] (λr=>.o 0 (AI r) 1) (λr=>[.r 3 1 (map (Qe .i64) r)]))(n:Nat)(z:AA CH):Kq (iK rec243 n z) 64 [.q 3 (map CH.enc z)] [] (λr=>.o 0 (AI r) 1) (λr=>[.r 3 1 (map (Qe .i64) r)]):=by
 refine Kg 7 func64 Z Z Z Z λr h=>vH (El (xs:=[]) (es:=map (Qe .i64) []) Qu Z Z Z Z Z trivial Z Z) ?_;refine Fg 9 Z Z (Bd h λk W h=>Cg k [0] [] (λk=>[(3,.o 0 (AI k) 1)]) (λk=>[(0,.r 3 1 (map (Qe .i64) k))]) Zf ?_ ?_)
 .refine G0 1 Z (Lp [0] [0] (λm=>[(3,.o 0 (AI m.1) 1),(4,I m.2)]) (λm=>[(0,.r 3 1 (map (Qe .i64) m.1))]) W Zf (Lr [0]) λm ae g F=>?_);refine G0 5 Z (Lg 3 Z Z (Q7 Z g (λ_ g=>?_) (λ_ g=>?_)))
  .exact Gc 2 Z (QI g (Gx 1 Z (DU F g (Lr [0]))))
  refine Gc 3 Z (Bd g λq d g=>Cg q [0] [0,4] (λq=>[(3,.o 0 (AI q) 1)]) (λq=>[(0,.r 3 1 (map (Qe .i64) q))]) Zf ?_ ?_)
  .refine G0 6 Z (Bd d λX J d=>FJ J (QL X) Z (Go 5 Z (Cn Z d (λ_ d=>?_) (λ_ d=>?_))))
   .refine Gc 5 Z (Bd d λB M d=>FJ M (QL B) Z (Go 2 Z (vH (El (xs:=[.tmp 25]) (es:=map (Qe .i64) [B.Am]) Qu Z Z Z Z Z ⟨Z,trivial⟩ Z Z) ?_)));refine FE Z (Bd d λaf N d=>vH (Ql (e:=(Qe .i64)) N Qu EC (QE (i:=1))) ?_);exact au d
   refine Gc 6 Z (Bd d λY O d=>FJ O (QL Y) Z (Go 2 Z (Cd [] d Kc Z λag ad d=>Fg 8 Z Z (Bd d λt aa d=>Ct t [0] [0,4] (λt=>[(3,.o 0 (AI t) 1)]) (λt=>[(0,.r 3 1 (map (Qe .i64) t))]) Zf ?_ (λenv H E=>?_)))))
   .refine G0 1 Z (Lp [0,1] [0,4,5] (λx=>[(3,.o 0 (AI x.1) 1),(6,I x.2)]) (λx=>[(0,.r 3 1 (map (Qe .i64) x.1))]) aa Zf (Lr [0,1]) λx ah f P=>?_);refine G0 2 Z (Bd f λy j f=>Ct y [0,1] [0,3,4,5,6] (λy=>[(50,.b y)]) Ze Zf ?_ (λenv H E=>?_))
    .refine G0 4 Z (Bd j λab Q j=>FJ Q (QL ab) Z (Go 4 Z (Is 41 j Z (λ_ j=>?_) (λ_ j=>?_))))
     iterate 2 exact au j
    refine Gx 1 Z (Ef E (Q7 Z f (λ_ f=>?_) (λ_ f=>?_)))
    .exact Gc 2 Z (QI f (Gx 1 Z (DU P f (Lr [0]))))
    refine Gc 7 Z (Bd f λai V f=>vH (Ql (e:=(Qe .i64)) V Qu EC (QE (i:=1))) ?_);exact au f
   refine Gx 1 Z ?_;cases d;exact NS (Eo E (Lr [0]))
  exact au g
 exact au h
def RT:Nat->(AA CH)->AB (AA Int)
  |0=>λ_=>AF
  |n+1=>iK (RT n) n
instance k_o:∀(d:AA CH),Kq (RT n d) 64 [.q 3 (map CH.enc d)] [] (λr=>.o 0 (AI r) 1) (λr=>[.r 3 1 (map (Qe .i64) r)]):=by
  induction n with
  |zero=>exact λ_=>⟨nofun⟩
  |succ n ih=>exact QaX _ ih n
def UM(f:CB)(j:Int)(d:Int):AB (CG Int (CG Unit Bool)):=(bif d<(AI f.AO:Int) then AH (CJ f.AO d) λg=>AH (RT n g.Ad) λh=>(bif j<(AI h:Int) then AC (.d (.d AD))else AC (.k (i64.wrap (d+1))))else AC (.d (.k ())))
def N7(f:CB)(h:Int):AB Bool:=AH (OQ n f) λj=>(bif (!j)then AC AD else AH (iter (UM n f h) n 0:AB (CG Unit Bool)) λg=>match g with|.k d=>(AC AE)|.d d=>AC d)
instance v_(d:CB)(f:Int):Ks (N7 n d f) 19 [.a (CB.c d),I f] [] (λr=>.b r):=KA func19
def Fe(n:Nat)(d:Int)(f:Int)(g:Int):AB Bool:=AH ((bif f<=d then AC (AG (d<=g))else AC AD):AB Bool) λh=>AC h
instance yT(d:Int)(f:Int)(g:Int):Ks (Fe n d f g) 134 [I d,I f,I g] [] (λr=>.b r):=KA func134
def ML(d:Int):AB Bool:=AH (Fe n d 0 31) λf=>AC f
instance jA(d:Int):Ks (ML n d) 132 [I d] [] (λr=>.b r):=KA func132
def MN(d:Int):AB Bool:=AH (Fe n d 1 1048576) λf=>AC f
instance jG(d:Int):Ks (MN n d) 133 [I d] [] (λr=>.b r):=KA func133
def K5(d:Int):AB Bool:=AH (Fe n d 1 9999) λf=>AC f
instance k_u(d:Int):Ks (K5 n d) 203 [I d] [] (λr=>.b r):=KA func203
def IX(d:Int):AB Bool:=AH (Fe n d (-1099511627776) 1099511627776) λf=>AC f
instance k_g(d:Int):Ks (IX n d) 201 [I d] [] (λr=>.b r):=KA func201
def ME(d:Int):AB Bool:=AH (Fe n d 0 1048576) λf=>AC f
instance xo(d:Int):Ks (ME n d) 200 [I d] [] (λr=>.b r):=KA func200
def On(d:AP):AB Bool:=AH (AH (K5 n d.BT) λf=>(bif f then AH (Fe n d.AN 0 7) λg=>(bif g then AH (Fe n d.A3 0 31) λh=>(bif h then AH (IX n d.BM) λj=>(bif j then AH (Fe n d.B4 0 120) λk=>(bif k then AH (ME n d.BA) λm=>(bif m then AH (Fe n d.Bl 0 9999) λq=>(bif q then AH (Fe n d.B5 0 1048576) λt=>AC t else AC AD)else AC AD)else AC AD)else AC AD)else AC AD)else AC AD)else AC AD):AB Bool) λx=>AC x
instance wu(d:AP):Ks (On n d) 197 [.a (AP.c d)] [] (λr=>.b r):=KA func197
def IJ(d:Int):AB Bool:=AH (Fe n d 0 39) λf=>AC f
instance yS(d:Int):Ks (IJ n d) 198 [I d] [] (λr=>.b r):=KA func198
def II(d:Int):AB Bool:=AH (Fe n d 0 255) λf=>AC f
instance yR(d:Int):Ks (II n d) 199 [I d] [] (λr=>.b r):=KA func199
def N8(d:An):AB Bool:=AH (AH (IJ n d.Bs) λf=>(bif f then AH (IJ n d.Br) λg=>(bif g then AH (II n d.Bg) λh=>(bif h then AH (II n d.Bf) λj=>(bif j then AH (IX n d.BZ) λk=>(bif k then AH (IX n d.BY) λm=>(bif m then AH (IX n d.Bp) λq=>(bif q then AH (IX n d.Bq) λt=>(bif t then AC (AG (d.Bp<=d.Bq))else AC AD)else AC AD)else AC AD)else AC AD)else AC AD)else AC AD)else AC AD)else AC AD):AB Bool) λx=>AC x
instance wA(d:An):Ks (N8 n d) 202 [.a (An.c d)] [] (λr=>.b r):=KA func202
def IH(d:Int):AB Bool:=AH (Fe n d 0 255) λf=>AC f
instance yQ(d:Int):Ks (IH n d) 204 [I d] [] (λr=>.b r):=KA func204
def I0(d:Int):AB Bool:=AH (Fe n d 1 1048576) λf=>AC f
instance yF(d:Int):Ks (I0 n d) 205 [I d] [] (λr=>.b r):=KA func205
def OA(d:Af):AB Bool:=AH (AH (I0 n d.BI) λF=>(bif (!F)then AC AE else AH (Fe n d.BU 1 2) λG=>AC (!G)):AB Bool) λH=>(bif H then AC AD else AH ((bif (d.AY==1)then AC (d.AY==1)else AC (d.AY==2)):AB Bool) λf=>(bif f then AH ((bif (d.BT==0)then(bif (d.AT==0)then AC (d.BP==0)else AC AD)else AC AD):AB Bool) λg=>AC g else(bif (d.AY==3)then AH (AH (K5 n d.BT) λh=>(bif h then AH (IH n d.AT) λj=>(bif j then AH (Fe n d.BP 1 1099511627776) λk=>AC k else AC AD)else AC AD):AB Bool) λm=>AC m else(bif (d.AY==4)then AH (AH (K5 n d.BT) λq=>(bif q then AH (IH n d.AT) λt=>(bif t then AH (Fe n d.BP 1 64) λx=>AC x else AC AD)else AC AD):AB Bool) λy=>AC y else(bif (d.AY==5)then AH (AH (K5 n d.BT) λz=>(bif z then AH (IH n d.AT) λB=>(bif B then AC (d.BP==0)else AC AD)else AC AD):AB Bool) λE=>AC E else AC AD)))))
instance wE(k:Af):Ks (OA n k) 206 [.a (Af.c k)] [] (λr=>.b r):=by
 refine Kg 8 func206 Z Z Z Z λr h=>Bd h λg t h=>Ct g [0] [1] (λg=>[(12,.b g)]) Ze Zf ?_ (λenv H d=>?_)
 .exact au t
 refine Gx 1 Z (Ef d (Cn Z h (λ_ h=>?_) (λ_ h=>?_)))
 .exact au h
 refine Gc 17 Z (Bd h λf q h=>Ct f [0] [1,14] (λf=>[(15,.b f)]) Ze Zf ?_ (λenv H d=>?_))
 .exact au q
 refine Gx 1 Z (Ef d (Cn Z h (λ_ h=>?_) (λ_ h=>?_)))
 iterate 2 exact au h
def PO(d:CI):AB Bool:=(bif (d.AY==1)then AH (On n d.AP) λr2=>AC r2 else(bif (d.AY==2)then AH (AH (IJ n d.A5.Am) λJ=>(bif J then AH (II n d.A5.Ag) λL=>(bif L then AH (ME n d.A5.BA) λM=>(bif M then AH (IX n d.A5.BB) λN=>AC N else AC AD)else AC AD)else AC AD):AB Bool) λO=>AC O else(bif (d.AY==3)then AH (AH (IJ n d.Aa.Am) λP=>(bif P then AH (II n d.Aa.Ag) λQ=>(bif Q then AH (IX n d.Aa.BB) λR=>(bif R then AH (IX n d.Aa.True) λT=>(bif T then AH (Fe n d.Aa.B7 0 1099511627776) λV=>AC V else AC AD)else AC AD)else AC AD)else AC AD):AB Bool) λW=>AC W else(bif (d.AY==4)then AH (N8 n d.An) λX=>AC X else(bif (d.AY==5)then AH (AH (K5 n d.Ae.BT) λY=>(bif Y then AH (IH n d.Ae.AT) λaa=>(bif aa then AH (IX n d.Ae.Lo) λab=>(bif ab then AH (IX n d.Ae.Hi) λac=>(bif ac then AC (AG (d.Ae.Lo<=d.Ae.Hi))else AC AD)else AC AD)else AC AD)else AC AD):AB Bool) λad=>AC ad else(bif (d.AY==6)then AH (AH (IJ n d.Aq.Am) λae=>(bif ae then AH (II n d.Aq.Ag) λaf=>(bif af then AH (IX n d.Aq.Lo) λag=>(bif ag then AH (IX n d.Aq.Hi) λah=>(bif ah then AC (AG (d.Aq.Lo<=d.Aq.Hi))else AC AD)else AC AD)else AC AD)else AC AD):AB Bool) λai=>AC ai else(bif (d.AY==7)then AH (AH (K5 n d.Bc.A) λaj=>(bif aj then AH (K5 n d.Bc.B) λak=>(bif ak then AC (AG (d.Bc.A<d.Bc.B))else AC AD)else AC AD):AB Bool) λal=>AC al else(bif (d.AY==8)then AH (AH (I0 n d.Ai.BI) λf=>(bif f then AH (K5 n d.Ai.BT) λg=>(bif g then AH (Fe n d.Ai.AZ 0 31) λh=>(bif h then AH (IH n d.Ai.AT) λj=>AC j else AC AD)else AC AD)else AC AD):AB Bool) λk=>AC k else(bif (d.AY==9)then AH (AH (I0 n d.Av.BI) λm=>(bif m then AH (Fe n d.Av.By 0 9999) λq=>(bif q then AH (Fe n d.Av.Bk 0 1125899906842624) λt=>(bif t then AH (Fe n d.Av.B2 0 1) λx=>AC x else AC AD)else AC AD)else AC AD):AB Bool) λy=>AC y else(bif (d.AY==10)then AH (OA n d.Af) λz=>AC z else(bif (d.AY==11)then AH (I0 n d.BC.BI) λE=>AC E else(bif (d.AY==12)then AC AE else(bif (d.AY==13)then AH (AH (ML n d.Bo.BD) λF=>(bif F then AH (MN n d.Bo.No) λG=>AC G else AC AD):AB Bool) λH=>AC H else AC AD)))))))))))))
instance iy(f:CI):Ks (PO n f) 135 [.a (CI.c f)] [] (λr=>.b r):=by
 refine Kg 20 func135 Z Z Z Z λr h=>Cn Z h (λ_ h=>?_) (λ_ h=>?_)
 .exact au h
 iterate 2 (refine Gc 6 Z (Cn Z h (λ_ h=>?_) (λ_ h=>?_));exact au h)
 exact au h
def PM(n:Nat)(d:CI):AB CI:=AH ((bif (d.AY==1)then AC ({Uv with BD:=d.BD,No:=d.No,At:=d.At,AY:=d.AY,AP:=d.AP:CI})else(bif (d.AY==2)then AC ({Uv with BD:=d.BD,No:=d.No,At:=d.At,AY:=d.AY,A5:=d.A5:CI})else(bif (d.AY==3)then AC ({Uv with BD:=d.BD,No:=d.No,At:=d.At,AY:=d.AY,Aa:=d.Aa:CI})else(bif (d.AY==4)then AC ({Uv with BD:=d.BD,No:=d.No,At:=d.At,AY:=d.AY,An:=d.An:CI})else(bif (d.AY==5)then AC ({Uv with BD:=d.BD,No:=d.No,At:=d.At,AY:=d.AY,Ae:=d.Ae:CI})else(bif (d.AY==6)then AC ({Uv with BD:=d.BD,No:=d.No,At:=d.At,AY:=d.AY,Aq:=d.Aq:CI})else(bif (d.AY==7)then AC ({Uv with BD:=d.BD,No:=d.No,At:=d.At,AY:=d.AY,Bc:=d.Bc:CI})else(bif (d.AY==8)then AC ({Uv with BD:=d.BD,No:=d.No,At:=d.At,AY:=d.AY,Ai:=d.Ai:CI})else(bif (d.AY==9)then AC ({Uv with BD:=d.BD,No:=d.No,At:=d.At,AY:=d.AY,Av:=d.Av:CI})else(bif (d.AY==10)then AC ({Uv with BD:=d.BD,No:=d.No,At:=d.At,AY:=d.AY,Af:=d.Af:CI})else(bif (d.AY==11)then AC ({Uv with BD:=d.BD,No:=d.No,At:=d.At,AY:=d.AY,BC:=d.BC:CI})else(bif (d.AY==13)then AC ({Uv with BD:=d.BD,No:=d.No,At:=d.At,AY:=d.AY,Bo:=d.Bo:CI})else AC ({Uv with BD:=d.BD,No:=d.No,At:=d.At,AY:=d.AY:CI}))))))))))))):AB CI) λf=>AC f
instance iv(f:CI):Kq (PM n f) 136 [.a (CI.c f)] [] (λr=>.a (CI.c r)) (λr=>[.c 107 (CI.c r)]):=by
 refine Kg 35 func136 Z Z Z Z λr h=>Bd h λd g h=>Ct d [1,2] [2,3] Ze (λd=>[(1,.c 107 (CI.c d))]) Zf ?_ (λenv H j=>?_)
 .exact au g
 refine Gx 2 Z (Ef j (Gc 7 Z ?_));exact au h
def MC(d:CI):AB Int:=AH (AH (ML n d.BD) λf=>(bif (!f)then AC AE else AH (MN n d.No) λg=>(bif (!g)then AC AE else AH (Fe n d.At 0 1099511627776) λh=>(bif (!h)then AC AE else AH (PO n d) λj=>(bif (!j)then AC AE else AH (PM n d) λk=>AC (d != k))))):AB Bool) λm=>(bif m then AC 120 else AC 0)
instance xm(g:CI):Ks (MC n g) 73 [.a (CI.c g)] [] (λr=>I r):=by
 refine Kg 8 func73 Z Z Z Z λr h=>Bd h λj d h=>Cg j [] [] (λj=>[(29,.b j)]) Ze Zf ?_ ?_
 .refine G0 0 Z (HF 25 [24] [(0,0,0),(0,0,0),(0,0,0),(0,0,0),(0,0,0),(0,0,0),(0,0,0),(0,0,0),(0,0,0),(0,0,0),(0,0,0),(0,0,0),(0,0,0),(0,0,0),(0,0,0),(0,0,0),(0,0,0),(0,0,0),(0,0,0),(0,0,0),(0,0,0),(0,0,0),(0,0,1),(0,0,0),(1,0,0)] (by kernel_rfl) (Dk 2 Z ?_));obtain⟨H,k,d⟩:=QF d;refine DK.wo (x:=.b H) ?_ ?_
  .exact Pc [] Z (C6.fn call132 Z Z Z) ((jA _ _).c _ k) Z Wp
  refine Dk 2 Z (DK.is 4 d Z Z Z (λ_ d=>?_) (λ_ d=>?_))
  .exact Dk 20 Z (DK.done Z Z (Gl 3 Z d []))
  .refine Dk 2 Z ?_;obtain⟨J,t,d⟩:=QF d;refine DK.wo (x:=.b J) ?_ ?_
   .exact Pc [] Z (C6.fn call133 Z Z Z) ((jG _ _).c _ t) (hg:=(gT Z)) Z Wp
   refine Dk 3 Z (DK.is 10 d Z Z Z (λ_ d=>?_) (λ_ d=>?_))
   .exact Dk 14 Z (DK.done Z Z (Gl 3 Z d []))
   .refine Dk 2 Z ?_;obtain⟨L,z,d⟩:=QF d;refine DK.wo (x:=.b L) ?_ ?_
    .exact Pc [] Z (C6.fn call134 Z Z Z) ((yT _ _ _ _).c _ z) (hg:=(gT Z)) Z Wp
    refine Dk 3 Z (DK.is 16 d Z Z Z (λ_ d=>?_) (λ_ d=>?_))
    .exact Dk 8 Z (DK.done Z Z (Gl 3 Z d []))
    .refine Dk 1 Z ?_;obtain⟨M,E,d⟩:=QF d;refine DK.wo (x:=.b M) ?_ ?_
     .exact Pc [] Z (C6.fn call135 Z Z Z) ((iy _ _).c _ E) (hg:=(gT Z)) Z Wp
     refine Dk 3 Z (DK.is 21 d Z Z Z (λ_ d=>?_) (λ_ d=>?_))
     .exact Dk 3 Z (DK.done Z Z (Gl 3 Z d []))
     .refine JR (lo:=0) (x:=.a (CI.c g)) ⟨Z,trivial⟩ ?_;refine Dk 1 Z ?_;obtain⟨f,G,d⟩:=QF d;refine Ey (x:=.a (CI.c f)) (X1:=[.c 107 (CI.c g),.c 107 (CI.c f)]) ?_ ?_
      .refine Qh [] (C6.fn call136 Z Z Z) ((iv _ _).c _ G) ?_ (hg:=(gT Z));rintro _ _ ⟨rfl,rfl⟩;exact FE Z Wp
      refine DK.done Z Z ?_;refine vX (.b (g != f)) (rK (p:=g) (q:=f) pB Z Z) ?_ (gT Z);exact Gl 2 Z d []
 exact au h
def OS(n:Nat)(d:CI):AB (AA Int):=(bif (d.AY==1)then AH (app [d.AY,d.BD,d.No,d.At] [d.AP.BT,d.AP.AN,d.AP.A3,d.AP.BM,d.AP.B4,d.AP.BA,d.AP.Bl,d.AP.B5]) λy=>AC y else(bif (d.AY==2)then AH (app [d.AY,d.BD,d.No,d.At] [d.A5.Am,d.A5.Ag,d.A5.BA,d.A5.BB]) λz=>AC z else(bif (d.AY==3)then AH (app [d.AY,d.BD,d.No,d.At] [d.Aa.Am,d.Aa.Ag,d.Aa.BB,d.Aa.True,d.Aa.B7]) λE=>AC E else(bif (d.AY==4)then AH (app [d.AY,d.BD,d.No,d.At] [d.An.Bs,d.An.Bg,d.An.BZ,d.An.Br,d.An.Bf,d.An.BY,d.An.Bp,d.An.Bq]) λF=>AC F else(bif (d.AY==5)then AH (app [d.AY,d.BD,d.No,d.At] [d.Ae.BT,d.Ae.AT,d.Ae.Lo,d.Ae.Hi]) λf=>AC f else(bif (d.AY==6)then AH (app [d.AY,d.BD,d.No,d.At] [d.Aq.Am,d.Aq.Ag,d.Aq.Lo,d.Aq.Hi]) λg=>AC g else(bif (d.AY==7)then AH (app [d.AY,d.BD,d.No,d.At] [d.Bc.A,d.Bc.B]) λh=>AC h else(bif (d.AY==8)then AH (app [d.AY,d.BD,d.No,d.At] [d.Ai.BI,d.Ai.BT,d.Ai.AZ,d.Ai.AT]) λj=>AC j else(bif (d.AY==9)then AH (app [d.AY,d.BD,d.No,d.At] [d.Av.BI,d.Av.By,d.Av.Bk,d.Av.B2]) λk=>AC k else(bif (d.AY==10)then AH (app [d.AY,d.BD,d.No,d.At] [d.Af.BI,d.Af.BU,d.Af.AY,d.Af.BT,d.Af.AT,d.Af.BP]) λm=>AC m else(bif (d.AY==11)then(bif d.BC.Bi then AH (app [d.AY,d.BD,d.No,d.At] [d.BC.BI,1]) λq=>AC q else AH (app [d.AY,d.BD,d.No,d.At] [d.BC.BI,0]) λt=>AC t)else(bif (d.AY==13)then AH (app [d.AY,d.BD,d.No,d.At] [d.Bo.BD,d.Bo.No]) λx=>AC x else AC [d.AY,d.BD,d.No,d.At]))))))))))))
instance wV(d:CI):Kq (OS n d) 209 [.a (CI.c d)] [] (λr=>.o 0 (AI r) 1) (λr=>[.r 3 1 (map (Qe .i64) r)]):=by
 refine Kg 16 func209 Z Z Z Z λr h=>vH (El (xs:=[.tmp 14,.tmp 16,.tmp 18,.tmp 20]) (es:=map (Qe .i64) [d.AY,d.BD,d.No,d.At]) Qu Z Z Z Z Z ⟨Z,Z,Z,Z,trivial⟩ Z Z) ?_;refine Fg 17 Z Z (Cn Z h (λ_ h=>?_) (λ_ h=>?_))
 .refine Gc 27 Z (vH (El (xs:=[.tmp 30,.tmp 32,.tmp 34,.tmp 36,.tmp 38,.tmp 40,.tmp 42,.tmp 44]) (es:=map (Qe .i64) [d.AP.BT,d.AP.AN,d.AP.A3,d.AP.BM,d.AP.B4,d.AP.BA,d.AP.Bl,d.AP.B5]) Qu Z Z Z Z Z ⟨Z,Z,Z,Z,Z,Z,Z,Z,trivial⟩ Z Z) ?_);refine FE Z (Bd h λl2 O h=>vH (Ql (e:=(Qe .i64)) O Qu EC (QE (i:=3))) ?_);exact au h
 refine Gc 6 Z (Cn Z h (λ_ h=>?_) (λ_ h=>?_))
 .refine Gc 19 Z (vH (El (xs:=[.tmp 53,.tmp 55,.tmp 57,.tmp 59]) (es:=map (Qe .i64) [d.A5.Am,d.A5.Ag,d.A5.BA,d.A5.BB]) Qu Z Z Z Z Z ⟨Z,Z,Z,Z,trivial⟩ Z Z) ?_);refine FE Z (Bd h λl4 Q h=>vH (Ql (e:=(Qe .i64)) Q Qu EC (QE (i:=3))) ?_);exact au h
 refine Gc 6 Z (Cn Z h (λ_ h=>?_) (λ_ h=>?_))
 .refine Gc 21 Z (vH (El (xs:=[.tmp 68,.tmp 70,.tmp 72,.tmp 74,.tmp 76]) (es:=map (Qe .i64) [d.Aa.Am,d.Aa.Ag,d.Aa.BB,d.Aa.True,d.Aa.B7]) Qu Z Z Z Z Z ⟨Z,Z,Z,Z,Z,trivial⟩ Z Z) ?_);refine FE Z (Bd h λl6 T h=>vH (Ql (e:=(Qe .i64)) T Qu EC (QE (i:=3))) ?_);exact au h
 refine Gc 6 Z (Cn Z h (λ_ h=>?_) (λ_ h=>?_))
 .refine Gc 27 Z (vH (El (xs:=[.tmp 85,.tmp 87,.tmp 89,.tmp 91,.tmp 93,.tmp 95,.tmp 97,.tmp 99]) (es:=map (Qe .i64) [d.An.Bs,d.An.Bg,d.An.BZ,d.An.Br,d.An.Bf,d.An.BY,d.An.Bp,d.An.Bq]) Qu Z Z Z Z Z ⟨Z,Z,Z,Z,Z,Z,Z,Z,trivial⟩ Z Z) ?_);refine FE Z (Bd h λl8 W h=>vH (Ql (e:=(Qe .i64)) W Qu EC (QE (i:=3))) ?_);exact au h
 refine Gc 6 Z (Cn Z h (λ_ h=>?_) (λ_ h=>?_))
 .refine Gc 19 Z (vH (El (xs:=[.tmp 108,.tmp 110,.tmp 112,.tmp 114]) (es:=map (Qe .i64) [d.Ae.BT,d.Ae.AT,d.Ae.Lo,d.Ae.Hi]) Qu Z Z Z Z Z ⟨Z,Z,Z,Z,trivial⟩ Z Z) ?_);refine FE Z (Bd h λY f h=>vH (Ql (e:=(Qe .i64)) f Qu EC (QE (i:=3))) ?_);exact au h
 refine Gc 6 Z (Cn Z h (λ_ h=>?_) (λ_ h=>?_))
 .refine Gc 19 Z (vH (El (xs:=[.tmp 123,.tmp 125,.tmp 127,.tmp 129]) (es:=map (Qe .i64) [d.Aq.Am,d.Aq.Ag,d.Aq.Lo,d.Aq.Hi]) Qu Z Z Z Z Z ⟨Z,Z,Z,Z,trivial⟩ Z Z) ?_);refine FE Z (Bd h λaa j h=>vH (Ql (e:=(Qe .i64)) j Qu EC (QE (i:=3))) ?_);exact au h
 refine Gc 6 Z (Cn Z h (λ_ h=>?_) (λ_ h=>?_))
 .refine Gc 9 Z (vH (El (xs:=[.tmp 137,.tmp 140]) (es:=map (Qe .i64) [d.Bc.A,d.Bc.B]) Qu Z Z Z Z Z ⟨Z,Z,trivial⟩ Z Z) ?_);refine FE Z (Bd h λab m h=>vH (Ql (e:=(Qe .i64)) m Qu EC (QE (i:=2))) ?_);exact au h
 refine Gc 6 Z (Cn Z h (λ_ h=>?_) (λ_ h=>?_))
 .refine Gc 19 Z (vH (El (xs:=[.tmp 149,.tmp 151,.tmp 153,.tmp 155]) (es:=map (Qe .i64) [d.Ai.BI,d.Ai.BT,d.Ai.AZ,d.Ai.AT]) Qu Z Z Z Z Z ⟨Z,Z,Z,Z,trivial⟩ Z Z) ?_);refine FE Z (Bd h λac t h=>vH (Ql (e:=(Qe .i64)) t Qu EC (QE (i:=3))) ?_);exact au h
 refine Gc 6 Z (Cn Z h (λ_ h=>?_) (λ_ h=>?_))
 .refine Gc 19 Z (vH (El (xs:=[.tmp 164,.tmp 166,.tmp 168,.tmp 170]) (es:=map (Qe .i64) [d.Av.BI,d.Av.By,d.Av.Bk,d.Av.B2]) Qu Z Z Z Z Z ⟨Z,Z,Z,Z,trivial⟩ Z Z) ?_);refine FE Z (Bd h λad y h=>vH (Ql (e:=(Qe .i64)) y Qu EC (QE (i:=3))) ?_);exact au h
 refine Gc 6 Z (Cn Z h (λ_ h=>?_) (λ_ h=>?_))
 .refine Gc 23 Z (vH (El (xs:=[.tmp 179,.tmp 181,.tmp 183,.tmp 185,.tmp 187,.tmp 189]) (es:=map (Qe .i64) [d.Af.BI,d.Af.BU,d.Af.AY,d.Af.BT,d.Af.AT,d.Af.BP]) Qu Z Z Z Z Z ⟨Z,Z,Z,Z,Z,Z,trivial⟩ Z Z) ?_);refine FE Z (Bd h λae E h=>vH (Ql (e:=(Qe .i64)) E Qu EC (QE (i:=3))) ?_);exact au h
 refine Gc 6 Z (Cn Z h (λ_ h=>?_) (λ_ h=>?_))
 .refine Gc 8 Z (Cn Z h (λ_ h=>?_) (λ_ h=>?_))
  .refine Gc 6 Z (vH (El (xs:=[.tmp 200,.const (.int .i64 1)]) (es:=map (Qe .i64) [d.BC.BI,1]) Qu Z Z Z Z Z ⟨Z,Z,trivial⟩ Z Z) ?_);refine FE Z (Bd h λaf H h=>vH (Ql (e:=(Qe .i64)) H Qu EC (QE (i:=2))) ?_);exact au h
  refine Gc 8 Z (vH (El (xs:=[.tmp 206,.const (.int .i64 0)]) (es:=map (Qe .i64) [d.BC.BI,0]) Qu Z Z Z Z Z ⟨Z,Z,trivial⟩ Z Z) ?_);refine FE Z (Bd h λag J h=>vH (Ql (e:=(Qe .i64)) J Qu EC (QE (i:=2))) ?_);exact au h
 refine Gc 6 Z (Cn Z h (λ_ h=>?_) (λ_ h=>?_))
 .refine Gc 9 Z (vH (El (xs:=[.tmp 214,.tmp 217]) (es:=map (Qe .i64) [d.Bo.BD,d.Bo.No]) Qu Z Z Z Z Z ⟨Z,Z,trivial⟩ Z Z) ?_);refine FE Z (Bd h λah M h=>vH (Ql (e:=(Qe .i64)) M Qu EC (QE (i:=2))) ?_);exact au h
 exact au h
def Wb(n:Nat)(d:Int):AB Unit:=AC ()
instance ir(d:Int):Kq (Wb n d) 269 [I d] [] (λ_=>.a [I 1,I d,.str [],.q 4 (map Value.enc [])]) (λ_=>[.c 343 [I 1,I d,.str [],.q 4 (map Value.enc [])]]):=KA func269
def St(g:AA Int)(d:(AA AL)×Int):AB (CG ((AA AL)×Int) (AA AL)):=(bif d.2<(AI g:Int) then AH (CJ g d.2) λf=>AH (Wb n f) λj=>AH (app d.1 [{AY:=1,N:=f,S:=[],L:=[]:AL}]) λh=>AC (.k (h,i64.wrap (d.2+1)))else AC (.d d.1))
def PJ(f:AA Int):AB (AA AL):=AH (iter (St n f) n ([],0):AB (AA AL)) λd=>AC d
instance xR(E:AA Int):Kq (PJ n E) 208 [.q 1 (map (Qe .i64) E)] [] (λr=>.a [I 3,I 0,.str [],.o 0 (AI r) 4]) (λr=>[.r 343 4 (map Value.enc r),.c 343 [I 3,I 0,.str [],.o 0 (AI r) 4]]):=by
 refine Kg 7 func208 Z Z Z Z λr h=>?_;refine vV (CU.build (zs:=[I 0,I 0,.str [],.n]) zeroValue343 (Fh Z) zx) ?_;refine Fg 9 Z Z (Bd h λg F h=>Cg g [0,1,0] [2,3] Ze (λg=>[(1,.c 343 [I 3,I 0,.str [],.o 2 (AI g) 4]),(2,.r 343 4 (map Value.enc g))]) Zf ?_ ?_)
 .refine G0 1 Z (Lp [0,1,0] [0,2,3] (λf=>[(4,I f.2)]) (λf=>[(1,.c 343 [I 3,I 0,.str [],.o 2 (AI f.1) 4]),(2,.r 343 4 (map Value.enc f.1))]) F Zf ?_ ?_)
  .exact Eo (Ya (i:=1) (m:=3) (k:=4) Z Z Z) (Lr [0,1,2])
  intro f G d q;refine G0 5 Z (Lg 3 Z Z (Q7 Z d (λ_ d=>?_) (λ_ d=>?_)))
  .exact Gc 2 Z (QI d (Gx 1 Z (DU q d (Lr [0,1,2]))))
  refine Gc 4 Z (HF 8 [6] [(0,0,1),(0,0,1),(0,0,0),(0,0,0),(0,0,0),(0,0,0),(1,0,0),(0,1,1)] (by kernel_rfl) (Dk 1 Z (JR (lo:=0) ⟨Z,trivial⟩ ?_)));refine Dk 2 Z ?_;obtain⟨j,y,d⟩:=QF d;refine DK.wo (x:=.rp [I j]) ?_ ?_
  .exact Ix y EC ED Z Wp
  refine Dk 1 Z ?_;obtain⟨H,z,d⟩:=QF d;refine Ey (x:=.a [I 1,I j,.str [],.q 4 (map Value.enc [])]) (X1:=[.c 343 (Value.c UK),.c 343 [I 3,I 0,.str [],.o 2 (AI f.1) 4],.r 343 4 (map Value.enc f.1),.c 343 [I 1,I j,.str [],.q 4 (map Value.enc [])]]) ?_ ?_
  .refine Qh [] (C6.fn call269 Z Z Z) ((ir _ _).c _ z) ?_;rintro _ _ ⟨rfl,rfl⟩;exact FE Z Wp
  refine DK.wo (x:=.q 4 (map Value.enc [{AY:=1,N:=j,S:=[],L:=[]:AL}])) ?_ ?_
  .refine vH (QM (xs:=[.tmp 18]) oE Z Z Z Z Z ⟨Z,trivial⟩ Z Z) ?_;exact Wp
  refine DK.done Z Z (Bd d λJ B d=>(vH (Ql B oE runUnderlying341 K3) ?_));exact au d
 exact au h
def TK(n:Nat)(f:AL)(rec271:AL->AB Bool)(d:Int):AB (CG Int (CG Unit Bool)):=(bif d<(AI f.L:Int) then AH (CJ f.L d) λg=>AH (rec271 g) λh=>(bif (!h)then AC (.d (.d AD))else AC (.k (i64.wrap (d+1))))else AC (.d (.k ())))
def ZW(rec271:AL->AB Bool)(n:Nat)(d:AL):AB Bool:=(bif (d.AY==1)then AH ((bif (d.S==[])then AC ((AI d.L:Int)==0)else AC AD):AB Bool) λj=>AC j else(bif (d.AY==2)then AH ((bif (d.N==0)then AC ((AI d.L:Int)==0)else AC AD):AB Bool) λk=>AC k else(bif (d.AY==3)then AH (iter (TK n d rec271) n 0:AB (CG Unit Bool)) λg=>match g with|.k f=>(AH ((bif (d.N==0)then AC (d.S==[])else AC AD):AB Bool) λh=>AC h)|.d f=>AC f else AC AD)))
theorem Qa1(rec271:AL->AB Bool)(y:∀(f:AL),Ks (rec271 f) 299 [.a (Value.c f)] [] (λr=>.b r))(n:Nat)(f:AL):Ks (ZW rec271 n f) 299 [.a (Value.c f)] [] (λr=>.b r):=by
 refine Kg 20 func299 Z Z Z Z λr h=>Cn Z h (λ_ h=>?_) (λ_ h=>?_)
 .exact au h
 refine Gc 6 Z (Cn Z h (λ_ h=>?_) (λ_ h=>?_))
 .exact au h
 refine Gc 6 Z (Cn Z h (λ_ h=>?_) (λ_ h=>?_))
 .refine Gc 6 Z (Bd h λE F h=>FT (b:=E) [0] [1] Ze Ze Zf ?_ (λN env H G J=>?_))
  .refine G0 1 Z (Lp [0] [1] (λk=>[(3,I k)]) Ze F Zf (Lr [0]) λk P d g=>?_);refine G0 6 Z (Lg 3 Z Z (Q7 Z d (λ_ d=>?_) (λ_ d=>?_)))
   .exact Jc g d
   refine Gc 9 Z (Bd d λL t d=>FJ t (mE L) Z (Go 1 Z (Cz [] d Kc Z λQ O d=>Go 3 Z (Cn Z d (λ_ d=>?_) (λ_ d=>?_)))))
   .exact DV g d h
   exact au d
  subst G;refine Gx 1 Z (Ef J (Gc 1 Z (Bd h λj M h=>Cg j [] [] (λj=>[(2,.b j)]) Ze Zf ?_ ?_)))
  .exact au M
  exact au h
 exact au h
def T4:Nat->AL->AB Bool
  |0=>λ_=>AF
  |n+1=>ZW (T4 n) n
instance k_m:∀(d:AL),Ks (T4 n d) 299 [.a (Value.c d)] [] (λr=>.b r):=by
  induction n with
  |zero=>exact λ_=>⟨nofun⟩
  |succ n ih=>exact Qa1 _ ih n
def Tu(n:Nat)(g:AL)(rec272:AL->AB Int)(d:Int×Int):AB (CG (Int×Int) Int):=(bif d.2<(AI g.L:Int) then AH (CJ g.L d.2) λh=>AH (rec272 h) λf=>AC (.k ((if d.1<f then f else d.1),i64.wrap (d.2+1)))else AC (.d d.1))
def ZV(rec272:AL->AB Int)(n:Nat)(d:AL):AB Int:=(bif (d.AY != 3)then AC 0 else AH (iter (Tu n d rec272) n (0,0):AB Int) λf=>AC (i64.wrap (f+1)))
theorem Qbj(rec272:AL->AB Int)(x:∀(g:AL),Ks (rec272 g) 300 [.a (Value.c g)] [] (λr=>I r))(n:Nat)(g:AL):Ks (ZV rec272 n g) 300 [.a (Value.c g)] [] (λr=>I r):=by
 refine Kg 14 func300 Z Z Z Z λr h=>Cn Z h (λ_ h=>?_) (λ_ h=>?_)
 .exact au h
 refine Gc 13 Z (Bd h λk z h=>Cg k [] [] (λk=>[(3,I k)]) Ze Zf ?_ ?_)
 .refine G0 1 Z (Lp [0] [1] (λf=>[(3,I f.1),(4,I f.2)]) Ze z Zf (Lr [0]) λf F d m=>?_);refine G0 6 Z (Lg 3 Z Z (Q7 Z d (λ_ d=>?_) (λ_ d=>?_)))
  .exact Gc 2 Z (QI d (Gx 1 Z (DU m d (Lr []))))
  refine Gc 9 Z (Bd d λB t d=>FJ t (mE B) Z (Go 1 Z (Cz [] d Kc Z λj E d=>?_)));refine vX (I (if f.1<j then j else f.1)) (CU.max Z Z Z Z) ?_;exact au d
 exact au h
def Tc:Nat->AL->AB Int
  |0=>λ_=>AF
  |n+1=>ZV (Tc n) n
instance k_n:∀(d:AL),Ks (Tc n d) 300 [.a (Value.c d)] [] (λr=>I r):=by
  induction n with
  |zero=>exact λ_=>⟨nofun⟩
  |succ n ih=>exact Qbj _ ih n
def UW(d:AL):AB Int:=AH (T4 n d) λf=>(bif (!f)then AC 1 else AH (Tc n d) λg=>(bif 16<g then AC 2 else AC 0))
instance uZ(d:AL):Ks (UW n d) 267 [.a (Value.c d)] [] (λr=>I r):=KA func267
def OF(n:Nat)(d:Int):AB Int:=(bif 0<=d then AC (u64.wrap (2*(u64.wrap d)))else AC (u64.wrap ((u64.wrap (2*(u64.wrap (i64.wrap (0-(i64.wrap (d+1)))))))+1)))
instance wJ(d:Int):Ks (OF n d) 302 [I d] [] (λr=>.i .u64 r):=by
 refine Kg 12 func302 Z Z Z Z λr h=>Cn Z h (λ_ h=>?_) (λ_ h=>?_)
 .refine Gc 3 Z (vV (RH Z E5 Gq Z) ?_);exact Gt 6 Z h 2 []
 refine Gc 7 Z (vV (RH Z E5 Gq Z) ?_);exact Gt 6 Z h 2 []
def Za(rec275:Int->AB (AA Int))(n:Nat)(d:Int):AB (AA Int):=(bif d<128 then AC [u8.wrap d]else AH (rec275 (u64.wrap (Int.tdiv d 128))) λf=>AH (app [u8.wrap (u64.wrap ((Int.tmod d 128)+128))] f) λg=>AC g)
theorem QaK(rec275:Int->AB (AA Int))(f:∀(d:Int),Kq (rec275 d) 301 [.i .u64 d] [] (λr=>.o 0 (AI r) 1) (λr=>[.r 5 1 (map (Qe .u8) r)]))(n:Nat)(d:Int):Kq (Za rec275 n d) 301 [.i .u64 d] [] (λr=>.o 0 (AI r) 1) (λr=>[.r 5 1 (map (Qe .u8) r)]):=by
 refine Kg 12 func301 Z Z Z Z λr h=>Cn Z h (λ_ h=>?_) (λ_ h=>?_)
 .refine Gc 3 Z ?_;refine vX (.i .u8 (u8.wrap d)) (RH Z Gq Gk Z) ?_;exact au h
 refine Gc 5 Z ?_;refine vX (.i .u64 (Int.tmod d 128)) (CU.rem Z Z Z (by decide)) ?_;refine Go 1 Z ?_;refine vV (x:=(.i .u8 (u8.wrap (u64.wrap ((Int.tmod d 128)+128))))) (RH Z Gq Gk Z) ?_;refine vH (El (xs:=[.tmp 11]) (es:=map (Qe .u8) [u8.wrap (u64.wrap ((Int.tmod d 128)+128))]) NW Z Z Z Z Z ⟨Z,trivial⟩ Z Z) ?_;refine Fg 1 Z Z ?_;refine vX (.i .u64 (u64.wrap (Int.tdiv d 128))) (CU.quo Z Z Z (by decide)) ?_;refine Cd [] h Kc Z λm k h=>FE Z (Bd h λq j h=>vH (Ql (e:=(Qe .u8)) j NW EY (QE (i:=1))) ?_);exact au h
def RU:Nat->Int->AB (AA Int)
  |0=>λ_=>AF
  |n+1=>Za (RU n) n
instance k_h:∀(d:Int),Kq (RU n d) 301 [.i .u64 d] [] (λr=>.o 0 (AI r) 1) (λr=>[.r 5 1 (map (Qe .u8) r)]):=by
  induction n with
  |zero=>exact λ_=>⟨nofun⟩
  |succ n ih=>exact QaK _ ih n
def TP(n:Nat)(f:AL)(rec273:AL->AB (AA Int))(d:(AA Int)×Int):AB (CG ((AA Int)×Int) (AA Int)):=(bif d.2<(AI f.L:Int) then AH (CJ f.L d.2) λg=>AH (rec273 g) λh=>AH (app d.1 h) λj=>AC (.k (j,i64.wrap (d.2+1)))else AC (.d d.1))
def ZY(rec273:AL->AB (AA Int))(n:Nat)(d:AL):AB (AA Int):=(bif (d.AY==1)then AH (OF n d.N) λg=>AH (RU n g) λh=>AH (app [1] h) λj=>AC j else(bif (d.AY==2)then AF else AH (RU n (u64.wrap (AI d.L:Int))) λk=>AH (app [3] k) λm=>AH (iter (TP n d rec273) n (m,0):AB (AA Int)) λf=>AC f))
theorem Qa0(rec273:AL->AB (AA Int))(x:∀(j:AL),Kq (rec273 j) 268 [.a (Value.c j)] [] (λr=>.o 0 (AI r) 1) (λr=>[.r 5 1 (map (Qe .u8) r)]))(n:Nat)(j:AL):Kq (ZY rec273 n j) 268 [.a (Value.c j)] [] (λr=>.o 0 (AI r) 1) (λr=>[.r 5 1 (map (Qe .u8) r)]):=by
 refine Kg 20 func268 Z Z Z Z λr h=>Cn Z h (λ_ h=>?_) (λ_ h=>?_)
 .refine Gc 2 Z (vH (El (xs:=[.const (.int .u8 1)]) (es:=map (Qe .u8) [1]) NW Z Z Z Z Z ⟨Z,trivial⟩ Z Z) ?_);refine Fg 2 Z Z (Cz [] h Kc Z λR J h=>Cd [] h Kc Z λT M h=>FE Z (Bd h λV z h=>vH (Ql (e:=(Qe .u8)) z NW EY (QE (i:=2))) ?_));exact au h
 refine Gc 6 Z (Cn Z h (λ_ h=>?_) (λ_ h=>?_))
 .refine Gc 1 Z ?_;cases h
 refine Gc 5 Z (vH (El (xs:=[.const (.int .u8 3)]) (es:=map (Qe .u8) [3]) NW Z Z Z Z Z ⟨Z,trivial⟩ Z Z) ?_);refine Fg 2 Z Z (Lm Z ?_);refine vX (.i .u64 (u64.wrap (AI j.L:Int))) (RH Z E5 Gq Z) ?_;refine Cd [] h Kc Z λW N h=>FE Z (Bd h λX E h=>vH (Ql (e:=(Qe .u8)) E NW EY (QE (i:=2))) ?_);refine Fg 9 Z Z (Bd h λf F h=>Cg f [1] [] (λf=>[(3,.o 0 (AI f) 1)]) (λf=>[(0,.r 5 1 (map (Qe .u8) f))]) Zf ?_ ?_)
 .refine G0 1 Z (Lp [0,3] [1] (λg=>[(3,.o 1 (AI g.1) 1),(4,I g.2)]) (λg=>[(1,.r 5 1 (map (Qe .u8) g.1))]) F Zf (Lr [0,3]) λg O d k=>?_);refine G0 6 Z (Lg 3 Z Z (Q7 Z d (λ_ d=>?_) (λ_ d=>?_)))
  .exact Gc 2 Z (QI d (Gx 1 Z (DU k d (Lr [1]))))
  refine Gc 9 Z (Bd d λG q d=>FJ q (mE G) Z (Go 1 Z (Cd [] d Kc Z λP H d=>FE Z (Bd d λQ t d=>vH (Ql (e:=(Qe .u8)) t NW EY (QE (i:=2))) ?_))));exact au d
 exact au h
def WG:Nat->AL->AB (AA Int)
  |0=>λ_=>AF
  |n+1=>ZY (WG n) n
instance k_j:∀(d:AL),Kq (WG n d) 268 [.a (Value.c d)] [] (λr=>.o 0 (AI r) 1) (λr=>[.r 5 1 (map (Qe .u8) r)]):=by
  induction n with
  |zero=>exact λ_=>⟨nofun⟩
  |succ n ih=>exact Qa0 _ ih n
def UX(d:AL):AB ((AA Int)×Int):=AH (UW n d) λf=>(bif (f != 0)then AC ([],f)else AH (WG n d) λg=>AC (g,0))
instance ua(d:AL):Kq (UX n d) 207 [.a (Value.c d)] [] (λr=>.t [.o 0 (AI r.1) 1,I r.2]) (λr=>[.r 5 1 (map (Qe .u8) r.1)]):=by
 refine Kg 10 func207 Z Z Z Z λr h=>Cz [] h Kc Z λj g h=>Go 10 Z (Cn Z h (λ_ h=>?_) (λ_ h=>?_))
 .refine Gc 9 Z ?_;obtain rfl:=Oi h;refine R2 2 3 Z Z ?_;exact Eo (Et (s:=2) (XR Z) Z) (Lr [1])
 exact au h
def MG(d:CI):AB ((AA Int)×Int):=AH (MC n d) λg=>(bif (g != 0)then AC ([],120)else AH (OS n d) λh=>AH (PJ n h) λj=>AH (UX n ({AY:=3,N:=0,S:=[],L:=j:AL})) λf=>AC (f.1,f.2))
instance xq(d:CI):Kq (MG n d) 137 [.a (CI.c d)] [] (λr=>.t [.o 0 (AI r.1) 1,I r.2]) (λr=>[.r 5 1 (map (Qe .u8) r.1)]):=by
 refine Kg 11 func137 Z Z Z Z λr h=>Cz [] h Kc Z λm g h=>Go 3 Z (Cn Z h (λ_ h=>?_) (λ_ h=>?_))
 .refine Gc 8 Z ?_;obtain rfl:=Oi h;refine R2 2 3 Z Z ?_;exact Eo (Et (s:=2) (XR Z) Z) (Lr [1])
 refine Gc 5 Z (Cd [] h Kc Z λq j h=>FE Z (Eu (Yo [(8,_)] Z Z (Cy.cons Z Er Cy.nil) (Ec (Ec (QT _)))) ?_));refine Cd [] h Kc Z λt k h=>FE Z (Eu (Yo [(9,_)] Z Z (Cy.cons Z (DM.agg (Ed (Ee _) (Ed (Ee _) (Ed (Ee _) (Ed Er (Ek _)))))) Cy.nil) (Ec (Ec (Ec (Dh.cells (Ed (Ee _) (Ed (Ee _) (Ed (Ee _) (Ed Er (Ek _))))) (QT _)))))) ?_);exact au h
def Tn(n:Nat)(f:CI)(g:CI)(d:Int):AB (CG Int (CG Unit Int)):=(bif d<3 then AH (CJ [f.At,f.BD,f.No] d) λh=>AH (CJ [g.At,g.BD,g.No] d) λj=>(bif h<j then AC (.d (.d (-1)))else AH (CJ [f.At,f.BD,f.No] d) λk=>AH (CJ [g.At,g.BD,g.No] d) λm=>(bif m<k then AC (.d (.d 1))else AC (.k (i64.wrap (d+1)))))else AC (.d (.k ())))
def O_(h:CI)(j:CI):AB Int:=AH (iter (Tn n h j) n 0:AB (CG Unit Int)) λk=>match k with|.k d=>(AH (MG n h) λf=>AH (MG n j) λg=>(bif Op.bytesLess (map Js f.1) (map Js g.1)then AC (-1)else(bif (!(Op.bytesLess (map Js f.1) (map Js g.1)||(map Js f.1)==(map Js g.1)))then AC 1 else AC 0)))|.d d=>AC d
instance xG(m:CI)(q:CI):Ks (O_ n m q) 74 [.a (CI.c m),.a (CI.c q)] [] (λr=>I r):=by
 refine Kg 15 func74 Z Z Z Z λr h=>vH (El (xs:=[.tmp 13,.tmp 15,.tmp 17]) (es:=map (Qe .i64) [m.At,m.BD,m.No]) Qu Z Z Z Z Z ⟨Z,Z,Z,trivial⟩ Z Z) ?_;refine Fg 11 Z Z (vH (El (xs:=[.tmp 20,.tmp 22,.tmp 24]) (es:=map (Qe .i64) [q.At,q.BD,q.No]) Qu Z Z Z Z Z ⟨Z,Z,Z,trivial⟩ Z Z) ?_);refine Fg 9 Z Z (Bd h λH J h=>D5 (b:=H) [0,1] [2,3] Ze Ze Zf ?_ (λ_ L=>?_))
 .refine G0 1 Z (Lp [0,1,2,3] [2,3,5,6] (λf=>[(7,I f)]) Ze J Zf (Lr [0,1,2,3]) λf V d g=>?_);refine G0 7 Z (Q7 Z d (λ_ d=>?_) (λ_ d=>?_))
  .exact Jc g d
  refine Gc 6 Z (DR 8 Z (D 2 Z ?_));obtain⟨M,t,d⟩:=QF d;refine DS.v (x:=(.p 2 (toNat f*1))) (Qf t Z EC ED) ?_;refine DS.v (x:=(I M)) (EA Z EF Z (Qi t)) ?_;refine D 2 Z ?_;obtain⟨N,y,d⟩:=QF d;refine DS.v (x:=(.p 3 (toNat f*1))) (Qf y Z EC ED) ?_;refine DS.v (x:=(I N)) (EA Z EF Z (Qi y)) ?_;refine Eh Z (Go 3 Z (Cn Z d (λ_ d=>?_) (λ_ d=>?_)))
  .exact DV g d h
  refine Gc 3 Z (DR 8 Z (D 2 Z ?_));obtain⟨O,z,d⟩:=QF d;refine DS.v (x:=(.p 2 (toNat f*1))) (Qf z Z EC ED) ?_;refine DS.v (x:=(I O)) (EA Z EF Z (Qi z)) ?_;refine D 2 Z ?_;obtain⟨P,B,d⟩:=QF d;refine DS.v (x:=(.p 3 (toNat f*1))) (Qf B Z EC ED) ?_;refine DS.v (x:=(I P)) (EA Z EF Z (Qi B)) ?_;exact DV g d h
 subst L;refine Gc 3 Z (Cd [] h Kc Z λj R h=>Fg 10 Z Z (Cd [] h Kc Z λk T h=>Fg 11 Z Z ?_));refine vX (.str (map Js j.1)) (gn (l:=j.1) (F4.row (i:=2)) EY Gk Gj) ?_;refine Go 1 Z ?_;refine vX (.str (map Js k.1)) (gn (l:=k.1) (F4.row (i:=3)) EY Gk Gj) ?_;refine Go 3 Z (Cn Z h (λ_ h=>?_) (λ_ h=>?_))
 .exact au h
 refine Gc 6 Z ?_;refine vX (.str (map Js j.1)) (gn (l:=j.1) (F4.row (i:=2)) EY Gk Gj) ?_;refine Go 1 Z ?_;refine vX (.str (map Js k.1)) (gn (l:=k.1) (F4.row (i:=3)) EY Gk Gj) ?_;refine vV (QmB Z Z Z) ?_;exact au h
def mT(m:AA CI)(f:(AA CI)×Int)(d:Int):AB (CG Int Int):=AH ((bif d<(AI f.1:Int) then AH (CJ f.1 d) λg=>AH (CJ m f.2) λh=>AH (O_ n g h) λj=>AC (AG (j<0))else AC AD):AB Bool) λk=>(bif k then AC (.k (i64.wrap (d+1)))else AC (.d d))
def TM(g:AA CI)(d:(AA CI)×Int):AB (CG ((AA CI)×Int) (AA CI)):=(bif d.2<(AI g:Int) then AH (AH (CJ g d.2) λh=>AH (MC n h) λj=>(bif (j != 0)then AC d.1 else AH (iter (mT n g d) n 0:AB Int) λf=>AH ((bif f<(AI d.1:Int) then AH (CJ d.1 f) λk=>AH (CJ g d.2) λm=>AC (k==m)else AC AD):AB Bool) λq=>(bif q then AC d.1 else AH (Dd d.1 0 f) λt=>AH (app ([]:AA CI) t) λx=>AH (CJ g d.2) λy=>AH (app x [y]) λz=>AH (Dd d.1 f (AI d.1:Int)) λB=>AH (app z B) λE=>AC E)):AB (AA CI)) λF=>AC (.k (F,i64.wrap (d.2+1)))else AC (.d d.1))
def F8(f:AA CI):AB (AA CI):=AH (iter (TM n f) n (([]:AA CI),0):AB (AA CI)) λd=>AC d
instance ye(X:AA CI):Kq (F8 n X) 24 [.q 57 (map CI.c X)] [] (λr=>.o 0 (AI r) 57) (λr=>[.r 107 57 (map CI.c r)]):=by
 refine Kg 7 func24 Z Z Z Z λr h=>vH (El (xs:=[]) (es:=map CI.c []) W5 Z Z Z Z Z trivial Z Z) ?_;refine Fg 9 Z Z (Bd h λE an h=>Cg E [0] [] (λE=>[(3,.o 0 (AI E) 57)]) (λE=>[(0,.r 107 57 (map CI.c E))]) Zf ?_ ?_)
 .refine G0 1 Z (Lp [0] [0] (λg=>[(3,.o 0 (AI g.1) 57),(4,I g.2)]) (λg=>[(0,.r 107 57 (map CI.c g.1))]) an Zf (Lr [0]) λg aw t Y=>?_);refine G0 5 Z (Lg 3 Z Z (Q7 Z t (λ_ t=>?_) (λ_ t=>?_)))
  .exact Gc 2 Z (QI t (Gx 1 Z (DU Y t (Lr [0]))))
  refine Gc 3 Z (Bd t λF f t=>Cg F [0] [0,4] (λF=>[(3,.o 0 (AI F) 57)]) (λF=>[(0,.r 107 57 (map CI.c F))]) Zf ?_ ?_)
  .refine G0 6 Z (Bd f λax ab f=>Iz ab Z (Go 1 Z (Cz [] f Kc Z λay av f=>Go 3 Z (Cn Z f (λ_ f=>?_) (λ_ f=>?_)))))
   .exact au f
   refine Gc 8 Z (Bd f λj ao f=>Ct j [0] [0,3,4] (λj=>[(5,I j)]) Ze Zf ?_ (λenv H T=>?_))
   .refine G0 1 Z (Lp [0] [0,3,4] (λL=>[(5,I L)]) Ze ao Zf (Lr [0]) λL az y ad=>?_);refine G0 2 Z (Bd y λM k y=>Ct M [0] [0,3,4,5] (λM=>[(34,.b M)]) Ze Zf ?_ (λenv H T=>?_))
    .refine G0 0 Z (DR 13 Z (D 5 Z (DS.is 4 k Z Z Z (λ_ k=>?_) (λ_ k=>?_))))
     .refine D 2 Z ?_;obtain⟨aq,Q,k⟩:=QF k;refine DS.v (x:=(.p 0 (toNat L*57))) (Qf Q Z EE EG) ?_ (hg:=(gT Z));refine DS.v (x:=(.a (CI.c aq))) (Qv Z isAgg107 EG Z (Qi Q) Z Z) ?_ (hg:=(gT Z));refine D 2 Z ?_;obtain⟨ar,af,k⟩:=QF k;refine DS.v (Mg (e:=CI.c) (l:=X) (v:=ar) af EE EG) ?_ (hg:=(gT Z));exact au k
     exact au k
    refine Gx 1 Z (Ef T (Q7 Z y (λ_ y=>?_) (λ_ y=>?_)))
    .exact Gc 2 Z (QI y (Gx 1 Z (DU ad y (Lr [0]))))
    exact au y
   refine Gx 1 Z (Ef T (Gc 2 Z (Bd f λN m f=>Cg N [0] [0,3,4,5] (λN=>[(51,.b N)]) Ze Zf ?_ ?_)))
   .refine G0 0 Z (DR 13 Z (D 5 Z (DS.is 4 m Z Z Z (λ_ m=>?_) (λ_ m=>?_))))
    .refine D 2 Z ?_;obtain⟨O,R,m⟩:=QF m;refine DS.v (x:=(.p 0 (toNat j*57))) (Qf R Z EE EG) ?_ (hg:=(gT Z));refine DS.v (x:=(.a (CI.c O))) (Qv Z isAgg107 EG Z (Qi R) Z Z) ?_ (hg:=(gT Z));refine D 2 Z ?_;obtain⟨P,ai,m⟩:=QF m;refine DS.v (Mg (e:=CI.c) (l:=X) (v:=P) ai EE EG) ?_ (hg:=(gT Z));refine D 1 Z (Eh Z ?_);refine vX (.b (O==P)) (gm (p:=O) (q:=P) pB Z Z) ?_ (gT Z);exact au m
    exact au m
   refine Cn Z f (λ_ f=>?_) (λ_ f=>?_)
   .exact au f
   refine Gc 2 Z (HF 14 [0,4,10] [(1,0,0),(0,0,1),(0,0,1),(0,0,1),(1,1,0),(0,0,2),(0,0,2),(0,0,2),(0,0,2),(0,0,2),(1,2,0),(0,0,3),(0,0,3),(0,0,3)] (by kernel_rfl) ?_);refine Ey (x:=.o 1 (AI ([]:AA CI)) 57) (X1:=[.r 107 57 (map CI.c g.1),.r 107 57 (map CI.c ([]:AA CI))]) ?_ ?_
   .refine vH (El (xs:=[]) (es:=map CI.c []) W5 Z Z Z Z Z trivial Z Z) ?_;exact FE Z Wp
   refine Dk 2 Z ?_;obtain⟨ba,G,f⟩:=QF f;refine J4 (lo:=0) (hi:=1) (x:=.s 0 (0+toNat 0) (toNat j-toNat 0) 57) ⟨?_,?_,trivial⟩ ?_
   iterate 2 refine vX (.s 0 (0+toNat 0) (toNat j-toNat 0) 57) (QO (l:=g.1) G EE EG (.inl ⟨Z,Z⟩) (.inr ⟨_,Z,Z⟩)) ?_;exact Wp
   obtain⟨V,ak,f⟩:=QF f;refine Ey (x:=.o 2 (AI V) 57) (X1:=[.r 107 57 (map CI.c g.1),.dead,.r 107 57 (map CI.c V)]) ?_ ?_
   .refine vH (Ql (e:=CI.c) ak W5 EE (K0 (b:=0) G)) ?_;exact FE Z Wp
   refine Dk 2 Z ?_;obtain⟨d,J,f⟩:=QF f;refine J4 (lo:=0) (hi:=2) (x:=.rp [I d.BD,I d.No,I d.At,I d.AY,I d.AP.BT,I d.AP.AN,I d.AP.A3,I d.AP.BM,I d.AP.B4,I d.AP.BA,I d.AP.Bl,I d.AP.B5,I d.A5.Am,I d.A5.Ag,I d.A5.BA,I d.A5.BB,I d.Aa.Am,I d.Aa.Ag,I d.Aa.BB,I d.Aa.True,I d.Aa.B7,I d.An.Bs,I d.An.Bg,I d.An.BZ,I d.An.Br,I d.An.Bf,I d.An.BY,I d.An.Bp,I d.An.Bq,I d.Ae.BT,I d.Ae.AT,I d.Ae.Lo,I d.Ae.Hi,I d.Aq.Am,I d.Aq.Ag,I d.Aq.Lo,I d.Aq.Hi,I d.Bc.A,I d.Bc.B,I d.Ai.BI,I d.Ai.BT,I d.Ai.AZ,I d.Ai.AT,I d.Av.BI,I d.Av.By,I d.Av.Bk,I d.Av.B2,I d.Af.BI,I d.Af.BU,I d.Af.AY,I d.Af.BT,I d.Af.AT,I d.Af.BP,I d.BC.BI,.b d.BC.Bi,I d.Bo.BD,I d.Bo.No]) ⟨?_,?_,?_,trivial⟩ ?_
   iterate 3 exact Ix J EE EG Z Wp
   refine Dk 1 Z ?_;refine J4 (lo:=0) (hi:=2) (x:=.q 57 (map CI.c [d])) ⟨?_,?_,?_,trivial⟩ ?_
   iterate 3 refine vH (QM (xs:=[.tmp 60]) (es:=map CI.c [d]) W5 Z Z Z Z Z ⟨Z,trivial⟩ Z Z) ?_;exact FE Z Wp
   obtain⟨W,al,f⟩:=QF f;refine Ey (x:=.o 3 (AI W) 57) (X1:=[.r 107 57 (map CI.c g.1),.dead,.dead,.r 107 57 (map CI.c W)]) ?_ ?_
   .refine vH (Ql (e:=CI.c) al W5 EE K3) ?_;exact FE Z Wp
   refine Dk 2 Z ?_;obtain⟨bb,z,f⟩:=QF f;refine J4 (lo:=0) (hi:=3) (x:=.s 0 (0+toNat j) (toNat (AI g.1:Int)-toNat j) 57) ⟨?_,?_,?_,?_,trivial⟩ ?_
   iterate 4 refine vX (.s 0 (0+toNat j) (toNat (AI g.1:Int)-toNat j) 57) (QO (l:=g.1) z EE EG (.inr ⟨_,Z,Z⟩) (.inl ⟨Z,Z⟩)) ?_;exact Wp
   refine DK.done Z Z (Bd f λbc am f=>?_);refine vH (Ql (e:=CI.c) am W5 EE (K0 (b:=0) z)) ?_;exact au f
  exact au t
 exact au h
def I6(n:Nat)(f:CB)(d:Int):AB Bool:=AH ((bif 0<=d then AC (AG (d<(AI f.Au:Int)))else AC AD):AB Bool) λg=>AC g
instance yL(d:CB)(f:Int):Ks (I6 n d f) 118 [.a (CB.c d),I f] [] (λr=>.b r):=KA func118
def L9(n:Nat)(d:CB)(f:Int):AB Bool:=AH (CJ d.Au f) λg=>AC (g.AY==1)
instance xh(d:CB)(f:Int):Ks (L9 n d f) 188 [.a (CB.c d),I f] [] (λr=>.b r):=KA func188
def Nz(n:Nat)(d:CC)(f:CC):AB Bool:=AH ((bif d.Am<f.Am then AC AE else(bif (d.Am==f.Am)then AC (AG (d.Ag<f.Ag))else AC AD)):AB Bool) λg=>AC g
instance vx(d:CC)(f:CC):Ks (Nz n d f) 190 [.a (CC.c d),.a (CC.c f)] [] (λr=>.b r):=KA func190
def me(f:AA CC)(k:Int)(m:Int)(d:Int):AB (CG Int Int):=AH ((bif d<(AI f:Int) then AH (CJ f d) λg=>AH (Nz n g ({Am:=k,Ag:=m,BK:=0:CC})) λh=>AC h else AC AD):AB Bool) λj=>(bif j then AC (.k (i64.wrap (d+1)))else AC (.d d))
def I9(j:CB)(d:AA CC)(g:Int)(h:Int):AB (AA CC):=AH (AH (I6 n j g) λB=>(bif (!B)then AC AE else AH (L9 n j g) λE=>AC E):AB Bool) λF=>(bif F then AC d else AH (iter (me n d g h) n 0:AB Int) λf=>AH ((bif f<(AI d:Int) then AH (CJ d f) λk=>(bif (k.Am==g)then AH (CJ d f) λm=>AC (m.Ag==h)else AC AD)else AC AD):AB Bool) λq=>(bif q then AC d else AH (Dd d f (AI d:Int)) λt=>AH (app [{Am:=g,Ag:=h,BK:=0:CC}] t) λx=>AH (Dd d 0 f) λy=>AH (app y x) λz=>AC z))
instance yO(Y:CB)(m:AA CC)(L:Int)(M:Int):Kq (I9 n Y m L M) 124 [.a (CB.c Y),.o 0 (AI m) 3,I L,I M] [.r 202 3 (map CC.c m)] (λr=>.o 1 (AI r) 3) (λr=>[.dead,.r 202 3 (map CC.c r)]):=by
 refine Kg 8 func124 Z Z Z Z λr h=>Bd h λN h5 h=>Ct N [0] [1,2,3] (λN=>[(20,.b N)]) Ze Zf ?_ (λenv H q=>?_)
 .exact au h5
 refine Gx 1 Z (Ef q (Cn Z h (λ_ h=>?_) (λ_ h=>?_)))
 .refine Gc 8 Z ?_;obtain rfl:=Oi h;refine R1 8 Z ?_;refine Eo (lW (s:=8) (i:=0) Z Z Z) ?_;exact Lr [0,1]
 refine Gc 17 Z (Bd h λg ab h=>Ct g [0,1] [1,2,3,9] (λg=>[(10,I g)]) Ze Zf ?_ (λenv H q=>?_))
 .refine G0 1 Z (Lp [0,1] [1,2,3,9] (λy=>[(10,I y)]) Ze ab Zf (Lr [0,1]) λy af j O=>?_);refine G0 2 Z (Bd j λz k j=>Ct z [0,1] [1,2,3,9,10] (λz=>[(36,.b z)]) Ze Zf ?_ (λenv H q=>?_))
  .refine G0 0 Z (DR 10 Z (D 5 Z (DS.is 4 k Z Z Z (λ_ k=>?_) (λ_ k=>?_))))
   .refine D 2 Z ?_;obtain⟨ac,B,k⟩:=QF k;refine DS.v (x:=(.p 0 (toNat y*3))) (Qf B Z ET E7) ?_ (hg:=(gT Z));refine DS.v (x:=(.a (CC.c ac))) (Qv Z isAgg202 E7 Z (Qi B) Z Z) ?_ (hg:=(gT Z));exact au k
   exact au k
  refine Gx 1 Z (Ef q (Q7 Z j (λ_ j=>?_) (λ_ j=>?_)))
  .exact Gc 2 Z (QI j (Gx 1 Z (DU O j (Lr [0,1]))))
  exact au j
 refine Gx 1 Z (Ef q (Gc 2 Z (Bd h λE d h=>Cg E [0,1] [1,9,10] (λE=>[(60,.b E)]) Ze Zf ?_ ?_)))
 .refine G0 6 Z (Is 43 d Z (λ_ d=>?_) (λ_ d=>?_))
  .refine Go 2 Z (Bd d λad F d=>?_);refine vX (.p 0 (toNat g*3)) (Qf F Z ET E7) ?_ (gT Z);refine HR (gT Z) qN Z ?_;refine vX (I ad.Am) (EA Z EF Z (Qi F)) ?_ (gT Z);refine Go 4 Z (Is 52 d Z (λ_ d=>?_) (λ_ d=>?_))
   .refine Go 2 Z (Bd d λae G d=>?_);refine vX (.p 0 (toNat g*3)) (Qf G Z ET E7) ?_ (gT Z);refine HR (gT Z) qO Z ?_;refine vX (I ae.Ag) (EA Z EF Z (Qp (f:=1) G)) ?_ (gT Z);exact au d
   exact au d
  exact au d
 refine Cn Z h (λ_ h=>?_) (λ_ h=>?_)
 .refine Gc 8 Z ?_;obtain rfl:=Oi h;refine R1 8 Z ?_;refine Eo (lW (s:=8) (i:=0) Z Z Z) ?_;exact Lr [0,2]
 refine Gc 3 Z (PZ 5 1 [0,1,3,3,3] (by kernel_rfl) (Da 1 Z ?_));refine jl (El (xs:=[.tmp 62]) (es:=map CC.c [{Am:=L,Ag:=M,BK:=0:CC}]) fy Z Z Z Z Z ⟨Z,trivial⟩ Z Z) Z Z (Db 2 Z ?_);obtain⟨ag,t,h⟩:=QF h;refine DB.wo2 (x:=.s 0 (0+toNat g) (toNat (AI m:Int)-toNat g) 3) ?_ ?_ ?_
 iterate 2 refine vX (.s 0 (0+toNat g) (toNat (AI m:Int)-toNat g) 3) (QO (l:=m) t ET E7 (.inr ⟨_,Z,Z⟩) (.inl ⟨Z,Z⟩)) ?_;exact Wp
 refine DB.done Z (Bd h λah W h=>vH (Ql (e:=CC.c) W fy ET (K0 (b:=0) t)) ?_);refine Fg 8 Z Z (Bd h λai J h=>?_);refine vX (.s 0 (0+toNat 0) (toNat g-toNat 0) 3) (dD (l:=m) J ET E7) ?_;refine Go 1 Z (Bd h λaj X h=>vH (dC (e:=CC.c) J X fy ET (QE (i:=3))) ?_);exact au h
def Tp(h:CB)(f:AA CI)(d:(AA CC)×Int):AB (CG ((AA CC)×Int) (AA CC)):=(bif d.2<(AI f:Int) then AH (CJ f d.2) λg=>AH ((bif (g.AY==2)then AH (CJ f d.2) λG=>AH (CJ f d.2) λj=>AH (I9 n h d.1 G.A5.Am j.A5.Ag) λk=>AC k else(bif (g.AY==3)then AH (CJ f d.2) λm=>AH (CJ f d.2) λq=>AH (I9 n h d.1 m.Aa.Am q.Aa.Ag) λt=>AC t else(bif (g.AY==4)then AH (CJ f d.2) λx=>AH (CJ f d.2) λy=>AH (I9 n h d.1 x.An.Bs y.An.Bg) λz=>AH (CJ f d.2) λB=>AH (CJ f d.2) λE=>AH (I9 n h z B.An.Br E.An.Bf) λF=>AC F else AC d.1))):AB (AA CC)) λH=>AC (.k (H,i64.wrap (d.2+1)))else AC (.d d.1))
def dw(n:Nat)(y:AA CI)(f:(AA CC)×Int)(d:(AA CC)×Int):AB (CG ((AA CC)×Int) (AA CC)):=(bif 0<=d.2 then AH (CJ y d.2) λg=>AH (AH (CJ y d.2) λj=>(bif (j.AY==3)then AH (CJ d.1 f.2) λk=>(bif (g.Aa.Am==k.Am)then AH (CJ d.1 f.2) λm=>AC (g.Aa.Ag==m.Ag)else AC AD)else AC AD):AB Bool) λq=>AH ((bif q then AH (CJ d.1 f.2) λh=>AH (JG d.1 f.2 ({Am:=h.Am,Ag:=h.Ag,BK:=g.Aa.BB:CC})) λt=>AC t else AC d.1):AB (AA CC)) λx=>AC (.k (x,i64.wrap (d.2-1)))else AC (.d d.1))
def eA(g:AA CI)(d:(AA CC)×Int):AB (CG ((AA CC)×Int) (AA CC)):=(bif d.2<(AI d.1:Int) then AH (iter (dw n g d) n (d.1,i64.wrap ((AI g:Int)-1)):AB (AA CC)) λf=>AC (.k (f,i64.wrap (d.2+1)))else AC (.d d.1))
def MF(g:CB)(k:AA CI):AB ((AA CC)×Int):=AH (HD n g) λh=>(bif (h != 0)then AC ([],h)else AH (F8 n k) λj=>AH (iter (Tp n g j) n (([]:AA CC),0):AB (AA CC)) λd=>(bif 511<(AI d:Int) then AC ([],2)else AH (iter (eA n j) n (d,0):AB (AA CC)) λf=>AC (f,0)))
instance xp(a1:CB)(a2:AA CI):Kq (MF n a1 a2) 67 [.a (CB.c a1),.q 57 (map CI.c a2)] [] (λr=>.t [.o 0 (AI r.1) 3,I r.2]) (λr=>[.r 202 3 (map CC.c r.1)]):=by
 refine Kg 10 func67 Z Z Z Z λr h=>Cz [] h Kc Z λr1 bx h=>Go 10 Z (Cn Z h (λ_ h=>?_) (λ_ h=>?_))
 .refine Gc 9 Z ?_;obtain rfl:=Oi h;refine R2 4 5 Z Z ?_;refine Eo (Et (s:=4) (k:=3) (t:=202) (XR Z) Z) ?_;exact Lr [1]
 refine Gc 5 Z (Cd [] h Kc Z λr3 bz h=>Fg 5 Z Z (vH (El (xs:=[]) (es:=map CC.c []) fy Z Z Z Z Z trivial Z Z) ?_));refine Fg 9 Z Z (Bd h λM bn h=>Ct M [1,2] [7] (λM=>[(8,.o 1 (AI M) 3)]) (λM=>[(1,.r 202 3 (map CC.c M))]) Zf ?_ (λenv H F=>?_))
 .refine G0 1 Z (Lp [0,1,2] [2,7] (λg=>[(8,.o 2 (AI g.1) 3),(9,I g.2)]) (λg=>[(2,.r 202 3 (map CC.c g.1))]) bn Zf (Lr [0,1,2]) λg ca E av=>?_);refine G0 9 Z (Q7 Z E (λ_ E=>?_) (λ_ E=>?_))
  .exact Gc 2 Z (QI E (Gx 1 Z (DU av E (Lr [1,2]))))
  refine Gc 8 Z (Bd E λbo af E=>?_);refine vX (.p 1 (toNat g.2*57)) (Qf af Z EE EG) ?_;refine Fp Sf Z ?_;refine vX (I bo.AY) (EA Z EF Z (Qp (f:=3) af)) ?_;refine Go 9 Z (Bd E λN d E=>Ct N [0,1,0] [2,7,9] (λN=>[(8,.o 2 (AI N) 3)]) (λN=>[(2,.r 202 3 (map CC.c N))]) Zf ?_ (λenv H F=>?_))
  .refine G0 0 Z (Cn Z d (λ_ d=>?_) (λ_ d=>?_))
   .refine DR 14 Z (D 4 Z ?_);obtain⟨bp,ag,d⟩:=QF d;refine DS.v (x:=(.p 1 (toNat g.2*57))) (Qf ag Z EE EG) ?_;refine DS.wo (x:=.p 1 (toNat g.2*57+12)) ?_ ?_
    .exact Fp kh Z Wp
    refine DS.wo (x:=.p 1 (toNat g.2*57+12)) ?_ ?_
    .exact Fp kB Z Wp
    refine DS.v (x:=(I bp.A5.Am)) (EA Z EF Z (Qp (f:=12) ag)) ?_;refine D 2 Z ?_;obtain⟨ay,P,d⟩:=QF d;refine DS.v (x:=(.p 1 (toNat g.2*57))) (Qf P Z EE EG) ?_;refine DS.wo (x:=.p 1 (toNat g.2*57+12)) ?_ ?_
    .exact Fp kh Z Wp
    refine DS.wo (x:=.p 1 (toNat g.2*57+13)) ?_ ?_
    .exact Fp kC Z Wp
    refine DS.v (x:=(I ay.A5.Ag)) (EA Z EF Z (Qp (f:=13) P)) ?_;exact au d
   refine Gc 6 Z (Cn Z d (λ_ d=>?_) (λ_ d=>?_))
   .refine DR 14 Z (D 4 Z ?_);obtain⟨az,Q,d⟩:=QF d;refine DS.v (x:=(.p 1 (toNat g.2*57))) (Qf Q Z EE EG) ?_;refine DS.wo (x:=.p 1 (toNat g.2*57+16)) ?_ ?_
    .exact Fp gi Z Wp
    refine DS.wo (x:=.p 1 (toNat g.2*57+16)) ?_ ?_
    .exact Fp c? Z Wp
    refine DS.v (x:=(I az.Aa.Am)) (EA Z EF Z (Qp (f:=16) Q)) ?_;refine D 2 Z ?_;obtain⟨ba,R,d⟩:=QF d;refine DS.v (x:=(.p 1 (toNat g.2*57))) (Qf R Z EE EG) ?_;refine DS.wo (x:=.p 1 (toNat g.2*57+16)) ?_ ?_
    .exact Fp gi Z Wp
    refine DS.wo (x:=.p 1 (toNat g.2*57+17)) ?_ ?_
    .exact Fp d? Z Wp
    refine DS.v (x:=(I ba.Aa.Ag)) (EA Z EF Z (Qp (f:=17) R)) ?_;exact au d
   refine Gc 6 Z (Cn Z d (λ_ d=>?_) (λ_ d=>?_))
   .refine Gc 1 Z (DR 14 Z (D 4 Z ?_));obtain⟨bb,T,d⟩:=QF d;refine DS.v (x:=(.p 1 (toNat g.2*57))) (Qf T Z EE EG) ?_;refine DS.wo (x:=.p 1 (toNat g.2*57+21)) ?_ ?_
    .exact Fp dH Z Wp
    refine DS.wo (x:=.p 1 (toNat g.2*57+21)) ?_ ?_
    .exact Fp e? Z Wp
    refine DS.v (x:=(I bb.An.Bs)) (EA Z EF Z (Qp (f:=21) T)) ?_;refine D 2 Z ?_;obtain⟨bc,V,d⟩:=QF d;refine DS.v (x:=(.p 1 (toNat g.2*57))) (Qf V Z EE EG) ?_;refine DS.wo (x:=.p 1 (toNat g.2*57+21)) ?_ ?_
    .exact Fp dH Z Wp
    refine DS.wo (x:=.p 1 (toNat g.2*57+22)) ?_ ?_
    .exact Fp f? Z Wp
    refine DS.v (x:=(I bc.An.Bg)) (EA Z EF Z (Qp (f:=22) V)) ?_;refine Eh Z (Cd [2] d Kc Z λbr bq d=>Fg 3 Z Z (DR 14 Z (D 4 Z ?_)));obtain⟨bd,W,d⟩:=QF d;refine DS.v (x:=(.p 1 (toNat g.2*57))) (Qf W Z EE EG) ?_;refine DS.wo (x:=.p 1 (toNat g.2*57+21)) ?_ ?_
    .exact Fp dH Z Wp
    refine DS.wo (x:=.p 1 (toNat g.2*57+24)) ?_ ?_
    .exact Fp g? Z Wp
    refine DS.v (x:=(I bd.An.Br)) (EA Z EF Z (Qp (f:=24) W)) ?_;refine D 2 Z ?_;obtain⟨be,X,d⟩:=QF d;refine DS.v (x:=(.p 1 (toNat g.2*57))) (Qf X Z EE EG) ?_;refine DS.wo (x:=.p 1 (toNat g.2*57+21)) ?_ ?_
    .exact Fp dH Z Wp
    refine DS.wo (x:=.p 1 (toNat g.2*57+25)) ?_ ?_
    .exact Fp h? Z Wp
    refine DS.v (x:=(I be.An.Bf)) (EA Z EF Z (Qp (f:=25) X)) ?_;exact au d
   exact au d
  exact Gx 3 Z (Ef F (Gc 5 Z (Q1 E (Lr [0,1,2]))))
 refine Gx 1 Z (Ef F (Gc 8 Z (Cn Z h (λ_ h=>?_) (λ_ h=>?_))))
 .refine Gc 8 Z ?_;obtain rfl:=Oi h;refine R2 4 5 Z Z ?_;refine Eo (Et (s:=4) (k:=3) (t:=202) (XR Z) Z) ?_;exact Lr [2]
 refine Gc 8 Z (Bd h λG bg h=>Cg G [1] [] (λG=>[(8,.o 0 (AI G) 3)]) (λG=>[(0,.r 202 3 (map CC.c G))]) Zf ?_ ?_)
 .refine G0 1 Z (Lp [0,1] [7] (λq=>[(8,.o 1 (AI q.1) 3),(10,I q.2)]) (λq=>[(1,.r 202 3 (map CC.c q.1))]) bg Zf (Lr [0,1]) λq bs z ak=>?_);refine G0 9 Z (Q7 Z z (λ_ z=>?_) (λ_ z=>?_))
  .exact Gc 2 Z (QI z (Gx 1 Z (DU ak z (Lr [1]))))
  refine Gc 12 Z (Bd z λJ bh z=>Ct J [0,1] [7,10] (λJ=>[(8,.o 1 (AI J) 3)]) (λJ=>[(1,.r 202 3 (map CC.c J))]) Zf ?_ (λenv H F=>?_))
  .refine G0 1 Z (Lp [0,1] [7,10] (λB=>[(8,.o 1 (AI B.1) 3),(11,I B.2)]) (λB=>[(1,.r 202 3 (map CC.c B.1))]) bh Zf (Lr [0,1]) λB bu m am=>?_);refine G0 7 Z (Q7 Z m (λ_ m=>?_) (λ_ m=>?_))
   .exact Gc 2 Z (QI m (Gx 1 Z (DU am m (Lr [0,1]))))
   refine Gc 8 Z (Bd m λbi Y m=>?_);refine vX (.p 0 (toNat B.2*57)) (Qf Y Z EE EG) ?_;refine Fp gi Z ?_;refine vX (.a (Aa.c bi.Aa)) (Qv Z isAgg87 sizeOf87 Z (Qp (f:=16) Y) Z Z) ?_;refine Go 5 Z (Bd m λO j m=>Ct O [0,1,2] [7,8,10,11,12] (λO=>[(144,.b O)]) Ze Zf ?_ (λenv H F=>?_))
   .refine G0 0 Z (DR 24 Z (D 2 Z ?_));obtain⟨bj,aa,j⟩:=QF j;refine DS.v (x:=(.p 0 (toNat B.2*57))) (Qf aa Z EE EG) ?_;refine DS.wo (x:=.p 0 (toNat B.2*57+3)) ?_ ?_
    .exact Fp Sf Z Wp
    refine DS.v (x:=(I bj.AY)) (EA Z EF Z (Qp (f:=3) aa)) ?_;refine D 2 Z (DS.is 6 j Z Z Z (λ_ j=>?_) (λ_ j=>?_))
    .refine D 4 Z ?_;obtain⟨bk,ab,j⟩:=QF j;refine DS.v (x:=(.p 1 (toNat q.2*3))) (Qf ab Z ET E7) ?_ (hg:=(gT Z));refine DS.wo (x:=.p 1 (toNat q.2*3)) ?_ ?_
     .exact HR (gT Z) qN Z Wp
     refine DS.v (x:=(I bk.Am)) (EA Z EF Z (Qi ab)) ?_ (hg:=(gT Z));refine D 3 Z (DS.is 16 j Z Z Z (λ_ j=>?_) (λ_ j=>?_))
     .refine D 4 Z ?_;obtain⟨bl,ac,j⟩:=QF j;refine DS.v (x:=(.p 1 (toNat q.2*3))) (Qf ac Z ET E7) ?_ (hg:=(gT Z));refine DS.wo (x:=.p 1 (toNat q.2*3+1)) ?_ ?_
      .exact HR (gT Z) qO Z Wp
      refine DS.v (x:=(I bl.Ag)) (EA Z EF Z (Qp (f:=1) ac)) ?_ (hg:=(gT Z));exact au j
     exact au j
    exact au j
   refine Gx 1 Z (Ef F (Bd m λL y m=>Ct L [0,1] [7,10,11] (λL=>[(8,.o 1 (AI L) 3)]) (λL=>[(1,.r 202 3 (map CC.c L))]) Zf ?_ (λenv H F=>?_)))
   .refine G0 0 Z (Cn Z y (λ_ y=>?_) (λ_ y=>?_))
    .refine Gc 5 Z (Bd y λbv ad y=>?_);refine vX (.p 1 (toNat q.2*3)) (Qf ad Z ET E7) ?_;refine Fp Qn1 Z (Bd y λbw ae y=>?_);refine vU (Yv (e:=CC.c) (k:=3) (f:=2) ad ae ED Z Z) ?_;refine FE Z ?_;refine Eu (Q4 (s:=8) Z (congrArg (λn=>A.s 1 0 n 3) (Yl ae))) ?_;exact au y
    exact au y
   exact Gx 2 Z (Ef F (Gc 5 Z (Q1 m (Lr [0,1]))))
  exact Gx 2 Z (Ef F (Gc 5 Z (Q1 z (Lr [0,1]))))
 exact au h
def TH(n:Nat)(f:AA CC)(k:Int)(m:Int)(d:Int):AB (CG Int (CG Unit Int)):=(bif d<(AI f:Int) then AH (AH (CJ f d) λg=>(bif (g.Am==k)then AH (CJ f d) λh=>AC (h.Ag==m)else AC AD):AB Bool) λj=>(bif j then AC (.d (.d (i64.wrap (d+1))))else AC (.k (i64.wrap (d+1))))else AC (.d (.k ())))
def KR(g:AA CC)(h:Int)(j:Int):AB Int:=AH (iter (TH n g h j) n 0:AB (CG Unit Int)) λf=>match f with|.k d=>(AC 0)|.d d=>AC d
instance xu(d:AA CC)(f:Int)(g:Int):Ks (KR n d f g) 119 [.q 3 (map CC.c d),I f,I g] [] (λr=>I r):=KA func119
def Kk(n:Nat)(f:AA CC)(d:Int)(g:Int)(h:Int):AB CC:=(bif (d==0)then AC ({Am:=g,Ag:=h,BK:=0:CC})else AH (CJ f (i64.wrap (d-1))) λj=>AC j)
instance jk(d:AA CC)(f:Int)(g:Int)(h:Int):Kq (Kk n d f g h) 121 [.q 3 (map CC.c d),I f,I g,I h] [] (λr=>.a (CC.c r)) (λr=>[.c 202 (CC.c r)]):=KA func121
def PF(n:Nat)(g:Int)(f:Int):AB (Int×Int):=AH ((bif g<(-2199023255552) then AC AE else(bif 2199023255552<g then AC AE else(bif f<0 then AC AE else AC (AG (100000<f))))):AB Bool) λj=>(bif j then AC (0,1)else AH ((bif g<0 then AC (i64.wrap (0-g))else AC g):AB Int) λd=>AH ((bif (i64.wrap ((i64.wrap (Int.tdiv (i64.wrap (d*f)) 1000000))*1000000))<(i64.wrap (d*f)) then AC (i64.wrap ((i64.wrap (Int.tdiv (i64.wrap (d*f)) 1000000))+1))else AC (i64.wrap (Int.tdiv (i64.wrap (d*f)) 1000000))):AB Int) λh=>AC (h,0))
instance xN(k:Int)(m:Int):Ks (PF n k m) 189 [I k,I m] [] (λr=>.t [I r.1,I r.2]):=by
 refine Kg 8 func189 Z Z Z Z λr h=>Bd h λj y h=>Ct j [] [0,1] (λj=>[(20,.b j)]) Ze Zf ?_ (λenv H d=>?_)
 .exact au y
 refine Gx 1 Z (Ef d (Cn Z h (λ_ h=>?_) (λ_ h=>?_)))
 .exact au h
 refine Gc 9 Z (Bd h λf t h=>Ct f [] [1] (λf=>[(0,I f)]) Ze Zf ?_ (λenv H d=>?_))
 .exact au t
 refine Gx 1 Z (Ef d (Gc 5 Z (vV (CU.quo Z Z Z (by decide)) ?_)));refine Go 14 Z (Bd h λg x h=>Cg g [] [] (λg=>[(6,I g)]) Ze Zf ?_ ?_)
 .exact au x
 exact au h
def ZT(d:CB)(f:CC)(h:Int):AB CK:=AH (L9 n d f.Am) λj=>(bif j then AC ({Lo:=0,Hi:=d.AQ.Al:CK})else AH (PF n (i64.wrap (h-f.BK)) d.AQ.BG) λg=>AC ({Lo:=i64.wrap (0-g.1),Hi:=i64.wrap (d.AQ.Al+g.1):CK}))
instance ik(d:CB)(f:CC)(g:Int):Kq (ZT n d f g) 120 [.a (CB.c d),.a (CC.c f),I g] [] (λr=>.a [I r.Lo,I r.Hi]) (λr=>[.c 67 [I r.Lo,I r.Hi]]):=KA func120
def Tm(n:Nat)(g:(AA CC)×Int)(d:(AA Edge)×Int):AB (CG ((AA Edge)×Int) (AA Edge)):=(bif d.2<(AI g.1:Int) then AH (app d.1 [{A':=0,To:=i64.wrap (d.2+1),W:=1099511627776:Edge},{A':=i64.wrap (d.2+1),To:=0,W:=1099511627776:Edge}]) λf=>AC (.k (f,i64.wrap (d.2+1)))else AC (.d d.1))
def T9(z:CB)(h:AA CI)(f:(AA CC)×(AA Edge)×Int):AB (CG ((AA CC)×(AA Edge)×Int) ((AA CC)×(AA Edge))):=(bif f.2.2<(AI h:Int) then AH (AH (CJ h f.2.2) λd=>AH (AH (CJ h f.2.2) λk=>(bif (k.AY != 3)then AC AE else AH (I6 n z d.Aa.Am) λm=>AC (!m)):AB Bool) λq=>(bif q then AC f.2.1 else AH (KR n f.1 d.Aa.Am d.Aa.Ag) λg=>AH (Kk n f.1 g d.Aa.Am d.Aa.Ag) λt=>AH (ZT n z t d.Aa.BB) λj=>AH (app f.2.1 [{A':=0,To:=g,W:=i64.wrap ((i64.wrap ((i64.wrap (d.Aa.True+d.Aa.B7))-d.Aa.BB))-j.Lo):Edge},{A':=g,To:=0,W:=i64.wrap ((i64.wrap ((i64.wrap (d.Aa.BB+j.Hi))-d.Aa.True))+d.Aa.B7):Edge}]) λx=>AC x):AB (AA Edge)) λy=>AC (.k (f.1,y,i64.wrap (f.2.2+1)))else AC (.d (f.1,f.2.1)))
def TV(t:CB)(k:AA CI)(j:(AA CC)×(AA Edge))(f:(AA Edge)×Int):AB (CG ((AA Edge)×Int) (AA Edge)):=(bif f.2<(AI k:Int) then AH (AH (CJ k f.2) λd=>AH (AH (CJ k f.2) λx=>(bif (x.AY != 4)then AC AE else AH (I6 n t d.An.Bs) λy=>(bif (!y)then AC AE else AH (I6 n t d.An.Br) λz=>AC (!z))):AB Bool) λB=>(bif B then AC f.1 else AH (KR n j.1 d.An.Bs d.An.Bg) λg=>AH (KR n j.1 d.An.Br d.An.Bf) λh=>AH (Kk n j.1 g d.An.Bs d.An.Bg) λE=>AH (ZT n t E d.An.BZ) λm=>AH (Kk n j.1 h d.An.Br d.An.Bf) λF=>AH (ZT n t F d.An.BY) λq=>AH (app f.1 [{A':=g,To:=h,W:=i64.wrap ((i64.wrap ((i64.wrap ((i64.wrap (d.An.Bq-d.An.BY))-q.Lo))+d.An.BZ))+m.Hi):Edge},{A':=h,To:=g,W:=i64.wrap ((i64.wrap ((i64.wrap ((i64.wrap (d.An.BY+q.Hi))-d.An.BZ))-m.Lo))-d.An.Bp):Edge}]) λG=>AC G):AB (AA Edge)) λH=>AC (.k (H,i64.wrap (f.2+1)))else AC (.d f.1))
def O6(j:CB)(k:AA CI):AB (Int×(AA Edge)×Int):=AH (MF n j k) λd=>(bif (d.2 != 0)then AC (0,[],d.2)else AH (iter (Tm n d) n ([],0):AB (AA Edge)) λm=>AH (F8 n k) λg=>AH (iter (T9 n j g) n (d.1,m,0):AB ((AA CC)×(AA Edge))) λh=>AH (iter (TV n j g h) n (h.2,0):AB (AA Edge)) λf=>(bif 8192<(AI f:Int) then AC (0,[],2)else AC (i64.wrap ((AI d.1:Int)+1),f,0)))
instance xC(G:CB)(a2:AA CI):Kq (O6 n G a2) 65 [.a (CB.c G),.q 57 (map CI.c a2)] [] (λr=>.t [.a [I r.1,.q 3 (map Edge.c r.2.1)],I r.2.2]) (λr=>[.c 169 [I r.1,.q 3 (map Edge.c r.2.1)]]):=by
 refine Kg 11 func65 Z Z Z Z λr h=>Cd [] h Kc Z λE bw h=>Fg 14 Z Z (Cn Z h (λ_ h=>?_) (λ_ h=>?_))
 .exact au h
 refine Gc 7 Z ?_;refine vX (.a [I (i64.wrap ((AI E.1:Int)+1)),.n]) (CU.build (zs:=[I 0,.n]) zeroValue169 (Fh Z) zw) ?_;refine vH (da (v:=(.a [I 0,.n])) zeroValue169 (Fh Z)) ?_;refine Fg 9 Z Z (Bd h λb8 h9 h=>Ct b8 [0,1,2,3,0] [1,2,4,6,8] Ze (λb8=>[(3,.c 169 [I (i64.wrap ((AI E.1:Int)+1)),.o 4 (AI b8) 3]),(4,.r 254 3 (map Edge.c b8))]) Zf ?_ (λenv H V=>?_))
 .refine G0 1 Z (Lp [0,1,2,3,0] [1,2,4,6,8] (λX=>[(9,I X.2)]) (λX=>[(3,.c 169 [I (i64.wrap ((AI E.1:Int)+1)),.o 4 (AI X.1) 3]),(4,.r 254 3 (map Edge.c X.1))]) h9 Zf ?_ ?_)
  .refine Eo (Ya (i:=3) (m:=1) (t:=254) (k:=3) Z Z Z) ?_;exact Lr [0,1,2,3,4]
  intro X bx Q bd;refine G0 9 Z (Q7 Z Q (λ_ Q=>?_) (λ_ Q=>?_))
  .exact Gc 2 Z (QI Q (Gx 1 Z (DU bd Q (Lr [0,1,2,3,4]))))
  refine Gc 13 Z (vH (El (xs:=[.tmp 45,.tmp 48]) (es:=map Edge.c [{A':=0,To:=i64.wrap (X.2+1),W:=1099511627776:Edge},{A':=i64.wrap (X.2+1),To:=0,W:=1099511627776:Edge}]) X_ Z Z Z Z Z ⟨Z,Z,trivial⟩ Z Z) ?_);refine FE Z (Bd Q λbz bg Q=>vH (Ql (e:=Edge.c) bg X_ GD (QE (i:=5))) ?_);exact au Q
 refine Gx 1 Z (Ef V (Gc 3 Z (Cd [] h Kc Z λx br h=>Fg 9 Z Z (Bd h λR bn h=>Ct R [0,1,2,3,4] [2,4] (λR=>[(6,.q 3 (map CC.c R.1)),(8,.p 2 0),(10,.o 4 (AI x) 57)]) (λR=>[(2,.c 169 [I (i64.wrap ((AI E.1:Int)+1)),.o 3 (AI R.2) 3]),(3,.r 254 3 (map Edge.c R.2)),(4,.r 107 57 (map CI.c x))]) Zf ?_ (λenv H V=>?_)))))
 .refine G0 1 Z (Lp [0,1,3,4,5] [2,4,8,10] (λy=>[(6,.q 3 (map CC.c y.1)),(11,I y.2.2)]) (λy=>[(2,.c 169 [I (i64.wrap ((AI E.1:Int)+1)),.o 3 (AI y.2.1) 3]),(3,.r 254 3 (map Edge.c y.2.1))]) bn Zf ?_ ?_)
  .refine Eo (Yo [(6,_)] Z Z (Cy.cons Z Er Cy.nil) (Ec (Ec (Ec (QT _))))) ?_;exact Lr [0,1,3,4,5]
  intro y ca T bh;refine G0 9 Z (Q7 Z T (λ_ T=>?_) (λ_ T=>?_))
  .exact Gc 2 Z (QI T (Gx 1 Z (DU bh T (Lr [0,1,2,3,4]))))
  refine Gc 3 Z (Bd T λY z T=>Ct Y [0,1,2,3,4] [2,4,6,8,10,11] Ze (λY=>[(2,.c 169 [I (i64.wrap ((AI E.1:Int)+1)),.o 3 (AI Y) 3]),(3,.r 254 3 (map Edge.c Y))]) Zf ?_ (λenv H V=>?_))
  .refine G0 5 Z (Bd z λB ai z=>?_);refine vX (.p 4 (toNat y.2.2*57)) (Qf ai Z EE EG) ?_;refine Fp gi Z ?_;refine vX (.a (Aa.c B.Aa)) (Qv Z isAgg87 sizeOf87 Z (Qp (f:=16) ai) Z Z) ?_;refine Go 6 Z (Bd z λab ac z=>Ct ab [0,1,2,3,4,5] [2,4,6,8,10,11,12] (λab=>[(77,.b ab)]) Ze Zf ?_ (λenv H V=>?_))
   .refine G0 3 Z (Bd ac λbj aj ac=>?_);refine vX (.p 4 (toNat y.2.2*57)) (Qf aj Z EE EG) ?_;refine Fp Sf Z ?_;refine vX (I bj.AY) (EA Z EF Z (Qp (f:=3) aj)) ?_;exact au ac
   refine Gx 1 Z (Ef V (Cn Z z (λ_ z=>?_) (λ_ z=>?_)))
   .exact au z
   refine Gc 9 Z (Cz [] z Kc Z λad bo z=>Go 4 Z ?_);obtain⟨O,ak,z⟩:=QF z;obtain⟨J,al,z⟩:=QF z;refine Yu 12 1 [84,85,86,87,88,89,90,91,92,93,94,14] [AD,AD,AD,AD,AD,AD,AD,AE,AD,AD,AE,AE] [[],[],[],[],[],[],[],[],[],[],[7],[]] [[],[7],[11],[7,10],[7,11],[7,10,11]] [[(0,0),(1,1),(2,2),(4,4)],[(0,0),(2,2)],[(0,0),(2,2)],[(0,0),(2,2)],[(0,0),(2,2)],[(0,0),(2,2)],[(0,0),(2,2)],[(0,1),(2,4)],[(0,0),(1,1),(2,2),(4,4)],[(0,0),(1,1),(2,2),(4,4)],[(1,3),(4,5)],[(0,2),(1,4),(3,5)]] [.a (CB.c G),.q 3 (map CC.c y.1),I ad,.p 5 0,I B.Aa.Am,.p 5 1,I B.Aa.Ag,.a (CC.c O),.p 5 2,I B.Aa.BB,.a [I J.Lo,I J.Hi],.p 6 0] [[.c 33 (CB.c G),.c 169 [I 0,.q 3 (map Edge.c [])],.c 169 [I (i64.wrap ((AI E.1:Int)+1)),.o 3 (AI y.2.1) 3],.r 254 3 (map Edge.c y.2.1),.r 107 57 (map CI.c x),.c 87 (Aa.c B.Aa),.dead],[.c 33 (CB.c G),.c 169 [I 0,.q 3 (map Edge.c [])],.c 169 [I (i64.wrap ((AI E.1:Int)+1)),.o 3 (AI y.2.1) 3],.r 254 3 (map Edge.c y.2.1),.r 107 57 (map CI.c x),.c 87 (Aa.c B.Aa),.dead,.c 202 (CC.c O)],[.c 33 (CB.c G),.c 169 [I 0,.q 3 (map Edge.c [])],.c 169 [I (i64.wrap ((AI E.1:Int)+1)),.o 3 (AI y.2.1) 3],.r 254 3 (map Edge.c y.2.1),.r 107 57 (map CI.c x),.c 87 (Aa.c B.Aa),.c 67 [I 0,I 0]],[.c 33 (CB.c G),.c 169 [I 0,.q 3 (map Edge.c [])],.c 169 [I (i64.wrap ((AI E.1:Int)+1)),.o 3 (AI y.2.1) 3],.r 254 3 (map Edge.c y.2.1),.r 107 57 (map CI.c x),.c 87 (Aa.c B.Aa),.dead,.c 202 (CC.c O),.c 67 [I J.Lo,I J.Hi]],[.c 33 (CB.c G),.c 169 [I 0,.q 3 (map Edge.c [])],.c 169 [I (i64.wrap ((AI E.1:Int)+1)),.o 3 (AI y.2.1) 3],.r 254 3 (map Edge.c y.2.1),.r 107 57 (map CI.c x),.c 87 (Aa.c B.Aa),.c 67 [I 0,I 0],.c 202 (CC.c O)],[.c 33 (CB.c G),.c 169 [I 0,.q 3 (map Edge.c [])],.c 169 [I (i64.wrap ((AI E.1:Int)+1)),.o 3 (AI y.2.1) 3],.r 254 3 (map Edge.c y.2.1),.r 107 57 (map CI.c x),.c 87 (Aa.c B.Aa),.c 67 [I 0,I 0],.c 202 (CC.c O),.c 67 [I J.Lo,I J.Hi]]] ([.c 33 (CB.c G),.c 169 [I 0,.q 3 (map Edge.c [])],.c 169 [I (i64.wrap ((AI E.1:Int)+1)),.o 3 (AI y.2.1) 3],.r 254 3 (map Edge.c y.2.1),.r 107 57 (map CI.c x),.c 87 (Aa.c B.Aa),.c 67 [I 0,I 0],.c 202 (CC.c O),.c 67 [I J.Lo,I J.Hi]]) C' Z Z Z Z Z Z Z ?_ Z ?_
   .refine CL.cons (Qa (v0 Z Z) (Qa (v0 Z Z) (Qa (v0 Z Z) (Qa (v0 Z Z) (Qc))))) (CL.cons (Qa (v0 Z Z) (Qa (v0 Z Z) (Qc))) (CL.cons (Qa (v0 Z Z) (Qa (v0 Z Z) (Qc))) (CL.cons (Qa (v0 Z Z) (Qa (v0 Z Z) (Qc))) (CL.cons (Qa (v0 Z Z) (Qa (v0 Z Z) (Qc))) (CL.cons (Qa (v0 Z Z) (Qa (v0 Z Z) (Qc))) (CL.cons (Qa (v0 Z Z) (Qa (v0 Z Z) (Qc))) (CL.cons ?_ (CL.cons (Qa (v0 Z Z) (Qa (v0 Z Z) (Qa (v0 Z Z) (Qa (v0 Z Z) (Qc))))) (CL.cons (Qa (v0 Z Z) (Qa (v0 Z Z) (Qa (v0 Z Z) (Qa (v0 Z Z) (Qc))))) (CL.cons ?_ (CL.cons ?_ (CL.nil))))))))))))
    .refine Qa ?_ (Qa ?_ (Qc))
     iterate 2 refine Fu Z (sD 1 (sD 2 (sD 4 (sD 6 sN)))) ?_;refine Qh [] (C6.fn call121 Z Z Z) ((jk _ _ _ _ _).c _ ak) ?_;rintro _ _ ⟨rfl,rfl⟩;exact FE Z Wp
    .refine Qa ?_ (Qa ?_ (Qc))
     iterate 2 refine Fu Z (sD 0 (sD 7 (sD 9 sN))) ?_;refine Qh [] (C6.fn call120 Z Z Z) ((ik _ _ _ _).c _ al) ?_;rintro _ _ ⟨rfl,rfl⟩;exact FE Z Wp
    .refine Qa ?_ (Qa ?_ (Qa ?_ (Qc)))
     iterate 3 exact Jk.alloc _ 14 67 6 _ Z Z Z Z Z Z Z (Im.alloc (v:=(.a [I 0,I 0])) EJ (Fh Z)) Z
   refine Go 32 Z (vH (El (xs:=[.tmp 109,.tmp 122]) (es:=map Edge.c [{A':=0,To:=ad,W:=i64.wrap ((i64.wrap ((i64.wrap (B.Aa.True+B.Aa.B7))-B.Aa.BB))-J.Lo):Edge},{A':=ad,To:=0,W:=i64.wrap ((i64.wrap ((i64.wrap (B.Aa.BB+J.Hi))-B.Aa.True))+B.Aa.B7):Edge}]) X_ Z Z Z Z Z ⟨Z,Z,trivial⟩ Z Z) ?_);refine FE Z (Bd z λbs ax z=>vH (Ql (e:=Edge.c) ax X_ GD (QE (i:=9))) ?_);exact au z
  exact Gx 1 Z (Ef V (Gc 5 Z (Q1 T (Lr [0,1,2,3,4]))))
 refine Gx 1 Z (Ef V (Gc 6 Z (Bd h λN bk h=>Cg N [1,2,3] [4,8] Ze (λN=>[(1,.c 169 [I (i64.wrap ((AI E.1:Int)+1)),.o 2 (AI N) 3]),(2,.r 254 3 (map Edge.c N))]) Zf ?_ ?_)))
 .refine G0 1 Z (Lp [0,1,2,3,4] [2,4,6,8,10] (λg=>[(15,I g.2)]) (λg=>[(2,.c 169 [I (i64.wrap ((AI E.1:Int)+1)),.o 3 (AI g.1) 3]),(3,.r 254 3 (map Edge.c g.1))]) bk Zf (Lr [0,1,2,3,4]) λg bu M ay=>?_);refine G0 9 Z (Q7 Z M (λ_ M=>?_) (λ_ M=>?_))
  .exact Gc 2 Z (QI M (Gx 1 Z (DU ay M (Lr [1,2,3]))))
  refine Gc 3 Z (Bd M λaa q M=>Cg aa [0,1,2,3,4] [2,4,6,8,10,15] Ze (λaa=>[(2,.c 169 [I (i64.wrap ((AI E.1:Int)+1)),.o 3 (AI aa) 3]),(3,.r 254 3 (map Edge.c aa))]) Zf ?_ ?_)
  .refine G0 5 Z (Bd q λj am q=>?_);refine vX (.p 4 (toNat g.2*57)) (Qf am Z EE EG) ?_;refine Fp dH Z ?_;refine vX (.a (An.c j.An)) (Qv Z isAgg89 sizeOf89 Z (Qp (f:=21) am) Z Z) ?_;refine Go 6 Z (Bd q λae af q=>Cg ae [0,1,2,3,4,5] [2,4,6,8,10,15,16] (λae=>[(156,.b ae)]) Ze Zf ?_ ?_)
   .refine G0 3 Z (Bd af λbl an af=>?_);refine vX (.p 4 (toNat g.2*57)) (Qf an Z EE EG) ?_;refine Fp Sf Z ?_;refine vX (I bl.AY) (EA Z EF Z (Qp (f:=3) an)) ?_;exact au af
   refine Cn Z q (λ_ q=>?_) (λ_ q=>?_)
   .exact au q
   refine Gc 9 Z (Cz [] q Kc Z λag bp q=>Go 10 Z (Cz [] q Kc Z λah bq q=>Go 4 Z ?_));obtain⟨F,ao,q⟩:=QF q;obtain⟨d,aq,q⟩:=QF q;refine Yu 12 1 [169,170,171,172,173,174,175,176,177,178,179,19] [AD,AD,AD,AD,AD,AD,AD,AE,AD,AD,AE,AE] [[],[],[],[],[],[],[],[],[],[],[7],[]] [[],[7],[11],[7,10],[7,11],[7,10,11]] [[(0,0),(1,1),(2,2),(4,4)],[(0,0),(2,2)],[(0,0),(2,2)],[(0,0),(2,2)],[(0,0),(2,2)],[(0,0),(2,2)],[(0,0),(2,2)],[(0,1),(2,4)],[(0,0),(1,1),(2,2),(4,4)],[(0,0),(1,1),(2,2),(4,4)],[(1,3),(4,5)],[(0,2),(1,4),(3,5)]] [.a (CB.c G),.q 3 (map CC.c R.1),I ag,.p 5 0,I j.An.Bs,.p 5 1,I j.An.Bg,.a (CC.c F),.p 5 2,I j.An.BZ,.a [I d.Lo,I d.Hi],.p 6 0] [[.c 33 (CB.c G),.c 169 [I 0,.q 3 (map Edge.c [])],.c 169 [I (i64.wrap ((AI E.1:Int)+1)),.o 3 (AI g.1) 3],.r 254 3 (map Edge.c g.1),.r 107 57 (map CI.c x),.c 89 (An.c j.An),.dead],[.c 33 (CB.c G),.c 169 [I 0,.q 3 (map Edge.c [])],.c 169 [I (i64.wrap ((AI E.1:Int)+1)),.o 3 (AI g.1) 3],.r 254 3 (map Edge.c g.1),.r 107 57 (map CI.c x),.c 89 (An.c j.An),.dead,.c 202 (CC.c F)],[.c 33 (CB.c G),.c 169 [I 0,.q 3 (map Edge.c [])],.c 169 [I (i64.wrap ((AI E.1:Int)+1)),.o 3 (AI g.1) 3],.r 254 3 (map Edge.c g.1),.r 107 57 (map CI.c x),.c 89 (An.c j.An),.c 67 [I 0,I 0]],[.c 33 (CB.c G),.c 169 [I 0,.q 3 (map Edge.c [])],.c 169 [I (i64.wrap ((AI E.1:Int)+1)),.o 3 (AI g.1) 3],.r 254 3 (map Edge.c g.1),.r 107 57 (map CI.c x),.c 89 (An.c j.An),.dead,.c 202 (CC.c F),.c 67 [I d.Lo,I d.Hi]],[.c 33 (CB.c G),.c 169 [I 0,.q 3 (map Edge.c [])],.c 169 [I (i64.wrap ((AI E.1:Int)+1)),.o 3 (AI g.1) 3],.r 254 3 (map Edge.c g.1),.r 107 57 (map CI.c x),.c 89 (An.c j.An),.c 67 [I 0,I 0],.c 202 (CC.c F)],[.c 33 (CB.c G),.c 169 [I 0,.q 3 (map Edge.c [])],.c 169 [I (i64.wrap ((AI E.1:Int)+1)),.o 3 (AI g.1) 3],.r 254 3 (map Edge.c g.1),.r 107 57 (map CI.c x),.c 89 (An.c j.An),.c 67 [I 0,I 0],.c 202 (CC.c F),.c 67 [I d.Lo,I d.Hi]]] ([.c 33 (CB.c G),.c 169 [I 0,.q 3 (map Edge.c [])],.c 169 [I (i64.wrap ((AI E.1:Int)+1)),.o 3 (AI g.1) 3],.r 254 3 (map Edge.c g.1),.r 107 57 (map CI.c x),.c 89 (An.c j.An),.c 67 [I 0,I 0],.c 202 (CC.c F),.c 67 [I d.Lo,I d.Hi]]) C' Z Z Z Z Z Z Z ?_ Z ?_
   .refine CL.cons (Qa (v0 Z Z) (Qa (v0 Z Z) (Qa (v0 Z Z) (Qa (v0 Z Z) (Qc))))) (CL.cons (Qa (v0 Z Z) (Qa (v0 Z Z) (Qc))) (CL.cons (Qa (v0 Z Z) (Qa (v0 Z Z) (Qc))) (CL.cons (Qa (v0 Z Z) (Qa (v0 Z Z) (Qc))) (CL.cons (Qa (v0 Z Z) (Qa (v0 Z Z) (Qc))) (CL.cons (Qa (v0 Z Z) (Qa (v0 Z Z) (Qc))) (CL.cons (Qa (v0 Z Z) (Qa (v0 Z Z) (Qc))) (CL.cons ?_ (CL.cons (Qa (v0 Z Z) (Qa (v0 Z Z) (Qa (v0 Z Z) (Qa (v0 Z Z) (Qc))))) (CL.cons (Qa (v0 Z Z) (Qa (v0 Z Z) (Qa (v0 Z Z) (Qa (v0 Z Z) (Qc))))) (CL.cons ?_ (CL.cons ?_ (CL.nil))))))))))))
    .refine Qa ?_ (Qa ?_ (Qc))
     iterate 2 refine Fu Z (sD 1 (sD 2 (sD 4 (sD 6 sN)))) ?_;refine Qh [] (C6.fn call121 Z Z Z) ((jk _ _ _ _ _).c _ ao) ?_;rintro _ _ ⟨rfl,rfl⟩;exact FE Z Wp
    .refine Qa ?_ (Qa ?_ (Qc))
     iterate 2 refine Fu Z (sD 0 (sD 7 (sD 9 sN))) ?_;refine Qh [] (C6.fn call120 Z Z Z) ((ik _ _ _ _).c _ aq) ?_;rintro _ _ ⟨rfl,rfl⟩;exact FE Z Wp
    .refine Qa ?_ (Qa ?_ (Qa ?_ (Qc)))
     iterate 3 exact Jk.alloc _ 19 67 6 _ Z Z Z Z Z Z Z (Im.alloc (v:=(.a [I 0,I 0])) EJ (Fh Z)) Z
   refine Go 4 Z ?_;obtain⟨P,ar,q⟩:=QF q;obtain⟨L,av,q⟩:=QF q;refine Yu 12 1 [180,181,182,183,184,185,186,187,188,189,190,20] [AD,AD,AD,AD,AD,AD,AD,AE,AD,AD,AE,AE] [[],[],[],[],[],[],[],[],[],[],[7],[]] [[],[7],[11],[7,10],[7,11],[7,10,11]] [[(0,0),(1,1),(2,2),(4,4)],[(0,0),(2,2)],[(0,0),(2,2)],[(0,0),(2,2)],[(0,0),(2,2)],[(0,0),(2,2)],[(0,0),(2,2)],[(0,1),(2,4)],[(0,0),(1,1),(2,2),(4,4)],[(0,0),(1,1),(2,2),(4,4)],[(1,3),(4,5)],[(0,2),(1,4),(3,5)]] [.a (CB.c G),.q 3 (map CC.c R.1),I ah,.p 5 3,I j.An.Br,.p 5 4,I j.An.Bf,.a (CC.c P),.p 5 5,I j.An.BY,.a [I L.Lo,I L.Hi],.p 9 0] [[.c 33 (CB.c G),.c 169 [I 0,.q 3 (map Edge.c [])],.c 169 [I (i64.wrap ((AI E.1:Int)+1)),.o 3 (AI g.1) 3],.r 254 3 (map Edge.c g.1),.r 107 57 (map CI.c x),.c 89 (An.c j.An),.c 67 [I d.Lo,I d.Hi],.c 202 (CC.c F),.c 67 [I d.Lo,I d.Hi],.dead],[.c 33 (CB.c G),.c 169 [I 0,.q 3 (map Edge.c [])],.c 169 [I (i64.wrap ((AI E.1:Int)+1)),.o 3 (AI g.1) 3],.r 254 3 (map Edge.c g.1),.r 107 57 (map CI.c x),.c 89 (An.c j.An),.c 67 [I d.Lo,I d.Hi],.c 202 (CC.c F),.c 67 [I d.Lo,I d.Hi],.dead,.c 202 (CC.c P)],[.c 33 (CB.c G),.c 169 [I 0,.q 3 (map Edge.c [])],.c 169 [I (i64.wrap ((AI E.1:Int)+1)),.o 3 (AI g.1) 3],.r 254 3 (map Edge.c g.1),.r 107 57 (map CI.c x),.c 89 (An.c j.An),.c 67 [I d.Lo,I d.Hi],.c 202 (CC.c F),.c 67 [I d.Lo,I d.Hi],.c 67 [I 0,I 0]],[.c 33 (CB.c G),.c 169 [I 0,.q 3 (map Edge.c [])],.c 169 [I (i64.wrap ((AI E.1:Int)+1)),.o 3 (AI g.1) 3],.r 254 3 (map Edge.c g.1),.r 107 57 (map CI.c x),.c 89 (An.c j.An),.c 67 [I d.Lo,I d.Hi],.c 202 (CC.c F),.c 67 [I d.Lo,I d.Hi],.dead,.c 202 (CC.c P),.c 67 [I L.Lo,I L.Hi]],[.c 33 (CB.c G),.c 169 [I 0,.q 3 (map Edge.c [])],.c 169 [I (i64.wrap ((AI E.1:Int)+1)),.o 3 (AI g.1) 3],.r 254 3 (map Edge.c g.1),.r 107 57 (map CI.c x),.c 89 (An.c j.An),.c 67 [I d.Lo,I d.Hi],.c 202 (CC.c F),.c 67 [I d.Lo,I d.Hi],.c 67 [I 0,I 0],.c 202 (CC.c P)],[.c 33 (CB.c G),.c 169 [I 0,.q 3 (map Edge.c [])],.c 169 [I (i64.wrap ((AI E.1:Int)+1)),.o 3 (AI g.1) 3],.r 254 3 (map Edge.c g.1),.r 107 57 (map CI.c x),.c 89 (An.c j.An),.c 67 [I d.Lo,I d.Hi],.c 202 (CC.c F),.c 67 [I d.Lo,I d.Hi],.c 67 [I 0,I 0],.c 202 (CC.c P),.c 67 [I L.Lo,I L.Hi]]] ([.c 33 (CB.c G),.c 169 [I 0,.q 3 (map Edge.c [])],.c 169 [I (i64.wrap ((AI E.1:Int)+1)),.o 3 (AI g.1) 3],.r 254 3 (map Edge.c g.1),.r 107 57 (map CI.c x),.c 89 (An.c j.An),.c 67 [I d.Lo,I d.Hi],.c 202 (CC.c F),.c 67 [I d.Lo,I d.Hi],.c 67 [I 0,I 0],.c 202 (CC.c P),.c 67 [I L.Lo,I L.Hi]]) C' Z Z Z Z Z Z Z ?_ Z ?_
   .refine CL.cons (Qa (v0 Z Z) (Qa (v0 Z Z) (Qa (v0 Z Z) (Qa (v0 Z Z) (Qc))))) (CL.cons (Qa (v0 Z Z) (Qa (v0 Z Z) (Qc))) (CL.cons (Qa (v0 Z Z) (Qa (v0 Z Z) (Qc))) (CL.cons (Qa (v0 Z Z) (Qa (v0 Z Z) (Qc))) (CL.cons (Qa (v0 Z Z) (Qa (v0 Z Z) (Qc))) (CL.cons (Qa (v0 Z Z) (Qa (v0 Z Z) (Qc))) (CL.cons (Qa (v0 Z Z) (Qa (v0 Z Z) (Qc))) (CL.cons ?_ (CL.cons (Qa (v0 Z Z) (Qa (v0 Z Z) (Qa (v0 Z Z) (Qa (v0 Z Z) (Qc))))) (CL.cons (Qa (v0 Z Z) (Qa (v0 Z Z) (Qa (v0 Z Z) (Qa (v0 Z Z) (Qc))))) (CL.cons ?_ (CL.cons ?_ (CL.nil))))))))))))
    .refine Qa ?_ (Qa ?_ (Qc))
     iterate 2 refine Fu Z (sD 1 (sD 2 (sD 4 (sD 6 sN)))) ?_;refine Qh [] (C6.fn call121 Z Z Z) ((jk _ _ _ _ _).c _ ar) ?_;rintro _ _ ⟨rfl,rfl⟩;exact FE Z Wp
    .refine Qa ?_ (Qa ?_ (Qc))
     iterate 2 refine Fu Z (sD 0 (sD 7 (sD 9 sN))) ?_;refine Qh [] (C6.fn call120 Z Z Z) ((ik _ _ _ _).c _ av) ?_;rintro _ _ ⟨rfl,rfl⟩;exact FE Z Wp
    .refine Qa ?_ (Qa ?_ (Qa ?_ (Qc)))
     iterate 3 exact Jk.alloc _ 20 67 9 _ Z Z Z Z Z Z Z (Im.alloc (v:=(.a [I 0,I 0])) EJ (Fh Z)) Z
   refine Go 40 Z (vH (El (xs:=[.tmp 209,.tmp 226]) (es:=map Edge.c [{A':=ag,To:=ah,W:=i64.wrap ((i64.wrap ((i64.wrap ((i64.wrap (j.An.Bq-j.An.BY))-L.Lo))+j.An.BZ))+d.Hi):Edge},{A':=ah,To:=ag,W:=i64.wrap ((i64.wrap ((i64.wrap ((i64.wrap (j.An.BY+L.Hi))-j.An.BZ))-d.Lo))-j.An.Bp):Edge}]) X_ Z Z Z Z Z ⟨Z,Z,trivial⟩ Z Z) ?_);refine FE Z (Bd q λbv bb q=>vH (Ql (e:=Edge.c) bb X_ GD (QE (i:=12))) ?_);exact au q
  exact au M
 refine Gc 9 Z (Cn Z h (λ_ h=>?_) (λ_ h=>?_))
 .exact au h
 refine Gc 10 Z ?_;obtain rfl:=Oi h;refine⟨[(4,.p 0 0),(5,I ((i64.wrap ((AI E.1:Int)+1),N,0).2.2))],[.c 169 [I ((i64.wrap ((AI E.1:Int)+1),N,0).1),.q 3 (map Edge.c ((i64.wrap ((AI E.1:Int)+1),N,0).2.1))]],_,?_,QH Z Z (C4.cons (Yg isAgg169 sizeOf169 Z Z Z) (C4.cons Dq.tmp C4.nil)),Z,Z⟩;refine Eo (Yo (i:=2) [] Z Z Cy.nil (Dh.cells (Ed (Ee _) (Ed Er (Ek _))) (Dh.cells (Ed (Ee _) (Ed Er (Ek _))) (Ec (QT _))))) ?_;exact Lr [0]
def Sn(n:Nat)(g:Cm)(f:Int):AB (CG Int (CG Unit Int)):=(bif f<(AI g.Bn:Int) then AH (CJ g.Bn f) λd=>AH ((bif d.A'<0 then AC AE else(bif g.Ax<=d.A' then AC AE else(bif d.To<0 then AC AE else(bif g.Ax<=d.To then AC AE else(bif d.W<(-35184372088832) then AC AE else AC (AG (35184372088832<d.W))))))):AB Bool) λh=>(bif h then AC (.d (.d 150))else AC (.k (i64.wrap (f+1))))else AC (.d (.k ())))
def Oa(f:Cm):AB Int:=AH ((bif f.Ax<1 then AC AE else(bif 512<f.Ax then AC AE else AC (AG (8192<(AI f.Bn:Int))))):AB Bool) λh=>(bif h then AC 150 else AH (iter (Sn n f) n 0:AB (CG Unit Int)) λg=>match g with|.k d=>(AC 0)|.d d=>AC d)
instance wi(d:Cm):Ks (Oa n d) 122 [.a (Cm.c d)] [] (λr=>I r):=KA func122
def chk(b:Bool):AB Unit:=bif b then AC ()else AF
def Nr(n:Nat)(v:Int)(s:(AA Int)×Int):AB (CG ((AA Int)×Int) (AA Int)):=(bif s.2<v then AH (CJ s.1 s.2) λx=>AH (JG s.1 s.2 1152921504606846976) λl=>AC (.k (l,i64.wrap (s.2+1)))else AC (.d s.1))
def Np(v:Int)(s:(AA (AA Int))×Int):AB (CG ((AA (AA Int))×Int) (AA (AA Int))):=(bif s.2<v then AH (chk (s.2==(AI s.1:Int))) λu=>AH (mk v 0) λf=>AH (iter (Nr n v) n (f,0)) λd=>AH (CJ d s.2) λx=>AH (JG d s.2 0) λg=>AC (.k (s.1++[g],i64.wrap (s.2+1)))else AC (.d s.1))
def Ne(n:Nat)(E:AA Edge)(s:(AA (AA Int))×Int):AB (CG ((AA (AA Int))×Int) (AA (AA Int))):=(bif s.2<(AI E:Int) then AH (CJ E s.2) λx=>AH (CJ s.1 x.A') λr=>AH (CJ r x.To) λy=>AH (JG r x.To (if x.W<y then x.W else y)) λr'=>AC (.k (s.1.set x.A'.toNat r',i64.wrap (s.2+1)))else AC (.d s.1))
def TO(m i k:Int)(T:AA (AA Int)):AB (AA (AA Int)):=AH (CJ T i) λr=>AH (CJ r m) λa=>(bif (a != 1152921504606846976)then AH (CJ T m) λq=>AH (CJ q k) λb=>(bif (b != 1152921504606846976)then AH (CJ r k) λy=>AH (JG r k (if i64.wrap (a+b)<y then i64.wrap (a+b)else y)) λr'=>AC (T.set i.toNat r')else AC T)else AC T)
def Ni(n:Nat)(v m i:Int)(s:(AA (AA Int))×Int):AB (CG ((AA (AA Int))×Int) (AA (AA Int))):=(bif s.2<v then AH (TO m i s.2 s.1) λt=>AC (.k (t,i64.wrap (s.2+1)))else AC (.d s.1))
def Nu(v m:Int)(s:(AA (AA Int))×Int):AB (CG ((AA (AA Int))×Int) (AA (AA Int))):=(bif s.2<v then AH (iter (Ni n v m s.2) n (s.1,0)) λt=>AC (.k (t,i64.wrap (s.2+1)))else AC (.d s.1))
def Na(n:Nat)(v:Int)(T:AA (AA Int))(s:Int):AB (CG Int (CG Unit Unit)):=(bif s<v then AH (CJ T s) λr=>AH (CJ r s) λa=>(bif a<0 then AC (.d (.d ()))else AC (.k (i64.wrap (s+1))))else AC (.d (.k ())))
def Th(v:Int)(s:(AA (AA Int))×Int):AB (CG ((AA (AA Int))×Int) (CG (AA (AA Int)) Unit)):=(bif s.2<v then AH (iter (Nu n v s.2) n (s.1,0)) λt=>AH (iter (Na n v t) n 0) λd=>match d with|.k _=>AC (.k (t,i64.wrap (s.2+1)))|.d _=>AC (.d (.d ()))else AC (.d (.k s.1)))
def PR(f:Cm):AB ((AA (AA Int))×Bool):=AH (mk f.Ax ()) λz=>AH (iter (Np n f.Ax) n ([],0)) λt0=>AH (chk (AI t0==f.Ax.toNat)) λu=>AH (iter (Ne n f.Bn) n (t0,0)) λt1=>AH (iter (Th n f.Ax) n (t1,0)) λd=>match d with|.k t=>AC (t,AE)|.d _=>AC ([],AD)
theorem oB{b:Bool}{u:Unit}(h:chk b=AC u):b=true:=by
  cases b with
  |true=>rfl
  |false=>cases h
theorem i6(g:Cm)(r:(AA (AA Int))×Bool)(h:PR n g=AC r):m5 prog 123 [.a (Cm.c g)] [] (λr=>.t [.q 1 (map (Qx 1 (Qe .i64)) r.1),.b r.2]) r:=by
 refine gj func123 Z Z Z ?_;refine G0 17 Z (Bd h λz hz h=>?_);obtain⟨z0,F,O⟩:=n7 hz;have E:AI z=g.Ax.toNat:=by rw[<- O];simp
 refine vH (_L (e:=λ_=>[A.nils]) (zv:=()) (a:=.n) hz np zeroValue114 ZR.nils Z Z Z Z) ?_;refine Bd h λt0 ht0 h=>Go 10 Z ?_;refine TC.loop (λs:(AA (AA Int))×Int=>[(1,.p 0 0),(4,I g.Ax),(5,.o 1 g.Ax.toNat 1),(6,I s.2)]) (λs=>[.c 169 (Cm.c g),.R 114 1 (HB 2 s.1 (g.Ax.toNat-(AI s.1)))]++QZ 3 s.1) ht0 ?_ (λs d hs hb=>?_)
 · refine Eo (Jn ?_) (Y2 ⟨Z,Z,?_,Z,trivial⟩)
   · rw[<- O]
     simp[Qm0,QZ,Cm.c]
   · exact congrArg (λm=>A.s 1 0 m 1) E
 refine G0 8 Z (Q7 Z hs (λhc hs=>?_) (λhc hs=>?_))
 · refine Gc 2 Z ?_
   refine QI hs ?_;obtain rfl:=Oj hb hs;refine Bd h λu hu h=>?_;have hn:AI s.1=g.Ax.toNat:=by simpa using oB hu
   refine Bd h λt1 ht1 h=>Gx 9 Z ?_;refine TC.loop (λq:(AA (AA Int))×Int=>[(1,.p 0 0),(4,I g.Ax),(5,.o 1 (AI q.1) 1),(8,I q.2)]) (λq=>[.c 169 (Cm.c g),.R 114 1 (YK 2 q.1)]++QZ 3 q.1) ht1 ?_ (λs d hs hb=>?_)
   · refine Eo (Jn (H':=[CW.cells 169 (Cm.c g),.R 114 1 (YK 2 s.1)]++QZ 3 s.1) ?_) ?_
     · rw[hn,Nat.sub_self];simp[HB]
     · exact Y2 ⟨Z,Z,congrArg (λm=>A.s 1 0 m 1) hn.symm,Z,trivial⟩
   clear E O hn;refine G0 6 Z (Lg 3 Z Z (Q7 Z hs (λhc hs=>?_) (λhc hs=>?_)))
   · refine Gc 2 Z ?_
     refine QI hs ?_;obtain rfl:=Oj hb hs;refine Bd h λdd hdd h=>Gx 9 Z ?_;refine TC.loop (λq:(AA (AA Int))×Int=>[(4,I g.Ax),(5,.o 1 (AI q.1) 1),(10,I q.2)]) (λq=>[.c 169 (Cm.c g),.R 114 1 (YK 2 q.1)]++QZ 3 q.1) hdd ?_ (λq d hq H=>?_)
     · exact Y2 ⟨Z,Z,Z,trivial⟩
     refine G0 8 Z (Q7 Z hq (λhc hq=>?_) (λhc hq=>?_))
     · refine Gc 2 Z ?_
       refine QI hq ?_;obtain rfl:=Oj H hq;refine Gx 1 Z (Ef (_K (s:=5) (i:=1) (b:=2) (t1:=3) (e:=Qe .i64) (rows:=q.1) Z (by omega) Z Z (λj r hj=>YO [_,_] hj)) (Gc 8 Z ?_));exact au h
     refine Bd hq λT1 hT1 hq=>Bd hq λdg hdg hq=>Gc 11 Z ?_;refine TC.loop (λw:(AA (AA Int))×Int=>[(4,I g.Ax),(5,.o 1 (AI w.1) 1),(10,I q.2),(11,I w.2)]) (λw=>[.c 169 (Cm.c g),.R 114 1 (YK 2 w.1)]++QZ 3 w.1) hT1 ?_ (λw d hw Q=>?_)
     · exact Y2 ⟨Z,Z,Z,Z,trivial⟩
     refine G0 8 Z (Q7 Z hw (λhc hw=>?_) (λhc hw=>?_))
     · refine Gc 2 Z ?_
       refine QI hw ?_;obtain rfl:=Oj Q hw;refine Gx 8 Z ?_;refine TC.loop (λc:Int=>[(4,I g.Ax),(5,.o 1 (AI w.1) 1),(10,I q.2),(13,I c)]) (λc=>[.c 169 (Cm.c g),.R 114 1 (YK 2 w.1)]++QZ 3 w.1) hdg ?_ (λc d hc J=>?_)
       · exact Y2 ⟨Z,Z,Z,Z,trivial⟩
       refine G0 8 Z (Q7 Z hc (λ_ hc=>?_) (λ_ hc=>?_))
       · refine Gc 2 Z ?_
         refine QI hc ?_;obtain rfl:=Oj J hc;refine Gx 8 Z ?_;refine Q1 hq (Y2 ⟨Z,Z,Z,trivial⟩)
       refine Bd hc λrr hrr hc=>Bd hc λa ha hc=>?_;have B:=(KK hrr).2;refine Gc 8 Z ?_;refine vV (x:=.p 1 (c.toNat*1)) (Qf (l:=w.1) hrr Z EH EO) ?_;refine vV (x:=.s (2+c.toNat) 0 (AI rr) 1) (EA Z Gh Z (DZ.rowr (e:=c.toNat) (f:=0) Z (by omega) (Ji B) Z)) ?_;refine Go 1 Z ?_;refine vV (x:=.p (2+c.toNat) (c.toNat*1)) (Qf (l:=rr) ha Z EC ED) ?_;refine vV (x:=I a) (EA Z EF Z (Qi ha (hH:=YO [_,_] B))) ?_;refine Go 3 Z (Cn Z hc (λ_ hc=>?_) (λ_ hc=>?_))
       · refine Gc 9 Z ?_
         refine Il hc ?_;obtain rfl:=Oj J hc;refine Gx 3 Z ?_;refine Il hq ?_;obtain rfl:=Oj H hq;refine Gx 2 Z ?_;obtain rfl:=Oi h;exact R2 2 3 Z Z (Eo (gO (s:=2) (k:=1) Z) (Lr []))
       refine Gc 8 Z ?_;refine Q1 hc (Y2 ⟨Z,Z,Z,Z,trivial⟩)
     refine Bd hw λT2 hT2 hw=>Gc 10 Z ?_;refine TC.loop (λy:(AA (AA Int))×Int=>[(4,I g.Ax),(5,.o 1 (AI y.1) 1),(10,I q.2),(11,I w.2),(12,I y.2)]) (λy=>[.c 169 (Cm.c g),.R 114 1 (YK 2 y.1)]++QZ 3 y.1) hT2 ?_ (λy d hy X=>?_)
     · exact Y2 ⟨Z,Z,Z,Z,Z,trivial⟩
     refine G0 8 Z (Q7 Z hy (λhc hy=>?_) (λhc hy=>?_))
     · refine Gc 2 Z ?_
       refine QI hy ?_;obtain rfl:=Oj X hy;refine Gx 8 Z ?_;refine Q1 hw (Y2 ⟨Z,Z,Z,Z,trivial⟩)
     refine Bd hy λt ht hy=>?_;obtain⟨r,hr,ht⟩:=QF ht;obtain⟨a,ha,ht⟩:=QF ht;have hrr:=(KK hr).2;refine Gc 8 Z ?_;refine vV (x:=.p 1 (w.2.toNat*1)) (Qf (l:=y.1) hr Z EH EO) ?_;refine vV (x:=.s (2+w.2.toNat) 0 (AI r) 1) (EA Z Gh Z (DZ.rowr (e:=w.2.toNat) (f:=0) Z (by omega) (Ji hrr) Z)) ?_;refine Go 1 Z ?_;refine vV (x:=.p (2+w.2.toNat) (q.2.toNat*1)) (Qf (l:=r) ha Z EC ED) ?_;refine vV (x:=I a) (EA Z EF Z (Qi ha (hH:=YO [_,_] hrr))) ?_;refine Go 2 Z ?_;refine Is 100 ht Z (λ_ ht=>?_) (λ_ ht=>?_)
     · obtain⟨p,hp,ht⟩:=QF ht
       obtain⟨b,hb,ht⟩:=QF ht;have hpp:=(KK hp).2;refine Go 2 Z ?_;refine vV (x:=.p 1 (q.2.toNat*1)) (Qf (l:=y.1) hp Z EH EO) ?_ (gT Z);refine vV (x:=.s (2+q.2.toNat) 0 (AI p) 1) (EA Z Gh Z (DZ.rowr (e:=q.2.toNat) (f:=0) Z (by omega) (Ji hpp) Z)) ?_ (gT Z);refine Go 1 Z ?_;refine vV (x:=.p (2+q.2.toNat) (y.2.toNat*1)) (Qf (l:=p) hb Z EC ED) ?_ (gT Z);refine vV (x:=I b) (EA Z EF Z (Qi hb (hH:=YO [_,_] hpp))) ?_ (gT Z);refine Go 4 Z (Cn Z ht (λ_ ht=>?_) (λ_ ht=>?_))
       · obtain⟨F,hz1,ht⟩:=QF ht
         obtain⟨r',hr',ht⟩:=QF ht;cases Oi ht;refine DR 29 Z ?_;refine D 2 Z ?_;refine DS.v (x:=.p 1 (w.2.toNat*1)) (Qf (l:=y.1) hr Z EH EO) ?_;refine DS.v (x:=.s (2+w.2.toNat) 0 (AI r) 1) (EA Z Gh Z (DZ.rowr (e:=w.2.toNat) (f:=0) Z (by omega) (Ji hrr) Z)) ?_;refine D 3 Z ?_;refine DS.v (x:=.p 1 (w.2.toNat*1)) (Qf (l:=y.1) hr Z EH EO) ?_;refine DS.v (x:=.s (2+w.2.toNat) 0 (AI r) 1) (EA Z Gh Z (DZ.rowr (e:=w.2.toNat) (f:=0) Z (by omega) (Ji hrr) Z)) ?_;refine D 1 Z ?_;refine DS.v (x:=.p (2+w.2.toNat) (y.2.toNat*1)) (Qf (l:=r) hz1 Z EC ED) ?_;refine DS.v (x:=I F) (EA Z EF Z (Qi hz1 (hH:=YO [_,_] hrr))) ?_;refine D 2 Z ?_;refine DS.v (x:=.p 1 (w.2.toNat*1)) (Qf (l:=y.1) hr Z EH EO) ?_;refine DS.v (x:=.s (2+w.2.toNat) 0 (AI r) 1) (EA Z Gh Z (DZ.rowr (e:=w.2.toNat) (f:=0) Z (by omega) (Ji hrr) Z)) ?_;refine D 1 Z ?_;refine DS.v (x:=.p (2+w.2.toNat) (q.2.toNat*1)) (Qf (l:=r) ha Z EC ED) ?_;refine DS.v (x:=I a) (EA Z EF Z (Qi ha (hH:=YO [_,_] hrr))) ?_;refine D 2 Z ?_;refine DS.v (x:=.p 1 (q.2.toNat*1)) (Qf (l:=y.1) hp Z EH EO) ?_;refine DS.v (x:=.s (2+q.2.toNat) 0 (AI p) 1) (EA Z Gh Z (DZ.rowr (e:=q.2.toNat) (f:=0) Z (by omega) (Ji hpp) Z)) ?_;refine D 1 Z ?_;refine DS.v (x:=.p (2+q.2.toNat) (y.2.toNat*1)) (Qf (l:=p) hb Z EC ED) ?_;refine DS.v (x:=I b) (EA Z EF Z (Qi hb (hH:=YO [_,_] hpp))) ?_;refine D 1 Z ?_;refine DS.v (x:=I (if i64.wrap (a+b)<F then i64.wrap (a+b)else F)) (CU.min Z Z Z Z) ?_;refine DS.v (x:=.p (2+w.2.toNat) (y.2.toNat*1)) (Qf (l:=r) hz1 Z EC ED) ?_;refine Eh Z ?_;refine vU (Yv (e:=(Qe .i64)) (k:=1) (f:=0) hz1 hr' ED Z Z (hH:=YO [_,_] hrr)) ?_;refine Eu (Jn (Qo9 hrr (Yl hr'))) ?_;refine Go 8 Z ?_;refine Q1 hy (Y2 ⟨Z,congrArg (λm=>A.s 1 0 m 1) (by simp),Z,Z,Z,trivial⟩)
       cases Oi ht;refine Gc 8 Z ?_;refine Q1 hy (Y2 ⟨Z,Z,Z,Z,Z,trivial⟩)
     cases Oi ht;refine Go 20 Z ?_;refine Q1 hy (Y2 ⟨Z,Z,Z,Z,Z,trivial⟩)
   refine Bd hs λx hx hs=>Bd hs λr hr hs=>Bd hs λy hy hs=>Bd hs λr' hr' hs=>Gc 9 Z ?_;refine Iz hx Z (Go 2 Z ?_);have hHl:(fn (QZ 3 s.1) 2).1=2+AI s.1:=by rw[fp];simp only[QZ,X2];omega
   refine Eu (Q4 (s:=9) Z (congrArg (λj=>A.p j 0) hHl)) ?_;refine Eu (Jn (H':=([CW.cells 169 (Cm.c g),.R 114 1 (YK 2 s.1)]++QZ 3 s.1)++[.c 254 [I 0,I 0,I 0]]) (by rw[W3];rfl)) ?_;refine Eu (QoR (env':=[(1,.p 0 0),(4,I g.Ax),(5,.o 1 (AI s.1) 1),(8,I s.2),(9,.p 2 0),(56,.a (Edge.c x))]) Zf Zf ⟨Z,Z,Z,Z,Z,Z,trivial⟩) ?_;refine Go 3 Z ?_;have hrr:=(KK hr).2;refine Ef (Jn (H':=[CW.cells 169 (Cm.c g),.R 114 1 (YK 3 s.1),.c 254 (Edge.c x)]++QZ 3 s.1) (by rw[W3];rfl)) ?_;refine DR 20 Z ?_;refine D 3 Z ?_;refine DS.v (x:=.p 1 (x.A'.toNat*1)) (Qf (l:=s.1) hr Z EH EO) ?_;refine DS.v (x:=.s (3+x.A'.toNat) 0 (AI r) 1) (EA Z Gh Z (DZ.rowr (e:=x.A'.toNat) (f:=0) Z (by omega) (Ji hrr) Z)) ?_;refine D 5 Z ?_;refine DS.v (x:=.p 1 (x.A'.toNat*1)) (Qf (l:=s.1) hr Z EH EO) ?_;refine DS.v (x:=.s (3+x.A'.toNat) 0 (AI r) 1) (EA Z Gh Z (DZ.rowr (e:=x.A'.toNat) (f:=0) Z (by omega) (Ji hrr) Z)) ?_;refine D 2 Z ?_;refine DS.v (x:=.p (3+x.A'.toNat) (x.To.toNat*1)) (Qf (l:=r) hy Z EC ED) ?_;refine DS.v (x:=I y) (EA Z EF Z (Qi hy (hH:=YO [_,_,_] hrr))) ?_;refine D 2 Z ?_;refine DS.v (x:=I (if x.W<y then x.W else y)) (CU.min Z Z Z Z) ?_;refine DS.v (x:=.p (3+x.A'.toNat) (x.To.toNat*1)) (Qf (l:=r) hy Z EC ED) ?_;refine Eh Z ?_;refine vU (Yv (e:=(Qe .i64)) (k:=1) (f:=0) hy hr' ED Z Z (hH:=YO [_,_,_] hrr)) ?_;refine Eu (Jn (QmY hrr (Yl hr'))) ?_;refine Go 8 Z ?_;refine Q1 hs (QmK Zf ⟨Z,Z,congrArg (λm=>A.s 1 0 m 1) (by simp),Z,trivial⟩)
 refine Bd hs λu hu hs=>?_;have hlen:s.2=(AI s.1:Int):=by simpa using oB hu
 have hlt:s.2<g.Ax:=by simpa using hc
 obtain⟨m',hm'⟩:∃m',g.Ax.toNat-(AI s.1)=m'+1:=⟨g.Ax.toNat-(AI s.1)-1,by omega⟩;rw[hm'];refine Bd hs λP aa hs=>?_;have hi:CJ z s.2=AC ():=by
  have:s.2.toNat<AI z:=by omega
  unfold CJ;rw[Vu (show 0<=s.2 by omega)];simp[this]
 refine Gc 9 Z (vH (kN (e:=(Qe .i64)) (zv:=0) (a:=(I 0)) aa Qu EX Ep Z Z Z Z) ?_);have hHl:AI ([CW.cells 169 (Cm.c g),.R 114 1 (HB 2 s.1 (m'+1))]++QZ 3 s.1)=2+AI s.1:=by simp[QZ];omega
 refine Eu (Q4 (s:=26) Z (congrArg (λj=>A.s j 0 (AI P) 1) hHl)) ?_;refine vV (x:=.p 1 (s.2.toNat*1)) (Qf (l:=z) hi E EH EO) ?_;refine vU (Qge (t:=114) (T:=114) (k:=1) (e:=AI s.1) (f:=0) (c:=[.n]) Z Z Z EO (by omega) T? Z Z Z Z Z Z Z QmZ) ?_;refine Eu (Jn (H':=[CW.cells 169 (Cm.c g),.R 114 1 (HB 2 (s.1++[P]) m')]++QZ 3 (s.1++[P])) (by rw[QlJ];rfl)) ?_;refine Bd hs λr1 ab hs=>Go 9 Z ?_;refine TC.loop (λk:(AA Int)×Int=>[(1,.p 0 0),(4,I g.Ax),(5,.o 1 g.Ax.toNat 1),(6,I s.2),(7,I k.2)]) (λk=>[.c 169 (Cm.c g),.R 114 1 (HB 2 (s.1++[k.1]) m')]++QZ 3 (s.1++[k.1])) ab ?_ (λk e hk ac=>?_)
 · refine Y2 ⟨Z,Z,Z,Z,?_,trivial⟩
   rfl
 refine G0 8 Z (Q7 Z hk (λ_ hk=>?_) (λ_ hk=>?_))
 · refine Gc 2 Z ?_
   refine QI hk ?_;obtain rfl:=Oj ac hk;refine Bd hs λx2 L hs=>Bd hs λG B hs=>Gx 5 Z ?_;refine vV (x:=.p 1 (s.2.toNat*1)) (Qf (l:=z) hi E EH EO) ?_;refine vV (x:=.s (2+AI s.1) 0 (AI k.1) 1) (EA Z Gh Z (DZ.rowr (e:=AI s.1) (f:=0) Z (by omega) (qk (r:=k.1) (by simp)) Z)) ?_;refine Go 1 Z ?_;refine vV (x:=.p (2+AI s.1) (s.2.toNat*1)) (Qf (l:=k.1) L Z EC ED) ?_;refine vU (Yv (e:=(Qe .i64)) (k:=1) (f:=0) L B ED Z Z (hH:=YO [_,_] (by simp))) ?_;refine Eu (Jn (qn (Yl B))) ?_;have ae:g.Ax.toNat-(AI (s.1++[G]))=m':=by simp;omega
   refine Go 8 Z ?_;refine Q1 hs (Eo (Jn (H':=[CW.cells 169 (Cm.c g),.R 114 1 (HB 2 (s.1++[G]) (g.Ax.toNat-(AI (s.1++[G]))))]++QZ 3 (s.1++[G])) (by rw[ae])) (Y2 ⟨Z,Z,Z,Z,trivial⟩))
 refine Bd hk λx1 M hk=>Bd hk λl1 N hk=>Gc 7 Z ?_;refine vV (x:=.p 1 (s.2.toNat*1)) (Qf (l:=z) hi E EH EO) ?_;refine vV (x:=.s (2+AI s.1) 0 (AI k.1) 1) (EA Z Gh Z (DZ.rowr (e:=AI s.1) (f:=0) Z (by omega) (qk (r:=k.1) (by simp)) Z)) ?_;refine Go 1 Z ?_;refine vV (x:=.p (2+AI s.1) (k.2.toNat*1)) (Qf (l:=k.1) M Z EC ED) ?_;refine vU (Yv (e:=(Qe .i64)) (k:=1) (f:=0) M N ED Z Z (hH:=YO [_,_] (by simp))) ?_;refine Eu (Jn (qn (Yl N))) ?_;refine Go 8 Z ?_;refine Q1 hk (Y2 ⟨Z,Z,Z,Z,Z,trivial⟩)
def N0(d:Cm):AB ((AA (AA Int))×Int):=AH (Oa n d) λf=>(bif (f != 0)then AC ([],f)else AH (PR n d) λg=>(bif (!g.2)then AC ([],151)else AC (g.1,0)))
instance vy(d:Cm):Ks (N0 n d) 66 [.a (Cm.c d)] [] (λr=>.t [.q 1 (map (Qx 1 (Qe .i64)) r.1),I r.2]):=by
 refine Kg 10 func66 Z Z Z Z λr h=>Cz [] h Kc Z λm j h=>Go 10 Z (Cn Z h (λ_ h=>?_) (λ_ h=>?_))
 .refine Gc 9 Z ?_;obtain rfl:=Oi h;refine R2 2 3 Z Z ?_;exact Eo (gO (s:=2) Z) (Lr [])
 refine Gc 5 Z (Cd [] h (i6 _ _) Z λq k h=>Fg 14 Z Z (Cn Z h (λ_ h=>?_) (λ_ h=>?_)))
 .refine Gc 8 Z ?_;obtain rfl:=Oi h;refine R2 2 3 Z Z ?_;exact Eo (gO (s:=2) Z) (Lr [])
 exact au h
def PC(f:CB)(g:AA CI):AB ((AA CC)×(AA (AA Int))×Int):=AH (O6 n f g) λd=>(bif (d.2.2 != 0)then AC ([],[],d.2.2)else AH (N0 n ({Ax:=d.1,Bn:=d.2.1:Cm})) λh=>(bif (h.2 != 0)then AC ([],[],160)else AH (MF n f g) λj=>AC (j.1,h.1,0)))
instance xK(g:CB)(j:AA CI):Kq (PC n g j) 20 [.a (CB.c g),.q 57 (map CI.c j)] [] (λr=>.t [.a [.q 3 (map CC.c r.1),.q 1 (map (Qx 1 (Qe .i64)) r.2.1)],I r.2.2]) (λr=>[.c 39 [.q 3 (map CC.c r.1),.q 1 (map (Qx 1 (Qe .i64)) r.2.1)]]):=by
 refine Kg 11 func20 Z Z Z Z λr h=>Cd [] h Kc Z λy q h=>Fg 15 Z Z (Cn Z h (λ_ h=>?_) (λ_ h=>?_))
 .exact au h
 refine Gc 5 Z (Cd [] h Kc Z λd t h=>Fg 14 Z Z (Cn Z h (λ_ h=>?_) (λ_ h=>?_)))
 .exact au h
 refine Gc 6 Z (Cd [] h Kc Z λf x h=>Fg 17 Z Z ?_);obtain rfl:=Oi h;refine⟨[(4,.p 0 0),(5,I ((f.1,d.1,0).2.2))],[.c 39 [.q 3 (map CC.c ((f.1,d.1,0).1)),.q 1 (map (Qx 1 (Qe .i64)) ((f.1,d.1,0).2.1))]],_,(Eo (Yo (i:=4) [] Z Z Cy.nil (Ec (Dh.cells (Ed Er (Ek _)) (Ec (Ec (Ec (QT _))))))) ?_),QH Z Z (C4.cons (Yg isAgg39 sizeOf39 Z Z Z) (C4.cons Dq.tmp C4.nil)),Z,Z⟩;exact Lr [1]
def UL(n:Nat)(f:AA AP)(h:Int)(d:Int):AB (CG Int (CG Unit Int)):=(bif d<(AI f:Int) then AH (CJ f d) λg=>(bif (g.BT==h)then AC (.d (.d d))else AC (.k (i64.wrap (d+1))))else AC (.d (.k ())))
def Of(f:AA AP)(g:Int):AB Int:=AH (iter (UL n f g) n 0:AB (CG Unit Int)) λh=>match h with|.k d=>(AC (-1))|.d d=>AC d
instance wn(d:AA AP)(f:Int):Ks (Of n d f) 68 [.q 8 (map AP.c d),I f] [] (λr=>I r):=KA func68
end Go.Sw
