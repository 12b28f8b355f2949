/- What the functions compute that OutcomeWays reaches, and that their calls refine it (part 5 of 6). -/
import Derived.Test.YtbiglpikpigidaaGreatW23Wa4
set_option linter.unusedVariables false
set_option linter.unusedSimpArgs false
set_option maxRecDepth 100000
set_option maxHeartbeats 4000000
namespace Go.Sw
open Option renaming some→AC,none→AF,bind→AH
open Bool renaming false→AD,true→AE
open Decidable renaming decide→AG
open List renaming length→AI
open Go renaming Value→AL
variable (n:Nat)
open List(map)
open Int(toNat)
open Go.IntKind(i64 u64 u8)
open Go.Proofs Tryz
def VT(f:CA)(d:Int):AB (CF Int (CF Unit Bool)):=(bif d<(AI f.AP:Int) then AH (AH (CI f.AP d) λg=>AH (My n g.Ae 0) λh=>(bif 24<h then AC AE else AH (CI f.AP d) λj=>(bif 12<(AI j.Aq:Int) then AC AE else AH (CI f.AP d) λm=>AC (AG (60<(AI m.Ao:Int))))):AB Bool) λq=>(bif q then AC (.d (.d AD))else AC (.k (i64.wrap (d+1))))else AC (.d (.k ())))
def UW(n:Nat)(f:CA)(d:Int):AB (CF Int (CF Unit Bool)):=(bif d<(AI f.Ar:Int) then AH (CI f.Ar d) λg=>(bif 60<(AI g.Ao:Int) then AC (.d (.d AD))else AC (.k (i64.wrap (d+1))))else AC (.d (.k ())))
def Ol(d:CA):AB Bool:=AH (iter (VT n d) n 0:AB (CF Unit Bool)) λh=>match h with|.k f=>(AH (iter (UW n d) n 0:AB (CF Unit Bool)) λj=>match j with|.k g=>(AH ((bif 12<(AI d.Ar:Int) then AC AE else(bif 30<(AI d.Az:Int) then AC AE else(bif 4<(AI d.AP:Int) then AC AE else(bif 6<(AI d.A0:Int) then AC AE else(bif 6<(AI d.Ab:Int) then AC AE else(bif 6<(AI d.AV:Int) then AC AE else(bif 6<(AI d.Ay:Int) then AC AE else AC (AG (60<(AI d.Ao:Int)))))))))):AB Bool) λm=>(bif m then AC AD else AH (Mt n d.BN 0) λq=>AC (AG (q<=100))))|.d g=>AC g)|.d f=>AC f
instance xj(d:CA):Ks (Ol n d) 69 [.a (CA.c d)] [] (λr=>.b r):=KA func69
def eu(n:Nat)(q:AA CG)(g:(AA Int)×Int)(f:AA Int)(d:(AA Int)×Int):AB (CF ((AA Int)×Int) (AA Int)):=AH (AH (CI q g.2) λh=>(bif d.2<h.As then(bif 0<(AI f:Int) then AC (AG ((AI d.1:Int)<=300))else AC AD)else AC AD):AB Bool) λj=>(bif j then AH (app d.1 f) λm=>AC (.k (m,i64.wrap (d.2+1)))else AC (.d d.1))
def T4(f:AA CG)(rec243:(AA CG)->AB (AA Int))(d:(AA Int)×Int):AB (CF ((AA Int)×Int) (AA Int)):=(bif d.2<(AI f:Int) then AH (AH (CI f d.2) λg=>(bif (g.As==0)then AH (CI f d.2) λh=>AH (app d.1 [h.Al]) λj=>AC j else AH (CI f d.2) λm=>AH (rec243 m.Ad) λq=>AH (iter (eu n f d q) n (d.1,0):AB (AA Int)) λt=>AC t):AB (AA Int)) λx=>AC (.k (x,i64.wrap (d.2+1)))else AC (.d d.1))
def i4(rec243:(AA CG)->AB (AA Int))(n:Nat)(f:AA CG):AB (AA Int):=AH (iter (T4 n f rec243) n (([]:AA Int),0):AB (AA Int)) λd=>AC d
theorem QaS(rec243:(AA CG)->AB (AA Int))(ae:∀(E:AA CG),Kq (rec243 E) 70 [.q 3 (map CG.enc E)] [] (λr=>.o 0 (AI r) 1) (λr=>[.r 3 1 (map eI r)]))(n:Nat)(E:AA CG):Kq (i4 rec243 n E) 70 [.q 3 (map CG.enc E)] [] (λr=>.o 0 (AI r) 1) (λr=>[.r 3 1 (map eI r)]):=by
 refine Kg 7 func70 Z Z Z Z λr h=>vH (Ek (xs:=[]) (es:=map eI []) QG Z Z Z Z Z trivial Z Z) ?_;refine Fg 9 Z Z (Bd h λm Y h=>Cg m [0] [] (λm=>[(3,.o 0 (AI m) 1)]) (λm=>[(0,.r 3 1 (map eI m))]) Zf ?_ ?_)
 .refine G0 1 Z (Lp [0] [0] (λq=>[(3,.o 0 (AI q.1) 1),(4,I q.2)]) (λq=>[(0,.r 3 1 (map eI q.1))]) Y Zf (Lr [0]) λq ag g J=>?_);refine G0 5 Z (Lg 3 Z Z (Q5 Z g (λ_ g=>?_) (λ_ g=>?_)))
  .exact Gc 2 Z (QF g (Gx 1 Z (DX J g (Lr [0]))))
  refine Gc 3 Z (Bd g λt d g=>Cg t [0] [0,4] (λt=>[(3,.o 0 (AI t) 1)]) (λt=>[(0,.r 3 1 (map eI t))]) Zf ?_ ?_)
  .refine G0 6 Z (Bd d λaa M d=>FU M (QM aa) Z (Go 5 Z (Cn Z d (λ_ d=>?_) (λ_ d=>?_))))
   .refine Gc 5 Z (Bd d λF O d=>FU O (QM F) Z (Go 2 Z (vH (Ek (xs:=[.tmp 25]) (es:=map eI [F.Al]) QG Z Z Z Z Z ⟨Z,trivial⟩ Z Z) ?_)));refine FE Z (Bd d λah P d=>vH (Qj (e:=eI) P QG EB (QE (i:=1))) ?_);exact au d
   refine Gc 6 Z (Bd d λab Q d=>FU Q (QM ab) Z (Go 2 Z (Cd [] d Kc Z λai af d=>Fg 8 Z Z (Bd d λx ac d=>Ct x [0] [0,4] (λx=>[(3,.o 0 (AI x) 1)]) (λx=>[(0,.r 3 1 (map eI x))]) Zf ?_ (λenv H G=>?_)))))
   .refine G0 1 Z (Lp [0,1] [0,4,5] (λy=>[(3,.o 0 (AI y.1) 1),(6,I y.2)]) (λy=>[(0,.r 3 1 (map eI y.1))]) ac Zf (Lr [0,1]) λy aj f R=>?_);refine G0 2 Z (Bd f λB j f=>Ct B [0,1] [0,3,4,5,6] (λB=>[(50,.b B)]) Ze Zf ?_ (λenv H G=>?_))
    .refine G0 4 Z (Bd j λad T j=>FU T (QM ad) Z (Go 4 Z (Is 41 j Z (λ_ j=>?_) (λ_ j=>?_))))
     iterate 2 exact au j
    refine Gx 1 Z (Ee G (Q5 Z f (λ_ f=>?_) (λ_ f=>?_)))
    .exact Gc 2 Z (QF f (Gx 1 Z (DX R f (Lr [0]))))
    refine Gc 7 Z (Bd f λak X f=>vH (Qj (e:=eI) X QG EB (QE (i:=1))) ?_);exact au f
   refine Gx 1 Z ?_;cases d;exact Nv (En G (Lr [0]))
  exact au g
 exact au h
def Rn:Nat->(AA CG)->AB (AA Int)
  |0=>λ_=>AF
  |n+1=>i4 (Rn n) n
instance k_r:∀(d:AA CG),Kq (Rn n d) 70 [.q 3 (map CG.enc d)] [] (λr=>.o 0 (AI r) 1) (λr=>[.r 3 1 (map eI r)]):=by
  induction n with
  |zero=>exact λ_=>⟨nofun⟩
  |succ n ih=>exact QaS _ ih n
def Ty(f:CA)(j:Int)(d:Int):AB (CF Int (CF Unit Bool)):=(bif d<(AI f.AP:Int) then AH (CI f.AP d) λg=>AH (Rn n g.Ae) λh=>(bif j<(AI h:Int) then AC (.d (.d AD))else AC (.k (i64.wrap (d+1))))else AC (.d (.k ())))
def PP(f:CA)(h:Int):AB Bool:=AH (Ol n f) λj=>(bif (!j)then AC AD else AH (iter (Ty n f h) n 0:AB (CF Unit Bool)) λg=>match g with|.k d=>(AC AE)|.d d=>AC d)
instance yT(d:CA)(f:Int):Ks (PP n d f) 24 [.a (CA.c d),I f] [] (λr=>.b r):=KA func24
def Fb(n:Nat)(d:Int)(f:Int)(g:Int):AB Bool:=AH ((bif f<=d then AC (AG (d<=g))else AC AD):AB Bool) λh=>AC h
instance zm(d:Int)(f:Int)(g:Int):Ks (Fb n d f g) 141 [I d,I f,I g] [] (λr=>.b r):=KA func141
def J9(d:Int):AB Bool:=AH (Fb n d 0 31) λf=>AC f
instance j8(d:Int):Ks (J9 n d) 139 [I d] [] (λr=>.b r):=KA func139
def J7(d:Int):AB Bool:=AH (Fb n d 1 1048576) λf=>AC f
instance j6(d:Int):Ks (J7 n d) 140 [I d] [] (λr=>.b r):=KA func140
def I7(d:Int):AB Bool:=AH (Fb n d 1 9999) λf=>AC f
instance k_j(d:Int):Ks (I7 n d) 211 [I d] [] (λr=>.b r):=KA func211
def H_(d:Int):AB Bool:=AH (Fb n d (-1099511627776) 1099511627776) λf=>AC f
instance k_g(d:Int):Ks (H_ n d) 209 [I d] [] (λr=>.b r):=KA func209
def J2(d:Int):AB Bool:=AH (Fb n d 0 1048576) λf=>AC f
instance zZ(d:Int):Ks (J2 n d) 208 [I d] [] (λr=>.b r):=KA func208
def Ky(d:AO):AB Bool:=AH (AH (I7 n d.BT) λf=>(bif f then AH (Fb n d.AN 0 7) λg=>(bif g then AH (Fb n d.A2 0 31) λh=>(bif h then AH (H_ n d.BM) λj=>(bif j then AH (Fb n d.B5 0 120) λm=>(bif m then AH (J2 n d.BB) λq=>(bif q then AH (Fb n d.Bk 0 9999) λt=>(bif t then AH (Fb n d.B4 0 1048576) λx=>AC x else AC AD)else AC AD)else AC AD)else AC AD)else AC AD)else AC AD)else AC AD):AB Bool) λy=>AC y
instance zK(d:AO):Ks (Ky n d) 205 [.a (AO.c d)] [] (λr=>.b r):=KA func205
def IG(d:Int):AB Bool:=AH (Fb n d 0 39) λf=>AC f
instance zp(d:Int):Ks (IG n d) 206 [I d] [] (λr=>.b r):=KA func206
def IE(d:Int):AB Bool:=AH (Fb n d 0 255) λf=>AC f
instance zn(d:Int):Ks (IE n d) 207 [I d] [] (λr=>.b r):=KA func207
def PT(d:An):AB Bool:=AH (AH (IG n d.Bs) λf=>(bif f then AH (IG n d.Br) λg=>(bif g then AH (IE n d.Be) λh=>(bif h then AH (IE n d.Bc) λj=>(bif j then AH (H_ n d.Ba) λm=>(bif m then AH (H_ n d.BZ) λq=>(bif q then AH (H_ n d.Bl) λt=>(bif t then AH (H_ n d.Bq) λx=>(bif x then AC (AG (d.Bl<=d.Bq))else AC AD)else AC AD)else AC AD)else AC AD)else AC AD)else AC AD)else AC AD)else AC AD):AB Bool) λy=>AC y
instance yX(d:An):Ks (PT n d) 210 [.a (An.c d)] [] (λr=>.b r):=KA func210
def HV(d:Int):AB Bool:=AH (Fb n d 0 255) λf=>AC f
instance zy(d:Int):Ks (HV n d) 212 [I d] [] (λr=>.b r):=KA func212
def IC(d:Int):AB Bool:=AH (Fb n d 1 1048576) λf=>AC f
instance zi(d:Int):Ks (IC n d) 213 [I d] [] (λr=>.b r):=KA func213
def Kz(d:Af):AB Bool:=AH (AH (IC n d.BK) λH=>(bif (!H)then AC AE else AH (Fb n d.BU 1 2) λJ=>AC (!J)):AB Bool) λL=>(bif L then AC AD else AH ((bif (d.AX==1)then AC (d.AX==1)else AC (d.AX==2)):AB Bool) λf=>(bif f then AH ((bif (d.BT==0)then(bif (d.AT==0)then AC (d.BO==0)else AC AD)else AC AD):AB Bool) λg=>AC g else(bif (d.AX==3)then AH (AH (I7 n d.BT) λh=>(bif h then AH (HV n d.AT) λj=>(bif j then AH (Fb n d.BO 1 1099511627776) λm=>AC m else AC AD)else AC AD):AB Bool) λq=>AC q else(bif (d.AX==4)then AH (AH (I7 n d.BT) λt=>(bif t then AH (HV n d.AT) λx=>(bif x then AH (Fb n d.BO 1 64) λy=>AC y else AC AD)else AC AD):AB Bool) λB=>AC B else(bif (d.AX==5)then AH (AH (I7 n d.BT) λE=>(bif E then AH (HV n d.AT) λF=>(bif F then AC (d.BO==0)else AC AD)else AC AD):AB Bool) λG=>AC G else AC AD)))))
instance zL(m:Af):Ks (Kz n m) 214 [.a (Af.c m)] [] (λr=>.b r):=by
 refine Kg 8 func214 Z Z Z Z λr h=>Bd h λg x h=>Ct g [0] [1] (λg=>[(12,.b g)]) Ze Zf ?_ (λenv H d=>?_)
 .exact au x
 refine Gx 1 Z (Ee d (Cn Z h (λ_ h=>?_) (λ_ h=>?_)))
 .exact au h
 refine Gc 17 Z (Bd h λf t h=>Ct f [0] [1,14] (λf=>[(15,.b f)]) Ze Zf ?_ (λenv H d=>?_))
 .exact au t
 refine Gx 1 Z (Ee d (Cn Z h (λ_ h=>?_) (λ_ h=>?_)))
 iterate 2 exact au h
def K9(d:CH):AB Bool:=(bif (d.AX==1)then AH (Ky n d.AO) λr2=>AC r2 else(bif (d.AX==2)then AH (AH (IG n d.A4.Al) λM=>(bif M then AH (IE n d.A4.Ag) λN=>(bif N then AH (J2 n d.A4.BB) λO=>(bif O then AH (H_ n d.A4.BD) λP=>AC P else AC AD)else AC AD)else AC AD):AB Bool) λQ=>AC Q else(bif (d.AX==3)then AH (AH (IG n d.Aa.Al) λR=>(bif R then AH (IE n d.Aa.Ag) λT=>(bif T then AH (H_ n d.Aa.BD) λV=>(bif V then AH (H_ n d.Aa.True) λW=>(bif W then AH (Fb n d.Aa.B6 0 1099511627776) λX=>AC X else AC AD)else AC AD)else AC AD)else AC AD):AB Bool) λY=>AC Y else(bif (d.AX==4)then AH (PT n d.An) λaa=>AC aa else(bif (d.AX==5)then AH (AH (I7 n d.Ac.BT) λab=>(bif ab then AH (HV n d.Ac.AT) λac=>(bif ac then AH (H_ n d.Ac.Lo) λad=>(bif ad then AH (H_ n d.Ac.Hi) λae=>(bif ae then AC (AG (d.Ac.Lo<=d.Ac.Hi))else AC AD)else AC AD)else AC AD)else AC AD):AB Bool) λaf=>AC af else(bif (d.AX==6)then AH (AH (IG n d.Ap.Al) λag=>(bif ag then AH (IE n d.Ap.Ag) λah=>(bif ah then AH (H_ n d.Ap.Lo) λai=>(bif ai then AH (H_ n d.Ap.Hi) λaj=>(bif aj then AC (AG (d.Ap.Lo<=d.Ap.Hi))else AC AD)else AC AD)else AC AD)else AC AD):AB Bool) λak=>AC ak else(bif (d.AX==7)then AH (AH (I7 n d.Bb.A) λal=>(bif al then AH (I7 n d.Bb.B) λam=>(bif am then AC (AG (d.Bb.A<d.Bb.B))else AC AD)else AC AD):AB Bool) λan=>AC an else(bif (d.AX==8)then AH (AH (IC n d.Aj.BK) λf=>(bif f then AH (I7 n d.Aj.BT) λg=>(bif g then AH (Fb n d.Aj.AZ 0 31) λh=>(bif h then AH (HV n d.Aj.AT) λj=>AC j else AC AD)else AC AD)else AC AD):AB Bool) λm=>AC m else(bif (d.AX==9)then AH (AH (IC n d.Au.BK) λq=>(bif q then AH (Fb n d.Au.By 0 9999) λt=>(bif t then AH (Fb n d.Au.Bj 0 1125899906842624) λx=>(bif x then AH (Fb n d.Au.B2 0 1) λy=>AC y else AC AD)else AC AD)else AC AD):AB Bool) λE=>AC E else(bif (d.AX==10)then AH (Kz n d.Af) λF=>AC F else(bif (d.AX==11)then AH (IC n d.BE.BK) λG=>AC G else(bif (d.AX==12)then AC AE else(bif (d.AX==13)then AH (AH (J9 n d.Bo.BF) λH=>(bif H then AH (J7 n d.Bo.No) λJ=>AC J else AC AD):AB Bool) λL=>AC L else AC AD)))))))))))))
instance j4(f:CH):Ks (K9 n f) 142 [.a (CH.c f)] [] (λr=>.b r):=by
 refine Kg 20 func142 Z Z Z Z λr h=>Cn Z h (λ_ h=>?_) (λ_ h=>?_)
 .exact au h
 iterate 2 (refine Gc 6 Z (Cn Z h (λ_ h=>?_) (λ_ h=>?_));exact au h)
 exact au h
def Pr(n:Nat)(d:CH):AB CH:=AH ((bif (d.AX==1)then AC ({Uv with BF:=d.BF,No:=d.No,At:=d.At,AX:=d.AX,AO:=d.AO:CH})else(bif (d.AX==2)then AC ({Uv with BF:=d.BF,No:=d.No,At:=d.At,AX:=d.AX,A4:=d.A4:CH})else(bif (d.AX==3)then AC ({Uv with BF:=d.BF,No:=d.No,At:=d.At,AX:=d.AX,Aa:=d.Aa:CH})else(bif (d.AX==4)then AC ({Uv with BF:=d.BF,No:=d.No,At:=d.At,AX:=d.AX,An:=d.An:CH})else(bif (d.AX==5)then AC ({Uv with BF:=d.BF,No:=d.No,At:=d.At,AX:=d.AX,Ac:=d.Ac:CH})else(bif (d.AX==6)then AC ({Uv with BF:=d.BF,No:=d.No,At:=d.At,AX:=d.AX,Ap:=d.Ap:CH})else(bif (d.AX==7)then AC ({Uv with BF:=d.BF,No:=d.No,At:=d.At,AX:=d.AX,Bb:=d.Bb:CH})else(bif (d.AX==8)then AC ({Uv with BF:=d.BF,No:=d.No,At:=d.At,AX:=d.AX,Aj:=d.Aj:CH})else(bif (d.AX==9)then AC ({Uv with BF:=d.BF,No:=d.No,At:=d.At,AX:=d.AX,Au:=d.Au:CH})else(bif (d.AX==10)then AC ({Uv with BF:=d.BF,No:=d.No,At:=d.At,AX:=d.AX,Af:=d.Af:CH})else(bif (d.AX==11)then AC ({Uv with BF:=d.BF,No:=d.No,At:=d.At,AX:=d.AX,BE:=d.BE:CH})else(bif (d.AX==13)then AC ({Uv with BF:=d.BF,No:=d.No,At:=d.At,AX:=d.AX,Bo:=d.Bo:CH})else AC ({Uv with BF:=d.BF,No:=d.No,At:=d.At,AX:=d.AX:CH}))))))))))))):AB CH) λf=>AC f
instance jk(f:CH):Kq (Pr n f) 143 [.a (CH.c f)] [] (λr=>.a (CH.c r)) (λr=>[.c 120 (CH.c r)]):=by
 refine Kg 35 func143 Z Z Z Z λr h=>Bd h λd g h=>Ct d [1,2] [2,3] Ze (λd=>[(1,.c 120 (CH.c d))]) Zf ?_ (λenv H j=>?_)
 .exact au g
 refine Gx 2 Z (Ee j (Gc 7 Z ?_));exact au h
def JZ(d:CH):AB Int:=AH (AH (J9 n d.BF) λf=>(bif (!f)then AC AE else AH (J7 n d.No) λg=>(bif (!g)then AC AE else AH (Fb n d.At 0 1099511627776) λh=>(bif (!h)then AC AE else AH (K9 n d) λj=>(bif (!j)then AC AE else AH (Pr n d) λm=>AC (d != m))))):AB Bool) λq=>(bif q then AC 120 else AC 0)
instance zV(g:CH):Ks (JZ n g) 79 [.a (CH.c g)] [] (λr=>I r):=by
 refine Kg 8 func79 Z Z Z Z λr h=>Bd h λj d h=>Cg j [] [] (λj=>[(29,.b j)]) Ze Zf ?_ ?_
 .refine G0 0 Z (HY 25 [24] [(0,0,0),(0,0,0),(0,0,0),(0,0,0),(0,0,0),(0,0,0),(0,0,0),(0,0,0),(0,0,0),(0,0,0),(0,0,0),(0,0,0),(0,0,0),(0,0,0),(0,0,0),(0,0,0),(0,0,0),(0,0,0),(0,0,0),(0,0,0),(0,0,0),(0,0,0),(0,0,1),(0,0,0),(1,0,0)] (by kernel_rfl) (Dk 2 Z ?_));obtain⟨L,m,d⟩:=Qw d;refine DK.wo (x:=.b L) ?_ ?_
  .exact Pc [] Z (C6.fn call139 Z Z Z) ((j8 _ _).c _ m) Z Wp
  refine Dk 2 Z (DK.is 4 d Z Z Z (λ_ d=>?_) (λ_ d=>?_))
  .exact Dk 20 Z (DK.done Z Z (Gl 3 Z d []))
  .refine Dk 2 Z ?_;obtain⟨M,y,d⟩:=Qw d;refine DK.wo (x:=.b M) ?_ ?_
   .exact Pc [] Z (C6.fn call140 Z Z Z) ((j6 _ _).c _ y) (hg:=(gT Z)) Z Wp
   refine Dk 3 Z (DK.is 10 d Z Z Z (λ_ d=>?_) (λ_ d=>?_))
   .exact Dk 14 Z (DK.done Z Z (Gl 3 Z d []))
   .refine Dk 2 Z ?_;obtain⟨N,E,d⟩:=Qw d;refine DK.wo (x:=.b N) ?_ ?_
    .exact Pc [] Z (C6.fn call141 Z Z Z) ((zm _ _ _ _).c _ E) (hg:=(gT Z)) Z Wp
    refine Dk 3 Z (DK.is 16 d Z Z Z (λ_ d=>?_) (λ_ d=>?_))
    .exact Dk 8 Z (DK.done Z Z (Gl 3 Z d []))
    .refine Dk 1 Z ?_;obtain⟨O,G,d⟩:=Qw d;refine DK.wo (x:=.b O) ?_ ?_
     .exact Pc [] Z (C6.fn call142 Z Z Z) ((j4 _ _).c _ G) (hg:=(gT Z)) Z Wp
     refine Dk 3 Z (DK.is 21 d Z Z Z (λ_ d=>?_) (λ_ d=>?_))
     .exact Dk 3 Z (DK.done Z Z (Gl 3 Z d []))
     .refine KG (lo:=0) (x:=.a (CH.c g)) ⟨Z,trivial⟩ ?_;refine Dk 1 Z ?_;obtain⟨f,J,d⟩:=Qw d;refine Ex (x:=.a (CH.c f)) (X1:=[.c 120 (CH.c g),.c 120 (CH.c f)]) ?_ ?_
      .refine Qf [] (C6.fn call143 Z Z Z) ((jk _ _).c _ J) ?_ (hg:=(gT Z));rintro _ _ ⟨rfl,rfl⟩;exact FE Z Wp
      refine DK.done Z Z ?_;refine vX (.b (g != f)) (sr (p:=g) (q:=f) qH Z Z) ?_ (gT Z);exact Gl 2 Z d []
 exact au h
def Ov(n:Nat)(d:CH):AB (AA Int):=(bif (d.AX==1)then AH (app [d.AX,d.BF,d.No,d.At] [d.AO.BT,d.AO.AN,d.AO.A2,d.AO.BM,d.AO.B5,d.AO.BB,d.AO.Bk,d.AO.B4]) λE=>AC E else(bif (d.AX==2)then AH (app [d.AX,d.BF,d.No,d.At] [d.A4.Al,d.A4.Ag,d.A4.BB,d.A4.BD]) λF=>AC F else(bif (d.AX==3)then AH (app [d.AX,d.BF,d.No,d.At] [d.Aa.Al,d.Aa.Ag,d.Aa.BD,d.Aa.True,d.Aa.B6]) λG=>AC G else(bif (d.AX==4)then AH (app [d.AX,d.BF,d.No,d.At] [d.An.Bs,d.An.Be,d.An.Ba,d.An.Br,d.An.Bc,d.An.BZ,d.An.Bl,d.An.Bq]) λH=>AC H else(bif (d.AX==5)then AH (app [d.AX,d.BF,d.No,d.At] [d.Ac.BT,d.Ac.AT,d.Ac.Lo,d.Ac.Hi]) λf=>AC f else(bif (d.AX==6)then AH (app [d.AX,d.BF,d.No,d.At] [d.Ap.Al,d.Ap.Ag,d.Ap.Lo,d.Ap.Hi]) λg=>AC g else(bif (d.AX==7)then AH (app [d.AX,d.BF,d.No,d.At] [d.Bb.A,d.Bb.B]) λh=>AC h else(bif (d.AX==8)then AH (app [d.AX,d.BF,d.No,d.At] [d.Aj.BK,d.Aj.BT,d.Aj.AZ,d.Aj.AT]) λj=>AC j else(bif (d.AX==9)then AH (app [d.AX,d.BF,d.No,d.At] [d.Au.BK,d.Au.By,d.Au.Bj,d.Au.B2]) λm=>AC m else(bif (d.AX==10)then AH (app [d.AX,d.BF,d.No,d.At] [d.Af.BK,d.Af.BU,d.Af.AX,d.Af.BT,d.Af.AT,d.Af.BO]) λq=>AC q else(bif (d.AX==11)then(bif d.BE.Bg then AH (app [d.AX,d.BF,d.No,d.At] [d.BE.BK,1]) λt=>AC t else AH (app [d.AX,d.BF,d.No,d.At] [d.BE.BK,0]) λx=>AC x)else(bif (d.AX==13)then AH (app [d.AX,d.BF,d.No,d.At] [d.Bo.BF,d.Bo.No]) λy=>AC y else AC [d.AX,d.BF,d.No,d.At]))))))))))))
instance xp(d:CH):Kq (Ov n d) 217 [.a (CH.c d)] [] (λr=>.o 0 (AI r) 1) (λr=>[.r 3 1 (map eI r)]):=by
 refine Kg 16 func217 Z Z Z Z λr h=>vH (Ek (xs:=[.tmp 14,.tmp 16,.tmp 18,.tmp 20]) (es:=map eI [d.AX,d.BF,d.No,d.At]) QG Z Z Z Z Z ⟨Z,Z,Z,Z,trivial⟩ Z Z) ?_;refine Fg 17 Z Z (Cn Z h (λ_ h=>?_) (λ_ h=>?_))
 .refine Gc 27 Z (vH (Ek (xs:=[.tmp 30,.tmp 32,.tmp 34,.tmp 36,.tmp 38,.tmp 40,.tmp 42,.tmp 44]) (es:=map eI [d.AO.BT,d.AO.AN,d.AO.A2,d.AO.BM,d.AO.B5,d.AO.BB,d.AO.Bk,d.AO.B4]) QG Z Z Z Z Z ⟨Z,Z,Z,Z,Z,Z,Z,Z,trivial⟩ Z Z) ?_);refine FE Z (Bd h λl2 Q h=>vH (Qj (e:=eI) Q QG EB (QE (i:=3))) ?_);exact au h
 refine Gc 6 Z (Cn Z h (λ_ h=>?_) (λ_ h=>?_))
 .refine Gc 19 Z (vH (Ek (xs:=[.tmp 53,.tmp 55,.tmp 57,.tmp 59]) (es:=map eI [d.A4.Al,d.A4.Ag,d.A4.BB,d.A4.BD]) QG Z Z Z Z Z ⟨Z,Z,Z,Z,trivial⟩ Z Z) ?_);refine FE Z (Bd h λl4 T h=>vH (Qj (e:=eI) T QG EB (QE (i:=3))) ?_);exact au h
 refine Gc 6 Z (Cn Z h (λ_ h=>?_) (λ_ h=>?_))
 .refine Gc 21 Z (vH (Ek (xs:=[.tmp 68,.tmp 70,.tmp 72,.tmp 74,.tmp 76]) (es:=map eI [d.Aa.Al,d.Aa.Ag,d.Aa.BD,d.Aa.True,d.Aa.B6]) QG Z Z Z Z Z ⟨Z,Z,Z,Z,Z,trivial⟩ Z Z) ?_);refine FE Z (Bd h λl6 W h=>vH (Qj (e:=eI) W QG EB (QE (i:=3))) ?_);exact au h
 refine Gc 6 Z (Cn Z h (λ_ h=>?_) (λ_ h=>?_))
 .refine Gc 27 Z (vH (Ek (xs:=[.tmp 85,.tmp 87,.tmp 89,.tmp 91,.tmp 93,.tmp 95,.tmp 97,.tmp 99]) (es:=map eI [d.An.Bs,d.An.Be,d.An.Ba,d.An.Br,d.An.Bc,d.An.BZ,d.An.Bl,d.An.Bq]) QG Z Z Z Z Z ⟨Z,Z,Z,Z,Z,Z,Z,Z,trivial⟩ Z Z) ?_);refine FE Z (Bd h λl8 Y h=>vH (Qj (e:=eI) Y QG EB (QE (i:=3))) ?_);exact au h
 refine Gc 6 Z (Cn Z h (λ_ h=>?_) (λ_ h=>?_))
 .refine Gc 19 Z (vH (Ek (xs:=[.tmp 108,.tmp 110,.tmp 112,.tmp 114]) (es:=map eI [d.Ac.BT,d.Ac.AT,d.Ac.Lo,d.Ac.Hi]) QG Z Z Z Z Z ⟨Z,Z,Z,Z,trivial⟩ Z Z) ?_);refine FE Z (Bd h λab f h=>vH (Qj (e:=eI) f QG EB (QE (i:=3))) ?_);exact au h
 refine Gc 6 Z (Cn Z h (λ_ h=>?_) (λ_ h=>?_))
 .refine Gc 19 Z (vH (Ek (xs:=[.tmp 123,.tmp 125,.tmp 127,.tmp 129]) (es:=map eI [d.Ap.Al,d.Ap.Ag,d.Ap.Lo,d.Ap.Hi]) QG Z Z Z Z Z ⟨Z,Z,Z,Z,trivial⟩ Z Z) ?_);refine FE Z (Bd h λac j h=>vH (Qj (e:=eI) j QG EB (QE (i:=3))) ?_);exact au h
 refine Gc 6 Z (Cn Z h (λ_ h=>?_) (λ_ h=>?_))
 .refine Gc 9 Z (vH (Ek (xs:=[.tmp 137,.tmp 140]) (es:=map eI [d.Bb.A,d.Bb.B]) QG Z Z Z Z Z ⟨Z,Z,trivial⟩ Z Z) ?_);refine FE Z (Bd h λad q h=>vH (Qj (e:=eI) q QG EB (QE (i:=2))) ?_);exact au h
 refine Gc 6 Z (Cn Z h (λ_ h=>?_) (λ_ h=>?_))
 .refine Gc 19 Z (vH (Ek (xs:=[.tmp 149,.tmp 151,.tmp 153,.tmp 155]) (es:=map eI [d.Aj.BK,d.Aj.BT,d.Aj.AZ,d.Aj.AT]) QG Z Z Z Z Z ⟨Z,Z,Z,Z,trivial⟩ Z Z) ?_);refine FE Z (Bd h λae x h=>vH (Qj (e:=eI) x QG EB (QE (i:=3))) ?_);exact au h
 refine Gc 6 Z (Cn Z h (λ_ h=>?_) (λ_ h=>?_))
 .refine Gc 19 Z (vH (Ek (xs:=[.tmp 164,.tmp 166,.tmp 168,.tmp 170]) (es:=map eI [d.Au.BK,d.Au.By,d.Au.Bj,d.Au.B2]) QG Z Z Z Z Z ⟨Z,Z,Z,Z,trivial⟩ Z Z) ?_);refine FE Z (Bd h λaf E h=>vH (Qj (e:=eI) E QG EB (QE (i:=3))) ?_);exact au h
 refine Gc 6 Z (Cn Z h (λ_ h=>?_) (λ_ h=>?_))
 .refine Gc 23 Z (vH (Ek (xs:=[.tmp 179,.tmp 181,.tmp 183,.tmp 185,.tmp 187,.tmp 189]) (es:=map eI [d.Af.BK,d.Af.BU,d.Af.AX,d.Af.BT,d.Af.AT,d.Af.BO]) QG Z Z Z Z Z ⟨Z,Z,Z,Z,Z,Z,trivial⟩ Z Z) ?_);refine FE Z (Bd h λag G h=>vH (Qj (e:=eI) G QG EB (QE (i:=3))) ?_);exact au h
 refine Gc 6 Z (Cn Z h (λ_ h=>?_) (λ_ h=>?_))
 .refine Gc 8 Z (Cn Z h (λ_ h=>?_) (λ_ h=>?_))
  .refine Gc 6 Z (vH (Ek (xs:=[.tmp 200,.const (.int .i64 1)]) (es:=map eI [d.BE.BK,1]) QG Z Z Z Z Z ⟨Z,Z,trivial⟩ Z Z) ?_);refine FE Z (Bd h λah L h=>vH (Qj (e:=eI) L QG EB (QE (i:=2))) ?_);exact au h
  refine Gc 8 Z (vH (Ek (xs:=[.tmp 206,.const (.int .i64 0)]) (es:=map eI [d.BE.BK,0]) QG Z Z Z Z Z ⟨Z,Z,trivial⟩ Z Z) ?_);refine FE Z (Bd h λai M h=>vH (Qj (e:=eI) M QG EB (QE (i:=2))) ?_);exact au h
 refine Gc 6 Z (Cn Z h (λ_ h=>?_) (λ_ h=>?_))
 .refine Gc 9 Z (vH (Ek (xs:=[.tmp 214,.tmp 217]) (es:=map eI [d.Bo.BF,d.Bo.No]) QG Z Z Z Z Z ⟨Z,Z,trivial⟩ Z Z) ?_);refine FE Z (Bd h λaj O h=>vH (Qj (e:=eI) O QG EB (QE (i:=2))) ?_);exact au h
 exact au h
def W0(n:Nat)(d:Int):AB Unit:=AC ()
instance jY(d:Int):Kq (W0 n d) 277 [I d] [] (λ_=>.a [I 1,I d,.str [],.q 4 (map Value.enc [])]) (λ_=>[.c 351 [I 1,I d,.str [],.q 4 (map Value.enc [])]]):=KA func277
def Tg(g:AA Int)(d:(AA AL)×Int):AB (CF ((AA AL)×Int) (AA AL)):=(bif d.2<(AI g:Int) then AH (CI g d.2) λf=>AH (W0 n f) λj=>AH (app d.1 [{AX:=1,N:=f,S:=[],L:=[]:AL}]) λh=>AC (.k (h,i64.wrap (d.2+1)))else AC (.d d.1))
def Oc(f:AA Int):AB (AA AL):=AH (iter (Tg n f) n ([],0):AB (AA AL)) λd=>AC d
instance xc(F:AA Int):Kq (Oc n F) 216 [.q 1 (map eI F)] [] (λr=>.a [I 3,I 0,.str [],.o 0 (AI r) 4]) (λr=>[.r 351 4 (map Value.enc r),.c 351 [I 3,I 0,.str [],.o 0 (AI r) 4]]):=by
 refine Kg 7 func216 Z Z Z Z λr h=>?_;refine vV (CS.build (zs:=[I 0,I 0,.str [],.n]) zeroValue351 (Fu Z) _N) ?_;refine Fg 9 Z Z (Bd h λg G h=>Cg g [0,1,0] [2,3] Ze (λg=>[(1,.c 351 [I 3,I 0,.str [],.o 2 (AI g) 4]),(2,.r 351 4 (map Value.enc g))]) Zf ?_ ?_)
 .refine G0 1 Z (Lp [0,1,0] [0,2,3] (λf=>[(4,I f.2)]) (λf=>[(1,.c 351 [I 3,I 0,.str [],.o 2 (AI f.1) 4]),(2,.r 351 4 (map Value.enc f.1))]) G Zf ?_ ?_)
  .exact En (Ye (i:=1) (m:=3) (k:=4) Z Z Z) (Lr [0,1,2])
  intro f H d q;refine G0 5 Z (Lg 3 Z Z (Q5 Z d (λ_ d=>?_) (λ_ d=>?_)))
  .exact Gc 2 Z (QF d (Gx 1 Z (DX q d (Lr [0,1,2]))))
  refine Gc 4 Z (HY 8 [6] [(0,0,1),(0,0,1),(0,0,0),(0,0,0),(0,0,0),(0,0,0),(1,0,0),(0,1,1)] (by kernel_rfl) (Dk 1 Z (KG (lo:=0) ⟨Z,trivial⟩ ?_)));refine Dk 2 Z ?_;obtain⟨j,y,d⟩:=Qw d;refine DK.wo (x:=.rp [I j]) ?_ ?_
  .exact Ix y EB EC Z Wp
  refine Dk 1 Z ?_;obtain⟨J,B,d⟩:=Qw d;refine Ex (x:=.a [I 1,I j,.str [],.q 4 (map Value.enc [])]) (X1:=[.c 351 (Value.c UK),.c 351 [I 3,I 0,.str [],.o 2 (AI f.1) 4],.r 351 4 (map Value.enc f.1),.c 351 [I 1,I j,.str [],.q 4 (map Value.enc [])]]) ?_ ?_
  .refine Qf [] (C6.fn call277 Z Z Z) ((jY _ _).c _ B) ?_;rintro _ _ ⟨rfl,rfl⟩;exact FE Z Wp
  refine DK.wo (x:=.q 4 (map Value.enc [{AX:=1,N:=j,S:=[],L:=[]:AL}])) ?_ ?_
  .refine vH (QN (xs:=[.tmp 18]) pn Z Z Z Z Z ⟨Z,trivial⟩ Z Z) ?_;exact Wp
  refine DK.done Z Z (Bd d λM E d=>(vH (Qj E pn runUnderlying349 L9) ?_));exact au d
 exact au h
def T7(n:Nat)(f:AL)(rec271:AL->AB Bool)(d:Int):AB (CF Int (CF Unit Bool)):=(bif d<(AI f.L:Int) then AH (CI f.L d) λg=>AH (rec271 g) λh=>(bif (!h)then AC (.d (.d AD))else AC (.k (i64.wrap (d+1))))else AC (.d (.k ())))
def Z7(rec271:AL->AB Bool)(n:Nat)(d:AL):AB Bool:=(bif (d.AX==1)then AH ((bif (d.S==[])then AC ((AI d.L:Int)==0)else AC AD):AB Bool) λj=>AC j else(bif (d.AX==2)then AH ((bif (d.N==0)then AC ((AI d.L:Int)==0)else AC AD):AB Bool) λm=>AC m else(bif (d.AX==3)then AH (iter (T7 n d rec271) n 0:AB (CF Unit Bool)) λg=>match g with|.k f=>(AH ((bif (d.N==0)then AC (d.S==[])else AC AD):AB Bool) λh=>AC h)|.d f=>AC f else AC AD)))
theorem QaW(rec271:AL->AB Bool)(B:∀(f:AL),Ks (rec271 f) 307 [.a (Value.c f)] [] (λr=>.b r))(n:Nat)(f:AL):Ks (Z7 rec271 n f) 307 [.a (Value.c f)] [] (λr=>.b r):=by
 refine Kg 20 func307 Z Z Z Z λr h=>Cn Z h (λ_ h=>?_) (λ_ h=>?_)
 .exact au h
 refine Gc 6 Z (Cn Z h (λ_ h=>?_) (λ_ h=>?_))
 .exact au h
 refine Gc 6 Z (Cn Z h (λ_ h=>?_) (λ_ h=>?_))
 .refine Gc 6 Z (Bd h λG J h=>FX (b:=G) [0] [1] Ze Ze Zf ?_ (λP env H L M=>?_))
  .refine G0 1 Z (Lp [0] [1] (λm=>[(3,I m)]) Ze J Zf (Lr [0]) λm R d g=>?_);refine G0 6 Z (Lg 3 Z Z (Q5 Z d (λ_ d=>?_) (λ_ d=>?_)))
   .exact Je g d
   refine Gc 9 Z (Bd d λN x d=>FU x (nB N) Z (Go 1 Z (Cz [] d Kc Z λT Q d=>Go 3 Z (Cn Z d (λ_ d=>?_) (λ_ d=>?_)))))
   .exact DZ g d h
   exact au d
  subst L;refine Gx 1 Z (Ee M (Gc 1 Z (Bd h λj O h=>Cg j [] [] (λj=>[(2,.b j)]) Ze Zf ?_ ?_)))
  .exact au O
  exact au h
 exact au h
def V5:Nat->AL->AB Bool
  |0=>λ_=>AF
  |n+1=>Z7 (V5 n) n
instance k_l:∀(d:AL),Ks (V5 n d) 307 [.a (Value.c d)] [] (λr=>.b r):=by
  induction n with
  |zero=>exact λ_=>⟨nofun⟩
  |succ n ih=>exact QaW _ ih n
def Tm(n:Nat)(g:AL)(rec272:AL->AB Int)(d:Int×Int):AB (CF (Int×Int) Int):=(bif d.2<(AI g.L:Int) then AH (CI g.L d.2) λh=>AH (rec272 h) λf=>AC (.k ((if d.1<f then f else d.1),i64.wrap (d.2+1)))else AC (.d d.1))
def Z6(rec272:AL->AB Int)(n:Nat)(d:AL):AB Int:=(bif (d.AX != 3)then AC 0 else AH (iter (Tm n d rec272) n (0,0):AB Int) λf=>AC (i64.wrap (f+1)))
theorem Qbd(rec272:AL->AB Int)(y:∀(g:AL),Ks (rec272 g) 308 [.a (Value.c g)] [] (λr=>I r))(n:Nat)(g:AL):Ks (Z6 rec272 n g) 308 [.a (Value.c g)] [] (λr=>I r):=by
 refine Kg 14 func308 Z Z Z Z λr h=>Cn Z h (λ_ h=>?_) (λ_ h=>?_)
 .exact au h
 refine Gc 13 Z (Bd h λm E h=>Cg m [] [] (λm=>[(3,I m)]) Ze Zf ?_ ?_)
 .refine G0 1 Z (Lp [0] [1] (λf=>[(3,I f.1),(4,I f.2)]) Ze E Zf (Lr [0]) λf H d q=>?_);refine G0 6 Z (Lg 3 Z Z (Q5 Z d (λ_ d=>?_) (λ_ d=>?_)))
  .exact Gc 2 Z (QF d (Gx 1 Z (DX q d (Lr []))))
  refine Gc 9 Z (Bd d λF x d=>FU x (nB F) Z (Go 1 Z (Cz [] d Kc Z λj G d=>?_)));refine vX (I (if f.1<j then j else f.1)) (CS.max Z Z Z Z) ?_;exact au d
 exact au h
def U_:Nat->AL->AB Int
  |0=>λ_=>AF
  |n+1=>Z6 (U_ n) n
instance k_m:∀(d:AL),Ks (U_ n d) 308 [.a (Value.c d)] [] (λr=>I r):=by
  induction n with
  |zero=>exact λ_=>⟨nofun⟩
  |succ n ih=>exact Qbd _ ih n
def WD(d:AL):AB Int:=AH (V5 n d) λf=>(bif (!f)then AC 1 else AH (U_ n d) λg=>(bif 16<g then AC 2 else AC 0))
instance wU(d:AL):Ks (WD n d) 275 [.a (Value.c d)] [] (λr=>I r):=KA func275
def PV(n:Nat)(d:Int):AB Int:=(bif 0<=d then AC (u64.wrap (2*(u64.wrap d)))else AC (u64.wrap ((u64.wrap (2*(u64.wrap (i64.wrap (0-(i64.wrap (d+1)))))))+1)))
instance yZ(d:Int):Ks (PV n d) 310 [I d] [] (λr=>.i .u64 r):=by
 refine Kg 12 func310 Z Z Z Z λr h=>Cn Z h (λ_ h=>?_) (λ_ h=>?_)
 .refine Gc 3 Z (vV (Rh Z E4 Gn Z) ?_);exact Gt 6 Z h 2 []
 refine Gc 7 Z (vV (Rh Z E4 Gn Z) ?_);exact Gt 6 Z h 2 []
def Z9(rec275:Int->AB (AA Int))(n:Nat)(d:Int):AB (AA Int):=(bif d<128 then AC [u8.wrap d]else AH (rec275 (u64.wrap (Int.tdiv d 128))) λf=>AH (app [u8.wrap (u64.wrap ((Int.tmod d 128)+128))] f) λg=>AC g)
theorem QaH(rec275:Int->AB (AA Int))(f:∀(d:Int),Kq (rec275 d) 309 [.i .u64 d] [] (λr=>.o 0 (AI r) 1) (λr=>[.r 5 1 (map (Ys .u8) r)]))(n:Nat)(d:Int):Kq (Z9 rec275 n d) 309 [.i .u64 d] [] (λr=>.o 0 (AI r) 1) (λr=>[.r 5 1 (map (Ys .u8) r)]):=by
 refine Kg 12 func309 Z Z Z Z λr h=>Cn Z h (λ_ h=>?_) (λ_ h=>?_)
 .refine Gc 3 Z ?_;refine vX (.i .u8 (u8.wrap d)) (Rh Z Gn Gi Z) ?_;exact au h
 refine Gc 5 Z ?_;refine vX (.i .u64 (Int.tmod d 128)) (CS.rem Z Z Z (by decide)) ?_;refine Go 1 Z ?_;refine vV (x:=(.i .u8 (u8.wrap (u64.wrap ((Int.tmod d 128)+128))))) (Rh Z Gn Gi Z) ?_;refine vH (Ek (xs:=[.tmp 11]) (es:=map (Ys .u8) [u8.wrap (u64.wrap ((Int.tmod d 128)+128))]) Nz Z Z Z Z Z ⟨Z,trivial⟩ Z Z) ?_;refine Fg 1 Z Z ?_;refine vX (.i .u64 (u64.wrap (Int.tdiv d 128))) (CS.quo Z Z Z (by decide)) ?_;refine Cd [] h Kc Z λq m h=>FE Z (Bd h λt j h=>vH (Qj (e:=(Ys .u8)) j Nz EX (QE (i:=1))) ?_);exact au h
def Rp:Nat->Int->AB (AA Int)
  |0=>λ_=>AF
  |n+1=>Z9 (Rp n) n
instance k_i:∀(d:Int),Kq (Rp n d) 309 [.i .u64 d] [] (λr=>.o 0 (AI r) 1) (λr=>[.r 5 1 (map (Ys .u8) r)]):=by
  induction n with
  |zero=>exact λ_=>⟨nofun⟩
  |succ n ih=>exact QaH _ ih n
def VV(n:Nat)(f:AL)(rec273:AL->AB (AA Int))(d:(AA Int)×Int):AB (CF ((AA Int)×Int) (AA Int)):=(bif d.2<(AI f.L:Int) then AH (CI f.L d.2) λg=>AH (rec273 g) λh=>AH (app d.1 h) λj=>AC (.k (j,i64.wrap (d.2+1)))else AC (.d d.1))
def Z8(rec273:AL->AB (AA Int))(n:Nat)(d:AL):AB (AA Int):=(bif (d.AX==1)then AH (PV n d.N) λg=>AH (Rp n g) λh=>AH (app [1] h) λj=>AC j else(bif (d.AX==2)then AF else AH (Rp n (u64.wrap (AI d.L:Int))) λm=>AH (app [3] m) λq=>AH (iter (VV n d rec273) n (q,0):AB (AA Int)) λf=>AC f))
theorem QaV(rec273:AL->AB (AA Int))(y:∀(j:AL),Kq (rec273 j) 276 [.a (Value.c j)] [] (λr=>.o 0 (AI r) 1) (λr=>[.r 5 1 (map (Ys .u8) r)]))(n:Nat)(j:AL):Kq (Z8 rec273 n j) 276 [.a (Value.c j)] [] (λr=>.o 0 (AI r) 1) (λr=>[.r 5 1 (map (Ys .u8) r)]):=by
 refine Kg 20 func276 Z Z Z Z λr h=>Cn Z h (λ_ h=>?_) (λ_ h=>?_)
 .refine Gc 2 Z (vH (Ek (xs:=[.const (.int .u8 1)]) (es:=map (Ys .u8) [1]) Nz Z Z Z Z Z ⟨Z,trivial⟩ Z Z) ?_);refine Fg 2 Z Z (Cz [] h Kc Z λV N h=>Cd [] h Kc Z λW O h=>FE Z (Bd h λX E h=>vH (Qj (e:=(Ys .u8)) E Nz EX (QE (i:=2))) ?_));exact au h
 refine Gc 6 Z (Cn Z h (λ_ h=>?_) (λ_ h=>?_))
 .refine Gc 1 Z ?_;cases h
 refine Gc 5 Z (vH (Ek (xs:=[.const (.int .u8 3)]) (es:=map (Ys .u8) [3]) Nz Z Z Z Z Z ⟨Z,trivial⟩ Z Z) ?_);refine Fg 2 Z Z (Lm Z ?_);refine vX (.i .u64 (u64.wrap (AI j.L:Int))) (Rh Z E4 Gn Z) ?_;refine Cd [] h Kc Z λY P h=>FE Z (Bd h λl9 G h=>vH (Qj (e:=(Ys .u8)) G Nz EX (QE (i:=2))) ?_);refine Fg 9 Z Z (Bd h λf H h=>Cg f [1] [] (λf=>[(3,.o 0 (AI f) 1)]) (λf=>[(0,.r 5 1 (map (Ys .u8) f))]) Zf ?_ ?_)
 .refine G0 1 Z (Lp [0,3] [1] (λg=>[(3,.o 1 (AI g.1) 1),(4,I g.2)]) (λg=>[(1,.r 5 1 (map (Ys .u8) g.1))]) H Zf (Lr [0,3]) λg Q d m=>?_);refine G0 6 Z (Lg 3 Z Z (Q5 Z d (λ_ d=>?_) (λ_ d=>?_)))
  .exact Gc 2 Z (QF d (Gx 1 Z (DX m d (Lr [1]))))
  refine Gc 9 Z (Bd d λJ t d=>FU t (nB J) Z (Go 1 Z (Cd [] d Kc Z λR M d=>FE Z (Bd d λT x d=>vH (Qj (e:=(Ys .u8)) x Nz EX (QE (i:=2))) ?_))));exact au d
 exact au h
def WK:Nat->AL->AB (AA Int)
  |0=>λ_=>AF
  |n+1=>Z8 (WK n) n
instance k_k:∀(d:AL),Kq (WK n d) 276 [.a (Value.c d)] [] (λr=>.o 0 (AI r) 1) (λr=>[.r 5 1 (map (Ys .u8) r)]):=by
  induction n with
  |zero=>exact λ_=>⟨nofun⟩
  |succ n ih=>exact QaV _ ih n
def V8(d:AL):AB ((AA Int)×Int):=AH (WD n d) λf=>(bif (f != 0)then AC ([],f)else AH (WK n d) λg=>AC (g,0))
instance wN(d:AL):Kq (V8 n d) 215 [.a (Value.c d)] [] (λr=>.t [.o 0 (AI r.1) 1,I r.2]) (λr=>[.r 5 1 (map (Ys .u8) r.1)]):=by
 refine Kg 10 func215 Z Z Z Z λr h=>Cz [] h Kc Z λj g h=>Go 10 Z (Cn Z h (λ_ h=>?_) (λ_ h=>?_))
 .refine Gc 9 Z ?_;obtain rfl:=Oi h;refine R2 2 3 Z Z ?_;exact En (Er (s:=2) (XQ Z) Z) (Lr [1])
 exact au h
def MT(d:CH):AB ((AA Int)×Int):=AH (JZ n d) λg=>(bif (g != 0)then AC ([],120)else AH (Ov n d) λh=>AH (Oc n h) λj=>AH (V8 n ({AX:=3,N:=0,S:=[],L:=j:AL})) λf=>AC (f.1,f.2))
instance yr(d:CH):Kq (MT n d) 144 [.a (CH.c d)] [] (λr=>.t [.o 0 (AI r.1) 1,I r.2]) (λr=>[.r 5 1 (map (Ys .u8) r.1)]):=by
 refine Kg 11 func144 Z Z Z Z λr h=>Cz [] h Kc Z λq g h=>Go 3 Z (Cn Z h (λ_ h=>?_) (λ_ h=>?_))
 .refine Gc 8 Z ?_;obtain rfl:=Oi h;refine R2 2 3 Z Z ?_;exact En (Er (s:=2) (XQ Z) Z) (Lr [1])
 refine Gc 5 Z (Cd [] h Kc Z λt j h=>FE Z (Et (Ym [(8,_)] Z Z (Cx.cons Z Ep Cx.nil) (Ec (Ec (QQ _)))) ?_));refine Cd [] h Kc Z λx m h=>FE Z (Et (Ym [(9,_)] Z Z (Cx.cons Z (DO.agg (CN.k (CN.k (CN.k (Ed Ep (Ej _)))))) Cx.nil) (Ec (Ec (Ec (Dg.cells (CN.k (CN.k (CN.k (Ed Ep (Ej _))))) (QQ _)))))) ?_);exact au h
def Tw(n:Nat)(f:CH)(g:CH)(d:Int):AB (CF Int (CF Unit Int)):=(bif d<3 then AH (CI [f.At,f.BF,f.No] d) λh=>AH (CI [g.At,g.BF,g.No] d) λj=>(bif h<j then AC (.d (.d (-1)))else AH (CI [f.At,f.BF,f.No] d) λm=>AH (CI [g.At,g.BF,g.No] d) λq=>(bif q<m then AC (.d (.d 1))else AC (.k (i64.wrap (d+1)))))else AC (.d (.k ())))
def O4(h:CH)(j:CH):AB Int:=AH (iter (Tw n h j) n 0:AB (CF Unit Int)) λm=>match m with|.k d=>(AH (MT n h) λf=>AH (MT n j) λg=>(bif Op.bytesLess (map JB f.1) (map JB g.1)then AC (-1)else(bif (!(Op.bytesLess (map JB f.1) (map JB g.1)||(map JB f.1)==(map JB g.1)))then AC 1 else AC 0)))|.d d=>AC d
instance xz(q:CH)(t:CH):Ks (O4 n q t) 80 [.a (CH.c q),.a (CH.c t)] [] (λr=>I r):=by
 refine Kg 15 func80 Z Z Z Z λr h=>vH (Ek (xs:=[.tmp 13,.tmp 15,.tmp 17]) (es:=map eI [q.At,q.BF,q.No]) QG Z Z Z Z Z ⟨Z,Z,Z,trivial⟩ Z Z) ?_;refine Fg 11 Z Z (vH (Ek (xs:=[.tmp 20,.tmp 22,.tmp 24]) (es:=map eI [t.At,t.BF,t.No]) QG Z Z Z Z Z ⟨Z,Z,Z,trivial⟩ Z Z) ?_);refine Fg 9 Z Z (Bd h λL M h=>D4 (b:=L) [0,1] [2,3] Ze Ze Zf ?_ (λ_ N=>?_))
 .refine G0 1 Z (Lp [0,1,2,3] [2,3,5,6] (λf=>[(7,I f)]) Ze M Zf (Lr [0,1,2,3]) λf X d g=>?_);refine G0 7 Z (Q5 Z d (λ_ d=>?_) (λ_ d=>?_))
  .exact Je g d
  refine Gc 6 Z (DP 8 Z (D 2 Z ?_));obtain⟨O,y,d⟩:=Qw d;refine DS.v (x:=(.p 2 (toNat f*1))) (Qd y Z EB EC) ?_;refine DS.v (x:=(I O)) (Ez Z EF Z (Qh y)) ?_;refine D 2 Z ?_;obtain⟨P,B,d⟩:=Qw d;refine DS.v (x:=(.p 3 (toNat f*1))) (Qd B Z EB EC) ?_;refine DS.v (x:=(I P)) (Ez Z EF Z (Qh B)) ?_;refine Eg Z (Go 3 Z (Cn Z d (λ_ d=>?_) (λ_ d=>?_)))
  .exact DZ g d h
  refine Gc 3 Z (DP 8 Z (D 2 Z ?_));obtain⟨Q,E,d⟩:=Qw d;refine DS.v (x:=(.p 2 (toNat f*1))) (Qd E Z EB EC) ?_;refine DS.v (x:=(I Q)) (Ez Z EF Z (Qh E)) ?_;refine D 2 Z ?_;obtain⟨R,F,d⟩:=Qw d;refine DS.v (x:=(.p 3 (toNat f*1))) (Qd F Z EB EC) ?_;refine DS.v (x:=(I R)) (Ez Z EF Z (Qh F)) ?_;exact DZ g d h
 subst N;refine Gc 3 Z (Cd [] h Kc Z λj V h=>Fg 10 Z Z (Cd [] h Kc Z λm W h=>Fg 11 Z Z ?_));refine vX (.str (map JB j.1)) (iR (l:=j.1) (HG.row (i:=2)) EX Gi Gh) ?_;refine Go 1 Z ?_;refine vX (.str (map JB m.1)) (iR (l:=m.1) (HG.row (i:=3)) EX Gi Gh) ?_;refine Go 3 Z (Cn Z h (λ_ h=>?_) (λ_ h=>?_))
 .exact au h
 refine Gc 6 Z ?_;refine vX (.str (map JB j.1)) (iR (l:=j.1) (HG.row (i:=2)) EX Gi Gh) ?_;refine Go 1 Z ?_;refine vX (.str (map JB m.1)) (iR (l:=m.1) (HG.row (i:=3)) EX Gi Gh) ?_;refine vV (Qm3 Z Z Z) ?_;exact au h
def ny(q:AA CH)(f:(AA CH)×Int)(d:Int):AB (CF Int Int):=AH ((bif d<(AI f.1:Int) then AH (CI f.1 d) λg=>AH (CI q f.2) λh=>AH (O4 n g h) λj=>AC (AG (j<0))else AC AD):AB Bool) λm=>(bif m then AC (.k (i64.wrap (d+1)))else AC (.d d))
def MM(g:AA CH)(d:(AA CH)×Int):AB (CF ((AA CH)×Int) (AA CH)):=(bif d.2<(AI g:Int) then AH (AH (CI g d.2) λh=>AH (JZ n h) λj=>(bif (j != 0)then AC d.1 else AH (iter (ny n g d) n 0:AB Int) λf=>AH ((bif f<(AI d.1:Int) then AH (CI d.1 f) λm=>AH (CI g d.2) λq=>AC (m==q)else AC AD):AB Bool) λt=>(bif t then AC d.1 else AH (Dm d.1 0 f) λx=>AH (app ([]:AA CH) x) λy=>AH (CI g d.2) λB=>AH (app y [B]) λE=>AH (Dm d.1 f (AI d.1:Int)) λF=>AH (app E F) λG=>AC G)):AB (AA CH)) λH=>AC (.k (H,i64.wrap (d.2+1)))else AC (.d d.1))
def Kl(f:AA CH):AB (AA CH):=AH (iter (MM n f) n (([]:AA CH),0):AB (AA CH)) λd=>AC d
instance k_u(a1:AA CH):Kq (Kl n a1) 29 [.q 57 (map CH.c a1)] [] (λr=>.o 0 (AI r) 57) (λr=>[.r 120 57 (map CH.c r)]):=by
 refine Kg 7 func29 Z Z Z Z λr h=>vH (Ek (xs:=[]) (es:=map CH.c []) ZX Z Z Z Z Z trivial Z Z) ?_;refine Fg 9 Z Z (Bd h λG ao h=>Cg G [0] [] (λG=>[(3,.o 0 (AI G) 57)]) (λG=>[(0,.r 120 57 (map CH.c G))]) Zf ?_ ?_)
 .refine G0 1 Z (Lp [0] [0] (λg=>[(3,.o 0 (AI g.1) 57),(4,I g.2)]) (λg=>[(0,.r 120 57 (map CH.c g.1))]) ao Zf (Lr [0]) λg ax y aa=>?_);refine G0 5 Z (Lg 3 Z Z (Q5 Z y (λ_ y=>?_) (λ_ y=>?_)))
  .exact Gc 2 Z (QF y (Gx 1 Z (DX aa y (Lr [0]))))
  refine Gc 3 Z (Bd y λJ f y=>Cg J [0] [0,4] (λJ=>[(3,.o 0 (AI J) 57)]) (λJ=>[(0,.r 120 57 (map CH.c J))]) Zf ?_ ?_)
  .refine G0 6 Z (Bd f λay ac f=>Iz ac Z (Go 1 Z (Cz [] f Kc Z λaz aw f=>Go 3 Z (Cn Z f (λ_ f=>?_) (λ_ f=>?_)))))
   .exact au f
   refine Gc 8 Z (Bd f λj aq f=>Ct j [0] [0,3,4] (λj=>[(5,I j)]) Ze Zf ?_ (λenv H W=>?_))
   .refine G0 1 Z (Lp [0] [0,3,4] (λN=>[(5,I N)]) Ze aq Zf (Lr [0]) λN ba E ae=>?_);refine G0 2 Z (Bd E λO m E=>Ct O [0] [0,3,4,5] (λO=>[(34,.b O)]) Ze Zf ?_ (λenv H W=>?_))
    .refine G0 0 Z (DP 13 Z (D 5 Z (DS.is 4 m Z Z Z (λ_ m=>?_) (λ_ m=>?_))))
     .refine D 2 Z ?_;obtain⟨ar,T,m⟩:=Qw m;refine DS.v (x:=(.p 0 (toNat N*57))) (Qd T Z EE EH) ?_ (hg:=(gT Z));refine DS.v (x:=(.a (CH.c ar))) (Qt Z isAgg120 EH Z (Qh T) Z Z) ?_ (hg:=(gT Z));refine D 2 Z ?_;obtain⟨av,ag,m⟩:=Qw m;refine DS.v (QV (e:=CH.c) (l:=a1) (v:=av) ag EE EH) ?_ (hg:=(gT Z));exact au m
     exact au m
    refine Gx 1 Z (Ee W (Q5 Z E (λ_ E=>?_) (λ_ E=>?_)))
    .exact Gc 2 Z (QF E (Gx 1 Z (DX ae E (Lr [0]))))
    exact au E
   refine Gx 1 Z (Ee W (Gc 2 Z (Bd f λP t f=>Cg P [0] [0,3,4,5] (λP=>[(51,.b P)]) Ze Zf ?_ ?_)))
   .refine G0 0 Z (DP 13 Z (D 5 Z (DS.is 4 t Z Z Z (λ_ t=>?_) (λ_ t=>?_))))
    .refine D 2 Z ?_;obtain⟨Q,V,t⟩:=Qw t;refine DS.v (x:=(.p 0 (toNat j*57))) (Qd V Z EE EH) ?_ (hg:=(gT Z));refine DS.v (x:=(.a (CH.c Q))) (Qt Z isAgg120 EH Z (Qh V) Z Z) ?_ (hg:=(gT Z));refine D 2 Z ?_;obtain⟨R,aj,t⟩:=Qw t;refine DS.v (QV (e:=CH.c) (l:=a1) (v:=R) aj EE EH) ?_ (hg:=(gT Z));refine D 1 Z (Eg Z ?_);refine vX (.b (Q==R)) (iQ (p:=Q) (q:=R) qH Z Z) ?_ (gT Z);exact au t
    exact au t
   refine Cn Z f (λ_ f=>?_) (λ_ f=>?_)
   .exact au f
   refine Gc 2 Z (HY 14 [0,4,10] [(1,0,0),(0,0,1),(0,0,1),(0,0,1),(1,1,0),(0,0,2),(0,0,2),(0,0,2),(0,0,2),(0,0,2),(1,2,0),(0,0,3),(0,0,3),(0,0,3)] (by kernel_rfl) ?_);refine Ex (x:=.o 1 (AI ([]:AA CH)) 57) (X1:=[.r 120 57 (map CH.c g.1),.r 120 57 (map CH.c ([]:AA CH))]) ?_ ?_
   .refine vH (Ek (xs:=[]) (es:=map CH.c []) ZX Z Z Z Z Z trivial Z Z) ?_;exact FE Z Wp
   refine Dk 2 Z ?_;obtain⟨bb,L,f⟩:=Qw f;refine KS (lo:=0) (hi:=1) (x:=.s 0 (0+toNat 0) (toNat j-toNat 0) 57) ⟨?_,?_,trivial⟩ ?_
   iterate 2 refine vX (.s 0 (0+toNat 0) (toNat j-toNat 0) 57) (QP (l:=g.1) L EE EH (.inl ⟨Z,Z⟩) (.inr ⟨_,Z,Z⟩)) ?_;exact Wp
   obtain⟨X,al,f⟩:=Qw f;refine Ex (x:=.o 2 (AI X) 57) (X1:=[.r 120 57 (map CH.c g.1),.dead,.r 120 57 (map CH.c X)]) ?_ ?_
   .refine vH (Qj (e:=CH.c) al ZX EE (LV (b:=0) L)) ?_;exact FE Z Wp
   refine Dk 2 Z ?_;obtain⟨d,M,f⟩:=Qw f;refine KS (lo:=0) (hi:=2) (x:=.rp [I d.BF,I d.No,I d.At,I d.AX,I d.AO.BT,I d.AO.AN,I d.AO.A2,I d.AO.BM,I d.AO.B5,I d.AO.BB,I d.AO.Bk,I d.AO.B4,I d.A4.Al,I d.A4.Ag,I d.A4.BB,I d.A4.BD,I d.Aa.Al,I d.Aa.Ag,I d.Aa.BD,I d.Aa.True,I d.Aa.B6,I d.An.Bs,I d.An.Be,I d.An.Ba,I d.An.Br,I d.An.Bc,I d.An.BZ,I d.An.Bl,I d.An.Bq,I d.Ac.BT,I d.Ac.AT,I d.Ac.Lo,I d.Ac.Hi,I d.Ap.Al,I d.Ap.Ag,I d.Ap.Lo,I d.Ap.Hi,I d.Bb.A,I d.Bb.B,I d.Aj.BK,I d.Aj.BT,I d.Aj.AZ,I d.Aj.AT,I d.Au.BK,I d.Au.By,I d.Au.Bj,I d.Au.B2,I d.Af.BK,I d.Af.BU,I d.Af.AX,I d.Af.BT,I d.Af.AT,I d.Af.BO,I d.BE.BK,.b d.BE.Bg,I d.Bo.BF,I d.Bo.No]) ⟨?_,?_,?_,trivial⟩ ?_
   iterate 3 exact Ix M EE EH Z Wp
   refine Dk 1 Z ?_;refine KS (lo:=0) (hi:=2) (x:=.q 57 (map CH.c [d])) ⟨?_,?_,?_,trivial⟩ ?_
   iterate 3 refine vH (QN (xs:=[.tmp 60]) (es:=map CH.c [d]) ZX Z Z Z Z Z ⟨Z,trivial⟩ Z Z) ?_;exact FE Z Wp
   obtain⟨Y,am,f⟩:=Qw f;refine Ex (x:=.o 3 (AI Y) 57) (X1:=[.r 120 57 (map CH.c g.1),.dead,.dead,.r 120 57 (map CH.c Y)]) ?_ ?_
   .refine vH (Qj (e:=CH.c) am ZX EE L9) ?_;exact FE Z Wp
   refine Dk 2 Z ?_;obtain⟨bc,F,f⟩:=Qw f;refine KS (lo:=0) (hi:=3) (x:=.s 0 (0+toNat j) (toNat (AI g.1:Int)-toNat j) 57) ⟨?_,?_,?_,?_,trivial⟩ ?_
   iterate 4 refine vX (.s 0 (0+toNat j) (toNat (AI g.1:Int)-toNat j) 57) (QP (l:=g.1) F EE EH (.inr ⟨_,Z,Z⟩) (.inl ⟨Z,Z⟩)) ?_;exact Wp
   refine DK.done Z Z (Bd f λbd an f=>?_);refine vH (Qj (e:=CH.c) an ZX EE (LV (b:=0) F)) ?_;exact au f
  exact au y
 exact au h
def J0(n:Nat)(f:CA)(d:Int):AB Bool:=AH ((bif 0<=d then AC (AG (d<(AI f.Ar:Int)))else AC AD):AB Bool) λg=>AC g
instance zW(d:CA)(f:Int):Ks (J0 n d f) 125 [.a (CA.c d),I f] [] (λr=>.b r):=KA func125
def Md(n:Nat)(d:CA)(f:Int):AB Bool:=AH (CI d.Ar f) λg=>AC (g.AX==1)
instance y8(d:CA)(f:Int):Ks (Md n d f) 196 [.a (CA.c d),I f] [] (λr=>.b r):=KA func196
def O8(n:Nat)(d:CC)(f:CC):AB Bool:=AH ((bif d.Al<f.Al then AC AE else(bif (d.Al==f.Al)then AC (AG (d.Ag<f.Ag))else AC AD)):AB Bool) λg=>AC g
instance yB(d:CC)(f:CC):Ks (O8 n d f) 198 [.a (CC.c d),.a (CC.c f)] [] (λr=>.b r):=KA func198
def nw(f:AA CC)(m:Int)(q:Int)(d:Int):AB (CF Int Int):=AH ((bif d<(AI f:Int) then AH (CI f d) λg=>AH (O8 n g ({Al:=m,Ag:=q,BJ:=0:CC})) λh=>AC h else AC AD):AB Bool) λj=>(bif j then AC (.k (i64.wrap (d+1)))else AC (.d d))
def JX(j:CA)(d:AA CC)(g:Int)(h:Int):AB (AA CC):=AH (AH (J0 n j g) λF=>(bif (!F)then AC AE else AH (Md n j g) λG=>AC G):AB Bool) λH=>(bif H then AC d else AH (iter (nw n d g h) n 0:AB Int) λf=>AH ((bif f<(AI d:Int) then AH (CI d f) λm=>(bif (m.Al==g)then AH (CI d f) λq=>AC (q.Ag==h)else AC AD)else AC AD):AB Bool) λt=>(bif t then AC d else AH (Dm d f (AI d:Int)) λx=>AH (app [{Al:=g,Ag:=h,BJ:=0:CC}] x) λy=>AH (Dm d 0 f) λB=>AH (app B y) λE=>AC E))
instance zT(a1:CA)(q:AA CC)(N:Int)(O:Int):Kq (JX n a1 q N O) 131 [.a (CA.c a1),.o 0 (AI q) 3,I N,I O] [.r 209 3 (map CC.c q)] (λr=>.o 1 (AI r) 3) (λr=>[.dead,.r 209 3 (map CC.c r)]):=by
 refine Kg 8 func131 Z Z Z Z λr h=>Bd h λP h5 h=>Ct P [0] [1,2,3] (λP=>[(20,.b P)]) Ze Zf ?_ (λenv H t=>?_)
 .exact au h5
 refine Gx 1 Z (Ee t (Cn Z h (λ_ h=>?_) (λ_ h=>?_)))
 .refine Gc 8 Z ?_;obtain rfl:=Oi h;refine R1 8 Z ?_;refine En (ma (s:=8) (i:=0) Z Z Z) ?_;exact Lr [0,1]
 refine Gc 17 Z (Bd h λg ac h=>Ct g [0,1] [1,2,3,9] (λg=>[(10,I g)]) Ze Zf ?_ (λenv H t=>?_))
 .refine G0 1 Z (Lp [0,1] [1,2,3,9] (λB=>[(10,I B)]) Ze ac Zf (Lr [0,1]) λB ag j Q=>?_);refine G0 2 Z (Bd j λE m j=>Ct E [0,1] [1,2,3,9,10] (λE=>[(36,.b E)]) Ze Zf ?_ (λenv H t=>?_))
  .refine G0 0 Z (DP 10 Z (D 5 Z (DS.is 4 m Z Z Z (λ_ m=>?_) (λ_ m=>?_))))
   .refine D 2 Z ?_;obtain⟨ad,F,m⟩:=Qw m;refine DS.v (x:=(.p 0 (toNat B*3))) (Qd F Z ES E6) ?_ (hg:=(gT Z));refine DS.v (x:=(.a (CC.c ad))) (Qt Z isAgg209 E6 Z (Qh F) Z Z) ?_ (hg:=(gT Z));exact au m
   exact au m
  refine Gx 1 Z (Ee t (Q5 Z j (λ_ j=>?_) (λ_ j=>?_)))
  .exact Gc 2 Z (QF j (Gx 1 Z (DX Q j (Lr [0,1]))))
  exact au j
 refine Gx 1 Z (Ee t (Gc 2 Z (Bd h λG d h=>Cg G [0,1] [1,9,10] (λG=>[(60,.b G)]) Ze Zf ?_ ?_)))
 .refine G0 6 Z (Is 43 d Z (λ_ d=>?_) (λ_ d=>?_))
  .refine Go 2 Z (Bd d λae J d=>?_);refine vX (.p 0 (toNat g*3)) (Qd J Z ES E6) ?_ (gT Z);refine HJ (gT Z) sh Z ?_;refine vX (I ae.Al) (Ez Z EF Z (Qh J)) ?_ (gT Z);refine Go 4 Z (Is 52 d Z (λ_ d=>?_) (λ_ d=>?_))
   .refine Go 2 Z (Bd d λaf L d=>?_);refine vX (.p 0 (toNat g*3)) (Qd L Z ES E6) ?_ (gT Z);refine HJ (gT Z) si Z ?_;refine vX (I af.Ag) (Ez Z EF Z (Qm (f:=1) L)) ?_ (gT Z);exact au d
   exact au d
  exact au d
 refine Cn Z h (λ_ h=>?_) (λ_ h=>?_)
 .refine Gc 8 Z ?_;obtain rfl:=Oi h;refine R1 8 Z ?_;refine En (ma (s:=8) (i:=0) Z Z Z) ?_;exact Lr [0,2]
 refine Gc 3 Z (NI 5 1 [0,1,3,3,3] (by kernel_rfl) (Da 1 Z ?_));refine kv (Ek (xs:=[.tmp 62]) (es:=map CC.c [{Al:=N,Ag:=O,BJ:=0:CC}]) gL Z Z Z Z Z ⟨Z,trivial⟩ Z Z) Z Z (Db 2 Z ?_);obtain⟨ah,y,h⟩:=Qw h;refine DB.wo2 (x:=.s 0 (0+toNat g) (toNat (AI q:Int)-toNat g) 3) ?_ ?_ ?_
 iterate 2 refine vX (.s 0 (0+toNat g) (toNat (AI q:Int)-toNat g) 3) (QP (l:=q) y ES E6 (.inr ⟨_,Z,Z⟩) (.inl ⟨Z,Z⟩)) ?_;exact Wp
 refine DB.done Z (Bd h λai Y h=>vH (Qj (e:=CC.c) Y gL ES (LV (b:=0) y)) ?_);refine Fg 8 Z Z (Bd h λaj M h=>?_);refine vX (.s 0 (0+toNat 0) (toNat g-toNat 0) 3) (dx (l:=q) M ES E6) ?_;refine Go 1 Z (Bd h λak aa h=>vH (dw (e:=CC.c) M aa gL ES (QE (i:=3))) ?_);exact au h
def VM(h:CA)(f:AA CH)(d:(AA CC)×Int):AB (CF ((AA CC)×Int) (AA CC)):=(bif d.2<(AI f:Int) then AH (CI f d.2) λg=>AH ((bif (g.AX==2)then AH (CI f d.2) λJ=>AH (CI f d.2) λj=>AH (JX n h d.1 J.A4.Al j.A4.Ag) λm=>AC m else(bif (g.AX==3)then AH (CI f d.2) λq=>AH (CI f d.2) λt=>AH (JX n h d.1 q.Aa.Al t.Aa.Ag) λx=>AC x else(bif (g.AX==4)then AH (CI f d.2) λy=>AH (CI f d.2) λB=>AH (JX n h d.1 y.An.Bs B.An.Be) λE=>AH (CI f d.2) λF=>AH (CI f d.2) λG=>AH (JX n h E F.An.Br G.An.Bc) λH=>AC H else AC d.1))):AB (AA CC)) λL=>AC (.k (L,i64.wrap (d.2+1)))else AC (.d d.1))
def e_(n:Nat)(B:AA CH)(f:(AA CC)×Int)(d:(AA CC)×Int):AB (CF ((AA CC)×Int) (AA CC)):=(bif 0<=d.2 then AH (CI B d.2) λg=>AH (AH (CI B d.2) λj=>(bif (j.AX==3)then AH (CI d.1 f.2) λm=>(bif (g.Aa.Al==m.Al)then AH (CI d.1 f.2) λq=>AC (g.Aa.Ag==q.Ag)else AC AD)else AC AD):AB Bool) λt=>AH ((bif t then AH (CI d.1 f.2) λh=>AH (JN d.1 f.2 ({Al:=h.Al,Ag:=h.Ag,BJ:=g.Aa.BD:CC})) λx=>AC x else AC d.1):AB (AA CC)) λy=>AC (.k (y,i64.wrap (d.2-1)))else AC (.d d.1))
def eh(g:AA CH)(d:(AA CC)×Int):AB (CF ((AA CC)×Int) (AA CC)):=(bif d.2<(AI d.1:Int) then AH (iter (e_ n g d) n (d.1,i64.wrap ((AI g:Int)-1)):AB (AA CC)) λf=>AC (.k (f,i64.wrap (d.2+1)))else AC (.d d.1))
def MY(g:CA)(m:AA CH):AB ((AA CC)×Int):=AH (HU n g) λh=>(bif (h != 0)then AC ([],h)else AH (Kl n m) λj=>AH (iter (VM n g j) n (([]:AA CC),0):AB (AA CC)) λd=>(bif 511<(AI d:Int) then AC ([],2)else AH (iter (eh n j) n (d,0):AB (AA CC)) λf=>AC (f,0)))
instance yx(a1:CA)(a2:AA CH):Kq (MY n a1 a2) 73 [.a (CA.c a1),.q 57 (map CH.c a2)] [] (λr=>.t [.o 0 (AI r.1) 3,I r.2]) (λr=>[.r 209 3 (map CC.c r.1)]):=by
 refine Kg 10 func73 Z Z Z Z λr h=>Cz [] h Kc Z λr1 bz h=>Go 10 Z (Cn Z h (λ_ h=>?_) (λ_ h=>?_))
 .refine Gc 9 Z ?_;obtain rfl:=Oi h;refine R2 4 5 Z Z ?_;refine En (Er (s:=4) (k:=3) (t:=209) (XQ Z) Z) ?_;exact Lr [1]
 refine Gc 5 Z (Cd [] h Kc Z λr3 ca h=>Fg 5 Z Z (vH (Ek (xs:=[]) (es:=map CC.c []) gL Z Z Z Z Z trivial Z Z) ?_));refine Fg 9 Z Z (Bd h λN bo h=>Ct N [1,2] [7] (λN=>[(8,.o 1 (AI N) 3)]) (λN=>[(1,.r 209 3 (map CC.c N))]) Zf ?_ (λenv H G=>?_))
 .refine G0 1 Z (Lp [0,1,2] [2,7] (λg=>[(8,.o 2 (AI g.1) 3),(9,I g.2)]) (λg=>[(2,.r 209 3 (map CC.c g.1))]) bo Zf (Lr [0,1,2]) λg cb F aw=>?_);refine G0 9 Z (Q5 Z F (λ_ F=>?_) (λ_ F=>?_))
  .exact Gc 2 Z (QF F (Gx 1 Z (DX aw F (Lr [1,2]))))
  refine Gc 8 Z (Bd F λbp ag F=>?_);refine vX (.p 1 (toNat g.2*57)) (Qd ag Z EE EH) ?_;refine Fp S7 Z ?_;refine vX (I bp.AX) (Ez Z EF Z (Qm (f:=3) ag)) ?_;refine Go 9 Z (Bd F λO d F=>Ct O [0,1,0] [2,7,9] (λO=>[(8,.o 2 (AI O) 3)]) (λO=>[(2,.r 209 3 (map CC.c O))]) Zf ?_ (λenv H G=>?_))
  .refine G0 0 Z (Cn Z d (λ_ d=>?_) (λ_ d=>?_))
   .refine DP 14 Z (D 4 Z ?_);obtain⟨bq,ah,d⟩:=Qw d;refine DS.v (x:=(.p 1 (toNat g.2*57))) (Qd ah Z EE EH) ?_;refine DS.wo (x:=.p 1 (toNat g.2*57+12)) ?_ ?_
    .exact Fp mN Z Wp
    refine DS.wo (x:=.p 1 (toNat g.2*57+12)) ?_ ?_
    .exact Fp lV Z Wp
    refine DS.v (x:=(I bq.A4.Al)) (Ez Z EF Z (Qm (f:=12) ah)) ?_;refine D 2 Z ?_;obtain⟨az,Q,d⟩:=Qw d;refine DS.v (x:=(.p 1 (toNat g.2*57))) (Qd Q Z EE EH) ?_;refine DS.wo (x:=.p 1 (toNat g.2*57+12)) ?_ ?_
    .exact Fp mN Z Wp
    refine DS.wo (x:=.p 1 (toNat g.2*57+13)) ?_ ?_
    .exact Fp lW Z Wp
    refine DS.v (x:=(I az.A4.Ag)) (Ez Z EF Z (Qm (f:=13) Q)) ?_;exact au d
   refine Gc 6 Z (Cn Z d (λ_ d=>?_) (λ_ d=>?_))
   .refine DP 14 Z (D 4 Z ?_);obtain⟨ba,R,d⟩:=Qw d;refine DS.v (x:=(.p 1 (toNat g.2*57))) (Qd R Z EE EH) ?_;refine DS.wo (x:=.p 1 (toNat g.2*57+16)) ?_ ?_
    .exact Fp iO Z Wp
    refine DS.wo (x:=.p 1 (toNat g.2*57+16)) ?_ ?_
    .exact Fp QoP Z Wp
    refine DS.v (x:=(I ba.Aa.Al)) (Ez Z EF Z (Qm (f:=16) R)) ?_;refine D 2 Z ?_;obtain⟨bb,T,d⟩:=Qw d;refine DS.v (x:=(.p 1 (toNat g.2*57))) (Qd T Z EE EH) ?_;refine DS.wo (x:=.p 1 (toNat g.2*57+16)) ?_ ?_
    .exact Fp iO Z Wp
    refine DS.wo (x:=.p 1 (toNat g.2*57+17)) ?_ ?_
    .exact Fp QoO Z Wp
    refine DS.v (x:=(I bb.Aa.Ag)) (Ez Z EF Z (Qm (f:=17) T)) ?_;exact au d
   refine Gc 6 Z (Cn Z d (λ_ d=>?_) (λ_ d=>?_))
   .refine Gc 1 Z (DP 14 Z (D 4 Z ?_));obtain⟨bc,V,d⟩:=Qw d;refine DS.v (x:=(.p 1 (toNat g.2*57))) (Qd V Z EE EH) ?_;refine DS.wo (x:=.p 1 (toNat g.2*57+21)) ?_ ?_
    .exact Fp d5 Z Wp
    refine DS.wo (x:=.p 1 (toNat g.2*57+21)) ?_ ?_
    .exact Fp QoN Z Wp
    refine DS.v (x:=(I bc.An.Bs)) (Ez Z EF Z (Qm (f:=21) V)) ?_;refine D 2 Z ?_;obtain⟨bd,W,d⟩:=Qw d;refine DS.v (x:=(.p 1 (toNat g.2*57))) (Qd W Z EE EH) ?_;refine DS.wo (x:=.p 1 (toNat g.2*57+21)) ?_ ?_
    .exact Fp d5 Z Wp
    refine DS.wo (x:=.p 1 (toNat g.2*57+22)) ?_ ?_
    .exact Fp QoM Z Wp
    refine DS.v (x:=(I bd.An.Be)) (Ez Z EF Z (Qm (f:=22) W)) ?_;refine Eg Z (Cd [2] d Kc Z λbs br d=>Fg 3 Z Z (DP 14 Z (D 4 Z ?_)));obtain⟨be,X,d⟩:=Qw d;refine DS.v (x:=(.p 1 (toNat g.2*57))) (Qd X Z EE EH) ?_;refine DS.wo (x:=.p 1 (toNat g.2*57+21)) ?_ ?_
    .exact Fp d5 Z Wp
    refine DS.wo (x:=.p 1 (toNat g.2*57+24)) ?_ ?_
    .exact Fp QoL Z Wp
    refine DS.v (x:=(I be.An.Br)) (Ez Z EF Z (Qm (f:=24) X)) ?_;refine D 2 Z ?_;obtain⟨bg,Y,d⟩:=Qw d;refine DS.v (x:=(.p 1 (toNat g.2*57))) (Qd Y Z EE EH) ?_;refine DS.wo (x:=.p 1 (toNat g.2*57+21)) ?_ ?_
    .exact Fp d5 Z Wp
    refine DS.wo (x:=.p 1 (toNat g.2*57+25)) ?_ ?_
    .exact Fp QoK Z Wp
    refine DS.v (x:=(I bg.An.Bc)) (Ez Z EF Z (Qm (f:=25) Y)) ?_;exact au d
   exact au d
  exact Gx 3 Z (Ee G (Gc 5 Z (QZ F (Lr [0,1,2]))))
 refine Gx 1 Z (Ee G (Gc 8 Z (Cn Z h (λ_ h=>?_) (λ_ h=>?_))))
 .refine Gc 8 Z ?_;obtain rfl:=Oi h;refine R2 4 5 Z Z ?_;refine En (Er (s:=4) (k:=3) (t:=209) (XQ Z) Z) ?_;exact Lr [2]
 refine Gc 8 Z (Bd h λJ bh h=>Cg J [1] [] (λJ=>[(8,.o 0 (AI J) 3)]) (λJ=>[(0,.r 209 3 (map CC.c J))]) Zf ?_ ?_)
 .refine G0 1 Z (Lp [0,1] [7] (λq=>[(8,.o 1 (AI q.1) 3),(10,I q.2)]) (λq=>[(1,.r 209 3 (map CC.c q.1))]) bh Zf (Lr [0,1]) λq bu B al=>?_);refine G0 9 Z (Q5 Z B (λ_ B=>?_) (λ_ B=>?_))
  .exact Gc 2 Z (QF B (Gx 1 Z (DX al B (Lr [1]))))
  refine Gc 12 Z (Bd B λL bi B=>Ct L [0,1] [7,10] (λL=>[(8,.o 1 (AI L) 3)]) (λL=>[(1,.r 209 3 (map CC.c L))]) Zf ?_ (λenv H G=>?_))
  .refine G0 1 Z (Lp [0,1] [7,10] (λE=>[(8,.o 1 (AI E.1) 3),(11,I E.2)]) (λE=>[(1,.r 209 3 (map CC.c E.1))]) bi Zf (Lr [0,1]) λE bv m an=>?_);refine G0 7 Z (Q5 Z m (λ_ m=>?_) (λ_ m=>?_))
   .exact Gc 2 Z (QF m (Gx 1 Z (DX an m (Lr [0,1]))))
   refine Gc 8 Z (Bd m λbj aa m=>?_);refine vX (.p 0 (toNat E.2*57)) (Qd aa Z EE EH) ?_;refine Fp iO Z ?_;refine vX (.a (Aa.c bj.Aa)) (Qt Z isAgg100 G3 Z (Qm (f:=16) aa) Z Z) ?_;refine Go 5 Z (Bd m λP j m=>Ct P [0,1,2] [7,8,10,11,12] (λP=>[(144,.b P)]) Ze Zf ?_ (λenv H G=>?_))
   .refine G0 0 Z (DP 24 Z (D 2 Z ?_));obtain⟨bk,ab,j⟩:=Qw j;refine DS.v (x:=(.p 0 (toNat E.2*57))) (Qd ab Z EE EH) ?_;refine DS.wo (x:=.p 0 (toNat E.2*57+3)) ?_ ?_
    .exact Fp S7 Z Wp
    refine DS.v (x:=(I bk.AX)) (Ez Z EF Z (Qm (f:=3) ab)) ?_;refine D 2 Z (DS.is 6 j Z Z Z (λ_ j=>?_) (λ_ j=>?_))
    .refine D 4 Z ?_;obtain⟨bl,ac,j⟩:=Qw j;refine DS.v (x:=(.p 1 (toNat q.2*3))) (Qd ac Z ES E6) ?_ (hg:=(gT Z));refine DS.wo (x:=.p 1 (toNat q.2*3)) ?_ ?_
     .exact HJ (gT Z) sh Z Wp
     refine DS.v (x:=(I bl.Al)) (Ez Z EF Z (Qh ac)) ?_ (hg:=(gT Z));refine D 3 Z (DS.is 16 j Z Z Z (λ_ j=>?_) (λ_ j=>?_))
     .refine D 4 Z ?_;obtain⟨bm,ad,j⟩:=Qw j;refine DS.v (x:=(.p 1 (toNat q.2*3))) (Qd ad Z ES E6) ?_ (hg:=(gT Z));refine DS.wo (x:=.p 1 (toNat q.2*3+1)) ?_ ?_
      .exact HJ (gT Z) si Z Wp
      refine DS.v (x:=(I bm.Ag)) (Ez Z EF Z (Qm (f:=1) ad)) ?_ (hg:=(gT Z));exact au j
     exact au j
    exact au j
   refine Gx 1 Z (Ee G (Bd m λM y m=>Ct M [0,1] [7,10,11] (λM=>[(8,.o 1 (AI M) 3)]) (λM=>[(1,.r 209 3 (map CC.c M))]) Zf ?_ (λenv H G=>?_)))
   .refine G0 0 Z (Cn Z y (λ_ y=>?_) (λ_ y=>?_))
    .refine Gc 5 Z (Bd y λbw ae y=>?_);refine vX (.p 1 (toNat q.2*3)) (Qd ae Z ES E6) ?_;refine Fp QoE Z (Bd y λbx af y=>?_);refine vU (Yy (e:=CC.c) (k:=3) (f:=2) ae af EC Z Z) ?_;refine FE Z ?_;refine Et (Q8 (s:=8) Z (congrArg (λn=>A.s 1 0 n 3) (Yp af))) ?_;exact au y
    exact au y
   exact Gx 2 Z (Ee G (Gc 5 Z (QZ m (Lr [0,1]))))
  exact Gx 2 Z (Ee G (Gc 5 Z (QZ B (Lr [0,1]))))
 exact au h
def Tu(n:Nat)(f:AA CC)(m:Int)(q:Int)(d:Int):AB (CF Int (CF Unit Int)):=(bif d<(AI f:Int) then AH (AH (CI f d) λg=>(bif (g.Al==m)then AH (CI f d) λh=>AC (h.Ag==q)else AC AD):AB Bool) λj=>(bif j then AC (.d (.d (i64.wrap (d+1))))else AC (.k (i64.wrap (d+1))))else AC (.d (.k ())))
def Kw(g:AA CC)(h:Int)(j:Int):AB Int:=AH (iter (Tu n g h j) n 0:AB (CF Unit Int)) λf=>match f with|.k d=>(AC 0)|.d d=>AC d
instance zI(d:AA CC)(f:Int)(g:Int):Ks (Kw n d f g) 126 [.q 3 (map CC.c d),I f,I g] [] (λr=>I r):=KA func126
def Z3(n:Nat)(f:AA CC)(d:Int)(g:Int)(h:Int):AB CC:=(bif (d==0)then AC ({Al:=g,Ag:=h,BJ:=0:CC})else AH (CI f (i64.wrap (d-1))) λj=>AC j)
instance jS(d:AA CC)(f:Int)(g:Int)(h:Int):Kq (Z3 n d f g h) 128 [.q 3 (map CC.c d),I f,I g,I h] [] (λr=>.a (CC.c r)) (λr=>[.c 209 (CC.c r)]):=KA func128
def PQ(n:Nat)(g:Int)(f:Int):AB (Int×Int):=AH ((bif g<(-2199023255552) then AC AE else(bif 2199023255552<g then AC AE else(bif f<0 then AC AE else AC (AG (100000<f))))):AB Bool) λj=>(bif j then AC (0,1)else AH ((bif g<0 then AC (i64.wrap (0-g))else AC g):AB Int) λd=>AH ((bif (i64.wrap ((i64.wrap (Int.tdiv (i64.wrap (d*f)) 1000000))*1000000))<(i64.wrap (d*f)) then AC (i64.wrap ((i64.wrap (Int.tdiv (i64.wrap (d*f)) 1000000))+1))else AC (i64.wrap (Int.tdiv (i64.wrap (d*f)) 1000000))):AB Int) λh=>AC (h,0))
instance yU(m:Int)(q:Int):Ks (PQ n m q) 197 [I m,I q] [] (λr=>.t [I r.1,I r.2]):=by
 refine Kg 8 func197 Z Z Z Z λr h=>Bd h λj B h=>Ct j [] [0,1] (λj=>[(20,.b j)]) Ze Zf ?_ (λenv H d=>?_)
 .exact au B
 refine Gx 1 Z (Ee d (Cn Z h (λ_ h=>?_) (λ_ h=>?_)))
 .exact au h
 refine Gc 9 Z (Bd h λf x h=>Ct f [] [1] (λf=>[(0,I f)]) Ze Zf ?_ (λenv H d=>?_))
 .exact au x
 refine Gx 1 Z (Ee d (Gc 5 Z (vV (CS.quo Z Z Z (by decide)) ?_)));refine Go 14 Z (Bd h λg y h=>Cg g [] [] (λg=>[(6,I g)]) Ze Zf ?_ ?_)
 .exact au y
 exact au h
def LE(d:CA)(f:CC)(h:Int):AB CJ:=AH (Md n d f.Al) λj=>(bif j then AC ({Lo:=0,Hi:=d.AQ.Ak:CJ})else AH (PQ n (i64.wrap (h-f.BJ)) d.AQ.BC) λg=>AC ({Lo:=i64.wrap (0-g.1),Hi:=i64.wrap (d.AQ.Ak+g.1):CJ}))
instance kf(d:CA)(f:CC)(g:Int):Kq (LE n d f g) 127 [.a (CA.c d),.a (CC.c f),I g] [] (λr=>.a [I r.Lo,I r.Hi]) (λr=>[.c 83 [I r.Lo,I r.Hi]]):=KA func127
def TS(n:Nat)(g:(AA CC)×Int)(d:(AA Edge)×Int):AB (CF ((AA Edge)×Int) (AA Edge)):=(bif d.2<(AI g.1:Int) then AH (app d.1 [{BA:=0,To:=i64.wrap (d.2+1),W:=1099511627776:Edge},{BA:=i64.wrap (d.2+1),To:=0,W:=1099511627776:Edge}]) λf=>AC (.k (f,i64.wrap (d.2+1)))else AC (.d d.1))
def Te(E:CA)(h:AA CH)(f:(AA CC)×(AA Edge)×Int):AB (CF ((AA CC)×(AA Edge)×Int) ((AA CC)×(AA Edge))):=(bif f.2.2<(AI h:Int) then AH (AH (CI h f.2.2) λd=>AH (AH (CI h f.2.2) λm=>(bif (m.AX != 3)then AC AE else AH (J0 n E d.Aa.Al) λq=>AC (!q)):AB Bool) λt=>(bif t then AC f.2.1 else AH (Kw n f.1 d.Aa.Al d.Aa.Ag) λg=>AH (Z3 n f.1 g d.Aa.Al d.Aa.Ag) λx=>AH (LE n E x d.Aa.BD) λj=>AH (app f.2.1 [{BA:=0,To:=g,W:=i64.wrap ((i64.wrap ((i64.wrap (d.Aa.True+d.Aa.B6))-d.Aa.BD))-j.Lo):Edge},{BA:=g,To:=0,W:=i64.wrap ((i64.wrap ((i64.wrap (d.Aa.BD+j.Hi))-d.Aa.True))+d.Aa.B6):Edge}]) λy=>AC y):AB (AA Edge)) λB=>AC (.k (f.1,B,i64.wrap (f.2.2+1)))else AC (.d (f.1,f.2.1)))
def Ti(x:CA)(m:AA CH)(j:(AA CC)×(AA Edge))(f:(AA Edge)×Int):AB (CF ((AA Edge)×Int) (AA Edge)):=(bif f.2<(AI m:Int) then AH (AH (CI m f.2) λd=>AH (AH (CI m f.2) λy=>(bif (y.AX != 4)then AC AE else AH (J0 n x d.An.Bs) λB=>(bif (!B)then AC AE else AH (J0 n x d.An.Br) λE=>AC (!E))):AB Bool) λF=>(bif F then AC f.1 else AH (Kw n j.1 d.An.Bs d.An.Be) λg=>AH (Kw n j.1 d.An.Br d.An.Bc) λh=>AH (Z3 n j.1 g d.An.Bs d.An.Be) λG=>AH (LE n x G d.An.Ba) λq=>AH (Z3 n j.1 h d.An.Br d.An.Bc) λH=>AH (LE n x H d.An.BZ) λt=>AH (app f.1 [{BA:=g,To:=h,W:=i64.wrap ((i64.wrap ((i64.wrap ((i64.wrap (d.An.Bq-d.An.BZ))-t.Lo))+d.An.Ba))+q.Hi):Edge},{BA:=h,To:=g,W:=i64.wrap ((i64.wrap ((i64.wrap ((i64.wrap (d.An.BZ+t.Hi))-d.An.Ba))-q.Lo))-d.An.Bl):Edge}]) λJ=>AC J):AB (AA Edge)) λL=>AC (.k (L,i64.wrap (f.2+1)))else AC (.d f.1))
def OL(j:CA)(m:AA CH):AB (Int×(AA Edge)×Int):=AH (MY n j m) λd=>(bif (d.2 != 0)then AC (0,[],d.2)else AH (iter (TS n d) n ([],0):AB (AA Edge)) λq=>AH (Kl n m) λg=>AH (iter (Te n j g) n (d.1,q,0):AB ((AA CC)×(AA Edge))) λh=>AH (iter (Ti n j g h) n (h.2,0):AB (AA Edge)) λf=>(bif 8192<(AI f:Int) then AC (0,[],2)else AC (i64.wrap ((AI d.1:Int)+1),f,0)))
instance xO(J:CA)(a2:AA CH):Kq (OL n J a2) 71 [.a (CA.c J),.q 57 (map CH.c a2)] [] (λr=>.t [.a [I r.1,.q 3 (map Edge.c r.2.1)],I r.2.2]) (λr=>[.c 176 [I r.1,.q 3 (map Edge.c r.2.1)]]):=by
 refine Kg 11 func71 Z Z Z Z λr h=>Cd [] h Kc Z λF bx h=>Fg 14 Z Z (Cn Z h (λ_ h=>?_) (λ_ h=>?_))
 .exact au h
 refine Gc 7 Z ?_;refine vX (.a [I (i64.wrap ((AI F.1:Int)+1)),.n]) (CS.build (zs:=[I 0,.n]) zeroValue176 (Fu Z) _M) ?_;refine vH (eT (v:=(.a [I 0,.n])) zeroValue176 (Fu Z)) ?_;refine Fg 9 Z Z (Bd h λb8 h9 h=>Ct b8 [0,1,2,3,0] [1,2,4,6,8] Ze (λb8=>[(3,.c 176 [I (i64.wrap ((AI F.1:Int)+1)),.o 4 (AI b8) 3]),(4,.r 260 3 (map Edge.c b8))]) Zf ?_ (λenv H X=>?_))
 .refine G0 1 Z (Lp [0,1,2,3,0] [1,2,4,6,8] (λY=>[(9,I Y.2)]) (λY=>[(3,.c 176 [I (i64.wrap ((AI F.1:Int)+1)),.o 4 (AI Y.1) 3]),(4,.r 260 3 (map Edge.c Y.1))]) h9 Zf ?_ ?_)
  .refine En (Ye (i:=3) (m:=1) (t:=260) (k:=3) Z Z Z) ?_;exact Lr [0,1,2,3,4]
  intro Y bz R be;refine G0 9 Z (Q5 Z R (λ_ R=>?_) (λ_ R=>?_))
  .exact Gc 2 Z (QF R (Gx 1 Z (DX be R (Lr [0,1,2,3,4]))))
  refine Gc 13 Z (vH (Ek (xs:=[.tmp 45,.tmp 48]) (es:=map Edge.c [{BA:=0,To:=i64.wrap (Y.2+1),W:=1099511627776:Edge},{BA:=i64.wrap (Y.2+1),To:=0,W:=1099511627776:Edge}]) Zd Z Z Z Z Z ⟨Z,Z,trivial⟩ Z Z) ?_);refine FE Z (Bd R λca bh R=>vH (Qj (e:=Edge.c) bh Zd GC (QE (i:=5))) ?_);exact au R
 refine Gx 1 Z (Ee X (Gc 3 Z (Cd [] h Kc Z λx bs h=>Fg 9 Z Z (Bd h λT bo h=>Ct T [0,1,2,3,4] [2,4] (λT=>[(6,.q 3 (map CC.c T.1)),(8,.p 2 0),(10,.o 4 (AI x) 57)]) (λT=>[(2,.c 176 [I (i64.wrap ((AI F.1:Int)+1)),.o 3 (AI T.2) 3]),(3,.r 260 3 (map Edge.c T.2)),(4,.r 120 57 (map CH.c x))]) Zf ?_ (λenv H X=>?_)))))
 .refine G0 1 Z (Lp [0,1,3,4,5] [2,4,8,10] (λy=>[(6,.q 3 (map CC.c y.1)),(11,I y.2.2)]) (λy=>[(2,.c 176 [I (i64.wrap ((AI F.1:Int)+1)),.o 3 (AI y.2.1) 3]),(3,.r 260 3 (map Edge.c y.2.1))]) bo Zf ?_ ?_)
  .refine En (Ym [(6,_)] Z Z (Cx.cons Z Ep Cx.nil) (Ec (Ec (Ec (QQ _))))) ?_;exact Lr [0,1,3,4,5]
  intro y cb V bi;refine G0 9 Z (Q5 Z V (λ_ V=>?_) (λ_ V=>?_))
  .exact Gc 2 Z (QF V (Gx 1 Z (DX bi V (Lr [0,1,2,3,4]))))
  refine Gc 3 Z (Bd V λaa B V=>Ct aa [0,1,2,3,4] [2,4,6,8,10,11] Ze (λaa=>[(2,.c 176 [I (i64.wrap ((AI F.1:Int)+1)),.o 3 (AI aa) 3]),(3,.r 260 3 (map Edge.c aa))]) Zf ?_ (λenv H X=>?_))
  .refine G0 5 Z (Bd B λE aj B=>?_);refine vX (.p 4 (toNat y.2.2*57)) (Qd aj Z EE EH) ?_;refine Fp iO Z ?_;refine vX (.a (Aa.c E.Aa)) (Qt Z isAgg100 G3 Z (Qm (f:=16) aj) Z Z) ?_;refine Go 6 Z (Bd B λac ad B=>Ct ac [0,1,2,3,4,5] [2,4,6,8,10,11,12] (λac=>[(77,.b ac)]) Ze Zf ?_ (λenv H X=>?_))
   .refine G0 3 Z (Bd ad λbk ak ad=>?_);refine vX (.p 4 (toNat y.2.2*57)) (Qd ak Z EE EH) ?_;refine Fp S7 Z ?_;refine vX (I bk.AX) (Ez Z EF Z (Qm (f:=3) ak)) ?_;exact au ad
   refine Gx 1 Z (Ee X (Cn Z B (λ_ B=>?_) (λ_ B=>?_)))
   .exact au B
   refine Gc 9 Z (Cz [] B Kc Z λae bp B=>Go 4 Z ?_);obtain⟨P,al,B⟩:=Qw B;obtain⟨L,am,B⟩:=Qw B;refine Yx 12 1 [84,85,86,87,88,89,90,91,92,93,94,14] [AD,AD,AD,AD,AD,AD,AD,AE,AD,AD,AE,AE] [[],[],[],[],[],[],[],[],[],[],[7],[]] [[],[7],[11],[7,10],[7,11],[7,10,11]] [[(0,0),(1,1),(2,2),(4,4)],[(0,0),(2,2)],[(0,0),(2,2)],[(0,0),(2,2)],[(0,0),(2,2)],[(0,0),(2,2)],[(0,0),(2,2)],[(0,1),(2,4)],[(0,0),(1,1),(2,2),(4,4)],[(0,0),(1,1),(2,2),(4,4)],[(1,3),(4,5)],[(0,2),(1,4),(3,5)]] [.a (CA.c J),.q 3 (map CC.c y.1),I ae,.p 5 0,I E.Aa.Al,.p 5 1,I E.Aa.Ag,.a (CC.c P),.p 5 2,I E.Aa.BD,.a [I L.Lo,I L.Hi],.p 6 0] [[.c 33 (CA.c J),.c 176 [I 0,.q 3 (map Edge.c [])],.c 176 [I (i64.wrap ((AI F.1:Int)+1)),.o 3 (AI y.2.1) 3],.r 260 3 (map Edge.c y.2.1),.r 120 57 (map CH.c x),.c 100 (Aa.c E.Aa),.dead],[.c 33 (CA.c J),.c 176 [I 0,.q 3 (map Edge.c [])],.c 176 [I (i64.wrap ((AI F.1:Int)+1)),.o 3 (AI y.2.1) 3],.r 260 3 (map Edge.c y.2.1),.r 120 57 (map CH.c x),.c 100 (Aa.c E.Aa),.dead,.c 209 (CC.c P)],[.c 33 (CA.c J),.c 176 [I 0,.q 3 (map Edge.c [])],.c 176 [I (i64.wrap ((AI F.1:Int)+1)),.o 3 (AI y.2.1) 3],.r 260 3 (map Edge.c y.2.1),.r 120 57 (map CH.c x),.c 100 (Aa.c E.Aa),.c 83 [I 0,I 0]],[.c 33 (CA.c J),.c 176 [I 0,.q 3 (map Edge.c [])],.c 176 [I (i64.wrap ((AI F.1:Int)+1)),.o 3 (AI y.2.1) 3],.r 260 3 (map Edge.c y.2.1),.r 120 57 (map CH.c x),.c 100 (Aa.c E.Aa),.dead,.c 209 (CC.c P),.c 83 [I L.Lo,I L.Hi]],[.c 33 (CA.c J),.c 176 [I 0,.q 3 (map Edge.c [])],.c 176 [I (i64.wrap ((AI F.1:Int)+1)),.o 3 (AI y.2.1) 3],.r 260 3 (map Edge.c y.2.1),.r 120 57 (map CH.c x),.c 100 (Aa.c E.Aa),.c 83 [I 0,I 0],.c 209 (CC.c P)],[.c 33 (CA.c J),.c 176 [I 0,.q 3 (map Edge.c [])],.c 176 [I (i64.wrap ((AI F.1:Int)+1)),.o 3 (AI y.2.1) 3],.r 260 3 (map Edge.c y.2.1),.r 120 57 (map CH.c x),.c 100 (Aa.c E.Aa),.c 83 [I 0,I 0],.c 209 (CC.c P),.c 83 [I L.Lo,I L.Hi]]] ([.c 33 (CA.c J),.c 176 [I 0,.q 3 (map Edge.c [])],.c 176 [I (i64.wrap ((AI F.1:Int)+1)),.o 3 (AI y.2.1) 3],.r 260 3 (map Edge.c y.2.1),.r 120 57 (map CH.c x),.c 100 (Aa.c E.Aa),.c 83 [I 0,I 0],.c 209 (CC.c P),.c 83 [I L.Lo,I L.Hi]]) DD Z Z Z Z Z Z Z ?_ Z ?_
   .refine M1 (M1 (M1 (M1 (M1 (M1 (M1 (Co.cons ?_ (M1 (M1 (Co.cons ?_ (Co.cons ?_ (Co.nil))))))))))))
    .refine Qb ?_ (Qb ?_ (Qg))
     iterate 2 refine F7 Z (sD 1 (sD 2 (sD 4 (sD 6 sN)))) ?_;refine Qf [] (C6.fn call128 Z Z Z) ((jS _ _ _ _ _).c _ al) ?_;rintro _ _ ⟨rfl,rfl⟩;exact FE Z Wp
    .refine Qb ?_ (Qb ?_ (Qg))
     iterate 2 refine F7 Z (sD 0 (sD 7 (sD 9 sN))) ?_;refine Qf [] (C6.fn call127 Z Z Z) ((kf _ _ _ _).c _ am) ?_;rintro _ _ ⟨rfl,rfl⟩;exact FE Z Wp
    .refine Qb ?_ (Qb ?_ (Qb ?_ (Qg)))
     iterate 3 exact Jn.alloc _ 14 83 6 _ Z Z Z Z Z Z Z (I5.alloc (v:=(.a [I 0,I 0])) EK (Fu Z)) Z
   refine Go 32 Z (vH (Ek (xs:=[.tmp 109,.tmp 122]) (es:=map Edge.c [{BA:=0,To:=ae,W:=i64.wrap ((i64.wrap ((i64.wrap (E.Aa.True+E.Aa.B6))-E.Aa.BD))-L.Lo):Edge},{BA:=ae,To:=0,W:=i64.wrap ((i64.wrap ((i64.wrap (E.Aa.BD+L.Hi))-E.Aa.True))+E.Aa.B6):Edge}]) Zd Z Z Z Z Z ⟨Z,Z,trivial⟩ Z Z) ?_);refine FE Z (Bd B λbu ay B=>vH (Qj (e:=Edge.c) ay Zd GC (QE (i:=9))) ?_);exact au B
  exact Gx 1 Z (Ee X (Gc 5 Z (QZ V (Lr [0,1,2,3,4]))))
 refine Gx 1 Z (Ee X (Gc 6 Z (Bd h λO bl h=>Cg O [1,2,3] [4,8] Ze (λO=>[(1,.c 176 [I (i64.wrap ((AI F.1:Int)+1)),.o 2 (AI O) 3]),(2,.r 260 3 (map Edge.c O))]) Zf ?_ ?_)))
 .refine G0 1 Z (Lp [0,1,2,3,4] [2,4,6,8,10] (λg=>[(15,I g.2)]) (λg=>[(2,.c 176 [I (i64.wrap ((AI F.1:Int)+1)),.o 3 (AI g.1) 3]),(3,.r 260 3 (map Edge.c g.1))]) bl Zf (Lr [0,1,2,3,4]) λg bv N az=>?_);refine G0 9 Z (Q5 Z N (λ_ N=>?_) (λ_ N=>?_))
  .exact Gc 2 Z (QF N (Gx 1 Z (DX az N (Lr [1,2,3]))))
  refine Gc 3 Z (Bd N λab q N=>Cg ab [0,1,2,3,4] [2,4,6,8,10,15] Ze (λab=>[(2,.c 176 [I (i64.wrap ((AI F.1:Int)+1)),.o 3 (AI ab) 3]),(3,.r 260 3 (map Edge.c ab))]) Zf ?_ ?_)
  .refine G0 5 Z (Bd q λj an q=>?_);refine vX (.p 4 (toNat g.2*57)) (Qd an Z EE EH) ?_;refine Fp d5 Z ?_;refine vX (.a (An.c j.An)) (Qt Z isAgg102 sizeOf102 Z (Qm (f:=21) an) Z Z) ?_;refine Go 6 Z (Bd q λaf ag q=>Cg af [0,1,2,3,4,5] [2,4,6,8,10,15,16] (λaf=>[(156,.b af)]) Ze Zf ?_ ?_)
   .refine G0 3 Z (Bd ag λbm ao ag=>?_);refine vX (.p 4 (toNat g.2*57)) (Qd ao Z EE EH) ?_;refine Fp S7 Z ?_;refine vX (I bm.AX) (Ez Z EF Z (Qm (f:=3) ao)) ?_;exact au ag
   refine Cn Z q (λ_ q=>?_) (λ_ q=>?_)
   .exact au q
   refine Gc 9 Z (Cz [] q Kc Z λah bq q=>Go 10 Z (Cz [] q Kc Z λai br q=>Go 4 Z ?_));obtain⟨G,aq,q⟩:=Qw q;obtain⟨d,ar,q⟩:=Qw q;refine Yx 12 1 [169,170,171,172,173,174,175,176,177,178,179,19] [AD,AD,AD,AD,AD,AD,AD,AE,AD,AD,AE,AE] [[],[],[],[],[],[],[],[],[],[],[7],[]] [[],[7],[11],[7,10],[7,11],[7,10,11]] [[(0,0),(1,1),(2,2),(4,4)],[(0,0),(2,2)],[(0,0),(2,2)],[(0,0),(2,2)],[(0,0),(2,2)],[(0,0),(2,2)],[(0,0),(2,2)],[(0,1),(2,4)],[(0,0),(1,1),(2,2),(4,4)],[(0,0),(1,1),(2,2),(4,4)],[(1,3),(4,5)],[(0,2),(1,4),(3,5)]] [.a (CA.c J),.q 3 (map CC.c T.1),I ah,.p 5 0,I j.An.Bs,.p 5 1,I j.An.Be,.a (CC.c G),.p 5 2,I j.An.Ba,.a [I d.Lo,I d.Hi],.p 6 0] [[.c 33 (CA.c J),.c 176 [I 0,.q 3 (map Edge.c [])],.c 176 [I (i64.wrap ((AI F.1:Int)+1)),.o 3 (AI g.1) 3],.r 260 3 (map Edge.c g.1),.r 120 57 (map CH.c x),.c 102 (An.c j.An),.dead],[.c 33 (CA.c J),.c 176 [I 0,.q 3 (map Edge.c [])],.c 176 [I (i64.wrap ((AI F.1:Int)+1)),.o 3 (AI g.1) 3],.r 260 3 (map Edge.c g.1),.r 120 57 (map CH.c x),.c 102 (An.c j.An),.dead,.c 209 (CC.c G)],[.c 33 (CA.c J),.c 176 [I 0,.q 3 (map Edge.c [])],.c 176 [I (i64.wrap ((AI F.1:Int)+1)),.o 3 (AI g.1) 3],.r 260 3 (map Edge.c g.1),.r 120 57 (map CH.c x),.c 102 (An.c j.An),.c 83 [I 0,I 0]],[.c 33 (CA.c J),.c 176 [I 0,.q 3 (map Edge.c [])],.c 176 [I (i64.wrap ((AI F.1:Int)+1)),.o 3 (AI g.1) 3],.r 260 3 (map Edge.c g.1),.r 120 57 (map CH.c x),.c 102 (An.c j.An),.dead,.c 209 (CC.c G),.c 83 [I d.Lo,I d.Hi]],[.c 33 (CA.c J),.c 176 [I 0,.q 3 (map Edge.c [])],.c 176 [I (i64.wrap ((AI F.1:Int)+1)),.o 3 (AI g.1) 3],.r 260 3 (map Edge.c g.1),.r 120 57 (map CH.c x),.c 102 (An.c j.An),.c 83 [I 0,I 0],.c 209 (CC.c G)],[.c 33 (CA.c J),.c 176 [I 0,.q 3 (map Edge.c [])],.c 176 [I (i64.wrap ((AI F.1:Int)+1)),.o 3 (AI g.1) 3],.r 260 3 (map Edge.c g.1),.r 120 57 (map CH.c x),.c 102 (An.c j.An),.c 83 [I 0,I 0],.c 209 (CC.c G),.c 83 [I d.Lo,I d.Hi]]] ([.c 33 (CA.c J),.c 176 [I 0,.q 3 (map Edge.c [])],.c 176 [I (i64.wrap ((AI F.1:Int)+1)),.o 3 (AI g.1) 3],.r 260 3 (map Edge.c g.1),.r 120 57 (map CH.c x),.c 102 (An.c j.An),.c 83 [I 0,I 0],.c 209 (CC.c G),.c 83 [I d.Lo,I d.Hi]]) DD Z Z Z Z Z Z Z ?_ Z ?_
   .refine M1 (M1 (M1 (M1 (M1 (M1 (M1 (Co.cons ?_ (M1 (M1 (Co.cons ?_ (Co.cons ?_ (Co.nil))))))))))))
    .refine Qb ?_ (Qb ?_ (Qg))
     iterate 2 refine F7 Z (sD 1 (sD 2 (sD 4 (sD 6 sN)))) ?_;refine Qf [] (C6.fn call128 Z Z Z) ((jS _ _ _ _ _).c _ aq) ?_;rintro _ _ ⟨rfl,rfl⟩;exact FE Z Wp
    .refine Qb ?_ (Qb ?_ (Qg))
     iterate 2 refine F7 Z (sD 0 (sD 7 (sD 9 sN))) ?_;refine Qf [] (C6.fn call127 Z Z Z) ((kf _ _ _ _).c _ ar) ?_;rintro _ _ ⟨rfl,rfl⟩;exact FE Z Wp
    .refine Qb ?_ (Qb ?_ (Qb ?_ (Qg)))
     iterate 3 exact Jn.alloc _ 19 83 6 _ Z Z Z Z Z Z Z (I5.alloc (v:=(.a [I 0,I 0])) EK (Fu Z)) Z
   refine Go 4 Z ?_;obtain⟨Q,av,q⟩:=Qw q;obtain⟨M,aw,q⟩:=Qw q;refine Yx 12 1 [180,181,182,183,184,185,186,187,188,189,190,20] [AD,AD,AD,AD,AD,AD,AD,AE,AD,AD,AE,AE] [[],[],[],[],[],[],[],[],[],[],[7],[]] [[],[7],[11],[7,10],[7,11],[7,10,11]] [[(0,0),(1,1),(2,2),(4,4)],[(0,0),(2,2)],[(0,0),(2,2)],[(0,0),(2,2)],[(0,0),(2,2)],[(0,0),(2,2)],[(0,0),(2,2)],[(0,1),(2,4)],[(0,0),(1,1),(2,2),(4,4)],[(0,0),(1,1),(2,2),(4,4)],[(1,3),(4,5)],[(0,2),(1,4),(3,5)]] [.a (CA.c J),.q 3 (map CC.c T.1),I ai,.p 5 3,I j.An.Br,.p 5 4,I j.An.Bc,.a (CC.c Q),.p 5 5,I j.An.BZ,.a [I M.Lo,I M.Hi],.p 9 0] [[.c 33 (CA.c J),.c 176 [I 0,.q 3 (map Edge.c [])],.c 176 [I (i64.wrap ((AI F.1:Int)+1)),.o 3 (AI g.1) 3],.r 260 3 (map Edge.c g.1),.r 120 57 (map CH.c x),.c 102 (An.c j.An),.c 83 [I d.Lo,I d.Hi],.c 209 (CC.c G),.c 83 [I d.Lo,I d.Hi],.dead],[.c 33 (CA.c J),.c 176 [I 0,.q 3 (map Edge.c [])],.c 176 [I (i64.wrap ((AI F.1:Int)+1)),.o 3 (AI g.1) 3],.r 260 3 (map Edge.c g.1),.r 120 57 (map CH.c x),.c 102 (An.c j.An),.c 83 [I d.Lo,I d.Hi],.c 209 (CC.c G),.c 83 [I d.Lo,I d.Hi],.dead,.c 209 (CC.c Q)],[.c 33 (CA.c J),.c 176 [I 0,.q 3 (map Edge.c [])],.c 176 [I (i64.wrap ((AI F.1:Int)+1)),.o 3 (AI g.1) 3],.r 260 3 (map Edge.c g.1),.r 120 57 (map CH.c x),.c 102 (An.c j.An),.c 83 [I d.Lo,I d.Hi],.c 209 (CC.c G),.c 83 [I d.Lo,I d.Hi],.c 83 [I 0,I 0]],[.c 33 (CA.c J),.c 176 [I 0,.q 3 (map Edge.c [])],.c 176 [I (i64.wrap ((AI F.1:Int)+1)),.o 3 (AI g.1) 3],.r 260 3 (map Edge.c g.1),.r 120 57 (map CH.c x),.c 102 (An.c j.An),.c 83 [I d.Lo,I d.Hi],.c 209 (CC.c G),.c 83 [I d.Lo,I d.Hi],.dead,.c 209 (CC.c Q),.c 83 [I M.Lo,I M.Hi]],[.c 33 (CA.c J),.c 176 [I 0,.q 3 (map Edge.c [])],.c 176 [I (i64.wrap ((AI F.1:Int)+1)),.o 3 (AI g.1) 3],.r 260 3 (map Edge.c g.1),.r 120 57 (map CH.c x),.c 102 (An.c j.An),.c 83 [I d.Lo,I d.Hi],.c 209 (CC.c G),.c 83 [I d.Lo,I d.Hi],.c 83 [I 0,I 0],.c 209 (CC.c Q)],[.c 33 (CA.c J),.c 176 [I 0,.q 3 (map Edge.c [])],.c 176 [I (i64.wrap ((AI F.1:Int)+1)),.o 3 (AI g.1) 3],.r 260 3 (map Edge.c g.1),.r 120 57 (map CH.c x),.c 102 (An.c j.An),.c 83 [I d.Lo,I d.Hi],.c 209 (CC.c G),.c 83 [I d.Lo,I d.Hi],.c 83 [I 0,I 0],.c 209 (CC.c Q),.c 83 [I M.Lo,I M.Hi]]] ([.c 33 (CA.c J),.c 176 [I 0,.q 3 (map Edge.c [])],.c 176 [I (i64.wrap ((AI F.1:Int)+1)),.o 3 (AI g.1) 3],.r 260 3 (map Edge.c g.1),.r 120 57 (map CH.c x),.c 102 (An.c j.An),.c 83 [I d.Lo,I d.Hi],.c 209 (CC.c G),.c 83 [I d.Lo,I d.Hi],.c 83 [I 0,I 0],.c 209 (CC.c Q),.c 83 [I M.Lo,I M.Hi]]) DD Z Z Z Z Z Z Z ?_ Z ?_
   .refine M1 (M1 (M1 (M1 (M1 (M1 (M1 (Co.cons ?_ (M1 (M1 (Co.cons ?_ (Co.cons ?_ (Co.nil))))))))))))
    .refine Qb ?_ (Qb ?_ (Qg))
     iterate 2 refine F7 Z (sD 1 (sD 2 (sD 4 (sD 6 sN)))) ?_;refine Qf [] (C6.fn call128 Z Z Z) ((jS _ _ _ _ _).c _ av) ?_;rintro _ _ ⟨rfl,rfl⟩;exact FE Z Wp
    .refine Qb ?_ (Qb ?_ (Qg))
     iterate 2 refine F7 Z (sD 0 (sD 7 (sD 9 sN))) ?_;refine Qf [] (C6.fn call127 Z Z Z) ((kf _ _ _ _).c _ aw) ?_;rintro _ _ ⟨rfl,rfl⟩;exact FE Z Wp
    .refine Qb ?_ (Qb ?_ (Qb ?_ (Qg)))
     iterate 3 exact Jn.alloc _ 20 83 9 _ Z Z Z Z Z Z Z (I5.alloc (v:=(.a [I 0,I 0])) EK (Fu Z)) Z
   refine Go 40 Z (vH (Ek (xs:=[.tmp 209,.tmp 226]) (es:=map Edge.c [{BA:=ah,To:=ai,W:=i64.wrap ((i64.wrap ((i64.wrap ((i64.wrap (j.An.Bq-j.An.BZ))-M.Lo))+j.An.Ba))+d.Hi):Edge},{BA:=ai,To:=ah,W:=i64.wrap ((i64.wrap ((i64.wrap ((i64.wrap (j.An.BZ+M.Hi))-j.An.Ba))-d.Lo))-j.An.Bl):Edge}]) Zd Z Z Z Z Z ⟨Z,Z,trivial⟩ Z Z) ?_);refine FE Z (Bd q λbw bc q=>vH (Qj (e:=Edge.c) bc Zd GC (QE (i:=12))) ?_);exact au q
  exact au N
 refine Gc 9 Z (Cn Z h (λ_ h=>?_) (λ_ h=>?_))
 .exact au h
 refine Gc 10 Z ?_;obtain rfl:=Oi h;refine⟨[(4,.p 0 0),(5,I ((i64.wrap ((AI F.1:Int)+1),O,0).2.2))],[.c 176 [I ((i64.wrap ((AI F.1:Int)+1),O,0).1),.q 3 (map Edge.c ((i64.wrap ((AI F.1:Int)+1),O,0).2.1))]],_,?_,QJ Z Z (C5.cons (Yk isAgg176 sizeOf176 Z Z Z) (C5.cons D2.tmp C5.nil)),Z,Z⟩;refine En (Ym (i:=2) [] Z Z Cx.nil (Dg.cells (CN.k (Ed Ep (Ej _))) (Dg.cells (CN.k (Ed Ep (Ej _))) (Ec (QQ _))))) ?_;exact Lr [0]
def TY(n:Nat)(g:Cm)(f:Int):AB (CF Int (CF Unit Int)):=(bif f<(AI g.Bn:Int) then AH (CI g.Bn f) λd=>AH ((bif d.BA<0 then AC AE else(bif g.Ax<=d.BA then AC AE else(bif d.To<0 then AC AE else(bif g.Ax<=d.To then AC AE else(bif d.W<(-35184372088832) then AC AE else AC (AG (35184372088832<d.W))))))):AB Bool) λh=>(bif h then AC (.d (.d 150))else AC (.k (i64.wrap (f+1))))else AC (.d (.k ())))
def PS(f:Cm):AB Int:=AH ((bif f.Ax<1 then AC AE else(bif 512<f.Ax then AC AE else AC (AG (8192<(AI f.Bn:Int))))):AB Bool) λh=>(bif h then AC 150 else AH (iter (TY n f) n 0:AB (CF Unit Int)) λg=>match g with|.k d=>(AC 0)|.d d=>AC d)
instance yW(d:Cm):Ks (PS n d) 129 [.a (Cm.c d)] [] (λr=>I r):=KA func129
def chk(b:Bool):AB Unit:=bif b then AC ()else AF
def N6(n:Nat)(v:Int)(s:(AA Int)×Int):AB (CF ((AA Int)×Int) (AA Int)):=(bif s.2<v then AH (CI s.1 s.2) λx=>AH (JN s.1 s.2 1152921504606846976) λl=>AC (.k (l,i64.wrap (s.2+1)))else AC (.d s.1))
def N9(v:Int)(s:(AA (AA Int))×Int):AB (CF ((AA (AA Int))×Int) (AA (AA Int))):=(bif s.2<v then AH (chk (s.2==(AI s.1:Int))) λu=>AH (mk v 0) λf=>AH (iter (N6 n v) n (f,0)) λd=>AH (CI d s.2) λx=>AH (JN d s.2 0) λg=>AC (.k (s.1++[g],i64.wrap (s.2+1)))else AC (.d s.1))
def N3(n:Nat)(E:AA Edge)(s:(AA (AA Int))×Int):AB (CF ((AA (AA Int))×Int) (AA (AA Int))):=(bif s.2<(AI E:Int) then AH (CI E s.2) λx=>AH (CI s.1 x.BA) λr=>AH (CI r x.To) λy=>AH (JN r x.To (if x.W<y then x.W else y)) λr'=>AC (.k (s.1.set x.BA.toNat r',i64.wrap (s.2+1)))else AC (.d s.1))
def U2(m i k:Int)(T:AA (AA Int)):AB (AA (AA Int)):=AH (CI T i) λr=>AH (CI r m) λa=>(bif (a != 1152921504606846976)then AH (CI T m) λq=>AH (CI q k) λb=>(bif (b != 1152921504606846976)then AH (CI r k) λy=>AH (JN r k (if i64.wrap (a+b)<y then i64.wrap (a+b)else y)) λr'=>AC (T.set i.toNat r')else AC T)else AC T)
def N_(n:Nat)(v m i:Int)(s:(AA (AA Int))×Int):AB (CF ((AA (AA Int))×Int) (AA (AA Int))):=(bif s.2<v then AH (U2 m i s.2 s.1) λt=>AC (.k (t,i64.wrap (s.2+1)))else AC (.d s.1))
def OD(v m:Int)(s:(AA (AA Int))×Int):AB (CF ((AA (AA Int))×Int) (AA (AA Int))):=(bif s.2<v then AH (iter (N_ n v m s.2) n (s.1,0)) λt=>AC (.k (t,i64.wrap (s.2+1)))else AC (.d s.1))
def OF(n:Nat)(v:Int)(T:AA (AA Int))(s:Int):AB (CF Int (CF Unit Unit)):=(bif s<v then AH (CI T s) λr=>AH (CI r s) λa=>(bif a<0 then AC (.d (.d ()))else AC (.k (i64.wrap (s+1))))else AC (.d (.k ())))
def VN(v:Int)(s:(AA (AA Int))×Int):AB (CF ((AA (AA Int))×Int) (CF (AA (AA Int)) Unit)):=(bif s.2<v then AH (iter (OD n v s.2) n (s.1,0)) λt=>AH (iter (OF n v t) n 0) λd=>match d with|.k _=>AC (.k (t,i64.wrap (s.2+1)))|.d _=>AC (.d (.d ()))else AC (.d (.k s.1)))
def Pu(f:Cm):AB ((AA (AA Int))×Bool):=AH (mk f.Ax ()) λz=>AH (iter (N9 n f.Ax) n ([],0)) λt0=>AH (chk (AI t0==f.Ax.toNat)) λu=>AH (iter (N3 n f.Bn) n (t0,0)) λt1=>AH (iter (VN n f.Ax) n (t1,0)) λd=>match d with|.k t=>AC (t,AE)|.d _=>AC ([],AD)
theorem pN{b:Bool}{u:Unit}(h:chk b=AC u):b=true:=by
  cases b with
  |true=>rfl
  |false=>cases h
theorem jn(g:Cm)(r:(AA (AA Int))×Bool)(h:Pu n g=AC r):oE prog 130 [.a (Cm.c g)] [] (λr=>.t [.q 1 (map (Qu 1 eI) r.1),.b r.2]) r:=by
 refine iY func130 Z Z Z ?_;refine G0 17 Z (Bd h λz hz h=>?_);obtain⟨z0,F,O⟩:=ox hz;have E:AI z=g.Ax.toNat:=by rw[<- O];simp
 refine vH (U? (e:=λ_=>[A.nils]) (zv:=()) (a:=.n) hz pF zeroValue73 ZR.nils Z Z Z Z) ?_;refine Bd h λt0 ht0 h=>Go 10 Z ?_;refine TC.loop (λs:(AA (AA Int))×Int=>[(1,.p 0 0),(4,I g.Ax),(5,.o 1 g.Ax.toNat 1),(6,I s.2)]) (λs=>[.c 176 (Cm.c g),.R 73 1 (HS 2 s.1 (g.Ax.toNat-(AI s.1)))]++Q3 3 s.1) ht0 ?_ (λs d hs hb=>?_)
 · refine En (Jt ?_) (Y5 ⟨Z,Z,?_,Z,trivial⟩)
   · rw[<- O]
     simp[Qnv,Q3,Cm.c]
   · exact congrArg (λm=>A.s 1 0 m 1) E
 refine G0 8 Z (Q5 Z hs (λhc hs=>?_) (λhc hs=>?_))
 · refine Gc 2 Z ?_
   refine QF hs ?_;obtain rfl:=Oj hb hs;refine Bd h λu hu h=>?_;have hn:AI s.1=g.Ax.toNat:=by simpa using pN hu
   refine Bd h λt1 ht1 h=>Gx 9 Z ?_;refine TC.loop (λq:(AA (AA Int))×Int=>[(1,.p 0 0),(4,I g.Ax),(5,.o 1 (AI q.1) 1),(8,I q.2)]) (λq=>[.c 176 (Cm.c g),.R 73 1 (YM 2 q.1)]++Q3 3 q.1) ht1 ?_ (λs d hs hb=>?_)
   · refine En (Jt (H':=[CW.cells 176 (Cm.c g),.R 73 1 (YM 2 s.1)]++Q3 3 s.1) ?_) ?_
     · rw[hn,Nat.sub_self];simp[HS]
     · exact Y5 ⟨Z,Z,congrArg (λm=>A.s 1 0 m 1) hn.symm,Z,trivial⟩
   clear E O hn;refine G0 6 Z (Lg 3 Z Z (Q5 Z hs (λhc hs=>?_) (λhc hs=>?_)))
   · refine Gc 2 Z ?_
     refine QF hs ?_;obtain rfl:=Oj hb hs;refine Bd h λdd hdd h=>Gx 9 Z ?_;refine TC.loop (λq:(AA (AA Int))×Int=>[(4,I g.Ax),(5,.o 1 (AI q.1) 1),(10,I q.2)]) (λq=>[.c 176 (Cm.c g),.R 73 1 (YM 2 q.1)]++Q3 3 q.1) hdd ?_ (λq d hq H=>?_)
     · exact Y5 ⟨Z,Z,Z,trivial⟩
     refine G0 8 Z (Q5 Z hq (λhc hq=>?_) (λhc hq=>?_))
     · refine Gc 2 Z ?_
       refine QF hq ?_;obtain rfl:=Oj H hq;refine Gx 1 Z (Ee (T? (s:=5) (i:=1) (b:=2) (t1:=3) (e:=Ys .i64) (rows:=q.1) Z (by omega) Z Z (λj r hj=>YQ [_,_] hj)) (Gc 8 Z ?_));exact au h
     refine Bd hq λT1 hT1 hq=>Bd hq λdg hdg hq=>Gc 11 Z ?_;refine TC.loop (λw:(AA (AA Int))×Int=>[(4,I g.Ax),(5,.o 1 (AI w.1) 1),(10,I q.2),(11,I w.2)]) (λw=>[.c 176 (Cm.c g),.R 73 1 (YM 2 w.1)]++Q3 3 w.1) hT1 ?_ (λw d hw Q=>?_)
     · exact Y5 ⟨Z,Z,Z,Z,trivial⟩
     refine G0 8 Z (Q5 Z hw (λhc hw=>?_) (λhc hw=>?_))
     · refine Gc 2 Z ?_
       refine QF hw ?_;obtain rfl:=Oj Q hw;refine Gx 8 Z ?_;refine TC.loop (λc:Int=>[(4,I g.Ax),(5,.o 1 (AI w.1) 1),(10,I q.2),(13,I c)]) (λc=>[.c 176 (Cm.c g),.R 73 1 (YM 2 w.1)]++Q3 3 w.1) hdg ?_ (λc d hc J=>?_)
       · exact Y5 ⟨Z,Z,Z,Z,trivial⟩
       refine G0 8 Z (Q5 Z hc (λ_ hc=>?_) (λ_ hc=>?_))
       · refine Gc 2 Z ?_
         refine QF hc ?_;obtain rfl:=Oj J hc;refine Gx 8 Z ?_;refine QZ hq (Y5 ⟨Z,Z,Z,trivial⟩)
       refine Bd hc λrr hrr hc=>Bd hc λa ha hc=>?_;have B:=(Kj hrr).2;refine Gc 8 Z ?_;refine vV (x:=.p 1 (c.toNat*1)) (Qd (l:=w.1) hrr Z EI EP) ?_;refine vV (x:=.s (2+c.toNat) 0 (AI rr) 1) (Ez Z Gq Z (Df.rowr (e:=c.toNat) (f:=0) Z (by omega) (Jo B) Z)) ?_;refine Go 1 Z ?_;refine vV (x:=.p (2+c.toNat) (c.toNat*1)) (Qd (l:=rr) ha Z EB EC) ?_;refine vV (x:=I a) (Ez Z EF Z (Qh ha (hH:=YQ [_,_] B))) ?_;refine Go 3 Z (Cn Z hc (λ_ hc=>?_) (λ_ hc=>?_))
       · refine Gc 9 Z ?_
         refine IN hc ?_;obtain rfl:=Oj J hc;refine Gx 3 Z ?_;refine IN hq ?_;obtain rfl:=Oj H hq;refine Gx 2 Z ?_;obtain rfl:=Oi h;exact R2 2 3 Z Z (En (gx (s:=2) (k:=1) Z) (Lr []))
       refine Gc 8 Z ?_;refine QZ hc (Y5 ⟨Z,Z,Z,Z,trivial⟩)
     refine Bd hw λT2 hT2 hw=>Gc 10 Z ?_;refine TC.loop (λy:(AA (AA Int))×Int=>[(4,I g.Ax),(5,.o 1 (AI y.1) 1),(10,I q.2),(11,I w.2),(12,I y.2)]) (λy=>[.c 176 (Cm.c g),.R 73 1 (YM 2 y.1)]++Q3 3 y.1) hT2 ?_ (λy d hy X=>?_)
     · exact Y5 ⟨Z,Z,Z,Z,Z,trivial⟩
     refine G0 8 Z (Q5 Z hy (λhc hy=>?_) (λhc hy=>?_))
     · refine Gc 2 Z ?_
       refine QF hy ?_;obtain rfl:=Oj X hy;refine Gx 8 Z ?_;refine QZ hw (Y5 ⟨Z,Z,Z,Z,trivial⟩)
     refine Bd hy λt ht hy=>?_;obtain⟨r,hr,ht⟩:=Qw ht;obtain⟨a,ha,ht⟩:=Qw ht;have hrr:=(Kj hr).2;refine Gc 8 Z ?_;refine vV (x:=.p 1 (w.2.toNat*1)) (Qd (l:=y.1) hr Z EI EP) ?_;refine vV (x:=.s (2+w.2.toNat) 0 (AI r) 1) (Ez Z Gq Z (Df.rowr (e:=w.2.toNat) (f:=0) Z (by omega) (Jo hrr) Z)) ?_;refine Go 1 Z ?_;refine vV (x:=.p (2+w.2.toNat) (q.2.toNat*1)) (Qd (l:=r) ha Z EB EC) ?_;refine vV (x:=I a) (Ez Z EF Z (Qh ha (hH:=YQ [_,_] hrr))) ?_;refine Go 2 Z ?_;refine Is 100 ht Z (λ_ ht=>?_) (λ_ ht=>?_)
     · obtain⟨p,hp,ht⟩:=Qw ht
       obtain⟨b,hb,ht⟩:=Qw ht;have hpp:=(Kj hp).2;refine Go 2 Z ?_;refine vV (x:=.p 1 (q.2.toNat*1)) (Qd (l:=y.1) hp Z EI EP) ?_ (gT Z);refine vV (x:=.s (2+q.2.toNat) 0 (AI p) 1) (Ez Z Gq Z (Df.rowr (e:=q.2.toNat) (f:=0) Z (by omega) (Jo hpp) Z)) ?_ (gT Z);refine Go 1 Z ?_;refine vV (x:=.p (2+q.2.toNat) (y.2.toNat*1)) (Qd (l:=p) hb Z EB EC) ?_ (gT Z);refine vV (x:=I b) (Ez Z EF Z (Qh hb (hH:=YQ [_,_] hpp))) ?_ (gT Z);refine Go 4 Z (Cn Z ht (λ_ ht=>?_) (λ_ ht=>?_))
       · obtain⟨F,hz1,ht⟩:=Qw ht
         obtain⟨r',hr',ht⟩:=Qw ht;cases Oi ht;refine DP 29 Z ?_;refine D 2 Z ?_;refine DS.v (x:=.p 1 (w.2.toNat*1)) (Qd (l:=y.1) hr Z EI EP) ?_;refine DS.v (x:=.s (2+w.2.toNat) 0 (AI r) 1) (Ez Z Gq Z (Df.rowr (e:=w.2.toNat) (f:=0) Z (by omega) (Jo hrr) Z)) ?_;refine D 3 Z ?_;refine DS.v (x:=.p 1 (w.2.toNat*1)) (Qd (l:=y.1) hr Z EI EP) ?_;refine DS.v (x:=.s (2+w.2.toNat) 0 (AI r) 1) (Ez Z Gq Z (Df.rowr (e:=w.2.toNat) (f:=0) Z (by omega) (Jo hrr) Z)) ?_;refine D 1 Z ?_;refine DS.v (x:=.p (2+w.2.toNat) (y.2.toNat*1)) (Qd (l:=r) hz1 Z EB EC) ?_;refine DS.v (x:=I F) (Ez Z EF Z (Qh hz1 (hH:=YQ [_,_] hrr))) ?_;refine D 2 Z ?_;refine DS.v (x:=.p 1 (w.2.toNat*1)) (Qd (l:=y.1) hr Z EI EP) ?_;refine DS.v (x:=.s (2+w.2.toNat) 0 (AI r) 1) (Ez Z Gq Z (Df.rowr (e:=w.2.toNat) (f:=0) Z (by omega) (Jo hrr) Z)) ?_;refine D 1 Z ?_;refine DS.v (x:=.p (2+w.2.toNat) (q.2.toNat*1)) (Qd (l:=r) ha Z EB EC) ?_;refine DS.v (x:=I a) (Ez Z EF Z (Qh ha (hH:=YQ [_,_] hrr))) ?_;refine D 2 Z ?_;refine DS.v (x:=.p 1 (q.2.toNat*1)) (Qd (l:=y.1) hp Z EI EP) ?_;refine DS.v (x:=.s (2+q.2.toNat) 0 (AI p) 1) (Ez Z Gq Z (Df.rowr (e:=q.2.toNat) (f:=0) Z (by omega) (Jo hpp) Z)) ?_;refine D 1 Z ?_;refine DS.v (x:=.p (2+q.2.toNat) (y.2.toNat*1)) (Qd (l:=p) hb Z EB EC) ?_;refine DS.v (x:=I b) (Ez Z EF Z (Qh hb (hH:=YQ [_,_] hpp))) ?_;refine D 1 Z ?_;refine DS.v (x:=I (if i64.wrap (a+b)<F then i64.wrap (a+b)else F)) (CS.min Z Z Z Z) ?_;refine DS.v (x:=.p (2+w.2.toNat) (y.2.toNat*1)) (Qd (l:=r) hz1 Z EB EC) ?_;refine Eg Z ?_;refine vU (Yy (e:=eI) (k:=1) (f:=0) hz1 hr' EC Z Z (hH:=YQ [_,_] hrr)) ?_;refine Et (Jt (QpW hrr (Yp hr'))) ?_;refine Go 8 Z ?_;refine QZ hy (Y5 ⟨Z,congrArg (λm=>A.s 1 0 m 1) (by simp),Z,Z,Z,trivial⟩)
       cases Oi ht;refine Gc 8 Z ?_;refine QZ hy (Y5 ⟨Z,Z,Z,Z,Z,trivial⟩)
     cases Oi ht;refine Go 20 Z ?_;refine QZ hy (Y5 ⟨Z,Z,Z,Z,Z,trivial⟩)
   refine Bd hs λx hx hs=>Bd hs λr hr hs=>Bd hs λy hy hs=>Bd hs λr' hr' hs=>Gc 9 Z ?_;refine Iz hx Z (Go 2 Z ?_);have hHl:(fn (Q3 3 s.1) 2).1=2+AI s.1:=by rw[gP];simp only[Q3,X0];omega
   refine Et (Q8 (s:=9) Z (congrArg (λj=>A.p j 0) hHl)) ?_;refine Et (Jt (H':=([CW.cells 176 (Cm.c g),.R 73 1 (YM 2 s.1)]++Q3 3 s.1)++[.c 260 [I 0,I 0,I 0]]) (by rw[ZQ];rfl)) ?_;refine Et (QpC (env':=[(1,.p 0 0),(4,I g.Ax),(5,.o 1 (AI s.1) 1),(8,I s.2),(9,.p 2 0),(56,.a (Edge.c x))]) Zf Zf ⟨Z,Z,Z,Z,Z,Z,trivial⟩) ?_;refine Go 3 Z ?_;have hrr:=(Kj hr).2;refine Ee (Jt (H':=[CW.cells 176 (Cm.c g),.R 73 1 (YM 3 s.1),.c 260 (Edge.c x)]++Q3 3 s.1) (by rw[ZQ];rfl)) ?_;refine DP 20 Z ?_;refine D 3 Z ?_;refine DS.v (x:=.p 1 (x.BA.toNat*1)) (Qd (l:=s.1) hr Z EI EP) ?_;refine DS.v (x:=.s (3+x.BA.toNat) 0 (AI r) 1) (Ez Z Gq Z (Df.rowr (e:=x.BA.toNat) (f:=0) Z (by omega) (Jo hrr) Z)) ?_;refine D 5 Z ?_;refine DS.v (x:=.p 1 (x.BA.toNat*1)) (Qd (l:=s.1) hr Z EI EP) ?_;refine DS.v (x:=.s (3+x.BA.toNat) 0 (AI r) 1) (Ez Z Gq Z (Df.rowr (e:=x.BA.toNat) (f:=0) Z (by omega) (Jo hrr) Z)) ?_;refine D 2 Z ?_;refine DS.v (x:=.p (3+x.BA.toNat) (x.To.toNat*1)) (Qd (l:=r) hy Z EB EC) ?_;refine DS.v (x:=I y) (Ez Z EF Z (Qh hy (hH:=YQ [_,_,_] hrr))) ?_;refine D 2 Z ?_;refine DS.v (x:=I (if x.W<y then x.W else y)) (CS.min Z Z Z Z) ?_;refine DS.v (x:=.p (3+x.BA.toNat) (x.To.toNat*1)) (Qd (l:=r) hy Z EB EC) ?_;refine Eg Z ?_;refine vU (Yy (e:=eI) (k:=1) (f:=0) hy hr' EC Z Z (hH:=YQ [_,_,_] hrr)) ?_;refine Et (Jt (Qnt hrr (Yp hr'))) ?_;refine Go 8 Z ?_;refine QZ hs (Qnc Zf ⟨Z,Z,congrArg (λm=>A.s 1 0 m 1) (by simp),Z,trivial⟩)
 refine Bd hs λu hu hs=>?_;have hlen:s.2=(AI s.1:Int):=by simpa using pN hu
 have hlt:s.2<g.Ax:=by simpa using hc
 obtain⟨m',hm'⟩:∃m',g.Ax.toNat-(AI s.1)=m'+1:=⟨g.Ax.toNat-(AI s.1)-1,by omega⟩;rw[hm'];refine Bd hs λP aa hs=>?_;have hi:CI z s.2=AC ():=by
  have:s.2.toNat<AI z:=by omega
  unfold CI;rw[Vt (show 0<=s.2 by omega)];simp[this]
 refine Gc 9 Z (vH (lg (e:=eI) (zv:=0) (a:=(I 0)) aa QG EV Eo Z Z Z Z) ?_);have hHl:AI ([CW.cells 176 (Cm.c g),.R 73 1 (HS 2 s.1 (m'+1))]++Q3 3 s.1)=2+AI s.1:=by simp[Q3];omega
 refine Et (Q8 (s:=26) Z (congrArg (λj=>A.s j 0 (AI P) 1) hHl)) ?_;refine vV (x:=.p 1 (s.2.toNat*1)) (Qd (l:=z) hi E EI EP) ?_;refine vU (Qgt (t:=73) (T:=73) (k:=1) (e:=AI s.1) (f:=0) (c:=[.n]) Z Z Z EP (by omega) QpX Z Z Z Z Z Z Z Qnu) ?_;refine Et (Jt (H':=[CW.cells 176 (Cm.c g),.R 73 1 (HS 2 (s.1++[P]) m')]++Q3 3 (s.1++[P])) (by rw[Ql7];rfl)) ?_;refine Bd hs λr1 ab hs=>Go 9 Z ?_;refine TC.loop (λk:(AA Int)×Int=>[(1,.p 0 0),(4,I g.Ax),(5,.o 1 g.Ax.toNat 1),(6,I s.2),(7,I k.2)]) (λk=>[.c 176 (Cm.c g),.R 73 1 (HS 2 (s.1++[k.1]) m')]++Q3 3 (s.1++[k.1])) ab ?_ (λk e hk ac=>?_)
 · refine Y5 ⟨Z,Z,Z,Z,?_,trivial⟩
   rfl
 refine G0 8 Z (Q5 Z hk (λ_ hk=>?_) (λ_ hk=>?_))
 · refine Gc 2 Z ?_
   refine QF hk ?_;obtain rfl:=Oj ac hk;refine Bd hs λx2 L hs=>Bd hs λG B hs=>Gx 5 Z ?_;refine vV (x:=.p 1 (s.2.toNat*1)) (Qd (l:=z) hi E EI EP) ?_;refine vV (x:=.s (2+AI s.1) 0 (AI k.1) 1) (Ez Z Gq Z (Df.rowr (e:=AI s.1) (f:=0) Z (by omega) (rg (r:=k.1) (by simp)) Z)) ?_;refine Go 1 Z ?_;refine vV (x:=.p (2+AI s.1) (s.2.toNat*1)) (Qd (l:=k.1) L Z EB EC) ?_;refine vU (Yy (e:=eI) (k:=1) (f:=0) L B EC Z Z (hH:=YQ [_,_] (by simp))) ?_;refine Et (Jt (rk (Yp B))) ?_;have ae:g.Ax.toNat-(AI (s.1++[G]))=m':=by simp;omega
   refine Go 8 Z ?_;refine QZ hs (En (Jt (H':=[CW.cells 176 (Cm.c g),.R 73 1 (HS 2 (s.1++[G]) (g.Ax.toNat-(AI (s.1++[G]))))]++Q3 3 (s.1++[G])) (by rw[ae])) (Y5 ⟨Z,Z,Z,Z,trivial⟩))
 refine Bd hk λx1 M hk=>Bd hk λl1 N hk=>Gc 7 Z ?_;refine vV (x:=.p 1 (s.2.toNat*1)) (Qd (l:=z) hi E EI EP) ?_;refine vV (x:=.s (2+AI s.1) 0 (AI k.1) 1) (Ez Z Gq Z (Df.rowr (e:=AI s.1) (f:=0) Z (by omega) (rg (r:=k.1) (by simp)) Z)) ?_;refine Go 1 Z ?_;refine vV (x:=.p (2+AI s.1) (k.2.toNat*1)) (Qd (l:=k.1) M Z EB EC) ?_;refine vU (Yy (e:=eI) (k:=1) (f:=0) M N EC Z Z (hH:=YQ [_,_] (by simp))) ?_;refine Et (Jt (rk (Yp N))) ?_;refine Go 8 Z ?_;refine QZ hk (Y5 ⟨Z,Z,Z,Z,Z,trivial⟩)
def PM(d:Cm):AB ((AA (AA Int))×Int):=AH (PS n d) λf=>(bif (f != 0)then AC ([],f)else AH (Pu n d) λg=>(bif (!g.2)then AC ([],151)else AC (g.1,0)))
instance yQ(d:Cm):Ks (PM n d) 72 [.a (Cm.c d)] [] (λr=>.t [.q 1 (map (Qu 1 eI) r.1),I r.2]):=by
 refine Kg 10 func72 Z Z Z Z λr h=>Cz [] h Kc Z λq j h=>Go 10 Z (Cn Z h (λ_ h=>?_) (λ_ h=>?_))
 .refine Gc 9 Z ?_;obtain rfl:=Oi h;refine R2 2 3 Z Z ?_;exact En (gx (s:=2) Z) (Lr [])
 refine Gc 5 Z (Cd [] h (jn _ _) Z λt m h=>Fg 14 Z Z (Cn Z h (λ_ h=>?_) (λ_ h=>?_)))
 .refine Gc 8 Z ?_;obtain rfl:=Oi h;refine R2 2 3 Z Z ?_;exact En (gx (s:=2) Z) (Lr [])
 exact au h
def Pf(f:CA)(g:AA CH):AB ((AA CC)×(AA (AA Int))×Int):=AH (OL n f g) λd=>(bif (d.2.2 != 0)then AC ([],[],d.2.2)else AH (PM n ({Ax:=d.1,Bn:=d.2.1:Cm})) λh=>(bif (h.2 != 0)then AC ([],[],160)else AH (MY n f g) λj=>AC (j.1,h.1,0)))
instance yj(g:CA)(j:AA CH):Kq (Pf n g j) 25 [.a (CA.c g),.q 57 (map CH.c j)] [] (λr=>.t [.a [.q 3 (map CC.c r.1),.q 1 (map (Qu 1 eI) r.2.1)],I r.2.2]) (λr=>[.c 39 [.q 3 (map CC.c r.1),.q 1 (map (Qu 1 eI) r.2.1)]]):=by
 refine Kg 11 func25 Z Z Z Z λr h=>Cd [] h Kc Z λB t h=>Fg 15 Z Z (Cn Z h (λ_ h=>?_) (λ_ h=>?_))
 .exact au h
 refine Gc 5 Z (Cd [] h Kc Z λd x h=>Fg 14 Z Z (Cn Z h (λ_ h=>?_) (λ_ h=>?_)))
 .exact au h
 refine Gc 6 Z (Cd [] h Kc Z λf y h=>Fg 17 Z Z ?_);obtain rfl:=Oi h;refine⟨[(4,.p 0 0),(5,I ((f.1,d.1,0).2.2))],[.c 39 [.q 3 (map CC.c ((f.1,d.1,0).1)),.q 1 (map (Qu 1 eI) ((f.1,d.1,0).2.1))]],_,(En (Ym (i:=4) [] Z Z Cx.nil (Ec (Dg.cells (Ed Ep (Ej _)) (Ec (Ec (Ec (QQ _))))))) ?_),QJ Z Z (C5.cons (Yk isAgg39 sizeOf39 Z Z Z) (C5.cons D2.tmp C5.nil)),Z,Z⟩;exact Lr [1]
def TH(n:Nat)(f:AA AO)(h:Int)(d:Int):AB (CF Int (CF Unit Int)):=(bif d<(AI f:Int) then AH (CI f d) λg=>(bif (g.BT==h)then AC (.d (.d d))else AC (.k (i64.wrap (d+1))))else AC (.d (.k ())))
def Ph(f:AA AO)(g:Int):AB Int:=AH (iter (TH n f g) n 0:AB (CF Unit Int)) λh=>match h with|.k d=>(AC (-1))|.d d=>AC d
instance ym(d:AA AO)(f:Int):Ks (Ph n d f) 74 [.q 8 (map AO.c d),I f] [] (λr=>I r):=KA func74
end Go.Sw
