/- What the functions compute that OutcomePenalty reaches, and that their calls refine it (part 5 of 6). -/
import Derived.Test.YtbiglpikpigidaaGreatW23Pe4
set_option linter.unusedVariables false
set_option linter.unusedSimpArgs false
set_option maxRecDepth 100000
set_option maxHeartbeats 4000000
namespace Go.Sw
open Option renaming some→AC,none→AF,bind→AH
open Bool renaming false→AD,true→AE
open Decidable renaming decide→AG
open List renaming length→AI
open Go renaming Value→AL
variable (n:Nat)
open List(map)
open Int(toNat)
open Go.IntKind(i64 u64 u8)
open Go.Proofs Tryz
def VW(f:CB)(d:Int):AB (CG Int (CG Unit Bool)):=(bif d<(AI f.AO:Int) then AH (AH (CJ f.AO d) λg=>AH (Mt n g.Ad 0) λh=>(bif 24<h then AC AE else AH (CJ f.AO d) λj=>(bif 12<(AI j.Ar:Int) then AC AE else AH (CJ f.AO d) λm=>AC (AG (60<(AI m.Ap:Int))))):AB Bool) λq=>(bif q then AC (.d (.d AD))else AC (.k (i64.wrap (d+1))))else AC (.d (.k ())))
def UV(n:Nat)(f:CB)(d:Int):AB (CG Int (CG Unit Bool)):=(bif d<(AI f.Au:Int) then AH (CJ f.Au d) λg=>(bif 60<(AI g.Ap:Int) then AC (.d (.d AD))else AC (.k (i64.wrap (d+1))))else AC (.d (.k ())))
def On(d:CB):AB Bool:=AH (iter (VW n d) n 0:AB (CG Unit Bool)) λh=>match h with|.k f=>(AH (iter (UV n d) n 0:AB (CG Unit Bool)) λj=>match j with|.k g=>(AH ((bif 12<(AI d.Au:Int) then AC AE else(bif 30<(AI d.Az:Int) then AC AE else(bif 4<(AI d.AO:Int) then AC AE else(bif 6<(AI d.A4:Int) then AC AE else(bif 6<(AI d.Ab:Int) then AC AE else(bif 6<(AI d.AV:Int) then AC AE else(bif 6<(AI d.Ay:Int) then AC AE else AC (AG (60<(AI d.Ap:Int)))))))))):AB Bool) λm=>(bif m then AC AD else AH (Mo n d.BN 0) λq=>AC (AG (q<=100))))|.d g=>AC g)|.d f=>AC f
instance xd(d:CB):Ks (On n d) 69 [.a (CB.c d)] [] (λr=>.b r):=KA func69
def eZ(n:Nat)(q:AA CH)(g:(AA Int)×Int)(f:AA Int)(d:(AA Int)×Int):AB (CG ((AA Int)×Int) (AA Int)):=AH (AH (CJ q g.2) λh=>(bif d.2<h.As then(bif 0<(AI f:Int) then AC (AG ((AI d.1:Int)<=300))else AC AD)else AC AD):AB Bool) λj=>(bif j then AH (app d.1 f) λm=>AC (.k (m,i64.wrap (d.2+1)))else AC (.d d.1))
def T3(f:AA CH)(rec243:(AA CH)->AB (AA Int))(d:(AA Int)×Int):AB (CG ((AA Int)×Int) (AA Int)):=(bif d.2<(AI f:Int) then AH (AH (CJ f d.2) λg=>(bif (g.As==0)then AH (CJ f d.2) λh=>AH (app d.1 [h.Al]) λj=>AC j else AH (CJ f d.2) λm=>AH (rec243 m.Ac) λq=>AH (iter (eZ n f d q) n (d.1,0):AB (AA Int)) λt=>AC t):AB (AA Int)) λx=>AC (.k (x,i64.wrap (d.2+1)))else AC (.d d.1))
def iv(rec243:(AA CH)->AB (AA Int))(n:Nat)(f:AA CH):AB (AA Int):=AH (iter (T3 n f rec243) n (([]:AA Int),0):AB (AA Int)) λd=>AC d
theorem QaX(rec243:(AA CH)->AB (AA Int))(ae:∀(E:AA CH),Kq (rec243 E) 70 [.q 3 (map CH.enc E)] [] (λr=>.o 0 (AI r) 1) (λr=>[.r 3 1 (map eI r)]))(n:Nat)(E:AA CH):Kq (iv rec243 n E) 70 [.q 3 (map CH.enc E)] [] (λr=>.o 0 (AI r) 1) (λr=>[.r 3 1 (map eI r)]):=by
 refine Kg 7 func70 Z Z Z Z λr h=>vH (Ek (xs:=[]) (es:=map eI []) QF Z Z Z Z Z trivial Z Z) ?_;refine Fg 9 Z Z (Bd h λm Y h=>Cg m [0] [] (λm=>[(3,.o 0 (AI m) 1)]) (λm=>[(0,.r 3 1 (map eI m))]) Zf ?_ ?_)
 .refine G0 1 Z (Lp [0] [0] (λq=>[(3,.o 0 (AI q.1) 1),(4,I q.2)]) (λq=>[(0,.r 3 1 (map eI q.1))]) Y Zf (Lr [0]) λq ag g J=>?_);refine G0 5 Z (Lg 3 Z Z (Q8 Z g (λ_ g=>?_) (λ_ g=>?_)))
  .exact Gc 2 Z (QH g (Gx 1 Z (DV J g (Lr [0]))))
  refine Gc 3 Z (Bd g λt d g=>Cg t [0] [0,4] (λt=>[(3,.o 0 (AI t) 1)]) (λt=>[(0,.r 3 1 (map eI t))]) Zf ?_ ?_)
  .refine G0 6 Z (Bd d λaa M d=>FU M (QO aa) Z (Go 5 Z (Cn Z d (λ_ d=>?_) (λ_ d=>?_))))
   .refine Gc 5 Z (Bd d λF O d=>FU O (QO F) Z (Go 2 Z (vH (Ek (xs:=[.tmp 25]) (es:=map eI [F.Al]) QF Z Z Z Z Z ⟨Z,trivial⟩ Z Z) ?_)));refine FE Z (Bd d λah P d=>vH (Qj (e:=eI) P QF EB (QC (i:=1))) ?_);exact au d
   refine Gc 6 Z (Bd d λab Q d=>FU Q (QO ab) Z (Go 2 Z (Cd [] d Kc Z λai af d=>Fg 8 Z Z (Bd d λx ac d=>Ct x [0] [0,4] (λx=>[(3,.o 0 (AI x) 1)]) (λx=>[(0,.r 3 1 (map eI x))]) Zf ?_ (λenv H G=>?_)))))
   .refine G0 1 Z (Lp [0,1] [0,4,5] (λy=>[(3,.o 0 (AI y.1) 1),(6,I y.2)]) (λy=>[(0,.r 3 1 (map eI y.1))]) ac Zf (Lr [0,1]) λy aj f R=>?_);refine G0 2 Z (Bd f λB j f=>Ct B [0,1] [0,3,4,5,6] (λB=>[(50,.b B)]) Ze Zf ?_ (λenv H G=>?_))
    .refine G0 4 Z (Bd j λad T j=>FU T (QO ad) Z (Go 4 Z (Is 41 j Z (λ_ j=>?_) (λ_ j=>?_))))
     iterate 2 exact au j
    refine Gx 1 Z (Ee G (Q8 Z f (λ_ f=>?_) (λ_ f=>?_)))
    .exact Gc 2 Z (QH f (Gx 1 Z (DV R f (Lr [0]))))
    refine Gc 7 Z (Bd f λak X f=>vH (Qj (e:=eI) X QF EB (QC (i:=1))) ?_);exact au f
   refine Gx 1 Z ?_;cases d;exact Nt (En G (Lr [0]))
  exact au g
 exact au h
def Ro:Nat->(AA CH)->AB (AA Int)
  |0=>λ_=>AF
  |n+1=>iv (Ro n) n
instance k_t:∀(d:AA CH),Kq (Ro n d) 70 [.q 3 (map CH.enc d)] [] (λr=>.o 0 (AI r) 1) (λr=>[.r 3 1 (map eI r)]):=by
  induction n with
  |zero=>exact λ_=>⟨nofun⟩
  |succ n ih=>exact QaX _ ih n
def Tw(f:CB)(j:Int)(d:Int):AB (CG Int (CG Unit Bool)):=(bif d<(AI f.AO:Int) then AH (CJ f.AO d) λg=>AH (Ro n g.Ad) λh=>(bif j<(AI h:Int) then AC (.d (.d AD))else AC (.k (i64.wrap (d+1))))else AC (.d (.k ())))
def PP(f:CB)(h:Int):AB Bool:=AH (On n f) λj=>(bif (!j)then AC AD else AH (iter (Tw n f h) n 0:AB (CG Unit Bool)) λg=>match g with|.k d=>(AC AE)|.d d=>AC d)
instance yM(d:CB)(f:Int):Ks (PP n d f) 24 [.a (CB.c d),I f] [] (λr=>.b r):=KA func24
def Fa(n:Nat)(d:Int)(f:Int)(g:Int):AB Bool:=AH ((bif f<=d then AC (AG (d<=g))else AC AD):AB Bool) λh=>AC h
instance zi(d:Int)(f:Int)(g:Int):Ks (Fa n d f g) 141 [I d,I f,I g] [] (λr=>.b r):=KA func141
def KC(d:Int):AB Bool:=AH (Fa n d 0 31) λf=>AC f
instance jz(d:Int):Ks (KC n d) 139 [I d] [] (λr=>.b r):=KA func139
def KB(d:Int):AB Bool:=AH (Fa n d 1 1048576) λf=>AC f
instance jy(d:Int):Ks (KB n d) 140 [I d] [] (λr=>.b r):=KA func140
def I_(d:Int):AB Bool:=AH (Fa n d 1 9999) λf=>AC f
instance k_k(d:Int):Ks (I_ n d) 211 [I d] [] (λr=>.b r):=KA func211
def H_(d:Int):AB Bool:=AH (Fa n d (-1099511627776) 1099511627776) λf=>AC f
instance k_g(d:Int):Ks (H_ n d) 209 [I d] [] (λr=>.b r):=KA func209
def J5(d:Int):AB Bool:=AH (Fa n d 0 1048576) λf=>AC f
instance zU(d:Int):Ks (J5 n d) 208 [I d] [] (λr=>.b r):=KA func208
def Kx(d:AP):AB Bool:=AH (AH (I_ n d.BW) λf=>(bif f then AH (Fa n d.AN 0 7) λg=>(bif g then AH (Fa n d.A3 0 31) λh=>(bif h then AH (H_ n d.BK) λj=>(bif j then AH (Fa n d.B6 0 120) λm=>(bif m then AH (J5 n d.BB) λq=>(bif q then AH (Fa n d.Bl 0 9999) λt=>(bif t then AH (Fa n d.B5 0 1048576) λx=>AC x else AC AD)else AC AD)else AC AD)else AC AD)else AC AD)else AC AD)else AC AD):AB Bool) λy=>AC y
instance zC(d:AP):Ks (Kx n d) 205 [.a (AP.c d)] [] (λr=>.b r):=KA func205
def IH(d:Int):AB Bool:=AH (Fa n d 0 39) λf=>AC f
instance zk(d:Int):Ks (IH n d) 206 [I d] [] (λr=>.b r):=KA func206
def IF(d:Int):AB Bool:=AH (Fa n d 0 255) λf=>AC f
instance zh(d:Int):Ks (IF n d) 207 [I d] [] (λr=>.b r):=KA func207
def PT(d:Ao):AB Bool:=AH (AH (IH n d.Bt) λf=>(bif f then AH (IH n d.Bs) λg=>(bif g then AH (IF n d.Bg) λh=>(bif h then AH (IF n d.Bf) λj=>(bif j then AH (H_ n d.Bc) λm=>(bif m then AH (H_ n d.Bb) λq=>(bif q then AH (H_ n d.Bn) λt=>(bif t then AH (H_ n d.Br) λx=>(bif x then AC (AG (d.Bn<=d.Br))else AC AD)else AC AD)else AC AD)else AC AD)else AC AD)else AC AD)else AC AD)else AC AD):AB Bool) λy=>AC y
instance yQ(d:Ao):Ks (PT n d) 210 [.a (Ao.c d)] [] (λr=>.b r):=KA func210
def HS(d:Int):AB Bool:=AH (Fa n d 0 255) λf=>AC f
instance zu(d:Int):Ks (HS n d) 212 [I d] [] (λr=>.b r):=KA func212
def IC(d:Int):AB Bool:=AH (Fa n d 1 1048576) λf=>AC f
instance zd(d:Int):Ks (IC n d) 213 [I d] [] (λr=>.b r):=KA func213
def Ky(d:Af):AB Bool:=AH (AH (IC n d.BJ) λH=>(bif (!H)then AC AE else AH (Fa n d.BX 1 2) λJ=>AC (!J)):AB Bool) λL=>(bif L then AC AD else AH ((bif (d.AW==1)then AC (d.AW==1)else AC (d.AW==2)):AB Bool) λf=>(bif f then AH ((bif (d.BW==0)then(bif (d.AT==0)then AC (d.BO==0)else AC AD)else AC AD):AB Bool) λg=>AC g else(bif (d.AW==3)then AH (AH (I_ n d.BW) λh=>(bif h then AH (HS n d.AT) λj=>(bif j then AH (Fa n d.BO 1 1099511627776) λm=>AC m else AC AD)else AC AD):AB Bool) λq=>AC q else(bif (d.AW==4)then AH (AH (I_ n d.BW) λt=>(bif t then AH (HS n d.AT) λx=>(bif x then AH (Fa n d.BO 1 64) λy=>AC y else AC AD)else AC AD):AB Bool) λB=>AC B else(bif (d.AW==5)then AH (AH (I_ n d.BW) λE=>(bif E then AH (HS n d.AT) λF=>(bif F then AC (d.BO==0)else AC AD)else AC AD):AB Bool) λG=>AC G else AC AD)))))
instance zD(m:Af):Ks (Ky n m) 214 [.a (Af.c m)] [] (λr=>.b r):=by
 refine Kg 8 func214 Z Z Z Z λr h=>Bd h λg x h=>Ct g [0] [1] (λg=>[(12,.b g)]) Ze Zf ?_ (λenv H d=>?_)
 .exact au x
 refine Gx 1 Z (Ee d (Cn Z h (λ_ h=>?_) (λ_ h=>?_)))
 .exact au h
 refine Gc 17 Z (Bd h λf t h=>Ct f [0] [1,14] (λf=>[(15,.b f)]) Ze Zf ?_ (λenv H d=>?_))
 .exact au t
 refine Gx 1 Z (Ee d (Cn Z h (λ_ h=>?_) (λ_ h=>?_)))
 iterate 2 exact au h
def K_(d:CI):AB Bool:=(bif (d.AW==1)then AH (Kx n d.AP) λr2=>AC r2 else(bif (d.AW==2)then AH (AH (IH n d.A5.Al) λM=>(bif M then AH (IF n d.A5.Ah) λN=>(bif N then AH (J5 n d.A5.BB) λO=>(bif O then AH (H_ n d.A5.BC) λP=>AC P else AC AD)else AC AD)else AC AD):AB Bool) λQ=>AC Q else(bif (d.AW==3)then AH (AH (IH n d.Aa.Al) λR=>(bif R then AH (IF n d.Aa.Ah) λT=>(bif T then AH (H_ n d.Aa.BC) λV=>(bif V then AH (H_ n d.Aa.True) λW=>(bif W then AH (Fa n d.Aa.B7 0 1099511627776) λX=>AC X else AC AD)else AC AD)else AC AD)else AC AD):AB Bool) λY=>AC Y else(bif (d.AW==4)then AH (PT n d.Ao) λaa=>AC aa else(bif (d.AW==5)then AH (AH (I_ n d.Ae.BW) λab=>(bif ab then AH (HS n d.Ae.AT) λac=>(bif ac then AH (H_ n d.Ae.Lo) λad=>(bif ad then AH (H_ n d.Ae.Hi) λae=>(bif ae then AC (AG (d.Ae.Lo<=d.Ae.Hi))else AC AD)else AC AD)else AC AD)else AC AD):AB Bool) λaf=>AC af else(bif (d.AW==6)then AH (AH (IH n d.Aq.Al) λag=>(bif ag then AH (IF n d.Aq.Ah) λah=>(bif ah then AH (H_ n d.Aq.Lo) λai=>(bif ai then AH (H_ n d.Aq.Hi) λaj=>(bif aj then AC (AG (d.Aq.Lo<=d.Aq.Hi))else AC AD)else AC AD)else AC AD)else AC AD):AB Bool) λak=>AC ak else(bif (d.AW==7)then AH (AH (I_ n d.Be.A) λal=>(bif al then AH (I_ n d.Be.B) λam=>(bif am then AC (AG (d.Be.A<d.Be.B))else AC AD)else AC AD):AB Bool) λan=>AC an else(bif (d.AW==8)then AH (AH (IC n d.Ak.BJ) λf=>(bif f then AH (I_ n d.Ak.BW) λg=>(bif g then AH (Fa n d.Ak.AZ 0 31) λh=>(bif h then AH (HS n d.Ak.AT) λj=>AC j else AC AD)else AC AD)else AC AD):AB Bool) λm=>AC m else(bif (d.AW==9)then AH (AH (IC n d.Av.BJ) λq=>(bif q then AH (Fa n d.Av.By 0 9999) λt=>(bif t then AH (Fa n d.Av.Bk 0 1125899906842624) λx=>(bif x then AH (Fa n d.Av.B3 0 1) λy=>AC y else AC AD)else AC AD)else AC AD):AB Bool) λE=>AC E else(bif (d.AW==10)then AH (Ky n d.Af) λF=>AC F else(bif (d.AW==11)then AH (IC n d.BD.BJ) λG=>AC G else(bif (d.AW==12)then AC AE else(bif (d.AW==13)then AH (AH (KC n d.Bp.BE) λH=>(bif H then AH (KB n d.Bp.No) λJ=>AC J else AC AD):AB Bool) λL=>AC L else AC AD)))))))))))))
instance ju(f:CI):Ks (K_ n f) 142 [.a (CI.c f)] [] (λr=>.b r):=by
 refine Kg 20 func142 Z Z Z Z λr h=>Cn Z h (λ_ h=>?_) (λ_ h=>?_)
 .exact au h
 iterate 2 (refine Gc 6 Z (Cn Z h (λ_ h=>?_) (λ_ h=>?_));exact au h)
 exact au h
def Pq(n:Nat)(d:CI):AB CI:=AH ((bif (d.AW==1)then AC ({Uv with BE:=d.BE,No:=d.No,At:=d.At,AW:=d.AW,AP:=d.AP:CI})else(bif (d.AW==2)then AC ({Uv with BE:=d.BE,No:=d.No,At:=d.At,AW:=d.AW,A5:=d.A5:CI})else(bif (d.AW==3)then AC ({Uv with BE:=d.BE,No:=d.No,At:=d.At,AW:=d.AW,Aa:=d.Aa:CI})else(bif (d.AW==4)then AC ({Uv with BE:=d.BE,No:=d.No,At:=d.At,AW:=d.AW,Ao:=d.Ao:CI})else(bif (d.AW==5)then AC ({Uv with BE:=d.BE,No:=d.No,At:=d.At,AW:=d.AW,Ae:=d.Ae:CI})else(bif (d.AW==6)then AC ({Uv with BE:=d.BE,No:=d.No,At:=d.At,AW:=d.AW,Aq:=d.Aq:CI})else(bif (d.AW==7)then AC ({Uv with BE:=d.BE,No:=d.No,At:=d.At,AW:=d.AW,Be:=d.Be:CI})else(bif (d.AW==8)then AC ({Uv with BE:=d.BE,No:=d.No,At:=d.At,AW:=d.AW,Ak:=d.Ak:CI})else(bif (d.AW==9)then AC ({Uv with BE:=d.BE,No:=d.No,At:=d.At,AW:=d.AW,Av:=d.Av:CI})else(bif (d.AW==10)then AC ({Uv with BE:=d.BE,No:=d.No,At:=d.At,AW:=d.AW,Af:=d.Af:CI})else(bif (d.AW==11)then AC ({Uv with BE:=d.BE,No:=d.No,At:=d.At,AW:=d.AW,BD:=d.BD:CI})else(bif (d.AW==13)then AC ({Uv with BE:=d.BE,No:=d.No,At:=d.At,AW:=d.AW,Bp:=d.Bp:CI})else AC ({Uv with BE:=d.BE,No:=d.No,At:=d.At,AW:=d.AW:CI}))))))))))))):AB CI) λf=>AC f
instance jd(f:CI):Kq (Pq n f) 143 [.a (CI.c f)] [] (λr=>.a (CI.c r)) (λr=>[.c 120 (CI.c r)]):=by
 refine Kg 35 func143 Z Z Z Z λr h=>Bd h λd g h=>Ct d [1,2] [2,3] Ze (λd=>[(1,.c 120 (CI.c d))]) Zf ?_ (λenv H j=>?_)
 .exact au g
 refine Gx 2 Z (Ee j (Gc 7 Z ?_));exact au h
def J2(d:CI):AB Int:=AH (AH (KC n d.BE) λf=>(bif (!f)then AC AE else AH (KB n d.No) λg=>(bif (!g)then AC AE else AH (Fa n d.At 0 1099511627776) λh=>(bif (!h)then AC AE else AH (K_ n d) λj=>(bif (!j)then AC AE else AH (Pq n d) λm=>AC (d != m))))):AB Bool) λq=>(bif q then AC 120 else AC 0)
instance zR(g:CI):Ks (J2 n g) 79 [.a (CI.c g)] [] (λr=>I r):=by
 refine Kg 8 func79 Z Z Z Z λr h=>Bd h λj d h=>Cg j [] [] (λj=>[(29,.b j)]) Ze Zf ?_ ?_
 .refine G0 0 Z (HT 25 [24] [(0,0,0),(0,0,0),(0,0,0),(0,0,0),(0,0,0),(0,0,0),(0,0,0),(0,0,0),(0,0,0),(0,0,0),(0,0,0),(0,0,0),(0,0,0),(0,0,0),(0,0,0),(0,0,0),(0,0,0),(0,0,0),(0,0,0),(0,0,0),(0,0,0),(0,0,0),(0,0,1),(0,0,0),(1,0,0)] (by kernel_rfl) (Dk 2 Z ?_));obtain⟨L,m,d⟩:=QE d;refine DK.wo (x:=.b L) ?_ ?_
  .exact Pc [] Z (C7.fn call139 Z Z Z) ((jz _ _).c _ m) Z Wp
  refine Dk 2 Z (DK.is 4 d Z Z Z (λ_ d=>?_) (λ_ d=>?_))
  .exact Dk 20 Z (DK.done Z Z (Gl 3 Z d []))
  .refine Dk 2 Z ?_;obtain⟨M,y,d⟩:=QE d;refine DK.wo (x:=.b M) ?_ ?_
   .exact Pc [] Z (C7.fn call140 Z Z Z) ((jy _ _).c _ y) (hg:=(gT Z)) Z Wp
   refine Dk 3 Z (DK.is 10 d Z Z Z (λ_ d=>?_) (λ_ d=>?_))
   .exact Dk 14 Z (DK.done Z Z (Gl 3 Z d []))
   .refine Dk 2 Z ?_;obtain⟨N,E,d⟩:=QE d;refine DK.wo (x:=.b N) ?_ ?_
    .exact Pc [] Z (C7.fn call141 Z Z Z) ((zi _ _ _ _).c _ E) (hg:=(gT Z)) Z Wp
    refine Dk 3 Z (DK.is 16 d Z Z Z (λ_ d=>?_) (λ_ d=>?_))
    .exact Dk 8 Z (DK.done Z Z (Gl 3 Z d []))
    .refine Dk 1 Z ?_;obtain⟨O,G,d⟩:=QE d;refine DK.wo (x:=.b O) ?_ ?_
     .exact Pc [] Z (C7.fn call142 Z Z Z) ((ju _ _).c _ G) (hg:=(gT Z)) Z Wp
     refine Dk 3 Z (DK.is 21 d Z Z Z (λ_ d=>?_) (λ_ d=>?_))
     .exact Dk 3 Z (DK.done Z Z (Gl 3 Z d []))
     .refine KI (lo:=0) (x:=.a (CI.c g)) ⟨Z,trivial⟩ ?_;refine Dk 1 Z ?_;obtain⟨f,J,d⟩:=QE d;refine Ex (x:=.a (CI.c f)) (X1:=[.c 120 (CI.c g),.c 120 (CI.c f)]) ?_ ?_
      .refine Qg [] (C7.fn call143 Z Z Z) ((jd _ _).c _ J) ?_ (hg:=(gT Z));rintro _ _ ⟨rfl,rfl⟩;exact FE Z Wp
      refine DK.done Z Z ?_;refine vX (.b (g != f)) (sU (p:=g) (q:=f) qB Z Z) ?_ (gT Z);exact Gl 2 Z d []
 exact au h
def Ow(n:Nat)(d:CI):AB (AA Int):=(bif (d.AW==1)then AH (app [d.AW,d.BE,d.No,d.At] [d.AP.BW,d.AP.AN,d.AP.A3,d.AP.BK,d.AP.B6,d.AP.BB,d.AP.Bl,d.AP.B5]) λE=>AC E else(bif (d.AW==2)then AH (app [d.AW,d.BE,d.No,d.At] [d.A5.Al,d.A5.Ah,d.A5.BB,d.A5.BC]) λF=>AC F else(bif (d.AW==3)then AH (app [d.AW,d.BE,d.No,d.At] [d.Aa.Al,d.Aa.Ah,d.Aa.BC,d.Aa.True,d.Aa.B7]) λG=>AC G else(bif (d.AW==4)then AH (app [d.AW,d.BE,d.No,d.At] [d.Ao.Bt,d.Ao.Bg,d.Ao.Bc,d.Ao.Bs,d.Ao.Bf,d.Ao.Bb,d.Ao.Bn,d.Ao.Br]) λH=>AC H else(bif (d.AW==5)then AH (app [d.AW,d.BE,d.No,d.At] [d.Ae.BW,d.Ae.AT,d.Ae.Lo,d.Ae.Hi]) λf=>AC f else(bif (d.AW==6)then AH (app [d.AW,d.BE,d.No,d.At] [d.Aq.Al,d.Aq.Ah,d.Aq.Lo,d.Aq.Hi]) λg=>AC g else(bif (d.AW==7)then AH (app [d.AW,d.BE,d.No,d.At] [d.Be.A,d.Be.B]) λh=>AC h else(bif (d.AW==8)then AH (app [d.AW,d.BE,d.No,d.At] [d.Ak.BJ,d.Ak.BW,d.Ak.AZ,d.Ak.AT]) λj=>AC j else(bif (d.AW==9)then AH (app [d.AW,d.BE,d.No,d.At] [d.Av.BJ,d.Av.By,d.Av.Bk,d.Av.B3]) λm=>AC m else(bif (d.AW==10)then AH (app [d.AW,d.BE,d.No,d.At] [d.Af.BJ,d.Af.BX,d.Af.AW,d.Af.BW,d.Af.AT,d.Af.BO]) λq=>AC q else(bif (d.AW==11)then(bif d.BD.Bi then AH (app [d.AW,d.BE,d.No,d.At] [d.BD.BJ,1]) λt=>AC t else AH (app [d.AW,d.BE,d.No,d.At] [d.BD.BJ,0]) λx=>AC x)else(bif (d.AW==13)then AH (app [d.AW,d.BE,d.No,d.At] [d.Bp.BE,d.Bp.No]) λy=>AC y else AC [d.AW,d.BE,d.No,d.At]))))))))))))
instance xj(d:CI):Kq (Ow n d) 217 [.a (CI.c d)] [] (λr=>.o 0 (AI r) 1) (λr=>[.r 3 1 (map eI r)]):=by
 refine Kg 16 func217 Z Z Z Z λr h=>vH (Ek (xs:=[.tmp 14,.tmp 16,.tmp 18,.tmp 20]) (es:=map eI [d.AW,d.BE,d.No,d.At]) QF Z Z Z Z Z ⟨Z,Z,Z,Z,trivial⟩ Z Z) ?_;refine Fg 17 Z Z (Cn Z h (λ_ h=>?_) (λ_ h=>?_))
 .refine Gc 27 Z (vH (Ek (xs:=[.tmp 30,.tmp 32,.tmp 34,.tmp 36,.tmp 38,.tmp 40,.tmp 42,.tmp 44]) (es:=map eI [d.AP.BW,d.AP.AN,d.AP.A3,d.AP.BK,d.AP.B6,d.AP.BB,d.AP.Bl,d.AP.B5]) QF Z Z Z Z Z ⟨Z,Z,Z,Z,Z,Z,Z,Z,trivial⟩ Z Z) ?_);refine FE Z (Bd h λl2 Q h=>vH (Qj (e:=eI) Q QF EB (QC (i:=3))) ?_);exact au h
 refine Gc 6 Z (Cn Z h (λ_ h=>?_) (λ_ h=>?_))
 .refine Gc 19 Z (vH (Ek (xs:=[.tmp 53,.tmp 55,.tmp 57,.tmp 59]) (es:=map eI [d.A5.Al,d.A5.Ah,d.A5.BB,d.A5.BC]) QF Z Z Z Z Z ⟨Z,Z,Z,Z,trivial⟩ Z Z) ?_);refine FE Z (Bd h λl4 T h=>vH (Qj (e:=eI) T QF EB (QC (i:=3))) ?_);exact au h
 refine Gc 6 Z (Cn Z h (λ_ h=>?_) (λ_ h=>?_))
 .refine Gc 21 Z (vH (Ek (xs:=[.tmp 68,.tmp 70,.tmp 72,.tmp 74,.tmp 76]) (es:=map eI [d.Aa.Al,d.Aa.Ah,d.Aa.BC,d.Aa.True,d.Aa.B7]) QF Z Z Z Z Z ⟨Z,Z,Z,Z,Z,trivial⟩ Z Z) ?_);refine FE Z (Bd h λl6 W h=>vH (Qj (e:=eI) W QF EB (QC (i:=3))) ?_);exact au h
 refine Gc 6 Z (Cn Z h (λ_ h=>?_) (λ_ h=>?_))
 .refine Gc 27 Z (vH (Ek (xs:=[.tmp 85,.tmp 87,.tmp 89,.tmp 91,.tmp 93,.tmp 95,.tmp 97,.tmp 99]) (es:=map eI [d.Ao.Bt,d.Ao.Bg,d.Ao.Bc,d.Ao.Bs,d.Ao.Bf,d.Ao.Bb,d.Ao.Bn,d.Ao.Br]) QF Z Z Z Z Z ⟨Z,Z,Z,Z,Z,Z,Z,Z,trivial⟩ Z Z) ?_);refine FE Z (Bd h λl8 Y h=>vH (Qj (e:=eI) Y QF EB (QC (i:=3))) ?_);exact au h
 refine Gc 6 Z (Cn Z h (λ_ h=>?_) (λ_ h=>?_))
 .refine Gc 19 Z (vH (Ek (xs:=[.tmp 108,.tmp 110,.tmp 112,.tmp 114]) (es:=map eI [d.Ae.BW,d.Ae.AT,d.Ae.Lo,d.Ae.Hi]) QF Z Z Z Z Z ⟨Z,Z,Z,Z,trivial⟩ Z Z) ?_);refine FE Z (Bd h λab f h=>vH (Qj (e:=eI) f QF EB (QC (i:=3))) ?_);exact au h
 refine Gc 6 Z (Cn Z h (λ_ h=>?_) (λ_ h=>?_))
 .refine Gc 19 Z (vH (Ek (xs:=[.tmp 123,.tmp 125,.tmp 127,.tmp 129]) (es:=map eI [d.Aq.Al,d.Aq.Ah,d.Aq.Lo,d.Aq.Hi]) QF Z Z Z Z Z ⟨Z,Z,Z,Z,trivial⟩ Z Z) ?_);refine FE Z (Bd h λac j h=>vH (Qj (e:=eI) j QF EB (QC (i:=3))) ?_);exact au h
 refine Gc 6 Z (Cn Z h (λ_ h=>?_) (λ_ h=>?_))
 .refine Gc 9 Z (vH (Ek (xs:=[.tmp 137,.tmp 140]) (es:=map eI [d.Be.A,d.Be.B]) QF Z Z Z Z Z ⟨Z,Z,trivial⟩ Z Z) ?_);refine FE Z (Bd h λad q h=>vH (Qj (e:=eI) q QF EB (QC (i:=2))) ?_);exact au h
 refine Gc 6 Z (Cn Z h (λ_ h=>?_) (λ_ h=>?_))
 .refine Gc 19 Z (vH (Ek (xs:=[.tmp 149,.tmp 151,.tmp 153,.tmp 155]) (es:=map eI [d.Ak.BJ,d.Ak.BW,d.Ak.AZ,d.Ak.AT]) QF Z Z Z Z Z ⟨Z,Z,Z,Z,trivial⟩ Z Z) ?_);refine FE Z (Bd h λae x h=>vH (Qj (e:=eI) x QF EB (QC (i:=3))) ?_);exact au h
 refine Gc 6 Z (Cn Z h (λ_ h=>?_) (λ_ h=>?_))
 .refine Gc 19 Z (vH (Ek (xs:=[.tmp 164,.tmp 166,.tmp 168,.tmp 170]) (es:=map eI [d.Av.BJ,d.Av.By,d.Av.Bk,d.Av.B3]) QF Z Z Z Z Z ⟨Z,Z,Z,Z,trivial⟩ Z Z) ?_);refine FE Z (Bd h λaf E h=>vH (Qj (e:=eI) E QF EB (QC (i:=3))) ?_);exact au h
 refine Gc 6 Z (Cn Z h (λ_ h=>?_) (λ_ h=>?_))
 .refine Gc 23 Z (vH (Ek (xs:=[.tmp 179,.tmp 181,.tmp 183,.tmp 185,.tmp 187,.tmp 189]) (es:=map eI [d.Af.BJ,d.Af.BX,d.Af.AW,d.Af.BW,d.Af.AT,d.Af.BO]) QF Z Z Z Z Z ⟨Z,Z,Z,Z,Z,Z,trivial⟩ Z Z) ?_);refine FE Z (Bd h λag G h=>vH (Qj (e:=eI) G QF EB (QC (i:=3))) ?_);exact au h
 refine Gc 6 Z (Cn Z h (λ_ h=>?_) (λ_ h=>?_))
 .refine Gc 8 Z (Cn Z h (λ_ h=>?_) (λ_ h=>?_))
  .refine Gc 6 Z (vH (Ek (xs:=[.tmp 200,.const (.int .i64 1)]) (es:=map eI [d.BD.BJ,1]) QF Z Z Z Z Z ⟨Z,Z,trivial⟩ Z Z) ?_);refine FE Z (Bd h λah L h=>vH (Qj (e:=eI) L QF EB (QC (i:=2))) ?_);exact au h
  refine Gc 8 Z (vH (Ek (xs:=[.tmp 206,.const (.int .i64 0)]) (es:=map eI [d.BD.BJ,0]) QF Z Z Z Z Z ⟨Z,Z,trivial⟩ Z Z) ?_);refine FE Z (Bd h λai M h=>vH (Qj (e:=eI) M QF EB (QC (i:=2))) ?_);exact au h
 refine Gc 6 Z (Cn Z h (λ_ h=>?_) (λ_ h=>?_))
 .refine Gc 9 Z (vH (Ek (xs:=[.tmp 214,.tmp 217]) (es:=map eI [d.Bp.BE,d.Bp.No]) QF Z Z Z Z Z ⟨Z,Z,trivial⟩ Z Z) ?_);refine FE Z (Bd h λaj O h=>vH (Qj (e:=eI) O QF EB (QC (i:=2))) ?_);exact au h
 exact au h
def W2(n:Nat)(d:Int):AB Unit:=AC ()
instance jV(d:Int):Kq (W2 n d) 277 [I d] [] (λ_=>.a [I 1,I d,.str [],.q 4 (map Value.enc [])]) (λ_=>[.c 351 [I 1,I d,.str [],.q 4 (map Value.enc [])]]):=KA func277
def Tf(g:AA Int)(d:(AA AL)×Int):AB (CG ((AA AL)×Int) (AA AL)):=(bif d.2<(AI g:Int) then AH (CJ g d.2) λf=>AH (W2 n f) λj=>AH (app d.1 [{AW:=1,N:=f,S:=[],L:=[]:AL}]) λh=>AC (.k (h,i64.wrap (d.2+1)))else AC (.d d.1))
def Od(f:AA Int):AB (AA AL):=AH (iter (Tf n f) n ([],0):AB (AA AL)) λd=>AC d
instance xX(F:AA Int):Kq (Od n F) 216 [.q 1 (map eI F)] [] (λr=>.a [I 3,I 0,.str [],.o 0 (AI r) 4]) (λr=>[.r 351 4 (map Value.enc r),.c 351 [I 3,I 0,.str [],.o 0 (AI r) 4]]):=by
 refine Kg 7 func216 Z Z Z Z λr h=>?_;refine vV (CT.build (zs:=[I 0,I 0,.str [],.n]) zeroValue351 (Fr Z) _U) ?_;refine Fg 9 Z Z (Bd h λg G h=>Cg g [0,1,0] [2,3] Ze (λg=>[(1,.c 351 [I 3,I 0,.str [],.o 2 (AI g) 4]),(2,.r 351 4 (map Value.enc g))]) Zf ?_ ?_)
 .refine G0 1 Z (Lp [0,1,0] [0,2,3] (λf=>[(4,I f.2)]) (λf=>[(1,.c 351 [I 3,I 0,.str [],.o 2 (AI f.1) 4]),(2,.r 351 4 (map Value.enc f.1))]) G Zf ?_ ?_)
  .exact En (Yb (i:=1) (m:=3) (k:=4) Z Z Z) (Lr [0,1,2])
  intro f H d q;refine G0 5 Z (Lg 3 Z Z (Q8 Z d (λ_ d=>?_) (λ_ d=>?_)))
  .exact Gc 2 Z (QH d (Gx 1 Z (DV q d (Lr [0,1,2]))))
  refine Gc 4 Z (HT 8 [6] [(0,0,1),(0,0,1),(0,0,0),(0,0,0),(0,0,0),(0,0,0),(1,0,0),(0,1,1)] (by kernel_rfl) (Dk 1 Z (KI (lo:=0) ⟨Z,trivial⟩ ?_)));refine Dk 2 Z ?_;obtain⟨j,y,d⟩:=QE d;refine DK.wo (x:=.rp [I j]) ?_ ?_
  .exact Ix y EB EC Z Wp
  refine Dk 1 Z ?_;obtain⟨J,B,d⟩:=QE d;refine Ex (x:=.a [I 1,I j,.str [],.q 4 (map Value.enc [])]) (X1:=[.c 351 (Value.c UK),.c 351 [I 3,I 0,.str [],.o 2 (AI f.1) 4],.r 351 4 (map Value.enc f.1),.c 351 [I 1,I j,.str [],.q 4 (map Value.enc [])]]) ?_ ?_
  .refine Qg [] (C7.fn call277 Z Z Z) ((jV _ _).c _ B) ?_;rintro _ _ ⟨rfl,rfl⟩;exact FE Z Wp
  refine DK.wo (x:=.q 4 (map Value.enc [{AW:=1,N:=j,S:=[],L:=[]:AL}])) ?_ ?_
  .refine vH (QP (xs:=[.tmp 18]) pO Z Z Z Z Z ⟨Z,trivial⟩ Z Z) ?_;exact Wp
  refine DK.done Z Z (Bd d λM E d=>(vH (Qj E pO runUnderlying349 LT) ?_));exact au d
 exact au h
def T6(n:Nat)(f:AL)(rec271:AL->AB Bool)(d:Int):AB (CG Int (CG Unit Bool)):=(bif d<(AI f.L:Int) then AH (CJ f.L d) λg=>AH (rec271 g) λh=>(bif (!h)then AC (.d (.d AD))else AC (.k (i64.wrap (d+1))))else AC (.d (.k ())))
def Z4(rec271:AL->AB Bool)(n:Nat)(d:AL):AB Bool:=(bif (d.AW==1)then AH ((bif (d.S==[])then AC ((AI d.L:Int)==0)else AC AD):AB Bool) λj=>AC j else(bif (d.AW==2)then AH ((bif (d.N==0)then AC ((AI d.L:Int)==0)else AC AD):AB Bool) λm=>AC m else(bif (d.AW==3)then AH (iter (T6 n d rec271) n 0:AB (CG Unit Bool)) λg=>match g with|.k f=>(AH ((bif (d.N==0)then AC (d.S==[])else AC AD):AB Bool) λh=>AC h)|.d f=>AC f else AC AD)))
theorem Qa1(rec271:AL->AB Bool)(B:∀(f:AL),Ks (rec271 f) 307 [.a (Value.c f)] [] (λr=>.b r))(n:Nat)(f:AL):Ks (Z4 rec271 n f) 307 [.a (Value.c f)] [] (λr=>.b r):=by
 refine Kg 20 func307 Z Z Z Z λr h=>Cn Z h (λ_ h=>?_) (λ_ h=>?_)
 .exact au h
 refine Gc 6 Z (Cn Z h (λ_ h=>?_) (λ_ h=>?_))
 .exact au h
 refine Gc 6 Z (Cn Z h (λ_ h=>?_) (λ_ h=>?_))
 .refine Gc 6 Z (Bd h λG J h=>Fb (b:=G) [0] [1] Ze Ze Zf ?_ (λP env H L M=>?_))
  .refine G0 1 Z (Lp [0] [1] (λm=>[(3,I m)]) Ze J Zf (Lr [0]) λm R d g=>?_);refine G0 6 Z (Lg 3 Z Z (Q8 Z d (λ_ d=>?_) (λ_ d=>?_)))
   .exact Jd g d
   refine Gc 9 Z (Bd d λN x d=>FU x (my N) Z (Go 1 Z (Cz [] d Kc Z λT Q d=>Go 3 Z (Cn Z d (λ_ d=>?_) (λ_ d=>?_)))))
   .exact DX g d h
   exact au d
  subst L;refine Gx 1 Z (Ee M (Gc 1 Z (Bd h λj O h=>Cg j [] [] (λj=>[(2,.b j)]) Ze Zf ?_ ?_)))
  .exact au O
  exact au h
 exact au h
def U_:Nat->AL->AB Bool
  |0=>λ_=>AF
  |n+1=>Z4 (U_ n) n
instance k_m:∀(d:AL),Ks (U_ n d) 307 [.a (Value.c d)] [] (λr=>.b r):=by
  induction n with
  |zero=>exact λ_=>⟨nofun⟩
  |succ n ih=>exact Qa1 _ ih n
def Tl(n:Nat)(g:AL)(rec272:AL->AB Int)(d:Int×Int):AB (CG (Int×Int) Int):=(bif d.2<(AI g.L:Int) then AH (CJ g.L d.2) λh=>AH (rec272 h) λf=>AC (.k ((if d.1<f then f else d.1),i64.wrap (d.2+1)))else AC (.d d.1))
def Z3(rec272:AL->AB Int)(n:Nat)(d:AL):AB Int:=(bif (d.AW != 3)then AC 0 else AH (iter (Tl n d rec272) n (0,0):AB Int) λf=>AC (i64.wrap (f+1)))
theorem Qbi(rec272:AL->AB Int)(y:∀(g:AL),Ks (rec272 g) 308 [.a (Value.c g)] [] (λr=>I r))(n:Nat)(g:AL):Ks (Z3 rec272 n g) 308 [.a (Value.c g)] [] (λr=>I r):=by
 refine Kg 14 func308 Z Z Z Z λr h=>Cn Z h (λ_ h=>?_) (λ_ h=>?_)
 .exact au h
 refine Gc 13 Z (Bd h λm E h=>Cg m [] [] (λm=>[(3,I m)]) Ze Zf ?_ ?_)
 .refine G0 1 Z (Lp [0] [1] (λf=>[(3,I f.1),(4,I f.2)]) Ze E Zf (Lr [0]) λf H d q=>?_);refine G0 6 Z (Lg 3 Z Z (Q8 Z d (λ_ d=>?_) (λ_ d=>?_)))
  .exact Gc 2 Z (QH d (Gx 1 Z (DV q d (Lr []))))
  refine Gc 9 Z (Bd d λF x d=>FU x (my F) Z (Go 1 Z (Cz [] d Kc Z λj G d=>?_)));refine vX (I (if f.1<j then j else f.1)) (CT.max Z Z Z Z) ?_;exact au d
 exact au h
def Tm:Nat->AL->AB Int
  |0=>λ_=>AF
  |n+1=>Z3 (Tm n) n
instance k_o:∀(d:AL),Ks (Tm n d) 308 [.a (Value.c d)] [] (λr=>I r):=by
  induction n with
  |zero=>exact λ_=>⟨nofun⟩
  |succ n ih=>exact Qbi _ ih n
def WG(d:AL):AB Int:=AH (U_ n d) λf=>(bif (!f)then AC 1 else AH (Tm n d) λg=>(bif 16<g then AC 2 else AC 0))
instance wO(d:AL):Ks (WG n d) 275 [.a (Value.c d)] [] (λr=>I r):=KA func275
def PV(n:Nat)(d:Int):AB Int:=(bif 0<=d then AC (u64.wrap (2*(u64.wrap d)))else AC (u64.wrap ((u64.wrap (2*(u64.wrap (i64.wrap (0-(i64.wrap (d+1)))))))+1)))
instance yS(d:Int):Ks (PV n d) 310 [I d] [] (λr=>.i .u64 r):=by
 refine Kg 12 func310 Z Z Z Z λr h=>Cn Z h (λ_ h=>?_) (λ_ h=>?_)
 .refine Gc 3 Z (vV (Ri Z E4 Gn Z) ?_);exact Gt 6 Z h 2 []
 refine Gc 7 Z (vV (Ri Z E4 Gn Z) ?_);exact Gt 6 Z h 2 []
def Z6(rec275:Int->AB (AA Int))(n:Nat)(d:Int):AB (AA Int):=(bif d<128 then AC [u8.wrap d]else AH (rec275 (u64.wrap (Int.tdiv d 128))) λf=>AH (app [u8.wrap (u64.wrap ((Int.tmod d 128)+128))] f) λg=>AC g)
theorem QaI(rec275:Int->AB (AA Int))(f:∀(d:Int),Kq (rec275 d) 309 [.i .u64 d] [] (λr=>.o 0 (AI r) 1) (λr=>[.r 5 1 (map (Yp .u8) r)]))(n:Nat)(d:Int):Kq (Z6 rec275 n d) 309 [.i .u64 d] [] (λr=>.o 0 (AI r) 1) (λr=>[.r 5 1 (map (Yp .u8) r)]):=by
 refine Kg 12 func309 Z Z Z Z λr h=>Cn Z h (λ_ h=>?_) (λ_ h=>?_)
 .refine Gc 3 Z ?_;refine vX (.i .u8 (u8.wrap d)) (Ri Z Gn Gi Z) ?_;exact au h
 refine Gc 5 Z ?_;refine vX (.i .u64 (Int.tmod d 128)) (CT.rem Z Z Z (by decide)) ?_;refine Go 1 Z ?_;refine vV (x:=(.i .u8 (u8.wrap (u64.wrap ((Int.tmod d 128)+128))))) (Ri Z Gn Gi Z) ?_;refine vH (Ek (xs:=[.tmp 11]) (es:=map (Yp .u8) [u8.wrap (u64.wrap ((Int.tmod d 128)+128))]) Nx Z Z Z Z Z ⟨Z,trivial⟩ Z Z) ?_;refine Fg 1 Z Z ?_;refine vX (.i .u64 (u64.wrap (Int.tdiv d 128))) (CT.quo Z Z Z (by decide)) ?_;refine Cd [] h Kc Z λq m h=>FE Z (Bd h λt j h=>vH (Qj (e:=(Yp .u8)) j Nx EX (QC (i:=1))) ?_);exact au h
def Rq:Nat->Int->AB (AA Int)
  |0=>λ_=>AF
  |n+1=>Z6 (Rq n) n
instance k_j:∀(d:Int),Kq (Rq n d) 309 [.i .u64 d] [] (λr=>.o 0 (AI r) 1) (λr=>[.r 5 1 (map (Yp .u8) r)]):=by
  induction n with
  |zero=>exact λ_=>⟨nofun⟩
  |succ n ih=>exact QaI _ ih n
def VY(n:Nat)(f:AL)(rec273:AL->AB (AA Int))(d:(AA Int)×Int):AB (CG ((AA Int)×Int) (AA Int)):=(bif d.2<(AI f.L:Int) then AH (CJ f.L d.2) λg=>AH (rec273 g) λh=>AH (app d.1 h) λj=>AC (.k (j,i64.wrap (d.2+1)))else AC (.d d.1))
def Z5(rec273:AL->AB (AA Int))(n:Nat)(d:AL):AB (AA Int):=(bif (d.AW==1)then AH (PV n d.N) λg=>AH (Rq n g) λh=>AH (app [1] h) λj=>AC j else(bif (d.AW==2)then AF else AH (Rq n (u64.wrap (AI d.L:Int))) λm=>AH (app [3] m) λq=>AH (iter (VY n d rec273) n (q,0):AB (AA Int)) λf=>AC f))
theorem Qa0(rec273:AL->AB (AA Int))(y:∀(j:AL),Kq (rec273 j) 276 [.a (Value.c j)] [] (λr=>.o 0 (AI r) 1) (λr=>[.r 5 1 (map (Yp .u8) r)]))(n:Nat)(j:AL):Kq (Z5 rec273 n j) 276 [.a (Value.c j)] [] (λr=>.o 0 (AI r) 1) (λr=>[.r 5 1 (map (Yp .u8) r)]):=by
 refine Kg 20 func276 Z Z Z Z λr h=>Cn Z h (λ_ h=>?_) (λ_ h=>?_)
 .refine Gc 2 Z (vH (Ek (xs:=[.const (.int .u8 1)]) (es:=map (Yp .u8) [1]) Nx Z Z Z Z Z ⟨Z,trivial⟩ Z Z) ?_);refine Fg 2 Z Z (Cz [] h Kc Z λV N h=>Cd [] h Kc Z λW O h=>FE Z (Bd h λX E h=>vH (Qj (e:=(Yp .u8)) E Nx EX (QC (i:=2))) ?_));exact au h
 refine Gc 6 Z (Cn Z h (λ_ h=>?_) (λ_ h=>?_))
 .refine Gc 1 Z ?_;cases h
 refine Gc 5 Z (vH (Ek (xs:=[.const (.int .u8 3)]) (es:=map (Yp .u8) [3]) Nx Z Z Z Z Z ⟨Z,trivial⟩ Z Z) ?_);refine Fg 2 Z Z (Lm Z ?_);refine vX (.i .u64 (u64.wrap (AI j.L:Int))) (Ri Z E4 Gn Z) ?_;refine Cd [] h Kc Z λY P h=>FE Z (Bd h λl9 G h=>vH (Qj (e:=(Yp .u8)) G Nx EX (QC (i:=2))) ?_);refine Fg 9 Z Z (Bd h λf H h=>Cg f [1] [] (λf=>[(3,.o 0 (AI f) 1)]) (λf=>[(0,.r 5 1 (map (Yp .u8) f))]) Zf ?_ ?_)
 .refine G0 1 Z (Lp [0,3] [1] (λg=>[(3,.o 1 (AI g.1) 1),(4,I g.2)]) (λg=>[(1,.r 5 1 (map (Yp .u8) g.1))]) H Zf (Lr [0,3]) λg Q d m=>?_);refine G0 6 Z (Lg 3 Z Z (Q8 Z d (λ_ d=>?_) (λ_ d=>?_)))
  .exact Gc 2 Z (QH d (Gx 1 Z (DV m d (Lr [1]))))
  refine Gc 9 Z (Bd d λJ t d=>FU t (my J) Z (Go 1 Z (Cd [] d Kc Z λR M d=>FE Z (Bd d λT x d=>vH (Qj (e:=(Yp .u8)) x Nx EX (QC (i:=2))) ?_))));exact au d
 exact au h
def V6:Nat->AL->AB (AA Int)
  |0=>λ_=>AF
  |n+1=>Z5 (V6 n) n
instance k_l:∀(d:AL),Kq (V6 n d) 276 [.a (Value.c d)] [] (λr=>.o 0 (AI r) 1) (λr=>[.r 5 1 (map (Yp .u8) r)]):=by
  induction n with
  |zero=>exact λ_=>⟨nofun⟩
  |succ n ih=>exact Qa0 _ ih n
def V_(d:AL):AB ((AA Int)×Int):=AH (WG n d) λf=>(bif (f != 0)then AC ([],f)else AH (V6 n d) λg=>AC (g,0))
instance wH(d:AL):Kq (V_ n d) 215 [.a (Value.c d)] [] (λr=>.t [.o 0 (AI r.1) 1,I r.2]) (λr=>[.r 5 1 (map (Yp .u8) r.1)]):=by
 refine Kg 10 func215 Z Z Z Z λr h=>Cz [] h Kc Z λj g h=>Go 10 Z (Cn Z h (λ_ h=>?_) (λ_ h=>?_))
 .refine Gc 9 Z ?_;obtain rfl:=Oi h;refine R2 2 3 Z Z ?_;exact En (Er (s:=2) (XR Z) Z) (Lr [1])
 exact au h
def MM(d:CI):AB ((AA Int)×Int):=AH (J2 n d) λg=>(bif (g != 0)then AC ([],120)else AH (Ow n d) λh=>AH (Od n h) λj=>AH (V_ n ({AW:=3,N:=0,S:=[],L:=j:AL})) λf=>AC (f.1,f.2))
instance yj(d:CI):Kq (MM n d) 144 [.a (CI.c d)] [] (λr=>.t [.o 0 (AI r.1) 1,I r.2]) (λr=>[.r 5 1 (map (Yp .u8) r.1)]):=by
 refine Kg 11 func144 Z Z Z Z λr h=>Cz [] h Kc Z λq g h=>Go 3 Z (Cn Z h (λ_ h=>?_) (λ_ h=>?_))
 .refine Gc 8 Z ?_;obtain rfl:=Oi h;refine R2 2 3 Z Z ?_;exact En (Er (s:=2) (XR Z) Z) (Lr [1])
 refine Gc 5 Z (Cd [] h Kc Z λt j h=>FE Z (Et (Yk [(8,_)] Z Z (Cy.cons Z Ep Cy.nil) (Ec (Ec (QU _)))) ?_));refine Cd [] h Kc Z λx m h=>FE Z (Et (Yk [(9,_)] Z Z (Cy.cons Z (DQ.agg (CY.k (CY.k (CY.k (Ed Ep (Ej _)))))) Cy.nil) (Ec (Ec (Ec (Do.cells (CY.k (CY.k (CY.k (Ed Ep (Ej _))))) (QU _)))))) ?_);exact au h
def Tv(n:Nat)(f:CI)(g:CI)(d:Int):AB (CG Int (CG Unit Int)):=(bif d<3 then AH (CJ [f.At,f.BE,f.No] d) λh=>AH (CJ [g.At,g.BE,g.No] d) λj=>(bif h<j then AC (.d (.d (-1)))else AH (CJ [f.At,f.BE,f.No] d) λm=>AH (CJ [g.At,g.BE,g.No] d) λq=>(bif q<m then AC (.d (.d 1))else AC (.k (i64.wrap (d+1)))))else AC (.d (.k ())))
def O5(h:CI)(j:CI):AB Int:=AH (iter (Tv n h j) n 0:AB (CG Unit Int)) λm=>match m with|.k d=>(AH (MM n h) λf=>AH (MM n j) λg=>(bif Op.bytesLess (map Jz f.1) (map Jz g.1)then AC (-1)else(bif (!(Op.bytesLess (map Jz f.1) (map Jz g.1)||(map Jz f.1)==(map Jz g.1)))then AC 1 else AC 0)))|.d d=>AC d
instance xr(q:CI)(t:CI):Ks (O5 n q t) 80 [.a (CI.c q),.a (CI.c t)] [] (λr=>I r):=by
 refine Kg 15 func80 Z Z Z Z λr h=>vH (Ek (xs:=[.tmp 13,.tmp 15,.tmp 17]) (es:=map eI [q.At,q.BE,q.No]) QF Z Z Z Z Z ⟨Z,Z,Z,trivial⟩ Z Z) ?_;refine Fg 11 Z Z (vH (Ek (xs:=[.tmp 20,.tmp 22,.tmp 24]) (es:=map eI [t.At,t.BE,t.No]) QF Z Z Z Z Z ⟨Z,Z,Z,trivial⟩ Z Z) ?_);refine Fg 9 Z Z (Bd h λL M h=>D_ (b:=L) [0,1] [2,3] Ze Ze Zf ?_ (λ_ N=>?_))
 .refine G0 1 Z (Lp [0,1,2,3] [2,3,5,6] (λf=>[(7,I f)]) Ze M Zf (Lr [0,1,2,3]) λf X d g=>?_);refine G0 7 Z (Q8 Z d (λ_ d=>?_) (λ_ d=>?_))
  .exact Jd g d
  refine Gc 6 Z (DT 8 Z (D 2 Z ?_));obtain⟨O,y,d⟩:=QE d;refine DS.v (x:=(.p 2 (toNat f*1))) (Qd y Z EB EC) ?_;refine DS.v (x:=(I O)) (Ez Z EE Z (Qh y)) ?_;refine D 2 Z ?_;obtain⟨P,B,d⟩:=QE d;refine DS.v (x:=(.p 3 (toNat f*1))) (Qd B Z EB EC) ?_;refine DS.v (x:=(I P)) (Ez Z EE Z (Qh B)) ?_;refine Eg Z (Go 3 Z (Cn Z d (λ_ d=>?_) (λ_ d=>?_)))
  .exact DX g d h
  refine Gc 3 Z (DT 8 Z (D 2 Z ?_));obtain⟨Q,E,d⟩:=QE d;refine DS.v (x:=(.p 2 (toNat f*1))) (Qd E Z EB EC) ?_;refine DS.v (x:=(I Q)) (Ez Z EE Z (Qh E)) ?_;refine D 2 Z ?_;obtain⟨R,F,d⟩:=QE d;refine DS.v (x:=(.p 3 (toNat f*1))) (Qd F Z EB EC) ?_;refine DS.v (x:=(I R)) (Ez Z EE Z (Qh F)) ?_;exact DX g d h
 subst N;refine Gc 3 Z (Cd [] h Kc Z λj V h=>Fg 10 Z Z (Cd [] h Kc Z λm W h=>Fg 11 Z Z ?_));refine vX (.str (map Jz j.1)) (iP (l:=j.1) (HA.row (i:=2)) EX Gi Gh) ?_;refine Go 1 Z ?_;refine vX (.str (map Jz m.1)) (iP (l:=m.1) (HA.row (i:=3)) EX Gi Gh) ?_;refine Go 3 Z (Cn Z h (λ_ h=>?_) (λ_ h=>?_))
 .exact au h
 refine Gc 6 Z ?_;refine vX (.str (map Jz j.1)) (iP (l:=j.1) (HA.row (i:=2)) EX Gi Gh) ?_;refine Go 1 Z ?_;refine vX (.str (map Jz m.1)) (iP (l:=m.1) (HA.row (i:=3)) EX Gi Gh) ?_;refine vV (QmR Z Z Z) ?_;exact au h
def nj(q:AA CI)(f:(AA CI)×Int)(d:Int):AB (CG Int Int):=AH ((bif d<(AI f.1:Int) then AH (CJ f.1 d) λg=>AH (CJ q f.2) λh=>AH (O5 n g h) λj=>AC (AG (j<0))else AC AD):AB Bool) λm=>(bif m then AC (.k (i64.wrap (d+1)))else AC (.d d))
def MG(g:AA CI)(d:(AA CI)×Int):AB (CG ((AA CI)×Int) (AA CI)):=(bif d.2<(AI g:Int) then AH (AH (CJ g d.2) λh=>AH (J2 n h) λj=>(bif (j != 0)then AC d.1 else AH (iter (nj n g d) n 0:AB Int) λf=>AH ((bif f<(AI d.1:Int) then AH (CJ d.1 f) λm=>AH (CJ g d.2) λq=>AC (m==q)else AC AD):AB Bool) λt=>(bif t then AC d.1 else AH (Dj d.1 0 f) λx=>AH (app ([]:AA CI) x) λy=>AH (CJ g d.2) λB=>AH (app y [B]) λE=>AH (Dj d.1 f (AI d.1:Int)) λF=>AH (app E F) λG=>AC G)):AB (AA CI)) λH=>AC (.k (H,i64.wrap (d.2+1)))else AC (.d d.1))
def Km(f:AA CI):AB (AA CI):=AH (iter (MG n f) n (([]:AA CI),0):AB (AA CI)) λd=>AC d
instance k_w(a1:AA CI):Kq (Km n a1) 29 [.q 57 (map CI.c a1)] [] (λr=>.o 0 (AI r) 57) (λr=>[.r 120 57 (map CI.c r)]):=by
 refine Kg 7 func29 Z Z Z Z λr h=>vH (Ek (xs:=[]) (es:=map CI.c []) ZV Z Z Z Z Z trivial Z Z) ?_;refine Fg 9 Z Z (Bd h λG ao h=>Cg G [0] [] (λG=>[(3,.o 0 (AI G) 57)]) (λG=>[(0,.r 120 57 (map CI.c G))]) Zf ?_ ?_)
 .refine G0 1 Z (Lp [0] [0] (λg=>[(3,.o 0 (AI g.1) 57),(4,I g.2)]) (λg=>[(0,.r 120 57 (map CI.c g.1))]) ao Zf (Lr [0]) λg ax y aa=>?_);refine G0 5 Z (Lg 3 Z Z (Q8 Z y (λ_ y=>?_) (λ_ y=>?_)))
  .exact Gc 2 Z (QH y (Gx 1 Z (DV aa y (Lr [0]))))
  refine Gc 3 Z (Bd y λJ f y=>Cg J [0] [0,4] (λJ=>[(3,.o 0 (AI J) 57)]) (λJ=>[(0,.r 120 57 (map CI.c J))]) Zf ?_ ?_)
  .refine G0 6 Z (Bd f λay ac f=>Iz ac Z (Go 1 Z (Cz [] f Kc Z λaz aw f=>Go 3 Z (Cn Z f (λ_ f=>?_) (λ_ f=>?_)))))
   .exact au f
   refine Gc 8 Z (Bd f λj aq f=>Ct j [0] [0,3,4] (λj=>[(5,I j)]) Ze Zf ?_ (λenv H W=>?_))
   .refine G0 1 Z (Lp [0] [0,3,4] (λN=>[(5,I N)]) Ze aq Zf (Lr [0]) λN ba E ae=>?_);refine G0 2 Z (Bd E λO m E=>Ct O [0] [0,3,4,5] (λO=>[(34,.b O)]) Ze Zf ?_ (λenv H W=>?_))
    .refine G0 0 Z (DT 13 Z (D 5 Z (DS.is 4 m Z Z Z (λ_ m=>?_) (λ_ m=>?_))))
     .refine D 2 Z ?_;obtain⟨ar,T,m⟩:=QE m;refine DS.v (x:=(.p 0 (toNat N*57))) (Qd T Z ED EF) ?_ (hg:=(gT Z));refine DS.v (x:=(.a (CI.c ar))) (Qs Z isAgg120 EF Z (Qh T) Z Z) ?_ (hg:=(gT Z));refine D 2 Z ?_;obtain⟨av,ag,m⟩:=QE m;refine DS.v (M4 (e:=CI.c) (l:=a1) (v:=av) ag ED EF) ?_ (hg:=(gT Z));exact au m
     exact au m
    refine Gx 1 Z (Ee W (Q8 Z E (λ_ E=>?_) (λ_ E=>?_)))
    .exact Gc 2 Z (QH E (Gx 1 Z (DV ae E (Lr [0]))))
    exact au E
   refine Gx 1 Z (Ee W (Gc 2 Z (Bd f λP t f=>Cg P [0] [0,3,4,5] (λP=>[(51,.b P)]) Ze Zf ?_ ?_)))
   .refine G0 0 Z (DT 13 Z (D 5 Z (DS.is 4 t Z Z Z (λ_ t=>?_) (λ_ t=>?_))))
    .refine D 2 Z ?_;obtain⟨Q,V,t⟩:=QE t;refine DS.v (x:=(.p 0 (toNat j*57))) (Qd V Z ED EF) ?_ (hg:=(gT Z));refine DS.v (x:=(.a (CI.c Q))) (Qs Z isAgg120 EF Z (Qh V) Z Z) ?_ (hg:=(gT Z));refine D 2 Z ?_;obtain⟨R,aj,t⟩:=QE t;refine DS.v (M4 (e:=CI.c) (l:=a1) (v:=R) aj ED EF) ?_ (hg:=(gT Z));refine D 1 Z (Eg Z ?_);refine vX (.b (Q==R)) (iO (p:=Q) (q:=R) qB Z Z) ?_ (gT Z);exact au t
    exact au t
   refine Cn Z f (λ_ f=>?_) (λ_ f=>?_)
   .exact au f
   refine Gc 2 Z (HT 14 [0,4,10] [(1,0,0),(0,0,1),(0,0,1),(0,0,1),(1,1,0),(0,0,2),(0,0,2),(0,0,2),(0,0,2),(0,0,2),(1,2,0),(0,0,3),(0,0,3),(0,0,3)] (by kernel_rfl) ?_);refine Ex (x:=.o 1 (AI ([]:AA CI)) 57) (X1:=[.r 120 57 (map CI.c g.1),.r 120 57 (map CI.c ([]:AA CI))]) ?_ ?_
   .refine vH (Ek (xs:=[]) (es:=map CI.c []) ZV Z Z Z Z Z trivial Z Z) ?_;exact FE Z Wp
   refine Dk 2 Z ?_;obtain⟨bb,L,f⟩:=QE f;refine KT (lo:=0) (hi:=1) (x:=.s 0 (0+toNat 0) (toNat j-toNat 0) 57) ⟨?_,?_,trivial⟩ ?_
   iterate 2 refine vX (.s 0 (0+toNat 0) (toNat j-toNat 0) 57) (QQ (l:=g.1) L ED EF (.inl ⟨Z,Z⟩) (.inr ⟨_,Z,Z⟩)) ?_;exact Wp
   obtain⟨X,al,f⟩:=QE f;refine Ex (x:=.o 2 (AI X) 57) (X1:=[.r 120 57 (map CI.c g.1),.dead,.r 120 57 (map CI.c X)]) ?_ ?_
   .refine vH (Qj (e:=CI.c) al ZV ED (LS (b:=0) L)) ?_;exact FE Z Wp
   refine Dk 2 Z ?_;obtain⟨d,M,f⟩:=QE f;refine KT (lo:=0) (hi:=2) (x:=.rp [I d.BE,I d.No,I d.At,I d.AW,I d.AP.BW,I d.AP.AN,I d.AP.A3,I d.AP.BK,I d.AP.B6,I d.AP.BB,I d.AP.Bl,I d.AP.B5,I d.A5.Al,I d.A5.Ah,I d.A5.BB,I d.A5.BC,I d.Aa.Al,I d.Aa.Ah,I d.Aa.BC,I d.Aa.True,I d.Aa.B7,I d.Ao.Bt,I d.Ao.Bg,I d.Ao.Bc,I d.Ao.Bs,I d.Ao.Bf,I d.Ao.Bb,I d.Ao.Bn,I d.Ao.Br,I d.Ae.BW,I d.Ae.AT,I d.Ae.Lo,I d.Ae.Hi,I d.Aq.Al,I d.Aq.Ah,I d.Aq.Lo,I d.Aq.Hi,I d.Be.A,I d.Be.B,I d.Ak.BJ,I d.Ak.BW,I d.Ak.AZ,I d.Ak.AT,I d.Av.BJ,I d.Av.By,I d.Av.Bk,I d.Av.B3,I d.Af.BJ,I d.Af.BX,I d.Af.AW,I d.Af.BW,I d.Af.AT,I d.Af.BO,I d.BD.BJ,.b d.BD.Bi,I d.Bp.BE,I d.Bp.No]) ⟨?_,?_,?_,trivial⟩ ?_
   iterate 3 exact Ix M ED EF Z Wp
   refine Dk 1 Z ?_;refine KT (lo:=0) (hi:=2) (x:=.q 57 (map CI.c [d])) ⟨?_,?_,?_,trivial⟩ ?_
   iterate 3 refine vH (QP (xs:=[.tmp 60]) (es:=map CI.c [d]) ZV Z Z Z Z Z ⟨Z,trivial⟩ Z Z) ?_;exact FE Z Wp
   obtain⟨Y,am,f⟩:=QE f;refine Ex (x:=.o 3 (AI Y) 57) (X1:=[.r 120 57 (map CI.c g.1),.dead,.dead,.r 120 57 (map CI.c Y)]) ?_ ?_
   .refine vH (Qj (e:=CI.c) am ZV ED LT) ?_;exact FE Z Wp
   refine Dk 2 Z ?_;obtain⟨bc,F,f⟩:=QE f;refine KT (lo:=0) (hi:=3) (x:=.s 0 (0+toNat j) (toNat (AI g.1:Int)-toNat j) 57) ⟨?_,?_,?_,?_,trivial⟩ ?_
   iterate 4 refine vX (.s 0 (0+toNat j) (toNat (AI g.1:Int)-toNat j) 57) (QQ (l:=g.1) F ED EF (.inr ⟨_,Z,Z⟩) (.inl ⟨Z,Z⟩)) ?_;exact Wp
   refine DK.done Z Z (Bd f λbd an f=>?_);refine vH (Qj (e:=CI.c) an ZV ED (LS (b:=0) F)) ?_;exact au f
  exact au y
 exact au h
def J3(n:Nat)(f:CB)(d:Int):AB Bool:=AH ((bif 0<=d then AC (AG (d<(AI f.Au:Int)))else AC AD):AB Bool) λg=>AC g
instance zS(d:CB)(f:Int):Ks (J3 n d f) 125 [.a (CB.c d),I f] [] (λr=>.b r):=KA func125
def MW(n:Nat)(d:CB)(f:Int):AB Bool:=AH (CJ d.Au f) λg=>AC (g.AW==1)
instance yu(d:CB)(f:Int):Ks (MW n d f) 196 [.a (CB.c d),I f] [] (λr=>.b r):=KA func196
def O9(n:Nat)(d:CD)(f:CD):AB Bool:=AH ((bif d.Al<f.Al then AC AE else(bif (d.Al==f.Al)then AC (AG (d.Ah<f.Ah))else AC AD)):AB Bool) λg=>AC g
instance xx(d:CD)(f:CD):Ks (O9 n d f) 198 [.a (CD.c d),.a (CD.c f)] [] (λr=>.b r):=KA func198
def nh(f:AA CD)(m:Int)(q:Int)(d:Int):AB (CG Int Int):=AH ((bif d<(AI f:Int) then AH (CJ f d) λg=>AH (O9 n g ({Al:=m,Ah:=q,BI:=0:CD})) λh=>AC h else AC AD):AB Bool) λj=>(bif j then AC (.k (i64.wrap (d+1)))else AC (.d d))
def J0(j:CB)(d:AA CD)(g:Int)(h:Int):AB (AA CD):=AH (AH (J3 n j g) λF=>(bif (!F)then AC AE else AH (MW n j g) λG=>AC G):AB Bool) λH=>(bif H then AC d else AH (iter (nh n d g h) n 0:AB Int) λf=>AH ((bif f<(AI d:Int) then AH (CJ d f) λm=>(bif (m.Al==g)then AH (CJ d f) λq=>AC (q.Ah==h)else AC AD)else AC AD):AB Bool) λt=>(bif t then AC d else AH (Dj d f (AI d:Int)) λx=>AH (app [{Al:=g,Ah:=h,BI:=0:CD}] x) λy=>AH (Dj d 0 f) λB=>AH (app B y) λE=>AC E))
instance zP(a1:CB)(q:AA CD)(N:Int)(O:Int):Kq (J0 n a1 q N O) 131 [.a (CB.c a1),.o 0 (AI q) 3,I N,I O] [.r 209 3 (map CD.c q)] (λr=>.o 1 (AI r) 3) (λr=>[.dead,.r 209 3 (map CD.c r)]):=by
 refine Kg 8 func131 Z Z Z Z λr h=>Bd h λP h5 h=>Ct P [0] [1,2,3] (λP=>[(20,.b P)]) Ze Zf ?_ (λenv H t=>?_)
 .exact au h5
 refine Gx 1 Z (Ee t (Cn Z h (λ_ h=>?_) (λ_ h=>?_)))
 .refine Gc 8 Z ?_;obtain rfl:=Oi h;refine R1 8 Z ?_;refine En (mS (s:=8) (i:=0) Z Z Z) ?_;exact Lr [0,1]
 refine Gc 17 Z (Bd h λg ac h=>Ct g [0,1] [1,2,3,9] (λg=>[(10,I g)]) Ze Zf ?_ (λenv H t=>?_))
 .refine G0 1 Z (Lp [0,1] [1,2,3,9] (λB=>[(10,I B)]) Ze ac Zf (Lr [0,1]) λB ag j Q=>?_);refine G0 2 Z (Bd j λE m j=>Ct E [0,1] [1,2,3,9,10] (λE=>[(36,.b E)]) Ze Zf ?_ (λenv H t=>?_))
  .refine G0 0 Z (DT 10 Z (D 5 Z (DS.is 4 m Z Z Z (λ_ m=>?_) (λ_ m=>?_))))
   .refine D 2 Z ?_;obtain⟨ad,F,m⟩:=QE m;refine DS.v (x:=(.p 0 (toNat B*3))) (Qd F Z ES E6) ?_ (hg:=(gT Z));refine DS.v (x:=(.a (CD.c ad))) (Qs Z isAgg209 E6 Z (Qh F) Z Z) ?_ (hg:=(gT Z));exact au m
   exact au m
  refine Gx 1 Z (Ee t (Q8 Z j (λ_ j=>?_) (λ_ j=>?_)))
  .exact Gc 2 Z (QH j (Gx 1 Z (DV Q j (Lr [0,1]))))
  exact au j
 refine Gx 1 Z (Ee t (Gc 2 Z (Bd h λG d h=>Cg G [0,1] [1,9,10] (λG=>[(60,.b G)]) Ze Zf ?_ ?_)))
 .refine G0 6 Z (Is 43 d Z (λ_ d=>?_) (λ_ d=>?_))
  .refine Go 2 Z (Bd d λae J d=>?_);refine vX (.p 0 (toNat g*3)) (Qd J Z ES E6) ?_ (gT Z);refine Ho (gT Z) sQ Z ?_;refine vX (I ae.Al) (Ez Z EE Z (Qh J)) ?_ (gT Z);refine Go 4 Z (Is 52 d Z (λ_ d=>?_) (λ_ d=>?_))
   .refine Go 2 Z (Bd d λaf L d=>?_);refine vX (.p 0 (toNat g*3)) (Qd L Z ES E6) ?_ (gT Z);refine Ho (gT Z) rW Z ?_;refine vX (I af.Ah) (Ez Z EE Z (Qo (f:=1) L)) ?_ (gT Z);exact au d
   exact au d
  exact au d
 refine Cn Z h (λ_ h=>?_) (λ_ h=>?_)
 .refine Gc 8 Z ?_;obtain rfl:=Oi h;refine R1 8 Z ?_;refine En (mS (s:=8) (i:=0) Z Z Z) ?_;exact Lr [0,2]
 refine Gc 3 Z (P0 5 1 [0,1,3,3,3] (by kernel_rfl) (Da 1 Z ?_));refine kU (Ek (xs:=[.tmp 62]) (es:=map CD.c [{Al:=N,Ah:=O,BI:=0:CD}]) gL Z Z Z Z Z ⟨Z,trivial⟩ Z Z) Z Z (Db 2 Z ?_);obtain⟨ah,y,h⟩:=QE h;refine DB.wo2 (x:=.s 0 (0+toNat g) (toNat (AI q:Int)-toNat g) 3) ?_ ?_ ?_
 iterate 2 refine vX (.s 0 (0+toNat g) (toNat (AI q:Int)-toNat g) 3) (QQ (l:=q) y ES E6 (.inr ⟨_,Z,Z⟩) (.inl ⟨Z,Z⟩)) ?_;exact Wp
 refine DB.done Z (Bd h λai Y h=>vH (Qj (e:=CD.c) Y gL ES (LS (b:=0) y)) ?_);refine Fg 8 Z Z (Bd h λaj M h=>?_);refine vX (.s 0 (0+toNat 0) (toNat g-toNat 0) 3) (dp (l:=q) M ES E6) ?_;refine Go 1 Z (Bd h λak aa h=>vH (dm (e:=CD.c) M aa gL ES (QC (i:=3))) ?_);exact au h
def VP(h:CB)(f:AA CI)(d:(AA CD)×Int):AB (CG ((AA CD)×Int) (AA CD)):=(bif d.2<(AI f:Int) then AH (CJ f d.2) λg=>AH ((bif (g.AW==2)then AH (CJ f d.2) λJ=>AH (CJ f d.2) λj=>AH (J0 n h d.1 J.A5.Al j.A5.Ah) λm=>AC m else(bif (g.AW==3)then AH (CJ f d.2) λq=>AH (CJ f d.2) λt=>AH (J0 n h d.1 q.Aa.Al t.Aa.Ah) λx=>AC x else(bif (g.AW==4)then AH (CJ f d.2) λy=>AH (CJ f d.2) λB=>AH (J0 n h d.1 y.Ao.Bt B.Ao.Bg) λE=>AH (CJ f d.2) λF=>AH (CJ f d.2) λG=>AH (J0 n h E F.Ao.Bs G.Ao.Bf) λH=>AC H else AC d.1))):AB (AA CD)) λL=>AC (.k (L,i64.wrap (d.2+1)))else AC (.d d.1))
def ew(n:Nat)(B:AA CI)(f:(AA CD)×Int)(d:(AA CD)×Int):AB (CG ((AA CD)×Int) (AA CD)):=(bif 0<=d.2 then AH (CJ B d.2) λg=>AH (AH (CJ B d.2) λj=>(bif (j.AW==3)then AH (CJ d.1 f.2) λm=>(bif (g.Aa.Al==m.Al)then AH (CJ d.1 f.2) λq=>AC (g.Aa.Ah==q.Ah)else AC AD)else AC AD):AB Bool) λt=>AH ((bif t then AH (CJ d.1 f.2) λh=>AH (JK d.1 f.2 ({Al:=h.Al,Ah:=h.Ah,BI:=g.Aa.BC:CD})) λx=>AC x else AC d.1):AB (AA CD)) λy=>AC (.k (y,i64.wrap (d.2-1)))else AC (.d d.1))
def eX(g:AA CI)(d:(AA CD)×Int):AB (CG ((AA CD)×Int) (AA CD)):=(bif d.2<(AI d.1:Int) then AH (iter (ew n g d) n (d.1,i64.wrap ((AI g:Int)-1)):AB (AA CD)) λf=>AC (.k (f,i64.wrap (d.2+1)))else AC (.d d.1))
def MS(g:CB)(m:AA CI):AB ((AA CD)×Int):=AH (HQ n g) λh=>(bif (h != 0)then AC ([],h)else AH (Km n m) λj=>AH (iter (VP n g j) n (([]:AA CD),0):AB (AA CD)) λd=>(bif 511<(AI d:Int) then AC ([],2)else AH (iter (eX n j) n (d,0):AB (AA CD)) λf=>AC (f,0)))
instance yp(a1:CB)(a2:AA CI):Kq (MS n a1 a2) 73 [.a (CB.c a1),.q 57 (map CI.c a2)] [] (λr=>.t [.o 0 (AI r.1) 3,I r.2]) (λr=>[.r 209 3 (map CD.c r.1)]):=by
 refine Kg 10 func73 Z Z Z Z λr h=>Cz [] h Kc Z λr1 bz h=>Go 10 Z (Cn Z h (λ_ h=>?_) (λ_ h=>?_))
 .refine Gc 9 Z ?_;obtain rfl:=Oi h;refine R2 4 5 Z Z ?_;refine En (Er (s:=4) (k:=3) (t:=209) (XR Z) Z) ?_;exact Lr [1]
 refine Gc 5 Z (Cd [] h Kc Z λr3 ca h=>Fg 5 Z Z (vH (Ek (xs:=[]) (es:=map CD.c []) gL Z Z Z Z Z trivial Z Z) ?_));refine Fg 9 Z Z (Bd h λN bo h=>Ct N [1,2] [7] (λN=>[(8,.o 1 (AI N) 3)]) (λN=>[(1,.r 209 3 (map CD.c N))]) Zf ?_ (λenv H G=>?_))
 .refine G0 1 Z (Lp [0,1,2] [2,7] (λg=>[(8,.o 2 (AI g.1) 3),(9,I g.2)]) (λg=>[(2,.r 209 3 (map CD.c g.1))]) bo Zf (Lr [0,1,2]) λg cb F aw=>?_);refine G0 9 Z (Q8 Z F (λ_ F=>?_) (λ_ F=>?_))
  .exact Gc 2 Z (QH F (Gx 1 Z (DV aw F (Lr [1,2]))))
  refine Gc 8 Z (Bd F λbp ag F=>?_);refine vX (.p 1 (toNat g.2*57)) (Qd ag Z ED EF) ?_;refine Fp S7 Z ?_;refine vX (I bp.AW) (Ez Z EE Z (Qo (f:=3) ag)) ?_;refine Go 9 Z (Bd F λO d F=>Ct O [0,1,0] [2,7,9] (λO=>[(8,.o 2 (AI O) 3)]) (λO=>[(2,.r 209 3 (map CD.c O))]) Zf ?_ (λenv H G=>?_))
  .refine G0 0 Z (Cn Z d (λ_ d=>?_) (λ_ d=>?_))
   .refine DT 14 Z (D 4 Z ?_);obtain⟨bq,ah,d⟩:=QE d;refine DS.v (x:=(.p 1 (toNat g.2*57))) (Qd ah Z ED EF) ?_;refine DS.wo (x:=.p 1 (toNat g.2*57+12)) ?_ ?_
    .exact Fp mE Z Wp
    refine DS.wo (x:=.p 1 (toNat g.2*57+12)) ?_ ?_
    .exact Fp lJ Z Wp
    refine DS.v (x:=(I bq.A5.Al)) (Ez Z EE Z (Qo (f:=12) ah)) ?_;refine D 2 Z ?_;obtain⟨az,Q,d⟩:=QE d;refine DS.v (x:=(.p 1 (toNat g.2*57))) (Qd Q Z ED EF) ?_;refine DS.wo (x:=.p 1 (toNat g.2*57+12)) ?_ ?_
    .exact Fp mE Z Wp
    refine DS.wo (x:=.p 1 (toNat g.2*57+13)) ?_ ?_
    .exact Fp lK Z Wp
    refine DS.v (x:=(I az.A5.Ah)) (Ez Z EE Z (Qo (f:=13) Q)) ?_;exact au d
   refine Gc 6 Z (Cn Z d (λ_ d=>?_) (λ_ d=>?_))
   .refine DT 14 Z (D 4 Z ?_);obtain⟨ba,R,d⟩:=QE d;refine DS.v (x:=(.p 1 (toNat g.2*57))) (Qd R Z ED EF) ?_;refine DS.wo (x:=.p 1 (toNat g.2*57+16)) ?_ ?_
    .exact Fp iK Z Wp
    refine DS.wo (x:=.p 1 (toNat g.2*57+16)) ?_ ?_
    .exact Fp Qoz Z Wp
    refine DS.v (x:=(I ba.Aa.Al)) (Ez Z EE Z (Qo (f:=16) R)) ?_;refine D 2 Z ?_;obtain⟨bb,T,d⟩:=QE d;refine DS.v (x:=(.p 1 (toNat g.2*57))) (Qd T Z ED EF) ?_;refine DS.wo (x:=.p 1 (toNat g.2*57+16)) ?_ ?_
    .exact Fp iK Z Wp
    refine DS.wo (x:=.p 1 (toNat g.2*57+17)) ?_ ?_
    .exact Fp Qoy Z Wp
    refine DS.v (x:=(I bb.Aa.Ah)) (Ez Z EE Z (Qo (f:=17) T)) ?_;exact au d
   refine Gc 6 Z (Cn Z d (λ_ d=>?_) (λ_ d=>?_))
   .refine Gc 1 Z (DT 14 Z (D 4 Z ?_));obtain⟨bc,V,d⟩:=QE d;refine DS.v (x:=(.p 1 (toNat g.2*57))) (Qd V Z ED EF) ?_;refine DS.wo (x:=.p 1 (toNat g.2*57+21)) ?_ ?_
    .exact Fp dt Z Wp
    refine DS.wo (x:=.p 1 (toNat g.2*57+21)) ?_ ?_
    .exact Fp Qox Z Wp
    refine DS.v (x:=(I bc.Ao.Bt)) (Ez Z EE Z (Qo (f:=21) V)) ?_;refine D 2 Z ?_;obtain⟨bd,W,d⟩:=QE d;refine DS.v (x:=(.p 1 (toNat g.2*57))) (Qd W Z ED EF) ?_;refine DS.wo (x:=.p 1 (toNat g.2*57+21)) ?_ ?_
    .exact Fp dt Z Wp
    refine DS.wo (x:=.p 1 (toNat g.2*57+22)) ?_ ?_
    .exact Fp Qow Z Wp
    refine DS.v (x:=(I bd.Ao.Bg)) (Ez Z EE Z (Qo (f:=22) W)) ?_;refine Eg Z (Cd [2] d Kc Z λbs br d=>Fg 3 Z Z (DT 14 Z (D 4 Z ?_)));obtain⟨be,X,d⟩:=QE d;refine DS.v (x:=(.p 1 (toNat g.2*57))) (Qd X Z ED EF) ?_;refine DS.wo (x:=.p 1 (toNat g.2*57+21)) ?_ ?_
    .exact Fp dt Z Wp
    refine DS.wo (x:=.p 1 (toNat g.2*57+24)) ?_ ?_
    .exact Fp Qov Z Wp
    refine DS.v (x:=(I be.Ao.Bs)) (Ez Z EE Z (Qo (f:=24) X)) ?_;refine D 2 Z ?_;obtain⟨bg,Y,d⟩:=QE d;refine DS.v (x:=(.p 1 (toNat g.2*57))) (Qd Y Z ED EF) ?_;refine DS.wo (x:=.p 1 (toNat g.2*57+21)) ?_ ?_
    .exact Fp dt Z Wp
    refine DS.wo (x:=.p 1 (toNat g.2*57+25)) ?_ ?_
    .exact Fp Qou Z Wp
    refine DS.v (x:=(I bg.Ao.Bf)) (Ez Z EE Z (Qo (f:=25) Y)) ?_;exact au d
   exact au d
  exact Gx 3 Z (Ee G (Gc 5 Z (QZ F (Lr [0,1,2]))))
 refine Gx 1 Z (Ee G (Gc 8 Z (Cn Z h (λ_ h=>?_) (λ_ h=>?_))))
 .refine Gc 8 Z ?_;obtain rfl:=Oi h;refine R2 4 5 Z Z ?_;refine En (Er (s:=4) (k:=3) (t:=209) (XR Z) Z) ?_;exact Lr [2]
 refine Gc 8 Z (Bd h λJ bh h=>Cg J [1] [] (λJ=>[(8,.o 0 (AI J) 3)]) (λJ=>[(0,.r 209 3 (map CD.c J))]) Zf ?_ ?_)
 .refine G0 1 Z (Lp [0,1] [7] (λq=>[(8,.o 1 (AI q.1) 3),(10,I q.2)]) (λq=>[(1,.r 209 3 (map CD.c q.1))]) bh Zf (Lr [0,1]) λq bu B al=>?_);refine G0 9 Z (Q8 Z B (λ_ B=>?_) (λ_ B=>?_))
  .exact Gc 2 Z (QH B (Gx 1 Z (DV al B (Lr [1]))))
  refine Gc 12 Z (Bd B λL bi B=>Ct L [0,1] [7,10] (λL=>[(8,.o 1 (AI L) 3)]) (λL=>[(1,.r 209 3 (map CD.c L))]) Zf ?_ (λenv H G=>?_))
  .refine G0 1 Z (Lp [0,1] [7,10] (λE=>[(8,.o 1 (AI E.1) 3),(11,I E.2)]) (λE=>[(1,.r 209 3 (map CD.c E.1))]) bi Zf (Lr [0,1]) λE bv m an=>?_);refine G0 7 Z (Q8 Z m (λ_ m=>?_) (λ_ m=>?_))
   .exact Gc 2 Z (QH m (Gx 1 Z (DV an m (Lr [0,1]))))
   refine Gc 8 Z (Bd m λbj aa m=>?_);refine vX (.p 0 (toNat E.2*57)) (Qd aa Z ED EF) ?_;refine Fp iK Z ?_;refine vX (.a (Aa.c bj.Aa)) (Qs Z isAgg100 GZ Z (Qo (f:=16) aa) Z Z) ?_;refine Go 5 Z (Bd m λP j m=>Ct P [0,1,2] [7,8,10,11,12] (λP=>[(144,.b P)]) Ze Zf ?_ (λenv H G=>?_))
   .refine G0 0 Z (DT 24 Z (D 2 Z ?_));obtain⟨bk,ab,j⟩:=QE j;refine DS.v (x:=(.p 0 (toNat E.2*57))) (Qd ab Z ED EF) ?_;refine DS.wo (x:=.p 0 (toNat E.2*57+3)) ?_ ?_
    .exact Fp S7 Z Wp
    refine DS.v (x:=(I bk.AW)) (Ez Z EE Z (Qo (f:=3) ab)) ?_;refine D 2 Z (DS.is 6 j Z Z Z (λ_ j=>?_) (λ_ j=>?_))
    .refine D 4 Z ?_;obtain⟨bl,ac,j⟩:=QE j;refine DS.v (x:=(.p 1 (toNat q.2*3))) (Qd ac Z ES E6) ?_ (hg:=(gT Z));refine DS.wo (x:=.p 1 (toNat q.2*3)) ?_ ?_
     .exact Ho (gT Z) sQ Z Wp
     refine DS.v (x:=(I bl.Al)) (Ez Z EE Z (Qh ac)) ?_ (hg:=(gT Z));refine D 3 Z (DS.is 16 j Z Z Z (λ_ j=>?_) (λ_ j=>?_))
     .refine D 4 Z ?_;obtain⟨bm,ad,j⟩:=QE j;refine DS.v (x:=(.p 1 (toNat q.2*3))) (Qd ad Z ES E6) ?_ (hg:=(gT Z));refine DS.wo (x:=.p 1 (toNat q.2*3+1)) ?_ ?_
      .exact Ho (gT Z) rW Z Wp
      refine DS.v (x:=(I bm.Ah)) (Ez Z EE Z (Qo (f:=1) ad)) ?_ (hg:=(gT Z));exact au j
     exact au j
    exact au j
   refine Gx 1 Z (Ee G (Bd m λM y m=>Ct M [0,1] [7,10,11] (λM=>[(8,.o 1 (AI M) 3)]) (λM=>[(1,.r 209 3 (map CD.c M))]) Zf ?_ (λenv H G=>?_)))
   .refine G0 0 Z (Cn Z y (λ_ y=>?_) (λ_ y=>?_))
    .refine Gc 5 Z (Bd y λbw ae y=>?_);refine vX (.p 1 (toNat q.2*3)) (Qd ae Z ES E6) ?_;refine Fp Qoo Z (Bd y λbx af y=>?_);refine vU (Yv (e:=CD.c) (k:=3) (f:=2) ae af EC Z Z) ?_;refine FE Z ?_;refine Et (Q5 (s:=8) Z (congrArg (λn=>A.s 1 0 n 3) (Ym af))) ?_;exact au y
    exact au y
   exact Gx 2 Z (Ee G (Gc 5 Z (QZ m (Lr [0,1]))))
  exact Gx 2 Z (Ee G (Gc 5 Z (QZ B (Lr [0,1]))))
 exact au h
def Ts(n:Nat)(f:AA CD)(m:Int)(q:Int)(d:Int):AB (CG Int (CG Unit Int)):=(bif d<(AI f:Int) then AH (AH (CJ f d) λg=>(bif (g.Al==m)then AH (CJ f d) λh=>AC (h.Ah==q)else AC AD):AB Bool) λj=>(bif j then AC (.d (.d (i64.wrap (d+1))))else AC (.k (i64.wrap (d+1))))else AC (.d (.k ())))
def Kv(g:AA CD)(h:Int)(j:Int):AB Int:=AH (iter (Ts n g h j) n 0:AB (CG Unit Int)) λf=>match f with|.k d=>(AC 0)|.d d=>AC d
instance y_(d:AA CD)(f:Int)(g:Int):Ks (Kv n d f g) 126 [.q 3 (map CD.c d),I f,I g] [] (λr=>I r):=KA func126
def Zy(n:Nat)(f:AA CD)(d:Int)(g:Int)(h:Int):AB CD:=(bif (d==0)then AC ({Al:=g,Ah:=h,BI:=0:CD})else AH (CJ f (i64.wrap (d-1))) λj=>AC j)
instance jP(d:AA CD)(f:Int)(g:Int)(h:Int):Kq (Zy n d f g h) 128 [.q 3 (map CD.c d),I f,I g,I h] [] (λr=>.a (CD.c r)) (λr=>[.c 209 (CD.c r)]):=KA func128
def PQ(n:Nat)(g:Int)(f:Int):AB (Int×Int):=AH ((bif g<(-2199023255552) then AC AE else(bif 2199023255552<g then AC AE else(bif f<0 then AC AE else AC (AG (100000<f))))):AB Bool) λj=>(bif j then AC (0,1)else AH ((bif g<0 then AC (i64.wrap (0-g))else AC g):AB Int) λd=>AH ((bif (i64.wrap ((i64.wrap (Int.tdiv (i64.wrap (d*f)) 1000000))*1000000))<(i64.wrap (d*f)) then AC (i64.wrap ((i64.wrap (Int.tdiv (i64.wrap (d*f)) 1000000))+1))else AC (i64.wrap (Int.tdiv (i64.wrap (d*f)) 1000000))):AB Int) λh=>AC (h,0))
instance yN(m:Int)(q:Int):Ks (PQ n m q) 197 [I m,I q] [] (λr=>.t [I r.1,I r.2]):=by
 refine Kg 8 func197 Z Z Z Z λr h=>Bd h λj B h=>Ct j [] [0,1] (λj=>[(20,.b j)]) Ze Zf ?_ (λenv H d=>?_)
 .exact au B
 refine Gx 1 Z (Ee d (Cn Z h (λ_ h=>?_) (λ_ h=>?_)))
 .exact au h
 refine Gc 9 Z (Bd h λf x h=>Ct f [] [1] (λf=>[(0,I f)]) Ze Zf ?_ (λenv H d=>?_))
 .exact au x
 refine Gx 1 Z (Ee d (Gc 5 Z (vV (CT.quo Z Z Z (by decide)) ?_)));refine Go 14 Z (Bd h λg y h=>Cg g [] [] (λg=>[(6,I g)]) Ze Zf ?_ ?_)
 .exact au y
 exact au h
def LE(d:CB)(f:CD)(h:Int):AB CK:=AH (MW n d f.Al) λj=>(bif j then AC ({Lo:=0,Hi:=d.AQ.Am:CK})else AH (PQ n (i64.wrap (h-f.BI)) d.AQ.BF) λg=>AC ({Lo:=i64.wrap (0-g.1),Hi:=i64.wrap (d.AQ.Am+g.1):CK}))
instance kS(d:CB)(f:CD)(g:Int):Kq (LE n d f g) 127 [.a (CB.c d),.a (CD.c f),I g] [] (λr=>.a [I r.Lo,I r.Hi]) (λr=>[.c 83 [I r.Lo,I r.Hi]]):=KA func127
def TS(n:Nat)(g:(AA CD)×Int)(d:(AA Edge)×Int):AB (CG ((AA Edge)×Int) (AA Edge)):=(bif d.2<(AI g.1:Int) then AH (app d.1 [{BA:=0,To:=i64.wrap (d.2+1),W:=1099511627776:Edge},{BA:=i64.wrap (d.2+1),To:=0,W:=1099511627776:Edge}]) λf=>AC (.k (f,i64.wrap (d.2+1)))else AC (.d d.1))
def Td(E:CB)(h:AA CI)(f:(AA CD)×(AA Edge)×Int):AB (CG ((AA CD)×(AA Edge)×Int) ((AA CD)×(AA Edge))):=(bif f.2.2<(AI h:Int) then AH (AH (CJ h f.2.2) λd=>AH (AH (CJ h f.2.2) λm=>(bif (m.AW != 3)then AC AE else AH (J3 n E d.Aa.Al) λq=>AC (!q)):AB Bool) λt=>(bif t then AC f.2.1 else AH (Kv n f.1 d.Aa.Al d.Aa.Ah) λg=>AH (Zy n f.1 g d.Aa.Al d.Aa.Ah) λx=>AH (LE n E x d.Aa.BC) λj=>AH (app f.2.1 [{BA:=0,To:=g,W:=i64.wrap ((i64.wrap ((i64.wrap (d.Aa.True+d.Aa.B7))-d.Aa.BC))-j.Lo):Edge},{BA:=g,To:=0,W:=i64.wrap ((i64.wrap ((i64.wrap (d.Aa.BC+j.Hi))-d.Aa.True))+d.Aa.B7):Edge}]) λy=>AC y):AB (AA Edge)) λB=>AC (.k (f.1,B,i64.wrap (f.2.2+1)))else AC (.d (f.1,f.2.1)))
def Th(x:CB)(m:AA CI)(j:(AA CD)×(AA Edge))(f:(AA Edge)×Int):AB (CG ((AA Edge)×Int) (AA Edge)):=(bif f.2<(AI m:Int) then AH (AH (CJ m f.2) λd=>AH (AH (CJ m f.2) λy=>(bif (y.AW != 4)then AC AE else AH (J3 n x d.Ao.Bt) λB=>(bif (!B)then AC AE else AH (J3 n x d.Ao.Bs) λE=>AC (!E))):AB Bool) λF=>(bif F then AC f.1 else AH (Kv n j.1 d.Ao.Bt d.Ao.Bg) λg=>AH (Kv n j.1 d.Ao.Bs d.Ao.Bf) λh=>AH (Zy n j.1 g d.Ao.Bt d.Ao.Bg) λG=>AH (LE n x G d.Ao.Bc) λq=>AH (Zy n j.1 h d.Ao.Bs d.Ao.Bf) λH=>AH (LE n x H d.Ao.Bb) λt=>AH (app f.1 [{BA:=g,To:=h,W:=i64.wrap ((i64.wrap ((i64.wrap ((i64.wrap (d.Ao.Br-d.Ao.Bb))-t.Lo))+d.Ao.Bc))+q.Hi):Edge},{BA:=h,To:=g,W:=i64.wrap ((i64.wrap ((i64.wrap ((i64.wrap (d.Ao.Bb+t.Hi))-d.Ao.Bc))-q.Lo))-d.Ao.Bn):Edge}]) λJ=>AC J):AB (AA Edge)) λL=>AC (.k (L,i64.wrap (f.2+1)))else AC (.d f.1))
def OM(j:CB)(m:AA CI):AB (Int×(AA Edge)×Int):=AH (MS n j m) λd=>(bif (d.2 != 0)then AC (0,[],d.2)else AH (iter (TS n d) n ([],0):AB (AA Edge)) λq=>AH (Km n m) λg=>AH (iter (Td n j g) n (d.1,q,0):AB ((AA CD)×(AA Edge))) λh=>AH (iter (Th n j g h) n (h.2,0):AB (AA Edge)) λf=>(bif 8192<(AI f:Int) then AC (0,[],2)else AC (i64.wrap ((AI d.1:Int)+1),f,0)))
instance xJ(J:CB)(a2:AA CI):Kq (OM n J a2) 71 [.a (CB.c J),.q 57 (map CI.c a2)] [] (λr=>.t [.a [I r.1,.q 3 (map Edge.c r.2.1)],I r.2.2]) (λr=>[.c 176 [I r.1,.q 3 (map Edge.c r.2.1)]]):=by
 refine Kg 11 func71 Z Z Z Z λr h=>Cd [] h Kc Z λF bx h=>Fg 14 Z Z (Cn Z h (λ_ h=>?_) (λ_ h=>?_))
 .exact au h
 refine Gc 7 Z ?_;refine vX (.a [I (i64.wrap ((AI F.1:Int)+1)),.n]) (CT.build (zs:=[I 0,.n]) zeroValue176 (Fr Z) _T) ?_;refine vH (eK (v:=(.a [I 0,.n])) zeroValue176 (Fr Z)) ?_;refine Fg 9 Z Z (Bd h λb8 h9 h=>Ct b8 [0,1,2,3,0] [1,2,4,6,8] Ze (λb8=>[(3,.c 176 [I (i64.wrap ((AI F.1:Int)+1)),.o 4 (AI b8) 3]),(4,.r 260 3 (map Edge.c b8))]) Zf ?_ (λenv H X=>?_))
 .refine G0 1 Z (Lp [0,1,2,3,0] [1,2,4,6,8] (λY=>[(9,I Y.2)]) (λY=>[(3,.c 176 [I (i64.wrap ((AI F.1:Int)+1)),.o 4 (AI Y.1) 3]),(4,.r 260 3 (map Edge.c Y.1))]) h9 Zf ?_ ?_)
  .refine En (Yb (i:=3) (m:=1) (t:=260) (k:=3) Z Z Z) ?_;exact Lr [0,1,2,3,4]
  intro Y bz R be;refine G0 9 Z (Q8 Z R (λ_ R=>?_) (λ_ R=>?_))
  .exact Gc 2 Z (QH R (Gx 1 Z (DV be R (Lr [0,1,2,3,4]))))
  refine Gc 13 Z (vH (Ek (xs:=[.tmp 45,.tmp 48]) (es:=map Edge.c [{BA:=0,To:=i64.wrap (Y.2+1),W:=1099511627776:Edge},{BA:=i64.wrap (Y.2+1),To:=0,W:=1099511627776:Edge}]) Zc Z Z Z Z Z ⟨Z,Z,trivial⟩ Z Z) ?_);refine FE Z (Bd R λca bh R=>vH (Qj (e:=Edge.c) bh Zc GC (QC (i:=5))) ?_);exact au R
 refine Gx 1 Z (Ee X (Gc 3 Z (Cd [] h Kc Z λx bs h=>Fg 9 Z Z (Bd h λT bo h=>Ct T [0,1,2,3,4] [2,4] (λT=>[(6,.q 3 (map CD.c T.1)),(8,.p 2 0),(10,.o 4 (AI x) 57)]) (λT=>[(2,.c 176 [I (i64.wrap ((AI F.1:Int)+1)),.o 3 (AI T.2) 3]),(3,.r 260 3 (map Edge.c T.2)),(4,.r 120 57 (map CI.c x))]) Zf ?_ (λenv H X=>?_)))))
 .refine G0 1 Z (Lp [0,1,3,4,5] [2,4,8,10] (λy=>[(6,.q 3 (map CD.c y.1)),(11,I y.2.2)]) (λy=>[(2,.c 176 [I (i64.wrap ((AI F.1:Int)+1)),.o 3 (AI y.2.1) 3]),(3,.r 260 3 (map Edge.c y.2.1))]) bo Zf ?_ ?_)
  .refine En (Yk [(6,_)] Z Z (Cy.cons Z Ep Cy.nil) (Ec (Ec (Ec (QU _))))) ?_;exact Lr [0,1,3,4,5]
  intro y cb V bi;refine G0 9 Z (Q8 Z V (λ_ V=>?_) (λ_ V=>?_))
  .exact Gc 2 Z (QH V (Gx 1 Z (DV bi V (Lr [0,1,2,3,4]))))
  refine Gc 3 Z (Bd V λaa B V=>Ct aa [0,1,2,3,4] [2,4,6,8,10,11] Ze (λaa=>[(2,.c 176 [I (i64.wrap ((AI F.1:Int)+1)),.o 3 (AI aa) 3]),(3,.r 260 3 (map Edge.c aa))]) Zf ?_ (λenv H X=>?_))
  .refine G0 5 Z (Bd B λE aj B=>?_);refine vX (.p 4 (toNat y.2.2*57)) (Qd aj Z ED EF) ?_;refine Fp iK Z ?_;refine vX (.a (Aa.c E.Aa)) (Qs Z isAgg100 GZ Z (Qo (f:=16) aj) Z Z) ?_;refine Go 6 Z (Bd B λac ad B=>Ct ac [0,1,2,3,4,5] [2,4,6,8,10,11,12] (λac=>[(77,.b ac)]) Ze Zf ?_ (λenv H X=>?_))
   .refine G0 3 Z (Bd ad λbk ak ad=>?_);refine vX (.p 4 (toNat y.2.2*57)) (Qd ak Z ED EF) ?_;refine Fp S7 Z ?_;refine vX (I bk.AW) (Ez Z EE Z (Qo (f:=3) ak)) ?_;exact au ad
   refine Gx 1 Z (Ee X (Cn Z B (λ_ B=>?_) (λ_ B=>?_)))
   .exact au B
   refine Gc 9 Z (Cz [] B Kc Z λae bp B=>Go 4 Z ?_);obtain⟨P,al,B⟩:=QE B;obtain⟨L,am,B⟩:=QE B;refine Yu 12 1 [84,85,86,87,88,89,90,91,92,93,94,14] [AD,AD,AD,AD,AD,AD,AD,AE,AD,AD,AE,AE] [[],[],[],[],[],[],[],[],[],[],[7],[]] [[],[7],[11],[7,10],[7,11],[7,10,11]] [[(0,0),(1,1),(2,2),(4,4)],[(0,0),(2,2)],[(0,0),(2,2)],[(0,0),(2,2)],[(0,0),(2,2)],[(0,0),(2,2)],[(0,0),(2,2)],[(0,1),(2,4)],[(0,0),(1,1),(2,2),(4,4)],[(0,0),(1,1),(2,2),(4,4)],[(1,3),(4,5)],[(0,2),(1,4),(3,5)]] [.a (CB.c J),.q 3 (map CD.c y.1),I ae,.p 5 0,I E.Aa.Al,.p 5 1,I E.Aa.Ah,.a (CD.c P),.p 5 2,I E.Aa.BC,.a [I L.Lo,I L.Hi],.p 6 0] [[.c 33 (CB.c J),.c 176 [I 0,.q 3 (map Edge.c [])],.c 176 [I (i64.wrap ((AI F.1:Int)+1)),.o 3 (AI y.2.1) 3],.r 260 3 (map Edge.c y.2.1),.r 120 57 (map CI.c x),.c 100 (Aa.c E.Aa),.dead],[.c 33 (CB.c J),.c 176 [I 0,.q 3 (map Edge.c [])],.c 176 [I (i64.wrap ((AI F.1:Int)+1)),.o 3 (AI y.2.1) 3],.r 260 3 (map Edge.c y.2.1),.r 120 57 (map CI.c x),.c 100 (Aa.c E.Aa),.dead,.c 209 (CD.c P)],[.c 33 (CB.c J),.c 176 [I 0,.q 3 (map Edge.c [])],.c 176 [I (i64.wrap ((AI F.1:Int)+1)),.o 3 (AI y.2.1) 3],.r 260 3 (map Edge.c y.2.1),.r 120 57 (map CI.c x),.c 100 (Aa.c E.Aa),.c 83 [I 0,I 0]],[.c 33 (CB.c J),.c 176 [I 0,.q 3 (map Edge.c [])],.c 176 [I (i64.wrap ((AI F.1:Int)+1)),.o 3 (AI y.2.1) 3],.r 260 3 (map Edge.c y.2.1),.r 120 57 (map CI.c x),.c 100 (Aa.c E.Aa),.dead,.c 209 (CD.c P),.c 83 [I L.Lo,I L.Hi]],[.c 33 (CB.c J),.c 176 [I 0,.q 3 (map Edge.c [])],.c 176 [I (i64.wrap ((AI F.1:Int)+1)),.o 3 (AI y.2.1) 3],.r 260 3 (map Edge.c y.2.1),.r 120 57 (map CI.c x),.c 100 (Aa.c E.Aa),.c 83 [I 0,I 0],.c 209 (CD.c P)],[.c 33 (CB.c J),.c 176 [I 0,.q 3 (map Edge.c [])],.c 176 [I (i64.wrap ((AI F.1:Int)+1)),.o 3 (AI y.2.1) 3],.r 260 3 (map Edge.c y.2.1),.r 120 57 (map CI.c x),.c 100 (Aa.c E.Aa),.c 83 [I 0,I 0],.c 209 (CD.c P),.c 83 [I L.Lo,I L.Hi]]] ([.c 33 (CB.c J),.c 176 [I 0,.q 3 (map Edge.c [])],.c 176 [I (i64.wrap ((AI F.1:Int)+1)),.o 3 (AI y.2.1) 3],.r 260 3 (map Edge.c y.2.1),.r 120 57 (map CI.c x),.c 100 (Aa.c E.Aa),.c 83 [I 0,I 0],.c 209 (CD.c P),.c 83 [I L.Lo,I L.Hi]]) DD Z Z Z Z Z Z Z ?_ Z ?_
   .refine M1 (M1 (M1 (M1 (M1 (M1 (M1 (Cq.cons ?_ (M1 (M1 (Cq.cons ?_ (Cq.cons ?_ (Cq.nil))))))))))))
    .refine Qb ?_ (Qb ?_ (Qf))
     iterate 2 refine F4 Z (sD 1 (sD 2 (sD 4 (sD 6 sN)))) ?_;refine Qg [] (C7.fn call128 Z Z Z) ((jP _ _ _ _ _).c _ al) ?_;rintro _ _ ⟨rfl,rfl⟩;exact FE Z Wp
    .refine Qb ?_ (Qb ?_ (Qf))
     iterate 2 refine F4 Z (sD 0 (sD 7 (sD 9 sN))) ?_;refine Qg [] (C7.fn call127 Z Z Z) ((kS _ _ _ _).c _ am) ?_;rintro _ _ ⟨rfl,rfl⟩;exact FE Z Wp
    .refine Qb ?_ (Qb ?_ (Qb ?_ (Qf)))
     iterate 3 exact Jl.alloc _ 14 83 6 _ Z Z Z Z Z Z Z (I8.alloc (v:=(.a [I 0,I 0])) EI (Fr Z)) Z
   refine Go 32 Z (vH (Ek (xs:=[.tmp 109,.tmp 122]) (es:=map Edge.c [{BA:=0,To:=ae,W:=i64.wrap ((i64.wrap ((i64.wrap (E.Aa.True+E.Aa.B7))-E.Aa.BC))-L.Lo):Edge},{BA:=ae,To:=0,W:=i64.wrap ((i64.wrap ((i64.wrap (E.Aa.BC+L.Hi))-E.Aa.True))+E.Aa.B7):Edge}]) Zc Z Z Z Z Z ⟨Z,Z,trivial⟩ Z Z) ?_);refine FE Z (Bd B λbu ay B=>vH (Qj (e:=Edge.c) ay Zc GC (QC (i:=9))) ?_);exact au B
  exact Gx 1 Z (Ee X (Gc 5 Z (QZ V (Lr [0,1,2,3,4]))))
 refine Gx 1 Z (Ee X (Gc 6 Z (Bd h λO bl h=>Cg O [1,2,3] [4,8] Ze (λO=>[(1,.c 176 [I (i64.wrap ((AI F.1:Int)+1)),.o 2 (AI O) 3]),(2,.r 260 3 (map Edge.c O))]) Zf ?_ ?_)))
 .refine G0 1 Z (Lp [0,1,2,3,4] [2,4,6,8,10] (λg=>[(15,I g.2)]) (λg=>[(2,.c 176 [I (i64.wrap ((AI F.1:Int)+1)),.o 3 (AI g.1) 3]),(3,.r 260 3 (map Edge.c g.1))]) bl Zf (Lr [0,1,2,3,4]) λg bv N az=>?_);refine G0 9 Z (Q8 Z N (λ_ N=>?_) (λ_ N=>?_))
  .exact Gc 2 Z (QH N (Gx 1 Z (DV az N (Lr [1,2,3]))))
  refine Gc 3 Z (Bd N λab q N=>Cg ab [0,1,2,3,4] [2,4,6,8,10,15] Ze (λab=>[(2,.c 176 [I (i64.wrap ((AI F.1:Int)+1)),.o 3 (AI ab) 3]),(3,.r 260 3 (map Edge.c ab))]) Zf ?_ ?_)
  .refine G0 5 Z (Bd q λj an q=>?_);refine vX (.p 4 (toNat g.2*57)) (Qd an Z ED EF) ?_;refine Fp dt Z ?_;refine vX (.a (Ao.c j.Ao)) (Qs Z isAgg102 sizeOf102 Z (Qo (f:=21) an) Z Z) ?_;refine Go 6 Z (Bd q λaf ag q=>Cg af [0,1,2,3,4,5] [2,4,6,8,10,15,16] (λaf=>[(156,.b af)]) Ze Zf ?_ ?_)
   .refine G0 3 Z (Bd ag λbm ao ag=>?_);refine vX (.p 4 (toNat g.2*57)) (Qd ao Z ED EF) ?_;refine Fp S7 Z ?_;refine vX (I bm.AW) (Ez Z EE Z (Qo (f:=3) ao)) ?_;exact au ag
   refine Cn Z q (λ_ q=>?_) (λ_ q=>?_)
   .exact au q
   refine Gc 9 Z (Cz [] q Kc Z λah bq q=>Go 10 Z (Cz [] q Kc Z λai br q=>Go 4 Z ?_));obtain⟨G,aq,q⟩:=QE q;obtain⟨d,ar,q⟩:=QE q;refine Yu 12 1 [169,170,171,172,173,174,175,176,177,178,179,19] [AD,AD,AD,AD,AD,AD,AD,AE,AD,AD,AE,AE] [[],[],[],[],[],[],[],[],[],[],[7],[]] [[],[7],[11],[7,10],[7,11],[7,10,11]] [[(0,0),(1,1),(2,2),(4,4)],[(0,0),(2,2)],[(0,0),(2,2)],[(0,0),(2,2)],[(0,0),(2,2)],[(0,0),(2,2)],[(0,0),(2,2)],[(0,1),(2,4)],[(0,0),(1,1),(2,2),(4,4)],[(0,0),(1,1),(2,2),(4,4)],[(1,3),(4,5)],[(0,2),(1,4),(3,5)]] [.a (CB.c J),.q 3 (map CD.c T.1),I ah,.p 5 0,I j.Ao.Bt,.p 5 1,I j.Ao.Bg,.a (CD.c G),.p 5 2,I j.Ao.Bc,.a [I d.Lo,I d.Hi],.p 6 0] [[.c 33 (CB.c J),.c 176 [I 0,.q 3 (map Edge.c [])],.c 176 [I (i64.wrap ((AI F.1:Int)+1)),.o 3 (AI g.1) 3],.r 260 3 (map Edge.c g.1),.r 120 57 (map CI.c x),.c 102 (Ao.c j.Ao),.dead],[.c 33 (CB.c J),.c 176 [I 0,.q 3 (map Edge.c [])],.c 176 [I (i64.wrap ((AI F.1:Int)+1)),.o 3 (AI g.1) 3],.r 260 3 (map Edge.c g.1),.r 120 57 (map CI.c x),.c 102 (Ao.c j.Ao),.dead,.c 209 (CD.c G)],[.c 33 (CB.c J),.c 176 [I 0,.q 3 (map Edge.c [])],.c 176 [I (i64.wrap ((AI F.1:Int)+1)),.o 3 (AI g.1) 3],.r 260 3 (map Edge.c g.1),.r 120 57 (map CI.c x),.c 102 (Ao.c j.Ao),.c 83 [I 0,I 0]],[.c 33 (CB.c J),.c 176 [I 0,.q 3 (map Edge.c [])],.c 176 [I (i64.wrap ((AI F.1:Int)+1)),.o 3 (AI g.1) 3],.r 260 3 (map Edge.c g.1),.r 120 57 (map CI.c x),.c 102 (Ao.c j.Ao),.dead,.c 209 (CD.c G),.c 83 [I d.Lo,I d.Hi]],[.c 33 (CB.c J),.c 176 [I 0,.q 3 (map Edge.c [])],.c 176 [I (i64.wrap ((AI F.1:Int)+1)),.o 3 (AI g.1) 3],.r 260 3 (map Edge.c g.1),.r 120 57 (map CI.c x),.c 102 (Ao.c j.Ao),.c 83 [I 0,I 0],.c 209 (CD.c G)],[.c 33 (CB.c J),.c 176 [I 0,.q 3 (map Edge.c [])],.c 176 [I (i64.wrap ((AI F.1:Int)+1)),.o 3 (AI g.1) 3],.r 260 3 (map Edge.c g.1),.r 120 57 (map CI.c x),.c 102 (Ao.c j.Ao),.c 83 [I 0,I 0],.c 209 (CD.c G),.c 83 [I d.Lo,I d.Hi]]] ([.c 33 (CB.c J),.c 176 [I 0,.q 3 (map Edge.c [])],.c 176 [I (i64.wrap ((AI F.1:Int)+1)),.o 3 (AI g.1) 3],.r 260 3 (map Edge.c g.1),.r 120 57 (map CI.c x),.c 102 (Ao.c j.Ao),.c 83 [I 0,I 0],.c 209 (CD.c G),.c 83 [I d.Lo,I d.Hi]]) DD Z Z Z Z Z Z Z ?_ Z ?_
   .refine M1 (M1 (M1 (M1 (M1 (M1 (M1 (Cq.cons ?_ (M1 (M1 (Cq.cons ?_ (Cq.cons ?_ (Cq.nil))))))))))))
    .refine Qb ?_ (Qb ?_ (Qf))
     iterate 2 refine F4 Z (sD 1 (sD 2 (sD 4 (sD 6 sN)))) ?_;refine Qg [] (C7.fn call128 Z Z Z) ((jP _ _ _ _ _).c _ aq) ?_;rintro _ _ ⟨rfl,rfl⟩;exact FE Z Wp
    .refine Qb ?_ (Qb ?_ (Qf))
     iterate 2 refine F4 Z (sD 0 (sD 7 (sD 9 sN))) ?_;refine Qg [] (C7.fn call127 Z Z Z) ((kS _ _ _ _).c _ ar) ?_;rintro _ _ ⟨rfl,rfl⟩;exact FE Z Wp
    .refine Qb ?_ (Qb ?_ (Qb ?_ (Qf)))
     iterate 3 exact Jl.alloc _ 19 83 6 _ Z Z Z Z Z Z Z (I8.alloc (v:=(.a [I 0,I 0])) EI (Fr Z)) Z
   refine Go 4 Z ?_;obtain⟨Q,av,q⟩:=QE q;obtain⟨M,aw,q⟩:=QE q;refine Yu 12 1 [180,181,182,183,184,185,186,187,188,189,190,20] [AD,AD,AD,AD,AD,AD,AD,AE,AD,AD,AE,AE] [[],[],[],[],[],[],[],[],[],[],[7],[]] [[],[7],[11],[7,10],[7,11],[7,10,11]] [[(0,0),(1,1),(2,2),(4,4)],[(0,0),(2,2)],[(0,0),(2,2)],[(0,0),(2,2)],[(0,0),(2,2)],[(0,0),(2,2)],[(0,0),(2,2)],[(0,1),(2,4)],[(0,0),(1,1),(2,2),(4,4)],[(0,0),(1,1),(2,2),(4,4)],[(1,3),(4,5)],[(0,2),(1,4),(3,5)]] [.a (CB.c J),.q 3 (map CD.c T.1),I ai,.p 5 3,I j.Ao.Bs,.p 5 4,I j.Ao.Bf,.a (CD.c Q),.p 5 5,I j.Ao.Bb,.a [I M.Lo,I M.Hi],.p 9 0] [[.c 33 (CB.c J),.c 176 [I 0,.q 3 (map Edge.c [])],.c 176 [I (i64.wrap ((AI F.1:Int)+1)),.o 3 (AI g.1) 3],.r 260 3 (map Edge.c g.1),.r 120 57 (map CI.c x),.c 102 (Ao.c j.Ao),.c 83 [I d.Lo,I d.Hi],.c 209 (CD.c G),.c 83 [I d.Lo,I d.Hi],.dead],[.c 33 (CB.c J),.c 176 [I 0,.q 3 (map Edge.c [])],.c 176 [I (i64.wrap ((AI F.1:Int)+1)),.o 3 (AI g.1) 3],.r 260 3 (map Edge.c g.1),.r 120 57 (map CI.c x),.c 102 (Ao.c j.Ao),.c 83 [I d.Lo,I d.Hi],.c 209 (CD.c G),.c 83 [I d.Lo,I d.Hi],.dead,.c 209 (CD.c Q)],[.c 33 (CB.c J),.c 176 [I 0,.q 3 (map Edge.c [])],.c 176 [I (i64.wrap ((AI F.1:Int)+1)),.o 3 (AI g.1) 3],.r 260 3 (map Edge.c g.1),.r 120 57 (map CI.c x),.c 102 (Ao.c j.Ao),.c 83 [I d.Lo,I d.Hi],.c 209 (CD.c G),.c 83 [I d.Lo,I d.Hi],.c 83 [I 0,I 0]],[.c 33 (CB.c J),.c 176 [I 0,.q 3 (map Edge.c [])],.c 176 [I (i64.wrap ((AI F.1:Int)+1)),.o 3 (AI g.1) 3],.r 260 3 (map Edge.c g.1),.r 120 57 (map CI.c x),.c 102 (Ao.c j.Ao),.c 83 [I d.Lo,I d.Hi],.c 209 (CD.c G),.c 83 [I d.Lo,I d.Hi],.dead,.c 209 (CD.c Q),.c 83 [I M.Lo,I M.Hi]],[.c 33 (CB.c J),.c 176 [I 0,.q 3 (map Edge.c [])],.c 176 [I (i64.wrap ((AI F.1:Int)+1)),.o 3 (AI g.1) 3],.r 260 3 (map Edge.c g.1),.r 120 57 (map CI.c x),.c 102 (Ao.c j.Ao),.c 83 [I d.Lo,I d.Hi],.c 209 (CD.c G),.c 83 [I d.Lo,I d.Hi],.c 83 [I 0,I 0],.c 209 (CD.c Q)],[.c 33 (CB.c J),.c 176 [I 0,.q 3 (map Edge.c [])],.c 176 [I (i64.wrap ((AI F.1:Int)+1)),.o 3 (AI g.1) 3],.r 260 3 (map Edge.c g.1),.r 120 57 (map CI.c x),.c 102 (Ao.c j.Ao),.c 83 [I d.Lo,I d.Hi],.c 209 (CD.c G),.c 83 [I d.Lo,I d.Hi],.c 83 [I 0,I 0],.c 209 (CD.c Q),.c 83 [I M.Lo,I M.Hi]]] ([.c 33 (CB.c J),.c 176 [I 0,.q 3 (map Edge.c [])],.c 176 [I (i64.wrap ((AI F.1:Int)+1)),.o 3 (AI g.1) 3],.r 260 3 (map Edge.c g.1),.r 120 57 (map CI.c x),.c 102 (Ao.c j.Ao),.c 83 [I d.Lo,I d.Hi],.c 209 (CD.c G),.c 83 [I d.Lo,I d.Hi],.c 83 [I 0,I 0],.c 209 (CD.c Q),.c 83 [I M.Lo,I M.Hi]]) DD Z Z Z Z Z Z Z ?_ Z ?_
   .refine M1 (M1 (M1 (M1 (M1 (M1 (M1 (Cq.cons ?_ (M1 (M1 (Cq.cons ?_ (Cq.cons ?_ (Cq.nil))))))))))))
    .refine Qb ?_ (Qb ?_ (Qf))
     iterate 2 refine F4 Z (sD 1 (sD 2 (sD 4 (sD 6 sN)))) ?_;refine Qg [] (C7.fn call128 Z Z Z) ((jP _ _ _ _ _).c _ av) ?_;rintro _ _ ⟨rfl,rfl⟩;exact FE Z Wp
    .refine Qb ?_ (Qb ?_ (Qf))
     iterate 2 refine F4 Z (sD 0 (sD 7 (sD 9 sN))) ?_;refine Qg [] (C7.fn call127 Z Z Z) ((kS _ _ _ _).c _ aw) ?_;rintro _ _ ⟨rfl,rfl⟩;exact FE Z Wp
    .refine Qb ?_ (Qb ?_ (Qb ?_ (Qf)))
     iterate 3 exact Jl.alloc _ 20 83 9 _ Z Z Z Z Z Z Z (I8.alloc (v:=(.a [I 0,I 0])) EI (Fr Z)) Z
   refine Go 40 Z (vH (Ek (xs:=[.tmp 209,.tmp 226]) (es:=map Edge.c [{BA:=ah,To:=ai,W:=i64.wrap ((i64.wrap ((i64.wrap ((i64.wrap (j.Ao.Br-j.Ao.Bb))-M.Lo))+j.Ao.Bc))+d.Hi):Edge},{BA:=ai,To:=ah,W:=i64.wrap ((i64.wrap ((i64.wrap ((i64.wrap (j.Ao.Bb+M.Hi))-j.Ao.Bc))-d.Lo))-j.Ao.Bn):Edge}]) Zc Z Z Z Z Z ⟨Z,Z,trivial⟩ Z Z) ?_);refine FE Z (Bd q λbw bc q=>vH (Qj (e:=Edge.c) bc Zc GC (QC (i:=12))) ?_);exact au q
  exact au N
 refine Gc 9 Z (Cn Z h (λ_ h=>?_) (λ_ h=>?_))
 .exact au h
 refine Gc 10 Z ?_;obtain rfl:=Oi h;refine⟨[(4,.p 0 0),(5,I ((i64.wrap ((AI F.1:Int)+1),O,0).2.2))],[.c 176 [I ((i64.wrap ((AI F.1:Int)+1),O,0).1),.q 3 (map Edge.c ((i64.wrap ((AI F.1:Int)+1),O,0).2.1))]],_,?_,QK Z Z (C6.cons (Yh isAgg176 sizeOf176 Z Z Z) (C6.cons Dw.tmp C6.nil)),Z,Z⟩;refine En (Yk (i:=2) [] Z Z Cy.nil (Do.cells (CY.k (Ed Ep (Ej _))) (Do.cells (CY.k (Ed Ep (Ej _))) (Ec (QU _))))) ?_;exact Lr [0]
def TY(n:Nat)(g:Co)(f:Int):AB (CG Int (CG Unit Int)):=(bif f<(AI g.Bo:Int) then AH (CJ g.Bo f) λd=>AH ((bif d.BA<0 then AC AE else(bif g.Ax<=d.BA then AC AE else(bif d.To<0 then AC AE else(bif g.Ax<=d.To then AC AE else(bif d.W<(-35184372088832) then AC AE else AC (AG (35184372088832<d.W))))))):AB Bool) λh=>(bif h then AC (.d (.d 150))else AC (.k (i64.wrap (f+1))))else AC (.d (.k ())))
def PS(f:Co):AB Int:=AH ((bif f.Ax<1 then AC AE else(bif 512<f.Ax then AC AE else AC (AG (8192<(AI f.Bo:Int))))):AB Bool) λh=>(bif h then AC 150 else AH (iter (TY n f) n 0:AB (CG Unit Int)) λg=>match g with|.k d=>(AC 0)|.d d=>AC d)
instance yP(d:Co):Ks (PS n d) 129 [.a (Co.c d)] [] (λr=>I r):=KA func129
def chk(b:Bool):AB Unit:=bif b then AC ()else AF
def N7(n:Nat)(v:Int)(s:(AA Int)×Int):AB (CG ((AA Int)×Int) (AA Int)):=(bif s.2<v then AH (CJ s.1 s.2) λx=>AH (JK s.1 s.2 1152921504606846976) λl=>AC (.k (l,i64.wrap (s.2+1)))else AC (.d s.1))
def N_(v:Int)(s:(AA (AA Int))×Int):AB (CG ((AA (AA Int))×Int) (AA (AA Int))):=(bif s.2<v then AH (chk (s.2==(AI s.1:Int))) λu=>AH (mk v 0) λf=>AH (iter (N7 n v) n (f,0)) λd=>AH (CJ d s.2) λx=>AH (JK d s.2 0) λg=>AC (.k (s.1++[g],i64.wrap (s.2+1)))else AC (.d s.1))
def N4(n:Nat)(E:AA Edge)(s:(AA (AA Int))×Int):AB (CG ((AA (AA Int))×Int) (AA (AA Int))):=(bif s.2<(AI E:Int) then AH (CJ E s.2) λx=>AH (CJ s.1 x.BA) λr=>AH (CJ r x.To) λy=>AH (JK r x.To (if x.W<y then x.W else y)) λr'=>AC (.k (s.1.set x.BA.toNat r',i64.wrap (s.2+1)))else AC (.d s.1))
def U3(m i k:Int)(T:AA (AA Int)):AB (AA (AA Int)):=AH (CJ T i) λr=>AH (CJ r m) λa=>(bif (a != 1152921504606846976)then AH (CJ T m) λq=>AH (CJ q k) λb=>(bif (b != 1152921504606846976)then AH (CJ r k) λy=>AH (JK r k (if i64.wrap (a+b)<y then i64.wrap (a+b)else y)) λr'=>AC (T.set i.toNat r')else AC T)else AC T)
def N'(n:Nat)(v m i:Int)(s:(AA (AA Int))×Int):AB (CG ((AA (AA Int))×Int) (AA (AA Int))):=(bif s.2<v then AH (U3 m i s.2 s.1) λt=>AC (.k (t,i64.wrap (s.2+1)))else AC (.d s.1))
def OE(v m:Int)(s:(AA (AA Int))×Int):AB (CG ((AA (AA Int))×Int) (AA (AA Int))):=(bif s.2<v then AH (iter (N' n v m s.2) n (s.1,0)) λt=>AC (.k (t,i64.wrap (s.2+1)))else AC (.d s.1))
def OG(n:Nat)(v:Int)(T:AA (AA Int))(s:Int):AB (CG Int (CG Unit Unit)):=(bif s<v then AH (CJ T s) λr=>AH (CJ r s) λa=>(bif a<0 then AC (.d (.d ()))else AC (.k (i64.wrap (s+1))))else AC (.d (.k ())))
def VQ(v:Int)(s:(AA (AA Int))×Int):AB (CG ((AA (AA Int))×Int) (CG (AA (AA Int)) Unit)):=(bif s.2<v then AH (iter (OE n v s.2) n (s.1,0)) λt=>AH (iter (OG n v t) n 0) λd=>match d with|.k _=>AC (.k (t,i64.wrap (s.2+1)))|.d _=>AC (.d (.d ()))else AC (.d (.k s.1)))
def Ps(f:Co):AB ((AA (AA Int))×Bool):=AH (mk f.Ax ()) λz=>AH (iter (N_ n f.Ax) n ([],0)) λt0=>AH (chk (AI t0==f.Ax.toNat)) λu=>AH (iter (N4 n f.Bo) n (t0,0)) λt1=>AH (iter (VQ n f.Ax) n (t1,0)) λd=>match d with|.k t=>AC (t,AE)|.d _=>AC ([],AD)
theorem pV{b:Bool}{u:Unit}(h:chk b=AC u):b=true:=by
  cases b with
  |true=>rfl
  |false=>cases h
theorem jf(g:Co)(r:(AA (AA Int))×Bool)(h:Ps n g=AC r):nu prog 130 [.a (Co.c g)] [] (λr=>.t [.q 1 (map (Qu 1 eI) r.1),.b r.2]) r:=by
 refine iL func130 Z Z Z ?_;refine G0 17 Z (Bd h λz hz h=>?_);obtain⟨z0,F,O⟩:=ox hz;have E:AI z=g.Ax.toNat:=by rw[<- O];simp
 refine vH (Qq4 (e:=λ_=>[A.nils]) (zv:=()) (a:=.n) hz og zeroValue73 ZR.nils Z Z Z Z) ?_;refine Bd h λt0 ht0 h=>Go 10 Z ?_;refine TC.loop (λs:(AA (AA Int))×Int=>[(1,.p 0 0),(4,I g.Ax),(5,.o 1 g.Ax.toNat 1),(6,I s.2)]) (λs=>[.c 176 (Co.c g),.R 73 1 (HO 2 s.1 (g.Ax.toNat-(AI s.1)))]++Q2 3 s.1) ht0 ?_ (λs d hs hb=>?_)
 · refine En (Js ?_) (Y4 ⟨Z,Z,?_,Z,trivial⟩)
   · rw[<- O]
     simp[Qng,Q2,Co.c]
   · exact congrArg (λm=>A.s 1 0 m 1) E
 refine G0 8 Z (Q8 Z hs (λhc hs=>?_) (λhc hs=>?_))
 · refine Gc 2 Z ?_
   refine QH hs ?_;obtain rfl:=Oj hb hs;refine Bd h λu hu h=>?_;have hn:AI s.1=g.Ax.toNat:=by simpa using pV hu
   refine Bd h λt1 ht1 h=>Gx 9 Z ?_;refine TC.loop (λq:(AA (AA Int))×Int=>[(1,.p 0 0),(4,I g.Ax),(5,.o 1 (AI q.1) 1),(8,I q.2)]) (λq=>[.c 176 (Co.c g),.R 73 1 (YL 2 q.1)]++Q2 3 q.1) ht1 ?_ (λs d hs hb=>?_)
   · refine En (Js (H':=[CV.cells 176 (Co.c g),.R 73 1 (YL 2 s.1)]++Q2 3 s.1) ?_) ?_
     · rw[hn,Nat.sub_self];simp[HO]
     · exact Y4 ⟨Z,Z,congrArg (λm=>A.s 1 0 m 1) hn.symm,Z,trivial⟩
   clear E O hn;refine G0 6 Z (Lg 3 Z Z (Q8 Z hs (λhc hs=>?_) (λhc hs=>?_)))
   · refine Gc 2 Z ?_
     refine QH hs ?_;obtain rfl:=Oj hb hs;refine Bd h λdd hdd h=>Gx 9 Z ?_;refine TC.loop (λq:(AA (AA Int))×Int=>[(4,I g.Ax),(5,.o 1 (AI q.1) 1),(10,I q.2)]) (λq=>[.c 176 (Co.c g),.R 73 1 (YL 2 q.1)]++Q2 3 q.1) hdd ?_ (λq d hq H=>?_)
     · exact Y4 ⟨Z,Z,Z,trivial⟩
     refine G0 8 Z (Q8 Z hq (λhc hq=>?_) (λhc hq=>?_))
     · refine Gc 2 Z ?_
       refine QH hq ?_;obtain rfl:=Oj H hq;refine Gx 1 Z (Ee (Qq5 (s:=5) (i:=1) (b:=2) (t1:=3) (e:=Yp .i64) (rows:=q.1) Z (by omega) Z Z (λj r hj=>YP [_,_] hj)) (Gc 8 Z ?_));exact au h
     refine Bd hq λT1 hT1 hq=>Bd hq λdg hdg hq=>Gc 11 Z ?_;refine TC.loop (λw:(AA (AA Int))×Int=>[(4,I g.Ax),(5,.o 1 (AI w.1) 1),(10,I q.2),(11,I w.2)]) (λw=>[.c 176 (Co.c g),.R 73 1 (YL 2 w.1)]++Q2 3 w.1) hT1 ?_ (λw d hw Q=>?_)
     · exact Y4 ⟨Z,Z,Z,Z,trivial⟩
     refine G0 8 Z (Q8 Z hw (λhc hw=>?_) (λhc hw=>?_))
     · refine Gc 2 Z ?_
       refine QH hw ?_;obtain rfl:=Oj Q hw;refine Gx 8 Z ?_;refine TC.loop (λc:Int=>[(4,I g.Ax),(5,.o 1 (AI w.1) 1),(10,I q.2),(13,I c)]) (λc=>[.c 176 (Co.c g),.R 73 1 (YL 2 w.1)]++Q2 3 w.1) hdg ?_ (λc d hc J=>?_)
       · exact Y4 ⟨Z,Z,Z,Z,trivial⟩
       refine G0 8 Z (Q8 Z hc (λ_ hc=>?_) (λ_ hc=>?_))
       · refine Gc 2 Z ?_
         refine QH hc ?_;obtain rfl:=Oj J hc;refine Gx 8 Z ?_;refine QZ hq (Y4 ⟨Z,Z,Z,trivial⟩)
       refine Bd hc λrr hrr hc=>Bd hc λa ha hc=>?_;have B:=(Kk hrr).2;refine Gc 8 Z ?_;refine vV (x:=.p 1 (c.toNat*1)) (Qd (l:=w.1) hrr Z EG EP) ?_;refine vV (x:=.s (2+c.toNat) 0 (AI rr) 1) (Ez Z Gq Z (De.rowr (e:=c.toNat) (f:=0) Z (by omega) (Jm B) Z)) ?_;refine Go 1 Z ?_;refine vV (x:=.p (2+c.toNat) (c.toNat*1)) (Qd (l:=rr) ha Z EB EC) ?_;refine vV (x:=I a) (Ez Z EE Z (Qh ha (hH:=YP [_,_] B))) ?_;refine Go 3 Z (Cn Z hc (λ_ hc=>?_) (λ_ hc=>?_))
       · refine Gc 9 Z ?_
         refine I7 hc ?_;obtain rfl:=Oj J hc;refine Gx 3 Z ?_;refine I7 hq ?_;obtain rfl:=Oj H hq;refine Gx 2 Z ?_;obtain rfl:=Oi h;exact R2 2 3 Z Z (En (gx (s:=2) (k:=1) Z) (Lr []))
       refine Gc 8 Z ?_;refine QZ hc (Y4 ⟨Z,Z,Z,Z,trivial⟩)
     refine Bd hw λT2 hT2 hw=>Gc 10 Z ?_;refine TC.loop (λy:(AA (AA Int))×Int=>[(4,I g.Ax),(5,.o 1 (AI y.1) 1),(10,I q.2),(11,I w.2),(12,I y.2)]) (λy=>[.c 176 (Co.c g),.R 73 1 (YL 2 y.1)]++Q2 3 y.1) hT2 ?_ (λy d hy X=>?_)
     · exact Y4 ⟨Z,Z,Z,Z,Z,trivial⟩
     refine G0 8 Z (Q8 Z hy (λhc hy=>?_) (λhc hy=>?_))
     · refine Gc 2 Z ?_
       refine QH hy ?_;obtain rfl:=Oj X hy;refine Gx 8 Z ?_;refine QZ hw (Y4 ⟨Z,Z,Z,Z,trivial⟩)
     refine Bd hy λt ht hy=>?_;obtain⟨r,hr,ht⟩:=QE ht;obtain⟨a,ha,ht⟩:=QE ht;have hrr:=(Kk hr).2;refine Gc 8 Z ?_;refine vV (x:=.p 1 (w.2.toNat*1)) (Qd (l:=y.1) hr Z EG EP) ?_;refine vV (x:=.s (2+w.2.toNat) 0 (AI r) 1) (Ez Z Gq Z (De.rowr (e:=w.2.toNat) (f:=0) Z (by omega) (Jm hrr) Z)) ?_;refine Go 1 Z ?_;refine vV (x:=.p (2+w.2.toNat) (q.2.toNat*1)) (Qd (l:=r) ha Z EB EC) ?_;refine vV (x:=I a) (Ez Z EE Z (Qh ha (hH:=YP [_,_] hrr))) ?_;refine Go 2 Z ?_;refine Is 100 ht Z (λ_ ht=>?_) (λ_ ht=>?_)
     · obtain⟨p,hp,ht⟩:=QE ht
       obtain⟨b,hb,ht⟩:=QE ht;have hpp:=(Kk hp).2;refine Go 2 Z ?_;refine vV (x:=.p 1 (q.2.toNat*1)) (Qd (l:=y.1) hp Z EG EP) ?_ (gT Z);refine vV (x:=.s (2+q.2.toNat) 0 (AI p) 1) (Ez Z Gq Z (De.rowr (e:=q.2.toNat) (f:=0) Z (by omega) (Jm hpp) Z)) ?_ (gT Z);refine Go 1 Z ?_;refine vV (x:=.p (2+q.2.toNat) (y.2.toNat*1)) (Qd (l:=p) hb Z EB EC) ?_ (gT Z);refine vV (x:=I b) (Ez Z EE Z (Qh hb (hH:=YP [_,_] hpp))) ?_ (gT Z);refine Go 4 Z (Cn Z ht (λ_ ht=>?_) (λ_ ht=>?_))
       · obtain⟨F,hz1,ht⟩:=QE ht
         obtain⟨r',hr',ht⟩:=QE ht;cases Oi ht;refine DT 29 Z ?_;refine D 2 Z ?_;refine DS.v (x:=.p 1 (w.2.toNat*1)) (Qd (l:=y.1) hr Z EG EP) ?_;refine DS.v (x:=.s (2+w.2.toNat) 0 (AI r) 1) (Ez Z Gq Z (De.rowr (e:=w.2.toNat) (f:=0) Z (by omega) (Jm hrr) Z)) ?_;refine D 3 Z ?_;refine DS.v (x:=.p 1 (w.2.toNat*1)) (Qd (l:=y.1) hr Z EG EP) ?_;refine DS.v (x:=.s (2+w.2.toNat) 0 (AI r) 1) (Ez Z Gq Z (De.rowr (e:=w.2.toNat) (f:=0) Z (by omega) (Jm hrr) Z)) ?_;refine D 1 Z ?_;refine DS.v (x:=.p (2+w.2.toNat) (y.2.toNat*1)) (Qd (l:=r) hz1 Z EB EC) ?_;refine DS.v (x:=I F) (Ez Z EE Z (Qh hz1 (hH:=YP [_,_] hrr))) ?_;refine D 2 Z ?_;refine DS.v (x:=.p 1 (w.2.toNat*1)) (Qd (l:=y.1) hr Z EG EP) ?_;refine DS.v (x:=.s (2+w.2.toNat) 0 (AI r) 1) (Ez Z Gq Z (De.rowr (e:=w.2.toNat) (f:=0) Z (by omega) (Jm hrr) Z)) ?_;refine D 1 Z ?_;refine DS.v (x:=.p (2+w.2.toNat) (q.2.toNat*1)) (Qd (l:=r) ha Z EB EC) ?_;refine DS.v (x:=I a) (Ez Z EE Z (Qh ha (hH:=YP [_,_] hrr))) ?_;refine D 2 Z ?_;refine DS.v (x:=.p 1 (q.2.toNat*1)) (Qd (l:=y.1) hp Z EG EP) ?_;refine DS.v (x:=.s (2+q.2.toNat) 0 (AI p) 1) (Ez Z Gq Z (De.rowr (e:=q.2.toNat) (f:=0) Z (by omega) (Jm hpp) Z)) ?_;refine D 1 Z ?_;refine DS.v (x:=.p (2+q.2.toNat) (y.2.toNat*1)) (Qd (l:=p) hb Z EB EC) ?_;refine DS.v (x:=I b) (Ez Z EE Z (Qh hb (hH:=YP [_,_] hpp))) ?_;refine D 1 Z ?_;refine DS.v (x:=I (if i64.wrap (a+b)<F then i64.wrap (a+b)else F)) (CT.min Z Z Z Z) ?_;refine DS.v (x:=.p (2+w.2.toNat) (y.2.toNat*1)) (Qd (l:=r) hz1 Z EB EC) ?_;refine Eg Z ?_;refine vU (Yv (e:=eI) (k:=1) (f:=0) hz1 hr' EC Z Z (hH:=YP [_,_] hrr)) ?_;refine Et (Js (QpJ hrr (Ym hr'))) ?_;refine Go 8 Z ?_;refine QZ hy (Y4 ⟨Z,congrArg (λm=>A.s 1 0 m 1) (by simp),Z,Z,Z,trivial⟩)
       cases Oi ht;refine Gc 8 Z ?_;refine QZ hy (Y4 ⟨Z,Z,Z,Z,Z,trivial⟩)
     cases Oi ht;refine Go 20 Z ?_;refine QZ hy (Y4 ⟨Z,Z,Z,Z,Z,trivial⟩)
   refine Bd hs λx hx hs=>Bd hs λr hr hs=>Bd hs λy hy hs=>Bd hs λr' hr' hs=>Gc 9 Z ?_;refine Iz hx Z (Go 2 Z ?_);have hHl:(fn (Q2 3 s.1) 2).1=2+AI s.1:=by rw[gW];simp only[Q2,X2];omega
   refine Et (Q5 (s:=9) Z (congrArg (λj=>A.p j 0) hHl)) ?_;refine Et (Js (H':=([CV.cells 176 (Co.c g),.R 73 1 (YL 2 s.1)]++Q2 3 s.1)++[.c 260 [I 0,I 0,I 0]]) (by rw[ZO];rfl)) ?_;refine Et (Qpo (env':=[(1,.p 0 0),(4,I g.Ax),(5,.o 1 (AI s.1) 1),(8,I s.2),(9,.p 2 0),(56,.a (Edge.c x))]) Zf Zf ⟨Z,Z,Z,Z,Z,Z,trivial⟩) ?_;refine Go 3 Z ?_;have hrr:=(Kk hr).2;refine Ee (Js (H':=[CV.cells 176 (Co.c g),.R 73 1 (YL 3 s.1),.c 260 (Edge.c x)]++Q2 3 s.1) (by rw[ZO];rfl)) ?_;refine DT 20 Z ?_;refine D 3 Z ?_;refine DS.v (x:=.p 1 (x.BA.toNat*1)) (Qd (l:=s.1) hr Z EG EP) ?_;refine DS.v (x:=.s (3+x.BA.toNat) 0 (AI r) 1) (Ez Z Gq Z (De.rowr (e:=x.BA.toNat) (f:=0) Z (by omega) (Jm hrr) Z)) ?_;refine D 5 Z ?_;refine DS.v (x:=.p 1 (x.BA.toNat*1)) (Qd (l:=s.1) hr Z EG EP) ?_;refine DS.v (x:=.s (3+x.BA.toNat) 0 (AI r) 1) (Ez Z Gq Z (De.rowr (e:=x.BA.toNat) (f:=0) Z (by omega) (Jm hrr) Z)) ?_;refine D 2 Z ?_;refine DS.v (x:=.p (3+x.BA.toNat) (x.To.toNat*1)) (Qd (l:=r) hy Z EB EC) ?_;refine DS.v (x:=I y) (Ez Z EE Z (Qh hy (hH:=YP [_,_,_] hrr))) ?_;refine D 2 Z ?_;refine DS.v (x:=I (if x.W<y then x.W else y)) (CT.min Z Z Z Z) ?_;refine DS.v (x:=.p (3+x.BA.toNat) (x.To.toNat*1)) (Qd (l:=r) hy Z EB EC) ?_;refine Eg Z ?_;refine vU (Yv (e:=eI) (k:=1) (f:=0) hy hr' EC Z Z (hH:=YP [_,_,_] hrr)) ?_;refine Et (Js (Qne hrr (Ym hr'))) ?_;refine Go 8 Z ?_;refine QZ hs (Qm0 Zf ⟨Z,Z,congrArg (λm=>A.s 1 0 m 1) (by simp),Z,trivial⟩)
 refine Bd hs λu hu hs=>?_;have hlen:s.2=(AI s.1:Int):=by simpa using pV hu
 have hlt:s.2<g.Ax:=by simpa using hc
 obtain⟨m',hm'⟩:∃m',g.Ax.toNat-(AI s.1)=m'+1:=⟨g.Ax.toNat-(AI s.1)-1,by omega⟩;rw[hm'];refine Bd hs λP aa hs=>?_;have hi:CJ z s.2=AC ():=by
  have:s.2.toNat<AI z:=by omega
  unfold CJ;rw[Vu (show 0<=s.2 by omega)];simp[this]
 refine Gc 9 Z (vH (lP (e:=eI) (zv:=0) (a:=(I 0)) aa QF EV Eo Z Z Z Z) ?_);have hHl:AI ([CV.cells 176 (Co.c g),.R 73 1 (HO 2 s.1 (m'+1))]++Q2 3 s.1)=2+AI s.1:=by simp[Q2];omega
 refine Et (Q5 (s:=26) Z (congrArg (λj=>A.s j 0 (AI P) 1) hHl)) ?_;refine vV (x:=.p 1 (s.2.toNat*1)) (Qd (l:=z) hi E EG EP) ?_;refine vU (Qgq (t:=73) (T:=73) (k:=1) (e:=AI s.1) (f:=0) (c:=[.n]) Z Z Z EP (by omega) QpK Z Z Z Z Z Z Z Qnf) ?_;refine Et (Js (H':=[CV.cells 176 (Co.c g),.R 73 1 (HO 2 (s.1++[P]) m')]++Q2 3 (s.1++[P])) (by rw[QlY];rfl)) ?_;refine Bd hs λr1 ab hs=>Go 9 Z ?_;refine TC.loop (λk:(AA Int)×Int=>[(1,.p 0 0),(4,I g.Ax),(5,.o 1 g.Ax.toNat 1),(6,I s.2),(7,I k.2)]) (λk=>[.c 176 (Co.c g),.R 73 1 (HO 2 (s.1++[k.1]) m')]++Q2 3 (s.1++[k.1])) ab ?_ (λk e hk ac=>?_)
 · refine Y4 ⟨Z,Z,Z,Z,?_,trivial⟩
   rfl
 refine G0 8 Z (Q8 Z hk (λ_ hk=>?_) (λ_ hk=>?_))
 · refine Gc 2 Z ?_
   refine QH hk ?_;obtain rfl:=Oj ac hk;refine Bd hs λx2 L hs=>Bd hs λG B hs=>Gx 5 Z ?_;refine vV (x:=.p 1 (s.2.toNat*1)) (Qd (l:=z) hi E EG EP) ?_;refine vV (x:=.s (2+AI s.1) 0 (AI k.1) 1) (Ez Z Gq Z (De.rowr (e:=AI s.1) (f:=0) Z (by omega) (rO (r:=k.1) (by simp)) Z)) ?_;refine Go 1 Z ?_;refine vV (x:=.p (2+AI s.1) (s.2.toNat*1)) (Qd (l:=k.1) L Z EB EC) ?_;refine vU (Yv (e:=eI) (k:=1) (f:=0) L B EC Z Z (hH:=YP [_,_] (by simp))) ?_;refine Et (Js (rR (Ym B))) ?_;have ae:g.Ax.toNat-(AI (s.1++[G]))=m':=by simp;omega
   refine Go 8 Z ?_;refine QZ hs (En (Js (H':=[CV.cells 176 (Co.c g),.R 73 1 (HO 2 (s.1++[G]) (g.Ax.toNat-(AI (s.1++[G]))))]++Q2 3 (s.1++[G])) (by rw[ae])) (Y4 ⟨Z,Z,Z,Z,trivial⟩))
 refine Bd hk λx1 M hk=>Bd hk λl1 N hk=>Gc 7 Z ?_;refine vV (x:=.p 1 (s.2.toNat*1)) (Qd (l:=z) hi E EG EP) ?_;refine vV (x:=.s (2+AI s.1) 0 (AI k.1) 1) (Ez Z Gq Z (De.rowr (e:=AI s.1) (f:=0) Z (by omega) (rO (r:=k.1) (by simp)) Z)) ?_;refine Go 1 Z ?_;refine vV (x:=.p (2+AI s.1) (k.2.toNat*1)) (Qd (l:=k.1) M Z EB EC) ?_;refine vU (Yv (e:=eI) (k:=1) (f:=0) M N EC Z Z (hH:=YP [_,_] (by simp))) ?_;refine Et (Js (rR (Ym N))) ?_;refine Go 8 Z ?_;refine QZ hk (Y4 ⟨Z,Z,Z,Z,Z,trivial⟩)
def PM(d:Co):AB ((AA (AA Int))×Int):=AH (PS n d) λf=>(bif (f != 0)then AC ([],f)else AH (Ps n d) λg=>(bif (!g.2)then AC ([],151)else AC (g.1,0)))
instance yJ(d:Co):Ks (PM n d) 72 [.a (Co.c d)] [] (λr=>.t [.q 1 (map (Qu 1 eI) r.1),I r.2]):=by
 refine Kg 10 func72 Z Z Z Z λr h=>Cz [] h Kc Z λq j h=>Go 10 Z (Cn Z h (λ_ h=>?_) (λ_ h=>?_))
 .refine Gc 9 Z ?_;obtain rfl:=Oi h;refine R2 2 3 Z Z ?_;exact En (gx (s:=2) Z) (Lr [])
 refine Gc 5 Z (Cd [] h (jf _ _) Z λt m h=>Fg 14 Z Z (Cn Z h (λ_ h=>?_) (λ_ h=>?_)))
 .refine Gc 8 Z ?_;obtain rfl:=Oi h;refine R2 2 3 Z Z ?_;exact En (gx (s:=2) Z) (Lr [])
 exact au h
def Pg(f:CB)(g:AA CI):AB ((AA CD)×(AA (AA Int))×Int):=AH (OM n f g) λd=>(bif (d.2.2 != 0)then AC ([],[],d.2.2)else AH (PM n ({Ax:=d.1,Bo:=d.2.1:Co})) λh=>(bif (h.2 != 0)then AC ([],[],160)else AH (MS n f g) λj=>AC (j.1,h.1,0)))
instance yd(g:CB)(j:AA CI):Kq (Pg n g j) 25 [.a (CB.c g),.q 57 (map CI.c j)] [] (λr=>.t [.a [.q 3 (map CD.c r.1),.q 1 (map (Qu 1 eI) r.2.1)],I r.2.2]) (λr=>[.c 39 [.q 3 (map CD.c r.1),.q 1 (map (Qu 1 eI) r.2.1)]]):=by
 refine Kg 11 func25 Z Z Z Z λr h=>Cd [] h Kc Z λB t h=>Fg 15 Z Z (Cn Z h (λ_ h=>?_) (λ_ h=>?_))
 .exact au h
 refine Gc 5 Z (Cd [] h Kc Z λd x h=>Fg 14 Z Z (Cn Z h (λ_ h=>?_) (λ_ h=>?_)))
 .exact au h
 refine Gc 6 Z (Cd [] h Kc Z λf y h=>Fg 17 Z Z ?_);obtain rfl:=Oi h;refine⟨[(4,.p 0 0),(5,I ((f.1,d.1,0).2.2))],[.c 39 [.q 3 (map CD.c ((f.1,d.1,0).1)),.q 1 (map (Qu 1 eI) ((f.1,d.1,0).2.1))]],_,(En (Yk (i:=4) [] Z Z Cy.nil (Ec (Do.cells (Ed Ep (Ej _)) (Ec (Ec (Ec (QU _))))))) ?_),QK Z Z (C6.cons (Yh isAgg39 sizeOf39 Z Z Z) (C6.cons Dw.tmp C6.nil)),Z,Z⟩;exact Lr [1]
def TI(n:Nat)(f:AA AP)(h:Int)(d:Int):AB (CG Int (CG Unit Int)):=(bif d<(AI f:Int) then AH (CJ f d) λg=>(bif (g.BW==h)then AC (.d (.d d))else AC (.k (i64.wrap (d+1))))else AC (.d (.k ())))
def Pi(f:AA AP)(g:Int):AB Int:=AH (iter (TI n f g) n 0:AB (CG Unit Int)) λh=>match h with|.k d=>(AC (-1))|.d d=>AC d
instance yf(d:AA AP)(f:Int):Ks (Pi n d f) 74 [.q 8 (map AP.c d),I f] [] (λr=>I r):=KA func74
end Go.Sw
