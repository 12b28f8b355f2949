/- What the functions compute that OutcomeGun reaches, and that their calls refine it (part 5 of 6). -/
import Derived.Test.YtbiglpikpigidaaGreatW23Gu4
set_option linter.unusedVariables false
set_option linter.unusedSimpArgs false
set_option maxRecDepth 100000
set_option maxHeartbeats 4000000
namespace Go.Sw
open Option renaming some→AC,none→AF,bind→AH
open Bool renaming false→AD,true→AE
open Decidable renaming decide→AG
open List renaming length→AI
open Go renaming Value→AL
variable (n:Nat)
open List(map)
open Int(toNat)
open Go.IntKind(i64 u64 u8)
open Go.Proofs Tryz
def VZ(f:CB)(d:Int):AB (CG Int (CG Unit Bool)):=(bif d<(AI f.AO:Int) then AH (AH (CJ f.AO d) λg=>AH (M0 n g.Af 0) λh=>(bif 24<h then AC AE else AH (CJ f.AO d) λj=>(bif 12<(AI j.Aq:Int) then AC AE else AH (CJ f.AO d) λm=>AC (AG (60<(AI m.An:Int))))):AB Bool) λq=>(bif q then AC (.d (.d AD))else AC (.k (i64.wrap (d+1))))else AC (.d (.k ())))
def U3(n:Nat)(f:CB)(d:Int):AB (CG Int (CG Unit Bool)):=(bif d<(AI f.Av:Int) then AH (CJ f.Av d) λg=>(bif 60<(AI g.An:Int) then AC (.d (.d AD))else AC (.k (i64.wrap (d+1))))else AC (.d (.k ())))
def O0(d:CB):AB Bool:=AH (iter (VZ n d) n 0:AB (CG Unit Bool)) λh=>match h with|.k f=>(AH (iter (U3 n d) n 0:AB (CG Unit Bool)) λj=>match j with|.k g=>(AH ((bif 12<(AI d.Av:Int) then AC AE else(bif 30<(AI d.A4:Int) then AC AE else(bif 4<(AI d.AO:Int) then AC AE else(bif 6<(AI d.Ap:Int) then AC AE else(bif 6<(AI d.Ab:Int) then AC AE else(bif 6<(AI d.AV:Int) then AC AE else(bif 6<(AI d.A3:Int) then AC AE else AC (AG (60<(AI d.An:Int)))))))))):AB Bool) λm=>(bif m then AC AD else AH (Mv n d.BN 0) λq=>AC (AG (q<=100))))|.d g=>AC g)|.d f=>AC f
instance xl(d:CB):Ks (O0 n d) 69 [.a (CB.c d)] [] (λr=>.b r):=KA func69
def eY(n:Nat)(q:AA CH)(g:(AA Int)×Int)(f:AA Int)(d:(AA Int)×Int):AB (CG ((AA Int)×Int) (AA Int)):=AH (AH (CJ q g.2) λh=>(bif d.2<h.Ax then(bif 0<(AI f:Int) then AC (AG ((AI d.1:Int)<=300))else AC AD)else AC AD):AB Bool) λj=>(bif j then AH (app d.1 f) λm=>AC (.k (m,i64.wrap (d.2+1)))else AC (.d d.1))
def T9(f:AA CH)(rec243:(AA CH)->AB (AA Int))(d:(AA Int)×Int):AB (CG ((AA Int)×Int) (AA Int)):=(bif d.2<(AI f:Int) then AH (AH (CJ f d.2) λg=>(bif (g.Ax==0)then AH (CJ f d.2) λh=>AH (app d.1 [h.Al]) λj=>AC j else AH (CJ f d.2) λm=>AH (rec243 m.Ac) λq=>AH (iter (eY n f d q) n (d.1,0):AB (AA Int)) λt=>AC t):AB (AA Int)) λx=>AC (.k (x,i64.wrap (d.2+1)))else AC (.d d.1))
def io(rec243:(AA CH)->AB (AA Int))(n:Nat)(f:AA CH):AB (AA Int):=AH (iter (T9 n f rec243) n (([]:AA Int),0):AB (AA Int)) λd=>AC d
theorem QaT(rec243:(AA CH)->AB (AA Int))(ae:∀(E:AA CH),Kq (rec243 E) 70 [.q 3 (map CH.enc E)] [] (λr=>.o 0 (AI r) 1) (λr=>[.r 3 1 (map eI r)]))(n:Nat)(E:AA CH):Kq (io rec243 n E) 70 [.q 3 (map CH.enc E)] [] (λr=>.o 0 (AI r) 1) (λr=>[.r 3 1 (map eI r)]):=by
 refine Kg 7 func70 Z Z Z Z λr h=>vH (Ek (xs:=[]) (es:=map eI []) QF Z Z Z Z Z trivial Z Z) ?_;refine Fg 9 Z Z (Bd h λm Y h=>Cg m [0] [] (λm=>[(3,.o 0 (AI m) 1)]) (λm=>[(0,.r 3 1 (map eI m))]) Zf ?_ ?_)
 .refine G0 1 Z (Lp [0] [0] (λq=>[(3,.o 0 (AI q.1) 1),(4,I q.2)]) (λq=>[(0,.r 3 1 (map eI q.1))]) Y Zf (Lr [0]) λq ag g J=>?_);refine G0 5 Z (Lg 3 Z Z (Q8 Z g (λ_ g=>?_) (λ_ g=>?_)))
  .exact Gc 2 Z (QH g (Gx 1 Z (DW J g (Lr [0]))))
  refine Gc 3 Z (Bd g λt d g=>Cg t [0] [0,4] (λt=>[(3,.o 0 (AI t) 1)]) (λt=>[(0,.r 3 1 (map eI t))]) Zf ?_ ?_)
  .refine G0 6 Z (Bd d λaa M d=>FW M (QN aa) Z (Go 5 Z (Cn Z d (λ_ d=>?_) (λ_ d=>?_))))
   .refine Gc 5 Z (Bd d λF O d=>FW O (QN F) Z (Go 2 Z (vH (Ek (xs:=[.tmp 25]) (es:=map eI [F.Al]) QF Z Z Z Z Z ⟨Z,trivial⟩ Z Z) ?_)));refine FE Z (Bd d λah P d=>vH (Qj (e:=eI) P QF EB (QC (i:=1))) ?_);exact au d
   refine Gc 6 Z (Bd d λab Q d=>FW Q (QN ab) Z (Go 2 Z (Cd [] d Kc Z λai af d=>Fg 8 Z Z (Bd d λx ac d=>Ct x [0] [0,4] (λx=>[(3,.o 0 (AI x) 1)]) (λx=>[(0,.r 3 1 (map eI x))]) Zf ?_ (λenv H G=>?_)))))
   .refine G0 1 Z (Lp [0,1] [0,4,5] (λy=>[(3,.o 0 (AI y.1) 1),(6,I y.2)]) (λy=>[(0,.r 3 1 (map eI y.1))]) ac Zf (Lr [0,1]) λy aj f R=>?_);refine G0 2 Z (Bd f λB j f=>Ct B [0,1] [0,3,4,5,6] (λB=>[(50,.b B)]) Ze Zf ?_ (λenv H G=>?_))
    .refine G0 4 Z (Bd j λad T j=>FW T (QN ad) Z (Go 4 Z (Is 41 j Z (λ_ j=>?_) (λ_ j=>?_))))
     iterate 2 exact au j
    refine Gx 1 Z (Ee G (Q8 Z f (λ_ f=>?_) (λ_ f=>?_)))
    .exact Gc 2 Z (QH f (Gx 1 Z (DW R f (Lr [0]))))
    refine Gc 7 Z (Bd f λak X f=>vH (Qj (e:=eI) X QF EB (QC (i:=1))) ?_);exact au f
   refine Gx 1 Z ?_;cases d;exact N5 (En G (Lr [0]))
  exact au g
 exact au h
def Rv:Nat->(AA CH)->AB (AA Int)
  |0=>λ_=>AF
  |n+1=>io (Rv n) n
instance k_u:∀(d:AA CH),Kq (Rv n d) 70 [.q 3 (map CH.enc d)] [] (λr=>.o 0 (AI r) 1) (λr=>[.r 3 1 (map eI r)]):=by
  induction n with
  |zero=>exact λ_=>⟨nofun⟩
  |succ n ih=>exact QaT _ ih n
def T6(f:CB)(j:Int)(d:Int):AB (CG Int (CG Unit Bool)):=(bif d<(AI f.AO:Int) then AH (CJ f.AO d) λg=>AH (Rv n g.Af) λh=>(bif j<(AI h:Int) then AC (.d (.d AD))else AC (.k (i64.wrap (d+1))))else AC (.d (.k ())))
def PW(f:CB)(h:Int):AB Bool:=AH (O0 n f) λj=>(bif (!j)then AC AD else AH (iter (T6 n f h) n 0:AB (CG Unit Bool)) λg=>match g with|.k d=>(AC AE)|.d d=>AC d)
instance yS(d:CB)(f:Int):Ks (PW n d f) 24 [.a (CB.c d),I f] [] (λr=>.b r):=KA func24
def Fd(n:Nat)(d:Int)(f:Int)(g:Int):AB Bool:=AH ((bif f<=d then AC (AG (d<=g))else AC AD):AB Bool) λh=>AC h
instance zd(d:Int)(f:Int)(g:Int):Ks (Fd n d f g) 141 [I d,I f,I g] [] (λr=>.b r):=KA func141
def KK(d:Int):AB Bool:=AH (Fd n d 0 31) λf=>AC f
instance js(d:Int):Ks (KK n d) 139 [I d] [] (λr=>.b r):=KA func139
def KJ(d:Int):AB Bool:=AH (Fd n d 1 1048576) λf=>AC f
instance jr(d:Int):Ks (KJ n d) 140 [I d] [] (λr=>.b r):=KA func140
def JY(d:Int):AB Bool:=AH (Fd n d 1 9999) λf=>AC f
instance k_m(d:Int):Ks (JY n d) 211 [I d] [] (λr=>.b r):=KA func211
def IK(d:Int):AB Bool:=AH (Fd n d (-1099511627776) 1099511627776) λf=>AC f
instance k_h(d:Int):Ks (IK n d) 209 [I d] [] (λr=>.b r):=KA func209
def KE(d:Int):AB Bool:=AH (Fd n d 0 1048576) λf=>AC f
instance za(d:Int):Ks (KE n d) 208 [I d] [] (λr=>.b r):=KA func208
def K9(d:AP):AB Bool:=AH (AH (JY n d.BU) λf=>(bif f then AH (Fd n d.AN 0 7) λg=>(bif g then AH (Fd n d.Aw 0 31) λh=>(bif h then AH (IK n d.BK) λj=>(bif j then AH (Fd n d.B7 0 120) λm=>(bif m then AH (KE n d.BB) λq=>(bif q then AH (Fd n d.Bl 0 9999) λt=>(bif t then AH (Fd n d.B6 0 1048576) λx=>AC x else AC AD)else AC AD)else AC AD)else AC AD)else AC AD)else AC AD)else AC AD):AB Bool) λy=>AC y
instance zI(d:AP):Ks (K9 n d) 205 [.a (AP.c d)] [] (λr=>.b r):=KA func205
def IT(d:Int):AB Bool:=AH (Fd n d 0 39) λf=>AC f
instance zr(d:Int):Ks (IT n d) 206 [I d] [] (λr=>.b r):=KA func206
def IR(d:Int):AB Bool:=AH (Fd n d 0 255) λf=>AC f
instance zp(d:Int):Ks (IR n d) 207 [I d] [] (λr=>.b r):=KA func207
def Pa(d:Ao):AB Bool:=AH (AH (IT n d.Bt) λf=>(bif f then AH (IT n d.Bs) λg=>(bif g then AH (IR n d.Bg) λh=>(bif h then AH (IR n d.Bf) λj=>(bif j then AH (IK n d.Bc) λm=>(bif m then AH (IK n d.Bb) λq=>(bif q then AH (IK n d.Bo) λt=>(bif t then AH (IK n d.Br) λx=>(bif x then AC (AG (d.Bo<=d.Br))else AC AD)else AC AD)else AC AD)else AC AD)else AC AD)else AC AD)else AC AD)else AC AD):AB Bool) λy=>AC y
instance yW(d:Ao):Ks (Pa n d) 210 [.a (Ao.c d)] [] (λr=>.b r):=KA func210
def Hl(d:Int):AB Bool:=AH (Fd n d 0 255) λf=>AC f
instance _C(d:Int):Ks (Hl n d) 212 [I d] [] (λr=>.b r):=KA func212
def IN(d:Int):AB Bool:=AH (Fd n d 1 1048576) λf=>AC f
instance zj(d:Int):Ks (IN n d) 213 [I d] [] (λr=>.b r):=KA func213
def K_(d:Ag):AB Bool:=AH (AH (IN n d.BJ) λH=>(bif (!H)then AC AE else AH (Fd n d.BW 1 2) λJ=>AC (!J)):AB Bool) λL=>(bif L then AC AD else AH ((bif (d.AX==1)then AC (d.AX==1)else AC (d.AX==2)):AB Bool) λf=>(bif f then AH ((bif (d.BU==0)then(bif (d.AT==0)then AC (d.BO==0)else AC AD)else AC AD):AB Bool) λg=>AC g else(bif (d.AX==3)then AH (AH (JY n d.BU) λh=>(bif h then AH (Hl n d.AT) λj=>(bif j then AH (Fd n d.BO 1 1099511627776) λm=>AC m else AC AD)else AC AD):AB Bool) λq=>AC q else(bif (d.AX==4)then AH (AH (JY n d.BU) λt=>(bif t then AH (Hl n d.AT) λx=>(bif x then AH (Fd n d.BO 1 64) λy=>AC y else AC AD)else AC AD):AB Bool) λB=>AC B else(bif (d.AX==5)then AH (AH (JY n d.BU) λE=>(bif E then AH (Hl n d.AT) λF=>(bif F then AC (d.BO==0)else AC AD)else AC AD):AB Bool) λG=>AC G else AC AD)))))
instance zJ(m:Ag):Ks (K_ n m) 214 [.a (Ag.c m)] [] (λr=>.b r):=by
 refine Kg 8 func214 Z Z Z Z λr h=>Bd h λg x h=>Ct g [0] [1] (λg=>[(12,.b g)]) Ze Zf ?_ (λenv H d=>?_)
 .exact au x
 refine Gx 1 Z (Ee d (Cn Z h (λ_ h=>?_) (λ_ h=>?_)))
 .exact au h
 refine Gc 17 Z (Bd h λf t h=>Ct f [0] [1,14] (λf=>[(15,.b f)]) Ze Zf ?_ (λenv H d=>?_))
 .exact au t
 refine Gx 1 Z (Ee d (Cn Z h (λ_ h=>?_) (λ_ h=>?_)))
 iterate 2 exact au h
def LG(d:CI):AB Bool:=(bif (d.AX==1)then AH (K9 n d.AP) λr2=>AC r2 else(bif (d.AX==2)then AH (AH (IT n d.A5.Al) λM=>(bif M then AH (IR n d.A5.Ah) λN=>(bif N then AH (KE n d.A5.BB) λO=>(bif O then AH (IK n d.A5.BD) λP=>AC P else AC AD)else AC AD)else AC AD):AB Bool) λQ=>AC Q else(bif (d.AX==3)then AH (AH (IT n d.Aa.Al) λR=>(bif R then AH (IR n d.Aa.Ah) λT=>(bif T then AH (IK n d.Aa.BD) λV=>(bif V then AH (IK n d.Aa.True) λW=>(bif W then AH (Fd n d.Aa.B8 0 1099511627776) λX=>AC X else AC AD)else AC AD)else AC AD)else AC AD):AB Bool) λY=>AC Y else(bif (d.AX==4)then AH (Pa n d.Ao) λaa=>AC aa else(bif (d.AX==5)then AH (AH (JY n d.Ae.BU) λab=>(bif ab then AH (Hl n d.Ae.AT) λac=>(bif ac then AH (IK n d.Ae.Lo) λad=>(bif ad then AH (IK n d.Ae.Hi) λae=>(bif ae then AC (AG (d.Ae.Lo<=d.Ae.Hi))else AC AD)else AC AD)else AC AD)else AC AD):AB Bool) λaf=>AC af else(bif (d.AX==6)then AH (AH (IT n d.Au.Al) λag=>(bif ag then AH (IR n d.Au.Ah) λah=>(bif ah then AH (IK n d.Au.Lo) λai=>(bif ai then AH (IK n d.Au.Hi) λaj=>(bif aj then AC (AG (d.Au.Lo<=d.Au.Hi))else AC AD)else AC AD)else AC AD)else AC AD):AB Bool) λak=>AC ak else(bif (d.AX==7)then AH (AH (JY n d.Be.A) λal=>(bif al then AH (JY n d.Be.B) λam=>(bif am then AC (AG (d.Be.A<d.Be.B))else AC AD)else AC AD):AB Bool) λan=>AC an else(bif (d.AX==8)then AH (AH (IN n d.Aj.BJ) λf=>(bif f then AH (JY n d.Aj.BU) λg=>(bif g then AH (Fd n d.Aj.AZ 0 31) λh=>(bif h then AH (Hl n d.Aj.AT) λj=>AC j else AC AD)else AC AD)else AC AD):AB Bool) λm=>AC m else(bif (d.AX==9)then AH (AH (IN n d.Ay.BJ) λq=>(bif q then AH (Fd n d.Ay.By 0 9999) λt=>(bif t then AH (Fd n d.Ay.Bk 0 1125899906842624) λx=>(bif x then AH (Fd n d.Ay.B4 0 1) λy=>AC y else AC AD)else AC AD)else AC AD):AB Bool) λE=>AC E else(bif (d.AX==10)then AH (K_ n d.Ag) λF=>AC F else(bif (d.AX==11)then AH (IN n d.BE.BJ) λG=>AC G else(bif (d.AX==12)then AC AE else(bif (d.AX==13)then AH (AH (KK n d.Bq.BF) λH=>(bif H then AH (KJ n d.Bq.No) λJ=>AC J else AC AD):AB Bool) λL=>AC L else AC AD)))))))))))))
instance jn(f:CI):Ks (LG n f) 142 [.a (CI.c f)] [] (λr=>.b r):=by
 refine Kg 20 func142 Z Z Z Z λr h=>Cn Z h (λ_ h=>?_) (λ_ h=>?_)
 .exact au h
 iterate 2 (refine Gc 6 Z (Cn Z h (λ_ h=>?_) (λ_ h=>?_));exact au h)
 exact au h
def Px(n:Nat)(d:CI):AB CI:=AH ((bif (d.AX==1)then AC ({Uv with BF:=d.BF,No:=d.No,At:=d.At,AX:=d.AX,AP:=d.AP:CI})else(bif (d.AX==2)then AC ({Uv with BF:=d.BF,No:=d.No,At:=d.At,AX:=d.AX,A5:=d.A5:CI})else(bif (d.AX==3)then AC ({Uv with BF:=d.BF,No:=d.No,At:=d.At,AX:=d.AX,Aa:=d.Aa:CI})else(bif (d.AX==4)then AC ({Uv with BF:=d.BF,No:=d.No,At:=d.At,AX:=d.AX,Ao:=d.Ao:CI})else(bif (d.AX==5)then AC ({Uv with BF:=d.BF,No:=d.No,At:=d.At,AX:=d.AX,Ae:=d.Ae:CI})else(bif (d.AX==6)then AC ({Uv with BF:=d.BF,No:=d.No,At:=d.At,AX:=d.AX,Au:=d.Au:CI})else(bif (d.AX==7)then AC ({Uv with BF:=d.BF,No:=d.No,At:=d.At,AX:=d.AX,Be:=d.Be:CI})else(bif (d.AX==8)then AC ({Uv with BF:=d.BF,No:=d.No,At:=d.At,AX:=d.AX,Aj:=d.Aj:CI})else(bif (d.AX==9)then AC ({Uv with BF:=d.BF,No:=d.No,At:=d.At,AX:=d.AX,Ay:=d.Ay:CI})else(bif (d.AX==10)then AC ({Uv with BF:=d.BF,No:=d.No,At:=d.At,AX:=d.AX,Ag:=d.Ag:CI})else(bif (d.AX==11)then AC ({Uv with BF:=d.BF,No:=d.No,At:=d.At,AX:=d.AX,BE:=d.BE:CI})else(bif (d.AX==13)then AC ({Uv with BF:=d.BF,No:=d.No,At:=d.At,AX:=d.AX,Bq:=d.Bq:CI})else AC ({Uv with BF:=d.BF,No:=d.No,At:=d.At,AX:=d.AX:CI}))))))))))))):AB CI) λf=>AC f
instance jX(f:CI):Kq (Px n f) 143 [.a (CI.c f)] [] (λr=>.a (CI.c r)) (λr=>[.c 120 (CI.c r)]):=by
 refine Kg 35 func143 Z Z Z Z λr h=>Bd h λd g h=>Ct d [1,2] [2,3] Ze (λd=>[(1,.c 120 (CI.c d))]) Zf ?_ (λenv H j=>?_)
 .exact au g
 refine Gx 2 Z (Ee j (Gc 7 Z ?_));exact au h
def J9(d:CI):AB Int:=AH (AH (KK n d.BF) λf=>(bif (!f)then AC AE else AH (KJ n d.No) λg=>(bif (!g)then AC AE else AH (Fd n d.At 0 1099511627776) λh=>(bif (!h)then AC AE else AH (LG n d) λj=>(bif (!j)then AC AE else AH (Px n d) λm=>AC (d != m))))):AB Bool) λq=>(bif q then AC 120 else AC 0)
instance zU(g:CI):Ks (J9 n g) 79 [.a (CI.c g)] [] (λr=>I r):=by
 refine Kg 8 func79 Z Z Z Z λr h=>Bd h λj d h=>Cg j [] [] (λj=>[(29,.b j)]) Ze Zf ?_ ?_
 .refine G0 0 Z (Hn 25 [24] [(0,0,0),(0,0,0),(0,0,0),(0,0,0),(0,0,0),(0,0,0),(0,0,0),(0,0,0),(0,0,0),(0,0,0),(0,0,0),(0,0,0),(0,0,0),(0,0,0),(0,0,0),(0,0,0),(0,0,0),(0,0,0),(0,0,0),(0,0,0),(0,0,0),(0,0,0),(0,0,1),(0,0,0),(1,0,0)] (by kernel_rfl) (Dk 2 Z ?_));obtain⟨L,m,d⟩:=QE d;refine DK.wo (x:=.b L) ?_ ?_
  .exact Pc [] Z (C8.fn call139 Z Z Z) ((js _ _).c _ m) Z Wp
  refine Dk 2 Z (DK.is 4 d Z Z Z (λ_ d=>?_) (λ_ d=>?_))
  .exact Dk 20 Z (DK.done Z Z (Gl 3 Z d []))
  .refine Dk 2 Z ?_;obtain⟨M,y,d⟩:=QE d;refine DK.wo (x:=.b M) ?_ ?_
   .exact Pc [] Z (C8.fn call140 Z Z Z) ((jr _ _).c _ y) (hg:=(gT Z)) Z Wp
   refine Dk 3 Z (DK.is 10 d Z Z Z (λ_ d=>?_) (λ_ d=>?_))
   .exact Dk 14 Z (DK.done Z Z (Gl 3 Z d []))
   .refine Dk 2 Z ?_;obtain⟨N,E,d⟩:=QE d;refine DK.wo (x:=.b N) ?_ ?_
    .exact Pc [] Z (C8.fn call141 Z Z Z) ((zd _ _ _ _).c _ E) (hg:=(gT Z)) Z Wp
    refine Dk 3 Z (DK.is 16 d Z Z Z (λ_ d=>?_) (λ_ d=>?_))
    .exact Dk 8 Z (DK.done Z Z (Gl 3 Z d []))
    .refine Dk 1 Z ?_;obtain⟨O,G,d⟩:=QE d;refine DK.wo (x:=.b O) ?_ ?_
     .exact Pc [] Z (C8.fn call142 Z Z Z) ((jn _ _).c _ G) (hg:=(gT Z)) Z Wp
     refine Dk 3 Z (DK.is 21 d Z Z Z (λ_ d=>?_) (λ_ d=>?_))
     .exact Dk 3 Z (DK.done Z Z (Gl 3 Z d []))
     .refine KR (lo:=0) (x:=.a (CI.c g)) ⟨Z,trivial⟩ ?_;refine Dk 1 Z ?_;obtain⟨f,J,d⟩:=QE d;refine Ex (x:=.a (CI.c f)) (X1:=[.c 120 (CI.c g),.c 120 (CI.c f)]) ?_ ?_
      .refine Qg [] (C8.fn call143 Z Z Z) ((jX _ _).c _ J) ?_ (hg:=(gT Z));rintro _ _ ⟨rfl,rfl⟩;exact FE Z Wp
      refine DK.done Z Z ?_;refine vX (.b (g != f)) (sV (p:=g) (q:=f) qB Z Z) ?_ (gT Z);exact Gl 2 Z d []
 exact au h
def O5(n:Nat)(d:CI):AB (AA Int):=(bif (d.AX==1)then AH (app [d.AX,d.BF,d.No,d.At] [d.AP.BU,d.AP.AN,d.AP.Aw,d.AP.BK,d.AP.B7,d.AP.BB,d.AP.Bl,d.AP.B6]) λE=>AC E else(bif (d.AX==2)then AH (app [d.AX,d.BF,d.No,d.At] [d.A5.Al,d.A5.Ah,d.A5.BB,d.A5.BD]) λF=>AC F else(bif (d.AX==3)then AH (app [d.AX,d.BF,d.No,d.At] [d.Aa.Al,d.Aa.Ah,d.Aa.BD,d.Aa.True,d.Aa.B8]) λG=>AC G else(bif (d.AX==4)then AH (app [d.AX,d.BF,d.No,d.At] [d.Ao.Bt,d.Ao.Bg,d.Ao.Bc,d.Ao.Bs,d.Ao.Bf,d.Ao.Bb,d.Ao.Bo,d.Ao.Br]) λH=>AC H else(bif (d.AX==5)then AH (app [d.AX,d.BF,d.No,d.At] [d.Ae.BU,d.Ae.AT,d.Ae.Lo,d.Ae.Hi]) λf=>AC f else(bif (d.AX==6)then AH (app [d.AX,d.BF,d.No,d.At] [d.Au.Al,d.Au.Ah,d.Au.Lo,d.Au.Hi]) λg=>AC g else(bif (d.AX==7)then AH (app [d.AX,d.BF,d.No,d.At] [d.Be.A,d.Be.B]) λh=>AC h else(bif (d.AX==8)then AH (app [d.AX,d.BF,d.No,d.At] [d.Aj.BJ,d.Aj.BU,d.Aj.AZ,d.Aj.AT]) λj=>AC j else(bif (d.AX==9)then AH (app [d.AX,d.BF,d.No,d.At] [d.Ay.BJ,d.Ay.By,d.Ay.Bk,d.Ay.B4]) λm=>AC m else(bif (d.AX==10)then AH (app [d.AX,d.BF,d.No,d.At] [d.Ag.BJ,d.Ag.BW,d.Ag.AX,d.Ag.BU,d.Ag.AT,d.Ag.BO]) λq=>AC q else(bif (d.AX==11)then(bif d.BE.Bi then AH (app [d.AX,d.BF,d.No,d.At] [d.BE.BJ,1]) λt=>AC t else AH (app [d.AX,d.BF,d.No,d.At] [d.BE.BJ,0]) λx=>AC x)else(bif (d.AX==13)then AH (app [d.AX,d.BF,d.No,d.At] [d.Bq.BF,d.Bq.No]) λy=>AC y else AC [d.AX,d.BF,d.No,d.At]))))))))))))
instance xq(d:CI):Kq (O5 n d) 217 [.a (CI.c d)] [] (λr=>.o 0 (AI r) 1) (λr=>[.r 3 1 (map eI r)]):=by
 refine Kg 16 func217 Z Z Z Z λr h=>vH (Ek (xs:=[.tmp 14,.tmp 16,.tmp 18,.tmp 20]) (es:=map eI [d.AX,d.BF,d.No,d.At]) QF Z Z Z Z Z ⟨Z,Z,Z,Z,trivial⟩ Z Z) ?_;refine Fg 17 Z Z (Cn Z h (λ_ h=>?_) (λ_ h=>?_))
 .refine Gc 27 Z (vH (Ek (xs:=[.tmp 30,.tmp 32,.tmp 34,.tmp 36,.tmp 38,.tmp 40,.tmp 42,.tmp 44]) (es:=map eI [d.AP.BU,d.AP.AN,d.AP.Aw,d.AP.BK,d.AP.B7,d.AP.BB,d.AP.Bl,d.AP.B6]) QF Z Z Z Z Z ⟨Z,Z,Z,Z,Z,Z,Z,Z,trivial⟩ Z Z) ?_);refine FE Z (Bd h λl2 Q h=>vH (Qj (e:=eI) Q QF EB (QC (i:=3))) ?_);exact au h
 refine Gc 6 Z (Cn Z h (λ_ h=>?_) (λ_ h=>?_))
 .refine Gc 19 Z (vH (Ek (xs:=[.tmp 53,.tmp 55,.tmp 57,.tmp 59]) (es:=map eI [d.A5.Al,d.A5.Ah,d.A5.BB,d.A5.BD]) QF Z Z Z Z Z ⟨Z,Z,Z,Z,trivial⟩ Z Z) ?_);refine FE Z (Bd h λl4 T h=>vH (Qj (e:=eI) T QF EB (QC (i:=3))) ?_);exact au h
 refine Gc 6 Z (Cn Z h (λ_ h=>?_) (λ_ h=>?_))
 .refine Gc 21 Z (vH (Ek (xs:=[.tmp 68,.tmp 70,.tmp 72,.tmp 74,.tmp 76]) (es:=map eI [d.Aa.Al,d.Aa.Ah,d.Aa.BD,d.Aa.True,d.Aa.B8]) QF Z Z Z Z Z ⟨Z,Z,Z,Z,Z,trivial⟩ Z Z) ?_);refine FE Z (Bd h λl6 W h=>vH (Qj (e:=eI) W QF EB (QC (i:=3))) ?_);exact au h
 refine Gc 6 Z (Cn Z h (λ_ h=>?_) (λ_ h=>?_))
 .refine Gc 27 Z (vH (Ek (xs:=[.tmp 85,.tmp 87,.tmp 89,.tmp 91,.tmp 93,.tmp 95,.tmp 97,.tmp 99]) (es:=map eI [d.Ao.Bt,d.Ao.Bg,d.Ao.Bc,d.Ao.Bs,d.Ao.Bf,d.Ao.Bb,d.Ao.Bo,d.Ao.Br]) QF Z Z Z Z Z ⟨Z,Z,Z,Z,Z,Z,Z,Z,trivial⟩ Z Z) ?_);refine FE Z (Bd h λl8 Y h=>vH (Qj (e:=eI) Y QF EB (QC (i:=3))) ?_);exact au h
 refine Gc 6 Z (Cn Z h (λ_ h=>?_) (λ_ h=>?_))
 .refine Gc 19 Z (vH (Ek (xs:=[.tmp 108,.tmp 110,.tmp 112,.tmp 114]) (es:=map eI [d.Ae.BU,d.Ae.AT,d.Ae.Lo,d.Ae.Hi]) QF Z Z Z Z Z ⟨Z,Z,Z,Z,trivial⟩ Z Z) ?_);refine FE Z (Bd h λab f h=>vH (Qj (e:=eI) f QF EB (QC (i:=3))) ?_);exact au h
 refine Gc 6 Z (Cn Z h (λ_ h=>?_) (λ_ h=>?_))
 .refine Gc 19 Z (vH (Ek (xs:=[.tmp 123,.tmp 125,.tmp 127,.tmp 129]) (es:=map eI [d.Au.Al,d.Au.Ah,d.Au.Lo,d.Au.Hi]) QF Z Z Z Z Z ⟨Z,Z,Z,Z,trivial⟩ Z Z) ?_);refine FE Z (Bd h λac j h=>vH (Qj (e:=eI) j QF EB (QC (i:=3))) ?_);exact au h
 refine Gc 6 Z (Cn Z h (λ_ h=>?_) (λ_ h=>?_))
 .refine Gc 9 Z (vH (Ek (xs:=[.tmp 137,.tmp 140]) (es:=map eI [d.Be.A,d.Be.B]) QF Z Z Z Z Z ⟨Z,Z,trivial⟩ Z Z) ?_);refine FE Z (Bd h λad q h=>vH (Qj (e:=eI) q QF EB (QC (i:=2))) ?_);exact au h
 refine Gc 6 Z (Cn Z h (λ_ h=>?_) (λ_ h=>?_))
 .refine Gc 19 Z (vH (Ek (xs:=[.tmp 149,.tmp 151,.tmp 153,.tmp 155]) (es:=map eI [d.Aj.BJ,d.Aj.BU,d.Aj.AZ,d.Aj.AT]) QF Z Z Z Z Z ⟨Z,Z,Z,Z,trivial⟩ Z Z) ?_);refine FE Z (Bd h λae x h=>vH (Qj (e:=eI) x QF EB (QC (i:=3))) ?_);exact au h
 refine Gc 6 Z (Cn Z h (λ_ h=>?_) (λ_ h=>?_))
 .refine Gc 19 Z (vH (Ek (xs:=[.tmp 164,.tmp 166,.tmp 168,.tmp 170]) (es:=map eI [d.Ay.BJ,d.Ay.By,d.Ay.Bk,d.Ay.B4]) QF Z Z Z Z Z ⟨Z,Z,Z,Z,trivial⟩ Z Z) ?_);refine FE Z (Bd h λaf E h=>vH (Qj (e:=eI) E QF EB (QC (i:=3))) ?_);exact au h
 refine Gc 6 Z (Cn Z h (λ_ h=>?_) (λ_ h=>?_))
 .refine Gc 23 Z (vH (Ek (xs:=[.tmp 179,.tmp 181,.tmp 183,.tmp 185,.tmp 187,.tmp 189]) (es:=map eI [d.Ag.BJ,d.Ag.BW,d.Ag.AX,d.Ag.BU,d.Ag.AT,d.Ag.BO]) QF Z Z Z Z Z ⟨Z,Z,Z,Z,Z,Z,trivial⟩ Z Z) ?_);refine FE Z (Bd h λag G h=>vH (Qj (e:=eI) G QF EB (QC (i:=3))) ?_);exact au h
 refine Gc 6 Z (Cn Z h (λ_ h=>?_) (λ_ h=>?_))
 .refine Gc 8 Z (Cn Z h (λ_ h=>?_) (λ_ h=>?_))
  .refine Gc 6 Z (vH (Ek (xs:=[.tmp 200,.const (.int .i64 1)]) (es:=map eI [d.BE.BJ,1]) QF Z Z Z Z Z ⟨Z,Z,trivial⟩ Z Z) ?_);refine FE Z (Bd h λah L h=>vH (Qj (e:=eI) L QF EB (QC (i:=2))) ?_);exact au h
  refine Gc 8 Z (vH (Ek (xs:=[.tmp 206,.const (.int .i64 0)]) (es:=map eI [d.BE.BJ,0]) QF Z Z Z Z Z ⟨Z,Z,trivial⟩ Z Z) ?_);refine FE Z (Bd h λai M h=>vH (Qj (e:=eI) M QF EB (QC (i:=2))) ?_);exact au h
 refine Gc 6 Z (Cn Z h (λ_ h=>?_) (λ_ h=>?_))
 .refine Gc 9 Z (vH (Ek (xs:=[.tmp 214,.tmp 217]) (es:=map eI [d.Bq.BF,d.Bq.No]) QF Z Z Z Z Z ⟨Z,Z,trivial⟩ Z Z) ?_);refine FE Z (Bd h λaj O h=>vH (Qj (e:=eI) O QF EB (QC (i:=2))) ?_);exact au h
 exact au h
def W3(n:Nat)(d:Int):AB Unit:=AC ()
instance jP(d:Int):Kq (W3 n d) 277 [I d] [] (λ_=>.a [I 1,I d,.str [],.q 4 (map Value.enc [])]) (λ_=>[.c 351 [I 1,I d,.str [],.q 4 (map Value.enc [])]]):=KA func277
def Tl(g:AA Int)(d:(AA AL)×Int):AB (CG ((AA AL)×Int) (AA AL)):=(bif d.2<(AI g:Int) then AH (CJ g d.2) λf=>AH (W3 n f) λj=>AH (app d.1 [{AX:=1,N:=f,S:=[],L:=[]:AL}]) λh=>AC (.k (h,i64.wrap (d.2+1)))else AC (.d d.1))
def Ot(f:AA Int):AB (AA AL):=AH (iter (Tl n f) n ([],0):AB (AA AL)) λd=>AC d
instance xe(F:AA Int):Kq (Ot n F) 216 [.q 1 (map eI F)] [] (λr=>.a [I 3,I 0,.str [],.o 0 (AI r) 4]) (λr=>[.r 351 4 (map Value.enc r),.c 351 [I 3,I 0,.str [],.o 0 (AI r) 4]]):=by
 refine Kg 7 func216 Z Z Z Z λr h=>?_;refine vV (CT.build (zs:=[I 0,I 0,.str [],.n]) zeroValue351 (Fu Z) _c) ?_;refine Fg 9 Z Z (Bd h λg G h=>Cg g [0,1,0] [2,3] Ze (λg=>[(1,.c 351 [I 3,I 0,.str [],.o 2 (AI g) 4]),(2,.r 351 4 (map Value.enc g))]) Zf ?_ ?_)
 .refine G0 1 Z (Lp [0,1,0] [0,2,3] (λf=>[(4,I f.2)]) (λf=>[(1,.c 351 [I 3,I 0,.str [],.o 2 (AI f.1) 4]),(2,.r 351 4 (map Value.enc f.1))]) G Zf ?_ ?_)
  .exact En (Yb (i:=1) (m:=3) (k:=4) Z Z Z) (Lr [0,1,2])
  intro f H d q;refine G0 5 Z (Lg 3 Z Z (Q8 Z d (λ_ d=>?_) (λ_ d=>?_)))
  .exact Gc 2 Z (QH d (Gx 1 Z (DW q d (Lr [0,1,2]))))
  refine Gc 4 Z (Hn 8 [6] [(0,0,1),(0,0,1),(0,0,0),(0,0,0),(0,0,0),(0,0,0),(1,0,0),(0,1,1)] (by kernel_rfl) (Dk 1 Z (KR (lo:=0) ⟨Z,trivial⟩ ?_)));refine Dk 2 Z ?_;obtain⟨j,y,d⟩:=QE d;refine DK.wo (x:=.rp [I j]) ?_ ?_
  .exact Ix y EB EC Z Wp
  refine Dk 1 Z ?_;obtain⟨J,B,d⟩:=QE d;refine Ex (x:=.a [I 1,I j,.str [],.q 4 (map Value.enc [])]) (X1:=[.c 351 (Value.c UK),.c 351 [I 3,I 0,.str [],.o 2 (AI f.1) 4],.r 351 4 (map Value.enc f.1),.c 351 [I 1,I j,.str [],.q 4 (map Value.enc [])]]) ?_ ?_
  .refine Qg [] (C8.fn call277 Z Z Z) ((jP _ _).c _ B) ?_;rintro _ _ ⟨rfl,rfl⟩;exact FE Z Wp
  refine DK.wo (x:=.q 4 (map Value.enc [{AX:=1,N:=j,S:=[],L:=[]:AL}])) ?_ ?_
  .refine vH (QO (xs:=[.tmp 18]) pR Z Z Z Z Z ⟨Z,trivial⟩ Z Z) ?_;exact Wp
  refine DK.done Z Z (Bd d λM E d=>(vH (Qj E pR runUnderlying349 La) ?_));exact au d
 exact au h
def UM(n:Nat)(f:AL)(rec271:AL->AB Bool)(d:Int):AB (CG Int (CG Unit Bool)):=(bif d<(AI f.L:Int) then AH (CJ f.L d) λg=>AH (rec271 g) λh=>(bif (!h)then AC (.d (.d AD))else AC (.k (i64.wrap (d+1))))else AC (.d (.k ())))
def Z3(rec271:AL->AB Bool)(n:Nat)(d:AL):AB Bool:=(bif (d.AX==1)then AH ((bif (d.S==[])then AC ((AI d.L:Int)==0)else AC AD):AB Bool) λj=>AC j else(bif (d.AX==2)then AH ((bif (d.N==0)then AC ((AI d.L:Int)==0)else AC AD):AB Bool) λm=>AC m else(bif (d.AX==3)then AH (iter (UM n d rec271) n 0:AB (CG Unit Bool)) λg=>match g with|.k f=>(AH ((bif (d.N==0)then AC (d.S==[])else AC AD):AB Bool) λh=>AC h)|.d f=>AC f else AC AD)))
theorem QaX(rec271:AL->AB Bool)(B:∀(f:AL),Ks (rec271 f) 307 [.a (Value.c f)] [] (λr=>.b r))(n:Nat)(f:AL):Ks (Z3 rec271 n f) 307 [.a (Value.c f)] [] (λr=>.b r):=by
 refine Kg 20 func307 Z Z Z Z λr h=>Cn Z h (λ_ h=>?_) (λ_ h=>?_)
 .exact au h
 refine Gc 6 Z (Cn Z h (λ_ h=>?_) (λ_ h=>?_))
 .exact au h
 refine Gc 6 Z (Cn Z h (λ_ h=>?_) (λ_ h=>?_))
 .refine Gc 6 Z (Bd h λG J h=>Fe (b:=G) [0] [1] Ze Ze Zf ?_ (λP env H L M=>?_))
  .refine G0 1 Z (Lp [0] [1] (λm=>[(3,I m)]) Ze J Zf (Lr [0]) λm R d g=>?_);refine G0 6 Z (Lg 3 Z Z (Q8 Z d (λ_ d=>?_) (λ_ d=>?_)))
   .exact Je g d
   refine Gc 9 Z (Bd d λN x d=>FW x (mv N) Z (Go 1 Z (Cz [] d Kc Z λT Q d=>Go 3 Z (Cn Z d (λ_ d=>?_) (λ_ d=>?_)))))
   .exact DX g d h
   exact au d
  subst L;refine Gx 1 Z (Ee M (Gc 1 Z (Bd h λj O h=>Cg j [] [] (λj=>[(2,.b j)]) Ze Zf ?_ ?_)))
  .exact au O
  exact au h
 exact au h
def Tu:Nat->AL->AB Bool
  |0=>λ_=>AF
  |n+1=>Z3 (Tu n) n
instance k_o:∀(d:AL),Ks (Tu n d) 307 [.a (Value.c d)] [] (λr=>.b r):=by
  induction n with
  |zero=>exact λ_=>⟨nofun⟩
  |succ n ih=>exact QaX _ ih n
def Ts(n:Nat)(g:AL)(rec272:AL->AB Int)(d:Int×Int):AB (CG (Int×Int) Int):=(bif d.2<(AI g.L:Int) then AH (CJ g.L d.2) λh=>AH (rec272 h) λf=>AC (.k ((if d.1<f then f else d.1),i64.wrap (d.2+1)))else AC (.d d.1))
def Z0(rec272:AL->AB Int)(n:Nat)(d:AL):AB Int:=(bif (d.AX != 3)then AC 0 else AH (iter (Ts n d rec272) n (0,0):AB Int) λf=>AC (i64.wrap (f+1)))
theorem Qbd(rec272:AL->AB Int)(y:∀(g:AL),Ks (rec272 g) 308 [.a (Value.c g)] [] (λr=>I r))(n:Nat)(g:AL):Ks (Z0 rec272 n g) 308 [.a (Value.c g)] [] (λr=>I r):=by
 refine Kg 14 func308 Z Z Z Z λr h=>Cn Z h (λ_ h=>?_) (λ_ h=>?_)
 .exact au h
 refine Gc 13 Z (Bd h λm E h=>Cg m [] [] (λm=>[(3,I m)]) Ze Zf ?_ ?_)
 .refine G0 1 Z (Lp [0] [1] (λf=>[(3,I f.1),(4,I f.2)]) Ze E Zf (Lr [0]) λf H d q=>?_);refine G0 6 Z (Lg 3 Z Z (Q8 Z d (λ_ d=>?_) (λ_ d=>?_)))
  .exact Gc 2 Z (QH d (Gx 1 Z (DW q d (Lr []))))
  refine Gc 9 Z (Bd d λF x d=>FW x (mv F) Z (Go 1 Z (Cz [] d Kc Z λj G d=>?_)));refine vX (I (if f.1<j then j else f.1)) (CT.max Z Z Z Z) ?_;exact au d
 exact au h
def TK:Nat->AL->AB Int
  |0=>λ_=>AF
  |n+1=>Z0 (TK n) n
instance k_q:∀(d:AL),Ks (TK n d) 308 [.a (Value.c d)] [] (λr=>I r):=by
  induction n with
  |zero=>exact λ_=>⟨nofun⟩
  |succ n ih=>exact Qbd _ ih n
def WH(d:AL):AB Int:=AH (Tu n d) λf=>(bif (!f)then AC 1 else AH (TK n d) λg=>(bif 16<g then AC 2 else AC 0))
instance wT(d:AL):Ks (WH n d) 275 [.a (Value.c d)] [] (λr=>I r):=KA func275
def Pd(n:Nat)(d:Int):AB Int:=(bif 0<=d then AC (u64.wrap (2*(u64.wrap d)))else AC (u64.wrap ((u64.wrap (2*(u64.wrap (i64.wrap (0-(i64.wrap (d+1)))))))+1)))
instance yY(d:Int):Ks (Pd n d) 310 [I d] [] (λr=>.i .u64 r):=by
 refine Kg 12 func310 Z Z Z Z λr h=>Cn Z h (λ_ h=>?_) (λ_ h=>?_)
 .refine Gc 3 Z (vV (Ro Z E4 Gn Z) ?_);exact Gt 6 Z h 2 []
 refine Gc 7 Z (vV (Ro Z E4 Gn Z) ?_);exact Gt 6 Z h 2 []
def Z5(rec275:Int->AB (AA Int))(n:Nat)(d:Int):AB (AA Int):=(bif d<128 then AC [u8.wrap d]else AH (rec275 (u64.wrap (Int.tdiv d 128))) λf=>AH (app [u8.wrap (u64.wrap ((Int.tmod d 128)+128))] f) λg=>AC g)
theorem QaH(rec275:Int->AB (AA Int))(f:∀(d:Int),Kq (rec275 d) 309 [.i .u64 d] [] (λr=>.o 0 (AI r) 1) (λr=>[.r 5 1 (map (Yq .u8) r)]))(n:Nat)(d:Int):Kq (Z5 rec275 n d) 309 [.i .u64 d] [] (λr=>.o 0 (AI r) 1) (λr=>[.r 5 1 (map (Yq .u8) r)]):=by
 refine Kg 12 func309 Z Z Z Z λr h=>Cn Z h (λ_ h=>?_) (λ_ h=>?_)
 .refine Gc 3 Z ?_;refine vX (.i .u8 (u8.wrap d)) (Ro Z Gn Gi Z) ?_;exact au h
 refine Gc 5 Z ?_;refine vX (.i .u64 (Int.tmod d 128)) (CT.rem Z Z Z (by decide)) ?_;refine Go 1 Z ?_;refine vV (x:=(.i .u8 (u8.wrap (u64.wrap ((Int.tmod d 128)+128))))) (Ro Z Gn Gi Z) ?_;refine vH (Ek (xs:=[.tmp 11]) (es:=map (Yq .u8) [u8.wrap (u64.wrap ((Int.tmod d 128)+128))]) N9 Z Z Z Z Z ⟨Z,trivial⟩ Z Z) ?_;refine Fg 1 Z Z ?_;refine vX (.i .u64 (u64.wrap (Int.tdiv d 128))) (CT.quo Z Z Z (by decide)) ?_;refine Cd [] h Kc Z λq m h=>FE Z (Bd h λt j h=>vH (Qj (e:=(Yq .u8)) j N9 EX (QC (i:=1))) ?_);exact au h
def Ry:Nat->Int->AB (AA Int)
  |0=>λ_=>AF
  |n+1=>Z5 (Ry n) n
instance k_l:∀(d:Int),Kq (Ry n d) 309 [.i .u64 d] [] (λr=>.o 0 (AI r) 1) (λr=>[.r 5 1 (map (Yq .u8) r)]):=by
  induction n with
  |zero=>exact λ_=>⟨nofun⟩
  |succ n ih=>exact QaH _ ih n
def V1(n:Nat)(f:AL)(rec273:AL->AB (AA Int))(d:(AA Int)×Int):AB (CG ((AA Int)×Int) (AA Int)):=(bif d.2<(AI f.L:Int) then AH (CJ f.L d.2) λg=>AH (rec273 g) λh=>AH (app d.1 h) λj=>AC (.k (j,i64.wrap (d.2+1)))else AC (.d d.1))
def Z4(rec273:AL->AB (AA Int))(n:Nat)(d:AL):AB (AA Int):=(bif (d.AX==1)then AH (Pd n d.N) λg=>AH (Ry n g) λh=>AH (app [1] h) λj=>AC j else(bif (d.AX==2)then AF else AH (Ry n (u64.wrap (AI d.L:Int))) λm=>AH (app [3] m) λq=>AH (iter (V1 n d rec273) n (q,0):AB (AA Int)) λf=>AC f))
theorem QaW(rec273:AL->AB (AA Int))(y:∀(j:AL),Kq (rec273 j) 276 [.a (Value.c j)] [] (λr=>.o 0 (AI r) 1) (λr=>[.r 5 1 (map (Yq .u8) r)]))(n:Nat)(j:AL):Kq (Z4 rec273 n j) 276 [.a (Value.c j)] [] (λr=>.o 0 (AI r) 1) (λr=>[.r 5 1 (map (Yq .u8) r)]):=by
 refine Kg 20 func276 Z Z Z Z λr h=>Cn Z h (λ_ h=>?_) (λ_ h=>?_)
 .refine Gc 2 Z (vH (Ek (xs:=[.const (.int .u8 1)]) (es:=map (Yq .u8) [1]) N9 Z Z Z Z Z ⟨Z,trivial⟩ Z Z) ?_);refine Fg 2 Z Z (Cz [] h Kc Z λV N h=>Cd [] h Kc Z λW O h=>FE Z (Bd h λX E h=>vH (Qj (e:=(Yq .u8)) E N9 EX (QC (i:=2))) ?_));exact au h
 refine Gc 6 Z (Cn Z h (λ_ h=>?_) (λ_ h=>?_))
 .refine Gc 1 Z ?_;cases h
 refine Gc 5 Z (vH (Ek (xs:=[.const (.int .u8 3)]) (es:=map (Yq .u8) [3]) N9 Z Z Z Z Z ⟨Z,trivial⟩ Z Z) ?_);refine Fg 2 Z Z (Lm Z ?_);refine vX (.i .u64 (u64.wrap (AI j.L:Int))) (Ro Z E4 Gn Z) ?_;refine Cd [] h Kc Z λY P h=>FE Z (Bd h λl9 G h=>vH (Qj (e:=(Yq .u8)) G N9 EX (QC (i:=2))) ?_);refine Fg 9 Z Z (Bd h λf H h=>Cg f [1] [] (λf=>[(3,.o 0 (AI f) 1)]) (λf=>[(0,.r 5 1 (map (Yq .u8) f))]) Zf ?_ ?_)
 .refine G0 1 Z (Lp [0,3] [1] (λg=>[(3,.o 1 (AI g.1) 1),(4,I g.2)]) (λg=>[(1,.r 5 1 (map (Yq .u8) g.1))]) H Zf (Lr [0,3]) λg Q d m=>?_);refine G0 6 Z (Lg 3 Z Z (Q8 Z d (λ_ d=>?_) (λ_ d=>?_)))
  .exact Gc 2 Z (QH d (Gx 1 Z (DW m d (Lr [1]))))
  refine Gc 9 Z (Bd d λJ t d=>FW t (mv J) Z (Go 1 Z (Cd [] d Kc Z λR M d=>FE Z (Bd d λT x d=>vH (Qj (e:=(Yq .u8)) x N9 EX (QC (i:=2))) ?_))));exact au d
 exact au h
def UU:Nat->AL->AB (AA Int)
  |0=>λ_=>AF
  |n+1=>Z4 (UU n) n
instance k_n:∀(d:AL),Kq (UU n d) 276 [.a (Value.c d)] [] (λr=>.o 0 (AI r) 1) (λr=>[.r 5 1 (map (Yq .u8) r)]):=by
  induction n with
  |zero=>exact λ_=>⟨nofun⟩
  |succ n ih=>exact QaW _ ih n
def V'(d:AL):AB ((AA Int)×Int):=AH (WH n d) λf=>(bif (f != 0)then AC ([],f)else AH (UU n d) λg=>AC (g,0))
instance wM(d:AL):Kq (V' n d) 215 [.a (Value.c d)] [] (λr=>.t [.o 0 (AI r.1) 1,I r.2]) (λr=>[.r 5 1 (map (Yq .u8) r.1)]):=by
 refine Kg 10 func215 Z Z Z Z λr h=>Cz [] h Kc Z λj g h=>Go 10 Z (Cn Z h (λ_ h=>?_) (λ_ h=>?_))
 .refine Gc 9 Z ?_;obtain rfl:=Oi h;refine R2 2 3 Z Z ?_;exact En (Er (s:=2) (XQ Z) Z) (Lr [1])
 exact au h
def MW(d:CI):AB ((AA Int)×Int):=AH (J9 n d) λg=>(bif (g != 0)then AC ([],120)else AH (O5 n d) λh=>AH (Ot n h) λj=>AH (V' n ({AX:=3,N:=0,S:=[],L:=j:AL})) λf=>AC (f.1,f.2))
instance yr(d:CI):Kq (MW n d) 144 [.a (CI.c d)] [] (λr=>.t [.o 0 (AI r.1) 1,I r.2]) (λr=>[.r 5 1 (map (Yq .u8) r.1)]):=by
 refine Kg 11 func144 Z Z Z Z λr h=>Cz [] h Kc Z λq g h=>Go 3 Z (Cn Z h (λ_ h=>?_) (λ_ h=>?_))
 .refine Gc 8 Z ?_;obtain rfl:=Oi h;refine R2 2 3 Z Z ?_;exact En (Er (s:=2) (XQ Z) Z) (Lr [1])
 refine Gc 5 Z (Cd [] h Kc Z λt j h=>FE Z (Et (Yl [(8,_)] Z Z (Cx.cons Z Ep Cx.nil) (Ec (Ec (QU _)))) ?_));refine Cd [] h Kc Z λx m h=>FE Z (Et (Yl [(9,_)] Z Z (Cx.cons Z (DN.agg (CW.k (CW.k (CW.k (Ed Ep (Ej _)))))) Cx.nil) (Ec (Ec (Ec (Dm.cells (CW.k (CW.k (CW.k (Ed Ep (Ej _))))) (QU _)))))) ?_);exact au h
def T5(n:Nat)(f:CI)(g:CI)(d:Int):AB (CG Int (CG Unit Int)):=(bif d<3 then AH (CJ [f.At,f.BF,f.No] d) λh=>AH (CJ [g.At,g.BF,g.No] d) λj=>(bif h<j then AC (.d (.d (-1)))else AH (CJ [f.At,f.BF,f.No] d) λm=>AH (CJ [g.At,g.BF,g.No] d) λq=>(bif q<m then AC (.d (.d 1))else AC (.k (i64.wrap (d+1)))))else AC (.d (.k ())))
def PA(h:CI)(j:CI):AB Int:=AH (iter (T5 n h j) n 0:AB (CG Unit Int)) λm=>match m with|.k d=>(AH (MW n h) λf=>AH (MW n j) λg=>(bif Op.bytesLess (map JA f.1) (map JA g.1)then AC (-1)else(bif (!(Op.bytesLess (map JA f.1) (map JA g.1)||(map JA f.1)==(map JA g.1)))then AC 1 else AC 0)))|.d d=>AC d
instance xz(q:CI)(t:CI):Ks (PA n q t) 80 [.a (CI.c q),.a (CI.c t)] [] (λr=>I r):=by
 refine Kg 15 func80 Z Z Z Z λr h=>vH (Ek (xs:=[.tmp 13,.tmp 15,.tmp 17]) (es:=map eI [q.At,q.BF,q.No]) QF Z Z Z Z Z ⟨Z,Z,Z,trivial⟩ Z Z) ?_;refine Fg 11 Z Z (vH (Ek (xs:=[.tmp 20,.tmp 22,.tmp 24]) (es:=map eI [t.At,t.BF,t.No]) QF Z Z Z Z Z ⟨Z,Z,Z,trivial⟩ Z Z) ?_);refine Fg 9 Z Z (Bd h λL M h=>E_ (b:=L) [0,1] [2,3] Ze Ze Zf ?_ (λ_ N=>?_))
 .refine G0 1 Z (Lp [0,1,2,3] [2,3,5,6] (λf=>[(7,I f)]) Ze M Zf (Lr [0,1,2,3]) λf X d g=>?_);refine G0 7 Z (Q8 Z d (λ_ d=>?_) (λ_ d=>?_))
  .exact Je g d
  refine Gc 6 Z (DU 8 Z (D 2 Z ?_));obtain⟨O,y,d⟩:=QE d;refine DS.v (x:=(.p 2 (toNat f*1))) (Qd y Z EB EC) ?_;refine DS.v (x:=(I O)) (Ez Z EE Z (Qh y)) ?_;refine D 2 Z ?_;obtain⟨P,B,d⟩:=QE d;refine DS.v (x:=(.p 3 (toNat f*1))) (Qd B Z EB EC) ?_;refine DS.v (x:=(I P)) (Ez Z EE Z (Qh B)) ?_;refine Eg Z (Go 3 Z (Cn Z d (λ_ d=>?_) (λ_ d=>?_)))
  .exact DX g d h
  refine Gc 3 Z (DU 8 Z (D 2 Z ?_));obtain⟨Q,E,d⟩:=QE d;refine DS.v (x:=(.p 2 (toNat f*1))) (Qd E Z EB EC) ?_;refine DS.v (x:=(I Q)) (Ez Z EE Z (Qh E)) ?_;refine D 2 Z ?_;obtain⟨R,F,d⟩:=QE d;refine DS.v (x:=(.p 3 (toNat f*1))) (Qd F Z EB EC) ?_;refine DS.v (x:=(I R)) (Ez Z EE Z (Qh F)) ?_;exact DX g d h
 subst N;refine Gc 3 Z (Cd [] h Kc Z λj V h=>Fg 10 Z Z (Cd [] h Kc Z λm W h=>Fg 11 Z Z ?_));refine vX (.str (map JA j.1)) (iL (l:=j.1) (HI.row (i:=2)) EX Gi Gh) ?_;refine Go 1 Z ?_;refine vX (.str (map JA m.1)) (iL (l:=m.1) (HI.row (i:=3)) EX Gi Gh) ?_;refine Go 3 Z (Cn Z h (λ_ h=>?_) (λ_ h=>?_))
 .exact au h
 refine Gc 6 Z ?_;refine vX (.str (map JA j.1)) (iL (l:=j.1) (HI.row (i:=2)) EX Gi Gh) ?_;refine Go 1 Z ?_;refine vX (.str (map JA m.1)) (iL (l:=m.1) (HI.row (i:=3)) EX Gi Gh) ?_;refine vV (QmT Z Z Z) ?_;exact au h
def na(q:AA CI)(f:(AA CI)×Int)(d:Int):AB (CG Int Int):=AH ((bif d<(AI f.1:Int) then AH (CJ f.1 d) λg=>AH (CJ q f.2) λh=>AH (PA n g h) λj=>AC (AG (j<0))else AC AD):AB Bool) λm=>(bif m then AC (.k (i64.wrap (d+1)))else AC (.d d))
def MQ(g:AA CI)(d:(AA CI)×Int):AB (CG ((AA CI)×Int) (AA CI)):=(bif d.2<(AI g:Int) then AH (AH (CJ g d.2) λh=>AH (J9 n h) λj=>(bif (j != 0)then AC d.1 else AH (iter (na n g d) n 0:AB Int) λf=>AH ((bif f<(AI d.1:Int) then AH (CJ d.1 f) λm=>AH (CJ g d.2) λq=>AC (m==q)else AC AD):AB Bool) λt=>(bif t then AC d.1 else AH (Dn d.1 0 f) λx=>AH (app ([]:AA CI) x) λy=>AH (CJ g d.2) λB=>AH (app y [B]) λE=>AH (Dn d.1 f (AI d.1:Int)) λF=>AH (app E F) λG=>AC G)):AB (AA CI)) λH=>AC (.k (H,i64.wrap (d.2+1)))else AC (.d d.1))
def Kx(f:AA CI):AB (AA CI):=AH (iter (MQ n f) n (([]:AA CI),0):AB (AA CI)) λd=>AC d
instance k_x(a1:AA CI):Kq (Kx n a1) 29 [.q 57 (map CI.c a1)] [] (λr=>.o 0 (AI r) 57) (λr=>[.r 120 57 (map CI.c r)]):=by
 refine Kg 7 func29 Z Z Z Z λr h=>vH (Ek (xs:=[]) (es:=map CI.c []) ZX Z Z Z Z Z trivial Z Z) ?_;refine Fg 9 Z Z (Bd h λG ao h=>Cg G [0] [] (λG=>[(3,.o 0 (AI G) 57)]) (λG=>[(0,.r 120 57 (map CI.c G))]) Zf ?_ ?_)
 .refine G0 1 Z (Lp [0] [0] (λg=>[(3,.o 0 (AI g.1) 57),(4,I g.2)]) (λg=>[(0,.r 120 57 (map CI.c g.1))]) ao Zf (Lr [0]) λg ax y aa=>?_);refine G0 5 Z (Lg 3 Z Z (Q8 Z y (λ_ y=>?_) (λ_ y=>?_)))
  .exact Gc 2 Z (QH y (Gx 1 Z (DW aa y (Lr [0]))))
  refine Gc 3 Z (Bd y λJ f y=>Cg J [0] [0,4] (λJ=>[(3,.o 0 (AI J) 57)]) (λJ=>[(0,.r 120 57 (map CI.c J))]) Zf ?_ ?_)
  .refine G0 6 Z (Bd f λay ac f=>Iz ac Z (Go 1 Z (Cz [] f Kc Z λaz aw f=>Go 3 Z (Cn Z f (λ_ f=>?_) (λ_ f=>?_)))))
   .exact au f
   refine Gc 8 Z (Bd f λj aq f=>Ct j [0] [0,3,4] (λj=>[(5,I j)]) Ze Zf ?_ (λenv H W=>?_))
   .refine G0 1 Z (Lp [0] [0,3,4] (λN=>[(5,I N)]) Ze aq Zf (Lr [0]) λN ba E ae=>?_);refine G0 2 Z (Bd E λO m E=>Ct O [0] [0,3,4,5] (λO=>[(34,.b O)]) Ze Zf ?_ (λenv H W=>?_))
    .refine G0 0 Z (DU 13 Z (D 5 Z (DS.is 4 m Z Z Z (λ_ m=>?_) (λ_ m=>?_))))
     .refine D 2 Z ?_;obtain⟨ar,T,m⟩:=QE m;refine DS.v (x:=(.p 0 (toNat N*57))) (Qd T Z ED EF) ?_ (hg:=(gT Z));refine DS.v (x:=(.a (CI.c ar))) (Qt Z isAgg120 EF Z (Qh T) Z Z) ?_ (hg:=(gT Z));refine D 2 Z ?_;obtain⟨av,ag,m⟩:=QE m;refine DS.v (NB (e:=CI.c) (l:=a1) (v:=av) ag ED EF) ?_ (hg:=(gT Z));exact au m
     exact au m
    refine Gx 1 Z (Ee W (Q8 Z E (λ_ E=>?_) (λ_ E=>?_)))
    .exact Gc 2 Z (QH E (Gx 1 Z (DW ae E (Lr [0]))))
    exact au E
   refine Gx 1 Z (Ee W (Gc 2 Z (Bd f λP t f=>Cg P [0] [0,3,4,5] (λP=>[(51,.b P)]) Ze Zf ?_ ?_)))
   .refine G0 0 Z (DU 13 Z (D 5 Z (DS.is 4 t Z Z Z (λ_ t=>?_) (λ_ t=>?_))))
    .refine D 2 Z ?_;obtain⟨Q,V,t⟩:=QE t;refine DS.v (x:=(.p 0 (toNat j*57))) (Qd V Z ED EF) ?_ (hg:=(gT Z));refine DS.v (x:=(.a (CI.c Q))) (Qt Z isAgg120 EF Z (Qh V) Z Z) ?_ (hg:=(gT Z));refine D 2 Z ?_;obtain⟨R,aj,t⟩:=QE t;refine DS.v (NB (e:=CI.c) (l:=a1) (v:=R) aj ED EF) ?_ (hg:=(gT Z));refine D 1 Z (Eg Z ?_);refine vX (.b (Q==R)) (iK (p:=Q) (q:=R) qB Z Z) ?_ (gT Z);exact au t
    exact au t
   refine Cn Z f (λ_ f=>?_) (λ_ f=>?_)
   .exact au f
   refine Gc 2 Z (Hn 14 [0,4,10] [(1,0,0),(0,0,1),(0,0,1),(0,0,1),(1,1,0),(0,0,2),(0,0,2),(0,0,2),(0,0,2),(0,0,2),(1,2,0),(0,0,3),(0,0,3),(0,0,3)] (by kernel_rfl) ?_);refine Ex (x:=.o 1 (AI ([]:AA CI)) 57) (X1:=[.r 120 57 (map CI.c g.1),.r 120 57 (map CI.c ([]:AA CI))]) ?_ ?_
   .refine vH (Ek (xs:=[]) (es:=map CI.c []) ZX Z Z Z Z Z trivial Z Z) ?_;exact FE Z Wp
   refine Dk 2 Z ?_;obtain⟨bb,L,f⟩:=QE f;refine Ke (lo:=0) (hi:=1) (x:=.s 0 (0+toNat 0) (toNat j-toNat 0) 57) ⟨?_,?_,trivial⟩ ?_
   iterate 2 refine vX (.s 0 (0+toNat 0) (toNat j-toNat 0) 57) (QP (l:=g.1) L ED EF (.inl ⟨Z,Z⟩) (.inr ⟨_,Z,Z⟩)) ?_;exact Wp
   obtain⟨X,al,f⟩:=QE f;refine Ex (x:=.o 2 (AI X) 57) (X1:=[.r 120 57 (map CI.c g.1),.dead,.r 120 57 (map CI.c X)]) ?_ ?_
   .refine vH (Qj (e:=CI.c) al ZX ED (LZ (b:=0) L)) ?_;exact FE Z Wp
   refine Dk 2 Z ?_;obtain⟨d,M,f⟩:=QE f;refine Ke (lo:=0) (hi:=2) (x:=.rp [I d.BF,I d.No,I d.At,I d.AX,I d.AP.BU,I d.AP.AN,I d.AP.Aw,I d.AP.BK,I d.AP.B7,I d.AP.BB,I d.AP.Bl,I d.AP.B6,I d.A5.Al,I d.A5.Ah,I d.A5.BB,I d.A5.BD,I d.Aa.Al,I d.Aa.Ah,I d.Aa.BD,I d.Aa.True,I d.Aa.B8,I d.Ao.Bt,I d.Ao.Bg,I d.Ao.Bc,I d.Ao.Bs,I d.Ao.Bf,I d.Ao.Bb,I d.Ao.Bo,I d.Ao.Br,I d.Ae.BU,I d.Ae.AT,I d.Ae.Lo,I d.Ae.Hi,I d.Au.Al,I d.Au.Ah,I d.Au.Lo,I d.Au.Hi,I d.Be.A,I d.Be.B,I d.Aj.BJ,I d.Aj.BU,I d.Aj.AZ,I d.Aj.AT,I d.Ay.BJ,I d.Ay.By,I d.Ay.Bk,I d.Ay.B4,I d.Ag.BJ,I d.Ag.BW,I d.Ag.AX,I d.Ag.BU,I d.Ag.AT,I d.Ag.BO,I d.BE.BJ,.b d.BE.Bi,I d.Bq.BF,I d.Bq.No]) ⟨?_,?_,?_,trivial⟩ ?_
   iterate 3 exact Ix M ED EF Z Wp
   refine Dk 1 Z ?_;refine Ke (lo:=0) (hi:=2) (x:=.q 57 (map CI.c [d])) ⟨?_,?_,?_,trivial⟩ ?_
   iterate 3 refine vH (QO (xs:=[.tmp 60]) (es:=map CI.c [d]) ZX Z Z Z Z Z ⟨Z,trivial⟩ Z Z) ?_;exact FE Z Wp
   obtain⟨Y,am,f⟩:=QE f;refine Ex (x:=.o 3 (AI Y) 57) (X1:=[.r 120 57 (map CI.c g.1),.dead,.dead,.r 120 57 (map CI.c Y)]) ?_ ?_
   .refine vH (Qj (e:=CI.c) am ZX ED La) ?_;exact FE Z Wp
   refine Dk 2 Z ?_;obtain⟨bc,F,f⟩:=QE f;refine Ke (lo:=0) (hi:=3) (x:=.s 0 (0+toNat j) (toNat (AI g.1:Int)-toNat j) 57) ⟨?_,?_,?_,?_,trivial⟩ ?_
   iterate 4 refine vX (.s 0 (0+toNat j) (toNat (AI g.1:Int)-toNat j) 57) (QP (l:=g.1) F ED EF (.inr ⟨_,Z,Z⟩) (.inl ⟨Z,Z⟩)) ?_;exact Wp
   refine DK.done Z Z (Bd f λbd an f=>?_);refine vH (Qj (e:=CI.c) an ZX ED (LZ (b:=0) F)) ?_;exact au f
  exact au y
 exact au h
def KC(n:Nat)(f:CB)(d:Int):AB Bool:=AH ((bif 0<=d then AC (AG (d<(AI f.Av:Int)))else AC AD):AB Bool) λg=>AC g
instance zY(d:CB)(f:Int):Ks (KC n d f) 125 [.a (CB.c d),I f] [] (λr=>.b r):=KA func125
def Mf(n:Nat)(d:CB)(f:Int):AB Bool:=AH (CJ d.Av f) λg=>AC (g.AX==1)
instance y7(d:CB)(f:Int):Ks (Mf n d f) 196 [.a (CB.c d),I f] [] (λr=>.b r):=KA func196
def PE(n:Nat)(d:CD)(f:CD):AB Bool:=AH ((bif d.Al<f.Al then AC AE else(bif (d.Al==f.Al)then AC (AG (d.Ah<f.Ah))else AC AD)):AB Bool) λg=>AC g
instance yB(d:CD)(f:CD):Ks (PE n d f) 198 [.a (CD.c d),.a (CD.c f)] [] (λr=>.b r):=KA func198
def nZ(f:AA CD)(m:Int)(q:Int)(d:Int):AB (CG Int Int):=AH ((bif d<(AI f:Int) then AH (CJ f d) λg=>AH (PE n g ({Al:=m,Ah:=q,BI:=0:CD})) λh=>AC h else AC AD):AB Bool) λj=>(bif j then AC (.k (i64.wrap (d+1)))else AC (.d d))
def J8(j:CB)(d:AA CD)(g:Int)(h:Int):AB (AA CD):=AH (AH (KC n j g) λF=>(bif (!F)then AC AE else AH (Mf n j g) λG=>AC G):AB Bool) λH=>(bif H then AC d else AH (iter (nZ n d g h) n 0:AB Int) λf=>AH ((bif f<(AI d:Int) then AH (CJ d f) λm=>(bif (m.Al==g)then AH (CJ d f) λq=>AC (q.Ah==h)else AC AD)else AC AD):AB Bool) λt=>(bif t then AC d else AH (Dn d f (AI d:Int)) λx=>AH (app [{Al:=g,Ah:=h,BI:=0:CD}] x) λy=>AH (Dn d 0 f) λB=>AH (app B y) λE=>AC E))
instance zT(a1:CB)(q:AA CD)(N:Int)(O:Int):Kq (J8 n a1 q N O) 131 [.a (CB.c a1),.o 0 (AI q) 3,I N,I O] [.r 209 3 (map CD.c q)] (λr=>.o 1 (AI r) 3) (λr=>[.dead,.r 209 3 (map CD.c r)]):=by
 refine Kg 8 func131 Z Z Z Z λr h=>Bd h λP h5 h=>Ct P [0] [1,2,3] (λP=>[(20,.b P)]) Ze Zf ?_ (λenv H t=>?_)
 .exact au h5
 refine Gx 1 Z (Ee t (Cn Z h (λ_ h=>?_) (λ_ h=>?_)))
 .refine Gc 8 Z ?_;obtain rfl:=Oi h;refine R1 8 Z ?_;refine En (mO (s:=8) (i:=0) Z Z Z) ?_;exact Lr [0,1]
 refine Gc 17 Z (Bd h λg ac h=>Ct g [0,1] [1,2,3,9] (λg=>[(10,I g)]) Ze Zf ?_ (λenv H t=>?_))
 .refine G0 1 Z (Lp [0,1] [1,2,3,9] (λB=>[(10,I B)]) Ze ac Zf (Lr [0,1]) λB ag j Q=>?_);refine G0 2 Z (Bd j λE m j=>Ct E [0,1] [1,2,3,9,10] (λE=>[(36,.b E)]) Ze Zf ?_ (λenv H t=>?_))
  .refine G0 0 Z (DU 10 Z (D 5 Z (DS.is 4 m Z Z Z (λ_ m=>?_) (λ_ m=>?_))))
   .refine D 2 Z ?_;obtain⟨ad,F,m⟩:=QE m;refine DS.v (x:=(.p 0 (toNat B*3))) (Qd F Z ES E6) ?_ (hg:=(gT Z));refine DS.v (x:=(.a (CD.c ad))) (Qt Z isAgg209 E6 Z (Qh F) Z Z) ?_ (hg:=(gT Z));exact au m
   exact au m
  refine Gx 1 Z (Ee t (Q8 Z j (λ_ j=>?_) (λ_ j=>?_)))
  .exact Gc 2 Z (QH j (Gx 1 Z (DW Q j (Lr [0,1]))))
  exact au j
 refine Gx 1 Z (Ee t (Gc 2 Z (Bd h λG d h=>Cg G [0,1] [1,9,10] (λG=>[(60,.b G)]) Ze Zf ?_ ?_)))
 .refine G0 6 Z (Is 43 d Z (λ_ d=>?_) (λ_ d=>?_))
  .refine Go 2 Z (Bd d λae J d=>?_);refine vX (.p 0 (toNat g*3)) (Qd J Z ES E6) ?_ (gT Z);refine H7 (gT Z) sR Z ?_;refine vX (I ae.Al) (Ez Z EE Z (Qh J)) ?_ (gT Z);refine Go 4 Z (Is 52 d Z (λ_ d=>?_) (λ_ d=>?_))
   .refine Go 2 Z (Bd d λaf L d=>?_);refine vX (.p 0 (toNat g*3)) (Qd L Z ES E6) ?_ (gT Z);refine H7 (gT Z) rY Z ?_;refine vX (I af.Ah) (Ez Z EE Z (Qo (f:=1) L)) ?_ (gT Z);exact au d
   exact au d
  exact au d
 refine Cn Z h (λ_ h=>?_) (λ_ h=>?_)
 .refine Gc 8 Z ?_;obtain rfl:=Oi h;refine R1 8 Z ?_;refine En (mO (s:=8) (i:=0) Z Z Z) ?_;exact Lr [0,2]
 refine Gc 3 Z (P7 5 1 [0,1,3,3,3] (by kernel_rfl) (Da 1 Z ?_));refine kO (Ek (xs:=[.tmp 62]) (es:=map CD.c [{Al:=N,Ah:=O,BI:=0:CD}]) gG Z Z Z Z Z ⟨Z,trivial⟩ Z Z) Z Z (Db 2 Z ?_);obtain⟨ah,y,h⟩:=QE h;refine DB.wo2 (x:=.s 0 (0+toNat g) (toNat (AI q:Int)-toNat g) 3) ?_ ?_ ?_
 iterate 2 refine vX (.s 0 (0+toNat g) (toNat (AI q:Int)-toNat g) 3) (QP (l:=q) y ES E6 (.inr ⟨_,Z,Z⟩) (.inl ⟨Z,Z⟩)) ?_;exact Wp
 refine DB.done Z (Bd h λai Y h=>vH (Qj (e:=CD.c) Y gG ES (LZ (b:=0) y)) ?_);refine Fg 8 Z Z (Bd h λaj M h=>?_);refine vX (.s 0 (0+toNat 0) (toNat g-toNat 0) 3) (dc (l:=q) M ES E6) ?_;refine Go 1 Z (Bd h λak aa h=>vH (da (e:=CD.c) M aa gG ES (QC (i:=3))) ?_);exact au h
def VT(h:CB)(f:AA CI)(d:(AA CD)×Int):AB (CG ((AA CD)×Int) (AA CD)):=(bif d.2<(AI f:Int) then AH (CJ f d.2) λg=>AH ((bif (g.AX==2)then AH (CJ f d.2) λJ=>AH (CJ f d.2) λj=>AH (J8 n h d.1 J.A5.Al j.A5.Ah) λm=>AC m else(bif (g.AX==3)then AH (CJ f d.2) λq=>AH (CJ f d.2) λt=>AH (J8 n h d.1 q.Aa.Al t.Aa.Ah) λx=>AC x else(bif (g.AX==4)then AH (CJ f d.2) λy=>AH (CJ f d.2) λB=>AH (J8 n h d.1 y.Ao.Bt B.Ao.Bg) λE=>AH (CJ f d.2) λF=>AH (CJ f d.2) λG=>AH (J8 n h E F.Ao.Bs G.Ao.Bf) λH=>AC H else AC d.1))):AB (AA CD)) λL=>AC (.k (L,i64.wrap (d.2+1)))else AC (.d d.1))
def er(n:Nat)(B:AA CI)(f:(AA CD)×Int)(d:(AA CD)×Int):AB (CG ((AA CD)×Int) (AA CD)):=(bif 0<=d.2 then AH (CJ B d.2) λg=>AH (AH (CJ B d.2) λj=>(bif (j.AX==3)then AH (CJ d.1 f.2) λm=>(bif (g.Aa.Al==m.Al)then AH (CJ d.1 f.2) λq=>AC (g.Aa.Ah==q.Ah)else AC AD)else AC AD):AB Bool) λt=>AH ((bif t then AH (CJ d.1 f.2) λh=>AH (JG d.1 f.2 ({Al:=h.Al,Ah:=h.Ah,BI:=g.Aa.BD:CD})) λx=>AC x else AC d.1):AB (AA CD)) λy=>AC (.k (y,i64.wrap (d.2-1)))else AC (.d d.1))
def eW(g:AA CI)(d:(AA CD)×Int):AB (CG ((AA CD)×Int) (AA CD)):=(bif d.2<(AI d.1:Int) then AH (iter (er n g d) n (d.1,i64.wrap ((AI g:Int)-1)):AB (AA CD)) λf=>AC (.k (f,i64.wrap (d.2+1)))else AC (.d d.1))
def Mb(g:CB)(m:AA CI):AB ((AA CD)×Int):=AH (HL n g) λh=>(bif (h != 0)then AC ([],h)else AH (Kx n m) λj=>AH (iter (VT n g j) n (([]:AA CD),0):AB (AA CD)) λd=>(bif 511<(AI d:Int) then AC ([],2)else AH (iter (eW n j) n (d,0):AB (AA CD)) λf=>AC (f,0)))
instance yx(a1:CB)(a2:AA CI):Kq (Mb n a1 a2) 73 [.a (CB.c a1),.q 57 (map CI.c a2)] [] (λr=>.t [.o 0 (AI r.1) 3,I r.2]) (λr=>[.r 209 3 (map CD.c r.1)]):=by
 refine Kg 10 func73 Z Z Z Z λr h=>Cz [] h Kc Z λr1 bz h=>Go 10 Z (Cn Z h (λ_ h=>?_) (λ_ h=>?_))
 .refine Gc 9 Z ?_;obtain rfl:=Oi h;refine R2 4 5 Z Z ?_;refine En (Er (s:=4) (k:=3) (t:=209) (XQ Z) Z) ?_;exact Lr [1]
 refine Gc 5 Z (Cd [] h Kc Z λr3 ca h=>Fg 5 Z Z (vH (Ek (xs:=[]) (es:=map CD.c []) gG Z Z Z Z Z trivial Z Z) ?_));refine Fg 9 Z Z (Bd h λN bo h=>Ct N [1,2] [7] (λN=>[(8,.o 1 (AI N) 3)]) (λN=>[(1,.r 209 3 (map CD.c N))]) Zf ?_ (λenv H G=>?_))
 .refine G0 1 Z (Lp [0,1,2] [2,7] (λg=>[(8,.o 2 (AI g.1) 3),(9,I g.2)]) (λg=>[(2,.r 209 3 (map CD.c g.1))]) bo Zf (Lr [0,1,2]) λg cb F aw=>?_);refine G0 9 Z (Q8 Z F (λ_ F=>?_) (λ_ F=>?_))
  .exact Gc 2 Z (QH F (Gx 1 Z (DW aw F (Lr [1,2]))))
  refine Gc 8 Z (Bd F λbp ag F=>?_);refine vX (.p 1 (toNat g.2*57)) (Qd ag Z ED EF) ?_;refine Fp TF Z ?_;refine vX (I bp.AX) (Ez Z EE Z (Qo (f:=3) ag)) ?_;refine Go 9 Z (Bd F λO d F=>Ct O [0,1,0] [2,7,9] (λO=>[(8,.o 2 (AI O) 3)]) (λO=>[(2,.r 209 3 (map CD.c O))]) Zf ?_ (λenv H G=>?_))
  .refine G0 0 Z (Cn Z d (λ_ d=>?_) (λ_ d=>?_))
   .refine DU 14 Z (D 4 Z ?_);obtain⟨bq,ah,d⟩:=QE d;refine DS.v (x:=(.p 1 (toNat g.2*57))) (Qd ah Z ED EF) ?_;refine DS.wo (x:=.p 1 (toNat g.2*57+12)) ?_ ?_
    .exact Fp l_ Z Wp
    refine DS.wo (x:=.p 1 (toNat g.2*57+12)) ?_ ?_
    .exact Fp lE Z Wp
    refine DS.v (x:=(I bq.A5.Al)) (Ez Z EE Z (Qo (f:=12) ah)) ?_;refine D 2 Z ?_;obtain⟨az,Q,d⟩:=QE d;refine DS.v (x:=(.p 1 (toNat g.2*57))) (Qd Q Z ED EF) ?_;refine DS.wo (x:=.p 1 (toNat g.2*57+12)) ?_ ?_
    .exact Fp l_ Z Wp
    refine DS.wo (x:=.p 1 (toNat g.2*57+13)) ?_ ?_
    .exact Fp lF Z Wp
    refine DS.v (x:=(I az.A5.Ah)) (Ez Z EE Z (Qo (f:=13) Q)) ?_;exact au d
   refine Gc 6 Z (Cn Z d (λ_ d=>?_) (λ_ d=>?_))
   .refine DU 14 Z (D 4 Z ?_);obtain⟨ba,R,d⟩:=QE d;refine DS.v (x:=(.p 1 (toNat g.2*57))) (Qd R Z ED EF) ?_;refine DS.wo (x:=.p 1 (toNat g.2*57+16)) ?_ ?_
    .exact Fp iG Z Wp
    refine DS.wo (x:=.p 1 (toNat g.2*57+16)) ?_ ?_
    .exact Fp QoE Z Wp
    refine DS.v (x:=(I ba.Aa.Al)) (Ez Z EE Z (Qo (f:=16) R)) ?_;refine D 2 Z ?_;obtain⟨bb,T,d⟩:=QE d;refine DS.v (x:=(.p 1 (toNat g.2*57))) (Qd T Z ED EF) ?_;refine DS.wo (x:=.p 1 (toNat g.2*57+16)) ?_ ?_
    .exact Fp iG Z Wp
    refine DS.wo (x:=.p 1 (toNat g.2*57+17)) ?_ ?_
    .exact Fp QoD Z Wp
    refine DS.v (x:=(I bb.Aa.Ah)) (Ez Z EE Z (Qo (f:=17) T)) ?_;exact au d
   refine Gc 6 Z (Cn Z d (λ_ d=>?_) (λ_ d=>?_))
   .refine Gc 1 Z (DU 14 Z (D 4 Z ?_));obtain⟨bc,V,d⟩:=QE d;refine DS.v (x:=(.p 1 (toNat g.2*57))) (Qd V Z ED EF) ?_;refine DS.wo (x:=.p 1 (toNat g.2*57+21)) ?_ ?_
    .exact Fp d7 Z Wp
    refine DS.wo (x:=.p 1 (toNat g.2*57+21)) ?_ ?_
    .exact Fp QoC Z Wp
    refine DS.v (x:=(I bc.Ao.Bt)) (Ez Z EE Z (Qo (f:=21) V)) ?_;refine D 2 Z ?_;obtain⟨bd,W,d⟩:=QE d;refine DS.v (x:=(.p 1 (toNat g.2*57))) (Qd W Z ED EF) ?_;refine DS.wo (x:=.p 1 (toNat g.2*57+21)) ?_ ?_
    .exact Fp d7 Z Wp
    refine DS.wo (x:=.p 1 (toNat g.2*57+22)) ?_ ?_
    .exact Fp QoB Z Wp
    refine DS.v (x:=(I bd.Ao.Bg)) (Ez Z EE Z (Qo (f:=22) W)) ?_;refine Eg Z (Cd [2] d Kc Z λbs br d=>Fg 3 Z Z (DU 14 Z (D 4 Z ?_)));obtain⟨be,X,d⟩:=QE d;refine DS.v (x:=(.p 1 (toNat g.2*57))) (Qd X Z ED EF) ?_;refine DS.wo (x:=.p 1 (toNat g.2*57+21)) ?_ ?_
    .exact Fp d7 Z Wp
    refine DS.wo (x:=.p 1 (toNat g.2*57+24)) ?_ ?_
    .exact Fp QoA Z Wp
    refine DS.v (x:=(I be.Ao.Bs)) (Ez Z EE Z (Qo (f:=24) X)) ?_;refine D 2 Z ?_;obtain⟨bg,Y,d⟩:=QE d;refine DS.v (x:=(.p 1 (toNat g.2*57))) (Qd Y Z ED EF) ?_;refine DS.wo (x:=.p 1 (toNat g.2*57+21)) ?_ ?_
    .exact Fp d7 Z Wp
    refine DS.wo (x:=.p 1 (toNat g.2*57+25)) ?_ ?_
    .exact Fp Qoz Z Wp
    refine DS.v (x:=(I bg.Ao.Bf)) (Ez Z EE Z (Qo (f:=25) Y)) ?_;exact au d
   exact au d
  exact Gx 3 Z (Ee G (Gc 5 Z (Q1 F (Lr [0,1,2]))))
 refine Gx 1 Z (Ee G (Gc 8 Z (Cn Z h (λ_ h=>?_) (λ_ h=>?_))))
 .refine Gc 8 Z ?_;obtain rfl:=Oi h;refine R2 4 5 Z Z ?_;refine En (Er (s:=4) (k:=3) (t:=209) (XQ Z) Z) ?_;exact Lr [2]
 refine Gc 8 Z (Bd h λJ bh h=>Cg J [1] [] (λJ=>[(8,.o 0 (AI J) 3)]) (λJ=>[(0,.r 209 3 (map CD.c J))]) Zf ?_ ?_)
 .refine G0 1 Z (Lp [0,1] [7] (λq=>[(8,.o 1 (AI q.1) 3),(10,I q.2)]) (λq=>[(1,.r 209 3 (map CD.c q.1))]) bh Zf (Lr [0,1]) λq bu B al=>?_);refine G0 9 Z (Q8 Z B (λ_ B=>?_) (λ_ B=>?_))
  .exact Gc 2 Z (QH B (Gx 1 Z (DW al B (Lr [1]))))
  refine Gc 12 Z (Bd B λL bi B=>Ct L [0,1] [7,10] (λL=>[(8,.o 1 (AI L) 3)]) (λL=>[(1,.r 209 3 (map CD.c L))]) Zf ?_ (λenv H G=>?_))
  .refine G0 1 Z (Lp [0,1] [7,10] (λE=>[(8,.o 1 (AI E.1) 3),(11,I E.2)]) (λE=>[(1,.r 209 3 (map CD.c E.1))]) bi Zf (Lr [0,1]) λE bv m an=>?_);refine G0 7 Z (Q8 Z m (λ_ m=>?_) (λ_ m=>?_))
   .exact Gc 2 Z (QH m (Gx 1 Z (DW an m (Lr [0,1]))))
   refine Gc 8 Z (Bd m λbj aa m=>?_);refine vX (.p 0 (toNat E.2*57)) (Qd aa Z ED EF) ?_;refine Fp iG Z ?_;refine vX (.a (Aa.c bj.Aa)) (Qt Z isAgg100 G1 Z (Qo (f:=16) aa) Z Z) ?_;refine Go 5 Z (Bd m λP j m=>Ct P [0,1,2] [7,8,10,11,12] (λP=>[(144,.b P)]) Ze Zf ?_ (λenv H G=>?_))
   .refine G0 0 Z (DU 24 Z (D 2 Z ?_));obtain⟨bk,ab,j⟩:=QE j;refine DS.v (x:=(.p 0 (toNat E.2*57))) (Qd ab Z ED EF) ?_;refine DS.wo (x:=.p 0 (toNat E.2*57+3)) ?_ ?_
    .exact Fp TF Z Wp
    refine DS.v (x:=(I bk.AX)) (Ez Z EE Z (Qo (f:=3) ab)) ?_;refine D 2 Z (DS.is 6 j Z Z Z (λ_ j=>?_) (λ_ j=>?_))
    .refine D 4 Z ?_;obtain⟨bl,ac,j⟩:=QE j;refine DS.v (x:=(.p 1 (toNat q.2*3))) (Qd ac Z ES E6) ?_ (hg:=(gT Z));refine DS.wo (x:=.p 1 (toNat q.2*3)) ?_ ?_
     .exact H7 (gT Z) sR Z Wp
     refine DS.v (x:=(I bl.Al)) (Ez Z EE Z (Qh ac)) ?_ (hg:=(gT Z));refine D 3 Z (DS.is 16 j Z Z Z (λ_ j=>?_) (λ_ j=>?_))
     .refine D 4 Z ?_;obtain⟨bm,ad,j⟩:=QE j;refine DS.v (x:=(.p 1 (toNat q.2*3))) (Qd ad Z ES E6) ?_ (hg:=(gT Z));refine DS.wo (x:=.p 1 (toNat q.2*3+1)) ?_ ?_
      .exact H7 (gT Z) rY Z Wp
      refine DS.v (x:=(I bm.Ah)) (Ez Z EE Z (Qo (f:=1) ad)) ?_ (hg:=(gT Z));exact au j
     exact au j
    exact au j
   refine Gx 1 Z (Ee G (Bd m λM y m=>Ct M [0,1] [7,10,11] (λM=>[(8,.o 1 (AI M) 3)]) (λM=>[(1,.r 209 3 (map CD.c M))]) Zf ?_ (λenv H G=>?_)))
   .refine G0 0 Z (Cn Z y (λ_ y=>?_) (λ_ y=>?_))
    .refine Gc 5 Z (Bd y λbw ae y=>?_);refine vX (.p 1 (toNat q.2*3)) (Qd ae Z ES E6) ?_;refine Fp Qot Z (Bd y λbx af y=>?_);refine vU (Yp (e:=CD.c) (k:=3) (f:=2) ae af EC Z Z) ?_;refine FE Z ?_;refine Et (QZ (s:=8) Z (congrArg (λn=>A.s 1 0 n 3) (Q6 af))) ?_;exact au y
    exact au y
   exact Gx 2 Z (Ee G (Gc 5 Z (Q1 m (Lr [0,1]))))
  exact Gx 2 Z (Ee G (Gc 5 Z (Q1 B (Lr [0,1]))))
 exact au h
def T3(n:Nat)(f:AA CD)(m:Int)(q:Int)(d:Int):AB (CG Int (CG Unit Int)):=(bif d<(AI f:Int) then AH (AH (CJ f d) λg=>(bif (g.Al==m)then AH (CJ f d) λh=>AC (h.Ah==q)else AC AD):AB Bool) λj=>(bif j then AC (.d (.d (i64.wrap (d+1))))else AC (.k (i64.wrap (d+1))))else AC (.d (.k ())))
def K8(g:AA CD)(h:Int)(j:Int):AB Int:=AH (iter (T3 n g h j) n 0:AB (CG Unit Int)) λf=>match f with|.k d=>(AC 0)|.d d=>AC d
instance zH(d:AA CD)(f:Int)(g:Int):Ks (K8 n d f g) 126 [.q 3 (map CD.c d),I f,I g] [] (λr=>I r):=KA func126
def LM(n:Nat)(f:AA CD)(d:Int)(g:Int)(h:Int):AB CD:=(bif (d==0)then AC ({Al:=g,Ah:=h,BI:=0:CD})else AH (CJ f (i64.wrap (d-1))) λj=>AC j)
instance kM(d:AA CD)(f:Int)(g:Int)(h:Int):Kq (LM n d f g h) 128 [.q 3 (map CD.c d),I f,I g,I h] [] (λr=>.a (CD.c r)) (λr=>[.c 209 (CD.c r)]):=KA func128
def PX(n:Nat)(g:Int)(f:Int):AB (Int×Int):=AH ((bif g<(-2199023255552) then AC AE else(bif 2199023255552<g then AC AE else(bif f<0 then AC AE else AC (AG (100000<f))))):AB Bool) λj=>(bif j then AC (0,1)else AH ((bif g<0 then AC (i64.wrap (0-g))else AC g):AB Int) λd=>AH ((bif (i64.wrap ((i64.wrap (Int.tdiv (i64.wrap (d*f)) 1000000))*1000000))<(i64.wrap (d*f)) then AC (i64.wrap ((i64.wrap (Int.tdiv (i64.wrap (d*f)) 1000000))+1))else AC (i64.wrap (Int.tdiv (i64.wrap (d*f)) 1000000))):AB Int) λh=>AC (h,0))
instance yT(m:Int)(q:Int):Ks (PX n m q) 197 [I m,I q] [] (λr=>.t [I r.1,I r.2]):=by
 refine Kg 8 func197 Z Z Z Z λr h=>Bd h λj B h=>Ct j [] [0,1] (λj=>[(20,.b j)]) Ze Zf ?_ (λenv H d=>?_)
 .exact au B
 refine Gx 1 Z (Ee d (Cn Z h (λ_ h=>?_) (λ_ h=>?_)))
 .exact au h
 refine Gc 9 Z (Bd h λf x h=>Ct f [] [1] (λf=>[(0,I f)]) Ze Zf ?_ (λenv H d=>?_))
 .exact au x
 refine Gx 1 Z (Ee d (Gc 5 Z (vV (CT.quo Z Z Z (by decide)) ?_)));refine Go 14 Z (Bd h λg y h=>Cg g [] [] (λg=>[(6,I g)]) Ze Zf ?_ ?_)
 .exact au y
 exact au h
def LL(d:CB)(f:CD)(h:Int):AB CK:=AH (Mf n d f.Al) λj=>(bif j then AC ({Lo:=0,Hi:=d.AQ.Ak:CK})else AH (PX n (i64.wrap (h-f.BI)) d.AQ.BC) λg=>AC ({Lo:=i64.wrap (0-g.1),Hi:=i64.wrap (d.AQ.Ak+g.1):CK}))
instance kN(d:CB)(f:CD)(g:Int):Kq (LL n d f g) 127 [.a (CB.c d),.a (CD.c f),I g] [] (λr=>.a [I r.Lo,I r.Hi]) (λr=>[.c 83 [I r.Lo,I r.Hi]]):=KA func127
def TY(n:Nat)(g:(AA CD)×Int)(d:(AA Edge)×Int):AB (CG ((AA Edge)×Int) (AA Edge)):=(bif d.2<(AI g.1:Int) then AH (app d.1 [{BA:=0,To:=i64.wrap (d.2+1),W:=1099511627776:Edge},{BA:=i64.wrap (d.2+1),To:=0,W:=1099511627776:Edge}]) λf=>AC (.k (f,i64.wrap (d.2+1)))else AC (.d d.1))
def Tj(E:CB)(h:AA CI)(f:(AA CD)×(AA Edge)×Int):AB (CG ((AA CD)×(AA Edge)×Int) ((AA CD)×(AA Edge))):=(bif f.2.2<(AI h:Int) then AH (AH (CJ h f.2.2) λd=>AH (AH (CJ h f.2.2) λm=>(bif (m.AX != 3)then AC AE else AH (KC n E d.Aa.Al) λq=>AC (!q)):AB Bool) λt=>(bif t then AC f.2.1 else AH (K8 n f.1 d.Aa.Al d.Aa.Ah) λg=>AH (LM n f.1 g d.Aa.Al d.Aa.Ah) λx=>AH (LL n E x d.Aa.BD) λj=>AH (app f.2.1 [{BA:=0,To:=g,W:=i64.wrap ((i64.wrap ((i64.wrap (d.Aa.True+d.Aa.B8))-d.Aa.BD))-j.Lo):Edge},{BA:=g,To:=0,W:=i64.wrap ((i64.wrap ((i64.wrap (d.Aa.BD+j.Hi))-d.Aa.True))+d.Aa.B8):Edge}]) λy=>AC y):AB (AA Edge)) λB=>AC (.k (f.1,B,i64.wrap (f.2.2+1)))else AC (.d (f.1,f.2.1)))
def Tn(x:CB)(m:AA CI)(j:(AA CD)×(AA Edge))(f:(AA Edge)×Int):AB (CG ((AA Edge)×Int) (AA Edge)):=(bif f.2<(AI m:Int) then AH (AH (CJ m f.2) λd=>AH (AH (CJ m f.2) λy=>(bif (y.AX != 4)then AC AE else AH (KC n x d.Ao.Bt) λB=>(bif (!B)then AC AE else AH (KC n x d.Ao.Bs) λE=>AC (!E))):AB Bool) λF=>(bif F then AC f.1 else AH (K8 n j.1 d.Ao.Bt d.Ao.Bg) λg=>AH (K8 n j.1 d.Ao.Bs d.Ao.Bf) λh=>AH (LM n j.1 g d.Ao.Bt d.Ao.Bg) λG=>AH (LL n x G d.Ao.Bc) λq=>AH (LM n j.1 h d.Ao.Bs d.Ao.Bf) λH=>AH (LL n x H d.Ao.Bb) λt=>AH (app f.1 [{BA:=g,To:=h,W:=i64.wrap ((i64.wrap ((i64.wrap ((i64.wrap (d.Ao.Br-d.Ao.Bb))-t.Lo))+d.Ao.Bc))+q.Hi):Edge},{BA:=h,To:=g,W:=i64.wrap ((i64.wrap ((i64.wrap ((i64.wrap (d.Ao.Bb+t.Hi))-d.Ao.Bc))-q.Lo))-d.Ao.Bo):Edge}]) λJ=>AC J):AB (AA Edge)) λL=>AC (.k (L,i64.wrap (f.2+1)))else AC (.d f.1))
def OX(j:CB)(m:AA CI):AB (Int×(AA Edge)×Int):=AH (Mb n j m) λd=>(bif (d.2 != 0)then AC (0,[],d.2)else AH (iter (TY n d) n ([],0):AB (AA Edge)) λq=>AH (Kx n m) λg=>AH (iter (Tj n j g) n (d.1,q,0):AB ((AA CD)×(AA Edge))) λh=>AH (iter (Tn n j g h) n (h.2,0):AB (AA Edge)) λf=>(bif 8192<(AI f:Int) then AC (0,[],2)else AC (i64.wrap ((AI d.1:Int)+1),f,0)))
instance xQ(J:CB)(a2:AA CI):Kq (OX n J a2) 71 [.a (CB.c J),.q 57 (map CI.c a2)] [] (λr=>.t [.a [I r.1,.q 3 (map Edge.c r.2.1)],I r.2.2]) (λr=>[.c 176 [I r.1,.q 3 (map Edge.c r.2.1)]]):=by
 refine Kg 11 func71 Z Z Z Z λr h=>Cd [] h Kc Z λF bx h=>Fg 14 Z Z (Cn Z h (λ_ h=>?_) (λ_ h=>?_))
 .exact au h
 refine Gc 7 Z ?_;refine vX (.a [I (i64.wrap ((AI F.1:Int)+1)),.n]) (CT.build (zs:=[I 0,.n]) zeroValue176 (Fu Z) _b) ?_;refine vH (eH (v:=(.a [I 0,.n])) zeroValue176 (Fu Z)) ?_;refine Fg 9 Z Z (Bd h λb8 h9 h=>Ct b8 [0,1,2,3,0] [1,2,4,6,8] Ze (λb8=>[(3,.c 176 [I (i64.wrap ((AI F.1:Int)+1)),.o 4 (AI b8) 3]),(4,.r 260 3 (map Edge.c b8))]) Zf ?_ (λenv H X=>?_))
 .refine G0 1 Z (Lp [0,1,2,3,0] [1,2,4,6,8] (λY=>[(9,I Y.2)]) (λY=>[(3,.c 176 [I (i64.wrap ((AI F.1:Int)+1)),.o 4 (AI Y.1) 3]),(4,.r 260 3 (map Edge.c Y.1))]) h9 Zf ?_ ?_)
  .refine En (Yb (i:=3) (m:=1) (t:=260) (k:=3) Z Z Z) ?_;exact Lr [0,1,2,3,4]
  intro Y bz R be;refine G0 9 Z (Q8 Z R (λ_ R=>?_) (λ_ R=>?_))
  .exact Gc 2 Z (QH R (Gx 1 Z (DW be R (Lr [0,1,2,3,4]))))
  refine Gc 13 Z (vH (Ek (xs:=[.tmp 45,.tmp 48]) (es:=map Edge.c [{BA:=0,To:=i64.wrap (Y.2+1),W:=1099511627776:Edge},{BA:=i64.wrap (Y.2+1),To:=0,W:=1099511627776:Edge}]) Zd Z Z Z Z Z ⟨Z,Z,trivial⟩ Z Z) ?_);refine FE Z (Bd R λca bh R=>vH (Qj (e:=Edge.c) bh Zd GC (QC (i:=5))) ?_);exact au R
 refine Gx 1 Z (Ee X (Gc 3 Z (Cd [] h Kc Z λx bs h=>Fg 9 Z Z (Bd h λT bo h=>Ct T [0,1,2,3,4] [2,4] (λT=>[(6,.q 3 (map CD.c T.1)),(8,.p 2 0),(10,.o 4 (AI x) 57)]) (λT=>[(2,.c 176 [I (i64.wrap ((AI F.1:Int)+1)),.o 3 (AI T.2) 3]),(3,.r 260 3 (map Edge.c T.2)),(4,.r 120 57 (map CI.c x))]) Zf ?_ (λenv H X=>?_)))))
 .refine G0 1 Z (Lp [0,1,3,4,5] [2,4,8,10] (λy=>[(6,.q 3 (map CD.c y.1)),(11,I y.2.2)]) (λy=>[(2,.c 176 [I (i64.wrap ((AI F.1:Int)+1)),.o 3 (AI y.2.1) 3]),(3,.r 260 3 (map Edge.c y.2.1))]) bo Zf ?_ ?_)
  .refine En (Yl [(6,_)] Z Z (Cx.cons Z Ep Cx.nil) (Ec (Ec (Ec (QU _))))) ?_;exact Lr [0,1,3,4,5]
  intro y cb V bi;refine G0 9 Z (Q8 Z V (λ_ V=>?_) (λ_ V=>?_))
  .exact Gc 2 Z (QH V (Gx 1 Z (DW bi V (Lr [0,1,2,3,4]))))
  refine Gc 3 Z (Bd V λaa B V=>Ct aa [0,1,2,3,4] [2,4,6,8,10,11] Ze (λaa=>[(2,.c 176 [I (i64.wrap ((AI F.1:Int)+1)),.o 3 (AI aa) 3]),(3,.r 260 3 (map Edge.c aa))]) Zf ?_ (λenv H X=>?_))
  .refine G0 5 Z (Bd B λE aj B=>?_);refine vX (.p 4 (toNat y.2.2*57)) (Qd aj Z ED EF) ?_;refine Fp iG Z ?_;refine vX (.a (Aa.c E.Aa)) (Qt Z isAgg100 G1 Z (Qo (f:=16) aj) Z Z) ?_;refine Go 6 Z (Bd B λac ad B=>Ct ac [0,1,2,3,4,5] [2,4,6,8,10,11,12] (λac=>[(77,.b ac)]) Ze Zf ?_ (λenv H X=>?_))
   .refine G0 3 Z (Bd ad λbk ak ad=>?_);refine vX (.p 4 (toNat y.2.2*57)) (Qd ak Z ED EF) ?_;refine Fp TF Z ?_;refine vX (I bk.AX) (Ez Z EE Z (Qo (f:=3) ak)) ?_;exact au ad
   refine Gx 1 Z (Ee X (Cn Z B (λ_ B=>?_) (λ_ B=>?_)))
   .exact au B
   refine Gc 9 Z (Cz [] B Kc Z λae bp B=>Go 4 Z ?_);obtain⟨P,al,B⟩:=QE B;obtain⟨L,am,B⟩:=QE B;refine Yv 12 1 [84,85,86,87,88,89,90,91,92,93,94,14] [AD,AD,AD,AD,AD,AD,AD,AE,AD,AD,AE,AE] [[],[],[],[],[],[],[],[],[],[],[7],[]] [[],[7],[11],[7,10],[7,11],[7,10,11]] [[(0,0),(1,1),(2,2),(4,4)],[(0,0),(2,2)],[(0,0),(2,2)],[(0,0),(2,2)],[(0,0),(2,2)],[(0,0),(2,2)],[(0,0),(2,2)],[(0,1),(2,4)],[(0,0),(1,1),(2,2),(4,4)],[(0,0),(1,1),(2,2),(4,4)],[(1,3),(4,5)],[(0,2),(1,4),(3,5)]] [.a (CB.c J),.q 3 (map CD.c y.1),I ae,.p 5 0,I E.Aa.Al,.p 5 1,I E.Aa.Ah,.a (CD.c P),.p 5 2,I E.Aa.BD,.a [I L.Lo,I L.Hi],.p 6 0] [[.c 33 (CB.c J),.c 176 [I 0,.q 3 (map Edge.c [])],.c 176 [I (i64.wrap ((AI F.1:Int)+1)),.o 3 (AI y.2.1) 3],.r 260 3 (map Edge.c y.2.1),.r 120 57 (map CI.c x),.c 100 (Aa.c E.Aa),.dead],[.c 33 (CB.c J),.c 176 [I 0,.q 3 (map Edge.c [])],.c 176 [I (i64.wrap ((AI F.1:Int)+1)),.o 3 (AI y.2.1) 3],.r 260 3 (map Edge.c y.2.1),.r 120 57 (map CI.c x),.c 100 (Aa.c E.Aa),.dead,.c 209 (CD.c P)],[.c 33 (CB.c J),.c 176 [I 0,.q 3 (map Edge.c [])],.c 176 [I (i64.wrap ((AI F.1:Int)+1)),.o 3 (AI y.2.1) 3],.r 260 3 (map Edge.c y.2.1),.r 120 57 (map CI.c x),.c 100 (Aa.c E.Aa),.c 83 [I 0,I 0]],[.c 33 (CB.c J),.c 176 [I 0,.q 3 (map Edge.c [])],.c 176 [I (i64.wrap ((AI F.1:Int)+1)),.o 3 (AI y.2.1) 3],.r 260 3 (map Edge.c y.2.1),.r 120 57 (map CI.c x),.c 100 (Aa.c E.Aa),.dead,.c 209 (CD.c P),.c 83 [I L.Lo,I L.Hi]],[.c 33 (CB.c J),.c 176 [I 0,.q 3 (map Edge.c [])],.c 176 [I (i64.wrap ((AI F.1:Int)+1)),.o 3 (AI y.2.1) 3],.r 260 3 (map Edge.c y.2.1),.r 120 57 (map CI.c x),.c 100 (Aa.c E.Aa),.c 83 [I 0,I 0],.c 209 (CD.c P)],[.c 33 (CB.c J),.c 176 [I 0,.q 3 (map Edge.c [])],.c 176 [I (i64.wrap ((AI F.1:Int)+1)),.o 3 (AI y.2.1) 3],.r 260 3 (map Edge.c y.2.1),.r 120 57 (map CI.c x),.c 100 (Aa.c E.Aa),.c 83 [I 0,I 0],.c 209 (CD.c P),.c 83 [I L.Lo,I L.Hi]]] ([.c 33 (CB.c J),.c 176 [I 0,.q 3 (map Edge.c [])],.c 176 [I (i64.wrap ((AI F.1:Int)+1)),.o 3 (AI y.2.1) 3],.r 260 3 (map Edge.c y.2.1),.r 120 57 (map CI.c x),.c 100 (Aa.c E.Aa),.c 83 [I 0,I 0],.c 209 (CD.c P),.c 83 [I L.Lo,I L.Hi]]) DF Z Z Z Z Z Z Z ?_ Z ?_
   .refine M1 (M1 (M1 (M1 (M1 (M1 (M1 (Cq.cons ?_ (M1 (M1 (Cq.cons ?_ (Cq.cons ?_ (Cq.nil))))))))))))
    .refine Qb ?_ (Qb ?_ (Qf))
     iterate 2 refine F9 Z (sD 1 (sD 2 (sD 4 (sD 6 sN)))) ?_;refine Qg [] (C8.fn call128 Z Z Z) ((kM _ _ _ _ _).c _ al) ?_;rintro _ _ ⟨rfl,rfl⟩;exact FE Z Wp
    .refine Qb ?_ (Qb ?_ (Qf))
     iterate 2 refine F9 Z (sD 0 (sD 7 (sD 9 sN))) ?_;refine Qg [] (C8.fn call127 Z Z Z) ((kN _ _ _ _).c _ am) ?_;rintro _ _ ⟨rfl,rfl⟩;exact FE Z Wp
    .refine Qb ?_ (Qb ?_ (Qb ?_ (Qf)))
     iterate 3 exact Jm.alloc _ 14 83 6 _ Z Z Z Z Z Z Z (JW.alloc (v:=(.a [I 0,I 0])) EI (Fu Z)) Z
   refine Go 32 Z (vH (Ek (xs:=[.tmp 109,.tmp 122]) (es:=map Edge.c [{BA:=0,To:=ae,W:=i64.wrap ((i64.wrap ((i64.wrap (E.Aa.True+E.Aa.B8))-E.Aa.BD))-L.Lo):Edge},{BA:=ae,To:=0,W:=i64.wrap ((i64.wrap ((i64.wrap (E.Aa.BD+L.Hi))-E.Aa.True))+E.Aa.B8):Edge}]) Zd Z Z Z Z Z ⟨Z,Z,trivial⟩ Z Z) ?_);refine FE Z (Bd B λbu ay B=>vH (Qj (e:=Edge.c) ay Zd GC (QC (i:=9))) ?_);exact au B
  exact Gx 1 Z (Ee X (Gc 5 Z (Q1 V (Lr [0,1,2,3,4]))))
 refine Gx 1 Z (Ee X (Gc 6 Z (Bd h λO bl h=>Cg O [1,2,3] [4,8] Ze (λO=>[(1,.c 176 [I (i64.wrap ((AI F.1:Int)+1)),.o 2 (AI O) 3]),(2,.r 260 3 (map Edge.c O))]) Zf ?_ ?_)))
 .refine G0 1 Z (Lp [0,1,2,3,4] [2,4,6,8,10] (λg=>[(15,I g.2)]) (λg=>[(2,.c 176 [I (i64.wrap ((AI F.1:Int)+1)),.o 3 (AI g.1) 3]),(3,.r 260 3 (map Edge.c g.1))]) bl Zf (Lr [0,1,2,3,4]) λg bv N az=>?_);refine G0 9 Z (Q8 Z N (λ_ N=>?_) (λ_ N=>?_))
  .exact Gc 2 Z (QH N (Gx 1 Z (DW az N (Lr [1,2,3]))))
  refine Gc 3 Z (Bd N λab q N=>Cg ab [0,1,2,3,4] [2,4,6,8,10,15] Ze (λab=>[(2,.c 176 [I (i64.wrap ((AI F.1:Int)+1)),.o 3 (AI ab) 3]),(3,.r 260 3 (map Edge.c ab))]) Zf ?_ ?_)
  .refine G0 5 Z (Bd q λj an q=>?_);refine vX (.p 4 (toNat g.2*57)) (Qd an Z ED EF) ?_;refine Fp d7 Z ?_;refine vX (.a (Ao.c j.Ao)) (Qt Z isAgg102 sizeOf102 Z (Qo (f:=21) an) Z Z) ?_;refine Go 6 Z (Bd q λaf ag q=>Cg af [0,1,2,3,4,5] [2,4,6,8,10,15,16] (λaf=>[(156,.b af)]) Ze Zf ?_ ?_)
   .refine G0 3 Z (Bd ag λbm ao ag=>?_);refine vX (.p 4 (toNat g.2*57)) (Qd ao Z ED EF) ?_;refine Fp TF Z ?_;refine vX (I bm.AX) (Ez Z EE Z (Qo (f:=3) ao)) ?_;exact au ag
   refine Cn Z q (λ_ q=>?_) (λ_ q=>?_)
   .exact au q
   refine Gc 9 Z (Cz [] q Kc Z λah bq q=>Go 10 Z (Cz [] q Kc Z λai br q=>Go 4 Z ?_));obtain⟨G,aq,q⟩:=QE q;obtain⟨d,ar,q⟩:=QE q;refine Yv 12 1 [169,170,171,172,173,174,175,176,177,178,179,19] [AD,AD,AD,AD,AD,AD,AD,AE,AD,AD,AE,AE] [[],[],[],[],[],[],[],[],[],[],[7],[]] [[],[7],[11],[7,10],[7,11],[7,10,11]] [[(0,0),(1,1),(2,2),(4,4)],[(0,0),(2,2)],[(0,0),(2,2)],[(0,0),(2,2)],[(0,0),(2,2)],[(0,0),(2,2)],[(0,0),(2,2)],[(0,1),(2,4)],[(0,0),(1,1),(2,2),(4,4)],[(0,0),(1,1),(2,2),(4,4)],[(1,3),(4,5)],[(0,2),(1,4),(3,5)]] [.a (CB.c J),.q 3 (map CD.c T.1),I ah,.p 5 0,I j.Ao.Bt,.p 5 1,I j.Ao.Bg,.a (CD.c G),.p 5 2,I j.Ao.Bc,.a [I d.Lo,I d.Hi],.p 6 0] [[.c 33 (CB.c J),.c 176 [I 0,.q 3 (map Edge.c [])],.c 176 [I (i64.wrap ((AI F.1:Int)+1)),.o 3 (AI g.1) 3],.r 260 3 (map Edge.c g.1),.r 120 57 (map CI.c x),.c 102 (Ao.c j.Ao),.dead],[.c 33 (CB.c J),.c 176 [I 0,.q 3 (map Edge.c [])],.c 176 [I (i64.wrap ((AI F.1:Int)+1)),.o 3 (AI g.1) 3],.r 260 3 (map Edge.c g.1),.r 120 57 (map CI.c x),.c 102 (Ao.c j.Ao),.dead,.c 209 (CD.c G)],[.c 33 (CB.c J),.c 176 [I 0,.q 3 (map Edge.c [])],.c 176 [I (i64.wrap ((AI F.1:Int)+1)),.o 3 (AI g.1) 3],.r 260 3 (map Edge.c g.1),.r 120 57 (map CI.c x),.c 102 (Ao.c j.Ao),.c 83 [I 0,I 0]],[.c 33 (CB.c J),.c 176 [I 0,.q 3 (map Edge.c [])],.c 176 [I (i64.wrap ((AI F.1:Int)+1)),.o 3 (AI g.1) 3],.r 260 3 (map Edge.c g.1),.r 120 57 (map CI.c x),.c 102 (Ao.c j.Ao),.dead,.c 209 (CD.c G),.c 83 [I d.Lo,I d.Hi]],[.c 33 (CB.c J),.c 176 [I 0,.q 3 (map Edge.c [])],.c 176 [I (i64.wrap ((AI F.1:Int)+1)),.o 3 (AI g.1) 3],.r 260 3 (map Edge.c g.1),.r 120 57 (map CI.c x),.c 102 (Ao.c j.Ao),.c 83 [I 0,I 0],.c 209 (CD.c G)],[.c 33 (CB.c J),.c 176 [I 0,.q 3 (map Edge.c [])],.c 176 [I (i64.wrap ((AI F.1:Int)+1)),.o 3 (AI g.1) 3],.r 260 3 (map Edge.c g.1),.r 120 57 (map CI.c x),.c 102 (Ao.c j.Ao),.c 83 [I 0,I 0],.c 209 (CD.c G),.c 83 [I d.Lo,I d.Hi]]] ([.c 33 (CB.c J),.c 176 [I 0,.q 3 (map Edge.c [])],.c 176 [I (i64.wrap ((AI F.1:Int)+1)),.o 3 (AI g.1) 3],.r 260 3 (map Edge.c g.1),.r 120 57 (map CI.c x),.c 102 (Ao.c j.Ao),.c 83 [I 0,I 0],.c 209 (CD.c G),.c 83 [I d.Lo,I d.Hi]]) DF Z Z Z Z Z Z Z ?_ Z ?_
   .refine M1 (M1 (M1 (M1 (M1 (M1 (M1 (Cq.cons ?_ (M1 (M1 (Cq.cons ?_ (Cq.cons ?_ (Cq.nil))))))))))))
    .refine Qb ?_ (Qb ?_ (Qf))
     iterate 2 refine F9 Z (sD 1 (sD 2 (sD 4 (sD 6 sN)))) ?_;refine Qg [] (C8.fn call128 Z Z Z) ((kM _ _ _ _ _).c _ aq) ?_;rintro _ _ ⟨rfl,rfl⟩;exact FE Z Wp
    .refine Qb ?_ (Qb ?_ (Qf))
     iterate 2 refine F9 Z (sD 0 (sD 7 (sD 9 sN))) ?_;refine Qg [] (C8.fn call127 Z Z Z) ((kN _ _ _ _).c _ ar) ?_;rintro _ _ ⟨rfl,rfl⟩;exact FE Z Wp
    .refine Qb ?_ (Qb ?_ (Qb ?_ (Qf)))
     iterate 3 exact Jm.alloc _ 19 83 6 _ Z Z Z Z Z Z Z (JW.alloc (v:=(.a [I 0,I 0])) EI (Fu Z)) Z
   refine Go 4 Z ?_;obtain⟨Q,av,q⟩:=QE q;obtain⟨M,aw,q⟩:=QE q;refine Yv 12 1 [180,181,182,183,184,185,186,187,188,189,190,20] [AD,AD,AD,AD,AD,AD,AD,AE,AD,AD,AE,AE] [[],[],[],[],[],[],[],[],[],[],[7],[]] [[],[7],[11],[7,10],[7,11],[7,10,11]] [[(0,0),(1,1),(2,2),(4,4)],[(0,0),(2,2)],[(0,0),(2,2)],[(0,0),(2,2)],[(0,0),(2,2)],[(0,0),(2,2)],[(0,0),(2,2)],[(0,1),(2,4)],[(0,0),(1,1),(2,2),(4,4)],[(0,0),(1,1),(2,2),(4,4)],[(1,3),(4,5)],[(0,2),(1,4),(3,5)]] [.a (CB.c J),.q 3 (map CD.c T.1),I ai,.p 5 3,I j.Ao.Bs,.p 5 4,I j.Ao.Bf,.a (CD.c Q),.p 5 5,I j.Ao.Bb,.a [I M.Lo,I M.Hi],.p 9 0] [[.c 33 (CB.c J),.c 176 [I 0,.q 3 (map Edge.c [])],.c 176 [I (i64.wrap ((AI F.1:Int)+1)),.o 3 (AI g.1) 3],.r 260 3 (map Edge.c g.1),.r 120 57 (map CI.c x),.c 102 (Ao.c j.Ao),.c 83 [I d.Lo,I d.Hi],.c 209 (CD.c G),.c 83 [I d.Lo,I d.Hi],.dead],[.c 33 (CB.c J),.c 176 [I 0,.q 3 (map Edge.c [])],.c 176 [I (i64.wrap ((AI F.1:Int)+1)),.o 3 (AI g.1) 3],.r 260 3 (map Edge.c g.1),.r 120 57 (map CI.c x),.c 102 (Ao.c j.Ao),.c 83 [I d.Lo,I d.Hi],.c 209 (CD.c G),.c 83 [I d.Lo,I d.Hi],.dead,.c 209 (CD.c Q)],[.c 33 (CB.c J),.c 176 [I 0,.q 3 (map Edge.c [])],.c 176 [I (i64.wrap ((AI F.1:Int)+1)),.o 3 (AI g.1) 3],.r 260 3 (map Edge.c g.1),.r 120 57 (map CI.c x),.c 102 (Ao.c j.Ao),.c 83 [I d.Lo,I d.Hi],.c 209 (CD.c G),.c 83 [I d.Lo,I d.Hi],.c 83 [I 0,I 0]],[.c 33 (CB.c J),.c 176 [I 0,.q 3 (map Edge.c [])],.c 176 [I (i64.wrap ((AI F.1:Int)+1)),.o 3 (AI g.1) 3],.r 260 3 (map Edge.c g.1),.r 120 57 (map CI.c x),.c 102 (Ao.c j.Ao),.c 83 [I d.Lo,I d.Hi],.c 209 (CD.c G),.c 83 [I d.Lo,I d.Hi],.dead,.c 209 (CD.c Q),.c 83 [I M.Lo,I M.Hi]],[.c 33 (CB.c J),.c 176 [I 0,.q 3 (map Edge.c [])],.c 176 [I (i64.wrap ((AI F.1:Int)+1)),.o 3 (AI g.1) 3],.r 260 3 (map Edge.c g.1),.r 120 57 (map CI.c x),.c 102 (Ao.c j.Ao),.c 83 [I d.Lo,I d.Hi],.c 209 (CD.c G),.c 83 [I d.Lo,I d.Hi],.c 83 [I 0,I 0],.c 209 (CD.c Q)],[.c 33 (CB.c J),.c 176 [I 0,.q 3 (map Edge.c [])],.c 176 [I (i64.wrap ((AI F.1:Int)+1)),.o 3 (AI g.1) 3],.r 260 3 (map Edge.c g.1),.r 120 57 (map CI.c x),.c 102 (Ao.c j.Ao),.c 83 [I d.Lo,I d.Hi],.c 209 (CD.c G),.c 83 [I d.Lo,I d.Hi],.c 83 [I 0,I 0],.c 209 (CD.c Q),.c 83 [I M.Lo,I M.Hi]]] ([.c 33 (CB.c J),.c 176 [I 0,.q 3 (map Edge.c [])],.c 176 [I (i64.wrap ((AI F.1:Int)+1)),.o 3 (AI g.1) 3],.r 260 3 (map Edge.c g.1),.r 120 57 (map CI.c x),.c 102 (Ao.c j.Ao),.c 83 [I d.Lo,I d.Hi],.c 209 (CD.c G),.c 83 [I d.Lo,I d.Hi],.c 83 [I 0,I 0],.c 209 (CD.c Q),.c 83 [I M.Lo,I M.Hi]]) DF Z Z Z Z Z Z Z ?_ Z ?_
   .refine M1 (M1 (M1 (M1 (M1 (M1 (M1 (Cq.cons ?_ (M1 (M1 (Cq.cons ?_ (Cq.cons ?_ (Cq.nil))))))))))))
    .refine Qb ?_ (Qb ?_ (Qf))
     iterate 2 refine F9 Z (sD 1 (sD 2 (sD 4 (sD 6 sN)))) ?_;refine Qg [] (C8.fn call128 Z Z Z) ((kM _ _ _ _ _).c _ av) ?_;rintro _ _ ⟨rfl,rfl⟩;exact FE Z Wp
    .refine Qb ?_ (Qb ?_ (Qf))
     iterate 2 refine F9 Z (sD 0 (sD 7 (sD 9 sN))) ?_;refine Qg [] (C8.fn call127 Z Z Z) ((kN _ _ _ _).c _ aw) ?_;rintro _ _ ⟨rfl,rfl⟩;exact FE Z Wp
    .refine Qb ?_ (Qb ?_ (Qb ?_ (Qf)))
     iterate 3 exact Jm.alloc _ 20 83 9 _ Z Z Z Z Z Z Z (JW.alloc (v:=(.a [I 0,I 0])) EI (Fu Z)) Z
   refine Go 40 Z (vH (Ek (xs:=[.tmp 209,.tmp 226]) (es:=map Edge.c [{BA:=ah,To:=ai,W:=i64.wrap ((i64.wrap ((i64.wrap ((i64.wrap (j.Ao.Br-j.Ao.Bb))-M.Lo))+j.Ao.Bc))+d.Hi):Edge},{BA:=ai,To:=ah,W:=i64.wrap ((i64.wrap ((i64.wrap ((i64.wrap (j.Ao.Bb+M.Hi))-j.Ao.Bc))-d.Lo))-j.Ao.Bo):Edge}]) Zd Z Z Z Z Z ⟨Z,Z,trivial⟩ Z Z) ?_);refine FE Z (Bd q λbw bc q=>vH (Qj (e:=Edge.c) bc Zd GC (QC (i:=12))) ?_);exact au q
  exact au N
 refine Gc 9 Z (Cn Z h (λ_ h=>?_) (λ_ h=>?_))
 .exact au h
 refine Gc 10 Z ?_;obtain rfl:=Oi h;refine⟨[(4,.p 0 0),(5,I ((i64.wrap ((AI F.1:Int)+1),O,0).2.2))],[.c 176 [I ((i64.wrap ((AI F.1:Int)+1),O,0).1),.q 3 (map Edge.c ((i64.wrap ((AI F.1:Int)+1),O,0).2.1))]],_,?_,QI Z Z (C6.cons (Yi isAgg176 sizeOf176 Z Z Z) (C6.cons Dy.tmp C6.nil)),Z,Z⟩;refine En (Yl (i:=2) [] Z Z Cx.nil (Dm.cells (CW.k (Ed Ep (Ej _))) (Dm.cells (CW.k (Ed Ep (Ej _))) (Ec (QU _))))) ?_;exact Lr [0]
def Te(n:Nat)(g:Co)(f:Int):AB (CG Int (CG Unit Int)):=(bif f<(AI g.Bp:Int) then AH (CJ g.Bp f) λd=>AH ((bif d.BA<0 then AC AE else(bif g.A0<=d.BA then AC AE else(bif d.To<0 then AC AE else(bif g.A0<=d.To then AC AE else(bif d.W<(-35184372088832) then AC AE else AC (AG (35184372088832<d.W))))))):AB Bool) λh=>(bif h then AC (.d (.d 150))else AC (.k (i64.wrap (f+1))))else AC (.d (.k ())))
def PZ(f:Co):AB Int:=AH ((bif f.A0<1 then AC AE else(bif 512<f.A0 then AC AE else AC (AG (8192<(AI f.Bp:Int))))):AB Bool) λh=>(bif h then AC 150 else AH (iter (Te n f) n 0:AB (CG Unit Int)) λg=>match g with|.k d=>(AC 0)|.d d=>AC d)
instance yV(d:Co):Ks (PZ n d) 129 [.a (Co.c d)] [] (λr=>I r):=KA func129
def chk(b:Bool):AB Unit:=bif b then AC ()else AF
def OE(n:Nat)(v:Int)(s:(AA Int)×Int):AB (CG ((AA Int)×Int) (AA Int)):=(bif s.2<v then AH (CJ s.1 s.2) λx=>AH (JG s.1 s.2 1152921504606846976) λl=>AC (.k (l,i64.wrap (s.2+1)))else AC (.d s.1))
def OH(v:Int)(s:(AA (AA Int))×Int):AB (CG ((AA (AA Int))×Int) (AA (AA Int))):=(bif s.2<v then AH (chk (s.2==(AI s.1:Int))) λu=>AH (mk v 0) λf=>AH (iter (OE n v) n (f,0)) λd=>AH (CJ d s.2) λx=>AH (JG d s.2 0) λg=>AC (.k (s.1++[g],i64.wrap (s.2+1)))else AC (.d s.1))
def OB(n:Nat)(E:AA Edge)(s:(AA (AA Int))×Int):AB (CG ((AA (AA Int))×Int) (AA (AA Int))):=(bif s.2<(AI E:Int) then AH (CJ E s.2) λx=>AH (CJ s.1 x.BA) λr=>AH (CJ r x.To) λy=>AH (JG r x.To (if x.W<y then x.W else y)) λr'=>AC (.k (s.1.set x.BA.toNat r',i64.wrap (s.2+1)))else AC (.d s.1))
def U8(m i k:Int)(T:AA (AA Int)):AB (AA (AA Int)):=AH (CJ T i) λr=>AH (CJ r m) λa=>(bif (a != 1152921504606846976)then AH (CJ T m) λq=>AH (CJ q k) λb=>(bif (b != 1152921504606846976)then AH (CJ r k) λy=>AH (JG r k (if i64.wrap (a+b)<y then i64.wrap (a+b)else y)) λr'=>AC (T.set i.toNat r')else AC T)else AC T)
def OI(n:Nat)(v m i:Int)(s:(AA (AA Int))×Int):AB (CG ((AA (AA Int))×Int) (AA (AA Int))):=(bif s.2<v then AH (U8 m i s.2 s.1) λt=>AC (.k (t,i64.wrap (s.2+1)))else AC (.d s.1))
def OO(v m:Int)(s:(AA (AA Int))×Int):AB (CG ((AA (AA Int))×Int) (AA (AA Int))):=(bif s.2<v then AH (iter (OI n v m s.2) n (s.1,0)) λt=>AC (.k (t,i64.wrap (s.2+1)))else AC (.d s.1))
def OQ(n:Nat)(v:Int)(T:AA (AA Int))(s:Int):AB (CG Int (CG Unit Unit)):=(bif s<v then AH (CJ T s) λr=>AH (CJ r s) λa=>(bif a<0 then AC (.d (.d ()))else AC (.k (i64.wrap (s+1))))else AC (.d (.k ())))
def VU(v:Int)(s:(AA (AA Int))×Int):AB (CG ((AA (AA Int))×Int) (CG (AA (AA Int)) Unit)):=(bif s.2<v then AH (iter (OO n v s.2) n (s.1,0)) λt=>AH (iter (OQ n v t) n 0) λd=>match d with|.k _=>AC (.k (t,i64.wrap (s.2+1)))|.d _=>AC (.d (.d ()))else AC (.d (.k s.1)))
def Pz(f:Co):AB ((AA (AA Int))×Bool):=AH (mk f.A0 ()) λz=>AH (iter (OH n f.A0) n ([],0)) λt0=>AH (chk (AI t0==f.A0.toNat)) λu=>AH (iter (OB n f.Bp) n (t0,0)) λt1=>AH (iter (VU n f.A0) n (t1,0)) λd=>match d with|.k t=>AC (t,AE)|.d _=>AC ([],AD)
theorem pX{b:Bool}{u:Unit}(h:chk b=AC u):b=true:=by
  cases b with
  |true=>rfl
  |false=>cases h
theorem jZ(g:Co)(r:(AA (AA Int))×Bool)(h:Pz n g=AC r):nq prog 130 [.a (Co.c g)] [] (λr=>.t [.q 1 (map (Qu 1 eI) r.1),.b r.2]) r:=by
 refine iH func130 Z Z Z ?_;refine G0 17 Z (Bd h λz hz h=>?_);obtain⟨z0,F,O⟩:=oh hz;have E:AI z=g.A0.toNat:=by rw[<- O];simp
 refine vH (Qq9 (e:=λ_=>[A.nils]) (zv:=()) (a:=.n) hz oX zeroValue73 ZR.nils Z Z Z Z) ?_;refine Bd h λt0 ht0 h=>Go 10 Z ?_;refine TC.loop (λs:(AA (AA Int))×Int=>[(1,.p 0 0),(4,I g.A0),(5,.o 1 g.A0.toNat 1),(6,I s.2)]) (λs=>[.c 176 (Co.c g),.R 73 1 (HY 2 s.1 (g.A0.toNat-(AI s.1)))]++Q2 3 s.1) ht0 ?_ (λs d hs hb=>?_)
 · refine En (Js ?_) (Y5 ⟨Z,Z,?_,Z,trivial⟩)
   · rw[<- O]
     simp[Qnl,Q2,Co.c]
   · exact congrArg (λm=>A.s 1 0 m 1) E
 refine G0 8 Z (Q8 Z hs (λhc hs=>?_) (λhc hs=>?_))
 · refine Gc 2 Z ?_
   refine QH hs ?_;obtain rfl:=Oj hb hs;refine Bd h λu hu h=>?_;have hn:AI s.1=g.A0.toNat:=by simpa using pX hu
   refine Bd h λt1 ht1 h=>Gx 9 Z ?_;refine TC.loop (λq:(AA (AA Int))×Int=>[(1,.p 0 0),(4,I g.A0),(5,.o 1 (AI q.1) 1),(8,I q.2)]) (λq=>[.c 176 (Co.c g),.R 73 1 (YK 2 q.1)]++Q2 3 q.1) ht1 ?_ (λs d hs hb=>?_)
   · refine En (Js (H':=[CU.cells 176 (Co.c g),.R 73 1 (YK 2 s.1)]++Q2 3 s.1) ?_) ?_
     · rw[hn,Nat.sub_self];simp[HY]
     · exact Y5 ⟨Z,Z,congrArg (λm=>A.s 1 0 m 1) hn.symm,Z,trivial⟩
   clear E O hn;refine G0 6 Z (Lg 3 Z Z (Q8 Z hs (λhc hs=>?_) (λhc hs=>?_)))
   · refine Gc 2 Z ?_
     refine QH hs ?_;obtain rfl:=Oj hb hs;refine Bd h λdd hdd h=>Gx 9 Z ?_;refine TC.loop (λq:(AA (AA Int))×Int=>[(4,I g.A0),(5,.o 1 (AI q.1) 1),(10,I q.2)]) (λq=>[.c 176 (Co.c g),.R 73 1 (YK 2 q.1)]++Q2 3 q.1) hdd ?_ (λq d hq H=>?_)
     · exact Y5 ⟨Z,Z,Z,trivial⟩
     refine G0 8 Z (Q8 Z hq (λhc hq=>?_) (λhc hq=>?_))
     · refine Gc 2 Z ?_
       refine QH hq ?_;obtain rfl:=Oj H hq;refine Gx 1 Z (Ee (k? (s:=5) (i:=1) (b:=2) (t1:=3) (e:=Yq .i64) (rows:=q.1) Z (by omega) Z Z (λj r hj=>YP [_,_] hj)) (Gc 8 Z ?_));exact au h
     refine Bd hq λT1 hT1 hq=>Bd hq λdg hdg hq=>Gc 11 Z ?_;refine TC.loop (λw:(AA (AA Int))×Int=>[(4,I g.A0),(5,.o 1 (AI w.1) 1),(10,I q.2),(11,I w.2)]) (λw=>[.c 176 (Co.c g),.R 73 1 (YK 2 w.1)]++Q2 3 w.1) hT1 ?_ (λw d hw Q=>?_)
     · exact Y5 ⟨Z,Z,Z,Z,trivial⟩
     refine G0 8 Z (Q8 Z hw (λhc hw=>?_) (λhc hw=>?_))
     · refine Gc 2 Z ?_
       refine QH hw ?_;obtain rfl:=Oj Q hw;refine Gx 8 Z ?_;refine TC.loop (λc:Int=>[(4,I g.A0),(5,.o 1 (AI w.1) 1),(10,I q.2),(13,I c)]) (λc=>[.c 176 (Co.c g),.R 73 1 (YK 2 w.1)]++Q2 3 w.1) hdg ?_ (λc d hc J=>?_)
       · exact Y5 ⟨Z,Z,Z,Z,trivial⟩
       refine G0 8 Z (Q8 Z hc (λ_ hc=>?_) (λ_ hc=>?_))
       · refine Gc 2 Z ?_
         refine QH hc ?_;obtain rfl:=Oj J hc;refine Gx 8 Z ?_;refine Q1 hq (Y5 ⟨Z,Z,Z,trivial⟩)
       refine Bd hc λrr hrr hc=>Bd hc λa ha hc=>?_;have B:=(JO hrr).2;refine Gc 8 Z ?_;refine vV (x:=.p 1 (c.toNat*1)) (Qd (l:=w.1) hrr Z EG EO) ?_;refine vV (x:=.s (2+c.toNat) 0 (AI rr) 1) (Ez Z Gq Z (Dg.rowr (e:=c.toNat) (f:=0) Z (by omega) (Jn B) Z)) ?_;refine Go 1 Z ?_;refine vV (x:=.p (2+c.toNat) (c.toNat*1)) (Qd (l:=rr) ha Z EB EC) ?_;refine vV (x:=I a) (Ez Z EE Z (Qh ha (hH:=YP [_,_] B))) ?_;refine Go 3 Z (Cn Z hc (λ_ hc=>?_) (λ_ hc=>?_))
       · refine Gc 9 Z ?_
         refine JV hc ?_;obtain rfl:=Oj J hc;refine Gx 3 Z ?_;refine JV hq ?_;obtain rfl:=Oj H hq;refine Gx 2 Z ?_;obtain rfl:=Oi h;exact R2 2 3 Z Z (En (gt (s:=2) (k:=1) Z) (Lr []))
       refine Gc 8 Z ?_;refine Q1 hc (Y5 ⟨Z,Z,Z,Z,trivial⟩)
     refine Bd hw λT2 hT2 hw=>Gc 10 Z ?_;refine TC.loop (λy:(AA (AA Int))×Int=>[(4,I g.A0),(5,.o 1 (AI y.1) 1),(10,I q.2),(11,I w.2),(12,I y.2)]) (λy=>[.c 176 (Co.c g),.R 73 1 (YK 2 y.1)]++Q2 3 y.1) hT2 ?_ (λy d hy X=>?_)
     · exact Y5 ⟨Z,Z,Z,Z,Z,trivial⟩
     refine G0 8 Z (Q8 Z hy (λhc hy=>?_) (λhc hy=>?_))
     · refine Gc 2 Z ?_
       refine QH hy ?_;obtain rfl:=Oj X hy;refine Gx 8 Z ?_;refine Q1 hw (Y5 ⟨Z,Z,Z,Z,trivial⟩)
     refine Bd hy λt ht hy=>?_;obtain⟨r,hr,ht⟩:=QE ht;obtain⟨a,ha,ht⟩:=QE ht;have hrr:=(JO hr).2;refine Gc 8 Z ?_;refine vV (x:=.p 1 (w.2.toNat*1)) (Qd (l:=y.1) hr Z EG EO) ?_;refine vV (x:=.s (2+w.2.toNat) 0 (AI r) 1) (Ez Z Gq Z (Dg.rowr (e:=w.2.toNat) (f:=0) Z (by omega) (Jn hrr) Z)) ?_;refine Go 1 Z ?_;refine vV (x:=.p (2+w.2.toNat) (q.2.toNat*1)) (Qd (l:=r) ha Z EB EC) ?_;refine vV (x:=I a) (Ez Z EE Z (Qh ha (hH:=YP [_,_] hrr))) ?_;refine Go 2 Z ?_;refine Is 100 ht Z (λ_ ht=>?_) (λ_ ht=>?_)
     · obtain⟨p,hp,ht⟩:=QE ht
       obtain⟨b,hb,ht⟩:=QE ht;have hpp:=(JO hp).2;refine Go 2 Z ?_;refine vV (x:=.p 1 (q.2.toNat*1)) (Qd (l:=y.1) hp Z EG EO) ?_ (gT Z);refine vV (x:=.s (2+q.2.toNat) 0 (AI p) 1) (Ez Z Gq Z (Dg.rowr (e:=q.2.toNat) (f:=0) Z (by omega) (Jn hpp) Z)) ?_ (gT Z);refine Go 1 Z ?_;refine vV (x:=.p (2+q.2.toNat) (y.2.toNat*1)) (Qd (l:=p) hb Z EB EC) ?_ (gT Z);refine vV (x:=I b) (Ez Z EE Z (Qh hb (hH:=YP [_,_] hpp))) ?_ (gT Z);refine Go 4 Z (Cn Z ht (λ_ ht=>?_) (λ_ ht=>?_))
       · obtain⟨F,hz1,ht⟩:=QE ht
         obtain⟨r',hr',ht⟩:=QE ht;cases Oi ht;refine DU 29 Z ?_;refine D 2 Z ?_;refine DS.v (x:=.p 1 (w.2.toNat*1)) (Qd (l:=y.1) hr Z EG EO) ?_;refine DS.v (x:=.s (2+w.2.toNat) 0 (AI r) 1) (Ez Z Gq Z (Dg.rowr (e:=w.2.toNat) (f:=0) Z (by omega) (Jn hrr) Z)) ?_;refine D 3 Z ?_;refine DS.v (x:=.p 1 (w.2.toNat*1)) (Qd (l:=y.1) hr Z EG EO) ?_;refine DS.v (x:=.s (2+w.2.toNat) 0 (AI r) 1) (Ez Z Gq Z (Dg.rowr (e:=w.2.toNat) (f:=0) Z (by omega) (Jn hrr) Z)) ?_;refine D 1 Z ?_;refine DS.v (x:=.p (2+w.2.toNat) (y.2.toNat*1)) (Qd (l:=r) hz1 Z EB EC) ?_;refine DS.v (x:=I F) (Ez Z EE Z (Qh hz1 (hH:=YP [_,_] hrr))) ?_;refine D 2 Z ?_;refine DS.v (x:=.p 1 (w.2.toNat*1)) (Qd (l:=y.1) hr Z EG EO) ?_;refine DS.v (x:=.s (2+w.2.toNat) 0 (AI r) 1) (Ez Z Gq Z (Dg.rowr (e:=w.2.toNat) (f:=0) Z (by omega) (Jn hrr) Z)) ?_;refine D 1 Z ?_;refine DS.v (x:=.p (2+w.2.toNat) (q.2.toNat*1)) (Qd (l:=r) ha Z EB EC) ?_;refine DS.v (x:=I a) (Ez Z EE Z (Qh ha (hH:=YP [_,_] hrr))) ?_;refine D 2 Z ?_;refine DS.v (x:=.p 1 (q.2.toNat*1)) (Qd (l:=y.1) hp Z EG EO) ?_;refine DS.v (x:=.s (2+q.2.toNat) 0 (AI p) 1) (Ez Z Gq Z (Dg.rowr (e:=q.2.toNat) (f:=0) Z (by omega) (Jn hpp) Z)) ?_;refine D 1 Z ?_;refine DS.v (x:=.p (2+q.2.toNat) (y.2.toNat*1)) (Qd (l:=p) hb Z EB EC) ?_;refine DS.v (x:=I b) (Ez Z EE Z (Qh hb (hH:=YP [_,_] hpp))) ?_;refine D 1 Z ?_;refine DS.v (x:=I (if i64.wrap (a+b)<F then i64.wrap (a+b)else F)) (CT.min Z Z Z Z) ?_;refine DS.v (x:=.p (2+w.2.toNat) (y.2.toNat*1)) (Qd (l:=r) hz1 Z EB EC) ?_;refine Eg Z ?_;refine vU (Yp (e:=eI) (k:=1) (f:=0) hz1 hr' EC Z Z (hH:=YP [_,_] hrr)) ?_;refine Et (Js (QpO hrr (Q6 hr'))) ?_;refine Go 8 Z ?_;refine Q1 hy (Y5 ⟨Z,congrArg (λm=>A.s 1 0 m 1) (by simp),Z,Z,Z,trivial⟩)
       cases Oi ht;refine Gc 8 Z ?_;refine Q1 hy (Y5 ⟨Z,Z,Z,Z,Z,trivial⟩)
     cases Oi ht;refine Go 20 Z ?_;refine Q1 hy (Y5 ⟨Z,Z,Z,Z,Z,trivial⟩)
   refine Bd hs λx hx hs=>Bd hs λr hr hs=>Bd hs λy hy hs=>Bd hs λr' hr' hs=>Gc 9 Z ?_;refine Iz hx Z (Go 2 Z ?_);have hHl:(fn (Q2 3 s.1) 2).1=2+AI s.1:=by rw[gQ];simp only[Q2,X0];omega
   refine Et (QZ (s:=9) Z (congrArg (λj=>A.p j 0) hHl)) ?_;refine Et (Js (H':=([CU.cells 176 (Co.c g),.R 73 1 (YK 2 s.1)]++Q2 3 s.1)++[.c 260 [I 0,I 0,I 0]]) (by rw[ZQ];rfl)) ?_;refine Et (Qpt (env':=[(1,.p 0 0),(4,I g.A0),(5,.o 1 (AI s.1) 1),(8,I s.2),(9,.p 2 0),(56,.a (Edge.c x))]) Zf Zf ⟨Z,Z,Z,Z,Z,Z,trivial⟩) ?_;refine Go 3 Z ?_;have hrr:=(JO hr).2;refine Ee (Js (H':=[CU.cells 176 (Co.c g),.R 73 1 (YK 3 s.1),.c 260 (Edge.c x)]++Q2 3 s.1) (by rw[ZQ];rfl)) ?_;refine DU 20 Z ?_;refine D 3 Z ?_;refine DS.v (x:=.p 1 (x.BA.toNat*1)) (Qd (l:=s.1) hr Z EG EO) ?_;refine DS.v (x:=.s (3+x.BA.toNat) 0 (AI r) 1) (Ez Z Gq Z (Dg.rowr (e:=x.BA.toNat) (f:=0) Z (by omega) (Jn hrr) Z)) ?_;refine D 5 Z ?_;refine DS.v (x:=.p 1 (x.BA.toNat*1)) (Qd (l:=s.1) hr Z EG EO) ?_;refine DS.v (x:=.s (3+x.BA.toNat) 0 (AI r) 1) (Ez Z Gq Z (Dg.rowr (e:=x.BA.toNat) (f:=0) Z (by omega) (Jn hrr) Z)) ?_;refine D 2 Z ?_;refine DS.v (x:=.p (3+x.BA.toNat) (x.To.toNat*1)) (Qd (l:=r) hy Z EB EC) ?_;refine DS.v (x:=I y) (Ez Z EE Z (Qh hy (hH:=YP [_,_,_] hrr))) ?_;refine D 2 Z ?_;refine DS.v (x:=I (if x.W<y then x.W else y)) (CT.min Z Z Z Z) ?_;refine DS.v (x:=.p (3+x.BA.toNat) (x.To.toNat*1)) (Qd (l:=r) hy Z EB EC) ?_;refine Eg Z ?_;refine vU (Yp (e:=eI) (k:=1) (f:=0) hy hr' EC Z Z (hH:=YP [_,_,_] hrr)) ?_;refine Et (Js (Qnj hrr (Q6 hr'))) ?_;refine Go 8 Z ?_;refine Q1 hs (Qm2 Zf ⟨Z,Z,congrArg (λm=>A.s 1 0 m 1) (by simp),Z,trivial⟩)
 refine Bd hs λu hu hs=>?_;have hlen:s.2=(AI s.1:Int):=by simpa using pX hu
 have hlt:s.2<g.A0:=by simpa using hc
 obtain⟨m',hm'⟩:∃m',g.A0.toNat-(AI s.1)=m'+1:=⟨g.A0.toNat-(AI s.1)-1,by omega⟩;rw[hm'];refine Bd hs λP aa hs=>?_;have hi:CJ z s.2=AC ():=by
  have:s.2.toNat<AI z:=by omega
  unfold CJ;rw[Vt (show 0<=s.2 by omega)];simp[this]
 refine Gc 9 Z (vH (lK (e:=eI) (zv:=0) (a:=(I 0)) aa QF EV Eo Z Z Z Z) ?_);have hHl:AI ([CU.cells 176 (Co.c g),.R 73 1 (HY 2 s.1 (m'+1))]++Q2 3 s.1)=2+AI s.1:=by simp[Q2];omega
 refine Et (QZ (s:=26) Z (congrArg (λj=>A.s j 0 (AI P) 1) hHl)) ?_;refine vV (x:=.p 1 (s.2.toNat*1)) (Qd (l:=z) hi E EG EO) ?_;refine vU (Qgr (t:=73) (T:=73) (k:=1) (e:=AI s.1) (f:=0) (c:=[.n]) Z Z Z EO (by omega) QpP Z Z Z Z Z Z Z Qnk) ?_;refine Et (Js (H':=[CU.cells 176 (Co.c g),.R 73 1 (HY 2 (s.1++[P]) m')]++Q2 3 (s.1++[P])) (by rw[QlZ];rfl)) ?_;refine Bd hs λr1 ab hs=>Go 9 Z ?_;refine TC.loop (λk:(AA Int)×Int=>[(1,.p 0 0),(4,I g.A0),(5,.o 1 g.A0.toNat 1),(6,I s.2),(7,I k.2)]) (λk=>[.c 176 (Co.c g),.R 73 1 (HY 2 (s.1++[k.1]) m')]++Q2 3 (s.1++[k.1])) ab ?_ (λk e hk ac=>?_)
 · refine Y5 ⟨Z,Z,Z,Z,?_,trivial⟩
   rfl
 refine G0 8 Z (Q8 Z hk (λ_ hk=>?_) (λ_ hk=>?_))
 · refine Gc 2 Z ?_
   refine QH hk ?_;obtain rfl:=Oj ac hk;refine Bd hs λx2 L hs=>Bd hs λG B hs=>Gx 5 Z ?_;refine vV (x:=.p 1 (s.2.toNat*1)) (Qd (l:=z) hi E EG EO) ?_;refine vV (x:=.s (2+AI s.1) 0 (AI k.1) 1) (Ez Z Gq Z (Dg.rowr (e:=AI s.1) (f:=0) Z (by omega) (rP (r:=k.1) (by simp)) Z)) ?_;refine Go 1 Z ?_;refine vV (x:=.p (2+AI s.1) (s.2.toNat*1)) (Qd (l:=k.1) L Z EB EC) ?_;refine vU (Yp (e:=eI) (k:=1) (f:=0) L B EC Z Z (hH:=YP [_,_] (by simp))) ?_;refine Et (Js (rS (Q6 B))) ?_;have ae:g.A0.toNat-(AI (s.1++[G]))=m':=by simp;omega
   refine Go 8 Z ?_;refine Q1 hs (En (Js (H':=[CU.cells 176 (Co.c g),.R 73 1 (HY 2 (s.1++[G]) (g.A0.toNat-(AI (s.1++[G]))))]++Q2 3 (s.1++[G])) (by rw[ae])) (Y5 ⟨Z,Z,Z,Z,trivial⟩))
 refine Bd hk λx1 M hk=>Bd hk λl1 N hk=>Gc 7 Z ?_;refine vV (x:=.p 1 (s.2.toNat*1)) (Qd (l:=z) hi E EG EO) ?_;refine vV (x:=.s (2+AI s.1) 0 (AI k.1) 1) (Ez Z Gq Z (Dg.rowr (e:=AI s.1) (f:=0) Z (by omega) (rP (r:=k.1) (by simp)) Z)) ?_;refine Go 1 Z ?_;refine vV (x:=.p (2+AI s.1) (k.2.toNat*1)) (Qd (l:=k.1) M Z EB EC) ?_;refine vU (Yp (e:=eI) (k:=1) (f:=0) M N EC Z Z (hH:=YP [_,_] (by simp))) ?_;refine Et (Js (rS (Q6 N))) ?_;refine Go 8 Z ?_;refine Q1 hk (Y5 ⟨Z,Z,Z,Z,Z,trivial⟩)
def PT(d:Co):AB ((AA (AA Int))×Int):=AH (PZ n d) λf=>(bif (f != 0)then AC ([],f)else AH (Pz n d) λg=>(bif (!g.2)then AC ([],151)else AC (g.1,0)))
instance yP(d:Co):Ks (PT n d) 72 [.a (Co.c d)] [] (λr=>.t [.q 1 (map (Qu 1 eI) r.1),I r.2]):=by
 refine Kg 10 func72 Z Z Z Z λr h=>Cz [] h Kc Z λq j h=>Go 10 Z (Cn Z h (λ_ h=>?_) (λ_ h=>?_))
 .refine Gc 9 Z ?_;obtain rfl:=Oi h;refine R2 2 3 Z Z ?_;exact En (gt (s:=2) Z) (Lr [])
 refine Gc 5 Z (Cd [] h (jZ _ _) Z λt m h=>Fg 14 Z Z (Cn Z h (λ_ h=>?_) (λ_ h=>?_)))
 .refine Gc 8 Z ?_;obtain rfl:=Oi h;refine R2 2 3 Z Z ?_;exact En (gt (s:=2) Z) (Lr [])
 exact au h
def Pp(f:CB)(g:AA CI):AB ((AA CD)×(AA (AA Int))×Int):=AH (OX n f g) λd=>(bif (d.2.2 != 0)then AC ([],[],d.2.2)else AH (PT n ({A0:=d.1,Bp:=d.2.1:Co})) λh=>(bif (h.2 != 0)then AC ([],[],160)else AH (Mb n f g) λj=>AC (j.1,h.1,0)))
instance yk(g:CB)(j:AA CI):Kq (Pp n g j) 25 [.a (CB.c g),.q 57 (map CI.c j)] [] (λr=>.t [.a [.q 3 (map CD.c r.1),.q 1 (map (Qu 1 eI) r.2.1)],I r.2.2]) (λr=>[.c 39 [.q 3 (map CD.c r.1),.q 1 (map (Qu 1 eI) r.2.1)]]):=by
 refine Kg 11 func25 Z Z Z Z λr h=>Cd [] h Kc Z λB t h=>Fg 15 Z Z (Cn Z h (λ_ h=>?_) (λ_ h=>?_))
 .exact au h
 refine Gc 5 Z (Cd [] h Kc Z λd x h=>Fg 14 Z Z (Cn Z h (λ_ h=>?_) (λ_ h=>?_)))
 .exact au h
 refine Gc 6 Z (Cd [] h Kc Z λf y h=>Fg 17 Z Z ?_);obtain rfl:=Oi h;refine⟨[(4,.p 0 0),(5,I ((f.1,d.1,0).2.2))],[.c 39 [.q 3 (map CD.c ((f.1,d.1,0).1)),.q 1 (map (Qu 1 eI) ((f.1,d.1,0).2.1))]],_,(En (Yl (i:=4) [] Z Z Cx.nil (Ec (Dm.cells (Ed Ep (Ej _)) (Ec (Ec (Ec (QU _))))))) ?_),QI Z Z (C6.cons (Yi isAgg39 sizeOf39 Z Z Z) (C6.cons Dy.tmp C6.nil)),Z,Z⟩;exact Lr [1]
def TQ(n:Nat)(f:AA AP)(h:Int)(d:Int):AB (CG Int (CG Unit Int)):=(bif d<(AI f:Int) then AH (CJ f d) λg=>(bif (g.BU==h)then AC (.d (.d d))else AC (.k (i64.wrap (d+1))))else AC (.d (.k ())))
def Pr(f:AA AP)(g:Int):AB Int:=AH (iter (TQ n f g) n 0:AB (CG Unit Int)) λh=>match h with|.k d=>(AC (-1))|.d d=>AC d
instance yn(d:AA AP)(f:Int):Ks (Pr n d f) 74 [.q 8 (map AP.c d),I f] [] (λr=>I r):=KA func74
end Go.Sw
