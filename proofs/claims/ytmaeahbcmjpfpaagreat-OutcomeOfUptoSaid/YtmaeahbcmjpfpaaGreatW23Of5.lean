/- What the functions compute that OutcomeOf reaches, and that their calls refine it (part 5 of 7). -/
import Derived.Test.YtmaeahbcmjpfpaaGreatW23Of4
set_option linter.unusedVariables false
set_option linter.unusedSimpArgs false
set_option maxRecDepth 100000
set_option maxHeartbeats 4000000
namespace Go.Sw
open Option renaming some→AC,none→AF,bind→AH
open Bool renaming false→AD,true→AE
open Decidable renaming decide→AG
open List renaming length→AI
open Go renaming Value→AL
variable (n:Nat)
open List(map)
open Int(toNat)
open Go.IntKind(i64 u64 u8)
open Go.Proofs Tryz
def WV(f:CE)(d:Int):AB (CJ Int (CJ Unit Bool)):=(bif d<(AI f.AO:Int) then AH (AH (CN f.AO d) λg=>AH (NQ n g.Ab 0) λh=>(bif 24<h then AC AE else AH (CN f.AO d) λj=>(bif 12<(AI j.Am:Int) then AC AE else AH (CN f.AO d) λm=>AC (AG (60<(AI m.Ar:Int))))):AB Bool) λq=>(bif q then AC (.d (.d AD))else AC (.k (i64.wrap (d+1))))else AC (.d (.k ())))
def WB(n:Nat)(f:CE)(d:Int):AB (CJ Int (CJ Unit Bool)):=(bif d<(AI f.An:Int) then AH (CN f.An d) λg=>(bif 60<(AI g.Ar:Int) then AC (.d (.d AD))else AC (.k (i64.wrap (d+1))))else AC (.d (.k ())))
def Pj(d:CE):AB Bool:=AH (iter (WV n d) n 0:AB (CJ Unit Bool)) λh=>match h with|.k f=>(AH (iter (WB n d) n 0:AB (CJ Unit Bool)) λj=>match j with|.k g=>(AH ((bif 12<(AI d.An:Int) then AC AE else(bif 30<(AI d.As:Int) then AC AE else(bif 4<(AI d.AO:Int) then AC AE else(bif 6<(AI d.Ax:Int) then AC AE else(bif 6<(AI d.Ah:Int) then AC AE else(bif 6<(AI d.Ac:Int) then AC AE else(bif 6<(AI d.A3:Int) then AC AE else AC (AG (60<(AI d.Ar:Int)))))))))):AB Bool) λm=>(bif m then AC AD else AH (NO n d.BZ 0) λq=>AC (AG (q<=100))))|.d g=>AC g)|.d f=>AC f
instance _M(d:CE):Kb (Pj n d) 71 [.a (CE.c d)]:=KB func71
def K7(n:Nat)(q:AA CM)(g:(AA Int)×Int)(f:AA Int)(d:(AA Int)×Int):AB (CJ ((AA Int)×Int) (AA Int)):=AH (AH (CN q g.2) λh=>(bif d.2<h.Aj then(bif 0<(AI f:Int) then AC (AG ((AI d.1:Int)<=300))else AC AD)else AC AD):AB Bool) λj=>(bif j then AH (app d.1 f) λm=>AC (.k (m,i64.wrap (d.2+1)))else AC (.d d.1))
def K8(f:AA CM)(rec243:(AA CM)->AB (AA Int))(d:(AA Int)×Int):AB (CJ ((AA Int)×Int) (AA Int)):=(bif d.2<(AI f:Int) then AH (AH (CN f d.2) λg=>(bif (g.Aj==0)then AH (CN f d.2) λh=>AH (app d.1 [h.Af]) λj=>AC j else AH (CN f d.2) λm=>AH (rec243 m.Aa) λq=>AH (iter (K7 n f d q) n (d.1,0):AB (AA Int)) λt=>AC t):AB (AA Int)) λx=>AC (.k (x,i64.wrap (d.2+1)))else AC (.d d.1))
def bE(rec243:(AA CM)->AB (AA Int))(n:Nat)(f:AA CM):AB (AA Int):=AH (iter (K8 n f rec243) n (([]:AA Int),0):AB (AA Int)) λd=>AC d
theorem QaZ(rec243:(AA CM)->AB (AA Int))(R:∀(x:AA CM),Kr (rec243 x) 72 [.q 3 (map CM.enc x)] 3 1 eI)(n:Nat)(x:AA CM):Kr (bE rec243 n x) 72 [.q 3 (map CM.enc x)] 3 1 eI:=by
 have:=hn 30903 [0] [] (λ(j:AA Int)=>[(3,.o 0 (AI j) 1)]) (λj=>[(0,.w (.r 3 1 (map eI j)))]);have:=hl 30903 [0] [0] (λ(f:(AA Int)×Int)=>[(3,.o 0 (AI f.1) 1),(4,I f.2)]) (λf=>[(0,.w (.r 3 1 (map eI f.1)))]);have:=hn 50702 [0] [0,4] (λ(m:AA Int)=>[(3,.o 0 (AI m) 1)]) (λm=>[(0,.w (.r 3 1 (map eI m)))]);have:=hn 90301 [0] [0,4] (λ(q:AA Int)=>[(3,.o 0 (AI q) 1)]) (λq=>[(0,.w (.r 3 1 (map eI q)))]);have:=hl 90301 [0,1] [0,4,5] (λ(g:(AA Int)×Int)=>[(3,.o 0 (AI g.1) 1),(6,I g.2)]) (λg=>[(0,.w (.r 3 1 (map eI g.1)))]);have:=hn 90100 [0,1] [0,3,4,5,6] (λ(L:Bool)=>[(50,.b L)]) Ze;refine Kg 7 func72 Z Z Z Z λr h=>vH (Ek (xs:=[]) (es:=map eI []) J0 Z Z Z Z Z trivial Z Z) ?_;refine Fg 9 Z Z (Bd h λj M h=>Cg j [0] [] (λj=>[(3,.o 0 (AI j) 1)]) (λj=>[(0,.r 3 1 (map eI j))]) Zf ?_ ?_)
 .refine G0 1 Z (Lp [0] [0] (λf=>[(3,.o 0 (AI f.1) 1),(4,I f.2)]) (λf=>[(0,.r 3 1 (map eI f.1))]) M Zf (Lr [0]) λf W t y=>?_);refine G0 5 Z (Lg 3 Z Z (Dm Z t (λ_ t=>?_) (λ_ t=>?_)))
  .exact FS y t
  refine Gc 3 Z (Bd t λm d t=>Cg m [0] [0,4] (λm=>[(3,.o 0 (AI m) 1)]) (λm=>[(0,.r 3 1 (map eI m))]) Zf ?_ ?_)
  .refine G0 6 Z (Bd d λN E d=>OW E (YF N) Z (Go 5 Z (Cn Z d (λ_ d=>?_) (λ_ d=>?_))))
   .exact bu d
   refine Gc 6 Z (Bd d λO G d=>OW G (YF O) Z (Go 2 Z (Cd [] d Kc Z λX V d=>Fg 8 Z Z (Bd d λq P d=>Ct q [0] [0,4] (λq=>[(3,.o 0 (AI q) 1)]) (λq=>[(0,.r 3 1 (map eI q))]) Zf ?_ (λenv H T=>?_)))))
   .refine G0 1 Z (Lp [0,1] [0,4,5] (λg=>[(3,.o 0 (AI g.1) 1),(6,I g.2)]) (λg=>[(0,.r 3 1 (map eI g.1))]) P Zf (Lr [0,1]) λg Y Q J=>?_);exact FS J Q
   refine Gx 1 Z ?_;cases d;exact OM (En T (Lr [0]))
  exact bu t
 exact bu h
def Mf:Nat->(AA CM)->AB (AA Int)
  |0=>λ_=>AF
  |n+1=>bE (Mf n) n
instance k_g:∀(d:AA CM),Kr (Mf n d) 72 [.q 3 (map CM.enc d)] 3 1 eI:=by
  induction n with
  |zero=>exact λ_=>⟨nofun⟩
  |succ n ih=>exact QaZ _ ih n
def VY(f:CE)(j:Int)(d:Int):AB (CJ Int (CJ Unit Bool)):=(bif d<(AI f.AO:Int) then AH (CN f.AO d) λg=>AH (Mf n g.Ab) λh=>(bif j<(AI h:Int) then AC (.d (.d AD))else AC (.k (i64.wrap (d+1))))else AC (.d (.k ())))
def RM(f:CE)(h:Int):AB Bool:=AH (Pj n f) λj=>(bif (!j)then AC AD else AH (iter (VY n f h) n 0:AB (CJ Unit Bool)) λg=>match g with|.k d=>(AC AE)|.d d=>AC d)
instance _v(d:CE)(f:Int):Kb (RM n d f) 19 [.a (CE.c d),I f]:=KB func19
def GB(n:Nat)(d:Int)(f:Int)(g:Int):AB Bool:=AH ((bif f<=d then AC (AG (d<=g))else AC AD):AB Bool) λh=>AC h
instance k_c(d:Int)(f:Int)(g:Int):Kb (GB n d f g) 151 [I d,I f,I g]:=KB func151
def NB(d:Int):AB Bool:=AH (GB n d 0 31) λf=>AC f
instance lM(d:Int):Kb (NB n d) 149 [I d]:=KB func149
def M9(d:Int):AB Bool:=AH (GB n d 1 1048576) λf=>AC f
instance lJ(d:Int):Kb (M9 n d) 150 [I d]:=KB func150
def G2(d:Int):AB Bool:=AH (GB n d 1 9999) λf=>AC f
instance AAk(d:Int):Kb (G2 n d) 233 [I d]:=KB func233
def HN(d:Int):AB Bool:=AH (GB n d (-1099511627776) 1099511627776) λf=>AC f
instance k_f(d:Int):Kb (HN n d) 231 [I d]:=KB func231
def IJ(d:Int):AB Bool:=AH (GB n d 0 1048576) λf=>AC f
instance AAT(d:Int):Kb (IJ n d) 230 [I d]:=KB func230
def Ph(d:AP):AB Bool:=AH (AH (G2 n d.Bf) λf=>(bif f then AH (GB n d.AN 0 7) λg=>(bif g then AH (GB n d.Aw 0 31) λh=>(bif h then AH (HN n d.Bc) λj=>(bif j then AH (GB n d.B' 0 120) λm=>(bif m then AH (IJ n d.A') λq=>(bif q then AH (GB n d.Bv 0 9999) λt=>(bif t then AH (GB n d.B_ 0 1048576) λx=>AC x else AC AD)else AC AD)else AC AD)else AC AD)else AC AD)else AC AD)else AC AD):AB Bool) λy=>AC y
instance _K(d:AP):Kb (Ph n d) 227 [.a (AP.c d)]:=KB func227
def Io(d:Int):AB Bool:=AH (GB n d 0 39) λf=>AC f
instance AAM(d:Int):Kb (Io n d) 228 [I d]:=KB func228
def Lk(d:Int):AB Bool:=AH (GB n d 0 255) λf=>AC f
instance k_y(d:Int):Kb (Lk n d) 229 [I d]:=KB func229
def RP(d:BA):AB Bool:=AH (AH (Io n d.B5) λf=>(bif f then AH (Io n d.B4) λg=>(bif g then AH (Lk n d.Bq) λh=>(bif h then AH (Lk n d.Bm) λj=>(bif j then AH (HN n d.Br) λm=>(bif m then AH (HN n d.Bp) λq=>(bif q then AH (HN n d.Bn) λt=>(bif t then AH (HN n d.Bs) λx=>(bif x then AC (AG (d.Bn<=d.Bs))else AC AD)else AC AD)else AC AD)else AC AD)else AC AD)else AC AD)else AC AD)else AC AD):AB Bool) λy=>AC y
instance _y(d:BA):Kb (RP n d) 232 [.a (BA.c d)]:=KB func232
def Ir(d:Int):AB Bool:=AH (GB n d 0 255) λf=>AC f
instance AAP(d:Int):Kb (Ir n d) 234 [I d]:=KB func234
def J9(d:Int):AB Bool:=AH (GB n d 1 1048576) λf=>AC f
instance AAA(d:Int):Kb (J9 n d) 235 [I d]:=KB func235
def Pp(d:Ao):AB Bool:=AH (AH (J9 n d.BS) λH=>(bif (!H)then AC AE else AH (GB n d.Bi 1 2) λJ=>AC (!J)):AB Bool) λL=>(bif L then AC AD else AH ((bif (d.AV==1)then AC (d.AV==1)else AC (d.AV==2)):AB Bool) λf=>(bif f then AH ((bif (d.Bf==0)then(bif (d.AS==0)then AC (d.BW==0)else AC AD)else AC AD):AB Bool) λg=>AC g else(bif (d.AV==3)then AH (AH (G2 n d.Bf) λh=>(bif h then AH (Ir n d.AS) λj=>(bif j then AH (GB n d.BW 1 1099511627776) λm=>AC m else AC AD)else AC AD):AB Bool) λq=>AC q else(bif (d.AV==4)then AH (AH (G2 n d.Bf) λt=>(bif t then AH (Ir n d.AS) λx=>(bif x then AH (GB n d.BW 1 64) λy=>AC y else AC AD)else AC AD):AB Bool) λB=>AC B else(bif (d.AV==5)then AH (AH (G2 n d.Bf) λE=>(bif E then AH (Ir n d.AS) λF=>(bif F then AC (d.BW==0)else AC AD)else AC AD):AB Bool) λG=>AC G else AC AD)))))
instance _Q(m:Ao):Kb (Pp n m) 236 [.a (Ao.c m)]:=by
 refine Kg 8 func236 Z Z Z Z λr h=>Bd h λg x h=>Ct g [0] [1] (λg=>[(12,.b g)]) Ze Zf ?_ (λenv H d=>?_)
 .exact bu x
 refine Gx 1 Z (Ee d (Cn Z h (λ_ h=>?_) (λ_ h=>?_)))
 .exact bu h
 refine Gc 17 Z (Bd h λf t h=>Ct f [0] [1,14] (λf=>[(15,.b f)]) Ze Zf ?_ (λenv H d=>?_))
 .exact bu t
 refine Gx 1 Z (Ee d (Cn Z h (λ_ h=>?_) (λ_ h=>?_)))
 iterate 2 exact bu h
def Ru(d:CP):AB Bool:=(bif (d.AV==1)then AH (Ph n d.AP) λr2=>AC r2 else(bif (d.AV==2)then AH (AH (Io n d.A_.Af) λM=>(bif M then AH (Lk n d.A_.Ad) λN=>(bif N then AH (IJ n d.A_.A') λO=>(bif O then AH (HN n d.A_.BU) λP=>AC P else AC AD)else AC AD)else AC AD):AB Bool) λQ=>AC Q else(bif (d.AV==3)then AH (AH (Io n d.Av.Af) λR=>(bif R then AH (Lk n d.Av.Ad) λT=>(bif T then AH (HN n d.Av.BU) λV=>(bif V then AH (HN n d.Av.True) λW=>(bif W then AH (GB n d.Av.CC 0 1099511627776) λX=>AC X else AC AD)else AC AD)else AC AD)else AC AD):AB Bool) λY=>AC Y else(bif (d.AV==4)then AH (RP n d.BA) λaa=>AC aa else(bif (d.AV==5)then AH (AH (G2 n d.AY.Bf) λab=>(bif ab then AH (Ir n d.AY.AS) λac=>(bif ac then AH (HN n d.AY.Lo) λad=>(bif ad then AH (HN n d.AY.Hi) λae=>(bif ae then AC (AG (d.AY.Lo<=d.AY.Hi))else AC AD)else AC AD)else AC AD)else AC AD):AB Bool) λaf=>AC af else(bif (d.AV==6)then AH (AH (Io n d.A2.Af) λag=>(bif ag then AH (Lk n d.A2.Ad) λah=>(bif ah then AH (HN n d.A2.Lo) λai=>(bif ai then AH (HN n d.A2.Hi) λaj=>(bif aj then AC (AG (d.A2.Lo<=d.A2.Hi))else AC AD)else AC AD)else AC AD)else AC AD):AB Bool) λak=>AC ak else(bif (d.AV==7)then AH (AH (G2 n d.Bh.A) λam=>(bif am then AH (G2 n d.Bh.B) λan=>(bif an then AC (AG (d.Bh.A<d.Bh.B))else AC AD)else AC AD):AB Bool) λao=>AC ao else(bif (d.AV==8)then AH (AH (J9 n d.Ap.BS) λf=>(bif f then AH (G2 n d.Ap.Bf) λg=>(bif g then AH (GB n d.Ap.Ag 0 31) λh=>(bif h then AH (Ir n d.Ap.AS) λj=>AC j else AC AD)else AC AD)else AC AD):AB Bool) λm=>AC m else(bif (d.AV==9)then AH (AH (J9 n d.A7.BS) λq=>(bif q then AH (GB n d.A7.By 0 9999) λt=>(bif t then AH (GB n d.A7.B7 0 1125899906842624) λx=>(bif x then AH (GB n d.A7.CA 0 1) λy=>AC y else AC AD)else AC AD)else AC AD):AB Bool) λE=>AC E else(bif (d.AV==10)then AH (Pp n d.Ao) λF=>AC F else(bif (d.AV==11)then AH (J9 n d.BG.BS) λG=>AC G else(bif (d.AV==12)then AC AE else(bif (d.AV==13)then AH (AH (NB n d.B8.BB) λH=>(bif H then AH (M9 n d.B8.No) λJ=>AC J else AC AD):AB Bool) λL=>AC L else AC AD)))))))))))))
instance k9(f:CP):Kb (Ru n f) 152 [.a (CP.c f)]:=by
 refine Kg 20 func152 Z Z Z Z λr h=>Cn Z h (λ_ h=>?_) (λ_ h=>?_)
 .exact bu h
 iterate 2 (refine Gc 6 Z (Cn Z h (λ_ h=>?_) (λ_ h=>?_));exact bu h)
 exact bu h
def Rv(n:Nat)(d:CP):AB CP:=AH ((bif (d.AV==1)then AC ({Ut with BB:=d.BB,No:=d.No,At:=d.At,AV:=d.AV,AP:=d.AP:CP})else(bif (d.AV==2)then AC ({Ut with BB:=d.BB,No:=d.No,At:=d.At,AV:=d.AV,A_:=d.A_:CP})else(bif (d.AV==3)then AC ({Ut with BB:=d.BB,No:=d.No,At:=d.At,AV:=d.AV,Av:=d.Av:CP})else(bif (d.AV==4)then AC ({Ut with BB:=d.BB,No:=d.No,At:=d.At,AV:=d.AV,BA:=d.BA:CP})else(bif (d.AV==5)then AC ({Ut with BB:=d.BB,No:=d.No,At:=d.At,AV:=d.AV,AY:=d.AY:CP})else(bif (d.AV==6)then AC ({Ut with BB:=d.BB,No:=d.No,At:=d.At,AV:=d.AV,A2:=d.A2:CP})else(bif (d.AV==7)then AC ({Ut with BB:=d.BB,No:=d.No,At:=d.At,AV:=d.AV,Bh:=d.Bh:CP})else(bif (d.AV==8)then AC ({Ut with BB:=d.BB,No:=d.No,At:=d.At,AV:=d.AV,Ap:=d.Ap:CP})else(bif (d.AV==9)then AC ({Ut with BB:=d.BB,No:=d.No,At:=d.At,AV:=d.AV,A7:=d.A7:CP})else(bif (d.AV==10)then AC ({Ut with BB:=d.BB,No:=d.No,At:=d.At,AV:=d.AV,Ao:=d.Ao:CP})else(bif (d.AV==11)then AC ({Ut with BB:=d.BB,No:=d.No,At:=d.At,AV:=d.AV,BG:=d.BG:CP})else(bif (d.AV==13)then AC ({Ut with BB:=d.BB,No:=d.No,At:=d.At,AV:=d.AV,B8:=d.B8:CP})else AC ({Ut with BB:=d.BB,No:=d.No,At:=d.At,AV:=d.AV:CP}))))))))))))):AB CP) λf=>AC f
instance k_(d:CP):Kq (Rv n d) 153 [.a (CP.c d)] [] (λr=>.a (CP.c r)) (λr=>[.c 109 (CP.c r)]):=by
 exact Kg 0 func153 Z Z Z Z λr h=>by
  have:=hn 42312 [1,2] [2,3] (λ(_:CP)=>[]) (λf=>[(1,.w (.c 109 (CP.c f)))]);exact bu h
def Mq(d:CP):AB Int:=AH (AH (NB n d.BB) λf=>(bif (!f)then AC AE else AH (M9 n d.No) λg=>(bif (!g)then AC AE else AH (GB n d.At 0 1099511627776) λh=>(bif (!h)then AC AE else AH (Ru n d) λj=>(bif (!j)then AC AE else AH (Rv n d) λm=>AC (d != m))))):AB Bool) λq=>(bif q then AC 120 else AC 0)
instance Z?(g:CP):Ki (Mq n g) 81 [.a (CP.c g)]:=by
 refine Kg 8 func81 Z Z Z Z λr h=>Bd h λj d h=>Cg j [] [] (λj=>[(29,.b j)]) Ze Zf ?_ ?_
 .refine G0 0 Z (Iu 25 [24] [(0,0,0),(0,0,0),(0,0,0),(0,0,0),(0,0,0),(0,0,0),(0,0,0),(0,0,0),(0,0,0),(0,0,0),(0,0,0),(0,0,0),(0,0,0),(0,0,0),(0,0,0),(0,0,0),(0,0,0),(0,0,0),(0,0,0),(0,0,0),(0,0,0),(0,0,0),(0,0,1),(0,0,0),(1,0,0)] (by kernel_rfl) (Dk 2 Z ?_));obtain⟨L,m,d⟩:=Yf d;refine DK.wo (x:=.b L) ?_ ?_
  .exact Pc [] Z (Dc.fn call149 Z Z Z) ((lM _ _).c _ m) Z Wp
  refine Dk 2 Z (DK.is 4 d Z Z Z (λ_ d=>?_) (λ_ d=>?_))
  .exact Dk 20 Z (DK.done Z Z (Gl 3 Z d []))
  .refine Dk 2 Z ?_;obtain⟨M,y,d⟩:=Yf d;refine DK.wo (x:=.b M) ?_ ?_
   .exact Pc [] Z (Dc.fn call150 Z Z Z) ((lJ _ _).c _ y) (hg:=(gT Z)) Z Wp
   refine Dk 3 Z (DK.is 10 d Z Z Z (λ_ d=>?_) (λ_ d=>?_))
   .exact Dk 14 Z (DK.done Z Z (Gl 3 Z d []))
   .refine Dk 2 Z ?_;obtain⟨N,E,d⟩:=Yf d;refine DK.wo (x:=.b N) ?_ ?_
    .exact Pc [] Z (Dc.fn call151 Z Z Z) ((k_c _ _ _ _).c _ E) (hg:=(gT Z)) Z Wp
    refine Dk 3 Z (DK.is 16 d Z Z Z (λ_ d=>?_) (λ_ d=>?_))
    .exact Dk 8 Z (DK.done Z Z (Gl 3 Z d []))
    .refine Dk 1 Z ?_;obtain⟨O,G,d⟩:=Yf d;refine DK.wo (x:=.b O) ?_ ?_
     .exact Pc [] Z (Dc.fn call152 Z Z Z) ((k9 _ _).c _ G) (hg:=(gT Z)) Z Wp
     refine Dk 3 Z (DK.is 21 d Z Z Z (λ_ d=>?_) (λ_ d=>?_))
     .exact Dk 3 Z (DK.done Z Z (Gl 3 Z d []))
     .refine Ll (lo:=0) (x:=.a (CP.c g)) ⟨Z,trivial⟩ ?_;refine Dk 1 Z ?_;obtain⟨f,J,d⟩:=Yf d;refine Ew (x:=.a (CP.c f)) (X1:=[.c 109 (CP.c g),.c 109 (CP.c f)]) ?_ ?_
      .refine Qt [] (Dc.fn call153 Z Z Z) ((k_ _ _).c _ J) ?_ (hg:=(gT Z));rintro _ _ ⟨rfl,rfl⟩;exact FE Z Wp
      refine DK.done Z Z ?_;refine vX (.b (g != f)) (vD (p:=g) (q:=f) tD Z Z) ?_ (gT Z);exact Gl 2 Z d []
 exact bu h
def Pr(n:Nat)(d:CP):AB (AA Int):=(bif (d.AV==1)then AH (app [d.AV,d.BB,d.No,d.At] [d.AP.Bf,d.AP.AN,d.AP.Aw,d.AP.Bc,d.AP.B',d.AP.A',d.AP.Bv,d.AP.B_]) λE=>AC E else(bif (d.AV==2)then AH (app [d.AV,d.BB,d.No,d.At] [d.A_.Af,d.A_.Ad,d.A_.A',d.A_.BU]) λF=>AC F else(bif (d.AV==3)then AH (app [d.AV,d.BB,d.No,d.At] [d.Av.Af,d.Av.Ad,d.Av.BU,d.Av.True,d.Av.CC]) λG=>AC G else(bif (d.AV==4)then AH (app [d.AV,d.BB,d.No,d.At] [d.BA.B5,d.BA.Bq,d.BA.Br,d.BA.B4,d.BA.Bm,d.BA.Bp,d.BA.Bn,d.BA.Bs]) λH=>AC H else(bif (d.AV==5)then AH (app [d.AV,d.BB,d.No,d.At] [d.AY.Bf,d.AY.AS,d.AY.Lo,d.AY.Hi]) λf=>AC f else(bif (d.AV==6)then AH (app [d.AV,d.BB,d.No,d.At] [d.A2.Af,d.A2.Ad,d.A2.Lo,d.A2.Hi]) λg=>AC g else(bif (d.AV==7)then AH (app [d.AV,d.BB,d.No,d.At] [d.Bh.A,d.Bh.B]) λh=>AC h else(bif (d.AV==8)then AH (app [d.AV,d.BB,d.No,d.At] [d.Ap.BS,d.Ap.Bf,d.Ap.Ag,d.Ap.AS]) λj=>AC j else(bif (d.AV==9)then AH (app [d.AV,d.BB,d.No,d.At] [d.A7.BS,d.A7.By,d.A7.B7,d.A7.CA]) λm=>AC m else(bif (d.AV==10)then AH (app [d.AV,d.BB,d.No,d.At] [d.Ao.BS,d.Ao.Bi,d.Ao.AV,d.Ao.Bf,d.Ao.AS,d.Ao.BW]) λq=>AC q else(bif (d.AV==11)then(bif d.BG.Bl then AH (app [d.AV,d.BB,d.No,d.At] [d.BG.BS,1]) λt=>AC t else AH (app [d.AV,d.BB,d.No,d.At] [d.BG.BS,0]) λx=>AC x)else(bif (d.AV==13)then AH (app [d.AV,d.BB,d.No,d.At] [d.B8.BB,d.B8.No]) λy=>AC y else AC [d.AV,d.BB,d.No,d.At]))))))))))))
instance _S(d:CP):Kr (Pr n d) 239 [.a (CP.c d)] 3 1 eI:=by
 refine Kg 16 func239 Z Z Z Z λr h=>vH (Ek (xs:=[.tmp 14,.tmp 16,.tmp 18,.tmp 20]) (es:=map eI [d.AV,d.BB,d.No,d.At]) J0 Z Z Z Z Z ⟨Z,Z,Z,Z,trivial⟩ Z Z) ?_;refine Fg 17 Z Z (Cn Z h (λ_ h=>?_) (λ_ h=>?_))
 .exact bu h
 refine Gc 6 Z (Cn Z h (λ_ h=>?_) (λ_ h=>?_))
 iterate 2 exact bu h
def W8(n:Nat)(d:Int):AB Unit:=AC ()
instance zH(d:Int):Kq (W8 n d) 304 [I d] [] (λ_=>.a [I 1,I d,.str [],.q 4 (map Value.enc [])]) (λ_=>[.c 363 [I 1,I d,.str [],.q 4 (map Value.enc [])]]):=KB func304
def U9(g:AA Int)(d:(AA AL)×Int):AB (CJ ((AA AL)×Int) (AA AL)):=(bif d.2<(AI g:Int) then AH (CN g d.2) λf=>AH (W8 n f) λj=>AH (app d.1 [{AV:=1,N:=f,S:=[],L:=[]:AL}]) λh=>AC (.k (h,i64.wrap (d.2+1)))else AC (.d d.1))
def Pb(f:AA Int):AB (AA AL):=AH (iter (U9 n f) n ([],0):AB (AA AL)) λd=>AC d
instance _F(j:AA Int):Kq (Pb n j) 238 [.q 1 (map eI j)] [] (λr=>.a [I 3,I 0,.str [],.o 0 (AI r) 4]) (λr=>[.r 363 4 (map Value.enc r),.c 363 [I 3,I 0,.str [],.o 0 (AI r) 4]]):=by
 have:=hn 30301 [0,1,0] [2,3] (λ(_:AA AL)=>[]) (λf=>[(1,.c [(3,.o 2 (AI f) 4)]),(2,.w (.r 363 4 (map Value.enc f)))]);have:=hl 30301 [0,1,0] [0,2,3] (λ(d:(AA AL)×Int)=>[(4,I d.2)]) (λd=>[(1,.c [(3,.o 2 (AI d.1) 4)]),(2,.w (.r 363 4 (map Value.enc d.1)))]);have:=hk 5 8 [6] [(0,0,1),(0,0,1),(0,0,0),(0,0,0),(0,0,0),(0,0,0),(1,0,0),(0,1,1)];refine Kg 7 func238 Z Z Z Z λr h=>?_;refine vV (CY.build (zs:=[I 0,I 0,.str [],.n]) zeroValue363 (IN Z) QrP) ?_;refine Fg 9 Z Z (Bd h λf q h=>Cg f [0,1,0] [2,3] Ze (λf=>[(1,.c 363 [I 3,I 0,.str [],.o 2 (AI f) 4]),(2,.r 363 4 (map Value.enc f))]) Zf ?_ ?_)
 .refine G0 1 Z (Lp [0,1,0] [0,2,3] (λd=>[(4,I d.2)]) (λd=>[(1,.c 363 [I 3,I 0,.str [],.o 2 (AI d.1) 4]),(2,.r 363 4 (map Value.enc d.1))]) q Zf ?_ ?_)
  .exact En (QS (i:=1) (m:=3) (k:=4) Z Z Z) (Lr [0,1,2])
  intro d x t g;exact FS g t
 exact bu h
def V3(n:Nat)(f:AL)(rec271:AL->AB Bool)(d:Int):AB (CJ Int (CJ Unit Bool)):=(bif d<(AI f.L:Int) then AH (CN f.L d) λg=>AH (rec271 g) λh=>(bif (!h)then AC (.d (.d AD))else AC (.k (i64.wrap (d+1))))else AC (.d (.k ())))
def bB(rec271:AL->AB Bool)(n:Nat)(d:AL):AB Bool:=(bif (d.AV==1)then AH ((bif (d.S==[])then AC ((AI d.L:Int)==0)else AC AD):AB Bool) λj=>AC j else(bif (d.AV==2)then AH ((bif (d.N==0)then AC ((AI d.L:Int)==0)else AC AD):AB Bool) λm=>AC m else(bif (d.AV==3)then AH (iter (V3 n d rec271) n 0:AB (CJ Unit Bool)) λg=>match g with|.k f=>(AH ((bif (d.N==0)then AC (d.S==[])else AC AD):AB Bool) λh=>AC h)|.d f=>AC f else AC AD)))
theorem Qa3(rec271:AL->AB Bool)(B:∀(f:AL),Kb (rec271 f) 335 [.a (Value.c f)])(n:Nat)(f:AL):Kb (bB rec271 n f) 335 [.a (Value.c f)]:=by
 refine Kg 20 func335 Z Z Z Z λr h=>Cn Z h (λ_ h=>?_) (λ_ h=>?_)
 .exact bu h
 refine Gc 6 Z (Cn Z h (λ_ h=>?_) (λ_ h=>?_))
 .exact bu h
 refine Gc 6 Z (Cn Z h (λ_ h=>?_) (λ_ h=>?_))
 .refine Gc 6 Z (Bd h λG J h=>KR (b:=G) [0] [1] Ze Ze Zf ?_ (λP env H L M=>?_))
  .refine G0 1 Z (Lp [0] [1] (λm=>[(3,I m)]) Ze J Zf (Lr [0]) λm R d g=>?_);refine G0 6 Z (Lg 3 Z Z (Dm Z d (λ_ d=>?_) (λ_ d=>?_)))
   .exact FS g d
   refine Gc 9 Z (Bd d λN x d=>OW x (pE N) Z (Go 1 Z (Cz [] d Kc Z λT Q d=>Go 3 Z (Cn Z d (λ_ d=>?_) (λ_ d=>?_)))))
   .exact H9 g d h
   exact bu d
  subst L;refine Gx 1 Z (Ee M (Gc 1 Z (Bd h λj O h=>Cg j [] [] (λj=>[(2,.b j)]) Ze Zf ?_ ?_)))
  .exact bu O
  exact bu h
 exact bu h
def Wr:Nat->AL->AB Bool
  |0=>λ_=>AF
  |n+1=>bB (Wr n) n
instance k_n:∀(d:AL),Kb (Wr n d) 335 [.a (Value.c d)]:=by
  induction n with
  |zero=>exact λ_=>⟨nofun⟩
  |succ n ih=>exact Qa3 _ ih n
def VS(n:Nat)(g:AL)(rec272:AL->AB Int)(d:Int×Int):AB (CJ (Int×Int) Int):=(bif d.2<(AI g.L:Int) then AH (CN g.L d.2) λh=>AH (rec272 h) λf=>AC (.k ((if d.1<f then f else d.1),i64.wrap (d.2+1)))else AC (.d d.1))
def bA(rec272:AL->AB Int)(n:Nat)(d:AL):AB Int:=(bif (d.AV != 3)then AC 0 else AH (iter (VS n d rec272) n (0,0):AB Int) λf=>AC (i64.wrap (f+1)))
theorem Qbj(rec272:AL->AB Int)(g:∀(d:AL),Ki (rec272 d) 336 [.a (Value.c d)])(n:Nat)(d:AL):Ki (bA rec272 n d) 336 [.a (Value.c d)]:=by
 exact Kg 0 func336 Z Z Z Z λr h=>by
  have:=hn 50301 [] [] (λ(j:Int)=>[(3,I j)]) Ze;have:=hl 50301 [0] [1] (λ(f:Int×Int)=>[(3,I f.1),(4,I f.2)]) Ze;exact bu h
def Wb:Nat->AL->AB Int
  |0=>λ_=>AF
  |n+1=>bA (Wb n) n
instance k_o:∀(d:AL),Ki (Wb n d) 336 [.a (Value.c d)]:=by
  induction n with
  |zero=>exact λ_=>⟨nofun⟩
  |succ n ih=>exact Qbj _ ih n
def Wt(d:AL):AB Int:=AH (Wr n d) λf=>(bif (!f)then AC 1 else AH (Wb n d) λg=>(bif 16<g then AC 2 else AC 0))
instance yw(d:AL):Ki (Wt n d) 302 [.a (Value.c d)]:=KB func302
def RT(n:Nat)(d:Int):AB Int:=(bif 0<=d then AC (u64.wrap (2*(u64.wrap d)))else AC (u64.wrap ((u64.wrap (2*(u64.wrap (i64.wrap (0-(i64.wrap (d+1)))))))+1)))
instance A?(d:Int):Ks (RT n d) 338 [I d] [] (λr=>.i .u64 r):=by
 refine Kg 12 func338 Z Z Z Z λr h=>Cn Z h (λ_ h=>?_) (λ_ h=>?_)
 .refine Gc 3 Z (vV (Sj Z EL EW Z) ?_);exact Gt 6 Z h 2 []
 refine Gc 7 Z (vV (Sj Z EL EW Z) ?_);exact Gt 6 Z h 2 []
def bD(rec275:Int->AB (AA Int))(n:Nat)(d:Int):AB (AA Int):=(bif d<128 then AC [u8.wrap d]else AH (rec275 (u64.wrap (Int.tdiv d 128))) λf=>AH (app [u8.wrap (u64.wrap ((Int.tmod d 128)+128))] f) λg=>AC g)
theorem QaL(rec275:Int->AB (AA Int))(f:∀(d:Int),Kr (rec275 d) 337 [.i .u64 d] 5 1 (Q9 .u8))(n:Nat)(d:Int):Kr (bD rec275 n d) 337 [.i .u64 d] 5 1 (Q9 .u8):=by
 refine Kg 12 func337 Z Z Z Z λr h=>Cn Z h (λ_ h=>?_) (λ_ h=>?_)
 .refine Gc 3 Z ?_;refine vX (.i .u8 (u8.wrap d)) (Sj Z EW ET Z) ?_;exact bu h
 refine Gc 5 Z ?_;refine vX (.i .u64 (Int.tmod d 128)) (CY.rem Z Z Z (by decide)) ?_;refine Go 1 Z ?_;refine vV (x:=(.i .u8 (u8.wrap (u64.wrap ((Int.tmod d 128)+128))))) (Sj Z EW ET Z) ?_;refine vH (Ek (xs:=[.tmp 11]) (es:=map (Q9 .u8) [u8.wrap (u64.wrap ((Int.tmod d 128)+128))]) Sf Z Z Z Z Z ⟨Z,trivial⟩ Z Z) ?_;refine Fg 1 Z Z ?_;refine vX (.i .u64 (u64.wrap (Int.tdiv d 128))) (CY.quo Z Z Z (by decide)) ?_;exact bu h
def Su:Nat->Int->AB (AA Int)
  |0=>λ_=>AF
  |n+1=>bD (Su n) n
instance k_l:∀(d:Int),Kr (Su n d) 337 [.i .u64 d] 5 1 (Q9 .u8):=by
  induction n with
  |zero=>exact λ_=>⟨nofun⟩
  |succ n ih=>exact QaL _ ih n
def WX(n:Nat)(f:AL)(rec273:AL->AB (AA Int))(d:(AA Int)×Int):AB (CJ ((AA Int)×Int) (AA Int)):=(bif d.2<(AI f.L:Int) then AH (CN f.L d.2) λg=>AH (rec273 g) λh=>AH (app d.1 h) λj=>AC (.k (j,i64.wrap (d.2+1)))else AC (.d d.1))
def bC(rec273:AL->AB (AA Int))(n:Nat)(d:AL):AB (AA Int):=(bif (d.AV==1)then AH (RT n d.N) λg=>AH (Su n g) λh=>AH (app [1] h) λj=>AC j else(bif (d.AV==2)then AF else AH (Su n (u64.wrap (AI d.L:Int))) λm=>AH (app [3] m) λq=>AH (iter (WX n d rec273) n (q,0):AB (AA Int)) λf=>AC f))
theorem Qa2(rec273:AL->AB (AA Int))(y:∀(j:AL),Kr (rec273 j) 303 [.a (Value.c j)] 5 1 (Q9 .u8))(n:Nat)(j:AL):Kr (bC rec273 n j) 303 [.a (Value.c j)] 5 1 (Q9 .u8):=by
 refine Kg 20 func303 Z Z Z Z λr h=>Cn Z h (λ_ h=>?_) (λ_ h=>?_)
 .refine Gc 2 Z (vH (Ek (xs:=[.const (.int .u8 1)]) (es:=map (Q9 .u8) [1]) Sf Z Z Z Z Z ⟨Z,trivial⟩ Z Z) ?_);refine Fg 2 Z Z (Cz [] h Kc Z λV N h=>Cd [] h Kc Z λW O h=>FE Z (Bd h λX E h=>vH (YP (e:=(Q9 .u8)) E Sf EJ (Lj (i:=2))) ?_));exact bu h
 refine Gc 6 Z (Cn Z h (λ_ h=>?_) (λ_ h=>?_))
 .refine Gc 1 Z ?_;cases h
 refine Gc 5 Z (vH (Ek (xs:=[.const (.int .u8 3)]) (es:=map (Q9 .u8) [3]) Sf Z Z Z Z Z ⟨Z,trivial⟩ Z Z) ?_);refine Fg 2 Z Z (Lm Z ?_);refine vX (.i .u64 (u64.wrap (AI j.L:Int))) (Sj Z EL EW Z) ?_;refine Cd [] h Kc Z λY P h=>FE Z (Bd h λl9 G h=>vH (YP (e:=(Q9 .u8)) G Sf EJ (Lj (i:=2))) ?_);refine Fg 9 Z Z (Bd h λf H h=>Cg f [1] [] (λf=>[(3,.o 0 (AI f) 1)]) (λf=>[(0,.r 5 1 (map (Q9 .u8) f))]) Zf ?_ ?_)
 .refine G0 1 Z (Lp [0,3] [1] (λg=>[(3,.o 1 (AI g.1) 1),(4,I g.2)]) (λg=>[(1,.r 5 1 (map (Q9 .u8) g.1))]) H Zf (Lr [0,3]) λg Q d m=>?_);refine G0 6 Z (Lg 3 Z Z (Dm Z d (λ_ d=>?_) (λ_ d=>?_)))
  .exact Gc 2 Z (Jf d (Gx 1 Z (NT m d (Lr [1]))))
  refine Gc 9 Z (Bd d λJ t d=>OW t (pE J) Z (Go 1 Z (Cd [] d Kc Z λR M d=>FE Z (Bd d λT x d=>vH (YP (e:=(Q9 .u8)) x Sf EJ (Lj (i:=2))) ?_))));exact bu d
 exact bu h
def W5:Nat->AL->AB (AA Int)
  |0=>λ_=>AF
  |n+1=>bC (W5 n) n
instance k_m:∀(d:AL),Kr (W5 n d) 303 [.a (Value.c d)] 5 1 (Q9 .u8):=by
  induction n with
  |zero=>exact λ_=>⟨nofun⟩
  |succ n ih=>exact Qa2 _ ih n
def Wj(d:AL):AB ((AA Int)×Int):=AH (Wt n d) λf=>(bif (f != 0)then AC ([],f)else AH (W5 n d) λg=>AC (g,0))
instance yn(d:AL):Kq (Wj n d) 237 [.a (Value.c d)] [] (λr=>.t [.o 0 (AI r.1) 1,I r.2]) (λr=>[.r 5 1 (map (Q9 .u8) r.1)]):=by
 refine Kg 10 func237 Z Z Z Z λr h=>Cz [] h Kc Z λj g h=>Go 10 Z (Cn Z h (λ_ h=>?_) (λ_ h=>?_))
 .refine Gc 9 Z ?_;obtain rfl:=Oi h;refine R2 2 3 Z Z ?_;exact En (Ep (s:=2) (XS Z) Z) (Lr [1])
 exact bu h
def Mn(d:CP):AB ((AA Int)×Int):=AH (Mq n d) λg=>(bif (g != 0)then AC ([],120)else AH (Pr n d) λh=>AH (Pb n h) λj=>AH (Wj n ({AV:=3,N:=0,S:=[],L:=j:AL})) λf=>AC (f.1,f.2))
instance W?(d:CP):Kq (Mn n d) 154 [.a (CP.c d)] [] (λr=>.t [.o 0 (AI r.1) 1,I r.2]) (λr=>[.r 5 1 (map (Q9 .u8) r.1)]):=by
 refine Kg 11 func154 Z Z Z Z λr h=>Cz [] h Kc Z λq g h=>Go 3 Z (Cn Z h (λ_ h=>?_) (λ_ h=>?_))
 .refine Gc 8 Z ?_;obtain rfl:=Oi h;refine R2 2 3 Z Z ?_;exact En (Ep (s:=2) (XS Z) Z) (Lr [1])
 refine Gc 5 Z (Cd [] h Kc Z λt j h=>FE Z (Er (Yz 1 [(8,_)]) ?_));refine Cd [] h Kc Z λx m h=>FE Z (Er (Yz 2 [(9,_)]) ?_);exact bu h
def VX(n:Nat)(f:CP)(g:CP)(d:Int):AB (CJ Int (CJ Unit Int)):=(bif d<3 then AH (CN [f.At,f.BB,f.No] d) λh=>AH (CN [g.At,g.BB,g.No] d) λj=>(bif h<j then AC (.d (.d (-1)))else AH (CN [f.At,f.BB,f.No] d) λm=>AH (CN [g.At,g.BB,g.No] d) λq=>(bif q<m then AC (.d (.d 1))else AC (.k (i64.wrap (d+1)))))else AC (.d (.k ())))
def Pz(h:CP)(j:CP):AB Int:=AH (iter (VX n h j) n 0:AB (CJ Unit Int)) λm=>match m with|.k d=>(AH (Mn n h) λf=>AH (Mn n j) λg=>(bif Op.bytesLess (map Jr f.1) (map Jr g.1)then AC (-1)else(bif (!(Op.bytesLess (map Jr f.1) (map Jr g.1)||(map Jr f.1)==(map Jr g.1)))then AC 1 else AC 0)))|.d d=>AC d
instance _Z(j:CP)(m:CP):Ki (Pz n j m) 82 [.a (CP.c j),.a (CP.c m)]:=by
 have:=hn 40603 [0,1] [2,3] (λ(_:Unit)=>[]) Ze;have:=hl 40603 [0,1,2,3] [2,3,5,6] (λ(d:Int)=>[(7,I d)]) Ze;refine Kg 15 func82 Z Z Z Z λr h=>vH (Ek (xs:=[.tmp 13,.tmp 15,.tmp 17]) (es:=map eI [j.At,j.BB,j.No]) J0 Z Z Z Z Z ⟨Z,Z,Z,trivial⟩ Z Z) ?_;refine Fg 11 Z Z (vH (Ek (xs:=[.tmp 20,.tmp 22,.tmp 24]) (es:=map eI [m.At,m.BB,m.No]) J0 Z Z Z Z Z ⟨Z,Z,Z,trivial⟩ Z Z) ?_);refine Fg 9 Z Z (Bd h λx y h=>Hz (b:=x) [0,1] [2,3] Ze Ze Zf ?_ (λ_ B=>?_))
 .refine G0 1 Z (Lp [0,1,2,3] [2,3,5,6] (λd=>[(7,I d)]) Ze y Zf (Lr [0,1,2,3]) λd J E q=>?_);exact H9 q E h
 subst B;refine Gc 3 Z (Cd [] h Kc Z λf G h=>Fg 10 Z Z (Cd [] h Kc Z λg H h=>Fg 11 Z Z ?_));refine vX (.str (map Jr f.1)) (jf (l:=f.1) (HB.row (i:=2)) EJ ET ES) ?_;refine Go 1 Z ?_;refine vX (.str (map Jr g.1)) (jf (l:=g.1) (HB.row (i:=3)) EJ ET ES) ?_;refine Go 3 Z (Cn Z h (λ_ h=>?_) (λ_ h=>?_))
 .exact bu h
 refine Gc 6 Z ?_;refine vX (.str (map Jr f.1)) (jf (l:=f.1) (HB.row (i:=2)) EJ ET ES) ?_;refine Go 1 Z ?_;refine vX (.str (map Jr g.1)) (jf (l:=g.1) (HB.row (i:=3)) EJ ET ES) ?_;refine vV (QmQ Z Z Z) ?_;exact bu h
def qI(q:AA CP)(f:(AA CP)×Int)(d:Int):AB (CJ Int Int):=AH ((bif d<(AI f.1:Int) then AH (CN f.1 d) λg=>AH (CN q f.2) λh=>AH (Pz n g h) λj=>AC (AG (j<0))else AC AD):AB Bool) λm=>(bif m then AC (.k (i64.wrap (d+1)))else AC (.d d))
def WS(g:AA CP)(d:(AA CP)×Int):AB (CJ ((AA CP)×Int) (AA CP)):=(bif d.2<(AI g:Int) then AH (AH (CN g d.2) λh=>AH (Mq n h) λj=>(bif (j != 0)then AC d.1 else AH (iter (qI n g d) n 0:AB Int) λf=>AH ((bif f<(AI d.1:Int) then AH (CN d.1 f) λm=>AH (CN g d.2) λq=>AC (m==q)else AC AD):AB Bool) λt=>(bif t then AC d.1 else AH (Do d.1 0 f) λx=>AH (app ([]:AA CP) x) λy=>AH (CN g d.2) λB=>AH (app y [B]) λE=>AH (Do d.1 f (AI d.1:Int)) λF=>AH (app E F) λG=>AC G)):AB (AA CP)) λH=>AC (.k (H,i64.wrap (d.2+1)))else AC (.d d.1))
def HF(f:AA CP):AB (AA CP):=AH (iter (WS n f) n (([]:AA CP),0):AB (AA CP)) λd=>AC d
instance AAb(T:AA CP):Kr (HF n T) 24 [.q 57 (map CP.c T)] 109 57 CP.c:=by
 have:=hn 30804 [0] [] (λ(g:AA CP)=>[(3,.o 0 (AI g) 57)]) (λg=>[(0,.w (.r 109 57 (map CP.c g)))]);have:=hl 30804 [0] [0] (λ(f:(AA CP)×Int)=>[(3,.o 0 (AI f.1) 57),(4,I f.2)]) (λf=>[(0,.w (.r 109 57 (map CP.c f.1)))]);have:=hn 50603 [0] [0,4] (λ(j:AA CP)=>[(3,.o 0 (AI j) 57)]) (λj=>[(0,.w (.r 109 57 (map CP.c j)))]);have:=hn 70201 [0] [0,3,4] (λ(y:Int)=>[(5,I y)]) Ze;have:=hl 70201 [0] [0,3,4] (λ(E:Int)=>[(5,I E)]) Ze;have:=hn 70100 [0] [0,3,4,5] (λ(V:Bool)=>[(34,.b V)]) Ze;have:=hn 90100 [0] [0,3,4,5] (λ(B:Bool)=>[(51,.b B)]) Ze;have:=hk 10 14 [0,4,10] [(1,0,0),(0,0,1),(0,0,1),(0,0,1),(1,1,0),(0,0,2),(0,0,2),(0,0,2),(0,0,2),(0,0,2),(1,2,0),(0,0,3),(0,0,3),(0,0,3)];refine Kg 7 func24 Z Z Z Z λr h=>vH (Ek (xs:=[]) (es:=map CP.c []) dX Z Z Z Z Z trivial Z Z) ?_;refine Fg 9 Z Z (Bd h λg W h=>Cg g [0] [] (λg=>[(3,.o 0 (AI g) 57)]) (λg=>[(0,.r 109 57 (map CP.c g))]) Zf ?_ ?_)
 .refine G0 1 Z (Lp [0] [0] (λf=>[(3,.o 0 (AI f.1) 57),(4,I f.2)]) (λf=>[(0,.r 109 57 (map CP.c f.1))]) W Zf (Lr [0]) λf ac t L=>?_);refine G0 5 Z (Lg 3 Z Z (Dm Z t (λ_ t=>?_) (λ_ t=>?_)))
  .exact FS L t
  refine Gc 3 Z (Bd t λj d t=>Cg j [0] [0,4] (λj=>[(3,.o 0 (AI j) 57)]) (λj=>[(0,.r 109 57 (map CP.c j))]) Zf ?_ ?_)
  .refine G0 6 Z (Bd d λad N d=>Iz N Z (Go 1 Z (Cz [] d Kc Z λae ab d=>Go 3 Z (Cn Z d (λ_ d=>?_) (λ_ d=>?_)))))
   .exact bu d
   refine Gc 8 Z (Bd d λy X d=>Ct y [0] [0,3,4] (λy=>[(5,I y)]) Ze Zf ?_ (λenv H aa=>?_))
   .refine G0 1 Z (Lp [0] [0,3,4] (λE=>[(5,I E)]) Ze X Zf (Lr [0]) λE af Y P=>?_);exact FS P Y
   refine Gx 1 Z (Ee aa (Gc 2 Z (Bd d λB m d=>Cg B [0] [0,3,4,5] (λB=>[(51,.b B)]) Ze Zf ?_ ?_)))
   .refine G0 0 Z (GX 13 Z (D 5 Z (DS.is 4 m Z Z Z (λ_ m=>?_) (λ_ m=>?_))))
    .refine D 2 Z ?_;obtain⟨F,J,m⟩:=Yf m;refine DS.v (x:=(.p 0 (toNat y*57))) (Qw J Z EM EU) ?_ (hg:=(gT Z));refine DS.v (x:=(.a (CP.c F))) (Yd Z isAgg109 EU Z (Qy J) Z Z) ?_ (hg:=(gT Z));refine D 2 Z ?_;obtain⟨G,R,m⟩:=Yf m;refine DS.v (T5 (e:=CP.c) (l:=T) (v:=G) R EM EU) ?_ (hg:=(gT Z));refine D 1 Z (Eg Z ?_);refine vX (.b (F==G)) (je (p:=F) (q:=G) tD Z Z) ?_ (gT Z);exact bu m
    exact bu m
   exact bu d
  exact bu t
 exact bu h
def G4(n:Nat)(f:CE)(d:Int):AB Bool:=AH ((bif 0<=d then AC (AG (d<(AI f.An:Int)))else AC AD):AB Bool) λg=>AC g
instance AAl(d:CE)(f:Int):Kb (G4 n d f) 135 [.a (CE.c d),I f]:=KB func135
def Hg(n:Nat)(d:CE)(f:Int):AB Bool:=AH (CN d.An f) λg=>AC (g.AV==1)
instance li(d:CE)(f:Int):Kb (Hg n d f) 193 [.a (CE.c d),I f]:=KB func193
def KF(n:Nat)(d:CF)(f:CF):AB Bool:=AH ((bif d.Af<f.Af then AC AE else(bif (d.Af==f.Af)then AC (AG (d.Ad<f.Ad))else AC AD)):AB Bool) λg=>AC g
instance AAG(d:CF)(f:CF):Kb (KF n d f) 220 [.a (CF.c d),.a (CF.c f)]:=KB func220
def qH(f:AA CF)(m:Int)(q:Int)(d:Int):AB (CJ Int Int):=AH ((bif d<(AI f:Int) then AH (CN f d) λg=>AH (KF n g ({Af:=m,Ad:=q,A4:=0:CF})) λh=>AC h else AC AD):AB Bool) λj=>(bif j then AC (.k (i64.wrap (d+1)))else AC (.d d))
def KC(j:CE)(d:AA CF)(g:Int)(h:Int):AB (AA CF):=AH (AH (G4 n j g) λF=>(bif (!F)then AC AE else AH (Hg n j g) λG=>AC G):AB Bool) λH=>(bif H then AC d else AH (iter (qH n d g h) n 0:AB Int) λf=>AH ((bif f<(AI d:Int) then AH (CN d f) λm=>(bif (m.Af==g)then AH (CN d f) λq=>AC (q.Ad==h)else AC AD)else AC AD):AB Bool) λt=>(bif t then AC d else AH (Do d f (AI d:Int)) λx=>AH (app [{Af:=g,Ad:=h,A4:=0:CF}] x) λy=>AH (Do d 0 f) λB=>AH (app B y) λE=>AC E))
instance AAD(f:CE)(d:AA CF)(g:Int)(j:Int):Kq (KC n f d g j) 141 [.a (CE.c f),.o 0 (AI d) 3,I g,I j] [.r 201 3 (map CF.c d)] (λr=>.o 1 (AI r) 3) (λr=>[.dead,.r 201 3 (map CF.c r)]):=by
 exact Kg 0 func141 Z Z Z Z λr h=>by
  have:=hn 10100 [0] [1,2,3] (λ(y:Bool)=>[(20,.b y)]) Ze;have:=hn 50201 [0,1] [1,2,3,9] (λ(m:Int)=>[(10,I m)]) Ze;have:=hl 50201 [0,1] [1,2,3,9] (λ(q:Int)=>[(10,I q)]) Ze;have:=hn 50100 [0,1] [1,2,3,9,10] (λ(t:Bool)=>[(36,.b t)]) Ze;have:=hn 70100 [0,1] [1,9,10] (λ(x:Bool)=>[(60,.b x)]) Ze;have:=hk 9 5 [1] [(0,0,0),(1,0,0),(0,0,1),(0,0,1),(0,0,1)];exact bu h
def WP(h:CE)(f:AA CP)(d:(AA CF)×Int):AB (CJ ((AA CF)×Int) (AA CF)):=(bif d.2<(AI f:Int) then AH (CN f d.2) λg=>AH ((bif (g.AV==2)then AH (CN f d.2) λJ=>AH (CN f d.2) λj=>AH (KC n h d.1 J.A_.Af j.A_.Ad) λm=>AC m else(bif (g.AV==3)then AH (CN f d.2) λq=>AH (CN f d.2) λt=>AH (KC n h d.1 q.Av.Af t.Av.Ad) λx=>AC x else(bif (g.AV==4)then AH (CN f d.2) λy=>AH (CN f d.2) λB=>AH (KC n h d.1 y.BA.B5 B.BA.Bq) λE=>AH (CN f d.2) λF=>AH (CN f d.2) λG=>AH (KC n h E F.BA.B4 G.BA.Bm) λH=>AC H else AC d.1))):AB (AA CF)) λL=>AC (.k (L,i64.wrap (d.2+1)))else AC (.d d.1))
def f_(n:Nat)(B:AA CP)(f:(AA CF)×Int)(d:(AA CF)×Int):AB (CJ ((AA CF)×Int) (AA CF)):=(bif 0<=d.2 then AH (CN B d.2) λg=>AH (AH (CN B d.2) λj=>(bif (j.AV==3)then AH (CN d.1 f.2) λm=>(bif (g.Av.Af==m.Af)then AH (CN d.1 f.2) λq=>AC (g.Av.Ad==q.Ad)else AC AD)else AC AD):AB Bool) λt=>AH ((bif t then AH (CN d.1 f.2) λh=>AH (JF d.1 f.2 ({Af:=h.Af,Ad:=h.Ad,A4:=g.Av.BU:CF})) λx=>AC x else AC d.1):AB (AA CF)) λy=>AC (.k (y,i64.wrap (d.2-1)))else AC (.d d.1))
def f6(g:AA CP)(d:(AA CF)×Int):AB (CJ ((AA CF)×Int) (AA CF)):=(bif d.2<(AI d.1:Int) then AH (iter (f_ n g d) n (d.1,i64.wrap ((AI g:Int)-1)):AB (AA CF)) λf=>AC (.k (f,i64.wrap (d.2+1)))else AC (.d d.1))
def Ms(g:CE)(m:AA CP):AB ((AA CF)×Int):=AH (D2 n g) λh=>(bif (h != 0)then AC ([],h)else AH (HF n m) λj=>AH (iter (WP n g j) n (([]:AA CF),0):AB (AA CF)) λd=>(bif 511<(AI d:Int) then AC ([],2)else AH (iter (f6 n j) n (d,0):AB (AA CF)) λf=>AC (f,0)))
instance b?(B:CE)(E:AA CP):Kq (Ms n B E) 75 [.a (CE.c B),.q 57 (map CP.c E)] [] (λr=>.t [.o 0 (AI r.1) 3,I r.2]) (λr=>[.r 201 3 (map CF.c r.1)]):=by
 exact Kg 0 func75 Z Z Z Z λr h=>by
  have:=hn 71004 [1,2] [7] (λ(t:AA CF)=>[(8,.o 1 (AI t) 3)]) (λt=>[(1,.w (.r 201 3 (map CF.c t)))]);have:=hl 71004 [0,1,2] [2,7] (λ(q:(AA CF)×Int)=>[(8,.o 2 (AI q.1) 3),(9,I q.2)]) (λq=>[(2,.w (.r 201 3 (map CF.c q.1)))]);have:=hn 110603 [0,1,0] [2,7,9] (λ(x:AA CF)=>[(8,.o 2 (AI x) 3)]) (λx=>[(2,.w (.r 201 3 (map CF.c x)))]);have:=hn 200803 [1] [] (λ(g:AA CF)=>[(8,.o 0 (AI g) 3)]) (λg=>[(0,.w (.r 201 3 (map CF.c g)))]);have:=hl 200803 [0,1] [7] (λ(d:(AA CF)×Int)=>[(8,.o 1 (AI d.1) 3),(10,I d.2)]) (λd=>[(1,.w (.r 201 3 (map CF.c d.1)))]);have:=hn 230502 [0,1] [7,10] (λ(j:AA CF)=>[(8,.o 1 (AI j) 3)]) (λj=>[(1,.w (.r 201 3 (map CF.c j)))]);have:=hl 230502 [0,1] [7,10] (λ(f:(AA CF)×Int)=>[(8,.o 1 (AI f.1) 3),(11,I f.2)]) (λf=>[(1,.w (.r 201 3 (map CF.c f.1)))]);have:=hn 260100 [0,1,2] [7,8,10,11,12] (λ(y:Bool)=>[(144,.b y)]) Ze;have:=hn 270101 [0,1] [7,10,11] (λ(m:AA CF)=>[(8,.o 1 (AI m) 3)]) (λm=>[(1,.w (.r 201 3 (map CF.c m)))]);exact bu h
def J5(n:Nat)(f:AA CF)(m:Int)(q:Int)(d:Int):AB (CJ Int (CJ Unit Int)):=(bif d<(AI f:Int) then AH (AH (CN f d) λg=>(bif (g.Af==m)then AH (CN f d) λh=>AC (h.Ad==q)else AC AD):AB Bool) λj=>(bif j then AC (.d (.d (i64.wrap (d+1))))else AC (.k (i64.wrap (d+1))))else AC (.d (.k ())))
def He(g:AA CF)(h:Int)(j:Int):AB Int:=AH (iter (J5 n g h j) n 0:AB (CJ Unit Int)) λf=>match f with|.k d=>(AC 0)|.d d=>AC d
instance lh(d:AA CF)(f:Int)(g:Int):Ki (He n d f g) 136 [.q 3 (map CF.c d),I f,I g]:=KB func136
def LN(n:Nat)(f:AA CF)(d:Int)(g:Int)(h:Int):AB CF:=(bif (d==0)then AC ({Af:=g,Ad:=h,A4:=0:CF})else AH (CN f (i64.wrap (d-1))) λj=>AC j)
instance w?(d:AA CF)(f:Int)(g:Int)(h:Int):Kq (LN n d f g h) 138 [.q 3 (map CF.c d),I f,I g,I h] [] (λr=>.a (CF.c r)) (λr=>[.c 201 (CF.c r)]):=KB func138
def LM(n:Nat)(g:Int)(f:Int):AB (Int×Int):=AH ((bif g<(-2199023255552) then AC AE else(bif 2199023255552<g then AC AE else(bif f<0 then AC AE else AC (AG (100000<f))))):AB Bool) λj=>(bif j then AC (0,1)else AH ((bif g<0 then AC (i64.wrap (0-g))else AC g):AB Int) λd=>AH ((bif (i64.wrap ((i64.wrap (Int.tdiv (i64.wrap (d*f)) 1000000))*1000000))<(i64.wrap (d*f)) then AC (i64.wrap ((i64.wrap (Int.tdiv (i64.wrap (d*f)) 1000000))+1))else AC (i64.wrap (Int.tdiv (i64.wrap (d*f)) 1000000))):AB Int) λh=>AC (h,0))
instance v?(m:Int)(q:Int):Ks (LM n m q) 219 [I m,I q] [] (λr=>.t [I r.1,I r.2]):=by
 refine Kg 8 func219 Z Z Z Z λr h=>Bd h λj B h=>Ct j [] [0,1] (λj=>[(20,.b j)]) Ze Zf ?_ (λenv H d=>?_)
 .exact bu B
 refine Gx 1 Z (Ee d (Cn Z h (λ_ h=>?_) (λ_ h=>?_)))
 .exact bu h
 refine Gc 9 Z (Bd h λf x h=>Ct f [] [1] (λf=>[(0,I f)]) Ze Zf ?_ (λenv H d=>?_))
 .exact bu x
 refine Gx 1 Z (Ee d (Gc 5 Z (vV (CY.quo Z Z Z (by decide)) ?_)));refine Go 14 Z (Bd h λg y h=>Cg g [] [] (λg=>[(6,I g)]) Ze Zf ?_ ?_)
 .exact bu y
 exact bu h
def Kz(d:CE)(f:CF)(h:Int):AB CK:=AH (Hg n d f.Af) λj=>(bif j then AC ({Lo:=0,Hi:=d.AT.A0:CK})else AH (LM n (i64.wrap (h-f.A4)) d.AT.Ba) λg=>AC ({Lo:=i64.wrap (0-g.1),Hi:=i64.wrap (d.AT.A0+g.1):CK}))
instance k_s(d:CE)(f:CF)(g:Int):Kq (Kz n d f g) 137 [.a (CE.c d),.a (CF.c f),I g] [] (λr=>.a [I r.Lo,I r.Hi]) (λr=>[.c 69 [I r.Lo,I r.Hi]]):=KB func137
def U2(n:Nat)(g:(AA CF)×Int)(d:(AA Edge)×Int):AB (CJ ((AA Edge)×Int) (AA Edge)):=(bif d.2<(AI g.1:Int) then AH (app d.1 [{A5:=0,To:=i64.wrap (d.2+1),W:=1099511627776:Edge},{A5:=i64.wrap (d.2+1),To:=0,W:=1099511627776:Edge}]) λf=>AC (.k (f,i64.wrap (d.2+1)))else AC (.d d.1))
def U8(E:CE)(h:AA CP)(f:(AA CF)×(AA Edge)×Int):AB (CJ ((AA CF)×(AA Edge)×Int) ((AA CF)×(AA Edge))):=(bif f.2.2<(AI h:Int) then AH (AH (CN h f.2.2) λd=>AH (AH (CN h f.2.2) λm=>(bif (m.AV != 3)then AC AE else AH (G4 n E d.Av.Af) λq=>AC (!q)):AB Bool) λt=>(bif t then AC f.2.1 else AH (He n f.1 d.Av.Af d.Av.Ad) λg=>AH (LN n f.1 g d.Av.Af d.Av.Ad) λx=>AH (Kz n E x d.Av.BU) λj=>AH (app f.2.1 [{A5:=0,To:=g,W:=i64.wrap ((i64.wrap ((i64.wrap (d.Av.True+d.Av.CC))-d.Av.BU))-j.Lo):Edge},{A5:=g,To:=0,W:=i64.wrap ((i64.wrap ((i64.wrap (d.Av.BU+j.Hi))-d.Av.True))+d.Av.CC):Edge}]) λy=>AC y):AB (AA Edge)) λB=>AC (.k (f.1,B,i64.wrap (f.2.2+1)))else AC (.d (f.1,f.2.1)))
def U'(x:CE)(m:AA CP)(j:(AA CF)×(AA Edge))(f:(AA Edge)×Int):AB (CJ ((AA Edge)×Int) (AA Edge)):=(bif f.2<(AI m:Int) then AH (AH (CN m f.2) λd=>AH (AH (CN m f.2) λy=>(bif (y.AV != 4)then AC AE else AH (G4 n x d.BA.B5) λB=>(bif (!B)then AC AE else AH (G4 n x d.BA.B4) λE=>AC (!E))):AB Bool) λF=>(bif F then AC f.1 else AH (He n j.1 d.BA.B5 d.BA.Bq) λg=>AH (He n j.1 d.BA.B4 d.BA.Bm) λh=>AH (LN n j.1 g d.BA.B5 d.BA.Bq) λG=>AH (Kz n x G d.BA.Br) λq=>AH (LN n j.1 h d.BA.B4 d.BA.Bm) λH=>AH (Kz n x H d.BA.Bp) λt=>AH (app f.1 [{A5:=g,To:=h,W:=i64.wrap ((i64.wrap ((i64.wrap ((i64.wrap (d.BA.Bs-d.BA.Bp))-t.Lo))+d.BA.Br))+q.Hi):Edge},{A5:=h,To:=g,W:=i64.wrap ((i64.wrap ((i64.wrap ((i64.wrap (d.BA.Bp+t.Hi))-d.BA.Br))-q.Lo))-d.BA.Bn):Edge}]) λJ=>AC J):AB (AA Edge)) λL=>AC (.k (L,i64.wrap (f.2+1)))else AC (.d f.1))
def PM(j:CE)(m:AA CP):AB (Int×(AA Edge)×Int):=AH (Ms n j m) λd=>(bif (d.2 != 0)then AC (0,[],d.2)else AH (iter (U2 n d) n ([],0):AB (AA Edge)) λq=>AH (HF n m) λg=>AH (iter (U8 n j g) n (d.1,q,0):AB ((AA CF)×(AA Edge))) λh=>AH (iter (U' n j g h) n (h.2,0):AB (AA Edge)) λf=>(bif 8192<(AI f:Int) then AC (0,[],2)else AC (i64.wrap ((AI d.1:Int)+1),f,0)))
instance zq(T:CE)(V:AA CP):Kq (PM n T V) 73 [.a (CE.c T),.q 57 (map CP.c V)] [] (λr=>.t [.a [I r.1,.q 3 (map Edge.c r.2.1)],I r.2.2]) (λr=>[.c 178 [I r.1,.q 3 (map Edge.c r.2.1)]]):=by
 have:=hn 60301 [0,1,2,3,0] [1,2,4,6,8] (λ(_:AA Edge)=>[]) (λy=>[(3,.c [(1,.o 4 (AI y) 3)]),(4,.w (.r 272 3 (map Edge.c y)))]);have:=hl 60301 [0,1,2,3,0] [1,2,4,6,8] (λ(j:(AA Edge)×Int)=>[(9,I j.2)]) (λj=>[(3,.c [(1,.o 4 (AI j.1) 3)]),(4,.w (.r 272 3 (map Edge.c j.1)))]);have:=hl 110702 [0,1,3,4,5] [2,4,8,10] (λ(g:(AA CF)×(AA Edge)×Int)=>[(6,.q 3 (map CF.c g.1)),(11,I g.2.2)]) (λg=>[(2,.c [(1,.o 3 (AI g.2.1) 3)]),(3,.w (.r 272 3 (map Edge.c g.2.1)))]);have:=hn 130501 [0,1,2,3,4] [2,4,6,8,10,11] (λ(_:AA Edge)=>[]) (λB=>[(2,.c [(1,.o 3 (AI B) 3)]),(3,.w (.r 272 3 (map Edge.c B)))]);have:=hn 140100 [0,1,2,3,4,5] [2,4,6,8,10,11,12] (λ(M:Bool)=>[(77,.b M)]) Ze;have:=hx 16 12 1 2 [AD,AD,AD,AD,AD,AD,AD,AE,AD,AD,AE,AE] [[],[],[],[],[],[],[],[],[],[],[7],[]] [[],[7],[11],[7,10],[7,11],[7,10,11]] [[(0,0),(1,1),(2,2),(4,4)],[(0,0),(2,2)],[(0,0),(2,2)],[(0,0),(2,2)],[(0,0),(2,2)],[(0,0),(2,2)],[(0,0),(2,2)],[(0,1),(2,4)],[(0,0),(1,1),(2,2),(4,4)],[(0,0),(1,1),(2,2),(4,4)],[(1,3),(4,5)],[(0,2),(1,4),(3,5)]];have:=hn 190902 [1,2,3] [4,8] (λ(_:AA Edge)=>[]) (λd=>[(1,.c [(1,.o 2 (AI d) 3)]),(2,.w (.r 272 3 (map Edge.c d)))]);have:=hl 190902 [0,1,2,3,4] [2,4,6,8,10] (λ(f:(AA Edge)×Int)=>[(15,I f.2)]) (λf=>[(2,.c [(1,.o 3 (AI f.1) 3)]),(3,.w (.r 272 3 (map Edge.c f.1)))]);have:=hn 210701 [0,1,2,3,4] [2,4,6,8,10,15] (λ(_:AA Edge)=>[]) (λE=>[(2,.c [(1,.o 3 (AI E) 3)]),(3,.w (.r 272 3 (map Edge.c E)))]);have:=hn 220100 [0,1,2,3,4,5] [2,4,6,8,10,15,16] (λ(N:Bool)=>[(156,.b N)]) Ze;have:=hx 25 12 1 2 [AD,AD,AD,AD,AD,AD,AD,AE,AD,AD,AE,AE] [[],[],[],[],[],[],[],[],[],[],[7],[]] [[],[7],[11],[7,10],[7,11],[7,10,11]] [[(0,0),(1,1),(2,2),(4,4)],[(0,0),(2,2)],[(0,0),(2,2)],[(0,0),(2,2)],[(0,0),(2,2)],[(0,0),(2,2)],[(0,0),(2,2)],[(0,1),(2,4)],[(0,0),(1,1),(2,2),(4,4)],[(0,0),(1,1),(2,2),(4,4)],[(1,3),(4,5)],[(0,2),(1,4),(3,5)]];have:=hx 26 12 1 2 [AD,AD,AD,AD,AD,AD,AD,AE,AD,AD,AE,AE] [[],[],[],[],[],[],[],[],[],[],[7],[]] [[],[7],[11],[7,10],[7,11],[7,10,11]] [[(0,0),(1,1),(2,2),(4,4)],[(0,0),(2,2)],[(0,0),(2,2)],[(0,0),(2,2)],[(0,0),(2,2)],[(0,0),(2,2)],[(0,0),(2,2)],[(0,1),(2,4)],[(0,0),(1,1),(2,2),(4,4)],[(0,0),(1,1),(2,2),(4,4)],[(1,3),(4,5)],[(0,2),(1,4),(3,5)]];refine Kg 11 func73 Z Z Z Z λr h=>Cd [] h Kc Z λq ad h=>Fg 14 Z Z (Cn Z h (λ_ h=>?_) (λ_ h=>?_))
 .exact bu h
 refine Gc 7 Z ?_;refine vX (.a [I (i64.wrap ((AI q.1:Int)+1)),.n]) (CY.build (zs:=[I 0,.n]) zeroValue178 (IN Z) QrR) ?_;refine vH (fX (v:=(.a [I 0,.n])) zeroValue178 (IN Z)) ?_;refine Fg 9 Z Z (Bd h λy h9 h=>Ct y [0,1,2,3,0] [1,2,4,6,8] Ze (λy=>[(3,.c 178 [I (i64.wrap ((AI q.1:Int)+1)),.o 4 (AI y) 3]),(4,.r 272 3 (map Edge.c y))]) Zf ?_ (λenv H F=>?_))
 .refine G0 1 Z (Lp [0,1,2,3,0] [1,2,4,6,8] (λj=>[(9,I j.2)]) (λj=>[(3,.c 178 [I (i64.wrap ((AI q.1:Int)+1)),.o 4 (AI j.1) 3]),(4,.r 272 3 (map Edge.c j.1))]) h9 Zf ?_ ?_)
  .refine En (QS (i:=3) (m:=1) (t:=272) (k:=3) Z Z Z) ?_;exact Lr [0,1,2,3,4]
  intro j ae X O;exact FS O X
 refine Gx 1 Z (Ee F (Gc 3 Z (Cd [] h Kc Z λL ab h=>Fg 9 Z Z (Bd h λx Y h=>Ct x [0,1,2,3,4] [2,4] (λx=>[(6,.q 3 (map CF.c x.1)),(8,.p 2 0),(10,.o 4 (AI L) 57)]) (λx=>[(2,.c 178 [I (i64.wrap ((AI q.1:Int)+1)),.o 3 (AI x.2) 3]),(3,.r 272 3 (map Edge.c x.2)),(4,.r 109 57 (map CP.c L))]) Zf ?_ (λenv H F=>?_)))))
 .refine G0 1 Z (Lp [0,1,3,4,5] [2,4,8,10] (λg=>[(6,.q 3 (map CF.c g.1)),(11,I g.2.2)]) (λg=>[(2,.c 178 [I (i64.wrap ((AI q.1:Int)+1)),.o 3 (AI g.2.1) 3]),(3,.r 272 3 (map Edge.c g.2.1))]) Y Zf ?_ ?_)
  .refine En (Yz 2 [(6,_)]) ?_;exact Lr [0,1,3,4,5]
  intro g af aa P;exact FS P aa
 refine Gx 1 Z (Ee F (Gc 6 Z (Bd h λd Q h=>Cg d [1,2,3] [4,8] Ze (λd=>[(1,.c 178 [I (i64.wrap ((AI q.1:Int)+1)),.o 2 (AI d) 3]),(2,.r 272 3 (map Edge.c d))]) Zf ?_ ?_)))
 .refine G0 1 Z (Lp [0,1,2,3,4] [2,4,6,8,10] (λf=>[(15,I f.2)]) (λf=>[(2,.c 178 [I (i64.wrap ((AI q.1:Int)+1)),.o 3 (AI f.1) 3]),(3,.r 272 3 (map Edge.c f.1))]) Q Zf (Lr [0,1,2,3,4]) λf ac R G=>?_);exact FS G R
 refine Gc 9 Z (Cn Z h (λ_ h=>?_) (λ_ h=>?_))
 .exact bu h
 refine Gc 10 Z ?_;obtain rfl:=Oi h;refine⟨[(4,.p 0 0),(5,I ((i64.wrap ((AI q.1:Int)+1),d,0).2.2))],[.c 178 [I ((i64.wrap ((AI q.1:Int)+1),d,0).1),.q 3 (map Edge.c ((i64.wrap ((AI q.1:Int)+1),d,0).2.1))]],_,?_,QF Z Z (C'.cons (QP isAgg178 sizeOf178 Z Z Z) (C'.cons FM.tmp C'.nil)),Z,Z⟩;refine En (Yz 2 []) ?_;exact Lr [0]
def U5(n:Nat)(g:Cs)(f:Int):AB (CJ Int (CJ Unit Int)):=(bif f<(AI g.Bj:Int) then AH (CN g.Bj f) λd=>AH ((bif d.A5<0 then AC AE else(bif g.Aq<=d.A5 then AC AE else(bif d.To<0 then AC AE else(bif g.Aq<=d.To then AC AE else(bif d.W<(-35184372088832) then AC AE else AC (AG (35184372088832<d.W))))))):AB Bool) λh=>(bif h then AC (.d (.d 150))else AC (.k (i64.wrap (f+1))))else AC (.d (.k ())))
def RO(f:Cs):AB Int:=AH ((bif f.Aq<1 then AC AE else(bif 512<f.Aq then AC AE else AC (AG (8192<(AI f.Bj:Int))))):AB Bool) λh=>(bif h then AC 150 else AH (iter (U5 n f) n 0:AB (CJ Unit Int)) λg=>match g with|.k d=>(AC 0)|.d d=>AC d)
instance _x(d:Cs):Ki (RO n d) 139 [.a (Cs.c d)]:=KB func139
def Ht(b:Bool):AB Unit:=bif b then AC ()else AF
def Og(n:Nat)(v:Int)(s:(AA Int)×Int):AB (CJ ((AA Int)×Int) (AA Int)):=(bif s.2<v then AH (CN s.1 s.2) λx=>AH (JF s.1 s.2 1152921504606846976) λl=>AC (.k (l,i64.wrap (s.2+1)))else AC (.d s.1))
def Ot(v:Int)(s:(AA (AA Int))×Int):AB (CJ ((AA (AA Int))×Int) (AA (AA Int))):=(bif s.2<v then AH (Ht (s.2==(AI s.1:Int))) λu=>AH (mk v 0) λf=>AH (iter (Og n v) n (f,0)) λd=>AH (CN d s.2) λx=>AH (JF d s.2 0) λg=>AC (.k (s.1++[g],i64.wrap (s.2+1)))else AC (.d s.1))
def Oc(n:Nat)(E:AA Edge)(s:(AA (AA Int))×Int):AB (CJ ((AA (AA Int))×Int) (AA (AA Int))):=(bif s.2<(AI E:Int) then AH (CN E s.2) λx=>AH (CN s.1 x.A5) λr=>AH (CN r x.To) λy=>AH (JF r x.To (if x.W<y then x.W else y)) λr'=>AC (.k (s.1.set x.A5.toNat r',i64.wrap (s.2+1)))else AC (.d s.1))
def WH(m i k:Int)(T:AA (AA Int)):AB (AA (AA Int)):=AH (CN T i) λr=>AH (CN r m) λa=>(bif (a != 1152921504606846976)then AH (CN T m) λq=>AH (CN q k) λb=>(bif (b != 1152921504606846976)then AH (CN r k) λy=>AH (JF r k (if i64.wrap (a+b)<y then i64.wrap (a+b)else y)) λr'=>AC (T.set i.toNat r')else AC T)else AC T)
def Ov(n:Nat)(v m i:Int)(s:(AA (AA Int))×Int):AB (CJ ((AA (AA Int))×Int) (AA (AA Int))):=(bif s.2<v then AH (WH m i s.2 s.1) λt=>AC (.k (t,i64.wrap (s.2+1)))else AC (.d s.1))
def O6(v m:Int)(s:(AA (AA Int))×Int):AB (CJ ((AA (AA Int))×Int) (AA (AA Int))):=(bif s.2<v then AH (iter (Ov n v m s.2) n (s.1,0)) λt=>AC (.k (t,i64.wrap (s.2+1)))else AC (.d s.1))
def PA(n:Nat)(v:Int)(T:AA (AA Int))(s:Int):AB (CJ Int (CJ Unit Unit)):=(bif s<v then AH (CN T s) λr=>AH (CN r s) λa=>(bif a<0 then AC (.d (.d ()))else AC (.k (i64.wrap (s+1))))else AC (.d (.k ())))
def WQ(v:Int)(s:(AA (AA Int))×Int):AB (CJ ((AA (AA Int))×Int) (CJ (AA (AA Int)) Unit)):=(bif s.2<v then AH (iter (O6 n v s.2) n (s.1,0)) λt=>AH (iter (PA n v t) n 0) λd=>match d with|.k _=>AC (.k (t,i64.wrap (s.2+1)))|.d _=>AC (.d (.d ()))else AC (.d (.k s.1)))
def R0(f:Cs):AB ((AA (AA Int))×Bool):=AH (mk f.Aq ()) λz=>AH (iter (Ot n f.Aq) n ([],0)) λt0=>AH (Ht (AI t0==f.Aq.toNat)) λu=>AH (iter (Oc n f.Bj) n (t0,0)) λt1=>AH (iter (WQ n f.Aq) n (t1,0)) λd=>match d with|.k t=>AC (t,AE)|.d _=>AC ([],AD)
theorem sA{b:Bool}{u:Unit}(h:Ht b=AC u):b=true:=by
  cases b with
  |true=>rfl
  |false=>cases h
theorem lD(g:Cs)(r:(AA (AA Int))×Bool)(h:R0 n g=AC r):qh prog 140 [.a (Cs.c g)] [] (λr=>.t [.q 1 (map (QC 1 eI) r.1),.b r.2]) r:=by
 refine jZ func140 Z Z Z ?_;refine G0 17 Z (Bd h λz hz h=>?_);obtain⟨z0,F,O⟩:=rR hz;have E:AI z=g.Aq.toNat:=by rw[<- O];simp
 refine vH (QqK (e:=λ_=>[A.nils]) (zv:=()) (a:=.n) hz rj zeroValue54 ZR.nils Z Z Z Z) ?_;refine Bd h λt0 ht0 h=>Go 10 Z ?_;refine TC.loop (λs:(AA (AA Int))×Int=>[(1,.p 0 0),(4,I g.Aq),(5,.o 1 g.Aq.toNat 1),(6,I s.2)]) (λs=>[.c 178 (Cs.c g),.R 54 1 (HV 2 s.1 (g.Aq.toNat-(AI s.1)))]++QR 3 s.1) ht0 ?_ (λs d hs hb=>?_)
 · refine En (Jn ?_) (YW ⟨Z,Z,?_,Z,trivial⟩)
   · rw[<- O]
     simp[Qne,QR,Cs.c]
   · exact congrArg (λm=>A.s 1 0 m 1) E
 refine G0 8 Z (Dm Z hs (λhc hs=>?_) (λhc hs=>?_))
 · refine Gc 2 Z ?_
   refine Jf hs ?_;obtain rfl:=Oj hb hs;refine Bd h λu hu h=>?_;have hn:AI s.1=g.Aq.toNat:=by simpa using sA hu
   refine Bd h λt1 ht1 h=>Gx 9 Z ?_;refine TC.loop (λq:(AA (AA Int))×Int=>[(1,.p 0 0),(4,I g.Aq),(5,.o 1 (AI q.1) 1),(8,I q.2)]) (λq=>[.c 178 (Cs.c g),.R 54 1 (Yt 2 q.1)]++QR 3 q.1) ht1 ?_ (λs d hs hb=>?_)
   · refine En (Jn (H':=[Ci.cells 178 (Cs.c g),.R 54 1 (Yt 2 s.1)]++QR 3 s.1) ?_) ?_
     · rw[hn,Nat.sub_self];simp[HV]
     · exact YW ⟨Z,Z,congrArg (λm=>A.s 1 0 m 1) hn.symm,Z,trivial⟩
   clear E O hn;refine G0 6 Z (Lg 3 Z Z (Dm Z hs (λhc hs=>?_) (λhc hs=>?_)))
   · refine Gc 2 Z ?_
     refine Jf hs ?_;obtain rfl:=Oj hb hs;refine Bd h λdd hdd h=>Gx 9 Z ?_;refine TC.loop (λq:(AA (AA Int))×Int=>[(4,I g.Aq),(5,.o 1 (AI q.1) 1),(10,I q.2)]) (λq=>[.c 178 (Cs.c g),.R 54 1 (Yt 2 q.1)]++QR 3 q.1) hdd ?_ (λq d hq H=>?_)
     · exact YW ⟨Z,Z,Z,trivial⟩
     refine G0 8 Z (Dm Z hq (λhc hq=>?_) (λhc hq=>?_))
     · refine Gc 2 Z ?_
       refine Jf hq ?_;obtain rfl:=Oj H hq;refine Gx 1 Z (Ee (QqL (s:=5) (i:=1) (b:=2) (t1:=3) (e:=Q9 .i64) (rows:=q.1) Z (by omega) Z Z (λj r hj=>YA [_,_] hj)) (Gc 8 Z ?_));exact bu h
     refine Bd hq λT1 hT1 hq=>Bd hq λdg hdg hq=>Gc 11 Z ?_;refine TC.loop (λw:(AA (AA Int))×Int=>[(4,I g.Aq),(5,.o 1 (AI w.1) 1),(10,I q.2),(11,I w.2)]) (λw=>[.c 178 (Cs.c g),.R 54 1 (Yt 2 w.1)]++QR 3 w.1) hT1 ?_ (λw d hw Q=>?_)
     · exact YW ⟨Z,Z,Z,Z,trivial⟩
     refine G0 8 Z (Dm Z hw (λhc hw=>?_) (λhc hw=>?_))
     · refine Gc 2 Z ?_
       refine Jf hw ?_;obtain rfl:=Oj Q hw;refine Gx 8 Z ?_;refine TC.loop (λc:Int=>[(4,I g.Aq),(5,.o 1 (AI w.1) 1),(10,I q.2),(13,I c)]) (λc=>[.c 178 (Cs.c g),.R 54 1 (Yt 2 w.1)]++QR 3 w.1) hdg ?_ (λc d hc J=>?_)
       · exact YW ⟨Z,Z,Z,Z,trivial⟩
       refine G0 8 Z (Dm Z hc (λ_ hc=>?_) (λ_ hc=>?_))
       · refine Gc 2 Z ?_
         refine Jf hc ?_;obtain rfl:=Oj J hc;refine Gx 8 Z ?_;refine JJ hq (YW ⟨Z,Z,Z,trivial⟩)
       refine Bd hc λrr hrr hc=>Bd hc λa ha hc=>?_;have B:=(JL hrr).2;refine Gc 8 Z ?_;refine vV (x:=.p 1 (c.toNat*1)) (Qw (l:=w.1) hrr Z ED EG) ?_;refine vV (x:=.s (2+c.toNat) 0 (AI rr) 1) (Ey Z EY Z (Dn.rowr (e:=c.toNat) (f:=0) Z (by omega) (Jh B) Z)) ?_;refine Go 1 Z ?_;refine vV (x:=.p (2+c.toNat) (c.toNat*1)) (Qw (l:=rr) ha Z EA EB) ?_;refine vV (x:=I a) (Ey Z EK Z (Qy ha (hH:=YA [_,_] B))) ?_;refine Go 3 Z (Cn Z hc (λ_ hc=>?_) (λ_ hc=>?_))
       · refine Gc 9 Z ?_
         refine Kt hc ?_;obtain rfl:=Oj J hc;refine Gx 3 Z ?_;refine Kt hq ?_;obtain rfl:=Oj H hq;refine Gx 2 Z ?_;obtain rfl:=Oi h;exact R2 2 3 Z Z (En (i6 (s:=2) (k:=1) Z) (Lr []))
       refine Gc 8 Z ?_;refine JJ hc (YW ⟨Z,Z,Z,Z,trivial⟩)
     refine Bd hw λT2 hT2 hw=>Gc 10 Z ?_;refine TC.loop (λy:(AA (AA Int))×Int=>[(4,I g.Aq),(5,.o 1 (AI y.1) 1),(10,I q.2),(11,I w.2),(12,I y.2)]) (λy=>[.c 178 (Cs.c g),.R 54 1 (Yt 2 y.1)]++QR 3 y.1) hT2 ?_ (λy d hy X=>?_)
     · exact YW ⟨Z,Z,Z,Z,Z,trivial⟩
     refine G0 8 Z (Dm Z hy (λhc hy=>?_) (λhc hy=>?_))
     · refine Gc 2 Z ?_
       refine Jf hy ?_;obtain rfl:=Oj X hy;refine Gx 8 Z ?_;refine JJ hw (YW ⟨Z,Z,Z,Z,trivial⟩)
     refine Bd hy λt ht hy=>?_;obtain⟨r,hr,ht⟩:=Yf ht;obtain⟨a,ha,ht⟩:=Yf ht;have hrr:=(JL hr).2;refine Gc 8 Z ?_;refine vV (x:=.p 1 (w.2.toNat*1)) (Qw (l:=y.1) hr Z ED EG) ?_;refine vV (x:=.s (2+w.2.toNat) 0 (AI r) 1) (Ey Z EY Z (Dn.rowr (e:=w.2.toNat) (f:=0) Z (by omega) (Jh hrr) Z)) ?_;refine Go 1 Z ?_;refine vV (x:=.p (2+w.2.toNat) (q.2.toNat*1)) (Qw (l:=r) ha Z EA EB) ?_;refine vV (x:=I a) (Ey Z EK Z (Qy ha (hH:=YA [_,_] hrr))) ?_;refine Go 2 Z ?_;refine Is 100 ht Z (λ_ ht=>?_) (λ_ ht=>?_)
     · obtain⟨p,hp,ht⟩:=Yf ht
       obtain⟨b,hb,ht⟩:=Yf ht;have hpp:=(JL hp).2;refine Go 2 Z ?_;refine vV (x:=.p 1 (q.2.toNat*1)) (Qw (l:=y.1) hp Z ED EG) ?_ (gT Z);refine vV (x:=.s (2+q.2.toNat) 0 (AI p) 1) (Ey Z EY Z (Dn.rowr (e:=q.2.toNat) (f:=0) Z (by omega) (Jh hpp) Z)) ?_ (gT Z);refine Go 1 Z ?_;refine vV (x:=.p (2+q.2.toNat) (y.2.toNat*1)) (Qw (l:=p) hb Z EA EB) ?_ (gT Z);refine vV (x:=I b) (Ey Z EK Z (Qy hb (hH:=YA [_,_] hpp))) ?_ (gT Z);refine Go 4 Z (Cn Z ht (λ_ ht=>?_) (λ_ ht=>?_))
       · obtain⟨F,hz1,ht⟩:=Yf ht
         obtain⟨r',hr',ht⟩:=Yf ht;cases Oi ht;refine GX 29 Z ?_;refine D 2 Z ?_;refine DS.v (x:=.p 1 (w.2.toNat*1)) (Qw (l:=y.1) hr Z ED EG) ?_;refine DS.v (x:=.s (2+w.2.toNat) 0 (AI r) 1) (Ey Z EY Z (Dn.rowr (e:=w.2.toNat) (f:=0) Z (by omega) (Jh hrr) Z)) ?_;refine D 3 Z ?_;refine DS.v (x:=.p 1 (w.2.toNat*1)) (Qw (l:=y.1) hr Z ED EG) ?_;refine DS.v (x:=.s (2+w.2.toNat) 0 (AI r) 1) (Ey Z EY Z (Dn.rowr (e:=w.2.toNat) (f:=0) Z (by omega) (Jh hrr) Z)) ?_;refine D 1 Z ?_;refine DS.v (x:=.p (2+w.2.toNat) (y.2.toNat*1)) (Qw (l:=r) hz1 Z EA EB) ?_;refine DS.v (x:=I F) (Ey Z EK Z (Qy hz1 (hH:=YA [_,_] hrr))) ?_;refine D 2 Z ?_;refine DS.v (x:=.p 1 (w.2.toNat*1)) (Qw (l:=y.1) hr Z ED EG) ?_;refine DS.v (x:=.s (2+w.2.toNat) 0 (AI r) 1) (Ey Z EY Z (Dn.rowr (e:=w.2.toNat) (f:=0) Z (by omega) (Jh hrr) Z)) ?_;refine D 1 Z ?_;refine DS.v (x:=.p (2+w.2.toNat) (q.2.toNat*1)) (Qw (l:=r) ha Z EA EB) ?_;refine DS.v (x:=I a) (Ey Z EK Z (Qy ha (hH:=YA [_,_] hrr))) ?_;refine D 2 Z ?_;refine DS.v (x:=.p 1 (q.2.toNat*1)) (Qw (l:=y.1) hp Z ED EG) ?_;refine DS.v (x:=.s (2+q.2.toNat) 0 (AI p) 1) (Ey Z EY Z (Dn.rowr (e:=q.2.toNat) (f:=0) Z (by omega) (Jh hpp) Z)) ?_;refine D 1 Z ?_;refine DS.v (x:=.p (2+q.2.toNat) (y.2.toNat*1)) (Qw (l:=p) hb Z EA EB) ?_;refine DS.v (x:=I b) (Ey Z EK Z (Qy hb (hH:=YA [_,_] hpp))) ?_;refine D 1 Z ?_;refine DS.v (x:=I (if i64.wrap (a+b)<F then i64.wrap (a+b)else F)) (CY.min Z Z Z Z) ?_;refine DS.v (x:=.p (2+w.2.toNat) (y.2.toNat*1)) (Qw (l:=r) hz1 Z EA EB) ?_;refine Eg Z ?_;refine vU (Ys (e:=eI) (k:=1) (f:=0) hz1 hr' EB Z Z (hH:=YA [_,_] hrr)) ?_;refine Er (Jn (Qps hrr (Yh hr'))) ?_;refine Go 8 Z ?_;refine JJ hy (YW ⟨Z,congrArg (λm=>A.s 1 0 m 1) (by simp),Z,Z,Z,trivial⟩)
       cases Oi ht;refine Gc 8 Z ?_;refine JJ hy (YW ⟨Z,Z,Z,Z,Z,trivial⟩)
     cases Oi ht;refine Go 20 Z ?_;refine JJ hy (YW ⟨Z,Z,Z,Z,Z,trivial⟩)
   refine Bd hs λx hx hs=>Bd hs λr hr hs=>Bd hs λy hy hs=>Bd hs λr' hr' hs=>Gc 9 Z ?_;refine Iz hx Z (Go 2 Z ?_);have hHl:(fn (QR 3 s.1) 2).1=2+AI s.1:=by rw[ik];simp only[QR,X4];omega
   refine Er (Q3 (s:=9) Z (congrArg (λj=>A.p j 0) hHl)) ?_;refine Er (Jn (H':=([Ci.cells 178 (Cs.c g),.R 54 1 (Yt 2 s.1)]++QR 3 s.1)++[.c 272 [I 0,I 0,I 0]]) (by rw[Z6];rfl)) ?_;refine Er (Qpb (env':=[(1,.p 0 0),(4,I g.Aq),(5,.o 1 (AI s.1) 1),(8,I s.2),(9,.p 2 0),(56,.a (Edge.c x))]) Zf Zf ⟨Z,Z,Z,Z,Z,Z,trivial⟩) ?_;refine Go 3 Z ?_;have hrr:=(JL hr).2;refine Ee (Jn (H':=[Ci.cells 178 (Cs.c g),.R 54 1 (Yt 3 s.1),.c 272 (Edge.c x)]++QR 3 s.1) (by rw[Z6];rfl)) ?_;refine GX 20 Z ?_;refine D 3 Z ?_;refine DS.v (x:=.p 1 (x.A5.toNat*1)) (Qw (l:=s.1) hr Z ED EG) ?_;refine DS.v (x:=.s (3+x.A5.toNat) 0 (AI r) 1) (Ey Z EY Z (Dn.rowr (e:=x.A5.toNat) (f:=0) Z (by omega) (Jh hrr) Z)) ?_;refine D 5 Z ?_;refine DS.v (x:=.p 1 (x.A5.toNat*1)) (Qw (l:=s.1) hr Z ED EG) ?_;refine DS.v (x:=.s (3+x.A5.toNat) 0 (AI r) 1) (Ey Z EY Z (Dn.rowr (e:=x.A5.toNat) (f:=0) Z (by omega) (Jh hrr) Z)) ?_;refine D 2 Z ?_;refine DS.v (x:=.p (3+x.A5.toNat) (x.To.toNat*1)) (Qw (l:=r) hy Z EA EB) ?_;refine DS.v (x:=I y) (Ey Z EK Z (Qy hy (hH:=YA [_,_,_] hrr))) ?_;refine D 2 Z ?_;refine DS.v (x:=I (if x.W<y then x.W else y)) (CY.min Z Z Z Z) ?_;refine DS.v (x:=.p (3+x.A5.toNat) (x.To.toNat*1)) (Qw (l:=r) hy Z EA EB) ?_;refine Eg Z ?_;refine vU (Ys (e:=eI) (k:=1) (f:=0) hy hr' EB Z Z (hH:=YA [_,_,_] hrr)) ?_;refine Er (Jn (Qnc hrr (Yh hr'))) ?_;refine Go 8 Z ?_;refine JJ hs (QmZ Zf ⟨Z,Z,congrArg (λm=>A.s 1 0 m 1) (by simp),Z,trivial⟩)
 refine Bd hs λu hu hs=>?_;have hlen:s.2=(AI s.1:Int):=by simpa using sA hu
 have hlt:s.2<g.Aq:=by simpa using hc
 obtain⟨m',hm'⟩:∃m',g.Aq.toNat-(AI s.1)=m'+1:=⟨g.Aq.toNat-(AI s.1)-1,by omega⟩;rw[hm'];refine Bd hs λP aa hs=>?_;have hi:CN z s.2=AC ():=by
  have:s.2.toNat<AI z:=by omega
  unfold CN;rw[Vw (show 0<=s.2 by omega)];simp[this]
 refine Gc 9 Z (vH (nh (e:=eI) (zv:=0) (a:=(I 0)) aa J0 EH Eo Z Z Z Z) ?_);have hHl:AI ([Ci.cells 178 (Cs.c g),.R 54 1 (HV 2 s.1 (m'+1))]++QR 3 s.1)=2+AI s.1:=by simp[QR];omega
 refine Er (Q3 (s:=26) Z (congrArg (λj=>A.s j 0 (AI P) 1) hHl)) ?_;refine vV (x:=.p 1 (s.2.toNat*1)) (Qw (l:=z) hi E ED EG) ?_;refine vU (Qgr (t:=54) (T:=54) (k:=1) (e:=AI s.1) (f:=0) (c:=[.n]) Z Z Z EG (by omega) Qpt Z Z Z Z Z Z Z Qnd) ?_;refine Er (Jn (H':=[Ci.cells 178 (Cs.c g),.R 54 1 (HV 2 (s.1++[P]) m')]++QR 3 (s.1++[P])) (by rw[QlT];rfl)) ?_;refine Bd hs λr1 ab hs=>Go 9 Z ?_;refine TC.loop (λk:(AA Int)×Int=>[(1,.p 0 0),(4,I g.Aq),(5,.o 1 g.Aq.toNat 1),(6,I s.2),(7,I k.2)]) (λk=>[.c 178 (Cs.c g),.R 54 1 (HV 2 (s.1++[k.1]) m')]++QR 3 (s.1++[k.1])) ab ?_ (λk e hk ac=>?_)
 · refine YW ⟨Z,Z,Z,Z,?_,trivial⟩
   rfl
 refine G0 8 Z (Dm Z hk (λ_ hk=>?_) (λ_ hk=>?_))
 · refine Gc 2 Z ?_
   refine Jf hk ?_;obtain rfl:=Oj ac hk;refine Bd hs λx2 L hs=>Bd hs λG B hs=>Gx 5 Z ?_;refine vV (x:=.p 1 (s.2.toNat*1)) (Qw (l:=z) hi E ED EG) ?_;refine vV (x:=.s (2+AI s.1) 0 (AI k.1) 1) (Ey Z EY Z (Dn.rowr (e:=AI s.1) (f:=0) Z (by omega) (uS (r:=k.1) (by simp)) Z)) ?_;refine Go 1 Z ?_;refine vV (x:=.p (2+AI s.1) (s.2.toNat*1)) (Qw (l:=k.1) L Z EA EB) ?_;refine vU (Ys (e:=eI) (k:=1) (f:=0) L B EB Z Z (hH:=YA [_,_] (by simp))) ?_;refine Er (Jn (uV (Yh B))) ?_;have ae:g.Aq.toNat-(AI (s.1++[G]))=m':=by simp;omega
   refine Go 8 Z ?_;refine JJ hs (En (Jn (H':=[Ci.cells 178 (Cs.c g),.R 54 1 (HV 2 (s.1++[G]) (g.Aq.toNat-(AI (s.1++[G]))))]++QR 3 (s.1++[G])) (by rw[ae])) (YW ⟨Z,Z,Z,Z,trivial⟩))
 refine Bd hk λx1 M hk=>Bd hk λl1 N hk=>Gc 7 Z ?_;refine vV (x:=.p 1 (s.2.toNat*1)) (Qw (l:=z) hi E ED EG) ?_;refine vV (x:=.s (2+AI s.1) 0 (AI k.1) 1) (Ey Z EY Z (Dn.rowr (e:=AI s.1) (f:=0) Z (by omega) (uS (r:=k.1) (by simp)) Z)) ?_;refine Go 1 Z ?_;refine vV (x:=.p (2+AI s.1) (k.2.toNat*1)) (Qw (l:=k.1) M Z EA EB) ?_;refine vU (Ys (e:=eI) (k:=1) (f:=0) M N EB Z Z (hH:=YA [_,_] (by simp))) ?_;refine Er (Jn (uV (Yh N))) ?_;refine Go 8 Z ?_;refine JJ hk (YW ⟨Z,Z,Z,Z,Z,trivial⟩)
def RH(d:Cs):AB ((AA (AA Int))×Int):=AH (RO n d) λf=>(bif (f != 0)then AC ([],f)else AH (R0 n d) λg=>(bif (!g.2)then AC ([],151)else AC (g.1,0)))
instance _s(d:Cs):Ks (RH n d) 74 [.a (Cs.c d)] [] (λr=>.t [.q 1 (map (QC 1 eI) r.1),I r.2]):=by
 refine Kg 10 func74 Z Z Z Z λr h=>Cz [] h Kc Z λq j h=>Go 10 Z (Cn Z h (λ_ h=>?_) (λ_ h=>?_))
 .refine Gc 9 Z ?_;obtain rfl:=Oi h;refine R2 2 3 Z Z ?_;exact En (i6 (s:=2) Z) (Lr [])
 refine Gc 5 Z (Cd [] h (lD _ _) Z λt m h=>Fg 14 Z Z (Cn Z h (λ_ h=>?_) (λ_ h=>?_)))
 .refine Gc 8 Z ?_;obtain rfl:=Oi h;refine R2 2 3 Z Z ?_;exact En (i6 (s:=2) Z) (Lr [])
 exact bu h
def Rf(f:CE)(g:AA CP):AB ((AA CF)×(AA (AA Int))×Int):=AH (PM n f g) λd=>(bif (d.2.2 != 0)then AC ([],[],d.2.2)else AH (RH n ({Aq:=d.1,Bj:=d.2.1:Cs})) λh=>(bif (h.2 != 0)then AC ([],[],160)else AH (Ms n f g) λj=>AC (j.1,h.1,0)))
instance M?(g:CE)(j:AA CP):Kq (Rf n g j) 20 [.a (CE.c g),.q 57 (map CP.c j)] [] (λr=>.t [.a [.q 3 (map CF.c r.1),.q 1 (map (QC 1 eI) r.2.1)],I r.2.2]) (λr=>[.c 39 [.q 3 (map CF.c r.1),.q 1 (map (QC 1 eI) r.2.1)]]):=by
 refine Kg 11 func20 Z Z Z Z λr h=>Cd [] h Kc Z λB t h=>Fg 15 Z Z (Cn Z h (λ_ h=>?_) (λ_ h=>?_))
 .exact bu h
 refine Gc 5 Z (Cd [] h Kc Z λd x h=>Fg 14 Z Z (Cn Z h (λ_ h=>?_) (λ_ h=>?_)))
 .exact bu h
 refine Gc 6 Z (Cd [] h Kc Z λf y h=>Fg 17 Z Z ?_);obtain rfl:=Oi h;refine⟨[(4,.p 0 0),(5,I ((f.1,d.1,0).2.2))],[.c 39 [.q 3 (map CF.c ((f.1,d.1,0).1)),.q 1 (map (QC 1 eI) ((f.1,d.1,0).2.1))]],_,(En (Yz 4 []) ?_),QF Z Z (C'.cons (QP isAgg39 sizeOf39 Z Z Z) (C'.cons FM.tmp C'.nil)),Z,Z⟩;exact Lr [1]
def UX(n:Nat)(f:AA AP)(h:Int)(d:Int):AB (CJ Int (CJ Unit Int)):=(bif d<(AI f:Int) then AH (CN f d) λg=>(bif (g.Bf==h)then AC (.d (.d d))else AC (.k (i64.wrap (d+1))))else AC (.d (.k ())))
def Ri(f:AA AP)(g:Int):AB Int:=AH (iter (UX n f g) n 0:AB (CJ Unit Int)) λh=>match h with|.k d=>(AC (-1))|.d d=>AC d
instance P?(d:AA AP)(f:Int):Ki (Ri n d f) 76 [.q 8 (map AP.c d),I f]:=KB func76
end Go.Sw
