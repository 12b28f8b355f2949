/- What the functions compute that ClocksAlignSpec reaches, and that their calls refine it (part 4 of 5). -/
import Derived.Test.YthnmbndffmhalaaGreatDoorW16Al3
set_option linter.unusedVariables false
set_option linter.unusedSimpArgs false
set_option maxRecDepth 100000
set_option maxHeartbeats 4000000
namespace Go.Sw
open Option renaming some→AC,none→AF,bind→AH
open Bool renaming false→AD,true→AE
open Decidable renaming decide→AG
open List renaming length→AI
open Go renaming Value→AL
variable (n:Nat)
open List(map)
open Int(toNat)
open Go.IntKind(i64 u64 u8)
open Go.Proofs Tryz
def ND(m:AA AZ)(rec221:(AA AZ)->AB Bool)(d:Int):AB (Bn Int (Bn Unit Bool)):=(bif d<(AI m:Int) then AH (Bt m d) λa=>AH ((bif (a.AN==1)then AH ((bif a.By<1 then AC AE else(bif 5<a.By then AC AE else AH (Lz n a.AP) λf=>(bif (!f)then AC AE else(bif ((AI a.BD:Int) != 0)then AC AE else AC ((AI a.BG:Int) != 0))))):AB Bool) λg=>(bif g then AC (.d (.d (.d AD)))else AC (.k ()))else(bif (a.AN==2)then AH ((bif (a.By != 0)then AC AE else AH (N2 n a.AP) λh=>(bif (h != 0)then AC AE else(bif ((AI a.BD:Int)==0)then AC AE else AH (rec221 a.BD) λi=>(bif (!i)then AC AE else AH (rec221 a.BG) λj=>AC (!j))))):AB Bool) λk=>(bif k then AC (.d (.d (.d AD)))else AC (.k ()))else AC (.d (.d (.d AD))))):AB (Bn Unit (Bn Int (Bn Unit Bool)))) λl=>match l with|.k e=>(AC (.k (i64.wrap (d+1))))|.d e=>AC e else AC (.d (.k ())))
def gG(rec221:(AA AZ)->AB Bool)(n:Nat)(e:AA AZ):AB Bool:=AH (iter (ND n e rec221) n 0:AB (Bn Unit Bool)) λd=>match d with|.k a=>(AC AE)|.d a=>AC a
theorem Qa8(rec221:(AA AZ)->AB Bool)(i:∀(m:AA AZ) (r:Bool),rec221 m=AC r->DE prog 135 [.q 8 (map AZ.enc m)] [] (λr=>.b r) r)(n:Nat)(m:AA AZ)(r:Bool)(h:gG rec221 n m=AC r):DE prog 135 [.q 8 (map AZ.enc m)] [] (λr=>.b r) r:=by
 refine QK func135 Z Z Z ?_;refine G0 11 Z (Bd h λM N h=>DF (b:=M) [] [] Ze Ze Zf ?_ (λ_ Q=>?_))
 .refine G0 1 Z (Lp [] [0] (λp=>[(3,I p)]) Ze N Zf (Lr []) λp aa f g=>?_);refine G0 5 Z (Lg 3 Z Z (Q8 Z f (λ_ f=>?_) (λ_ f=>?_)))
  .exact Gc 2 Z (Qj f (Gx 1 Z (Ji g f Z (Lr []))))
  refine Gc 8 Z (Bd f λO s f=>Fm s (YP O) Z (Go 18 Z (Bd f λP d f=>FI (b:=P) [] [0,3] Ze Ze Zf ?_ (λT env H hb j=>?_))))
  .refine G0 0 Z (Cn Z d (λ_ d=>?_) (λ_ d=>?_))
   .refine Gc 1 Z (Bd d λk e d=>Ct k [] [0,3] (λk=>[(44,.b k)]) Ze Zf ?_ (λenv H j=>?_))
    .refine G0 5 Z (Is 22 e Z (λ_ e=>?_) (λ_ e=>?_))
     .exact Gl 23 Z e []
     .refine Go 5 Z (Is 27 e Z (λ_ e=>?_) (λ_ e=>?_))
      .exact Gl 18 Z e []
      .refine Go 2 Z (Cz [] e (Wv _ _) Z λab V e=>Go 3 Z (Is 33 e Z (λ_ e=>?_) (λ_ e=>?_)))
       .exact Gl 12 Z e []
       .refine Go 2 Z (Lg 3 Z Z (Is 39 e Z (λ_ e=>?_) (λ_ e=>?_)))
        .exact Gl 6 Z e []
        .exact Go 2 Z (Lm Z (Gl 3 Z e []))
    refine Gx 1 Z (Eg j (Cn Z d (λ_ d=>?_) (λ_ d=>?_)))
    .refine Gc 6 Z ?_;cases d;refine Qq (Gx 3 Z (Qv f ?_));obtain rfl:=Oj g f;exact Gx 1 Z (Qq (Gx 1 Z (Rt h 2 [])))
    refine Gc 1 Z ?_;cases d;exact YU Z (Lr [])
   refine Gc 6 Z (Q8 Z d (λ_ d=>?_) (λ_ d=>?_))
   .refine Gc 6 Z ?_;cases d;refine Qq (Gx 3 Z (Qv f ?_));obtain rfl:=Oj g f;exact Gx 1 Z (Qq (Gx 1 Z (Rt h 2 [])))
   refine Gc 1 Z (Bd d λl a d=>Ct l [] [0,3] (λl=>[(73,.b l)]) Ze Zf ?_ (λenv H j=>?_))
   .refine G0 5 Z (Is 50 a Z (λ_ a=>?_) (λ_ a=>?_))
    .exact Gl 24 Z a []
    .refine Go 2 Z (Cz [] a (jm _ _) Z λac W a=>Go 3 Z (Is 56 a Z (λ_ a=>?_) (λ_ a=>?_)))
     .exact Gl 18 Z a []
     .refine Go 2 Z (Lg 3 Z Z (Is 62 a Z (λ_ a=>?_) (λ_ a=>?_)))
      .exact Gl 12 Z a []
      .refine Go 2 Z (Cz [] a (i _) Z λad X a=>Go 3 Z (Is 68 a Z (λ_ a=>?_) (λ_ a=>?_)))
       .exact Gl 6 Z a []
       .exact Go 2 Z (Cz [] a (i _) Z λae Y a=>Gl 3 Z a [])
   refine Gx 1 Z (Eg j (Cn Z d (λ_ d=>?_) (λ_ d=>?_)))
   .refine Gc 6 Z ?_;cases d;refine Qq (Gx 3 Z (Qv f ?_));obtain rfl:=Oj g f;exact Gx 1 Z (Qq (Gx 1 Z (Rt h 2 [])))
   refine Gc 1 Z ?_;cases d;exact YU Z (Lr [])
  subst hb;exact Gx 3 Z (Eg j (Gc 5 Z (Qg f (Lr []))))
 subst Q;exact QG 6 Z h 2 []
def K4:Nat->(AA AZ)->AB Bool
  |0=>λ_=>AF
  |n+1=>gG (K4 n) n
theorem ua:∀(a:AA AZ) (r:Bool),K4 n a=AC r->DE prog 135 [.q 8 (map AZ.enc a)] [] (λr=>.b r) r:=by
  induction n with
  |zero=>intro a r h;cases h
  |succ n ih=>intro a r h;exact Qa8 _ ih n a r h
def TX(a:AA AZ):AB Int:=AH (Pn n a 0) λd=>AH ((bif 64<d.1 then AC AE else AC (AG (256<d.2))):AB Bool) λf=>(bif f then AC 2 else AH ((bif ((AI a:Int)==0)then AC AE else AH (K4 n a) λe=>AC (!e)):AB Bool) λg=>(bif g then AC 71 else AC 0))
theorem jQ(j:AA AZ):Ks (TX n j) 66 [.q 8 (map AZ.enc j)] [] (λr=>I r):=by
 refine Kg 8 func66 Z Z Z Z λr h=>Cd [] h (oU _ _ _) Z λt q h=>Fg 9 Z Z (Bd h λe d h=>Ct e [] [0] (λe=>[(15,.b e)]) Ze Zf ?_ (λenv H k=>?_))
 .refine G0 4 Z (Is 12 d Z (λ_ d=>?_) (λ_ d=>?_))
  iterate 2 exact Gl 4 Z d []
 refine Gx 1 Z (Eg k (Cn Z h (λ_ h=>?_) (λ_ h=>?_)))
 .exact QG 7 Z h 2 []
 refine Gc 4 Z (Bd h λf a h=>Cg f [] [] (λf=>[(23,.b f)]) Ze Zf ?_ ?_)
 .refine G0 2 Z (Lg 2 Z Z (Is 19 a Z (λ_ a=>?_) (λ_ a=>?_)))
  .exact Gl 5 Z a []
  .exact Go 1 Z (Cz [] a (ua _ _) Z λs p a=>Gl 3 Z a [])
 refine Cn Z h (λ_ h=>?_) (λ_ h=>?_)
 .exact QG 7 Z h 2 []
 exact QG 8 Z h 2 []
def K8(n:Nat)(i:AA Bo)(d:(AA Int)×Int)(e:AA Int)(a:(AA Int)×Int):AB (Bn ((AA Int)×Int) (AA Int)):=AH (AH (Bt i d.2) λf=>(bif a.2<f.Ax then AC (AG ((AI a.1:Int)<=256))else AC AD):AB Bool) λg=>(bif g then AH (app a.1 e) λh=>AC (.k (h,i64.wrap (a.2+1)))else AC (.d a.1))
def LM(d:AA Bo)(rec225:(AA Bo)->AB (AA Int))(a:(AA Int)×Int):AB (Bn ((AA Int)×Int) (AA Int)):=AH ((bif a.2<(AI d:Int) then AC (AG ((AI a.1:Int)<=256))else AC AD):AB Bool) λe=>(bif e then AH (AH (Bt d a.2) λf=>(bif (f.Ax==0)then AH (Bt d a.2) λg=>AH (app a.1 [g.Ag]) λh=>AC h else AH (Bt d a.2) λi=>AH (rec225 i.Ac) λj=>AH (iter (K8 n d a j) n (a.1,0):AB (AA Int)) λk=>AC k):AB (AA Int)) λl=>AC (.k (l,i64.wrap (a.2+1)))else AC (.d a.1))
def Ou(rec225:(AA Bo)->AB (AA Int))(n:Nat)(d:AA Bo):AB (AA Int):=AH (iter (LM n d rec225) n (([]:AA Int),0):AB (AA Int)) λa=>AC a
theorem QaW(rec225:(AA Bo)->AB (AA Int))(w:∀(x:AA Bo) (r:AA Int),rec225 x=AC r->C prog 136 [.q 3 (map Bo.enc x)] [] (RQ (λr=>.o 0 (AI r) 1) (λr=>[.r 3 1 (map (Qe .i64) r)]) r))(n:Nat)(x:AA Bo)(r:AA Int)(h:Ou rec225 n x=AC r):C prog 136 [.q 3 (map Bo.enc x)] [] (RQ (λr=>.o 0 (AI r) 1) (λr=>[.r 3 1 (map (Qe .i64) r)]) r):=by
 refine QK func136 Z Z Z ?_;refine G0 7 Z (vH (Em (xs:=[]) (es:=map (Qe .i64) []) QA Z Z Z Z Z trivial Z Z) ?_);refine Fg 9 Z Z (Bd h λj T h=>Cg j [0] [] (λj=>[(3,.o 0 (AI j) 1)]) (λj=>[(0,.r 3 1 (map (Qe .i64) j))]) Zf ?_ ?_)
 .refine G0 1 Z (Lp [0] [0] (λk=>[(3,.o 0 (AI k.1) 1),(4,I k.2)]) (λk=>[(0,.r 3 1 (map (Qe .i64) k.1))]) T Zf (Lr [0]) λk ab d z=>?_);refine G0 2 Z (Bd d λt l d=>Ct t [0] [0,3,4] (λt=>[(16,.b t)]) Ze Zf ?_ (λenv H s=>?_))
  .refine G0 3 Z (Lg 2 Z Z (Is 12 l Z (λ_ l=>?_) (λ_ l=>?_)))
   iterate 2 exact Gl 5 Z l [0]
  refine Gx 1 Z (Eg s (Q8 Z d (λ_ d=>?_) (λ_ d=>?_)))
  .exact Gc 2 Z (Qj d (Gx 1 Z (DM z d (Lr [0]))))
  refine Gc 3 Z (Bd d λm a d=>Cg m [0] [0,4] (λm=>[(3,.o 0 (AI m) 1)]) (λm=>[(0,.r 3 1 (map (Qe .i64) m))]) Zf ?_ ?_)
  .refine G0 6 Z (Bd a λV F a=>Fm F (Yi V) Z (Go 5 Z (Cn Z a (λ_ a=>?_) (λ_ a=>?_))))
   .refine Gc 5 Z (Bd a λy J a=>Fm J (Yi y) Z (Go 2 Z (vH (Em (xs:=[.tmp 30]) (es:=map (Qe .i64) [y.Ag]) QA Z Z Z Z Z ⟨Z,trivial⟩ Z Z) ?_)));refine FE Z (Bd a λac L a=>vH (Qu (e:=(Qe .i64)) L QA EE (QS (i:=1))) ?_);exact FE Z (Gl 6 Z a [2])
   refine Gc 6 Z (Bd a λW M a=>Fm M (Yi W) Z (Go 2 Z (Cd [] a (w _) Z λad aa a=>Fg 8 Z Z (Bd a λp X a=>Ct p [0] [0,4] (λp=>[(3,.o 0 (AI p) 1)]) (λp=>[(0,.r 3 1 (map (Qe .i64) p))]) Zf ?_ (λenv H s=>?_)))))
   .refine G0 1 Z (Lp [0,1] [0,4,5] (λq=>[(3,.o 0 (AI q.1) 1),(6,I q.2)]) (λq=>[(0,.r 3 1 (map (Qe .i64) q.1))]) X Zf (Lr [0,1]) λq ae f N=>?_);refine G0 2 Z (Bd f λu g f=>Ct u [0,1] [0,3,4,5,6] (λu=>[(50,.b u)]) Ze Zf ?_ (λenv H s=>?_))
    .refine G0 4 Z (Bd g λY O g=>Fm O (Yi Y) Z (Go 4 Z (Is 46 g Z (λ_ g=>?_) (λ_ g=>?_))))
     iterate 2 exact Gl 5 Z g [0,1]
    refine Gx 1 Z (Eg s (Q8 Z f (λ_ f=>?_) (λ_ f=>?_)))
    .exact Gc 2 Z (Qj f (Gx 1 Z (DM N f (Lr [0]))))
    refine Gc 7 Z (Bd f λaf R f=>vH (Qu (e:=(Qe .i64)) R QA EE (QS (i:=1))) ?_);exact Fg 9 Z Z (Qg f (Lr [2,1]))
   refine Gx 1 Z ?_;cases a;exact IL (Ep s (Lr [0]))
  exact Gc 5 Z (Qg d (Lr [0]))
 exact QG 7 Z h 2 [0]
def KJ:Nat->(AA Bo)->AB (AA Int)
  |0=>λ_=>AF
  |n+1=>Ou (KJ n) n
theorem kX:∀(a:AA Bo) (r:AA Int),KJ n a=AC r->C prog 136 [.q 3 (map Bo.enc a)] [] (RQ (λr=>.o 0 (AI r) 1) (λr=>[.r 3 1 (map (Qe .i64) r)]) r):=by
  induction n with
  |zero=>intro a r h;cases h
  |succ n ih=>intro a r h;exact QaW _ ih n a r h
def LN(n:Nat)(d:Bl)(h:Int)(i:Int)(a:Int):AB (Bn Int (Bn Unit Int)):=(bif a<(AI d.A8:Int) then AH (AH (Bt d.A8 a) λe=>(bif (e.Ai==h)then AH (Bt d.A8 a) λf=>AC (f.To==i)else AC AD):AB Bool) λg=>(bif g then AC (.d (.d a))else AC (.k (i64.wrap (a+1))))else AC (.d (.k ())))
def KB(e:Bl)(f:Int)(g:Int):AB Int:=AH (iter (LN n e f g) n 0:AB (Bn Unit Int)) λd=>match d with|.k a=>(AC (-1))|.d a=>AC a
theorem W0(p:Bl)(q:Int)(s:Int):Ks (KB n p q s) 137 [.a (Bl.c p),I q,I s] [] (λr=>I r):=by
 refine Kg 12 func137 Z Z Z Z λr h=>Bd h λt u h=>DF (b:=t) [] [] Ze Ze Zf ?_ (λ_ w=>?_)
 .refine G0 1 Z (Lp [0] [1,2,3] (λg=>[(7,I g)]) Ze u Zf (Lr [0]) λg y a e=>?_);refine G0 6 Z (Lg 3 Z Z (Q8 Z a (λ_ a=>?_) (λ_ a=>?_)))
  .exact Gc 2 Z (Qj a (Gx 1 Z (Ji e a Z (Lr []))))
  refine Gc 5 Z (Bd a λf d a=>Cg f [0] [1,2,3,7] (λf=>[(32,.b f)]) Ze Zf ?_ ?_)
  .refine G0 4 Z (Bd d λz j d=>Iz j Z (Go 5 Z (Is 23 d Z (λ_ d=>?_) (λ_ d=>?_))))
   .exact Go 3 Z (Bd d λB l d=>Iz l Z (Gl 6 Z d [0]))
   .exact Gl 10 Z d [0]
  refine Cn Z a (λ_ a=>?_) (λ_ a=>?_)
  .refine Gc 9 Z (Qv a ?_);obtain rfl:=Oj e a;exact Gx 1 Z (Qq (Gx 1 Z (Rt h 6 [])))
  exact Gc 8 Z (Qg a (Lr [0]))
 subst w;exact QG 6 Z h 6 []
def LL(n:Nat)(d:AA Int)(g:Int)(a:Int×Int):AB (Bn (Int×Int) Int):=(bif a.2<(AI d:Int) then AH (Bt d a.2) λe=>AH ((bif (e==g)then AC (i64.wrap (a.1+1))else AC a.1):AB Int) λf=>AC (.k (f,i64.wrap (a.2+1)))else AC (.d a.1))
def Lt(d:AA Int)(e:Int):AB Int:=AH (iter (LL n d e) n (0,0):AB Int) λa=>AC a
theorem Wq(m:AA Int)(p:Int):Ks (Lt n m p) 138 [.q 1 (map (Qe .i64) m),I p] [] (λr=>I r):=by
 refine Kg 16 func138 Z Z Z Z λr h=>Bd h λe q h=>Cg e [] [] (λe=>[(5,I e)]) Ze Zf ?_ ?_
 .refine G0 1 Z (Lp [] [0,1] (λf=>[(5,I f.1),(6,I f.2)]) Ze q Zf (Lr []) λf t a i=>?_);refine G0 5 Z (Lg 3 Z Z (Q8 Z a (λ_ a=>?_) (λ_ a=>?_)))
  .exact Gc 2 Z (Qj a (Gx 1 Z (DM i a (Lr []))))
  refine Gc 8 Z (Bd a λu k a=>Iz k Z (Go 5 Z (Bd a λg d a=>Ct g [] [0,1,6] (λg=>[(5,I g)]) Ze Zf ?_ (λenv H s=>?_))))
  .refine G0 0 Z (Cn Z d (λ_ d=>?_) (λ_ d=>?_))
   .exact Yy 5 Z d []
   exact Yy 1 Z d []
  exact Gx 2 Z (Eg s (Gc 5 Z (Qg a (Lr []))))
 exact QG 7 Z h 4 []
def J4(e:Bl)(d:AA Int)(a:Int):AB (Bn Int (Bn Unit Bool)):=(bif a<(AI d:Int) then AH ((bif (a==0)then AC 1 else(bif (a==(i64.wrap ((AI d:Int)-1)))then AC 3 else AC 2)):AB Int) λf=>AH (AH (Bt d a) λg=>AH (Bt e.Ar g) λh=>(bif (h.AN != f)then AC AE else(bif 0<a then AH (Bt d (i64.wrap (a-1))) λi=>AH (Bt d a) λj=>AH (KB n e i j) λk=>AC (AG (k<0))else AC AD)):AB Bool) λl=>(bif l then AC (.d (.d AD))else AC (.k (i64.wrap (a+1))))else AC (.d (.k ())))
def SF(d:AQ)(h:AA Int)(a:Int):AB (Bn Int (Bn Unit Bool)):=(bif a<(AI d.Ao:Int) then AH (Bt d.Ao a) λe=>AH (Lt n h e.Ag) λf=>AH (Bt d.Ao a) λg=>(bif f<g.Bf then AC (.d (.d AD))else AC (.k (i64.wrap (a+1))))else AC (.d (.k ())))
def N9(g:Bl)(a:AQ):AB Bool:=AH (KJ n a.Aw) λd=>AH ((bif (AI d:Int)<2 then AC AE else AC (AG (256<(AI d:Int)))):AB Bool) λp=>(bif p then AC AD else AH (iter (J4 n g d) n 0:AB (Bn Unit Bool)) λh=>match h with|.k e=>(AH ((bif (a.Am != (-1))then AH (Bt g.Ar a.Am) λi=>(bif (i.AN != 2)then AC AE else AH (Lt n d a.Am) λj=>(bif (j==0)then AC AE else AH (KB n g a.Am a.Am) λk=>AC (AG (k<0))))else AC AD):AB Bool) λl=>(bif l then AC AD else AH (iter (SF n a d) n 0:AB (Bn Unit Bool)) λm=>match m with|.k f=>(AC AE)|.d f=>AC f))|.d e=>AC e)
theorem jt(a1:Bl)(a2:AQ):Ks (N9 n a1 a2) 67 [.a (Bl.c a1),.a (AQ.c a2)] [] (λr=>.b r):=by
 refine Kg 11 func67 Z Z Z Z λr h=>Cd [] h (kX _ _) Z λr1 ax h=>Fg 12 Z Z (Bd h λO p h=>Ct O [0,1,2] [2,3,5,6] (λO=>[(20,.b O)]) Ze Zf ?_ (λenv H g=>?_))
 .refine G0 4 Z (Is 17 p Z (λ_ p=>?_) (λ_ p=>?_))
  iterate 2 exact Gl 4 Z p [0,1,2]
 refine Gx 1 Z (Eg g (Cn Z h (λ_ h=>?_) (λ_ h=>?_)))
 .exact QG 7 Z h 4 []
 refine Gc 8 Z (Bd h λah ai h=>FI (b:=ah) [0,1,2] [2,3,5] Ze Ze Zf ?_ (λao env H q g=>?_))
 .refine G0 1 Z (Lp [0,1,2] [2,3,5,6] (λj=>[(7,I j)]) Ze ai Zf (Lr [0,1,2]) λj ay f s=>?_);refine G0 8 Z (Q8 Z f (λ_ f=>?_) (λ_ f=>?_))
  .exact Gc 2 Z (Qj f (Gx 1 Z (Ji s f Z (Lr [0,1,2]))))
  refine Gc 22 Z (Bd f λt i f=>Ct t [0,1,2] [2,3,5,6,7] (λt=>[(8,I t)]) Ze Zf ?_ (λenv H g=>?_))
  .refine G0 0 Z (Cn Z i (λ_ i=>?_) (λ_ i=>?_))
   .exact Yy 3 Z i [0,1,2]
   refine Gc 8 Z (Cn Z i (λ_ i=>?_) (λ_ i=>?_))
   .exact Yy 3 Z i [0,1,2]
   exact Yy 1 Z i [0,1,2]
  refine Gx 2 Z (Eg g (Gc 1 Z (Bd f λu d f=>Ct u [0,1,2] [2,3,5,6,7] (λu=>[(61,.b u)]) Ze Zf ?_ (λenv H g=>?_))))
  .refine G0 0 Z (C5 25 Z (D 4 Z ?_));obtain⟨aj,w,d⟩:=Q7 d;refine DS.v (x:=(.p 2 (toNat j*1))) (Qk w Z EE EG) ?_;refine DS.v (x:=(I aj)) (EC Z EK Z (Ql w)) ?_;obtain⟨N,T,d⟩:=Q7 d;refine DS.wo (x:=.rp [.str N.An,I N.AN]) ?_ ?_
   .exact Ix T runUnderlying22 sizeOf112 Z Wp
   refine D 5 Z (Y3 11 d Z Z Z (λ_ d=>?_) (λ_ d=>?_))
   .exact D 13 Z (Ei Z (Gl 5 Z d [0,1,2]))
   .refine D 3 Z (Y3 14 d Z Z Z (λ_ d=>?_) (λ_ d=>?_))
    .refine D 4 Z ?_;obtain⟨ak,y,d⟩:=Q7 d;refine DS.v (x:=(.p 2 (toNat (i64.wrap (j-1))*1))) (Qk y Z EE EG) ?_ (hg:=(gT Z));refine DS.v (x:=(I ak)) (EC Z EK Z (Ql y)) ?_ (hg:=(gT Z));refine D 2 Z ?_;obtain⟨al,z,d⟩:=Q7 d;refine DS.v (x:=(.p 2 (toNat j*1))) (Qk z Z EE EG) ?_ (hg:=(gT Z));refine DS.v (x:=(I al)) (EC Z EK Z (Ql z)) ?_ (hg:=(gT Z));exact Ei Z (Cz [] d (W0 _ _ _ _) Z λaz aq d=>Gl 4 Z d [0,1,2])
    .exact D 10 Z (Ei Z (Gl 5 Z d [0,1,2]))
  refine Gx 1 Z (Eg g (Cn Z f (λ_ f=>?_) (λ_ f=>?_)))
  .refine Gc 8 Z (Qv f ?_);obtain rfl:=Oj s f;exact Gx 1 Z (Qq (Gx 1 Z (Rt h 4 [])))
  exact Gc 8 Z (Qg f (Lr [0,1,2]))
 subst q;refine Gx 1 Z (Eg g (Gc 2 Z (Bd h λB e h=>Ct B [1,2] [3,5] (λB=>[(90,.b B)]) Ze Zf ?_ (λenv H g=>?_))))
 .refine G0 5 Z (Is 65 e Z (λ_ e=>?_) (λ_ e=>?_))
  .refine Go 4 Z (Bd e λba aa e=>Iz aa Z (Go 4 Z (Is 74 e Z (λ_ e=>?_) (λ_ e=>?_))))
   .exact Gl 17 Z e [1,2]
   .refine Go 3 Z (Cb e (Wq _ _ _) Z (lo (ls ln)) λbb ar e=>Go 3 Z (Is 81 e Z (λ_ e=>?_) (λ_ e=>?_)))
    .exact Gl 10 Z e [1,2]
    .exact Go 5 Z (Cz [] e (W0 _ _ _ _) Z λbc au e=>Gl 4 Z e [1,2])
  .exact Gl 26 Z e [1,2]
 refine Gx 1 Z (Eg g (Cn Z h (λ_ h=>?_) (λ_ h=>?_)))
 .exact QG 7 Z h 4 []
 refine Gc 8 Z (Bd h λam an h=>DF (b:=am) [] [] Ze Ze Zf ?_ (λ_ q=>?_))
 .refine G0 1 Z (Lp [0,1] [3,5] (λE=>[(9,I E)]) Ze an Zf (Lr [0,1]) λE aw a m=>?_);refine G0 6 Z (Lg 3 Z Z (Q8 Z a (λ_ a=>?_) (λ_ a=>?_)))
  .exact Gc 2 Z (Qj a (Gx 1 Z (Ji m a Z (Lr []))))
  refine Gc 5 Z (C5 14 Z (D 4 Z ?_));obtain⟨k,G,a⟩:=Q7 a;refine DS.wo (x:=.rp [I k.Ag,I k.Bf,I k.BY]) ?_ ?_
  .exact Ix G GH sizeOf200 Z Wp
  refine D 2 Z ?_;obtain⟨ae,J,a⟩:=Q7 a;refine DS.wo (x:=I ae) ?_ ?_
  .refine qy (DN.fn call138 rfl rfl rfl) (HW.cons rfl (.inr ⟨_,_,_,_,_,rfl,rfl,X3 ..,rfl⟩) (HW.cons rfl (.inl ⟨rfl,rfl⟩) HW.nil)) (Wq _ _ _ _ J) (by rintro _ _ ⟨rfl,rfl⟩;rfl) ?_;rintro _ _ ⟨rfl,rfl⟩;exact FE Z Wp
  refine D 3 Z ?_;obtain⟨l,L,a⟩:=Q7 a;refine DS.wo (x:=.rp [I l.Ag,I l.Bf,I l.BY]) ?_ ?_
  .exact Ix L GH sizeOf200 Z Wp
  refine D 2 Z (Ei Z (Go 3 Z (Cn Z a (λ_ a=>?_) (λ_ a=>?_))))
  .refine Gc 8 Z (Qv a ?_);obtain rfl:=Oj m a;exact Gx 1 Z (Qq (Gx 1 Z (Rt h 4 [])))
  exact Gc 8 Z (Qg a (Lr [0,1]))
 subst q;exact QG 6 Z h 4 []
def SJ(d:Bl)(a:Int):AB (Bn Int (Bn Unit Int)):=(bif a<(AI d.AX:Int) then AH (Bt d.AX a) λe=>AH (N9 n d e) λf=>(bif (!f)then AC (.d (.d 72))else AC (.k (i64.wrap (a+1))))else AC (.d (.k ())))
def HT(a:Bl):AB Int:=AH (N8 n a) λg=>(bif (!g)then AC 2 else AH (TY n a) λh=>(bif (!h)then AC 70 else AH (OV n a) λi=>(bif (!i)then AC 71 else AH (TX n a.BK) λe=>(bif (e != 0)then AC e else AH (iter (SJ n a) n 0:AB (Bn Unit Int)) λf=>match f with|.k d=>(AC 0)|.d d=>AC d))))
theorem W5(k:Bl):Ks (HT n k) 30 [.a (Bl.c k)] [] (λr=>I r):=by
 refine Kg 10 func30 Z Z Z Z λr h=>Cz [] h (js _ _) Z λJ z h=>Go 3 Z (Cn Z h (λ_ h=>?_) (λ_ h=>?_))
 .exact QG 7 Z h 2 []
 refine Gc 6 Z (Cz [] h (jR _ _) Z λL B h=>Go 3 Z (Cn Z h (λ_ h=>?_) (λ_ h=>?_)))
 .exact QG 7 Z h 2 []
 refine Gc 6 Z (Cz [] h (kJ _ _) Z λM E h=>Go 3 Z (Cn Z h (λ_ h=>?_) (λ_ h=>?_)))
 .exact QG 7 Z h 2 []
 refine Gc 6 Z (Cz [] h (jQ _ _) Z λN F h=>Go 10 Z (Cn Z h (λ_ h=>?_) (λ_ h=>?_)))
 .exact QG 8 Z h 2 []
 refine Gc 8 Z (Bd h λs t h=>DF (b:=s) [] [] Ze Ze Zf ?_ (λ_ u=>?_))
 .refine G0 1 Z (Lp [0] [1] (λf=>[(4,I f)]) Ze t Zf (Lr [0]) λf G a e=>?_);refine G0 6 Z (Lg 3 Z Z (Q8 Z a (λ_ a=>?_) (λ_ a=>?_)))
  .exact Gc 2 Z (Qj a (Gx 1 Z (Ji e a Z (Lr []))))
  refine Gc 5 Z (C5 6 Z (D 4 Z ?_));obtain⟨d,i,a⟩:=Q7 a;refine DS.wo (x:=.rp [.str d.An,.q 3 (map Bo.enc d.Aw),I d.BS,.q 3 (map Bw.c d.Ao),I d.Am]) ?_ ?_
  .exact Ix i GA sizeOf94 Z Wp
  refine D 1 Z (Ei Z (Cz [] a (jt _ _ _) Z λH y a=>Go 3 Z (Cn Z a (λ_ a=>?_) (λ_ a=>?_))))
  .refine Gc 8 Z (Qv a ?_);obtain rfl:=Oj e a;exact Gx 1 Z (Qq (Gx 1 Z (Rt h 2 [])))
  exact Gc 8 Z (Qg a (Lr [0]))
 subst u;exact QG 6 Z h 2 []
def Fq(n:Nat)(a:Int)(d:Int)(e:Int):AB Bool:=AH ((bif d<=a then AC (AG (a<=e))else AC AD):AB Bool) λb2=>AC b2
theorem F4(d:Int)(e:Int)(f:Int):Ks (Fq n d e f) 160 [I d,I e,I f] [] (λr=>.b r):=by
 refine Kg 6 func160 Z Z Z Z λr h=>Bd h λb2 a h=>Cg b2 [] [] (λb2=>[(6,.b b2)]) Ze Zf ?_ ?_
 .refine G0 5 Z (Is 10 a Z (λ_ a=>?_) (λ_ a=>?_))
  iterate 2 exact Gl 6 Z a []
 exact QG 1 Z h 6 []
def L0(a:Int):AB Bool:=AH (Fq n a 0 31) λd=>AC d
theorem Ww(a:Int):Ks (L0 n a) 158 [I a] [] (λr=>.b r):=by
 exact Kg 8 func158 Z Z Z Z λr h=>Cz [] h (F4 _ _ _ _) Z λe d h=>Gt 4 Z h 2 []
def Lu(a:Int):AB Bool:=AH (Fq n a 1 1048576) λd=>AC d
theorem Wr(a:Int):Ks (Lu n a) 159 [I a] [] (λr=>.b r):=by
 exact Kg 8 func159 Z Z Z Z λr h=>Cz [] h (F4 _ _ _ _) Z λe d h=>Gt 4 Z h 2 []
def Lc(a:Int):AB Bool:=AH (Fq n a 1 9999) λd=>AC d
theorem O8(a:Int):Ks (Lc n a) 216 [I a] [] (λr=>.b r):=by
 exact Kg 8 func216 Z Z Z Z λr h=>Cz [] h (F4 _ _ _ _) Z λe d h=>Gt 4 Z h 2 []
def IM(a:Int):AB Bool:=AH (Fq n a (-1099511627776) 1099511627776) λd=>AC d
theorem KP(a:Int):Ks (IM n a) 214 [I a] [] (λr=>.b r):=by
 exact Kg 8 func214 Z Z Z Z λr h=>Cz [] h (F4 _ _ _ _) Z λe d h=>Gt 4 Z h 2 []
def Lw(a:Int):AB Bool:=AH (Fq n a 0 1048576) λd=>AC d
theorem Wt(a:Int):Ks (Lw n a) 213 [I a] [] (λr=>.b r):=by
 exact Kg 8 func213 Z Z Z Z λr h=>Cz [] h (F4 _ _ _ _) Z λe d h=>Gt 4 Z h 2 []
def TV(a:AW):AB Bool:=AH (AH (Lc n a.BH) λd=>(bif d then AH (Fq n a.AQ 0 7) λe=>(bif e then AH (Fq n a.A' 0 31) λf=>(bif f then AH (IM n a.Bb) λg=>(bif g then AH (Fq n a.Bi 0 120) λh=>(bif h then AH (Lw n a.BJ) λi=>(bif i then AH (Fq n a.Bc 0 9999) λj=>(bif j then AH (Fq n a.Bh 0 1048576) λk=>AC k else AC AD)else AC AD)else AC AD)else AC AD)else AC AD)else AC AD)else AC AD):AB Bool) λl=>AC l
theorem jO(m:AW):Ks (TV n m) 210 [.a (AW.c m)] [] (λr=>.b r):=by
 refine Kg 7 func210 Z Z Z Z λr h=>Bd h λd a h=>Cg d [] [] (λd=>[(2,.b d)]) Ze Zf ?_ ?_
 .refine G0 3 Z (Cz [] a (O8 _ _) Z λz p a=>Go 1 Z (Is 6 a Z (λ_ a=>?_) (λ_ a=>?_)))
  .refine Go 2 Z (Cz [] a (F4 _ _ _ _) Z λB q a=>Go 2 Z (Is 11 a Z (λ_ a=>?_) (λ_ a=>?_)))
   .refine Go 2 Z (Cz [] a (F4 _ _ _ _) Z λE s a=>Go 2 Z (Is 16 a Z (λ_ a=>?_) (λ_ a=>?_)))
    .refine Go 2 Z (Cz [] a (KP _ _) Z λF t a=>Go 2 Z (Is 21 a Z (λ_ a=>?_) (λ_ a=>?_)))
     .refine Go 2 Z (Cz [] a (F4 _ _ _ _) Z λG u a=>Go 2 Z (Is 26 a Z (λ_ a=>?_) (λ_ a=>?_)))
      .refine Go 2 Z (Cz [] a (Wt _ _) Z λH w a=>Go 2 Z (Is 31 a Z (λ_ a=>?_) (λ_ a=>?_)))
       .refine Go 2 Z (Cz [] a (F4 _ _ _ _) Z λJ x a=>Go 2 Z (Is 36 a Z (λ_ a=>?_) (λ_ a=>?_)))
        .exact Go 2 Z (Cz [] a (F4 _ _ _ _) Z λL y a=>Gl 3 Z a [])
        .exact Gl 6 Z a []
       .exact Gl 11 Z a []
      .exact Gl 16 Z a []
     .exact Gl 21 Z a []
    .exact Gl 26 Z a []
   .exact Gl 31 Z a []
  .exact Gl 36 Z a []
 exact QG 1 Z h 2 []
def Pm(a:Int):AB Bool:=AH (Fq n a 0 39) λd=>AC d
theorem WV(a:Int):Ks (Pm n a) 211 [I a] [] (λr=>.b r):=by
 exact Kg 8 func211 Z Z Z Z λr h=>Cz [] h (F4 _ _ _ _) Z λe d h=>Gt 4 Z h 2 []
def H4(a:Int):AB Bool:=AH (Fq n a 0 255) λd=>AC d
theorem Zj(a:Int):Ks (H4 n a) 212 [I a] [] (λr=>.b r):=by
 exact Kg 8 func212 Z Z Z Z λr h=>Cz [] h (F4 _ _ _ _) Z λe d h=>Gt 4 Z h 2 []
def TG(a:AV):AB Bool:=AH (AH (Pm n a.BE) λd=>(bif d then AH (Pm n a.BF) λe=>(bif e then AH (H4 n a.A2) λf=>(bif f then AH (H4 n a.A3) λg=>(bif g then AH (IM n a.A1) λh=>(bif h then AH (IM n a.Ay) λi=>(bif i then AH (IM n a.BQ) λj=>(bif j then AH (IM n a.BO) λk=>(bif k then AC (AG (a.BQ<=a.BO))else AC AD)else AC AD)else AC AD)else AC AD)else AC AD)else AC AD)else AC AD)else AC AD):AB Bool) λl=>AC l
theorem jA(p:AV):Ks (TG n p) 215 [.a (AV.c p)] [] (λr=>.b r):=by
 refine Kg 7 func215 Z Z Z Z λr h=>Bd h λd a h=>Cg d [] [] (λd=>[(2,.b d)]) Ze Zf ?_ ?_
 .refine G0 3 Z (Cz [] a (WV _ _) Z λB q a=>Go 1 Z (Is 6 a Z (λ_ a=>?_) (λ_ a=>?_)))
  .refine Go 2 Z (Cz [] a (WV _ _) Z λE s a=>Go 2 Z (Is 11 a Z (λ_ a=>?_) (λ_ a=>?_)))
   .refine Go 2 Z (Cz [] a (Zj _ _) Z λF t a=>Go 2 Z (Is 16 a Z (λ_ a=>?_) (λ_ a=>?_)))
    .refine Go 2 Z (Cz [] a (Zj _ _) Z λG u a=>Go 2 Z (Is 21 a Z (λ_ a=>?_) (λ_ a=>?_)))
     .refine Go 2 Z (Cz [] a (KP _ _) Z λH w a=>Go 2 Z (Is 26 a Z (λ_ a=>?_) (λ_ a=>?_)))
      .refine Go 2 Z (Cz [] a (KP _ _) Z λJ x a=>Go 2 Z (Is 31 a Z (λ_ a=>?_) (λ_ a=>?_)))
       .refine Go 2 Z (Cz [] a (KP _ _) Z λL y a=>Go 2 Z (Is 36 a Z (λ_ a=>?_) (λ_ a=>?_)))
        .refine Go 2 Z (Cz [] a (KP _ _) Z λM z a=>Go 2 Z (Is 41 a Z (λ_ a=>?_) (λ_ a=>?_)))
         iterate 2 exact Gl 8 Z a []
        .exact Gl 13 Z a []
       .exact Gl 18 Z a []
      .exact Gl 23 Z a []
     .exact Gl 28 Z a []
    .exact Gl 33 Z a []
   .exact Gl 38 Z a []
  .exact Gl 43 Z a []
 exact QG 1 Z h 2 []
def H0(a:Int):AB Bool:=AH (Fq n a 0 255) λd=>AC d
theorem Zk(a:Int):Ks (H0 n a) 217 [I a] [] (λr=>.b r):=by
 exact Kg 8 func217 Z Z Z Z λr h=>Cz [] h (F4 _ _ _ _) Z λe d h=>Gt 4 Z h 2 []
def Ia(a:Int):AB Bool:=AH (Fq n a 1 1048576) λd=>AC d
theorem Mg(a:Int):Ks (Ia n a) 218 [I a] [] (λr=>.b r):=by
 exact Kg 8 func218 Z Z Z Z λr h=>Cz [] h (F4 _ _ _ _) Z λe d h=>Gt 4 Z h 2 []
def TW(a:AS):AB Bool:=AH (AH (Ia n a.A4) λs=>(bif (!s)then AC AE else AH (Fq n a.BC 1 2) λt=>AC (!t)):AB Bool) λu=>(bif u then AC AD else AH ((bif (a.AN==1)then AC (a.AN==1)else AC (a.AN==2)):AB Bool) λd=>(bif d then AH ((bif (a.BH==0)then(bif (a.Af==0)then AC (a.A5==0)else AC AD)else AC AD):AB Bool) λe=>AC e else(bif (a.AN==3)then AH (AH (Lc n a.BH) λf=>(bif f then AH (H0 n a.Af) λg=>(bif g then AH (Fq n a.A5 1 1099511627776) λh=>AC h else AC AD)else AC AD):AB Bool) λi=>AC i else(bif (a.AN==4)then AH (AH (Lc n a.BH) λj=>(bif j then AH (H0 n a.Af) λk=>(bif k then AH (Fq n a.A5 1 64) λl=>AC l else AC AD)else AC AD):AB Bool) λm=>AC m else(bif (a.AN==5)then AH (AH (Lc n a.BH) λp=>(bif p then AH (H0 n a.Af) λq=>(bif q then AC (a.A5==0)else AC AD)else AC AD):AB Bool) λr=>AC r else AC AD)))))
theorem jP(N:AS):Ks (TW n N) 219 [.a (AS.c N)] [] (λr=>.b r):=by
 refine Kg 8 func219 Z Z Z Z λr h=>Bd h λs i h=>Ct s [0] [1] (λs=>[(12,.b s)]) Ze Zf ?_ (λenv H f=>?_)
 .refine G0 3 Z (Cz [] i (Mg _ _) Z λr6 ab i=>Go 2 Z (Is 7 i Z (λ_ i=>?_) (λ_ i=>?_)))
  .exact Gl 6 Z i [0]
  .exact Go 2 Z (Cz [] i (F4 _ _ _ _) Z λr8 ac i=>Gl 3 Z i [0])
 refine Gx 1 Z (Eg f (Cn Z h (λ_ h=>?_) (λ_ h=>?_)))
 .exact QG 7 Z h 2 []
 refine Gc 17 Z (Bd h λk j h=>Ct k [0] [1,14] (λk=>[(15,.b k)]) Ze Zf ?_ (λenv H f=>?_))
 .refine G0 0 Z (Cn Z j (λ_ j=>?_) (λ_ j=>?_))
  .exact Yy 1 Z j [0]
  exact Yy 4 Z j [0]
 refine Gx 1 Z (Eg f (Cn Z h (λ_ h=>?_) (λ_ h=>?_)))
 .refine Gc 1 Z (Bd h λl g h=>Ct l [] [] (λl=>[(2,.b l)]) Ze Zf ?_ (λenv H f=>?_))
  .refine G0 5 Z (Is 21 g Z (λ_ g=>?_) (λ_ g=>?_))
   .refine Go 5 Z (Is 26 g Z (λ_ g=>?_) (λ_ g=>?_))
    iterate 2 exact Gl 6 Z g []
   .exact Gl 11 Z g []
  exact Gx 1 Z (Eg f (QG 3 Z h 2 []))
 refine Gc 6 Z (Cn Z h (λ_ h=>?_) (λ_ h=>?_))
 .refine Gc 1 Z (Bd h λm a h=>Ct m [] [] (λm=>[(2,.b m)]) Ze Zf ?_ (λenv H f=>?_))
  .refine G0 3 Z (Cz [] a (O8 _ _) Z λad Q a=>Go 1 Z (Is 36 a Z (λ_ a=>?_) (λ_ a=>?_)))
   .refine Go 2 Z (Cz [] a (Zk _ _) Z λae R a=>Go 2 Z (Is 41 a Z (λ_ a=>?_) (λ_ a=>?_)))
    .exact Go 2 Z (Cz [] a (F4 _ _ _ _) Z λaf T a=>Gl 3 Z a [])
    .exact Gl 6 Z a []
   .exact Gl 11 Z a []
  exact Gx 1 Z (Eg f (QG 3 Z h 2 []))
 refine Gc 6 Z (Cn Z h (λ_ h=>?_) (λ_ h=>?_))
 .refine Gc 1 Z (Bd h λp d h=>Ct p [] [] (λp=>[(2,.b p)]) Ze Zf ?_ (λenv H f=>?_))
  .refine G0 3 Z (Cz [] d (O8 _ _) Z λag V d=>Go 1 Z (Is 51 d Z (λ_ d=>?_) (λ_ d=>?_)))
   .refine Go 2 Z (Cz [] d (Zk _ _) Z λah W d=>Go 2 Z (Is 56 d Z (λ_ d=>?_) (λ_ d=>?_)))
    .exact Go 2 Z (Cz [] d (F4 _ _ _ _) Z λai X d=>Gl 3 Z d [])
    .exact Gl 6 Z d []
   .exact Gl 11 Z d []
  exact Gx 1 Z (Eg f (QG 3 Z h 2 []))
 refine Gc 6 Z (Cn Z h (λ_ h=>?_) (λ_ h=>?_))
 .refine Gc 1 Z (Bd h λq e h=>Cg q [] [] (λq=>[(2,.b q)]) Ze Zf ?_ ?_)
  .refine G0 3 Z (Cz [] e (O8 _ _) Z λaj Y e=>Go 1 Z (Is 66 e Z (λ_ e=>?_) (λ_ e=>?_)))
   .refine Go 2 Z (Cz [] e (Zk _ _) Z λak aa e=>Go 2 Z (Is 71 e Z (λ_ e=>?_) (λ_ e=>?_)))
    iterate 2 exact Gl 6 Z e []
   .exact Gl 11 Z e []
  exact QG 3 Z h 2 []
 exact QG 9 Z h 2 []
def OW(a:Bm):AB Bool:=(bif (a.AN==1)then AH (TV n a.AW) λr2=>AC r2 else(bif (a.AN==2)then AH (AH (Pm n a.Az.Ag) λu=>(bif u then AH (H4 n a.Az.AT) λw=>(bif w then AH (Lw n a.Az.BJ) λx=>(bif x then AH (IM n a.Az.Av) λy=>AC y else AC AD)else AC AD)else AC AD):AB Bool) λz=>AC z else(bif (a.AN==3)then AH (AH (Pm n a.AO.Ag) λE=>(bif E then AH (H4 n a.AO.AT) λF=>(bif F then AH (IM n a.AO.Av) λG=>(bif G then AH (IM n a.AO.True) λH=>(bif H then AH (Fq n a.AO.BX 0 1099511627776) λJ=>AC J else AC AD)else AC AD)else AC AD)else AC AD):AB Bool) λL=>AC L else(bif (a.AN==4)then AH (TG n a.AV) λM=>AC M else(bif (a.AN==5)then AH (AH (Lc n a.A0.BH) λN=>(bif N then AH (H0 n a.A0.Af) λO=>(bif O then AH (IM n a.A0.Lo) λP=>(bif P then AH (IM n a.A0.Hi) λQ=>(bif Q then AC (AG (a.A0.Lo<=a.A0.Hi))else AC AD)else AC AD)else AC AD)else AC AD):AB Bool) λR=>AC R else(bif (a.AN==6)then AH (AH (Pm n a.Ab.Ag) λT=>(bif T then AH (H4 n a.Ab.AT) λV=>(bif V then AH (IM n a.Ab.Lo) λW=>(bif W then AH (IM n a.Ab.Hi) λX=>(bif X then AC (AG (a.Ab.Lo<=a.Ab.Hi))else AC AD)else AC AD)else AC AD)else AC AD):AB Bool) λY=>AC Y else(bif (a.AN==7)then AH (AH (Lc n a.BA.A) λaa=>(bif aa then AH (Lc n a.BA.B) λab=>(bif ab then AC (AG (a.BA.A<a.BA.B))else AC AD)else AC AD):AB Bool) λac=>AC ac else(bif (a.AN==8)then AH (AH (Ia n a.Aj.A4) λd=>(bif d then AH (Lc n a.Aj.BH) λe=>(bif e then AH (Fq n a.Aj.Ah 0 31) λf=>(bif f then AH (H0 n a.Aj.Af) λg=>AC g else AC AD)else AC AD)else AC AD):AB Bool) λh=>AC h else(bif (a.AN==9)then AH (AH (Ia n a.Ad.A4) λi=>(bif i then AH (Fq n a.Ad.By 0 9999) λj=>(bif j then AH (Fq n a.Ad.Be 0 1125899906842624) λk=>(bif k then AH (Fq n a.Ad.Ba 0 1) λl=>AC l else AC AD)else AC AD)else AC AD):AB Bool) λm=>AC m else(bif (a.AN==10)then AH (TW n a.AS) λp=>AC p else(bif (a.AN==11)then AH (Ia n a.Al.A4) λq=>AC q else(bif (a.AN==12)then AC AE else(bif (a.AN==13)then AH (AH (L0 n a.BI.Au) λr=>(bif r then AH (Lu n a.BI.No) λs=>AC s else AC AD):AB Bool) λt=>AC t else AC AD)))))))))))))
theorem kK(a1:Bm):Ks (OW n a1) 161 [.a (Bm.c a1)] [] (λr=>.b r):=by
 refine Kg 20 func161 Z Z Z Z λr h=>Cn Z h (λ_ h=>?_) (λ_ h=>?_)
 .exact Gc 4 Z (Cz [] h (jO _ _) Z λr2 cq h=>Gt 6 Z h 2 [])
 refine Gc 6 Z (Cn Z h (λ_ h=>?_) (λ_ h=>?_))
 .refine Gc 1 Z (Bd h λs i h=>Ct s [] [] (λs=>[(2,.b s)]) Ze Zf ?_ (λenv H j=>?_))
  .refine G0 4 Z (Cz [] i (WV _ _) Z λcr bi i=>Go 1 Z (Is 16 i Z (λ_ i=>?_) (λ_ i=>?_)))
   .refine Go 3 Z (Cz [] i (Zj _ _) Z λcs bj i=>Go 2 Z (Is 22 i Z (λ_ i=>?_) (λ_ i=>?_)))
    .refine Go 3 Z (Cz [] i (Wt _ _) Z λct bk i=>Go 2 Z (Is 28 i Z (λ_ i=>?_) (λ_ i=>?_)))
     .exact Go 3 Z (Cz [] i (KP _ _) Z λcu bl i=>Gl 3 Z i [])
     .exact Gl 7 Z i []
    .exact Gl 13 Z i []
   .exact Gl 19 Z i []
  exact Gx 1 Z (Eg j (QG 3 Z h 2 []))
 refine Gc 6 Z (Cn Z h (λ_ h=>?_) (λ_ h=>?_))
 .refine Gc 1 Z (Bd h λt e h=>Ct t [] [] (λt=>[(2,.b t)]) Ze Zf ?_ (λenv H j=>?_))
  .refine G0 4 Z (Cz [] e (WV _ _) Z λcv bm e=>Go 1 Z (Is 40 e Z (λ_ e=>?_) (λ_ e=>?_)))
   .refine Go 3 Z (Cz [] e (Zj _ _) Z λcw bn e=>Go 2 Z (Is 46 e Z (λ_ e=>?_) (λ_ e=>?_)))
    .refine Go 3 Z (Cz [] e (KP _ _) Z λcx bo e=>Go 2 Z (Is 52 e Z (λ_ e=>?_) (λ_ e=>?_)))
     .refine Go 3 Z (Cz [] e (KP _ _) Z λcy bq e=>Go 2 Z (Is 58 e Z (λ_ e=>?_) (λ_ e=>?_)))
      .exact Go 3 Z (Cz [] e (F4 _ _ _ _) Z λcz br e=>Gl 3 Z e [])
      .exact Gl 7 Z e []
     .exact Gl 13 Z e []
    .exact Gl 19 Z e []
   .exact Gl 25 Z e []
  exact Gx 1 Z (Eg j (QG 3 Z h 2 []))
 refine Gc 6 Z (Cn Z h (λ_ h=>?_) (λ_ h=>?_))
 .exact Gc 4 Z (Cz [] h (jA _ _) Z λda bs h=>Gt 6 Z h 2 [])
 refine Gc 6 Z (Cn Z h (λ_ h=>?_) (λ_ h=>?_))
 .refine Gc 1 Z (Bd h λu f h=>Ct u [] [] (λu=>[(2,.b u)]) Ze Zf ?_ (λenv H j=>?_))
  .refine G0 4 Z (Cz [] f (O8 _ _) Z λdb bt f=>Go 1 Z (Is 75 f Z (λ_ f=>?_) (λ_ f=>?_)))
   .refine Go 3 Z (Cz [] f (Zk _ _) Z λdc bu f=>Go 2 Z (Is 81 f Z (λ_ f=>?_) (λ_ f=>?_)))
    .refine Go 3 Z (Cz [] f (KP _ _) Z λde bv f=>Go 2 Z (Is 87 f Z (λ_ f=>?_) (λ_ f=>?_)))
     .refine Go 3 Z (Cz [] f (KP _ _) Z λdf bw f=>Go 2 Z (Is 93 f Z (λ_ f=>?_) (λ_ f=>?_)))
      iterate 2 exact Gl 10 Z f []
     .exact Gl 16 Z f []
    .exact Gl 22 Z f []
   .exact Gl 28 Z f []
  exact Gx 1 Z (Eg j (QG 3 Z h 2 []))
 refine Gc 6 Z (Cn Z h (λ_ h=>?_) (λ_ h=>?_))
 .refine Gc 1 Z (Bd h λw g h=>Ct w [] [] (λw=>[(2,.b w)]) Ze Zf ?_ (λenv H j=>?_))
  .refine G0 4 Z (Cz [] g (WV _ _) Z λdg bx g=>Go 1 Z (Is 108 g Z (λ_ g=>?_) (λ_ g=>?_)))
   .refine Go 3 Z (Cz [] g (Zj _ _) Z λdh bz g=>Go 2 Z (Is 114 g Z (λ_ g=>?_) (λ_ g=>?_)))
    .refine Go 3 Z (Cz [] g (KP _ _) Z λdi ca g=>Go 2 Z (Is 120 g Z (λ_ g=>?_) (λ_ g=>?_)))
     .refine Go 3 Z (Cz [] g (KP _ _) Z λdj cb g=>Go 2 Z (Is 126 g Z (λ_ g=>?_) (λ_ g=>?_)))
      iterate 2 exact Gl 10 Z g []
     .exact Gl 16 Z g []
    .exact Gl 22 Z g []
   .exact Gl 28 Z g []
  exact Gx 1 Z (Eg j (QG 3 Z h 2 []))
 refine Gc 6 Z (Cn Z h (λ_ h=>?_) (λ_ h=>?_))
 .refine Gc 1 Z (Bd h λx k h=>Ct x [] [] (λx=>[(2,.b x)]) Ze Zf ?_ (λenv H j=>?_))
  .refine G0 4 Z (Cz [] k (O8 _ _) Z λdk cc k=>Go 1 Z (Is 141 k Z (λ_ k=>?_) (λ_ k=>?_)))
   .refine Go 3 Z (Cz [] k (O8 _ _) Z λdl cd k=>Go 2 Z (Is 147 k Z (λ_ k=>?_) (λ_ k=>?_)))
    iterate 2 exact Gl 10 Z k []
   .exact Gl 16 Z k []
  exact Gx 1 Z (Eg j (QG 3 Z h 2 []))
 refine Gc 6 Z (Cn Z h (λ_ h=>?_) (λ_ h=>?_))
 .refine Gc 1 Z (Bd h λm a h=>Ct m [] [] (λm=>[(2,.b m)]) Ze Zf ?_ (λenv H j=>?_))
  .refine G0 4 Z (Cz [] a (Mg _ _) Z λce av a=>Go 1 Z (Is 162 a Z (λ_ a=>?_) (λ_ a=>?_)))
   .refine Go 3 Z (Cz [] a (O8 _ _) Z λcf aw a=>Go 2 Z (Is 168 a Z (λ_ a=>?_) (λ_ a=>?_)))
    .refine Go 3 Z (Cz [] a (F4 _ _ _ _) Z λcg ax a=>Go 2 Z (Is 174 a Z (λ_ a=>?_) (λ_ a=>?_)))
     .exact Go 3 Z (Cz [] a (Zk _ _) Z λch ay a=>Gl 3 Z a [])
     .exact Gl 7 Z a []
    .exact Gl 13 Z a []
   .exact Gl 19 Z a []
  exact Gx 1 Z (Eg j (QG 3 Z h 2 []))
 refine Gc 6 Z (Cn Z h (λ_ h=>?_) (λ_ h=>?_))
 .refine Gc 1 Z (Bd h λp d h=>Ct p [] [] (λp=>[(2,.b p)]) Ze Zf ?_ (λenv H j=>?_))
  .refine G0 4 Z (Cz [] d (Mg _ _) Z λci az d=>Go 1 Z (Is 186 d Z (λ_ d=>?_) (λ_ d=>?_)))
   .refine Go 3 Z (Cz [] d (F4 _ _ _ _) Z λcj ba d=>Go 2 Z (Is 192 d Z (λ_ d=>?_) (λ_ d=>?_)))
    .refine Go 3 Z (Cz [] d (F4 _ _ _ _) Z λck bb d=>Go 2 Z (Is 198 d Z (λ_ d=>?_) (λ_ d=>?_)))
     .exact Go 3 Z (Cz [] d (F4 _ _ _ _) Z λcl bc d=>Gl 3 Z d [])
     .exact Gl 7 Z d []
    .exact Gl 13 Z d []
   .exact Gl 19 Z d []
  exact Gx 1 Z (Eg j (QG 3 Z h 2 []))
 refine Gc 6 Z (Cn Z h (λ_ h=>?_) (λ_ h=>?_))
 .exact Gc 4 Z (Cz [] h (jP _ _) Z λcm bd h=>Gt 6 Z h 2 [])
 refine Gc 6 Z (Cn Z h (λ_ h=>?_) (λ_ h=>?_))
 .exact Gc 5 Z (Cz [] h (Mg _ _) Z λcn be h=>Gt 6 Z h 2 [])
 refine Gc 6 Z (Cn Z h (λ_ h=>?_) (λ_ h=>?_))
 .exact QG 8 Z h 2 []
 refine Gc 6 Z (Cn Z h (λ_ h=>?_) (λ_ h=>?_))
 .refine Gc 1 Z (Bd h λq l h=>Cg q [] [] (λq=>[(2,.b q)]) Ze Zf ?_ ?_)
  .refine G0 4 Z (Cz [] l (Ww _ _) Z λco bg l=>Go 1 Z (Is 223 l Z (λ_ l=>?_) (λ_ l=>?_)))
   .exact Go 3 Z (Cz [] l (Wr _ _) Z λcp bh l=>Gl 3 Z l [])
   .exact Gl 7 Z l []
  exact QG 3 Z h 2 []
 exact QG 9 Z h 2 []
def OT(n:Nat)(a:Bm):AB Bm:=AH ((bif (a.AN==1)then AC ({Ul with Au:=a.Au,No:=a.No,At:=a.At,AN:=a.AN,AW:=a.AW:Bm})else(bif (a.AN==2)then AC ({Ul with Au:=a.Au,No:=a.No,At:=a.At,AN:=a.AN,Az:=a.Az:Bm})else(bif (a.AN==3)then AC ({Ul with Au:=a.Au,No:=a.No,At:=a.At,AN:=a.AN,AO:=a.AO:Bm})else(bif (a.AN==4)then AC ({Ul with Au:=a.Au,No:=a.No,At:=a.At,AN:=a.AN,AV:=a.AV:Bm})else(bif (a.AN==5)then AC ({Ul with Au:=a.Au,No:=a.No,At:=a.At,AN:=a.AN,A0:=a.A0:Bm})else(bif (a.AN==6)then AC ({Ul with Au:=a.Au,No:=a.No,At:=a.At,AN:=a.AN,Ab:=a.Ab:Bm})else(bif (a.AN==7)then AC ({Ul with Au:=a.Au,No:=a.No,At:=a.At,AN:=a.AN,BA:=a.BA:Bm})else(bif (a.AN==8)then AC ({Ul with Au:=a.Au,No:=a.No,At:=a.At,AN:=a.AN,Aj:=a.Aj:Bm})else(bif (a.AN==9)then AC ({Ul with Au:=a.Au,No:=a.No,At:=a.At,AN:=a.AN,Ad:=a.Ad:Bm})else(bif (a.AN==10)then AC ({Ul with Au:=a.Au,No:=a.No,At:=a.At,AN:=a.AN,AS:=a.AS:Bm})else(bif (a.AN==11)then AC ({Ul with Au:=a.Au,No:=a.No,At:=a.At,AN:=a.AN,Al:=a.Al:Bm})else(bif (a.AN==13)then AC ({Ul with Au:=a.Au,No:=a.No,At:=a.At,AN:=a.AN,BI:=a.BI:Bm})else AC ({Ul with Au:=a.Au,No:=a.No,At:=a.At,AN:=a.AN:Bm}))))))))))))):AB Bm) λd=>AC d
theorem kH(u:Bm):Kq (OT n u) 162 [.a (Bm.c u)] [] (λr=>.a (Bm.c r)) (λr=>[.c 88 (Bm.c r)]):=by
 refine Kg 35 func162 Z Z Z Z λr h=>Bd h λd a h=>Ct d [1,2] [2,3] Ze (λd=>[(1,.c 88 (Bm.c d))]) Zf ?_ (λenv H w=>?_)
 .refine G0 0 Z (Cn Z a (λ_ a=>?_) (λ_ a=>?_))
  .exact Yy 6 Z a [1,2]
  iterate 11 (refine Gc 6 Z (Cn Z a (λ_ a=>?_) (λ_ a=>?_));exact Yy 6 Z a [1,2])
  exact Yy 1 Z a [1,2]
 refine Gx 2 Z (Eg w (Gc 7 Z ?_));obtain rfl:=Oi h;exact Rx [0] [2] Z (Q5 Z (Qf E8 EH Z Z Z)) ⟨Z,Z⟩
def Ls(a:Bm):AB Int:=AH (AH (L0 n a.Au) λd=>(bif (!d)then AC AE else AH (Lu n a.No) λe=>(bif (!e)then AC AE else AH (Fq n a.At 0 1099511627776) λf=>(bif (!f)then AC AE else AH (OW n a) λg=>(bif (!g)then AC AE else AH (OT n a) λh=>AC (a != h))))):AB Bool) λi=>(bif i then AC 120 else AC 0)
theorem Wo(e:Bm):Ks (Ls n e) 88 [.a (Bm.c e)] [] (λr=>I r):=by
 refine Kg 8 func88 Z Z Z Z λr h=>Bd h λf a h=>Cg f [] [] (λf=>[(29,.b f)]) Ze Zf ?_ ?_
 .refine G0 0 Z (c_ 25 [24] [(0,0,0),(0,0,0),(0,0,0),(0,0,0),(0,0,0),(0,0,0),(0,0,0),(0,0,0),(0,0,0),(0,0,0),(0,0,0),(0,0,0),(0,0,0),(0,0,0),(0,0,0),(0,0,0),(0,0,0),(0,0,0),(0,0,0),(0,0,0),(0,0,0),(0,0,0),(0,0,1),(0,0,0),(1,0,0)] (by kernel_rfl) (Dk 2 Z ?_));obtain⟨y,g,a⟩:=Q7 a;refine DK.wo (x:=.b y) ?_ ?_
  .exact Pc [] Z (DN.fn call158 Z Z Z) (Ww _ _ _ g) Z Wp
  refine Dk 2 Z (dS 4 a Z Z Z (λ_ a=>?_) (λ_ a=>?_))
  .exact Dk 20 Z (DK.done Z Z (Gl 3 Z a []))
  .refine Dk 2 Z ?_;obtain⟨z,j,a⟩:=Q7 a;refine DK.wo (x:=.b z) ?_ ?_
   .exact Pc [] Z (DN.fn call159 Z Z Z) (Wr _ _ _ j) (hg:=(gT Z)) Z Wp
   refine Dk 3 Z (dS 10 a Z Z Z (λ_ a=>?_) (λ_ a=>?_))
   .exact Dk 14 Z (DK.done Z Z (Gl 3 Z a []))
   .refine Dk 2 Z ?_;obtain⟨B,l,a⟩:=Q7 a;refine DK.wo (x:=.b B) ?_ ?_
    .exact Pc [] Z (DN.fn call160 Z Z Z) (F4 _ _ _ _ _ l) (hg:=(gT Z)) Z Wp
    refine Dk 3 Z (dS 16 a Z Z Z (λ_ a=>?_) (λ_ a=>?_))
    .exact Dk 8 Z (DK.done Z Z (Gl 3 Z a []))
    .refine Dk 1 Z ?_;obtain⟨E,s,a⟩:=Q7 a;refine DK.wo (x:=.b E) ?_ ?_
     .exact Pc [] Z (DN.fn call161 Z Z Z) (kK _ _ _ s) (hg:=(gT Z)) Z Wp
     refine Dk 3 Z (dS 21 a Z Z Z (λ_ a=>?_) (λ_ a=>?_))
     .exact Dk 3 Z (DK.done Z Z (Gl 3 Z a []))
     .refine uR (lo:=0) (x:=.a (Bm.c e)) ⟨Z,trivial⟩ ?_;refine Dk 1 Z ?_;obtain⟨d,u,a⟩:=Q7 a;refine DK.op (x:=.a (Bm.c d)) (X1:=[.c 88 (Bm.c e),.c 88 (Bm.c d)]) ?_ ?_
      .refine Qs [] (DN.fn call162 Z Z Z) (kH _ _ _ u) ?_ (hg:=(gT Z));rintro _ _ ⟨rfl,rfl⟩;exact FE Z Wp
      refine DK.done Z Z ?_;refine vX (.b (e != d)) (fq (p:=e) (q:=d) d8 Z Z) ?_ (gT Z);exact Gl 2 Z a []
 refine Cn Z h (λ_ h=>?_) (λ_ h=>?_)
 .exact QG 7 Z h 2 []
 exact QG 8 Z h 2 []
def N_(n:Nat)(a:Bm):AB (AA Int):=(bif (a.AN==1)then AH (app [a.AN,a.Au,a.No,a.At] [a.AW.BH,a.AW.AQ,a.AW.A',a.AW.Bb,a.AW.Bi,a.AW.BJ,a.AW.Bc,a.AW.Bh]) λm=>AC m else(bif (a.AN==2)then AH (app [a.AN,a.Au,a.No,a.At] [a.Az.Ag,a.Az.AT,a.Az.BJ,a.Az.Av]) λp=>AC p else(bif (a.AN==3)then AH (app [a.AN,a.Au,a.No,a.At] [a.AO.Ag,a.AO.AT,a.AO.Av,a.AO.True,a.AO.BX]) λq=>AC q else(bif (a.AN==4)then AH (app [a.AN,a.Au,a.No,a.At] [a.AV.BE,a.AV.A2,a.AV.A1,a.AV.BF,a.AV.A3,a.AV.Ay,a.AV.BQ,a.AV.BO]) λr=>AC r else(bif (a.AN==5)then AH (app [a.AN,a.Au,a.No,a.At] [a.A0.BH,a.A0.Af,a.A0.Lo,a.A0.Hi]) λd=>AC d else(bif (a.AN==6)then AH (app [a.AN,a.Au,a.No,a.At] [a.Ab.Ag,a.Ab.AT,a.Ab.Lo,a.Ab.Hi]) λe=>AC e else(bif (a.AN==7)then AH (app [a.AN,a.Au,a.No,a.At] [a.BA.A,a.BA.B]) λf=>AC f else(bif (a.AN==8)then AH (app [a.AN,a.Au,a.No,a.At] [a.Aj.A4,a.Aj.BH,a.Aj.Ah,a.Aj.Af]) λg=>AC g else(bif (a.AN==9)then AH (app [a.AN,a.Au,a.No,a.At] [a.Ad.A4,a.Ad.By,a.Ad.Be,a.Ad.Ba]) λh=>AC h else(bif (a.AN==10)then AH (app [a.AN,a.Au,a.No,a.At] [a.AS.A4,a.AS.BC,a.AS.AN,a.AS.BH,a.AS.Af,a.AS.A5]) λi=>AC i else(bif (a.AN==11)then(bif a.Al.A_ then AH (app [a.AN,a.Au,a.No,a.At] [a.Al.A4,1]) λj=>AC j else AH (app [a.AN,a.Au,a.No,a.At] [a.Al.A4,0]) λk=>AC k)else(bif (a.AN==13)then AH (app [a.AN,a.Au,a.No,a.At] [a.BI.Au,a.BI.No]) λl=>AC l else AC [a.AN,a.Au,a.No,a.At]))))))))))))
theorem ju(a:Bm):Kq (N_ n a) 222 [.a (Bm.c a)] [] (λr=>.o 0 (AI r) 1) (λr=>[.r 3 1 (map (Qe .i64) r)]):=by
 refine Kg 16 func222 Z Z Z Z λr h=>vH (Em (xs:=[.tmp 14,.tmp 16,.tmp 18,.tmp 20]) (es:=map (Qe .i64) [a.AN,a.Au,a.No,a.At]) QA Z Z Z Z Z ⟨Z,Z,Z,Z,trivial⟩ Z Z) ?_;refine Fg 17 Z Z (Cn Z h (λ_ h=>?_) (λ_ h=>?_))
 .refine Gc 27 Z (vH (Em (xs:=[.tmp 30,.tmp 32,.tmp 34,.tmp 36,.tmp 38,.tmp 40,.tmp 42,.tmp 44]) (es:=map (Qe .i64) [a.AW.BH,a.AW.AQ,a.AW.A',a.AW.Bb,a.AW.Bi,a.AW.BJ,a.AW.Bc,a.AW.Bh]) QA Z Z Z Z Z ⟨Z,Z,Z,Z,Z,Z,Z,Z,trivial⟩ Z Z) ?_);refine FE Z (Bd h λl2 G h=>vH (Qu (e:=(Qe .i64)) G QA EE (QS (i:=3))) ?_);exact FE Z (Gt 6 Z h 2 [4])
 refine Gc 6 Z (Cn Z h (λ_ h=>?_) (λ_ h=>?_))
 .refine Gc 19 Z (vH (Em (xs:=[.tmp 53,.tmp 55,.tmp 57,.tmp 59]) (es:=map (Qe .i64) [a.Az.Ag,a.Az.AT,a.Az.BJ,a.Az.Av]) QA Z Z Z Z Z ⟨Z,Z,Z,Z,trivial⟩ Z Z) ?_);refine FE Z (Bd h λl4 J h=>vH (Qu (e:=(Qe .i64)) J QA EE (QS (i:=3))) ?_);exact FE Z (Gt 6 Z h 2 [4])
 refine Gc 6 Z (Cn Z h (λ_ h=>?_) (λ_ h=>?_))
 .refine Gc 21 Z (vH (Em (xs:=[.tmp 68,.tmp 70,.tmp 72,.tmp 74,.tmp 76]) (es:=map (Qe .i64) [a.AO.Ag,a.AO.AT,a.AO.Av,a.AO.True,a.AO.BX]) QA Z Z Z Z Z ⟨Z,Z,Z,Z,Z,trivial⟩ Z Z) ?_);refine FE Z (Bd h λl6 M h=>vH (Qu (e:=(Qe .i64)) M QA EE (QS (i:=3))) ?_);exact FE Z (Gt 6 Z h 2 [4])
 refine Gc 6 Z (Cn Z h (λ_ h=>?_) (λ_ h=>?_))
 .refine Gc 27 Z (vH (Em (xs:=[.tmp 85,.tmp 87,.tmp 89,.tmp 91,.tmp 93,.tmp 95,.tmp 97,.tmp 99]) (es:=map (Qe .i64) [a.AV.BE,a.AV.A2,a.AV.A1,a.AV.BF,a.AV.A3,a.AV.Ay,a.AV.BQ,a.AV.BO]) QA Z Z Z Z Z ⟨Z,Z,Z,Z,Z,Z,Z,Z,trivial⟩ Z Z) ?_);refine FE Z (Bd h λl8 O h=>vH (Qu (e:=(Qe .i64)) O QA EE (QS (i:=3))) ?_);exact FE Z (Gt 6 Z h 2 [4])
 refine Gc 6 Z (Cn Z h (λ_ h=>?_) (λ_ h=>?_))
 .refine Gc 19 Z (vH (Em (xs:=[.tmp 108,.tmp 110,.tmp 112,.tmp 114]) (es:=map (Qe .i64) [a.A0.BH,a.A0.Af,a.A0.Lo,a.A0.Hi]) QA Z Z Z Z Z ⟨Z,Z,Z,Z,trivial⟩ Z Z) ?_);refine FE Z (Bd h λQ d h=>vH (Qu (e:=(Qe .i64)) d QA EE (QS (i:=3))) ?_);exact FE Z (Gt 6 Z h 2 [4])
 refine Gc 6 Z (Cn Z h (λ_ h=>?_) (λ_ h=>?_))
 .refine Gc 19 Z (vH (Em (xs:=[.tmp 123,.tmp 125,.tmp 127,.tmp 129]) (es:=map (Qe .i64) [a.Ab.Ag,a.Ab.AT,a.Ab.Lo,a.Ab.Hi]) QA Z Z Z Z Z ⟨Z,Z,Z,Z,trivial⟩ Z Z) ?_);refine FE Z (Bd h λR g h=>vH (Qu (e:=(Qe .i64)) g QA EE (QS (i:=3))) ?_);exact FE Z (Gt 6 Z h 2 [4])
 refine Gc 6 Z (Cn Z h (λ_ h=>?_) (λ_ h=>?_))
 .refine Gc 9 Z (vH (Em (xs:=[.tmp 137,.tmp 140]) (es:=map (Qe .i64) [a.BA.A,a.BA.B]) QA Z Z Z Z Z ⟨Z,Z,trivial⟩ Z Z) ?_);refine FE Z (Bd h λT k h=>vH (Qu (e:=(Qe .i64)) k QA EE (QS (i:=2))) ?_);exact FE Z (Gt 6 Z h 2 [3])
 refine Gc 6 Z (Cn Z h (λ_ h=>?_) (λ_ h=>?_))
 .refine Gc 19 Z (vH (Em (xs:=[.tmp 149,.tmp 151,.tmp 153,.tmp 155]) (es:=map (Qe .i64) [a.Aj.A4,a.Aj.BH,a.Aj.Ah,a.Aj.Af]) QA Z Z Z Z Z ⟨Z,Z,Z,Z,trivial⟩ Z Z) ?_);refine FE Z (Bd h λV m h=>vH (Qu (e:=(Qe .i64)) m QA EE (QS (i:=3))) ?_);exact FE Z (Gt 6 Z h 2 [4])
 refine Gc 6 Z (Cn Z h (λ_ h=>?_) (λ_ h=>?_))
 .refine Gc 19 Z (vH (Em (xs:=[.tmp 164,.tmp 166,.tmp 168,.tmp 170]) (es:=map (Qe .i64) [a.Ad.A4,a.Ad.By,a.Ad.Be,a.Ad.Ba]) QA Z Z Z Z Z ⟨Z,Z,Z,Z,trivial⟩ Z Z) ?_);refine FE Z (Bd h λW q h=>vH (Qu (e:=(Qe .i64)) q QA EE (QS (i:=3))) ?_);exact FE Z (Gt 6 Z h 2 [4])
 refine Gc 6 Z (Cn Z h (λ_ h=>?_) (λ_ h=>?_))
 .refine Gc 23 Z (vH (Em (xs:=[.tmp 179,.tmp 181,.tmp 183,.tmp 185,.tmp 187,.tmp 189]) (es:=map (Qe .i64) [a.AS.A4,a.AS.BC,a.AS.AN,a.AS.BH,a.AS.Af,a.AS.A5]) QA Z Z Z Z Z ⟨Z,Z,Z,Z,Z,Z,trivial⟩ Z Z) ?_);refine FE Z (Bd h λX t h=>vH (Qu (e:=(Qe .i64)) t QA EE (QS (i:=3))) ?_);exact FE Z (Gt 6 Z h 2 [4])
 refine Gc 6 Z (Cn Z h (λ_ h=>?_) (λ_ h=>?_))
 .refine Gc 8 Z (Cn Z h (λ_ h=>?_) (λ_ h=>?_))
  .refine Gc 6 Z (vH (Em (xs:=[.tmp 200,.const (.int .i64 1)]) (es:=map (Qe .i64) [a.Al.A4,1]) QA Z Z Z Z Z ⟨Z,Z,trivial⟩ Z Z) ?_);refine FE Z (Bd h λY x h=>vH (Qu (e:=(Qe .i64)) x QA EE (QS (i:=2))) ?_);exact FE Z (Gt 7 Z h 2 [3])
  refine Gc 8 Z (vH (Em (xs:=[.tmp 206,.const (.int .i64 0)]) (es:=map (Qe .i64) [a.Al.A4,0]) QA Z Z Z Z Z ⟨Z,Z,trivial⟩ Z Z) ?_);refine FE Z (Bd h λaa y h=>vH (Qu (e:=(Qe .i64)) y QA EE (QS (i:=2))) ?_);exact FE Z (Gt 6 Z h 2 [3])
 refine Gc 6 Z (Cn Z h (λ_ h=>?_) (λ_ h=>?_))
 .refine Gc 9 Z (vH (Em (xs:=[.tmp 214,.tmp 217]) (es:=map (Qe .i64) [a.BI.Au,a.BI.No]) QA Z Z Z Z Z ⟨Z,Z,trivial⟩ Z Z) ?_);refine FE Z (Bd h λab E h=>vH (Qu (e:=(Qe .i64)) E QA EE (QS (i:=2))) ?_);exact FE Z (Gt 6 Z h 2 [3])
 exact QG 10 Z h 2 [1]
def S2(n:Nat)(a:Int):AB Unit:=AC ()
theorem iq(a:Int):Kq (S2 n a) 250 [I a] [] (λ_=>.a [I 1,I a,.str [],.q 4 (map Value.enc [])]) (λ_=>[.c 292 [I 1,I a,.str [],.q 4 (map Value.enc [])]]):=by
 refine Kg 13 func250 Z Z Z Z λr h=>?_;obtain rfl:=Oi h;exact Rx [0] [2] Z (Q5 Z (Qf GD Gv Z Z Z)) ⟨Z,Z⟩
def R8(e:AA Int)(a:(AA AL)×Int):AB (Bn ((AA AL)×Int) (AA AL)):=(bif a.2<(AI e:Int) then AH (Bt e a.2) λd=>AH (S2 n d) λg=>AH (app a.1 [{AN:=1,N:=d,S:=[],L:=[]:AL}]) λf=>AC (.k (f,i64.wrap (a.2+1)))else AC (.d a.1))
def TZ(d:AA Int):AB (AA AL):=AH (iter (R8 n d) n ([],0):AB (AA AL)) λa=>AC a
theorem jS(u:AA Int):Kq (TZ n u) 221 [.q 1 (map (Qe .i64) u)] [] (λr=>.a [I 3,I 0,.str [],.o 0 (AI r) 4]) (λr=>[.r 292 4 (map Value.enc r),.c 292 [I 3,I 0,.str [],.o 0 (AI r) 4]]):=by
 refine Kg 7 func221 Z Z Z Z λr h=>?_;refine vX (.a [I 3,I 0,.str [],.n]) (Bz.build (zs:=[I 0,I 0,.str [],.n]) Gz (HI Z) pa) ?_;refine vH (f6 (v:=(.a [I 0,I 0,.str [],.n])) Gz (HI Z)) ?_;refine Fg 9 Z Z (Bd h λg w h=>Cg g [0,1,0] [2,3] Ze (λg=>[(1,.c 292 [I 3,I 0,.str [],.o 2 (AI g) 4]),(2,.r 292 4 (map Value.enc g))]) Zf ?_ ?_)
 .refine G0 1 Z (Lp [0,1,0] [0,2,3] (λd=>[(4,I d.2)]) (λd=>[(1,.c 292 [I 3,I 0,.str [],.o 2 (AI d.1) 4]),(2,.r 292 4 (map Value.enc d.1))]) w Zf ?_ ?_)
  .refine Ep (f_ (i:=1) (m:=3) (t:=292) (k:=4) Z Z Z) ?_;exact Lr [0,1,2]
  intro d y a j;refine G0 5 Z (Lg 3 Z Z (Q8 Z a (λ_ a=>?_) (λ_ a=>?_)))
  .exact Gc 2 Z (Qj a (Gx 1 Z (DM j a (Lr [0,1,2]))))
  refine Gc 4 Z (c_ 8 [6] [(0,0,1),(0,0,1),(0,0,0),(0,0,0),(0,0,0),(0,0,0),(1,0,0),(0,1,1)] (by kernel_rfl) (Dk 1 Z ?_));refine uR (lo:=0) (x:=.o 2 (AI d.1) 4) ⟨Z,trivial⟩ ?_;refine Dk 2 Z ?_;obtain⟨f,p,a⟩:=Q7 a;refine DK.wo (x:=.rp [I f]) ?_ ?_
  .exact Ix p EE EG Z Wp
  refine Dk 1 Z ?_;obtain⟨z,q,a⟩:=Q7 a;refine DK.op (x:=.a [I 1,I f,.str [],.q 4 (map Value.enc [])]) (X1:=[.c 292 (Value.c Uw),.c 292 [I 3,I 0,.str [],.o 2 (AI d.1) 4],.r 292 4 (map Value.enc d.1),.c 292 [I 1,I f,.str [],.q 4 (map Value.enc [])]]) ?_ ?_
  .refine Qs [] (DN.fn call250 Z Z Z) (iq _ _ _ q) ?_;rintro _ _ ⟨rfl,rfl⟩;exact FE Z Wp
  refine DK.wo (x:=.q 4 (map Value.enc [{AN:=1,N:=f,S:=[],L:=[]:AL}])) ?_ ?_
  .refine vH (YG (xs:=[.tmp 18]) (es:=[Value.c ({AN:=1,N:=f,S:=[],L:=[]:AL})]) d7 Z Z Z Z Z ⟨Z,trivial⟩ Z Z) ?_;refine Rm (x:=(.q 4 (map Value.enc [{AN:=1,N:=f,S:=[],L:=[]:AL}]))) (H:=[_,_,_,_]) (by simp[Y8]) Z ?_;exact Wp
  refine DK.done Z Z (Bd a λB s a=>?_);refine vH (Qu (e:=Value.enc) s d7 E4 PV) ?_;exact Fg 10 Z Z (Qg a (Lr [0,1,4]))
 refine Gc 7 Z ?_;obtain rfl:=Oi h;exact Rx [2,0] [2] Z (Q5 Z (Qf GD Gv Z Z Z)) ⟨Z,Z⟩
def SV(n:Nat)(d:AL)(rec252:AL->AB Bool)(a:Int):AB (Bn Int (Bn Unit Bool)):=(bif a<(AI d.L:Int) then AH (Bt d.L a) λe=>AH (rec252 e) λf=>(bif (!f)then AC (.d (.d AD))else AC (.k (i64.wrap (a+1))))else AC (.d (.k ())))
def Ov(rec252:AL->AB Bool)(n:Nat)(a:AL):AB Bool:=(bif (a.AN==1)then AH ((bif (a.S==[])then AC ((AI a.L:Int)==0)else AC AD):AB Bool) λg=>AC g else(bif (a.AN==2)then AH ((bif (a.N==0)then AC ((AI a.L:Int)==0)else AC AD):AB Bool) λh=>AC h else(bif (a.AN==3)then AH (iter (SV n a rec252) n 0:AB (Bn Unit Bool)) λe=>match e with|.k d=>(AH ((bif (a.N==0)then AC (a.S==[])else AC AD):AB Bool) λf=>AC f)|.d d=>AC d else AC AD)))
theorem QaY(rec252:AL->AB Bool)(f:∀(g:AL) (r:Bool),rec252 g=AC r->DE prog 262 [.a (Value.c g)] [] (λr=>.b r) r)(n:Nat)(g:AL)(r:Bool)(h:Ov rec252 n g=AC r):DE prog 262 [.a (Value.c g)] [] (λr=>.b r) r:=by
 refine QK func262 Z Z Z ?_;refine G0 20 Z (Cn Z h (λ_ h=>?_) (λ_ h=>?_))
 .refine Gc 1 Z (Bd h λp i h=>Ct p [] [] (λp=>[(2,.b p)]) Ze Zf ?_ (λenv H d=>?_))
  .refine G0 5 Z (Is 11 i Z (λ_ i=>?_) (λ_ i=>?_))
   .exact Go 2 Z (Lm Z (Gl 4 Z i []))
   .exact Gl 7 Z i []
  exact Gx 1 Z (Eg d (QG 3 Z h 2 []))
 refine Gc 6 Z (Cn Z h (λ_ h=>?_) (λ_ h=>?_))
 .refine Gc 1 Z (Bd h λq j h=>Ct q [] [] (λq=>[(2,.b q)]) Ze Zf ?_ (λenv H d=>?_))
  .refine G0 5 Z (Is 22 j Z (λ_ j=>?_) (λ_ j=>?_))
   .exact Go 2 Z (Lm Z (Gl 4 Z j []))
   .exact Gl 7 Z j []
  exact Gx 1 Z (Eg d (QG 3 Z h 2 []))
 refine Gc 6 Z (Cn Z h (λ_ h=>?_) (λ_ h=>?_))
 .refine Gc 6 Z (Bd h λF G h=>FI (b:=F) [0] [1] Ze Ze Zf ?_ (λM env H J d=>?_))
  .refine G0 1 Z (Lp [0] [1] (λm=>[(3,I m)]) Ze G Zf (Lr [0]) λm O a k=>?_);refine G0 6 Z (Lg 3 Z Z (Q8 Z a (λ_ a=>?_) (λ_ a=>?_)))
   .exact Gc 2 Z (Qj a (Gx 1 Z (Ji k a Z (Lr [0]))))
   refine Gc 9 Z (Bd a λL w a=>Fm w (Y8 L) Z (Go 1 Z (Cz [] a (f _) Z λP N a=>Go 3 Z (Cn Z a (λ_ a=>?_) (λ_ a=>?_)))))
   .refine Gc 8 Z (Qv a ?_);obtain rfl:=Oj k a;exact Gx 1 Z (Qq (Gx 3 Z (Rt h 2 [])))
   exact Gc 8 Z (Qg a (Lr [0]))
  subst J;refine Gx 1 Z (Eg d (Gc 1 Z (Bd h λl e h=>Cg l [] [] (λl=>[(2,.b l)]) Ze Zf ?_ ?_)))
  .refine G0 5 Z (Is 47 e Z (λ_ e=>?_) (λ_ e=>?_))
   iterate 2 exact Gl 6 Z e []
  exact QG 3 Z h 2 []
 exact QG 9 Z h 2 []
def KK:Nat->AL->AB Bool
  |0=>λ_=>AF
  |n+1=>Ov (KK n) n
theorem kY:∀(a:AL) (r:Bool),KK n a=AC r->DE prog 262 [.a (Value.c a)] [] (λr=>.b r) r:=by
  induction n with
  |zero=>intro a r h;cases h
  |succ n ih=>intro a r h;exact QaY _ ih n a r h
def SE(n:Nat)(e:AL)(rec253:AL->AB Int)(a:Int×Int):AB (Bn (Int×Int) Int):=(bif a.2<(AI e.L:Int) then AH (Bt e.L a.2) λf=>AH (rec253 f) λd=>AC (.k ((if a.1<d then d else a.1),i64.wrap (a.2+1)))else AC (.d a.1))
def Ow(rec253:AL->AB Int)(n:Nat)(a:AL):AB Int:=(bif (a.AN != 3)then AC 0 else AH (iter (SE n a rec253) n (0,0):AB Int) λd=>AC (i64.wrap (d+1)))
theorem Qbc(rec253:AL->AB Int)(e:∀(f:AL) (r:Int),rec253 f=AC r->DE prog 263 [.a (Value.c f)] [] (λr=>I r) r)(n:Nat)(f:AL)(r:Int)(h:Ow rec253 n f=AC r):DE prog 263 [.a (Value.c f)] [] (λr=>I r) r:=by
 refine QK func263 Z Z Z ?_;refine G0 14 Z (Cn Z h (λ_ h=>?_) (λ_ h=>?_))
 .exact QG 7 Z h 2 []
 refine Gc 13 Z (Bd h λi p h=>Cg i [] [] (λi=>[(3,I i)]) Ze Zf ?_ ?_)
 .refine G0 1 Z (Lp [0] [1] (λd=>[(3,I d.1),(4,I d.2)]) Ze p Zf (Lr [0]) λd t a j=>?_);refine G0 6 Z (Lg 3 Z Z (Q8 Z a (λ_ a=>?_) (λ_ a=>?_)))
  .exact Gc 2 Z (Qj a (Gx 1 Z (DM j a (Lr []))))
  refine Gc 9 Z (Bd a λq l a=>Fm l (Y8 q) Z (Go 1 Z (Cz [] a (e _) Z λg s a=>?_)));refine vX (I (if d.1<g then g else d.1)) (Bz.max Z Z Z Z) ?_;exact Go 9 Z (Qg a (Lr [0]))
 exact QG 8 Z h 2 []
def KL:Nat->AL->AB Int
  |0=>λ_=>AF
  |n+1=>Ow (KL n) n
theorem kb:∀(a:AL) (r:Int),KL n a=AC r->DE prog 263 [.a (Value.c a)] [] (λr=>I r) r:=by
  induction n with
  |zero=>intro a r h;cases h
  |succ n ih=>intro a r h;exact Qbc _ ih n a r h
def cG(a:AL):AB Int:=AH (KK n a) λd=>(bif (!d)then AC 1 else AH (KL n a) λe=>(bif 16<e then AC 2 else AC 0))
theorem gw(a:AL):Ks (cG n a) 248 [.a (Value.c a)] [] (λr=>I r):=by
 refine Kg 10 func248 Z Z Z Z λr h=>Cz [] h (kY _ _) Z λi f h=>Go 3 Z (Cn Z h (λ_ h=>?_) (λ_ h=>?_))
 .exact QG 7 Z h 2 []
 refine Gc 6 Z (Cz [] h (kb _ _) Z λj g h=>Go 3 Z (Cn Z h (λ_ h=>?_) (λ_ h=>?_)))
 .exact QG 7 Z h 2 []
 exact QG 8 Z h 2 []
def OK(n:Nat)(a:Int):AB Int:=(bif 0<=a then AC (u64.wrap (2*(u64.wrap a)))else AC (u64.wrap ((u64.wrap (2*(u64.wrap (i64.wrap (0-(i64.wrap (a+1)))))))+1)))
theorem j8(a:Int):Ks (OK n a) 265 [I a] [] (λr=>.i .u64 r):=by
 refine Kg 12 func265 Z Z Z Z λr h=>Cn Z h (λ_ h=>?_) (λ_ h=>?_)
 .refine Gc 3 Z ?_;refine vX (.i .u64 (u64.wrap a)) (YB Z EO EP Z) ?_;exact Gt 6 Z h 2 []
 refine Gc 7 Z ?_;refine vV (x:=(.i .u64 (u64.wrap (i64.wrap (0-(i64.wrap (a+1))))))) (YB Z EO EP Z) ?_;exact Gt 6 Z h 2 []
def U3(rec256:Int->AB (AA Int))(n:Nat)(a:Int):AB (AA Int):=(bif a<128 then AC [u8.wrap a]else AH (rec256 (u64.wrap (Int.tdiv a 128))) λd=>AH (app [u8.wrap (u64.wrap ((Int.tmod a 128)+128))] d) λe=>AC e)
theorem QaN(rec256:Int->AB (AA Int))(d:∀(a:Int) (r:AA Int),rec256 a=AC r->C prog 264 [.i .u64 a] [] (RQ (λr=>.o 0 (AI r) 1) (λr=>[.r 5 1 (map (Qe .u8) r)]) r))(n:Nat)(a:Int)(r:AA Int)(h:U3 rec256 n a=AC r):C prog 264 [.i .u64 a] [] (RQ (λr=>.o 0 (AI r) 1) (λr=>[.r 5 1 (map (Qe .u8) r)]) r):=by
 refine QK func264 Z Z Z ?_;refine G0 12 Z (Cn Z h (λ_ h=>?_) (λ_ h=>?_))
 .refine Gc 3 Z ?_;refine vX (.i .u8 (u8.wrap a)) (YB Z EP E6 Z) ?_;refine vH (Em (xs:=[.tmp 6]) (es:=map (Qe .u8) [u8.wrap a]) YI Z Z Z Z Z ⟨Z,trivial⟩ Z Z) ?_;exact FE Z (Gt 5 Z h 2 [0])
 refine Gc 5 Z ?_;refine vX (.i .u64 (Int.tmod a 128)) (Bz.rem Z Z Z (by decide)) ?_;refine Go 1 Z ?_;refine vV (x:=(.i .u8 (u8.wrap (u64.wrap ((Int.tmod a 128)+128))))) (YB Z EP E6 Z) ?_;refine vH (Em (xs:=[.tmp 11]) (es:=map (Qe .u8) [u8.wrap (u64.wrap ((Int.tmod a 128)+128))]) YI Z Z Z Z Z ⟨Z,trivial⟩ Z Z) ?_;refine Fg 1 Z Z ?_;refine vX (.i .u64 (u64.wrap (Int.tdiv a 128))) (Bz.quo Z Z Z (by decide)) ?_;refine Cd [] h (d _) Z λk j h=>FE Z (Bd h λl g h=>vH (Qu (e:=(Qe .u8)) g YI EM (QS (i:=1))) ?_);exact FE Z (Gt 4 Z h 2 [2])
def Pq:Nat->Int->AB (AA Int)
  |0=>λ_=>AF
  |n+1=>U3 (Pq n) n
theorem oX:∀(a:Int) (r:AA Int),Pq n a=AC r->C prog 264 [.i .u64 a] [] (RQ (λr=>.o 0 (AI r) 1) (λr=>[.r 5 1 (map (Qe .u8) r)]) r):=by
  induction n with
  |zero=>intro a r h;cases h
  |succ n ih=>intro a r h;exact QaN _ ih n a r h
def NB(n:Nat)(d:AL)(rec254:AL->AB (AA Int))(a:(AA Int)×Int):AB (Bn ((AA Int)×Int) (AA Int)):=(bif a.2<(AI d.L:Int) then AH (Bt d.L a.2) λe=>AH (rec254 e) λf=>AH (app a.1 f) λg=>AC (.k (g,i64.wrap (a.2+1)))else AC (.d a.1))
def U2(rec254:AL->AB (AA Int))(n:Nat)(a:AL):AB (AA Int):=(bif (a.AN==1)then AH (OK n a.N) λe=>AH (Pq n e) λf=>AH (app [1] f) λg=>AC g else(bif (a.AN==2)then AF else AH (Pq n (u64.wrap (AI a.L:Int))) λh=>AH (app [3] h) λi=>AH (iter (NB n a rec254) n (i,0):AB (AA Int)) λd=>AC d))
theorem QaX(rec254:AL->AB (AA Int))(g:∀(j:AL) (r:AA Int),rec254 j=AC r->C prog 249 [.a (Value.c j)] [] (RQ (λr=>.o 0 (AI r) 1) (λr=>[.r 5 1 (map (Qe .u8) r)]) r))(n:Nat)(j:AL)(r:AA Int)(h:U2 rec254 n j=AC r):C prog 249 [.a (Value.c j)] [] (RQ (λr=>.o 0 (AI r) 1) (λr=>[.r 5 1 (map (Qe .u8) r)]) r):=by
 refine QK func249 Z Z Z ?_;refine G0 20 Z (Cn Z h (λ_ h=>?_) (λ_ h=>?_))
 .refine Gc 2 Z (vH (Em (xs:=[.const (.int .u8 1)]) (es:=map (Qe .u8) [1]) YI Z Z Z Z Z ⟨Z,trivial⟩ Z Z) ?_);refine Fg 2 Z Z (Cz [] h (j8 _ _) Z λJ z h=>Cd [] h (oX _ _) Z λM B h=>FE Z (Bd h λN s h=>vH (Qu (e:=(Qe .u8)) s YI EM (QS (i:=2))) ?_));exact FE Z (Gt 6 Z h 2 [3])
 refine Gc 6 Z (Cn Z h (λ_ h=>?_) (λ_ h=>?_))
 .refine Gc 1 Z ?_;cases h
 refine Gc 5 Z (vH (Em (xs:=[.const (.int .u8 3)]) (es:=map (Qe .u8) [3]) YI Z Z Z Z Z ⟨Z,trivial⟩ Z Z) ?_);refine Fg 2 Z Z (Lm Z ?_);refine vX (.i .u64 (u64.wrap (AI j.L:Int))) (YB Z EO EP Z) ?_;refine Cd [] h (oX _ _) Z λO E h=>FE Z (Bd h λP u h=>vH (Qu (e:=(Qe .u8)) u YI EM (QS (i:=2))) ?_);refine Fg 9 Z Z (Bd h λd w h=>Cg d [1] [] (λd=>[(3,.o 0 (AI d) 1)]) (λd=>[(0,.r 5 1 (map (Qe .u8) d))]) Zf ?_ ?_)
 .refine G0 1 Z (Lp [0,3] [1] (λf=>[(3,.o 1 (AI f.1) 1),(4,I f.2)]) (λf=>[(1,.r 5 1 (map (Qe .u8) f.1))]) w Zf (Lr [0,3]) λf F a k=>?_);refine G0 6 Z (Lg 3 Z Z (Q8 Z a (λ_ a=>?_) (λ_ a=>?_)))
  .exact Gc 2 Z (Qj a (Gx 1 Z (DM k a (Lr [1]))))
  refine Gc 9 Z (Bd a λx m a=>Fm m (Y8 x) Z (Go 1 Z (Cd [] a (g _) Z λG y a=>FE Z (Bd a λH p a=>vH (Qu (e:=(Qe .u8)) p YI EM (QS (i:=2))) ?_))));exact Fg 9 Z Z (Qg a (Lr [0,3]))
 exact QG 7 Z h 2 [0]
def Pp:Nat->AL->AB (AA Int)
  |0=>λ_=>AF
  |n+1=>U2 (Pp n) n
theorem uZ:∀(a:AL) (r:AA Int),Pp n a=AC r->C prog 249 [.a (Value.c a)] [] (RQ (λr=>.o 0 (AI r) 1) (λr=>[.r 5 1 (map (Qe .u8) r)]) r):=by
  induction n with
  |zero=>intro a r h;cases h
  |succ n ih=>intro a r h;exact QaX _ ih n a r h
def cA(a:AL):AB ((AA Int)×Int):=AH (cG n a) λd=>(bif (d != 0)then AC ([],d)else AH (Pp n a) λe=>AC (e,0))
theorem gq(a:AL):Kq (cA n a) 220 [.a (Value.c a)] [] (λr=>.t [.o 0 (AI r.1) 1,I r.2]) (λr=>[.r 5 1 (map (Qe .u8) r.1)]):=by
 refine Kg 10 func220 Z Z Z Z λr h=>Cz [] h (gw _ _) Z λg e h=>Go 10 Z (Cn Z h (λ_ h=>?_) (λ_ h=>?_))
 .refine Gc 9 Z ?_;obtain rfl:=Oi h;refine R2 2 3 Z Z ?_;refine Ep (Eu (s:=2) (k:=1) (t:=5) (XS Z) Z) ?_;exact Lr [1]
 refine Gc 5 Z (Cd [] h (uZ _ _) Z λi f h=>Fg 5 Z Z ?_);obtain rfl:=Oi h;exact R2 2 3 Z Z (Lr [1])
def Od(a:Bm):AB ((AA Int)×Int):=AH (Ls n a) λe=>(bif (e != 0)then AC ([],120)else AH (N_ n a) λf=>AH (TZ n f) λg=>AH (cA n ({AN:=3,N:=0,S:=[],L:=g:AL})) λd=>AC (d.1,d.2))
theorem We(a:Bm):Kq (Od n a) 163 [.a (Bm.c a)] [] (λr=>.t [.o 0 (AI r.1) 1,I r.2]) (λr=>[.r 5 1 (map (Qe .u8) r.1)]):=by
 refine Kg 11 func163 Z Z Z Z λr h=>Cz [] h (Wo _ _) Z λj e h=>Go 3 Z (Cn Z h (λ_ h=>?_) (λ_ h=>?_))
 .refine Gc 8 Z ?_;obtain rfl:=Oi h;refine R2 2 3 Z Z ?_;refine Ep (Eu (s:=2) (k:=1) (t:=5) (XS Z) Z) ?_;exact Lr [1]
 refine Gc 5 Z (Cd [] h (ju _ _) Z λl f h=>FE Z ?_);refine Ew (Ku [(8,_)] Z Z (Fc.cons Z Et Fc.nil) (Ec (Ec (KZ _)))) ?_;refine Cd [] h (jS _ _) Z λm g h=>FE Z ?_;refine Ew (Ku [(9,_)] Z Z (Fc.cons Z (D9.agg (Ee (Ef _) (Ee (Ef _) (Ee (Ef _) (Ee Et (El _)))))) Fc.nil) (Ec (Ec (Ec (FT.cells (Ee (Ef _) (Ee (Ef _) (Ee (Ef _) (Ee Et (El _))))) (KZ _)))))) ?_;refine Cd [] h (gq _ _) Z λp i h=>Fg 7 Z Z ?_;obtain rfl:=Oi h;exact R2 2 3 Z Z (Lr [4])
def LU(n:Nat)(d:Bm)(e:Bm)(a:Int):AB (Bn Int (Bn Unit Int)):=(bif a<3 then AH (Bt [d.At,d.Au,d.No] a) λf=>AH (Bt [e.At,e.Au,e.No] a) λg=>(bif f<g then AC (.d (.d (-1)))else AH (Bt [d.At,d.Au,d.No] a) λh=>AH (Bt [e.At,e.Au,e.No] a) λi=>(bif i<h then AC (.d (.d 1))else AC (.k (i64.wrap (a+1)))))else AC (.d (.k ())))
def Nv(f:Bm)(g:Bm):AB Int:=AH (iter (LU n f g) n 0:AB (Bn Unit Int)) λh=>match h with|.k a=>(AH (Od n f) λd=>AH (Od n g) λe=>(bif Op.bytesLess (map Yd d.1) (map Yd e.1)then AC (-1)else(bif (!(Op.bytesLess (map Yd d.1) (map Yd e.1)||(map Yd d.1)==(map Yd e.1)))then AC 1 else AC 0)))|.d a=>AC a
theorem jf(j:Bm)(k:Bm):Ks (Nv n j k) 89 [.a (Bm.c j),.a (Bm.c k)] [] (λr=>I r):=by
 refine Kg 15 func89 Z Z Z Z λr h=>vH (Em (xs:=[.tmp 13,.tmp 15,.tmp 17]) (es:=map (Qe .i64) [j.At,j.Au,j.No]) QA Z Z Z Z Z ⟨Z,Z,Z,trivial⟩ Z Z) ?_;refine Fg 11 Z Z (vH (Em (xs:=[.tmp 20,.tmp 22,.tmp 24]) (es:=map (Qe .i64) [k.At,k.Au,k.No]) QA Z Z Z Z Z ⟨Z,Z,Z,trivial⟩ Z Z) ?_);refine Fg 9 Z Z (Bd h λB E h=>DF (b:=B) [0,1] [2,3] Ze Ze Zf ?_ (λ_ F=>?_))
 .refine G0 1 Z (Lp [0,1,2,3] [2,3,5,6] (λd=>[(7,I d)]) Ze E Zf (Lr [0,1,2,3]) λd P a g=>?_);refine G0 7 Z (Q8 Z a (λ_ a=>?_) (λ_ a=>?_))
  .exact Gc 2 Z (Qj a (Gx 1 Z (Ji g a Z (Lr [0,1]))))
  refine Gc 6 Z (C5 8 Z (D 2 Z ?_));obtain⟨G,m,a⟩:=Q7 a;refine DS.v (x:=(.p 2 (toNat d*1))) (Qk m Z EE EG) ?_;refine DS.v (x:=(I G)) (EC Z EK Z (Ql m)) ?_;refine D 2 Z ?_;obtain⟨H,p,a⟩:=Q7 a;refine DS.v (x:=(.p 3 (toNat d*1))) (Qk p Z EE EG) ?_;refine DS.v (x:=(I H)) (EC Z EK Z (Ql p)) ?_;refine Ei Z (Go 3 Z (Cn Z a (λ_ a=>?_) (λ_ a=>?_)))
  .refine Gc 9 Z (Qv a ?_);obtain rfl:=Oj g a;exact Gx 1 Z (Qq (Gx 1 Z (Rt h 4 [])))
  refine Gc 3 Z (C5 8 Z (D 2 Z ?_));obtain⟨J,q,a⟩:=Q7 a;refine DS.v (x:=(.p 2 (toNat d*1))) (Qk q Z EE EG) ?_;refine DS.v (x:=(I J)) (EC Z EK Z (Ql q)) ?_;refine D 2 Z ?_;obtain⟨L,s,a⟩:=Q7 a;refine DS.v (x:=(.p 3 (toNat d*1))) (Qk s Z EE EG) ?_;refine DS.v (x:=(I L)) (EC Z EK Z (Ql s)) ?_;refine Ei Z (Go 3 Z (Cn Z a (λ_ a=>?_) (λ_ a=>?_)))
  .refine Gc 8 Z (Qv a ?_);obtain rfl:=Oj g a;exact Gx 1 Z (Qq (Gx 1 Z (Rt h 4 [])))
  exact Gc 8 Z (Qg a (Lr [0,1,2,3]))
 subst F;refine Gc 3 Z (Cd [] h (We _ _) Z λe N h=>Fg 10 Z Z (Cd [] h (We _ _) Z λf O h=>Fg 11 Z Z ?_));refine vX (.str (map Yd e.1)) (ft (l:=e.1) (H8.row (i:=2)) EM E6 EJ) ?_;refine Go 1 Z ?_;refine vX (.str (map Yd f.1)) (ft (l:=f.1) (H8.row (i:=3)) EM E6 EJ) ?_;refine Go 3 Z (Cn Z h (λ_ h=>?_) (λ_ h=>?_))
 .exact QG 7 Z h 4 []
 refine Gc 6 Z ?_;refine vX (.str (map Yd e.1)) (ft (l:=e.1) (H8.row (i:=2)) EM E6 EJ) ?_;refine Go 1 Z ?_;refine vX (.str (map Yd f.1)) (ft (l:=f.1) (H8.row (i:=3)) EM E6 EJ) ?_;refine vX (.b (!(Op.bytesLess (map Yd e.1) (map Yd f.1)||(map Yd e.1)==(map Yd f.1)))) (yI Z Z Z) ?_;refine Go 2 Z (Cn Z h (λ_ h=>?_) (λ_ h=>?_))
 .exact QG 7 Z h 4 []
 exact QG 8 Z h 4 []
def J7(i:AA Bm)(d:(AA Bm)×Int)(a:Int):AB (Bn Int Int):=AH ((bif a<(AI d.1:Int) then AH (Bt d.1 a) λe=>AH (Bt i d.2) λf=>AH (Nv n e f) λg=>AC (AG (g<0))else AC AD):AB Bool) λh=>(bif h then AC (.k (i64.wrap (a+1)))else AC (.d a))
def SL(e:AA Bm)(a:(AA Bm)×Int):AB (Bn ((AA Bm)×Int) (AA Bm)):=(bif a.2<(AI e:Int) then AH (AH (Bt e a.2) λf=>AH (Ls n f) λg=>(bif (g != 0)then AC a.1 else AH (iter (J7 n e a) n 0:AB Int) λd=>AH ((bif d<(AI a.1:Int) then AH (Bt a.1 d) λh=>AH (Bt e a.2) λi=>AC (h==i)else AC AD):AB Bool) λj=>(bif j then AC a.1 else AH (E_ a.1 0 d) λk=>AH (app ([]:AA Bm) k) λl=>AH (Bt e a.2) λm=>AH (app l [m]) λp=>AH (E_ a.1 d (AI a.1:Int)) λq=>AH (app p q) λr=>AC r)):AB (AA Bm)) λs=>AC (.k (s,i64.wrap (a.2+1)))else AC (.d a.1))
def Lq(d:AA Bm):AB (AA Bm):=AH (iter (SL n d) n (([]:AA Bm),0):AB (AA Bm)) λa=>AC a
theorem Wn(R:AA Bm):Kq (Lq n R) 49 [.q 57 (map Bm.c R)] [] (λr=>.o 0 (AI r) 57) (λr=>[.r 88 57 (map Bm.c r)]):=by
 refine Kg 7 func49 Z Z Z Z λr h=>vH (Em (xs:=[]) (es:=map Bm.c []) MJ Z Z Z Z Z trivial Z Z) ?_;refine Fg 9 Z Z (Bd h λw aj h=>Cg w [0] [] (λw=>[(3,.o 0 (AI w) 57)]) (λw=>[(0,.r 88 57 (map Bm.c w))]) Zf ?_ ?_)
 .refine G0 1 Z (Lp [0] [0] (λi=>[(3,.o 0 (AI i.1) 57),(4,I i.2)]) (λi=>[(0,.r 88 57 (map Bm.c i.1))]) aj Zf (Lr [0]) λi ao s T=>?_);refine G0 5 Z (Lg 3 Z Z (Q8 Z s (λ_ s=>?_) (λ_ s=>?_)))
  .exact Gc 2 Z (Qj s (Gx 1 Z (DM T s (Lr [0]))))
  refine Gc 3 Z (Bd s λy g s=>Cg y [0] [0,4] (λy=>[(3,.o 0 (AI y) 57)]) (λy=>[(0,.r 88 57 (map Bm.c y))]) Zf ?_ ?_)
  .refine G0 6 Z (Bd g λaq W g=>Iz W Z (Go 1 Z (Cz [] g (Wo _ _) Z λar am g=>Go 3 Z (Cn Z g (λ_ g=>?_) (λ_ g=>?_)))))
   .exact Yy 3 Z g [0]
   refine Gc 8 Z (Bd g λj ak g=>Ct j [0] [0,3,4] (λj=>[(5,I j)]) Ze Zf ?_ (λenv H O=>?_))
   .refine G0 1 Z (Lp [0] [0,3,4] (λF=>[(5,I F)]) Ze ak Zf (Lr [0]) λF au t Y=>?_);refine G0 2 Z (Bd t λG k t=>Ct G [0] [0,3,4,5] (λG=>[(34,.b G)]) Ze Zf ?_ (λenv H O=>?_))
    .refine G0 0 Z (C5 13 Z (D 5 Z (Y3 4 k Z Z Z (λ_ k=>?_) (λ_ k=>?_))))
     .refine D 2 Z ?_;obtain⟨al,M,k⟩:=Q7 k;refine DS.v (x:=(.p 0 (toNat F*57))) (Qk M Z EF EH) ?_ (hg:=(gT Z));refine DS.v (x:=(.a (Bm.c al))) (QI Z E8 EH Z (Ql M) Z Z) ?_ (hg:=(gT Z));refine D 2 Z ?_;obtain⟨f,ab,k⟩:=Q7 k;refine DS.v (x:=(.rp [I f.Au,I f.No,I f.At,I f.AN,I f.AW.BH,I f.AW.AQ,I f.AW.A',I f.AW.Bb,I f.AW.Bi,I f.AW.BJ,I f.AW.Bc,I f.AW.Bh,I f.Az.Ag,I f.Az.AT,I f.Az.BJ,I f.Az.Av,I f.AO.Ag,I f.AO.AT,I f.AO.Av,I f.AO.True,I f.AO.BX,I f.AV.BE,I f.AV.A2,I f.AV.A1,I f.AV.BF,I f.AV.A3,I f.AV.Ay,I f.AV.BQ,I f.AV.BO,I f.A0.BH,I f.A0.Af,I f.A0.Lo,I f.A0.Hi,I f.Ab.Ag,I f.Ab.AT,I f.Ab.Lo,I f.Ab.Hi,I f.BA.A,I f.BA.B,I f.Aj.A4,I f.Aj.BH,I f.Aj.Ah,I f.Aj.Af,I f.Ad.A4,I f.Ad.By,I f.Ad.Be,I f.Ad.Ba,I f.AS.A4,I f.AS.BC,I f.AS.AN,I f.AS.BH,I f.AS.Af,I f.AS.A5,I f.Al.A4,.b f.Al.A_,I f.BI.Au,I f.BI.No])) (UN (e:=Bm.c) (l:=R) (v:=f) ab EF EH) ?_ (hg:=(gT Z));exact D 1 Z (Ei Z (Cz [] k (jf _ _ _) Z λav an k=>Gl 3 Z k [0]))
     .exact D 8 Z (Ei Z (Gl 4 Z k [0]))
    refine Gx 1 Z (Eg O (Q8 Z t (λ_ t=>?_) (λ_ t=>?_)))
    .exact Gc 2 Z (Qj t (Gx 1 Z (DM Y t (Lr [0]))))
    exact Gc 9 Z (Qg t (Lr [0]))
   refine Gx 1 Z (Eg O (Gc 2 Z (Bd g λJ m g=>Cg J [0] [0,3,4,5] (λJ=>[(51,.b J)]) Ze Zf ?_ ?_)))
   .refine G0 0 Z (C5 13 Z (D 5 Z (Y3 4 m Z Z Z (λ_ m=>?_) (λ_ m=>?_))))
    .refine D 2 Z ?_;obtain⟨L,N,m⟩:=Q7 m;refine DS.v (x:=(.p 0 (toNat j*57))) (Qk N Z EF EH) ?_ (hg:=(gT Z));refine DS.v (x:=(.a (Bm.c L))) (QI Z E8 EH Z (Ql N) Z Z) ?_ (hg:=(gT Z));refine D 2 Z ?_;obtain⟨d,ae,m⟩:=Q7 m;refine DS.v (x:=(.rp [I d.Au,I d.No,I d.At,I d.AN,I d.AW.BH,I d.AW.AQ,I d.AW.A',I d.AW.Bb,I d.AW.Bi,I d.AW.BJ,I d.AW.Bc,I d.AW.Bh,I d.Az.Ag,I d.Az.AT,I d.Az.BJ,I d.Az.Av,I d.AO.Ag,I d.AO.AT,I d.AO.Av,I d.AO.True,I d.AO.BX,I d.AV.BE,I d.AV.A2,I d.AV.A1,I d.AV.BF,I d.AV.A3,I d.AV.Ay,I d.AV.BQ,I d.AV.BO,I d.A0.BH,I d.A0.Af,I d.A0.Lo,I d.A0.Hi,I d.Ab.Ag,I d.Ab.AT,I d.Ab.Lo,I d.Ab.Hi,I d.BA.A,I d.BA.B,I d.Aj.A4,I d.Aj.BH,I d.Aj.Ah,I d.Aj.Af,I d.Ad.A4,I d.Ad.By,I d.Ad.Be,I d.Ad.Ba,I d.AS.A4,I d.AS.BC,I d.AS.AN,I d.AS.BH,I d.AS.Af,I d.AS.A5,I d.Al.A4,.b d.Al.A_,I d.BI.Au,I d.BI.No])) (UN (e:=Bm.c) (l:=R) (v:=d) ae EF EH) ?_ (hg:=(gT Z));refine D 1 Z (Ei Z ?_);refine vX (.b (L==d)) (fp (p:=L) (q:=d) d8 Z Z) ?_ (gT Z);exact Gl 2 Z m [0]
    .exact D 8 Z (Ei Z (Gl 3 Z m [0]))
   refine Cn Z g (λ_ g=>?_) (λ_ g=>?_)
   .exact Yy 3 Z g [0]
   refine Gc 2 Z (c_ 14 [0,4,10] [(1,0,0),(0,0,1),(0,0,1),(0,0,1),(1,1,0),(0,0,2),(0,0,2),(0,0,2),(0,0,2),(0,0,2),(1,2,0),(0,0,3),(0,0,3),(0,0,3)] (by kernel_rfl) ?_);refine DK.op (x:=.o 1 (AI ([]:AA Bm)) 57) (X1:=[.r 88 57 (map Bm.c i.1),.r 88 57 (map Bm.c ([]:AA Bm))]) ?_ ?_
   .refine vH (Em (xs:=[]) (es:=map Bm.c []) MJ Z Z Z Z Z trivial Z Z) ?_;exact FE Z Wp
   refine Dk 2 Z ?_;obtain⟨aw,z,g⟩:=Q7 g;refine Zu (lo:=0) (hi:=1) (x:=.s 0 (0+toNat 0) (toNat j-toNat 0) 57) ⟨?_,?_,trivial⟩ ?_
   iterate 2 refine vX (.s 0 (0+toNat 0) (toNat j-toNat 0) 57) (Y1 (l:=i.1) z EF EH (.inl ⟨Z,Z⟩) (.inr ⟨_,Z,Z⟩)) ?_;exact Wp
   obtain⟨P,ag,g⟩:=Q7 g;refine DK.op (x:=.o 2 (AI P) 57) (X1:=[.r 88 57 (map Bm.c i.1),.dead,.r 88 57 (map Bm.c P)]) ?_ ?_
   .refine vH (Qu (e:=Bm.c) ag MJ EF (lU (b:=0) z)) ?_;exact FE Z Wp
   refine Dk 2 Z ?_;obtain⟨a,E,g⟩:=Q7 g;refine Zu (lo:=0) (hi:=2) (x:=.rp [I a.Au,I a.No,I a.At,I a.AN,I a.AW.BH,I a.AW.AQ,I a.AW.A',I a.AW.Bb,I a.AW.Bi,I a.AW.BJ,I a.AW.Bc,I a.AW.Bh,I a.Az.Ag,I a.Az.AT,I a.Az.BJ,I a.Az.Av,I a.AO.Ag,I a.AO.AT,I a.AO.Av,I a.AO.True,I a.AO.BX,I a.AV.BE,I a.AV.A2,I a.AV.A1,I a.AV.BF,I a.AV.A3,I a.AV.Ay,I a.AV.BQ,I a.AV.BO,I a.A0.BH,I a.A0.Af,I a.A0.Lo,I a.A0.Hi,I a.Ab.Ag,I a.Ab.AT,I a.Ab.Lo,I a.Ab.Hi,I a.BA.A,I a.BA.B,I a.Aj.A4,I a.Aj.BH,I a.Aj.Ah,I a.Aj.Af,I a.Ad.A4,I a.Ad.By,I a.Ad.Be,I a.Ad.Ba,I a.AS.A4,I a.AS.BC,I a.AS.AN,I a.AS.BH,I a.AS.Af,I a.AS.A5,I a.Al.A4,.b a.Al.A_,I a.BI.Au,I a.BI.No]) ⟨?_,?_,?_,trivial⟩ ?_
   iterate 3 exact Ix E EF EH Z Wp
   refine Dk 1 Z ?_;refine Zu (lo:=0) (hi:=2) (x:=.q 57 (map Bm.c [a])) ⟨?_,?_,?_,trivial⟩ ?_
   iterate 3 refine vH (YG (xs:=[.tmp 60]) (es:=map Bm.c [a]) MJ Z Z Z Z Z ⟨Z,trivial⟩ Z Z) ?_;exact FE Z Wp
   obtain⟨Q,ah,g⟩:=Q7 g;refine DK.op (x:=.o 3 (AI Q) 57) (X1:=[.r 88 57 (map Bm.c i.1),.dead,.dead,.r 88 57 (map Bm.c Q)]) ?_ ?_
   .refine vH (Qu (e:=Bm.c) ah MJ EF PV) ?_;exact FE Z Wp
   refine Dk 2 Z ?_;obtain⟨ax,u,g⟩:=Q7 g;refine Zu (lo:=0) (hi:=3) (x:=.s 0 (0+toNat j) (toNat (AI i.1:Int)-toNat j) 57) ⟨?_,?_,?_,?_,trivial⟩ ?_
   iterate 4 refine vX (.s 0 (0+toNat j) (toNat (AI i.1:Int)-toNat j) 57) (Y1 (l:=i.1) u EF EH (.inr ⟨_,Z,Z⟩) (.inl ⟨Z,Z⟩)) ?_;exact Wp
   refine DK.done Z Z (Bd g λay ai g=>?_);refine vH (Qu (e:=Bm.c) ai MJ EF (lU (b:=0) u)) ?_;exact FE Z (Gl 3 Z g [4])
  exact Gc 5 Z (Qg s (Lr [0]))
 exact QG 7 Z h 2 [0]
def Pi(n:Nat)(d:Bl)(a:Int):AB Bool:=AH ((bif 0<=a then AC (AG (a<(AI d.Ar:Int)))else AC AD):AB Bool) λb2=>AC b2
theorem WT(d:Bl)(e:Int):Ks (Pi n d e) 32 [.a (Bl.c d),I e] [] (λr=>.b r):=by
 refine Kg 7 func32 Z Z Z Z λr h=>Bd h λb2 a h=>Cg b2 [] [] (λb2=>[(4,.b b2)]) Ze Zf ?_ ?_
 .refine G0 4 Z (Is 7 a Z (λ_ a=>?_) (λ_ a=>?_))
  .exact Go 3 Z (Lm Z (Gl 4 Z a []))
  .exact Gl 8 Z a []
 exact QG 1 Z h 4 []
def Ln(n:Nat)(a:Bl)(d:Int):AB Bool:=AH (Bt a.Ar d) λe=>AC (e.AN==1)
theorem Wm(a:Bl)(d:Int):Ks (Ln n a d) 68 [.a (Bl.c a),I d] [] (λr=>.b r):=by
 exact Kg 11 func68 Z Z Z Z λr h=>Bd h λf e h=>Iz e Z (Gt 7 Z h 4 [])
def Ll(n:Nat)(a:Bk)(d:Bk):AB Bool:=AH ((bif a.Ag<d.Ag then AC AE else(bif (a.Ag==d.Ag)then AC (AG (a.AT<d.AT))else AC AD)):AB Bool) λe=>AC e
theorem Wl(e:Bk)(f:Bk):Ks (Ll n e f) 39 [.a (Bk.c e),.a (Bk.c f)] [] (λr=>.b r):=by
 refine Kg 8 func39 Z Z Z Z λr h=>Bd h λd a h=>Cg d [] [] (λd=>[(4,.b d)]) Ze Zf ?_ ?_
 .refine G0 7 Z (Is 10 a Z (λ_ a=>?_) (λ_ a=>?_))
  .exact Gl 15 Z a []
  .refine Go 6 Z (Is 16 a Z (λ_ a=>?_) (λ_ a=>?_))
   iterate 2 exact Gl 9 Z a []
 exact QG 1 Z h 4 []
def LC(d:AA Bk)(h:Int)(i:Int)(a:Int):AB (Bn Int Int):=AH ((bif a<(AI d:Int) then AH (Bt d a) λe=>AH (Ll n e ({Ag:=h,AT:=i,As:=0:Bk})) λf=>AC f else AC AD):AB Bool) λg=>(bif g then AC (.k (i64.wrap (a+1)))else AC (.d a))
def IX(g:Bl)(a:AA Bk)(e:Int)(f:Int):AB (AA Bk):=AH (AH (Pi n g e) λq=>(bif (!q)then AC AE else AH (Ln n g e) λr=>AC r):AB Bool) λs=>(bif s then AC a else AH (iter (LC n a e f) n 0:AB Int) λd=>AH ((bif d<(AI a:Int) then AH (Bt a d) λh=>(bif (h.Ag==e)then AH (Bt a d) λi=>AC (i.AT==f)else AC AD)else AC AD):AB Bool) λj=>(bif j then AC a else AH (E_ a d (AI a:Int)) λk=>AH (app [{Ag:=e,AT:=f,As:=0:Bk}] k) λl=>AH (E_ a 0 d) λm=>AH (app m l) λp=>AC p))
theorem Md(V:Bl)(k:AA Bk)(F:Int)(G:Int):Kq (IX n V k F G) 54 [.a (Bl.c V),.o 0 (AI k) 3,I F,I G] [.r 55 3 (map Bk.c k)] (λr=>.o 1 (AI r) 3) (λr=>[.dead,.r 55 3 (map Bk.c r)]):=by
 refine Kg 8 func54 Z Z Z Z λr h=>Bd h λJ m h=>Ct J [0] [1,2,3] (λJ=>[(20,.b J)]) Ze Zf ?_ (λenv H p=>?_)
 .refine G0 3 Z (Cz [] m (WT _ _ _) Z λr6 ae m=>Go 2 Z (Is 16 m Z (λ_ m=>?_) (λ_ m=>?_)))
  .exact Gl 5 Z m [0]
  .exact Go 2 Z (Cz [] m (Wm _ _ _) Z λr8 af m=>Gl 2 Z m [0])
 refine Gx 1 Z (Eg p (Cn Z h (λ_ h=>?_) (λ_ h=>?_)))
 .refine Gc 8 Z ?_;obtain rfl:=Oi h;refine R1 8 Z ?_;refine Ep (mt (s:=8) (i:=0) Z Z Z) ?_;exact Lr [0,1]
 refine Gc 17 Z (Bd h λd Y h=>Ct d [0,1] [1,2,3,9] (λd=>[(10,I d)]) Ze Zf ?_ (λenv H p=>?_))
 .refine G0 1 Z (Lp [0,1] [1,2,3,9] (λt=>[(10,I t)]) Ze Y Zf (Lr [0,1]) λt ag j L=>?_);refine G0 2 Z (Bd j λu g j=>Ct u [0,1] [1,2,3,9,10] (λu=>[(36,.b u)]) Ze Zf ?_ (λenv H p=>?_))
  .refine G0 0 Z (C5 10 Z (D 5 Z (Y3 4 g Z Z Z (λ_ g=>?_) (λ_ g=>?_))))
   .refine D 2 Z ?_;obtain⟨aa,w,g⟩:=Q7 g;refine DS.v (x:=(.p 0 (toNat t*3))) (Qk w Z EL EQ) ?_ (hg:=(gT Z));refine DS.v (x:=(.a (Bk.c aa))) (QI Z GC EQ Z (Ql w) Z Z) ?_ (hg:=(gT Z));exact D 1 Z (Ei Z (Cz [] g (Wl _ _ _) Z λah ad g=>Gl 2 Z g [0,1]))
   .exact D 5 Z (Ei Z (Gl 3 Z g [0,1]))
  refine Gx 1 Z (Eg p (Q8 Z j (λ_ j=>?_) (λ_ j=>?_)))
  .exact Gc 2 Z (Qj j (Gx 1 Z (DM L j (Lr [0,1]))))
  exact Gc 9 Z (Qg j (Lr [0,1]))
 refine Gx 1 Z (Eg p (Gc 2 Z (Bd h λy a h=>Cg y [0,1] [1,9,10] (λy=>[(60,.b y)]) Ze Zf ?_ ?_)))
 .refine G0 6 Z (Is 43 a Z (λ_ a=>?_) (λ_ a=>?_))
  .refine Go 2 Z (Bd a λab z a=>?_);refine vX (.p 0 (toNat d*3)) (Qk z Z EL EQ) ?_ (gT Z);refine Uz (gT Z) qI Z ?_;refine vX (I ab.Ag) (EC Z EK Z (Ql z)) ?_ (gT Z);refine Go 4 Z (Is 52 a Z (λ_ a=>?_) (λ_ a=>?_))
   .refine Go 2 Z (Bd a λac B a=>?_);refine vX (.p 0 (toNat d*3)) (Qk B Z EL EQ) ?_ (gT Z);refine Uz (gT Z) qJ Z ?_;refine vX (I ac.AT) (EC Z EK Z (Yh (f:=1) B)) ?_ (gT Z);exact Gl 4 Z a [0,1]
   .exact Gl 9 Z a [0,1]
  .exact Gl 18 Z a [0,1]
 refine Cn Z h (λ_ h=>?_) (λ_ h=>?_)
 .refine Gc 8 Z ?_;obtain rfl:=Oi h;refine R1 8 Z ?_;refine Ep (mt (s:=8) (i:=0) Z Z Z) ?_;exact Lr [0,2]
 refine Gc 3 Z (KN 5 1 [0,1,3,3,3] (by kernel_rfl) (Da 1 Z ?_));refine Mv (Em (xs:=[.tmp 62]) (es:=map Bk.c [{Ag:=F,AT:=G,As:=0:Bk}]) Tz Z Z Z Z Z ⟨Z,trivial⟩ Z Z) Z Z (Db 2 Z ?_);obtain⟨ai,q,h⟩:=Q7 h;refine DB.wo2 (x:=.s 0 (0+toNat d) (toNat (AI k:Int)-toNat d) 3) ?_ ?_ ?_
 iterate 2 refine vX (.s 0 (0+toNat d) (toNat (AI k:Int)-toNat d) 3) (Y1 (l:=k) q EL EQ (.inr ⟨_,Z,Z⟩) (.inl ⟨Z,Z⟩)) ?_;exact Wp
 refine DB.done Z (Bd h λaj R h=>vH (Qu (e:=Bk.c) R Tz EL (lU (b:=0) q)) ?_);refine Fg 8 Z Z (Bd h λak E h=>?_);refine vX (.s 0 (0+toNat 0) (toNat d-toNat 0) 3) (wZ (l:=k) E EL EQ) ?_;refine Go 1 Z (Bd h λal T h=>vH (wX (e:=Bk.c) E T Tz EL (QS (i:=3))) ?_);exact FE Z (Gt 4 Z h 8 [0,4])
def Nh(f:Bl)(d:AA Bm)(a:(AA Bk)×Int):AB (Bn ((AA Bk)×Int) (AA Bk)):=(bif a.2<(AI d:Int) then AH (Bt d a.2) λe=>AH ((bif (e.AN==2)then AH (Bt d a.2) λt=>AH (Bt d a.2) λg=>AH (IX n f a.1 t.Az.Ag g.Az.AT) λh=>AC h else(bif (e.AN==3)then AH (Bt d a.2) λi=>AH (Bt d a.2) λj=>AH (IX n f a.1 i.AO.Ag j.AO.AT) λk=>AC k else(bif (e.AN==4)then AH (Bt d a.2) λl=>AH (Bt d a.2) λm=>AH (IX n f a.1 l.AV.BE m.AV.A2) λp=>AH (Bt d a.2) λq=>AH (Bt d a.2) λr=>AH (IX n f p q.AV.BF r.AV.A3) λs=>AC s else AC a.1))):AB (AA Bk)) λu=>AC (.k (u,i64.wrap (a.2+1)))else AC (.d a.1))
def Nf(n:Nat)(m:AA Bm)(d:(AA Bk)×Int)(a:(AA Bk)×Int):AB (Bn ((AA Bk)×Int) (AA Bk)):=(bif 0<=a.2 then AH (Bt m a.2) λe=>AH (AH (Bt m a.2) λg=>(bif (g.AN==3)then AH (Bt a.1 d.2) λh=>(bif (e.AO.Ag==h.Ag)then AH (Bt a.1 d.2) λi=>AC (e.AO.AT==i.AT)else AC AD)else AC AD):AB Bool) λj=>AH ((bif j then AH (Bt a.1 d.2) λf=>AH (Fe a.1 d.2 ({Ag:=f.Ag,AT:=f.AT,As:=e.AO.Av:Bk})) λk=>AC k else AC a.1):AB (AA Bk)) λl=>AC (.k (l,i64.wrap (a.2-1)))else AC (.d a.1))
def LB(e:AA Bm)(a:(AA Bk)×Int):AB (Bn ((AA Bk)×Int) (AA Bk)):=(bif a.2<(AI a.1:Int) then AH (iter (Nf n e a) n (a.1,i64.wrap ((AI e:Int)-1)):AB (AA Bk)) λd=>AC (.k (d,i64.wrap (a.2+1)))else AC (.d a.1))
def KC(e:Bl)(h:AA Bm):AB ((AA Bk)×Int):=AH (HT n e) λf=>(bif (f != 0)then AC ([],f)else AH (Lq n h) λg=>AH (iter (Nh n e g) n (([]:AA Bk),0):AB (AA Bk)) λa=>(bif 511<(AI a:Int) then AC ([],2)else AH (iter (LB n g) n (a,0):AB (AA Bk)) λd=>AC (d,0)))
theorem W2(a1:Bl)(a2:AA Bm):Kq (KC n a1 a2) 25 [.a (Bl.c a1),.q 57 (map Bm.c a2)] [] (λr=>.t [.o 0 (AI r.1) 3,I r.2]) (λr=>[.r 55 3 (map Bk.c r.1)]):=by
 refine Kg 10 func25 Z Z Z Z λr h=>Cz [] h (W5 _ _) Z λr1 bw h=>Go 10 Z (Cn Z h (λ_ h=>?_) (λ_ h=>?_))
 .refine Gc 9 Z ?_;obtain rfl:=Oi h;refine R2 4 5 Z Z ?_;refine Ep (Eu (s:=4) (k:=3) (t:=55) (XS Z) Z) ?_;exact Lr [1]
 refine Gc 5 Z (Cd [] h (Wn _ _) Z λr3 bx h=>Fg 5 Z Z (vH (Em (xs:=[]) (es:=map Bk.c []) Tz Z Z Z Z Z trivial Z Z) ?_));refine Fg 9 Z Z (Bd h λE bg h=>Ct E [1,2] [7] (λE=>[(8,.o 1 (AI E) 3)]) (λE=>[(1,.r 55 3 (map Bk.c E))]) Zf ?_ (λenv H u=>?_))
 .refine G0 1 Z (Lp [0,1,2] [2,7] (λd=>[(8,.o 2 (AI d.1) 3),(9,I d.2)]) (λd=>[(2,.r 55 3 (map Bk.c d.1))]) bg Zf (Lr [0,1,2]) λd bz q al=>?_);refine G0 9 Z (Q8 Z q (λ_ q=>?_) (λ_ q=>?_))
  .exact Gc 2 Z (Qj q (Gx 1 Z (DM al q (Lr [1,2]))))
  refine Gc 8 Z (Bd q λbh Y q=>?_);refine vX (.p 1 (toNat d.2*57)) (Qk Y Z EF EH) ?_;refine Fp eX Z ?_;refine vX (I bh.AN) (EC Z EK Z (Yh (f:=3) Y)) ?_;refine Go 9 Z (Bd q λF a q=>Ct F [0,1,0] [2,7,9] (λF=>[(8,.o 2 (AI F) 3)]) (λF=>[(2,.r 55 3 (map Bk.c F))]) Zf ?_ (λenv H u=>?_))
  .refine G0 0 Z (Cn Z a (λ_ a=>?_) (λ_ a=>?_))
   .refine C5 14 Z (D 4 Z ?_);obtain⟨bi,aa,a⟩:=Q7 a;refine DS.v (x:=(.p 1 (toNat d.2*57))) (Qk aa Z EF EH) ?_;refine DS.wo (x:=.p 1 (toNat d.2*57+12)) ?_ ?_
    .exact Fp qK Z Wp
    refine DS.wo (x:=.p 1 (toNat d.2*57+12)) ?_ ?_
    .exact Fp vn Z Wp
    refine DS.v (x:=(I bi.Az.Ag)) (EC Z EK Z (Yh (f:=12) aa)) ?_;refine D 2 Z ?_;obtain⟨ao,J,a⟩:=Q7 a;refine DS.v (x:=(.p 1 (toNat d.2*57))) (Qk J Z EF EH) ?_;refine DS.wo (x:=.p 1 (toNat d.2*57+12)) ?_ ?_
    .exact Fp qK Z Wp
    refine DS.wo (x:=.p 1 (toNat d.2*57+13)) ?_ ?_
    .exact Fp vp Z Wp
    refine DS.v (x:=(I ao.Az.AT)) (EC Z EK Z (Yh (f:=13) J)) ?_;exact Ei Z (Cd [2] a (Md _ _ _ _ _) Z λbn bj a=>FE Z (Gl 2 Z a [0,1,3]))
   refine Gc 6 Z (Cn Z a (λ_ a=>?_) (λ_ a=>?_))
   .refine C5 14 Z (D 4 Z ?_);obtain⟨aq,L,a⟩:=Q7 a;refine DS.v (x:=(.p 1 (toNat d.2*57))) (Qk L Z EF EH) ?_;refine DS.wo (x:=.p 1 (toNat d.2*57+16)) ?_ ?_
    .exact Fp eY Z Wp
    refine DS.wo (x:=.p 1 (toNat d.2*57+16)) ?_ ?_
    .exact Fp vq Z Wp
    refine DS.v (x:=(I aq.AO.Ag)) (EC Z EK Z (Yh (f:=16) L)) ?_;refine D 2 Z ?_;obtain⟨ar,M,a⟩:=Q7 a;refine DS.v (x:=(.p 1 (toNat d.2*57))) (Qk M Z EF EH) ?_;refine DS.wo (x:=.p 1 (toNat d.2*57+16)) ?_ ?_
    .exact Fp eY Z Wp
    refine DS.wo (x:=.p 1 (toNat d.2*57+17)) ?_ ?_
    .exact Fp vr Z Wp
    refine DS.v (x:=(I ar.AO.AT)) (EC Z EK Z (Yh (f:=17) M)) ?_;exact Ei Z (Cd [2] a (Md _ _ _ _ _) Z λbo bk a=>FE Z (Gl 2 Z a [0,1,3]))
   refine Gc 6 Z (Cn Z a (λ_ a=>?_) (λ_ a=>?_))
   .refine Gc 1 Z (C5 14 Z (D 4 Z ?_));obtain⟨au,N,a⟩:=Q7 a;refine DS.v (x:=(.p 1 (toNat d.2*57))) (Qk N Z EF EH) ?_;refine DS.wo (x:=.p 1 (toNat d.2*57+21)) ?_ ?_
    .exact Fp aG Z Wp
    refine DS.wo (x:=.p 1 (toNat d.2*57+21)) ?_ ?_
    .exact Fp vt Z Wp
    refine DS.v (x:=(I au.AV.BE)) (EC Z EK Z (Yh (f:=21) N)) ?_;refine D 2 Z ?_;obtain⟨av,O,a⟩:=Q7 a;refine DS.v (x:=(.p 1 (toNat d.2*57))) (Qk O Z EF EH) ?_;refine DS.wo (x:=.p 1 (toNat d.2*57+21)) ?_ ?_
    .exact Fp aG Z Wp
    refine DS.wo (x:=.p 1 (toNat d.2*57+22)) ?_ ?_
    .exact Fp vu Z Wp
    refine DS.v (x:=(I av.AV.A2)) (EC Z EK Z (Yh (f:=22) O)) ?_;refine Ei Z (Cd [2] a (Md _ _ _ _ _) Z λbq bl a=>Fg 3 Z Z (C5 14 Z (D 4 Z ?_)));obtain⟨aw,P,a⟩:=Q7 a;refine DS.v (x:=(.p 1 (toNat d.2*57))) (Qk P Z EF EH) ?_;refine DS.wo (x:=.p 1 (toNat d.2*57+21)) ?_ ?_
    .exact Fp aG Z Wp
    refine DS.wo (x:=.p 1 (toNat d.2*57+24)) ?_ ?_
    .exact Fp vv Z Wp
    refine DS.v (x:=(I aw.AV.BF)) (EC Z EK Z (Yh (f:=24) P)) ?_;refine D 2 Z ?_;obtain⟨ax,Q,a⟩:=Q7 a;refine DS.v (x:=(.p 1 (toNat d.2*57))) (Qk Q Z EF EH) ?_;refine DS.wo (x:=.p 1 (toNat d.2*57+21)) ?_ ?_
    .exact Fp aG Z Wp
    refine DS.wo (x:=.p 1 (toNat d.2*57+25)) ?_ ?_
    .exact Fp vw Z Wp
    refine DS.v (x:=(I ax.AV.A3)) (EC Z EK Z (Yh (f:=25) Q)) ?_;exact Ei Z (Cd [3] a (Md _ _ _ _ _) Z λbr bm a=>FE Z (Gl 2 Z a [0,1,4]))
   exact Yy 1 Z a [0,1,2]
  exact Gx 3 Z (Eg u (Gc 5 Z (Qg q (Lr [0,1,2]))))
 refine Gx 1 Z (Eg u (Gc 8 Z (Cn Z h (λ_ h=>?_) (λ_ h=>?_))))
 .refine Gc 8 Z ?_;obtain rfl:=Oi h;refine R2 4 5 Z Z ?_;refine Ep (Eu (s:=4) (k:=3) (t:=55) (XS Z) Z) ?_;exact Lr [2]
 refine Gc 8 Z (Bd h λw ay h=>Cg w [1] [] (λw=>[(8,.o 0 (AI w) 3)]) (λw=>[(0,.r 55 3 (map Bk.c w))]) Zf ?_ ?_)
 .refine G0 1 Z (Lp [0,1] [7] (λj=>[(8,.o 1 (AI j.1) 3),(10,I j.2)]) (λj=>[(1,.r 55 3 (map Bk.c j.1))]) ay Zf (Lr [0,1]) λj bs m ae=>?_);refine G0 9 Z (Q8 Z m (λ_ m=>?_) (λ_ m=>?_))
  .exact Gc 2 Z (Qj m (Gx 1 Z (DM ae m (Lr [1]))))
  refine Gc 12 Z (Bd m λy az m=>Ct y [0,1] [7,10] (λy=>[(8,.o 1 (AI y) 3)]) (λy=>[(1,.r 55 3 (map Bk.c y))]) Zf ?_ (λenv H u=>?_))
  .refine G0 1 Z (Lp [0,1] [7,10] (λp=>[(8,.o 1 (AI p.1) 3),(11,I p.2)]) (λp=>[(1,.r 55 3 (map Bk.c p.1))]) az Zf (Lr [0,1]) λp bt i ag=>?_);refine G0 7 Z (Q8 Z i (λ_ i=>?_) (λ_ i=>?_))
   .exact Gc 2 Z (Qj i (Gx 1 Z (DM ag i (Lr [0,1]))))
   refine Gc 8 Z (Bd i λba R i=>?_);refine vX (.p 0 (toNat p.2*57)) (Qk R Z EF EH) ?_;refine Fp eY Z ?_;refine vX (.a (AO.c ba.AO)) (QI Z isAgg68 sizeOf68 Z (Yh (f:=16) R) Z Z) ?_;refine Go 5 Z (Bd i λG g i=>Ct G [0,1,2] [7,8,10,11,12] (λG=>[(144,.b G)]) Ze Zf ?_ (λenv H u=>?_))
   .refine G0 0 Z (C5 24 Z (D 2 Z ?_));obtain⟨bb,T,g⟩:=Q7 g;refine DS.v (x:=(.p 0 (toNat p.2*57))) (Qk T Z EF EH) ?_;refine DS.wo (x:=.p 0 (toNat p.2*57+3)) ?_ ?_
    .exact Fp eX Z Wp
    refine DS.v (x:=(I bb.AN)) (EC Z EK Z (Yh (f:=3) T)) ?_;refine D 2 Z (Y3 6 g Z Z Z (λ_ g=>?_) (λ_ g=>?_))
    .refine D 4 Z ?_;obtain⟨bc,V,g⟩:=Q7 g;refine DS.v (x:=(.p 1 (toNat j.2*3))) (Qk V Z EL EQ) ?_ (hg:=(gT Z));refine DS.wo (x:=.p 1 (toNat j.2*3)) ?_ ?_
     .exact Uz (gT Z) qI Z Wp
     refine DS.v (x:=(I bc.Ag)) (EC Z EK Z (Ql V)) ?_ (hg:=(gT Z));refine D 3 Z (Y3 16 g Z Z Z (λ_ g=>?_) (λ_ g=>?_))
     .refine D 4 Z ?_;obtain⟨bd,W,g⟩:=Q7 g;refine DS.v (x:=(.p 1 (toNat j.2*3))) (Qk W Z EL EQ) ?_ (hg:=(gT Z));refine DS.wo (x:=.p 1 (toNat j.2*3+1)) ?_ ?_
      .exact Uz (gT Z) qJ Z Wp
      refine DS.v (x:=(I bd.AT)) (EC Z EK Z (Yh (f:=1) W)) ?_ (hg:=(gT Z));exact Ei Z (Gl 3 Z g [0,1,2])
     .exact D 7 Z (Ei Z (Gl 3 Z g [0,1,2]))
    .exact D 17 Z (Ei Z (Gl 3 Z g [0,1,2]))
   refine Gx 1 Z (Eg u (Bd i λz l i=>Ct z [0,1] [7,10,11] (λz=>[(8,.o 1 (AI z) 3)]) (λz=>[(1,.r 55 3 (map Bk.c z))]) Zf ?_ (λenv H u=>?_)))
   .refine G0 0 Z (Cn Z l (λ_ l=>?_) (λ_ l=>?_))
    .refine Gc 5 Z (Bd l λbu X l=>?_);refine vX (.p 1 (toNat j.2*3)) (Qk X Z EL EQ) ?_;refine Fp vm Z (Bd l λbv B l=>?_);refine vU (Yt (e:=Bk.c) (k:=3) (f:=2) X B EG Z Z) ?_;refine FE Z ?_;refine Ew (QD (s:=8) Z (congrArg (λn=>A.s 1 0 n 3) (QR B))) ?_;refine Ew (QD (s:=145) Z (congrArg (λn=>A.s 1 0 n 3) (QR B))) ?_;exact Gl 1 Z l [0,1]
    exact Yy 1 Z l [0,1]
   exact Gx 2 Z (Eg u (Gc 5 Z (Qg i (Lr [0,1]))))
  exact Gx 2 Z (Eg u (Gc 5 Z (Qg m (Lr [0,1]))))
 refine Gc 8 Z ?_;obtain rfl:=Oi h;exact R2 4 5 Z Z (Lr [0])
def IN(n:Nat)(d:AA Bk)(h:Int)(i:Int)(a:Int):AB (Bn Int (Bn Unit Int)):=(bif a<(AI d:Int) then AH (AH (Bt d a) λe=>(bif (e.Ag==h)then AH (Bt d a) λf=>AC (f.AT==i)else AC AD):AB Bool) λg=>(bif g then AC (.d (.d (i64.wrap (a+1))))else AC (.k (i64.wrap (a+1))))else AC (.d (.k ())))
def IV(e:AA Bk)(f:Int)(g:Int):AB Int:=AH (iter (IN n e f g) n 0:AB (Bn Unit Int)) λd=>match d with|.k a=>(AC 0)|.d a=>AC a
theorem P0(p:AA Bk)(q:Int)(s:Int):Ks (IV n p q s) 50 [.q 3 (map Bk.c p),I q,I s] [] (λr=>I r):=by
 refine Kg 11 func50 Z Z Z Z λr h=>Bd h λt u h=>DF (b:=t) [] [] Ze Ze Zf ?_ (λ_ w=>?_)
 .refine G0 1 Z (Lp [] [0,1,2] (λg=>[(7,I g)]) Ze u Zf (Lr []) λg y a e=>?_);refine G0 5 Z (Lg 3 Z Z (Q8 Z a (λ_ a=>?_) (λ_ a=>?_)))
  .exact Gc 2 Z (Qj a (Gx 1 Z (Ji e a Z (Lr []))))
  refine Gc 5 Z (Bd a λf d a=>Cg f [] [0,1,2,7] (λf=>[(29,.b f)]) Ze Zf ?_ ?_)
  .refine G0 3 Z (Bd d λz j d=>Iz j Z (Go 5 Z (Is 21 d Z (λ_ d=>?_) (λ_ d=>?_))))
   .exact Go 2 Z (Bd d λB l d=>Iz l Z (Gl 6 Z d []))
   .exact Gl 9 Z d []
  refine Cn Z a (λ_ a=>?_) (λ_ a=>?_)
  .refine Gc 10 Z (Qv a ?_);obtain rfl:=Oj e a;exact Gx 1 Z (Qq (Gx 1 Z (Rt h 6 [])))
  exact Gc 8 Z (Qg a (Lr []))
 subst w;exact QG 6 Z h 6 []
def Ig(n:Nat)(d:AA Bk)(a:Int)(e:Int)(f:Int):AB Bk:=(bif (a==0)then AC ({Ag:=e,AT:=f,As:=0:Bk})else AH (Bt d (i64.wrap (a-1))) λg=>AC g)
theorem lB(a:AA Bk)(d:Int)(e:Int)(f:Int):Kq (Ig n a d e f) 51 [.q 3 (map Bk.c a),I d,I e,I f] [] (λr=>.a (Bk.c r)) (λr=>[.c 55 (Bk.c r)]):=by
 refine Kg 12 func51 Z Z Z Z λr h=>Cn Z h (λ_ h=>?_) (λ_ h=>?_)
 .refine Gc 10 Z ?_;obtain rfl:=Oi h;exact Rx [0] [8] Z (Q5 Z (Qf GC EQ Z Z Z)) ⟨Z,Z⟩
 refine Gc 7 Z (Bd h λj i h=>Iz i Z (Go 5 Z ?_));obtain rfl:=Oi h;exact Rx [0] [8] Z (Q5 Z (Qf GC EQ Z Z Z)) ⟨Z,Z⟩
def Nx(n:Nat)(e:Int)(d:Int):AB (Int×Int):=AH ((bif e<(-2199023255552) then AC AE else(bif 2199023255552<e then AC AE else(bif d<0 then AC AE else AC (AG (100000<d))))):AB Bool) λg=>(bif g then AC (0,1)else AH ((bif e<0 then AC (i64.wrap (0-e))else AC e):AB Int) λa=>AH ((bif (i64.wrap ((i64.wrap (Int.tdiv (i64.wrap (a*d)) 1000000))*1000000))<(i64.wrap (a*d)) then AC (i64.wrap ((i64.wrap (Int.tdiv (i64.wrap (a*d)) 1000000))+1))else AC (i64.wrap (Int.tdiv (i64.wrap (a*d)) 1000000))):AB Int) λf=>AC (f,0))
theorem jh(p:Int)(j:Int):Ks (Nx n p j) 69 [I p,I j] [] (λr=>.t [I r.1,I r.2]):=by
 refine Kg 8 func69 Z Z Z Z λr h=>Bd h λk a h=>Ct k [] [0,1] (λk=>[(20,.b k)]) Ze Zf ?_ (λenv H g=>?_)
 .refine G0 4 Z (Is 9 a Z (λ_ a=>?_) (λ_ a=>?_))
  .exact Gl 12 Z a []
  .refine Go 4 Z (Is 13 a Z (λ_ a=>?_) (λ_ a=>?_))
   .exact Gl 8 Z a []
   .refine Go 4 Z (Is 17 a Z (λ_ a=>?_) (λ_ a=>?_))
    iterate 2 exact Gl 4 Z a []
 refine Gx 1 Z (Eg g (Cn Z h (λ_ h=>?_) (λ_ h=>?_)))
 .refine Gc 8 Z ?_;obtain rfl:=Oi h;exact R2 4 5 Z Z (Lr [])
 refine Gc 9 Z (Bd h λf d h=>Ct f [] [1] (λf=>[(0,I f)]) Ze Zf ?_ (λenv H g=>?_))
 .refine G0 0 Z (Cn Z d (λ_ d=>?_) (λ_ d=>?_))
  .exact Yy 5 Z d []
  exact Yy 1 Z d []
 refine Gx 1 Z (Eg g (Gc 5 Z ?_));refine vV (x:=(I (i64.wrap (Int.tdiv (i64.wrap (f*j)) 1000000)))) (Bz.quo Z Z Z (by decide)) ?_;refine Go 14 Z (Bd h λi e h=>Cg i [] [] (λi=>[(6,I i)]) Ze Zf ?_ ?_)
 .refine G0 0 Z (Cn Z e (λ_ e=>?_) (λ_ e=>?_))
  .exact Yy 5 Z e []
  exact Yy 1 Z e []
 refine Gc 8 Z ?_;obtain rfl:=Oi h;exact R2 4 5 Z Z (Lr [])
def M9(a:Bl)(d:Bk)(f:Int):AB CA:=AH (Ln n a d.Ag) λg=>(bif g then AC ({Lo:=0,Hi:=a.Ak.A6:CA})else AH (Nx n (i64.wrap (f-d.As)) a.Ak.BM) λe=>AC ({Lo:=i64.wrap (0-e.1),Hi:=i64.wrap (a.Ak.A6+e.1):CA}))
theorem WY(a:Bl)(d:Bk)(e:Int):Kq (M9 n a d e) 33 [.a (Bl.c a),.a (Bk.c d),I e] [] (λr=>.a [I r.Lo,I r.Hi]) (λr=>[.c 40 [I r.Lo,I r.Hi]]):=by
 refine Kg 13 func33 Z Z Z Z λr h=>Cz [] h (Wm _ _ _) Z λj g h=>Go 2 Z (Cn Z h (λ_ h=>?_) (λ_ h=>?_))
 .refine Gc 11 Z ?_;obtain rfl:=Oi h;exact Rx [2] [6] Z (Q5 Z (Qf EX EU Z Z Z)) ⟨Z,Z⟩
 refine Gc 11 Z (Cd [] h (jh _ _ _) Z λk i h=>Fg 21 Z Z ?_);obtain rfl:=Oi h;exact Rx [2] [6] Z (Q5 Z (Qf EX EU Z Z Z)) ⟨Z,Z⟩
def K9(n:Nat)(e:(AA Bk)×Int)(a:(AA Edge)×Int):AB (Bn ((AA Edge)×Int) (AA Edge)):=(bif a.2<(AI e.1:Int) then AH (app a.1 [{Ai:=0,To:=i64.wrap (a.2+1),W:=1099511627776:Edge},{Ai:=i64.wrap (a.2+1),To:=0,W:=1099511627776:Edge}]) λd=>AC (.k (d,i64.wrap (a.2+1)))else AC (.d a.1))
def La(p:Bl)(f:AA Bm)(d:(AA Bk)×(AA Edge)×Int):AB (Bn ((AA Bk)×(AA Edge)×Int) ((AA Bk)×(AA Edge))):=(bif d.2.2<(AI f:Int) then AH (AH (Bt f d.2.2) λa=>AH (AH (Bt f d.2.2) λh=>(bif (h.AN != 3)then AC AE else AH (Pi n p a.AO.Ag) λi=>AC (!i)):AB Bool) λj=>(bif j then AC d.2.1 else AH (IV n d.1 a.AO.Ag a.AO.AT) λe=>AH (Ig n d.1 e a.AO.Ag a.AO.AT) λk=>AH (M9 n p k a.AO.Av) λg=>AH (app d.2.1 [{Ai:=0,To:=e,W:=i64.wrap ((i64.wrap ((i64.wrap (a.AO.True+a.AO.BX))-a.AO.Av))-g.Lo):Edge},{Ai:=e,To:=0,W:=i64.wrap ((i64.wrap ((i64.wrap (a.AO.Av+g.Hi))-a.AO.True))+a.AO.BX):Edge}]) λl=>AC l):AB (AA Edge)) λm=>AC (.k (d.1,m,i64.wrap (d.2.2+1)))else AC (.d (d.1,d.2.1)))
def K7(k:Bl)(h:AA Bm)(g:(AA Bk)×(AA Edge))(d:(AA Edge)×Int):AB (Bn ((AA Edge)×Int) (AA Edge)):=(bif d.2<(AI h:Int) then AH (AH (Bt h d.2) λa=>AH (AH (Bt h d.2) λl=>(bif (l.AN != 4)then AC AE else AH (Pi n k a.AV.BE) λm=>(bif (!m)then AC AE else AH (Pi n k a.AV.BF) λp=>AC (!p))):AB Bool) λq=>(bif q then AC d.1 else AH (IV n g.1 a.AV.BE a.AV.A2) λe=>AH (IV n g.1 a.AV.BF a.AV.A3) λf=>AH (Ig n g.1 e a.AV.BE a.AV.A2) λr=>AH (M9 n k r a.AV.A1) λi=>AH (Ig n g.1 f a.AV.BF a.AV.A3) λs=>AH (M9 n k s a.AV.Ay) λj=>AH (app d.1 [{Ai:=e,To:=f,W:=i64.wrap ((i64.wrap ((i64.wrap ((i64.wrap (a.AV.BO-a.AV.Ay))-j.Lo))+a.AV.A1))+i.Hi):Edge},{Ai:=f,To:=e,W:=i64.wrap ((i64.wrap ((i64.wrap ((i64.wrap (a.AV.Ay+j.Hi))-a.AV.A1))-i.Lo))-a.AV.BQ):Edge}]) λt=>AC t):AB (AA Edge)) λu=>AC (.k (u,i64.wrap (d.2+1)))else AC (.d d.1))
def Li(g:Bl)(h:AA Bm):AB (Int×(AA Edge)×Int):=AH (KC n g h) λa=>(bif (a.2 != 0)then AC (0,[],a.2)else AH (iter (K9 n a) n ([],0):AB (AA Edge)) λi=>AH (Lq n h) λe=>AH (iter (La n g e) n (a.1,i,0):AB ((AA Bk)×(AA Edge))) λf=>AH (iter (K7 n g e f) n (f.2,0):AB (AA Edge)) λd=>(bif 8192<(AI d:Int) then AC (0,[],2)else AC (i64.wrap ((AI a.1:Int)+1),d,0)))
theorem kP(y:Bl)(a2:AA Bm):Kq (Li n y a2) 23 [.a (Bl.c y),.q 57 (map Bm.c a2)] [] (λr=>.t [.a [I r.1,.q 3 (map Edge.c r.2.1)],I r.2.2]) (λr=>[.c 60 [I r.1,.q 3 (map Edge.c r.2.1)]]):=by
 refine Kg 11 func23 Z Z Z Z λr h=>Cd [] h (W2 _ _ _) Z λu bz h=>Fg 14 Z Z (Cn Z h (λ_ h=>?_) (λ_ h=>?_))
 .refine Gc 10 Z ?_;obtain rfl:=Oi h;exact Rx [1] [4,5] Z (Qo Z Z (CC.cons (Qf GJ GE Z Z Z) (CC.cons C_.tmp CC.nil))) ⟨Z,Z⟩
 refine Gc 7 Z ?_;refine vX (.a [I (i64.wrap ((AI u.1:Int)+1)),.n]) (Bz.build (zs:=[I 0,.n]) zeroValue60 (HI Z) V8) ?_;refine vH (f6 (v:=(.a [I 0,.n])) zeroValue60 (HI Z)) ?_;refine Fg 9 Z Z (Bd h λb8 h9 h=>Ct b8 [0,1,2,3,0] [1,2,4,6,8] Ze (λb8=>[(3,.c 60 [I (i64.wrap ((AI u.1:Int)+1)),.o 4 (AI b8) 3]),(4,.r 129 3 (map Edge.c b8))]) Zf ?_ (λenv H P=>?_))
 .refine G0 1 Z (Lp [0,1,2,3,0] [1,2,4,6,8] (λQ=>[(9,I Q.2)]) (λQ=>[(3,.c 60 [I (i64.wrap ((AI u.1:Int)+1)),.o 4 (AI Q.1) 3]),(4,.r 129 3 (map Edge.c Q.1))]) h9 Zf ?_ ?_)
  .refine Ep (f_ (i:=3) (m:=1) (t:=129) (k:=3) Z Z Z) ?_;exact Lr [0,1,2,3,4]
  intro Q ca M az;refine G0 9 Z (Q8 Z M (λ_ M=>?_) (λ_ M=>?_))
  .exact Gc 2 Z (Qj M (Gx 1 Z (DM az M (Lr [0,1,2,3,4]))))
  refine Gc 13 Z (vH (Em (xs:=[.tmp 45,.tmp 48]) (es:=map Edge.c [{Ai:=0,To:=i64.wrap (Q.2+1),W:=1099511627776:Edge},{Ai:=i64.wrap (Q.2+1),To:=0,W:=1099511627776:Edge}]) PR Z Z Z Z Z ⟨Z,Z,trivial⟩ Z Z) ?_);refine FE Z (Bd M λcb bb M=>vH (Qu (e:=Edge.c) bb PR Gk (QS (i:=5))) ?_);exact Fg 10 Z Z (Qg M (Lr [0,1,2,3,6]))
 refine Gx 1 Z (Eg P (Gc 3 Z (Cd [] h (Wn _ _) Z λl br h=>Fg 9 Z Z (Bd h λN bj h=>Ct N [0,1,2,3,4] [2,4] (λN=>[(6,.q 3 (map Bk.c N.1)),(8,.p 2 0),(10,.o 4 (AI l) 57)]) (λN=>[(2,.c 60 [I (i64.wrap ((AI u.1:Int)+1)),.o 3 (AI N.2) 3]),(3,.r 129 3 (map Edge.c N.2)),(4,.r 88 57 (map Bm.c l))]) Zf ?_ (λenv H P=>?_)))))
 .refine G0 1 Z (Lp [0,1,3,4,5] [2,4,8,10] (λp=>[(6,.q 3 (map Bk.c p.1)),(11,I p.2.2)]) (λp=>[(2,.c 60 [I (i64.wrap ((AI u.1:Int)+1)),.o 3 (AI p.2.1) 3]),(3,.r 129 3 (map Edge.c p.2.1))]) bj Zf ?_ ?_)
  .refine Ep (Ku [(6,_)] Z Z (Fc.cons Z Et Fc.nil) (Ec (Ec (Ec (KZ _))))) ?_;exact Lr [0,1,3,4,5]
  intro p cc O bc;refine G0 9 Z (Q8 Z O (λ_ O=>?_) (λ_ O=>?_))
  .exact Gc 2 Z (Qj O (Gx 1 Z (DM bc O (Lr [0,1,2,3,4]))))
  refine Gc 3 Z (Bd O λR q O=>Ct R [0,1,2,3,4] [2,4,6,8,10,11] Ze (λR=>[(2,.c 60 [I (i64.wrap ((AI u.1:Int)+1)),.o 3 (AI R) 3]),(3,.r 129 3 (map Edge.c R))]) Zf ?_ (λenv H P=>?_))
  .refine G0 5 Z (Bd q λs ac q=>?_);refine vX (.p 4 (toNat p.2.2*57)) (Qk ac Z EF EH) ?_;refine Fp eY Z ?_;refine vX (.a (AO.c s.AO)) (QI Z isAgg68 sizeOf68 Z (Yh (f:=16) ac) Z Z) ?_;refine Go 6 Z (Bd q λV E q=>Ct V [0,1,2,3,4,5] [2,4,6,8,10,11,12] (λV=>[(77,.b V)]) Ze Zf ?_ (λenv H P=>?_))
   .refine G0 3 Z (Bd E λbe ad E=>?_);refine vX (.p 4 (toNat p.2.2*57)) (Qk ad Z EF EH) ?_;refine Fp eX Z ?_;refine vX (I be.AN) (EC Z EK Z (Yh (f:=3) ad)) ?_;refine Go 2 Z (Is 71 E Z (λ_ E=>?_) (λ_ E=>?_))
    .exact Gl 7 Z E [0,1,2,3,4,5]
    .exact Go 3 Z (Cz [] E (WT _ _ _) Z λbs bk E=>Gl 3 Z E [0,1,2,3,4,5])
   refine Gx 1 Z (Eg P (Cn Z q (λ_ q=>?_) (λ_ q=>?_)))
   .exact Yy 3 Z q [0,1,2,3,4]
   refine Gc 9 Z (Cz [] q (P0 _ _ _ _) Z λX bl q=>Go 4 Z ?_);obtain⟨J,ae,q⟩:=Q7 q;obtain⟨z,af,q⟩:=Q7 q;refine Jf 12 1 [84,85,86,87,88,89,90,91,92,93,94,14] [AD,AD,AD,AD,AD,AD,AD,AE,AD,AD,AE,AE] [[],[],[],[],[],[],[],[],[],[],[7],[]] [[],[7],[11],[7,10],[7,11],[7,10,11]] [[(0,0),(1,1),(2,2),(4,4)],[(0,0),(2,2)],[(0,0),(2,2)],[(0,0),(2,2)],[(0,0),(2,2)],[(0,0),(2,2)],[(0,0),(2,2)],[(0,1),(2,4)],[(0,0),(1,1),(2,2),(4,4)],[(0,0),(1,1),(2,2),(4,4)],[(1,3),(4,5)],[(0,2),(1,4),(3,5)]] [.a (Bl.c y),.q 3 (map Bk.c p.1),I X,.p 5 0,I s.AO.Ag,.p 5 1,I s.AO.AT,.a (Bk.c J),.p 5 2,I s.AO.Av,.a [I z.Lo,I z.Hi],.p 6 0] [[.c 33 (Bl.c y),.c 60 [I 0,.q 3 (map Edge.c [])],.c 60 [I (i64.wrap ((AI u.1:Int)+1)),.o 3 (AI p.2.1) 3],.r 129 3 (map Edge.c p.2.1),.r 88 57 (map Bm.c l),.c 68 (AO.c s.AO),.dead],[.c 33 (Bl.c y),.c 60 [I 0,.q 3 (map Edge.c [])],.c 60 [I (i64.wrap ((AI u.1:Int)+1)),.o 3 (AI p.2.1) 3],.r 129 3 (map Edge.c p.2.1),.r 88 57 (map Bm.c l),.c 68 (AO.c s.AO),.dead,.c 55 (Bk.c J)],[.c 33 (Bl.c y),.c 60 [I 0,.q 3 (map Edge.c [])],.c 60 [I (i64.wrap ((AI u.1:Int)+1)),.o 3 (AI p.2.1) 3],.r 129 3 (map Edge.c p.2.1),.r 88 57 (map Bm.c l),.c 68 (AO.c s.AO),.c 40 [I 0,I 0]],[.c 33 (Bl.c y),.c 60 [I 0,.q 3 (map Edge.c [])],.c 60 [I (i64.wrap ((AI u.1:Int)+1)),.o 3 (AI p.2.1) 3],.r 129 3 (map Edge.c p.2.1),.r 88 57 (map Bm.c l),.c 68 (AO.c s.AO),.dead,.c 55 (Bk.c J),.c 40 [I z.Lo,I z.Hi]],[.c 33 (Bl.c y),.c 60 [I 0,.q 3 (map Edge.c [])],.c 60 [I (i64.wrap ((AI u.1:Int)+1)),.o 3 (AI p.2.1) 3],.r 129 3 (map Edge.c p.2.1),.r 88 57 (map Bm.c l),.c 68 (AO.c s.AO),.c 40 [I 0,I 0],.c 55 (Bk.c J)],[.c 33 (Bl.c y),.c 60 [I 0,.q 3 (map Edge.c [])],.c 60 [I (i64.wrap ((AI u.1:Int)+1)),.o 3 (AI p.2.1) 3],.r 129 3 (map Edge.c p.2.1),.r 88 57 (map Bm.c l),.c 68 (AO.c s.AO),.c 40 [I 0,I 0],.c 55 (Bk.c J),.c 40 [I z.Lo,I z.Hi]]] ([.c 33 (Bl.c y),.c 60 [I 0,.q 3 (map Edge.c [])],.c 60 [I (i64.wrap ((AI u.1:Int)+1)),.o 3 (AI p.2.1) 3],.r 129 3 (map Edge.c p.2.1),.r 88 57 (map Bm.c l),.c 68 (AO.c s.AO),.c 40 [I 0,I 0],.c 55 (Bk.c J),.c 40 [I z.Lo,I z.Hi]]) DL Z Z Z Z Z Z Z ?_ Z ?_
   .refine B7.cons (Qb (v0 Z Z) (Qb (v0 Z Z) (Qb (v0 Z Z) (Qb (v0 Z Z) (Qd))))) (B7.cons (Qb (v0 Z Z) (Qb (v0 Z Z) (Qd))) (B7.cons (Qb (v0 Z Z) (Qb (v0 Z Z) (Qd))) (B7.cons (Qb (v0 Z Z) (Qb (v0 Z Z) (Qd))) (B7.cons (Qb (v0 Z Z) (Qb (v0 Z Z) (Qd))) (B7.cons (Qb (v0 Z Z) (Qb (v0 Z Z) (Qd))) (B7.cons (Qb (v0 Z Z) (Qb (v0 Z Z) (Qd))) (B7.cons ?_ (B7.cons (Qb (v0 Z Z) (Qb (v0 Z Z) (Qb (v0 Z Z) (Qb (v0 Z Z) (Qd))))) (B7.cons (Qb (v0 Z Z) (Qb (v0 Z Z) (Qb (v0 Z Z) (Qb (v0 Z Z) (Qd))))) (B7.cons ?_ (B7.cons ?_ (B7.nil))))))))))))
    .refine Qb ?_ (Qb ?_ (Qd))
     iterate 2 refine IB Z (sD 1 (sD 2 (sD 4 (sD 6 sN)))) ?_;refine Qs [] (DN.fn call51 Z Z Z) (lB _ _ _ _ _ _ ae) ?_;rintro _ _ ⟨rfl,rfl⟩;exact FE Z Wp
    .refine Qb ?_ (Qb ?_ (Qd))
     iterate 2 refine IB Z (sD 0 (sD 7 (sD 9 sN))) ?_;refine Qs [] (DN.fn call33 Z Z Z) (WY _ _ _ _ _ af) ?_;rintro _ _ ⟨rfl,rfl⟩;exact FE Z Wp
    .refine Qb ?_ (Qb ?_ (Qb ?_ (Qd)))
     iterate 3 exact JB.alloc _ 14 40 6 _ Z Z Z Z Z Z Z (K0.alloc (v:=(.a [I 0,I 0])) E7 (HI Z)) Z
   refine Go 32 Z (vH (Em (xs:=[.tmp 109,.tmp 122]) (es:=map Edge.c [{Ai:=0,To:=X,W:=i64.wrap ((i64.wrap ((i64.wrap (s.AO.True+s.AO.BX))-s.AO.Av))-z.Lo):Edge},{Ai:=X,To:=0,W:=i64.wrap ((i64.wrap ((i64.wrap (s.AO.Av+z.Hi))-s.AO.True))+s.AO.BX):Edge}]) PR Z Z Z Z Z ⟨Z,Z,trivial⟩ Z Z) ?_);refine FE Z (Bd q λbt ao q=>vH (Qu (e:=Edge.c) ao PR Gk (QS (i:=9))) ?_);exact FE Z (Gl 4 Z q [0,1,2,10,4])
  exact Gx 1 Z (Eg P (Gc 5 Z (Qg O (Lr [0,1,2,3,4]))))
 refine Gx 1 Z (Eg P (Gc 6 Z (Bd h λG bg h=>Cg G [1,2,3] [4,8] Ze (λG=>[(1,.c 60 [I (i64.wrap ((AI u.1:Int)+1)),.o 2 (AI G) 3]),(2,.r 129 3 (map Edge.c G))]) Zf ?_ ?_)))
 .refine G0 1 Z (Lp [0,1,2,3,4] [2,4,6,8,10] (λd=>[(15,I d.2)]) (λd=>[(2,.c 60 [I (i64.wrap ((AI u.1:Int)+1)),.o 3 (AI d.1) 3]),(3,.r 129 3 (map Edge.c d.1))]) bg Zf (Lr [0,1,2,3,4]) λd bu F aq=>?_);refine G0 9 Z (Q8 Z F (λ_ F=>?_) (λ_ F=>?_))
  .exact Gc 2 Z (Qj F (Gx 1 Z (DM aq F (Lr [1,2,3]))))
  refine Gc 3 Z (Bd F λT j F=>Cg T [0,1,2,3,4] [2,4,6,8,10,15] Ze (λT=>[(2,.c 60 [I (i64.wrap ((AI u.1:Int)+1)),.o 3 (AI T) 3]),(3,.r 129 3 (map Edge.c T))]) Zf ?_ ?_)
  .refine G0 5 Z (Bd j λg ag j=>?_);refine vX (.p 4 (toNat d.2*57)) (Qk ag Z EF EH) ?_;refine Fp aG Z ?_;refine vX (.a (AV.c g.AV)) (QI Z isAgg70 sizeOf70 Z (Yh (f:=21) ag) Z Z) ?_;refine Go 6 Z (Bd j λY w j=>Cg Y [0,1,2,3,4,5] [2,4,6,8,10,15,16] (λY=>[(156,.b Y)]) Ze Zf ?_ ?_)
   .refine G0 3 Z (Bd w λbh ah w=>?_);refine vX (.p 4 (toNat d.2*57)) (Qk ah Z EF EH) ?_;refine Fp eX Z ?_;refine vX (I bh.AN) (EC Z EK Z (Yh (f:=3) ah)) ?_;refine Go 2 Z (Is 143 w Z (λ_ w=>?_) (λ_ w=>?_))
    .exact Gl 14 Z w [0,1,2,3,4,5]
    .refine Go 3 Z (Cz [] w (WT _ _ _) Z λbv bm w=>Go 3 Z (Is 150 w Z (λ_ w=>?_) (λ_ w=>?_)))
     .exact Gl 7 Z w [0,1,2,3,4,5]
     .exact Go 3 Z (Cz [] w (WT _ _ _) Z λbw bn w=>Gl 3 Z w [0,1,2,3,4,5])
   refine Cn Z j (λ_ j=>?_) (λ_ j=>?_)
   .exact Yy 3 Z j [0,1,2,3,4]
   refine Gc 9 Z (Cz [] j (P0 _ _ _ _) Z λaa bo j=>Go 10 Z (Cz [] j (P0 _ _ _ _) Z λab bq j=>Go 4 Z ?_));obtain⟨x,ai,j⟩:=Q7 j;obtain⟨a,aj,j⟩:=Q7 j;refine Jf 12 1 [169,170,171,172,173,174,175,176,177,178,179,19] [AD,AD,AD,AD,AD,AD,AD,AE,AD,AD,AE,AE] [[],[],[],[],[],[],[],[],[],[],[7],[]] [[],[7],[11],[7,10],[7,11],[7,10,11]] [[(0,0),(1,1),(2,2),(4,4)],[(0,0),(2,2)],[(0,0),(2,2)],[(0,0),(2,2)],[(0,0),(2,2)],[(0,0),(2,2)],[(0,0),(2,2)],[(0,1),(2,4)],[(0,0),(1,1),(2,2),(4,4)],[(0,0),(1,1),(2,2),(4,4)],[(1,3),(4,5)],[(0,2),(1,4),(3,5)]] [.a (Bl.c y),.q 3 (map Bk.c N.1),I aa,.p 5 0,I g.AV.BE,.p 5 1,I g.AV.A2,.a (Bk.c x),.p 5 2,I g.AV.A1,.a [I a.Lo,I a.Hi],.p 6 0] [[.c 33 (Bl.c y),.c 60 [I 0,.q 3 (map Edge.c [])],.c 60 [I (i64.wrap ((AI u.1:Int)+1)),.o 3 (AI d.1) 3],.r 129 3 (map Edge.c d.1),.r 88 57 (map Bm.c l),.c 70 (AV.c g.AV),.dead],[.c 33 (Bl.c y),.c 60 [I 0,.q 3 (map Edge.c [])],.c 60 [I (i64.wrap ((AI u.1:Int)+1)),.o 3 (AI d.1) 3],.r 129 3 (map Edge.c d.1),.r 88 57 (map Bm.c l),.c 70 (AV.c g.AV),.dead,.c 55 (Bk.c x)],[.c 33 (Bl.c y),.c 60 [I 0,.q 3 (map Edge.c [])],.c 60 [I (i64.wrap ((AI u.1:Int)+1)),.o 3 (AI d.1) 3],.r 129 3 (map Edge.c d.1),.r 88 57 (map Bm.c l),.c 70 (AV.c g.AV),.c 40 [I 0,I 0]],[.c 33 (Bl.c y),.c 60 [I 0,.q 3 (map Edge.c [])],.c 60 [I (i64.wrap ((AI u.1:Int)+1)),.o 3 (AI d.1) 3],.r 129 3 (map Edge.c d.1),.r 88 57 (map Bm.c l),.c 70 (AV.c g.AV),.dead,.c 55 (Bk.c x),.c 40 [I a.Lo,I a.Hi]],[.c 33 (Bl.c y),.c 60 [I 0,.q 3 (map Edge.c [])],.c 60 [I (i64.wrap ((AI u.1:Int)+1)),.o 3 (AI d.1) 3],.r 129 3 (map Edge.c d.1),.r 88 57 (map Bm.c l),.c 70 (AV.c g.AV),.c 40 [I 0,I 0],.c 55 (Bk.c x)],[.c 33 (Bl.c y),.c 60 [I 0,.q 3 (map Edge.c [])],.c 60 [I (i64.wrap ((AI u.1:Int)+1)),.o 3 (AI d.1) 3],.r 129 3 (map Edge.c d.1),.r 88 57 (map Bm.c l),.c 70 (AV.c g.AV),.c 40 [I 0,I 0],.c 55 (Bk.c x),.c 40 [I a.Lo,I a.Hi]]] ([.c 33 (Bl.c y),.c 60 [I 0,.q 3 (map Edge.c [])],.c 60 [I (i64.wrap ((AI u.1:Int)+1)),.o 3 (AI d.1) 3],.r 129 3 (map Edge.c d.1),.r 88 57 (map Bm.c l),.c 70 (AV.c g.AV),.c 40 [I 0,I 0],.c 55 (Bk.c x),.c 40 [I a.Lo,I a.Hi]]) DL Z Z Z Z Z Z Z ?_ Z ?_
   .refine B7.cons (Qb (v0 Z Z) (Qb (v0 Z Z) (Qb (v0 Z Z) (Qb (v0 Z Z) (Qd))))) (B7.cons (Qb (v0 Z Z) (Qb (v0 Z Z) (Qd))) (B7.cons (Qb (v0 Z Z) (Qb (v0 Z Z) (Qd))) (B7.cons (Qb (v0 Z Z) (Qb (v0 Z Z) (Qd))) (B7.cons (Qb (v0 Z Z) (Qb (v0 Z Z) (Qd))) (B7.cons (Qb (v0 Z Z) (Qb (v0 Z Z) (Qd))) (B7.cons (Qb (v0 Z Z) (Qb (v0 Z Z) (Qd))) (B7.cons ?_ (B7.cons (Qb (v0 Z Z) (Qb (v0 Z Z) (Qb (v0 Z Z) (Qb (v0 Z Z) (Qd))))) (B7.cons (Qb (v0 Z Z) (Qb (v0 Z Z) (Qb (v0 Z Z) (Qb (v0 Z Z) (Qd))))) (B7.cons ?_ (B7.cons ?_ (B7.nil))))))))))))
    .refine Qb ?_ (Qb ?_ (Qd))
     iterate 2 refine IB Z (sD 1 (sD 2 (sD 4 (sD 6 sN)))) ?_;refine Qs [] (DN.fn call51 Z Z Z) (lB _ _ _ _ _ _ ai) ?_;rintro _ _ ⟨rfl,rfl⟩;exact FE Z Wp
    .refine Qb ?_ (Qb ?_ (Qd))
     iterate 2 refine IB Z (sD 0 (sD 7 (sD 9 sN))) ?_;refine Qs [] (DN.fn call33 Z Z Z) (WY _ _ _ _ _ aj) ?_;rintro _ _ ⟨rfl,rfl⟩;exact FE Z Wp
    .refine Qb ?_ (Qb ?_ (Qb ?_ (Qd)))
     iterate 3 exact JB.alloc _ 19 40 6 _ Z Z Z Z Z Z Z (K0.alloc (v:=(.a [I 0,I 0])) E7 (HI Z)) Z
   refine Go 4 Z ?_;obtain⟨L,ak,j⟩:=Q7 j;obtain⟨B,al,j⟩:=Q7 j;refine Jf 12 1 [180,181,182,183,184,185,186,187,188,189,190,20] [AD,AD,AD,AD,AD,AD,AD,AE,AD,AD,AE,AE] [[],[],[],[],[],[],[],[],[],[],[7],[]] [[],[7],[11],[7,10],[7,11],[7,10,11]] [[(0,0),(1,1),(2,2),(4,4)],[(0,0),(2,2)],[(0,0),(2,2)],[(0,0),(2,2)],[(0,0),(2,2)],[(0,0),(2,2)],[(0,0),(2,2)],[(0,1),(2,4)],[(0,0),(1,1),(2,2),(4,4)],[(0,0),(1,1),(2,2),(4,4)],[(1,3),(4,5)],[(0,2),(1,4),(3,5)]] [.a (Bl.c y),.q 3 (map Bk.c N.1),I ab,.p 5 3,I g.AV.BF,.p 5 4,I g.AV.A3,.a (Bk.c L),.p 5 5,I g.AV.Ay,.a [I B.Lo,I B.Hi],.p 9 0] [[.c 33 (Bl.c y),.c 60 [I 0,.q 3 (map Edge.c [])],.c 60 [I (i64.wrap ((AI u.1:Int)+1)),.o 3 (AI d.1) 3],.r 129 3 (map Edge.c d.1),.r 88 57 (map Bm.c l),.c 70 (AV.c g.AV),.c 40 [I a.Lo,I a.Hi],.c 55 (Bk.c x),.c 40 [I a.Lo,I a.Hi],.dead],[.c 33 (Bl.c y),.c 60 [I 0,.q 3 (map Edge.c [])],.c 60 [I (i64.wrap ((AI u.1:Int)+1)),.o 3 (AI d.1) 3],.r 129 3 (map Edge.c d.1),.r 88 57 (map Bm.c l),.c 70 (AV.c g.AV),.c 40 [I a.Lo,I a.Hi],.c 55 (Bk.c x),.c 40 [I a.Lo,I a.Hi],.dead,.c 55 (Bk.c L)],[.c 33 (Bl.c y),.c 60 [I 0,.q 3 (map Edge.c [])],.c 60 [I (i64.wrap ((AI u.1:Int)+1)),.o 3 (AI d.1) 3],.r 129 3 (map Edge.c d.1),.r 88 57 (map Bm.c l),.c 70 (AV.c g.AV),.c 40 [I a.Lo,I a.Hi],.c 55 (Bk.c x),.c 40 [I a.Lo,I a.Hi],.c 40 [I 0,I 0]],[.c 33 (Bl.c y),.c 60 [I 0,.q 3 (map Edge.c [])],.c 60 [I (i64.wrap ((AI u.1:Int)+1)),.o 3 (AI d.1) 3],.r 129 3 (map Edge.c d.1),.r 88 57 (map Bm.c l),.c 70 (AV.c g.AV),.c 40 [I a.Lo,I a.Hi],.c 55 (Bk.c x),.c 40 [I a.Lo,I a.Hi],.dead,.c 55 (Bk.c L),.c 40 [I B.Lo,I B.Hi]],[.c 33 (Bl.c y),.c 60 [I 0,.q 3 (map Edge.c [])],.c 60 [I (i64.wrap ((AI u.1:Int)+1)),.o 3 (AI d.1) 3],.r 129 3 (map Edge.c d.1),.r 88 57 (map Bm.c l),.c 70 (AV.c g.AV),.c 40 [I a.Lo,I a.Hi],.c 55 (Bk.c x),.c 40 [I a.Lo,I a.Hi],.c 40 [I 0,I 0],.c 55 (Bk.c L)],[.c 33 (Bl.c y),.c 60 [I 0,.q 3 (map Edge.c [])],.c 60 [I (i64.wrap ((AI u.1:Int)+1)),.o 3 (AI d.1) 3],.r 129 3 (map Edge.c d.1),.r 88 57 (map Bm.c l),.c 70 (AV.c g.AV),.c 40 [I a.Lo,I a.Hi],.c 55 (Bk.c x),.c 40 [I a.Lo,I a.Hi],.c 40 [I 0,I 0],.c 55 (Bk.c L),.c 40 [I B.Lo,I B.Hi]]] ([.c 33 (Bl.c y),.c 60 [I 0,.q 3 (map Edge.c [])],.c 60 [I (i64.wrap ((AI u.1:Int)+1)),.o 3 (AI d.1) 3],.r 129 3 (map Edge.c d.1),.r 88 57 (map Bm.c l),.c 70 (AV.c g.AV),.c 40 [I a.Lo,I a.Hi],.c 55 (Bk.c x),.c 40 [I a.Lo,I a.Hi],.c 40 [I 0,I 0],.c 55 (Bk.c L),.c 40 [I B.Lo,I B.Hi]]) DL Z Z Z Z Z Z Z ?_ Z ?_
   .refine B7.cons (Qb (v0 Z Z) (Qb (v0 Z Z) (Qb (v0 Z Z) (Qb (v0 Z Z) (Qd))))) (B7.cons (Qb (v0 Z Z) (Qb (v0 Z Z) (Qd))) (B7.cons (Qb (v0 Z Z) (Qb (v0 Z Z) (Qd))) (B7.cons (Qb (v0 Z Z) (Qb (v0 Z Z) (Qd))) (B7.cons (Qb (v0 Z Z) (Qb (v0 Z Z) (Qd))) (B7.cons (Qb (v0 Z Z) (Qb (v0 Z Z) (Qd))) (B7.cons (Qb (v0 Z Z) (Qb (v0 Z Z) (Qd))) (B7.cons ?_ (B7.cons (Qb (v0 Z Z) (Qb (v0 Z Z) (Qb (v0 Z Z) (Qb (v0 Z Z) (Qd))))) (B7.cons (Qb (v0 Z Z) (Qb (v0 Z Z) (Qb (v0 Z Z) (Qb (v0 Z Z) (Qd))))) (B7.cons ?_ (B7.cons ?_ (B7.nil))))))))))))
    .refine Qb ?_ (Qb ?_ (Qd))
     iterate 2 refine IB Z (sD 1 (sD 2 (sD 4 (sD 6 sN)))) ?_;refine Qs [] (DN.fn call51 Z Z Z) (lB _ _ _ _ _ _ ak) ?_;rintro _ _ ⟨rfl,rfl⟩;exact FE Z Wp
    .refine Qb ?_ (Qb ?_ (Qd))
     iterate 2 refine IB Z (sD 0 (sD 7 (sD 9 sN))) ?_;refine Qs [] (DN.fn call33 Z Z Z) (WY _ _ _ _ _ al) ?_;rintro _ _ ⟨rfl,rfl⟩;exact FE Z Wp
    .refine Qb ?_ (Qb ?_ (Qb ?_ (Qd)))
     iterate 3 exact JB.alloc _ 20 40 9 _ Z Z Z Z Z Z Z (K0.alloc (v:=(.a [I 0,I 0])) E7 (HI Z)) Z
   refine Go 40 Z (vH (Em (xs:=[.tmp 209,.tmp 226]) (es:=map Edge.c [{Ai:=aa,To:=ab,W:=i64.wrap ((i64.wrap ((i64.wrap ((i64.wrap (g.AV.BO-g.AV.Ay))-B.Lo))+g.AV.A1))+a.Hi):Edge},{Ai:=ab,To:=aa,W:=i64.wrap ((i64.wrap ((i64.wrap ((i64.wrap (g.AV.Ay+B.Hi))-g.AV.A1))-a.Lo))-g.AV.BQ):Edge}]) PR Z Z Z Z Z ⟨Z,Z,trivial⟩ Z Z) ?_);refine FE Z (Bd j λbx ax j=>vH (Qu (e:=Edge.c) ax PR Gk (QS (i:=12))) ?_);exact FE Z (Gl 4 Z j [0,1,2,13,4])
  exact Gc 5 Z (Qg F (Lr [0,1,2,3,4]))
 refine Gc 9 Z (Cn Z h (λ_ h=>?_) (λ_ h=>?_))
 .refine Gc 9 Z ?_;obtain rfl:=Oi h;exact Rx [0] [4,5] Z (Qo Z Z (CC.cons (Qf GJ GE Z Z Z) (CC.cons C_.tmp CC.nil))) ⟨Z,Z⟩
 refine Gc 10 Z ?_;obtain rfl:=Oi h;refine⟨[(4,.p 0 0),(5,I ((i64.wrap ((AI u.1:Int)+1),G,0).2.2))],[.c 60 [I ((i64.wrap ((AI u.1:Int)+1),G,0).1),.q 3 (map Edge.c ((i64.wrap ((AI u.1:Int)+1),G,0).2.1))]],_,?_,Qo Z Z (CC.cons (Qf GJ GE Z Z Z) (CC.cons C_.tmp CC.nil)),Z,Z⟩;refine Ep (Ku (i:=2) [] Z Z Fc.nil (FT.cells (Ee (Ef _) (Ee Et (El _))) (FT.cells (Ee (Ef _) (Ee Et (El _))) (Ec (KZ _))))) ?_;exact Lr [0]
def Ng(n:Nat)(e:Bv)(d:Int):AB (Bn Int (Bn Unit Int)):=(bif d<(AI e.BL:Int) then AH (Bt e.BL d) λa=>AH ((bif a.Ai<0 then AC AE else(bif e.AY<=a.Ai then AC AE else(bif a.To<0 then AC AE else(bif e.AY<=a.To then AC AE else(bif a.W<(-35184372088832) then AC AE else AC (AG (35184372088832<a.W))))))):AB Bool) λf=>(bif f then AC (.d (.d 150))else AC (.k (i64.wrap (d+1))))else AC (.d (.k ())))
def Nq(d:Bv):AB Int:=AH ((bif d.AY<1 then AC AE else(bif 512<d.AY then AC AE else AC (AG (8192<(AI d.BL:Int))))):AB Bool) λf=>(bif f then AC 150 else AH (iter (Ng n d) n 0:AB (Bn Unit Int)) λe=>match e with|.k a=>(AC 0)|.d a=>AC a)
theorem ja(w:Bv):Ks (Nq n w) 52 [.a (Bv.c w)] [] (λr=>I r):=by
 refine Kg 8 func52 Z Z Z Z λr h=>Bd h λj e h=>Ct j [0] [1] (λj=>[(18,.b j)]) Ze Zf ?_ (λenv H x=>?_)
 .refine G0 5 Z (Is 8 e Z (λ_ e=>?_) (λ_ e=>?_))
  .exact Gl 11 Z e [0]
  .refine Go 5 Z (Is 13 e Z (λ_ e=>?_) (λ_ e=>?_))
   .exact Gl 6 Z e [0]
   .exact Go 2 Z (Lm Z (Gl 3 Z e [0]))
 refine Gx 1 Z (Eg x (Cn Z h (λ_ h=>?_) (λ_ h=>?_)))
 .exact QG 7 Z h 2 []
 refine Gc 8 Z (Bd h λE F h=>DF (b:=E) [] [] Ze Ze Zf ?_ (λ_ G=>?_))
 .refine G0 1 Z (Lp [0] [1] (λi=>[(3,I i)]) Ze F Zf (Lr [0]) λi L d f=>?_);refine G0 6 Z (Lg 3 Z Z (Q8 Z d (λ_ d=>?_) (λ_ d=>?_)))
  .exact Gc 2 Z (Qj d (Gx 1 Z (Ji f d Z (Lr []))))
  refine Gc 9 Z (Bd d λM l d=>Iz l Z (Go 6 Z (Bd d λg a d=>Cg g [0] [1,3] (λg=>[(62,.b g)]) Ze Zf ?_ ?_)))
  .refine G0 5 Z (Is 34 a Z (λ_ a=>?_) (λ_ a=>?_))
   .exact Gl 29 Z a [0]
   .refine Go 7 Z (Is 41 a Z (λ_ a=>?_) (λ_ a=>?_))
    .exact Gl 22 Z a [0]
    .refine Go 5 Z (Is 46 a Z (λ_ a=>?_) (λ_ a=>?_))
     .exact Gl 17 Z a [0]
     .refine Go 7 Z (Is 53 a Z (λ_ a=>?_) (λ_ a=>?_))
      .exact Gl 10 Z a [0]
      .refine Go 5 Z (Is 58 a Z (λ_ a=>?_) (λ_ a=>?_))
       iterate 2 exact Gl 5 Z a [0]
  refine Cn Z d (λ_ d=>?_) (λ_ d=>?_)
  .refine Gc 8 Z (Qv d ?_);obtain rfl:=Oj f d;exact Gx 1 Z (Qq (Gx 1 Z (Rt h 2 [])))
  exact Gc 8 Z (Qg d (Lr [0]))
 subst G;exact QG 6 Z h 2 []
end Go.Sw
