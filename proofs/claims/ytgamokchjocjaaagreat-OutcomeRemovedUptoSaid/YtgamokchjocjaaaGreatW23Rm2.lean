/- What the functions compute that OutcomeRemoved reaches, and that their calls refine it (part 2 of 6). -/
import Derived.Test.YtgamokchjocjaaaGreatW23Rm1
set_option linter.unusedVariables false
set_option linter.unusedSimpArgs false
set_option maxRecDepth 100000
set_option maxHeartbeats 4000000
namespace Go.Sw
open Option renaming some→AC,none→AF,bind→AH
open Bool renaming false→AD,true→AE
open Decidable renaming decide→AG
open List renaming length→AI
variable (n:Nat)
open List(map)
open Int(toNat)
open Go.IntKind(i64 u64 u8)
open Go.Proofs Tryz
def MD(d:AA Int):AB Bool:=AH (VS n d) λf=>AC (AG (0<=f))
instance xn(d:AA Int):Ks (MD n d) 101 [.q 1 (map (Qe .i64) d),.f 102] [] (λr=>.b r):=KA func101
def Nm(g:CE)(f:Int):AB (CG Int (CG Unit Int)):=(bif f<(AI g.AS:Int) then AH (CJ g.AS f) λd=>AH ((bif d.Am<0 then AC AE else(bif 40<=d.Am then AC AE else(bif d.Ag<0 then AC AE else(bif 255<d.Ag then AC AE else AH (Hn n d.BK) λh=>(bif (!h)then AC AE else(bif 0<f then AH (CJ g.AS (i64.wrap (f-1))) λj=>AH (MA n j d) λk=>AC (AG (0<=k))else AC AD)))))):AB Bool) λm=>(bif m then AC (.d (.d 160))else AC (.k (i64.wrap (f+1))))else AC (.d (.k ())))
def Ns(g:CE)(d:Int):AB (CG Int (CG Unit Int)):=(bif d<(AI g.BN:Int) then AH (CJ g.BN d) λf=>AH ((bif ((AI f:Int) != (i64.wrap ((AI g.AS:Int)+1)))then AC AE else AH (CJ f d) λh=>(bif (h != 0)then AC AE else AH (MD n f) λj=>AC j)):AB Bool) λk=>(bif k then AC (.d (.d 160))else AC (.k (i64.wrap (d+1))))else AC (.d (.k ())))
def Tb(n:Nat)(q:CE)(g:Int)(h:Int)(f:AA Int)(d:Int):AB (CG Int (CG Unit (CG Int (CG Unit (CG Int (CG Unit Int)))))):=(bif d<(AI f:Int) then AH (CJ f d) λj=>AH (CJ q.BN g) λk=>AH (CJ k d) λm=>(bif (i64.wrap (h+j))<m then AC (.d (.d (.d (.d (.d (.d 160))))))else AC (.k (i64.wrap (d+1))))else AC (.d (.k ())))
def Tq(q:CE)(h:Int)(g:AA Int)(d:Int):AB (CG Int (CG Unit (CG Int (CG Unit Int)))):=(bif d<(AI g:Int) then AH (CJ g d) λj=>AH (CJ q.BN d) λk=>AH (iter (Tb n q h j k) n 0:AB (CG Unit (CG Int (CG Unit (CG Int (CG Unit Int)))))) λm=>match m with|.k f=>(AC (.k (i64.wrap (d+1))))|.d f=>AC f else AC (.d (.k ())))
def Nn(g:CE)(d:Int):AB (CG Int (CG Unit Int)):=(bif d<(i64.wrap ((AI g.AS:Int)+1)) then AH (CJ g.BN d) λh=>AH (iter (Tq n g d h) n 0:AB (CG Unit (CG Int (CG Unit Int)))) λj=>match j with|.k f=>(AC (.k (i64.wrap (d+1))))|.d f=>AC f else AC (.d (.k ())))
def Iy(g:CE):AB Int:=AH ((bif 511<(AI g.AS:Int) then AC AE else AC ((AI g.BN:Int) != (i64.wrap ((AI g.AS:Int)+1)))):AB Bool) λq=>(bif q then AC 160 else AH (iter (Nm n g) n 0:AB (CG Unit Int)) λm=>match m with|.k h=>(AH (iter (Ns n g) n 0:AB (CG Unit Int)) λj=>match j with|.k d=>(AH (iter (Nn n g) n 0:AB (CG Unit Int)) λk=>match k with|.k f=>(AC 0)|.d f=>AC f)|.d d=>AC d)|.d h=>AC h)
instance yE(a1:CE):Ks (Iy n a1) 43 [.a (CE.c a1)] [] (λr=>I r):=by
 refine Kg 10 func43 Z Z Z Z λr h=>Lg 5 Z Z (Bd h λb2 h3 h=>Ct b2 [0] [1,3] (λb2=>[(25,.b b2)]) Ze Zf ?_ (λenv H m=>?_))
 .exact au h3
 refine Gx 1 Z (Ef m (Cn Z h (λ_ h=>?_) (λ_ h=>?_)))
 .exact au h
 refine Gc 7 Z (Lg 3 Z Z (Bd h λba bb h=>FT (b:=ba) [0] [1,3] Ze Ze Zf ?_ (λbh env H q m=>?_)))
 .refine G0 1 Z (Lp [0] [1,3,27,28] (λab=>[(29,I ab)]) Ze bb Zf (Lr [0]) λab bu k E=>?_);refine G0 6 Z (Q7 Z k (λ_ k=>?_) (λ_ k=>?_))
  .exact Jc E k
  refine Gc 7 Z (Bd k λbv ad k=>Iz ad Z (Go 7 Z (Bd k λF d k=>Ct F [0] [1,3,27,28,29] (λF=>[(72,.b F)]) Ze Zf ?_ (λenv H m=>?_))))
  .refine G0 0 Z (DR 35 Z (D 4 Z (DS.is 3 d Z Z Z (λ_ d=>?_) (λ_ d=>?_))))
   .exact au d
   .refine D 5 Z (DS.is 8 d Z Z Z (λ_ d=>?_) (λ_ d=>?_))
    .exact au d
    .refine D 5 Z (DS.is 13 d Z Z Z (λ_ d=>?_) (λ_ d=>?_))
     .exact au d
     .refine D 5 Z (DS.is 18 d Z Z Z (λ_ d=>?_) (λ_ d=>?_))
      .exact au d
      .refine D 2 Z ?_;refine Dz [] d Kc Z λbw bi d=>D 3 Z (DS.is 24 d Z Z Z (λ_ d=>?_) (λ_ d=>?_))
       .exact au d
       .refine D 3 Z (DS.is 27 d Z Z Z (λ_ d=>?_) (λ_ d=>?_))
        .refine D 4 Z ?_;obtain⟨t,ak,d⟩:=QF d;refine DS.v (x:=(.rp [I t.Am,I t.Ag,I t.BK])) (Mg (e:=CC.c) (l:=a1.AS) (v:=t) ak ET E7) ?_ (hg:=(gT Z));exact au d
        exact au d
  refine Gx 1 Z (Ef m (Cn Z k (λ_ k=>?_) (λ_ k=>?_)))
  .exact DV E k h
  exact au k
 subst q;refine Gx 1 Z (Ef m (Gc 5 Z (Lg 3 Z Z (Bd h λam an h=>FT (b:=am) [0] [1,3] Ze Ze Zf ?_ (λbc env H q m=>?_)))))
 .refine G0 1 Z (Lp [0] [1,3,75,76] (λG=>[(77,I G)]) Ze an Zf (Lr [0]) λG bj ao N=>?_);exact DV N ao h
 subst q;refine Gx 1 Z (Ef m (Gc 8 Z (Bd h λaq ar h=>D5 (b:=aq) [] [] Ze Ze Zf ?_ (λ_ q=>?_))))
 .refine G0 1 Z (Lp [0] [1,100] (λJ=>[(101,I J)]) Ze ar Zf (Lr [0]) λJ bk j y=>?_);refine G0 6 Z (Q7 Z j (λ_ j=>?_) (λ_ j=>?_))
  .exact Jc y j
  refine Gc 15 Z (Bd j λbl P j=>Iz P Z (Go 1 Z (Lg 3 Z Z (Bd j λav aw j=>FT (b:=av) [0] [1,100,101] Ze Ze Zf ?_ (λbe env H q m=>?_)))))
  .refine G0 1 Z (Lp [0] [1,8,100,101,108,109] (λL=>[(110,I L)]) Ze aw Zf (Lr [0]) λL bm g z=>?_);refine G0 6 Z (Q7 Z g (λ_ g=>?_) (λ_ g=>?_))
   .exact Jc z g
   refine Gc 7 Z (Bd g λbn R g=>Iz R Z (Go 10 Z (Bd g λbo T g=>Iz T Z (Go 1 Z (Lg 3 Z Z (Bd g λax ay g=>FT (b:=ax) [0] [1,8,100,101,108,109,110] Ze Ze Zf ?_ (λbg env H q m=>?_)))))))
   .refine G0 1 Z (Lp [0] [1,8,10,100,101,108,109,110,119,120] (λM=>[(121,I M)]) Ze ay Zf (Lr [0]) λM bp f B=>?_);refine G0 6 Z (Q7 Z f (λ_ f=>?_) (λ_ f=>?_))
    .exact Jc B f
    refine Gc 7 Z (Bd f λbq W f=>Iz W Z (Go 10 Z (Bd f λbr X f=>Iz X Z (Go 2 Z (Bd f λbs Y f=>Iz Y Z (Go 7 Z (Cn Z f (λ_ f=>?_) (λ_ f=>?_))))))))
    .refine Gc 8 Z (Il f ?_);obtain rfl:=Oj B f;refine Gx 1 Z (NR (Gx 2 Z (Il g ?_)));obtain rfl:=Oj z g;exact DV y j h
    exact au f
   subst q;exact Gx 2 Z (Ef m (Gc 4 Z (Q1 g (Lr [0]))))
  subst q;exact Gx 2 Z (Ef m (Gc 4 Z (Q1 j (Lr [0]))))
 subst q;exact au h
def L7(n:Nat)(d:Int):AB Bool:=AH ((bif (-1099511627776)<=d then AC (AG (d<=1099511627776))else AC AD):AB Bool) λf=>AC f
instance xe(d:Int):Ks (L7 n d) 83 [I d] [] (λr=>.b r):=KA func83
def L'(d:Ae):AB Bool:=AH ((bif d.Hi<d.Lo then AC AE else AH (L7 n d.Lo) λg=>(bif (!g)then AC AE else AH (L7 n d.Hi) λf=>(bif (!f)then AC AE else AC (AG (d.AT<0))))):AB Bool) λh=>AC h
instance xj(d:Ae):Ks (L' n d) 82 [.a (Ae.c d)] [] (λr=>.b r):=KA func82
def mo(f:AA Ae)(d:Int):AB (CG Int (CG Unit Int)):=(bif d<(AI f:Int) then AH (CJ f d) λg=>AH (L' n g) λh=>(bif h then AC (.d (.d d))else AC (.k (i64.wrap (d+1))))else AC (.d (.k ())))
def ee(g:AA Ae):AB Int:=AH (iter (mo n g) n 0:AB (CG Unit Int)) λf=>match f with|.k d=>(AC (-1))|.d d=>AC d
instance uT(d:AA Ae):Ks (ee n d) 154 [.q 4 (map Ae.c d),.f 82] [] (λr=>I r):=KA func154
def eS(d:AA Ae):AB Bool:=AH (ee n d) λf=>AC (AG (0<=f))
instance uL(d:AA Ae):Ks (eS n d) 84 [.q 4 (map Ae.c d),.f 82] [] (λr=>.b r):=KA func84
def I2(d:CB)(f:Int):AB (AN×Int):=AH (F0 n d) λg=>(bif (g != 0)then AC (Uu,g)else AH ((bif f<0 then AC AE else AC (AG ((AI d.AO:Int)<=f))):AB Bool) λh=>(bif h then AC (Uu,90)else AH (CJ d.AO f) λj=>AC (j,0)))
instance yH(d:CB)(f:Int):Kq (I2 n d f) 210 [.a (CB.c d),I f] [] (λr=>.t [.a (AN.c r.1),I r.2]) (λr=>[.c 160 (AN.c r.1)]):=KA func210
def Lf(n:Nat)(rec142:(AA CH)->(AA Int)->AB (AA Int))(f:CH)(d:(AA Int)×Int):AB (CG ((AA Int)×Int) (AA Int)):=(bif d.2<f.As then AH (rec142 f.Ac d.1) λg=>AC (.k (g,i64.wrap (d.2+1)))else AC (.d d.1))
def Nk(g:AA CH)(rec142:(AA CH)->(AA Int)->AB (AA Int))(d:(AA Int)×Int):AB (CG ((AA Int)×Int) (AA Int)):=(bif d.2<(AI g:Int) then AH (CJ g d.2) λf=>AH ((bif (f.As==0)then AH (app d.1 [f.Am]) λh=>AC h else AC d.1):AB (AA Int)) λj=>AH (iter (Lf n rec142 f) n (j,0):AB (AA Int)) λk=>AC (.k (k,i64.wrap (d.2+1)))else AC (.d d.1))
def iH(rec142:(AA CH)->(AA Int)->AB (AA Int))(n:Nat)(f:AA CH)(g:AA Int):AB (AA Int):=AH (iter (Nk n f rec142) n (g,0):AB (AA Int)) λd=>AC d
theorem Qbs(rec142:(AA CH)->(AA Int)->AB (AA Int))(Q:∀(E:AA CH) (x:AA Int),Kq (rec142 E x) 270 [.q 3 (map CH.enc E),.p 0 0,.p 1 0] [.c 114 [.o 2 (AI x) 1],.c 403 [.fn (.func 270) [] [.p 0 0,.p 1 0]],.r 3 1 (map (Qe .i64) x)] (λ_=>.t []) (λr=>[.c 114 [.o 3 (AI r) 1],.c 403 [.fn (.func 270) [] [.p 0 0,.p 1 0]],.dead,.r 3 1 (map (Qe .i64) r)]))(n:Nat)(E:AA CH)(x:AA Int):Kq (iH rec142 n E x) 270 [.q 3 (map CH.enc E),.p 0 0,.p 1 0] [.c 114 [.o 2 (AI x) 1],.c 403 [.fn (.func 270) [] [.p 0 0,.p 1 0]],.r 3 1 (map (Qe .i64) x)] (λ_=>.t []) (λr=>[.c 114 [.o 3 (AI r) 1],.c 403 [.fn (.func 270) [] [.p 0 0,.p 1 0]],.dead,.r 3 1 (map (Qe .i64) r)]):=by
 refine Kg 3 func270 Z Z Z Z λr h=>Lg 3 Z Z (Bd h λy R h=>Ct y [0,1,2,0] [] Ze (λy=>[(0,.c 114 [.o 3 (AI y) 1]),(2,.dead),(3,.r 3 1 (map (Qe .i64) y))]) Zf ?_ (λenv H f=>?_))
 .refine G0 1 Z (Lp [0,1,2,2] [1,2,6,7] (λq=>[(8,I q.2)]) (λq=>[(0,.c 114 [.o 3 (AI q.1) 1]),(2,.dead),(3,.r 3 1 (map (Qe .i64) q.1))]) R Zf ?_ ?_)
  .refine Eo (ZK (i:=2) (j:=0) (m:=0) Z Z Z Z Z) ?_;exact Lr [0,1,2,3]
  intro q V d G;refine G0 6 Z (Q7 Z d (λ_ d=>?_) (λ_ d=>?_))
  .exact Gc 2 Z (QI d (Gx 1 Z (DU G d (Lr [0,1,2,3]))))
  refine Gc 6 Z (Bd d λF L d=>FJ L (QL F) Z (Go 13 Z (Bd d λz g d=>Ct z [0,1,2,0,4] [1,2,5,6,7,8] Ze (λz=>[(0,.c 114 [.o 3 (AI z) 1]),(3,.r 3 1 (map (Qe .i64) z))]) Zf ?_ (λenv H f=>?_))))
  .refine G0 0 Z (Cn Z g (λ_ g=>?_) (λ_ g=>?_))
   .refine Gc 4 Z (vH (El (xs:=[.tmp 17]) (es:=map (Qe .i64) [F.Am]) Qu Z Z Z Z Z ⟨Z,trivial⟩ Z Z) ?_);refine FE Z (Bd g λW N g=>vH (Ql (e:=(Qe .i64)) N Qu EC (QE (i:=5))) ?_);exact au g
   exact au g
  refine Gx 1 Z (Ef f (Gc 7 Z (Bd d λB T d=>Ct B [0,1,2,3] [1,2,6,7,8] Ze (λB=>[(0,.c 114 [.o 3 (AI B) 1]),(3,.r 3 1 (map (Qe .i64) B))]) Zf ?_ (λenv H f=>?_))))
  .refine G0 1 Z (Lp [0,1,2,3,4] [1,2,5,6,7,8,21] (λt=>[(22,I t.2)]) (λt=>[(0,.c 114 [.o 3 (AI t.1) 1]),(3,.r 3 1 (map (Qe .i64) t.1))]) T Zf (Lr [0,1,2,3,4]) λt X k O=>?_);refine G0 6 Z (Q7 Z k (λ_ k=>?_) (λ_ k=>?_))
   .exact Gc 2 Z (QI k (Gx 1 Z (DU O k (Lr [0,1,2,3]))))
   exact au k
  exact Gx 2 Z (Ef f (Gc 4 Z (Q1 d (Lr [0,1,2,3]))))
 obtain rfl:=Oi h;have f:=f;refine⟨[],_,_,?_,Hg.nil Z,Z,Z⟩;refine Eo f ?_;exact Lr [0,1,2,3]
def RO:Nat->(AA CH)->(AA Int)->AB (AA Int)
  |0=>λ_ _=>AF
  |n+1=>iH (RO n) n
instance k_r:∀(f:AA CH) (d:AA Int),Kq (RO n f d) 270 [.q 3 (map CH.enc f),.p 0 0,.p 1 0] [.c 114 [.o 2 (AI d) 1],.c 403 [.fn (.func 270) [] [.p 0 0,.p 1 0]],.r 3 1 (map (Qe .i64) d)] (λ_=>.t []) (λr=>[.c 114 [.o 3 (AI r) 1],.c 403 [.fn (.func 270) [] [.p 0 0,.p 1 0]],.dead,.r 3 1 (map (Qe .i64) r)]):=by
  induction n with
  |zero=>exact λ_ _=>⟨nofun⟩
  |succ n ih=>exact Qbs _ ih n
def O1(d:AA CH):AB (AA Int):=AH (RO n d ([]:AA Int)) λf=>AC f
instance w8(d:AA CH):Kq (O1 n d) 211 [.q 3 (map CH.enc d)] [] (λr=>.o 0 (AI r) 1) (λr=>[.r 3 1 (map (Qe .i64) r),.c 114 [.o 0 (AI r) 1]]):=by
 refine Kg 20 func211 Z Z Z Z λr h=>(Eu (Ya (i:=0) (m:=0) (t:=3) (k:=1) Z Z Z) ?_);exact au h
def ef(n:Nat)(d:Int)(f:Int):AB Unit:=AC ()
instance uU(d:Int)(f:Int):Ks (ef n d f) 160 [.i .u64 d,.i .u64 f] [] (λ_=>.t [.i .u64 (u64.wrap ((u64.wrap ((u64.wrap ((Y5 .u64 d 32)*(Y5 .u64 f 32)))+(Y5 .u64 (u64.wrap ((u64.wrap ((Y5 .u64 d 32)*(Jh .u64 f 4294967295)))+(Y5 .u64 (u64.wrap ((Jh .u64 d 4294967295)*(Jh .u64 f 4294967295))) 32))) 32)))+(Y5 .u64 (u64.wrap ((Jh .u64 (u64.wrap ((u64.wrap ((Y5 .u64 d 32)*(Jh .u64 f 4294967295)))+(Y5 .u64 (u64.wrap ((Jh .u64 d 4294967295)*(Jh .u64 f 4294967295))) 32))) 4294967295)+(u64.wrap ((Jh .u64 d 4294967295)*(Y5 .u64 f 32))))) 32))),.i .u64 (u64.wrap (d*f))]):=by
 refine Kg 9 func160 Z Z Z Z λr h=>(vV (CU.and Z Z Z) ?_);refine Go 6 Z (vV (CU.shr Z Z Z (by decide)) ?_);refine Go 6 Z (vV (CU.and Z Z Z) ?_);refine Go 6 Z (vV (CU.shr Z Z Z (by decide)) ?_);refine Go 17 Z ?_;refine vV (CU.shr Z Z Z (by decide)) (Go 7 Z ?_);refine vV (CU.and Z Z Z) (Go 6 Z ?_);refine vV (CU.shr Z Z Z (by decide)) (Go 21 Z ?_);refine vV (CU.shr Z Z Z (by decide)) (Go 13 Z ?_);exact R2 4 5 Z Z (Lr [])
def eh(d:Int)(f:Int):AB Unit:=AH (ef n d f) λg=>AC ()
instance uV(d:Int)(f:Int):Ks (eh n d f) 94 [.i .u64 d,.i .u64 f] [] (λ_=>.t [.i .u64 (u64.wrap ((u64.wrap ((u64.wrap ((Y5 .u64 d 32)*(Y5 .u64 f 32)))+(Y5 .u64 (u64.wrap ((u64.wrap ((Y5 .u64 d 32)*(Jh .u64 f 4294967295)))+(Y5 .u64 (u64.wrap ((Jh .u64 d 4294967295)*(Jh .u64 f 4294967295))) 32))) 32)))+(Y5 .u64 (u64.wrap ((Jh .u64 (u64.wrap ((u64.wrap ((Y5 .u64 d 32)*(Jh .u64 f 4294967295)))+(Y5 .u64 (u64.wrap ((Jh .u64 d 4294967295)*(Jh .u64 f 4294967295))) 32))) 4294967295)+(u64.wrap ((Jh .u64 d 4294967295)*(Y5 .u64 f 32))))) 32))),.i .u64 (u64.wrap (d*f))]):=by
 refine Kg 14 func94 Z Z Z Z λr h=>Cd [] h Kc Z λj g h=>Fg 16 Z Z ?_;exact R2 4 5 Z Z (Lr [])
def Nf(n:Nat)(d:(AA Int)×Int):AB (CG ((AA Int)×Int) (AA Int)):=(bif d.2<(AI d.1:Int) then AH (Dd d.1 d.2 (AI d.1:Int)) λh=>AH (Dd d.1 0 d.2) λf=>AH (Pw d.1 d.2 (AI d.1:Int) f) λg=>AC (.k (g,i64.wrap (d.2+((min (AI f) ((AI d.1:Int).toNat-d.2.toNat):Nat):Int))))else AC (.d d.1))
def Kb(d:AA Int)(f:Int):AB (AA Int):=AH ((bif f<0 then AF else AC ()):AB Unit) λq=>AH (eh n (u64.wrap (AI d:Int)) (u64.wrap f)) λt=>AH ((bif 0<(u64.wrap ((u64.wrap ((u64.wrap ((Y5 .u64 (u64.wrap (AI d:Int)) 32)*(Y5 .u64 (u64.wrap f) 32)))+(Y5 .u64 (u64.wrap ((u64.wrap ((Y5 .u64 (u64.wrap (AI d:Int)) 32)*(Jh .u64 (u64.wrap f) 4294967295)))+(Y5 .u64 (u64.wrap ((Jh .u64 (u64.wrap (AI d:Int)) 4294967295)*(Jh .u64 (u64.wrap f) 4294967295))) 32))) 32)))+(Y5 .u64 (u64.wrap ((Jh .u64 (u64.wrap ((u64.wrap ((Y5 .u64 (u64.wrap (AI d:Int)) 32)*(Jh .u64 (u64.wrap f) 4294967295)))+(Y5 .u64 (u64.wrap ((Jh .u64 (u64.wrap (AI d:Int)) 4294967295)*(Jh .u64 (u64.wrap f) 4294967295))) 32))) 4294967295)+(u64.wrap ((Jh .u64 (u64.wrap (AI d:Int)) 4294967295)*(Y5 .u64 (u64.wrap f) 32))))) 32))) then AC AE else AC (AG (9223372036854775807<(u64.wrap ((u64.wrap (AI d:Int))*(u64.wrap f)))))):AB Bool) λk=>AH ((bif k then AF else AC ()):AB Unit) λm=>AH (mk (i64.wrap (u64.wrap ((u64.wrap (AI d:Int))*(u64.wrap f)))) 0) λg=>AH (Pw g 0 (AI g:Int) d) λh=>AH (iter (Nf n) n (h,((min (AI d) (AI g):Nat):Int)):AB (AA Int)) λj=>AC j
instance jI(L:AA Int)(M:Int):Kq (Kb n L M) 32 [.q 1 (map (Qe .i64) L),I M] [] (λr=>.o 0 (AI r) 1) (λr=>[.r 3 1 (map (Qe .i64) r)]):=by
 refine Kg 12 func32 Z Z Z Z λr h=>Bd h λT q h=>Ct T [] [0,1] Ze Ze Zf ?_ (λenv H g=>?_)
 .refine G0 0 Z (Cn Z q (λ_ q=>?_) (λ_ q=>?_))
  .cases q
  exact Gcl 1 Z q []
 refine Gx 1 Z (Ef g (Gc 3 Z (Lm Z ?_)));refine vV (RH Z E5 GS Z) ?_;refine Go 1 Z ?_;refine vV (RH Z E5 GS Z) ?_;refine Cd [] h Kc Z λr5 W h=>Fg 9 Z Z (Bd h λB V h=>Ct B [] [0,6] (λB=>[(26,.b B)]) Ze Zf ?_ (λenv H g=>?_))
 .exact au V
 refine Gx 1 Z (Ef g (Bd h λO j h=>Ct O [] [0,6] Ze Ze Zf ?_ (λenv H g=>?_)))
 .refine G0 0 Z (Cn Z j (λ_ j=>?_) (λ_ j=>?_))
  .cases j
  exact au j
 refine Gx 1 Z (Ef g (Gc 3 Z ?_));refine vV (RH Z GS E5 Z) ?_;refine Bd h λX F h=>vH (kN (e:=(Qe .i64)) (zv:=0) (a:=(I 0)) F Qu EX Ep Z Z Z Z) ?_;refine Fg 7 Z Z (Bd h λY t h=>vH (QmF (e:=(Qe .i64)) t EC ED _O) ?_);refine FE Z ?_;refine Eu (Q4 (s:=7) Z (congrArg (λn=>A.s 0 0 n 1) (Qot t))) ?_;refine Go 4 Z (Bd h λk P h=>Cg k [0] [] (λk=>[(7,.o 0 (AI k) 1)]) (λk=>[(0,.r 3 1 (map (Qe .i64) k))]) Zf ?_ ?_)
 .refine G0 1 Z (Lp [0] [] (λd=>[(7,.o 0 (AI d.1) 1),(8,I d.2)]) (λd=>[(0,.r 3 1 (map (Qe .i64) d.1))]) P Zf (Lr [0]) λd aa f G=>?_);refine G0 9 Z (Q7 Z f (λ_ f=>?_) (λ_ f=>?_))
  .exact Gc 2 Z (QI f (Gx 1 Z (DU G f (Lr [0]))))
  refine Gc 3 Z (HF 8 [7] [(0,0,1),(0,0,0),(0,0,0),(0,0,0),(0,0,0),(0,0,0),(0,0,0),(1,0,0)] (by kernel_rfl) (Dk 3 Z ?_));obtain⟨ab,m,f⟩:=QF f;refine DK.wo (x:=.s 0 (0+toNat d.2) (toNat (AI d.1:Int)-toNat d.2) 1) ?_ ?_
  .refine vV (QO (l:=d.1) m EC ED (.inr ⟨_,Z,Z⟩) (.inl ⟨Z,Z⟩)) ?_;exact Wp
  refine Dk 2 Z ?_;obtain⟨Q,y,f⟩:=QF f;refine DK.wo (x:=.s 0 (0+toNat 0) (toNat d.2-toNat 0) 1) ?_ ?_
  .refine vV (QO (l:=d.1) y EC ED (.inl ⟨Z,Z⟩) (.inr ⟨_,Z,Z⟩)) ?_;exact Wp
  obtain⟨R,z,f⟩:=QF f;refine Ey (x:=I ((min (AI Q) ((AI d.1:Int).toNat-d.2.toNat):Nat):Int)) (X1:=[.r 3 1 (map (Qe .i64) R)]) ?_ ?_
  .refine vH (QmG (e:=(Qe .i64)) m z EC ED (_N (b:=0) y)) ?_;exact FE Z Wp
  refine DK.done Z Z ?_;refine Eu (Q4 (s:=7) Z (congrArg (λn=>A.s 0 0 n 1) (_Y m z))) ?_;exact au f
 exact au h
def F5(d:CB)(f:Int)(g:Int):CT->Go.Sw.A->Qd->Prop
  |.c0 x,a,H=>a=.t [.a [.q 1 (map (Qe .i64) []),.nilm],I x]/\H=[.c 278 [.q 1 (map (Qe .i64) []),.nilm]]
  |.c1 x,a,H=>a=.t [.a [.q 1 (map (Qe .i64) []),.nilm],I 90]/\H=[.c 278 [.q 1 (map (Qe .i64) []),.nilm]]
  |.c2 x,a,H=>a=.t [.a [.o 0 (AI x) 1,.nilm],I 2]/\H=[.r 3 1 (map (Qe .i64) x),.c 278 [.o 0 (AI x) 1,.nilm]]
  |.c3 x,a,H=>a=.t [.a [.o 0 (AI x.1) 1,.map 1],I 0]/\H=[.r 3 1 (map (Qe .i64) x.1),.map (Qn (λx=>A.a (Ub.c x)) (λx=>A.a (Co.c x)) x.2),.c 278 [.o 0 (AI x.1) 1,.map 1]]
def Ln(n:Nat)(j:AN×Int)(f:AA Int)(d:Int):AB (CG Int Int):=AH ((bif 0<d then AH (CJ f d) λg=>AC (g != j.1.Ak)else AC AD):AB Bool) λh=>(bif h then AC (.k (i64.wrap (d-1)))else AC (.d d))
def Ip(n:Nat)(g:CB)(d:(AA (Ub×Co))×Int):AB (CG ((AA (Ub×Co))×Int) (AA (Ub×Co))):=(bif d.2<(AI g.Az:Int) then AH (CJ g.Az d.2) λf=>AH (AC (QJ d.1 ({BW:=f.A',to_:=f.To:Ub}) f)) λh=>AC (.k (h,i64.wrap (d.2+1)))else AC (.d d.1))
def Ho(h:CB)(x:Int)(g:Int):AB CT:=AH (I2 n h x) λf=>(bif (f.2 != 0)then AC (CT.c0 f.2)else AH ((bif g<0 then AC AE else(bif 0<g then AC (AG (f.1.Ak<0))else AC AD)):AB Bool) λy=>(bif y then AC (CT.c1 ())else AH (O1 n f.1.Ad) λd=>(bif (i64.wrap (256-(AI d:Int)))<g then AC (CT.c2 d)else AH ((bif 0<g then AH (iter (Ln n f d) n (i64.wrap ((AI d:Int)-1)):AB Int) λj=>AH (Kb n [f.1.Ak] g) λk=>AH (Wv d (i64.wrap (j+1)) k) λm=>AC m else AC d):AB (AA Int)) λq=>AH (iter (Ip n h) n ([],0):AB (AA (Ub×Co))) λt=>AC (CT.c3 (q,t)))))
theorem aQ(N:CB)(P:Int)(Q:Int)(r:CT)(h:Ho n N P Q=AC r):C prog 138 [.a (CB.c N),I P,I Q] [] (F5 N P Q r):=by
 refine gj func138 Z Z Z ?_;refine G0 11 Z (Cd [] h Kc Z λO am h=>Fg 15 Z Z (Cn Z h (λ_ h=>?_) (λ_ h=>?_)))
 .refine Gc 10 Z ?_;obtain rfl:=Oi h;exact Rx [1] [6,7] Z (QH Z Z (C4.cons (Yg isAgg278 G4 Z Z Z) (C4.cons Dq.tmp C4.nil))) ⟨Z,Z⟩
 refine Gc 4 Z (Bd h λR h6 h=>Ct R [0,1,3] [2,3,6,8] (λR=>[(32,.b R)]) Ze Zf ?_ (λenv H j=>?_))
 .exact au h6
 refine Gx 1 Z (Ef j (Cn Z h (λ_ h=>?_) (λ_ h=>?_)))
 .refine Gc 9 Z ?_;obtain rfl:=Oi h;exact Rx [1] [6,7] Z (QH Z Z (C4.cons (Yg isAgg278 G4 Z Z Z) (C4.cons Dq.tmp C4.nil))) ⟨Z,Z⟩
 refine Gc 6 Z (Cd [] h Kc Z λy al h=>Fg 15 Z Z (Cn Z h (λ_ h=>?_) (λ_ h=>?_)))
 .refine Gc 9 Z ?_;obtain rfl:=Oi h;exact Rx [3,1] [6,7] Z (QH Z Z (C4.cons (Yg isAgg278 G4 Z Z Z) (C4.cons Dq.tmp C4.nil))) ⟨Z,Z⟩
 refine Gc 9 Z (Bd h λq d h=>Ct q [0,1,0] [3,6] Ze (λq=>[(1,.c 278 [.o 2 (AI q) 1,.nilm]),(2,.r 3 1 (map (Qe .i64) q))]) Zf ?_ (λenv H j=>?_))
 .refine G0 0 Z (Cn Z d (λ_ d=>?_) (λ_ d=>?_))
  .refine Gc 10 Z (Bd d λB ai d=>Ct B [0,1,2,3] [2,3,6] (λB=>[(8,.p 3 0),(9,I B)]) (λ_=>[(1,.c 278 [.o 2 (AI y) 1,.nilm]),(2,.r 3 1 (map (Qe .i64) y)),(3,.c 160 (AN.c O.1))]) Zf ?_ (λenv H j=>?_))
   .refine G0 1 Z (Lp [0,1,3,2] [2,3,6,8] (λE=>[(9,I E)]) (λ_=>[(1,.c 278 [.o 2 (AI y) 1,.nilm])]) ai Zf (Lr [0,1,3,2]) λE an g W=>?_);refine G0 2 Z (Bd g λF t g=>Ct F [0,1,2,3] [2,3,6,8,9] (λF=>[(62,.b F)]) Ze Zf ?_ (λenv H j=>?_))
    .refine G0 0 Z (DR 10 Z (D 3 Z (DS.is 2 t Z Z Z (λ_ t=>?_) (λ_ t=>?_))))
     .refine D 3 Z ?_;obtain⟨aj,G,t⟩:=QF t;refine DS.v (x:=(.p 2 (toNat E*1))) (Qf G Z EC ED) ?_ (hg:=(gT Z));refine DS.v (x:=(I aj)) (EA Z EF Z (Qi G)) ?_ (hg:=(gT Z));exact au t
     exact au t
    refine Gx 1 Z (Ef j (Q7 Z g (λ_ g=>?_) (λ_ g=>?_)))
    .exact Gc 2 Z (QI g (Gx 1 Z (DU W g (Lr [0,1,2,3]))))
    exact au g
   refine Gx 1 Z (Ef j (HF 9 [8] [(0,0,1),(0,0,1),(0,0,1),(0,0,1),(0,0,0),(0,0,0),(0,0,0),(0,0,0),(1,0,0)] (by kernel_rfl) (Dk 1 Z ?_)));refine JR (lo:=0) (x:=.o 2 (AI y) 1) ⟨Z,trivial⟩ ?_;refine Dk 4 Z ?_;refine DK.wo (x:=.q 1 (map (Qe .i64) [O.1.Ak])) ?_ ?_
   .refine vH (QM (xs:=[.tmp 70]) (es:=map (Qe .i64) [O.1.Ak]) Qu Z Z Z Z Z ⟨Z,trivial⟩ Z Z) ?_;exact FE Z Wp
   refine Dk 1 Z ?_;obtain⟨J,aa,d⟩:=QF d;refine Ey (x:=.o 4 (AI J) 1) (X1:=[.c 33 (CB.c N),.c 278 [.o 2 (AI y) 1,.nilm],.r 3 1 (map (Qe .i64) y),.c 160 (AN.c O.1),.r 3 1 (map (Qe .i64) J)]) ?_ ?_
   .refine Qh [] (C6.fn call32 Z Z Z) ((jI _ _ _).c _ aa) ?_;rintro _ _ ⟨rfl,rfl⟩;exact FE Z Wp
   refine DK.done Z Z (Bd d λao ab d=>?_);refine Qh [2,4] (C6.fn call212 Z Z Z) (QmO Qez (m:=J) ab) ?_;rintro _ _ ⟨rfl,rfl⟩;exact au d
  exact au d
 refine Gx 1 Z (Ef j (Gc 2 Z (vH Yh ?_)));refine Fg 9 Z Z (Lg 3 Z Z (Bd h λL ak h=>Cg L [0,1,2] [] (λ_=>[(6,.p 0 0)]) (λL=>[(0,.c 278 [.o 1 (AI q) 1,.map 2]),(1,.r 3 1 (map (Qe .i64) q)),(2,.map (Qn (λx=>A.a (Ub.c x)) (λx=>A.a (Co.c x)) L))]) Zf ?_ ?_))
 .refine G0 1 Z (Lp [1,2,3] [6,79,80] (λz=>[(81,I z.2)]) (λz=>[(0,.c 278 [.o 1 (AI q) 1,.map 2]),(2,.map (Qn (λx=>A.a (Ub.c x)) (λx=>A.a (Co.c x)) z.1))]) ak Zf (Lr [1,2,3]) λz aq f ac=>?_);refine G0 6 Z (Q7 Z f (λ_ f=>?_) (λ_ f=>?_))
  .exact Gc 2 Z (QI f (Gx 1 Z (DU ac f (Lr [0,1,2]))))
  refine Gc 6 Z (Bd f λM ae f=>Iz ae Z (Go 14 Z (Bd f λar af f=>?_)));refine vU (Yd (ev:=(λx=>A.a (Co.c x))) (k:=({BW:=M.A',to_:=M.To:Ub})) (v:=M) (l:=z.1) q? af Z underlying276) ?_;exact au f
 refine Gc 8 Z ?_;obtain rfl:=Oi h;exact Rx [1,2,0] [6,7] Z (QH Z Z (C4.cons (Yg isAgg278 G4 Z Z Z) (C4.cons Dq.tmp C4.nil))) ⟨Z,Z⟩
def IK(j:CB)(k:Int)(m:Int):AB ((AA Int)×Int):=AH (AH (Ho n j k m) λq=>(match q with|.c0 f=>(AC (f,[]))|.c1 t=>(AC (90,[]))|.c2 g=>(AC (2,g))|.c3 h=>(AC (0,h.1))):AB (Int×(AA Int))) λd=>(bif (d.1 != 0)then AC ([],d.1)else AC (d.2,0))
instance aM(q:CB)(t:Int)(x:Int):Ks (IK n q t x) 76 [.a (CB.c q),I t,I x] [] (λr=>.t [.q 1 (map (Qe .i64) r.1),I r.2]):=by
 refine Kg 8 func76 Z Z Z Z λr h=>Bd h λg f h=>Cg g [0] [] (λg=>[(7,I g.1),(8,.p 0 0)]) (λg=>[(0,.c 278 [.q 1 (map (Qe .i64) g.2),.any])]) Zf ?_ ?_
 .refine G0 4 Z (Bd f λz y f=>?_);refine Qh [] (C6.fn call138 Z Z Z) (aQ _ _ _ _ _ y) ?_;intro ra rH d;rcases z with B|E|F|G
  .obtain⟨rfl,rfl⟩:=d;refine Fg 7 Z Z ?_;cases f;exact Eo (gM (i:=2) (m:=1) Z) (Lr [2])
  .obtain⟨rfl,rfl⟩:=d;refine Fg 7 Z Z ?_;cases f;refine Eo (gM (i:=2) (m:=1) Z) ?_;exact Lr [2]
  .obtain⟨rfl,rfl⟩:=d;refine Fg 7 Z Z ?_;cases f;refine Eo (Yo [(9,_),(13,_),(14,_)] Z Z (Cy.cons Z (DM.tup (Ed (DM.agg (Ed Er (Ek _))) (Ek _))) (Cy.cons Z (DM.tup (Ed (DM.agg (Ed Er (Ek _))) (Ek _))) (Cy.cons Z (DM.agg (Ed Er (Ek _))) Cy.nil))) (Ec (Ec (Dh.cells (Ed Er (Ek _)) (Dh.cells (Ed Er (Ek _)) (QT _)))))) ?_;exact Eo (gM (i:=3) (m:=1) Z) (Lr [3])
  .obtain⟨rfl,rfl⟩:=d;refine Go 7 Z ?_;cases f;refine Eo (Yo [(9,_),(13,_),(14,_)] Z Z (Cy.cons Z (DM.tup (Ed (DM.agg (Ed Er (Ek _))) (Ek _))) (Cy.cons Z (DM.tup (Ed (DM.agg (Ed Er (Ek _))) (Ek _))) (Cy.cons Z (DM.agg (Ed Er (Ek _))) Cy.nil))) (Ec (Ec (Ec (Dh.cells (Ed Er (Ek _)) (Dh.cells (Ed Er (Ek _)) (QT _))))))) ?_;refine Eo (gM (i:=4) (m:=1) Z) ?_;exact Lr [4]
 refine Gc 7 Z (Cn Z h (λ_ h=>?_) (λ_ h=>?_))
 .refine Gc 9 Z ?_;obtain rfl:=Oi h;refine R2 6 7 Z Z ?_;refine Eo (gO (s:=6) (k:=1) Z) ?_;exact Lr []
 exact au h
def Iv(n:Nat)(d:Int):AB Bool:=AH ((bif (-1099511627776)<=d then AC (AG (d<=1099511627776))else AC AD):AB Bool) λf=>AC f
instance yC(d:Int):Ks (Iv n d) 155 [I d] [] (λr=>.b r):=KA func155
def MH(d:Ud)(f:Ud):AB Int:=AH (KM n d.B8 f.B8) λg=>AH (KM n d.mat f.mat) λh=>AH (KM n d.BS f.BS) λj=>AH (I3 n [g,h,j]) λk=>AC k
instance xr(d:Ud)(f:Ud):Ks (MH n d f) 156 [.a (Ud.c d),.a (Ud.c f)] [] (λr=>I r):=KA func156
def Nd(z:CB)(k:AA CN)(f:Int):AB (CG Int (CG Unit Int)):=(bif f<(AI k:Int) then AH (AH (CJ k f) λd=>AH ((bif d.Am<0 then AC AE else(bif (AI z.Au:Int)<=d.Am then AC AE else(bif d.Ag<0 then AC AE else(bif 255<d.Ag then AC AE else(bif d.BA<0 then AC AE else(bif 1048576<d.BA then AC AE else AH (Iv n d.BO) λm=>(bif (!m)then AC AE else AH (Iv n d.A9) λq=>(bif (!q)then AC AE else AC (AG (d.A9<d.BO)))))))))):AB Bool) λt=>(bif t then AC (.d (.d (.d 170)))else(bif (f==0)then AC (.k ())else AH (CJ k (i64.wrap (f-1))) λg=>AH (MH n ({B8:=g.BA,mat:=g.Am,BS:=g.Ag:Ud}) ({B8:=d.BA,mat:=d.Am,BS:=d.Ag:Ud})) λh=>AH ((bif 0<h then AC (AG (0<h))else(bif (h==0)then AC (AG ((i64.wrap (d.BO-g.A9))<=z.AQ.A6))else AC AD)):AB Bool) λx=>(bif x then AC (.d (.d (.d 170)))else AC (.k ())))):AB (CG Unit (CG Int (CG Unit Int)))) λy=>match y with|.k j=>(AC (.k (i64.wrap (f+1))))|.d j=>AC j else AC (.d (.k ())))
def OV(g:CB)(j:AA CN):AB Int:=AH (F0 n g) λh=>(bif (h != 0)then AC h else AH (iter (Nd n g j) n 0:AB (CG Unit Int)) λf=>match f with|.k d=>(AC 0)|.d d=>AC d)
instance wZ(M:CB)(N:AA CN):Ks (OV n M N) 85 [.a (CB.c M),.q 5 (map CN.c N)] [] (λr=>I r):=by
 refine Kg 10 func85 Z Z Z Z λr h=>Cz [] h Kc Z λr1 ab h=>Go 9 Z (Cn Z h (λ_ h=>?_) (λ_ h=>?_))
 .exact au h
 refine Gc 11 Z (Lg 3 Z Z (Bd h λE F h=>D5 (b:=E) [] [] Ze Ze Zf ?_ (λ_ P=>?_)))
 .refine G0 1 Z (Lp [0] [1,2,6,16,17] (λm=>[(18,I m)]) Ze F Zf (Lr [0]) λm W f g=>?_);refine G0 6 Z (Q7 Z f (λ_ f=>?_) (λ_ f=>?_))
  .exact Jc g f
  refine Gc 3 Z (Bd f λG d f=>D5 (b:=G) [0] [1,2,6,16,17,18] Ze Ze Zf ?_ (λ_ hb=>?_))
  .refine G0 4 Z (Bd d λX t d=>Iz t Z (Go 8 Z (Bd d λj J d=>Ct j [0,1] [1,2,6,7,8,16,17,18] (λj=>[(74,.b j)]) Ze Zf ?_ (λenv H Q=>?_))))
   .exact au J
   refine Gx 1 Z (Ef Q (Cn Z d (λ_ d=>?_) (λ_ d=>?_)))
   .refine Gc 8 Z ?_;cases d;exact DV g f h
   refine Gc 9 Z (Cn Z d (λ_ d=>?_) (λ_ d=>?_))
   .refine Gc 3 Z ?_;cases d;exact J7 Z (Lr [0])
   refine Gc 7 Z (Bd d λY z d=>Iz z Z (Go 21 Z (Cz [] d Kc Z λaa V d=>Go 12 Z (Bd d λk L d=>Cg k [0] [1,2,6,16,17,18] (λk=>[(97,.b k)]) Ze Zf ?_ ?_))))
   .exact au L
   refine Cn Z d (λ_ d=>?_) (λ_ d=>?_)
   .refine Gc 8 Z ?_;cases d;exact DV g f h
   refine Gc 3 Z ?_;cases d;exact J7 Z (Lr [0])
  subst hb;exact au f
 subst P;exact au h
def WK(n:Nat)(d:CC)(f:CN):AB Unit:=AC ()
instance vZ(d:CC)(f:CN):Ks (WK n d f) 87 [.a (CC.c d),.p 0 0] [.c 129 (CN.c f)] (λ_=>.b (({mat:=d.Am,BS:=d.Ag:Uf})==({mat:=f.Am,BS:=f.Ag:Uf}))):=by
 refine Kg 18 func87 Z Z Z Z λr h=>(vV (gm (p:={mat:=d.Am,BS:=d.Ag:Uf}) (q:={mat:=f.Am,BS:=f.Ag:Uf}) _b Z Z) ?_);exact au h
def TA(h:AA CC)(g:CN)(d:Int):AB (CG Int (CG Unit Int)):=(bif d<(AI h:Int) then AH (CJ h d) λf=>AH (WK n f g) λj=>(bif (({mat:=f.Am,BS:=f.Ag:Uf})==({mat:=g.Am,BS:=g.Ag:Uf}))then AC (.d (.d d))else AC (.k (i64.wrap (d+1))))else AC (.d (.k ())))
def O3(g:AA CC)(h:CN):AB Int:=AH (iter (TA n g h) n 0:AB (CG Unit Int)) λf=>match f with|.k d=>(AC (-1))|.d d=>AC d
instance w_(d:AA CC)(f:CN):Ks (O3 n d f) 86 [.q 3 (map CC.c d),.fn (.func 87) [] [.p 0 0]] [.c 129 (CN.c f)] (λr=>I r):=KA func86
def KW(n:Nat)(f:CB)(d:Int):AB Bool:=AH ((bif 0<=d then AC (AG (d<(AI f.Au:Int)))else AC AD):AB Bool) λg=>AC g
instance xz(d:CB)(f:Int):Ks (KW n d f) 157 [.a (CB.c d),I f] [] (λr=>.b r):=KA func157
def Ol(n:Nat)(d:Int)(f:Int):AB (Int×Int):=AH ((bif d<(-2199023255552) then AC AE else(bif 2199023255552<d then AC AE else(bif f<0 then AC AE else AC (AG (100000<f))))):AB Bool) λg=>(bif g then AC (0,1)else AC (i64.wrap (Int.tdiv (i64.wrap ((i64.wrap ((i64.wrap ((if d<i64.wrap (0-d)then i64.wrap (0-d)else d)*f))+1000000))-1)) 1000000),0))
instance wt(f:Int)(g:Int):Ks (Ol n f g) 255 [I f,I g] [] (λr=>.t [I r.1,I r.2]):=by
 refine Kg 8 func255 Z Z Z Z λr h=>Bd h λd k h=>Cg d [] [0,1] (λd=>[(19,.b d)]) Ze Zf ?_ ?_
 .exact au k
 refine Cn Z h (λ_ h=>?_) (λ_ h=>?_)
 .exact au h
 refine Gc 7 Z (vV (CU.max Z Z Z Z) ?_);refine Go 4 Z (vV (CU.quo Z Z Z (by decide)) ?_);exact au h
def IM(d:CB)(f:CC)(j:Int):AB CK:=AH (CJ d.Au f.Am) λk=>AH ((bif (k.AY != 1)then AH (Ol n (i64.wrap (j-f.BK)) d.AQ.BG) λg=>AC ({Lo:=i64.wrap (0-g.1),Hi:=i64.wrap (d.AQ.Al+g.1):CK})else AC ({Lo:=0,Hi:=d.AQ.Al:CK})):AB CK) λh=>AC ({Lo:=h.Lo,Hi:=h.Hi:CK})
instance aO(f:CB)(g:CC)(j:Int):Kq (IM n f g j) 158 [.a (CB.c f),.a (CC.c g),I j] [] (λr=>.a [I r.Lo,I r.Hi]) (λr=>[.c 67 [I r.Lo,I r.Hi]]):=by
 refine Kg 24 func158 Z Z Z Z λr h=>Bd h λq k h=>Iz k Z (Go 5 Z (Bd h λd m h=>Cg d [2,3] [6,7] Ze (λd=>[(1,.c 67 [I d.Lo,I d.Hi])]) Zf ?_ ?_))
 .exact au m
 exact au h
def I4(f:CB)(g:CC)(h:Int):AB (CK×Int):=AH (F0 n f) λj=>(bif (j != 0)then AC ({Lo:=0,Hi:=0:CK},j)else AH (AH (KW n f g.Am) λk=>(bif (!k)then AC AE else AH (Hn n h) λm=>(bif (!m)then AC AE else AH (Hn n g.BK) λq=>AC (!q))):AB Bool) λt=>(bif t then AC ({Lo:=0,Hi:=0:CK},1)else AH (IM n f g h) λd=>AC ({Lo:=d.Lo,Hi:=d.Hi:CK},0)))
instance yJ(d:CB)(f:CC)(g:Int):Kq (I4 n d f g) 88 [.a (CB.c d),.a (CC.c f),I g] [] (λr=>.t [.a [I r.1.Lo,I r.1.Hi],I r.2]) (λr=>[.c 67 [I r.1.Lo,I r.1.Hi]]):=KA func88
def VZ(n:Nat)(d:Co)(f:Int)(g:Int)(y:CB)(z:CE)(h:AA Int)(B:AA CK)(E:AA CN)(F:AA Ue)(m:Int)(q:AA (Int×Ue))(t:CB)(x:CE):AB Bool:=AH (AH (CJ h (i64.wrap (f-1))) λj=>(bif (d.A'==j)then AC (d.To==g)else AC AD):AB Bool) λk=>AC k
instance u9(B:Co)(E:Int)(F:Int)(d:CB)(m:CE)(G:AA Int)(q:AA CK)(H:AA CN)(t:AA Ue)(f:Int)(g:AA (Int×Ue))(j:CB)(k:CE):Ks (VZ n B E F d m G q H t f g j k) 93 [.a (Co.c B),.p 0 0,.p 1 0,.p 2 0] [.c 118 [.p 3 0],.c 3 [I E],.c 3 [I F],.c 126 [.str d.Ap,.q 2 (map Am.c d.Au),.q 4 (map Co.c d.Az),.q 5 (map AN.c d.AO),.q 2 (map A3.c d.A0),.q 4 (map AZ.c d.Ab),.q 3 (map AW.c d.AV),.q 4 (map CS.c d.Ay),.q 8 (map AX.enc d.BL),I d.AQ.A8,I d.AQ.A7,I d.AQ.A6,I d.AQ.Al,I d.AQ.BG,I d.Bk,I d.Aw,.q 3 (map CC.c m.AS),.q 1 (map (Qx 1 (Qe .i64)) m.BN),.q 1 (map (Qe .i64) G),.o 4 (AI q) 2,.q 5 (map CN.c H),.o 5 (AI t) 3,.map 6,.fn (.func 89) [] [.p 0 0,.p 7 0,.p 8 0],I f],.r 67 2 (map CK.c q),.r 135 3 (map Ue.c t),.map (Qn (λx=>A.int .i64 x) (λx=>A.a (Ue.c x)) g),.c 33 (CB.c j),.c 39 (CE.c k)] (λr=>.b r):=by
 refine Kg 7 func93 Z Z Z Z λr h=>Bd h λy z h=>Cg y [0,1,2,3,4,5,6,7,8] [] (λy=>[(5,.b y)]) Ze Zf ?_ ?_
 .refine G0 0 Z (DR 15 Z (D 8 Z ?_));obtain⟨L,J,z⟩:=QF z;refine DS.wo (x:=.rp [I L]) ?_ ?_
  .exact Ix J EC ED Z Wp
  exact au z
 exact au h
def Ls(f:AA Co)(t:Int)(x:Int)(y:CB)(z:CE)(B:AA Int)(E:AA CK)(F:AA CN)(G:AA Ue)(g:Int)(h:AA (Int×Ue))(j:CB)(k:CE)(d:Int):AB (CG Int (CG Unit Int)):=(bif d<(AI f:Int) then AH (CJ f d) λm=>AH (VZ n m t x y z B E F G g h j k) λq=>(bif q then AC (.d (.d d))else AC (.k (i64.wrap (d+1))))else AC (.d (.k ())))
def OX(m:AA Co)(q:Int)(t:Int)(x:CB)(y:CE)(z:AA Int)(B:AA CK)(E:AA CN)(F:AA Ue)(f:Int)(g:AA (Int×Ue))(h:CB)(j:CE):AB Int:=AH (iter (Ls n m q t x y z B E F f g h j) n 0:AB (CG Unit Int)) λk=>match k with|.k d=>(AC (-1))|.d d=>AC d
instance wd(t:AA Co)(y:Int)(z:Int)(d:CB)(k:CE)(B:AA Int)(m:AA CK)(E:AA CN)(q:AA Ue)(f:Int)(g:AA (Int×Ue))(h:CB)(j:CE):Ks (OX n t y z d k B m E q f g h j) 92 [.q 4 (map Co.c t),.fn (.func 93) [] [.p 0 0,.p 1 0,.p 2 0]] [.c 118 [.p 3 0],.c 3 [I y],.c 3 [I z],.c 126 [.str d.Ap,.q 2 (map Am.c d.Au),.q 4 (map Co.c d.Az),.q 5 (map AN.c d.AO),.q 2 (map A3.c d.A0),.q 4 (map AZ.c d.Ab),.q 3 (map AW.c d.AV),.q 4 (map CS.c d.Ay),.q 8 (map AX.enc d.BL),I d.AQ.A8,I d.AQ.A7,I d.AQ.A6,I d.AQ.Al,I d.AQ.BG,I d.Bk,I d.Aw,.q 3 (map CC.c k.AS),.q 1 (map (Qx 1 (Qe .i64)) k.BN),.q 1 (map (Qe .i64) B),.o 4 (AI m) 2,.q 5 (map CN.c E),.o 5 (AI q) 3,.map 6,.fn (.func 89) [] [.p 0 0,.p 7 0,.p 8 0],I f],.r 67 2 (map CK.c m),.r 135 3 (map Ue.c q),.map (Qn (λx=>A.int .i64 x) (λx=>A.a (Ue.c x)) g),.c 33 (CB.c h),.c 39 (CE.c j)] (λr=>I r):=KA func92
def Ft(d:CB)(f:CE)(h:AP)(j:Int)(g:AA CN)(k:AA Ae):CM->Go.Sw.A->Qd->Prop
  |.c0 x,a,H=>a=.t [.nilp,I x]/\H=[.c 118 [.nilp]]
  |.c1 x,a,H=>a=.t [.p 0 0,I 0]/\H=[.c 126 [.str d.Ap,.q 2 (map Am.c d.Au),.q 4 (map Co.c d.Az),.q 5 (map AN.c d.AO),.q 2 (map A3.c d.A0),.q 4 (map AZ.c d.Ab),.q 3 (map AW.c d.AV),.q 4 (map CS.c d.Ay),.q 8 (map AX.enc d.BL),I d.AQ.A8,I d.AQ.A7,I d.AQ.A6,I d.AQ.Al,I d.AQ.BG,I d.Bk,I d.Aw,.q 3 (map CC.c f.AS),.q 1 (map (Qx 1 (Qe .i64)) f.BN),.q 1 (map (Qe .i64) x.1),.o 1 (AI x.2.1) 2,.q 5 (map CN.c g),.o 2 (AI x.2.2.1) 3,.map 3,.fn (.func 89) [] [.p 4 0,.p 5 0,.p 6 0],I x.2.2.2.2],.r 67 2 (map CK.c x.2.1),.r 135 3 (map Ue.c x.2.2.1),.map (Qn (λx=>A.int .i64 x) (λx=>A.a (Ue.c x)) x.2.2.2.1),.c 118 [.p 0 0],.c 33 (CB.c d),.c 39 (CE.c f)]
def Hl(j:CB)(k:CE)(m:AA CN)(g:(AA Ue)×Int):AB (CG ((AA Ue)×Int) (CG (AA Ue) CM)):=(bif g.2<(AI m:Int) then AH (CJ m g.2) λd=>AH (O3 n k.AS d) λh=>AH (CJ j.Au d.Am) λq=>AH ((bif (q.AY==1)then AC (.k ((-1),{Am:=d.Am,Ag:=d.Ag,BK:=0:CC}))else(bif h<0 then AC (.d (.d (.d (CM.c0 170))))else AH (CJ k.AS h) λt=>AC (.k (h,t)))):AB (CG (Int×CC) (CG ((AA Ue)×Int) (CG (AA Ue) CM)))) λx=>match x with|.k f=>(AH (I4 n j f.2 d.BO) λy=>AH (I4 n j f.2 d.A9) λz=>AH (app g.1 [{Ah:=f.1,A_:={Lo:=i64.wrap (d.BO+y.1.Lo),Hi:=i64.wrap (d.A9+z.1.Hi):CK}:Ue}]) λB=>AC (.k (B,i64.wrap (g.2+1))))|.d f=>AC f else AC (.d (.k g.1)))
def Nh(n:Nat)(j:AA Ae)(d:(AA (Int×Ue))×Int×Int):AB (CG ((AA (Int×Ue))×Int×Int) ((AA (Int×Ue))×Int)):=(bif d.2.2<(AI j:Int) then AH (CJ j d.2.2) λf=>AH (AC (Qo d.1 f.AT ({Ah:=0,A_:={Lo:=0,Hi:=0:CK}:Ue}))) λk=>AH ((bif (!(Fc d.1 f.AT))then AH (AC (QJ d.1 f.AT ({Ah:=(-1),A_:={Lo:=f.Lo,Hi:=f.Hi:CK}:Ue}))) λh=>AC (h,(if d.2.1<f.AT then f.AT else d.2.1))else AC (d.1,d.2.1)):AB ((AA (Int×Ue))×Int)) λg=>AC (.k (g.1,g.2,i64.wrap (d.2.2+1)))else AC (.d (d.1,d.2.1)))
def It(g:CB)(z:CE)(B:AA CN)(h:(AA Int)×Int)(m:AA Ue)(k:(AA (Int×Ue))×Int)(d:(AA CK)×CK×Int):AB (CG ((AA CK)×CK×Int) (AA CK)):=(bif d.2.2<(AI h.1:Int) then AH (CJ h.1 d.2.2) λq=>AH ((bif 0<d.2.2 then AH (OX n g.Az d.2.2 q g z h.1 d.1 B m k.2 k.1 g z) λj=>AH (CJ g.Az j) λt=>AH (CJ g.Az j) λx=>AC ({Lo:=i64.wrap (d.2.1.Lo+t.Bp),Hi:=i64.wrap (d.2.1.Hi+x.Bq):CK})else AC ({Lo:=d.2.1.Lo,Hi:=d.2.1.Hi:CK})):AB CK) λf=>AH (app d.1 [{Lo:=f.Lo,Hi:=f.Hi:CK}]) λy=>AC (.k (y,{Lo:=f.Lo,Hi:=f.Hi:CK},i64.wrap (d.2.2+1)))else AC (.d d.1))
def IL(f:CB)(m:CE)(h:AP)(G:Int)(q:AA CN)(x:AA Ae):AB CM:=AH (F0 n f) λy=>(bif (y != 0)then AC (CM.c0 y)else AH (Iy n m) λz=>(bif (z != 0)then AC (CM.c0 z)else AH ((bif h.AN<0 then AC AE else(bif (AI f.AO:Int)<=h.AN then AC AE else(bif h.A3<0 then AC AE else(bif (AI f.A0:Int)<=h.A3 then AC AE else AH (eS n x) λB=>AC B)))):AB Bool) λE=>(bif E then AC (CM.c0 1)else AH (IK n f h.AN G) λg=>(bif (g.2 != 0)then AC (CM.c0 g.2)else AH (OV n f q) λk=>(bif (k != 0)then AC (CM.c0 k)else AH (iter (Hl n f m q) n ([],0):AB (CG (AA Ue) CM)) λF=>match F with|.k d=>(AH (iter (Nh n x) n ([],(-1),0):AB ((AA (Int×Ue))×Int)) λj=>AH (iter (It n f m q g d j) n ([],{Lo:=0,Hi:=0:CK},0):AB (AA CK)) λt=>AC (CM.c1 (g.1,t,d,j.1,j.2)))|.d d=>AC d)))))
theorem aN(d:CB)(g:CE)(a3:AP)(a4:Int)(G:AA CN)(a6:AA Ae)(r:CM)(h:IL n d g a3 a4 G a6=AC r):C prog 30 [.a (CB.c d),.a (CE.c g),.a (AP.c a3),I a4,.q 5 (map CN.c G),.q 4 (map Ae.c a6)] [] (Ft d g a3 a4 G a6 r):=by
 refine gj func30 Z Z Z ?_;refine G0 13 Z (Cz [] h Kc Z λr1 ce h=>Go 9 Z (Cn Z h (λ_ h=>?_) (λ_ h=>?_)))
 .refine Gc 3 Z ?_;refine vU (Ez Z Z Z GN Z Z Z Z Z Z Z) ?_;refine Fg 5 Z Z ?_;obtain rfl:=Oi h;exact Rx [3] [12,13] Z (QH Z Z (C4.cons (YA GL Z Z) (C4.cons Dq.tmp C4.nil))) ⟨Z,Z⟩
 refine Gc 6 Z (Cz [] h Kc Z λr3 cf h=>Go 9 Z (Cn Z h (λ_ h=>?_) (λ_ h=>?_)))
 .refine Gc 3 Z ?_;refine vU (Ez Z Z Z GN Z Z Z Z Z Z Z) ?_;refine Fg 5 Z Z ?_;obtain rfl:=Oi h;exact Rx [3] [12,13] Z (QH Z Z (C4.cons (YA GL Z Z) (C4.cons Dq.tmp C4.nil))) ⟨Z,Z⟩
 refine Gc 9 Z (Bd h λag bp h=>Ct ag [0,1,2,3] [3,4,5,6,7,8,12] (λag=>[(69,.b ag)]) Ze Zf ?_ (λenv H V=>?_))
 .exact au bp
 refine Gx 1 Z (Ef V (Cn Z h (λ_ h=>?_) (λ_ h=>?_)))
 .refine Gc 2 Z ?_;refine vU (Ez Z Z Z GN Z Z Z Z Z Z Z) ?_;refine Fg 5 Z Z ?_;obtain rfl:=Oi h;exact Rx [3] [12,13] Z (QH Z Z (C4.cons (YA GL Z Z) (C4.cons Dq.tmp C4.nil))) ⟨Z,Z⟩
 refine Gc 7 Z (vH Yh ?_);refine FE Z ?_;refine vX (.a [.str d.Ap,.q 2 (map Am.c d.Au),.q 4 (map Co.c d.Az),.q 5 (map AN.c d.AO),.q 2 (map A3.c d.A0),.q 4 (map AZ.c d.Ab),.q 3 (map AW.c d.AV),.q 4 (map CS.c d.Ay),.q 8 (map AX.enc d.BL),I d.AQ.A8,I d.AQ.A7,I d.AQ.A6,I d.AQ.Al,I d.AQ.BG,I d.Bk,I d.Aw,.q 3 (map CC.c g.AS),.q 1 (map (Qx 1 (Qe .i64)) g.BN),.q 1 (map (Qe .i64) []),.n,.q 5 (map CN.c G),.n,.map 4,.nilf,I (-1)]) (CU.build (zs:=[.str [],.q 2 (map Am.c []),.q 4 (map Co.c []),.q 5 (map AN.c []),.q 2 (map A3.c []),.q 4 (map AZ.c []),.q 3 (map AW.c []),.q 4 (map CS.c []),.q 8 (map AX.enc []),I 0,I 0,I 0,I 0,I 0,I 0,I 0,.q 3 (map CC.c []),.q 1 (map (Qx 1 (Qe .i64)) []),.q 1 (map (Qe .i64) []),.n,.q 5 (map CN.c []),.n,.nilm,.nilf,I 0]) zeroValue126 (Fh Z) zu) ?_;refine Go 6 Z (HF 12 [11] [(0,0,0),(0,0,0),(0,0,0),(0,0,0),(0,0,0),(0,0,0),(0,0,0),(0,0,0),(0,0,1),(0,0,0),(0,0,0),(1,0,0)] (by kernel_rfl) (Dk 5 Z ?_));obtain⟨B,az,h⟩:=QF h;refine DK.wo (x:=.t [.q 1 (map (Qe .i64) B.1),I B.2]) ?_ ?_
 .refine Qh [] (C6.fn call76 Z Z Z) ((aM _ _ _ _).c _ az) ?_;rintro _ _ ⟨rfl,rfl⟩;exact FE Z Wp
 refine Dk 5 Z ?_;refine DK.un (X1:=[.c 33 (CB.c d),.c 39 (CE.c g),.c 41 (AP.c a3),.c 118 [.p 5 0],.map (Qn (λx=>A.int .i64 x) (λx=>A.a (Ue.c x)) []),.c 126 [.str d.Ap,.q 2 (map Am.c d.Au),.q 4 (map Co.c d.Az),.q 5 (map AN.c d.AO),.q 2 (map A3.c d.A0),.q 4 (map AZ.c d.Ab),.q 3 (map AW.c d.AV),.q 4 (map CS.c d.Ay),.q 8 (map AX.enc d.BL),I d.AQ.A8,I d.AQ.A7,I d.AQ.A6,I d.AQ.Al,I d.AQ.BG,I d.Bk,I d.Aw,.q 3 (map CC.c g.AS),.q 1 (map (Qx 1 (Qe .i64)) g.BN),.q 1 (map (Qe .i64) B.1),.n,.q 5 (map CN.c G),.n,.map 4,.nilf,I (-1)]]) ?_ ?_
 .refine vU (Ez Z Z Z EO Z Z Z Z Z Z Z) ?_;refine NU (H:=[_,_,_,_,_,.c 126 [.str d.Ap,.q 2 (map Am.c d.Au),.q 4 (map Co.c d.Az),.q 5 (map AN.c d.AO),.q 2 (map A3.c d.A0),.q 4 (map AZ.c d.Ab),.q 3 (map AW.c d.AV),.q 4 (map CS.c d.Ay),.q 8 (map AX.enc d.BL),I d.AQ.A8,I d.AQ.A7,I d.AQ.A6,I d.AQ.Al,I d.AQ.BG,I d.Bk,I d.Aw,.q 3 (map CC.c g.AS),.q 1 (map (Qx 1 (Qe .i64)) g.BN),.q 1 (map (Qe .i64) B.1),.n,.q 5 (map CN.c G),.n,.map 4,.nilf,I (-1)]]) Z ?_;exact Wp
 refine DK.done Z Z (Go 9 Z (Cn Z h (λ_ h=>?_) (λ_ h=>?_)))
 .refine Gc 3 Z ?_;refine vU (Ez Z Z Z GN Z Z Z Z Z Z Z) ?_;refine Fg 5 Z Z ?_;obtain rfl:=Oi h;exact Rx [3] [12,13] Z (QH Z Z (C4.cons (YA GL Z Z) (C4.cons Dq.tmp C4.nil))) ⟨Z,Z⟩
 refine Gc 7 Z (Cz [] h Kc Z λcg bx h=>Go 9 Z (Cn Z h (λ_ h=>?_) (λ_ h=>?_)))
 .refine Gc 3 Z ?_;refine vU (Ez Z Z Z GN Z Z Z Z Z Z Z) ?_;refine Fg 5 Z Z ?_;obtain rfl:=Oi h;exact Rx [3] [12,13] Z (QH Z Z (C4.cons (YA GL Z Z) (C4.cons Dq.tmp C4.nil))) ⟨Z,Z⟩
 refine Gc 6 Z (Lg 3 Z Z (Bd h λbq br h=>FT (b:=bq) [0,1,2,3,4,5] [5,6,7] (λ_=>[(12,.p 2 0)]) (λj=>[(2,.c 118 [.p 3 0]),(3,.c 126 [.str d.Ap,.q 2 (map Am.c d.Au),.q 4 (map Co.c d.Az),.q 5 (map AN.c d.AO),.q 2 (map A3.c d.A0),.q 4 (map AZ.c d.Ab),.q 3 (map AW.c d.AV),.q 4 (map CS.c d.Ay),.q 8 (map AX.enc d.BL),I d.AQ.A8,I d.AQ.A7,I d.AQ.A6,I d.AQ.Al,I d.AQ.BG,I d.Bk,I d.Aw,.q 3 (map CC.c g.AS),.q 1 (map (Qx 1 (Qe .i64)) g.BN),.q 1 (map (Qe .i64) B.1),.n,.q 5 (map CN.c G),.o 4 (AI j) 3,.map 5,.nilf,I (-1)]),(4,.r 135 3 (map Ue.c j)),(5,.map (Qn (λx=>A.int .i64 x) (λx=>A.a (Ue.c x)) []))]) Zf ?_ (λj env H bs V=>?_)))
 .refine G0 1 Z (Lp [0,1,3,5,0,4] [5,6,7,12,96,97] (λW=>[(98,I W.2)]) (λW=>[(2,.c 118 [.p 3 0]),(3,.c 126 [.str d.Ap,.q 2 (map Am.c d.Au),.q 4 (map Co.c d.Az),.q 5 (map AN.c d.AO),.q 2 (map A3.c d.A0),.q 4 (map AZ.c d.Ab),.q 3 (map AW.c d.AV),.q 4 (map CS.c d.Ay),.q 8 (map AX.enc d.BL),I d.AQ.A8,I d.AQ.A7,I d.AQ.A6,I d.AQ.Al,I d.AQ.BG,I d.Bk,I d.Aw,.q 3 (map CC.c g.AS),.q 1 (map (Qx 1 (Qe .i64)) g.BN),.q 1 (map (Qe .i64) B.1),.n,.q 5 (map CN.c G),.o 4 (AI W.1) 3,.map 5,.nilf,I (-1)]),(4,.r 135 3 (map Ue.c W.1))]) br Zf ?_ ?_)
  .refine Eo (Ya (i:=5) (m:=21) (t:=135) (k:=3) Z Z Z) ?_;exact Lr [0,1,3,5,6,4]
  intro W ch z ah;refine G0 6 Z (Q7 Z z (λ_ z=>?_) (λ_ z=>?_))
  .exact Jc ah z
  refine Gc 6 Z (Bd z λac bd z=>Iz bd Z (Go 10 Z (Cz [6] z Kc Z λci bz z=>Go 22 Z (Bd z λcj be z=>Iz be Z (Go 6 Z (Bd z λbu O z=>FT (b:=bu) [0,1,2,3,4,5,6,7] [5,6,7,12,16,18,96,97,98] (λP=>[(17,I P.1)]) (λP=>[(7,.c 202 (CC.c P.2))]) Zf ?_ (λP env H hb V=>?_)))))))
  .refine G0 0 Z (Cn Z O (λ_ O=>?_) (λ_ O=>?_))
   .refine Gc 3 Z ?_;cases O;exact J7 Z (Lr [0,1,2,3,4,5,6,7])
   refine Gc 7 Z (Cn Z O (λ_ O=>?_) (λ_ O=>?_))
   .refine Gc 2 Z ?_;refine vU (Ez Z Z Z GN Z Z Z Z Z Z Z) ?_;refine Fg 4 Z Z ?_;cases O;refine NR (Gx 4 Z (Il z ?_));obtain rfl:=Oj ah z;refine Gx 1 Z (NR (Gx 1 Z ?_));obtain rfl:=Oi h;exact Rx [2] [12,13] Z (QH Z Z (C4.cons (YA GL Z Z) (C4.cons Dq.tmp C4.nil))) ⟨Z,Z⟩
   refine Gc 4 Z (Bd O λcl bi O=>Iz bi Z (Go 3 Z ?_));cases O;exact J7 Z (Lr [0,1,2,3,4,5,6,7])
  subst hb;refine Gx 2 Z (Ef V (Gc 6 Z (Cd [] z Kc Z λX ca z=>Fg 14 Z Z (Cd [] z Kc Z λY cb z=>Fg 8 Z Z (HF 20 [19] [(0,0,1),(0,0,0),(0,0,0),(0,0,0),(0,0,0),(0,0,0),(0,0,0),(0,0,0),(0,0,0),(0,0,0),(0,0,0),(0,0,0),(0,0,0),(0,0,0),(0,0,0),(0,0,0),(0,0,0),(0,0,0),(0,0,0),(1,0,0)] (by kernel_rfl) ?_)))));refine JR (lo:=0) (x:=.p 3 0) ⟨Z,trivial⟩ ?_;refine Dk 17 Z ?_;refine DK.wo (x:=.q 3 (map Ue.c [{Ah:=P.1,A_:={Lo:=i64.wrap (ac.BO+X.1.Lo),Hi:=i64.wrap (ac.A9+Y.1.Hi):CK}:Ue}])) ?_ ?_
  .refine vH (QM (xs:=[.tmp 161]) (es:=map Ue.c [{Ah:=P.1,A_:={Lo:=i64.wrap (ac.BO+X.1.Lo),Hi:=i64.wrap (ac.A9+Y.1.Hi):CK}:Ue}]) oD Z Z Z Z Z ⟨Z,trivial⟩ Z Z) ?_;exact FE Z Wp
  obtain⟨ax,bj,z⟩:=QF z;refine Ey (x:=.o 12 (AI ax) 3) (X1:=[.c 33 (CB.c d),.c 39 (CE.c g),.c 118 [.p 3 0],.c 126 [.str d.Ap,.q 2 (map Am.c d.Au),.q 4 (map Co.c d.Az),.q 5 (map AN.c d.AO),.q 2 (map A3.c d.A0),.q 4 (map AZ.c d.Ab),.q 3 (map AW.c d.AV),.q 4 (map CS.c d.Ay),.q 8 (map AX.enc d.BL),I d.AQ.A8,I d.AQ.A7,I d.AQ.A6,I d.AQ.Al,I d.AQ.BG,I d.Bk,I d.Aw,.q 3 (map CC.c g.AS),.q 1 (map (Qx 1 (Qe .i64)) g.BN),.q 1 (map (Qe .i64) B.1),.n,.q 5 (map CN.c G),.o 4 (AI W.1) 3,.map 5,.nilf,I (-1)],.dead,.map (Qn (λx=>A.int .i64 x) (λx=>A.a (Ue.c x)) []),.c 129 (CN.c ac),.c 202 (CC.c P.2),.c 67 [I X.1.Lo,I X.1.Hi],.c 67 [I X.1.Lo,I X.1.Hi],.c 67 [I Y.1.Lo,I Y.1.Hi],.c 67 [I Y.1.Lo,I Y.1.Hi],.r 135 3 (map Ue.c ax)]) ?_ ?_
  .refine vH (Ql (e:=Ue.c) bj oD GB K3) ?_;exact FE Z Wp
  exact DK.done Z Z (Go 10 Z (Q1 z (Lr [0,1,2,3,12,5])))
 subst bs;refine Gx 1 Z (Ef V (Gc 4 Z (Lg 3 Z Z (Bd h λJ bv h=>Ct J [0,1,2,3,4,5] [6,7,12] Ze (λJ=>[(3,.c 126 [.str d.Ap,.q 2 (map Am.c d.Au),.q 4 (map Co.c d.Az),.q 5 (map AN.c d.AO),.q 2 (map A3.c d.A0),.q 4 (map AZ.c d.Ab),.q 3 (map AW.c d.AV),.q 4 (map CS.c d.Ay),.q 8 (map AX.enc d.BL),I d.AQ.A8,I d.AQ.A7,I d.AQ.A6,I d.AQ.Al,I d.AQ.BG,I d.Bk,I d.Aw,.q 3 (map CC.c g.AS),.q 1 (map (Qx 1 (Qe .i64)) g.BN),.q 1 (map (Qe .i64) B.1),.n,.q 5 (map CN.c G),.o 4 (AI j) 3,.map 5,.nilf,I J.2]),(5,.map (Qn (λx=>A.int .i64 x) (λx=>A.a (Ue.c x)) J.1))]) Zf ?_ (λenv H V=>?_)))))
 .refine G0 1 Z (Lp [0,1,2,3,4,5] [6,7,12,167,168] (λq=>[(169,I q.2.2)]) (λq=>[(3,.c 126 [.str d.Ap,.q 2 (map Am.c d.Au),.q 4 (map Co.c d.Az),.q 5 (map AN.c d.AO),.q 2 (map A3.c d.A0),.q 4 (map AZ.c d.Ab),.q 3 (map AW.c d.AV),.q 4 (map CS.c d.Ay),.q 8 (map AX.enc d.BL),I d.AQ.A8,I d.AQ.A7,I d.AQ.A6,I d.AQ.Al,I d.AQ.BG,I d.Bk,I d.Aw,.q 3 (map CC.c g.AS),.q 1 (map (Qx 1 (Qe .i64)) g.BN),.q 1 (map (Qe .i64) B.1),.n,.q 5 (map CN.c G),.o 4 (AI j) 3,.map 5,.nilf,I q.2.1]),(5,.map (Qn (λx=>A.int .i64 x) (λx=>A.a (Ue.c x)) q.1))]) bv Zf (Lr [0,1,2,3,4,5]) λq cm N bk=>?_);refine G0 6 Z (Q7 Z N (λ_ N=>?_) (λ_ N=>?_))
  .exact Gc 2 Z (QI N (Gx 1 Z (DU bk N (Lr [0,1,2,3,4,5]))))
  refine Gc 6 Z (Bd N λy ak N=>Iz ak Z (Go 6 Z ?_));obtain⟨Q,ae,N⟩:=QF N;refine Yu 12 0 [174,175,176,177,178,179,180,173,181,182,25,1000011] [AD,AD,AD,AD,AD,AD,AD,AD,AD,AD,AE,AE] [[],[],[],[],[],[],[],[],[],[],[],[10]] [[],[10],[10,11]] [[(0,0),(1,1)],[(0,0),(1,1)],[(0,0),(1,1)],[(0,0),(1,1)],[(0,0),(1,1)],[(0,0),(1,1)],[(0,0),(1,1)],[(0,0),(1,1)],[(0,0),(1,1)],[(0,0),(1,1),(2,2)],[(0,1)],[(1,2)]] [.p 3 0,.p 3 0,.p 3 22,.map 5,.p 6 1,I y.AT,.t [.a (Ue.c Q),.b (Fc q.1 y.AT)],.t [.a (Ue.c Q),.b (Fc q.1 y.AT)],.a (Ue.c Q),.b (Fc q.1 y.AT),.p 7 0,.any] [[.c 33 (CB.c d),.c 39 (CE.c g),.c 118 [.p 3 0],.c 126 [.str d.Ap,.q 2 (map Am.c d.Au),.q 4 (map Co.c d.Az),.q 5 (map AN.c d.AO),.q 2 (map A3.c d.A0),.q 4 (map AZ.c d.Ab),.q 3 (map AW.c d.AV),.q 4 (map CS.c d.Ay),.q 8 (map AX.enc d.BL),I d.AQ.A8,I d.AQ.A7,I d.AQ.A6,I d.AQ.Al,I d.AQ.BG,I d.Bk,I d.Aw,.q 3 (map CC.c g.AS),.q 1 (map (Qx 1 (Qe .i64)) g.BN),.q 1 (map (Qe .i64) B.1),.n,.q 5 (map CN.c G),.o 4 (AI j) 3,.map 5,.nilf,I q.2.1],.r 135 3 (map Ue.c j),.map (Qn (λx=>A.int .i64 x) (λx=>A.a (Ue.c x)) q.1),.c 91 (Ae.c y)],[.c 33 (CB.c d),.c 39 (CE.c g),.c 118 [.p 3 0],.c 126 [.str d.Ap,.q 2 (map Am.c d.Au),.q 4 (map Co.c d.Az),.q 5 (map AN.c d.AO),.q 2 (map A3.c d.A0),.q 4 (map AZ.c d.Ab),.q 3 (map AW.c d.AV),.q 4 (map CS.c d.Ay),.q 8 (map AX.enc d.BL),I d.AQ.A8,I d.AQ.A7,I d.AQ.A6,I d.AQ.Al,I d.AQ.BG,I d.Bk,I d.Aw,.q 3 (map CC.c g.AS),.q 1 (map (Qx 1 (Qe .i64)) g.BN),.q 1 (map (Qe .i64) B.1),.n,.q 5 (map CN.c G),.o 4 (AI j) 3,.map 5,.nilf,I q.2.1],.r 135 3 (map Ue.c j),.map (Qn (λx=>A.int .i64 x) (λx=>A.a (Ue.c x)) q.1),.c 91 (Ae.c y),.c 135 [I 0,I 0,I 0]],[.c 33 (CB.c d),.c 39 (CE.c g),.c 118 [.p 3 0],.c 126 [.str d.Ap,.q 2 (map Am.c d.Au),.q 4 (map Co.c d.Az),.q 5 (map AN.c d.AO),.q 2 (map A3.c d.A0),.q 4 (map AZ.c d.Ab),.q 3 (map AW.c d.AV),.q 4 (map CS.c d.Ay),.q 8 (map AX.enc d.BL),I d.AQ.A8,I d.AQ.A7,I d.AQ.A6,I d.AQ.Al,I d.AQ.BG,I d.Bk,I d.Aw,.q 3 (map CC.c g.AS),.q 1 (map (Qx 1 (Qe .i64)) g.BN),.q 1 (map (Qe .i64) B.1),.n,.q 5 (map CN.c G),.o 4 (AI j) 3,.map 5,.nilf,I q.2.1],.r 135 3 (map Ue.c j),.map (Qn (λx=>A.int .i64 x) (λx=>A.a (Ue.c x)) q.1),.c 91 (Ae.c y),.c 135 (Ue.c Q)]] ([.c 33 (CB.c d),.c 39 (CE.c g),.c 118 [.p 3 0],.c 126 [.str d.Ap,.q 2 (map Am.c d.Au),.q 4 (map Co.c d.Az),.q 5 (map AN.c d.AO),.q 2 (map A3.c d.A0),.q 4 (map AZ.c d.Ab),.q 3 (map AW.c d.AV),.q 4 (map CS.c d.Ay),.q 8 (map AX.enc d.BL),I d.AQ.A8,I d.AQ.A7,I d.AQ.A6,I d.AQ.Al,I d.AQ.BG,I d.Bk,I d.Aw,.q 3 (map CC.c g.AS),.q 1 (map (Qx 1 (Qe .i64)) g.BN),.q 1 (map (Qe .i64) B.1),.n,.q 5 (map CN.c G),.o 4 (AI j) 3,.map 5,.nilf,I q.2.1],.r 135 3 (map Ue.c j),.map (Qn (λx=>A.int .i64 x) (λx=>A.a (Ue.c x)) q.1),.c 91 (Ae.c y),.c 135 (Ue.c Q)]) C' Z Z Z Z Z Z Z ?_ Z ?_
  .refine CL.cons (Qa (v0 Z Z) (Qa (v0 Z Z) (Qc))) (CL.cons ?_ (CL.cons (Qa (v0 Z Z) (Qa (v0 Z Z) (Qc))) (CL.cons (Qa (v0 Z Z) (Qa (v0 Z Z) (Qc))) (CL.cons (Qa (v0 Z Z) (Qa (v0 Z Z) (Qc))) (CL.cons (Qa (v0 Z Z) (Qa (v0 Z Z) (Qc))) (CL.cons ?_ (CL.cons (Qa (v0 Z Z) (Qa (v0 Z Z) (Qc))) (CL.cons (Qa (v0 Z Z) (Qa (v0 Z Z) (Qc))) (CL.cons (Qa (v0 Z Z) (Qa (v0 Z Z) (Qa (v0 Z Z) (Qc)))) (CL.cons ?_ (CL.cons ?_ (CL.nil))))))))))))
   .refine Qa ?_ (Qa ?_ (Qc))
    iterate 2 refine Om Z (sD 0 sN) ?_;exact S Z Wp
   .refine Qa ?_ (Qa ?_ (Qc))
    iterate 2 refine Om Z (sD 3 (sD 5 sN)) ?_;refine vX (.t [.a (Ue.c Q),.b (Fc q.1 y.AT)]) (mD (ev:=(λx=>A.a (Ue.c x))) (z0:=({Ah:=0,A_:={Lo:=0,Hi:=0:CK}:Ue})) (k:=y.AT) (l:=q.1) YM ae Gy Gu (Fh Z)) ?_;exact Wp
   .refine Qa ?_ (Qc)
    .refine Fu Z sN ?_;refine vH (da (v:=(.a [I 0,I 0,I 0])) Gu (Fh Z)) ?_;exact FE Z Wp
   .refine Qa ?_ (Qc)
    .refine Sh Z (sD 10 (sD 8 sN)) ?_;refine vU (Ez Z Z Z GY Z Z Z Z Z Z Z) ?_;exact FE Z Wp
  refine Go 9 Z (Bd N λaa R N=>Ct aa [0,1,2,3,4,5] [6,7,12,167,168,169] Ze (λaa=>[(3,.c 126 [.str d.Ap,.q 2 (map Am.c d.Au),.q 4 (map Co.c d.Az),.q 5 (map AN.c d.AO),.q 2 (map A3.c d.A0),.q 4 (map AZ.c d.Ab),.q 3 (map AW.c d.AV),.q 4 (map CS.c d.Ay),.q 8 (map AX.enc d.BL),I d.AQ.A8,I d.AQ.A7,I d.AQ.A6,I d.AQ.Al,I d.AQ.BG,I d.Bk,I d.Aw,.q 3 (map CC.c g.AS),.q 1 (map (Qx 1 (Qe .i64)) g.BN),.q 1 (map (Qe .i64) B.1),.n,.q 5 (map CN.c G),.o 4 (AI j) 3,.map 5,.nilf,I aa.2]),(5,.map (Qn (λx=>A.int .i64 x) (λx=>A.a (Ue.c x)) aa.1))]) Zf ?_ (λenv H V=>?_))
  .refine G0 0 Z (Cn Z R (λ_ R=>?_) (λ_ R=>?_))
   .refine Gc 1 Z (DR 12 Z (D 12 Z (Eh Z (Bd R λcc am R=>?_))));refine vU (Yd (ev:=(λx=>A.a (Ue.c x))) (k:=y.AT) (v:=({Ah:=(-1),A_:={Lo:=y.Lo,Hi:=y.Hi:CK}:Ue})) (l:=q.1) YM am Z Gy) ?_;refine Fg 2 Z Z (DR 8 Z (D 7 Z ?_));refine DS.v (x:=(I (if q.2.1<y.AT then y.AT else q.2.1))) (CU.max Z Z Z Z) ?_;exact au R
   exact au R
  exact Gx 2 Z (Ef V (Gc 4 Z (Q1 N (Lr [0,1,2,3,4,5]))))
 refine Gx 1 Z (Ef V (Gc 21 Z (Lg 3 Z Z (Bd h λab bm h=>Cg ab [1,2,3,4,5,0,6] [] (λ_=>[(12,.p 0 0)]) (λab=>[(0,.c 118 [.p 1 0]),(1,.c 126 [.str d.Ap,.q 2 (map Am.c d.Au),.q 4 (map Co.c d.Az),.q 5 (map AN.c d.AO),.q 2 (map A3.c d.A0),.q 4 (map AZ.c d.Ab),.q 3 (map AW.c d.AV),.q 4 (map CS.c d.Ay),.q 8 (map AX.enc d.BL),I d.AQ.A8,I d.AQ.A7,I d.AQ.A6,I d.AQ.Al,I d.AQ.BG,I d.Bk,I d.Aw,.q 3 (map CC.c g.AS),.q 1 (map (Qx 1 (Qe .i64)) g.BN),.q 1 (map (Qe .i64) B.1),.o 2 (AI ab) 2,.q 5 (map CN.c G),.o 3 (AI j) 3,.map 4,.fn (.func 89) [] [.p 0 0,.p 5 0,.p 6 0],I J.2]),(2,.r 67 2 (map CK.c ab)),(6,.c 39 (CE.c g))]) Zf ?_ ?_))))
 .refine G0 1 Z (Lp [0,2,3,0,4,5,1,6] [6,12,27,215,216] (λf=>[(217,I f.2.2)]) (λf=>[(1,.c 118 [.p 2 0]),(2,.c 126 [.str d.Ap,.q 2 (map Am.c d.Au),.q 4 (map Co.c d.Az),.q 5 (map AN.c d.AO),.q 2 (map A3.c d.A0),.q 4 (map AZ.c d.Ab),.q 3 (map AW.c d.AV),.q 4 (map CS.c d.Ay),.q 8 (map AX.enc d.BL),I d.AQ.A8,I d.AQ.A7,I d.AQ.A6,I d.AQ.Al,I d.AQ.BG,I d.Bk,I d.Aw,.q 3 (map CC.c g.AS),.q 1 (map (Qx 1 (Qe .i64)) g.BN),.q 1 (map (Qe .i64) B.1),.o 3 (AI f.1) 2,.q 5 (map CN.c G),.o 4 (AI j) 3,.map 5,.fn (.func 89) [] [.p 1 0,.p 0 0,.p 6 0],I J.2]),(3,.r 67 2 (map CK.c f.1)),(7,.c 67 [I f.2.1.Lo,I f.2.1.Hi])]) bm Zf ?_ ?_)
  .refine Eo (Ya (i:=3) (m:=19) (t:=67) (k:=2) Z Z Z) ?_;exact Lr [0,2,3,7,4,5,1,6]
  intro f cd E an;refine G0 6 Z (Q7 Z E (λ_ E=>?_) (λ_ E=>?_))
  .exact Gc 2 Z (QI E (Gx 1 Z (DU an E (Lr [1,2,3,4,5,0,6]))))
  refine Gc 7 Z (Bd E λad aq E=>Iz aq Z (Go 14 Z (Bd E λL F E=>Cg L [0,1,2,3,4,5,6,7] [6,12,27,215,216,217] Ze (λL=>[(7,.c 67 [I L.Lo,I L.Hi])]) Zf ?_ ?_)))
  .refine G0 0 Z (Cn Z F (λ_ F=>?_) (λ_ F=>?_))
   .refine Gc 5 Z (Cz [1,8,9,2,3,4,5,0,6] F Kc Z λai bw F=>Go 3 Z ?_);obtain⟨M,av,F⟩:=QF F;obtain⟨T,af,F⟩:=QF F;refine Yu 20 0 [228,229,230,231,232,233,234,235,236,237,238,239,240,241,242,243,244,245,246,1000019] [AD,AD,AD,AD,AD,AD,AD,AD,AD,AD,AD,AD,AD,AD,AD,AD,AD,AD,AD,AE] [[],[],[],[],[],[],[],[],[],[],[],[],[],[],[],[],[],[],[],[]] [[],[19]] [[(0,0)],[(0,0)],[(0,0)],[(0,0)],[(0,0)],[(0,0)],[(0,0)],[(0,0)],[(0,0)],[(0,0)],[(0,0)],[(0,0),(1,1)],[(0,0),(1,1)],[(0,0),(1,1)],[(0,0),(1,1)],[(0,0),(1,1)],[(0,0),(1,1)],[(0,0),(1,1)],[(0,0)],[(0,1)]] [.p 7 0,I f.2.1.Lo,.p 0 2,.q 4 (map Co.c d.Az),I ai,.rp [I M.A',I M.To,I M.Bp,I M.Bq],.rp [I M.Bp,I M.Bq],I M.Bp,I (i64.wrap (f.2.1.Lo+M.Bp)),.p 7 1,I f.2.1.Hi,.p 0 2,.q 4 (map Co.c d.Az),I ai,.rp [I T.A',I T.To,I T.Bp,I T.Bq],.rp [I T.Bq],I T.Bq,I (i64.wrap (f.2.1.Hi+T.Bq)),.p 7 0,.any] [[.c 33 (CB.c d),.c 118 [.p 2 0],.c 126 [.str d.Ap,.q 2 (map Am.c d.Au),.q 4 (map Co.c d.Az),.q 5 (map AN.c d.AO),.q 2 (map A3.c d.A0),.q 4 (map AZ.c d.Ab),.q 3 (map AW.c d.AV),.q 4 (map CS.c d.Ay),.q 8 (map AX.enc d.BL),I d.AQ.A8,I d.AQ.A7,I d.AQ.A6,I d.AQ.Al,I d.AQ.BG,I d.Bk,I d.Aw,.q 3 (map CC.c g.AS),.q 1 (map (Qx 1 (Qe .i64)) g.BN),.q 1 (map (Qe .i64) B.1),.o 3 (AI f.1) 2,.q 5 (map CN.c G),.o 4 (AI j) 3,.map 5,.fn (.func 89) [] [.p 1 0,.p 0 0,.p 6 0],I J.2],.r 67 2 (map CK.c f.1),.r 135 3 (map Ue.c j),.map (Qn (λx=>A.int .i64 x) (λx=>A.a (Ue.c x)) J.1),.c 39 (CE.c g),.c 67 [I f.2.1.Lo,I f.2.1.Hi],.c 3 [I f.2.2],.c 3 [I ad]],[.c 33 (CB.c d),.c 118 [.p 2 0],.c 126 [.str d.Ap,.q 2 (map Am.c d.Au),.q 4 (map Co.c d.Az),.q 5 (map AN.c d.AO),.q 2 (map A3.c d.A0),.q 4 (map AZ.c d.Ab),.q 3 (map AW.c d.AV),.q 4 (map CS.c d.Ay),.q 8 (map AX.enc d.BL),I d.AQ.A8,I d.AQ.A7,I d.AQ.A6,I d.AQ.Al,I d.AQ.BG,I d.Bk,I d.Aw,.q 3 (map CC.c g.AS),.q 1 (map (Qx 1 (Qe .i64)) g.BN),.q 1 (map (Qe .i64) B.1),.o 3 (AI f.1) 2,.q 5 (map CN.c G),.o 4 (AI j) 3,.map 5,.fn (.func 89) [] [.p 1 0,.p 0 0,.p 6 0],I J.2],.r 67 2 (map CK.c f.1),.r 135 3 (map Ue.c j),.map (Qn (λx=>A.int .i64 x) (λx=>A.a (Ue.c x)) J.1),.c 39 (CE.c g),.c 67 [I (i64.wrap (f.2.1.Lo+M.Bp)),I f.2.1.Hi],.c 3 [I f.2.2],.c 3 [I ad]]] ([.c 33 (CB.c d),.c 118 [.p 2 0],.c 126 [.str d.Ap,.q 2 (map Am.c d.Au),.q 4 (map Co.c d.Az),.q 5 (map AN.c d.AO),.q 2 (map A3.c d.A0),.q 4 (map AZ.c d.Ab),.q 3 (map AW.c d.AV),.q 4 (map CS.c d.Ay),.q 8 (map AX.enc d.BL),I d.AQ.A8,I d.AQ.A7,I d.AQ.A6,I d.AQ.Al,I d.AQ.BG,I d.Bk,I d.Aw,.q 3 (map CC.c g.AS),.q 1 (map (Qx 1 (Qe .i64)) g.BN),.q 1 (map (Qe .i64) B.1),.o 3 (AI f.1) 2,.q 5 (map CN.c G),.o 4 (AI j) 3,.map 5,.fn (.func 89) [] [.p 1 0,.p 0 0,.p 6 0],I J.2],.r 67 2 (map CK.c f.1),.r 135 3 (map Ue.c j),.map (Qn (λx=>A.int .i64 x) (λx=>A.a (Ue.c x)) J.1),.c 39 (CE.c g),.c 67 [I (i64.wrap (f.2.1.Lo+M.Bp)),I f.2.1.Hi],.c 3 [I f.2.2],.c 3 [I ad]]) C' Z Z Z Z Z Z Z ?_ Z ?_
    .refine CL.cons (Qa (v0 Z Z) (Qc)) (CL.cons (Qa (v0 Z Z) (Qc)) (CL.cons (Qa (v0 Z Z) (Qc)) (CL.cons (Qa (v0 Z Z) (Qc)) (CL.cons (Qa (v0 Z Z) (Qc)) (CL.cons ?_ (CL.cons (Qa (v0 Z Z) (Qc)) (CL.cons (Qa (v0 Z Z) (Qc)) (CL.cons ?_ (CL.cons (Qa (v0 Z Z) (Qc)) (CL.cons (Qa (v0 Z Z) (Qc)) (CL.cons (Qa (v0 Z Z) (Qa (v0 Z Z) (Qc))) (CL.cons (Qa (v0 Z Z) (Qa (v0 Z Z) (Qc))) (CL.cons (Qa (v0 Z Z) (Qa (v0 Z Z) (Qc))) (CL.cons ?_ (CL.cons (Qa (v0 Z Z) (Qa (v0 Z Z) (Qc))) (CL.cons (Qa (v0 Z Z) (Qa (v0 Z Z) (Qc))) (CL.cons ?_ (CL.cons (Qa (v0 Z Z) (Qc)) (CL.cons ?_ (CL.nil))))))))))))))))))))
     .refine Qa ?_ (Qc)
      .refine Om Z (sD 3 (sD 4 sN)) ?_;exact Ix av Gd GM Z Wp
     .refine Qa ?_ (Qc)
      .refine Om Z (sD 1 (sD 7 sN)) ?_;exact S Z Wp
     .refine Qa ?_ (Qa ?_ (Qc))
      iterate 2 refine Om Z (sD 12 (sD 13 sN)) ?_;exact Ix af Gd GM Z Wp
     .refine Qa ?_ (Qa ?_ (Qc))
      iterate 2 refine Om Z (sD 10 (sD 16 sN)) ?_;exact S Z Wp
     .refine Qa ?_ (Qc)
      .refine Sh Z (sD 8 (sD 18 sN)) ?_;refine vU (Ez Z Z Z ED Z Z Z Z Z Z Z) ?_;exact FE Z Wp
    exact au F
   exact au F
  refine HF 8 [7] [(0,0,1),(0,0,0),(0,0,0),(0,0,0),(0,0,0),(0,0,0),(0,0,0),(1,0,0)] (by kernel_rfl) ?_;refine JR (lo:=0) (x:=.p 2 0) ⟨Z,trivial⟩ ?_;refine Dk 5 Z ?_;refine DK.wo (x:=.q 2 (map CK.c [{Lo:=L.Lo,Hi:=L.Hi:CK}])) ?_ ?_
  .refine vH (QM (xs:=[.tmp 253]) (es:=map CK.c [{Lo:=L.Lo,Hi:=L.Hi:CK}]) oC Z Z Z Z Z ⟨Z,trivial⟩ Z Z) ?_;exact FE Z Wp
  obtain⟨aj,aw,E⟩:=QF E;refine Ey (x:=.o 8 (AI aj) 2) (X1:=[.c 33 (CB.c d),.c 118 [.p 2 0],.c 126 [.str d.Ap,.q 2 (map Am.c d.Au),.q 4 (map Co.c d.Az),.q 5 (map AN.c d.AO),.q 2 (map A3.c d.A0),.q 4 (map AZ.c d.Ab),.q 3 (map AW.c d.AV),.q 4 (map CS.c d.Ay),.q 8 (map AX.enc d.BL),I d.AQ.A8,I d.AQ.A7,I d.AQ.A6,I d.AQ.Al,I d.AQ.BG,I d.Bk,I d.Aw,.q 3 (map CC.c g.AS),.q 1 (map (Qx 1 (Qe .i64)) g.BN),.q 1 (map (Qe .i64) B.1),.o 3 (AI f.1) 2,.q 5 (map CN.c G),.o 4 (AI j) 3,.map 5,.fn (.func 89) [] [.p 1 0,.p 0 0,.p 6 0],I J.2],.dead,.r 135 3 (map Ue.c j),.map (Qn (λx=>A.int .i64 x) (λx=>A.a (Ue.c x)) J.1),.c 39 (CE.c g),.c 67 [I L.Lo,I L.Hi],.r 67 2 (map CK.c aj)]) ?_ ?_
  .refine vH (Ql (e:=CK.c) aw oC E9 K3) ?_;exact FE Z Wp
  exact DK.done Z Z (Go 10 Z (Q1 E (Lr [0,1,2,8,4,5,6,7])))
 refine Gc 8 Z ?_;obtain rfl:=Oi h;exact Rx [1,2,3,4,0,5,6] [12,13] Z (QH Z Z (C4.cons (YA GL Z Z) (C4.cons Dq.tmp C4.nil))) ⟨Z,Z⟩
def MK(n:Nat):AB Unit:=AC ()
instance i_:Kq (MK n) 37 [] [] (λ_=>.a [I (-1),I 0,I 0,I 0,I 0]) (λ_=>[.c 137 [I (-1),I 0,I 0,I 0,I 0]]):=KA func37
def mz(n:Nat)(h:AA (Int×Int))(g:Int)(d:Int×Int):AB (CG Int Int):=AH (AC (Qo h d.1 0)) λf=>AC (.k (i64.wrap (g+(if 0<i64.wrap (d.2-f)then i64.wrap (d.2-f)else 0))))
def mV(n:Nat)(d:Int):AB Int:=AC d
def PQ(f:AA (Int×Int))(g:AA (Int×Int)):AB Int:=anyP (λp39=>AH (LO (mz n g) (mV n) 0 p39) λd=>AC d) f
instance i5(j:AA (Int×Int))(k:AA (Int×Int)):Ks (PQ n j k) 31 [.p 0 0,.p 1 0] [.c 127 [.map 2],.c 127 [.map 3],.fmap (Qn (λx=>A.int .i64 x) (λx=>A.int .i64 x) j),.fmap (Qn (λx=>A.int .i64 x) (λx=>A.int .i64 x) k)] (λr=>I r):=by
 refine Kg 9 func31 Z Z Z Z λr h=>vH (sS EL) (Fg 2 Z Z ?_);have y:=_U h;have m:=λp hp=>QF (y p hp);refine _Q m (λd=>[(2,I d)]) (λd=>[.c 127 [.map 2],.c 127 [.map 3],.fmap (Qn (λx=>A.int .i64 x) (λx=>A.int .i64 x) j),.fmap (Qn (λx=>A.int .i64 x) (λx=>A.int .i64 x) k)]) ?_ (λd env H z B=>?_)
 .refine G0 1 Z (QoF (enc:=(λp=>((λx=>A.int .i64 x) p.1,(λx=>A.int .i64 x) p.2))) (λf=>[(1,.p 1 0),(2,I f),(6,.p 4 0)]) (λf q=>[.c 127 [.map 2],.c 127 [.map 3],.fmap (Qn (λx=>A.int .i64 x) (λx=>A.int .i64 x) j),.fmap (Qn (λx=>A.int .i64 x) (λx=>A.int .i64 x) k),.iter AF q]) m ?_ ?_)
  .exact Lr [0,1,2,3,4]
  intro f q E;refine G0 2 Z (QoC E (λL F G=>?_) (λM N O g P J=>?_))
  .refine Go 7 Z (zg ?_);cases F;exact Gx 1 Z (bZ G (Lr [0,1,2,3]))
  refine Go 10 Z ?_;refine vV (CU.entry) (Go 11 Z (Bd g λQ t g=>?_));refine vV (QmD YM t EL EX Ep) ?_;refine Go 1 Z (vV (CU.max Z Z Z Z) ?_);refine Go 4 Z (zf _ _ g J (Eo (rI (i:=4) Z Z) ?_));exact Lr [0,1,2,3,4]
 exact Gx 1 Z (Ef B (tp 7 Z z 2 [0,1,2,3]))
def WZ(n:Nat)(d:AA Int):AB (AA Int):=isNil d (AC []) (AH (app ([]:AA Int) d) λf=>AC f)
instance ip(d:AA Int):Kq (WZ n d) 34 [.o 0 (AI d) 1] [.r 3 1 (map (Qe .i64) d)] (λr=>.o 1 (AI r) 1) (λr=>[.r 3 1 (map (Qe .i64) d),.r 3 1 (map (Qe .i64) r)]):=by
 refine Kg 9 func34 Z Z Z Z λr h=>(Qmq underlying114 Z (λf g=>?_));have hkb1:=qW h f g;cases f
 .have h:=hkb1.2 Z;refine Go 7 Z (vH (El (xs:=[]) Qu Z Z Z Z Z trivial Z Z) ?_);refine Fg 1 Z Z (Bd h λm j h=>vH (Ql j Qu EC (QE (i:=0))) ?_);exact au h
 .have h:=hkb1.1 Z;refine Go 10 Z ?_;obtain rfl:=Oi h;refine R1 2 Z (Eo (Et (s:=2) (k:=1) (t:=3) (XR Z) Z) ?_);exact Lr [0,1]
def Iw(n:Nat)(f:Int)(g:Int)(x:CB)(y:CE)(z:AA Int)(B:AA CK)(E:AA CN)(h:AA Ue)(F:Int)(d:AA (Int×Ue))(q:CB)(t:CE):AB (Ue×Bool):=AH (AC (Qo d f ({Ah:=0,A_:={Lo:=0,Hi:=0:CK}:Ue}))) λj=>AH ((bif Fc d f then AC AE else AC (AG (g<0))):AB Bool) λk=>(bif k then AC (j,Fc d f)else AH (CJ h g) λm=>AC (m,AE))
instance yD(E:Int)(F:Int)(j:CB)(k:CE)(m:AA Int)(q:AA CK)(t:AA CN)(y:AA Ue)(z:Int)(d:AA (Int×Ue))(f:CB)(g:CE):Kq (Iw n E F j k m q t y z d f g) 95 (nD 0 0 E F) [.c 126 (match_task.tc j k m q t y (.map 1) (.fn (.func 89) [] [.p 2 0,.p 3 0,.p 4 0]) z),.map (Qn (λx=>A.int .i64 x) (λx=>A.a (Ue.c x)) d),.c 118 [.p 0 0],.c 33 (CB.c f),.c 39 (CE.c g)] (λr=>.t [.a (Ue.c r.1),.b r.2]) (λr=>[.c 126 (match_task.tc j k m q t y (.map 1) (.fn (.func 89) [] [.p 2 0,.p 3 0,.p 4 0]) z),.map (Qn (λx=>A.int .i64 x) (λx=>A.a (Ue.c x)) d),.c 118 [.p 0 0],.c 33 (CB.c f),.c 39 (CE.c g),.c 135 (Ue.c r.1)]):=by
 refine Kg 14 func95 Z Z Z Z λr h=>Bd h λJ G h=>?_;refine vV (mD YM G Gy Gu (Fh Z)) (Go 8 Z (Bd h λB H h=>Cg B [0,1,2,3,4,5] [0,2,6,7] (λB=>[(21,.b B)]) Ze Zf ?_ ?_))
 .exact au H
 exact au h
def MQ(g:CB)(h:CE)(f:Int)(d:CK):AB (CK×Int):=AH (F0 n g) λk=>(bif (k != 0)then AC ({Lo:=0,Hi:=0:CK},k)else AH (Iy n h) λm=>(bif (m != 0)then AC ({Lo:=0,Hi:=0:CK},m)else AH ((bif f<(-1) then AC AE else(bif (AI h.AS:Int)<=f then AC AE else AH (Hn n d.Lo) λq=>(bif (!q)then AC AE else AH (Hn n d.Hi) λt=>(bif (!t)then AC AE else AC (AG (d.Hi<d.Lo)))))):AB Bool) λx=>(bif x then AC ({Lo:=0,Hi:=0:CK},1)else(bif f<0 then AC ({Lo:=d.Lo,Hi:=i64.wrap (d.Hi+g.AQ.Al):CK},0)else AH (CJ h.AS f) λj=>AH (KW n g j.Am) λy=>(bif (!y)then AC ({Lo:=0,Hi:=0:CK},1)else AH (IM n g j d.Lo) λz=>AH (CJ h.BN (i64.wrap (f+1))) λB=>AH (CJ B 0) λE=>AH (IM n g j d.Hi) λF=>AH (CJ h.BN 0) λG=>AH (CJ G (i64.wrap (f+1))) λH=>AC ({Lo:=i64.wrap ((i64.wrap (d.Lo+z.Lo))-E),Hi:=i64.wrap ((i64.wrap (d.Hi+F.Hi))+H):CK},0))))))
instance jJ(k:CB)(m:CE)(F:Int)(f:CK):Kq (MQ n k m F f) 90 [.a (CB.c k),.a (CE.c m),I F,.a [I f.Lo,I f.Hi]] [] (λr=>.t [.a [I r.1.Lo,I r.1.Hi],I r.2]) (λr=>[.c 67 [I r.1.Lo,I r.1.Hi]]):=by
 refine Kg 13 func90 Z Z Z Z λr h=>Cz [] h Kc Z λr1 W h=>Go 9 Z (Cn Z h (λ_ h=>?_) (λ_ h=>?_))
 .exact au h
 refine Gc 6 Z (Cz [] h Kc Z λr3 X h=>Go 9 Z (Cn Z h (λ_ h=>?_) (λ_ h=>?_)))
 .exact au h
 refine Gc 5 Z (Bd h λz T h=>Cg z [0,1,2,3] [2,4,5,7,8] (λz=>[(24,.b z)]) Ze Zf ?_ ?_)
 .exact au T
 refine Cn Z h (λ_ h=>?_) (λ_ h=>?_)
 .exact au h
 refine Gc 7 Z (Cn Z h (λ_ h=>?_) (λ_ h=>?_))
 .exact au h
 refine Gc 8 Z (Bd h λj M h=>Iz M Z (Go 11 Z (Cz [] h Kc Z λY V h=>Go 3 Z (Cn Z h (λ_ h=>?_) (λ_ h=>?_)))))
 .exact au h
 refine Gc 10 Z ?_;obtain⟨d,O,h⟩:=QF h;obtain⟨G,q,h⟩:=QF h;obtain⟨B,t,h⟩:=QF h;obtain⟨g,P,h⟩:=QF h;obtain⟨H,x,h⟩:=QF h;obtain⟨E,y,h⟩:=QF h;refine Yu 34 0 [79,80,81,82,83,84,85,86,87,88,89,90,91,92,93,94,95,96,97,98,99,100,101,102,103,104,105,106,107,108,109,110,111,112] [AD,AD,AD,AD,AD,AD,AE,AD,AD,AD,AD,AD,AD,AD,AD,AD,AD,AD,AD,AD,AD,AD,AD,AE,AD,AD,AD,AD,AD,AD,AD,AD,AD,AD] [[],[],[],[],[],[],[],[6],[6],[],[],[],[],[],[],[],[6],[],[],[],[],[],[],[6],[6,23],[6,23],[],[],[],[],[],[],[],[6,23]] [[],[6],[6,23]] [[(0,0),(1,1),(2,2)],[(0,0),(1,1),(2,2)],[(0,0)],[(0,0)],[(0,0)],[(0,0)],[(0,1)],[(1,1),(2,2)],[(1,1),(2,2)],[(0,0),(1,1),(2,2)],[(0,0),(1,1),(2,2)],[(0,0),(1,1),(2,2)],[(0,0),(1,1),(2,2)],[(0,0),(1,1),(2,2)],[(0,0),(1,1),(2,2)],[(0,0),(1,1),(2,2)],[(1,1),(2,2)],[(0,0),(1,1),(2,2)],[(0,0),(1,1),(2,2)],[(0,0),(1,1)],[(0,0),(1,1)],[(0,0),(1,1)],[(0,0),(1,1)],[(1,2)],[(2,2)],[(2,2)],[(0,0),(1,1),(2,2)],[(0,0),(1,1),(2,2)],[(0,0),(1,1),(2,2)],[(0,0),(1,1),(2,2)],[(0,0),(1,1),(2,2)],[(0,0),(1,1),(2,2)],[(0,0),(1,1),(2,2)],[(2,2)]] [.p 2 0,I f.Lo,.a (CB.c k),.a (CC.c j),.p 2 0,I f.Lo,.a [I d.Lo,I d.Hi],I d.Lo,I (i64.wrap (f.Lo+d.Lo)),.p 1 1,.q 1 (map (Qx 1 (Qe .i64)) m.BN),I (i64.wrap (F+1)),.rp [.q 1 (map (Qe .i64) G)],.q 1 (map (Qe .i64) G),.rp [I B],I B,I (i64.wrap ((i64.wrap (f.Lo+d.Lo))-B)),.p 2 1,I f.Hi,.a (CB.c k),.a (CC.c j),.p 2 1,I f.Hi,.a [I g.Lo,I g.Hi],I g.Hi,I (i64.wrap (f.Hi+g.Hi)),.p 1 1,.q 1 (map (Qx 1 (Qe .i64)) m.BN),.rp [.q 1 (map (Qe .i64) H)],.q 1 (map (Qe .i64) H),I (i64.wrap (F+1)),.rp [I E],I E,I (i64.wrap ((i64.wrap (f.Hi+g.Hi))+E))] [[.c 33 (CB.c k),.c 39 (CE.c m),.c 67 [I f.Lo,I f.Hi],.c 67 [I 0,I 0],.c 202 (CC.c j)],[.c 33 (CB.c k),.c 39 (CE.c m),.c 67 [I f.Lo,I f.Hi],.c 67 [I 0,I 0],.c 202 (CC.c j),.c 67 [I d.Lo,I d.Hi]],[.c 33 (CB.c k),.c 39 (CE.c m),.c 67 [I f.Lo,I f.Hi],.c 67 [I 0,I 0],.c 202 (CC.c j),.c 67 [I d.Lo,I d.Hi],.c 67 [I g.Lo,I g.Hi]]] ([.c 33 (CB.c k),.c 39 (CE.c m),.c 67 [I f.Lo,I f.Hi],.c 67 [I 0,I 0],.c 202 (CC.c j),.c 67 [I d.Lo,I d.Hi],.c 67 [I g.Lo,I g.Hi]]) C' Z Z Z Z Z Z Z ?_ Z ?_
 .refine CL.cons (Qa (v0 Z Z) (Qa (v0 Z Z) (Qa (v0 Z Z) (Qc)))) (CL.cons (Qa (v0 Z Z) (Qa (v0 Z Z) (Qa (v0 Z Z) (Qc)))) (CL.cons (Qa (v0 Z Z) (Qc)) (CL.cons (Qa (v0 Z Z) (Qc)) (CL.cons (Qa (v0 Z Z) (Qc)) (CL.cons (Qa (v0 Z Z) (Qc)) (CL.cons ?_ (CL.cons ?_ (CL.cons ?_ (CL.cons (Qa (v0 Z Z) (Qa (v0 Z Z) (Qa (v0 Z Z) (Qc)))) (CL.cons (Qa (v0 Z Z) (Qa (v0 Z Z) (Qa (v0 Z Z) (Qc)))) (CL.cons (Qa (v0 Z Z) (Qa (v0 Z Z) (Qa (v0 Z Z) (Qc)))) (CL.cons ?_ (CL.cons (Qa (v0 Z Z) (Qa (v0 Z Z) (Qa (v0 Z Z) (Qc)))) (CL.cons ?_ (CL.cons (Qa (v0 Z Z) (Qa (v0 Z Z) (Qa (v0 Z Z) (Qc)))) (CL.cons ?_ (CL.cons (Qa (v0 Z Z) (Qa (v0 Z Z) (Qa (v0 Z Z) (Qc)))) (CL.cons (Qa (v0 Z Z) (Qa (v0 Z Z) (Qa (v0 Z Z) (Qc)))) (CL.cons (Qa (v0 Z Z) (Qa (v0 Z Z) (Qc))) (CL.cons (Qa (v0 Z Z) (Qa (v0 Z Z) (Qc))) (CL.cons (Qa (v0 Z Z) (Qa (v0 Z Z) (Qc))) (CL.cons (Qa (v0 Z Z) (Qa (v0 Z Z) (Qc))) (CL.cons ?_ (CL.cons ?_ (CL.cons ?_ (CL.cons (Qa (v0 Z Z) (Qa (v0 Z Z) (Qa (v0 Z Z) (Qc)))) (CL.cons (Qa (v0 Z Z) (Qa (v0 Z Z) (Qa (v0 Z Z) (Qc)))) (CL.cons ?_ (CL.cons (Qa (v0 Z Z) (Qa (v0 Z Z) (Qa (v0 Z Z) (Qc)))) (CL.cons (Qa (v0 Z Z) (Qa (v0 Z Z) (Qa (v0 Z Z) (Qc)))) (CL.cons ?_ (CL.cons (Qa (v0 Z Z) (Qa (v0 Z Z) (Qa (v0 Z Z) (Qc)))) (CL.cons ?_ (CL.nil))))))))))))))))))))))))))))))))))
  .refine Qa ?_ (Qc)
   .refine Fu Z (sD 2 (sD 3 (sD 5 sN))) ?_;refine Qh [] (C6.fn call158 Z Z Z) ((aO _ _ _ _).c _ O) ?_;rintro _ _ ⟨rfl,rfl⟩;exact FE Z Wp
  .refine Qa ?_ (Qa ?_ (Qc))
   iterate 2 refine Om Z (sD 6 sN) ?_;refine vX (I d.Lo) (tY QkU Gs Z EF) ?_;exact Wp
  .refine Qa ?_ (Qa ?_ (Qc))
   iterate 2 refine Om Z (sD 1 (sD 7 sN)) ?_;exact S Z Wp
  .refine Qa ?_ (Qa ?_ (Qa ?_ (Qc)))
   iterate 3 refine Om Z (sD 10 (sD 11 sN)) ?_;exact Ix q EH EO Z Wp
  .refine Qa ?_ (Qa ?_ (Qa ?_ (Qc)))
   iterate 3 refine Om Z (sD 13 sN) ?_;exact Ix t EC ED Z Wp
  .refine Qa ?_ (Qa ?_ (Qc))
   iterate 2 refine Om Z (sD 8 (sD 15 sN)) ?_;exact S Z Wp
  .refine Qa ?_ (Qc)
   .refine Fu Z (sD 19 (sD 20 (sD 22 sN))) ?_;refine Qh [] (C6.fn call158 Z Z Z) ((aO _ _ _ _).c _ P) ?_;rintro _ _ ⟨rfl,rfl⟩;exact FE Z Wp
  .refine Qa ?_ (Qc)
   .refine Om Z (sD 23 sN) ?_;refine vX (I g.Hi) (tY b? Gs Z EF) ?_;exact Wp
  .refine Qa ?_ (Qc)
   .refine Om Z (sD 18 (sD 24 sN)) ?_;exact S Z Wp
  .refine Qa ?_ (Qa ?_ (Qa ?_ (Qc)))
   iterate 3 refine Om Z (sD 27 sN) ?_;exact Ix x EH EO Z Wp
  .refine Qa ?_ (Qa ?_ (Qa ?_ (Qc)))
   iterate 3 refine Om Z (sD 29 (sD 30 sN)) ?_;exact Ix y EC ED Z Wp
  .refine Qa ?_ (Qc)
   .refine Om Z (sD 25 (sD 32 sN)) ?_;exact S Z Wp
 exact au h
def L4(n:Nat)(d:CK)(f:CK):AB Unit:=AC ()
instance xb(d:CK)(f:CK):Ks (L4 n d f) 91 [.a [I d.Lo,I d.Hi],.a [I f.Lo,I f.Hi]] [] (λ_=>.b (AG ((if d.Lo<f.Lo then f.Lo else d.Lo)<=(if f.Hi<d.Hi then f.Hi else d.Hi)))):=by
 refine Kg 13 func91 Z Z Z Z λr h=>(vV (CU.max Z Z Z Z) ?_);refine Go 4 Z (vV (CU.min Z Z Z Z) ?_);exact Gt 5 Z h 4 []
def Ou(h:Int)(j:Int)(q:CB)(t:CE)(B:CB)(E:CE)(F:AA Int)(G:AA CK)(x:AA CN)(k:AA Ue)(z:Int)(g:AA (Int×Ue)):AB Bool:=AH (AC (Qo g j ({Ah:=0,A_:={Lo:=0,Hi:=0:CK}:Ue}))) λf=>(bif (!(Fc g j))then AC AE else AH (CJ x h) λm=>AH (CJ k h) λy=>AH (MQ n q t y.Ah ({Lo:=m.BO,Hi:=m.A9:CK})) λd=>AH (L4 n ({Lo:=d.1.Lo,Hi:=d.1.Hi:CK}) f.A_) λH=>AC (AG ((if d.1.Lo<f.A_.Lo then f.A_.Lo else d.1.Lo)<=(if f.A_.Hi<d.1.Hi then f.A_.Hi else d.1.Hi))))
instance wx(N:Int)(J:Int)(q:CB)(t:CE)(y:CB)(z:CE)(B:AA Int)(E:AA CK)(F:AA CN)(g:AA Ue)(j:Int)(f:AA (Int×Ue)):Ks (Ou n N J q t y z B E F g j f) 89 [I N,I J,.p 0 0,.p 1 0,.p 2 0] [.c 118 [.p 3 0],.c 33 (CB.c q),.c 39 (CE.c t),.c 126 (match_task.tc y z B E F g (.map 4) (.fn (.func 89) [] [.p 0 0,.p 1 0,.p 2 0]) j),.map (Qn (λx=>A.int .i64 x) (λx=>A.a (Ue.c x)) f)] (λr=>.b r):=by
 refine Kg 12 func89 Z Z Z Z λr h=>Bd h λG O h=>?_;refine vX (.t [.a (Ue.c G),.b (Fc f J)]) (mD (ev:=(λx=>A.a (Ue.c x))) (z0:=({Ah:=0,A_:={Lo:=0,Hi:=0:CK}:Ue})) (k:=J) (l:=f) YM O Gy Gu (Fh Z)) ?_;refine Go 15 Z (Cn Z h (λ_ h=>?_) (λ_ h=>?_))
 .exact au h
 refine Gc 9 Z (Bd h λm Q h=>Iz Q Z (Go 6 Z ?_));obtain⟨H,L,h⟩:=QF h;obtain⟨d,M,h⟩:=QF h;refine Yu 21 1 [32,33,34,35,36,37,38,39,40,41,42,43,44,45,46,47,31,48,49,11,1000020] [AD,AD,AD,AD,AD,AD,AD,AD,AD,AD,AD,AD,AD,AD,AD,AE,AD,AD,AD,AE,AE] [[],[],[],[],[],[],[],[],[],[],[],[],[],[],[],[],[15],[15],[15],[],[15,19]] [[],[15],[19],[15,19],[15,19,20]] [[(0,0),(2,2)],[(0,0),(2,2)],[(0,0),(2,2)],[(0,0),(2,2)],[(0,0),(2,2)],[(0,0),(2,2)],[(0,0),(2,2)],[(0,0),(2,2)],[(0,0),(2,2)],[(0,0),(2,2)],[(0,0),(2,2)],[(0,0),(2,2)],[(0,0),(2,2)],[(0,0),(2,2)],[(0,0),(2,2)],[(0,1),(2,3)],[(1,1),(3,3)],[(1,1),(3,3)],[(1,1),(3,3),(4,4)],[(0,2),(1,3)],[(3,4)]] [.a (CB.c q),.a (CE.c t),.p 3 0,.p 3 0,.p 3 21,.q 3 (map Ue.c g),I N,.rp [I H.Ah,I H.A_.Lo,I H.A_.Hi],.rp [I H.Ah,I H.A_.Lo,I H.A_.Hi],I H.Ah,.p 6 3,I m.BO,.p 6 4,I m.A9,.a [I m.BO,I m.A9],.t [.a [I d.1.Lo,I d.1.Hi],I d.2],.t [.a [I d.1.Lo,I d.1.Hi],I d.2],.a [I d.1.Lo,I d.1.Hi],I d.2,.p 7 0,.any] [[.c 118 [.p 3 0],.c 33 (CB.c q),.c 39 (CE.c t),.c 126 (match_task.tc y z B E F g (.map 4) (.fn (.func 89) [] [.p 0 0,.p 1 0,.p 2 0]) j),.map (Qn (λx=>A.int .i64 x) (λx=>A.a (Ue.c x)) f),.c 135 (Ue.c G),.c 129 (CN.c m),.dead],[.c 118 [.p 3 0],.c 33 (CB.c q),.c 39 (CE.c t),.c 126 (match_task.tc y z B E F g (.map 4) (.fn (.func 89) [] [.p 0 0,.p 1 0,.p 2 0]) j),.map (Qn (λx=>A.int .i64 x) (λx=>A.a (Ue.c x)) f),.c 135 (Ue.c G),.c 129 (CN.c m),.dead,.c 67 [I d.1.Lo,I d.1.Hi]],[.c 118 [.p 3 0],.c 33 (CB.c q),.c 39 (CE.c t),.c 126 (match_task.tc y z B E F g (.map 4) (.fn (.func 89) [] [.p 0 0,.p 1 0,.p 2 0]) j),.map (Qn (λx=>A.int .i64 x) (λx=>A.a (Ue.c x)) f),.c 135 (Ue.c G),.c 129 (CN.c m),.c 67 [I 0,I 0]],[.c 118 [.p 3 0],.c 33 (CB.c q),.c 39 (CE.c t),.c 126 (match_task.tc y z B E F g (.map 4) (.fn (.func 89) [] [.p 0 0,.p 1 0,.p 2 0]) j),.map (Qn (λx=>A.int .i64 x) (λx=>A.a (Ue.c x)) f),.c 135 (Ue.c G),.c 129 (CN.c m),.c 67 [I 0,I 0],.c 67 [I d.1.Lo,I d.1.Hi]],[.c 118 [.p 3 0],.c 33 (CB.c q),.c 39 (CE.c t),.c 126 (match_task.tc y z B E F g (.map 4) (.fn (.func 89) [] [.p 0 0,.p 1 0,.p 2 0]) j),.map (Qn (λx=>A.int .i64 x) (λx=>A.a (Ue.c x)) f),.c 135 (Ue.c G),.c 129 (CN.c m),.c 67 [I d.1.Lo,I d.1.Hi],.c 67 [I d.1.Lo,I d.1.Hi]]] ([.c 118 [.p 3 0],.c 33 (CB.c q),.c 39 (CE.c t),.c 126 (match_task.tc y z B E F g (.map 4) (.fn (.func 89) [] [.p 0 0,.p 1 0,.p 2 0]) j),.map (Qn (λx=>A.int .i64 x) (λx=>A.a (Ue.c x)) f),.c 135 (Ue.c G),.c 129 (CN.c m),.c 67 [I d.1.Lo,I d.1.Hi],.c 67 [I d.1.Lo,I d.1.Hi]]) C' Z Z Z Z Z Z Z ?_ Z ?_
 .refine CL.cons (Qa (v0 Z Z) (Qa (v0 Z Z) (Qc))) (CL.cons (Qa (v0 Z Z) (Qa (v0 Z Z) (Qc))) (CL.cons (Qa (v0 Z Z) (Qa (v0 Z Z) (Qc))) (CL.cons ?_ (CL.cons (Qa (v0 Z Z) (Qa (v0 Z Z) (Qc))) (CL.cons (Qa (v0 Z Z) (Qa (v0 Z Z) (Qc))) (CL.cons (Qa (v0 Z Z) (Qa (v0 Z Z) (Qc))) (CL.cons ?_ (CL.cons (Qa (v0 Z Z) (Qa (v0 Z Z) (Qc))) (CL.cons (Qa (v0 Z Z) (Qa (v0 Z Z) (Qc))) (CL.cons (Qa (v0 Z Z) (Qa (v0 Z Z) (Qc))) (CL.cons (Qa (v0 Z Z) (Qa (v0 Z Z) (Qc))) (CL.cons (Qa (v0 Z Z) (Qa (v0 Z Z) (Qc))) (CL.cons (Qa (v0 Z Z) (Qa (v0 Z Z) (Qc))) (CL.cons (Qa (v0 Z Z) (Qa (v0 Z Z) (Qc))) (CL.cons ?_ (CL.cons (Qa (v0 Z Z) (Qa (v0 Z Z) (Qc))) (CL.cons (Qa (v0 Z Z) (Qa (v0 Z Z) (Qc))) (CL.cons (Qa (v0 Z Z) (Qa (v0 Z Z) (Qa (v0 Z Z) (Qc)))) (CL.cons ?_ (CL.cons ?_ (CL.nil)))))))))))))))))))))
  .refine Qa ?_ (Qa ?_ (Qc))
   iterate 2 refine Om Z (sD 2 sN) ?_;exact S Z Wp
  .refine Qa ?_ (Qa ?_ (Qc))
   iterate 2 refine Om Z (sD 5 (sD 6 sN)) ?_;exact Ix L GB GY Z Wp
  .refine Qa ?_ (Qa ?_ (Qc))
   iterate 2 refine Fu Z (sD 0 (sD 1 (sD 9 (sD 14 sN)))) ?_;refine Qh [] (C6.fn call90 Z Z Z) ((jJ _ _ _ _ _).c _ M) ?_;rintro _ _ ⟨rfl,rfl⟩;exact FE Z Wp
  .refine Qa ?_ (Qa ?_ (Qc))
   iterate 2 exact Jk.alloc _ 11 67 7 _ Z Z Z Z Z Z Z (Im.alloc (v:=(.a [I 0,I 0])) EJ (Fh Z)) Z
  .refine Qa ?_ (Qc)
   .refine Sh Z (sD 19 (sD 17 sN)) ?_;refine vU (Ez Z Z Z Gf Z Z Z Z Z Z Z) ?_;exact FE Z Wp
 exact au h
def Kd(n:Nat)(f:Int)(g:Int)(y:CB)(z:CE)(B:AA Int)(d:AA CK)(E:AA CN)(F:AA Ue)(G:Int)(q:AA (Int×Ue))(t:CB)(x:CE):AB CK:=AH (CJ d g) λh=>AH (CJ d f) λj=>AH (CJ d g) λk=>AH (CJ d f) λm=>AC ({Lo:=(if i64.wrap (h.Lo-j.Lo)<2199023255552 then i64.wrap (h.Lo-j.Lo)else 2199023255552),Hi:=(if i64.wrap (k.Hi-m.Hi)<2199023255552 then i64.wrap (k.Hi-m.Hi)else 2199023255552):CK})
instance jK(B:Int)(E:Int)(j:CB)(k:CE)(m:AA Int)(q:AA CK)(t:AA CN)(y:AA Ue)(z:Int)(d:AA (Int×Ue))(f:CB)(g:CE):Kq (Kd n B E j k m q t y z d f g) 161 (nD 0 0 B E) [.c 126 (match_task.tc j k m q t y (.map 1) (.fn (.func 89) [] [.p 2 0,.p 3 0,.p 4 0]) z),.map (Qn (λx=>A.int .i64 x) (λx=>A.a (Ue.c x)) d),.c 118 [.p 0 0],.c 33 (CB.c f),.c 39 (CE.c g)] (λr=>.a [I r.Lo,I r.Hi]) (λr=>[.c 126 (match_task.tc j k m q t y (.map 1) (.fn (.func 89) [] [.p 2 0,.p 3 0,.p 4 0]) z),.map (Qn (λx=>A.int .i64 x) (λx=>A.a (Ue.c x)) d),.c 118 [.p 0 0],.c 33 (CB.c f),.c 39 (CE.c g),.c 67 [I r.Lo,I r.Hi]]):=by
 refine Kg 6 func161 Z Z Z Z λr h=>DR 36 Z (D 5 Z ?_);obtain⟨F,G,h⟩:=QF h;refine DS.wo (x:=.rp [I F.Lo,I F.Hi]) ?_ ?_
 .exact Ix G E9 Gf Z Wp
 refine D 7 Z ?_;obtain⟨H,J,h⟩:=QF h;refine DS.wo (x:=.rp [I H.Lo,I H.Hi]) ?_ ?_
 .exact Ix J E9 Gf Z Wp
 refine D 3 Z ?_;refine DS.v (CU.min Z Z Z Z) ?_;refine D 5 Z ?_;obtain⟨L,M,h⟩:=QF h;refine DS.wo (x:=.rp [I L.Lo,I L.Hi]) ?_ ?_
 .exact Ix M E9 Gf Z Wp
 refine D 7 Z ?_;obtain⟨N,O,h⟩:=QF h;refine DS.wo (x:=.rp [I N.Lo,I N.Hi]) ?_ ?_
 .exact Ix O E9 Gf Z Wp
 refine D 3 Z ?_;refine DS.v (CU.min Z Z Z Z) ?_;exact au h
def Ka(f:Ue)(E:Int)(g:Ue)(F:Int)(G:CB)(j:CE)(H:AA Int)(J:AA CK)(L:AA CN)(k:AA Ue)(m:Int)(q:AA (Int×Ue))(t:CB)(x:CE):AB Bool:=AH ((bif ((i64.wrap (f.Ah+1)) != (i64.wrap (g.Ah+1)))then AH (CJ j.BN (i64.wrap (g.Ah+1))) λM=>AH (CJ M (i64.wrap (f.Ah+1))) λy=>AH (CJ j.BN (i64.wrap (f.Ah+1))) λz=>AH (CJ z (i64.wrap (g.Ah+1))) λB=>AC ({Lo:=i64.wrap ((i64.wrap (g.A_.Lo-f.A_.Hi))-y),Hi:=i64.wrap ((i64.wrap (g.A_.Hi-f.A_.Lo))+B):CK})else AC ({Lo:=i64.wrap (g.A_.Lo-f.A_.Hi),Hi:=i64.wrap (g.A_.Hi-f.A_.Lo):CK})):AB CK) λh=>AH (Kd n E F G j H J L k m q t x) λd=>AH (L4 n ({Lo:=h.Lo,Hi:=h.Hi:CK}) ({Lo:=d.Lo,Hi:=d.Hi:CK})) λN=>AC (AG ((if h.Lo<d.Lo then d.Lo else h.Lo)<=(if d.Hi<h.Hi then d.Hi else h.Hi)))
instance yB(d:Ue)(R:Int)(f:Ue)(T:Int)(F:CB)(y:CE)(G:AA Int)(H:AA CK)(J:AA CN)(j:AA Ue)(k:Int)(m:AA (Int×Ue))(q:CB)(t:CE):Ks (Ka n d R f T F y G H J j k m q t) 96 [.p 0 0,.a (Ue.c d),I R,.a (Ue.c f),I T] [.c 126 (match_task.tc F y G H J j (.map 1) (.fn (.func 89) [] [.p 2 0,.p 3 0,.p 4 0]) k),.map (Qn (λx=>A.int .i64 x) (λx=>A.a (Ue.c x)) m),.c 118 [.p 0 0],.c 33 (CB.c q),.c 39 (CE.c t)] (λr=>.b r):=by
 refine Kg 30 func96 Z Z Z Z λr h=>DR 7 Z (D 7 Z (Eh Z (Go 10 Z (Bd h λz g h=>?_))));refine Cg z [0,1,2,3,4,7] [0,2,4,11] Ze (λz=>[(5,.c 67 [I z.Lo,I z.Hi])]) Zf ?_ ?_
 .refine G0 0 Z (Cn Z g (λ_ g=>?_) (λ_ g=>?_))
  .obtain⟨W,X,g⟩:=QF g;obtain⟨B,P,g⟩:=QF g;obtain⟨O,L,g⟩:=QF g;obtain⟨M,N,g⟩:=QF g;refine Yu 30 0 [38,39,40,41,42,43,44,45,46,47,48,49,50,51,52,53,54,55,56,57,58,59,60,61,62,63,64,65,66,1000029] [AD,AD,AD,AD,AD,AD,AD,AD,AD,AD,AD,AD,AD,AD,AD,AD,AD,AD,AD,AD,AD,AD,AD,AD,AD,AD,AD,AD,AD,AE] [[],[],[],[],[],[],[],[],[],[],[],[],[],[],[],[],[],[],[],[],[],[],[],[],[],[],[],[],[],[]] [[],[29]] [[(0,0)],[(0,0)],[(0,0)],[(0,0)],[(0,0)],[(0,0)],[(0,0)],[(0,0)],[(0,0)],[(0,0)],[(0,0)],[(0,0)],[(0,0)],[(0,0)],[(0,0)],[(0,0)],[(0,0),(1,1)],[(0,0),(1,1)],[(0,0),(1,1)],[(0,0),(1,1)],[(0,0),(1,1)],[(0,0),(1,1)],[(0,0),(1,1)],[(0,0),(1,1)],[(0,0),(1,1)],[(0,0),(1,1)],[(0,0),(1,1)],[(0,0),(1,1)],[(0,0)],[(0,1)]] [.p 7 0,I (i64.wrap (f.A_.Lo-d.A_.Hi)),.p 0 0,.p 0 0,.p 0 16,.p 0 17,.q 1 (map (Qx 1 (Qe .i64)) y.BN),I (i64.wrap (f.Ah+1)),.rp [.q 1 (map (Qe .i64) W)],.q 1 (map (Qe .i64) W),I (i64.wrap (d.Ah+1)),.rp [I B],I B,I (i64.wrap ((i64.wrap (f.A_.Lo-d.A_.Hi))-B)),.p 7 1,I (i64.wrap (f.A_.Hi-d.A_.Lo)),.p 0 0,.p 0 0,.p 0 16,.p 0 17,.q 1 (map (Qx 1 (Qe .i64)) y.BN),I (i64.wrap (d.Ah+1)),.rp [.q 1 (map (Qe .i64) O)],.q 1 (map (Qe .i64) O),I (i64.wrap (f.Ah+1)),.rp [I M],I M,I (i64.wrap ((i64.wrap (f.A_.Hi-d.A_.Lo))+M)),.p 7 0,.any] [[.c 126 (match_task.tc F y G H J j (.map 1) (.fn (.func 89) [] [.p 2 0,.p 3 0,.p 4 0]) k),.map (Qn (λx=>A.int .i64 x) (λx=>A.a (Ue.c x)) m),.c 118 [.p 0 0],.c 33 (CB.c q),.c 39 (CE.c t),.c 135 (Ue.c d),.c 135 (Ue.c f),.c 67 [I (i64.wrap (f.A_.Lo-d.A_.Hi)),I (i64.wrap (f.A_.Hi-d.A_.Lo))]],[.c 126 (match_task.tc F y G H J j (.map 1) (.fn (.func 89) [] [.p 2 0,.p 3 0,.p 4 0]) k),.map (Qn (λx=>A.int .i64 x) (λx=>A.a (Ue.c x)) m),.c 118 [.p 0 0],.c 33 (CB.c q),.c 39 (CE.c t),.c 135 (Ue.c d),.c 135 (Ue.c f),.c 67 [I (i64.wrap ((i64.wrap (f.A_.Lo-d.A_.Hi))-B)),I (i64.wrap (f.A_.Hi-d.A_.Lo))]]] ([.c 126 (match_task.tc F y G H J j (.map 1) (.fn (.func 89) [] [.p 2 0,.p 3 0,.p 4 0]) k),.map (Qn (λx=>A.int .i64 x) (λx=>A.a (Ue.c x)) m),.c 118 [.p 0 0],.c 33 (CB.c q),.c 39 (CE.c t),.c 135 (Ue.c d),.c 135 (Ue.c f),.c 67 [I (i64.wrap ((i64.wrap (f.A_.Lo-d.A_.Hi))-B)),I (i64.wrap (f.A_.Hi-d.A_.Lo))]]) C' Z Z Z Z Z Z Z ?_ Z ?_
   .refine CL.cons (Qa (v0 Z Z) (Qc)) (CL.cons (Qa (v0 Z Z) (Qc)) (CL.cons (Qa (v0 Z Z) (Qc)) (CL.cons ?_ (CL.cons (Qa (v0 Z Z) (Qc)) (CL.cons (Qa (v0 Z Z) (Qc)) (CL.cons (Qa (v0 Z Z) (Qc)) (CL.cons (Qa (v0 Z Z) (Qc)) (CL.cons ?_ (CL.cons (Qa (v0 Z Z) (Qc)) (CL.cons (Qa (v0 Z Z) (Qc)) (CL.cons ?_ (CL.cons (Qa (v0 Z Z) (Qc)) (CL.cons ?_ (CL.cons (Qa (v0 Z Z) (Qc)) (CL.cons (Qa (v0 Z Z) (Qc)) (CL.cons (Qa (v0 Z Z) (Qa (v0 Z Z) (Qc))) (CL.cons ?_ (CL.cons (Qa (v0 Z Z) (Qa (v0 Z Z) (Qc))) (CL.cons (Qa (v0 Z Z) (Qa (v0 Z Z) (Qc))) (CL.cons (Qa (v0 Z Z) (Qa (v0 Z Z) (Qc))) (CL.cons (Qa (v0 Z Z) (Qa (v0 Z Z) (Qc))) (CL.cons ?_ (CL.cons (Qa (v0 Z Z) (Qa (v0 Z Z) (Qc))) (CL.cons (Qa (v0 Z Z) (Qa (v0 Z Z) (Qc))) (CL.cons ?_ (CL.cons (Qa (v0 Z Z) (Qa (v0 Z Z) (Qc))) (CL.cons ?_ (CL.cons (Qa (v0 Z Z) (Qc)) (CL.cons ?_ (CL.nil))))))))))))))))))))))))))))))
    .refine Qa ?_ (Qc)
     .refine Om Z (sD 2 sN) ?_;exact S Z Wp
    .refine Qa ?_ (Qc)
     .refine Om Z (sD 6 (sD 7 sN)) ?_;exact Ix X EH EO Z Wp
    .refine Qa ?_ (Qc)
     .refine Om Z (sD 9 (sD 10 sN)) ?_;exact Ix P EC ED Z Wp
    .refine Qa ?_ (Qc)
     .refine Om Z (sD 1 (sD 12 sN)) ?_;exact S Z Wp
    .refine Qa ?_ (Qa ?_ (Qc))
     iterate 2 refine Om Z (sD 16 sN) ?_;exact S Z Wp
    .refine Qa ?_ (Qa ?_ (Qc))
     iterate 2 refine Om Z (sD 20 (sD 21 sN)) ?_;exact Ix L EH EO Z Wp
    .refine Qa ?_ (Qa ?_ (Qc))
     iterate 2 refine Om Z (sD 23 (sD 24 sN)) ?_;exact Ix N EC ED Z Wp
    .refine Qa ?_ (Qa ?_ (Qc))
     iterate 2 refine Om Z (sD 15 (sD 26 sN)) ?_;exact S Z Wp
    .refine Qa ?_ (Qc)
     .refine Sh Z (sD 13 (sD 28 sN)) ?_;refine vU (Ez Z Z Z ED Z Z Z Z Z Z Z) ?_;exact FE Z Wp
   exact au g
  exact au g
 refine Gc 1 Z (HF 5 [4] [(0,0,1),(0,0,0),(0,0,0),(0,0,0),(1,0,0)] (by kernel_rfl) ?_);refine JR (lo:=0) (x:=.a [I z.Lo,I z.Hi]) ⟨Z,trivial⟩ ?_;refine Dk 3 Z ?_;obtain⟨E,Q,h⟩:=QF h;refine Ey (x:=.a [I E.Lo,I E.Hi]) (X1:=[.c 126 (match_task.tc F y G H J j (.map 1) (.fn (.func 89) [] [.p 2 0,.p 3 0,.p 4 0]) k),.map (Qn (λx=>A.int .i64 x) (λx=>A.a (Ue.c x)) m),.c 118 [.p 0 0],.c 33 (CB.c q),.c 39 (CE.c t),.c 67 [I z.Lo,I z.Hi],.c 67 [I E.Lo,I E.Hi]]) ?_ ?_
 .refine Qh [0,1,2,3,4] (C6.fn call161 Z Z Z) ((jK _ _ _ _ _ _ _ _ _ _ _ _ _).c _ Q) ?_;rintro _ _ ⟨rfl,rfl⟩;exact FE Z Wp
 exact DK.done Z Z (Cz [] h Kc Z λaa Y h=>Gt 4 Z h 10 [0,1,2,3,4])
def KY(d:Uh)(k:Int)(E:Int)(m:CB)(q:CE)(t:AA Int)(x:AA CK)(y:AA CN)(z:AA Ue)(f:Int)(g:AA (Int×Ue))(h:CB)(j:CE):AB (Uh×Bool):=AH (Iw n k E m q t x y z f g h j) λB=>(bif (!B.2)then AC ({d with row:=i64.wrap (d.row+1):Uh},AG ((i64.wrap (d.row+1))<=m.AQ.A8))else AH ((bif 0<=E then AH (Ou n E k h j m q t x y z f g) λF=>(bif (!F)then AC AE else(bif 0<=d.Bm then AH (Ka n d.Bv d.Bm B.1 k m q t x y z f g h j) λG=>AC (!G)else AC AD))else(bif 0<=d.Bm then AH (Ka n d.Bv d.Bm B.1 k m q t x y z f g h j) λH=>AC (!H)else AC AD)):AB Bool) λJ=>(bif J then AC (d,AD)else AC ({Bm:=k,Bv:=B.1,row:=0:Uh},AE)))
instance x_(d:Uh)(E:Int)(F:Int)(m:CB)(q:CE)(t:AA Int)(y:AA CK)(z:AA CN)(B:AA Ue)(f:Int)(g:AA (Int×Ue))(j:CB)(k:CE):Kq (KY n d E F m q t y z B f g j k) 36 [.p 0 0,.a (Uh.c d),I E,I F] [.c 126 (match_task.tc m q t y z B (.map 1) (.fn (.func 89) [] [.p 2 0,.p 3 0,.p 4 0]) f),.map (Qn (λx=>A.int .i64 x) (λx=>A.a (Ue.c x)) g),.c 118 [.p 0 0],.c 33 (CB.c j),.c 39 (CE.c k)] (λr=>.t [.a (Uh.c r.1),.b r.2]) (λr=>[.c 126 (match_task.tc m q t y z B (.map 1) (.fn (.func 89) [] [.p 2 0,.p 3 0,.p 4 0]) f),.map (Qn (λx=>A.int .i64 x) (λx=>A.a (Ue.c x)) g),.c 118 [.p 0 0],.c 33 (CB.c j),.c 39 (CE.c k),.c 137 (Uh.c r.1)]):=by
 refine Kg 12 func36 Z Z Z Z λr h=>Cd [0,1,2,3,4] h Kc Z λG L h=>Fg 15 Z Z (Cn Z h (λ_ h=>?_) (λ_ h=>?_))
 .refine Gc 10 Z (HF 11 [10] [(0,0,0),(0,0,1),(0,0,1),(0,0,1),(0,0,1),(0,0,1),(0,0,1),(0,0,1),(0,0,1),(0,0,1),(1,0,0)] (by kernel_rfl) (Dk 2 Z ?_));refine JR (lo:=0) (x:=I (i64.wrap (d.row+1))) ⟨Z,trivial⟩ ?_;refine Dk 5 Z ?_;refine JR (lo:=0) (x:=I m.AQ.A8) ⟨Z,trivial⟩ ?_;refine Dk 1 Z ?_;refine DK.un (X1:=[.c 126 (match_task.tc m q t y z B (.map 1) (.fn (.func 89) [] [.p 2 0,.p 3 0,.p 4 0]) f),.map (Qn (λx=>A.int .i64 x) (λx=>A.a (Ue.c x)) g),.c 118 [.p 0 0],.c 33 (CB.c j),.c 39 (CE.c k),.c 137 (Uh.c ({d with row:=i64.wrap (d.row+1):Uh})),.c 137 (Uh.c ({d with row:=i64.wrap (d.row+1):Uh})),.c 135 (Ue.c G.1),.c 135 (Ue.c G.1)]) ?_ ?_
  .refine vU (Ez Z Z Z sizeOf137 Z Z Z Z Z Z Z) ?_;refine NU (H:=[_,_,_,_,_,_,.c 137 (Uh.c ({d with row:=i64.wrap (d.row+1):Uh})),_,_]) Z ?_;exact Wp
  refine DK.done Z Z (Go 5 Z ?_);exact au h
 exact au h
end Go.Sw
