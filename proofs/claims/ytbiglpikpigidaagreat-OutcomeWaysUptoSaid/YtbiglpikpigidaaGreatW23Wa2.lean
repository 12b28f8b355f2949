/- What the functions compute that OutcomeWays reaches, and that their calls refine it (part 2 of 6). -/
import Derived.Test.YtbiglpikpigidaaGreatW23Wa1
set_option linter.unusedVariables false
set_option linter.unusedSimpArgs false
set_option maxRecDepth 100000
set_option maxHeartbeats 4000000
namespace Go.Sw
open Option renaming some→AC,none→AF,bind→AH
open Bool renaming false→AD,true→AE
open Decidable renaming decide→AG
open List renaming length→AI
variable (n:Nat)
open List(map)
open Int(toNat)
open Go.IntKind(i64 u64 u8)
open Go.Proofs Tryz
def Mg(d:AA Int):AB Bool:=AH (V_ n d) λf=>AC (AG (0<=f))
instance zC(d:AA Int):Ks (Mg n d) 121 [.q 1 (map eI d),.f 122] [] (λr=>.b r):=KA func121
def OG(g:CD)(f:Int):AB (CF Int (CF Unit Int)):=(bif f<(AI g.AR:Int) then AH (CI g.AR f) λd=>AH ((bif d.Al<0 then AC AE else(bif 40<=d.Al then AC AE else(bif d.Ag<0 then AC AE else(bif 255<d.Ag then AC AE else AH (IF n d.BJ) λh=>(bif (!h)then AC AE else(bif 0<f then AH (CI g.AR (i64.wrap (f-1))) λj=>AH (Mi n j d) λm=>AC (AG (0<=m))else AC AD)))))):AB Bool) λq=>(bif q then AC (.d (.d 160))else AC (.k (i64.wrap (f+1))))else AC (.d (.k ())))
def N4(g:CD)(d:Int):AB (CF Int (CF Unit Int)):=(bif d<(AI g.BP:Int) then AH (CI g.BP d) λf=>AH ((bif ((AI f:Int) != (i64.wrap ((AI g.AR:Int)+1)))then AC AE else AH (CI f d) λh=>(bif (h != 0)then AC AE else AH (Mg n f) λj=>AC j)):AB Bool) λm=>(bif m then AC (.d (.d 160))else AC (.k (i64.wrap (d+1))))else AC (.d (.k ())))
def VP(n:Nat)(t:CD)(g:Int)(h:Int)(f:AA Int)(d:Int):AB (CF Int (CF Unit (CF Int (CF Unit (CF Int (CF Unit Int)))))):=(bif d<(AI f:Int) then AH (CI f d) λj=>AH (CI t.BP g) λm=>AH (CI m d) λq=>(bif (i64.wrap (h+j))<q then AC (.d (.d (.d (.d (.d (.d 160))))))else AC (.k (i64.wrap (d+1))))else AC (.d (.k ())))
def TN(t:CD)(h:Int)(g:AA Int)(d:Int):AB (CF Int (CF Unit (CF Int (CF Unit Int)))):=(bif d<(AI g:Int) then AH (CI g d) λj=>AH (CI t.BP d) λm=>AH (iter (VP n t h j m) n 0:AB (CF Unit (CF Int (CF Unit (CF Int (CF Unit Int)))))) λq=>match q with|.k f=>(AC (.k (i64.wrap (d+1))))|.d f=>AC f else AC (.d (.k ())))
def N5(g:CD)(d:Int):AB (CF Int (CF Unit Int)):=(bif d<(i64.wrap ((AI g.AR:Int)+1)) then AH (CI g.BP d) λh=>AH (iter (TN n g d h) n 0:AB (CF Unit (CF Int (CF Unit Int)))) λj=>match j with|.k f=>(AC (.k (i64.wrap (d+1))))|.d f=>AC f else AC (.d (.k ())))
def JW(g:CD):AB Int:=AH ((bif 511<(AI g.AR:Int) then AC AE else AC ((AI g.BP:Int) != (i64.wrap ((AI g.AR:Int)+1)))):AB Bool) λt=>(bif t then AC 160 else AH (iter (OG n g) n 0:AB (CF Unit Int)) λq=>match q with|.k h=>(AH (iter (N4 n g) n 0:AB (CF Unit Int)) λj=>match j with|.k d=>(AH (iter (N5 n g) n 0:AB (CF Unit Int)) λm=>match m with|.k f=>(AC 0)|.d f=>AC f)|.d d=>AC d)|.d h=>AC h)
instance zS(a1:CD):Ks (JW n a1) 63 [.a (CD.c a1)] [] (λr=>I r):=by
 refine Kg 10 func63 Z Z Z Z λr h=>Lg 5 Z Z (Bd h λb2 h3 h=>Ct b2 [0] [1,3] (λb2=>[(25,.b b2)]) Ze Zf ?_ (λenv H q=>?_))
 .exact au h3
 refine Gx 1 Z (Ee q (Cn Z h (λ_ h=>?_) (λ_ h=>?_)))
 .exact au h
 refine Gc 7 Z (Lg 3 Z Z (Bd h λbc bd h=>FX (b:=bc) [0] [1,3] Ze Ze Zf ?_ (λbj env H t q=>?_)))
 .refine G0 1 Z (Lp [0] [1,3,27,28] (λad=>[(29,I ad)]) Ze bd Zf (Lr [0]) λad bw m G=>?_);refine G0 6 Z (Q5 Z m (λ_ m=>?_) (λ_ m=>?_))
  .exact Je G m
  refine Gc 7 Z (Bd m λbx af m=>Iz af Z (Go 7 Z (Bd m λJ d m=>Ct J [0] [1,3,27,28,29] (λJ=>[(72,.b J)]) Ze Zf ?_ (λenv H q=>?_))))
  .refine G0 0 Z (DP 35 Z (D 4 Z (DS.is 3 d Z Z Z (λ_ d=>?_) (λ_ d=>?_))))
   .exact au d
   .refine D 5 Z (DS.is 8 d Z Z Z (λ_ d=>?_) (λ_ d=>?_))
    .exact au d
    .refine D 5 Z (DS.is 13 d Z Z Z (λ_ d=>?_) (λ_ d=>?_))
     .exact au d
     .refine D 5 Z (DS.is 18 d Z Z Z (λ_ d=>?_) (λ_ d=>?_))
      .exact au d
      .refine D 2 Z ?_;refine Dz [] d Kc Z λbz bk d=>D 3 Z (DS.is 24 d Z Z Z (λ_ d=>?_) (λ_ d=>?_))
       .exact au d
       .refine D 3 Z (DS.is 27 d Z Z Z (λ_ d=>?_) (λ_ d=>?_))
        .refine D 4 Z ?_;obtain⟨y,am,d⟩:=Qw d;refine DS.v (x:=(.rp [I y.Al,I y.Ag,I y.BJ])) (QV (e:=CC.c) (l:=a1.AR) (v:=y) am ES E6) ?_ (hg:=(gT Z));exact au d
        exact au d
  refine Gx 1 Z (Ee q (Cn Z m (λ_ m=>?_) (λ_ m=>?_)))
  .exact DZ G m h
  exact au m
 subst t;refine Gx 1 Z (Ee q (Gc 5 Z (Lg 3 Z Z (Bd h λao aq h=>FX (b:=ao) [0] [1,3] Ze Ze Zf ?_ (λbe env H t q=>?_)))))
 .refine G0 1 Z (Lp [0] [1,3,75,76] (λL=>[(77,I L)]) Ze aq Zf (Lr [0]) λL bl ar P=>?_);exact DZ P ar h
 subst t;refine Gx 1 Z (Ee q (Gc 8 Z (Bd h λav aw h=>D4 (b:=av) [] [] Ze Ze Zf ?_ (λ_ t=>?_))))
 .refine G0 1 Z (Lp [0] [1,100] (λM=>[(101,I M)]) Ze aw Zf (Lr [0]) λM bm j B=>?_);refine G0 6 Z (Q5 Z j (λ_ j=>?_) (λ_ j=>?_))
  .exact Je B j
  refine Gc 15 Z (Bd j λbn R j=>Iz R Z (Go 1 Z (Lg 3 Z Z (Bd j λax ay j=>FX (b:=ax) [0] [1,100,101] Ze Ze Zf ?_ (λbh env H t q=>?_)))))
  .refine G0 1 Z (Lp [0] [1,8,100,101,108,109] (λN=>[(110,I N)]) Ze ay Zf (Lr [0]) λN bo g E=>?_);refine G0 6 Z (Q5 Z g (λ_ g=>?_) (λ_ g=>?_))
   .exact Je E g
   refine Gc 7 Z (Bd g λbp V g=>Iz V Z (Go 10 Z (Bd g λbq W g=>Iz W Z (Go 1 Z (Lg 3 Z Z (Bd g λaz ba g=>FX (b:=az) [0] [1,8,100,101,108,109,110] Ze Ze Zf ?_ (λbi env H t q=>?_)))))))
   .refine G0 1 Z (Lp [0] [1,8,10,100,101,108,109,110,119,120] (λO=>[(121,I O)]) Ze ba Zf (Lr [0]) λO br f F=>?_);refine G0 6 Z (Q5 Z f (λ_ f=>?_) (λ_ f=>?_))
    .exact Je F f
    refine Gc 7 Z (Bd f λbs Y f=>Iz Y Z (Go 10 Z (Bd f λbu aa f=>Iz aa Z (Go 2 Z (Bd f λbv ab f=>Iz ab Z (Go 7 Z (Cn Z f (λ_ f=>?_) (λ_ f=>?_))))))))
    .refine Gc 8 Z (IN f ?_);obtain rfl:=Oj F f;refine Gx 1 Z (LT (Gx 2 Z (IN g ?_)));obtain rfl:=Oj E g;exact DZ B j h
    exact au f
   subst t;exact Gx 2 Z (Ee q (Gc 4 Z (QZ g (Lr [0]))))
  subst t;exact Gx 2 Z (Ee q (Gc 4 Z (QZ j (Lr [0]))))
 subst t;exact au h
def Me(n:Nat)(d:Int):AB Bool:=AH ((bif (-1099511627776)<=d then AC (AG (d<=1099511627776))else AC AD):AB Bool) λf=>AC f
instance y_(d:Int):Ks (Me n d) 89 [I d] [] (λr=>.b r):=KA func89
def MS(d:Ac):AB Bool:=AH ((bif d.Hi<d.Lo then AC AE else AH (Me n d.Lo) λg=>(bif (!g)then AC AE else AH (Me n d.Hi) λf=>(bif (!f)then AC AE else AC (AG (d.AT<0))))):AB Bool) λh=>AC h
instance yq(d:Ac):Ks (MS n d) 88 [.a (Ac.c d)] [] (λr=>.b r):=KA func88
def nm(f:AA Ac)(d:Int):AB (CF Int (CF Unit Int)):=(bif d<(AI f:Int) then AH (CI f d) λg=>AH (MS n g) λh=>(bif h then AC (.d (.d d))else AC (.k (i64.wrap (d+1))))else AC (.d (.k ())))
def fh(g:AA Ac):AB Int:=AH (iter (nm n g) n 0:AB (CF Unit Int)) λf=>match f with|.k d=>(AC (-1))|.d d=>AC d
instance wG(d:AA Ac):Ks (fh n d) 161 [.q 4 (map Ac.c d),.f 88] [] (λr=>I r):=KA func161
def fB(d:AA Ac):AB Bool:=AH (fh n d) λf=>AC (AG (0<=f))
instance vg(d:AA Ac):Ks (fB n d) 90 [.q 4 (map Ac.c d),.f 88] [] (λr=>.b r):=KA func90
def J5(d:CA)(f:Int):AB (AN×Int):=AH (G8 n d) λg=>(bif (g != 0)then AC (Uu,g)else AH ((bif f<0 then AC AE else AC (AG ((AI d.AP:Int)<=f))):AB Bool) λh=>(bif h then AC (Uu,90)else AH (CI d.AP f) λj=>AC (j,0)))
instance zd(d:CA)(f:Int):Kq (J5 n d f) 218 [.a (CA.c d),I f] [] (λr=>.t [.a (AN.c r.1),I r.2]) (λr=>[.c 66 (AN.c r.1)]):=KA func218
def MI(n:Nat)(rec142:(AA CG)->(AA Int)->AB (AA Int))(f:CG)(d:(AA Int)×Int):AB (CF ((AA Int)×Int) (AA Int)):=(bif d.2<f.As then AH (rec142 f.Ad d.1) λg=>AC (.k (g,i64.wrap (d.2+1)))else AC (.d d.1))
def OH(g:AA CG)(rec142:(AA CG)->(AA Int)->AB (AA Int))(d:(AA Int)×Int):AB (CF ((AA Int)×Int) (AA Int)):=(bif d.2<(AI g:Int) then AH (CI g d.2) λf=>AH ((bif (f.As==0)then AH (app d.1 [f.Al]) λh=>AC h else AC d.1):AB (AA Int)) λj=>AH (iter (MI n rec142 f) n (j,0):AB (AA Int)) λm=>AC (.k (m,i64.wrap (d.2+1)))else AC (.d d.1))
def iy(rec142:(AA CG)->(AA Int)->AB (AA Int))(n:Nat)(f:AA CG)(g:AA Int):AB (AA Int):=AH (iter (OH n f rec142) n (g,0):AB (AA Int)) λd=>AC d
theorem Qbn(rec142:(AA CG)->(AA Int)->AB (AA Int))(T:∀(G:AA CG) (y:AA Int),Kq (rec142 G y) 278 [.q 3 (map CG.enc G),.p 0 0,.p 1 0] [.c 73 [.o 2 (AI y) 1],.c 411 [.fn (.func 278) [] [.p 0 0,.p 1 0]],.r 3 1 (map eI y)] (λ_=>.t []) (λr=>[.c 73 [.o 3 (AI r) 1],.c 411 [.fn (.func 278) [] [.p 0 0,.p 1 0]],.dead,.r 3 1 (map eI r)]))(n:Nat)(G:AA CG)(y:AA Int):Kq (iy rec142 n G y) 278 [.q 3 (map CG.enc G),.p 0 0,.p 1 0] [.c 73 [.o 2 (AI y) 1],.c 411 [.fn (.func 278) [] [.p 0 0,.p 1 0]],.r 3 1 (map eI y)] (λ_=>.t []) (λr=>[.c 73 [.o 3 (AI r) 1],.c 411 [.fn (.func 278) [] [.p 0 0,.p 1 0]],.dead,.r 3 1 (map eI r)]):=by
 refine Kg 3 func278 Z Z Z Z λr h=>Lg 3 Z Z (Bd h λB V h=>Ct B [0,1,2,0] [] Ze (λB=>[(0,.c 73 [.o 3 (AI B) 1]),(2,.dead),(3,.r 3 1 (map eI B))]) Zf ?_ (λenv H f=>?_))
 .refine G0 1 Z (Lp [0,1,2,2] [1,2,6,7] (λt=>[(8,I t.2)]) (λt=>[(0,.c 73 [.o 3 (AI t.1) 1]),(2,.dead),(3,.r 3 1 (map eI t.1))]) V Zf ?_ ?_)
  .refine En (Zv (i:=2) (j:=0) (m:=0) Z Z Z Z Z) ?_;exact Lr [0,1,2,3]
  intro t X d L;refine G0 6 Z (Q5 Z d (λ_ d=>?_) (λ_ d=>?_))
  .exact Gc 2 Z (QF d (Gx 1 Z (DX L d (Lr [0,1,2,3]))))
  refine Gc 6 Z (Bd d λJ N d=>FU N (QM J) Z (Go 13 Z (Bd d λE g d=>Ct E [0,1,2,0,4] [1,2,5,6,7,8] Ze (λE=>[(0,.c 73 [.o 3 (AI E) 1]),(3,.r 3 1 (map eI E))]) Zf ?_ (λenv H f=>?_))))
  .refine G0 0 Z (Cn Z g (λ_ g=>?_) (λ_ g=>?_))
   .refine Gc 4 Z (vH (Ek (xs:=[.tmp 17]) (es:=map eI [J.Al]) QG Z Z Z Z Z ⟨Z,trivial⟩ Z Z) ?_);refine FE Z (Bd g λY P g=>vH (Qj (e:=eI) P QG EB (QE (i:=5))) ?_);exact au g
   exact au g
  refine Gx 1 Z (Ee f (Gc 7 Z (Bd d λF W d=>Ct F [0,1,2,3] [1,2,6,7,8] Ze (λF=>[(0,.c 73 [.o 3 (AI F) 1]),(3,.r 3 1 (map eI F))]) Zf ?_ (λenv H f=>?_))))
  .refine G0 1 Z (Lp [0,1,2,3,4] [1,2,5,6,7,8,21] (λx=>[(22,I x.2)]) (λx=>[(0,.c 73 [.o 3 (AI x.1) 1]),(3,.r 3 1 (map eI x.1))]) W Zf (Lr [0,1,2,3,4]) λx aa q Q=>?_);refine G0 6 Z (Q5 Z q (λ_ q=>?_) (λ_ q=>?_))
   .exact Gc 2 Z (QF q (Gx 1 Z (DX Q q (Lr [0,1,2,3]))))
   exact au q
  exact Gx 2 Z (Ee f (Gc 4 Z (QZ d (Lr [0,1,2,3]))))
 obtain rfl:=Oi h;have f:=f;refine⟨[],_,_,?_,H7.nil Z,Z,Z⟩;refine En f ?_;exact Lr [0,1,2,3]
def Rl:Nat->(AA CG)->(AA Int)->AB (AA Int)
  |0=>λ_ _=>AF
  |n+1=>iy (Rl n) n
instance k_v:∀(f:AA CG) (d:AA Int),Kq (Rl n f d) 278 [.q 3 (map CG.enc f),.p 0 0,.p 1 0] [.c 73 [.o 2 (AI d) 1],.c 411 [.fn (.func 278) [] [.p 0 0,.p 1 0]],.r 3 1 (map eI d)] (λ_=>.t []) (λr=>[.c 73 [.o 3 (AI r) 1],.c 411 [.fn (.func 278) [] [.p 0 0,.p 1 0]],.dead,.r 3 1 (map eI r)]):=by
  induction n with
  |zero=>exact λ_ _=>⟨nofun⟩
  |succ n ih=>exact Qbn _ ih n
def O0(d:AA CG):AB (AA Int):=AH (Rl n d ([]:AA Int)) λf=>AC f
instance xv(d:AA CG):Kq (O0 n d) 219 [.q 3 (map CG.enc d)] [] (λr=>.o 0 (AI r) 1) (λr=>[.r 3 1 (map eI r),.c 73 [.o 0 (AI r) 1]]):=by
 refine Kg 20 func219 Z Z Z Z λr h=>(Et (Ye (i:=0) (m:=0) (t:=3) (k:=1) Z Z Z) ?_);exact au h
def fH(n:Nat)(d:Int)(f:Int):AB Unit:=AC ()
instance vk(d:Int)(f:Int):Ks (fH n d f) 167 [.i .u64 d,.i .u64 f] [] (λ_=>.t [.i .u64 (u64.wrap ((u64.wrap ((u64.wrap ((Y8 .u64 d 32)*(Y8 .u64 f 32)))+(Y8 .u64 (u64.wrap ((u64.wrap ((Y8 .u64 d 32)*(Jl .u64 f 4294967295)))+(Y8 .u64 (u64.wrap ((Jl .u64 d 4294967295)*(Jl .u64 f 4294967295))) 32))) 32)))+(Y8 .u64 (u64.wrap ((Jl .u64 (u64.wrap ((u64.wrap ((Y8 .u64 d 32)*(Jl .u64 f 4294967295)))+(Y8 .u64 (u64.wrap ((Jl .u64 d 4294967295)*(Jl .u64 f 4294967295))) 32))) 4294967295)+(u64.wrap ((Jl .u64 d 4294967295)*(Y8 .u64 f 32))))) 32))),.i .u64 (u64.wrap (d*f))]):=by
 refine Kg 9 func167 Z Z Z Z λr h=>(vV (CS.and Z Z Z) ?_);refine Go 6 Z (vV (CS.shr Z Z Z (by decide)) ?_);refine Go 6 Z (vV (CS.and Z Z Z) ?_);refine Go 6 Z (vV (CS.shr Z Z Z (by decide)) ?_);refine Go 17 Z ?_;refine vV (CS.shr Z Z Z (by decide)) (Go 7 Z ?_);refine vV (CS.and Z Z Z) (Go 6 Z ?_);refine vV (CS.shr Z Z Z (by decide)) (Go 21 Z ?_);refine vV (CS.shr Z Z Z (by decide)) (Go 13 Z ?_);exact R2 4 5 Z Z (Lr [])
def fQ(d:Int)(f:Int):AB Unit:=AH (fH n d f) λg=>AC ()
instance vy(d:Int)(f:Int):Ks (fQ n d f) 100 [.i .u64 d,.i .u64 f] [] (λ_=>.t [.i .u64 (u64.wrap ((u64.wrap ((u64.wrap ((Y8 .u64 d 32)*(Y8 .u64 f 32)))+(Y8 .u64 (u64.wrap ((u64.wrap ((Y8 .u64 d 32)*(Jl .u64 f 4294967295)))+(Y8 .u64 (u64.wrap ((Jl .u64 d 4294967295)*(Jl .u64 f 4294967295))) 32))) 32)))+(Y8 .u64 (u64.wrap ((Jl .u64 (u64.wrap ((u64.wrap ((Y8 .u64 d 32)*(Jl .u64 f 4294967295)))+(Y8 .u64 (u64.wrap ((Jl .u64 d 4294967295)*(Jl .u64 f 4294967295))) 32))) 4294967295)+(u64.wrap ((Jl .u64 d 4294967295)*(Y8 .u64 f 32))))) 32))),.i .u64 (u64.wrap (d*f))]):=by
 refine Kg 14 func100 Z Z Z Z λr h=>Cd [] h Kc Z λj g h=>Fg 16 Z Z ?_;exact R2 4 5 Z Z (Lr [])
def OE(n:Nat)(d:(AA Int)×Int):AB (CF ((AA Int)×Int) (AA Int)):=(bif d.2<(AI d.1:Int) then AH (Dm d.1 d.2 (AI d.1:Int)) λh=>AH (Dm d.1 0 d.2) λf=>AH (RI d.1 d.2 (AI d.1:Int) f) λg=>AC (.k (g,i64.wrap (d.2+((min (AI f) ((AI d.1:Int).toNat-d.2.toNat):Nat):Int))))else AC (.d d.1))
def K8(d:AA Int)(f:Int):AB (AA Int):=AH ((bif f<0 then AF else AC ()):AB Unit) λt=>AH (fQ n (u64.wrap (AI d:Int)) (u64.wrap f)) λx=>AH ((bif 0<(u64.wrap ((u64.wrap ((u64.wrap ((Y8 .u64 (u64.wrap (AI d:Int)) 32)*(Y8 .u64 (u64.wrap f) 32)))+(Y8 .u64 (u64.wrap ((u64.wrap ((Y8 .u64 (u64.wrap (AI d:Int)) 32)*(Jl .u64 (u64.wrap f) 4294967295)))+(Y8 .u64 (u64.wrap ((Jl .u64 (u64.wrap (AI d:Int)) 4294967295)*(Jl .u64 (u64.wrap f) 4294967295))) 32))) 32)))+(Y8 .u64 (u64.wrap ((Jl .u64 (u64.wrap ((u64.wrap ((Y8 .u64 (u64.wrap (AI d:Int)) 32)*(Jl .u64 (u64.wrap f) 4294967295)))+(Y8 .u64 (u64.wrap ((Jl .u64 (u64.wrap (AI d:Int)) 4294967295)*(Jl .u64 (u64.wrap f) 4294967295))) 32))) 4294967295)+(u64.wrap ((Jl .u64 (u64.wrap (AI d:Int)) 4294967295)*(Y8 .u64 (u64.wrap f) 32))))) 32))) then AC AE else AC (AG (9223372036854775807<(u64.wrap ((u64.wrap (AI d:Int))*(u64.wrap f)))))):AB Bool) λm=>AH ((bif m then AF else AC ()):AB Unit) λq=>AH (mk (i64.wrap (u64.wrap ((u64.wrap (AI d:Int))*(u64.wrap f)))) 0) λg=>AH (RI g 0 (AI g:Int) d) λh=>AH (iter (OE n) n (h,((min (AI d) (AI g):Nat):Int)):AB (AA Int)) λj=>AC j
instance jz(N:AA Int)(O:Int):Kq (K8 n N O) 37 [.q 1 (map eI N),I O] [] (λr=>.o 0 (AI r) 1) (λr=>[.r 3 1 (map eI r)]):=by
 refine Kg 12 func37 Z Z Z Z λr h=>Bd h λW t h=>Ct W [] [0,1] Ze Ze Zf ?_ (λenv H g=>?_)
 .refine G0 0 Z (Cn Z t (λ_ t=>?_) (λ_ t=>?_))
  .cases t
  exact Gcl 1 Z t []
 refine Gx 1 Z (Ee g (Gc 3 Z (Lm Z ?_)));refine vV (Rh Z E4 GU Z) ?_;refine Go 1 Z ?_;refine vV (Rh Z E4 GU Z) ?_;refine Cd [] h Kc Z λr5 Y h=>Fg 9 Z Z (Bd h λF X h=>Ct F [] [0,6] (λF=>[(26,.b F)]) Ze Zf ?_ (λenv H g=>?_))
 .exact au X
 refine Gx 1 Z (Ee g (Bd h λQ j h=>Ct Q [] [0,6] Ze Ze Zf ?_ (λenv H g=>?_)))
 .refine G0 0 Z (Cn Z j (λ_ j=>?_) (λ_ j=>?_))
  .cases j
  exact au j
 refine Gx 1 Z (Ee g (Gc 3 Z ?_));refine vV (Rh Z GU E4 Z) ?_;refine Bd h λaa J h=>vH (lg (e:=eI) (zv:=0) (a:=(I 0)) J QG EV Eo Z Z Z Z) ?_;refine Fg 7 Z Z (Bd h λab y h=>vH (Qm7 (e:=eI) y EB EC X?) ?_);refine FE Z ?_;refine Et (Q8 (s:=7) Z (congrArg (λn=>A.s 0 0 n 1) (Qpd y))) ?_;refine Go 4 Z (Bd h λm R h=>Cg m [0] [] (λm=>[(7,.o 0 (AI m) 1)]) (λm=>[(0,.r 3 1 (map eI m))]) Zf ?_ ?_)
 .refine G0 1 Z (Lp [0] [] (λd=>[(7,.o 0 (AI d.1) 1),(8,I d.2)]) (λd=>[(0,.r 3 1 (map eI d.1))]) R Zf (Lr [0]) λd ac f L=>?_);refine G0 9 Z (Q5 Z f (λ_ f=>?_) (λ_ f=>?_))
  .exact Gc 2 Z (QF f (Gx 1 Z (DX L f (Lr [0]))))
  refine Gc 3 Z (HY 8 [7] [(0,0,1),(0,0,0),(0,0,0),(0,0,0),(0,0,0),(0,0,0),(0,0,0),(1,0,0)] (by kernel_rfl) (Dk 3 Z ?_));obtain⟨ad,q,f⟩:=Qw f;refine DK.wo (x:=.s 0 (0+toNat d.2) (toNat (AI d.1:Int)-toNat d.2) 1) ?_ ?_
  .refine vV (QP (l:=d.1) q EB EC (.inr ⟨_,Z,Z⟩) (.inl ⟨Z,Z⟩)) ?_;exact Wp
  refine Dk 2 Z ?_;obtain⟨T,B,f⟩:=Qw f;refine DK.wo (x:=.s 0 (0+toNat 0) (toNat d.2-toNat 0) 1) ?_ ?_
  .refine vV (QP (l:=d.1) B EB EC (.inl ⟨Z,Z⟩) (.inr ⟨_,Z,Z⟩)) ?_;exact Wp
  obtain⟨V,E,f⟩:=Qw f;refine Ex (x:=I ((min (AI T) ((AI d.1:Int).toNat-d.2.toNat):Nat):Int)) (X1:=[.r 3 1 (map eI V)]) ?_ ?_
  .refine vH (Qm8 (e:=eI) q E EB EC (W? (b:=0) B)) ?_;exact FE Z Wp
  refine DK.done Z Z ?_;refine Et (Q8 (s:=7) Z (congrArg (λn=>A.s 0 0 n 1) (Qq2 q E))) ?_;exact au f
 exact au h
def HH(d:CA)(f:Int)(g:Int):CT->Go.Sw.A->Qc->Prop
  |.c0 x,a,H=>a=.t [.a [.q 1 (map eI []),.nilm],I x]/\H=[.c 284 [.q 1 (map eI []),.nilm]]
  |.c1 x,a,H=>a=.t [.a [.q 1 (map eI []),.nilm],I 90]/\H=[.c 284 [.q 1 (map eI []),.nilm]]
  |.c2 x,a,H=>a=.t [.a [.o 0 (AI x) 1,.nilm],I 2]/\H=[.r 3 1 (map eI x),.c 284 [.o 0 (AI x) 1,.nilm]]
  |.c3 x,a,H=>a=.t [.a [.o 0 (AI x.1) 1,.map 1],I 0]/\H=[.r 3 1 (map eI x.1),.map (Qo (λx=>A.a (Ub.c x)) (λx=>A.a (Cp.c x)) x.2),.c 284 [.o 0 (AI x.1) 1,.map 1]]
def MH(n:Nat)(j:AN×Int)(f:AA Int)(d:Int):AB (CF Int Int):=AH ((bif 0<d then AH (CI f d) λg=>AC (g != j.1.Am)else AC AD):AB Bool) λh=>(bif h then AC (.k (i64.wrap (d-1)))else AC (.d d))
def I'(n:Nat)(g:CA)(d:(AA (Ub×Cp))×Int):AB (CF ((AA (Ub×Cp))×Int) (AA (Ub×Cp))):=(bif d.2<(AI g.Az:Int) then AH (CI g.Az d.2) λf=>AH (AC (QK d.1 ({BX:=f.BA,to_:=f.To:Ub}) f)) λh=>AC (.k (h,i64.wrap (d.2+1)))else AC (.d d.1))
def II(h:CA)(y:Int)(g:Int):AB CT:=AH (J5 n h y) λf=>(bif (f.2 != 0)then AC (CT.c0 f.2)else AH ((bif g<0 then AC AE else(bif 0<g then AC (AG (f.1.Am<0))else AC AD)):AB Bool) λB=>(bif B then AC (CT.c1 ())else AH (O0 n f.1.Ae) λd=>(bif (i64.wrap (256-(AI d:Int)))<g then AC (CT.c2 d)else AH ((bif 0<g then AH (iter (MH n f d) n (i64.wrap ((AI d:Int)-1)):AB Int) λj=>AH (K8 n [f.1.Am] g) λm=>AH (ZH d (i64.wrap (j+1)) m) λq=>AC q else AC d):AB (AA Int)) λt=>AH (iter (I' n h) n ([],0):AB (AA (Ub×Cp))) λx=>AC (CT.c3 (t,x)))))
theorem bJ(O:CA)(Q:Int)(R:Int)(r:CT)(h:II n O Q R=AC r):C prog 145 [.a (CA.c O),I Q,I R] [] (HH O Q R r):=by
 refine iY func145 Z Z Z ?_;refine G0 11 Z (Cd [] h Kc Z λP an h=>Fg 15 Z Z (Cn Z h (λ_ h=>?_) (λ_ h=>?_)))
 .refine Gc 10 Z ?_;obtain rfl:=Oi h;exact Rx [1] [6,7] Z (QJ Z Z (C5.cons (Yk isAgg284 G7 Z Z Z) (C5.cons D2.tmp C5.nil))) ⟨Z,Z⟩
 refine Gc 4 Z (Bd h λT h6 h=>Ct T [0,1,3] [2,3,6,8] (λT=>[(32,.b T)]) Ze Zf ?_ (λenv H j=>?_))
 .exact au h6
 refine Gx 1 Z (Ee j (Cn Z h (λ_ h=>?_) (λ_ h=>?_)))
 .refine Gc 9 Z ?_;obtain rfl:=Oi h;exact Rx [1] [6,7] Z (QJ Z Z (C5.cons (Yk isAgg284 G7 Z Z Z) (C5.cons D2.tmp C5.nil))) ⟨Z,Z⟩
 refine Gc 6 Z (Cd [] h Kc Z λy am h=>Fg 15 Z Z (Cn Z h (λ_ h=>?_) (λ_ h=>?_)))
 .refine Gc 9 Z ?_;obtain rfl:=Oi h;exact Rx [3,1] [6,7] Z (QJ Z Z (C5.cons (Yk isAgg284 G7 Z Z Z) (C5.cons D2.tmp C5.nil))) ⟨Z,Z⟩
 refine Gc 9 Z (Bd h λq d h=>Ct q [0,1,0] [3,6] Ze (λq=>[(1,.c 284 [.o 2 (AI q) 1,.nilm]),(2,.r 3 1 (map eI q))]) Zf ?_ (λenv H j=>?_))
 .refine G0 0 Z (Cn Z d (λ_ d=>?_) (λ_ d=>?_))
  .refine Gc 10 Z (Bd d λE aj d=>Ct E [0,1,2,3] [2,3,6] (λE=>[(8,.p 3 0),(9,I E)]) (λ_=>[(1,.c 284 [.o 2 (AI y) 1,.nilm]),(2,.r 3 1 (map eI y)),(3,.c 66 (AN.c P.1))]) Zf ?_ (λenv H j=>?_))
   .refine G0 1 Z (Lp [0,1,3,2] [2,3,6,8] (λF=>[(9,I F)]) (λ_=>[(1,.c 284 [.o 2 (AI y) 1,.nilm])]) aj Zf (Lr [0,1,3,2]) λF ao g X=>?_);refine G0 2 Z (Bd g λG t g=>Ct G [0,1,2,3] [2,3,6,8,9] (λG=>[(62,.b G)]) Ze Zf ?_ (λenv H j=>?_))
    .refine G0 0 Z (DP 10 Z (D 3 Z (DS.is 2 t Z Z Z (λ_ t=>?_) (λ_ t=>?_))))
     .refine D 3 Z ?_;obtain⟨ak,J,t⟩:=Qw t;refine DS.v (x:=(.p 2 (toNat F*1))) (Qd J Z EB EC) ?_ (hg:=(gT Z));refine DS.v (x:=(I ak)) (Ez Z EF Z (Qh J)) ?_ (hg:=(gT Z));exact au t
     exact au t
    refine Gx 1 Z (Ee j (Q5 Z g (λ_ g=>?_) (λ_ g=>?_)))
    .exact Gc 2 Z (QF g (Gx 1 Z (DX X g (Lr [0,1,2,3]))))
    exact au g
   refine Gx 1 Z (Ee j (HY 9 [8] [(0,0,1),(0,0,1),(0,0,1),(0,0,1),(0,0,0),(0,0,0),(0,0,0),(0,0,0),(1,0,0)] (by kernel_rfl) (Dk 1 Z ?_)));refine KG (lo:=0) (x:=.o 2 (AI y) 1) ⟨Z,trivial⟩ ?_;refine Dk 4 Z ?_;refine DK.wo (x:=.q 1 (map eI [P.1.Am])) ?_ ?_
   .refine vH (QN (xs:=[.tmp 70]) (es:=map eI [P.1.Am]) QG Z Z Z Z Z ⟨Z,trivial⟩ Z Z) ?_;exact FE Z Wp
   refine Dk 1 Z ?_;obtain⟨L,ab,d⟩:=Qw d;refine Ex (x:=.o 4 (AI L) 1) (X1:=[.c 33 (CA.c O),.c 284 [.o 2 (AI y) 1,.nilm],.r 3 1 (map eI y),.c 66 (AN.c P.1),.r 3 1 (map eI L)]) ?_ ?_
   .refine Qf [] (C6.fn call37 Z Z Z) ((jz _ _ _).c _ ab) ?_;rintro _ _ ⟨rfl,rfl⟩;exact FE Z Wp
   refine DK.done Z Z (Bd d λaq ac d=>?_);refine Qf [2,4] (C6.fn call220 Z Z Z) (Qng QeG (m:=L) ac) ?_;rintro _ _ ⟨rfl,rfl⟩;exact au d
  exact au d
 refine Gx 1 Z (Ee j (Gc 2 Z (vH Yl ?_)));refine Fg 9 Z Z (Lg 3 Z Z (Bd h λM al h=>Cg M [0,1,2] [] (λ_=>[(6,.p 0 0)]) (λM=>[(0,.c 284 [.o 1 (AI q) 1,.map 2]),(1,.r 3 1 (map eI q)),(2,.map (Qo (λx=>A.a (Ub.c x)) (λx=>A.a (Cp.c x)) M))]) Zf ?_ ?_))
 .refine G0 1 Z (Lp [1,2,3] [6,79,80] (λB=>[(81,I B.2)]) (λB=>[(0,.c 284 [.o 1 (AI q) 1,.map 2]),(2,.map (Qo (λx=>A.a (Ub.c x)) (λx=>A.a (Cp.c x)) B.1))]) al Zf (Lr [1,2,3]) λB ar f ad=>?_);refine G0 6 Z (Q5 Z f (λ_ f=>?_) (λ_ f=>?_))
  .exact Gc 2 Z (QF f (Gx 1 Z (DX ad f (Lr [0,1,2]))))
  refine Gc 6 Z (Bd f λN af f=>Iz af Z (Go 14 Z (Bd f λav ag f=>?_)));refine vU (Yh (ev:=(λx=>A.a (Cp.c x))) (k:=({BX:=N.BA,to_:=N.To:Ub})) (v:=N) (l:=B.1) Qqx ag Z underlying282) ?_;exact au f
 refine Gc 8 Z ?_;obtain rfl:=Oi h;exact Rx [1,2,0] [6,7] Z (QJ Z Z (C5.cons (Yk isAgg284 G7 Z Z Z) (C5.cons D2.tmp C5.nil))) ⟨Z,Z⟩
def Ij(j:CA)(m:Int)(q:Int):AB ((AA Int)×Int):=AH (AH (II n j m q) λt=>(match t with|.c0 f=>(AC (f,[]))|.c1 x=>(AC (90,[]))|.c2 g=>(AC (2,g))|.c3 h=>(AC (0,h.1))):AB (Int×(AA Int))) λd=>(bif (d.1 != 0)then AC ([],d.1)else AC (d.2,0))
instance bG(q:CA)(t:Int)(x:Int):Ks (Ij n q t x) 82 [.a (CA.c q),I t,I x] [] (λr=>.t [.q 1 (map eI r.1),I r.2]):=by
 refine Kg 8 func82 Z Z Z Z λr h=>Bd h λg f h=>Cg g [0] [] (λg=>[(7,I g.1),(8,.p 0 0)]) (λg=>[(0,.c 284 [.q 1 (map eI g.2),.any])]) Zf ?_ ?_
 .refine G0 4 Z (Bd f λB y f=>?_);refine Qf [] (C6.fn call145 Z Z Z) (bJ _ _ _ _ _ y) ?_;intro ra rH d;rcases B with E|F|G|H
  .obtain⟨rfl,rfl⟩:=d;refine Fg 7 Z Z ?_;cases f;exact En (iL (i:=2) (m:=1) Z) (Lr [2])
  .obtain⟨rfl,rfl⟩:=d;refine Fg 7 Z Z ?_;cases f;refine En (iL (i:=2) (m:=1) Z) ?_;exact Lr [2]
  .obtain⟨rfl,rfl⟩:=d;refine Fg 7 Z Z ?_;cases f;refine En (Ym [(9,_),(13,_),(14,_)] Z Z (Cx.cons Z (DO.tup (Ed (DO.agg (Ed Ep (Ej _))) (Ej _))) (Cx.cons Z (DO.tup (Ed (DO.agg (Ed Ep (Ej _))) (Ej _))) (Cx.cons Z (DO.agg (Ed Ep (Ej _))) Cx.nil))) (Ec (Ec (Dg.cells (Ed Ep (Ej _)) (Dg.cells (Ed Ep (Ej _)) (QQ _)))))) ?_;exact En (iL (i:=3) (m:=1) Z) (Lr [3])
  .obtain⟨rfl,rfl⟩:=d;refine Go 7 Z ?_;cases f;refine En (Ym [(9,_),(13,_),(14,_)] Z Z (Cx.cons Z (DO.tup (Ed (DO.agg (Ed Ep (Ej _))) (Ej _))) (Cx.cons Z (DO.tup (Ed (DO.agg (Ed Ep (Ej _))) (Ej _))) (Cx.cons Z (DO.agg (Ed Ep (Ej _))) Cx.nil))) (Ec (Ec (Ec (Dg.cells (Ed Ep (Ej _)) (Dg.cells (Ed Ep (Ej _)) (QQ _))))))) ?_;refine En (iL (i:=4) (m:=1) Z) ?_;exact Lr [4]
 refine Gc 7 Z (Cn Z h (λ_ h=>?_) (λ_ h=>?_))
 .refine Gc 9 Z ?_;obtain rfl:=Oi h;refine R2 6 7 Z Z ?_;refine En (gx (s:=6) (k:=1) Z) ?_;exact Lr []
 exact au h
def J4(n:Nat)(d:Int):AB Bool:=AH ((bif (-1099511627776)<=d then AC (AG (d<=1099511627776))else AC AD):AB Bool) λf=>AC f
instance zb(d:Int):Ks (J4 n d) 162 [I d] [] (λr=>.b r):=KA func162
def MR(d:Ud)(f:Ud):AB Int:=AH (Km n d.B7 f.B7) λg=>AH (Km n d.mat f.mat) λh=>AH (Km n d.BS f.BS) λj=>AH (J3 n [g,h,j]) λm=>AC m
instance yp(d:Ud)(f:Ud):Ks (MR n d f) 163 [.a (Ud.c d),.a (Ud.c f)] [] (λr=>I r):=KA func163
def N8(E:CA)(m:AA CL)(f:Int):AB (CF Int (CF Unit Int)):=(bif f<(AI m:Int) then AH (AH (CI m f) λd=>AH ((bif d.Al<0 then AC AE else(bif (AI E.Ar:Int)<=d.Al then AC AE else(bif d.Ag<0 then AC AE else(bif 255<d.Ag then AC AE else(bif d.BB<0 then AC AE else(bif 1048576<d.BB then AC AE else AH (J4 n d.BQ) λq=>(bif (!q)then AC AE else AH (J4 n d.A7) λt=>(bif (!t)then AC AE else AC (AG (d.A7<d.BQ)))))))))):AB Bool) λx=>(bif x then AC (.d (.d (.d 170)))else(bif (f==0)then AC (.k ())else AH (CI m (i64.wrap (f-1))) λg=>AH (MR n ({B7:=g.BB,mat:=g.Al,BS:=g.Ag:Ud}) ({B7:=d.BB,mat:=d.Al,BS:=d.Ag:Ud})) λh=>AH ((bif 0<h then AC (AG (0<h))else(bif (h==0)then AC (AG ((i64.wrap (d.BQ-g.A7))<=E.AQ.A5))else AC AD)):AB Bool) λy=>(bif y then AC (.d (.d (.d 170)))else AC (.k ())))):AB (CF Unit (CF Int (CF Unit Int)))) λB=>match B with|.k j=>(AC (.k (i64.wrap (f+1))))|.d j=>AC j else AC (.d (.k ())))
def OV(g:CA)(j:AA CL):AB Int:=AH (G8 n g) λh=>(bif (h != 0)then AC h else AH (iter (N8 n g j) n 0:AB (CF Unit Int)) λf=>match f with|.k d=>(AC 0)|.d d=>AC d)
instance xW(O:CA)(P:AA CL):Ks (OV n O P) 91 [.a (CA.c O),.q 5 (map CL.c P)] [] (λr=>I r):=by
 refine Kg 10 func91 Z Z Z Z λr h=>Cz [] h Kc Z λr1 ad h=>Go 9 Z (Cn Z h (λ_ h=>?_) (λ_ h=>?_))
 .exact au h
 refine Gc 11 Z (Lg 3 Z Z (Bd h λG J h=>D4 (b:=G) [] [] Ze Ze Zf ?_ (λ_ R=>?_)))
 .refine G0 1 Z (Lp [0] [1,2,6,16,17] (λq=>[(18,I q)]) Ze J Zf (Lr [0]) λq Y f g=>?_);refine G0 6 Z (Q5 Z f (λ_ f=>?_) (λ_ f=>?_))
  .exact Je g f
  refine Gc 3 Z (Bd f λL d f=>D4 (b:=L) [0] [1,2,6,16,17,18] Ze Ze Zf ?_ (λ_ hb=>?_))
  .refine G0 4 Z (Bd d λaa x d=>Iz x Z (Go 8 Z (Bd d λj M d=>Ct j [0,1] [1,2,6,7,8,16,17,18] (λj=>[(74,.b j)]) Ze Zf ?_ (λenv H T=>?_))))
   .exact au M
   refine Gx 1 Z (Ee T (Cn Z d (λ_ d=>?_) (λ_ d=>?_)))
   .refine Gc 8 Z ?_;cases d;exact DZ g f h
   refine Gc 9 Z (Cn Z d (λ_ d=>?_) (λ_ d=>?_))
   .refine Gc 3 Z ?_;cases d;exact KR Z (Lr [0])
   refine Gc 7 Z (Bd d λab E d=>Iz E Z (Go 21 Z (Cz [] d Kc Z λac X d=>Go 12 Z (Bd d λm N d=>Cg m [0] [1,2,6,16,17,18] (λm=>[(97,.b m)]) Ze Zf ?_ ?_))))
   .exact au N
   refine Cn Z d (λ_ d=>?_) (λ_ d=>?_)
   .refine Gc 8 Z ?_;cases d;exact DZ g f h
   refine Gc 3 Z ?_;cases d;exact KR Z (Lr [0])
  subst hb;exact au f
 subst R;exact au h
def Wx(n:Nat)(d:CC)(f:CL):AB Unit:=AC ()
instance xM(d:CC)(f:CL):Ks (Wx n d f) 93 [.a (CC.c d),.p 0 0] [.c 139 (CL.c f)] (λ_=>.b (({mat:=d.Al,BS:=d.Ag:Uf})==({mat:=f.Al,BS:=f.Ag:Uf}))):=by
 refine Kg 18 func93 Z Z Z Z λr h=>(vV (iQ (p:={mat:=d.Al,BS:=d.Ag:Uf}) (q:={mat:=f.Al,BS:=f.Ag:Uf}) QqZ Z Z) ?_);exact au h
def VY(h:AA CC)(g:CL)(d:Int):AB (CF Int (CF Unit Int)):=(bif d<(AI h:Int) then AH (CI h d) λf=>AH (Wx n f g) λj=>(bif (({mat:=f.Al,BS:=f.Ag:Uf})==({mat:=g.Al,BS:=g.Ag:Uf}))then AC (.d (.d d))else AC (.k (i64.wrap (d+1))))else AC (.d (.k ())))
def Od(g:AA CC)(h:CL):AB Int:=AH (iter (VY n g h) n 0:AB (CF Unit Int)) λf=>match f with|.k d=>(AC (-1))|.d d=>AC d
instance xd(d:AA CC)(f:CL):Ks (Od n d f) 92 [.q 3 (map CC.c d),.fn (.func 93) [] [.p 0 0]] [.c 139 (CL.c f)] (λr=>I r):=KA func92
def K3(n:Nat)(f:CA)(d:Int):AB Bool:=AH ((bif 0<=d then AC (AG (d<(AI f.Ar:Int)))else AC AD):AB Bool) λg=>AC g
instance zN(d:CA)(f:Int):Ks (K3 n d f) 164 [.a (CA.c d),I f] [] (λr=>.b r):=KA func164
def PR(n:Nat)(d:Int)(f:Int):AB (Int×Int):=AH ((bif d<(-2199023255552) then AC AE else(bif 2199023255552<d then AC AE else(bif f<0 then AC AE else AC (AG (100000<f))))):AB Bool) λg=>(bif g then AC (0,1)else AC (i64.wrap (Int.tdiv (i64.wrap ((i64.wrap ((i64.wrap ((if d<i64.wrap (0-d)then i64.wrap (0-d)else d)*f))+1000000))-1)) 1000000),0))
instance yV(f:Int)(g:Int):Ks (PR n f g) 262 [I f,I g] [] (λr=>.t [I r.1,I r.2]):=by
 refine Kg 8 func262 Z Z Z Z λr h=>Bd h λd m h=>Cg d [] [0,1] (λd=>[(19,.b d)]) Ze Zf ?_ ?_
 .exact au m
 refine Cn Z h (λ_ h=>?_) (λ_ h=>?_)
 .exact au h
 refine Gc 7 Z (vV (CS.max Z Z Z Z) ?_);refine Go 4 Z (vV (CS.quo Z Z Z (by decide)) ?_);exact au h
def Ik(d:CA)(f:CC)(j:Int):AB CJ:=AH (CI d.Ar f.Al) λm=>AH ((bif (m.AX != 1)then AH (PR n (i64.wrap (j-f.BJ)) d.AQ.BC) λg=>AC ({Lo:=i64.wrap (0-g.1),Hi:=i64.wrap (d.AQ.Ak+g.1):CJ})else AC ({Lo:=0,Hi:=d.AQ.Ak:CJ})):AB CJ) λh=>AC ({Lo:=h.Lo,Hi:=h.Hi:CJ})
instance bI(f:CA)(g:CC)(j:Int):Kq (Ik n f g j) 165 [.a (CA.c f),.a (CC.c g),I j] [] (λr=>.a [I r.Lo,I r.Hi]) (λr=>[.c 83 [I r.Lo,I r.Hi]]):=by
 refine Kg 24 func165 Z Z Z Z λr h=>Bd h λt m h=>Iz m Z (Go 5 Z (Bd h λd q h=>Cg d [2,3] [6,7] Ze (λd=>[(1,.c 83 [I d.Lo,I d.Hi])]) Zf ?_ ?_))
 .exact au q
 exact au h
def JY(f:CA)(g:CC)(h:Int):AB (CJ×Int):=AH (G8 n f) λj=>(bif (j != 0)then AC ({Lo:=0,Hi:=0:CJ},j)else AH (AH (K3 n f g.Al) λm=>(bif (!m)then AC AE else AH (IF n h) λq=>(bif (!q)then AC AE else AH (IF n g.BJ) λt=>AC (!t))):AB Bool) λx=>(bif x then AC ({Lo:=0,Hi:=0:CJ},1)else AH (Ik n f g h) λd=>AC ({Lo:=d.Lo,Hi:=d.Hi:CJ},0)))
instance zU(d:CA)(f:CC)(g:Int):Kq (JY n d f g) 94 [.a (CA.c d),.a (CC.c f),I g] [] (λr=>.t [.a [I r.1.Lo,I r.1.Hi],I r.2]) (λr=>[.c 83 [I r.1.Lo,I r.1.Hi]]):=KA func94
def We(n:Nat)(d:Cp)(f:Int)(g:Int)(B:CA)(E:CD)(h:AA Int)(F:AA CJ)(G:AA CL)(H:AA Ue)(q:Int)(t:AA (Int×Ue))(x:CA)(y:CD):AB Bool:=AH (AH (CI h (i64.wrap (f-1))) λj=>(bif (d.BA==j)then AC (d.To==g)else AC AD):AB Bool) λm=>AC m
instance w5(F:Cp)(G:Int)(H:Int)(d:CA)(q:CD)(J:AA Int)(t:AA CJ)(L:AA CL)(y:AA Ue)(f:Int)(g:AA (Int×Ue))(j:CA)(m:CD):Ks (We n F G H d q J t L y f g j m) 99 [.a (Cp.c F),.p 0 0,.p 1 0,.p 2 0] [.c 128 [.p 3 0],.c 3 [I G],.c 3 [I H],.c 136 [.str d.Ao,.q 2 (map Al.c d.Ar),.q 4 (map Cp.c d.Az),.q 5 (map AN.c d.AP),.q 2 (map A2.c d.A0),.q 4 (map AZ.c d.Ab),.q 3 (map AW.c d.AV),.q 4 (map CQ.c d.Ay),.q 8 (map AY.enc d.BN),I d.AQ.A8,I d.AQ.A6,I d.AQ.A5,I d.AQ.Ak,I d.AQ.BC,I d.Bj,I d.Av,.q 3 (map CC.c q.AR),.q 1 (map (Qu 1 eI) q.BP),.q 1 (map eI J),.o 4 (AI t) 2,.q 5 (map CL.c L),.o 5 (AI y) 3,.map 6,.fn (.func 95) [] [.p 0 0,.p 7 0,.p 8 0],I f],.r 83 2 (map CJ.c t),.r 145 3 (map Ue.c y),.map (Qo I (λx=>A.a (Ue.c x)) g),.c 33 (CA.c j),.c 39 (CD.c m)] (λr=>.b r):=by
 refine Kg 7 func99 Z Z Z Z λr h=>Bd h λB E h=>Cg B [0,1,2,3,4,5,6,7,8] [] (λB=>[(5,.b B)]) Ze Zf ?_ ?_
 .refine G0 0 Z (DP 15 Z (D 8 Z ?_));obtain⟨N,M,E⟩:=Qw E;refine DS.wo (x:=.rp [I N]) ?_ ?_
  .exact Ix M EB EC Z Wp
  exact au E
 exact au h
def MA(f:AA Cp)(x:Int)(y:Int)(B:CA)(E:CD)(F:AA Int)(G:AA CJ)(H:AA CL)(J:AA Ue)(g:Int)(h:AA (Int×Ue))(j:CA)(m:CD)(d:Int):AB (CF Int (CF Unit Int)):=(bif d<(AI f:Int) then AH (CI f d) λq=>AH (We n q x y B E F G H J g h j m) λt=>(bif t then AC (.d (.d d))else AC (.k (i64.wrap (d+1))))else AC (.d (.k ())))
def PF(q:AA Cp)(t:Int)(x:Int)(y:CA)(B:CD)(E:AA Int)(F:AA CJ)(G:AA CL)(H:AA Ue)(f:Int)(g:AA (Int×Ue))(h:CA)(j:CD):AB Int:=AH (iter (MA n q t x y B E F G H f g h j) n 0:AB (CF Unit Int)) λm=>match m with|.k d=>(AC (-1))|.d d=>AC d
instance yK(y:AA Cp)(B:Int)(E:Int)(d:CA)(m:CD)(F:AA Int)(q:AA CJ)(G:AA CL)(t:AA Ue)(f:Int)(g:AA (Int×Ue))(h:CA)(j:CD):Ks (PF n y B E d m F q G t f g h j) 98 [.q 4 (map Cp.c y),.fn (.func 99) [] [.p 0 0,.p 1 0,.p 2 0]] [.c 128 [.p 3 0],.c 3 [I B],.c 3 [I E],.c 136 [.str d.Ao,.q 2 (map Al.c d.Ar),.q 4 (map Cp.c d.Az),.q 5 (map AN.c d.AP),.q 2 (map A2.c d.A0),.q 4 (map AZ.c d.Ab),.q 3 (map AW.c d.AV),.q 4 (map CQ.c d.Ay),.q 8 (map AY.enc d.BN),I d.AQ.A8,I d.AQ.A6,I d.AQ.A5,I d.AQ.Ak,I d.AQ.BC,I d.Bj,I d.Av,.q 3 (map CC.c m.AR),.q 1 (map (Qu 1 eI) m.BP),.q 1 (map eI F),.o 4 (AI q) 2,.q 5 (map CL.c G),.o 5 (AI t) 3,.map 6,.fn (.func 95) [] [.p 0 0,.p 7 0,.p 8 0],I f],.r 83 2 (map CJ.c q),.r 145 3 (map Ue.c t),.map (Qo I (λx=>A.a (Ue.c x)) g),.c 33 (CA.c h),.c 39 (CD.c j)] (λr=>I r):=KA func98
def F6(d:CA)(f:CD)(h:AO)(j:Int)(g:AA CL)(m:AA Ac):CK->Go.Sw.A->Qc->Prop
  |.c0 x,a,H=>a=.t [.nilp,I x]/\H=[.c 128 [.nilp]]
  |.c1 x,a,H=>a=.t [.p 0 0,I 0]/\H=[.c 136 [.str d.Ao,.q 2 (map Al.c d.Ar),.q 4 (map Cp.c d.Az),.q 5 (map AN.c d.AP),.q 2 (map A2.c d.A0),.q 4 (map AZ.c d.Ab),.q 3 (map AW.c d.AV),.q 4 (map CQ.c d.Ay),.q 8 (map AY.enc d.BN),I d.AQ.A8,I d.AQ.A6,I d.AQ.A5,I d.AQ.Ak,I d.AQ.BC,I d.Bj,I d.Av,.q 3 (map CC.c f.AR),.q 1 (map (Qu 1 eI) f.BP),.q 1 (map eI x.1),.o 1 (AI x.2.1) 2,.q 5 (map CL.c g),.o 2 (AI x.2.2.1) 3,.map 3,.fn (.func 95) [] [.p 4 0,.p 5 0,.p 6 0],I x.2.2.2.2],.r 83 2 (map CJ.c x.2.1),.r 145 3 (map Ue.c x.2.2.1),.map (Qo I (λx=>A.a (Ue.c x)) x.2.2.2.1),.c 128 [.p 0 0],.c 33 (CA.c d),.c 39 (CD.c f)]
def IA(j:CA)(m:CD)(q:AA CL)(g:(AA Ue)×Int):AB (CF ((AA Ue)×Int) (CF (AA Ue) CK)):=(bif g.2<(AI q:Int) then AH (CI q g.2) λd=>AH (Od n m.AR d) λh=>AH (CI j.Ar d.Al) λt=>AH ((bif (t.AX==1)then AC (.k ((-1),{Al:=d.Al,Ag:=d.Ag,BJ:=0:CC}))else(bif h<0 then AC (.d (.d (.d (CK.c0 170))))else AH (CI m.AR h) λx=>AC (.k (h,x)))):AB (CF (Int×CC) (CF ((AA Ue)×Int) (CF (AA Ue) CK)))) λy=>match y with|.k f=>(AH (JY n j f.2 d.BQ) λB=>AH (JY n j f.2 d.A7) λE=>AH (app g.1 [{Ah:=f.1,A9:={Lo:=i64.wrap (d.BQ+B.1.Lo),Hi:=i64.wrap (d.A7+E.1.Hi):CJ}:Ue}]) λF=>AC (.k (F,i64.wrap (g.2+1))))|.d f=>AC f else AC (.d (.k g.1)))
def N'(n:Nat)(j:AA Ac)(d:(AA (Int×Ue))×Int×Int):AB (CF ((AA (Int×Ue))×Int×Int) ((AA (Int×Ue))×Int)):=(bif d.2.2<(AI j:Int) then AH (CI j d.2.2) λf=>AH (AC (Qn d.1 f.AT ({Ah:=0,A9:={Lo:=0,Hi:=0:CJ}:Ue}))) λm=>AH ((bif (!(JP d.1 f.AT))then AH (AC (QK d.1 f.AT ({Ah:=(-1),A9:={Lo:=f.Lo,Hi:=f.Hi:CJ}:Ue}))) λh=>AC (h,(if d.2.1<f.AT then f.AT else d.2.1))else AC (d.1,d.2.1)):AB ((AA (Int×Ue))×Int)) λg=>AC (.k (g.1,g.2,i64.wrap (d.2.2+1)))else AC (.d (d.1,d.2.1)))
def I9(g:CA)(E:CD)(F:AA CL)(h:(AA Int)×Int)(q:AA Ue)(m:(AA (Int×Ue))×Int)(d:(AA CJ)×CJ×Int):AB (CF ((AA CJ)×CJ×Int) (AA CJ)):=(bif d.2.2<(AI h.1:Int) then AH (CI h.1 d.2.2) λt=>AH ((bif 0<d.2.2 then AH (PF n g.Az d.2.2 t g E h.1 d.1 F q m.2 m.1 g E) λj=>AH (CI g.Az j) λx=>AH (CI g.Az j) λy=>AC ({Lo:=i64.wrap (d.2.1.Lo+x.Bl),Hi:=i64.wrap (d.2.1.Hi+y.Bq):CJ})else AC ({Lo:=d.2.1.Lo,Hi:=d.2.1.Hi:CJ})):AB CJ) λf=>AH (app d.1 [{Lo:=f.Lo,Hi:=f.Hi:CJ}]) λB=>AC (.k (B,{Lo:=f.Lo,Hi:=f.Hi:CJ},i64.wrap (d.2.2+1)))else AC (.d d.1))
def NF(f:CA)(q:CD)(h:AO)(J:Int)(t:AA CL)(y:AA Ac):AB CK:=AH (G8 n f) λB=>(bif (B != 0)then AC (CK.c0 B)else AH (JW n q) λE=>(bif (E != 0)then AC (CK.c0 E)else AH ((bif h.AN<0 then AC AE else(bif (AI f.AP:Int)<=h.AN then AC AE else(bif h.A2<0 then AC AE else(bif (AI f.A0:Int)<=h.A2 then AC AE else AH (fB n y) λF=>AC F)))):AB Bool) λG=>(bif G then AC (CK.c0 1)else AH (Ij n f h.AN J) λg=>(bif (g.2 != 0)then AC (CK.c0 g.2)else AH (OV n f t) λm=>(bif (m != 0)then AC (CK.c0 m)else AH (iter (IA n f q t) n ([],0):AB (CF (AA Ue) CK)) λH=>match H with|.k d=>(AH (iter (N' n y) n ([],(-1),0):AB ((AA (Int×Ue))×Int)) λj=>AH (iter (I9 n f q t g d j) n ([],{Lo:=0,Hi:=0:CJ},0):AB (AA CJ)) λx=>AC (CK.c1 (g.1,x,d,j.1,j.2)))|.d d=>AC d)))))
theorem jT(d:CA)(g:CD)(a3:AO)(a4:Int)(J:AA CL)(a6:AA Ac)(r:CK)(h:NF n d g a3 a4 J a6=AC r):C prog 35 [.a (CA.c d),.a (CD.c g),.a (AO.c a3),I a4,.q 5 (map CL.c J),.q 4 (map Ac.c a6)] [] (F6 d g a3 a4 J a6 r):=by
 refine iY func35 Z Z Z ?_;refine G0 13 Z (Cz [] h Kc Z λr1 cf h=>Go 9 Z (Cn Z h (λ_ h=>?_) (λ_ h=>?_)))
 .refine Gc 3 Z ?_;refine vU (Ey Z Z Z GQ Z Z Z Z Z Z Z) ?_;refine Fg 5 Z Z ?_;obtain rfl:=Oi h;exact Rx [3] [12,13] Z (QJ Z Z (C5.cons (YD GM Z Z) (C5.cons D2.tmp C5.nil))) ⟨Z,Z⟩
 refine Gc 6 Z (Cz [] h Kc Z λr3 cg h=>Go 9 Z (Cn Z h (λ_ h=>?_) (λ_ h=>?_)))
 .refine Gc 3 Z ?_;refine vU (Ey Z Z Z GQ Z Z Z Z Z Z Z) ?_;refine Fg 5 Z Z ?_;obtain rfl:=Oi h;exact Rx [3] [12,13] Z (QJ Z Z (C5.cons (YD GM Z Z) (C5.cons D2.tmp C5.nil))) ⟨Z,Z⟩
 refine Gc 9 Z (Bd h λah bq h=>Ct ah [0,1,2,3] [3,4,5,6,7,8,12] (λah=>[(69,.b ah)]) Ze Zf ?_ (λenv H W=>?_))
 .exact au bq
 refine Gx 1 Z (Ee W (Cn Z h (λ_ h=>?_) (λ_ h=>?_)))
 .refine Gc 2 Z ?_;refine vU (Ey Z Z Z GQ Z Z Z Z Z Z Z) ?_;refine Fg 5 Z Z ?_;obtain rfl:=Oi h;exact Rx [3] [12,13] Z (QJ Z Z (C5.cons (YD GM Z Z) (C5.cons D2.tmp C5.nil))) ⟨Z,Z⟩
 refine Gc 7 Z (vH Yl ?_);refine FE Z ?_;refine vX (.a [.str d.Ao,.q 2 (map Al.c d.Ar),.q 4 (map Cp.c d.Az),.q 5 (map AN.c d.AP),.q 2 (map A2.c d.A0),.q 4 (map AZ.c d.Ab),.q 3 (map AW.c d.AV),.q 4 (map CQ.c d.Ay),.q 8 (map AY.enc d.BN),I d.AQ.A8,I d.AQ.A6,I d.AQ.A5,I d.AQ.Ak,I d.AQ.BC,I d.Bj,I d.Av,.q 3 (map CC.c g.AR),.q 1 (map (Qu 1 eI) g.BP),.q 1 (map eI []),.n,.q 5 (map CL.c J),.n,.map 4,.nilf,I (-1)]) (CS.build (zs:=[.str [],.q 2 (map Al.c []),.q 4 (map Cp.c []),.q 5 (map AN.c []),.q 2 (map A2.c []),.q 4 (map AZ.c []),.q 3 (map AW.c []),.q 4 (map CQ.c []),.q 8 (map AY.enc []),I 0,I 0,I 0,I 0,I 0,I 0,I 0,.q 3 (map CC.c []),.q 1 (map (Qu 1 eI) []),.q 1 (map eI []),.n,.q 5 (map CL.c []),.n,.nilm,.nilf,I 0]) zeroValue136 (Fu Z) _L) ?_;refine Go 6 Z (HY 12 [11] [(0,0,0),(0,0,0),(0,0,0),(0,0,0),(0,0,0),(0,0,0),(0,0,0),(0,0,0),(0,0,1),(0,0,0),(0,0,0),(1,0,0)] (by kernel_rfl) (Dk 5 Z ?_));obtain⟨E,ba,h⟩:=Qw h;refine DK.wo (x:=.t [.q 1 (map eI E.1),I E.2]) ?_ ?_
 .refine Qf [] (C6.fn call82 Z Z Z) ((bG _ _ _ _).c _ ba) ?_;rintro _ _ ⟨rfl,rfl⟩;exact FE Z Wp
 refine Dk 5 Z ?_;refine DK.un (X1:=[.c 33 (CA.c d),.c 39 (CD.c g),.c 41 (AO.c a3),.c 128 [.p 5 0],.map (Qo I (λx=>A.a (Ue.c x)) []),.c 136 [.str d.Ao,.q 2 (map Al.c d.Ar),.q 4 (map Cp.c d.Az),.q 5 (map AN.c d.AP),.q 2 (map A2.c d.A0),.q 4 (map AZ.c d.Ab),.q 3 (map AW.c d.AV),.q 4 (map CQ.c d.Ay),.q 8 (map AY.enc d.BN),I d.AQ.A8,I d.AQ.A6,I d.AQ.A5,I d.AQ.Ak,I d.AQ.BC,I d.Bj,I d.Av,.q 3 (map CC.c g.AR),.q 1 (map (Qu 1 eI) g.BP),.q 1 (map eI E.1),.n,.q 5 (map CL.c J),.n,.map 4,.nilf,I (-1)]]) ?_ ?_
 .refine vU (Ey Z Z Z EP Z Z Z Z Z Z Z) ?_;refine Nx (H:=[_,_,_,_,_,.c 136 [.str d.Ao,.q 2 (map Al.c d.Ar),.q 4 (map Cp.c d.Az),.q 5 (map AN.c d.AP),.q 2 (map A2.c d.A0),.q 4 (map AZ.c d.Ab),.q 3 (map AW.c d.AV),.q 4 (map CQ.c d.Ay),.q 8 (map AY.enc d.BN),I d.AQ.A8,I d.AQ.A6,I d.AQ.A5,I d.AQ.Ak,I d.AQ.BC,I d.Bj,I d.Av,.q 3 (map CC.c g.AR),.q 1 (map (Qu 1 eI) g.BP),.q 1 (map eI E.1),.n,.q 5 (map CL.c J),.n,.map 4,.nilf,I (-1)]]) Z ?_;exact Wp
 refine DK.done Z Z (Go 9 Z (Cn Z h (λ_ h=>?_) (λ_ h=>?_)))
 .refine Gc 3 Z ?_;refine vU (Ey Z Z Z GQ Z Z Z Z Z Z Z) ?_;refine Fg 5 Z Z ?_;obtain rfl:=Oi h;exact Rx [3] [12,13] Z (QJ Z Z (C5.cons (YD GM Z Z) (C5.cons D2.tmp C5.nil))) ⟨Z,Z⟩
 refine Gc 7 Z (Cz [] h Kc Z λch bz h=>Go 9 Z (Cn Z h (λ_ h=>?_) (λ_ h=>?_)))
 .refine Gc 3 Z ?_;refine vU (Ey Z Z Z GQ Z Z Z Z Z Z Z) ?_;refine Fg 5 Z Z ?_;obtain rfl:=Oi h;exact Rx [3] [12,13] Z (QJ Z Z (C5.cons (YD GM Z Z) (C5.cons D2.tmp C5.nil))) ⟨Z,Z⟩
 refine Gc 6 Z (Lg 3 Z Z (Bd h λbr bs h=>FX (b:=br) [0,1,2,3,4,5] [5,6,7] (λ_=>[(12,.p 2 0)]) (λj=>[(2,.c 128 [.p 3 0]),(3,.c 136 [.str d.Ao,.q 2 (map Al.c d.Ar),.q 4 (map Cp.c d.Az),.q 5 (map AN.c d.AP),.q 2 (map A2.c d.A0),.q 4 (map AZ.c d.Ab),.q 3 (map AW.c d.AV),.q 4 (map CQ.c d.Ay),.q 8 (map AY.enc d.BN),I d.AQ.A8,I d.AQ.A6,I d.AQ.A5,I d.AQ.Ak,I d.AQ.BC,I d.Bj,I d.Av,.q 3 (map CC.c g.AR),.q 1 (map (Qu 1 eI) g.BP),.q 1 (map eI E.1),.n,.q 5 (map CL.c J),.o 4 (AI j) 3,.map 5,.nilf,I (-1)]),(4,.r 145 3 (map Ue.c j)),(5,.map (Qo I (λx=>A.a (Ue.c x)) []))]) Zf ?_ (λj env H bu W=>?_)))
 .refine G0 1 Z (Lp [0,1,3,5,0,4] [5,6,7,12,96,97] (λX=>[(98,I X.2)]) (λX=>[(2,.c 128 [.p 3 0]),(3,.c 136 [.str d.Ao,.q 2 (map Al.c d.Ar),.q 4 (map Cp.c d.Az),.q 5 (map AN.c d.AP),.q 2 (map A2.c d.A0),.q 4 (map AZ.c d.Ab),.q 3 (map AW.c d.AV),.q 4 (map CQ.c d.Ay),.q 8 (map AY.enc d.BN),I d.AQ.A8,I d.AQ.A6,I d.AQ.A5,I d.AQ.Ak,I d.AQ.BC,I d.Bj,I d.Av,.q 3 (map CC.c g.AR),.q 1 (map (Qu 1 eI) g.BP),.q 1 (map eI E.1),.n,.q 5 (map CL.c J),.o 4 (AI X.1) 3,.map 5,.nilf,I (-1)]),(4,.r 145 3 (map Ue.c X.1))]) bs Zf ?_ ?_)
  .refine En (Ye (i:=5) (m:=21) (t:=145) (k:=3) Z Z Z) ?_;exact Lr [0,1,3,5,6,4]
  intro X ci B ai;refine G0 6 Z (Q5 Z B (λ_ B=>?_) (λ_ B=>?_))
  .exact Je ai B
  refine Gc 6 Z (Bd B λad be B=>Iz be Z (Go 10 Z (Cz [6] B Kc Z λcj ca B=>Go 22 Z (Bd B λcl bg B=>Iz bg Z (Go 6 Z (Bd B λbv P B=>FX (b:=bv) [0,1,2,3,4,5,6,7] [5,6,7,12,16,18,96,97,98] (λQ=>[(17,I Q.1)]) (λQ=>[(7,.c 209 (CC.c Q.2))]) Zf ?_ (λQ env H hb W=>?_)))))))
  .refine G0 0 Z (Cn Z P (λ_ P=>?_) (λ_ P=>?_))
   .refine Gc 3 Z ?_;cases P;exact KR Z (Lr [0,1,2,3,4,5,6,7])
   refine Gc 7 Z (Cn Z P (λ_ P=>?_) (λ_ P=>?_))
   .refine Gc 2 Z ?_;refine vU (Ey Z Z Z GQ Z Z Z Z Z Z Z) ?_;refine Fg 4 Z Z ?_;cases P;refine LT (Gx 4 Z (IN B ?_));obtain rfl:=Oj ai B;refine Gx 1 Z (LT (Gx 1 Z ?_));obtain rfl:=Oi h;exact Rx [2] [12,13] Z (QJ Z Z (C5.cons (YD GM Z Z) (C5.cons D2.tmp C5.nil))) ⟨Z,Z⟩
   refine Gc 4 Z (Bd P λcm bj P=>Iz bj Z (Go 3 Z ?_));cases P;exact KR Z (Lr [0,1,2,3,4,5,6,7])
  subst hb;refine Gx 2 Z (Ee W (Gc 6 Z (Cd [] B Kc Z λY cb B=>Fg 14 Z Z (Cd [] B Kc Z λaa cc B=>Fg 8 Z Z (HY 20 [19] [(0,0,1),(0,0,0),(0,0,0),(0,0,0),(0,0,0),(0,0,0),(0,0,0),(0,0,0),(0,0,0),(0,0,0),(0,0,0),(0,0,0),(0,0,0),(0,0,0),(0,0,0),(0,0,0),(0,0,0),(0,0,0),(0,0,0),(1,0,0)] (by kernel_rfl) ?_)))));refine KG (lo:=0) (x:=.p 3 0) ⟨Z,trivial⟩ ?_;refine Dk 17 Z ?_;refine DK.wo (x:=.q 3 (map Ue.c [{Ah:=Q.1,A9:={Lo:=i64.wrap (ad.BQ+Y.1.Lo),Hi:=i64.wrap (ad.A7+aa.1.Hi):CJ}:Ue}])) ?_ ?_
  .refine vH (QN (xs:=[.tmp 161]) (es:=map Ue.c [{Ah:=Q.1,A9:={Lo:=i64.wrap (ad.BQ+Y.1.Lo),Hi:=i64.wrap (ad.A7+aa.1.Hi):CJ}:Ue}]) pj Z Z Z Z Z ⟨Z,trivial⟩ Z Z) ?_;exact FE Z Wp
  obtain⟨ay,bk,B⟩:=Qw B;refine Ex (x:=.o 12 (AI ay) 3) (X1:=[.c 33 (CA.c d),.c 39 (CD.c g),.c 128 [.p 3 0],.c 136 [.str d.Ao,.q 2 (map Al.c d.Ar),.q 4 (map Cp.c d.Az),.q 5 (map AN.c d.AP),.q 2 (map A2.c d.A0),.q 4 (map AZ.c d.Ab),.q 3 (map AW.c d.AV),.q 4 (map CQ.c d.Ay),.q 8 (map AY.enc d.BN),I d.AQ.A8,I d.AQ.A6,I d.AQ.A5,I d.AQ.Ak,I d.AQ.BC,I d.Bj,I d.Av,.q 3 (map CC.c g.AR),.q 1 (map (Qu 1 eI) g.BP),.q 1 (map eI E.1),.n,.q 5 (map CL.c J),.o 4 (AI X.1) 3,.map 5,.nilf,I (-1)],.dead,.map (Qo I (λx=>A.a (Ue.c x)) []),.c 139 (CL.c ad),.c 209 (CC.c Q.2),.c 83 [I Y.1.Lo,I Y.1.Hi],.c 83 [I Y.1.Lo,I Y.1.Hi],.c 83 [I aa.1.Lo,I aa.1.Hi],.c 83 [I aa.1.Lo,I aa.1.Hi],.r 145 3 (map Ue.c ay)]) ?_ ?_
  .refine vH (Qj (e:=Ue.c) bk pj Gz L9) ?_;exact FE Z Wp
  exact DK.done Z Z (Go 10 Z (QZ B (Lr [0,1,2,3,12,5])))
 subst bu;refine Gx 1 Z (Ee W (Gc 4 Z (Lg 3 Z Z (Bd h λL bw h=>Ct L [0,1,2,3,4,5] [6,7,12] Ze (λL=>[(3,.c 136 [.str d.Ao,.q 2 (map Al.c d.Ar),.q 4 (map Cp.c d.Az),.q 5 (map AN.c d.AP),.q 2 (map A2.c d.A0),.q 4 (map AZ.c d.Ab),.q 3 (map AW.c d.AV),.q 4 (map CQ.c d.Ay),.q 8 (map AY.enc d.BN),I d.AQ.A8,I d.AQ.A6,I d.AQ.A5,I d.AQ.Ak,I d.AQ.BC,I d.Bj,I d.Av,.q 3 (map CC.c g.AR),.q 1 (map (Qu 1 eI) g.BP),.q 1 (map eI E.1),.n,.q 5 (map CL.c J),.o 4 (AI j) 3,.map 5,.nilf,I L.2]),(5,.map (Qo I (λx=>A.a (Ue.c x)) L.1))]) Zf ?_ (λenv H W=>?_)))))
 .refine G0 1 Z (Lp [0,1,2,3,4,5] [6,7,12,167,168] (λq=>[(169,I q.2.2)]) (λq=>[(3,.c 136 [.str d.Ao,.q 2 (map Al.c d.Ar),.q 4 (map Cp.c d.Az),.q 5 (map AN.c d.AP),.q 2 (map A2.c d.A0),.q 4 (map AZ.c d.Ab),.q 3 (map AW.c d.AV),.q 4 (map CQ.c d.Ay),.q 8 (map AY.enc d.BN),I d.AQ.A8,I d.AQ.A6,I d.AQ.A5,I d.AQ.Ak,I d.AQ.BC,I d.Bj,I d.Av,.q 3 (map CC.c g.AR),.q 1 (map (Qu 1 eI) g.BP),.q 1 (map eI E.1),.n,.q 5 (map CL.c J),.o 4 (AI j) 3,.map 5,.nilf,I q.2.1]),(5,.map (Qo I (λx=>A.a (Ue.c x)) q.1))]) bw Zf (Lr [0,1,2,3,4,5]) λq cn O bl=>?_);refine G0 6 Z (Q5 Z O (λ_ O=>?_) (λ_ O=>?_))
  .exact Gc 2 Z (QF O (Gx 1 Z (DX bl O (Lr [0,1,2,3,4,5]))))
  refine Gc 6 Z (Bd O λy al O=>Iz al Z (Go 6 Z ?_));obtain⟨R,af,O⟩:=Qw O;refine Yx 12 0 [174,175,176,177,178,179,180,173,181,182,25,1000011] [AD,AD,AD,AD,AD,AD,AD,AD,AD,AD,AE,AE] [[],[],[],[],[],[],[],[],[],[],[],[10]] [[],[10],[10,11]] [[(0,0),(1,1)],[(0,0),(1,1)],[(0,0),(1,1)],[(0,0),(1,1)],[(0,0),(1,1)],[(0,0),(1,1)],[(0,0),(1,1)],[(0,0),(1,1)],[(0,0),(1,1)],[(0,0),(1,1),(2,2)],[(0,1)],[(1,2)]] [.p 3 0,.p 3 0,.p 3 22,.map 5,.p 6 1,I y.AT,.t [.a (Ue.c R),.b (JP q.1 y.AT)],.t [.a (Ue.c R),.b (JP q.1 y.AT)],.a (Ue.c R),.b (JP q.1 y.AT),.p 7 0,.any] [[.c 33 (CA.c d),.c 39 (CD.c g),.c 128 [.p 3 0],.c 136 [.str d.Ao,.q 2 (map Al.c d.Ar),.q 4 (map Cp.c d.Az),.q 5 (map AN.c d.AP),.q 2 (map A2.c d.A0),.q 4 (map AZ.c d.Ab),.q 3 (map AW.c d.AV),.q 4 (map CQ.c d.Ay),.q 8 (map AY.enc d.BN),I d.AQ.A8,I d.AQ.A6,I d.AQ.A5,I d.AQ.Ak,I d.AQ.BC,I d.Bj,I d.Av,.q 3 (map CC.c g.AR),.q 1 (map (Qu 1 eI) g.BP),.q 1 (map eI E.1),.n,.q 5 (map CL.c J),.o 4 (AI j) 3,.map 5,.nilf,I q.2.1],.r 145 3 (map Ue.c j),.map (Qo I (λx=>A.a (Ue.c x)) q.1),.c 104 (Ac.c y)],[.c 33 (CA.c d),.c 39 (CD.c g),.c 128 [.p 3 0],.c 136 [.str d.Ao,.q 2 (map Al.c d.Ar),.q 4 (map Cp.c d.Az),.q 5 (map AN.c d.AP),.q 2 (map A2.c d.A0),.q 4 (map AZ.c d.Ab),.q 3 (map AW.c d.AV),.q 4 (map CQ.c d.Ay),.q 8 (map AY.enc d.BN),I d.AQ.A8,I d.AQ.A6,I d.AQ.A5,I d.AQ.Ak,I d.AQ.BC,I d.Bj,I d.Av,.q 3 (map CC.c g.AR),.q 1 (map (Qu 1 eI) g.BP),.q 1 (map eI E.1),.n,.q 5 (map CL.c J),.o 4 (AI j) 3,.map 5,.nilf,I q.2.1],.r 145 3 (map Ue.c j),.map (Qo I (λx=>A.a (Ue.c x)) q.1),.c 104 (Ac.c y),.c 145 [I 0,I 0,I 0]],[.c 33 (CA.c d),.c 39 (CD.c g),.c 128 [.p 3 0],.c 136 [.str d.Ao,.q 2 (map Al.c d.Ar),.q 4 (map Cp.c d.Az),.q 5 (map AN.c d.AP),.q 2 (map A2.c d.A0),.q 4 (map AZ.c d.Ab),.q 3 (map AW.c d.AV),.q 4 (map CQ.c d.Ay),.q 8 (map AY.enc d.BN),I d.AQ.A8,I d.AQ.A6,I d.AQ.A5,I d.AQ.Ak,I d.AQ.BC,I d.Bj,I d.Av,.q 3 (map CC.c g.AR),.q 1 (map (Qu 1 eI) g.BP),.q 1 (map eI E.1),.n,.q 5 (map CL.c J),.o 4 (AI j) 3,.map 5,.nilf,I q.2.1],.r 145 3 (map Ue.c j),.map (Qo I (λx=>A.a (Ue.c x)) q.1),.c 104 (Ac.c y),.c 145 (Ue.c R)]] ([.c 33 (CA.c d),.c 39 (CD.c g),.c 128 [.p 3 0],.c 136 [.str d.Ao,.q 2 (map Al.c d.Ar),.q 4 (map Cp.c d.Az),.q 5 (map AN.c d.AP),.q 2 (map A2.c d.A0),.q 4 (map AZ.c d.Ab),.q 3 (map AW.c d.AV),.q 4 (map CQ.c d.Ay),.q 8 (map AY.enc d.BN),I d.AQ.A8,I d.AQ.A6,I d.AQ.A5,I d.AQ.Ak,I d.AQ.BC,I d.Bj,I d.Av,.q 3 (map CC.c g.AR),.q 1 (map (Qu 1 eI) g.BP),.q 1 (map eI E.1),.n,.q 5 (map CL.c J),.o 4 (AI j) 3,.map 5,.nilf,I q.2.1],.r 145 3 (map Ue.c j),.map (Qo I (λx=>A.a (Ue.c x)) q.1),.c 104 (Ac.c y),.c 145 (Ue.c R)]) DD Z Z Z Z Z Z Z ?_ Z ?_
  .refine M1 (Co.cons ?_ (M1 (M1 (M1 (M1 (Co.cons ?_ (M1 (M1 (M1 (Co.cons ?_ (Co.cons ?_ (Co.nil))))))))))))
   .refine Qb ?_ (Qb ?_ (Qg))
    iterate 2 refine Om Z (sD 0 sN) ?_;exact S Z Wp
   .refine Qb ?_ (Qb ?_ (Qg))
    iterate 2 refine Om Z (sD 3 (sD 5 sN)) ?_;refine vX (.t [.a (Ue.c R),.b (JP q.1 y.AT)]) (nA (ev:=(λx=>A.a (Ue.c x))) (z0:=({Ah:=0,A9:={Lo:=0,Hi:=0:CJ}:Ue})) (k:=y.AT) (l:=q.1) YN af Gw Gs (Fu Z)) ?_;exact Wp
   .refine Qb ?_ (Qg)
    .refine F7 Z sN ?_;refine vH (eT (v:=(.a [I 0,I 0,I 0])) Gs (Fu Z)) ?_;exact FE Z Wp
   .refine Qb ?_ (Qg)
    .refine S9 Z (sD 10 (sD 8 sN)) ?_;refine vU (Ey Z Z Z G1 Z Z Z Z Z Z Z) ?_;exact FE Z Wp
  refine Go 9 Z (Bd O λab T O=>Ct ab [0,1,2,3,4,5] [6,7,12,167,168,169] Ze (λab=>[(3,.c 136 [.str d.Ao,.q 2 (map Al.c d.Ar),.q 4 (map Cp.c d.Az),.q 5 (map AN.c d.AP),.q 2 (map A2.c d.A0),.q 4 (map AZ.c d.Ab),.q 3 (map AW.c d.AV),.q 4 (map CQ.c d.Ay),.q 8 (map AY.enc d.BN),I d.AQ.A8,I d.AQ.A6,I d.AQ.A5,I d.AQ.Ak,I d.AQ.BC,I d.Bj,I d.Av,.q 3 (map CC.c g.AR),.q 1 (map (Qu 1 eI) g.BP),.q 1 (map eI E.1),.n,.q 5 (map CL.c J),.o 4 (AI j) 3,.map 5,.nilf,I ab.2]),(5,.map (Qo I (λx=>A.a (Ue.c x)) ab.1))]) Zf ?_ (λenv H W=>?_))
  .refine G0 0 Z (Cn Z T (λ_ T=>?_) (λ_ T=>?_))
   .refine Gc 1 Z (DP 12 Z (D 12 Z (Eg Z (Bd T λcd an T=>?_))));refine vU (Yh (ev:=(λx=>A.a (Ue.c x))) (k:=y.AT) (v:=({Ah:=(-1),A9:={Lo:=y.Lo,Hi:=y.Hi:CJ}:Ue})) (l:=q.1) YN an Z Gw) ?_;refine Fg 2 Z Z (DP 8 Z (D 7 Z ?_));refine DS.v (x:=(I (if q.2.1<y.AT then y.AT else q.2.1))) (CS.max Z Z Z Z) ?_;exact au T
   exact au T
  exact Gx 2 Z (Ee W (Gc 4 Z (QZ O (Lr [0,1,2,3,4,5]))))
 refine Gx 1 Z (Ee W (Gc 21 Z (Lg 3 Z Z (Bd h λac bn h=>Cg ac [1,2,3,4,5,0,6] [] (λ_=>[(12,.p 0 0)]) (λac=>[(0,.c 128 [.p 1 0]),(1,.c 136 [.str d.Ao,.q 2 (map Al.c d.Ar),.q 4 (map Cp.c d.Az),.q 5 (map AN.c d.AP),.q 2 (map A2.c d.A0),.q 4 (map AZ.c d.Ab),.q 3 (map AW.c d.AV),.q 4 (map CQ.c d.Ay),.q 8 (map AY.enc d.BN),I d.AQ.A8,I d.AQ.A6,I d.AQ.A5,I d.AQ.Ak,I d.AQ.BC,I d.Bj,I d.Av,.q 3 (map CC.c g.AR),.q 1 (map (Qu 1 eI) g.BP),.q 1 (map eI E.1),.o 2 (AI ac) 2,.q 5 (map CL.c J),.o 3 (AI j) 3,.map 4,.fn (.func 95) [] [.p 0 0,.p 5 0,.p 6 0],I L.2]),(2,.r 83 2 (map CJ.c ac)),(6,.c 39 (CD.c g))]) Zf ?_ ?_))))
 .refine G0 1 Z (Lp [0,2,3,0,4,5,1,6] [6,12,27,215,216] (λf=>[(217,I f.2.2)]) (λf=>[(1,.c 128 [.p 2 0]),(2,.c 136 [.str d.Ao,.q 2 (map Al.c d.Ar),.q 4 (map Cp.c d.Az),.q 5 (map AN.c d.AP),.q 2 (map A2.c d.A0),.q 4 (map AZ.c d.Ab),.q 3 (map AW.c d.AV),.q 4 (map CQ.c d.Ay),.q 8 (map AY.enc d.BN),I d.AQ.A8,I d.AQ.A6,I d.AQ.A5,I d.AQ.Ak,I d.AQ.BC,I d.Bj,I d.Av,.q 3 (map CC.c g.AR),.q 1 (map (Qu 1 eI) g.BP),.q 1 (map eI E.1),.o 3 (AI f.1) 2,.q 5 (map CL.c J),.o 4 (AI j) 3,.map 5,.fn (.func 95) [] [.p 1 0,.p 0 0,.p 6 0],I L.2]),(3,.r 83 2 (map CJ.c f.1)),(7,.c 83 [I f.2.1.Lo,I f.2.1.Hi])]) bn Zf ?_ ?_)
  .refine En (Ye (i:=3) (m:=19) (t:=83) (k:=2) Z Z Z) ?_;exact Lr [0,2,3,7,4,5,1,6]
  intro f ce F ao;refine G0 6 Z (Q5 Z F (λ_ F=>?_) (λ_ F=>?_))
  .exact Gc 2 Z (QF F (Gx 1 Z (DX ao F (Lr [1,2,3,4,5,0,6]))))
  refine Gc 7 Z (Bd F λae ar F=>Iz ar Z (Go 14 Z (Bd F λM G F=>Cg M [0,1,2,3,4,5,6,7] [6,12,27,215,216,217] Ze (λM=>[(7,.c 83 [I M.Lo,I M.Hi])]) Zf ?_ ?_)))
  .refine G0 0 Z (Cn Z G (λ_ G=>?_) (λ_ G=>?_))
   .refine Gc 5 Z (Cz [1,8,9,2,3,4,5,0,6] G Kc Z λaj bx G=>Go 3 Z ?_);obtain⟨N,aw,G⟩:=Qw G;obtain⟨V,ag,G⟩:=Qw G;refine Yx 20 0 [228,229,230,231,232,233,234,235,236,237,238,239,240,241,242,243,244,245,246,1000019] [AD,AD,AD,AD,AD,AD,AD,AD,AD,AD,AD,AD,AD,AD,AD,AD,AD,AD,AD,AE] [[],[],[],[],[],[],[],[],[],[],[],[],[],[],[],[],[],[],[],[]] [[],[19]] [[(0,0)],[(0,0)],[(0,0)],[(0,0)],[(0,0)],[(0,0)],[(0,0)],[(0,0)],[(0,0)],[(0,0)],[(0,0)],[(0,0),(1,1)],[(0,0),(1,1)],[(0,0),(1,1)],[(0,0),(1,1)],[(0,0),(1,1)],[(0,0),(1,1)],[(0,0),(1,1)],[(0,0)],[(0,1)]] [.p 7 0,I f.2.1.Lo,.p 0 2,.q 4 (map Cp.c d.Az),I aj,.rp [I N.BA,I N.To,I N.Bl,I N.Bq],.rp [I N.Bl,I N.Bq],I N.Bl,I (i64.wrap (f.2.1.Lo+N.Bl)),.p 7 1,I f.2.1.Hi,.p 0 2,.q 4 (map Cp.c d.Az),I aj,.rp [I V.BA,I V.To,I V.Bl,I V.Bq],.rp [I V.Bq],I V.Bq,I (i64.wrap (f.2.1.Hi+V.Bq)),.p 7 0,.any] [[.c 33 (CA.c d),.c 128 [.p 2 0],.c 136 [.str d.Ao,.q 2 (map Al.c d.Ar),.q 4 (map Cp.c d.Az),.q 5 (map AN.c d.AP),.q 2 (map A2.c d.A0),.q 4 (map AZ.c d.Ab),.q 3 (map AW.c d.AV),.q 4 (map CQ.c d.Ay),.q 8 (map AY.enc d.BN),I d.AQ.A8,I d.AQ.A6,I d.AQ.A5,I d.AQ.Ak,I d.AQ.BC,I d.Bj,I d.Av,.q 3 (map CC.c g.AR),.q 1 (map (Qu 1 eI) g.BP),.q 1 (map eI E.1),.o 3 (AI f.1) 2,.q 5 (map CL.c J),.o 4 (AI j) 3,.map 5,.fn (.func 95) [] [.p 1 0,.p 0 0,.p 6 0],I L.2],.r 83 2 (map CJ.c f.1),.r 145 3 (map Ue.c j),.map (Qo I (λx=>A.a (Ue.c x)) L.1),.c 39 (CD.c g),.c 83 [I f.2.1.Lo,I f.2.1.Hi],.c 3 [I f.2.2],.c 3 [I ae]],[.c 33 (CA.c d),.c 128 [.p 2 0],.c 136 [.str d.Ao,.q 2 (map Al.c d.Ar),.q 4 (map Cp.c d.Az),.q 5 (map AN.c d.AP),.q 2 (map A2.c d.A0),.q 4 (map AZ.c d.Ab),.q 3 (map AW.c d.AV),.q 4 (map CQ.c d.Ay),.q 8 (map AY.enc d.BN),I d.AQ.A8,I d.AQ.A6,I d.AQ.A5,I d.AQ.Ak,I d.AQ.BC,I d.Bj,I d.Av,.q 3 (map CC.c g.AR),.q 1 (map (Qu 1 eI) g.BP),.q 1 (map eI E.1),.o 3 (AI f.1) 2,.q 5 (map CL.c J),.o 4 (AI j) 3,.map 5,.fn (.func 95) [] [.p 1 0,.p 0 0,.p 6 0],I L.2],.r 83 2 (map CJ.c f.1),.r 145 3 (map Ue.c j),.map (Qo I (λx=>A.a (Ue.c x)) L.1),.c 39 (CD.c g),.c 83 [I (i64.wrap (f.2.1.Lo+N.Bl)),I f.2.1.Hi],.c 3 [I f.2.2],.c 3 [I ae]]] ([.c 33 (CA.c d),.c 128 [.p 2 0],.c 136 [.str d.Ao,.q 2 (map Al.c d.Ar),.q 4 (map Cp.c d.Az),.q 5 (map AN.c d.AP),.q 2 (map A2.c d.A0),.q 4 (map AZ.c d.Ab),.q 3 (map AW.c d.AV),.q 4 (map CQ.c d.Ay),.q 8 (map AY.enc d.BN),I d.AQ.A8,I d.AQ.A6,I d.AQ.A5,I d.AQ.Ak,I d.AQ.BC,I d.Bj,I d.Av,.q 3 (map CC.c g.AR),.q 1 (map (Qu 1 eI) g.BP),.q 1 (map eI E.1),.o 3 (AI f.1) 2,.q 5 (map CL.c J),.o 4 (AI j) 3,.map 5,.fn (.func 95) [] [.p 1 0,.p 0 0,.p 6 0],I L.2],.r 83 2 (map CJ.c f.1),.r 145 3 (map Ue.c j),.map (Qo I (λx=>A.a (Ue.c x)) L.1),.c 39 (CD.c g),.c 83 [I (i64.wrap (f.2.1.Lo+N.Bl)),I f.2.1.Hi],.c 3 [I f.2.2],.c 3 [I ae]]) DD Z Z Z Z Z Z Z ?_ Z ?_
    .refine M1 (M1 (M1 (M1 (M1 (Co.cons ?_ (M1 (M1 (Co.cons ?_ (M1 (M1 (M1 (M1 (M1 (Co.cons ?_ (M1 (M1 (Co.cons ?_ (M1 (Co.cons ?_ (Co.nil))))))))))))))))))))
     .refine Qb ?_ (Qg)
      .refine Om Z (sD 3 (sD 4 sN)) ?_;exact Ix aw Gb GN Z Wp
     .refine Qb ?_ (Qg)
      .refine Om Z (sD 1 (sD 7 sN)) ?_;exact S Z Wp
     .refine Qb ?_ (Qb ?_ (Qg))
      iterate 2 refine Om Z (sD 12 (sD 13 sN)) ?_;exact Ix ag Gb GN Z Wp
     .refine Qb ?_ (Qb ?_ (Qg))
      iterate 2 refine Om Z (sD 10 (sD 16 sN)) ?_;exact S Z Wp
     .refine Qb ?_ (Qg)
      .refine S9 Z (sD 8 (sD 18 sN)) ?_;refine vU (Ey Z Z Z EC Z Z Z Z Z Z Z) ?_;exact FE Z Wp
    exact au G
   exact au G
  refine HY 8 [7] [(0,0,1),(0,0,0),(0,0,0),(0,0,0),(0,0,0),(0,0,0),(0,0,0),(1,0,0)] (by kernel_rfl) ?_;refine KG (lo:=0) (x:=.p 2 0) ⟨Z,trivial⟩ ?_;refine Dk 5 Z ?_;refine DK.wo (x:=.q 2 (map CJ.c [{Lo:=M.Lo,Hi:=M.Hi:CJ}])) ?_ ?_
  .refine vH (QN (xs:=[.tmp 253]) (es:=map CJ.c [{Lo:=M.Lo,Hi:=M.Hi:CJ}]) pi Z Z Z Z Z ⟨Z,trivial⟩ Z Z) ?_;exact FE Z Wp
  obtain⟨ak,ax,F⟩:=Qw F;refine Ex (x:=.o 8 (AI ak) 2) (X1:=[.c 33 (CA.c d),.c 128 [.p 2 0],.c 136 [.str d.Ao,.q 2 (map Al.c d.Ar),.q 4 (map Cp.c d.Az),.q 5 (map AN.c d.AP),.q 2 (map A2.c d.A0),.q 4 (map AZ.c d.Ab),.q 3 (map AW.c d.AV),.q 4 (map CQ.c d.Ay),.q 8 (map AY.enc d.BN),I d.AQ.A8,I d.AQ.A6,I d.AQ.A5,I d.AQ.Ak,I d.AQ.BC,I d.Bj,I d.Av,.q 3 (map CC.c g.AR),.q 1 (map (Qu 1 eI) g.BP),.q 1 (map eI E.1),.o 3 (AI f.1) 2,.q 5 (map CL.c J),.o 4 (AI j) 3,.map 5,.fn (.func 95) [] [.p 1 0,.p 0 0,.p 6 0],I L.2],.dead,.r 145 3 (map Ue.c j),.map (Qo I (λx=>A.a (Ue.c x)) L.1),.c 39 (CD.c g),.c 83 [I M.Lo,I M.Hi],.r 83 2 (map CJ.c ak)]) ?_ ?_
  .refine vH (Qj (e:=CJ.c) ax pi E8 L9) ?_;exact FE Z Wp
  exact DK.done Z Z (Go 10 Z (QZ F (Lr [0,1,2,8,4,5,6,7])))
 refine Gc 8 Z ?_;obtain rfl:=Oi h;exact Rx [1,2,3,4,0,5,6] [12,13] Z (QJ Z Z (C5.cons (YD GM Z Z) (C5.cons D2.tmp C5.nil))) ⟨Z,Z⟩
def Mq(n:Nat):AB Unit:=AC ()
instance jy:Kq (Mq n) 42 [] [] (λ_=>.a [I (-1),I 0,I 0,I 0,I 0]) (λ_=>[.c 147 [I (-1),I 0,I 0,I 0,I 0]]):=KA func42
def nZ(n:Nat)(h:AA (Int×Int))(g:Int)(d:Int×Int):AB (CF Int Int):=AH (AC (Qn h d.1 0)) λf=>AC (.k (i64.wrap (g+(if 0<i64.wrap (d.2-f)then i64.wrap (d.2-f)else 0))))
def nq(n:Nat)(d:Int):AB Int:=AC d
def Pj(f:AA (Int×Int))(g:AA (Int×Int)):AB Int:=anyP (λp39=>AH (L1 (nZ n g) (nq n) 0 p39) λd=>AC d) f
instance jc(j:AA (Int×Int))(m:AA (Int×Int)):Ks (Pj n j m) 36 [.p 0 0,.p 1 0] [.c 137 [.map 2],.c 137 [.map 3],.fmap (Qo I I j),.fmap (Qo I I m)] (λr=>I r):=by
 refine Kg 9 func36 Z Z Z Z λr h=>vH (tD EM) (Fg 2 Z Z ?_);have y:=Qq7 h;have q:=λp hp=>Qw (y p hp);refine Z? q (λd=>[(2,I d)]) (λd=>[.c 137 [.map 2],.c 137 [.map 3],.fmap (Qo I I j),.fmap (Qo I I m)]) ?_ (λd env H B E=>?_)
 .refine G0 1 Z (Qpq (enc:=(λp=>(I p.1,I p.2))) (λf=>[(1,.p 1 0),(2,I f),(6,.p 4 0)]) (λf t=>[.c 137 [.map 2],.c 137 [.map 3],.fmap (Qo I I j),.fmap (Qo I I m),.iter AF t]) q ?_ ?_)
  .exact Lr [0,1,2,3,4]
  intro f t F;refine G0 2 Z (Qpm F (λM G J=>?_) (λN O P g Q L=>?_))
  .refine Go 7 Z (_u ?_);cases G;exact Gx 1 Z (cT J (Lr [0,1,2,3]))
  refine Go 10 Z ?_;refine vV (CS.entry) (Go 11 Z (Bd g λR x g=>?_));refine vV (Qm5 YN x EM EV Eo) ?_;refine Go 1 Z (vV (CS.max Z Z Z Z) ?_);refine Go 4 Z (_t _ _ g L (En (sk (i:=4) Z Z) ?_));exact Lr [0,1,2,3,4]
 exact Gx 1 Z (Ee E (L' 7 Z B 2 [0,1,2,3]))
def W2(n:Nat)(d:AA Int):AB (AA Int):=isNil d (AC []) (AH (app ([]:AA Int) d) λf=>AC f)
instance jZ(d:AA Int):Kq (W2 n d) 39 [.o 0 (AI d) 1] [.r 3 1 (map eI d)] (λr=>.o 1 (AI r) 1) (λr=>[.r 3 1 (map eI d),.r 3 1 (map eI r)]):=by
 refine Kg 9 func39 Z Z Z Z λr h=>(QmS underlying73 Z (λf g=>?_));have hkb1:=sB h f g;cases f
 .have h:=hkb1.2 Z;refine Go 7 Z (vH (Ek (xs:=[]) QG Z Z Z Z Z trivial Z Z) ?_);refine Fg 1 Z Z (Bd h λm j h=>vH (Qj j QG EB (QE (i:=0))) ?_);exact au h
 .have h:=hkb1.1 Z;refine Go 10 Z ?_;obtain rfl:=Oi h;refine R1 2 Z (En (Er (s:=2) (k:=1) (t:=3) (XQ Z) Z) ?_);exact Lr [0,1]
def Ib(n:Nat)(f:Int)(g:Int)(y:CA)(B:CD)(E:AA Int)(F:AA CJ)(G:AA CL)(h:AA Ue)(H:Int)(d:AA (Int×Ue))(t:CA)(x:CD):AB (Ue×Bool):=AH (AC (Qn d f ({Ah:=0,A9:={Lo:=0,Hi:=0:CJ}:Ue}))) λj=>AH ((bif JP d f then AC AE else AC (AG (g<0))):AB Bool) λm=>(bif m then AC (j,JP d f)else AH (CI h g) λq=>AC (q,AE))
instance ze(G:Int)(H:Int)(j:CA)(m:CD)(q:AA Int)(t:AA CJ)(y:AA CL)(B:AA Ue)(E:Int)(d:AA (Int×Ue))(f:CA)(g:CD):Kq (Ib n G H j m q t y B E d f g) 101 (oO 0 0 G H) [.c 136 (match_task.tc j m q t y B (.map 1) (.fn (.func 95) [] [.p 2 0,.p 3 0,.p 4 0]) E),.map (Qo I (λx=>A.a (Ue.c x)) d),.c 128 [.p 0 0],.c 33 (CA.c f),.c 39 (CD.c g)] (λr=>.t [.a (Ue.c r.1),.b r.2]) (λr=>[.c 136 (match_task.tc j m q t y B (.map 1) (.fn (.func 95) [] [.p 2 0,.p 3 0,.p 4 0]) E),.map (Qo I (λx=>A.a (Ue.c x)) d),.c 128 [.p 0 0],.c 33 (CA.c f),.c 39 (CD.c g),.c 145 (Ue.c r.1)]):=by
 refine Kg 14 func101 Z Z Z Z λr h=>Bd h λM J h=>?_;refine vV (nA YN J Gw Gs (Fu Z)) (Go 8 Z (Bd h λF L h=>Cg F [0,1,2,3,4,5] [0,2,6,7] (λF=>[(21,.b F)]) Ze Zf ?_ ?_))
 .exact au L
 exact au h
def Mr(g:CA)(h:CD)(f:Int)(d:CJ):AB (CJ×Int):=AH (G8 n g) λm=>(bif (m != 0)then AC ({Lo:=0,Hi:=0:CJ},m)else AH (JW n h) λq=>(bif (q != 0)then AC ({Lo:=0,Hi:=0:CJ},q)else AH ((bif f<(-1) then AC AE else(bif (AI h.AR:Int)<=f then AC AE else AH (IF n d.Lo) λt=>(bif (!t)then AC AE else AH (IF n d.Hi) λx=>(bif (!x)then AC AE else AC (AG (d.Hi<d.Lo)))))):AB Bool) λy=>(bif y then AC ({Lo:=0,Hi:=0:CJ},1)else(bif f<0 then AC ({Lo:=d.Lo,Hi:=i64.wrap (d.Hi+g.AQ.Ak):CJ},0)else AH (CI h.AR f) λj=>AH (K3 n g j.Al) λB=>(bif (!B)then AC ({Lo:=0,Hi:=0:CJ},1)else AH (Ik n g j d.Lo) λE=>AH (CI h.BP (i64.wrap (f+1))) λF=>AH (CI F 0) λG=>AH (Ik n g j d.Hi) λH=>AH (CI h.BP 0) λJ=>AH (CI J (i64.wrap (f+1))) λL=>AC ({Lo:=i64.wrap ((i64.wrap (d.Lo+E.Lo))-G),Hi:=i64.wrap ((i64.wrap (d.Hi+H.Hi))+L):CJ},0))))))
instance j3(m:CA)(q:CD)(H:Int)(f:CJ):Kq (Mr n m q H f) 96 [.a (CA.c m),.a (CD.c q),I H,.a [I f.Lo,I f.Hi]] [] (λr=>.t [.a [I r.1.Lo,I r.1.Hi],I r.2]) (λr=>[.c 83 [I r.1.Lo,I r.1.Hi]]):=by
 refine Kg 13 func96 Z Z Z Z λr h=>Cz [] h Kc Z λr1 Y h=>Go 9 Z (Cn Z h (λ_ h=>?_) (λ_ h=>?_))
 .exact au h
 refine Gc 6 Z (Cz [] h Kc Z λr3 aa h=>Go 9 Z (Cn Z h (λ_ h=>?_) (λ_ h=>?_)))
 .exact au h
 refine Gc 5 Z (Bd h λE W h=>Cg E [0,1,2,3] [2,4,5,7,8] (λE=>[(24,.b E)]) Ze Zf ?_ ?_)
 .exact au W
 refine Cn Z h (λ_ h=>?_) (λ_ h=>?_)
 .exact au h
 refine Gc 7 Z (Cn Z h (λ_ h=>?_) (λ_ h=>?_))
 .exact au h
 refine Gc 8 Z (Bd h λj O h=>Iz O Z (Go 11 Z (Cz [] h Kc Z λab X h=>Go 3 Z (Cn Z h (λ_ h=>?_) (λ_ h=>?_)))))
 .exact au h
 refine Gc 10 Z ?_;obtain⟨d,Q,h⟩:=Qw h;obtain⟨J,t,h⟩:=Qw h;obtain⟨F,x,h⟩:=Qw h;obtain⟨g,R,h⟩:=Qw h;obtain⟨L,y,h⟩:=Qw h;obtain⟨G,B,h⟩:=Qw h;refine Yx 34 0 [79,80,81,82,83,84,85,86,87,88,89,90,91,92,93,94,95,96,97,98,99,100,101,102,103,104,105,106,107,108,109,110,111,112] [AD,AD,AD,AD,AD,AD,AE,AD,AD,AD,AD,AD,AD,AD,AD,AD,AD,AD,AD,AD,AD,AD,AD,AE,AD,AD,AD,AD,AD,AD,AD,AD,AD,AD] [[],[],[],[],[],[],[],[6],[6],[],[],[],[],[],[],[],[6],[],[],[],[],[],[],[6],[6,23],[6,23],[],[],[],[],[],[],[],[6,23]] [[],[6],[6,23]] [[(0,0),(1,1),(2,2)],[(0,0),(1,1),(2,2)],[(0,0)],[(0,0)],[(0,0)],[(0,0)],[(0,1)],[(1,1),(2,2)],[(1,1),(2,2)],[(0,0),(1,1),(2,2)],[(0,0),(1,1),(2,2)],[(0,0),(1,1),(2,2)],[(0,0),(1,1),(2,2)],[(0,0),(1,1),(2,2)],[(0,0),(1,1),(2,2)],[(0,0),(1,1),(2,2)],[(1,1),(2,2)],[(0,0),(1,1),(2,2)],[(0,0),(1,1),(2,2)],[(0,0),(1,1)],[(0,0),(1,1)],[(0,0),(1,1)],[(0,0),(1,1)],[(1,2)],[(2,2)],[(2,2)],[(0,0),(1,1),(2,2)],[(0,0),(1,1),(2,2)],[(0,0),(1,1),(2,2)],[(0,0),(1,1),(2,2)],[(0,0),(1,1),(2,2)],[(0,0),(1,1),(2,2)],[(0,0),(1,1),(2,2)],[(2,2)]] [.p 2 0,I f.Lo,.a (CA.c m),.a (CC.c j),.p 2 0,I f.Lo,.a [I d.Lo,I d.Hi],I d.Lo,I (i64.wrap (f.Lo+d.Lo)),.p 1 1,.q 1 (map (Qu 1 eI) q.BP),I (i64.wrap (H+1)),.rp [.q 1 (map eI J)],.q 1 (map eI J),.rp [I F],I F,I (i64.wrap ((i64.wrap (f.Lo+d.Lo))-F)),.p 2 1,I f.Hi,.a (CA.c m),.a (CC.c j),.p 2 1,I f.Hi,.a [I g.Lo,I g.Hi],I g.Hi,I (i64.wrap (f.Hi+g.Hi)),.p 1 1,.q 1 (map (Qu 1 eI) q.BP),.rp [.q 1 (map eI L)],.q 1 (map eI L),I (i64.wrap (H+1)),.rp [I G],I G,I (i64.wrap ((i64.wrap (f.Hi+g.Hi))+G))] [[.c 33 (CA.c m),.c 39 (CD.c q),.c 83 [I f.Lo,I f.Hi],.c 83 [I 0,I 0],.c 209 (CC.c j)],[.c 33 (CA.c m),.c 39 (CD.c q),.c 83 [I f.Lo,I f.Hi],.c 83 [I 0,I 0],.c 209 (CC.c j),.c 83 [I d.Lo,I d.Hi]],[.c 33 (CA.c m),.c 39 (CD.c q),.c 83 [I f.Lo,I f.Hi],.c 83 [I 0,I 0],.c 209 (CC.c j),.c 83 [I d.Lo,I d.Hi],.c 83 [I g.Lo,I g.Hi]]] ([.c 33 (CA.c m),.c 39 (CD.c q),.c 83 [I f.Lo,I f.Hi],.c 83 [I 0,I 0],.c 209 (CC.c j),.c 83 [I d.Lo,I d.Hi],.c 83 [I g.Lo,I g.Hi]]) DD Z Z Z Z Z Z Z ?_ Z ?_
 .refine M1 (M1 (M1 (M1 (M1 (M1 (Co.cons ?_ (Co.cons ?_ (Co.cons ?_ (M1 (M1 (M1 (Co.cons ?_ (M1 (Co.cons ?_ (M1 (Co.cons ?_ (M1 (M1 (M1 (M1 (M1 (M1 (Co.cons ?_ (Co.cons ?_ (Co.cons ?_ (M1 (M1 (Co.cons ?_ (M1 (M1 (Co.cons ?_ (M1 (Co.cons ?_ (Co.nil))))))))))))))))))))))))))))))))))
  .refine Qb ?_ (Qg)
   .refine F7 Z (sD 2 (sD 3 (sD 5 sN))) ?_;refine Qf [] (C6.fn call165 Z Z Z) ((bI _ _ _ _).c _ Q) ?_;rintro _ _ ⟨rfl,rfl⟩;exact FE Z Wp
  .refine Qb ?_ (Qb ?_ (Qg))
   iterate 2 refine Om Z (sD 6 sN) ?_;refine vX (I d.Lo) (vD Qlj Gr Z EF) ?_;exact Wp
  .refine Qb ?_ (Qb ?_ (Qg))
   iterate 2 refine Om Z (sD 1 (sD 7 sN)) ?_;exact S Z Wp
  .refine Qb ?_ (Qb ?_ (Qb ?_ (Qg)))
   iterate 3 refine Om Z (sD 10 (sD 11 sN)) ?_;exact Ix t EI EP Z Wp
  .refine Qb ?_ (Qb ?_ (Qb ?_ (Qg)))
   iterate 3 refine Om Z (sD 13 sN) ?_;exact Ix x EB EC Z Wp
  .refine Qb ?_ (Qb ?_ (Qg))
   iterate 2 refine Om Z (sD 8 (sD 15 sN)) ?_;exact S Z Wp
  .refine Qb ?_ (Qg)
   .refine F7 Z (sD 19 (sD 20 (sD 22 sN))) ?_;refine Qf [] (C6.fn call165 Z Z Z) ((bI _ _ _ _).c _ R) ?_;rintro _ _ ⟨rfl,rfl⟩;exact FE Z Wp
  .refine Qb ?_ (Qg)
   .refine Om Z (sD 23 sN) ?_;refine vX (I g.Hi) (vD QqF Gr Z EF) ?_;exact Wp
  .refine Qb ?_ (Qg)
   .refine Om Z (sD 18 (sD 24 sN)) ?_;exact S Z Wp
  .refine Qb ?_ (Qb ?_ (Qb ?_ (Qg)))
   iterate 3 refine Om Z (sD 27 sN) ?_;exact Ix y EI EP Z Wp
  .refine Qb ?_ (Qb ?_ (Qb ?_ (Qg)))
   iterate 3 refine Om Z (sD 29 (sD 30 sN)) ?_;exact Ix B EB EC Z Wp
  .refine Qb ?_ (Qg)
   .refine Om Z (sD 25 (sD 32 sN)) ?_;exact S Z Wp
 exact au h
def Mb(n:Nat)(d:CJ)(f:CJ):AB Unit:=AC ()
instance y6(d:CJ)(f:CJ):Ks (Mb n d f) 97 [.a [I d.Lo,I d.Hi],.a [I f.Lo,I f.Hi]] [] (λ_=>.b (AG ((if d.Lo<f.Lo then f.Lo else d.Lo)<=(if f.Hi<d.Hi then f.Hi else d.Hi)))):=by
 refine Kg 13 func97 Z Z Z Z λr h=>(vV (CS.max Z Z Z Z) ?_);refine Go 4 Z (vV (CS.min Z Z Z Z) ?_);exact Gt 5 Z h 4 []
def Ow(h:Int)(j:Int)(t:CA)(x:CD)(F:CA)(G:CD)(H:AA Int)(J:AA CJ)(y:AA CL)(m:AA Ue)(E:Int)(g:AA (Int×Ue)):AB Bool:=AH (AC (Qn g j ({Ah:=0,A9:={Lo:=0,Hi:=0:CJ}:Ue}))) λf=>(bif (!(JP g j))then AC AE else AH (CI y h) λq=>AH (CI m h) λB=>AH (Mr n t x B.Ah ({Lo:=q.BQ,Hi:=q.A7:CJ})) λd=>AH (Mb n ({Lo:=d.1.Lo,Hi:=d.1.Hi:CJ}) f.A9) λL=>AC (AG ((if d.1.Lo<f.A9.Lo then f.A9.Lo else d.1.Lo)<=(if f.A9.Hi<d.1.Hi then f.A9.Hi else d.1.Hi))))
instance xq(O:Int)(L:Int)(q:CA)(t:CD)(y:CA)(B:CD)(E:AA Int)(F:AA CJ)(G:AA CL)(g:AA Ue)(j:Int)(f:AA (Int×Ue)):Ks (Ow n O L q t y B E F G g j f) 95 [I O,I L,.p 0 0,.p 1 0,.p 2 0] [.c 128 [.p 3 0],.c 33 (CA.c q),.c 39 (CD.c t),.c 136 (match_task.tc y B E F G g (.map 4) (.fn (.func 95) [] [.p 0 0,.p 1 0,.p 2 0]) j),.map (Qo I (λx=>A.a (Ue.c x)) f)] (λr=>.b r):=by
 refine Kg 12 func95 Z Z Z Z λr h=>Bd h λH P h=>?_;refine vX (.t [.a (Ue.c H),.b (JP f L)]) (nA (ev:=(λx=>A.a (Ue.c x))) (z0:=({Ah:=0,A9:={Lo:=0,Hi:=0:CJ}:Ue})) (k:=L) (l:=f) YN P Gw Gs (Fu Z)) ?_;refine Go 15 Z (Cn Z h (λ_ h=>?_) (λ_ h=>?_))
 .exact au h
 refine Gc 9 Z (Bd h λm R h=>Iz R Z (Go 6 Z ?_));obtain⟨J,M,h⟩:=Qw h;obtain⟨d,N,h⟩:=Qw h;refine Yx 21 1 [32,33,34,35,36,37,38,39,40,41,42,43,44,45,46,47,31,48,49,11,1000020] [AD,AD,AD,AD,AD,AD,AD,AD,AD,AD,AD,AD,AD,AD,AD,AE,AD,AD,AD,AE,AE] [[],[],[],[],[],[],[],[],[],[],[],[],[],[],[],[],[15],[15],[15],[],[15,19]] [[],[15],[19],[15,19],[15,19,20]] [[(0,0),(2,2)],[(0,0),(2,2)],[(0,0),(2,2)],[(0,0),(2,2)],[(0,0),(2,2)],[(0,0),(2,2)],[(0,0),(2,2)],[(0,0),(2,2)],[(0,0),(2,2)],[(0,0),(2,2)],[(0,0),(2,2)],[(0,0),(2,2)],[(0,0),(2,2)],[(0,0),(2,2)],[(0,0),(2,2)],[(0,1),(2,3)],[(1,1),(3,3)],[(1,1),(3,3)],[(1,1),(3,3),(4,4)],[(0,2),(1,3)],[(3,4)]] [.a (CA.c q),.a (CD.c t),.p 3 0,.p 3 0,.p 3 21,.q 3 (map Ue.c g),I O,.rp [I J.Ah,I J.A9.Lo,I J.A9.Hi],.rp [I J.Ah,I J.A9.Lo,I J.A9.Hi],I J.Ah,.p 6 3,I m.BQ,.p 6 4,I m.A7,.a [I m.BQ,I m.A7],.t [.a [I d.1.Lo,I d.1.Hi],I d.2],.t [.a [I d.1.Lo,I d.1.Hi],I d.2],.a [I d.1.Lo,I d.1.Hi],I d.2,.p 7 0,.any] [[.c 128 [.p 3 0],.c 33 (CA.c q),.c 39 (CD.c t),.c 136 (match_task.tc y B E F G g (.map 4) (.fn (.func 95) [] [.p 0 0,.p 1 0,.p 2 0]) j),.map (Qo I (λx=>A.a (Ue.c x)) f),.c 145 (Ue.c H),.c 139 (CL.c m),.dead],[.c 128 [.p 3 0],.c 33 (CA.c q),.c 39 (CD.c t),.c 136 (match_task.tc y B E F G g (.map 4) (.fn (.func 95) [] [.p 0 0,.p 1 0,.p 2 0]) j),.map (Qo I (λx=>A.a (Ue.c x)) f),.c 145 (Ue.c H),.c 139 (CL.c m),.dead,.c 83 [I d.1.Lo,I d.1.Hi]],[.c 128 [.p 3 0],.c 33 (CA.c q),.c 39 (CD.c t),.c 136 (match_task.tc y B E F G g (.map 4) (.fn (.func 95) [] [.p 0 0,.p 1 0,.p 2 0]) j),.map (Qo I (λx=>A.a (Ue.c x)) f),.c 145 (Ue.c H),.c 139 (CL.c m),.c 83 [I 0,I 0]],[.c 128 [.p 3 0],.c 33 (CA.c q),.c 39 (CD.c t),.c 136 (match_task.tc y B E F G g (.map 4) (.fn (.func 95) [] [.p 0 0,.p 1 0,.p 2 0]) j),.map (Qo I (λx=>A.a (Ue.c x)) f),.c 145 (Ue.c H),.c 139 (CL.c m),.c 83 [I 0,I 0],.c 83 [I d.1.Lo,I d.1.Hi]],[.c 128 [.p 3 0],.c 33 (CA.c q),.c 39 (CD.c t),.c 136 (match_task.tc y B E F G g (.map 4) (.fn (.func 95) [] [.p 0 0,.p 1 0,.p 2 0]) j),.map (Qo I (λx=>A.a (Ue.c x)) f),.c 145 (Ue.c H),.c 139 (CL.c m),.c 83 [I d.1.Lo,I d.1.Hi],.c 83 [I d.1.Lo,I d.1.Hi]]] ([.c 128 [.p 3 0],.c 33 (CA.c q),.c 39 (CD.c t),.c 136 (match_task.tc y B E F G g (.map 4) (.fn (.func 95) [] [.p 0 0,.p 1 0,.p 2 0]) j),.map (Qo I (λx=>A.a (Ue.c x)) f),.c 145 (Ue.c H),.c 139 (CL.c m),.c 83 [I d.1.Lo,I d.1.Hi],.c 83 [I d.1.Lo,I d.1.Hi]]) DD Z Z Z Z Z Z Z ?_ Z ?_
 .refine M1 (M1 (M1 (Co.cons ?_ (M1 (M1 (M1 (Co.cons ?_ (M1 (M1 (M1 (M1 (M1 (M1 (M1 (Co.cons ?_ (M1 (M1 (M1 (Co.cons ?_ (Co.cons ?_ (Co.nil)))))))))))))))))))))
  .refine Qb ?_ (Qb ?_ (Qg))
   iterate 2 refine Om Z (sD 2 sN) ?_;exact S Z Wp
  .refine Qb ?_ (Qb ?_ (Qg))
   iterate 2 refine Om Z (sD 5 (sD 6 sN)) ?_;exact Ix M Gz G1 Z Wp
  .refine Qb ?_ (Qb ?_ (Qg))
   iterate 2 refine F7 Z (sD 0 (sD 1 (sD 9 (sD 14 sN)))) ?_;refine Qf [] (C6.fn call96 Z Z Z) ((j3 _ _ _ _ _).c _ N) ?_;rintro _ _ ⟨rfl,rfl⟩;exact FE Z Wp
  .refine Qb ?_ (Qb ?_ (Qg))
   iterate 2 exact Jn.alloc _ 11 83 7 _ Z Z Z Z Z Z Z (I5.alloc (v:=(.a [I 0,I 0])) EK (Fu Z)) Z
  .refine Qb ?_ (Qg)
   .refine S9 Z (sD 19 (sD 17 sN)) ?_;refine vU (Ey Z Z Z Ge Z Z Z Z Z Z Z) ?_;exact FE Z Wp
 exact au h
def J6(n:Nat)(f:Int)(g:Int)(B:CA)(E:CD)(F:AA Int)(d:AA CJ)(G:AA CL)(H:AA Ue)(J:Int)(t:AA (Int×Ue))(x:CA)(y:CD):AB CJ:=AH (CI d g) λh=>AH (CI d f) λj=>AH (CI d g) λm=>AH (CI d f) λq=>AC ({Lo:=(if i64.wrap (h.Lo-j.Lo)<2199023255552 then i64.wrap (h.Lo-j.Lo)else 2199023255552),Hi:=(if i64.wrap (m.Hi-q.Hi)<2199023255552 then i64.wrap (m.Hi-q.Hi)else 2199023255552):CJ})
instance j5(F:Int)(G:Int)(j:CA)(m:CD)(q:AA Int)(t:AA CJ)(y:AA CL)(B:AA Ue)(E:Int)(d:AA (Int×Ue))(f:CA)(g:CD):Kq (J6 n F G j m q t y B E d f g) 168 (oO 0 0 F G) [.c 136 (match_task.tc j m q t y B (.map 1) (.fn (.func 95) [] [.p 2 0,.p 3 0,.p 4 0]) E),.map (Qo I (λx=>A.a (Ue.c x)) d),.c 128 [.p 0 0],.c 33 (CA.c f),.c 39 (CD.c g)] (λr=>.a [I r.Lo,I r.Hi]) (λr=>[.c 136 (match_task.tc j m q t y B (.map 1) (.fn (.func 95) [] [.p 2 0,.p 3 0,.p 4 0]) E),.map (Qo I (λx=>A.a (Ue.c x)) d),.c 128 [.p 0 0],.c 33 (CA.c f),.c 39 (CD.c g),.c 83 [I r.Lo,I r.Hi]]):=by
 refine Kg 6 func168 Z Z Z Z λr h=>DP 36 Z (D 5 Z ?_);obtain⟨H,J,h⟩:=Qw h;refine DS.wo (x:=.rp [I H.Lo,I H.Hi]) ?_ ?_
 .exact Ix J E8 Ge Z Wp
 refine D 7 Z ?_;obtain⟨L,M,h⟩:=Qw h;refine DS.wo (x:=.rp [I L.Lo,I L.Hi]) ?_ ?_
 .exact Ix M E8 Ge Z Wp
 refine D 3 Z ?_;refine DS.v (CS.min Z Z Z Z) ?_;refine D 5 Z ?_;obtain⟨N,O,h⟩:=Qw h;refine DS.wo (x:=.rp [I N.Lo,I N.Hi]) ?_ ?_
 .exact Ix O E8 Ge Z Wp
 refine D 7 Z ?_;obtain⟨P,Q,h⟩:=Qw h;refine DS.wo (x:=.rp [I P.Lo,I P.Hi]) ?_ ?_
 .exact Ix Q E8 Ge Z Wp
 refine D 3 Z ?_;refine DS.v (CS.min Z Z Z Z) ?_;exact au h
def K6(f:Ue)(G:Int)(g:Ue)(H:Int)(J:CA)(j:CD)(L:AA Int)(M:AA CJ)(N:AA CL)(m:AA Ue)(q:Int)(t:AA (Int×Ue))(x:CA)(y:CD):AB Bool:=AH ((bif ((i64.wrap (f.Ah+1)) != (i64.wrap (g.Ah+1)))then AH (CI j.BP (i64.wrap (g.Ah+1))) λO=>AH (CI O (i64.wrap (f.Ah+1))) λB=>AH (CI j.BP (i64.wrap (f.Ah+1))) λE=>AH (CI E (i64.wrap (g.Ah+1))) λF=>AC ({Lo:=i64.wrap ((i64.wrap (g.A9.Lo-f.A9.Hi))-B),Hi:=i64.wrap ((i64.wrap (g.A9.Hi-f.A9.Lo))+F):CJ})else AC ({Lo:=i64.wrap (g.A9.Lo-f.A9.Hi),Hi:=i64.wrap (g.A9.Hi-f.A9.Lo):CJ})):AB CJ) λh=>AH (J6 n G H J j L M N m q t x y) λd=>AH (Mb n ({Lo:=h.Lo,Hi:=h.Hi:CJ}) ({Lo:=d.Lo,Hi:=d.Hi:CJ})) λP=>AC (AG ((if h.Lo<d.Lo then d.Lo else h.Lo)<=(if d.Hi<h.Hi then d.Hi else h.Hi)))
instance zQ(d:Ue)(V:Int)(f:Ue)(W:Int)(H:CA)(B:CD)(J:AA Int)(L:AA CJ)(M:AA CL)(j:AA Ue)(m:Int)(q:AA (Int×Ue))(t:CA)(y:CD):Ks (K6 n d V f W H B J L M j m q t y) 102 [.p 0 0,.a (Ue.c d),I V,.a (Ue.c f),I W] [.c 136 (match_task.tc H B J L M j (.map 1) (.fn (.func 95) [] [.p 2 0,.p 3 0,.p 4 0]) m),.map (Qo I (λx=>A.a (Ue.c x)) q),.c 128 [.p 0 0],.c 33 (CA.c t),.c 39 (CD.c y)] (λr=>.b r):=by
 refine Kg 30 func102 Z Z Z Z λr h=>DP 7 Z (D 7 Z (Eg Z (Go 10 Z (Bd h λE g h=>?_))));refine Cg E [0,1,2,3,4,7] [0,2,4,11] Ze (λE=>[(5,.c 83 [I E.Lo,I E.Hi])]) Zf ?_ ?_
 .refine G0 0 Z (Cn Z g (λ_ g=>?_) (λ_ g=>?_))
  .obtain⟨Y,aa,g⟩:=Qw g;obtain⟨F,R,g⟩:=Qw g;obtain⟨Q,N,g⟩:=Qw g;obtain⟨O,P,g⟩:=Qw g;refine Yx 30 0 [38,39,40,41,42,43,44,45,46,47,48,49,50,51,52,53,54,55,56,57,58,59,60,61,62,63,64,65,66,1000029] [AD,AD,AD,AD,AD,AD,AD,AD,AD,AD,AD,AD,AD,AD,AD,AD,AD,AD,AD,AD,AD,AD,AD,AD,AD,AD,AD,AD,AD,AE] [[],[],[],[],[],[],[],[],[],[],[],[],[],[],[],[],[],[],[],[],[],[],[],[],[],[],[],[],[],[]] [[],[29]] [[(0,0)],[(0,0)],[(0,0)],[(0,0)],[(0,0)],[(0,0)],[(0,0)],[(0,0)],[(0,0)],[(0,0)],[(0,0)],[(0,0)],[(0,0)],[(0,0)],[(0,0)],[(0,0)],[(0,0),(1,1)],[(0,0),(1,1)],[(0,0),(1,1)],[(0,0),(1,1)],[(0,0),(1,1)],[(0,0),(1,1)],[(0,0),(1,1)],[(0,0),(1,1)],[(0,0),(1,1)],[(0,0),(1,1)],[(0,0),(1,1)],[(0,0),(1,1)],[(0,0)],[(0,1)]] [.p 7 0,I (i64.wrap (f.A9.Lo-d.A9.Hi)),.p 0 0,.p 0 0,.p 0 16,.p 0 17,.q 1 (map (Qu 1 eI) B.BP),I (i64.wrap (f.Ah+1)),.rp [.q 1 (map eI Y)],.q 1 (map eI Y),I (i64.wrap (d.Ah+1)),.rp [I F],I F,I (i64.wrap ((i64.wrap (f.A9.Lo-d.A9.Hi))-F)),.p 7 1,I (i64.wrap (f.A9.Hi-d.A9.Lo)),.p 0 0,.p 0 0,.p 0 16,.p 0 17,.q 1 (map (Qu 1 eI) B.BP),I (i64.wrap (d.Ah+1)),.rp [.q 1 (map eI Q)],.q 1 (map eI Q),I (i64.wrap (f.Ah+1)),.rp [I O],I O,I (i64.wrap ((i64.wrap (f.A9.Hi-d.A9.Lo))+O)),.p 7 0,.any] [[.c 136 (match_task.tc H B J L M j (.map 1) (.fn (.func 95) [] [.p 2 0,.p 3 0,.p 4 0]) m),.map (Qo I (λx=>A.a (Ue.c x)) q),.c 128 [.p 0 0],.c 33 (CA.c t),.c 39 (CD.c y),.c 145 (Ue.c d),.c 145 (Ue.c f),.c 83 [I (i64.wrap (f.A9.Lo-d.A9.Hi)),I (i64.wrap (f.A9.Hi-d.A9.Lo))]],[.c 136 (match_task.tc H B J L M j (.map 1) (.fn (.func 95) [] [.p 2 0,.p 3 0,.p 4 0]) m),.map (Qo I (λx=>A.a (Ue.c x)) q),.c 128 [.p 0 0],.c 33 (CA.c t),.c 39 (CD.c y),.c 145 (Ue.c d),.c 145 (Ue.c f),.c 83 [I (i64.wrap ((i64.wrap (f.A9.Lo-d.A9.Hi))-F)),I (i64.wrap (f.A9.Hi-d.A9.Lo))]]] ([.c 136 (match_task.tc H B J L M j (.map 1) (.fn (.func 95) [] [.p 2 0,.p 3 0,.p 4 0]) m),.map (Qo I (λx=>A.a (Ue.c x)) q),.c 128 [.p 0 0],.c 33 (CA.c t),.c 39 (CD.c y),.c 145 (Ue.c d),.c 145 (Ue.c f),.c 83 [I (i64.wrap ((i64.wrap (f.A9.Lo-d.A9.Hi))-F)),I (i64.wrap (f.A9.Hi-d.A9.Lo))]]) DD Z Z Z Z Z Z Z ?_ Z ?_
   .refine M1 (M1 (M1 (Co.cons ?_ (M1 (M1 (M1 (M1 (Co.cons ?_ (M1 (M1 (Co.cons ?_ (M1 (Co.cons ?_ (M1 (M1 (M1 (Co.cons ?_ (M1 (M1 (M1 (M1 (Co.cons ?_ (M1 (M1 (Co.cons ?_ (M1 (Co.cons ?_ (M1 (Co.cons ?_ (Co.nil))))))))))))))))))))))))))))))
    .refine Qb ?_ (Qg)
     .refine Om Z (sD 2 sN) ?_;exact S Z Wp
    .refine Qb ?_ (Qg)
     .refine Om Z (sD 6 (sD 7 sN)) ?_;exact Ix aa EI EP Z Wp
    .refine Qb ?_ (Qg)
     .refine Om Z (sD 9 (sD 10 sN)) ?_;exact Ix R EB EC Z Wp
    .refine Qb ?_ (Qg)
     .refine Om Z (sD 1 (sD 12 sN)) ?_;exact S Z Wp
    .refine Qb ?_ (Qb ?_ (Qg))
     iterate 2 refine Om Z (sD 16 sN) ?_;exact S Z Wp
    .refine Qb ?_ (Qb ?_ (Qg))
     iterate 2 refine Om Z (sD 20 (sD 21 sN)) ?_;exact Ix N EI EP Z Wp
    .refine Qb ?_ (Qb ?_ (Qg))
     iterate 2 refine Om Z (sD 23 (sD 24 sN)) ?_;exact Ix P EB EC Z Wp
    .refine Qb ?_ (Qb ?_ (Qg))
     iterate 2 refine Om Z (sD 15 (sD 26 sN)) ?_;exact S Z Wp
    .refine Qb ?_ (Qg)
     .refine S9 Z (sD 13 (sD 28 sN)) ?_;refine vU (Ey Z Z Z EC Z Z Z Z Z Z Z) ?_;exact FE Z Wp
   exact au g
  exact au g
 refine Gc 1 Z (HY 5 [4] [(0,0,1),(0,0,0),(0,0,0),(0,0,0),(1,0,0)] (by kernel_rfl) ?_);refine KG (lo:=0) (x:=.a [I E.Lo,I E.Hi]) ⟨Z,trivial⟩ ?_;refine Dk 3 Z ?_;obtain⟨G,T,h⟩:=Qw h;refine Ex (x:=.a [I G.Lo,I G.Hi]) (X1:=[.c 136 (match_task.tc H B J L M j (.map 1) (.fn (.func 95) [] [.p 2 0,.p 3 0,.p 4 0]) m),.map (Qo I (λx=>A.a (Ue.c x)) q),.c 128 [.p 0 0],.c 33 (CA.c t),.c 39 (CD.c y),.c 83 [I E.Lo,I E.Hi],.c 83 [I G.Lo,I G.Hi]]) ?_ ?_
 .refine Qf [0,1,2,3,4] (C6.fn call168 Z Z Z) ((j5 _ _ _ _ _ _ _ _ _ _ _ _ _).c _ T) ?_;rintro _ _ ⟨rfl,rfl⟩;exact FE Z Wp
 exact DK.done Z Z (Cz [] h Kc Z λac ab h=>Gt 4 Z h 10 [0,1,2,3,4])
def Kx(d:Uh)(m:Int)(G:Int)(q:CA)(t:CD)(x:AA Int)(y:AA CJ)(B:AA CL)(E:AA Ue)(f:Int)(g:AA (Int×Ue))(h:CA)(j:CD):AB (Uh×Bool):=AH (Ib n m G q t x y B E f g h j) λF=>(bif (!F.2)then AC ({d with row:=i64.wrap (d.row+1):Uh},AG ((i64.wrap (d.row+1))<=q.AQ.A8))else AH ((bif 0<=G then AH (Ow n G m h j q t x y B E f g) λH=>(bif (!H)then AC AE else(bif 0<=d.Bm then AH (K6 n d.Bv d.Bm F.1 m q t x y B E f g h j) λJ=>AC (!J)else AC AD))else(bif 0<=d.Bm then AH (K6 n d.Bv d.Bm F.1 m q t x y B E f g h j) λL=>AC (!L)else AC AD)):AB Bool) λM=>(bif M then AC (d,AD)else AC ({Bm:=m,Bv:=F.1,row:=0:Uh},AE)))
instance zJ(d:Uh)(G:Int)(J:Int)(q:CA)(t:CD)(y:AA Int)(B:AA CJ)(E:AA CL)(F:AA Ue)(f:Int)(g:AA (Int×Ue))(j:CA)(m:CD):Kq (Kx n d G J q t y B E F f g j m) 41 [.p 0 0,.a (Uh.c d),I G,I J] [.c 136 (match_task.tc q t y B E F (.map 1) (.fn (.func 95) [] [.p 2 0,.p 3 0,.p 4 0]) f),.map (Qo I (λx=>A.a (Ue.c x)) g),.c 128 [.p 0 0],.c 33 (CA.c j),.c 39 (CD.c m)] (λr=>.t [.a (Uh.c r.1),.b r.2]) (λr=>[.c 136 (match_task.tc q t y B E F (.map 1) (.fn (.func 95) [] [.p 2 0,.p 3 0,.p 4 0]) f),.map (Qo I (λx=>A.a (Ue.c x)) g),.c 128 [.p 0 0],.c 33 (CA.c j),.c 39 (CD.c m),.c 147 (Uh.c r.1)]):=by
 refine Kg 12 func41 Z Z Z Z λr h=>Cd [0,1,2,3,4] h Kc Z λL N h=>Fg 15 Z Z (Cn Z h (λ_ h=>?_) (λ_ h=>?_))
 .refine Gc 10 Z (HY 11 [10] [(0,0,0),(0,0,1),(0,0,1),(0,0,1),(0,0,1),(0,0,1),(0,0,1),(0,0,1),(0,0,1),(0,0,1),(1,0,0)] (by kernel_rfl) (Dk 2 Z ?_));refine KG (lo:=0) (x:=I (i64.wrap (d.row+1))) ⟨Z,trivial⟩ ?_;refine Dk 5 Z ?_;refine KG (lo:=0) (x:=I q.AQ.A8) ⟨Z,trivial⟩ ?_;refine Dk 1 Z ?_;refine DK.un (X1:=[.c 136 (match_task.tc q t y B E F (.map 1) (.fn (.func 95) [] [.p 2 0,.p 3 0,.p 4 0]) f),.map (Qo I (λx=>A.a (Ue.c x)) g),.c 128 [.p 0 0],.c 33 (CA.c j),.c 39 (CD.c m),.c 147 (Uh.c ({d with row:=i64.wrap (d.row+1):Uh})),.c 147 (Uh.c ({d with row:=i64.wrap (d.row+1):Uh})),.c 145 (Ue.c L.1),.c 145 (Ue.c L.1)]) ?_ ?_
  .refine vU (Ey Z Z Z sizeOf147 Z Z Z Z Z Z Z) ?_;refine Nx (H:=[_,_,_,_,_,_,.c 147 (Uh.c ({d with row:=i64.wrap (d.row+1):Uh})),_,_]) Z ?_;exact Wp
  refine DK.done Z Z (Go 5 Z ?_);exact au h
 exact au h
end Go.Sw
