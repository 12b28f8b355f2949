/- What the functions compute that OutcomeGun reaches, and that their calls refine it (part 2 of 6). -/
import Derived.Test.YtbiglpikpigidaaGreatW23Gu1
set_option linter.unusedVariables false
set_option linter.unusedSimpArgs false
set_option maxRecDepth 100000
set_option maxHeartbeats 4000000
namespace Go.Sw
open Option renaming some→AC,none→AF,bind→AH
open Bool renaming false→AD,true→AE
open Decidable renaming decide→AG
open List renaming length→AI
variable (n:Nat)
open List(map)
open Int(toNat)
open Go.IntKind(i64 u64 u8)
open Go.Proofs Tryz
def Mi(d:AA Int):AB Bool:=AH (WB n d) λf=>AC (AG (0<=f))
instance zB(d:AA Int):Ks (Mi n d) 121 [.q 1 (map eI d),.f 122] [] (λr=>.b r):=KA func121
def OR(g:CE)(f:Int):AB (CG Int (CG Unit Int)):=(bif f<(AI g.AS:Int) then AH (CJ g.AS f) λd=>AH ((bif d.Al<0 then AC AE else(bif 40<=d.Al then AC AE else(bif d.Ah<0 then AC AE else(bif 255<d.Ah then AC AE else AH (IS n d.BI) λh=>(bif (!h)then AC AE else(bif 0<f then AH (CJ g.AS (i64.wrap (f-1))) λj=>AH (Mk n j d) λm=>AC (AG (0<=m))else AC AD)))))):AB Bool) λq=>(bif q then AC (.d (.d 160))else AC (.k (i64.wrap (f+1))))else AC (.d (.k ())))
def OC(g:CE)(d:Int):AB (CG Int (CG Unit Int)):=(bif d<(AI g.BP:Int) then AH (CJ g.BP d) λf=>AH ((bif ((AI f:Int) != (i64.wrap ((AI g.AS:Int)+1)))then AC AE else AH (CJ f d) λh=>(bif (h != 0)then AC AE else AH (Mi n f) λj=>AC j)):AB Bool) λm=>(bif m then AC (.d (.d 160))else AC (.k (i64.wrap (d+1))))else AC (.d (.k ())))
def VW(n:Nat)(t:CE)(g:Int)(h:Int)(f:AA Int)(d:Int):AB (CG Int (CG Unit (CG Int (CG Unit (CG Int (CG Unit Int)))))):=(bif d<(AI f:Int) then AH (CJ f d) λj=>AH (CJ t.BP g) λm=>AH (CJ m d) λq=>(bif (i64.wrap (h+j))<q then AC (.d (.d (.d (.d (.d (.d 160))))))else AC (.k (i64.wrap (d+1))))else AC (.d (.k ())))
def TU(t:CE)(h:Int)(g:AA Int)(d:Int):AB (CG Int (CG Unit (CG Int (CG Unit Int)))):=(bif d<(AI g:Int) then AH (CJ g d) λj=>AH (CJ t.BP d) λm=>AH (iter (VW n t h j m) n 0:AB (CG Unit (CG Int (CG Unit (CG Int (CG Unit Int)))))) λq=>match q with|.k f=>(AC (.k (i64.wrap (d+1))))|.d f=>AC f else AC (.d (.k ())))
def OD(g:CE)(d:Int):AB (CG Int (CG Unit Int)):=(bif d<(i64.wrap ((AI g.AS:Int)+1)) then AH (CJ g.BP d) λh=>AH (iter (TU n g d h) n 0:AB (CG Unit (CG Int (CG Unit Int)))) λj=>match j with|.k f=>(AC (.k (i64.wrap (d+1))))|.d f=>AC f else AC (.d (.k ())))
def J5(g:CE):AB Int:=AH ((bif 511<(AI g.AS:Int) then AC AE else AC ((AI g.BP:Int) != (i64.wrap ((AI g.AS:Int)+1)))):AB Bool) λt=>(bif t then AC 160 else AH (iter (OR n g) n 0:AB (CG Unit Int)) λq=>match q with|.k h=>(AH (iter (OC n g) n 0:AB (CG Unit Int)) λj=>match j with|.k d=>(AH (iter (OD n g) n 0:AB (CG Unit Int)) λm=>match m with|.k f=>(AC 0)|.d f=>AC f)|.d d=>AC d)|.d h=>AC h)
instance zQ(a1:CE):Ks (J5 n a1) 63 [.a (CE.c a1)] [] (λr=>I r):=by
 refine Kg 10 func63 Z Z Z Z λr h=>Lg 5 Z Z (Bd h λb2 h3 h=>Ct b2 [0] [1,3] (λb2=>[(25,.b b2)]) Ze Zf ?_ (λenv H q=>?_))
 .exact au h3
 refine Gx 1 Z (Ee q (Cn Z h (λ_ h=>?_) (λ_ h=>?_)))
 .exact au h
 refine Gc 7 Z (Lg 3 Z Z (Bd h λbc bd h=>Fe (b:=bc) [0] [1,3] Ze Ze Zf ?_ (λbj env H t q=>?_)))
 .refine G0 1 Z (Lp [0] [1,3,27,28] (λad=>[(29,I ad)]) Ze bd Zf (Lr [0]) λad bw m G=>?_);refine G0 6 Z (Q8 Z m (λ_ m=>?_) (λ_ m=>?_))
  .exact Je G m
  refine Gc 7 Z (Bd m λbx af m=>Iz af Z (Go 7 Z (Bd m λJ d m=>Ct J [0] [1,3,27,28,29] (λJ=>[(72,.b J)]) Ze Zf ?_ (λenv H q=>?_))))
  .refine G0 0 Z (DU 35 Z (D 4 Z (DS.is 3 d Z Z Z (λ_ d=>?_) (λ_ d=>?_))))
   .exact au d
   .refine D 5 Z (DS.is 8 d Z Z Z (λ_ d=>?_) (λ_ d=>?_))
    .exact au d
    .refine D 5 Z (DS.is 13 d Z Z Z (λ_ d=>?_) (λ_ d=>?_))
     .exact au d
     .refine D 5 Z (DS.is 18 d Z Z Z (λ_ d=>?_) (λ_ d=>?_))
      .exact au d
      .refine D 2 Z ?_;refine Dz [] d Kc Z λbz bk d=>D 3 Z (DS.is 24 d Z Z Z (λ_ d=>?_) (λ_ d=>?_))
       .exact au d
       .refine D 3 Z (DS.is 27 d Z Z Z (λ_ d=>?_) (λ_ d=>?_))
        .refine D 4 Z ?_;obtain⟨y,am,d⟩:=QE d;refine DS.v (x:=(.rp [I y.Al,I y.Ah,I y.BI])) (NB (e:=CD.c) (l:=a1.AS) (v:=y) am ES E6) ?_ (hg:=(gT Z));exact au d
        exact au d
  refine Gx 1 Z (Ee q (Cn Z m (λ_ m=>?_) (λ_ m=>?_)))
  .exact DX G m h
  exact au m
 subst t;refine Gx 1 Z (Ee q (Gc 5 Z (Lg 3 Z Z (Bd h λao aq h=>Fe (b:=ao) [0] [1,3] Ze Ze Zf ?_ (λbe env H t q=>?_)))))
 .refine G0 1 Z (Lp [0] [1,3,75,76] (λL=>[(77,I L)]) Ze aq Zf (Lr [0]) λL bl ar P=>?_);exact DX P ar h
 subst t;refine Gx 1 Z (Ee q (Gc 8 Z (Bd h λav aw h=>E_ (b:=av) [] [] Ze Ze Zf ?_ (λ_ t=>?_))))
 .refine G0 1 Z (Lp [0] [1,100] (λM=>[(101,I M)]) Ze aw Zf (Lr [0]) λM bm j B=>?_);refine G0 6 Z (Q8 Z j (λ_ j=>?_) (λ_ j=>?_))
  .exact Je B j
  refine Gc 15 Z (Bd j λbn R j=>Iz R Z (Go 1 Z (Lg 3 Z Z (Bd j λax ay j=>Fe (b:=ax) [0] [1,100,101] Ze Ze Zf ?_ (λbh env H t q=>?_)))))
  .refine G0 1 Z (Lp [0] [1,8,100,101,108,109] (λN=>[(110,I N)]) Ze ay Zf (Lr [0]) λN bo g E=>?_);refine G0 6 Z (Q8 Z g (λ_ g=>?_) (λ_ g=>?_))
   .exact Je E g
   refine Gc 7 Z (Bd g λbp V g=>Iz V Z (Go 10 Z (Bd g λbq W g=>Iz W Z (Go 1 Z (Lg 3 Z Z (Bd g λaz ba g=>Fe (b:=az) [0] [1,8,100,101,108,109,110] Ze Ze Zf ?_ (λbi env H t q=>?_)))))))
   .refine G0 1 Z (Lp [0] [1,8,10,100,101,108,109,110,119,120] (λO=>[(121,I O)]) Ze ba Zf (Lr [0]) λO br f F=>?_);refine G0 6 Z (Q8 Z f (λ_ f=>?_) (λ_ f=>?_))
    .exact Je F f
    refine Gc 7 Z (Bd f λbs Y f=>Iz Y Z (Go 10 Z (Bd f λbu aa f=>Iz aa Z (Go 2 Z (Bd f λbv ab f=>Iz ab Z (Go 7 Z (Cn Z f (λ_ f=>?_) (λ_ f=>?_))))))))
    .refine Gc 8 Z (JV f ?_);obtain rfl:=Oj F f;refine Gx 1 Z (N4 (Gx 2 Z (JV g ?_)));obtain rfl:=Oj E g;exact DX B j h
    exact au f
   subst t;exact Gx 2 Z (Ee q (Gc 4 Z (Q1 g (Lr [0]))))
  subst t;exact Gx 2 Z (Ee q (Gc 4 Z (Q1 j (Lr [0]))))
 subst t;exact au h
def Mg(n:Nat)(d:Int):AB Bool:=AH ((bif (-1099511627776)<=d then AC (AG (d<=1099511627776))else AC AD):AB Bool) λf=>AC f
instance y8(d:Int):Ks (Mg n d) 89 [I d] [] (λr=>.b r):=KA func89
def MV(d:Ae):AB Bool:=AH ((bif d.Hi<d.Lo then AC AE else AH (Mg n d.Lo) λg=>(bif (!g)then AC AE else AH (Mg n d.Hi) λf=>(bif (!f)then AC AE else AC (AG (d.AT<0))))):AB Bool) λh=>AC h
instance yq(d:Ae):Ks (MV n d) 88 [.a (Ae.c d)] [] (λr=>.b r):=KA func88
def nQ(f:AA Ae)(d:Int):AB (CG Int (CG Unit Int)):=(bif d<(AI f:Int) then AH (CJ f d) λg=>AH (MV n g) λh=>(bif h then AC (.d (.d d))else AC (.k (i64.wrap (d+1))))else AC (.d (.k ())))
def fW(g:AA Ae):AB Int:=AH (iter (nQ n g) n 0:AB (CG Unit Int)) λf=>match f with|.k d=>(AC (-1))|.d d=>AC d
instance wF(d:AA Ae):Ks (fW n d) 161 [.q 4 (map Ae.c d),.f 88] [] (λr=>I r):=KA func161
def ew(d:AA Ae):AB Bool:=AH (fW n d) λf=>AC (AG (0<=f))
instance vb(d:AA Ae):Ks (ew n d) 90 [.q 4 (map Ae.c d),.f 88] [] (λr=>.b r):=KA func90
def Ir(d:CB)(f:Int):AB (AN×Int):=AH (DZ n d) λg=>(bif (g != 0)then AC (Uu,g)else AH ((bif f<0 then AC AE else AC (AG ((AI d.AO:Int)<=f))):AB Bool) λh=>(bif h then AC (Uu,90)else AH (CJ d.AO f) λj=>AC (j,0)))
instance zi(d:CB)(f:Int):Kq (Ir n d f) 218 [.a (CB.c d),I f] [] (λr=>.t [.a (AN.c r.1),I r.2]) (λr=>[.c 66 (AN.c r.1)]):=KA func218
def ML(n:Nat)(rec142:(AA CH)->(AA Int)->AB (AA Int))(f:CH)(d:(AA Int)×Int):AB (CG ((AA Int)×Int) (AA Int)):=(bif d.2<f.Ax then AH (rec142 f.Ac d.1) λg=>AC (.k (g,i64.wrap (d.2+1)))else AC (.d d.1))
def OS(g:AA CH)(rec142:(AA CH)->(AA Int)->AB (AA Int))(d:(AA Int)×Int):AB (CG ((AA Int)×Int) (AA Int)):=(bif d.2<(AI g:Int) then AH (CJ g d.2) λf=>AH ((bif (f.Ax==0)then AH (app d.1 [f.Al]) λh=>AC h else AC d.1):AB (AA Int)) λj=>AH (iter (ML n rec142 f) n (j,0):AB (AA Int)) λm=>AC (.k (m,i64.wrap (d.2+1)))else AC (.d d.1))
def ik(rec142:(AA CH)->(AA Int)->AB (AA Int))(n:Nat)(f:AA CH)(g:AA Int):AB (AA Int):=AH (iter (OS n f rec142) n (g,0):AB (AA Int)) λd=>AC d
theorem Qbn(rec142:(AA CH)->(AA Int)->AB (AA Int))(T:∀(G:AA CH) (y:AA Int),Kq (rec142 G y) 278 [.q 3 (map CH.enc G),.p 0 0,.p 1 0] [.c 73 [.o 2 (AI y) 1],.c 411 [.fn (.func 278) [] [.p 0 0,.p 1 0]],.r 3 1 (map eI y)] (λ_=>.t []) (λr=>[.c 73 [.o 3 (AI r) 1],.c 411 [.fn (.func 278) [] [.p 0 0,.p 1 0]],.dead,.r 3 1 (map eI r)]))(n:Nat)(G:AA CH)(y:AA Int):Kq (ik rec142 n G y) 278 [.q 3 (map CH.enc G),.p 0 0,.p 1 0] [.c 73 [.o 2 (AI y) 1],.c 411 [.fn (.func 278) [] [.p 0 0,.p 1 0]],.r 3 1 (map eI y)] (λ_=>.t []) (λr=>[.c 73 [.o 3 (AI r) 1],.c 411 [.fn (.func 278) [] [.p 0 0,.p 1 0]],.dead,.r 3 1 (map eI r)]):=by
 refine Kg 3 func278 Z Z Z Z λr h=>Lg 3 Z Z (Bd h λB V h=>Ct B [0,1,2,0] [] Ze (λB=>[(0,.c 73 [.o 3 (AI B) 1]),(2,.dead),(3,.r 3 1 (map eI B))]) Zf ?_ (λenv H f=>?_))
 .refine G0 1 Z (Lp [0,1,2,2] [1,2,6,7] (λt=>[(8,I t.2)]) (λt=>[(0,.c 73 [.o 3 (AI t.1) 1]),(2,.dead),(3,.r 3 1 (map eI t.1))]) V Zf ?_ ?_)
  .refine En (Zt (i:=2) (j:=0) (m:=0) Z Z Z Z Z) ?_;exact Lr [0,1,2,3]
  intro t X d L;refine G0 6 Z (Q8 Z d (λ_ d=>?_) (λ_ d=>?_))
  .exact Gc 2 Z (QH d (Gx 1 Z (DW L d (Lr [0,1,2,3]))))
  refine Gc 6 Z (Bd d λJ N d=>FW N (QN J) Z (Go 13 Z (Bd d λE g d=>Ct E [0,1,2,0,4] [1,2,5,6,7,8] Ze (λE=>[(0,.c 73 [.o 3 (AI E) 1]),(3,.r 3 1 (map eI E))]) Zf ?_ (λenv H f=>?_))))
  .refine G0 0 Z (Cn Z g (λ_ g=>?_) (λ_ g=>?_))
   .refine Gc 4 Z (vH (Ek (xs:=[.tmp 17]) (es:=map eI [J.Al]) QF Z Z Z Z Z ⟨Z,trivial⟩ Z Z) ?_);refine FE Z (Bd g λY P g=>vH (Qj (e:=eI) P QF EB (QC (i:=5))) ?_);exact au g
   exact au g
  refine Gx 1 Z (Ee f (Gc 7 Z (Bd d λF W d=>Ct F [0,1,2,3] [1,2,6,7,8] Ze (λF=>[(0,.c 73 [.o 3 (AI F) 1]),(3,.r 3 1 (map eI F))]) Zf ?_ (λenv H f=>?_))))
  .refine G0 1 Z (Lp [0,1,2,3,4] [1,2,5,6,7,8,21] (λx=>[(22,I x.2)]) (λx=>[(0,.c 73 [.o 3 (AI x.1) 1]),(3,.r 3 1 (map eI x.1))]) W Zf (Lr [0,1,2,3,4]) λx aa q Q=>?_);refine G0 6 Z (Q8 Z q (λ_ q=>?_) (λ_ q=>?_))
   .exact Gc 2 Z (QH q (Gx 1 Z (DW Q q (Lr [0,1,2,3]))))
   exact au q
  exact Gx 2 Z (Ee f (Gc 4 Z (Q1 d (Lr [0,1,2,3]))))
 obtain rfl:=Oi h;have f:=f;refine⟨[],_,_,?_,II.nil Z,Z,Z⟩;refine En f ?_;exact Lr [0,1,2,3]
def Rs:Nat->(AA CH)->(AA Int)->AB (AA Int)
  |0=>λ_ _=>AF
  |n+1=>ik (Rs n) n
instance k_z:∀(f:AA CH) (d:AA Int),Kq (Rs n f d) 278 [.q 3 (map CH.enc f),.p 0 0,.p 1 0] [.c 73 [.o 2 (AI d) 1],.c 411 [.fn (.func 278) [] [.p 0 0,.p 1 0]],.r 3 1 (map eI d)] (λ_=>.t []) (λr=>[.c 73 [.o 3 (AI r) 1],.c 411 [.fn (.func 278) [] [.p 0 0,.p 1 0]],.dead,.r 3 1 (map eI r)]):=by
  induction n with
  |zero=>exact λ_ _=>⟨nofun⟩
  |succ n ih=>exact Qbn _ ih n
def O8(d:AA CH):AB (AA Int):=AH (Rs n d ([]:AA Int)) λf=>AC f
instance xv(d:AA CH):Kq (O8 n d) 219 [.q 3 (map CH.enc d)] [] (λr=>.o 0 (AI r) 1) (λr=>[.r 3 1 (map eI r),.c 73 [.o 0 (AI r) 1]]):=by
 refine Kg 20 func219 Z Z Z Z λr h=>(Et (Yb (i:=0) (m:=0) (t:=3) (k:=1) Z Z Z) ?_);exact au h
def e8(n:Nat)(d:Int)(f:Int):AB Unit:=AC ()
instance vj(d:Int)(f:Int):Ks (e8 n d f) 167 [.i .u64 d,.i .u64 f] [] (λ_=>.t [.i .u64 (u64.wrap ((u64.wrap ((u64.wrap ((Y8 .u64 d 32)*(Y8 .u64 f 32)))+(Y8 .u64 (u64.wrap ((u64.wrap ((Y8 .u64 d 32)*(Jl .u64 f 4294967295)))+(Y8 .u64 (u64.wrap ((Jl .u64 d 4294967295)*(Jl .u64 f 4294967295))) 32))) 32)))+(Y8 .u64 (u64.wrap ((Jl .u64 (u64.wrap ((u64.wrap ((Y8 .u64 d 32)*(Jl .u64 f 4294967295)))+(Y8 .u64 (u64.wrap ((Jl .u64 d 4294967295)*(Jl .u64 f 4294967295))) 32))) 4294967295)+(u64.wrap ((Jl .u64 d 4294967295)*(Y8 .u64 f 32))))) 32))),.i .u64 (u64.wrap (d*f))]):=by
 refine Kg 9 func167 Z Z Z Z λr h=>(vV (CT.and Z Z Z) ?_);refine Go 6 Z (vV (CT.shr Z Z Z (by decide)) ?_);refine Go 6 Z (vV (CT.and Z Z Z) ?_);refine Go 6 Z (vV (CT.shr Z Z Z (by decide)) ?_);refine Go 17 Z ?_;refine vV (CT.shr Z Z Z (by decide)) (Go 7 Z ?_);refine vV (CT.and Z Z Z) (Go 6 Z ?_);refine vV (CT.shr Z Z Z (by decide)) (Go 21 Z ?_);refine vV (CT.shr Z Z Z (by decide)) (Go 13 Z ?_);exact R2 4 5 Z Z (Lr [])
def fI(d:Int)(f:Int):AB Unit:=AH (e8 n d f) λg=>AC ()
instance vx(d:Int)(f:Int):Ks (fI n d f) 100 [.i .u64 d,.i .u64 f] [] (λ_=>.t [.i .u64 (u64.wrap ((u64.wrap ((u64.wrap ((Y8 .u64 d 32)*(Y8 .u64 f 32)))+(Y8 .u64 (u64.wrap ((u64.wrap ((Y8 .u64 d 32)*(Jl .u64 f 4294967295)))+(Y8 .u64 (u64.wrap ((Jl .u64 d 4294967295)*(Jl .u64 f 4294967295))) 32))) 32)))+(Y8 .u64 (u64.wrap ((Jl .u64 (u64.wrap ((u64.wrap ((Y8 .u64 d 32)*(Jl .u64 f 4294967295)))+(Y8 .u64 (u64.wrap ((Jl .u64 d 4294967295)*(Jl .u64 f 4294967295))) 32))) 4294967295)+(u64.wrap ((Jl .u64 d 4294967295)*(Y8 .u64 f 32))))) 32))),.i .u64 (u64.wrap (d*f))]):=by
 refine Kg 14 func100 Z Z Z Z λr h=>Cd [] h Kc Z λj g h=>Fg 16 Z Z ?_;exact R2 4 5 Z Z (Lr [])
def OP(n:Nat)(d:(AA Int)×Int):AB (CG ((AA Int)×Int) (AA Int)):=(bif d.2<(AI d.1:Int) then AH (Dn d.1 d.2 (AI d.1:Int)) λh=>AH (Dn d.1 0 d.2) λf=>AH (RV d.1 d.2 (AI d.1:Int) f) λg=>AC (.k (g,i64.wrap (d.2+((min (AI f) ((AI d.1:Int).toNat-d.2.toNat):Nat):Int))))else AC (.d d.1))
def LF(d:AA Int)(f:Int):AB (AA Int):=AH ((bif f<0 then AF else AC ()):AB Unit) λt=>AH (fI n (u64.wrap (AI d:Int)) (u64.wrap f)) λx=>AH ((bif 0<(u64.wrap ((u64.wrap ((u64.wrap ((Y8 .u64 (u64.wrap (AI d:Int)) 32)*(Y8 .u64 (u64.wrap f) 32)))+(Y8 .u64 (u64.wrap ((u64.wrap ((Y8 .u64 (u64.wrap (AI d:Int)) 32)*(Jl .u64 (u64.wrap f) 4294967295)))+(Y8 .u64 (u64.wrap ((Jl .u64 (u64.wrap (AI d:Int)) 4294967295)*(Jl .u64 (u64.wrap f) 4294967295))) 32))) 32)))+(Y8 .u64 (u64.wrap ((Jl .u64 (u64.wrap ((u64.wrap ((Y8 .u64 (u64.wrap (AI d:Int)) 32)*(Jl .u64 (u64.wrap f) 4294967295)))+(Y8 .u64 (u64.wrap ((Jl .u64 (u64.wrap (AI d:Int)) 4294967295)*(Jl .u64 (u64.wrap f) 4294967295))) 32))) 4294967295)+(u64.wrap ((Jl .u64 (u64.wrap (AI d:Int)) 4294967295)*(Y8 .u64 (u64.wrap f) 32))))) 32))) then AC AE else AC (AG (9223372036854775807<(u64.wrap ((u64.wrap (AI d:Int))*(u64.wrap f)))))):AB Bool) λm=>AH ((bif m then AF else AC ()):AB Unit) λq=>AH (mk (i64.wrap (u64.wrap ((u64.wrap (AI d:Int))*(u64.wrap f)))) 0) λg=>AH (RV g 0 (AI g:Int) d) λh=>AH (iter (OP n) n (h,((min (AI d) (AI g):Nat):Int)):AB (AA Int)) λj=>AC j
instance jm(N:AA Int)(O:Int):Kq (LF n N O) 37 [.q 1 (map eI N),I O] [] (λr=>.o 0 (AI r) 1) (λr=>[.r 3 1 (map eI r)]):=by
 refine Kg 12 func37 Z Z Z Z λr h=>Bd h λW t h=>Ct W [] [0,1] Ze Ze Zf ?_ (λenv H g=>?_)
 .refine G0 0 Z (Cn Z t (λ_ t=>?_) (λ_ t=>?_))
  .cases t
  exact m7 1 Z t []
 refine Gx 1 Z (Ee g (Gc 3 Z (Lm Z ?_)));refine vV (Ro Z E4 GS Z) ?_;refine Go 1 Z ?_;refine vV (Ro Z E4 GS Z) ?_;refine Cd [] h Kc Z λr5 Y h=>Fg 9 Z Z (Bd h λF X h=>Ct F [] [0,6] (λF=>[(26,.b F)]) Ze Zf ?_ (λenv H g=>?_))
 .exact au X
 refine Gx 1 Z (Ee g (Bd h λQ j h=>Ct Q [] [0,6] Ze Ze Zf ?_ (λenv H g=>?_)))
 .refine G0 0 Z (Cn Z j (λ_ j=>?_) (λ_ j=>?_))
  .cases j
  exact au j
 refine Gx 1 Z (Ee g (Gc 3 Z ?_));refine vV (Ro Z GS E4 Z) ?_;refine Bd h λaa J h=>vH (lK (e:=eI) (zv:=0) (a:=(I 0)) J QF EV Eo Z Z Z Z) ?_;refine Fg 7 Z Z (Bd h λab y h=>vH (QmX (e:=eI) y EB EC Qq6) ?_);refine FE Z ?_;refine Et (QZ (s:=7) Z (congrArg (λn=>A.s 0 0 n 1) (Qo3 y))) ?_;refine Go 4 Z (Bd h λm R h=>Cg m [0] [] (λm=>[(7,.o 0 (AI m) 1)]) (λm=>[(0,.r 3 1 (map eI m))]) Zf ?_ ?_)
 .refine G0 1 Z (Lp [0] [] (λd=>[(7,.o 0 (AI d.1) 1),(8,I d.2)]) (λd=>[(0,.r 3 1 (map eI d.1))]) R Zf (Lr [0]) λd ac f L=>?_);refine G0 9 Z (Q8 Z f (λ_ f=>?_) (λ_ f=>?_))
  .exact Gc 2 Z (QH f (Gx 1 Z (DW L f (Lr [0]))))
  refine Gc 3 Z (Hn 8 [7] [(0,0,1),(0,0,0),(0,0,0),(0,0,0),(0,0,0),(0,0,0),(0,0,0),(1,0,0)] (by kernel_rfl) (Dk 3 Z ?_));obtain⟨ad,q,f⟩:=QE f;refine DK.wo (x:=.s 0 (0+toNat d.2) (toNat (AI d.1:Int)-toNat d.2) 1) ?_ ?_
  .refine vV (QP (l:=d.1) q EB EC (.inr ⟨_,Z,Z⟩) (.inl ⟨Z,Z⟩)) ?_;exact Wp
  refine Dk 2 Z ?_;obtain⟨T,B,f⟩:=QE f;refine DK.wo (x:=.s 0 (0+toNat 0) (toNat d.2-toNat 0) 1) ?_ ?_
  .refine vV (QP (l:=d.1) B EB EC (.inl ⟨Z,Z⟩) (.inr ⟨_,Z,Z⟩)) ?_;exact Wp
  obtain⟨V,E,f⟩:=QE f;refine Ex (x:=I ((min (AI T) ((AI d.1:Int).toNat-d.2.toNat):Nat):Int)) (X1:=[.r 3 1 (map eI V)]) ?_ ?_
  .refine vH (QmY (e:=eI) q E EB EC (Qq7 (b:=0) B)) ?_;exact FE Z Wp
  refine DK.done Z Z ?_;refine Et (QZ (s:=7) Z (congrArg (λn=>A.s 0 0 n 1) (QqV q E))) ?_;exact au f
 exact au h
def HJ(d:CB)(f:Int)(g:Int):CS->Go.Sw.A->Qc->Prop
  |.c0 x,a,H=>a=.t [.a [.q 1 (map eI []),.nilm],I x]/\H=[.c 284 [.q 1 (map eI []),.nilm]]
  |.c1 x,a,H=>a=.t [.a [.q 1 (map eI []),.nilm],I 90]/\H=[.c 284 [.q 1 (map eI []),.nilm]]
  |.c2 x,a,H=>a=.t [.a [.o 0 (AI x) 1,.nilm],I 2]/\H=[.r 3 1 (map eI x),.c 284 [.o 0 (AI x) 1,.nilm]]
  |.c3 x,a,H=>a=.t [.a [.o 0 (AI x.1) 1,.map 1],I 0]/\H=[.r 3 1 (map eI x.1),.map (Qn (λx=>A.a (Ub.c x)) (λx=>A.a (Cr.c x)) x.2),.c 284 [.o 0 (AI x.1) 1,.map 1]]
def MK(n:Nat)(j:AN×Int)(f:AA Int)(d:Int):AB (CG Int Int):=AH ((bif 0<d then AH (CJ f d) λg=>AC (g != j.1.Am)else AC AD):AB Bool) λh=>(bif h then AC (.k (i64.wrap (d-1)))else AC (.d d))
def J3(n:Nat)(g:CB)(d:(AA (Ub×Cr))×Int):AB (CG ((AA (Ub×Cr))×Int) (AA (Ub×Cr))):=(bif d.2<(AI g.A4:Int) then AH (CJ g.A4 d.2) λf=>AH (AC (QK d.1 ({BZ:=f.BA,to_:=f.To:Ub}) f)) λh=>AC (.k (h,i64.wrap (d.2+1)))else AC (.d d.1))
def Hm(h:CB)(y:Int)(g:Int):AB CS:=AH (Ir n h y) λf=>(bif (f.2 != 0)then AC (CS.c0 f.2)else AH ((bif g<0 then AC AE else(bif 0<g then AC (AG (f.1.Am<0))else AC AD)):AB Bool) λB=>(bif B then AC (CS.c1 ())else AH (O8 n f.1.Af) λd=>(bif (i64.wrap (256-(AI d:Int)))<g then AC (CS.c2 d)else AH ((bif 0<g then AH (iter (MK n f d) n (i64.wrap ((AI d:Int)-1)):AB Int) λj=>AH (LF n [f.1.Am] g) λm=>AH (ZG d (i64.wrap (j+1)) m) λq=>AC q else AC d):AB (AA Int)) λt=>AH (iter (J3 n h) n ([],0):AB (AA (Ub×Cr))) λx=>AC (CS.c3 (t,x)))))
theorem bH(O:CB)(Q:Int)(R:Int)(r:CS)(h:Hm n O Q R=AC r):C prog 145 [.a (CB.c O),I Q,I R] [] (HJ O Q R r):=by
 refine iH func145 Z Z Z ?_;refine G0 11 Z (Cd [] h Kc Z λP an h=>Fg 15 Z Z (Cn Z h (λ_ h=>?_) (λ_ h=>?_)))
 .refine Gc 10 Z ?_;obtain rfl:=Oi h;exact Rx [1] [6,7] Z (QI Z Z (C6.cons (Yi isAgg284 G5 Z Z Z) (C6.cons Dy.tmp C6.nil))) ⟨Z,Z⟩
 refine Gc 4 Z (Bd h λT h6 h=>Ct T [0,1,3] [2,3,6,8] (λT=>[(32,.b T)]) Ze Zf ?_ (λenv H j=>?_))
 .exact au h6
 refine Gx 1 Z (Ee j (Cn Z h (λ_ h=>?_) (λ_ h=>?_)))
 .refine Gc 9 Z ?_;obtain rfl:=Oi h;exact Rx [1] [6,7] Z (QI Z Z (C6.cons (Yi isAgg284 G5 Z Z Z) (C6.cons Dy.tmp C6.nil))) ⟨Z,Z⟩
 refine Gc 6 Z (Cd [] h Kc Z λy am h=>Fg 15 Z Z (Cn Z h (λ_ h=>?_) (λ_ h=>?_)))
 .refine Gc 9 Z ?_;obtain rfl:=Oi h;exact Rx [3,1] [6,7] Z (QI Z Z (C6.cons (Yi isAgg284 G5 Z Z Z) (C6.cons Dy.tmp C6.nil))) ⟨Z,Z⟩
 refine Gc 9 Z (Bd h λq d h=>Ct q [0,1,0] [3,6] Ze (λq=>[(1,.c 284 [.o 2 (AI q) 1,.nilm]),(2,.r 3 1 (map eI q))]) Zf ?_ (λenv H j=>?_))
 .refine G0 0 Z (Cn Z d (λ_ d=>?_) (λ_ d=>?_))
  .refine Gc 10 Z (Bd d λE aj d=>Ct E [0,1,2,3] [2,3,6] (λE=>[(8,.p 3 0),(9,I E)]) (λ_=>[(1,.c 284 [.o 2 (AI y) 1,.nilm]),(2,.r 3 1 (map eI y)),(3,.c 66 (AN.c P.1))]) Zf ?_ (λenv H j=>?_))
   .refine G0 1 Z (Lp [0,1,3,2] [2,3,6,8] (λF=>[(9,I F)]) (λ_=>[(1,.c 284 [.o 2 (AI y) 1,.nilm])]) aj Zf (Lr [0,1,3,2]) λF ao g X=>?_);refine G0 2 Z (Bd g λG t g=>Ct G [0,1,2,3] [2,3,6,8,9] (λG=>[(62,.b G)]) Ze Zf ?_ (λenv H j=>?_))
    .refine G0 0 Z (DU 10 Z (D 3 Z (DS.is 2 t Z Z Z (λ_ t=>?_) (λ_ t=>?_))))
     .refine D 3 Z ?_;obtain⟨ak,J,t⟩:=QE t;refine DS.v (x:=(.p 2 (toNat F*1))) (Qd J Z EB EC) ?_ (hg:=(gT Z));refine DS.v (x:=(I ak)) (Ez Z EE Z (Qh J)) ?_ (hg:=(gT Z));exact au t
     exact au t
    refine Gx 1 Z (Ee j (Q8 Z g (λ_ g=>?_) (λ_ g=>?_)))
    .exact Gc 2 Z (QH g (Gx 1 Z (DW X g (Lr [0,1,2,3]))))
    exact au g
   refine Gx 1 Z (Ee j (Hn 9 [8] [(0,0,1),(0,0,1),(0,0,1),(0,0,1),(0,0,0),(0,0,0),(0,0,0),(0,0,0),(1,0,0)] (by kernel_rfl) (Dk 1 Z ?_)));refine KR (lo:=0) (x:=.o 2 (AI y) 1) ⟨Z,trivial⟩ ?_;refine Dk 4 Z ?_;refine DK.wo (x:=.q 1 (map eI [P.1.Am])) ?_ ?_
   .refine vH (QO (xs:=[.tmp 70]) (es:=map eI [P.1.Am]) QF Z Z Z Z Z ⟨Z,trivial⟩ Z Z) ?_;exact FE Z Wp
   refine Dk 1 Z ?_;obtain⟨L,ab,d⟩:=QE d;refine Ex (x:=.o 4 (AI L) 1) (X1:=[.c 33 (CB.c O),.c 284 [.o 2 (AI y) 1,.nilm],.r 3 1 (map eI y),.c 66 (AN.c P.1),.r 3 1 (map eI L)]) ?_ ?_
   .refine Qg [] (C8.fn call37 Z Z Z) ((jm _ _ _).c _ ab) ?_;rintro _ _ ⟨rfl,rfl⟩;exact FE Z Wp
   refine DK.done Z Z (Bd d λaq ac d=>?_);refine Qg [2,4] (C8.fn call220 Z Z Z) (Qm6 Qey (m:=L) ac) ?_;rintro _ _ ⟨rfl,rfl⟩;exact au d
  exact au d
 refine Gx 1 Z (Ee j (Gc 2 Z (vH Yj ?_)));refine Fg 9 Z Z (Lg 3 Z Z (Bd h λM al h=>Cg M [0,1,2] [] (λ_=>[(6,.p 0 0)]) (λM=>[(0,.c 284 [.o 1 (AI q) 1,.map 2]),(1,.r 3 1 (map eI q)),(2,.map (Qn (λx=>A.a (Ub.c x)) (λx=>A.a (Cr.c x)) M))]) Zf ?_ ?_))
 .refine G0 1 Z (Lp [1,2,3] [6,79,80] (λB=>[(81,I B.2)]) (λB=>[(0,.c 284 [.o 1 (AI q) 1,.map 2]),(2,.map (Qn (λx=>A.a (Ub.c x)) (λx=>A.a (Cr.c x)) B.1))]) al Zf (Lr [1,2,3]) λB ar f ad=>?_);refine G0 6 Z (Q8 Z f (λ_ f=>?_) (λ_ f=>?_))
  .exact Gc 2 Z (QH f (Gx 1 Z (DW ad f (Lr [0,1,2]))))
  refine Gc 6 Z (Bd f λN af f=>Iz af Z (Go 14 Z (Bd f λav ag f=>?_)));refine vU (Yf (ev:=(λx=>A.a (Cr.c x))) (k:=({BZ:=N.BA,to_:=N.To:Ub})) (v:=N) (l:=B.1) Qqq ag Z underlying282) ?_;exact au f
 refine Gc 8 Z ?_;obtain rfl:=Oi h;exact Rx [1,2,0] [6,7] Z (QI Z Z (C6.cons (Yi isAgg284 G5 Z Z Z) (C6.cons Dy.tmp C6.nil))) ⟨Z,Z⟩
def MC(j:CB)(m:Int)(q:Int):AB ((AA Int)×Int):=AH (AH (Hm n j m q) λt=>(match t with|.c0 f=>(AC (f,[]))|.c1 x=>(AC (90,[]))|.c2 g=>(AC (2,g))|.c3 h=>(AC (0,h.1))):AB (Int×(AA Int))) λd=>(bif (d.1 != 0)then AC ([],d.1)else AC (d.2,0))
instance oI(q:CB)(t:Int)(x:Int):Ks (MC n q t x) 82 [.a (CB.c q),I t,I x] [] (λr=>.t [.q 1 (map eI r.1),I r.2]):=by
 refine Kg 8 func82 Z Z Z Z λr h=>Bd h λg f h=>Cg g [0] [] (λg=>[(7,I g.1),(8,.p 0 0)]) (λg=>[(0,.c 284 [.q 1 (map eI g.2),.any])]) Zf ?_ ?_
 .refine G0 4 Z (Bd f λB y f=>?_);refine Qg [] (C8.fn call145 Z Z Z) (bH _ _ _ _ _ y) ?_;intro ra rH d;rcases B with E|F|G|H
  .obtain⟨rfl,rfl⟩:=d;refine Fg 7 Z Z ?_;cases f;exact En (gr (i:=2) (m:=1) Z) (Lr [2])
  .obtain⟨rfl,rfl⟩:=d;refine Fg 7 Z Z ?_;cases f;refine En (gr (i:=2) (m:=1) Z) ?_;exact Lr [2]
  .obtain⟨rfl,rfl⟩:=d;refine Fg 7 Z Z ?_;cases f;refine En (Yl [(9,_),(13,_),(14,_)] Z Z (Cx.cons Z (DN.tup (Ed (DN.agg (Ed Ep (Ej _))) (Ej _))) (Cx.cons Z (DN.tup (Ed (DN.agg (Ed Ep (Ej _))) (Ej _))) (Cx.cons Z (DN.agg (Ed Ep (Ej _))) Cx.nil))) (Ec (Ec (Dm.cells (Ed Ep (Ej _)) (Dm.cells (Ed Ep (Ej _)) (QU _)))))) ?_;exact En (gr (i:=3) (m:=1) Z) (Lr [3])
  .obtain⟨rfl,rfl⟩:=d;refine Go 7 Z ?_;cases f;refine En (Yl [(9,_),(13,_),(14,_)] Z Z (Cx.cons Z (DN.tup (Ed (DN.agg (Ed Ep (Ej _))) (Ej _))) (Cx.cons Z (DN.tup (Ed (DN.agg (Ed Ep (Ej _))) (Ej _))) (Cx.cons Z (DN.agg (Ed Ep (Ej _))) Cx.nil))) (Ec (Ec (Ec (Dm.cells (Ed Ep (Ej _)) (Dm.cells (Ed Ep (Ej _)) (QU _))))))) ?_;refine En (gr (i:=4) (m:=1) Z) ?_;exact Lr [4]
 refine Gc 7 Z (Cn Z h (λ_ h=>?_) (λ_ h=>?_))
 .refine Gc 9 Z ?_;obtain rfl:=Oi h;refine R2 6 7 Z Z ?_;refine En (gt (s:=6) (k:=1) Z) ?_;exact Lr []
 exact au h
def KG(n:Nat)(d:Int):AB Bool:=AH ((bif (-1099511627776)<=d then AC (AG (d<=1099511627776))else AC AD):AB Bool) λf=>AC f
instance ze(d:Int):Ks (KG n d) 162 [I d] [] (λr=>.b r):=KA func162
def MU(d:Ud)(f:Ud):AB Int:=AH (Ky n d.B9 f.B9) λg=>AH (Ky n d.mat f.mat) λh=>AH (Ky n d.BT f.BT) λj=>AH (KF n [g,h,j]) λm=>AC m
instance yp(d:Ud)(f:Ud):Ks (MU n d f) 163 [.a (Ud.c d),.a (Ud.c f)] [] (λr=>I r):=KA func163
def OG(E:CB)(m:AA CN)(f:Int):AB (CG Int (CG Unit Int)):=(bif f<(AI m:Int) then AH (AH (CJ m f) λd=>AH ((bif d.Al<0 then AC AE else(bif (AI E.Av:Int)<=d.Al then AC AE else(bif d.Ah<0 then AC AE else(bif 255<d.Ah then AC AE else(bif d.BB<0 then AC AE else(bif 1048576<d.BB then AC AE else AH (KG n d.BQ) λq=>(bif (!q)then AC AE else AH (KG n d.A8) λt=>(bif (!t)then AC AE else AC (AG (d.A8<d.BQ)))))))))):AB Bool) λx=>(bif x then AC (.d (.d (.d 170)))else(bif (f==0)then AC (.k ())else AH (CJ m (i64.wrap (f-1))) λg=>AH (MU n ({B9:=g.BB,mat:=g.Al,BT:=g.Ah:Ud}) ({B9:=d.BB,mat:=d.Al,BT:=d.Ah:Ud})) λh=>AH ((bif 0<h then AC (AG (0<h))else(bif (h==0)then AC (AG ((i64.wrap (d.BQ-g.A8))<=E.AQ.A6))else AC AD)):AB Bool) λy=>(bif y then AC (.d (.d (.d 170)))else AC (.k ())))):AB (CG Unit (CG Int (CG Unit Int)))) λB=>match B with|.k j=>(AC (.k (i64.wrap (f+1))))|.d j=>AC j else AC (.d (.k ())))
def J6(g:CB)(j:AA CN):AB Int:=AH (DZ n g) λh=>(bif (h != 0)then AC h else AH (iter (OG n g j) n 0:AB (CG Unit Int)) λf=>match f with|.k d=>(AC 0)|.d d=>AC d)
instance zR(O:CB)(P:AA CN):Ks (J6 n O P) 91 [.a (CB.c O),.q 5 (map CN.c P)] [] (λr=>I r):=by
 refine Kg 10 func91 Z Z Z Z λr h=>Cz [] h Kc Z λr1 ad h=>Go 9 Z (Cn Z h (λ_ h=>?_) (λ_ h=>?_))
 .exact au h
 refine Gc 11 Z (Lg 3 Z Z (Bd h λG J h=>E_ (b:=G) [] [] Ze Ze Zf ?_ (λ_ R=>?_)))
 .refine G0 1 Z (Lp [0] [1,2,6,16,17] (λq=>[(18,I q)]) Ze J Zf (Lr [0]) λq Y f g=>?_);refine G0 6 Z (Q8 Z f (λ_ f=>?_) (λ_ f=>?_))
  .exact Je g f
  refine Gc 3 Z (Bd f λL d f=>E_ (b:=L) [0] [1,2,6,16,17,18] Ze Ze Zf ?_ (λ_ hb=>?_))
  .refine G0 4 Z (Bd d λaa x d=>Iz x Z (Go 8 Z (Bd d λj M d=>Ct j [0,1] [1,2,6,7,8,16,17,18] (λj=>[(74,.b j)]) Ze Zf ?_ (λenv H T=>?_))))
   .exact au M
   refine Gx 1 Z (Ee T (Cn Z d (λ_ d=>?_) (λ_ d=>?_)))
   .refine Gc 8 Z ?_;cases d;exact DX g f h
   refine Gc 9 Z (Cn Z d (λ_ d=>?_) (λ_ d=>?_))
   .refine Gc 3 Z ?_;cases d;exact Ki Z (Lr [0])
   refine Gc 7 Z (Bd d λab E d=>Iz E Z (Go 21 Z (Cz [] d Kc Z λac X d=>Go 12 Z (Bd d λm N d=>Cg m [0] [1,2,6,16,17,18] (λm=>[(97,.b m)]) Ze Zf ?_ ?_))))
   .exact au N
   refine Cn Z d (λ_ d=>?_) (λ_ d=>?_)
   .refine Gc 8 Z ?_;cases d;exact DX g f h
   refine Gc 3 Z ?_;cases d;exact Ki Z (Lr [0])
  subst hb;exact au f
 subst R;exact au h
def Wz(n:Nat)(d:CD)(f:CN):AB Unit:=AC ()
instance xO(d:CD)(f:CN):Ks (Wz n d f) 93 [.a (CD.c d),.p 0 0] [.c 139 (CN.c f)] (λ_=>.b (({mat:=d.Al,BT:=d.Ah:Uf})==({mat:=f.Al,BT:=f.Ah:Uf}))):=by
 refine Kg 18 func93 Z Z Z Z λr h=>(vV (iK (p:={mat:=d.Al,BT:=d.Ah:Uf}) (q:={mat:=f.Al,BT:=f.Ah:Uf}) QqS Z Z) ?_);exact au h
def V3(h:AA CD)(g:CN)(d:Int):AB (CG Int (CG Unit Int)):=(bif d<(AI h:Int) then AH (CJ h d) λf=>AH (Wz n f g) λj=>(bif (({mat:=f.Al,BT:=f.Ah:Uf})==({mat:=g.Al,BT:=g.Ah:Uf}))then AC (.d (.d d))else AC (.k (i64.wrap (d+1))))else AC (.d (.k ())))
def Ou(g:AA CD)(h:CN):AB Int:=AH (iter (V3 n g h) n 0:AB (CG Unit Int)) λf=>match f with|.k d=>(AC (-1))|.d d=>AC d
instance xg(d:AA CD)(f:CN):Ks (Ou n d f) 92 [.q 3 (map CD.c d),.fn (.func 93) [] [.p 0 0]] [.c 139 (CN.c f)] (λr=>I r):=KA func92
def LA(n:Nat)(f:CB)(d:Int):AB Bool:=AH ((bif 0<=d then AC (AG (d<(AI f.Av:Int)))else AC AD):AB Bool) λg=>AC g
instance zK(d:CB)(f:Int):Ks (LA n d f) 164 [.a (CB.c d),I f] [] (λr=>.b r):=KA func164
def PY(n:Nat)(d:Int)(f:Int):AB (Int×Int):=AH ((bif d<(-2199023255552) then AC AE else(bif 2199023255552<d then AC AE else(bif f<0 then AC AE else AC (AG (100000<f))))):AB Bool) λg=>(bif g then AC (0,1)else AC (i64.wrap (Int.tdiv (i64.wrap ((i64.wrap ((i64.wrap ((if d<i64.wrap (0-d)then i64.wrap (0-d)else d)*f))+1000000))-1)) 1000000),0))
instance yU(f:Int)(g:Int):Ks (PY n f g) 262 [I f,I g] [] (λr=>.t [I r.1,I r.2]):=by
 refine Kg 8 func262 Z Z Z Z λr h=>Bd h λd m h=>Cg d [] [0,1] (λd=>[(19,.b d)]) Ze Zf ?_ ?_
 .exact au m
 refine Cn Z h (λ_ h=>?_) (λ_ h=>?_)
 .exact au h
 refine Gc 7 Z (vV (CT.max Z Z Z Z) ?_);refine Go 4 Z (vV (CT.quo Z Z Z (by decide)) ?_);exact au h
def Iu(d:CB)(f:CD)(j:Int):AB CK:=AH (CJ d.Av f.Al) λm=>AH ((bif (m.AX != 1)then AH (PY n (i64.wrap (j-f.BI)) d.AQ.BC) λg=>AC ({Lo:=i64.wrap (0-g.1),Hi:=i64.wrap (d.AQ.Ak+g.1):CK})else AC ({Lo:=0,Hi:=d.AQ.Ak:CK})):AB CK) λh=>AC ({Lo:=h.Lo,Hi:=h.Hi:CK})
instance bG(f:CB)(g:CD)(j:Int):Kq (Iu n f g j) 165 [.a (CB.c f),.a (CD.c g),I j] [] (λr=>.a [I r.Lo,I r.Hi]) (λr=>[.c 83 [I r.Lo,I r.Hi]]):=by
 refine Kg 24 func165 Z Z Z Z λr h=>Bd h λt m h=>Iz m Z (Go 5 Z (Bd h λd q h=>Cg d [2,3] [6,7] Ze (λd=>[(1,.c 83 [I d.Lo,I d.Hi])]) Zf ?_ ?_))
 .exact au q
 exact au h
def Hg(f:CB)(g:CD)(h:Int):AB (CK×Int):=AH (DZ n f) λj=>(bif (j != 0)then AC ({Lo:=0,Hi:=0:CK},j)else AH (AH (LA n f g.Al) λm=>(bif (!m)then AC AE else AH (IS n h) λq=>(bif (!q)then AC AE else AH (IS n g.BI) λt=>AC (!t))):AB Bool) λx=>(bif x then AC ({Lo:=0,Hi:=0:CK},1)else AH (Iu n f g h) λd=>AC ({Lo:=d.Lo,Hi:=d.Hi:CK},0)))
instance zw(d:CB)(f:CD)(g:Int):Kq (Hg n d f g) 94 [.a (CB.c d),.a (CD.c f),I g] [] (λr=>.t [.a [I r.1.Lo,I r.1.Hi],I r.2]) (λr=>[.c 83 [I r.1.Lo,I r.1.Hi]]):=KA func94
def Wg(n:Nat)(d:Cr)(f:Int)(g:Int)(B:CB)(E:CE)(h:AA Int)(a7:AA CK)(F:AA CN)(G:AA Ue)(q:Int)(t:AA (Int×Ue))(x:CB)(y:CE):AB Bool:=AH (AH (CJ h (i64.wrap (f-1))) λj=>(bif (d.BA==j)then AC (d.To==g)else AC AD):AB Bool) λm=>AC m
instance w7(E:Cr)(F:Int)(G:Int)(d:CB)(q:CE)(H:AA Int)(a7:AA CK)(J:AA CN)(t:AA Ue)(f:Int)(g:AA (Int×Ue))(j:CB)(m:CE):Ks (Wg n E F G d q H a7 J t f g j m) 99 [.a (Cr.c E),.p 0 0,.p 1 0,.p 2 0] [.c 128 [.p 3 0],.c 3 [I F],.c 3 [I G],.c 136 [.str d.An,.q 2 (map Al.c d.Av),.q 4 (map Cr.c d.A4),.q 5 (map AN.c d.AO),.q 2 (map Aw.c d.Ap),.q 4 (map AZ.c d.Ab),.q 3 (map AW.c d.AV),.q 4 (map CQ.c d.A3),.q 8 (map AY.enc d.BN),I d.AQ.A_,I d.AQ.A7,I d.AQ.A6,I d.AQ.Ak,I d.AQ.BC,I d.Bk,I d.Az,.q 3 (map CD.c q.AS),.q 1 (map (Qu 1 eI) q.BP),.q 1 (map eI H),.o 4 (AI a7) 2,.q 5 (map CN.c J),.o 5 (AI t) 3,.map 6,.fn (.func 95) [] [.p 0 0,.p 7 0,.p 8 0],I f],.r 83 2 (map CK.c a7),.r 145 3 (map Ue.c t),.map (Qn I (λx=>A.a (Ue.c x)) g),.c 33 (CB.c j),.c 39 (CE.c m)] (λr=>.b r):=by
 refine Kg 7 func99 Z Z Z Z λr h=>Bd h λy B h=>Cg y [0,1,2,3,4,5,6,7,8] [] (λy=>[(5,.b y)]) Ze Zf ?_ ?_
 .refine G0 0 Z (DU 15 Z (D 8 Z ?_));obtain⟨M,L,B⟩:=QE B;refine DS.wo (x:=.rp [I M]) ?_ ?_
  .exact Ix L EB EC Z Wp
  exact au B
 exact au h
def MD(f:AA Cr)(x:Int)(y:Int)(B:CB)(E:CE)(F:AA Int)(a7:AA CK)(G:AA CN)(H:AA Ue)(g:Int)(h:AA (Int×Ue))(j:CB)(m:CE)(d:Int):AB (CG Int (CG Unit Int)):=(bif d<(AI f:Int) then AH (CJ f d) λq=>AH (Wg n q x y B E F a7 G H g h j m) λt=>(bif t then AC (.d (.d d))else AC (.k (i64.wrap (d+1))))else AC (.d (.k ())))
def PO(q:AA Cr)(t:Int)(x:Int)(y:CB)(B:CE)(E:AA Int)(a7:AA CK)(F:AA CN)(G:AA Ue)(f:Int)(g:AA (Int×Ue))(h:CB)(j:CE):AB Int:=AH (iter (MD n q t x y B E a7 F G f g h j) n 0:AB (CG Unit Int)) λm=>match m with|.k d=>(AC (-1))|.d d=>AC d
instance yK(t:AA Cr)(y:Int)(B:Int)(d:CB)(m:CE)(E:AA Int)(a7:AA CK)(F:AA CN)(q:AA Ue)(f:Int)(g:AA (Int×Ue))(h:CB)(j:CE):Ks (PO n t y B d m E a7 F q f g h j) 98 [.q 4 (map Cr.c t),.fn (.func 99) [] [.p 0 0,.p 1 0,.p 2 0]] [.c 128 [.p 3 0],.c 3 [I y],.c 3 [I B],.c 136 [.str d.An,.q 2 (map Al.c d.Av),.q 4 (map Cr.c d.A4),.q 5 (map AN.c d.AO),.q 2 (map Aw.c d.Ap),.q 4 (map AZ.c d.Ab),.q 3 (map AW.c d.AV),.q 4 (map CQ.c d.A3),.q 8 (map AY.enc d.BN),I d.AQ.A_,I d.AQ.A7,I d.AQ.A6,I d.AQ.Ak,I d.AQ.BC,I d.Bk,I d.Az,.q 3 (map CD.c m.AS),.q 1 (map (Qu 1 eI) m.BP),.q 1 (map eI E),.o 4 (AI a7) 2,.q 5 (map CN.c F),.o 5 (AI q) 3,.map 6,.fn (.func 95) [] [.p 0 0,.p 7 0,.p 8 0],I f],.r 83 2 (map CK.c a7),.r 145 3 (map Ue.c q),.map (Qn I (λx=>A.a (Ue.c x)) g),.c 33 (CB.c h),.c 39 (CE.c j)] (λr=>I r):=KA func98
def F8(d:CB)(f:CE)(h:AP)(j:Int)(g:AA CN)(m:AA Ae):CM->Go.Sw.A->Qc->Prop
  |.c0 x,a,H=>a=.t [.nilp,I x]/\H=[.c 128 [.nilp]]
  |.c1 x,a,H=>a=.t [.p 0 0,I 0]/\H=[.c 136 [.str d.An,.q 2 (map Al.c d.Av),.q 4 (map Cr.c d.A4),.q 5 (map AN.c d.AO),.q 2 (map Aw.c d.Ap),.q 4 (map AZ.c d.Ab),.q 3 (map AW.c d.AV),.q 4 (map CQ.c d.A3),.q 8 (map AY.enc d.BN),I d.AQ.A_,I d.AQ.A7,I d.AQ.A6,I d.AQ.Ak,I d.AQ.BC,I d.Bk,I d.Az,.q 3 (map CD.c f.AS),.q 1 (map (Qu 1 eI) f.BP),.q 1 (map eI x.1),.o 1 (AI x.2.1) 2,.q 5 (map CN.c g),.o 2 (AI x.2.2.1) 3,.map 3,.fn (.func 95) [] [.p 4 0,.p 5 0,.p 6 0],I x.2.2.2.2],.r 83 2 (map CK.c x.2.1),.r 145 3 (map Ue.c x.2.2.1),.map (Qn I (λx=>A.a (Ue.c x)) x.2.2.2.1),.c 128 [.p 0 0],.c 33 (CB.c d),.c 39 (CE.c f)]
def F_(j:CB)(m:CE)(q:AA CN)(g:(AA Ue)×Int):AB (CG ((AA Ue)×Int) (CG (AA Ue) CM)):=(bif g.2<(AI q:Int) then AH (CJ q g.2) λd=>AH (Ou n m.AS d) λh=>AH (CJ j.Av d.Al) λt=>AH ((bif (t.AX==1)then AC (.k ((-1),{Al:=d.Al,Ah:=d.Ah,BI:=0:CD}))else(bif h<0 then AC (.d (.d (.d (CM.c0 170))))else AH (CJ m.AS h) λx=>AC (.k (h,x)))):AB (CG (Int×CD) (CG ((AA Ue)×Int) (CG (AA Ue) CM)))) λy=>match y with|.k f=>(AH (Hg n j f.2 d.BQ) λB=>AH (Hg n j f.2 d.A8) λE=>AH (app g.1 [{Ai:=f.1,A':={Lo:=i64.wrap (d.BQ+B.1.Lo),Hi:=i64.wrap (d.A8+E.1.Hi):CK}:Ue}]) λF=>AC (.k (F,i64.wrap (g.2+1))))|.d f=>AC f else AC (.d (.k g.1)))
def OJ(n:Nat)(j:AA Ae)(d:(AA (Int×Ue))×Int×Int):AB (CG ((AA (Int×Ue))×Int×Int) ((AA (Int×Ue))×Int)):=(bif d.2.2<(AI j:Int) then AH (CJ j d.2.2) λf=>AH (AC (Qm d.1 f.AT ({Ai:=0,A':={Lo:=0,Hi:=0:CK}:Ue}))) λm=>AH ((bif (!(JM d.1 f.AT))then AH (AC (QK d.1 f.AT ({Ai:=(-1),A':={Lo:=f.Lo,Hi:=f.Hi:CK}:Ue}))) λh=>AC (h,(if d.2.1<f.AT then f.AT else d.2.1))else AC (d.1,d.2.1)):AB ((AA (Int×Ue))×Int)) λg=>AC (.k (g.1,g.2,i64.wrap (d.2.2+1)))else AC (.d (d.1,d.2.1)))
def IL(g:CB)(E:CE)(F:AA CN)(h:(AA Int)×Int)(q:AA Ue)(m:(AA (Int×Ue))×Int)(d:(AA CK)×CK×Int):AB (CG ((AA CK)×CK×Int) (AA CK)):=(bif d.2.2<(AI h.1:Int) then AH (CJ h.1 d.2.2) λt=>AH ((bif 0<d.2.2 then AH (PO n g.A4 d.2.2 t g E h.1 d.1 F q m.2 m.1 g E) λj=>AH (CJ g.A4 j) λx=>AH (CJ g.A4 j) λy=>AC ({Lo:=i64.wrap (d.2.1.Lo+x.Bo),Hi:=i64.wrap (d.2.1.Hi+y.Br):CK})else AC ({Lo:=d.2.1.Lo,Hi:=d.2.1.Hi:CK})):AB CK) λf=>AH (app d.1 [{Lo:=f.Lo,Hi:=f.Hi:CK}]) λB=>AC (.k (B,{Lo:=f.Lo,Hi:=f.Hi:CK},i64.wrap (d.2.2+1)))else AC (.d d.1))
def K0(f:CB)(q:CE)(h:AP)(J:Int)(t:AA CN)(y:AA Ae):AB CM:=AH (DZ n f) λB=>(bif (B != 0)then AC (CM.c0 B)else AH (J5 n q) λE=>(bif (E != 0)then AC (CM.c0 E)else AH ((bif h.AN<0 then AC AE else(bif (AI f.AO:Int)<=h.AN then AC AE else(bif h.Aw<0 then AC AE else(bif (AI f.Ap:Int)<=h.Aw then AC AE else AH (ew n y) λF=>AC F)))):AB Bool) λG=>(bif G then AC (CM.c0 1)else AH (MC n f h.AN J) λg=>(bif (g.2 != 0)then AC (CM.c0 g.2)else AH (J6 n f t) λm=>(bif (m != 0)then AC (CM.c0 m)else AH (iter (F_ n f q t) n ([],0):AB (CG (AA Ue) CM)) λH=>match H with|.k d=>(AH (iter (OJ n y) n ([],(-1),0):AB ((AA (Int×Ue))×Int)) λj=>AH (iter (IL n f q t g d j) n ([],{Lo:=0,Hi:=0:CK},0):AB (AA CK)) λx=>AC (CM.c1 (g.1,x,d,j.1,j.2)))|.d d=>AC d)))))
theorem oJ(d:CB)(g:CE)(a3:AP)(a4:Int)(J:AA CN)(a6:AA Ae)(r:CM)(h:K0 n d g a3 a4 J a6=AC r):C prog 35 [.a (CB.c d),.a (CE.c g),.a (AP.c a3),I a4,.q 5 (map CN.c J),.q 4 (map Ae.c a6)] [] (F8 d g a3 a4 J a6 r):=by
 refine iH func35 Z Z Z ?_;refine G0 13 Z (Cz [] h Kc Z λr1 cf h=>Go 9 Z (Cn Z h (λ_ h=>?_) (λ_ h=>?_)))
 .refine Gc 3 Z ?_;refine vU (Ey Z Z Z GO Z Z Z Z Z Z Z) ?_;refine Fg 5 Z Z ?_;obtain rfl:=Oi h;exact Rx [3] [12,13] Z (QI Z Z (C6.cons (YB GL Z Z) (C6.cons Dy.tmp C6.nil))) ⟨Z,Z⟩
 refine Gc 6 Z (Cz [] h Kc Z λr3 cg h=>Go 9 Z (Cn Z h (λ_ h=>?_) (λ_ h=>?_)))
 .refine Gc 3 Z ?_;refine vU (Ey Z Z Z GO Z Z Z Z Z Z Z) ?_;refine Fg 5 Z Z ?_;obtain rfl:=Oi h;exact Rx [3] [12,13] Z (QI Z Z (C6.cons (YB GL Z Z) (C6.cons Dy.tmp C6.nil))) ⟨Z,Z⟩
 refine Gc 9 Z (Bd h λah bq h=>Ct ah [0,1,2,3] [3,4,5,6,7,8,12] (λah=>[(69,.b ah)]) Ze Zf ?_ (λenv H W=>?_))
 .exact au bq
 refine Gx 1 Z (Ee W (Cn Z h (λ_ h=>?_) (λ_ h=>?_)))
 .refine Gc 2 Z ?_;refine vU (Ey Z Z Z GO Z Z Z Z Z Z Z) ?_;refine Fg 5 Z Z ?_;obtain rfl:=Oi h;exact Rx [3] [12,13] Z (QI Z Z (C6.cons (YB GL Z Z) (C6.cons Dy.tmp C6.nil))) ⟨Z,Z⟩
 refine Gc 7 Z (vH Yj ?_);refine FE Z ?_;refine vX (.a [.str d.An,.q 2 (map Al.c d.Av),.q 4 (map Cr.c d.A4),.q 5 (map AN.c d.AO),.q 2 (map Aw.c d.Ap),.q 4 (map AZ.c d.Ab),.q 3 (map AW.c d.AV),.q 4 (map CQ.c d.A3),.q 8 (map AY.enc d.BN),I d.AQ.A_,I d.AQ.A7,I d.AQ.A6,I d.AQ.Ak,I d.AQ.BC,I d.Bk,I d.Az,.q 3 (map CD.c g.AS),.q 1 (map (Qu 1 eI) g.BP),.q 1 (map eI []),.n,.q 5 (map CN.c J),.n,.map 4,.nilf,I (-1)]) (CT.build (zs:=[.str [],.q 2 (map Al.c []),.q 4 (map Cr.c []),.q 5 (map AN.c []),.q 2 (map Aw.c []),.q 4 (map AZ.c []),.q 3 (map AW.c []),.q 4 (map CQ.c []),.q 8 (map AY.enc []),I 0,I 0,I 0,I 0,I 0,I 0,I 0,.q 3 (map CD.c []),.q 1 (map (Qu 1 eI) []),.q 1 (map eI []),.n,.q 5 (map CN.c []),.n,.nilm,.nilf,I 0]) zeroValue136 (Fu Z) _a) ?_;refine Go 6 Z (Hn 12 [11] [(0,0,0),(0,0,0),(0,0,0),(0,0,0),(0,0,0),(0,0,0),(0,0,0),(0,0,0),(0,0,1),(0,0,0),(0,0,0),(1,0,0)] (by kernel_rfl) (Dk 5 Z ?_));obtain⟨E,ba,h⟩:=QE h;refine DK.wo (x:=.t [.q 1 (map eI E.1),I E.2]) ?_ ?_
 .refine Qg [] (C8.fn call82 Z Z Z) ((oI _ _ _ _).c _ ba) ?_;rintro _ _ ⟨rfl,rfl⟩;exact FE Z Wp
 refine Dk 5 Z ?_;refine DK.un (X1:=[.c 33 (CB.c d),.c 39 (CE.c g),.c 41 (AP.c a3),.c 128 [.p 5 0],.map (Qn I (λx=>A.a (Ue.c x)) []),.c 136 [.str d.An,.q 2 (map Al.c d.Av),.q 4 (map Cr.c d.A4),.q 5 (map AN.c d.AO),.q 2 (map Aw.c d.Ap),.q 4 (map AZ.c d.Ab),.q 3 (map AW.c d.AV),.q 4 (map CQ.c d.A3),.q 8 (map AY.enc d.BN),I d.AQ.A_,I d.AQ.A7,I d.AQ.A6,I d.AQ.Ak,I d.AQ.BC,I d.Bk,I d.Az,.q 3 (map CD.c g.AS),.q 1 (map (Qu 1 eI) g.BP),.q 1 (map eI E.1),.n,.q 5 (map CN.c J),.n,.map 4,.nilf,I (-1)]]) ?_ ?_
 .refine vU (Ey Z Z Z EO Z Z Z Z Z Z Z) ?_;refine N7 (H:=[_,_,_,_,_,.c 136 [.str d.An,.q 2 (map Al.c d.Av),.q 4 (map Cr.c d.A4),.q 5 (map AN.c d.AO),.q 2 (map Aw.c d.Ap),.q 4 (map AZ.c d.Ab),.q 3 (map AW.c d.AV),.q 4 (map CQ.c d.A3),.q 8 (map AY.enc d.BN),I d.AQ.A_,I d.AQ.A7,I d.AQ.A6,I d.AQ.Ak,I d.AQ.BC,I d.Bk,I d.Az,.q 3 (map CD.c g.AS),.q 1 (map (Qu 1 eI) g.BP),.q 1 (map eI E.1),.n,.q 5 (map CN.c J),.n,.map 4,.nilf,I (-1)]]) Z ?_;exact Wp
 refine DK.done Z Z (Go 9 Z (Cn Z h (λ_ h=>?_) (λ_ h=>?_)))
 .refine Gc 3 Z ?_;refine vU (Ey Z Z Z GO Z Z Z Z Z Z Z) ?_;refine Fg 5 Z Z ?_;obtain rfl:=Oi h;exact Rx [3] [12,13] Z (QI Z Z (C6.cons (YB GL Z Z) (C6.cons Dy.tmp C6.nil))) ⟨Z,Z⟩
 refine Gc 7 Z (Cz [] h Kc Z λch bz h=>Go 9 Z (Cn Z h (λ_ h=>?_) (λ_ h=>?_)))
 .refine Gc 3 Z ?_;refine vU (Ey Z Z Z GO Z Z Z Z Z Z Z) ?_;refine Fg 5 Z Z ?_;obtain rfl:=Oi h;exact Rx [3] [12,13] Z (QI Z Z (C6.cons (YB GL Z Z) (C6.cons Dy.tmp C6.nil))) ⟨Z,Z⟩
 refine Gc 6 Z (Lg 3 Z Z (Bd h λbr bs h=>Fe (b:=br) [0,1,2,3,4,5] [5,6,7] (λ_=>[(12,.p 2 0)]) (λj=>[(2,.c 128 [.p 3 0]),(3,.c 136 [.str d.An,.q 2 (map Al.c d.Av),.q 4 (map Cr.c d.A4),.q 5 (map AN.c d.AO),.q 2 (map Aw.c d.Ap),.q 4 (map AZ.c d.Ab),.q 3 (map AW.c d.AV),.q 4 (map CQ.c d.A3),.q 8 (map AY.enc d.BN),I d.AQ.A_,I d.AQ.A7,I d.AQ.A6,I d.AQ.Ak,I d.AQ.BC,I d.Bk,I d.Az,.q 3 (map CD.c g.AS),.q 1 (map (Qu 1 eI) g.BP),.q 1 (map eI E.1),.n,.q 5 (map CN.c J),.o 4 (AI j) 3,.map 5,.nilf,I (-1)]),(4,.r 145 3 (map Ue.c j)),(5,.map (Qn I (λx=>A.a (Ue.c x)) []))]) Zf ?_ (λj env H bu W=>?_)))
 .refine G0 1 Z (Lp [0,1,3,5,0,4] [5,6,7,12,96,97] (λX=>[(98,I X.2)]) (λX=>[(2,.c 128 [.p 3 0]),(3,.c 136 [.str d.An,.q 2 (map Al.c d.Av),.q 4 (map Cr.c d.A4),.q 5 (map AN.c d.AO),.q 2 (map Aw.c d.Ap),.q 4 (map AZ.c d.Ab),.q 3 (map AW.c d.AV),.q 4 (map CQ.c d.A3),.q 8 (map AY.enc d.BN),I d.AQ.A_,I d.AQ.A7,I d.AQ.A6,I d.AQ.Ak,I d.AQ.BC,I d.Bk,I d.Az,.q 3 (map CD.c g.AS),.q 1 (map (Qu 1 eI) g.BP),.q 1 (map eI E.1),.n,.q 5 (map CN.c J),.o 4 (AI X.1) 3,.map 5,.nilf,I (-1)]),(4,.r 145 3 (map Ue.c X.1))]) bs Zf ?_ ?_)
  .refine En (Yb (i:=5) (m:=21) (t:=145) (k:=3) Z Z Z) ?_;exact Lr [0,1,3,5,6,4]
  intro X ci B ai;refine G0 6 Z (Q8 Z B (λ_ B=>?_) (λ_ B=>?_))
  .exact Je ai B
  refine Gc 6 Z (Bd B λad be B=>Iz be Z (Go 10 Z (Cz [6] B Kc Z λcj ca B=>Go 22 Z (Bd B λcl bg B=>Iz bg Z (Go 6 Z (Bd B λbv P B=>Fe (b:=bv) [0,1,2,3,4,5,6,7] [5,6,7,12,16,18,96,97,98] (λQ=>[(17,I Q.1)]) (λQ=>[(7,.c 209 (CD.c Q.2))]) Zf ?_ (λQ env H hb W=>?_)))))))
  .refine G0 0 Z (Cn Z P (λ_ P=>?_) (λ_ P=>?_))
   .refine Gc 3 Z ?_;cases P;exact Ki Z (Lr [0,1,2,3,4,5,6,7])
   refine Gc 7 Z (Cn Z P (λ_ P=>?_) (λ_ P=>?_))
   .refine Gc 2 Z ?_;refine vU (Ey Z Z Z GO Z Z Z Z Z Z Z) ?_;refine Fg 4 Z Z ?_;cases P;refine N4 (Gx 4 Z (JV B ?_));obtain rfl:=Oj ai B;refine Gx 1 Z (N4 (Gx 1 Z ?_));obtain rfl:=Oi h;exact Rx [2] [12,13] Z (QI Z Z (C6.cons (YB GL Z Z) (C6.cons Dy.tmp C6.nil))) ⟨Z,Z⟩
   refine Gc 4 Z (Bd P λcm bj P=>Iz bj Z (Go 3 Z ?_));cases P;exact Ki Z (Lr [0,1,2,3,4,5,6,7])
  subst hb;refine Gx 2 Z (Ee W (Gc 6 Z (Cd [] B Kc Z λY cb B=>Fg 14 Z Z (Cd [] B Kc Z λaa cc B=>Fg 8 Z Z (Hn 20 [19] [(0,0,1),(0,0,0),(0,0,0),(0,0,0),(0,0,0),(0,0,0),(0,0,0),(0,0,0),(0,0,0),(0,0,0),(0,0,0),(0,0,0),(0,0,0),(0,0,0),(0,0,0),(0,0,0),(0,0,0),(0,0,0),(0,0,0),(1,0,0)] (by kernel_rfl) ?_)))));refine KR (lo:=0) (x:=.p 3 0) ⟨Z,trivial⟩ ?_;refine Dk 17 Z ?_;refine DK.wo (x:=.q 3 (map Ue.c [{Ai:=Q.1,A':={Lo:=i64.wrap (ad.BQ+Y.1.Lo),Hi:=i64.wrap (ad.A8+aa.1.Hi):CK}:Ue}])) ?_ ?_
  .refine vH (QO (xs:=[.tmp 161]) (es:=map Ue.c [{Ai:=Q.1,A':={Lo:=i64.wrap (ad.BQ+Y.1.Lo),Hi:=i64.wrap (ad.A8+aa.1.Hi):CK}:Ue}]) pQ Z Z Z Z Z ⟨Z,trivial⟩ Z Z) ?_;exact FE Z Wp
  obtain⟨ay,bk,B⟩:=QE B;refine Ex (x:=.o 12 (AI ay) 3) (X1:=[.c 33 (CB.c d),.c 39 (CE.c g),.c 128 [.p 3 0],.c 136 [.str d.An,.q 2 (map Al.c d.Av),.q 4 (map Cr.c d.A4),.q 5 (map AN.c d.AO),.q 2 (map Aw.c d.Ap),.q 4 (map AZ.c d.Ab),.q 3 (map AW.c d.AV),.q 4 (map CQ.c d.A3),.q 8 (map AY.enc d.BN),I d.AQ.A_,I d.AQ.A7,I d.AQ.A6,I d.AQ.Ak,I d.AQ.BC,I d.Bk,I d.Az,.q 3 (map CD.c g.AS),.q 1 (map (Qu 1 eI) g.BP),.q 1 (map eI E.1),.n,.q 5 (map CN.c J),.o 4 (AI X.1) 3,.map 5,.nilf,I (-1)],.dead,.map (Qn I (λx=>A.a (Ue.c x)) []),.c 139 (CN.c ad),.c 209 (CD.c Q.2),.c 83 [I Y.1.Lo,I Y.1.Hi],.c 83 [I Y.1.Lo,I Y.1.Hi],.c 83 [I aa.1.Lo,I aa.1.Hi],.c 83 [I aa.1.Lo,I aa.1.Hi],.r 145 3 (map Ue.c ay)]) ?_ ?_
  .refine vH (Qj (e:=Ue.c) bk pQ Gz La) ?_;exact FE Z Wp
  exact DK.done Z Z (Go 10 Z (Q1 B (Lr [0,1,2,3,12,5])))
 subst bu;refine Gx 1 Z (Ee W (Gc 4 Z (Lg 3 Z Z (Bd h λL bw h=>Ct L [0,1,2,3,4,5] [6,7,12] Ze (λL=>[(3,.c 136 [.str d.An,.q 2 (map Al.c d.Av),.q 4 (map Cr.c d.A4),.q 5 (map AN.c d.AO),.q 2 (map Aw.c d.Ap),.q 4 (map AZ.c d.Ab),.q 3 (map AW.c d.AV),.q 4 (map CQ.c d.A3),.q 8 (map AY.enc d.BN),I d.AQ.A_,I d.AQ.A7,I d.AQ.A6,I d.AQ.Ak,I d.AQ.BC,I d.Bk,I d.Az,.q 3 (map CD.c g.AS),.q 1 (map (Qu 1 eI) g.BP),.q 1 (map eI E.1),.n,.q 5 (map CN.c J),.o 4 (AI j) 3,.map 5,.nilf,I L.2]),(5,.map (Qn I (λx=>A.a (Ue.c x)) L.1))]) Zf ?_ (λenv H W=>?_)))))
 .refine G0 1 Z (Lp [0,1,2,3,4,5] [6,7,12,167,168] (λq=>[(169,I q.2.2)]) (λq=>[(3,.c 136 [.str d.An,.q 2 (map Al.c d.Av),.q 4 (map Cr.c d.A4),.q 5 (map AN.c d.AO),.q 2 (map Aw.c d.Ap),.q 4 (map AZ.c d.Ab),.q 3 (map AW.c d.AV),.q 4 (map CQ.c d.A3),.q 8 (map AY.enc d.BN),I d.AQ.A_,I d.AQ.A7,I d.AQ.A6,I d.AQ.Ak,I d.AQ.BC,I d.Bk,I d.Az,.q 3 (map CD.c g.AS),.q 1 (map (Qu 1 eI) g.BP),.q 1 (map eI E.1),.n,.q 5 (map CN.c J),.o 4 (AI j) 3,.map 5,.nilf,I q.2.1]),(5,.map (Qn I (λx=>A.a (Ue.c x)) q.1))]) bw Zf (Lr [0,1,2,3,4,5]) λq cn O bl=>?_);refine G0 6 Z (Q8 Z O (λ_ O=>?_) (λ_ O=>?_))
  .exact Gc 2 Z (QH O (Gx 1 Z (DW bl O (Lr [0,1,2,3,4,5]))))
  refine Gc 6 Z (Bd O λy al O=>Iz al Z (Go 6 Z ?_));obtain⟨R,af,O⟩:=QE O;refine Yv 12 0 [174,175,176,177,178,179,180,173,181,182,25,1000011] [AD,AD,AD,AD,AD,AD,AD,AD,AD,AD,AE,AE] [[],[],[],[],[],[],[],[],[],[],[],[10]] [[],[10],[10,11]] [[(0,0),(1,1)],[(0,0),(1,1)],[(0,0),(1,1)],[(0,0),(1,1)],[(0,0),(1,1)],[(0,0),(1,1)],[(0,0),(1,1)],[(0,0),(1,1)],[(0,0),(1,1)],[(0,0),(1,1),(2,2)],[(0,1)],[(1,2)]] [.p 3 0,.p 3 0,.p 3 22,.map 5,.p 6 1,I y.AT,.t [.a (Ue.c R),.b (JM q.1 y.AT)],.t [.a (Ue.c R),.b (JM q.1 y.AT)],.a (Ue.c R),.b (JM q.1 y.AT),.p 7 0,.any] [[.c 33 (CB.c d),.c 39 (CE.c g),.c 128 [.p 3 0],.c 136 [.str d.An,.q 2 (map Al.c d.Av),.q 4 (map Cr.c d.A4),.q 5 (map AN.c d.AO),.q 2 (map Aw.c d.Ap),.q 4 (map AZ.c d.Ab),.q 3 (map AW.c d.AV),.q 4 (map CQ.c d.A3),.q 8 (map AY.enc d.BN),I d.AQ.A_,I d.AQ.A7,I d.AQ.A6,I d.AQ.Ak,I d.AQ.BC,I d.Bk,I d.Az,.q 3 (map CD.c g.AS),.q 1 (map (Qu 1 eI) g.BP),.q 1 (map eI E.1),.n,.q 5 (map CN.c J),.o 4 (AI j) 3,.map 5,.nilf,I q.2.1],.r 145 3 (map Ue.c j),.map (Qn I (λx=>A.a (Ue.c x)) q.1),.c 104 (Ae.c y)],[.c 33 (CB.c d),.c 39 (CE.c g),.c 128 [.p 3 0],.c 136 [.str d.An,.q 2 (map Al.c d.Av),.q 4 (map Cr.c d.A4),.q 5 (map AN.c d.AO),.q 2 (map Aw.c d.Ap),.q 4 (map AZ.c d.Ab),.q 3 (map AW.c d.AV),.q 4 (map CQ.c d.A3),.q 8 (map AY.enc d.BN),I d.AQ.A_,I d.AQ.A7,I d.AQ.A6,I d.AQ.Ak,I d.AQ.BC,I d.Bk,I d.Az,.q 3 (map CD.c g.AS),.q 1 (map (Qu 1 eI) g.BP),.q 1 (map eI E.1),.n,.q 5 (map CN.c J),.o 4 (AI j) 3,.map 5,.nilf,I q.2.1],.r 145 3 (map Ue.c j),.map (Qn I (λx=>A.a (Ue.c x)) q.1),.c 104 (Ae.c y),.c 145 [I 0,I 0,I 0]],[.c 33 (CB.c d),.c 39 (CE.c g),.c 128 [.p 3 0],.c 136 [.str d.An,.q 2 (map Al.c d.Av),.q 4 (map Cr.c d.A4),.q 5 (map AN.c d.AO),.q 2 (map Aw.c d.Ap),.q 4 (map AZ.c d.Ab),.q 3 (map AW.c d.AV),.q 4 (map CQ.c d.A3),.q 8 (map AY.enc d.BN),I d.AQ.A_,I d.AQ.A7,I d.AQ.A6,I d.AQ.Ak,I d.AQ.BC,I d.Bk,I d.Az,.q 3 (map CD.c g.AS),.q 1 (map (Qu 1 eI) g.BP),.q 1 (map eI E.1),.n,.q 5 (map CN.c J),.o 4 (AI j) 3,.map 5,.nilf,I q.2.1],.r 145 3 (map Ue.c j),.map (Qn I (λx=>A.a (Ue.c x)) q.1),.c 104 (Ae.c y),.c 145 (Ue.c R)]] ([.c 33 (CB.c d),.c 39 (CE.c g),.c 128 [.p 3 0],.c 136 [.str d.An,.q 2 (map Al.c d.Av),.q 4 (map Cr.c d.A4),.q 5 (map AN.c d.AO),.q 2 (map Aw.c d.Ap),.q 4 (map AZ.c d.Ab),.q 3 (map AW.c d.AV),.q 4 (map CQ.c d.A3),.q 8 (map AY.enc d.BN),I d.AQ.A_,I d.AQ.A7,I d.AQ.A6,I d.AQ.Ak,I d.AQ.BC,I d.Bk,I d.Az,.q 3 (map CD.c g.AS),.q 1 (map (Qu 1 eI) g.BP),.q 1 (map eI E.1),.n,.q 5 (map CN.c J),.o 4 (AI j) 3,.map 5,.nilf,I q.2.1],.r 145 3 (map Ue.c j),.map (Qn I (λx=>A.a (Ue.c x)) q.1),.c 104 (Ae.c y),.c 145 (Ue.c R)]) DF Z Z Z Z Z Z Z ?_ Z ?_
  .refine M1 (Cq.cons ?_ (M1 (M1 (M1 (M1 (Cq.cons ?_ (M1 (M1 (M1 (Cq.cons ?_ (Cq.cons ?_ (Cq.nil))))))))))))
   .refine Qb ?_ (Qb ?_ (Qf))
    iterate 2 refine Om Z (sD 0 sN) ?_;exact S Z Wp
   .refine Qb ?_ (Qb ?_ (Qf))
    iterate 2 refine Om Z (sD 3 (sD 5 sN)) ?_;refine vX (.t [.a (Ue.c R),.b (JM q.1 y.AT)]) (mu (ev:=(λx=>A.a (Ue.c x))) (z0:=({Ai:=0,A':={Lo:=0,Hi:=0:CK}:Ue})) (k:=y.AT) (l:=q.1) YM af Gw Gs (Fu Z)) ?_;exact Wp
   .refine Qb ?_ (Qf)
    .refine F9 Z sN ?_;refine vH (eH (v:=(.a [I 0,I 0,I 0])) Gs (Fu Z)) ?_;exact FE Z Wp
   .refine Qb ?_ (Qf)
    .refine TH Z (sD 10 (sD 8 sN)) ?_;refine vU (Ey Z Z Z GY Z Z Z Z Z Z Z) ?_;exact FE Z Wp
  refine Go 9 Z (Bd O λab T O=>Ct ab [0,1,2,3,4,5] [6,7,12,167,168,169] Ze (λab=>[(3,.c 136 [.str d.An,.q 2 (map Al.c d.Av),.q 4 (map Cr.c d.A4),.q 5 (map AN.c d.AO),.q 2 (map Aw.c d.Ap),.q 4 (map AZ.c d.Ab),.q 3 (map AW.c d.AV),.q 4 (map CQ.c d.A3),.q 8 (map AY.enc d.BN),I d.AQ.A_,I d.AQ.A7,I d.AQ.A6,I d.AQ.Ak,I d.AQ.BC,I d.Bk,I d.Az,.q 3 (map CD.c g.AS),.q 1 (map (Qu 1 eI) g.BP),.q 1 (map eI E.1),.n,.q 5 (map CN.c J),.o 4 (AI j) 3,.map 5,.nilf,I ab.2]),(5,.map (Qn I (λx=>A.a (Ue.c x)) ab.1))]) Zf ?_ (λenv H W=>?_))
  .refine G0 0 Z (Cn Z T (λ_ T=>?_) (λ_ T=>?_))
   .refine Gc 1 Z (DU 12 Z (D 12 Z (Eg Z (Bd T λcd an T=>?_))));refine vU (Yf (ev:=(λx=>A.a (Ue.c x))) (k:=y.AT) (v:=({Ai:=(-1),A':={Lo:=y.Lo,Hi:=y.Hi:CK}:Ue})) (l:=q.1) YM an Z Gw) ?_;refine Fg 2 Z Z (DU 8 Z (D 7 Z ?_));refine DS.v (x:=(I (if q.2.1<y.AT then y.AT else q.2.1))) (CT.max Z Z Z Z) ?_;exact au T
   exact au T
  exact Gx 2 Z (Ee W (Gc 4 Z (Q1 O (Lr [0,1,2,3,4,5]))))
 refine Gx 1 Z (Ee W (Gc 21 Z (Lg 3 Z Z (Bd h λac bn h=>Cg ac [1,2,3,4,5,0,6] [] (λ_=>[(12,.p 0 0)]) (λac=>[(0,.c 128 [.p 1 0]),(1,.c 136 [.str d.An,.q 2 (map Al.c d.Av),.q 4 (map Cr.c d.A4),.q 5 (map AN.c d.AO),.q 2 (map Aw.c d.Ap),.q 4 (map AZ.c d.Ab),.q 3 (map AW.c d.AV),.q 4 (map CQ.c d.A3),.q 8 (map AY.enc d.BN),I d.AQ.A_,I d.AQ.A7,I d.AQ.A6,I d.AQ.Ak,I d.AQ.BC,I d.Bk,I d.Az,.q 3 (map CD.c g.AS),.q 1 (map (Qu 1 eI) g.BP),.q 1 (map eI E.1),.o 2 (AI ac) 2,.q 5 (map CN.c J),.o 3 (AI j) 3,.map 4,.fn (.func 95) [] [.p 0 0,.p 5 0,.p 6 0],I L.2]),(2,.r 83 2 (map CK.c ac)),(6,.c 39 (CE.c g))]) Zf ?_ ?_))))
 .refine G0 1 Z (Lp [0,2,3,0,4,5,1,6] [6,12,27,215,216] (λf=>[(217,I f.2.2)]) (λf=>[(1,.c 128 [.p 2 0]),(2,.c 136 [.str d.An,.q 2 (map Al.c d.Av),.q 4 (map Cr.c d.A4),.q 5 (map AN.c d.AO),.q 2 (map Aw.c d.Ap),.q 4 (map AZ.c d.Ab),.q 3 (map AW.c d.AV),.q 4 (map CQ.c d.A3),.q 8 (map AY.enc d.BN),I d.AQ.A_,I d.AQ.A7,I d.AQ.A6,I d.AQ.Ak,I d.AQ.BC,I d.Bk,I d.Az,.q 3 (map CD.c g.AS),.q 1 (map (Qu 1 eI) g.BP),.q 1 (map eI E.1),.o 3 (AI f.1) 2,.q 5 (map CN.c J),.o 4 (AI j) 3,.map 5,.fn (.func 95) [] [.p 1 0,.p 0 0,.p 6 0],I L.2]),(3,.r 83 2 (map CK.c f.1)),(7,.c 83 [I f.2.1.Lo,I f.2.1.Hi])]) bn Zf ?_ ?_)
  .refine En (Yb (i:=3) (m:=19) (t:=83) (k:=2) Z Z Z) ?_;exact Lr [0,2,3,7,4,5,1,6]
  intro f ce F ao;refine G0 6 Z (Q8 Z F (λ_ F=>?_) (λ_ F=>?_))
  .exact Gc 2 Z (QH F (Gx 1 Z (DW ao F (Lr [1,2,3,4,5,0,6]))))
  refine Gc 7 Z (Bd F λae ar F=>Iz ar Z (Go 14 Z (Bd F λM G F=>Cg M [0,1,2,3,4,5,6,7] [6,12,27,215,216,217] Ze (λM=>[(7,.c 83 [I M.Lo,I M.Hi])]) Zf ?_ ?_)))
  .refine G0 0 Z (Cn Z G (λ_ G=>?_) (λ_ G=>?_))
   .refine Gc 5 Z (Cz [1,8,9,2,3,4,5,0,6] G Kc Z λaj bx G=>Go 3 Z ?_);obtain⟨N,aw,G⟩:=QE G;obtain⟨V,ag,G⟩:=QE G;refine Yv 20 0 [228,229,230,231,232,233,234,235,236,237,238,239,240,241,242,243,244,245,246,1000019] [AD,AD,AD,AD,AD,AD,AD,AD,AD,AD,AD,AD,AD,AD,AD,AD,AD,AD,AD,AE] [[],[],[],[],[],[],[],[],[],[],[],[],[],[],[],[],[],[],[],[]] [[],[19]] [[(0,0)],[(0,0)],[(0,0)],[(0,0)],[(0,0)],[(0,0)],[(0,0)],[(0,0)],[(0,0)],[(0,0)],[(0,0)],[(0,0),(1,1)],[(0,0),(1,1)],[(0,0),(1,1)],[(0,0),(1,1)],[(0,0),(1,1)],[(0,0),(1,1)],[(0,0),(1,1)],[(0,0)],[(0,1)]] [.p 7 0,I f.2.1.Lo,.p 0 2,.q 4 (map Cr.c d.A4),I aj,.rp [I N.BA,I N.To,I N.Bo,I N.Br],.rp [I N.Bo,I N.Br],I N.Bo,I (i64.wrap (f.2.1.Lo+N.Bo)),.p 7 1,I f.2.1.Hi,.p 0 2,.q 4 (map Cr.c d.A4),I aj,.rp [I V.BA,I V.To,I V.Bo,I V.Br],.rp [I V.Br],I V.Br,I (i64.wrap (f.2.1.Hi+V.Br)),.p 7 0,.any] [[.c 33 (CB.c d),.c 128 [.p 2 0],.c 136 [.str d.An,.q 2 (map Al.c d.Av),.q 4 (map Cr.c d.A4),.q 5 (map AN.c d.AO),.q 2 (map Aw.c d.Ap),.q 4 (map AZ.c d.Ab),.q 3 (map AW.c d.AV),.q 4 (map CQ.c d.A3),.q 8 (map AY.enc d.BN),I d.AQ.A_,I d.AQ.A7,I d.AQ.A6,I d.AQ.Ak,I d.AQ.BC,I d.Bk,I d.Az,.q 3 (map CD.c g.AS),.q 1 (map (Qu 1 eI) g.BP),.q 1 (map eI E.1),.o 3 (AI f.1) 2,.q 5 (map CN.c J),.o 4 (AI j) 3,.map 5,.fn (.func 95) [] [.p 1 0,.p 0 0,.p 6 0],I L.2],.r 83 2 (map CK.c f.1),.r 145 3 (map Ue.c j),.map (Qn I (λx=>A.a (Ue.c x)) L.1),.c 39 (CE.c g),.c 83 [I f.2.1.Lo,I f.2.1.Hi],.c 3 [I f.2.2],.c 3 [I ae]],[.c 33 (CB.c d),.c 128 [.p 2 0],.c 136 [.str d.An,.q 2 (map Al.c d.Av),.q 4 (map Cr.c d.A4),.q 5 (map AN.c d.AO),.q 2 (map Aw.c d.Ap),.q 4 (map AZ.c d.Ab),.q 3 (map AW.c d.AV),.q 4 (map CQ.c d.A3),.q 8 (map AY.enc d.BN),I d.AQ.A_,I d.AQ.A7,I d.AQ.A6,I d.AQ.Ak,I d.AQ.BC,I d.Bk,I d.Az,.q 3 (map CD.c g.AS),.q 1 (map (Qu 1 eI) g.BP),.q 1 (map eI E.1),.o 3 (AI f.1) 2,.q 5 (map CN.c J),.o 4 (AI j) 3,.map 5,.fn (.func 95) [] [.p 1 0,.p 0 0,.p 6 0],I L.2],.r 83 2 (map CK.c f.1),.r 145 3 (map Ue.c j),.map (Qn I (λx=>A.a (Ue.c x)) L.1),.c 39 (CE.c g),.c 83 [I (i64.wrap (f.2.1.Lo+N.Bo)),I f.2.1.Hi],.c 3 [I f.2.2],.c 3 [I ae]]] ([.c 33 (CB.c d),.c 128 [.p 2 0],.c 136 [.str d.An,.q 2 (map Al.c d.Av),.q 4 (map Cr.c d.A4),.q 5 (map AN.c d.AO),.q 2 (map Aw.c d.Ap),.q 4 (map AZ.c d.Ab),.q 3 (map AW.c d.AV),.q 4 (map CQ.c d.A3),.q 8 (map AY.enc d.BN),I d.AQ.A_,I d.AQ.A7,I d.AQ.A6,I d.AQ.Ak,I d.AQ.BC,I d.Bk,I d.Az,.q 3 (map CD.c g.AS),.q 1 (map (Qu 1 eI) g.BP),.q 1 (map eI E.1),.o 3 (AI f.1) 2,.q 5 (map CN.c J),.o 4 (AI j) 3,.map 5,.fn (.func 95) [] [.p 1 0,.p 0 0,.p 6 0],I L.2],.r 83 2 (map CK.c f.1),.r 145 3 (map Ue.c j),.map (Qn I (λx=>A.a (Ue.c x)) L.1),.c 39 (CE.c g),.c 83 [I (i64.wrap (f.2.1.Lo+N.Bo)),I f.2.1.Hi],.c 3 [I f.2.2],.c 3 [I ae]]) DF Z Z Z Z Z Z Z ?_ Z ?_
    .refine M1 (M1 (M1 (M1 (M1 (Cq.cons ?_ (M1 (M1 (Cq.cons ?_ (M1 (M1 (M1 (M1 (M1 (Cq.cons ?_ (M1 (M1 (Cq.cons ?_ (M1 (Cq.cons ?_ (Cq.nil))))))))))))))))))))
     .refine Qb ?_ (Qf)
      .refine Om Z (sD 3 (sD 4 sN)) ?_;exact Ix aw Gb GM Z Wp
     .refine Qb ?_ (Qf)
      .refine Om Z (sD 1 (sD 7 sN)) ?_;exact S Z Wp
     .refine Qb ?_ (Qb ?_ (Qf))
      iterate 2 refine Om Z (sD 12 (sD 13 sN)) ?_;exact Ix ag Gb GM Z Wp
     .refine Qb ?_ (Qb ?_ (Qf))
      iterate 2 refine Om Z (sD 10 (sD 16 sN)) ?_;exact S Z Wp
     .refine Qb ?_ (Qf)
      .refine TH Z (sD 8 (sD 18 sN)) ?_;refine vU (Ey Z Z Z EC Z Z Z Z Z Z Z) ?_;exact FE Z Wp
    exact au G
   exact au G
  refine Hn 8 [7] [(0,0,1),(0,0,0),(0,0,0),(0,0,0),(0,0,0),(0,0,0),(0,0,0),(1,0,0)] (by kernel_rfl) ?_;refine KR (lo:=0) (x:=.p 2 0) ⟨Z,trivial⟩ ?_;refine Dk 5 Z ?_;refine DK.wo (x:=.q 2 (map CK.c [{Lo:=M.Lo,Hi:=M.Hi:CK}])) ?_ ?_
  .refine vH (QO (xs:=[.tmp 253]) (es:=map CK.c [{Lo:=M.Lo,Hi:=M.Hi:CK}]) pP Z Z Z Z Z ⟨Z,trivial⟩ Z Z) ?_;exact FE Z Wp
  obtain⟨ak,ax,F⟩:=QE F;refine Ex (x:=.o 8 (AI ak) 2) (X1:=[.c 33 (CB.c d),.c 128 [.p 2 0],.c 136 [.str d.An,.q 2 (map Al.c d.Av),.q 4 (map Cr.c d.A4),.q 5 (map AN.c d.AO),.q 2 (map Aw.c d.Ap),.q 4 (map AZ.c d.Ab),.q 3 (map AW.c d.AV),.q 4 (map CQ.c d.A3),.q 8 (map AY.enc d.BN),I d.AQ.A_,I d.AQ.A7,I d.AQ.A6,I d.AQ.Ak,I d.AQ.BC,I d.Bk,I d.Az,.q 3 (map CD.c g.AS),.q 1 (map (Qu 1 eI) g.BP),.q 1 (map eI E.1),.o 3 (AI f.1) 2,.q 5 (map CN.c J),.o 4 (AI j) 3,.map 5,.fn (.func 95) [] [.p 1 0,.p 0 0,.p 6 0],I L.2],.dead,.r 145 3 (map Ue.c j),.map (Qn I (λx=>A.a (Ue.c x)) L.1),.c 39 (CE.c g),.c 83 [I M.Lo,I M.Hi],.r 83 2 (map CK.c ak)]) ?_ ?_
  .refine vH (Qj (e:=CK.c) ax pP E8 La) ?_;exact FE Z Wp
  exact DK.done Z Z (Go 10 Z (Q1 F (Lr [0,1,2,8,4,5,6,7])))
 refine Gc 8 Z ?_;obtain rfl:=Oi h;exact Rx [1,2,3,4,0,5,6] [12,13] Z (QI Z Z (C6.cons (YB GL Z Z) (C6.cons Dy.tmp C6.nil))) ⟨Z,Z⟩
def Ms(n:Nat):AB Unit:=AC ()
instance jl:Kq (Ms n) 42 [] [] (λ_=>.a [I (-1),I 0,I 0,I 0,I 0]) (λ_=>[.c 147 [I (-1),I 0,I 0,I 0,I 0]]):=KA func42
def nJ(n:Nat)(h:AA (Int×Int))(g:Int)(d:Int×Int):AB (CG Int Int):=AH (AC (Qm h d.1 0)) λf=>AC (.k (i64.wrap (g+(if 0<i64.wrap (d.2-f)then i64.wrap (d.2-f)else 0))))
def nT(n:Nat)(d:Int):AB Int:=AC d
def Pt(f:AA (Int×Int))(g:AA (Int×Int)):AB Int:=anyP (λp39=>AH (L3 (nJ n g) (nT n) 0 p39) λd=>AC d) f
instance jT(j:AA (Int×Int))(m:AA (Int×Int)):Ks (Pt n j m) 36 [.p 0 0,.p 1 0] [.c 137 [.map 2],.c 137 [.map 3],.fmap (Qn I I j),.fmap (Qn I I m)] (λr=>I r):=by
 refine Kg 9 func36 Z Z Z Z λr h=>vH (su EK) (Fg 2 Z Z ?_);have y:=Qq0 h;have q:=λp hp=>QE (y p hp);refine Qq4 q (λd=>[(2,I d)]) (λd=>[.c 137 [.map 2],.c 137 [.map 3],.fmap (Qn I I j),.fmap (Qn I I m)]) ?_ (λd env H B E=>?_)
 .refine G0 1 Z (Qph (enc:=(λp=>(I p.1,I p.2))) (λf=>[(1,.p 1 0),(2,I f),(6,.p 4 0)]) (λf t=>[.c 137 [.map 2],.c 137 [.map 3],.fmap (Qn I I j),.fmap (Qn I I m),.iter AF t]) q ?_ ?_)
  .exact Lr [0,1,2,3,4]
  intro f t F;refine G0 2 Z (Qpc F (λM G J=>?_) (λN O P g Q L=>?_))
  .refine Go 7 Z (G? ?_);cases G;exact Gx 1 Z (cR J (Lr [0,1,2,3]))
  refine Go 10 Z ?_;refine vV (CT.entry) (Go 11 Z (Bd g λR x g=>?_));refine vV (QmV YM x EK EV Eo) ?_;refine Go 1 Z (vV (CT.max Z Z Z Z) ?_);refine Go 4 Z (F? _ _ g L (En (sT (i:=4) Z Z) ?_));exact Lr [0,1,2,3,4]
 exact Gx 1 Z (Ee E (TJ 7 Z B 2 [0,1,2,3]))
def W4(n:Nat)(d:AA Int):AB (AA Int):=isNil d (AC []) (AH (app ([]:AA Int) d) λf=>AC f)
instance jQ(d:AA Int):Kq (W4 n d) 39 [.o 0 (AI d) 1] [.r 3 1 (map eI d)] (λr=>.o 1 (AI r) 1) (λr=>[.r 3 1 (map eI d),.r 3 1 (map eI r)]):=by
 refine Kg 9 func39 Z Z Z Z λr h=>(QmI underlying73 Z (λf g=>?_));have hkb1:=rj h f g;cases f
 .have h:=hkb1.2 Z;refine Go 7 Z (vH (Ek (xs:=[]) QF Z Z Z Z Z trivial Z Z) ?_);refine Fg 1 Z Z (Bd h λm j h=>vH (Qj j QF EB (QC (i:=0))) ?_);exact au h
 .have h:=hkb1.1 Z;refine Go 10 Z ?_;obtain rfl:=Oi h;refine R1 2 Z (En (Er (s:=2) (k:=1) (t:=3) (XQ Z) Z) ?_);exact Lr [0,1]
def Io(n:Nat)(f:Int)(g:Int)(y:CB)(B:CE)(E:AA Int)(F:AA CK)(a7:AA CN)(h:AA Ue)(G:Int)(d:AA (Int×Ue))(t:CB)(x:CE):AB (Ue×Bool):=AH (AC (Qm d f ({Ai:=0,A':={Lo:=0,Hi:=0:CK}:Ue}))) λj=>AH ((bif JM d f then AC AE else AC (AG (g<0))):AB Bool) λm=>(bif m then AC (j,JM d f)else AH (CJ h g) λq=>AC (q,AE))
instance zf(F:Int)(G:Int)(j:CB)(m:CE)(q:AA Int)(t:AA CK)(a7:AA CN)(y:AA Ue)(B:Int)(d:AA (Int×Ue))(f:CB)(g:CE):Kq (Io n F G j m q t a7 y B d f g) 101 (n8 0 0 F G) [.c 136 (match_task.tc j m q t a7 y (.map 1) (.fn (.func 95) [] [.p 2 0,.p 3 0,.p 4 0]) B),.map (Qn I (λx=>A.a (Ue.c x)) d),.c 128 [.p 0 0],.c 33 (CB.c f),.c 39 (CE.c g)] (λr=>.t [.a (Ue.c r.1),.b r.2]) (λr=>[.c 136 (match_task.tc j m q t a7 y (.map 1) (.fn (.func 95) [] [.p 2 0,.p 3 0,.p 4 0]) B),.map (Qn I (λx=>A.a (Ue.c x)) d),.c 128 [.p 0 0],.c 33 (CB.c f),.c 39 (CE.c g),.c 145 (Ue.c r.1)]):=by
 refine Kg 14 func101 Z Z Z Z λr h=>Bd h λL H h=>?_;refine vV (mu YM H Gw Gs (Fu Z)) (Go 8 Z (Bd h λE J h=>Cg E [0,1,2,3,4,5] [0,2,6,7] (λE=>[(21,.b E)]) Ze Zf ?_ ?_))
 .exact au J
 exact au h
def It(g:CB)(h:CE)(f:Int)(d:CK):AB (CK×Int):=AH (DZ n g) λm=>(bif (m != 0)then AC ({Lo:=0,Hi:=0:CK},m)else AH (J5 n h) λq=>(bif (q != 0)then AC ({Lo:=0,Hi:=0:CK},q)else AH ((bif f<(-1) then AC AE else(bif (AI h.AS:Int)<=f then AC AE else AH (IS n d.Lo) λt=>(bif (!t)then AC AE else AH (IS n d.Hi) λx=>(bif (!x)then AC AE else AC (AG (d.Hi<d.Lo)))))):AB Bool) λy=>(bif y then AC ({Lo:=0,Hi:=0:CK},1)else(bif f<0 then AC ({Lo:=d.Lo,Hi:=i64.wrap (d.Hi+g.AQ.Ak):CK},0)else AH (CJ h.AS f) λj=>AH (LA n g j.Al) λB=>(bif (!B)then AC ({Lo:=0,Hi:=0:CK},1)else AH (Iu n g j d.Lo) λE=>AH (CJ h.BP (i64.wrap (f+1))) λF=>AH (CJ F 0) λG=>AH (Iu n g j d.Hi) λH=>AH (CJ h.BP 0) λJ=>AH (CJ J (i64.wrap (f+1))) λL=>AC ({Lo:=i64.wrap ((i64.wrap (d.Lo+E.Lo))-G),Hi:=i64.wrap ((i64.wrap (d.Hi+H.Hi))+L):CK},0))))))
instance jt(m:CB)(q:CE)(H:Int)(f:CK):Kq (It n m q H f) 96 [.a (CB.c m),.a (CE.c q),I H,.a [I f.Lo,I f.Hi]] [] (λr=>.t [.a [I r.1.Lo,I r.1.Hi],I r.2]) (λr=>[.c 83 [I r.1.Lo,I r.1.Hi]]):=by
 refine Kg 13 func96 Z Z Z Z λr h=>Cz [] h Kc Z λr1 Y h=>Go 9 Z (Cn Z h (λ_ h=>?_) (λ_ h=>?_))
 .exact au h
 refine Gc 6 Z (Cz [] h Kc Z λr3 aa h=>Go 9 Z (Cn Z h (λ_ h=>?_) (λ_ h=>?_)))
 .exact au h
 refine Gc 5 Z (Bd h λE W h=>Cg E [0,1,2,3] [2,4,5,7,8] (λE=>[(24,.b E)]) Ze Zf ?_ ?_)
 .exact au W
 refine Cn Z h (λ_ h=>?_) (λ_ h=>?_)
 .exact au h
 refine Gc 7 Z (Cn Z h (λ_ h=>?_) (λ_ h=>?_))
 .exact au h
 refine Gc 8 Z (Bd h λj O h=>Iz O Z (Go 11 Z (Cz [] h Kc Z λab X h=>Go 3 Z (Cn Z h (λ_ h=>?_) (λ_ h=>?_)))))
 .exact au h
 refine Gc 10 Z ?_;obtain⟨d,Q,h⟩:=QE h;obtain⟨J,t,h⟩:=QE h;obtain⟨F,x,h⟩:=QE h;obtain⟨g,R,h⟩:=QE h;obtain⟨L,y,h⟩:=QE h;obtain⟨G,B,h⟩:=QE h;refine Yv 34 0 [79,80,81,82,83,84,85,86,87,88,89,90,91,92,93,94,95,96,97,98,99,100,101,102,103,104,105,106,107,108,109,110,111,112] [AD,AD,AD,AD,AD,AD,AE,AD,AD,AD,AD,AD,AD,AD,AD,AD,AD,AD,AD,AD,AD,AD,AD,AE,AD,AD,AD,AD,AD,AD,AD,AD,AD,AD] [[],[],[],[],[],[],[],[6],[6],[],[],[],[],[],[],[],[6],[],[],[],[],[],[],[6],[6,23],[6,23],[],[],[],[],[],[],[],[6,23]] [[],[6],[6,23]] [[(0,0),(1,1),(2,2)],[(0,0),(1,1),(2,2)],[(0,0)],[(0,0)],[(0,0)],[(0,0)],[(0,1)],[(1,1),(2,2)],[(1,1),(2,2)],[(0,0),(1,1),(2,2)],[(0,0),(1,1),(2,2)],[(0,0),(1,1),(2,2)],[(0,0),(1,1),(2,2)],[(0,0),(1,1),(2,2)],[(0,0),(1,1),(2,2)],[(0,0),(1,1),(2,2)],[(1,1),(2,2)],[(0,0),(1,1),(2,2)],[(0,0),(1,1),(2,2)],[(0,0),(1,1)],[(0,0),(1,1)],[(0,0),(1,1)],[(0,0),(1,1)],[(1,2)],[(2,2)],[(2,2)],[(0,0),(1,1),(2,2)],[(0,0),(1,1),(2,2)],[(0,0),(1,1),(2,2)],[(0,0),(1,1),(2,2)],[(0,0),(1,1),(2,2)],[(0,0),(1,1),(2,2)],[(0,0),(1,1),(2,2)],[(2,2)]] [.p 2 0,I f.Lo,.a (CB.c m),.a (CD.c j),.p 2 0,I f.Lo,.a [I d.Lo,I d.Hi],I d.Lo,I (i64.wrap (f.Lo+d.Lo)),.p 1 1,.q 1 (map (Qu 1 eI) q.BP),I (i64.wrap (H+1)),.rp [.q 1 (map eI J)],.q 1 (map eI J),.rp [I F],I F,I (i64.wrap ((i64.wrap (f.Lo+d.Lo))-F)),.p 2 1,I f.Hi,.a (CB.c m),.a (CD.c j),.p 2 1,I f.Hi,.a [I g.Lo,I g.Hi],I g.Hi,I (i64.wrap (f.Hi+g.Hi)),.p 1 1,.q 1 (map (Qu 1 eI) q.BP),.rp [.q 1 (map eI L)],.q 1 (map eI L),I (i64.wrap (H+1)),.rp [I G],I G,I (i64.wrap ((i64.wrap (f.Hi+g.Hi))+G))] [[.c 33 (CB.c m),.c 39 (CE.c q),.c 83 [I f.Lo,I f.Hi],.c 83 [I 0,I 0],.c 209 (CD.c j)],[.c 33 (CB.c m),.c 39 (CE.c q),.c 83 [I f.Lo,I f.Hi],.c 83 [I 0,I 0],.c 209 (CD.c j),.c 83 [I d.Lo,I d.Hi]],[.c 33 (CB.c m),.c 39 (CE.c q),.c 83 [I f.Lo,I f.Hi],.c 83 [I 0,I 0],.c 209 (CD.c j),.c 83 [I d.Lo,I d.Hi],.c 83 [I g.Lo,I g.Hi]]] ([.c 33 (CB.c m),.c 39 (CE.c q),.c 83 [I f.Lo,I f.Hi],.c 83 [I 0,I 0],.c 209 (CD.c j),.c 83 [I d.Lo,I d.Hi],.c 83 [I g.Lo,I g.Hi]]) DF Z Z Z Z Z Z Z ?_ Z ?_
 .refine M1 (M1 (M1 (M1 (M1 (M1 (Cq.cons ?_ (Cq.cons ?_ (Cq.cons ?_ (M1 (M1 (M1 (Cq.cons ?_ (M1 (Cq.cons ?_ (M1 (Cq.cons ?_ (M1 (M1 (M1 (M1 (M1 (M1 (Cq.cons ?_ (Cq.cons ?_ (Cq.cons ?_ (M1 (M1 (Cq.cons ?_ (M1 (M1 (Cq.cons ?_ (M1 (Cq.cons ?_ (Cq.nil))))))))))))))))))))))))))))))))))
  .refine Qb ?_ (Qf)
   .refine F9 Z (sD 2 (sD 3 (sD 5 sN))) ?_;refine Qg [] (C8.fn call165 Z Z Z) ((bG _ _ _ _).c _ Q) ?_;rintro _ _ ⟨rfl,rfl⟩;exact FE Z Wp
  .refine Qb ?_ (Qb ?_ (Qf))
   iterate 2 refine Om Z (sD 6 sN) ?_;refine vX (I d.Lo) (vB Qld Gr Z EE) ?_;exact Wp
  .refine Qb ?_ (Qb ?_ (Qf))
   iterate 2 refine Om Z (sD 1 (sD 7 sN)) ?_;exact S Z Wp
  .refine Qb ?_ (Qb ?_ (Qb ?_ (Qf)))
   iterate 3 refine Om Z (sD 10 (sD 11 sN)) ?_;exact Ix t EG EO Z Wp
  .refine Qb ?_ (Qb ?_ (Qb ?_ (Qf)))
   iterate 3 refine Om Z (sD 13 sN) ?_;exact Ix x EB EC Z Wp
  .refine Qb ?_ (Qb ?_ (Qf))
   iterate 2 refine Om Z (sD 8 (sD 15 sN)) ?_;exact S Z Wp
  .refine Qb ?_ (Qf)
   .refine F9 Z (sD 19 (sD 20 (sD 22 sN))) ?_;refine Qg [] (C8.fn call165 Z Z Z) ((bG _ _ _ _).c _ R) ?_;rintro _ _ ⟨rfl,rfl⟩;exact FE Z Wp
  .refine Qb ?_ (Qf)
   .refine Om Z (sD 23 sN) ?_;refine vX (I g.Hi) (vB Qqy Gr Z EE) ?_;exact Wp
  .refine Qb ?_ (Qf)
   .refine Om Z (sD 18 (sD 24 sN)) ?_;exact S Z Wp
  .refine Qb ?_ (Qb ?_ (Qb ?_ (Qf)))
   iterate 3 refine Om Z (sD 27 sN) ?_;exact Ix y EG EO Z Wp
  .refine Qb ?_ (Qb ?_ (Qb ?_ (Qf)))
   iterate 3 refine Om Z (sD 29 (sD 30 sN)) ?_;exact Ix B EB EC Z Wp
  .refine Qb ?_ (Qf)
   .refine Om Z (sD 25 (sD 32 sN)) ?_;exact S Z Wp
 exact au h
def Md(n:Nat)(d:CK)(f:CK):AB Unit:=AC ()
instance yz(d:CK)(f:CK):Ks (Md n d f) 97 [.a [I d.Lo,I d.Hi],.a [I f.Lo,I f.Hi]] [] (λ_=>.b (AG ((if d.Lo<f.Lo then f.Lo else d.Lo)<=(if f.Hi<d.Hi then f.Hi else d.Hi)))):=by
 refine Kg 13 func97 Z Z Z Z λr h=>(vV (CT.max Z Z Z Z) ?_);refine Go 4 Z (vV (CT.min Z Z Z Z) ?_);exact Gt 5 Z h 4 []
def J_(h:Int)(j:Int)(t:CB)(x:CE)(F:CB)(G:CE)(a7:AA Int)(H:AA CK)(y:AA CN)(m:AA Ue)(E:Int)(g:AA (Int×Ue)):AB Bool:=AH (AC (Qm g j ({Ai:=0,A':={Lo:=0,Hi:=0:CK}:Ue}))) λf=>(bif (!(JM g j))then AC AE else AH (CJ y h) λq=>AH (CJ m h) λB=>AH (It n t x B.Ai ({Lo:=q.BQ,Hi:=q.A8:CK})) λd=>AH (Md n ({Lo:=d.1.Lo,Hi:=d.1.Hi:CK}) f.A') λJ=>AC (AG ((if d.1.Lo<f.A'.Lo then f.A'.Lo else d.1.Lo)<=(if f.A'.Hi<d.1.Hi then f.A'.Hi else d.1.Hi))))
instance zV(N:Int)(J:Int)(q:CB)(t:CE)(y:CB)(B:CE)(a7:AA Int)(E:AA CK)(F:AA CN)(g:AA Ue)(j:Int)(f:AA (Int×Ue)):Ks (J_ n N J q t y B a7 E F g j f) 95 [I N,I J,.p 0 0,.p 1 0,.p 2 0] [.c 128 [.p 3 0],.c 33 (CB.c q),.c 39 (CE.c t),.c 136 (match_task.tc y B a7 E F g (.map 4) (.fn (.func 95) [] [.p 0 0,.p 1 0,.p 2 0]) j),.map (Qn I (λx=>A.a (Ue.c x)) f)] (λr=>.b r):=by
 refine Kg 12 func95 Z Z Z Z λr h=>Bd h λG O h=>?_;refine vX (.t [.a (Ue.c G),.b (JM f J)]) (mu (ev:=(λx=>A.a (Ue.c x))) (z0:=({Ai:=0,A':={Lo:=0,Hi:=0:CK}:Ue})) (k:=J) (l:=f) YM O Gw Gs (Fu Z)) ?_;refine Go 15 Z (Cn Z h (λ_ h=>?_) (λ_ h=>?_))
 .exact au h
 refine Gc 9 Z (Bd h λm Q h=>Iz Q Z (Go 6 Z ?_));obtain⟨H,L,h⟩:=QE h;obtain⟨d,M,h⟩:=QE h;refine Yv 21 1 [32,33,34,35,36,37,38,39,40,41,42,43,44,45,46,47,31,48,49,11,1000020] [AD,AD,AD,AD,AD,AD,AD,AD,AD,AD,AD,AD,AD,AD,AD,AE,AD,AD,AD,AE,AE] [[],[],[],[],[],[],[],[],[],[],[],[],[],[],[],[],[15],[15],[15],[],[15,19]] [[],[15],[19],[15,19],[15,19,20]] [[(0,0),(2,2)],[(0,0),(2,2)],[(0,0),(2,2)],[(0,0),(2,2)],[(0,0),(2,2)],[(0,0),(2,2)],[(0,0),(2,2)],[(0,0),(2,2)],[(0,0),(2,2)],[(0,0),(2,2)],[(0,0),(2,2)],[(0,0),(2,2)],[(0,0),(2,2)],[(0,0),(2,2)],[(0,0),(2,2)],[(0,1),(2,3)],[(1,1),(3,3)],[(1,1),(3,3)],[(1,1),(3,3),(4,4)],[(0,2),(1,3)],[(3,4)]] [.a (CB.c q),.a (CE.c t),.p 3 0,.p 3 0,.p 3 21,.q 3 (map Ue.c g),I N,.rp [I H.Ai,I H.A'.Lo,I H.A'.Hi],.rp [I H.Ai,I H.A'.Lo,I H.A'.Hi],I H.Ai,.p 6 3,I m.BQ,.p 6 4,I m.A8,.a [I m.BQ,I m.A8],.t [.a [I d.1.Lo,I d.1.Hi],I d.2],.t [.a [I d.1.Lo,I d.1.Hi],I d.2],.a [I d.1.Lo,I d.1.Hi],I d.2,.p 7 0,.any] [[.c 128 [.p 3 0],.c 33 (CB.c q),.c 39 (CE.c t),.c 136 (match_task.tc y B a7 E F g (.map 4) (.fn (.func 95) [] [.p 0 0,.p 1 0,.p 2 0]) j),.map (Qn I (λx=>A.a (Ue.c x)) f),.c 145 (Ue.c G),.c 139 (CN.c m),.dead],[.c 128 [.p 3 0],.c 33 (CB.c q),.c 39 (CE.c t),.c 136 (match_task.tc y B a7 E F g (.map 4) (.fn (.func 95) [] [.p 0 0,.p 1 0,.p 2 0]) j),.map (Qn I (λx=>A.a (Ue.c x)) f),.c 145 (Ue.c G),.c 139 (CN.c m),.dead,.c 83 [I d.1.Lo,I d.1.Hi]],[.c 128 [.p 3 0],.c 33 (CB.c q),.c 39 (CE.c t),.c 136 (match_task.tc y B a7 E F g (.map 4) (.fn (.func 95) [] [.p 0 0,.p 1 0,.p 2 0]) j),.map (Qn I (λx=>A.a (Ue.c x)) f),.c 145 (Ue.c G),.c 139 (CN.c m),.c 83 [I 0,I 0]],[.c 128 [.p 3 0],.c 33 (CB.c q),.c 39 (CE.c t),.c 136 (match_task.tc y B a7 E F g (.map 4) (.fn (.func 95) [] [.p 0 0,.p 1 0,.p 2 0]) j),.map (Qn I (λx=>A.a (Ue.c x)) f),.c 145 (Ue.c G),.c 139 (CN.c m),.c 83 [I 0,I 0],.c 83 [I d.1.Lo,I d.1.Hi]],[.c 128 [.p 3 0],.c 33 (CB.c q),.c 39 (CE.c t),.c 136 (match_task.tc y B a7 E F g (.map 4) (.fn (.func 95) [] [.p 0 0,.p 1 0,.p 2 0]) j),.map (Qn I (λx=>A.a (Ue.c x)) f),.c 145 (Ue.c G),.c 139 (CN.c m),.c 83 [I d.1.Lo,I d.1.Hi],.c 83 [I d.1.Lo,I d.1.Hi]]] ([.c 128 [.p 3 0],.c 33 (CB.c q),.c 39 (CE.c t),.c 136 (match_task.tc y B a7 E F g (.map 4) (.fn (.func 95) [] [.p 0 0,.p 1 0,.p 2 0]) j),.map (Qn I (λx=>A.a (Ue.c x)) f),.c 145 (Ue.c G),.c 139 (CN.c m),.c 83 [I d.1.Lo,I d.1.Hi],.c 83 [I d.1.Lo,I d.1.Hi]]) DF Z Z Z Z Z Z Z ?_ Z ?_
 .refine M1 (M1 (M1 (Cq.cons ?_ (M1 (M1 (M1 (Cq.cons ?_ (M1 (M1 (M1 (M1 (M1 (M1 (M1 (Cq.cons ?_ (M1 (M1 (M1 (Cq.cons ?_ (Cq.cons ?_ (Cq.nil)))))))))))))))))))))
  .refine Qb ?_ (Qb ?_ (Qf))
   iterate 2 refine Om Z (sD 2 sN) ?_;exact S Z Wp
  .refine Qb ?_ (Qb ?_ (Qf))
   iterate 2 refine Om Z (sD 5 (sD 6 sN)) ?_;exact Ix L Gz GY Z Wp
  .refine Qb ?_ (Qb ?_ (Qf))
   iterate 2 refine F9 Z (sD 0 (sD 1 (sD 9 (sD 14 sN)))) ?_;refine Qg [] (C8.fn call96 Z Z Z) ((jt _ _ _ _ _).c _ M) ?_;rintro _ _ ⟨rfl,rfl⟩;exact FE Z Wp
  .refine Qb ?_ (Qb ?_ (Qf))
   iterate 2 exact Jm.alloc _ 11 83 7 _ Z Z Z Z Z Z Z (JW.alloc (v:=(.a [I 0,I 0])) EI (Fu Z)) Z
  .refine Qb ?_ (Qf)
   .refine TH Z (sD 19 (sD 17 sN)) ?_;refine vU (Ey Z Z Z Ge Z Z Z Z Z Z Z) ?_;exact FE Z Wp
 exact au h
def KI(n:Nat)(f:Int)(g:Int)(B:CB)(E:CE)(F:AA Int)(d:AA CK)(a7:AA CN)(G:AA Ue)(H:Int)(t:AA (Int×Ue))(x:CB)(y:CE):AB CK:=AH (CJ d g) λh=>AH (CJ d f) λj=>AH (CJ d g) λm=>AH (CJ d f) λq=>AC ({Lo:=(if i64.wrap (h.Lo-j.Lo)<2199023255552 then i64.wrap (h.Lo-j.Lo)else 2199023255552),Hi:=(if i64.wrap (m.Hi-q.Hi)<2199023255552 then i64.wrap (m.Hi-q.Hi)else 2199023255552):CK})
instance jq(E:Int)(F:Int)(j:CB)(m:CE)(q:AA Int)(t:AA CK)(a7:AA CN)(y:AA Ue)(B:Int)(d:AA (Int×Ue))(f:CB)(g:CE):Kq (KI n E F j m q t a7 y B d f g) 168 (n8 0 0 E F) [.c 136 (match_task.tc j m q t a7 y (.map 1) (.fn (.func 95) [] [.p 2 0,.p 3 0,.p 4 0]) B),.map (Qn I (λx=>A.a (Ue.c x)) d),.c 128 [.p 0 0],.c 33 (CB.c f),.c 39 (CE.c g)] (λr=>.a [I r.Lo,I r.Hi]) (λr=>[.c 136 (match_task.tc j m q t a7 y (.map 1) (.fn (.func 95) [] [.p 2 0,.p 3 0,.p 4 0]) B),.map (Qn I (λx=>A.a (Ue.c x)) d),.c 128 [.p 0 0],.c 33 (CB.c f),.c 39 (CE.c g),.c 83 [I r.Lo,I r.Hi]]):=by
 refine Kg 6 func168 Z Z Z Z λr h=>DU 36 Z (D 5 Z ?_);obtain⟨G,H,h⟩:=QE h;refine DS.wo (x:=.rp [I G.Lo,I G.Hi]) ?_ ?_
 .exact Ix H E8 Ge Z Wp
 refine D 7 Z ?_;obtain⟨J,L,h⟩:=QE h;refine DS.wo (x:=.rp [I J.Lo,I J.Hi]) ?_ ?_
 .exact Ix L E8 Ge Z Wp
 refine D 3 Z ?_;refine DS.v (CT.min Z Z Z Z) ?_;refine D 5 Z ?_;obtain⟨M,N,h⟩:=QE h;refine DS.wo (x:=.rp [I M.Lo,I M.Hi]) ?_ ?_
 .exact Ix N E8 Ge Z Wp
 refine D 7 Z ?_;obtain⟨O,P,h⟩:=QE h;refine DS.wo (x:=.rp [I O.Lo,I O.Hi]) ?_ ?_
 .exact Ix P E8 Ge Z Wp
 refine D 3 Z ?_;refine DS.v (CT.min Z Z Z Z) ?_;exact au h
def LD(f:Ue)(G:Int)(g:Ue)(H:Int)(J:CB)(j:CE)(a7:AA Int)(L:AA CK)(M:AA CN)(m:AA Ue)(q:Int)(t:AA (Int×Ue))(x:CB)(y:CE):AB Bool:=AH ((bif ((i64.wrap (f.Ai+1)) != (i64.wrap (g.Ai+1)))then AH (CJ j.BP (i64.wrap (g.Ai+1))) λN=>AH (CJ N (i64.wrap (f.Ai+1))) λB=>AH (CJ j.BP (i64.wrap (f.Ai+1))) λE=>AH (CJ E (i64.wrap (g.Ai+1))) λF=>AC ({Lo:=i64.wrap ((i64.wrap (g.A'.Lo-f.A'.Hi))-B),Hi:=i64.wrap ((i64.wrap (g.A'.Hi-f.A'.Lo))+F):CK})else AC ({Lo:=i64.wrap (g.A'.Lo-f.A'.Hi),Hi:=i64.wrap (g.A'.Hi-f.A'.Lo):CK})):AB CK) λh=>AH (KI n G H J j a7 L M m q t x y) λd=>AH (Md n ({Lo:=h.Lo,Hi:=h.Hi:CK}) ({Lo:=d.Lo,Hi:=d.Hi:CK})) λO=>AC (AG ((if h.Lo<d.Lo then d.Lo else h.Lo)<=(if d.Hi<h.Hi then d.Hi else h.Hi)))
instance zN(d:Ue)(T:Int)(f:Ue)(V:Int)(H:CB)(B:CE)(a7:AA Int)(J:AA CK)(L:AA CN)(j:AA Ue)(m:Int)(q:AA (Int×Ue))(t:CB)(y:CE):Ks (LD n d T f V H B a7 J L j m q t y) 102 [.p 0 0,.a (Ue.c d),I T,.a (Ue.c f),I V] [.c 136 (match_task.tc H B a7 J L j (.map 1) (.fn (.func 95) [] [.p 2 0,.p 3 0,.p 4 0]) m),.map (Qn I (λx=>A.a (Ue.c x)) q),.c 128 [.p 0 0],.c 33 (CB.c t),.c 39 (CE.c y)] (λr=>.b r):=by
 refine Kg 30 func102 Z Z Z Z λr h=>DU 7 Z (D 7 Z (Eg Z (Go 10 Z (Bd h λE g h=>?_))));refine Cg E [0,1,2,3,4,7] [0,2,4,11] Ze (λE=>[(5,.c 83 [I E.Lo,I E.Hi])]) Zf ?_ ?_
 .refine G0 0 Z (Cn Z g (λ_ g=>?_) (λ_ g=>?_))
  .obtain⟨X,Y,g⟩:=QE g;obtain⟨F,Q,g⟩:=QE g;obtain⟨P,M,g⟩:=QE g;obtain⟨N,O,g⟩:=QE g;refine Yv 30 0 [38,39,40,41,42,43,44,45,46,47,48,49,50,51,52,53,54,55,56,57,58,59,60,61,62,63,64,65,66,1000029] [AD,AD,AD,AD,AD,AD,AD,AD,AD,AD,AD,AD,AD,AD,AD,AD,AD,AD,AD,AD,AD,AD,AD,AD,AD,AD,AD,AD,AD,AE] [[],[],[],[],[],[],[],[],[],[],[],[],[],[],[],[],[],[],[],[],[],[],[],[],[],[],[],[],[],[]] [[],[29]] [[(0,0)],[(0,0)],[(0,0)],[(0,0)],[(0,0)],[(0,0)],[(0,0)],[(0,0)],[(0,0)],[(0,0)],[(0,0)],[(0,0)],[(0,0)],[(0,0)],[(0,0)],[(0,0)],[(0,0),(1,1)],[(0,0),(1,1)],[(0,0),(1,1)],[(0,0),(1,1)],[(0,0),(1,1)],[(0,0),(1,1)],[(0,0),(1,1)],[(0,0),(1,1)],[(0,0),(1,1)],[(0,0),(1,1)],[(0,0),(1,1)],[(0,0),(1,1)],[(0,0)],[(0,1)]] [.p 7 0,I (i64.wrap (f.A'.Lo-d.A'.Hi)),.p 0 0,.p 0 0,.p 0 16,.p 0 17,.q 1 (map (Qu 1 eI) B.BP),I (i64.wrap (f.Ai+1)),.rp [.q 1 (map eI X)],.q 1 (map eI X),I (i64.wrap (d.Ai+1)),.rp [I F],I F,I (i64.wrap ((i64.wrap (f.A'.Lo-d.A'.Hi))-F)),.p 7 1,I (i64.wrap (f.A'.Hi-d.A'.Lo)),.p 0 0,.p 0 0,.p 0 16,.p 0 17,.q 1 (map (Qu 1 eI) B.BP),I (i64.wrap (d.Ai+1)),.rp [.q 1 (map eI P)],.q 1 (map eI P),I (i64.wrap (f.Ai+1)),.rp [I N],I N,I (i64.wrap ((i64.wrap (f.A'.Hi-d.A'.Lo))+N)),.p 7 0,.any] [[.c 136 (match_task.tc H B a7 J L j (.map 1) (.fn (.func 95) [] [.p 2 0,.p 3 0,.p 4 0]) m),.map (Qn I (λx=>A.a (Ue.c x)) q),.c 128 [.p 0 0],.c 33 (CB.c t),.c 39 (CE.c y),.c 145 (Ue.c d),.c 145 (Ue.c f),.c 83 [I (i64.wrap (f.A'.Lo-d.A'.Hi)),I (i64.wrap (f.A'.Hi-d.A'.Lo))]],[.c 136 (match_task.tc H B a7 J L j (.map 1) (.fn (.func 95) [] [.p 2 0,.p 3 0,.p 4 0]) m),.map (Qn I (λx=>A.a (Ue.c x)) q),.c 128 [.p 0 0],.c 33 (CB.c t),.c 39 (CE.c y),.c 145 (Ue.c d),.c 145 (Ue.c f),.c 83 [I (i64.wrap ((i64.wrap (f.A'.Lo-d.A'.Hi))-F)),I (i64.wrap (f.A'.Hi-d.A'.Lo))]]] ([.c 136 (match_task.tc H B a7 J L j (.map 1) (.fn (.func 95) [] [.p 2 0,.p 3 0,.p 4 0]) m),.map (Qn I (λx=>A.a (Ue.c x)) q),.c 128 [.p 0 0],.c 33 (CB.c t),.c 39 (CE.c y),.c 145 (Ue.c d),.c 145 (Ue.c f),.c 83 [I (i64.wrap ((i64.wrap (f.A'.Lo-d.A'.Hi))-F)),I (i64.wrap (f.A'.Hi-d.A'.Lo))]]) DF Z Z Z Z Z Z Z ?_ Z ?_
   .refine M1 (M1 (M1 (Cq.cons ?_ (M1 (M1 (M1 (M1 (Cq.cons ?_ (M1 (M1 (Cq.cons ?_ (M1 (Cq.cons ?_ (M1 (M1 (M1 (Cq.cons ?_ (M1 (M1 (M1 (M1 (Cq.cons ?_ (M1 (M1 (Cq.cons ?_ (M1 (Cq.cons ?_ (M1 (Cq.cons ?_ (Cq.nil))))))))))))))))))))))))))))))
    .refine Qb ?_ (Qf)
     .refine Om Z (sD 2 sN) ?_;exact S Z Wp
    .refine Qb ?_ (Qf)
     .refine Om Z (sD 6 (sD 7 sN)) ?_;exact Ix Y EG EO Z Wp
    .refine Qb ?_ (Qf)
     .refine Om Z (sD 9 (sD 10 sN)) ?_;exact Ix Q EB EC Z Wp
    .refine Qb ?_ (Qf)
     .refine Om Z (sD 1 (sD 12 sN)) ?_;exact S Z Wp
    .refine Qb ?_ (Qb ?_ (Qf))
     iterate 2 refine Om Z (sD 16 sN) ?_;exact S Z Wp
    .refine Qb ?_ (Qb ?_ (Qf))
     iterate 2 refine Om Z (sD 20 (sD 21 sN)) ?_;exact Ix M EG EO Z Wp
    .refine Qb ?_ (Qb ?_ (Qf))
     iterate 2 refine Om Z (sD 23 (sD 24 sN)) ?_;exact Ix O EB EC Z Wp
    .refine Qb ?_ (Qb ?_ (Qf))
     iterate 2 refine Om Z (sD 15 (sD 26 sN)) ?_;exact S Z Wp
    .refine Qb ?_ (Qf)
     .refine TH Z (sD 13 (sD 28 sN)) ?_;refine vU (Ey Z Z Z EC Z Z Z Z Z Z Z) ?_;exact FE Z Wp
   exact au g
  exact au g
 refine Gc 1 Z (Hn 5 [4] [(0,0,1),(0,0,0),(0,0,0),(0,0,0),(1,0,0)] (by kernel_rfl) ?_);refine KR (lo:=0) (x:=.a [I E.Lo,I E.Hi]) ⟨Z,trivial⟩ ?_;refine Dk 3 Z ?_;obtain⟨G,R,h⟩:=QE h;refine Ex (x:=.a [I G.Lo,I G.Hi]) (X1:=[.c 136 (match_task.tc H B a7 J L j (.map 1) (.fn (.func 95) [] [.p 2 0,.p 3 0,.p 4 0]) m),.map (Qn I (λx=>A.a (Ue.c x)) q),.c 128 [.p 0 0],.c 33 (CB.c t),.c 39 (CE.c y),.c 83 [I E.Lo,I E.Hi],.c 83 [I G.Lo,I G.Hi]]) ?_ ?_
 .refine Qg [0,1,2,3,4] (C8.fn call168 Z Z Z) ((jq _ _ _ _ _ _ _ _ _ _ _ _ _).c _ R) ?_;rintro _ _ ⟨rfl,rfl⟩;exact FE Z Wp
 exact DK.done Z Z (Cz [] h Kc Z λab aa h=>Gt 4 Z h 10 [0,1,2,3,4])
def IO(d:Uh)(m:Int)(F:Int)(q:CB)(t:CE)(x:AA Int)(a7:AA CK)(y:AA CN)(B:AA Ue)(f:Int)(g:AA (Int×Ue))(h:CB)(j:CE):AB (Uh×Bool):=AH (Io n m F q t x a7 y B f g h j) λE=>(bif (!E.2)then AC ({d with row:=i64.wrap (d.row+1):Uh},AG ((i64.wrap (d.row+1))<=q.AQ.A_))else AH ((bif 0<=F then AH (J_ n F m h j q t x a7 y B f g) λG=>(bif (!G)then AC AE else(bif 0<=d.Bn then AH (LD n d.Bz d.Bn E.1 m q t x a7 y B f g h j) λH=>AC (!H)else AC AD))else(bif 0<=d.Bn then AH (LD n d.Bz d.Bn E.1 m q t x a7 y B f g h j) λJ=>AC (!J)else AC AD)):AB Bool) λL=>(bif L then AC (d,AD)else AC ({Bn:=m,Bz:=E.1,row:=0:Uh},AE)))
instance zk(d:Uh)(F:Int)(G:Int)(q:CB)(t:CE)(y:AA Int)(a7:AA CK)(B:AA CN)(E:AA Ue)(f:Int)(g:AA (Int×Ue))(j:CB)(m:CE):Kq (IO n d F G q t y a7 B E f g j m) 41 [.p 0 0,.a (Uh.c d),I F,I G] [.c 136 (match_task.tc q t y a7 B E (.map 1) (.fn (.func 95) [] [.p 2 0,.p 3 0,.p 4 0]) f),.map (Qn I (λx=>A.a (Ue.c x)) g),.c 128 [.p 0 0],.c 33 (CB.c j),.c 39 (CE.c m)] (λr=>.t [.a (Uh.c r.1),.b r.2]) (λr=>[.c 136 (match_task.tc q t y a7 B E (.map 1) (.fn (.func 95) [] [.p 2 0,.p 3 0,.p 4 0]) f),.map (Qn I (λx=>A.a (Ue.c x)) g),.c 128 [.p 0 0],.c 33 (CB.c j),.c 39 (CE.c m),.c 147 (Uh.c r.1)]):=by
 refine Kg 12 func41 Z Z Z Z λr h=>Cd [0,1,2,3,4] h Kc Z λJ M h=>Fg 15 Z Z (Cn Z h (λ_ h=>?_) (λ_ h=>?_))
 .refine Gc 10 Z (Hn 11 [10] [(0,0,0),(0,0,1),(0,0,1),(0,0,1),(0,0,1),(0,0,1),(0,0,1),(0,0,1),(0,0,1),(0,0,1),(1,0,0)] (by kernel_rfl) (Dk 2 Z ?_));refine KR (lo:=0) (x:=I (i64.wrap (d.row+1))) ⟨Z,trivial⟩ ?_;refine Dk 5 Z ?_;refine KR (lo:=0) (x:=I q.AQ.A_) ⟨Z,trivial⟩ ?_;refine Dk 1 Z ?_;refine DK.un (X1:=[.c 136 (match_task.tc q t y a7 B E (.map 1) (.fn (.func 95) [] [.p 2 0,.p 3 0,.p 4 0]) f),.map (Qn I (λx=>A.a (Ue.c x)) g),.c 128 [.p 0 0],.c 33 (CB.c j),.c 39 (CE.c m),.c 147 (Uh.c ({d with row:=i64.wrap (d.row+1):Uh})),.c 147 (Uh.c ({d with row:=i64.wrap (d.row+1):Uh})),.c 145 (Ue.c J.1),.c 145 (Ue.c J.1)]) ?_ ?_
  .refine vU (Ey Z Z Z sizeOf147 Z Z Z Z Z Z Z) ?_;refine N7 (H:=[_,_,_,_,_,_,.c 147 (Uh.c ({d with row:=i64.wrap (d.row+1):Uh})),_,_]) Z ?_;exact Wp
  refine DK.done Z Z (Go 5 Z ?_);exact au h
 exact au h
end Go.Sw
