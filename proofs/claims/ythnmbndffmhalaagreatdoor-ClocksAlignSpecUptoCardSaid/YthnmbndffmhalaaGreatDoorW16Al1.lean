/- What the functions compute that ClocksAlignSpec reaches, and that their calls refine it (part 1 of 5). -/
import Derived.Test.YthnmbndffmhalaaGreatDoorW16AlB
set_option linter.unusedVariables false
set_option linter.unusedSimpArgs false
set_option maxRecDepth 100000
set_option maxHeartbeats 4000000
namespace Go.Sw
open Option renaming some→AC,none→AF,bind→AH
open Bool renaming false→AD,true→AE
open Decidable renaming decide→AG
open List renaming length→AI
variable (n:Nat)
open List(map)
open Int(toNat)
open Go.IntKind(i64 u64 u8)
open Go.Proofs Tryz
def cJ(n:Nat):AB Unit:=AC ()
theorem gz:Kq (cJ n) 14 [] [] (λ_=>.a [.str [97],.o 0 ([{An:=[108,105,110,101],AN:=1:Ag},{An:=[116,117,114,110],AN:=2:Ag}].length) 2,.q 4 (map DO.c []),.q 5 (map AQ.c []),.q 2 (map A'.c []),.q 4 (map Ah.c []),.q 3 (map Aa.c []),.q 4 (map CB.c []),.o 1 ([{Uu with AN:=1,By:=5:AZ}].length) 8,I 0,I 0,I 0,I 5000,I 20,I 0,I 0]) (λ_=>[.r 112 2 (map Ag.c [{An:=[108,105,110,101],AN:=1:Ag},{An:=[116,117,114,110],AN:=2:Ag}]),.r 117 8 (map AZ.enc [{Uu with AN:=1,By:=5:AZ}]),.c 33 [.str [97],.o 0 ([{An:=[108,105,110,101],AN:=1:Ag},{An:=[116,117,114,110],AN:=2:Ag}].length) 2,.q 4 (map DO.c []),.q 5 (map AQ.c []),.q 2 (map A'.c []),.q 4 (map Ah.c []),.q 3 (map Aa.c []),.q 4 (map CB.c []),.o 1 ([{Uu with AN:=1,By:=5:AZ}].length) 8,I 0,I 0,I 0,I 5000,I 20,I 0,I 0]]):=by
 refine Kg 9 func14 Z Z Z Z λr h=>vH (Em (xs:=[.tmp 1,.tmp 2]) (es:=map Ag.c [{An:=[108,105,110,101],AN:=1:Ag},{An:=[116,117,114,110],AN:=2:Ag}]) ZP Z Z Z Z Z ⟨Z,Z,trivial⟩ Z Z) ?_;refine Fg 1 Z Z (vH (Em (xs:=[.tmp 4]) (es:=map AZ.enc [{Uu with AN:=1,By:=5:AZ}]) ZO Z Z Z Z Z ⟨Z,trivial⟩ Z Z) ?_);refine Fg 6 Z Z ?_;obtain rfl:=Oi h;exact Rx [1,2,0] [0] Z (Q5 Z (Qf isAgg33 sizeOf33 Z Z Z)) ⟨Z,Z⟩
def LK(n:Nat)(g:AA Bo)(h:Int)(rec7:(AA Bo)->Int->AB (Int×Int))(a:Int×Int×Int):AB (Bn (Int×Int×Int) (Int×Int)):=(bif a.2.2<(AI g:Int) then AH (AH (Bt g a.2.2) λe=>AH ((bif ((AI e.Ac:Int)==0)then AC AE else(bif (h==0)then AC AE else AC (AG (256<a.2.1)))):AB Bool) λi=>(bif i then AC (a.1,a.2.1)else AH (rec7 e.Ac (i64.wrap (h-1))) λd=>AC ((if a.1<i64.wrap (d.1+1)then i64.wrap (d.1+1)else a.1),i64.wrap (a.2.1+d.2))):AB (Int×Int)) λf=>AC (.k (f.1,f.2,i64.wrap (a.2.2+1)))else AC (.d (a.1,a.2.1)))
def Oz(rec7:(AA Bo)->Int->AB (Int×Int))(n:Nat)(d:AA Bo)(e:Int):AB (Int×Int):=AH (iter (LK n d e rec7) n (0,(AI d:Int),0):AB (Int×Int)) λa=>AC (a.1,a.2)
theorem Qd5(rec7:(AA Bo)->Int->AB (Int×Int))(m:∀(j:AA Bo) (k:Int) (r:Int×Int),rec7 j k=AC r->DE prog 90 [.q 3 (map Bo.enc j),I k] [] (λr=>.t [I r.1,I r.2]) r)(n:Nat)(j:AA Bo)(k:Int)(r:Int×Int)(h:Oz rec7 n j k=AC r):DE prog 90 [.q 3 (map Bo.enc j),I k] [] (λr=>.t [I r.1,I r.2]) r:=by
 refine QK func90 Z Z Z ?_;refine G0 9 Z (Lg 7 Z Z (Lg 3 Z Z (Bd h λg y h=>Cg g [] [] (λg=>[(4,I g.1),(5,I g.2)]) Ze Zf ?_ ?_)))
 .refine G0 1 Z (Lp [] [1,12,13] (λf=>[(4,I f.1),(5,I f.2.1),(14,I f.2.2)]) Ze y Zf (Lr []) λf E e q=>?_);refine G0 6 Z (Q8 Z e (λ_ e=>?_) (λ_ e=>?_))
  .exact Gc 2 Z (Qj e (Gx 1 Z (DM q e (Lr []))))
  refine Gc 3 Z (Bd e λi a e=>Cg i [] [1,12,13,14] (λi=>[(4,I i.1),(5,I i.2)]) Ze Zf ?_ ?_)
  .refine G0 3 Z (Bd a λz t a=>Fm t (Yi z) Z (Go 7 Z (Bd a λl d a=>Cg l [0] [1,4,5,7,12,13,14] (λl=>[(29,.b l)]) Ze Zf ?_ ?_)))
   .refine G0 3 Z (Lg 2 Z Z (Is 22 d Z (λ_ d=>?_) (λ_ d=>?_)))
    .exact Gl 8 Z d [0]
    .refine Go 4 Z (Is 26 d Z (λ_ d=>?_) (λ_ d=>?_))
     iterate 2 exact Gl 4 Z d [0]
   refine Cn Z a (λ_ a=>?_) (λ_ a=>?_)
   .exact Yy 3 Z a []
   refine Gc 8 Z (Cd [] a (m _ _) Z λp B a=>Fg 11 Z Z ?_);refine vX (I (if f.1<i64.wrap (p.1+1)then i64.wrap (p.1+1)else f.1)) (Bz.max Z Z Z Z) ?_;exact Gl 7 Z a []
  exact Gc 4 Z (Qg e (Lr []))
 refine Gc 9 Z ?_;obtain rfl:=Oi h;exact R2 4 5 Z Z (Lr [])
def Ii:Nat->(AA Bo)->Int->AB (Int×Int)
  |0=>λ_ _=>AF
  |n+1=>Oz (Ii n) n
theorem kd:∀(a:AA Bo) (d:Int) (r:Int×Int),Ii n a d=AC r->DE prog 90 [.q 3 (map Bo.enc a),I d] [] (λr=>.t [I r.1,I r.2]) r:=by
  induction n with
  |zero=>intro a d r h;cases h
  |succ n ih=>intro a d r h;exact Qd5 _ ih n a d r h
def SI(f:Bl)(a:Int):AB (Bn Int (Bn Unit Bool)):=(bif a<(AI f.AX:Int) then AH (Bt f.AX a) λd=>AH (Ii n d.Aw 17) λe=>AH ((bif 64<(AI d.Ao:Int) then AC AE else(bif 16<e.1 then AC AE else AC (AG (256<e.2)))):AB Bool) λg=>(bif g then AC (.d (.d AD))else AC (.k (i64.wrap (a+1))))else AC (.d (.k ())))
def N'(a:Bl):AB Bool:=AH ((bif 40<(AI a.Ar:Int) then AC AE else(bif 512<(AI a.A8:Int) then AC AE else(bif 8<(AI a.AX:Int) then AC AE else(bif 32<(AI a.A9:Int) then AC AE else(bif 32<(AI a.Aq:Int) then AC AE else(bif 32<(AI a.Ae:Int) then AC AE else AC (AG (32<(AI a.A7:Int))))))))):AB Bool) λf=>(bif f then AC AD else AH (iter (SI n a) n 0:AB (Bn Unit Bool)) λe=>match e with|.k d=>(AC AE)|.d d=>AC d)
theorem jv(z:Bl):Ks (N' n z) 55 [.a (Bl.c z)] [] (λr=>.b r):=by
 refine Kg 8 func55 Z Z Z Z λr h=>Bd h λj d h=>Ct j [0] [1] (λj=>[(46,.b j)]) Ze Zf ?_ (λenv H B=>?_)
 .refine G0 3 Z (Lg 2 Z Z (Is 11 d Z (λ_ d=>?_) (λ_ d=>?_)))
  .exact Gl 36 Z d [0]
  .refine Go 2 Z (Lg 3 Z Z (Is 17 d Z (λ_ d=>?_) (λ_ d=>?_)))
   .exact Gl 30 Z d [0]
   .refine Go 2 Z (Lg 3 Z Z (Is 23 d Z (λ_ d=>?_) (λ_ d=>?_)))
    .exact Gl 24 Z d [0]
    .refine Go 2 Z (Lg 3 Z Z (Is 29 d Z (λ_ d=>?_) (λ_ d=>?_)))
     .exact Gl 18 Z d [0]
     .refine Go 2 Z (Lg 3 Z Z (Is 35 d Z (λ_ d=>?_) (λ_ d=>?_)))
      .exact Gl 12 Z d [0]
      .refine Go 2 Z (Lg 3 Z Z (Is 41 d Z (λ_ d=>?_) (λ_ d=>?_)))
       .exact Gl 6 Z d [0]
       .exact Go 2 Z (Lm Z (Gl 3 Z d [0]))
 refine Gx 1 Z (Eg B (Cn Z h (λ_ h=>?_) (λ_ h=>?_)))
 .exact QG 7 Z h 2 []
 refine Gc 7 Z (Lg 3 Z Z (Bd h λF G h=>DF (b:=F) [] [] Ze Ze Zf ?_ (λ_ J=>?_)))
 .refine G0 1 Z (Lp [] [48,49] (λi=>[(50,I i)]) Ze G Zf (Lr []) λi N a f=>?_);refine G0 6 Z (Q8 Z a (λ_ a=>?_) (λ_ a=>?_))
  .exact Gc 2 Z (Qj a (Gx 1 Z (Ji f a Z (Lr []))))
  refine Gc 6 Z (Bd a λO u a=>Iz u Z (Go 9 Z (Cd [] a (kd _ _ _) Z λP M a=>Fg 8 Z Z (Bd a λg e a=>Cg g [] [48,49,50] (λg=>[(71,.b g)]) Ze Zf ?_ ?_))))
  .refine G0 3 Z (Lg 2 Z Z (Is 64 e Z (λ_ e=>?_) (λ_ e=>?_)))
   .exact Gl 8 Z e []
   .refine Go 4 Z (Is 68 e Z (λ_ e=>?_) (λ_ e=>?_))
    iterate 2 exact Gl 4 Z e []
  refine Cn Z a (λ_ a=>?_) (λ_ a=>?_)
  .refine Gc 8 Z (Qv a ?_);obtain rfl:=Oj f a;exact Gx 1 Z (Qq (Gx 1 Z (Rt h 2 [])))
  exact Gc 7 Z (Qg a (Lr []))
 subst J;exact QG 6 Z h 2 []
def LE(n:Nat)(a:(AA Int)×Int):AB (Bn ((AA Int)×Int) (AA Int)):=(bif a.2<=122 then AH (KU 256 a.1 a.2) λf=>AH (Fe a.1 a.2 2) λd=>AH (KU 256 d (u8.wrap (a.2-32))) λg=>AH (Fe d (u8.wrap (a.2-32)) 2) λe=>AC (.k (e,u8.wrap (a.2+1)))else AC (.d a.1))
def NC(n:Nat)(a:(AA Int)×Int):AB (Bn ((AA Int)×Int) (AA Int)):=(bif a.2<=57 then AH (KU 256 a.1 a.2) λe=>AH (Fe a.1 a.2 3) λd=>AC (.k (d,u8.wrap (a.2+1)))else AC (.d a.1))
def SG(n:Nat)(a:(AA Int)×Int):AB (Bn ((AA Int)×Int) (AA Int)):=(bif a.2<([123,125,40,41,91,93,59,44,61,60,62].length:Int) then AH (Bt [123,125,40,41,91,93,59,44,61,60,62] a.2) λd=>AH (KU 256 a.1 d) λf=>AH (Fe a.1 d 4) λe=>AC (.k (e,i64.wrap (a.2+1)))else AC (.d a.1))
def bQ(n:Nat)(a:(AA Int)×Int):AB (Bn ((AA Int)×Int) (AA Int)):=(bif a.2<(([32,9,10,13].length):Int) then AH (Bt [32,9,10,13] a.2) λd=>AH (KU 256 a.1 d) λf=>AH (Fe a.1 d 1) λe=>AC (.k (e,i64.wrap (a.2+1)))else AC (.d a.1))
def Nn:AB (AA Int):=AH (iter (LE n) n (List.replicate 256 0,97):AB (AA Int)) λd=>AH (iter (NC n) n (d,48):AB (AA Int)) λe=>AH (iter (SG n) n (e,0):AB (AA Int)) λf=>AH (iter (bQ n) n (f,0):AB (AA Int)) λa=>AH (Hu 256 a) λg=>AH (Hu 256 a) λi=>AH (Hu 256 g) λh=>AC h
theorem jY:Kq (Nn n) 251 [] [] (λr=>.a (List.flatten (map (Qe .u8) r))) (λr=>[.r 343 1 (map (Qe .u8) r)]):=by
 refine Kg 2 func251 Z Z Z Z λr h=>vH (Js (n:=256) (k:=1) (e:=(Qe .u8)) (z:=0) zeroValue343 (by kernel_rfl) (by kernel_rfl) (by kernel_rfl) Z) ?_;refine Fg 8 Z Z (Bd h λw ah h=>Ct w [0] [0] Ze (λw=>[(0,.r 343 1 (map (Qe .u8) w))]) Zf ?_ (λenv H q=>?_))
 .refine G0 1 Z (Lp [0] [0] (λj=>[(1,.i .u8 j.2)]) (λj=>[(0,.r 343 1 (map (Qe .u8) j.1))]) ah Zf (Lr [0]) λj aq a O=>?_);refine G0 7 Z (Q8 Z a (λ_ a=>?_) (λ_ a=>?_))
  .exact Gc 2 Z (Qj a (Gx 1 Z (DM O a (Lr [0]))))
  refine Gc 8 Z (Bd a λar x a=>?_);refine vX (.p 0 (toNat j.2*1)) (Ry (n:=256) (k:=1) (l:=j.1) x E9 Gb Z) ?_;refine Bd a λai Q a=>?_;refine vU (Yt (e:=(Qe .u8)) (k:=1) (f:=0) (Pf x).2 Q Gb Z Z) ?_;refine FE Z (Bd a λau y a=>?_);refine vX (.p 0 (toNat (u8.wrap (j.2-32))*1)) (Ry (n:=256) (k:=1) (l:=ai) y E9 Gb Z) ?_;refine Bd a λav R a=>?_;refine vU (Yt (e:=(Qe .u8)) (k:=1) (f:=0) (Pf y).2 R Gb Z Z) ?_;exact Fg 8 Z Z (Qg a (Lr [0]))
 refine Gx 1 Z (Eg q (Gc 6 Z (Bd h λB aj h=>Ct B [0] [0] Ze (λB=>[(0,.r 343 1 (map (Qe .u8) B))]) Zf ?_ (λenv H q=>?_))))
 .refine G0 1 Z (Lp [0] [0] (λm=>[(2,.i .u8 m.2)]) (λm=>[(0,.r 343 1 (map (Qe .u8) m.1))]) aj Zf (Lr [0]) λm aw i T=>?_);refine G0 7 Z (Q8 Z i (λ_ i=>?_) (λ_ i=>?_))
  .exact Gc 2 Z (Qj i (Gx 1 Z (DM T i (Lr [0]))))
  refine Gc 6 Z (Bd i λax E i=>?_);refine vX (.p 0 (toNat m.2*1)) (Ry (n:=256) (k:=1) (l:=m.1) E E9 Gb Z) ?_;refine Bd i λay W i=>?_;refine vU (Yt (e:=(Qe .u8)) (k:=1) (f:=0) (Pf E).2 W Gb Z Z) ?_;exact Fg 8 Z Z (Qg i (Lr [0]))
 refine Gx 1 Z (Eg q (Gc 3 Z (vH (Em (xs:=[.const (.int .u8 123),.const (.int .u8 125),.const (.int .u8 40),.const (.int .u8 41),.const (.int .u8 91),.const (.int .u8 93),.const (.int .u8 59),.const (.int .u8 44),.const (.int .u8 61),.const (.int .u8 60),.const (.int .u8 62)]) (es:=map (Qe .u8) [123,125,40,41,91,93,59,44,61,60,62]) YI Z Z Z Z Z ⟨Z,Z,Z,Z,Z,Z,Z,Z,Z,Z,Z,trivial⟩ Z Z) ?_)));refine FE Z (vH (yD (es:=map (Qe .u8) [123,125,40,41,91,93,59,44,61,60,62]) underlying239 underlying5 (X3 ..) Z) ?_);refine FE Z (Lg 3 Z Z (Bd h λF ak h=>Ct F [0] [0] Ze (λF=>[(0,.r 343 1 (map (Qe .u8) F))]) Zf ?_ (λenv H q=>?_)))
 .refine G0 1 Z (Lp [0] [0,23,24] (λs=>[(25,I s.2)]) (λs=>[(0,.r 343 1 (map (Qe .u8) s.1))]) ak Zf (Lr [0]) λs az d X=>?_);refine G0 6 Z (Q8 Z d (λ_ d=>?_) (λ_ d=>?_))
  .exact Gc 2 Z (Qj d (Gx 1 Z (DM X d (Lr [0]))))
  refine Gc 6 Z (Bd d λal aa d=>Iz aa Z (Go 6 Z (Bd d λba G d=>?_)));refine vX (.p 0 (toNat al*1)) (Ry (n:=256) (k:=1) (l:=s.1) G E9 Gb Z) ?_;refine Bd d λbb ab d=>?_;refine vU (Yt (e:=(Qe .u8)) (k:=1) (f:=0) (Pf G).2 ab Gb Z Z) ?_;exact Fg 7 Z Z (Qg d (Lr [0]))
 refine Gx 1 Z (Eg q (Gc 3 Z (vH (Em (xs:=[.const (.int .u8 32),.const (.int .u8 9),.const (.int .u8 10),.const (.int .u8 13)]) (es:=map (Qe .u8) [32,9,10,13]) YI Z Z Z Z Z ⟨Z,Z,Z,Z,trivial⟩ Z Z) ?_)));refine Fg 4 Z Z (Bd h λu am h=>Cg u [0] [0] Ze (λu=>[(0,.r 343 1 (map (Qe .u8) u))]) Zf ?_ ?_)
 .refine G0 1 Z (Lp [0,1] [0,32,33] (λp=>[(34,I p.2)]) (λp=>[(0,.r 343 1 (map (Qe .u8) p.1))]) am Zf (Lr [0,1]) λp bc g ac=>?_);refine G0 6 Z (Q8 Z g (λ_ g=>?_) (λ_ g=>?_))
  .exact Gc 2 Z (Qj g (Gx 1 Z (DM ac g (Lr [0]))))
  refine Gc 6 Z (Bd g λN J g=>?_);refine vX (.p 1 (toNat p.2*1)) (Qk J Z EM Gb) ?_;refine vX (.i .u8 N) (EC Z isAgg5 Z (Ql J)) ?_;refine Go 5 Z (Bd g λbd L g=>?_);refine vX (.p 0 (toNat N*1)) (Ry (n:=256) (k:=1) (l:=p.1) L E9 Gb Z) ?_;refine Bd g λbe ae g=>?_;refine vU (Yt (e:=(Qe .u8)) (k:=1) (f:=0) (Pf L).2 ae Gb Z Z) ?_;exact Fg 7 Z Z (Qg g (Lr [0,1]))
 refine Gc 2 Z (Bd h λan af h=>?_);refine vX (.a (List.flatten (map (Qe .u8) an))) (Qj0 (e:=(Qe .u8)) af Zf Z isAgg343 GO) ?_;refine Bd h λbg ag h=>Bd h λao t h=>?_;obtain⟨M,rfl⟩:=JK ag;refine vU (Jr (e:=(Qe .u8)) (l:=u) (l':=ao) M (Rw t) Zf Z GO Zf Zf (congrArg (λl=>List.flatten (map (Qe .u8) l)) (JK t).2.symm)) ?_;refine Fg 3 Z Z ?_;obtain rfl:=Oi h;exact Rx [0] [0] Z (Q5 Z (yN (e:=(Qe .u8)) (Rw t) Zf Z isAgg343 GO)) ⟨Z,Z⟩
def SC(n:Nat)(e:AA UInt8)(i:AA Int)(a:Int):AB (Bn Int (Bn Unit Bool)):=(bif a<(AI e:Int) then AH (Bt e a) λf=>AH (KU 256 i (f.toNat:Int)) λd=>AH ((bif (d != 2)then(bif (a==0)then AC AE else(bif (d != 3)then AH (Bt e a) λg=>AC ((g.toNat:Int) != 95)else AC AD))else AC AD):AB Bool) λh=>(bif h then AC (.d (.d AD))else AC (.k (i64.wrap (a+1))))else AC (.d (.k ())))
def OG(d:AA UInt8):AB Bool:=AH (Nn n) λf=>AH (Hu 256 (List.replicate 256 0)) λh=>AH (Hu 256 f) λg=>AH (iter (SC n d g) n 0:AB (Bn Unit Bool)) λe=>match e with|.k a=>(AC (d != []))|.d a=>AC a
theorem j4(q:AA UInt8):Ks (OG n q) 223 [.str q] [] (λr=>.b r):=by
 refine Kg 7 func223 Z Z Z Z λr h=>Bd h λG J h=>?_;refine Qs [] (DN.fn call251 Z Z Z) (jY _ _ J) ?_;rintro _ _ ⟨rfl,rfl⟩;refine Rm (x:=(.a (List.flatten (map (Qe .u8) G)))) (H:=[.r 343 1 (map (Qe .u8) G)]) (wt (e:=(Qe .u8)) Zf _ _) Z ?_;refine vH (Js (n:=256) (k:=1) (e:=(Qe .u8)) (z:=0) zeroValue343 (by kernel_rfl) (by kernel_rfl) (by kernel_rfl) Z) ?_;refine FE Z (Bd h λW L h=>Bd h λM j h=>?_);obtain⟨s,rfl⟩:=JK L;refine vU (Jr (e:=(Qe .u8)) (l:=(List.replicate 256 0)) (l':=M) s (Rw j) Zf Z GO Zf Zf (congrArg (λl=>List.flatten (map (Qe .u8) l)) (JK j).2.symm)) ?_;refine Fg 6 Z Z ?_;refine vX (I (AI q:Int)) (Jm Z Z EJ Z) ?_;refine Go 3 Z (Bd h λN O h=>DF (b:=N) [] [0] Ze Ze Zf ?_ (λ_ P=>?_))
 .refine G0 1 Z (Lp [1] [0,3,8] (λm=>[(9,I m)]) Ze O Zf (Lr [1]) λm V a f=>?_);refine G0 6 Z (Q8 Z a (λ_ a=>?_) (λ_ a=>?_))
  .exact Gc 2 Z (Qj a (Gx 1 Z (Ji f a Z (Lr []))))
  refine Gc 14 Z (Bd a λp u a=>?_);refine vX (.i .u8 (p.toNat:Int)) (Q3 u EJ) ?_;refine Bd a λQ g a=>?_;refine vX (.p 0 (toNat (p.toNat:Int)*1)) (Ry (n:=256) (k:=1) (l:=M) g E9 Gb Z) ?_;refine vX (.i .u8 Q) (EC Z isAgg5 Z (Ql (Pf g).2)) ?_;refine Go 4 Z (Bd a λi d a=>Cg i [0] [0,3,8,9] (λi=>[(32,.b i)]) Ze Zf ?_ ?_)
  .refine G0 4 Z (Is 19 d Z (λ_ d=>?_) (λ_ d=>?_))
   .refine Go 3 Z (Is 22 d Z (λ_ d=>?_) (λ_ d=>?_))
    .exact Gl 11 Z d [0]
    .refine Go 3 Z (Is 25 d Z (λ_ d=>?_) (λ_ d=>?_))
     .refine Go 2 Z (Bd d λR E d=>?_);refine vX (.i .u8 (R.toNat:Int)) (Q3 E EJ) ?_ (gT Z);exact Gl 5 Z d [0]
     .exact Gl 8 Z d [0]
   .exact Gl 14 Z d [0]
  refine Cn Z a (λ_ a=>?_) (λ_ a=>?_)
  .refine Gc 8 Z (Qv a ?_);obtain rfl:=Oj f a;exact Gx 1 Z (Qq (Gx 1 Z (Rt h 2 [])))
  exact Gc 7 Z (Qg a (Lr [0]))
 subst P;exact QG 8 Z h 2 []
def Sk(a:AA UInt8):AB Bool:=AH (AH (OG n a) λg=>(bif g then AH (cat [32] a) λd=>AH (cat d [32]) λe=>AH (Z5 [32,99,111,117,114,115,101,32,109,97,116,115,32,115,116,97,114,116,32,112,97,115,115,32,101,110,100,32,108,101,103,32,116,111,32,100,105,115,116,97,110,99,101,32,103,117,110,32,99,104,105,112,32,115,108,111,116,32,108,97,112,115,32,108,97,112,32,99,117,116,111,102,102,32,101,120,116,114,97,32,119,97,118,101,32,111,102,102,101,110,99,101,32,111,117,116,32,99,97,116,101,103,111,114,121,32,112,114,105,122,101,32,97,108,108,32,116,105,101,115,32,105,102,32,101,108,115,101,32,97,110,100,32,111,114,32,110,111,116,32,111,108,100,101,114,32,121,111,117,110,103,101,114,32,98,105,98,32,100,114,97,119,32,102,105,101,108,100,32,115,104,111,114,116,32,102,97,117,108,116,115,32,109,105,115,115,101,115,32,115,116,114,97,121,115,32,119,105,110,100,111,119,32,114,101,115,105,100,117,97,108,32,100,114,105,102,116,32,112,114,111,116,101,115,116,32,102,101,101,32,100,101,97,100,108,105,110,101,32] e) λf=>AC f else AC AD):AB Bool) λh=>AC h
theorem iV(i:AA UInt8):Ks (Sk n i) 164 [.str i] [] (λr=>.b r):=by
 refine Kg 6 func164 Z Z Z Z λr h=>Bd h λd a h=>Cg d [] [] (λd=>[(2,.b d)]) Ze Zf ?_ ?_
 .refine G0 2 Z (Cz [] a (j4 _ _) Z λq m a=>Go 1 Z (Is 5 a Z (λ_ a=>?_) (λ_ a=>?_)))
  .refine Go 1 Z (Bd a λk e a=>?_);refine vX (.str k) (tD e) ?_ (gT Z);refine Bd a λl f a=>?_;refine vX (.str l) (tD f) ?_ (gT Z);refine Bd a λp g a=>?_;refine Qs [] (DN.fn call224 Z Z Z) (C.contains Qec Z g) ?_ (hg:=(gT Z));rintro _ _ ⟨rfl,rfl⟩;exact FE Z (Gl 3 Z a [])
  .exact Gl 7 Z a []
 exact QG 1 Z h 2 []
def Nd(n:Nat)(e:AA UInt8)(d:Int):AB (Bn Int (Bn Unit Bool)):=(bif d<(AI e:Int) then AH (Bt e d) λa=>AH ((bif (a.toNat:Int)<97 then(bif (a.toNat:Int)<48 then AC ((a.toNat:Int) != 95)else(bif 57<(a.toNat:Int) then AC ((a.toNat:Int) != 95)else AC AD))else(bif 122<(a.toNat:Int) then(bif (a.toNat:Int)<48 then AC ((a.toNat:Int) != 95)else(bif 57<(a.toNat:Int) then AC ((a.toNat:Int) != 95)else AC AD))else AC AD)):AB Bool) λf=>(bif f then AC (.d (.d AD))else AC (.k (i64.wrap (d+1))))else AC (.d (.k ())))
def K5(a:AA UInt8):AB Bool:=AH ((bif (AI a:Int)<1 then AC AE else(bif 24<(AI a:Int) then AC AE else AH (Bt a 0) λe=>(bif (e.toNat:Int)<97 then AC AE else AH (Bt a 0) λf=>AC (AG (122<(f.toNat:Int)))))):AB Bool) λi=>(bif i then AC AD else AH (iter (Nd n a) n 0:AB (Bn Unit Bool)) λg=>match g with|.k d=>(AH (Sk n a) λh=>AC (!h))|.d d=>AC d)
theorem Tn(f:AA UInt8):Ks (K5 n f) 91 [.str f] [] (λr=>.b r):=by
 refine Kg 7 func91 Z Z Z Z λr h=>Bd h λk e h=>Ct k [] [0] (λk=>[(22,.b k)]) Ze Zf ?_ (λenv H F=>?_)
 .refine G0 2 Z ?_;refine vX (I (AI f:Int)) (Jm Z Z EJ Z) ?_;refine Go 2 Z (Is 8 e Z (λ_ e=>?_) (λ_ e=>?_))
  .exact Gl 15 Z e []
  .refine Go 1 Z ?_;refine vX (I (AI f:Int)) (Jm Z Z EJ Z) ?_ (gT Z);refine Go 3 Z (Is 13 e Z (λ_ e=>?_) (λ_ e=>?_))
   .exact Gl 10 Z e []
   .refine Go 1 Z (Bd e λL l e=>?_);refine vX (.i .u8 (L.toNat:Int)) (Q3 l EJ) ?_ (gT Z);refine Go 3 Z (Is 18 e Z (λ_ e=>?_) (λ_ e=>?_))
    .exact Gl 5 Z e []
    .refine Go 1 Z (Bd e λM p e=>?_);refine vX (.i .u8 (M.toNat:Int)) (Q3 p EJ) ?_ (gT Z);exact Gl 3 Z e []
 refine Gx 1 Z (Eg F (Cn Z h (λ_ h=>?_) (λ_ h=>?_)))
 .exact QG 7 Z h 2 []
 refine Gc 6 Z ?_;refine vX (I (AI f:Int)) (Jm Z Z EJ Z) ?_;refine Go 3 Z (Bd h λN O h=>DF (b:=N) [] [0] Ze Ze Zf ?_ (λ_ P=>?_))
 .refine G0 1 Z (Lp [] [0,24] (λj=>[(25,I j)]) Ze O Zf (Lr []) λj V d g=>?_);refine G0 6 Z (Q8 Z d (λ_ d=>?_) (λ_ d=>?_))
  .exact Gc 2 Z (Qj d (Gx 1 Z (Ji g d Z (Lr []))))
  refine Gc 14 Z (Bd d λQ t d=>?_);refine vX (.i .u8 (Q.toNat:Int)) (Q3 t EJ) ?_;refine Go 4 Z (Bd d λi a d=>Cg i [] [0,24,25] (λi=>[(48,.b i)]) Ze Zf ?_ ?_)
  .refine G0 4 Z (Is 33 a Z (λ_ a=>?_) (λ_ a=>?_))
   .refine Go 7 Z (Is 40 a Z (λ_ a=>?_) (λ_ a=>?_))
    .exact Gl 9 Z a []
    .refine Go 5 Z (Is 45 a Z (λ_ a=>?_) (λ_ a=>?_))
     iterate 2 exact Gl 4 Z a []
   .refine Go 4 Z (Is 37 a Z (λ_ a=>?_) (λ_ a=>?_))
    .refine Go 3 Z (Is 40 a Z (λ_ a=>?_) (λ_ a=>?_))
     .exact Gl 9 Z a []
     .refine Go 5 Z (Is 45 a Z (λ_ a=>?_) (λ_ a=>?_))
      iterate 2 exact Gl 4 Z a []
    .exact Gl 12 Z a []
  refine Cn Z d (λ_ d=>?_) (λ_ d=>?_)
  .refine Gc 8 Z (Qv d ?_);obtain rfl:=Oj g d;exact Gx 1 Z (Qq (Gx 1 Z (Rt h 2 [])))
  exact Gc 7 Z (Qg d (Lr []))
 subst P;exact Gc 3 Z (Cz [] h (iV _ _) Z λW T h=>Gt 5 Z h 2 [])
def TT(n:Nat)(a:Ag):AB Unit:=AC ()
theorem jM(a:Ag):Ks (TT n a) 93 [.a (Ag.c a)] [] (λ_=>.str a.An):=by
 exact Kg 14 func93 Z Z Z Z λr h=>Rt h 2 []
def np(e:AA Ag)(a:(AA (AA UInt8×Bool))×Int):AB (Bn ((AA (AA UInt8×Bool))×Int) (Bn Unit Bool)):=(bif a.2<(AI e:Int) then AH (Bt e a.2) λd=>AH (TT n d) λj=>AH (AH (K5 n d.An) λf=>(bif (!f)then AC AE else AH (AC (QM a.1 d.An AD)) λg=>AC g):AB Bool) λh=>(bif h then AC (.d (.d AD))else AH (AC (Yp a.1 d.An AE)) λi=>AC (.k (i,i64.wrap (a.2+1))))else AC (.d (.k ())))
def Se(e:AA Ag):AB Bool:=AH (iter (np n e) n ([],0):AB (Bn Unit Bool)) λd=>match d with|.k a=>(AC AE)|.d a=>AC a
theorem iR(u:AA Ag):Ks (Se n u) 92 [.q 2 (map Ag.c u),.f 93] [] (λr=>.b r):=by
 refine Kg 7 func92 Z Z Z Z λr h=>vH YL ?_;refine Fg 7 Z Z (Lg 3 Z Z (Bd h λw x h=>DF (b:=w) [] [] Ze Ze Zf ?_ (λ_ y=>?_)))
 .refine G0 1 Z (Lp [0] [1,5,10,11] (λe=>[(12,I e.2)]) (λe=>[(0,.map (Q6 A.str A.b e.1))]) x Zf (Lr [0]) λe G a f=>?_);refine G0 6 Z (Q8 Z a (λ_ a=>?_) (λ_ a=>?_))
  .exact Gc 2 Z (Qj a (Gx 1 Z (Ji f a Z (Lr []))))
  refine Gc 6 Z (Bd a λi m a=>Iz m Z (Go 9 Z (Cz [] a (jM _ _) Z λH E a=>Go 5 Z (Bd a λg d a=>Cg g [0] [1,5,8,10,11,12] (λg=>[(26,.b g)]) Ze Zf ?_ ?_))))
  .refine G0 2 Z (Cz [] d (Tn _ _) Z λJ F d=>Go 2 Z (Is 22 d Z (λ_ d=>?_) (λ_ d=>?_)))
   .exact Gl 5 Z d [0]
   .refine Go 2 Z (Bd d λz q d=>?_);refine vX (.b z) (Jg (ev:=A.b) (z0:=AD) (k:=i.An) (l:=e.1) MF q EY Gm ZR.bool) ?_ (gT Z);exact Gl 2 Z d [0]
  refine Cn Z a (λ_ a=>?_) (λ_ a=>?_)
  .refine Gc 9 Z (Qv a ?_);obtain rfl:=Oj f a;exact Gx 1 Z (Qq (Gx 1 Z (Rt h 4 [])))
  refine Gc 5 Z (Bd a λL t a=>?_);refine vU (Jh (ev:=A.b) (k:=i.An) (v:=AE) (l:=e.1) MF t Z EY) ?_;exact Fg 7 Z Z (Qg a (Lr [0]))
 subst y;exact QG 6 Z h 4 []
def S7(n:Nat)(a:AQ):AB Unit:=AC ()
theorem iy(a:AQ):Ks (S7 n a) 95 [.a (AQ.c a)] [] (λ_=>.str a.An):=by
 exact Kg 14 func95 Z Z Z Z λr h=>Rt h 2 []
def nq(e:AA AQ)(a:(AA (AA UInt8×Bool))×Int):AB (Bn ((AA (AA UInt8×Bool))×Int) (Bn Unit Bool)):=(bif a.2<(AI e:Int) then AH (Bt e a.2) λd=>AH (S7 n d) λj=>AH (AH (K5 n d.An) λf=>(bif (!f)then AC AE else AH (AC (QM a.1 d.An AD)) λg=>AC g):AB Bool) λh=>(bif h then AC (.d (.d AD))else AH (AC (Yp a.1 d.An AE)) λi=>AC (.k (i,i64.wrap (a.2+1))))else AC (.d (.k ())))
def S6(e:AA AQ):AB Bool:=AH (iter (nq n e) n ([],0):AB (Bn Unit Bool)) λd=>match d with|.k a=>(AC AE)|.d a=>AC a
theorem iw(u:AA AQ):Ks (S6 n u) 94 [.q 5 (map AQ.c u),.f 95] [] (λr=>.b r):=by
 refine Kg 7 func94 Z Z Z Z λr h=>vH YL ?_;refine Fg 7 Z Z (Lg 3 Z Z (Bd h λw x h=>DF (b:=w) [] [] Ze Ze Zf ?_ (λ_ y=>?_)))
 .refine G0 1 Z (Lp [0] [1,5,10,11] (λe=>[(12,I e.2)]) (λe=>[(0,.map (Q6 A.str A.b e.1))]) x Zf (Lr [0]) λe G a f=>?_);refine G0 6 Z (Q8 Z a (λ_ a=>?_) (λ_ a=>?_))
  .exact Gc 2 Z (Qj a (Gx 1 Z (Ji f a Z (Lr []))))
  refine Gc 6 Z (Bd a λi m a=>Iz m Z (Go 9 Z (Cz [] a (iy _ _) Z λH E a=>Go 5 Z (Bd a λg d a=>Cg g [0] [1,5,8,10,11,12] (λg=>[(26,.b g)]) Ze Zf ?_ ?_))))
  .refine G0 2 Z (Cz [] d (Tn _ _) Z λJ F d=>Go 2 Z (Is 22 d Z (λ_ d=>?_) (λ_ d=>?_)))
   .exact Gl 5 Z d [0]
   .refine Go 2 Z (Bd d λz q d=>?_);refine vX (.b z) (Jg (ev:=A.b) (z0:=AD) (k:=i.An) (l:=e.1) MF q EY Gm ZR.bool) ?_ (gT Z);exact Gl 2 Z d [0]
  refine Cn Z a (λ_ a=>?_) (λ_ a=>?_)
  .refine Gc 9 Z (Qv a ?_);obtain rfl:=Oj f a;exact Gx 1 Z (Qq (Gx 1 Z (Rt h 4 [])))
  refine Gc 5 Z (Bd a λL t a=>?_);refine vU (Jh (ev:=A.b) (k:=i.An) (v:=AE) (l:=e.1) MF t Z EY) ?_;exact Fg 7 Z Z (Qg a (Lr [0]))
 subst y;exact QG 6 Z h 4 []
def TF(n:Nat)(a:A'):AB Unit:=AC ()
theorem i_(a:A'):Ks (TF n a) 97 [.a (A'.c a)] [] (λ_=>.str a.An):=by
 exact Kg 14 func97 Z Z Z Z λr h=>Rt h 2 []
def nn(e:AA A')(a:(AA (AA UInt8×Bool))×Int):AB (Bn ((AA (AA UInt8×Bool))×Int) (Bn Unit Bool)):=(bif a.2<(AI e:Int) then AH (Bt e a.2) λd=>AH (TF n d) λj=>AH (AH (K5 n d.An) λf=>(bif (!f)then AC AE else AH (AC (QM a.1 d.An AD)) λg=>AC g):AB Bool) λh=>(bif h then AC (.d (.d AD))else AH (AC (Yp a.1 d.An AE)) λi=>AC (.k (i,i64.wrap (a.2+1))))else AC (.d (.k ())))
def TP(e:AA A'):AB Bool:=AH (iter (nn n e) n ([],0):AB (Bn Unit Bool)) λd=>match d with|.k a=>(AC AE)|.d a=>AC a
theorem jI(u:AA A'):Ks (TP n u) 96 [.q 2 (map A'.c u),.f 97] [] (λr=>.b r):=by
 refine Kg 7 func96 Z Z Z Z λr h=>vH YL ?_;refine Fg 7 Z Z (Lg 3 Z Z (Bd h λw x h=>DF (b:=w) [] [] Ze Ze Zf ?_ (λ_ y=>?_)))
 .refine G0 1 Z (Lp [0] [1,5,10,11] (λe=>[(12,I e.2)]) (λe=>[(0,.map (Q6 A.str A.b e.1))]) x Zf (Lr [0]) λe G a f=>?_);refine G0 6 Z (Q8 Z a (λ_ a=>?_) (λ_ a=>?_))
  .exact Gc 2 Z (Qj a (Gx 1 Z (Ji f a Z (Lr []))))
  refine Gc 6 Z (Bd a λi m a=>Iz m Z (Go 9 Z (Cz [] a (i_ _ _) Z λH E a=>Go 5 Z (Bd a λg d a=>Cg g [0] [1,5,8,10,11,12] (λg=>[(26,.b g)]) Ze Zf ?_ ?_))))
  .refine G0 2 Z (Cz [] d (Tn _ _) Z λJ F d=>Go 2 Z (Is 22 d Z (λ_ d=>?_) (λ_ d=>?_)))
   .exact Gl 5 Z d [0]
   .refine Go 2 Z (Bd d λz q d=>?_);refine vX (.b z) (Jg (ev:=A.b) (z0:=AD) (k:=i.An) (l:=e.1) MF q EY Gm ZR.bool) ?_ (gT Z);exact Gl 2 Z d [0]
  refine Cn Z a (λ_ a=>?_) (λ_ a=>?_)
  .refine Gc 9 Z (Qv a ?_);obtain rfl:=Oj f a;exact Gx 1 Z (Qq (Gx 1 Z (Rt h 4 [])))
  refine Gc 5 Z (Bd a λL t a=>?_);refine vU (Jh (ev:=A.b) (k:=i.An) (v:=AE) (l:=e.1) MF t Z EY) ?_;exact Fg 7 Z Z (Qg a (Lr [0]))
 subst y;exact QG 6 Z h 4 []
def S8(n:Nat)(a:Ah):AB Unit:=AC ()
theorem iz(a:Ah):Ks (S8 n a) 99 [.a (Ah.c a)] [] (λ_=>.str a.An):=by
 exact Kg 14 func99 Z Z Z Z λr h=>Rt h 2 []
def n5(e:AA Ah)(a:(AA (AA UInt8×Bool))×Int):AB (Bn ((AA (AA UInt8×Bool))×Int) (Bn Unit Bool)):=(bif a.2<(AI e:Int) then AH (Bt e a.2) λd=>AH (S8 n d) λj=>AH (AH (K5 n d.An) λf=>(bif (!f)then AC AE else AH (AC (QM a.1 d.An AD)) λg=>AC g):AB Bool) λh=>(bif h then AC (.d (.d AD))else AH (AC (Yp a.1 d.An AE)) λi=>AC (.k (i,i64.wrap (a.2+1))))else AC (.d (.k ())))
def SZ(e:AA Ah):AB Bool:=AH (iter (n5 n e) n ([],0):AB (Bn Unit Bool)) λd=>match d with|.k a=>(AC AE)|.d a=>AC a
theorem iM(u:AA Ah):Ks (SZ n u) 98 [.q 4 (map Ah.c u),.f 99] [] (λr=>.b r):=by
 refine Kg 7 func98 Z Z Z Z λr h=>vH YL ?_;refine Fg 7 Z Z (Lg 3 Z Z (Bd h λw x h=>DF (b:=w) [] [] Ze Ze Zf ?_ (λ_ y=>?_)))
 .refine G0 1 Z (Lp [0] [1,5,10,11] (λe=>[(12,I e.2)]) (λe=>[(0,.map (Q6 A.str A.b e.1))]) x Zf (Lr [0]) λe G a f=>?_);refine G0 6 Z (Q8 Z a (λ_ a=>?_) (λ_ a=>?_))
  .exact Gc 2 Z (Qj a (Gx 1 Z (Ji f a Z (Lr []))))
  refine Gc 6 Z (Bd a λi m a=>Iz m Z (Go 9 Z (Cz [] a (iz _ _) Z λH E a=>Go 5 Z (Bd a λg d a=>Cg g [0] [1,5,8,10,11,12] (λg=>[(26,.b g)]) Ze Zf ?_ ?_))))
  .refine G0 2 Z (Cz [] d (Tn _ _) Z λJ F d=>Go 2 Z (Is 22 d Z (λ_ d=>?_) (λ_ d=>?_)))
   .exact Gl 5 Z d [0]
   .refine Go 2 Z (Bd d λz q d=>?_);refine vX (.b z) (Jg (ev:=A.b) (z0:=AD) (k:=i.An) (l:=e.1) MF q EY Gm ZR.bool) ?_ (gT Z);exact Gl 2 Z d [0]
  refine Cn Z a (λ_ a=>?_) (λ_ a=>?_)
  .refine Gc 9 Z (Qv a ?_);obtain rfl:=Oj f a;exact Gx 1 Z (Qq (Gx 1 Z (Rt h 4 [])))
  refine Gc 5 Z (Bd a λL t a=>?_);refine vU (Jh (ev:=A.b) (k:=i.An) (v:=AE) (l:=e.1) MF t Z EY) ?_;exact Fg 7 Z Z (Qg a (Lr [0]))
 subst y;exact QG 6 Z h 4 []
def Sj(n:Nat)(a:Aa):AB Unit:=AC ()
theorem iU(a:Aa):Ks (Sj n a) 101 [.a (Aa.c a)] [] (λ_=>.str a.An):=by
 exact Kg 14 func101 Z Z Z Z λr h=>Rt h 2 []
def ns(e:AA Aa)(a:(AA (AA UInt8×Bool))×Int):AB (Bn ((AA (AA UInt8×Bool))×Int) (Bn Unit Bool)):=(bif a.2<(AI e:Int) then AH (Bt e a.2) λd=>AH (Sj n d) λj=>AH (AH (K5 n d.An) λf=>(bif (!f)then AC AE else AH (AC (QM a.1 d.An AD)) λg=>AC g):AB Bool) λh=>(bif h then AC (.d (.d AD))else AH (AC (Yp a.1 d.An AE)) λi=>AC (.k (i,i64.wrap (a.2+1))))else AC (.d (.k ())))
def TS(e:AA Aa):AB Bool:=AH (iter (ns n e) n ([],0):AB (Bn Unit Bool)) λd=>match d with|.k a=>(AC AE)|.d a=>AC a
theorem jL(u:AA Aa):Ks (TS n u) 100 [.q 3 (map Aa.c u),.f 101] [] (λr=>.b r):=by
 refine Kg 7 func100 Z Z Z Z λr h=>vH YL ?_;refine Fg 7 Z Z (Lg 3 Z Z (Bd h λw x h=>DF (b:=w) [] [] Ze Ze Zf ?_ (λ_ y=>?_)))
 .refine G0 1 Z (Lp [0] [1,5,10,11] (λe=>[(12,I e.2)]) (λe=>[(0,.map (Q6 A.str A.b e.1))]) x Zf (Lr [0]) λe G a f=>?_);refine G0 6 Z (Q8 Z a (λ_ a=>?_) (λ_ a=>?_))
  .exact Gc 2 Z (Qj a (Gx 1 Z (Ji f a Z (Lr []))))
  refine Gc 6 Z (Bd a λi m a=>Iz m Z (Go 9 Z (Cz [] a (iU _ _) Z λH E a=>Go 5 Z (Bd a λg d a=>Cg g [0] [1,5,8,10,11,12] (λg=>[(26,.b g)]) Ze Zf ?_ ?_))))
  .refine G0 2 Z (Cz [] d (Tn _ _) Z λJ F d=>Go 2 Z (Is 22 d Z (λ_ d=>?_) (λ_ d=>?_)))
   .exact Gl 5 Z d [0]
   .refine Go 2 Z (Bd d λz q d=>?_);refine vX (.b z) (Jg (ev:=A.b) (z0:=AD) (k:=i.An) (l:=e.1) MF q EY Gm ZR.bool) ?_ (gT Z);exact Gl 2 Z d [0]
  refine Cn Z a (λ_ a=>?_) (λ_ a=>?_)
  .refine Gc 9 Z (Qv a ?_);obtain rfl:=Oj f a;exact Gx 1 Z (Qq (Gx 1 Z (Rt h 4 [])))
  refine Gc 5 Z (Bd a λL t a=>?_);refine vU (Jh (ev:=A.b) (k:=i.An) (v:=AE) (l:=e.1) MF t Z EY) ?_;exact Fg 7 Z Z (Qg a (Lr [0]))
 subst y;exact QG 6 Z h 4 []
def SX(a:Bl):AB Bool:=AH (AH (K5 n a.An) λd=>(bif d then AH (Se n a.Ar) λe=>(bif e then AH (S6 n a.AX) λf=>(bif f then AH (TP n a.A9) λg=>(bif g then AH (SZ n a.Aq) λh=>(bif h then AH (TS n a.Ae) λi=>AC i else AC AD)else AC AD)else AC AD)else AC AD)else AC AD):AB Bool) λj=>AC j
theorem iK(k:Bl):Ks (SX n k) 56 [.a (Bl.c k)] [] (λr=>.b r):=by
 refine Kg 7 func56 Z Z Z Z λr h=>Bd h λd a h=>Cg d [] [] (λd=>[(2,.b d)]) Ze Zf ?_ ?_
 .refine G0 3 Z (Cz [] a (Tn _ _) Z λu l a=>Go 1 Z (Is 6 a Z (λ_ a=>?_) (λ_ a=>?_)))
  .refine Go 2 Z (Cz [] a (iR _ _) Z λw m a=>Go 2 Z (Is 11 a Z (λ_ a=>?_) (λ_ a=>?_)))
   .refine Go 2 Z (Cz [] a (iw _ _) Z λx p a=>Go 2 Z (Is 16 a Z (λ_ a=>?_) (λ_ a=>?_)))
    .refine Go 2 Z (Cz [] a (jI _ _) Z λy q a=>Go 2 Z (Is 21 a Z (λ_ a=>?_) (λ_ a=>?_)))
     .refine Go 2 Z (Cz [] a (iM _ _) Z λz s a=>Go 2 Z (Is 26 a Z (λ_ a=>?_) (λ_ a=>?_)))
      .exact Go 2 Z (Cz [] a (jL _ _) Z λB t a=>Gl 3 Z a [])
      .exact Gl 6 Z a []
     .exact Gl 11 Z a []
    .exact Gl 16 Z a []
   .exact Gl 21 Z a []
  .exact Gl 26 Z a []
 exact QG 1 Z h 2 []
def Ss(n:Nat)(a:Int)(d:Int)(e:Int):AB Bool:=AH ((bif a<d then AC AE else AC (AG (e<a))):AB Bool) λb2=>AC b2
theorem ig(d:Int)(e:Int)(f:Int):Ks (Ss n d e f) 165 [I d,.p 0 0,.p 1 0] [.c 3 [I e],.c 3 [I f]] (λr=>.b r):=by
 refine Kg 6 func165 Z Z Z Z λr h=>Bd h λb2 a h=>Cg b2 [0,1] [] (λb2=>[(4,.b b2)]) Ze Zf ?_ ?_
 .refine G0 5 Z (Is 8 a Z (λ_ a=>?_) (λ_ a=>?_))
  iterate 2 exact Gl 6 Z a [0,1]
 exact QG 1 Z h 4 [0,1]
def oH(d:AA Int)(g:Int)(h:Int)(a:Int):AB (Bn Int (Bn Unit Int)):=(bif a<(AI d:Int) then AH (Bt d a) λe=>AH (Ss n e g h) λf=>(bif f then AC (.d (.d a))else AC (.k (i64.wrap (a+1))))else AC (.d (.k ())))
def b_(e:AA Int)(f:Int)(g:Int):AB Int:=AH (iter (oH n e f g) n 0:AB (Bn Unit Int)) λd=>match d with|.k a=>(AC (-1))|.d a=>AC a
theorem go(j:AA Int)(k:Int)(l:Int):Ks (b_ n j k l) 71 [.q 1 (map (Qe .i64) j),.fn (.func 165) [] [.p 0 0,.p 1 0]] [.c 3 [I k],.c 3 [I l]] (λr=>I r):=by
 refine Kg 9 func71 Z Z Z Z λr h=>Lg 3 Z Z (Bd h λm p h=>DF (b:=m) [0,1] [] Ze Ze Zf ?_ (λ_ q=>?_))
 .refine G0 1 Z (Lp [0,1] [0,1,7] (λe=>[(8,I e)]) Ze p Zf (Lr [0,1]) λe u a d=>?_);refine G0 6 Z (Q8 Z a (λ_ a=>?_) (λ_ a=>?_))
  .exact Gc 2 Z (Qj a (Gx 1 Z (Ji d a Z (Lr [0,1]))))
  refine Gc 15 Z (Bd a λw g a=>Iz g Z (Go 1 Z (Cz [0,1] a (ig _ _ _ _) Z λx t a=>Go 2 Z (Cn Z a (λ_ a=>?_) (λ_ a=>?_)))))
  .refine Gc 9 Z (Qv a ?_);obtain rfl:=Oj d a;exact Gx 1 Z (Qq (Gx 1 Z (Rt h 4 [0,1])))
  exact Gc 7 Z (Qg a (Lr [0,1]))
 subst q;exact QG 6 Z h 4 [0,1]
def Sl(a:AA Int)(d:Int)(e:Int):AB Bool:=AH (b_ n a d e) λf=>AC (AG (0<=f))
theorem iW(a:AA Int)(d:Int)(e:Int):Ks (Sl n a d e) 37 [.q 1 (map (Qe .i64) a),.fn (.func 165) [] [.p 0 0,.p 1 0]] [.c 3 [I d],.c 3 [I e]] (λr=>.b r):=by
 exact Kg 9 func37 Z Z Z Z λr h=>Cz [0,1] h (go _ _ _ _) Z λg f h=>Gt 5 Z h 4 [0,1]
def FH(a:Int)(d:Int)(e:AA Int):AB Bool:=AH (Sl n e a d) λf=>AC (!f)
theorem Fa(a:Int)(d:Int)(e:AA Int):Ks (FH n a d e) 103 [I a,I d,.q 1 (map (Qe .i64) e)] [] (λr=>.b r):=by
 exact Kg 11 func103 Z Z Z Z λr h=>Cz [0,1] h (iW _ _ _ _) Z λg f h=>Gt 5 Z h 6 []
def Nj(a:Ag):AB Bool:=AH (FH n 1 3 [a.AN]) λd=>AC d
theorem jU(a:Ag):Ks (Nj n a) 112 [.a (Ag.c a)] [] (λr=>.b r):=by
 refine Kg 10 func112 Z Z Z Z λr h=>vH (Em (xs:=[.tmp 4]) (es:=map (Qe .i64) [a.AN]) QA Z Z Z Z Z ⟨Z,trivial⟩ Z Z) ?_;exact FE Z (Cb h (Fa _ _ _ _) Z (ls (ls (lo ln))) λe d h=>Gt 4 Z h 2 [])
def cU(a:Ag):AB Bool:=AH (Nj n a) λd=>AC (!d)
theorem iC(a:Ag):Ks (cU n a) 171 [.a (Ag.c a),.p 0 0] [.c 209 [.f 112]] (λr=>.b r):=by
 exact Kg 10 func171 Z Z Z Z λr h=>Cz [] h (jU _ _) Z λe d h=>Gt 5 Z h 3 [0]
def n4(d:AA Ag)(a:Int):AB (Bn Int (Bn Unit Int)):=(bif a<(AI d:Int) then AH (Bt d a) λe=>AH (cU n e) λf=>(bif f then AC (.d (.d a))else AC (.k (i64.wrap (a+1))))else AC (.d (.k ())))
def S5(e:AA Ag):AB Int:=AH (iter (n4 n e) n 0:AB (Bn Unit Int)) λd=>match d with|.k a=>(AC (-1))|.d a=>AC a
theorem iv(j:AA Ag):Ks (S5 n j) 227 [.q 2 (map Ag.c j),.fn (.func 171) [] [.p 0 0]] [.c 209 [.f 112]] (λr=>I r):=by
 refine Kg 9 func227 Z Z Z Z λr h=>Lg 3 Z Z (Bd h λk l h=>DF (b:=k) [0] [] Ze Ze Zf ?_ (λ_ m=>?_))
 .refine G0 1 Z (Lp [0] [0,1,7] (λe=>[(8,I e)]) Ze l Zf (Lr [0]) λe s a d=>?_);refine G0 6 Z (Q8 Z a (λ_ a=>?_) (λ_ a=>?_))
  .exact Gc 2 Z (Qj a (Gx 1 Z (Ji d a Z (Lr [0]))))
  refine Gc 15 Z (Bd a λt g a=>Iz g Z (Go 1 Z (Cz [0] a (iC _ _) Z λu q a=>Go 2 Z (Cn Z a (λ_ a=>?_) (λ_ a=>?_)))))
  .refine Gc 9 Z (Qv a ?_);obtain rfl:=Oj d a;exact Gx 1 Z (Qq (Gx 1 Z (Rt h 4 [0])))
  exact Gc 7 Z (Qg a (Lr [0]))
 subst m;exact QG 6 Z h 4 [0]
def TM(a:AA Ag):AB Bool:=AH (S5 n a) λd=>AC (AG (0<=d))
theorem jF(a:AA Ag):Ks (TM n a) 170 [.q 2 (map Ag.c a),.fn (.func 171) [] [.p 0 0]] [.c 209 [.f 112]] (λr=>.b r):=by
 exact Kg 9 func170 Z Z Z Z λr h=>Cz [0] h (iv _ _) Z λe d h=>Gt 5 Z h 4 [0]
def Ny(a:AA Ag):AB Bool:=AH (TM n a) λd=>AC (!d)
theorem ji(a:AA Ag):Ks (Ny n a) 111 [.q 2 (map Ag.c a),.f 112] [] (λr=>.b r):=by
 exact Kg 10 func111 Z Z Z Z λr h=>Cz [0] h (jF _ _) Z λe d h=>Gt 5 Z h 4 []
def OD(a:DO)(d:Int):AB Bool:=AH (AH (FH n 0 d [a.Ai,a.To]) λe=>(bif e then AH (FH n 0 68719476736 [a.BQ,a.BO]) λf=>(bif f then AC (AG (a.BQ<=a.BO))else AC AD)else AC AD):AB Bool) λg=>AC g
theorem jz(d:DO)(g:Int):Ks (OD n d g) 108 [.a (DO.c d),.p 0 0] [.c 3 [I g]] (λr=>.b r):=by
 refine Kg 7 func108 Z Z Z Z λr h=>Bd h λe a h=>Cg e [0] [] (λe=>[(3,.b e)]) Ze Zf ?_ ?_
 .refine G0 6 Z (vH (Em (xs:=[.tmp 6,.tmp 8]) (es:=map (Qe .i64) [d.Ai,d.To]) QA Z Z Z Z Z ⟨Z,Z,trivial⟩ Z Z) ?_);refine FE Z (Cb a (Fa _ _ _ _) Z (ls (ls (lo ln))) λl j a=>Go 1 Z (Is 11 a Z (λ_ a=>?_) (λ_ a=>?_)))
  .refine Go 4 Z (vH (Em (xs:=[.tmp 13,.tmp 15]) (es:=map (Qe .i64) [d.BQ,d.BO]) QA Z Z Z Z Z ⟨Z,Z,trivial⟩ Z Z) ?_ (gT Z));refine FE Z (Cb a (Fa _ _ _ _) Z (ls (ls (lo ln))) λm k a=>Go 2 Z (Is 19 a Z (λ_ a=>?_) (λ_ a=>?_)))
   iterate 2 exact Gl 8 Z a [0]
  .exact Gl 16 Z a [0]
 exact QG 1 Z h 3 [0]
def b9(a:DO)(d:Int):AB Bool:=AH (OD n a d) λe=>AC (!e)
theorem gn(a:DO)(d:Int):Ks (b9 n a d) 173 [.a (DO.c a),.p 0 0] [.c 203 [.fn (.func 108) [] [.p 1 0]],.c 3 [I d]] (λr=>.b r):=by
 exact Kg 10 func173 Z Z Z Z λr h=>Cz [1] h (jz _ _ _) Z λf e h=>Gt 5 Z h 3 [0,1]
def oG(d:AA DO)(g:Int)(a:Int):AB (Bn Int (Bn Unit Int)):=(bif a<(AI d:Int) then AH (Bt d a) λe=>AH (b9 n e g) λf=>(bif f then AC (.d (.d a))else AC (.k (i64.wrap (a+1))))else AC (.d (.k ())))
def TK(e:AA DO)(f:Int):AB Int:=AH (iter (oG n e f) n 0:AB (Bn Unit Int)) λd=>match d with|.k a=>(AC (-1))|.d a=>AC a
theorem jE(j:AA DO)(k:Int):Ks (TK n j k) 228 [.q 4 (map DO.c j),.fn (.func 173) [] [.p 0 0]] [.c 203 [.fn (.func 108) [] [.p 1 0]],.c 3 [I k]] (λr=>I r):=by
 refine Kg 9 func228 Z Z Z Z λr h=>Lg 3 Z Z (Bd h λl m h=>DF (b:=l) [0,1] [] Ze Ze Zf ?_ (λ_ p=>?_))
 .refine G0 1 Z (Lp [0,1] [0,1,7] (λe=>[(8,I e)]) Ze m Zf (Lr [0,1]) λe t a d=>?_);refine G0 6 Z (Q8 Z a (λ_ a=>?_) (λ_ a=>?_))
  .exact Gc 2 Z (Qj a (Gx 1 Z (Ji d a Z (Lr [0,1]))))
  refine Gc 15 Z (Bd a λu g a=>Iz g Z (Go 1 Z (Cz [0,1] a (gn _ _ _) Z λw s a=>Go 2 Z (Cn Z a (λ_ a=>?_) (λ_ a=>?_)))))
  .refine Gc 9 Z (Qv a ?_);obtain rfl:=Oj d a;exact Gx 1 Z (Qq (Gx 1 Z (Rt h 4 [0,1])))
  exact Gc 7 Z (Qg a (Lr [0,1]))
 subst p;exact QG 6 Z h 4 [0,1]
def TD(a:AA DO)(d:Int):AB Bool:=AH (TK n a d) λe=>AC (AG (0<=e))
theorem i9(a:AA DO)(d:Int):Ks (TD n a d) 172 [.q 4 (map DO.c a),.fn (.func 173) [] [.p 0 0]] [.c 203 [.fn (.func 108) [] [.p 1 0]],.c 3 [I d]] (λr=>.b r):=by
 exact Kg 9 func172 Z Z Z Z λr h=>Cz [0,1] h (jE _ _ _) Z λf e h=>Gt 5 Z h 4 [0,1]
def Nu(a:AA DO)(d:Int):AB Bool:=AH (TD n a d) λe=>AC (!e)
theorem je(a:AA DO)(d:Int):Ks (Nu n a d) 113 [.q 4 (map DO.c a),.fn (.func 108) [] [.p 0 0]] [.c 3 [I d]] (λr=>.b r):=by
 exact Kg 10 func113 Z Z Z Z λr h=>Cz [1,0] h (i9 _ _ _) Z λf e h=>Gt 5 Z h 4 [0]
def TJ(n:Nat)(a:DO):AB Unit:=AC ()
theorem jD(a:DO):Kq (TJ n a) 115 [.a (DO.c a)] [] (λ_=>.a [I a.Ai,I a.To]) (λ_=>[.c 151 [I a.Ai,I a.To]]):=by
 refine Kg 17 func115 Z Z Z Z λr h=>?_;obtain rfl:=Oi h;exact Rx [1] [2] Z (Q5 Z (Qf isAgg151 sizeOf151 Z Z Z)) ⟨Z,Z⟩
def SQ(e:AA DO)(a:(AA (Ue×Bool))×Int):AB (Bn ((AA (Ue×Bool))×Int) (AA (Ue×Bool))):=(bif a.2<(AI e:Int) then AH (Bt e a.2) λd=>AH (TJ n d) λg=>AH (AC (Yp a.1 ({from_:=d.Ai,to_:=d.To:Ue}) AE)) λf=>AC (.k (f,i64.wrap (a.2+1)))else AC (.d a.1))
def Sm(a:AA DO):AB Bool:=AH (iter (SQ n a) n ([],0):AB (AA (Ue×Bool))) λd=>AC ((AI d:Int)==(AI a:Int))
theorem iX(p:AA DO):Ks (Sm n p) 114 [.q 4 (map DO.c p),.f 115] [] (λr=>.b r):=by
 refine Kg 7 func114 Z Z Z Z λr h=>vH YL ?_;refine Fg 7 Z Z (Lg 3 Z Z (Bd h λd q h=>Cg d [0] [0,5] Ze (λd=>[(0,.map (Q6 (λx=>A.a (Ue.c x)) A.b d))]) Zf ?_ ?_))
 .refine G0 1 Z (Lp [0] [0,1,5,9,10] (λe=>[(11,I e.2)]) (λe=>[(0,.map (Q6 (λx=>A.a (Ue.c x)) A.b e.1))]) q Zf (Lr [0]) λe t a g=>?_);refine G0 6 Z (Q8 Z a (λ_ a=>?_) (λ_ a=>?_))
  .exact Gc 2 Z (Qj a (Gx 1 Z (DM g a (Lr [0]))))
  refine Gc 6 Z (Bd a λf j a=>Iz j Z (Go 9 Z (Cd [] a (jD _ _) Z λu s a=>FE Z (Bd a λw m a=>?_))));refine vU (Jh (ev:=A.b) (k:=({from_:=f.Ai,to_:=f.To:Ue})) (v:=AE) (l:=e.1) eZ m Z Gp) ?_;exact Fg 7 Z Z (Qg a (Lr [0]))
 refine Gc 3 Z ?_;refine vX (I (AI d:Int)) (m4 (l:=d) Gp Z) ?_;exact Go 1 Z (Lm Z (Gt 5 Z h 4 []))
def OX(rec45:(AA Bo)->Int->AB Bool)(n:Nat)(a:Bo)(d:Int):AB Bool:=(bif (a.Ax==0)then AH (AH (FH n 0 d [a.Ag]) λh=>(bif h then AC ((AI a.Ac:Int)==0)else AC AD):AB Bool) λi=>AC i else AH (AH (FH n 1 64 [a.Ax]) λe=>(bif e then(bif (a.Ag==0)then(bif 0<(AI a.Ac:Int) then AH (rec45 a.Ac d) λf=>AC f else AC AD)else AC AD)else AC AD):AB Bool) λg=>AC g)
theorem kM(rec45:(AA Bo)->Int->AB Bool)(f:∀(d:AA Bo) (g:Int) (r:Bool),rec45 d g=AC r->DE prog 104 [.q 3 (map Bo.enc d),.fn (.func 102) [] [.p 0 0,.p 1 0]] [.c 3 [I g],.c 196 [.fn (.func 102) [] [.p 0 0,.p 1 0]]] (λr=>.b r) r)(n:Nat)(d:Bo)(g:Int):Ks (OX rec45 n d g) 102 [.a (Bo.c d),.p 0 0,.p 1 0] [.c 3 [I g],.c 196 [.fn (.func 102) [] [.p 0 0,.p 1 0]]] (λr=>.b r):=by
 refine Kg 14 func102 Z Z Z Z λr h=>Cn Z h (λ_ h=>?_) (λ_ h=>?_)
 .refine Gc 1 Z (Bd h λj e h=>Ct j [0,1] [] (λj=>[(4,.b j)]) Ze Zf ?_ (λenv H q=>?_))
  .refine G0 4 Z (vH (Em (xs:=[.tmp 10]) (es:=map (Qe .i64) [d.Ag]) QA Z Z Z Z Z ⟨Z,trivial⟩ Z Z) ?_);refine FE Z (Cb e (Fa _ _ _ _) Z (ls (ls (lo ln))) λz w e=>Go 1 Z (Is 13 e Z (λ_ e=>?_) (λ_ e=>?_)))
   .exact Go 2 Z (Lm Z (Gl 4 Z e [0,1]))
   .exact Gl 7 Z e [0,1]
  exact Gx 1 Z (Eg q (QG 2 Z h 4 [0,1]))
 refine Gc 3 Z (Bd h λi a h=>Cg i [0,1] [] (λi=>[(4,.b i)]) Ze Zf ?_ ?_)
 .refine G0 3 Z (vH (Em (xs:=[.tmp 20]) (es:=map (Qe .i64) [d.Ax]) QA Z Z Z Z Z ⟨Z,trivial⟩ Z Z) ?_);refine FE Z (Cb a (Fa _ _ _ _) Z (ls (ls (lo ln))) λx t a=>Go 1 Z (Is 23 a Z (λ_ a=>?_) (λ_ a=>?_)))
  .refine Go 5 Z (Is 28 a Z (λ_ a=>?_) (λ_ a=>?_))
   .refine Go 2 Z (Lg 3 Z Z (Is 34 a Z (λ_ a=>?_) (λ_ a=>?_)))
    .exact Go 3 Z (Cz [0,1] a (f _ _) Z λy u a=>Gl 3 Z a [0,1])
    .exact Gl 7 Z a [0,1]
   .exact Gl 13 Z a [0,1]
  .exact Gl 18 Z a [0,1]
 exact QG 1 Z h 4 [0,1]
def cX(rec45:(AA Bo)->Int->AB Bool)(n:Nat)(a:Bo)(d:Int):AB Bool:=AH (OX rec45 n a d) λe=>AC (!e)
theorem iF(rec45:(AA Bo)->Int->AB Bool)(a:∀(d:AA Bo) (e:Int) (r:Bool),rec45 d e=AC r->DE prog 104 [.q 3 (map Bo.enc d),.fn (.func 102) [] [.p 0 0,.p 1 0]] [.c 3 [I e],.c 196 [.fn (.func 102) [] [.p 0 0,.p 1 0]]] (λr=>.b r) r)(n:Nat)(d:Bo)(e:Int):Ks (cX rec45 n d e) 167 [.a (Bo.c d),.p 0 0] [.c 196 [.fn (.func 102) [] [.p 1 0,.p 2 0]],.c 3 [I e],.c 196 [.fn (.func 102) [] [.p 1 0,.p 2 0]]] (λr=>.b r):=by
 exact Kg 10 func167 Z Z Z Z λr h=>Cz [1,2] h (kM rec45 a _ _ _) Z λg f h=>Gt 5 Z h 3 [0,1,2]
def n_(d:AA Bo)(g:Int)(rec45:(AA Bo)->Int->AB Bool)(a:Int):AB (Bn Int (Bn Unit Int)):=(bif a<(AI d:Int) then AH (Bt d a) λe=>AH (cX rec45 n e g) λf=>(bif f then AC (.d (.d a))else AC (.k (i64.wrap (a+1))))else AC (.d (.k ())))
def bZ(rec45:(AA Bo)->Int->AB Bool)(n:Nat)(e:AA Bo)(f:Int):AB Int:=AH (iter (n_ n e f rec45) n 0:AB (Bn Unit Int)) λd=>match d with|.k a=>(AC (-1))|.d a=>AC a
theorem gj(rec45:(AA Bo)->Int->AB Bool)(d:∀(e:AA Bo) (f:Int) (r:Bool),rec45 e f=AC r->DE prog 104 [.q 3 (map Bo.enc e),.fn (.func 102) [] [.p 0 0,.p 1 0]] [.c 3 [I f],.c 196 [.fn (.func 102) [] [.p 0 0,.p 1 0]]] (λr=>.b r) r)(n:Nat)(e:AA Bo)(f:Int):Ks (bZ rec45 n e f) 225 [.q 3 (map Bo.enc e),.fn (.func 167) [] [.p 0 0]] [.c 196 [.fn (.func 102) [] [.p 1 0,.p 2 0]],.c 3 [I f],.c 196 [.fn (.func 102) [] [.p 1 0,.p 2 0]]] (λr=>I r):=by
 refine Kg 9 func225 Z Z Z Z λr h=>Lg 3 Z Z (Bd h λm p h=>DF (b:=m) [0,1,2] [] Ze Ze Zf ?_ (λ_ q=>?_))
 .refine G0 1 Z (Lp [0,1,2] [0,1,7] (λi=>[(8,I i)]) Ze p Zf (Lr [0,1,2]) λi w a g=>?_);refine G0 6 Z (Q8 Z a (λ_ a=>?_) (λ_ a=>?_))
  .exact Gc 2 Z (Qj a (Gx 1 Z (Ji g a Z (Lr [0,1,2]))))
  refine Gc 15 Z (Bd a λs k a=>Fm k (Yi s) Z (Go 1 Z (Cz [0,1,2] a (iF rec45 d _ _ _) Z λx u a=>Go 2 Z (Cn Z a (λ_ a=>?_) (λ_ a=>?_)))))
  .refine Gc 9 Z (Qv a ?_);obtain rfl:=Oj g a;exact Gx 1 Z (Qq (Gx 1 Z (Rt h 4 [0,1,2])))
  exact Gc 7 Z (Qg a (Lr [0,1,2]))
 subst q;exact QG 6 Z h 4 [0,1,2]
def cF(rec45:(AA Bo)->Int->AB Bool)(n:Nat)(a:AA Bo)(d:Int):AB Bool:=AH (bZ rec45 n a d) λe=>AC (AG (0<=e))
theorem gv(rec45:(AA Bo)->Int->AB Bool)(a:∀(d:AA Bo) (e:Int) (r:Bool),rec45 d e=AC r->DE prog 104 [.q 3 (map Bo.enc d),.fn (.func 102) [] [.p 0 0,.p 1 0]] [.c 3 [I e],.c 196 [.fn (.func 102) [] [.p 0 0,.p 1 0]]] (λr=>.b r) r)(n:Nat)(d:AA Bo)(e:Int):Ks (cF rec45 n d e) 166 [.q 3 (map Bo.enc d),.fn (.func 167) [] [.p 0 0]] [.c 196 [.fn (.func 102) [] [.p 1 0,.p 2 0]],.c 3 [I e],.c 196 [.fn (.func 102) [] [.p 1 0,.p 2 0]]] (λr=>.b r):=by
 exact Kg 9 func166 Z Z Z Z λr h=>Cz [0,1,2] h (gj rec45 a _ _ _) Z λg f h=>Gt 5 Z h 4 [0,1,2]
def dB(rec45:(AA Bo)->Int->AB Bool)(n:Nat)(a:AA Bo)(d:Int):AB Bool:=AH (cF rec45 n a d) λe=>AC (!e)
theorem Qc4(rec45:(AA Bo)->Int->AB Bool)(a:∀(d:AA Bo) (e:Int) (r:Bool),rec45 d e=AC r->DE prog 104 [.q 3 (map Bo.enc d),.fn (.func 102) [] [.p 0 0,.p 1 0]] [.c 3 [I e],.c 196 [.fn (.func 102) [] [.p 0 0,.p 1 0]]] (λr=>.b r) r)(n:Nat)(d:AA Bo)(e:Int)(r:Bool)(h:dB rec45 n d e=AC r):DE prog 104 [.q 3 (map Bo.enc d),.fn (.func 102) [] [.p 0 0,.p 1 0]] [.c 3 [I e],.c 196 [.fn (.func 102) [] [.p 0 0,.p 1 0]]] (λr=>.b r) r:=by
 refine QK func104 Z Z Z ?_;exact G0 10 Z (Cz [2,0,1] h (gv rec45 a _ _ _) Z λg f h=>Gt 5 Z h 4 [0,1])
def KH:Nat->(AA Bo)->Int->AB Bool
  |0=>λ_ _=>AF
  |n+1=>dB (KH n) n
theorem kW:∀(a:AA Bo) (d:Int) (r:Bool),KH n a d=AC r->DE prog 104 [.q 3 (map Bo.enc a),.fn (.func 102) [] [.p 0 0,.p 1 0]] [.c 3 [I d],.c 196 [.fn (.func 102) [] [.p 0 0,.p 1 0]]] (λr=>.b r) r:=by
  induction n with
  |zero=>intro a d r h;cases h
  |succ n ih=>intro a d r h;exact Qc4 _ ih n a d r h
def N1(a:Bw)(e:Int):AB Bool:=AH (AH (FH n 0 e [a.Ag]) λf=>(bif f then(bif 1<=a.Bf then AH (FH n 0 1099511627776 [a.BY]) λd=>AC d else AC AD)else AC AD):AB Bool) λg=>AC g
theorem jl(d:Bw)(f:Int):Ks (N1 n d f) 105 [.a (Bw.c d),.p 0 0] [.c 3 [I f]] (λr=>.b r):=by
 refine Kg 7 func105 Z Z Z Z λr h=>Bd h λe a h=>Cg e [0] [] (λe=>[(3,.b e)]) Ze Zf ?_ ?_
 .refine G0 4 Z (vH (Em (xs:=[.tmp 6]) (es:=map (Qe .i64) [d.Ag]) QA Z Z Z Z Z ⟨Z,trivial⟩ Z Z) ?_);refine FE Z (Cb a (Fa _ _ _ _) Z (ls (ls (lo ln))) λm k a=>Go 1 Z (Is 9 a Z (λ_ a=>?_) (λ_ a=>?_)))
  .refine Go 5 Z (Is 14 a Z (λ_ a=>?_) (λ_ a=>?_))
   .refine Go 2 Z (vH (Em (xs:=[.tmp 16]) (es:=map (Qe .i64) [d.BY]) QA Z Z Z Z Z ⟨Z,trivial⟩ Z Z) ?_ (gT Z));exact FE Z (Cb a (Fa _ _ _ _) Z (ls (ls (lo ln))) λl j a=>Gl 3 Z a [0])
   .exact Gl 7 Z a [0]
  .exact Gl 12 Z a [0]
 exact QG 1 Z h 3 [0]
def cg(a:Bw)(d:Int):AB Bool:=AH (N1 n a d) λe=>AC (!e)
theorem iJ(a:Bw)(d:Int):Ks (cg n a d) 169 [.a (Bw.c a),.p 0 0] [.c 201 [.fn (.func 105) [] [.p 1 0]],.c 3 [I d]] (λr=>.b r):=by
 exact Kg 10 func169 Z Z Z Z λr h=>Cz [1] h (jl _ _ _) Z λf e h=>Gt 5 Z h 3 [0,1]
def n3(d:AA Bw)(g:Int)(a:Int):AB (Bn Int (Bn Unit Int)):=(bif a<(AI d:Int) then AH (Bt d a) λe=>AH (cg n e g) λf=>(bif f then AC (.d (.d a))else AC (.k (i64.wrap (a+1))))else AC (.d (.k ())))
def TI(e:AA Bw)(f:Int):AB Int:=AH (iter (n3 n e f) n 0:AB (Bn Unit Int)) λd=>match d with|.k a=>(AC (-1))|.d a=>AC a
theorem jC(j:AA Bw)(k:Int):Ks (TI n j k) 226 [.q 3 (map Bw.c j),.fn (.func 169) [] [.p 0 0]] [.c 201 [.fn (.func 105) [] [.p 1 0]],.c 3 [I k]] (λr=>I r):=by
 refine Kg 9 func226 Z Z Z Z λr h=>Lg 3 Z Z (Bd h λl m h=>DF (b:=l) [0,1] [] Ze Ze Zf ?_ (λ_ p=>?_))
 .refine G0 1 Z (Lp [0,1] [0,1,7] (λe=>[(8,I e)]) Ze m Zf (Lr [0,1]) λe t a d=>?_);refine G0 6 Z (Q8 Z a (λ_ a=>?_) (λ_ a=>?_))
  .exact Gc 2 Z (Qj a (Gx 1 Z (Ji d a Z (Lr [0,1]))))
  refine Gc 15 Z (Bd a λu g a=>Iz g Z (Go 1 Z (Cz [0,1] a (iJ _ _ _) Z λw s a=>Go 2 Z (Cn Z a (λ_ a=>?_) (λ_ a=>?_)))))
  .refine Gc 9 Z (Qv a ?_);obtain rfl:=Oj d a;exact Gx 1 Z (Qq (Gx 1 Z (Rt h 4 [0,1])))
  exact Gc 7 Z (Qg a (Lr [0,1]))
 subst p;exact QG 6 Z h 4 [0,1]
def Sn(a:AA Bw)(d:Int):AB Bool:=AH (TI n a d) λe=>AC (AG (0<=e))
theorem iY(a:AA Bw)(d:Int):Ks (Sn n a d) 168 [.q 3 (map Bw.c a),.fn (.func 169) [] [.p 0 0]] [.c 201 [.fn (.func 105) [] [.p 1 0]],.c 3 [I d]] (λr=>.b r):=by
 exact Kg 9 func168 Z Z Z Z λr h=>Cz [0,1] h (jC _ _ _) Z λf e h=>Gt 5 Z h 4 [0,1]
def OR(a:AA Bw)(d:Int):AB Bool:=AH (Sn n a d) λe=>AC (!e)
theorem kE(a:AA Bw)(d:Int):Ks (OR n a d) 107 [.q 3 (map Bw.c a),.fn (.func 105) [] [.p 0 0]] [.c 3 [I d]] (λr=>.b r):=by
 exact Kg 10 func107 Z Z Z Z λr h=>Cz [1,0] h (iY _ _ _) Z λf e h=>Gt 5 Z h 4 [0]
def N5(a:AQ)(d:Int):AB Bool:=AH (AH (FH n 1 3 [a.BS]) λe=>(bif e then AH (FH n (-1) d [a.Am]) λf=>(bif f then AH (KH n a.Aw d) λg=>(bif g then AH (OR n a.Ao d) λh=>AC h else AC AD)else AC AD)else AC AD):AB Bool) λi=>AC i
theorem jp(d:AQ)(j:Int):Ks (N5 n d j) 106 [.a (AQ.c d),.p 0 0,.p 1 0,.p 2 0] [.c 3 [I j],.c 196 [.fn (.func 102) [] [.p 0 0,.p 1 0]],.c 201 [.fn (.func 105) [] [.p 0 0]]] (λr=>.b r):=by
 refine Kg 7 func106 Z Z Z Z λr h=>Bd h λe a h=>Cg e [0,1,2] [] (λe=>[(5,.b e)]) Ze Zf ?_ ?_
 .refine G0 3 Z (vH (Em (xs:=[.tmp 7]) (es:=map (Qe .i64) [d.BS]) QA Z Z Z Z Z ⟨Z,trivial⟩ Z Z) ?_);refine FE Z (Cb a (Fa _ _ _ _) Z (ls (ls (lo ln))) λq k a=>Go 1 Z (Is 10 a Z (λ_ a=>?_) (λ_ a=>?_)))
  .refine Go 3 Z (vH (Em (xs:=[.tmp 13]) (es:=map (Qe .i64) [d.Am]) QA Z Z Z Z Z ⟨Z,trivial⟩ Z Z) ?_ (gT Z));refine FE Z (Cb a (Fa _ _ _ _) Z (ls (ls (lo ln))) λs l a=>Go 2 Z (Is 17 a Z (λ_ a=>?_) (λ_ a=>?_)))
   .refine Go 3 Z (Cz [0,1] a (kW _ _ _) Z λt m a=>Go 2 Z (Is 23 a Z (λ_ a=>?_) (λ_ a=>?_)))
    .exact Go 3 Z (Cz [0] a (kE _ _ _) Z λu p a=>Gl 3 Z a [0,1,2])
    .exact Gl 7 Z a [0,1,2]
   .exact Gl 13 Z a [0,1,2]
  .exact Gl 20 Z a [0,1,2]
 exact QG 1 Z h 5 [0,1,2]
def bS(a:AQ)(d:Int):AB Bool:=AH (N5 n a d) λe=>AC (!e)
theorem gc(a:AQ)(d:Int):Ks (bS n a d) 127 [.a (AQ.c a),.p 0 0] [.c 154 [.fn (.func 106) [] [.p 1 0,.p 2 0,.p 3 0]],.c 3 [I d],.c 196 [.fn (.func 102) [] [.p 1 0,.p 2 0]],.c 201 [.fn (.func 105) [] [.p 1 0]]] (λr=>.b r):=by
 exact Kg 10 func127 Z Z Z Z λr h=>Cz [1,2,3] h (jp _ _ _) Z λf e h=>Gt 5 Z h 3 [0,1,2,3]
def nv(d:AA AQ)(g:Int)(a:Int):AB (Bn Int (Bn Unit Int)):=(bif a<(AI d:Int) then AH (Bt d a) λe=>AH (bS n e g) λf=>(bif f then AC (.d (.d a))else AC (.k (i64.wrap (a+1))))else AC (.d (.k ())))
def TR(e:AA AQ)(f:Int):AB Int:=AH (iter (nv n e f) n 0:AB (Bn Unit Int)) λd=>match d with|.k a=>(AC (-1))|.d a=>AC a
theorem jK(j:AA AQ)(k:Int):Ks (TR n j k) 185 [.q 5 (map AQ.c j),.fn (.func 127) [] [.p 0 0]] [.c 154 [.fn (.func 106) [] [.p 1 0,.p 2 0,.p 3 0]],.c 3 [I k],.c 196 [.fn (.func 102) [] [.p 1 0,.p 2 0]],.c 201 [.fn (.func 105) [] [.p 1 0]]] (λr=>I r):=by
 refine Kg 9 func185 Z Z Z Z λr h=>Lg 3 Z Z (Bd h λl m h=>DF (b:=l) [0,1,2,3] [] Ze Ze Zf ?_ (λ_ p=>?_))
 .refine G0 1 Z (Lp [0,1,2,3] [0,1,7] (λe=>[(8,I e)]) Ze m Zf (Lr [0,1,2,3]) λe t a d=>?_);refine G0 6 Z (Q8 Z a (λ_ a=>?_) (λ_ a=>?_))
  .exact Gc 2 Z (Qj a (Gx 1 Z (Ji d a Z (Lr [0,1,2,3]))))
  refine Gc 15 Z (Bd a λu g a=>Iz g Z (Go 1 Z (Cz [0,1,2,3] a (gc _ _ _) Z λw s a=>Go 2 Z (Cn Z a (λ_ a=>?_) (λ_ a=>?_)))))
  .refine Gc 9 Z (Qv a ?_);obtain rfl:=Oj d a;exact Gx 1 Z (Qq (Gx 1 Z (Rt h 4 [0,1,2,3])))
  exact Gc 7 Z (Qg a (Lr [0,1,2,3]))
 subst p;exact QG 6 Z h 4 [0,1,2,3]
def Sz(a:AA AQ)(d:Int):AB Bool:=AH (TR n a d) λe=>AC (AG (0<=e))
theorem il(a:AA AQ)(d:Int):Ks (Sz n a d) 126 [.q 5 (map AQ.c a),.fn (.func 127) [] [.p 0 0]] [.c 154 [.fn (.func 106) [] [.p 1 0,.p 2 0,.p 3 0]],.c 3 [I d],.c 196 [.fn (.func 102) [] [.p 1 0,.p 2 0]],.c 201 [.fn (.func 105) [] [.p 1 0]]] (λr=>.b r):=by
 exact Kg 9 func126 Z Z Z Z λr h=>Cz [0,1,2,3] h (jK _ _ _) Z λf e h=>Gt 5 Z h 4 [0,1,2,3]
def Nl(a:AA AQ)(d:Int):AB Bool:=AH (Sz n a d) λe=>AC (!e)
theorem jW(a:AA AQ)(d:Int):Ks (Nl n a d) 59 [.q 5 (map AQ.c a),.fn (.func 106) [] [.p 0 0,.p 1 0,.p 2 0]] [.c 3 [I d],.c 196 [.fn (.func 102) [] [.p 0 0,.p 1 0]],.c 201 [.fn (.func 105) [] [.p 0 0]]] (λr=>.b r):=by
 exact Kg 10 func59 Z Z Z Z λr h=>Cz [3,0,1,2] h (il _ _ _) Z λf e h=>Gt 5 Z h 4 [0,1,2]
def OF(a:A'):AB Bool:=AH (FH n 0 1099511627776 [a.Bj]) λd=>AC d
theorem j3(a:A'):Ks (OF n a) 117 [.a (A'.c a)] [] (λr=>.b r):=by
 refine Kg 10 func117 Z Z Z Z λr h=>vH (Em (xs:=[.tmp 4]) (es:=map (Qe .i64) [a.Bj]) QA Z Z Z Z Z ⟨Z,trivial⟩ Z Z) ?_;exact FE Z (Cb h (Fa _ _ _ _) Z (ls (ls (lo ln))) λe d h=>Gt 4 Z h 2 [])
def cY(a:A'):AB Bool:=AH (OF n a) λd=>AC (!d)
theorem iG(a:A'):Ks (cY n a) 175 [.a (A'.c a),.p 0 0] [.c 214 [.f 117]] (λr=>.b r):=by
 exact Kg 10 func175 Z Z Z Z λr h=>Cz [] h (j3 _ _) Z λe d h=>Gt 5 Z h 3 [0]
def oJ(d:AA A')(a:Int):AB (Bn Int (Bn Unit Int)):=(bif a<(AI d:Int) then AH (Bt d a) λe=>AH (cY n e) λf=>(bif f then AC (.d (.d a))else AC (.k (i64.wrap (a+1))))else AC (.d (.k ())))
def St(e:AA A'):AB Int:=AH (iter (oJ n e) n 0:AB (Bn Unit Int)) λd=>match d with|.k a=>(AC (-1))|.d a=>AC a
theorem ii(j:AA A'):Ks (St n j) 229 [.q 2 (map A'.c j),.fn (.func 175) [] [.p 0 0]] [.c 214 [.f 117]] (λr=>I r):=by
 refine Kg 9 func229 Z Z Z Z λr h=>Lg 3 Z Z (Bd h λk l h=>DF (b:=k) [0] [] Ze Ze Zf ?_ (λ_ m=>?_))
 .refine G0 1 Z (Lp [0] [0,1,7] (λe=>[(8,I e)]) Ze l Zf (Lr [0]) λe s a d=>?_);refine G0 6 Z (Q8 Z a (λ_ a=>?_) (λ_ a=>?_))
  .exact Gc 2 Z (Qj a (Gx 1 Z (Ji d a Z (Lr [0]))))
  refine Gc 15 Z (Bd a λt g a=>Iz g Z (Go 1 Z (Cz [0] a (iG _ _) Z λu q a=>Go 2 Z (Cn Z a (λ_ a=>?_) (λ_ a=>?_)))))
  .refine Gc 9 Z (Qv a ?_);obtain rfl:=Oj d a;exact Gx 1 Z (Qq (Gx 1 Z (Rt h 4 [0])))
  exact Gc 7 Z (Qg a (Lr [0]))
 subst m;exact QG 6 Z h 4 [0]
def TH(a:AA A'):AB Bool:=AH (St n a) λd=>AC (AG (0<=d))
theorem jB(a:AA A'):Ks (TH n a) 174 [.q 2 (map A'.c a),.fn (.func 175) [] [.p 0 0]] [.c 214 [.f 117]] (λr=>.b r):=by
 exact Kg 9 func174 Z Z Z Z λr h=>Cz [0] h (ii _ _) Z λe d h=>Gt 5 Z h 4 [0]
def N6(a:AA A'):AB Bool:=AH (TH n a) λd=>AC (!d)
theorem jq(a:AA A'):Ks (N6 n a) 116 [.q 2 (map A'.c a),.f 117] [] (λr=>.b r):=by
 exact Kg 10 func116 Z Z Z Z λr h=>Cz [0] h (jB _ _) Z λe d h=>Gt 5 Z h 4 []
def OC(a:Ah):AB Bool:=(bif a.Bg then AH ((bif (a.BT==0)then AC (a.Ax==0)else AC AD):AB Bool) λf=>AC f else(bif (a.Ax != 0)then AH ((bif (a.BT==0)then AH (FH n 1 64 [a.Ax]) λd=>AC d else AC AD):AB Bool) λg=>AC g else AH (FH n 0 68719476736 [a.BT]) λe=>AC e))
theorem jy(e:Ah):Ks (OC n e) 109 [.a (Ah.c e)] [] (λr=>.b r):=by
 refine Kg 15 func109 Z Z Z Z λr h=>Cn Z h (λ_ h=>?_) (λ_ h=>?_)
 .refine Gc 1 Z (Bd h λf d h=>Ct f [] [] (λf=>[(2,.b f)]) Ze Zf ?_ (λenv H k=>?_))
  .refine G0 5 Z (Is 9 d Z (λ_ d=>?_) (λ_ d=>?_))
   iterate 2 exact Gl 6 Z d []
  exact Gx 1 Z (Eg k (QG 3 Z h 2 []))
 refine Gc 8 Z (Cn Z h (λ_ h=>?_) (λ_ h=>?_))
 .refine Gc 1 Z (Bd h λg a h=>Cg g [] [] (λg=>[(2,.b g)]) Ze Zf ?_ ?_)
  .refine G0 5 Z (Is 21 a Z (λ_ a=>?_) (λ_ a=>?_))
   .refine Go 2 Z (vH (Em (xs:=[.tmp 23]) (es:=map (Qe .i64) [e.Ax]) QA Z Z Z Z Z ⟨Z,trivial⟩ Z Z) ?_ (gT Z));exact FE Z (Cb a (Fa _ _ _ _) Z (ls (ls (lo ln))) λs p a=>Gl 3 Z a [])
   .exact Gl 7 Z a []
  exact QG 3 Z h 2 []
 refine Gc 7 Z (vH (Em (xs:=[.tmp 28]) (es:=map (Qe .i64) [e.BT]) QA Z Z Z Z Z ⟨Z,trivial⟩ Z Z) ?_);exact FE Z (Cb h (Fa _ _ _ _) Z (ls (ls (lo ln))) λt q h=>Gt 4 Z h 2 [])
def bY(a:Ah):AB Bool:=AH (OC n a) λd=>AC (!d)
theorem gi(a:Ah):Ks (bY n a) 177 [.a (Ah.c a),.p 0 0] [.c 204 [.f 109]] (λr=>.b r):=by
 exact Kg 10 func177 Z Z Z Z λr h=>Cz [] h (jy _ _) Z λe d h=>Gt 5 Z h 3 [0]
def ny(d:AA Ah)(a:Int):AB (Bn Int (Bn Unit Int)):=(bif a<(AI d:Int) then AH (Bt d a) λe=>AH (bY n e) λf=>(bif f then AC (.d (.d a))else AC (.k (i64.wrap (a+1))))else AC (.d (.k ())))
def S4(e:AA Ah):AB Int:=AH (iter (ny n e) n 0:AB (Bn Unit Int)) λd=>match d with|.k a=>(AC (-1))|.d a=>AC a
theorem iu(j:AA Ah):Ks (S4 n j) 230 [.q 4 (map Ah.c j),.fn (.func 177) [] [.p 0 0]] [.c 204 [.f 109]] (λr=>I r):=by
 refine Kg 9 func230 Z Z Z Z λr h=>Lg 3 Z Z (Bd h λk l h=>DF (b:=k) [0] [] Ze Ze Zf ?_ (λ_ m=>?_))
 .refine G0 1 Z (Lp [0] [0,1,7] (λe=>[(8,I e)]) Ze l Zf (Lr [0]) λe s a d=>?_);refine G0 6 Z (Q8 Z a (λ_ a=>?_) (λ_ a=>?_))
  .exact Gc 2 Z (Qj a (Gx 1 Z (Ji d a Z (Lr [0]))))
  refine Gc 15 Z (Bd a λt g a=>Iz g Z (Go 1 Z (Cz [0] a (gi _ _) Z λu q a=>Go 2 Z (Cn Z a (λ_ a=>?_) (λ_ a=>?_)))))
  .refine Gc 9 Z (Qv a ?_);obtain rfl:=Oj d a;exact Gx 1 Z (Qq (Gx 1 Z (Rt h 4 [0])))
  exact Gc 7 Z (Qg a (Lr [0]))
 subst m;exact QG 6 Z h 4 [0]
def So(a:AA Ah):AB Bool:=AH (S4 n a) λd=>AC (AG (0<=d))
theorem iZ(a:AA Ah):Ks (So n a) 176 [.q 4 (map Ah.c a),.fn (.func 177) [] [.p 0 0]] [.c 204 [.f 109]] (λr=>.b r):=by
 exact Kg 9 func176 Z Z Z Z λr h=>Cz [0] h (iu _ _) Z λe d h=>Gt 5 Z h 4 [0]
def N4(a:AA Ah):AB Bool:=AH (So n a) λd=>AC (!d)
theorem jo(a:AA Ah):Ks (N4 n a) 118 [.q 4 (map Ah.c a),.f 109] [] (λr=>.b r):=by
 exact Kg 10 func118 Z Z Z Z λr h=>Cz [0] h (iZ _ _) Z λe d h=>Gt 5 Z h 4 []
def OL(a:Aa):AB Bool:=AH (AH (FH n 0 120 [a.Ai,a.To]) λd=>(bif d then AC (AG (a.Ai<=a.To))else AC AD):AB Bool) λe=>AC e
theorem j9(d:Aa):Ks (OL n d) 120 [.a (Aa.c d)] [] (λr=>.b r):=by
 refine Kg 7 func120 Z Z Z Z λr h=>Bd h λe a h=>Cg e [] [] (λe=>[(2,.b e)]) Ze Zf ?_ ?_
 .refine G0 5 Z (vH (Em (xs:=[.tmp 4,.tmp 6]) (es:=map (Qe .i64) [d.Ai,d.To]) QA Z Z Z Z Z ⟨Z,Z,trivial⟩ Z Z) ?_);refine FE Z (Cb a (Fa _ _ _ _) Z (ls (ls (lo ln))) λi g a=>Go 1 Z (Is 9 a Z (λ_ a=>?_) (λ_ a=>?_)))
  iterate 2 exact Gl 8 Z a []
 exact QG 1 Z h 2 []
def cK(a:Aa):AB Bool:=AH (OL n a) λd=>AC (!d)
theorem g7(a:Aa):Ks (cK n a) 179 [.a (Aa.c a),.p 0 0] [.c 217 [.f 120]] (λr=>.b r):=by
 exact Kg 10 func179 Z Z Z Z λr h=>Cz [] h (j9 _ _) Z λe d h=>Gt 5 Z h 3 [0]
def n9(d:AA Aa)(a:Int):AB (Bn Int (Bn Unit Int)):=(bif a<(AI d:Int) then AH (Bt d a) λe=>AH (cK n e) λf=>(bif f then AC (.d (.d a))else AC (.k (i64.wrap (a+1))))else AC (.d (.k ())))
def S1(e:AA Aa):AB Int:=AH (iter (n9 n e) n 0:AB (Bn Unit Int)) λd=>match d with|.k a=>(AC (-1))|.d a=>AC a
theorem ip(j:AA Aa):Ks (S1 n j) 231 [.q 3 (map Aa.c j),.fn (.func 179) [] [.p 0 0]] [.c 217 [.f 120]] (λr=>I r):=by
 refine Kg 9 func231 Z Z Z Z λr h=>Lg 3 Z Z (Bd h λk l h=>DF (b:=k) [0] [] Ze Ze Zf ?_ (λ_ m=>?_))
 .refine G0 1 Z (Lp [0] [0,1,7] (λe=>[(8,I e)]) Ze l Zf (Lr [0]) λe s a d=>?_);refine G0 6 Z (Q8 Z a (λ_ a=>?_) (λ_ a=>?_))
  .exact Gc 2 Z (Qj a (Gx 1 Z (Ji d a Z (Lr [0]))))
  refine Gc 15 Z (Bd a λt g a=>Iz g Z (Go 1 Z (Cz [0] a (g7 _ _) Z λu q a=>Go 2 Z (Cn Z a (λ_ a=>?_) (λ_ a=>?_)))))
  .refine Gc 9 Z (Qv a ?_);obtain rfl:=Oj d a;exact Gx 1 Z (Qq (Gx 1 Z (Rt h 4 [0])))
  exact Gc 7 Z (Qg a (Lr [0]))
 subst m;exact QG 6 Z h 4 [0]
def Sd(a:AA Aa):AB Bool:=AH (S1 n a) λd=>AC (AG (0<=d))
theorem iP(a:AA Aa):Ks (Sd n a) 178 [.q 3 (map Aa.c a),.fn (.func 179) [] [.p 0 0]] [.c 217 [.f 120]] (λr=>.b r):=by
 exact Kg 9 func178 Z Z Z Z λr h=>Cz [0] h (ip _ _) Z λe d h=>Gt 5 Z h 4 [0]
def Nk(a:AA Aa):AB Bool:=AH (Sd n a) λd=>AC (!d)
theorem jV(a:AA Aa):Ks (Nk n a) 119 [.q 3 (map Aa.c a),.f 120] [] (λr=>.b r):=by
 exact Kg 10 func119 Z Z Z Z λr h=>Cz [0] h (iP _ _) Z λe d h=>Gt 5 Z h 4 []
def Ns(a:CB)(d:Bl):AB Bool:=AH (AH (FH n 0 (i64.wrap ((AI d.AX:Int)-1)) [a.AQ]) λe=>(bif e then AH (FH n (-1) (i64.wrap ((AI d.Ae:Int)-1)) [a.Aa]) λf=>(bif f then AH (FH n 1 4000 [a.BP]) λg=>(bif g then AH (FH n 1 1125899906842624 [a.A5]) λh=>AC h else AC AD)else AC AD)else AC AD):AB Bool) λi=>AC i
theorem jc(d:CB)(j:Bl):Ks (Ns n d j) 110 [.a (CB.c d),.p 0 0] [.c 33 (Bl.c j)] (λr=>.b r):=by
 refine Kg 7 func110 Z Z Z Z λr h=>Bd h λe a h=>Cg e [0] [] (λe=>[(3,.b e)]) Ze Zf ?_ ?_
 .refine G0 3 Z (Lg 3 Z Z (vH (Em (xs:=[.tmp 9]) (es:=map (Qe .i64) [d.AQ]) QA Z Z Z Z Z ⟨Z,trivial⟩ Z Z) ?_));refine FE Z (Cb a (Fa _ _ _ _) Z (ls (ls (lo ln))) λq k a=>Go 1 Z (Is 12 a Z (λ_ a=>?_) (λ_ a=>?_)))
  .refine Go 2 Z (Lg 3 Z Z (vH (Em (xs:=[.tmp 18]) (es:=map (Qe .i64) [d.Aa]) QA Z Z Z Z Z ⟨Z,trivial⟩ Z Z) ?_ (gT Z)));refine FE Z (Cb a (Fa _ _ _ _) Z (ls (ls (lo ln))) λs l a=>Go 2 Z (Is 22 a Z (λ_ a=>?_) (λ_ a=>?_)))
   .refine Go 2 Z (vH (Em (xs:=[.tmp 24]) (es:=map (Qe .i64) [d.BP]) QA Z Z Z Z Z ⟨Z,trivial⟩ Z Z) ?_ (gT Z));refine FE Z (Cb a (Fa _ _ _ _) Z (ls (ls (lo ln))) λt m a=>Go 2 Z (Is 28 a Z (λ_ a=>?_) (λ_ a=>?_)))
    .refine Go 2 Z (vH (Em (xs:=[.tmp 30]) (es:=map (Qe .i64) [d.A5]) QA Z Z Z Z Z ⟨Z,trivial⟩ Z Z) ?_ (gT Z));exact FE Z (Cb a (Fa _ _ _ _) Z (ls (ls (lo ln))) λu p a=>Gl 3 Z a [0])
    .exact Gl 7 Z a [0]
   .exact Gl 13 Z a [0]
  .exact Gl 23 Z a [0]
 exact QG 1 Z h 3 [0]
def bV(a:CB)(d:Bl):AB Bool:=AH (Ns n a d) λe=>AC (!e)
theorem gf(a:CB)(d:Bl):Ks (bV n a d) 181 [.a (CB.c a),.p 0 0] [.c 207 [.fn (.func 110) [] [.p 1 0]],.c 33 (Bl.c d)] (λr=>.b r):=by
 exact Kg 10 func181 Z Z Z Z λr h=>Cz [1] h (jc _ _ _) Z λf e h=>Gt 5 Z h 3 [0,1]
def n8(d:AA CB)(g:Bl)(a:Int):AB (Bn Int (Bn Unit Int)):=(bif a<(AI d:Int) then AH (Bt d a) λe=>AH (bV n e g) λf=>(bif f then AC (.d (.d a))else AC (.k (i64.wrap (a+1))))else AC (.d (.k ())))
def TU(e:AA CB)(f:Bl):AB Int:=AH (iter (n8 n e f) n 0:AB (Bn Unit Int)) λd=>match d with|.k a=>(AC (-1))|.d a=>AC a
theorem jN(j:AA CB)(k:Bl):Ks (TU n j k) 232 [.q 4 (map CB.c j),.fn (.func 181) [] [.p 0 0]] [.c 207 [.fn (.func 110) [] [.p 1 0]],.c 33 (Bl.c k)] (λr=>I r):=by
 refine Kg 9 func232 Z Z Z Z λr h=>Lg 3 Z Z (Bd h λl m h=>DF (b:=l) [0,1] [] Ze Ze Zf ?_ (λ_ p=>?_))
 .refine G0 1 Z (Lp [0,1] [0,1,7] (λe=>[(8,I e)]) Ze m Zf (Lr [0,1]) λe t a d=>?_);refine G0 6 Z (Q8 Z a (λ_ a=>?_) (λ_ a=>?_))
  .exact Gc 2 Z (Qj a (Gx 1 Z (Ji d a Z (Lr [0,1]))))
  refine Gc 15 Z (Bd a λu g a=>Iz g Z (Go 1 Z (Cz [0,1] a (gf _ _ _) Z λw s a=>Go 2 Z (Cn Z a (λ_ a=>?_) (λ_ a=>?_)))))
  .refine Gc 9 Z (Qv a ?_);obtain rfl:=Oj d a;exact Gx 1 Z (Qq (Gx 1 Z (Rt h 4 [0,1])))
  exact Gc 7 Z (Qg a (Lr [0,1]))
 subst p;exact QG 6 Z h 4 [0,1]
def SY(a:AA CB)(d:Bl):AB Bool:=AH (TU n a d) λe=>AC (AG (0<=e))
theorem iL(a:AA CB)(d:Bl):Ks (SY n a d) 180 [.q 4 (map CB.c a),.fn (.func 181) [] [.p 0 0]] [.c 207 [.fn (.func 110) [] [.p 1 0]],.c 33 (Bl.c d)] (λr=>.b r):=by
 exact Kg 9 func180 Z Z Z Z λr h=>Cz [0,1] h (jN _ _ _) Z λf e h=>Gt 5 Z h 4 [0,1]
def N7(a:AA CB)(d:Bl):AB Bool:=AH (SY n a d) λe=>AC (!e)
theorem jr(a:AA CB)(d:Bl):Ks (N7 n a d) 121 [.q 4 (map CB.c a),.fn (.func 110) [] [.p 0 0]] [.c 33 (Bl.c d)] (λr=>.b r):=by
 exact Kg 10 func121 Z Z Z Z λr h=>Cz [1,0] h (iL _ _ _) Z λf e h=>Gt 5 Z h 4 [0]
def TB(n:Nat)(a:CB):AB Unit:=AC ()
theorem i8(a:CB):Kq (TB n a) 123 [.a (CB.c a)] [] (λ_=>.a [I a.AQ,I a.Aa,I a.BP]) (λ_=>[.c 221 [I a.AQ,I a.Aa,I a.BP]]):=by
 refine Kg 19 func123 Z Z Z Z λr h=>?_;obtain rfl:=Oi h;exact Rx [1] [2] Z (Q5 Z (Qf isAgg221 sizeOf221 Z Z Z)) ⟨Z,Z⟩
def SS(e:AA CB)(a:(AA (Ug×Bool))×Int):AB (Bn ((AA (Ug×Bool))×Int) (AA (Ug×Bool))):=(bif a.2<(AI e:Int) then AH (Bt e a.2) λd=>AH (TB n d) λg=>AH (AC (Yp a.1 ({distance:=d.AQ,category:=d.Aa,rank:=d.BP:Ug}) AE)) λf=>AC (.k (f,i64.wrap (a.2+1)))else AC (.d a.1))
def TA(a:AA CB):AB Bool:=AH (iter (SS n a) n ([],0):AB (AA (Ug×Bool))) λd=>AC ((AI d:Int)==(AI a:Int))
theorem i7(p:AA CB):Ks (TA n p) 122 [.q 4 (map CB.c p),.f 123] [] (λr=>.b r):=by
 refine Kg 7 func122 Z Z Z Z λr h=>vH YL ?_;refine Fg 7 Z Z (Lg 3 Z Z (Bd h λd q h=>Cg d [0] [0,5] Ze (λd=>[(0,.map (Q6 (λx=>A.a (Ug.c x)) A.b d))]) Zf ?_ ?_))
 .refine G0 1 Z (Lp [0] [0,1,5,9,10] (λe=>[(11,I e.2)]) (λe=>[(0,.map (Q6 (λx=>A.a (Ug.c x)) A.b e.1))]) q Zf (Lr [0]) λe t a g=>?_);refine G0 6 Z (Q8 Z a (λ_ a=>?_) (λ_ a=>?_))
  .exact Gc 2 Z (Qj a (Gx 1 Z (DM g a (Lr [0]))))
  refine Gc 6 Z (Bd a λf j a=>Iz j Z (Go 9 Z (Cd [] a (i8 _ _) Z λu s a=>FE Z (Bd a λw m a=>?_))));refine vU (Jh (ev:=A.b) (k:=({distance:=f.AQ,category:=f.Aa,rank:=f.BP:Ug})) (v:=AE) (l:=e.1) v8 m Z underlying258) ?_;exact Fg 7 Z Z (Qg a (Lr [0]))
 refine Gc 3 Z ?_;refine vX (I (AI d:Int)) (m4 (l:=d) underlying258 Z) ?_;exact Go 1 Z (Lm Z (Gt 5 Z h 4 []))
def OB(a:Bl):AB Bool:=AH (AH (Ny n a.Ar) λd=>(bif d then AH (Nu n a.A8 (i64.wrap ((AI a.Ar:Int)-1))) λe=>(bif e then AH (Sm n a.A8) λf=>(bif f then AH (Nl n a.AX (i64.wrap ((AI a.Ar:Int)-1))) λg=>(bif g then AH (N6 n a.A9) λh=>(bif h then AH (N4 n a.Aq) λi=>(bif i then AH (Nk n a.Ae) λj=>(bif j then AH (N7 n a.A7 a) λk=>(bif k then AH (TA n a.A7) λl=>(bif l then AH (FH n 0 16 [a.Ak.BW,a.Ak.BU]) λm=>(bif m then AH (FH n 0 4294967296 [a.Ak.BV,a.Ak.A6]) λp=>(bif p then AH (FH n 0 100000 [a.Ak.BM]) λq=>(bif q then AH (FH n 0 1125899906842624 [a.Be]) λr=>(bif r then AH (FH n 0 1099511627776 [a.BN]) λs=>AC s else AC AD)else AC AD)else AC AD)else AC AD)else AC AD)else AC AD)else AC AD)else AC AD)else AC AD)else AC AD)else AC AD)else AC AD)else AC AD):AB Bool) λt=>AC t
theorem jx(d:Bl):Ks (OB n d) 57 [.a (Bl.c d)] [] (λr=>.b r):=by
 refine Kg 10 func57 Z Z Z Z λr h=>Lg 55 Z Z (Bd h λe a h=>Cg e [] [] (λe=>[(2,.b e)]) Ze Zf ?_ ?_)
 .refine G0 3 Z (Cz [] a (ji _ _) Z λQ x a=>Go 1 Z (Is 25 a Z (λ_ a=>?_) (λ_ a=>?_)))
  .refine Go 3 Z (Cd [1] a (je _ _ _) Z λR y a=>Fg 2 Z Z (Is 31 a Z (λ_ a=>?_) (λ_ a=>?_)))
   .refine Go 2 Z (Cz [] a (iX _ _) Z λT z a=>Go 2 Z (Is 36 a Z (λ_ a=>?_) (λ_ a=>?_)))
    .refine Go 3 Z (Cz [1,2,3] a (jW _ _ _) Z λV B a=>Go 2 Z (Is 42 a Z (λ_ a=>?_) (λ_ a=>?_)))
     .refine Go 2 Z (Cz [] a (jq _ _) Z λW E a=>Go 2 Z (Is 47 a Z (λ_ a=>?_) (λ_ a=>?_)))
      .refine Go 3 Z (Cz [] a (jo _ _) Z λX F a=>Go 2 Z (Is 53 a Z (λ_ a=>?_) (λ_ a=>?_)))
       .refine Go 2 Z (Cz [] a (jV _ _) Z λY G a=>Go 2 Z (Is 58 a Z (λ_ a=>?_) (λ_ a=>?_)))
        .refine Go 3 Z (Cz [0] a (jr _ _ _) Z λaa H a=>Go 2 Z (Is 64 a Z (λ_ a=>?_) (λ_ a=>?_)))
         .refine Go 2 Z (Cz [] a (i7 _ _) Z λab J a=>Go 2 Z (Is 69 a Z (λ_ a=>?_) (λ_ a=>?_)))
          .refine Go 4 Z (vH (Em (xs:=[.tmp 71,.tmp 73]) (es:=map (Qe .i64) [d.Ak.BW,d.Ak.BU]) QA Z Z Z Z Z ⟨Z,Z,trivial⟩ Z Z) ?_ (gT Z));refine FE Z (Cb a (Fa _ _ _ _) Z (ls (ls (lo ln))) λac L a=>Go 2 Z (Is 77 a Z (λ_ a=>?_) (λ_ a=>?_)))
           .refine Go 4 Z (vH (Em (xs:=[.tmp 79,.tmp 81]) (es:=map (Qe .i64) [d.Ak.BV,d.Ak.A6]) QA Z Z Z Z Z ⟨Z,Z,trivial⟩ Z Z) ?_ (gT Z));refine FE Z (Cb a (Fa _ _ _ _) Z (ls (ls (lo ln))) λad M a=>Go 2 Z (Is 85 a Z (λ_ a=>?_) (λ_ a=>?_)))
            .refine Go 2 Z (vH (Em (xs:=[.tmp 87]) (es:=map (Qe .i64) [d.Ak.BM]) QA Z Z Z Z Z ⟨Z,trivial⟩ Z Z) ?_ (gT Z));refine FE Z (Cb a (Fa _ _ _ _) Z (ls (ls (lo ln))) λae N a=>Go 2 Z (Is 91 a Z (λ_ a=>?_) (λ_ a=>?_)))
             .refine Go 2 Z (vH (Em (xs:=[.tmp 93]) (es:=map (Qe .i64) [d.Be]) QA Z Z Z Z Z ⟨Z,trivial⟩ Z Z) ?_ (gT Z));refine FE Z (Cb a (Fa _ _ _ _) Z (ls (ls (lo ln))) λaf O a=>Go 2 Z (Is 97 a Z (λ_ a=>?_) (λ_ a=>?_)))
              .refine Go 2 Z (vH (Em (xs:=[.tmp 99]) (es:=map (Qe .i64) [d.BN]) QA Z Z Z Z Z ⟨Z,trivial⟩ Z Z) ?_ (gT Z));exact FE Z (Cb a (Fa _ _ _ _) Z (ls (ls (lo ln))) λag P a=>Gl 3 Z a [])
              .exact Gl 7 Z a []
             .exact Gl 13 Z a []
            .exact Gl 19 Z a []
           .exact Gl 27 Z a []
          .exact Gl 35 Z a []
         .exact Gl 40 Z a []
        .exact Gl 46 Z a []
       .exact Gl 51 Z a []
      .exact Gl 57 Z a []
     .exact Gl 62 Z a []
    .exact Gl 68 Z a []
   .exact Gl 73 Z a []
  .exact Gl 79 Z a []
 exact QG 1 Z h 2 []
def oD(n:Nat)(d:AA AZ)(a:(AA Uf)×Int):AB (Bn ((AA Uf)×Int) (AA Uf)):=(bif a.2<(AI d:Int) then AH (Bt d a.2) λe=>AH (app a.1 [Uf.ctyping_step ({AZ:=e:Uh})]) λf=>AC (.k (f,i64.wrap (a.2+1)))else AC (.d a.1))
def L3(a:AA AZ):AB (AA Uf):=AH (iter (oD n a) n ([],0):AB (AA Uf)) λd=>AC d
theorem Pv(u:AA AZ):Kq (L3 n u) 125 [.q 8 (map AZ.enc u)] [] (λr=>.o 0 (AI r) 1) (λr=>[.r 265 1 (map Uf.enc r)]):=by
 refine Kg 9 func125 Z Z Z Z λr h=>Lg 3 Z Z (Bd h λf w h=>Cg f [0] [] (λf=>[(2,.o 0 (AI f) 1)]) (λf=>[(0,.r 265 1 (map Uf.enc f))]) Zf ?_ ?_)
 .refine G0 1 Z (Lp [0] [5,6] (λd=>[(2,.o 0 (AI d.1) 1),(7,I d.2)]) (λd=>[(0,.r 265 1 (map Uf.enc d.1))]) w Zf ?_ ?_)
  .refine Ep (Eu (s:=2) (k:=1) (t:=265) (XS Z) Z) ?_;exact Lr [0]
  intro d x a j;refine G0 6 Z (Q8 Z a (λ_ a=>?_) (λ_ a=>?_))
  .exact Gc 2 Z (Qj a (Gx 1 Z (DM j a (Lr [0]))))
  refine Gc 6 Z (Bd a λg p a=>Fm p (YP g) Z (Go 9 Z ?_));refine vX (.iface 268 (.a (Uh.c ({AZ:=g:Uh})))) (aY Z Gs (by intro m;nofun) Z) ?_;refine vH (Em (xs:=[.tmp 14]) (es:=map Uf.enc [Uf.ctyping_step ({AZ:=g:Uh})]) Rn Z Z Z Z Z ⟨Z,trivial⟩ Z Z) ?_;refine FE Z (Bd a λy q a=>vH (Qu (e:=Uf.enc) q Rn Ge (QS (i:=2))) ?_);exact Fg 8 Z Z (Qg a (Lr [3]))
 exact QG 7 Z h 2 [0]
def KE(n:Nat)(a:Uc):AB Bool:=AH ((bif (a.AP.AN==0)then(bif (a.AP.BZ==0)then(bif (a.AP.N==0)then AC ((AI a.AP.Ac:Int)==0)else AC AD)else AC AD)else AC AD):AB Bool) λd=>AC d
theorem Px(e:Uc):Ks (KE n e) 233 [.a (Uc.c ({AP:=e.AP:Uc}))] [] (λr=>.b r):=by
 refine Kg 7 func233 Z Z Z Z λr h=>Bd h λd a h=>Cg d [] [] (λd=>[(2,.b d)]) Ze Zf ?_ ?_
 .refine G0 6 Z (Is 7 a Z (λ_ a=>?_) (λ_ a=>?_))
  .refine Go 6 Z (Is 13 a Z (λ_ a=>?_) (λ_ a=>?_))
   .refine Go 6 Z (Is 19 a Z (λ_ a=>?_) (λ_ a=>?_))
    .exact Go 3 Z (Lm Z (Gl 4 Z a []))
    .exact Gl 8 Z a []
   .exact Gl 14 Z a []
  .exact Gl 20 Z a []
 exact QG 1 Z h 2 []
def KI(a:Uh):AB (AA Uf):=AH (L3 n a.AZ.BD) λd=>AH (L3 n a.AZ.BG) λe=>AH (app d e) λf=>AC f
theorem Mb(a:Uh):Kq (KI n a) 254 [.a (Uh.c a)] [] (λr=>.o 0 (AI r) 1) (λr=>[.r 265 1 (map Uf.enc r)]):=by
 refine Kg 7 func254 Z Z Z Z λr h=>KN 7 3 [0,0,0,1,3,3,3] (by kernel_rfl) (Da 3 Z ?_);obtain⟨d,f,h⟩:=Q7 h;refine DA.op (x:=.o 1 (AI d) 1) (H1:=[.c 268 (Uh.c a),.r 265 1 (map Uf.enc d)]) ?_ ?_
 .refine Qs [] (DN.fn call125 Z Z Z) (Pv _ _ _ f) ?_;rintro _ _ ⟨rfl,rfl⟩;exact FE Z Wp
 refine Db 2 Z ?_;refine DB.wo2 (x:=.q 8 (map AZ.enc a.AZ.BG)) (Ld isAgg29 Z Wp) (Ld isAgg29 Z Wp) ?_;refine DB.done Z (Cd [] h (Pv _ _) Z λk j h=>FE Z (Bd h λl g h=>vH (Qu (e:=Uf.enc) g Rn Ge (QS (i:=2))) ?_));exact FE Z (Gt 4 Z h 2 [3])
def oF(n:Nat)(d:AA AP)(a:(AA Uf)×Int):AB (Bn ((AA Uf)×Int) (AA Uf)):=(bif a.2<(AI d:Int) then AH (Bt d a.2) λe=>AH (app a.1 [Uf.ctyping_cond ({AP:=e:Uc})]) λf=>AC (.k (f,i64.wrap (a.2+1)))else AC (.d a.1))
def Sf(a:AA AP):AB (AA Uf):=AH (iter (oF n a) n ([],0):AB (AA Uf)) λd=>AC d
theorem iS(u:AA AP):Kq (Sf n u) 267 [.q 4 (map AP.enc u)] [] (λr=>.o 0 (AI r) 1) (λr=>[.r 265 1 (map Uf.enc r)]):=by
 refine Kg 9 func267 Z Z Z Z λr h=>Lg 3 Z Z (Bd h λf w h=>Cg f [0] [] (λf=>[(2,.o 0 (AI f) 1)]) (λf=>[(0,.r 265 1 (map Uf.enc f))]) Zf ?_ ?_)
 .refine G0 1 Z (Lp [0] [5,6] (λd=>[(2,.o 0 (AI d.1) 1),(7,I d.2)]) (λd=>[(0,.r 265 1 (map Uf.enc d.1))]) w Zf ?_ ?_)
  .refine Ep (Eu (s:=2) (k:=1) (t:=265) (XS Z) Z) ?_;exact Lr [0]
  intro d x a j;refine G0 6 Z (Q8 Z a (λ_ a=>?_) (λ_ a=>?_))
  .exact Gc 2 Z (Qj a (Gx 1 Z (DM j a (Lr [0]))))
  refine Gc 6 Z (Bd a λg p a=>Fm p (aX g) Z (Go 9 Z ?_));refine vX (.iface 318 (.a (Uc.c ({AP:=g:Uc})))) (aY Z ES (by intro m;nofun) Z) ?_;refine vH (Em (xs:=[.tmp 14]) (es:=map Uf.enc [Uf.ctyping_cond ({AP:=g:Uc})]) Rn Z Z Z Z Z ⟨Z,trivial⟩ Z Z) ?_;refine FE Z (Bd a λy q a=>vH (Qu (e:=Uf.enc) q Rn Ge (QS (i:=2))) ?_);exact Fg 8 Z Z (Qg a (Lr [3]))
 exact QG 7 Z h 2 [0]
def IZ(a:Uc):AB (AA Uf):=AH (Sf n a.AP.Ac) λd=>AC d
theorem Mf(a:Uc):Kq (IZ n a) 253 [.a (Uc.c ({AP:=a.AP:Uc}))] [] (λr=>.o 0 (AI r) 1) (λr=>[.r 265 1 (map Uf.enc r)]):=by
 exact Kg 11 func253 Z Z Z Z λr h=>Cd [] h (iS _ _) Z λe d h=>FE Z (Gt 4 Z h 2 [1])
def LQ(m:AA Uf)(p:Int)(rec90:(AA Uf)->Int->Ud->AB (Ud×Bool))(a:Ud×Int):AB (Bn (Ud×Int) (Bn Ud (Ud×Bool))):=(bif a.2<(AI m:Int) then AH (Bt m a.2) λq=>Uf.elim q (λg=>AH (AH (KE n ({AP:=g.AZ.AP:Uc})) λr=>(bif (!r)then AH (rec90 [Uf.ctyping_cond ({AP:=g.AZ.AP:Uc})] 0 ({steps:=i64.wrap (a.1.steps+1),conds:=a.1.conds:Ud})) λh=>AC (h.1,(!h.2))else AC ({steps:=i64.wrap (a.1.steps+1),conds:=a.1.conds:Ud},AD)):AB (Ud×Bool)) λd=>(bif d.2 then AC (.d (.d (d.1,AD)))else AH ((bif 64<d.1.steps then AC (d.1,AE)else(bif 256<d.1.conds then AC (d.1,AE)else AH (KI n g) λk=>AH (rec90 k (i64.wrap (p+1)) d.1) λi=>AC (i.1,(!i.2)))):AB (Ud×Bool)) λe=>(bif e.2 then AC (.d (.d (e.1,AD)))else AC (.k (e.1,i64.wrap (a.2+1)))))) (λs=>AH ((bif 64<a.1.steps then AC ({steps:=a.1.steps,conds:=i64.wrap (a.1.conds+1):Ud},AE)else(bif 256<(i64.wrap (a.1.conds+1)) then AC ({steps:=a.1.steps,conds:=i64.wrap (a.1.conds+1):Ud},AE)else AH (IZ n ({AP:=s.AP:Uc})) λl=>AH (rec90 l (i64.wrap (p+1)) ({steps:=a.1.steps,conds:=i64.wrap (a.1.conds+1):Ud})) λj=>AC (j.1,(!j.2)))):AB (Ud×Bool)) λf=>(bif f.2 then AC (.d (.d (f.1,AD)))else AC (.k (f.1,i64.wrap (a.2+1)))))else AC (.d (.k a.1)))
def gH(rec90:(AA Uf)->Int->Ud->AB (Ud×Bool))(n:Nat)(d:AA Uf)(e:Int)(f:Ud):AB (Ud×Bool):=AH ((bif 0<(AI d:Int) then AC (AG (16<e))else AC AD):AB Bool) λb2=>(bif b2 then AC (f,AD)else AH (iter (LQ n d e rec90) n (f,0):AB (Bn Ud (Ud×Bool))) λg=>match g with|.k a=>(AC (a,AE))|.d a=>AC a)
theorem Qax(rec90:(AA Uf)->Int->Ud->AB (Ud×Bool))(g:∀(l:AA Uf) (x:Int) (y:Ud) (r:Ud×Bool),rec90 l x y=AC r->C prog 182 [.p 0 0,.o 1 (AI l) 1,I x] [.c 261 (Ud.c y),.r 265 1 (map Uf.enc l)] (RQ (λr=>.b r.2) (λr=>[.c 261 (Ud.c r.1),.r 265 1 (map Uf.enc l)]) r))(n:Nat)(l:AA Uf)(x:Int)(y:Ud)(r:Ud×Bool)(h:gH rec90 n l x y=AC r):C prog 182 [.p 0 0,.o 1 (AI l) 1,I x] [.c 261 (Ud.c y),.r 265 1 (map Uf.enc l)] (RQ (λr=>.b r.2) (λr=>[.c 261 (Ud.c r.1),.r 265 1 (map Uf.enc l)]) r):=by
 refine QK func182 Z Z Z ?_;refine G0 7 Z (Bd h λb2 B h=>Ct b2 [0,1] [0,1,2] (λb2=>[(18,.b b2)]) Ze Zf ?_ (λenv H q=>?_))
 .refine G0 5 Z (Is 15 B Z (λ_ B=>?_) (λ_ B=>?_))
  iterate 2 exact Gl 4 Z B [0,1]
 refine Gx 1 Z (Eg q (Cn Z h (λ_ h=>?_) (λ_ h=>?_)))
 .exact QG 7 Z h 6 [0,1]
 refine Gc 10 Z (Bd h λaa ab h=>DF (b:=aa) [0,1] [] Ze (λE=>[(0,.c 261 (Ud.c E))]) Zf ?_ (λE ac=>?_))
 .refine G0 1 Z (Lp [0,1] [0,2,19,20] (λt=>[(21,I t.2)]) (λt=>[(0,.c 261 (Ud.c t.1))]) ab Zf (Lr [0,1]) λt am a p=>?_);refine G0 6 Z (Q8 Z a (λ_ a=>?_) (λ_ a=>?_))
  .exact Gc 2 Z (Qj a (Gx 1 Z (Ji p a Z (Lr [0,1]))))
  refine Gc 6 Z (Bd a λT F a=>?_);refine vX (.p 1 (toNat t.2*1)) (Qk F Z Ge sizeOf265) ?_;refine vX (Uf.val T) (EC Z isAgg265 Z (Ql F)) ?_;refine Go 12 Z ?_;rcases JN T with⟨k,hE90⟩|⟨w,hE92⟩
  .have a:=JH hE90 a;refine Ew (QD (s:=8) (a':=.iface 268 (.a (Uh.c k))) Z (congrArg Uf.val hE90)) ?_;refine Ew (QD (s:=24) (a':=.iface 268 (.a (Uh.c k))) Z (congrArg Uf.val hE90)) ?_;refine Ew (QD (s:=25) (a':=.iface 268 (.a (Uh.c k))) Z (congrArg Uf.val hE90)) ?_;refine vX (.t [.a [I 0,I 0,I 0,.q 4 (map AP.enc [])],.b AD]) (lz (z:=(.a [I 0,I 0,I 0,.q 4 (map AP.enc [])])) ES (by intro m;nofun) Z GQ (HI Z)) ?_;refine Go 7 Z ?_;refine vX (.t [.a (Uh.c k),.b AE]) (Rr Gs (by intro m;nofun)) ?_;refine Go 34 Z (Bd a λu f a=>Ct u [0,1] [0,2,8,19,20,21] (λu=>[(60,.b u.2)]) (λu=>[(0,.c 261 (Ud.c u.1))]) Zf ?_ (λenv H q=>?_))
   .refine G0 2 Z (Cz [] f (Px _ _) Z λan ag f=>Go 2 Z (Is 53 f Z (λ_ f=>?_) (λ_ f=>?_)))
    .refine Go 2 Z ?_;refine vX (.iface 318 (.a (Uc.c ({AP:=k.AZ.AP:Uc})))) (aY Z ES (by intro m;nofun) Z) ?_ (gT Z);refine vH (Em (xs:=[.tmp 56]) (es:=map Uf.enc [Uf.ctyping_cond ({AP:=k.AZ.AP:Uc})]) Rn Z Z Z Z Z ⟨Z,trivial⟩ Z Z) ?_ (gT Z);exact FE Z (Cd [0,4] f (g _ _ _) Z λah ad f=>FE Z (Gl 3 Z f [0,1]))
    .exact Gl 8 Z f [0,1]
   refine Gx 1 Z (Eg q (Cn Z a (λ_ a=>?_) (λ_ a=>?_)))
   .refine Gc 10 Z (Qv a ?_);obtain rfl:=Oj p a;exact Gx 1 Z (Qq (Gx 1 Z (Rt h 6 [0,1])))
   refine Gc 4 Z (Bd a λi d a=>Ct i [0,1] [0,2,19,20,21] (λi=>[(81,.b i.2)]) (λi=>[(0,.c 261 (Ud.c i.1))]) Zf ?_ (λenv H q=>?_))
   .refine G0 7 Z (Is 66 d Z (λ_ d=>?_) (λ_ d=>?_))
    .exact Gl 16 Z d [0,1]
    .refine Go 7 Z (Is 73 d Z (λ_ d=>?_) (λ_ d=>?_))
     .exact Gl 9 Z d [0,1]
     .refine Go 2 Z (Bd d λai M d=>?_);refine Qs [] (eO call254 Z Z Z Z (λ_ _=>by kernel_rfl)) (Mb _ _ _ M) ?_ (hg:=(gT Z));rintro _ _ ⟨rfl,rfl⟩;exact Fg 2 Z Z (Cd [0,2] d (g _ _ _) Z λaj ae d=>FE Z (Gl 3 Z d [0,1]))
   refine Gx 1 Z (Eg q (Cn Z a (λ_ a=>?_) (λ_ a=>?_)))
   .refine Gc 8 Z (Qv a ?_);obtain rfl:=Oj p a;exact Gx 1 Z (Qq (Gx 1 Z (Rt h 6 [0,1])))
   exact Gc 7 Z (Qg a (Lr [0,1]))
  .have a:=JG hE92 a;refine Ew (QD (s:=8) (a':=.iface 318 (.a (Uc.c ({AP:=w.AP:Uc})))) Z (congrArg Uf.val hE92)) ?_;refine Ew (QD (s:=24) (a':=.iface 318 (.a (Uc.c ({AP:=w.AP:Uc})))) Z (congrArg Uf.val hE92)) ?_;refine Ew (QD (s:=25) (a':=.iface 318 (.a (Uc.c ({AP:=w.AP:Uc})))) Z (congrArg Uf.val hE92)) ?_;refine vX (.t [.a (Uc.c ({AP:=w.AP:Uc})),.b AE]) (Rr ES (by intro m;nofun)) ?_;refine Go 24 Z (Bd a λj e a=>Cg j [0,1] [0,2,19,20,21] (λj=>[(81,.b j.2)]) (λj=>[(0,.c 261 (Ud.c j.1))]) Zf ?_ ?_)
   .refine G0 7 Z (Is 66 e Z (λ_ e=>?_) (λ_ e=>?_))
    .exact Gl 16 Z e [0,1]
    .refine Go 7 Z (Is 73 e Z (λ_ e=>?_) (λ_ e=>?_))
     .exact Gl 9 Z e [0,1]
     .refine Go 2 Z (Bd e λak Q e=>?_);refine Qs [] (eO call253 Z Z Z Z (λ_ _=>by kernel_rfl)) (Mf _ _ _ Q) ?_ (hg:=(gT Z));rintro _ _ ⟨rfl,rfl⟩;exact Fg 2 Z Z (Cd [0,3] e (g _ _ _) Z λal af e=>FE Z (Gl 3 Z e [0,1]))
   refine Cn Z a (λ_ a=>?_) (λ_ a=>?_)
   .refine Gc 8 Z (Qv a ?_);obtain rfl:=Oj p a;exact Gx 1 Z (Qq (Gx 1 Z (Rt h 6 [0,1])))
   exact Gc 7 Z (Qg a (Lr [0,1]))
 subst ac;exact QG 6 Z h 6 [0,1]
def ML:Nat->(AA Uf)->Int->Ud->AB (Ud×Bool)
  |0=>λ_ _ _=>AF
  |n+1=>gH (ML n) n
theorem io:∀(a:AA Uf) (d:Int) (e:Ud) (r:Ud×Bool),ML n a d e=AC r->C prog 182 [.p 0 0,.o 1 (AI a) 1,I d] [.c 261 (Ud.c e),.r 265 1 (map Uf.enc a)] (RQ (λr=>.b r.2) (λr=>[.c 261 (Ud.c r.1),.r 265 1 (map Uf.enc a)]) r):=by
  induction n with
  |zero=>intro a d e r h;cases h
  |succ n ih=>intro a d e r h;exact Qax _ ih n a d e r h
def nt(m:AA Uf)(p:Int)(a:Ud×Int):AB (Bn (Ud×Int) (Bn Ud (Ud×Bool))):=(bif a.2<(AI m:Int) then AH (Bt m a.2) λq=>Uf.elim q (λg=>AH (AH (KE n ({AP:=g.AZ.AP:Uc})) λr=>(bif (!r)then AH (ML n [Uf.ctyping_cond ({AP:=g.AZ.AP:Uc})] 0 ({steps:=i64.wrap (a.1.steps+1),conds:=a.1.conds:Ud})) λh=>AC (h.1,(!h.2))else AC ({steps:=i64.wrap (a.1.steps+1),conds:=a.1.conds:Ud},AD)):AB (Ud×Bool)) λd=>(bif d.2 then AC (.d (.d (d.1,AD)))else AH ((bif 64<d.1.steps then AC (d.1,AE)else(bif 256<d.1.conds then AC (d.1,AE)else AH (KI n g) λk=>AH (ML n k (i64.wrap (p+1)) d.1) λi=>AC (i.1,(!i.2)))):AB (Ud×Bool)) λe=>(bif e.2 then AC (.d (.d (e.1,AD)))else AC (.k (e.1,i64.wrap (a.2+1)))))) (λs=>AH ((bif 64<a.1.steps then AC ({steps:=a.1.steps,conds:=i64.wrap (a.1.conds+1):Ud},AE)else(bif 256<(i64.wrap (a.1.conds+1)) then AC ({steps:=a.1.steps,conds:=i64.wrap (a.1.conds+1):Ud},AE)else AH (IZ n ({AP:=s.AP:Uc})) λl=>AH (ML n l (i64.wrap (p+1)) ({steps:=a.1.steps,conds:=i64.wrap (a.1.conds+1):Ud})) λj=>AC (j.1,(!j.2)))):AB (Ud×Bool)) λf=>(bif f.2 then AC (.d (.d (f.1,AD)))else AC (.k (f.1,i64.wrap (a.2+1)))))else AC (.d (.k a.1)))
def cR(d:AA Uf)(e:Int)(f:Ud):AB (Ud×Bool):=AH ((bif 0<(AI d:Int) then AC (AG (16<e))else AC AD):AB Bool) λb2=>(bif b2 then AC (f,AD)else AH (iter (nt n d e) n (f,0):AB (Bn Ud (Ud×Bool))) λg=>match g with|.k a=>(AC (a,AE))|.d a=>AC a)
theorem h_(Q:AA Uf)(R:Int)(T:Ud):Kq (cR n Q R T) 182 [.p 0 0,.q 1 (map Uf.enc Q),I R] [.c 261 (Ud.c T)] (λr=>.b r.2) (λr=>[.c 261 (Ud.c r.1)]):=by
 refine Kg 7 func182 Z Z Z Z λr h=>Bd h λb2 u h=>Ct b2 [0] [0,1,2] (λb2=>[(18,.b b2)]) Ze Zf ?_ (λenv H l=>?_)
 .refine G0 2 Z (Lg 2 Z Z (Is 15 u Z (λ_ u=>?_) (λ_ u=>?_)))
  iterate 2 exact Gl 4 Z u [0]
 refine Gx 1 Z (Eg l (Cn Z h (λ_ h=>?_) (λ_ h=>?_)))
 .exact QG 7 Z h 6 [0]
 refine Gc 6 Z (Lg 3 Z Z (Bd h λX Y h=>DF (b:=X) [0] [] Ze (λw=>[(0,.c 261 (Ud.c w))]) Zf ?_ (λw aa=>?_)))
 .refine G0 1 Z (Lp [0] [0,2,19,20] (λq=>[(21,I q.2)]) (λq=>[(0,.c 261 (Ud.c q.1))]) Y Zf (Lr [0]) λq al a k=>?_);refine G0 6 Z (Q8 Z a (λ_ a=>?_) (λ_ a=>?_))
  .exact Gc 2 Z (Qj a (Gx 1 Z (Ji k a Z (Lr [0]))))
  refine Gc 6 Z (Bd a λab O a=>Iz O Z (Go 13 Z ?_));rcases JN ab with⟨j,hE90⟩|⟨t,hE92⟩
  .have a:=JH hE90 a;refine Ew (QD (s:=8) (a':=.iface 268 (.a (Uh.c j))) Z (congrArg Uf.val hE90)) ?_;refine Ew (QD (s:=24) (a':=.iface 268 (.a (Uh.c j))) Z (congrArg Uf.val hE90)) ?_;refine Ew (QD (s:=25) (a':=.iface 268 (.a (Uh.c j))) Z (congrArg Uf.val hE90)) ?_;refine vX (.t [.a [I 0,I 0,I 0,.q 4 (map AP.enc [])],.b AD]) (lz (z:=(.a [I 0,I 0,I 0,.q 4 (map AP.enc [])])) ES (by intro m;nofun) Z GQ (HI Z)) ?_;refine Go 7 Z ?_;refine vX (.t [.a (Uh.c j),.b AE]) (Rr Gs (by intro m;nofun)) ?_;refine Go 34 Z (Bd a λp f a=>Ct p [0] [0,2,8,19,20,21] (λp=>[(60,.b p.2)]) (λp=>[(0,.c 261 (Ud.c p.1))]) Zf ?_ (λenv H l=>?_))
   .refine G0 2 Z (Cz [] f (Px _ _) Z λam af f=>Go 2 Z (Is 53 f Z (λ_ f=>?_) (λ_ f=>?_)))
    .refine Go 2 Z ?_;refine vX (.iface 318 (.a (Uc.c ({AP:=j.AZ.AP:Uc})))) (aY Z ES (by intro m;nofun) Z) ?_ (gT Z);refine vH (Em (xs:=[.tmp 56]) (es:=map Uf.enc [Uf.ctyping_cond ({AP:=j.AZ.AP:Uc})]) Rn Z Z Z Z Z ⟨Z,trivial⟩ Z Z) ?_ (gT Z);exact FE Z (Cd [0,3] f (io _ _ _ _) Z λag ac f=>FE Z (Gl 3 Z f [0]))
    .exact Gl 8 Z f [0]
   refine Gx 1 Z (Eg l (Cn Z a (λ_ a=>?_) (λ_ a=>?_)))
   .refine Gc 10 Z (Qv a ?_);obtain rfl:=Oj k a;exact Gx 1 Z (Qq (Gx 1 Z (Rt h 6 [0])))
   refine Gc 4 Z (Bd a λg d a=>Ct g [0] [0,2,19,20,21] (λg=>[(81,.b g.2)]) (λg=>[(0,.c 261 (Ud.c g.1))]) Zf ?_ (λenv H l=>?_))
   .refine G0 7 Z (Is 66 d Z (λ_ d=>?_) (λ_ d=>?_))
    .exact Gl 16 Z d [0]
    .refine Go 7 Z (Is 73 d Z (λ_ d=>?_) (λ_ d=>?_))
     .exact Gl 9 Z d [0]
     .refine Go 2 Z (Bd d λah E d=>?_);refine Qs [] (eO call254 Z Z Z Z (λ_ _=>by kernel_rfl)) (Mb _ _ _ E) ?_ (hg:=(gT Z));rintro _ _ ⟨rfl,rfl⟩;exact Fg 2 Z Z (Cd [0,1] d (io _ _ _ _) Z λai ad d=>FE Z (Gl 3 Z d [0]))
   refine Gx 1 Z (Eg l (Cn Z a (λ_ a=>?_) (λ_ a=>?_)))
   .refine Gc 8 Z (Qv a ?_);obtain rfl:=Oj k a;exact Gx 1 Z (Qq (Gx 1 Z (Rt h 6 [0])))
   exact Gc 7 Z (Qg a (Lr [0]))
  .have a:=JG hE92 a;refine Ew (QD (s:=8) (a':=.iface 318 (.a (Uc.c ({AP:=t.AP:Uc})))) Z (congrArg Uf.val hE92)) ?_;refine Ew (QD (s:=24) (a':=.iface 318 (.a (Uc.c ({AP:=t.AP:Uc})))) Z (congrArg Uf.val hE92)) ?_;refine Ew (QD (s:=25) (a':=.iface 318 (.a (Uc.c ({AP:=t.AP:Uc})))) Z (congrArg Uf.val hE92)) ?_;refine vX (.t [.a (Uc.c ({AP:=t.AP:Uc})),.b AE]) (Rr ES (by intro m;nofun)) ?_;refine Go 24 Z (Bd a λi e a=>Cg i [0] [0,2,19,20,21] (λi=>[(81,.b i.2)]) (λi=>[(0,.c 261 (Ud.c i.1))]) Zf ?_ ?_)
   .refine G0 7 Z (Is 66 e Z (λ_ e=>?_) (λ_ e=>?_))
    .exact Gl 16 Z e [0]
    .refine Go 7 Z (Is 73 e Z (λ_ e=>?_) (λ_ e=>?_))
     .exact Gl 9 Z e [0]
     .refine Go 2 Z (Bd e λaj L e=>?_);refine Qs [] (eO call253 Z Z Z Z (λ_ _=>by kernel_rfl)) (Mf _ _ _ L) ?_ (hg:=(gT Z));rintro _ _ ⟨rfl,rfl⟩;exact Fg 2 Z Z (Cd [0,2] e (io _ _ _ _) Z λak ae e=>FE Z (Gl 3 Z e [0]))
   refine Cn Z a (λ_ a=>?_) (λ_ a=>?_)
   .refine Gc 8 Z (Qv a ?_);obtain rfl:=Oj k a;exact Gx 1 Z (Qq (Gx 1 Z (Rt h 6 [0])))
   exact Gc 7 Z (Qg a (Lr [0]))
 subst aa;exact QG 6 Z h 6 [0]
def TQ(rec94:(AA Uf)->AB Bool)(n:Nat)(a:Uc):AB Bool:=AH ((bif (a.AP.BZ==0)then AC (a.AP.N==0)else AC AD):AB Bool) λb2=>(bif (a.AP.AN==1)then AH (AH (FH n 1 3 [a.AP.BZ]) λe=>(bif e then AH (FH n 0 10000 [a.AP.N]) λf=>(bif f then AC ((AI a.AP.Ac:Int)==0)else AC AD)else AC AD):AB Bool) λg=>AC g else AH ((bif (a.AP.AN==4)then(bif b2 then AC (.k ((AI a.AP.Ac:Int)==1))else AC (.k AD))else AH ((bif (a.AP.AN==2)then AC (a.AP.AN==2)else AC (a.AP.AN==3)):AB Bool) λh=>(bif h then(bif b2 then(bif 0<(AI a.AP.Ac:Int) then AC (.k (AG ((AI a.AP.Ac:Int)<=16)))else AC (.k AD))else AC (.k AD))else AC (.d AD))):AB (Bn Bool Bool)) λi=>match i with|.k d=>(AH ((bif d then AH (IZ n ({AP:=a.AP:Uc})) λj=>AH (rec94 j) λk=>AC (!k)else AC AD):AB Bool) λl=>AC l)|.d d=>AC d)
theorem jJ(rec94:(AA Uf)->AB Bool)(j:∀(g:AA Uf) (r:Bool),rec94 g=AC r->DE prog 183 [.q 1 (map Uf.enc g),.f 184] [] (λr=>.b r) r)(n:Nat)(g:Uc):Ks (TQ rec94 n g) 235 [.iface 318 (.a (Uc.c ({AP:=g.AP:Uc})))] [] (λr=>.b r):=by
 refine Kg 14 func235 Z Z Z Z λr h=>?_;refine vX (.t [.a (Uc.c ({AP:=g.AP:Uc})),.b AE]) (Rr ES (by intro m;nofun)) ?_;refine Go 12 Z (Bd h λb2 k h=>Ct b2 [0] [3] (λb2=>[(4,.b b2)]) Ze Zf ?_ (λenv H f=>?_))
 .refine G0 6 Z (Is 15 k Z (λ_ k=>?_) (λ_ k=>?_))
  iterate 2 exact Gl 7 Z k [0]
 refine Gx 1 Z (Eg f (Gc 15 Z (Cn Z h (λ_ h=>?_) (λ_ h=>?_))))
 .refine Gc 1 Z (Bd h λl d h=>Ct l [] [] (λl=>[(2,.b l)]) Ze Zf ?_ (λenv H f=>?_))
  .refine G0 4 Z (vH (Em (xs:=[.tmp 28]) (es:=map (Qe .i64) [g.AP.BZ]) QA Z Z Z Z Z ⟨Z,trivial⟩ Z Z) ?_);refine FE Z (Cb d (Fa _ _ _ _) Z (ls (ls (lo ln))) λR M d=>Go 1 Z (Is 31 d Z (λ_ d=>?_) (λ_ d=>?_)))
   .refine Go 3 Z (vH (Em (xs:=[.tmp 34]) (es:=map (Qe .i64) [g.AP.N]) QA Z Z Z Z Z ⟨Z,trivial⟩ Z Z) ?_ (gT Z));refine FE Z (Cb d (Fa _ _ _ _) Z (ls (ls (lo ln))) λT O d=>Go 2 Z (Is 38 d Z (λ_ d=>?_) (λ_ d=>?_)))
    .exact Go 3 Z (Lm Z (Gl 4 Z d []))
    .exact Gl 8 Z d []
   .exact Gl 15 Z d []
  exact Gx 1 Z (Eg f (QG 5 Z h 2 []))
 refine Gc 6 Z (Bd h λL a h=>FI (b:=L) [0] [3] (λp=>[(4,.b p)]) Ze Zf ?_ (λp env H hb f=>?_))
 .refine G0 0 Z (Cn Z a (λ_ a=>?_) (λ_ a=>?_))
  .refine Gc 3 Z (Is 48 a Z (λ_ a=>?_) (λ_ a=>?_))
   .refine Go 3 Z (Lg 4 Z Z ?_);cases a;exact YU Z (Lr [0])
   .refine Go 8 Z ?_;cases a;exact YU Z (Lr [0])
  refine Gc 7 Z (Bd a λq i a=>Ct q [0] [3,4] (λq=>[(55,.b q)]) Ze Zf ?_ (λenv H f=>?_))
  .refine G0 0 Z (Cn Z i (λ_ i=>?_) (λ_ i=>?_))
   .exact Yy 1 Z i [0]
   exact Yy 4 Z i [0]
  refine Gx 1 Z (Eg f (Q8 Z a (λ_ a=>?_) (λ_ a=>?_)))
  .refine Gc 6 Z ?_;cases a;exact Qq (Gx 4 Z (Rt h 2 []))
  refine Gc 3 Z (Is 59 a Z (λ_ a=>?_) (λ_ a=>?_))
  .refine Go 3 Z (Lg 3 Z Z (Is 66 a Z (λ_ a=>?_) (λ_ a=>?_)))
   .refine Go 3 Z (Lg 4 Z Z ?_);cases a;exact YU Z (Lr [0])
   .refine Go 8 Z ?_;cases a;exact YU Z (Lr [0])
  .refine Go 15 Z ?_;cases a;exact YU Z (Lr [0])
 subst hb;refine Gx 2 Z (Eg f (Gc 1 Z (Bd h λs e h=>Cg s [] [] (λs=>[(2,.b s)]) Ze Zf ?_ ?_)))
 .refine G0 3 Z (Is 74 e Z (λ_ e=>?_) (λ_ e=>?_))
  .exact Go 1 Z (Cd [] e (Mf _ _) Z λV P e=>FE Z (Cb e (j _) Z (lo (ls ln)) λW Q e=>Gl 4 Z e []))
  .exact Gl 7 Z e []
 exact QG 3 Z h 2 []
def bX(rec94:(AA Uf)->AB Bool)(n:Nat)(z:Uf):AB Bool:=Uf.elim z (λd=>(bif (d.AZ.AN==1)then AH (AH (FH n 1 5 [d.AZ.By]) λg=>(bif g then AH (KE n ({AP:=d.AZ.AP:Uc})) λh=>(bif h then AH (KI n d) λi=>AC ((AI i:Int)==0)else AC AD)else AC AD):AB Bool) λj=>AC j else(bif (d.AZ.AN==2)then AH ((bif (d.AZ.By==0)then AH (TQ rec94 n ({AP:=d.AZ.AP:Uc})) λk=>(bif k then(bif 0<(AI d.AZ.BD:Int) then AH (KI n d) λl=>AH (rec94 l) λm=>AC (!m)else AC AD)else AC AD)else AC AD):AB Bool) λp=>AC p else AC AD))) (λa=>AH ((bif (a.AP.BZ==0)then AC (a.AP.N==0)else AC AD):AB Bool) λf=>(bif (a.AP.AN==1)then AH (AH (FH n 1 3 [a.AP.BZ]) λq=>(bif q then AH (FH n 0 10000 [a.AP.N]) λr=>(bif r then AC ((AI a.AP.Ac:Int)==0)else AC AD)else AC AD):AB Bool) λs=>AC s else AH ((bif (a.AP.AN==4)then(bif f then AC (.k ((AI a.AP.Ac:Int)==1))else AC (.k AD))else AH ((bif (a.AP.AN==2)then AC (a.AP.AN==2)else AC (a.AP.AN==3)):AB Bool) λt=>(bif t then(bif f then(bif 0<(AI a.AP.Ac:Int) then AC (.k (AG ((AI a.AP.Ac:Int)<=16)))else AC (.k AD))else AC (.k AD))else AC (.d AD))):AB (Bn Bool Bool)) λu=>match u with|.k e=>(AH ((bif e then AH (IZ n ({AP:=a.AP:Uc})) λw=>AH (rec94 w) λx=>AC (!x)else AC AD):AB Bool) λy=>AC y)|.d e=>AC e))
theorem gh(rec94:(AA Uf)->AB Bool)(j:∀(p:AA Uf) (r:Bool),rec94 p=AC r->DE prog 183 [.q 1 (map Uf.enc p),.f 184] [] (λr=>.b r) r)(n:Nat)(p:Uf):Ks (bX rec94 n p) 235 [Uf.val p] [] (λr=>.b r):=by
 refine Kg 14 func235 Z Z Z Z λr h=>?_;rcases JN p with⟨q,hE2⟩|⟨t,hE4⟩
 .have h:=JH hE2 h;refine Ew (QD (s:=0) (a':=.iface 268 (.a (Uh.c q))) Z (congrArg Uf.val hE2)) ?_;refine Ew (QD (s:=7) (a':=.iface 268 (.a (Uh.c q))) Z (congrArg Uf.val hE2)) ?_;refine vX (.t [.a [I 0,I 0,I 0,.q 4 (map AP.enc [])],.b AD]) (lz (z:=(.a [I 0,I 0,I 0,.q 4 (map AP.enc [])])) ES (by intro m;nofun) Z GQ (HI Z)) ?_;refine Go 7 Z ?_;refine vX (.t [.a (Uh.c q),.b AE]) (Rr Gs (by intro m;nofun)) ?_;refine Go 35 Z (Cn Z h (λ_ h=>?_) (λ_ h=>?_))
  .refine Gc 1 Z (Bd h λu e h=>Ct u [] [] (λu=>[(2,.b u)]) Ze Zf ?_ (λenv H g=>?_))
   .refine G0 4 Z (vH (Em (xs:=[.tmp 94]) (es:=map (Qe .i64) [q.AZ.By]) QA Z Z Z Z Z ⟨Z,trivial⟩ Z Z) ?_);refine FE Z (Cb e (Fa _ _ _ _) Z (ls (ls (lo ln))) λar ag e=>Go 1 Z (Is 97 e Z (λ_ e=>?_) (λ_ e=>?_)))
    .refine Go 1 Z (Cz [] e (Px _ _) Z λau ah e=>Go 2 Z (Is 101 e Z (λ_ e=>?_) (λ_ e=>?_)))
     .exact Go 1 Z (Cd [] e (Mb _ _) Z λav ai e=>FE Z (Gl 5 Z e []))
     .exact Gl 7 Z e []
    .exact Gl 11 Z e []
   exact Gx 1 Z (Eg g (QG 4 Z h 2 []))
  refine Gc 6 Z (Cn Z h (λ_ h=>?_) (λ_ h=>?_))
  .refine Gc 1 Z (Bd h λw d h=>Ct w [] [] (λw=>[(2,.b w)]) Ze Zf ?_ (λenv H g=>?_))
   .refine G0 6 Z (Is 113 d Z (λ_ d=>?_) (λ_ d=>?_))
    .refine Go 1 Z ?_;refine vX (.iface 318 (.a (Uc.c ({AP:=q.AZ.AP:Uc})))) (aY Z ES (by intro m;nofun) Z) ?_ (gT Z);refine Cz [] d (jJ rec94 j _ _) Z λaw aj d=>Go 2 Z (Is 118 d Z (λ_ d=>?_) (λ_ d=>?_))
     .refine Go 3 Z (Lg 3 Z Z (Is 125 d Z (λ_ d=>?_) (λ_ d=>?_)))
      .exact Go 1 Z (Cd [] d (Mb _ _) Z λax ak d=>FE Z (Cb d (j _) Z (lo (ls ln)) λay al d=>Gl 4 Z d []))
      .exact Gl 7 Z d []
     .exact Gl 14 Z d []
    .exact Gl 19 Z d []
   exact Gx 1 Z (Eg g (QG 4 Z h 2 []))
  exact QG 10 Z h 2 []
 .have h:=JG hE4 h;refine Ew (QD (s:=0) (a':=.iface 318 (.a (Uc.c ({AP:=t.AP:Uc})))) Z (congrArg Uf.val hE4)) ?_;refine Ew (QD (s:=7) (a':=.iface 318 (.a (Uc.c ({AP:=t.AP:Uc})))) Z (congrArg Uf.val hE4)) ?_;refine vX (.t [.a (Uc.c ({AP:=t.AP:Uc})),.b AE]) (Rr ES (by intro m;nofun)) ?_;refine Go 12 Z (Bd h λx k h=>Ct x [0] [3] (λx=>[(4,.b x)]) Ze Zf ?_ (λenv H g=>?_))
  .refine G0 6 Z (Is 15 k Z (λ_ k=>?_) (λ_ k=>?_))
   iterate 2 exact Gl 7 Z k [0]
  refine Gx 1 Z (Eg g (Gc 15 Z (Cn Z h (λ_ h=>?_) (λ_ h=>?_))))
  .refine Gc 1 Z (Bd h λy f h=>Ct y [] [] (λy=>[(2,.b y)]) Ze Zf ?_ (λenv H g=>?_))
   .refine G0 4 Z (vH (Em (xs:=[.tmp 28]) (es:=map (Qe .i64) [t.AP.BZ]) QA Z Z Z Z Z ⟨Z,trivial⟩ Z Z) ?_);refine FE Z (Cb f (Fa _ _ _ _) Z (ls (ls (lo ln))) λaz am f=>Go 1 Z (Is 31 f Z (λ_ f=>?_) (λ_ f=>?_)))
    .refine Go 3 Z (vH (Em (xs:=[.tmp 34]) (es:=map (Qe .i64) [t.AP.N]) QA Z Z Z Z Z ⟨Z,trivial⟩ Z Z) ?_ (gT Z));refine FE Z (Cb f (Fa _ _ _ _) Z (ls (ls (lo ln))) λba an f=>Go 2 Z (Is 38 f Z (λ_ f=>?_) (λ_ f=>?_)))
     .exact Go 3 Z (Lm Z (Gl 4 Z f []))
     .exact Gl 8 Z f []
    .exact Gl 15 Z f []
   exact Gx 1 Z (Eg g (QG 5 Z h 2 []))
  refine Gc 6 Z (Bd h λaf a h=>FI (b:=af) [0] [3] (λB=>[(4,.b B)]) Ze Zf ?_ (λB env H hb g=>?_))
  .refine G0 0 Z (Cn Z a (λ_ a=>?_) (λ_ a=>?_))
   .refine Gc 3 Z (Is 48 a Z (λ_ a=>?_) (λ_ a=>?_))
    .refine Go 3 Z (Lg 4 Z Z ?_);cases a;exact YU Z (Lr [0])
    .refine Go 8 Z ?_;cases a;exact YU Z (Lr [0])
   refine Gc 7 Z (Bd a λE l a=>Ct E [0] [3,4] (λE=>[(55,.b E)]) Ze Zf ?_ (λenv H g=>?_))
   .refine G0 0 Z (Cn Z l (λ_ l=>?_) (λ_ l=>?_))
    .exact Yy 1 Z l [0]
    exact Yy 4 Z l [0]
   refine Gx 1 Z (Eg g (Q8 Z a (λ_ a=>?_) (λ_ a=>?_)))
   .refine Gc 6 Z ?_;cases a;exact Qq (Gx 4 Z (Rt h 2 []))
   refine Gc 3 Z (Is 59 a Z (λ_ a=>?_) (λ_ a=>?_))
   .refine Go 3 Z (Lg 3 Z Z (Is 66 a Z (λ_ a=>?_) (λ_ a=>?_)))
    .refine Go 3 Z (Lg 4 Z Z ?_);cases a;exact YU Z (Lr [0])
    .refine Go 8 Z ?_;cases a;exact YU Z (Lr [0])
   .refine Go 15 Z ?_;cases a;exact YU Z (Lr [0])
  subst hb;refine Gx 2 Z (Eg g (Gc 1 Z (Bd h λF i h=>Cg F [] [] (λF=>[(2,.b F)]) Ze Zf ?_ ?_)))
  .refine G0 3 Z (Is 74 i Z (λ_ i=>?_) (λ_ i=>?_))
   .exact Go 1 Z (Cd [] i (Mf _ _) Z λbb ao i=>FE Z (Cb i (j _) Z (lo (ls ln)) λbc aq i=>Gl 4 Z i []))
   .exact Gl 7 Z i []
  exact QG 3 Z h 2 []
def Sh(rec94:(AA Uf)->AB Bool)(n:Nat)(a:Uf):AB Bool:=AH (bX rec94 n a) λd=>AC (!d)
theorem iT(rec94:(AA Uf)->AB Bool)(a:∀(d:AA Uf) (r:Bool),rec94 d=AC r->DE prog 183 [.q 1 (map Uf.enc d),.f 184] [] (λr=>.b r) r)(n:Nat)(d:Uf):Ks (Sh rec94 n d) 184 [Uf.val d] [] (λr=>.b r):=by
 exact Kg 8 func184 Z Z Z Z λr h=>Bd h λf e h=>Pc [] Z (DN.fn call235 Z Z Z) (gh rec94 a _ _ _ e) (hargs:=by first|exact Z|exact Eq.trans (by exact Z) (R0 _ (by simp[YO,YH,Uf.data])).symm) Z (Gt 5 Z h 2 [])
def nr(d:AA Uf)(rec94:(AA Uf)->AB Bool)(a:Int):AB (Bn Int (Bn Unit Int)):=(bif a<(AI d:Int) then AH (Bt d a) λe=>AH (Sh rec94 n e) λf=>(bif f then AC (.d (.d a))else AC (.k (i64.wrap (a+1))))else AC (.d (.k ())))
def bT(rec94:(AA Uf)->AB Bool)(n:Nat)(e:AA Uf):AB Int:=AH (iter (nr n e rec94) n 0:AB (Bn Unit Int)) λd=>match d with|.k a=>(AC (-1))|.d a=>AC a
theorem gd(rec94:(AA Uf)->AB Bool)(d:∀(e:AA Uf) (r:Bool),rec94 e=AC r->DE prog 183 [.q 1 (map Uf.enc e),.f 184] [] (λr=>.b r) r)(n:Nat)(e:AA Uf):Ks (bT rec94 n e) 234 [.q 1 (map Uf.enc e),.f 184] [] (λr=>I r):=by
 refine Kg 9 func234 Z Z Z Z λr h=>Lg 3 Z Z (Bd h λm p h=>DF (b:=m) [] [] Ze Ze Zf ?_ (λ_ q=>?_))
 .refine G0 1 Z (Lp [] [0,1,7] (λg=>[(8,I g)]) Ze p Zf (Lr []) λg t a f=>?_);refine G0 6 Z (Q8 Z a (λ_ a=>?_) (λ_ a=>?_))
  .exact Gc 2 Z (Qj a (Gx 1 Z (Ji f a Z (Lr []))))
  refine Gc 15 Z (Bd a λu j a=>Iz j Z (Go 1 Z (Bd a λw k a=>Pc [] Z (pj call184 Z Z Z Z) (iT rec94 d _ _ _ k) (hargs:=by first|exact Z|exact Eq.trans (by exact Z) (R0 _ (by simp[YO,YH,Uf.data])).symm) Z (Go 2 Z (Cn Z a (λ_ a=>?_) (λ_ a=>?_))))))
  .refine Gc 9 Z (Qv a ?_);obtain rfl:=Oj f a;exact Gx 1 Z (Qq (Gx 1 Z (Rt h 4 [])))
  exact Gc 7 Z (Qg a (Lr []))
 subst q;exact QG 6 Z h 4 []
def Tf(rec94:(AA Uf)->AB Bool)(n:Nat)(a:AA Uf):AB Bool:=AH (bT rec94 n a) λd=>AC (AG (0<=d))
theorem Qay(rec94:(AA Uf)->AB Bool)(a:∀(d:AA Uf) (r:Bool),rec94 d=AC r->DE prog 183 [.q 1 (map Uf.enc d),.f 184] [] (λr=>.b r) r)(n:Nat)(d:AA Uf)(r:Bool)(h:Tf rec94 n d=AC r):DE prog 183 [.q 1 (map Uf.enc d),.f 184] [] (λr=>.b r) r:=by
 refine QK func183 Z Z Z ?_;exact G0 9 Z (Cz [] h (gd rec94 a _ _) Z λf e h=>Gt 5 Z h 4 [])
def Id:Nat->(AA Uf)->AB Bool
  |0=>λ_=>AF
  |n+1=>Tf (Id n) n
theorem ka:∀(a:AA Uf) (r:Bool),Id n a=AC r->DE prog 183 [.q 1 (map Uf.enc a),.f 184] [] (λr=>.b r) r:=by
  induction n with
  |zero=>intro a r h;cases h
  |succ n ih=>intro a r h;exact Qay _ ih n a r h
def b6(a:AA Uf):AB Int:=AH (cR n a 0 ({steps:=0,conds:=0:Ud})) λd=>(bif (!d.2)then AC 2 else AH ((bif ((AI a:Int)==0)then AC AE else AH (Id n a) λe=>AC e):AB Bool) λf=>(bif f then AC 71 else AC 0))
theorem gl(e:AA Uf):Ks (b6 n e) 124 [.q 1 (map Uf.enc e)] [] (λr=>I r):=by
 refine Kg 17 func124 Z Z Z Z λr h=>Cd [0] h (h_ _ _ _ _) Z λl j h=>Fg 3 Z Z (Cn Z h (λ_ h=>?_) (λ_ h=>?_))
 .exact QG 7 Z h 2 []
 refine Gc 4 Z (Bd h λd a h=>Cg d [] [] (λd=>[(16,.b d)]) Ze Zf ?_ ?_)
 .refine G0 2 Z (Lg 2 Z Z (Is 13 a Z (λ_ a=>?_) (λ_ a=>?_)))
  .exact Gl 4 Z a []
  .exact Go 1 Z (Cz [] a (ka _ _) Z λm k a=>Gl 2 Z a [])
 refine Cn Z h (λ_ h=>?_) (λ_ h=>?_)
 .exact QG 7 Z h 2 []
 exact QG 8 Z h 2 []
def S9(a:AA AZ):AB Int:=AH (L3 n a) λd=>AH (b6 n d) λe=>AC e
theorem i5(a:AA AZ):Ks (S9 n a) 58 [.q 8 (map AZ.enc a)] [] (λr=>I r):=by
 exact Kg 8 func58 Z Z Z Z λr h=>Cd [] h (Pv _ _) Z λf d h=>FE Z (Cb h (gl _ _) Z (lo ln) λg e h=>Gt 4 Z h 2 [])
def LH(n:Nat)(d:Bo)(e:AA Int)(a:(AA Int)×Int):AB (Bn ((AA Int)×Int) (Bn (AA Int) (Bn ((AA Int)×Int) (Bn (AA Int) (AA Int))))):=(bif a.2<(if d.Ax<1 then 1 else d.Ax) then(bif 256<(AI a.1:Int) then AC (.d (.d (.d (.d a.1))))else AH (app a.1 e) λf=>AC (.k (f,i64.wrap (a.2+1))))else AC (.d (.k a.1)))
def LO(f:AA Bo)(rec113:(AA Bo)->AB (AA Int))(a:(AA Int)×Int):AB (Bn ((AA Int)×Int) (Bn (AA Int) (AA Int))):=(bif a.2<(AI f:Int) then AH (Bt f a.2) λe=>AH ((bif 0<e.Ax then AH (rec113 e.Ac) λg=>AC g else AC [e.Ag]):AB (AA Int)) λh=>AH (iter (LH n e h) n (a.1,0):AB (Bn (AA Int) (Bn ((AA Int)×Int) (Bn (AA Int) (AA Int))))) λi=>match i with|.k d=>(AC (.k (d,i64.wrap (a.2+1))))|.d d=>AC d else AC (.d (.k a.1)))
def O0(rec113:(AA Bo)->AB (AA Int))(n:Nat)(e:AA Bo):AB (AA Int):=AH (iter (LO n e rec113) n ([],0):AB (Bn (AA Int) (AA Int))) λd=>match d with|.k a=>(AC a)|.d a=>AC a
theorem Qdt(rec113:(AA Bo)->AB (AA Int))(u:∀(w:AA Bo) (r:AA Int),rec113 w=AC r->C prog 128 [.q 3 (map Bo.enc w)] [] (RQ (λr=>.o 0 (AI r) 1) (λr=>[.r 3 1 (map (Qe .i64) r)]) r))(n:Nat)(w:AA Bo)(r:AA Int)(h:O0 rec113 n w=AC r):C prog 128 [.q 3 (map Bo.enc w)] [] (RQ (λr=>.o 0 (AI r) 1) (λr=>[.r 3 1 (map (Qe .i64) r)]) r):=by
 refine QK func128 Z Z Z ?_;refine G0 9 Z (Lg 3 Z Z (Bd h λN O h=>DF (b:=N) [0] [] (λg=>[(2,.o 0 (AI g) 1)]) (λg=>[(0,.r 3 1 (map (Qe .i64) g))]) Zf ?_ (λg x=>?_)))
 .refine G0 1 Z (Lp [0] [6,7] (λl=>[(2,.o 0 (AI l.1) 1),(8,I l.2)]) (λl=>[(0,.r 3 1 (map (Qe .i64) l.1))]) O Zf ?_ ?_)
  .refine Ep (Eu (s:=2) (k:=1) (t:=3) (XS Z) Z) ?_;exact Lr [0]
  intro l T a y;refine G0 6 Z (Q8 Z a (λ_ a=>?_) (λ_ a=>?_))
  .exact Gc 2 Z (Qj a (Gx 1 Z (Ji y a Z (Lr [0]))))
  refine Gc 6 Z (Bd a λq F a=>Fm F (Yi q) Z (Go 9 Z (vH (Em (xs:=[.tmp 13]) (es:=map (Qe .i64) [q.Ag]) QA Z Z Z Z Z ⟨Z,trivial⟩ Z Z) ?_)));refine Fg 11 Z Z (Bd a λm f a=>Ct m [0,1,0] [2,4,6,7,8] (λm=>[(5,.o 2 (AI m) 1)]) (λm=>[(2,.r 3 1 (map (Qe .i64) m))]) Zf ?_ (λenv H z=>?_))
  .refine G0 0 Z (Cn Z f (λ_ f=>?_) (λ_ f=>?_))
   .exact Gc 3 Z (Cd [] f (u _) Z λV R f=>FE Z (Gl 2 Z f [0,1,3]))
   exact Yy 1 Z f [0,1,2]
  refine Gx 1 Z (Eg z (Gc 4 Z ?_));refine vX (I (if q.Ax<1 then 1 else q.Ax)) (Bz.max Z Z Z Z) ?_;refine Go 3 Z (Bd a λP Q a=>FI (b:=P) [0] [6,7,8] (λj=>[(2,.o 0 (AI j) 1)]) (λj=>[(0,.r 3 1 (map (Qe .i64) j))]) Zf ?_ (λj env H x z=>?_))
  .refine G0 1 Z (Lp [0,2] [5,6,7,8,23] (λp=>[(2,.o 0 (AI p.1) 1),(24,I p.2)]) (λp=>[(0,.r 3 1 (map (Qe .i64) p.1))]) Q Zf (Lr [0,2]) λp W d B=>?_);refine G0 6 Z (Q8 Z d (λ_ d=>?_) (λ_ d=>?_))
   .exact Gc 2 Z (Qj d (Gx 1 Z (Ji B d Z (Lr [0]))))
   refine Gc 12 Z (Cn Z d (λ_ d=>?_) (λ_ d=>?_))
   .refine Gc 10 Z (Qv d ?_);obtain rfl:=Oj B d;refine Gx 1 Z (Qq (Gx 2 Z (Qv a ?_)));obtain rfl:=Oj y a;exact Gx 1 Z (Qq (Gx 1 Z (Rt h 2 [0])))
   refine Gc 5 Z (Bd d λX M d=>vH (Qu (e:=(Qe .i64)) M QA EE (QS (i:=1))) ?_);exact Fg 8 Z Z (Qg d (Lr [2,1]))
  subst x;exact Gx 2 Z (Eg z (Gc 4 Z (Qg a (Lr [0]))))
 subst x;exact QG 7 Z h 2 [0]
def Ij:Nat->(AA Bo)->AB (AA Int)
  |0=>λ_=>AF
  |n+1=>O0 (Ij n) n
theorem ke:∀(a:AA Bo) (r:AA Int),Ij n a=AC r->C prog 128 [.q 3 (map Bo.enc a)] [] (RQ (λr=>.o 0 (AI r) 1) (λr=>[.r 3 1 (map (Qe .i64) r)]) r):=by
  induction n with
  |zero=>intro a r h;cases h
  |succ n ih=>intro a r h;exact Qdt _ ih n a r h
def OE(n:Nat)(a:Bw)(d:AA (Int×Int)):AB Bool:=AH (AC (QM d a.Ag 0)) λe=>AC (AG (a.Bf<=e))
theorem j2(a:Bw)(d:AA (Int×Int)):Ks (OE n a d) 129 [.a (Bw.c a),.p 0 0] [.c 227 [.map 1],.map (Q6 (λx=>A.int .i64 x) (λx=>A.int .i64 x) d)] (λr=>.b r):=by
 refine Kg 11 func129 Z Z Z Z λr h=>Bd h λf e h=>?_;refine vX (I f) (Jg (ev:=(λx=>A.int .i64 x)) (z0:=0) (k:=a.Ag) (l:=d) dZ e GB EW Er) ?_;exact Gt 7 Z h 3 [0,1]
def bU(a:Bw)(d:AA (Int×Int)):AB Bool:=AH (OE n a d) λe=>AC (!e)
theorem ge(a:Bw)(d:AA (Int×Int)):Ks (bU n a d) 169 [.a (Bw.c a),.p 0 0] [.c 201 [.fn (.func 129) [] [.p 1 0]],.c 227 [.map 2],.map (Q6 (λx=>A.int .i64 x) (λx=>A.int .i64 x) d)] (λr=>.b r):=by
 exact Kg 10 func169 Z Z Z Z λr h=>Cz [1,2] h (j2 _ _ _) Z λf e h=>Gt 5 Z h 3 [0,1,2]
def nj(d:AA Bw)(g:AA (Int×Int))(a:Int):AB (Bn Int (Bn Unit Int)):=(bif a<(AI d:Int) then AH (Bt d a) λe=>AH (bU n e g) λf=>(bif f then AC (.d (.d a))else AC (.k (i64.wrap (a+1))))else AC (.d (.k ())))
def ce(e:AA Bw)(f:AA (Int×Int)):AB Int:=AH (iter (nj n e f) n 0:AB (Bn Unit Int)) λd=>match d with|.k a=>(AC (-1))|.d a=>AC a
theorem iI(j:AA Bw)(k:AA (Int×Int)):Ks (ce n j k) 226 [.q 3 (map Bw.c j),.fn (.func 169) [] [.p 0 0]] [.c 201 [.fn (.func 129) [] [.p 1 0]],.c 227 [.map 2],.map (Q6 (λx=>A.int .i64 x) (λx=>A.int .i64 x) k)] (λr=>I r):=by
 refine Kg 9 func226 Z Z Z Z λr h=>Lg 3 Z Z (Bd h λl m h=>DF (b:=l) [0,1,2] [] Ze Ze Zf ?_ (λ_ p=>?_))
 .refine G0 1 Z (Lp [0,1,2] [0,1,7] (λe=>[(8,I e)]) Ze m Zf (Lr [0,1,2]) λe t a d=>?_);refine G0 6 Z (Q8 Z a (λ_ a=>?_) (λ_ a=>?_))
  .exact Gc 2 Z (Qj a (Gx 1 Z (Ji d a Z (Lr [0,1,2]))))
  refine Gc 15 Z (Bd a λu g a=>Iz g Z (Go 1 Z (Cz [0,1,2] a (ge _ _ _) Z λw s a=>Go 2 Z (Cn Z a (λ_ a=>?_) (λ_ a=>?_)))))
  .refine Gc 9 Z (Qv a ?_);obtain rfl:=Oj d a;exact Gx 1 Z (Qq (Gx 1 Z (Rt h 4 [0,1,2])))
  exact Gc 7 Z (Qg a (Lr [0,1,2]))
 subst p;exact QG 6 Z h 4 [0,1,2]
def cQ(a:AA Bw)(d:AA (Int×Int)):AB Bool:=AH (ce n a d) λe=>AC (AG (0<=e))
theorem hY(a:AA Bw)(d:AA (Int×Int)):Ks (cQ n a d) 168 [.q 3 (map Bw.c a),.fn (.func 169) [] [.p 0 0]] [.c 201 [.fn (.func 129) [] [.p 1 0]],.c 227 [.map 2],.map (Q6 (λx=>A.int .i64 x) (λx=>A.int .i64 x) d)] (λr=>.b r):=by
 exact Kg 9 func168 Z Z Z Z λr h=>Cz [0,1,2] h (iI _ _ _) Z λf e h=>Gt 5 Z h 4 [0,1,2]
def b7(a:AA Bw)(d:AA (Int×Int)):AB Bool:=AH (cQ n a d) λe=>AC (!e)
theorem gm(a:AA Bw)(d:AA (Int×Int)):Ks (b7 n a d) 107 [.q 3 (map Bw.c a),.fn (.func 129) [] [.p 0 0]] [.c 227 [.map 1],.map (Q6 (λx=>A.int .i64 x) (λx=>A.int .i64 x) d)] (λr=>.b r):=by
 exact Kg 10 func107 Z Z Z Z λr h=>Cz [2,0,1] h (hY _ _ _) Z λf e h=>Gt 5 Z h 4 [0,1]
def J5(n:Nat)(l:Bl)(m:AA (Ue×Bool))(e:AA Int)(a:(AA (Int×Int))×Int):AB (Bn ((AA (Int×Int))×Int) (Bn (AA (Int×Int)) Bool)):=(bif a.2<(AI e:Int) then AH (Bt e a.2) λd=>AH (Bt l.Ar d) λf=>AH ((bif ((f.AN==1) != (a.2==0))then AC AE else(bif ((f.AN==3) != (a.2==(i64.wrap ((AI e:Int)-1))))then AC AE else(bif 0<a.2 then AH (Bt e (i64.wrap (a.2-1))) λg=>AH (AC (QM m ({from_:=g,to_:=d:Ue}) AD)) λh=>AC (!h)else AC AD))):AB Bool) λi=>(bif i then AC (.d (.d AD))else AH (AC (QM a.1 d 0)) λj=>AH (AC (Yp a.1 d (i64.wrap (j+1)))) λk=>AC (.k (k,i64.wrap (a.2+1))))else AC (.d (.k a.1)))
def N0(f:Bl)(d:AQ)(g:AA (Ue×Bool)):AB Bool:=AH (Ij n d.Aw) λe=>AH ((bif (i64.wrap ((AI e:Int)-1))<1 then AC AE else AC (AG (256<=(i64.wrap ((AI e:Int)-1))))):AB Bool) λp=>(bif p then AC AD else AH (iter (J5 n f g e) n ([],0):AB (Bn (AA (Int×Int)) Bool)) λh=>match h with|.k a=>(AH ((bif 0<=d.Am then AH (AC (QM a d.Am 0)) λi=>(bif (i==0)then AC AE else AH (Bt f.Ar d.Am) λj=>(bif (j.AN != 2)then AC AE else AH (AC (QM g ({from_:=d.Am,to_:=d.Am:Ue}) AD)) λk=>AC (!k)))else AC AD):AB Bool) λl=>(bif l then AC AD else AH (b7 n d.Ao a) λm=>AC m))|.d a=>AC a)
theorem jk(a1:Bl)(m:AQ)(y:AA (Ue×Bool)):Ks (N0 n a1 m y) 61 [.a (Bl.c a1),.a (AQ.c m),.map 0] [.map (Q6 (λx=>A.a (Ue.c x)) A.b y)] (λr=>.b r):=by
 refine Kg 11 func61 Z Z Z Z λr h=>Cd [] h (ke _ _) Z λr1 al h=>Fg 13 Z Z (Bd h λF p h=>Ct F [0,1,2,3] [2,3,4,7,8] (λF=>[(25,.b F)]) Ze Zf ?_ (λenv H g=>?_))
 .refine G0 4 Z (Is 22 p Z (λ_ p=>?_) (λ_ p=>?_))
  iterate 2 exact Gl 4 Z p [0,1,2,3]
 refine Gx 1 Z (Eg g (Cn Z h (λ_ h=>?_) (λ_ h=>?_)))
 .exact QG 7 Z h 6 [0]
 refine Gc 4 Z (vH YL ?_);refine Fg 12 Z Z (Bd h λae af h=>FI (b:=ae) [0,1,2,4,5] [2,3,4] (λ_=>[(9,.p 3 0)]) (λi=>[(3,.c 227 [.map 4]),(4,.map (Q6 (λx=>A.int .i64 x) (λx=>A.int .i64 x) i))]) Zf ?_ (λi env H ag g=>?_))
 .refine G0 1 Z (Lp [0,1,2,3,5,4] [2,3,4,7,8,9,27,28] (λf=>[(29,I f.2)]) (λf=>[(4,.c 227 [.map 5]),(5,.map (Q6 (λx=>A.int .i64 x) (λx=>A.int .i64 x) f.1))]) af Zf (Lr [0,1,2,3,5,4]) λf am a q=>?_);refine G0 6 Z (Q8 Z a (λ_ a=>?_) (λ_ a=>?_))
  .exact Gc 2 Z (Qj a (Gx 1 Z (Ji q a Z (Lr [0,1,2,4,5]))))
  refine Gc 7 Z (Bd a λj s a=>?_);refine vX (.p 3 (toNat f.2*1)) (Qk s Z EE EG) ?_;refine vX (I j) (EC Z EK Z (Ql s)) ?_;refine Go 9 Z (Bd a λz J a=>Iz J Z (Go 7 Z (Bd a λt e a=>Ct t [0,1,2,3,4,5] [2,3,4,7,8,9,11,27,28,29] (λt=>[(68,.b t)]) Ze Zf ?_ (λenv H g=>?_))))
  .refine G0 5 Z ?_;refine vX (.b ((z.AN==1) != (f.2==0))) (s9 runUnderlying4) ?_;refine Go 1 Z (Is 45 e Z (λ_ e=>?_) (λ_ e=>?_))
   .exact Gl 24 Z e [0,1,2,3,4,5]
   .refine Go 5 Z ?_;refine vV (x:=(.b ((z.AN==3) != (f.2==(i64.wrap ((AI r1:Int)-1)))))) (s9 runUnderlying4) ?_ (gT Z);refine Go 2 Z (Is 53 e Z (λ_ e=>?_) (λ_ e=>?_))
    .exact Gl 16 Z e [0,1,2,3,4,5]
    .refine Go 3 Z (Is 56 e Z (λ_ e=>?_) (λ_ e=>?_))
     .refine Go 4 Z (Bd e λB u e=>?_);refine vX (.p 3 (toNat (i64.wrap (f.2-1))*1)) (Qk u Z EE EG) ?_ (gT Z);refine vX (I B) (EC Z EK Z (Ql u)) ?_ (gT Z);refine Go 2 Z (Bd e λah O e=>?_);refine vX (.b ah) (Jg (ev:=A.b) (z0:=AD) (k:=({from_:=B,to_:=j:Ue})) (l:=y) eZ O Gp Gm ZR.bool) ?_ (gT Z);exact Gl 4 Z e [0,1,2,3,4,5]
     .exact Gl 13 Z e [0,1,2,3,4,5]
  refine Gx 1 Z (Eg g (Cn Z a (λ_ a=>?_) (λ_ a=>?_)))
  .refine Gc 9 Z (Qv a ?_);obtain rfl:=Oj q a;exact Gx 1 Z (Qq (Gx 1 Z (Rt h 6 [0])))
  refine Gc 5 Z (Bd a λE Q a=>?_);refine vX (I E) (Jg (ev:=(λx=>A.int .i64 x)) (z0:=0) (k:=j) (l:=f.1) dZ Q GB EW Er) ?_;refine Go 1 Z (Bd a λan R a=>?_);refine vU (Jh (ev:=(λx=>A.int .i64 x)) (k:=j) (v:=(i64.wrap (E+1))) (l:=f.1) dZ R Z GB) ?_;exact Fg 7 Z Z (Qg a (Lr [0,1,2,3,4,5]))
 subst ag;refine Gx 1 Z (Eg g (Gc 9 Z (Bd h λw d h=>Cg w [0,2,3,4] [4,9] (λw=>[(100,.b w)]) (λ_=>[(2,.c 227 [.map 3])]) Zf ?_ ?_)))
 .refine G0 4 Z (Is 78 d Z (λ_ d=>?_) (λ_ d=>?_))
  .refine Go 2 Z (Bd d λai V d=>?_);refine vX (I ai) (Jg (ev:=(λx=>A.int .i64 x)) (z0:=0) (k:=m.Am) (l:=i) dZ V GB EW Er) ?_ (gT Z);refine Go 2 Z (Is 83 d Z (λ_ d=>?_) (λ_ d=>?_))
   .exact Gl 18 Z d [0,2,3,4]
   .refine Go 3 Z (Bd d λao X d=>Iz X Z (Go 5 Z (Is 92 d Z (λ_ d=>?_) (λ_ d=>?_))))
    .exact Gl 9 Z d [0,2,3,4]
    .refine Go 4 Z (Bd d λaj aa d=>?_);refine vX (.b aj) (Jg (ev:=A.b) (z0:=AD) (k:=({from_:=m.Am,to_:=m.Am:Ue})) (l:=y) eZ aa Gp Gm ZR.bool) ?_ (gT Z);exact Gl 4 Z d [0,2,3,4]
  .exact Gl 23 Z d [0,2,3,4]
 refine Cn Z h (λ_ h=>?_) (λ_ h=>?_)
 .exact QG 7 Z h 6 [0]
 exact Gc 7 Z (Cz [2,3] h (gm _ _ _) Z λaq ak h=>Gt 4 Z h 6 [0])
def Sp(a:AQ)(d:Bl)(e:AA (Ue×Bool)):AB Bool:=AH (N0 n d a e) λf=>AC f
theorem ib(a:AQ)(d:Bl)(e:AA (Ue×Bool)):Ks (Sp n a d e) 60 [.a (AQ.c a),.p 0 0,.p 1 0] [.c 33 (Bl.c d),.c 147 [.map 2],.map (Q6 (λx=>A.a (Ue.c x)) A.b e)] (λr=>.b r):=by
 exact Kg 11 func60 Z Z Z Z λr h=>Cz [2] h (jk _ _ _ _) Z λg f h=>Gt 4 Z h 4 [0,1,2]
def cB(a:AQ)(d:Bl)(e:AA (Ue×Bool)):AB Bool:=AH (Sp n a d e) λf=>AC (!f)
theorem gr(a:AQ)(d:Bl)(e:AA (Ue×Bool)):Ks (cB n a d e) 127 [.a (AQ.c a),.p 0 0] [.c 154 [.fn (.func 60) [] [.p 1 0,.p 2 0]],.c 33 (Bl.c d),.c 147 [.map 3],.map (Q6 (λx=>A.a (Ue.c x)) A.b e)] (λr=>.b r):=by
 exact Kg 10 func127 Z Z Z Z λr h=>Cz [1,2,3] h (ib _ _ _ _) Z λg f h=>Gt 5 Z h 3 [0,1,2,3]
def oI(d:AA AQ)(g:Bl)(h:AA (Ue×Bool))(a:Int):AB (Bn Int (Bn Unit Int)):=(bif a<(AI d:Int) then AH (Bt d a) λe=>AH (cB n e g h) λf=>(bif f then AC (.d (.d a))else AC (.k (i64.wrap (a+1))))else AC (.d (.k ())))
def cI(e:AA AQ)(f:Bl)(g:AA (Ue×Bool)):AB Int:=AH (iter (oI n e f g) n 0:AB (Bn Unit Int)) λd=>match d with|.k a=>(AC (-1))|.d a=>AC a
theorem gy(j:AA AQ)(k:Bl)(l:AA (Ue×Bool)):Ks (cI n j k l) 185 [.q 5 (map AQ.c j),.fn (.func 127) [] [.p 0 0]] [.c 154 [.fn (.func 60) [] [.p 1 0,.p 2 0]],.c 33 (Bl.c k),.c 147 [.map 3],.map (Q6 (λx=>A.a (Ue.c x)) A.b l)] (λr=>I r):=by
 refine Kg 9 func185 Z Z Z Z λr h=>Lg 3 Z Z (Bd h λm p h=>DF (b:=m) [0,1,2,3] [] Ze Ze Zf ?_ (λ_ q=>?_))
 .refine G0 1 Z (Lp [0,1,2,3] [0,1,7] (λe=>[(8,I e)]) Ze p Zf (Lr [0,1,2,3]) λe u a d=>?_);refine G0 6 Z (Q8 Z a (λ_ a=>?_) (λ_ a=>?_))
  .exact Gc 2 Z (Qj a (Gx 1 Z (Ji d a Z (Lr [0,1,2,3]))))
  refine Gc 15 Z (Bd a λw g a=>Iz g Z (Go 1 Z (Cz [0,1,2,3] a (gr _ _ _ _) Z λy t a=>Go 2 Z (Cn Z a (λ_ a=>?_) (λ_ a=>?_)))))
  .refine Gc 9 Z (Qv a ?_);obtain rfl:=Oj d a;exact Gx 1 Z (Qq (Gx 1 Z (Rt h 4 [0,1,2,3])))
  exact Gc 7 Z (Qg a (Lr [0,1,2,3]))
 subst q;exact QG 6 Z h 4 [0,1,2,3]
def cL(a:AA AQ)(d:Bl)(e:AA (Ue×Bool)):AB Bool:=AH (cI n a d e) λf=>AC (AG (0<=f))
theorem g_(a:AA AQ)(d:Bl)(e:AA (Ue×Bool)):Ks (cL n a d e) 126 [.q 5 (map AQ.c a),.fn (.func 127) [] [.p 0 0]] [.c 154 [.fn (.func 60) [] [.p 1 0,.p 2 0]],.c 33 (Bl.c d),.c 147 [.map 3],.map (Q6 (λx=>A.a (Ue.c x)) A.b e)] (λr=>.b r):=by
 exact Kg 9 func126 Z Z Z Z λr h=>Cz [0,1,2,3] h (gy _ _ _ _) Z λg f h=>Gt 5 Z h 4 [0,1,2,3]
def Sq(a:AA AQ)(d:Bl)(e:AA (Ue×Bool)):AB Bool:=AH (cL n a d e) λf=>AC (!f)
theorem ic(a:AA AQ)(d:Bl)(e:AA (Ue×Bool)):Ks (Sq n a d e) 59 [.q 5 (map AQ.c a),.fn (.func 60) [] [.p 0 0,.p 1 0]] [.c 33 (Bl.c d),.c 147 [.map 2],.map (Q6 (λx=>A.a (Ue.c x)) A.b e)] (λr=>.b r):=by
 exact Kg 10 func59 Z Z Z Z λr h=>Cz [3,0,1,2] h (g_ _ _ _ _) Z λg f h=>Gt 5 Z h 4 [0,1,2]
def NO(n:Nat)(e:Bl)(a:(AA (Ue×Bool))×Int):AB (Bn ((AA (Ue×Bool))×Int) (AA (Ue×Bool))):=(bif a.2<(AI e.A8:Int) then AH (Bt e.A8 a.2) λd=>AH (AC (Yp a.1 ({from_:=d.Ai,to_:=d.To:Ue}) AE)) λf=>AC (.k (f,i64.wrap (a.2+1)))else AC (.d a.1))
def I2(a:Bl):AB Int:=AH (N' n a) λg=>(bif (!g)then AC 2 else AH (SX n a) λh=>(bif (!h)then AC 70 else AH (OB n a) λi=>(bif (!i)then AC 71 else AH (S9 n a.BK) λd=>(bif (d != 0)then AC d else AH (iter (NO n a) n ([],0):AB (AA (Ue×Bool))) λe=>AH (Sq n a.AX a e) λf=>(bif (!f)then AC 72 else AC 0)))))
theorem iQ(q:Bl):Ks (I2 n q) 26 [.a (Bl.c q)] [] (λr=>I r):=by
 refine Kg 11 func26 Z Z Z Z λr h=>Cz [] h (jv _ _) Z λM B h=>Go 4 Z (Cn Z h (λ_ h=>?_) (λ_ h=>?_))
 .exact QG 8 Z h 2 []
 refine Gc 3 Z (Cz [] h (iK _ _) Z λN E h=>Go 4 Z (Cn Z h (λ_ h=>?_) (λ_ h=>?_)))
 .exact QG 8 Z h 2 []
 refine Gc 3 Z (Cz [] h (jx _ _) Z λO F h=>Go 4 Z (Cn Z h (λ_ h=>?_) (λ_ h=>?_)))
 .exact QG 8 Z h 2 []
 refine Gc 8 Z (Cz [] h (i5 _ _) Z λP G h=>Go 9 Z (Cn Z h (λ_ h=>?_) (λ_ h=>?_)))
 .exact QG 8 Z h 2 []
 refine Gc 4 Z (vH YL ?_);refine Fg 9 Z Z (Lg 3 Z Z (Bd h λe y h=>Cg e [0,1,2] [1] (λ_=>[(3,.p 1 0)]) (λe=>[(1,.c 147 [.map 2]),(2,.map (Q6 (λx=>A.a (Ue.c x)) A.b e))]) Zf ?_ ?_))
 .refine G0 1 Z (Lp [0,2,1] [1,3,26,27] (λd=>[(28,I d.2)]) (λd=>[(1,.c 147 [.map 2]),(2,.map (Q6 (λx=>A.a (Ue.c x)) A.b d.1))]) y Zf (Lr [0,2,1]) λd H a g=>?_);refine G0 6 Z (Q8 Z a (λ_ a=>?_) (λ_ a=>?_))
  .exact Gc 2 Z (Qj a (Gx 1 Z (DM g a (Lr [0,1,2]))))
  refine Gc 6 Z (Bd a λf j a=>Iz j Z (Go 12 Z (Bd a λJ m a=>?_)));refine vU (Jh (ev:=A.b) (k:=({from_:=f.Ai,to_:=f.To:Ue})) (v:=AE) (l:=d.1) eZ m Z Gp) ?_;exact Fg 7 Z Z (Qg a (Lr [0,1,2]))
 refine Gc 6 Z (Cz [0,1,2] h (ic _ _ _ _) Z λL z h=>Go 3 Z (Cn Z h (λ_ h=>?_) (λ_ h=>?_)))
 .exact QG 7 Z h 2 []
 exact QG 8 Z h 2 []
def M7(n:Nat)(d:Bl)(a:Int):AB Bool:=AH ((bif 0<=a then AC (AG (a<(AI d.Ar:Int)))else AC AD):AB Bool) λb2=>AC b2
theorem Tm(d:Bl)(e:Int):Ks (M7 n d e) 28 [.a (Bl.c d),I e] [] (λr=>.b r):=by
 refine Kg 7 func28 Z Z Z Z λr h=>Bd h λb2 a h=>Cg b2 [] [] (λb2=>[(4,.b b2)]) Ze Zf ?_ ?_
 .refine G0 4 Z (Is 7 a Z (λ_ a=>?_) (λ_ a=>?_))
  .exact Go 3 Z (Lm Z (Gl 4 Z a []))
  .exact Gl 8 Z a []
 exact QG 1 Z h 4 []
def Ka(n:Nat)(a:Int):AB Bool:=AH ((bif (-1099511627776)<=a then AC (AG (a<=1099511627776))else AC AD):AB Bool) λb2=>AC b2
theorem WZ(d:Int):Ks (Ka n d) 27 [I d] [] (λr=>.b r):=by
 refine Kg 6 func27 Z Z Z Z λr h=>Bd h λb2 a h=>Cg b2 [] [] (λb2=>[(2,.b b2)]) Ze Zf ?_ ?_
 .refine G0 4 Z (Is 5 a Z (λ_ a=>?_) (λ_ a=>?_))
  iterate 2 exact Gl 5 Z a []
 exact QG 1 Z h 2 []
def Ni(n:Nat)(a:Int)(d:Int):AB (Int×Int):=AH ((bif a<(-2199023255552) then AC AE else(bif 2199023255552<a then AC AE else(bif d<0 then AC AE else AC (AG (100000<d))))):AB Bool) λe=>(bif e then AC (0,1)else AC (i64.wrap (Int.tdiv (i64.wrap ((i64.wrap ((i64.wrap ((if a<i64.wrap (0-a)then i64.wrap (0-a)else a)*d))+1000000))-1)) 1000000),0))
theorem jT(d:Int)(e:Int):Ks (Ni n d e) 62 [I d,I e] [] (λr=>.t [I r.1,I r.2]):=by
 refine Kg 8 func62 Z Z Z Z λr h=>Bd h λf a h=>Cg f [] [0,1] (λf=>[(19,.b f)]) Ze Zf ?_ ?_
 .refine G0 4 Z (Is 8 a Z (λ_ a=>?_) (λ_ a=>?_))
  .exact Gl 12 Z a []
  .refine Go 4 Z (Is 12 a Z (λ_ a=>?_) (λ_ a=>?_))
   .exact Gl 8 Z a []
   .refine Go 4 Z (Is 16 a Z (λ_ a=>?_) (λ_ a=>?_))
    iterate 2 exact Gl 4 Z a []
 refine Cn Z h (λ_ h=>?_) (λ_ h=>?_)
 .refine Gc 8 Z ?_;obtain rfl:=Oi h;exact R2 4 5 Z Z (Lr [])
 refine Gc 7 Z ?_;refine vX (I (if d<i64.wrap (0-d)then i64.wrap (0-d)else d)) (Bz.max Z Z Z Z) ?_;refine Go 4 Z ?_;refine vV (x:=(I (i64.wrap (Int.tdiv (i64.wrap ((i64.wrap ((i64.wrap ((if d<i64.wrap (0-d)then i64.wrap (0-d)else d)*e))+1000000))-1)) 1000000)))) (Bz.quo Z Z Z (by decide)) ?_;refine Go 5 Z ?_;obtain rfl:=Oi h;exact R2 4 5 Z Z (Lr [])
def IW(a:Bl)(d:Bk)(g:Int):AB CA:=AH (Bt a.Ar d.Ag) λh=>AH ((bif (h.AN != 1)then AH (Ni n (i64.wrap (g-d.As)) a.Ak.BM) λe=>AC ({Lo:=i64.wrap (0-e.1),Hi:=i64.wrap (a.Ak.A6+e.1):CA})else AC ({Lo:=0,Hi:=a.Ak.A6:CA})):AB CA) λf=>AC ({Lo:=f.Lo,Hi:=f.Hi:CA})
theorem Mc(e:Bl)(f:Bk)(g:Int):Kq (IW n e f g) 29 [.a (Bl.c e),.a (Bk.c f),I g] [] (λr=>.a [I r.Lo,I r.Hi]) (λr=>[.c 40 [I r.Lo,I r.Hi]]):=by
 refine Kg 24 func29 Z Z Z Z λr h=>Bd h λl i h=>Iz i Z (Go 5 Z (Bd h λd a h=>Cg d [2,3] [6,7] Ze (λd=>[(1,.c 40 [I d.Lo,I d.Hi])]) Zf ?_ ?_))
 .refine G0 0 Z (Cn Z a (λ_ a=>?_) (λ_ a=>?_))
  .exact Gc 9 Z (Cd [] a (jT _ _ _) Z λm k a=>FE Z (Gl 21 Z a [2,3]))
  exact Yy 1 Z a [2,3]
 refine Gc 7 Z ?_;obtain rfl:=Oi h;exact Rx [0] [6] Z (Q5 Z (Qf EX EU Z Z Z)) ⟨Z,Z⟩
def cM(d:Bl)(e:Bk)(f:Int):AB (CA×Int):=AH (I2 n d) λg=>(bif (g != 0)then AC ({Lo:=0,Hi:=0:CA},g)else AH (AH (M7 n d e.Ag) λh=>(bif (!h)then AC AE else AH (Ka n f) λi=>(bif (!i)then AC AE else AH (Ka n e.As) λj=>AC (!j))):AB Bool) λk=>(bif k then AC ({Lo:=0,Hi:=0:CA},1)else AH (IW n d e f) λa=>AC ({Lo:=a.Lo,Hi:=a.Hi:CA},0)))
theorem hJ(i:Bl)(j:Bk)(k:Int):Kq (cM n i j k) 15 [.a (Bl.c i),.a (Bk.c j),I k] [] (λr=>.t [.a [I r.1.Lo,I r.1.Hi],I r.2]) (λr=>[.c 40 [I r.1.Lo,I r.1.Hi]]):=by
 refine Kg 12 func15 Z Z Z Z λr h=>Cz [] h (iQ _ _) Z λz t h=>Go 9 Z (Cn Z h (λ_ h=>?_) (λ_ h=>?_))
 .refine Gc 10 Z ?_;obtain rfl:=Oi h;exact Rx [2] [6,7] Z (Qo Z Z (CC.cons (Qf EX EU Z Z Z) (CC.cons C_.tmp CC.nil))) ⟨Z,Z⟩
 refine Gc 4 Z (Bd h λd a h=>Cg d [0,1,2] [2,3,4,6] (λd=>[(29,.b d)]) Ze Zf ?_ ?_)
 .refine G0 4 Z (Cz [] a (Tm _ _ _) Z λu m a=>Go 2 Z (Is 19 a Z (λ_ a=>?_) (λ_ a=>?_)))
  .exact Gl 11 Z a [0,1,2]
  .refine Go 1 Z (Cz [] a (WZ _ _) Z λw p a=>Go 3 Z (Is 24 a Z (λ_ a=>?_) (λ_ a=>?_)))
   .exact Gl 6 Z a [0,1,2]
   .exact Go 2 Z (Cz [] a (WZ _ _) Z λx q a=>Gl 3 Z a [0,1,2])
 refine Cn Z h (λ_ h=>?_) (λ_ h=>?_)
 .refine Gc 9 Z ?_;obtain rfl:=Oi h;exact Rx [2] [6,7] Z (Qo Z Z (CC.cons (Qf EX EU Z Z Z) (CC.cons C_.tmp CC.nil))) ⟨Z,Z⟩
 refine Gc 7 Z (Cd [] h (Mc _ _ _ _) Z λy s h=>Fg 5 Z Z ?_);obtain rfl:=Oi h;exact Rx [2] [6,7] Z (Qo Z Z (CC.cons (Qf EX EU Z Z Z) (CC.cons C_.tmp CC.nil))) ⟨Z,Z⟩
def Ph(n:Nat)(a:AA Bm)(d:Int):AB Unit:=AC ()
theorem WS(a:AA Bm)(d:Int):Kq (Ph n a d) 41 [.q 57 (map Bm.c a),I d] [] (λ_=>.fn (.func 72) [] [.p 0 0,.p 1 0]) (λ_=>[.c 34 [.q 57 (map Bm.c a)],.c 3 [I d]]):=by
 refine Kg 2 func41 Z Z Z Z λr h=>vH (Do.box Z Z Z Z Z) ?_;exact FE Z (Gt 11 Z h 4 [0,1])
def TO(n:Nat)(a:AA Bm):AB (AA Bm):=isNil a (AC []) (AH (app ([]:AA Bm) a) λd=>AC d)
theorem jH(a:AA Bm):Kq (TO n a) 74 [.q 57 (map Bm.c a)] [] (λr=>.o 0 (AI r) 57) (λr=>[.r 88 57 (map Bm.c r)]):=by
 refine Kg 9 func74 Z Z Z Z λr h=>?_;refine wr (e:=Bm.c) (l:=a) GR Z (λb1 d=>?_);have hkb1:=xW h b1 d;cases b1
 .have h:=hkb1.2 Z;refine Go 7 Z (vH (Em (xs:=[]) (es:=map Bm.c []) MJ Z Z Z Z Z trivial Z Z) ?_);refine Fg 1 Z Z (Bd h λg f h=>vH (Qu (e:=Bm.c) f MJ EF PV) ?_);exact FE Z (Gt 4 Z h 2 [1])
 .have h:=hkb1.1 Z;refine Go 10 Z ?_;obtain rfl:=Oi h;refine R1 2 Z ?_;refine Ep (Eu (s:=2) (k:=57) (t:=88) (XS Z) Z) ?_;exact Lr [0]
end Go.Sw
