/- What the functions compute that ClocksAlignSpec reaches, and that their calls refine it (part 3 of 5). -/
import Derived.Test.YthnmbndffmhalaaGreatDoorW16Al2
set_option linter.unusedVariables false
set_option linter.unusedSimpArgs false
set_option maxRecDepth 100000
set_option maxHeartbeats 4000000
namespace Go.Sw
open Option renaming some→AC,none→AF,bind→AH
open Bool renaming false→AD,true→AE
open Decidable renaming decide→AG
open List renaming length→AI
variable (n:Nat)
open List(map)
open Int(toNat)
open Go.IntKind(i64 u64 u8)
open Go.Proofs Tryz
def Kc(lo hi v:Int)(k:Nat)(l l':AA Int):AB Unit:=bif ((0+lo.toNat)==k*v.toNat)&&(hi.toNat-lo.toNat==v.toNat)&&AG (k+1<=Yn)&&(AI l==AI l')then AC ()else AF
theorem w9{lo hi v:Int}{k:Nat}{l l':AA Int}{u:Unit}(h:Kc lo hi v k l l'=AC u):0+lo.toNat=k*v.toNat/\hi.toNat-lo.toNat=v.toNat/\k+1<=Yn/\AI l=AI l':=by
  unfold Kc at h;cases q:((0+lo.toNat)==k*v.toNat)&&(hi.toNat-lo.toNat==v.toNat)&&AG (k+1<=Yn)&&(AI l==AI l')with
  |false=>rw[q]at h;cases h
  |true=>
    simp only[XX,Vy,Vs]at q;exact⟨q.1.1.1,q.1.1.2,q.1.2,q.2⟩
def MR(l:AA Int)(n c:Nat):AB (AA (AA Int)):=bif c*n<=AI l then AC (PK l n c)else AF
theorem w_{l:AA Int}{n c:Nat}{r:AA (AA Int)}(h:MR l n c=AC r):c*n<=AI l/\r=PK l n c:=by
  unfold MR at h;by_cases q:c*n<=AI l
  · simp only[q,decide_true,Vq]at h;exact⟨q,(X0 h).symm⟩
  · simp[q]at h
def Na(d:Bv)(a:(AA Int)×Int×Nat):AB (Bn ((AA Int)×Int×Nat) ((AA Int)×Nat)):=(bif a.2.1<d.AY then AH (E_ a.1 (i64.wrap (a.2.1*d.AY)) (i64.wrap ((i64.wrap (a.2.1+1))*d.AY))) λh=>AH (HX a.1 (i64.wrap (a.2.1*d.AY)) (i64.wrap ((i64.wrap (a.2.1+1))*d.AY)) a.2.1) λi=>AH (Fe a.1 (i64.wrap (a.2.1*d.AY)+a.2.1) 0) λe=>AH (mk d.AY 0) λg=>AH (KA n d.AY d.BL e (i64.wrap (a.2.1*d.AY)) (i64.wrap ((i64.wrap (a.2.1+1))*d.AY)) g) λf=>AH (Kc (i64.wrap (a.2.1*d.AY)) (i64.wrap ((i64.wrap (a.2.1+1))*d.AY)) d.AY a.2.2 f.1 e) λ_=>AC (.k (f.1,i64.wrap (a.2.1+1),a.2.2+1))else AC (.d (a.1,a.2.2)))
def OU(a:Bv):AB (AA (AA Int)):=AH (Nw n [1152921504606846976] (i64.wrap (a.AY*a.AY))) λe=>AH (iter (Na n a) n (e,0,0):AB ((AA Int)×Nat)) λd=>MR d.1 (toNat a.AY) d.2
theorem kI(m:Bv)(r:AA (AA Int))(h:OU n m=AC r):DE prog 48 [.a (Bv.c m)] [] (λr=>.q 1 (map (Qw 1 (Qe .i64)) r)) r:=by
 refine QK func48 Z Z Z ?_;refine G0 15 Z (vH (Em (xs:=[.const (.int .i64 1152921504606846976)]) (es:=map (Qe .i64) [1152921504606846976]) QA Z Z Z Z Z ⟨Z,trivial⟩ Z Z) ?_);refine Fg 3 Z Z ?_;refine Ew (Ku [(10,_)] Z Z (Fc.cons Z Et Fc.nil) (Ec (Ec (KZ _)))) ?_;refine Cd [] h (jg _ _ _) Z λR M h=>Fg 15 Z Z (Bd h λy G h=>Ct y [2,0] [] (λb=>[(5,.o 1 b.2 1)]) (λb=>[(0,.r 3 1 (map (Qe .i64) b.1)),(1,.wins 90 0 (toNat m.AY) b.2)]) Zf ?_ (λenv H J=>?_))
 .refine G0 1 Z (Lp [0,2,0] [1,3,15] (λd=>[(4,.o 1 (AI d.1) 1),(5,.o 2 d.2.2 1),(16,I d.2.1)]) (λd=>[(1,.r 3 1 (map (Qe .i64) d.1)),(2,.wins 90 1 (toNat m.AY) d.2.2)]) G Zf (Ep (Eu (s:=5) (k:=1) (t:=90) (XS Z) Z) (Ep (vE (i:=3) (b:=2) (n:=toNat m.AY) Z) (Lr [0,2,3]))) λd N g z=>?_);refine G0 6 Z (Q8 Z g (λ_ g=>?_) (λ_ g=>?_))
  .exact Gc 2 Z (Qj g (Gx 1 Z (DM z g (Lr [1,2]))))
  refine Gc 24 Z (Bd g λO E g=>?_);refine vV (x:=(.s 1 (0+toNat (i64.wrap (d.2.1*m.AY))) (toNat (i64.wrap ((i64.wrap (d.2.1+1))*m.AY))-toNat (i64.wrap (d.2.1*m.AY))) 1)) (yG (l:=d.1) E EE EG) ?_;refine Go 7 Z (Bd g λP p g=>?_);refine vX (.p 1 (toNat (i64.wrap (d.2.1*m.AY)+d.2.1)*1)) (JU (l:=d.1) (lo:=i64.wrap (d.2.1*m.AY)) (hi:=i64.wrap ((i64.wrap (d.2.1+1))*m.AY)) p EE EG) ?_;refine Bd g λq u g=>?_;refine vU (Yt (e:=(Qe .i64)) (k:=1) (f:=0) (M5 p) u EG Z Z) ?_;refine FE Z ?_;refine Ew (QD (s:=4) Z (congrArg (λn=>A.s 1 0 n 1) (QR u))) ?_;refine Go 3 Z ?_;obtain⟨w,F,g⟩:=Q7 g;refine Jf 4 0 [35,36,37,38] [AD,AD,AD,AE] [[],[],[],[]] [[],[3]] [[(0,0),(1,1)],[(0,0),(1,1)],[(0,0)],[(0,1)]] [.a (Bv.c m),.s 1 (0+toNat (i64.wrap (d.2.1*m.AY))) (toNat (i64.wrap ((i64.wrap (d.2.1+1))*m.AY))-toNat (i64.wrap (d.2.1*m.AY))) 1,I m.AY,.o 3 (AI w) 1] [[.c 60 (Bv.c m),.r 3 1 (map (Qe .i64) q),.wins 90 1 (toNat m.AY) d.2.2],[.c 60 (Bv.c m),.r 3 1 (map (Qe .i64) q),.wins 90 1 (toNat m.AY) d.2.2,.r 3 1 (map (Qe .i64) w)]] ([.c 60 (Bv.c m),.r 3 1 (map (Qe .i64) q),.wins 90 1 (toNat m.AY) d.2.2,.r 3 1 (map (Qe .i64) w)]) DL Z Z Z Z Z Z Z ?_ Z ?_
  .refine B7.cons (Qb (v0 Z Z) (Qb (v0 Z Z) (Qd))) (B7.cons (Qb (v0 Z Z) (Qb (v0 Z Z) (Qd))) (B7.cons (Qb (v0 Z Z) (Qd)) (B7.cons ?_ (B7.nil))));refine Qb ?_ (Qd);refine IB Z (sD 2 sN) ?_;refine vH (lx (e:=(Qe .i64)) (zv:=0) (a:=(I 0)) F QA EW Er Z Z Z Z) ?_;exact FE Z Wp
  refine Go 2 Z (Cd [4,1,3] g (Wz _ _ _ _ _ _ _) Z λQ L g=>Fg 5 Z Z (vH (YQ (xs:=[.tmp 43]) kz Z Z Z Z Z ⟨Z,trivial⟩ Z) ?_));refine FE Z ?_;obtain⟨zW,hW,g⟩:=Q7 g;obtain⟨hW1,hW2,hW3,hW4⟩:=w9 hW;refine vH (wY (i:=2) (j:=5) (b:=1) kz EI hW3 hW1 hW2) ?_;refine FE Z ?_;refine Ew (QD (s:=4) Z (congrArg (λn=>A.s 1 0 n 1) hW4.symm)) ?_;exact Go 8 Z (Qg g (Lr [0,1,6]))
 obtain⟨hc,rfl⟩:=w_ h;exact Gx 1 Z (Eg (Ep J (wB (s:=5) (i:=1) (b:=0) (l:=y.1) (e:=Qe .i64) hc Z Z Z Z Z)) (Gc 7 Z (Rt (Z:AC _=AC _) 2 [])))
def J9(a:Bv):AB ((AA (AA Int))×(AA Int)×Int):=AH (OH n a) λd=>(bif (d != 0)then AC ([],[],d)else AH (J_ n a) λe=>(bif 0<(AI e:Int) then AC ([],e,151)else AH (OU n a) λf=>AC (f,[],0)))
theorem kQ(a:Bv):Kq (J9 n a) 22 [.a (Bv.c a)] [] (λr=>.t [.q 1 (map (Qw 1 (Qe .i64)) r.1),.o 0 (AI r.2.1) 1,I r.2.2]) (λr=>[.r 3 1 (map (Qe .i64) r.2.1)]):=by
 refine Kg 12 func22 Z Z Z Z λr h=>Cz [] h (j5 _ _) Z λj f h=>Go 9 Z (Cn Z h (λ_ h=>?_) (λ_ h=>?_))
 .refine Gc 10 Z ?_;obtain rfl:=Oi h;refine⟨[(2,_),(3,_),(4,_)],_,_,?_,nI Z Z Z Z,Z,Z⟩;refine Ep (Eu (s:=3) (k:=1) (t:=3) (XS Z) Z) ?_;refine Ep (aC (s:=2) (k:=1) Z) ?_;exact Lr [1]
 refine Gc 6 Z (Cd [] h (kS _ _) Z λl g h=>Fg 10 Z Z (Cn Z h (λ_ h=>?_) (λ_ h=>?_)))
 .refine Gc 10 Z ?_;obtain rfl:=Oi h;refine⟨[(2,_),(3,_),(4,_)],_,_,?_,nI Z Z Z Z,Z,Z⟩;refine Ep (aC (s:=2) (k:=1) Z) ?_;exact Lr [1]
 refine Gc 5 Z (Cd [] h (kI _ _) Z λm i h=>Fg 6 Z Z ?_);obtain rfl:=Oi h;refine⟨[(2,_),(3,_),(4,_)],_,_,?_,nI Z Z Z Z,Z,Z⟩;refine Ep (Eu (s:=3) (k:=1) (t:=3) (XS Z) Z) ?_;exact Lr [2]
def Kb(d:Bl)(e:AA Bm):AB ((AA Bk)×(AA (AA Int))×Int):=AH (IR n d e) λa=>(bif (a.2.2 != 0)then AC ([],[],a.2.2)else AH (J9 n ({AY:=a.1,BL:=a.2.1:Bv})) λf=>(bif (f.2.2 != 0)then AC ([],[],160)else AH (Hz n d e) λg=>AC (g.1,f.1,0)))
theorem dM(e:Bl)(f:AA Bm):Kq (Kb n e f) 7 [.a (Bl.c e),.q 57 (map Bm.c f)] [] (λr=>.t [.a [.q 3 (map Bk.c r.1),.q 1 (map (Qw 1 (Qe .i64)) r.2.1)],I r.2.2]) (λr=>[.c 38 [.q 3 (map Bk.c r.1),.q 1 (map (Qw 1 (Qe .i64)) r.2.1)]]):=by
 refine Kg 11 func7 Z Z Z Z λr h=>Cd [] h (W3 _ _ _) Z λp k h=>Fg 15 Z Z (Cn Z h (λ_ h=>?_) (λ_ h=>?_))
 .refine Gc 10 Z ?_;obtain rfl:=Oi h;exact Rx [1] [4,5] Z (Qo Z Z (CC.cons (Qf GK Gu Z Z Z) (CC.cons C_.tmp CC.nil))) ⟨Z,Z⟩
 refine Gc 5 Z (Cd [] h (kQ _ _) Z λa l h=>Fg 16 Z Z (Cn Z h (λ_ h=>?_) (λ_ h=>?_)))
 .refine Gc 9 Z ?_;obtain rfl:=Oi h;exact Rx [1] [4,5] Z (Qo Z Z (CC.cons (Qf GK Gu Z Z Z) (CC.cons C_.tmp CC.nil))) ⟨Z,Z⟩
 refine Gc 6 Z (Cd [] h (P1 _ _ _) Z λd m h=>Fg 17 Z Z ?_);obtain rfl:=Oi h;refine⟨[(4,.p 0 0),(5,I ((d.1,a.1,0).2.2))],[.c 38 [.q 3 (map Bk.c ((d.1,a.1,0).1)),.q 1 (map (Qw 1 (Qe .i64)) ((d.1,a.1,0).2.1))]],_,?_,Qo Z Z (CC.cons (Qf GK Gu Z Z Z) (CC.cons C_.tmp CC.nil)),Z,Z⟩;refine Ep (Ku (i:=5) [] Z Z Fc.nil (Ec (FT.cells (Ee Et (El _)) (Ec (Ec (Ec (Ec (KZ _)))))))) ?_;exact Lr [1]
def Oh(n:Nat)(a:Int)(d:Int)(e:Int)(f:Int):AB Unit:=AC ()
theorem lC(a:Int)(d:Int)(e:Int)(f:Int):Kq (Oh n a d e f) 18 [I a,I d,I e,I f] [] (λ_=>.a (Bm.c ({Ul with No:=a,AN:=3,AO:={Ag:=1,AT:=0,Av:=d,True:=e,BX:=f:AO}:Bm}))) (λ_=>[.c 88 (Bm.c ({Ul with No:=a,AN:=3,AO:={Ag:=1,AT:=0,Av:=d,True:=e,BX:=f:AO}:Bm}))]):=by
 refine Kg 17 func18 Z Z Z Z λr h=>?_;obtain rfl:=Oi h;exact Rx [0] [8] Z (Q5 Z (Qf E8 EH Z Z Z)) ⟨Z,Z⟩
def ON(n:Nat)(a:Int):AB Bool:=AH ((bif a<(-2199023255552) then AC AE else AC (AG (2199023255552<a))):AB Bool) λb2=>AC b2
theorem kA(d:Int):Ks (ON n d) 38 [I d] [] (λr=>.b r):=by
 refine Kg 6 func38 Z Z Z Z λr h=>Bd h λb2 a h=>Cg b2 [] [] (λb2=>[(2,.b b2)]) Ze Zf ?_ ?_
 .refine G0 4 Z (Is 5 a Z (λ_ a=>?_) (λ_ a=>?_))
  iterate 2 exact Gl 5 Z a []
 exact QG 1 Z h 2 []
def oA(d:AA Int)(a:Int):AB (Bn Int (Bn Unit Int)):=(bif a<(AI d:Int) then AH (Bt d a) λe=>AH (ON n e) λf=>(bif f then AC (.d (.d a))else AC (.k (i64.wrap (a+1))))else AC (.d (.k ())))
def Sa(e:AA Int):AB Int:=AH (iter (oA n e) n 0:AB (Bn Unit Int)) λd=>match d with|.k a=>(AC (-1))|.d a=>AC a
theorem iN(j:AA Int):Ks (Sa n j) 71 [.q 1 (map (Qe .i64) j),.f 38] [] (λr=>I r):=by
 refine Kg 9 func71 Z Z Z Z λr h=>Lg 3 Z Z (Bd h λk l h=>DF (b:=k) [] [] Ze Ze Zf ?_ (λ_ m=>?_))
 .refine G0 1 Z (Lp [] [0,1,7] (λe=>[(8,I e)]) Ze l Zf (Lr []) λe s a d=>?_);refine G0 6 Z (Q8 Z a (λ_ a=>?_) (λ_ a=>?_))
  .exact Gc 2 Z (Qj a (Gx 1 Z (Ji d a Z (Lr []))))
  refine Gc 15 Z (Bd a λt g a=>Iz g Z (Go 1 Z (Cz [] a (kA _ _) Z λu q a=>Go 2 Z (Cn Z a (λ_ a=>?_) (λ_ a=>?_)))))
  .refine Gc 9 Z (Qv a ?_);obtain rfl:=Oj d a;exact Gx 1 Z (Qq (Gx 1 Z (Rt h 4 [])))
  exact Gc 7 Z (Qg a (Lr []))
 subst m;exact QG 6 Z h 4 []
def Lh(a:AA Int):AB Bool:=AH (Sa n a) λd=>AC (AG (0<=d))
theorem kO(a:AA Int):Ks (Lh n a) 37 [.q 1 (map (Qe .i64) a),.f 38] [] (λr=>.b r):=by
 exact Kg 9 func37 Z Z Z Z λr h=>Cz [] h (iN _ _) Z λe d h=>Gt 5 Z h 4 []
def Ne(e:Bp)(d:Int):AB (Bn Int (Bn Unit Int)):=(bif d<(AI e.AR:Int) then AH (Bt e.AR d) λa=>AH ((bif a.Ag<0 then AC AE else(bif 40<=a.Ag then AC AE else(bif a.AT<0 then AC AE else(bif 255<a.AT then AC AE else AH (Ka n a.As) λf=>(bif (!f)then AC AE else(bif 0<d then AH (Bt e.AR (i64.wrap (d-1))) λg=>AH (IS n g a) λh=>AC (AG (0<=h))else AC AD)))))):AB Bool) λi=>(bif i then AC (.d (.d 160))else AC (.k (i64.wrap (d+1))))else AC (.d (.k ())))
def NF(e:Bp)(a:Int):AB (Bn Int (Bn Unit Int)):=(bif a<(AI e.BB:Int) then AH (Bt e.BB a) λd=>AH ((bif ((AI d:Int) != (i64.wrap ((AI e.AR:Int)+1)))then AC AE else AH (Bt d a) λf=>(bif (f != 0)then AC AE else AH (Lh n d) λg=>AC g)):AB Bool) λh=>(bif h then AC (.d (.d 160))else AC (.k (i64.wrap (a+1))))else AC (.d (.k ())))
def SD(n:Nat)(j:Bp)(e:Int)(f:Int)(d:AA Int)(a:Int):AB (Bn Int (Bn Unit (Bn Int (Bn Unit (Bn Int (Bn Unit Int)))))):=(bif a<(AI d:Int) then AH (Bt d a) λg=>AH (Bt j.BB e) λh=>AH (Bt h a) λi=>(bif (i64.wrap (f+g))<i then AC (.d (.d (.d (.d (.d (.d 160))))))else AC (.k (i64.wrap (a+1))))else AC (.d (.k ())))
def SM(j:Bp)(f:Int)(e:AA Int)(a:Int):AB (Bn Int (Bn Unit (Bn Int (Bn Unit Int)))):=(bif a<(AI e:Int) then AH (Bt e a) λg=>AH (Bt j.BB a) λh=>AH (iter (SD n j f g h) n 0:AB (Bn Unit (Bn Int (Bn Unit (Bn Int (Bn Unit Int)))))) λi=>match i with|.k d=>(AC (.k (i64.wrap (a+1))))|.d d=>AC d else AC (.d (.k ())))
def NA(e:Bp)(a:Int):AB (Bn Int (Bn Unit Int)):=(bif a<(i64.wrap ((AI e.AR:Int)+1)) then AH (Bt e.BB a) λf=>AH (iter (SM n e a f) n 0:AB (Bn Unit (Bn Int (Bn Unit Int)))) λg=>match g with|.k d=>(AC (.k (i64.wrap (a+1))))|.d d=>AC d else AC (.d (.k ())))
def IY(e:Bp):AB Int:=AH ((bif 511<(AI e.AR:Int) then AC AE else AC ((AI e.BB:Int) != (i64.wrap ((AI e.AR:Int)+1)))):AB Bool) λb2=>(bif b2 then AC 160 else AH (iter (Ne n e) n 0:AB (Bn Unit Int)) λi=>match i with|.k f=>(AH (iter (NF n e) n 0:AB (Bn Unit Int)) λg=>match g with|.k a=>(AH (iter (NA n e) n 0:AB (Bn Unit Int)) λh=>match h with|.k d=>(AC 0)|.d d=>AC d)|.d a=>AC a)|.d f=>AC f)
theorem Me(a1:Bp):Ks (IY n a1) 12 [.a (Bp.c a1)] [] (λr=>I r):=by
 refine Kg 10 func12 Z Z Z Z λr h=>Lg 5 Z Z (Bd h λb2 z h=>Ct b2 [0] [1,3] (λb2=>[(25,.b b2)]) Ze Zf ?_ (λenv H m=>?_))
 .refine G0 4 Z (Is 18 z Z (λ_ z=>?_) (λ_ z=>?_))
  .exact Gl 8 Z z [0]
  .exact Go 2 Z (Lm Z (Gl 5 Z z [0]))
 refine Gx 1 Z (Eg m (Cn Z h (λ_ h=>?_) (λ_ h=>?_)))
 .exact QG 7 Z h 2 []
 refine Gc 7 Z (Lg 3 Z Z (Bd h λbd be h=>FI (b:=bd) [0] [1,3] Ze Ze Zf ?_ (λbl env H p m=>?_)))
 .refine G0 1 Z (Lp [0] [1,3,27,28] (λaf=>[(29,I af)]) Ze be Zf (Lr [0]) λaf cd k B=>?_);refine G0 6 Z (Q8 Z k (λ_ k=>?_) (λ_ k=>?_))
  .exact Gc 2 Z (Qj k (Gx 1 Z (Ji B k Z (Lr [0]))))
  refine Gc 7 Z (Bd k λce ah k=>Iz ah Z (Go 7 Z (Bd k λE a k=>Ct E [0] [1,3,27,28,29] (λE=>[(72,.b E)]) Ze Zf ?_ (λenv H m=>?_))))
  .refine G0 0 Z (C5 35 Z (D 4 Z (Y3 3 a Z Z Z (λ_ a=>?_) (λ_ a=>?_))))
   .exact D 31 Z (Ei Z (Gl 5 Z a [0]))
   .refine D 5 Z (Y3 8 a Z Z Z (λ_ a=>?_) (λ_ a=>?_))
    .exact D 26 Z (Ei Z (Gl 5 Z a [0]))
    .refine D 5 Z (Y3 13 a Z Z Z (λ_ a=>?_) (λ_ a=>?_))
     .exact D 21 Z (Ei Z (Gl 5 Z a [0]))
     .refine D 5 Z (Y3 18 a Z Z Z (λ_ a=>?_) (λ_ a=>?_))
      .exact D 16 Z (Ei Z (Gl 5 Z a [0]))
      .refine D 2 Z ?_;refine Dz [] a (WZ _ _) Z λcf bm a=>D 3 Z (Y3 24 a Z Z Z (λ_ a=>?_) (λ_ a=>?_))
       .exact D 10 Z (Ei Z (Gl 5 Z a [0]))
       .refine D 3 Z (Y3 27 a Z Z Z (λ_ a=>?_) (λ_ a=>?_))
        .refine D 4 Z ?_;obtain⟨s,ao,a⟩:=Q7 a;refine DS.v (x:=(.rp [I s.Ag,I s.AT,I s.As])) (UN (e:=Bk.c) (l:=a1.AR) (v:=s) ao EL EQ) ?_ (hg:=(gT Z));exact D 2 Z (Ei Z (Cz [] a (W4 _ _ _) Z λcg bn a=>Gl 4 Z a [0]))
        .exact D 7 Z (Ei Z (Gl 5 Z a [0]))
  refine Gx 1 Z (Eg m (Cn Z k (λ_ k=>?_) (λ_ k=>?_)))
  .refine Gc 8 Z (Qv k ?_);obtain rfl:=Oj B k;exact Gx 1 Z (Qq (Gx 1 Z (Rt h 2 [])))
  exact Gc 7 Z (Qg k (Lr [0]))
 subst p;refine Gx 1 Z (Eg m (Gc 5 Z (Lg 3 Z Z (Bd h λar au h=>FI (b:=ar) [0] [1,3] Ze Ze Zf ?_ (λbg env H p m=>?_)))))
 .refine G0 1 Z (Lp [0] [1,3,75,76] (λF=>[(77,I F)]) Ze au Zf (Lr [0]) λF bo f t=>?_);refine G0 6 Z (Q8 Z f (λ_ f=>?_) (λ_ f=>?_))
  .exact Gc 2 Z (Qj f (Gx 1 Z (Ji t f Z (Lr [0]))))
  refine Gc 7 Z (Bd f λbq N f=>Iz N Z (Go 6 Z (Bd f λq i f=>Ct q [0] [1,3,75,76,77] (λq=>[(97,.b q)]) Ze Zf ?_ (λenv H m=>?_))))
  .refine G0 2 Z (Lg 4 Z Z (Is 87 i Z (λ_ i=>?_) (λ_ i=>?_)))
   .exact Gl 11 Z i [0]
   .refine Go 2 Z (Bd i λbr P i=>Iz P Z (Go 4 Z (Is 94 i Z (λ_ i=>?_) (λ_ i=>?_))))
    .exact Gl 4 Z i [0]
    .exact Go 1 Z (Cz [] i (kO _ _) Z λbs bh i=>Gl 2 Z i [0])
  refine Gx 1 Z (Eg m (Cn Z f (λ_ f=>?_) (λ_ f=>?_)))
  .refine Gc 8 Z (Qv f ?_);obtain rfl:=Oj t f;exact Gx 1 Z (Qq (Gx 1 Z (Rt h 2 [])))
  exact Gc 7 Z (Qg f (Lr [0]))
 subst p;refine Gx 1 Z (Eg m (Gc 8 Z (Bd h λav aw h=>DF (b:=av) [] [] Ze Ze Zf ?_ (λ_ p=>?_))))
 .refine G0 1 Z (Lp [0] [1,100] (λG=>[(101,I G)]) Ze aw Zf (Lr [0]) λG bt j u=>?_);refine G0 6 Z (Q8 Z j (λ_ j=>?_) (λ_ j=>?_))
  .exact Gc 2 Z (Qj j (Gx 1 Z (Ji u j Z (Lr []))))
  refine Gc 15 Z (Bd j λbu V j=>Iz V Z (Go 1 Z (Lg 3 Z Z (Bd j λax ay j=>FI (b:=ax) [0] [1,100,101] Ze Ze Zf ?_ (λbj env H p m=>?_)))))
  .refine G0 1 Z (Lp [0] [1,8,100,101,108,109] (λJ=>[(110,I J)]) Ze ay Zf (Lr [0]) λJ bv g w=>?_);refine G0 6 Z (Q8 Z g (λ_ g=>?_) (λ_ g=>?_))
   .exact Gc 2 Z (Qj g (Gx 1 Z (Ji w g Z (Lr [0]))))
   refine Gc 7 Z (Bd g λbw X g=>Iz X Z (Go 10 Z (Bd g λbx Y g=>Iz Y Z (Go 1 Z (Lg 3 Z Z (Bd g λaz ba g=>FI (b:=az) [0] [1,8,100,101,108,109,110] Ze Ze Zf ?_ (λbk env H p m=>?_)))))))
   .refine G0 1 Z (Lp [0] [1,8,10,100,101,108,109,110,119,120] (λL=>[(121,I L)]) Ze ba Zf (Lr [0]) λL bz d y=>?_);refine G0 6 Z (Q8 Z d (λ_ d=>?_) (λ_ d=>?_))
    .exact Gc 2 Z (Qj d (Gx 1 Z (Ji y d Z (Lr [0]))))
    refine Gc 7 Z (Bd d λca ab d=>Iz ab Z (Go 10 Z (Bd d λcb ac d=>Iz ac Z (Go 2 Z (Bd d λcc ad d=>Iz ad Z (Go 7 Z (Cn Z d (λ_ d=>?_) (λ_ d=>?_))))))))
    .refine Gc 8 Z (Qv d ?_);obtain rfl:=Oj y d;refine Gx 1 Z (Qq (Gx 2 Z (Qv g ?_)));obtain rfl:=Oj w g;refine Gx 1 Z (Qq (Gx 2 Z (Qv j ?_)));obtain rfl:=Oj u j;exact Gx 1 Z (Qq (Gx 1 Z (Rt h 2 [])))
    exact Gc 7 Z (Qg d (Lr [0]))
   subst p;exact Gx 2 Z (Eg m (Gc 4 Z (Qg g (Lr [0]))))
  subst p;exact Gx 2 Z (Eg m (Gc 4 Z (Qg j (Lr [0]))))
 subst p;exact QG 6 Z h 2 []
def Lj(e:Bl)(f:Bp)(d:Int)(a:CA):AB (CA×Int):=AH (I2 n e) λh=>(bif (h != 0)then AC ({Lo:=0,Hi:=0:CA},h)else AH (IY n f) λi=>(bif (i != 0)then AC ({Lo:=0,Hi:=0:CA},i)else AH ((bif d<(-1) then AC AE else(bif (AI f.AR:Int)<=d then AC AE else AH (Ka n a.Lo) λj=>(bif (!j)then AC AE else AH (Ka n a.Hi) λk=>(bif (!k)then AC AE else AC (AG (a.Hi<a.Lo)))))):AB Bool) λl=>(bif l then AC ({Lo:=0,Hi:=0:CA},1)else(bif d<0 then AC ({Lo:=a.Lo,Hi:=i64.wrap (a.Hi+e.Ak.A6):CA},0)else AH (Bt f.AR d) λg=>AH (M7 n e g.Ag) λm=>(bif (!m)then AC ({Lo:=0,Hi:=0:CA},1)else AH (IW n e g a.Lo) λp=>AH (Bt f.BB (i64.wrap (d+1))) λq=>AH (Bt q 0) λr=>AH (IW n e g a.Hi) λs=>AH (Bt f.BB 0) λt=>AH (Bt t (i64.wrap (d+1))) λu=>AC ({Lo:=i64.wrap ((i64.wrap (a.Lo+p.Lo))-r),Hi:=i64.wrap ((i64.wrap (a.Hi+s.Hi))+u):CA},0))))))
theorem Wi(i:Bl)(j:Bp)(u:Int)(e:CA):Kq (Lj n i j u e) 9 [.a (Bl.c i),.a (Bp.c j),I u,.a [I e.Lo,I e.Hi]] [] (λr=>.t [.a [I r.1.Lo,I r.1.Hi],I r.2]) (λr=>[.c 40 [I r.1.Lo,I r.1.Hi]]):=by
 refine Kg 13 func9 Z Z Z Z λr h=>Cz [] h (iQ _ _) Z λr1 T h=>Go 9 Z (Cn Z h (λ_ h=>?_) (λ_ h=>?_))
 .refine Gc 10 Z ?_;obtain rfl:=Oi h;exact Rx [3] [8,9] Z (Qo Z Z (CC.cons (Qf EX EU Z Z Z) (CC.cons C_.tmp CC.nil))) ⟨Z,Z⟩
 refine Gc 6 Z (Cz [] h (Me _ _) Z λr3 V h=>Go 9 Z (Cn Z h (λ_ h=>?_) (λ_ h=>?_)))
 .refine Gc 10 Z ?_;obtain rfl:=Oi h;exact Rx [3] [8,9] Z (Qo Z Z (CC.cons (Qf EX EU Z Z Z) (CC.cons C_.tmp CC.nil))) ⟨Z,Z⟩
 refine Gc 5 Z (Bd h λq a h=>Cg q [0,1,2,3] [2,4,5,7,8] (λq=>[(24,.b q)]) Ze Zf ?_ ?_)
 .refine G0 4 Z (Is 27 a Z (λ_ a=>?_) (λ_ a=>?_))
  .exact Gl 27 Z a [0,1,2,3]
  .refine Go 3 Z (Lg 3 Z Z (Is 34 a Z (λ_ a=>?_) (λ_ a=>?_)))
   .exact Gl 20 Z a [0,1,2,3]
   .refine Go 2 Z (Cz [] a (WZ _ _) Z λW P a=>Go 3 Z (Is 40 a Z (λ_ a=>?_) (λ_ a=>?_)))
    .exact Gl 14 Z a [0,1,2,3]
    .refine Go 2 Z (Cz [] a (WZ _ _) Z λX Q a=>Go 3 Z (Is 46 a Z (λ_ a=>?_) (λ_ a=>?_)))
     iterate 2 exact Gl 8 Z a [0,1,2,3]
 refine Cn Z h (λ_ h=>?_) (λ_ h=>?_)
 .refine Gc 10 Z ?_;obtain rfl:=Oi h;exact Rx [3] [8,9] Z (Qo Z Z (CC.cons (Qf EX EU Z Z Z) (CC.cons C_.tmp CC.nil))) ⟨Z,Z⟩
 refine Gc 7 Z (Cn Z h (λ_ h=>?_) (λ_ h=>?_))
 .refine Gc 18 Z ?_;obtain rfl:=Oi h;exact Rx [3] [8,9] Z (Qo Z Z (CC.cons (Qf EX EU Z Z Z) (CC.cons C_.tmp CC.nil))) ⟨Z,Z⟩
 refine Gc 8 Z (Bd h λg H h=>Iz H Z (Go 11 Z (Cz [] h (Tm _ _ _) Z λY R h=>Go 3 Z (Cn Z h (λ_ h=>?_) (λ_ h=>?_)))))
 .refine Gc 9 Z ?_;obtain rfl:=Oi h;exact Rx [3] [8,9] Z (Qo Z Z (CC.cons (Qf EX EU Z Z Z) (CC.cons C_.tmp CC.nil))) ⟨Z,Z⟩
 refine Gc 10 Z ?_;obtain⟨d,L,h⟩:=Q7 h;obtain⟨w,k,h⟩:=Q7 h;obtain⟨s,l,h⟩:=Q7 h;obtain⟨f,M,h⟩:=Q7 h;obtain⟨x,m,h⟩:=Q7 h;obtain⟨t,p,h⟩:=Q7 h;refine Jf 34 0 [79,80,81,82,83,84,85,86,87,88,89,90,91,92,93,94,95,96,97,98,99,100,101,102,103,104,105,106,107,108,109,110,111,112] [AD,AD,AD,AD,AD,AD,AE,AD,AD,AD,AD,AD,AD,AD,AD,AD,AD,AD,AD,AD,AD,AD,AD,AE,AD,AD,AD,AD,AD,AD,AD,AD,AD,AD] [[],[],[],[],[],[],[],[6],[6],[],[],[],[],[],[],[],[6],[],[],[],[],[],[],[6],[6,23],[6,23],[],[],[],[],[],[],[],[6,23]] [[],[6],[6,23]] [[(0,0),(1,1),(2,2)],[(0,0),(1,1),(2,2)],[(0,0)],[(0,0)],[(0,0)],[(0,0)],[(0,1)],[(1,1),(2,2)],[(1,1),(2,2)],[(0,0),(1,1),(2,2)],[(0,0),(1,1),(2,2)],[(0,0),(1,1),(2,2)],[(0,0),(1,1),(2,2)],[(0,0),(1,1),(2,2)],[(0,0),(1,1),(2,2)],[(0,0),(1,1),(2,2)],[(1,1),(2,2)],[(0,0),(1,1),(2,2)],[(0,0),(1,1),(2,2)],[(0,0),(1,1)],[(0,0),(1,1)],[(0,0),(1,1)],[(0,0),(1,1)],[(1,2)],[(2,2)],[(2,2)],[(0,0),(1,1),(2,2)],[(0,0),(1,1),(2,2)],[(0,0),(1,1),(2,2)],[(0,0),(1,1),(2,2)],[(0,0),(1,1),(2,2)],[(0,0),(1,1),(2,2)],[(0,0),(1,1),(2,2)],[(2,2)]] [.p 2 0,I e.Lo,.a (Bl.c i),.a (Bk.c g),.p 2 0,I e.Lo,.a [I d.Lo,I d.Hi],I d.Lo,I (i64.wrap (e.Lo+d.Lo)),.p 1 1,.q 1 (map (Qw 1 (Qe .i64)) j.BB),I (i64.wrap (u+1)),.rp [.q 1 (map (Qe .i64) w)],.q 1 (map (Qe .i64) w),.rp [I s],I s,I (i64.wrap ((i64.wrap (e.Lo+d.Lo))-s)),.p 2 1,I e.Hi,.a (Bl.c i),.a (Bk.c g),.p 2 1,I e.Hi,.a [I f.Lo,I f.Hi],I f.Hi,I (i64.wrap (e.Hi+f.Hi)),.p 1 1,.q 1 (map (Qw 1 (Qe .i64)) j.BB),.rp [.q 1 (map (Qe .i64) x)],.q 1 (map (Qe .i64) x),I (i64.wrap (u+1)),.rp [I t],I t,I (i64.wrap ((i64.wrap (e.Hi+f.Hi))+t))] [[.c 33 (Bl.c i),.c 38 (Bp.c j),.c 40 [I e.Lo,I e.Hi],.c 40 [I 0,I 0],.c 55 (Bk.c g)],[.c 33 (Bl.c i),.c 38 (Bp.c j),.c 40 [I e.Lo,I e.Hi],.c 40 [I 0,I 0],.c 55 (Bk.c g),.c 40 [I d.Lo,I d.Hi]],[.c 33 (Bl.c i),.c 38 (Bp.c j),.c 40 [I e.Lo,I e.Hi],.c 40 [I 0,I 0],.c 55 (Bk.c g),.c 40 [I d.Lo,I d.Hi],.c 40 [I f.Lo,I f.Hi]]] ([.c 33 (Bl.c i),.c 38 (Bp.c j),.c 40 [I e.Lo,I e.Hi],.c 40 [I 0,I 0],.c 55 (Bk.c g),.c 40 [I d.Lo,I d.Hi],.c 40 [I f.Lo,I f.Hi]]) DL Z Z Z Z Z Z Z ?_ Z ?_
 .refine B7.cons (Qb (v0 Z Z) (Qb (v0 Z Z) (Qb (v0 Z Z) (Qd)))) (B7.cons (Qb (v0 Z Z) (Qb (v0 Z Z) (Qb (v0 Z Z) (Qd)))) (B7.cons (Qb (v0 Z Z) (Qd)) (B7.cons (Qb (v0 Z Z) (Qd)) (B7.cons (Qb (v0 Z Z) (Qd)) (B7.cons (Qb (v0 Z Z) (Qd)) (B7.cons ?_ (B7.cons ?_ (B7.cons ?_ (B7.cons (Qb (v0 Z Z) (Qb (v0 Z Z) (Qb (v0 Z Z) (Qd)))) (B7.cons (Qb (v0 Z Z) (Qb (v0 Z Z) (Qb (v0 Z Z) (Qd)))) (B7.cons (Qb (v0 Z Z) (Qb (v0 Z Z) (Qb (v0 Z Z) (Qd)))) (B7.cons ?_ (B7.cons (Qb (v0 Z Z) (Qb (v0 Z Z) (Qb (v0 Z Z) (Qd)))) (B7.cons ?_ (B7.cons (Qb (v0 Z Z) (Qb (v0 Z Z) (Qb (v0 Z Z) (Qd)))) (B7.cons ?_ (B7.cons (Qb (v0 Z Z) (Qb (v0 Z Z) (Qb (v0 Z Z) (Qd)))) (B7.cons (Qb (v0 Z Z) (Qb (v0 Z Z) (Qb (v0 Z Z) (Qd)))) (B7.cons (Qb (v0 Z Z) (Qb (v0 Z Z) (Qd))) (B7.cons (Qb (v0 Z Z) (Qb (v0 Z Z) (Qd))) (B7.cons (Qb (v0 Z Z) (Qb (v0 Z Z) (Qd))) (B7.cons (Qb (v0 Z Z) (Qb (v0 Z Z) (Qd))) (B7.cons ?_ (B7.cons ?_ (B7.cons ?_ (B7.cons (Qb (v0 Z Z) (Qb (v0 Z Z) (Qb (v0 Z Z) (Qd)))) (B7.cons (Qb (v0 Z Z) (Qb (v0 Z Z) (Qb (v0 Z Z) (Qd)))) (B7.cons ?_ (B7.cons (Qb (v0 Z Z) (Qb (v0 Z Z) (Qb (v0 Z Z) (Qd)))) (B7.cons (Qb (v0 Z Z) (Qb (v0 Z Z) (Qb (v0 Z Z) (Qd)))) (B7.cons ?_ (B7.cons (Qb (v0 Z Z) (Qb (v0 Z Z) (Qb (v0 Z Z) (Qd)))) (B7.cons ?_ (B7.nil))))))))))))))))))))))))))))))))))
  .refine Qb ?_ (Qd)
   .refine IB Z (sD 2 (sD 3 (sD 5 sN))) ?_;refine Qs [] (DN.fn call29 Z Z Z) (Mc _ _ _ _ _ L) ?_;rintro _ _ ⟨rfl,rfl⟩;exact FE Z Wp
  .refine Qb ?_ (Qb ?_ (Qd))
   iterate 2 refine Om Z (sD 6 sN) ?_;refine vX (I d.Lo) (f9 tM E3 Z EK) ?_;exact Wp
  .refine Qb ?_ (Qb ?_ (Qd))
   iterate 2 refine Om Z (sD 1 (sD 7 sN)) ?_;exact S Z Wp
  .refine Qb ?_ (Qb ?_ (Qb ?_ (Qd)))
   iterate 3 refine Om Z (sD 10 (sD 11 sN)) ?_;exact Ix k EI EN Z Wp
  .refine Qb ?_ (Qb ?_ (Qb ?_ (Qd)))
   iterate 3 refine Om Z (sD 13 sN) ?_;exact Ix l EE EG Z Wp
  .refine Qb ?_ (Qb ?_ (Qd))
   iterate 2 refine Om Z (sD 8 (sD 15 sN)) ?_;exact S Z Wp
  .refine Qb ?_ (Qd)
   .refine IB Z (sD 19 (sD 20 (sD 22 sN))) ?_;refine Qs [] (DN.fn call29 Z Z Z) (Mc _ _ _ _ _ M) ?_;rintro _ _ ⟨rfl,rfl⟩;exact FE Z Wp
  .refine Qb ?_ (Qd)
   .refine Om Z (sD 23 sN) ?_;refine vX (I f.Hi) (f9 qH E3 Z EK) ?_;exact Wp
  .refine Qb ?_ (Qd)
   .refine Om Z (sD 18 (sD 24 sN)) ?_;exact S Z Wp
  .refine Qb ?_ (Qb ?_ (Qb ?_ (Qd)))
   iterate 3 refine Om Z (sD 27 sN) ?_;exact Ix m EI EN Z Wp
  .refine Qb ?_ (Qb ?_ (Qb ?_ (Qd)))
   iterate 3 refine Om Z (sD 29 (sD 30 sN)) ?_;exact Ix p EE EG Z Wp
  .refine Qb ?_ (Qd)
   .refine Om Z (sD 25 (sD 32 sN)) ?_;exact S Z Wp
 refine Go 6 Z ?_;obtain rfl:=Oi h;exact Rx [3] [8,9] Z (Qo Z Z (CC.cons (Qf EX EU Z Z Z) (CC.cons C_.tmp CC.nil))) ⟨Z,Z⟩
abbrev D8:Bm:={Ul with No:=2,AN:=3,AO:={Ag:=1,AT:=0,Av:=100,True:=100700,BX:=3:AO}:Bm}
abbrev CP:Bm:={Ul with No:=1,AN:=3,AO:={Ag:=1,AT:=0,Av:=100,True:=700,BX:=3:AO}:Bm}
abbrev Io:AA Bm:=[CP,D8]
abbrev Im:AA Bm:=[CP]
abbrev Il:AA Ag:=[{An:=[108,105,110,101],AN:=1:Ag},{An:=[116,117,114,110],AN:=2:Ag}]
abbrev B_:Bl:={Uk with An:=[97],Ar:=Il,BK:=[{Uu with AN:=1,By:=5:AZ}],Ak:={Um with A6:=5000,BM:=20:Ak}:Bl}
def Sc:AB Bool:=AH (cJ n) λy=>AH (cM n (B_) ({Ag:=1,AT:=0,As:=1000:Bk}) 51000) λf=>AH (Hz n Uk []) λx=>AH (IR n (B_) []) λg=>AH (Kb n (B_) []) λd=>AH (Oh n 1 100 700 3) λz=>AH (Kb n (B_) Im) λa=>AH (Oh n 1 100 700 3) λB=>AH (Oh n 2 100 100700 3) λE=>AH (Kb n (B_) Io) λh=>AH (Lj n (B_) ({AR:=d.1,BB:=d.2.1:Bp}) (-1) ({Lo:=5,Hi:=5:CA})) λe=>AH ((bif (f.2 != 0)then AC AE else(bif (x.2 != 70)then AC AE else(bif (g.2.2 != 0)then AC AE else(bif (d.2.2 != 0)then AC AE else(bif (a.2.2 != 0)then AC AE else(bif (h.2.2 != 160)then AC AE else(bif (e.2 != 0)then AC AE else(bif (({Lo:=f.1.Lo,Hi:=f.1.Hi:CA}) != ({Lo:=(-1),Hi:=5001:CA}))then AC AE else AC (({Lo:=e.1.Lo,Hi:=e.1.Hi:CA}) != ({Lo:=5,Hi:=5005:CA})))))))))):AB Bool) λi=>(bif i then AC AD else AH ((bif (g.1 != 1)then AC AE else(bif ((AI g.2.1:Int) != 0)then AC AE else(bif ((AI d.1:Int) != 0)then AC AE else(bif ((AI d.2.1:Int) != 1)then AC AE else(bif ((AI a.1:Int) != 1)then AC AE else AH (Bt a.1 0) λj=>(bif (j.As != 100)then AC AE else(bif ((AI a.2.1:Int) != 2)then AC AE else AH (Bt a.2.1 0) λk=>(bif ((AI k:Int) != 2)then AC AE else AH (Bt a.2.1 1) λl=>AC ((AI l:Int) != 2))))))))):AB Bool) λm=>(bif m then AC AD else AH (AH (Bt a.2.1 0) λp=>AH (Bt p 1) λq=>(bif (q==603)then AH (Bt a.2.1 1) λr=>AH (Bt r 0) λs=>(bif (s==4403)then AH (IY n ({AR:=a.1,BB:=a.2.1:Bp})) λt=>(bif (t==0)then AH (IY n ({AR:=[],BB:=[]:Bp})) λu=>AC (u==160)else AC AD)else AC AD)else AC AD):AB Bool) λw=>AC w))
theorem iO:Ks (Sc n) 4 [] [] (λr=>.b r):=by
 refine Kg 7 func4 Z Z Z Z λr h=>Cd [] h (gz _) Z λr1 aw h=>?_;refine aV (.a [.str [97],.o 0 (AI Il) 2,.q 4 (map DO.c []),.q 5 (map AQ.c []),.q 2 (map A'.c []),.q 4 (map Ah.c []),.q 3 (map Aa.c []),.q 4 (map CB.c []),.o 1 ([{Uu with AN:=1,By:=5:AZ}].length) 8,I 0,I 0,I 0,I 5000,I 20,I 0,I 0]) [.r 112 2 (map Ag.c Il),.r 117 8 (map AZ.enc [{Uu with AN:=1,By:=5:AZ}]),.c 33 [.str [97],.o 0 (AI Il) 2,.q 4 (map DO.c []),.q 5 (map AQ.c []),.q 2 (map A'.c []),.q 4 (map Ah.c []),.q 3 (map Aa.c []),.q 4 (map CB.c []),.o 1 ([{Uu with AN:=1,By:=5:AZ}].length) 8,I 0,I 0,I 0,I 5000,I 20,I 0,I 0]] Z Z ?_;refine Go 8 Z ?_;refine Ew (Ku [(16,_),(18,_)] Z Z (Fc.cons Z (D9.agg (Ee (Ef _) (Ee Et (El _)))) (Fc.cons Z (D9.agg (Ee (Ef _) (Ee Et (El _)))) Fc.nil)) (Ec (Ec (FT.cells (Ee (Ef _) (Ee Et (El _))) (FT.cells (Ee (Ef _) (Ee Et (El _))) (KZ _)))))) ?_;refine Ew (Ku [(16,_),(18,_)] Z Z (Fc.cons Z (D9.agg (Ee (Ef _) (Ee (Ef _) (Ee (Ef _) (Ee (Ef _) (Ee (Ef _) (Ee (Ef _) (Ee (Ef _) (Ee (Ef _) (Ee Et (El _))))))))))) (Fc.cons Z (D9.agg (Ee (Ef _) (Ee (Ef _) (Ee (Ef _) (Ee (Ef _) (Ee (Ef _) (Ee (Ef _) (Ee (Ef _) (Ee (Ef _) (Ee Et (El _))))))))))) Fc.nil)) (Ec (Ec (FT.cells (Ee (Ef _) (Ee (Ef _) (Ee (Ef _) (Ee (Ef _) (Ee (Ef _) (Ee (Ef _) (Ee (Ef _) (Ee (Ef _) (Ee Et (El _)))))))))) (FT.cells (Ee (Ef _) (Ee (Ef _) (Ee (Ef _) (Ee (Ef _) (Ee (Ef _) (Ee (Ef _) (Ee (Ef _) (Ee (Ef _) (Ee Et (El _)))))))))) (KZ _)))))) ?_;refine Cd [] h (hJ _ _ _ _) Z λa ax h=>?_;refine aV (.t [.a [I a.1.Lo,I a.1.Hi],I a.2]) [.dead,.dead,.c 33 (Bl.c (B_)),.c 33 (Bl.c (B_)),.c 40 [I a.1.Lo,I a.1.Hi]] Z Z ?_;refine Go 11 Z (Bd h λl an h=>?_);refine Qs [] (DN.fn call16 Z Z Z) (C.nils (H7.eq (H7.nl H7.nil)) (P1 _ _ _ _ an)) ?_;rintro _ _ ⟨rfl,rfl⟩;refine aV (.t [.o 6 (AI l.1) 3,I l.2]) [_,_,_,_,_,_,.r 55 3 (map Bk.c l.1)] Z Z ?_;refine Go 10 Z (Bd h λd ao h=>?_);refine Qs [] (DN.fn call17 Z Z Z) (C.nils (H7.eq (H7.nl H7.nil)) (W3 _ _ _ _ ao)) ?_;rintro _ _ ⟨rfl,rfl⟩;refine aV (.t [.a [I d.1,.q 3 (map Edge.c d.2.1)],I d.2.2]) [_,_,_,_,_,_,_,.c 60 [I d.1,.q 3 (map Edge.c d.2.1)]] Z Z ?_;refine Go 11 Z (Bd h λe aq h=>?_);refine Qs [] (DN.fn call7 Z Z Z) (C.nils (H7.eq (H7.nl H7.nil)) (dM _ _ _ _ aq)) ?_;rintro _ _ ⟨rfl,rfl⟩;refine aV (.t [.a [.q 3 (map Bk.c e.1),.q 1 (map (Qw 1 (Qe .i64)) e.2.1)],I e.2.2]) [_,_,_,_,_,_,_,_,_,.c 38 [.q 3 (map Bk.c e.1),.q 1 (map (Qw 1 (Qe .i64)) e.2.1)]] Z Z ?_;refine Go 9 Z ?_;obtain⟨r6,y,h⟩:=Q7 h;obtain⟨f,z,h⟩:=Q7 h;refine Jf 9 1 [39,40,41,42,38,43,44,10,1000008] [AD,AE,AD,AE,AD,AD,AD,AE,AE] [[],[],[1],[1],[1,3],[1,3],[1,3],[],[1,3,7]] [[],[1],[7],[1,3],[1,7],[1,3,7],[1,3,7,8]] [[(0,0),(1,1),(2,2),(4,4)],[(0,1),(2,4)],[(1,1),(4,4)],[(1,3),(4,5)],[(3,3),(5,5)],[(3,3),(5,5)],[(3,3),(5,5),(6,6)],[(0,2),(1,4),(3,5)],[(5,6)]] [.a (Bl.c (B_)),.a (Bm.c (CP)),.q 57 (map Bm.c Im),.t [.a [.q 3 (map Bk.c f.1),.q 1 (map (Qw 1 (Qe .i64)) f.2.1)],I f.2.2],.t [.a [.q 3 (map Bk.c f.1),.q 1 (map (Qw 1 (Qe .i64)) f.2.1)],I f.2.2],.a [.q 3 (map Bk.c f.1),.q 1 (map (Qw 1 (Qe .i64)) f.2.1)],I f.2.2,.p 11 0,.any] [[.dead,.dead,.c 33 (Bl.c (B_)),.c 33 (Bl.c (B_)),.c 40 [I a.1.Lo,I a.1.Hi],.c 40 [I a.1.Lo,I a.1.Hi],.r 55 3 (map Bk.c l.1),.c 60 [I d.1,.q 3 (map Edge.c d.2.1)],.c 60 [I d.1,.q 3 (map Edge.c d.2.1)],.c 38 [.q 3 (map Bk.c e.1),.q 1 (map (Qw 1 (Qe .i64)) e.2.1)],.c 38 [.q 3 (map Bk.c e.1),.q 1 (map (Qw 1 (Qe .i64)) e.2.1)],.dead],[.dead,.dead,.c 33 (Bl.c (B_)),.c 33 (Bl.c (B_)),.c 40 [I a.1.Lo,I a.1.Hi],.c 40 [I a.1.Lo,I a.1.Hi],.r 55 3 (map Bk.c l.1),.c 60 [I d.1,.q 3 (map Edge.c d.2.1)],.c 60 [I d.1,.q 3 (map Edge.c d.2.1)],.c 38 [.q 3 (map Bk.c e.1),.q 1 (map (Qw 1 (Qe .i64)) e.2.1)],.c 38 [.q 3 (map Bk.c e.1),.q 1 (map (Qw 1 (Qe .i64)) e.2.1)],.dead,.c 88 (Bm.c (CP))],[.dead,.dead,.c 33 (Bl.c (B_)),.c 33 (Bl.c (B_)),.c 40 [I a.1.Lo,I a.1.Hi],.c 40 [I a.1.Lo,I a.1.Hi],.r 55 3 (map Bk.c l.1),.c 60 [I d.1,.q 3 (map Edge.c d.2.1)],.c 60 [I d.1,.q 3 (map Edge.c d.2.1)],.c 38 [.q 3 (map Bk.c e.1),.q 1 (map (Qw 1 (Qe .i64)) e.2.1)],.c 38 [.q 3 (map Bk.c e.1),.q 1 (map (Qw 1 (Qe .i64)) e.2.1)],.c 38 [.q 3 (map Bk.c []),.q 1 (map (Qw 1 (Qe .i64)) [])]],[.dead,.dead,.c 33 (Bl.c (B_)),.c 33 (Bl.c (B_)),.c 40 [I a.1.Lo,I a.1.Hi],.c 40 [I a.1.Lo,I a.1.Hi],.r 55 3 (map Bk.c l.1),.c 60 [I d.1,.q 3 (map Edge.c d.2.1)],.c 60 [I d.1,.q 3 (map Edge.c d.2.1)],.c 38 [.q 3 (map Bk.c e.1),.q 1 (map (Qw 1 (Qe .i64)) e.2.1)],.c 38 [.q 3 (map Bk.c e.1),.q 1 (map (Qw 1 (Qe .i64)) e.2.1)],.dead,.c 88 (Bm.c (CP)),.c 38 [.q 3 (map Bk.c f.1),.q 1 (map (Qw 1 (Qe .i64)) f.2.1)]],[.dead,.dead,.c 33 (Bl.c (B_)),.c 33 (Bl.c (B_)),.c 40 [I a.1.Lo,I a.1.Hi],.c 40 [I a.1.Lo,I a.1.Hi],.r 55 3 (map Bk.c l.1),.c 60 [I d.1,.q 3 (map Edge.c d.2.1)],.c 60 [I d.1,.q 3 (map Edge.c d.2.1)],.c 38 [.q 3 (map Bk.c e.1),.q 1 (map (Qw 1 (Qe .i64)) e.2.1)],.c 38 [.q 3 (map Bk.c e.1),.q 1 (map (Qw 1 (Qe .i64)) e.2.1)],.c 38 [.q 3 (map Bk.c []),.q 1 (map (Qw 1 (Qe .i64)) [])],.c 88 (Bm.c (CP))],[.dead,.dead,.c 33 (Bl.c (B_)),.c 33 (Bl.c (B_)),.c 40 [I a.1.Lo,I a.1.Hi],.c 40 [I a.1.Lo,I a.1.Hi],.r 55 3 (map Bk.c l.1),.c 60 [I d.1,.q 3 (map Edge.c d.2.1)],.c 60 [I d.1,.q 3 (map Edge.c d.2.1)],.c 38 [.q 3 (map Bk.c e.1),.q 1 (map (Qw 1 (Qe .i64)) e.2.1)],.c 38 [.q 3 (map Bk.c e.1),.q 1 (map (Qw 1 (Qe .i64)) e.2.1)],.c 38 [.q 3 (map Bk.c []),.q 1 (map (Qw 1 (Qe .i64)) [])],.c 88 (Bm.c (CP)),.c 38 [.q 3 (map Bk.c f.1),.q 1 (map (Qw 1 (Qe .i64)) f.2.1)]],[.dead,.dead,.c 33 (Bl.c (B_)),.c 33 (Bl.c (B_)),.c 40 [I a.1.Lo,I a.1.Hi],.c 40 [I a.1.Lo,I a.1.Hi],.r 55 3 (map Bk.c l.1),.c 60 [I d.1,.q 3 (map Edge.c d.2.1)],.c 60 [I d.1,.q 3 (map Edge.c d.2.1)],.c 38 [.q 3 (map Bk.c e.1),.q 1 (map (Qw 1 (Qe .i64)) e.2.1)],.c 38 [.q 3 (map Bk.c e.1),.q 1 (map (Qw 1 (Qe .i64)) e.2.1)],.c 38 [.q 3 (map Bk.c f.1),.q 1 (map (Qw 1 (Qe .i64)) f.2.1)],.c 88 (Bm.c (CP)),.c 38 [.q 3 (map Bk.c f.1),.q 1 (map (Qw 1 (Qe .i64)) f.2.1)]]] ([.dead,.dead,.c 33 (Bl.c (B_)),.c 33 (Bl.c (B_)),.c 40 [I a.1.Lo,I a.1.Hi],.c 40 [I a.1.Lo,I a.1.Hi],.r 55 3 (map Bk.c l.1),.c 60 [I d.1,.q 3 (map Edge.c d.2.1)],.c 60 [I d.1,.q 3 (map Edge.c d.2.1)],.c 38 [.q 3 (map Bk.c e.1),.q 1 (map (Qw 1 (Qe .i64)) e.2.1)],.c 38 [.q 3 (map Bk.c e.1),.q 1 (map (Qw 1 (Qe .i64)) e.2.1)],.c 38 [.q 3 (map Bk.c f.1),.q 1 (map (Qw 1 (Qe .i64)) f.2.1)],.c 88 (Bm.c (CP)),.c 38 [.q 3 (map Bk.c f.1),.q 1 (map (Qw 1 (Qe .i64)) f.2.1)]]) DL Z Z Z Z Z Z Z ?_ Z ?_
 .refine B7.cons (Qb (v0 Z Z) (Qb (v0 Z Z) (Qb (v0 Z Z) (Qb (v0 Z Z) (Qd))))) (B7.cons ?_ (B7.cons ?_ (B7.cons ?_ (B7.cons (Qb (v0 Z Z) (Qb (v0 Z Z) (Qd))) (B7.cons (Qb (v0 Z Z) (Qb (v0 Z Z) (Qd))) (B7.cons (Qb (v0 Z Z) (Qb (v0 Z Z) (Qb (v0 Z Z) (Qd)))) (B7.cons ?_ (B7.cons ?_ (B7.nil)))))))))
  .refine Qb ?_ (Qb ?_ (Qd))
   iterate 2 refine IB Z sN ?_;refine Qs [] (DN.fn call18 Z Z Z) (lC _ _ _ _ _ _ y) ?_;rintro _ _ ⟨rfl,rfl⟩;refine aV (.a (Bm.c (CP))) [_,_,_,_,_,_,_,_,_,_,_,_,.c 88 (Bm.c (CP))] Z Z ?_;exact Wp
  .refine Qb ?_ (Qb ?_ (Qd))
   iterate 2 refine Om Z (sD 1 sN) ?_;refine vH (YG (xs:=[.tmp 40]) (es:=map Bm.c Im) MJ Z Z Z Z Z ⟨Z,trivial⟩ Z Z) ?_;refine aV (.q 57 (map Bm.c Im)) [_,_,_,_,_,_,_,_,_,_,_,_,_] Z Z ?_;exact Wp
  .refine Qb ?_ (Qb ?_ (Qd))
   iterate 2 refine IB Z (sD 0 (sD 2 sN)) ?_;refine Qs [] (DN.fn call7 Z Z Z) (dM _ _ _ _ z) ?_;rintro _ _ ⟨rfl,rfl⟩;refine aV (.t [.a [.q 3 (map Bk.c f.1),.q 1 (map (Qw 1 (Qe .i64)) f.2.1)],I f.2.2]) [_,_,_,_,_,_,_,_,_,_,_,_,_,.c 38 [.q 3 (map Bk.c f.1),.q 1 (map (Qw 1 (Qe .i64)) f.2.1)]] Z Z ?_;exact Wp
  .refine Qb ?_ (Qb ?_ (Qb ?_ (Qd)))
   iterate 3 exact JB.alloc _ 10 38 11 _ Z Z Z Z Z Z Z (K0.alloc (v:=(.a [.q 3 (map Bk.c []),.q 1 (map (Qw 1 (Qe .i64)) [])])) Gi (HI Z)) Z
  .refine Qb ?_ (Qd)
   .refine gB Z (sD 7 (sD 5 sN)) ?_;refine vU (EB Z Z Z Gu Z Z Z Z Z Z Z) ?_;refine Rl (H:=[_,_,_,_,_,_,_,_,_,_,_,.c 38 [.q 3 (map Bk.c f.1),.q 1 (map (Qw 1 (Qe .i64)) f.2.1)],_,_]) Z ?_;exact Wp
 refine Go 4 Z ?_;obtain⟨r8,B,h⟩:=Q7 h;obtain⟨r9,E,h⟩:=Q7 h;obtain⟨i,s,h⟩:=Q7 h;refine Jf 10 1 [46,47,48,49,50,45,51,52,12,1000009] [AD,AE,AE,AD,AE,AD,AD,AD,AE,AE] [[],[],[1],[1,2],[1,2],[1,2,4],[1,2,4],[1,2,4],[],[1,2,4,8]] [[],[1],[8],[1,2],[1,8],[1,2,4],[1,2,8],[1,2,4,8],[1,2,4,8,9]] [[(0,0),(1,1),(2,2),(3,3),(4,4),(6,6)],[(0,1),(2,4)],[(1,3),(4,6)],[(3,3),(6,6)],[(3,5),(6,7)],[(5,5),(7,7)],[(5,5),(7,7)],[(5,5),(7,7),(8,8)],[(0,2),(1,4),(3,6),(5,7)],[(7,8)]] [.a (Bl.c (B_)),.a (Bm.c (CP)),.a (Bm.c (D8)),.q 57 (map Bm.c Io),.t [.a [.q 3 (map Bk.c i.1),.q 1 (map (Qw 1 (Qe .i64)) i.2.1)],I i.2.2],.t [.a [.q 3 (map Bk.c i.1),.q 1 (map (Qw 1 (Qe .i64)) i.2.1)],I i.2.2],.a [.q 3 (map Bk.c i.1),.q 1 (map (Qw 1 (Qe .i64)) i.2.1)],I i.2.2,.p 14 0,.any] [[.dead,.dead,.c 33 (Bl.c (B_)),.c 33 (Bl.c (B_)),.c 40 [I a.1.Lo,I a.1.Hi],.c 40 [I a.1.Lo,I a.1.Hi],.r 55 3 (map Bk.c l.1),.c 60 [I d.1,.q 3 (map Edge.c d.2.1)],.c 60 [I d.1,.q 3 (map Edge.c d.2.1)],.c 38 [.q 3 (map Bk.c e.1),.q 1 (map (Qw 1 (Qe .i64)) e.2.1)],.c 38 [.q 3 (map Bk.c e.1),.q 1 (map (Qw 1 (Qe .i64)) e.2.1)],.c 38 [.q 3 (map Bk.c f.1),.q 1 (map (Qw 1 (Qe .i64)) f.2.1)],.c 88 (Bm.c (CP)),.c 38 [.q 3 (map Bk.c f.1),.q 1 (map (Qw 1 (Qe .i64)) f.2.1)],.dead],[.dead,.dead,.c 33 (Bl.c (B_)),.c 33 (Bl.c (B_)),.c 40 [I a.1.Lo,I a.1.Hi],.c 40 [I a.1.Lo,I a.1.Hi],.r 55 3 (map Bk.c l.1),.c 60 [I d.1,.q 3 (map Edge.c d.2.1)],.c 60 [I d.1,.q 3 (map Edge.c d.2.1)],.c 38 [.q 3 (map Bk.c e.1),.q 1 (map (Qw 1 (Qe .i64)) e.2.1)],.c 38 [.q 3 (map Bk.c e.1),.q 1 (map (Qw 1 (Qe .i64)) e.2.1)],.c 38 [.q 3 (map Bk.c f.1),.q 1 (map (Qw 1 (Qe .i64)) f.2.1)],.c 88 (Bm.c (CP)),.c 38 [.q 3 (map Bk.c f.1),.q 1 (map (Qw 1 (Qe .i64)) f.2.1)],.dead,.c 88 (Bm.c (CP))],[.dead,.dead,.c 33 (Bl.c (B_)),.c 33 (Bl.c (B_)),.c 40 [I a.1.Lo,I a.1.Hi],.c 40 [I a.1.Lo,I a.1.Hi],.r 55 3 (map Bk.c l.1),.c 60 [I d.1,.q 3 (map Edge.c d.2.1)],.c 60 [I d.1,.q 3 (map Edge.c d.2.1)],.c 38 [.q 3 (map Bk.c e.1),.q 1 (map (Qw 1 (Qe .i64)) e.2.1)],.c 38 [.q 3 (map Bk.c e.1),.q 1 (map (Qw 1 (Qe .i64)) e.2.1)],.c 38 [.q 3 (map Bk.c f.1),.q 1 (map (Qw 1 (Qe .i64)) f.2.1)],.c 88 (Bm.c (CP)),.c 38 [.q 3 (map Bk.c f.1),.q 1 (map (Qw 1 (Qe .i64)) f.2.1)],.c 38 [.q 3 (map Bk.c []),.q 1 (map (Qw 1 (Qe .i64)) [])]],[.dead,.dead,.c 33 (Bl.c (B_)),.c 33 (Bl.c (B_)),.c 40 [I a.1.Lo,I a.1.Hi],.c 40 [I a.1.Lo,I a.1.Hi],.r 55 3 (map Bk.c l.1),.c 60 [I d.1,.q 3 (map Edge.c d.2.1)],.c 60 [I d.1,.q 3 (map Edge.c d.2.1)],.c 38 [.q 3 (map Bk.c e.1),.q 1 (map (Qw 1 (Qe .i64)) e.2.1)],.c 38 [.q 3 (map Bk.c e.1),.q 1 (map (Qw 1 (Qe .i64)) e.2.1)],.c 38 [.q 3 (map Bk.c f.1),.q 1 (map (Qw 1 (Qe .i64)) f.2.1)],.c 88 (Bm.c (CP)),.c 38 [.q 3 (map Bk.c f.1),.q 1 (map (Qw 1 (Qe .i64)) f.2.1)],.dead,.c 88 (Bm.c (CP)),.c 88 (Bm.c (D8))],[.dead,.dead,.c 33 (Bl.c (B_)),.c 33 (Bl.c (B_)),.c 40 [I a.1.Lo,I a.1.Hi],.c 40 [I a.1.Lo,I a.1.Hi],.r 55 3 (map Bk.c l.1),.c 60 [I d.1,.q 3 (map Edge.c d.2.1)],.c 60 [I d.1,.q 3 (map Edge.c d.2.1)],.c 38 [.q 3 (map Bk.c e.1),.q 1 (map (Qw 1 (Qe .i64)) e.2.1)],.c 38 [.q 3 (map Bk.c e.1),.q 1 (map (Qw 1 (Qe .i64)) e.2.1)],.c 38 [.q 3 (map Bk.c f.1),.q 1 (map (Qw 1 (Qe .i64)) f.2.1)],.c 88 (Bm.c (CP)),.c 38 [.q 3 (map Bk.c f.1),.q 1 (map (Qw 1 (Qe .i64)) f.2.1)],.c 38 [.q 3 (map Bk.c []),.q 1 (map (Qw 1 (Qe .i64)) [])],.c 88 (Bm.c (CP))],[.dead,.dead,.c 33 (Bl.c (B_)),.c 33 (Bl.c (B_)),.c 40 [I a.1.Lo,I a.1.Hi],.c 40 [I a.1.Lo,I a.1.Hi],.r 55 3 (map Bk.c l.1),.c 60 [I d.1,.q 3 (map Edge.c d.2.1)],.c 60 [I d.1,.q 3 (map Edge.c d.2.1)],.c 38 [.q 3 (map Bk.c e.1),.q 1 (map (Qw 1 (Qe .i64)) e.2.1)],.c 38 [.q 3 (map Bk.c e.1),.q 1 (map (Qw 1 (Qe .i64)) e.2.1)],.c 38 [.q 3 (map Bk.c f.1),.q 1 (map (Qw 1 (Qe .i64)) f.2.1)],.c 88 (Bm.c (CP)),.c 38 [.q 3 (map Bk.c f.1),.q 1 (map (Qw 1 (Qe .i64)) f.2.1)],.dead,.c 88 (Bm.c (CP)),.c 88 (Bm.c (D8)),.c 38 [.q 3 (map Bk.c i.1),.q 1 (map (Qw 1 (Qe .i64)) i.2.1)]],[.dead,.dead,.c 33 (Bl.c (B_)),.c 33 (Bl.c (B_)),.c 40 [I a.1.Lo,I a.1.Hi],.c 40 [I a.1.Lo,I a.1.Hi],.r 55 3 (map Bk.c l.1),.c 60 [I d.1,.q 3 (map Edge.c d.2.1)],.c 60 [I d.1,.q 3 (map Edge.c d.2.1)],.c 38 [.q 3 (map Bk.c e.1),.q 1 (map (Qw 1 (Qe .i64)) e.2.1)],.c 38 [.q 3 (map Bk.c e.1),.q 1 (map (Qw 1 (Qe .i64)) e.2.1)],.c 38 [.q 3 (map Bk.c f.1),.q 1 (map (Qw 1 (Qe .i64)) f.2.1)],.c 88 (Bm.c (CP)),.c 38 [.q 3 (map Bk.c f.1),.q 1 (map (Qw 1 (Qe .i64)) f.2.1)],.c 38 [.q 3 (map Bk.c []),.q 1 (map (Qw 1 (Qe .i64)) [])],.c 88 (Bm.c (CP)),.c 88 (Bm.c (D8))],[.dead,.dead,.c 33 (Bl.c (B_)),.c 33 (Bl.c (B_)),.c 40 [I a.1.Lo,I a.1.Hi],.c 40 [I a.1.Lo,I a.1.Hi],.r 55 3 (map Bk.c l.1),.c 60 [I d.1,.q 3 (map Edge.c d.2.1)],.c 60 [I d.1,.q 3 (map Edge.c d.2.1)],.c 38 [.q 3 (map Bk.c e.1),.q 1 (map (Qw 1 (Qe .i64)) e.2.1)],.c 38 [.q 3 (map Bk.c e.1),.q 1 (map (Qw 1 (Qe .i64)) e.2.1)],.c 38 [.q 3 (map Bk.c f.1),.q 1 (map (Qw 1 (Qe .i64)) f.2.1)],.c 88 (Bm.c (CP)),.c 38 [.q 3 (map Bk.c f.1),.q 1 (map (Qw 1 (Qe .i64)) f.2.1)],.c 38 [.q 3 (map Bk.c []),.q 1 (map (Qw 1 (Qe .i64)) [])],.c 88 (Bm.c (CP)),.c 88 (Bm.c (D8)),.c 38 [.q 3 (map Bk.c i.1),.q 1 (map (Qw 1 (Qe .i64)) i.2.1)]],[.dead,.dead,.c 33 (Bl.c (B_)),.c 33 (Bl.c (B_)),.c 40 [I a.1.Lo,I a.1.Hi],.c 40 [I a.1.Lo,I a.1.Hi],.r 55 3 (map Bk.c l.1),.c 60 [I d.1,.q 3 (map Edge.c d.2.1)],.c 60 [I d.1,.q 3 (map Edge.c d.2.1)],.c 38 [.q 3 (map Bk.c e.1),.q 1 (map (Qw 1 (Qe .i64)) e.2.1)],.c 38 [.q 3 (map Bk.c e.1),.q 1 (map (Qw 1 (Qe .i64)) e.2.1)],.c 38 [.q 3 (map Bk.c f.1),.q 1 (map (Qw 1 (Qe .i64)) f.2.1)],.c 88 (Bm.c (CP)),.c 38 [.q 3 (map Bk.c f.1),.q 1 (map (Qw 1 (Qe .i64)) f.2.1)],.c 38 [.q 3 (map Bk.c i.1),.q 1 (map (Qw 1 (Qe .i64)) i.2.1)],.c 88 (Bm.c (CP)),.c 88 (Bm.c (D8)),.c 38 [.q 3 (map Bk.c i.1),.q 1 (map (Qw 1 (Qe .i64)) i.2.1)]]] ([.dead,.dead,.c 33 (Bl.c (B_)),.c 33 (Bl.c (B_)),.c 40 [I a.1.Lo,I a.1.Hi],.c 40 [I a.1.Lo,I a.1.Hi],.r 55 3 (map Bk.c l.1),.c 60 [I d.1,.q 3 (map Edge.c d.2.1)],.c 60 [I d.1,.q 3 (map Edge.c d.2.1)],.c 38 [.q 3 (map Bk.c e.1),.q 1 (map (Qw 1 (Qe .i64)) e.2.1)],.c 38 [.q 3 (map Bk.c e.1),.q 1 (map (Qw 1 (Qe .i64)) e.2.1)],.c 38 [.q 3 (map Bk.c f.1),.q 1 (map (Qw 1 (Qe .i64)) f.2.1)],.c 88 (Bm.c (CP)),.c 38 [.q 3 (map Bk.c f.1),.q 1 (map (Qw 1 (Qe .i64)) f.2.1)],.c 38 [.q 3 (map Bk.c i.1),.q 1 (map (Qw 1 (Qe .i64)) i.2.1)],.c 88 (Bm.c (CP)),.c 88 (Bm.c (D8)),.c 38 [.q 3 (map Bk.c i.1),.q 1 (map (Qw 1 (Qe .i64)) i.2.1)]]) DL Z Z Z Z Z Z Z ?_ Z ?_
 .refine B7.cons (Qb (v0 Z Z) (Qb (v0 Z Z) (Qb (v0 Z Z) (Qb (v0 Z Z) (Qb (v0 Z Z) (Qb (v0 Z Z) (Qd))))))) (B7.cons ?_ (B7.cons ?_ (B7.cons ?_ (B7.cons ?_ (B7.cons (Qb (v0 Z Z) (Qb (v0 Z Z) (Qd))) (B7.cons (Qb (v0 Z Z) (Qb (v0 Z Z) (Qd))) (B7.cons (Qb (v0 Z Z) (Qb (v0 Z Z) (Qb (v0 Z Z) (Qd)))) (B7.cons ?_ (B7.cons ?_ (B7.nil))))))))))
  .refine Qb ?_ (Qb ?_ (Qd))
   iterate 2 refine IB Z sN ?_;refine Qs [] (DN.fn call18 Z Z Z) (lC _ _ _ _ _ _ B) ?_;rintro _ _ ⟨rfl,rfl⟩;refine aV (.a (Bm.c (CP))) [_,_,_,_,_,_,_,_,_,_,_,_,_,_,_,.c 88 (Bm.c (CP))] Z Z ?_;exact Wp
  .refine Qb ?_ (Qb ?_ (Qd))
   iterate 2 refine IB Z sN ?_;refine Qs [] (DN.fn call18 Z Z Z) (lC _ _ _ _ _ _ E) ?_;rintro _ _ ⟨rfl,rfl⟩;refine aV (.a (Bm.c (D8))) [_,_,_,_,_,_,_,_,_,_,_,_,_,_,_,_,.c 88 (Bm.c (D8))] Z Z ?_;exact Wp
  .refine Qb ?_ (Qb ?_ (Qd))
   iterate 2 refine Om Z (sD 1 (sD 2 sN)) ?_;refine vH (YG (xs:=[.tmp 47,.tmp 48]) (es:=map Bm.c Io) MJ Z Z Z Z Z ⟨Z,Z,trivial⟩ Z Z) ?_;refine aV (.q 57 (map Bm.c Io)) [_,_,_,_,_,_,_,_,_,_,_,_,_,_,_,_,_] Z Z ?_;exact Wp
  .refine Qb ?_ (Qb ?_ (Qd))
   iterate 2 refine IB Z (sD 0 (sD 3 sN)) ?_;refine Qs [] (DN.fn call7 Z Z Z) (dM _ _ _ _ s) ?_;rintro _ _ ⟨rfl,rfl⟩;refine aV (.t [.a [.q 3 (map Bk.c i.1),.q 1 (map (Qw 1 (Qe .i64)) i.2.1)],I i.2.2]) [_,_,_,_,_,_,_,_,_,_,_,_,_,_,_,_,_,.c 38 [.q 3 (map Bk.c i.1),.q 1 (map (Qw 1 (Qe .i64)) i.2.1)]] Z Z ?_;exact Wp
  .refine Qb ?_ (Qb ?_ (Qb ?_ (Qb ?_ (Qd))))
   iterate 4 exact JB.alloc _ 12 38 14 _ Z Z Z Z Z Z Z (K0.alloc (v:=(.a [.q 3 (map Bk.c []),.q 1 (map (Qw 1 (Qe .i64)) [])])) Gi (HI Z)) Z
  .refine Qb ?_ (Qd)
   .refine gB Z (sD 8 (sD 6 sN)) ?_;refine vU (EB Z Z Z Gu Z Z Z Z Z Z Z) ?_;refine Rl (H:=[_,_,_,_,_,_,_,_,_,_,_,_,_,_,.c 38 [.q 3 (map Bk.c i.1),.q 1 (map (Qw 1 (Qe .i64)) i.2.1)],_,_,_]) Z ?_;exact Wp
 refine Go 8 Z (Cd [] h (Wi _ _ _ _ _) Z λm ar h=>?_);refine aV (.t [.a [I m.1.Lo,I m.1.Hi],I m.2]) [_,_,_,_,_,_,_,_,_,_,_,_,_,_,_,_,_,_,.c 40 [I m.1.Lo,I m.1.Hi]] Z Z ?_;refine Go 10 Z (Bd h λt j h=>Ct t [8,10,11] [6,8,10] (λt=>[(95,.b t)]) Ze Zf ?_ (λenv H u=>?_))
 .refine G0 4 Z (Is 62 j Z (λ_ j=>?_) (λ_ j=>?_))
  .exact Gl 34 Z j [8,10,11]
  .refine Go 4 Z (Is 66 j Z (λ_ j=>?_) (λ_ j=>?_))
   .exact Gl 30 Z j [8,10,11]
   .refine Go 4 Z (Is 70 j Z (λ_ j=>?_) (λ_ j=>?_))
    .exact Gl 26 Z j [8,10,11]
    .refine Go 4 Z (Is 74 j Z (λ_ j=>?_) (λ_ j=>?_))
     .exact Gl 22 Z j [8,10,11]
     .refine Go 4 Z (Is 78 j Z (λ_ j=>?_) (λ_ j=>?_))
      .exact Gl 18 Z j [8,10,11]
      .refine Go 4 Z (Is 82 j Z (λ_ j=>?_) (λ_ j=>?_))
       .exact Gl 14 Z j [8,10,11]
       .refine Go 4 Z (Is 86 j Z (λ_ j=>?_) (λ_ j=>?_))
        .exact Gl 10 Z j [8,10,11]
        .refine Go 2 Z ?_;refine vX (.b (({Lo:=a.1.Lo,Hi:=a.1.Hi:CA}) != ({Lo:=(-1),Hi:=5001:CA}))) (fq (p:={Lo:=a.1.Lo,Hi:=a.1.Hi:CA}) (q:={Lo:=(-1),Hi:=5001:CA}) lQ Z Z) ?_ (gT Z);refine Go 2 Z (Is 91 j Z (λ_ j=>?_) (λ_ j=>?_))
         .exact Gl 5 Z j [8,10,11]
         .refine Go 2 Z ?_;refine vX (.b (({Lo:=m.1.Lo,Hi:=m.1.Hi:CA}) != ({Lo:=5,Hi:=5005:CA}))) (fq (p:={Lo:=m.1.Lo,Hi:=m.1.Hi:CA}) (q:={Lo:=5,Hi:=5005:CA}) lQ Z Z) ?_ (gT Z);exact Gl 2 Z j [8,10,11]
 refine Gx 1 Z (Eg u (Cn Z h (λ_ h=>?_) (λ_ h=>?_)))
 .exact QG 7 Z h 0 []
 refine Gc 4 Z (Bd h λw g h=>Ct w [2] [10] (λw=>[(152,.b w)]) Ze Zf ?_ (λenv H u=>?_))
 .refine G0 5 Z (Is 99 g Z (λ_ g=>?_) (λ_ g=>?_))
  .exact Gl 54 Z g [2]
  .refine Go 2 Z (Lg 3 Z Z (Is 105 g Z (λ_ g=>?_) (λ_ g=>?_)))
   .exact Gl 48 Z g [2]
   .refine Go 2 Z (Lg 3 Z Z (Is 111 g Z (λ_ g=>?_) (λ_ g=>?_)))
    .exact Gl 42 Z g [2]
    .refine Go 2 Z (Lg 3 Z Z (Is 117 g Z (λ_ g=>?_) (λ_ g=>?_)))
     .exact Gl 36 Z g [2]
     .refine Go 2 Z (Lg 3 Z Z (Is 123 g Z (λ_ g=>?_) (λ_ g=>?_)))
      .exact Gl 30 Z g [2]
      .refine Go 2 Z (Bd g λay Y g=>Iz Y Z (Go 5 Z (Is 131 g Z (λ_ g=>?_) (λ_ g=>?_))))
       .exact Gl 22 Z g [2]
       .refine Go 2 Z (Lg 3 Z Z (Is 137 g Z (λ_ g=>?_) (λ_ g=>?_)))
        .exact Gl 16 Z g [2]
        .refine Go 2 Z (Bd g λaz ac g=>Iz ac Z (Go 1 Z (Lg 3 Z Z (Is 145 g Z (λ_ g=>?_) (λ_ g=>?_)))))
         .exact Gl 8 Z g [2]
         .exact Go 2 Z (Bd g λba ae g=>Iz ae Z (Go 1 Z (Lm Z (Gl 3 Z g [2]))))
 refine Gx 1 Z (Eg u (Cn Z h (λ_ h=>?_) (λ_ h=>?_)))
 .exact QG 7 Z h 0 []
 refine Gc 3 Z (Bd h λx k h=>Cg x [] [] (λx=>[(0,.b x)]) Ze Zf ?_ ?_)
 .refine G0 3 Z (Bd k λbb ag k=>Iz ag Z (Go 1 Z (Bd k λbc ah k=>Iz ah Z (Go 3 Z (Is 160 k Z (λ_ k=>?_) (λ_ k=>?_))))))
  .refine Go 2 Z (Bd k λbd aj k=>Iz aj Z (Go 1 Z (Bd k λbe ak k=>Iz ak Z (Go 4 Z (Is 169 k Z (λ_ k=>?_) (λ_ k=>?_))))))
   .refine Go 1 Z (Cz [] k (Me _ _) Z λbg au k=>Go 3 Z (Is 174 k Z (λ_ k=>?_) (λ_ k=>?_)))
    .exact Go 1 Z (Cz [] k (Me _ _) Z λbh av k=>Gl 4 Z k [])
    .exact Gl 6 Z k []
   .exact Gl 11 Z k []
  .exact Gl 20 Z k []
 exact QG 1 Z h 0 []
def LX(n:Nat)(d:AA Bo)(rec199:(AA Bo)->AB Int)(a:Int×Int):AB (Bn (Int×Int) Int):=AH ((bif a.2<(AI d:Int) then AC (AG (a.1<=256))else AC AD):AB Bool) λe=>(bif e then AH (Bt d a.2) λf=>AH (rec199 f.Ac) λg=>AC (.k (i64.wrap (a.1+g),i64.wrap (a.2+1)))else AC (.d a.1))
def Tg(rec199:(AA Bo)->AB Int)(n:Nat)(d:AA Bo):AB Int:=AH (iter (LX n d rec199) n ((AI d:Int),0):AB Int) λa=>AC (if 257<a then 257 else a)
theorem Qbb(rec199:(AA Bo)->AB Int)(f:∀(g:AA Bo) (r:Int),rec199 g=AC r->DE prog 19 [.q 3 (map Bo.enc g)] [] (λr=>I r) r)(n:Nat)(g:AA Bo)(r:Int)(h:Tg rec199 n g=AC r):DE prog 19 [.q 3 (map Bo.enc g)] [] (λr=>I r) r:=by
 refine QK func19 Z Z Z ?_;refine G0 8 Z (Lg 9 Z Z (Bd h λd q h=>Cg d [] [] (λd=>[(3,I d)]) Ze Zf ?_ ?_))
 .refine G0 1 Z (Lp [] [0] (λi=>[(3,I i.1),(4,I i.2)]) Ze q Zf (Lr []) λi u a k=>?_);refine G0 2 Z (Bd a λj e a=>Cg j [] [0,3,4] (λj=>[(14,.b j)]) Ze Zf ?_ ?_)
  .refine G0 3 Z (Lg 2 Z Z (Is 11 e Z (λ_ e=>?_) (λ_ e=>?_)))
   iterate 2 exact Gl 4 Z e []
  refine Q8 Z a (λ_ a=>?_) (λ_ a=>?_)
  .exact Gc 2 Z (Qj a (Gx 1 Z (DM k a (Lr []))))
  exact Gc 8 Z (Bd a λs p a=>Fm p (Yi s) Z (Go 2 Z (Cz [] a (f _) Z λw t a=>Go 10 Z (Qg a (Lr [])))))
 refine Gc 3 Z ?_;refine vX (I (if 257<d then 257 else d)) (Bz.min Z Z Z Z) ?_;exact Gt 4 Z h 2 []
def Ih:Nat->(AA Bo)->AB Int
  |0=>λ_=>AF
  |n+1=>Tg (Ih n) n
theorem W6:∀(a:AA Bo) (r:Int),Ih n a=AC r->DE prog 19 [.q 3 (map Bo.enc a)] [] (λr=>I r) r:=by
  induction n with
  |zero=>intro a r h;cases h
  |succ n ih=>intro a r h;exact Qbb _ ih n a r h
def J8(n:Nat)(e:AA Bo)(f:Int)(rec200:(AA Bo)->Int->AB Int)(a:Int×Int):AB (Bn (Int×Int) Int):=AH ((bif a.2<(AI e:Int) then AC (AG (0<f))else AC AD):AB Bool) λg=>(bif g then AH (Bt e a.2) λh=>AH ((bif ((AI h.Ac:Int) != 0)then AH (Bt e a.2) λi=>AH (rec200 i.Ac (i64.wrap (f-1))) λd=>AC (if a.1<i64.wrap (1+d)then i64.wrap (1+d)else a.1)else AC a.1):AB Int) λj=>AC (.k (j,i64.wrap (a.2+1)))else AC (.d a.1))
def gD(rec200:(AA Bo)->Int->AB Int)(n:Nat)(d:AA Bo)(e:Int):AB Int:=AH (iter (J8 n d e rec200) n (0,0):AB Int) λa=>AC a
theorem Qba(rec200:(AA Bo)->Int->AB Int)(g:∀(i:AA Bo) (j:Int) (r:Int),rec200 i j=AC r->DE prog 20 [.q 3 (map Bo.enc i),I j] [] (λr=>I r) r)(n:Nat)(i:AA Bo)(j:Int)(r:Int)(h:gD rec200 n i j=AC r):DE prog 20 [.q 3 (map Bo.enc i),I j] [] (λr=>I r) r:=by
 refine QK func20 Z Z Z ?_;refine G0 16 Z (Bd h λk z h=>Cg k [] [] (λk=>[(5,I k)]) Ze Zf ?_ ?_)
 .refine G0 1 Z (Lp [] [0,1] (λe=>[(5,I e.1),(6,I e.2)]) Ze z Zf (Lr []) λe G a s=>?_);refine G0 2 Z (Bd a λl f a=>Ct l [] [0,1,5,6] (λl=>[(14,.b l)]) Ze Zf ?_ (λenv H m=>?_))
  .refine G0 3 Z (Lg 2 Z Z (Is 11 f Z (λ_ f=>?_) (λ_ f=>?_)))
   iterate 2 exact Gl 4 Z f []
  refine Gx 1 Z (Eg m (Q8 Z a (λ_ a=>?_) (λ_ a=>?_)))
  .exact Gc 2 Z (Qj a (Gx 1 Z (DM s a (Lr []))))
  refine Gc 8 Z (Bd a λB w a=>Fm w (Yi B) Z (Go 2 Z (Lg 3 Z Z (Bd a λp d a=>Ct p [] [0,1,6] (λp=>[(5,I p)]) Ze Zf ?_ (λenv H m=>?_)))))
  .refine G0 0 Z (Cn Z d (λ_ d=>?_) (λ_ d=>?_))
   .refine Gc 4 Z (Bd d λE y d=>Fm y (Yi E) Z (Go 4 Z (Cz [] d (g _ _) Z λq F d=>Go 1 Z ?_)));refine vX (I (if e.1<i64.wrap (1+q)then i64.wrap (1+q)else e.1)) (Bz.max Z Z Z Z) ?_;exact Gl 2 Z d []
   exact Yy 1 Z d []
  exact Gx 2 Z (Eg m (Gc 5 Z (Qg a (Lr []))))
 exact QG 7 Z h 4 []
def Po:Nat->(AA Bo)->Int->AB Int
  |0=>λ_ _=>AF
  |n+1=>gD (Po n) n
theorem oV:∀(a:AA Bo) (d:Int) (r:Int),Po n a d=AC r->DE prog 20 [.q 3 (map Bo.enc a),I d] [] (λr=>I r) r:=by
  induction n with
  |zero=>intro a d r h;cases h
  |succ n ih=>intro a d r h;exact Qba _ ih n a d r h
def Lz(n:Nat)(a:AP):AB Bool:=AH ((bif (a.AN==0)then(bif (a.BZ==0)then(bif (a.N==0)then AC ((AI a.Ac:Int)==0)else AC AD)else AC AD)else AC AD):AB Bool) λd=>AC d
theorem Wv(e:AP):Ks (Lz n e) 83 [.a (AP.c e)] [] (λr=>.b r):=by
 refine Kg 7 func83 Z Z Z Z λr h=>Bd h λd a h=>Cg d [] [] (λd=>[(2,.b d)]) Ze Zf ?_ ?_
 .refine G0 5 Z (Is 6 a Z (λ_ a=>?_) (λ_ a=>?_))
  .refine Go 5 Z (Is 11 a Z (λ_ a=>?_) (λ_ a=>?_))
   .refine Go 5 Z (Is 16 a Z (λ_ a=>?_) (λ_ a=>?_))
    .exact Go 2 Z (Lm Z (Gl 4 Z a []))
    .exact Gl 7 Z a []
   .exact Gl 12 Z a []
  .exact Gl 17 Z a []
 exact QG 1 Z h 2 []
def LD(n:Nat)(d:AP)(h:Int)(rec204:AP->Int->AB Int)(a:Int×Int):AB (Bn (Int×Int) Int):=AH ((bif a.2<(AI d.Ac:Int) then AC (AG (a.1<=256))else AC AD):AB Bool) λe=>(bif e then AH (Bt d.Ac a.2) λf=>AH (rec204 f (i64.wrap (h+1))) λg=>AC (.k (i64.wrap (a.1+g),i64.wrap (a.2+1)))else AC (.d a.1))
def gE(rec204:AP->Int->AB Int)(n:Nat)(e:AP)(a:Int):AB Int:=(bif 16<a then AC 1000 else AH (iter (LD n e a rec204) n (1,0):AB Int) λd=>AC d)
theorem Qao(rec204:AP->Int->AB Int)(e:∀(f:AP) (g:Int) (r:Int),rec204 f g=AC r->DE prog 84 [.a (AP.c f),I g] [] (λr=>I r) r)(n:Nat)(f:AP)(g:Int)(r:Int)(h:gE rec204 n f g=AC r):DE prog 84 [.a (AP.c f),I g] [] (λr=>I r) r:=by
 refine QK func84 Z Z Z ?_;refine G0 13 Z (Cn Z h (λ_ h=>?_) (λ_ h=>?_))
 .exact QG 7 Z h 4 []
 refine Gc 13 Z (Bd h λi t h=>Cg i [] [] (λi=>[(5,I i)]) Ze Zf ?_ ?_)
 .refine G0 1 Z (Lp [0] [1,2] (λj=>[(5,I j.1),(6,I j.2)]) Ze t Zf (Lr [0]) λj x a l=>?_);refine G0 2 Z (Bd a λk d a=>Cg k [0] [1,2,5,6] (λk=>[(17,.b k)]) Ze Zf ?_ ?_)
  .refine G0 4 Z (Lg 2 Z Z (Is 14 d Z (λ_ d=>?_) (λ_ d=>?_)))
   iterate 2 exact Gl 4 Z d [0]
  refine Q8 Z a (λ_ a=>?_) (λ_ a=>?_)
  .exact Gc 2 Z (Qj a (Gx 1 Z (DM l a (Lr []))))
  exact Gc 9 Z (Bd a λu q a=>Fm q (aX u) Z (Go 3 Z (Cz [] a (e _ _) Z λy w a=>Go 10 Z (Qg a (Lr [0])))))
 exact QG 7 Z h 4 []
def M8:Nat->AP->Int->AB Int
  |0=>λ_ _=>AF
  |n+1=>gE (M8 n) n
theorem oW:∀(a:AP) (d:Int) (r:Int),M8 n a d=AC r->DE prog 84 [.a (AP.c a),I d] [] (λr=>I r) r:=by
  induction n with
  |zero=>intro a d r h;cases h
  |succ n ih=>intro a d r h;exact Qao _ ih n a d r h
def LZ(d:AA AZ)(g:Int)(rec202:(AA AZ)->Int->AB (Int×Int))(a:Int×Int×Int):AB (Bn (Int×Int×Int) (Int×Int)):=AH ((bif a.2.2<(AI d:Int) then(bif a.1<=64 then AC (AG (a.2.1<=256))else AC AD)else AC AD):AB Bool) λh=>(bif h then AH (Bt d a.2.2) λi=>AH (rec202 i.BD (i64.wrap (g+1))) λe=>AH (Bt d a.2.2) λj=>AH (rec202 j.BG (i64.wrap (g+1))) λf=>AH (Bt d a.2.2) λk=>AH (Lz n k.AP) λl=>AH ((bif (!l)then AH (Bt d a.2.2) λm=>AH (M8 n m.AP 0) λp=>AC (i64.wrap ((i64.wrap ((i64.wrap (a.2.1+e.2))+f.2))+p))else AC (i64.wrap ((i64.wrap (a.2.1+e.2))+f.2))):AB Int) λq=>AC (.k (i64.wrap ((i64.wrap ((i64.wrap (a.1+1))+e.1))+f.1),q,i64.wrap (a.2.2+1)))else AC (.d (a.1,a.2.1)))
def gC(rec202:(AA AZ)->Int->AB (Int×Int))(n:Nat)(d:AA AZ)(e:Int):AB (Int×Int):=AH ((bif 0<(AI d:Int) then AC (AG (16<e))else AC AD):AB Bool) λb2=>(bif b2 then AC (1000,1000)else AH (iter (LZ n d e rec202) n (0,0,0):AB (Int×Int)) λa=>AC (a.1,a.2))
theorem Qbj(rec202:(AA AZ)->Int->AB (Int×Int))(f:∀(k:AA AZ) (l:Int) (r:Int×Int),rec202 k l=AC r->DE prog 45 [.q 8 (map AZ.enc k),I l] [] (λr=>.t [I r.1,I r.2]) r)(n:Nat)(k:AA AZ)(l:Int)(r:Int×Int)(h:gC rec202 n k l=AC r):DE prog 45 [.q 8 (map AZ.enc k),I l] [] (λr=>.t [I r.1,I r.2]) r:=by
 refine QK func45 Z Z Z ?_;refine G0 8 Z (Bd h λb2 m h=>Ct b2 [] [0,1] (λb2=>[(19,.b b2)]) Ze Zf ?_ (λenv H g=>?_))
 .refine G0 2 Z (Lg 2 Z Z (Is 16 m Z (λ_ m=>?_) (λ_ m=>?_)))
  iterate 2 exact Gl 4 Z m []
 refine Gx 1 Z (Eg g (Cn Z h (λ_ h=>?_) (λ_ h=>?_)))
 .refine Gc 8 Z ?_;obtain rfl:=Oi h;exact R2 4 5 Z Z (Lr [])
 refine Gc 18 Z (Bd h λi J h=>Cg i [] [] (λi=>[(6,I i.1),(7,I i.2)]) Ze Zf ?_ ?_)
 .refine G0 1 Z (Lp [] [0,1] (λj=>[(6,I j.1),(7,I j.2.1),(8,I j.2.2)]) Ze J Zf (Lr []) λj V a s=>?_);refine G0 2 Z (Bd a λp d a=>Ct p [] [0,1,6,7,8] (λp=>[(31,.b p)]) Ze Zf ?_ (λenv H g=>?_))
  .refine G0 3 Z (Lg 2 Z Z (Is 24 d Z (λ_ d=>?_) (λ_ d=>?_)))
   .refine Go 4 Z (Is 28 d Z (λ_ d=>?_) (λ_ d=>?_))
    iterate 2 exact Gl 4 Z d []
   .exact Gl 8 Z d []
  refine Gx 1 Z (Eg g (Q8 Z a (λ_ a=>?_) (λ_ a=>?_)))
  .exact Gc 2 Z (Qj a (Gx 1 Z (DM s a (Lr []))))
  refine Gc 8 Z (Bd a λL x a=>Fm x (YP L) Z (Go 4 Z (Cd [] a (f _ _) Z λW P a=>Fg 11 Z Z (Bd a λM y a=>Fm y (YP M) Z (Go 4 Z (Cd [] a (f _ _) Z λX Q a=>Fg 32 Z Z (Bd a λN z a=>Fm z (YP N) Z (Go 2 Z (Cz [] a (Wv _ _) Z λY R a=>Go 3 Z (Bd a λq e a=>Ct q [] [0,1,6,8] (λq=>[(7,I q)]) Ze Zf ?_ (λenv H g=>?_)))))))))))
  .refine G0 0 Z (Cn Z e (λ_ e=>?_) (λ_ e=>?_))
   .exact Gc 4 Z (Bd e λO E e=>Fm E (YP O) Z (Go 2 Z (Cz [] e (oW _ _ _) Z λaa T e=>Gl 3 Z e [])))
   exact Yy 1 Z e []
  exact Gx 2 Z (Eg g (Gc 5 Z (Qg a (Lr []))))
 refine Gc 9 Z ?_;obtain rfl:=Oi h;exact R2 4 5 Z Z (Lr [])
def Pn:Nat->(AA AZ)->Int->AB (Int×Int)
  |0=>λ_ _=>AF
  |n+1=>gC (Pn n) n
theorem oU:∀(a:AA AZ) (d:Int) (r:Int×Int),Pn n a d=AC r->DE prog 45 [.q 8 (map AZ.enc a),I d] [] (λr=>.t [I r.1,I r.2]) r:=by
  induction n with
  |zero=>intro a d r h;cases h
  |succ n ih=>intro a d r h;exact Qbj _ ih n a d r h
def OP(a:AA AZ):AB Bool:=AH (Pn n a 0) λd=>AH ((bif (AI a:Int)<=20 then(bif d.1<=80 then AC (AG (d.2<=300))else AC AD)else AC AD):AB Bool) λe=>AC e
theorem kC(e:AA AZ):Ks (OP n e) 21 [.q 8 (map AZ.enc e)] [] (λr=>.b r):=by
 refine Kg 8 func21 Z Z Z Z λr h=>Cd [] h (oU _ _ _) Z λj i h=>Fg 8 Z Z (Bd h λd a h=>Cg d [] [] (λd=>[(2,.b d)]) Ze Zf ?_ ?_)
 .refine G0 2 Z (Lg 2 Z Z (Is 13 a Z (λ_ a=>?_) (λ_ a=>?_)))
  .refine Go 4 Z (Is 17 a Z (λ_ a=>?_) (λ_ a=>?_))
   iterate 2 exact Gl 5 Z a []
  .exact Gl 9 Z a []
 exact QG 1 Z h 2 []
def J6(d:Bl)(a:Int×Int):AB (Bn (Int×Int) (Bn Int Bool)):=AH ((bif a.2<(AI d.AX:Int) then AC (AG (a.1<=200))else AC AD):AB Bool) λe=>(bif e then AH (Bt d.AX a.2) λf=>AH (Bt d.AX a.2) λg=>AH (Ih n g.Aw) λh=>AH (Bt d.AX a.2) λi=>AH (Po n i.Aw 17) λj=>(bif 16<j then AC (.d (.d AD))else AC (.k (i64.wrap ((i64.wrap (a.1+(AI f.Ao:Int)))+h),i64.wrap (a.2+1))))else AC (.d (.k a.1)))
def N3(a:Bl):AB Bool:=AH (iter (J6 n a) n (i64.wrap ((i64.wrap ((i64.wrap ((i64.wrap ((i64.wrap ((i64.wrap ((AI a.Ar:Int)+(AI a.A8:Int)))+(AI a.AX:Int)))+(AI a.A9:Int)))+(AI a.Aq:Int)))+(AI a.Ae:Int)))+(AI a.A7:Int)),0):AB (Bn Int Bool)) λe=>match e with|.k d=>(AH ((bif d<=200 then(bif (AI a.An:Int)<=100 then AH (OP n a.BK) λf=>AC f else AC AD)else AC AD):AB Bool) λg=>AC g)|.d d=>AC d
theorem jn(q:Bl):Ks (N3 n q) 5 [.a (Bl.c q)] [] (λr=>.b r):=by
 refine Kg 10 func5 Z Z Z Z λr h=>Lg 2 Z Z (Lg 3 Z Z (Lg 3 Z Z (Lg 3 Z Z (Lg 3 Z Z (Lg 3 Z Z (Lg 10 Z Z (Bd h λF G h=>FI (b:=F) [0] [1] (λi=>[(3,I i)]) Ze Zf ?_ (λi env H J j=>?_))))))))
 .refine G0 1 Z (Lp [0] [1] (λk=>[(3,I k.1),(4,I k.2)]) Ze G Zf (Lr [0]) λk O a l=>?_);refine G0 2 Z (Bd a λm f a=>Ct m [0] [1,3,4] (λm=>[(40,.b m)]) Ze Zf ?_ (λenv H j=>?_))
  .refine G0 4 Z (Lg 2 Z Z (Is 37 f Z (λ_ f=>?_) (λ_ f=>?_)))
   iterate 2 exact Gl 4 Z f [0]
  refine Gx 1 Z (Eg j (Q8 Z a (λ_ a=>?_) (λ_ a=>?_)))
  .exact Gc 2 Z (Qj a (Gx 1 Z (Ji l a Z (Lr [0]))))
  refine Gc 5 Z (C5 16 Z (D 4 Z ?_));obtain⟨e,u,a⟩:=Q7 a;refine DS.wo (x:=.rp [.str e.An,.q 3 (map Bo.enc e.Aw),I e.BS,.q 3 (map Bw.c e.Ao),I e.Am]) ?_ ?_
  .exact Ix u GA sizeOf94 Z Wp
  refine D 2 Z ?_;refine DS.wo (x:=I (AI e.Ao:Int)) ?_ ?_
  .exact Uy GH Z Wp
  refine D 4 Z ?_;obtain⟨g,w,a⟩:=Q7 a;refine DS.wo (x:=.rp [.str g.An,.q 3 (map Bo.enc g.Aw),I g.BS,.q 3 (map Bw.c g.Ao),I g.Am]) ?_ ?_
  .exact Ix w GA sizeOf94 Z Wp
  refine D 2 Z ?_;refine Dz [] a (W6 _ _) Z λP L a=>Ei Z (Go 9 Z (Bd a λQ y a=>Iz y Z (Go 2 Z (Cz [] a (oV _ _ _) Z λR M a=>Go 3 Z (Cn Z a (λ_ a=>?_) (λ_ a=>?_))))))
  .refine Gc 8 Z (Qv a ?_);obtain rfl:=Oj l a;exact Gx 1 Z (Qq (Gx 1 Z (Rt h 2 [])))
  exact Gc 8 Z (Qg a (Lr [0]))
 subst J;refine Gx 1 Z (Eg j (Gc 1 Z (Bd h λp d h=>Cg p [] [] (λp=>[(2,.b p)]) Ze Zf ?_ ?_)))
 .refine G0 4 Z (Is 70 d Z (λ_ d=>?_) (λ_ d=>?_))
  .refine Go 2 Z ?_;refine vX (I (AI q.An:Int)) (Jm Z Z EJ Z) ?_ (gT Z);refine Go 3 Z (Is 76 d Z (λ_ d=>?_) (λ_ d=>?_))
   .exact Go 2 Z (Cz [] d (kC _ _) Z λT N d=>Gl 3 Z d [])
   .exact Gl 6 Z d []
  .exact Gl 12 Z d []
 exact QG 1 Z h 2 []
def NG(n:Nat)(d:Bp)(a:Int):AB (Bn Int (Bn Unit Bool)):=(bif a<(AI d.BB:Int) then AH (Bt d.BB a) λe=>(bif 12<(AI e:Int) then AC (.d (.d AD))else AC (.k (i64.wrap (a+1))))else AC (.d (.k ())))
def OQ(d:Bp):AB Bool:=AH ((bif 8<(AI d.AR:Int) then AC AE else AC (AG (10<(AI d.BB:Int)))):AB Bool) λb2=>(bif b2 then AC AD else AH (iter (NG n d) n 0:AB (Bn Unit Bool)) λe=>match e with|.k a=>(AC AE)|.d a=>AC a)
theorem kD(k:Bp):Ks (OQ n k) 6 [.a (Bp.c k)] [] (λr=>.b r):=by
 refine Kg 8 func6 Z Z Z Z λr h=>Bd h λb2 d h=>Ct b2 [0] [1] (λb2=>[(13,.b b2)]) Ze Zf ?_ (λenv H l=>?_)
 .refine G0 3 Z (Lg 2 Z Z (Is 8 d Z (λ_ d=>?_) (λ_ d=>?_)))
  .exact Gl 6 Z d [0]
  .exact Go 2 Z (Lm Z (Gl 3 Z d [0]))
 refine Gx 1 Z (Eg l (Cn Z h (λ_ h=>?_) (λ_ h=>?_)))
 .exact QG 7 Z h 2 []
 refine Gc 8 Z (Bd h λq s h=>DF (b:=q) [] [] Ze Ze Zf ?_ (λ_ t=>?_))
 .refine G0 1 Z (Lp [0] [1] (λf=>[(3,I f)]) Ze s Zf (Lr [0]) λf w a e=>?_);refine G0 6 Z (Lg 3 Z Z (Q8 Z a (λ_ a=>?_) (λ_ a=>?_)))
  .exact Gc 2 Z (Qj a (Gx 1 Z (Ji e a Z (Lr []))))
  refine Gc 9 Z (Bd a λx i a=>Iz i Z (Go 1 Z (Lg 3 Z Z (Cn Z a (λ_ a=>?_) (λ_ a=>?_)))))
  .refine Gc 8 Z (Qv a ?_);obtain rfl:=Oj e a;exact Gx 1 Z (Qq (Gx 1 Z (Rt h 2 [])))
  exact Gc 8 Z (Qg a (Lr [0]))
 subst t;exact QG 6 Z h 2 []
def R9(e:Bl)(a:Int):AB (Bn Int (Bn Unit Bool)):=(bif a<(AI e.AX:Int) then AH (Bt e.AX a) λd=>AH ((bif 64<(AI d.Ao:Int) then AC AE else AH (Po n d.Aw 17) λf=>(bif 16<f then AC AE else AH (Ih n d.Aw) λg=>AC (AG (256<g)))):AB Bool) λh=>(bif h then AC (.d (.d AD))else AC (.k (i64.wrap (a+1))))else AC (.d (.k ())))
def N8(a:Bl):AB Bool:=AH ((bif 40<(AI a.Ar:Int) then AC AE else(bif 512<(AI a.A8:Int) then AC AE else(bif 8<(AI a.AX:Int) then AC AE else(bif 32<(AI a.A9:Int) then AC AE else(bif 32<(AI a.Aq:Int) then AC AE else(bif 32<(AI a.Ae:Int) then AC AE else AC (AG (32<(AI a.A7:Int))))))))):AB Bool) λf=>(bif f then AC AD else AH (iter (R9 n a) n 0:AB (Bn Unit Bool)) λe=>match e with|.k d=>(AC AE)|.d d=>AC d)
theorem js(z:Bl):Ks (N8 n z) 63 [.a (Bl.c z)] [] (λr=>.b r):=by
 refine Kg 8 func63 Z Z Z Z λr h=>Bd h λj a h=>Ct j [0] [1] (λj=>[(44,.b j)]) Ze Zf ?_ (λenv H B=>?_)
 .refine G0 3 Z (Lg 2 Z Z (Is 9 a Z (λ_ a=>?_) (λ_ a=>?_)))
  .exact Gl 36 Z a [0]
  .refine Go 2 Z (Lg 3 Z Z (Is 15 a Z (λ_ a=>?_) (λ_ a=>?_)))
   .exact Gl 30 Z a [0]
   .refine Go 2 Z (Lg 3 Z Z (Is 21 a Z (λ_ a=>?_) (λ_ a=>?_)))
    .exact Gl 24 Z a [0]
    .refine Go 2 Z (Lg 3 Z Z (Is 27 a Z (λ_ a=>?_) (λ_ a=>?_)))
     .exact Gl 18 Z a [0]
     .refine Go 2 Z (Lg 3 Z Z (Is 33 a Z (λ_ a=>?_) (λ_ a=>?_)))
      .exact Gl 12 Z a [0]
      .refine Go 2 Z (Lg 3 Z Z (Is 39 a Z (λ_ a=>?_) (λ_ a=>?_)))
       .exact Gl 6 Z a [0]
       .exact Go 2 Z (Lm Z (Gl 3 Z a [0]))
 refine Gx 1 Z (Eg B (Cn Z h (λ_ h=>?_) (λ_ h=>?_)))
 .exact QG 7 Z h 2 []
 refine Gc 8 Z (Bd h λF G h=>DF (b:=F) [] [] Ze Ze Zf ?_ (λ_ J=>?_))
 .refine G0 1 Z (Lp [0] [1] (λi=>[(3,I i)]) Ze G Zf (Lr [0]) λi O d f=>?_);refine G0 6 Z (Lg 3 Z Z (Q8 Z d (λ_ d=>?_) (λ_ d=>?_)))
  .exact Gc 2 Z (Qj d (Gx 1 Z (Ji f d Z (Lr []))))
  refine Gc 9 Z (Bd d λP u d=>Iz u Z (Go 6 Z (Bd d λg e d=>Cg g [0] [1,3] (λg=>[(72,.b g)]) Ze Zf ?_ ?_)))
  .refine G0 3 Z (Lg 2 Z Z (Is 61 e Z (λ_ e=>?_) (λ_ e=>?_)))
   .exact Gl 12 Z e [0]
   .refine Go 2 Z (Cz [] e (oV _ _ _) Z λQ M e=>Go 3 Z (Is 67 e Z (λ_ e=>?_) (λ_ e=>?_)))
    .exact Gl 6 Z e [0]
    .exact Go 2 Z (Cz [] e (W6 _ _) Z λR N e=>Gl 3 Z e [0])
  refine Cn Z d (λ_ d=>?_) (λ_ d=>?_)
  .refine Gc 8 Z (Qv d ?_);obtain rfl:=Oj f d;exact Gx 1 Z (Qq (Gx 1 Z (Rt h 2 [])))
  exact Gc 8 Z (Qg d (Lr [0]))
 subst J;exact QG 6 Z h 2 []
def Nr(n:Nat)(a:AA UInt8):AB Bool:=AH ((bif (a==[99,111,117,114,115,101])then AC (a==[99,111,117,114,115,101])else(bif (a==[109,97,116,115])then AC (a==[109,97,116,115])else(bif (a==[115,116,97,114,116])then AC (a==[115,116,97,114,116])else(bif (a==[112,97,115,115])then AC (a==[112,97,115,115])else(bif (a==[101,110,100])then AC (a==[101,110,100])else(bif (a==[108,101,103])then AC (a==[108,101,103])else(bif (a==[116,111])then AC (a==[116,111])else(bif (a==[100,105,115,116,97,110,99,101])then AC (a==[100,105,115,116,97,110,99,101])else(bif (a==[103,117,110])then AC (a==[103,117,110])else(bif (a==[99,104,105,112])then AC (a==[99,104,105,112])else(bif (a==[115,108,111,116])then AC (a==[115,108,111,116])else(bif (a==[108,97,112,115])then AC (a==[108,97,112,115])else(bif (a==[108,97,112])then AC (a==[108,97,112])else(bif (a==[99,117,116,111,102,102])then AC (a==[99,117,116,111,102,102])else(bif (a==[101,120,116,114,97])then AC (a==[101,120,116,114,97])else(bif (a==[119,97,118,101])then AC (a==[119,97,118,101])else(bif (a==[111,102,102,101,110,99,101])then AC (a==[111,102,102,101,110,99,101])else(bif (a==[111,117,116])then AC (a==[111,117,116])else(bif (a==[99,97,116,101,103,111,114,121])then AC (a==[99,97,116,101,103,111,114,121])else(bif (a==[112,114,105,122,101])then AC (a==[112,114,105,122,101])else(bif (a==[97,108,108])then AC (a==[97,108,108])else AC (a==[116,105,101,115])))))))))))))))))))))):AB Bool) λd=>(bif d then AC AE else AH ((bif (a==[105,102])then AC (a==[105,102])else(bif (a==[101,108,115,101])then AC (a==[101,108,115,101])else(bif (a==[97,110,100])then AC (a==[97,110,100])else(bif (a==[111,114])then AC (a==[111,114])else(bif (a==[110,111,116])then AC (a==[110,111,116])else(bif (a==[111,108,100,101,114])then AC (a==[111,108,100,101,114])else(bif (a==[121,111,117,110,103,101,114])then AC (a==[121,111,117,110,103,101,114])else(bif (a==[98,105,98])then AC (a==[98,105,98])else(bif (a==[100,114,97,119])then AC (a==[100,114,97,119])else(bif (a==[102,105,101,108,100])then AC (a==[102,105,101,108,100])else(bif (a==[115,104,111,114,116])then AC (a==[115,104,111,114,116])else(bif (a==[102,97,117,108,116,115])then AC (a==[102,97,117,108,116,115])else(bif (a==[109,105,115,115,101,115])then AC (a==[109,105,115,115,101,115])else(bif (a==[115,116,114,97,121,115])then AC (a==[115,116,114,97,121,115])else(bif (a==[119,105,110,100,111,119])then AC (a==[119,105,110,100,111,119])else(bif (a==[114,101,115,105,100,117,97,108])then AC (a==[114,101,115,105,100,117,97,108])else(bif (a==[100,114,105,102,116])then AC (a==[100,114,105,102,116])else(bif (a==[112,114,111,116,101,115,116])then AC (a==[112,114,111,116,101,115,116])else(bif (a==[102,101,101])then AC (a==[102,101,101])else AC (a==[100,101,97,100,108,105,110,101])))))))))))))))))))):AB Bool) λe=>(bif e then AC AE else AC AD))
theorem jb(a1:AA UInt8):Ks (Nr n a1) 186 [.str a1] [] (λr=>.b r):=by
 refine Kg 19 func186 Z Z Z Z λr h=>Bd h λe a h=>Ct e [] [3] (λe=>[(4,.b e)]) Ze Zf ?_ (λenv H ak=>?_)
 .refine G0 0 Z (Cn Z a (λ_ a=>?_) (λ_ a=>?_))
  .exact Yy 1 Z a []
  iterate 20 (refine Gc 6 Z (Cn Z a (λ_ a=>?_) (λ_ a=>?_));exact Yy 1 Z a [])
  exact Yy 4 Z a []
 refine Gx 1 Z (Eg ak (Cn Z h (λ_ h=>?_) (λ_ h=>?_)))
 .exact QG 8 Z h 2 []
 refine Gc 7 Z (Bd h λf d h=>Cg f [] [] (λf=>[(27,.b f)]) Ze Zf ?_ ?_)
 .refine G0 0 Z (Cn Z d (λ_ d=>?_) (λ_ d=>?_))
  .exact Yy 1 Z d []
  iterate 18 (refine Gc 6 Z (Cn Z d (λ_ d=>?_) (λ_ d=>?_));exact Yy 1 Z d [])
  exact Yy 4 Z d []
 refine Cn Z h (λ_ h=>?_) (λ_ h=>?_)
 .exact QG 8 Z h 2 []
 exact QG 9 Z h 2 []
def SW(n:Nat)(d:AA UInt8)(a:Int):AB (Bn Int (Bn Unit Bool)):=(bif a<(AI d:Int) then AH (AH (Bt d a) λe=>(bif (e.toNat:Int)<97 then AH (Bt d a) λf=>(bif (f.toNat:Int)<48 then AH (Bt d a) λg=>AC ((g.toNat:Int) != 95)else AH (Bt d a) λh=>(bif 57<(h.toNat:Int) then AH (Bt d a) λi=>AC ((i.toNat:Int) != 95)else AC AD))else AH (Bt d a) λj=>(bif 122<(j.toNat:Int) then AH (Bt d a) λk=>(bif (k.toNat:Int)<48 then AH (Bt d a) λl=>AC ((l.toNat:Int) != 95)else AH (Bt d a) λm=>(bif 57<(m.toNat:Int) then AH (Bt d a) λp=>AC ((p.toNat:Int) != 95)else AC AD))else AC AD)):AB Bool) λq=>(bif q then AC (.d (.d AD))else AC (.k (i64.wrap (a+1))))else AC (.d (.k ())))
def Oe(a:AA UInt8):AB Bool:=AH ((bif (AI a:Int)<1 then AC AE else(bif 24<(AI a:Int) then AC AE else AH (Bt a 0) λf=>(bif (f.toNat:Int)<97 then AC AE else AH (Bt a 0) λg=>AC (AG (122<(g.toNat:Int)))))):AB Bool) λi=>(bif i then AC AD else AH (iter (SW n a) n 1:AB (Bn Unit Bool)) λh=>match h with|.k d=>(AH (Nr n a) λe=>AC (!e))|.d d=>AC d)
theorem Wf(g:AA UInt8):Ks (Oe n g) 130 [.str g] [] (λr=>.b r):=by
 refine Kg 7 func130 Z Z Z Z λr h=>Bd h λL e h=>Ct L [] [0] (λL=>[(21,.b L)]) Ze Zf ?_ (λenv H ae=>?_)
 .refine G0 2 Z ?_;refine vX (I (AI g:Int)) (Jm Z Z EJ Z) ?_;refine Go 2 Z (Is 7 e Z (λ_ e=>?_) (λ_ e=>?_))
  .exact Gl 15 Z e []
  .refine Go 1 Z ?_;refine vX (I (AI g:Int)) (Jm Z Z EJ Z) ?_ (gT Z);refine Go 3 Z (Is 12 e Z (λ_ e=>?_) (λ_ e=>?_))
   .exact Gl 10 Z e []
   .refine Go 1 Z (Bd e λah M e=>?_);refine vX (.i .u8 (ah.toNat:Int)) (Q3 M EJ) ?_ (gT Z);refine Go 3 Z (Is 17 e Z (λ_ e=>?_) (λ_ e=>?_))
    .exact Gl 5 Z e []
    .refine Go 1 Z (Bd e λai O e=>?_);refine vX (.i .u8 (ai.toNat:Int)) (Q3 O EJ) ?_ (gT Z);exact Gl 3 Z e []
 refine Gx 1 Z (Eg ae (Cn Z h (λ_ h=>?_) (λ_ h=>?_)))
 .exact QG 7 Z h 2 []
 refine Gc 8 Z (Bd h λaj ak h=>DF (b:=aj) [] [0] Ze Ze Zf ?_ (λ_ al=>?_))
 .refine G0 1 Z (Lp [] [0] (λJ=>[(3,I J)]) Ze ak Zf (Lr []) λJ aq d i=>?_);refine G0 5 Z ?_;refine vX (I (AI g:Int)) (Jm Z Z EJ Z) ?_;refine Go 3 Z (Q8 Z d (λ_ d=>?_) (λ_ d=>?_))
  .exact Gc 2 Z (Qj d (Gx 1 Z (Ji i d Z (Lr []))))
  refine Gc 5 Z (Bd d λf a d=>Cg f [] [0,3] (λf=>[(55,.b f)]) Ze Zf ?_ ?_)
  .refine G0 3 Z (Bd a λR j a=>?_);refine vX (.i .u8 (R.toNat:Int)) (Q3 j EJ) ?_;refine Go 2 Z (Is 32 a Z (λ_ a=>?_) (λ_ a=>?_))
   .refine Go 8 Z (Bd a λT l a=>?_);refine vX (.i .u8 (T.toNat:Int)) (Q3 l EJ) ?_ (gT Z);refine Go 2 Z (Is 43 a Z (λ_ a=>?_) (λ_ a=>?_))
    .refine Go 9 Z (Bd a λV p a=>?_);refine vX (.i .u8 (V.toNat:Int)) (Q3 p EJ) ?_ (gT Z);exact Gl 3 Z a []
    .refine Go 2 Z (Bd a λW q a=>?_);refine vX (.i .u8 (W.toNat:Int)) (Q3 q EJ) ?_ (gT Z);refine Go 4 Z (Is 50 a Z (λ_ a=>?_) (λ_ a=>?_))
     .refine Go 2 Z (Bd a λX t a=>?_);refine vX (.i .u8 (X.toNat:Int)) (Q3 t EJ) ?_ (gT Z);exact Gl 3 Z a []
     .exact Gl 6 Z a []
   .refine Go 2 Z (Bd a λY u a=>?_);refine vX (.i .u8 (Y.toNat:Int)) (Q3 u EJ) ?_ (gT Z);refine Go 3 Z (Is 38 a Z (λ_ a=>?_) (λ_ a=>?_))
    .refine Go 2 Z (Bd a λaa x a=>?_);refine vX (.i .u8 (aa.toNat:Int)) (Q3 x EJ) ?_ (gT Z);refine Go 2 Z (Is 43 a Z (λ_ a=>?_) (λ_ a=>?_))
     .refine Go 9 Z (Bd a λab z a=>?_);refine vX (.i .u8 (ab.toNat:Int)) (Q3 z EJ) ?_ (gT Z);exact Gl 3 Z a []
     .refine Go 2 Z (Bd a λac B a=>?_);refine vX (.i .u8 (ac.toNat:Int)) (Q3 B EJ) ?_ (gT Z);refine Go 4 Z (Is 50 a Z (λ_ a=>?_) (λ_ a=>?_))
      .refine Go 2 Z (Bd a λad F a=>?_);refine vX (.i .u8 (ad.toNat:Int)) (Q3 F EJ) ?_ (gT Z);exact Gl 3 Z a []
      .exact Gl 6 Z a []
    .exact Gl 18 Z a []
  refine Cn Z d (λ_ d=>?_) (λ_ d=>?_)
  .refine Gc 8 Z (Qv d ?_);obtain rfl:=Oj i d;exact Gx 1 Z (Qq (Gx 1 Z (Rt h 2 [])))
  exact Gc 8 Z (Qg d (Lr []))
 subst al;exact Gc 3 Z (Cz [] h (jb _ _) Z λao am h=>Gt 5 Z h 2 [])
def LP(n:Nat)(e:AA (AA UInt8))(d:Int)(a:Int):AB (Bn Int (Bn Unit (Bn Int (Bn Unit Bool)))):=(bif a<d then AH (Bt e a) λf=>AH (Bt e d) λg=>(bif (f==g)then AC (.d (.d (.d (.d AD))))else AC (.k (i64.wrap (a+1))))else AC (.d (.k ())))
def SN(e:AA (AA UInt8))(a:Int):AB (Bn Int (Bn Unit Bool)):=(bif a<(AI e:Int) then AH (Bt e a) λf=>AH (Oe n f) λg=>(bif (!g)then AC (.d (.d AD))else AH (iter (LP n e a) n 0:AB (Bn Unit (Bn Int (Bn Unit Bool)))) λh=>match h with|.k d=>(AC (.k (i64.wrap (a+1))))|.d d=>AC d)else AC (.d (.k ())))
def Pj(e:AA (AA UInt8)):AB Bool:=AH (iter (SN n e) n 0:AB (Bn Unit Bool)) λd=>match d with|.k a=>(AC AE)|.d a=>AC a
theorem WU(u:AA (AA UInt8)):Ks (Pj n u) 131 [.q 1 (map JM u)] [] (λr=>.b r):=by
 refine Kg 11 func131 Z Z Z Z λr h=>Bd h λw y h=>DF (b:=w) [] [] Ze Ze Zf ?_ (λ_ f=>?_)
 .refine G0 1 Z (Lp [] [0] (λi=>[(3,I i)]) Ze y Zf (Lr []) λi N a e=>?_);refine G0 5 Z (Lg 3 Z Z (Q8 Z a (λ_ a=>?_) (λ_ a=>?_)))
  .exact Gc 2 Z (Qj a (Gx 1 Z (Ji e a Z (Lr []))))
  refine Gc 9 Z (Bd a λO l a=>Iz l Z (Go 1 Z (Cz [] a (Wf _ _) Z λP L a=>Go 3 Z (Cn Z a (λ_ a=>?_) (λ_ a=>?_)))))
  .refine Gc 9 Z (Qv a ?_);obtain rfl:=Oj e a;exact Gx 1 Z (Qq (Gx 1 Z (Rt h 2 [])))
  refine Gc 7 Z (Bd a λz B a=>FI (b:=z) [] [0,3] Ze Ze Zf ?_ (λM env H f E=>?_))
  .refine G0 1 Z (Lp [] [0,3] (λj=>[(4,I j)]) Ze B Zf (Lr []) λj Q d g=>?_);refine G0 8 Z (Q8 Z d (λ_ d=>?_) (λ_ d=>?_))
   .exact Gc 2 Z (Qj d (Gx 1 Z (Ji g d Z (Lr []))))
   refine Gc 5 Z (C5 8 Z (D 2 Z ?_));obtain⟨F,q,d⟩:=Q7 d;refine DS.wo (x:=.rp [.str F]) ?_ ?_
   .exact Ix q EZ GT Z Wp
   refine D 3 Z ?_;obtain⟨G,s,d⟩:=Q7 d;refine DS.wo (x:=.rp [.str G]) ?_ ?_
   .exact Ix s EZ GT Z Wp
   refine D 1 Z (Ei Z (Go 3 Z (Cn Z d (λ_ d=>?_) (λ_ d=>?_))))
   .refine Gc 8 Z (Qv d ?_);obtain rfl:=Oj g d;refine Gx 1 Z (Qq (Gx 2 Z (Qv a ?_)));obtain rfl:=Oj e a;exact Gx 1 Z (Qq (Gx 1 Z (Rt h 2 [])))
   exact Gc 8 Z (Qg d (Lr []))
  subst f;exact Gx 2 Z (Eg E (Gc 5 Z (Qg a (Lr []))))
 subst f;exact QG 6 Z h 2 []
def nu(n:Nat)(d:Bl)(a:(AA (AA UInt8))×Int):AB (Bn ((AA (AA UInt8))×Int) (AA (AA UInt8))):=(bif a.2<(AI d.Ar:Int) then AH (Bt d.Ar a.2) λe=>AH (app a.1 [e.An]) λf=>AC (.k (f,i64.wrap (a.2+1)))else AC (.d a.1))
def oC(n:Nat)(d:Bl)(a:(AA (AA UInt8))×Int):AB (Bn ((AA (AA UInt8))×Int) (AA (AA UInt8))):=(bif a.2<(AI d.AX:Int) then AH (Bt d.AX a.2) λe=>AH (app a.1 [e.An]) λf=>AC (.k (f,i64.wrap (a.2+1)))else AC (.d a.1))
def nw(n:Nat)(d:Bl)(a:(AA (AA UInt8))×Int):AB (Bn ((AA (AA UInt8))×Int) (AA (AA UInt8))):=(bif a.2<(AI d.A9:Int) then AH (Bt d.A9 a.2) λe=>AH (app a.1 [e.An]) λf=>AC (.k (f,i64.wrap (a.2+1)))else AC (.d a.1))
def oB(n:Nat)(d:Bl)(a:(AA (AA UInt8))×Int):AB (Bn ((AA (AA UInt8))×Int) (AA (AA UInt8))):=(bif a.2<(AI d.Aq:Int) then AH (Bt d.Aq a.2) λe=>AH (app a.1 [e.An]) λf=>AC (.k (f,i64.wrap (a.2+1)))else AC (.d a.1))
def n7(n:Nat)(d:Bl)(a:(AA (AA UInt8))×Int):AB (Bn ((AA (AA UInt8))×Int) (AA (AA UInt8))):=(bif a.2<(AI d.Ae:Int) then AH (Bt d.Ae a.2) λe=>AH (app a.1 [e.An]) λf=>AC (.k (f,i64.wrap (a.2+1)))else AC (.d a.1))
def TY(a:Bl):AB Bool:=AH (iter (nu n a) n (([]:AA (AA UInt8)),0):AB (AA (AA UInt8))) λq=>AH (iter (oC n a) n (([]:AA (AA UInt8)),0):AB (AA (AA UInt8))) λg=>AH (iter (nw n a) n (([]:AA (AA UInt8)),0):AB (AA (AA UInt8))) λh=>AH (iter (oB n a) n (([]:AA (AA UInt8)),0):AB (AA (AA UInt8))) λi=>AH (iter (n7 n a) n (([]:AA (AA UInt8)),0):AB (AA (AA UInt8))) λj=>AH (AH (Oe n a.An) λk=>(bif k then AH (Pj n q) λl=>(bif l then AH (Pj n g) λm=>(bif m then AH (Pj n h) λd=>(bif d then AH (Pj n i) λe=>(bif e then AH (Pj n j) λf=>AC f else AC AD)else AC AD)else AC AD)else AC AD)else AC AD):AB Bool) λp=>AC p
theorem jR(a1:Bl):Ks (TY n a1) 64 [.a (Bl.c a1)] [] (λr=>.b r):=by
 refine Kg 8 func64 Z Z Z Z λr h=>vH (Em (xs:=[]) (es:=map JM []) JJ Z Z Z Z Z trivial Z Z) ?_;refine Fg 9 Z Z (Bd h λz h9 h=>Ct z [0,1] [1] (λz=>[(3,.o 1 (AI z) 1)]) (λz=>[(1,.r 9 1 (map JM z))]) Zf ?_ (λenv H l=>?_))
 .refine G0 1 Z (Lp [0,1] [1] (λm=>[(3,.o 1 (AI m.1) 1),(4,I m.2)]) (λm=>[(1,.r 9 1 (map JM m.1))]) h9 Zf (Lr [0,1]) λm be d G=>?_);refine G0 6 Z (Lg 3 Z Z (Q8 Z d (λ_ d=>?_) (λ_ d=>?_)))
  .exact Gc 2 Z (Qj d (Gx 1 Z (DM G d (Lr [0,1]))))
  refine Gc 9 Z (Bd d λaj L d=>Iz L Z (Go 2 Z (vH (Em (xs:=[.tmp 27]) (es:=map JM [aj.An]) JJ Z Z Z Z Z ⟨Z,trivial⟩ Z Z) ?_)));refine FE Z (Bd d λbg M d=>vH (Qu (e:=JM) M JJ EZ (QS (i:=2))) ?_);exact Fg 9 Z Z (Qg d (Lr [0,3]))
 refine Gx 1 Z (Eg l (Gc 2 Z (vH (Em (xs:=[]) (es:=map JM []) JJ Z Z Z Z Z trivial Z Z) ?_)));refine Fg 9 Z Z (Bd h λp ak h=>Ct p [0,1,2] [1,3] (λp=>[(5,.o 2 (AI p) 1)]) (λp=>[(2,.r 9 1 (map JM p))]) Zf ?_ (λenv H l=>?_))
 .refine G0 1 Z (Lp [0,1,2] [1,3] (λq=>[(5,.o 2 (AI q.1) 1),(6,I q.2)]) (λq=>[(2,.r 9 1 (map JM q.1))]) ak Zf (Lr [0,1,2]) λq bh f N=>?_);refine G0 6 Z (Lg 3 Z Z (Q8 Z f (λ_ f=>?_) (λ_ f=>?_)))
  .exact Gc 2 Z (Qj f (Gx 1 Z (DM N f (Lr [0,1,2]))))
  refine Gc 9 Z (Bd f λal P f=>Iz P Z (Go 2 Z (vH (Em (xs:=[.tmp 44]) (es:=map JM [al.An]) JJ Z Z Z Z Z ⟨Z,trivial⟩ Z Z) ?_)));refine FE Z (Bd f λbi Q f=>vH (Qu (e:=JM) Q JJ EZ (QS (i:=3))) ?_);exact Fg 9 Z Z (Qg f (Lr [0,1,4]))
 refine Gx 1 Z (Eg l (Gc 2 Z (vH (Em (xs:=[]) (es:=map JM []) JJ Z Z Z Z Z trivial Z Z) ?_)));refine Fg 9 Z Z (Bd h λs am h=>Ct s [0,1,2,3] [1,3,5] (λs=>[(7,.o 3 (AI s) 1)]) (λs=>[(3,.r 9 1 (map JM s))]) Zf ?_ (λenv H l=>?_))
 .refine G0 1 Z (Lp [0,1,2,3] [1,3,5] (λt=>[(7,.o 3 (AI t.1) 1),(8,I t.2)]) (λt=>[(3,.r 9 1 (map JM t.1))]) am Zf (Lr [0,1,2,3]) λt bj g R=>?_);refine G0 6 Z (Lg 3 Z Z (Q8 Z g (λ_ g=>?_) (λ_ g=>?_)))
  .exact Gc 2 Z (Qj g (Gx 1 Z (DM R g (Lr [0,1,2,3]))))
  refine Gc 9 Z (Bd g λan V g=>Iz V Z (Go 2 Z (vH (Em (xs:=[.tmp 61]) (es:=map JM [an.An]) JJ Z Z Z Z Z ⟨Z,trivial⟩ Z Z) ?_)));refine FE Z (Bd g λbk W g=>vH (Qu (e:=JM) W JJ EZ (QS (i:=4))) ?_);exact Fg 9 Z Z (Qg g (Lr [0,1,2,5]))
 refine Gx 1 Z (Eg l (Gc 2 Z (vH (Em (xs:=[]) (es:=map JM []) JJ Z Z Z Z Z trivial Z Z) ?_)));refine Fg 9 Z Z (Bd h λu ao h=>Ct u [0,1,2,3,4] [1,3,5,7] (λu=>[(9,.o 4 (AI u) 1)]) (λu=>[(4,.r 9 1 (map JM u))]) Zf ?_ (λenv H l=>?_))
 .refine G0 1 Z (Lp [0,1,2,3,4] [1,3,5,7] (λw=>[(9,.o 4 (AI w.1) 1),(10,I w.2)]) (λw=>[(4,.r 9 1 (map JM w.1))]) ao Zf (Lr [0,1,2,3,4]) λw bl j X=>?_);refine G0 6 Z (Lg 3 Z Z (Q8 Z j (λ_ j=>?_) (λ_ j=>?_)))
  .exact Gc 2 Z (Qj j (Gx 1 Z (DM X j (Lr [0,1,2,3,4]))))
  refine Gc 9 Z (Bd j λaq aa j=>Iz aa Z (Go 2 Z (vH (Em (xs:=[.tmp 78]) (es:=map JM [aq.An]) JJ Z Z Z Z Z ⟨Z,trivial⟩ Z Z) ?_)));refine FE Z (Bd j λbm ab j=>vH (Qu (e:=JM) ab JJ EZ (QS (i:=5))) ?_);exact Fg 9 Z Z (Qg j (Lr [0,1,2,3,6]))
 refine Gx 1 Z (Eg l (Gc 2 Z (vH (Em (xs:=[]) (es:=map JM []) JJ Z Z Z Z Z trivial Z Z) ?_)));refine Fg 9 Z Z (Bd h λx ar h=>Ct x [0,1,2,3,4,5] [1,3,5,7,9] (λx=>[(11,.o 5 (AI x) 1)]) (λx=>[(5,.r 9 1 (map JM x))]) Zf ?_ (λenv H l=>?_))
 .refine G0 1 Z (Lp [0,1,2,3,4,5] [1,3,5,7,9] (λy=>[(11,.o 5 (AI y.1) 1),(12,I y.2)]) (λy=>[(5,.r 9 1 (map JM y.1))]) ar Zf (Lr [0,1,2,3,4,5]) λy bn k ac=>?_);refine G0 6 Z (Lg 3 Z Z (Q8 Z k (λ_ k=>?_) (λ_ k=>?_)))
  .exact Gc 2 Z (Qj k (Gx 1 Z (DM ac k (Lr [0,1,2,3,4,5]))))
  refine Gc 9 Z (Bd k λau ae k=>Iz ae Z (Go 2 Z (vH (Em (xs:=[.tmp 95]) (es:=map JM [au.An]) JJ Z Z Z Z Z ⟨Z,trivial⟩ Z Z) ?_)));refine FE Z (Bd k λbo af k=>vH (Qu (e:=JM) af JJ EZ (QS (i:=6))) ?_);exact Fg 9 Z Z (Qg k (Lr [0,1,2,3,4,7]))
 refine Gx 1 Z (Eg l (Gc 1 Z (Bd h λB a h=>Cg B [] [] (λB=>[(2,.b B)]) Ze Zf ?_ ?_)))
 .refine G0 3 Z (Cz [] a (Wf _ _) Z λbq ay a=>Go 1 Z (Is 101 a Z (λ_ a=>?_) (λ_ a=>?_)))
  .refine Go 1 Z (Cb a (WU _ _) Z (lo ln) λbr az a=>Go 2 Z (Is 105 a Z (λ_ a=>?_) (λ_ a=>?_)))
   .refine Go 1 Z (Cb a (WU _ _) Z (lo ln) λbs ba a=>Go 2 Z (Is 109 a Z (λ_ a=>?_) (λ_ a=>?_)))
    .refine Go 1 Z (Cb a (WU _ _) Z (lo ln) λbb av a=>Go 2 Z (Is 113 a Z (λ_ a=>?_) (λ_ a=>?_)))
     .refine Go 1 Z (Cb a (WU _ _) Z (lo ln) λbc aw a=>Go 2 Z (Is 117 a Z (λ_ a=>?_) (λ_ a=>?_)))
      .exact Go 1 Z (Cb a (WU _ _) Z (lo ln) λbd ax a=>Gl 3 Z a [])
      .exact Gl 5 Z a []
     .exact Gl 9 Z a []
    .exact Gl 13 Z a []
   .exact Gl 17 Z a []
  .exact Gl 21 Z a []
 exact QG 1 Z h 2 []
def Fo(n:Nat)(a:Int)(d:Int)(e:Int):AB Bool:=AH ((bif d<=a then AC (AG (a<=e))else AC AD):AB Bool) λb2=>AC b2
theorem HM(d:Int)(e:Int)(f:Int):Ks (Fo n d e f) 132 [I d,I e,I f] [] (λr=>.b r):=by
 refine Kg 6 func132 Z Z Z Z λr h=>Bd h λb2 a h=>Cg b2 [] [] (λb2=>[(6,.b b2)]) Ze Zf ?_ ?_
 .refine G0 5 Z (Is 10 a Z (λ_ a=>?_) (λ_ a=>?_))
  iterate 2 exact Gl 6 Z a []
 exact QG 1 Z h 6 []
def K3(a:Bl)(d:Int):AB Bool:=AH (Fo n d 0 (i64.wrap ((AI a.Ar:Int)-1))) λe=>AC e
theorem WX(a:Bl)(d:Int):Ks (K3 n a d) 133 [.a (Bl.c a),I d] [] (λr=>.b r):=by
 exact Kg 11 func133 Z Z Z Z λr h=>Lg 1 Z Z (Cz [] h (HM _ _ _ _) Z λf e h=>Gt 4 Z h 4 [])
def NX(e:Bl)(f:AA Bo)(rec219:Bl->(AA Bo)->AB Bool)(d:Int):AB (Bn Int (Bn Unit Bool)):=(bif d<(AI f:Int) then AH (Bt f d) λa=>AH ((bif (a.Ax==0)then AH (K3 n e a.Ag) λg=>(bif g then AC ((AI a.Ac:Int)==0)else AC AD)else AC AD):AB Bool) λh=>AH (AH (Fo n a.Ax 1 64) λi=>(bif i then(bif (a.Ag==0)then(bif 0<(AI a.Ac:Int) then AH (rec219 e a.Ac) λj=>AC j else AC AD)else AC AD)else AC AD):AB Bool) λk=>AH ((bif (!h)then AC (!k)else AC AD):AB Bool) λl=>(bif l then AC (.d (.d AD))else AC (.k (i64.wrap (d+1))))else AC (.d (.k ())))
def Ox(rec219:Bl->(AA Bo)->AB Bool)(n:Nat)(e:Bl)(f:AA Bo):AB Bool:=AH (iter (NX n e f rec219) n 0:AB (Bn Unit Bool)) λd=>match d with|.k a=>(AC AE)|.d a=>AC a
theorem QaV(rec219:Bl->(AA Bo)->AB Bool)(g:∀(i:Bl) (j:AA Bo) (r:Bool),rec219 i j=AC r->DE prog 187 [.a (Bl.c i),.q 3 (map Bo.enc j)] [] (λr=>.b r) r)(n:Nat)(i:Bl)(j:AA Bo)(r:Bool)(h:Ox rec219 n i j=AC r):DE prog 187 [.a (Bl.c i),.q 3 (map Bo.enc j)] [] (λr=>.b r) r:=by
 refine QK func187 Z Z Z ?_;refine G0 12 Z (Bd h λG J h=>DF (b:=G) [] [] Ze Ze Zf ?_ (λ_ L=>?_))
 .refine G0 1 Z (Lp [0] [1,2] (λs=>[(5,I s)]) Ze J Zf (Lr [0]) λs R a k=>?_);refine G0 5 Z (Lg 3 Z Z (Q8 Z a (λ_ a=>?_) (λ_ a=>?_)))
  .exact Gc 2 Z (Qj a (Gx 1 Z (Ji k a Z (Lr []))))
  refine Gc 8 Z (Bd a λM u a=>Fm u (Yi M) Z (Go 6 Z (Bd a λl e a=>Ct l [0,1] [1,2,5,6] (λl=>[(7,.b l)]) Ze Zf ?_ (λenv H m=>?_))))
  .refine G0 5 Z (Is 22 e Z (λ_ e=>?_) (λ_ e=>?_))
   .refine Go 3 Z (Cz [] e (WX _ _ _) Z λT O e=>Go 2 Z (Is 28 e Z (λ_ e=>?_) (λ_ e=>?_)))
    .exact Go 2 Z (Lm Z (Gl 4 Z e [0,1]))
    .exact Gl 7 Z e [0,1]
   .exact Gl 13 Z e [0,1]
  refine Gx 1 Z (Eg m (Gc 1 Z (Bd a λp d a=>Ct p [0] [1,2,5,7] (λp=>[(8,.b p)]) Ze Zf ?_ (λenv H m=>?_))))
  .refine G0 3 Z (Cz [] d (HM _ _ _ _) Z λV P d=>Go 1 Z (Is 37 d Z (λ_ d=>?_) (λ_ d=>?_)))
   .refine Go 5 Z (Is 42 d Z (λ_ d=>?_) (λ_ d=>?_))
    .refine Go 2 Z (Lg 3 Z Z (Is 48 d Z (λ_ d=>?_) (λ_ d=>?_)))
     .exact Go 3 Z (Cz [] d (g _ _) Z λW Q d=>Gl 3 Z d [0])
     .exact Gl 7 Z d [0]
    .exact Gl 13 Z d [0]
   .exact Gl 18 Z d [0]
  refine Gx 1 Z (Eg m (Gc 1 Z (Bd a λq f a=>Cg q [0] [1,2,5] (λq=>[(59,.b q)]) Ze Zf ?_ ?_)))
  .refine G0 4 Z (Is 56 f Z (λ_ f=>?_) (λ_ f=>?_))
   iterate 2 exact Gl 4 Z f [0]
  refine Cn Z a (λ_ a=>?_) (λ_ a=>?_)
  .refine Gc 8 Z (Qv a ?_);obtain rfl:=Oj k a;exact Gx 1 Z (Qq (Gx 1 Z (Rt h 4 [])))
  exact Gc 8 Z (Qg a (Lr [0]))
 subst L;exact QG 6 Z h 4 []
def Ie:Nat->Bl->(AA Bo)->AB Bool
  |0=>λ_ _=>AF
  |n+1=>Ox (Ie n) n
theorem kc:∀(a:Bl) (d:AA Bo) (r:Bool),Ie n a d=AC r->DE prog 187 [.a (Bl.c a),.q 3 (map Bo.enc d)] [] (λr=>.b r) r:=by
  induction n with
  |zero=>intro a d r h;cases h
  |succ n ih=>intro a d r h;exact QaV _ ih n a d r h
def NJ(i:Bl)(e:AQ)(a:Int):AB (Bn Int (Bn Unit Bool)):=(bif a<(AI e.Ao:Int) then AH (Bt e.Ao a) λd=>AH (AH (K3 n i d.Ag) λf=>(bif (!f)then AC AE else(bif d.Bf<1 then AC AE else AH (Fo n d.BY 0 1099511627776) λg=>AC (!g))):AB Bool) λh=>(bif h then AC (.d (.d AD))else AC (.k (i64.wrap (a+1))))else AC (.d (.k ())))
def TN(e:Bl)(a:AQ):AB Bool:=AH (iter (NJ n e a) n 0:AB (Bn Unit Bool)) λf=>match f with|.k d=>(AH (AH (Fo n a.BS 1 3) λg=>(bif g then AH (Ie n e a.Aw) λh=>(bif h then(bif (a.Am==(-1))then AC AE else AH (K3 n e a.Am) λi=>AC i)else AC AD)else AC AD):AB Bool) λj=>AC j)|.d d=>AC d
theorem jG(x:Bl)(y:AQ):Ks (TN n x y) 134 [.a (Bl.c x),.a (AQ.c y)] [] (λr=>.b r):=by
 refine Kg 13 func134 Z Z Z Z λr h=>Bd h λz B h=>FI (b:=z) [0,1] [2,3] Ze Ze Zf ?_ (λF env H E f=>?_)
 .refine G0 1 Z (Lp [0,1] [2,3] (λk=>[(5,I k)]) Ze B Zf (Lr [0,1]) λk O d g=>?_);refine G0 6 Z (Lg 3 Z Z (Q8 Z d (λ_ d=>?_) (λ_ d=>?_)))
  .exact Gc 2 Z (Qj d (Gx 1 Z (Ji g d Z (Lr [0,1]))))
  refine Gc 9 Z (Bd d λP m d=>Iz m Z (Go 6 Z (Bd d λi e d=>Ct i [0,1] [2,3,5] (λi=>[(34,.b i)]) Ze Zf ?_ (λenv H f=>?_))))
  .refine G0 4 Z (Cz [] e (WX _ _ _) Z λQ G e=>Go 2 Z (Is 24 e Z (λ_ e=>?_) (λ_ e=>?_)))
   .exact Gl 11 Z e [0,1]
   .refine Go 5 Z (Is 29 e Z (λ_ e=>?_) (λ_ e=>?_))
    .exact Gl 6 Z e [0,1]
    .exact Go 2 Z (Cz [] e (HM _ _ _ _) Z λR J e=>Gl 3 Z e [0,1])
  refine Gx 1 Z (Eg f (Cn Z d (λ_ d=>?_) (λ_ d=>?_)))
  .refine Gc 8 Z (Qv d ?_);obtain rfl:=Oj g d;exact Gx 1 Z (Qq (Gx 1 Z (Rt h 4 [])))
  exact Gc 8 Z (Qg d (Lr [0,1]))
 subst E;refine Gx 1 Z (Eg f (Gc 1 Z (Bd h λj a h=>Cg j [] [] (λj=>[(4,.b j)]) Ze Zf ?_ ?_)))
 .refine G0 3 Z (Cz [] a (HM _ _ _ _) Z λT L a=>Go 1 Z (Is 38 a Z (λ_ a=>?_) (λ_ a=>?_)))
  .refine Go 3 Z (Cz [] a (kc _ _ _) Z λV M a=>Go 2 Z (Is 44 a Z (λ_ a=>?_) (λ_ a=>?_)))
   .refine Go 4 Z (Is 48 a Z (λ_ a=>?_) (λ_ a=>?_))
    .exact Gl 8 Z a []
    .exact Go 3 Z (Cz [] a (WX _ _ _) Z λW N a=>Gl 4 Z a [])
   .exact Gl 12 Z a []
  .exact Gl 18 Z a []
 exact QG 1 Z h 4 []
def NU(d:Bl)(a:Int):AB (Bn Int (Bn Unit Bool)):=(bif a<(AI d.Ar:Int) then AH (Bt d.Ar a) λe=>AH (Fo n e.AN 1 3) λf=>(bif (!f)then AC (.d (.d AD))else AC (.k (i64.wrap (a+1))))else AC (.d (.k ())))
def K_(n:Nat)(i:Bl)(e:Int)(d:DO)(a:Int):AB (Bn Int (Bn Unit (Bn Int (Bn Unit Bool)))):=(bif a<e then AH (AH (Bt i.A8 a) λf=>(bif (f.Ai==d.Ai)then AH (Bt i.A8 a) λg=>AC (g.To==d.To)else AC AD):AB Bool) λh=>(bif h then AC (.d (.d (.d (.d AD))))else AC (.k (i64.wrap (a+1))))else AC (.d (.k ())))
def J3(f:Bl)(d:Int):AB (Bn Int (Bn Unit Bool)):=(bif d<(AI f.A8:Int) then AH (Bt f.A8 d) λa=>AH (AH (K3 n f a.Ai) λg=>(bif (!g)then AC AE else AH (K3 n f a.To) λh=>(bif (!h)then AC AE else(bif a.BQ<0 then AC AE else(bif a.BO<a.BQ then AC AE else AC (AG (68719476736<a.BO)))))):AB Bool) λi=>(bif i then AC (.d (.d AD))else AH (iter (K_ n f d a) n 0:AB (Bn Unit (Bn Int (Bn Unit Bool)))) λj=>match j with|.k e=>(AC (.k (i64.wrap (d+1))))|.d e=>AC e)else AC (.d (.k ())))
def NL(d:Bl)(a:Int):AB (Bn Int (Bn Unit Bool)):=(bif a<(AI d.AX:Int) then AH (Bt d.AX a) λe=>AH (TN n d e) λf=>(bif (!f)then AC (.d (.d AD))else AC (.k (i64.wrap (a+1))))else AC (.d (.k ())))
def NR(f:Bl)(a:Int):AB (Bn Int (Bn Unit Bool)):=(bif a<(AI f.A9:Int) then AH (Bt f.A9 a) λd=>AH (Fo n d.Bj 0 1099511627776) λe=>(bif (!e)then AC (.d (.d AD))else AC (.k (i64.wrap (a+1))))else AC (.d (.k ())))
def NN(k:Bl)(d:Int):AB (Bn Int (Bn Unit Bool)):=(bif d<(AI k.Aq:Int) then AH (Bt k.Aq d) λa=>AH (AH (Fo n a.BT 0 68719476736) λe=>(bif e then(bif (a.Ax==0)then AC (!a.Bg)else AC AD)else AC AD):AB Bool) λf=>AH ((bif (a.BT==0)then AH (Fo n a.Ax 1 64) λg=>(bif g then AC (!a.Bg)else AC AD)else AC AD):AB Bool) λh=>AH ((bif (a.BT==0)then(bif (a.Ax==0)then AC a.Bg else AC AD)else AC AD):AB Bool) λi=>AH ((bif (!f)then(bif (!h)then AC (!i)else AC AD)else AC AD):AB Bool) λj=>(bif j then AC (.d (.d AD))else AC (.k (i64.wrap (d+1))))else AC (.d (.k ())))
def NW(n:Nat)(f:Bl)(d:Int):AB (Bn Int (Bn Unit Bool)):=(bif d<(AI f.Ae:Int) then AH (Bt f.Ae d) λa=>AH ((bif a.Ai<0 then AC AE else(bif a.To<a.Ai then AC AE else AC (AG (120<a.To)))):AB Bool) λe=>(bif e then AC (.d (.d AD))else AC (.k (i64.wrap (d+1))))else AC (.d (.k ())))
def LW(n:Nat)(h:Bl)(f:Int)(a:CB)(d:Int):AB (Bn Int (Bn Unit (Bn Int (Bn Unit Bool)))):=(bif d<f then AH (Bt h.A7 d) λe=>AH ((bif (e.AQ==a.AQ)then(bif (e.Aa==a.Aa)then AC (e.BP==a.BP)else AC AD)else AC AD):AB Bool) λg=>(bif g then AC (.d (.d (.d (.d AD))))else AC (.k (i64.wrap (d+1))))else AC (.d (.k ())))
def J2(f:Bl)(d:Int):AB (Bn Int (Bn Unit Bool)):=(bif d<(AI f.A7:Int) then AH (Bt f.A7 d) λa=>AH (AH (Fo n a.AQ 0 (i64.wrap ((AI f.AX:Int)-1))) λg=>(bif (!g)then AC AE else AH (Fo n a.Aa (-1) (i64.wrap ((AI f.Ae:Int)-1))) λh=>(bif (!h)then AC AE else AH (Fo n a.BP 1 4000) λi=>(bif (!i)then AC AE else AH (Fo n a.A5 1 1125899906842624) λj=>AC (!j)))):AB Bool) λk=>(bif k then AC (.d (.d AD))else AH (iter (LW n f d a) n 0:AB (Bn Unit (Bn Int (Bn Unit Bool)))) λl=>match l with|.k e=>(AC (.k (i64.wrap (d+1))))|.d e=>AC e)else AC (.d (.k ())))
def OV(a:Bl):AB Bool:=AH (iter (NU n a) n 0:AB (Bn Unit Bool)) λB=>match B with|.k i=>(AH (iter (J3 n a) n 0:AB (Bn Unit Bool)) λE=>match E with|.k j=>(AH (iter (NL n a) n 0:AB (Bn Unit Bool)) λk=>match k with|.k d=>(AH (iter (NR n a) n 0:AB (Bn Unit Bool)) λl=>match l with|.k e=>(AH (iter (NN n a) n 0:AB (Bn Unit Bool)) λm=>match m with|.k f=>(AH (iter (NW n a) n 0:AB (Bn Unit Bool)) λp=>match p with|.k g=>(AH (iter (J2 n a) n 0:AB (Bn Unit Bool)) λq=>match q with|.k h=>(AH (AH (Fo n a.Ak.BW 0 16) λr=>(bif r then AH (Fo n a.Ak.BU 0 16) λs=>(bif s then AH (Fo n a.Ak.BV 0 4294967296) λt=>(bif t then AH (Fo n a.Ak.A6 0 4294967296) λu=>(bif u then AH (Fo n a.Ak.BM 0 100000) λw=>(bif w then AH (Fo n a.Be 0 1125899906842624) λx=>(bif x then AH (Fo n a.BN 0 1099511627776) λy=>AC y else AC AD)else AC AD)else AC AD)else AC AD)else AC AD)else AC AD):AB Bool) λz=>AC z)|.d h=>AC h)|.d g=>AC g)|.d f=>AC f)|.d e=>AC e)|.d d=>AC d)|.d j=>AC j)|.d i=>AC i
theorem kJ(a1:Bl):Ks (OV n a1) 65 [.a (Bl.c a1)] [] (λr=>.b r):=by
 refine Kg 12 func65 Z Z Z Z λr h=>Bd h λds dt h=>FI (b:=ds) [0] [1] Ze Ze Zf ?_ (λew env H u d=>?_)
 .refine G0 1 Z (Lp [0] [1] (λcx=>[(3,I cx)]) Ze dt Zf (Lr [0]) λcx gk w aj=>?_);refine G0 6 Z (Lg 3 Z Z (Q8 Z w (λ_ w=>?_) (λ_ w=>?_)))
  .exact Gc 2 Z (Qj w (Gx 1 Z (Ji aj w Z (Lr [0]))))
  refine Gc 9 Z (Bd w λgl cz w=>Iz cz Z (Go 2 Z (Cz [] w (HM _ _ _ _) Z λgm ey w=>Go 3 Z (Cn Z w (λ_ w=>?_) (λ_ w=>?_)))))
  .refine Gc 8 Z (Qv w ?_);obtain rfl:=Oj aj w;exact Gx 1 Z (Qq (Gx 1 Z (Rt h 2 [])))
  exact Gc 8 Z (Qg w (Lr [0]))
 subst u;refine Gx 1 Z (Eg d (Gc 6 Z (Bd h λdu db h=>FI (b:=du) [0] [1] Ze Ze Zf ?_ (λez env H u d=>?_))))
 .refine G0 1 Z (Lp [0] [1] (λak=>[(4,I ak)]) Ze db Zf (Lr [0]) λak fa j N=>?_);refine G0 6 Z (Lg 3 Z Z (Q8 Z j (λ_ j=>?_) (λ_ j=>?_)))
  .exact Gc 2 Z (Qj j (Gx 1 Z (Ji N j Z (Lr [0]))))
  refine Gc 9 Z (Bd j λfc aw j=>Iz aw Z (Go 7 Z (Bd j λQ f j=>Ct Q [0,1] [1,4,5] (λQ=>[(76,.b Q)]) Ze Zf ?_ (λenv H d=>?_))))
  .refine G0 4 Z (Cz [] f (WX _ _ _) Z λfd dv f=>Go 2 Z (Is 53 f Z (λ_ f=>?_) (λ_ f=>?_)))
   .exact Gl 24 Z f [0,1]
   .refine Go 3 Z (Cz [] f (WX _ _ _) Z λfe dw f=>Go 3 Z (Is 60 f Z (λ_ f=>?_) (λ_ f=>?_)))
    .exact Gl 17 Z f [0,1]
    .refine Go 5 Z (Is 65 f Z (λ_ f=>?_) (λ_ f=>?_))
     .exact Gl 12 Z f [0,1]
     .refine Go 7 Z (Is 72 f Z (λ_ f=>?_) (λ_ f=>?_))
      iterate 2 exact Gl 5 Z f [0,1]
  refine Gx 1 Z (Eg d (Cn Z j (λ_ j=>?_) (λ_ j=>?_)))
  .refine Gc 9 Z (Qv j ?_);obtain rfl:=Oj N j;exact Gx 1 Z (Qq (Gx 1 Z (Rt h 2 [])))
  refine Gc 7 Z (Bd j λdc de j=>FI (b:=dc) [0] [1,4] Ze Ze Zf ?_ (λdx env H u d=>?_))
  .refine G0 1 Z (Lp [0,1] [1,4,5] (λal=>[(6,I al)]) Ze de Zf (Lr [0,1]) λal fg t ad=>?_);refine G0 8 Z (Q8 Z t (λ_ t=>?_) (λ_ t=>?_))
   .exact Gc 2 Z (Qj t (Gx 1 Z (Ji ad t Z (Lr [0]))))
   refine Gc 5 Z (Bd t λR B t=>Ct R [0,1] [1,4,5,6] (λR=>[(101,.b R)]) Ze Zf ?_ (λenv H d=>?_))
   .refine G0 0 Z (C5 18 Z (D 3 Z ?_));obtain⟨O,bd,B⟩:=Q7 B;refine DS.wo (x:=.rp [I O.Ai,I O.To,I O.BQ,I O.BO]) ?_ ?_
    .exact Ix bd runUnderlying23 sizeOf149 Z Wp
    refine D 6 Z (Y3 9 B Z Z Z (λ_ B=>?_) (λ_ B=>?_))
    .refine D 3 Z ?_;obtain⟨L,bg,B⟩:=Q7 B;refine DS.v (x:=(.rp [I L.Ai,I L.To,I L.BQ,I L.BO])) (UN (e:=DO.c) (l:=a1.A8) (v:=L) bg runUnderlying23 sizeOf149) ?_ (hg:=(gT Z));exact D 4 Z (Ei Z (Gl 3 Z B [0,1]))
    .exact D 8 Z (Ei Z (Gl 3 Z B [0,1]))
   refine Gx 1 Z (Eg d (Cn Z t (λ_ t=>?_) (λ_ t=>?_)))
   .refine Gc 8 Z (Qv t ?_);obtain rfl:=Oj ad t;refine Gx 1 Z (Qq (Gx 2 Z (Qv j ?_)));obtain rfl:=Oj N j;exact Gx 1 Z (Qq (Gx 1 Z (Rt h 2 [])))
   exact Gc 8 Z (Qg t (Lr [0,1]))
  subst u;exact Gx 2 Z (Eg d (Gc 5 Z (Qg j (Lr [0]))))
 subst u;refine Gx 1 Z (Eg d (Gc 6 Z (Bd h λdf dg h=>FI (b:=df) [0] [1] Ze Ze Zf ?_ (λdy env H u d=>?_))))
 .refine G0 1 Z (Lp [0] [1] (λam=>[(7,I am)]) Ze dg Zf (Lr [0]) λam fh m ae=>?_);refine G0 6 Z (Lg 3 Z Z (Q8 Z m (λ_ m=>?_) (λ_ m=>?_)))
  .exact Gc 2 Z (Qj m (Gx 1 Z (Ji ae m Z (Lr [0]))))
  refine Gc 5 Z (C5 6 Z (D 4 Z ?_));obtain⟨M,bj,m⟩:=Q7 m;refine DS.wo (x:=.rp [.str M.An,.q 3 (map Bo.enc M.Aw),I M.BS,.q 3 (map Bw.c M.Ao),I M.Am]) ?_ ?_
  .exact Ix bj GA sizeOf94 Z Wp
  refine D 1 Z (Ei Z (Cz [] m (jG _ _ _) Z λfi dz m=>Go 3 Z (Cn Z m (λ_ m=>?_) (λ_ m=>?_))))
  .refine Gc 8 Z (Qv m ?_);obtain rfl:=Oj ae m;exact Gx 1 Z (Qq (Gx 1 Z (Rt h 2 [])))
  exact Gc 8 Z (Qg m (Lr [0]))
 subst u;refine Gx 1 Z (Eg d (Gc 6 Z (Bd h λdh di h=>FI (b:=dh) [0] [1] Ze Ze Zf ?_ (λea env H u d=>?_))))
 .refine G0 1 Z (Lp [0] [1] (λan=>[(8,I an)]) Ze di Zf (Lr [0]) λan fj p af=>?_);refine G0 6 Z (Lg 3 Z Z (Q8 Z p (λ_ p=>?_) (λ_ p=>?_)))
  .exact Gc 2 Z (Qj p (Gx 1 Z (Ji af p Z (Lr [0]))))
  refine Gc 9 Z (Bd p λfk bm p=>Iz bm Z (Go 2 Z (Cz [] p (HM _ _ _ _) Z λfm eb p=>Go 3 Z (Cn Z p (λ_ p=>?_) (λ_ p=>?_)))))
  .refine Gc 8 Z (Qv p ?_);obtain rfl:=Oj af p;exact Gx 1 Z (Qq (Gx 1 Z (Rt h 2 [])))
  exact Gc 8 Z (Qg p (Lr [0]))
 subst u;refine Gx 1 Z (Eg d (Gc 6 Z (Bd h λdj dk h=>FI (b:=dj) [0] [1] Ze Ze Zf ?_ (λec env H u d=>?_))))
 .refine G0 1 Z (Lp [0] [1] (λao=>[(9,I ao)]) Ze dk Zf (Lr [0]) λao fo g ag=>?_);refine G0 6 Z (Lg 3 Z Z (Q8 Z g (λ_ g=>?_) (λ_ g=>?_)))
  .exact Gc 2 Z (Qj g (Gx 1 Z (Ji ag g Z (Lr [0]))))
  refine Gc 9 Z (Bd g λfp bq g=>Iz bq Z (Go 6 Z (Bd g λT y g=>Ct T [0,1] [1,9,10] (λT=>[(11,.b T)]) Ze Zf ?_ (λenv H d=>?_))))
  .refine G0 3 Z (Cz [] y (HM _ _ _ _) Z λfq ed y=>Go 1 Z (Is 147 y Z (λ_ y=>?_) (λ_ y=>?_)))
   .refine Go 5 Z (Is 152 y Z (λ_ y=>?_) (λ_ y=>?_))
    iterate 2 exact Gl 6 Z y [0,1]
   .exact Gl 11 Z y [0,1]
  refine Gx 1 Z (Eg d (Gc 1 Z (Bd g λV z g=>Ct V [0,1] [1,9,10,11] (λV=>[(12,.b V)]) Ze Zf ?_ (λenv H d=>?_))))
  .refine G0 5 Z (Is 160 z Z (λ_ z=>?_) (λ_ z=>?_))
   .refine Go 2 Z (Cz [] z (HM _ _ _ _) Z λfr ee z=>Go 2 Z (Is 165 z Z (λ_ z=>?_) (λ_ z=>?_)))
    iterate 2 exact Gl 6 Z z [0,1]
   .exact Gl 11 Z z [0,1]
  refine Gx 1 Z (Eg d (Gc 1 Z (Bd g λW E g=>Ct W [0] [1,9,11,12] (λW=>[(13,.b W)]) Ze Zf ?_ (λenv H d=>?_))))
  .refine G0 5 Z (Is 173 E Z (λ_ E=>?_) (λ_ E=>?_))
   .refine Go 5 Z (Is 178 E Z (λ_ E=>?_) (λ_ E=>?_))
    iterate 2 exact Gl 5 Z E [0]
   .exact Gl 10 Z E [0]
  refine Gx 1 Z (Eg d (Gc 1 Z (Bd g λX F g=>Ct X [0] [1,9] (λX=>[(191,.b X)]) Ze Zf ?_ (λenv H d=>?_))))
  .refine G0 4 Z (Is 184 F Z (λ_ F=>?_) (λ_ F=>?_))
   .refine Go 4 Z (Is 188 F Z (λ_ F=>?_) (λ_ F=>?_))
    iterate 2 exact Gl 4 Z F [0]
   .exact Gl 8 Z F [0]
  refine Gx 1 Z (Eg d (Cn Z g (λ_ g=>?_) (λ_ g=>?_)))
  .refine Gc 8 Z (Qv g ?_);obtain rfl:=Oj ag g;exact Gx 1 Z (Qq (Gx 1 Z (Rt h 2 [])))
  exact Gc 8 Z (Qg g (Lr [0]))
 subst u;refine Gx 1 Z (Eg d (Gc 6 Z (Bd h λdl dm h=>FI (b:=dl) [0] [1] Ze Ze Zf ?_ (λef env H u d=>?_))))
 .refine G0 1 Z (Lp [0] [1] (λaq=>[(14,I aq)]) Ze dm Zf (Lr [0]) λaq fs q ah=>?_);refine G0 6 Z (Lg 3 Z Z (Q8 Z q (λ_ q=>?_) (λ_ q=>?_)))
  .exact Gc 2 Z (Qj q (Gx 1 Z (Ji ah q Z (Lr [0]))))
  refine Gc 9 Z (Bd q λft cc q=>Iz cc Z (Go 6 Z (Bd q λY G q=>Ct Y [0] [1,14] (λY=>[(218,.b Y)]) Ze Zf ?_ (λenv H d=>?_))))
  .refine G0 5 Z (Is 207 G Z (λ_ G=>?_) (λ_ G=>?_))
   .exact Gl 12 Z G [0]
   .refine Go 7 Z (Is 214 G Z (λ_ G=>?_) (λ_ G=>?_))
    iterate 2 exact Gl 5 Z G [0]
  refine Gx 1 Z (Eg d (Cn Z q (λ_ q=>?_) (λ_ q=>?_)))
  .refine Gc 8 Z (Qv q ?_);obtain rfl:=Oj ah q;exact Gx 1 Z (Qq (Gx 1 Z (Rt h 2 [])))
  exact Gc 8 Z (Qg q (Lr [0]))
 subst u;refine Gx 1 Z (Eg d (Gc 6 Z (Bd h λdn dp h=>FI (b:=dn) [0] [1] Ze Ze Zf ?_ (λeg env H u d=>?_))))
 .refine G0 1 Z (Lp [0] [1] (λar=>[(16,I ar)]) Ze dp Zf (Lr [0]) λar fu k P=>?_);refine G0 6 Z (Lg 3 Z Z (Q8 Z k (λ_ k=>?_) (λ_ k=>?_)))
  .exact Gc 2 Z (Qj k (Gx 1 Z (Ji P k Z (Lr [0]))))
  refine Gc 9 Z (Bd k λfv ch k=>Iz ch Z (Go 7 Z (Bd k λaa i k=>Ct aa [0,1] [1,16,17] (λaa=>[(260,.b aa)]) Ze Zf ?_ (λenv H d=>?_))))
  .refine G0 5 Z (Lg 1 Z Z (Cz [] i (HM _ _ _ _) Z λfw eh i=>Go 2 Z (Is 239 i Z (λ_ i=>?_) (λ_ i=>?_))))
   .exact Gl 22 Z i [0,1]
   .refine Go 4 Z (Lg 1 Z Z (Cz [] i (HM _ _ _ _) Z λfx ei i=>Go 3 Z (Is 249 i Z (λ_ i=>?_) (λ_ i=>?_))))
    .exact Gl 12 Z i [0,1]
    .refine Go 2 Z (Cz [] i (HM _ _ _ _) Z λfy ej i=>Go 3 Z (Is 255 i Z (λ_ i=>?_) (λ_ i=>?_)))
     .exact Gl 6 Z i [0,1]
     .exact Go 2 Z (Cz [] i (HM _ _ _ _) Z λga ek i=>Gl 3 Z i [0,1])
  refine Gx 1 Z (Eg d (Cn Z k (λ_ k=>?_) (λ_ k=>?_)))
  .refine Gc 9 Z (Qv k ?_);obtain rfl:=Oj P k;exact Gx 1 Z (Qq (Gx 1 Z (Rt h 2 [])))
  refine Gc 7 Z (Bd k λdq dr k=>FI (b:=dq) [0] [1,16] Ze Ze Zf ?_ (λel env H u d=>?_))
  .refine G0 1 Z (Lp [0,1] [1,16,17] (λau=>[(18,I au)]) Ze dr Zf (Lr [0,1]) λau gb s ai=>?_);refine G0 8 Z (Q8 Z s (λ_ s=>?_) (λ_ s=>?_))
   .exact Gc 2 Z (Qj s (Gx 1 Z (Ji ai s Z (Lr [0]))))
   refine Gc 9 Z (Bd s λgc cn s=>Iz cn Z (Go 6 Z (Bd s λab J s=>Ct ab [0,1] [1,16,17,18] (λab=>[(289,.b ab)]) Ze Zf ?_ (λenv H d=>?_))))
   .refine G0 7 Z (Is 276 J Z (λ_ J=>?_) (λ_ J=>?_))
    .refine Go 7 Z (Is 283 J Z (λ_ J=>?_) (λ_ J=>?_))
     iterate 2 exact Gl 7 Z J [0,1]
    .exact Gl 14 Z J [0,1]
   refine Gx 1 Z (Eg d (Cn Z s (λ_ s=>?_) (λ_ s=>?_)))
   .refine Gc 8 Z (Qv s ?_);obtain rfl:=Oj ai s;refine Gx 1 Z (Qq (Gx 2 Z (Qv k ?_)));obtain rfl:=Oj P k;exact Gx 1 Z (Qq (Gx 1 Z (Rt h 2 [])))
   exact Gc 8 Z (Qg s (Lr [0,1]))
  subst u;exact Gx 2 Z (Eg d (Gc 5 Z (Qg k (Lr [0]))))
 subst u;refine Gx 1 Z (Eg d (Gc 9 Z (Bd h λac a h=>Cg ac [] [] (λac=>[(2,.b ac)]) Ze Zf ?_ ?_)))
 .refine G0 3 Z (Cz [] a (HM _ _ _ _) Z λgd em a=>Go 1 Z (Is 295 a Z (λ_ a=>?_) (λ_ a=>?_)))
  .refine Go 2 Z (Cz [] a (HM _ _ _ _) Z λge en a=>Go 2 Z (Is 300 a Z (λ_ a=>?_) (λ_ a=>?_)))
   .refine Go 2 Z (Cz [] a (HM _ _ _ _) Z λgf eo a=>Go 2 Z (Is 305 a Z (λ_ a=>?_) (λ_ a=>?_)))
    .refine Go 2 Z (Cz [] a (HM _ _ _ _) Z λgg ep a=>Go 2 Z (Is 310 a Z (λ_ a=>?_) (λ_ a=>?_)))
     .refine Go 2 Z (Cz [] a (HM _ _ _ _) Z λgh es a=>Go 2 Z (Is 315 a Z (λ_ a=>?_) (λ_ a=>?_)))
      .refine Go 2 Z (Cz [] a (HM _ _ _ _) Z λgi et a=>Go 2 Z (Is 320 a Z (λ_ a=>?_) (λ_ a=>?_)))
       .exact Go 2 Z (Cz [] a (HM _ _ _ _) Z λgj eu a=>Gl 3 Z a [])
       .exact Gl 6 Z a []
      .exact Gl 11 Z a []
     .exact Gl 16 Z a []
    .exact Gl 21 Z a []
   .exact Gl 26 Z a []
  .exact Gl 31 Z a []
 exact QG 1 Z h 2 []
def LS(n:Nat)(d:AP)(rec223:AP->AB Bool)(a:Int):AB (Bn Int (Bn Unit Bool)):=(bif a<(AI d.Ac:Int) then AH (Bt d.Ac a) λe=>AH (rec223 e) λf=>(bif (!f)then AC (.d (.d AD))else AC (.k (i64.wrap (a+1))))else AC (.d (.k ())))
def Te(rec223:AP->AB Bool)(n:Nat)(a:AP):AB Bool:=(bif (a.AN==1)then AH ((bif 1<=a.BZ then(bif a.BZ<=3 then(bif 0<=a.N then(bif a.N<=10000 then AC ((AI a.Ac:Int)==0)else AC AD)else AC AD)else AC AD)else AC AD):AB Bool) λk=>AC k else AH ((bif (a.AN==2)then AC (a.AN==2)else AC (a.AN==3)):AB Bool) λf=>AH ((bif f then AH ((bif (AI a.Ac:Int)<1 then AC AE else AC (AG (16<(AI a.Ac:Int)))):AB Bool) λg=>(bif g then AC (.d AD)else AC (.k ()))else(bif (a.AN==4)then(bif ((AI a.Ac:Int) != 1)then AC (.d AD)else AC (.k ()))else AC (.d AD))):AB (Bn Unit Bool)) λh=>match h with|.k d=>(AH ((bif (a.BZ != 0)then AC AE else AC (a.N != 0)):AB Bool) λi=>(bif i then AC AD else AH (iter (LS n a rec223) n 0:AB (Bn Unit Bool)) λj=>match j with|.k e=>(AC AE)|.d e=>AC e))|.d d=>AC d)
theorem Qa9(rec223:AP->AB Bool)(k:∀(l:AP) (r:Bool),rec223 l=AC r->DE prog 236 [.a (AP.c l)] [] (λr=>.b r) r)(n:Nat)(l:AP)(r:Bool)(h:Te rec223 n l=AC r):DE prog 236 [.a (AP.c l)] [] (λr=>.b r) r:=by
 refine QK func236 Z Z Z ?_;refine G0 20 Z (Cn Z h (λ_ h=>?_) (λ_ h=>?_))
 .refine Gc 1 Z (Bd h λu e h=>Ct u [] [] (λu=>[(2,.b u)]) Ze Zf ?_ (λenv H f=>?_))
  .refine G0 5 Z (Is 11 e Z (λ_ e=>?_) (λ_ e=>?_))
   .refine Go 5 Z (Is 16 e Z (λ_ e=>?_) (λ_ e=>?_))
    .refine Go 5 Z (Is 21 e Z (λ_ e=>?_) (λ_ e=>?_))
     .refine Go 5 Z (Is 26 e Z (λ_ e=>?_) (λ_ e=>?_))
      .exact Go 2 Z (Lm Z (Gl 4 Z e []))
      .exact Gl 7 Z e []
     .exact Gl 12 Z e []
    .exact Gl 17 Z e []
   .exact Gl 22 Z e []
  exact Gx 1 Z (Eg f (QG 3 Z h 2 []))
 refine Gc 7 Z (Bd h λm g h=>Ct m [0] [1,5] (λm=>[(32,.b m)]) Ze Zf ?_ (λenv H f=>?_))
 .refine G0 0 Z (Cn Z g (λ_ g=>?_) (λ_ g=>?_))
  .exact Yy 1 Z g [0]
  exact Yy 4 Z g [0]
 refine Gx 1 Z (Eg f (Bd h λT a h=>FI (b:=T) [0] [1] Ze Ze Zf ?_ (λaa env H hb f=>?_)))
 .refine G0 0 Z (Cn Z a (λ_ a=>?_) (λ_ a=>?_))
  .refine Gc 1 Z (Bd a λp i a=>Ct p [0] [1] (λp=>[(44,.b p)]) Ze Zf ?_ (λenv H f=>?_))
   .refine G0 3 Z (Lg 2 Z Z (Is 39 i Z (λ_ i=>?_) (λ_ i=>?_)))
    .exact Gl 6 Z i [0]
    .exact Go 2 Z (Lm Z (Gl 3 Z i [0]))
   refine Gx 1 Z (Eg f (Cn Z a (λ_ a=>?_) (λ_ a=>?_)))
   .refine Gc 6 Z ?_;cases a;exact Qq (Gx 2 Z (Rt h 2 []))
   refine Gc 1 Z ?_;cases a;exact YU Z (Lr [0])
  refine Gc 6 Z (Q8 Z a (λ_ a=>?_) (λ_ a=>?_))
  .refine Gc 6 Z ?_;cases a;exact Qq (Gx 2 Z (Rt h 2 []))
  refine Gc 4 Z (Lg 3 Z Z (Cn Z a (λ_ a=>?_) (λ_ a=>?_)))
  .refine Gc 6 Z ?_;cases a;exact Qq (Gx 2 Z (Rt h 2 []))
  refine Gc 1 Z ?_;cases a;exact YU Z (Lr [0])
 subst hb;refine Gx 2 Z (Eg f (Gc 2 Z (Bd h λq j h=>Ct q [0] [1] (λq=>[(58,.b q)]) Ze Zf ?_ (λenv H f=>?_))))
 .refine G0 5 Z (Is 54 j Z (λ_ j=>?_) (λ_ j=>?_))
  iterate 2 exact Gl 5 Z j [0]
 refine Gx 1 Z (Eg f (Cn Z h (λ_ h=>?_) (λ_ h=>?_)))
 .exact QG 7 Z h 2 []
 refine Gc 8 Z (Bd h λV W h=>DF (b:=V) [] [] Ze Ze Zf ?_ (λ_ X=>?_))
 .refine G0 1 Z (Lp [0] [1] (λt=>[(3,I t)]) Ze W Zf (Lr [0]) λt ad d s=>?_);refine G0 6 Z (Lg 3 Z Z (Q8 Z d (λ_ d=>?_) (λ_ d=>?_)))
  .exact Gc 2 Z (Qj d (Gx 1 Z (Ji s d Z (Lr []))))
  refine Gc 9 Z (Bd d λY N d=>Fm N (aX Y) Z (Go 1 Z (Cz [] d (k _) Z λae ac d=>Go 3 Z (Cn Z d (λ_ d=>?_) (λ_ d=>?_)))))
  .refine Gc 8 Z (Qv d ?_);obtain rfl:=Oj s d;exact Gx 1 Z (Qq (Gx 1 Z (Rt h 2 [])))
  exact Gc 8 Z (Qg d (Lr [0]))
 subst X;exact QG 6 Z h 2 []
def Ic:Nat->AP->AB Bool
  |0=>λ_=>AF
  |n+1=>Te (Ic n) n
theorem kZ:∀(a:AP) (r:Bool),Ic n a=AC r->DE prog 236 [.a (AP.c a)] [] (λr=>.b r) r:=by
  induction n with
  |zero=>intro a r h;cases h
  |succ n ih=>intro a r h;exact Qa9 _ ih n a r h
def N2(a:AP):AB Int:=AH (M8 n a 0) λd=>(bif 256<d then AC 2 else AH (Ic n a) λe=>(bif (!e)then AC 71 else AC 0))
theorem jm(a:AP):Ks (N2 n a) 188 [.a (AP.c a)] [] (λr=>I r):=by
 refine Kg 10 func188 Z Z Z Z λr h=>Cz [] h (oW _ _ _) Z λi f h=>Go 3 Z (Cn Z h (λ_ h=>?_) (λ_ h=>?_))
 .exact QG 7 Z h 2 []
 refine Gc 6 Z (Cz [] h (kZ _ _) Z λj g h=>Go 3 Z (Cn Z h (λ_ h=>?_) (λ_ h=>?_)))
 .exact QG 7 Z h 2 []
 exact QG 8 Z h 2 []
end Go.Sw
