/- The plain laws that a law needs, with no program in sight. -/
import Derived.Test.YtbiglpikpigidaaGreatW23Gu
set_option linter.unusedVariables false
set_option linter.unusedSimpArgs false
namespace Go.Sw
open Option renaming some→AC,none→AF
open Bool renaming false→AD,true→AE
open Decidable renaming decide→AG
open List renaming length→AI
open Go renaming Value→AL
open List(map)
open Int(toNat)
open Go.IntKind(i64 u64 u8)
theorem Dh{n:Int}(d: -9223372036854775808<=n:=by omega)(h1:n<=9223372036854775807:=by omega):i64.wrap n=n:=QL d h1
theorem dT(p:Prop)[Decidable p](h:p:=by omega):AG p=true:=Jz h
theorem dF(p:Prop)[Decidable p](h:¬p:=by omega):AG p=false:=YO h
def DE(lo hi x:Int):Bool:=AG (lo<=x)&&AG (x<=hi)
theorem tD(lo hi:Int)(l:AA Int)(d:AI l<=4611686018427387904):Ev (λn=>FS n lo hi l) (l.all (DE lo hi)):=by
 have h:Ev (λn=>Wv n l lo hi) (l.any λx=> !DE lo hi x):=by
  refine Ev.contains l _ (λn x=>WX n x lo hi) d λx _=>?_;refine Ea ((QQ λh=>Qa _).eq ?_) (Qa _);unfold DE
  grind
 refine Ea h ((Qa _).eq ?_)
 grind
def jD(c:Nat):Bool:=(AG (97<=c)&&AG (c<=122))||(AG (48<=c)&&AG (c<=57))||AG (c=95)
def R_(c:Nat):Bool:=AG (97<=c)&&AG (c<=122)
def M4(c:UInt8):Bool:=jD c.toNat
def ZA(c:UInt8):Bool:=R_ c.toNat
def fw:AA (AA UInt8):=[[99,111,117,114,115,101],[109,97,116,115],[115,116,97,114,116],[112,97,115,115],[101,110,100],[108,101,103],[116,111],[100,105,115,116,97,110,99,101],[103,117,110],[99,104,105,112],[115,108,111,116],[108,97,112,115],[108,97,112],[99,117,116,111,102,102],[101,120,116,114,97],[119,97,118,101],[111,102,102,101,110,99,101],[111,117,116],[99,97,116,101,103,111,114,121],[112,114,105,122,101],[97,108,108],[116,105,101,115],[105,102],[101,108,115,101],[97,110,100],[111,114],[110,111,116],[111,108,100,101,114],[121,111,117,110,103,101,114],[98,105,98],[100,114,97,119],[102,105,101,108,100],[115,104,111,114,116],[102,97,117,108,116,115],[109,105,115,115,101,115],[115,116,114,97,121,115],[119,105,110,100,111,119],[114,101,115,105,100,117,97,108],[100,114,105,102,116],[112,114,111,116,101,115,116],[102,101,101],[100,101,97,100,108,105,110,101]]
def KV:AA UInt8->AA (AA UInt8)
 |[]=>[]
 |b::l=>(bif b==32&& !(l.dropWhile λc=>c != 32).isEmpty then[l.takeWhile λc=>c != 32]else[])++KV l
theorem ut:∀(l s:AA UInt8),(∀c∈s,c≠32)->(s++[32]).isPrefixOf l=((l.takeWhile λc=>c != 32)==s&& !(l.dropWhile λc=>c != 32).isEmpty)
 |[],s,h=>sq
 |b::l,[],h=>by
  by_cases e:b=32
  .subst e;simp
  .have e1:=by simpa using e
   have d:(32==b)=false:=gq;simp[List.isPrefixOf,e1,d]
 |b::l,c::s,h=>by
  have g:=h c sq;have f:=ut l s gq
  grind[List.takeWhile_cons,List.dropWhile_cons]
theorem Qgp(b:UInt8)(l t:AA UInt8)(d:t≠[]):Lib.contains (b::l) t=(t.isPrefixOf (b::l)||Lib.contains l t):=by
 unfold Lib.contains;rw[show Lib.index (b::l) t=if t.isPrefixOf (b::l)then 0 else if Lib.index l t== -1 then-1 else Lib.index l t+1 from rfl]
 grind
theorem vA(s:AA UInt8)(h:∀c∈s,c≠32):∀l,Lib.contains l (32::(s++[32]))=(KV l).contains s
 |[]=>by rfl
 |b::l=>by
  rw[Qgp b l _ sq,vA s h l];simp only[KV,List.isPrefixOf,ut l s h]
  grind
def I5:AA UInt8:=[32,99,111,117,114,115,101,32,109,97,116,115,32,115,116,97,114,116,32,112,97,115,115,32,101,110,100,32,108,101,103,32,116,111,32,100,105,115,116,97,110,99,101,32,103,117,110,32,99,104,105,112,32,115,108,111,116,32,108,97,112,115,32,108,97,112,32,99,117,116,111,102,102,32,101,120,116,114,97,32,119,97,118,101,32,111,102,102,101,110,99,101,32,111,117,116,32,99,97,116,101,103,111,114,121,32,112,114,105,122,101,32,97,108,108,32,116,105,101,115,32,105,102,32,101,108,115,101,32,97,110,100,32,111,114,32,110,111,116,32,111,108,100,101,114,32,121,111,117,110,103,101,114,32,98,105,98,32,100,114,97,119,32,102,105,101,108,100,32,115,104,111,114,116,32,102,97,117,108,116,115,32,109,105,115,115,101,115,32,115,116,114,97,121,115,32,119,105,110,100,111,119,32,114,101,115,105,100,117,97,108,32,100,114,105,102,116,32,112,114,111,116,101,115,116,32,102,101,101,32,100,101,97,100,108,105,110,101,32]
theorem A?:KV I5=fw:=by decide+kernel
def Du:AA Int:=(List.range 256).map λi=>if 97<=i/\i<=122\/65<=i/\i<=90 then 2 else if 48<=i/\i<=57 then 3 else if i∈[123,125,40,41,91,93,59,44,61,60,62]then 4 else if i∈[32,9,10,13]then 1 else 0
theorem Qj7:Ev P0 Du:=by
 unfold P0;refine Ea (iI (step:=MJ 0) 40 (b:=(iter (MJ 0) 40 (List.replicate 256 0,97)).getD []) (by decide+kernel)) ?_;refine Ea (iI (step:=OK 0) 40 (b:=(iter (OK 0) 40 ((iter (MJ 0) 40 (List.replicate 256 0,97)).getD [],48)).getD []) (by decide+kernel)) ?_;generalize hb:(iter (OK 0) 40 ((iter (MJ 0) 40 (List.replicate 256 0,97)).getD [],48)).getD []=b2;refine Ea (iI (step:=U4 0) 40 (b:=(iter (U4 0) 40 (b2,0)).getD []) (by subst hb;decide+kernel)) ?_;refine Ea (iI (step:=ec 0) 40 (b:=Du) (by subst hb;decide+kernel)) ?_;exact EA (by decide+kernel)
theorem QmE:((List.range 256).all λi=> !jD i||AG (Du[i]?=AC (if R_ i then 2 else if i=95 then 0 else 3)))=true:=by decide+kernel
theorem Qo6{c:UInt8}(h:M4 c=AE):L2 256 Du (c.toNat:Int)=AC (if ZA c then 2 else if c.toNat=95 then 0 else 3):=by
 have d:=Xs.1 QmE c.toNat (List.mem_range.2 c.toNat_lt);unfold M4 at h;rw[h]at d;simp[Xg,Bool.false_or,Vq]at d;unfold L2;rw[show Nat.beq (AI Du) 256=AE by decide+kernel,Vo,Qx d];rfl
def D2(s:AA UInt8):Bool:=AG (1<=AI s)&&AG (AI s<=24)&&(s.head?).any ZA&&s.all M4
def Dl(s:AA UInt8):Bool:=D2 s&& !fw.contains s
theorem Qmr(s:AA UInt8)(h:D2 s=AE):Ev (λn=>Po n s) true:=by
 unfold D2 at h;simp only[XV,Vq,Xs]at h;obtain⟨⟨⟨f,q⟩,t⟩,g⟩:=h;unfold Po;refine Ea Qj7 ?_;refine YR (v:=List.replicate 256 0) (by decide+kernel) ?_;refine YR (v:=Du) (by decide+kernel) ?_;refine Ea (v:=CG.k ()) (Ev.iter (λi=>(i:Int)) (AI s) rfl (λi m=>?_) ?_) ?_
 .have d:=Y6 (x:=s[i]) om (XJ m);have j:=g _ d.mem;unfold VQ;simp only[d.lt,Vo,d.ix,XI,Qo6 j,d.nx];cases i with
  |zero=>
   have:ZA s[0]=true:=by
    cases s with
    |nil=>simp at f
    |cons c r=>grind
   simp[this];exact Qa _
  |succ i=>
   grind[Qa]
 .simp_all[VQ,Qa]
 .refine EA ?_;cases s with
  |nil=>simp at f
  |cons c r=>rfl
theorem Qmk{s:AA UInt8}(h:D2 s=AE):∀c∈s,c≠32:=by
 unfold D2 at h;simp[XV,Xs]at h;rintro c d rfl;exact absurd (h.2 _ d) (by decide)
theorem Qom{s:AA UInt8}(h:D2 s=AE):AI s<=24:=by
 simp_all[D2]
theorem Qj8(s:AA UInt8)(h:D2 s=AE):Ev (λn=>Wy n s) (fw.contains s):=by
 refine Ea (Ea (Qmr s h) (Sx ?_)) (Qa _);have d:=Qom h;refine YR (by unfold cat;rw[XR (by simp;omega)];rfl) (YR (by unfold cat;rw[XR (by simp;omega)];rfl) ?_);refine YR ?_ (Qa _);show dR I5 ([32]++s++[32])=AC (fw.contains s);unfold dR;rw[show Nat.blt (AI I5) 4294967281=AE by decide+kernel,Vo]
 grind[vA,Qmk,A?]
theorem cX(c:UInt8)(k:Nat):AG ((c.toNat:Int)<(k:Int))=AG (c.toNat<k):=by
 simp
theorem c5(c:UInt8):(bif (c.toNat:Int)<97 then(bif (c.toNat:Int)<48 then AC ((c.toNat:Int) != 95)else(bif 57<(c.toNat:Int) then AC ((c.toNat:Int) != 95)else AC AD))else(bif 122<(c.toNat:Int) then(bif (c.toNat:Int)<48 then AC ((c.toNat:Int) != 95)else(bif 57<(c.toNat:Int) then AC ((c.toNat:Int) != 95)else AC AD))else AC AD))=AC (!M4 c):=by
 unfold M4 jD;generalize c.toNat=k;have e:((k:Int) != 95)= !decide (k=95):=by
  grind
 grind
theorem Ql8(n:Nat)(s:AA UInt8):(bif (AI s:Int)<1 then AC AE else(bif 24<(AI s:Int) then AC AE else(CJ s 0).bind λx10=>(bif (x10.toNat:Int)<97 then AC AE else(CJ s 0).bind λx12=>AC (AG (122<(x12.toNat:Int))))))=AC (!(AG (1<=AI s)&&AG (AI s<=24)&&(s.head?).any ZA)):=by
 cases s with
 |nil=>rfl
 |cons c r=>
  by_cases h:AI (c::r)<=24
  .rw[YO (show¬24<(AI (c::r):Int)by omega),Vp];have g:CJ (c::r) 0=AC c:=rfl;simp[g,XI];simp[XZ]at h;have j:AI r<=23:=om;simp[List.head?_cons,Option.any_some,ZA,R_];rw[show(97:Int)=(97:Nat)from rfl,cX];by_cases d:c.toNat<97
   .grind
   .have f:97<=c.toNat:=by omega
    simp[d,f,j];by_cases q:c.toNat<=122
    iterate 2 grind
  grind
theorem s_(s:AA UInt8)(j:AI s<=1048576):Ev (λn=>HN n s) (Dl s):=by
 refine Ea (EA (Ql8 0 s)) ?_;unfold Dl;cases h:(AG (1<=AI s)&&AG (AI s<=24)&&(s.head?).any ZA)with
 |false=>
  have:D2 s=false:=by unfold D2;rw[h];rfl
  rw[this];exact Qa _
 |true=>
  have g:D2 s=s.all M4:=by unfold D2;rw[h];rfl
  refine Ea (ie s (λc=> !M4 c) (λi=>(i:Int)) (CG.d AD) (CG.k ()) om rfl (λi x d f=>?_) (λi x d f=>?_) ?_) ?_
  .unfold OM;simp only[d.lt,d.ix,XI,c5,f,d.nx];exact Qa _
  .unfold OM;simp only[d.lt,d.ix,XI,c5,f];exact Qa _
  .simp_all[OM,Qa]
  .rw[g];have e:s.any (λc=> !M4 c)= !s.all M4:=gq;rw[e];cases q:s.all M4 with
   |true=>
    exact Ea (Qj8 s (g.trans q)) (Qa _)
   |false=>
    exact Qa _
def Df:AA (AA UInt8)->AA (AA UInt8)->Bool
 |_,[]=>AE
 |seen,x::r=>Dl x&& !seen.contains x&&Df (seen++[x]) r
theorem Qkc(l:AA (AA UInt8))(i:Nat)(x:AA UInt8)(h:At l i x):Df (l.take i) (l.drop i)=(Dl x&& !(l.take i).contains x&&Df (l.take (i+1)) (l.drop (i+1))):=by
 rw[h.drop,h.take];rfl
theorem d5{α:Type}(l:AA α)(d:α->AA UInt8)(g:Nat->α->AB Unit)(hg:∀n x,g n x=AC ())(E:AI l<=1048576)(y:∀x∈l,AI (d x)<=1048576):
  Ev (λn=>((iter (λs:(AA (AA UInt8×Bool))×Int=>bif s.2<(AI l:Int) then(CJ l s.2).bind λx35=>(g n x35).bind λr36=>((HN n (d x35)).bind λr42=>(bif (!r42)then AC AE else(AC (Qm s.1 (d x35) AD)).bind λv44=>AC v44):AB Bool).bind λb40=>(bif b40 then AC (.d (.d AD))else(AC (QK s.1 (d x35) AE)).bind λm46=>AC (.k (m46,i64.wrap (s.2+1))))else AC (.d (.k ()))) n ([],0):AB (CG Unit Bool)).bind λb28=>
   match b28 with
   |.k _=>AC AE
   |.d s=>AC s:AB Bool)) (Df [] (l.map d)):=by
 have m:AI l<=4611686018427387904:=om;have q:AI (l.map d)<=4611686018427387904:=gq;have j:=ue (B:=CG Unit Bool) l (step:=λn s=>bif s.2<(AI l:Int) then(CJ l s.2).bind λx35=>(g n x35).bind λr36=>((HN n (d x35)).bind λr42=>(bif (!r42)then AC AE else(AC (Qm s.1 (d x35) AD)).bind λv44=>AC v44)).bind λb40=>(bif b40 then AC (.d (.d AD))else(AC (QK s.1 (d x35) AE)).bind λm46=>AC (.k (m46,i64.wrap (s.2+1))))else AC (.d (.k ())))
  (λi=>(YD d AE (l.take i),i)) (λi=>bif Df ((l.map d).take i) ((l.map d).drop i)then .k ()else .d AD) m rfl (λi x h=>?_) ?_
 .refine Ea j ?_
  grind[Qa]
 .have ha2:=Y6 q (by rw[Xo,h.get];rfl);simp only[Qkc _ _ _ ha2];have f:Ev (λn=>(HN n (d x)).bind λr42=>(bif (!r42)then AC AE else(AC (Qm (YD d AE (l.take i)) (d x) AD)).bind λv44=>AC v44)) (!(Dl (d x)&& !((l.map d).take i).contains (d x))):=by
   refine Ea (s_ (d x) (y x h.mem)) ?_;cases Dl (d x)with
   |false=>exact Qa _
   |true=>
    simp_all[Qa,uT]
  cases t:(Dl (d x)&& !((l.map d).take i).contains (d x))with
  |true=>
   rw[t]at f;refine .inl ⟨?_,sq⟩;simp only[h.lt,h.ix,XI,hg];refine Ea f ?_;simp[h.nx];rw[h.take,Qhv];exact Qa _
  |false=>
   rw[t]at f;refine .inr ?_;simp only[h.lt,h.ix,XI,hg];refine Ea f ?_;exact Qa _
 .simp[Y1];rw[show(l.map d).drop (AI l)=[]by simp];exact Qa _
theorem gZ{α:Type}{l:AA α}{x:α}(h:AI l<=140737488):app l [x]=AC (l++[x]):=kz l x om
theorem tj{α β:Type}(l:AA α)(f:α->β)(m:AI l<=140737488):Ev (λn=>iter (λs:(AA β)×Int=>bif s.2<(AI l:Int) then(CJ l s.2).bind λx15=>(app s.1 [f x15]).bind λl16=>AC (CG.k (l16,i64.wrap (s.2+1)))else AC (CG.d s.1)) n (([]:AA β),(0:Int))) (l.map f):=by
 have e:∀l:AA α,l.foldl (λa x=>a++[f x]) []=l.map f:=by
  intro l;have h:∀(l:AA α) (a:AA β),l.foldl (λa x=>a++[f x]) a=a++l.map f:=by
   intro l
   induction l with
   |nil=>simp
   |cons x l j=>grind
  grind
 rw[<- e l];refine YL l (λa x=>a++[f x]) [] (λa i=>(a,(i:Int))) (λa=>a) om rfl (λi x a g d=>?_) ?_
 .rw[e]at d;have:AI a<=140737488:=gq;simp only[g.lt,g.ix,gZ this,g.nx];exact Qa _
 .simp[Y1];exact Qa _
def FQ(c:CB):Bool:=Dl c.An&&(Df [] (c.Av.map (·.An))&&(Df [] (c.AO.map (·.An))&&(Df [] (c.Ap.map (·.An))&&(Df [] (c.Ab.map (·.An))&&Df [] (c.AV.map (·.An))))))
structure C3 (c:CB):Prop where
 name:AI c.An<=1048576
 mats:AI c.Av<=1048576
 matsN:∀x∈c.Av,AI x.An<=1048576
 legs:AI c.A4<=1048576
 dist:AI c.AO<=1048576
 distN:∀x∈c.AO,AI x.An<=1048576
 cut:∀x∈c.AO,AI x.Aq<=1048576
 wave:AI c.Ap<=1048576
 waveN:∀x∈c.Ap,AI x.An<=1048576
 off:AI c.Ab<=1048576
 offN:∀x∈c.Ab,AI x.An<=1048576
 cat:AI c.AV<=1048576
 catN:∀x∈c.AV,AI x.An<=1048576
 prize:AI c.A3<=1048576
theorem QoI(c:CB)(w:C3 c):Ev (λn=>Wx n c) (FQ c):=by
 refine Ea (Ea (s_ c.An w.name) (Eh λ_=>?_)) (Qa _);have g:Ev (λn=>Wb n c.Av) (Df [] (c.Av.map (·.An))):=by exact d5 c.Av (·.An) WN (λ_ _=>rfl) w.mats w.matsN
 have d:Ev (λn=>WT n c.AO) (Df [] (c.AO.map (·.An))):=by exact d5 c.AO (·.An) Wl (λ_ _=>rfl) w.dist w.distN
 have h:Ev (λn=>V7 n c.Ap) (Df [] (c.Ap.map (·.An))):=by exact d5 c.Ap (·.An) WE (λ_ _=>rfl) w.wave w.waveN
 have f:Ev (λn=>WA n c.Ab) (Df [] (c.Ab.map (·.An))):=by exact d5 c.Ab (·.An) WS (λ_ _=>rfl) w.off w.offN
 have j:Ev (λn=>WU n c.AV) (Df [] (c.AV.map (·.An))):=by exact d5 c.AV (·.An) Wk (λ_ _=>rfl) w.cat w.catN
 refine Ea g (Eh λ_=>(Ea d (Eh λ_=>?_)));refine Ea h (Eh λ_=>?_);exact Ea f (Eh gq)
theorem Zq{n:Nat}(h:n<=1048576):i64.wrap ((n:Int)-1)=(n:Int)-1:=Dh
theorem oa(x lo hi:Int):Ev (λn=>G' n x lo hi) (DE lo hi x):=by
 exact Ea (Eh λ_=>Qa _) (Qa _)
theorem b?(c:CB)(w:C3 c)(x:Int):Ev (λn=>G7 n c x) (DE 0 ((AI c.Av:Int)-1) x):=by
 unfold G7;rw[Zq w.mats];exact Ea (oa _ _ _) (Qa _)
mutual
def R4:CH->Nat
 |⟨_,_,ps⟩=>1+Ce ps
def Ce:AA CH->Nat
 |[]=>0
 |p::r=>R4 p+Ce r
end
theorem YS(p:CH):R4 p=1+Ce p.Ac:=by cases p;rfl
theorem Y7{p:CH}:∀{l:AA CH},p∈l->R4 p<=Ce l
 |q::r,h=>by
  simp[Ce];rcases X6.1 h with rfl|h
  .omega
  .have:=Y7 h;omega
mutual
def Fx(k:Int):CH->Bool
 |⟨m,laps,ps⟩=>bif laps==0 then DE 0 k m&&((AI ps:Int)==0)else DE 1 64 laps&&((m==0)&&(AG (0<(AI ps:Int))&&Cw k ps))
def Cw(k:Int):AA CH->Bool
 |[]=>AE
 |p::r=>Fx k p&&Cw k r
end
theorem Zo(k:Int)(p:CH):Fx k p=bif p.Ax==0 then DE 0 k p.Al&&((AI p.Ac:Int)==0)else DE 1 64 p.Ax&&((p.Al==0)&&(AG (0<(AI p.Ac:Int))&&Cw k p.Ac)):=by cases p;rfl
theorem JE(k:Int):∀l:AA CH,Cw k l=l.all (Fx k)
 |[]=>rfl
 |p::r=>by simp[Cw,List.all_cons,JE k r]
theorem Ym{p:CH}(h:CH.wf p):AI p.Ac<=1048576/\ ∀x∈p.Ac,CH.wf x:=by
 cases p
 grind[CH.wf,ui]
theorem QT(lo hi x:Int):Ev (λn=>FS n lo hi [x]) (DE lo hi x):=(tD lo hi [x] sq).eq sq
theorem eJ(lo hi x y:Int):Ev (λn=>FS n lo hi [x,y]) (DE lo hi x&&DE lo hi y):=(tD lo hi [x,y] sq).eq sq
theorem QoH(k:Int):∀(m:Nat) (l:AA CH),Ce l<=m->AI l<=1048576->(∀x∈l,CH.wf x)->Ev (λn=>LI n l k) (Cw k l):=by
 intro m
 induction m with
 |zero=>
  intro l f h d;cases l with
  |nil=>
   refine Jd ?_;exact Jt [] (Fx k) (λn x=>OZ (LI n) n x k) sq sq
  |cons p r=>
   simp only[Ce,YS]at f;omega
 |succ m t=>
  intro l f h d;refine Jd ?_;rw[JE];refine Jt l (Fx k) (λn x=>OZ (LI n) n x k) om λp g=>?_;rw[Zo];have j:=Y7 g;rw[YS]at j;obtain⟨q,y⟩:=Ym (d p g);refine JT (λ_=>?_) (λ_=>?_)
  .exact Ea (Ea (QT _ _ _) (Eh λ_=>Qa _)) (Qa _)
  .exact Ea (Ea (QT _ _ _) (Eh λ_=>Eh λ_=>Eh gq)) (Qa _)
theorem Qmq(c:CB)(w:C3 c):∀(m:Nat) (l:AA CH),Ce l<=m->AI l<=1048576->(∀x∈l,CH.wf x)->Ev (λn=>KQ n c l) (Cw ((AI c.Av:Int)-1) l):=by
 intro m
 induction m with
 |zero=>
  intro l h t g;cases l with
  |nil=>
   refine Jd ?_;show Ev (λn=>RG (KQ n) n c []) _;exact⟨1,λn F=>by obtain⟨k,rfl⟩:∃k,n=k+1:=⟨n-1,om⟩;rfl⟩
  |cons p r=>
   simp only[Ce,YS]at h;omega
 |succ m q=>
  intro l h t g;refine Jd ?_;show Ev (λn=>RG (KQ n) n c l) _;rw[JE];have step:∀(i:Nat) (x:CH),At l i x->Ev (λn=>OU n c l (KQ n) i) (bif Fx (AI c.Av-1) x then .k (i+1)else .d (.d AD)):=by
   intro i x d;unfold OU;simp only[d.lt,d.ix,XI,d.nx];have y:=Y7 d.mem;rw[YS]at y;obtain⟨j,E⟩:=Ym (g x d.mem);refine Ea (Eh λ_=>Ea (b? c w _) (Eh λ_=>Qa _)) (Ea (Ea (oa _ _ _) (Eh λ_=>Eh λ_=>Eh λ_=>Ea (q x.Ac om j E) (Qa _))) ?_);rw[Zo];cases B:(x.Ax==0)with
   |true=>
    have e0:=by simpa using B
    have:DE 1 64 x.Ax=false:=by rw[e0];rfl
    grind[Qa]
   |false=>
    generalize(DE 1 64 x.Ax&&((x.Al==0)&&(AG (0<(AI x.Ac:Int))&&Cw (AI c.Av-1) x.Ac)))=b;cases b<;>exact Qa _
  refine Ea (ie l (λx=> !Fx (AI c.Av-1) x) (λi=>(i:Int)) (CG.d AD) (CG.k ()) om rfl (λi x d f=>?_) (λi x d f=>?_) ?_) ?_
  .refine(step i x d).eq ?_;have:=by simpa using f
   rw[this];rfl
  .refine(step i x d).eq ?_;have:=by simpa using f
   rw[this];rfl
  .unfold OU;simp[Y1];exact Qa _
  grind[Qa]
def SF(k:Int)(l:Cr):Bool:=(DE 0 k l.BA&&DE 0 k l.To)&&((DE 0 68719476736 l.Bo&&DE 0 68719476736 l.Br)&&AG (l.Bo<=l.Br))
def cP(k:Int)(x:CO):Bool:=DE 0 k x.Al&&(AG (1<=x.B_)&&DE 0 1099511627776 x.Bu)
def Il(k:Int)(d:AN):Bool:=DE 1 3 d.A9&&(DE (-1) k d.Am&&(Cw k d.Af&&d.Aq.all (cP k)))
def Nc(o:AZ):Bool:=bif o.BM then(o.BX==0)&&(o.Ax==0)else bif o.Ax != 0 then(o.BX==0)&&DE 1 64 o.Ax else DE 0 68719476736 o.BX
def cY(x:AW):Bool:=(DE 0 120 x.BA&&DE 0 120 x.To)&&AG (x.BA<=x.To)
def Lq(c:CB)(p:CQ):Bool:=DE 0 ((AI c.AO:Int)-1) p.AN&&(DE (-1) ((AI c.AV:Int)-1) p.AW&&(DE 1 4000 p.B3&&DE 1 1125899906842624 p.BO))
def Lt(c:CB):Bool:=(DE 0 16 c.AQ.A_&&DE 0 16 c.AQ.A7)&&((DE 0 4294967296 c.AQ.A6&&DE 0 4294967296 c.AQ.Ak)&&(DE 0 100000 c.AQ.BC&&(DE 0 1125899906842624 c.Bk&&DE 0 1099511627776 c.Az)))
def DG(l:Cr):Ul:={BZ:=l.BA,to_:=l.To}
def HD(p:CQ):Up:={B5:=p.AN,B2:=p.AW,CA:=p.B3}
def Cp(c:CB):Bool:=
 let k:=(AI c.Av:Int)-1
 c.Av.all (λm=>DE 1 3 m.AX)&&(c.A4.all (SF k)&&(AG ((c.A4.map DG).Nodup)&&(c.AO.all (Il k)&&(c.Ap.all (λw=>DE 0 1099511627776 w.Bv)&&(c.Ab.all Nc&&(c.AV.all cY&&(c.A3.all (Lq c)&&(AG ((c.A3.map HD).Nodup)&&Lt c))))))))
structure D_ (c:CB):Prop where
 len:∀d∈c.AO,AI d.Af<=1048576
 wf:∀d∈c.AO,∀x∈d.Af,CH.wf x
theorem QhN(l:AA Cr)(f:AI l<=1048576):Ev (λn=>WQ n l) (AG ((l.map DG).Nodup)):=by
 refine Ea (mt l DG AE om (λi x m d=>?_) (λm=>?_)) ((Qa _).eq ?_)
 .unfold T4 V6;simp only[d.lt,d.ix,d.nx];exact Qa _
 .simp_all[T4,Qa]
 .rw[XX];simp[Vx,Vq]
  grind[u9]
theorem QfQ(l:AA CQ)(f:AI l<=1048576):Ev (λn=>WP n l) (AG ((l.map HD).Nodup)):=by
 refine Ea (mt l HD AE om (λi x m d=>?_) (λm=>?_)) ((Qa _).eq ?_)
 .unfold TV V9;simp only[d.lt,d.ix,d.nx];exact Qa _
 .simp_all[TV,Qa]
 .rw[XX];simp[Vx,Vq]
  grind[u9]
theorem Qj2(c:CB)(w:C3 c)(q:D_ c):Ev (λn=>Pq n c) (Cp c):=by
 unfold Pq Cp;rw[Zq w.mats];refine Ea (v:=_) ?_ (Qa _);have t:Ev (λn=>Oa n c.Av) (c.Av.all λm=>DE 1 3 m.AX):=by
  unfold Oa Ww WZ;refine Jt c.Av _ (λn x=>Oe n x) (by have:=w.mats;omega) λx d=>?_;unfold Oe;exact Ea (QT _ _ _) (Qa _)
 have h:Ev (λn=>PI n c.A4 ((AI c.Av:Int)-1)) (c.A4.all (SF ((AI c.Av:Int)-1))):=by
  unfold PI Wf Wc;refine Jt c.A4 _ (λn x=>O2 n x _) (by have:=w.legs;omega) λx d=>?_;unfold O2;exact Ea (Ea (eJ _ _ _ _) (Eh λ_=>Ea (eJ _ _ _ _) (Eh λ_=>Qa _))) (Qa _)
 have j:Ev (λn=>Ol n c.AO ((AI c.Av:Int)-1)) (c.AO.all (Il ((AI c.Av:Int)-1))):=by
  unfold Ol WW WD;refine Jt c.AO _ (λn x=>PB n x _) (by have:=w.dist;omega) λx d=>?_;unfold PB;have F:Ev (λn=>PJ n x.Aq ((AI c.Av:Int)-1)) (x.Aq.all (cP ((AI c.Av:Int)-1))):=by
   unfold PJ Wi WV;refine Jt x.Aq _ (λn x=>PK n x _) (by have:=w.cut x d;omega) λy G=>?_;unfold PK;exact Ea (Ea (QT _ _ _) (Eh λ_=>Eh λ_=>Ea (QT _ _ _) (Qa _))) (Qa _)
  exact Ea (Ea (QT _ _ _) (Eh λ_=>Ea (QT _ _ _) (Eh λ_=>Ea (QoH _ _ x.Af (XS _) (q.len x d) (q.wf x d)) (Eh λ_=>Ea F (Qa _))))) (Qa _)
 have E:Ev (λn=>PU n c.Ap) (c.Ap.all λw=>DE 0 1099511627776 w.Bv):=by
  unfold PU Wr Wh;refine Jt c.Ap _ (λn x=>Oh n x) (by have:=w.wave;omega) λx d=>?_;unfold Oh;exact Ea (QT _ _ _) (Qa _)
 have f:Ev (λn=>Oc n c.Ab) (c.Ab.all Nc):=by
  unfold Oc Wo Ws;refine Jt c.Ab _ (λn x=>PV n x) (by have:=w.off;omega) λx d=>?_;unfold PV Nc;refine JT (λ_=>Ea (Eh λ_=>Qa _) (Qa _)) λ_=>JT (λ_=>Ea (Eh λ_=>Ea (QT _ _ _) (Qa _)) (Qa _)) λ_=>Ea (QT _ _ _) (Qa _)
 have B:Ev (λn=>Ox n c.AV) (c.AV.all cY):=by
  unfold Ox WR V8;refine Jt c.AV _ (λn x=>Pf n x) (by have:=w.cat;omega) λx d=>?_;unfold Pf;exact Ea (Ea (eJ _ _ _ _) (Eh λ_=>Qa _)) (Qa _)
 have g:Ev (λn=>OY n c.A3 c) (c.A3.all (Lq c)):=by
  unfold OY Wa Wd;refine Jt c.A3 _ (λn x=>O' n x c) (by have:=w.prize;omega) λx d=>?_;unfold O';rw[Zq w.dist,Zq w.cat];exact Ea (Ea (QT _ _ _) (Eh λ_=>Ea (QT _ _ _) (Eh λ_=>Ea (QT _ _ _) (Eh λ_=>Ea (QT _ _ _) (Qa _))))) (Qa _)
 refine Ea t (Eh λ_=>Ea h (Eh λ_=>Ea (QhN _ w.legs) (Eh λ_=>Ea j (Eh λ_=>Ea E (Eh λ_=>Ea f (Eh λ_=>Ea B (Eh λ_=>Ea g (Eh λ_=>Ea (QfQ _ w.prize) (Eh λ_=>?_)))))))));exact Ea (eJ _ _ _ _) (Eh λ_=>Ea (eJ _ _ _ _) (Eh λ_=>Ea (QT _ _ _) (Eh λ_=>Ea (QT _ _ _) (Eh λ_=>Ea (QT _ _ _) (Qa _)))))
theorem Nm{a b a' b':Int}:(({BZ:=a,to_:=b}:Ul)={BZ:=a',to_:=b'})↔a=a'/\b=b':=sq
theorem sS{α B:Type}{step:Nat->Int->AB (CG Int B)}(l:AA α)(ok:α->Bool)(d b:B)(j:AI l<=4611686018427387904)
  (m:∀i x,At l i x->Ev (λn=>step n (i:Int)) (bif ok x then .k ((i+1:Nat):Int)else .d d))(f:Ev (λn=>step n (AI l:Int)) (.d b)):
  Ev (λn=>Go.Sw.iter (step n) n 0) (bif l.all ok then b else d):=by
 have e:(bif l.all ok then b else d)=bif l.any (λx=> !ok x)then d else b:=by
  grind
 rw[e];refine ie l (λx=> !ok x) (λi=>(i:Int)) d b j rfl (λi x h g=>?_) (λi x h g=>?_) f
 .grind
 grind
mutual
def cN:AR->Nat
 |⟨_,_,_,ps⟩=>1+Iw ps
def Iw:AA AR->Nat
 |[]=>0
 |c::r=>cN c+Iw r
end
theorem Nz(c:AR):cN c=1+Iw c.Ac:=by cases c;rfl
mutual
def cD:Nat->AR->Bool
 |d,⟨_,_,_,ps⟩=>M5 d ps
def M5:Nat->AA AR->Bool
 |_,[]=>AE
 |d,c::r=>AG (d<=16)&&(cD (d+1) c&&M5 d r)
end
theorem kI(d:Nat)(c:AR):cD d c=M5 d c.Ac:=by cases c;rfl
def Cu(c:AR):Bool:=(c.AX==0)&&((c.B0==0)&&((c.N==0)&&((AI c.Ac:Int)==0)))
mutual
def LQ:AY->Nat
 |⟨_,_,_,t,e⟩=>1+Hq t+Hq e
def Hq:AA AY->Nat
 |[]=>0
 |s::r=>LQ s+Hq r
end
theorem ZU(s:AY):LQ s=1+Hq s.Ba+Hq s.Bh:=by cases s;rfl
mutual
def sC:AY->Nat
 |⟨_,_,c,t,e⟩=>(bif Cu c then 0 else cN c)+Ht t+Ht e
def Ht:AA AY->Nat
 |[]=>0
 |s::r=>sC s+Ht r
end
theorem ZT(s:AY):sC s=(bif Cu s.AR then 0 else cN s.AR)+Ht s.Ba+Ht s.Bh:=by cases s;rfl
mutual
def Ll:Nat->AY->Bool
 |d,⟨_,_,c,t,e⟩=>(Cu c||cD 1 c)&&(Ig d t&&Ig d e)
def Ig:Nat->AA AY->Bool
 |_,[]=>AE
 |d,s::r=>AG (d<=16)&&(Ll (d+1) s&&Ig d r)
end
theorem gL(d:Nat)(s:AY):Ll d s=((Cu s.AR||cD 1 s.AR)&&(Ig d s.Ba&&Ig d s.Bh)):=by cases s;rfl
mutual
def sZ:AY->Nat
 |⟨_,_,c,t,e⟩=>2+cN c+LP t+LP e
def LP:AA AY->Nat
 |[]=>0
 |s::r=>sZ s+LP r
end
theorem dM(s:AY):sZ s=2+cN s.AR+LP s.Ba+LP s.Bh:=by cases s;rfl
def fS:Um->Nat
 |.ctyping_step x=>LQ x.AY
 |.ctyping_cond _=>0
def fC:Um->Nat
 |.ctyping_step x=>sC x.AY
 |.ctyping_cond x=>cN x.AR
def fD(d:Nat):Um->Bool
 |.ctyping_step x=>Ll d x.AY
 |.ctyping_cond x=>cD d x.AR
def fZ:Um->Nat
 |.ctyping_step x=>sZ x.AY
 |.ctyping_cond x=>cN x.AR
def F4(l:AA Um):Nat:=(l.map fS).sum
def F5(l:AA Um):Nat:=(l.map fC).sum
def HQ(l:AA Um):Nat:=(l.map fZ).sum
def bP:Um->Prop
 |.ctyping_step x=>AY.wf x.AY
 |.ctyping_cond x=>AR.wf x.AR
def DJ(s:AY):Um:=.ctyping_step {AY:=s}
def Cs(c:AR):Um:=.ctyping_cond {AR:=c}
theorem Zn:∀l:AA AY,F4 (l.map DJ)=Hq l
 |[]=>rfl
 |s::r=>by
  have:=Zn r;simp[F4,Vj,List.sum_cons]at this⊢;rw[this];rfl
theorem Zm:∀l:AA AY,F5 (l.map DJ)=Ht l
 |[]=>rfl
 |s::r=>by
  have:=Zm r;simp[F5,Vj,List.sum_cons]at this⊢;rw[this];rfl
theorem d6:∀l:AA AY,HQ (l.map DJ)=LP l
 |[]=>rfl
 |s::r=>by
  have:=d6 r;simp[HQ,Vj,List.sum_cons]at this⊢;rw[this];rfl
theorem l8:∀l:AA AR,F4 (l.map Cs)=0
 |[]=>rfl
 |s::r=>by
  have:=l8 r;simp only[F4,Vj,List.sum_cons]at this⊢;rw[this];rfl
theorem l7:∀l:AA AR,F5 (l.map Cs)=Iw l
 |[]=>rfl
 |s::r=>by
  have:=l7 r;simp[F5,Vj,List.sum_cons]at this⊢;rw[this];rfl
theorem l9:∀l:AA AR,HQ (l.map Cs)=Iw l
 |[]=>rfl
 |s::r=>by
  have:=l9 r;simp[HQ,Vj,List.sum_cons]at this⊢;rw[this];rfl
theorem iF(d:Nat):∀l:AA AY,Ig d l=((l.map DJ).isEmpty||(AG (d<=16)&&(l.map DJ).all (fD (d+1))))
 |[]=>rfl
 |s::r=>by
  rw[Ig,iF d r];simp[Vj,List.all_cons];rw[show fD (d+1) (DJ s)=Ll (d+1) s from rfl]
  grind
theorem sG(d:Nat):∀l:AA AR,M5 d l=((l.map Cs).isEmpty||(AG (d<=16)&&(l.map Cs).all (fD (d+1))))
 |[]=>rfl
 |s::r=>by
  rw[M5,sG d r];simp[Vj,List.all_cons];rw[show fD (d+1) (Cs s)=cD (d+1) s from rfl]
  grind
theorem Jb{c:AR}(h:AR.wf c):AI c.Ac<=1048576/\ ∀x∈c.Ac,AR.wf x:=by
 cases c
 grind[AR.wf,uc]
theorem Ja{s:AY}(h:AY.wf s):AR.wf s.AR/\(AI s.Ba<=1048576/\ ∀x∈s.Ba,AY.wf x)/\(AI s.Bh<=1048576/\ ∀x∈s.Bh,AY.wf x):=by
 cases s
 grind[AY.wf,um]
theorem tA(n:Nat)(c:AR):LB n {AR:=c}=AC (Cu c):=by
 unfold LB Cu
 grind
theorem tz(n:Nat)(c:AR):Mj n c=AC (Cu c):=by
 unfold Mj Cu
 grind
theorem l6(l:AA AY)(d:AI l<=140737488):Ev (λn=>Mn n l) (l.map DJ):=by
 exact Ea (tj l DJ d) (Qa _)
theorem QoQ(l:AA AR)(d:AI l<=140737488):Ev (λn=>Wn n l) (l.map Cs):=by
 exact Ea (tj l Cs d) (Qa _)
def CZ(s:AY):AA Um:=s.Ba.map DJ++s.Bh.map DJ
theorem mw(s:AY)(h:AY.wf s):Ev (λn=>LH n {AY:=s}) (CZ s):=by
 obtain⟨_,⟨d,_⟩,⟨f,_⟩⟩:=Ja h;refine Ea (l6 s.Ba om) (Ea (l6 s.Bh om) (YR (Zk _ _ (by simp;omega)) (Qa _)))
theorem uq(c:AR)(h:AR.wf c):Ev (λn=>KL n {AR:=c}) (c.Ac.map Cs):=by
 obtain⟨d,_⟩:=Jb h;exact Ea (QoQ c.Ac om) (Qa _)
def Ii(l:AA Um)(d:Nat)(st co:Int):Bool:=l.isEmpty||(AG (d<=16)&&(l.all (fD (d+1))&&(AG (st+F4 l<=64)&&AG (co+F5 l<=256))))
def RM(l:AA Um)(d:Nat)(st co:Int):Bool:=l.isEmpty||(l.all (fD (d+1))&&(AG (st+F4 l<=64)&&AG (co+F5 l<=256)))
def RN(f:Um)(d:Nat)(st co:Int):Bool:=fD (d+1) f&&(AG (st+fS f<=64)&&AG (co+fC f<=256))
theorem sH(f:Um)(l:AA Um):F4 (f::l)=fS f+F4 l:=rfl
theorem sE(f:Um)(l:AA Um):F5 (f::l)=fC f+F5 l:=rfl
theorem sJ(f:Um)(l:AA Um):HQ (f::l)=fZ f+HQ l:=rfl
theorem t7(l m:AA Um):F4 (l++m)=F4 l+F4 m:=by simp[F4]
theorem t6(l m:AA Um):F5 (l++m)=F5 l+F5 m:=by simp[F5]
theorem t8(l m:AA Um):HQ (l++m)=HQ l+HQ m:=by simp[HQ]
theorem Qn5(f:Um)(r:AA Um)(d:Nat)(h j:Int):RM (f::r) d h j=(RN f d h j&&RM r d (h+fS f) (j+fC f)):=by
 unfold RM RN;rw[sH,sE];cases r with
 |nil=>simp[F4,F5]
 |cons g r=>
  grind
theorem kn(l:AA Um)(d:Nat)(g h:Int)(j:g<=64)(m:h<=256):Ii l d g h=AE↔(l.isEmpty||(AG (d<=16)&&l.all (fD (d+1))))=AE/\g+F4 l<=64/\h+F5 l<=256:=by
 unfold Ii;cases l with
 |nil=>simp[F4,F5,j,m]
 |cons f r=>
  grind
theorem Qe5(s:AY)(d:Nat):((CZ s).isEmpty||(AG (d<=16)&&(CZ s).all (fD (d+1))))=(Ig d s.Ba&&Ig d s.Bh):=by
 rw[iF,iF];unfold CZ;rw[List.all_append];cases f:s.Ba<;>cases g:s.Bh<;>simp<;>(grind)
def nr(R:Nat->AA Um->Int->Uk->AB (Uk×Bool))(l:AA Um)(d:Nat)(st co:Int):Prop:=
 ∃c':Uk,Ev (λn=>R n l (d:Int) {BG:=st,BH:=co}) (c',Ii l d st co)/\(Ii l d st co=AE->c'={BG:=st+F4 l,BH:=co+F5 l})
theorem Qkd{R:Nat->AA Um->Int->Uk->AB (Uk×Bool)}{l:AA Um}{d:Nat}(hd:d<=16){i:Nat}{f:Um}(ha:At l i f)(hw:bP f)
  (ih:∀l' d' j m,HQ l'<fZ f->AI l'<=2097152->(∀f∈l',bP f)->d'<=17->0<=j->j<=66->(j<=65\/ ∀f∈l',∃c,f=Cs c)->0<=m->m<=256->nr R l' d' j m){j m:Int}(h0:0<=j)(af:j<=66)(J:j<=65\/ ∃c,f=Cs c)(h2:0<=m)(h3:m<=256):
  ∃c':Uk,Ev (λn=>MR n l (d:Int) (R n) ({BG:=j,BH:=m},(i:Int))) (bif RN f d j m then .k (c',((i+1:Nat):Int))else .d (.d (c',AD)))/\(RN f d j m=AE->c'={BG:=j+fS f,BH:=m+fC f}):=by
 unfold MR;simp only[ha.lt,Vo,ha.ix,XI,ha.nx];have ed:i64.wrap ((d:Int)+1)=((d+1:Nat):Int):=YU om;cases f with
 |ctyping_step x=>
  obtain⟨s⟩:=x;have h1:j<=65:=by
   rcases J with h|⟨c,h⟩
   .exact h
   .cases h
  have t:AY.wf s:=hw;obtain⟨wc,⟨ae,aa⟩,⟨ag,ab⟩⟩:=Ja t;have e1:i64.wrap (j+1)=j+1:=Dh;simp only[Um.elim,tA,XI,e1];have hc:∃H:Uk,Ev (λn=>((bif (!Cu s.AR)then(R n [Um.ctyping_cond {AR:=s.AR}] 0 {BG:=j+1,BH:=m}).bind λE=>AC (E.1,(!E.2))else AC ({BG:=j+1,BH:=m},AD)):AB (Uk×Bool))) (H, !(Cu s.AR||(cD 1 s.AR&&(AG (j+1<=64)&&AG (m+cN s.AR<=256)))))/\
    ((Cu s.AR||(cD 1 s.AR&&(AG (j+1<=64)&&AG (m+cN s.AR<=256))))=AE->H={BG:=j+1,BH:=m+((bif Cu s.AR then 0 else cN s.AR:Nat):Int)}):=by
   cases N:Cu s.AR with
   |true=>
    simp_all[Qa]
   |false=>
    obtain⟨H,B,T⟩:=ih [Cs s.AR] 0 (j+1) m (by simp only[HQ,Vj,Vk,List.sum_cons,List.sum_nil];show cN s.AR+0<sZ s;rw[dM];omega) sq (by intro g q;simp only[Vz]at q;subst q;exact wc) om om om (.inr (by intro g q;simp only[Vz]at q;exact⟨_,q⟩)) h2 h3;have ek:Ii [Cs s.AR] 0 (j+1) m=(cD 1 s.AR&&(AG (j+1<=64)&&AG (m+cN s.AR<=256))):=by
     unfold Ii;simp only[List.isEmpty_cons,Bool.false_or,List.all_cons,List.all_nil,Bool.and_true,F4,F5,Vj,Vk,List.sum_cons,List.sum_nil];rw[show fD (0+1) (Cs s.AR)=cD 1 s.AR from rfl,show fS (Cs s.AR)=0 from rfl,show fC (Cs s.AR)=cN s.AR from rfl];simp
    rw[ek]at B T;refine⟨H,Ea B (Qa _),λh=>?_⟩;rw[T h];simp[F4,F5,show fS (Cs s.AR)=0 from rfl,show fC (Cs s.AR)=cN s.AR from rfl]
  obtain⟨H,B,T⟩:=hc;generalize hb:(Cu s.AR||(cD 1 s.AR&&(AG (j+1<=64)&&AG (m+cN s.AR<=256))))=b at B T;have hF:RN (Um.ctyping_step {AY:=s}) d j m=(Ll (d+1) s&&(AG (j+LQ s<=64)&&AG (m+sC s<=256))):=rfl;rw[hF];cases b with
  |false=>
   have:(Ll (d+1) s&&(AG (j+LQ s<=64)&&AG (m+sC s<=256)))=false:=by
    rw[VL];intro hh;simp only[XV,Vq,gL,ZU,ZT]at hh;obtain⟨⟨V,_⟩,z2,z3⟩:=hh;cases N:Cu s.AR with
    |true=>rw[N]at hb;cases hb
    |false=>
     rw[N]at hb V z3;simp only[Bool.false_or]at hb V;rw[V]at hb;simp only[Vp]at z3;rw[dT (j+1<=64),dT (m+(cN s.AR:Int)<=256)]at hb;cases hb
   rw[this];exact⟨H,Ea B (Qa _),λh=>by cases h⟩
  |true=>
   obtain rfl:=T rfl;by_cases G:64<j+1
   .have:(Ll (d+1) s&&(AG (j+LQ s<=64)&&AG (m+sC s<=256)))=false:=by
     rw[YO (show¬j+(LQ s:Int)<=64 by rw[ZU];omega)];simp
    rw[this];refine⟨{BG:=j+1,BH:=m+((bif Cu s.AR then 0 else cN s.AR:Nat):Int)},Ea B ?_,λh=>by cases h⟩;simp only[Xg,Vp];refine Ea (v:=(_,AE)) ?_ (Qa _);rw[Jz G];exact Qa _
   by_cases M:256<m+((bif Cu s.AR then 0 else cN s.AR:Nat):Int)
   .have:(Ll (d+1) s&&(AG (j+LQ s<=64)&&AG (m+sC s<=256)))=false:=by
     rw[YO (show¬m+(sC s:Int)<=256 by rw[ZT];omega)];simp
    rw[this];refine⟨{BG:=j+1,BH:=m+((bif Cu s.AR then 0 else cN s.AR:Nat):Int)},Ea B ?_,λh=>by cases h⟩;simp only[Xg,Vp];refine Ea (v:=(_,AE)) ?_ (Qa _);rw[YO G,Jz M];exact Qa _
   obtain⟨Q,O,L⟩:=ih (CZ s) (d+1) (j+1) (m+((bif Cu s.AR then 0 else cN s.AR:Nat):Int)) (by
     unfold CZ;rw[t8,d6,d6];show _<sZ s;rw[dM];omega) (by unfold CZ;simp;omega) (by
     intro g q;unfold CZ at q;rcases VB.1 q with q|q
     .obtain⟨y,P,rfl⟩:=Xe.1 q;exact aa y P
     .obtain⟨y,P,rfl⟩:=Xe.1 q;exact ab y P) om om om (.inl om) om om
   have eL:Ii (CZ s) (d+1) (j+1) (m+((bif Cu s.AR then 0 else cN s.AR:Nat):Int))=(Ll (d+1) s&&(AG (j+LQ s<=64)&&AG (m+sC s<=256))):=by
    rw[XX,kn _ _ _ _ om om,Qe5];simp only[XV,Vq,gL,ZU,ZT];have Y:F4 (CZ s)=Hq s.Ba+Hq s.Bh:=by unfold CZ;rw[t7,Zn,Zn]
    have e3:F5 (CZ s)=Ht s.Ba+Ht s.Bh:=by unfold CZ;rw[t6,Zm,Zm]
    rw[Y,e3];have X:(Cu s.AR||cD 1 s.AR)=true:=by
     cases N:Cu s.AR with
     |true=>rfl
     |false=>
      rw[N]at hb;simp only[Bool.false_or,XV]at hb;rw[hb.1];rfl
    constructor
    .rintro⟨F,W,h6⟩;exact⟨⟨X,F⟩,om,om⟩
    .rintro⟨⟨_,F⟩,W,h6⟩;exact⟨F,om,om⟩
   rw[eL]at O L;refine⟨Q,Ea B ?_,λh=>?_⟩
   .simp only[Xg,Vp];refine Ea (v:=(Q, !(Ll (d+1) s&&(AG (j+LQ s<=64)&&AG (m+sC s<=256))))) ?_ ?_
    .rw[YO G,YO M,ed];exact Ea (mw s t) (Ea O (Qa _))
    .cases(Ll (d+1) s&&(AG (j+LQ s<=64)&&AG (m+sC s<=256)))<;>exact Qa _
   .rw[L h];have Y:F4 (CZ s)=Hq s.Ba+Hq s.Bh:=by unfold CZ;rw[t7,Zn,Zn]
    have e3:F5 (CZ s)=Ht s.Ba+Ht s.Bh:=by unfold CZ;rw[t6,Zm,Zm]
    rw[Y,e3,show fS (Um.ctyping_step {AY:=s})=LQ s from rfl,show fC (Um.ctyping_step {AY:=s})=sC s from rfl,ZU,ZT];congr 1<;>omega
 |ctyping_cond x=>
  obtain⟨c⟩:=x;have t:AR.wf c:=hw;obtain⟨ad,ac⟩:=Jb t;have e1:i64.wrap (m+1)=m+1:=Dh;simp only[Um.elim,e1];have hF:RN (Um.ctyping_cond {AR:=c}) d j m=(cD (d+1) c&&(AG (j<=64)&&AG (m+cN c<=256))):=by
   show(cD (d+1) c&&(AG (j+((0:Nat):Int)<=64)&&AG (m+cN c<=256)))=_;rw[show j+((0:Nat):Int)=j by omega]
  rw[hF];by_cases G:64<j
  .have:(cD (d+1) c&&(AG (j<=64)&&AG (m+cN c<=256)))=false:=by
    rw[dF (j<=64)];simp
   rw[this];refine⟨{BG:=j,BH:=m+1},?_,λh=>by cases h⟩;refine Ea (v:=(_,AE)) ?_ (Qa _);rw[Jz G];exact Qa _
  by_cases M:256<m+1
  .have:(cD (d+1) c&&(AG (j<=64)&&AG (m+cN c<=256)))=false:=by
    rw[YO (show¬m+(cN c:Int)<=256 by rw[Nz];omega)];simp
   rw[this];refine⟨{BG:=j,BH:=m+1},?_,λh=>by cases h⟩;refine Ea (v:=(_,AE)) ?_ (Qa _);rw[YO G,Jz M];exact Qa _
  obtain⟨Q,O,L⟩:=ih (c.Ac.map Cs) (d+1) j (m+1) (by
    rw[l9];show _<cN c;rw[Nz];omega) (by simp;omega) (by
    intro g q;obtain⟨y,P,rfl⟩:=Xe.1 q;exact ac y P) om om om (.inl om) om om
  have eL:Ii (c.Ac.map Cs) (d+1) j (m+1)=(cD (d+1) c&&(AG (j<=64)&&AG (m+cN c<=256))):=by
   rw[XX,kn _ _ _ _ om om, <- sG,l8,l7];simp only[XV,Vq,kI,Nz];constructor
   iterate 2 rintro⟨F,W,h6⟩;exact⟨F,om,om⟩
  rw[eL]at O L;refine⟨Q,?_,λh=>?_⟩
  .refine Ea (v:=(Q, !(cD (d+1) c&&(AG (j<=64)&&AG (m+cN c<=256))))) ?_ ?_
   .rw[YO G,YO M,ed];exact Ea (uq c t) (Ea O (Qa _))
   .cases(cD (d+1) c&&(AG (j<=64)&&AG (m+cN c<=256)))<;>exact Qa _
  .rw[L h,l8,l7,show fS (Um.ctyping_cond {AR:=c})=0 from rfl,show fC (Um.ctyping_cond {AR:=c})=cN c from rfl,Nz];congr 1;omega
theorem QoP:∀(m:Nat) (l:AA Um) (d:Nat) (g j:Int),HQ l<=m->AI l<=2097152->(∀f∈l,bP f)->d<=17->0<=g->g<=66->(g<=65\/ ∀f∈l,∃c,f=Cs c)->0<=j->j<=256->nr NK l d g j:=by
 intro m
 induction m using Nat.strongRecOn with
 |_ m V=>
 intro l d g j hm hl hw hd h0 h1 P h2 h3;unfold nr;have Q:∀c:Uk,(∃q:Uk,Ev (λn=>ir (NK n) n l (d:Int) c) (q,Ii l d g j)/\(Ii l d g j=AE->q={BG:=g+F4 l,BH:=j+F5 l}))->∃q:Uk,Ev (λn=>NK n l (d:Int) c) (q,Ii l d g j)/\(Ii l d g j=AE->q={BG:=g+F4 l,BH:=j+F5 l}):=by
  rintro c ⟨q,q1,q2⟩;exact⟨q,Jd q1,q2⟩
 refine Q _ ?_;unfold ir;cases y:l with
 |nil=>
  refine⟨{BG:=g,BH:=j},?_,λ_=>by simp[F4,F5]⟩;refine Ea (v:=CG.k {BG:=g,BH:=j}) (DY.ev (Ei ?_)) (Qa _);exact Qa _
 |cons f0 r0=>
 rw[<- y];have H:l.isEmpty=false:=by rw[y];rfl
 have W:0<AI l:=by rw[y];simp
 by_cases t:d<=16
 rotate_left
 .have:Ii l d g j=false:=by unfold Ii;rw[H,YO t];rfl
  rw[this];refine⟨{BG:=g,BH:=j},?_,λh=>by cases h⟩;rw[dT ((0:Int)<(AI l:Int)),dT ((16:Int)<(d:Int))];exact Ea (Qa _) (Qa _)
 have N:Ii l d g j=RM l d g j:=by unfold Ii RM;rw[Jz t,Vy]
 rw[N];have loop:∀(r:AA Um) (i:Nat) (g j:Int),l.drop i=r->i<=AI l->0<=g->g<=66->(g<=65\/ ∀f∈l,∃c,f=Cs c)->0<=j->j<=256->
   ∃q:Uk,DY (λn=>MR n l (d:Int) (NK n)) ({BG:=g,BH:=j},(i:Int)) (bif RM r d g j then CG.k q else CG.d (q,AD))/\(RM r d g j=AE->q={BG:=g+F4 r,BH:=j+F5 r}):=by
  intro r
  induction r with
  |nil=>
   intro i g j O X _ _ _ _ _;refine⟨{BG:=g,BH:=j},Ei ?_,λ_=>by simp[F4,F5]⟩;unfold MR;simp only[Yu O X,Vp];exact Qa _
  |cons f r T=>
   intro i g j O X g0 g1 M g2 g3;obtain⟨F,J⟩:=QG om O;have aa:fZ f<=HQ l:=by
    have:∀(l:AA Um),f∈l->fZ f<=HQ l:=by
     intro l
     induction l with
     |nil=>intro h;cases h
     |cons x l V=>
      intro h;rw[sJ];rcases X6.1 h with rfl|h
      .omega
      .have:=V h;omega
    exact this l F.mem
   obtain⟨q,E,L⟩:=Qkd (R:=NK) t F (hw f F.mem) (λY d' g j k1 k2 k3 k4 k5 k6 G k7 k8=>V (HQ Y) om Y d' g j (XS _) k2 k3 k4 k5 k6 G k7 k8) g0 g1 (M.imp id λh=>h f F.mem) g2 g3;rw[Qn5];cases B:RN f d g j with
   |false=>
    rw[B]at E;exact⟨q,Ei E,λh=>by cases h⟩
   |true=>
    rw[B]at E;obtain rfl:=L B;have hb:=by
     unfold RN at B;simp only[XV,Vq]at B;exact B.2
    obtain⟨c2,u1,u2⟩:=T (i+1) (g+fS f) (j+fC f) J (by have:=F.lt';omega) om om (.inl om) om om;refine⟨c2,Ew E u1,λh=>?_⟩;rw[u2 (by simpa using h),sH,sE];congr 1<;>omega
 obtain⟨q,E,L⟩:=loop l 0 g j rfl (XT _) h0 h1 P h2 h3;refine⟨q,?_,L⟩;refine Ea (v:=AD) ?_ (Yd (Ea E.ev ?_))
 .rw[dT ((0:Int)<(AI l:Int)),dF ((16:Int)<(d:Int))];exact Qa _
 .cases RM l d g j<;>exact Qa _
mutual
def R0:AR->Bool
 |⟨k,v,n,ps⟩=>bif k==1 then DE 1 3 v&&(DE 0 10000 n&&((AI ps:Int)==0))else
   bif k==4 then((v==0)&&(n==0))&&(((AI ps:Int)==1)&&HA ps)else
   bif (k==2)||(k==3)then((v==0)&&(n==0))&&((AG (0<(AI ps:Int))&&AG ((AI ps:Int)<=16))&&HA ps)else AD
def HA:AA AR->Bool
 |[]=>AE
 |c::r=>R0 c&&HA r
end
theorem y?(c:AR):R0 c=bif c.AX==1 then DE 1 3 c.B0&&(DE 0 10000 c.N&&((AI c.Ac:Int)==0))else
   bif c.AX==4 then((c.B0==0)&&(c.N==0))&&(((AI c.Ac:Int)==1)&&HA c.Ac)else
   bif (c.AX==2)||(c.AX==3)then((c.B0==0)&&(c.N==0))&&((AG (0<(AI c.Ac:Int))&&AG ((AI c.Ac:Int)<=16))&&HA c.Ac)else false:=by cases c;rfl
theorem qL:∀l:AA AR,HA l=l.all R0
 |[]=>rfl
 |c::r=>by rw[HA,List.all_cons,qL r]
mutual
def Z8:AY->Bool
 |⟨k,b,c,t,e⟩=>bif k==1 then DE 1 5 b&&(Cu c&&(((AI t:Int)==0)&&((AI e:Int)==0)))else
   bif k==2 then(b==0)&&(R0 c&&(AG (0<(AI t:Int))&&(H8 t&&H8 e)))else AD
def H8:AA AY->Bool
 |[]=>AE
 |s::r=>Z8 s&&H8 r
end
theorem z?(s:AY):Z8 s=bif s.AX==1 then DE 1 5 s.By&&(Cu s.AR&&(((AI s.Ba:Int)==0)&&((AI s.Bh:Int)==0)))else
   bif s.AX==2 then(s.By==0)&&(R0 s.AR&&(AG (0<(AI s.Ba:Int))&&(H8 s.Ba&&H8 s.Bh)))else false:=by cases s;rfl
theorem qM:∀l:AA AY,H8 l=l.all Z8
 |[]=>rfl
 |c::r=>by rw[H8,List.all_cons,qM r]
def fV:Um->Bool
 |.ctyping_step x=>Z8 x.AY
 |.ctyping_cond x=>R0 x.AR
theorem Qkg(l:AA AR):(l.map Cs).any (λf=> !fV f)= !HA l:=by
 rw[qL,List.not_all_eq_any_not,List.any_map];rfl
theorem me(l:AA AY):(l.map DJ).any (λf=> !fV f)= !H8 l:=by
 rw[qM,List.not_all_eq_any_not,List.any_map];rfl
theorem tC{R:Nat->AA Um->AB Bool}(c:AR)(j:AR.wf c)(m:Ev (λn=>R n (c.Ac.map Cs)) (!HA c.Ac)):
  Ev (λn=>Wu (R n) n {AR:=c}) (R0 c):=by
 rw[y?];refine Ea (Eh λ_=>Qa _) (JT (λ_=>?_) (λx=>?_))
 .exact Ea (Ea (QT _ _ _) (Eh λ_=>Ea (QT _ _ _) (Eh λ_=>Qa _))) (Qa _)
 .have fin:∀b,Ev (λn=>(bif b then(KL n {AR:=c}).bind λg=>(R n g).bind λd=>AC (!d)else AC AD).bind λf=>AC f) (b&&HA c.Ac):=by
   intro b;refine Ea ((Eh λ_=>Ea (uq c j) (Ea m (Qa _)))) ((Qa _).eq sq)
  cases t:(c.AX==4)with
  |true=>
   cases h:((c.B0==0)&&(c.N==0))with
   |true=>
    grind
   |false=>
    simp_all
  |false=>
   cases q:((c.AX==2)||(c.AX==3))with
   |true=>
    have e:Ev (λn=>(bif (c.AX==2)then AC (c.AX==2)else AC (c.AX==3))) true:=by
     refine EA ?_
     grind
    cases h:((c.B0==0)&&(c.N==0))with
    |true=>
     grind
    |false=>
     refine Ea (Ea e (Qa _)) ((fin _).eq sq)
   |false=>
    have e:Ev (λn=>(bif (c.AX==2)then AC (c.AX==2)else AC (c.AX==3))) false:=by
     refine EA ?_
     grind
    grind
theorem Qj4:∀(m:Nat) (l:AA Um),HQ l<=m->AI l<=2097152->(∀f∈l,bP f)->Ev (λn=>KN n l) (l.any λf=> !fV f):=by
 intro m
 induction m using Nat.strongRecOn with
 |_ m G=>
 intro l W V J;refine Jd ?_;show Ev (λn=>Y_ (KN n) n l) _;refine Ev.contains l _ (λn f=>W5 (KN n) n f) om λf L=>?_;have M:fZ f<=HQ l:=by
  have:∀(l:AA Um),f∈l->fZ f<=HQ l:=by
   intro l
   induction l with
   |nil=>simp
   |cons x l G=>
    intro h;rw[sJ]
    grind
  grind
 refine Ea (v:=fV f) ?_ (Qa _);have d:∀c:AR,AR.wf c->Iw c.Ac<fZ f->Ev (λn=>KN n (c.Ac.map Cs)) (!HA c.Ac):=by
  intro c B t;rw[<- Qkg];obtain⟨Q,P⟩:=Jb B;refine G (HQ (c.Ac.map Cs)) (by rw[l9];omega) _ (XS _) (by simp;omega) ?_;intro g j;obtain⟨y,q,rfl⟩:=Xe.1 j;exact P y q
 cases f with
 |ctyping_cond x=>
  obtain⟨c⟩:=x;have B:AR.wf c:=J _ L;exact tC c B (d c B (by show Iw c.Ac<cN c;rw[Nz];omega))
 |ctyping_step x=>
  obtain⟨s⟩:=x;have t:AY.wf s:=J _ L;obtain⟨H,⟨N,E⟩,⟨O,F⟩⟩:=Ja t;show Ev _ (Z8 s);rw[z?];refine JT (λ_=>?_) (λT=>JT (λ_=>?_) λ_=>Qa _)
  .refine Ea (Ea (QT _ _ _) (Eh λ_=>?_)) (Qa _);simp only[tA];refine Eh λ_=>Ea (mw s t) ((Qa _).eq ?_);unfold CZ;rw[XX];simp only[Vx,XV,X2,X0];omega
  .refine Ea (Eh λ_=>?_) (Qa _);refine Ea (tC s.AR H (d s.AR H (by show _<sZ s;rw[dM,Nz];omega))) (Eh λ_=>Eh λ_=>?_);refine Ea (mw s t) (Ea (G (HQ (CZ s)) ?_ _ (XS _) (by unfold CZ;simp;omega) ?_) ((Qa _).eq ?_))
   .have:HQ (CZ s)<sZ s:=by
     unfold CZ;rw[t8,d6,d6,dM];omega
    have R:fZ (Um.ctyping_step {AY:=s})=sZ s:=rfl;omega
   .intro g j;rcases VB.1 j with j|j
    .obtain⟨y,q,rfl⟩:=Xe.1 j;exact E y q
    .obtain⟨y,q,rfl⟩:=Xe.1 j;exact F y q
   .unfold CZ;rw[List.any_append,me,me];simp
def KW(l:AA AY):Bool:=Ig 0 l&&(AG (Hq l<=64)&&AG (Ht l<=256))
def Ic(l:AA AY):Int:=bif KW l then(bif l.isEmpty|| !H8 l then 71 else 0)else 2
theorem Qn6(l:AA AY):Ii (l.map DJ) 0 0 0=KW l:=by
 rw[XX,kn _ _ _ _ om om, <- iF,Zn,Zm];unfold KW
 grind
theorem QqQ(l:AA AY)(t:AI l<=1048576)(j:∀x∈l,AY.wf x):Ev (λn=>WI n l) (Ic l):=by
 refine Ea (l6 l om) (Ea ?_ (Qa _));have h:∀f∈l.map DJ,bP f:=by
  intro g q;obtain⟨y,m,rfl⟩:=Xe.1 q;exact j y m
 obtain⟨E,d,B⟩:=QoP _ (l.map DJ) 0 0 0 (XS _) (by simp;omega) h om om om (.inl om) om om;rw[Qn6]at d;have p3:=d.shift;refine Ea p3 ?_;unfold Ic;cases KW l with
 |false=>exact Qa _
 |true=>
  have e:((AI (l.map DJ):Int)==0)=l.isEmpty:=by
   cases l<;>simp;omega
  rw[e];refine Ea (QQ λ_=>Ea (Qj4 _ _ (XS _) (by simp;omega) h) (Qa _)) ?_
  grind[me,Qa]
def D8(d:Nat):Int:=256*(18-(d:Int))+1000
theorem vC:∀(m:Nat) (c:AR) (d:Nat),cN c<=m->d<=17->AR.wf c->∃v:Int,Ev (λn=>OA n c (d:Int)) v/\0<=v/\v<=D8 d/\
  (d<=16/\cD (d+1) c=AE/\cN c<=256->v=cN c)/\(¬(d<=16/\cD (d+1) c=AE/\cN c<=256)->256<v):=by
 intro m
 induction m using Nat.strongRecOn with
 |_ m Q=>
 intro c d hm hd hw;obtain⟨Y,N⟩:=Jb hw;have M:∀{P:Int->Prop},(∃v:Int,Ev (λn=>iq (OA n) n c (d:Int)) v/\P v)->∃v:Int,Ev (λn=>OA n c (d:Int)) v/\P v:=by
  rintro P ⟨v,q,f⟩;exact⟨v,Jd q,f⟩
 refine M ?_;unfold iq;by_cases E:d<=16
 .rw[dF ((16:Int)<(d:Int))];have ed:i64.wrap ((d:Int)+1)=((d+1:Nat):Int):=YU om;have loop:∀(r:AA AR) (i:Nat) (a:Int),c.Ac.drop i=r->i<=AI c.Ac->0<=a->a<=D8 d->
    ∃v:Int,DY (λn=>MN n c (d:Int) (OA n)) (a,(i:Int)) v/\0<=v/\v<=D8 d/\
     (M5 (d+1) r=AE/\a+Iw r<=256->v=a+Iw r)/\(¬(M5 (d+1) r=AE/\a+Iw r<=256)->256<v):=by
   intro r
   induction r with
   |nil=>
    intro i a J X G q;refine⟨a,Ei ?_,G,q,λ_=>by simp[Iw],λh=>?_⟩
    .unfold MN;simp only[Yu J X,Vp,XI];exact Qa _
    .simp[M5,Iw]at h;omega
   |cons x r O=>
    intro i a J X G q;obtain⟨j,F⟩:=QG om J;have hx:cN x<cN c:=by
     have:∀l:AA AR,x∈l->cN x<=Iw l:=by
      intro l
      induction l with
      |nil=>intro h;cases h
      |cons y l Q=>
       intro h;rw[Iw];rcases X6.1 h with rfl|h
       .omega
       .have:=Q h;omega
     have:=this _ j.mem;rw[Nz c];omega
    by_cases g:a<=256
    .obtain⟨v,H,V,R,t,T⟩:=Q (cN x) om x (d+1) (XS _) om (N x j.mem);have hB:D8 (d+1)+256=D8 d:=by unfold D8;omega
     have aa:D8 d<=6000:=by unfold D8;omega
     have e1:i64.wrap (a+v)=a+v:=Dh;obtain⟨w,q1,q2,q3,q4,W⟩:=O (i+1) (a+v) F (by have:=j.lt';omega) om om;refine⟨w,Ew ?_ q1,q2,q3,?_,?_⟩
     .unfold MN;simp only[j.lt,Vo,Jz g,XI,j.ix,j.nx,ed];refine Ea H ?_;rw[e1];exact Qa _
     .rintro⟨f,L⟩;simp only[M5,XV,Vq]at f;rw[Iw]at L⊢;have:=t ⟨f.1,f.2.1,om⟩;subst this;rw[q4 ⟨f.2.2,om⟩];omega
     .intro hn;by_cases B:d+1<=16/\cD (d+1+1) x=AE/\cN x<=256
      .have:=t B;subst this;refine W λf=>hn ⟨?_,?_⟩
       .simp only[M5,XV,Vq];exact⟨B.1,B.2.1,f.1⟩
       .rw[Iw];omega
      .have:=T B;exact W λf=>om
    .refine⟨a,Ei ?_,G,q,λh=>?_,λ_=>om⟩
     .unfold MN;simp only[j.lt,Vo,YO g,XI,Vp];exact Qa _
     .omega
  obtain⟨v,H,V,R,t,T⟩:=loop c.Ac 0 1 rfl (XT _) om (by unfold D8;omega);refine⟨v,Yd (Ea H.ev (Qa _)),V,R,?_,?_⟩
  .rintro⟨_,f,L⟩;rw[kI]at f;rw[Nz]at L⊢;rw[t ⟨f,om⟩];omega
  grind[kI,Nz]
 .rw[dT ((16:Int)<(d:Int))];refine⟨1000,Sx (Qa _),om,by unfold D8;omega,λh=>absurd h.1 E,λ_=>om⟩
def Dt:Nat->Int
 |0=>10000
 |k+1=>3*Dt k
theorem iS:∀k,10000<=Dt k
 |0=>Int.le_refl _
 |k+1=>by have:=iS k;simp[Dt];omega
theorem QnU{k:Nat}(h:k<=17):Dt k<=1291401630000:=by
 have:∀j,j<=17->Dt j<=1291401630000:=by decide+kernel
 grind
def KX(d:Nat)(l:AA AY):Prop:=Ig d l=AE/\Hq l<=64/\Ht l<=256
theorem qF:∀(m:Nat) (l:AA AY) (d:Nat),LP l<=m->d<=17->AI l<=1048576->(∀x∈l,AY.wf x)->∃a b:Int,Ev (λn=>Rw n l (d:Int)) (a,b)/\0<=a/\0<=b/\a<=Dt (17-d)/\b<=Dt (17-d)/\
  (KX d l->a=Hq l/\b=Ht l)/\(¬KX d l->64<a\/256<b):=by
 intro m
 induction m using Nat.strongRecOn with
 |_ m L=>
 intro l d hm hd hl hw;have ad:∀{P:Int->Int->Prop},(∃a b:Int,Ev (λn=>ip (Rw n) n l (d:Int)) (a,b)/\P a b)->∃a b:Int,Ev (λn=>Rw n l (d:Int)) (a,b)/\P a b:=by
  rintro P ⟨a,b,H,t⟩;exact⟨a,b,Jd H,t⟩
 refine ad ?_;unfold ip;by_cases B:0<AI l/\ ¬d<=16
 .rw[dT ((0:Int)<(AI l:Int)),dT ((16:Int)<(d:Int))];have:=iS (17-d);refine⟨1000,1000,Ea (Qa _) (Sx (Qa _)),om,om,om,om,λh=>?_,λ_=>om⟩;exfalso;cases l with
  |nil=>simp at B
  |cons x r=>
   have:=h.1;simp only[Ig,XV,Vq]at this;omega
 .have G:Ev (λn:Nat=>((bif 0<(AI l:Int) then AC (AG (16<(d:Int)))else AC AD):AB Bool)) false:=by
   grind[Qa]
  have ed:i64.wrap ((d:Int)+1)=((d+1:Nat):Int):=YU om;have loop:∀(r:AA AY) (i:Nat) (a b:Int),l.drop i=r->i<=AI l->0<=a->0<=b->a<=Dt (17-d)->b<=Dt (17-d)->
    ∃a' b':Int,DY (λn=>MP n l (d:Int) (Rw n)) (a,b,(i:Int)) (a',b')/\0<=a'/\0<=b'/\a'<=Dt (17-d)/\b'<=Dt (17-d)/\
     (Ig d r=AE/\a+Hq r<=64/\b+Ht r<=256->a'=a+Hq r/\b'=b+Ht r)/\(¬(Ig d r=AE/\a+Hq r<=64/\b+Ht r<=256)->64<a'\/256<b'):=by
   intro r
   induction r with
   |nil=>
    intro i a b hr hi G H t V;refine⟨a,b,Ei ?_,G,H,t,V,λ_=>by simp[Hq,Ht],λh=>?_⟩
    .unfold MP;simp only[Yu hr hi,Vp,XI];exact Qa _
    .simp[Ig,Hq,Ht]at h;omega
   |cons s r ab=>
    intro i a b hr hi G H t V;obtain⟨j,N⟩:=QG om hr;have al:=j.lt';have F:d<=16:=by
     omega
    have ak:sZ s<=LP l:=by
     have:∀l:AA AY,s∈l->sZ s<=LP l:=by
      intro l
      induction l with
      |nil=>intro h;cases h
      |cons y l L=>
       intro h;rw[LP];rcases X6.1 h with rfl|h
       .omega
       .have:=L h;omega
     exact this _ j.mem
    by_cases f:a<=64/\b<=256
    .obtain⟨wc,⟨Y,T⟩,⟨aa,ah⟩⟩:=Ja (hw s j.mem);have an:=dM s;obtain⟨E,g,p1,p2,p3,p4,p5,M,p7⟩:=L (LP s.Ba) om s.Ba (d+1) (XS _) om Y T;obtain⟨y1,y2,q1,q2,q3,q4,q5,q6,q7⟩:=L (LP s.Bh) om s.Bh (d+1) (XS _) om aa ah;have hB:Dt (17-d)=3*Dt (17-(d+1)):=by
      rw[show 17-d=(17-(d+1))+1 by omega];rfl
     have O:=iS (17-(d+1));have am:=QnU (k:=17-d) om;have hc:∃z:Int,0<=z/\z<=5608/\Ev (λn=>((bif (!Cu s.AR)then(CJ l (i:Int)).bind λaf=>(OA n af.AR 0).bind λac=>AC (i64.wrap ((i64.wrap ((i64.wrap (b+g))+y2))+ac))else AC (i64.wrap ((i64.wrap (b+g))+y2))):AB Int)) (b+g+y2+z)/\
       ((Cu s.AR||cD 1 s.AR)=AE/\(bif Cu s.AR then 0 else cN s.AR)<=256->z=((bif Cu s.AR then 0 else cN s.AR:Nat):Int))/\(¬((Cu s.AR||cD 1 s.AR)=AE/\(bif Cu s.AR then 0 else cN s.AR)<=256)->256<z):=by
      have e1:i64.wrap (b+g)=b+g:=Dh;have e2:i64.wrap (b+g+y2)=b+g+y2:=Dh;cases hz:Cu s.AR with
      |true=>
       refine⟨0,om,om,?_,λ_=>sq,λh=>absurd ⟨rfl,sq⟩ h⟩;simp only[Xg,Vp,e1,e2];exact(Qa _).eq om
      |false=>
       obtain⟨v,u1,u2,u3,u4,u5⟩:=vC _ s.AR 0 (XS _) om wc;have ae:v<=5608:=by unfold D8 at u3;omega
       have e3:i64.wrap (b+g+y2+v)=b+g+y2+v:=Dh;refine⟨v,u2,ae,?_,λh=>?_,λh=>?_⟩
       .simp only[Xh,Vo,j.ix,XI,e1,e2];refine Ea u1 ?_;rw[e3];exact Qa _
       .simp only[Bool.false_or,Vp]at h⊢;exact u4 ⟨om,h.1,h.2⟩
       .simp only[Bool.false_or,Vp]at h;exact u5 λq=>h ⟨q.2.1,q.2.2⟩
     obtain⟨z,z0,z1,z2,z3,z4⟩:=hc;have e4:i64.wrap (a+1)=a+1:=Dh;have e5:i64.wrap (a+1+E)=a+1+E:=Dh;have e6:i64.wrap (a+1+E+y1)=a+1+E+y1:=Dh;obtain⟨w1,w2,v1,v2,v3,v4,v5,v6,J⟩:=ab (i+1) (a+1+E+y1) (b+g+y2+z) N om om om om om;refine⟨w1,w2,Ew ?_ v1,v2,v3,v4,v5,?_,?_⟩
     .unfold MP;simp only[j.lt,Vo,Jz f.1,Jz f.2,XI,j.ix,j.nx,ed,tz];refine Ea p1 (Ea q1 ?_);simp only[j.ix,XI]at z2;refine Ea z2 ?_;rw[e4,e5,e6];exact Qa _
     .rintro⟨g1,g2,g3⟩;simp only[Ig,XV,Vq,gL]at g1;obtain⟨aj,⟨ai,ag,W⟩,R⟩:=g1;rw[Hq,ZU]at g2⊢;rw[Ht,ZT]at g3⊢;obtain⟨k1,k2⟩:=M ⟨ag,om,om⟩;obtain⟨k3,k4⟩:=q6 ⟨W,om,om⟩;have k5:=z3 ⟨ai,om⟩;obtain⟨k6,k7⟩:=v6 ⟨R,om,om⟩;constructor<;>omega
     .intro hn;by_cases X:KX (d+1) s.Ba
      .obtain⟨k1,k2⟩:=M X;by_cases b2:KX (d+1) s.Bh
       .obtain⟨k3,k4⟩:=q6 b2;by_cases Q:(Cu s.AR||cD 1 s.AR)=AE/\(bif Cu s.AR then 0 else cN s.AR)<=256
        .have k5:=z3 Q;refine J λq=>hn ⟨?_,?_,?_⟩
         .simp only[Ig,XV,Vq,gL];exact⟨F,⟨Q.1,X.1,b2.1⟩,q.1⟩
         .rw[Hq,ZU];omega
         .rw[Ht,ZT];omega
        .have:=z4 Q;exact J λq=>om
       .have:=q7 b2;exact J λq=>om
      .have:=p7 X;exact J λq=>om
    .refine⟨a,b,Ei ?_,G,H,t,V,λh=>?_,λ_=>?_⟩
     .unfold MP;have:Ev (λn:Nat=>((bif (i:Int)<(AI l:Int) then(bif a<=64 then AC (AG (b<=256))else AC AD)else AC AD):AB Bool)) false:=by
       rw[j.lt];by_cases q:a<=64
       .rw[Jz q,YO (show¬b<=256 from λz=>f ⟨q,z⟩)];exact Qa _
       .rw[YO q];exact Qa _
      exact Ea this (Yd (Qa _))
     iterate 2 omega
  have O:=iS (17-d);obtain⟨a,b,p1,p2,p3,p4,p5,M,p7⟩:=loop l 0 0 0 rfl (XT _) om om om om;refine⟨a,b,Ea G (Yd (Ea p1.ev (Qa _))),p2,p3,p4,p5,λh=>?_,λh=>?_⟩
  .obtain⟨k1,k2⟩:=M ⟨h.1,by have:=h.2.1;omega,by have:=h.2.2;omega⟩;constructor<;>omega
  .exact p7 λq=>h ⟨q.1,om,om⟩
mutual
def hP:CH->Nat
 |⟨_,_,ps⟩=>bif ps.isEmpty then 0 else 1+G9 ps
def G9:AA CH->Nat
 |[]=>0
 |p::r=>max (hP p) (G9 r)
end
theorem od(p:CH):hP p=bif p.Ac.isEmpty then 0 else 1+G9 p.Ac:=by cases p;rfl
theorem qj{p:CH}:∀{l:AA CH},p∈l->hP p<=G9 l
 |q::r,h=>by
  simp[G9];rcases X6.1 h with rfl|h
  .omega
  .have:=qj h;omega
theorem ru{α:Type}(l:AA α):((AI l:Int)==0)=l.isEmpty:=by
 cases l<;>simp;omega
theorem Zp:∀l:AA CH,AI l<=Ce l
 |[]=>XS _
 |p::r=>by have:=Zp r;rw[Ce,YS,XZ];omega
theorem uO:∀(m:Nat) (l:AA CH) (k:Nat),Ce l<=m->k<=17->AI l<=1048576->(∀x∈l,CH.wf x)->Ev (λn=>Ru n l (k:Int)) ((min (G9 l) k:Nat):Int):=by
 intro m
 induction m using Nat.strongRecOn with
 |_ m B=>
 intro l k N M O q;refine Jd ?_;show Ev (λn=>im (Ru n) n l (k:Int)) _;unfold im;have loop:∀(r:AA CH) (i:Nat) (a:Nat),l.drop i=r->i<=AI l->a<=k->DY (λn=>K5 n l (k:Int) (Ru n)) ((a:Int),(i:Int)) ((max a (min (G9 r) k):Nat):Int):=by
  intro r
  induction r with
  |nil=>
   intro i a h j d;refine Ei ?_;unfold K5;simp only[Yu h j,Vp,XI];refine(Qa _).eq ?_;simp[G9]
  |cons p r f=>
   intro i a h j F;obtain⟨d,g⟩:=QG om h;obtain⟨t,G⟩:=Ym (q p d.mem);by_cases E:0<k
   .have y:i64.wrap ((k:Int)-1)=((k-1:Nat):Int):=by rw[Dh];omega
    have H:=Y7 d.mem;rw[YS]at H;have step:Ev (λn=>K5 n l (k:Int) (Ru n) ((a:Int),(i:Int))) (.k (((max a (min (hP p) k):Nat):Int),((i+1:Nat):Int))):=by
     unfold K5;simp only[d.lt,Vo,dT ((0:Int)<(k:Int)),XI,d.ix,d.nx,y,bne,ru];rw[od];cases L:p.Ac.isEmpty with
     |true=>
      simp_all[Qa]
     |false=>
      simp only[Xh,Vo,Vp];refine Ea (Ea (B (Ce p.Ac) om p.Ac (k-1) (XS _) om t G) (Qa _)) ((Qa _).eq ?_);have J:i64.wrap (1+((min (G9 p.Ac) (k-1):Nat):Int))=((1+min (G9 p.Ac) (k-1):Nat):Int):=by rw[Dh];omega
      rw[J];congr 2;split<;>omega
    refine(Ew step (f (i+1) _ g (by have:=d.lt';omega) om)).eq ?_;rw[G9];omega
   simp_all[Ei,K5,Qa]
 refine Ea ((loop l 0 0 rfl (XT _) (XT _)).ev) ((Qa _).eq ?_);omega
theorem uN:∀(m:Nat) (l:AA CH),Ce l<=m->AI l<=1048576->(∀x∈l,CH.wf x)->Ev (λn=>KM n l) ((min (Ce l) 257:Nat):Int):=by
 intro m
 induction m using Nat.strongRecOn with
 |_ m F=>
 intro l N G B;refine Jd ?_;show Ev (λn=>X_ (KM n) n l) _;have loop:∀(r:AA CH) (i:Nat) (a:Nat),l.drop i=r->i<=AI l->a<=1048576->∃b:Nat,DY (λn=>MS n l (KM n)) ((a:Int),(i:Int)) (b:Int)/\min b 257=min (a+(Ce r-(AI r))) 257:=by
  intro r
  induction r with
  |nil=>
   intro i a j y _;refine⟨a,Ei ?_,by simp[Ce]⟩;unfold MS;simp only[Yu j y,Vp,XI];exact Qa _
  |cons p r g=>
   intro i a j y H;obtain⟨d,h⟩:=QG om j;obtain⟨E,L⟩:=Ym (B p d.mem);have M:=Y7 d.mem;rw[YS]at M;have J:=Zp r;by_cases t:a<=256
   .obtain⟨b,f,q⟩:=g (i+1) (a+min (Ce p.Ac) 257) h (by have:=d.lt';omega) om;refine⟨b,Ew ?_ f,?_⟩
    .unfold MS;simp only[d.lt,Vo,dT ((a:Int)<=256),XI,d.ix,d.nx];refine Ea (F (Ce p.Ac) om p.Ac (XS _) E L) ((Qa _).eq ?_);rw[Dh];congr 2
     all_goals omega
    .rw[q,Ce,YS,XZ];omega
   .refine⟨a,Ei ?_,om⟩;unfold MS;simp only[d.lt,Vo,dF ((a:Int)<=256),XI,Vp];exact Qa _
 obtain⟨b,f,q⟩:=loop l 0 (AI l) rfl (XT _) G;refine Ea f.ev ((Qa _).eq ?_);have:=Zp l;omega
theorem QoO:∀(m:Nat) (l:AA CH) (k:Nat),Ce l<=m->G9 l<=k->k<=17->Ce l<=256->(∀x∈l,CH.wf x)->Ev (λn=>KO n l (k:Int)) ((G9 l:Int),(Ce l:Int)):=by
 intro m
 induction m using Nat.strongRecOn with
 |_ m R=>
 intro l k Y X y g M;have B:=Zp l;refine Jd ?_;show Ev (λn=>RD (KO n) n l (k:Int)) _;unfold RD;have loop:∀(r:AA CH) (i:Nat) (a b:Nat),l.drop i=r->i<=AI l->a<=17->b+(Ce r-(AI r))<=256->DY (λn=>MI n l (k:Int) (KO n)) ((a:Int),(b:Int),(i:Int)) (((max a (G9 r):Nat):Int),((b+(Ce r-(AI r)):Nat):Int)):=by
  intro r
  induction r with
  |nil=>
   intro i a b q F _ _;refine Ei ?_;unfold MI;simp only[Yu q F,Vp,XI]
   grind[Qa,G9,Ce]
  |cons p r t=>
   intro i a b q F N h;obtain⟨d,f⟩:=QG om q;obtain⟨W,V⟩:=Ym (M p d.mem);have O:=Y7 d.mem;have j:=qj d.mem;rw[YS]at O;have H:=Zp r;rw[Ce,YS,XZ]at h;have step:Ev (λn=>MI n l (k:Int) (KO n) ((a:Int),(b:Int),(i:Int))) (.k (((max a (hP p):Nat):Int),((b+Ce p.Ac:Nat):Int),((i+1:Nat):Int))):=by
    unfold MI;simp only[d.lt,Vo,d.ix,XI,d.nx,ru];rw[od]at j⊢;cases E:p.Ac.isEmpty with
    |true=>
     have G:p.Ac=[]:=by simpa using E
     simp only[Vo,XI];rw[G];simp only[Ce,Xw,Nat.max_zero];exact Qa _
    |false=>
     rw[E]at j;simp only[Vp]at j⊢;have J:0<k:=om;have P:i64.wrap ((k:Int)-1)=((k-1:Nat):Int):=by rw[Dh];omega
     have L:((k:Int)==0)=false:=beq_false_of_ne om;rw[L,dF ((256:Int)<(b:Int)),P];simp only[Vp,XI];refine Ea (Ea (R (Ce p.Ac) om p.Ac (k-1) (XS _) om om om V) (Qa _)) ((Qa _).eq ?_);have Q:i64.wrap ((G9 p.Ac:Int)+1)=((G9 p.Ac+1:Nat):Int):=YU om;have T:i64.wrap ((b:Int)+(Ce p.Ac:Int))=((b+Ce p.Ac:Nat):Int):=by rw[Dh];omega
     simp only[Q,T];congr 2;split<;>omega
   refine(Ew step (t (i+1) _ _ f (by have:=d.lt';omega) om om)).eq ?_;rw[G9,Ce,YS,XZ];congr 1<;>omega
 refine Ea ((loop l 0 0 (AI l) rfl (XT _) om om).ev) ((Qa _).eq ?_)
 grind
def Do:Nat->AA Int->AA Int->AA Int
 |0,out,_=>out
 |k+1,out,lap=>if 256<AI out then out else Do k (out++lap) lap
mutual
def Fm:CH->AA Int
 |⟨m,laps,ps⟩=>bif 0<laps then DR [] ps else[m]
def DR:AA Int->AA CH->AA Int
 |out,[]=>out
 |out,p::r=>DR (Do (p.Ax.toNat+(bif 0<p.Ax then 0 else 1)) out (Fm p)) r
end
theorem S9(p:CH):Fm p=bif 0<p.Ax then DR [] p.Ac else[p.Al]:=by cases p;rfl
theorem lb{k:Nat}{d f:AA Int}(h:256<AI d):Do k d f=d:=by
 cases k with
 |zero=>rfl
 |succ k=>rw[Do,Vs h]
theorem rG:∀(l:AA CH) {out:AA Int},256<AI out->DR out l=out
 |[],out,h=>by rw[DR]
 |p::r,out,h=>by rw[DR,lb h];exact rG r h
theorem lg:∀(k:Nat) (out lap:AA Int),AI (Do k out lap)<=max (AI out) (256+AI lap)
 |0,out,lap=>by rw[Do];omega
 |k+1,out,lap=>by
  rw[Do];split
  .omega
  .have:=lg k (out++lap) lap
   grind
theorem sA:∀(m:Nat) (l:AA CH) (d:AA Int),Ce l<=m->AI (DR d l)<=max (AI d) (256+257*Ce l):=by
 intro m
 induction m using Nat.strongRecOn with
 |_ m x=>
 intro l;have g:∀p∈l,Ce l<=m->AI (Fm p)<=257*R4 p:=by
  intro p h B;have F:=Y7 h;rw[S9,YS]at*;cases AG (0<p.Ax)with
  |true=>
   have:=x (Ce p.Ac) om p.Ac [] (XS _)
   grind
  |false=>simp;omega
 have j:∀(r:AA CH) (d:AA Int),(∀p∈r,AI (Fm p)<=257*R4 p)->AI (DR d r)<=max (AI d) (256+257*Ce r):=by
  intro r
  induction r with
  |nil=>intro d _;rw[DR];omega
  |cons p r f=>
   intro d y;rw[DR,Ce];have E:=f (Do (p.Ax.toNat+(bif 0<p.Ax then 0 else 1)) d (Fm p)) λq t=>y q (by simp[t])
   grind[lg]
 grind
theorem Qod(p:CH):AI (Fm p)<=257*R4 p:=by
 rw[S9,YS];cases AG (0<p.Ax)with
 |true=>
  have:=sA _ p.Ac [] (XS _)
  grind
 |false=>simp;omega
theorem Qmu(kk:Int):∀(m:Nat) (l:AA CH),Ce l<=m->Ce l<=256->AI l<=1048576->(∀x∈l,CH.wf x)->Cw kk l=AE->Ev (λn=>KP n l) (DR [] l):=by
 intro m
 induction m using Nat.strongRecOn with
 |_ m ih=>
 intro l hm P hl hw Y;rw[JE,Xs]at Y;refine Jd ?_;show Ev (λn=>RE (KP n) n l) _;unfold RE;have inner:∀(p:CH) (g:AA Int) (t:p.Ax=0\/0<p.Ax/\p.Ax<=64) (N:AI g<=100000) (j:Nat) (k:Nat) (d:AA Int),j+k=p.Ax.toNat+(bif 0<p.Ax then 0 else 1)->AI d<=200000->
   ∃f:CG (AA Int) (CG ((AA Int)×Int) (CG (AA Int) (AA Int))),DY (λn=>ME n p g) (d,(j:Int)) f/\
    (f=.k (Do k d g)\/(256<AI (Do k d g)/\f=.d (.d (.d (Do k d g))))):=by
  intro p g t N j k
  induction k generalizing j with
  |zero=>
   intro d L _;refine⟨_,Ei (b:=.k d) ?_,.inl rfl⟩;unfold ME;have:¬((j:Int)<if p.Ax<1 then 1 else p.Ax):=by
    grind
   rw[YO this];exact Qa _
  |succ k R=>
   intro d L J;have y:((j:Int)<if p.Ax<1 then 1 else p.Ax):=by
    rcases t with h|⟨h,h'⟩
    .rw[h]at L⊢;simp at L⊢;omega
    .rw[Jz h]at L;simp at L;rw[Vr om];omega
   by_cases B:256<AI d
   .refine⟨_,Ei (b:=.d (.d (.d d))) ?_,.inr ⟨by rw[lb B];exact B,by rw[lb B]⟩⟩;unfold ME;rw[Jz y,dT ((256:Int)<(AI d:Int))];exact Qa _
   .obtain⟨f,E,G⟩:=R (j+1) (d++g) om (by rw[X2];omega);refine⟨f,Ew ?_ E,by rw[Do,Vr B];exact G⟩;unfold ME;rw[Jz y,dF ((256:Int)<(AI d:Int))];refine Sx (Yd (YR (Zk d g om) ?_));rw[YU om];exact Qa _
 have loop:∀(r:AA CH) (i:Nat) (d:AA Int),l.drop i=r->i<=AI l->AI d<=100000->
   ∃f:CG (AA Int) (AA Int),DY (λn=>MF n l (KP n)) (d,(i:Int)) f/\(f=.k (DR d r)\/f=.d (DR d r)):=by
  intro r
  induction r with
  |nil=>
   intro i d Q X _;refine⟨.k d,Ei ?_,.inl (by rw[DR])⟩;unfold MF;simp only[Yu Q X,Vp];exact Qa _
  |cons p r T=>
   intro i d Q X J;obtain⟨q,O⟩:=QG om Q;have y:=q.lt';have hs:=Y7 q.mem;obtain⟨w1,w2⟩:=Ym (hw p q.mem);have t:=Y p q.mem;rw[Zo]at t;have F:p.Ax=0\/0<p.Ax/\p.Ax<=64:=by
    cases W:(p.Ax==0)with
    |true=>exact .inl (by simpa using W)
    |false=>
     rw[W]at t;simp only[Vp,DE,XV,Vq]at t;exact .inr ⟨om,om⟩
   have aa:=Qod p;have B:Ev (λn=>((bif 0<p.Ax then(KP n p.Ac).bind λV=>AC V else AC [p.Al]):AB (AA Int))) (Fm p):=by
    rw[S9];refine JT (λh=>?_) (λ_=>Qa _);rw[YS]at hs;refine Ea (ih (Ce p.Ac) om p.Ac (XS _) om w1 w2 ?_) (Qa _);have:(p.Ax==0)=false:=by
     simp only[Vq]at h;exact beq_false_of_ne om
    rw[this]at t;simp only[Vp,XV]at t;exact t.2.2.2
   obtain⟨f,E,G⟩:=inner p (Fm p) F om 0 _ d (Xv _) om;rw[DR];rcases G with rfl|⟨H,rfl⟩
   .obtain⟨M,q1,q2⟩:=T (i+1) (Do (p.Ax.toNat+(bif 0<p.Ax then 0 else 1)) d (Fm p)) O om (by
     have:=lg (p.Ax.toNat+(bif 0<p.Ax then 0 else 1)) d (Fm p);omega)
    refine⟨M,Ew ?_ q1,q2⟩;unfold MF;simp only[q.lt,Vo,q.ix,XI,q.nx];exact Ea B (Ea E.ev (Qa _))
   .refine⟨.d (Do (p.Ax.toNat+(bif 0<p.Ax then 0 else 1)) d (Fm p)),Ei ?_,.inr (by rw[rG r H])⟩;unfold MF;simp only[q.lt,Vo,q.ix,XI,q.nx];exact Ea B (Ea E.ev (Qa _))
 obtain⟨f,E,G⟩:=loop l 0 [] rfl (XT _) sq;rcases G with rfl|rfl
 iterate 2 exact Ea E.ev (Qa _)
def Ci(c:CB)(m:Int):Int:=((c.Av[m.toNat]?).map (·.AX)).getD 0
def C5(c:CB)(a b:Int):Bool:=c.A4.any λl=>(l.BA==a)&&(l.To==b)
def FD(c:CB)(len:Nat):Nat->Int->AA Int->Bool
 |_,_,[]=>AE
 |i,prev,m::r=>((Ci c m==1)==AG (i=0))&&(((Ci c m==3)==AG (i+1=len))&&((AG (i=0)||C5 c prev m)&&FD c len (i+1) m r))
def HC(c:CB)(d:AN)(r:AA Int):Bool:=
 (AG (2<=AI r)&&AG (AI r<=256))&&(FD c (AI r) 0 0 r&&((bif 0<=d.Am then !((r.count d.Am:Int)==0)&&((Ci c d.Am==2)&&C5 c d.Am d.Am)else AE)&&d.Aq.all λx=>AG (x.B_<=(r.count x.Al:Int))))
def Dc(c:CB)(d:AN):Bool:=HC c d (DR [] d.Af)
def FR(l:AA Int):AA (Int×Int):=l.foldl (λm k=>QK m k (Qm m k 0+1)) []
theorem Qmz(l:AA Int)(k:Int):FR (l++[k])=QK (FR l) k (Qm (FR l) k 0+1):=by unfold FR;simp
theorem lm(l:AA Int)(k:Int):Qm (FR l) k 0=(l.count k:Int):=by
 have d:∀(l:AA Int) (m:AA (Int×Int)),Qm (l.foldl (λm k=>QK m k (Qm m k 0+1)) m) k 0=Qm m k 0+l.count k:=by
  intro l
  induction l with
  |nil=>simp
  |cons x l f=>
   grind[Y3]
 grind[FR,Qmd]
theorem QjT(kk:Int):∀(m:Nat) (l:AA CH) (d:AA Int),Ce l<=m->Cw kk l=AE->(∀x∈d,0<=x/\x<=kk)->∀x∈DR d l,0<=x/\x<=kk:=by
 intro m
 induction m using Nat.strongRecOn with
 |_ m F=>
 intro l;have rep:∀(k:Nat) (d f:AA Int),(∀x∈d,0<=x/\x<=kk)->(∀x∈f,0<=x/\x<=kk)->∀x∈Do k d f,0<=x/\x<=kk:=by
  intro k
  induction k with
  |zero=>intro d f H _;exact H
  |succ k J=>
   grind[Do]
 have E:∀(r:AA CH) (d:AA Int),Ce r<=m->Cw kk r=AE->(∀x∈d,0<=x/\x<=kk)->∀x∈DR d r,0<=x/\x<=kk:=by
  intro r
  induction r with
  |nil=>intro d _ _ h;exact h
  |cons p r j=>
   intro d B t h;rw[Ce,YS]at B;rw[Cw,XV]at t;obtain⟨g,G⟩:=t;refine j _ om G (rep _ _ _ h ?_);rw[S9];rw[Zo]at g;cases q:(p.Ax==0)with
   |true=>
    have e0:=by simpa using q
    rw[q,Vo,XV]at g;have:=g.1;unfold DE at this;simp[XV,Vq]at this;rw[e0];intro x y;simp at y;subst y;exact this
   |false=>
    rw[q]at g;simp[Vp,XV,DE,Vq]at g;rw[dT (0<p.Ax),Vo];exact F (Ce p.Ac) om p.Ac [] (XS _) g.2.2.2 sq
 grind
theorem qO{c:CB}{m:Int}(g:0<=m)(f:m<=(AI c.Av:Int)-1):∃x:Al,CJ c.Av m=AC x/\x.AX=Ci c m:=by
 obtain⟨k,rfl⟩:∃k:Nat,m=k:=⟨m.toNat,om⟩;have d:k<AI c.Av:=om
 simp_all[Qx,Ci]
theorem rn(c:CB)(a b:Int):Qm (YD DG AE c.A4) {BZ:=a,to_:=b} AD=C5 c a b:=by
 rw[uT];by_cases h:{BZ:=a,to_:=b}∈c.A4.map DG
 .rw[Vs h];obtain⟨l,d,e⟩:=Xe.1 h;obtain⟨g,f⟩:=Nm.1 e;exact(Xt.2 ⟨l,d,by simp[g,f]⟩).symm
 .rw[Vr h]
  symm
  rw[VL];intro q;obtain⟨l,d,e⟩:=Xt.1 q;simp[XV,Vx]at e
  grind[DG]
structure MA (c:CB):Prop where
 kinds:∀m∈c.Av,1<=m.AX/\m.AX<=3
 dist:∀d∈c.AO,-1<=d.Am/\d.Am<=(AI c.Av:Int)-1/\Cw ((AI c.Av:Int)-1) d.Af=AE
theorem Qpr{c:CB}(h:Cp c=AE):MA c:=by
 unfold Cp at h;simp[XV,Xs]at h;refine⟨λm g=>?_,λd f=>?_⟩
 .grind[DE]
 simp_all[Il,DE]
theorem d?{c:CB}(q:MA c){d:AN}(hd:d∈c.AO):∀x∈DR [] d.Af,0<=x/\x<=(AI c.Av:Int)-1:=
 QjT _ _ d.Af [] (XS _) (q.dist d hd).2.2 sq
theorem Qn0(c:CB)(len i:Nat)(prev m:Int)(r:AA Int):FD c len i prev (m::r)=(((Ci c m==1)==AG (i=0))&&(((Ci c m==3)==AG (i+1=len))&&((AG (i=0)||C5 c prev m)&&FD c len (i+1) m r))):=rfl
theorem Qql(i:Nat):((i:Int)==0)=AG (i=0):=by
 grind
theorem Qgo(c:CB)(r:AA Int)(L:2<=AI r)(hr:AI r<=256)(R:∀x∈r,0<=x/\x<=(AI c.Av:Int)-1):
  Ev (λn=>iter (K3 n c (YD DG AE c.A4) r) n ([],0)) (bif FD c (AI r) 0 0 r then .k (FR r)else .d AD):=by
 have loop:∀(t:AA Int) (i:Nat) (d:Int),r.drop i=t->i<=AI r->(0<i->At r (i-1) d)->DY (λn=>K3 n c (YD DG AE c.A4) r) (FR (r.take i),(i:Int)) (bif FD c (AI r) i d t then .k (FR r)else .d AD):=by
  intro t
  induction t with
  |nil=>
   intro i d j F _;refine Ei ?_;unfold K3;simp only[Yu j F,Vp,FD,Vo]
   simp_all[VH,Qa]
  |cons m t W=>
   intro i d j F Q;obtain⟨f,E⟩:=QG om j;have J:=f.lt';obtain⟨N,O⟩:=R m f.mem;obtain⟨x,T,P⟩:=qO N O;have V:i64.wrap ((AI r:Int)-1)=((AI r-1:Nat):Int):=by rw[Dh];omega
   have X:((i:Int)==((AI r-1:Nat):Int))=AG (i+1=AI r):=gq;have Y:Ev (λn:Nat=>((bif ((x.AX==1) != ((i:Int)==0))then AC AE else(bif ((x.AX==3) != ((i:Int)==(i64.wrap ((AI r:Int)-1))))then AC AE else(bif 0<(i:Int) then(CJ r (i64.wrap ((i:Int)-1))).bind λq=>(AC (Qm (YD DG AE c.A4) ({BZ:=q,to_:=m:Ul}) AD)).bind λB=>AC (!B)else AC AD))):AB Bool))
     (!(((Ci c m==1)==AG (i=0))&&(((Ci c m==3)==AG (i+1=AI r))&&(AG (i=0)||C5 c d m)))):=by
    rw[P,V,X,Qql];refine Eu (QQ λ_=>QQ λ_=>JT (v:= !C5 c d m) (w:=AD) (λh=>?_) λ_=>Qa _) ?_
    .have y:0<i:=by simpa using h
     have H:i64.wrap ((i:Int)-1)=((i-1:Nat):Int):=by rw[Dh];omega
     rw[H,(Q y).ix];simp only[XI,rn];exact Qa _
    grind
   have g:i64.wrap (Qm (FR (r.take i)) m 0+1)=Qm (FR (r.take i)) m 0+1:=by
    rw[lm];have:(r.take i).count m<=i:=by have:=List.count_le_length (a:=m) (l:=r.take i);simp at this;omega
    exact Dh
   have step:Ev (λn=>K3 n c (YD DG AE c.A4) r (FR (r.take i),(i:Int))) (bif ((Ci c m==1)==AG (i=0))&&(((Ci c m==3)==AG (i+1=AI r))&&(AG (i=0)||C5 c d m))then .k (FR (r.take (i+1)),((i+1:Nat):Int))else .d (.d AD)):=by
    unfold K3;simp only[f.lt,Vo,f.ix,XI,f.nx,T];refine Ea Y ?_;rw[g, <- Qmz, <- f.take];cases(((Ci c m==1)==AG (i=0))&&(((Ci c m==3)==AG (i+1=AI r))&&(AG (i=0)||C5 c d m)))<;>exact Qa _
   have M:FD c (AI r) i d (m::t)=((((Ci c m==1)==AG (i=0))&&(((Ci c m==3)==AG (i+1=AI r))&&(AG (i=0)||C5 c d m)))&&FD c (AI r) (i+1) m t):=by rw[Qn0];simp only[Bool.and_assoc]
   rw[M];cases G:(((Ci c m==1)==AG (i=0))&&(((Ci c m==3)==AG (i+1=AI r))&&(AG (i=0)||C5 c d m)))with
   |false=>
    rw[G]at step;exact Ei step
   |true=>
    rw[G]at step;rw[Vy];exact Ew step (W (i+1) m E om (λ_=>by simpa using f))
 exact(loop r 0 0 rfl (XT _) om).ev
theorem Qj3(c:CB)(w:C3 c)(q:MA c)(d:AN)(g:d∈c.AO)(E:∀x∈d.Af,CH.wf x)(J:Ce d.Af<=256):
  Ev (λn=>Oz n c d (YD DG AE c.A4)) (Dc c d):=by
 have B:=Zp d.Af;have y:=d? q g;have f:=sA _ d.Af [] (XS _);unfold Oz Dc;refine Ea (Qmu _ _ d.Af (XS _) J om E (q.dist d g).2.2) ?_;generalize DR [] d.Af=r at y f⊢;unfold HC;have e3:=by
  have:AI r<=1048576:=by simp at f;omega
  exact Zq this
 rw[e3];have F:(AG ((AI r:Int)-1<1)||AG (256<=(AI r:Int)-1))= !(AG (2<=AI r)&&AG (AI r<=256)):=by
  grind
 refine Ea (Eu (QQ λ_=>Qa _) F) ?_;cases h:(AG (2<=AI r)&&AG (AI r<=256))with
 |false=>exact Qa _
 |true=>
  simp[XV,Vq]at h;refine Yd (Ea (Qgo c r h.1 h.2 y) ?_);cases FD c (AI r) 0 0 r with
  |false=>exact Qa _
  |true=>
   have M:Ev (λn=>(bif 0<=d.Am then(AC (Qm (FR r) d.Am 0)).bind λj=>(bif (j==0)then AC AE else(CJ c.Av d.Am).bind λm=>(bif (m.AX != 2)then AC AE else(AC (Qm (YD DG AE c.A4) ({BZ:=d.Am,to_:=d.Am:Ul}) AD)).bind λt=>AC (!t)))else AC AD))
     (!(bif 0<=d.Am then !((r.count d.Am:Int)==0)&&((Ci c d.Am==2)&&C5 c d.Am d.Am)else AE)):=by
    rw[lm];cases H:AG (0<=d.Am)with
    |false=>exact Qa _
    |true=>
     obtain⟨x,G,L⟩:=qO (by simpa using H) (q.dist d g).2.1;simp only[XI,G,rn,L];refine Eu (QQ λ_=>QQ λ_=>Qa _) ?_;rw[bne];cases((r.count d.Am:Int)==0)<;>cases(Ci c d.Am==2)<;>cases C5 c d.Am d.Am<;>rfl
   refine Ea M ?_;cases(bif 0<=d.Am then !((r.count d.Am:Int)==0)&&((Ci c d.Am==2)&&C5 c d.Am d.Am)else AE)with
   |false=>exact Qa _
   |true=>
    refine Yd (Ea ?_ (Qa _));refine Jt d.Aq _ (λn x=>Od n x (FR r)) (by have:=w.cut d g;omega) λx _=>?_;unfold Od;rw[lm];exact Qa _
theorem Rj{a b:Nat}(h:a+b<=4611686018427387904):i64.wrap ((a:Int)+(b:Int))=((a+b:Nat):Int):=by
 rw[Dh];omega
def KU(c:CB):Nat:=AI c.Av+AI c.A4+AI c.AO+AI c.Ap+AI c.Ab+AI c.AV+AI c.A3
def bR(d:AN):Prop:=AI d.Aq<=200/\Ce d.Af<=200/\G9 d.Af<=16
structure F1 (c:CB):Prop where
 lens:KU c<=200
 name:AI c.An<=100
 dist:∀d∈c.AO,bR d
 ties:AI c.BN<=200
theorem QhP(c:CB)(w:C3 c)(q:D_ c)(hl:AI c.BN<=1048576)(hw:∀x∈c.BN,AY.wf x):∃b,Ev (λn=>LE n c) b/\(b=AE->F1 c):=by
 have hm:=w.mats;have hg:=w.legs;have hd:=w.dist;have Q:=w.wave;have ho:=w.off;have hc:=w.cat;have hp:=w.prize;have loop:∀(t:AA AN) (i s:Nat),c.AO.drop i=t->i<=AI c.AO->∃f:CG Int Bool,DY (λn=>K4 n c) ((s:Int),(i:Int)) f/\(f=.d AD\/ ∃v:Nat,f=.k (v:Int)/\(v<=200->s<=v/\ ∀d∈t,bR d)):=by
  intro t
  induction t with
  |nil=>
   intro i s F O;refine⟨.k (s:Int),Ei ?_,Or.inr ⟨s,rfl,λ_=>⟨XS _,sq⟩⟩⟩;unfold K4;simp only[Yu F O,Vp,XI];exact Qa _
  |cons d t ih=>
   intro i s F O;obtain⟨j,J⟩:=QG om F;have R:=j.lt';by_cases hs:s<=200
   .have g:=q.len d j.mem;have y:=q.wf d j.mem;have P:=w.cut d j.mem;have L:=uN _ d.Af (XS _) g y;have N:=uO _ d.Af 17 (XS _) (XS _) g y;have e1:i64.wrap ((s:Int)+(AI d.Aq:Int))=((s+AI d.Aq:Nat):Int):=Rj om;have Y:i64.wrap (((s+AI d.Aq:Nat):Int)+((min (Ce d.Af) 257:Nat):Int))=((s+AI d.Aq+min (Ce d.Af) 257:Nat):Int):=Rj om;have step:Ev (λn=>K4 n c ((s:Int),(i:Int))) (bif (16:Int)<((min (G9 d.Af) 17:Nat):Int) then .d (.d AD)else .k (((s+AI d.Aq+min (Ce d.Af) 257:Nat):Int),((i+1:Nat):Int))):=by
     unfold K4;simp only[j.lt,Vo,j.ix,XI,j.nx,dT ((s:Int)<=200)];refine Ea L (Ea N ?_);rw[e1,Y];cases AG ((16:Int)<((min (G9 d.Af) 17:Nat):Int))<;>exact Qa _
    by_cases hh:G9 d.Af<=16
    .rw[YO (show¬(16:Int)<((min (G9 d.Af) 17:Nat):Int)by omega)]at step;obtain⟨f,E,m⟩:=ih (i+1) (s+AI d.Aq+min (Ce d.Af) 257) J om;refine⟨f,Ew step E,?_⟩;rcases m with m|⟨v,m,G⟩
     .exact Or.inl m
     .refine Or.inr ⟨v,m,λQ=>?_⟩;obtain⟨k4,H⟩:=G Q;refine⟨om,λx M=>?_⟩;rcases X6.1 M with rfl|M
      .exact⟨om,om,hh⟩
      .exact H x M
    .rw[Jz (show(16:Int)<((min (G9 d.Af) 17:Nat):Int)by omega)]at step;exact⟨.d AD,Ei step,Or.inl rfl⟩
   .refine⟨.k (s:Int),Ei ?_,Or.inr ⟨s,rfl,λh=>absurd h hs⟩⟩;unfold K4;simp only[j.lt,Vo,dF ((s:Int)<=200),XI,Vp];exact Qa _
 obtain⟨f,E,m⟩:=loop c.AO 0 (KU c) rfl (XT _);have e:i64.wrap ((i64.wrap ((i64.wrap ((i64.wrap ((i64.wrap ((i64.wrap ((AI c.Av:Int)+(AI c.A4:Int)))+(AI c.AO:Int)))+(AI c.Ap:Int)))+(AI c.Ab:Int)))+(AI c.AV:Int)))+(AI c.A3:Int))=(KU c:Int):=by
  have W:AI c.Av+AI c.A4<=4611686018427387904:=om;have T:AI c.Av+AI c.A4+AI c.AO<=4611686018427387904:=om;have h3:AI c.Av+AI c.A4+AI c.AO+AI c.Ap<=4611686018427387904:=om;have V:AI c.Av+AI c.A4+AI c.AO+AI c.Ap+AI c.Ab<=4611686018427387904:=om;have X:AI c.Av+AI c.A4+AI c.AO+AI c.Ap+AI c.Ab+AI c.AV<=4611686018427387904:=om;have h6:AI c.Av+AI c.A4+AI c.AO+AI c.Ap+AI c.Ab+AI c.AV+AI c.A3<=4611686018427387904:=om;rw[Rj W,Rj T,Rj h3,Rj V,Rj X,Rj h6];rfl
 unfold LE;rw[e];rcases m with rfl|⟨v,rfl,G⟩
 .exact⟨AD,Ea E.ev (Qa _),λh=>by cases h⟩
 .obtain⟨a,b,L,N,p3,_,_,_,_⟩:=qF _ c.BN 0 (XS _) om hl hw;have B:Ev (λn=>O1 n c.BN) (AG ((AI c.BN:Int)<=20)&&(AG (a<=80)&&AG (b<=300))):=by
   unfold O1;exact Ea L (Ea (Eh λ_=>Eh λ_=>Qa _) (Qa _))
  refine⟨AG ((v:Int)<=200)&&(AG ((AI c.An:Int)<=100)&&(AG ((AI c.BN:Int)<=20)&&(AG (a<=80)&&AG (b<=300)))),Ea E.ev (Ea (Eh λ_=>Eh λ_=>Ea B (Qa _)) (Qa _)),λh=>?_⟩;simp only[XV,Vq]at h;obtain⟨k4,H⟩:=G om;exact⟨om,om,H,om⟩
def D6(c:CB):Bool:=
 !(AG (40<(AI c.Av:Int))||(AG (512<(AI c.A4:Int))||(AG (8<(AI c.AO:Int))||(AG (32<(AI c.Ap:Int))||(AG (32<(AI c.Ab:Int))||(AG (32<(AI c.AV:Int))||AG (32<(AI c.A3:Int))))))))
  &&c.AO.all λd=> !decide (64<(AI d.Aq:Int))
theorem QqL(c:CB)(w:C3 c)(q:D_ c)(k:F1 c):Ev (λn=>PC n c) (D6 c):=by
 unfold PC D6;refine Ea (QQ λ_=>QQ λ_=>QQ λ_=>QQ λ_=>QQ λ_=>QQ λ_=>Qa _) ?_;cases(AG (40<(AI c.Av:Int))||(AG (512<(AI c.A4:Int))||(AG (8<(AI c.AO:Int))||(AG (32<(AI c.Ap:Int))||(AG (32<(AI c.Ab:Int))||(AG (32<(AI c.AV:Int))||AG (32<(AI c.A3:Int))))))))with
 |true=>exact Qa _
 |false=>
  refine Yd (Ea (sS c.AO (λd=> !decide (64<(AI d.Aq:Int))) (CG.d AD) (CG.k ()) (by have:=w.dist;omega) (λi x f=>?_) ?_) ?_)
  .obtain⟨h,g,j⟩:=k.dist x f.mem;unfold V2;simp only[f.lt,f.ix,XI,f.nx];refine Ea (QoO _ x.Af 17 (XS _) om (XS _) om (q.wf x f.mem)) ?_
   grind[Qa]
  .simp_all[V2,Qa]
  .cases(c.AO.all λd=> !decide (64<(AI d.Aq:Int)))<;>exact Qa _
def CL(c:CB):Int:=
 bif D6 c then bif FQ c then bif Cp c then bif Ic c.BN==0 then bif c.AO.all (Dc c)then 0 else 72 else Ic c.BN else 71 else 70 else 2
theorem th(c:CB)(w:C3 c)(q:D_ c)(k:F1 c)(j:AI c.BN<=1048576)(g:∀x∈c.BN,AY.wf x):Ev (λn=>DZ n c) (CL c):=by
 unfold DZ CL;refine Ea (QqL c w q k) ?_;cases D6 c with
 |false=>exact Qa _
 |true=>
 refine Yd (Ea (QoI c w) ?_);cases FQ c with
 |false=>exact Qa _
 |true=>
 refine Yd (Ea (Qj2 c w q) ?_);cases t:Cp c with
 |false=>exact Qa _
 |true=>
 refine Yd (Ea (QqQ c.BN j g) ?_);rw[bne];cases(Ic c.BN==0)with
 |false=>exact Qa _
 |true=>
 have h:Ev (λn=>iter (OV n c) n ([],0)) (YD DG AE c.A4):=by
  refine mt c.A4 DG AE (by have:=w.legs;omega) (λi x m d=>?_) (λm=>?_)
  .unfold OV;simp only[d.lt,d.ix,d.nx];exact Qa _
  simp_all[OV,Qa]
 refine Yd (Ea h ?_);have d:Ev (λn=>WJ n c.AO c (YD DG AE c.A4)) (c.AO.all (Dc c)):=by
  refine Jt c.AO _ (λn x=>WK n x c (YD DG AE c.A4)) (by have:=w.dist;omega) λx f=>?_;exact Ea (Qj3 c w (Qpr t) x f (q.wf x f) (by have:=(k.dist x f).2.1;omega)) (Qa _)
 refine Ea d ?_
 grind[Qa]
theorem qY{α:Type}(l:AA α){a b:Nat}(h:a<=b)(d:b<=AI l):Dn l (a:Int) (b:Int)=AC ((l.take b).drop a):=by
 grind[Dn]
theorem pf{α:Type}(l:AA α){b:Nat}(d:b<=AI l):Dn l 0 (b:Int)=AC (l.take b):=by
 have:=qY l (XT b) d
 grind
theorem QnT{α:Type}(l:AA α){a:Nat}(d:a<=AI l):Dn l (a:Int) (AI l:Int)=AC (l.drop a):=by
 simp_all[qY]
theorem py{α:Type}(l m:AA α)(h:AI l+AI m<=4294967296):app l m=AC (l++m):=by
 unfold app;rw[XR (by exact h)];rfl
theorem mH{α:Type}(l:AA α){i:Nat}(x:α)(h:i<AI l):JG l (i:Int) x=AC (l.set i x):=by
 grind[JG]
def De{α:Type}(q:α->Bool):AA α->Nat->Int
 |[],_=> -1
 |x::l,i=>bif q x then(i:Int)else De q l (i+1)
theorem Ev.first{α:Type}{step:Nat->Int->AB (CG Int (CG Unit Int))}(l:AA α)(q:α->Bool)(t:AI l<=4611686018427387904)
  (E:∀i x,At l i x->Ev (λn=>step n (i:Int)) (bif q x then .d (.d (i:Int))else .k ((i+1:Nat):Int)))(g:Ev (λn=>step n (AI l:Int)) (.d (.k ()))):
  Ev (λn=>(Go.Sw.iter (step n) n 0).bind λb=>match b with|.k _=>AC (-1)|.d v=>AC v) (De q l 0):=by
 have loop:∀(r:AA α) (i:Nat),l.drop i=r->i<=AI l->∃d:CG Unit Int,DY step i d/\(match d with|.k _=>AC (-1)|.d v=>AC v)=AC (De q r i):=by
  intro r
  induction r with
  |nil=>
   intro i f F;have:i=AI l:=by have:=Xq.1 f;omega
   subst this;exact⟨.k (),Ei g,rfl⟩
  |cons x r G=>
   intro i f F;obtain⟨m,y⟩:=QG t f;have s:=E i x m;unfold De;cases h:q x with
   |true=>
    rw[h]at s;exact⟨_,Ei s,rfl⟩
   |false=>
    grind[DY.cont]
 obtain⟨d,j,B⟩:=loop l 0 rfl (XT _);exact Ea j.ev (EA B)
theorem eD{α:Type}(q:α->Bool):∀(l:AA α) (i:Nat),(De q l i= -1/\l.all (λx=> !q x)=AE)\/ ∃j x,De q l i=((i+j:Nat):Int)/\l[j]?=AC x/\q x=AE/\(l.take j).all (λx=> !q x)=AE
 |[],_=>.inl ⟨rfl,rfl⟩
 |x::l,i=>by
  unfold De;cases h:q x with
  |true=>exact .inr ⟨0,x,rfl,rfl,h,rfl⟩
  |false=>
   rcases eD q l (i+1)with⟨h1,h2⟩|⟨j,y,h1,h2,h3,h4⟩
   .grind
   .refine .inr ⟨j+1,y,gq,h2,h3,by simp[h,h4]⟩
theorem t_{α:Type}{p:α->Bool}{l:AA α}(h:l.all p=AE):l.filter p=l:=(by simp_all)
theorem Qm5{α:Type}{first:Nat->AB Int}{step:Nat->AA α×Int×Int->AB (CG (AA α×Int×Int) (AA α×Int))}(d:AA α)(q:α->Bool)(hl:AI d<=1048576)
  (hf:Ev first (De q d 0))
  (hs:∀(l:AA α) (i j:Nat) x y,AI l<=1048576->At l j x->l[i]?=AC y->x∈d->i<=j->Ev (λn=>step n (l,(i:Int),(j:Int))) (.k (bif q x then l else l.set i x,(bif q x then(i:Int)else((i+1:Nat):Int)),((j+1:Nat):Int))))
  (Y:∀(l:AA α) (i:Int),Ev (λn=>step n (l,i,(AI l:Int))) (.d (l,i))):
  Ev (λn=>(first n).bind λr1=>bif r1== -1 then AC d else(Go.Sw.iter (step n) n (d,r1,i64.wrap (r1+1))).bind λb=>(Dn b.1 0 b.2).bind λx=>AC x) (d.filter λx=> !q x):=by
 refine Ea hf ?_;rcases eD q d 0 with⟨P,O⟩|⟨M,X,P,O,h3,h4⟩
 .rw[P,t_ O];exact Qa _
 .have ab:=(XK.1 O).1;rw[Xv]at P;rw[P];have e0:((M:Int)== -1)=false:=sq;rw[e0,YU om];have loop:∀(r l:AA α) (i j:Nat),d.drop j=r->j<=AI d->i<j->AI l=AI d->l.drop j=d.drop j->l.take i=(d.take j).filter (λx=> !q x)->∃t:AA α,∃B:Nat,DY step (l,i,j) (t,B)/\B<=AI t/\t.take B=d.filter λx=> !q x:=by
   intro r
   induction r with
   |nil=>
    intro l i j Q hj T f J g;have:j=AI l:=by have:=Xq.1 Q;omega
    subst this;refine⟨l,i,Ei (Y l _),om,?_⟩;rw[g,f,X9]
   |cons x r W=>
    intro l i j Q hj T f J g;have R:l.drop j=x::r:=by rw[J,Q]
    obtain⟨V,G⟩:=QG om R;obtain⟨E,m⟩:=QG om Q;have aa:=V.lt';have s:=hs l i j x l[i] om V (XJ om) E.mem om;cases h:q x with
    |true=>
     rw[h]at s;obtain⟨t,B,F,L,H⟩:=W l i (j+1) m om om f (by rw[G,m]) (by rw[E.take,List.filter_append,g];simp[h]);exact⟨t,B,Ew s F,L,H⟩
    |false=>
     rw[h]at s;obtain⟨t,B,F,L,H⟩:=W (l.set i x) (i+1) (j+1) m om om (by simpa using f) (by rw[List.drop_set_of_lt om,G,m])
      (by
       rw[E.take,List.filter_append, <- g];have:i<AI (l.set i x):=by simp;omega
       rw[List.take_add_one,XJ this];simp[h,List.take_set_of_le])
     exact⟨t,B,Ew s F,L,H⟩
  have N:d.take (M+1)=d.take M++[X]:=by rw[List.take_add_one,O];rfl
  obtain⟨t,B,F,L,H⟩:=loop _ d M (M+1) rfl om om rfl rfl (by rw[N,List.filter_append,t_ h4];simp[h3]);refine Yd (Ea F.ev ?_);rw[<- H];exact EA (by simp[pf t L])
theorem my{ι α:Type}{F:Nat->ι->AB α}{V:ι->α}:∀(L:AA ι),(∀p∈L,Ev (λn=>F n p) (V p))->∃N,∀n,N<=n->∀p∈L,F n p=AC (V p)
 |[],_=>sq
 |x::L,h=>by
  obtain⟨N,hN⟩:=my L λp hp=>h p (by simp[hp]);obtain⟨M,hM⟩:=h x sq;refine⟨N+M,λn hn p hp=>?_⟩
  grind
theorem Ev.anyP{E R:Type}[DecidableEq R]{k:Nat->AA E->AB R}{l:AA E}{r:R}(h:∀p,p.Perm l->Ev (λn=>k n p) r):Ev (λn=>Go.Sw.anyP (k n) l) r:=by
 obtain⟨N,g⟩:=my (LY l) λp d=>h p (iY l p d);exact⟨N,λn f=>Qq1 λp d=>g n f p (mZ l p d)⟩
theorem Ev.isNil{α R:Type}[DecidableEq R]{l:AA α}{x y:Nat->AB R}{v:R}(f:l=[]->Ev x v)(d:Ev y v):Ev (λn=>Go.Sw.isNil l (x n) (y n)) v:=by
 unfold Go.Sw.isNil;cases q:l.isEmpty with
 |false=>exact d
 |true=>
  obtain⟨N,h⟩:=f (List.isEmpty_iff.1 q);obtain⟨M,g⟩:=d;exact⟨N+M,λn j=>gq⟩
set_option maxRecDepth 4000
def C2(a b:Int):Int:=bif a<b then-1 else bif b<a then 1 else 0
theorem qD(n:Nat)(a b:Int):Ky n a b=AC (C2 a b):=by
 unfold Ky PR C2
 grind
def IU:AA Int->Int
 |[]=>0
 |x::r=>bif x != 0 then x else IU r
theorem ob(l:AA Int)(t:AI l<=1000):Ev (λn=>KF n l) (IU l):=by
 have loop:∀(r:AA Int) (i:Nat),l.drop i=r->i<=AI l->DY (λn=>IM n l) i (bif IU r==0 then CG.k ()else CG.d (IU r)):=by
  intro r
  induction r with
  |nil=>
   intro i g h;refine Ei ?_;unfold IM;simp only[Yu g h];exact Qa _
  |cons x r m=>
   intro i g h;obtain⟨d,f⟩:=QG om g;have j:=d.lt';unfold IU;cases q:(x != 0)with
   |true=>
    have e:(x==0)=false:=gq;simp[Vo,e];refine Ei ?_;unfold IM;simp only[d.lt,d.ix,XI,q];exact Qa _
   |false=>
    refine Ew ?_ (m (i+1) f om);unfold IM;simp only[d.lt,d.ix,XI,q,d.nx];exact Qa _
 refine Ea (loop l 0 rfl (XT _)).ev ?_
 grind[Qa]
theorem lY{β:Type}(m:AA (Int×β))(k:Int):JM m k=(Jp m k).isSome:=by
 unfold JM Jp
 grind
theorem Qqx{n:Nat}(h:n<=1048576):Nat.ble n YE=true:=XR (XU h (by decide))
theorem f8{a b:Int}:C2 a b=0↔a=b:=by
 grind[C2]
set_option maxRecDepth 4000
structure DV {α:Type} (c:α->α->Int):Prop where
 swap:∀x y,c y x= -c x y
 trans:∀x y z,c x y<0->c y z<0->c x z<0
 eqt:∀x y z,c x y=0->c x z=c y z
section
variable {α:Type} {c d:α->α->Int}
theorem DV.refl(h:DV c)(x:α):c x x=0:=by have:=h.swap x x;omega
theorem DV.eqr(h:DV c){x y:α}(z:α)(e:c x y=0):c z x=c z y:=by
 rw[h.swap x z,h.swap y z,h.eqt x y z e]
theorem DV.lex(h:DV c)(k:DV d):DV λx y=>bif c x y != 0 then c x y else d x y:=by
 refine⟨λx y=>?_,λx y z=>?_,λx y z=>?_⟩
 .have e:=h.swap x y;by_cases q:c x y=0
  .have f:c y x=0:=by omega
   rw[q,f];exact k.swap x y
  grind
 .by_cases q:c x y=0
  .have e:=h.eqt x y z q;rw[q,e];by_cases f:c y z=0
   .rw[f];exact k.trans x y z
   grind
  .rw[bne_iff_ne.2 q];by_cases f:c y z=0
   .have e:=h.eqr x f
    grind
   .rw[bne_iff_ne.2 f];intro a b;have:=h.trans x y z a b
    grind
 .by_cases q:c x y=0
  .rw[q,h.eqt x y z q];intro e;rw[k.eqt x y z e]
  grind
theorem DV.on{β:Type}(h:DV c)(f:β->α):DV λx y=>c (f x) (f y):=
 ⟨λx y=>h.swap _ _,λx y z=>h.trans _ _ _,λx y z=>h.eqt _ _ _⟩
end
theorem G_:DV C2:=by
 have e:∀a b,C2 a b=if a<b then-1 else if b<a then 1 else 0:=by
  intro a b;unfold C2
  grind
 refine⟨λx y=>?_,λx y z=>?_,λx y z=>?_⟩
 iterate 3 grind
theorem YN{c:CB}(h:CB.wf c):C3 c:=by
 obtain⟨y,⟨q,j⟩,⟨G,L⟩,⟨t,f⟩,⟨E,H⟩,⟨g,B⟩,⟨F,J⟩,⟨m,M⟩,_⟩:=h;exact⟨y,q,λx d=>(j x d).1,G,t,λx d=>(f x d).1,λx d=>(f x d).2.2.2.1.1,E,λx d=>(H x d).1,g,λx d=>(B x d).1,F,λx d=>(J x d).1,m⟩
theorem Ji{c:CB}(h:CB.wf c):D_ c:=by
 obtain⟨_,_,_,⟨j,g⟩,_⟩:=h;exact⟨λd f=>(g d f).2.1.1,λd f=>(g d f).2.1.2⟩
theorem iD{c:CB}(h:CB.wf c):AI c.BN<=1048576/\ ∀x∈c.BN,AY.wf x:=by
 obtain⟨_,_,_,_,_,_,_,_,d,_⟩:=h;exact d
theorem uo(p:Nat->Bool):∀k,(∀i,i<k->p i=AE)\/ ∃j,j<k/\p j=AD/\ ∀i,i<j->p i=AE
 |0=>sq
 |k+1=>by
  rcases uo p k with h|⟨j,h1,h2,h3⟩
  .grind
  grind
theorem f9{p:Nat->Bool}{k:Nat}:(List.range k).all p=AE↔ ∀i,i<k->p i=true:=sq
theorem dY{B:Type}{step:Nat->Int->AB (CG Int B)}(k:Nat)(p:Nat->Bool)(t b:B)
  (g:∀i,i<k->Ev (λn=>step n (i:Int)) (bif p i then .k ((i+1:Nat):Int)else .d t))(x:Ev (λn=>step n (k:Int)) (.d b)):
  Ev (λn=>Go.Sw.iter (step n) n 0) (bif (List.range k).all p then b else t):=by
 rcases uo p k with h|⟨j,m,f,y⟩
 .rw[f9.2 h];exact Ev.iter (λi=>(i:Int)) k rfl (λi d=>(g i d).eq (by rw[h i d];rfl)) x
 .have:(List.range k).all p=false:=by
   rw[VL];intro q;rw[f9.1 q j m]at f;cases f
  rw[this];exact Ev.iter (λi=>(i:Int)) j rfl (λi d=>(g i om).eq (by rw[y i d];rfl)) ((g j m).eq (by rw[f];rfl))
theorem oU{α:Type}{l:AA α}{i:Nat}(hl:AI l<=1048576)(hi:i<AI l):At l i l[i]:=Y6 om sq
theorem S0{n:Nat}(h:n<=1048576):i64.wrap ((n:Int)+1)=((n+1:Nat):Int):=YU om
def Lk(x y:CD):Bool:=AG (x.Al<y.Al)||((x.Al==y.Al)&&AG (x.Ah<y.Ah))
def I7(x y:CD):Int:=IU [C2 x.Al y.Al,C2 x.Ah y.Ah]
theorem QmB(x y:CD):AG (0<=I7 x y)= !Lk x y:=by
 grind[I7,Lk,IU,C2]
theorem S4(a b:Int):Ev (λn=>Ky n a b) (C2 a b):=Ev.congr (Qa _) λn=>qD n a b
theorem Qjb(x y:CD):Ev (λn=>Mk n x y) (I7 x y):=by
 unfold Mk Wt;exact Ea (Ea (S4 _ _) (Ea (S4 _ _) (Ea (ob _ sq) (Qa _)))) (Qa _)
def FI(x:Int):Bool:=DE (-1099511627776) 1099511627776 x
theorem dw(x:Int):Ev (λn=>IS n x) (FI x):=by
 simp_all[IS,FI,DE,Eh,Qa]
def KS(c:CE)(i:Nat)(x:CD):Bool:=AG (0<(i:Int))&& !(match c.AS[i-1]? with|some y=>Lk y x|none=>AE)
def H_(c:CE)(i:Nat)(x:CD):Bool:=AG (x.Al<0)||(AG (40<=x.Al)||(AG (x.Ah<0)||(AG (255<x.Ah)||(!FI x.BI||KS c i x))))
def Ie(c:CE):Bool:=(List.range (AI c.AS)).all λi=>match c.AS[i]? with|some x=> !H_ c i x|none=>AE
theorem Qoj{α:Type}{l:AA α}{i:Nat}{y:α}(f:AI l<=1048576)(hi:0<i)(d:i<=AI l)(h:l[i-1]?=AC y):CJ l (i64.wrap ((i:Int)-1))=AC y:=by
 grind[QL,Qx]
theorem QqH(c:CE)(m:AI c.AS<=1048576):Ev (λn=>iter (OR n c) n 0) (bif Ie c then CG.k ()else CG.d 160):=by
 unfold Ie;refine dY (AI c.AS) _ _ _ (λi x=>?_) ?_
 .have d:=oU m x;unfold OR;simp only[d.lt,Vo,d.ix,XI,d.nx,d.get];have:Ev (λn=>((bif (c.AS[i]).Al<0 then AC AE else(bif 40<=(c.AS[i]).Al then AC AE else(bif (c.AS[i]).Ah<0 then AC AE else(bif 255<(c.AS[i]).Ah then AC AE else(IS n (c.AS[i]).BI).bind λf=>(bif (!f)then AC AE else(bif 0<(i:Int) then(CJ c.AS (i64.wrap ((i:Int)-1))).bind λg=>(Mk n g (c.AS[i])).bind λj=>AC (AG (0<=j))else AC AD)))))):AB Bool)) (H_ c i (c.AS[i])):=by
   unfold H_;refine QQ λ_=>QQ λ_=>QQ λ_=>QQ λ_=>Ea (dw _) (QQ λ_=>?_);unfold KS;refine Eh λh=>?_;have t:0<i:=gq;have q:i-1<AI c.AS:=om;rw[Qoj m t om (XJ q),XJ q];simp only[XI];exact Ea (Qjb _ _) ((Qa _).eq (QmB _ _))
  refine Ea this ?_
  grind[Qa]
 simp_all[OR,Qa]
def IC(x:Int):Bool:=AG (x< -2199023255552)||AG (2199023255552<x)
theorem Qmt(l:AA Int)(d:AI l<=1048576):Ev (λn=>Mi n l) (l.any IC):=by
 unfold Mi WB;refine Ev.contains l IC (λn x=>Ow n x) om λx _=>?_
 simp_all[Ow,IC,QQ,Qa]
def Ln(c:CE)(i:Nat)(r:AA Int):Bool:= !(((AI r:Int) != ((AI c.AS+1:Nat):Int))||((r[i]?.getD 1 != 0)||r.any IC))
def Ih(c:CE):Bool:=(List.range (AI c.BP)).all λi=>match c.BP[i]? with|some r=>Ln c i r|none=>AE
theorem QqI(c:CE)(t:AI c.AS<=1048576)(q:AI c.BP<=1048576)(B:∀r∈c.BP,AI r<=1048576)(y:AI c.BP=AI c.AS+1):
  Ev (λn=>iter (OC n c) n 0) (bif Ih c then CG.k ()else CG.d 160):=by
 unfold Ih;refine dY (AI c.BP) _ _ _ (λi x=>?_) ?_
 .have g:=oU q x;unfold OC;simp only[g.lt,Vo,g.ix,XI,g.nx,g.get,S0 t];have:Ev (λn=>((bif ((AI (c.BP[i]):Int) != ((AI c.AS+1:Nat):Int))then AC AE else(CJ (c.BP[i]) (i:Int)).bind λf=>(bif (f != 0)then AC AE else(Mi n (c.BP[i])).bind λd=>AC d)):AB Bool)) (!Ln c i (c.BP[i])):=by
   unfold Ln;rw[Bool.not_not];refine QQ λh=>?_;have j:AI (c.BP[i])=AI c.AS+1:=by
    grind
   have m:i<AI (c.BP[i]):=om
   simp_all[Qx,QQ,Qmt]
  refine Ea this ?_;cases Ln c i (c.BP[i])<;>exact Qa _
 simp_all[OC,Qa]
def D7(c:CE)(i j:Nat):Int:=((c.BP[i]?.getD [])[j]?).getD 0
structure LN (c:CE):Prop where
 segs:AI c.AS<=511
 far:AI c.BP=AI c.AS+1
 row:∀i,i<AI c.BP->AI (c.BP[i]?.getD [])=AI c.AS+1
theorem LN.get{c:CE}(d:LN c){i j:Nat}(hi:i<AI c.AS+1)(g:j<AI c.AS+1):c.BP[i]?=AC (c.BP[i]?.getD [])/\(c.BP[i]?.getD [])[j]?=AC (D7 c i j):=by
 have f:i<AI c.BP:=by rw[d.far];exact hi
 have h:=d.row i f
 simp_all[D7]
def NT(c:CE):Bool:=(List.range (AI c.AS+1)).all λi=>(List.range (AI c.AS+1)).all λj=>(List.range (AI c.AS+1)).all λk=> !decide (i64.wrap (D7 c i j+D7 c j k)<D7 c i k)
theorem jJ{a b:Nat}(h:a<b):AG ((a:Int)<(b:Int))=true:=gq
theorem j3{a b:Nat}(h:b<=a):AG ((a:Int)<(b:Int))=false:=gq
theorem c?(c:CE)(d:LN c):Ev (λn=>iter (OD n c) n 0) (bif NT c then CG.k ()else CG.d 160):=by
 have F:=d.segs;unfold NT;refine dY (AI c.AS+1) _ _ _ (λi m=>?_) ?_
 .unfold OD;have g:=(d.get m m).1;have t:=d.row i gq;simp only[S0 (show AI c.AS<=1048576 by omega),jJ m,Vo,Qx g,XI,S0 (show i<=1048576 by omega)];refine Ea (dY (AI c.AS+1) (λj=>(List.range (AI c.AS+1)).all λk=> !decide (i64.wrap (D7 c i j+D7 c j k)<D7 c i k)) (CG.d (CG.d (CG.d 160))) (CG.k ()) (λj f=>?_) ?_) ?_
  .unfold TU;have B:=(d.get m f).2;have y:=(d.get f f).1;have h:=d.row j gq;simp only[t,jJ f,Vo,Qx B,Qx y,XI,S0 (show j<=1048576 by omega)];refine Ea (dY (AI c.AS+1) (λk=> !decide (i64.wrap (D7 c i j+D7 c j k)<D7 c i k)) (CG.d (CG.d (CG.d (CG.d (CG.d 160))))) (CG.k ()) (λk q=>?_) ?_) ?_
   .unfold VW;have E:=(d.get f q).2;have x:=(d.get m q).2;simp only[h,jJ q,Vo,Qx E,Qx g,Qx x,XI,S0 (show k<=1048576 by omega)]
    grind[Qa]
   .unfold VW;simp only[h,j3 (XS _),Vp];exact Qa _
   grind[Qa]
  .unfold TU;simp only[t,j3 (XS _),Vp];exact Qa _
  grind[Qa]
 .unfold OD;simp only[S0 (show AI c.AS<=1048576 by omega),j3 (XS _),Vp];exact Qa _
def F7(c:CE):Bool:= !(AG (511<(AI c.AS:Int))||((AI c.BP:Int) != ((AI c.AS+1:Nat):Int)))&&(Ie c&&(Ih c&&NT c))
structure Fh (c:CE):Prop where
 segs:AI c.AS<=1048576
 far:AI c.BP<=1048576
 row:∀r∈c.BP,AI r<=1048576
theorem qA{c:CE}(h:¬511<(AI c.AS:Int))(g:AI c.BP=AI c.AS+1)(f:Ih c=AE):LN c:=by
 refine⟨om,g,λi d=>?_⟩;have:=f9.1 f i d
 grind[Ln]
theorem pW(c:CE)(w:Fh c):Ev (λn=>J5 n c) (bif F7 c then 0 else 160):=by
 unfold J5 F7;simp only[S0 w.segs];refine Ea (QQ λ_=>Qa _) ?_;cases f:(AG (511<(AI c.AS:Int))||((AI c.BP:Int) != ((AI c.AS+1:Nat):Int)))with
 |true=>exact Qa _
 |false=>
  simp only[Xh,Vy,XW,decide_eq_false_iff_not]at f⊢;have d:AI c.BP=AI c.AS+1:=by
   grind
  refine Yd (Ea (QqH c w.segs) ?_);cases Ie c with
  |false=>exact Qa _
  |true=>
   refine Ea (QqI c w.segs w.far w.row d) ?_;cases g:Ih c with
   |false=>exact Qa _
   |true=>
    refine Ea (c? c (qA f.1 d g)) ?_;cases NT c<;>exact Qa _
theorem QmD{c:CE}(h:F7 c=AE):LN c:=by
 simp only[F7,XV,Bool.not_eq_true',XW,decide_eq_false_iff_not]at h
 grind[qA]
set_option maxRecDepth 10000
structure Ff (c:CB):Prop where
 mats:AI c.Av<=40
 res:0<=c.AQ.Ak/\c.AQ.Ak<=4294967296
 drift:0<=c.AQ.BC/\c.AQ.BC<=100000
def Dp(x k:Int):Int:=Int.tdiv ((if x<0-x then 0-x else x)*k+1000000-1) 1000000
theorem lq{x k:Int}(m: -2199023255552<=x/\x<=2199023255552)(d:0<=k/\k<=100000):0<=Dp x k/\Dp x k<=274877906944/\0<=(if x<0-x then 0-x else x)*k/\(if x<0-x then 0-x else x)*k<=219902325555200000:=by
 generalize ha:(if x<0-x then 0-x else x)=a;have g:0<=a:=om;have f:a<=2199023255552:=om;have j:0<=a*k:=Int.mul_nonneg g d.1;have h:a*k<=2199023255552*100000:=Int.le_trans (Int.mul_le_mul_of_nonneg_right f d.1) om
 grind[Dp]
theorem QoN{x k:Int}(f: -2199023255552<=x/\x<=2199023255552)(d:0<=k/\k<=100000):Ev (λn=>PY n x k) (Dp x k,0):=by
 obtain⟨j,y,h,q⟩:=lq f d;unfold PY;refine Ea (v:=AD) ?_ ?_
 .grind[Qa]
 .have B:i64.wrap (0-x)=0-x:=Dh;have m:=QL (n:=(if x<0-x then 0-x else x)*k) om om;have E:=QL (n:=(if x<0-x then 0-x else x)*k+1000000) om om;have t:=QL (n:=(if x<0-x then 0-x else x)*k+1000000-1) om om;have g:=QL (n:=Dp x k) om om
  simp_all[Dp,Qa]
def F6(c:CB)(k:Int)(s:CD)(loc:Int):CK:=
 bif k != 1 then⟨0-Dp (loc-s.BI) c.AQ.BC,c.AQ.Ak+Dp (loc-s.BI) c.AQ.BC⟩else⟨0,c.AQ.Ak⟩
def Di(x:Int):Prop:= -1099511627776<=x/\x<=1099511627776
theorem pY{c:CB}(f:Ff c)(k:Int){s:CD}{d:Int}(g:Di s.BI)(h:Di d): -274877906944<=(F6 c k s d).Lo/\(F6 c k s d).Lo<=0/\0<=(F6 c k s d).Hi/\(F6 c k s d).Hi<=279172874240:=by
 obtain⟨q,j⟩:=f.res;obtain⟨m,t,_,_⟩:=lq (x:=d-s.BI) (by unfold Di at g h;omega) f.drift;unfold F6
 grind
theorem ki{c:CB}(f:Ff c){i:Nat}{m:Al}(h:c.Av[i]?=AC m){s:CD}(t:s.Al=(i:Int)){d:Int}(q:Di s.BI)(j:Di d):Ev (λn=>Iu n c s d) (F6 c m.AX s d):=by
 obtain⟨B,x⟩:=f.res;have g: -2199023255552<=d-s.BI/\d-s.BI<=2199023255552:=by unfold Di at q j;omega
 obtain⟨y,E,_,_⟩:=lq g f.drift;unfold Iu F6;simp only[t,Qx h,XI];cases m.AX != 1 with
 |false=>exact Qa _
 |true=>
  simp only[Vo];refine Ea (v:=⟨0-Dp (d-s.BI) c.AQ.BC,c.AQ.Ak+Dp (d-s.BI) c.AQ.BC⟩) ?_ (Qa _);rw[QL (n:=d-s.BI) om om];refine Ea (QoN g f.drift) ?_
  grind[QL,Qa]
def Ik(c:CB)(x:Int):Bool:=AG (0<=x)&&AG (x<(AI c.Av:Int))
theorem lx(c:CB)(x:Int):Ev (λn=>LA n c x) (Ik c x):=by
 simp_all[LA,Ik,Eh,Qa]
theorem E?{c:CB}{x:Int}(h:Ik c x=AE):∃i m,x=((i:Nat):Int)/\c.Av[i]?=AC m:=by
 unfold Ik at h;simp only[XV,Vq]at h;exact⟨x.toNat,c.Av[x.toNat]'om,om,sq⟩
def nb(v lo hi:Int):Bool:= !(AG (v<lo))&& !(AG (hi<v))
theorem kb(v lo hi:Int):nb v lo hi=AE↔lo<=v/\v<=hi:=by
 simp_all[nb]
def Fc(x y:Ud):Int:=IU [C2 x.B9 y.B9,C2 x.mat y.mat,C2 x.BT y.BT]
theorem vW(n:Nat)(a b d:Int):KF (n+4) [a,b,d]=AC (IU [a,b,d]):=by
 unfold KF;have g:IM (n+4) [a,b,d] 0=bif a != 0 then AC (.d (.d a))else AC (.k 1):=rfl
 have h:IM (n+4) [a,b,d] 1=bif b != 0 then AC (.d (.d b))else AC (.k 2):=rfl
 have f:IM (n+4) [a,b,d] 2=bif d != 0 then AC (.d (.d d))else AC (.k 3):=rfl
 have j:IM (n+4) [a,b,d] 3=AC (.d (.k ())):=rfl;unfold IU IU IU IU;rw[iter,g];cases q:(a != 0)with
 |true=>rfl
 |false=>
  simp only[Vp];rw[iter,h];cases t:(b != 0)with
  |true=>rfl
  |false=>
   simp only[Vp];rw[iter,f];cases m:(d != 0)with
   |true=>rfl
   |false=>
    rfl
theorem QiE(n:Nat):(λx y=>MU (n+4) x y)=λx y=>AC (Fc x y):=by
 funext x y
 grind[MU,Fc,qD,vW]
def LS(h:CN):Ud:=⟨h.BB,h.Al,h.Ah⟩
def DQ(c:CB)(h:CN):Bool:=AG (h.Al<0)||(AG ((AI c.Av:Int)<=h.Al)||(!nb h.Ah 0 255||(!nb h.BB 0 1048576||(!nb h.BQ (-1099511627776) 1099511627776||(!nb h.A8 (-1099511627776) 1099511627776||AG (h.A8<h.BQ))))))
def Lu(W:Int)(a b:CN):Bool:=AG (Fc (LS a) (LS b)<0)||(AG (Fc (LS a) (LS b)=0)&&AG (W<i64.wrap (b.BQ-a.A8)))
def Ij(c:CB)(x:AA CN)(i:Nat):Bool:=match x[i]? with
 |none=>AE
 |some h=> !DQ c h&&((i==0)||(match x[i-1]? with
  |none=>AE
  |some p=>Lu c.AQ.A6 p h))
def Dx(ok:Nat->Bool):Nat->Nat->Bool
 |0,_=>AE
 |d+1,i=>ok i&&Dx ok d (i+1)
def Dq(c:CB)(x:AA CN):Bool:=Dx (Ij c x) (AI x) 0
theorem QhO(c:CB)(x:AA CN)(E:AI x<=1000000)(step:Nat->Int->AB (CG Int (CG Unit Int)))
  (m:∀i h,At x i h->(∀p,0<i->x[i-1]?=AC p->Ev (λn=>step n (i:Int)) (bif DQ c h then CG.d (CG.d 170)else bif Lu c.AQ.A6 p h then CG.k ((i+1:Nat):Int)else CG.d (CG.d 170)))/\(i=0->Ev (λn=>step n (i:Int)) (bif DQ c h then .d (.d 170)else .k ((i+1:Nat):Int))))
  (f:Ev (λn=>step n (AI x:Int)) (.d (.k ()))):Ev (λn=>iter (step n) n 0) (bif Dq c x then CG.k ()else CG.d 170):=by
 have:=ud (step:=step) (s0:=(0:Int)) (λi=>(i:Int)) (AI x) (λi=>(bif Dx (Ij c x) (AI x-i) i then CG.k ()else CG.d 170:CG Unit Int)) rfl (λi q=>?_) ?_
 .exact this
 .have d:=Y6 (x:=x[i]) om (XJ q);generalize x[i]=h at d;obtain⟨B,y⟩:=m i h d;have j:AI x-i=(AI x-(i+1))+1:=om;have g:Ij c x i=(!DQ c h&&((i==0)||(match x[i-1]? with|none=>AE|some p=>Lu c.AQ.A6 p h))):=by
   unfold Ij;rw[d.get]
  have t:Dx (Ij c x) (AI x-i) i=(Ij c x i&&Dx (Ij c x) (AI x-(i+1)) (i+1)):=by rw[j];rfl
  grind
 .rw[Nat.sub_self];exact f
theorem Qjc(p q:Ud):Ev (λn=>MU n p q) (Fc p q):=by
 refine⟨4,λn d=>?_⟩;obtain⟨k,rfl⟩:∃k,n=k+4:=⟨n-4,om⟩;exact congrFun (congrFun (QiE k) p) q
theorem Qqt(n:Nat)(v:Int):KG n v=AC (nb v (-1099511627776) 1099511627776):=by
 unfold KG;by_cases d:(-1099511627776)<=v
 .rw[Jz d];simp only[Vo,XI,Option.some.injEq];rw[XX,kb,Vq];omega
 .rw[YO d];simp only[Vp,XI,Option.some.injEq]
  symm
  rw[VL];intro z;rw[kb]at z;omega
theorem Qms{e:Int}(c:CB)(x:AA CN)(H:AI x<=1000000)(he:Ev (λn=>DZ n c) e):Ev (λn=>J6 n c x) (bif e != 0 then e else bif Dq c x then 0 else 170):=by
 unfold J6;refine Ea he ?_;cases(e != 0)with
 |true=>exact Qa _
 |false=>
  simp only[Vp];refine Ea (QhO c x H _ (λi h d=>?_) ?_) ?_
  .have t:Ev (λn=>((bif h.Al<0 then AC AE else(bif (AI c.Av:Int)<=h.Al then AC AE else(bif h.Ah<0 then AC AE else(bif 255<h.Ah then AC AE else(bif h.BB<0 then AC AE else(bif 1048576<h.BB then AC AE else(KG n h.BQ).bind λj=>(bif (!j)then AC AE else(KG n h.A8).bind λg=>(bif (!g)then AC AE else AC (AG (h.A8<h.BQ)))))))))):AB Bool)) (DQ c h):=by
    have e:DQ c h=(AG (h.Al<0)||(AG ((AI c.Av:Int)<=h.Al)||(AG (h.Ah<0)||(AG (255<h.Ah)||(AG (h.BB<0)||(AG (1048576<h.BB)||(!nb h.BQ (-1099511627776) 1099511627776||(!nb h.A8 (-1099511627776) 1099511627776||AG (h.A8<h.BQ))))))))):=by
     grind[DQ,nb]
    rw[e];refine QQ λ_=>QQ λ_=>QQ λ_=>QQ λ_=>QQ λ_=>QQ λ_=>?_;simp only[Qqt,XI];exact QQ λ_=>QQ λ_=>Qa _
   refine⟨λp E F=>?_,λE=>?_⟩
   .have y:((i:Int)==0)=false:=by grind
    have m:i64.wrap ((i:Int)-1)=((i-1:Nat):Int):=by
     grind[QL]
    unfold OG;simp only[d.lt,Vo,d.ix,XI,d.nx,y,Vp,m,Qx F];cases B:DQ c h with
    |true=>
     refine Ea (v:=(CG.d (CG.d (CG.d 170)):CG Unit (CG Int (CG Unit Int)))) (Ea t ?_) (Qa _);rw[B];exact Qa _
    |false=>
     refine Ea (v:=(bif Lu c.AQ.A6 p h then CG.k ()else CG.d (CG.d (CG.d 170)):CG Unit (CG Int (CG Unit Int)))) (Ea t ?_) ?_
     .rw[B];simp only[Vp];refine Ea (Qjc _ _) ?_;show Ev (λn=>((bif 0<Fc (LS p) (LS h) then AC (AG (0<Fc (LS p) (LS h)))else(bif (Fc (LS p) (LS h)==0)then AC (AG ((i64.wrap (h.BQ-p.A8))<=c.AQ.A6))else AC AD)):AB Bool).bind λf=>((bif f then AC (CG.d (CG.d (CG.d 170)))else AC (CG.k ())):AB (CG Unit (CG Int (CG Unit Int))))) _;unfold Lu;rcases Int.lt_trichotomy (Fc (LS p) (LS h)) 0 with q|q|q
      iterate 3 grind[Qa]
     grind[Qa]
   .subst E;unfold OG;have G:(((0:Nat):Int)==0)=true:=rfl;simp only[d.lt,Vo,d.ix,XI,d.nx,G];refine Ea (v:=(bif DQ c h then CG.d (CG.d (CG.d 170))else CG.k ():CG Unit (CG Int (CG Unit Int)))) (Ea t ?_) ?_
    .cases DQ c h<;>exact Qa _
    .cases DQ c h<;>exact Qa _
  .simp_all[OG,Qa]
  .cases Dq c x<;>exact Qa _
theorem qy(c:CB)(d:CB.wf c):∃b,Ev (λn=>LE n c) b/\(b=AE->F1 c/\Ev (λn=>DZ n c) (CL c)):=by
 have w:=YN d
 grind[Ji,iD,QhP,th]
mutual
def ZD:CH->AA Int
 |⟨m,laps,ps⟩=>bif laps==0 then[m]else(List.replicate laps.toNat (Cm ps)).flatten
def Cm:AA CH->AA Int
 |[]=>[]
 |p::r=>ZD p++Cm r
end
theorem gg(p:CH):ZD p=bif p.Ax==0 then[p.Al]else(List.replicate p.Ax.toNat (Cm p.Ac)).flatten:=by cases p;rfl
theorem mT(p:CH)(r:AA CH):Cm (p::r)=ZD p++Cm r:=by rw[Cm]
theorem r_:∀(k:Nat) (out lap:AA Int),AI (Do k out lap)<=256->Do k out lap=out++(List.replicate k lap).flatten
 |0,out,lap,_=>by simp[Do]
 |k+1,out,lap,h=>by
  rw[Do]at h⊢;by_cases hb:256<AI out
  .grind
  .rw[Vr hb]at h⊢;rw[r_ k _ _ h,Xl,Vl,Vi]
theorem qn{kk:Int}{p:CH}(h:Fx kk p=AE):p.Ax=0\/(1<=p.Ax/\p.Ax<=64/\Cw kk p.Ac=AE):=by
 rw[Zo]at h;cases d:(p.Ax==0)with
 |true=>grind
 |false=>
  simp_all[DE]
theorem QoF(kk:Int):∀(m:Nat) (l:AA CH) (f:AA Int),Ce l<=m->Cw kk l=AE->AI (DR f l)<=256->DR f l=f++Cm l:=by
 intro m
 induction m using Nat.strongRecOn with
 |_ m F=>
 intro l
 induction l with
 |nil=>grind[DR,Cm]
 |cons p r j=>
  intro f E q y;rw[JE,List.all_cons,XV, <- JE]at q;have h:R4 p+Ce r<=m:=by rw[Ce]at E;omega
  rw[DR]at y⊢;by_cases x:256<AI (Do (p.Ax.toNat+(bif 0<p.Ax then 0 else 1)) f (Fm p))
  .grind
  .have B:=r_ _ _ _ (Nat.le_of_not_lt x);rw[j _ om q.2 y,B,mT,Vi];congr 2;rcases qn q.1 with H|⟨a,b,d⟩
   .simp_all[S9,gg]
   .have t:AG (0<p.Ax)=true:=Jz om;have G:(p.Ax==0)=false:=gq;have g:AI (Fm p)<=256:=by
     rw[B,t]at x;simp only[Vo,Xw]at x;have:p.Ax.toNat=(p.Ax.toNat-1)+1:=om
     grind
    rw[S9,t,Vo]at g;rw[YS]at h;have:=F (Ce p.Ac) om p.Ac [] (XS _) d g;rw[S9,gg,t,G,Vo,Vo,Vp,Xw,this,Vh]
theorem QqE(kk:Int):∀(m:Nat) (l:AA CH) (f:AA Int),Ce l<=m->Cw kk l=AE->AI l<=1048576->(∀x∈l,CH.wf x)->AI f+AI (Cm l)<=256->Ev (λn=>Rs n l f) (f++Cm l):=by
 intro m
 induction m using Nat.strongRecOn with
 |_ m X=>
 intro l f hm L O Q P;rw[JE,Xs]at L;refine Jd ?_;show Ev (λn=>ik (Rs n) n l f) _;unfold ik;have inner:∀(p:CH) (w:AA Int),0<=p.Ax->p.Ax<=64->(∀o:AA Int,AI o+AI w<=256->Ev (λn=>Rs n p.Ac o) (o++w))->∀(k j:Nat) (o:AA Int),j+k=p.Ax.toNat->AI o+(List.replicate k w).flatten.length<=256->
   DY (λn=>ML n (Rs n) p) (o,(j:Int)) (o++(List.replicate k w).flatten):=by
  intro p w H Y q k
  induction k with
  |zero=>
   intro j o W _;refine Ei ?_;unfold ML;simp only[YO (show¬((j:Int)<p.Ax)by omega),Vp,List.replicate_zero,List.flatten_nil,Vg];exact Qa _
  |succ k F=>
   intro j o W h;rw[Xl,Vl]at h⊢;simp only[X2]at h;refine(Ew ?_ (F (j+1) (o++w) om gq)).eq sq;unfold ML;simp only[dT ((j:Int)<p.Ax),Vo];refine Ea (q o om) ?_;rw[YU om];exact Qa _
 have loop:∀(r:AA CH) (i:Nat) (o:AA Int),l.drop i=r->i<=AI l->AI o+AI (Cm r)<=256->DY (λn=>OS n l (Rs n)) (o,(i:Int)) (o++Cm r):=by
  intro r
  induction r with
  |nil=>
   intro i o q J _;refine Ei ?_;unfold OS;simp only[Yu q J,Vp,Cm,Vg];exact Qa _
  |cons p r G=>
   intro i o q J h;obtain⟨g,B⟩:=QG om q;have N:=g.lt';rw[mT,X2]at h;have T:=Y7 g.mem;rw[YS]at T;obtain⟨M,w2⟩:=Ym (Q p g.mem);have R:=L p g.mem;refine(Ew ?_ (G (i+1) (o++ZD p) B om gq)).eq (by rw[mT,Vi]);unfold OS;simp only[g.lt,Vo,g.ix,XI,g.nx];rcases qn R with H|⟨a,b,d⟩
   .have t:(p.Ax==0)=true:=by simp[H]
    have y:ZD p=[p.Al]:=by rw[gg,t];rfl
    rw[y]at h⊢;refine Ea (v:=o++[p.Al]) ?_ ?_
    .rw[t];refine Sx ?_
     grind[py,Qa]
    .refine Ea (v:=o++[p.Al]) ((Ei ?_).ev) (Qa _)
     simp_all[ML,Qa]
   .have t:(p.Ax==0)=false:=gq;have y:ZD p=(List.replicate p.Ax.toNat (Cm p.Ac)).flatten:=by rw[gg,t];rfl
    rw[y]at h⊢;refine Ea (v:=o) ?_ ?_
    .rw[t];exact Qa _
    .refine Ea ((inner p (Cm p.Ac) om b (λV E=>X (Ce p.Ac) om p.Ac V (XS _) d M w2 E) p.Ax.toNat 0 o om om).ev) (Qa _)
 exact Ea ((loop l 0 f sq (XT _) P).ev) (Qa _)
structure Ft (c:CB):Prop where
 parts:∀d∈c.AO,Cw ((AI c.Av:Int)-1) d.Af=AE
 route:∀d∈c.AO,2<=AI (DR [] d.Af)/\AI (DR [] d.Af)<=256
 len:∀d∈c.AO,AI d.Af<=1048576
 wf:∀d∈c.AO,∀x∈d.Af,CH.wf x
 legs:AI c.A4<=512
theorem Ft.exp{c:CB}(g:Ft c){d:AN}(f:d∈c.AO):DR [] d.Af=Cm d.Af:=by
 have:=QoF _ _ d.Af [] (XS _) (g.parts d f) (g.route d f).2
 grind
theorem mc{c:CB}(g:Ft c){d:AN}(f:d∈c.AO):Ev (λn=>O8 n d.Af) (Cm d.Af):=by
 unfold O8;have h:=(g.route d f).2;rw[g.exp f]at h;refine Ea ((QqE _ _ d.Af [] (XS _) (g.parts d f) (g.len d f) (g.wf d f) (by simpa using h)).eq (Vh _)) (Qa _)
theorem gy{c:CB}(he:Ev (λn=>DZ n c) 0){i:Nat}{d:AN}(f:c.AO[i]?=AC d):Ev (λn=>Ir n c (i:Int)) (d,0):=by
 unfold Ir;refine Ea he ?_;have g:=(XK.1 f).1
 simp_all[YO,Qa,Qx]
theorem QqK(c:CB)(d:AI c.A4<=512):∃m,Ev (λn=>Go.Sw.iter (J3 n c) n (([]:AA (Ub×Cr)),0)) m:=by
 refine⟨_,YL c.A4 (λ(m:AA (Ub×Cr)) x=>QK m ({BZ:=x.BA,to_:=x.To:Ub}) x) [] (λm i=>(m,(i:Int))) (λm=>m) om rfl (λi x m ha _=>?_) ?_⟩
 .unfold J3;simp only[ha.lt,Vo,ha.ix,XI,ha.nx];exact Qa _
 simp_all[J3,Qa]
theorem Qm4{α:Type}{step:Nat->Int->AB (CG Int (CG Unit Int))}(l:AA α)(q:α->Bool)(H:AI l<=1048576)
  (B:∀i x,At l i x->Ev (λn=>step n (i:Int)) (bif q x then .d (.d (i:Int))else .k ((i+1:Nat):Int)))(F:Ev (λn=>step n (AI l:Int)) (.d (.k ()))):
  (∃i x,At l i x/\l.find? q=AC x/\Ev (λn=>Go.Sw.iter (step n) n 0) (.d (i:Int)))\/l.find? q=AF/\Ev (λn=>Go.Sw.iter (step n) n 0) (.k ()):=by
 have f:∀(r:AA α) (i:Nat),l.drop i=r->i<=AI l->(∃j x,At l j x/\r.find? q=AC x/\DY step (i:Int) (.d (j:Int)))\/r.find? q=AF/\DY step (i:Int) (.k ()):=by
  intro r
  induction r with
  |nil=>
   intro i m E;have:i=AI l:=by have:=Xq.1 m;omega
   simp_all[Ei]
  |cons x r G=>
   intro i m E;obtain⟨g,y⟩:=QG om m;have t:=g.lt';have h:=B i x g;rw[List.find?_cons];cases e:q x with
   |true=>rw[e]at h;exact .inl ⟨i,x,g,rfl,Ei h⟩
   |false=>
    grind[DY.cont]
 rcases f l 0 sq (XT _)with⟨j,x,a,b,d⟩|⟨a,b⟩
 .exact .inl ⟨j,x,a,b,d.ev⟩
 .exact .inr ⟨a,b.ev⟩
theorem Qqv{c:CB}(w:C3 c)(q:D_ c)(h:CL c=0):Ft c:=by
 unfold CL at h;cases g:D6 c with
 |false=>grind
 |true=>
  rw[g]at h;cases x:FQ c with
  |false=>grind
  |true=>
   rw[x]at h;cases f:Cp c with
   |false=>grind
   |true=>
    rw[f]at h;simp only[Vo]at h;have t:c.AO.all (Dc c)=true:=by
     grind
    unfold Cp at f;simp only[XV]at f;obtain⟨_,_,_,m,_⟩:=f;unfold D6 at g;simp only[XV,Bool.not_eq_true',XW,decide_eq_false_iff_not]at g;rw[Xs]at t m;refine⟨λd j=>?_,λd j=>?_,q.len,q.wf,?_⟩
    .simp_all[Il]
    .simp_all[Dc,HC]
    omega
theorem Qqc:∀j:Fin 257,(AG (0<(u64.wrap ((u64.wrap ((u64.wrap ((Y8 .u64 (u64.wrap ([(0:Int)].length:Int)) 32)*(Y8 .u64 (u64.wrap ((j:Nat):Int)) 32)))+(Y8 .u64 (u64.wrap ((u64.wrap ((Y8 .u64 (u64.wrap ([(0:Int)].length:Int)) 32)*(Jl .u64 (u64.wrap ((j:Nat):Int)) 4294967295)))+(Y8 .u64 (u64.wrap ((Jl .u64 (u64.wrap ([(0:Int)].length:Int)) 4294967295)*(Jl .u64 (u64.wrap ((j:Nat):Int)) 4294967295))) 32))) 32)))+(Y8 .u64 (u64.wrap ((Jl .u64 (u64.wrap ((u64.wrap ((Y8 .u64 (u64.wrap ([(0:Int)].length:Int)) 32)*(Jl .u64 (u64.wrap ((j:Nat):Int)) 4294967295)))+(Y8 .u64 (u64.wrap ((Jl .u64 (u64.wrap ([(0:Int)].length:Int)) 4294967295)*(Jl .u64 (u64.wrap ((j:Nat):Int)) 4294967295))) 32))) 4294967295)+(u64.wrap ((Jl .u64 (u64.wrap ([(0:Int)].length:Int)) 4294967295)*(Y8 .u64 (u64.wrap ((j:Nat):Int)) 32))))) 32)))))=false:=by decide+kernel
theorem Qn1:∀j:Fin 257,(AG (9223372036854775807<(u64.wrap ((u64.wrap ([(0:Int)].length:Int))*(u64.wrap ((j:Nat):Int))))))=false:=by decide+kernel
theorem Qqd:∀j:Fin 257,(i64.wrap (u64.wrap ((u64.wrap ([(0:Int)].length:Int))*(u64.wrap ((j:Nat):Int)))))=((j:Nat):Int):=by decide+kernel
theorem Qn2(x:Int)(K:Nat)(F:K<=256):∀(m j:Nat),1<=j->j<=K->K-j<=m->DY (λn=>OP n) (List.replicate j x++List.replicate (K-j) 0,(j:Int)) (List.replicate K x):=by
 intro m
 induction m with
 |zero=>
  intro j y t B;obtain rfl:j=K:=om
  simp_all[Ei,OP,Qa]
 |succ m q=>
  intro j y t B;by_cases E:j=K
  .grind
  .have g:AI (List.replicate j x++List.replicate (K-j) (0:Int))=K:=by simp;omega
   refine Ew ?_ (q (j+min j (K-j)) om om om);unfold OP;simp only;generalize hL:List.replicate j x++List.replicate (K-j) (0:Int)=L at g;have d:L.take j=List.replicate j x:=gq;have h:L.drop j=List.replicate (K-j) 0:=gq;rw[Jz om,Vo,QnT L om,XI,pf L om,XI];unfold RV;simp only[XI,Int.toNat_natCast,g,d];have f:L.take j++(List.replicate j x).take (K-j)++L.drop (j+min (AI (List.replicate j x)) (K-j))=List.replicate (j+min j (K-j)) x++List.replicate (K-(j+min j (K-j))) 0:=by
    rw[<- List.drop_drop,d,h,List.length_replicate,List.take_replicate,List.drop_replicate,List.replicate_append_replicate]
    grind
   rw[d]at f;rw[f];have w:i64.wrap ((j:Int)+((min (AI (List.replicate j x)) (K-j):Nat):Int))=((j+min j (K-j):Nat):Int):=by
    rw[List.length_replicate,Dh];omega
   rw[w];exact Qa _
theorem ZP{α:Type}{c:Bool}{f g:Nat->AB α}{v:α}(h:c=AD)(q:Ev g v):Ev (λn=>bif c then f n else g n) v:=by simp_all
theorem mR(x:Int)(k:Nat)(f:1<=k)(d:k<=256):Ev (λn=>LF n [x] (k:Int)) (List.replicate k x):=by
 have j:=Qqc ⟨k,om⟩;have h:=Qn1 ⟨k,om⟩;have g:=Qqd ⟨k,om⟩;unfold LF;refine Ea (v:=()) (by grind[Qa]) (Ea (v:=()) (Qa _) (Ea (v:=AD) ?_ (Ea (v:=()) (Qa _) ?_)))
 .exact ZP j (EA (congrArg AC h))
 .refine Ea (v:=List.replicate k 0) (EA ((congrArg (λz=>mk z (0:Int)) g).trans ?_)) ?_
  .show mk (k:Int) 0=_;unfold mk
   grind
  .refine Ea (v:=List.replicate 1 x++List.replicate (k-1) 0) (EA ?_) ?_
   .unfold RV
    grind
   .have e:((min [x].length (AI (List.replicate k (0:Int))):Nat):Int)=((1:Nat):Int):=by simp;omega
    rw[e];exact Ea ((Qn2 x k d k 1 (XS _) f om).ev) (Qa _)
set_option maxRecDepth 10000
theorem Y4{c:CB}(h:CL c=0):D6 c=AE/\Cp c=AE/\ ∀d∈c.AO,Dc c d=true:=by
 unfold CL at h
 grind
theorem q_{c:CB}(h:CL c=0):Ff c:=by
 obtain⟨d,f,_⟩:=Y4 h;unfold D6 at d;unfold Cp Lt DE at f;simp only[XV,Bool.not_eq_true',XW,decide_eq_false_iff_not,Vq]at d f;refine⟨?_,?_,?_⟩
 iterate 3 omega
theorem Kh{α:Type}{c:Bool}{f g:Nat->AB α}{v:α}(h:c=AE)(q:Ev f v):Ev (λn=>bif c then f n else g n) v:=by simp_all
def D5(l:AA Int)(x:Int):Nat->Nat
 |0=>0
 |j+1=>bif (l[j+1]? ==AC x)then j+1 else D5 l x j
theorem lX(l:AA Int)(x:Int):∀j,D5 l x j<=j
 |0=>XS _
 |j+1=>by
  unfold D5;have:=lX l x j
  grind
def DI(d:AN)(k:Nat):AA Int:=(Cm d.Af).take (D5 (Cm d.Af) d.Am (AI (Cm d.Af)-1)+1)++List.replicate k d.Am++(Cm d.Af).drop (D5 (Cm d.Af) d.Am (AI (Cm d.Af)-1)+1)
def CY(c:CB)(i k:Int):AA Int×Int:=
 bif i<0 then([],90)else match c.AO[i.toNat]? with
 |none=>([],90)
 |some d=>bif AG (k<0)||(AG (0<k)&&AG (d.Am<0))then([],90)else bif 256-(AI (Cm d.Af):Int)<k then([],2)else(DI d k.toNat,0)
theorem mS(d:AN)(e:Int)(l:AA Int)(hl:AI l<=256):∀(m:Nat),m<AI l->DY (λn=>MK n (d,e) l) (m:Int) ((D5 l d.Am m:Nat):Int)
 |0,h=>by
  grind[DY.done,MK,D5,Qa]
 |m+1,h=>by
  have hx:l[m+1]?=AC (l[m+1]'(h)):=sq;unfold D5;rw[hx];cases hq:((l[m+1]'(h)) != d.Am)with
  |true=>
   have e1:(AC (l[m+1]'(h))==AC d.Am)=false:=gq;rw[e1,Vp];refine Ew ?_ (mS d e l hl m om);unfold MK;rw[Jz (show(0:Int)<((m+1:Nat):Int)by omega),Vo,Qx hx,XI,hq,XI,Vo,QL (n:=((m+1:Nat):Int)-1) om om,show((m+1:Nat):Int)-1=(m:Int)by omega];exact Qa _
  |false=>
   have e1:(AC (l[m+1]'(h))==AC d.Am)=true:=gq;rw[e1,Vo];refine Ei ?_;unfold MK;rw[Jz (show(0:Int)<((m+1:Nat):Int)by omega),Vo,Qx hx,XI,hq,XI,Vp];exact Qa _
theorem lw{c:CB}(g:Ft c)(he:Ev (λn=>DZ n c) 0)(i k:Int):Ev (λn=>MC n c i k) (CY c i k):=by
 unfold CY;by_cases F:i<0
 .rw[Jz F,Vo];unfold MC Hm;refine Ea (v:=((90:Int),([]:AA Int))) (Ea (v:=CS.c0 90) ?_ (Qa _)) (Qa _);refine Ea (v:=(Uu,90)) ?_ (Kh rfl (Qa _));unfold Ir;refine Ea he (Yd (Ea (v:=AE) ?_ (Qa _)));rw[Jz F];exact Qa _
 rw[YO F,Vp];obtain⟨j,rfl⟩:∃j:Nat,i=(j:Int):=⟨i.toNat,om⟩;rw[Int.toNat_natCast];cases q:c.AO[j]? with
 |none=>
  have H:AI c.AO<=j:=gq;unfold MC Hm;refine Ea (v:=((90:Int),([]:AA Int))) (Ea (v:=CS.c0 90) ?_ (Qa _)) (Qa _);refine Ea (v:=(Uu,90)) ?_ (Kh rfl (Qa _));unfold Ir;refine Ea he (Yd (Ea (v:=AE) ?_ (Qa _)))
  simp_all[Qa]
 |some d=>
  simp only;have t:=VG q;have h:=(g.route d t);rw[g.exp t]at h;have w:i64.wrap (256-(AI (Cm d.Af):Int))=256-(AI (Cm d.Af):Int):=Dh;unfold MC Hm;cases B:(AG (k<0)||(AG (0<k)&&AG (d.Am<0)))with
  |true=>
   refine Ea (v:=((90:Int),([]:AA Int))) (Ea (v:=CS.c1 ()) (Ea (gy he q) (Yd (Ea (v:=AE) ?_ (Qa _)))) (Qa _)) (Qa _)
   grind[Qa]
  |false=>
   have x:=B;simp only[XW,decide_eq_false_iff_not,Bool.and_eq_false_iff]at x;cases G:AG (256-(AI (Cm d.Af):Int)<k)with
   |true=>
    refine Ea (v:=((2:Int),Cm d.Af)) (Ea (v:=CS.c2 (Cm d.Af)) (Ea (gy he q) (Yd (Ea (v:=AD) ?_ (Yd (Ea (mc g t) ?_))))) (Qa _)) (Qa _)
    .exact Eu (QQ λ_=>Eh λ_=>Qa _) B
    simp_all[Qa]
   |false=>
    have J:=Vv G;obtain⟨f,rfl⟩:∃f:Nat,k=(f:Int):=⟨k.toNat,om⟩;obtain⟨m,y⟩:=QqK c g.legs;rw[Int.toNat_natCast];refine Ea (v:=(0,DI d f)) (Ea (v:=CS.c3 (DI d f,m)) (Ea (gy he q) (Yd (Ea (v:=AD) ?_ (Yd (Ea (mc g t) ?_))))) (Qa _)) (Qa _)
    .exact Eu (QQ λ_=>Eh λ_=>Qa _) B
    .simp only[w,G,Vp];refine Ea (v:=DI d f) ?_ (Ea y (Qa _));by_cases M:f=0
     .simp_all[Qa,DI]
     .refine Kh (dT ((0:Int)<(f:Int))) ?_;have E:=mS d 0 (Cm d.Af) h.2 (AI (Cm d.Af)-1) om;have L:=lX (Cm d.Af) d.Am (AI (Cm d.Af)-1);rw[QL (n:=(AI (Cm d.Af):Int)-1) om om,show(AI (Cm d.Af):Int)-1=((AI (Cm d.Af)-1:Nat):Int)by omega];refine Ea E.ev (Ea (mR d.Am f om om) (Ea (EA ?_) (Qa _)))
      grind[DI,QL,ZG,Nat.blt,Nat.ble_eq_true_of_le,YE]
theorem iR{c:CB}(g:Ft c){i k:Int}(h:(CY c i k).2=0):∃(j:Nat) (d:AN) (f:Nat),i=(j:Int)/\k=(f:Int)/\c.AO[j]?=AC d/\(0<f->0<=d.Am)/\AI (Cm d.Af)+f<=256/\(CY c i k).1=DI d f:=by
 unfold CY at h⊢;by_cases t:i<0
 .grind
 rw[YO t,Vp]at h⊢;cases m:c.AO[i.toNat]? with
 |none=>grind
 |some d=>
  rw[m]at h;simp only at h⊢;cases q:(AG (k<0)||(AG (0<k)&&AG (d.Am<0)))with
  |true=>grind
  |false=>
   rw[q]at h;cases x:AG (256-(AI (Cm d.Af):Int)<k)with
   |true=>grind
   |false=>
    grind
def F2(c:CB):AA Int->Prop
 |a::b::r=>C5 c a b=AE/\F2 c (b::r)
 |_=>True
theorem sr{c:CB}{len:Nat}:∀{r:AA Int} {i:Nat} {p:Int},FD c len i p r=AE->F2 c r/\(i≠0->∀m q,r=m::q->C5 c p m=AE)
 |[],_,_,_=>⟨trivial,sq⟩
 |m::r,i,p,h=>by
  unfold FD at h;simp only[XV,Bool.or_eq_true,Vq]at h;obtain⟨_,_,h1,h2⟩:=h;obtain⟨a1,a2⟩:=sr h2;refine⟨?_,λhi m' q e=>?_⟩
  .cases r with
   |nil=>trivial
   |cons b r=>exact⟨a2 om b r rfl,a1⟩
  grind
theorem F2.tail{c:CB}:∀{r:AA Int} (k:Nat),F2 c r->F2 c (r.drop k)
 |r,0,h=>by simpa using h
 |[],k+1,_=>by simp[F2]
 |[a],k+1,_=>by simp[F2]
 |a::b::r,k+1,h=>by
  rw[List.drop_succ_cons];exact F2.tail k h.2
theorem F2.append{c:CB}:∀{p:AA Int} {x:Int} {q:AA Int},F2 c (p++[x])->F2 c (x::q)->F2 c (p++x::q)
 |[],x,q,_,h=>h
 |[a],x,q,h1,h2=>⟨h1.1,h2⟩
 |a::b::r,x,q,h1,h2=>⟨h1.1,F2.append (p:=b::r) h1.2 h2⟩
theorem qH{c:CB}{x:Int}(h:C5 c x x=AE){q:AA Int}(hq:F2 c (x::q)):∀k,F2 c (x::(List.replicate k x++q))
 |0=>hq
 |k+1=>⟨h,qH h hq k⟩
theorem F2.at{c:CB}:∀{r:AA Int} {i:Nat} {a b:Int},F2 c r->r[i]?=AC a->r[i+1]?=AC b->C5 c a b=AE
 |[],_,_,_,_,h,_=>by simp at h
 |[x],i,_,_,_,_,h=>by simp at h
 |x::y::r,0,a,b,h,h1,h2=>by simp at h1 h2;subst h1;subst h2;exact h.1
 |x::y::r,i+1,a,b,h,h1,h2=>F2.at (r:=y::r) h.2 (by simpa using h1) gq
theorem rm(l:AA Int)(x:Int):∀m,m<AI l->(∃i,i<=m/\0<i/\l[i]?=AC x)->l[D5 l x m]?=AC x
 |0,h,⟨i,h1,h2,_⟩=>om
 |m+1,h,⟨i,h1,h2,h3⟩=>by
  unfold D5;cases e:(l[m+1]? ==AC x)with
  |true=>grind
  |false=>
   simp only[Vp];refine rm l x m om ⟨i,?_,h2,h3⟩
   grind
theorem Ql0{c:CB}(g:Ft c)(N:CL c=0){d:AN}(G:d∈c.AO)(k:Nat)(Q:0<k->0<=d.Am):F2 c (DI d k):=by
 have h:=(Y4 N).2.2 d G;unfold Dc HC at h;rw[g.exp G]at h;simp only[XV,Vq]at h;obtain⟨⟨l2,J⟩,P,E,_⟩:=h;have Y:=(sr P).1;unfold DI;by_cases T:k=0
 .simp_all
 have O:=Q om;rw[Jz O,Vo]at E;simp only[XV,Bool.not_eq_true',beq_eq_false_iff_ne,ne_eq]at E;obtain⟨e1,V,e3⟩:=E;have f:d.Am∈Cm d.Af:=by
  grind
 obtain⟨i,X,L⟩:=List.getElem_of_mem f;have F:0<i:=by
  rcases Nat.eq_zero_or_pos i with q|q
  .subst q;cases W:Cm d.Af with
   |nil=>grind
   |cons m r=>
    simp_all[FD]
  .exact q
 have t:=rm (Cm d.Af) d.Am (AI (Cm d.Af)-1) om ⟨i,om,F,gq⟩;generalize hb:D5 (Cm d.Af) d.Am (AI (Cm d.Af)-1)=b at t;have M:b<AI (Cm d.Af):=gq;have j:(Cm d.Af).drop b=d.Am::(Cm d.Af).drop (b+1):=by
  grind[List.drop_eq_getElem_cons]
 have B:(Cm d.Af).take (b+1)=(Cm d.Af).take b++[d.Am]:=by
  grind
 have H:∀{p q:AA Int},F2 c (p++q)->F2 c p:=by
  intro p
  induction p with
  |nil=>intro q _;trivial
  |cons x p R=>
   intro q h;cases p with
   |nil=>trivial
   |cons y p=>exact⟨h.1,R h.2⟩
 have a1:F2 c ((Cm d.Af).take b++[d.Am]):=by
  grind[List.take_append_drop]
 grind[F2.tail,F2.append,qH]
set_option maxRecDepth 10000
theorem Ib{x:Int}:FI x=AE↔Di x:=by
 simp_all[FI,DE,Di]
def Dj(k:CE)(h:CN):Int:=De (λx:CD=>({mat:=x.Al,BT:=x.Ah:Uf})=={mat:=h.Al,BT:=h.Ah}) k.AS 0
def Fv(c:CB)(s:CD)(h:CN):CK:={Lo:=i64.wrap (h.BQ+(F6 c (Ci c h.Al) s h.BQ).Lo),Hi:=i64.wrap (h.A8+(F6 c (Ci c h.Al) s h.A8).Hi)}
def Ds(c:CB)(k:CE)(h:CN):AB Ue:=
 bif Ci c h.Al==1 then AC {Ai:= -1,A':=Fv c {Al:=h.Al,Ah:=h.Ah,BI:=0} h}else
  bif Dj k h<0 then AF else(k.AS[(Dj k h).toNat]?).map λs=>{Ai:=Dj k h,A':=Fv c s h}
def C9(c:CB)(k:CE):AA CN->AB (AA Ue)
 |[]=>AC []
 |h::r=>(Ds c k h).bind λx=>(C9 c k r).map λl=>x::l
theorem mr(c:CB)(k:CE)(h:CN)(r:AA CN):C9 c k (h::r)=(Ds c k h).bind λx=>(C9 c k r).map λl=>x::l:=rfl
theorem l5(k:CE)(h:CN)(f:AI k.AS<=1048576):Ev (λn=>Ou n k.AS h) (Dj k h):=by
 unfold Ou;refine Ev.first k.AS _ om (λi x d=>?_) ?_
 .unfold V3;simp only[d.lt,Vo,d.ix,XI,d.nx]
  grind[Wz,Qa]
 simp_all[V3,Qa]
theorem rK{k:CE}{h:CN}(q:¬Dj k h<0):∃(j:Nat) (s:CD),Dj k h=(j:Int)/\k.AS[j]?=AC s/\s.Al=h.Al/\s.Ah=h.Ah:=by
 rcases eD (λx:CD=>({mat:=x.Al,BT:=x.Ah:Uf})=={mat:=h.Al,BT:=h.Ah}) k.AS 0 with⟨d,_⟩|⟨j,s,d,f,g,_⟩
 .unfold Dj at q;omega
 .refine⟨j,s,by unfold Dj;rw[d];simp,f,?_⟩
  grind
structure HK (c:CB) (h:CN):Prop where
 mat:∃(i:Nat) (m:Al),h.Al=(i:Int)/\c.Av[i]?=AC m
 fi:Di h.BQ
 la:Di h.A8
 le:h.BQ<=h.A8
theorem Qpu{c:CB}{h:CN}(q:DQ c h=AD):HK c h:=by
 unfold DQ at q;simp only[XW,decide_eq_false_iff_not,Bool.not_eq_false',kb]at q;obtain⟨g,j,_,_,f,d,m⟩:=q;exact⟨⟨h.Al.toNat,c.Av[h.Al.toNat]'om,om,sq⟩,f,d,om⟩
theorem p9{p:Nat->Bool}:∀{m i:Nat},Dx p m i=AE->∀j,i<=j->j<i+m->p j=AE
 |0,i,_,j,h1,h2=>om
 |m+1,i,h,j,h1,h2=>by
  unfold Dx at h;rw[XV]at h;rcases Nat.eq_or_lt_of_le h1 with rfl|q
  .exact h.1
  .exact p9 h.2 j q om
theorem qk{c:CB}{x:AA CN}(h:Dq c x=AE):∀y∈x,HK c y:=by
 intro y d;obtain⟨i,f,rfl⟩:=List.getElem_of_mem d;have:=p9 h i (XT _) om
 simp_all[Ij,Qpu]
theorem pU{c:CB}(t:Ff c)(he:Ev (λn=>DZ n c) 0){s:CD}{i:Nat}{m:Al}(j:s.Al=(i:Int))(g:c.Av[i]?=AC m)(f:Di s.BI){d:Int}(h:Di d):
  Ev (λn=>Hg n c s d) (F6 c m.AX s d,0):=by
 have q:Ik c s.Al=true:=by
  have:=(XK.1 g).1
  simp_all[Ik]
 unfold Hg;refine Ea he (Yd (Ea (v:=AD) (Ea (lx c _) ?_) (Yd (Ea (ki t g j f h) (Qa _)))));rw[q];refine Yd (Ea (dw d) ?_);rw[Ib.2 h];refine Yd (Ea (dw s.BI) ?_);rw[Ib.2 f];exact Qa _
structure Kj (k:CE):Prop where
 dims:LN k
 ev:Ev (λn=>J5 n k) 0
 anc:∀s∈k.AS,Di s.BI
theorem lO{k:CE}(w:Fh k)(h:F7 k=AE):Kj k:=by
 have e:=pW k w;rw[h]at e;refine⟨QmD h,e,λs g=>?_⟩;unfold F7 at h;simp only[XV]at h;have f:=h.2.1;unfold Ie at f;obtain⟨i,d,rfl⟩:=List.getElem_of_mem g;have:=f9.1 f i d;rw[XJ d]at this;unfold H_ at this;simp only[Bool.not_eq_true',XW,Bool.not_eq_false']at this;exact Ib.1 this.2.2.2.2.1
theorem Qqo{c:CB}{h:CN}{i:Nat}{m:Al}(d:h.Al=(i:Int))(f:c.Av[i]?=AC m):Ci c h.Al=m.AX:=by
 simp_all[Ci]
theorem QoG{c:CB}{k:CE}(T:Ff c)(he:Ev (λn=>DZ n c) 0)(kk:Kj k)(x:AA CN)(Y:∀y∈x,HK c y)(hl:AI x<=1000):
  Ev (λn=>iter (F_ n c k x) n ([],0)) (match C9 c k x with|some l=>CG.k l|none=>CG.d (CM.c0 170)):=by
 have hs:=kk.dims.segs;have O:∀(r:AA CN) (a:AA Ue) (i:Nat),x.drop i=r->i<=AI x->AI a<=i->DY (λn=>F_ n c k x) (a,(i:Int)) (match C9 c k r with|some l=>CG.k (a++l)|none=>CG.d (CM.c0 170)):=by
  intro r
  induction r with
  |nil=>
   intro a i Q R d;refine Ei ?_;unfold F_;simp only[Yu Q R,Vp];refine(Qa _).eq ?_;simp[C9]
  |cons h r ih=>
   intro a i Q R aa;obtain⟨d,J⟩:=QG om Q;have V:=d.lt';obtain⟨⟨j,m,E,t⟩,W,f2,f3⟩:=Y h d.mem;have M:=Qqo E t;have step:∀(g:Int×CD),g.2.Al=(j:Int)->Di g.2.BI->
     Ev (λn=>(Hg n c g.2 h.BQ).bind λL=>(Hg n c g.2 h.A8).bind λP=>(app a [{Ai:=g.1,A':={Lo:=i64.wrap (h.BQ+L.1.Lo),Hi:=i64.wrap (h.A8+P.1.Hi):CK}:Ue}]).bind λH=>AC (CG.k (H,((i+1:Nat):Int)):CG (AA Ue×Int) (CG (AA Ue) CM)))
      (CG.k (a++[{Ai:=g.1,A':=Fv c g.2 h}],((i+1:Nat):Int))):=by
    intro g G F;refine Ea (pU T he G t F W) (Ea (pU T he G t F f2) (Ea (EA (gZ om)) ((Qa _).eq ?_)));unfold Fv;rw[M]
   have f:∀(y:Ue),Ds c k h=AC y->Ev (λn=>F_ n c k x (a,(i:Int))) (CG.k (a++[y],((i+1:Nat):Int)))->DY (λn=>F_ n c k x) (a,(i:Int)) (match C9 c k (h::r)with|some l=>CG.k (a++l)|none=>CG.d (CM.c0 170)):=by
    intro y X N;refine Ew N ((ih (a++[y]) (i+1) J om (by simp;omega)).eq ?_);rw[mr,X]
    grind
   cases B:(Ci c h.Al==1)with
   |true=>
    refine f {Ai:= -1,A':=Fv c {Al:=h.Al,Ah:=h.Ah,BI:=0} h} (by unfold Ds;rw[B];rfl) ?_;unfold F_;simp only[d.lt,Vo,d.ix,XI,d.nx];refine Ea (l5 k h om) ?_;simp only[E,Qx t,XI]
    simp_all[Di]
   |false=>
    by_cases q:Dj k h<0
    .have tn:Ds c k h=none:=by unfold Ds;grind
     refine Ei ?_;unfold F_;rw[mr,tn];simp only[d.lt,Vo,d.ix,XI,d.nx];refine Ea (l5 k h om) ?_;simp only[E,Qx t,XI];rw[M]at B;refine Ea (v:=CG.d (.d (.d (CM.c0 170)))) (by rw[B,Jz q];exact Qa _) ?_;exact Qa _
    .obtain⟨jj,s,G,F,g3,g4⟩:=rK q;refine f {Ai:=Dj k h,A':=Fv c s h} (by unfold Ds;grind) ?_;unfold F_;simp only[d.lt,Vo,d.ix,XI,d.nx];refine Ea (l5 k h om) ?_;simp only[E,Qx t,XI];rw[M]at B;refine Ea (v:=CG.k (Dj k h,s)) (by rw[B,YO q,G];simp_all[Qx,Qa]) ?_;exact step (Dj k h,s) (g3.trans E) (kk.anc s (VG F))
 have:=(O x [] 0 rfl (XT _) (XS _)).ev
 grind
theorem rU{c:CB}{k:CE}:∀{x:AA CN} {l:AA Ue},C9 c k x=AC l->AI l=AI x/\ ∀(i:Nat) (h:CN),x[i]?=AC h->∃t,l[i]?=AC t/\Ds c k h=AC t
 |[],l,h=>by
  simp_all[C9]
 |y::x,l,h=>by
  unfold C9 at h;cases e:Ds c k y with
  |none=>grind
  |some t=>
   rw[e]at h;cases e2:C9 c k x with
   |none=>grind
   |some l2=>
    rw[e2]at h;cases h;obtain⟨p1,p2⟩:=rU e2
    grind
theorem Qng{c:CB}{k:CE}{h:CN}{t:Ue}(q:Ds c k h=AC t):t.Ai= -1\/ ∃(j:Nat) (s:CD),t.Ai=(j:Int)/\k.AS[j]?=AC s/\s.Al=h.Al:=by
 unfold Ds at q;cases f:(Ci c h.Al==1)with
 |true=>grind
 |false=>
  rw[f]at q;by_cases d:Dj k h<0
  .grind
  .rw[YO d]at q;obtain⟨j,s,m,g,x,_⟩:=rK d
   grind
def Km(a:AA (Int×Ue)×Int)(h:Ae):AA (Int×Ue)×Int:=
 bif !(JM a.1 h.AT)then(QK a.1 h.AT {Ai:= -1,A':={Lo:=h.Lo,Hi:=h.Hi}},if a.2<h.AT then h.AT else a.2)else a
def HG(l:AA Ae):AA (Int×Ue)×Int:=l.foldl Km ([],-1)
theorem QoK(l:AA Ae)(d:AI l<=1048576):Ev (λn=>iter (OJ n l) n ([],(-1),0)) (HG l):=by
 refine YL l Km ([],-1) (λa i=>(a.1,a.2,(i:Int))) (λa=>a) om rfl (λi x a ha _=>?_) ?_
 .unfold OJ Km;simp only[ha.lt,Vo,ha.ix,XI,ha.nx]
  grind[Qa]
 simp_all[OJ,Qa]
theorem lH:∀(l:AA Ae) (a:AA (Int×Ue)×Int) (p:Int),Jp (l.foldl Km a).1 p=(match Jp a.1 p with|some x=>AC x|none=>(l.find? λh=>h.AT==p).map λh=>{Ai:= -1,A':={Lo:=h.Lo,Hi:=h.Hi}})
 |[],a,p=>gq
 |x::l,a,p=>by
  rw[XC,lH l (Km a x) p];unfold Km;rw[lY];cases hx:Jp a.1 x.AT with
  |some y=>
   grind
  |none=>
   simp only[Option.isSome_none,Xh,Vo,tL]
   grind
theorem Qok(l:AA Ae)(p:Int):Jp (HG l).1 p=(l.find? λh=>h.AT==p).map λh=>{Ai:= -1,A':={Lo:=h.Lo,Hi:=h.Hi}}:=by
 unfold HG;rw[lH];rfl
def IB(c:CB)(a b:Int):Cr:=(c.A4.find? λl=>(l.BA==a)&&(l.To==b)).getD {BA:=0,To:=0,Bo:=0,Br:=0}
def FJ(c:CB)(s:CK)(a b:Int):CK:={Lo:=i64.wrap (s.Lo+(IB c a b).Bo),Hi:=i64.wrap (s.Hi+(IB c a b).Br)}
def FZ(c:CB):CK->Int->AA Int->AA CK
 |_,_,[]=>[]
 |s,a,b::r=>FJ c s a b::FZ c (FJ c s a b) b r
def HB(c:CB):AA Int->AA CK
 |[]=>[]
 |a::r=>{Lo:=0,Hi:=0}::FZ c {Lo:=0,Hi:=0} a r
theorem uW(c:CB)(s:CK)(a b:Int)(r:AA Int):FZ c s a (b::r)=FJ c s a b::FZ c (FJ c s a b) b r:=rfl
theorem tU(c:CB):∀(r:AA Int) (s:CK) (a:Int),AI (FZ c s a r)=AI r
 |[],_,_=>rfl
 |b::r,s,a=>by unfold FZ;simp[tU c r]
theorem QlX(c:CB)(r:AA Int):AI (HB c r)=AI r:=by
 cases r with
 |nil=>rfl
 |cons a r=>unfold HB;simp[tU]
theorem a?{c:CB}(G:AI c.A4<=512){k:CE}{r:AA Int}{s:AA CK}{x:AA CN}{t:AA Ue}{hi:Int}{m:AA (Int×Ue)}{i:Nat}{a b:Int}(q:r[i]?=AC a)(F:i<=100000)(hg:C5 c a b=AE):
  ∃j l,Ev (λn=>PO n c.A4 ((i+1:Nat):Int) b c k r s x t hi m c k) ((j:Nat):Int)/\c.A4[j]?=AC l/\l=IB c a b:=by
 have E:∀j y,At c.A4 j y->Ev (λn=>MD n c.A4 ((i+1:Nat):Int) b c k r s x t hi m c k (j:Int)) (bif (y.BA==a)&&(y.To==b)then .d (.d (j:Int))else .k ((j+1:Nat):Int)):=by
  intro j y d;unfold MD;simp only[d.lt,Vo,d.ix,XI,d.nx];refine Ea (v:=(y.BA==a)&&(y.To==b)) ?_ ?_
  .unfold Wg;rw[show i64.wrap (((i+1:Nat):Int)-1)=(i:Int)by rw[Dh];omega,Qx q,XI]
   simp_all[Eh,Qa]
  grind[Qa]
 have h:Ev (λn=>MD n c.A4 ((i+1:Nat):Int) b c k r s x t hi m c k (AI c.A4:Int)) (.d (.k ())):=by
  simp_all[MD,Qa]
 rcases Qm4 c.A4 (λl=>(l.BA==a)&&(l.To==b)) om E h with⟨j,y,g,f,B⟩|⟨g,f⟩
 .refine⟨j,y,?_,g.get,?_⟩
  .unfold PO;exact Ea B (Qa _)
  .unfold IB;rw[f];rfl
 grind[C5]
theorem QqG{c:CB}(N:AI c.A4<=512){k:CE}{r:AA Int}{x:AA CN}{t:AA Ue}{h:AA (Int×Ue)×Int}(Q:AI r<=256)(P:F2 c r):
  Ev (λn=>iter (IL n c k x (r,0) t h) n ([],{Lo:=0,Hi:=0:CK},0)) (HB c r):=by
 have F:∀(q:AA Int) (i:Nat) (a:Int) (s:CK) (o:AA CK),r[i]?=AC a->r.drop (i+1)=q->AI o=i+1->DY (λn=>IL n c k x (r,0) t h) (o,s,((i+1:Nat):Int)) (o++FZ c s a q):=by
  intro q
  induction q with
  |nil=>
   intro i a s o y E H;have:=(XK.1 y).1;refine Ei ?_;unfold IL;simp only[Yu E om,Vp];refine(Qa _).eq ?_;simp[FZ]
  |cons b q O=>
   intro i a s o y E H;obtain⟨g,B⟩:=QG om E;have L:=g.lt';obtain⟨j,l,M,R,X⟩:=a? (c:=c) (k:=k) (s:=o) (x:=x) (t:=t) (hi:=h.2) (m:=h.1) N y om (P.at y g.get);refine Ew ?_ ((O (i+1) b (FJ c s a b) (o++[FJ c s a b]) g.get B (by simp[H])).eq (by rw[uW];simp));unfold IL;simp only[g.lt,Vo,g.ix,XI,g.nx];refine Ea (v:=FJ c s a b) ?_ (Ea (EA (gZ om)) (Qa _));refine Kh sq (Ea M ?_)
   grind[Qx,FJ,Qa]
 cases d:r with
 |nil=>
  subst d;refine(Ei ?_).ev;unfold IL;exact Qa _
 |cons a q=>
  have G:r[0]?=AC a:=by rw[d];rfl
  have J:r.drop (0+1)=q:=by rw[d];rfl
  have:=F q 0 a {Lo:=0,Hi:=0} [{Lo:=0,Hi:=0}] G J rfl;have f:At r 0 a:=Y6 om G;rw[<- d];refine(Ew (s':=([{Lo:=0,Hi:=0}],{Lo:=0,Hi:=0},((0+1:Nat):Int))) ?_ (this.eq ?_)).ev
  .unfold IL;have T:=f.lt;have W:=f.ix;have V:=f.nx
   simp_all[EA,gZ]
  .rw[d];rfl
def H0(h:Ae):Bool:=AG (h.Hi<h.Lo)||(!FI h.Lo||(!FI h.Hi||AG (h.AT<0)))
theorem rF(x:Int):Ev (λn=>Mg n x) (FI x):=by
 simp_all[Mg,FI,DE,Eh,Qa]
theorem QoL(h:Ae):Ev (λn=>MV n h) (H0 h):=by
 unfold MV H0;refine Ea (QQ λ_=>Ea (rF _) (QQ λ_=>Ea (rF _) (QQ λ_=>Qa _))) (Qa _)
def HH(c:CB)(s:AP)(l:AA Ae):Bool:=AG (s.AN<0)||(AG ((AI c.AO:Int)<=s.AN)||(AG (s.Aw<0)||(AG ((AI c.Ap:Int)<=s.Aw)||l.any H0)))
def Ls(c:CB)(k:CE)(s:AP)(e:Int)(x:AA CN)(l:AA Ae):CM:=
 bif !F7 k then .c0 160 else bif HH c s l then .c0 1 else bif (CY c s.AN e).2 != 0 then .c0 (CY c s.AN e).2 else bif !Dq c x then .c0 170 else
  match C9 c k x with
  |none=>.c0 170
  |some t=>.c1 ((CY c s.AN e).1,HB c (CY c s.AN e).1,t,(HG l).1,(HG l).2)
theorem Qj1{c:CB}(g:Ft c)(B:CL c=0)(he:Ev (λn=>DZ n c) 0){k:CE}(q:Fh k)(s:AP)(e:Int)(x:AA CN)(H:AI x<=1000)(l:AA Ae)(P:AI l<=1048576):
  Ev (λn=>K0 n c k s e x l) (Ls c k s e x l):=by
 unfold K0 Ls;refine Ea he (Yd (Ea (pW k q) ?_));cases M:F7 k with
 |false=>exact Qa _
 |true=>
 refine Yd (Ea (v:=HH c s l) ?_ ?_)
 .unfold HH;refine QQ λ_=>QQ λ_=>QQ λ_=>QQ λ_=>Ea ?_ (Qa _);exact Ev.contains l H0 (λn y=>MV n y) om λy _=>QoL y
 cases HH c s l with
 |true=>exact Qa _
 |false=>
 refine Yd (Ea (lw g he s.AN e) ?_);cases R:((CY c s.AN e).2 != 0)with
 |true=>exact Qa _
 |false=>
 have f:(CY c s.AN e).2=0:=gq;refine Yd (Ea (Qms c x om he) ?_);cases F:Dq c x with
 |false=>exact Qa _
 |true=>
 refine Yd (Ea (QoG (q_ B) he (lO q M) x (qk F) H) ?_);cases C9 c k x with
 |none=>exact Qa _
 |some t=>
 obtain⟨j,d,O,Q,T,E,L,V,J⟩:=iR g f;have N:=VG E;have m:(CY c s.AN e).1.length<=256:=by
  grind[DI]
 have h:F2 c (CY c s.AN e).1:=by rw[J];exact Ql0 g B N O L
 refine Ea (QoK l om) ?_;have G:CY c s.AN e=((CY c s.AN e).1,0):=Prod.ext rfl f;rw[G];exact Ea (QqG g.legs m h) (Qa _)
set_option maxRecDepth 10000
structure Ck where
 c:CB
 k:CE
 r:List Int
 s:List CK
 H:List CN
 T:List Ue
 m:List (Int×Ue)
 hi:Int
abbrev zX:Ue:={Ai:=0,A':={Lo:=0,Hi:=0}}
def Ck.seg(t:Ck)(x:Ue):Prop:=∃j:Nat,x.Ai+1=(j:Int)/\j<AI t.k.AS+1
structure C_ (t:Ck):Prop where
 ty:Ev (λn=>DZ n t.c) 0
 crs:Ff t.c
 clk:Kj t.k
 sl:AI t.s=AI t.r
 rl:AI t.r<=256
 tl:AI t.T=AI t.H
 hl:AI t.H<=1000
 hit:∀(i:Nat) (h:CN),t.H[i]?=AC h->HK t.c h
 sg:∀x∈t.T,t.seg x
 hs:∀p x,Jp t.m p=AC x->t.seg x
 mi:0<=t.c.AQ.A_
def DH(t:Ck)(p h:Int):Ue×Bool:=bif JM t.m p||AG (h<0)then(Qm t.m p zX,JM t.m p)else((t.T[h.toNat]?).getD zX,AE)
def HU(t:Ck)(h:Int):Prop:=h<0\/h.toNat<AI t.H
theorem Rl{α:Type}{l:AA α}{h:Int}(f:0<=h)(d:h.toNat<AI l):∃x,l[h.toNat]?=AC x/\CJ l h=AC x:=by
 refine⟨l[h.toNat]'(d),sq,?_⟩
 grind[Qx]
theorem lz{t:Ck}(ok:C_ t)(p h:Int)(g:HU t h):Ev (λn=>Io n p h t.c t.k t.r t.s t.H t.T t.hi t.m t.c t.k) (DH t p h):=by
 unfold Io DH;refine Ea (Qa _) (Ea (QQ λ_=>Qa _) ?_);refine JT (λ_=>Qa _) λq=>?_;rw[XW,decide_eq_false_iff_not]at q;obtain⟨x,d,f⟩:=Rl (l:=t.T) (h:=h) om (by have:=ok.tl;rcases g with z|z<;>omega);rw[f,d];exact Qa _
theorem iP{t:Ck}(ok:C_ t){p h:Int}(g:HU t h)(q:(DH t p h).2=AE):t.seg (DH t p h).1:=by
 unfold DH at q⊢;cases e:(JM t.m p||AG (h<0))with
 |true=>
  rw[e]at q;simp only[Vo]at q⊢;rw[lY]at q;obtain⟨x,d⟩:=Option.isSome_iff_exists.1 q;unfold Qm;rw[d];exact ok.hs p x d
 |false=>
  simp only[Vp];rw[XW,decide_eq_false_iff_not]at e;obtain⟨x,f,j⟩:=Rl (l:=t.T) (h:=h) om (by have:=ok.tl;rcases g with z|z<;>omega);rw[f];exact ok.sg x gq
def RP(d w:CK):Bool:=AG ((if d.Lo<w.Lo then w.Lo else d.Lo)<=(if w.Hi<d.Hi then w.Hi else d.Hi))
def Lh(c:CB)(k:CE)(g:Int)(a b:Int):CK:=
 bif g<0 then {Lo:=a,Hi:=i64.wrap (b+c.AQ.Ak)}else match k.AS[g.toNat]? with
 |none=>{Lo:=0,Hi:=0}
 |some s=>bif !Ik c s.Al then {Lo:=0,Hi:=0}else
  {Lo:=i64.wrap (i64.wrap (a+(F6 c (Ci c s.Al) s a).Lo)-D7 k (g.toNat+1) 0),Hi:=i64.wrap (i64.wrap (b+(F6 c (Ci c s.Al) s b).Hi)+D7 k 0 (g.toNat+1))}
theorem QqF{t:Ck}(ok:C_ t){x:Ue}(Y:t.seg x){a b:Int}(P:Di a)(M:Di b)(Q:a<=b):∃e,Ev (λn=>It n t.c t.k x.Ai {Lo:=a,Hi:=b}) (Lh t.c t.k x.Ai a b,e):=by
 obtain⟨j,j1,j2⟩:=Y;have hs:=ok.clk.dims.segs;have start:∀{v:CK×Int},Ev (λn=>(bif x.Ai<0 then AC ({Lo:=a,Hi:=i64.wrap (b+t.c.AQ.Ak):CK},0)else(CJ t.k.AS x.Ai).bind λf=>(LA n t.c f.Al).bind λG=>(bif (!G)then AC ({Lo:=0,Hi:=0:CK},1)else(Iu n t.c f a).bind λq=>(CJ t.k.BP (i64.wrap (x.Ai+1))).bind λE=>(CJ E 0).bind λg=>(Iu n t.c f b).bind λy=>(CJ t.k.BP 0).bind λB=>(CJ B (i64.wrap (x.Ai+1))).bind λF=>AC ({Lo:=i64.wrap ((i64.wrap (a+q.Lo))-g),Hi:=i64.wrap ((i64.wrap (b+y.Hi))+F):CK},0)):AB (CK×Int))) v->Ev (λn=>It n t.c t.k x.Ai {Lo:=a,Hi:=b}) v:=by
  intro v hv;unfold It;refine Ea ok.ty (Yd (Ea ok.clk.ev (Yd (Ea (v:=AD) ?_ (Yd hv)))));simp only[dF (x.Ai< -1),dF ((AI t.k.AS:Int)<=x.Ai),Vp];refine Ea (dw a) ?_;rw[Ib.2 P];refine Yd (Ea (dw b) ?_);rw[Ib.2 M]
  simp_all[YO,Qa]
 unfold Lh;by_cases d:x.Ai<0
 .rw[Jz d];exact⟨_,start (Kh (Jz d) (Qa _))⟩
 rw[YO d];simp only[Vp];obtain⟨s,V,L⟩:=Rl (l:=t.k.AS) (h:=x.Ai) om om;rw[V];simp only;cases H:Ik t.c s.Al with
 |false=>exact⟨_,start (ZP (YO d) (YR L (Ea ((lx t.c s.Al).eq H) (Kh rfl (Qa _)))))⟩
 |true=>
  obtain⟨i,m,N,J⟩:=E? H;have R:Ci t.c s.Al=m.AX:=by simp_all[Ci]
  have O:=ok.clk.anc s gq;obtain⟨X,T⟩:=ok.clk.dims.get (i:=x.Ai.toNat+1) (j:=0) om om;obtain⟨g3,W⟩:=ok.clk.dims.get (i:=0) (j:=x.Ai.toNat+1) om om;have w:i64.wrap (x.Ai+1)=((x.Ai.toNat+1:Nat):Int):=by rw[Dh];omega
  refine⟨0,start (ZP (YO d) (YR L (Ea ((lx t.c s.Al).eq H) (ZP rfl (Ea (ki ok.crs J N O P) (YR (v:=t.k.BP[x.Ai.toNat+1]?.getD []) (by rw[w];exact Qx X) (YR (v:=D7 t.k (x.Ai.toNat+1) 0) (Qx (i:=0) T) (Ea (ki ok.crs J N O M) (YR (v:=t.k.BP[0]?.getD []) (Qx (i:=0) g3) (YR (v:=D7 t.k 0 (x.Ai.toNat+1)) (by rw[w];exact Qx W) ?_))))))))))⟩;rw[R];exact Qa _
def I8(t:Ck)(h p:Int):Bool:=bif !(JM t.m p)then AE else match t.H[h.toNat]?,t.T[h.toNat]? with
 |some y,AC x=>RP (Lh t.c t.k x.Ai y.BQ y.A8) (Qm t.m p zX).A'
 |_,_=>AE
theorem QoS{t:Ck}(ok:C_ t){h p:Int}(g:0<=h)(f:h.toNat<AI t.H):Ev (λn=>J_ n h p t.c t.k t.c t.k t.r t.s t.H t.T t.hi t.m) (I8 t h p):=by
 unfold J_ I8;refine Ea (Qa _) ?_;cases JM t.m p with
 |false=>exact Qa _
 |true=>
  obtain⟨y,y1,y2⟩:=Rl (l:=t.H) g f;obtain⟨x,j,B⟩:=Rl (l:=t.T) g (by rw[ok.tl];exact f);have d:=ok.hit _ _ y1;rw[y2,B,y1,j];refine Yd ?_;simp only[XI];obtain⟨e,q⟩:=QqF ok (ok.sg x gq) d.fi d.la d.le;refine Ea q ?_;unfold Md;exact Qa _
def Hu(t:Ck)(i j:Int):CK:=
 let a:=(t.s[i.toNat]?).getD {Lo:=0,Hi:=0}
 let b:=(t.s[j.toNat]?).getD {Lo:=0,Hi:=0}
 {Lo:=if i64.wrap (b.Lo-a.Lo)<2199023255552 then i64.wrap (b.Lo-a.Lo)else 2199023255552,Hi:=if i64.wrap (b.Hi-a.Hi)<2199023255552 then i64.wrap (b.Hi-a.Hi)else 2199023255552}
theorem gz{t:Ck}(ok:C_ t){i j:Int}(d:0<=i)(f:i.toNat<AI t.r)(g:0<=j)(h:j.toNat<AI t.r):Ev (λn=>KI n i j t.c t.k t.r t.s t.H t.T t.hi t.m t.c t.k) (Hu t i j):=by
 obtain⟨a,y,x⟩:=Rl (l:=t.s) d (by rw[ok.sl];exact f);obtain⟨b,q,B⟩:=Rl (l:=t.s) g (by rw[ok.sl];exact h)
 grind[KI,Hu,Qa]
def Ly(t:Ck)(a b:Ue):CK:=
 bif (i64.wrap (a.Ai+1)) != (i64.wrap (b.Ai+1))then
  {Lo:=i64.wrap (i64.wrap (b.A'.Lo-a.A'.Hi)-D7 t.k (b.Ai+1).toNat (a.Ai+1).toNat),Hi:=i64.wrap (i64.wrap (b.A'.Hi-a.A'.Lo)+D7 t.k (a.Ai+1).toNat (b.Ai+1).toNat)}
 else {Lo:=i64.wrap (b.A'.Lo-a.A'.Hi),Hi:=i64.wrap (b.A'.Hi-a.A'.Lo)}
def Fb(t:Ck)(a:Ue)(i:Int)(b:Ue)(j:Int):Bool:=RP (Ly t a b) (Hu t i j)
theorem Qj5{t:Ck}(ok:C_ t){a b:Ue}{i j:Int}(h:t.seg a)(F:t.seg b)(f:0<=i)(g:i.toNat<AI t.r)(q:0<=j)(B:j.toNat<AI t.r):
  Ev (λn=>LD n a i b j t.c t.k t.r t.s t.H t.T t.hi t.m t.c t.k) (Fb t a i b j):=by
 obtain⟨x,E,d⟩:=h;obtain⟨y,y1,y2⟩:=F;have M:=ok.clk.dims.segs;unfold LD Fb;refine Ea (v:=Ly t a b) ?_ (Ea (gz ok f g q B) ?_)
 .unfold Ly;rw[E,y1,QL (n:=(x:Int)) om om,QL (n:=(y:Int)) om om];refine JT (λ_=>?_) λ_=>Qa _;obtain⟨L,J⟩:=ok.clk.dims.get (i:=y) (j:=x) y2 d;obtain⟨N,G⟩:=ok.clk.dims.get (i:=x) (j:=y) d y2
  grind[Qx,Qa]
 .unfold Md;exact Qa _
structure Ko (t:Ck) (s:Uh):Prop where
 la:s.Bn<(AI t.r:Int)
 wh:0<=s.Bn->t.seg s.Bz
 r0:0<=s.row
 r1:s.row<=1000
def Ho(t:Ck)(s:Uh)(p h:Int):Bool:=(AG (0<=h)&& !I8 t h p)||(AG (0<=s.Bn)&& !Fb t s.Bz s.Bn (DH t p h).1 p)
def DD(t:Ck)(s:Uh)(p h:Int):Uh×Bool:=
 bif !(DH t p h).2 then({s with row:=s.row+1},AG (s.row+1<=t.c.AQ.A_))else bif Ho t s p h then(s,AD)else({Bn:=p,Bz:=(DH t p h).1,row:=0},AE)
theorem lB{t:Ck}(ok:C_ t){s:Uh}(f:Ko t s){p h:Int}(F:0<=p)(E:p.toNat<AI t.r)(g:HU t h):
  Ev (λn=>IO n s p h t.c t.k t.r t.s t.H t.T t.hi t.m t.c t.k) (DD t s p h):=by
 have r0:=f.r0;have r1:=f.r1;unfold IO DD;refine Ea (lz ok p h g) ?_;rw[QL (n:=s.row+1) om om];cases B:(DH t p h).2 with
 |false=>exact Qa _
 |true=>
  have y:=iP ok g B;refine Yd (Ea (v:=Ho t s p h) ?_ ?_)
  .have j:Ev (λn=>(bif 0<=s.Bn then(LD n s.Bz s.Bn (DH t p h).1 p t.c t.k t.r t.s t.H t.T t.hi t.m t.c t.k).bind λx=>AC (!x)else AC AD:AB Bool)) (AG (0<=s.Bn)&& !Fb t s.Bz s.Bn (DH t p h).1 p):=by
    refine Eh λq=>?_;have q:=Vu q;exact Ea (Qj5 ok (f.wh q) y q (by have:=f.la;omega) F E) (Qa _)
   unfold Ho;by_cases d:0<=h
   .rw[Jz d,Vy];have G:h.toNat<AI t.H:=by rcases g with z|z<;>omega
    refine Ea (QoS ok d G) ?_;exact QQ λ_=>j
   grind
  .cases Ho t s p h<;>exact Qa _
theorem ko{t:Ck}(ok:C_ t){s:Uh}(d:Ko t s){p h:Int}(g:p<(AI t.r:Int))(j:HU t h)(m:s.row<1000):Ko t (DD t s p h).1:=by
 have r0:=d.r0;unfold DD;cases f:(DH t p h).2 with
 |false=>exact⟨d.la,d.wh,gq,gq⟩
 |true=>
  simp only[Xg,Vp];cases Ho t s p h with
  |true=>exact d
  |false=>exact⟨g,λ_=>iP ok j f,sq,sq⟩
def Fq(t:Ck)(W:CX)(u:AA (Int×Bool))(i:Nat)(h:Int):Bool:=
 AG (h<0)||(AG ((AI t.H:Int)<=h)||((((t.H[h.toNat]?).map (·.Al)).getD 0 != (t.r[i]?).getD 0)||(Qm u h AD||AG (W.A8<(i:Int)))))
def admL(t:Ck)(W:CX):AA Int->Nat->AA (Int×Bool)->Uh->Bool
 |[],_,_,_=>AE
 |h::r,i,u,s=>
  bif (h != -1)&&Fq t W u i h then AD else
  bif W.A8<(i:Int) then admL t W r (i+1) (bif h != -1 then QK u h AE else u) s else
  bif !(DD t s (i:Int) h).2 then AD else admL t W r (i+1) (bif h != -1 then QK u h AE else u) (DD t s (i:Int) h).1
theorem dv(t:Ck)(W:CX)(h:Int)(r:AA Int)(i:Nat)(u:AA (Int×Bool))(s:Uh):admL t W (h::r) i u s=
  bif (h != -1)&&Fq t W u i h then AD else
  bif W.A8<(i:Int) then admL t W r (i+1) (bif h != -1 then QK u h AE else u) s else
  bif !(DD t s (i:Int) h).2 then AD else admL t W r (i+1) (bif h != -1 then QK u h AE else u) (DD t s (i:Int) h).1:=rfl
def SK(l:AA Int)(x:Int):Bool:=AG (0<=De (λy=>x==y) l 0)
def Kk(W:CX):AA CN->Nat->Int->Int
 |[],_,a=>a
 |_::r,i,a=>Kk W r (i+1) (bif !SK W.BL (i:Int)then i64.wrap (a+1)else a)
theorem Qmo(W:CX)(H:AA CN)(E:AI W.BL<=1048576)(hH:AI H<=1048576):Ev (λn=>PN n H W) (Kk W H 0 0):=by
 have d:∀(r:AA CN) (i:Nat) (a:Int),H.drop i=r->i<=AI H->DY (λn=>OL n H W) (a,(i:Int)) (Kk W r i a):=by
  intro r
  induction r with
  |nil=>
   intro i a h q;refine Ei ?_;unfold OL;simp only[Yu h q,Vp];exact Qa _
  |cons y r B=>
   intro i a h q;obtain⟨f,g⟩:=QG om h;have t:=f.lt';refine Ew ?_ (B (i+1) _ g om);unfold OL;simp only[f.lt,Vo,f.nx];refine Ea (v:=SK W.BL (i:Int)) ?_ ?_
   .unfold WG SK;refine Ea (v:=De (λy=>(i:Int)==y) W.BL 0) ?_ (Qa _);unfold WM;refine Ev.first W.BL _ om (λj x m=>?_) ?_
    .unfold Tb;simp only[m.lt,Vo,m.ix,XI,m.nx];cases((i:Int)==x)<;>exact Qa _
    simp_all[Tb,Qa]
   grind[Qa]
 unfold PN;exact Ea (d H 0 0 rfl (XT _)).ev (Qa _)
def ID(t:Ck)(W:CX):Bool:=((AI W.BL:Int) != (AI t.r:Int))||(AG (W.A8< -1)||(AG ((AI t.r:Int)<=W.A8)||(AG (W.A8<t.hi)||AG (t.c.AQ.A7<Kk W t.H 0 0))))
def R6:Uh:={DT with Bn:=(-1)}
def FG(t:Ck)(W:CX):Bool:=bif ID t W then AD else admL t W W.BL 0 [] R6
theorem ol{t:Ck}:Ko t R6:=⟨by show(-1:Int)<_;omega,λh=>by have:(0:Int)<= -1:=h;omega,by show(0:Int)<=0;omega,by show(0:Int)<=1000;omega⟩
theorem tp{t:Ck}{W:CX}{u:AA (Int×Bool)}{i:Nat}{h:Int}(q:((h != -1)&&Fq t W u i h)=AD):HU t h/\(h= -1\/(0<=h/\Fq t W u i h=AD)):=by
 rw[Bool.and_eq_false_iff]at q;rcases q with q|q
 .have:h= -1:=by grind
  exact⟨.inl om,.inl this⟩
 .have d:=q;unfold Fq at d;simp only[XW,decide_eq_false_iff_not]at d;exact⟨.inr om,.inr ⟨om,q⟩⟩
theorem pV{t:Ck}(ok:C_ t)(W:CX)(hW:AI W.BL<=1048576):Ev (λn=>IQ n W t.c t.k t.r t.s t.H t.T t.hi t.m t.c t.k) (FG t W):=by
 unfold IQ FG;refine Ea (v:=ID t W) ?_ ?_
 .unfold ID;exact QQ λ_=>QQ λ_=>QQ λ_=>QQ λ_=>Ea (Qmo W t.H hW (by have:=ok.hl;omega)) (Qa _)
 cases O:ID t W with
 |true=>exact Qa _
 |false=>
 unfold ID at O;simp only[XW,decide_eq_false_iff_not]at O;obtain⟨j,b1,b2,b3,_⟩:=O;have j:AI W.BL=AI t.r:=by have:=j;simp[bne]at this;omega
 have rl:=ok.rl;have P:∀(r:AA Int) (i:Nat) (u:AA (Int×Bool)) (s:Uh),W.BL.drop i=r->i<=AI W.BL->Ko t s->s.row<=(i:Int)->DY (λn=>Ha n W t.c t.k t.r t.s t.H t.T t.hi t.m t.c t.k) (u,s,(i:Int)) (bif admL t W r i u s then CG.k ()else CG.d AD):=by
  intro r
  induction r with
  |nil=>
   intro i u s Q hi B _;refine Ei ?_;unfold Ha admL;simp only[Yu Q hi,Vp];exact Qa _
  |cons h r Y=>
   intro i u s Q hi B aa;obtain⟨f,x⟩:=QG om Q;have ab:=f.lt';rw[dv];have N:t.r[i]?=AC (t.r[i]'om):=XJ om;have d:Ev (λn=>((bif (h != (-1))then((bif h<0 then AC AE else(bif (AI t.H:Int)<=h then AC AE else(CJ t.H h).bind λE=>(CJ t.r (i:Int)).bind λq=>(bif (E.Al != q)then AC AE else(AC (Qm u h AD)).bind λL=>(bif L then AC AE else AC (AG (W.A8<(i:Int))))))):AB Bool).bind λM=>(bif M then AC (.d (.d (.d (.d AD))))else(AC (QK u h AE)).bind λG=>AC (.k G))else AC (.k u)):AB (CG (AA (Int×Bool)) (CG ((AA (Int×Bool))×Uh) (CG ((AA (Int×Bool))×Uh×Int) (CG Unit Bool))))))
     (bif (h != -1)&&Fq t W u i h then .d (.d (.d (.d AD)))else .k (bif h != -1 then QK u h AE else u)):=by
    cases hn:(h != -1)with
    |false=>exact Qa _
    |true=>
     refine Sx (Ea (v:=Fq t W u i h) ?_ ?_)
     .unfold Fq;refine QQ λR=>QQ λq2=>?_;have R:=Vv R;have q2:=Vv q2;obtain⟨y,y1,y2⟩:=Rl (l:=t.H) (h:=h) om om;rw[y2,y1,XI,Qx N,XI,N];exact QQ λ_=>Ea (Qa _) (QQ λ_=>Qa _)
     .cases Fq t W u i h<;>exact Qa _
   cases g:((h != -1)&&Fq t W u i h)with
   |true=>
    rw[g]at d;refine Ei ?_;unfold Ha;simp only[f.lt,Vo,f.ix,XI,f.nx];exact Ea (Ea d (Qa _)) (Qa _)
   |false=>
    rw[g]at d;obtain⟨V,_⟩:=tp g;simp only[Vp]at d⊢;by_cases F:W.A8<(i:Int)
    .rw[Jz F,Vo];refine Ew ?_ (Y (i+1) _ s x om B om);unfold Ha;simp only[f.lt,Vo,f.ix,XI,f.nx];exact Ea (v:=CG.k (_,_)) (Ea d (Kh (Jz F) (Qa _))) (Qa _)
    .rw[YO F,Vp];have X:=lB ok B (p:=(i:Int)) (h:=h) om om V;cases J:(DD t s (i:Int) h).2 with
     |false=>
      refine Ei ?_;unfold Ha;simp only[f.lt,Vo,f.ix,XI,f.nx];refine Ea (v:=CG.d (.d (.d AD))) (Ea d (ZP (YO F) (Ea X (v:=(DD t s (i:Int) h)) ?_))) (Qa _);rw[J];exact Qa _
     |true=>
      simp only[Xg,Vp];refine Ew ?_ (Y (i+1) _ _ x om (ko ok B om V om) ?_)
      .unfold Ha;simp only[f.lt,Vo,f.ix,XI,f.nx];refine Ea (v:=CG.k (_,(DD t s (i:Int) h).1)) (Ea d (ZP (YO F) (Ea X (v:=(DD t s (i:Int) h)) ?_))) (Qa _);rw[J];exact Qa _
      .have r0:=B.r0;unfold DD;cases(DH t (i:Int) h).2 with
       |false=>show s.row+1<=_;omega
       |true=>
        simp only[Xg,Vp];cases Ho t s (i:Int) h with
        |true=>show s.row<=_;omega
        |false=>show(0:Int)<=_;omega
 refine Yd ?_;unfold Ms;simp only[XI];refine Ea (P W.BL 0 [] R6 rfl (XT _) ol (by show(0:Int)<=_;omega)).ev ?_;cases admL t W W.BL 0 [] R6<;>exact Qa _
set_option maxRecDepth 10000
theorem QoM(k:CE)(w:Fh k):∃b,Ev (λn=>O3 n k) b/\(b=AE->AI k.AS<=8):=by
 unfold O3;cases d:(AG (8<(AI k.AS:Int))||AG (10<(AI k.BP:Int)))with
 |true=>exact⟨AD,Ea (v:=AE) (Eu (QQ λ_=>Qa _) d) (Qa _),nofun⟩
 |false=>
  have g:=d;simp only[XW,decide_eq_false_iff_not]at g;refine⟨bif k.BP.all (λr=> !decide (12<(AI r:Int)))then AE else AD,Ea (v:=AD) (Eu (QQ λ_=>Qa _) d) (Yd (Ea (sS k.BP (λr=> !decide (12<(AI r:Int))) (CG.d AD) (CG.k ()) om (λi x f=>?_) ?_) ?_)),λ_=>om⟩
  .unfold UR;simp only[f.lt,Vo,f.ix,XI,f.nx]
   grind[Qa]
  .simp_all[UR,Qa]
  grind[Qa]
def RH(c:CB)(k:CE)(s:AP)(e:Int)(x:AA CN)(l:AA Ae)(t:AA Ue):Ck:=
 {c:=c,k:=k,r:=(CY c s.AN e).1,s:=HB c (CY c s.AN e).1,H:=x,T:=t,m:=(HG l).1,hi:=(HG l).2}
def D1(c:CB)(k:CE)(s:AP)(e:Int)(x:AA CN)(l:AA Ae):Int ⊕ Ck:=
 bif CL c != 0 then .inl (CL c)else bif !F7 k then .inl 160 else bif HH c s l then .inl 1 else bif (CY c s.AN e).2 != 0 then .inl (CY c s.AN e).2 else bif !Dq c x then .inl 170 else
  match C9 c k x with
  |none=>.inl 170
  |some t=>.inr (RH c k s e x l t)
def Fw:Int ⊕ Ck->CM
 |.inl e=>.c0 e
 |.inr t=>.c1 (t.r,t.s,t.T,t.m,t.hi)
theorem dZ{c:CB}(f:Ev (λn=>DZ n c) (CL c))(q:CL c=0->Ft c){k:CE}(g:Fh k)(s:AP)(e:Int)(x:AA CN)(j:AI x<=1000)(l:AA Ae)(m:AI l<=1048576):
  Ev (λn=>K0 n c k s e x l) (Fw (D1 c k s e x l)):=by
 unfold D1;cases h:(CL c != 0)with
 |true=>
  unfold K0;exact Ea f (Kh h (Qa _))
 |false=>
  have d:CL c=0:=gq;refine(Qj1 (q d) d (d▸f) g s e x j l m).eq ?_;unfold Ls;cases F7 k with
  |false=>rfl
  |true=>
  cases HH c s l with
  |true=>rfl
  |false=>
  cases((CY c s.AN e).2 != 0)with
  |true=>rfl
  |false=>
  cases Dq c x with
  |false=>rfl
  |true=>cases C9 c k x<;>rfl
structure IE (c:CB) (k:CE) (s:AP) (e:Int) (x:List CN) (l:List Ae) (t:Ck):Prop where
 ok:C_ t
 cE:CL c=0
 clk:F7 k=AE
 arg:HH c s l=AD
 rt:(CY c s.AN e).2=0
 hit:Dq c x=AE
 is:t=RH c k s e x l t.T
 tm:C9 c k x=AC t.T
theorem qf{c:CB}(ty:Ev (λn=>DZ n c) (CL c))(R:CL c=0->Ft c){k:CE}(X:Fh k){s:AP}{e:Int}{x:AA CN}(hx:AI x<=1000){l:AA Ae}{t:Ck}(h:D1 c k s e x l=.inr t):IE c k s e x l t:=by
 unfold D1 at h;cases hc:(CL c != 0)with
 |true=>grind
 |false=>
 rw[hc,Vp]at h;have f:CL c=0:=gq;cases F:F7 k with
 |false=>grind
 |true=>
 rw[F]at h;cases N:HH c s l with
 |true=>grind
 |false=>
 rw[N]at h;cases Y:((CY c s.AN e).2 != 0)with
 |true=>grind
 |false=>
 have q:(CY c s.AN e).2=0:=gq;rw[Y]at h;cases H:Dq c x with
 |false=>grind
 |true=>
 rw[H]at h;cases m:C9 c k x with
 |none=>grind
 |some T=>
 rw[m]at h;cases h;have g:=R f;obtain⟨j,d,k',r1,r2,r3,r4,r5,r6⟩:=iR g q;have J:(CY c s.AN e).1.length<=256:=by
  grind[DI]
 obtain⟨T1,T2⟩:=rU m;have kk:=lO X F;refine⟨⟨f▸ty,q_ f,kk,QlX _ _,J,T1,hx,λi y B=>qk H y (VG B),λy B=>?_,λp y B=>?_,?_⟩,f,F,N,q,H,rfl,m⟩
 .obtain⟨i,M,e1⟩:=List.getElem_of_mem B;have G:i<AI x:=by have:i<AI T:=M;omega
  obtain⟨O,g1,P⟩:=T2 i _ (XJ G);have V:O=y:=by
   have:T[i]?=AC y:=by rw[<- e1];exact XJ M
   grind
  subst V;rcases Qng P with z|⟨L,s',z1,Q,_⟩
  .exact⟨0,om,om⟩
  .have:=(XK.1 Q).1;exact⟨L+1,om,by show L+1<AI k.AS+1;omega⟩
 .have:=Qok l p;rw[show Jp (HG l).1 p=AC y from B]at this;cases W:l.find? (λh=>h.AT==p)with
  |none=>grind
  |some h'=>
   rw[W]at this;cases this;exact⟨0,rfl,om⟩
 .have E:=(Y4 f).2.1;unfold Cp Lt DE at E;simp only[XV,Vq]at E;exact E.2.2.2.2.2.2.2.2.2.1.1.1
theorem Qni{c:CB}{k:CE}{s:AP}{e:Int}{x:AA CN}{l:AA Ae}{v:Int}(h:D1 c k s e x l=.inl v):v≠0:=by
 unfold D1 at h
 grind
def Tt{α:Type}(f:Nat->AB α)(Q:α->Prop):Prop:=∃v,Ev f v/\Q v
section
variable {α β S B:Type} {f g:Nat->AB α} {P Q:α->Prop} {R:β->Prop}
theorem Tt.p{v:α}(h:Q v):Tt (λ_=>AC v) Q:=⟨v,Qa v,h⟩
theorem Tt.b{k:Nat->α->AB β}(h:Tt f P)(q:∀v,P v->Tt (λn=>k n v) R):Tt (λn=>(f n).bind (k n)) R:=by
 obtain⟨v,e,p⟩:=h;obtain⟨w,d,r⟩:=q v p;exact⟨w,Ea e d,r⟩
theorem Qe{k:Nat->α->AB β}(h:Tt f λ_=>True)(q:∀v,Tt (λn=>k n v) R):Tt (λn=>(f n).bind (k n)) R:=Tt.b h λv _=>q v
theorem Tt.c{c:Bool}(a:c=AE->Tt f Q)(b:c=AD->Tt g Q):Tt (λn=>bif c then f n else g n) Q:=by
 cases c with
 |true=>exact a rfl
 |false=>exact b rfl
theorem Tt.z{v:α}(h:Q v:=by exact trivial):Tt (λ_=>AC v) Q:=Tt.p h
theorem Tt.k{c:Bool}{v:α}(b:c=AD->Tt g Q)(h:Q v:=by exact trivial):Tt (λn=>bif c then AC v else g n) Q:=Tt.c (λ_=>Tt.p h) b
theorem Qv{c:Bool}{v:α}(b:Tt g Q)(h:Q v:=by exact trivial):Tt (λn=>bif c then AC v else g n) Q:=Tt.c (λ_=>Tt.p h) λ_=>b
theorem Tt.n{c:Bool}{v:α}(b:c=AD->Tt g Q)(h:Q v:=by exact nofun):Tt (λn=>bif c then AC v else g n) Q:=Tt.c (λ_=>Tt.p h) b
theorem Tt.w(h:Tt f P)(q:∀v,P v->Q v):Tt f Q:=let⟨v,e,p⟩:=h;⟨v,e,q v p⟩
theorem Tt.any(h:Tt f P):Tt f λ_=>True:=h.w λ_ _=>trivial
theorem Tt.e{v:α}(h:Ev f v)(q:Q v):Tt f Q:=⟨v,h,q⟩
theorem Tt.o{o:AB α}{v:α}(h:o=AC v)(q:Q v):Tt (λ_=>o) Q:=⟨v,EA h,q⟩
theorem Tt.s(h:Tt (λn=>f (n+1)) Q):Tt f Q:=let⟨v,e,q⟩:=h;⟨v,Jd e,q⟩
theorem Tt.i{l:AA α}{i:Int}(d:0<=i)(f:i<(AI l:Int)):Tt (λ_=>CJ l i) (λx=>x∈l):=by
 obtain⟨k,rfl⟩:=Int.eq_ofNat_of_zero_le d;have h:k<AI l:=om;exact⟨l[k],EA (Qx sq),Vd h⟩
theorem Tt.a{l m:AA α}(h:AI l+AI m<=4294967296):Tt (λ_=>app l m) (λx=>x=l++m):=Tt.o (Zk l m h) rfl
theorem Tt.sl{l:AA α}{i j:Int}(g:0<=i)(f:i<=j)(h:j<=(AI l:Int)):Tt (λ_=>Dn l i j) (λx=>(AI x:Int)=j-i/\ ∀y∈x,y∈l):=by
 refine Tt.o (v:=(l.take j.toNat).drop i.toNat) ?_ ⟨?_,λy d=>List.mem_of_mem_take (List.mem_of_mem_drop d)⟩
 .unfold Dn
  grind
 grind
theorem Tt.set{l:AA α}{i:Int}{x:α}(f:0<=i)(d:i<(AI l:Int)):Tt (λ_=>JG l i x) (λm=>AI m=AI l/\ ∀y∈m,y=x\/y∈l):=by
 refine Tt.o (v:=l.set i.toNat x) ?_ gq;unfold JG;simp[f,d]
abbrev Fj(I:S->Prop)(m:S->Nat)(s:S)(Q:B->Prop):CG S B->Prop
 |.k s'=>I s'/\m s'<m s
 |.d b=>Q b
theorem Tt.l{step:Nat->S->AB (CG S B)}{Q:B->Prop}(I:S->Prop)(m:S->Nat)(h:∀s,I s->Tt (λn=>step n s) (Fj I m s Q))(s:S)(d:I s):Tt (λn=>iter (step n) n s) Q:=by
 have f:∀k s,m s<=k->I s->∃b,DY step s b/\Q b:=by
  intro k
  induction k with
  |zero=>
   intro s g d;obtain⟨c,e,q⟩:=h s d
   grind[DY.done]
  |succ k j=>
   intro s g d;obtain⟨c,e,q⟩:=h s d
   grind[DY.cont,DY.done]
 obtain⟨b,e,q⟩:=f (m s) s (XS _) d;exact⟨b,e.ev,q⟩
abbrev F0(pk:β->Int->S)(I:Nat->β->Prop)(i:Nat)(Q:B->Prop):CG S B->Prop
 |.k s=>∃a,s=pk a ((i+1:Nat):Int)/\I (i+1) a
 |.d b=>Q b
theorem QJ{step:Nat->S->AB (CG S B)}{Q:B->Prop}(l:AA α)(d:β->Int->S)(I:Nat->β->Prop)(H:AI l<=4611686018427387904)
  (h:∀i x a,At l i x->I i a->Tt (λn=>step n (d a i)) (F0 d I i Q))(e:∀a,I (AI l) a->Tt (λn=>step n (d a (AI l))) (λc=>∃b,c=.d b/\Q b))(j:β)(s0:S)(L:s0=d j ((0:Nat):Int))(hi:I 0 j):
  Tt (λn=>iter (step n) n s0) Q:=by
 have f:∀k i a,i+k=AI l->I i a->∃b,DY step (d a i) b/\Q b:=by
  intro k
  induction k with
  |zero=>
   intro i a F m;have:i=AI l:=om;subst this;obtain⟨c,q,b,rfl,y⟩:=e a m;exact⟨b,Ei q,y⟩
  |succ k G=>
   intro i a F m;have g:i<AI l:=om;obtain⟨c,q,E⟩:=h i l[i] a (Y6 H (XJ g)) m;cases c with
   |k O=>
    obtain⟨J,rfl,t⟩:=E;obtain⟨b,M,N⟩:=G (i+1) J om t;exact⟨b,Ew q M,N⟩
   |d b=>exact⟨b,Ei q,E⟩
 obtain⟨b,q,y⟩:=f (AI l) 0 j om hi;subst L;exact⟨b,q.ev,y⟩
theorem Tt.find{d:Nat->Int->AB Bool}(l:AA α)(f:AI l<=4611686018427387904)(h:∀i x,At l i x->Tt (λn=>d n i) λ_=>True):
  Tt (λn=>iter (λs:Int=>((bif s<(AI l:Int) then d n s else AC AD):AB Bool).bind λb=>bif b then AC (CG.k (i64.wrap (s+1)))else AC (CG.d s)) n 0) (λr=>0<=r/\r<=(AI l:Int)):=by
 refine QJ (β:=Unit) l (λ_ i=>i) (λ_ _=>True) f (λi x a ha _=>?_) (λa _=>?_) () _ rfl trivial
 .have:=ha.lt';simp only[ha.lt,Vo,ha.nx];exact Qe (h i x ha) λb=>Tt.c (λ_=>Tt.p ⟨(),rfl,trivial⟩) λ_=>Tt.p ⟨om,om⟩
 .simp only[Y1,Vp,XI];exact Tt.p ⟨_,rfl,om,om⟩
end
theorem R3(a b c:Int):Tt (λn=>Fd n a b c) λr=>r=AE->b<=a:=by
 simp_all[Fd,Tt.c,Tt.p]
theorem Jo(a b c:Int):Tt (λn=>Fd n a b c) λ_=>True:=(R3 a b c).any
theorem QlK(s:AP):Tt (λn=>K9 n s) λr=>r=AE->0<=s.AN:=by
 unfold K9 JY IK KE;refine Tt.b (P:=λr=>r=AE->0<=s.AN) (Qe (Qe (Jo ..) λ_=>Tt.z) λr=>Tt.c (λ_=>Tt.b (R3 ..) λr h=>Tt.c (λq=>Tt.w (P:=λ_=>True) ?_ λ_ _ _=>h q) λ_=>Tt.p nofun) λ_=>Tt.p nofun) λv h=>Tt.p h
 repeat' first|with_reducible exact Tt.p trivial|with_reducible refine Tt.c (λ_=>?_) λ_=>?_|with_reducible refine Qe ?_ λ_=>?_|with_reducible exact Jo ..
theorem Qnq(s:Ag):Tt (λn=>K_ n s) λ_=>True:=by
 unfold K_ IN JY Hl
 repeat' first|with_reducible exact Tt.p trivial|with_reducible refine Tt.c (λ_=>?_) λ_=>?_|with_reducible refine Qe ?_ λ_=>?_|with_reducible exact Jo ..
theorem pa(s:Ao):Tt (λn=>Pa n s) λ_=>True:=by
 unfold Pa IT IR IK
 repeat' first|with_reducible exact Tt.p trivial|with_reducible refine Tt.c (λ_=>?_) λ_=>?_|with_reducible refine Qe ?_ λ_=>?_|with_reducible exact Jo ..
def VF(f:CI):Prop:=f.AX=1->0<=f.AP.AN
theorem QlR(f:CI):Tt (λn=>LG n f) λr=>r=AE->VF f:=by
 unfold LG IT IR IK JY Hl IN KE KK KJ;refine Tt.c (λ_=>Tt.b (QlK _) λr h=>Tt.p λq _=>h q) λd=>Tt.w (P:=λ_=>True) ?_ λ_ _ _ e=>absurd e gq
 repeat' first|with_reducible exact Tt.p trivial|with_reducible refine Tt.c (λ_=>?_) λ_=>?_|with_reducible refine Qe ?_ λ_=>?_|with_reducible exact Jo .. |with_reducible exact pa _|with_reducible exact Qnq _
theorem pZ(f:CI):Tt (λn=>Px n f) λ_=>True:=by
 unfold Px
 repeat' first|with_reducible exact Tt.p trivial|with_reducible refine Tt.c (λ_=>?_) λ_=>?_|with_reducible refine Qe ?_ λ_=>?_
theorem qd(f:CI):Tt (λn=>J9 n f) λr=>r=0->VF f:=by
 unfold J9 KK KJ;refine Tt.b (P:=λb=>b=AD->VF f) ?_ λb h=>Tt.n λq=>Tt.p λ_=>h q;refine Qe (Qe (Jo ..) λ_=>Tt.z) λ_=>Tt.n λ_=>?_;refine Qe (Qe (Jo ..) λ_=>Tt.z) λ_=>Tt.n λ_=>?_;refine Qe (Jo ..) λ_=>Tt.n λ_=>?_;exact Tt.b (QlR f) λr h=>Tt.n λq=>Qe (pZ f) λ_=>Tt.p gq
theorem QlP(f:CI):Tt (λn=>O5 n f) λl=>AI l<=20:=by
 unfold O5
 repeat' first|exact Tt.p sq|refine Tt.c (λ_=>?_) λ_=>?_|refine Tt.b (Tt.a sq) λl h=>Tt.p (by subst h;simp)
def Fy(v:AL):Prop:=v.AX=1/\v.S=[]/\v.L=[]
theorem Qr0(l:AA Int)(j:AI l<=20):Tt (λn=>Ot n l) λr=>AI r<=20/\ ∀v∈r,Fy v:=by
 unfold Ot;refine Tt.b (QJ l (λ(a:AA AL) i=>(a,i)) (λi a=>AI a<=i/\ ∀v∈a,Fy v) om (λi x a d g=>?_) (λa g=>?_) [] _ rfl sq) λr h=>Tt.p h
 .unfold Tl W3;have:=d.lt';simp only[d.lt,Vo,d.ix,XI,d.nx];refine Tt.b (Tt.a (by simp;omega)) λr h=>Tt.p ⟨r,rfl,?_⟩;subst h;refine⟨by simp;omega,λv f=>?_⟩;rcases VB.1 f with h|h
  .grind
  .cases Vz.1 h;exact⟨rfl,rfl,rfl⟩
 .unfold Tl;simp only[Y1,Vp];exact Tt.p gq
theorem QlV{v:AL}(h:Fy v):Tt (λn=>Tu n v) λ_=>True:=by
 refine Tt.s ?_;show Tt (λn=>Z3 (Tu n) n v) _;unfold Z3;rw[h.1]
 simp_all[Tt.c,Tt.p]
theorem QnG(l:AA AL)(g:AI l<=20)(h:∀v∈l,Fy v):Tt (λn=>Tu n {AX:=3,N:=0,S:=[],L:=l}) λ_=>True:=by
 refine Tt.s ?_;show Tt (λn=>Z3 (Tu n) n _) _;unfold Z3;refine Qe (QJ l (λ(_:Unit) i=>i) (λi a=>True) om (λi x a d f=>?_) (λa f=>?_) () _ rfl trivial) λr=>?_
 .unfold UM;simp only[d.lt,Vo,d.ix,XI,d.nx];exact Qe (QlV (h x d.mem)) λr=>Qv <| Tt.p ⟨(),rfl,trivial⟩
 .simp_all[UM,Tt.p]
 .cases r
  .simp_all[Tt.p]
  .exact Tt.z
theorem QnH{v:AL}(h:Fy v):Tt (λn=>TK n v) λ_=>True:=by
 refine Tt.s ?_;show Tt (λn=>Z0 (TK n) n v) _;unfold Z0;rw[h.1];exact Tt.z
theorem Qp1(l:AA AL)(g:AI l<=20)(h:∀v∈l,Fy v):Tt (λn=>TK n {AX:=3,N:=0,S:=[],L:=l}) λ_=>True:=by
 refine Tt.s ?_;show Tt (λn=>Z0 (TK n) n _) _;unfold Z0;refine Qe (QJ l (λ(a:Int) i=>(a,i)) (λi a=>True) om (λi x a d f=>?_) (λa f=>?_) 0 _ rfl trivial) λr=>Tt.z
 .unfold Ts;simp only[d.lt,Vo,d.ix,XI,d.nx];exact Qe (QnH (h x d.mem)) λr=>Tt.p ⟨_,rfl,trivial⟩
 simp_all[Ts,Tt.p]
theorem si:∀(k:Nat) (a:Int),0<=a->a<128^k->k<=20->Tt (λn=>Ry n a) λl=>AI l<=k+1
 |0,a,h0,h1,_=>by
  refine Tt.s ?_;show Tt (λn=>Z5 (Ry n) n a) _;unfold Z5;exact Tt.c (λ_=>Tt.p sq) gq
 |k+1,a,h0,h1,hk=>by
  refine Tt.s ?_;show Tt (λn=>Z5 (Ry n) n a) _;unfold Z5;refine Tt.c (λ_=>Tt.p sq) λq=>?_;have hd:0<=Int.tdiv a 128/\Int.tdiv a 128<128^k:=by
   grind
  have d:0<=u64.wrap (Int.tdiv a 128)/\u64.wrap (Int.tdiv a 128)<=Int.tdiv a 128:=by
   show 0<=(Int.tdiv a 128)%18446744073709551616/\(Int.tdiv a 128)%18446744073709551616<=_;omega
  refine Tt.b (si k _ d.1 om om) λr f=>Tt.b (Tt.a (by simp;omega)) λl h=>Tt.p gq
theorem ou(a:Int)(h0:0<=a)(h1:a<18446744073709551616):Tt (λn=>Ry n a) λl=>AI l<=11:=
 si 10 a h0 om om
theorem kh(a:Int):0<=u64.wrap a/\u64.wrap a<18446744073709551616:=by
 show 0<=a%18446744073709551616/\a%18446744073709551616<_;omega
theorem QjB(a:Int):Tt (λn=>Pd n a) λr=>0<=r/\r<18446744073709551616:=by
 simp_all[Pd,Tt.c,Tt.p,kh]
theorem QlQ{v:AL}(h:Fy v):Tt (λn=>UU n v) λr=>AI r<=12:=by
 refine Tt.s ?_;show Tt (λn=>Z4 (UU n) n v) _;unfold Z4;rw[h.1];exact Tt.b (QjB _) λr q=>Tt.b (ou r q.1 q.2) λl f=>Tt.b (Tt.a (by simp;omega)) λm d=>Tt.p gq
theorem Qnz(l:AA AL)(j:AI l<=20)(h:∀v∈l,Fy v):Tt (λn=>UU n {AX:=3,N:=0,S:=[],L:=l}) λ_=>True:=by
 refine Tt.s ?_;show Tt (λn=>Z4 (UU n) n _) _;unfold Z4;refine Tt.b (ou _ (kh _).1 (kh _).2) λr q=>Tt.b (Tt.a (by simp;omega)) λm f=>Qe ?_ λr=>Tt.z;refine QJ l (λ(a:AA Int) i=>(a,i)) (λi a=>AI a<=12+12*i) om (λi x a d g=>?_) (λa g=>?_) m _ rfl gq
 .unfold V1;have:=d.lt';simp only[d.lt,Vo,d.ix,XI,d.nx];exact Tt.b (QlQ (h x d.mem)) λr q=>Tt.b (Tt.a om) λm f=>Tt.p ⟨m,rfl,gq⟩
 simp_all[V1,Tt.p]
theorem rN(f:CI):Tt (λn=>MW n f) λ_=>True:=by
 unfold MW V' WH;refine Qe (qd f).any λ_=>Qv <| Tt.b (QlP f) λl g=>Tt.b (Qr0 l g) λr d=>Qe ?_ λ_=>Tt.z
 refine Qe (Qe (QnG r d.1 d.2) λ_=>Qv <| Qe (Qp1 r d.1 d.2) λ_=>Tt.k λ_=>Tt.z) λ_=>Qv <| Qe (Qnz r d.1 d.2) λ_=>Tt.z
theorem tW(f g:CI):Tt (λn=>PA n f g) λ_=>True:=by
 unfold PA;refine Qe (QJ [f.At,f.BF,f.No] (λ(_:Unit) i=>i) (λi a=>True) sq (λi x a d m=>?_) (λa m=>?_) () _ rfl trivial) λr=>?_
 .unfold T5;have h:=d.lt';simp only[XZ,List.length_nil]at h;obtain⟨y,j⟩:∃y,CJ [g.At,g.BF,g.No] (i:Int)=AC y:=⟨_,Qx (XJ (by simpa using h))⟩;simp only[dT ((i:Int)<3),Vo,d.ix,j,XI,d.nx];exact Qv <| Qv <| Tt.p ⟨(),rfl,trivial⟩
 .simp_all[T5,Tt.p]
 .cases r with
  |k s=>exact Qe (rN f) λ_=>Qe (rN g) λ_=>Qv <| Qv <| Tt.z
  |d s=>exact Tt.z
theorem dh(l:AA CI)(O:AI l<=16):Tt (λn=>Kx n l) λr=>AI r<=16/\ ∀f∈r,VF f:=by
 unfold Kx;refine Tt.b (QJ l (λ(a:AA CI) i=>(a,i)) (λi a=>AI a<=i/\ ∀f∈a,VF f) om (λi x a d t=>?_) (λa t=>?_) [] _ rfl sq) λr h=>Tt.p h
 .unfold MQ;have:=d.lt';simp only[d.lt,Vo,d.ix,XI,d.nx];refine Tt.b (P:=λ(m:AA CI)=>AI m<=i+1/\ ∀f∈m,VF f) (Tt.b (qd x) λr G=>Tt.c (λ_=>Tt.p ⟨om,t.2⟩) λq=>?_) λm B=>Tt.p ⟨m,rfl,B⟩;have V:VF x:=G gq;refine Tt.b (Tt.find a om λj y F=>?_) λb g=>?_
  .exact Qe (Tt.o F.ix trivial) λy=>Qe (Tt.o d.ix trivial) λx=>Qe (tW y x) λ_=>Tt.z
  refine Qe (Tt.c (λh=>Qe (Tt.i g.1 (Vu h)).any λ_=>Tt.z) λ_=>Tt.z) λ_=>Tt.c (λ_=>Tt.p ⟨om,t.2⟩) λ_=>?_;refine Tt.b (Tt.sl (Int.le_refl 0) g.1 g.2) λp L=>Tt.b (Tt.a (by simp;omega)) λN E=>?_;subst E;refine Tt.b (Tt.a (by simp;omega)) λQ H=>Tt.b (Tt.sl g.1 g.2 (Int.le_refl _)) λJ T=>?_;subst H;refine Tt.b (Tt.a (by simp;omega)) λM R=>Tt.p ?_
  grind
 .unfold MQ;simp only[Y1,Vp];exact Tt.p gq
def HE(c:CB)(m:Int):Prop:=0<=m/\m<(AI c.Av:Int)
def FH(c:CB)(l:AA CD):Prop:=∀s∈l,HE c s.Al
theorem gP(c:CB)(m:Int):Tt (λn=>KC n c m) λr=>r=AE->HE c m:=by
 unfold KC;exact Tt.b (P:=λr=>r=AE->HE c m) (Tt.c (λh=>Tt.p λq=>⟨Vu h,Vu q⟩) λ_=>Tt.p nofun) λv h=>Tt.p h
theorem uy{c:CB}{m:Int}(h:HE c m):Tt (λn=>Mf n c m) λ_=>True:=by
 unfold Mf;exact Tt.b (Tt.i h.1 h.2) λ_ _=>Tt.z
theorem v?(a b:CD):Tt (λn=>PE n a b) λ_=>True:=by
 unfold PE;exact Qe (Qv <| Tt.k λ_=>Tt.z) λ_=>Tt.z
theorem gY(c:CB)(l:AA CD)(a b:Int)(M:AI l<=1000)(f:FH c l):Tt (λn=>J8 n c l a b) λr=>AI r<=AI l+1/\FH c r:=by
 unfold J8;have skip:AI l<=AI l+1/\FH c l:=⟨om,f⟩;refine Tt.b (P:=λq=>q=AD->HE c a) (Tt.b (gP c a) λr N=>Tt.n λq=>?_) λq m=>Tt.c (λ_=>Tt.p skip) λt=>?_
 .simp_all[uy]
 have H:=m t;refine Tt.b (Tt.find l om λj y F=>Qe (Tt.o F.ix trivial) λy=>Qe (v? _ _) λ_=>Tt.z) λi d=>?_;refine Qe (Tt.c (λh=>Qe (Tt.i d.1 (Vu h)).any λ_=>Tt.c (λ_=>Qe (Tt.i d.1 (Vu h)).any λ_=>Tt.z) λ_=>Tt.z) λ_=>Tt.z) λ_=>Tt.c (λ_=>Tt.p skip) λ_=>?_;refine Tt.b (Tt.sl d.1 d.2 (Int.le_refl _)) λp g=>Tt.b (Tt.a (by simp;omega)) λJ x=>?_;subst x;refine Tt.b (Tt.sl (Int.le_refl 0) d.1 d.2) λL E=>Tt.b (Tt.a (by simp;omega)) λG B=>Tt.p ?_;subst B;refine⟨by simp;omega,λs h=>?_⟩;simp only[VB,Vz]at h;rcases h with h|h|h
 .exact f s (E.2 s h)
 .grind
 .exact f s (g.2 s h)
theorem uY(c:CB)(l:AA CI)(X:AI l<=16){e:Int}(he:Ev (λn=>HL n c) e):Tt (λn=>Mb n c l) λr=>AI r.1<=511/\FH c r.1:=by
 unfold Mb;have nil:AI ([]:AA CD)<=511/\FH c []:=⟨sq,λ_ h=>nomatch h⟩;refine Qe (Tt.e he trivial) λe=>Tt.c (λ_=>Tt.p nil) λ_=>Tt.b (dh l X) λC hC=>?_;refine Tt.b (P:=λ(r:AA CD)=>AI r<=2*AI C/\FH c r) (QJ C (λ(a:AA CD) i=>(a,i)) (λi a=>AI a<=2*i/\FH c a) om (λi x a E g=>?_) (λa g=>?_) [] _ rfl gq) λr hr=>?_
 .unfold VT;have:=E.lt';simp only[E.lt,Vo,E.ix,XI,E.nx];refine Tt.b (P:=λ(r:AA CD)=>AI r<=2*(i+1)/\FH c r) ?_ λr h=>Tt.p ⟨r,rfl,h⟩;refine Tt.c (λ_=>Tt.b (gY c a _ _ om g.2) λr h=>Tt.p ⟨om,h.2⟩) λ_=>Tt.c (λ_=>Tt.b (gY c a _ _ om g.2) λr h=>Tt.p ⟨om,h.2⟩) λ_=>Tt.c (λ_=>?_) λ_=>Tt.p ⟨om,g.2⟩;exact Tt.b (gY c a _ _ om g.2) λr h=>Tt.b (gY c r _ _ om h.2) λr2 d=>Tt.p ⟨om,d.2⟩
 .simp_all[VT,Tt.p]
 refine Tt.c (λ_=>Tt.p nil) λq=>?_;have hk:AI r<=511:=om;refine Tt.b (P:=λ(b:AA CD)=>AI b<=511/\FH c b) (Tt.l (λs:AA CD×Int=>AI s.1=AI r/\FH c s.1/\0<=s.2/\s.2<=(AI r:Int)) (λs=>((AI r:Int)-s.2).toNat) (λs hs=>?_) (r,0) gq) λb L=>Tt.p (Q:=λv:AA CD×Int=>AI v.1<=511/\FH c v.1) L;obtain⟨B,R⟩:=s;obtain⟨V,d,G,T⟩:=hs;simp only at V d G T;unfold eW;refine Tt.c (λq=>?_) λ_=>Tt.p (Q:=Fj _ _ _ _) ⟨gq,d⟩;have O:=Vu q;simp only at O;refine Tt.b (P:=λ(t:AA CD)=>AI t=AI B/\FH c t) (Tt.l (λt:AA CD×Int=>AI t.1=AI B/\FH c t.1/\ -1<=t.2/\t.2<(AI C:Int)) (λt=>(t.2+1).toNat) (λt J=>?_) (B,i64.wrap ((AI C:Int)-1)) ⟨rfl,d,?_,?_⟩) λb L=>Tt.p (Q:=Fj _ _ _ _) ?_
 .obtain⟨M,t2⟩:=t;obtain⟨j,f,g3,F⟩:=J;simp only at j f g3 F;unfold er;refine Tt.c (λq=>?_) λ_=>Tt.p (Q:=Fj _ _ _ _) ⟨j,f⟩;have H:=Vu q;simp only at H;have ix:∀{Q:CD->Prop},(∀x∈M,Q x)->Tt (λ_=>CJ M R) Q:=λh=>(Tt.i G om).w h;refine Qe (Tt.i H F).any λx=>Qe (Qe (Tt.i H F).any λ_=>Tt.c (λ_=>Qe (ix λ_ _=>trivial) λ_=>Tt.c (λ_=>Qe (ix λ_ _=>trivial) λ_=>Tt.z) λ_=>Tt.z) λ_=>Tt.z) λb=>?_;refine Tt.b (P:=λ(t:AA CD)=>AI t=AI B/\FH c t) (Tt.c (λ_=>?_) λ_=>Tt.p ⟨j,f⟩) λt J=>Tt.p (Q:=Fj _ _ _ _) ?_
  .refine Tt.b (ix λx h=>h) λy Y=>Tt.b (Tt.set G gq) λm N=>Tt.p ⟨N.1.trans j,λz W=>?_⟩;rcases N.2 z W with h|h
   .subst h;exact f y Y
   .exact f z h
  grind[QL]
 iterate 3 grind[QL]
abbrev Fo{A β:Type}(Q:β->Prop):CG A β->Prop
 |.k _=>True
 |.d r=>Q r
theorem mo(l:AA CD)(a b:Int)(f:AI l<=1000):Tt (λn=>K8 n l a b) λr=>0<=r/\r<=(AI l:Int):=by
 unfold K8;refine Tt.b (P:=Fo λr=>0<=r/\r<=(AI l:Int)) (QJ l (λ(_:Unit) i=>i) (λ_ _=>True) om (λi x _ ha _=>?_) (λ_ _=>?_) () _ rfl trivial) λr d=>?_
 .unfold T3;have:=ha.lt';simp only[ha.lt,Vo,ha.ix,XI,ha.nx];exact Qe (Tt.k λ_=>Tt.z) λ_=>Tt.c (λ_=>Tt.p (Q:=F0 _ _ _ _) om) λ_=>Tt.p ⟨(),rfl,trivial⟩
 .simp_all[T3,Tt.p]
 .cases r with
  |k s=>exact Tt.p om
  |d s=>exact Tt.p d
theorem mM{c:CB}{l:AA CD}{v a b:Int}(d:FH c l)(j:0<=v)(g:v<=(AI l:Int))(m:AI l<=1000)(f:HE c a):Tt (λn=>LM n l v a b) λs=>HE c s.Al:=by
 unfold LM;refine Tt.c (λ_=>Tt.p f) λq=>?_;have q:v≠0:=by simpa using q
 have e:i64.wrap (v-1)=v-1:=Dh;rw[e];exact Tt.b (Tt.i om om) λx h=>Tt.p (d x h)
theorem Qp0(a b:Int):Tt (λn=>PX n a b) λ_=>True:=by
 unfold PX
 repeat' first|with_reducible exact Tt.p trivial|with_reducible refine Tt.c (λ_=>?_) λ_=>?_|with_reducible refine Qe ?_ λ_=>?_
theorem mq{c:CB}{s:CD}(h:HE c s.Al)(a:Int):Tt (λn=>LL n c s a) λ_=>True:=by
 unfold LL;exact Qe (uy h) λ_=>Qv <| Qe (Qp0 _ _) λ_=>Tt.z
theorem QnD(c:CB)(l:AA CI)(L:AI l<=16){e:Int}(he:Ev (λn=>HL n c) e):Tt (λn=>OX n c l) λ_=>True:=by
 unfold OX;refine Tt.b (uY c l L he) λr M=>Qv <| ?_
 obtain⟨S,z⟩:=r;have O:AI S<=511:=M.1;have f:FH c S:=M.2;refine Tt.b (P:=λ(a:AA Edge)=>AI a<=1022) (QJ S (λ(a:AA Edge) i=>(a,i)) (λi a=>AI a<=2*i) om (λi x a d g=>?_) (λa g=>?_) [] _ rfl (XS _)) λE1 h1=>Tt.b (dh l L) λC hC=>?_
 .unfold TY;have:=d.lt';simp only[d.lt,Vo,d.nx];exact Tt.b (Tt.a (by simp;omega)) λm f=>Tt.p ⟨m,rfl,gq⟩
 .unfold TY;simp only[Y1,Vp];exact Tt.p ⟨_,rfl,om⟩
 refine Tt.b (P:=λ(b:AA CD×AA Edge)=>b.1=S/\AI b.2<=1054) (QJ C (λ(a:AA Edge) i=>(S,a,i)) (λi a=>AI a<=1022+2*i) om (λi x a d g=>?_) (λa g=>?_) E1 _ rfl om) λb y=>?_
 .unfold Tj;have:=d.lt';simp only[d.lt,Vo,d.ix,XI,d.nx];refine Tt.b (P:=λ(m:AA Edge)=>AI m<=1022+2*(i+1)) (Tt.b (P:=λq=>q=AD->HE c x.Aa.Al) (Tt.n λ_=>Tt.b (gP c _) λr h=>Tt.p gq) λq E=>Tt.c (λ_=>Tt.p om) λB=>?_) λm f=>Tt.p ⟨m,rfl,f⟩;have t:=E B;exact Tt.b (mo S _ _ om) λv j=>Tt.b (mM f j.1 j.2 om t) λs G=>Qe (mq G _) λ_=>Tt.b (Tt.a (by simp;omega)) λm h=>Tt.p gq
 .unfold Tj;simp only[Y1,Vp];exact Tt.p gq
 obtain⟨H,N⟩:=b;obtain⟨rfl,y⟩:=y;simp only at y O f;refine Tt.b (P:=λ(b:AA Edge)=>True) (QJ C (λ(a:AA Edge) i=>(a,i)) (λi a=>AI a<=1054+2*i) om (λi x a d g=>?_) (λa g=>?_) N _ rfl om) λb y=>Qv <| Tt.z
 .unfold Tn;have:=d.lt';simp only[d.lt,Vo,d.ix,XI,d.nx];refine Tt.b (P:=λ(m:AA Edge)=>AI m<=1054+2*(i+1)) (Tt.b (P:=λq=>q=AD->HE c x.Ao.Bt/\HE c x.Ao.Bs) (Tt.n λ_=>Tt.b (gP c _) λr h=>Tt.n λT=>Tt.b (gP c _) λV Q=>Tt.p gq) λq E=>Tt.c (λ_=>Tt.p om) λB=>?_) λm f=>Tt.p ⟨m,rfl,f⟩;have t:=E B;exact Tt.b (mo H _ _ om) λv j=>Tt.b (mo H _ _ om) λw J=>Tt.b (mM f j.1 j.2 om t.1) λs G=>Qe (mq G _) λ_=>Tt.b (mM f J.1 J.2 om t.2) λR F=>Qe (mq F _) λ_=>Tt.b (Tt.a (by simp;omega)) λm h=>Tt.p gq
 simp_all[Tn,Tt.p]
def Zz(v:Int)(e:Edge):Prop:=0<=e.BA/\e.BA<v/\0<=e.To/\e.To<v
theorem QlW(s:Co):Tt (λn=>PZ n s) λr=>r=0->1<=s.A0/\s.A0<=512/\AI s.Bp<=8192/\ ∀e∈s.Bp,Zz s.A0 e:=by
 unfold PZ;refine Tt.b (P:=λb=>b=AD->1<=s.A0/\s.A0<=512/\AI s.Bp<=8192) (Tt.n λh=>Tt.n λt=>Tt.p λB=>?_) λb d=>Tt.n λq=>?_
 .grind
 obtain⟨J,t,B⟩:=d q;refine Tt.b (P:=λ(c:CG Unit Int)=>match c with|.k _=>∀e∈s.Bp,Zz s.A0 e|.d r=>r≠0) (QJ s.Bp (λ(_:Unit) i=>i) (λi _=>∀e∈s.Bp.take i,Zz s.A0 e) om (λi x _ ha hI=>?_) (λ_ hI=>?_) () _ rfl sq) λr y=>?_
 .unfold Te;simp only[ha.lt,Vo,ha.ix,XI,ha.nx];refine Tt.b (P:=λb=>b=AD->Zz s.A0 x) (Tt.n λj=>Tt.n λg=>Tt.n λE=>Tt.n λf=>Tt.w (P:=λ_=>True) (Tt.k λ_=>Tt.z) λ_ _ _=>?_) λb d=>Tt.c (λ_=>Tt.p (Q:=F0 _ _ _ _) om) λq=>Tt.p ⟨(),rfl,?_⟩
  .have G:=Vv j;have H:=Vv g;have L:=Vv E;have F:=Vv f;exact⟨om,om,om,om⟩
  .intro e m;rw[ha.take]at m
   grind
 .simp_all[Te,Tt.p]
 .cases r with
  |k u=>exact Tt.p gq
  |d v=>exact Tt.p λh=>absurd h y
def IW(k:Nat)(t:AA (AA Int)):Prop:=AI t=k/\ ∀r∈t,AI r=k
theorem IW.set{k:Nat}{t:AA (AA Int)}{r:AA Int}(h:IW k t)(hr:AI r=k)(i:Nat):IW k (t.set i r):=
 ⟨by simp[h.1],λq hq=>(List.mem_or_eq_of_mem_set hq).elim (h.2 q) λe=>e▸hr⟩
theorem Tt.up{β S B:Type}{step:Nat->S->AB (CG S B)}{Q:B->Prop}(k:Nat)(t:k<=4611686018427387904)(d:β->Int->S)(I:Nat->β->Prop)
  (h:∀i a,i<k->i64.wrap ((i:Int)+1)=((i+1:Nat):Int)->I i a->Tt (λn=>step n (d a i)) (F0 d I i Q))(e:∀a,I k a->Tt (λn=>step n (d a k)) (λc=>∃b,c=.d b/\Q b))(g:β)(s0:S)(m:s0=d g ((0:Nat):Int))(hi:I 0 g):
  Tt (λn=>iter (step n) n s0) Q:=by
 have q:AI (List.replicate k ())=k:=List.length_replicate;refine QJ (List.replicate k ()) d I om (λi x a j f=>h i a (by have:=j.lt';omega) j.nx f) (λa f=>?_) g s0 m hi;rw[q]at f⊢;exact e a f
theorem q?{k:Nat}(j:k<=512)(r:AA Int)(g:AI r=k):Tt (λn=>iter (OE n (k:Int)) n (r,0)) λl=>AI l=k:=by
 refine Tt.up k om (λ(a:AA Int) i=>(a,i)) (λ_ a=>AI a=k) (λi a q f d=>?_) (λa d=>?_) r _ rfl g
 .unfold OE;simp only[dT ((i:Int)<(k:Int)),Vo,f];exact Tt.b (Tt.i om om) λx _=>Tt.b (Tt.set om om) λm h=>Tt.p gq
 simp_all[OE,Tt.p]
theorem w?{k:Nat}(f:k<=512):Tt (λn=>iter (OH n (k:Int)) n ([],0)) (IW k):=by
 refine Tt.up k om (λ(a:AA (AA Int)) i=>(a,i)) (λi a=>AI a=i/\ ∀r∈a,AI r=k) (λi a y j d=>?_) (λa d=>?_) [] _ rfl sq
 .unfold OH;simp only[dT ((i:Int)<(k:Int)),Vo,j];refine Qe (Tt.o (v:=()) (by rw[d.1];simp[chk]) trivial) λ_=>?_;refine Tt.b (P:=λ(r:AA Int)=>AI r=k) (Tt.o (v:=List.replicate k 0) (by unfold mk;grind) sq) λg h=>?_;refine Tt.b (q? f g h) λr1 (h1:AI r1=k)=>Tt.b (Tt.i (Int.natCast_nonneg i) om) λx _=>Tt.b (Tt.set (Int.natCast_nonneg i) om) λm q=>Tt.p ⟨a++[m],rfl,by simp[d.1],λr t=>?_⟩
  grind
 .unfold OH;simp only[dF ((k:Int)<(k:Int)),Vp];exact Tt.p ⟨_,rfl,d⟩
theorem QpT{k:Nat}(E:AA Edge)(hE:AI E<=8192)(h:∀e∈E,Zz (k:Int) e)(t:AA (AA Int))(G:IW k t):Tt (λn=>iter (OB n E) n (t,0)) (IW k):=by
 refine QJ E (λ(a:AA (AA Int)) i=>(a,i)) (λ_ a=>IW k a) om (λi x a f d=>?_) (λa d=>?_) t _ rfl G
 .unfold OB;simp only[f.lt,Vo,f.ix,XI,f.nx];obtain⟨q,H,g,J⟩:=h x f.mem;refine Tt.b (Tt.i q (by rw[d.1];exact H)) λr F=>?_;have B:=d.2 r F;exact Qe (Tt.i g om).any λy=>Tt.b (Tt.set g om) λm j=>Tt.p ⟨_,rfl,d.set (j.1.trans B) _⟩
 simp_all[OB,Tt.p]
theorem i4{k m i j:Nat}(E:m<k)(hi:i<k)(G:j<k)(t:AA (AA Int))(d:IW k t):Tt (λ_=>U8 (m:Int) (i:Int) (j:Int) t) (IW k):=by
 unfold U8;refine Tt.b (Tt.i om (by rw[d.1];omega)) λr B=>?_;have x:=d.2 r B;refine Qe (Tt.i om om).any λa=>Tt.c (λ_=>?_) λ_=>Tt.p d;refine Tt.b (Tt.i om (by rw[d.1];omega)) λq h=>?_;have f:=d.2 q h;refine Qe (Tt.i om om).any λb=>Tt.c (λ_=>?_) λ_=>Tt.p d;exact Qe (Tt.i om om).any λy=>Tt.b (Tt.set om om) λF g=>Tt.p (d.set (g.1.trans x) _)
theorem vK{k m i:Nat}(x:k<=512)(g:m<k)(hi:i<k)(t:AA (AA Int))(d:IW k t):Tt (λn=>iter (OI n (k:Int) (m:Int) (i:Int)) n (t,0)) (IW k):=by
 refine Tt.up k om (λ(a:AA (AA Int)) i=>(a,i)) (λ_ a=>IW k a) (λj a h q f=>?_) (λa f=>?_) t _ rfl d
 .unfold OI;simp only[dT ((j:Int)<(k:Int)),Vo,q];exact Tt.b (i4 g hi h a f) λt d=>Tt.p ⟨t,rfl,d⟩
 simp_all[OI,Tt.p]
theorem vL{k m:Nat}(h:k<=512)(g:m<k)(t:AA (AA Int))(d:IW k t):Tt (λn=>iter (OO n (k:Int) (m:Int)) n (t,0)) (IW k):=by
 refine Tt.up k om (λ(a:AA (AA Int)) i=>(a,i)) (λ_ a=>IW k a) (λj a q x f=>?_) (λa f=>?_) t _ rfl d
 .unfold OO;simp only[dT ((j:Int)<(k:Int)),Vo,x];exact Tt.b (vK h g q a f) λt d=>Tt.p ⟨t,rfl,d⟩
 simp_all[OO,Tt.p]
theorem p?{k:Nat}(m:k<=512)(t:AA (AA Int))(d:IW k t):Tt (λn=>iter (OQ n (k:Int) t) n 0) λ_=>True:=by
 refine Tt.up k om (λ(_:Unit) i=>i) (λ_ a=>True) (λj a q h f=>?_) (λa f=>?_) () _ rfl trivial
 .unfold OQ;simp only[dT ((j:Int)<(k:Int)),Vo,h];refine Tt.b (Tt.i om (by rw[d.1];omega)) λr g=>?_;have x:=d.2 r g;exact Qe (Tt.i om om).any λa=>Qv <| Tt.p ⟨(),rfl,trivial⟩
 simp_all[OQ,Tt.p]
theorem Qip{k:Nat}(f:k<=512)(E:AA Edge)(hE:AI E<=8192)(h:∀e∈E,Zz (k:Int) e):Tt (λn=>Pz n {A0:=(k:Int),Bp:=E}) λr=>AI r.1<=512/\ ∀q∈r.1,AI q<=512:=by
 unfold Pz;refine Qe (Tt.o (v:=List.replicate k ()) (by unfold mk;grind) trivial) λ_=>Tt.b (w? f) λL m=>?_;refine Qe (Tt.o (v:=()) (by rw[m.1];simp[chk]) trivial) λ_=>Tt.b (QpT E hE h L m) λF H=>?_;refine Tt.b (P:=λ(c:CG (AA (AA Int)) Unit)=>match c with|.k t=>IW k t|.d _=>True) (Tt.up k om (λ(a:AA (AA Int)) i=>(a,i)) (λ_ a=>IW k a) (λj a G J g=>?_) (λa g=>?_) F _ rfl H) λc y=>?_
 .unfold VU;simp only[dT ((j:Int)<(k:Int)),Vo,J];refine Tt.b (vL f G a g) λt x=>Qe (p? f t x) λd=>?_;cases d with
  |k _=>exact Tt.p ⟨t,rfl,x⟩
  |d _=>exact Tt.p (Q:=F0 _ _ _ _) trivial
 .simp_all[VU,Tt.p]
 .cases c with
  |k t=>exact Tt.p ⟨by rw[y.1];exact f,λq B=>by rw[y.2 q B];exact f⟩
  |d _=>simp_all[Tt.p]
theorem aB(s:Co):Tt (λn=>PT n s) λr=>AI r.1<=512/\ ∀q∈r.1,AI q<=512:=by
 unfold PT;have nil:AI ([]:AA (AA Int))<=512/\ ∀q∈([]:AA (AA Int)),AI q<=512:=sq;refine Tt.b (QlW s) λr d=>Tt.c (λ_=>Tt.p nil) λq=>?_;obtain⟨v,E⟩:=s;obtain⟨j,h,g,f⟩:=d gq;simp only at j h g f;obtain⟨k,rfl⟩:=Int.eq_ofNat_of_zero_le (show 0<=v by omega);exact Tt.b (Qip om E g f) λr d=>Tt.c (λ_=>Tt.p nil) λ_=>Tt.p d
theorem Qp5(c:CB)(l:AA CI)(d:AI l<=16){e:Int}(he:Ev (λn=>HL n c) e):Tt (λn=>Pp n c l) λr=>Fh {AS:=r.1,BP:=r.2.1}:=by
 unfold Pp;have nil:Fh {AS:=[],BP:=[]}:=⟨sq,sq,λ_ h=>nomatch h⟩;exact Qe (QnD c l d he) λr=>Tt.c (λ_=>Tt.p nil) λ_=>Tt.b (aB _) λr g=>Tt.c (λ_=>Tt.p nil) λ_=>Tt.b (uY c l d he) λs f=>Tt.p ⟨gq,gq,λq j=>gq⟩
set_option maxRecDepth 10000
abbrev NC{B:Type}(i:Nat):CG Int (CG Unit B)->Prop
 |.k s=>s=((i+1:Nat):Int)
 |.d _=>True
theorem Ku{α B:Type}{step:Nat->Int->AB (CG Int (CG Unit B))}(l:AA α)(g:AI l<=1048576)(h:∀i x,At l i x->Tt (λn=>step n (i:Int)) (NC i))(e:∀n,step n (AI l:Int)=AC (.d (.k ()))):Tt (λn=>iter (step n) n 0) λ_=>True:=by
 refine QJ l (λ(_:Unit) i=>i) (λ_ _=>True) om (λi x _ ha _=>(h i x ha).w λc f=>?_) (λ_ _=>?_) () _ rfl trivial
 .cases c with
  |k s=>exact⟨(),f,trivial⟩
  |d d=>exact trivial
 .simp only[e];exact Tt.p ⟨_,rfl,trivial⟩
theorem ku(a b c:Int):Tt (λn=>G' n a b c) λr=>r=AE->b<=a/\a<=c:=by
 unfold G';exact Tt.b (P:=λr=>r=AE->b<=a/\a<=c) (Tt.c (λh=>Tt.p gq) λ_=>Tt.p nofun) λr h=>Tt.p h
theorem Lb(a b c:Int):Tt (λn=>G' n a b c) λ_=>True:=(ku a b c).any
theorem Qnv(c:CB)(d:AI c.Av<=1048576)(m:Int):Tt (λn=>G7 n c m) λr=>r=AE->0<=m/\m<(AI c.Av:Int):=by
 unfold G7;rw[Zq d];exact Tt.b (ku ..) λr h=>Tt.p λq=>gq
theorem kv(c:CB)(m:Int):Tt (λn=>G7 n c m) λ_=>True:=by
 simp_all[G7,Lb]
theorem QlU(l:AA UInt8):Tt (λn=>Pm n l) λ_=>True:=by
 unfold Pm
 repeat' first|with_reducible exact Tt.p trivial|with_reducible refine Tt.c (λ_=>?_) λ_=>?_|with_reducible refine Qe ?_ λ_=>?_
theorem ph(l:AA UInt8):Tt (λn=>Mh n l) λ_=>True:=by
 unfold Mh;refine Tt.b (P:=λb=>b=AD->1<=AI l/\AI l<=24) (Tt.n λf=>Tt.n λd=>?_) λb h=>Tt.k λq=>?_
 .have f:=Vv f;have d:=Vv d;have g:=Tt.i (l:=l) (i:=0) (Int.le_refl 0) om;exact Tt.w (P:=λ_=>True) (Qe g.any λ_=>Qv <| Qe g.any λ_=>Tt.z) om
 obtain⟨f,d⟩:=h q;refine Qe (Tt.l (λs:Int=>0<=s/\s<=(AI l:Int)) (λs=>((AI l:Int)-s).toNat) (λs j=>?_) 1 om) λr=>?_
 .unfold ei;refine Tt.c (λq=>?_) λ_=>Tt.p (Q:=Fj _ _ _ _) trivial;have q:=Vu q;have ix:=(Tt.i j.1 q).any;refine Qe ?_ λ_=>Tt.c (λ_=>Tt.p (Q:=Fj _ _ _ _) trivial) λ_=>Tt.p (Q:=Fj _ _ _ _) ?_
  .repeat' first|with_reducible exact Tt.p trivial|with_reducible exact ix|with_reducible refine Tt.c (λ_=>?_) λ_=>?_|with_reducible refine Qe ?_ λ_=>?_
  grind[QL]
 .cases r with
  |k u=>simp_all[Qe,QlU,Tt.p]
  |d v=>exact Tt.z
theorem eG(l:AA (AA UInt8))(f:AI l<=1048576):Tt (λn=>Ip n l) λ_=>True:=by
 unfold Ip;refine Qe (Ku l f (λi x d=>?_) λn=>by simp_all[Ty]) λr=>by cases r<;>exact Tt.z
 have g:=d.lt';unfold Ty;simp only[d.lt,Vo,d.ix,XI,d.nx];refine Qe (ph x) λ_=>Qv <| Tt.b (P:=λr=>match r with|.k _=>True|.d c=>match c with|.k _=>False|.d _=>True) (Tt.up i om (λ(_:Unit) i=>i) (λ_ _=>True) (λj _ hj hn _=>?_) (λ_ _=>?_) () _ rfl trivial) λr h=>?_
 .unfold VX;simp only[dT ((j:Int)<(i:Int)),Vo,hn];exact Qe (Tt.i (Int.natCast_nonneg j) om).any λ_=>Qe (Tt.i (Int.natCast_nonneg i) om).any λ_=>Tt.c (λ_=>Tt.p (Q:=F0 _ _ _ _) trivial) λ_=>Tt.p ⟨(),rfl,trivial⟩
 .simp_all[VX,Tt.p]
 .cases r with
  |k u=>exact Tt.p rfl
  |d s=>
   cases s with
   |k z=>grind
   |d z=>exact Tt.p (Q:=NC i) trivial
theorem dm{α:Type}{step:Nat->AA (AA UInt8)×Int->AB (CG (AA (AA UInt8)×Int) (AA (AA UInt8)))}(l:AA α)(g:α->AA UInt8)(q:AI l<=1048576)
  (h:∀n i x a,At l i x->step n (a,(i:Int))=(app a [g x]).bind λm=>AC (.k (m,((i+1:Nat):Int))))(e:∀n a,step n (a,(AI l:Int))=AC (.d a)):Tt (λn=>iter (step n) n ([],0)) λr=>AI r<=1048576:=by
 refine QJ l (λ(a:AA (AA UInt8)) i=>(a,i)) (λi a=>AI a<=i) om (λi x a d f=>?_) (λa f=>?_) [] _ rfl (XS _)
 .have:=d.lt';simp only[h _ _ _ _ d];exact Tt.b (Tt.a (by simp;omega)) λm j=>Tt.p ⟨m,rfl,gq⟩
 .simp only[e];exact Tt.p ⟨_,rfl,om⟩
theorem QpQ(c:CB)(w:C3 c):Tt (λn=>O_ n c) λ_=>True:=by
 unfold O_;refine Tt.b (dm c.Av (·.An) w.mats (λn i x a d=>?_) λn a=>?_) λj q=>Tt.b (dm c.AO (·.An) w.dist (λn i x a d=>?_) λn a=>?_) λh g=>Tt.b (dm c.Ap (·.An) w.wave (λn i x a d=>?_) λn a=>?_) λE y=>Tt.b (dm c.Ab (·.An) w.off (λn i x a d=>?_) λn a=>?_) λf m=>Tt.b (dm c.AV (·.An) w.cat (λn i x a d=>?_) λn a=>?_) λB t=>?_
 case refine_11=>
  exact Qe (Qe (ph _) λ_=>Tt.c (λ_=>Qe (eG j q) λ_=>Tt.c (λ_=>Qe (eG h g) λ_=>Tt.c (λ_=>Qe (eG E y) λ_=>Tt.c (λ_=>Qe (eG f m) λ_=>Tt.c (λ_=>Qe (eG B t) λ_=>Tt.z) λ_=>Tt.z) λ_=>Tt.z) λ_=>Tt.z) λ_=>Tt.z) λ_=>Tt.z) λ_=>Tt.z
 all_goals first|(unfold T7;simp only[Y1,Vp];done)|(unfold U2;simp only[Y1,Vp];done)|(unfold U6;simp only[Y1,Vp];done)|(unfold U';simp only[Y1,Vp];done)|(unfold VO;simp only[Y1,Vp];done)|(unfold T7;simp only[d.lt,Vo,d.ix,XI,d.nx];done)|(unfold U2;simp only[d.lt,Vo,d.ix,XI,d.nx];done)|(unfold U6;simp only[d.lt,Vo,d.ix,XI,d.nx];done)|(unfold U';simp only[d.lt,Vo,d.ix,XI,d.nx];done)|(unfold VO;simp only[d.lt,Vo,d.ix,XI,d.nx];done)
def I9(c:CB)(d:AN):Prop:=Cw ((AI c.Av:Int)-1) d.Af=AE/\(d.Am≠ -1->0<=d.Am/\d.Am<(AI c.Av:Int))
theorem QjG(c:CB)(w:C3 c){d:AN}(j:AI d.Aq<=1048576)(g:AI d.Af<=1048576)(f:∀x∈d.Af,CH.wf x):Tt (λn=>O9 n c d) λr=>r=AE->I9 c d:=by
 unfold O9;refine Tt.b (P:=λr=>match r with|.k _=>True|.d b=>b=AD) (QJ d.Aq (λ(_:Unit) i=>i) (λ_ _=>True) om (λi x _ ha _=>?_) (λ_ _=>?_) () _ rfl trivial) λr t=>?_
 .unfold Th;simp only[ha.lt,Vo,ha.ix,XI,ha.nx];exact Qe (Qe (kv ..) λ_=>Qv <| Qv <| Qe (Lb ..) λ_=>Tt.z) λ_=>Tt.c (λ_=>Tt.p (Q:=F0 _ _ _ _) rfl) λ_=>Tt.p ⟨(),rfl,trivial⟩
 .simp_all[Th,Tt.p]
 .cases r with
  |d b=>simp_all[Tt.p]
  |k u=>
   refine Tt.b (P:=λr=>r=AE->I9 c d) (Qe (Lb ..) λ_=>Tt.c (λ_=>Tt.b (P:=λr=>r=Cw ((AI c.Av:Int)-1) d.Af) (Tt.e (Qmq c w _ d.Af (XS _) g f) rfl) λr m=>Tt.c (λq=>Tt.w (P:=λr=>r=AE->d.Am≠ -1->0<=d.Am/\d.Am<(AI c.Av:Int)) (Tt.c (λz=>Tt.p gq) λ_=>Tt.b (Qnv c w.mats _) λ_ h=>Tt.p λz _=>h z) λ_ h z=>⟨gq,h z⟩) λ_=>Tt.p nofun) λ_=>Tt.p nofun) λr h=>Tt.p h
def MB(c:CB):Prop:=∀x∈c.Ap,0<=x.Bv/\x.Bv<=1099511627776
theorem Qns(c:CB)(E:CB.wf c):Tt (λn=>PM n c) λr=>r=AE->(∀d∈c.AO,I9 c d)/\MB c:=by
 have w:=YN E;have t:=Ji E;unfold PM;refine Tt.b (P:=Fo λr=>r=AD) (QJ c.Av (λ(_:Unit) i=>i) (λ_ _=>True) (by have:=w.mats;omega) (λi x _ f _=>?_) (λ_ _=>?_) () _ rfl trivial) λr g=>?_
 .unfold TZ;simp only[f.lt,Vo,f.ix,XI,f.nx];exact Qe (Lb ..) λ_=>Tt.c (λ_=>Tt.p (Q:=F0 _ _ _ _) rfl) λ_=>Tt.p ⟨(),rfl,trivial⟩
 .unfold TZ;simp only[Y1,Vp];exact Tt.p ⟨_,rfl,trivial⟩
 rcases r with u|b
 case d=>exact Tt.p λq=>by rw[show b=AD from g]at q;cases q
 refine Tt.b (P:=Fo λr=>r=AD) (QJ c.A4 (λ(_:Unit) i=>i) (λ_ _=>True) (by have:=w.legs;omega) (λi x _ f _=>?_) (λ_ _=>?_) () _ rfl trivial) λr g=>?_
 .have G:=f.lt';have F:=w.legs;unfold Tg;simp only[f.lt,Vo,f.ix,XI,f.nx];refine Qe (Qe (kv ..) λ_=>Qv <| Qe (kv ..) λ_=>Qv <| Qv <| Tt.k λ_=>Tt.z) λ_=>Tt.c (λ_=>Tt.p (Q:=F0 _ _ _ _) rfl) λ_=>?_;refine Tt.b (P:=Fo λ(r:CG Int (CG Unit Bool))=>r=.d (.d AD)) (Tt.up i om (λ(_:Unit) i=>i) (λ_ _=>True) (λj _ hj hn _=>?_) (λ_ _=>?_) () _ rfl trivial) λr g=>?_
  .unfold VN;simp only[dT ((j:Int)<(i:Int)),Vo,hn];have ix:=Tt.i (l:=c.A4) (Int.natCast_nonneg j) om;exact Qe (Qe ix.any λ_=>Tt.c (λ_=>Qe ix.any λ_=>Tt.z) λ_=>Tt.z) λ_=>Tt.c (λ_=>Tt.p (Q:=F0 _ _ _ _) rfl) λ_=>Tt.p ⟨(),rfl,trivial⟩
  .unfold VN;simp only[dF ((i:Int)<(i:Int)),Vp];exact Tt.p ⟨_,rfl,trivial⟩
  .cases r with
   |k u=>exact Tt.p ⟨(),rfl,trivial⟩
   |d s=>cases g;exact Tt.p (Q:=F0 _ _ _ _) rfl
 .unfold Tg;simp only[Y1,Vp];exact Tt.p ⟨_,rfl,trivial⟩
 rcases r with u|b
 case d=>exact Tt.p λq=>by rw[show b=AD from g]at q;cases q
 refine Tt.b (P:=λr=>match r with|.k _=>∀d∈c.AO,I9 c d|.d b=>b=AD) (QJ c.AO (λ(_:Unit) i=>i) (λi _=>∀d∈c.AO.take i,I9 c d) (by have:=w.dist;omega) (λi x _ f hI=>?_) (λ_ hI=>?_) () _ rfl sq) λr y=>?_
 .unfold TS;simp only[f.lt,Vo,f.ix,XI,f.nx];refine Tt.b (QjG c w (w.cut x f.mem) (t.len x f.mem) (t.wf x f.mem)) λr g=>Tt.c (λ_=>Tt.p (Q:=F0 _ _ _ _) rfl) λq=>Tt.p ⟨(),rfl,λd m=>?_⟩;rw[f.take]at m;rcases VB.1 m with h|h
  .exact hI d h
  .cases Vz.1 h;exact g (by simpa using q)
 .unfold TS;simp only[Y1,Vp];exact Tt.p ⟨_,rfl,by rw[X9]at hI;exact hI⟩
 rcases r with u|b
 case d=>exact Tt.p λq=>by rw[show b=AD from y]at q;cases q
 refine Tt.b (P:=λr=>match r with|.k _=>MB c|.d b=>b=AD) (QJ c.Ap (λ(_:Unit) i=>i) (λi _=>∀x∈c.Ap.take i,0<=x.Bv/\x.Bv<=1099511627776) (by have:=w.wave;omega) (λi x _ f hI=>?_) (λ_ hI=>?_) () _ rfl sq) λr B=>?_
 .unfold UN;simp only[f.lt,Vo,f.ix,XI,f.nx];refine Tt.b (ku ..) λr g=>Tt.c (λ_=>Tt.p (Q:=F0 _ _ _ _) rfl) λq=>Tt.p ⟨(),rfl,λd m=>?_⟩;rw[f.take]at m;rcases VB.1 m with h|h
  .exact hI d h
  .cases Vz.1 h;exact g (by simpa using q)
 .unfold UN;simp only[Y1,Vp];exact Tt.p ⟨_,rfl,by rw[X9]at hI;exact hI⟩
 rcases r with u|b
 case d=>exact Tt.p λq=>by rw[show b=AD from B]at q;cases q
 refine Tt.w (P:=λ_=>True) ?_ λ_ _ _=>⟨y,B⟩;refine Qe (Ku c.Ab w.off (λi x f=>?_) λn=>by unfold UT;simp only[Y1,Vp]) λr=>?_
 .unfold UT;simp only[f.lt,Vo,f.ix,XI,f.nx];refine Qe (Qe (Lb ..) λ_=>Tt.c (λ_=>Tt.k λ_=>Tt.z) λ_=>Tt.z) λ_=>Qe (Tt.c (λ_=>Qe (Lb ..) λ_=>Tt.k λ_=>Tt.z) λ_=>Tt.z) λ_=>Qe (Tt.c (λ_=>Tt.k λ_=>Tt.z) λ_=>Tt.z) λ_=>Qe (Tt.c (λ_=>Tt.k λ_=>Tt.z) λ_=>Tt.z) λ_=>Qv <| Tt.p rfl
 rcases r with u|b
 case d=>exact Tt.z
 refine Qe (Ku c.AV w.cat (λi x f=>?_) λn=>by unfold VM;simp only[Y1,Vp]) λr=>?_
 .unfold VM;simp only[f.lt,Vo,f.ix,XI,f.nx];exact Qe (Qv <| Tt.k λ_=>Tt.z) λ_=>Qv <| Tt.p rfl
 rcases r with u|b
 case d=>exact Tt.z
 refine Qe (Ku c.A3 w.prize (λi x f=>?_) λn=>by unfold U5;simp only[Y1,Vp]) λr=>?_
 .have G:=f.lt';have F:=w.prize;unfold U5;simp only[f.lt,Vo,f.ix,XI,f.nx];refine Qe (Qe (Lb ..) λ_=>Qv <| Qe (Lb ..) λ_=>Qv <| Qe (Lb ..) λ_=>Qv <| Qe (Lb ..) λ_=>Tt.z) λ_=>Qv <| ?_
  refine Tt.b (P:=Fo λ(r:CG Int (CG Unit Bool))=>r=.d (.d AD)) (Tt.up i om (λ(_:Unit) i=>i) (λ_ _=>True) (λj _ hj hn _=>?_) (λ_ _=>?_) () _ rfl trivial) λr g=>?_
  .unfold UV;simp only[dT ((j:Int)<(i:Int)),Vo,hn];exact Qe (Tt.i (Int.natCast_nonneg j) om).any λ_=>Qe (Tt.c (λ_=>Tt.k λ_=>Tt.z) λ_=>Tt.z) λ_=>Tt.c (λ_=>Tt.p (Q:=F0 _ _ _ _) rfl) λ_=>Tt.p ⟨(),rfl,trivial⟩
  .unfold UV;simp only[dF ((i:Int)<(i:Int)),Vp];exact Tt.p ⟨_,rfl,trivial⟩
  .cases r with
   |k u=>exact Tt.p rfl
   |d s=>cases g;exact Tt.p (Q:=NC i) trivial
 rcases r with u|b
 case d=>exact Tt.z
 have H:=Lb
 repeat' first|with_reducible exact Tt.p trivial|with_reducible refine Tt.c (λ_=>?_) λ_=>?_|with_reducible refine Qe ?_ λ_=>?_|with_reducible exact Lb ..
set_option maxRecDepth 10000
theorem QlO:∀(m:Nat) (c:AR),SizeOf.sizeOf c<=m->AR.wf c->Tt (λn=>Mz n c) λ_=>True:=by
 intro m
 induction m with
 |zero=>intro c f;cases c;simp at f
 |succ m j=>
  intro c f g;obtain⟨h,q⟩:=Jb g;refine Tt.s ?_;show Tt (λn=>RA (Mz n) n c) _;unfold RA;refine Tt.c (λ_=>?_) λ_=>Qe (Tt.k λ_=>Tt.z) λ_=>Qe ?_ λb=>?_
  .repeat' first|with_reducible exact Tt.p trivial|with_reducible refine Tt.c (λ_=>?_) λ_=>?_|with_reducible refine Qe ?_ λ_=>?_
  .repeat' first|with_reducible exact Tt.p trivial|with_reducible refine Tt.c (λ_=>?_) λ_=>?_|with_reducible refine Qe ?_ λ_=>?_
  .cases b with
   |d v=>exact Tt.z
   |k u=>
    refine Qe (Tt.k λ_=>Tt.z) λ_=>Qv <| Qe (Ku c.Ac h (λi x d=>?_) λn=>by simp_all[TW]) λr=>by cases r<;>exact Tt.z
    unfold TW;simp only[d.lt,Vo,d.ix,XI,d.nx];have y:=List.sizeOf_lt_of_mem d.mem;have t:SizeOf.sizeOf c.Ac<SizeOf.sizeOf c:=by cases c;simp;omega
    exact Qe (j x om (q x d.mem)) λ_=>Qv <| Tt.p rfl
theorem QnJ{c:AR}(d:AR.wf c):Tt (λn=>PF n c) λ_=>True:=by
 unfold PF;obtain⟨v,e,_⟩:=vC _ c 0 (XS _) om d;exact Qe (Tt.e e trivial) λ_=>Qv <| Qe (QlO _ c (XS _) d) λ_=>Qv <| Tt.z
theorem QlJ:∀(m:Nat) (l:AA AY),SizeOf.sizeOf l<=m->AI l<=1048576->(∀x∈l,AY.wf x)->Tt (λn=>Mx n l) λ_=>True:=by
 intro m
 induction m with
 |zero=>intro l f;cases l<;>simp at f
 |succ m G=>
  intro l f y g;refine Tt.s ?_;show Tt (λn=>P' (Mx n) n l) _;unfold P';refine Qe (Ku l y (λi x d=>?_) λn=>by simp_all[UP]) λr=>by cases r<;>exact Tt.z
  unfold UP;simp only[d.lt,Vo,d.ix,XI,d.nx];obtain⟨F,⟨q,t⟩,⟨j,B⟩⟩:=Ja (g x d.mem);have J:=List.sizeOf_lt_of_mem d.mem;have H:SizeOf.sizeOf x.Ba<SizeOf.sizeOf x/\SizeOf.sizeOf x.Bh<SizeOf.sizeOf x:=by cases x;simp;omega
  refine Tt.b (P:=Fo λ(r:CG Int (CG Unit Bool))=>NC i r) (Tt.c (λ_=>?_) λ_=>Tt.c (λ_=>?_) λ_=>Tt.z) λb E=>?_
  .refine Qe ?_ λ_=>Qv <| Tt.z
   refine Qv <| Qv <| Qe (Tt.e (Qa (Cu x.AR) |> λh=>h.congr λn=>tz n x.AR) trivial) λ_=>Qv <| Qv <| Tt.z
  .exact Qe (Qv <| Qe (QnJ F) λ_=>Qv <| Qv <| Qe gq λ_=>Qv <| Qe gq λ_=>Tt.z) λ_=>Qv <| Tt.z
  .cases b with
   |k u=>exact Tt.p rfl
   |d v=>exact Tt.p E
theorem QnC{l:AA AY}(f:AI l<=1048576)(d:∀x∈l,AY.wf x):Tt (λn=>Of n l) λ_=>True:=by
 unfold Of;obtain⟨a,b,e,_⟩:=qF _ l 0 (XS _) om f d;exact Qe (Tt.e e trivial) λ_=>Qe (Tt.k λ_=>Tt.z) λ_=>Qv <| Qe (Qv <| Qe (QlJ _ l (XS _) f d) λ_=>Tt.z) λ_=>Qv <| Tt.z
theorem qS{k:Int}{l:AA CH}(h:Cw k l=AE){p:CH}(d:p∈l):(p.Ax=0->0<=p.Al/\p.Al<=k)/\(p.Ax≠0->1<=p.Ax/\p.Ax<=64/\Cw k p.Ac=AE):=by
 rw[JE,Xs]at h;have q:=h p d;rw[Zo]at q;unfold DE at q;cases z:(p.Ax==0)with
 |true=>
  rw[z,Vo]at q;simp only[XV,Vq]at q;exact⟨λ_=>q.1,λy=>absurd (by simpa using z) y⟩
 |false=>
  rw[z,Vp]at q;simp only[XV,Vq]at q;exact⟨λy=>by rw[y]at z;simp at z,λ_=>⟨q.1.1,q.1.2,q.2.2.2⟩⟩
def NL(k:Int)(m:Nat)(r:AA Int):Prop:=AI r<=600*(m+1)/\ ∀x∈r,0<=x/\x<=k
theorem NL.app{k:Int}{m:Nat}{a b:AA Int}(ha:∀x∈a,0<=x/\x<=k)(hb:∀x∈b,0<=x/\x<=k)(h:AI a+AI b<=600*(m+1)):NL k m (a++b):=
 ⟨gq,gq⟩
theorem QjK(k:Int):∀(m:Nat) (l:AA CH),Ce l<=m->m<=256->AI l<=1048576->(∀x∈l,CH.wf x)->Cw k l=AE->Tt (λn=>Mw n l) (NL k m):=by
 intro m
 induction m using Nat.strongRecOn with
 |ind m W=>
  intro l hm F hl N O;refine Tt.s ?_;show Tt (λn=>P_ (Mw n) n l) _;unfold P_;refine Tt.b (P:=NL k m) (QJ l (λ(a:AA Int) i=>(a,i)) (λ_ a=>NL k m a) om (λi x a f j=>?_) (λa j=>?_) [] _ rfl ⟨sq,λ_ h=>nomatch h⟩) λr d=>Tt.p d
  .unfold Tk;simp only[f.lt,Vo,f.ix,XI,f.nx];refine Tt.c (λq=>?_) λ_=>Tt.p (Q:=F0 _ _ _ _) j;have h2:AI a<=256:=gq;obtain⟨R,J⟩:=qS O f.mem;refine Tt.b (P:=NL k m) (Tt.c (λz=>?_) λz=>?_) λr d=>Tt.p ⟨r,rfl,d⟩
   .have hM:=R (by simpa using z);refine Tt.b (Tt.a (by simp;omega)) λr d=>Tt.p ?_;subst d;exact NL.app j.2 (λy B=>gq) (by simp;omega)
   .obtain⟨l1,l2,M⟩:=J (by simpa using z);obtain⟨H,X⟩:=Ym (N x f.mem);have E:=Y7 f.mem;rw[YS]at E;refine Tt.b (W (Ce x.Ac) om x.Ac (XS _) om H X M) λr d=>?_;have V:=d.1;have G:600*(Ce x.Ac+1)<=600*m:=om;refine Tt.b (P:=NL k m) (Tt.l (λs:AA Int×Int=>NL k m s.1/\0<=s.2/\s.2<=64) (λs=>(64-s.2).toNat) (λs E=>?_) (a,0) gq) λr d=>Tt.p d;obtain⟨T,g⟩:=s;obtain⟨t,L,Y⟩:=E;simp only at t L Y;unfold eh;refine Tt.b (P:=λb=>b=AE->g<x.Ax/\AI T<=256) (Tt.b (P:=λy=>y=x) (Tt.o f.ix rfl) λy B=>Tt.c (λq1=>Tt.p λq2=>?_) λ_=>Tt.p nofun) λb G=>Tt.c (λq=>?_) λ_=>Tt.p (Q:=Fj _ _ _ _) t
    .grind
    .obtain⟨h3,h4⟩:=G q;refine Tt.b (Tt.a gq) λy B=>Tt.p (Q:=Fj _ _ _ _) ?_;have e:i64.wrap (g+1)=g+1:=Dh;subst B;show(_/\_/\_)/\_;simp only[e];exact⟨⟨NL.app t.2 d.2 om,om,om⟩,om⟩
  simp_all[Tk,Tt.p]
theorem oo(c:CB)(f:AI c.A4<=1048576)(a b:Int):Tt (λn=>Me n c a b) λ_=>True:=by
 unfold Me;refine Qe (Ku c.A4 f (λi x d=>?_) λn=>by simp_all[TR]) λr=>by cases r<;>exact Tt.z
 unfold TR;simp only[d.lt,Vo,d.ix,XI,d.nx];exact Qe (Tt.k λ_=>Tt.z) λ_=>Qv <| Tt.p rfl
theorem qe(l:AA Int)(d:AI l<=1048576)(a:Int):Tt (λn=>Mr n l a) λ_=>True:=by
 unfold Mr;refine Qe (QJ l (λ(a:Int) i=>(a,i)) (λ_ _=>True) om (λi x a ha _=>?_) (λ_ _=>?_) 0 _ rfl trivial) λ_=>Tt.z
 .unfold Tv;simp only[ha.lt,Vo,ha.ix,XI,ha.nx];exact Tt.b (P:=λ_=>True) (Tt.k λ_=>Tt.z) λr _=>Tt.p ⟨r,rfl,trivial⟩
 simp_all[Tv,Tt.p]
theorem QlN(c:CB)(w:C3 c){d:AN}(m:I9 c d)(F:Ce d.Af<=256)(E:AI d.Af<=1048576)(t:∀x∈d.Af,CH.wf x)(G:AI d.Aq<=1048576):Tt (λn=>O6 n c d) λ_=>True:=by
 unfold O6;refine Tt.b (QjK _ _ d.Af (XS _) F E t m.1) λr g=>?_;have J:=g.1;have j:AI r<=1048576:=om;have h:∀x∈r,Tt (λ_=>CJ c.Av x) λ_=>True:=λx H=>by have:=g.2 x H;exact(Tt.i this.1 om).any
 refine Qe (Tt.k λ_=>Tt.z) λ_=>Qv <| Qe (Ku r j (λi x f=>?_) λn=>by simp_all[Tc]) λb=>?_
 .have L:=f.lt';unfold Tc;simp only[f.lt,Vo,f.nx];refine Qe (Qv <| Tt.k λ_=>Tt.z) λ_=>Qe (Tt.b (P:=λy=>y∈r) (Tt.o f.ix f.mem) λy B=>Qe (h y B) λ_=>Qv <| Tt.c (λq=>?_) λ_=>Tt.z) λ_=>Qv <| Tt.p rfl
  have q:=Vu q;rw[QL (n:=(i:Int)-1) om om];exact Qe (Tt.i om om).any λ_=>Qe (Tt.o f.ix trivial) λ_=>Qe (oo c w.legs _ _) λ_=>Tt.z
 .cases b with
  |d v=>exact Tt.z
  |k u=>
   refine Qe (Tt.c (λq=>?_) λ_=>Tt.z) λ_=>Qv <| Qe (Ku d.Aq G (λi x f=>?_) λn=>by simp_all[U9]) λb=>by cases b<;>exact Tt.z
   .have q:=m.2 gq;exact Qe (Tt.i q.1 q.2).any λ_=>Qv <| Qe (qe r j _) λ_=>Qv <| Qe (oo c w.legs _ _) λ_=>Tt.z
   .unfold U9;simp only[f.lt,Vo,f.ix,XI,f.nx];exact Qe (qe r j _) λ_=>Qv <| Tt.p rfl
theorem QnA(c:CB)(j:CB.wf c):Tt (λn=>Pb n c) λr=>r=AE->∀d∈c.AO,Ce d.Af<=256:=by
 have w:=YN j;have f:=Ji j;unfold Pb;refine Qe (by repeat' first|with_reducible exact Tt.p trivial|with_reducible refine Tt.c (λ_=>?_) λ_=>?_) λ_=>Tt.n λ_=>?_;refine Tt.b (P:=λr=>match r with|.k _=>∀d∈c.AO,Ce d.Af<=256|.d b=>b=AD) (QJ c.AO (λ(_:Unit) i=>i) (λi _=>∀d∈c.AO.take i,Ce d.Af<=256) (by have:=w.dist;omega) (λi x _ ha hI=>?_) (λ_ hI=>?_) () _ rfl sq) λr t=>?_
 .unfold T_;simp only[ha.lt,Vo,ha.ix,XI,ha.nx];have g:=f.len x ha.mem;have h:=f.wf x ha.mem;refine Tt.b (P:=λb=>b=AD->Ce x.Af<=256) (Tt.n λ_=>Qe (Tt.e (uO _ x.Af 17 (XS _) om g h) trivial) λ_=>Tt.n λ_=>Tt.b (P:=λr=>r=((min (Ce x.Af) 257:Nat):Int)) (Tt.e (uN _ x.Af (XS _) g h) rfl) λr y=>Tt.p λq=>gq) λb B=>Tt.c (λ_=>Tt.p (Q:=F0 _ _ _ _) rfl) λq=>Tt.p ⟨(),rfl,λd m=>?_⟩;rw[ha.take]at m
  grind
 .simp_all[T_,Tt.p]
 .cases r with
  |k u=>exact Tt.p λ_=>t
  |d b=>simp_all[Tt.p]
def IF(c:CB):Prop:=(∀d∈c.AO,I9 c d/\Ce d.Af<=256)/\MB c
theorem uX(c:CB)(g:CB.wf c):Tt (λn=>HL n c) λe=>e=0->IF c:=by
 have w:=YN g;have j:=Ji g;obtain⟨y,t⟩:=iD g;unfold HL;refine Tt.b (QnA c g) λr G=>Tt.n λF=>Qe (QpQ c w) λ_=>Tt.n λ_=>Tt.b (Qns c g) λH m=>Tt.n λq=>?_;have R:IF c:=⟨λd h=>⟨(m (by simpa using q)).1 d h,G (by simpa using F) d h⟩,(m (by simpa using q)).2⟩;refine Tt.w (P:=λ_=>True) ?_ λ_ _ _=>R;refine Qe (QnC y t) λ_=>Qv <| Qe (Ku c.AO w.dist (λi x f=>?_) λn=>by unfold V4;simp only[Y1,Vp]) λb=>by cases b<;>exact Tt.z
 unfold V4;simp only[f.lt,Vo,f.ix,XI,f.nx];obtain⟨B,E⟩:=R.1 x f.mem;exact Qe (QlN c w B E (j.len x f.mem) (j.wf x f.mem) (w.cut x f.mem)) λ_=>Qv <| Tt.p rfl
set_option maxRecDepth 10000
theorem rv:∀l:AA CH,AI l<=Ce l
 |[]=>XT _
 |p::r=>by
  have:=rv r
  grind[Ce,YS]
theorem Qnn:∀(m:Nat) (l:AA CH) (d:Int),Ce l<=m->AI l<=1048576->(∀x∈l,CH.wf x)->Tt (λn=>M0 n l d) λ_=>True:=by
 intro m
 induction m using Nat.strongRecOn with
 |ind m h=>
  intro l d t y f;refine Tt.s ?_;show Tt (λn=>RC (M0 n) n l d) _;unfold RC;refine Qv <| Qe (QJ l (λ(a:Int) i=>(a,i)) (λ_ _=>True) om (λi x a ha _=>?_) (λ_ _=>?_) _ _ rfl trivial) λ_=>Tt.z
  .unfold UO;simp only[ha.lt,Vo,ha.ix,XI,ha.nx];obtain⟨g,j⟩:=Ym (f x ha.mem);have q:=Y7 ha.mem;rw[YS]at q;exact Tt.c (λ_=>Qe (h (Ce x.Ac) om x.Ac _ (XS _) g j) λr=>Tt.p ⟨_,rfl,trivial⟩) λ_=>Tt.p (Q:=F0 _ _ _ _) trivial
  simp_all[UO,Tt.p]
theorem QlS:∀(m:Nat) (l:AA AR) (d:Int),SizeOf.sizeOf l<=m->AI l<=1048576->(∀x∈l,AR.wf x)->Tt (λn=>My n l d) λ_=>True:=by
 intro m
 induction m with
 |zero=>intro l d f;cases l<;>simp at f
 |succ m j=>
  intro l d f t g;refine Tt.s ?_;show Tt (λn=>Q_ (My n) n l d) _;unfold Q_;refine Qv <| Qe (QJ l (λ(a:Int) i=>(a,i)) (λ_ _=>True) om (λi x a ha _=>?_) (λ_ _=>?_) _ _ rfl trivial) λ_=>Tt.z
  .unfold U_;simp only[ha.lt,Vo,ha.ix,XI,ha.nx];obtain⟨h,q⟩:=Jb (g x ha.mem);have B:=List.sizeOf_lt_of_mem ha.mem;have y:SizeOf.sizeOf x.Ac<SizeOf.sizeOf x:=by cases x;simp;omega
   exact Tt.c (λ_=>Qe (j x.Ac _ om h q) λr=>Tt.p ⟨_,rfl,trivial⟩) λ_=>Tt.p (Q:=F0 _ _ _ _) trivial
  simp_all[U_,Tt.p]
theorem QlI:∀(m:Nat) (l:AA AY) (d:Int),SizeOf.sizeOf l<=m->AI l<=1048576->(∀x∈l,AY.wf x)->Tt (λn=>Mv n l d) λ_=>True:=by
 intro m
 induction m with
 |zero=>intro l d q;cases l<;>simp at q
 |succ m t=>
  intro l d q E B;refine Tt.s ?_;show Tt (λn=>P9 (Mv n) n l d) _;unfold P9;refine Qv <| Qe (QJ l (λ(a:Int) i=>(a,i)) (λ_ _=>True) om (λi x a ha _=>?_) (λ_ _=>?_) _ _ rfl trivial) λ_=>Tt.z
  .unfold Tf;simp only[ha.lt,Vo,ha.ix,XI,ha.nx];obtain⟨J,⟨g,h⟩,⟨f,j⟩⟩:=Ja (B x ha.mem);have H:=List.sizeOf_lt_of_mem ha.mem;have F:SizeOf.sizeOf x.Ba<SizeOf.sizeOf x/\SizeOf.sizeOf x.Bh<SizeOf.sizeOf x:=by cases x;simp;omega
   exact Tt.c (λ_=>Qe (QlS _ [x.AR] 0 (XS _) sq λy G=>gq) λ_=>Qe (t x.Ba _ om g h) λ_=>Qe (t x.Bh _ om f j) λ_=>Tt.p ⟨_,rfl,trivial⟩) λ_=>Tt.p (Q:=F0 _ _ _ _) trivial
  simp_all[Tf,Tt.p]
theorem QpZ(c:CB)(f:CB.wf c):Tt (λn=>O0 n c) λ_=>True:=by
 have w:=YN f;have g:=Ji f;obtain⟨j,h⟩:=iD f;unfold O0;refine Qe (Ku c.AO w.dist (λi x d=>?_) λn=>by simp_all[VZ]) λb=>?_
 .unfold VZ;simp only[d.lt,Vo,d.ix,XI,d.nx];exact Qe (Qe (Qnn _ x.Af 0 (XS _) (g.len x d.mem) (g.wf x d.mem)) λ_=>Qv <| Tt.k λ_=>Tt.z) λ_=>Qv <| Tt.p rfl
 rcases b with u|v
 case d=>exact Tt.z
 refine Qe (Ku c.Av w.mats (λi x d=>?_) λn=>by simp_all[U3]) λb=>?_
 .unfold U3;simp only[d.lt,Vo,d.ix,XI,d.nx];exact Qv <| Tt.p rfl
 rcases b with u|v
 case d=>exact Tt.z
 refine Qe (by repeat' first|with_reducible exact Tt.p trivial|with_reducible refine Tt.c (λ_=>?_) λ_=>?_) λ_=>Qv <| Qe (QlI _ c.BN 0 (XS _) j h) λ_=>Tt.z
theorem QjJ(k:Int):∀(m:Nat) (l:AA CH),Ce l<=m->m<=256->AI l<=1048576->(∀x∈l,CH.wf x)->Cw k l=AE->Tt (λn=>Rv n l) λr=>AI r<=600*(m+1):=by
 intro m
 induction m using Nat.strongRecOn with
 |ind m R=>
  intro l hm h hl H J;have ll:=rv l;refine Tt.s ?_;show Tt (λn=>io (Rv n) n l) _;unfold io;refine Tt.b (P:=λ(r:AA Int)=>AI r<=600*(m+1)) (QJ l (λ(a:AA Int) i=>(a,i)) (λi a=>AI a<=300+600*m+i) om (λi x a d L=>?_) (λa L=>?_) [] _ rfl sq) λr f=>Tt.p f
  .have hi:=d.lt';unfold T9;simp only[d.lt,Vo,d.ix,XI,d.nx];obtain⟨Y,B⟩:=qS J d.mem;refine Tt.b (P:=λ(r:AA Int)=>AI r<=300+600*m+(i+1)) (Tt.c (λz=>?_) λz=>?_) λr f=>Tt.p ⟨r,rfl,f⟩
   .exact Tt.b (Tt.a (by simp;omega)) λr f=>Tt.p gq
   .obtain⟨l1,l2,G⟩:=B (by simpa using z);obtain⟨t,T⟩:=Ym (H x d.mem);have g:=Y7 d.mem;rw[YS]at g;refine Tt.b (R (Ce x.Ac) om x.Ac (XS _) om t T G) λr f=>?_;have j:600*(Ce x.Ac+1)<=600*m:=om;refine Tt.b (P:=λ(r:AA Int)=>AI r<=300+600*m+(i+1)) (Tt.l (λs:AA Int×Int=>AI s.1<=300+600*m+i/\0<=s.2/\s.2<=64) (λs=>(64-s.2).toNat) (λs g=>?_) (a,0) gq) λr f=>Tt.p f;obtain⟨O,F⟩:=s;obtain⟨M,E,V⟩:=g;simp only at M E V;unfold eY;refine Tt.b (P:=λb=>b=AE->F<x.Ax/\AI O<=300) (Tt.b (P:=λy=>y=x) (Tt.o d.ix rfl) λy N=>Tt.c (λX=>Tt.c (λ_=>Tt.p λq2=>?_) λ_=>Tt.p nofun) λ_=>Tt.p nofun) λb j=>Tt.c (λq=>?_) λ_=>Tt.p (Q:=Fj _ _ _ _) gq
    .grind
    .obtain⟨h3,W⟩:=j q;refine Tt.b (Tt.a gq) λy N=>Tt.p (Q:=Fj _ _ _ _) ?_
     grind[QL]
  .unfold T9;simp only[Y1,Vp];exact Tt.p ⟨_,rfl,om⟩
theorem kr{c:CB}(h:CB.wf c)(R:IF c){d:AN}(f:d∈c.AO):Tt (λn=>Rv n d.Af) λr=>AI r<=1048576:=by
 have g:=Ji h;obtain⟨⟨a,_⟩,b⟩:=R.1 d f;exact(QjJ _ _ d.Af (XS _) b (g.len d f) (g.wf d f) a).w λr j=>XU j (XU (Nat.mul_le_mul_left 600 (Nat.succ_le_succ b)) (by decide))
theorem QpV{c:CB}(f:CB.wf c)(R:IF c)(k:Int):Tt (λn=>PW n c k) λ_=>True:=by
 unfold PW;refine Qe (QpZ c f) λb=>Qv <| Qe (Ku c.AO (YN f).dist (λi x d=>?_) λn=>by simp_all[T6]) λb=>by cases b<;>exact Tt.z
 unfold T6;simp only[d.lt,Vo,d.ix,XI,d.nx];exact Qe (kr f R d.mem).any λ_=>Qv <| Tt.p rfl
theorem sh{c:CB}(he:Ev (λn=>HL n c) 0)(i:Int):Tt (λn=>Mm n c i) λe=>e=0->0<=i/\i<(AI c.AO:Int):=by
 unfold Mm;refine Tt.b (P:=λe=>e=0) (Tt.e he rfl) λe d=>?_;subst d;refine Tt.c (λq=>by cases q) λ_=>Tt.b (P:=λb=>b=AD->0<=i/\i<(AI c.AO:Int)) (Tt.n λh=>Tt.p λq=>?_) λb f=>Tt.n λq=>Tt.p λ_=>f q;have h:=Vv h;have q:=Vv q;exact⟨om,om⟩
theorem QnE{c:CB}(h:CB.wf c)(R:IF c)(he:Ev (λn=>HL n c) 0)(i:Int):Tt (λn=>Ov n c i) λ_=>True:=by
 unfold Ov;refine Tt.b (sh he i) λe g=>Tt.k λq=>?_;obtain⟨a,b⟩:=g gq;exact Tt.b (Tt.i a b) λd f=>Qe (Tt.z) λ_=>Qe (kr h R f).any λ_=>Qe (Tt.z) λ_=>Qv <| Tt.z
theorem QlT{c:CB}(H:CB.wf c)(R:IF c)(he:Ev (λn=>HL n c) 0)(i k:Int):Tt (λn=>Oo n c i k) λ_=>True:=by
 unfold Oo;refine Tt.b (sh he i) λe M=>Tt.k λq=>?_;obtain⟨a,b⟩:=M gq;refine Tt.b (Tt.i a b) λd F=>Tt.b (P:=λb=>b=AD->0<=k) (Tt.n λh=>Tt.w (P:=λ_=>True) (Tt.k λ_=>Tt.z) λ_ _ _=>gq) λb0 g=>Tt.k λG=>Tt.b (kr H R F) λr hr=>Tt.b (P:=λb=>b=AD->k<=256) (Tt.n λh=>Tt.p λ_=>gq) λY B=>Tt.k λL=>Qv <| ?_
 have k0:=g G;have X:=B L;refine Tt.b (P:=λx=> -1<=x/\x<(AI r:Int)) ?_ λx f=>?_
 .unfold WC;refine Tt.b (P:=λx=> -1<=x/\x<(AI r:Int)) (QJ r (λ(a:Int) i=>(a,i)) (λi a=> -1<=a/\a<(i:Int)) om (λi y a t E=>?_) (λa E=>?_) (-1) _ rfl om) λx f=>Tt.p f
  .unfold Td;simp only[t.lt,Vo,t.ix,XI,t.nx];exact Tt.b (P:=λx=> -1<=x/\x<((i+1:Nat):Int)) (Tt.c (λ_=>Tt.p om) λ_=>Tt.p ⟨E.1,om⟩) λx f=>Tt.p ⟨x,rfl,f⟩
  simp_all[Td,Tt.p]
 rw[QL (n:=x+1) om om];refine Tt.b (Tt.sl (Int.le_refl 0) om om) λp hp=>Tt.b (Tt.a (by simp;omega)) λj V=>?_;have e2:AI j=AI p:=by rw[V];simp
 refine Tt.b (P:=λ(m:AA Int)=>AI m<=2000000) (Tt.l (λs:AA Int×Int=>AI s.1=AI j+s.2.toNat/\0<=s.2/\s.2<=k) (λs=>(k-s.2).toNat) (λs O=>?_) (j,0) gq) λm T=>Tt.b (Tt.sl om om (Int.le_refl _)) λp2 h2=>Tt.b (Tt.a om) λ_ _=>Tt.z;obtain⟨s1,s2⟩:=s;obtain⟨N,J,W⟩:=O;simp only at N J W;unfold eZ;refine Tt.c (λq=>?_) λ_=>Tt.p (Q:=Fj _ _ _ _) gq;have q:=Vu q;simp only at q;refine Tt.b (Tt.a gq) λm T=>Tt.p (Q:=Fj _ _ _ _) ?_
 grind[QL]
section
variable {α:Type}
theorem kg{R:AA α->Prop}(l:AA α)(x:α){i:Int}(q:0<=i)(j:i<=(AI l:Int))(H:AI l<=100000)(h:∀m,AI m=AI l+1->(∀y∈m,y=x\/y∈l)->R m):
  Tt (λ_=>(Dn l i (AI l:Int)).bind λa=>(app [x] a).bind λb=>(Dn l 0 i).bind λc=>(app c b).bind λd=>AC d) R:=by
 refine Tt.b (Tt.sl q j (Int.le_refl _)) λp t=>Tt.b (Tt.a (by simp;omega)) λG B=>?_;subst B;refine Tt.b (Tt.sl (Int.le_refl 0) q j) λJ E=>Tt.b (Tt.a (by simp;omega)) λF f=>Tt.p (h _ ?_ λy g=>?_)
 .subst f;simp;omega
 .subst f;simp only[VB,Vz]at g;rcases g with h|h|h
  .exact .inr (E.2 y h)
  .exact .inl h
  .exact .inr (t.2 y h)
theorem s?{R:AA α->Prop}(l:AA α)(x:α){i:Int}(g:0<=i)(f:i<=(AI l:Int))(G:AI l<=100000)(h:∀m,AI m=AI l+1->(∀y∈m,y=x\/y∈l)->R m):
  Tt (λ_=>(Dn l 0 i).bind λa=>(app ([]:AA α) a).bind λb=>(app b [x]).bind λc=>(Dn l i (AI l:Int)).bind λd=>(app c d).bind λe=>AC e) R:=by
 refine Tt.b (Tt.sl (Int.le_refl 0) g f) λp t=>Tt.b (Tt.a (by simp;omega)) λF j=>?_;subst j;refine Tt.b (Tt.a (by simp;omega)) λJ q=>Tt.b (Tt.sl g f (Int.le_refl _)) λB M=>?_;subst q;refine Tt.b (Tt.a (by simp;omega)) λE L=>Tt.p (h _ ?_ λy H=>?_)
 .grind
 grind
end
theorem Qr1(l:AA AP)(b:Int)(d:AI l<=1000):Tt (λn=>Pr n l b) λ_=>True:=by
 unfold Pr;refine Qe (QJ l (λ(_:Unit) i=>i) (λ_ _=>True) om (λi x _ ha _=>?_) (λ_ _=>?_) () _ rfl trivial) λr=>?_
 .unfold TQ;simp only[ha.lt,Vo,ha.ix,XI,ha.nx]
  simp_all[Tt.c,Tt.p]
 .simp_all[TQ,Tt.p]
 .cases r<;>exact Tt.z
theorem Qno(l:AA CI)(r:A5)(d:AI l<=16):Tt (λn=>On n l r) λ_=>True:=by
 unfold On;refine Qe (QJ l (λ(_:Unit) i=>i) (λ_ _=>True) om (λi x _ ha _=>?_) (λ_ _=>?_) () _ rfl trivial) λr=>?_
 .unfold VP;simp only[ha.lt,Vo,ha.ix,XI,ha.nx];refine Qe ?_ λ_=>Qv <| Tt.p ⟨(),rfl,trivial⟩
  repeat' first|with_reducible exact Tt.p trivial|with_reducible refine Tt.c (λ_=>?_) λ_=>?_
 .simp_all[VP,Tt.p]
 .cases r<;>exact Tt.z
theorem Qnw(a b:A5):Tt (λn=>O4 n a b) λ_=>True:=by
 unfold O4
 repeat' first|with_reducible exact Tt.p trivial|with_reducible refine Tt.c (λ_=>?_) λ_=>?_
theorem n?(c:CB)(l:AA CI)(q:AI l<=16):Tt (λn=>Pj n c l) λr=>AI r<=16:=by
 unfold Pj;refine Tt.b (dh l q) λC hC=>?_;refine Tt.b (P:=λ(a:AA A5)=>AI a<=16) (QJ C (λ(a:AA A5) i=>(a,i)) (λi a=>AI a<=i) om (λi x a d h=>?_) (λa h=>?_) [] _ rfl (XS _)) λa d=>Tt.p d
 .unfold UY;have:=d.lt';simp only[d.lt,Vo,d.ix,XI,d.nx];refine Tt.b (P:=λ(m:AA A5)=>AI m<=i+1) (Qe (Qv <| Qv <| Qe (Qno C _ hC.1) λ_=>Tt.z) λb=>Tt.c (λ_=>Tt.p om) λ_=>?_) λm g=>Tt.p ⟨m,rfl,g⟩;refine Tt.b (Tt.find a om λj y f=>Qe (Tt.o f.ix trivial) λy=>Qe (Qnw _ _) λ_=>Tt.z) λj f=>?_;exact kg a x.A5 f.1 f.2 om λm B t=>om
 .unfold UY;simp only[Y1,Vp];exact Tt.p ⟨_,rfl,om⟩
theorem Qp4(c:CB)(l:AA CI)(t:AI l<=16){e:Int}(he:Ev (λn=>HL n c) e):Tt (λn=>PP n c l) λr=>AI r<=16:=by
 unfold PP;refine Qe (Tt.e he trivial) λe=>Tt.c (λ_=>Tt.p sq) λ_=>Tt.b (n? c l t) λC hC=>?_;refine Tt.b (P:=λ(a:AA CN)=>AI a<=16) (QJ C (λ(a:AA CN) i=>(a,i)) (λi a=>AI a<=i) om (λi x a d j=>?_) (λa j=>?_) [] _ rfl (XS _)) λa d=>Tt.p d
 .unfold TT;have:=d.lt';have w:i64.wrap ((AI a:Int)-1)=(AI a:Int)-1:=Dh;simp only[d.lt,Vo,d.ix,XI,d.nx,w];refine Tt.b (P:=λb=>b=AE->0<=(AI a:Int)-1) (Tt.c (λh=>?_) λ_=>Tt.p nofun) λb g=>?_
  .have h:=Vu h;refine Tt.w (P:=λ_=>True) ?_ λ_ _ _=>h
   repeat' first|with_reducible exact Tt.p trivial|with_reducible refine Tt.c (λ_=>?_) λ_=>?_|with_reducible refine Qe ?_ λ_=>?_|exact(Tt.i h om).any
  .refine Tt.b (P:=λ(m:AA CN)=>AI m<=i+1) (Tt.c (λq=>?_) λ_=>Tt.b (Tt.a (by simp;omega)) λm f=>Tt.p gq) λm f=>Tt.p ⟨m,rfl,f⟩;have h:=g q;exact Qe (Tt.i h om).any λy=>Tt.b (Tt.set h om) λm f=>Tt.p om
 .unfold TT;simp only[Y1,Vp];exact Tt.p ⟨_,rfl,om⟩
theorem m?(c:CB)(l:AA CI)(k:Int)(g:AI l<=16){e:Int}(he:Ev (λn=>HL n c) e):Tt (λn=>P1 n c l k) λr=>AI r<=16:=by
 unfold P1;refine Tt.b (Qp4 c l g he) λC hC=>?_;refine Tt.b (P:=λ(a:AA CN)=>AI a<=16) (QJ C (λ(a:AA CN) i=>(a,i)) (λi a=>AI a<=i) om (λi x a d h=>?_) (λa h=>?_) [] _ rfl (XS _)) λa d=>Tt.p d
 .unfold Tm;have:=d.lt';simp only[d.lt,Vo,d.ix,XI,d.nx];exact Tt.b (P:=λ(m:AA CN)=>AI m<=i+1) (Tt.c (λ_=>Tt.b (Tt.a (by simp;omega)) λm f=>Tt.p gq) λ_=>Tt.p om) λm f=>Tt.p ⟨m,rfl,f⟩
 .unfold Tm;simp only[Y1,Vp];exact Tt.p ⟨_,rfl,om⟩
theorem tV(l:AA CI)(k:Int)(B:AI l<=16):Tt (λn=>MT n l k) λr=>AI r<=16:=by
 unfold MT;refine Tt.b (P:=λ(a:AA Int)=>AI a<=16) (QJ l (λ(a:AA Int) i=>(a,i)) (λi a=>AI a<=i) om (λi x a d q=>?_) (λa q=>?_) [] _ rfl (XS _)) λa d=>Tt.p d
 .unfold Tw;have:=d.lt';simp only[d.lt,Vo,d.ix,XI,d.nx];refine Tt.b (P:=λ(m:AA Int)=>AI m<=i+1) (Tt.c (λ_=>Tt.p om) λ_=>?_) λm g=>Tt.p ⟨m,rfl,g⟩;refine Tt.b (Tt.find a om λj y f=>Qe (Tt.o f.ix trivial) λy=>Tt.z) λj f=>?_;refine Qe (Tt.c (λh=>Qe (Tt.i f.1 (Vu h)).any λ_=>Tt.z) λ_=>Tt.z) λ_=>Tt.c (λ_=>Tt.p om) λ_=>?_;exact kg a _ f.1 f.2 om λm E t=>om
 .unfold Tw;simp only[Y1,Vp];exact Tt.p ⟨_,rfl,om⟩
theorem sf(l:AA CI)(g:AI l<=16):Tt (λn=>Ml n l) λr=>AI r<=16:=by
 unfold Ml;refine Tt.b (dh l g) λC hC=>Tt.b (tV C 8 hC.1) λK hK=>?_;refine Tt.b (P:=λ(a:AA Aj)=>AI a<=16) (QJ K (λ(a:AA Aj) i=>(a,i)) (λi a=>AI a<=i) om (λi x a d h=>?_) (λa h=>?_) [] _ rfl (XS _)) λa d=>Tt.p d
 .unfold Ti;have:=d.lt';simp only[d.lt,Vo,d.nx];refine Tt.b (P:=λ(m:AA Aj)=>AI m<=i+1) (QJ C (λ(_:Unit) i=>i) (λ_ _=>True) om (λj y _ hy _=>?_) (λ_ _=>?_) () _ rfl trivial) λm f=>Tt.p ⟨m,rfl,f⟩
  .unfold UL;simp only[hy.lt,Vo,hy.ix,XI,hy.nx];exact Qe (Tt.c (λ_=>Qe (Tt.o d.ix trivial) λ_=>Tt.z) λ_=>Tt.z) λ_=>Tt.c (λ_=>Tt.b (Tt.a (by simp;omega)) λm f=>Tt.p (Q:=F0 _ _ _ _) gq) λ_=>Tt.p ⟨(),rfl,trivial⟩
  .unfold UL;simp only[Y1,Vp];exact Tt.p ⟨_,rfl,om⟩
 .unfold Ti;simp only[Y1,Vp];exact Tt.p ⟨_,rfl,om⟩
theorem rO(l:AA Int)(k:Int)(g:AI l<=1000):Tt (λn=>Mc n l k) λr=>AI r<=AI l+1:=by
 unfold Mc;refine Tt.b (Tt.find l om λj y d=>Qe (Tt.o d.ix trivial) λy=>Tt.z) λj d=>?_;refine Qe (Tt.c (λh=>Qe (Tt.i d.1 (Vu h)).any λ_=>Tt.z) λ_=>Tt.z) λ_=>Tt.c (λ_=>Tt.p om) λ_=>?_;exact kg l _ d.1 d.2 om λm f q=>om
theorem iX(l:AA CI)(a b:Int)(f:AI l<=16):Tt (λn=>IP n l a b) λr=>r<(AI l:Int):=by
 unfold IP;refine Tt.b (P:=Fo λr=>r<(AI l:Int)) (QJ l (λ(_:Unit) i=>i) (λ_ _=>True) om (λi x _ ha _=>?_) (λ_ _=>?_) () _ rfl trivial) λr d=>?_
 .unfold MM;have:=ha.lt';simp only[ha.lt,Vo,ha.ix,XI,ha.nx];refine Qe ?_ λ_=>Tt.c (λ_=>Tt.p (Q:=F0 _ _ _ _) om) λ_=>Tt.p ⟨(),rfl,trivial⟩
  repeat' first|with_reducible exact Tt.p trivial|with_reducible refine Tt.c (λ_=>?_) λ_=>?_
 .simp_all[MM,Tt.p]
 .cases r with
  |k s=>exact Tt.p om
  |d s=>exact Tt.p d
theorem u7(l:AA CI)(a:Int)(d:AI l<=16):Tt (λn=>Pi n l a) λ_=>True:=by
 unfold Pi;refine Qe (Qe (iX l a 1 d).any λ_=>Qv <| Qe (iX l a 2 d).any λ_=>Tt.z) λ_=>Qv <| ?_
 refine Qe (QJ l (λ(_:Unit) i=>i) (λ_ _=>True) om (λi x _ ha _=>?_) (λ_ _=>?_) () _ rfl trivial) λr=>?_
 .unfold V0;simp only[ha.lt,Vo,ha.ix,XI,ha.nx];refine Qe ?_ λ_=>Qv <| Tt.p ⟨(),rfl,trivial⟩
  repeat' first|with_reducible exact Tt.p trivial|with_reducible refine Tt.c (λ_=>?_) λ_=>?_
 .simp_all[V0,Tt.p]
 .cases r<;>exact Tt.z
theorem QpS(l:AA CI)(a:Int)(d:AI l<=16):Tt (λn=>KD n l a) λr=>r<(AI l:Int):=by
 unfold KD;exact Qe (u7 l a d) λ_=>Tt.c (λ_=>Tt.p om) λ_=>Tt.b (iX l a 2 d) λr h=>Tt.c (λ_=>Tt.p h) λ_=>Tt.b (iX l a 1 d) λr h=>Tt.p h
theorem Qp3(l:AA CI)(j:AI l<=16):Tt (λn=>Og n l) λr=>AI r<=16:=by
 unfold Og;refine Tt.b (dh l j) λC hC=>Tt.b (tV C 10 hC.1) λK hK=>?_;refine Tt.b (P:=λ(a:AA Ag)=>AI a<=16) (QJ K (λ(a:AA Ag) i=>(a,i)) (λi a=>AI a<=i) om (λi x a d g=>?_) (λa g=>?_) [] _ rfl (XS _)) λa d=>Tt.p d
 .unfold TO;have:=d.lt';simp only[d.lt,Vo,d.ix,XI,d.nx];exact Tt.b (QpS C x hC.1) λr q=>Tt.b (P:=λ(m:AA Ag)=>AI m<=i+1) (Tt.c (λh=>Qe (Tt.i (Vu h) q).any λ_=>Tt.b (Tt.a (by simp;omega)) λm f=>Tt.p gq) λ_=>Tt.p om) λm f=>Tt.p ⟨m,rfl,f⟩
 .unfold TO;simp only[Y1,Vp];exact Tt.p ⟨_,rfl,om⟩
theorem Qnr(l:AA CI)(a:Int)(d:AI l<=16):Tt (λn=>PH n l a) λ_=>True:=by
 unfold PH;refine Tt.b (sf l d) λC hC=>Qe (QJ C (λ(_:Unit) i=>i) (λ_ _=>True) om (λi x _ ha _=>?_) (λ_ _=>?_) () _ rfl trivial) λr=>?_
 .unfold U1;simp only[ha.lt,Vo,ha.ix,XI,ha.nx]
  simp_all[Tt.c,Tt.p]
 .simp_all[U1,Tt.p]
 .cases r<;>exact Tt.z
theorem l?(l:AA CF)(d:AI l<=1000):Tt (λn=>KH n l) λ_=>True:=by
 unfold KH;refine Qe (QJ l (λ(a:Int) i=>(a,i)) (λ_ _=>True) om (λi x a ha _=>?_) (λ_ _=>?_) 0 _ rfl trivial) λr=>Tt.z
 .unfold MG;simp only[ha.lt,Vo,ha.ix,XI,ha.nx];exact Tt.p ⟨_,rfl,trivial⟩
 simp_all[MG,Tt.p]
structure M3 (c:CB):Prop where
 wf:CB.wf c
 few:F1 c
 ty:Ev (λn=>DZ n c) 0
 cE:CL c=0
 good:Ft c
structure HO (c:CB):Prop where
 wf:CB.wf c
 few:F1 c
 ty:Ev (λn=>DZ n c) (CL c)
 ref:Ev (λn=>HL n c) 0
 rr:IF c
theorem HO.r{c:CB}(h:HO c)(e:CL c=0):M3 c:=⟨h.wf,h.few,e▸h.ty,e,Qqv (YN h.wf) (Ji h.wf) e⟩
theorem QpY{c:CB}(h:HO c){k:CE}(t:Fh k)(s:AP)(e:Int)(x:AA CN)(l:AA Ae):Tt (λn=>Ps n c k s e x l) λr=>r=AE->AI x<=4/\AI l<=6:=by
 unfold Ps;obtain⟨b,m,_⟩:=qy c h.wf;obtain⟨B,y,_⟩:=QoM k t;have rr:=QlT h.wf h.rr h.ref s.AN e;refine Tt.b (P:=λq=>q=AD->AI x<=4/\AI l<=6) (Qe (Tt.e m trivial) λ_=>Tt.n λ_=>Tt.n λ_=>Qe (Tt.e y trivial) λ_=>Tt.n λ_=>Tt.n λj=>Tt.p λg=>?_) λq f=>Tt.n λd=>?_
 .have j:=Vv j;have g:=Vv g;exact⟨om,om⟩
 exact Qe (Tt.k λ_=>Tt.z) λ_=>Tt.c (λ_=>Tt.p λ_=>f d) λ_=>Qe rr λ_=>Qe (Tt.k λ_=>Tt.z) λ_=>Tt.p λ_=>f d
abbrev vI:=AA CD×AA (AA Int)×Int×Int×Int×Int×Int×Int×Int×Int×AA CN×AA Ae×AA CF×Bool
section
variable {α β:Type}
theorem mU(f:α->β):∀(l:AA α) (a:AA β),l.foldl (λa x=>a++[f x]) a=a++l.map f
 |[],a=>sq
 |x::l,a=>by rw[XC,mU f l];simp
theorem h?{step:Nat->AA β×Int->AB (CG (AA β×Int) (AA β))}(l:AA α)(f:α->β)(m:AI l<=1048576)
  (h:∀i x a,At l i x->AI a<=i->Ev (λn=>step n (a,(i:Int))) (.k (a++[f x],((i+1:Nat):Int))))
  (d:∀a,Ev (λn=>step n (a,(AI l:Int))) (.d a)):Ev (λn=>Go.Sw.iter (step n) n ([],0)) (l.map f):=by
 have e:l.map f=l.foldl (λa x=>a++[f x]) []:=by rw[mU];rfl
 rw[e];refine YL l (λa x=>a++[f x]) [] (λa i=>(a,(i:Int))) (λa=>a) om rfl (λi x a j g=>h i x a j ?_) (d _);rw[g,mU,Vh,X0,Xx];omega
theorem tJ{l:AA α}[DecidableEq (AA α)](d:AI l<=1048576):isNil l (AC ([]:AA α)) ((app ([]:AA α) l).bind λx=>AC x)=AC l:=by
 have:app [] l=AC l:=by rw[py _ _ (by simp;omega)];rfl
 unfold isNil
 grind
theorem Qpx{F:Nat->α->α->AB β}{V:α->α->β}(l:AA α)(h:∀x∈l,∀y∈l,Ev (λn=>F n x y) (V x y)):∃N,∀n,N<=n->∀x∈l,∀y∈l,F n x y=AC (V x y):=by
 obtain⟨N,d⟩:=my (F:=λn p=>F n p.1 p.2) (V:=λp=>V p.1 p.2) (l.flatMap λx=>l.map λy=>(x,y)) (by
  grind)
 exact⟨N,λn f x j y g=>d n f (x,y) gq⟩
def Ne(c:α->α->Int)(x y:α):Bool:=AG (c x y<0)
theorem qo{c:α->α->Int}(d:DV c)(l:AA α):Nx (Ne c) l:=by
 refine⟨λx _=>?_,λx _ y _ z _ g f=>?_,λx _ y _ z _ g f=>?_⟩
 .have:=d.refl x;exact Vw om
 .have g:=Vu g;have f:=Vu f;exact Vt (d.trans x y z g f)
 .have g:=Vv g;have f:=Vv f;refine Vw λh=>?_;have a:=d.swap x y;have b:=d.swap y z;by_cases e:c x y=0
  .rw[d.eqt x y z e]at h;exact f h
  .by_cases j:c y z=0
   .rw[<- d.eqr x j]at h;exact g h
   .have m:=d.trans z y x om om;have:=d.swap x z;omega
theorem pp[DecidableEq α]{j:Nat->α->α->AB Int}{l:AA α}{c:α->α->Int}(E:AI l<=1048576)(H:∀x∈l,∀y∈l,Ev (λn=>j n x y) (c x y))(d:DV c)(F:∀x∈l,∀y∈l,c x y=0->x=y):
  Ev (λn=>L8 (j n) l) (JU (Ne c) l):=by
 obtain⟨N,G⟩:=Qpx l H;refine⟨N,λn J=>?_⟩;have h:=G n J;have B:=QnR (XQ (Qqx E)) c h (λx _=>by have:=d.refl x;omega) (λx _ y _ z _=>d.trans x y z) (λx g y f z L q m=>by
   have:=(qo d l).ntrans x g y f z L (Vw q) (Vw m);exact Vv this) (λx g y f q m=>F x g y f (by have:=d.swap x y;omega))
 show L8 (j n) l=AC (JU (Ne c) l);rw[B];congr 1;obtain⟨_,_,M,_,_⟩:=mI B;have t:∀x∈l,∀y∈l,HP (j n) x y=Ne c x y:=λx g y f=>by unfold HP Ne;grind
 refine mn ((Yw _ l).trans (Yw _ l).symm) (λx g y f q m=>?_) ?_ (ib (qo d l))
 .grind[Yw]
 grind[List.Pairwise.imp_of_mem,ib,Yw]
end
def DC:AA Int->AA Int->Int
 |[],[]=>0
 |[],_::_=> -1
 |_::_,[]=>1
 |x::a,y::b=>bif C2 x y != 0 then C2 x y else DC a b
theorem QqP(a b:AA Int)(J:AI a<=1048576)(L:AI b<=1048576):Ev (λn=>PQ n a b) (DC a b):=by
 unfold PQ;have h:∀(r:AA Int) (i:Nat),a.drop i=r->i<=AI a->i<=AI b->∃d:CG Unit Int,DY (λn=>K7 n a b) (i:Int) d/\(match d with|.k _=>(bif (AI a:Int)<(AI b:Int) then(-1:Int)else 0)|.d v=>v)=DC r (b.drop i):=by
  intro r
  induction r with
  |nil=>
   intro i j F B;refine⟨.k (),Ei ?_,?_⟩
   .unfold K7;simp only[Yu j F,Vp];exact Qa _
   .have f:i=AI a:=by have:=Xq.1 j;omega
    cases q:b.drop i with
    |nil=>
     simp_all[YO,DC]
    |cons y s=>
     have:i<AI b:=by
      grind
     simp_all[DC]
  |cons x r G=>
   intro i j F B;obtain⟨f,H⟩:=QG om j;by_cases E:AI b<=i
   .refine⟨.d 1,Ei ?_,?_⟩
    .unfold K7;simp only[f.lt,Vo,f.ix,XI,dT ((AI b:Int)<=(i:Int))];exact Qa _
    .rw[List.drop_of_length_le E];rfl
   .have g:i<AI b:=by omega
    rw[Xp g];cases q:(C2 x b[i] != 0)with
    |true=>
     refine⟨.d (C2 x b[i]),Ei ?_,?_⟩
     .unfold K7;simp only[f.lt,Vo,f.ix,XI,dF ((AI b:Int)<=(i:Int)),Vp,Qx (XJ g)];refine Ea (S4 _ _) ?_;rw[q];exact Qa _
     .simp only[DC,q,Vo]
    |false=>
     obtain⟨d,t,m⟩:=G (i+1) H (by have:=f.lt';omega) om;refine⟨d,Ew ?_ t,?_⟩
     .unfold K7;simp only[f.lt,Vo,f.ix,XI,dF ((AI b:Int)<=(i:Int)),Vp,Qx (XJ g),f.nx];refine Ea (S4 _ _) ?_;rw[q];exact Qa _
     simp_all[DC]
 obtain⟨d,t,m⟩:=h a 0 rfl (XT _) (XT _);rw[List.drop_zero]at m;refine Ea t.ev ?_;rw[<- m];cases d with
 |d v=>exact Qa _
 |k _=>exact JT (λ_=>Qa _) (λ_=>Qa _)
theorem Qo5(a b:Int):C2 a b<0↔a<b:=by
 grind[C2]
theorem gx(a b:Int):(C2 a b != 0)=(a != b):=by
 grind[C2]
theorem QqY(x y:Int)(a b:AA Int):DC (x::a) (y::b)<0↔x<y\/x=y/\DC a b<0:=by
 rw[show DC (x::a) (y::b)=bif C2 x y != 0 then C2 x y else DC a b from rfl,gx];by_cases e:x=y
 .subst e;simp
 .have:(x != y)=true:=by grind
  rw[this,Vo,Qo5];omega
theorem uF:∀a b c:AA Int,DC a b<0->DC b c<0->DC a c<0
 |[],[],c,h,_=>om
 |[],y::b,[],_,h=>by simp[DC]at h
 |[],y::b,z::c,_,_=>by simp[DC]
 |x::a,[],c,h,_=>by simp[DC]at h
 |x::a,y::b,[],_,h=>by simp[DC]at h
 |x::a,y::b,z::c,h1,h2=>by
  rw[QqY]at h1 h2⊢;rcases h1 with h1|⟨e1,h1⟩<;>rcases h2 with h2|⟨e2,h2⟩
  iterate 3 left;omega
  .exact .inr ⟨om,uF a b c h1 h2⟩
theorem j?{α:Type}[DecidableEq α](l m:AA α)(step:Nat->Int->AB (CG Int (CG Unit Bool)))(G:AI l<=4611686018427387904)
  (B:∀n s,step n s=(bif s<(AI l:Int) then(CJ l s).bind λx=>(CJ m s).bind λy=>(bif (x != y)then AC (.d (.d AD))else AC (.k (i64.wrap (s+1))))else AC (.d (.k ())))):
  Ev (λn=>(bif ((AI l:Int) != (AI m:Int))then AC AD else(Go.Sw.iter (step n) n 0:AB (CG Unit Bool)).bind λb11=>match b11 with|.k sb11=>(AC AE)|.d sb11=>AC sb11)) (AG (l=m)):=by
 by_cases j:AI l=AI m
 .rw[show(AI l != (AI m:Int))=AD by grind];have loop:∀(r d:AA α) (i:Nat),l.drop i=r->m.drop i=d->i<=AI l->DY step i (bif r=d then CG.k ()else CG.d AD):=by
   intro r
   induction r with
   |nil=>
    grind[DY.done,Qa,Yu]
   |cons x r F=>
    intro d i H h J;obtain⟨f,q⟩:=QG G H;have E:=f.lt';cases d with
    |nil=>
     have h1:=Xq.1 h;omega
    |cons y d=>
     obtain⟨t,g⟩:=QG om h;by_cases e:x=y
     .subst e;refine Ew ?_ ((F d (i+1) q g om).eq ?_)
      .refine Ev.congr (Qa _) λn=>?_;rw[B,f.lt,f.ix,t.ix,Vo,XI,XI,f.nx];simp
      .simp
     .refine Ei (Ev.congr (Qa _) λn=>?_);rw[B,f.lt,f.ix,t.ix,Vo,XI,XI,bne_iff_ne.2 e];simp[e]
  refine Ea (loop l m 0 rfl rfl (XT _)).ev ?_;cases AG (l=m)<;>exact Qa _
 .rw[show(AI l != (AI m:Int))=AE by rw[bne_iff_ne];omega];refine(Qa _).eq ?_;rw[YO λe=>j (by rw[e])]
def jC:CC:={BM:=AE,BS:=(-1),Lo:=0,Hi:=0:CC}
def HR(o:CC):Bool:= !(o.BM||AG (o.Hi<o.Lo))
def Im(x y:CC):Int:=IU [C2 x.BS y.BS,C2 x.Lo y.Lo,C2 x.Hi y.Hi]
theorem qx:Im=λx y=>bif C2 x.BS y.BS != 0 then C2 x.BS y.BS else bif C2 x.Lo y.Lo != 0 then C2 x.Lo y.Lo else C2 x.Hi y.Hi:=by
 funext x y
 unfold Im IU IU IU IU
 grind
theorem QqX:DV Im:=by
 rw[qx];exact(G_.on λx:CC=>x.BS).lex ((G_.on λx:CC=>x.Lo).lex (G_.on λx:CC=>x.Hi))
theorem QmC{x y:CC}(h:Im x y=0):x.BS=y.BS/\x.Lo=y.Lo/\x.Hi=y.Hi:=by
 rw[qx]at h;simp only at h;cases f:(C2 x.BS y.BS != 0)with
 |true=>
  grind
 |false=>
  rw[f,Vp]at h;cases d:(C2 x.Lo y.Lo != 0)with
  |true=>
   grind
  |false=>
   rw[d,Vp]at h;exact⟨f8.1 gq,f8.1 gq,f8.1 h⟩
def F3(a b:CC):Bool:=(a.BS==b.BS)&&(AG (b.Lo<=a.Hi)||(i64.wrap (b.Lo-1)==a.Hi))
def NR(a b:CC):CC:={a with Hi:=if a.Hi<b.Hi then b.Hi else a.Hi:CC}
def Dd:CC->AA CC->AA CC
 |a,[]=>[a]
 |a,b::r=>bif F3 a b then Dd (NR a b) r else a::Dd b r
def Fz:AA CC->AA CC
 |[]=>[]
 |a::r=>Dd a r
def D3(l:AA CC):AA CC:=bif l.any (·.BM)then[jC]else[]
def FP(l:AA CC):AA CC:=JU (Ne Im) (l.filter HR)
def FY(l:AA CC):AA CC:=D3 l++Fz (FP l)
theorem Qp9{α:Type}(P R:AA α)(x y:α):JG (P++x::R) (AI P:Int) y=AC (P++y::R):=by
 rw[mH _ _ sq];simp
theorem ql{α:Type}(P R:AA α)(x:α):CJ (P++x::R) (AI P:Int)=AC x:=Qx sq
theorem QoJ(P:AA CC)(a b:CC)(d:AI P<=1000):Ev (λn=>MZ n b (AI P:Int) (P++[a])) (bif F3 a b then((AI P:Int),P++[NR a b])else((AI (P++[a]):Int),(P++[a])++[b])):=by
 unfold MZ;refine Ea (v:=F3 a b) ?_ ?_
 .simp_all[ql,F3,Eh,QQ,Qa]
 .cases F3 a b with
  |true=>
   simp only[Vo,ql,XI,Qp9];exact Qa _
  |false=>
   simp only[Vp];rw[kz _ _ (by simp;omega)];simp only[XI];refine(Qa _).eq ?_;rw[QL om gq]
   grind
theorem ly(S:AA CC)(hS:AI S<=900):∀(r:AA CC) (i:Nat) (P:AA CC) (a:CC),S.drop i=r->i<=AI S->AI P<=i+1->DY (λn=>J0 n S) (P++[a],(AI P:Int),(i:Int)) (P++Dd a r)
 |[],i,P,a,hr,hi,hp=>by
  refine Ei ?_;unfold J0;simp only[Yu hr hi,Vp,Dd];exact Qa _
 |b::r,i,P,a,hr,hi,hp=>by
  obtain⟨ha,hr'⟩:=QG om hr;have hlt:=ha.lt';have h1:=QoJ P a b om;unfold Dd;cases q:F3 a b with
  |true=>
   rw[q]at h1;refine Ew ?_ (ly S hS r (i+1) P (NR a b) hr' om om);unfold J0;simp only[ha.lt,Vo,ha.ix,XI,ha.nx];exact Ea h1 (Qa _)
  |false=>
   rw[q]at h1;have ih:=ly S hS r (i+1) (P++[a]) b hr' om (by simp;omega);refine(Ew ?_ ih).eq sq;unfold J0;simp only[ha.lt,Vo,ha.ix,XI,ha.nx];exact Ea h1 (Qa _)
theorem Qmw(l:AA CC)(m:AI l<=1048576):Ev (λn=>PG n l) (l.any (·.BM)):=by
 unfold PG WY;refine Ea (Ev.first l (λo=>o.BM) om (λi x d=>?_) ?_) ?_
 .unfold Tr W0;simp only[d.lt,Vo,d.ix,XI,d.nx];cases x.BM<;>exact Qa _
 .simp_all[Tr,Qa]
 .refine(Qa _).eq ?_;rcases eD (λo:CC=>o.BM) l 0 with⟨g,f⟩|⟨j,x,g,f,q,h⟩
  .grind
  grind
theorem QqM(l:AA CC)(q:AI l<=1048576):Ev (λn=>Ph n l) (l.filter HR):=by
 have m:∀x:CC,Ev (λn=>Ma n x) (!HR x):=λx=>by
  simp_all[Ma,HR,QQ,Qa]
 unfold Ph Wq;refine Eu (Qm5 l (λg=> !HR g) q (Ev.first l _ om (λi x d=>?_) ?_) (λh i j x y t d f F E=>?_) λh i=>?_) sq
 .unfold US;simp only[d.lt,Vo,d.ix,XI,d.nx];refine Ea (m x) ?_;cases HR x<;>exact Qa _
 .simp_all[US,Qa]
 .have B:=(XK.1 f).1;unfold Tq;simp only[d.lt,Vo,d.ix,XI,d.nx];refine Ea (m x) ?_;cases HR x with
  |false=>exact Qa _
  |true=>
   simp only[Xg,Xh,Vo,Vp,Qx f,mH h x B,XI,YU (show i<9223372036854775807 by omega)];exact Qa _
 simp_all[Tq,Qa]
theorem QqO(x y:CC):Ev (λn=>Pv n x y) (Im x y):=by
 unfold Pv;exact Ea (S4 _ _) (Ea (S4 _ _) (Ea (S4 _ _) (Ea (ob _ sq) (Qa _))))
theorem dX{x:CC}(h:HR x=AE):x.BM=AD/\x.Lo<=x.Hi:=by
 grind[HR]
theorem qa(l:AA CC):AI (FP l)<=AI l:=by
 unfold FP;rw[(Yw _ _).length_eq]
 grind
theorem _Y{x y:CC}(f:HR x=AE)(d:HR y=AE)(h:Im x y=0):x=y:=by
 obtain⟨a,b,c⟩:=QmC h;have G:=(dX f).1;have B:=(dX d).1;obtain⟨t,q,m,E⟩:=x;obtain⟨F,j,yl,g⟩:=y
 grind
theorem qC(l:AA CC)(F:AI l<=900):Ev (λn=>J7 n l) (FY l):=by
 unfold J7 FY;refine Ea (Qmw l om) (Ea (v:=D3 l) ?_ ?_)
 .unfold D3 Ia;cases l.any (·.BM)with
  |false=>exact Qa _
  |true=>exact Qa _
 refine Ea (v:=l) ?_ (Ea (QqM l om) ?_)
 .unfold V5;exact EA (tJ om)
 have H:=List.length_filter_le HR l;refine Ea (v:=FP l) (pp om (λx _ y _=>QqO x y) QqX λx G y E h=>_Y gq gq h) ?_;have t:=qa l;generalize FP l=S at t;refine Ea (v:=D3 l++Fz S) ?_ (Qa _);have q:AI (D3 l)<=1:=by
  grind[D3]
 generalize D3 l=B at q;cases S with
 |nil=>
  refine(Ei ?_).ev
  grind[J0,Qa,Fz]
 |cons a r=>
  have d:At (a::r) 0 a:=Y6 om rfl;refine(Ew (s':=(B++[a],(AI B:Int),((1:Nat):Int))) ?_ (ly (a::r) om r 1 B a rfl sq om)).ev;unfold J0;have m:((0:Nat):Int)=0:=rfl;have g:=d.lt;have f:=d.ix;have j:=d.nx;rw[m]at g f j;simp only[g,f,j,Vo,XI];refine Ea (v:=((AI B:Int),B++[a])) ?_ (Qa _);unfold MZ;refine Ea (v:=AD) (Qa _) (Yd ?_)
  grind[kz,Qa,QL]
theorem mW:∀(r:AA CC) (a:CC),AI (Dd a r)<=AI r+1
 |[],a=>by simp[Dd]
 |b::r,a=>by
  unfold Dd;cases F3 a b with
  |true=>have:=mW r (NR a b);grind
  |false=>have:=mW r b;grind
theorem Qnh(l:AA CC):AI (FY l)<=AI l+1:=by
 have f:=qa l;unfold FY;rw[X2];have t:AI (D3 l)<=1:=by unfold D3;cases l.any (·.BM)<;>simp
 cases q:FP l with
 |nil=>simp only[Fz,List.length_nil];omega
 |cons a r=>
  rw[q]at f;have:=mW r a;have g:Fz (a::r)=Dd a r:=rfl;rw[g];simp only[XZ]at f;by_cases z:l.any (·.BM)=AE
  ·
   have j:AI (l.filter HR)<AI l:=by
    obtain⟨x,m,d⟩:=Xt.1 z;rcases VA (AI (l.filter HR)) (AI l) with h|h
    .exact h
    .have e:=List.filter_eq_self.1 (List.Sublist.eq_of_length List.filter_sublist (Nat.le_antisymm (List.length_filter_le ..) h)) x m;rw[(dX e).1]at d;cases d
   have e:AI (a::r)=AI (l.filter HR):=by rw[<- q];unfold FP;exact(Yw _ _).length_eq
   simp only[XZ]at e;omega
  .have:D3 l=[]:=by unfold D3;rw[Bool.not_eq_true]at z;rw[z];rfl
   rw[this,List.length_nil];omega
theorem Qmp(l m:AA CC)(hl:AI l<=1048576):Ev (λn=>Pw n l m) (AG (l=m)):=j? l m (λn=>ef n l m) om λn s=>rfl
set_option maxRecDepth 10000
def Id:AA (Int×Int)->Int
 |[]=>0
 |e::l=>e.2+Id l
theorem qc:∀(l m:AA (Int×Int)),Id (l++m)=Id l+Id m
 |[],m=>by simp[Id]
 |e::l,m=>by simp only[VJ,Id,qc l m];omega
theorem Qmc{l:AA (Int×Int)}{k:Int}(h:k∉l.map (·.1)):Qm l k 0=0:=by
 unfold Qm
 induction l with
 |nil=>rfl
 |cons e l d=>
  simp only[Vj,X6,not_or]at h;rw[Y9,Vr (λq=>h.1 q.symm)];exact d h.2
theorem km{l:AA (Int×Int)}{k:Int}(h:k∈l.map (·.1)):(k,Qm l k 0)∈l:=by
 unfold Qm
 induction l with
 |nil=>simp at h
 |cons e l d=>
  rw[Y9]
  grind
theorem Zi{l:AA (Int×Int)}{k:Int}(h:k∈l.map (·.1))(v:Int):QK l k v=l.map λp=>bif p.1=k then(p.1,v)else p:=by
 unfold QK
 grind
theorem Qn7{l:AA (Int×Int)}{k:Int}(h:k∉l.map (·.1))(v:Int):QK l k v=l++[(k,v)]:=by
 unfold QK
 grind
theorem dt{l:AA (Int×Int)}{k:Int}(h:k∈l.map (·.1))(v:Int):(QK l k v).map (·.1)=l.map (·.1):=by
 rw[Zi h,List.map_map];refine List.map_congr_left λe _=>?_
 grind
theorem qQ{l:AA (Int×Int)}{k:Int}(h:k∈l.map (·.1))(v:Int):AI (QK l k v)=AI l:=by
 rw[Zi h,X0]
theorem rx{l:AA (Int×Int)}{k:Int}(h:k∈l.map (·.1))(v:Int):∀e∈QK l k v,e.2=v\/e∈l:=by
 intro e d;rw[Zi h]at d
 grind
theorem qN{l:AA (Int×Int)}{k v:Int}(h:k∉l.map (·.1)):(l.map λp=>bif p.1=k then(p.1,v)else p)=l:=by
 induction l with
 |nil=>rfl
 |cons e l d=>
  grind
theorem ry{l:AA (Int×Int)}{k:Int}(nd:(l.map (·.1)).Nodup)(h:k∈l.map (·.1))(v:Int):Id (QK l k v)=Id l+v-Qm l k 0:=by
 rw[Zi h];unfold Qm
 induction l with
 |nil=>simp at h
 |cons e l d=>
  simp only[Vj,List.nodup_cons]at nd;rw[Y9,Vj];by_cases q:e.1=k
  .subst q;rw[qN nd.1,Jz rfl,Vs rfl]
   grind[Id]
  .have f:k∈l.map (·.1):=by
    grind
   have:=d nd.2 f;rw[Vr q,YO q]
   grind[Id]
theorem Qmb{l:AA (Int×Int)}{k:Int}(nd:(l.map (·.1)).Nodup)(h:k∈l.map (·.1))(v:Int):QK (QK l k v) k (Qm l k 0)=l:=by
 rw[Zi (by rw[dt h];exact h),Zi h];unfold Qm
 induction l with
 |nil=>rfl
 |cons e l d=>
  simp only[Vj,List.nodup_cons]at nd;rw[Y9,Vj,Vj];by_cases q:e.1=k
  .subst q
   simp_all[qN]
  .have f:k∈l.map (·.1):=by
    grind
   simp_all
theorem Qqs{l:AA Int}{x:Int}(h:x∈l):SK l x=true:=by
 grind[SK,eD]
theorem kp(W:CX)(U:AA Bool)(d:∀h:Nat,U[h]?=AC AE->SK W.BL (h:Int)=AE)(f:AI U<=1000):∀(H:AA CN) (i:Nat) (a:Int),i+AI H=AI U->0<=a->a<=(i:Int)->Kk W H i a<=a+((U.drop i).count AD:Int)
 |[],i,a,h,_,_=>by
  show a<=a+_;omega
 |y::H,i,a,h,h0,h1=>by
  simp only[XZ]at h;have hi:i<AI U:=om;rw[Xp hi,List.count_cons];show Kk W H (i+1) _<=_;cases q:SK W.BL (i:Int)with
  |true=>
   have:=kp W U d f H (i+1) a om h0 om;simp only[Xg,Vp];omega
  |false=>
   have hf:U[i]=false:=by
    cases z:U[i]with
    |false=>rfl
    |true=>
     have:=d i (by rw[XJ hi,z]);rw[q]at this;cases this
   have w:i64.wrap (a+1)=a+1:=Dh;have:=kp W U d f H (i+1) (a+1) om om om;simp only[Xh,Vo,w,hf];simp only[beq_self_eq_true,if_true];omega
theorem qi(f:Int×Int->Int):∀(l:AA (Int×Int)) (s:Int),(∀e∈l,e.2<=f e/\0<=f e/\f e<=100000)->0<=s->s+100000*(AI l:Int)<=1000000000000->s+Id l<=l.foldl (λs e=>i64.wrap (s+f e)) s
 |[],s,_,_,_=>by show s+0<=s;omega
 |e::l,s,h,h0,hb=>by
  obtain⟨a,b,c⟩:=h e (X4 ..);simp only[XZ]at hb;have w:i64.wrap (s+f e)=s+f e:=Dh;have:=qi f l (s+f e) gq om om
  grind[Id]
set_option maxRecDepth 10000
theorem mF(n:Int):i64.wrap n=if n%18446744073709551616≥9223372036854775808 then n%18446744073709551616-18446744073709551616 else n%18446744073709551616:=by
 simp_all[IntKind.wrap,IntKind.bits,IntKind.signed]
theorem QlE(z a b:Int):i64.wrap (i64.wrap (z+a)+b)=i64.wrap (i64.wrap (z+b)+a):=by
 simp only[mF];omega
theorem x?(f:Int×Int->Int)(l:AA (Int×Int)):anyP (λp=>(L3 (λ(s:Int) (e:Int×Int)=>AC (CG.k (i64.wrap (s+f e)))) (λs=>AC s) 0 p).bind λb=>AC b) l=AC (l.foldl (λs e=>i64.wrap (s+f e)) 0):=by
 have run:∀(p:AA (Int×Int)) (s:Int),L3 (B:=Int) (λ(s:Int) (e:Int×Int)=>AC (CG.k (i64.wrap (s+f e)))) (λs=>AC s) s p=AC (p.foldl (λs e=>i64.wrap (s+f e)) s):=by
  intro p
  induction p with
  |nil=>intro s;rfl
  |cons e p g=>intro s;exact g _
 unfold anyP;have:(LY l).all (λp=>AG (((L3 (B:=Int) (λ(s:Int) (e:Int×Int)=>AC (CG.k (i64.wrap (s+f e)))) (λs=>AC s) 0 p).bind λb=>AC b)=((L3 (B:=Int) (λ(s:Int) (e:Int×Int)=>AC (CG.k (i64.wrap (s+f e)))) (λs=>AC s) 0 l).bind λb=>AC b)))=true:=by
  rw[Xs];intro p d;rw[run,run,Vq];exact congrArg AC ((iY l p d).foldl_eq' (λx _ y _ z=>QlE z (f x) (f y)) 0)
 rw[this];simp only[Vo];rw[run];rfl
def Lj(F M:AA (Int×Int)):Int:=F.foldl (λs e=>i64.wrap (s+(if 0<i64.wrap (e.2-Qm M e.1 0)then i64.wrap (e.2-Qm M e.1 0)else 0))) 0
theorem t5(F M:AA (Int×Int)):Ev (λn=>Pt n F M) (Lj F M):=
 EA (o:=Pt 0 F M) (x? (λe=>if 0<i64.wrap (e.2-Qm M e.1 0)then i64.wrap (e.2-Qm M e.1 0)else 0) F)
theorem rM(t:Ck)(s:Uh)(p h:Int)(d:0<=s.row):(DD t s p h).1.row<=s.row+1:=by
 unfold DD
 grind
theorem gE{α:Type}{l:AA α}{i:Int}{x:α}(f:0<=i)(d:i<(AI l:Int)):Tt (λ_=>JG l i x) (λm=>m=l.set i.toNat x):=by
 simp_all[Tt.o,JG]
def WL(t:Ck)(L:AA CX):Prop:=AI L<=65/\ ∀w∈L,AI w.BL=AI t.r/\(-1<=w.A8/\w.A8<=300)/\FG t w=AE
abbrev kA:=AA CX×AA Int×AA (Int×Int)×AA Bool×AA (Int×Int)
def SR(t:Ck)(W:AA Int)(U:AA Bool)(M F:AA (Int×Int))(r:kA):Prop:=WL t r.1/\r.2.1=W/\r.2.2.2.1=U/\r.2.2.2.2=F/\ ∀m,Qm r.2.2.1 m 0=Qm M m 0
structure Sv (t:Ck) (p:Nat) (en:Bool) (la:Int) (s:Uh) (W:List Int) (U:List Bool) (M F:List (Int×Int)):Prop where
 st:Ko t s
 row:s.row<=(p:Int)
 wl:AI W=AI t.r
 ul:AI U=AI t.H
 tail:∀j,p<=j->j<AI t.r->W[j]?=AC (-1)
 used:∀h:Nat,U[h]?=AC AE->(h:Int)∈W
 cnt:∀m,Qm M m 0=((t.r.drop p).count m:Int)
 nd:(F.map (·.1)).Nodup
 fl:AI F<=1000
 fb:∀e∈F,-(p:Int)<=e.2/\e.2<=1000
 sum:Id F=(U.count AD:Int)
 key:∀h∈t.H,h.Al∈F.map (·.1)
 l0: -1<=la
 l1:la<(p:Int)
 l2:en=AD->la=(p:Int)-1
 pre:∃u,(∀h:Int,Qm u h AD=AE->0<=h/\U[h.toNat]?=AC AE)/\ ∀W':CX,AI W'.BL=AI t.r->(∀j,j<p->W'.BL[j]?=W[j]?)->(en=AE->W'.A8=la)->(en=AD->(p:Int)-1<=W'.A8)->
  admL t W' (W'.BL.drop p) p u s=AE->admL t W' W'.BL 0 [] R6=AE
theorem iO{α:Type}{l:AA α}{p:Nat}{x:α}(h:l[p]?=AC x):l.drop p=x::l.drop (p+1):=by
 grind[List.drop_eq_getElem_cons]
theorem lp{t:Ck}{p:Nat}{x:Int}{M:AA (Int×Int)}(d:t.r[p]?=AC x)(g:AI t.r<=256)(h:∀m,Qm M m 0=((t.r.drop p).count m:Int))(m:Int):
  Qm (QK M x (i64.wrap (Qm M x 0-1))) m 0=((t.r.drop (p+1)).count m:Int):=by
 have e:∀m,((t.r.drop p).count m:Int)=((t.r.drop (p+1)).count m:Int)+(if x=m then 1 else 0):=by
  intro m;rw[iO d,List.count_cons];by_cases q:x=m<;>simp[q]
 have f:(t.r.drop (p+1)).count x<=256:=XU List.count_le_length (by rw[List.length_drop];omega);rw[Y3];by_cases q:m=x
 .subst q;rw[Vs rfl,h,e,Vs rfl,Dh];omega
 .rw[Vr q,h,e,Vr (λz=>q z.symm)];omega
theorem Qo4{M M2:AA (Int×Int)}{x:Int}(d: -100000<=Qm M x 0/\Qm M x 0<=100000)(h:∀m,Qm M2 m 0=Qm (QK M x (i64.wrap (Qm M x 0-1))) m 0)(m:Int):
  Qm (QK M2 x (i64.wrap (Qm M2 x 0+1))) m 0=Qm M m 0:=by
 rw[Y3];by_cases q:m=x
 .subst q;rw[Vs rfl,h,Y3,Vs rfl,QL (n:=Qm M m 0-1) om om,Dh];omega
 .rw[Vr q,h,Y3,Vr q]
theorem Qp7{t:Ck}(ok:C_ t){g:Bool}{d:Int}{s:Uh}{W:AA Int}{U:AA Bool}{M F:AA (Int×Int)}(v:Sv t (AI t.r) g d s W U M F)(x:t.hi<=d)(m:¬t.c.AQ.A7<Lj F M):
  FG t {BL:=W,A8:=d}=true:=by
 have rl:=ok.rl;have hl:=ok.hl;unfold FG;have j:ID t {BL:=W,A8:=d}=false:=by
  unfold ID;have a:=v.l0;have b:=v.l1;have wl:=v.wl;have y:Id F<=Lj F M:=by
   have z:=qi (λe=>if 0<i64.wrap (e.2-Qm M e.1 0)then i64.wrap (e.2-Qm M e.1 0)else 0) F 0 (λe f=>by
    have:=v.fb e f;have c:=v.cnt e.1;rw[Xr,List.count_nil]at c;have w:i64.wrap (e.2-Qm M e.1 0)=e.2:=by rw[c,Dh];omega
    simp only[w];split<;>omega) om (by have:=v.fl;omega)
   rw[Int.zero_add]at z;exact z
  have sl:=kp {BL:=W,A8:=d} U (λh q=>Qqs (v.used h q)) (by have:=v.ul;omega) t.H 0 0 (by have:=v.ul;omega) (Int.le_refl 0) (Int.le_refl 0);rw[List.drop_zero]at sl;have B:=v.sum;simp only[wl,bne_self_eq_false,Bool.false_or];rw[YO om,YO om,YO om,YO om];rfl
 rw[j,Vp];obtain⟨u,_,pre⟩:=v.pre;refine pre {BL:=W,A8:=d} v.wl (λ_ _=>rfl) (λ_=>rfl) (λq=>by have:=v.l2 q;show(AI t.r:Int)-1<=d;omega) ?_;show admL t _ (W.drop (AI t.r)) _ _ _=AE;rw[<- v.wl,Xr];rfl
theorem Qp6{t:Ck}(ok:C_ t){p:Nat}{B:Int}{s:Uh}{W:AA Int}{U:AA Bool}{M F:AA (Int×Int)}(v:Sv t p AD B s W U M F){x:Int}(f:t.r[p]?=AC x)(m:(DD t s (p:Int) (-1)).2=AE):
  Sv t (p+1) AD (p:Int) (DD t s (p:Int) (-1)).1 W U (QK M x (i64.wrap (Qm M x 0-1))) F:=by
 have rl:=ok.rl;have g:=(XK.1 f).1;have G:=v.row;refine {v with st:=ko ok v.st om (.inl om) om,row:=?_,tail:=λj a b=>v.tail j om b,cnt:=lp f rl v.cnt,fb:=λe h=>?_,l0:=om,l1:=om,l2:=λ_=>om,pre:=?_}
 .have:=rM t s (p:Int) (-1) v.st.r0;omega
 .have:=v.fb e h;omega
 .obtain⟨u,y,pre⟩:=v.pre;refine⟨u,y,λW' a b _ d q=>pre W' a (λj E=>b j om) nofun (λ_=>by have:=d rfl;omega) ?_⟩;have e:W'.BL[p]?=AC (-1):=by rw[b p om];exact v.tail p (XS _) g
  have H:=d rfl;rw[iO e,dv];have:((-1:Int) != -1)=false:=by decide
  simp only[this,Bool.false_and,Vp,m,Xg];rw[YO om,Vp];exact q
theorem Qr3{t:Ck}(ok:C_ t){p:Nat}{B:Bool}{d:Int}{s:Uh}{W:AA Int}{U:AA Bool}{M F:AA (Int×Int)}(v:Sv t p B d s W U M F){x:Int}(f:t.r[p]?=AC x):
  Sv t (p+1) AE d s W U (QK M x (i64.wrap (Qm M x 0-1))) F:=by
 have rl:=ok.rl;have g:=(XK.1 f).1;have m:=v.l1;refine {v with row:=by have:=v.row;omega,tail:=λj a b=>v.tail j om b,cnt:=lp f rl v.cnt,fb:=λe h=>by have:=v.fb e h;omega,l1:=om,l2:=nofun,pre:=?_};obtain⟨u,y,pre⟩:=v.pre;refine⟨u,y,λW' a b c _ q=>pre W' a (λj E=>b j om) (λ_=>c rfl) (λz=>by have:=v.l2 z;rw[c rfl];omega) ?_⟩;have e:W'.BL[p]?=AC (-1):=by rw[b p om];exact v.tail p (XS _) g
 rw[iO e,dv];have:((-1:Int) != -1)=false:=by decide
 simp only[this,Bool.false_and,Vp];rw[Jz (show W'.A8<(p:Int)by rw[c rfl];omega),Vo];exact q
theorem Qr2{t:Ck}(ok:C_ t){p i:Nat}{V:Int}{s:Uh}{W:AA Int}{U:AA Bool}{M F:AA (Int×Int)}(v:Sv t p AD V s W U M F){x:Int}(J:t.r[p]?=AC x){y:CN}(B:t.H[i]?=AC y)(L:y.Al=x)(G:U[i]?=AC AD)(Q:(DD t s (p:Int) (i:Int)).2=AE)
  {M2:AA (Int×Int)}(T:∀m,Qm M2 m 0=((t.r.drop (p+1)).count m:Int)):
  Sv t (p+1) AD (p:Int) (DD t s (p:Int) (i:Int)).1 (W.set p (i:Int)) (U.set i AE) M2 (QK F x (i64.wrap (Qm F x 0-1))):=by
 have rl:=ok.rl;have P:=(XK.1 J).1;have X:=(XK.1 B).1;have hr:=v.row;have wl:=v.wl;have R:HU t (i:Int):=.inr (by simpa using X);have f:x∈F.map (·.1):=by rw[<- L];exact v.key y (VG B)
 have hv:=v.fb _ (km f);simp only at hv;have w:i64.wrap (Qm F x 0-1)=Qm F x 0-1:=Dh;rw[w];obtain⟨g,E⟩:=XK.1 G;refine {st:=ko ok v.st om R om,row:=?_,wl:=by rw[X3];exact wl,ul:=by rw[X3];exact v.ul,tail:=λj a b=>?_,used:=λh q=>?_,cnt:=T,nd:=by rw[dt f];exact v.nd,fl:=by rw[qQ f];exact v.fl,fb:=λe he=>?_,sum:=?_,key:=λh q=>by rw[dt f];exact v.key h q,l0:=om,l1:=om,l2:=λ_=>om,pre:=?_}
 .have:=rM t s (p:Int) (i:Int) v.st.r0;omega
 .rw[Xb,Vr om];exact v.tail j om b
 .rw[Xb]at q;by_cases z:i=h
  .subst z;exact VG (i:=p) (by rw[Xb,Vs rfl,Vs om])
  .rw[Vr z]at q;obtain⟨k,f,e⟩:=List.getElem_of_mem (v.used h q);refine VG (i:=k) ?_;rw[Xb,Vr (λc=>?_),XJ f,e];subst c;have:=v.tail p (XS _) P;rw[XJ f,e]at this;have:=XY this;omega
 .rcases rx f _ e he with z|z
  .omega
  .have:=v.fb e z;omega
 .rw[ry v.nd f,v.sum,List.count_set g,E];have:0<U.count false:=List.count_pos_iff.2 (by rw[<- E];exact Vd g);simp;omega
 .obtain⟨u,N,pre⟩:=v.pre;refine⟨QK u (i:Int) AE,λh q=>?_,λW' a b _ d q=>pre W' a (λj hj=>by rw[b j om,Xb,Vr om]) nofun (λ_=>by have:=d rfl;omega) ?_⟩
  .rw[Y3]at q;by_cases z:h=(i:Int)
   .subst z;exact⟨om,by rw[Int.toNat_natCast,Xb,Vs rfl,Vs g]⟩
   .rw[Vr z]at q;obtain⟨c1,O⟩:=N h q;exact⟨c1,by rw[Xb,Vr om];exact O⟩
  .have e:W'.BL[p]?=AC (i:Int):=by rw[b p om,Xb,Vs rfl,Vs om]
   have dl:=d rfl;have nb:Fq t W' u p (i:Int)=false:=by
    unfold Fq;have Y:Qm u (i:Int) AD=false:=by
     cases z:Qm u (i:Int) AD with
     |false=>rfl
     |true=>
      have:=(N _ z).2;rw[Int.toNat_natCast,G]at this;cases this
    rw[Y,Int.toNat_natCast,B,J,YO om,YO om,YO om];simp[L]
   have ni:((i:Int) != -1)=true:=bne_iff_ne.2 om;rw[iO e,dv,nb];simp only[Bool.and_false,Vp,ni,Vo,Q,Xg];rw[YO om,Vp];exact q
set_option maxRecDepth 10000
theorem Qnp{t:Ck}(ok:C_ t):∀(m p:Nat),p+m=AI t.r->∀(s:Uh) (en:Bool) (la:Int) (L:AA CX) (W:AA Int) (U:AA Bool) (M F:AA (Int×Int)),Sv t p en la s W U M F->WL t L->
  Tt (λn=>J1 n (p:Int) s en la L t.c (AI t.r:Int) W t.H U t.c t.k t.r t.s t.H t.T t.hi M F t.m t.c t.k) (SR t W U M F):=by
 have rl:=ok.rl;have hl:=ok.hl;intro m
 induction m with
 |zero=>
  intro p hp s en la L W U M F v hL;have ep:p=AI t.r:=om;have HT:SR t W U M F (L,W,M,U,F):=⟨hL,rfl,rfl,rfl,λ_=>rfl⟩;refine Tt.s ?_;show Tt (λn=>NM (J1 n) n _ _ _ _ _ _ _ _ _ _ _ _ _ _ _ _ _ _ _ _ _ _) _;unfold NM;refine Tt.b (P:=λb=>b=AD->AI L<=64/\ ¬t.c.AQ.A7<Lj F M) (Tt.n λh=>Tt.b (P:=λr=>r=Lj F M) (Tt.e (t5 F M) rfl) λr d=>Tt.p λq=>⟨gq,gq⟩) λb R=>Tt.c (λ_=>Tt.p HT) λq=>Tt.c (λ_=>?_) λJ=>absurd J (by rw[ep];simp);obtain⟨ah,ab⟩:=R q;refine Tt.b (P:=WL t) (Tt.c (λhh=>?_) λ_=>Tt.p hL) λr d=>Tt.p ⟨d,rfl,rfl,rfl,λ_=>rfl⟩;unfold W4;have wl:=v.wl;have l0:=v.l0;have l1:=v.l1;refine Tt.b (P:=λ(r:AA Int)=>r=W) (Tt.o (tJ om) rfl) λr d=>Tt.b (Tt.a (by simp;omega)) λx B=>Tt.p ?_;subst B d;refine⟨by simp;omega,λw Y=>?_⟩;rcases VB.1 Y with h|h
  .exact hL.2 w h
  .cases Vz.1 h;subst ep;exact⟨wl,⟨l0,gq⟩,Qp7 ok v (Vu hh) ab⟩
 |succ m ih=>
  intro p hp s en la L W U M F v hL;have E:p<AI t.r:=om;have HT:SR t W U M F (L,W,M,U,F):=⟨hL,rfl,rfl,rfl,λ_=>rfl⟩;refine Tt.s ?_;show Tt (λn=>NM (J1 n) n _ _ _ _ _ _ _ _ _ _ _ _ _ _ _ _ _ _ _ _ _ _) _;unfold NM;refine Qe (Tt.k λh=>Qe (Tt.e (t5 F M) trivial) λ_=>Tt.z) λb=>Tt.c (λ_=>Tt.p HT) λq=>Tt.c (λJ=>absurd J (by simp;omega)) λ_=>?_;have wp:i64.wrap ((p:Int)+1)=((p+1:Nat):Int):=YU om;have B:t.r[p]?=AC t.r[p]:=XJ E;generalize t.r[p]=x at B;refine Tt.b (P:=λz=>z=x) (Tt.o (Qx B) rfl) λz X=>?_;subst X;simp only[XI,wp];have c1:=v.cnt z;have cb:(t.r.drop p).count z<=256:=XU List.count_le_length gq;have M1:=lp B rl v.cnt;have af: -100000<=Qm M z 0/\Qm M z 0<=100000:=om;generalize hMe:QK M z (i64.wrap (Qm M z 0-1))=M' at M1;have SRb:∀{r:kA},SR t W U M' F r->SR t W U M F (r.1,r.2.1,QK r.2.2.1 z (i64.wrap (Qm r.2.2.1 z 0+1)),r.2.2.2.1,r.2.2.2.2):=λh=>
   ⟨h.1,h.2.1,h.2.2.1,h.2.2.2.1,Qo4 af λm=>by rw[h.2.2.2.2 m,hMe]⟩
  refine Tt.b (P:=SR t W U M' F) (Tt.c (λag=>?_) λ_=>Tt.p ⟨hL,rfl,rfl,rfl,λ_=>rfl⟩) λb R=>Tt.b (P:=λ_=>True) (Tt.k λ_=>Tt.z) λb2 _=>?_
  .have ae:en=false:=by grind
   subst ae;refine Tt.b (P:=λr=>r=DD t s (p:Int) (-1)) (Tt.e (lB ok v.st (Int.natCast_nonneg p) om (.inl om)) rfl) λr d=>?_;subst d;refine Tt.b (P:=SR t W U M' F) (Tt.c (λN=>Tt.b (P:=SR t W U M' F) (ih (p+1) om _ _ _ _ _ _ _ _ (by rw[<- hMe];exact Qp6 ok v B N) hL) λv G=>Tt.p G) λ_=>Tt.p ⟨hL,rfl,rfl,rfl,λ_=>rfl⟩) λw Y=>?_;refine Tt.b (P:=SR t W U M' F) (QJ t.H (λ(a:kA) i=>(a.1,a.2.1,a.2.2.1,a.2.2.2.1,a.2.2.2.2,i)) (λ_ a=>SR t W U M' F a) om (λi y a Q hI=>?_) (λa hI=>?_) w _ rfl Y) λw Y=>Tt.p Y
   .unfold K6;have ac:=Q.lt';simp only[Q.lt,Vo,Q.ix,XI,Q.nx,wp];obtain⟨a1,O,a3,g,f⟩:=a;obtain⟨g1,g2,g3,g4,g5⟩:=hI;simp only at g1 g2 g3 g4 g5;subst g2 g3 g4;have keep:SR t O g M' f (a1,O,a3,g,f):=⟨g1,rfl,rfl,rfl,g5⟩;have ul:=v.ul;have wl:=v.wl;have hU:g[i]?=AC g[i]:=XJ om;generalize g[i]'om=ub at hU;refine Tt.b (P:=SR t O g M' f) (Tt.b (P:=λb=>b=AD->ub=AD/\y.Al=z) (Tt.b (P:=λq=>q=ub) (Tt.o (Qx hU) rfl) λq hq=>Tt.n λV=>Tt.p λh3=>⟨by rw[<- hq];exact V,by simpa[bne]using h3⟩) λb R=>Tt.c (λ_=>Tt.p keep) λad=>?_) λz X=>Tt.p ⟨z,rfl,X⟩;obtain⟨aa,j⟩:=R ad;subst aa;have hh:HU t (i:Int):=.inr (by simpa using ac);refine Tt.b (P:=λr=>r=DD t s (p:Int) (i:Int)) (Tt.e (lB ok v.st (Int.natCast_nonneg p) (by simpa using E) hh) rfl) λr d=>?_;subst d;refine Tt.b (P:=SR t O g M' f) (Tt.c (λN=>?_) λ_=>Tt.p keep) λz X=>Tt.p X;have u0:(i:Int)<(AI g:Int):=om;have w0:(p:Int)<(AI O:Int):=om;refine Qe (Tt.i (Int.natCast_nonneg i) u0).any λ_=>Tt.b (gE (Int.natCast_nonneg i) u0) λU' hU'=>Qe (Tt.i (Int.natCast_nonneg p) w0).any λ_=>Tt.b (gE (Int.natCast_nonneg p) w0) λW' hW'=>?_;rw[Int.toNat_natCast]at hU' hW';subst hU' hW';have sv:=Qr2 ok v B Q.get j hU N (M2:=a3) λm=>by rw[g5 m];exact M1 m
    refine Tt.b (ih (p+1) om _ _ _ _ _ _ _ _ sv g1) λr d=>?_;obtain⟨v1,v2,v3,v4,v5⟩:=d;obtain⟨r1,r2,r3,r4,r5⟩:=r;simp only at v1 v2 v3 v4 v5;subst v2 v3 v4;have hk:z∈f.map (·.1):=by rw[<- j];exact v.key y Q.mem
    have G:=v.fb _ (km hk);simp only at G;have bk:QK (QK f z (i64.wrap (Qm f z 0-1))) z (i64.wrap (Qm (QK f z (i64.wrap (Qm f z 0-1))) z 0+1))=f:=by
     rw[Y3,Vs rfl,QL (n:=Qm f z 0-1) om om,QL (n:=Qm f z 0-1+1) om om,show Qm f z 0-1+1=Qm f z 0 by omega];exact Qmb v.nd hk _
    simp only[bk];have u1:(i:Int)<(AI (g.set i AE):Int):=by rw[X3];exact u0
    have w1:(p:Int)<(AI (O.set p (i:Int)):Int):=by rw[X3];exact w0
    refine Qe (Tt.i (Int.natCast_nonneg i) u1).any λ_=>Tt.b (gE (Int.natCast_nonneg i) u1) λU2 hU2=>Qe (Tt.i (Int.natCast_nonneg p) w1).any λ_=>Tt.b (gE (Int.natCast_nonneg p) w1) λW2 hW2=>Tt.p ⟨v1,?_,?_,rfl,λm=>by rw[v5 m];exact g5 m⟩
    .rw[hW2,Int.toNat_natCast,List.set_set];obtain⟨q1,J⟩:=XK.1 (v.tail p (XS _) E);rw[<- J];exact List.set_getElem_self q1
    .rw[hU2,Int.toNat_natCast,List.set_set];obtain⟨q1,J⟩:=XK.1 hU;rw[<- J];exact List.set_getElem_self q1
   .unfold K6;simp only[Y1,Vp];exact Tt.p ⟨_,rfl,hI⟩
  .obtain⟨b1,bW,bM,bU,bF⟩:=b;obtain⟨V,N,h3,h4,h5⟩:=R;simp only at V N h3 h4 h5;subst N h3 h4;refine Tt.b (P:=SR t bW bU M' bF) (Tt.c (λ_=>Tt.b (P:=SR t bW bU M' bF) ((ih (p+1) om _ _ _ _ _ _ _ _ (Qr3 ok v B |> λq=>by rw[hMe]at q;exact {q with cnt:=λm=>by rw[h5 m];exact M1 m}) V).w λr d=>⟨d.1,d.2.1,d.2.2.1,d.2.2.2.1,λm=>by rw[d.2.2.2.2 m];exact h5 m⟩) λv G=>Tt.p G) λ_=>Tt.p ⟨V,rfl,rfl,rfl,h5⟩) λv G=>Tt.p (SRb G)
set_option maxRecDepth 10000
theorem mQ:∀a b:AA Int,DC a b=0->a=b
 |[],[],_=>rfl
 |[],y::b,h=>by simp[DC]at h
 |x::a,[],h=>by simp[DC]at h
 |x::a,y::b,h=>by
  rw[show DC (x::a) (y::b)=bif C2 x y != 0 then C2 x y else DC a b from rfl,gx]at h;by_cases e:x=y
  .subst e;rw[show(x != x)=AD by simp,Vp]at h;rw[mQ a b h]
  .rw[show(x != y)=AE by grind,Vo]at h;exact absurd (f8.1 h) e
theorem tf:∀a b:AA Int,DC b a= -DC a b
 |[],[]=>rfl
 |[],y::b=>rfl
 |x::a,[]=>rfl
 |x::a,y::b=>by
  rw[show DC (x::a) (y::b)=bif C2 x y != 0 then C2 x y else DC a b from rfl,show DC (y::b) (x::a)=bif C2 y x != 0 then C2 y x else DC b a from rfl,gx,gx];by_cases e:x=y
  .subst e;rw[show(x != x)=AD by simp,Vp,Vp];exact tf a b
  .rw[show(x != y)=AE by grind,show(y != x)=AE by grind,Vo,Vo];exact G_.swap x y
theorem Nn:DV DC:=⟨tf,uF,λx y z h=>by rw[mQ x y h]⟩
def I6(x y:CX):Int:=bif DC x.BL y.BL != 0 then DC x.BL y.BL else x.A8-y.A8
theorem QqW:DV I6:=
 (Nn.on λw:CX=>w.BL).lex (d:=λx y:CX=>x.A8-y.A8) ⟨λx y=>om,λx y z=>om,λx y z=>om⟩
theorem QmA{x y:CX}(h:I6 x y=0):x=y:=by
 unfold I6 at h;cases q:(DC x.BL y.BL != 0)with
 |true=>grind
 |false=>
  rw[q,Vp]at h;have e:=mQ _ _ (show DC x.BL y.BL=0 by simpa[bne]using q);obtain⟨a,b⟩:=x;obtain⟨f,d⟩:=y
  grind
theorem QqN{x y:CX}(f:AI x.BL<=1048576)(d:AI y.BL<=1048576)(h: -1<=x.A8/\x.A8<=300)(g: -1<=y.A8/\y.A8<=300):Ev (λn=>Mp n x y) (I6 x y):=by
 unfold Mp I6;refine Ea (QqP _ _ f d) (JT (λ_=>Qa _) λ_=>(Qa _).eq (Dh))
theorem mb{c:CB}(g:Ft c){i k:Int}(h:(CY c i k).2=0):2<=(CY c i k).1.length/\(CY c i k).1.length<=256:=by
 obtain⟨j,d,E,B,x,q,y,F,m⟩:=iR g h;have f:=VG q;have t:=(g.route d f).1;rw[g.exp f]at t;rw[m];unfold DI;simp only[X2,Xx,List.length_drop,List.length_replicate];omega
structure RW (c:CB) (k:CE) (s:AP) (e:Int) (x:List CN) (l:List Ae) (r:List CX×Int):Prop where
 len:AI r.1<=64
 ok:r.2=0->r.1≠[]/\ ∃t,IE c k s e x l t/\D1 c k s e x l=.inr t/\2<=AI t.r/\ ∀w∈r.1,AI w.BL=AI t.r/\FG t w=AE
theorem o?{c:CB}(h:M3 c){k:CE}(kw:Fh k)(s:AP)(e:Int)(x:AA CN)(hx:AI x<=4)(l:AA Ae)(hl:AI l<=6):Tt (λn=>Kz n c k s e x l) (RW c k s e x l):=by
 unfold Kz;have ty:Ev (λn=>DZ n c) (CL c):=h.cE.symm▸h.ty;have nil:∀{e':Int},e'≠0->RW c k s e x l ([],e'):=λq=>⟨sq,λz=>absurd z q⟩;refine Tt.b (P:=λr=>r=Fw (D1 c k s e x l)) (Tt.e (dZ ty (λ_=>h.good) kw s e x om l om) rfl) λr R=>?_;subst R;cases N:D1 c k s e x l with
 |inl v=>
  have:=Qni N;exact Tt.c (f:=λ_=>AC ([],v)) (g:=λ_=>AF) (λ_=>Tt.p (nil this)) λq=>absurd gq this
 |inr t=>
  have i:=qf ty (λ_=>h.good) kw om N;have ok:=i.ok;have hc:t.c=c:=by rw[i.is];rfl
  have B:t.k=k:=by rw[i.is];rfl
  have hH:t.H=x:=by rw[i.is];rfl
  have R:t.r=(CY c s.AN e).1:=by rw[i.is];rfl
  obtain⟨r1,r2⟩:=mb h.good i.rt;rw[<- R]at r1 r2;show Tt (λn=>(iter (OW n (t.r,t.s,t.T,t.m,t.hi)) n ([],0):AB (AA (Int×Int))).bind λY=>(iter (OF n x) n ([],0):AB (AA (Int×Int))).bind λX=>(LF n [(-1)] (AI t.r:Int)).bind λO=>(mk (AI x:Int) AD).bind λQ=>(Ms n).bind λac=>(J1 n 0 ({DT with Bn:=(-1):Uh}) AD (-1) ([]:AA CX) c (AI t.r:Int) O x Q c k t.r t.s x t.T t.hi Y X t.m c k).bind λE=>(bif 64<(AI E.1:Int) then AC ([],2)else(bif ((AI E.1:Int)==0)then AC ([],190)else(L8 (λx y=>Mp n x y) E.1).bind λab=>AC (ab,0)))) _;refine Tt.b (P:=λ(M:AA (Int×Int))=>∀m,Qm M m 0=(t.r.count m:Int)) (QJ t.r (λ(a:AA (Int×Int)) i=>(a,i)) (λi a=>∀m,Qm a m 0=((t.r.take i).count m:Int)) om (λi y a d G=>?_) (λa G=>?_) [] _ rfl (λm=>by rfl)) λM hM=>?_
  .unfold OW;have hi:=d.lt';simp only[d.lt,Vo,d.ix,XI,d.nx];refine Tt.p ⟨_,rfl,λm=>?_⟩;have cb:(t.r.take i).count y<=256:=XU List.count_le_length gq;rw[Y3,d.take,List.count_append,G,G];by_cases q:m=y
   .subst q;rw[Vs rfl,Dh];simp
   grind
  .simp_all[OW,Tt.p]
  refine Tt.b (P:=λ(F:AA (Int×Int))=>(F.map (·.1)).Nodup/\AI F<=AI x/\(∀e∈F,0<=e.2/\e.2<=(AI x:Int))/\Id F=(AI x:Int)/\ ∀h∈x,h.Al∈F.map (·.1)) (QJ x (λ(a:AA (Int×Int)) i=>(a,i)) (λi F=>(F.map (·.1)).Nodup/\AI F<=i/\(∀e∈F,0<=e.2/\e.2<=(i:Int))/\Id F=(i:Int)/\ ∀h∈x.take i,h.Al∈F.map (·.1)) om (λi y a d G=>?_) (λa G=>?_) [] _ rfl ⟨List.nodup_nil,XS _,(λ_ h=>nomatch h),rfl,(λ_ h=>nomatch h)⟩) λF hF=>?_
  .unfold OF;have hi:=d.lt';simp only[d.lt,Vo,d.ix,XI,d.nx];obtain⟨a1,a2,a3,a4,a5⟩:=G;refine Tt.p ⟨_,rfl,?_⟩;by_cases B:y.Al∈a.map (·.1)
   .have hv:=a3 _ (km B);simp only at hv;rw[Dh];refine⟨by rw[dt B];exact a1,by rw[qQ B];omega,λe he=>?_,by rw[ry a1 B,a4];omega,λh J=>?_⟩
    .grind[rx]
    .rw[dt B];rw[d.take]at J
     grind
   .rw[Qmc B,Qn7 B,show i64.wrap (0+1)=1 from rfl];refine⟨?_,by simp;omega,λe he=>?_,by rw[qc,a4];simp[Id],λh J=>?_⟩
    iterate 2 grind
    .rw[d.take]at J
     grind
  .unfold OF;simp only[Y1,Vp];exact Tt.p ⟨_,rfl,gq⟩
  obtain⟨f1,f2,f3,f4,f5⟩:=hF;refine Tt.b (P:=λ(W:AA Int)=>W=List.replicate (AI t.r) (-1)) (Tt.e (mR (-1) (AI t.r) om om) rfl) λW hW=>?_;refine Tt.b (P:=λ(U:AA Bool)=>U=List.replicate (AI x) AD) (Tt.o (v:=List.replicate (AI x) AD) (by unfold mk;grind) rfl) λU hU=>Qe (Tt.z) λ_=>?_;have sv:Sv t 0 AD (-1) R6 W U M F:=by
   subst hW hU;refine {st:=ol,row:=by show(0:Int)<=0;omega,wl:=sq,ul:=by rw[hH];simp,tail:=λj _ b=>gq,used:=λh q=>?_,cnt:=λm=>gq,nd:=f1,fl:=om,fb:=λe he=>gq,sum:=by rw[f4];simp,key:=λh J=>f5 h gq,l0:=om,l1:=om,l2:=λ_=>om,pre:=⟨[],λh q=>by simp[Qm,Jp]at q,λW' _ _ _ _ q=>gq⟩}
   grind
  have se:=Qnp ok (AI t.r) 0 om R6 AD (-1) [] W U M F sv ⟨sq,λ_ h=>nomatch h⟩;rw[hc,B,hH]at se;refine Tt.b (P:=SR t W U M F) se λr hR=>Tt.c (λ_=>Tt.p (nil (by decide))) λq=>Tt.c (λ_=>Tt.p (nil (by decide))) λq2=>?_;obtain⟨⟨h1,h2⟩,_,_⟩:=hR;have aa:AI r.1<=64:=gq;have L:r.1≠[]:=λz=>gq;refine Tt.b (P:=λl'=>l'=JU (Ne I6) r.1) (Tt.e (pp om (λa d b hb=>QqN gq gq (h2 a d).2.1 (h2 b hb).2.1) QqW λa _ b _=>QmA) rfl) λl' V=>Tt.p ?_;subst V;have pm:=Yw (Ne I6) r.1;refine⟨by show(JU _ _).length<=64;rw[pm.length_eq];exact aa,λ_=>⟨λz=>L (VI.1 (by simp_all)),t,i,N,r1,λw hw=>?_⟩⟩
  grind
theorem mD{t:Ck}{W:CX}:∀{r:AA Int} {i:Nat} {u:AA (Int×Bool)} {s:Uh},admL t W r i u s=AE->∀h∈r,HU t h
 |[],_,_,_,_,h,hm=>by cases hm
 |y::r,i,u,s,q,h,hm=>by
  rw[dv]at q;cases hb:((y != -1)&&Fq t W u i y)with
  |true=>grind
  |false=>
  rw[hb,Vp]at q;rcases X6.1 hm with rfl|hm
  .exact(tp hb).1
  .cases hL:AG (W.A8<(i:Int))with
   |true=>rw[hL,Vo]at q;exact mD q h hm
   |false=>
    rw[hL,Vp]at q;cases h2:(DD t s (i:Int) y).2 with
    |false=>grind
    |true=>rw[h2]at q;exact mD q h hm
theorem Qmv{c:CB}(g:Ft c)(he:Ev (λn=>DZ n c) 0){i k:Int}(h:(CY c i k).2=0):Ev (λn=>Hm n c i k) (CS.c3 ((CY c i k).1,c.A4.foldl (λm x=>QK m ({BZ:=x.BA,to_:=x.To:Ub}) x) [])):=by
 have H:=lw g he i k;obtain⟨j,d,f,J,G,B,N,Q,F⟩:=iR g h;subst J;subst G;have q:=VG B;have E:=(g.route d q);rw[g.exp q]at E;have w:i64.wrap (256-(AI (Cm d.Af):Int))=256-(AI (Cm d.Af):Int):=Dh;have t:Ev (λn=>Go.Sw.iter (J3 n c) n (([]:AA (Ub×Cr)),0)) (c.A4.foldl (λm x=>QK m ({BZ:=x.BA,to_:=x.To:Ub}) x) []):=by
  have O:=g.legs;refine YL c.A4 (λ(m:AA (Ub×Cr)) x=>QK m ({BZ:=x.BA,to_:=x.To:Ub}) x) [] (λm i=>(m,(i:Int))) (λm=>m) om rfl (λi x m ha _=>?_) ?_
  .unfold J3;simp only[ha.lt,Vo,ha.ix,XI,ha.nx];exact Qa _
  simp_all[J3,Qa]
 rw[F];unfold Hm;have M:(AG ((f:Int)<0)||(AG (0<(f:Int))&&AG (d.Am<0)))=false:=by
  grind
 refine Ea (gy he B) (Yd (Ea (v:=AD) (Eu (QQ λ_=>Eh λ_=>Qa _) M) (Yd (Ea (mc g q) ?_))));simp only[w,YO (show¬256-(AI (Cm d.Af):Int)<(f:Int)by omega),Vp];refine Ea (v:=DI d f) ?_ (Ea t (Qa _));by_cases P:f=0
 .simp_all[Qa,DI]
 .refine Kh gq ?_;have y:=mS d 0 (Cm d.Af) E.2 (AI (Cm d.Af)-1) om;have L:=lX (Cm d.Af) d.Am (AI (Cm d.Af)-1);rw[QL (n:=(AI (Cm d.Af):Int)-1) om om,show(AI (Cm d.Af):Int)-1=((AI (Cm d.Af)-1:Nat):Int)by omega];refine Ea y.ev (Ea (mR d.Am f om om) (Ea (EA ?_) (Qa _)))
  grind[DI,QL,ZG,Nat.blt,Nat.ble_eq_true_of_le,YE]
set_option maxRecDepth 10000
def HS(k:CE)(g:Int):Prop:=∃j:Nat,g+1=(j:Int)/\j<AI k.AS+1
theorem tX{t:Ck}{W:CX}(h:FG t W=AE):AI W.BL=AI t.r/\W.A8<(AI t.r:Int)/\ ∀y∈W.BL,HU t y:=by
 unfold FG at h;cases d:ID t W with
 |true=>grind
 |false=>
  rw[d,Vp]at h
  grind[ID,mD]
theorem Qp2{t:Ck}{s:AP}{e:Int}{l:AA Ae}(J:Ev (λn=>K0 n t.c t.k s e t.H l) (Fw (.inr t)))(ok:C_ t){W:CX}(E:FG t W=AE){p:Int}(F:0<=p)(O:p<=W.A8):
  Tt (λn=>Hj n t.c t.k s e t.H l W p) λr=>HS t.k r.1:=by
 obtain⟨N,R,G⟩:=tX E;have rl:=ok.rl;unfold Hj;refine Tt.b (P:=λr=>r=Fw (.inr t)) (Tt.e J rfl) λr f=>?_;subst f;show Tt (λn=>(IQ n W t.c t.k t.r t.s t.H t.T t.hi t.m t.c t.k).bind _) _;have d:∀{i:Int} {h:Int},h∈W.BL->Tt (λn=>Io n i h t.c t.k t.r t.s t.H t.T t.hi t.m t.c t.k) λr=>r.2=AE->HS t.k r.1.Ai:=λ{i h} hm=>Tt.e (lz ok i h (G h hm)) λq=>iP ok (G h hm) q;refine Tt.b (P:=λb=>b=AE) (Tt.e (pV ok W om) E) λb j=>?_;subst j;refine Tt.c (λq=>by cases q) λ_=>Tt.b (P:=λb=>b=AD) (Tt.c gq λ_=>Tt.p (YO om)) λb j=>?_;subst j;refine Tt.c (λq=>by cases q) λ_=>?_;refine Tt.b (P:=Fo λ(r:Int×CK×Int)=>HS t.k r.1) (Tt.l (λi:Int=> -1<=i/\i<=p) (λi=>(i+1).toNat) (λi hi=>?_) p om) λr f=>?_
 .unfold TX;refine Tt.c (λq=>?_) λ_=>Tt.p (Q:=Fj _ _ _ _) trivial;have q:=Vu q;obtain⟨M,L⟩:=hi;refine Tt.b (Tt.i q om) λy g=>Tt.b (d g) λz B=>Tt.c (λx=>Tt.b (Tt.e (gz ok q om F om) trivial) λ_ (_:True)=>Tt.p (Q:=Fj _ _ _ _) (B x)) λ_=>Tt.p (Q:=Fj _ _ _ _) ?_
  grind[QL]
 cases r with
 |d v=>exact Tt.p f
 |k u=>
  refine Tt.b (P:=Fo λ(r:Int×CK×Int)=>HS t.k r.1) (Tt.l (λi:Int=>p<=i/\i<=W.A8+1) (λi=>(W.A8+1-i).toNat) (λi hi=>?_) p om) λr f=>?_
  .unfold UW;refine Tt.c (λq=>?_) λ_=>Tt.p (Q:=Fj _ _ _ _) trivial;have q:=Vu q;obtain⟨M,L⟩:=hi;refine Tt.b (Tt.i om om) λy g=>Tt.b (d g) λz B=>Tt.c (λx=>Tt.b (Tt.e (gz ok F om om om) trivial) λ_ (_:True)=>Tt.p (Q:=Fj _ _ _ _) (B x)) λ_=>Tt.p (Q:=Fj _ _ _ _) ?_
   grind[QL]
  cases r with
  |d v=>exact Tt.p f
  |k u=>exact Tt.p ⟨0,rfl,om⟩
theorem Qin{k:CE}(ok:Kj k){g:Int}(hg:HS k g)(x:CK):Tt (λn=>MX n k g x) λ_=>True:=by
 unfold MX;obtain⟨j,e,f⟩:=hg;have B:=ok.dims.segs;refine Tt.k λ_=>?_;obtain⟨t,q⟩:=ok.dims.get (i:=j) (j:=0) f om;obtain⟨y,m⟩:=ok.dims.get (i:=0) (j:=j) om f;rw[e,QL (n:=(j:Int)) om om];have h:(0:Int)=((0:Nat):Int):=rfl;rw[h];refine Tt.b (P:=λr=>r=k.BP[j]?.getD []) (Tt.o (Qx t) rfl) λr d=>?_;subst d;refine Qe (Tt.o (Qx q) trivial) λ_=>Tt.b (P:=λr=>r=k.BP[0]?.getD []) (Tt.o (Qx y) rfl) λr d=>?_;subst d;exact Qe (Tt.o (Qx m) trivial) λ_=>Tt.z
theorem t?(r:AA Int)(m:AA (Ub×Cr))(J:AI r<=256):Tt (λn=>Mq n r m) λy=>∀p∈y.1,0<=p.1/\p.1<(AI r:Int):=by
 unfold Mq;have j:∀(k i:Nat) (M:AA (Int×Int)),i+k=AI r->∃y:AA (Int×Int)×Unit,(∃N,∀n f,N<=n->N<=f->L9 (J2 n r) f (M,(i:Int))=AC y)/\ ∀p∈y.1,0<=p.1/\p.1<(AI r:Int):=by
  intro k
  induction k with
  |zero=>
   intro i M hk;have:i=AI r:=om;subst this;refine⟨([],()),⟨1,λn f _ F=>?_⟩,λ_ h=>nomatch h⟩;obtain⟨f,rfl⟩:∃g,f=g+1:=⟨f-1,om⟩;unfold L9 J2;simp only[Y1,Vp];rfl
  |succ k G=>
   intro i M hk;have H:i<AI r:=om;have d:At r i r[i]:=Y6 om (XJ H);generalize hx:r[i]=x at d;obtain⟨y,⟨N,B⟩,t⟩:=G (i+1) (QK M x (i64.wrap (Qm M x 0+1))) om;refine⟨(((i:Int),Qm (QK M x (i64.wrap (Qm M x 0+1))) x 0)::y.1,y.2),⟨N+1,λn f E F=>?_⟩,λp q=>?_⟩
   .obtain⟨f,rfl⟩:∃g,f=g+1:=⟨f-1,om⟩;have e:=B n f om om;unfold L9;have step:J2 n r (M,(i:Int))=AC ([((i:Int),Qm (QK M x (i64.wrap (Qm M x 0+1))) x 0)],CG.k (QK M x (i64.wrap (Qm M x 0+1)),((i+1:Nat):Int))):=by
     unfold J2;simp only[d.lt,Vo,d.ix,XI,d.nx];rfl
    rw[step];show(L9 (J2 n r) f (_,((i+1:Nat):Int))).bind _=_;rw[e];rfl
   .rcases X6.1 q with h|h
    .subst h;exact⟨by show(0:Int)<=(i:Int);omega,by show(i:Int)<_;omega⟩
    .exact t p h
 obtain⟨y,⟨N,B⟩,t⟩:=j (AI r) 0 [] om;refine⟨(y.1++[],()),⟨N,λn E=>?_⟩,λp q=>t p (by simpa using q)⟩;have:=B n n E E;unfold ap;rw[show((0:Nat):Int)=0 from rfl]at this;show(L9 (J2 n r) n ([],0)).bind _=_;rw[this];rfl
theorem QjI{c:CB}(h:M3 c){i k:Int}(f:(CY c i k).2=0)(a b:Int):Tt (λn=>Pe n c i k a b) λr=>r.2=0->0<=r.1:=by
 unfold Pe;obtain⟨L,j⟩:=mb h.good f;refine Tt.b (Tt.e (Qmv h.good h.ty f) (Q:=λr=>r=CS.c3 ((CY c i k).1,c.A4.foldl (λm x=>QK m ({BZ:=x.BA,to_:=x.To:Ub}) x) [])) rfl) λr e=>?_;subst e;generalize(c.A4.foldl (λm x=>QK m ({BZ:=x.BA,to_:=x.To:Ub}) x) [])=m;generalize(CY c i k).1=R at L j;show Tt (λn=>(We n R m).bind λM=>(Mq n R m).bind λg=>(Rb (MH n a b (R,m)) g.1 ():AB (CG Unit (Int×Int))).bind λD45=>match D45 with|.k s57=>(AC (0,90))|.d s57=>AC s57) _;refine Qe (Tt.z) λ_=>Tt.b (t? R m j) λy J=>?_;have run:∀l:AA (Int×Int),(∀p∈l,0<=p.1/\p.1<(AI R:Int))->Tt (λn=>Rb (MH n a b (R,m)) l ()) (Fo λ(r:Int×Int)=>0<=r.1):=by
  intro l
  induction l with
  |nil=>intro _;exact Tt.z
  |cons p l H=>
   intro B;obtain⟨t,F⟩:=B p (X4 ..);have N:Tt (λn=>MH n a b (R,m) () p) (Fo λ(r:Int×Int)=>0<=r.1):=by
    unfold MH;exact Qe (Qe (Tt.i t F).any λ_=>Tt.k λ_=>Tt.z) λ_=>Tt.c (λ_=>Tt.p t) λ_=>Tt.z
   unfold Rb;refine Tt.b N λd E=>?_;cases d with
   |k u=>exact H λq G=>B q (X5 _ G)
   |d v=>exact Tt.p E
 refine Tt.b (run y.1 J) λr f=>?_;cases r with
 |k u=>exact Tt.p λh=>by cases h
 |d v=>exact Tt.p λ_=>f
set_option maxRecDepth 10000
structure Qk (q:Ui) (t:Ck):Prop where
 crs:M3 q.Ar
 clk:Fh q.Bj
 te:D1 q.Ar q.Bj q.Ad q.BV q.Bw q.Bm=.inr t
 task:IE q.Ar q.Bj q.Ad q.BV q.Bw q.Bm t
 hx:AI q.Bw<=4
 hl:AI q.Bm<=6
 p0:0<=q.As
 pen:AI q.BY<=100
theorem Qnt{q:Ui}{t:Ck}(h:Qk q t){W:CX}(g:FG t W=AE){p:Int}(m:0<=p)(j:p<=W.A8):Tt (λn=>G6 n q W p) λr=>HS q.Bj r.1:=by
 unfold G6;have i:=h.task;have B:t.c=q.Ar:=by rw[i.is];rfl
 have f:t.k=q.Bj:=by rw[i.is];rfl
 have x:t.H=q.Bw:=by rw[i.is];rfl
 have d:=dZ (c:=q.Ar) (h.crs.cE.symm▸h.crs.ty) (λ_=>h.crs.good) h.clk q.Ad q.BV q.Bw (by have:=h.hx;omega) q.Bm (by have:=h.hl;omega);rw[h.te]at d;have z:=Qp2 (t:=t) (s:=q.Ad) (e:=q.BV) (l:=q.Bm) gq i.ok g m j;rw[B,f,x]at z;exact Tt.b z λr y=>Tt.p y
theorem gc{c:CB}{s:AP}{l:AA Ae}(h:HH c s l=AD):0<=s.AN/\s.AN<(AI c.AO:Int)/\0<=s.Aw/\s.Aw<(AI c.Ap:Int):=by
 grind[HH]
theorem oq{q:Ui}{t:Ck}(h:Qk q t):Tt (λn=>He n q) λ_=>True:=by
 unfold He;obtain⟨_,_,a,b⟩:=gc h.task.arg;exact Qe (Tt.i a b).any λ_=>Tt.z
theorem u?{q:Ui}{t:Ck}(h:Qk q t){W:CX}(m:FG t W=AE)(F:q.As<=W.A8):Tt (λn=>Iq n q W) λ_=>True:=by
 unfold Iq;obtain⟨a,b,_,_⟩:=gc h.task.arg;have w:=YN h.crs.wf;have kk:=lO h.clk h.task.clk;refine Tt.b (Tt.i a b) λd j=>?_;have f:=w.cut d j;refine Qe (QJ d.Aq (λ(a:Bool×Bool) i=>(a.1,a.2,i)) (λ_ _=>True) om (λi x a ha _=>?_) (λa _=>?_) (AD,AD) _ rfl trivial) λ_=>Tt.z
 .unfold JZ;simp only[ha.lt,Vo,ha.ix,XI,ha.nx];refine Qe (Tt.b (QjI h.crs h.task.rt _ _) λr g=>Tt.b (P:=λb=>b=AD->0<=r.1/\r.1<=q.As) (Tt.n λH=>Tt.p λJ=>?_) λb E=>Tt.k λy=>?_) λb=>Tt.p ⟨b,rfl,trivial⟩
  .grind
  .obtain⟨B,G⟩:=E y;refine Tt.b (Qnt h m B om) λr g=>Qe (Qin kk g _) λz=>Qe (Qv <| Qe (oq h) λ_=>Tt.z) λ_=>Qe (Qv <| Qe (oq h) λ_=>Tt.z) λ_=>Tt.z
 .unfold JZ;simp only[Y1,Vp];exact Tt.p ⟨_,rfl,trivial⟩
def Y'(p:Int)(s:Int×Int×Bool)(x:CF):Int×Int×Bool:=
 bif x.AT<=p then(i64.wrap (s.1+x.BX),i64.wrap (s.2.1+x.Ax),s.2.2||x.BM)else s
theorem rC(l:AA CF)(p:Int)(d:AI l<=1048576):Ev (λn=>KB n l p) (l.foldl (Y' p) (0,0,AD)):=by
 unfold KB;refine Ea (YL l (λs x=>Y' p s x) (0,0,AD) (λs i=>(s.1,s.2.1,s.2.2,(i:Int))) (λs=>s) om rfl (λi x s ha _=>?_) ?_) (Qa _)
 .unfold UZ;simp only[ha.lt,Vo,ha.ix,XI,ha.nx];refine Ea (v:=Y' p s x) ?_ (Qa _);unfold Y';refine JT (λ_=>?_) λ_=>Qa _
  grind[Qa]
 simp_all[UZ,Qa]
theorem QnB(l:AA Ae)(d:AI l<=6):Tt (λn=>PS n l) λ_=>True:=by
 unfold PS Wj;refine Qe (Qe (QJ l (λ(_:Unit) i=>i) (λ_ _=>True) om (λi x _ ha _=>?_) (λ_ _=>?_) () _ rfl trivial) λr=>?_) λ_=>Tt.z
 .unfold Ta Wm;simp only[ha.lt,Vo,ha.ix,XI,ha.nx]
  simp_all[Tt.c,Tt.p]
 .simp_all[Ta,Tt.p]
 .cases r<;>exact Tt.z
theorem QlG{c:CB}(h:CL c=0){d:AN}(f:d∈c.AO):1<=d.A9/\d.A9<=3:=by
 have g:=(Y4 h).2.1
 simp_all[Cp,Il,DE]
set_option maxRecDepth 10000
def LO(x:CK):Prop:=(-2199023255552<=x.Lo/\x.Lo<=2199023255552)/\(-2199023255552<=x.Hi/\x.Hi<=2199023255552)
def IV(x:Int):Prop:= -140737488355328<=x/\x<=140737488355328
def LU(x:CK):Prop:=IV x.Lo/\IV x.Hi
theorem qZ{c:CB}(f:Ff c){s:CD}(g:Di s.BI){h:CN}(d:HK c h):LO (Fv c s h):=by
 have j:=pY f (Ci c h.Al) g d.fi;have q:=pY f (Ci c h.Al) g d.la;have t:=d.fi;have m:=d.la
 grind[Di,Fv,LO,QL]
theorem QpM{c:CB}(q:Ff c){k:CE}(g:∀s∈k.AS,Di s.BI){h:CN}(j:HK c h){x:Ue}(e:Ds c k h=AC x):LO x.A':=by
 unfold Ds at e;cases d:Ci c h.Al==1 with
 |true=>
  rw[d,Vo]at e
  grind[qZ,Di]
 |false=>
  rw[d,Vp]at e;cases f:AG (Dj k h<0)with
  |true=>grind
  |false=>
   rw[f,Vp,Option.map_eq_some_iff]at e;obtain⟨s,m,rfl⟩:=e
   grind[qZ]
theorem rT{c:CB}(hc:Ff c){k:CE}(ka:∀s∈k.AS,Di s.BI):∀{l:AA CN} {T:AA Ue},(∀h∈l,HK c h)->C9 c k l=AC T->∀x∈T,LO x.A'
 |[],T,_,e,x,hx=>by
  cases(XY e:[]=T);cases hx
 |h::r,T,ho,e,x,hx=>by
  rw[mr,Option.bind_eq_some_iff]at e;obtain⟨y,e1,e2⟩:=e;rw[Option.map_eq_some_iff]at e2;obtain⟨R,e3,rfl⟩:=e2;rcases X6.1 hx with q|q
  .grind[QpM,List.mem_cons_self]
  .exact rT hc ka gq e3 x q
theorem _y{l:AA Ae}(h:l.any H0=AD){p:Int}{x:Ue}(e:Jp (HG l).1 p=AC x):LO x.A':=by
 unfold HG at e;rw[lH]at e;have d:(l.find? λh=>h.AT==p).map (λh=>({Ai:= -1,A':={Lo:=h.Lo,Hi:=h.Hi}}:Ue))=AC x:=e;rw[Option.map_eq_some_iff]at d;obtain⟨y,f,rfl⟩:=d
 grind[H0,FI,DE,LO]
theorem C?{c:CB}(f:CL c=0)(a b:Int):(0<=(IB c a b).Bo/\(IB c a b).Bo<=68719476736)/\(0<=(IB c a b).Br/\(IB c a b).Br<=68719476736):=by
 have d:=(Y4 f).2.1;unfold Cp at d;simp only[XV]at d;unfold IB;cases e:c.A4.find? λl=>(l.BA==a)&&(l.To==b)with
 |none=>simp
 |some y=>
  have:=Xs.1 d.2.1 y (List.mem_of_find?_eq_some e)
  simp_all[SF,DE]
def NU(K:Int)(s:CK):Prop:=(0<=s.Lo/\s.Lo<=K)/\(0<=s.Hi/\s.Hi<=K)
theorem qb{c:CB}(d:CL c=0):∀(r:AA Int) (s:CK) (a K:Int),NU K s->K+68719476736*(AI r:Int)<=35184372088832->∀u∈FZ c s a r,NU 35184372088832 u
 |[],s,a,K,hs,hK,u,hu=>by cases hu
 |b::r,s,a,K,hs,hK,u,hu=>by
  rw[uW]at hu;rw[XZ]at hK;obtain⟨⟨l1,l2⟩,l3,l4⟩:=C? d a b;obtain⟨⟨s1,s2⟩,s3,s4⟩:=hs;have hr:=om;have e:NU (K+68719476736) (FJ c s a b):=by
   grind[FJ,NU,QL]
  rcases X6.1 hu with q|q
  .subst q;obtain⟨⟨f,h⟩,g,j⟩:=e;exact⟨⟨f,om⟩,g,om⟩
  .exact qb d r _ b _ e om u q
theorem Qp8{c:CB}(f:CL c=0){r:AA Int}(g:AI r<=256):∀u∈HB c r,NU 35184372088832 u:=by
 cases r with
 |nil=>intro u d;cases d
 |cons a r=>
  intro u d;rw[XZ]at g;rcases X6.1 d with q|q
  .subst q;exact⟨sq,Int.le_refl 0,sq⟩
  .exact qb f r _ a 0 ⟨sq,Int.le_refl 0,Int.le_refl 0⟩ om u q
def SB(x:Int):Prop:= -35184372088832<=x/\x<=2199023255552
theorem c6{l:AA CK}(h:∀u∈l,NU 35184372088832 u)(i:Nat):NU 35184372088832 ((l[i]?).getD {Lo:=0,Hi:=0}):=by
 cases e:l[i]? with
 |none=>exact⟨sq,Int.le_refl 0,sq⟩
 |some u=>grind
theorem Qqj{t:Ck}(h:∀u∈t.s,NU 35184372088832 u)(i j:Int):SB (Hu t i j).Lo/\SB (Hu t i j).Hi:=by
 obtain⟨⟨g,m⟩,y,d⟩:=c6 h i.toNat;obtain⟨⟨f,q⟩,B,x⟩:=c6 h j.toNat
 grind[Hu,SB,QL]
structure KY (t:Ck):Prop where
 T:∀x∈t.T,LO x.A'
 m:∀p x,Jp t.m p=AC x->LO x.A'
 s:∀u∈t.s,NU 35184372088832 u
theorem Qpe{c:CB}{k:CE}{s:AP}{e:Int}{x:AA CN}{l:AA Ae}{t:Ck}(h:IE c k s e x l t):KY t:=by
 have ok:=h.ok;have rl:=ok.rl;have j:t.c=c:=by rw[h.is];rfl
 have f:t.k=k:=by rw[h.is];rfl
 have E:t.H=x:=by rw[h.is];rfl
 have q:t.m=(HG l).1:=by rw[h.is];rfl
 have F:t.r=(CY c s.AN e).1:=by rw[h.is];rfl
 have g:t.s=HB c (CY c s.AN e).1:=by rw[h.is];rfl
 refine⟨?_,λp y d=>?_,?_⟩
 .refine rT (c:=c) (k:=k) (j▸ok.crs) (f▸ok.clk.anc) (l:=x) (λy d=>?_) h.tm;obtain⟨i,G,e⟩:=List.getElem_of_mem d;have:=ok.hit i y gq
  grind
 .have B:=h.arg
  grind[HH,_y]
 .rw[g];exact Qp8 h.cE gq
theorem Qqn{t:Ck}(b:KY t)(ok:C_ t){p h:Int}(g:HU t h)(q:(DH t p h).2=AE):LO (DH t p h).1.A':=by
 unfold DH at q⊢;cases e:(JM t.m p||AG (h<0))with
 |true=>
  rw[e]at q;simp only[Vo]at q⊢;rw[lY]at q;obtain⟨x,f⟩:=Option.isSome_iff_exists.1 q;have:Qm t.m p zX=x:=by
   unfold Qm;rw[f];rfl
  rw[this];exact b.m p x f
 |false=>
  simp only[Vp];rw[XW,decide_eq_false_iff_not]at e;rcases g with z|z
  .omega
  .have d:h.toNat<AI t.T:=by rw[ok.tl];exact z
   rw[XJ d];exact b.T _ (Vd d)
theorem QnI{t:Ck}{s:AP}{e:Int}{l:AA Ae}(X:Ev (λn=>K0 n t.c t.k s e t.H l) (Fw (.inr t)))(ok:C_ t)(O:KY t){W:CX}(R:FG t W=AE){p:Int}(V:0<=p)(p1:p<=W.A8):
  Tt (λn=>Hj n t.c t.k s e t.H l W p) λr=>HS t.k r.1/\LU r.2.1:=by
 obtain⟨w1,w2,F⟩:=tX R;have rl:=ok.rl;unfold Hj;refine Tt.b (P:=λr=>r=Fw (.inr t)) (Tt.e X rfl) λr x=>?_;subst x;show Tt (λn=>(IQ n W t.c t.k t.r t.s t.H t.T t.hi t.m t.c t.k).bind _) _;have f:∀{i:Int} {h:Int},h∈W.BL->Tt (λn=>Io n i h t.c t.k t.r t.s t.H t.T t.hi t.m t.c t.k) λr=>r.2=AE->HS t.k r.1.Ai/\LO r.1.A':=λ{i h} hm=>Tt.e (lz ok i h (F h hm)) λq=>⟨iP ok (F h hm) q,Qqn O ok (F h hm) q⟩;have g:∀{i j:Int},0<=i->i.toNat<AI t.r->0<=j->j.toNat<AI t.r->Tt (λn=>KI n i j t.c t.k t.r t.s t.H t.T t.hi t.m t.c t.k) λr=>SB r.Lo/\SB r.Hi:=λa b c d=>Tt.e (gz ok a b c d) (Qqj O.s _ _);refine Tt.b (P:=λb=>b=AE) (Tt.e (pV ok W om) R) λb J=>?_;subst J;refine Tt.c (λq=>by cases q) λ_=>Tt.b (P:=λb=>b=AD) (Tt.c gq λ_=>Tt.p (YO om)) λb J=>?_;subst J;refine Tt.c (λq=>by cases q) λ_=>?_;refine Tt.b (P:=Fo λ(r:Int×CK×Int)=>HS t.k r.1/\LU r.2.1) (Tt.l (λi:Int=> -1<=i/\i<=p) (λi=>(i+1).toNat) (λi hi=>?_) p om) λr x=>?_
 .unfold TX;refine Tt.c (λq=>?_) λ_=>Tt.p (Q:=Fj _ _ _ _) trivial;have q:=Vu q;obtain⟨h1,Y⟩:=hi;refine Tt.b (Tt.i q om) λy E=>Tt.b (f E) λz N=>Tt.c (λM=>Tt.b (g q om V om) λu G=>Tt.p (Q:=Fj _ _ _ _) ?_) λ_=>Tt.p (Q:=Fj _ _ _ _) ?_
  .obtain⟨B,L⟩:=N M;refine⟨B,?_⟩;unfold LO at L;unfold SB at G;show IV _/\IV _;unfold IV
   dsimp only
   rw[Dh,Dh];omega
  grind[QL]
 cases r with
 |d v=>exact Tt.p x
 |k u=>
  refine Tt.b (P:=Fo λ(r:Int×CK×Int)=>HS t.k r.1/\LU r.2.1) (Tt.l (λi:Int=>p<=i/\i<=W.A8+1) (λi=>(W.A8+1-i).toNat) (λi hi=>?_) p om) λr x=>?_
  .unfold UW;refine Tt.c (λq=>?_) λ_=>Tt.p (Q:=Fj _ _ _ _) trivial;have q:=Vu q;obtain⟨h1,Y⟩:=hi;refine Tt.b (Tt.i om om) λy E=>Tt.b (f E) λz N=>Tt.c (λM=>Tt.b (g V om om om) λu G=>Tt.p (Q:=Fj _ _ _ _) ?_) λ_=>Tt.p (Q:=Fj _ _ _ _) ?_
   .obtain⟨B,L⟩:=N M;refine⟨B,?_⟩;unfold LO at L;unfold SB at G;show IV _/\IV _
    grind[IV,QL]
   grind[QL]
  cases r with
  |d v=>exact Tt.p x
  |k u=>exact Tt.p ⟨⟨0,rfl,om⟩,by show IV _/\IV _;unfold IV;simp⟩
set_option maxRecDepth 10000
def oB(o:CC):Prop:=(-1125899906842624<=o.Lo/\o.Lo<=1125899906842624)/\(-1125899906842624<=o.Hi/\o.Hi<=1125899906842624)
theorem ZM{x f:CK}(j:LU x)(h:LU f){u:Int}(d:IV u)(g:Int):oB {BM:=AD,BS:=g,Lo:=i64.wrap (i64.wrap (x.Lo-f.Hi)+u),Hi:=i64.wrap (i64.wrap (x.Hi-f.Lo)+u):CC}:=by
 grind[LU,IV,oB,QL]
def oL(r:AA CC):Prop:=AI r<=2/\ ∀o∈r,oB o
theorem jF:oB {BM:=AE,BS:=(-1),Lo:=0,Hi:=0:CC}:=by
 unfold oB;simp
theorem aR{o:CC}(h:oB o):oL [o]:=⟨sq,λy hy=>gq⟩
theorem jE{o:CC}(h:oB o):oL [{BM:=AE,BS:=(-1),Lo:=0,Hi:=0:CC},o]:=⟨sq,λy hy=>by
 grind[jF]⟩
structure Ss (q:Ui) (t:Ck):Prop where
 k:Qk q t
 b:KY t
 sl:Di q.Ad.BK
 pb:∀y∈q.BY,Di y.BX
theorem sj{q:Ui}{t:Ck}(h:Ss q t){W:CX}(g:FG t W=AE){p:Int}(m:0<=p)(j:p<=W.A8):Tt (λn=>G6 n q W p) λr=>LU r.2:=by
 unfold G6;have i:=h.k.task;have B:t.c=q.Ar:=by rw[i.is];rfl
 have f:t.k=q.Bj:=by rw[i.is];rfl
 have x:t.H=q.Bw:=by rw[i.is];rfl
 have d:=dZ (c:=q.Ar) (h.k.crs.cE.symm▸h.k.crs.ty) (λ_=>h.k.crs.good) h.k.clk q.Ad q.BV q.Bw (by have:=h.k.hx;omega) q.Bm (by have:=h.k.hl;omega);rw[h.k.te]at d;have z:=QnI (t:=t) (s:=q.Ad) (e:=q.BV) (l:=q.Bm) gq i.ok h.b g m j;rw[B,f,x]at z;exact Tt.b z λr y=>Tt.p y.2
theorem r?{q:Ui}{t:Ck}(h:Ss q t):Tt (λn=>He n q) λg=>0<=g/\g<=1099511627776:=by
 unfold He;obtain⟨_,_,a,b⟩:=gc h.k.task.arg;have d:=(Y4 h.k.crs.cE).2.1;unfold Cp at d;simp only[XV]at d;refine Tt.b (Tt.i a b) λw f=>Tt.p ?_
 simp_all[DE]
theorem uZ{q:Ui}{t:Ck}(h:Ss q t)(W:CX):Tt (λn=>Lc n q W) LU:=by
 unfold Lc;refine Tt.b (r? h) λg d=>Qe (Tt.z) λ_=>Tt.p ?_;unfold LU IV
 grind
theorem QjC{q:Ui}{t:Ck}(h:Ss q t){W:CX}(g:FG t W=AE)(f:0<=W.A8)(j:0<AI W.BL):Tt (λn=>Mt n q W) LU:=by
 unfold Mt;exact Qe (QnB _ h.k.hl) λ_=>Qe (Qe (Tt.i (Int.le_refl 0) om).any λ_=>Tt.k λ_=>Tt.z) λ_=>Tt.c (λ_=>Tt.b (uZ h W) λr d=>Tt.p d) λ_=>Tt.b (sj h g (Int.le_refl 0) f) λr d=>Tt.p d
theorem qh(p:Int):∀(l:AA CF) (s:Int×Int×Bool) (K:Int),(∀y∈l,Di y.BX)-> -K<=s.1/\s.1<=K->K+1099511627776*(AI l:Int)<=140737488355328->IV (l.foldl (Y' p) s).1
 |[],s,K,_,h,hK=>by
  grind[IV]
 |y::l,s,K,hy,h,hK=>by
  rw[XC];rw[XZ]at hK;have hr:=om;have ht:=hy y (X4 ..);unfold Di at ht;refine qh p l _ (K+1099511627776) gq ?_ om;unfold Y';cases AG (y.AT<=p)with
  |true=>
   simp only[Vo];rw[Dh];omega
  |false=>
   grind
theorem aA{q:Ui}{t:Ck}(h:Ss q t){W:CX}(y:FG t W=AE)(G:0<AI W.BL):Tt (λn=>Hh n q W) oL:=by
 unfold Hh;obtain⟨a,b,_,_⟩:=gc h.k.task.arg;have p0:=h.k.p0;have pen:=h.k.pen;refine Tt.b (P:=λu=>IV u.1) (Tt.e (rC q.BY q.As om) (qh q.As q.BY (0,0,AD) 0 h.pb om om)) λu g=>Tt.b (P:=λb=>b=AD->q.As<=W.A8) (Tt.n λz=>Tt.p λ_=>gq) λL F=>Tt.c (λ_=>Qe (Tt.z) λ_=>Tt.p (aR jF)) λz=>?_;have B:=F z;refine Qe (u? h.k y B) λN=>Tt.c (λ_=>Qe (Tt.z) λ_=>Tt.p (aR jF)) λ_=>Tt.b (sj h y p0 B) λx j=>Qe (Tt.z) λ_=>Tt.b (Tt.i a b) λd E=>?_;have H:=QlG h.k.crs.cE E;have sl:LU {Lo:=q.Ad.BK,Hi:=q.Ad.BK}:=by
  have:=h.sl
  grind[Di,LU,IV]
 refine Tt.c gq λQ=>Tt.c (λ_=>Tt.b (uZ h W) λf m=>Tt.c (λ_=>Qe (Tt.z) λ_=>Tt.p (jE (ZM j m g _))) λ_=>Tt.p (aR (ZM j m g _))) λM=>Tt.c (λ_=>Tt.b (QjC h y om G) λf m=>Tt.c (λ_=>Qe (Tt.z) λ_=>Tt.p (jE (ZM j m g _))) λ_=>Tt.p (aR (ZM j m g _))) λJ=>Tt.c (λ_=>Qe (f:=λn=>P3 n q W) (Tt.z) λ_=>Tt.c (λ_=>Qe (Tt.z) λ_=>Tt.p (jE (ZM j sl g _))) λ_=>Tt.p (aR (ZM j sl g _))) λO=>?_
 grind
theorem QpR{q:Ui}{t:Ck}(h:Ss q t){V:AA CX×Int}(F:AI V.1<=64)(j:∀w∈V.1,FG t w=AE/\0<AI w.BL):Tt (λn=>iter (HM n V (q,0)) n ([],0)) λr=>AI r<=128/\ ∀o∈r,oB o:=by
 refine QJ V.1 (λ(a:AA CC) i=>(a,i)) (λi a=>AI a<=2*i/\ ∀o∈a,oB o) om (λi w a d y=>?_) (λa y=>?_) [] _ rfl sq
 .unfold HM;have:=d.lt';simp only[d.lt,Vo,d.ix,XI,d.nx];obtain⟨E,B⟩:=j w d.mem;refine Tt.b (aA h E B) λr f=>Tt.b (Tt.a (by have:=f.1;omega)) λm g=>Tt.p ⟨m,rfl,?_⟩;subst g;refine⟨by have:=f.1;simp;omega,λo x=>?_⟩;rcases VB.1 x with z|z
  .grind
  .exact f.2 o z
 .unfold HM;simp only[Y1,Vp];exact Tt.p gq
def Fi(d:Int)(o:CC):CC:=bif !o.BM then {BM:=o.BM,BS:=o.BS,Lo:=i64.wrap (o.Lo+d),Hi:=i64.wrap (o.Hi+d):CC}else o
section
variable {α β γ:Type} {L:β} {L':γ}
theorem bK{x:AB α}{f:α->AB β}{d:α->AB γ}(h:∀v,f v=AC L->d v=AC L')(e:x.bind f=AC L):x.bind d=AC L':=by
 cases x with
 |none=>cases e
 |some v=>exact h v e
theorem cK{c:Bool}{a b:AB β}{a' b':AB γ}(d:a=AC L->a'=AC L')(f:b=AC L->b'=AC L')(e:(bif c then a else b)=AC L):(bif c then a' else b')=AC L':=by
 grind
end
def ofK(n:Nat)(q:Ui)(w:CX)(u:Int×Int×Bool):AB (AA CC):=
 ((bif w.A8<q.As then AC AE else AC u.2.2):AB Bool).bind λb3=>(bif b3 then(Ia n).bind λr7=>AC [{BM:=AE,BS:=(-1),Lo:=0,Hi:=0:CC}]else(Iq n q w).bind λr8=>(bif r8.1 then(Ia n).bind λr10=>AC [{BM:=AE,BS:=(-1),Lo:=0,Hi:=0:CC}]else(G6 n q w q.As).bind λr11=>(W7 n).bind λr12=>(CJ q.Ar.AO q.Ad.AN).bind λx13=>(bif (x13.A9==0)then(Lc n q w).bind λr15=>(bif r8.2 then(Ia n).bind λr17=>AC [{BM:=AE,BS:=(-1),Lo:=0,Hi:=0:CC},{BM:=AD,BS:=r11.1,Lo:=i64.wrap ((i64.wrap (r11.2.Lo-r15.Hi))+u.1),Hi:=i64.wrap ((i64.wrap (r11.2.Hi-r15.Lo))+u.1):CC}]else AC [{BM:=AD,BS:=r11.1,Lo:=i64.wrap ((i64.wrap (r11.2.Lo-r15.Hi))+u.1),Hi:=i64.wrap ((i64.wrap (r11.2.Hi-r15.Lo))+u.1):CC}])else(bif (x13.A9==1)then(Lc n q w).bind λr19=>(bif r8.2 then(Ia n).bind λr21=>AC [{BM:=AE,BS:=(-1),Lo:=0,Hi:=0:CC},{BM:=AD,BS:=r11.1,Lo:=i64.wrap ((i64.wrap (r11.2.Lo-r19.Hi))+u.1),Hi:=i64.wrap ((i64.wrap (r11.2.Hi-r19.Lo))+u.1):CC}]else AC [{BM:=AD,BS:=r11.1,Lo:=i64.wrap ((i64.wrap (r11.2.Lo-r19.Hi))+u.1),Hi:=i64.wrap ((i64.wrap (r11.2.Hi-r19.Lo))+u.1):CC}])else(bif (x13.A9==2)then(Mt n q w).bind λr23=>(bif r8.2 then(Ia n).bind λr25=>AC [{BM:=AE,BS:=(-1),Lo:=0,Hi:=0:CC},{BM:=AD,BS:=r11.1,Lo:=i64.wrap ((i64.wrap (r11.2.Lo-r23.Hi))+u.1),Hi:=i64.wrap ((i64.wrap (r11.2.Hi-r23.Lo))+u.1):CC}]else AC [{BM:=AD,BS:=r11.1,Lo:=i64.wrap ((i64.wrap (r11.2.Lo-r23.Hi))+u.1),Hi:=i64.wrap ((i64.wrap (r11.2.Hi-r23.Lo))+u.1):CC}])else(bif (x13.A9==3)then(P3 n q w).bind λr27=>(bif r8.2 then(Ia n).bind λr29=>AC [{BM:=AE,BS:=(-1),Lo:=0,Hi:=0:CC},{BM:=AD,BS:=r11.1,Lo:=i64.wrap ((i64.wrap (r11.2.Lo-q.Ad.BK))+u.1),Hi:=i64.wrap ((i64.wrap (r11.2.Hi-q.Ad.BK))+u.1):CC}]else AC [{BM:=AD,BS:=r11.1,Lo:=i64.wrap ((i64.wrap (r11.2.Lo-q.Ad.BK))+u.1),Hi:=i64.wrap ((i64.wrap (r11.2.Hi-q.Ad.BK))+u.1):CC}])else AF))))))
theorem _W(n:Nat)(q:Ui)(P:AA CF)(w:CX):Hh n {q with BY:=P} w=(KB n P q.As).bind (ofK n q w):=rfl
theorem oF{d:Int}{L:AA CC}(e:AC [{BM:=AE,BS:=(-1),Lo:=0,Hi:=0:CC}]=AC L):AC [{BM:=AE,BS:=(-1),Lo:=0,Hi:=0:CC}]=AC (L.map (Fi d)):=by
 cases e;rfl
theorem rk{S B:Type}{step step':S->AB (CG S B)}(φ:S->S)(ψ:B->B)(h1:∀s s',step s=AC (.k s')->step' (φ s)=AC (.k (φ s')))(h2:∀s b,step s=AC (.d b)->step' (φ s)=AC (.d (ψ b))):∀(m:Nat) (s:S) (b:B),iter step m s=AC b->iter step' m (φ s)=AC (ψ b)
 |0,s,b,e=>by cases e
 |m+1,s,b,e=>by
  unfold iter at e⊢;cases hs:step s with
  |none=>grind
  |some r=>
   rw[hs]at e;cases r with
   |k s'=>rw[h1 s s' hs];exact rk φ ψ h1 h2 m s' b e
   |d b'=>grind
theorem QqZ{α β:Type}(f:α->β){l m r:AA α}(h:app l m=AC r):app (l.map f) (m.map f)=AC (r.map f):=by
 obtain⟨d,rfl⟩:=ga h;rw[Zk _ _ (by simp only[X0];exact d),Xf]
theorem D?{n:Nat}{q x:Ui}{V:AA CX×Int}{d:Int}(of:∀w r,Hh n q w=AC r->Hh n x w=AC (r.map (Fi d))){L:AA CC}
  (e:iter (HM n V (q,0)) n ([],0)=AC L):iter (HM n V (x,0)) n ([],0)=AC (L.map (Fi d)):=by
 refine rk (λs:AA CC×Int=>(s.1.map (Fi d),s.2)) (λL:AA CC=>L.map (Fi d)) (λs y f=>?_) (λs b f=>?_) n ([],0) L e
 .unfold HM at f⊢
  dsimp only at f⊢
  cases h:AG (s.2<(AI V.1:Int))with
  |false=>grind
  |true=>
   rw[h,Vo]at f;rw[Vo];refine bK (λw g=>?_) f;obtain⟨r,t,g⟩:=QE g;rw[of w r t,XI];obtain⟨m,j,g⟩:=QE g;rw[QqZ _ j,XI];cases g;rfl
 .unfold HM at f⊢
  dsimp only at f⊢
  cases h:AG (s.2<(AI V.1:Int))with
  |false=>grind
  |true=>
   rw[h,Vo]at f;obtain⟨w,g,f⟩:=QE f;obtain⟨r,t,f⟩:=QE f;obtain⟨m,j,f⟩:=QE f;cases f
def sB(d:Int):Prop:= -68719476736<=d/\d<=68719476736
def H9(d:Int)(o:CC):CC:={o with Lo:=o.Lo+d,Hi:=o.Hi+d}
theorem kJ{d:Int}(f:sB d){o:CC}(h:oB o)(g:o.BM=AD):Fi d o=H9 d o:=by
 unfold oB at h;unfold sB at f;unfold Fi H9;rw[g];simp only[Xh,Vo]
 grind[QL]
theorem Qr4(d:Int)(o:CC):(Fi d o).BM=o.BM:=by
 unfold Fi
 grind
theorem aD{d:Int}(g:sB d){o:CC}(h:oB o):HR (Fi d o)=HR o:=by
 cases f:o.BM with
 |true=>unfold Fi;rw[f];rfl
 |false=>
  rw[kJ g h f];unfold HR H9;simp
theorem p_(a b d:Int):C2 (a+d) (b+d)=C2 a b:=by
 grind[C2]
theorem qm{α β:Type}(f:α->β){lt:α->α->Bool}{lt':β->β->Bool}(x:α):∀l:AA α,(∀y∈l,lt' (f y) (f x)=lt y x)->ins lt' (f x) (l.map f)=(ins lt x l).map f
 |[],_=>rfl
 |y::l,h=>by
  rw[Vj];unfold ins;rw[h y (X4 ..)];cases lt y x with
  |true=>simp only[Vo,Vj];rw[qm f x l λz hz=>h z (X5 _ hz)]
  |false=>rfl
theorem tK{α β:Type}(f:α->β){lt:α->α->Bool}{lt':β->β->Bool}:∀l:AA α,(∀x∈l,∀y∈l,lt' (f x) (f y)=lt x y)->JU lt' (l.map f)=(JU lt l).map f
 |[],_=>rfl
 |x::l,h=>by
  rw[Vj];unfold JU;rw[tK f l λa ha b hb=>h a (X5 _ ha) b (X5 _ hb)]
  grind[qm,Yw]
def tB(o:CC):Prop:=oB o/\o.BM=AD
theorem Qqk{d:Int}(h:sB d){a b:CC}(f:tB a)(g:tB b):F3 (H9 d a) (H9 d b)=F3 a b:=by
 unfold F3 H9
 dsimp only
 have f:=f.1;have g:=g.1;unfold oB at f g;unfold sB at h;rw[Dh,Dh]
 grind
theorem Z_(d:Int)(a b:CC):NR (H9 d a) (H9 d b)=H9 d (NR a b):=by
 unfold NR H9
 grind
theorem ox{a b:CC}(d:tB a)(f:tB b):tB (NR a b):=by
 refine⟨?_,d.2⟩;have d:=d.1;have f:=f.1
 grind[oB,NR]
theorem lU{d:Int}(hd:sB d):∀(r:AA CC) (a:CC),tB a->(∀x∈r,tB x)->Dd (H9 d a) (r.map (H9 d))=(Dd a r).map (H9 d)
 |[],a,_,_=>rfl
 |b::r,a,ha,hr=>by
  rw[Vj];unfold Dd;have hb:=hr b (X4 ..);have hr':=λx hx=>hr x (X5 _ hx);rw[Qqk hd ha hb];cases F3 a b with
  |true=>simp only[Vo];rw[Z_];exact lU hd r _ (ox ha hb) hr'
  |false=>simp only[Vp,Vj];rw[lU hd r b hb hr']
theorem lV:∀(r:AA CC) (a:CC),tB a->(∀x∈r,tB x)->∀x∈Dd a r,tB x
 |[],a,ha,_,x,hx=>by rw[Vz.1 hx];exact ha
 |b::r,a,ha,hr,x,hx=>by
  have hb:=hr b (X4 ..);have hr':=λx hx=>hr x (X5 _ hx);unfold Dd at hx;cases hn:F3 a b with
  |true=>rw[hn]at hx;exact lV r _ (ox ha hb) hr' x hx
  |false=>
   rw[hn,Vp]at hx;rcases X6.1 hx with q|q
   .grind
   .exact lV r b hb hr' x q
theorem vD{d:Int}(hd:sB d):∀l:AA CC,(∀o∈l,oB o)->(l.map (Fi d)).filter HR=(l.filter HR).map (H9 d)
 |[],_=>rfl
 |o::l,h=>by
  have ho:=h o (X4 ..);rw[Vj,List.filter_cons,List.filter_cons,aD hd ho,vD hd l gq];cases ht:HR o with
  |true=>simp_all[kJ,dX]
  |false=>rfl
theorem _U(d:Int):∀l:AA CC,(l.map (Fi d)).any (·.BM)=l.any (·.BM)
 |[]=>rfl
 |o::l=>by grind[Qr4]
theorem QpN{d:Int}(q:sB d){l:AA CC}(h:∀o∈l,oB o):FY (l.map (Fi d))=(FY l).map (Fi d):=by
 have g:∀x∈FP l,tB x:=λx f=>by
  have m:=(Yw _ _).mem_iff.1 f;obtain⟨F,E⟩:=Xd.1 m;exact⟨h x F,(dX E).1⟩
 have s:FP (l.map (Fi d))=(FP l).map (H9 d):=by
  unfold FP;rw[vD q l h];refine tK (H9 d) _ λx _ y _=>?_;unfold Ne Im H9
  dsimp only
  rw[p_,p_]
 have j:Fz ((FP l).map (H9 d))=(Fz (FP l)).map (H9 d)/\ ∀x∈Fz (FP l),tB x:=by
  cases e:FP l with
  |nil=>exact⟨rfl,λ_ h=>nomatch h⟩
  |cons a r=>
   rw[e]at g;have B:=g a (X4 ..);have t:=λx f=>g x (X5 _ f);exact⟨lU q r a B t,lV r a B t⟩
 unfold FY;rw[Xf,s,j.1];congr 1
 .unfold D3;rw[_U];cases l.any (·.BM)with
  |true=>rfl
  |false=>rfl
 .exact List.map_congr_left λx f=>(kJ q (j.2 x f).1 (j.2 x f).2).symm
theorem Qj0(l:AA CC)(d:Int)(g:AI l<=1048576):Ev (λn=>Pu n l d) (l.map (Fi d)):=by
 unfold Pu;refine Ea (h? l (Fi d) g (λi x a f h=>?_) λa=>?_) (Qa _)
 .unfold VS;have:=f.lt';simp only[f.lt,Vo,f.ix,XI,f.nx];refine Ea (v:=Fi d x) ?_ (YR (Zk _ _ (by simp;omega)) (Qa _))
  grind[Fi,Qa]
 simp_all[VS,Qa]
theorem ot(a b c:Int):Tt (λn=>Fd n a b c) λr=>r=AE->b<=a/\a<=c:=by
 unfold Fd;exact Tt.b (P:=λr=>r=AE->b<=a/\a<=c) (Tt.c (λh=>Tt.p gq) λ_=>Tt.p nofun) λv h=>Tt.p h
theorem QpU(a:Int):Tt (λn=>IK n a) λr=>r=AE->Di a:=by
 unfold IK;exact Tt.b (ot ..) λr h=>Tt.p λq=>h q
theorem QjD(s:AP):Tt (λn=>K9 n s) λr=>r=AE->0<=s.AN/\Di s.BK:=by
 unfold K9 JY KE;refine Tt.b (P:=λr=>r=AE->0<=s.AN/\Di s.BK) (Qe (Qe (Jo ..) λ_=>Tt.z) λr=>Tt.c (λ_=>Tt.b (R3 ..) λr h=>Tt.c (λq=>Qe (Jo ..) λ_=>Tt.c (λ_=>Tt.b (QpU _) λr f=>Tt.c (λd=>Tt.w (P:=λ_=>True) ?_ gq) λ_=>Tt.p nofun) λ_=>Tt.p nofun) λ_=>Tt.p nofun) λ_=>Tt.p nofun) λv h=>Tt.p h
 repeat' first|with_reducible exact Tt.p trivial|with_reducible refine Tt.c (λ_=>?_) λ_=>?_|with_reducible refine Qe ?_ λ_=>?_|with_reducible exact Jo ..
theorem QlM(s:Ag):Tt (λn=>K_ n s) λr=>r=AE->s.AX=3->Di s.BO:=by
 unfold K_ IN JY Hl;refine Qe ?_ λd=>Tt.n λ_=>Tt.b (P:=λb=>b=AE->s.AX≠3) (Tt.c (λh=>Tt.p λ_ e=>?_) λ_=>Tt.p λh e=>?_) λb f=>Tt.c (λq=>Tt.w (P:=λ_=>True) ?_ gq) λ_=>Tt.c (λk=>Tt.b (P:=λr=>r=AE->Di s.BO) ?_ λr h=>Tt.p λq _=>h q) λk=>Tt.w (P:=λ_=>True) ?_ gq
 .repeat' first|with_reducible exact Tt.p trivial|with_reducible refine Tt.c (λ_=>?_) λ_=>?_|with_reducible refine Qe ?_ λ_=>?_|with_reducible exact Jo ..
 .grind
 .grind
 .repeat' first|with_reducible exact Tt.p trivial|with_reducible refine Tt.c (λ_=>?_) λ_=>?_|with_reducible refine Qe ?_ λ_=>?_|with_reducible exact Jo ..
 .refine Qe (Qe (Jo ..) λ_=>Tt.z) λ_=>Tt.c (λ_=>Qe (Qe (Jo ..) λ_=>Tt.z) λ_=>Tt.c (λ_=>Tt.b (ot ..) λr h=>Tt.p λq=>?_) λ_=>Tt.p nofun) λ_=>Tt.p nofun;have:=h q;unfold Di;omega
 .repeat' first|with_reducible exact Tt.p trivial|with_reducible refine Tt.c (λ_=>?_) λ_=>?_|with_reducible refine Qe ?_ λ_=>?_|with_reducible exact Jo ..
def Lz(f:CI):Prop:=(f.AX=1->0<=f.AP.AN/\Di f.AP.BK)/\(f.AX=10->f.Ag.AX=3->Di f.Ag.BO)
theorem Lz.k{f:CI}{k:Int}(h:(f.AX==k)=AE)(d:k≠1)(g:k≠10):Lz f:=by
 have:f.AX=k:=by simpa using h
 exact⟨om,om⟩
theorem QjH(f:CI):Tt (λn=>LG n f) λr=>r=AE->Lz f:=by
 unfold LG IT IR IK JY Hl IN KE KK KJ;have g:(f.AX==1)=AE->f.AX=1:=sq;have d:(f.AX==10)=AE->f.AX=10:=sq;refine Tt.c (λk=>Tt.b (QjD _) λr h=>Tt.p λq=>⟨λ_=>h q,gq⟩) λ_=>?_
 iterate 8 (refine Tt.c (λk=>Tt.w (P:=λ_=>True) ?_ λ_ _ _=>Lz.k k ?_ ?_) λ_=>?_;rotate_left;rotate_left;rotate_left)
 .refine Tt.c (λk=>Tt.b (QlM _) λr h=>Tt.p λq=>⟨gq,λ_=>h q⟩) λ_=>?_
  iterate 3 (refine Tt.c (λk=>Tt.w (P:=λ_=>True) ?_ λ_ _ _=>Lz.k k ?_ ?_) λ_=>?_;rotate_left;rotate_left;rotate_left)
  .exact Tt.p nofun
  all_goals simp_all[Tt.p,Qe,Jo]
 all_goals repeat' first|decide|with_reducible exact Tt.p trivial|with_reducible refine Tt.c (λ_=>?_) λ_=>?_|with_reducible refine Qe ?_ λ_=>?_|with_reducible exact Jo .. |with_reducible exact pa _
theorem QnK(f:CI):Tt (λn=>J9 n f) λr=>r=0->Lz f:=by
 unfold J9 KK KJ;refine Tt.b (P:=λb=>b=AD->Lz f) ?_ λb h=>Tt.n λq=>Tt.p λ_=>h q;refine Qe (Qe (Jo ..) λ_=>Tt.z) λ_=>Tt.n λ_=>?_;refine Qe (Qe (Jo ..) λ_=>Tt.z) λ_=>Tt.n λ_=>?_;refine Qe (Jo ..) λ_=>Tt.n λ_=>?_;exact Tt.b (QjH f) λr h=>Tt.n λq=>Qe (pZ f) λ_=>Tt.p gq
theorem mJ(l:AA CI)(O:AI l<=16):Tt (λn=>Kx n l) λr=>AI r<=16/\ ∀f∈r,Lz f:=by
 unfold Kx;refine Tt.b (QJ l (λ(a:AA CI) i=>(a,i)) (λi a=>AI a<=i/\ ∀f∈a,Lz f) om (λi x a d t=>?_) (λa t=>?_) [] _ rfl sq) λr h=>Tt.p h
 .unfold MQ;have:=d.lt';simp only[d.lt,Vo,d.ix,XI,d.nx];refine Tt.b (P:=λ(m:AA CI)=>AI m<=i+1/\ ∀f∈m,Lz f) (Tt.b (QnK x) λr G=>Tt.c (λ_=>Tt.p ⟨om,t.2⟩) λq=>?_) λm B=>Tt.p ⟨m,rfl,B⟩;have V:Lz x:=G gq;refine Tt.b (Tt.find a om λj y F=>?_) λb g=>?_
  .exact Qe (Tt.o F.ix trivial) λy=>Qe (Tt.o d.ix trivial) λx=>Qe (tW y x) λ_=>Tt.z
  refine Qe (Tt.c (λh=>Qe (Tt.i g.1 (Vu h)).any λ_=>Tt.z) λ_=>Tt.z) λ_=>Tt.c (λ_=>Tt.p ⟨om,t.2⟩) λ_=>?_;refine Tt.b (Tt.sl (Int.le_refl 0) g.1 g.2) λp L=>Tt.b (Tt.a (by simp;omega)) λN E=>?_;subst E;refine Tt.b (Tt.a (by simp;omega)) λQ H=>Tt.b (Tt.sl g.1 g.2 (Int.le_refl _)) λJ T=>?_;subst H;refine Tt.b (Tt.a (by simp;omega)) λM R=>Tt.p ?_
  grind
 .unfold MQ;simp only[Y1,Vp];exact Tt.p gq
def ZE(c:CB)(l:AA AP):Prop:=∀s∈l,(0<=s.AN/\s.AN<(AI c.AO:Int))/\Di s.BK
theorem uz(c:CB)(l:AA CI)(G:AI l<=16){e:Int}(he:Ev (λn=>HL n c) e):Tt (λn=>MY n c l) λr=>AI r.1<=16/\ZE c r.1:=by
 unfold MY;have nil:AI ([]:AA AP)<=16/\ZE c []:=⟨sq,λ_ h=>nomatch h⟩;refine Qe (Tt.e he trivial) λe=>Tt.c (λ_=>Tt.p nil) λ_=>Tt.b (mJ l G) λC hC=>?_;refine Tt.b (P:=λ(a:AA AP)=>AI a<=16/\ZE c a) (QJ C (λ(a:AA AP) i=>(a,i)) (λi a=>AI a<=i/\ZE c a) om (λi x a d g=>?_) (λa g=>?_) [] _ rfl gq) λa d=>Tt.c (λ_=>Tt.p nil) λ_=>?_
 .unfold TP;have:=d.lt';simp only[d.lt,Vo,d.ix,XI,d.nx];have skip:AI a<=i+1/\ZE c a:=⟨om,g.2⟩;refine Tt.b (P:=λ(m:AA AP)=>AI m<=i+1/\ZE c m) (Tt.b (P:=λb=>b=AD->(0<=x.AP.AN/\x.AP.AN<(AI c.AO:Int))/\Di x.AP.BK) (Tt.n λM=>Tt.n λL=>Tt.w (P:=λ_=>True) (Qv <| Qe (Qr1 a _ om) λ_=>Tt.z) λ_ _ _=>?_) λb N=>Tt.c (λ_=>Tt.p skip) λq=>?_) λm F=>Tt.p ⟨m,rfl,F⟩
  .have:=Vv L;obtain⟨H,t⟩:=(hC.2 x d.mem).1 gq
   grind
  refine Tt.b (Tt.find a om λj y f=>Qe (Tt.o f.ix trivial) λy=>Tt.z) λj f=>?_;refine s? a x.AP f.1 f.2 om λm H t=>⟨om,λs J=>?_⟩;rcases t s J with h|h
  .grind
  .exact g.2 s h
 .unfold TP;simp only[Y1,Vp];exact Tt.p gq
 refine Tt.b (P:=Fo λ(r:AA AP×Int)=>r.1=[]) (QJ a (λ(_:Unit) i=>i) (λ_ _=>True) om (λi x _ hx _=>?_) (λ_ _=>?_) () _ rfl trivial) λr B=>?_
 .unfold TM;have E:=hx.lt';simp only[hx.lt,Vo,hx.nx];refine Tt.b (P:=Fo λ(r:CG Int (CG Unit (AA AP×Int)))=>r=.d (.d ([],180))) (Tt.up i om (λ(_:Unit) i=>i) (λ_ _=>True) (λj _ f hn _=>?_) (λ_ _=>?_) () _ rfl trivial) λr B=>?_
  .unfold Tz;simp only[dT ((j:Int)<(i:Int)),Vo,hn];exact Qe (Tt.i (Int.natCast_nonneg i) om).any λ_=>Qe (Tt.i (Int.natCast_nonneg j) om).any λ_=>Tt.c (λ_=>Tt.p (Q:=F0 _ _ _ _) rfl) λ_=>Tt.p ⟨(),rfl,trivial⟩
  .simp_all[Tz,Tt.p]
  .cases r with
   |k s=>exact Tt.p ⟨(),rfl,trivial⟩
   |d s=>cases B;exact Tt.p (Q:=F0 _ _ _ _) rfl
 .simp_all[TM,Tt.p]
 .cases r with
  |k s=>exact Tt.p d
  |d s=>simp_all[Tt.p]
theorem kB{α:Type}{l:AA α}{i:Int}(f:0<=i)(d:i<(AI l:Int)):Tt (λ_=>CJ l i) (λx=>x∈l/\CJ l i=AC x):=by
 obtain⟨x,⟨N,e⟩,h⟩:=Tt.i (l:=l) f d;exact⟨x,⟨N,e⟩,h,e N (XS _)⟩
def i5(l:AA CI)(r:Int):Prop:=r<(AI l:Int)/\(0<=r->∀x,CJ l r=AC x->x.AX=10)
theorem u6(l:AA CI)(a b:Int)(f:AI l<=16):Tt (λn=>IP n l a b) (i5 l):=by
 unfold IP;refine Tt.b (P:=Fo (i5 l)) (QJ l (λ(_:Unit) i=>i) (λ_ _=>True) om (λi x _ ha _=>?_) (λ_ _=>?_) () _ rfl trivial) λr d=>?_
 .unfold MM;have:=ha.lt';simp only[ha.lt,Vo,ha.ix,XI,ha.nx];refine Tt.b (P:=λb=>b=AE->x.AX=10) (Tt.c (λk=>Tt.w (P:=λ_=>True) ?_ gq) λ_=>Tt.p nofun) λb g=>Tt.c (λq=>Tt.p (Q:=F0 _ _ _ _) ?_) λ_=>Tt.p ⟨(),rfl,trivial⟩
  .simp_all[Tt.p,Tt.c]
  .refine⟨om,λ_ y hy=>?_⟩;rw[ha.ix]at hy
   grind
 .simp_all[MM,Tt.p]
 .cases r with
  |k s=>exact Tt.p ⟨om,om⟩
  |d s=>exact Tt.p d
theorem Qny(l:AA CI)(a:Int)(d:AI l<=16):Tt (λn=>KD n l a) (i5 l):=by
 unfold KD;exact Qe (u7 l a d) λ_=>Tt.c (λ_=>Tt.p ⟨om,om⟩) λ_=>Tt.b (u6 l a 2 d) λr h=>Tt.c (λ_=>Tt.p h) λ_=>Tt.b (u6 l a 1 d) λr h=>Tt.p h
theorem QpX(l:AA CI)(a:Int)(g:AI l<=16):Tt (λn=>PD n l a) λr=>r.2=AE->r.1.AX=3->Di r.1.BO:=by
 unfold PD;refine Tt.b (mJ l g) λC hC=>Tt.b (Qny C a hC.1) λr f=>Tt.n λq=>?_;have:=Vv q;exact Tt.b (kB om f.1) λx d=>Tt.p λ_=>(hC.2 x d.1).2 (f.2 om x d.2)
def OT(c:CB):Prop:=∀o∈c.Ab,Di o.BX
def pT(c:CB)(y:CF):Prop:=OT c->Di y.BX
theorem QjE(c:CB)(l:AA CI)(a:Int)(f:AI l<=16):Tt (λn=>P5 n c l a) λr=>pT c r.2.1:=by
 unfold P5;have z:∀{p l o},pT c {AT:=p,BX:=0,Ax:=l,BM:=o}:=λ{_ _ _} _=>by show Di 0;unfold Di;omega
 refine Tt.b (QpX l a f) λr m=>Tt.b (P:=Fo λ(s:Int×CF×Bool)=>pT c s.2.1) (Tt.c (λq=>Tt.c (λk=>Tt.p (Q:=Fo _) λ_=>m q (by simpa using k)) λ_=>Tt.c (λ_=>Tt.p (Q:=Fo _) z) λ_=>Tt.c (λ_=>Tt.p (Q:=Fo _) z) λ_=>Tt.c (λ_=>Tt.p (Q:=Fo _) z) λ_=>Tt.p (Q:=Fo _) trivial) λ_=>Tt.p (Q:=Fo _) trivial) λb d=>?_;cases b with
 |d s=>exact Tt.p d
 |k s=>
  refine Qe (Qnr l a f) λr=>Tt.b (P:=λb=>b=AD->0<=r.1.AZ/\r.1.AZ<(AI c.Ab:Int)) (Tt.n λ_=>Tt.n λh=>Tt.p λq=>?_) λb d=>Tt.c (λ_=>Tt.p z) λq=>?_
  .grind
  .obtain⟨t,j⟩:=d q;exact Tt.b (Tt.i t j) λo g=>Tt.p λx=>x o g
theorem QjL(c:CB)(l:AA CI)(a:Int)(h:AI l<=16){e:Int}(he:Ev (λn=>HL n c) e):Tt (λn=>Pn n c l a) λr=>AI r.2<=32/\ ∀y∈r.2,pT c y:=by
 unfold Pn;refine Qe (Tt.e he trivial) λe=>Tt.c (λ_=>Tt.p sq) λ_=>Tt.b (sf l h) λR hR=>?_;refine Tt.b (P:=λ(a:AA Int)=>AI a<=16) (QJ R (λ(a:AA Int) i=>(a,i)) (λi a=>AI a<=i) om (λi x a d f=>?_) (λa f=>?_) [] _ rfl (XS _)) λK1 h1=>Tt.b (Qp3 l h) λA hA=>?_
 .unfold TN;have:=d.lt';simp only[d.lt,Vo,d.ix,XI,d.nx];exact Tt.b (rO a _ om) λm g=>Tt.p ⟨m,rfl,om⟩
 .unfold TN;simp only[Y1,Vp];exact Tt.p ⟨_,rfl,om⟩
 refine Tt.b (P:=λ(a:AA Int)=>AI a<=32) (QJ A (λ(a:AA Int) i=>(a,i)) (λi a=>AI a<=16+i) om (λi x a d f=>?_) (λa f=>?_) K1 _ rfl om) λK2 j=>?_
 .unfold T8;have:=d.lt';simp only[d.lt,Vo,d.ix,XI,d.nx];exact Tt.b (rO a _ om) λm g=>Tt.p ⟨m,rfl,om⟩
 .unfold T8;simp only[Y1,Vp];exact Tt.p ⟨_,rfl,om⟩
 refine Tt.b (P:=λ(a:AA Int×AA CF)=>AI a.2<=32/\ ∀y∈a.2,pT c y) (QJ K2 (λ(a:AA Int×AA CF) i=>(a.1,a.2,i)) (λi a=>(AI a.1<=i/\AI a.2<=i)/\ ∀y∈a.2,pT c y) om (λi x a d f=>?_) (λa f=>?_) ([],[]) _ rfl sq) λb q=>Tt.p q
 .unfold VV;have:=d.lt';simp only[d.lt,Vo,d.ix,XI,d.nx];obtain⟨⟨t,H⟩,E⟩:=f;refine Tt.b (QjE c l x h) λr G=>Qe (Tt.k λ_=>Tt.z) λb=>?_;refine Tt.b (P:=λ(m:AA Int×AA CF)=>(AI m.1<=i+1/\AI m.2<=i+1)/\ ∀y∈m.2,pT c y) (Tt.c (λ_=>Tt.b (Tt.a (by simp;omega)) λm g=>Tt.b (Tt.a (by simp;omega)) λB j=>Tt.p ⟨⟨by subst g;simp;omega,by subst j;simp;omega⟩,λy F=>?_⟩) λ_=>Tt.p gq) λm g=>Tt.p ⟨m,rfl,g⟩
  grind
 .unfold VV;simp only[Y1,Vp];exact Tt.p gq
theorem QlL(c:CB)(l:AA CF)(M:AI l<=32)(t:∀y∈l,pT c y):Tt (λn=>O7 n l) λr=>AI r<=32/\ ∀y∈r,pT c y:=by
 unfold O7;refine Tt.b (P:=λ(a:AA CF)=>AI a<=32/\ ∀y∈a,pT c y) (QJ l (λ(a:AA CF) i=>(a,i)) (λi a=>AI a<=i/\ ∀y∈a,pT c y) om (λi x a d g=>?_) (λa g=>?_) [] _ rfl sq) λa d=>Tt.p d
 .unfold Tp;have:=d.lt';simp only[d.lt,Vo,d.ix,XI,d.nx];obtain⟨G,N⟩:=g;refine Tt.b (Tt.find a om λj y f=>Qe (Tt.o f.ix trivial) λy=>Qe (Tt.o d.ix trivial) λy=>Tt.z) λj f=>?_;refine Tt.b (Tt.sl f.1 f.2 (Int.le_refl _)) λp B=>Tt.b (Tt.a (by simp;omega)) λH E=>?_;subst E;refine Tt.b (Tt.sl (Int.le_refl 0) f.1 f.2) λL J=>Tt.b (Tt.a (by simp;omega)) λq F=>Tt.p ⟨q,rfl,?_,λy m=>?_⟩
  .grind
  .subst F;simp only[VB,Vz]at m;rcases m with h|h|h
   .grind
   .subst h;exact t _ d.mem
   grind
 .unfold Tp;simp only[Y1,Vp];exact Tt.p gq
theorem QpW{c:CB}(M:CB.wf c)(R:IF c)(l:AA CI)(b:Int)(E:AI l<=16)(he:Ev (λn=>HL n c) 0):Tt (λn=>P4 n c l b) λr=>AI r<=32/\ ∀y∈r,pT c y:=by
 unfold P4;have nil:AI ([]:AA CF)<=32/\ ∀y∈([]:AA CF),pT c y:=sq;refine Tt.b (uz c l E he) λS hS=>Tt.c (λ_=>Tt.p nil) λ_=>?_;refine Tt.b (P:=Fo λ(r:AA CF)=>AI r<=32/\ ∀y∈r,pT c y) (QJ S.1 (λ(_:Unit) i=>i) (λ_ _=>True) om (λi x _ ha _=>?_) (λ_ _=>?_) () _ rfl trivial) λr j=>?_
 .unfold UX;simp only[ha.lt,Vo,ha.ix,XI,ha.nx];refine Tt.b (P:=Fo λ(r:CG Int (CG Unit (AA CF)))=>match r with|.d (.d p)=>AI p<=32/\ ∀y∈p,pT c y|_=>False) (Qv <| ?_) λr j=>?_
  .refine Tt.b (QjL c l b E he) λC hC=>Tt.b (QlL c C.2 hC.1 hC.2) λp g=>?_;obtain⟨⟨F,N⟩,_⟩:=hS.2 x ha.mem;refine Qe (QnE M R he _) λ_=>Qe (Tt.i F N).any λd=>Qe (Tt.k λ_=>Tt.z) λroom=>?_
   .refine Tt.b (P:=λ(p:AA CF)=>AI p<=32/\ ∀y∈p,pT c y) (Tt.l (λs:AA CF×Int×Int=>(AI s.1=AI p/\0<=s.2.2/\s.2.2<=(AI p:Int))/\ ∀y∈s.1,pT c y) (λs=>((AI p:Int)-s.2.2).toNat) (λs O=>?_) (p,room,0) gq) λp g=>Tt.p g;obtain⟨X,W,B⟩:=s;obtain⟨⟨J,f,T⟩,t⟩:=O;have G:=g.1;simp only at J f T t;unfold eX;refine Tt.c (λq=>?_) λ_=>Tt.p (Q:=Fj _ _ _ _) gq;have q:=Vu q;simp only at q;have e:i64.wrap (B+1)=B+1:=Dh;refine Qe (Tt.i f q).any λy=>Tt.b (Tt.i f q) λz V=>Tt.b (Tt.set f q) λm H=>Qe (Tt.i f gq).any λw=>Tt.p (Q:=Fj _ _ _ _) ?_;show((_/\_/\_)/\_)/\_;simp only[e];refine⟨⟨gq,λv L=>?_⟩,om⟩;rcases H.2 v L with h|h
    .subst h;exact t z V
    grind
  .cases r with
   |k s=>exact Tt.p ⟨(),rfl,trivial⟩
   |d s=>
    cases s with
    |k i=>grind
    |d s=>
     cases s with
     |k u=>grind
     |d p=>exact Tt.p (Q:=F0 _ _ _ _) j
 .simp_all[UX,Tt.p]
 .cases r with
  |k s=>exact Tt.p nil
  |d s=>exact Tt.p j
def ii(c:CB)(r:vI):Prop:=r.2.2.2.2.2.2.2.2.2.2.2.2.2=AE->
 HO c/\Fh {AS:=r.1,BP:=r.2.1}/\AI r.2.2.2.2.2.2.2.2.2.2.1<=4/\AI r.2.2.2.2.2.2.2.2.2.2.2.1<=6/\(AI r.2.2.2.2.2.2.2.2.2.2.2.2.1<=32/\ ∀y∈r.2.2.2.2.2.2.2.2.2.2.2.2.1,pT c y)/\Di r.2.2.2.2.2.1
theorem Qnx(c:CB)(j:CB.wf c)(l:AA CI)(b:Int):Tt (λn=>Py n c l b) (ii c):=by
 unfold Py;obtain⟨bf,M,G⟩:=qy c j;have AF:∀{z},ii c ([],[],0,0,0,0,0,0,0,0,[],[],z,AD):=λh=>absurd h sq;refine Tt.b (P:=λb=>b=AD->HO c/\AI l<=16) (Tt.b (P:=λb=>b=AE->F1 c/\Ev (λn=>DZ n c) (CL c)) (Tt.e M G) λb q=>Tt.n λV=>Tt.n λO=>?_) λb q=>Tt.c (λ_=>Tt.p AF) λE=>?_
 .obtain⟨fo,L⟩:=q gq;obtain⟨v,ev,N⟩:=uX c j;refine Tt.b (P:=λe=>e=v) (Tt.e ev rfl) λe X=>Tt.n λW=>?_;have y:v=0:=gq;have R:=N y;have:=Vv O;exact Qe (QpV j R 10) λ_=>Tt.p λ_=>⟨⟨j,fo,L,y▸ev,R⟩,om⟩
 obtain⟨h,g⟩:=q E;refine Tt.b (Qp5 c l g h.ref) λA hA=>Tt.b (uz c l g h.ref) λS hS=>Qe (Tt.k λ_=>Tt.z) λ_=>Tt.c (λ_=>Tt.p AF) λ_=>?_;refine Tt.b (P:=Fo (ii c)) (QJ S.1 (λ(_:Unit) i=>i) (λ_ _=>True) om (λi x _ d _=>?_) (λ_ _=>?_) () _ rfl trivial) λr t=>?_
 .unfold VY;simp only[d.lt,Vo,d.ix,XI,d.nx];refine Tt.b (P:=Fo λ(r:CG Int (CG Unit vI))=>match r with|.d (.d p)=>ii c p|_=>False) (Qv <| ?_) λr t=>?_
  .refine Tt.b (m? c l x.BB g h.ref) λH hH=>Tt.b (QpW h.wf h.rr l _ g h.ref) λP hP=>Tt.b (mJ l g) λC hC=>?_;have sx:=(hS.2 x d.mem).2;have F:=hP.1;refine Tt.b (P:=λ(a:AA Ae)=>True) (QJ C (λ(a:AA Ae) i=>(a,i)) (λi a=>AI a<=i) om (λi x a d J=>?_) (λa J=>?_) [] _ rfl (XS _)) λD _=>Qe (l? P om) λe=>Tt.b (QpY h hA x e H D) λf Y=>Tt.p ?_
   .unfold U7;have:=d.lt';simp only[d.lt,Vo,d.ix,XI,d.nx];exact Qe (Tt.k λ_=>Tt.z) λ_=>Tt.b (P:=λ(m:AA Ae)=>AI m<=i+1) (Tt.c (λ_=>Tt.b (Tt.a (by simp;omega)) λm B=>Tt.p gq) λ_=>Tt.p om) λm B=>Tt.p ⟨m,rfl,B⟩
   .simp_all[U7,Tt.p]
   .intro T
    grind
  .cases r with
   |k s=>exact Tt.p ⟨(),rfl,trivial⟩
   |d s=>
    cases s with
    |k i=>grind
    |d s=>
     cases s with
     |k u=>grind
     |d p=>exact Tt.p (Q:=F0 _ _ _ _) t
 .simp_all[VY,Tt.p]
 .cases r with
  |k s=>exact Tt.p AF
  |d s=>exact Tt.p t
set_option maxRecDepth 10000
theorem Qr5:W2 300=AC true:=by kernel_rfl
theorem i?{α:Type}{f g:Nat->AB α}{v:α}(h:Ev f v)(e:∃N,∀n,N<=n->g n=f n):Ev g v:=by
 obtain⟨N,j⟩:=h;obtain⟨M,d⟩:=e;exact⟨max N M,λn m=>gq⟩
def SG(a:Int)(x:CF):Int:=i64.wrap (a+x.Ax)
def Fa(P:AA CF):Int:=P.foldl SG 0
theorem QqR(P:AA CF)(d:AI P<=1000):Ev (λn=>KH n P) (Fa P):=by
 unfold KH;refine Ea (YL P (λa x=>SG a x) 0 (λa i=>(a,(i:Int))) (λa=>a) om rfl (λi x a ha _=>?_) ?_) (Qa _)
 .unfold MG;simp only[ha.lt,Vo,ha.ix,XI,ha.nx];exact Qa _
 simp_all[MG,Qa]
def C0(c:CB)(k:CE)(s:AP)(x:AA CN)(l:AA Ae)(P:AA CF)(p:Int):Ui:={Ar:=c,Bj:=k,Ad:=s,Bw:=x,Bm:=l,BY:=P,BV:=Fa P,As:=p}
theorem QqJ(c:CB)(k:CE)(s:AP)(x:AA CN)(l:AA Ae)(P:AA CF)(p:Int)(d:AI P<=1000):Ev (λn=>Pg n c k s x l P p) (C0 c k s x l P p):=by
 unfold Pg;refine Ea (YL P (λa y=>SG a y) 0 (λa i=>({C0 c k s x l P p with BV:=a},(i:Int))) (λa=>{C0 c k s x l P p with BV:=a}) om rfl (λi y a ha _=>?_) ?_) (Qa _)
 .unfold UQ;simp only[ha.lt,Vo,ha.ix,XI,ha.nx];exact Qa _
 simp_all[UQ,Qa]
def IA(R:AA Int×Int)(p:Int):AB Int:=bif (R.2 != 0)||(AG (p< -1)||AG ((AI R.1:Int)<=p))then AF else AC (bif p== -1 then(AI R.1:Int)-1 else p)
theorem t3{q:Ui}(h:M3 q.Ar):Ev (λn=>J4 n q) (match IA (CY q.Ar q.Ad.AN q.BV) q.As with|none=>(q,90)|some p=>({q with As:=p},0)):=by
 unfold J4 IA;have f:=lw h.good h.ty q.Ad.AN q.BV;have d:(CY q.Ar q.Ad.AN q.BV).2=0->(CY q.Ar q.Ad.AN q.BV).1.length<=256:=λz=>(mb h.good z).2;generalize CY q.Ar q.Ad.AN q.BV=R at f d;refine Ea f (Ea (QQ λ_=>QQ λ_=>Qa _) ?_);cases j:((R.2 != 0)||(AG (q.As< -1)||AG ((AI R.1:Int)<=q.As)))with
 |true=>exact Qa _
 |false=>
  simp only[XW]at j;have g:R.2=0:=gq;have:=d g;refine Yd ?_;rw[QL (n:=(AI R.1:Int)-1) om om];cases(q.As== -1)with
  |true=>exact Qa _
  |false=>exact Qa _
theorem NA{c:CB}{k:CE}{s:AP}{x:AA CN}{l:AA Ae}{P:AA CF}{p:Int}{pv:AB Int}(h:Ev (λn=>J4 n (C0 c k s x l P p)) (match pv with|none=>(C0 c k s x l P p,90)|some p'=>({C0 c k s x l P p with As:=p'},0)))(hP:AI P<=100){V:AA CX×Int}(g:Ev (λn=>Kz n c k s (Fa P) x l) V){o:AA CC×Int}
  (d:Ev (λn=>(bif (bif V.2 != 0 then V.2 != 2 else AD)then AC ([],V.2)else(match(generalizing:=false) pv with
   |none=>AC ([],90)
   |some p'=>bif V.2==2 then(LC n {C0 c k s x l P p with As:=p'}).bind λr=>AC (r,0)else(iter (HM n V ({C0 c k s x l P p with As:=p'},0)) n ([],0):AB (AA CC)).bind λL=>(J7 n L).bind λr=>AC (r,0)):AB (AA CC×Int))) o):
  Ev (λn=>NJ n c k s x l P p) o:=by
 unfold NJ;refine Ea (QqJ c k s x l P p om) (Ea g (Ea (v:=bif V.2 != 0 then V.2 != 2 else AD) (JT (λ_=>Qa _) λ_=>Qa _) ?_));cases f:(bif V.2 != 0 then V.2 != 2 else AD)with
 |true=>rw[f]at d;exact d
 |false=>
  rw[f]at d;refine Yd (Ea h ?_);cases pv with
  |none=>exact d
  |some p'=>exact d
theorem qE{q:Ui}(f:Ev (λn=>DZ n q.Ar) (CL q.Ar))(h:CL q.Ar≠0):Ev (λn=>J4 n q) (q,90):=by
 unfold J4 MC Hm Ir;have d:(CL q.Ar != 0)=true:=bne_iff_ne.2 h;refine Ea (v:=([],CL q.Ar)) (Ea (v:=(CL q.Ar,[])) (Ea (v:=CS.c0 (CL q.Ar)) (Ea (v:=(Uu,CL q.Ar)) (Ea f (Kh d (Qa _))) (Kh d (Qa _))) (Qa _)) (Kh d (Qa _))) (Ea (v:=AE) (Kh d (Qa _)) (Qa _))
theorem rE{c:CB}(h:HO c)(hE:CL c≠0){k:CE}(j:Fh k)(s:AP)(e:Int)(x:AA CN)(t:AI x<=4)(l:AA Ae)(m:AI l<=6):Ev (λn=>Kz n c k s e x l) ([],CL c):=by
 unfold Kz;have f:(CL c != 0)=true:=bne_iff_ne.2 hE;have g:D1 c k s e x l=.inl (CL c):=by unfold D1;rw[f];rfl
 have d:=dZ h.ty (λq=>absurd q hE) j s e x om l om;rw[g]at d;exact Ea d (Kh f (Qa _))
theorem sk(q:Ui)(hP:AI q.BY<=100):Tt (λn=>LC n q) λ_=>True:=by
 unfold LC;exact Qe (Tt.e (rC _ _ om) trivial) λ_=>Tt.c (λ_=>Qe (Tt.z) λ_=>Tt.z) λ_=>Qe (Tt.z) λ_=>Tt.z
theorem _d{R:AA Int×Int}{p d:Int}(h:IA R p=AC d)(f:2<=AI R.1):0<=d/\d=(bif p== -1 then(AI R.1:Int)-1 else p):=by
 unfold IA at h
 grind
set_option maxRecDepth 10000
abbrev C7(c:CB)(w:AA Aw):CB:={c with Ap:=w}
section
variable {n:Nat} {c:CB} {w:AA Aw}
theorem QpK(h:DZ n (C7 c w)=DZ n c)(d e:Int):MC n (C7 c w) d e=MC n c d e:=by
 unfold MC Hm Ir;rw[h];rfl
theorem QrK(h:DZ n (C7 c w)=DZ n c)(x:AA CN):J6 n (C7 c w) x=J6 n c x:=by
 unfold J6;rw[h];rfl
theorem Z6(h:DZ n (C7 c w)=DZ n c)(s:CD)(t:Int):Hg n (C7 c w) s t=Hg n c s t:=by
 unfold Hg;rw[h];rfl
theorem QrJ(h:DZ n (C7 c w)=DZ n c)(k:CE)(a:Int)(s:CK):It n (C7 c w) k a s=It n c k a s:=by
 unfold It;rw[h];rfl
theorem pc(h:DZ n (C7 c w)=DZ n c)(d:AI w=AI c.Ap)(k:CE)(s:AP)(e:Int)(x:AA CN)(l:AA Ae):K0 n (C7 c w) k s e x l=K0 n c k s e x l:=by
 have f:F_ n (C7 c w) k x=F_ n c k x:=by
  funext s
  simp_all[F_,Z6]
 have g:∀r b m,IL n (C7 c w) k x r b m=IL n c k x r b m:=λ_ _ _=>rfl
 simp_all[K0,QpK,QrK]
theorem pd(h:DZ n (C7 c w)=DZ n c)(a:Uh)(p i:Int)(k:CE)(r:AA Int)(s:AA CK)(H:AA CN)(T:AA Ue)(hi:Int)(m:AA (Int×Ue))(d:CE):IO n a p i (C7 c w) k r s H T hi m (C7 c w) d=IO n a p i c k r s H T hi m c d:=by
 have t:∀a b,J_ n a b (C7 c w) d (C7 c w) k r s H T hi m=J_ n a b c d c k r s H T hi m:=λa b=>by
  simp_all[J_,QrJ]
 unfold IO;simp only[t];rfl
theorem Z7(h:DZ n (C7 c w)=DZ n c)(W:CX)(k:CE)(r:AA Int)(s:AA CK)(H:AA CN)(T:AA Ue)(hi:Int)(m:AA (Int×Ue))(d:CE):IQ n W (C7 c w) k r s H T hi m (C7 c w) d=IQ n W c k r s H T hi m c d:=by
 have f:Ha n W (C7 c w) k r s H T hi m (C7 c w) d=Ha n W c k r s H T hi m c d:=by
  funext z
  simp_all[Ha,pd]
 unfold IQ;rw[f]
theorem QpL(h:DZ n (C7 c w)=DZ n c)(d:AI w=AI c.Ap)(k:CE)(s:AP)(e:Int)(x:AA CN)(l:AA Ae)(W:CX)(p:Int):Hj n (C7 c w) k s e x l W p=Hj n c k s e x l W p:=by
 unfold Hj;rw[pc h d];simp only[Z7 h];rfl
end
theorem oy{c:CB}{w:AA Aw}{N:Nat}(h:∀m,N<=m->DZ m (C7 c w)=DZ m c){a7:Int}(h7:a7<=1000)(a9:AA CN)(k:CE)(r:AA Int)(s:AA CK)(H:AA CN)(T:AA Ue)(hi:Int)(m:AA (Int×Ue))(k2:CE):
  ∀(n:Nat) (a1:Int) (st:Uh) (b:Bool) (a4:Int) (a5:AA CX) (a8:AA Int) (a10:AA Bool) (u v:AA (Int×Int)),0<=a1->a1<=a7->N+(a7-a1).toNat<=n->
   J1 n a1 st b a4 a5 (C7 c w) a7 a8 a9 a10 (C7 c w) k r s H T hi u v m (C7 c w) k2=J1 n a1 st b a4 a5 c a7 a8 a9 a10 c k r s H T hi u v m c k2
 |0,_,_,_,_,_,_,_,_,_,_,_,_=>rfl
 |n+1,a1,st,b,a4,a5,a8,a10,u,v,h0,h1,hn=>by
  show NM (J1 n) n a1 st b a4 a5 (C7 c w) a7 a8 a9 a10 (C7 c w) k r s H T hi u v m (C7 c w) k2=NM (J1 n) n a1 st b a4 a5 c a7 a8 a9 a10 c k r s H T hi u v m c k2;by_cases e:a1=a7
  .simp_all[NM]
  .have hs:=pd (h n om);have wr:i64.wrap (a1+1)=a1+1:=Dh;have hr:∀(st:Uh) (b:Bool) (a4:Int) (a5:AA CX) (a8:AA Int) (a10:AA Bool) (u v:AA (Int×Int)),J1 n (a1+1) st b a4 a5 (C7 c w) a7 a8 a9 a10 (C7 c w) k r s H T hi u v m (C7 c w) k2=J1 n (a1+1) st b a4 a5 c a7 a8 a9 a10 c k r s H T hi u v m c k2:=λst b a4 a5 a8 a10 u v=>oy h h7 a9 k r s H T hi m k2 n (a1+1) st b a4 a5 a8 a10 u v om om om;have l1:∀x,K6 n a1 st (C7 c w) a7 a9 (C7 c w) k r s H T hi m (C7 c w) k2 (J1 n) x=K6 n a1 st c a7 a9 c k r s H T hi m c k2 (J1 n) x:=λx=>by
    funext z
    unfold K6;simp only[hs,wr,hr]
   unfold NM;simp only[hs,wr,hr,l1]
theorem QrI{n N:Nat}{c:CB}{w:AA Aw}(h:∀m,N<=m->DZ m (C7 c w)=DZ m c)(g:AI w=AI c.Ap)(j:N+1000<=n){k:CE}{s:AP}{e:Int}{x:AA CN}{l:AA Ae}{t:Int ⊕ Ck}(d:K0 n c k s e x l=AC (Fw t))(f:∀t',t=.inr t'->AI t'.r<=256):Kz n (C7 c w) k s e x l=Kz n c k s e x l:=by
 unfold Kz;rw[pc (h n om) g,d];cases t with
 |inl v=>rfl
 |inr t=>
  have q:=f t rfl;simp only[XI,Fw];simp only[oy h (a7:=(AI t.r:Int)) om _ _ _ _ _ _ _ _ _ n 0 _ _ _ _ _ _ _ _ (Int.le_refl 0) om om]
theorem j8{c:CB}{w:AA Aw}(B:AI w=AI c.Ap)(F:w.map (·.An)=c.Ap.map (·.An))(j:MB c)(g:MB (C7 c w)):CL (C7 c w)=CL c:=by
 have f:D6 (C7 c w)=D6 c:=by
  unfold D6
  grind
 have m:FQ (C7 c w)=FQ c:=by
  unfold FQ
  grind
 have e:∀{l:AA Aw},(∀x∈l,0<=x.Bv/\x.Bv<=1099511627776)->(l.all λw=>DE 0 1099511627776 w.Bv)=true:=λ{l} h=>Xs.2 λx E=>by
  simp_all[DE]
 have k:Cp (C7 c w)=Cp c:=by
  unfold Cp;simp only[e j,e (l:=w) g];rfl
 have t:∀(r:AA Int) (n i:Nat) (p:Int),FD (C7 c w) n i p r=FD c n i p r:=λr=>by
  induction r with
  |nil=>intros;rfl
  |cons a r q=>
   intro n i p;unfold FD;rw[q];rfl
 have y:Dc (C7 c w)=Dc c:=by
  funext d
  unfold Dc HC;simp only[t];rfl
 unfold CL
 grind
theorem HO.w{c:CB}{w:AA Aw}(h:HO c)(q:AI w=AI c.Ap)(d:CB.wf (C7 c w))(f:Ev (λn=>HL n (C7 c w)) 0)(m:IF (C7 c w)):HO (C7 c w):=by
 have few:F1 (C7 c w):=⟨by have:=h.few.lens;grind[KU],h.few.name,h.few.dist,h.few.ties⟩;obtain⟨j,g⟩:=iD d;exact⟨d,few,th _ (YN d) (Ji d) few j g,f,m⟩
theorem QjX(n:Int):Qq .i64 (i64.wrap n):=by
 have a:IntKind.i64.min= -9223372036854775808:=by decide
 have b:IntKind.i64.max=9223372036854775807:=by decide
 unfold Qq;rw[a,b,mF];omega
theorem Qna(a g u b:Int):i64.wrap (i64.wrap (a-i64.wrap (g+b))+u)=i64.wrap (i64.wrap (i64.wrap (a-g)+u)+i64.wrap (0-b)):=by
 simp only[mF];omega
theorem QnX{s a x g G u b:Int}(h:G=i64.wrap (g+b)):({BM:=AD,BS:=s,Lo:=i64.wrap (i64.wrap (a-G)+u),Hi:=i64.wrap (i64.wrap (x-G)+u)}:CC)=Fi (i64.wrap (0-b)) {BM:=AD,BS:=s,Lo:=i64.wrap (i64.wrap (a-g)+u),Hi:=i64.wrap (i64.wrap (x-g)+u)}:=by
 simp_all[Fi,Qna]
theorem bE{α β γ:Type}{L:β}{L':γ}{x x':AB α}{f:α->AB β}{d:α->AB γ}(g:x'=x)(h:∀v,x=AC v->f v=AC L->d v=AC L')(e:x.bind f=AC L):x'.bind d=AC L':=by
 subst g;cases x' with
 |none=>cases e
 |some v=>grind
theorem _X{n:Nat}{q:Ui}{W:CX}{w:AA Aw}{b:Int}{x:AN}{L:AA CC}{v f:Aw}(h:DZ n (C7 q.Ar w)=DZ n q.Ar)(J:AI w=AI q.Ar.Ap)(m:CJ q.Ar.AO q.Ad.AN=AC x)(B:x.A9=1)(M:x.Aq=[])(G:CJ q.Ar.Ap q.Ad.Aw=AC v)(g:CJ w q.Ad.Aw=AC f)(hg:f.Bv=i64.wrap (v.Bv+b))(e:Hh n q W=AC L):Hh n {q with Ar:=C7 q.Ar w} W=AC (L.map (Fi (i64.wrap (0-b)))):=by
 have of:∀q:Ui,Hh n q W=(KB n q.BY q.As).bind (ofK n q W):=λq=>_W n q q.BY W;have t:∀(n:Nat) (q:Ui),JZ n q W x (AD,AD,0)=AC (.d (AD,AD)):=λn q=>by
  simp_all[JZ]
 have d:Iq n {q with Ar:=C7 q.Ar w} W=Iq n q W:=by
  unfold Iq;show(CJ q.Ar.AO q.Ad.AN).bind _=(CJ q.Ar.AO q.Ad.AN).bind _;rw[m];cases n with
  |zero=>rfl
  |succ n=>
   show(iter (JZ (n+1) {q with Ar:=C7 q.Ar w} W x) (n+1) (AD,AD,0):AB (Bool×Bool)).bind _=(iter (JZ (n+1) q W x) (n+1) (AD,AD,0):AB (Bool×Bool)).bind _;unfold iter;rw[t,t]
 have j:G6 n {q with Ar:=C7 q.Ar w} W q.As=G6 n q W q.As:=by
  unfold G6;show(Hj n (C7 q.Ar w) q.Bj q.Ad q.BV q.Bw q.Bm W q.As).bind _=_;rw[QpL h J]
 have F:Lc n q W=AC {Lo:=v.Bv,Hi:=v.Bv}:=by
  unfold Lc He;rw[G];rfl
 have E:Lc n {q with Ar:=C7 q.Ar w} W=AC {Lo:=f.Bv,Hi:=f.Bv}:=by
  unfold Lc He;show((CJ w q.Ad.Aw).bind _).bind _=_;rw[g];rfl
 rw[of]at e⊢;refine bE rfl (λu _ e=>?_) e;unfold ofK at e⊢;refine bE rfl (λ_ _=>cK (bK λ_=>oF) (bE d λl _=>cK (bK λ_=>oF) (bE j λr _=>bK λ_=>bE rfl λy H=>?_))) e;cases H.symm.trans m;rw[show(x.A9==0)=AD by rw[B];rfl,show(x.A9==1)=AE by rw[B];rfl];simp only[Vp,Vo];rw[F,E];refine cK (bK λ_ e=>?_) λe=>?_
 iterate 2 cases e;rw[QnX hg];rfl
end Go.Sw
