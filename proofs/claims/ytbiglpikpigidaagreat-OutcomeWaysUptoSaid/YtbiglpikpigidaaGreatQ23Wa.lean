/- The plain laws that a law needs, with no program in sight. -/
import Derived.Test.YtbiglpikpigidaaGreatW23Wa
set_option linter.unusedVariables false
set_option linter.unusedSimpArgs false
namespace Go.Sw
open Option renaming some→AC,none→AF
open Bool renaming false→AD,true→AE
open Decidable renaming decide→AG
open List renaming length→AI
open Go renaming Value→AL
open List(map)
open Int(toNat)
open Go.IntKind(i64 u64 u8)
theorem Dx{n:Int}(d: -9223372036854775808<=n:=by omega)(h1:n<=9223372036854775807:=by omega):i64.wrap n=n:=QI d h1
theorem dT(p:Prop)[Decidable p](h:p:=by omega):AG p=true:=JA h
theorem dF(p:Prop)[Decidable p](h:¬p:=by omega):AG p=false:=YO h
def DG(lo hi x:Int):Bool:=AG (lo<=x)&&AG (x<=hi)
theorem tM(lo hi:Int)(l:AA Int)(d:AI l<=4611686018427387904):Ev (λn=>FQ n lo hi l) (l.all (DG lo hi)):=by
 have h:Ev (λn=>Wt n l lo hi) (l.any λx=> !DG lo hi x):=by
  refine Ev.contains l _ (λn x=>WV n x lo hi) d λx _=>?_;refine Ea ((QR λh=>Qa _).eq ?_) (Qa _);unfold DG
  grind
 refine Ea h ((Qa _).eq ?_)
 grind
def jL(c:Nat):Bool:=(AG (97<=c)&&AG (c<=122))||(AG (48<=c)&&AG (c<=57))||AG (c=95)
def R4(c:Nat):Bool:=AG (97<=c)&&AG (c<=122)
def Mz(c:UInt8):Bool:=jL c.toNat
def Y_(c:UInt8):Bool:=R4 c.toNat
def gB:AA (AA UInt8):=[[99,111,117,114,115,101],[109,97,116,115],[115,116,97,114,116],[112,97,115,115],[101,110,100],[108,101,103],[116,111],[100,105,115,116,97,110,99,101],[103,117,110],[99,104,105,112],[115,108,111,116],[108,97,112,115],[108,97,112],[99,117,116,111,102,102],[101,120,116,114,97],[119,97,118,101],[111,102,102,101,110,99,101],[111,117,116],[99,97,116,101,103,111,114,121],[112,114,105,122,101],[97,108,108],[116,105,101,115],[105,102],[101,108,115,101],[97,110,100],[111,114],[110,111,116],[111,108,100,101,114],[121,111,117,110,103,101,114],[98,105,98],[100,114,97,119],[102,105,101,108,100],[115,104,111,114,116],[102,97,117,108,116,115],[109,105,115,115,101,115],[115,116,114,97,121,115],[119,105,110,100,111,119],[114,101,115,105,100,117,97,108],[100,114,105,102,116],[112,114,111,116,101,115,116],[102,101,101],[100,101,97,100,108,105,110,101]]
def KJ:AA UInt8->AA (AA UInt8)
 |[]=>[]
 |b::l=>(bif b==32&& !(l.dropWhile λc=>c != 32).isEmpty then[l.takeWhile λc=>c != 32]else[])++KJ l
theorem uc:∀(l s:AA UInt8),(∀c∈s,c≠32)->(s++[32]).isPrefixOf l=((l.takeWhile λc=>c != 32)==s&& !(l.dropWhile λc=>c != 32).isEmpty)
 |[],s,h=>sq
 |b::l,[],h=>by
  by_cases e:b=32
  .subst e;simp
  .have e1:=by simpa using e
   have d:(32==b)=false:=gq;simp[List.isPrefixOf,e1,d]
 |b::l,c::s,h=>by
  have g:=h c sq;have f:=uc l s gq
  grind[List.takeWhile_cons,List.dropWhile_cons]
theorem Qgr(b:UInt8)(l t:AA UInt8)(d:t≠[]):Lib.contains (b::l) t=(t.isPrefixOf (b::l)||Lib.contains l t):=by
 unfold Lib.contains;rw[show Lib.index (b::l) t=if t.isPrefixOf (b::l)then 0 else if Lib.index l t== -1 then-1 else Lib.index l t+1 from rfl]
 grind
theorem vC(s:AA UInt8)(h:∀c∈s,c≠32):∀l,Lib.contains l (32::(s++[32]))=(KJ l).contains s
 |[]=>by rfl
 |b::l=>by
  rw[Qgr b l _ sq,vC s h l];simp only[KJ,List.isPrefixOf,uc l s h]
  grind
def Iv:AA UInt8:=[32,99,111,117,114,115,101,32,109,97,116,115,32,115,116,97,114,116,32,112,97,115,115,32,101,110,100,32,108,101,103,32,116,111,32,100,105,115,116,97,110,99,101,32,103,117,110,32,99,104,105,112,32,115,108,111,116,32,108,97,112,115,32,108,97,112,32,99,117,116,111,102,102,32,101,120,116,114,97,32,119,97,118,101,32,111,102,102,101,110,99,101,32,111,117,116,32,99,97,116,101,103,111,114,121,32,112,114,105,122,101,32,97,108,108,32,116,105,101,115,32,105,102,32,101,108,115,101,32,97,110,100,32,111,114,32,110,111,116,32,111,108,100,101,114,32,121,111,117,110,103,101,114,32,98,105,98,32,100,114,97,119,32,102,105,101,108,100,32,115,104,111,114,116,32,102,97,117,108,116,115,32,109,105,115,115,101,115,32,115,116,114,97,121,115,32,119,105,110,100,111,119,32,114,101,115,105,100,117,97,108,32,100,114,105,102,116,32,112,114,111,116,101,115,116,32,102,101,101,32,100,101,97,100,108,105,110,101,32]
theorem _q:KJ Iv=gB:=by decide+kernel
def Dv:AA Int:=(List.range 256).map λi=>if 97<=i/\i<=122\/65<=i/\i<=90 then 2 else if 48<=i/\i<=57 then 3 else if i∈[123,125,40,41,91,93,59,44,61,60,62]then 4 else if i∈[32,9,10,13]then 1 else 0
theorem Qkc:Ev Pv Dv:=by
 unfold Pv;refine Ea (iZ (step:=MG 0) 40 (b:=(iter (MG 0) 40 (List.replicate 256 0,97)).getD []) (by decide+kernel)) ?_;refine Ea (iZ (step:=OA 0) 40 (b:=(iter (OA 0) 40 ((iter (MG 0) 40 (List.replicate 256 0,97)).getD [],48)).getD []) (by decide+kernel)) ?_;generalize hb:(iter (OA 0) 40 ((iter (MG 0) 40 (List.replicate 256 0,97)).getD [],48)).getD []=b2;refine Ea (iZ (step:=UX 0) 40 (b:=(iter (UX 0) 40 (b2,0)).getD []) (by subst hb;decide+kernel)) ?_;refine Ea (iZ (step:=ez 0) 40 (b:=Dv) (by subst hb;decide+kernel)) ?_;exact EA (by decide+kernel)
theorem QmO:((List.range 256).all λi=> !jL i||AG (Dv[i]?=AC (if R4 i then 2 else if i=95 then 0 else 3)))=true:=by decide+kernel
theorem Qpg{c:UInt8}(h:Mz c=AE):L0 256 Dv (c.toNat:Int)=AC (if Y_ c then 2 else if c.toNat=95 then 0 else 3):=by
 have d:=Xs.1 QmO c.toNat (List.mem_range.2 c.toNat_lt);unfold Mz at h;rw[h]at d;simp[Xg,Bool.false_or,Vq]at d;unfold L0;rw[show Nat.beq (AI Dv) 256=AE by decide+kernel,Vo,QA d];rfl
def D3(s:AA UInt8):Bool:=AG (1<=AI s)&&AG (AI s<=24)&&(s.head?).any Y_&&s.all Mz
def Dl(s:AA UInt8):Bool:=D3 s&& !gB.contains s
theorem Qmz(s:AA UInt8)(h:D3 s=AE):Ev (λn=>Pe n s) true:=by
 unfold D3 at h;simp only[XV,Vq,Xs]at h;obtain⟨⟨⟨f,q⟩,t⟩,g⟩:=h;unfold Pe;refine Ea Qkc ?_;refine YP (v:=List.replicate 256 0) (by decide+kernel) ?_;refine YP (v:=Dv) (by decide+kernel) ?_;refine Ea (v:=CF.k ()) (Ev.iter (λi=>(i:Int)) (AI s) rfl (λi m=>?_) ?_) ?_
 .have d:=Y6 (x:=s[i]) om (XJ m);have j:=g _ d.mem;unfold U';simp only[d.lt,Vo,d.ix,XI,Qpg j,d.nx];cases i with
  |zero=>
   have:Y_ s[0]=true:=by
    cases s with
    |nil=>simp at f
    |cons c r=>grind
   simp[this];exact Qa _
  |succ i=>
   grind[Qa]
 .simp_all[U',Qa]
 .refine EA ?_;cases s with
  |nil=>simp at f
  |cons c r=>rfl
theorem Qms{s:AA UInt8}(h:D3 s=AE):∀c∈s,c≠32:=by
 unfold D3 at h;simp[XV,Xs]at h;rintro c d rfl;exact absurd (h.2 _ d) (by decide)
theorem Qox{s:AA UInt8}(h:D3 s=AE):AI s<=24:=by
 simp_all[D3]
theorem Qke(s:AA UInt8)(h:D3 s=AE):Ev (λn=>Ww n s) (gB.contains s):=by
 refine Ea (Ea (Qmz s h) (Rb ?_)) (Qa _);have d:=Qox h;refine YP (by unfold cat;rw[XR (by simp;omega)];rfl) (YP (by unfold cat;rw[XR (by simp;omega)];rfl) ?_);refine YP ?_ (Qa _);show dY Iv ([32]++s++[32])=AC (gB.contains s);unfold dY;rw[show Nat.blt (AI Iv) 4294967281=AE by decide+kernel,Vo]
 grind[vC,Qms,_q]
theorem cZ(c:UInt8)(k:Nat):AG ((c.toNat:Int)<(k:Int))=AG (c.toNat<k):=by
 simp
theorem c_(c:UInt8):(bif (c.toNat:Int)<97 then(bif (c.toNat:Int)<48 then AC ((c.toNat:Int) != 95)else(bif 57<(c.toNat:Int) then AC ((c.toNat:Int) != 95)else AC AD))else(bif 122<(c.toNat:Int) then(bif (c.toNat:Int)<48 then AC ((c.toNat:Int) != 95)else(bif 57<(c.toNat:Int) then AC ((c.toNat:Int) != 95)else AC AD))else AC AD))=AC (!Mz c):=by
 unfold Mz jL;generalize c.toNat=k;have e:((k:Int) != 95)= !decide (k=95):=by
  grind
 grind
theorem Qmh(n:Nat)(s:AA UInt8):(bif (AI s:Int)<1 then AC AE else(bif 24<(AI s:Int) then AC AE else(CI s 0).bind λx10=>(bif (x10.toNat:Int)<97 then AC AE else(CI s 0).bind λx12=>AC (AG (122<(x12.toNat:Int))))))=AC (!(AG (1<=AI s)&&AG (AI s<=24)&&(s.head?).any Y_)):=by
 cases s with
 |nil=>rfl
 |cons c r=>
  by_cases h:AI (c::r)<=24
  .rw[YO (show¬24<(AI (c::r):Int)by omega),Vp];have g:CI (c::r) 0=AC c:=rfl;simp[g,XI];simp[XZ]at h;have j:AI r<=23:=om;simp[List.head?_cons,Option.any_some,Y_,R4];rw[show(97:Int)=(97:Nat)from rfl,cZ];by_cases d:c.toNat<97
   .grind
   .have f:97<=c.toNat:=by omega
    simp[d,f,j];by_cases q:c.toNat<=122
    iterate 2 grind
  grind
theorem tz(s:AA UInt8)(j:AI s<=1048576):Ev (λn=>HL n s) (Dl s):=by
 refine Ea (EA (Qmh 0 s)) ?_;unfold Dl;cases h:(AG (1<=AI s)&&AG (AI s<=24)&&(s.head?).any Y_)with
 |false=>
  have:D3 s=false:=by unfold D3;rw[h];rfl
  rw[this];exact Qa _
 |true=>
  have g:D3 s=s.all Mz:=by unfold D3;rw[h];rfl
  refine Ea (ip s (λc=> !Mz c) (λi=>(i:Int)) (CF.d AD) (CF.k ()) om rfl (λi x d f=>?_) (λi x d f=>?_) ?_) ?_
  .unfold OC;simp only[d.lt,d.ix,XI,c_,f,d.nx];exact Qa _
  .unfold OC;simp only[d.lt,d.ix,XI,c_,f];exact Qa _
  .simp_all[OC,Qa]
  .rw[g];have e:s.any (λc=> !Mz c)= !s.all Mz:=gq;rw[e];cases q:s.all Mz with
   |true=>
    exact Ea (Qke s (g.trans q)) (Qa _)
   |false=>
    exact Qa _
def De:AA (AA UInt8)->AA (AA UInt8)->Bool
 |_,[]=>AE
 |seen,x::r=>Dl x&& !seen.contains x&&De (seen++[x]) r
theorem Qkh(l:AA (AA UInt8))(i:Nat)(x:AA UInt8)(h:At l i x):De (l.take i) (l.drop i)=(Dl x&& !(l.take i).contains x&&De (l.take (i+1)) (l.drop (i+1))):=by
 rw[h.drop,h.take];rfl
theorem dz{α:Type}(l:AA α)(d:α->AA UInt8)(g:Nat->α->AB Unit)(hg:∀n x,g n x=AC ())(E:AI l<=1048576)(y:∀x∈l,AI (d x)<=1048576):
  Ev (λn=>((iter (λs:(AA (AA UInt8×Bool))×Int=>bif s.2<(AI l:Int) then(CI l s.2).bind λx35=>(g n x35).bind λr36=>((HL n (d x35)).bind λr42=>(bif (!r42)then AC AE else(AC (Qn s.1 (d x35) AD)).bind λv44=>AC v44):AB Bool).bind λb40=>(bif b40 then AC (.d (.d AD))else(AC (QK s.1 (d x35) AE)).bind λm46=>AC (.k (m46,i64.wrap (s.2+1))))else AC (.d (.k ()))) n ([],0):AB (CF Unit Bool)).bind λb28=>
   match b28 with
   |.k _=>AC AE
   |.d s=>AC s:AB Bool)) (De [] (l.map d)):=by
 have m:AI l<=4611686018427387904:=om;have q:AI (l.map d)<=4611686018427387904:=gq;have j:=um (B:=CF Unit Bool) l (step:=λn s=>bif s.2<(AI l:Int) then(CI l s.2).bind λx35=>(g n x35).bind λr36=>((HL n (d x35)).bind λr42=>(bif (!r42)then AC AE else(AC (Qn s.1 (d x35) AD)).bind λv44=>AC v44)).bind λb40=>(bif b40 then AC (.d (.d AD))else(AC (QK s.1 (d x35) AE)).bind λm46=>AC (.k (m46,i64.wrap (s.2+1))))else AC (.d (.k ())))
  (λi=>(YF d AE (l.take i),i)) (λi=>bif De ((l.map d).take i) ((l.map d).drop i)then .k ()else .d AD) m rfl (λi x h=>?_) ?_
 .refine Ea j ?_
  grind[Qa]
 .have ha2:=Y6 q (by rw[Xo,h.get];rfl);simp only[Qkh _ _ _ ha2];have f:Ev (λn=>(HL n (d x)).bind λr42=>(bif (!r42)then AC AE else(AC (Qn (YF d AE (l.take i)) (d x) AD)).bind λv44=>AC v44)) (!(Dl (d x)&& !((l.map d).take i).contains (d x))):=by
   refine Ea (tz (d x) (y x h.mem)) ?_;cases Dl (d x)with
   |false=>exact Qa _
   |true=>
    simp_all[Qa,uZ]
  cases t:(Dl (d x)&& !((l.map d).take i).contains (d x))with
  |true=>
   rw[t]at f;refine .inl ⟨?_,sq⟩;simp only[h.lt,h.ix,XI,hg];refine Ea f ?_;simp[h.nx];rw[h.take,Qhu];exact Qa _
  |false=>
   rw[t]at f;refine .inr ?_;simp only[h.lt,h.ix,XI,hg];refine Ea f ?_;exact Qa _
 .simp[Jf];rw[show(l.map d).drop (AI l)=[]by simp];exact Qa _
theorem gj{α:Type}{l:AA α}{x:α}(h:AI l<=140737488):app l [x]=AC (l++[x]):=lO l x om
theorem tx{α β:Type}(l:AA α)(f:α->β)(m:AI l<=140737488):Ev (λn=>iter (λs:(AA β)×Int=>bif s.2<(AI l:Int) then(CI l s.2).bind λx15=>(app s.1 [f x15]).bind λl16=>AC (CF.k (l16,i64.wrap (s.2+1)))else AC (CF.d s.1)) n (([]:AA β),(0:Int))) (l.map f):=by
 have e:∀l:AA α,l.foldl (λa x=>a++[f x]) []=l.map f:=by
  intro l;have h:∀(l:AA α) (a:AA β),l.foldl (λa x=>a++[f x]) a=a++l.map f:=by
   intro l
   induction l with
   |nil=>simp
   |cons x l j=>grind
  grind
 rw[<- e l];refine Q9 l (λa x=>a++[f x]) [] (λa i=>(a,(i:Int))) (λa=>a) om rfl (λi x a g d=>?_) ?_
 .rw[e]at d;have:AI a<=140737488:=gq;simp only[g.lt,g.ix,gj this,g.nx];exact Qa _
 .simp[Jf];exact Qa _
def Hy(c:CA):Bool:=Dl c.Ao&&(De [] (c.Ar.map (·.Ao))&&(De [] (c.AP.map (·.Ao))&&(De [] (c.A0.map (·.Ao))&&(De [] (c.Ab.map (·.Ao))&&De [] (c.AV.map (·.Ao))))))
structure C2 (c:CA):Prop where
 name:AI c.Ao<=1048576
 mats:AI c.Ar<=1048576
 matsN:∀x∈c.Ar,AI x.Ao<=1048576
 legs:AI c.Az<=1048576
 dist:AI c.AP<=1048576
 distN:∀x∈c.AP,AI x.Ao<=1048576
 cut:∀x∈c.AP,AI x.Aq<=1048576
 wave:AI c.A0<=1048576
 waveN:∀x∈c.A0,AI x.Ao<=1048576
 off:AI c.Ab<=1048576
 offN:∀x∈c.Ab,AI x.Ao<=1048576
 cat:AI c.AV<=1048576
 catN:∀x∈c.AV,AI x.Ao<=1048576
 prize:AI c.Ay<=1048576
theorem QoT(c:CA)(w:C2 c):Ev (λn=>Wv n c) (Hy c):=by
 refine Ea (Ea (tz c.Ao w.name) (Eh λ_=>?_)) (Qa _);have g:Ev (λn=>WZ n c.Ar) (De [] (c.Ar.map (·.Ao))):=by exact dz c.Ar (·.Ao) WJ (λ_ _=>rfl) w.mats w.matsN
 have d:Ev (λn=>WR n c.AP) (De [] (c.AP.map (·.Ao))):=by exact dz c.AP (·.Ao) Wj (λ_ _=>rfl) w.dist w.distN
 have h:Ev (λn=>V3 n c.A0) (De [] (c.A0.map (·.Ao))):=by exact dz c.A0 (·.Ao) WB (λ_ _=>rfl) w.wave w.waveN
 have f:Ev (λn=>V9 n c.Ab) (De [] (c.Ab.map (·.Ao))):=by exact dz c.Ab (·.Ao) WQ (λ_ _=>rfl) w.off w.offN
 have j:Ev (λn=>WS n c.AV) (De [] (c.AV.map (·.Ao))):=by exact dz c.AV (·.Ao) Wi (λ_ _=>rfl) w.cat w.catN
 refine Ea g (Eh λ_=>(Ea d (Eh λ_=>?_)));refine Ea h (Eh λ_=>?_);exact Ea f (Eh gq)
theorem Zt{n:Nat}(h:n<=1048576):i64.wrap ((n:Int)-1)=(n:Int)-1:=Dx
theorem pI(x lo hi:Int):Ev (λn=>G9 n x lo hi) (DG lo hi x):=by
 exact Ea (Eh λ_=>Qa _) (Qa _)
theorem _h(c:CA)(w:C2 c)(x:Int):Ev (λn=>LY n c x) (DG 0 ((AI c.Ar:Int)-1) x):=by
 unfold LY;rw[Zt w.mats];exact Ea (pI _ _ _) (Qa _)
mutual
def Ru:CG->Nat
 |⟨_,_,ps⟩=>1+Cc ps
def Cc:AA CG->Nat
 |[]=>0
 |p::r=>Ru p+Cc r
end
theorem YS(p:CG):Ru p=1+Cc p.Ad:=by cases p;rfl
theorem Y7{p:CG}:∀{l:AA CG},p∈l->Ru p<=Cc l
 |q::r,h=>by
  simp[Cc];rcases X6.1 h with rfl|h
  .omega
  .have:=Y7 h;omega
mutual
def Fx(k:Int):CG->Bool
 |⟨m,laps,ps⟩=>bif laps==0 then DG 0 k m&&((AI ps:Int)==0)else DG 1 64 laps&&((m==0)&&(AG (0<(AI ps:Int))&&Cu k ps))
def Cu(k:Int):AA CG->Bool
 |[]=>AE
 |p::r=>Fx k p&&Cu k r
end
theorem Zq(k:Int)(p:CG):Fx k p=bif p.As==0 then DG 0 k p.Al&&((AI p.Ad:Int)==0)else DG 1 64 p.As&&((p.Al==0)&&(AG (0<(AI p.Ad:Int))&&Cu k p.Ad)):=by cases p;rfl
theorem JH(k:Int):∀l:AA CG,Cu k l=l.all (Fx k)
 |[]=>rfl
 |p::r=>by simp[Cu,List.all_cons,JH k r]
theorem Yo{p:CG}(h:CG.wf p):AI p.Ad<=1048576/\ ∀x∈p.Ad,CG.wf x:=by
 cases p
 grind[CG.wf,ut]
theorem QU(lo hi x:Int):Ev (λn=>FQ n lo hi [x]) (DG lo hi x):=(tM lo hi [x] sq).eq sq
theorem eU(lo hi x y:Int):Ev (λn=>FQ n lo hi [x,y]) (DG lo hi x&&DG lo hi y):=(tM lo hi [x,y] sq).eq sq
theorem QoS(k:Int):∀(m:Nat) (l:AA CG),Cc l<=m->AI l<=1048576->(∀x∈l,CG.wf x)->Ev (λn=>LA n l k) (Cu k l):=by
 intro m
 induction m with
 |zero=>
  intro l f h d;cases l with
  |nil=>
   refine Jd ?_;exact Ju [] (Fx k) (λn x=>OO (LA n) n x k) sq sq
  |cons p r=>
   simp only[Cc,YS]at f;omega
 |succ m t=>
  intro l f h d;refine Jd ?_;rw[JH];refine Ju l (Fx k) (λn x=>OO (LA n) n x k) om λp g=>?_;rw[Zq];have j:=Y7 g;rw[YS]at j;obtain⟨q,y⟩:=Yo (d p g);refine JD (λ_=>?_) (λ_=>?_)
  .exact Ea (Ea (QU _ _ _) (Eh λ_=>Qa _)) (Qa _)
  .exact Ea (Ea (QU _ _ _) (Eh λ_=>Eh λ_=>Eh gq)) (Qa _)
theorem Qmy(c:CA)(w:C2 c):∀(m:Nat) (l:AA CG),Cc l<=m->AI l<=1048576->(∀x∈l,CG.wf x)->Ev (λn=>TB n c l) (Cu ((AI c.Ar:Int)-1) l):=by
 intro m
 induction m with
 |zero=>
  intro l h t g;cases l with
  |nil=>
   refine Jd ?_;show Ev (λn=>iw (TB n) n c []) _;exact⟨1,λn F=>by obtain⟨k,rfl⟩:∃k,n=k+1:=⟨n-1,om⟩;rfl⟩
  |cons p r=>
   simp only[Cc,YS]at h;omega
 |succ m q=>
  intro l h t g;refine Jd ?_;show Ev (λn=>iw (TB n) n c l) _;rw[JH];have step:∀(i:Nat) (x:CG),At l i x->Ev (λn=>OI n c l (TB n) i) (bif Fx (AI c.Ar-1) x then .k (i+1)else .d (.d AD)):=by
   intro i x d;unfold OI;simp only[d.lt,d.ix,XI,d.nx];have y:=Y7 d.mem;rw[YS]at y;obtain⟨j,E⟩:=Yo (g x d.mem);refine Ea (Eh λ_=>Ea (_h c w _) (Eh λ_=>Qa _)) (Ea (Ea (pI _ _ _) (Eh λ_=>Eh λ_=>Eh λ_=>Ea (q x.Ad om j E) (Qa _))) ?_);rw[Zq];cases B:(x.As==0)with
   |true=>
    have e0:=by simpa using B
    have:DG 1 64 x.As=false:=by rw[e0];rfl
    grind[Qa]
   |false=>
    generalize(DG 1 64 x.As&&((x.Al==0)&&(AG (0<(AI x.Ad:Int))&&Cu (AI c.Ar-1) x.Ad)))=b;cases b<;>exact Qa _
  refine Ea (ip l (λx=> !Fx (AI c.Ar-1) x) (λi=>(i:Int)) (CF.d AD) (CF.k ()) om rfl (λi x d f=>?_) (λi x d f=>?_) ?_) ?_
  .refine(step i x d).eq ?_;have:=by simpa using f
   rw[this];rfl
  .refine(step i x d).eq ?_;have:=by simpa using f
   rw[this];rfl
  .unfold OI;simp[Jf];exact Qa _
  grind[Qa]
def R'(k:Int)(l:Cp):Bool:=(DG 0 k l.BA&&DG 0 k l.To)&&((DG 0 68719476736 l.Bl&&DG 0 68719476736 l.Bq)&&AG (l.Bl<=l.Bq))
def cR(k:Int)(x:CO):Bool:=DG 0 k x.Al&&(AG (1<=x.B8)&&DG 0 1099511627776 x.Bt)
def IY(k:Int)(d:AN):Bool:=DG 1 3 d.BI&&(DG (-1) k d.Am&&(Cu k d.Ae&&d.Aq.all (cR k)))
def NW(o:AZ):Bool:=bif o.A' then(o.BW==0)&&(o.As==0)else bif o.As != 0 then(o.BW==0)&&DG 1 64 o.As else DG 0 68719476736 o.BW
def cz(x:AW):Bool:=(DG 0 120 x.BA&&DG 0 120 x.To)&&AG (x.BA<=x.To)
def Lj(c:CA)(p:CQ):Bool:=DG 0 ((AI c.AP:Int)-1) p.AN&&(DG (-1) ((AI c.AV:Int)-1) p.AW&&(DG 1 4000 p.B0&&DG 1 1125899906842624 p.BO))
def Ln(c:CA):Bool:=(DG 0 16 c.AQ.A8&&DG 0 16 c.AQ.A6)&&((DG 0 4294967296 c.AQ.A5&&DG 0 4294967296 c.AQ.Ak)&&(DG 0 100000 c.AQ.BC&&(DG 0 1125899906842624 c.Bj&&DG 0 1099511627776 c.Av)))
def DE(l:Cp):Ul:={BX:=l.BA,to_:=l.To}
def G'(p:CQ):Up:={B3:=p.AN,Bz:=p.AW,B':=p.B0}
def Cv(c:CA):Bool:=
 let k:=(AI c.Ar:Int)-1
 c.Ar.all (λm=>DG 1 3 m.AX)&&(c.Az.all (R' k)&&(AG ((c.Az.map DE).Nodup)&&(c.AP.all (IY k)&&(c.A0.all (λw=>DG 0 1099511627776 w.B9)&&(c.Ab.all NW&&(c.AV.all cz&&(c.Ay.all (Lj c)&&(AG ((c.Ay.map G').Nodup)&&Ln c))))))))
structure FC (c:CA):Prop where
 len:∀d∈c.AP,AI d.Ae<=1048576
 wf:∀d∈c.AP,∀x∈d.Ae,CG.wf x
theorem QhM(l:AA Cp)(f:AI l<=1048576):Ev (λn=>WN n l) (AG ((l.map DE).Nodup)):=by
 refine Ea (m_ l DE AE om (λi x m d=>?_) (λm=>?_)) ((Qa _).eq ?_)
 .unfold Tv V2;simp only[d.lt,d.ix,d.nx];exact Qa _
 .simp_all[Tv,Qa]
 .rw[XX];simp[Vx,Vq]
  grind[vG]
theorem QfQ(l:AA CQ)(f:AI l<=1048576):Ev (λn=>WM n l) (AG ((l.map G').Nodup)):=by
 refine Ea (m_ l G' AE om (λi x m d=>?_) (λm=>?_)) ((Qa _).eq ?_)
 .unfold TO V6;simp only[d.lt,d.ix,d.nx];exact Qa _
 .simp_all[TO,Qa]
 .rw[XX];simp[Vx,Vq]
  grind[vG]
theorem Qj6(c:CA)(w:C2 c)(q:FC c):Ev (λn=>Pg n c) (Cv c):=by
 unfold Pg Cv;rw[Zt w.mats];refine Ea (v:=_) ?_ (Qa _);have t:Ev (λn=>OP n c.Ar) (c.Ar.all λm=>DG 1 3 m.AX):=by
  unfold OP Wu WX;refine Ju c.Ar _ (λn x=>OS n x) (by have:=w.mats;omega) λx d=>?_;unfold OS;exact Ea (QU _ _ _) (Qa _)
 have h:Ev (λn=>PA n c.Az ((AI c.Ar:Int)-1)) (c.Az.all (R' ((AI c.Ar:Int)-1))):=by
  unfold PA Wd Wa;refine Ju c.Az _ (λn x=>Oo n x _) (by have:=w.legs;omega) λx d=>?_;unfold Oo;exact Ea (Ea (eU _ _ _ _) (Eh λ_=>Ea (eU _ _ _ _) (Eh λ_=>Qa _))) (Qa _)
 have j:Ev (λn=>OY n c.AP ((AI c.Ar:Int)-1)) (c.AP.all (IY ((AI c.Ar:Int)-1))):=by
  unfold OY WU WA;refine Ju c.AP _ (λn x=>O5 n x _) (by have:=w.dist;omega) λx d=>?_;unfold O5;have F:Ev (λn=>PB n x.Aq ((AI c.Ar:Int)-1)) (x.Aq.all (cR ((AI c.Ar:Int)-1))):=by
   unfold PB Wg WT;refine Ju x.Aq _ (λn x=>PC n x _) (by have:=w.cut x d;omega) λy G=>?_;unfold PC;exact Ea (Ea (QU _ _ _) (Eh λ_=>Eh λ_=>Ea (QU _ _ _) (Qa _))) (Qa _)
  exact Ea (Ea (QU _ _ _) (Eh λ_=>Ea (QU _ _ _) (Eh λ_=>Ea (QoS _ _ x.Ae (XS _) (q.len x d) (q.wf x d)) (Eh λ_=>Ea F (Qa _))))) (Qa _)
 have E:Ev (λn=>PN n c.A0) (c.A0.all λw=>DG 0 1099511627776 w.B9):=by
  unfold PN Wo Wf;refine Ju c.A0 _ (λn x=>OX n x) (by have:=w.wave;omega) λx d=>?_;unfold OX;exact Ea (QU _ _ _) (Qa _)
 have f:Ev (λn=>OQ n c.Ab) (c.Ab.all NW):=by
  unfold OQ Wm Wq;refine Ju c.Ab _ (λn x=>PO n x) (by have:=w.off;omega) λx d=>?_;unfold PO NW;refine JD (λ_=>Ea (Eh λ_=>Qa _) (Qa _)) λ_=>JD (λ_=>Ea (Eh λ_=>Ea (QU _ _ _) (Qa _)) (Qa _)) λ_=>Ea (QU _ _ _) (Qa _)
 have B:Ev (λn=>Og n c.AV) (c.AV.all cz):=by
  unfold Og WP V4;refine Ju c.AV _ (λn x=>PX n x) (by have:=w.cat;omega) λx d=>?_;unfold PX;exact Ea (Ea (eU _ _ _ _) (Eh λ_=>Qa _)) (Qa _)
 have g:Ev (λn=>OM n c.Ay c) (c.Ay.all (Lj c)):=by
  unfold OM WY Wb;refine Ju c.Ay _ (λn x=>O3 n x c) (by have:=w.prize;omega) λx d=>?_;unfold O3;rw[Zt w.dist,Zt w.cat];exact Ea (Ea (QU _ _ _) (Eh λ_=>Ea (QU _ _ _) (Eh λ_=>Ea (QU _ _ _) (Eh λ_=>Ea (QU _ _ _) (Qa _))))) (Qa _)
 refine Ea t (Eh λ_=>Ea h (Eh λ_=>Ea (QhM _ w.legs) (Eh λ_=>Ea j (Eh λ_=>Ea E (Eh λ_=>Ea f (Eh λ_=>Ea B (Eh λ_=>Ea g (Eh λ_=>Ea (QfQ _ w.prize) (Eh λ_=>?_)))))))));exact Ea (eU _ _ _ _) (Eh λ_=>Ea (eU _ _ _ _) (Eh λ_=>Ea (QU _ _ _) (Eh λ_=>Ea (QU _ _ _) (Eh λ_=>Ea (QU _ _ _) (Qa _)))))
theorem Ng{a b a' b':Int}:(({BX:=a,to_:=b}:Ul)={BX:=a',to_:=b'})↔a=a'/\b=b':=sq
theorem mv{α B:Type}{step:Nat->Int->AB (CF Int B)}(l:AA α)(ok:α->Bool)(d b:B)(j:AI l<=4611686018427387904)
  (m:∀i x,At l i x->Ev (λn=>step n (i:Int)) (bif ok x then .k ((i+1:Nat):Int)else .d d))(f:Ev (λn=>step n (AI l:Int)) (.d b)):
  Ev (λn=>Go.Sw.iter (step n) n 0) (bif l.all ok then b else d):=by
 have e:(bif l.all ok then b else d)=bif l.any (λx=> !ok x)then d else b:=by
  grind
 rw[e];refine ip l (λx=> !ok x) (λi=>(i:Int)) d b j rfl (λi x h g=>?_) (λi x h g=>?_) f
 .grind
 grind
mutual
def cN:AS->Nat
 |⟨_,_,_,ps⟩=>1+Im ps
def Im:AA AS->Nat
 |[]=>0
 |c::r=>cN c+Im r
end
theorem Nu(c:AS):cN c=1+Im c.Ad:=by cases c;rfl
mutual
def cD:Nat->AS->Bool
 |d,⟨_,_,_,ps⟩=>M3 d ps
def M3:Nat->AA AS->Bool
 |_,[]=>AE
 |d,c::r=>AG (d<=16)&&(cD (d+1) c&&M3 d r)
end
theorem kW(d:Nat)(c:AS):cD d c=M3 d c.Ad:=by cases c;rfl
def Cr(c:AS):Bool:=(c.AX==0)&&((c.Bw==0)&&((c.N==0)&&((AI c.Ad:Int)==0)))
mutual
def LL:AY->Nat
 |⟨_,_,_,t,e⟩=>1+He t+He e
def He:AA AY->Nat
 |[]=>0
 |s::r=>LL s+He r
end
theorem ZU(s:AY):LL s=1+He s.BY+He s.Bf:=by cases s;rfl
mutual
def sC:AY->Nat
 |⟨_,_,c,t,e⟩=>(bif Cr c then 0 else cN c)+Hg t+Hg e
def Hg:AA AY->Nat
 |[]=>0
 |s::r=>sC s+Hg r
end
theorem ZT(s:AY):sC s=(bif Cr s.AS then 0 else cN s.AS)+Hg s.BY+Hg s.Bf:=by cases s;rfl
mutual
def Lh:Nat->AY->Bool
 |d,⟨_,_,c,t,e⟩=>(Cr c||cD 1 c)&&(IT d t&&IT d e)
def IT:Nat->AA AY->Bool
 |_,[]=>AE
 |d,s::r=>AG (d<=16)&&(Lh (d+1) s&&IT d r)
end
theorem gW(d:Nat)(s:AY):Lh d s=((Cr s.AS||cD 1 s.AS)&&(IT d s.BY&&IT d s.Bf)):=by cases s;rfl
mutual
def sZ:AY->Nat
 |⟨_,_,c,t,e⟩=>2+cN c+LK t+LK e
def LK:AA AY->Nat
 |[]=>0
 |s::r=>sZ s+LK r
end
theorem dQ(s:AY):sZ s=2+cN s.AS+LK s.BY+LK s.Bf:=by cases s;rfl
def fS:Um->Nat
 |.ctyping_step x=>LL x.AY
 |.ctyping_cond _=>0
def fC:Um->Nat
 |.ctyping_step x=>sC x.AY
 |.ctyping_cond x=>cN x.AS
def fD(d:Nat):Um->Bool
 |.ctyping_step x=>Lh d x.AY
 |.ctyping_cond x=>cD d x.AS
def fZ:Um->Nat
 |.ctyping_step x=>sZ x.AY
 |.ctyping_cond x=>cN x.AS
def F3(l:AA Um):Nat:=(l.map fS).sum
def F4(l:AA Um):Nat:=(l.map fC).sum
def HN(l:AA Um):Nat:=(l.map fZ).sum
def bQ:Um->Prop
 |.ctyping_step x=>AY.wf x.AY
 |.ctyping_cond x=>AS.wf x.AS
def DL(s:AY):Um:=.ctyping_step {AY:=s}
def Cq(c:AS):Um:=.ctyping_cond {AS:=c}
theorem Zn:∀l:AA AY,F3 (l.map DL)=He l
 |[]=>rfl
 |s::r=>by
  have:=Zn r;simp[F3,Vj,List.sum_cons]at this⊢;rw[this];rfl
theorem Zm:∀l:AA AY,F4 (l.map DL)=Hg l
 |[]=>rfl
 |s::r=>by
  have:=Zm r;simp[F4,Vj,List.sum_cons]at this⊢;rw[this];rfl
theorem d4:∀l:AA AY,HN (l.map DL)=LK l
 |[]=>rfl
 |s::r=>by
  have:=d4 r;simp[HN,Vj,List.sum_cons]at this⊢;rw[this];rfl
theorem mL:∀l:AA AS,F3 (l.map Cq)=0
 |[]=>rfl
 |s::r=>by
  have:=mL r;simp only[F3,Vj,List.sum_cons]at this⊢;rw[this];rfl
theorem mK:∀l:AA AS,F4 (l.map Cq)=Im l
 |[]=>rfl
 |s::r=>by
  have:=mK r;simp[F4,Vj,List.sum_cons]at this⊢;rw[this];rfl
theorem mM:∀l:AA AS,HN (l.map Cq)=Im l
 |[]=>rfl
 |s::r=>by
  have:=mM r;simp[HN,Vj,List.sum_cons]at this⊢;rw[this];rfl
theorem iN(d:Nat):∀l:AA AY,IT d l=((l.map DL).isEmpty||(AG (d<=16)&&(l.map DL).all (fD (d+1))))
 |[]=>rfl
 |s::r=>by
  rw[IT,iN d r];simp[Vj,List.all_cons];rw[show fD (d+1) (DL s)=Lh (d+1) s from rfl]
  grind
theorem sU(d:Nat):∀l:AA AS,M3 d l=((l.map Cq).isEmpty||(AG (d<=16)&&(l.map Cq).all (fD (d+1))))
 |[]=>rfl
 |s::r=>by
  rw[M3,sU d r];simp[Vj,List.all_cons];rw[show fD (d+1) (Cq s)=cD (d+1) s from rfl]
  grind
theorem Jb{c:AS}(h:AS.wf c):AI c.Ad<=1048576/\ ∀x∈c.Ad,AS.wf x:=by
 cases c
 grind[AS.wf,u6]
theorem Ja{s:AY}(h:AY.wf s):AS.wf s.AS/\(AI s.BY<=1048576/\ ∀x∈s.BY,AY.wf x)/\(AI s.Bf<=1048576/\ ∀x∈s.Bf,AY.wf x):=by
 cases s
 grind[AY.wf,uw]
theorem t3(n:Nat)(c:AS):K4 n {AS:=c}=AC (Cr c):=by
 unfold K4 Cr
 grind
theorem uC(n:Nat)(c:AS):Mh n c=AC (Cr c):=by
 unfold Mh Cr
 grind
theorem mJ(l:AA AY)(d:AI l<=140737488):Ev (λn=>Ml n l) (l.map DL):=by
 exact Ea (tx l DL d) (Qa _)
theorem Qo1(l:AA AS)(d:AI l<=140737488):Ev (λn=>Wl n l) (l.map Cq):=by
 exact Ea (tx l Cq d) (Qa _)
def CY(s:AY):AA Um:=s.BY.map DL++s.Bf.map DL
theorem nC(s:AY)(h:AY.wf s):Ev (λn=>K_ n {AY:=s}) (CY s):=by
 obtain⟨_,⟨d,_⟩,⟨f,_⟩⟩:=Ja h;refine Ea (mJ s.BY om) (Ea (mJ s.Bf om) (YP (dy _ _ (by simp;omega)) (Qa _)))
theorem uy(c:AS)(h:AS.wf c):Ev (λn=>J_ n {AS:=c}) (c.Ad.map Cq):=by
 obtain⟨d,_⟩:=Jb h;exact Ea (Qo1 c.Ad om) (Qa _)
def IV(l:AA Um)(d:Nat)(st co:Int):Bool:=l.isEmpty||(AG (d<=16)&&(l.all (fD (d+1))&&(AG (st+F3 l<=64)&&AG (co+F4 l<=256))))
def Q_(l:AA Um)(d:Nat)(st co:Int):Bool:=l.isEmpty||(l.all (fD (d+1))&&(AG (st+F3 l<=64)&&AG (co+F4 l<=256)))
def RA(f:Um)(d:Nat)(st co:Int):Bool:=fD (d+1) f&&(AG (st+fS f<=64)&&AG (co+fC f<=256))
theorem sV(f:Um)(l:AA Um):F3 (f::l)=fS f+F3 l:=rfl
theorem rQ(f:Um)(l:AA Um):F4 (f::l)=fC f+F4 l:=rfl
theorem sY(f:Um)(l:AA Um):HN (f::l)=fZ f+HN l:=rfl
theorem uF(l m:AA Um):F3 (l++m)=F3 l+F3 m:=by simp[F3]
theorem uE(l m:AA Um):F4 (l++m)=F4 l+F4 m:=by simp[F4]
theorem uG(l m:AA Um):HN (l++m)=HN l+HN m:=by simp[HN]
theorem Qog(f:Um)(r:AA Um)(d:Nat)(h j:Int):Q_ (f::r) d h j=(RA f d h j&&Q_ r d (h+fS f) (j+fC f)):=by
 unfold Q_ RA;rw[sV,rQ];cases r with
 |nil=>simp[F3,F4]
 |cons g r=>
  grind
theorem lF(l:AA Um)(d:Nat)(g h:Int)(j:g<=64)(m:h<=256):IV l d g h=AE↔(l.isEmpty||(AG (d<=16)&&l.all (fD (d+1))))=AE/\g+F3 l<=64/\h+F4 l<=256:=by
 unfold IV;cases l with
 |nil=>simp[F3,F4,j,m]
 |cons f r=>
  grind
theorem Qe8(s:AY)(d:Nat):((CY s).isEmpty||(AG (d<=16)&&(CY s).all (fD (d+1))))=(IT d s.BY&&IT d s.Bf):=by
 rw[iN,iN];unfold CY;rw[List.all_append];cases f:s.BY<;>cases g:s.Bf<;>simp<;>(grind)
def oF(R:Nat->AA Um->Int->Uk->AB (Uk×Bool))(l:AA Um)(d:Nat)(st co:Int):Prop:=
 ∃c':Uk,Ev (λn=>R n l (d:Int) {BG:=st,BH:=co}) (c',IV l d st co)/\(IV l d st co=AE->c'={BG:=st+F3 l,BH:=co+F4 l})
theorem Qki{R:Nat->AA Um->Int->Uk->AB (Uk×Bool)}{l:AA Um}{d:Nat}(hd:d<=16){i:Nat}{f:Um}(ha:At l i f)(hw:bQ f)
  (ih:∀l' d' j m,HN l'<fZ f->AI l'<=2097152->(∀f∈l',bQ f)->d'<=17->0<=j->j<=66->(j<=65\/ ∀f∈l',∃c,f=Cq c)->0<=m->m<=256->oF R l' d' j m){j m:Int}(h0:0<=j)(af:j<=66)(J:j<=65\/ ∃c,f=Cq c)(h2:0<=m)(h3:m<=256):
  ∃c':Uk,Ev (λn=>MN n l (d:Int) (R n) ({BG:=j,BH:=m},(i:Int))) (bif RA f d j m then .k (c',((i+1:Nat):Int))else .d (.d (c',AD)))/\(RA f d j m=AE->c'={BG:=j+fS f,BH:=m+fC f}):=by
 unfold MN;simp only[ha.lt,Vo,ha.ix,XI,ha.nx];have ed:i64.wrap ((d:Int)+1)=((d+1:Nat):Int):=YU om;cases f with
 |ctyping_step x=>
  obtain⟨s⟩:=x;have h1:j<=65:=by
   rcases J with h|⟨c,h⟩
   .exact h
   .cases h
  have t:AY.wf s:=hw;obtain⟨wc,⟨ae,aa⟩,⟨ag,ab⟩⟩:=Ja t;have e1:i64.wrap (j+1)=j+1:=Dx;simp only[Um.elim,t3,XI,e1];have hc:∃H:Uk,Ev (λn=>((bif (!Cr s.AS)then(R n [Um.ctyping_cond {AS:=s.AS}] 0 {BG:=j+1,BH:=m}).bind λE=>AC (E.1,(!E.2))else AC ({BG:=j+1,BH:=m},AD)):AB (Uk×Bool))) (H, !(Cr s.AS||(cD 1 s.AS&&(AG (j+1<=64)&&AG (m+cN s.AS<=256)))))/\
    ((Cr s.AS||(cD 1 s.AS&&(AG (j+1<=64)&&AG (m+cN s.AS<=256))))=AE->H={BG:=j+1,BH:=m+((bif Cr s.AS then 0 else cN s.AS:Nat):Int)}):=by
   cases N:Cr s.AS with
   |true=>
    simp_all[Qa]
   |false=>
    obtain⟨H,B,T⟩:=ih [Cq s.AS] 0 (j+1) m (by simp only[HN,Vj,Vk,List.sum_cons,List.sum_nil];show cN s.AS+0<sZ s;rw[dQ];omega) sq (by intro g q;simp only[Vz]at q;subst q;exact wc) om om om (.inr (by intro g q;simp only[Vz]at q;exact⟨_,q⟩)) h2 h3;have ek:IV [Cq s.AS] 0 (j+1) m=(cD 1 s.AS&&(AG (j+1<=64)&&AG (m+cN s.AS<=256))):=by
     unfold IV;simp only[List.isEmpty_cons,Bool.false_or,List.all_cons,List.all_nil,Bool.and_true,F3,F4,Vj,Vk,List.sum_cons,List.sum_nil];rw[show fD (0+1) (Cq s.AS)=cD 1 s.AS from rfl,show fS (Cq s.AS)=0 from rfl,show fC (Cq s.AS)=cN s.AS from rfl];simp
    rw[ek]at B T;refine⟨H,Ea B (Qa _),λh=>?_⟩;rw[T h];simp[F3,F4,show fS (Cq s.AS)=0 from rfl,show fC (Cq s.AS)=cN s.AS from rfl]
  obtain⟨H,B,T⟩:=hc;generalize hb:(Cr s.AS||(cD 1 s.AS&&(AG (j+1<=64)&&AG (m+cN s.AS<=256))))=b at B T;have hF:RA (Um.ctyping_step {AY:=s}) d j m=(Lh (d+1) s&&(AG (j+LL s<=64)&&AG (m+sC s<=256))):=rfl;rw[hF];cases b with
  |false=>
   have:(Lh (d+1) s&&(AG (j+LL s<=64)&&AG (m+sC s<=256)))=false:=by
    rw[VL];intro hh;simp only[XV,Vq,gW,ZU,ZT]at hh;obtain⟨⟨V,_⟩,z2,z3⟩:=hh;cases N:Cr s.AS with
    |true=>rw[N]at hb;cases hb
    |false=>
     rw[N]at hb V z3;simp only[Bool.false_or]at hb V;rw[V]at hb;simp only[Vp]at z3;rw[dT (j+1<=64),dT (m+(cN s.AS:Int)<=256)]at hb;cases hb
   rw[this];exact⟨H,Ea B (Qa _),λh=>by cases h⟩
  |true=>
   obtain rfl:=T rfl;by_cases G:64<j+1
   .have:(Lh (d+1) s&&(AG (j+LL s<=64)&&AG (m+sC s<=256)))=false:=by
     rw[YO (show¬j+(LL s:Int)<=64 by rw[ZU];omega)];simp
    rw[this];refine⟨{BG:=j+1,BH:=m+((bif Cr s.AS then 0 else cN s.AS:Nat):Int)},Ea B ?_,λh=>by cases h⟩;simp only[Xg,Vp];refine Ea (v:=(_,AE)) ?_ (Qa _);rw[JA G];exact Qa _
   by_cases M:256<m+((bif Cr s.AS then 0 else cN s.AS:Nat):Int)
   .have:(Lh (d+1) s&&(AG (j+LL s<=64)&&AG (m+sC s<=256)))=false:=by
     rw[YO (show¬m+(sC s:Int)<=256 by rw[ZT];omega)];simp
    rw[this];refine⟨{BG:=j+1,BH:=m+((bif Cr s.AS then 0 else cN s.AS:Nat):Int)},Ea B ?_,λh=>by cases h⟩;simp only[Xg,Vp];refine Ea (v:=(_,AE)) ?_ (Qa _);rw[YO G,JA M];exact Qa _
   obtain⟨Q,O,L⟩:=ih (CY s) (d+1) (j+1) (m+((bif Cr s.AS then 0 else cN s.AS:Nat):Int)) (by
     unfold CY;rw[uG,d4,d4];show _<sZ s;rw[dQ];omega) (by unfold CY;simp;omega) (by
     intro g q;unfold CY at q;rcases VB.1 q with q|q
     .obtain⟨y,P,rfl⟩:=Xe.1 q;exact aa y P
     .obtain⟨y,P,rfl⟩:=Xe.1 q;exact ab y P) om om om (.inl om) om om
   have eL:IV (CY s) (d+1) (j+1) (m+((bif Cr s.AS then 0 else cN s.AS:Nat):Int))=(Lh (d+1) s&&(AG (j+LL s<=64)&&AG (m+sC s<=256))):=by
    rw[XX,lF _ _ _ _ om om,Qe8];simp only[XV,Vq,gW,ZU,ZT];have Y:F3 (CY s)=He s.BY+He s.Bf:=by unfold CY;rw[uF,Zn,Zn]
    have e3:F4 (CY s)=Hg s.BY+Hg s.Bf:=by unfold CY;rw[uE,Zm,Zm]
    rw[Y,e3];have X:(Cr s.AS||cD 1 s.AS)=true:=by
     cases N:Cr s.AS with
     |true=>rfl
     |false=>
      rw[N]at hb;simp only[Bool.false_or,XV]at hb;rw[hb.1];rfl
    constructor
    .rintro⟨F,W,h6⟩;exact⟨⟨X,F⟩,om,om⟩
    .rintro⟨⟨_,F⟩,W,h6⟩;exact⟨F,om,om⟩
   rw[eL]at O L;refine⟨Q,Ea B ?_,λh=>?_⟩
   .simp only[Xg,Vp];refine Ea (v:=(Q, !(Lh (d+1) s&&(AG (j+LL s<=64)&&AG (m+sC s<=256))))) ?_ ?_
    .rw[YO G,YO M,ed];exact Ea (nC s t) (Ea O (Qa _))
    .cases(Lh (d+1) s&&(AG (j+LL s<=64)&&AG (m+sC s<=256)))<;>exact Qa _
   .rw[L h];have Y:F3 (CY s)=He s.BY+He s.Bf:=by unfold CY;rw[uF,Zn,Zn]
    have e3:F4 (CY s)=Hg s.BY+Hg s.Bf:=by unfold CY;rw[uE,Zm,Zm]
    rw[Y,e3,show fS (Um.ctyping_step {AY:=s})=LL s from rfl,show fC (Um.ctyping_step {AY:=s})=sC s from rfl,ZU,ZT];congr 1<;>omega
 |ctyping_cond x=>
  obtain⟨c⟩:=x;have t:AS.wf c:=hw;obtain⟨ad,ac⟩:=Jb t;have e1:i64.wrap (m+1)=m+1:=Dx;simp only[Um.elim,e1];have hF:RA (Um.ctyping_cond {AS:=c}) d j m=(cD (d+1) c&&(AG (j<=64)&&AG (m+cN c<=256))):=by
   show(cD (d+1) c&&(AG (j+((0:Nat):Int)<=64)&&AG (m+cN c<=256)))=_;rw[show j+((0:Nat):Int)=j by omega]
  rw[hF];by_cases G:64<j
  .have:(cD (d+1) c&&(AG (j<=64)&&AG (m+cN c<=256)))=false:=by
    rw[dF (j<=64)];simp
   rw[this];refine⟨{BG:=j,BH:=m+1},?_,λh=>by cases h⟩;refine Ea (v:=(_,AE)) ?_ (Qa _);rw[JA G];exact Qa _
  by_cases M:256<m+1
  .have:(cD (d+1) c&&(AG (j<=64)&&AG (m+cN c<=256)))=false:=by
    rw[YO (show¬m+(cN c:Int)<=256 by rw[Nu];omega)];simp
   rw[this];refine⟨{BG:=j,BH:=m+1},?_,λh=>by cases h⟩;refine Ea (v:=(_,AE)) ?_ (Qa _);rw[YO G,JA M];exact Qa _
  obtain⟨Q,O,L⟩:=ih (c.Ad.map Cq) (d+1) j (m+1) (by
    rw[mM];show _<cN c;rw[Nu];omega) (by simp;omega) (by
    intro g q;obtain⟨y,P,rfl⟩:=Xe.1 q;exact ac y P) om om om (.inl om) om om
  have eL:IV (c.Ad.map Cq) (d+1) j (m+1)=(cD (d+1) c&&(AG (j<=64)&&AG (m+cN c<=256))):=by
   rw[XX,lF _ _ _ _ om om, <- sU,mL,mK];simp only[XV,Vq,kW,Nu];constructor
   iterate 2 rintro⟨F,W,h6⟩;exact⟨F,om,om⟩
  rw[eL]at O L;refine⟨Q,?_,λh=>?_⟩
  .refine Ea (v:=(Q, !(cD (d+1) c&&(AG (j<=64)&&AG (m+cN c<=256))))) ?_ ?_
   .rw[YO G,YO M,ed];exact Ea (uy c t) (Ea O (Qa _))
   .cases(cD (d+1) c&&(AG (j<=64)&&AG (m+cN c<=256)))<;>exact Qa _
  .rw[L h,mL,mK,show fS (Um.ctyping_cond {AS:=c})=0 from rfl,show fC (Um.ctyping_cond {AS:=c})=cN c from rfl,Nu];congr 1;omega
theorem Qo0:∀(m:Nat) (l:AA Um) (d:Nat) (g j:Int),HN l<=m->AI l<=2097152->(∀f∈l,bQ f)->d<=17->0<=g->g<=66->(g<=65\/ ∀f∈l,∃c,f=Cq c)->0<=j->j<=256->oF NG l d g j:=by
 intro m
 induction m using Nat.strongRecOn with
 |_ m V=>
 intro l d g j hm hl hw hd h0 h1 P h2 h3;unfold oF;have Q:∀c:Uk,(∃q:Uk,Ev (λn=>i7 (NG n) n l (d:Int) c) (q,IV l d g j)/\(IV l d g j=AE->q={BG:=g+F3 l,BH:=j+F4 l}))->∃q:Uk,Ev (λn=>NG n l (d:Int) c) (q,IV l d g j)/\(IV l d g j=AE->q={BG:=g+F3 l,BH:=j+F4 l}):=by
  rintro c ⟨q,q1,q2⟩;exact⟨q,Jd q1,q2⟩
 refine Q _ ?_;unfold i7;cases y:l with
 |nil=>
  refine⟨{BG:=g,BH:=j},?_,λ_=>by simp[F3,F4]⟩;refine Ea (v:=CF.k {BG:=g,BH:=j}) (Dc.ev (Ei ?_)) (Qa _);exact Qa _
 |cons f0 r0=>
 rw[<- y];have H:l.isEmpty=false:=by rw[y];rfl
 have W:0<AI l:=by rw[y];simp
 by_cases t:d<=16
 rotate_left
 .have:IV l d g j=false:=by unfold IV;rw[H,YO t];rfl
  rw[this];refine⟨{BG:=g,BH:=j},?_,λh=>by cases h⟩;rw[dT ((0:Int)<(AI l:Int)),dT ((16:Int)<(d:Int))];exact Ea (Qa _) (Qa _)
 have N:IV l d g j=Q_ l d g j:=by unfold IV Q_;rw[JA t,Vy]
 rw[N];have loop:∀(r:AA Um) (i:Nat) (g j:Int),l.drop i=r->i<=AI l->0<=g->g<=66->(g<=65\/ ∀f∈l,∃c,f=Cq c)->0<=j->j<=256->
   ∃q:Uk,Dc (λn=>MN n l (d:Int) (NG n)) ({BG:=g,BH:=j},(i:Int)) (bif Q_ r d g j then CF.k q else CF.d (q,AD))/\(Q_ r d g j=AE->q={BG:=g+F3 r,BH:=j+F4 r}):=by
  intro r
  induction r with
  |nil=>
   intro i g j O X _ _ _ _ _;refine⟨{BG:=g,BH:=j},Ei ?_,λ_=>by simp[F3,F4]⟩;unfold MN;simp only[Yw O X,Vp];exact Qa _
  |cons f r T=>
   intro i g j O X g0 g1 M g2 g3;obtain⟨F,J⟩:=QH om O;have aa:fZ f<=HN l:=by
    have:∀(l:AA Um),f∈l->fZ f<=HN l:=by
     intro l
     induction l with
     |nil=>intro h;cases h
     |cons x l V=>
      intro h;rw[sY];rcases X6.1 h with rfl|h
      .omega
      .have:=V h;omega
    exact this l F.mem
   obtain⟨q,E,L⟩:=Qki (R:=NG) t F (hw f F.mem) (λY d' g j k1 k2 k3 k4 k5 k6 G k7 k8=>V (HN Y) om Y d' g j (XS _) k2 k3 k4 k5 k6 G k7 k8) g0 g1 (M.imp id λh=>h f F.mem) g2 g3;rw[Qog];cases B:RA f d g j with
   |false=>
    rw[B]at E;exact⟨q,Ei E,λh=>by cases h⟩
   |true=>
    rw[B]at E;obtain rfl:=L B;have hb:=by
     unfold RA at B;simp only[XV,Vq]at B;exact B.2
    obtain⟨c2,u1,u2⟩:=T (i+1) (g+fS f) (j+fC f) J (by have:=F.lt';omega) om om (.inl om) om om;refine⟨c2,Ew E u1,λh=>?_⟩;rw[u2 (by simpa using h),sV,rQ];congr 1<;>omega
 obtain⟨q,E,L⟩:=loop l 0 g j rfl (XT _) h0 h1 P h2 h3;refine⟨q,?_,L⟩;refine Ea (v:=AD) ?_ (QW (Ea E.ev ?_))
 .rw[dT ((0:Int)<(AI l:Int)),dF ((16:Int)<(d:Int))];exact Qa _
 .cases Q_ l d g j<;>exact Qa _
mutual
def Rr:AS->Bool
 |⟨k,v,n,ps⟩=>bif k==1 then DG 1 3 v&&(DG 0 10000 n&&((AI ps:Int)==0))else
   bif k==4 then((v==0)&&(n==0))&&(((AI ps:Int)==1)&&G_ ps)else
   bif (k==2)||(k==3)then((v==0)&&(n==0))&&((AG (0<(AI ps:Int))&&AG ((AI ps:Int)<=16))&&G_ ps)else AD
def G_:AA AS->Bool
 |[]=>AE
 |c::r=>Rr c&&G_ r
end
theorem o?(c:AS):Rr c=bif c.AX==1 then DG 1 3 c.Bw&&(DG 0 10000 c.N&&((AI c.Ad:Int)==0))else
   bif c.AX==4 then((c.Bw==0)&&(c.N==0))&&(((AI c.Ad:Int)==1)&&G_ c.Ad)else
   bif (c.AX==2)||(c.AX==3)then((c.Bw==0)&&(c.N==0))&&((AG (0<(AI c.Ad:Int))&&AG ((AI c.Ad:Int)<=16))&&G_ c.Ad)else false:=by cases c;rfl
theorem qo:∀l:AA AS,G_ l=l.all Rr
 |[]=>rfl
 |c::r=>by rw[G_,List.all_cons,qo r]
mutual
def Z_:AY->Bool
 |⟨k,b,c,t,e⟩=>bif k==1 then DG 1 5 b&&(Cr c&&(((AI t:Int)==0)&&((AI e:Int)==0)))else
   bif k==2 then(b==0)&&(Rr c&&(AG (0<(AI t:Int))&&(Hv t&&Hv e)))else AD
def Hv:AA AY->Bool
 |[]=>AE
 |s::r=>Z_ s&&Hv r
end
theorem p?(s:AY):Z_ s=bif s.AX==1 then DG 1 5 s.By&&(Cr s.AS&&(((AI s.BY:Int)==0)&&((AI s.Bf:Int)==0)))else
   bif s.AX==2 then(s.By==0)&&(Rr s.AS&&(AG (0<(AI s.BY:Int))&&(Hv s.BY&&Hv s.Bf)))else false:=by cases s;rfl
theorem qq:∀l:AA AY,Hv l=l.all Z_
 |[]=>rfl
 |c::r=>by rw[Hv,List.all_cons,qq r]
def fV:Um->Bool
 |.ctyping_step x=>Z_ x.AY
 |.ctyping_cond x=>Rr x.AS
theorem Qkm(l:AA AS):(l.map Cq).any (λf=> !fV f)= !G_ l:=by
 rw[qo,List.not_all_eq_any_not,List.any_map];rfl
theorem my(l:AA AY):(l.map DL).any (λf=> !fV f)= !Hv l:=by
 rw[qq,List.not_all_eq_any_not,List.any_map];rfl
theorem tL{R:Nat->AA Um->AB Bool}(c:AS)(j:AS.wf c)(m:Ev (λn=>R n (c.Ad.map Cq)) (!G_ c.Ad)):
  Ev (λn=>Ws (R n) n {AS:=c}) (Rr c):=by
 rw[o?];refine Ea (Eh λ_=>Qa _) (JD (λ_=>?_) (λx=>?_))
 .exact Ea (Ea (QU _ _ _) (Eh λ_=>Ea (QU _ _ _) (Eh λ_=>Qa _))) (Qa _)
 .have fin:∀b,Ev (λn=>(bif b then(J_ n {AS:=c}).bind λg=>(R n g).bind λd=>AC (!d)else AC AD).bind λf=>AC f) (b&&G_ c.Ad):=by
   intro b;refine Ea ((Eh λ_=>Ea (uy c j) (Ea m (Qa _)))) ((Qa _).eq sq)
  cases t:(c.AX==4)with
  |true=>
   cases h:((c.Bw==0)&&(c.N==0))with
   |true=>
    grind
   |false=>
    simp_all
  |false=>
   cases q:((c.AX==2)||(c.AX==3))with
   |true=>
    have e:Ev (λn=>(bif (c.AX==2)then AC (c.AX==2)else AC (c.AX==3))) true:=by
     refine EA ?_
     grind
    cases h:((c.Bw==0)&&(c.N==0))with
    |true=>
     grind
    |false=>
     refine Ea (Ea e (Qa _)) ((fin _).eq sq)
   |false=>
    have e:Ev (λn=>(bif (c.AX==2)then AC (c.AX==2)else AC (c.AX==3))) false:=by
     refine EA ?_
     grind
    grind
theorem Qj8:∀(m:Nat) (l:AA Um),HN l<=m->AI l<=2097152->(∀f∈l,bQ f)->Ev (λn=>KE n l) (l.any λf=> !fV f):=by
 intro m
 induction m using Nat.strongRecOn with
 |_ m G=>
 intro l W V J;refine Jd ?_;show Ev (λn=>W_ (KE n) n l) _;refine Ev.contains l _ (λn f=>W3 (KE n) n f) om λf L=>?_;have M:fZ f<=HN l:=by
  have:∀(l:AA Um),f∈l->fZ f<=HN l:=by
   intro l
   induction l with
   |nil=>simp
   |cons x l G=>
    intro h;rw[sY]
    grind
  grind
 refine Ea (v:=fV f) ?_ (Qa _);have d:∀c:AS,AS.wf c->Im c.Ad<fZ f->Ev (λn=>KE n (c.Ad.map Cq)) (!G_ c.Ad):=by
  intro c B t;rw[<- Qkm];obtain⟨Q,P⟩:=Jb B;refine G (HN (c.Ad.map Cq)) (by rw[mM];omega) _ (XS _) (by simp;omega) ?_;intro g j;obtain⟨y,q,rfl⟩:=Xe.1 j;exact P y q
 cases f with
 |ctyping_cond x=>
  obtain⟨c⟩:=x;have B:AS.wf c:=J _ L;exact tL c B (d c B (by show Im c.Ad<cN c;rw[Nu];omega))
 |ctyping_step x=>
  obtain⟨s⟩:=x;have t:AY.wf s:=J _ L;obtain⟨H,⟨N,E⟩,⟨O,F⟩⟩:=Ja t;show Ev _ (Z_ s);rw[p?];refine JD (λ_=>?_) (λT=>JD (λ_=>?_) λ_=>Qa _)
  .refine Ea (Ea (QU _ _ _) (Eh λ_=>?_)) (Qa _);simp only[t3];refine Eh λ_=>Ea (nC s t) ((Qa _).eq ?_);unfold CY;rw[XX];simp only[Vx,XV,X2,X0];omega
  .refine Ea (Eh λ_=>?_) (Qa _);refine Ea (tL s.AS H (d s.AS H (by show _<sZ s;rw[dQ,Nu];omega))) (Eh λ_=>Eh λ_=>?_);refine Ea (nC s t) (Ea (G (HN (CY s)) ?_ _ (XS _) (by unfold CY;simp;omega) ?_) ((Qa _).eq ?_))
   .have:HN (CY s)<sZ s:=by
     unfold CY;rw[uG,d4,d4,dQ];omega
    have R:fZ (Um.ctyping_step {AY:=s})=sZ s:=rfl;omega
   .intro g j;rcases VB.1 j with j|j
    .obtain⟨y,q,rfl⟩:=Xe.1 j;exact E y q
    .obtain⟨y,q,rfl⟩:=Xe.1 j;exact F y q
   .unfold CY;rw[List.any_append,my,my];simp
def KK(l:AA AY):Bool:=IT 0 l&&(AG (He l<=64)&&AG (Hg l<=256))
def IQ(l:AA AY):Int:=bif KK l then(bif l.isEmpty|| !Hv l then 71 else 0)else 2
theorem Qoh(l:AA AY):IV (l.map DL) 0 0 0=KK l:=by
 rw[XX,lF _ _ _ _ om om, <- iN,Zn,Zm];unfold KK
 grind
theorem QqX(l:AA AY)(t:AI l<=1048576)(j:∀x∈l,AY.wf x):Ev (λn=>WE n l) (IQ l):=by
 refine Ea (mJ l om) (Ea ?_ (Qa _));have h:∀f∈l.map DL,bQ f:=by
  intro g q;obtain⟨y,m,rfl⟩:=Xe.1 q;exact j y m
 obtain⟨E,d,B⟩:=Qo0 _ (l.map DL) 0 0 0 (XS _) (by simp;omega) h om om om (.inl om) om om;rw[Qoh]at d;have p3:=d.shift;refine Ea p3 ?_;unfold IQ;cases KK l with
 |false=>exact Qa _
 |true=>
  have e:((AI (l.map DL):Int)==0)=l.isEmpty:=by
   cases l<;>simp;omega
  rw[e];refine Ea (QR λ_=>Ea (Qj8 _ _ (XS _) (by simp;omega) h) (Qa _)) ?_
  grind[my,Qa]
def D9(d:Nat):Int:=256*(18-(d:Int))+1000
theorem vE:∀(m:Nat) (c:AS) (d:Nat),cN c<=m->d<=17->AS.wf c->∃v:Int,Ev (λn=>N2 n c (d:Int)) v/\0<=v/\v<=D9 d/\
  (d<=16/\cD (d+1) c=AE/\cN c<=256->v=cN c)/\(¬(d<=16/\cD (d+1) c=AE/\cN c<=256)->256<v):=by
 intro m
 induction m using Nat.strongRecOn with
 |_ m Q=>
 intro c d hm hd hw;obtain⟨Y,N⟩:=Jb hw;have M:∀{P:Int->Prop},(∃v:Int,Ev (λn=>i6 (N2 n) n c (d:Int)) v/\P v)->∃v:Int,Ev (λn=>N2 n c (d:Int)) v/\P v:=by
  rintro P ⟨v,q,f⟩;exact⟨v,Jd q,f⟩
 refine M ?_;unfold i6;by_cases E:d<=16
 .rw[dF ((16:Int)<(d:Int))];have ed:i64.wrap ((d:Int)+1)=((d+1:Nat):Int):=YU om;have loop:∀(r:AA AS) (i:Nat) (a:Int),c.Ad.drop i=r->i<=AI c.Ad->0<=a->a<=D9 d->
    ∃v:Int,Dc (λn=>MK n c (d:Int) (N2 n)) (a,(i:Int)) v/\0<=v/\v<=D9 d/\
     (M3 (d+1) r=AE/\a+Im r<=256->v=a+Im r)/\(¬(M3 (d+1) r=AE/\a+Im r<=256)->256<v):=by
   intro r
   induction r with
   |nil=>
    intro i a J X G q;refine⟨a,Ei ?_,G,q,λ_=>by simp[Im],λh=>?_⟩
    .unfold MK;simp only[Yw J X,Vp,XI];exact Qa _
    .simp[M3,Im]at h;omega
   |cons x r O=>
    intro i a J X G q;obtain⟨j,F⟩:=QH om J;have hx:cN x<cN c:=by
     have:∀l:AA AS,x∈l->cN x<=Im l:=by
      intro l
      induction l with
      |nil=>intro h;cases h
      |cons y l Q=>
       intro h;rw[Im];rcases X6.1 h with rfl|h
       .omega
       .have:=Q h;omega
     have:=this _ j.mem;rw[Nu c];omega
    by_cases g:a<=256
    .obtain⟨v,H,V,R,t,T⟩:=Q (cN x) om x (d+1) (XS _) om (N x j.mem);have hB:D9 (d+1)+256=D9 d:=by unfold D9;omega
     have aa:D9 d<=6000:=by unfold D9;omega
     have e1:i64.wrap (a+v)=a+v:=Dx;obtain⟨w,q1,q2,q3,q4,W⟩:=O (i+1) (a+v) F (by have:=j.lt';omega) om om;refine⟨w,Ew ?_ q1,q2,q3,?_,?_⟩
     .unfold MK;simp only[j.lt,Vo,JA g,XI,j.ix,j.nx,ed];refine Ea H ?_;rw[e1];exact Qa _
     .rintro⟨f,L⟩;simp only[M3,XV,Vq]at f;rw[Im]at L⊢;have:=t ⟨f.1,f.2.1,om⟩;subst this;rw[q4 ⟨f.2.2,om⟩];omega
     .intro hn;by_cases B:d+1<=16/\cD (d+1+1) x=AE/\cN x<=256
      .have:=t B;subst this;refine W λf=>hn ⟨?_,?_⟩
       .simp only[M3,XV,Vq];exact⟨B.1,B.2.1,f.1⟩
       .rw[Im];omega
      .have:=T B;exact W λf=>om
    .refine⟨a,Ei ?_,G,q,λh=>?_,λ_=>om⟩
     .unfold MK;simp only[j.lt,Vo,YO g,XI,Vp];exact Qa _
     .omega
  obtain⟨v,H,V,R,t,T⟩:=loop c.Ad 0 1 rfl (XT _) om (by unfold D9;omega);refine⟨v,QW (Ea H.ev (Qa _)),V,R,?_,?_⟩
  .rintro⟨_,f,L⟩;rw[kW]at f;rw[Nu]at L⊢;rw[t ⟨f,om⟩];omega
  grind[kW,Nu]
 .rw[dT ((16:Int)<(d:Int))];refine⟨1000,Rb (Qa _),om,by unfold D9;omega,λh=>absurd h.1 E,λ_=>om⟩
def Dt:Nat->Int
 |0=>10000
 |k+1=>3*Dt k
theorem ii:∀k,10000<=Dt k
 |0=>Int.le_refl _
 |k+1=>by have:=ii k;simp[Dt];omega
theorem Qn6{k:Nat}(h:k<=17):Dt k<=1291401630000:=by
 have:∀j,j<=17->Dt j<=1291401630000:=by decide+kernel
 grind
def KL(d:Nat)(l:AA AY):Prop:=IT d l=AE/\He l<=64/\Hg l<=256
theorem qL:∀(m:Nat) (l:AA AY) (d:Nat),LK l<=m->d<=17->AI l<=1048576->(∀x∈l,AY.wf x)->∃a b:Int,Ev (λn=>Ro n l (d:Int)) (a,b)/\0<=a/\0<=b/\a<=Dt (17-d)/\b<=Dt (17-d)/\
  (KL d l->a=He l/\b=Hg l)/\(¬KL d l->64<a\/256<b):=by
 intro m
 induction m using Nat.strongRecOn with
 |_ m L=>
 intro l d hm hd hl hw;have ad:∀{P:Int->Int->Prop},(∃a b:Int,Ev (λn=>i5 (Ro n) n l (d:Int)) (a,b)/\P a b)->∃a b:Int,Ev (λn=>Ro n l (d:Int)) (a,b)/\P a b:=by
  rintro P ⟨a,b,H,t⟩;exact⟨a,b,Jd H,t⟩
 refine ad ?_;unfold i5;by_cases B:0<AI l/\ ¬d<=16
 .rw[dT ((0:Int)<(AI l:Int)),dT ((16:Int)<(d:Int))];have:=ii (17-d);refine⟨1000,1000,Ea (Qa _) (Rb (Qa _)),om,om,om,om,λh=>?_,λ_=>om⟩;exfalso;cases l with
  |nil=>simp at B
  |cons x r=>
   have:=h.1;simp only[IT,XV,Vq]at this;omega
 .have G:Ev (λn:Nat=>((bif 0<(AI l:Int) then AC (AG (16<(d:Int)))else AC AD):AB Bool)) false:=by
   grind[Qa]
  have ed:i64.wrap ((d:Int)+1)=((d+1:Nat):Int):=YU om;have loop:∀(r:AA AY) (i:Nat) (a b:Int),l.drop i=r->i<=AI l->0<=a->0<=b->a<=Dt (17-d)->b<=Dt (17-d)->
    ∃a' b':Int,Dc (λn=>ML n l (d:Int) (Ro n)) (a,b,(i:Int)) (a',b')/\0<=a'/\0<=b'/\a'<=Dt (17-d)/\b'<=Dt (17-d)/\
     (IT d r=AE/\a+He r<=64/\b+Hg r<=256->a'=a+He r/\b'=b+Hg r)/\(¬(IT d r=AE/\a+He r<=64/\b+Hg r<=256)->64<a'\/256<b'):=by
   intro r
   induction r with
   |nil=>
    intro i a b hr hi G H t V;refine⟨a,b,Ei ?_,G,H,t,V,λ_=>by simp[He,Hg],λh=>?_⟩
    .unfold ML;simp only[Yw hr hi,Vp,XI];exact Qa _
    .simp[IT,He,Hg]at h;omega
   |cons s r ab=>
    intro i a b hr hi G H t V;obtain⟨j,N⟩:=QH om hr;have al:=j.lt';have F:d<=16:=by
     omega
    have ak:sZ s<=LK l:=by
     have:∀l:AA AY,s∈l->sZ s<=LK l:=by
      intro l
      induction l with
      |nil=>intro h;cases h
      |cons y l L=>
       intro h;rw[LK];rcases X6.1 h with rfl|h
       .omega
       .have:=L h;omega
     exact this _ j.mem
    by_cases f:a<=64/\b<=256
    .obtain⟨wc,⟨Y,T⟩,⟨aa,ah⟩⟩:=Ja (hw s j.mem);have an:=dQ s;obtain⟨E,g,p1,p2,p3,p4,p5,M,p7⟩:=L (LK s.BY) om s.BY (d+1) (XS _) om Y T;obtain⟨y1,y2,q1,q2,q3,q4,q5,q6,q7⟩:=L (LK s.Bf) om s.Bf (d+1) (XS _) om aa ah;have hB:Dt (17-d)=3*Dt (17-(d+1)):=by
      rw[show 17-d=(17-(d+1))+1 by omega];rfl
     have O:=ii (17-(d+1));have am:=Qn6 (k:=17-d) om;have hc:∃z:Int,0<=z/\z<=5608/\Ev (λn=>((bif (!Cr s.AS)then(CI l (i:Int)).bind λaf=>(N2 n af.AS 0).bind λac=>AC (i64.wrap ((i64.wrap ((i64.wrap (b+g))+y2))+ac))else AC (i64.wrap ((i64.wrap (b+g))+y2))):AB Int)) (b+g+y2+z)/\
       ((Cr s.AS||cD 1 s.AS)=AE/\(bif Cr s.AS then 0 else cN s.AS)<=256->z=((bif Cr s.AS then 0 else cN s.AS:Nat):Int))/\(¬((Cr s.AS||cD 1 s.AS)=AE/\(bif Cr s.AS then 0 else cN s.AS)<=256)->256<z):=by
      have e1:i64.wrap (b+g)=b+g:=Dx;have e2:i64.wrap (b+g+y2)=b+g+y2:=Dx;cases hz:Cr s.AS with
      |true=>
       refine⟨0,om,om,?_,λ_=>sq,λh=>absurd ⟨rfl,sq⟩ h⟩;simp only[Xg,Vp,e1,e2];exact(Qa _).eq om
      |false=>
       obtain⟨v,u1,u2,u3,u4,u5⟩:=vE _ s.AS 0 (XS _) om wc;have ae:v<=5608:=by unfold D9 at u3;omega
       have e3:i64.wrap (b+g+y2+v)=b+g+y2+v:=Dx;refine⟨v,u2,ae,?_,λh=>?_,λh=>?_⟩
       .simp only[Xh,Vo,j.ix,XI,e1,e2];refine Ea u1 ?_;rw[e3];exact Qa _
       .simp only[Bool.false_or,Vp]at h⊢;exact u4 ⟨om,h.1,h.2⟩
       .simp only[Bool.false_or,Vp]at h;exact u5 λq=>h ⟨q.2.1,q.2.2⟩
     obtain⟨z,z0,z1,z2,z3,z4⟩:=hc;have e4:i64.wrap (a+1)=a+1:=Dx;have e5:i64.wrap (a+1+E)=a+1+E:=Dx;have e6:i64.wrap (a+1+E+y1)=a+1+E+y1:=Dx;obtain⟨w1,w2,v1,v2,v3,v4,v5,v6,J⟩:=ab (i+1) (a+1+E+y1) (b+g+y2+z) N om om om om om;refine⟨w1,w2,Ew ?_ v1,v2,v3,v4,v5,?_,?_⟩
     .unfold ML;simp only[j.lt,Vo,JA f.1,JA f.2,XI,j.ix,j.nx,ed,uC];refine Ea p1 (Ea q1 ?_);simp only[j.ix,XI]at z2;refine Ea z2 ?_;rw[e4,e5,e6];exact Qa _
     .rintro⟨g1,g2,g3⟩;simp only[IT,XV,Vq,gW]at g1;obtain⟨aj,⟨ai,ag,W⟩,R⟩:=g1;rw[He,ZU]at g2⊢;rw[Hg,ZT]at g3⊢;obtain⟨k1,k2⟩:=M ⟨ag,om,om⟩;obtain⟨k3,k4⟩:=q6 ⟨W,om,om⟩;have k5:=z3 ⟨ai,om⟩;obtain⟨k6,k7⟩:=v6 ⟨R,om,om⟩;constructor<;>omega
     .intro hn;by_cases X:KL (d+1) s.BY
      .obtain⟨k1,k2⟩:=M X;by_cases b2:KL (d+1) s.Bf
       .obtain⟨k3,k4⟩:=q6 b2;by_cases Q:(Cr s.AS||cD 1 s.AS)=AE/\(bif Cr s.AS then 0 else cN s.AS)<=256
        .have k5:=z3 Q;refine J λq=>hn ⟨?_,?_,?_⟩
         .simp only[IT,XV,Vq,gW];exact⟨F,⟨Q.1,X.1,b2.1⟩,q.1⟩
         .rw[He,ZU];omega
         .rw[Hg,ZT];omega
        .have:=z4 Q;exact J λq=>om
       .have:=q7 b2;exact J λq=>om
      .have:=p7 X;exact J λq=>om
    .refine⟨a,b,Ei ?_,G,H,t,V,λh=>?_,λ_=>?_⟩
     .unfold ML;have:Ev (λn:Nat=>((bif (i:Int)<(AI l:Int) then(bif a<=64 then AC (AG (b<=256))else AC AD)else AC AD):AB Bool)) false:=by
       rw[j.lt];by_cases q:a<=64
       .rw[JA q,YO (show¬b<=256 from λz=>f ⟨q,z⟩)];exact Qa _
       .rw[YO q];exact Qa _
      exact Ea this (QW (Qa _))
     iterate 2 omega
  have O:=ii (17-d);obtain⟨a,b,p1,p2,p3,p4,p5,M,p7⟩:=loop l 0 0 0 rfl (XT _) om om om om;refine⟨a,b,Ea G (QW (Ea p1.ev (Qa _))),p2,p3,p4,p5,λh=>?_,λh=>?_⟩
  .obtain⟨k1,k2⟩:=M ⟨h.1,by have:=h.2.1;omega,by have:=h.2.2;omega⟩;constructor<;>omega
  .exact p7 λq=>h ⟨q.1,om,om⟩
mutual
def hP:CG->Nat
 |⟨_,_,ps⟩=>bif ps.isEmpty then 0 else 1+F9 ps
def F9:AA CG->Nat
 |[]=>0
 |p::r=>max (hP p) (F9 r)
end
theorem ot(p:CG):hP p=bif p.Ad.isEmpty then 0 else 1+F9 p.Ad:=by cases p;rfl
theorem qP{p:CG}:∀{l:AA CG},p∈l->hP p<=F9 l
 |q::r,h=>by
  simp[F9];rcases X6.1 h with rfl|h
  .omega
  .have:=qP h;omega
theorem sH{α:Type}(l:AA α):((AI l:Int)==0)=l.isEmpty:=by
 cases l<;>simp;omega
theorem Zr:∀l:AA CG,AI l<=Cc l
 |[]=>XS _
 |p::r=>by have:=Zr r;rw[Cc,YS,XZ];omega
theorem uU:∀(m:Nat) (l:AA CG) (k:Nat),Cc l<=m->k<=17->AI l<=1048576->(∀x∈l,CG.wf x)->Ev (λn=>Rm n l (k:Int)) ((min (F9 l) k:Nat):Int):=by
 intro m
 induction m using Nat.strongRecOn with
 |_ m B=>
 intro l k N M O q;refine Jd ?_;show Ev (λn=>iz (Rm n) n l (k:Int)) _;unfold iz;have loop:∀(r:AA CG) (i:Nat) (a:Nat),l.drop i=r->i<=AI l->a<=k->Dc (λn=>Kt n l (k:Int) (Rm n)) ((a:Int),(i:Int)) ((max a (min (F9 r) k):Nat):Int):=by
  intro r
  induction r with
  |nil=>
   intro i a h j d;refine Ei ?_;unfold Kt;simp only[Yw h j,Vp,XI];refine(Qa _).eq ?_;simp[F9]
  |cons p r f=>
   intro i a h j F;obtain⟨d,g⟩:=QH om h;obtain⟨t,G⟩:=Yo (q p d.mem);by_cases E:0<k
   .have y:i64.wrap ((k:Int)-1)=((k-1:Nat):Int):=by rw[Dx];omega
    have H:=Y7 d.mem;rw[YS]at H;have step:Ev (λn=>Kt n l (k:Int) (Rm n) ((a:Int),(i:Int))) (.k (((max a (min (hP p) k):Nat):Int),((i+1:Nat):Int))):=by
     unfold Kt;simp only[d.lt,Vo,dT ((0:Int)<(k:Int)),XI,d.ix,d.nx,y,bne,sH];rw[ot];cases L:p.Ad.isEmpty with
     |true=>
      simp_all[Qa]
     |false=>
      simp only[Xh,Vo,Vp];refine Ea (Ea (B (Cc p.Ad) om p.Ad (k-1) (XS _) om t G) (Qa _)) ((Qa _).eq ?_);have J:i64.wrap (1+((min (F9 p.Ad) (k-1):Nat):Int))=((1+min (F9 p.Ad) (k-1):Nat):Int):=by rw[Dx];omega
      rw[J];congr 2;split<;>omega
    refine(Ew step (f (i+1) _ g (by have:=d.lt';omega) om)).eq ?_;rw[F9];omega
   simp_all[Ei,Kt,Qa]
 refine Ea ((loop l 0 0 rfl (XT _) (XT _)).ev) ((Qa _).eq ?_);omega
theorem uT:∀(m:Nat) (l:AA CG),Cc l<=m->AI l<=1048576->(∀x∈l,CG.wf x)->Ev (λn=>KD n l) ((min (Cc l) 257:Nat):Int):=by
 intro m
 induction m using Nat.strongRecOn with
 |_ m F=>
 intro l N G B;refine Jd ?_;show Ev (λn=>W9 (KD n) n l) _;have loop:∀(r:AA CG) (i:Nat) (a:Nat),l.drop i=r->i<=AI l->a<=1048576->∃b:Nat,Dc (λn=>MP n l (KD n)) ((a:Int),(i:Int)) (b:Int)/\min b 257=min (a+(Cc r-(AI r))) 257:=by
  intro r
  induction r with
  |nil=>
   intro i a j y _;refine⟨a,Ei ?_,by simp[Cc]⟩;unfold MP;simp only[Yw j y,Vp,XI];exact Qa _
  |cons p r g=>
   intro i a j y H;obtain⟨d,h⟩:=QH om j;obtain⟨E,L⟩:=Yo (B p d.mem);have M:=Y7 d.mem;rw[YS]at M;have J:=Zr r;by_cases t:a<=256
   .obtain⟨b,f,q⟩:=g (i+1) (a+min (Cc p.Ad) 257) h (by have:=d.lt';omega) om;refine⟨b,Ew ?_ f,?_⟩
    .unfold MP;simp only[d.lt,Vo,dT ((a:Int)<=256),XI,d.ix,d.nx];refine Ea (F (Cc p.Ad) om p.Ad (XS _) E L) ((Qa _).eq ?_);rw[Dx];congr 2
     all_goals omega
    .rw[q,Cc,YS,XZ];omega
   .refine⟨a,Ei ?_,om⟩;unfold MP;simp only[d.lt,Vo,dF ((a:Int)<=256),XI,Vp];exact Qa _
 obtain⟨b,f,q⟩:=loop l 0 (AI l) rfl (XT _) G;refine Ea f.ev ((Qa _).eq ?_);have:=Zr l;omega
theorem QoZ:∀(m:Nat) (l:AA CG) (k:Nat),Cc l<=m->F9 l<=k->k<=17->Cc l<=256->(∀x∈l,CG.wf x)->Ev (λn=>KF n l (k:Int)) ((F9 l:Int),(Cc l:Int)):=by
 intro m
 induction m using Nat.strongRecOn with
 |_ m R=>
 intro l k Y X y g M;have B:=Zr l;refine Jd ?_;show Ev (λn=>P8 (KF n) n l (k:Int)) _;unfold P8;have loop:∀(r:AA CG) (i:Nat) (a b:Nat),l.drop i=r->i<=AI l->a<=17->b+(Cc r-(AI r))<=256->Dc (λn=>MF n l (k:Int) (KF n)) ((a:Int),(b:Int),(i:Int)) (((max a (F9 r):Nat):Int),((b+(Cc r-(AI r)):Nat):Int)):=by
  intro r
  induction r with
  |nil=>
   intro i a b q F _ _;refine Ei ?_;unfold MF;simp only[Yw q F,Vp,XI]
   grind[Qa,F9,Cc]
  |cons p r t=>
   intro i a b q F N h;obtain⟨d,f⟩:=QH om q;obtain⟨W,V⟩:=Yo (M p d.mem);have O:=Y7 d.mem;have j:=qP d.mem;rw[YS]at O;have H:=Zr r;rw[Cc,YS,XZ]at h;have step:Ev (λn=>MF n l (k:Int) (KF n) ((a:Int),(b:Int),(i:Int))) (.k (((max a (hP p):Nat):Int),((b+Cc p.Ad:Nat):Int),((i+1:Nat):Int))):=by
    unfold MF;simp only[d.lt,Vo,d.ix,XI,d.nx,sH];rw[ot]at j⊢;cases E:p.Ad.isEmpty with
    |true=>
     have G:p.Ad=[]:=by simpa using E
     simp only[Vo,XI];rw[G];simp only[Cc,Xw,Nat.max_zero];exact Qa _
    |false=>
     rw[E]at j;simp only[Vp]at j⊢;have J:0<k:=om;have P:i64.wrap ((k:Int)-1)=((k-1:Nat):Int):=by rw[Dx];omega
     have L:((k:Int)==0)=false:=beq_false_of_ne om;rw[L,dF ((256:Int)<(b:Int)),P];simp only[Vp,XI];refine Ea (Ea (R (Cc p.Ad) om p.Ad (k-1) (XS _) om om om V) (Qa _)) ((Qa _).eq ?_);have Q:i64.wrap ((F9 p.Ad:Int)+1)=((F9 p.Ad+1:Nat):Int):=YU om;have T:i64.wrap ((b:Int)+(Cc p.Ad:Int))=((b+Cc p.Ad:Nat):Int):=by rw[Dx];omega
     simp only[Q,T];congr 2;split<;>omega
   refine(Ew step (t (i+1) _ _ f (by have:=d.lt';omega) om om)).eq ?_;rw[F9,Cc,YS,XZ];congr 1<;>omega
 refine Ea ((loop l 0 0 (AI l) rfl (XT _) om om).ev) ((Qa _).eq ?_)
 grind
def Dn:Nat->AA Int->AA Int->AA Int
 |0,out,_=>out
 |k+1,out,lap=>if 256<AI out then out else Dn k (out++lap) lap
mutual
def Fl:CG->AA Int
 |⟨m,laps,ps⟩=>bif 0<laps then DU [] ps else[m]
def DU:AA Int->AA CG->AA Int
 |out,[]=>out
 |out,p::r=>DU (Dn (p.As.toNat+(bif 0<p.As then 0 else 1)) out (Fl p)) r
end
theorem S1(p:CG):Fl p=bif 0<p.As then DU [] p.Ad else[p.Al]:=by cases p;rfl
theorem l8{k:Nat}{d f:AA Int}(h:256<AI d):Dn k d f=d:=by
 cases k with
 |zero=>rfl
 |succ k=>rw[Dn,Vs h]
theorem rO:∀(l:AA CG) {out:AA Int},256<AI out->DU out l=out
 |[],out,h=>by rw[DU]
 |p::r,out,h=>by rw[DU,l8 h];exact rO r h
theorem l9:∀(k:Nat) (out lap:AA Int),AI (Dn k out lap)<=max (AI out) (256+AI lap)
 |0,out,lap=>by rw[Dn];omega
 |k+1,out,lap=>by
  rw[Dn];split
  .omega
  .have:=l9 k (out++lap) lap
   grind
theorem rP:∀(m:Nat) (l:AA CG) (d:AA Int),Cc l<=m->AI (DU d l)<=max (AI d) (256+257*Cc l):=by
 intro m
 induction m using Nat.strongRecOn with
 |_ m x=>
 intro l;have g:∀p∈l,Cc l<=m->AI (Fl p)<=257*Ru p:=by
  intro p h B;have F:=Y7 h;rw[S1,YS]at*;cases AG (0<p.As)with
  |true=>
   have:=x (Cc p.Ad) om p.Ad [] (XS _)
   grind
  |false=>simp;omega
 have j:∀(r:AA CG) (d:AA Int),(∀p∈r,AI (Fl p)<=257*Ru p)->AI (DU d r)<=max (AI d) (256+257*Cc r):=by
  intro r
  induction r with
  |nil=>intro d _;rw[DU];omega
  |cons p r f=>
   intro d y;rw[DU,Cc];have E:=f (Dn (p.As.toNat+(bif 0<p.As then 0 else 1)) d (Fl p)) λq t=>y q (by simp[t])
   grind[l9]
 grind
theorem Qop(p:CG):AI (Fl p)<=257*Ru p:=by
 rw[S1,YS];cases AG (0<p.As)with
 |true=>
  have:=rP _ p.Ad [] (XS _)
  grind
 |false=>simp;omega
theorem QmC(kk:Int):∀(m:Nat) (l:AA CG),Cc l<=m->Cc l<=256->AI l<=1048576->(∀x∈l,CG.wf x)->Cu kk l=AE->Ev (λn=>TA n l) (DU [] l):=by
 intro m
 induction m using Nat.strongRecOn with
 |_ m ih=>
 intro l hm P hl hw Y;rw[JH,Xs]at Y;refine Jd ?_;show Ev (λn=>iv (TA n) n l) _;unfold iv;have inner:∀(p:CG) (g:AA Int) (t:p.As=0\/0<p.As/\p.As<=64) (N:AI g<=100000) (j:Nat) (k:Nat) (d:AA Int),j+k=p.As.toNat+(bif 0<p.As then 0 else 1)->AI d<=200000->
   ∃f:CF (AA Int) (CF ((AA Int)×Int) (CF (AA Int) (AA Int))),Dc (λn=>MB n p g) (d,(j:Int)) f/\
    (f=.k (Dn k d g)\/(256<AI (Dn k d g)/\f=.d (.d (.d (Dn k d g))))):=by
  intro p g t N j k
  induction k generalizing j with
  |zero=>
   intro d L _;refine⟨_,Ei (b:=.k d) ?_,.inl rfl⟩;unfold MB;have:¬((j:Int)<if p.As<1 then 1 else p.As):=by
    grind
   rw[YO this];exact Qa _
  |succ k R=>
   intro d L J;have y:((j:Int)<if p.As<1 then 1 else p.As):=by
    rcases t with h|⟨h,h'⟩
    .rw[h]at L⊢;simp at L⊢;omega
    .rw[JA h]at L;simp at L;rw[Vr om];omega
   by_cases B:256<AI d
   .refine⟨_,Ei (b:=.d (.d (.d d))) ?_,.inr ⟨by rw[l8 B];exact B,by rw[l8 B]⟩⟩;unfold MB;rw[JA y,dT ((256:Int)<(AI d:Int))];exact Qa _
   .obtain⟨f,E,G⟩:=R (j+1) (d++g) om (by rw[X2];omega);refine⟨f,Ew ?_ E,by rw[Dn,Vr B];exact G⟩;unfold MB;rw[JA y,dF ((256:Int)<(AI d:Int))];refine Rb (QW (YP (dy d g om) ?_));rw[YU om];exact Qa _
 have loop:∀(r:AA CG) (i:Nat) (d:AA Int),l.drop i=r->i<=AI l->AI d<=100000->
   ∃f:CF (AA Int) (AA Int),Dc (λn=>MC n l (TA n)) (d,(i:Int)) f/\(f=.k (DU d r)\/f=.d (DU d r)):=by
  intro r
  induction r with
  |nil=>
   intro i d Q X _;refine⟨.k d,Ei ?_,.inl (by rw[DU])⟩;unfold MC;simp only[Yw Q X,Vp];exact Qa _
  |cons p r T=>
   intro i d Q X J;obtain⟨q,O⟩:=QH om Q;have y:=q.lt';have hs:=Y7 q.mem;obtain⟨w1,w2⟩:=Yo (hw p q.mem);have t:=Y p q.mem;rw[Zq]at t;have F:p.As=0\/0<p.As/\p.As<=64:=by
    cases W:(p.As==0)with
    |true=>exact .inl (by simpa using W)
    |false=>
     rw[W]at t;simp only[Vp,DG,XV,Vq]at t;exact .inr ⟨om,om⟩
   have aa:=Qop p;have B:Ev (λn=>((bif 0<p.As then(TA n p.Ad).bind λV=>AC V else AC [p.Al]):AB (AA Int))) (Fl p):=by
    rw[S1];refine JD (λh=>?_) (λ_=>Qa _);rw[YS]at hs;refine Ea (ih (Cc p.Ad) om p.Ad (XS _) om w1 w2 ?_) (Qa _);have:(p.As==0)=false:=by
     simp only[Vq]at h;exact beq_false_of_ne om
    rw[this]at t;simp only[Vp,XV]at t;exact t.2.2.2
   obtain⟨f,E,G⟩:=inner p (Fl p) F om 0 _ d (Xv _) om;rw[DU];rcases G with rfl|⟨H,rfl⟩
   .obtain⟨M,q1,q2⟩:=T (i+1) (Dn (p.As.toNat+(bif 0<p.As then 0 else 1)) d (Fl p)) O om (by
     have:=l9 (p.As.toNat+(bif 0<p.As then 0 else 1)) d (Fl p);omega)
    refine⟨M,Ew ?_ q1,q2⟩;unfold MC;simp only[q.lt,Vo,q.ix,XI,q.nx];exact Ea B (Ea E.ev (Qa _))
   .refine⟨.d (Dn (p.As.toNat+(bif 0<p.As then 0 else 1)) d (Fl p)),Ei ?_,.inr (by rw[rO r H])⟩;unfold MC;simp only[q.lt,Vo,q.ix,XI,q.nx];exact Ea B (Ea E.ev (Qa _))
 obtain⟨f,E,G⟩:=loop l 0 [] rfl (XT _) sq;rcases G with rfl|rfl
 iterate 2 exact Ea E.ev (Qa _)
def Ch(c:CA)(m:Int):Int:=((c.Ar[m.toNat]?).map (·.AX)).getD 0
def C4(c:CA)(a b:Int):Bool:=c.Az.any λl=>(l.BA==a)&&(l.To==b)
def Fh(c:CA)(len:Nat):Nat->Int->AA Int->Bool
 |_,_,[]=>AE
 |i,prev,m::r=>((Ch c m==1)==AG (i=0))&&(((Ch c m==3)==AG (i+1=len))&&((AG (i=0)||C4 c prev m)&&Fh c len (i+1) m r))
def Hx(c:CA)(d:AN)(r:AA Int):Bool:=
 (AG (2<=AI r)&&AG (AI r<=256))&&(Fh c (AI r) 0 0 r&&((bif 0<=d.Am then !((r.count d.Am:Int)==0)&&((Ch c d.Am==2)&&C4 c d.Am d.Am)else AE)&&d.Aq.all λx=>AG (x.B8<=(r.count x.Al:Int))))
def D5(c:CA)(d:AN):Bool:=Hx c d (DU [] d.Ae)
def FP(l:AA Int):AA (Int×Int):=l.foldl (λm k=>QK m k (Qn m k 0+1)) []
theorem QmJ(l:AA Int)(k:Int):FP (l++[k])=QK (FP l) k (Qn (FP l) k 0+1):=by unfold FP;simp
theorem mT(l:AA Int)(k:Int):Qn (FP l) k 0=(l.count k:Int):=by
 have d:∀(l:AA Int) (m:AA (Int×Int)),Qn (l.foldl (λm k=>QK m k (Qn m k 0+1)) m) k 0=Qn m k 0+l.count k:=by
  intro l
  induction l with
  |nil=>simp
  |cons x l f=>
   grind[Y3]
 grind[FP,Qmm]
theorem QjY(kk:Int):∀(m:Nat) (l:AA CG) (d:AA Int),Cc l<=m->Cu kk l=AE->(∀x∈d,0<=x/\x<=kk)->∀x∈DU d l,0<=x/\x<=kk:=by
 intro m
 induction m using Nat.strongRecOn with
 |_ m F=>
 intro l;have rep:∀(k:Nat) (d f:AA Int),(∀x∈d,0<=x/\x<=kk)->(∀x∈f,0<=x/\x<=kk)->∀x∈Dn k d f,0<=x/\x<=kk:=by
  intro k
  induction k with
  |zero=>intro d f H _;exact H
  |succ k J=>
   grind[Dn]
 have E:∀(r:AA CG) (d:AA Int),Cc r<=m->Cu kk r=AE->(∀x∈d,0<=x/\x<=kk)->∀x∈DU d r,0<=x/\x<=kk:=by
  intro r
  induction r with
  |nil=>intro d _ _ h;exact h
  |cons p r j=>
   intro d B t h;rw[Cc,YS]at B;rw[Cu,XV]at t;obtain⟨g,G⟩:=t;refine j _ om G (rep _ _ _ h ?_);rw[S1];rw[Zq]at g;cases q:(p.As==0)with
   |true=>
    have e0:=by simpa using q
    rw[q,Vo,XV]at g;have:=g.1;unfold DG at this;simp[XV,Vq]at this;rw[e0];intro x y;simp at y;subst y;exact this
   |false=>
    rw[q]at g;simp[Vp,XV,DG,Vq]at g;rw[dT (0<p.As),Vo];exact F (Cc p.Ad) om p.Ad [] (XS _) g.2.2.2 sq
 grind
theorem qt{c:CA}{m:Int}(g:0<=m)(f:m<=(AI c.Ar:Int)-1):∃x:Al,CI c.Ar m=AC x/\x.AX=Ch c m:=by
 obtain⟨k,rfl⟩:∃k:Nat,m=k:=⟨m.toNat,om⟩;have d:k<AI c.Ar:=om
 simp_all[QA,Ch]
theorem sG(c:CA)(a b:Int):Qn (YF DE AE c.Az) {BX:=a,to_:=b} AD=C4 c a b:=by
 rw[uZ];by_cases h:{BX:=a,to_:=b}∈c.Az.map DE
 .rw[Vs h];obtain⟨l,d,e⟩:=Xe.1 h;obtain⟨g,f⟩:=Ng.1 e;exact(Xt.2 ⟨l,d,by simp[g,f]⟩).symm
 .rw[Vr h]
  symm
  rw[VL];intro q;obtain⟨l,d,e⟩:=Xt.1 q;simp[XV,Vx]at e
  grind[DE]
structure L_ (c:CA):Prop where
 kinds:∀m∈c.Ar,1<=m.AX/\m.AX<=3
 dist:∀d∈c.AP,-1<=d.Am/\d.Am<=(AI c.Ar:Int)-1/\Cu ((AI c.Ar:Int)-1) d.Ae=AE
theorem QpA{c:CA}(h:Cv c=AE):L_ c:=by
 unfold Cv at h;simp[XV,Xs]at h;refine⟨λm g=>?_,λd f=>?_⟩
 .grind[DG]
 simp_all[IY,DG]
theorem _j{c:CA}(q:L_ c){d:AN}(hd:d∈c.AP):∀x∈DU [] d.Ae,0<=x/\x<=(AI c.Ar:Int)-1:=
 QjY _ _ d.Ae [] (XS _) (q.dist d hd).2.2 sq
theorem Qoa(c:CA)(len i:Nat)(prev m:Int)(r:AA Int):Fh c len i prev (m::r)=(((Ch c m==1)==AG (i=0))&&(((Ch c m==3)==AG (i+1=len))&&((AG (i=0)||C4 c prev m)&&Fh c len (i+1) m r))):=rfl
theorem Qqs(i:Nat):((i:Int)==0)=AG (i=0):=by
 grind
theorem Qgq(c:CA)(r:AA Int)(L:2<=AI r)(hr:AI r<=256)(R:∀x∈r,0<=x/\x<=(AI c.Ar:Int)-1):
  Ev (λn=>iter (Ko n c (YF DE AE c.Az) r) n ([],0)) (bif Fh c (AI r) 0 0 r then .k (FP r)else .d AD):=by
 have loop:∀(t:AA Int) (i:Nat) (d:Int),r.drop i=t->i<=AI r->(0<i->At r (i-1) d)->Dc (λn=>Ko n c (YF DE AE c.Az) r) (FP (r.take i),(i:Int)) (bif Fh c (AI r) i d t then .k (FP r)else .d AD):=by
  intro t
  induction t with
  |nil=>
   intro i d j F _;refine Ei ?_;unfold Ko;simp only[Yw j F,Vp,Fh,Vo]
   simp_all[VH,Qa]
  |cons m t W=>
   intro i d j F Q;obtain⟨f,E⟩:=QH om j;have J:=f.lt';obtain⟨N,O⟩:=R m f.mem;obtain⟨x,T,P⟩:=qt N O;have V:i64.wrap ((AI r:Int)-1)=((AI r-1:Nat):Int):=by rw[Dx];omega
   have X:((i:Int)==((AI r-1:Nat):Int))=AG (i+1=AI r):=gq;have Y:Ev (λn:Nat=>((bif ((x.AX==1) != ((i:Int)==0))then AC AE else(bif ((x.AX==3) != ((i:Int)==(i64.wrap ((AI r:Int)-1))))then AC AE else(bif 0<(i:Int) then(CI r (i64.wrap ((i:Int)-1))).bind λq=>(AC (Qn (YF DE AE c.Az) ({BX:=q,to_:=m:Ul}) AD)).bind λB=>AC (!B)else AC AD))):AB Bool))
     (!(((Ch c m==1)==AG (i=0))&&(((Ch c m==3)==AG (i+1=AI r))&&(AG (i=0)||C4 c d m)))):=by
    rw[P,V,X,Qqs];refine Eu (QR λ_=>QR λ_=>JD (v:= !C4 c d m) (w:=AD) (λh=>?_) λ_=>Qa _) ?_
    .have y:0<i:=by simpa using h
     have H:i64.wrap ((i:Int)-1)=((i-1:Nat):Int):=by rw[Dx];omega
     rw[H,(Q y).ix];simp only[XI,sG];exact Qa _
    grind
   have g:i64.wrap (Qn (FP (r.take i)) m 0+1)=Qn (FP (r.take i)) m 0+1:=by
    rw[mT];have:(r.take i).count m<=i:=by have:=List.count_le_length (a:=m) (l:=r.take i);simp at this;omega
    exact Dx
   have step:Ev (λn=>Ko n c (YF DE AE c.Az) r (FP (r.take i),(i:Int))) (bif ((Ch c m==1)==AG (i=0))&&(((Ch c m==3)==AG (i+1=AI r))&&(AG (i=0)||C4 c d m))then .k (FP (r.take (i+1)),((i+1:Nat):Int))else .d (.d AD)):=by
    unfold Ko;simp only[f.lt,Vo,f.ix,XI,f.nx,T];refine Ea Y ?_;rw[g, <- QmJ, <- f.take];cases(((Ch c m==1)==AG (i=0))&&(((Ch c m==3)==AG (i+1=AI r))&&(AG (i=0)||C4 c d m)))<;>exact Qa _
   have M:Fh c (AI r) i d (m::t)=((((Ch c m==1)==AG (i=0))&&(((Ch c m==3)==AG (i+1=AI r))&&(AG (i=0)||C4 c d m)))&&Fh c (AI r) (i+1) m t):=by rw[Qoa];simp only[Bool.and_assoc]
   rw[M];cases G:(((Ch c m==1)==AG (i=0))&&(((Ch c m==3)==AG (i+1=AI r))&&(AG (i=0)||C4 c d m)))with
   |false=>
    rw[G]at step;exact Ei step
   |true=>
    rw[G]at step;rw[Vy];exact Ew step (W (i+1) m E om (λ_=>by simpa using f))
 exact(loop r 0 0 rfl (XT _) om).ev
theorem Qj7(c:CA)(w:C2 c)(q:L_ c)(d:AN)(g:d∈c.AP)(E:∀x∈d.Ae,CG.wf x)(J:Cc d.Ae<=256):
  Ev (λn=>Oh n c d (YF DE AE c.Az)) (D5 c d):=by
 have B:=Zr d.Ae;have y:=_j q g;have f:=rP _ d.Ae [] (XS _);unfold Oh D5;refine Ea (QmC _ _ d.Ae (XS _) J om E (q.dist d g).2.2) ?_;generalize DU [] d.Ae=r at y f⊢;unfold Hx;have e3:=by
  have:AI r<=1048576:=by simp at f;omega
  exact Zt this
 rw[e3];have F:(AG ((AI r:Int)-1<1)||AG (256<=(AI r:Int)-1))= !(AG (2<=AI r)&&AG (AI r<=256)):=by
  grind
 refine Ea (Eu (QR λ_=>Qa _) F) ?_;cases h:(AG (2<=AI r)&&AG (AI r<=256))with
 |false=>exact Qa _
 |true=>
  simp[XV,Vq]at h;refine QW (Ea (Qgq c r h.1 h.2 y) ?_);cases Fh c (AI r) 0 0 r with
  |false=>exact Qa _
  |true=>
   have M:Ev (λn=>(bif 0<=d.Am then(AC (Qn (FP r) d.Am 0)).bind λj=>(bif (j==0)then AC AE else(CI c.Ar d.Am).bind λm=>(bif (m.AX != 2)then AC AE else(AC (Qn (YF DE AE c.Az) ({BX:=d.Am,to_:=d.Am:Ul}) AD)).bind λt=>AC (!t)))else AC AD))
     (!(bif 0<=d.Am then !((r.count d.Am:Int)==0)&&((Ch c d.Am==2)&&C4 c d.Am d.Am)else AE)):=by
    rw[mT];cases H:AG (0<=d.Am)with
    |false=>exact Qa _
    |true=>
     obtain⟨x,G,L⟩:=qt (by simpa using H) (q.dist d g).2.1;simp only[XI,G,sG,L];refine Eu (QR λ_=>QR λ_=>Qa _) ?_;rw[bne];cases((r.count d.Am:Int)==0)<;>cases(Ch c d.Am==2)<;>cases C4 c d.Am d.Am<;>rfl
   refine Ea M ?_;cases(bif 0<=d.Am then !((r.count d.Am:Int)==0)&&((Ch c d.Am==2)&&C4 c d.Am d.Am)else AE)with
   |false=>exact Qa _
   |true=>
    refine QW (Ea ?_ (Qa _));refine Ju d.Aq _ (λn x=>OR n x (FP r)) (by have:=w.cut d g;omega) λx _=>?_;unfold OR;rw[mT];exact Qa _
theorem Rd{a b:Nat}(h:a+b<=4611686018427387904):i64.wrap ((a:Int)+(b:Int))=((a+b:Nat):Int):=by
 rw[Dx];omega
def Ll(c:CA):Nat:=AI c.Ar+AI c.Az+AI c.AP+AI c.A0+AI c.Ab+AI c.AV+AI c.Ay
def bS(d:AN):Prop:=AI d.Aq<=200/\Cc d.Ae<=200/\F9 d.Ae<=16
structure HK (c:CA):Prop where
 lens:Ll c<=200
 name:AI c.Ao<=100
 dist:∀d∈c.AP,bS d
 ties:AI c.BN<=200
theorem QhO(c:CA)(w:C2 c)(q:FC c)(hl:AI c.BN<=1048576)(hw:∀x∈c.BN,AY.wf x):∃b,Ev (λn=>K7 n c) b/\(b=AE->HK c):=by
 have hm:=w.mats;have hg:=w.legs;have hd:=w.dist;have Q:=w.wave;have ho:=w.off;have hc:=w.cat;have hp:=w.prize;have loop:∀(t:AA AN) (i s:Nat),c.AP.drop i=t->i<=AI c.AP->∃f:CF Int Bool,Dc (λn=>Kr n c) ((s:Int),(i:Int)) f/\(f=.d AD\/ ∃v:Nat,f=.k (v:Int)/\(v<=200->s<=v/\ ∀d∈t,bS d)):=by
  intro t
  induction t with
  |nil=>
   intro i s F O;refine⟨.k (s:Int),Ei ?_,Or.inr ⟨s,rfl,λ_=>⟨XS _,sq⟩⟩⟩;unfold Kr;simp only[Yw F O,Vp,XI];exact Qa _
  |cons d t ih=>
   intro i s F O;obtain⟨j,J⟩:=QH om F;have R:=j.lt';by_cases hs:s<=200
   .have g:=q.len d j.mem;have y:=q.wf d j.mem;have P:=w.cut d j.mem;have L:=uT _ d.Ae (XS _) g y;have N:=uU _ d.Ae 17 (XS _) (XS _) g y;have e1:i64.wrap ((s:Int)+(AI d.Aq:Int))=((s+AI d.Aq:Nat):Int):=Rd om;have Y:i64.wrap (((s+AI d.Aq:Nat):Int)+((min (Cc d.Ae) 257:Nat):Int))=((s+AI d.Aq+min (Cc d.Ae) 257:Nat):Int):=Rd om;have step:Ev (λn=>Kr n c ((s:Int),(i:Int))) (bif (16:Int)<((min (F9 d.Ae) 17:Nat):Int) then .d (.d AD)else .k (((s+AI d.Aq+min (Cc d.Ae) 257:Nat):Int),((i+1:Nat):Int))):=by
     unfold Kr;simp only[j.lt,Vo,j.ix,XI,j.nx,dT ((s:Int)<=200)];refine Ea L (Ea N ?_);rw[e1,Y];cases AG ((16:Int)<((min (F9 d.Ae) 17:Nat):Int))<;>exact Qa _
    by_cases hh:F9 d.Ae<=16
    .rw[YO (show¬(16:Int)<((min (F9 d.Ae) 17:Nat):Int)by omega)]at step;obtain⟨f,E,m⟩:=ih (i+1) (s+AI d.Aq+min (Cc d.Ae) 257) J om;refine⟨f,Ew step E,?_⟩;rcases m with m|⟨v,m,G⟩
     .exact Or.inl m
     .refine Or.inr ⟨v,m,λQ=>?_⟩;obtain⟨k4,H⟩:=G Q;refine⟨om,λx M=>?_⟩;rcases X6.1 M with rfl|M
      .exact⟨om,om,hh⟩
      .exact H x M
    .rw[JA (show(16:Int)<((min (F9 d.Ae) 17:Nat):Int)by omega)]at step;exact⟨.d AD,Ei step,Or.inl rfl⟩
   .refine⟨.k (s:Int),Ei ?_,Or.inr ⟨s,rfl,λh=>absurd h hs⟩⟩;unfold Kr;simp only[j.lt,Vo,dF ((s:Int)<=200),XI,Vp];exact Qa _
 obtain⟨f,E,m⟩:=loop c.AP 0 (Ll c) rfl (XT _);have e:i64.wrap ((i64.wrap ((i64.wrap ((i64.wrap ((i64.wrap ((i64.wrap ((AI c.Ar:Int)+(AI c.Az:Int)))+(AI c.AP:Int)))+(AI c.A0:Int)))+(AI c.Ab:Int)))+(AI c.AV:Int)))+(AI c.Ay:Int))=(Ll c:Int):=by
  have W:AI c.Ar+AI c.Az<=4611686018427387904:=om;have T:AI c.Ar+AI c.Az+AI c.AP<=4611686018427387904:=om;have h3:AI c.Ar+AI c.Az+AI c.AP+AI c.A0<=4611686018427387904:=om;have V:AI c.Ar+AI c.Az+AI c.AP+AI c.A0+AI c.Ab<=4611686018427387904:=om;have X:AI c.Ar+AI c.Az+AI c.AP+AI c.A0+AI c.Ab+AI c.AV<=4611686018427387904:=om;have h6:AI c.Ar+AI c.Az+AI c.AP+AI c.A0+AI c.Ab+AI c.AV+AI c.Ay<=4611686018427387904:=om;rw[Rd W,Rd T,Rd h3,Rd V,Rd X,Rd h6];rfl
 unfold K7;rw[e];rcases m with rfl|⟨v,rfl,G⟩
 .exact⟨AD,Ea E.ev (Qa _),λh=>by cases h⟩
 .obtain⟨a,b,L,N,p3,_,_,_,_⟩:=qL _ c.BN 0 (XS _) om hl hw;have B:Ev (λn=>On n c.BN) (AG ((AI c.BN:Int)<=20)&&(AG (a<=80)&&AG (b<=300))):=by
   unfold On;exact Ea L (Ea (Eh λ_=>Eh λ_=>Qa _) (Qa _))
  refine⟨AG ((v:Int)<=200)&&(AG ((AI c.Ao:Int)<=100)&&(AG ((AI c.BN:Int)<=20)&&(AG (a<=80)&&AG (b<=300)))),Ea E.ev (Ea (Eh λ_=>Eh λ_=>Ea B (Qa _)) (Qa _)),λh=>?_⟩;simp only[XV,Vq]at h;obtain⟨k4,H⟩:=G om;exact⟨om,om,H,om⟩
def F0(c:CA):Bool:=
 !(AG (40<(AI c.Ar:Int))||(AG (512<(AI c.Az:Int))||(AG (8<(AI c.AP:Int))||(AG (32<(AI c.A0:Int))||(AG (32<(AI c.Ab:Int))||(AG (32<(AI c.AV:Int))||AG (32<(AI c.Ay:Int))))))))
  &&c.AP.all λd=> !decide (64<(AI d.Aq:Int))
theorem QqS(c:CA)(w:C2 c)(q:FC c)(k:HK c):Ev (λn=>O6 n c) (F0 c):=by
 unfold O6 F0;refine Ea (QR λ_=>QR λ_=>QR λ_=>QR λ_=>QR λ_=>QR λ_=>Qa _) ?_;cases(AG (40<(AI c.Ar:Int))||(AG (512<(AI c.Az:Int))||(AG (8<(AI c.AP:Int))||(AG (32<(AI c.A0:Int))||(AG (32<(AI c.Ab:Int))||(AG (32<(AI c.AV:Int))||AG (32<(AI c.Ay:Int))))))))with
 |true=>exact Qa _
 |false=>
  refine QW (Ea (mv c.AP (λd=> !decide (64<(AI d.Aq:Int))) (CF.d AD) (CF.k ()) (by have:=w.dist;omega) (λi x f=>?_) ?_) ?_)
  .obtain⟨h,g,j⟩:=k.dist x f.mem;unfold VW;simp only[f.lt,f.ix,XI,f.nx];refine Ea (QoZ _ x.Ae 17 (XS _) om (XS _) om (q.wf x f.mem)) ?_
   grind[Qa]
  .simp_all[VW,Qa]
  .cases(c.AP.all λd=> !decide (64<(AI d.Aq:Int)))<;>exact Qa _
def CM(c:CA):Int:=
 bif F0 c then bif Hy c then bif Cv c then bif IQ c.BN==0 then bif c.AP.all (D5 c)then 0 else 72 else IQ c.BN else 71 else 70 else 2
theorem QmG(c:CA)(w:C2 c)(q:FC c)(k:HK c)(j:AI c.BN<=1048576)(g:∀x∈c.BN,AY.wf x):Ev (λn=>G8 n c) (CM c):=by
 unfold G8 CM;refine Ea (QqS c w q k) ?_;cases F0 c with
 |false=>exact Qa _
 |true=>
 refine QW (Ea (QoT c w) ?_);cases Hy c with
 |false=>exact Qa _
 |true=>
 refine QW (Ea (Qj6 c w q) ?_);cases t:Cv c with
 |false=>exact Qa _
 |true=>
 refine QW (Ea (QqX c.BN j g) ?_);rw[bne];cases(IQ c.BN==0)with
 |false=>exact Qa _
 |true=>
 have h:Ev (λn=>iter (OJ n c) n ([],0)) (YF DE AE c.Az):=by
  refine m_ c.Az DE AE (by have:=w.legs;omega) (λi x m d=>?_) (λm=>?_)
  .unfold OJ;simp only[d.lt,d.ix,d.nx];exact Qa _
  simp_all[OJ,Qa]
 refine QW (Ea h ?_);have d:Ev (λn=>WG n c.AP c (YF DE AE c.Az)) (c.AP.all (D5 c)):=by
  refine Ju c.AP _ (λn x=>WH n x c (YF DE AE c.Az)) (by have:=w.dist;omega) λx f=>?_;exact Ea (Qj7 c w (QpA t) x f (q.wf x f) (by have:=(k.dist x f).2.1;omega)) (Qa _)
 refine Ea d ?_
 grind[Qa]
theorem qb{α:Type}(l:AA α){a b:Nat}(h:a<=b)(d:b<=AI l):Dm l (a:Int) (b:Int)=AC ((l.take b).drop a):=by
 grind[Dm]
theorem pz{α:Type}(l:AA α){b:Nat}(d:b<=AI l):Dm l 0 (b:Int)=AC (l.take b):=by
 have:=qb l (XT b) d
 grind
theorem Qn5{α:Type}(l:AA α){a:Nat}(d:a<=AI l):Dm l (a:Int) (AI l:Int)=AC (l.drop a):=by
 simp_all[qb]
theorem qD{α:Type}(l m:AA α)(h:AI l+AI m<=4294967296):app l m=AC (l++m):=by
 unfold app;rw[XR (by exact h)];rfl
theorem rY{α:Type}(l:AA α){i:Nat}(x:α)(h:i<AI l):JN l (i:Int) x=AC (l.set i x):=by
 grind[JN]
def Dd{α:Type}(q:α->Bool):AA α->Nat->Int
 |[],_=> -1
 |x::l,i=>bif q x then(i:Int)else Dd q l (i+1)
theorem Ev.first{α:Type}{step:Nat->Int->AB (CF Int (CF Unit Int))}(l:AA α)(q:α->Bool)(t:AI l<=4611686018427387904)
  (E:∀i x,At l i x->Ev (λn=>step n (i:Int)) (bif q x then .d (.d (i:Int))else .k ((i+1:Nat):Int)))(g:Ev (λn=>step n (AI l:Int)) (.d (.k ()))):
  Ev (λn=>(Go.Sw.iter (step n) n 0).bind λb=>match b with|.k _=>AC (-1)|.d v=>AC v) (Dd q l 0):=by
 have loop:∀(r:AA α) (i:Nat),l.drop i=r->i<=AI l->∃d:CF Unit Int,Dc step i d/\(match d with|.k _=>AC (-1)|.d v=>AC v)=AC (Dd q r i):=by
  intro r
  induction r with
  |nil=>
   intro i f F;have:i=AI l:=by have:=Xq.1 f;omega
   subst this;exact⟨.k (),Ei g,rfl⟩
  |cons x r G=>
   intro i f F;obtain⟨m,y⟩:=QH t f;have s:=E i x m;unfold Dd;cases h:q x with
   |true=>
    rw[h]at s;exact⟨_,Ei s,rfl⟩
   |false=>
    grind[Dc.cont]
 obtain⟨d,j,B⟩:=loop l 0 rfl (XT _);exact Ea j.ev (EA B)
theorem eP{α:Type}(q:α->Bool):∀(l:AA α) (i:Nat),(Dd q l i= -1/\l.all (λx=> !q x)=AE)\/ ∃j x,Dd q l i=((i+j:Nat):Int)/\l[j]?=AC x/\q x=AE/\(l.take j).all (λx=> !q x)=AE
 |[],_=>.inl ⟨rfl,rfl⟩
 |x::l,i=>by
  unfold Dd;cases h:q x with
  |true=>exact .inr ⟨0,x,rfl,rfl,h,rfl⟩
  |false=>
   rcases eP q l (i+1)with⟨h1,h2⟩|⟨j,y,h1,h2,h3,h4⟩
   .grind
   .refine .inr ⟨j+1,y,gq,h2,h3,by simp[h,h4]⟩
theorem uI{α:Type}{p:α->Bool}{l:AA α}(h:l.all p=AE):l.filter p=l:=(by simp_all)
theorem Qnf{α:Type}{first:Nat->AB Int}{step:Nat->AA α×Int×Int->AB (CF (AA α×Int×Int) (AA α×Int))}(d:AA α)(q:α->Bool)(hl:AI d<=1048576)
  (hf:Ev first (Dd q d 0))
  (hs:∀(l:AA α) (i j:Nat) x y,AI l<=1048576->At l j x->l[i]?=AC y->x∈d->i<=j->Ev (λn=>step n (l,(i:Int),(j:Int))) (.k (bif q x then l else l.set i x,(bif q x then(i:Int)else((i+1:Nat):Int)),((j+1:Nat):Int))))
  (Y:∀(l:AA α) (i:Int),Ev (λn=>step n (l,i,(AI l:Int))) (.d (l,i))):
  Ev (λn=>(first n).bind λr1=>bif r1== -1 then AC d else(Go.Sw.iter (step n) n (d,r1,i64.wrap (r1+1))).bind λb=>(Dm b.1 0 b.2).bind λx=>AC x) (d.filter λx=> !q x):=by
 refine Ea hf ?_;rcases eP q d 0 with⟨P,O⟩|⟨M,X,P,O,h3,h4⟩
 .rw[P,uI O];exact Qa _
 .have ab:=(XK.1 O).1;rw[Xv]at P;rw[P];have e0:((M:Int)== -1)=false:=sq;rw[e0,YU om];have loop:∀(r l:AA α) (i j:Nat),d.drop j=r->j<=AI d->i<j->AI l=AI d->l.drop j=d.drop j->l.take i=(d.take j).filter (λx=> !q x)->∃t:AA α,∃B:Nat,Dc step (l,i,j) (t,B)/\B<=AI t/\t.take B=d.filter λx=> !q x:=by
   intro r
   induction r with
   |nil=>
    intro l i j Q hj T f J g;have:j=AI l:=by have:=Xq.1 Q;omega
    subst this;refine⟨l,i,Ei (Y l _),om,?_⟩;rw[g,f,X9]
   |cons x r W=>
    intro l i j Q hj T f J g;have R:l.drop j=x::r:=by rw[J,Q]
    obtain⟨V,G⟩:=QH om R;obtain⟨E,m⟩:=QH om Q;have aa:=V.lt';have s:=hs l i j x l[i] om V (XJ om) E.mem om;cases h:q x with
    |true=>
     rw[h]at s;obtain⟨t,B,F,L,H⟩:=W l i (j+1) m om om f (by rw[G,m]) (by rw[E.take,List.filter_append,g];simp[h]);exact⟨t,B,Ew s F,L,H⟩
    |false=>
     rw[h]at s;obtain⟨t,B,F,L,H⟩:=W (l.set i x) (i+1) (j+1) m om om (by simpa using f) (by rw[List.drop_set_of_lt om,G,m])
      (by
       rw[E.take,List.filter_append, <- g];have:i<AI (l.set i x):=by simp;omega
       rw[List.take_add_one,XJ this];simp[h,List.take_set_of_le])
     exact⟨t,B,Ew s F,L,H⟩
  have N:d.take (M+1)=d.take M++[X]:=by rw[List.take_add_one,O];rfl
  obtain⟨t,B,F,L,H⟩:=loop _ d M (M+1) rfl om om rfl rfl (by rw[N,List.filter_append,uI h4];simp[h3]);refine QW (Ea F.ev ?_);rw[<- H];exact EA (by simp[pz t L])
theorem nJ{ι α:Type}{F:Nat->ι->AB α}{V:ι->α}:∀(L:AA ι),(∀p∈L,Ev (λn=>F n p) (V p))->∃N,∀n,N<=n->∀p∈L,F n p=AC (V p)
 |[],_=>sq
 |x::L,h=>by
  obtain⟨N,hN⟩:=nJ L λp hp=>h p (by simp[hp]);obtain⟨M,hM⟩:=h x sq;refine⟨N+M,λn hn p hp=>?_⟩
  grind
theorem Ev.anyP{E R:Type}[DecidableEq R]{k:Nat->AA E->AB R}{l:AA E}{r:R}(h:∀p,p.Perm l->Ev (λn=>k n p) r):Ev (λn=>Go.Sw.anyP (k n) l) r:=by
 obtain⟨N,g⟩:=nJ (LU l) λp d=>h p (ij l p d);exact⟨N,λn f=>Qq8 λp d=>g n f p (mn l p d)⟩
theorem Ev.isNil{α R:Type}[DecidableEq R]{l:AA α}{x y:Nat->AB R}{v:R}(f:l=[]->Ev x v)(d:Ev y v):Ev (λn=>Go.Sw.isNil l (x n) (y n)) v:=by
 unfold Go.Sw.isNil;cases q:l.isEmpty with
 |false=>exact d
 |true=>
  obtain⟨N,h⟩:=f (List.isEmpty_iff.1 q);obtain⟨M,g⟩:=d;exact⟨N+M,λn j=>gq⟩
set_option maxRecDepth 4000
def Cw(a b:Int):Int:=bif a<b then-1 else bif b<a then 1 else 0
theorem qJ(n:Nat)(a b:Int):Km n a b=AC (Cw a b):=by
 unfold Km PI Cw
 grind
def IJ:AA Int->Int
 |[]=>0
 |x::r=>bif x != 0 then x else IJ r
theorem oo(l:AA Int)(t:AI l<=1000):Ev (λn=>J3 n l) (IJ l):=by
 have loop:∀(r:AA Int) (i:Nat),l.drop i=r->i<=AI l->Dc (λn=>IB n l) i (bif IJ r==0 then CF.k ()else CF.d (IJ r)):=by
  intro r
  induction r with
  |nil=>
   intro i g h;refine Ei ?_;unfold IB;simp only[Yw g h];exact Qa _
  |cons x r m=>
   intro i g h;obtain⟨d,f⟩:=QH om g;have j:=d.lt';unfold IJ;cases q:(x != 0)with
   |true=>
    have e:(x==0)=false:=gq;simp[Vo,e];refine Ei ?_;unfold IB;simp only[d.lt,d.ix,XI,q];exact Qa _
   |false=>
    refine Ew ?_ (m (i+1) f om);unfold IB;simp only[d.lt,d.ix,XI,q,d.nx];exact Qa _
 refine Ea (loop l 0 rfl (XT _)).ev ?_
 grind[Qa]
theorem l6{β:Type}(m:AA (Int×β))(k:Int):JP m k=(Jq m k).isSome:=by
 unfold JP Jq
 grind
theorem QqE{n:Nat}(h:n<=1048576):Nat.ble n YG=true:=XR (XU h (by decide))
theorem ZE{a b:Int}:Cw a b=0↔a=b:=by
 grind[Cw]
set_option maxRecDepth 4000
structure DY {α:Type} (c:α->α->Int):Prop where
 swap:∀x y,c y x= -c x y
 trans:∀x y z,c x y<0->c y z<0->c x z<0
 eqt:∀x y z,c x y=0->c x z=c y z
section
variable {α:Type} {c d:α->α->Int}
theorem DY.refl(h:DY c)(x:α):c x x=0:=by have:=h.swap x x;omega
theorem DY.eqr(h:DY c){x y:α}(z:α)(e:c x y=0):c z x=c z y:=by
 rw[h.swap x z,h.swap y z,h.eqt x y z e]
theorem DY.lex(h:DY c)(k:DY d):DY λx y=>bif c x y != 0 then c x y else d x y:=by
 refine⟨λx y=>?_,λx y z=>?_,λx y z=>?_⟩
 .have e:=h.swap x y;by_cases q:c x y=0
  .have f:c y x=0:=by omega
   rw[q,f];exact k.swap x y
  grind
 .by_cases q:c x y=0
  .have e:=h.eqt x y z q;rw[q,e];by_cases f:c y z=0
   .rw[f];exact k.trans x y z
   grind
  .rw[bne_iff_ne.2 q];by_cases f:c y z=0
   .have e:=h.eqr x f
    grind
   .rw[bne_iff_ne.2 f];intro a b;have:=h.trans x y z a b
    grind
 .by_cases q:c x y=0
  .rw[q,h.eqt x y z q];intro e;rw[k.eqt x y z e]
  grind
theorem DY.on{β:Type}(h:DY c)(f:β->α):DY λx y=>c (f x) (f y):=
 ⟨λx y=>h.swap _ _,λx y z=>h.trans _ _ _,λx y z=>h.eqt _ _ _⟩
end
theorem Fa:DY Cw:=by
 have e:∀a b,Cw a b=if a<b then-1 else if b<a then 1 else 0:=by
  intro a b;unfold Cw
  grind
 refine⟨λx y=>?_,λx y z=>?_,λx y z=>?_⟩
 iterate 3 grind
theorem Y2{c:CA}(h:CA.wf c):C2 c:=by
 obtain⟨y,⟨q,j⟩,⟨G,L⟩,⟨t,f⟩,⟨E,H⟩,⟨g,B⟩,⟨F,J⟩,⟨m,M⟩,_⟩:=h;exact⟨y,q,λx d=>(j x d).1,G,t,λx d=>(f x d).1,λx d=>(f x d).2.2.2.1.1,E,λx d=>(H x d).1,g,λx d=>(B x d).1,F,λx d=>(J x d).1,m⟩
theorem JC{c:CA}(h:CA.wf c):FC c:=by
 obtain⟨_,_,_,⟨j,g⟩,_⟩:=h;exact⟨λd f=>(g d f).2.1.1,λd f=>(g d f).2.1.2⟩
theorem lK{c:CA}(h:CA.wf c):AI c.BN<=1048576/\ ∀x∈c.BN,AY.wf x:=by
 obtain⟨_,_,_,_,_,_,_,_,d,_⟩:=h;exact d
theorem ux(p:Nat->Bool):∀k,(∀i,i<k->p i=AE)\/ ∃j,j<k/\p j=AD/\ ∀i,i<j->p i=AE
 |0=>sq
 |k+1=>by
  rcases ux p k with h|⟨j,h1,h2,h3⟩
  .grind
  grind
theorem gH{p:Nat->Bool}{k:Nat}:(List.range k).all p=AE↔ ∀i,i<k->p i=true:=sq
theorem dp{B:Type}{step:Nat->Int->AB (CF Int B)}(k:Nat)(p:Nat->Bool)(t b:B)
  (g:∀i,i<k->Ev (λn=>step n (i:Int)) (bif p i then .k ((i+1:Nat):Int)else .d t))(x:Ev (λn=>step n (k:Int)) (.d b)):
  Ev (λn=>Go.Sw.iter (step n) n 0) (bif (List.range k).all p then b else t):=by
 rcases ux p k with h|⟨j,m,f,y⟩
 .rw[gH.2 h];exact Ev.iter (λi=>(i:Int)) k rfl (λi d=>(g i d).eq (by rw[h i d];rfl)) x
 .have:(List.range k).all p=false:=by
   rw[VL];intro q;rw[gH.1 q j m]at f;cases f
  rw[this];exact Ev.iter (λi=>(i:Int)) j rfl (λi d=>(g i om).eq (by rw[y i d];rfl)) ((g j m).eq (by rw[f];rfl))
theorem oh{α:Type}{l:AA α}{i:Nat}(hl:AI l<=1048576)(hi:i<AI l):At l i l[i]:=Y6 om sq
theorem Sr{n:Nat}(h:n<=1048576):i64.wrap ((n:Int)+1)=((n+1:Nat):Int):=YU om
def Lf(x y:CC):Bool:=AG (x.Al<y.Al)||((x.Al==y.Al)&&AG (x.Ag<y.Ag))
def I0(x y:CC):Int:=IJ [Cw x.Al y.Al,Cw x.Ag y.Ag]
theorem QmL(x y:CC):AG (0<=I0 x y)= !Lf x y:=by
 grind[I0,Lf,IJ,Cw]
theorem Su(a b:Int):Ev (λn=>Km n a b) (Cw a b):=Ev.congr (Qa _) λn=>qJ n a b
theorem Qjd(x y:CC):Ev (λn=>Mi n x y) (I0 x y):=by
 unfold Mi Wr;exact Ea (Ea (Su _ _) (Ea (Su _ _) (Ea (oo _ sq) (Qa _)))) (Qa _)
def FI(x:Int):Bool:=DG (-1099511627776) 1099511627776 x
theorem d_(x:Int):Ev (λn=>IF n x) (FI x):=by
 simp_all[IF,FI,DG,Eh,Qa]
def KH(c:CD)(i:Nat)(x:CC):Bool:=AG (0<(i:Int))&& !(match c.AR[i-1]? with|some y=>Lf y x|none=>AE)
def Hw(c:CD)(i:Nat)(x:CC):Bool:=AG (x.Al<0)||(AG (40<=x.Al)||(AG (x.Ag<0)||(AG (255<x.Ag)||(!FI x.BJ||KH c i x))))
def IS(c:CD):Bool:=(List.range (AI c.AR)).all λi=>match c.AR[i]? with|some x=> !Hw c i x|none=>AE
theorem Qov{α:Type}{l:AA α}{i:Nat}{y:α}(f:AI l<=1048576)(hi:0<i)(d:i<=AI l)(h:l[i-1]?=AC y):CI l (i64.wrap ((i:Int)-1))=AC y:=by
 grind[QI,QA]
theorem QqO(c:CD)(m:AI c.AR<=1048576):Ev (λn=>iter (OG n c) n 0) (bif IS c then CF.k ()else CF.d 160):=by
 unfold IS;refine dp (AI c.AR) _ _ _ (λi x=>?_) ?_
 .have d:=oh m x;unfold OG;simp only[d.lt,Vo,d.ix,XI,d.nx,d.get];have:Ev (λn=>((bif (c.AR[i]).Al<0 then AC AE else(bif 40<=(c.AR[i]).Al then AC AE else(bif (c.AR[i]).Ag<0 then AC AE else(bif 255<(c.AR[i]).Ag then AC AE else(IF n (c.AR[i]).BJ).bind λf=>(bif (!f)then AC AE else(bif 0<(i:Int) then(CI c.AR (i64.wrap ((i:Int)-1))).bind λg=>(Mi n g (c.AR[i])).bind λj=>AC (AG (0<=j))else AC AD)))))):AB Bool)) (Hw c i (c.AR[i])):=by
   unfold Hw;refine QR λ_=>QR λ_=>QR λ_=>QR λ_=>Ea (d_ _) (QR λ_=>?_);unfold KH;refine Eh λh=>?_;have t:0<i:=gq;have q:i-1<AI c.AR:=om;rw[Qov m t om (XJ q),XJ q];simp only[XI];exact Ea (Qjd _ _) ((Qa _).eq (QmL _ _))
  refine Ea this ?_
  grind[Qa]
 simp_all[OG,Qa]
def H0(x:Int):Bool:=AG (x< -2199023255552)||AG (2199023255552<x)
theorem QmB(l:AA Int)(d:AI l<=1048576):Ev (λn=>Mg n l) (l.any H0):=by
 unfold Mg V_;refine Ev.contains l H0 (λn x=>Of n x) om λx _=>?_
 simp_all[Of,H0,QR,Qa]
def Li(c:CD)(i:Nat)(r:AA Int):Bool:= !(((AI r:Int) != ((AI c.AR+1:Nat):Int))||((r[i]?.getD 1 != 0)||r.any H0))
def IU(c:CD):Bool:=(List.range (AI c.BP)).all λi=>match c.BP[i]? with|some r=>Li c i r|none=>AE
theorem QqP(c:CD)(t:AI c.AR<=1048576)(q:AI c.BP<=1048576)(B:∀r∈c.BP,AI r<=1048576)(y:AI c.BP=AI c.AR+1):
  Ev (λn=>iter (N4 n c) n 0) (bif IU c then CF.k ()else CF.d 160):=by
 unfold IU;refine dp (AI c.BP) _ _ _ (λi x=>?_) ?_
 .have g:=oh q x;unfold N4;simp only[g.lt,Vo,g.ix,XI,g.nx,g.get,Sr t];have:Ev (λn=>((bif ((AI (c.BP[i]):Int) != ((AI c.AR+1:Nat):Int))then AC AE else(CI (c.BP[i]) (i:Int)).bind λf=>(bif (f != 0)then AC AE else(Mg n (c.BP[i])).bind λd=>AC d)):AB Bool)) (!Li c i (c.BP[i])):=by
   unfold Li;rw[Bool.not_not];refine QR λh=>?_;have j:AI (c.BP[i])=AI c.AR+1:=by
    grind
   have m:i<AI (c.BP[i]):=om
   simp_all[QA,QR,QmB]
  refine Ea this ?_;cases Li c i (c.BP[i])<;>exact Qa _
 simp_all[N4,Qa]
def D8(c:CD)(i j:Nat):Int:=((c.BP[i]?.getD [])[j]?).getD 0
structure LF (c:CD):Prop where
 segs:AI c.AR<=511
 far:AI c.BP=AI c.AR+1
 row:∀i,i<AI c.BP->AI (c.BP[i]?.getD [])=AI c.AR+1
theorem LF.get{c:CD}(d:LF c){i j:Nat}(hi:i<AI c.AR+1)(g:j<AI c.AR+1):c.BP[i]?=AC (c.BP[i]?.getD [])/\(c.BP[i]?.getD [])[j]?=AC (D8 c i j):=by
 have f:i<AI c.BP:=by rw[d.far];exact hi
 have h:=d.row i f
 simp_all[D8]
def NO(c:CD):Bool:=(List.range (AI c.AR+1)).all λi=>(List.range (AI c.AR+1)).all λj=>(List.range (AI c.AR+1)).all λk=> !decide (i64.wrap (D8 c i j+D8 c j k)<D8 c i k)
theorem jR{a b:Nat}(h:a<b):AG ((a:Int)<(b:Int))=true:=gq
theorem kK{a b:Nat}(h:b<=a):AG ((a:Int)<(b:Int))=false:=gq
theorem _i(c:CD)(d:LF c):Ev (λn=>iter (N5 n c) n 0) (bif NO c then CF.k ()else CF.d 160):=by
 have F:=d.segs;unfold NO;refine dp (AI c.AR+1) _ _ _ (λi m=>?_) ?_
 .unfold N5;have g:=(d.get m m).1;have t:=d.row i gq;simp only[Sr (show AI c.AR<=1048576 by omega),jR m,Vo,QA g,XI,Sr (show i<=1048576 by omega)];refine Ea (dp (AI c.AR+1) (λj=>(List.range (AI c.AR+1)).all λk=> !decide (i64.wrap (D8 c i j+D8 c j k)<D8 c i k)) (CF.d (CF.d (CF.d 160))) (CF.k ()) (λj f=>?_) ?_) ?_
  .unfold TN;have B:=(d.get m f).2;have y:=(d.get f f).1;have h:=d.row j gq;simp only[t,jR f,Vo,QA B,QA y,XI,Sr (show j<=1048576 by omega)];refine Ea (dp (AI c.AR+1) (λk=> !decide (i64.wrap (D8 c i j+D8 c j k)<D8 c i k)) (CF.d (CF.d (CF.d (CF.d (CF.d 160))))) (CF.k ()) (λk q=>?_) ?_) ?_
   .unfold VP;have E:=(d.get f q).2;have x:=(d.get m q).2;simp only[h,jR q,Vo,QA E,QA g,QA x,XI,Sr (show k<=1048576 by omega)]
    grind[Qa]
   .unfold VP;simp only[h,kK (XS _),Vp];exact Qa _
   grind[Qa]
  .unfold TN;simp only[t,kK (XS _),Vp];exact Qa _
  grind[Qa]
 .unfold N5;simp only[Sr (show AI c.AR<=1048576 by omega),kK (XS _),Vp];exact Qa _
def Fm(c:CD):Bool:= !(AG (511<(AI c.AR:Int))||((AI c.BP:Int) != ((AI c.AR+1:Nat):Int)))&&(IS c&&(IU c&&NO c))
structure FR (c:CD):Prop where
 segs:AI c.AR<=1048576
 far:AI c.BP<=1048576
 row:∀r∈c.BP,AI r<=1048576
theorem qG{c:CD}(h:¬511<(AI c.AR:Int))(g:AI c.BP=AI c.AR+1)(f:IU c=AE):LF c:=by
 refine⟨om,g,λi d=>?_⟩;have:=gH.1 f i d
 grind[Li]
theorem kr(c:CD)(w:FR c):Ev (λn=>JW n c) (bif Fm c then 0 else 160):=by
 unfold JW Fm;simp only[Sr w.segs];refine Ea (QR λ_=>Qa _) ?_;cases f:(AG (511<(AI c.AR:Int))||((AI c.BP:Int) != ((AI c.AR+1:Nat):Int)))with
 |true=>exact Qa _
 |false=>
  simp only[Xh,Vy,XW,decide_eq_false_iff_not]at f⊢;have d:AI c.BP=AI c.AR+1:=by
   grind
  refine QW (Ea (QqO c w.segs) ?_);cases IS c with
  |false=>exact Qa _
  |true=>
   refine Ea (QqP c w.segs w.far w.row d) ?_;cases g:IU c with
   |false=>exact Qa _
   |true=>
    refine Ea (_i c (qG f.1 d g)) ?_;cases NO c<;>exact Qa _
theorem QmN{c:CD}(h:Fm c=AE):LF c:=by
 simp only[Fm,XV,Bool.not_eq_true',XW,decide_eq_false_iff_not]at h
 grind[qG]
set_option maxRecDepth 10000
structure Fc (c:CA):Prop where
 mats:AI c.Ar<=40
 res:0<=c.AQ.Ak/\c.AQ.Ak<=4294967296
 drift:0<=c.AQ.BC/\c.AQ.BC<=100000
def Do(x k:Int):Int:=Int.tdiv ((if x<0-x then 0-x else x)*k+1000000-1) 1000000
theorem mC{x k:Int}(m: -2199023255552<=x/\x<=2199023255552)(d:0<=k/\k<=100000):0<=Do x k/\Do x k<=274877906944/\0<=(if x<0-x then 0-x else x)*k/\(if x<0-x then 0-x else x)*k<=219902325555200000:=by
 generalize ha:(if x<0-x then 0-x else x)=a;have g:0<=a:=om;have f:a<=2199023255552:=om;have j:0<=a*k:=Int.mul_nonneg g d.1;have h:a*k<=2199023255552*100000:=Int.le_trans (Int.mul_le_mul_of_nonneg_right f d.1) om
 grind[Do]
theorem QoY{x k:Int}(f: -2199023255552<=x/\x<=2199023255552)(d:0<=k/\k<=100000):Ev (λn=>PR n x k) (Do x k,0):=by
 obtain⟨j,y,h,q⟩:=mC f d;unfold PR;refine Ea (v:=AD) ?_ ?_
 .grind[Qa]
 .have B:i64.wrap (0-x)=0-x:=Dx;have m:=QI (n:=(if x<0-x then 0-x else x)*k) om om;have E:=QI (n:=(if x<0-x then 0-x else x)*k+1000000) om om;have t:=QI (n:=(if x<0-x then 0-x else x)*k+1000000-1) om om;have g:=QI (n:=Do x k) om om
  simp_all[Do,Qa]
def F5(c:CA)(k:Int)(s:CC)(loc:Int):CJ:=
 bif k != 1 then⟨0-Do (loc-s.BJ) c.AQ.BC,c.AQ.Ak+Do (loc-s.BJ) c.AQ.BC⟩else⟨0,c.AQ.Ak⟩
def Dh(x:Int):Prop:= -1099511627776<=x/\x<=1099511627776
theorem pO{c:CA}(f:Fc c)(k:Int){s:CC}{d:Int}(g:Dh s.BJ)(h:Dh d): -274877906944<=(F5 c k s d).Lo/\(F5 c k s d).Lo<=0/\0<=(F5 c k s d).Hi/\(F5 c k s d).Hi<=279172874240:=by
 obtain⟨q,j⟩:=f.res;obtain⟨m,t,_,_⟩:=mC (x:=d-s.BJ) (by unfold Dh at g h;omega) f.drift;unfold F5
 grind
theorem ku{c:CA}(f:Fc c){i:Nat}{m:Al}(h:c.Ar[i]?=AC m){s:CC}(t:s.Al=(i:Int)){d:Int}(q:Dh s.BJ)(j:Dh d):Ev (λn=>Ik n c s d) (F5 c m.AX s d):=by
 obtain⟨B,x⟩:=f.res;have g: -2199023255552<=d-s.BJ/\d-s.BJ<=2199023255552:=by unfold Dh at q j;omega
 obtain⟨y,E,_,_⟩:=mC g f.drift;unfold Ik F5;simp only[t,QA h,XI];cases m.AX != 1 with
 |false=>exact Qa _
 |true=>
  simp only[Vo];refine Ea (v:=⟨0-Do (d-s.BJ) c.AQ.BC,c.AQ.Ak+Do (d-s.BJ) c.AQ.BC⟩) ?_ (Qa _);rw[QI (n:=d-s.BJ) om om];refine Ea (QoY g f.drift) ?_
  grind[QI,Qa]
def IX(c:CA)(x:Int):Bool:=AG (0<=x)&&AG (x<(AI c.Ar:Int))
theorem mF(c:CA)(x:Int):Ev (λn=>K3 n c x) (IX c x):=by
 simp_all[K3,IX,Eh,Qa]
theorem _s{c:CA}{x:Int}(h:IX c x=AE):∃i m,x=((i:Nat):Int)/\c.Ar[i]?=AC m:=by
 unfold IX at h;simp only[XV,Vq]at h;exact⟨x.toNat,c.Ar[x.toNat]'om,om,sq⟩
def nb(v lo hi:Int):Bool:= !(AG (v<lo))&& !(AG (hi<v))
theorem kx(v lo hi:Int):nb v lo hi=AE↔lo<=v/\v<=hi:=by
 simp_all[nb]
def FZ(x y:Ud):Int:=IJ [Cw x.B7 y.B7,Cw x.mat y.mat,Cw x.BS y.BS]
theorem va(n:Nat)(a b d:Int):J3 (n+4) [a,b,d]=AC (IJ [a,b,d]):=by
 unfold J3;have g:IB (n+4) [a,b,d] 0=bif a != 0 then AC (.d (.d a))else AC (.k 1):=rfl
 have h:IB (n+4) [a,b,d] 1=bif b != 0 then AC (.d (.d b))else AC (.k 2):=rfl
 have f:IB (n+4) [a,b,d] 2=bif d != 0 then AC (.d (.d d))else AC (.k 3):=rfl
 have j:IB (n+4) [a,b,d] 3=AC (.d (.k ())):=rfl;unfold IJ IJ IJ IJ;rw[iter,g];cases q:(a != 0)with
 |true=>rfl
 |false=>
  simp only[Vp];rw[iter,h];cases t:(b != 0)with
  |true=>rfl
  |false=>
   simp only[Vp];rw[iter,f];cases m:(d != 0)with
   |true=>rfl
   |false=>
    rfl
theorem QiF(n:Nat):(λx y=>MR (n+4) x y)=λx y=>AC (FZ x y):=by
 funext x y
 grind[MR,FZ,qJ,va]
def LM(h:CL):Ud:=⟨h.BB,h.Al,h.Ag⟩
def DT(c:CA)(h:CL):Bool:=AG (h.Al<0)||(AG ((AI c.Ar:Int)<=h.Al)||(!nb h.Ag 0 255||(!nb h.BB 0 1048576||(!nb h.BQ (-1099511627776) 1099511627776||(!nb h.A7 (-1099511627776) 1099511627776||AG (h.A7<h.BQ))))))
def Lq(W:Int)(a b:CL):Bool:=AG (FZ (LM a) (LM b)<0)||(AG (FZ (LM a) (LM b)=0)&&AG (W<i64.wrap (b.BQ-a.A7)))
def IW(c:CA)(x:AA CL)(i:Nat):Bool:=match x[i]? with
 |none=>AE
 |some h=> !DT c h&&((i==0)||(match x[i-1]? with
  |none=>AE
  |some p=>Lq c.AQ.A5 p h))
def D1(ok:Nat->Bool):Nat->Nat->Bool
 |0,_=>AE
 |d+1,i=>ok i&&D1 ok d (i+1)
def Dp(c:CA)(x:AA CL):Bool:=D1 (IW c x) (AI x) 0
theorem QhN(c:CA)(x:AA CL)(E:AI x<=1000000)(step:Nat->Int->AB (CF Int (CF Unit Int)))
  (m:∀i h,At x i h->(∀p,0<i->x[i-1]?=AC p->Ev (λn=>step n (i:Int)) (bif DT c h then CF.d (CF.d 170)else bif Lq c.AQ.A5 p h then CF.k ((i+1:Nat):Int)else CF.d (CF.d 170)))/\(i=0->Ev (λn=>step n (i:Int)) (bif DT c h then .d (.d 170)else .k ((i+1:Nat):Int))))
  (f:Ev (λn=>step n (AI x:Int)) (.d (.k ()))):Ev (λn=>iter (step n) n 0) (bif Dp c x then CF.k ()else CF.d 170):=by
 have:=uk (step:=step) (s0:=(0:Int)) (λi=>(i:Int)) (AI x) (λi=>(bif D1 (IW c x) (AI x-i) i then CF.k ()else CF.d 170:CF Unit Int)) rfl (λi q=>?_) ?_
 .exact this
 .have d:=Y6 (x:=x[i]) om (XJ q);generalize x[i]=h at d;obtain⟨B,y⟩:=m i h d;have j:AI x-i=(AI x-(i+1))+1:=om;have g:IW c x i=(!DT c h&&((i==0)||(match x[i-1]? with|none=>AE|some p=>Lq c.AQ.A5 p h))):=by
   unfold IW;rw[d.get]
  have t:D1 (IW c x) (AI x-i) i=(IW c x i&&D1 (IW c x) (AI x-(i+1)) (i+1)):=by rw[j];rfl
  grind
 .rw[Nat.sub_self];exact f
theorem Qje(p q:Ud):Ev (λn=>MR n p q) (FZ p q):=by
 refine⟨4,λn d=>?_⟩;obtain⟨k,rfl⟩:∃k,n=k+4:=⟨n-4,om⟩;exact congrFun (congrFun (QiF k) p) q
theorem QqA(n:Nat)(v:Int):J4 n v=AC (nb v (-1099511627776) 1099511627776):=by
 unfold J4;by_cases d:(-1099511627776)<=v
 .rw[JA d];simp only[Vo,XI,Option.some.injEq];rw[XX,kx,Vq];omega
 .rw[YO d];simp only[Vp,XI,Option.some.injEq]
  symm
  rw[VL];intro z;rw[kx]at z;omega
theorem QmA{e:Int}(c:CA)(x:AA CL)(H:AI x<=1000000)(he:Ev (λn=>G8 n c) e):Ev (λn=>OV n c x) (bif e != 0 then e else bif Dp c x then 0 else 170):=by
 unfold OV;refine Ea he ?_;cases(e != 0)with
 |true=>exact Qa _
 |false=>
  simp only[Vp];refine Ea (QhN c x H _ (λi h d=>?_) ?_) ?_
  .have t:Ev (λn=>((bif h.Al<0 then AC AE else(bif (AI c.Ar:Int)<=h.Al then AC AE else(bif h.Ag<0 then AC AE else(bif 255<h.Ag then AC AE else(bif h.BB<0 then AC AE else(bif 1048576<h.BB then AC AE else(J4 n h.BQ).bind λj=>(bif (!j)then AC AE else(J4 n h.A7).bind λg=>(bif (!g)then AC AE else AC (AG (h.A7<h.BQ)))))))))):AB Bool)) (DT c h):=by
    have e:DT c h=(AG (h.Al<0)||(AG ((AI c.Ar:Int)<=h.Al)||(AG (h.Ag<0)||(AG (255<h.Ag)||(AG (h.BB<0)||(AG (1048576<h.BB)||(!nb h.BQ (-1099511627776) 1099511627776||(!nb h.A7 (-1099511627776) 1099511627776||AG (h.A7<h.BQ))))))))):=by
     grind[DT,nb]
    rw[e];refine QR λ_=>QR λ_=>QR λ_=>QR λ_=>QR λ_=>QR λ_=>?_;simp only[QqA,XI];exact QR λ_=>QR λ_=>Qa _
   refine⟨λp E F=>?_,λE=>?_⟩
   .have y:((i:Int)==0)=false:=by grind
    have m:i64.wrap ((i:Int)-1)=((i-1:Nat):Int):=by
     grind[QI]
    unfold N8;simp only[d.lt,Vo,d.ix,XI,d.nx,y,Vp,m,QA F];cases B:DT c h with
    |true=>
     refine Ea (v:=(CF.d (CF.d (CF.d 170)):CF Unit (CF Int (CF Unit Int)))) (Ea t ?_) (Qa _);rw[B];exact Qa _
    |false=>
     refine Ea (v:=(bif Lq c.AQ.A5 p h then CF.k ()else CF.d (CF.d (CF.d 170)):CF Unit (CF Int (CF Unit Int)))) (Ea t ?_) ?_
     .rw[B];simp only[Vp];refine Ea (Qje _ _) ?_;show Ev (λn=>((bif 0<FZ (LM p) (LM h) then AC (AG (0<FZ (LM p) (LM h)))else(bif (FZ (LM p) (LM h)==0)then AC (AG ((i64.wrap (h.BQ-p.A7))<=c.AQ.A5))else AC AD)):AB Bool).bind λf=>((bif f then AC (CF.d (CF.d (CF.d 170)))else AC (CF.k ())):AB (CF Unit (CF Int (CF Unit Int))))) _;unfold Lq;rcases Int.lt_trichotomy (FZ (LM p) (LM h)) 0 with q|q|q
      iterate 3 grind[Qa]
     grind[Qa]
   .subst E;unfold N8;have G:(((0:Nat):Int)==0)=true:=rfl;simp only[d.lt,Vo,d.ix,XI,d.nx,G];refine Ea (v:=(bif DT c h then CF.d (CF.d (CF.d 170))else CF.k ():CF Unit (CF Int (CF Unit Int)))) (Ea t ?_) ?_
    .cases DT c h<;>exact Qa _
    .cases DT c h<;>exact Qa _
  .simp_all[N8,Qa]
  .cases Dp c x<;>exact Qa _
theorem rI(c:CA)(d:CA.wf c):∃b,Ev (λn=>K7 n c) b/\(b=AE->HK c/\Ev (λn=>G8 n c) (CM c)):=by
 have w:=Y2 d
 grind[JC,lK,QhO,QmG]
mutual
def ZC:CG->AA Int
 |⟨m,laps,ps⟩=>bif laps==0 then[m]else(List.replicate laps.toNat (Ck ps)).flatten
def Ck:AA CG->AA Int
 |[]=>[]
 |p::r=>ZC p++Ck r
end
theorem gn(p:CG):ZC p=bif p.As==0 then[p.Al]else(List.replicate p.As.toNat (Ck p.Ad)).flatten:=by cases p;rfl
theorem mf(p:CG)(r:AA CG):Ck (p::r)=ZC p++Ck r:=by rw[Ck]
theorem sT:∀(k:Nat) (out lap:AA Int),AI (Dn k out lap)<=256->Dn k out lap=out++(List.replicate k lap).flatten
 |0,out,lap,_=>by simp[Dn]
 |k+1,out,lap,h=>by
  rw[Dn]at h⊢;by_cases hb:256<AI out
  .grind
  .rw[Vr hb]at h⊢;rw[sT k _ _ h,Xl,Vl,Vi]
theorem qr{kk:Int}{p:CG}(h:Fx kk p=AE):p.As=0\/(1<=p.As/\p.As<=64/\Cu kk p.Ad=AE):=by
 rw[Zq]at h;cases d:(p.As==0)with
 |true=>grind
 |false=>
  simp_all[DG]
theorem QoQ(kk:Int):∀(m:Nat) (l:AA CG) (f:AA Int),Cc l<=m->Cu kk l=AE->AI (DU f l)<=256->DU f l=f++Ck l:=by
 intro m
 induction m using Nat.strongRecOn with
 |_ m F=>
 intro l
 induction l with
 |nil=>grind[DU,Ck]
 |cons p r j=>
  intro f E q y;rw[JH,List.all_cons,XV, <- JH]at q;have h:Ru p+Cc r<=m:=by rw[Cc]at E;omega
  rw[DU]at y⊢;by_cases x:256<AI (Dn (p.As.toNat+(bif 0<p.As then 0 else 1)) f (Fl p))
  .grind
  .have B:=sT _ _ _ (Nat.le_of_not_lt x);rw[j _ om q.2 y,B,mf,Vi];congr 2;rcases qr q.1 with H|⟨a,b,d⟩
   .simp_all[S1,gn]
   .have t:AG (0<p.As)=true:=JA om;have G:(p.As==0)=false:=gq;have g:AI (Fl p)<=256:=by
     rw[B,t]at x;simp only[Vo,Xw]at x;have:p.As.toNat=(p.As.toNat-1)+1:=om
     grind
    rw[S1,t,Vo]at g;rw[YS]at h;have:=F (Cc p.Ad) om p.Ad [] (XS _) d g;rw[S1,gn,t,G,Vo,Vo,Vp,Xw,this,Vh]
theorem QqL(kk:Int):∀(m:Nat) (l:AA CG) (f:AA Int),Cc l<=m->Cu kk l=AE->AI l<=1048576->(∀x∈l,CG.wf x)->AI f+AI (Ck l)<=256->Ev (λn=>Rl n l f) (f++Ck l):=by
 intro m
 induction m using Nat.strongRecOn with
 |_ m X=>
 intro l f hm L O Q P;rw[JH,Xs]at L;refine Jd ?_;show Ev (λn=>iy (Rl n) n l f) _;unfold iy;have inner:∀(p:CG) (w:AA Int),0<=p.As->p.As<=64->(∀o:AA Int,AI o+AI w<=256->Ev (λn=>Rl n p.Ad o) (o++w))->∀(k j:Nat) (o:AA Int),j+k=p.As.toNat->AI o+(List.replicate k w).flatten.length<=256->
   Dc (λn=>MI n (Rl n) p) (o,(j:Int)) (o++(List.replicate k w).flatten):=by
  intro p w H Y q k
  induction k with
  |zero=>
   intro j o W _;refine Ei ?_;unfold MI;simp only[YO (show¬((j:Int)<p.As)by omega),Vp,List.replicate_zero,List.flatten_nil,Vg];exact Qa _
  |succ k F=>
   intro j o W h;rw[Xl,Vl]at h⊢;simp only[X2]at h;refine(Ew ?_ (F (j+1) (o++w) om gq)).eq sq;unfold MI;simp only[dT ((j:Int)<p.As),Vo];refine Ea (q o om) ?_;rw[YU om];exact Qa _
 have loop:∀(r:AA CG) (i:Nat) (o:AA Int),l.drop i=r->i<=AI l->AI o+AI (Ck r)<=256->Dc (λn=>OH n l (Rl n)) (o,(i:Int)) (o++Ck r):=by
  intro r
  induction r with
  |nil=>
   intro i o q J _;refine Ei ?_;unfold OH;simp only[Yw q J,Vp,Ck,Vg];exact Qa _
  |cons p r G=>
   intro i o q J h;obtain⟨g,B⟩:=QH om q;have N:=g.lt';rw[mf,X2]at h;have T:=Y7 g.mem;rw[YS]at T;obtain⟨M,w2⟩:=Yo (Q p g.mem);have R:=L p g.mem;refine(Ew ?_ (G (i+1) (o++ZC p) B om gq)).eq (by rw[mf,Vi]);unfold OH;simp only[g.lt,Vo,g.ix,XI,g.nx];rcases qr R with H|⟨a,b,d⟩
   .have t:(p.As==0)=true:=by simp[H]
    have y:ZC p=[p.Al]:=by rw[gn,t];rfl
    rw[y]at h⊢;refine Ea (v:=o++[p.Al]) ?_ ?_
    .rw[t];refine Rb ?_
     grind[qD,Qa]
    .refine Ea (v:=o++[p.Al]) ((Ei ?_).ev) (Qa _)
     simp_all[MI,Qa]
   .have t:(p.As==0)=false:=gq;have y:ZC p=(List.replicate p.As.toNat (Ck p.Ad)).flatten:=by rw[gn,t];rfl
    rw[y]at h⊢;refine Ea (v:=o) ?_ ?_
    .rw[t];exact Qa _
    .refine Ea ((inner p (Ck p.Ad) om b (λV E=>X (Cc p.Ad) om p.Ad V (XS _) d M w2 E) p.As.toNat 0 o om om).ev) (Qa _)
 exact Ea ((loop l 0 f sq (XT _) P).ev) (Qa _)
structure Ft (c:CA):Prop where
 parts:∀d∈c.AP,Cu ((AI c.Ar:Int)-1) d.Ae=AE
 route:∀d∈c.AP,2<=AI (DU [] d.Ae)/\AI (DU [] d.Ae)<=256
 len:∀d∈c.AP,AI d.Ae<=1048576
 wf:∀d∈c.AP,∀x∈d.Ae,CG.wf x
 legs:AI c.Az<=512
theorem Ft.exp{c:CA}(g:Ft c){d:AN}(f:d∈c.AP):DU [] d.Ae=Ck d.Ae:=by
 have:=QoQ _ _ d.Ae [] (XS _) (g.parts d f) (g.route d f).2
 grind
theorem mw{c:CA}(g:Ft c){d:AN}(f:d∈c.AP):Ev (λn=>O0 n d.Ae) (Ck d.Ae):=by
 unfold O0;have h:=(g.route d f).2;rw[g.exp f]at h;refine Ea ((QqL _ _ d.Ae [] (XS _) (g.parts d f) (g.len d f) (g.wf d f) (by simpa using h)).eq (Vh _)) (Qa _)
theorem hQ{c:CA}(he:Ev (λn=>G8 n c) 0){i:Nat}{d:AN}(f:c.AP[i]?=AC d):Ev (λn=>J5 n c (i:Int)) (d,0):=by
 unfold J5;refine Ea he ?_;have g:=(XK.1 f).1
 simp_all[YO,Qa,QA]
theorem QqR(c:CA)(d:AI c.Az<=512):∃m,Ev (λn=>Go.Sw.iter (I' n c) n (([]:AA (Ub×Cp)),0)) m:=by
 refine⟨_,Q9 c.Az (λ(m:AA (Ub×Cp)) x=>QK m ({BX:=x.BA,to_:=x.To:Ub}) x) [] (λm i=>(m,(i:Int))) (λm=>m) om rfl (λi x m ha _=>?_) ?_⟩
 .unfold I';simp only[ha.lt,Vo,ha.ix,XI,ha.nx];exact Qa _
 simp_all[I',Qa]
theorem Qne{α:Type}{step:Nat->Int->AB (CF Int (CF Unit Int))}(l:AA α)(q:α->Bool)(H:AI l<=1048576)
  (B:∀i x,At l i x->Ev (λn=>step n (i:Int)) (bif q x then .d (.d (i:Int))else .k ((i+1:Nat):Int)))(F:Ev (λn=>step n (AI l:Int)) (.d (.k ()))):
  (∃i x,At l i x/\l.find? q=AC x/\Ev (λn=>Go.Sw.iter (step n) n 0) (.d (i:Int)))\/l.find? q=AF/\Ev (λn=>Go.Sw.iter (step n) n 0) (.k ()):=by
 have f:∀(r:AA α) (i:Nat),l.drop i=r->i<=AI l->(∃j x,At l j x/\r.find? q=AC x/\Dc step (i:Int) (.d (j:Int)))\/r.find? q=AF/\Dc step (i:Int) (.k ()):=by
  intro r
  induction r with
  |nil=>
   intro i m E;have:i=AI l:=by have:=Xq.1 m;omega
   simp_all[Ei]
  |cons x r G=>
   intro i m E;obtain⟨g,y⟩:=QH om m;have t:=g.lt';have h:=B i x g;rw[List.find?_cons];cases e:q x with
   |true=>rw[e]at h;exact .inl ⟨i,x,g,rfl,Ei h⟩
   |false=>
    grind[Dc.cont]
 rcases f l 0 sq (XT _)with⟨j,x,a,b,d⟩|⟨a,b⟩
 .exact .inl ⟨j,x,a,b,d.ev⟩
 .exact .inr ⟨a,b.ev⟩
theorem QqC{c:CA}(w:C2 c)(q:FC c)(h:CM c=0):Ft c:=by
 unfold CM at h;cases g:F0 c with
 |false=>grind
 |true=>
  rw[g]at h;cases x:Hy c with
  |false=>grind
  |true=>
   rw[x]at h;cases f:Cv c with
   |false=>grind
   |true=>
    rw[f]at h;simp only[Vo]at h;have t:c.AP.all (D5 c)=true:=by
     grind
    unfold Cv at f;simp only[XV]at f;obtain⟨_,_,_,m,_⟩:=f;unfold F0 at g;simp only[XV,Bool.not_eq_true',XW,decide_eq_false_iff_not]at g;rw[Xs]at t m;refine⟨λd j=>?_,λd j=>?_,q.len,q.wf,?_⟩
    .simp_all[IY]
    .simp_all[D5,Hx]
    omega
theorem Qqk:∀j:Fin 257,(AG (0<(u64.wrap ((u64.wrap ((u64.wrap ((Y8 .u64 (u64.wrap ([(0:Int)].length:Int)) 32)*(Y8 .u64 (u64.wrap ((j:Nat):Int)) 32)))+(Y8 .u64 (u64.wrap ((u64.wrap ((Y8 .u64 (u64.wrap ([(0:Int)].length:Int)) 32)*(Jl .u64 (u64.wrap ((j:Nat):Int)) 4294967295)))+(Y8 .u64 (u64.wrap ((Jl .u64 (u64.wrap ([(0:Int)].length:Int)) 4294967295)*(Jl .u64 (u64.wrap ((j:Nat):Int)) 4294967295))) 32))) 32)))+(Y8 .u64 (u64.wrap ((Jl .u64 (u64.wrap ((u64.wrap ((Y8 .u64 (u64.wrap ([(0:Int)].length:Int)) 32)*(Jl .u64 (u64.wrap ((j:Nat):Int)) 4294967295)))+(Y8 .u64 (u64.wrap ((Jl .u64 (u64.wrap ([(0:Int)].length:Int)) 4294967295)*(Jl .u64 (u64.wrap ((j:Nat):Int)) 4294967295))) 32))) 4294967295)+(u64.wrap ((Jl .u64 (u64.wrap ([(0:Int)].length:Int)) 4294967295)*(Y8 .u64 (u64.wrap ((j:Nat):Int)) 32))))) 32)))))=false:=by decide+kernel
theorem Qob:∀j:Fin 257,(AG (9223372036854775807<(u64.wrap ((u64.wrap ([(0:Int)].length:Int))*(u64.wrap ((j:Nat):Int))))))=false:=by decide+kernel
theorem Qql:∀j:Fin 257,(i64.wrap (u64.wrap ((u64.wrap ([(0:Int)].length:Int))*(u64.wrap ((j:Nat):Int)))))=((j:Nat):Int):=by decide+kernel
theorem Qoc(x:Int)(K:Nat)(F:K<=256):∀(m j:Nat),1<=j->j<=K->K-j<=m->Dc (λn=>OE n) (List.replicate j x++List.replicate (K-j) 0,(j:Int)) (List.replicate K x):=by
 intro m
 induction m with
 |zero=>
  intro j y t B;obtain rfl:j=K:=om
  simp_all[Ei,OE,Qa]
 |succ m q=>
  intro j y t B;by_cases E:j=K
  .grind
  .have g:AI (List.replicate j x++List.replicate (K-j) (0:Int))=K:=by simp;omega
   refine Ew ?_ (q (j+min j (K-j)) om om om);unfold OE;simp only;generalize hL:List.replicate j x++List.replicate (K-j) (0:Int)=L at g;have d:L.take j=List.replicate j x:=gq;have h:L.drop j=List.replicate (K-j) 0:=gq;rw[JA om,Vo,Qn5 L om,XI,pz L om,XI];unfold RI;simp only[XI,Int.toNat_natCast,g,d];have f:L.take j++(List.replicate j x).take (K-j)++L.drop (j+min (AI (List.replicate j x)) (K-j))=List.replicate (j+min j (K-j)) x++List.replicate (K-(j+min j (K-j))) 0:=by
    rw[<- List.drop_drop,d,h,List.length_replicate,List.take_replicate,List.drop_replicate,List.replicate_append_replicate]
    grind
   rw[d]at f;rw[f];have w:i64.wrap ((j:Int)+((min (AI (List.replicate j x)) (K-j):Nat):Int))=((j+min j (K-j):Nat):Int):=by
    rw[List.length_replicate,Dx];omega
   rw[w];exact Qa _
theorem Ra{α:Type}{c:Bool}{f g:Nat->AB α}{v:α}(h:c=AD)(q:Ev g v):Ev (λn=>bif c then f n else g n) v:=by simp_all
theorem md(x:Int)(k:Nat)(f:1<=k)(d:k<=256):Ev (λn=>K8 n [x] (k:Int)) (List.replicate k x):=by
 have j:=Qqk ⟨k,om⟩;have h:=Qob ⟨k,om⟩;have g:=Qql ⟨k,om⟩;unfold K8;refine Ea (v:=()) (by grind[Qa]) (Ea (v:=()) (Qa _) (Ea (v:=AD) ?_ (Ea (v:=()) (Qa _) ?_)))
 .exact Ra j (EA (congrArg AC h))
 .refine Ea (v:=List.replicate k 0) (EA ((congrArg (λz=>mk z (0:Int)) g).trans ?_)) ?_
  .show mk (k:Int) 0=_;unfold mk
   grind
  .refine Ea (v:=List.replicate 1 x++List.replicate (k-1) 0) (EA ?_) ?_
   .unfold RI
    grind
   .have e:((min [x].length (AI (List.replicate k (0:Int))):Nat):Int)=((1:Nat):Int):=by simp;omega
    rw[e];exact Ea ((Qoc x k d k 1 (XS _) f om).ev) (Qa _)
set_option maxRecDepth 10000
theorem Y4{c:CA}(h:CM c=0):F0 c=AE/\Cv c=AE/\ ∀d∈c.AP,D5 c d=true:=by
 unfold CM at h
 grind
theorem rJ{c:CA}(h:CM c=0):Fc c:=by
 obtain⟨d,f,_⟩:=Y4 h;unfold F0 at d;unfold Cv Ln DG at f;simp only[XV,Bool.not_eq_true',XW,decide_eq_false_iff_not,Vq]at d f;refine⟨?_,?_,?_⟩
 iterate 3 omega
theorem KT{α:Type}{c:Bool}{f g:Nat->AB α}{v:α}(h:c=AE)(q:Ev f v):Ev (λn=>bif c then f n else g n) v:=by simp_all
def D7(l:AA Int)(x:Int):Nat->Nat
 |0=>0
 |j+1=>bif (l[j+1]? ==AC x)then j+1 else D7 l x j
theorem lz(l:AA Int)(x:Int):∀j,D7 l x j<=j
 |0=>XS _
 |j+1=>by
  unfold D7;have:=lz l x j
  grind
def DJ(d:AN)(k:Nat):AA Int:=(Ck d.Ae).take (D7 (Ck d.Ae) d.Am (AI (Ck d.Ae)-1)+1)++List.replicate k d.Am++(Ck d.Ae).drop (D7 (Ck d.Ae) d.Am (AI (Ck d.Ae)-1)+1)
def CX(c:CA)(i k:Int):AA Int×Int:=
 bif i<0 then([],90)else match c.AP[i.toNat]? with
 |none=>([],90)
 |some d=>bif AG (k<0)||(AG (0<k)&&AG (d.Am<0))then([],90)else bif 256-(AI (Ck d.Ae):Int)<k then([],2)else(DJ d k.toNat,0)
theorem me(d:AN)(e:Int)(l:AA Int)(hl:AI l<=256):∀(m:Nat),m<AI l->Dc (λn=>MH n (d,e) l) (m:Int) ((D7 l d.Am m:Nat):Int)
 |0,h=>by
  grind[Dc.done,MH,D7,Qa]
 |m+1,h=>by
  have hx:l[m+1]?=AC (l[m+1]'(h)):=sq;unfold D7;rw[hx];cases hq:((l[m+1]'(h)) != d.Am)with
  |true=>
   have e1:(AC (l[m+1]'(h))==AC d.Am)=false:=gq;rw[e1,Vp];refine Ew ?_ (me d e l hl m om);unfold MH;rw[JA (show(0:Int)<((m+1:Nat):Int)by omega),Vo,QA hx,XI,hq,XI,Vo,QI (n:=((m+1:Nat):Int)-1) om om,show((m+1:Nat):Int)-1=(m:Int)by omega];exact Qa _
  |false=>
   have e1:(AC (l[m+1]'(h))==AC d.Am)=true:=gq;rw[e1,Vo];refine Ei ?_;unfold MH;rw[JA (show(0:Int)<((m+1:Nat):Int)by omega),Vo,QA hx,XI,hq,XI,Vp];exact Qa _
theorem mE{c:CA}(g:Ft c)(he:Ev (λn=>G8 n c) 0)(i k:Int):Ev (λn=>Ij n c i k) (CX c i k):=by
 unfold CX;by_cases F:i<0
 .rw[JA F,Vo];unfold Ij II;refine Ea (v:=((90:Int),([]:AA Int))) (Ea (v:=CT.c0 90) ?_ (Qa _)) (Qa _);refine Ea (v:=(Uu,90)) ?_ (KT rfl (Qa _));unfold J5;refine Ea he (QW (Ea (v:=AE) ?_ (Qa _)));rw[JA F];exact Qa _
 rw[YO F,Vp];obtain⟨j,rfl⟩:∃j:Nat,i=(j:Int):=⟨i.toNat,om⟩;rw[Int.toNat_natCast];cases q:c.AP[j]? with
 |none=>
  have H:AI c.AP<=j:=gq;unfold Ij II;refine Ea (v:=((90:Int),([]:AA Int))) (Ea (v:=CT.c0 90) ?_ (Qa _)) (Qa _);refine Ea (v:=(Uu,90)) ?_ (KT rfl (Qa _));unfold J5;refine Ea he (QW (Ea (v:=AE) ?_ (Qa _)))
  simp_all[Qa]
 |some d=>
  simp only;have t:=VG q;have h:=(g.route d t);rw[g.exp t]at h;have w:i64.wrap (256-(AI (Ck d.Ae):Int))=256-(AI (Ck d.Ae):Int):=Dx;unfold Ij II;cases B:(AG (k<0)||(AG (0<k)&&AG (d.Am<0)))with
  |true=>
   refine Ea (v:=((90:Int),([]:AA Int))) (Ea (v:=CT.c1 ()) (Ea (hQ he q) (QW (Ea (v:=AE) ?_ (Qa _)))) (Qa _)) (Qa _)
   grind[Qa]
  |false=>
   have x:=B;simp only[XW,decide_eq_false_iff_not,Bool.and_eq_false_iff]at x;cases G:AG (256-(AI (Ck d.Ae):Int)<k)with
   |true=>
    refine Ea (v:=((2:Int),Ck d.Ae)) (Ea (v:=CT.c2 (Ck d.Ae)) (Ea (hQ he q) (QW (Ea (v:=AD) ?_ (QW (Ea (mw g t) ?_))))) (Qa _)) (Qa _)
    .exact Eu (QR λ_=>Eh λ_=>Qa _) B
    simp_all[Qa]
   |false=>
    have J:=Vv G;obtain⟨f,rfl⟩:∃f:Nat,k=(f:Int):=⟨k.toNat,om⟩;obtain⟨m,y⟩:=QqR c g.legs;rw[Int.toNat_natCast];refine Ea (v:=(0,DJ d f)) (Ea (v:=CT.c3 (DJ d f,m)) (Ea (hQ he q) (QW (Ea (v:=AD) ?_ (QW (Ea (mw g t) ?_))))) (Qa _)) (Qa _)
    .exact Eu (QR λ_=>Eh λ_=>Qa _) B
    .simp only[w,G,Vp];refine Ea (v:=DJ d f) ?_ (Ea y (Qa _));by_cases M:f=0
     .simp_all[Qa,DJ]
     .refine KT (dT ((0:Int)<(f:Int))) ?_;have E:=me d 0 (Ck d.Ae) h.2 (AI (Ck d.Ae)-1) om;have L:=lz (Ck d.Ae) d.Am (AI (Ck d.Ae)-1);rw[QI (n:=(AI (Ck d.Ae):Int)-1) om om,show(AI (Ck d.Ae):Int)-1=((AI (Ck d.Ae)-1:Nat):Int)by omega];refine Ea E.ev (Ea (md d.Am f om om) (Ea (EA ?_) (Qa _)))
      grind[DJ,QI,ZH,Nat.blt,Nat.ble_eq_true_of_le,YG]
theorem iX{c:CA}(g:Ft c){i k:Int}(h:(CX c i k).2=0):∃(j:Nat) (d:AN) (f:Nat),i=(j:Int)/\k=(f:Int)/\c.AP[j]?=AC d/\(0<f->0<=d.Am)/\AI (Ck d.Ae)+f<=256/\(CX c i k).1=DJ d f:=by
 unfold CX at h⊢;by_cases t:i<0
 .grind
 rw[YO t,Vp]at h⊢;cases m:c.AP[i.toNat]? with
 |none=>grind
 |some d=>
  rw[m]at h;simp only at h⊢;cases q:(AG (k<0)||(AG (0<k)&&AG (d.Am<0)))with
  |true=>grind
  |false=>
   rw[q]at h;cases x:AG (256-(AI (Ck d.Ae):Int)<k)with
   |true=>grind
   |false=>
    grind
def F1(c:CA):AA Int->Prop
 |a::b::r=>C4 c a b=AE/\F1 c (b::r)
 |_=>True
theorem tC{c:CA}{len:Nat}:∀{r:AA Int} {i:Nat} {p:Int},Fh c len i p r=AE->F1 c r/\(i≠0->∀m q,r=m::q->C4 c p m=AE)
 |[],_,_,_=>⟨trivial,sq⟩
 |m::r,i,p,h=>by
  unfold Fh at h;simp only[XV,Bool.or_eq_true,Vq]at h;obtain⟨_,_,h1,h2⟩:=h;obtain⟨a1,a2⟩:=tC h2;refine⟨?_,λhi m' q e=>?_⟩
  .cases r with
   |nil=>trivial
   |cons b r=>exact⟨a2 om b r rfl,a1⟩
  grind
theorem F1.tail{c:CA}:∀{r:AA Int} (k:Nat),F1 c r->F1 c (r.drop k)
 |r,0,h=>by simpa using h
 |[],k+1,_=>by simp[F1]
 |[a],k+1,_=>by simp[F1]
 |a::b::r,k+1,h=>by
  rw[List.drop_succ_cons];exact F1.tail k h.2
theorem F1.append{c:CA}:∀{p:AA Int} {x:Int} {q:AA Int},F1 c (p++[x])->F1 c (x::q)->F1 c (p++x::q)
 |[],x,q,_,h=>h
 |[a],x,q,h1,h2=>⟨h1.1,h2⟩
 |a::b::r,x,q,h1,h2=>⟨h1.1,F1.append (p:=b::r) h1.2 h2⟩
theorem qT{c:CA}{x:Int}(h:C4 c x x=AE){q:AA Int}(hq:F1 c (x::q)):∀k,F1 c (x::(List.replicate k x++q))
 |0=>hq
 |k+1=>⟨h,qT h hq k⟩
theorem F1.at{c:CA}:∀{r:AA Int} {i:Nat} {a b:Int},F1 c r->r[i]?=AC a->r[i+1]?=AC b->C4 c a b=AE
 |[],_,_,_,_,h,_=>by simp at h
 |[x],i,_,_,_,_,h=>by simp at h
 |x::y::r,0,a,b,h,h1,h2=>by simp at h1 h2;subst h1;subst h2;exact h.1
 |x::y::r,i+1,a,b,h,h1,h2=>F1.at (r:=y::r) h.2 (by simpa using h1) gq
theorem sE(l:AA Int)(x:Int):∀m,m<AI l->(∃i,i<=m/\0<i/\l[i]?=AC x)->l[D7 l x m]?=AC x
 |0,h,⟨i,h1,h2,_⟩=>om
 |m+1,h,⟨i,h1,h2,h3⟩=>by
  unfold D7;cases e:(l[m+1]? ==AC x)with
  |true=>grind
  |false=>
   simp only[Vp];refine sE l x m om ⟨i,?_,h2,h3⟩
   grind
theorem Ql8{c:CA}(g:Ft c)(N:CM c=0){d:AN}(G:d∈c.AP)(k:Nat)(Q:0<k->0<=d.Am):F1 c (DJ d k):=by
 have h:=(Y4 N).2.2 d G;unfold D5 Hx at h;rw[g.exp G]at h;simp only[XV,Vq]at h;obtain⟨⟨l2,J⟩,P,E,_⟩:=h;have Y:=(tC P).1;unfold DJ;by_cases T:k=0
 .simp_all
 have O:=Q om;rw[JA O,Vo]at E;simp only[XV,Bool.not_eq_true',beq_eq_false_iff_ne,ne_eq]at E;obtain⟨e1,V,e3⟩:=E;have f:d.Am∈Ck d.Ae:=by
  grind
 obtain⟨i,X,L⟩:=List.getElem_of_mem f;have F:0<i:=by
  rcases Nat.eq_zero_or_pos i with q|q
  .subst q;cases W:Ck d.Ae with
   |nil=>grind
   |cons m r=>
    simp_all[Fh]
  .exact q
 have t:=sE (Ck d.Ae) d.Am (AI (Ck d.Ae)-1) om ⟨i,om,F,gq⟩;generalize hb:D7 (Ck d.Ae) d.Am (AI (Ck d.Ae)-1)=b at t;have M:b<AI (Ck d.Ae):=gq;have j:(Ck d.Ae).drop b=d.Am::(Ck d.Ae).drop (b+1):=by
  grind[List.drop_eq_getElem_cons]
 have B:(Ck d.Ae).take (b+1)=(Ck d.Ae).take b++[d.Am]:=by
  grind
 have H:∀{p q:AA Int},F1 c (p++q)->F1 c p:=by
  intro p
  induction p with
  |nil=>intro q _;trivial
  |cons x p R=>
   intro q h;cases p with
   |nil=>trivial
   |cons y p=>exact⟨h.1,R h.2⟩
 have a1:F1 c ((Ck d.Ae).take b++[d.Am]):=by
  grind[List.take_append_drop]
 grind[F1.tail,F1.append,qT]
set_option maxRecDepth 10000
theorem IP{x:Int}:FI x=AE↔Dh x:=by
 simp_all[FI,DG,Dh]
def Di(k:CD)(h:CL):Int:=Dd (λx:CC=>({mat:=x.Al,BS:=x.Ag:Uf})=={mat:=h.Al,BS:=h.Ag}) k.AR 0
def Fw(c:CA)(s:CC)(h:CL):CJ:={Lo:=i64.wrap (h.BQ+(F5 c (Ch c h.Al) s h.BQ).Lo),Hi:=i64.wrap (h.A7+(F5 c (Ch c h.Al) s h.A7).Hi)}
def Dr(c:CA)(k:CD)(h:CL):AB Ue:=
 bif Ch c h.Al==1 then AC {Ah:= -1,A9:=Fw c {Al:=h.Al,Ag:=h.Ag,BJ:=0} h}else
  bif Di k h<0 then AF else(k.AR[(Di k h).toNat]?).map λs=>{Ah:=Di k h,A9:=Fw c s h}
def C7(c:CA)(k:CD):AA CL->AB (AA Ue)
 |[]=>AC []
 |h::r=>(Dr c k h).bind λx=>(C7 c k r).map λl=>x::l
theorem nF(c:CA)(k:CD)(h:CL)(r:AA CL):C7 c k (h::r)=(Dr c k h).bind λx=>(C7 c k r).map λl=>x::l:=rfl
theorem mI(k:CD)(h:CL)(f:AI k.AR<=1048576):Ev (λn=>Od n k.AR h) (Di k h):=by
 unfold Od;refine Ev.first k.AR _ om (λi x d=>?_) ?_
 .unfold VY;simp only[d.lt,Vo,d.ix,XI,d.nx]
  grind[Wx,Qa]
 simp_all[VY,Qa]
theorem rW{k:CD}{h:CL}(q:¬Di k h<0):∃(j:Nat) (s:CC),Di k h=(j:Int)/\k.AR[j]?=AC s/\s.Al=h.Al/\s.Ag=h.Ag:=by
 rcases eP (λx:CC=>({mat:=x.Al,BS:=x.Ag:Uf})=={mat:=h.Al,BS:=h.Ag}) k.AR 0 with⟨d,_⟩|⟨j,s,d,f,g,_⟩
 .unfold Di at q;omega
 .refine⟨j,s,by unfold Di;rw[d];simp,f,?_⟩
  grind
structure HI (c:CA) (h:CL):Prop where
 mat:∃(i:Nat) (m:Al),h.Al=(i:Int)/\c.Ar[i]?=AC m
 fi:Dh h.BQ
 la:Dh h.A7
 le:h.BQ<=h.A7
theorem QpD{c:CA}{h:CL}(q:DT c h=AD):HI c h:=by
 unfold DT at q;simp only[XW,decide_eq_false_iff_not,Bool.not_eq_false',kx]at q;obtain⟨g,j,_,_,f,d,m⟩:=q;exact⟨⟨h.Al.toNat,c.Ar[h.Al.toNat]'om,om,sq⟩,f,d,om⟩
theorem qF{p:Nat->Bool}:∀{m i:Nat},D1 p m i=AE->∀j,i<=j->j<i+m->p j=AE
 |0,i,_,j,h1,h2=>om
 |m+1,i,h,j,h1,h2=>by
  unfold D1 at h;rw[XV]at h;rcases Nat.eq_or_lt_of_le h1 with rfl|q
  .exact h.1
  .exact qF h.2 j q om
theorem qQ{c:CA}{x:AA CL}(h:Dp c x=AE):∀y∈x,HI c y:=by
 intro y d;obtain⟨i,f,rfl⟩:=List.getElem_of_mem d;have:=qF h i (XT _) om
 simp_all[IW,QpD]
theorem pp{c:CA}(t:Fc c)(he:Ev (λn=>G8 n c) 0){s:CC}{i:Nat}{m:Al}(j:s.Al=(i:Int))(g:c.Ar[i]?=AC m)(f:Dh s.BJ){d:Int}(h:Dh d):
  Ev (λn=>JY n c s d) (F5 c m.AX s d,0):=by
 have q:IX c s.Al=true:=by
  have:=(XK.1 g).1
  simp_all[IX]
 unfold JY;refine Ea he (QW (Ea (v:=AD) (Ea (mF c _) ?_) (QW (Ea (ku t g j f h) (Qa _)))));rw[q];refine QW (Ea (d_ d) ?_);rw[IP.2 h];refine QW (Ea (d_ s.BJ) ?_);rw[IP.2 f];exact Qa _
structure KV (k:CD):Prop where
 dims:LF k
 ev:Ev (λn=>JW n k) 0
 anc:∀s∈k.AR,Dh s.BJ
theorem lm{k:CD}(w:FR k)(h:Fm k=AE):KV k:=by
 have e:=kr k w;rw[h]at e;refine⟨QmN h,e,λs g=>?_⟩;unfold Fm at h;simp only[XV]at h;have f:=h.2.1;unfold IS at f;obtain⟨i,d,rfl⟩:=List.getElem_of_mem g;have:=gH.1 f i d;rw[XJ d]at this;unfold Hw at this;simp only[Bool.not_eq_true',XW,Bool.not_eq_false']at this;exact IP.1 this.2.2.2.2.1
theorem Qqv{c:CA}{h:CL}{i:Nat}{m:Al}(d:h.Al=(i:Int))(f:c.Ar[i]?=AC m):Ch c h.Al=m.AX:=by
 simp_all[Ch]
theorem QoR{c:CA}{k:CD}(T:Fc c)(he:Ev (λn=>G8 n c) 0)(kk:KV k)(x:AA CL)(Y:∀y∈x,HI c y)(hl:AI x<=1000):
  Ev (λn=>iter (IA n c k x) n ([],0)) (match C7 c k x with|some l=>CF.k l|none=>CF.d (CK.c0 170)):=by
 have hs:=kk.dims.segs;have O:∀(r:AA CL) (a:AA Ue) (i:Nat),x.drop i=r->i<=AI x->AI a<=i->Dc (λn=>IA n c k x) (a,(i:Int)) (match C7 c k r with|some l=>CF.k (a++l)|none=>CF.d (CK.c0 170)):=by
  intro r
  induction r with
  |nil=>
   intro a i Q R d;refine Ei ?_;unfold IA;simp only[Yw Q R,Vp];refine(Qa _).eq ?_;simp[C7]
  |cons h r ih=>
   intro a i Q R aa;obtain⟨d,J⟩:=QH om Q;have V:=d.lt';obtain⟨⟨j,m,E,t⟩,W,f2,f3⟩:=Y h d.mem;have M:=Qqv E t;have step:∀(g:Int×CC),g.2.Al=(j:Int)->Dh g.2.BJ->
     Ev (λn=>(JY n c g.2 h.BQ).bind λL=>(JY n c g.2 h.A7).bind λP=>(app a [{Ah:=g.1,A9:={Lo:=i64.wrap (h.BQ+L.1.Lo),Hi:=i64.wrap (h.A7+P.1.Hi):CJ}:Ue}]).bind λH=>AC (CF.k (H,((i+1:Nat):Int)):CF (AA Ue×Int) (CF (AA Ue) CK)))
      (CF.k (a++[{Ah:=g.1,A9:=Fw c g.2 h}],((i+1:Nat):Int))):=by
    intro g G F;refine Ea (pp T he G t F W) (Ea (pp T he G t F f2) (Ea (EA (gj om)) ((Qa _).eq ?_)));unfold Fw;rw[M]
   have f:∀(y:Ue),Dr c k h=AC y->Ev (λn=>IA n c k x (a,(i:Int))) (CF.k (a++[y],((i+1:Nat):Int)))->Dc (λn=>IA n c k x) (a,(i:Int)) (match C7 c k (h::r)with|some l=>CF.k (a++l)|none=>CF.d (CK.c0 170)):=by
    intro y X N;refine Ew N ((ih (a++[y]) (i+1) J om (by simp;omega)).eq ?_);rw[nF,X]
    grind
   cases B:(Ch c h.Al==1)with
   |true=>
    refine f {Ah:= -1,A9:=Fw c {Al:=h.Al,Ag:=h.Ag,BJ:=0} h} (by unfold Dr;rw[B];rfl) ?_;unfold IA;simp only[d.lt,Vo,d.ix,XI,d.nx];refine Ea (mI k h om) ?_;simp only[E,QA t,XI]
    simp_all[Dh]
   |false=>
    by_cases q:Di k h<0
    .have tn:Dr c k h=none:=by unfold Dr;grind
     refine Ei ?_;unfold IA;rw[nF,tn];simp only[d.lt,Vo,d.ix,XI,d.nx];refine Ea (mI k h om) ?_;simp only[E,QA t,XI];rw[M]at B;refine Ea (v:=CF.d (.d (.d (CK.c0 170)))) (by rw[B,JA q];exact Qa _) ?_;exact Qa _
    .obtain⟨jj,s,G,F,g3,g4⟩:=rW q;refine f {Ah:=Di k h,A9:=Fw c s h} (by unfold Dr;grind) ?_;unfold IA;simp only[d.lt,Vo,d.ix,XI,d.nx];refine Ea (mI k h om) ?_;simp only[E,QA t,XI];rw[M]at B;refine Ea (v:=CF.k (Di k h,s)) (by rw[B,YO q,G];simp_all[QA,Qa]) ?_;exact step (Di k h,s) (g3.trans E) (kk.anc s (VG F))
 have:=(O x [] 0 rfl (XT _) (XS _)).ev
 grind
theorem rn{c:CA}{k:CD}:∀{x:AA CL} {l:AA Ue},C7 c k x=AC l->AI l=AI x/\ ∀(i:Nat) (h:CL),x[i]?=AC h->∃t,l[i]?=AC t/\Dr c k h=AC t
 |[],l,h=>by
  simp_all[C7]
 |y::x,l,h=>by
  unfold C7 at h;cases e:Dr c k y with
  |none=>grind
  |some t=>
   rw[e]at h;cases e2:C7 c k x with
   |none=>grind
   |some l2=>
    rw[e2]at h;cases h;obtain⟨p1,p2⟩:=rn e2
    grind
theorem Qno{c:CA}{k:CD}{h:CL}{t:Ue}(q:Dr c k h=AC t):t.Ah= -1\/ ∃(j:Nat) (s:CC),t.Ah=(j:Int)/\k.AR[j]?=AC s/\s.Al=h.Al:=by
 unfold Dr at q;cases f:(Ch c h.Al==1)with
 |true=>grind
 |false=>
  rw[f]at q;by_cases d:Di k h<0
  .grind
  .rw[YO d]at q;obtain⟨j,s,m,g,x,_⟩:=rW d
   grind
def KZ(a:AA (Int×Ue)×Int)(h:Ac):AA (Int×Ue)×Int:=
 bif !(JP a.1 h.AT)then(QK a.1 h.AT {Ah:= -1,A9:={Lo:=h.Lo,Hi:=h.Hi}},if a.2<h.AT then h.AT else a.2)else a
def HC(l:AA Ac):AA (Int×Ue)×Int:=l.foldl KZ ([],-1)
theorem QoV(l:AA Ac)(d:AI l<=1048576):Ev (λn=>iter (N' n l) n ([],(-1),0)) (HC l):=by
 refine Q9 l KZ ([],-1) (λa i=>(a.1,a.2,(i:Int))) (λa=>a) om rfl (λi x a ha _=>?_) ?_
 .unfold N' KZ;simp only[ha.lt,Vo,ha.ix,XI,ha.nx]
  grind[Qa]
 simp_all[N',Qa]
theorem lY:∀(l:AA Ac) (a:AA (Int×Ue)×Int) (p:Int),Jq (l.foldl KZ a).1 p=(match Jq a.1 p with|some x=>AC x|none=>(l.find? λh=>h.AT==p).map λh=>{Ah:= -1,A9:={Lo:=h.Lo,Hi:=h.Hi}})
 |[],a,p=>gq
 |x::l,a,p=>by
  rw[XC,lY l (KZ a x) p];unfold KZ;rw[l6];cases hx:Jq a.1 x.AT with
  |some y=>
   grind
  |none=>
   simp only[Option.isSome_none,Xh,Vo,tU]
   grind
theorem Qow(l:AA Ac)(p:Int):Jq (HC l).1 p=(l.find? λh=>h.AT==p).map λh=>{Ah:= -1,A9:={Lo:=h.Lo,Hi:=h.Hi}}:=by
 unfold HC;rw[lY];rfl
def HB(c:CA)(a b:Int):Cp:=(c.Az.find? λl=>(l.BA==a)&&(l.To==b)).getD {BA:=0,To:=0,Bl:=0,Bq:=0}
def Dj(c:CA)(s:CJ)(a b:Int):CJ:={Lo:=i64.wrap (s.Lo+(HB c a b).Bl),Hi:=i64.wrap (s.Hi+(HB c a b).Bq)}
def FJ(c:CA):CJ->Int->AA Int->AA CJ
 |_,_,[]=>[]
 |s,a,b::r=>Dj c s a b::FJ c (Dj c s a b) b r
def Fv(c:CA):AA Int->AA CJ
 |[]=>[]
 |a::r=>{Lo:=0,Hi:=0}::FJ c {Lo:=0,Hi:=0} a r
theorem m7(c:CA)(s:CJ)(a b:Int)(r:AA Int):FJ c s a (b::r)=Dj c s a b::FJ c (Dj c s a b) b r:=rfl
theorem tf(c:CA):∀(r:AA Int) (s:CJ) (a:Int),AI (FJ c s a r)=AI r
 |[],_,_=>rfl
 |b::r,s,a=>by unfold FJ;simp[tf c r]
theorem Ql5(c:CA)(r:AA Int):AI (Fv c r)=AI r:=by
 cases r with
 |nil=>rfl
 |cons a r=>unfold Fv;simp[tf]
theorem P?{c:CA}(G:AI c.Az<=512){k:CD}{r:AA Int}{s:AA CJ}{x:AA CL}{t:AA Ue}{hi:Int}{m:AA (Int×Ue)}{i:Nat}{a b:Int}(q:r[i]?=AC a)(F:i<=100000)(hg:C4 c a b=AE):
  ∃j l,Ev (λn=>PF n c.Az ((i+1:Nat):Int) b c k r s x t hi m c k) ((j:Nat):Int)/\c.Az[j]?=AC l/\l=HB c a b:=by
 have E:∀j y,At c.Az j y->Ev (λn=>MA n c.Az ((i+1:Nat):Int) b c k r s x t hi m c k (j:Int)) (bif (y.BA==a)&&(y.To==b)then .d (.d (j:Int))else .k ((j+1:Nat):Int)):=by
  intro j y d;unfold MA;simp only[d.lt,Vo,d.ix,XI,d.nx];refine Ea (v:=(y.BA==a)&&(y.To==b)) ?_ ?_
  .unfold We;rw[show i64.wrap (((i+1:Nat):Int)-1)=(i:Int)by rw[Dx];omega,QA q,XI]
   simp_all[Eh,Qa]
  grind[Qa]
 have h:Ev (λn=>MA n c.Az ((i+1:Nat):Int) b c k r s x t hi m c k (AI c.Az:Int)) (.d (.k ())):=by
  simp_all[MA,Qa]
 rcases Qne c.Az (λl=>(l.BA==a)&&(l.To==b)) om E h with⟨j,y,g,f,B⟩|⟨g,f⟩
 .refine⟨j,y,?_,g.get,?_⟩
  .unfold PF;exact Ea B (Qa _)
  .unfold HB;rw[f];rfl
 grind[C4]
theorem QqN{c:CA}(N:AI c.Az<=512){k:CD}{r:AA Int}{x:AA CL}{t:AA Ue}{h:AA (Int×Ue)×Int}(Q:AI r<=256)(P:F1 c r):
  Ev (λn=>iter (I9 n c k x (r,0) t h) n ([],{Lo:=0,Hi:=0:CJ},0)) (Fv c r):=by
 have F:∀(q:AA Int) (i:Nat) (a:Int) (s:CJ) (o:AA CJ),r[i]?=AC a->r.drop (i+1)=q->AI o=i+1->Dc (λn=>I9 n c k x (r,0) t h) (o,s,((i+1:Nat):Int)) (o++FJ c s a q):=by
  intro q
  induction q with
  |nil=>
   intro i a s o y E H;have:=(XK.1 y).1;refine Ei ?_;unfold I9;simp only[Yw E om,Vp];refine(Qa _).eq ?_;simp[FJ]
  |cons b q O=>
   intro i a s o y E H;obtain⟨g,B⟩:=QH om E;have L:=g.lt';obtain⟨j,l,M,R,X⟩:=P? (c:=c) (k:=k) (s:=o) (x:=x) (t:=t) (hi:=h.2) (m:=h.1) N y om (P.at y g.get);refine Ew ?_ ((O (i+1) b (Dj c s a b) (o++[Dj c s a b]) g.get B (by simp[H])).eq (by rw[m7];simp));unfold I9;simp only[g.lt,Vo,g.ix,XI,g.nx];refine Ea (v:=Dj c s a b) ?_ (Ea (EA (gj om)) (Qa _));refine KT sq (Ea M ?_)
   grind[QA,Dj,Qa]
 cases d:r with
 |nil=>
  subst d;refine(Ei ?_).ev;unfold I9;exact Qa _
 |cons a q=>
  have G:r[0]?=AC a:=by rw[d];rfl
  have J:r.drop (0+1)=q:=by rw[d];rfl
  have:=F q 0 a {Lo:=0,Hi:=0} [{Lo:=0,Hi:=0}] G J rfl;have f:At r 0 a:=Y6 om G;rw[<- d];refine(Ew (s':=([{Lo:=0,Hi:=0}],{Lo:=0,Hi:=0},((0+1:Nat):Int))) ?_ (this.eq ?_)).ev
  .unfold I9;have T:=f.lt;have W:=f.ix;have V:=f.nx
   simp_all[EA,gj]
  .rw[d];rfl
def Hq(h:Ac):Bool:=AG (h.Hi<h.Lo)||(!FI h.Lo||(!FI h.Hi||AG (h.AT<0)))
theorem rN(x:Int):Ev (λn=>Me n x) (FI x):=by
 simp_all[Me,FI,DG,Eh,Qa]
theorem QoW(h:Ac):Ev (λn=>MS n h) (Hq h):=by
 unfold MS Hq;refine Ea (QR λ_=>Ea (rN _) (QR λ_=>Ea (rN _) (QR λ_=>Qa _))) (Qa _)
def HE(c:CA)(s:AO)(l:AA Ac):Bool:=AG (s.AN<0)||(AG ((AI c.AP:Int)<=s.AN)||(AG (s.A2<0)||(AG ((AI c.A0:Int)<=s.A2)||l.any Hq)))
def Lk(c:CA)(k:CD)(s:AO)(e:Int)(x:AA CL)(l:AA Ac):CK:=
 bif !Fm k then .c0 160 else bif HE c s l then .c0 1 else bif (CX c s.AN e).2 != 0 then .c0 (CX c s.AN e).2 else bif !Dp c x then .c0 170 else
  match C7 c k x with
  |none=>.c0 170
  |some t=>.c1 ((CX c s.AN e).1,Fv c (CX c s.AN e).1,t,(HC l).1,(HC l).2)
theorem Qj5{c:CA}(g:Ft c)(B:CM c=0)(he:Ev (λn=>G8 n c) 0){k:CD}(q:FR k)(s:AO)(e:Int)(x:AA CL)(H:AI x<=1000)(l:AA Ac)(P:AI l<=1048576):
  Ev (λn=>NF n c k s e x l) (Lk c k s e x l):=by
 unfold NF Lk;refine Ea he (QW (Ea (kr k q) ?_));cases M:Fm k with
 |false=>exact Qa _
 |true=>
 refine QW (Ea (v:=HE c s l) ?_ ?_)
 .unfold HE;refine QR λ_=>QR λ_=>QR λ_=>QR λ_=>Ea ?_ (Qa _);exact Ev.contains l Hq (λn y=>MS n y) om λy _=>QoW y
 cases HE c s l with
 |true=>exact Qa _
 |false=>
 refine QW (Ea (mE g he s.AN e) ?_);cases R:((CX c s.AN e).2 != 0)with
 |true=>exact Qa _
 |false=>
 have f:(CX c s.AN e).2=0:=gq;refine QW (Ea (QmA c x om he) ?_);cases F:Dp c x with
 |false=>exact Qa _
 |true=>
 refine QW (Ea (QoR (rJ B) he (lm q M) x (qQ F) H) ?_);cases C7 c k x with
 |none=>exact Qa _
 |some t=>
 obtain⟨j,d,O,Q,T,E,L,V,J⟩:=iX g f;have N:=VG E;have m:(CX c s.AN e).1.length<=256:=by
  grind[DJ]
 have h:F1 c (CX c s.AN e).1:=by rw[J];exact Ql8 g B N O L
 refine Ea (QoV l om) ?_;have G:CX c s.AN e=((CX c s.AN e).1,0):=Prod.ext rfl f;rw[G];exact Ea (QqN g.legs m h) (Qa _)
set_option maxRecDepth 10000
structure Cj where
 c:CA
 k:CD
 r:List Int
 s:List CJ
 H:List CL
 T:List Ue
 m:List (Int×Ue)
 hi:Int
abbrev zX:Ue:={Ah:=0,A9:={Lo:=0,Hi:=0}}
def Cj.seg(t:Cj)(x:Ue):Prop:=∃j:Nat,x.Ah+1=(j:Int)/\j<AI t.k.AR+1
structure C8 (t:Cj):Prop where
 ty:Ev (λn=>G8 n t.c) 0
 crs:Fc t.c
 clk:KV t.k
 sl:AI t.s=AI t.r
 rl:AI t.r<=256
 tl:AI t.T=AI t.H
 hl:AI t.H<=1000
 hit:∀(i:Nat) (h:CL),t.H[i]?=AC h->HI t.c h
 sg:∀x∈t.T,t.seg x
 hs:∀p x,Jq t.m p=AC x->t.seg x
 mi:0<=t.c.AQ.A8
def DF(t:Cj)(p h:Int):Ue×Bool:=bif JP t.m p||AG (h<0)then(Qn t.m p zX,JP t.m p)else((t.T[h.toNat]?).getD zX,AE)
def HP(t:Cj)(h:Int):Prop:=h<0\/h.toNat<AI t.H
theorem Re{α:Type}{l:AA α}{h:Int}(f:0<=h)(d:h.toNat<AI l):∃x,l[h.toNat]?=AC x/\CI l h=AC x:=by
 refine⟨l[h.toNat]'(d),sq,?_⟩
 grind[QA]
theorem mH{t:Cj}(ok:C8 t)(p h:Int)(g:HP t h):Ev (λn=>Ib n p h t.c t.k t.r t.s t.H t.T t.hi t.m t.c t.k) (DF t p h):=by
 unfold Ib DF;refine Ea (Qa _) (Ea (QR λ_=>Qa _) ?_);refine JD (λ_=>Qa _) λq=>?_;rw[XW,decide_eq_false_iff_not]at q;obtain⟨x,d,f⟩:=Re (l:=t.T) (h:=h) om (by have:=ok.tl;rcases g with z|z<;>omega);rw[f,d];exact Qa _
theorem iV{t:Cj}(ok:C8 t){p h:Int}(g:HP t h)(q:(DF t p h).2=AE):t.seg (DF t p h).1:=by
 unfold DF at q⊢;cases e:(JP t.m p||AG (h<0))with
 |true=>
  rw[e]at q;simp only[Vo]at q⊢;rw[l6]at q;obtain⟨x,d⟩:=Option.isSome_iff_exists.1 q;unfold Qn;rw[d];exact ok.hs p x d
 |false=>
  simp only[Vp];rw[XW,decide_eq_false_iff_not]at e;obtain⟨x,f,j⟩:=Re (l:=t.T) (h:=h) om (by have:=ok.tl;rcases g with z|z<;>omega);rw[f];exact ok.sg x gq
def RD(d w:CJ):Bool:=AG ((if d.Lo<w.Lo then w.Lo else d.Lo)<=(if w.Hi<d.Hi then w.Hi else d.Hi))
def La(c:CA)(k:CD)(g:Int)(a b:Int):CJ:=
 bif g<0 then {Lo:=a,Hi:=i64.wrap (b+c.AQ.Ak)}else match k.AR[g.toNat]? with
 |none=>{Lo:=0,Hi:=0}
 |some s=>bif !IX c s.Al then {Lo:=0,Hi:=0}else
  {Lo:=i64.wrap (i64.wrap (a+(F5 c (Ch c s.Al) s a).Lo)-D8 k (g.toNat+1) 0),Hi:=i64.wrap (i64.wrap (b+(F5 c (Ch c s.Al) s b).Hi)+D8 k 0 (g.toNat+1))}
theorem QqM{t:Cj}(ok:C8 t){x:Ue}(Y:t.seg x){a b:Int}(P:Dh a)(M:Dh b)(Q:a<=b):∃e,Ev (λn=>Mr n t.c t.k x.Ah {Lo:=a,Hi:=b}) (La t.c t.k x.Ah a b,e):=by
 obtain⟨j,j1,j2⟩:=Y;have hs:=ok.clk.dims.segs;have start:∀{v:CJ×Int},Ev (λn=>(bif x.Ah<0 then AC ({Lo:=a,Hi:=i64.wrap (b+t.c.AQ.Ak):CJ},0)else(CI t.k.AR x.Ah).bind λf=>(K3 n t.c f.Al).bind λG=>(bif (!G)then AC ({Lo:=0,Hi:=0:CJ},1)else(Ik n t.c f a).bind λq=>(CI t.k.BP (i64.wrap (x.Ah+1))).bind λE=>(CI E 0).bind λg=>(Ik n t.c f b).bind λy=>(CI t.k.BP 0).bind λB=>(CI B (i64.wrap (x.Ah+1))).bind λF=>AC ({Lo:=i64.wrap ((i64.wrap (a+q.Lo))-g),Hi:=i64.wrap ((i64.wrap (b+y.Hi))+F):CJ},0)):AB (CJ×Int))) v->Ev (λn=>Mr n t.c t.k x.Ah {Lo:=a,Hi:=b}) v:=by
  intro v hv;unfold Mr;refine Ea ok.ty (QW (Ea ok.clk.ev (QW (Ea (v:=AD) ?_ (QW hv)))));simp only[dF (x.Ah< -1),dF ((AI t.k.AR:Int)<=x.Ah),Vp];refine Ea (d_ a) ?_;rw[IP.2 P];refine QW (Ea (d_ b) ?_);rw[IP.2 M]
  simp_all[YO,Qa]
 unfold La;by_cases d:x.Ah<0
 .rw[JA d];exact⟨_,start (KT (JA d) (Qa _))⟩
 rw[YO d];simp only[Vp];obtain⟨s,V,L⟩:=Re (l:=t.k.AR) (h:=x.Ah) om om;rw[V];simp only;cases H:IX t.c s.Al with
 |false=>exact⟨_,start (Ra (YO d) (YP L (Ea ((mF t.c s.Al).eq H) (KT rfl (Qa _)))))⟩
 |true=>
  obtain⟨i,m,N,J⟩:=_s H;have R:Ch t.c s.Al=m.AX:=by simp_all[Ch]
  have O:=ok.clk.anc s gq;obtain⟨X,T⟩:=ok.clk.dims.get (i:=x.Ah.toNat+1) (j:=0) om om;obtain⟨g3,W⟩:=ok.clk.dims.get (i:=0) (j:=x.Ah.toNat+1) om om;have w:i64.wrap (x.Ah+1)=((x.Ah.toNat+1:Nat):Int):=by rw[Dx];omega
  refine⟨0,start (Ra (YO d) (YP L (Ea ((mF t.c s.Al).eq H) (Ra rfl (Ea (ku ok.crs J N O P) (YP (v:=t.k.BP[x.Ah.toNat+1]?.getD []) (by rw[w];exact QA X) (YP (v:=D8 t.k (x.Ah.toNat+1) 0) (QA (i:=0) T) (Ea (ku ok.crs J N O M) (YP (v:=t.k.BP[0]?.getD []) (QA (i:=0) g3) (YP (v:=D8 t.k 0 (x.Ah.toNat+1)) (by rw[w];exact QA W) ?_))))))))))⟩;rw[R];exact Qa _
def I1(t:Cj)(h p:Int):Bool:=bif !(JP t.m p)then AE else match t.H[h.toNat]?,t.T[h.toNat]? with
 |some y,AC x=>RD (La t.c t.k x.Ah y.BQ y.A7) (Qn t.m p zX).A9
 |_,_=>AE
theorem Qo2{t:Cj}(ok:C8 t){h p:Int}(g:0<=h)(f:h.toNat<AI t.H):Ev (λn=>Ow n h p t.c t.k t.c t.k t.r t.s t.H t.T t.hi t.m) (I1 t h p):=by
 unfold Ow I1;refine Ea (Qa _) ?_;cases JP t.m p with
 |false=>exact Qa _
 |true=>
  obtain⟨y,y1,y2⟩:=Re (l:=t.H) g f;obtain⟨x,j,B⟩:=Re (l:=t.T) g (by rw[ok.tl];exact f);have d:=ok.hit _ _ y1;rw[y2,B,y1,j];refine QW ?_;simp only[XI];obtain⟨e,q⟩:=QqM ok (ok.sg x gq) d.fi d.la d.le;refine Ea q ?_;unfold Mb;exact Qa _
def Fy(t:Cj)(i j:Int):CJ:=
 let a:=(t.s[i.toNat]?).getD {Lo:=0,Hi:=0}
 let b:=(t.s[j.toNat]?).getD {Lo:=0,Hi:=0}
 {Lo:=if i64.wrap (b.Lo-a.Lo)<2199023255552 then i64.wrap (b.Lo-a.Lo)else 2199023255552,Hi:=if i64.wrap (b.Hi-a.Hi)<2199023255552 then i64.wrap (b.Hi-a.Hi)else 2199023255552}
theorem hY{t:Cj}(ok:C8 t){i j:Int}(d:0<=i)(f:i.toNat<AI t.r)(g:0<=j)(h:j.toNat<AI t.r):Ev (λn=>J6 n i j t.c t.k t.r t.s t.H t.T t.hi t.m t.c t.k) (Fy t i j):=by
 obtain⟨a,y,x⟩:=Re (l:=t.s) d (by rw[ok.sl];exact f);obtain⟨b,q,B⟩:=Re (l:=t.s) g (by rw[ok.sl];exact h)
 grind[J6,Fy,Qa]
def Lu(t:Cj)(a b:Ue):CJ:=
 bif (i64.wrap (a.Ah+1)) != (i64.wrap (b.Ah+1))then
  {Lo:=i64.wrap (i64.wrap (b.A9.Lo-a.A9.Hi)-D8 t.k (b.Ah+1).toNat (a.Ah+1).toNat),Hi:=i64.wrap (i64.wrap (b.A9.Hi-a.A9.Lo)+D8 t.k (a.Ah+1).toNat (b.Ah+1).toNat)}
 else {Lo:=i64.wrap (b.A9.Lo-a.A9.Hi),Hi:=i64.wrap (b.A9.Hi-a.A9.Lo)}
def FY(t:Cj)(a:Ue)(i:Int)(b:Ue)(j:Int):Bool:=RD (Lu t a b) (Fy t i j)
theorem Qj9{t:Cj}(ok:C8 t){a b:Ue}{i j:Int}(h:t.seg a)(F:t.seg b)(f:0<=i)(g:i.toNat<AI t.r)(q:0<=j)(B:j.toNat<AI t.r):
  Ev (λn=>K6 n a i b j t.c t.k t.r t.s t.H t.T t.hi t.m t.c t.k) (FY t a i b j):=by
 obtain⟨x,E,d⟩:=h;obtain⟨y,y1,y2⟩:=F;have M:=ok.clk.dims.segs;unfold K6 FY;refine Ea (v:=Lu t a b) ?_ (Ea (hY ok f g q B) ?_)
 .unfold Lu;rw[E,y1,QI (n:=(x:Int)) om om,QI (n:=(y:Int)) om om];refine JD (λ_=>?_) λ_=>Qa _;obtain⟨L,J⟩:=ok.clk.dims.get (i:=y) (j:=x) y2 d;obtain⟨N,G⟩:=ok.clk.dims.get (i:=x) (j:=y) d y2
  grind[QA,Qa]
 .unfold Mb;exact Qa _
structure Kb (t:Cj) (s:Uh):Prop where
 la:s.Bm<(AI t.r:Int)
 wh:0<=s.Bm->t.seg s.Bv
 r0:0<=s.row
 r1:s.row<=1000
def Ha(t:Cj)(s:Uh)(p h:Int):Bool:=(AG (0<=h)&& !I1 t h p)||(AG (0<=s.Bm)&& !FY t s.Bv s.Bm (DF t p h).1 p)
def DC(t:Cj)(s:Uh)(p h:Int):Uh×Bool:=
 bif !(DF t p h).2 then({s with row:=s.row+1},AG (s.row+1<=t.c.AQ.A8))else bif Ha t s p h then(s,AD)else({Bm:=p,Bv:=(DF t p h).1,row:=0},AE)
theorem lS{t:Cj}(ok:C8 t){s:Uh}(f:Kb t s){p h:Int}(F:0<=p)(E:p.toNat<AI t.r)(g:HP t h):
  Ev (λn=>Kx n s p h t.c t.k t.r t.s t.H t.T t.hi t.m t.c t.k) (DC t s p h):=by
 have r0:=f.r0;have r1:=f.r1;unfold Kx DC;refine Ea (mH ok p h g) ?_;rw[QI (n:=s.row+1) om om];cases B:(DF t p h).2 with
 |false=>exact Qa _
 |true=>
  have y:=iV ok g B;refine QW (Ea (v:=Ha t s p h) ?_ ?_)
  .have j:Ev (λn=>(bif 0<=s.Bm then(K6 n s.Bv s.Bm (DF t p h).1 p t.c t.k t.r t.s t.H t.T t.hi t.m t.c t.k).bind λx=>AC (!x)else AC AD:AB Bool)) (AG (0<=s.Bm)&& !FY t s.Bv s.Bm (DF t p h).1 p):=by
    refine Eh λq=>?_;have q:=Vu q;exact Ea (Qj9 ok (f.wh q) y q (by have:=f.la;omega) F E) (Qa _)
   unfold Ha;by_cases d:0<=h
   .rw[JA d,Vy];have G:h.toNat<AI t.H:=by rcases g with z|z<;>omega
    refine Ea (Qo2 ok d G) ?_;exact QR λ_=>j
   grind
  .cases Ha t s p h<;>exact Qa _
theorem lG{t:Cj}(ok:C8 t){s:Uh}(d:Kb t s){p h:Int}(g:p<(AI t.r:Int))(j:HP t h)(m:s.row<1000):Kb t (DC t s p h).1:=by
 have r0:=d.r0;unfold DC;cases f:(DF t p h).2 with
 |false=>exact⟨d.la,d.wh,gq,gq⟩
 |true=>
  simp only[Xg,Vp];cases Ha t s p h with
  |true=>exact d
  |false=>exact⟨g,λ_=>iV ok j f,sq,sq⟩
def Fq(t:Cj)(W:CU)(u:AA (Int×Bool))(i:Nat)(h:Int):Bool:=
 AG (h<0)||(AG ((AI t.H:Int)<=h)||((((t.H[h.toNat]?).map (·.Al)).getD 0 != (t.r[i]?).getD 0)||(Qn u h AD||AG (W.A7<(i:Int)))))
def admL(t:Cj)(W:CU):AA Int->Nat->AA (Int×Bool)->Uh->Bool
 |[],_,_,_=>AE
 |h::r,i,u,s=>
  bif (h != -1)&&Fq t W u i h then AD else
  bif W.A7<(i:Int) then admL t W r (i+1) (bif h != -1 then QK u h AE else u) s else
  bif !(DC t s (i:Int) h).2 then AD else admL t W r (i+1) (bif h != -1 then QK u h AE else u) (DC t s (i:Int) h).1
theorem d9(t:Cj)(W:CU)(h:Int)(r:AA Int)(i:Nat)(u:AA (Int×Bool))(s:Uh):admL t W (h::r) i u s=
  bif (h != -1)&&Fq t W u i h then AD else
  bif W.A7<(i:Int) then admL t W r (i+1) (bif h != -1 then QK u h AE else u) s else
  bif !(DC t s (i:Int) h).2 then AD else admL t W r (i+1) (bif h != -1 then QK u h AE else u) (DC t s (i:Int) h).1:=rfl
def SF(l:AA Int)(x:Int):Bool:=AG (0<=Dd (λy=>x==y) l 0)
def KW(W:CU):AA CL->Nat->Int->Int
 |[],_,a=>a
 |_::r,i,a=>KW W r (i+1) (bif !SF W.BL (i:Int)then i64.wrap (a+1)else a)
theorem Qmw(W:CU)(H:AA CL)(E:AI W.BL<=1048576)(hH:AI H<=1048576):Ev (λn=>PE n H W) (KW W H 0 0):=by
 have d:∀(r:AA CL) (i:Nat) (a:Int),H.drop i=r->i<=AI H->Dc (λn=>OB n H W) (a,(i:Int)) (KW W r i a):=by
  intro r
  induction r with
  |nil=>
   intro i a h q;refine Ei ?_;unfold OB;simp only[Yw h q,Vp];exact Qa _
  |cons y r B=>
   intro i a h q;obtain⟨f,g⟩:=QH om h;have t:=f.lt';refine Ew ?_ (B (i+1) _ g om);unfold OB;simp only[f.lt,Vo,f.nx];refine Ea (v:=SF W.BL (i:Int)) ?_ ?_
   .unfold WC SF;refine Ea (v:=Dd (λy=>(i:Int)==y) W.BL 0) ?_ (Qa _);unfold WI;refine Ev.first W.BL _ om (λj x m=>?_) ?_
    .unfold TV;simp only[m.lt,Vo,m.ix,XI,m.nx];cases((i:Int)==x)<;>exact Qa _
    simp_all[TV,Qa]
   grind[Qa]
 unfold PE;exact Ea (d H 0 0 rfl (XT _)).ev (Qa _)
def H5(t:Cj)(W:CU):Bool:=((AI W.BL:Int) != (AI t.r:Int))||(AG (W.A7< -1)||(AG ((AI t.r:Int)<=W.A7)||(AG (W.A7<t.hi)||AG (t.c.AQ.A6<KW W t.H 0 0))))
def Rw:Uh:={DV with Bm:=(-1)}
def FG(t:Cj)(W:CU):Bool:=bif H5 t W then AD else admL t W W.BL 0 [] Rw
theorem oz{t:Cj}:Kb t Rw:=⟨by show(-1:Int)<_;omega,λh=>by have:(0:Int)<= -1:=h;omega,by show(0:Int)<=0;omega,by show(0:Int)<=1000;omega⟩
theorem t5{t:Cj}{W:CU}{u:AA (Int×Bool)}{i:Nat}{h:Int}(q:((h != -1)&&Fq t W u i h)=AD):HP t h/\(h= -1\/(0<=h/\Fq t W u i h=AD)):=by
 rw[Bool.and_eq_false_iff]at q;rcases q with q|q
 .have:h= -1:=by grind
  exact⟨.inl om,.inl this⟩
 .have d:=q;unfold Fq at d;simp only[XW,decide_eq_false_iff_not]at d;exact⟨.inr om,.inr ⟨om,q⟩⟩
theorem kp{t:Cj}(ok:C8 t)(W:CU)(hW:AI W.BL<=1048576):Ev (λn=>Ii n W t.c t.k t.r t.s t.H t.T t.hi t.m t.c t.k) (FG t W):=by
 unfold Ii FG;refine Ea (v:=H5 t W) ?_ ?_
 .unfold H5;exact QR λ_=>QR λ_=>QR λ_=>QR λ_=>Ea (Qmw W t.H hW (by have:=ok.hl;omega)) (Qa _)
 cases O:H5 t W with
 |true=>exact Qa _
 |false=>
 unfold H5 at O;simp only[XW,decide_eq_false_iff_not]at O;obtain⟨j,b1,b2,b3,_⟩:=O;have j:AI W.BL=AI t.r:=by have:=j;simp[bne]at this;omega
 have rl:=ok.rl;have P:∀(r:AA Int) (i:Nat) (u:AA (Int×Bool)) (s:Uh),W.BL.drop i=r->i<=AI W.BL->Kb t s->s.row<=(i:Int)->Dc (λn=>JV n W t.c t.k t.r t.s t.H t.T t.hi t.m t.c t.k) (u,s,(i:Int)) (bif admL t W r i u s then CF.k ()else CF.d AD):=by
  intro r
  induction r with
  |nil=>
   intro i u s Q hi B _;refine Ei ?_;unfold JV admL;simp only[Yw Q hi,Vp];exact Qa _
  |cons h r Y=>
   intro i u s Q hi B aa;obtain⟨f,x⟩:=QH om Q;have ab:=f.lt';rw[d9];have N:t.r[i]?=AC (t.r[i]'om):=XJ om;have d:Ev (λn=>((bif (h != (-1))then((bif h<0 then AC AE else(bif (AI t.H:Int)<=h then AC AE else(CI t.H h).bind λE=>(CI t.r (i:Int)).bind λq=>(bif (E.Al != q)then AC AE else(AC (Qn u h AD)).bind λL=>(bif L then AC AE else AC (AG (W.A7<(i:Int))))))):AB Bool).bind λM=>(bif M then AC (.d (.d (.d (.d AD))))else(AC (QK u h AE)).bind λG=>AC (.k G))else AC (.k u)):AB (CF (AA (Int×Bool)) (CF ((AA (Int×Bool))×Uh) (CF ((AA (Int×Bool))×Uh×Int) (CF Unit Bool))))))
     (bif (h != -1)&&Fq t W u i h then .d (.d (.d (.d AD)))else .k (bif h != -1 then QK u h AE else u)):=by
    cases hn:(h != -1)with
    |false=>exact Qa _
    |true=>
     refine Rb (Ea (v:=Fq t W u i h) ?_ ?_)
     .unfold Fq;refine QR λR=>QR λq2=>?_;have R:=Vv R;have q2:=Vv q2;obtain⟨y,y1,y2⟩:=Re (l:=t.H) (h:=h) om om;rw[y2,y1,XI,QA N,XI,N];exact QR λ_=>Ea (Qa _) (QR λ_=>Qa _)
     .cases Fq t W u i h<;>exact Qa _
   cases g:((h != -1)&&Fq t W u i h)with
   |true=>
    rw[g]at d;refine Ei ?_;unfold JV;simp only[f.lt,Vo,f.ix,XI,f.nx];exact Ea (Ea d (Qa _)) (Qa _)
   |false=>
    rw[g]at d;obtain⟨V,_⟩:=t5 g;simp only[Vp]at d⊢;by_cases F:W.A7<(i:Int)
    .rw[JA F,Vo];refine Ew ?_ (Y (i+1) _ s x om B om);unfold JV;simp only[f.lt,Vo,f.ix,XI,f.nx];exact Ea (v:=CF.k (_,_)) (Ea d (KT (JA F) (Qa _))) (Qa _)
    .rw[YO F,Vp];have X:=lS ok B (p:=(i:Int)) (h:=h) om om V;cases J:(DC t s (i:Int) h).2 with
     |false=>
      refine Ei ?_;unfold JV;simp only[f.lt,Vo,f.ix,XI,f.nx];refine Ea (v:=CF.d (.d (.d AD))) (Ea d (Ra (YO F) (Ea X (v:=(DC t s (i:Int) h)) ?_))) (Qa _);rw[J];exact Qa _
     |true=>
      simp only[Xg,Vp];refine Ew ?_ (Y (i+1) _ _ x om (lG ok B om V om) ?_)
      .unfold JV;simp only[f.lt,Vo,f.ix,XI,f.nx];refine Ea (v:=CF.k (_,(DC t s (i:Int) h).1)) (Ea d (Ra (YO F) (Ea X (v:=(DC t s (i:Int) h)) ?_))) (Qa _);rw[J];exact Qa _
      .have r0:=B.r0;unfold DC;cases(DF t (i:Int) h).2 with
       |false=>show s.row+1<=_;omega
       |true=>
        simp only[Xg,Vp];cases Ha t s (i:Int) h with
        |true=>show s.row<=_;omega
        |false=>show(0:Int)<=_;omega
 refine QW ?_;unfold Mq;simp only[XI];refine Ea (P W.BL 0 [] Rw rfl (XT _) oz (by show(0:Int)<=_;omega)).ev ?_;cases admL t W W.BL 0 [] Rw<;>exact Qa _
set_option maxRecDepth 10000
theorem QoX(k:CD)(w:FR k):∃b,Ev (λn=>Ot n k) b/\(b=AE->AI k.AR<=8):=by
 unfold Ot;cases d:(AG (8<(AI k.AR:Int))||AG (10<(AI k.BP:Int)))with
 |true=>exact⟨AD,Ea (v:=AE) (Eu (QR λ_=>Qa _) d) (Qa _),nofun⟩
 |false=>
  have g:=d;simp only[XW,decide_eq_false_iff_not]at g;refine⟨bif k.BP.all (λr=> !decide (12<(AI r:Int)))then AE else AD,Ea (v:=AD) (Eu (QR λ_=>Qa _) d) (QW (Ea (mv k.BP (λr=> !decide (12<(AI r:Int))) (CF.d AD) (CF.k ()) om (λi x f=>?_) ?_) ?_)),λ_=>om⟩
  .unfold UM;simp only[f.lt,Vo,f.ix,XI,f.nx]
   grind[Qa]
  .simp_all[UM,Qa]
  grind[Qa]
def P9(c:CA)(k:CD)(s:AO)(e:Int)(x:AA CL)(l:AA Ac)(t:AA Ue):Cj:=
 {c:=c,k:=k,r:=(CX c s.AN e).1,s:=Fv c (CX c s.AN e).1,H:=x,T:=t,m:=(HC l).1,hi:=(HC l).2}
def Ds(c:CA)(k:CD)(s:AO)(e:Int)(x:AA CL)(l:AA Ac):Int ⊕ Cj:=
 bif CM c != 0 then .inl (CM c)else bif !Fm k then .inl 160 else bif HE c s l then .inl 1 else bif (CX c s.AN e).2 != 0 then .inl (CX c s.AN e).2 else bif !Dp c x then .inl 170 else
  match C7 c k x with
  |none=>.inl 170
  |some t=>.inr (P9 c k s e x l t)
def Hh:Int ⊕ Cj->CK
 |.inl e=>.c0 e
 |.inr t=>.c1 (t.r,t.s,t.T,t.m,t.hi)
theorem dq{c:CA}(f:Ev (λn=>G8 n c) (CM c))(q:CM c=0->Ft c){k:CD}(g:FR k)(s:AO)(e:Int)(x:AA CL)(j:AI x<=1000)(l:AA Ac)(m:AI l<=1048576):
  Ev (λn=>NF n c k s e x l) (Hh (Ds c k s e x l)):=by
 unfold Ds;cases h:(CM c != 0)with
 |true=>
  unfold NF;exact Ea f (KT h (Qa _))
 |false=>
  have d:CM c=0:=gq;refine(Qj5 (q d) d (d▸f) g s e x j l m).eq ?_;unfold Lk;cases Fm k with
  |false=>rfl
  |true=>
  cases HE c s l with
  |true=>rfl
  |false=>
  cases((CX c s.AN e).2 != 0)with
  |true=>rfl
  |false=>
  cases Dp c x with
  |false=>rfl
  |true=>cases C7 c k x<;>rfl
structure HF (c:CA) (k:CD) (s:AO) (e:Int) (x:List CL) (l:List Ac) (t:Cj):Prop where
 ok:C8 t
 cE:CM c=0
 clk:Fm k=AE
 arg:HE c s l=AD
 rt:(CX c s.AN e).2=0
 hit:Dp c x=AE
 is:t=P9 c k s e x l t.T
 tm:C7 c k x=AC t.T
theorem QpV{c:CA}(ty:Ev (λn=>G8 n c) (CM c))(R:CM c=0->Ft c){k:CD}(X:FR k){s:AO}{e:Int}{x:AA CL}(hx:AI x<=1000){l:AA Ac}{t:Cj}(h:Ds c k s e x l=.inr t):HF c k s e x l t:=by
 unfold Ds at h;cases hc:(CM c != 0)with
 |true=>grind
 |false=>
 rw[hc,Vp]at h;have f:CM c=0:=gq;cases F:Fm k with
 |false=>grind
 |true=>
 rw[F]at h;cases N:HE c s l with
 |true=>grind
 |false=>
 rw[N]at h;cases Y:((CX c s.AN e).2 != 0)with
 |true=>grind
 |false=>
 have q:(CX c s.AN e).2=0:=gq;rw[Y]at h;cases H:Dp c x with
 |false=>grind
 |true=>
 rw[H]at h;cases m:C7 c k x with
 |none=>grind
 |some T=>
 rw[m]at h;cases h;have g:=R f;obtain⟨j,d,k',r1,r2,r3,r4,r5,r6⟩:=iX g q;have J:(CX c s.AN e).1.length<=256:=by
  grind[DJ]
 obtain⟨T1,T2⟩:=rn m;have kk:=lm X F;refine⟨⟨f▸ty,rJ f,kk,Ql5 _ _,J,T1,hx,λi y B=>qQ H y (VG B),λy B=>?_,λp y B=>?_,?_⟩,f,F,N,q,H,rfl,m⟩
 .obtain⟨i,M,e1⟩:=List.getElem_of_mem B;have G:i<AI x:=by have:i<AI T:=M;omega
  obtain⟨O,g1,P⟩:=T2 i _ (XJ G);have V:O=y:=by
   have:T[i]?=AC y:=by rw[<- e1];exact XJ M
   grind
  subst V;rcases Qno P with z|⟨L,s',z1,Q,_⟩
  .exact⟨0,om,om⟩
  .have:=(XK.1 Q).1;exact⟨L+1,om,by show L+1<AI k.AR+1;omega⟩
 .have:=Qow l p;rw[show Jq (HC l).1 p=AC y from B]at this;cases W:l.find? (λh=>h.AT==p)with
  |none=>grind
  |some h'=>
   rw[W]at this;cases this;exact⟨0,rfl,om⟩
 .have E:=(Y4 f).2.1;unfold Cv Ln DG at E;simp only[XV,Vq]at E;exact E.2.2.2.2.2.2.2.2.2.1.1.1
theorem Qns{c:CA}{k:CD}{s:AO}{e:Int}{x:AA CL}{l:AA Ac}{v:Int}(h:Ds c k s e x l=.inl v):v≠0:=by
 unfold Ds at h
 grind
def Tt{α:Type}(f:Nat->AB α)(Q:α->Prop):Prop:=∃v,Ev f v/\Q v
section
variable {α β S B:Type} {f g:Nat->AB α} {P Q:α->Prop} {R:β->Prop}
theorem Tt.p{v:α}(h:Q v):Tt (λ_=>AC v) Q:=⟨v,Qa v,h⟩
theorem Tt.b{k:Nat->α->AB β}(h:Tt f P)(q:∀v,P v->Tt (λn=>k n v) R):Tt (λn=>(f n).bind (k n)) R:=by
 obtain⟨v,e,p⟩:=h;obtain⟨w,d,r⟩:=q v p;exact⟨w,Ea e d,r⟩
theorem Qe{k:Nat->α->AB β}(h:Tt f λ_=>True)(q:∀v,Tt (λn=>k n v) R):Tt (λn=>(f n).bind (k n)) R:=Tt.b h λv _=>q v
theorem Tt.c{c:Bool}(a:c=AE->Tt f Q)(b:c=AD->Tt g Q):Tt (λn=>bif c then f n else g n) Q:=by
 cases c with
 |true=>exact a rfl
 |false=>exact b rfl
theorem Tt.z{v:α}(h:Q v:=by exact trivial):Tt (λ_=>AC v) Q:=Tt.p h
theorem Tt.k{c:Bool}{v:α}(b:c=AD->Tt g Q)(h:Q v:=by exact trivial):Tt (λn=>bif c then AC v else g n) Q:=Tt.c (λ_=>Tt.p h) b
theorem Qv{c:Bool}{v:α}(b:Tt g Q)(h:Q v:=by exact trivial):Tt (λn=>bif c then AC v else g n) Q:=Tt.c (λ_=>Tt.p h) λ_=>b
theorem Tt.n{c:Bool}{v:α}(b:c=AD->Tt g Q)(h:Q v:=by exact nofun):Tt (λn=>bif c then AC v else g n) Q:=Tt.c (λ_=>Tt.p h) b
theorem Tt.w(h:Tt f P)(q:∀v,P v->Q v):Tt f Q:=let⟨v,e,p⟩:=h;⟨v,e,q v p⟩
theorem Tt.any(h:Tt f P):Tt f λ_=>True:=h.w λ_ _=>trivial
theorem Tt.e{v:α}(h:Ev f v)(q:Q v):Tt f Q:=⟨v,h,q⟩
theorem Tt.o{o:AB α}{v:α}(h:o=AC v)(q:Q v):Tt (λ_=>o) Q:=⟨v,EA h,q⟩
theorem Tt.s(h:Tt (λn=>f (n+1)) Q):Tt f Q:=let⟨v,e,q⟩:=h;⟨v,Jd e,q⟩
theorem Tt.i{l:AA α}{i:Int}(d:0<=i)(f:i<(AI l:Int)):Tt (λ_=>CI l i) (λx=>x∈l):=by
 obtain⟨k,rfl⟩:=Int.eq_ofNat_of_zero_le d;have h:k<AI l:=om;exact⟨l[k],EA (QA sq),Vd h⟩
theorem Tt.a{l m:AA α}(h:AI l+AI m<=4294967296):Tt (λ_=>app l m) (λx=>x=l++m):=Tt.o (dy l m h) rfl
theorem Tt.sl{l:AA α}{i j:Int}(g:0<=i)(f:i<=j)(h:j<=(AI l:Int)):Tt (λ_=>Dm l i j) (λx=>(AI x:Int)=j-i/\ ∀y∈x,y∈l):=by
 refine Tt.o (v:=(l.take j.toNat).drop i.toNat) ?_ ⟨?_,λy d=>List.mem_of_mem_take (List.mem_of_mem_drop d)⟩
 .unfold Dm
  grind
 grind
theorem Tt.set{l:AA α}{i:Int}{x:α}(f:0<=i)(d:i<(AI l:Int)):Tt (λ_=>JN l i x) (λm=>AI m=AI l/\ ∀y∈m,y=x\/y∈l):=by
 refine Tt.o (v:=l.set i.toNat x) ?_ gq;unfold JN;simp[f,d]
abbrev Fe(I:S->Prop)(m:S->Nat)(s:S)(Q:B->Prop):CF S B->Prop
 |.k s'=>I s'/\m s'<m s
 |.d b=>Q b
theorem Tt.l{step:Nat->S->AB (CF S B)}{Q:B->Prop}(I:S->Prop)(m:S->Nat)(h:∀s,I s->Tt (λn=>step n s) (Fe I m s Q))(s:S)(d:I s):Tt (λn=>iter (step n) n s) Q:=by
 have f:∀k s,m s<=k->I s->∃b,Dc step s b/\Q b:=by
  intro k
  induction k with
  |zero=>
   intro s g d;obtain⟨c,e,q⟩:=h s d
   grind[Dc.done]
  |succ k j=>
   intro s g d;obtain⟨c,e,q⟩:=h s d
   grind[Dc.cont,Dc.done]
 obtain⟨b,e,q⟩:=f (m s) s (XS _) d;exact⟨b,e.ev,q⟩
abbrev F_(pk:β->Int->S)(I:Nat->β->Prop)(i:Nat)(Q:B->Prop):CF S B->Prop
 |.k s=>∃a,s=pk a ((i+1:Nat):Int)/\I (i+1) a
 |.d b=>Q b
theorem QO{step:Nat->S->AB (CF S B)}{Q:B->Prop}(l:AA α)(d:β->Int->S)(I:Nat->β->Prop)(H:AI l<=4611686018427387904)
  (h:∀i x a,At l i x->I i a->Tt (λn=>step n (d a i)) (F_ d I i Q))(e:∀a,I (AI l) a->Tt (λn=>step n (d a (AI l))) (λc=>∃b,c=.d b/\Q b))(j:β)(s0:S)(L:s0=d j ((0:Nat):Int))(hi:I 0 j):
  Tt (λn=>iter (step n) n s0) Q:=by
 have f:∀k i a,i+k=AI l->I i a->∃b,Dc step (d a i) b/\Q b:=by
  intro k
  induction k with
  |zero=>
   intro i a F m;have:i=AI l:=om;subst this;obtain⟨c,q,b,rfl,y⟩:=e a m;exact⟨b,Ei q,y⟩
  |succ k G=>
   intro i a F m;have g:i<AI l:=om;obtain⟨c,q,E⟩:=h i l[i] a (Y6 H (XJ g)) m;cases c with
   |k O=>
    obtain⟨J,rfl,t⟩:=E;obtain⟨b,M,N⟩:=G (i+1) J om t;exact⟨b,Ew q M,N⟩
   |d b=>exact⟨b,Ei q,E⟩
 obtain⟨b,q,y⟩:=f (AI l) 0 j om hi;subst L;exact⟨b,q.ev,y⟩
theorem Tt.find{d:Nat->Int->AB Bool}(l:AA α)(f:AI l<=4611686018427387904)(h:∀i x,At l i x->Tt (λn=>d n i) λ_=>True):
  Tt (λn=>iter (λs:Int=>((bif s<(AI l:Int) then d n s else AC AD):AB Bool).bind λb=>bif b then AC (CF.k (i64.wrap (s+1)))else AC (CF.d s)) n 0) (λr=>0<=r/\r<=(AI l:Int)):=by
 refine QO (β:=Unit) l (λ_ i=>i) (λ_ _=>True) f (λi x a ha _=>?_) (λa _=>?_) () _ rfl trivial
 .have:=ha.lt';simp only[ha.lt,Vo,ha.nx];exact Qe (h i x ha) λb=>Tt.c (λ_=>Tt.p ⟨(),rfl,trivial⟩) λ_=>Tt.p ⟨om,om⟩
 .simp only[Jf,Vp,XI];exact Tt.p ⟨_,rfl,om,om⟩
end
theorem Rs(a b c:Int):Tt (λn=>Fb n a b c) λr=>r=AE->b<=a:=by
 simp_all[Fb,Tt.c,Tt.p]
theorem Jp(a b c:Int):Tt (λn=>Fb n a b c) λ_=>True:=(Rs a b c).any
theorem QlS(s:AO):Tt (λn=>Ky n s) λr=>r=AE->0<=s.AN:=by
 unfold Ky I7 H_ J2;refine Tt.b (P:=λr=>r=AE->0<=s.AN) (Qe (Qe (Jp ..) λ_=>Tt.z) λr=>Tt.c (λ_=>Tt.b (Rs ..) λr h=>Tt.c (λq=>Tt.w (P:=λ_=>True) ?_ λ_ _ _=>h q) λ_=>Tt.p nofun) λ_=>Tt.p nofun) λv h=>Tt.p h
 repeat' first|with_reducible exact Tt.p trivial|with_reducible refine Tt.c (λ_=>?_) λ_=>?_|with_reducible refine Qe ?_ λ_=>?_|with_reducible exact Jp ..
theorem QnA(s:Af):Tt (λn=>Kz n s) λ_=>True:=by
 unfold Kz IC I7 HV
 repeat' first|with_reducible exact Tt.p trivial|with_reducible refine Tt.c (λ_=>?_) λ_=>?_|with_reducible refine Qe ?_ λ_=>?_|with_reducible exact Jp ..
theorem pq(s:An):Tt (λn=>PT n s) λ_=>True:=by
 unfold PT IG IE H_
 repeat' first|with_reducible exact Tt.p trivial|with_reducible refine Tt.c (λ_=>?_) λ_=>?_|with_reducible refine Qe ?_ λ_=>?_|with_reducible exact Jp ..
def VF(f:CH):Prop:=f.AX=1->0<=f.AO.AN
theorem QlZ(f:CH):Tt (λn=>K9 n f) λr=>r=AE->VF f:=by
 unfold K9 IG IE H_ I7 HV IC J2 J9 J7;refine Tt.c (λ_=>Tt.b (QlS _) λr h=>Tt.p λq _=>h q) λd=>Tt.w (P:=λ_=>True) ?_ λ_ _ _ e=>absurd e gq
 repeat' first|with_reducible exact Tt.p trivial|with_reducible refine Tt.c (λ_=>?_) λ_=>?_|with_reducible refine Qe ?_ λ_=>?_|with_reducible exact Jp .. |with_reducible exact pq _|with_reducible exact QnA _
theorem py(f:CH):Tt (λn=>Pr n f) λ_=>True:=by
 unfold Pr
 repeat' first|with_reducible exact Tt.p trivial|with_reducible refine Tt.c (λ_=>?_) λ_=>?_|with_reducible refine Qe ?_ λ_=>?_
theorem qh(f:CH):Tt (λn=>JZ n f) λr=>r=0->VF f:=by
 unfold JZ J9 J7;refine Tt.b (P:=λb=>b=AD->VF f) ?_ λb h=>Tt.n λq=>Tt.p λ_=>h q;refine Qe (Qe (Jp ..) λ_=>Tt.z) λ_=>Tt.n λ_=>?_;refine Qe (Qe (Jp ..) λ_=>Tt.z) λ_=>Tt.n λ_=>?_;refine Qe (Jp ..) λ_=>Tt.n λ_=>?_;exact Tt.b (QlZ f) λr h=>Tt.n λq=>Qe (py f) λ_=>Tt.p gq
theorem QlX(f:CH):Tt (λn=>Ov n f) λl=>AI l<=20:=by
 unfold Ov
 repeat' first|exact Tt.p sq|refine Tt.c (λ_=>?_) λ_=>?_|refine Tt.b (Tt.a sq) λl h=>Tt.p (by subst h;simp)
def Fz(v:AL):Prop:=v.AX=1/\v.S=[]/\v.L=[]
theorem z?(l:AA Int)(j:AI l<=20):Tt (λn=>Oc n l) λr=>AI r<=20/\ ∀v∈r,Fz v:=by
 unfold Oc;refine Tt.b (QO l (λ(a:AA AL) i=>(a,i)) (λi a=>AI a<=i/\ ∀v∈a,Fz v) om (λi x a d g=>?_) (λa g=>?_) [] _ rfl sq) λr h=>Tt.p h
 .unfold Tg W0;have:=d.lt';simp only[d.lt,Vo,d.ix,XI,d.nx];refine Tt.b (Tt.a (by simp;omega)) λr h=>Tt.p ⟨r,rfl,?_⟩;subst h;refine⟨by simp;omega,λv f=>?_⟩;rcases VB.1 f with h|h
  .grind
  .cases Vz.1 h;exact⟨rfl,rfl,rfl⟩
 .unfold Tg;simp only[Jf,Vp];exact Tt.p gq
theorem Ql3{v:AL}(h:Fz v):Tt (λn=>V5 n v) λ_=>True:=by
 refine Tt.s ?_;show Tt (λn=>Z7 (V5 n) n v) _;unfold Z7;rw[h.1]
 simp_all[Tt.c,Tt.p]
theorem QnQ(l:AA AL)(g:AI l<=20)(h:∀v∈l,Fz v):Tt (λn=>V5 n {AX:=3,N:=0,S:=[],L:=l}) λ_=>True:=by
 refine Tt.s ?_;show Tt (λn=>Z7 (V5 n) n _) _;unfold Z7;refine Qe (QO l (λ(_:Unit) i=>i) (λi a=>True) om (λi x a d f=>?_) (λa f=>?_) () _ rfl trivial) λr=>?_
 .unfold T7;simp only[d.lt,Vo,d.ix,XI,d.nx];exact Qe (Ql3 (h x d.mem)) λr=>Qv <| Tt.p ⟨(),rfl,trivial⟩
 .simp_all[T7,Tt.p]
 .cases r
  .simp_all[Tt.p]
  .exact Tt.z
theorem QnR{v:AL}(h:Fz v):Tt (λn=>U_ n v) λ_=>True:=by
 refine Tt.s ?_;show Tt (λn=>Z6 (U_ n) n v) _;unfold Z6;rw[h.1];exact Tt.z
theorem Qp8(l:AA AL)(g:AI l<=20)(h:∀v∈l,Fz v):Tt (λn=>U_ n {AX:=3,N:=0,S:=[],L:=l}) λ_=>True:=by
 refine Tt.s ?_;show Tt (λn=>Z6 (U_ n) n _) _;unfold Z6;refine Qe (QO l (λ(a:Int) i=>(a,i)) (λi a=>True) om (λi x a d f=>?_) (λa f=>?_) 0 _ rfl trivial) λr=>Tt.z
 .unfold Tm;simp only[d.lt,Vo,d.ix,XI,d.nx];exact Qe (QnR (h x d.mem)) λr=>Tt.p ⟨_,rfl,trivial⟩
 simp_all[Tm,Tt.p]
theorem s9:∀(k:Nat) (a:Int),0<=a->a<128^k->k<=20->Tt (λn=>Rp n a) λl=>AI l<=k+1
 |0,a,h0,h1,_=>by
  refine Tt.s ?_;show Tt (λn=>Z9 (Rp n) n a) _;unfold Z9;exact Tt.c (λ_=>Tt.p sq) gq
 |k+1,a,h0,h1,hk=>by
  refine Tt.s ?_;show Tt (λn=>Z9 (Rp n) n a) _;unfold Z9;refine Tt.c (λ_=>Tt.p sq) λq=>?_;have hd:0<=Int.tdiv a 128/\Int.tdiv a 128<128^k:=by
   grind
  have d:0<=u64.wrap (Int.tdiv a 128)/\u64.wrap (Int.tdiv a 128)<=Int.tdiv a 128:=by
   show 0<=(Int.tdiv a 128)%18446744073709551616/\(Int.tdiv a 128)%18446744073709551616<=_;omega
  refine Tt.b (s9 k _ d.1 om om) λr f=>Tt.b (Tt.a (by simp;omega)) λl h=>Tt.p gq
theorem o6(a:Int)(h0:0<=a)(h1:a<18446744073709551616):Tt (λn=>Rp n a) λl=>AI l<=11:=
 s9 10 a h0 om om
theorem k_(a:Int):0<=u64.wrap a/\u64.wrap a<18446744073709551616:=by
 show 0<=a%18446744073709551616/\a%18446744073709551616<_;omega
theorem QjF(a:Int):Tt (λn=>PV n a) λr=>0<=r/\r<18446744073709551616:=by
 simp_all[PV,Tt.c,Tt.p,k_]
theorem QlY{v:AL}(h:Fz v):Tt (λn=>WK n v) λr=>AI r<=12:=by
 refine Tt.s ?_;show Tt (λn=>Z8 (WK n) n v) _;unfold Z8;rw[h.1];exact Tt.b (QjF _) λr q=>Tt.b (o6 r q.1 q.2) λl f=>Tt.b (Tt.a (by simp;omega)) λm d=>Tt.p gq
theorem QnJ(l:AA AL)(j:AI l<=20)(h:∀v∈l,Fz v):Tt (λn=>WK n {AX:=3,N:=0,S:=[],L:=l}) λ_=>True:=by
 refine Tt.s ?_;show Tt (λn=>Z8 (WK n) n _) _;unfold Z8;refine Tt.b (o6 _ (k_ _).1 (k_ _).2) λr q=>Tt.b (Tt.a (by simp;omega)) λm f=>Qe ?_ λr=>Tt.z;refine QO l (λ(a:AA Int) i=>(a,i)) (λi a=>AI a<=12+12*i) om (λi x a d g=>?_) (λa g=>?_) m _ rfl gq
 .unfold VV;have:=d.lt';simp only[d.lt,Vo,d.ix,XI,d.nx];exact Tt.b (QlY (h x d.mem)) λr q=>Tt.b (Tt.a om) λm f=>Tt.p ⟨m,rfl,gq⟩
 simp_all[VV,Tt.p]
theorem re(f:CH):Tt (λn=>MT n f) λ_=>True:=by
 unfold MT V8 WD;refine Qe (qh f).any λ_=>Qv <| Tt.b (QlX f) λl g=>Tt.b (z? l g) λr d=>Qe ?_ λ_=>Tt.z
 refine Qe (Qe (QnQ r d.1 d.2) λ_=>Qv <| Qe (Qp8 r d.1 d.2) λ_=>Tt.k λ_=>Tt.z) λ_=>Qv <| Qe (QnJ r d.1 d.2) λ_=>Tt.z
theorem th(f g:CH):Tt (λn=>O4 n f g) λ_=>True:=by
 unfold O4;refine Qe (QO [f.At,f.BF,f.No] (λ(_:Unit) i=>i) (λi a=>True) sq (λi x a d m=>?_) (λa m=>?_) () _ rfl trivial) λr=>?_
 .unfold Tw;have h:=d.lt';simp only[XZ,List.length_nil]at h;obtain⟨y,j⟩:∃y,CI [g.At,g.BF,g.No] (i:Int)=AC y:=⟨_,QA (XJ (by simpa using h))⟩;simp only[dT ((i:Int)<3),Vo,d.ix,j,XI,d.nx];exact Qv <| Qv <| Tt.p ⟨(),rfl,trivial⟩
 .simp_all[Tw,Tt.p]
 .cases r with
  |k s=>exact Qe (re f) λ_=>Qe (re g) λ_=>Qv <| Qv <| Tt.z
  |d s=>exact Tt.z
theorem d7(l:AA CH)(O:AI l<=16):Tt (λn=>Kl n l) λr=>AI r<=16/\ ∀f∈r,VF f:=by
 unfold Kl;refine Tt.b (QO l (λ(a:AA CH) i=>(a,i)) (λi a=>AI a<=i/\ ∀f∈a,VF f) om (λi x a d t=>?_) (λa t=>?_) [] _ rfl sq) λr h=>Tt.p h
 .unfold MM;have:=d.lt';simp only[d.lt,Vo,d.ix,XI,d.nx];refine Tt.b (P:=λ(m:AA CH)=>AI m<=i+1/\ ∀f∈m,VF f) (Tt.b (qh x) λr G=>Tt.c (λ_=>Tt.p ⟨om,t.2⟩) λq=>?_) λm B=>Tt.p ⟨m,rfl,B⟩;have V:VF x:=G gq;refine Tt.b (Tt.find a om λj y F=>?_) λb g=>?_
  .exact Qe (Tt.o F.ix trivial) λy=>Qe (Tt.o d.ix trivial) λx=>Qe (th y x) λ_=>Tt.z
  refine Qe (Tt.c (λh=>Qe (Tt.i g.1 (Vu h)).any λ_=>Tt.z) λ_=>Tt.z) λ_=>Tt.c (λ_=>Tt.p ⟨om,t.2⟩) λ_=>?_;refine Tt.b (Tt.sl (Int.le_refl 0) g.1 g.2) λp L=>Tt.b (Tt.a (by simp;omega)) λN E=>?_;subst E;refine Tt.b (Tt.a (by simp;omega)) λQ H=>Tt.b (Tt.sl g.1 g.2 (Int.le_refl _)) λJ T=>?_;subst H;refine Tt.b (Tt.a (by simp;omega)) λM R=>Tt.p ?_
  grind
 .unfold MM;simp only[Jf,Vp];exact Tt.p gq
def HA(c:CA)(m:Int):Prop:=0<=m/\m<(AI c.Ar:Int)
def FH(c:CA)(l:AA CC):Prop:=∀s∈l,HA c s.Al
theorem gZ(c:CA)(m:Int):Tt (λn=>J0 n c m) λr=>r=AE->HA c m:=by
 unfold J0;exact Tt.b (P:=λr=>r=AE->HA c m) (Tt.c (λh=>Tt.p λq=>⟨Vu h,Vu q⟩) λ_=>Tt.p nofun) λv h=>Tt.p h
theorem u7{c:CA}{m:Int}(h:HA c m):Tt (λn=>Md n c m) λ_=>True:=by
 unfold Md;exact Tt.b (Tt.i h.1 h.2) λ_ _=>Tt.z
theorem k?(a b:CC):Tt (λn=>O8 n a b) λ_=>True:=by
 unfold O8;exact Qe (Qv <| Tt.k λ_=>Tt.z) λ_=>Tt.z
theorem gi(c:CA)(l:AA CC)(a b:Int)(M:AI l<=1000)(f:FH c l):Tt (λn=>JX n c l a b) λr=>AI r<=AI l+1/\FH c r:=by
 unfold JX;have skip:AI l<=AI l+1/\FH c l:=⟨om,f⟩;refine Tt.b (P:=λq=>q=AD->HA c a) (Tt.b (gZ c a) λr N=>Tt.n λq=>?_) λq m=>Tt.c (λ_=>Tt.p skip) λt=>?_
 .simp_all[u7]
 have H:=m t;refine Tt.b (Tt.find l om λj y F=>Qe (Tt.o F.ix trivial) λy=>Qe (k? _ _) λ_=>Tt.z) λi d=>?_;refine Qe (Tt.c (λh=>Qe (Tt.i d.1 (Vu h)).any λ_=>Tt.c (λ_=>Qe (Tt.i d.1 (Vu h)).any λ_=>Tt.z) λ_=>Tt.z) λ_=>Tt.z) λ_=>Tt.c (λ_=>Tt.p skip) λ_=>?_;refine Tt.b (Tt.sl d.1 d.2 (Int.le_refl _)) λp g=>Tt.b (Tt.a (by simp;omega)) λJ x=>?_;subst x;refine Tt.b (Tt.sl (Int.le_refl 0) d.1 d.2) λL E=>Tt.b (Tt.a (by simp;omega)) λG B=>Tt.p ?_;subst B;refine⟨by simp;omega,λs h=>?_⟩;simp only[VB,Vz]at h;rcases h with h|h|h
 .exact f s (E.2 s h)
 .grind
 .exact f s (g.2 s h)
theorem ui(c:CA)(l:AA CH)(X:AI l<=16){e:Int}(he:Ev (λn=>HU n c) e):Tt (λn=>MY n c l) λr=>AI r.1<=511/\FH c r.1:=by
 unfold MY;have nil:AI ([]:AA CC)<=511/\FH c []:=⟨sq,λ_ h=>nomatch h⟩;refine Qe (Tt.e he trivial) λe=>Tt.c (λ_=>Tt.p nil) λ_=>Tt.b (d7 l X) λC hC=>?_;refine Tt.b (P:=λ(r:AA CC)=>AI r<=2*AI C/\FH c r) (QO C (λ(a:AA CC) i=>(a,i)) (λi a=>AI a<=2*i/\FH c a) om (λi x a E g=>?_) (λa g=>?_) [] _ rfl gq) λr hr=>?_
 .unfold VM;have:=E.lt';simp only[E.lt,Vo,E.ix,XI,E.nx];refine Tt.b (P:=λ(r:AA CC)=>AI r<=2*(i+1)/\FH c r) ?_ λr h=>Tt.p ⟨r,rfl,h⟩;refine Tt.c (λ_=>Tt.b (gi c a _ _ om g.2) λr h=>Tt.p ⟨om,h.2⟩) λ_=>Tt.c (λ_=>Tt.b (gi c a _ _ om g.2) λr h=>Tt.p ⟨om,h.2⟩) λ_=>Tt.c (λ_=>?_) λ_=>Tt.p ⟨om,g.2⟩;exact Tt.b (gi c a _ _ om g.2) λr h=>Tt.b (gi c r _ _ om h.2) λr2 d=>Tt.p ⟨om,d.2⟩
 .simp_all[VM,Tt.p]
 refine Tt.c (λ_=>Tt.p nil) λq=>?_;have hk:AI r<=511:=om;refine Tt.b (P:=λ(b:AA CC)=>AI b<=511/\FH c b) (Tt.l (λs:AA CC×Int=>AI s.1=AI r/\FH c s.1/\0<=s.2/\s.2<=(AI r:Int)) (λs=>((AI r:Int)-s.2).toNat) (λs hs=>?_) (r,0) gq) λb L=>Tt.p (Q:=λv:AA CC×Int=>AI v.1<=511/\FH c v.1) L;obtain⟨B,R⟩:=s;obtain⟨V,d,G,T⟩:=hs;simp only at V d G T;unfold eh;refine Tt.c (λq=>?_) λ_=>Tt.p (Q:=Fe _ _ _ _) ⟨gq,d⟩;have O:=Vu q;simp only at O;refine Tt.b (P:=λ(t:AA CC)=>AI t=AI B/\FH c t) (Tt.l (λt:AA CC×Int=>AI t.1=AI B/\FH c t.1/\ -1<=t.2/\t.2<(AI C:Int)) (λt=>(t.2+1).toNat) (λt J=>?_) (B,i64.wrap ((AI C:Int)-1)) ⟨rfl,d,?_,?_⟩) λb L=>Tt.p (Q:=Fe _ _ _ _) ?_
 .obtain⟨M,t2⟩:=t;obtain⟨j,f,g3,F⟩:=J;simp only at j f g3 F;unfold e_;refine Tt.c (λq=>?_) λ_=>Tt.p (Q:=Fe _ _ _ _) ⟨j,f⟩;have H:=Vu q;simp only at H;have ix:∀{Q:CC->Prop},(∀x∈M,Q x)->Tt (λ_=>CI M R) Q:=λh=>(Tt.i G om).w h;refine Qe (Tt.i H F).any λx=>Qe (Qe (Tt.i H F).any λ_=>Tt.c (λ_=>Qe (ix λ_ _=>trivial) λ_=>Tt.c (λ_=>Qe (ix λ_ _=>trivial) λ_=>Tt.z) λ_=>Tt.z) λ_=>Tt.z) λb=>?_;refine Tt.b (P:=λ(t:AA CC)=>AI t=AI B/\FH c t) (Tt.c (λ_=>?_) λ_=>Tt.p ⟨j,f⟩) λt J=>Tt.p (Q:=Fe _ _ _ _) ?_
  .refine Tt.b (ix λx h=>h) λy Y=>Tt.b (Tt.set G gq) λm N=>Tt.p ⟨N.1.trans j,λz W=>?_⟩;rcases N.2 z W with h|h
   .subst h;exact f y Y
   .exact f z h
  grind[QI]
 iterate 3 grind[QI]
abbrev Fo{A β:Type}(Q:β->Prop):CF A β->Prop
 |.k _=>True
 |.d r=>Q r
theorem m8(l:AA CC)(a b:Int)(f:AI l<=1000):Tt (λn=>Kw n l a b) λr=>0<=r/\r<=(AI l:Int):=by
 unfold Kw;refine Tt.b (P:=Fo λr=>0<=r/\r<=(AI l:Int)) (QO l (λ(_:Unit) i=>i) (λ_ _=>True) om (λi x _ ha _=>?_) (λ_ _=>?_) () _ rfl trivial) λr d=>?_
 .unfold Tu;have:=ha.lt';simp only[ha.lt,Vo,ha.ix,XI,ha.nx];exact Qe (Tt.k λ_=>Tt.z) λ_=>Tt.c (λ_=>Tt.p (Q:=F_ _ _ _ _) om) λ_=>Tt.p ⟨(),rfl,trivial⟩
 .simp_all[Tu,Tt.p]
 .cases r with
  |k s=>exact Tt.p om
  |d s=>exact Tt.p d
theorem mu{c:CA}{l:AA CC}{v a b:Int}(d:FH c l)(j:0<=v)(g:v<=(AI l:Int))(m:AI l<=1000)(f:HA c a):Tt (λn=>Z3 n l v a b) λs=>HA c s.Al:=by
 unfold Z3;refine Tt.c (λ_=>Tt.p f) λq=>?_;have q:v≠0:=by simpa using q
 have e:i64.wrap (v-1)=v-1:=Dx;rw[e];exact Tt.b (Tt.i om om) λx h=>Tt.p (d x h)
theorem Qp7(a b:Int):Tt (λn=>PQ n a b) λ_=>True:=by
 unfold PQ
 repeat' first|with_reducible exact Tt.p trivial|with_reducible refine Tt.c (λ_=>?_) λ_=>?_|with_reducible refine Qe ?_ λ_=>?_
theorem nD{c:CA}{s:CC}(h:HA c s.Al)(a:Int):Tt (λn=>LE n c s a) λ_=>True:=by
 unfold LE;exact Qe (u7 h) λ_=>Qv <| Qe (Qp7 _ _) λ_=>Tt.z
theorem QnN(c:CA)(l:AA CH)(L:AI l<=16){e:Int}(he:Ev (λn=>HU n c) e):Tt (λn=>OL n c l) λ_=>True:=by
 unfold OL;refine Tt.b (ui c l L he) λr M=>Qv <| ?_
 obtain⟨S,z⟩:=r;have O:AI S<=511:=M.1;have f:FH c S:=M.2;refine Tt.b (P:=λ(a:AA Edge)=>AI a<=1022) (QO S (λ(a:AA Edge) i=>(a,i)) (λi a=>AI a<=2*i) om (λi x a d g=>?_) (λa g=>?_) [] _ rfl (XS _)) λE1 h1=>Tt.b (d7 l L) λC hC=>?_
 .unfold TS;have:=d.lt';simp only[d.lt,Vo,d.nx];exact Tt.b (Tt.a (by simp;omega)) λm f=>Tt.p ⟨m,rfl,gq⟩
 .unfold TS;simp only[Jf,Vp];exact Tt.p ⟨_,rfl,om⟩
 refine Tt.b (P:=λ(b:AA CC×AA Edge)=>b.1=S/\AI b.2<=1054) (QO C (λ(a:AA Edge) i=>(S,a,i)) (λi a=>AI a<=1022+2*i) om (λi x a d g=>?_) (λa g=>?_) E1 _ rfl om) λb y=>?_
 .unfold Te;have:=d.lt';simp only[d.lt,Vo,d.ix,XI,d.nx];refine Tt.b (P:=λ(m:AA Edge)=>AI m<=1022+2*(i+1)) (Tt.b (P:=λq=>q=AD->HA c x.Aa.Al) (Tt.n λ_=>Tt.b (gZ c _) λr h=>Tt.p gq) λq E=>Tt.c (λ_=>Tt.p om) λB=>?_) λm f=>Tt.p ⟨m,rfl,f⟩;have t:=E B;exact Tt.b (m8 S _ _ om) λv j=>Tt.b (mu f j.1 j.2 om t) λs G=>Qe (nD G _) λ_=>Tt.b (Tt.a (by simp;omega)) λm h=>Tt.p gq
 .unfold Te;simp only[Jf,Vp];exact Tt.p gq
 obtain⟨H,N⟩:=b;obtain⟨rfl,y⟩:=y;simp only at y O f;refine Tt.b (P:=λ(b:AA Edge)=>True) (QO C (λ(a:AA Edge) i=>(a,i)) (λi a=>AI a<=1054+2*i) om (λi x a d g=>?_) (λa g=>?_) N _ rfl om) λb y=>Qv <| Tt.z
 .unfold Ti;have:=d.lt';simp only[d.lt,Vo,d.ix,XI,d.nx];refine Tt.b (P:=λ(m:AA Edge)=>AI m<=1054+2*(i+1)) (Tt.b (P:=λq=>q=AD->HA c x.An.Bs/\HA c x.An.Br) (Tt.n λ_=>Tt.b (gZ c _) λr h=>Tt.n λT=>Tt.b (gZ c _) λV Q=>Tt.p gq) λq E=>Tt.c (λ_=>Tt.p om) λB=>?_) λm f=>Tt.p ⟨m,rfl,f⟩;have t:=E B;exact Tt.b (m8 H _ _ om) λv j=>Tt.b (m8 H _ _ om) λw J=>Tt.b (mu f j.1 j.2 om t.1) λs G=>Qe (nD G _) λ_=>Tt.b (mu f J.1 J.2 om t.2) λR F=>Qe (nD F _) λ_=>Tt.b (Tt.a (by simp;omega)) λm h=>Tt.p gq
 simp_all[Ti,Tt.p]
def Z4(v:Int)(e:Edge):Prop:=0<=e.BA/\e.BA<v/\0<=e.To/\e.To<v
theorem Ql4(s:Cm):Tt (λn=>PS n s) λr=>r=0->1<=s.Ax/\s.Ax<=512/\AI s.Bn<=8192/\ ∀e∈s.Bn,Z4 s.Ax e:=by
 unfold PS;refine Tt.b (P:=λb=>b=AD->1<=s.Ax/\s.Ax<=512/\AI s.Bn<=8192) (Tt.n λh=>Tt.n λt=>Tt.p λB=>?_) λb d=>Tt.n λq=>?_
 .grind
 obtain⟨J,t,B⟩:=d q;refine Tt.b (P:=λ(c:CF Unit Int)=>match c with|.k _=>∀e∈s.Bn,Z4 s.Ax e|.d r=>r≠0) (QO s.Bn (λ(_:Unit) i=>i) (λi _=>∀e∈s.Bn.take i,Z4 s.Ax e) om (λi x _ ha hI=>?_) (λ_ hI=>?_) () _ rfl sq) λr y=>?_
 .unfold TY;simp only[ha.lt,Vo,ha.ix,XI,ha.nx];refine Tt.b (P:=λb=>b=AD->Z4 s.Ax x) (Tt.n λj=>Tt.n λg=>Tt.n λE=>Tt.n λf=>Tt.w (P:=λ_=>True) (Tt.k λ_=>Tt.z) λ_ _ _=>?_) λb d=>Tt.c (λ_=>Tt.p (Q:=F_ _ _ _ _) om) λq=>Tt.p ⟨(),rfl,?_⟩
  .have G:=Vv j;have H:=Vv g;have L:=Vv E;have F:=Vv f;exact⟨om,om,om,om⟩
  .intro e m;rw[ha.take]at m
   grind
 .simp_all[TY,Tt.p]
 .cases r with
  |k u=>exact Tt.p gq
  |d v=>exact Tt.p λh=>absurd h y
def IK(k:Nat)(t:AA (AA Int)):Prop:=AI t=k/\ ∀r∈t,AI r=k
theorem IK.set{k:Nat}{t:AA (AA Int)}{r:AA Int}(h:IK k t)(hr:AI r=k)(i:Nat):IK k (t.set i r):=
 ⟨by simp[h.1],λq hq=>(List.mem_or_eq_of_mem_set hq).elim (h.2 q) λe=>e▸hr⟩
theorem Tt.up{β S B:Type}{step:Nat->S->AB (CF S B)}{Q:B->Prop}(k:Nat)(t:k<=4611686018427387904)(d:β->Int->S)(I:Nat->β->Prop)
  (h:∀i a,i<k->i64.wrap ((i:Int)+1)=((i+1:Nat):Int)->I i a->Tt (λn=>step n (d a i)) (F_ d I i Q))(e:∀a,I k a->Tt (λn=>step n (d a k)) (λc=>∃b,c=.d b/\Q b))(g:β)(s0:S)(m:s0=d g ((0:Nat):Int))(hi:I 0 g):
  Tt (λn=>iter (step n) n s0) Q:=by
 have q:AI (List.replicate k ())=k:=List.length_replicate;refine QO (List.replicate k ()) d I om (λi x a j f=>h i a (by have:=j.lt';omega) j.nx f) (λa f=>?_) g s0 m hi;rw[q]at f⊢;exact e a f
theorem f?{k:Nat}(j:k<=512)(r:AA Int)(g:AI r=k):Tt (λn=>iter (N6 n (k:Int)) n (r,0)) λl=>AI l=k:=by
 refine Tt.up k om (λ(a:AA Int) i=>(a,i)) (λ_ a=>AI a=k) (λi a q f d=>?_) (λa d=>?_) r _ rfl g
 .unfold N6;simp only[dT ((i:Int)<(k:Int)),Vo,f];exact Tt.b (Tt.i om om) λx _=>Tt.b (Tt.set om om) λm h=>Tt.p gq
 simp_all[N6,Tt.p]
theorem l?{k:Nat}(f:k<=512):Tt (λn=>iter (N9 n (k:Int)) n ([],0)) (IK k):=by
 refine Tt.up k om (λ(a:AA (AA Int)) i=>(a,i)) (λi a=>AI a=i/\ ∀r∈a,AI r=k) (λi a y j d=>?_) (λa d=>?_) [] _ rfl sq
 .unfold N9;simp only[dT ((i:Int)<(k:Int)),Vo,j];refine Qe (Tt.o (v:=()) (by rw[d.1];simp[chk]) trivial) λ_=>?_;refine Tt.b (P:=λ(r:AA Int)=>AI r=k) (Tt.o (v:=List.replicate k 0) (by unfold mk;grind) sq) λg h=>?_;refine Tt.b (f? f g h) λr1 (h1:AI r1=k)=>Tt.b (Tt.i (Int.natCast_nonneg i) om) λx _=>Tt.b (Tt.set (Int.natCast_nonneg i) om) λm q=>Tt.p ⟨a++[m],rfl,by simp[d.1],λr t=>?_⟩
  grind
 .unfold N9;simp only[dF ((k:Int)<(k:Int)),Vp];exact Tt.p ⟨_,rfl,d⟩
theorem Qp0{k:Nat}(E:AA Edge)(hE:AI E<=8192)(h:∀e∈E,Z4 (k:Int) e)(t:AA (AA Int))(G:IK k t):Tt (λn=>iter (N3 n E) n (t,0)) (IK k):=by
 refine QO E (λ(a:AA (AA Int)) i=>(a,i)) (λ_ a=>IK k a) om (λi x a f d=>?_) (λa d=>?_) t _ rfl G
 .unfold N3;simp only[f.lt,Vo,f.ix,XI,f.nx];obtain⟨q,H,g,J⟩:=h x f.mem;refine Tt.b (Tt.i q (by rw[d.1];exact H)) λr F=>?_;have B:=d.2 r F;exact Qe (Tt.i g om).any λy=>Tt.b (Tt.set g om) λm j=>Tt.p ⟨_,rfl,d.set (j.1.trans B) _⟩
 simp_all[N3,Tt.p]
theorem jC{k m i j:Nat}(E:m<k)(hi:i<k)(G:j<k)(t:AA (AA Int))(d:IK k t):Tt (λ_=>U2 (m:Int) (i:Int) (j:Int) t) (IK k):=by
 unfold U2;refine Tt.b (Tt.i om (by rw[d.1];omega)) λr B=>?_;have x:=d.2 r B;refine Qe (Tt.i om om).any λa=>Tt.c (λ_=>?_) λ_=>Tt.p d;refine Tt.b (Tt.i om (by rw[d.1];omega)) λq h=>?_;have f:=d.2 q h;refine Qe (Tt.i om om).any λb=>Tt.c (λ_=>?_) λ_=>Tt.p d;exact Qe (Tt.i om om).any λy=>Tt.b (Tt.set om om) λF g=>Tt.p (d.set (g.1.trans x) _)
theorem vO{k m i:Nat}(x:k<=512)(g:m<k)(hi:i<k)(t:AA (AA Int))(d:IK k t):Tt (λn=>iter (N_ n (k:Int) (m:Int) (i:Int)) n (t,0)) (IK k):=by
 refine Tt.up k om (λ(a:AA (AA Int)) i=>(a,i)) (λ_ a=>IK k a) (λj a h q f=>?_) (λa f=>?_) t _ rfl d
 .unfold N_;simp only[dT ((j:Int)<(k:Int)),Vo,q];exact Tt.b (jC g hi h a f) λt d=>Tt.p ⟨t,rfl,d⟩
 simp_all[N_,Tt.p]
theorem vP{k m:Nat}(h:k<=512)(g:m<k)(t:AA (AA Int))(d:IK k t):Tt (λn=>iter (OD n (k:Int) (m:Int)) n (t,0)) (IK k):=by
 refine Tt.up k om (λ(a:AA (AA Int)) i=>(a,i)) (λ_ a=>IK k a) (λj a q x f=>?_) (λa f=>?_) t _ rfl d
 .unfold OD;simp only[dT ((j:Int)<(k:Int)),Vo,x];exact Tt.b (vO h g q a f) λt d=>Tt.p ⟨t,rfl,d⟩
 simp_all[OD,Tt.p]
theorem e?{k:Nat}(m:k<=512)(t:AA (AA Int))(d:IK k t):Tt (λn=>iter (OF n (k:Int) t) n 0) λ_=>True:=by
 refine Tt.up k om (λ(_:Unit) i=>i) (λ_ a=>True) (λj a q h f=>?_) (λa f=>?_) () _ rfl trivial
 .unfold OF;simp only[dT ((j:Int)<(k:Int)),Vo,h];refine Tt.b (Tt.i om (by rw[d.1];omega)) λr g=>?_;have x:=d.2 r g;exact Qe (Tt.i om om).any λa=>Qv <| Tt.p ⟨(),rfl,trivial⟩
 simp_all[OF,Tt.p]
theorem Qip{k:Nat}(f:k<=512)(E:AA Edge)(hE:AI E<=8192)(h:∀e∈E,Z4 (k:Int) e):Tt (λn=>Pu n {Ax:=(k:Int),Bn:=E}) λr=>AI r.1<=512/\ ∀q∈r.1,AI q<=512:=by
 unfold Pu;refine Qe (Tt.o (v:=List.replicate k ()) (by unfold mk;grind) trivial) λ_=>Tt.b (l? f) λL m=>?_;refine Qe (Tt.o (v:=()) (by rw[m.1];simp[chk]) trivial) λ_=>Tt.b (Qp0 E hE h L m) λF H=>?_;refine Tt.b (P:=λ(c:CF (AA (AA Int)) Unit)=>match c with|.k t=>IK k t|.d _=>True) (Tt.up k om (λ(a:AA (AA Int)) i=>(a,i)) (λ_ a=>IK k a) (λj a G J g=>?_) (λa g=>?_) F _ rfl H) λc y=>?_
 .unfold VN;simp only[dT ((j:Int)<(k:Int)),Vo,J];refine Tt.b (vP f G a g) λt x=>Qe (e? f t x) λd=>?_;cases d with
  |k _=>exact Tt.p ⟨t,rfl,x⟩
  |d _=>exact Tt.p (Q:=F_ _ _ _ _) trivial
 .simp_all[VN,Tt.p]
 .cases c with
  |k t=>exact Tt.p ⟨by rw[y.1];exact f,λq B=>by rw[y.2 q B];exact f⟩
  |d _=>simp_all[Tt.p]
theorem aC(s:Cm):Tt (λn=>PM n s) λr=>AI r.1<=512/\ ∀q∈r.1,AI q<=512:=by
 unfold PM;have nil:AI ([]:AA (AA Int))<=512/\ ∀q∈([]:AA (AA Int)),AI q<=512:=sq;refine Tt.b (Ql4 s) λr d=>Tt.c (λ_=>Tt.p nil) λq=>?_;obtain⟨v,E⟩:=s;obtain⟨j,h,g,f⟩:=d gq;simp only at j h g f;obtain⟨k,rfl⟩:=Int.eq_ofNat_of_zero_le (show 0<=v by omega);exact Tt.b (Qip om E g f) λr d=>Tt.c (λ_=>Tt.p nil) λ_=>Tt.p d
theorem Qqc(c:CA)(l:AA CH)(d:AI l<=16){e:Int}(he:Ev (λn=>HU n c) e):Tt (λn=>Pf n c l) λr=>FR {AR:=r.1,BP:=r.2.1}:=by
 unfold Pf;have nil:FR {AR:=[],BP:=[]}:=⟨sq,sq,λ_ h=>nomatch h⟩;exact Qe (QnN c l d he) λr=>Tt.c (λ_=>Tt.p nil) λ_=>Tt.b (aC _) λr g=>Tt.c (λ_=>Tt.p nil) λ_=>Tt.b (ui c l d he) λs f=>Tt.p ⟨gq,gq,λq j=>gq⟩
set_option maxRecDepth 10000
abbrev NC{B:Type}(i:Nat):CF Int (CF Unit B)->Prop
 |.k s=>s=((i+1:Nat):Int)
 |.d _=>True
theorem KU{α B:Type}{step:Nat->Int->AB (CF Int (CF Unit B))}(l:AA α)(g:AI l<=1048576)(h:∀i x,At l i x->Tt (λn=>step n (i:Int)) (NC i))(e:∀n,step n (AI l:Int)=AC (.d (.k ()))):Tt (λn=>iter (step n) n 0) λ_=>True:=by
 refine QO l (λ(_:Unit) i=>i) (λ_ _=>True) om (λi x _ ha _=>(h i x ha).w λc f=>?_) (λ_ _=>?_) () _ rfl trivial
 .cases c with
  |k s=>exact⟨(),f,trivial⟩
  |d d=>exact trivial
 .simp only[e];exact Tt.p ⟨_,rfl,trivial⟩
theorem qi(a b c:Int):Tt (λn=>G9 n a b c) λr=>r=AE->b<=a/\a<=c:=by
 unfold G9;exact Tt.b (P:=λr=>r=AE->b<=a/\a<=c) (Tt.c (λh=>Tt.p gq) λ_=>Tt.p nofun) λr h=>Tt.p h
theorem LW(a b c:Int):Tt (λn=>G9 n a b c) λ_=>True:=(qi a b c).any
theorem QnF(c:CA)(d:AI c.Ar<=1048576)(m:Int):Tt (λn=>LY n c m) λr=>r=AE->0<=m/\m<(AI c.Ar:Int):=by
 unfold LY;rw[Zt d];exact Tt.b (qi ..) λr h=>Tt.p λq=>gq
theorem lJ(c:CA)(m:Int):Tt (λn=>LY n c m) λ_=>True:=by
 simp_all[LY,LW]
theorem Ql2(l:AA UInt8):Tt (λn=>Pb n l) λ_=>True:=by
 unfold Pb
 repeat' first|with_reducible exact Tt.p trivial|with_reducible refine Tt.c (λ_=>?_) λ_=>?_|with_reducible refine Qe ?_ λ_=>?_
theorem px(l:AA UInt8):Tt (λn=>Mf n l) λ_=>True:=by
 unfold Mf;refine Tt.b (P:=λb=>b=AD->1<=AI l/\AI l<=24) (Tt.n λf=>Tt.n λd=>?_) λb h=>Tt.k λq=>?_
 .have f:=Vv f;have d:=Vv d;have g:=Tt.i (l:=l) (i:=0) (Int.le_refl 0) om;exact Tt.w (P:=λ_=>True) (Qe g.any λ_=>Qv <| Qe g.any λ_=>Tt.z) om
 obtain⟨f,d⟩:=h q;refine Qe (Tt.l (λs:Int=>0<=s/\s<=(AI l:Int)) (λs=>((AI l:Int)-s).toNat) (λs j=>?_) 1 om) λr=>?_
 .unfold e9;refine Tt.c (λq=>?_) λ_=>Tt.p (Q:=Fe _ _ _ _) trivial;have q:=Vu q;have ix:=(Tt.i j.1 q).any;refine Qe ?_ λ_=>Tt.c (λ_=>Tt.p (Q:=Fe _ _ _ _) trivial) λ_=>Tt.p (Q:=Fe _ _ _ _) ?_
  .repeat' first|with_reducible exact Tt.p trivial|with_reducible exact ix|with_reducible refine Tt.c (λ_=>?_) λ_=>?_|with_reducible refine Qe ?_ λ_=>?_
  grind[QI]
 .cases r with
  |k u=>simp_all[Qe,Ql2,Tt.p]
  |d v=>exact Tt.z
theorem eS(l:AA (AA UInt8))(f:AI l<=1048576):Tt (λn=>Id n l) λ_=>True:=by
 unfold Id;refine Qe (KU l f (λi x d=>?_) λn=>by simp_all[Tr]) λr=>by cases r<;>exact Tt.z
 have g:=d.lt';unfold Tr;simp only[d.lt,Vo,d.ix,XI,d.nx];refine Qe (px x) λ_=>Qv <| Tt.b (P:=λr=>match r with|.k _=>True|.d c=>match c with|.k _=>False|.d _=>True) (Tt.up i om (λ(_:Unit) i=>i) (λ_ _=>True) (λj _ hj hn _=>?_) (λ_ _=>?_) () _ rfl trivial) λr h=>?_
 .unfold VQ;simp only[dT ((j:Int)<(i:Int)),Vo,hn];exact Qe (Tt.i (Int.natCast_nonneg j) om).any λ_=>Qe (Tt.i (Int.natCast_nonneg i) om).any λ_=>Tt.c (λ_=>Tt.p (Q:=F_ _ _ _ _) trivial) λ_=>Tt.p ⟨(),rfl,trivial⟩
 .simp_all[VQ,Tt.p]
 .cases r with
  |k u=>exact Tt.p rfl
  |d s=>
   cases s with
   |k z=>grind
   |d z=>exact Tt.p (Q:=NC i) trivial
theorem d8{α:Type}{step:Nat->AA (AA UInt8)×Int->AB (CF (AA (AA UInt8)×Int) (AA (AA UInt8)))}(l:AA α)(g:α->AA UInt8)(q:AI l<=1048576)
  (h:∀n i x a,At l i x->step n (a,(i:Int))=(app a [g x]).bind λm=>AC (.k (m,((i+1:Nat):Int))))(e:∀n a,step n (a,(AI l:Int))=AC (.d a)):Tt (λn=>iter (step n) n ([],0)) λr=>AI r<=1048576:=by
 refine QO l (λ(a:AA (AA UInt8)) i=>(a,i)) (λi a=>AI a<=i) om (λi x a d f=>?_) (λa f=>?_) [] _ rfl (XS _)
 .have:=d.lt';simp only[h _ _ _ _ d];exact Tt.b (Tt.a (by simp;omega)) λm j=>Tt.p ⟨m,rfl,gq⟩
 .simp only[e];exact Tt.p ⟨_,rfl,om⟩
theorem QpY(c:CA)(w:C2 c):Tt (λn=>O2 n c) λ_=>True:=by
 unfold O2;refine Tt.b (d8 c.Ar (·.Ao) w.mats (λn i x a d=>?_) λn a=>?_) λj q=>Tt.b (d8 c.AP (·.Ao) w.dist (λn i x a d=>?_) λn a=>?_) λh g=>Tt.b (d8 c.A0 (·.Ao) w.wave (λn i x a d=>?_) λn a=>?_) λE y=>Tt.b (d8 c.Ab (·.Ao) w.off (λn i x a d=>?_) λn a=>?_) λf m=>Tt.b (d8 c.AV (·.Ao) w.cat (λn i x a d=>?_) λn a=>?_) λB t=>?_
 case refine_11=>
  exact Qe (Qe (px _) λ_=>Tt.c (λ_=>Qe (eS j q) λ_=>Tt.c (λ_=>Qe (eS h g) λ_=>Tt.c (λ_=>Qe (eS E y) λ_=>Tt.c (λ_=>Qe (eS f m) λ_=>Tt.c (λ_=>Qe (eS B t) λ_=>Tt.z) λ_=>Tt.z) λ_=>Tt.z) λ_=>Tt.z) λ_=>Tt.z) λ_=>Tt.z) λ_=>Tt.z
 all_goals first|(unfold Tz;simp only[Jf,Vp];done)|(unfold UV;simp only[Jf,Vp];done)|(unfold UZ;simp only[Jf,Vp];done)|(unfold U5;simp only[Jf,Vp];done)|(unfold U8;simp only[Jf,Vp];done)|(unfold Tz;simp only[d.lt,Vo,d.ix,XI,d.nx];done)|(unfold UV;simp only[d.lt,Vo,d.ix,XI,d.nx];done)|(unfold UZ;simp only[d.lt,Vo,d.ix,XI,d.nx];done)|(unfold U5;simp only[d.lt,Vo,d.ix,XI,d.nx];done)|(unfold U8;simp only[d.lt,Vo,d.ix,XI,d.nx];done)
def I2(c:CA)(d:AN):Prop:=Cu ((AI c.Ar:Int)-1) d.Ae=AE/\(d.Am≠ -1->0<=d.Am/\d.Am<(AI c.Ar:Int))
theorem QjK(c:CA)(w:C2 c){d:AN}(j:AI d.Aq<=1048576)(g:AI d.Ae<=1048576)(f:∀x∈d.Ae,CG.wf x):Tt (λn=>O1 n c d) λr=>r=AE->I2 c d:=by
 unfold O1;refine Tt.b (P:=λr=>match r with|.k _=>True|.d b=>b=AD) (QO d.Aq (λ(_:Unit) i=>i) (λ_ _=>True) om (λi x _ ha _=>?_) (λ_ _=>?_) () _ rfl trivial) λr t=>?_
 .unfold Tc;simp only[ha.lt,Vo,ha.ix,XI,ha.nx];exact Qe (Qe (lJ ..) λ_=>Qv <| Qv <| Qe (LW ..) λ_=>Tt.z) λ_=>Tt.c (λ_=>Tt.p (Q:=F_ _ _ _ _) rfl) λ_=>Tt.p ⟨(),rfl,trivial⟩
 .simp_all[Tc,Tt.p]
 .cases r with
  |d b=>simp_all[Tt.p]
  |k u=>
   refine Tt.b (P:=λr=>r=AE->I2 c d) (Qe (LW ..) λ_=>Tt.c (λ_=>Tt.b (P:=λr=>r=Cu ((AI c.Ar:Int)-1) d.Ae) (Tt.e (Qmy c w _ d.Ae (XS _) g f) rfl) λr m=>Tt.c (λq=>Tt.w (P:=λr=>r=AE->d.Am≠ -1->0<=d.Am/\d.Am<(AI c.Ar:Int)) (Tt.c (λz=>Tt.p gq) λ_=>Tt.b (QnF c w.mats _) λ_ h=>Tt.p λz _=>h z) λ_ h z=>⟨gq,h z⟩) λ_=>Tt.p nofun) λ_=>Tt.p nofun) λr h=>Tt.p h
theorem QnC(c:CA)(m:CA.wf c):Tt (λn=>PD n c) λr=>r=AE->∀d∈c.AP,I2 c d:=by
 have w:=Y2 m;have h:=JC m;unfold PD;refine Tt.b (P:=Fo λr=>r=AD) (QO c.Ar (λ(_:Unit) i=>i) (λ_ _=>True) (by have:=w.mats;omega) (λi x _ f _=>?_) (λ_ _=>?_) () _ rfl trivial) λr g=>?_
 .unfold TT;simp only[f.lt,Vo,f.ix,XI,f.nx]
  simp_all[Qe,LW,Tt.p]
 .simp_all[TT,Tt.p]
 rcases r with u|b
 case d=>simp_all[Tt.p]
 refine Tt.b (P:=Fo λr=>r=AD) (QO c.Az (λ(_:Unit) i=>i) (λ_ _=>True) (by have:=w.legs;omega) (λi x _ f _=>?_) (λ_ _=>?_) () _ rfl trivial) λr g=>?_
 .have E:=f.lt';have y:=w.legs;unfold Tb;simp only[f.lt,Vo,f.ix,XI,f.nx];refine Qe (Qe (lJ ..) λ_=>Qv <| Qe (lJ ..) λ_=>Qv <| Qv <| Tt.k λ_=>Tt.z) λ_=>Tt.c (λ_=>Tt.p (Q:=F_ _ _ _ _) rfl) λ_=>?_;refine Tt.b (P:=Fo λ(r:CF Int (CF Unit Bool))=>r=.d (.d AD)) (Tt.up i om (λ(_:Unit) i=>i) (λ_ _=>True) (λj _ hj hn _=>?_) (λ_ _=>?_) () _ rfl trivial) λr g=>?_
  .unfold U7;simp only[dT ((j:Int)<(i:Int)),Vo,hn];have ix:=Tt.i (l:=c.Az) (Int.natCast_nonneg j) om;exact Qe (Qe ix.any λ_=>Tt.c (λ_=>Qe ix.any λ_=>Tt.z) λ_=>Tt.z) λ_=>Tt.c (λ_=>Tt.p (Q:=F_ _ _ _ _) rfl) λ_=>Tt.p ⟨(),rfl,trivial⟩
  .simp_all[U7,Tt.p]
  .cases r with
   |k u=>exact Tt.p ⟨(),rfl,trivial⟩
   |d s=>cases g;exact Tt.p (Q:=F_ _ _ _ _) rfl
 .simp_all[Tb,Tt.p]
 rcases r with u|b
 case d=>simp_all[Tt.p]
 refine Tt.b (P:=λr=>match r with|.k _=>∀d∈c.AP,I2 c d|.d b=>b=AD) (QO c.AP (λ(_:Unit) i=>i) (λi _=>∀d∈c.AP.take i,I2 c d) (by have:=w.dist;omega) (λi x _ f hI=>?_) (λ_ hI=>?_) () _ rfl sq) λr B=>?_
 .unfold TK;simp only[f.lt,Vo,f.ix,XI,f.nx];refine Tt.b (QjK c w (w.cut x f.mem) (h.len x f.mem) (h.wf x f.mem)) λr g=>Tt.c (λ_=>Tt.p (Q:=F_ _ _ _ _) rfl) λq=>Tt.p ⟨(),rfl,λd t=>?_⟩;rw[f.take]at t
  grind
 .simp_all[TK,Tt.p]
 rcases r with u|b
 case d=>simp_all[Tt.p]
 refine Tt.w (P:=λ_=>True) ?_ λ_ _ _=>B;refine Qe (KU c.A0 w.wave (λi x f=>?_) λn=>by simp_all[T8]) λr=>?_
 .unfold T8;simp only[f.lt,Vo,f.ix,XI,f.nx];exact Qe (LW ..) λ_=>Qv <| Tt.p rfl
 rcases r with u|b
 case d=>exact Tt.z
 refine Qe (KU c.Ab w.off (λi x f=>?_) λn=>by simp_all[UO]) λr=>?_
 .unfold UO;simp only[f.lt,Vo,f.ix,XI,f.nx];refine Qe (Qe (LW ..) λ_=>Tt.c (λ_=>Tt.k λ_=>Tt.z) λ_=>Tt.z) λ_=>Qe (Tt.c (λ_=>Qe (LW ..) λ_=>Tt.k λ_=>Tt.z) λ_=>Tt.z) λ_=>Qe (Tt.c (λ_=>Tt.k λ_=>Tt.z) λ_=>Tt.z) λ_=>Qe (Tt.c (λ_=>Tt.k λ_=>Tt.z) λ_=>Tt.z) λ_=>Qv <| Tt.p rfl
 rcases r with u|b
 case d=>exact Tt.z
 refine Qe (KU c.AV w.cat (λi x f=>?_) λn=>by simp_all[U6]) λr=>?_
 .unfold U6;simp only[f.lt,Vo,f.ix,XI,f.nx];exact Qe (Qv <| Tt.k λ_=>Tt.z) λ_=>Qv <| Tt.p rfl
 rcases r with u|b
 case d=>exact Tt.z
 refine Qe (KU c.Ay w.prize (λi x f=>?_) λn=>by simp_all[UY]) λr=>?_
 .have E:=f.lt';have y:=w.prize;unfold UY;simp only[f.lt,Vo,f.ix,XI,f.nx];refine Qe (Qe (LW ..) λ_=>Qv <| Qe (LW ..) λ_=>Qv <| Qe (LW ..) λ_=>Qv <| Qe (LW ..) λ_=>Tt.z) λ_=>Qv <| ?_
  refine Tt.b (P:=Fo λ(r:CF Int (CF Unit Bool))=>r=.d (.d AD)) (Tt.up i om (λ(_:Unit) i=>i) (λ_ _=>True) (λj _ hj hn _=>?_) (λ_ _=>?_) () _ rfl trivial) λr g=>?_
  .unfold UP;simp only[dT ((j:Int)<(i:Int)),Vo,hn];exact Qe (Tt.i (Int.natCast_nonneg j) om).any λ_=>Qe (Tt.c (λ_=>Tt.k λ_=>Tt.z) λ_=>Tt.z) λ_=>Tt.c (λ_=>Tt.p (Q:=F_ _ _ _ _) rfl) λ_=>Tt.p ⟨(),rfl,trivial⟩
  .simp_all[UP,Tt.p]
  .cases r with
   |k u=>exact Tt.p rfl
   |d s=>cases g;exact Tt.p (Q:=NC i) trivial
 rcases r with u|b
 case d=>exact Tt.z
 have F:=LW
 repeat' first|with_reducible exact Tt.p trivial|with_reducible refine Tt.c (λ_=>?_) λ_=>?_|with_reducible refine Qe ?_ λ_=>?_|simp_all
set_option maxRecDepth 10000
theorem QlW:∀(m:Nat) (c:AS),SizeOf.sizeOf c<=m->AS.wf c->Tt (λn=>Mx n c) λ_=>True:=by
 intro m
 induction m with
 |zero=>intro c f;cases c;simp at f
 |succ m j=>
  intro c f g;obtain⟨h,q⟩:=Jb g;refine Tt.s ?_;show Tt (λn=>P6 (Mx n) n c) _;unfold P6;refine Tt.c (λ_=>?_) λ_=>Qe (Tt.k λ_=>Tt.z) λ_=>Qe ?_ λb=>?_
  .repeat' first|with_reducible exact Tt.p trivial|with_reducible refine Tt.c (λ_=>?_) λ_=>?_|with_reducible refine Qe ?_ λ_=>?_
  .repeat' first|with_reducible exact Tt.p trivial|with_reducible refine Tt.c (λ_=>?_) λ_=>?_|with_reducible refine Qe ?_ λ_=>?_
  .cases b with
   |d v=>exact Tt.z
   |k u=>
    refine Qe (Tt.k λ_=>Tt.z) λ_=>Qv <| Qe (KU c.Ad h (λi x d=>?_) λn=>by simp_all[TP]) λr=>by cases r<;>exact Tt.z
    unfold TP;simp only[d.lt,Vo,d.ix,XI,d.nx];have y:=List.sizeOf_lt_of_mem d.mem;have t:SizeOf.sizeOf c.Ad<SizeOf.sizeOf c:=by cases c;simp;omega
    exact Qe (j x om (q x d.mem)) λ_=>Qv <| Tt.p rfl
theorem QnT{c:AS}(d:AS.wf c):Tt (λn=>O9 n c) λ_=>True:=by
 unfold O9;obtain⟨v,e,_⟩:=vE _ c 0 (XS _) om d;exact Qe (Tt.e e trivial) λ_=>Qv <| Qe (QlW _ c (XS _) d) λ_=>Qv <| Tt.z
theorem QlR:∀(m:Nat) (l:AA AY),SizeOf.sizeOf l<=m->AI l<=1048576->(∀x∈l,AY.wf x)->Tt (λn=>Mv n l) λ_=>True:=by
 intro m
 induction m with
 |zero=>intro l f;cases l<;>simp at f
 |succ m G=>
  intro l f y g;refine Tt.s ?_;show Tt (λn=>P4 (Mv n) n l) _;unfold P4;refine Qe (KU l y (λi x d=>?_) λn=>by simp_all[T_]) λr=>by cases r<;>exact Tt.z
  unfold T_;simp only[d.lt,Vo,d.ix,XI,d.nx];obtain⟨F,⟨q,t⟩,⟨j,B⟩⟩:=Ja (g x d.mem);have J:=List.sizeOf_lt_of_mem d.mem;have H:SizeOf.sizeOf x.BY<SizeOf.sizeOf x/\SizeOf.sizeOf x.Bf<SizeOf.sizeOf x:=by cases x;simp;omega
  refine Tt.b (P:=Fo λ(r:CF Int (CF Unit Bool))=>NC i r) (Tt.c (λ_=>?_) λ_=>Tt.c (λ_=>?_) λ_=>Tt.z) λb E=>?_
  .refine Qe ?_ λ_=>Qv <| Tt.z
   refine Qv <| Qv <| Qe (Tt.e (Qa (Cr x.AS) |> λh=>h.congr λn=>uC n x.AS) trivial) λ_=>Qv <| Qv <| Tt.z
  .exact Qe (Qv <| Qe (QnT F) λ_=>Qv <| Qv <| Qe gq λ_=>Qv <| Qe gq λ_=>Tt.z) λ_=>Qv <| Tt.z
  .cases b with
   |k u=>exact Tt.p rfl
   |d v=>exact Tt.p E
theorem QnM{l:AA AY}(f:AI l<=1048576)(d:∀x∈l,AY.wf x):Tt (λn=>OU n l) λ_=>True:=by
 unfold OU;obtain⟨a,b,e,_⟩:=qL _ l 0 (XS _) om f d;exact Qe (Tt.e e trivial) λ_=>Qe (Tt.k λ_=>Tt.z) λ_=>Qv <| Qe (Qv <| Qe (QlR _ l (XS _) f d) λ_=>Tt.z) λ_=>Qv <| Tt.z
theorem qw{k:Int}{l:AA CG}(h:Cu k l=AE){p:CG}(d:p∈l):(p.As=0->0<=p.Al/\p.Al<=k)/\(p.As≠0->1<=p.As/\p.As<=64/\Cu k p.Ad=AE):=by
 rw[JH,Xs]at h;have q:=h p d;rw[Zq]at q;unfold DG at q;cases z:(p.As==0)with
 |true=>
  rw[z,Vo]at q;simp only[XV,Vq]at q;exact⟨λ_=>q.1,λy=>absurd (by simpa using z) y⟩
 |false=>
  rw[z,Vp]at q;simp only[XV,Vq]at q;exact⟨λy=>by rw[y]at z;simp at z,λ_=>⟨q.1.1,q.1.2,q.2.2.2⟩⟩
def NH(k:Int)(m:Nat)(r:AA Int):Prop:=AI r<=600*(m+1)/\ ∀x∈r,0<=x/\x<=k
theorem NH.app{k:Int}{m:Nat}{a b:AA Int}(ha:∀x∈a,0<=x/\x<=k)(hb:∀x∈b,0<=x/\x<=k)(h:AI a+AI b<=600*(m+1)):NH k m (a++b):=
 ⟨gq,gq⟩
theorem QjO(k:Int):∀(m:Nat) (l:AA CG),Cc l<=m->m<=256->AI l<=1048576->(∀x∈l,CG.wf x)->Cu k l=AE->Tt (λn=>Mu n l) (NH k m):=by
 intro m
 induction m using Nat.strongRecOn with
 |ind m W=>
  intro l hm F hl N O;refine Tt.s ?_;show Tt (λn=>P3 (Mu n) n l) _;unfold P3;refine Tt.b (P:=NH k m) (QO l (λ(a:AA Int) i=>(a,i)) (λ_ a=>NH k m a) om (λi x a f j=>?_) (λa j=>?_) [] _ rfl ⟨sq,λ_ h=>nomatch h⟩) λr d=>Tt.p d
  .unfold Tf;simp only[f.lt,Vo,f.ix,XI,f.nx];refine Tt.c (λq=>?_) λ_=>Tt.p (Q:=F_ _ _ _ _) j;have h2:AI a<=256:=gq;obtain⟨R,J⟩:=qw O f.mem;refine Tt.b (P:=NH k m) (Tt.c (λz=>?_) λz=>?_) λr d=>Tt.p ⟨r,rfl,d⟩
   .have hM:=R (by simpa using z);refine Tt.b (Tt.a (by simp;omega)) λr d=>Tt.p ?_;subst d;exact NH.app j.2 (λy B=>gq) (by simp;omega)
   .obtain⟨l1,l2,M⟩:=J (by simpa using z);obtain⟨H,X⟩:=Yo (N x f.mem);have E:=Y7 f.mem;rw[YS]at E;refine Tt.b (W (Cc x.Ad) om x.Ad (XS _) om H X M) λr d=>?_;have V:=d.1;have G:600*(Cc x.Ad+1)<=600*m:=om;refine Tt.b (P:=NH k m) (Tt.l (λs:AA Int×Int=>NH k m s.1/\0<=s.2/\s.2<=64) (λs=>(64-s.2).toNat) (λs E=>?_) (a,0) gq) λr d=>Tt.p d;obtain⟨T,g⟩:=s;obtain⟨t,L,Y⟩:=E;simp only at t L Y;unfold e8;refine Tt.b (P:=λb=>b=AE->g<x.As/\AI T<=256) (Tt.b (P:=λy=>y=x) (Tt.o f.ix rfl) λy B=>Tt.c (λq1=>Tt.p λq2=>?_) λ_=>Tt.p nofun) λb G=>Tt.c (λq=>?_) λ_=>Tt.p (Q:=Fe _ _ _ _) t
    .grind
    .obtain⟨h3,h4⟩:=G q;refine Tt.b (Tt.a gq) λy B=>Tt.p (Q:=Fe _ _ _ _) ?_;have e:i64.wrap (g+1)=g+1:=Dx;subst B;show(_/\_/\_)/\_;simp only[e];exact⟨⟨NH.app t.2 d.2 om,om,om⟩,om⟩
  simp_all[Tf,Tt.p]
theorem o0(c:CA)(f:AI c.Az<=1048576)(a b:Int):Tt (λn=>Mc n c a b) λ_=>True:=by
 unfold Mc;refine Qe (KU c.Az f (λi x d=>?_) λn=>by simp_all[TI]) λr=>by cases r<;>exact Tt.z
 unfold TI;simp only[d.lt,Vo,d.ix,XI,d.nx];exact Qe (Tt.k λ_=>Tt.z) λ_=>Qv <| Tt.p rfl
theorem qj(l:AA Int)(d:AI l<=1048576)(a:Int):Tt (λn=>Mo n l a) λ_=>True:=by
 unfold Mo;refine Qe (QO l (λ(a:Int) i=>(a,i)) (λ_ _=>True) om (λi x a ha _=>?_) (λ_ _=>?_) 0 _ rfl trivial) λ_=>Tt.z
 .unfold Tn;simp only[ha.lt,Vo,ha.ix,XI,ha.nx];exact Tt.b (P:=λ_=>True) (Tt.k λ_=>Tt.z) λr _=>Tt.p ⟨r,rfl,trivial⟩
 simp_all[Tn,Tt.p]
theorem QlV(c:CA)(w:C2 c){d:AN}(m:I2 c d)(F:Cc d.Ae<=256)(E:AI d.Ae<=1048576)(t:∀x∈d.Ae,CG.wf x)(G:AI d.Aq<=1048576):Tt (λn=>Ox n c d) λ_=>True:=by
 unfold Ox;refine Tt.b (QjO _ _ d.Ae (XS _) F E t m.1) λr g=>?_;have J:=g.1;have j:AI r<=1048576:=om;have h:∀x∈r,Tt (λ_=>CI c.Ar x) λ_=>True:=λx H=>by have:=g.2 x H;exact(Tt.i this.1 om).any
 refine Qe (Tt.k λ_=>Tt.z) λ_=>Qv <| Qe (KU r j (λi x f=>?_) λn=>by simp_all[TW]) λb=>?_
 .have L:=f.lt';unfold TW;simp only[f.lt,Vo,f.nx];refine Qe (Qv <| Tt.k λ_=>Tt.z) λ_=>Qe (Tt.b (P:=λy=>y∈r) (Tt.o f.ix f.mem) λy B=>Qe (h y B) λ_=>Qv <| Tt.c (λq=>?_) λ_=>Tt.z) λ_=>Qv <| Tt.p rfl
  have q:=Vu q;rw[QI (n:=(i:Int)-1) om om];exact Qe (Tt.i om om).any λ_=>Qe (Tt.o f.ix trivial) λ_=>Qe (o0 c w.legs _ _) λ_=>Tt.z
 .cases b with
  |d v=>exact Tt.z
  |k u=>
   refine Qe (Tt.c (λq=>?_) λ_=>Tt.z) λ_=>Qv <| Qe (KU d.Aq G (λi x f=>?_) λn=>by simp_all[U3]) λb=>by cases b<;>exact Tt.z
   .have q:=m.2 gq;exact Qe (Tt.i q.1 q.2).any λ_=>Qv <| Qe (qj r j _) λ_=>Qv <| Qe (o0 c w.legs _ _) λ_=>Tt.z
   .unfold U3;simp only[f.lt,Vo,f.ix,XI,f.nx];exact Qe (qj r j _) λ_=>Qv <| Tt.p rfl
theorem QnK(c:CA)(j:CA.wf c):Tt (λn=>PU n c) λr=>r=AE->∀d∈c.AP,Cc d.Ae<=256:=by
 have w:=Y2 j;have f:=JC j;unfold PU;refine Qe (by repeat' first|with_reducible exact Tt.p trivial|with_reducible refine Tt.c (λ_=>?_) λ_=>?_) λ_=>Tt.n λ_=>?_;refine Tt.b (P:=λr=>match r with|.k _=>∀d∈c.AP,Cc d.Ae<=256|.d b=>b=AD) (QO c.AP (λ(_:Unit) i=>i) (λi _=>∀d∈c.AP.take i,Cc d.Ae<=256) (by have:=w.dist;omega) (λi x _ ha hI=>?_) (λ_ hI=>?_) () _ rfl sq) λr t=>?_
 .unfold T5;simp only[ha.lt,Vo,ha.ix,XI,ha.nx];have g:=f.len x ha.mem;have h:=f.wf x ha.mem;refine Tt.b (P:=λb=>b=AD->Cc x.Ae<=256) (Tt.n λ_=>Qe (Tt.e (uU _ x.Ae 17 (XS _) om g h) trivial) λ_=>Tt.n λ_=>Tt.b (P:=λr=>r=((min (Cc x.Ae) 257:Nat):Int)) (Tt.e (uT _ x.Ae (XS _) g h) rfl) λr y=>Tt.p λq=>gq) λb B=>Tt.c (λ_=>Tt.p (Q:=F_ _ _ _ _) rfl) λq=>Tt.p ⟨(),rfl,λd m=>?_⟩;rw[ha.take]at m
  grind
 .simp_all[T5,Tt.p]
 .cases r with
  |k u=>exact Tt.p λ_=>t
  |d b=>simp_all[Tt.p]
def Ia(c:CA):Prop:=∀d∈c.AP,I2 c d/\Cc d.Ae<=256
theorem QjP(c:CA)(g:CA.wf c):Tt (λn=>HU n c) λe=>e=0->Ia c:=by
 have w:=Y2 g;have h:=JC g;obtain⟨m,j⟩:=lK g;unfold HU;refine Tt.b (QnK c g) λr G=>Tt.n λF=>Qe (QpY c w) λ_=>Tt.n λ_=>Tt.b (QnC c g) λB E=>Tt.n λH=>?_;have R:Ia c:=λd y=>gq;refine Tt.w (P:=λ_=>True) ?_ λ_ _ _=>R;refine Qe (QnM m j) λ_=>Qv <| Qe (KU c.AP w.dist (λi x f=>?_) λn=>by simp_all[VZ]) λb=>by cases b<;>exact Tt.z
 unfold VZ;simp only[f.lt,Vo,f.ix,XI,f.nx];obtain⟨q,t⟩:=R x f.mem;exact Qe (QlV c w q t (h.len x f.mem) (h.wf x f.mem) (w.cut x f.mem)) λ_=>Qv <| Tt.p rfl
set_option maxRecDepth 10000
theorem sJ:∀l:AA CG,AI l<=Cc l
 |[]=>XT _
 |p::r=>by
  have:=sJ r
  grind[Cc,YS]
theorem Qnx:∀(m:Nat) (l:AA CG) (d:Int),Cc l<=m->AI l<=1048576->(∀x∈l,CG.wf x)->Tt (λn=>My n l d) λ_=>True:=by
 intro m
 induction m using Nat.strongRecOn with
 |ind m h=>
  intro l d t y f;refine Tt.s ?_;show Tt (λn=>P7 (My n) n l d) _;unfold P7;refine Qv <| Qe (QO l (λ(a:Int) i=>(a,i)) (λ_ _=>True) om (λi x a ha _=>?_) (λ_ _=>?_) _ _ rfl trivial) λ_=>Tt.z
  .unfold T9;simp only[ha.lt,Vo,ha.ix,XI,ha.nx];obtain⟨g,j⟩:=Yo (f x ha.mem);have q:=Y7 ha.mem;rw[YS]at q;exact Tt.c (λ_=>Qe (h (Cc x.Ad) om x.Ad _ (XS _) g j) λr=>Tt.p ⟨_,rfl,trivial⟩) λ_=>Tt.p (Q:=F_ _ _ _ _) trivial
  simp_all[T9,Tt.p]
theorem Ql0:∀(m:Nat) (l:AA AS) (d:Int),SizeOf.sizeOf l<=m->AI l<=1048576->(∀x∈l,AS.wf x)->Tt (λn=>Mw n l d) λ_=>True:=by
 intro m
 induction m with
 |zero=>intro l d f;cases l<;>simp at f
 |succ m j=>
  intro l d f t g;refine Tt.s ?_;show Tt (λn=>P5 (Mw n) n l d) _;unfold P5;refine Qv <| Qe (QO l (λ(a:Int) i=>(a,i)) (λ_ _=>True) om (λi x a ha _=>?_) (λ_ _=>?_) _ _ rfl trivial) λ_=>Tt.z
  .unfold U4;simp only[ha.lt,Vo,ha.ix,XI,ha.nx];obtain⟨h,q⟩:=Jb (g x ha.mem);have B:=List.sizeOf_lt_of_mem ha.mem;have y:SizeOf.sizeOf x.Ad<SizeOf.sizeOf x:=by cases x;simp;omega
   exact Tt.c (λ_=>Qe (j x.Ad _ om h q) λr=>Tt.p ⟨_,rfl,trivial⟩) λ_=>Tt.p (Q:=F_ _ _ _ _) trivial
  simp_all[U4,Tt.p]
theorem QlQ:∀(m:Nat) (l:AA AY) (d:Int),SizeOf.sizeOf l<=m->AI l<=1048576->(∀x∈l,AY.wf x)->Tt (λn=>Mt n l d) λ_=>True:=by
 intro m
 induction m with
 |zero=>intro l d q;cases l<;>simp at q
 |succ m t=>
  intro l d q E B;refine Tt.s ?_;show Tt (λn=>P2 (Mt n) n l d) _;unfold P2;refine Qv <| Qe (QO l (λ(a:Int) i=>(a,i)) (λ_ _=>True) om (λi x a ha _=>?_) (λ_ _=>?_) _ _ rfl trivial) λ_=>Tt.z
  .unfold Ta;simp only[ha.lt,Vo,ha.ix,XI,ha.nx];obtain⟨J,⟨g,h⟩,⟨f,j⟩⟩:=Ja (B x ha.mem);have H:=List.sizeOf_lt_of_mem ha.mem;have F:SizeOf.sizeOf x.BY<SizeOf.sizeOf x/\SizeOf.sizeOf x.Bf<SizeOf.sizeOf x:=by cases x;simp;omega
   exact Tt.c (λ_=>Qe (Ql0 _ [x.AS] 0 (XS _) sq λy G=>gq) λ_=>Qe (t x.BY _ om g h) λ_=>Qe (t x.Bf _ om f j) λ_=>Tt.p ⟨_,rfl,trivial⟩) λ_=>Tt.p (Q:=F_ _ _ _ _) trivial
  simp_all[Ta,Tt.p]
theorem Qp6(c:CA)(f:CA.wf c):Tt (λn=>Ol n c) λ_=>True:=by
 have w:=Y2 f;have g:=JC f;obtain⟨j,h⟩:=lK f;unfold Ol;refine Qe (KU c.AP w.dist (λi x d=>?_) λn=>by simp_all[VT]) λb=>?_
 .unfold VT;simp only[d.lt,Vo,d.ix,XI,d.nx];exact Qe (Qe (Qnx _ x.Ae 0 (XS _) (g.len x d.mem) (g.wf x d.mem)) λ_=>Qv <| Tt.k λ_=>Tt.z) λ_=>Qv <| Tt.p rfl
 rcases b with u|v
 case d=>exact Tt.z
 refine Qe (KU c.Ar w.mats (λi x d=>?_) λn=>by simp_all[UW]) λb=>?_
 .unfold UW;simp only[d.lt,Vo,d.ix,XI,d.nx];exact Qv <| Tt.p rfl
 rcases b with u|v
 case d=>exact Tt.z
 refine Qe (by repeat' first|with_reducible exact Tt.p trivial|with_reducible refine Tt.c (λ_=>?_) λ_=>?_) λ_=>Qv <| Qe (QlQ _ c.BN 0 (XS _) j h) λ_=>Tt.z
theorem QjN(k:Int):∀(m:Nat) (l:AA CG),Cc l<=m->m<=256->AI l<=1048576->(∀x∈l,CG.wf x)->Cu k l=AE->Tt (λn=>Rn n l) λr=>AI r<=600*(m+1):=by
 intro m
 induction m using Nat.strongRecOn with
 |ind m R=>
  intro l hm h hl H J;have ll:=sJ l;refine Tt.s ?_;show Tt (λn=>i4 (Rn n) n l) _;unfold i4;refine Tt.b (P:=λ(r:AA Int)=>AI r<=600*(m+1)) (QO l (λ(a:AA Int) i=>(a,i)) (λi a=>AI a<=300+600*m+i) om (λi x a d L=>?_) (λa L=>?_) [] _ rfl sq) λr f=>Tt.p f
  .have hi:=d.lt';unfold T4;simp only[d.lt,Vo,d.ix,XI,d.nx];obtain⟨Y,B⟩:=qw J d.mem;refine Tt.b (P:=λ(r:AA Int)=>AI r<=300+600*m+(i+1)) (Tt.c (λz=>?_) λz=>?_) λr f=>Tt.p ⟨r,rfl,f⟩
   .exact Tt.b (Tt.a (by simp;omega)) λr f=>Tt.p gq
   .obtain⟨l1,l2,G⟩:=B (by simpa using z);obtain⟨t,T⟩:=Yo (H x d.mem);have g:=Y7 d.mem;rw[YS]at g;refine Tt.b (R (Cc x.Ad) om x.Ad (XS _) om t T G) λr f=>?_;have j:600*(Cc x.Ad+1)<=600*m:=om;refine Tt.b (P:=λ(r:AA Int)=>AI r<=300+600*m+(i+1)) (Tt.l (λs:AA Int×Int=>AI s.1<=300+600*m+i/\0<=s.2/\s.2<=64) (λs=>(64-s.2).toNat) (λs g=>?_) (a,0) gq) λr f=>Tt.p f;obtain⟨O,F⟩:=s;obtain⟨M,E,V⟩:=g;simp only at M E V;unfold eu;refine Tt.b (P:=λb=>b=AE->F<x.As/\AI O<=300) (Tt.b (P:=λy=>y=x) (Tt.o d.ix rfl) λy N=>Tt.c (λX=>Tt.c (λ_=>Tt.p λq2=>?_) λ_=>Tt.p nofun) λ_=>Tt.p nofun) λb j=>Tt.c (λq=>?_) λ_=>Tt.p (Q:=Fe _ _ _ _) gq
    .grind
    .obtain⟨h3,W⟩:=j q;refine Tt.b (Tt.a gq) λy N=>Tt.p (Q:=Fe _ _ _ _) ?_
     grind[QI]
  .unfold T4;simp only[Jf,Vp];exact Tt.p ⟨_,rfl,om⟩
theorem lI{c:CA}(h:CA.wf c)(R:Ia c){d:AN}(f:d∈c.AP):Tt (λn=>Rn n d.Ae) λr=>AI r<=1048576:=by
 have g:=JC h;obtain⟨⟨a,_⟩,b⟩:=R d f;exact(QjN _ _ d.Ae (XS _) b (g.len d f) (g.wf d f) a).w om
theorem Qp2{c:CA}(f:CA.wf c)(R:Ia c)(k:Int):Tt (λn=>PP n c k) λ_=>True:=by
 unfold PP;refine Qe (Qp6 c f) λb=>Qv <| Qe (KU c.AP (Y2 f).dist (λi x d=>?_) λn=>by simp_all[Ty]) λb=>by cases b<;>exact Tt.z
 unfold Ty;simp only[d.lt,Vo,d.ix,XI,d.nx];exact Qe (lI f R d.mem).any λ_=>Qv <| Tt.p rfl
theorem tj{c:CA}(he:Ev (λn=>HU n c) 0)(i:Int):Tt (λn=>Mk n c i) λe=>e=0->0<=i/\i<(AI c.AP:Int):=by
 unfold Mk;refine Tt.b (P:=λe=>e=0) (Tt.e he rfl) λe d=>?_;subst d;refine Tt.c (λq=>by cases q) λ_=>Tt.b (P:=λb=>b=AD->0<=i/\i<(AI c.AP:Int)) (Tt.n λh=>Tt.p λq=>?_) λb f=>Tt.n λq=>Tt.p λ_=>f q;have h:=Vv h;have q:=Vv q;exact⟨om,om⟩
theorem QnO{c:CA}(h:CA.wf c)(R:Ia c)(he:Ev (λn=>HU n c) 0)(i:Int):Tt (λn=>Oe n c i) λ_=>True:=by
 unfold Oe;refine Tt.b (tj he i) λe g=>Tt.k λq=>?_;obtain⟨a,b⟩:=g gq;exact Tt.b (Tt.i a b) λd f=>Qe (Tt.z) λ_=>Qe (lI h R f).any λ_=>Qe (Tt.z) λ_=>Qv <| Tt.z
theorem Ql1{c:CA}(H:CA.wf c)(R:Ia c)(he:Ev (λn=>HU n c) 0)(i k:Int):Tt (λn=>Oa n c i k) λ_=>True:=by
 unfold Oa;refine Tt.b (tj he i) λe M=>Tt.k λq=>?_;obtain⟨a,b⟩:=M gq;refine Tt.b (Tt.i a b) λd F=>Tt.b (P:=λb=>b=AD->0<=k) (Tt.n λh=>Tt.w (P:=λ_=>True) (Tt.k λ_=>Tt.z) λ_ _ _=>gq) λb0 g=>Tt.k λG=>Tt.b (lI H R F) λr hr=>Tt.b (P:=λb=>b=AD->k<=256) (Tt.n λh=>Tt.p λ_=>gq) λY B=>Tt.k λL=>Qv <| ?_
 have k0:=g G;have X:=B L;refine Tt.b (P:=λx=> -1<=x/\x<(AI r:Int)) ?_ λx f=>?_
 .unfold V';refine Tt.b (P:=λx=> -1<=x/\x<(AI r:Int)) (QO r (λ(a:Int) i=>(a,i)) (λi a=> -1<=a/\a<(i:Int)) om (λi y a t E=>?_) (λa E=>?_) (-1) _ rfl om) λx f=>Tt.p f
  .unfold TX;simp only[t.lt,Vo,t.ix,XI,t.nx];exact Tt.b (P:=λx=> -1<=x/\x<((i+1:Nat):Int)) (Tt.c (λ_=>Tt.p om) λ_=>Tt.p ⟨E.1,om⟩) λx f=>Tt.p ⟨x,rfl,f⟩
  simp_all[TX,Tt.p]
 rw[QI (n:=x+1) om om];refine Tt.b (Tt.sl (Int.le_refl 0) om om) λp hp=>Tt.b (Tt.a (by simp;omega)) λj V=>?_;have e2:AI j=AI p:=by rw[V];simp
 refine Tt.b (P:=λ(m:AA Int)=>AI m<=2000000) (Tt.l (λs:AA Int×Int=>AI s.1=AI j+s.2.toNat/\0<=s.2/\s.2<=k) (λs=>(k-s.2).toNat) (λs O=>?_) (j,0) gq) λm T=>Tt.b (Tt.sl om om (Int.le_refl _)) λp2 h2=>Tt.b (Tt.a om) λ_ _=>Tt.z;obtain⟨s1,s2⟩:=s;obtain⟨N,J,W⟩:=O;simp only at N J W;unfold ew;refine Tt.c (λq=>?_) λ_=>Tt.p (Q:=Fe _ _ _ _) gq;have q:=Vu q;simp only at q;refine Tt.b (Tt.a gq) λm T=>Tt.p (Q:=Fe _ _ _ _) ?_
 grind[QI]
section
variable {α:Type}
theorem k9{R:AA α->Prop}(l:AA α)(x:α){i:Int}(q:0<=i)(j:i<=(AI l:Int))(H:AI l<=100000)(h:∀m,AI m=AI l+1->(∀y∈m,y=x\/y∈l)->R m):
  Tt (λ_=>(Dm l i (AI l:Int)).bind λa=>(app [x] a).bind λb=>(Dm l 0 i).bind λc=>(app c b).bind λd=>AC d) R:=by
 refine Tt.b (Tt.sl q j (Int.le_refl _)) λp t=>Tt.b (Tt.a (by simp;omega)) λG B=>?_;subst B;refine Tt.b (Tt.sl (Int.le_refl 0) q j) λJ E=>Tt.b (Tt.a (by simp;omega)) λF f=>Tt.p (h _ ?_ λy g=>?_)
 .subst f;simp;omega
 .subst f;simp only[VB,Vz]at g;rcases g with h|h|h
  .exact .inr (E.2 y h)
  .exact .inl h
  .exact .inr (t.2 y h)
theorem h?{R:AA α->Prop}(l:AA α)(x:α){i:Int}(g:0<=i)(f:i<=(AI l:Int))(G:AI l<=100000)(h:∀m,AI m=AI l+1->(∀y∈m,y=x\/y∈l)->R m):
  Tt (λ_=>(Dm l 0 i).bind λa=>(app ([]:AA α) a).bind λb=>(app b [x]).bind λc=>(Dm l i (AI l:Int)).bind λd=>(app c d).bind λe=>AC e) R:=by
 refine Tt.b (Tt.sl (Int.le_refl 0) g f) λp t=>Tt.b (Tt.a (by simp;omega)) λF j=>?_;subst j;refine Tt.b (Tt.a (by simp;omega)) λJ q=>Tt.b (Tt.sl g f (Int.le_refl _)) λB M=>?_;subst q;refine Tt.b (Tt.a (by simp;omega)) λE L=>Tt.p (h _ ?_ λy H=>?_)
 .grind
 grind
end
theorem y?(l:AA AO)(b:Int)(d:AI l<=1000):Tt (λn=>Ph n l b) λ_=>True:=by
 unfold Ph;refine Qe (QO l (λ(_:Unit) i=>i) (λ_ _=>True) om (λi x _ ha _=>?_) (λ_ _=>?_) () _ rfl trivial) λr=>?_
 .unfold TH;simp only[ha.lt,Vo,ha.ix,XI,ha.nx]
  simp_all[Tt.c,Tt.p]
 .simp_all[TH,Tt.p]
 .cases r<;>exact Tt.z
theorem Qny(l:AA CH)(r:A4)(d:AI l<=16):Tt (λn=>OZ n l r) λ_=>True:=by
 unfold OZ;refine Qe (QO l (λ(_:Unit) i=>i) (λ_ _=>True) om (λi x _ ha _=>?_) (λ_ _=>?_) () _ rfl trivial) λr=>?_
 .unfold U9;simp only[ha.lt,Vo,ha.ix,XI,ha.nx];refine Qe ?_ λ_=>Qv <| Tt.p ⟨(),rfl,trivial⟩
  repeat' first|with_reducible exact Tt.p trivial|with_reducible refine Tt.c (λ_=>?_) λ_=>?_
 .simp_all[U9,Tt.p]
 .cases r<;>exact Tt.z
theorem QnG(a b:A4):Tt (λn=>Ou n a b) λ_=>True:=by
 unfold Ou
 repeat' first|with_reducible exact Tt.p trivial|with_reducible refine Tt.c (λ_=>?_) λ_=>?_
theorem c?(c:CA)(l:AA CH)(q:AI l<=16):Tt (λn=>Pa n c l) λr=>AI r<=16:=by
 unfold Pa;refine Tt.b (d7 l q) λC hC=>?_;refine Tt.b (P:=λ(a:AA A4)=>AI a<=16) (QO C (λ(a:AA A4) i=>(a,i)) (λi a=>AI a<=i) om (λi x a d h=>?_) (λa h=>?_) [] _ rfl (XS _)) λa d=>Tt.p d
 .unfold US;have:=d.lt';simp only[d.lt,Vo,d.ix,XI,d.nx];refine Tt.b (P:=λ(m:AA A4)=>AI m<=i+1) (Qe (Qv <| Qv <| Qe (Qny C _ hC.1) λ_=>Tt.z) λb=>Tt.c (λ_=>Tt.p om) λ_=>?_) λm g=>Tt.p ⟨m,rfl,g⟩;refine Tt.b (Tt.find a om λj y f=>Qe (Tt.o f.ix trivial) λy=>Qe (QnG _ _) λ_=>Tt.z) λj f=>?_;exact k9 a x.A4 f.1 f.2 om λm B t=>om
 .unfold US;simp only[Jf,Vp];exact Tt.p ⟨_,rfl,om⟩
theorem Qqb(c:CA)(l:AA CH)(t:AI l<=16){e:Int}(he:Ev (λn=>HU n c) e):Tt (λn=>PG n c l) λr=>AI r<=16:=by
 unfold PG;refine Qe (Tt.e he trivial) λe=>Tt.c (λ_=>Tt.p sq) λ_=>Tt.b (c? c l t) λC hC=>?_;refine Tt.b (P:=λ(a:AA CL)=>AI a<=16) (QO C (λ(a:AA CL) i=>(a,i)) (λi a=>AI a<=i) om (λi x a d j=>?_) (λa j=>?_) [] _ rfl (XS _)) λa d=>Tt.p d
 .unfold TM;have:=d.lt';have w:i64.wrap ((AI a:Int)-1)=(AI a:Int)-1:=Dx;simp only[d.lt,Vo,d.ix,XI,d.nx,w];refine Tt.b (P:=λb=>b=AE->0<=(AI a:Int)-1) (Tt.c (λh=>?_) λ_=>Tt.p nofun) λb g=>?_
  .have h:=Vu h;refine Tt.w (P:=λ_=>True) ?_ λ_ _ _=>h
   repeat' first|with_reducible exact Tt.p trivial|with_reducible refine Tt.c (λ_=>?_) λ_=>?_|with_reducible refine Qe ?_ λ_=>?_|exact(Tt.i h om).any
  .refine Tt.b (P:=λ(m:AA CL)=>AI m<=i+1) (Tt.c (λq=>?_) λ_=>Tt.b (Tt.a (by simp;omega)) λm f=>Tt.p gq) λm f=>Tt.p ⟨m,rfl,f⟩;have h:=g q;exact Qe (Tt.i h om).any λy=>Tt.b (Tt.set h om) λm f=>Tt.p om
 .unfold TM;simp only[Jf,Vp];exact Tt.p ⟨_,rfl,om⟩
theorem b?(c:CA)(l:AA CH)(k:Int)(g:AI l<=16){e:Int}(he:Ev (λn=>HU n c) e):Tt (λn=>Pw n c l k) λr=>AI r<=16:=by
 unfold Pw;refine Tt.b (Qqb c l g he) λC hC=>?_;refine Tt.b (P:=λ(a:AA CL)=>AI a<=16) (QO C (λ(a:AA CL) i=>(a,i)) (λi a=>AI a<=i) om (λi x a d h=>?_) (λa h=>?_) [] _ rfl (XS _)) λa d=>Tt.p d
 .unfold Th;have:=d.lt';simp only[d.lt,Vo,d.ix,XI,d.nx];exact Tt.b (P:=λ(m:AA CL)=>AI m<=i+1) (Tt.c (λ_=>Tt.b (Tt.a (by simp;omega)) λm f=>Tt.p gq) λ_=>Tt.p om) λm f=>Tt.p ⟨m,rfl,f⟩
 .unfold Th;simp only[Jf,Vp];exact Tt.p ⟨_,rfl,om⟩
theorem tg(l:AA CH)(k:Int)(B:AI l<=16):Tt (λn=>MQ n l k) λr=>AI r<=16:=by
 unfold MQ;refine Tt.b (P:=λ(a:AA Int)=>AI a<=16) (QO l (λ(a:AA Int) i=>(a,i)) (λi a=>AI a<=i) om (λi x a d q=>?_) (λa q=>?_) [] _ rfl (XS _)) λa d=>Tt.p d
 .unfold Tq;have:=d.lt';simp only[d.lt,Vo,d.ix,XI,d.nx];refine Tt.b (P:=λ(m:AA Int)=>AI m<=i+1) (Tt.c (λ_=>Tt.p om) λ_=>?_) λm g=>Tt.p ⟨m,rfl,g⟩;refine Tt.b (Tt.find a om λj y f=>Qe (Tt.o f.ix trivial) λy=>Tt.z) λj f=>?_;refine Qe (Tt.c (λh=>Qe (Tt.i f.1 (Vu h)).any λ_=>Tt.z) λ_=>Tt.z) λ_=>Tt.c (λ_=>Tt.p om) λ_=>?_;exact k9 a _ f.1 f.2 om λm E t=>om
 .unfold Tq;simp only[Jf,Vp];exact Tt.p ⟨_,rfl,om⟩
theorem ti(l:AA CH)(g:AI l<=16):Tt (λn=>Mj n l) λr=>AI r<=16:=by
 unfold Mj;refine Tt.b (d7 l g) λC hC=>Tt.b (tg C 8 hC.1) λK hK=>?_;refine Tt.b (P:=λ(a:AA Aj)=>AI a<=16) (QO K (λ(a:AA Aj) i=>(a,i)) (λi a=>AI a<=i) om (λi x a d h=>?_) (λa h=>?_) [] _ rfl (XS _)) λa d=>Tt.p d
 .unfold Td;have:=d.lt';simp only[d.lt,Vo,d.nx];refine Tt.b (P:=λ(m:AA Aj)=>AI m<=i+1) (QO C (λ(_:Unit) i=>i) (λ_ _=>True) om (λj y _ hy _=>?_) (λ_ _=>?_) () _ rfl trivial) λm f=>Tt.p ⟨m,rfl,f⟩
  .unfold T6;simp only[hy.lt,Vo,hy.ix,XI,hy.nx];exact Qe (Tt.c (λ_=>Qe (Tt.o d.ix trivial) λ_=>Tt.z) λ_=>Tt.z) λ_=>Tt.c (λ_=>Tt.b (Tt.a (by simp;omega)) λm f=>Tt.p (Q:=F_ _ _ _ _) gq) λ_=>Tt.p ⟨(),rfl,trivial⟩
  .unfold T6;simp only[Jf,Vp];exact Tt.p ⟨_,rfl,om⟩
 .unfold Td;simp only[Jf,Vp];exact Tt.p ⟨_,rfl,om⟩
theorem rf(l:AA Int)(k:Int)(g:AI l<=1000):Tt (λn=>Ma n l k) λr=>AI r<=AI l+1:=by
 unfold Ma;refine Tt.b (Tt.find l om λj y d=>Qe (Tt.o d.ix trivial) λy=>Tt.z) λj d=>?_;refine Qe (Tt.c (λh=>Qe (Tt.i d.1 (Vu h)).any λ_=>Tt.z) λ_=>Tt.z) λ_=>Tt.c (λ_=>Tt.p om) λ_=>?_;exact k9 l _ d.1 d.2 om λm f q=>om
theorem im(l:AA CH)(a b:Int)(f:AI l<=16):Tt (λn=>ID n l a b) λr=>r<(AI l:Int):=by
 unfold ID;refine Tt.b (P:=Fo λr=>r<(AI l:Int)) (QO l (λ(_:Unit) i=>i) (λ_ _=>True) om (λi x _ ha _=>?_) (λ_ _=>?_) () _ rfl trivial) λr d=>?_
 .unfold MJ;have:=ha.lt';simp only[ha.lt,Vo,ha.ix,XI,ha.nx];refine Qe ?_ λ_=>Tt.c (λ_=>Tt.p (Q:=F_ _ _ _ _) om) λ_=>Tt.p ⟨(),rfl,trivial⟩
  repeat' first|with_reducible exact Tt.p trivial|with_reducible refine Tt.c (λ_=>?_) λ_=>?_
 .simp_all[MJ,Tt.p]
 .cases r with
  |k s=>exact Tt.p om
  |d s=>exact Tt.p d
theorem vA(l:AA CH)(a:Int)(d:AI l<=16):Tt (λn=>PZ n l a) λ_=>True:=by
 unfold PZ;refine Qe (Qe (im l a 1 d).any λ_=>Qv <| Qe (im l a 2 d).any λ_=>Tt.z) λ_=>Qv <| ?_
 refine Qe (QO l (λ(_:Unit) i=>i) (λ_ _=>True) om (λi x _ ha _=>?_) (λ_ _=>?_) () _ rfl trivial) λr=>?_
 .unfold VU;simp only[ha.lt,Vo,ha.ix,XI,ha.nx];refine Qe ?_ λ_=>Qv <| Tt.p ⟨(),rfl,trivial⟩
  repeat' first|with_reducible exact Tt.p trivial|with_reducible refine Tt.c (λ_=>?_) λ_=>?_
 .simp_all[VU,Tt.p]
 .cases r<;>exact Tt.z
theorem QpZ(l:AA CH)(a:Int)(d:AI l<=16):Tt (λn=>J1 n l a) λr=>r<(AI l:Int):=by
 unfold J1;exact Qe (vA l a d) λ_=>Tt.c (λ_=>Tt.p om) λ_=>Tt.b (im l a 2 d) λr h=>Tt.c (λ_=>Tt.p h) λ_=>Tt.b (im l a 1 d) λr h=>Tt.p h
theorem Qqa(l:AA CH)(j:AI l<=16):Tt (λn=>OW n l) λr=>AI r<=16:=by
 unfold OW;refine Tt.b (d7 l j) λC hC=>Tt.b (tg C 10 hC.1) λK hK=>?_;refine Tt.b (P:=λ(a:AA Af)=>AI a<=16) (QO K (λ(a:AA Af) i=>(a,i)) (λi a=>AI a<=i) om (λi x a d g=>?_) (λa g=>?_) [] _ rfl (XS _)) λa d=>Tt.p d
 .unfold TF;have:=d.lt';simp only[d.lt,Vo,d.ix,XI,d.nx];exact Tt.b (QpZ C x hC.1) λr q=>Tt.b (P:=λ(m:AA Af)=>AI m<=i+1) (Tt.c (λh=>Qe (Tt.i (Vu h) q).any λ_=>Tt.b (Tt.a (by simp;omega)) λm f=>Tt.p gq) λ_=>Tt.p om) λm f=>Tt.p ⟨m,rfl,f⟩
 .unfold TF;simp only[Jf,Vp];exact Tt.p ⟨_,rfl,om⟩
theorem QnB(l:AA CH)(a:Int)(d:AI l<=16):Tt (λn=>O' n l a) λ_=>True:=by
 unfold O';refine Tt.b (ti l d) λC hC=>Qe (QO C (λ(_:Unit) i=>i) (λ_ _=>True) om (λi x _ ha _=>?_) (λ_ _=>?_) () _ rfl trivial) λr=>?_
 .unfold UU;simp only[ha.lt,Vo,ha.ix,XI,ha.nx]
  simp_all[Tt.c,Tt.p]
 .simp_all[UU,Tt.p]
 .cases r<;>exact Tt.z
theorem Qr0(l:AA CE)(d:AI l<=1000):Tt (λn=>Ig n l) λ_=>True:=by
 unfold Ig;refine Qe (QO l (λ(a:Int) i=>(a,i)) (λ_ _=>True) om (λi x a ha _=>?_) (λ_ _=>?_) 0 _ rfl trivial) λr=>Tt.z
 .unfold MD;simp only[ha.lt,Vo,ha.ix,XI,ha.nx];exact Tt.p ⟨_,rfl,trivial⟩
 simp_all[MD,Tt.p]
structure LH (c:CA):Prop where
 wf:CA.wf c
 few:HK c
 ty:Ev (λn=>G8 n c) 0
 cE:CM c=0
 good:Ft c
structure LG (c:CA):Prop where
 wf:CA.wf c
 few:HK c
 ty:Ev (λn=>G8 n c) (CM c)
 ref:Ev (λn=>HU n c) 0
 rr:Ia c
theorem LG.r{c:CA}(h:LG c)(e:CM c=0):LH c:=⟨h.wf,h.few,e▸h.ty,e,QqC (Y2 h.wf) (JC h.wf) e⟩
theorem Qp5{c:CA}(h:LG c){k:CD}(t:FR k)(s:AO)(e:Int)(x:AA CL)(l:AA Ac):Tt (λn=>Pi n c k s e x l) λr=>r=AE->AI x<=4/\AI l<=6:=by
 unfold Pi;obtain⟨b,m,_⟩:=rI c h.wf;obtain⟨B,y,_⟩:=QoX k t;have rr:=Ql1 h.wf h.rr h.ref s.AN e;refine Tt.b (P:=λq=>q=AD->AI x<=4/\AI l<=6) (Qe (Tt.e m trivial) λ_=>Tt.n λ_=>Tt.n λ_=>Qe (Tt.e y trivial) λ_=>Tt.n λ_=>Tt.n λj=>Tt.p λg=>?_) λq f=>Tt.n λd=>?_
 .have j:=Vv j;have g:=Vv g;exact⟨om,om⟩
 exact Qe (Tt.k λ_=>Tt.z) λ_=>Tt.c (λ_=>Tt.p λ_=>f d) λ_=>Qe rr λ_=>Qe (Tt.k λ_=>Tt.z) λ_=>Tt.p λ_=>f d
abbrev vL:=AA CC×AA (AA Int)×Int×Int×Int×Int×Int×Int×Int×Int×AA CL×AA Ac×AA CE×Bool
section
variable {α β:Type}
theorem tT{l:AA α}[DecidableEq (AA α)](d:AI l<=1048576):isNil l (AC ([]:AA α)) ((app ([]:AA α) l).bind λx=>AC x)=AC l:=by
 have:app [] l=AC l:=by rw[qD _ _ (by simp;omega)];rfl
 unfold isNil
 grind
theorem QpG{F:Nat->α->α->AB β}{V:α->α->β}(l:AA α)(h:∀x∈l,∀y∈l,Ev (λn=>F n x y) (V x y)):∃N,∀n,N<=n->∀x∈l,∀y∈l,F n x y=AC (V x y):=by
 obtain⟨N,d⟩:=nJ (F:=λn p=>F n p.1 p.2) (V:=λp=>V p.1 p.2) (l.flatMap λx=>l.map λy=>(x,y)) (by
  grind)
 exact⟨N,λn f x j y g=>d n f (x,y) gq⟩
def M0(c:α->α->Int)(x y:α):Bool:=AG (c x y<0)
theorem iA{c:α->α->Int}(d:DY c)(l:AA α):Ns (M0 c) l:=by
 refine⟨λx _=>?_,λx _ y _ z _ g f=>?_,λx _ y _ z _ g f=>?_⟩
 .have:=d.refl x;exact Vw om
 .have g:=Vu g;have f:=Vu f;exact Vt (d.trans x y z g f)
 .have g:=Vv g;have f:=Vv f;refine Vw λh=>?_;have a:=d.swap x y;have b:=d.swap y z;by_cases e:c x y=0
  .rw[d.eqt x y z e]at h;exact f h
  .by_cases j:c y z=0
   .rw[<- d.eqr x j]at h;exact g h
   .have m:=d.trans z y x om om;have:=d.swap x z;omega
theorem qV[DecidableEq α]{j:Nat->α->α->AB Int}{l:AA α}{c:α->α->Int}(E:AI l<=1048576)(H:∀x∈l,∀y∈l,Ev (λn=>j n x y) (c x y))(d:DY c)(F:∀x∈l,∀y∈l,c x y=0->x=y):
  Ev (λn=>L8 (j n) l) (Ki (M0 c) l):=by
 obtain⟨N,G⟩:=QpG l H;refine⟨N,λn J=>?_⟩;have h:=G n J;have B:=Qn3 (XQ (QqE E)) c h (λx _=>by have:=d.refl x;omega) (λx _ y _ z _=>d.trans x y z) (λx g y f z L q m=>by
   have:=(iA d l).ntrans x g y f z L (Vw q) (Vw m);exact Vv this) (λx g y f q m=>F x g y f (by have:=d.swap x y;omega))
 show L8 (j n) l=AC (Ki (M0 c) l);rw[B];congr 1;obtain⟨_,_,M,_,_⟩:=mW B;have t:∀x∈l,∀y∈l,HM (j n) x y=M0 c x y:=λx g y f=>by unfold HM M0;grind
 refine il ((Q4 _ l).trans (Q4 _ l).symm) (λx g y f q m=>?_) ?_ (Jk (iA d l))
 .grind[Q4]
 grind[List.Pairwise.imp_of_mem,Jk,Q4]
end
def C':AA Int->AA Int->Int
 |[],[]=>0
 |[],_::_=> -1
 |_::_,[]=>1
 |x::a,y::b=>bif Cw x y != 0 then Cw x y else C' a b
theorem QqW(a b:AA Int)(J:AI a<=1048576)(L:AI b<=1048576):Ev (λn=>PH n a b) (C' a b):=by
 unfold PH;have h:∀(r:AA Int) (i:Nat),a.drop i=r->i<=AI a->i<=AI b->∃d:CF Unit Int,Dc (λn=>Kv n a b) (i:Int) d/\(match d with|.k _=>(bif (AI a:Int)<(AI b:Int) then(-1:Int)else 0)|.d v=>v)=C' r (b.drop i):=by
  intro r
  induction r with
  |nil=>
   intro i j F B;refine⟨.k (),Ei ?_,?_⟩
   .unfold Kv;simp only[Yw j F,Vp];exact Qa _
   .have f:i=AI a:=by have:=Xq.1 j;omega
    cases q:b.drop i with
    |nil=>
     simp_all[YO,C']
    |cons y s=>
     have:i<AI b:=by
      grind
     simp_all[C']
  |cons x r G=>
   intro i j F B;obtain⟨f,H⟩:=QH om j;by_cases E:AI b<=i
   .refine⟨.d 1,Ei ?_,?_⟩
    .unfold Kv;simp only[f.lt,Vo,f.ix,XI,dT ((AI b:Int)<=(i:Int))];exact Qa _
    .rw[List.drop_of_length_le E];rfl
   .have g:i<AI b:=by omega
    rw[Xp g];cases q:(Cw x b[i] != 0)with
    |true=>
     refine⟨.d (Cw x b[i]),Ei ?_,?_⟩
     .unfold Kv;simp only[f.lt,Vo,f.ix,XI,dF ((AI b:Int)<=(i:Int)),Vp,QA (XJ g)];refine Ea (Su _ _) ?_;rw[q];exact Qa _
     .simp only[C',q,Vo]
    |false=>
     obtain⟨d,t,m⟩:=G (i+1) H (by have:=f.lt';omega) om;refine⟨d,Ew ?_ t,?_⟩
     .unfold Kv;simp only[f.lt,Vo,f.ix,XI,dF ((AI b:Int)<=(i:Int)),Vp,QA (XJ g),f.nx];refine Ea (Su _ _) ?_;rw[q];exact Qa _
     simp_all[C']
 obtain⟨d,t,m⟩:=h a 0 rfl (XT _) (XT _);rw[List.drop_zero]at m;refine Ea t.ev ?_;rw[<- m];cases d with
 |d v=>exact Qa _
 |k _=>exact JD (λ_=>Qa _) (λ_=>Qa _)
theorem Qpf(a b:Int):Cw a b<0↔a<b:=by
 grind[Cw]
theorem g_(a b:Int):(Cw a b != 0)=(a != b):=by
 grind[Cw]
theorem Qq6(x y:Int)(a b:AA Int):C' (x::a) (y::b)<0↔x<y\/x=y/\C' a b<0:=by
 rw[show C' (x::a) (y::b)=bif Cw x y != 0 then Cw x y else C' a b from rfl,g_];by_cases e:x=y
 .subst e;simp
 .have:(x != y)=true:=by grind
  rw[this,Vo,Qpf];omega
theorem uM:∀a b c:AA Int,C' a b<0->C' b c<0->C' a c<0
 |[],[],c,h,_=>om
 |[],y::b,[],_,h=>by simp[C']at h
 |[],y::b,z::c,_,_=>by simp[C']
 |x::a,[],c,h,_=>by simp[C']at h
 |x::a,y::b,[],_,h=>by simp[C']at h
 |x::a,y::b,z::c,h1,h2=>by
  rw[Qq6]at h1 h2⊢;rcases h1 with h1|⟨e1,h1⟩<;>rcases h2 with h2|⟨e2,h2⟩
  iterate 3 left;omega
  .exact .inr ⟨om,uM a b c h1 h2⟩
theorem S?{α:Type}[DecidableEq α](l m:AA α)(step:Nat->Int->AB (CF Int (CF Unit Bool)))(G:AI l<=4611686018427387904)
  (B:∀n s,step n s=(bif s<(AI l:Int) then(CI l s).bind λx=>(CI m s).bind λy=>(bif (x != y)then AC (.d (.d AD))else AC (.k (i64.wrap (s+1))))else AC (.d (.k ())))):
  Ev (λn=>(bif ((AI l:Int) != (AI m:Int))then AC AD else(Go.Sw.iter (step n) n 0:AB (CF Unit Bool)).bind λb11=>match b11 with|.k sb11=>(AC AE)|.d sb11=>AC sb11)) (AG (l=m)):=by
 by_cases j:AI l=AI m
 .rw[show(AI l != (AI m:Int))=AD by grind];have loop:∀(r d:AA α) (i:Nat),l.drop i=r->m.drop i=d->i<=AI l->Dc step i (bif r=d then CF.k ()else CF.d AD):=by
   intro r
   induction r with
   |nil=>
    grind[Dc.done,Qa,Yw]
   |cons x r F=>
    intro d i H h J;obtain⟨f,q⟩:=QH G H;have E:=f.lt';cases d with
    |nil=>
     have h1:=Xq.1 h;omega
    |cons y d=>
     obtain⟨t,g⟩:=QH om h;by_cases e:x=y
     .subst e;refine Ew ?_ ((F d (i+1) q g om).eq ?_)
      .refine Ev.congr (Qa _) λn=>?_;rw[B,f.lt,f.ix,t.ix,Vo,XI,XI,f.nx];simp
      .simp
     .refine Ei (Ev.congr (Qa _) λn=>?_);rw[B,f.lt,f.ix,t.ix,Vo,XI,XI,bne_iff_ne.2 e];simp[e]
  refine Ea (loop l m 0 rfl rfl (XT _)).ev ?_;cases AG (l=m)<;>exact Qa _
 .rw[show(AI l != (AI m:Int))=AE by rw[bne_iff_ne];omega];refine(Qa _).eq ?_;rw[YO λe=>j (by rw[e])]
def R3:CB:={A':=AE,A_:=(-1),Lo:=0,Hi:=0:CB}
def Fd(o:CB):Bool:= !(o.A'||AG (o.Hi<o.Lo))
def HD(x y:CB):Int:=IJ [Cw x.A_ y.A_,Cw x.Lo y.Lo,Cw x.Hi y.Hi]
theorem iM:HD=λx y=>bif Cw x.A_ y.A_ != 0 then Cw x.A_ y.A_ else bif Cw x.Lo y.Lo != 0 then Cw x.Lo y.Lo else Cw x.Hi y.Hi:=by
 funext x y
 unfold HD IJ IJ IJ IJ
 grind
theorem dW:DY HD:=by
 rw[iM];exact(Fa.on λx:CB=>x.A_).lex ((Fa.on λx:CB=>x.Lo).lex (Fa.on λx:CB=>x.Hi))
theorem QmM{x y:CB}(h:HD x y=0):x.A_=y.A_/\x.Lo=y.Lo/\x.Hi=y.Hi:=by
 rw[iM]at h;simp only at h;cases f:(Cw x.A_ y.A_ != 0)with
 |true=>
  grind
 |false=>
  rw[f,Vp]at h;cases d:(Cw x.Lo y.Lo != 0)with
  |true=>
   grind
  |false=>
   rw[d,Vp]at h;exact⟨ZE.1 gq,ZE.1 gq,ZE.1 h⟩
def ZA(x y:CB):Prop:=x.A_<y.A_\/(x.A_=y.A_/\x.Lo<=y.Lo)
theorem rG{a b:Int}:Cw a b<0↔a<b:=by
 grind[Cw]
theorem Qq5{x y:CB}(h:¬HD y x<0):ZA x y:=by
 rw[iM]at h;simp only at h;cases d:(Cw y.A_ x.A_ != 0)with
 |true=>
  rw[d,Vo,rG]at h;have:Cw y.A_ x.A_≠0:=gq;refine .inl ?_;by_cases z:x.A_<y.A_
  .exact z
  .have:y.A_=x.A_:=by omega
   rw[this]at d;rw[Fa.refl]at d;cases d
 |false=>
  rw[d,Vp]at h;have e:=ZE.1 (by simpa[bne]using d);refine .inr ⟨e.symm,?_⟩;cases f:(Cw y.Lo x.Lo != 0)with
  |true=>rw[f,Vo,rG]at h;omega
  |false=>
   have:=ZE.1 (by simpa[bne]using f);omega
theorem Qq4{x y:CB}(h:x.A_<y.A_\/(x.A_=y.A_/\x.Lo<y.Lo)):HD x y<0:=by
 rw[iM];simp only;rcases h with h|⟨d,f⟩
 .simp_all[Cw]
 simp_all[Cw]
def near(a b:CB):Bool:=(a.A_==b.A_)&&(AG (b.Lo<=a.Hi)||(i64.wrap (b.Lo-1)==a.Hi))
def HZ(a b:CB):CB:={a with Hi:=if a.Hi<b.Hi then b.Hi else a.Hi:CB}
def DH:CB->AA CB->AA CB
 |a,[]=>[a]
 |a,b::r=>bif near a b then DH (HZ a b) r else a::DH b r
def Du:AA CB->AA CB
 |[]=>[]
 |a::r=>DH a r
def DI(l:AA CB):AA CB:=bif l.any (·.A')then[R3]else[]
def DW(l:AA CB):AA CB:=Ki (M0 HD) (l.filter Fd)
def C1(l:AA CB):AA CB:=DI l++Du (DW l)
theorem Qqh{α:Type}(P R:AA α)(x y:α):JN (P++x::R) (AI P:Int) y=AC (P++y::R):=by
 rw[rY _ _ sq];simp
theorem qS{α:Type}(P R:AA α)(x:α):CI (P++x::R) (AI P:Int)=AC x:=QA sq
theorem QoU(P:AA CB)(a b:CB)(d:AI P<=1000):Ev (λn=>MW n b (AI P:Int) (P++[a])) (bif near a b then((AI P:Int),P++[HZ a b])else((AI (P++[a]):Int),(P++[a])++[b])):=by
 unfold MW;refine Ea (v:=near a b) ?_ ?_
 .simp_all[qS,near,Eh,QR,Qa]
 .cases near a b with
  |true=>
   simp only[Vo,qS,XI,Qqh];exact Qa _
  |false=>
   simp only[Vp];rw[lO _ _ (by simp;omega)];simp only[XI];refine(Qa _).eq ?_;rw[QI om gq]
   grind
theorem mG(S:AA CB)(hS:AI S<=900):∀(r:AA CB) (i:Nat) (P:AA CB) (a:CB),S.drop i=r->i<=AI S->AI P<=i+1->Dc (λn=>I8 n S) (P++[a],(AI P:Int),(i:Int)) (P++DH a r)
 |[],i,P,a,hr,hi,hp=>by
  refine Ei ?_;unfold I8;simp only[Yw hr hi,Vp,DH];exact Qa _
 |b::r,i,P,a,hr,hi,hp=>by
  obtain⟨ha,hr'⟩:=QH om hr;have hlt:=ha.lt';have h1:=QoU P a b om;unfold DH;cases q:near a b with
  |true=>
   rw[q]at h1;refine Ew ?_ (mG S hS r (i+1) P (HZ a b) hr' om om);unfold I8;simp only[ha.lt,Vo,ha.ix,XI,ha.nx];exact Ea h1 (Qa _)
  |false=>
   rw[q]at h1;have ih:=mG S hS r (i+1) (P++[a]) b hr' om (by simp;omega);refine(Ew ?_ ih).eq sq;unfold I8;simp only[ha.lt,Vo,ha.ix,XI,ha.nx];exact Ea h1 (Qa _)
theorem QmF(l:AA CB)(m:AI l<=1048576):Ev (λn=>O_ n l) (l.any (·.A')):=by
 unfold O_ WW;refine Ea (Ev.first l (λo=>o.A') om (λi x d=>?_) ?_) ?_
 .unfold Tl Wy;simp only[d.lt,Vo,d.ix,XI,d.nx];cases x.A'<;>exact Qa _
 .simp_all[Tl,Qa]
 .refine(Qa _).eq ?_;rcases eP (λo:CB=>o.A') l 0 with⟨g,f⟩|⟨j,x,g,f,q,h⟩
  .grind
  grind
theorem QqT(l:AA CB)(q:AI l<=1048576):Ev (λn=>PY n l) (l.filter Fd):=by
 have m:∀x:CB,Ev (λn=>MX n x) (!Fd x):=λx=>by
  simp_all[MX,Fd,QR,Qa]
 unfold PY Wn;refine Eu (Qnf l (λg=> !Fd g) q (Ev.first l _ om (λi x d=>?_) ?_) (λh i j x y t d f F E=>?_) λh i=>?_) sq
 .unfold UN;simp only[d.lt,Vo,d.ix,XI,d.nx];refine Ea (m x) ?_;cases Fd x<;>exact Qa _
 .simp_all[UN,Qa]
 .have B:=(XK.1 f).1;unfold Tk;simp only[d.lt,Vo,d.ix,XI,d.nx];refine Ea (m x) ?_;cases Fd x with
  |false=>exact Qa _
  |true=>
   simp only[Xg,Xh,Vo,Vp,QA f,rY h x B,XI,YU (show i<9223372036854775807 by omega)];exact Qa _
 simp_all[Tk,Qa]
theorem QqV(x y:CB):Ev (λn=>Po n x y) (HD x y):=by
 unfold Po;exact Ea (Su _ _) (Ea (Su _ _) (Ea (Su _ _) (Ea (oo _ sq) (Qa _))))
theorem LX{x:CB}(h:Fd x=AE):x.A'=AD/\x.Lo<=x.Hi:=by
 grind[Fd]
theorem qd(l:AA CB):AI (DW l)<=AI l:=by
 unfold DW;rw[(Q4 _ _).length_eq]
 grind
theorem pa{x y:CB}(f:Fd x=AE)(d:Fd y=AE)(h:HD x y=0):x=y:=by
 obtain⟨a,b,c⟩:=QmM h;have G:=(LX f).1;have B:=(LX d).1;obtain⟨t,q,m,E⟩:=x;obtain⟨F,j,yl,g⟩:=y
 grind
theorem qI(l:AA CB)(F:AI l<=900):Ev (λn=>Ih n l) (C1 l):=by
 unfold Ih C1;refine Ea (QmF l om) (Ea (v:=DI l) ?_ ?_)
 .unfold DI Kn;cases l.any (·.A')with
  |false=>exact Qa _
  |true=>exact Qa _
 refine Ea (v:=l) ?_ (Ea (QqT l om) ?_)
 .unfold V1;exact EA (tT om)
 have H:=List.length_filter_le Fd l;refine Ea (v:=DW l) (qV om (λx _ y _=>QqV x y) dW λx G y E h=>pa gq gq h) ?_;have t:=qd l;generalize DW l=S at t;refine Ea (v:=DI l++Du S) ?_ (Qa _);have q:AI (DI l)<=1:=by
  grind[DI]
 generalize DI l=B at q;cases S with
 |nil=>
  refine(Ei ?_).ev
  grind[I8,Qa,Du]
 |cons a r=>
  have d:At (a::r) 0 a:=Y6 om rfl;refine(Ew (s':=(B++[a],(AI B:Int),((1:Nat):Int))) ?_ (mG (a::r) om r 1 B a rfl sq om)).ev;unfold I8;have m:((0:Nat):Int)=0:=rfl;have g:=d.lt;have f:=d.ix;have j:=d.nx;rw[m]at g f j;simp only[g,f,j,Vo,XI];refine Ea (v:=((AI B:Int),B++[a])) ?_ (Qa _);unfold MW;refine Ea (v:=AD) (Qa _) (QW ?_)
  grind[lO,Qa,QI]
theorem n?(a b:CB):a.Hi<=(HZ a b).Hi:=by unfold HZ;grind
theorem lx:∀(r:AA CB) (a:CB),Fd a=AE->(∀x∈r,Fd x=AE)->∀x∈DH a r,Fd x=AE
 |[],a,ha,_,x,hx=>by
  grind[DH]
 |b::r,a,ha,hr,x,hx=>by
  unfold DH at hx;cases q:near a b with
  |true=>
   rw[q,Vo]at hx;refine lx r (HZ a b) ?_ gq x hx;obtain⟨h1,h2⟩:=LX ha;have:=n? a b;unfold Fd;have e1:(HZ a b).A'=false:=h1;have e2:(HZ a b).Lo=a.Lo:=rfl
   grind
  |false=>
   rw[q,Vp]at hx;rcases X6.1 hx with rfl|hx
   .exact ha
   .exact lx r b (hr b sq) gq x hx
theorem mh:∀(r:AA CB) (a:CB),AI (DH a r)<=AI r+1
 |[],a=>by simp[DH]
 |b::r,a=>by
  unfold DH;cases near a b with
  |true=>have:=mh r (HZ a b);grind
  |false=>have:=mh r b;grind
def Ni(a b:CB):Bool:=AG (b.A_<a.A_)||near a b
def D_:CB->AA CB->Bool
 |_,[]=>AE
 |a,b::r=> !Ni a b&&D_ b r
theorem Qmg{a b c:CB}(d:c.A_=b.A_)(f:c.Lo=b.Lo):near a c=near a b:=by
 unfold near;rw[d,f]
theorem mx:∀(r:AA CB) (a:CB),(a::r).Pairwise ZA->∃h t,DH a r=h::t/\h.A_=a.A_/\h.Lo=a.Lo/\D_ h t=AE
 |[],a,_=>⟨a,[],rfl,rfl,rfl,rfl⟩
 |b::r,a,hs=>by
  obtain⟨h1,h2⟩:=Xc.1 hs;obtain⟨h3,h4⟩:=Xc.1 h2;unfold DH;cases q:near a b with
  |true=>
   obtain⟨h,t,e1,e2,e3,e4⟩:=mx r (HZ a b) (Xc.2 ⟨λy hy=>h1 y (by simp[hy]),h4⟩);exact⟨h,t,e1,e2,e3,e4⟩
  |false=>
   obtain⟨h,t,e1,e2,e3,e4⟩:=mx r b h2;refine⟨a,h::t,gq,rfl,rfl,?_⟩;unfold D_ Ni;rw[Qmg e2 e3,q,e2,e4];have:=h1 b sq;unfold ZA at this
   grind
theorem p9(l:AA CB):(DW l).Pairwise ZA:=by
 unfold DW;refine(Jk (iA dW (l.filter Fd))).imp λ{x y} h=>?_;exact Qq5 (Vv h)
theorem p_(l:AA CB):∀x∈DW l,Fd x=true:=λx hx=>(Xd.1 ((Q4 _ _).mem_iff.1 hx)).2
theorem Zo(l:AA CB):∀x∈Du (DW l),Fd x=true:=by
 have h:=p_ l;generalize DW l=S at h;cases S with
 |nil=>intro x d;cases d
 |cons a r=>exact lx r a (h a sq) gq
theorem QiS(l:AA CB):Du (DW l)=[]\/ ∃h t,Du (DW l)=h::t/\D_ h t=true:=by
 have h:=p9 l;generalize DW l=S at h;cases S with
 |nil=>exact .inl rfl
 |cons a r=>
  obtain⟨h,t,f,_,_,d⟩:=mx r a h;exact .inr ⟨h,t,f,d⟩
theorem Qnr(l:AA CB):(C1 l).any (·.A')=l.any (·.A'):=by
 have d:=Zo l;unfold C1;generalize Du (DW l)=J at d;have f:J.any (·.A')=false:=by
  grind[LX]
 rw[List.any_append,f,Bool.or_false];unfold DI;cases l.any (·.A')<;>rfl
theorem rF:∀(r:AA CB) (a:CB),D_ a r=AE->Fd a=AE->(∀x∈r,Fd x=AE)->(a::r).Pairwise λx y=>x.A_<y.A_\/(x.A_=y.A_/\x.Hi<y.Lo)
 |[],a,_,_,_=>sq
 |b::r,a,hc,ha,hr=>by
  unfold D_ at hc;simp only[XV,Bool.not_eq_true']at hc;have ih:=rF r b hc.2 (hr b sq) gq;have hab:a.A_<b.A_\/(a.A_=b.A_/\a.Hi<b.Lo):=by
   grind[Ni,near]
  refine Xc.2 ⟨λx d=>?_,ih⟩;rcases X6.1 d with rfl|d
  .exact hab
  .have f:=(Xc.1 ih).1 x d;have:=(LX (hr b sq)).2;omega
theorem uL:∀(r:AA CB) (a:CB),D_ a r=AE->DH a r=a::r
 |[],a,_=>rfl
 |b::r,a,hc=>by
  unfold D_ Ni at hc;simp only[XV,Bool.not_eq_true',XW]at hc;unfold DH;rw[hc.1.2,Vp,uL r b hc.2]
theorem QlN(l:AA CB):C1 (C1 l)=C1 l:=by
 have f:=Qnr l;have d:=Zo l;have m:=QiS l;have N:DI (C1 l)=DI l:=by unfold DI;rw[f]
 have e:∀J:AA CB,(∀x∈J,Fd x=AE)->(DI l++J).filter Fd=J:=by
  intro J hJ;rw[List.filter_append,List.filter_eq_self.2 hJ];unfold DI;cases l.any (·.A')<;>rfl
 have L:DW (C1 l)=Du (DW l):=by
  unfold DW at*;unfold C1 DW;rw[e _ d];generalize Du (Ki (M0 HD) (l.filter Fd))=J at d m;refine il (lt:=M0 HD) (Q4 _ J) (λx B y E j g=>?_) (Jk (iA dW J)) ?_
  .have H:=d x ((Q4 _ J).mem_iff.1 B);have G:=d y ((Q4 _ J).mem_iff.1 E);have j:=Vv j;have g:=Vv g;exact pa H G (by have:=dW.swap x y;omega)
  .rcases m with rfl|⟨h,t,rfl,q⟩
   .simp
   .refine List.Pairwise.imp_of_mem (λ{x y} B E z=>?_) (rF t h q (d h sq) gq);have:=(LX (d x B)).2;have F:=Qq4 (x:=x) (y:=y) om;have:=dW.swap x y;exact Vw om
 have M:Du (DW (C1 l))=Du (DW l):=by
  rw[L];rcases m with h|⟨h,t,j,g⟩
  .rw[h];rfl
  .rw[j];exact uL t h g
 simp_all[C1]
theorem Qnp(l:AA CB):AI (C1 l)<=AI l+1:=by
 have f:=qd l;unfold C1;rw[X2];have t:AI (DI l)<=1:=by unfold DI;cases l.any (·.A')<;>simp
 cases q:DW l with
 |nil=>simp only[Du,List.length_nil];omega
 |cons a r=>
  rw[q]at f;have:=mh r a;have g:Du (a::r)=DH a r:=rfl;rw[g];simp only[XZ]at f;by_cases z:l.any (·.A')=AE
  ·
   have j:AI (l.filter Fd)<AI l:=by
    obtain⟨x,m,d⟩:=Xt.1 z;rcases VA (AI (l.filter Fd)) (AI l) with h|h
    .exact h
    .have e:=List.filter_eq_self.1 (List.Sublist.eq_of_length List.filter_sublist (Nat.le_antisymm (List.length_filter_le ..) h)) x m;rw[(LX e).1]at d;cases d
   have e:AI (a::r)=AI (l.filter Fd):=by rw[<- q];unfold DW;exact(Q4 _ _).length_eq
   simp only[XZ]at e;omega
  .have:DI l=[]:=by unfold DI;rw[Bool.not_eq_true]at z;rw[z];rfl
   rw[this,List.length_nil];omega
theorem Qmx(l m:AA CB)(hl:AI l<=1048576):Ev (λn=>Pp n l m) (AG (l=m)):=S? l m (λn=>e7 n l m) om λn s=>rfl
set_option maxRecDepth 10000
def IR:AA (Int×Int)->Int
 |[]=>0
 |e::l=>e.2+IR l
theorem qg:∀(l m:AA (Int×Int)),IR (l++m)=IR l+IR m
 |[],m=>by simp[IR]
 |e::l,m=>by simp only[VJ,IR,qg l m];omega
theorem Qml{l:AA (Int×Int)}{k:Int}(h:k∉l.map (·.1)):Qn l k 0=0:=by
 unfold Qn
 induction l with
 |nil=>rfl
 |cons e l d=>
  simp only[Vj,X6,not_or]at h;rw[Y9,Vr (λq=>h.1 q.symm)];exact d h.2
theorem lE{l:AA (Int×Int)}{k:Int}(h:k∈l.map (·.1)):(k,Qn l k 0)∈l:=by
 unfold Qn
 induction l with
 |nil=>simp at h
 |cons e l d=>
  rw[Y9]
  grind
theorem Zi{l:AA (Int×Int)}{k:Int}(h:k∈l.map (·.1))(v:Int):QK l k v=l.map λp=>bif p.1=k then(p.1,v)else p:=by
 unfold QK
 grind
theorem Qoi{l:AA (Int×Int)}{k:Int}(h:k∉l.map (·.1))(v:Int):QK l k v=l++[(k,v)]:=by
 unfold QK
 grind
theorem dv{l:AA (Int×Int)}{k:Int}(h:k∈l.map (·.1))(v:Int):(QK l k v).map (·.1)=l.map (·.1):=by
 rw[Zi h,List.map_map];refine List.map_congr_left λe _=>?_
 grind
theorem qv{l:AA (Int×Int)}{k:Int}(h:k∈l.map (·.1))(v:Int):AI (QK l k v)=AI l:=by
 rw[Zi h,X0]
theorem sK{l:AA (Int×Int)}{k:Int}(h:k∈l.map (·.1))(v:Int):∀e∈QK l k v,e.2=v\/e∈l:=by
 intro e d;rw[Zi h]at d
 grind
theorem qs{l:AA (Int×Int)}{k v:Int}(h:k∉l.map (·.1)):(l.map λp=>bif p.1=k then(p.1,v)else p)=l:=by
 induction l with
 |nil=>rfl
 |cons e l d=>
  grind
theorem sL{l:AA (Int×Int)}{k:Int}(nd:(l.map (·.1)).Nodup)(h:k∈l.map (·.1))(v:Int):IR (QK l k v)=IR l+v-Qn l k 0:=by
 rw[Zi h];unfold Qn
 induction l with
 |nil=>simp at h
 |cons e l d=>
  simp only[Vj,List.nodup_cons]at nd;rw[Y9,Vj];by_cases q:e.1=k
  .subst q;rw[qs nd.1,JA rfl,Vs rfl]
   grind[IR]
  .have f:k∈l.map (·.1):=by
    grind
   have:=d nd.2 f;rw[Vr q,YO q]
   grind[IR]
theorem Qmk{l:AA (Int×Int)}{k:Int}(nd:(l.map (·.1)).Nodup)(h:k∈l.map (·.1))(v:Int):QK (QK l k v) k (Qn l k 0)=l:=by
 rw[Zi (by rw[dv h];exact h),Zi h];unfold Qn
 induction l with
 |nil=>rfl
 |cons e l d=>
  simp only[Vj,List.nodup_cons]at nd;rw[Y9,Vj,Vj];by_cases q:e.1=k
  .subst q
   simp_all[qs]
  .have f:k∈l.map (·.1):=by
    grind
   simp_all
theorem Qqz{l:AA Int}{x:Int}(h:x∈l):SF l x=true:=by
 grind[SF,eP]
theorem lH(W:CU)(U:AA Bool)(d:∀h:Nat,U[h]?=AC AE->SF W.BL (h:Int)=AE)(f:AI U<=1000):∀(H:AA CL) (i:Nat) (a:Int),i+AI H=AI U->0<=a->a<=(i:Int)->KW W H i a<=a+((U.drop i).count AD:Int)
 |[],i,a,h,_,_=>by
  show a<=a+_;omega
 |y::H,i,a,h,h0,h1=>by
  simp only[XZ]at h;have hi:i<AI U:=om;rw[Xp hi,List.count_cons];show KW W H (i+1) _<=_;cases q:SF W.BL (i:Int)with
  |true=>
   have:=lH W U d f H (i+1) a om h0 om;simp only[Xg,Vp];omega
  |false=>
   have hf:U[i]=false:=by
    cases z:U[i]with
    |false=>rfl
    |true=>
     have:=d i (by rw[XJ hi,z]);rw[q]at this;cases this
   have w:i64.wrap (a+1)=a+1:=Dx;have:=lH W U d f H (i+1) (a+1) om om om;simp only[Xh,Vo,w,hf];simp only[beq_self_eq_true,if_true];omega
theorem qO(f:Int×Int->Int):∀(l:AA (Int×Int)) (s:Int),(∀e∈l,e.2<=f e/\0<=f e/\f e<=100000)->0<=s->s+100000*(AI l:Int)<=1000000000000->s+IR l<=l.foldl (λs e=>i64.wrap (s+f e)) s
 |[],s,_,_,_=>by show s+0<=s;omega
 |e::l,s,h,h0,hb=>by
  obtain⟨a,b,c⟩:=h e (X4 ..);simp only[XZ]at hb;have w:i64.wrap (s+f e)=s+f e:=Dx;have:=qO f l (s+f e) gq om om
  grind[IR]
set_option maxRecDepth 10000
theorem Qnk(n:Int):i64.wrap n=if n%18446744073709551616≥9223372036854775808 then n%18446744073709551616-18446744073709551616 else n%18446744073709551616:=by
 simp_all[IntKind.wrap,IntKind.bits,IntKind.signed]
theorem QlK(z a b:Int):i64.wrap (i64.wrap (z+a)+b)=i64.wrap (i64.wrap (z+b)+a):=by
 simp only[Qnk];omega
theorem m?(f:Int×Int->Int)(l:AA (Int×Int)):anyP (λp=>(L1 (λ(s:Int) (e:Int×Int)=>AC (CF.k (i64.wrap (s+f e)))) (λs=>AC s) 0 p).bind λb=>AC b) l=AC (l.foldl (λs e=>i64.wrap (s+f e)) 0):=by
 have run:∀(p:AA (Int×Int)) (s:Int),L1 (B:=Int) (λ(s:Int) (e:Int×Int)=>AC (CF.k (i64.wrap (s+f e)))) (λs=>AC s) s p=AC (p.foldl (λs e=>i64.wrap (s+f e)) s):=by
  intro p
  induction p with
  |nil=>intro s;rfl
  |cons e p g=>intro s;exact g _
 unfold anyP;have:(LU l).all (λp=>AG (((L1 (B:=Int) (λ(s:Int) (e:Int×Int)=>AC (CF.k (i64.wrap (s+f e)))) (λs=>AC s) 0 p).bind λb=>AC b)=((L1 (B:=Int) (λ(s:Int) (e:Int×Int)=>AC (CF.k (i64.wrap (s+f e)))) (λs=>AC s) 0 l).bind λb=>AC b)))=true:=by
  rw[Xs];intro p d;rw[run,run,Vq];exact congrArg AC ((ij l p d).foldl_eq' (λx _ y _ z=>QlK z (f x) (f y)) 0)
 rw[this];simp only[Vo];rw[run];rfl
def Lc(F M:AA (Int×Int)):Int:=F.foldl (λs e=>i64.wrap (s+(if 0<i64.wrap (e.2-Qn M e.1 0)then i64.wrap (e.2-Qn M e.1 0)else 0))) 0
theorem uD(F M:AA (Int×Int)):Ev (λn=>Pj n F M) (Lc F M):=
 EA (o:=Pj 0 F M) (m? (λe=>if 0<i64.wrap (e.2-Qn M e.1 0)then i64.wrap (e.2-Qn M e.1 0)else 0) F)
theorem rb(t:Cj)(s:Uh)(p h:Int)(d:0<=s.row):(DC t s p h).1.row<=s.row+1:=by
 unfold DC
 grind
theorem gK{α:Type}{l:AA α}{i:Int}{x:α}(f:0<=i)(d:i<(AI l:Int)):Tt (λ_=>JN l i x) (λm=>m=l.set i.toNat x):=by
 simp_all[Tt.o,JN]
def WL(t:Cj)(L:AA CU):Prop:=AI L<=65/\ ∀w∈L,AI w.BL=AI t.r/\(-1<=w.A7/\w.A7<=300)/\FG t w=AE
abbrev kU:=AA CU×AA Int×AA (Int×Int)×AA Bool×AA (Int×Int)
def SR(t:Cj)(W:AA Int)(U:AA Bool)(M F:AA (Int×Int))(r:kU):Prop:=WL t r.1/\r.2.1=W/\r.2.2.2.1=U/\r.2.2.2.2=F/\ ∀m,Qn r.2.2.1 m 0=Qn M m 0
structure Sv (t:Cj) (p:Nat) (en:Bool) (la:Int) (s:Uh) (W:List Int) (U:List Bool) (M F:List (Int×Int)):Prop where
 st:Kb t s
 row:s.row<=(p:Int)
 wl:AI W=AI t.r
 ul:AI U=AI t.H
 tail:∀j,p<=j->j<AI t.r->W[j]?=AC (-1)
 used:∀h:Nat,U[h]?=AC AE->(h:Int)∈W
 cnt:∀m,Qn M m 0=((t.r.drop p).count m:Int)
 nd:(F.map (·.1)).Nodup
 fl:AI F<=1000
 fb:∀e∈F,-(p:Int)<=e.2/\e.2<=1000
 sum:IR F=(U.count AD:Int)
 key:∀h∈t.H,h.Al∈F.map (·.1)
 l0: -1<=la
 l1:la<(p:Int)
 l2:en=AD->la=(p:Int)-1
 pre:∃u,(∀h:Int,Qn u h AD=AE->0<=h/\U[h.toNat]?=AC AE)/\ ∀W':CU,AI W'.BL=AI t.r->(∀j,j<p->W'.BL[j]?=W[j]?)->(en=AE->W'.A7=la)->(en=AD->(p:Int)-1<=W'.A7)->
  admL t W' (W'.BL.drop p) p u s=AE->admL t W' W'.BL 0 [] Rw=AE
theorem iU{α:Type}{l:AA α}{p:Nat}{x:α}(h:l[p]?=AC x):l.drop p=x::l.drop (p+1):=by
 grind[List.drop_eq_getElem_cons]
theorem mU{t:Cj}{p:Nat}{x:Int}{M:AA (Int×Int)}(d:t.r[p]?=AC x)(g:AI t.r<=256)(h:∀m,Qn M m 0=((t.r.drop p).count m:Int))(m:Int):
  Qn (QK M x (i64.wrap (Qn M x 0-1))) m 0=((t.r.drop (p+1)).count m:Int):=by
 have e:∀m,((t.r.drop p).count m:Int)=((t.r.drop (p+1)).count m:Int)+(if x=m then 1 else 0):=by
  intro m;rw[iU d,List.count_cons];by_cases q:x=m<;>simp[q]
 have f:(t.r.drop (p+1)).count x<=256:=XU List.count_le_length (by rw[List.length_drop];omega);rw[Y3];by_cases q:m=x
 .subst q;rw[Vs rfl,h,e,Vs rfl,Dx];omega
 .rw[Vr q,h,e,Vr (λz=>q z.symm)];omega
theorem Qpe{M M2:AA (Int×Int)}{x:Int}(d: -100000<=Qn M x 0/\Qn M x 0<=100000)(h:∀m,Qn M2 m 0=Qn (QK M x (i64.wrap (Qn M x 0-1))) m 0)(m:Int):
  Qn (QK M2 x (i64.wrap (Qn M2 x 0+1))) m 0=Qn M m 0:=by
 rw[Y3];by_cases q:m=x
 .subst q;rw[Vs rfl,h,Y3,Vs rfl,QI (n:=Qn M m 0-1) om om,Dx];omega
 .rw[Vr q,h,Y3,Vr q]
theorem Qqe{t:Cj}(ok:C8 t){g:Bool}{d:Int}{s:Uh}{W:AA Int}{U:AA Bool}{M F:AA (Int×Int)}(v:Sv t (AI t.r) g d s W U M F)(x:t.hi<=d)(m:¬t.c.AQ.A6<Lc F M):
  FG t {BL:=W,A7:=d}=true:=by
 have rl:=ok.rl;have hl:=ok.hl;unfold FG;have j:H5 t {BL:=W,A7:=d}=false:=by
  unfold H5;have a:=v.l0;have b:=v.l1;have wl:=v.wl;have y:IR F<=Lc F M:=by
   have z:=qO (λe=>if 0<i64.wrap (e.2-Qn M e.1 0)then i64.wrap (e.2-Qn M e.1 0)else 0) F 0 (λe f=>by
    have:=v.fb e f;have c:=v.cnt e.1;rw[Xr,List.count_nil]at c;have w:i64.wrap (e.2-Qn M e.1 0)=e.2:=by rw[c,Dx];omega
    simp only[w];split<;>omega) om (by have:=v.fl;omega)
   rw[Int.zero_add]at z;exact z
  have sl:=lH {BL:=W,A7:=d} U (λh q=>Qqz (v.used h q)) (by have:=v.ul;omega) t.H 0 0 (by have:=v.ul;omega) (Int.le_refl 0) (Int.le_refl 0);rw[List.drop_zero]at sl;have B:=v.sum;simp only[wl,bne_self_eq_false,Bool.false_or];rw[YO om,YO om,YO om,YO om];rfl
 rw[j,Vp];obtain⟨u,_,pre⟩:=v.pre;refine pre {BL:=W,A7:=d} v.wl (λ_ _=>rfl) (λ_=>rfl) (λq=>by have:=v.l2 q;show(AI t.r:Int)-1<=d;omega) ?_;show admL t _ (W.drop (AI t.r)) _ _ _=AE;rw[<- v.wl,Xr];rfl
theorem Qqd{t:Cj}(ok:C8 t){p:Nat}{B:Int}{s:Uh}{W:AA Int}{U:AA Bool}{M F:AA (Int×Int)}(v:Sv t p AD B s W U M F){x:Int}(f:t.r[p]?=AC x)(m:(DC t s (p:Int) (-1)).2=AE):
  Sv t (p+1) AD (p:Int) (DC t s (p:Int) (-1)).1 W U (QK M x (i64.wrap (Qn M x 0-1))) F:=by
 have rl:=ok.rl;have g:=(XK.1 f).1;have G:=v.row;refine {v with st:=lG ok v.st om (.inl om) om,row:=?_,tail:=λj a b=>v.tail j om b,cnt:=mU f rl v.cnt,fb:=λe h=>?_,l0:=om,l1:=om,l2:=λ_=>om,pre:=?_}
 .have:=rb t s (p:Int) (-1) v.st.r0;omega
 .have:=v.fb e h;omega
 .obtain⟨u,y,pre⟩:=v.pre;refine⟨u,y,λW' a b _ d q=>pre W' a (λj E=>b j om) nofun (λ_=>by have:=d rfl;omega) ?_⟩;have e:W'.BL[p]?=AC (-1):=by rw[b p om];exact v.tail p (XS _) g
  have H:=d rfl;rw[iU e,d9];have:((-1:Int) != -1)=false:=by decide
  simp only[this,Bool.false_and,Vp,m,Xg];rw[YO om,Vp];exact q
theorem w?{t:Cj}(ok:C8 t){p:Nat}{B:Bool}{d:Int}{s:Uh}{W:AA Int}{U:AA Bool}{M F:AA (Int×Int)}(v:Sv t p B d s W U M F){x:Int}(f:t.r[p]?=AC x):
  Sv t (p+1) AE d s W U (QK M x (i64.wrap (Qn M x 0-1))) F:=by
 have rl:=ok.rl;have g:=(XK.1 f).1;have m:=v.l1;refine {v with row:=by have:=v.row;omega,tail:=λj a b=>v.tail j om b,cnt:=mU f rl v.cnt,fb:=λe h=>by have:=v.fb e h;omega,l1:=om,l2:=nofun,pre:=?_};obtain⟨u,y,pre⟩:=v.pre;refine⟨u,y,λW' a b c _ q=>pre W' a (λj E=>b j om) (λ_=>c rfl) (λz=>by have:=v.l2 z;rw[c rfl];omega) ?_⟩;have e:W'.BL[p]?=AC (-1):=by rw[b p om];exact v.tail p (XS _) g
 rw[iU e,d9];have:((-1:Int) != -1)=false:=by decide
 simp only[this,Bool.false_and,Vp];rw[JA (show W'.A7<(p:Int)by rw[c rfl];omega),Vo];exact q
theorem x?{t:Cj}(ok:C8 t){p i:Nat}{V:Int}{s:Uh}{W:AA Int}{U:AA Bool}{M F:AA (Int×Int)}(v:Sv t p AD V s W U M F){x:Int}(J:t.r[p]?=AC x){y:CL}(B:t.H[i]?=AC y)(L:y.Al=x)(G:U[i]?=AC AD)(Q:(DC t s (p:Int) (i:Int)).2=AE)
  {M2:AA (Int×Int)}(T:∀m,Qn M2 m 0=((t.r.drop (p+1)).count m:Int)):
  Sv t (p+1) AD (p:Int) (DC t s (p:Int) (i:Int)).1 (W.set p (i:Int)) (U.set i AE) M2 (QK F x (i64.wrap (Qn F x 0-1))):=by
 have rl:=ok.rl;have P:=(XK.1 J).1;have X:=(XK.1 B).1;have hr:=v.row;have wl:=v.wl;have R:HP t (i:Int):=.inr (by simpa using X);have f:x∈F.map (·.1):=by rw[<- L];exact v.key y (VG B)
 have hv:=v.fb _ (lE f);simp only at hv;have w:i64.wrap (Qn F x 0-1)=Qn F x 0-1:=Dx;rw[w];obtain⟨g,E⟩:=XK.1 G;refine {st:=lG ok v.st om R om,row:=?_,wl:=by rw[X3];exact wl,ul:=by rw[X3];exact v.ul,tail:=λj a b=>?_,used:=λh q=>?_,cnt:=T,nd:=by rw[dv f];exact v.nd,fl:=by rw[qv f];exact v.fl,fb:=λe he=>?_,sum:=?_,key:=λh q=>by rw[dv f];exact v.key h q,l0:=om,l1:=om,l2:=λ_=>om,pre:=?_}
 .have:=rb t s (p:Int) (i:Int) v.st.r0;omega
 .rw[Xb,Vr om];exact v.tail j om b
 .rw[Xb]at q;by_cases z:i=h
  .subst z;exact VG (i:=p) (by rw[Xb,Vs rfl,Vs om])
  .rw[Vr z]at q;obtain⟨k,f,e⟩:=List.getElem_of_mem (v.used h q);refine VG (i:=k) ?_;rw[Xb,Vr (λc=>?_),XJ f,e];subst c;have:=v.tail p (XS _) P;rw[XJ f,e]at this;have:=XY this;omega
 .rcases sK f _ e he with z|z
  .omega
  .have:=v.fb e z;omega
 .rw[sL v.nd f,v.sum,List.count_set g,E];have:0<U.count false:=List.count_pos_iff.2 (by rw[<- E];exact Vd g);simp;omega
 .obtain⟨u,N,pre⟩:=v.pre;refine⟨QK u (i:Int) AE,λh q=>?_,λW' a b _ d q=>pre W' a (λj hj=>by rw[b j om,Xb,Vr om]) nofun (λ_=>by have:=d rfl;omega) ?_⟩
  .rw[Y3]at q;by_cases z:h=(i:Int)
   .subst z;exact⟨om,by rw[Int.toNat_natCast,Xb,Vs rfl,Vs g]⟩
   .rw[Vr z]at q;obtain⟨c1,O⟩:=N h q;exact⟨c1,by rw[Xb,Vr om];exact O⟩
  .have e:W'.BL[p]?=AC (i:Int):=by rw[b p om,Xb,Vs rfl,Vs om]
   have dl:=d rfl;have nb:Fq t W' u p (i:Int)=false:=by
    unfold Fq;have Y:Qn u (i:Int) AD=false:=by
     cases z:Qn u (i:Int) AD with
     |false=>rfl
     |true=>
      have:=(N _ z).2;rw[Int.toNat_natCast,G]at this;cases this
    rw[Y,Int.toNat_natCast,B,J,YO om,YO om,YO om];simp[L]
   have ni:((i:Int) != -1)=true:=bne_iff_ne.2 om;rw[iU e,d9,nb];simp only[Bool.and_false,Vp,ni,Vo,Q,Xg];rw[YO om,Vp];exact q
set_option maxRecDepth 10000
theorem Qnz{t:Cj}(ok:C8 t):∀(m p:Nat),p+m=AI t.r->∀(s:Uh) (en:Bool) (la:Int) (L:AA CU) (W:AA Int) (U:AA Bool) (M F:AA (Int×Int)),Sv t p en la s W U M F->WL t L->
  Tt (λn=>Tp n (p:Int) s en la L t.c (AI t.r:Int) W t.H U t.c t.k t.r t.s t.H t.T t.hi M F t.m t.c t.k) (SR t W U M F):=by
 have rl:=ok.rl;have hl:=ok.hl;intro m
 induction m with
 |zero=>
  intro p hp s en la L W U M F v hL;have ep:p=AI t.r:=om;have HO:SR t W U M F (L,W,M,U,F):=⟨hL,rfl,rfl,rfl,λ_=>rfl⟩;refine Tt.s ?_;show Tt (λn=>Z5 (Tp n) n _ _ _ _ _ _ _ _ _ _ _ _ _ _ _ _ _ _ _ _ _ _) _;unfold Z5;refine Tt.b (P:=λb=>b=AD->AI L<=64/\ ¬t.c.AQ.A6<Lc F M) (Tt.n λh=>Tt.b (P:=λr=>r=Lc F M) (Tt.e (uD F M) rfl) λr d=>Tt.p λq=>⟨gq,gq⟩) λb R=>Tt.c (λ_=>Tt.p HO) λq=>Tt.c (λ_=>?_) λJ=>absurd J (by rw[ep];simp);obtain⟨ah,ab⟩:=R q;refine Tt.b (P:=WL t) (Tt.c (λhh=>?_) λ_=>Tt.p hL) λr d=>Tt.p ⟨d,rfl,rfl,rfl,λ_=>rfl⟩;unfold W2;have wl:=v.wl;have l0:=v.l0;have l1:=v.l1;refine Tt.b (P:=λ(r:AA Int)=>r=W) (Tt.o (tT om) rfl) λr d=>Tt.b (Tt.a (by simp;omega)) λx B=>Tt.p ?_;subst B d;refine⟨by simp;omega,λw Y=>?_⟩;rcases VB.1 Y with h|h
  .exact hL.2 w h
  .cases Vz.1 h;subst ep;exact⟨wl,⟨l0,gq⟩,Qqe ok v (Vu hh) ab⟩
 |succ m ih=>
  intro p hp s en la L W U M F v hL;have E:p<AI t.r:=om;have HO:SR t W U M F (L,W,M,U,F):=⟨hL,rfl,rfl,rfl,λ_=>rfl⟩;refine Tt.s ?_;show Tt (λn=>Z5 (Tp n) n _ _ _ _ _ _ _ _ _ _ _ _ _ _ _ _ _ _ _ _ _ _) _;unfold Z5;refine Qe (Tt.k λh=>Qe (Tt.e (uD F M) trivial) λ_=>Tt.z) λb=>Tt.c (λ_=>Tt.p HO) λq=>Tt.c (λJ=>absurd J (by simp;omega)) λ_=>?_;have wp:i64.wrap ((p:Int)+1)=((p+1:Nat):Int):=YU om;have B:t.r[p]?=AC t.r[p]:=XJ E;generalize t.r[p]=x at B;refine Tt.b (P:=λz=>z=x) (Tt.o (QA B) rfl) λz X=>?_;subst X;simp only[XI,wp];have c1:=v.cnt z;have cb:(t.r.drop p).count z<=256:=XU List.count_le_length gq;have M1:=mU B rl v.cnt;have af: -100000<=Qn M z 0/\Qn M z 0<=100000:=om;generalize hMe:QK M z (i64.wrap (Qn M z 0-1))=M' at M1;have SRb:∀{r:kU},SR t W U M' F r->SR t W U M F (r.1,r.2.1,QK r.2.2.1 z (i64.wrap (Qn r.2.2.1 z 0+1)),r.2.2.2.1,r.2.2.2.2):=λh=>
   ⟨h.1,h.2.1,h.2.2.1,h.2.2.2.1,Qpe af λm=>by rw[h.2.2.2.2 m,hMe]⟩
  refine Tt.b (P:=SR t W U M' F) (Tt.c (λag=>?_) λ_=>Tt.p ⟨hL,rfl,rfl,rfl,λ_=>rfl⟩) λb R=>Tt.b (P:=λ_=>True) (Tt.k λ_=>Tt.z) λb2 _=>?_
  .have ae:en=false:=by grind
   subst ae;refine Tt.b (P:=λr=>r=DC t s (p:Int) (-1)) (Tt.e (lS ok v.st (Int.natCast_nonneg p) om (.inl om)) rfl) λr d=>?_;subst d;refine Tt.b (P:=SR t W U M' F) (Tt.c (λN=>Tt.b (P:=SR t W U M' F) (ih (p+1) om _ _ _ _ _ _ _ _ (by rw[<- hMe];exact Qqd ok v B N) hL) λv G=>Tt.p G) λ_=>Tt.p ⟨hL,rfl,rfl,rfl,λ_=>rfl⟩) λw Y=>?_;refine Tt.b (P:=SR t W U M' F) (QO t.H (λ(a:kU) i=>(a.1,a.2.1,a.2.2.1,a.2.2.2.1,a.2.2.2.2,i)) (λ_ a=>SR t W U M' F a) om (λi y a Q hI=>?_) (λa hI=>?_) w _ rfl Y) λw Y=>Tt.p Y
   .unfold VX;have ac:=Q.lt';simp only[Q.lt,Vo,Q.ix,XI,Q.nx,wp];obtain⟨a1,O,a3,g,f⟩:=a;obtain⟨g1,g2,g3,g4,g5⟩:=hI;simp only at g1 g2 g3 g4 g5;subst g2 g3 g4;have keep:SR t O g M' f (a1,O,a3,g,f):=⟨g1,rfl,rfl,rfl,g5⟩;have ul:=v.ul;have wl:=v.wl;have hU:g[i]?=AC g[i]:=XJ om;generalize g[i]'om=ub at hU;refine Tt.b (P:=SR t O g M' f) (Tt.b (P:=λb=>b=AD->ub=AD/\y.Al=z) (Tt.b (P:=λq=>q=ub) (Tt.o (QA hU) rfl) λq hq=>Tt.n λV=>Tt.p λh3=>⟨by rw[<- hq];exact V,by simpa[bne]using h3⟩) λb R=>Tt.c (λ_=>Tt.p keep) λad=>?_) λz X=>Tt.p ⟨z,rfl,X⟩;obtain⟨aa,j⟩:=R ad;subst aa;have hh:HP t (i:Int):=.inr (by simpa using ac);refine Tt.b (P:=λr=>r=DC t s (p:Int) (i:Int)) (Tt.e (lS ok v.st (Int.natCast_nonneg p) (by simpa using E) hh) rfl) λr d=>?_;subst d;refine Tt.b (P:=SR t O g M' f) (Tt.c (λN=>?_) λ_=>Tt.p keep) λz X=>Tt.p X;have u0:(i:Int)<(AI g:Int):=om;have w0:(p:Int)<(AI O:Int):=om;refine Qe (Tt.i (Int.natCast_nonneg i) u0).any λ_=>Tt.b (gK (Int.natCast_nonneg i) u0) λU' hU'=>Qe (Tt.i (Int.natCast_nonneg p) w0).any λ_=>Tt.b (gK (Int.natCast_nonneg p) w0) λW' hW'=>?_;rw[Int.toNat_natCast]at hU' hW';subst hU' hW';have sv:=x? ok v B Q.get j hU N (M2:=a3) λm=>by rw[g5 m];exact M1 m
    refine Tt.b (ih (p+1) om _ _ _ _ _ _ _ _ sv g1) λr d=>?_;obtain⟨v1,v2,v3,v4,v5⟩:=d;obtain⟨r1,r2,r3,r4,r5⟩:=r;simp only at v1 v2 v3 v4 v5;subst v2 v3 v4;have hk:z∈f.map (·.1):=by rw[<- j];exact v.key y Q.mem
    have G:=v.fb _ (lE hk);simp only at G;have bk:QK (QK f z (i64.wrap (Qn f z 0-1))) z (i64.wrap (Qn (QK f z (i64.wrap (Qn f z 0-1))) z 0+1))=f:=by
     rw[Y3,Vs rfl,QI (n:=Qn f z 0-1) om om,QI (n:=Qn f z 0-1+1) om om,show Qn f z 0-1+1=Qn f z 0 by omega];exact Qmk v.nd hk _
    simp only[bk];have u1:(i:Int)<(AI (g.set i AE):Int):=by rw[X3];exact u0
    have w1:(p:Int)<(AI (O.set p (i:Int)):Int):=by rw[X3];exact w0
    refine Qe (Tt.i (Int.natCast_nonneg i) u1).any λ_=>Tt.b (gK (Int.natCast_nonneg i) u1) λU2 hU2=>Qe (Tt.i (Int.natCast_nonneg p) w1).any λ_=>Tt.b (gK (Int.natCast_nonneg p) w1) λW2 hW2=>Tt.p ⟨v1,?_,?_,rfl,λm=>by rw[v5 m];exact g5 m⟩
    .rw[hW2,Int.toNat_natCast,List.set_set];obtain⟨q1,J⟩:=XK.1 (v.tail p (XS _) E);rw[<- J];exact List.set_getElem_self q1
    .rw[hU2,Int.toNat_natCast,List.set_set];obtain⟨q1,J⟩:=XK.1 hU;rw[<- J];exact List.set_getElem_self q1
   .unfold VX;simp only[Jf,Vp];exact Tt.p ⟨_,rfl,hI⟩
  .obtain⟨b1,bW,bM,bU,bF⟩:=b;obtain⟨V,N,h3,h4,h5⟩:=R;simp only at V N h3 h4 h5;subst N h3 h4;refine Tt.b (P:=SR t bW bU M' bF) (Tt.c (λ_=>Tt.b (P:=SR t bW bU M' bF) ((ih (p+1) om _ _ _ _ _ _ _ _ (w? ok v B |> λq=>by rw[hMe]at q;exact {q with cnt:=λm=>by rw[h5 m];exact M1 m}) V).w λr d=>⟨d.1,d.2.1,d.2.2.1,d.2.2.2.1,λm=>by rw[d.2.2.2.2 m];exact h5 m⟩) λv G=>Tt.p G) λ_=>Tt.p ⟨V,rfl,rfl,rfl,h5⟩) λv G=>Tt.p (SRb G)
set_option maxRecDepth 10000
theorem mc:∀a b:AA Int,C' a b=0->a=b
 |[],[],_=>rfl
 |[],y::b,h=>by simp[C']at h
 |x::a,[],h=>by simp[C']at h
 |x::a,y::b,h=>by
  rw[show C' (x::a) (y::b)=bif Cw x y != 0 then Cw x y else C' a b from rfl,g_]at h;by_cases e:x=y
  .subst e;rw[show(x != x)=AD by simp,Vp]at h;rw[mc a b h]
  .rw[show(x != y)=AE by grind,Vo]at h;exact absurd (ZE.1 h) e
theorem tv:∀a b:AA Int,C' b a= -C' a b
 |[],[]=>rfl
 |[],y::b=>rfl
 |x::a,[]=>rfl
 |x::a,y::b=>by
  rw[show C' (x::a) (y::b)=bif Cw x y != 0 then Cw x y else C' a b from rfl,show C' (y::b) (x::a)=bif Cw y x != 0 then Cw y x else C' b a from rfl,g_,g_];by_cases e:x=y
  .subst e;rw[show(x != x)=AD by simp,Vp,Vp];exact tv a b
  .rw[show(x != y)=AE by grind,show(y != x)=AE by grind,Vo,Vo];exact Fa.swap x y
theorem Nh:DY C':=⟨tv,uM,λx y z h=>by rw[mc x y h]⟩
def Iy(x y:CU):Int:=bif C' x.BL y.BL != 0 then C' x.BL y.BL else x.A7-y.A7
theorem Qq3:DY Iy:=
 (Nh.on λw:CU=>w.BL).lex (d:=λx y:CU=>x.A7-y.A7) ⟨λx y=>om,λx y z=>om,λx y z=>om⟩
theorem QmK{x y:CU}(h:Iy x y=0):x=y:=by
 unfold Iy at h;cases q:(C' x.BL y.BL != 0)with
 |true=>grind
 |false=>
  rw[q,Vp]at h;have e:=mc _ _ (show C' x.BL y.BL=0 by simpa[bne]using q);obtain⟨a,b⟩:=x;obtain⟨f,d⟩:=y
  grind
theorem QqU{x y:CU}(f:AI x.BL<=1048576)(d:AI y.BL<=1048576)(h: -1<=x.A7/\x.A7<=300)(g: -1<=y.A7/\y.A7<=300):Ev (λn=>Mm n x y) (Iy x y):=by
 unfold Mm Iy;refine Ea (QqW _ _ f d) (JD (λ_=>Qa _) λ_=>(Qa _).eq (Dx))
theorem mq{c:CA}(g:Ft c){i k:Int}(h:(CX c i k).2=0):2<=(CX c i k).1.length/\(CX c i k).1.length<=256:=by
 obtain⟨j,d,E,B,x,q,y,F,m⟩:=iX g h;have f:=VG q;have t:=(g.route d f).1;rw[g.exp f]at t;rw[m];unfold DJ;simp only[X2,Xx,List.length_drop,List.length_replicate];omega
structure RK (c:CA) (k:CD) (s:AO) (e:Int) (x:List CL) (l:List Ac) (r:List CU×Int):Prop where
 len:AI r.1<=64
 ok:r.2=0->r.1≠[]/\ ∃t,HF c k s e x l t/\Ds c k s e x l=.inr t/\2<=AI t.r/\ ∀w∈r.1,AI w.BL=AI t.r/\FG t w=AE
theorem d?{c:CA}(h:LH c){k:CD}(kw:FR k)(s:AO)(e:Int)(x:AA CL)(hx:AI x<=4)(l:AA Ac)(hl:AI l<=6):Tt (λn=>HW n c k s e x l) (RK c k s e x l):=by
 unfold HW;have ty:Ev (λn=>G8 n c) (CM c):=h.cE.symm▸h.ty;have nil:∀{e':Int},e'≠0->RK c k s e x l ([],e'):=λq=>⟨sq,λz=>absurd z q⟩;refine Tt.b (P:=λr=>r=Hh (Ds c k s e x l)) (Tt.e (dq ty (λ_=>h.good) kw s e x om l om) rfl) λr R=>?_;subst R;cases N:Ds c k s e x l with
 |inl v=>
  have:=Qns N;exact Tt.c (f:=λ_=>AC ([],v)) (g:=λ_=>AF) (λ_=>Tt.p (nil this)) λq=>absurd gq this
 |inr t=>
  have i:=QpV ty (λ_=>h.good) kw om N;have ok:=i.ok;have hc:t.c=c:=by rw[i.is];rfl
  have B:t.k=k:=by rw[i.is];rfl
  have hH:t.H=x:=by rw[i.is];rfl
  have R:t.r=(CX c s.AN e).1:=by rw[i.is];rfl
  obtain⟨r1,r2⟩:=mq h.good i.rt;rw[<- R]at r1 r2;show Tt (λn=>(iter (OK n (t.r,t.s,t.T,t.m,t.hi)) n ([],0):AB (AA (Int×Int))).bind λY=>(iter (N7 n x) n ([],0):AB (AA (Int×Int))).bind λX=>(K8 n [(-1)] (AI t.r:Int)).bind λO=>(mk (AI x:Int) AD).bind λQ=>(Mq n).bind λac=>(Tp n 0 ({DV with Bm:=(-1):Uh}) AD (-1) ([]:AA CU) c (AI t.r:Int) O x Q c k t.r t.s x t.T t.hi Y X t.m c k).bind λE=>(bif 64<(AI E.1:Int) then AC ([],2)else(bif ((AI E.1:Int)==0)then AC ([],190)else(L8 (λx y=>Mm n x y) E.1).bind λab=>AC (ab,0)))) _;refine Tt.b (P:=λ(M:AA (Int×Int))=>∀m,Qn M m 0=(t.r.count m:Int)) (QO t.r (λ(a:AA (Int×Int)) i=>(a,i)) (λi a=>∀m,Qn a m 0=((t.r.take i).count m:Int)) om (λi y a d G=>?_) (λa G=>?_) [] _ rfl (λm=>by rfl)) λM hM=>?_
  .unfold OK;have hi:=d.lt';simp only[d.lt,Vo,d.ix,XI,d.nx];refine Tt.p ⟨_,rfl,λm=>?_⟩;have cb:(t.r.take i).count y<=256:=XU List.count_le_length gq;rw[Y3,d.take,List.count_append,G,G];by_cases q:m=y
   .subst q;rw[Vs rfl,Dx];simp
   grind
  .simp_all[OK,Tt.p]
  refine Tt.b (P:=λ(F:AA (Int×Int))=>(F.map (·.1)).Nodup/\AI F<=AI x/\(∀e∈F,0<=e.2/\e.2<=(AI x:Int))/\IR F=(AI x:Int)/\ ∀h∈x,h.Al∈F.map (·.1)) (QO x (λ(a:AA (Int×Int)) i=>(a,i)) (λi F=>(F.map (·.1)).Nodup/\AI F<=i/\(∀e∈F,0<=e.2/\e.2<=(i:Int))/\IR F=(i:Int)/\ ∀h∈x.take i,h.Al∈F.map (·.1)) om (λi y a d G=>?_) (λa G=>?_) [] _ rfl ⟨List.nodup_nil,XS _,(λ_ h=>nomatch h),rfl,(λ_ h=>nomatch h)⟩) λF hF=>?_
  .unfold N7;have hi:=d.lt';simp only[d.lt,Vo,d.ix,XI,d.nx];obtain⟨a1,a2,a3,a4,a5⟩:=G;refine Tt.p ⟨_,rfl,?_⟩;by_cases B:y.Al∈a.map (·.1)
   .have hv:=a3 _ (lE B);simp only at hv;rw[Dx];refine⟨by rw[dv B];exact a1,by rw[qv B];omega,λe he=>?_,by rw[sL a1 B,a4];omega,λh J=>?_⟩
    .grind[sK]
    .rw[dv B];rw[d.take]at J
     grind
   .rw[Qml B,Qoi B,show i64.wrap (0+1)=1 from rfl];refine⟨?_,by simp;omega,λe he=>?_,by rw[qg,a4];simp[IR],λh J=>?_⟩
    iterate 2 grind
    .rw[d.take]at J
     grind
  .unfold N7;simp only[Jf,Vp];exact Tt.p ⟨_,rfl,gq⟩
  obtain⟨f1,f2,f3,f4,f5⟩:=hF;refine Tt.b (P:=λ(W:AA Int)=>W=List.replicate (AI t.r) (-1)) (Tt.e (md (-1) (AI t.r) om om) rfl) λW hW=>?_;refine Tt.b (P:=λ(U:AA Bool)=>U=List.replicate (AI x) AD) (Tt.o (v:=List.replicate (AI x) AD) (by unfold mk;grind) rfl) λU hU=>Qe (Tt.z) λ_=>?_;have sv:Sv t 0 AD (-1) Rw W U M F:=by
   subst hW hU;refine {st:=oz,row:=by show(0:Int)<=0;omega,wl:=sq,ul:=by rw[hH];simp,tail:=λj _ b=>gq,used:=λh q=>?_,cnt:=λm=>gq,nd:=f1,fl:=om,fb:=λe he=>gq,sum:=by rw[f4];simp,key:=λh J=>f5 h gq,l0:=om,l1:=om,l2:=λ_=>om,pre:=⟨[],λh q=>by simp[Qn,Jq]at q,λW' _ _ _ _ q=>gq⟩}
   grind
  have se:=Qnz ok (AI t.r) 0 om Rw AD (-1) [] W U M F sv ⟨sq,λ_ h=>nomatch h⟩;rw[hc,B,hH]at se;refine Tt.b (P:=SR t W U M F) se λr hR=>Tt.c (λ_=>Tt.p (nil (by decide))) λq=>Tt.c (λ_=>Tt.p (nil (by decide))) λq2=>?_;obtain⟨⟨h1,h2⟩,_,_⟩:=hR;have aa:AI r.1<=64:=gq;have L:r.1≠[]:=λz=>gq;refine Tt.b (P:=λl'=>l'=Ki (M0 Iy) r.1) (Tt.e (qV om (λa d b hb=>QqU gq gq (h2 a d).2.1 (h2 b hb).2.1) Qq3 λa _ b _=>QmK) rfl) λl' V=>Tt.p ?_;subst V;have pm:=Q4 (M0 Iy) r.1;refine⟨by show(Ki _ _).length<=64;rw[pm.length_eq];exact aa,λ_=>⟨λz=>L (VI.1 (by simp_all)),t,i,N,r1,λw hw=>?_⟩⟩
  grind
theorem mS{t:Cj}{W:CU}:∀{r:AA Int} {i:Nat} {u:AA (Int×Bool)} {s:Uh},admL t W r i u s=AE->∀h∈r,HP t h
 |[],_,_,_,_,h,hm=>by cases hm
 |y::r,i,u,s,q,h,hm=>by
  rw[d9]at q;cases hb:((y != -1)&&Fq t W u i y)with
  |true=>grind
  |false=>
  rw[hb,Vp]at q;rcases X6.1 hm with rfl|hm
  .exact(t5 hb).1
  .cases hL:AG (W.A7<(i:Int))with
   |true=>rw[hL,Vo]at q;exact mS q h hm
   |false=>
    rw[hL,Vp]at q;cases h2:(DC t s (i:Int) y).2 with
    |false=>grind
    |true=>rw[h2]at q;exact mS q h hm
theorem QmE{c:CA}(g:Ft c)(he:Ev (λn=>G8 n c) 0){i k:Int}(h:(CX c i k).2=0):Ev (λn=>II n c i k) (CT.c3 ((CX c i k).1,c.Az.foldl (λm x=>QK m ({BX:=x.BA,to_:=x.To:Ub}) x) [])):=by
 have H:=mE g he i k;obtain⟨j,d,f,J,G,B,N,Q,F⟩:=iX g h;subst J;subst G;have q:=VG B;have E:=(g.route d q);rw[g.exp q]at E;have w:i64.wrap (256-(AI (Ck d.Ae):Int))=256-(AI (Ck d.Ae):Int):=Dx;have t:Ev (λn=>Go.Sw.iter (I' n c) n (([]:AA (Ub×Cp)),0)) (c.Az.foldl (λm x=>QK m ({BX:=x.BA,to_:=x.To:Ub}) x) []):=by
  have O:=g.legs;refine Q9 c.Az (λ(m:AA (Ub×Cp)) x=>QK m ({BX:=x.BA,to_:=x.To:Ub}) x) [] (λm i=>(m,(i:Int))) (λm=>m) om rfl (λi x m ha _=>?_) ?_
  .unfold I';simp only[ha.lt,Vo,ha.ix,XI,ha.nx];exact Qa _
  simp_all[I',Qa]
 rw[F];unfold II;have M:(AG ((f:Int)<0)||(AG (0<(f:Int))&&AG (d.Am<0)))=false:=by
  grind
 refine Ea (hQ he B) (QW (Ea (v:=AD) (Eu (QR λ_=>Eh λ_=>Qa _) M) (QW (Ea (mw g q) ?_))));simp only[w,YO (show¬256-(AI (Ck d.Ae):Int)<(f:Int)by omega),Vp];refine Ea (v:=DJ d f) ?_ (Ea t (Qa _));by_cases P:f=0
 .simp_all[Qa,DJ]
 .refine KT gq ?_;have y:=me d 0 (Ck d.Ae) E.2 (AI (Ck d.Ae)-1) om;have L:=lz (Ck d.Ae) d.Am (AI (Ck d.Ae)-1);rw[QI (n:=(AI (Ck d.Ae):Int)-1) om om,show(AI (Ck d.Ae):Int)-1=((AI (Ck d.Ae)-1:Nat):Int)by omega];refine Ea y.ev (Ea (md d.Am f om om) (Ea (EA ?_) (Qa _)))
  grind[DJ,QI,ZH,Nat.blt,Nat.ble_eq_true_of_le,YG]
set_option maxRecDepth 10000
def Ff(k:CD)(g:Int):Prop:=∃j:Nat,g+1=(j:Int)/\j<AI k.AR+1
theorem tp{t:Cj}{W:CU}(h:FG t W=AE):AI W.BL=AI t.r/\W.A7<(AI t.r:Int)/\ ∀y∈W.BL,HP t y:=by
 unfold FG at h;cases d:H5 t W with
 |true=>grind
 |false=>
  rw[d,Vp]at h
  grind[H5,mS]
theorem Qp9{t:Cj}{s:AO}{e:Int}{l:AA Ac}(J:Ev (λn=>NF n t.c t.k s e t.H l) (Hh (.inr t)))(ok:C8 t){W:CU}(E:FG t W=AE){p:Int}(F:0<=p)(O:p<=W.A7):
  Tt (λn=>K0 n t.c t.k s e t.H l W p) λr=>Ff t.k r.1:=by
 obtain⟨N,R,G⟩:=tp E;have rl:=ok.rl;unfold K0;refine Tt.b (P:=λr=>r=Hh (.inr t)) (Tt.e J rfl) λr f=>?_;subst f;show Tt (λn=>(Ii n W t.c t.k t.r t.s t.H t.T t.hi t.m t.c t.k).bind _) _;have d:∀{i:Int} {h:Int},h∈W.BL->Tt (λn=>Ib n i h t.c t.k t.r t.s t.H t.T t.hi t.m t.c t.k) λr=>r.2=AE->Ff t.k r.1.Ah:=λ{i h} hm=>Tt.e (mH ok i h (G h hm)) λq=>iV ok (G h hm) q;refine Tt.b (P:=λb=>b=AE) (Tt.e (kp ok W om) E) λb j=>?_;subst j;refine Tt.c (λq=>by cases q) λ_=>Tt.b (P:=λb=>b=AD) (Tt.c gq λ_=>Tt.p (YO om)) λb j=>?_;subst j;refine Tt.c (λq=>by cases q) λ_=>?_;refine Tt.b (P:=Fo λ(r:Int×CJ×Int)=>Ff t.k r.1) (Tt.l (λi:Int=> -1<=i/\i<=p) (λi=>(i+1).toNat) (λi hi=>?_) p om) λr f=>?_
 .unfold TQ;refine Tt.c (λq=>?_) λ_=>Tt.p (Q:=Fe _ _ _ _) trivial;have q:=Vu q;obtain⟨M,L⟩:=hi;refine Tt.b (Tt.i q om) λy g=>Tt.b (d g) λz B=>Tt.c (λx=>Tt.b (Tt.e (hY ok q om F om) trivial) λ_ (_:True)=>Tt.p (Q:=Fe _ _ _ _) (B x)) λ_=>Tt.p (Q:=Fe _ _ _ _) ?_
  grind[QI]
 cases r with
 |d v=>exact Tt.p f
 |k u=>
  refine Tt.b (P:=Fo λ(r:Int×CJ×Int)=>Ff t.k r.1) (Tt.l (λi:Int=>p<=i/\i<=W.A7+1) (λi=>(W.A7+1-i).toNat) (λi hi=>?_) p om) λr f=>?_
  .unfold UQ;refine Tt.c (λq=>?_) λ_=>Tt.p (Q:=Fe _ _ _ _) trivial;have q:=Vu q;obtain⟨M,L⟩:=hi;refine Tt.b (Tt.i om om) λy g=>Tt.b (d g) λz B=>Tt.c (λx=>Tt.b (Tt.e (hY ok F om om om) trivial) λ_ (_:True)=>Tt.p (Q:=Fe _ _ _ _) (B x)) λ_=>Tt.p (Q:=Fe _ _ _ _) ?_
   grind[QI]
  cases r with
  |d v=>exact Tt.p f
  |k u=>exact Tt.p ⟨0,rfl,om⟩
theorem Qin{k:CD}(ok:KV k){g:Int}(hg:Ff k g)(x:CJ):Tt (λn=>MU n k g x) λ_=>True:=by
 unfold MU;obtain⟨j,e,f⟩:=hg;have B:=ok.dims.segs;refine Tt.k λ_=>?_;obtain⟨t,q⟩:=ok.dims.get (i:=j) (j:=0) f om;obtain⟨y,m⟩:=ok.dims.get (i:=0) (j:=j) om f;rw[e,QI (n:=(j:Int)) om om];have h:(0:Int)=((0:Nat):Int):=rfl;rw[h];refine Tt.b (P:=λr=>r=k.BP[j]?.getD []) (Tt.o (QA t) rfl) λr d=>?_;subst d;refine Qe (Tt.o (QA q) trivial) λ_=>Tt.b (P:=λr=>r=k.BP[0]?.getD []) (Tt.o (QA y) rfl) λr d=>?_;subst d;exact Qe (Tt.o (QA m) trivial) λ_=>Tt.z
theorem i?(r:AA Int)(m:AA (Ub×Cp))(J:AI r<=256):Tt (λn=>Mn n r m) λy=>∀p∈y.1,0<=p.1/\p.1<(AI r:Int):=by
 unfold Mn;have j:∀(k i:Nat) (M:AA (Int×Int)),i+k=AI r->∃y:AA (Int×Int)×Unit,(∃N,∀n f,N<=n->N<=f->L5 (I_ n r) f (M,(i:Int))=AC y)/\ ∀p∈y.1,0<=p.1/\p.1<(AI r:Int):=by
  intro k
  induction k with
  |zero=>
   intro i M hk;have:i=AI r:=om;subst this;refine⟨([],()),⟨1,λn f _ F=>?_⟩,λ_ h=>nomatch h⟩;obtain⟨f,rfl⟩:∃g,f=g+1:=⟨f-1,om⟩;unfold L5 I_;simp only[Jf,Vp];rfl
  |succ k G=>
   intro i M hk;have H:i<AI r:=om;have d:At r i r[i]:=Y6 om (XJ H);generalize hx:r[i]=x at d;obtain⟨y,⟨N,B⟩,t⟩:=G (i+1) (QK M x (i64.wrap (Qn M x 0+1))) om;refine⟨(((i:Int),Qn (QK M x (i64.wrap (Qn M x 0+1))) x 0)::y.1,y.2),⟨N+1,λn f E F=>?_⟩,λp q=>?_⟩
   .obtain⟨f,rfl⟩:∃g,f=g+1:=⟨f-1,om⟩;have e:=B n f om om;unfold L5;have step:I_ n r (M,(i:Int))=AC ([((i:Int),Qn (QK M x (i64.wrap (Qn M x 0+1))) x 0)],CF.k (QK M x (i64.wrap (Qn M x 0+1)),((i+1:Nat):Int))):=by
     unfold I_;simp only[d.lt,Vo,d.ix,XI,d.nx];rfl
    rw[step];show(L5 (I_ n r) f (_,((i+1:Nat):Int))).bind _=_;rw[e];rfl
   .rcases X6.1 q with h|h
    .subst h;exact⟨by show(0:Int)<=(i:Int);omega,by show(i:Int)<_;omega⟩
    .exact t p h
 obtain⟨y,⟨N,B⟩,t⟩:=j (AI r) 0 [] om;refine⟨(y.1++[],()),⟨N,λn E=>?_⟩,λp q=>t p (by simpa using q)⟩;have:=B n n E E;unfold ap;rw[show((0:Nat):Int)=0 from rfl]at this;show(L5 (I_ n r) n ([],0)).bind _=_;rw[this];rfl
theorem QjM{c:CA}(h:LH c){i k:Int}(f:(CX c i k).2=0)(a b:Int):Tt (λn=>PW n c i k a b) λr=>r.2=0->0<=r.1:=by
 unfold PW;obtain⟨L,j⟩:=mq h.good f;refine Tt.b (Tt.e (QmE h.good h.ty f) (Q:=λr=>r=CT.c3 ((CX c i k).1,c.Az.foldl (λm x=>QK m ({BX:=x.BA,to_:=x.To:Ub}) x) [])) rfl) λr e=>?_;subst e;generalize(c.Az.foldl (λm x=>QK m ({BX:=x.BA,to_:=x.To:Ub}) x) [])=m;generalize(CX c i k).1=R at L j;show Tt (λn=>(Wc n R m).bind λM=>(Mn n R m).bind λg=>(RS (ME n a b (R,m)) g.1 ():AB (CF Unit (Int×Int))).bind λD45=>match D45 with|.k s57=>(AC (0,90))|.d s57=>AC s57) _;refine Qe (Tt.z) λ_=>Tt.b (i? R m j) λy J=>?_;have run:∀l:AA (Int×Int),(∀p∈l,0<=p.1/\p.1<(AI R:Int))->Tt (λn=>RS (ME n a b (R,m)) l ()) (Fo λ(r:Int×Int)=>0<=r.1):=by
  intro l
  induction l with
  |nil=>intro _;exact Tt.z
  |cons p l H=>
   intro B;obtain⟨t,F⟩:=B p (X4 ..);have N:Tt (λn=>ME n a b (R,m) () p) (Fo λ(r:Int×Int)=>0<=r.1):=by
    unfold ME;exact Qe (Qe (Tt.i t F).any λ_=>Tt.k λ_=>Tt.z) λ_=>Tt.c (λ_=>Tt.p t) λ_=>Tt.z
   unfold RS;refine Tt.b N λd E=>?_;cases d with
   |k u=>exact H λq G=>B q (X5 _ G)
   |d v=>exact Tt.p E
 refine Tt.b (run y.1 J) λr f=>?_;cases r with
 |k u=>exact Tt.p λh=>by cases h
 |d v=>exact Tt.p λ_=>f
set_option maxRecDepth 10000
structure Qk (q:Ui) (t:Cj):Prop where
 crs:LH q.A3
 clk:FR q.Bh
 te:Ds q.A3 q.Bh q.Ai q.BV q.Bu q.Bp=.inr t
 task:HF q.A3 q.Bh q.Ai q.BV q.Bu q.Bp t
 hx:AI q.Bu<=4
 hl:AI q.Bp<=6
 p0:0<=q.Aw
 pen:AI q.Bi<=100
theorem QnD{q:Ui}{t:Cj}(h:Qk q t){W:CU}(g:FG t W=AE){p:Int}(m:0<=p)(j:p<=W.A7):Tt (λn=>Ie n q W p) λr=>Ff q.Bh r.1:=by
 unfold Ie;have i:=h.task;have B:t.c=q.A3:=by rw[i.is];rfl
 have f:t.k=q.Bh:=by rw[i.is];rfl
 have x:t.H=q.Bu:=by rw[i.is];rfl
 have d:=dq (c:=q.A3) (h.crs.cE.symm▸h.crs.ty) (λ_=>h.crs.good) h.clk q.Ai q.BV q.Bu (by have:=h.hx;omega) q.Bp (by have:=h.hl;omega);rw[h.te]at d;have z:=Qp9 (t:=t) (s:=q.Ai) (e:=q.BV) (l:=q.Bp) gq i.ok g m j;rw[B,f,x]at z;exact Tt.b z λr y=>Tt.p y
theorem gk{c:CA}{s:AO}{l:AA Ac}(h:HE c s l=AD):0<=s.AN/\s.AN<(AI c.AP:Int)/\0<=s.A2/\s.A2<(AI c.A0:Int):=by
 grind[HE]
theorem o4{q:Ui}{t:Cj}(h:Qk q t):Tt (λn=>Ic n q) λ_=>True:=by
 unfold Ic;obtain⟨_,_,a,b⟩:=gk h.task.arg;exact Qe (Tt.i a b).any λ_=>Tt.z
theorem j?{q:Ui}{t:Cj}(h:Qk q t){W:CU}(m:FG t W=AE)(F:q.Aw<=W.A7):Tt (λn=>PJ n q W) λ_=>True:=by
 unfold PJ;obtain⟨a,b,_,_⟩:=gk h.task.arg;have w:=Y2 h.crs.wf;have kk:=lm h.clk h.task.clk;refine Tt.b (Tt.i a b) λd j=>?_;have f:=w.cut d j;refine Qe (QO d.Aq (λ(a:Bool×Bool) i=>(a.1,a.2,i)) (λ_ _=>True) om (λi x a ha _=>?_) (λa _=>?_) (AD,AD) _ rfl trivial) λ_=>Tt.z
 .unfold TJ;simp only[ha.lt,Vo,ha.ix,XI,ha.nx];refine Qe (Tt.b (QjM h.crs h.task.rt _ _) λr g=>Tt.b (P:=λb=>b=AD->0<=r.1/\r.1<=q.Aw) (Tt.n λH=>Tt.p λJ=>?_) λb E=>Tt.k λy=>?_) λb=>Tt.p ⟨b,rfl,trivial⟩
  .grind
  .obtain⟨B,G⟩:=E y;refine Tt.b (QnD h m B om) λr g=>Qe (Qin kk g _) λz=>Qe (Qv <| Qe (o4 h) λ_=>Tt.z) λ_=>Qe (Qv <| Qe (o4 h) λ_=>Tt.z) λ_=>Tt.z
 .unfold TJ;simp only[Jf,Vp];exact Tt.p ⟨_,rfl,trivial⟩
def X_(p:Int)(s:Int×Int×Bool)(x:CE):Int×Int×Bool:=
 bif x.AT<=p then(i64.wrap (s.1+x.BW),i64.wrap (s.2.1+x.As),s.2.2||x.A')else s
theorem rM(l:AA CE)(p:Int)(d:AI l<=1048576):Ev (λn=>MZ n l p) (l.foldl (X_ p) (0,0,AD)):=by
 unfold MZ;refine Ea (Q9 l (λs x=>X_ p s x) (0,0,AD) (λs i=>(s.1,s.2.1,s.2.2,(i:Int))) (λs=>s) om rfl (λi x s ha _=>?_) ?_) (Qa _)
 .unfold UT;simp only[ha.lt,Vo,ha.ix,XI,ha.nx];refine Ea (v:=X_ p s x) ?_ (Qa _);unfold X_;refine JD (λ_=>?_) λ_=>Qa _
  grind[Qa]
 simp_all[UT,Qa]
theorem QnL(l:AA Ac)(d:AI l<=6):Tt (λn=>PK n l) λ_=>True:=by
 unfold PK Wh;refine Qe (Qe (QO l (λ(_:Unit) i=>i) (λ_ _=>True) om (λi x _ ha _=>?_) (λ_ _=>?_) () _ rfl trivial) λr=>?_) λ_=>Tt.z
 .unfold TU Wk;simp only[ha.lt,Vo,ha.ix,XI,ha.nx]
  simp_all[Tt.c,Tt.p]
 .simp_all[TU,Tt.p]
 .cases r<;>exact Tt.z
theorem QlM{c:CA}(h:CM c=0){d:AN}(f:d∈c.AP):1<=d.BI/\d.BI<=3:=by
 have g:=(Y4 h).2.1
 simp_all[Cv,IY,DG]
set_option maxRecDepth 10000
def LJ(x:CJ):Prop:=((-2199023255552<=x.Lo/\x.Lo<=2199023255552)/\(-2199023255552<=x.Hi/\x.Hi<=2199023255552))/\x.Lo<=x.Hi
def Hz(x:Int):Prop:= -140737488355328<=x/\x<=140737488355328
def LO(x:CJ):Prop:=(Hz x.Lo/\Hz x.Hi)/\x.Lo<=x.Hi
theorem qc{c:CA}(f:Fc c){s:CC}(g:Dh s.BJ){h:CL}(d:HI c h):LJ (Fw c s h):=by
 have m:=pO f (Ch c h.Al) g d.fi;have q:=pO f (Ch c h.Al) g d.la;have t:=d.fi;have j:=d.la;have fl:=d.le
 grind[Dh,Fw,LJ,QI]
theorem QpT{c:CA}(q:Fc c){k:CD}(g:∀s∈k.AR,Dh s.BJ){h:CL}(j:HI c h){x:Ue}(e:Dr c k h=AC x):LJ x.A9:=by
 unfold Dr at e;cases d:Ch c h.Al==1 with
 |true=>
  rw[d,Vo]at e
  grind[qc,Dh]
 |false=>
  rw[d,Vp]at e;cases f:AG (Di k h<0)with
  |true=>grind
  |false=>
   rw[f,Vp,Option.map_eq_some_iff]at e;obtain⟨s,m,rfl⟩:=e
   grind[qc]
theorem rm{c:CA}(hc:Fc c){k:CD}(ka:∀s∈k.AR,Dh s.BJ):∀{l:AA CL} {T:AA Ue},(∀h∈l,HI c h)->C7 c k l=AC T->∀x∈T,LJ x.A9
 |[],T,_,e,x,hx=>by
  cases(XY e:[]=T);cases hx
 |h::r,T,ho,e,x,hx=>by
  rw[nF,Option.bind_eq_some_iff]at e;obtain⟨y,e1,e2⟩:=e;rw[Option.map_eq_some_iff]at e2;obtain⟨R,e3,rfl⟩:=e2;rcases X6.1 hx with q|q
  .grind[QpT,List.mem_cons_self]
  .exact rm hc ka gq e3 x q
theorem _o{l:AA Ac}(h:l.any Hq=AD){p:Int}{x:Ue}(e:Jq (HC l).1 p=AC x):LJ x.A9:=by
 unfold HC at e;rw[lY]at e;have d:(l.find? λh=>h.AT==p).map (λh=>({Ah:= -1,A9:={Lo:=h.Lo,Hi:=h.Hi}}:Ue))=AC x:=e;rw[Option.map_eq_some_iff]at d;obtain⟨y,f,rfl⟩:=d
 grind[Hq,FI,DG,LJ]
theorem pV{c:CA}(f:CM c=0)(a b:Int):(0<=(HB c a b).Bl/\(HB c a b).Bl<=68719476736)/\(0<=(HB c a b).Bq/\(HB c a b).Bq<=68719476736)/\(HB c a b).Bl<=(HB c a b).Bq:=by
 have d:=(Y4 f).2.1;unfold Cv at d;simp only[XV]at d;unfold HB;cases e:c.Az.find? λl=>(l.BA==a)&&(l.To==b)with
 |none=>simp
 |some y=>
  have:=Xs.1 d.2.1 y (List.mem_of_find?_eq_some e)
  simp_all[R',DG]
def LI(K:Int)(s:CJ):Prop:=(0<=s.Lo/\s.Lo<=K)/\(0<=s.Hi/\s.Hi<=K)
theorem qe{c:CA}(d:CM c=0):∀(r:AA Int) (s:CJ) (a K:Int),LI K s->K+68719476736*(AI r:Int)<=35184372088832->∀u∈FJ c s a r,LI 35184372088832 u
 |[],s,a,K,hs,hK,u,hu=>by cases hu
 |b::r,s,a,K,hs,hK,u,hu=>by
  rw[m7]at hu;rw[XZ]at hK;obtain⟨⟨l1,l2⟩,⟨l3,l4⟩,_⟩:=pV d a b;obtain⟨⟨s1,s2⟩,s3,s4⟩:=hs;have hr:=om;have e:LI (K+68719476736) (Dj c s a b):=by
   grind[Dj,LI,QI]
  rcases X6.1 hu with q|q
  .subst q;obtain⟨⟨f,h⟩,g,j⟩:=e;exact⟨⟨f,om⟩,g,om⟩
  .exact qe d r _ b _ e om u q
theorem Qqg{c:CA}(f:CM c=0){r:AA Int}(g:AI r<=256):∀u∈Fv c r,LI 35184372088832 u:=by
 cases r with
 |nil=>intro u d;cases d
 |cons a r=>
  intro u d;rw[XZ]at g;rcases X6.1 d with q|q
  .subst q;exact⟨sq,Int.le_refl 0,sq⟩
  .exact qe f r _ a 0 ⟨sq,Int.le_refl 0,Int.le_refl 0⟩ om u q
abbrev Nb:AA CJ->Prop:=List.Pairwise λu v=>u.Hi-u.Lo<=v.Hi-v.Lo
theorem qf{c:CA}(d:CM c=0):∀(r:AA Int) (s:CJ) (a K:Int),LI K s->K+68719476736*(AI r:Int)<=35184372088832->Nb (s::FJ c s a r)
 |[],s,a,K,_,_=>List.pairwise_singleton _ _
 |b::r,s,a,K,hs,hK=>by
  rw[m7];rw[XZ]at hK;obtain⟨⟨l1,l2⟩,⟨l3,l4⟩,l5⟩:=pV d a b;obtain⟨⟨s1,s2⟩,s3,s4⟩:=hs;have hr:=om;have e:LI (K+68719476736) (Dj c s a b)/\s.Hi-s.Lo<=(Dj c s a b).Hi-(Dj c s a b).Lo:=by
   grind[Dj,LI,QI]
  have p:=qf d r _ b _ e.1 om;refine Xc.2 ⟨λu f=>?_,p⟩;have g:=e.2;rcases X6.1 f with q|q
  .grind
  .have:=(Xc.1 p).1 u q;omega
theorem Qqf{c:CA}(d:CM c=0){r:AA Int}(f:AI r<=256):Nb (Fv c r):=by
 cases r with
 |nil=>exact List.Pairwise.nil
 |cons a r=>
  rw[XZ]at f;exact qf d r _ a 0 ⟨sq,Int.le_refl 0,Int.le_refl 0⟩ om
def R7(x:Int):Prop:= -35184372088832<=x/\x<=2199023255552
theorem dA{l:AA CJ}(h:∀u∈l,LI 35184372088832 u)(i:Nat):LI 35184372088832 ((l[i]?).getD {Lo:=0,Hi:=0}):=by
 cases e:l[i]? with
 |none=>exact⟨sq,Int.le_refl 0,sq⟩
 |some u=>grind
theorem Qqr{t:Cj}(h:∀u∈t.s,LI 35184372088832 u)(g:Nb t.s)(i j:Int)(f:i.toNat<=j.toNat)(d:j.toNat<AI t.s):(R7 (Fy t i j).Lo/\R7 (Fy t i j).Hi)/\(Fy t i j).Lo<=(Fy t i j).Hi:=by
 obtain⟨⟨E,B⟩,H,m⟩:=dA h i.toNat;obtain⟨⟨y,F⟩,J,G⟩:=dA h j.toNat;have x:((t.s[i.toNat]?).getD {Lo:=0,Hi:=0}).Hi-((t.s[i.toNat]?).getD {Lo:=0,Hi:=0}).Lo<=((t.s[j.toNat]?).getD {Lo:=0,Hi:=0}).Hi-((t.s[j.toNat]?).getD {Lo:=0,Hi:=0}).Lo:=by
  rcases Nat.lt_or_eq_of_le f with q|q
  .have:=VC.1 g i.toNat j.toNat om d q
   grind
  grind
 grind[Fy,R7,QI]
structure KM (t:Cj):Prop where
 T:∀x∈t.T,LJ x.A9
 m:∀p x,Jq t.m p=AC x->LJ x.A9
 s:∀u∈t.s,LI 35184372088832 u
 g:Nb t.s
theorem Qpn{c:CA}{k:CD}{s:AO}{e:Int}{x:AA CL}{l:AA Ac}{t:Cj}(h:HF c k s e x l t):KM t:=by
 have ok:=h.ok;have rl:=ok.rl;have j:t.c=c:=by rw[h.is];rfl
 have g:t.k=k:=by rw[h.is];rfl
 have E:t.H=x:=by rw[h.is];rfl
 have q:t.m=(HC l).1:=by rw[h.is];rfl
 have F:t.r=(CX c s.AN e).1:=by rw[h.is];rfl
 have f:t.s=Fv c (CX c s.AN e).1:=by rw[h.is];rfl
 refine⟨?_,λp y d=>?_,?_,?_⟩
 .refine rm (c:=c) (k:=k) (j▸ok.crs) (g▸ok.clk.anc) (l:=x) (λy d=>?_) h.tm;obtain⟨i,G,e⟩:=List.getElem_of_mem d;have:=ok.hit i y gq
  grind
 .have B:=h.arg
  grind[HE,_o]
 .rw[f];exact Qqg h.cE gq
 .rw[f];exact Qqf h.cE gq
theorem Qqu{t:Cj}(b:KM t)(ok:C8 t){p h:Int}(g:HP t h)(q:(DF t p h).2=AE):LJ (DF t p h).1.A9:=by
 unfold DF at q⊢;cases e:(JP t.m p||AG (h<0))with
 |true=>
  rw[e]at q;simp only[Vo]at q⊢;rw[l6]at q;obtain⟨x,f⟩:=Option.isSome_iff_exists.1 q;have:Qn t.m p zX=x:=by
   unfold Qn;rw[f];rfl
  rw[this];exact b.m p x f
 |false=>
  simp only[Vp];rw[XW,decide_eq_false_iff_not]at e;rcases g with z|z
  .omega
  .have d:h.toNat<AI t.T:=by rw[ok.tl];exact z
   rw[XJ d];exact b.T _ (Vd d)
theorem QnS{t:Cj}{s:AO}{e:Int}{l:AA Ac}(hp:Ev (λn=>NF n t.c t.k s e t.H l) (Hh (.inr t)))(ok:C8 t)(E:KM t){W:CU}(X:FG t W=AE){p:Int}(Y:0<=p)(p1:p<=W.A7):
  Tt (λn=>K0 n t.c t.k s e t.H l W p) λr=>Ff t.k r.1/\LO r.2.1:=by
 obtain⟨w1,w2,J⟩:=tp X;have rl:=ok.rl;unfold K0;refine Tt.b (P:=λr=>r=Hh (.inr t)) (Tt.e hp rfl) λr B=>?_;subst B;show Tt (λn=>(Ii n W t.c t.k t.r t.s t.H t.T t.hi t.m t.c t.k).bind _) _;have f:∀{i:Int} {h:Int},h∈W.BL->Tt (λn=>Ib n i h t.c t.k t.r t.s t.H t.T t.hi t.m t.c t.k) λr=>r.2=AE->Ff t.k r.1.Ah/\LJ r.1.A9:=λ{i h} hm=>Tt.e (mH ok i h (J h hm)) λq=>⟨iV ok (J h hm) q,Qqu E ok (J h hm) q⟩;have x:∀{i j:Int},0<=i->i.toNat<AI t.r->0<=j->j.toNat<AI t.r->i<=j->Tt (λn=>J6 n i j t.c t.k t.r t.s t.H t.T t.hi t.m t.c t.k) λr=>(R7 r.Lo/\R7 r.Hi)/\r.Lo<=r.Hi:=λa b c d e=>Tt.e (hY ok a b c d) (Qqr E.s E.g _ _ om (by rw[ok.sl];exact d));refine Tt.b (P:=λb=>b=AE) (Tt.e (kp ok W om) X) λb M=>?_;subst M;refine Tt.c (λq=>by cases q) λ_=>Tt.b (P:=λb=>b=AD) (Tt.c gq λ_=>Tt.p (YO om)) λb M=>?_;subst M;refine Tt.c (λq=>by cases q) λ_=>?_;refine Tt.b (P:=Fo λ(r:Int×CJ×Int)=>Ff t.k r.1/\LO r.2.1) (Tt.l (λi:Int=> -1<=i/\i<=p) (λi=>(i+1).toNat) (λi hi=>?_) p om) λr B=>?_
 .unfold TQ;refine Tt.c (λq=>?_) λ_=>Tt.p (Q:=Fe _ _ _ _) trivial;have q:=Vu q;obtain⟨h1,V⟩:=hi;refine Tt.b (Tt.i q om) λy G=>Tt.b (f G) λz R=>Tt.c (λO=>Tt.b (x q om Y om V) λu L=>Tt.p (Q:=Fe _ _ _ _) ?_) λ_=>Tt.p (Q:=Fe _ _ _ _) ?_
  .obtain⟨F,N⟩:=R O;refine⟨F,?_⟩;unfold LJ at N;unfold R7 at L;show(Hz _/\Hz _)/\_
   grind[Hz,QI]
  grind[QI]
 cases r with
 |d v=>exact Tt.p B
 |k u=>
  refine Tt.b (P:=Fo λ(r:Int×CJ×Int)=>Ff t.k r.1/\LO r.2.1) (Tt.l (λi:Int=>p<=i/\i<=W.A7+1) (λi=>(W.A7+1-i).toNat) (λi hi=>?_) p om) λr B=>?_
  .unfold UQ;refine Tt.c (λq=>?_) λ_=>Tt.p (Q:=Fe _ _ _ _) trivial;have q:=Vu q;obtain⟨h1,V⟩:=hi;refine Tt.b (Tt.i om om) λy G=>Tt.b (f G) λz R=>Tt.c (λO=>Tt.b (x Y om om om h1) λu L=>Tt.p (Q:=Fe _ _ _ _) ?_) λ_=>Tt.p (Q:=Fe _ _ _ _) ?_
   .obtain⟨F,N⟩:=R O;refine⟨F,?_⟩;unfold LJ at N;unfold R7 at L;show(Hz _/\Hz _)/\_
    grind[Hz,QI]
   grind[QI]
  cases r with
  |d v=>exact Tt.p B
  |k u=>exact Tt.p ⟨⟨0,rfl,om⟩,by show(Hz _/\Hz _)/\_;unfold Hz;simp⟩
set_option maxRecDepth 10000
def oW(k:CD)(o:CB):Prop:=(o.A'=AE->o=R3)/\(o.A'=AD->Ff k o.A_/\(-1125899906842624<=o.Lo/\o.Hi<=1125899906842624)/\o.Lo<=o.Hi)
theorem ZI{k:CD}{x f:CJ}(m:LO x)(j:LO f){u:Int}(d:Hz u){g:Int}(hg:Ff k g):oW k {A':=AD,A_:=g,Lo:=i64.wrap (i64.wrap (x.Lo-f.Hi)+u),Hi:=i64.wrap (i64.wrap (x.Hi-f.Lo)+u):CB}:=by
 unfold LO Hz at m j;unfold Hz at d;refine⟨λh=>(by cases h),λ_=>⟨hg,?_⟩⟩
 grind[QI]
def oL(k:CD)(r:AA CB):Prop:=(1<=AI r/\AI r<=2)/\ ∀o∈r,oW k o
theorem jN{k:CD}:oW k {A':=AE,A_:=(-1),Lo:=0,Hi:=0:CB}:=⟨λ_=>rfl,λh=>(by cases h)⟩
theorem aS{k:CD}{o:CB}(h:oW k o):oL k [o]:=⟨sq,λy hy=>gq⟩
theorem jM{k:CD}{o:CB}(h:oW k o):oL k [{A':=AE,A_:=(-1),Lo:=0,Hi:=0:CB},o]:=⟨sq,λy hy=>by
 grind[jN]⟩
structure ZO (q:Ui) (t:Cj):Prop where
 k:Qk q t
 b:KM t
 sl:Dh q.Ai.BM
 pb:∀y∈q.Bi,Dh y.BW
theorem s_{q:Ui}{t:Cj}(h:ZO q t){W:CU}(g:FG t W=AE){p:Int}(m:0<=p)(j:p<=W.A7):Tt (λn=>Ie n q W p) λr=>Ff q.Bh r.1/\LO r.2:=by
 unfold Ie;have i:=h.k.task;have B:t.c=q.A3:=by rw[i.is];rfl
 have f:t.k=q.Bh:=by rw[i.is];rfl
 have x:t.H=q.Bu:=by rw[i.is];rfl
 have d:=dq (c:=q.A3) (h.k.crs.cE.symm▸h.k.crs.ty) (λ_=>h.k.crs.good) h.k.clk q.Ai q.BV q.Bu (by have:=h.k.hx;omega) q.Bp (by have:=h.k.hl;omega);rw[h.k.te]at d;have z:=QnS (t:=t) (s:=q.Ai) (e:=q.BV) (l:=q.Bp) gq i.ok h.b g m j;rw[B,f,x]at z;exact Tt.b z λr y=>Tt.p y
theorem g?{q:Ui}{t:Cj}(h:ZO q t):Tt (λn=>Ic n q) λg=>0<=g/\g<=1099511627776:=by
 unfold Ic;obtain⟨_,_,a,b⟩:=gk h.k.task.arg;have d:=(Y4 h.k.crs.cE).2.1;unfold Cv at d;simp only[XV]at d;refine Tt.b (Tt.i a b) λw f=>Tt.p ?_
 simp_all[DG]
theorem uj{q:Ui}{t:Cj}(h:ZO q t)(W:CU):Tt (λn=>LB n q W) LO:=by
 unfold LB;refine Tt.b (g? h) λg d=>Qe (Tt.z) λ_=>Tt.p ?_;unfold LO Hz
 grind
theorem QjG{q:Ui}{t:Cj}(h:ZO q t){W:CU}(g:FG t W=AE)(f:0<=W.A7)(j:0<AI W.BL):Tt (λn=>Px n q W) LO:=by
 unfold Px;exact Qe (QnL _ h.k.hl) λ_=>Qe (Qe (Tt.i (Int.le_refl 0) om).any λ_=>Tt.k λ_=>Tt.z) λ_=>Tt.c (λ_=>Tt.b (uj h W) λr d=>Tt.p d) λ_=>Tt.b (s_ h g (Int.le_refl 0) f) λr d=>Tt.p d.2
theorem ql(p:Int):∀(l:AA CE) (s:Int×Int×Bool) (K:Int),(∀y∈l,Dh y.BW)-> -K<=s.1/\s.1<=K->K+1099511627776*(AI l:Int)<=140737488355328->Hz (l.foldl (X_ p) s).1
 |[],s,K,_,h,hK=>by
  grind[Hz]
 |y::l,s,K,hy,h,hK=>by
  rw[XC];rw[XZ]at hK;have hr:=om;have ht:=hy y (X4 ..);unfold Dh at ht;refine ql p l _ (K+1099511627776) gq ?_ om;unfold X_;cases AG (y.AT<=p)with
  |true=>
   simp only[Vo];rw[Dx];omega
  |false=>
   grind
theorem aB{q:Ui}{t:Cj}(h:ZO q t){W:CU}(y:FG t W=AE)(G:0<AI W.BL):Tt (λn=>J8 n q W) (oL q.Bh):=by
 unfold J8;obtain⟨a,b,_,_⟩:=gk h.k.task.arg;have p0:=h.k.p0;have pen:=h.k.pen;refine Tt.b (P:=λu=>Hz u.1) (Tt.e (rM q.Bi q.Aw om) (ql q.Aw q.Bi (0,0,AD) 0 h.pb om om)) λu j=>Tt.b (P:=λb=>b=AD->q.Aw<=W.A7) (Tt.n λz=>Tt.p λ_=>gq) λL F=>Tt.c (λ_=>Qe (Tt.z) λ_=>Tt.p (aS jN)) λz=>?_;have B:=F z;refine Qe (j? h.k y B) λN=>Tt.c (λ_=>Qe (Tt.z) λ_=>Tt.p (aS jN)) λ_=>Tt.b (s_ h y p0 B) λx g=>Qe (Tt.z) λ_=>Tt.b (Tt.i a b) λd E=>?_;have H:=QlM h.k.crs.cE E;have sl:LO {Lo:=q.Ai.BM,Hi:=q.Ai.BM}:=by
  have:=h.sl
  grind[Dh,LO,Hz]
 refine Tt.c gq λQ=>Tt.c (λ_=>Tt.b (uj h W) λf m=>Tt.c (λ_=>Qe (Tt.z) λ_=>Tt.p (jM (ZI g.2 m j g.1))) λ_=>Tt.p (aS (ZI g.2 m j g.1))) λM=>Tt.c (λ_=>Tt.b (QjG h y om G) λf m=>Tt.c (λ_=>Qe (Tt.z) λ_=>Tt.p (jM (ZI g.2 m j g.1))) λ_=>Tt.p (aS (ZI g.2 m j g.1))) λJ=>Tt.c (λ_=>Qe (f:=λn=>W4 n q W) (Tt.z) λ_=>Tt.c (λ_=>Qe (Tt.z) λ_=>Tt.p (jM (ZI g.2 sl j g.1))) λ_=>Tt.p (aS (ZI g.2 sl j g.1))) λO=>?_
 grind
theorem o5(a b c:Int):Tt (λn=>Fb n a b c) λr=>r=AE->b<=a/\a<=c:=by
 unfold Fb;exact Tt.b (P:=λr=>r=AE->b<=a/\a<=c) (Tt.c (λh=>Tt.p gq) λ_=>Tt.p nofun) λv h=>Tt.p h
theorem Qp1(a:Int):Tt (λn=>H_ n a) λr=>r=AE->Dh a:=by
 unfold H_;exact Tt.b (o5 ..) λr h=>Tt.p λq=>h q
theorem QjH(s:AO):Tt (λn=>Ky n s) λr=>r=AE->0<=s.AN/\Dh s.BM:=by
 unfold Ky I7 J2;refine Tt.b (P:=λr=>r=AE->0<=s.AN/\Dh s.BM) (Qe (Qe (Jp ..) λ_=>Tt.z) λr=>Tt.c (λ_=>Tt.b (Rs ..) λr h=>Tt.c (λq=>Qe (Jp ..) λ_=>Tt.c (λ_=>Tt.b (Qp1 _) λr f=>Tt.c (λd=>Tt.w (P:=λ_=>True) ?_ gq) λ_=>Tt.p nofun) λ_=>Tt.p nofun) λ_=>Tt.p nofun) λ_=>Tt.p nofun) λv h=>Tt.p h
 repeat' first|with_reducible exact Tt.p trivial|with_reducible refine Tt.c (λ_=>?_) λ_=>?_|with_reducible refine Qe ?_ λ_=>?_|with_reducible exact Jp ..
theorem QlU(s:Af):Tt (λn=>Kz n s) λr=>r=AE->s.AX=3->Dh s.BO:=by
 unfold Kz IC I7 HV;refine Qe ?_ λd=>Tt.n λ_=>Tt.b (P:=λb=>b=AE->s.AX≠3) (Tt.c (λh=>Tt.p λ_ e=>?_) λ_=>Tt.p λh e=>?_) λb f=>Tt.c (λq=>Tt.w (P:=λ_=>True) ?_ gq) λ_=>Tt.c (λk=>Tt.b (P:=λr=>r=AE->Dh s.BO) ?_ λr h=>Tt.p λq _=>h q) λk=>Tt.w (P:=λ_=>True) ?_ gq
 .repeat' first|with_reducible exact Tt.p trivial|with_reducible refine Tt.c (λ_=>?_) λ_=>?_|with_reducible refine Qe ?_ λ_=>?_|with_reducible exact Jp ..
 .grind
 .grind
 .repeat' first|with_reducible exact Tt.p trivial|with_reducible refine Tt.c (λ_=>?_) λ_=>?_|with_reducible refine Qe ?_ λ_=>?_|with_reducible exact Jp ..
 .refine Qe (Qe (Jp ..) λ_=>Tt.z) λ_=>Tt.c (λ_=>Qe (Qe (Jp ..) λ_=>Tt.z) λ_=>Tt.c (λ_=>Tt.b (o5 ..) λr h=>Tt.p λq=>?_) λ_=>Tt.p nofun) λ_=>Tt.p nofun;have:=h q;unfold Dh;omega
 .repeat' first|with_reducible exact Tt.p trivial|with_reducible refine Tt.c (λ_=>?_) λ_=>?_|with_reducible refine Qe ?_ λ_=>?_|with_reducible exact Jp ..
def Lv(f:CH):Prop:=(f.AX=1->0<=f.AO.AN/\Dh f.AO.BM)/\(f.AX=10->f.Af.AX=3->Dh f.Af.BO)
theorem Lv.k{f:CH}{k:Int}(h:(f.AX==k)=AE)(d:k≠1)(g:k≠10):Lv f:=by
 have:f.AX=k:=by simpa using h
 exact⟨om,om⟩
theorem QjL(f:CH):Tt (λn=>K9 n f) λr=>r=AE->Lv f:=by
 unfold K9 IG IE H_ I7 HV IC J2 J9 J7;have g:(f.AX==1)=AE->f.AX=1:=sq;have d:(f.AX==10)=AE->f.AX=10:=sq;refine Tt.c (λk=>Tt.b (QjH _) λr h=>Tt.p λq=>⟨λ_=>h q,gq⟩) λ_=>?_
 iterate 8 (refine Tt.c (λk=>Tt.w (P:=λ_=>True) ?_ λ_ _ _=>Lv.k k ?_ ?_) λ_=>?_;rotate_left;rotate_left;rotate_left)
 .refine Tt.c (λk=>Tt.b (QlU _) λr h=>Tt.p λq=>⟨gq,λ_=>h q⟩) λ_=>?_
  iterate 3 (refine Tt.c (λk=>Tt.w (P:=λ_=>True) ?_ λ_ _ _=>Lv.k k ?_ ?_) λ_=>?_;rotate_left;rotate_left;rotate_left)
  .exact Tt.p nofun
  all_goals simp_all[Tt.p,Qe,Jp]
 all_goals repeat' first|decide|with_reducible exact Tt.p trivial|with_reducible refine Tt.c (λ_=>?_) λ_=>?_|with_reducible refine Qe ?_ λ_=>?_|with_reducible exact Jp .. |with_reducible exact pq _
theorem QnU(f:CH):Tt (λn=>JZ n f) λr=>r=0->Lv f:=by
 unfold JZ J9 J7;refine Tt.b (P:=λb=>b=AD->Lv f) ?_ λb h=>Tt.n λq=>Tt.p λ_=>h q;refine Qe (Qe (Jp ..) λ_=>Tt.z) λ_=>Tt.n λ_=>?_;refine Qe (Qe (Jp ..) λ_=>Tt.z) λ_=>Tt.n λ_=>?_;refine Qe (Jp ..) λ_=>Tt.n λ_=>?_;exact Tt.b (QjL f) λr h=>Tt.n λq=>Qe (py f) λ_=>Tt.p gq
theorem mX(l:AA CH)(O:AI l<=16):Tt (λn=>Kl n l) λr=>AI r<=16/\ ∀f∈r,Lv f:=by
 unfold Kl;refine Tt.b (QO l (λ(a:AA CH) i=>(a,i)) (λi a=>AI a<=i/\ ∀f∈a,Lv f) om (λi x a d t=>?_) (λa t=>?_) [] _ rfl sq) λr h=>Tt.p h
 .unfold MM;have:=d.lt';simp only[d.lt,Vo,d.ix,XI,d.nx];refine Tt.b (P:=λ(m:AA CH)=>AI m<=i+1/\ ∀f∈m,Lv f) (Tt.b (QnU x) λr G=>Tt.c (λ_=>Tt.p ⟨om,t.2⟩) λq=>?_) λm B=>Tt.p ⟨m,rfl,B⟩;have V:Lv x:=G gq;refine Tt.b (Tt.find a om λj y F=>?_) λb g=>?_
  .exact Qe (Tt.o F.ix trivial) λy=>Qe (Tt.o d.ix trivial) λx=>Qe (th y x) λ_=>Tt.z
  refine Qe (Tt.c (λh=>Qe (Tt.i g.1 (Vu h)).any λ_=>Tt.z) λ_=>Tt.z) λ_=>Tt.c (λ_=>Tt.p ⟨om,t.2⟩) λ_=>?_;refine Tt.b (Tt.sl (Int.le_refl 0) g.1 g.2) λp L=>Tt.b (Tt.a (by simp;omega)) λN E=>?_;subst E;refine Tt.b (Tt.a (by simp;omega)) λQ H=>Tt.b (Tt.sl g.1 g.2 (Int.le_refl _)) λJ T=>?_;subst H;refine Tt.b (Tt.a (by simp;omega)) λM R=>Tt.p ?_
  grind
 .unfold MM;simp only[Jf,Vp];exact Tt.p gq
def ZD(c:CA)(l:AA AO):Prop:=∀s∈l,(0<=s.AN/\s.AN<(AI c.AP:Int))/\Dh s.BM
theorem u9(c:CA)(l:AA CH)(G:AI l<=16){e:Int}(he:Ev (λn=>HU n c) e):Tt (λn=>MV n c l) λr=>AI r.1<=16/\ZD c r.1:=by
 unfold MV;have nil:AI ([]:AA AO)<=16/\ZD c []:=⟨sq,λ_ h=>nomatch h⟩;refine Qe (Tt.e he trivial) λe=>Tt.c (λ_=>Tt.p nil) λ_=>Tt.b (mX l G) λC hC=>?_;refine Tt.b (P:=λ(a:AA AO)=>AI a<=16/\ZD c a) (QO C (λ(a:AA AO) i=>(a,i)) (λi a=>AI a<=i/\ZD c a) om (λi x a d g=>?_) (λa g=>?_) [] _ rfl gq) λa d=>Tt.c (λ_=>Tt.p nil) λ_=>?_
 .unfold TG;have:=d.lt';simp only[d.lt,Vo,d.ix,XI,d.nx];have skip:AI a<=i+1/\ZD c a:=⟨om,g.2⟩;refine Tt.b (P:=λ(m:AA AO)=>AI m<=i+1/\ZD c m) (Tt.b (P:=λb=>b=AD->(0<=x.AO.AN/\x.AO.AN<(AI c.AP:Int))/\Dh x.AO.BM) (Tt.n λM=>Tt.n λL=>Tt.w (P:=λ_=>True) (Qv <| Qe (y? a _ om) λ_=>Tt.z) λ_ _ _=>?_) λb N=>Tt.c (λ_=>Tt.p skip) λq=>?_) λm F=>Tt.p ⟨m,rfl,F⟩
  .have:=Vv L;obtain⟨H,t⟩:=(hC.2 x d.mem).1 gq
   grind
  refine Tt.b (Tt.find a om λj y f=>Qe (Tt.o f.ix trivial) λy=>Tt.z) λj f=>?_;refine h? a x.AO f.1 f.2 om λm H t=>⟨om,λs J=>?_⟩;rcases t s J with h|h
  .grind
  .exact g.2 s h
 .unfold TG;simp only[Jf,Vp];exact Tt.p gq
 refine Tt.b (P:=Fo λ(r:AA AO×Int)=>r.1=[]) (QO a (λ(_:Unit) i=>i) (λ_ _=>True) om (λi x _ hx _=>?_) (λ_ _=>?_) () _ rfl trivial) λr B=>?_
 .unfold TD;have E:=hx.lt';simp only[hx.lt,Vo,hx.nx];refine Tt.b (P:=Fo λ(r:CF Int (CF Unit (AA AO×Int)))=>r=.d (.d ([],180))) (Tt.up i om (λ(_:Unit) i=>i) (λ_ _=>True) (λj _ f hn _=>?_) (λ_ _=>?_) () _ rfl trivial) λr B=>?_
  .unfold Ts;simp only[dT ((j:Int)<(i:Int)),Vo,hn];exact Qe (Tt.i (Int.natCast_nonneg i) om).any λ_=>Qe (Tt.i (Int.natCast_nonneg j) om).any λ_=>Tt.c (λ_=>Tt.p (Q:=F_ _ _ _ _) rfl) λ_=>Tt.p ⟨(),rfl,trivial⟩
  .simp_all[Ts,Tt.p]
  .cases r with
   |k s=>exact Tt.p ⟨(),rfl,trivial⟩
   |d s=>cases B;exact Tt.p (Q:=F_ _ _ _ _) rfl
 .simp_all[TD,Tt.p]
 .cases r with
  |k s=>exact Tt.p d
  |d s=>simp_all[Tt.p]
theorem Tt.ie{α:Type}{l:AA α}{i:Int}(f:0<=i)(d:i<(AI l:Int)):Tt (λ_=>CI l i) (λx=>x∈l/\CI l i=AC x):=by
 obtain⟨x,⟨N,e⟩,h⟩:=Tt.i (l:=l) f d;exact⟨x,⟨N,e⟩,h,e N (XS _)⟩
def jD(l:AA CH)(r:Int):Prop:=r<(AI l:Int)/\(0<=r->∀x,CI l r=AC x->x.AX=10)
theorem u_(l:AA CH)(a b:Int)(f:AI l<=16):Tt (λn=>ID n l a b) (jD l):=by
 unfold ID;refine Tt.b (P:=Fo (jD l)) (QO l (λ(_:Unit) i=>i) (λ_ _=>True) om (λi x _ ha _=>?_) (λ_ _=>?_) () _ rfl trivial) λr d=>?_
 .unfold MJ;have:=ha.lt';simp only[ha.lt,Vo,ha.ix,XI,ha.nx];refine Tt.b (P:=λb=>b=AE->x.AX=10) (Tt.c (λk=>Tt.w (P:=λ_=>True) ?_ gq) λ_=>Tt.p nofun) λb g=>Tt.c (λq=>Tt.p (Q:=F_ _ _ _ _) ?_) λ_=>Tt.p ⟨(),rfl,trivial⟩
  .simp_all[Tt.p,Tt.c]
  .refine⟨om,λ_ y hy=>?_⟩;rw[ha.ix]at hy
   grind
 .simp_all[MJ,Tt.p]
 .cases r with
  |k s=>exact Tt.p ⟨om,om⟩
  |d s=>exact Tt.p d
theorem QnI(l:AA CH)(a:Int)(d:AI l<=16):Tt (λn=>J1 n l a) (jD l):=by
 unfold J1;exact Qe (vA l a d) λ_=>Tt.c (λ_=>Tt.p ⟨om,om⟩) λ_=>Tt.b (u_ l a 2 d) λr h=>Tt.c (λ_=>Tt.p h) λ_=>Tt.b (u_ l a 1 d) λr h=>Tt.p h
theorem Qp4(l:AA CH)(a:Int)(g:AI l<=16):Tt (λn=>O7 n l a) λr=>r.2=AE->r.1.AX=3->Dh r.1.BO:=by
 unfold O7;refine Tt.b (mX l g) λC hC=>Tt.b (QnI C a hC.1) λr f=>Tt.n λq=>?_;have:=Vv q;exact Tt.b (Tt.ie om f.1) λx d=>Tt.p λ_=>(hC.2 x d.1).2 (f.2 om x d.2)
def OT(c:CA):Prop:=∀o∈c.Ab,Dh o.BW
def pT(c:CA)(y:CE):Prop:=OT c->Dh y.BW
theorem QjI(c:CA)(l:AA CH)(a:Int)(f:AI l<=16):Tt (λn=>Pz n c l a) λr=>pT c r.2.1:=by
 unfold Pz;have z:∀{p l o},pT c {AT:=p,BW:=0,As:=l,A':=o}:=λ{_ _ _} _=>by show Dh 0;unfold Dh;omega
 refine Tt.b (Qp4 l a f) λr m=>Tt.b (P:=Fo λ(s:Int×CE×Bool)=>pT c s.2.1) (Tt.c (λq=>Tt.c (λk=>Tt.p (Q:=Fo _) λ_=>m q (by simpa using k)) λ_=>Tt.c (λ_=>Tt.p (Q:=Fo _) z) λ_=>Tt.c (λ_=>Tt.p (Q:=Fo _) z) λ_=>Tt.c (λ_=>Tt.p (Q:=Fo _) z) λ_=>Tt.p (Q:=Fo _) trivial) λ_=>Tt.p (Q:=Fo _) trivial) λb d=>?_;cases b with
 |d s=>exact Tt.p d
 |k s=>
  refine Qe (QnB l a f) λr=>Tt.b (P:=λb=>b=AD->0<=r.1.AZ/\r.1.AZ<(AI c.Ab:Int)) (Tt.n λ_=>Tt.n λh=>Tt.p λq=>?_) λb d=>Tt.c (λ_=>Tt.p z) λq=>?_
  .grind
  .obtain⟨t,j⟩:=d q;exact Tt.b (Tt.i t j) λo g=>Tt.p λx=>x o g
theorem QjQ(c:CA)(l:AA CH)(a:Int)(h:AI l<=16){e:Int}(he:Ev (λn=>HU n c) e):Tt (λn=>Pd n c l a) λr=>AI r.2<=32/\ ∀y∈r.2,pT c y:=by
 unfold Pd;refine Qe (Tt.e he trivial) λe=>Tt.c (λ_=>Tt.p sq) λ_=>Tt.b (ti l h) λR hR=>?_;refine Tt.b (P:=λ(a:AA Int)=>AI a<=16) (QO R (λ(a:AA Int) i=>(a,i)) (λi a=>AI a<=i) om (λi x a d f=>?_) (λa f=>?_) [] _ rfl (XS _)) λK1 h1=>Tt.b (Qqa l h) λA hA=>?_
 .unfold TE;have:=d.lt';simp only[d.lt,Vo,d.ix,XI,d.nx];exact Tt.b (rf a _ om) λm g=>Tt.p ⟨m,rfl,om⟩
 .unfold TE;simp only[Jf,Vp];exact Tt.p ⟨_,rfl,om⟩
 refine Tt.b (P:=λ(a:AA Int)=>AI a<=32) (QO A (λ(a:AA Int) i=>(a,i)) (λi a=>AI a<=16+i) om (λi x a d f=>?_) (λa f=>?_) K1 _ rfl om) λK2 j=>?_
 .unfold T3;have:=d.lt';simp only[d.lt,Vo,d.ix,XI,d.nx];exact Tt.b (rf a _ om) λm g=>Tt.p ⟨m,rfl,om⟩
 .unfold T3;simp only[Jf,Vp];exact Tt.p ⟨_,rfl,om⟩
 refine Tt.b (P:=λ(a:AA Int×AA CE)=>AI a.2<=32/\ ∀y∈a.2,pT c y) (QO K2 (λ(a:AA Int×AA CE) i=>(a.1,a.2,i)) (λi a=>(AI a.1<=i/\AI a.2<=i)/\ ∀y∈a.2,pT c y) om (λi x a d f=>?_) (λa f=>?_) ([],[]) _ rfl sq) λb q=>Tt.p q
 .unfold VO;have:=d.lt';simp only[d.lt,Vo,d.ix,XI,d.nx];obtain⟨⟨t,H⟩,E⟩:=f;refine Tt.b (QjI c l x h) λr G=>Qe (Tt.k λ_=>Tt.z) λb=>?_;refine Tt.b (P:=λ(m:AA Int×AA CE)=>(AI m.1<=i+1/\AI m.2<=i+1)/\ ∀y∈m.2,pT c y) (Tt.c (λ_=>Tt.b (Tt.a (by simp;omega)) λm g=>Tt.b (Tt.a (by simp;omega)) λB j=>Tt.p ⟨⟨by subst g;simp;omega,by subst j;simp;omega⟩,λy F=>?_⟩) λ_=>Tt.p gq) λm g=>Tt.p ⟨m,rfl,g⟩
  grind
 .unfold VO;simp only[Jf,Vp];exact Tt.p gq
theorem QlT(c:CA)(l:AA CE)(M:AI l<=32)(t:∀y∈l,pT c y):Tt (λn=>Oz n l) λr=>AI r<=32/\ ∀y∈r,pT c y:=by
 unfold Oz;refine Tt.b (P:=λ(a:AA CE)=>AI a<=32/\ ∀y∈a,pT c y) (QO l (λ(a:AA CE) i=>(a,i)) (λi a=>AI a<=i/\ ∀y∈a,pT c y) om (λi x a d g=>?_) (λa g=>?_) [] _ rfl sq) λa d=>Tt.p d
 .unfold Tj;have:=d.lt';simp only[d.lt,Vo,d.ix,XI,d.nx];obtain⟨G,N⟩:=g;refine Tt.b (Tt.find a om λj y f=>Qe (Tt.o f.ix trivial) λy=>Qe (Tt.o d.ix trivial) λy=>Tt.z) λj f=>?_;refine Tt.b (Tt.sl f.1 f.2 (Int.le_refl _)) λp B=>Tt.b (Tt.a (by simp;omega)) λH E=>?_;subst E;refine Tt.b (Tt.sl (Int.le_refl 0) f.1 f.2) λL J=>Tt.b (Tt.a (by simp;omega)) λq F=>Tt.p ⟨q,rfl,?_,λy m=>?_⟩
  .grind
  .subst F;simp only[VB,Vz]at m;rcases m with h|h|h
   .grind
   .subst h;exact t _ d.mem
   grind
 .unfold Tj;simp only[Jf,Vp];exact Tt.p gq
theorem Qp3{c:CA}(M:CA.wf c)(R:Ia c)(l:AA CH)(b:Int)(E:AI l<=16)(he:Ev (λn=>HU n c) 0):Tt (λn=>Py n c l b) λr=>AI r<=32/\ ∀y∈r,pT c y:=by
 unfold Py;have nil:AI ([]:AA CE)<=32/\ ∀y∈([]:AA CE),pT c y:=sq;refine Tt.b (u9 c l E he) λS hS=>Tt.c (λ_=>Tt.p nil) λ_=>?_;refine Tt.b (P:=Fo λ(r:AA CE)=>AI r<=32/\ ∀y∈r,pT c y) (QO S.1 (λ(_:Unit) i=>i) (λ_ _=>True) om (λi x _ ha _=>?_) (λ_ _=>?_) () _ rfl trivial) λr j=>?_
 .unfold UR;simp only[ha.lt,Vo,ha.ix,XI,ha.nx];refine Tt.b (P:=Fo λ(r:CF Int (CF Unit (AA CE)))=>match r with|.d (.d p)=>AI p<=32/\ ∀y∈p,pT c y|_=>False) (Qv <| ?_) λr j=>?_
  .refine Tt.b (QjQ c l b E he) λC hC=>Tt.b (QlT c C.2 hC.1 hC.2) λp g=>?_;obtain⟨⟨F,N⟩,_⟩:=hS.2 x ha.mem;refine Qe (QnO M R he _) λ_=>Qe (Tt.i F N).any λd=>Qe (Tt.k λ_=>Tt.z) λroom=>?_
   .refine Tt.b (P:=λ(p:AA CE)=>AI p<=32/\ ∀y∈p,pT c y) (Tt.l (λs:AA CE×Int×Int=>(AI s.1=AI p/\0<=s.2.2/\s.2.2<=(AI p:Int))/\ ∀y∈s.1,pT c y) (λs=>((AI p:Int)-s.2.2).toNat) (λs O=>?_) (p,room,0) gq) λp g=>Tt.p g;obtain⟨X,W,B⟩:=s;obtain⟨⟨J,f,T⟩,t⟩:=O;have G:=g.1;simp only at J f T t;unfold eo;refine Tt.c (λq=>?_) λ_=>Tt.p (Q:=Fe _ _ _ _) gq;have q:=Vu q;simp only at q;have e:i64.wrap (B+1)=B+1:=Dx;refine Qe (Tt.i f q).any λy=>Tt.b (Tt.i f q) λz V=>Tt.b (Tt.set f q) λm H=>Qe (Tt.i f gq).any λw=>Tt.p (Q:=Fe _ _ _ _) ?_;show((_/\_/\_)/\_)/\_;simp only[e];refine⟨⟨gq,λv L=>?_⟩,om⟩;rcases H.2 v L with h|h
    .subst h;exact t z V
    grind
  .cases r with
   |k s=>exact Tt.p ⟨(),rfl,trivial⟩
   |d s=>
    cases s with
    |k i=>grind
    |d s=>
     cases s with
     |k u=>grind
     |d p=>exact Tt.p (Q:=F_ _ _ _ _) j
 .simp_all[UR,Tt.p]
 .cases r with
  |k s=>exact Tt.p nil
  |d s=>exact Tt.p j
def ir(c:CA)(r:vL):Prop:=r.2.2.2.2.2.2.2.2.2.2.2.2.2=AE->
 LG c/\FR {AR:=r.1,BP:=r.2.1}/\AI r.2.2.2.2.2.2.2.2.2.2.1<=4/\AI r.2.2.2.2.2.2.2.2.2.2.2.1<=6/\(AI r.2.2.2.2.2.2.2.2.2.2.2.2.1<=32/\ ∀y∈r.2.2.2.2.2.2.2.2.2.2.2.2.1,pT c y)/\Dh r.2.2.2.2.2.1
theorem QnH(c:CA)(j:CA.wf c)(l:AA CH)(b:Int):Tt (λn=>Pt n c l b) (ir c):=by
 unfold Pt;obtain⟨bf,M,G⟩:=rI c j;have AF:∀{z},ir c ([],[],0,0,0,0,0,0,0,0,[],[],z,AD):=λh=>absurd h sq;refine Tt.b (P:=λb=>b=AD->LG c/\AI l<=16) (Tt.b (P:=λb=>b=AE->HK c/\Ev (λn=>G8 n c) (CM c)) (Tt.e M G) λb q=>Tt.n λV=>Tt.n λO=>?_) λb q=>Tt.c (λ_=>Tt.p AF) λE=>?_
 .obtain⟨fo,L⟩:=q gq;obtain⟨v,ev,N⟩:=QjP c j;refine Tt.b (P:=λe=>e=v) (Tt.e ev rfl) λe X=>Tt.n λW=>?_;have y:v=0:=gq;have R:=N y;have:=Vv O;exact Qe (Qp2 j R 10) λ_=>Tt.p λ_=>⟨⟨j,fo,L,y▸ev,R⟩,om⟩
 obtain⟨h,g⟩:=q E;refine Tt.b (Qqc c l g h.ref) λA hA=>Tt.b (u9 c l g h.ref) λS hS=>Qe (Tt.k λ_=>Tt.z) λ_=>Tt.c (λ_=>Tt.p AF) λ_=>?_;refine Tt.b (P:=Fo (ir c)) (QO S.1 (λ(_:Unit) i=>i) (λ_ _=>True) om (λi x _ d _=>?_) (λ_ _=>?_) () _ rfl trivial) λr t=>?_
 .unfold VS;simp only[d.lt,Vo,d.ix,XI,d.nx];refine Tt.b (P:=Fo λ(r:CF Int (CF Unit vL))=>match r with|.d (.d p)=>ir c p|_=>False) (Qv <| ?_) λr t=>?_
  .refine Tt.b (b? c l x.BB g h.ref) λH hH=>Tt.b (Qp3 h.wf h.rr l _ g h.ref) λP hP=>Tt.b (mX l g) λC hC=>?_;have sx:=(hS.2 x d.mem).2;have F:=hP.1;refine Tt.b (P:=λ(a:AA Ac)=>True) (QO C (λ(a:AA Ac) i=>(a,i)) (λi a=>AI a<=i) om (λi x a d J=>?_) (λa J=>?_) [] _ rfl (XS _)) λD _=>Qe (Qr0 P om) λe=>Tt.b (Qp5 h hA x e H D) λf Y=>Tt.p ?_
   .unfold U1;have:=d.lt';simp only[d.lt,Vo,d.ix,XI,d.nx];exact Qe (Tt.k λ_=>Tt.z) λ_=>Tt.b (P:=λ(m:AA Ac)=>AI m<=i+1) (Tt.c (λ_=>Tt.b (Tt.a (by simp;omega)) λm B=>Tt.p gq) λ_=>Tt.p om) λm B=>Tt.p ⟨m,rfl,B⟩
   .simp_all[U1,Tt.p]
   .intro T
    grind
  .cases r with
   |k s=>exact Tt.p ⟨(),rfl,trivial⟩
   |d s=>
    cases s with
    |k i=>grind
    |d s=>
     cases s with
     |k u=>grind
     |d p=>exact Tt.p (Q:=F_ _ _ _ _) t
 .simp_all[VS,Tt.p]
 .cases r with
  |k s=>exact Tt.p AF
  |d s=>exact Tt.p t
set_option maxRecDepth 10000
theorem u?:Wz 300=AC true:=by kernel_rfl
theorem Ev.near{α:Type}{f g:Nat->AB α}{v:α}(h:Ev f v)(e:∃N,∀n,N<=n->g n=f n):Ev g v:=by
 obtain⟨N,j⟩:=h;obtain⟨M,d⟩:=e;exact⟨max N M,λn m=>gq⟩
def SA(a:Int)(x:CE):Int:=i64.wrap (a+x.As)
def Fk(P:AA CE):Int:=P.foldl SA 0
theorem QqY(P:AA CE)(d:AI P<=1000):Ev (λn=>Ig n P) (Fk P):=by
 unfold Ig;refine Ea (Q9 P (λa x=>SA a x) 0 (λa i=>(a,(i:Int))) (λa=>a) om rfl (λi x a ha _=>?_) ?_) (Qa _)
 .unfold MD;simp only[ha.lt,Vo,ha.ix,XI,ha.nx];exact Qa _
 simp_all[MD,Qa]
def C9(c:CA)(k:CD)(s:AO)(x:AA CL)(l:AA Ac)(P:AA CE)(p:Int):Ui:={A3:=c,Bh:=k,Ai:=s,Bu:=x,Bp:=l,Bi:=P,BV:=Fk P,Aw:=p}
theorem qK(c:CA)(k:CD)(s:AO)(x:AA CL)(l:AA Ac)(P:AA CE)(p:Int)(d:AI P<=1000):Ev (λn=>Mp n c k s x l P p) (C9 c k s x l P p):=by
 unfold Mp;refine Ea (Q9 P (λa y=>SA a y) 0 (λa i=>({C9 c k s x l P p with BV:=a},(i:Int))) (λa=>{C9 c k s x l P p with BV:=a}) om rfl (λi y a ha _=>?_) ?_) (Qa _)
 .unfold UL;simp only[ha.lt,Vo,ha.ix,XI,ha.nx];exact Qa _
 simp_all[UL,Qa]
def Iw(R:AA Int×Int)(p:Int):AB Int:=bif (R.2 != 0)||(AG (p< -1)||AG ((AI R.1:Int)<=p))then AF else AC (bif p== -1 then(AI R.1:Int)-1 else p)
theorem Qj4{q:Ui}(h:LH q.A3):Ev (λn=>IH n q) (match Iw (CX q.A3 q.Ai.AN q.BV) q.Aw with|none=>(q,90)|some p=>({q with Aw:=p},0)):=by
 unfold IH Iw;have f:=mE h.good h.ty q.Ai.AN q.BV;have d:(CX q.A3 q.Ai.AN q.BV).2=0->(CX q.A3 q.Ai.AN q.BV).1.length<=256:=λz=>(mq h.good z).2;generalize CX q.A3 q.Ai.AN q.BV=R at f d;refine Ea f (Ea (QR λ_=>QR λ_=>Qa _) ?_);cases j:((R.2 != 0)||(AG (q.Aw< -1)||AG ((AI R.1:Int)<=q.Aw)))with
 |true=>exact Qa _
 |false=>
  simp only[XW]at j;have g:R.2=0:=gq;have:=d g;refine QW ?_;rw[QI (n:=(AI R.1:Int)-1) om om];cases(q.Aw== -1)with
  |true=>exact Qa _
  |false=>exact Qa _
theorem dh{c:CA}{k:CD}{s:AO}{x:AA CL}{l:AA Ac}{P:AA CE}{p:Int}{pv:AB Int}(h:Ev (λn=>IH n (C9 c k s x l P p)) (match pv with|none=>(C9 c k s x l P p,90)|some p'=>({C9 c k s x l P p with Aw:=p'},0)))(hP:AI P<=100){V:AA CU×Int}(g:Ev (λn=>HW n c k s (Fk P) x l) V){o:AA CB×Int}
  (d:Ev (λn=>(bif (bif V.2 != 0 then V.2 != 2 else AD)then AC ([],V.2)else(match(generalizing:=false) pv with
   |none=>AC ([],90)
   |some p'=>bif V.2==2 then(K5 n {C9 c k s x l P p with Aw:=p'}).bind λr=>AC (r,0)else(iter (Ku n V ({C9 c k s x l P p with Aw:=p'},0)) n ([],0):AB (AA CB)).bind λL=>(Ih n L).bind λr=>AC (r,0)):AB (AA CB×Int))) o):
  Ev (λn=>KB n c k s x l P p) o:=by
 unfold KB;refine Ea (qK c k s x l P p om) (Ea g (Ea (v:=bif V.2 != 0 then V.2 != 2 else AD) (JD (λ_=>Qa _) λ_=>Qa _) ?_));cases f:(bif V.2 != 0 then V.2 != 2 else AD)with
 |true=>rw[f]at d;exact d
 |false=>
  rw[f]at d;refine QW (Ea h ?_);cases pv with
  |none=>exact d
  |some p'=>exact d
theorem QqQ{q:Ui}(f:Ev (λn=>G8 n q.A3) (CM q.A3))(h:CM q.A3≠0):Ev (λn=>IH n q) (q,90):=by
 unfold IH Ij II J5;have d:(CM q.A3 != 0)=true:=bne_iff_ne.2 h;refine Ea (v:=([],CM q.A3)) (Ea (v:=(CM q.A3,[])) (Ea (v:=CT.c0 (CM q.A3)) (Ea (v:=(Uu,CM q.A3)) (Ea f (KT d (Qa _))) (KT d (Qa _))) (Qa _)) (KT d (Qa _))) (Ea (v:=AE) (KT d (Qa _)) (Qa _))
theorem Qo3{c:CA}(h:LG c)(hE:CM c≠0){k:CD}(j:FR k)(s:AO)(e:Int)(x:AA CL)(t:AI x<=4)(l:AA Ac)(m:AI l<=6):Ev (λn=>HW n c k s e x l) ([],CM c):=by
 unfold HW;have f:(CM c != 0)=true:=bne_iff_ne.2 hE;have g:Ds c k s e x l=.inl (CM c):=by unfold Ds;rw[f];rfl
 have d:=dq h.ty (λq=>absurd q hE) j s e x om l om;rw[g]at d;exact Ea d (KT f (Qa _))
theorem QlP(q:Ui)(hP:AI q.Bi<=100):Tt (λn=>K5 n q) λ_=>True:=by
 unfold K5;exact Qe (Tt.e (rM _ _ om) trivial) λ_=>Tt.c (λ_=>Qe (Tt.z) λ_=>Tt.z) λ_=>Qe (Tt.z) λ_=>Tt.z
theorem _O{R:AA Int×Int}{p d:Int}(h:Iw R p=AC d)(f:2<=AI R.1):0<=d/\d=(bif p== -1 then(AI R.1:Int)-1 else p):=by
 unfold Iw at h
 grind
set_option maxRecDepth 10000
theorem sM{a b:CB}(h:near a b=AE):a.A_=b.A_:=by
 simp_all[near]
theorem o8(a b:CB):(a.Hi<=(HZ a b).Hi/\b.Hi<=(HZ a b).Hi)/\((HZ a b).Hi=a.Hi\/(HZ a b).Hi=b.Hi):=by
 unfold HZ
 grind
theorem eD:∀(r:AA CB) (a:CB),(a::r).Pairwise ZA->∀x∈a::r,∃y∈DH a r,y.A_=x.A_/\y.Lo<=x.Lo/\x.Hi<=y.Hi
 |[],a,_,x,hx=>⟨a,X4 ..,gq⟩
 |b::r,a,h,x,hx=>by
  unfold DH;have h2:=Xc.1 h;cases hn:near a b with
  |true=>
   rw[Vo];have sg:=sM hn;have ab:=h2.1 b (X4 ..);have up:(HZ a b::r).Pairwise ZA:=Xc.2 ⟨λz hz=>h2.1 z gq,gq⟩;obtain⟨hu1,hu2⟩:=(o8 a b).1;rcases X6.1 hx with q|q
   .subst q;obtain⟨y,m,e1,e2,e3⟩:=eD r (HZ x b) up _ (X4 ..);exact⟨y,m,e1,e2,om⟩
   rcases X6.1 q with q|q
   .subst q;obtain⟨y,m,e1,e2,e3⟩:=eD r (HZ a x) up _ (X4 ..);have e1:y.A_=a.A_:=e1;have e2:y.Lo<=a.Lo:=e2;refine⟨y,m,e1.trans sg,?_,om⟩;rcases ab with z|z<;>omega
   .exact eD r (HZ a b) up x gq
  |false=>
   rw[Vp];rcases X6.1 hx with q|q
   .grind
   .obtain⟨y,m,e⟩:=eD r b h2.2 x q
    grind
theorem mz:∀(r:AA CB) (a:CB),∀y∈DH a r,(∃x∈a::r,x.A_=y.A_/\x.Lo=y.Lo)/\(∃x∈a::r,x.A_=y.A_/\x.Hi=y.Hi)
 |[],a,y,hy=>by
  rw[Vz.1 hy];simp
 |b::r,a,y,hy=>by
  unfold DH at hy;cases hn:near a b with
  |true=>
   rw[hn,Vo]at hy;have sg:=sM hn;obtain⟨⟨x,m,e1,e2⟩,z,m2,f1,f2⟩:=mz r (HZ a b) y hy;constructor
   .rcases X6.1 m with q|q
    .subst q;exact⟨a,X4 ..,e1,e2⟩
    grind
   .rcases X6.1 m2 with q|q
    .subst q;have f1:a.A_=y.A_:=f1;rcases(o8 a b).2 with t|t
     iterate 2 grind
    grind
  |false=>
   rw[hn,Vp]at hy;rcases X6.1 hy with q|q
   .grind
   .obtain⟨⟨x,m,e⟩,z,m2,f⟩:=mz r b y q
    grind
def Ls(c:CD)(x:CB):Bool:=AG (-1<=x.A_)&&(AG (x.A_<(AI c.AR:Int))&&(AG (-288230376151711744<=x.Lo)&&(AG (x.Lo<=x.Hi)&&AG (x.Hi<=288230376151711744))))
def KX(c:CD)(x:CB):Bool:=bif x.A' then x==({A':=AE,A_:=(-1),Lo:=0,Hi:=0:CB})else Ls c x
theorem Qjf(c:CD)(w:FR c)(h:Fm c=AE)(x:CB):Ev (λn=>KC n c x) (bif KX c x then 0 else 230):=by
 unfold KC;refine Ea (kr c w) ?_;rw[h];refine QW (Ea (v:=Ls c x) (Eh λ_=>Eh λ_=>Eh λ_=>Eh λ_=>Qa _) ?_);refine Ea (v:=KX c x) ?_ ?_
 .simp_all[KX,Kn,JD,Qa]
 .cases KX c x<;>exact Qa _
def IZ(x y:CB):Bool:=(x.A'&&y.A')||(!x.A'&&(!y.A'&&((x.A_==y.A_)&&(AG (y.Lo<=x.Lo)&&AG (x.Hi<=y.Hi)))))
section
variable {k:CD} {L:AA CB} (h:∀o∈L,oW k o)
include h
theorem v?{x:CB}(d:x∈L)(f:x.A'=AD):x∈DW L:=by
 refine(Q4 _ _).mem_iff.2 (Xd.2 ⟨d,?_⟩);have:=((h x d).2 f).2.2
 simp_all[Fd]
theorem Qnq:∀x∈L,∃y∈C1 L,IZ x y=true:=λx hx=>by
 unfold C1;cases ho:x.A' with
 |true=>
  refine⟨R3,VB.2 (.inl ?_),?_⟩
  .grind[DI]
  .unfold IZ;rw[ho];rfl
 |false=>
  have m:=v? h hx ho;cases e:DW L with
  |nil=>grind
  |cons a r=>
   obtain⟨y,m2,e1,e2,e3⟩:=eD r a (e▸p9 L) x (e▸m);refine⟨y,VB.2 (.inr m2),?_⟩;have yo:=(LX (Zo L y (by rw[e];exact m2))).1
   grind[IZ]
theorem tA:∀y∈C1 L,(∃x∈L,x.A'=y.A'/\x.A_=y.A_/\x.Lo=y.Lo)/\(∃x∈L,x.A'=y.A'/\x.A_=y.A_/\x.Hi=y.Hi):=λy hy=>by
 unfold C1 at hy;rcases VB.1 hy with q|q
 .unfold DI at q;cases hb:L.any (·.A')with
  |false=>grind
  |true=>
   rw[hb]at q;cases Vz.1 q;obtain⟨x,m,o⟩:=Xt.1 hb;cases(h x m).1 o
   grind
 .have yo:=(LX (Zo L y q)).1;have xo:∀x∈DW L,x∈L/\x.A'=false:=λx hx=>⟨(Xd.1 ((Q4 _ _).mem_iff.1 hx)).1,(LX (p_ L x hx)).1⟩;cases e:DW L with
  |nil=>rw[e]at q;cases q
  |cons a r=>
   rw[e]at q xo;obtain⟨⟨x,m,e1,e2⟩,z,m2,f1,f2⟩:=mz r a y q
   grind
theorem QpU:∀y∈C1 L,KX k y=true:=λy hy=>by
 obtain⟨⟨x,m,e1,e2,e3⟩,z,m2,f1,f2,f3⟩:=tA h y hy;unfold KX;cases yo:y.A' with
 |true=>
  unfold C1 at hy;rcases VB.1 hy with q|q
  .unfold DI at q;cases hb:L.any (·.A')with
   |false=>grind
   |true=>
    rw[hb]at q;cases Vz.1 q;rfl
  grind[LX,Zo]
 |false=>
  obtain⟨⟨j,g1,g2⟩,⟨g3,_⟩,_⟩:=(h x m).2 (e1.trans yo);obtain⟨_,⟨_,g5⟩,_⟩:=(h z m2).2 (f1.trans yo);have lh:y.Lo<=y.Hi:=by
   unfold C1 at hy;rcases VB.1 hy with q|q
   .unfold DI at q;cases hb:L.any (·.A')with
    |false=>grind
    |true=>
     rw[hb]at q;cases Vz.1 q;cases yo
   .exact(LX (Zo L y q)).2
  unfold Ls;simp only[Vp,XV,Vq];omega
end
theorem rC{α:Type}(p:α->Bool):∀(l:AA α) (b:Bool),l.foldl (λb y=>b||p y) b=(b||l.any p)
 |[],b=>sq
 |x::l,b=>by rw[XC,rC p l,List.any_cons,Bool.or_assoc]
theorem QmD(a b:AA CB)(f:AI a<=1000)(g:AI b<=1000)(h:∀x∈a,∃y∈b,IZ x y=AE):Ev (λn=>Ps n a b) true:=by
 unfold Ps;refine Ea (v:=CF.k ()) ((mv a (λx=>b.any (IZ x)) (CF.d AD) (CF.k ()) om (λi x d=>?_) ?_).eq ?_) (Qa _)
 .unfold V0;simp only[d.lt,Vo,d.nx];refine Ea (Q9 b (λs y=>s||IZ x y) AD (λs j=>(s,(j:Int))) (λs=>s) om rfl (λj y s hy _=>?_) ?_) ?_
  .unfold TR;simp only[hy.lt,Vo,hy.ix,d.ix,XI,hy.nx];refine(Qa _).near ⟨0,λn _=>?_⟩;unfold IZ;cases s<;>cases x.A'<;>cases y.A'<;>cases(x.A_==y.A_)<;>cases AG (y.Lo<=x.Lo)<;>rfl
  .simp_all[TR,Qa]
  .rw[rC,Bool.false_or];cases b.any (IZ x)<;>exact Qa _
 .simp_all[V0,Qa]
 grind
end Go.Sw
