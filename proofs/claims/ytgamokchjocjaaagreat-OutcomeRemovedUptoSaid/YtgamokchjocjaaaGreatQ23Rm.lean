/- The plain laws that a law needs, with no program in sight. -/
import Derived.Test.YtgamokchjocjaaaGreatW23Rm
set_option linter.unusedVariables false
set_option linter.unusedSimpArgs false
namespace Go.Sw
open Option renaming some→AC,none→AF
open Bool renaming false→AD,true→AE
open Decidable renaming decide→AG
open List renaming length→AI
open Go renaming Value→AL
open List(map)
open Int(toNat)
open Go.IntKind(i64 u64 u8)
def DI(lo hi x:Int):Bool:=AG (lo<=x)&&AG (x<=hi)
theorem rZ(lo hi:Int)(l:AA Int)(d:AI l<=4611686018427387904):Ev (λn=>FG n lo hi l) (l.all (DI lo hi)):=by
 have h:Ev (λn=>V' n l lo hi) (l.any λx=> !DI lo hi x):=by
  refine Ev.contains l _ (λn x=>WR n x lo hi) d λx _=>?_;refine Ea ((QN λh=>Qb _).eq ?_) (Qb _);unfold DI
  grind
 refine Ea h ((Qb _).eq ?_)
 grind
def ic(c:Nat):Bool:=(AG (97<=c)&&AG (c<=122))||(AG (48<=c)&&AG (c<=57))||AG (c=95)
def Rd(c:Nat):Bool:=AG (97<=c)&&AG (c<=122)
def MZ(c:UInt8):Bool:=ic c.toNat
def Wj(c:UInt8):Bool:=Rd c.toNat
def fO:AA (AA UInt8):=[[99,111,117,114,115,101],[109,97,116,115],[115,116,97,114,116],[112,97,115,115],[101,110,100],[108,101,103],[116,111],[100,105,115,116,97,110,99,101],[103,117,110],[99,104,105,112],[115,108,111,116],[108,97,112,115],[108,97,112],[99,117,116,111,102,102],[101,120,116,114,97],[119,97,118,101],[111,102,102,101,110,99,101],[111,117,116],[99,97,116,101,103,111,114,121],[112,114,105,122,101],[97,108,108],[116,105,101,115],[105,102],[101,108,115,101],[97,110,100],[111,114],[110,111,116],[111,108,100,101,114],[121,111,117,110,103,101,114],[98,105,98],[100,114,97,119],[102,105,101,108,100],[115,104,111,114,116],[102,97,117,108,116,115],[109,105,115,115,101,115],[115,116,114,97,121,115],[119,105,110,100,111,119],[114,101,115,105,100,117,97,108],[100,114,105,102,116],[112,114,111,116,101,115,116],[102,101,101],[100,101,97,100,108,105,110,101]]
def JV:AA UInt8->AA (AA UInt8)
 |[]=>[]
 |b::l=>(bif b==32&& !(l.dropWhile λc=>c != 32).isEmpty then[l.takeWhile λc=>c != 32]else[])++JV l
theorem tO:∀(l s:AA UInt8),(∀c∈s,c≠32)->(s++[32]).isPrefixOf l=((l.takeWhile λc=>c != 32)==s&& !(l.dropWhile λc=>c != 32).isEmpty)
 |[],s,h=>by simp
 |b::l,[],h=>by
  by_cases e:b=32
  .subst e;simp
  .have e1:=by simpa using e
   have d:(32==b)=false:=by grind
   simp[List.isPrefixOf,e1,d]
 |b::l,c::s,h=>by
  have g:=h c (by simp);have f:=tO l s (by grind)
  grind[List.takeWhile_cons,List.dropWhile_cons]
theorem Qgc(b:UInt8)(l t:AA UInt8)(d:t≠[]):Lib.contains (b::l) t=(t.isPrefixOf (b::l)||Lib.contains l t):=by
 unfold Lib.contains;rw[show Lib.index (b::l) t=if t.isPrefixOf (b::l)then 0 else if Lib.index l t== -1 then-1 else Lib.index l t+1 from rfl]
 grind
theorem tX(s:AA UInt8)(h:∀c∈s,c≠32):∀l,Lib.contains l (32::(s++[32]))=(JV l).contains s
 |[]=>by rfl
 |b::l=>by
  rw[Qgc b l _ (by simp),tX s h l];simp only[JV,List.isPrefixOf,tO l s h]
  grind
def IY:AA UInt8:=[32,99,111,117,114,115,101,32,109,97,116,115,32,115,116,97,114,116,32,112,97,115,115,32,101,110,100,32,108,101,103,32,116,111,32,100,105,115,116,97,110,99,101,32,103,117,110,32,99,104,105,112,32,115,108,111,116,32,108,97,112,115,32,108,97,112,32,99,117,116,111,102,102,32,101,120,116,114,97,32,119,97,118,101,32,111,102,102,101,110,99,101,32,111,117,116,32,99,97,116,101,103,111,114,121,32,112,114,105,122,101,32,97,108,108,32,116,105,101,115,32,105,102,32,101,108,115,101,32,97,110,100,32,111,114,32,110,111,116,32,111,108,100,101,114,32,121,111,117,110,103,101,114,32,98,105,98,32,100,114,97,119,32,102,105,101,108,100,32,115,104,111,114,116,32,102,97,117,108,116,115,32,109,105,115,115,101,115,32,115,116,114,97,121,115,32,119,105,110,100,111,119,32,114,101,115,105,100,117,97,108,32,100,114,105,102,116,32,112,114,111,116,101,115,116,32,102,101,101,32,100,101,97,100,108,105,110,101,32]
theorem zb:JV IY=fO:=by decide+kernel
def Dm:AA Int:=(List.range 256).map λi=>if 97<=i/\i<=122\/65<=i/\i<=90 then 2 else if 48<=i/\i<=57 then 3 else if i∈[123,125,40,41,91,93,59,44,61,60,62]then 4 else if i∈[32,9,10,13]then 1 else 0
theorem QjO:Ev PP Dm:=by
 unfold PP;refine Ea (gk (step:=La 0) 40 (b:=(iter (La 0) 40 (List.replicate 256 0,97)).getD []) (by decide+kernel)) ?_;refine Ea (gk (step:=Nb 0) 40 (b:=(iter (Nb 0) 40 ((iter (La 0) 40 (List.replicate 256 0,97)).getD [],48)).getD []) (by decide+kernel)) ?_;generalize hb:(iter (Nb 0) 40 ((iter (La 0) 40 (List.replicate 256 0,97)).getD [],48)).getD []=b2;refine Ea (gk (step:=Sz 0) 40 (b:=(iter (Sz 0) 40 (b2,0)).getD []) (by subst hb;decide+kernel)) ?_;refine Ea (gk (step:=d7 0) 40 (b:=Dm) (by subst hb;decide+kernel)) ?_;exact EB (by decide+kernel)
theorem Qml:((List.range 256).all λi=> !ic i||AG (Dm[i]?=AC (if Rd i then 2 else if i=95 then 0 else 3)))=true:=by decide+kernel
theorem Qow{c:UInt8}(h:MZ c=AE):LN 256 Dm (c.toNat:Int)=AC (if Wj c then 2 else if c.toNat=95 then 0 else 3):=by
 have d:=Xs.1 Qml c.toNat (List.mem_range.2 c.toNat_lt);unfold MZ at h;rw[h]at d;simp[Xg,Bool.false_or,Vr]at d;unfold LN;rw[show Nat.beq (AI Dm) 256=AE by decide+kernel,Vp,QB d];rfl
def Ds(s:AA UInt8):Bool:=AG (1<=AI s)&&AG (AI s<=24)&&(s.head?).any Wj&&s.all MZ
def Dc(s:AA UInt8):Bool:=Ds s&& !fO.contains s
theorem Ql7(s:AA UInt8)(h:Ds s=AE):Ev (λn=>Ow n s) true:=by
 unfold Ds at h;simp only[XW,Vr,Xs]at h;obtain⟨⟨⟨f,q⟩,m⟩,g⟩:=h;unfold Ow;refine Ea QjO ?_;refine YB (v:=List.replicate 256 0) (by decide+kernel) ?_;refine YB (v:=Dm) (by decide+kernel) ?_;refine Ea (v:=CG.k ()) (Ev.iter (λi=>(i:Int)) (AI s) rfl (λi k=>?_) ?_) ?_
 .have d:=Y3 (x:=s[i]) (by omega) (XK k);have j:=g _ d.mem;unfold Ss;simp only[d.lt,Vp,d.ix,XJ,Qow j,d.nx];cases i with
  |zero=>
   have:Wj s[0]=true:=by
    cases s with
    |nil=>simp at f
    |cons c r=>grind
   simp[this];exact Qb _
  |succ i=>
   grind[Qb]
 .simp_all[Ss,Qb]
 .refine EB ?_;cases s with
  |nil=>simp at f
  |cons c r=>rfl
theorem Ql1{s:AA UInt8}(h:Ds s=AE):∀c∈s,c≠32:=by
 unfold Ds at h;simp[XW,Xs]at h;rintro c d rfl;exact absurd (h.2 _ d) (by decide)
theorem QnU{s:AA UInt8}(h:Ds s=AE):AI s<=24:=by
 simp_all[Ds]
theorem QjP(s:AA UInt8)(h:Ds s=AE):Ev (λn=>WD n s) (fO.contains s):=by
 refine Ea (Ea (Ql7 s h) (P6 ?_)) (Qb _);have d:=QnU h;refine YB (by unfold cat;rw[XS (by simp;omega)];rfl) (YB (by unfold cat;rw[XS (by simp;omega)];rfl) ?_);refine YB ?_ (Qb _);show c6 IY ([32]++s++[32])=AC (fO.contains s);unfold c6;rw[show Nat.blt (AI IY) 4294967281=AE by decide+kernel,Vp]
 grind[tX,Ql1,zb]
theorem cA(c:UInt8)(k:Nat):AG ((c.toNat:Int)<(k:Int))=AG (c.toNat<k):=by
 simp
theorem cI(c:UInt8):(bif (c.toNat:Int)<97 then(bif (c.toNat:Int)<48 then AC ((c.toNat:Int) != 95)else(bif 57<(c.toNat:Int) then AC ((c.toNat:Int) != 95)else AC AD))else(bif 122<(c.toNat:Int) then(bif (c.toNat:Int)<48 then AC ((c.toNat:Int) != 95)else(bif 57<(c.toNat:Int) then AC ((c.toNat:Int) != 95)else AC AD))else AC AD))=AC (!MZ c):=by
 unfold MZ ic;generalize c.toNat=k;have e:((k:Int) != 95)= !decide (k=95):=by
  grind
 grind
theorem QlR(n:Nat)(s:AA UInt8):(bif (AI s:Int)<1 then AC AE else(bif 24<(AI s:Int) then AC AE else(CJ s 0).bind λx10=>(bif (x10.toNat:Int)<97 then AC AE else(CJ s 0).bind λx12=>AC (AG (122<(x12.toNat:Int))))))=AC (!(AG (1<=AI s)&&AG (AI s<=24)&&(s.head?).any Wj)):=by
 cases s with
 |nil=>rfl
 |cons c r=>
  by_cases h:AI (c::r)<=24
  .rw[Yp (show¬24<(AI (c::r):Int)by omega),Vq];have j:CJ (c::r) 0=AC c:=rfl;simp[j,XJ];simp[X0]at h;have f:AI r<=23:=by omega
   simp[List.head?_cons,Option.any_some,Wj,Rd];rw[show(97:Int)=(97:Nat)from rfl,cA];by_cases g:c.toNat<97
   .grind
   .have d:97<=c.toNat:=by omega
    simp[g,d,f];by_cases q:c.toNat<=122
    iterate 2 grind
  grind
theorem rU(s:AA UInt8)(j:AI s<=1048576):Ev (λn=>F9 n s) (Dc s):=by
 refine Ea (EB (QlR 0 s)) ?_;unfold Dc;cases g:(AG (1<=AI s)&&AG (AI s<=24)&&(s.head?).any Wj)with
 |false=>
  have:Ds s=false:=by unfold Ds;rw[g];rfl
  rw[this];exact Qb _
 |true=>
  have h:Ds s=s.all MZ:=by unfold Ds;rw[g];rfl
  refine Ea (iB s (λc=> !MZ c) (λi=>(i:Int)) (CG.d AD) (CG.k ()) (by omega) rfl (λi x d f=>?_) (λi x d f=>?_) ?_) ?_
  .unfold Nq;simp only[d.lt,d.ix,XJ,cI,f,d.nx];exact Qb _
  .unfold Nq;simp only[d.lt,d.ix,XJ,cI,f];exact Qb _
  .simp_all[Nq,Qb]
  .rw[h];have e:s.any (λc=> !MZ c)= !s.all MZ:=by grind
   rw[e];cases q:s.all MZ with
   |true=>
    exact Ea (QjP s (h.trans q)) (Qb _)
   |false=>
    exact Qb _
def DY:AA (AA UInt8)->AA (AA UInt8)->Bool
 |_,[]=>AE
 |seen,x::r=>Dc x&& !seen.contains x&&DY (seen++[x]) r
theorem QjT(l:AA (AA UInt8))(i:Nat)(x:AA UInt8)(h:At l i x):DY (l.take i) (l.drop i)=(Dc x&& !(l.take i).contains x&&DY (l.take (i+1)) (l.drop (i+1))):=by
 rw[h.drop,h.take];rfl
theorem dF{α:Type}(l:AA α)(d:α->AA UInt8)(g:Nat->α->AB Unit)(hg:∀n x,g n x=AC ())(y:AI l<=1048576)(t:∀x∈l,AI (d x)<=1048576):
  Ev (λn=>((iter (λs:(AA (AA UInt8×Bool))×Int=>bif s.2<(AI l:Int) then(CJ l s.2).bind λx35=>(g n x35).bind λr36=>((F9 n (d x35)).bind λr42=>(bif (!r42)then AC AE else(AC (Qo s.1 (d x35) AD)).bind λv44=>AC v44):AB Bool).bind λb40=>(bif b40 then AC (.d (.d AD))else(AC (QJ s.1 (d x35) AE)).bind λm46=>AC (.k (m46,i64.wrap (s.2+1))))else AC (.d (.k ()))) n ([],0):AB (CG Unit Bool)).bind λb28=>
   match b28 with
   |.k _=>AC AE
   |.d s=>AC s:AB Bool)) (DY [] (l.map d)):=by
 have j:AI l<=4611686018427387904:=by omega
 have k:AI (l.map d)<=4611686018427387904:=by grind
 have m:=tD (B:=CG Unit Bool) l (step:=λn s=>bif s.2<(AI l:Int) then(CJ l s.2).bind λx35=>(g n x35).bind λr36=>((F9 n (d x35)).bind λr42=>(bif (!r42)then AC AE else(AC (Qo s.1 (d x35) AD)).bind λv44=>AC v44)).bind λb40=>(bif b40 then AC (.d (.d AD))else(AC (QJ s.1 (d x35) AE)).bind λm46=>AC (.k (m46,i64.wrap (s.2+1))))else AC (.d (.k ())))
  (λi=>(YD d AE (l.take i),i)) (λi=>bif DY ((l.map d).take i) ((l.map d).drop i)then .k ()else .d AD) j rfl (λi x h=>?_) ?_
 .refine Ea m ?_
  grind[Qb]
 .have ha2:=Y3 k (by rw[Xo,h.get];rfl);simp only[QjT _ _ _ ha2];have f:Ev (λn=>(F9 n (d x)).bind λr42=>(bif (!r42)then AC AE else(AC (Qo (YD d AE (l.take i)) (d x) AD)).bind λv44=>AC v44)) (!(Dc (d x)&& !((l.map d).take i).contains (d x))):=by
   refine Ea (rU (d x) (t x h.mem)) ?_;cases Dc (d x)with
   |false=>exact Qb _
   |true=>
    simp_all[Qb,su]
  cases q:(Dc (d x)&& !((l.map d).take i).contains (d x))with
  |true=>
   rw[q]at f;refine .inl ⟨?_,by simp⟩;simp only[h.lt,h.ix,XJ,hg];refine Ea f ?_;simp[h.nx];rw[h.take,Qhf];exact Qb _
  |false=>
   rw[q]at f;refine .inr ?_;simp only[h.lt,h.ix,XJ,hg];refine Ea f ?_;exact Qb _
 .simp[Y9];rw[show(l.map d).drop (AI l)=[]by simp];exact Qb _
theorem gG{α:Type}{l:AA α}{x:α}(h:AI l<=140737488):app l [x]=AC (l++[x]):=kS l x (by omega)
theorem rT{α β:Type}(l:AA α)(f:α->β)(k:AI l<=140737488):Ev (λn=>iter (λs:(AA β)×Int=>bif s.2<(AI l:Int) then(CJ l s.2).bind λx15=>(app s.1 [f x15]).bind λl16=>AC (CG.k (l16,i64.wrap (s.2+1)))else AC (CG.d s.1)) n (([]:AA β),(0:Int))) (l.map f):=by
 have e:∀l:AA α,l.foldl (λa x=>a++[f x]) []=l.map f:=by
  intro l;have h:∀(l:AA α) (a:AA β),l.foldl (λa x=>a++[f x]) a=a++l.map f:=by
   intro l
   induction l with
   |nil=>simp
   |cons x l j=>grind
  grind
 rw[<- e l];refine YL l (λa x=>a++[f x]) [] (λa i=>(a,(i:Int))) (λa=>a) (by omega) rfl (λi x a g d=>?_) ?_
 .rw[e]at d;have:AI a<=140737488:=by grind
  simp only[g.lt,g.ix,gG this,g.nx];exact Qb _
 .simp[Y9];exact Qb _
def HW(c:CB):Bool:=Dc c.Ap&&(DY [] (c.Au.map (·.Ap))&&(DY [] (c.AO.map (·.Ap))&&(DY [] (c.A0.map (·.Ap))&&(DY [] (c.Ab.map (·.Ap))&&DY [] (c.AV.map (·.Ap))))))
structure C0 (c:CB):Prop where
 name:AI c.Ap<=1048576
 mats:AI c.Au<=1048576
 matsN:∀x∈c.Au,AI x.Ap<=1048576
 legs:AI c.Az<=1048576
 dist:AI c.AO<=1048576
 distN:∀x∈c.AO,AI x.Ap<=1048576
 cut:∀x∈c.AO,AI x.Ar<=1048576
 wave:AI c.A0<=1048576
 waveN:∀x∈c.A0,AI x.Ap<=1048576
 off:AI c.Ab<=1048576
 offN:∀x∈c.Ab,AI x.Ap<=1048576
 cat:AI c.AV<=1048576
 catN:∀x∈c.AV,AI x.Ap<=1048576
 prize:AI c.Ay<=1048576
theorem Qn9(c:CB)(w:C0 c):Ev (λn=>V8 n c) (HW c):=by
 refine Ea (Ea (rU c.Ap w.name) (Ei λ_=>?_)) (Qb _);have h:Ev (λn=>WV n c.Au) (DY [] (c.Au.map (·.Ap))):=by exact dF c.Au (·.Ap) WQ (λ_ _=>rfl) w.mats w.matsN
 have g:Ev (λn=>UZ n c.AO) (DY [] (c.AO.map (·.Ap))):=by exact dF c.AO (·.Ap) WT (λ_ _=>rfl) w.dist w.distN
 have f:Ev (λn=>U' n c.A0) (DY [] (c.A0.map (·.Ap))):=by exact dF c.A0 (·.Ap) U4 (λ_ _=>rfl) w.wave w.waveN
 have d:Ev (λn=>VU n c.Ab) (DY [] (c.Ab.map (·.Ap))):=by exact dF c.Ab (·.Ap) WM (λ_ _=>rfl) w.off w.offN
 have j:Ev (λn=>WU n c.AV) (DY [] (c.AV.map (·.Ap))):=by exact dF c.AV (·.Ap) U_ (λ_ _=>rfl) w.cat w.catN
 refine Ea h (Ei λ_=>(Ea g (Ei λ_=>?_)));refine Ea f (Ei λ_=>?_);exact Ea d (Ei (by grind))
theorem ZH{n:Nat}(h:n<=1048576):i64.wrap ((n:Int)-1)=(n:Int)-1:=Qt (by omega) (by omega)
theorem ns(x lo hi:Int):Ev (λn=>Fz n x lo hi) (DI lo hi x):=by
 exact Ea (Ei λ_=>Qb _) (Qb _)
theorem _F(c:CB)(w:C0 c)(x:Int):Ev (λn=>Fv n c x) (DI 0 ((AI c.Au:Int)-1) x):=by
 unfold Fv;rw[ZH w.mats];exact Ea (ns _ _ _) (Qb _)
mutual
def RX:CH->Nat
 |⟨_,_,ps⟩=>1+Ce ps
def Ce:AA CH->Nat
 |[]=>0
 |p::r=>RX p+Ce r
end
theorem YQ(p:CH):RX p=1+Ce p.Ac:=by cases p;rfl
theorem Y4{p:CH}:∀{l:AA CH},p∈l->RX p<=Ce l
 |q::r,h=>by
  simp[Ce];rcases X7.1 h with rfl|h
  .omega
  .have:=Y4 h;omega
mutual
def Fj(k:Int):CH->Bool
 |⟨m,laps,ps⟩=>bif laps==0 then DI 0 k m&&((AI ps:Int)==0)else DI 1 64 laps&&((m==0)&&(AG (0<(AI ps:Int))&&Cv k ps))
def Cv(k:Int):AA CH->Bool
 |[]=>AE
 |p::r=>Fj k p&&Cv k r
end
theorem ZF(k:Int)(p:CH):Fj k p=bif p.As==0 then DI 0 k p.Am&&((AI p.Ac:Int)==0)else DI 1 64 p.As&&((p.Am==0)&&(AG (0<(AI p.Ac:Int))&&Cv k p.Ac)):=by cases p;rfl
theorem Jz(k:Int):∀l:AA CH,Cv k l=l.all (Fj k)
 |[]=>rfl
 |p::r=>by simp[Cv,List.all_cons,Jz k r]
theorem Yk{p:CH}(h:CH.wf p):AI p.Ac<=1048576/\ ∀x∈p.Ac,CH.wf x:=by
 cases p
 grind[CH.wf,tI]
theorem QS(lo hi x:Int):Ev (λn=>FG n lo hi [x]) (DI lo hi x):=(rZ lo hi [x] (by simp)).eq (by simp)
theorem di(lo hi x y:Int):Ev (λn=>FG n lo hi [x,y]) (DI lo hi x&&DI lo hi y):=(rZ lo hi [x,y] (by simp)).eq (by simp)
theorem Qn8(k:Int):∀(m:Nat) (l:AA CH),Ce l<=m->AI l<=1048576->(∀x∈l,CH.wf x)->Ev (λn=>Kh n l k) (Cv k l):=by
 intro m
 induction m with
 |zero=>
  intro l d j g;cases l with
  |nil=>
   refine Jb ?_;exact Jo [] (Fj k) (λn x=>Og (Kh n) n x k) (by simp) (by simp)
  |cons p r=>
   simp only[Ce,YQ]at d;omega
 |succ m t=>
  intro l d j g;refine Jb ?_;rw[Jz];refine Jo l (Fj k) (λn x=>Og (Kh n) n x k) (by omega) λp f=>?_;rw[ZF];have h:=Y4 f;rw[YQ]at h;obtain⟨y,q⟩:=Yk (g p f);refine JN (λ_=>?_) (λ_=>?_)
  .exact Ea (Ea (QS _ _ _) (Ei λ_=>Qb _)) (Qb _)
  .exact Ea (Ea (QS _ _ _) (Ei λ_=>Ei λ_=>Ei (by grind))) (Qb _)
theorem Ql6(c:CB)(w:C0 c):∀(m:Nat) (l:AA CH),Ce l<=m->AI l<=1048576->(∀x∈l,CH.wf x)->Ev (λn=>Sk n c l) (Cv ((AI c.Au:Int)-1) l):=by
 intro m
 induction m with
 |zero=>
  intro l g B h;cases l with
  |nil=>
   refine Jb ?_;show Ev (λn=>iG (Sk n) n c []) _;exact⟨1,λn E=>by obtain⟨k,rfl⟩:∃k,n=k+1:=⟨n-1,by omega⟩;rfl⟩
  |cons p r=>
   simp only[Ce,YQ]at g;omega
 |succ m y=>
  intro l g B h;refine Jb ?_;show Ev (λn=>iG (Sk n) n c l) _;rw[Jz];have step:∀(i:Nat) (x:CH),At l i x->Ev (λn=>Ng n c l (Sk n) i) (bif Fj (AI c.Au-1) x then .k (i+1)else .d (.d AD)):=by
   intro i x d;unfold Ng;simp only[d.lt,d.ix,XJ,d.nx];have z:=Y4 d.mem;rw[YQ]at z;obtain⟨q,t⟩:=Yk (h x d.mem);refine Ea (Ei λ_=>Ea (_F c w _) (Ei λ_=>Qb _)) (Ea (Ea (ns _ _ _) (Ei λ_=>Ei λ_=>Ei λ_=>Ea (y x.Ac (by omega) q t) (Qb _))) ?_);rw[ZF];cases j:(x.As==0)with
   |true=>
    have e0:=by simpa using j
    have:DI 1 64 x.As=false:=by rw[e0];rfl
    grind[Qb]
   |false=>
    generalize(DI 1 64 x.As&&((x.Am==0)&&(AG (0<(AI x.Ac:Int))&&Cv (AI c.Au-1) x.Ac)))=b;cases b<;>exact Qb _
  refine Ea (iB l (λx=> !Fj (AI c.Au-1) x) (λi=>(i:Int)) (CG.d AD) (CG.k ()) (by omega) rfl (λi x d f=>?_) (λi x d f=>?_) ?_) ?_
  .refine(step i x d).eq ?_;have:=by simpa using f
   rw[this];rfl
  .refine(step i x d).eq ?_;have:=by simpa using f
   rw[this];rfl
  .unfold Ng;simp[Y9];exact Qb _
  grind[Qb]
def aF(k:Int)(l:Co):Bool:=(DI 0 k l.A'&&DI 0 k l.To)&&((DI 0 68719476736 l.Bp&&DI 0 68719476736 l.Bq)&&AG (l.Bp<=l.Bq))
def bX(k:Int)(x:CO):Bool:=DI 0 k x.Am&&(AG (1<=x.B9)&&DI 0 1099511627776 x.Bu)
def ID(k:Int)(d:AN):Bool:=DI 1 3 d.BH&&(DI (-1) k d.Ak&&(Cv k d.Ad&&d.Ar.all (bX k)))
def Re(o:AZ):Bool:=bif o.BQ then(o.Bb==0)&&(o.As==0)else bif o.As != 0 then(o.Bb==0)&&DI 1 64 o.As else DI 0 68719476736 o.Bb
def cB(x:AW):Bool:=(DI 0 120 x.A'&&DI 0 120 x.To)&&AG (x.A'<=x.To)
def LD(c:CB)(p:CS):Bool:=DI 0 ((AI c.AO:Int)-1) p.AN&&(DI (-1) ((AI c.AV:Int)-1) p.AW&&(DI 1 4000 p.Bz&&DI 1 1125899906842624 p.BP))
def LH(c:CB):Bool:=(DI 0 16 c.AQ.A8&&DI 0 16 c.AQ.A7)&&((DI 0 4294967296 c.AQ.A6&&DI 0 4294967296 c.AQ.Al)&&(DI 0 100000 c.AQ.BG&&(DI 0 1125899906842624 c.Bk&&DI 0 1099511627776 c.Aw)))
def DC(l:Co):Ul:={BW:=l.A',to_:=l.To}
def F2(p:CS):Up:={B0:=p.AN,B3:=p.AW,CA:=p.Bz}
def C5(c:CB):Bool:=
 let k:=(AI c.Au:Int)-1
 c.Au.all (λm=>DI 1 3 m.AY)&&(c.Az.all (aF k)&&(AG ((c.Az.map DC).Nodup)&&(c.AO.all (ID k)&&(c.A0.all (λw=>DI 0 1099511627776 w.B_)&&(c.Ab.all Re&&(c.AV.all cB&&(c.Ay.all (LD c)&&(AG ((c.Ay.map F2).Nodup)&&LH c))))))))
structure D4 (c:CB):Prop where
 len:∀d∈c.AO,AI d.Ad<=1048576
 wf:∀d∈c.AO,∀x∈d.Ad,CH.wf x
theorem Qhx(l:AA Co)(f:AI l<=1048576):Ev (λn=>VT n l) (AG ((l.map DC).Nodup)):=by
 refine Ea (mC l DC AE (by omega) (λi x m d=>?_) (λm=>?_)) ((Qb _).eq ?_)
 .unfold T_ WH;simp only[d.lt,d.ix,d.nx];exact Qb _
 .simp_all[T_,Qb]
 .rw[XY];simp[Vy,Vr]
  grind[td]
theorem QfH(l:AA CS)(f:AI l<=1048576):Ev (λn=>V2 n l) (AG ((l.map F2).Nodup)):=by
 refine Ea (mC l F2 AE (by omega) (λi x m d=>?_) (λm=>?_)) ((Qb _).eq ?_)
 .unfold T5 UY;simp only[d.lt,d.ix,d.nx];exact Qb _
 .simp_all[T5,Qb]
 .rw[XY];simp[Vy,Vr]
  grind[td]
theorem QjJ(c:CB)(w:C0 c)(q:D4 c):Ev (λn=>OM n c) (C5 c):=by
 unfold OM C5;rw[ZH w.mats];refine Ea (v:=_) ?_ (Qb _);have B:Ev (λn=>OI n c.Au) (c.Au.all λm=>DI 1 3 m.AY):=by
  unfold OI VW VX;refine Jo c.Au _ (λn x=>OZ n x) (by have:=w.mats;omega) λx d=>?_;unfold OZ;exact Ea (QS _ _ _) (Qb _)
 have h:Ev (λn=>PB n c.Az ((AI c.Au:Int)-1)) (c.Az.all (aF ((AI c.Au:Int)-1))):=by
  unfold PB VP V6;refine Jo c.Az _ (λn x=>Oo n x _) (by have:=w.legs;omega) λx d=>?_;unfold Oo;exact Ea (Ea (di _ _ _ _) (Ei λ_=>Ea (di _ _ _ _) (Ei λ_=>Qb _))) (Qb _)
 have g:Ev (λn=>O' n c.AO ((AI c.Au:Int)-1)) (c.AO.all (ID ((AI c.Au:Int)-1))):=by
  unfold O' WW WI;refine Jo c.AO _ (λn x=>Oh n x _) (by have:=w.dist;omega) λx d=>?_;unfold Oh;have j:Ev (λn=>N5 n x.Ar ((AI c.Au:Int)-1)) (x.Ar.all (bX ((AI c.Au:Int)-1))):=by
   unfold N5 U3 WY;refine Jo x.Ar _ (λn x=>O0 n x _) (by have:=w.cut x d;omega) λy E=>?_;unfold O0;exact Ea (Ea (QS _ _ _) (Ei λ_=>Ei λ_=>Ea (QS _ _ _) (Qb _))) (Qb _)
  exact Ea (Ea (QS _ _ _) (Ei λ_=>Ea (QS _ _ _) (Ei λ_=>Ea (Qn8 _ _ x.Ad (XT _) (q.len x d) (q.wf x d)) (Ei λ_=>Ea j (Qb _))))) (Qb _)
 have f:Ev (λn=>PH n c.A0) (c.A0.all λw=>DI 0 1099511627776 w.B_):=by
  unfold PH V7 VN;refine Jo c.A0 _ (λn x=>OP n x) (by have:=w.wave;omega) λx d=>?_;unfold OP;exact Ea (QS _ _ _) (Qb _)
 have z:Ev (λn=>OB n c.Ab) (c.Ab.all Re):=by
  unfold OB V0 VV;refine Jo c.Ab _ (λn x=>PE n x) (by have:=w.off;omega) λx d=>?_;unfold PE Re;refine JN (λ_=>Ea (Ei λ_=>Qb _) (Qb _)) λ_=>JN (λ_=>Ea (Ei λ_=>Ea (QS _ _ _) (Qb _)) (Qb _)) λ_=>Ea (QS _ _ _) (Qb _)
 have k:Ev (λn=>Ot n c.AV) (c.AV.all cB):=by
  unfold Ot U9 WJ;refine Jo c.AV _ (λn x=>OY n x) (by have:=w.cat;omega) λx d=>?_;unfold OY;exact Ea (Ea (di _ _ _ _) (Ei λ_=>Qb _)) (Qb _)
 have t:Ev (λn=>OD n c.Ay c) (c.Ay.all (LD c)):=by
  unfold OD VO WB;refine Jo c.Ay _ (λn x=>O8 n x c) (by have:=w.prize;omega) λx d=>?_;unfold O8;rw[ZH w.dist,ZH w.cat];exact Ea (Ea (QS _ _ _) (Ei λ_=>Ea (QS _ _ _) (Ei λ_=>Ea (QS _ _ _) (Ei λ_=>Ea (QS _ _ _) (Qb _))))) (Qb _)
 refine Ea B (Ei λ_=>Ea h (Ei λ_=>Ea (Qhx _ w.legs) (Ei λ_=>Ea g (Ei λ_=>Ea f (Ei λ_=>Ea z (Ei λ_=>Ea k (Ei λ_=>Ea t (Ei λ_=>Ea (QfH _ w.prize) (Ei λ_=>?_)))))))));exact Ea (di _ _ _ _) (Ei λ_=>Ea (di _ _ _ _) (Ei λ_=>Ea (QS _ _ _) (Ei λ_=>Ea (QS _ _ _) (Ei λ_=>Ea (QS _ _ _) (Qb _)))))
theorem NE{a b a' b':Int}:(({BW:=a,to_:=b}:Ul)={BW:=a',to_:=b'})↔a=a'/\b=b':=by simp
theorem rk{α B:Type}{step:Nat->Int->AB (CG Int B)}(l:AA α)(ok:α->Bool)(d b:B)(j:AI l<=4611686018427387904)
  (k:∀i x,At l i x->Ev (λn=>step n (i:Int)) (bif ok x then .k ((i+1:Nat):Int)else .d d))(h:Ev (λn=>step n (AI l:Int)) (.d b)):
  Ev (λn=>Go.Sw.iter (step n) n 0) (bif l.all ok then b else d):=by
 have e:(bif l.all ok then b else d)=bif l.any (λx=> !ok x)then d else b:=by
  grind
 rw[e];refine iB l (λx=> !ok x) (λi=>(i:Int)) d b j rfl (λi x f g=>?_) (λi x f g=>?_) h
 .grind
 grind
mutual
def cN:AR->Nat
 |⟨_,_,_,ps⟩=>1+IQ ps
def IQ:AA AR->Nat
 |[]=>0
 |c::r=>cN c+IQ r
end
theorem NQ(c:AR):cN c=1+IQ c.Ac:=by cases c;rfl
mutual
def cD:Nat->AR->Bool
 |d,⟨_,_,_,ps⟩=>Ma d ps
def Ma:Nat->AA AR->Bool
 |_,[]=>AE
 |d,c::r=>AG (d<=16)&&(cD (d+1) c&&Ma d r)
end
theorem jc(d:Nat)(c:AR):cD d c=Ma d c.Ac:=by cases c;rfl
def Cr(c:AR):Bool:=(c.AY==0)&&((c.Bw==0)&&((c.N==0)&&((AI c.Ac:Int)==0)))
mutual
def Kr:AX->Nat
 |⟨_,_,_,t,e⟩=>1+HI t+HI e
def HI:AA AX->Nat
 |[]=>0
 |s::r=>Kr s+HI r
end
theorem Wz(s:AX):Kr s=1+HI s.BX+HI s.Be:=by cases s;rfl
mutual
def sC:AX->Nat
 |⟨_,_,c,t,e⟩=>(bif Cr c then 0 else cN c)+HJ t+HJ e
def HJ:AA AX->Nat
 |[]=>0
 |s::r=>sC s+HJ r
end
theorem Wy(s:AX):sC s=(bif Cr s.AR then 0 else cN s.AR)+HJ s.BX+HJ s.Be:=by cases s;rfl
mutual
def LB:Nat->AX->Bool
 |d,⟨_,_,c,t,e⟩=>(Cr c||cD 1 c)&&(H7 d t&&H7 d e)
def H7:Nat->AA AX->Bool
 |_,[]=>AE
 |d,s::r=>AG (d<=16)&&(LB (d+1) s&&H7 d r)
end
theorem ff(d:Nat)(s:AX):LB d s=((Cr s.AR||cD 1 s.AR)&&(H7 d s.BX&&H7 d s.Be)):=by cases s;rfl
mutual
def sZ:AX->Nat
 |⟨_,_,c,t,e⟩=>2+cN c+Ko t+Ko e
def Ko:AA AX->Nat
 |[]=>0
 |s::r=>sZ s+Ko r
end
theorem cY(s:AX):sZ s=2+cN s.AR+Ko s.BX+Ko s.Be:=by cases s;rfl
def fS:Um->Nat
 |.ctyping_step x=>Kr x.AX
 |.ctyping_cond _=>0
def fC:Um->Nat
 |.ctyping_step x=>sC x.AX
 |.ctyping_cond x=>cN x.AR
def fD(d:Nat):Um->Bool
 |.ctyping_step x=>LB d x.AX
 |.ctyping_cond x=>cD d x.AR
def fZ:Um->Nat
 |.ctyping_step x=>sZ x.AX
 |.ctyping_cond x=>cN x.AR
def Fq(l:AA Um):Nat:=(l.map fS).sum
def Fr(l:AA Um):Nat:=(l.map fC).sum
def G6(l:AA Um):Nat:=(l.map fZ).sum
def aX:Um->Prop
 |.ctyping_step x=>AX.wf x.AX
 |.ctyping_cond x=>AR.wf x.AR
def DF(s:AX):Um:=.ctyping_step {AX:=s}
def Cq(c:AR):Um:=.ctyping_cond {AR:=c}
theorem ZE:∀l:AA AX,Fq (l.map DF)=HI l
 |[]=>rfl
 |s::r=>by
  have:=ZE r;simp[Fq,Vk,List.sum_cons]at this⊢;rw[this];rfl
theorem ZD:∀l:AA AX,Fr (l.map DF)=HJ l
 |[]=>rfl
 |s::r=>by
  have:=ZD r;simp[Fr,Vk,List.sum_cons]at this⊢;rw[this];rfl
theorem dG:∀l:AA AX,G6 (l.map DF)=Ko l
 |[]=>rfl
 |s::r=>by
  have:=dG r;simp[G6,Vk,List.sum_cons]at this⊢;rw[this];rfl
theorem kf:∀l:AA AR,Fq (l.map Cq)=0
 |[]=>rfl
 |s::r=>by
  have:=kf r;simp only[Fq,Vk,List.sum_cons]at this⊢;rw[this];rfl
theorem lG:∀l:AA AR,Fr (l.map Cq)=IQ l
 |[]=>rfl
 |s::r=>by
  have:=lG r;simp[Fr,Vk,List.sum_cons]at this⊢;rw[this];rfl
theorem kg:∀l:AA AR,G6 (l.map Cq)=IQ l
 |[]=>rfl
 |s::r=>by
  have:=kg r;simp[G6,Vk,List.sum_cons]at this⊢;rw[this];rfl
theorem gh(d:Nat):∀l:AA AX,H7 d l=((l.map DF).isEmpty||(AG (d<=16)&&(l.map DF).all (fD (d+1))))
 |[]=>rfl
 |s::r=>by
  rw[H7,gh d r];simp[Vk,List.all_cons];rw[show fD (d+1) (DF s)=LB (d+1) s from rfl]
  grind
theorem qH(d:Nat):∀l:AA AR,Ma d l=((l.map Cq).isEmpty||(AG (d<=16)&&(l.map Cq).all (fD (d+1))))
 |[]=>rfl
 |s::r=>by
  rw[Ma,qH d r];simp[Vk,List.all_cons];rw[show fD (d+1) (Cq s)=cD (d+1) s from rfl]
  grind
theorem Y8{c:AR}(h:AR.wf c):AI c.Ac<=1048576/\ ∀x∈c.Ac,AR.wf x:=by
 cases c
 grind[AR.wf,tB]
theorem Y7{s:AX}(h:AX.wf s):AR.wf s.AR/\(AI s.BX<=1048576/\ ∀x∈s.BX,AX.wf x)/\(AI s.Be<=1048576/\ ∀x∈s.Be,AX.wf x):=by
 cases s
 grind[AX.wf,tL]
theorem rV(n:Nat)(c:AR):KX n {AR:=c}=AC (Cr c):=by
 unfold KX Cr
 grind
theorem sK(n:Nat)(c:AR):Lu n c=AC (Cr c):=by
 unfold Lu Cr
 grind
theorem lF(l:AA AX)(d:AI l<=140737488):Ev (λn=>MM n l) (l.map DF):=by
 exact Ea (rT l DF d) (Qb _)
theorem Qoh(l:AA AR)(d:AI l<=140737488):Ev (λn=>V1 n l) (l.map Cq):=by
 exact Ea (rT l Cq d) (Qb _)
def CZ(s:AX):AA Um:=s.BX.map DF++s.Be.map DF
theorem mF(s:AX)(h:AX.wf s):Ev (λn=>Ke n {AX:=s}) (CZ s):=by
 obtain⟨_,⟨d,_⟩,⟨f,_⟩⟩:=Y7 h;refine Ea (lF s.BX (by omega)) (Ea (lF s.Be (by omega)) (YB (ZB _ _ (by simp;omega)) (Qb _)))
theorem tN(c:AR)(h:AR.wf c):Ev (λn=>I' n {AR:=c}) (c.Ac.map Cq):=by
 obtain⟨d,_⟩:=Y8 h;exact Ea (Qoh c.Ac (by omega)) (Qb _)
def H9(l:AA Um)(d:Nat)(st co:Int):Bool:=l.isEmpty||(AG (d<=16)&&(l.all (fD (d+1))&&(AG (st+Fq l<=64)&&AG (co+Fr l<=256))))
def Po(l:AA Um)(d:Nat)(st co:Int):Bool:=l.isEmpty||(l.all (fD (d+1))&&(AG (st+Fq l<=64)&&AG (co+Fr l<=256)))
def Pp(f:Um)(d:Nat)(st co:Int):Bool:=fD (d+1) f&&(AG (st+fS f<=64)&&AG (co+fC f<=256))
theorem qI(f:Um)(l:AA Um):Fq (f::l)=fS f+Fq l:=rfl
theorem qG(f:Um)(l:AA Um):Fr (f::l)=fC f+Fr l:=rfl
theorem qJ(f:Um)(l:AA Um):G6 (f::l)=fZ f+G6 l:=rfl
theorem rm(l m:AA Um):Fq (l++m)=Fq l+Fq m:=by simp[Fq]
theorem sQ(l m:AA Um):Fr (l++m)=Fr l+Fr m:=by simp[Fr]
theorem rn(l m:AA Um):G6 (l++m)=G6 l+G6 m:=by simp[G6]
theorem QnD(f:Um)(r:AA Um)(d:Nat)(j h:Int):Po (f::r) d j h=(Pp f d j h&&Po r d (j+fS f) (h+fC f)):=by
 unfold Po Pp;rw[qI,qG];cases r with
 |nil=>simp[Fq,Fr]
 |cons g r=>
  grind
theorem kI(l:AA Um)(d:Nat)(h g:Int)(j:h<=64)(k:g<=256):H9 l d h g=AE↔(l.isEmpty||(AG (d<=16)&&l.all (fD (d+1))))=AE/\h+Fq l<=64/\g+Fr l<=256:=by
 unfold H9;cases l with
 |nil=>simp[Fq,Fr,j,k]
 |cons f r=>
  grind
theorem Qe0(s:AX)(d:Nat):((CZ s).isEmpty||(AG (d<=16)&&(CZ s).all (fD (d+1))))=(H7 d s.BX&&H7 d s.Be):=by
 rw[gh,gh];unfold CZ;rw[List.all_append];cases f:s.BX<;>cases g:s.Be<;>simp<;>(grind)
def m6(R:Nat->AA Um->Int->Uk->AB (Uk×Bool))(l:AA Um)(d:Nat)(st co:Int):Prop:=
 ∃c':Uk,Ev (λn=>R n l (d:Int) {BE:=st,BF:=co}) (c',H9 l d st co)/\(H9 l d st co=AE->c'={BE:=st+Fq l,BF:=co+Fr l})
theorem QjU{R:Nat->AA Um->Int->Uk->AB (Uk×Bool)}{l:AA Um}{d:Nat}(hd:d<=16){i:Nat}{f:Um}(V:At l i f)(hw:aX f)
  (ih:∀l' d' j k,G6 l'<fZ f->AI l'<=2097152->(∀f∈l',aX f)->d'<=17->0<=j->j<=66->(j<=65\/ ∀f∈l',∃c,f=Cq c)->0<=k->k<=256->m6 R l' d' j k){j k:Int}(h0:0<=j)(ab:j<=66)(J:j<=65\/ ∃c,f=Cq c)(h2:0<=k)(h3:k<=256):
  ∃c':Uk,Ev (λn=>Li n l (d:Int) (R n) ({BE:=j,BF:=k},(i:Int))) (bif Pp f d j k then .k (c',((i+1:Nat):Int))else .d (.d (c',AD)))/\(Pp f d j k=AE->c'={BE:=j+fS f,BF:=k+fC f}):=by
 unfold Li;simp only[V.lt,Vp,V.ix,XJ,V.nx];have ed:i64.wrap ((d:Int)+1)=((d+1:Nat):Int):=YS (by omega);cases f with
 |ctyping_step x=>
  obtain⟨s⟩:=x;have h1:j<=65:=by
   rcases J with h|⟨c,h⟩
   .exact h
   .cases h
  have q:AX.wf s:=hw;obtain⟨wc,⟨ae,aa⟩,⟨ac,Y⟩⟩:=Y7 q;have X:i64.wrap (j+1)=j+1:=Qt (by omega) (by omega);simp only[Um.elim,rV,XJ,X];have hc:∃F:Uk,Ev (λn=>((bif (!Cr s.AR)then(R n [Um.ctyping_cond {AR:=s.AR}] 0 {BE:=j+1,BF:=k}).bind λt=>AC (t.1,(!t.2))else AC ({BE:=j+1,BF:=k},AD)):AB (Uk×Bool))) (F, !(Cr s.AR||(cD 1 s.AR&&(AG (j+1<=64)&&AG (k+cN s.AR<=256)))))/\
    ((Cr s.AR||(cD 1 s.AR&&(AG (j+1<=64)&&AG (k+cN s.AR<=256))))=AE->F={BE:=j+1,BF:=k+((bif Cr s.AR then 0 else cN s.AR:Nat):Int)}):=by
   cases M:Cr s.AR with
   |true=>
    simp_all[Qb]
   |false=>
    obtain⟨F,z,G⟩:=ih [Cq s.AR] 0 (j+1) k (by simp only[G6,Vk,Vl,List.sum_cons,List.sum_nil];show cN s.AR+0<sZ s;rw[cY];omega) (by simp) (by intro g m;simp only[VA]at m;subst m;exact wc) (by omega) (by omega) (by omega) (.inr (by intro g m;simp only[VA]at m;exact⟨_,m⟩)) h2 h3;have ek:H9 [Cq s.AR] 0 (j+1) k=(cD 1 s.AR&&(AG (j+1<=64)&&AG (k+cN s.AR<=256))):=by
     unfold H9;simp only[List.isEmpty_cons,Bool.false_or,List.all_cons,List.all_nil,Bool.and_true,Fq,Fr,Vk,Vl,List.sum_cons,List.sum_nil];rw[show fD (0+1) (Cq s.AR)=cD 1 s.AR from rfl,show fS (Cq s.AR)=0 from rfl,show fC (Cq s.AR)=cN s.AR from rfl];simp
    rw[ek]at z G;refine⟨F,Ea z (Qb _),λh=>?_⟩;rw[G h];simp[Fq,Fr,show fS (Cq s.AR)=0 from rfl,show fC (Cq s.AR)=cN s.AR from rfl]
  obtain⟨F,z,G⟩:=hc;generalize hb:(Cr s.AR||(cD 1 s.AR&&(AG (j+1<=64)&&AG (k+cN s.AR<=256))))=b at z G;have hF:Pp (Um.ctyping_step {AX:=s}) d j k=(LB (d+1) s&&(AG (j+Kr s<=64)&&AG (k+sC s<=256))):=rfl;rw[hF];cases b with
  |false=>
   have:(LB (d+1) s&&(AG (j+Kr s<=64)&&AG (k+sC s<=256)))=false:=by
    rw[VM];intro hh;simp only[XW,Vr,ff,Wz,Wy]at hh;obtain⟨⟨z1,_⟩,z2,z3⟩:=hh;cases M:Cr s.AR with
    |true=>rw[M]at hb;cases hb
    |false=>
     rw[M]at hb z1 z3;simp only[Bool.false_or]at hb z1;rw[z1]at hb;simp only[Vq]at z3;rw[Yj (show j+1<=64 by omega),Yj (show k+(cN s.AR:Int)<=256 by omega)]at hb;cases hb
   rw[this];exact⟨F,Ea z (Qb _),λh=>by cases h⟩
  |true=>
   obtain rfl:=G rfl;by_cases B:64<j+1
   .have:(LB (d+1) s&&(AG (j+Kr s<=64)&&AG (k+sC s<=256)))=false:=by
     rw[Yp (show¬j+(Kr s:Int)<=64 by rw[Wz];omega)];simp
    rw[this];refine⟨{BE:=j+1,BF:=k+((bif Cr s.AR then 0 else cN s.AR:Nat):Int)},Ea z ?_,λh=>by cases h⟩;simp only[Xg,Vq];refine Ea (v:=(_,AE)) ?_ (Qb _);rw[Yj B];exact Qb _
   by_cases N:256<k+((bif Cr s.AR then 0 else cN s.AR:Nat):Int)
   .have:(LB (d+1) s&&(AG (j+Kr s<=64)&&AG (k+sC s<=256)))=false:=by
     rw[Yp (show¬k+(sC s:Int)<=256 by rw[Wy];omega)];simp
    rw[this];refine⟨{BE:=j+1,BF:=k+((bif Cr s.AR then 0 else cN s.AR:Nat):Int)},Ea z ?_,λh=>by cases h⟩;simp only[Xg,Vq];refine Ea (v:=(_,AE)) ?_ (Qb _);rw[Yp B,Yj N];exact Qb _
   obtain⟨H,L,P⟩:=ih (CZ s) (d+1) (j+1) (k+((bif Cr s.AR then 0 else cN s.AR:Nat):Int)) (by
     unfold CZ;rw[rn,dG,dG];show _<sZ s;rw[cY];omega) (by unfold CZ;simp;omega) (by
     intro g m;unfold CZ at m;rcases VC.1 m with m|m
     .obtain⟨y,O,rfl⟩:=Xe.1 m;exact aa y O
     .obtain⟨y,O,rfl⟩:=Xe.1 m;exact Y y O) (by omega) (by omega) (by omega) (.inl (by omega)) (by omega) (by omega)
   have eL:H9 (CZ s) (d+1) (j+1) (k+((bif Cr s.AR then 0 else cN s.AR:Nat):Int))=(LB (d+1) s&&(AG (j+Kr s<=64)&&AG (k+sC s<=256))):=by
    rw[XY,kI _ _ _ _ (by omega) (by omega),Qe0];simp only[XW,Vr,ff,Wz,Wy];have e2:Fq (CZ s)=HI s.BX+HI s.Be:=by unfold CZ;rw[rm,ZE,ZE]
    have e3:Fr (CZ s)=HJ s.BX+HJ s.Be:=by unfold CZ;rw[sQ,ZD,ZD]
    rw[e2,e3];have T:(Cr s.AR||cD 1 s.AR)=true:=by
     cases M:Cr s.AR with
     |true=>rfl
     |false=>
      rw[M]at hb;simp only[Bool.false_or,XW]at hb;rw[hb.1];rfl
    constructor
    .rintro⟨E,Q,h6⟩;exact⟨⟨T,E⟩,by omega,by omega⟩
    .rintro⟨⟨_,E⟩,Q,h6⟩;exact⟨E,by omega,by omega⟩
   rw[eL]at L P;refine⟨H,Ea z ?_,λh=>?_⟩
   .simp only[Xg,Vq];refine Ea (v:=(H, !(LB (d+1) s&&(AG (j+Kr s<=64)&&AG (k+sC s<=256))))) ?_ ?_
    .rw[Yp B,Yp N,ed];exact Ea (mF s q) (Ea L (Qb _))
    .cases(LB (d+1) s&&(AG (j+Kr s<=64)&&AG (k+sC s<=256)))<;>exact Qb _
   .rw[P h];have e2:Fq (CZ s)=HI s.BX+HI s.Be:=by unfold CZ;rw[rm,ZE,ZE]
    have e3:Fr (CZ s)=HJ s.BX+HJ s.Be:=by unfold CZ;rw[sQ,ZD,ZD]
    rw[e2,e3,show fS (Um.ctyping_step {AX:=s})=Kr s from rfl,show fC (Um.ctyping_step {AX:=s})=sC s from rfl,Wz,Wy];congr 1<;>omega
 |ctyping_cond x=>
  obtain⟨c⟩:=x;have q:AR.wf c:=hw;obtain⟨ad,W⟩:=Y8 q;have X:i64.wrap (k+1)=k+1:=Qt (by omega) (by omega);simp only[Um.elim,X];have hF:Pp (Um.ctyping_cond {AR:=c}) d j k=(cD (d+1) c&&(AG (j<=64)&&AG (k+cN c<=256))):=by
   show(cD (d+1) c&&(AG (j+((0:Nat):Int)<=64)&&AG (k+cN c<=256)))=_;rw[show j+((0:Nat):Int)=j by omega]
  rw[hF];by_cases B:64<j
  .have:(cD (d+1) c&&(AG (j<=64)&&AG (k+cN c<=256)))=false:=by
    rw[Yp (show¬j<=64 by omega)];simp
   rw[this];refine⟨{BE:=j,BF:=k+1},?_,λh=>by cases h⟩;refine Ea (v:=(_,AE)) ?_ (Qb _);rw[Yj B];exact Qb _
  by_cases N:256<k+1
  .have:(cD (d+1) c&&(AG (j<=64)&&AG (k+cN c<=256)))=false:=by
    rw[Yp (show¬k+(cN c:Int)<=256 by rw[NQ];omega)];simp
   rw[this];refine⟨{BE:=j,BF:=k+1},?_,λh=>by cases h⟩;refine Ea (v:=(_,AE)) ?_ (Qb _);rw[Yp B,Yj N];exact Qb _
  obtain⟨H,L,P⟩:=ih (c.Ac.map Cq) (d+1) j (k+1) (by
    rw[kg];show _<cN c;rw[NQ];omega) (by simp;omega) (by
    intro g m;obtain⟨y,O,rfl⟩:=Xe.1 m;exact W y O) (by omega) (by omega) (by omega) (.inl (by omega)) (by omega) (by omega)
  have eL:H9 (c.Ac.map Cq) (d+1) j (k+1)=(cD (d+1) c&&(AG (j<=64)&&AG (k+cN c<=256))):=by
   rw[XY,kI _ _ _ _ (by omega) (by omega), <- qH,kf,lG];simp only[XW,Vr,jc,NQ];constructor
   iterate 2 rintro⟨E,Q,h6⟩;exact⟨E,by omega,by omega⟩
  rw[eL]at L P;refine⟨H,?_,λh=>?_⟩
  .refine Ea (v:=(H, !(cD (d+1) c&&(AG (j<=64)&&AG (k+cN c<=256))))) ?_ ?_
   .rw[Yp B,Yp N,ed];exact Ea (tN c q) (Ea L (Qb _))
   .cases(cD (d+1) c&&(AG (j<=64)&&AG (k+cN c<=256)))<;>exact Qb _
  .rw[P h,kf,lG,show fS (Um.ctyping_cond {AR:=c})=0 from rfl,show fC (Um.ctyping_cond {AR:=c})=cN c from rfl,NQ];congr 1;omega
theorem Qog:∀(m:Nat) (l:AA Um) (d:Nat) (g j:Int),G6 l<=m->AI l<=2097152->(∀f∈l,aX f)->d<=17->0<=g->g<=66->(g<=65\/ ∀f∈l,∃c,f=Cq c)->0<=j->j<=256->m6 Mn l d g j:=by
 intro m
 induction m using Nat.strongRecOn with
 |_ m N=>
 intro l d g j hm hl hw hd h0 h1 H Y h3;unfold m6;have F:∀c:Uk,(∃k:Uk,Ev (λn=>iM (Mn n) n l (d:Int) c) (k,H9 l d g j)/\(H9 l d g j=AE->k={BE:=g+Fq l,BF:=j+Fr l}))->∃k:Uk,Ev (λn=>Mn n l (d:Int) c) (k,H9 l d g j)/\(H9 l d g j=AE->k={BE:=g+Fq l,BF:=j+Fr l}):=by
  rintro c ⟨k,q1,q2⟩;exact⟨k,Jb q1,q2⟩
 refine F _ ?_;unfold iM;cases t:l with
 |nil=>
  refine⟨{BE:=g,BF:=j},?_,λ_=>by simp[Fq,Fr]⟩;refine Ea (v:=CG.k {BE:=g,BF:=j}) (DW.ev (Ej ?_)) (Qb _);exact Qb _
 |cons f0 r0=>
 rw[<- t];have M:l.isEmpty=false:=by rw[t];rfl
 have W:0<AI l:=by rw[t];simp
 by_cases q:d<=16
 rotate_left
 .have:H9 l d g j=false:=by unfold H9;rw[M,Yp q];rfl
  rw[this];refine⟨{BE:=g,BF:=j},?_,λh=>by cases h⟩;rw[Yj (show(0:Int)<(AI l:Int)by omega),Yj (show(16:Int)<(d:Int)by omega)];exact Ea (Qb _) (Qb _)
 have L:H9 l d g j=Po l d g j:=by unfold H9 Po;rw[Yj q,Vz]
 rw[L];have loop:∀(r:AA Um) (i:Nat) (g j:Int),l.drop i=r->i<=AI l->0<=g->g<=66->(g<=65\/ ∀f∈l,∃c,f=Cq c)->0<=j->j<=256->
   ∃k:Uk,DW (λn=>Li n l (d:Int) (Mn n)) ({BE:=g,BF:=j},(i:Int)) (bif Po r d g j then CG.k k else CG.d (k,AD))/\(Po r d g j=AE->k={BE:=g+Fq r,BF:=j+Fr r}):=by
  intro r
  induction r with
  |nil=>
   intro i g j O T _ _ _ _ _;refine⟨{BE:=g,BF:=j},Ej ?_,λ_=>by simp[Fq,Fr]⟩;unfold Li;simp only[Yt O T,Vq];exact Qb _
  |cons f r G=>
   intro i g j O T g0 X E g2 g3;obtain⟨B,P⟩:=QG (by omega) O;have aa:fZ f<=G6 l:=by
    have:∀(l:AA Um),f∈l->fZ f<=G6 l:=by
     intro l
     induction l with
     |nil=>intro h;cases h
     |cons x l N=>
      intro h;rw[qJ];rcases X7.1 h with rfl|h
      .omega
      .have:=N h;omega
    exact this l B.mem
   obtain⟨k,z,Q⟩:=QjU (R:=Mn) q B (hw f B.mem) (λV d' g j k1 k2 k3 k4 k5 k6 J k7 k8=>N (G6 V) (by omega) V d' g j (XT _) k2 k3 k4 k5 k6 J k7 k8) g0 X (E.imp id λh=>h f B.mem) g2 g3;rw[QnD];cases y:Pp f d g j with
   |false=>
    rw[y]at z;exact⟨k,Ej z,λh=>by cases h⟩
   |true=>
    rw[y]at z;obtain rfl:=Q y;have hb:=by
     unfold Pp at y;simp only[XW,Vr]at y;exact y.2
    obtain⟨c2,u1,u2⟩:=G (i+1) (g+fS f) (j+fC f) P (by have:=B.lt';omega) (by omega) (by omega) (.inl (by omega)) (by omega) (by omega);refine⟨c2,Ex z u1,λh=>?_⟩;rw[u2 (by simpa using h),qI,qG];congr 1<;>omega
 obtain⟨k,z,Q⟩:=loop l 0 g j rfl (XU _) h0 h1 H Y h3;refine⟨k,?_,Q⟩;refine Ea (v:=AD) ?_ (QY (Ea z.ev ?_))
 .rw[Yj (show(0:Int)<(AI l:Int)by omega),Yp (show¬(16:Int)<(d:Int)by omega)];exact Qb _
 .cases Po l d g j<;>exact Qb _
mutual
def RW:AR->Bool
 |⟨k,v,n,ps⟩=>bif k==1 then DI 1 3 v&&(DI 0 10000 n&&((AI ps:Int)==0))else
   bif k==4 then((v==0)&&(n==0))&&(((AI ps:Int)==1)&&F1 ps)else
   bif (k==2)||(k==3)then((v==0)&&(n==0))&&((AG (0<(AI ps:Int))&&AG ((AI ps:Int)<=16))&&F1 ps)else AD
def F1:AA AR->Bool
 |[]=>AE
 |c::r=>RW c&&F1 r
end
theorem _h(c:AR):RW c=bif c.AY==1 then DI 1 3 c.Bw&&(DI 0 10000 c.N&&((AI c.Ac:Int)==0))else
   bif c.AY==4 then((c.Bw==0)&&(c.N==0))&&(((AI c.Ac:Int)==1)&&F1 c.Ac)else
   bif (c.AY==2)||(c.AY==3)then((c.Bw==0)&&(c.N==0))&&((AG (0<(AI c.Ac:Int))&&AG ((AI c.Ac:Int)<=16))&&F1 c.Ac)else false:=by cases c;rfl
theorem o_:∀l:AA AR,F1 l=l.all RW
 |[]=>rfl
 |c::r=>by rw[F1,List.all_cons,o_ r]
mutual
def Zb:AX->Bool
 |⟨k,b,c,t,e⟩=>bif k==1 then DI 1 5 b&&(Cr c&&(((AI t:Int)==0)&&((AI e:Int)==0)))else
   bif k==2 then(b==0)&&(RW c&&(AG (0<(AI t:Int))&&(HS t&&HS e)))else AD
def HS:AA AX->Bool
 |[]=>AE
 |s::r=>Zb s&&HS r
end
theorem _i(s:AX):Zb s=bif s.AY==1 then DI 1 5 s.By&&(Cr s.AR&&(((AI s.BX:Int)==0)&&((AI s.Be:Int)==0)))else
   bif s.AY==2 then(s.By==0)&&(RW s.AR&&(AG (0<(AI s.BX:Int))&&(HS s.BX&&HS s.Be)))else false:=by cases s;rfl
theorem pA:∀l:AA AX,HS l=l.all Zb
 |[]=>rfl
 |c::r=>by rw[HS,List.all_cons,pA r]
def fV:Um->Bool
 |.ctyping_step x=>Zb x.AX
 |.ctyping_cond x=>RW x.AR
theorem QjZ(l:AA AR):(l.map Cq).any (λf=> !fV f)= !F1 l:=by
 rw[o_,List.not_all_eq_any_not,List.any_map];rfl
theorem l5(l:AA AX):(l.map DF).any (λf=> !fV f)= !HS l:=by
 rw[pA,List.not_all_eq_any_not,List.any_map];rfl
theorem rY{R:Nat->AA Um->AB Bool}(c:AR)(m:AR.wf c)(k:Ev (λn=>R n (c.Ac.map Cq)) (!F1 c.Ac)):
  Ev (λn=>WN (R n) n {AR:=c}) (RW c):=by
 rw[_h];refine Ea (Ei λ_=>Qb _) (JN (λ_=>?_) (λt=>?_))
 .exact Ea (Ea (QS _ _ _) (Ei λ_=>Ea (QS _ _ _) (Ei λ_=>Qb _))) (Qb _)
 .have fin:∀b,Ev (λn=>(bif b then(I' n {AR:=c}).bind λd=>(R n d).bind λg=>AC (!g)else AC AD).bind λf=>AC f) (b&&F1 c.Ac):=by
   intro b;refine Ea ((Ei λ_=>Ea (tN c m) (Ea k (Qb _)))) ((Qb _).eq (by simp))
  cases q:(c.AY==4)with
  |true=>
   cases h:((c.Bw==0)&&(c.N==0))with
   |true=>
    grind
   |false=>
    simp_all
  |false=>
   cases j:((c.AY==2)||(c.AY==3))with
   |true=>
    have e:Ev (λn=>(bif (c.AY==2)then AC (c.AY==2)else AC (c.AY==3))) true:=by
     refine EB ?_
     grind
    cases h:((c.Bw==0)&&(c.N==0))with
    |true=>
     grind
    |false=>
     refine Ea (Ea e (Qb _)) ((fin _).eq (by simp))
   |false=>
    have e:Ev (λn=>(bif (c.AY==2)then AC (c.AY==2)else AC (c.AY==3))) false:=by
     refine EB ?_
     grind
    grind
theorem QjL:∀(m:Nat) (l:AA Um),G6 l<=m->AI l<=2097152->(∀f∈l,aX f)->Ev (λn=>JP n l) (l.any λf=> !fV f):=by
 intro m
 induction m using Nat.strongRecOn with
 |_ m B=>
 intro l P R G;refine Jb ?_;show Ev (λn=>Wi (JP n) n l) _;refine Ev.contains l _ (λn f=>Wa (JP n) n f) (by omega) λf F=>?_;have M:fZ f<=G6 l:=by
  have:∀(l:AA Um),f∈l->fZ f<=G6 l:=by
   intro l
   induction l with
   |nil=>simp
   |cons x l B=>
    intro h;rw[qJ]
    grind
  grind
 refine Ea (v:=fV f) ?_ (Qb _);have d:∀c:AR,AR.wf c->IQ c.Ac<fZ f->Ev (λn=>JP n (c.Ac.map Cq)) (!F1 c.Ac):=by
  intro c t q;rw[<- QjZ];obtain⟨T,J⟩:=Y8 t;refine B (G6 (c.Ac.map Cq)) (by rw[kg];omega) _ (XT _) (by simp;omega) ?_;intro g j;obtain⟨y,k,rfl⟩:=Xe.1 j;exact J y k
 cases f with
 |ctyping_cond x=>
  obtain⟨c⟩:=x;have t:AR.wf c:=G _ F;exact rY c t (d c t (by show IQ c.Ac<cN c;rw[NQ];omega))
 |ctyping_step x=>
  obtain⟨s⟩:=x;have q:AX.wf s:=G _ F;obtain⟨H,⟨N,E⟩,⟨L,z⟩⟩:=Y7 q;show Ev _ (Zb s);rw[_i];refine JN (λ_=>?_) (λQ=>JN (λ_=>?_) λ_=>Qb _)
  .refine Ea (Ea (QS _ _ _) (Ei λ_=>?_)) (Qb _);simp only[rV];refine Ei λ_=>Ea (mF s q) ((Qb _).eq ?_);unfold CZ;rw[XY];simp only[Vy,XW,X3,X2];omega
  .refine Ea (Ei λ_=>?_) (Qb _);refine Ea (rY s.AR H (d s.AR H (by show _<sZ s;rw[cY,NQ];omega))) (Ei λ_=>Ei λ_=>?_);refine Ea (mF s q) (Ea (B (G6 (CZ s)) ?_ _ (XT _) (by unfold CZ;simp;omega) ?_) ((Qb _).eq ?_))
   .have:G6 (CZ s)<sZ s:=by
     unfold CZ;rw[rn,dG,dG,cY];omega
    have O:fZ (Um.ctyping_step {AX:=s})=sZ s:=rfl;omega
   .intro g j;rcases VC.1 j with j|j
    .obtain⟨y,k,rfl⟩:=Xe.1 j;exact E y k
    .obtain⟨y,k,rfl⟩:=Xe.1 j;exact z y k
   .unfold CZ;rw[List.any_append,l5,l5];simp
def JY(l:AA AX):Bool:=H7 0 l&&(AG (HI l<=64)&&AG (HJ l<=256))
def Hy(l:AA AX):Int:=bif JY l then(bif l.isEmpty|| !HS l then 71 else 0)else 2
theorem QnE(l:AA AX):H9 (l.map DF) 0 0 0=JY l:=by
 rw[XY,kI _ _ _ _ (by omega) (by omega), <- gh,ZE,ZD];unfold JY
 grind
theorem _d(l:AA AX)(z:AI l<=1048576)(m:∀x∈l,AX.wf x):Ev (λn=>V3 n l) (Hy l):=by
 refine Ea (lF l (by omega)) (Ea ?_ (Qb _));have h:∀f∈l.map DF,aX f:=by
  intro g j;obtain⟨y,k,rfl⟩:=Xe.1 j;exact m y k
 obtain⟨q,d,t⟩:=Qog _ (l.map DF) 0 0 0 (XT _) (by simp;omega) h (by omega) (by omega) (by omega) (.inl (by omega)) (by omega) (by omega);rw[QnE]at d;have p3:=d.shift;refine Ea p3 ?_;unfold Hy;cases JY l with
 |false=>exact Qb _
 |true=>
  have e:((AI (l.map DF):Int)==0)=l.isEmpty:=by
   cases l<;>simp;omega
  rw[e];refine Ea (QN λ_=>Ea (QjL _ _ (XT _) (by simp;omega) h) (Qb _)) ?_
  grind[l5,Qb]
def D2(d:Nat):Int:=256*(18-(d:Int))+1000
theorem tZ:∀(m:Nat) (c:AR) (d:Nat),cN c<=m->d<=17->AR.wf c->∃v:Int,Ev (λn=>NZ n c (d:Int)) v/\0<=v/\v<=D2 d/\
  (d<=16/\cD (d+1) c=AE/\cN c<=256->v=cN c)/\(¬(d<=16/\cD (d+1) c=AE/\cN c<=256)->256<v):=by
 intro m
 induction m using Nat.strongRecOn with
 |_ m L=>
 intro c d hm hd Y;obtain⟨aa,B⟩:=Y8 Y;have E:∀{P:Int->Prop},(∃v:Int,Ev (λn=>iL (NZ n) n c (d:Int)) v/\P v)->∃v:Int,Ev (λn=>NZ n c (d:Int)) v/\P v:=by
  rintro P ⟨v,k,f⟩;exact⟨v,Jb k,f⟩
 refine E ?_;unfold iL;by_cases z:d<=16
 .rw[Yp (show¬(16:Int)<(d:Int)by omega)];have X:i64.wrap ((d:Int)+1)=((d+1:Nat):Int):=YS (by omega);have loop:∀(r:AA AR) (i:Nat) (a:Int),c.Ac.drop i=r->i<=AI c.Ac->0<=a->a<=D2 d->
    ∃v:Int,DW (λn=>LZ n c (d:Int) (NZ n)) (a,(i:Int)) v/\0<=v/\v<=D2 d/\
     (Ma (d+1) r=AE/\a+IQ r<=256->v=a+IQ r)/\(¬(Ma (d+1) r=AE/\a+IQ r<=256)->256<v):=by
   intro r
   induction r with
   |nil=>
    intro i a M O J k;refine⟨a,Ej ?_,J,k,λ_=>by simp[IQ],λh=>?_⟩
    .unfold LZ;simp only[Yt M O,Vq,XJ];exact Qb _
    .simp[Ma,IQ]at h;omega
   |cons x r F=>
    intro i a M O J k;obtain⟨j,N⟩:=QG (by omega) M;have hx:cN x<cN c:=by
     have:∀l:AA AR,x∈l->cN x<=IQ l:=by
      intro l
      induction l with
      |nil=>intro h;cases h
      |cons y l L=>
       intro h;rw[IQ];rcases X7.1 h with rfl|h
       .omega
       .have:=L h;omega
     have:=this _ j.mem;rw[NQ c];omega
    by_cases g:a<=256
    .obtain⟨v,H,V,Q,q,T⟩:=L (cN x) (by omega) x (d+1) (XT _) (by omega) (B x j.mem);have hB:D2 (d+1)+256=D2 d:=by unfold D2;omega
     have ab:D2 d<=6000:=by unfold D2;omega
     have e1:i64.wrap (a+v)=a+v:=Qt (by omega) (by omega);obtain⟨w,q1,W,q3,q4,R⟩:=F (i+1) (a+v) N (by have:=j.lt';omega) (by omega) (by omega);refine⟨w,Ex ?_ q1,W,q3,?_,?_⟩
     .unfold LZ;simp only[j.lt,Vp,Yj g,XJ,j.ix,j.nx,X];refine Ea H ?_;rw[e1];exact Qb _
     .rintro⟨f,G⟩;simp only[Ma,XW,Vr]at f;rw[IQ]at G⊢;have:=q ⟨f.1,f.2.1,by omega⟩;subst this;rw[q4 ⟨f.2.2,by omega⟩];omega
     .intro hn;by_cases t:d+1<=16/\cD (d+1+1) x=AE/\cN x<=256
      .have:=q t;subst this;refine R λf=>hn ⟨?_,?_⟩
       .simp only[Ma,XW,Vr];exact⟨t.1,t.2.1,f.1⟩
       .rw[IQ];omega
      .have:=T t;exact R λf=>by omega
    .refine⟨a,Ej ?_,J,k,λh=>?_,λ_=>by omega⟩
     .unfold LZ;simp only[j.lt,Vp,Yp g,XJ,Vq];exact Qb _
     .omega
  obtain⟨v,H,V,Q,q,T⟩:=loop c.Ac 0 1 rfl (XU _) (by omega) (by unfold D2;omega);refine⟨v,QY (Ea H.ev (Qb _)),V,Q,?_,?_⟩
  .rintro⟨_,f,G⟩;rw[jc]at f;rw[NQ]at G⊢;rw[q ⟨f,by omega⟩];omega
  grind[jc,NQ]
 .rw[Yj (show(16:Int)<(d:Int)by omega)];refine⟨1000,P6 (Qb _),by omega,by unfold D2;omega,λh=>absurd h.1 z,λ_=>by omega⟩
def Dj:Nat->Int
 |0=>10000
 |k+1=>3*Dj k
theorem gw:∀k,10000<=Dj k
 |0=>Int.le_refl _
 |k+1=>by have:=gw k;simp[Dj];omega
theorem Qnu{k:Nat}(h:k<=17):Dj k<=1291401630000:=by
 have:∀j,j<=17->Dj j<=1291401630000:=by decide+kernel
 grind
def JZ(d:Nat)(l:AA AX):Prop:=H7 d l=AE/\HI l<=64/\HJ l<=256
theorem pF:∀(m:Nat) (l:AA AX) (d:Nat),Ko l<=m->d<=17->AI l<=1048576->(∀x∈l,AX.wf x)->∃a b:Int,Ev (λn=>RS n l (d:Int)) (a,b)/\0<=a/\0<=b/\a<=Dj (17-d)/\b<=Dj (17-d)/\
  (JZ d l->a=HI l/\b=HJ l)/\(¬JZ d l->64<a\/256<b):=by
 intro m
 induction m using Nat.strongRecOn with
 |_ m L=>
 intro l d hm hd hl hw;have ah:∀{P:Int->Int->Prop},(∃a b:Int,Ev (λn=>iJ (RS n) n l (d:Int)) (a,b)/\P a b)->∃a b:Int,Ev (λn=>RS n l (d:Int)) (a,b)/\P a b:=by
  rintro P ⟨a,b,E,G⟩;exact⟨a,b,Jb E,G⟩
 refine ah ?_;unfold iJ;by_cases F:0<AI l/\ ¬d<=16
 .rw[Yj (show(0:Int)<(AI l:Int)by omega),Yj (show(16:Int)<(d:Int)by omega)];have:=gw (17-d);refine⟨1000,1000,Ea (Qb _) (P6 (Qb _)),by omega,by omega,by omega,by omega,λh=>?_,λ_=>by omega⟩;exfalso;cases l with
  |nil=>simp at F
  |cons x r=>
   have:=h.1;simp only[H7,XW,Vr]at this;omega
 .have H:Ev (λn:Nat=>((bif 0<(AI l:Int) then AC (AG (16<(d:Int)))else AC AD):AB Bool)) false:=by
   grind[Qb]
  have ed:i64.wrap ((d:Int)+1)=((d+1:Nat):Int):=YS (by omega);have loop:∀(r:AA AX) (i:Nat) (a b:Int),l.drop i=r->i<=AI l->0<=a->0<=b->a<=Dj (17-d)->b<=Dj (17-d)->
    ∃a' b':Int,DW (λn=>Ll n l (d:Int) (RS n)) (a,b,(i:Int)) (a',b')/\0<=a'/\0<=b'/\a'<=Dj (17-d)/\b'<=Dj (17-d)/\
     (H7 d r=AE/\a+HI r<=64/\b+HJ r<=256->a'=a+HI r/\b'=b+HJ r)/\(¬(H7 d r=AE/\a+HI r<=64/\b+HJ r<=256)->64<a'\/256<b'):=by
   intro r
   induction r with
   |nil=>
    intro i a b hr hi H E G h3;refine⟨a,b,Ej ?_,H,E,G,h3,λ_=>by simp[HI,HJ],λh=>?_⟩
    .unfold Ll;simp only[Yt hr hi,Vq,XJ];exact Qb _
    .simp[H7,HI,HJ]at h;omega
   |cons s r ad=>
    intro i a b hr hi H E G h3;obtain⟨j,ag⟩:=QG (by omega) hr;have am:=j.lt';have B:d<=16:=by
     omega
    have al:sZ s<=Ko l:=by
     have:∀l:AA AX,s∈l->sZ s<=Ko l:=by
      intro l
      induction l with
      |nil=>intro h;cases h
      |cons y l L=>
       intro h;rw[Ko];rcases X7.1 h with rfl|h
       .omega
       .have:=L h;omega
     exact this _ j.mem
    by_cases f:a<=64/\b<=256
    .obtain⟨wc,⟨V,ac⟩,⟨N,ae⟩⟩:=Y7 (hw s j.mem);have aj:=cY s;obtain⟨t,g,Q,p2,p3,p4,p5,J,W⟩:=L (Ko s.BX) (by omega) s.BX (d+1) (XT _) (by omega) V ac;obtain⟨y1,y2,q1,q2,q3,q4,q5,q6,q7⟩:=L (Ko s.Be) (by omega) s.Be (d+1) (XT _) (by omega) N ae;have hB:Dj (17-d)=3*Dj (17-(d+1)):=by
      rw[show 17-d=(17-(d+1))+1 by omega];rfl
     have R:=gw (17-(d+1));have an:=Qnu (k:=17-d) (by omega);have hc:∃z:Int,0<=z/\z<=5608/\Ev (λn=>((bif (!Cr s.AR)then(CJ l (i:Int)).bind λO=>(NZ n O.AR 0).bind λX=>AC (i64.wrap ((i64.wrap ((i64.wrap (b+g))+y2))+X))else AC (i64.wrap ((i64.wrap (b+g))+y2))):AB Int)) (b+g+y2+z)/\
       ((Cr s.AR||cD 1 s.AR)=AE/\(bif Cr s.AR then 0 else cN s.AR)<=256->z=((bif Cr s.AR then 0 else cN s.AR:Nat):Int))/\(¬((Cr s.AR||cD 1 s.AR)=AE/\(bif Cr s.AR then 0 else cN s.AR)<=256)->256<z):=by
      have e1:i64.wrap (b+g)=b+g:=Qt (by omega) (by omega);have e2:i64.wrap (b+g+y2)=b+g+y2:=Qt (by omega) (by omega);cases hz:Cr s.AR with
      |true=>
       refine⟨0,by omega,by omega,?_,λ_=>by simp,λh=>absurd ⟨rfl,by simp⟩ h⟩;simp only[Xg,Vq,e1,e2];exact(Qb _).eq (by omega)
      |false=>
       obtain⟨v,u1,u2,u3,u4,u5⟩:=tZ _ s.AR 0 (XT _) (by omega) wc;have af:v<=5608:=by unfold D2 at u3;omega
       have e3:i64.wrap (b+g+y2+v)=b+g+y2+v:=Qt (by omega) (by omega);refine⟨v,u2,af,?_,λh=>?_,λh=>?_⟩
       .simp only[Xh,Vp,j.ix,XJ,e1,e2];refine Ea u1 ?_;rw[e3];exact Qb _
       .simp only[Bool.false_or,Vq]at h⊢;exact u4 ⟨by omega,h.1,h.2⟩
       .simp only[Bool.false_or,Vq]at h;exact u5 λq=>h ⟨q.2.1,q.2.2⟩
     obtain⟨z,z0,z1,z2,z3,z4⟩:=hc;have e4:i64.wrap (a+1)=a+1:=Qt (by omega) (by omega);have e5:i64.wrap (a+1+t)=a+1+t:=Qt (by omega) (by omega);have e6:i64.wrap (a+1+t+y1)=a+1+t+y1:=Qt (by omega) (by omega);obtain⟨w1,w2,v1,v2,v3,v4,v5,v6,M⟩:=ad (i+1) (a+1+t+y1) (b+g+y2+z) ag (by omega) (by omega) (by omega) (by omega) (by omega);refine⟨w1,w2,Ex ?_ v1,v2,v3,v4,v5,?_,?_⟩
     .unfold Ll;simp only[j.lt,Vp,Yj f.1,Yj f.2,XJ,j.ix,j.nx,ed,sK];refine Ea Q (Ea q1 ?_);simp only[j.ix,XJ]at z2;refine Ea z2 ?_;rw[e4,e5,e6];exact Qb _
     .rintro⟨g1,g2,g3⟩;simp only[H7,XW,Vr,ff]at g1;obtain⟨ak,⟨aa,ab,ai⟩,Y⟩:=g1;rw[HI,Wz]at g2⊢;rw[HJ,Wy]at g3⊢;obtain⟨k1,k2⟩:=J ⟨ab,by omega,by omega⟩;obtain⟨k3,k4⟩:=q6 ⟨ai,by omega,by omega⟩;have k5:=z3 ⟨aa,by omega⟩;obtain⟨k6,k7⟩:=v6 ⟨Y,by omega,by omega⟩;constructor<;>omega
     .intro hn;by_cases b1:JZ (d+1) s.BX
      .obtain⟨k1,k2⟩:=J b1;by_cases b2:JZ (d+1) s.Be
       .obtain⟨k3,k4⟩:=q6 b2;by_cases T:(Cr s.AR||cD 1 s.AR)=AE/\(bif Cr s.AR then 0 else cN s.AR)<=256
        .have k5:=z3 T;refine M λq=>hn ⟨?_,?_,?_⟩
         .simp only[H7,XW,Vr,ff];exact⟨B,⟨T.1,b1.1,b2.1⟩,q.1⟩
         .rw[HI,Wz];omega
         .rw[HJ,Wy];omega
        .have:=z4 T;exact M λq=>by omega
       .have:=q7 b2;exact M λq=>by omega
      .have:=W b1;exact M λq=>by omega
    .refine⟨a,b,Ej ?_,H,E,G,h3,λh=>?_,λ_=>?_⟩
     .unfold Ll;have:Ev (λn:Nat=>((bif (i:Int)<(AI l:Int) then(bif a<=64 then AC (AG (b<=256))else AC AD)else AC AD):AB Bool)) false:=by
       rw[j.lt];by_cases q:a<=64
       .rw[Yj q,Yp (show¬b<=256 from λz=>f ⟨q,z⟩)];exact Qb _
       .rw[Yp q];exact Qb _
      exact Ea this (QY (Qb _))
     iterate 2 omega
  have R:=gw (17-d);obtain⟨a,b,Q,p2,p3,p4,p5,J,W⟩:=loop l 0 0 0 rfl (XU _) (by omega) (by omega) (by omega) (by omega);refine⟨a,b,Ea H (QY (Ea Q.ev (Qb _))),p2,p3,p4,p5,λh=>?_,λh=>?_⟩
  .obtain⟨k1,k2⟩:=J ⟨h.1,by have:=h.2.1;omega,by have:=h.2.2;omega⟩;constructor<;>omega
  .exact W λq=>h ⟨q.1,by omega,by omega⟩
mutual
def hP:CH->Nat
 |⟨_,_,ps⟩=>bif ps.isEmpty then 0 else 1+Fx ps
def Fx:AA CH->Nat
 |[]=>0
 |p::r=>max (hP p) (Fx r)
end
theorem nv(p:CH):hP p=bif p.Ac.isEmpty then 0 else 1+Fx p.Ac:=by cases p;rfl
theorem pJ{p:CH}:∀{l:AA CH},p∈l->hP p<=Fx l
 |q::r,h=>by
  simp[Fx];rcases X7.1 h with rfl|h
  .omega
  .have:=pJ h;omega
theorem pj{α:Type}(l:AA α):((AI l:Int)==0)=l.isEmpty:=by
 cases l<;>simp;omega
theorem ZG:∀l:AA CH,AI l<=Ce l
 |[]=>XT _
 |p::r=>by have:=ZG r;rw[Ce,YQ,X0];omega
theorem sj:∀(m:Nat) (l:AA CH) (k:Nat),Ce l<=m->k<=17->AI l<=1048576->(∀x∈l,CH.wf x)->Ev (λn=>RP n l (k:Int)) ((min (Fx l) k:Nat):Int):=by
 intro m
 induction m using Nat.strongRecOn with
 |_ m G=>
 intro l k J L N H;refine Jb ?_;show Ev (λn=>iI (RP n) n l (k:Int)) _;unfold iI;have loop:∀(r:AA CH) (i:Nat) (a:Nat),l.drop i=r->i<=AI l->a<=k->DW (λn=>KO n l (k:Int) (RP n)) ((a:Int),(i:Int)) ((max a (min (Fx r) k):Nat):Int):=by
  intro r
  induction r with
  |nil=>
   intro i a h j d;refine Ej ?_;unfold KO;simp only[Yt h j,Vq,XJ];refine(Qb _).eq ?_;simp[Fx]
  |cons p r f=>
   intro i a h j z;obtain⟨d,g⟩:=QG (by omega) h;obtain⟨B,F⟩:=Yk (H p d.mem);by_cases t:0<k
   .have y:i64.wrap ((k:Int)-1)=((k-1:Nat):Int):=by rw[Qt (by omega) (by omega)];omega
    have q:=Y4 d.mem;rw[YQ]at q;have step:Ev (λn=>KO n l (k:Int) (RP n) ((a:Int),(i:Int))) (.k (((max a (min (hP p) k):Nat):Int),((i+1:Nat):Int))):=by
     unfold KO;simp only[d.lt,Vp,Yj (show(0:Int)<(k:Int)by omega),XJ,d.ix,d.nx,y,bne,pj];rw[nv];cases M:p.Ac.isEmpty with
     |true=>
      simp_all[Qb]
     |false=>
      simp only[Xh,Vp,Vq];refine Ea (Ea (G (Ce p.Ac) (by omega) p.Ac (k-1) (XT _) (by omega) B F) (Qb _)) ((Qb _).eq ?_);have E:i64.wrap (1+((min (Fx p.Ac) (k-1):Nat):Int))=((1+min (Fx p.Ac) (k-1):Nat):Int):=by rw[Qt (by omega) (by omega)];omega
      rw[E];congr 2;split<;>omega
    refine(Ex step (f (i+1) _ g (by have:=d.lt';omega) (by omega))).eq ?_;rw[Fx];omega
   simp_all[Ej,KO,Qb]
 refine Ea ((loop l 0 0 rfl (XU _) (XU _)).ev) ((Qb _).eq ?_);omega
theorem si:∀(m:Nat) (l:AA CH),Ce l<=m->AI l<=1048576->(∀x∈l,CH.wf x)->Ev (λn=>JO n l) ((min (Ce l) 257:Nat):Int):=by
 intro m
 induction m using Nat.strongRecOn with
 |_ m G=>
 intro l L J E;refine Jb ?_;show Ev (λn=>Wh (JO n) n l) _;have loop:∀(r:AA CH) (i:Nat) (a:Nat),l.drop i=r->i<=AI l->a<=1048576->∃b:Nat,DW (λn=>Lq n l (JO n)) ((a:Int),(i:Int)) (b:Int)/\min b 257=min (a+(Ce r-(AI r))) 257:=by
  intro r
  induction r with
  |nil=>
   intro i a j t _;refine⟨a,Ej ?_,by simp[Ce]⟩;unfold Lq;simp only[Yt j t,Vq,XJ];exact Qb _
  |cons p r g=>
   intro i a j t B;obtain⟨d,h⟩:=QG (by omega) j;obtain⟨H,F⟩:=Yk (E p d.mem);have y:=Y4 d.mem;rw[YQ]at y;have z:=ZG r;by_cases q:a<=256
   .obtain⟨b,f,k⟩:=g (i+1) (a+min (Ce p.Ac) 257) h (by have:=d.lt';omega) (by omega);refine⟨b,Ex ?_ f,?_⟩
    .unfold Lq;simp only[d.lt,Vp,Yj (show(a:Int)<=256 by omega),XJ,d.ix,d.nx];refine Ea (G (Ce p.Ac) (by omega) p.Ac (XT _) H F) ((Qb _).eq ?_);rw[Qt (by omega) (by omega)];congr 2
     all_goals omega
    .rw[k,Ce,YQ,X0];omega
   .refine⟨a,Ej ?_,by omega⟩;unfold Lq;simp only[d.lt,Vp,Yp (show¬(a:Int)<=256 by omega),XJ,Vq];exact Qb _
 obtain⟨b,f,k⟩:=loop l 0 (AI l) rfl (XU _) J;refine Ea f.ev ((Qb _).eq ?_);have:=ZG l;omega
theorem Qof:∀(m:Nat) (l:AA CH) (k:Nat),Ce l<=m->Fx l<=k->k<=17->Ce l<=256->(∀x∈l,CH.wf x)->Ev (λn=>Sj n l (k:Int)) ((Fx l:Int),(Ce l:Int)):=by
 intro m
 induction m using Nat.strongRecOn with
 |_ m T=>
 intro l k V W B f L;have z:=ZG l;refine Jb ?_;show Ev (λn=>iF (Sj n) n l (k:Int)) _;unfold iF;have loop:∀(r:AA CH) (i:Nat) (a b:Nat),l.drop i=r->i<=AI l->a<=17->b+(Ce r-(AI r))<=256->DW (λn=>Lj n l (k:Int) (Sj n)) ((a:Int),(b:Int),(i:Int)) (((max a (Fx r):Nat):Int),((b+(Ce r-(AI r)):Nat):Int)):=by
  intro r
  induction r with
  |nil=>
   intro i a b j y _ _;refine Ej ?_;unfold Lj;simp only[Yt j y,Vq,XJ]
   grind[Qb,Fx,Ce]
  |cons p r g=>
   intro i a b j y H q;obtain⟨d,t⟩:=QG (by omega) j;obtain⟨X,J⟩:=Yk (L p d.mem);have O:=Y4 d.mem;have h:=pJ d.mem;rw[YQ]at O;have F:=ZG r;rw[Ce,YQ,X0]at q;have step:Ev (λn=>Lj n l (k:Int) (Sj n) ((a:Int),(b:Int),(i:Int))) (.k (((max a (hP p):Nat):Int),((b+Ce p.Ac:Nat):Int),((i+1:Nat):Int))):=by
    unfold Lj;simp only[d.lt,Vp,d.ix,XJ,d.nx,pj];rw[nv]at h⊢;cases E:p.Ac.isEmpty with
    |true=>
     have R:p.Ac=[]:=by simpa using E
     simp only[Vp,XJ];rw[R];simp only[Ce,Xw,Nat.max_zero];exact Qb _
    |false=>
     rw[E]at h;simp only[Vq]at h⊢;have P:0<k:=by omega
     have M:i64.wrap ((k:Int)-1)=((k-1:Nat):Int):=by rw[Qt (by omega) (by omega)];omega
     have N:((k:Int)==0)=false:=beq_false_of_ne (by omega);rw[N,Yp (show¬(256:Int)<(b:Int)by omega),M];simp only[Vq,XJ];refine Ea (Ea (T (Ce p.Ac) (by omega) p.Ac (k-1) (XT _) (by omega) (by omega) (by omega) J) (Qb _)) ((Qb _).eq ?_);have Q:i64.wrap ((Fx p.Ac:Int)+1)=((Fx p.Ac+1:Nat):Int):=YS (by omega);have G:i64.wrap ((b:Int)+(Ce p.Ac:Int))=((b+Ce p.Ac:Nat):Int):=by rw[Qt (by omega) (by omega)];omega
     simp only[Q,G];congr 2;split<;>omega
   refine(Ex step (g (i+1) _ _ t (by have:=d.lt';omega) (by omega) (by omega))).eq ?_;rw[Fx,Ce,YQ,X0];congr 1<;>omega
 refine Ea ((loop l 0 0 (AI l) rfl (XU _) (by omega) (by omega)).ev) ((Qb _).eq ?_)
 grind
def De:Nat->AA Int->AA Int->AA Int
 |0,out,_=>out
 |k+1,out,lap=>if 256<AI out then out else De k (out++lap) lap
mutual
def FY:CH->AA Int
 |⟨m,laps,ps⟩=>bif 0<laps then DP [] ps else[m]
def DP:AA Int->AA CH->AA Int
 |out,[]=>out
 |out,p::r=>DP (De (p.As.toNat+(bif 0<p.As then 0 else 1)) out (FY p)) r
end
theorem SY(p:CH):FY p=bif 0<p.As then DP [] p.Ac else[p.Am]:=by cases p;rfl
theorem kr{k:Nat}{d f:AA Int}(h:256<AI d):De k d f=d:=by
 cases k with
 |zero=>rfl
 |succ k=>rw[De,Vt h]
theorem qE:∀(l:AA CH) {out:AA Int},256<AI out->DP out l=out
 |[],out,h=>by rw[DP]
 |p::r,out,h=>by rw[DP,kr h];exact qE r h
theorem ku:∀(k:Nat) (out lap:AA Int),AI (De k out lap)<=max (AI out) (256+AI lap)
 |0,out,lap=>by rw[De];omega
 |k+1,out,lap=>by
  rw[De];split
  .omega
  .have:=ku k (out++lap) lap
   grind
theorem qF:∀(m:Nat) (l:AA CH) (d:AA Int),Ce l<=m->AI (DP d l)<=max (AI d) (256+257*Ce l):=by
 intro m
 induction m using Nat.strongRecOn with
 |_ m n=>
 intro l;have g:∀p∈l,Ce l<=m->AI (FY p)<=257*RX p:=by
  intro p k y;have x:=Y4 k;rw[SY,YQ]at*;cases AG (0<p.As)with
  |true=>
   have:=n (Ce p.Ac) (by omega) p.Ac [] (XT _)
   grind
  |false=>simp;omega
 have j:∀(r:AA CH) (d:AA Int),(∀p∈r,AI (FY p)<=257*RX p)->AI (DP d r)<=max (AI d) (256+257*Ce r):=by
  intro r
  induction r with
  |nil=>intro d _;rw[DP];omega
  |cons p r f=>
   intro d t;rw[DP,Ce];have z:=f (De (p.As.toNat+(bif 0<p.As then 0 else 1)) d (FY p)) λq h=>t q (by simp[h])
   grind[ku]
 grind
theorem QnM(p:CH):AI (FY p)<=257*RX p:=by
 rw[SY,YQ];cases AG (0<p.As)with
 |true=>
  have:=qF _ p.Ac [] (XT _)
  grind
 |false=>simp;omega
theorem Qma(kk:Int):∀(m:Nat) (l:AA CH),Ce l<=m->Ce l<=256->AI l<=1048576->(∀x∈l,CH.wf x)->Cv kk l=AE->Ev (λn=>JQ n l) (DP [] l):=by
 intro m
 induction m using Nat.strongRecOn with
 |_ m ih=>
 intro l hm N hl hw W;rw[Jz,Xs]at W;refine Jb ?_;show Ev (λn=>Pi (JQ n) n l) _;unfold Pi;have inner:∀(p:CH) (g:AA Int) (t:p.As=0\/0<p.As/\p.As<=64) (H:AI g<=100000) (j:Nat) (k:Nat) (d:AA Int),j+k=p.As.toNat+(bif 0<p.As then 0 else 1)->AI d<=200000->
   ∃f:CG (AA Int) (CG ((AA Int)×Int) (CG (AA Int) (AA Int))),DW (λn=>Lh n p g) (d,(j:Int)) f/\
    (f=.k (De k d g)\/(256<AI (De k d g)/\f=.d (.d (.d (De k d g))))):=by
  intro p g t H j k
  induction k generalizing j with
  |zero=>
   intro d J _;refine⟨_,Ej (b:=.k d) ?_,.inl rfl⟩;unfold Lh;have:¬((j:Int)<if p.As<1 then 1 else p.As):=by
    grind
   rw[Yp this];exact Qb _
  |succ k Q=>
   intro d J F;have E:((j:Int)<if p.As<1 then 1 else p.As):=by
    rcases t with h|⟨h,h'⟩
    .rw[h]at J⊢;simp at J⊢;omega
    .rw[Yj h]at J;simp at J;rw[Vs (by omega)];omega
   by_cases B:256<AI d
   .refine⟨_,Ej (b:=.d (.d (.d d))) ?_,.inr ⟨by rw[kr B];exact B,by rw[kr B]⟩⟩;unfold Lh;rw[Yj E,Yj (show(256:Int)<(AI d:Int)by omega)];exact Qb _
   .obtain⟨f,z,G⟩:=Q (j+1) (d++g) (by omega) (by rw[X3];omega);refine⟨f,Ex ?_ z,by rw[De,Vs B];exact G⟩;unfold Lh;rw[Yj E,Yp (show¬(256:Int)<(AI d:Int)by omega)];refine P6 (QY (YB (ZB d g (by omega)) ?_));rw[YS (by omega)];exact Qb _
 have loop:∀(r:AA CH) (i:Nat) (d:AA Int),l.drop i=r->i<=AI l->AI d<=100000->
   ∃f:CG (AA Int) (AA Int),DW (λn=>Lb n l (JQ n)) (d,(i:Int)) f/\(f=.k (DP d r)\/f=.d (DP d r)):=by
  intro r
  induction r with
  |nil=>
   intro i d R V _;refine⟨.k d,Ej ?_,.inl (by rw[DP])⟩;unfold Lb;simp only[Yt R V,Vq];exact Qb _
  |cons p r P=>
   intro i d R V F;obtain⟨q,T⟩:=QG (by omega) R;have E:=q.lt';have hs:=Y4 q.mem;obtain⟨w1,w2⟩:=Yk (hw p q.mem);have t:=W p q.mem;rw[ZF]at t;have y:p.As=0\/0<p.As/\p.As<=64:=by
    cases X:(p.As==0)with
    |true=>exact .inl (by simpa using X)
    |false=>
     rw[X]at t;simp only[Vq,DI,XW,Vr]at t;exact .inr ⟨by omega,by omega⟩
   have aa:=QnM p;have B:Ev (λn=>((bif 0<p.As then(JQ n p.Ac).bind λO=>AC O else AC [p.Am]):AB (AA Int))) (FY p):=by
    rw[SY];refine JN (λh=>?_) (λ_=>Qb _);rw[YQ]at hs;refine Ea (ih (Ce p.Ac) (by omega) p.Ac (XT _) (by omega) w1 w2 ?_) (Qb _);have:(p.As==0)=false:=by
     simp only[Vr]at h;exact beq_false_of_ne (by omega)
    rw[this]at t;simp only[Vq,XW]at t;exact t.2.2.2
   obtain⟨f,z,G⟩:=inner p (FY p) y (by omega) 0 _ d (Xv _) (by omega);rw[DP];rcases G with rfl|⟨M,rfl⟩
   .obtain⟨L,q1,Y⟩:=P (i+1) (De (p.As.toNat+(bif 0<p.As then 0 else 1)) d (FY p)) T (by omega) (by
     have:=ku (p.As.toNat+(bif 0<p.As then 0 else 1)) d (FY p);omega)
    refine⟨L,Ex ?_ q1,Y⟩;unfold Lb;simp only[q.lt,Vp,q.ix,XJ,q.nx];exact Ea B (Ea z.ev (Qb _))
   .refine⟨.d (De (p.As.toNat+(bif 0<p.As then 0 else 1)) d (FY p)),Ej ?_,.inr (by rw[qE r M])⟩;unfold Lb;simp only[q.lt,Vp,q.ix,XJ,q.nx];exact Ea B (Ea z.ev (Qb _))
 obtain⟨f,z,G⟩:=loop l 0 [] rfl (XU _) (by simp);rcases G with rfl|rfl
 iterate 2 exact Ea z.ev (Qb _)
def Cj(c:CB)(m:Int):Int:=((c.Au[m.toNat]?).map (·.AY)).getD 0
def C3(c:CB)(a b:Int):Bool:=c.Az.any λl=>(l.A'==a)&&(l.To==b)
def FU(c:CB)(len:Nat):Nat->Int->AA Int->Bool
 |_,_,[]=>AE
 |i,prev,m::r=>((Cj c m==1)==AG (i=0))&&(((Cj c m==3)==AG (i+1=len))&&((AG (i=0)||C3 c prev m)&&FU c len (i+1) m r))
def HU(c:CB)(d:AN)(r:AA Int):Bool:=
 (AG (2<=AI r)&&AG (AI r<=256))&&(FU c (AI r) 0 0 r&&((bif 0<=d.Ak then !((r.count d.Ak:Int)==0)&&((Cj c d.Ak==2)&&C3 c d.Ak d.Ak)else AE)&&d.Ar.all λx=>AG (x.B9<=(r.count x.Am:Int))))
def Dw(c:CB)(d:AN):Bool:=HU c d (DP [] d.Ad)
def FF(l:AA Int):AA (Int×Int):=l.foldl (λm k=>QJ m k (Qo m k 0+1)) []
theorem Qmg(l:AA Int)(k:Int):FF (l++[k])=QJ (FF l) k (Qo (FF l) k 0+1):=by unfold FF;simp
theorem k9(l:AA Int)(k:Int):Qo (FF l) k 0=(l.count k:Int):=by
 have d:∀(l:AA Int) (m:AA (Int×Int)),Qo (l.foldl (λm k=>QJ m k (Qo m k 0+1)) m) k 0=Qo m k 0+l.count k:=by
  intro l
  induction l with
  |nil=>simp
  |cons x l f=>
   grind[Y1]
 grind[FF,QlW]
theorem QjC(f:Int):∀(m:Nat) (l:AA CH) (d:AA Int),Ce l<=m->Cv f l=AE->(∀x∈d,0<=x/\x<=f)->∀x∈DP d l,0<=x/\x<=f:=by
 intro m
 induction m using Nat.strongRecOn with
 |_ m G=>
 intro l;have rep:∀(k:Nat) (d g:AA Int),(∀x∈d,0<=x/\x<=f)->(∀x∈g,0<=x/\x<=f)->∀x∈De k d g,0<=x/\x<=f:=by
  intro k
  induction k with
  |zero=>intro d g H _;exact H
  |succ k z=>
   grind[De]
 have E:∀(r:AA CH) (d:AA Int),Ce r<=m->Cv f r=AE->(∀x∈d,0<=x/\x<=f)->∀x∈DP d r,0<=x/\x<=f:=by
  intro r
  induction r with
  |nil=>intro d _ _ h;exact h
  |cons p r q=>
   intro d B t h;rw[Ce,YQ]at B;rw[Cv,XW]at t;obtain⟨j,F⟩:=t;refine q _ (by omega) F (rep _ _ _ h ?_);rw[SY];rw[ZF]at j;cases n:(p.As==0)with
   |true=>
    have e0:=by simpa using n
    rw[n,Vp,XW]at j;have:=j.1;unfold DI at this;simp[XW,Vr]at this;rw[e0];intro x y;simp at y;subst y;exact this
   |false=>
    rw[n]at j;simp[Vq,XW,DI,Vr]at j;rw[Yj (show 0<p.As by omega),Vp];exact G (Ce p.Ac) (by omega) p.Ac [] (XT _) j.2.2.2 (by simp)
 grind
theorem pQ{c:CB}{m:Int}(f:0<=m)(g:m<=(AI c.Au:Int)-1):∃x:Am,CJ c.Au m=AC x/\x.AY=Cj c m:=by
 obtain⟨k,rfl⟩:∃k:Nat,m=k:=⟨m.toNat,by omega⟩;have d:k<AI c.Au:=by omega
 simp_all[QB,Cj]
theorem pi(c:CB)(a b:Int):Qo (YD DC AE c.Az) {BW:=a,to_:=b} AD=C3 c a b:=by
 rw[su];by_cases h:{BW:=a,to_:=b}∈c.Az.map DC
 .rw[Vt h];obtain⟨l,d,e⟩:=Xe.1 h;obtain⟨f,g⟩:=NE.1 e;exact(Xt.2 ⟨l,d,by simp[f,g]⟩).symm
 .rw[Vs h]
  symm
  rw[VM];intro q;obtain⟨l,d,e⟩:=Xt.1 q;simp[XW,Vy]at e
  grind[DC]
structure LX (c:CB):Prop where
 kinds:∀m∈c.Au,1<=m.AY/\m.AY<=3
 dist:∀d∈c.AO,-1<=d.Ak/\d.Ak<=(AI c.Au:Int)-1/\Cv ((AI c.Au:Int)-1) d.Ad=AE
theorem QoP{c:CB}(h:C5 c=AE):LX c:=by
 unfold C5 at h;simp[XW,Xs]at h;refine⟨λm f=>?_,λd g=>?_⟩
 .grind[DI]
 simp_all[ID,DI]
theorem zU{c:CB}(q:LX c){d:AN}(hd:d∈c.AO):∀x∈DP [] d.Ad,0<=x/\x<=(AI c.Au:Int)-1:=
 QjC _ _ d.Ad [] (XT _) (q.dist d hd).2.2 (by simp)
theorem Qny(c:CB)(len i:Nat)(prev m:Int)(r:AA Int):FU c len i prev (m::r)=(((Cj c m==1)==AG (i=0))&&(((Cj c m==3)==AG (i+1=len))&&((AG (i=0)||C3 c prev m)&&FU c len (i+1) m r))):=rfl
theorem _u(i:Nat):((i:Int)==0)=AG (i=0):=by
 grind
theorem Qgb(c:CB)(r:AA Int)(F:2<=AI r)(X:AI r<=256)(J:∀x∈r,0<=x/\x<=(AI c.Au:Int)-1):
  Ev (λn=>iter (KP n c (YD DC AE c.Az) r) n ([],0)) (bif FU c (AI r) 0 0 r then .k (FF r)else .d AD):=by
 have loop:∀(t:AA Int) (i:Nat) (d:Int),r.drop i=t->i<=AI r->(0<i->At r (i-1) d)->DW (λn=>KP n c (YD DC AE c.Az) r) (FF (r.take i),(i:Int)) (bif FU c (AI r) i d t then .k (FF r)else .d AD):=by
  intro t
  induction t with
  |nil=>
   intro i d j B _;refine Ej ?_;unfold KP;simp only[Yt j B,Vq,FU,Vp]
   simp_all[VI,Qb]
  |cons m t Q=>
   intro i d j B R;obtain⟨f,k⟩:=QG (by omega) j;have P:=f.lt';obtain⟨W,M⟩:=J m f.mem;obtain⟨x,H,L⟩:=pQ W M;have N:i64.wrap ((AI r:Int)-1)=((AI r-1:Nat):Int):=by rw[Qt (by omega) (by omega)];omega
   have G:((i:Int)==((AI r-1:Nat):Int))=AG (i+1=AI r):=by grind
   have O:Ev (λn:Nat=>((bif ((x.AY==1) != ((i:Int)==0))then AC AE else(bif ((x.AY==3) != ((i:Int)==(i64.wrap ((AI r:Int)-1))))then AC AE else(bif 0<(i:Int) then(CJ r (i64.wrap ((i:Int)-1))).bind λq=>(AC (Qo (YD DC AE c.Az) ({BW:=q,to_:=m:Ul}) AD)).bind λz=>AC (!z)else AC AD))):AB Bool))
     (!(((Cj c m==1)==AG (i=0))&&(((Cj c m==3)==AG (i+1=AI r))&&(AG (i=0)||C3 c d m)))):=by
    rw[L,N,G,_u];refine Ew (QN λ_=>QN λ_=>JN (v:= !C3 c d m) (w:=AD) (λh=>?_) λ_=>Qb _) ?_
    .have y:0<i:=by simpa using h
     have V:i64.wrap ((i:Int)-1)=((i-1:Nat):Int):=by rw[Qt (by omega) (by omega)];omega
     rw[V,(R y).ix];simp only[XJ,pi];exact Qb _
    grind
   have g:i64.wrap (Qo (FF (r.take i)) m 0+1)=Qo (FF (r.take i)) m 0+1:=by
    rw[k9];have:(r.take i).count m<=i:=by have:=List.count_le_length (a:=m) (l:=r.take i);simp at this;omega
    exact Qt (by omega) (by omega)
   have step:Ev (λn=>KP n c (YD DC AE c.Az) r (FF (r.take i),(i:Int))) (bif ((Cj c m==1)==AG (i=0))&&(((Cj c m==3)==AG (i+1=AI r))&&(AG (i=0)||C3 c d m))then .k (FF (r.take (i+1)),((i+1:Nat):Int))else .d (.d AD)):=by
    unfold KP;simp only[f.lt,Vp,f.ix,XJ,f.nx,H];refine Ea O ?_;rw[g, <- Qmg, <- f.take];cases(((Cj c m==1)==AG (i=0))&&(((Cj c m==3)==AG (i+1=AI r))&&(AG (i=0)||C3 c d m)))<;>exact Qb _
   have T:FU c (AI r) i d (m::t)=((((Cj c m==1)==AG (i=0))&&(((Cj c m==3)==AG (i+1=AI r))&&(AG (i=0)||C3 c d m)))&&FU c (AI r) (i+1) m t):=by rw[Qny];simp only[Bool.and_assoc]
   rw[T];cases E:(((Cj c m==1)==AG (i=0))&&(((Cj c m==3)==AG (i+1=AI r))&&(AG (i=0)||C3 c d m)))with
   |false=>
    rw[E]at step;exact Ej step
   |true=>
    rw[E]at step;rw[Vz];exact Ex step (Q (i+1) m k (by omega) (λ_=>by simpa using f))
 exact(loop r 0 0 rfl (XU _) (by omega)).ev
theorem QjK(c:CB)(w:C0 c)(q:LX c)(d:AN)(g:d∈c.AO)(F:∀x∈d.Ad,CH.wf x)(z:Ce d.Ad<=256):
  Ev (λn=>PD n c d (YD DC AE c.Az)) (Dw c d):=by
 have t:=ZG d.Ad;have y:=zU q g;have f:=qF _ d.Ad [] (XT _);unfold PD Dw;refine Ea (Qma _ _ d.Ad (XT _) z (by omega) F (q.dist d g).2.2) ?_;generalize DP [] d.Ad=r at y f⊢;unfold HU;have e3:=by
  have:AI r<=1048576:=by simp at f;omega
  exact ZH this
 rw[e3];have H:(AG ((AI r:Int)-1<1)||AG (256<=(AI r:Int)-1))= !(AG (2<=AI r)&&AG (AI r<=256)):=by
  grind
 refine Ea (Ew (QN λ_=>Qb _) H) ?_;cases h:(AG (2<=AI r)&&AG (AI r<=256))with
 |false=>exact Qb _
 |true=>
  simp[XW,Vr]at h;refine QY (Ea (Qgb c r h.1 h.2 y) ?_);cases FU c (AI r) 0 0 r with
  |false=>exact Qb _
  |true=>
   have E:Ev (λn=>(bif 0<=d.Ak then(AC (Qo (FF r) d.Ak 0)).bind λk=>(bif (k==0)then AC AE else(CJ c.Au d.Ak).bind λm=>(bif (m.AY != 2)then AC AE else(AC (Qo (YD DC AE c.Az) ({BW:=d.Ak,to_:=d.Ak:Ul}) AD)).bind λj=>AC (!j)))else AC AD))
     (!(bif 0<=d.Ak then !((r.count d.Ak:Int)==0)&&((Cj c d.Ak==2)&&C3 c d.Ak d.Ak)else AE)):=by
    rw[k9];cases J:AG (0<=d.Ak)with
    |false=>exact Qb _
    |true=>
     obtain⟨x,B,G⟩:=pQ (by simpa using J) (q.dist d g).2.1;simp only[XJ,B,pi,G];refine Ew (QN λ_=>QN λ_=>Qb _) ?_;rw[bne];cases((r.count d.Ak:Int)==0)<;>cases(Cj c d.Ak==2)<;>cases C3 c d.Ak d.Ak<;>rfl
   refine Ea E ?_;cases(bif 0<=d.Ak then !((r.count d.Ak:Int)==0)&&((Cj c d.Ak==2)&&C3 c d.Ak d.Ak)else AE)with
   |false=>exact Qb _
   |true=>
    refine QY (Ea ?_ (Qb _));refine Jo d.Ar _ (λn x=>Oc n x (FF r)) (by have:=w.cut d g;omega) λx _=>?_;unfold Oc;rw[k9];exact Qb _
theorem Q_{a b:Nat}(h:a+b<=4611686018427387904):i64.wrap ((a:Int)+(b:Int))=((a+b:Nat):Int):=by
 rw[Qt (by omega) (by omega)];omega
def LG(c:CB):Nat:=AI c.Au+AI c.Az+AI c.AO+AI c.A0+AI c.Ab+AI c.AV+AI c.Ay
def aZ(d:AN):Prop:=AI d.Ar<=200/\Ce d.Ad<=200/\Fx d.Ad<=16
structure F7 (c:CB):Prop where
 lens:LG c<=200
 name:AI c.Ap<=100
 dist:∀d∈c.AO,aZ d
 ties:AI c.BL<=200
theorem QhA(c:CB)(w:C0 c)(q:D4 c)(hl:AI c.BL<=1048576)(R:∀x∈c.BL,AX.wf x):∃b,Ev (λn=>KZ n c) b/\(b=AE->F7 c):=by
 have hm:=w.mats;have hg:=w.legs;have hd:=w.dist;have N:=w.wave;have ho:=w.off;have hc:=w.cat;have hp:=w.prize;have loop:∀(t:AA AN) (i s:Nat),c.AO.drop i=t->i<=AI c.AO->∃f:CG Int Bool,DW (λn=>KQ n c) ((s:Int),(i:Int)) f/\(f=.d AD\/ ∃v:Nat,f=.k (v:Int)/\(v<=200->s<=v/\ ∀d∈t,aZ d)):=by
  intro t
  induction t with
  |nil=>
   intro i s E M;refine⟨.k (s:Int),Ej ?_,Or.inr ⟨s,rfl,λ_=>⟨XT _,by simp⟩⟩⟩;unfold KQ;simp only[Yt E M,Vq,XJ];exact Qb _
  |cons d t ih=>
   intro i s E M;obtain⟨g,F⟩:=QG (by omega) E;have aa:=g.lt';by_cases hs:s<=200
   .have j:=q.len d g.mem;have m:=q.wf d g.mem;have L:=w.cut d g.mem;have H:=si _ d.Ad (XT _) j m;have O:=sj _ d.Ad 17 (XT _) (XT _) j m;have T:i64.wrap ((s:Int)+(AI d.Ar:Int))=((s+AI d.Ar:Nat):Int):=Q_ (by omega);have X:i64.wrap (((s+AI d.Ar:Nat):Int)+((min (Ce d.Ad) 257:Nat):Int))=((s+AI d.Ar+min (Ce d.Ad) 257:Nat):Int):=Q_ (by omega);have step:Ev (λn=>KQ n c ((s:Int),(i:Int))) (bif (16:Int)<((min (Fx d.Ad) 17:Nat):Int) then .d (.d AD)else .k (((s+AI d.Ar+min (Ce d.Ad) 257:Nat):Int),((i+1:Nat):Int))):=by
     unfold KQ;simp only[g.lt,Vp,g.ix,XJ,g.nx,Yj (show(s:Int)<=200 by omega)];refine Ea H (Ea O ?_);rw[T,X];cases AG ((16:Int)<((min (Fx d.Ad) 17:Nat):Int))<;>exact Qb _
    by_cases hh:Fx d.Ad<=16
    .rw[Yp (show¬(16:Int)<((min (Fx d.Ad) 17:Nat):Int)by omega)]at step;obtain⟨f,z,k⟩:=ih (i+1) (s+AI d.Ar+min (Ce d.Ad) 257) F (by omega);refine⟨f,Ex step z,?_⟩;rcases k with k|⟨v,k,G⟩
     .exact Or.inl k
     .refine Or.inr ⟨v,k,λN=>?_⟩;obtain⟨k4,B⟩:=G N;refine⟨by omega,λx J=>?_⟩;rcases X7.1 J with rfl|J
      .exact⟨by omega,by omega,hh⟩
      .exact B x J
    .rw[Yj (show(16:Int)<((min (Fx d.Ad) 17:Nat):Int)by omega)]at step;exact⟨.d AD,Ej step,Or.inl rfl⟩
   .refine⟨.k (s:Int),Ej ?_,Or.inr ⟨s,rfl,λh=>absurd h hs⟩⟩;unfold KQ;simp only[g.lt,Vp,Yp (show¬(s:Int)<=200 by omega),XJ,Vq];exact Qb _
 obtain⟨f,z,k⟩:=loop c.AO 0 (LG c) rfl (XU _);have e:i64.wrap ((i64.wrap ((i64.wrap ((i64.wrap ((i64.wrap ((i64.wrap ((AI c.Au:Int)+(AI c.Az:Int)))+(AI c.AO:Int)))+(AI c.A0:Int)))+(AI c.Ab:Int)))+(AI c.AV:Int)))+(AI c.Ay:Int))=(LG c:Int):=by
  have h1:AI c.Au+AI c.Az<=4611686018427387904:=by omega
  have Q:AI c.Au+AI c.Az+AI c.AO<=4611686018427387904:=by omega
  have V:AI c.Au+AI c.Az+AI c.AO+AI c.A0<=4611686018427387904:=by omega
  have W:AI c.Au+AI c.Az+AI c.AO+AI c.A0+AI c.Ab<=4611686018427387904:=by omega
  have P:AI c.Au+AI c.Az+AI c.AO+AI c.A0+AI c.Ab+AI c.AV<=4611686018427387904:=by omega
  have Y:AI c.Au+AI c.Az+AI c.AO+AI c.A0+AI c.Ab+AI c.AV+AI c.Ay<=4611686018427387904:=by omega
  rw[Q_ h1,Q_ Q,Q_ V,Q_ W,Q_ P,Q_ Y];rfl
 unfold KZ;rw[e];rcases k with rfl|⟨v,rfl,G⟩
 .exact⟨AD,Ea z.ev (Qb _),λh=>by cases h⟩
 .obtain⟨a,b,H,O,p3,_,_,_,_⟩:=pF _ c.BL 0 (XT _) (by omega) hl R;have y:Ev (λn=>N3 n c.BL) (AG ((AI c.BL:Int)<=20)&&(AG (a<=80)&&AG (b<=300))):=by
   unfold N3;exact Ea H (Ea (Ei λ_=>Ei λ_=>Qb _) (Qb _))
  refine⟨AG ((v:Int)<=200)&&(AG ((AI c.Ap:Int)<=100)&&(AG ((AI c.BL:Int)<=20)&&(AG (a<=80)&&AG (b<=300)))),Ea z.ev (Ea (Ei λ_=>Ei λ_=>Ea y (Qb _)) (Qb _)),λh=>?_⟩;simp only[XW,Vr]at h;obtain⟨k4,B⟩:=G (by omega);exact⟨by omega,by omega,B,by omega⟩
def Fm(c:CB):Bool:=
 !(AG (40<(AI c.Au:Int))||(AG (512<(AI c.Az:Int))||(AG (8<(AI c.AO:Int))||(AG (32<(AI c.A0:Int))||(AG (32<(AI c.Ab:Int))||(AG (32<(AI c.AV:Int))||AG (32<(AI c.Ay:Int))))))))
  &&c.AO.all λd=> !decide (64<(AI d.Ar:Int))
theorem y?(c:CB)(w:C0 c)(q:D4 c)(k:F7 c):Ev (λn=>PI n c) (Fm c):=by
 unfold PI Fm;refine Ea (QN λ_=>QN λ_=>QN λ_=>QN λ_=>QN λ_=>QN λ_=>Qb _) ?_;cases(AG (40<(AI c.Au:Int))||(AG (512<(AI c.Az:Int))||(AG (8<(AI c.AO:Int))||(AG (32<(AI c.A0:Int))||(AG (32<(AI c.Ab:Int))||(AG (32<(AI c.AV:Int))||AG (32<(AI c.Ay:Int))))))))with
 |true=>exact Qb _
 |false=>
  refine QY (Ea (rk c.AO (λd=> !decide (64<(AI d.Ar:Int))) (CG.d AD) (CG.k ()) (by have:=w.dist;omega) (λi x f=>?_) ?_) ?_)
  .obtain⟨j,h,g⟩:=k.dist x f.mem;unfold S2;simp only[f.lt,f.ix,XJ,f.nx];refine Ea (Qof _ x.Ad 17 (XT _) (by omega) (XT _) (by omega) (q.wf x f.mem)) ?_
   grind[Qb]
  .simp_all[S2,Qb]
  .cases(c.AO.all λd=> !decide (64<(AI d.Ar:Int)))<;>exact Qb _
def CP(c:CB):Int:=
 bif Fm c then bif HW c then bif C5 c then bif Hy c.BL==0 then bif c.AO.all (Dw c)then 0 else 72 else Hy c.BL else 71 else 70 else 2
theorem Qmd(c:CB)(w:C0 c)(q:D4 c)(k:F7 c)(t:AI c.BL<=1048576)(j:∀x∈c.BL,AX.wf x):Ev (λn=>F0 n c) (CP c):=by
 unfold F0 CP;refine Ea (y? c w q k) ?_;cases Fm c with
 |false=>exact Qb _
 |true=>
 refine QY (Ea (Qn9 c w) ?_);cases HW c with
 |false=>exact Qb _
 |true=>
 refine QY (Ea (QjJ c w q) ?_);cases h:C5 c with
 |false=>exact Qb _
 |true=>
 refine QY (Ea (_d c.BL t j) ?_);rw[bne];cases(Hy c.BL==0)with
 |false=>exact Qb _
 |true=>
 have g:Ev (λn=>iter (Nt n c) n ([],0)) (YD DC AE c.Az):=by
  refine mC c.Az DC AE (by have:=w.legs;omega) (λi x m d=>?_) (λm=>?_)
  .unfold Nt;simp only[d.lt,d.ix,d.nx];exact Qb _
  simp_all[Nt,Qb]
 refine QY (Ea g ?_);have d:Ev (λn=>V9 n c.AO c (YD DC AE c.Az)) (c.AO.all (Dw c)):=by
  refine Jo c.AO _ (λn x=>U6 n x c (YD DC AE c.Az)) (by have:=w.dist;omega) λx f=>?_;exact Ea (QjK c w (QoP h) x f (q.wf x f) (by have:=(k.dist x f).2.1;omega)) (Qb _)
 refine Ea d ?_
 grind[Qb]
theorem ox{α:Type}(l:AA α){a b:Nat}(h:a<=b)(d:b<=AI l):Dd l (a:Int) (b:Int)=AC ((l.take b).drop a):=by
 grind[Dd]
theorem oO{α:Type}(l:AA α){b:Nat}(d:b<=AI l):Dd l 0 (b:Int)=AC (l.take b):=by
 have:=ox l (XU b) d
 grind
theorem Qnt{α:Type}(l:AA α){a:Nat}(d:a<=AI l):Dd l (a:Int) (AI l:Int)=AC (l.drop a):=by
 simp_all[ox]
theorem pX{α:Type}(l m:AA α)(h:AI l+AI m<=4294967296):app l m=AC (l++m):=by
 unfold app;rw[XS (by exact h)];rfl
theorem p_{α:Type}(l:AA α){i:Nat}(x:α)(h:i<AI l):JG l (i:Int) x=AC (l.set i x):=by
 grind[JG]
def DX{α:Type}(q:α->Bool):AA α->Nat->Int
 |[],_=> -1
 |x::l,i=>bif q x then(i:Int)else DX q l (i+1)
theorem Ev.first{α:Type}{step:Nat->Int->AB (CG Int (CG Unit Int))}(l:AA α)(q:α->Bool)(B:AI l<=4611686018427387904)
  (g:∀i x,At l i x->Ev (λn=>step n (i:Int)) (bif q x then .d (.d (i:Int))else .k ((i+1:Nat):Int)))(t:Ev (λn=>step n (AI l:Int)) (.d (.k ()))):
  Ev (λn=>(Go.Sw.iter (step n) n 0).bind λb=>match b with|.k _=>AC (-1)|.d v=>AC v) (DX q l 0):=by
 have loop:∀(r:AA α) (i:Nat),l.drop i=r->i<=AI l->∃d:CG Unit Int,DW step i d/\(match d with|.k _=>AC (-1)|.d v=>AC v)=AC (DX q r i):=by
  intro r
  induction r with
  |nil=>
   intro i f z;have:i=AI l:=by have:=Xq.1 f;omega
   subst this;exact⟨.k (),Ej t,rfl⟩
  |cons x r E=>
   intro i f z;obtain⟨j,m⟩:=QG B f;have s:=g i x j;unfold DX;cases h:q x with
   |true=>
    rw[h]at s;exact⟨_,Ej s,rfl⟩
   |false=>
    grind[DW.cont]
 obtain⟨d,k,y⟩:=loop l 0 rfl (XU _);exact Ea k.ev (EB y)
theorem dX{α:Type}(q:α->Bool):∀(l:AA α) (i:Nat),(DX q l i= -1/\l.all (λx=> !q x)=AE)\/ ∃j x,DX q l i=((i+j:Nat):Int)/\l[j]?=AC x/\q x=AE/\(l.take j).all (λx=> !q x)=AE
 |[],_=>.inl ⟨rfl,rfl⟩
 |x::l,i=>by
  unfold DX;cases h:q x with
  |true=>exact .inr ⟨0,x,rfl,rfl,h,rfl⟩
  |false=>
   rcases dX q l (i+1)with⟨h1,h2⟩|⟨j,y,h1,h2,h3,h4⟩
   .grind
   .refine .inr ⟨j+1,y,by grind,h2,h3,by simp[h,h4]⟩
theorem rv{α:Type}{p:α->Bool}{l:AA α}(h:l.all p=AE):l.filter p=l:=(by simp_all)
theorem QmN{α:Type}{first:Nat->AB Int}{step:Nat->AA α×Int×Int->AB (CG (AA α×Int×Int) (AA α×Int))}(d:AA α)(q:α->Bool)(hl:AI d<=1048576)
  (W:Ev first (DX q d 0))
  (hs:∀(l:AA α) (i j:Nat) x y,AI l<=1048576->At l j x->l[i]?=AC y->x∈d->i<=j->Ev (λn=>step n (l,(i:Int),(j:Int))) (.k (bif q x then l else l.set i x,(bif q x then(i:Int)else((i+1:Nat):Int)),((j+1:Nat):Int))))
  (hd:∀(l:AA α) (i:Int),Ev (λn=>step n (l,i,(AI l:Int))) (.d (l,i))):
  Ev (λn=>(first n).bind λr1=>bif r1== -1 then AC d else(Go.Sw.iter (step n) n (d,r1,i64.wrap (r1+1))).bind λb=>(Dd b.1 0 b.2).bind λx=>AC x) (d.filter λx=> !q x):=by
 refine Ea W ?_;rcases dX q d 0 with⟨N,M⟩|⟨G,x0,N,M,X,Y⟩
 .rw[N,rv M];exact Qb _
 .have V:=(XL.1 M).1;rw[Xv]at N;rw[N];have e0:((G:Int)== -1)=false:=by simp
  rw[e0,YS (by omega)];have loop:∀(r l:AA α) (i j:Nat),d.drop j=r->j<=AI d->i<j->AI l=AI d->l.drop j=d.drop j->l.take i=(d.take j).filter (λx=> !q x)->∃k:AA α,∃t:Nat,DW step (l,i,j) (k,t)/\t<=AI k/\k.take t=d.filter λx=> !q x:=by
   intro r
   induction r with
   |nil=>
    intro l i j O hj Q f J m;have:j=AI l:=by have:=Xq.1 O;omega
    subst this;refine⟨l,i,Ej (hd l _),by omega,?_⟩;rw[m,f,Va]
   |cons x r T=>
    intro l i j O hj Q f J m;have P:l.drop j=x::r:=by rw[J,O]
    obtain⟨R,L⟩:=QG (by omega) P;obtain⟨z,g⟩:=QG (by omega) O;have aa:=R.lt';have s:=hs l i j x l[i] (by omega) R (XK (by omega)) z.mem (by omega);cases h:q x with
    |true=>
     rw[h]at s;obtain⟨k,t,B,F,E⟩:=T l i (j+1) g (by omega) (by omega) f (by rw[L,g]) (by rw[z.take,List.filter_append,m];simp[h]);exact⟨k,t,Ex s B,F,E⟩
    |false=>
     rw[h]at s;obtain⟨k,t,B,F,E⟩:=T (l.set i x) (i+1) (j+1) g (by omega) (by omega) (by simpa using f) (by rw[List.drop_set_of_lt (by omega),L,g])
      (by
       rw[z.take,List.filter_append, <- m];have:i<AI (l.set i x):=by simp;omega
       rw[List.take_add_one,XK this];simp[h,List.take_set_of_le])
     exact⟨k,t,Ex s B,F,E⟩
  have H:d.take (G+1)=d.take G++[x0]:=by rw[List.take_add_one,M];rfl
  obtain⟨k,t,B,F,E⟩:=loop _ d G (G+1) rfl (by omega) (by omega) rfl rfl (by rw[H,List.filter_append,rv Y];simp[X]);refine QY (Ea B.ev ?_);rw[<- E];exact EB (by simp[oO k F])
theorem mI{ι α:Type}{F:Nat->ι->AB α}{V:ι->α}:∀(L:AA ι),(∀p∈L,Ev (λn=>F n p) (V p))->∃N,∀n,N<=n->∀p∈L,F n p=AC (V p)
 |[],_=>(by simp)
 |x::L,h=>by
  obtain⟨N,hN⟩:=mI L λp hp=>h p (by simp[hp]);obtain⟨M,hM⟩:=h x (by simp);refine⟨N+M,λn hn p hp=>?_⟩
  grind
theorem Ev.anyP{E R:Type}[DecidableEq R]{k:Nat->AA E->AB R}{l:AA E}{r:R}(h:∀p,p.Perm l->Ev (λn=>k n p) r):Ev (λn=>Go.Sw.anyP (k n) l) r:=by
 obtain⟨N,f⟩:=mI (Kz l) λp d=>h p (g_ l p d);exact⟨N,λn g=>_T λp d=>f n g p (lw l p d)⟩
theorem Ev.isNil{α R:Type}[DecidableEq R]{l:AA α}{x y:Nat->AB R}{v:R}(f:l=[]->Ev x v)(d:Ev y v):Ev (λn=>Go.Sw.isNil l (x n) (y n)) v:=by
 unfold Go.Sw.isNil;cases q:l.isEmpty with
 |false=>exact d
 |true=>
  obtain⟨N,j⟩:=f (List.isEmpty_iff.1 q);obtain⟨M,h⟩:=d;exact⟨N+M,λn g=>by grind⟩
set_option maxRecDepth 4000
def C1(a b:Int):Int:=bif a<b then-1 else bif b<a then 1 else 0
theorem pD(n:Nat)(a b:Int):KM n a b=AC (C1 a b):=by
 unfold KM Od C1
 grind
def Hq:AA Int->Int
 |[]=>0
 |x::r=>bif x != 0 then x else Hq r
theorem nt(l:AA Int)(m:AI l<=1000):Ev (λn=>I3 n l) (Hq l):=by
 have loop:∀(r:AA Int) (i:Nat),l.drop i=r->i<=AI l->DW (λn=>Hm n l) i (bif Hq r==0 then CG.k ()else CG.d (Hq r)):=by
  intro r
  induction r with
  |nil=>
   intro i g h;refine Ej ?_;unfold Hm;simp only[Yt g h];exact Qb _
  |cons x r k=>
   intro i g h;obtain⟨d,f⟩:=QG (by omega) g;have j:=d.lt';unfold Hq;cases q:(x != 0)with
   |true=>
    have e:(x==0)=false:=by grind
    simp[Vp,e];refine Ej ?_;unfold Hm;simp only[d.lt,d.ix,XJ,q];exact Qb _
   |false=>
    refine Ex ?_ (k (i+1) f (by omega));unfold Hm;simp only[d.lt,d.ix,XJ,q,d.nx];exact Qb _
 refine Ea (loop l 0 rfl (XU _)).ev ?_
 grind[Qb]
theorem po{β:Type}(m:AA (Int×β))(k:Int):Fc m k=(JC m k).isSome:=by
 unfold Fc JC
 grind
theorem j?{n:Nat}(h:n<=1048576):Nat.ble n YE=true:=XS (XV h (by decide))
theorem fW{a b:Int}:C1 a b=0↔a=b:=by
 grind[C1]
set_option maxRecDepth 4000
structure DT {α:Type} (c:α->α->Int):Prop where
 swap:∀x y,c y x= -c x y
 trans:∀x y z,c x y<0->c y z<0->c x z<0
 eqt:∀x y z,c x y=0->c x z=c y z
section
variable {α:Type} {c d:α->α->Int}
theorem DT.refl(h:DT c)(x:α):c x x=0:=by have:=h.swap x x;omega
theorem DT.eqr(h:DT c){x y:α}(z:α)(e:c x y=0):c z x=c z y:=by
 rw[h.swap x z,h.swap y z,h.eqt x y z e]
theorem DT.lex(h:DT c)(k:DT d):DT λx y=>bif c x y != 0 then c x y else d x y:=by
 refine⟨λx y=>?_,λx y z=>?_,λx y z=>?_⟩
 .have e:=h.swap x y;by_cases q:c x y=0
  .have f:c y x=0:=by omega
   rw[q,f];exact k.swap x y
  grind
 .by_cases q:c x y=0
  .have e:=h.eqt x y z q;rw[q,e];by_cases f:c y z=0
   .rw[f];exact k.trans x y z
   grind
  .rw[bne_iff_ne.2 q];by_cases f:c y z=0
   .have e:=h.eqr x f
    grind
   .rw[bne_iff_ne.2 f];intro a b;have:=h.trans x y z a b
    grind
 .by_cases q:c x y=0
  .rw[q,h.eqt x y z q];intro e;rw[k.eqt x y z e]
  grind
theorem DT.on{β:Type}(h:DT c)(f:β->α):DT λx y=>c (f x) (f y):=
 ⟨λx y=>h.swap _ _,λx y z=>h.trans _ _ _,λx y z=>h.eqt _ _ _⟩
end
theorem Fy:DT C1:=by
 have e:∀a b,C1 a b=if a<b then-1 else if b<a then 1 else 0:=by
  intro a b;unfold C1
  grind
 refine⟨λx y=>?_,λx y z=>?_,λx y z=>?_⟩
 iterate 3 grind
theorem Y0{c:CB}(h:CB.wf c):C0 c:=by
 obtain⟨F,⟨n,g⟩,⟨m,G⟩,⟨k,f⟩,⟨j,B⟩,⟨E,y⟩,⟨q,z⟩,⟨t,H⟩,_⟩:=h;exact⟨F,n,λx d=>(g x d).1,m,k,λx d=>(f x d).1,λx d=>(f x d).2.2.2.1.1,j,λx d=>(B x d).1,E,λx d=>(y x d).1,q,λx d=>(z x d).1,t⟩
theorem Jt{c:CB}(h:CB.wf c):D4 c:=by
 obtain⟨_,_,_,⟨j,g⟩,_⟩:=h;exact⟨λd f=>(g d f).2.1.1,λd f=>(g d f).2.1.2⟩
theorem ka{c:CB}(h:CB.wf c):AI c.BL<=1048576/\ ∀x∈c.BL,AX.wf x:=by
 obtain⟨_,_,_,_,_,_,_,_,d,_⟩:=h;exact d
theorem tM(p:Nat->Bool):∀k,(∀i,i<k->p i=AE)\/ ∃j,j<k/\p j=AD/\ ∀i,i<j->p i=AE
 |0=>(by simp)
 |k+1=>by
  rcases tM p k with h|⟨j,h1,h2,h3⟩
  .grind
  grind
theorem fX{p:Nat->Bool}{k:Nat}:(List.range k).all p=AE↔ ∀i,i<k->p i=true:=by simp
theorem dB{B:Type}{step:Nat->Int->AB (CG Int B)}(k:Nat)(p:Nat->Bool)(m b:B)
  (g:∀i,i<k->Ev (λn=>step n (i:Int)) (bif p i then .k ((i+1:Nat):Int)else .d m))(y:Ev (λn=>step n (k:Int)) (.d b)):
  Ev (λn=>Go.Sw.iter (step n) n 0) (bif (List.range k).all p then b else m):=by
 rcases tM p k with h|⟨j,t,f,x⟩
 .rw[fX.2 h];exact Ev.iter (λi=>(i:Int)) k rfl (λi d=>(g i d).eq (by rw[h i d];rfl)) y
 .have:(List.range k).all p=false:=by
   rw[VM];intro q;rw[fX.1 q j t]at f;cases f
  rw[this];exact Ev.iter (λi=>(i:Int)) j rfl (λi d=>(g i (by omega)).eq (by rw[x i d];rfl)) ((g j t).eq (by rw[f];rfl))
theorem nY{α:Type}{l:AA α}{i:Nat}(hl:AI l<=1048576)(hi:i<AI l):At l i l[i]:=Y3 (by omega) (by simp)
theorem SM{n:Nat}(h:n<=1048576):i64.wrap ((n:Int)+1)=((n+1:Nat):Int):=YS (by omega)
def LA(x y:CC):Bool:=AG (x.Am<y.Am)||((x.Am==y.Am)&&AG (x.Ag<y.Ag))
def Ic(x y:CC):Int:=Hq [C1 x.Am y.Am,C1 x.Ag y.Ag]
theorem Qmi(x y:CC):AG (0<=Ic x y)= !LA x y:=by
 grind[Ic,LA,Hq,C1]
theorem ST(a b:Int):Ev (λn=>KM n a b) (C1 a b):=Ev.congr (Qb _) λn=>pD n a b
theorem QiW(x y:CC):Ev (λn=>MA n x y) (Ic x y):=by
 unfold MA V_;exact Ea (Ea (ST _ _) (Ea (ST _ _) (Ea (nt _ (by simp)) (Qb _)))) (Qb _)
def FO(x:Int):Bool:=DI (-1099511627776) 1099511627776 x
theorem dO(x:Int):Ev (λn=>Hn n x) (FO x):=by
 simp_all[Hn,FO,DI,Ei,Qb]
def JS(c:CE)(i:Nat)(x:CC):Bool:=AG (0<(i:Int))&& !(match c.AS[i-1]? with|some y=>LA y x|none=>AE)
def HT(c:CE)(i:Nat)(x:CC):Bool:=AG (x.Am<0)||(AG (40<=x.Am)||(AG (x.Ag<0)||(AG (255<x.Ag)||(!FO x.BK||JS c i x))))
def H6(c:CE):Bool:=(List.range (AI c.AS)).all λi=>match c.AS[i]? with|some x=> !HT c i x|none=>AE
theorem QnS{α:Type}{l:AA α}{i:Nat}{y:α}(f:AI l<=1048576)(hi:0<i)(d:i<=AI l)(h:l[i-1]?=AC y):CJ l (i64.wrap ((i:Int)-1))=AC y:=by
 grind[Qt,QB]
theorem Qp0(c:CE)(m:AI c.AS<=1048576):Ev (λn=>iter (Nm n c) n 0) (bif H6 c then CG.k ()else CG.d 160):=by
 unfold H6;refine dB (AI c.AS) _ _ _ (λi t=>?_) ?_
 .have d:=nY m t;unfold Nm;simp only[d.lt,Vp,d.ix,XJ,d.nx,d.get];have:Ev (λn=>((bif (c.AS[i]).Am<0 then AC AE else(bif 40<=(c.AS[i]).Am then AC AE else(bif (c.AS[i]).Ag<0 then AC AE else(bif 255<(c.AS[i]).Ag then AC AE else(Hn n (c.AS[i]).BK).bind λj=>(bif (!j)then AC AE else(bif 0<(i:Int) then(CJ c.AS (i64.wrap ((i:Int)-1))).bind λg=>(MA n g (c.AS[i])).bind λf=>AC (AG (0<=f))else AC AD)))))):AB Bool)) (HT c i (c.AS[i])):=by
   unfold HT;refine QN λ_=>QN λ_=>QN λ_=>QN λ_=>Ea (dO _) (QN λ_=>?_);unfold JS;refine Ei λh=>?_;have q:0<i:=by grind
   have k:i-1<AI c.AS:=by omega
   rw[QnS m q (by omega) (XK k),XK k];simp only[XJ];exact Ea (QiW _ _) ((Qb _).eq (Qmi _ _))
  refine Ea this ?_
  grind[Qb]
 simp_all[Nm,Qb]
def HZ(x:Int):Bool:=AG (x< -2199023255552)||AG (2199023255552<x)
theorem Ql9(l:AA Int)(d:AI l<=1048576):Ev (λn=>MD n l) (l.any HZ):=by
 unfold MD VS;refine Ev.contains l HZ (λn x=>OC n x) (by omega) λx _=>?_
 simp_all[OC,HZ,QN,Qb]
def LC(c:CE)(i:Nat)(r:AA Int):Bool:= !(((AI r:Int) != ((AI c.AS+1:Nat):Int))||((r[i]?.getD 1 != 0)||r.any HZ))
def H8(c:CE):Bool:=(List.range (AI c.BN)).all λi=>match c.BN[i]? with|some r=>LC c i r|none=>AE
theorem Qp1(c:CE)(m:AI c.AS<=1048576)(t:AI c.BN<=1048576)(x:∀r∈c.BN,AI r<=1048576)(y:AI c.BN=AI c.AS+1):
  Ev (λn=>iter (Ns n c) n 0) (bif H8 c then CG.k ()else CG.d 160):=by
 unfold H8;refine dB (AI c.BN) _ _ _ (λi q=>?_) ?_
 .have g:=nY t q;unfold Ns;simp only[g.lt,Vp,g.ix,XJ,g.nx,g.get,SM m];have:Ev (λn=>((bif ((AI (c.BN[i]):Int) != ((AI c.AS+1:Nat):Int))then AC AE else(CJ (c.BN[i]) (i:Int)).bind λf=>(bif (f != 0)then AC AE else(MD n (c.BN[i])).bind λd=>AC d)):AB Bool)) (!LC c i (c.BN[i])):=by
   unfold LC;rw[Bool.not_not];refine QN λh=>?_;have j:AI (c.BN[i])=AI c.AS+1:=by
    grind
   have k:i<AI (c.BN[i]):=by omega
   simp_all[QB,QN,Ql9]
  refine Ea this ?_;cases LC c i (c.BN[i])<;>exact Qb _
 simp_all[Ns,Qb]
def D1(c:CE)(i j:Nat):Int:=((c.BN[i]?.getD [])[j]?).getD 0
structure Kl (c:CE):Prop where
 segs:AI c.AS<=511
 far:AI c.BN=AI c.AS+1
 row:∀i,i<AI c.BN->AI (c.BN[i]?.getD [])=AI c.AS+1
theorem Kl.get{c:CE}(d:Kl c){i j:Nat}(hi:i<AI c.AS+1)(g:j<AI c.AS+1):c.BN[i]?=AC (c.BN[i]?.getD [])/\(c.BN[i]?.getD [])[j]?=AC (D1 c i j):=by
 have f:i<AI c.BN:=by rw[d.far];exact hi
 have h:=d.row i f
 simp_all[D1]
def Mu(c:CE):Bool:=(List.range (AI c.AS+1)).all λi=>(List.range (AI c.AS+1)).all λj=>(List.range (AI c.AS+1)).all λk=> !decide (i64.wrap (D1 c i j+D1 c j k)<D1 c i k)
theorem ij{a b:Nat}(h:a<b):AG ((a:Int)<(b:Int))=true:=(by grind)
theorem jT{a b:Nat}(h:b<=a):AG ((a:Int)<(b:Int))=false:=(by grind)
theorem zT(c:CE)(d:Kl c):Ev (λn=>iter (Nn n c) n 0) (bif Mu c then CG.k ()else CG.d 160):=by
 have E:=d.segs;unfold Mu;refine dB (AI c.AS+1) _ _ _ (λi m=>?_) ?_
 .unfold Nn;have g:=(d.get m m).1;have t:=d.row i (by grind);simp only[SM (show AI c.AS<=1048576 by omega),ij m,Vp,QB g,XJ,SM (show i<=1048576 by omega)];refine Ea (dB (AI c.AS+1) (λj=>(List.range (AI c.AS+1)).all λk=> !decide (i64.wrap (D1 c i j+D1 c j k)<D1 c i k)) (CG.d (CG.d (CG.d 160))) (CG.k ()) (λj h=>?_) ?_) ?_
  .unfold Tq;have x:=(d.get m h).2;have B:=(d.get h h).1;have f:=d.row j (by grind);simp only[t,ij h,Vp,QB x,QB B,XJ,SM (show j<=1048576 by omega)];refine Ea (dB (AI c.AS+1) (λk=> !decide (i64.wrap (D1 c i j+D1 c j k)<D1 c i k)) (CG.d (CG.d (CG.d (CG.d (CG.d 160))))) (CG.k ()) (λk q=>?_) ?_) ?_
   .unfold Tb;have y:=(d.get h q).2;have z:=(d.get m q).2;simp only[f,ij q,Vp,QB y,QB g,QB z,XJ,SM (show k<=1048576 by omega)]
    grind[Qb]
   .unfold Tb;simp only[f,jT (XT _),Vq];exact Qb _
   grind[Qb]
  .unfold Tq;simp only[t,jT (XT _),Vq];exact Qb _
  grind[Qb]
 .unfold Nn;simp only[SM (show AI c.AS<=1048576 by omega),jT (XT _),Vq];exact Qb _
def Fs(c:CE):Bool:= !(AG (511<(AI c.AS:Int))||((AI c.BN:Int) != ((AI c.AS+1:Nat):Int)))&&(H6 c&&(H8 c&&Mu c))
structure Ff (c:CE):Prop where
 segs:AI c.AS<=1048576
 far:AI c.BN<=1048576
 row:∀r∈c.BN,AI r<=1048576
theorem pa{c:CE}(h:¬511<(AI c.AS:Int))(d:AI c.BN=AI c.AS+1)(f:H8 c=AE):Kl c:=by
 refine⟨by omega,d,λi g=>?_⟩;have:=fX.1 f i g
 grind[LC]
theorem oH(c:CE)(w:Ff c):Ev (λn=>Iy n c) (bif Fs c then 0 else 160):=by
 unfold Iy Fs;simp only[SM w.segs];refine Ea (QN λ_=>Qb _) ?_;cases d:(AG (511<(AI c.AS:Int))||((AI c.BN:Int) != ((AI c.AS+1:Nat):Int)))with
 |true=>exact Qb _
 |false=>
  simp only[Xh,Vz,XX,decide_eq_false_iff_not]at d⊢;have f:AI c.BN=AI c.AS+1:=by
   grind
  refine QY (Ea (Qp0 c w.segs) ?_);cases H6 c with
  |false=>exact Qb _
  |true=>
   refine Ea (Qp1 c w.segs w.far w.row f) ?_;cases g:H8 c with
   |false=>exact Qb _
   |true=>
    refine Ea (zT c (pa d.1 f g)) ?_;cases Mu c<;>exact Qb _
theorem Qmk{c:CE}(h:Fs c=AE):Kl c:=by
 simp only[Fs,XW,Bool.not_eq_true',XX,decide_eq_false_iff_not]at h
 grind[pa]
set_option maxRecDepth 10000
structure IN (c:CB):Prop where
 mats:AI c.Au<=40
 res:0<=c.AQ.Al/\c.AQ.Al<=4294967296
 drift:0<=c.AQ.BG/\c.AQ.BG<=100000
def Df(x k:Int):Int:=Int.tdiv ((if x<0-x then 0-x else x)*k+1000000-1) 1000000
theorem qf{x k:Int}(h: -2199023255552<=x/\x<=2199023255552)(d:0<=k/\k<=100000):0<=Df x k/\Df x k<=274877906944/\0<=(if x<0-x then 0-x else x)*k/\(if x<0-x then 0-x else x)*k<=219902325555200000:=by
 generalize ha:(if x<0-x then 0-x else x)=a;have f:0<=a:=by omega
 have g:a<=2199023255552:=by omega
 have j:0<=a*k:=Int.mul_nonneg f d.1;have m:a*k<=2199023255552*100000:=Int.le_trans (Int.mul_le_mul_of_nonneg_right g d.1) (by omega)
 grind[Df]
theorem Qoe{x k:Int}(f: -2199023255552<=x/\x<=2199023255552)(d:0<=k/\k<=100000):Ev (λn=>Ol n x k) (Df x k,0):=by
 obtain⟨y,t,B,m⟩:=qf f d;unfold Ol;refine Ea (v:=AD) ?_ ?_
 .grind[Qb]
 .have h:i64.wrap (0-x)=0-x:=Qt (by omega) (by omega);have g:=Qt (n:=(if x<0-x then 0-x else x)*k) (by omega) (by omega);have q:=Qt (n:=(if x<0-x then 0-x else x)*k+1000000) (by omega) (by omega);have z:=Qt (n:=(if x<0-x then 0-x else x)*k+1000000-1) (by omega) (by omega);have j:=Qt (n:=Df x k) (by omega) (by omega)
  simp_all[Df,Qb]
def Ia(c:CB)(k:Int)(s:CC)(loc:Int):CK:=
 bif k != 1 then⟨0-Df (loc-s.BK) c.AQ.BG,c.AQ.Al+Df (loc-s.BK) c.AQ.BG⟩else⟨0,c.AQ.Al⟩
def JW(x:Int):Prop:= -1099511627776<=x/\x<=1099511627776
theorem jw{c:CB}(f:IN c){i:Nat}{m:Am}(k:c.Au[i]?=AC m){s:CC}(h:s.Am=(i:Int)){d:Int}(j:JW s.BK)(q:JW d):Ev (λn=>IM n c s d) (Ia c m.AY s d):=by
 obtain⟨t,x⟩:=f.res;have g: -2199023255552<=d-s.BK/\d-s.BK<=2199023255552:=by unfold JW at j q;omega
 obtain⟨z,y,_,_⟩:=qf g f.drift;unfold IM Ia;simp only[h,QB k,XJ];cases m.AY != 1 with
 |false=>exact Qb _
 |true=>
  simp only[Vp];refine Ea (v:=⟨0-Df (d-s.BK) c.AQ.BG,c.AQ.Al+Df (d-s.BK) c.AQ.BG⟩) ?_ (Qb _);rw[Qt (n:=d-s.BK) (by omega) (by omega)];refine Ea (Qoe g f.drift) ?_
  grind[Qt,Qb]
def IA(c:CB)(x:Int):Bool:=AG (0<=x)&&AG (x<(AI c.Au:Int))
theorem lC(c:CB)(x:Int):Ev (λn=>KW n c x) (IA c x):=by
 simp_all[KW,IA,Ei,Qb]
theorem ze{c:CB}{x:Int}(h:IA c x=AE):∃i m,x=((i:Nat):Int)/\c.Au[i]?=AC m:=by
 unfold IA at h;simp only[XW,Vr]at h;exact⟨x.toNat,c.Au[x.toNat]'(by omega),by omega,(by simp)⟩
def nb(v lo hi:Int):Bool:= !(AG (v<lo))&& !(AG (hi<v))
theorem jz(v lo hi:Int):nb v lo hi=AE↔lo<=v/\v<=hi:=by
 simp_all[nb]
def FR(x y:Ud):Int:=Hq [C1 x.B8 y.B8,C1 x.mat y.mat,C1 x.BS y.BS]
theorem t5(n:Nat)(a b d:Int):I3 (n+4) [a,b,d]=AC (Hq [a,b,d]):=by
 unfold I3;have g:Hm (n+4) [a,b,d] 0=bif a != 0 then AC (.d (.d a))else AC (.k 1):=rfl
 have h:Hm (n+4) [a,b,d] 1=bif b != 0 then AC (.d (.d b))else AC (.k 2):=rfl
 have f:Hm (n+4) [a,b,d] 2=bif d != 0 then AC (.d (.d d))else AC (.k 3):=rfl
 have k:Hm (n+4) [a,b,d] 3=AC (.d (.k ())):=rfl;unfold Hq Hq Hq Hq;rw[iter,g];cases q:(a != 0)with
 |true=>rfl
 |false=>
  simp only[Vq];rw[iter,h];cases j:(b != 0)with
  |true=>rfl
  |false=>
   simp only[Vq];rw[iter,f];cases m:(d != 0)with
   |true=>rfl
   |false=>
    rfl
theorem Qiq(n:Nat):(λx y=>MH (n+4) x y)=λx y=>AC (FR x y):=by
 funext x y
 grind[MH,FR,pD,t5]
def Kt(h:CN):Ud:=⟨h.BA,h.Am,h.Ag⟩
def DN(c:CB)(h:CN):Bool:=AG (h.Am<0)||(AG ((AI c.Au:Int)<=h.Am)||(!nb h.Ag 0 255||(!nb h.BA 0 1048576||(!nb h.BO (-1099511627776) 1099511627776||(!nb h.A9 (-1099511627776) 1099511627776||AG (h.A9<h.BO))))))
def LI(W:Int)(a b:CN):Bool:=AG (FR (Kt a) (Kt b)<0)||(AG (FR (Kt a) (Kt b)=0)&&AG (W<i64.wrap (b.BO-a.A9)))
def H_(c:CB)(x:AA CN)(i:Nat):Bool:=match x[i]? with
 |none=>AE
 |some h=> !DN c h&&((i==0)||(match x[i-1]? with
  |none=>AE
  |some p=>LI c.AQ.A6 p h))
def Dp(ok:Nat->Bool):Nat->Nat->Bool
 |0,_=>AE
 |d+1,i=>ok i&&Dp ok d (i+1)
def Dg(c:CB)(x:AA CN):Bool:=Dp (H_ c x) (AI x) 0
theorem Qhz(c:CB)(x:AA CN)(y:AI x<=1000000)(step:Nat->Int->AB (CG Int (CG Unit Int)))
  (f:∀i h,At x i h->(∀p,0<i->x[i-1]?=AC p->Ev (λn=>step n (i:Int)) (bif DN c h then CG.d (CG.d 170)else bif LI c.AQ.A6 p h then CG.k ((i+1:Nat):Int)else CG.d (CG.d 170)))/\(i=0->Ev (λn=>step n (i:Int)) (bif DN c h then .d (.d 170)else .k ((i+1:Nat):Int))))
  (m:Ev (λn=>step n (AI x:Int)) (.d (.k ()))):Ev (λn=>iter (step n) n 0) (bif Dg c x then CG.k ()else CG.d 170):=by
 have:=tC (step:=step) (s0:=(0:Int)) (λi=>(i:Int)) (AI x) (λi=>(bif Dp (H_ c x) (AI x-i) i then CG.k ()else CG.d 170:CG Unit Int)) rfl (λi q=>?_) ?_
 .exact this
 .have d:=Y3 (x:=x[i]) (by omega) (XK q);generalize x[i]=h at d;obtain⟨z,t⟩:=f i h d;have g:AI x-i=(AI x-(i+1))+1:=by omega
  have k:H_ c x i=(!DN c h&&((i==0)||(match x[i-1]? with|none=>AE|some p=>LI c.AQ.A6 p h))):=by
   unfold H_;rw[d.get]
  have j:Dp (H_ c x) (AI x-i) i=(H_ c x i&&Dp (H_ c x) (AI x-(i+1)) (i+1)):=by rw[g];rfl
  grind
 .rw[Nat.sub_self];exact m
theorem QiX(p q:Ud):Ev (λn=>MH n p q) (FR p q):=by
 refine⟨4,λn d=>?_⟩;obtain⟨k,rfl⟩:∃k,n=k+4:=⟨n-4,by omega⟩;exact congrFun (congrFun (Qiq k) p) q
theorem n?(n:Nat)(v:Int):Iv n v=AC (nb v (-1099511627776) 1099511627776):=by
 unfold Iv;by_cases d:(-1099511627776)<=v
 .rw[Yj d];simp only[Vp,XJ,Option.some.injEq];rw[XY,jz,Vr];omega
 .rw[Yp d];simp only[Vq,XJ,Option.some.injEq]
  symm
  rw[VM];intro z;rw[jz]at z;omega
theorem Ql8{e:Int}(c:CB)(x:AA CN)(F:AI x<=1000000)(he:Ev (λn=>F0 n c) e):Ev (λn=>OV n c x) (bif e != 0 then e else bif Dg c x then 0 else 170):=by
 unfold OV;refine Ea he ?_;cases(e != 0)with
 |true=>exact Qb _
 |false=>
  simp only[Vq];refine Ea (Qhz c x F _ (λi h d=>?_) ?_) ?_
  .have t:Ev (λn=>((bif h.Am<0 then AC AE else(bif (AI c.Au:Int)<=h.Am then AC AE else(bif h.Ag<0 then AC AE else(bif 255<h.Ag then AC AE else(bif h.BA<0 then AC AE else(bif 1048576<h.BA then AC AE else(Iv n h.BO).bind λj=>(bif (!j)then AC AE else(Iv n h.A9).bind λg=>(bif (!g)then AC AE else AC (AG (h.A9<h.BO)))))))))):AB Bool)) (DN c h):=by
    have e:DN c h=(AG (h.Am<0)||(AG ((AI c.Au:Int)<=h.Am)||(AG (h.Ag<0)||(AG (255<h.Ag)||(AG (h.BA<0)||(AG (1048576<h.BA)||(!nb h.BO (-1099511627776) 1099511627776||(!nb h.A9 (-1099511627776) 1099511627776||AG (h.A9<h.BO))))))))):=by
     grind[DN,nb]
    rw[e];refine QN λ_=>QN λ_=>QN λ_=>QN λ_=>QN λ_=>QN λ_=>?_;simp only[n?,XJ];exact QN λ_=>QN λ_=>Qb _
   refine⟨λp z E=>?_,λz=>?_⟩
   .have k:((i:Int)==0)=false:=by grind
    have m:i64.wrap ((i:Int)-1)=((i-1:Nat):Int):=by
     grind[Qt]
    unfold Nd;simp only[d.lt,Vp,d.ix,XJ,d.nx,k,Vq,m,QB E];cases y:DN c h with
    |true=>
     refine Ea (v:=(CG.d (CG.d (CG.d 170)):CG Unit (CG Int (CG Unit Int)))) (Ea t ?_) (Qb _);rw[y];exact Qb _
    |false=>
     refine Ea (v:=(bif LI c.AQ.A6 p h then CG.k ()else CG.d (CG.d (CG.d 170)):CG Unit (CG Int (CG Unit Int)))) (Ea t ?_) ?_
     .rw[y];simp only[Vq];refine Ea (QiX _ _) ?_;show Ev (λn=>((bif 0<FR (Kt p) (Kt h) then AC (AG (0<FR (Kt p) (Kt h)))else(bif (FR (Kt p) (Kt h)==0)then AC (AG ((i64.wrap (h.BO-p.A9))<=c.AQ.A6))else AC AD)):AB Bool).bind λf=>((bif f then AC (CG.d (CG.d (CG.d 170)))else AC (CG.k ())):AB (CG Unit (CG Int (CG Unit Int))))) _;unfold LI;rcases Int.lt_trichotomy (FR (Kt p) (Kt h)) 0 with q|q|q
      iterate 3 grind[Qb]
     grind[Qb]
   .subst z;unfold Nd;have B:(((0:Nat):Int)==0)=true:=rfl;simp only[d.lt,Vp,d.ix,XJ,d.nx,B];refine Ea (v:=(bif DN c h then CG.d (CG.d (CG.d 170))else CG.k ():CG Unit (CG Int (CG Unit Int)))) (Ea t ?_) ?_
    .cases DN c h<;>exact Qb _
    .cases DN c h<;>exact Qb _
  .simp_all[Nd,Qb]
  .cases Dg c x<;>exact Qb _
theorem qa(c:CB)(d:CB.wf c):∃b,Ev (λn=>KZ n c) b/\(b=AE->F7 c/\Ev (λn=>F0 n c) (CP c)):=by
 have w:=Y0 d
 grind[Jt,ka,QhA,Qmd]
mutual
def Wm:CH->AA Int
 |⟨m,laps,ps⟩=>bif laps==0 then[m]else(List.replicate laps.toNat (Ck ps)).flatten
def Ck:AA CH->AA Int
 |[]=>[]
 |p::r=>Wm p++Ck r
end
theorem f7(p:CH):Wm p=bif p.As==0 then[p.Am]else(List.replicate p.As.toNat (Ck p.Ac)).flatten:=by cases p;rfl
theorem lg(p:CH)(r:AA CH):Ck (p::r)=Wm p++Ck r:=by rw[Ck]
theorem px:∀(k:Nat) (out lap:AA Int),AI (De k out lap)<=256->De k out lap=out++(List.replicate k lap).flatten
 |0,out,lap,_=>by simp[De]
 |k+1,out,lap,h=>by
  rw[De]at h⊢;by_cases hb:256<AI out
  .grind
  .rw[Vs hb]at h⊢;rw[px k _ _ h,Xl,Vm,Vj]
theorem pN{d:Int}{p:CH}(h:Fj d p=AE):p.As=0\/(1<=p.As/\p.As<=64/\Cv d p.Ac=AE):=by
 rw[ZF]at h;cases f:(p.As==0)with
 |true=>grind
 |false=>
  simp_all[DI]
theorem Qn6(y:Int):∀(m:Nat) (l:AA CH) (f:AA Int),Ce l<=m->Cv y l=AE->AI (DP f l)<=256->DP f l=f++Ck l:=by
 intro m
 induction m using Nat.strongRecOn with
 |_ m E=>
 intro l
 induction l with
 |nil=>grind[DP,Ck]
 |cons p r q=>
  intro f z j x;rw[Jz,List.all_cons,XW, <- Jz]at j;have n:RX p+Ce r<=m:=by rw[Ce]at z;omega
  rw[DP]at x⊢;by_cases h:256<AI (De (p.As.toNat+(bif 0<p.As then 0 else 1)) f (FY p))
  .grind
  .have t:=px _ _ _ (Nat.le_of_not_lt h);rw[q _ (by omega) j.2 x,t,lg,Vj];congr 2;rcases pN j.1 with F|⟨a,b,d⟩
   .simp_all[SY,f7]
   .have k:AG (0<p.As)=true:=Yj (by omega);have B:(p.As==0)=false:=(by grind);have g:AI (FY p)<=256:=by
     rw[t,k]at h;simp only[Vp,Xw]at h;have:p.As.toNat=(p.As.toNat-1)+1:=by omega
     grind
    rw[SY,k,Vp]at g;rw[YQ]at n;have:=E (Ce p.Ac) (by omega) p.Ac [] (XT _) d g;rw[SY,f7,k,B,Vp,Vp,Vq,Xw,this,Vi]
theorem W?(T:Int):∀(m:Nat) (l:AA CH) (f:AA Int),Ce l<=m->Cv T l=AE->AI l<=1048576->(∀x∈l,CH.wf x)->AI f+AI (Ck l)<=256->Ev (λn=>RO n l f) (f++Ck l):=by
 intro m
 induction m using Nat.strongRecOn with
 |_ m W=>
 intro l f hm H O N R;rw[Jz,Xs]at H;refine Jb ?_;show Ev (λn=>iH (RO n) n l f) _;unfold iH;have inner:∀(p:CH) (w:AA Int),0<=p.As->p.As<=64->(∀o:AA Int,AI o+AI w<=256->Ev (λn=>RO n p.Ac o) (o++w))->∀(k j:Nat) (o:AA Int),j+k=p.As.toNat->AI o+(List.replicate k w).flatten.length<=256->
   DW (λn=>Lf n (RO n) p) (o,(j:Int)) (o++(List.replicate k w).flatten):=by
  intro p w J Y t k
  induction k with
  |zero=>
   intro j o P _;refine Ej ?_;unfold Lf;simp only[Yp (show¬((j:Int)<p.As)by omega),Vq,List.replicate_zero,List.flatten_nil,Vh];exact Qb _
  |succ k B=>
   intro j o P h;rw[Xl,Vm]at h⊢;simp only[X3]at h;refine(Ex ?_ (B (j+1) (o++w) (by omega) (by grind))).eq (by simp);unfold Lf;simp only[Yj (show(j:Int)<p.As by omega),Vp];refine Ea (t o (by omega)) ?_;rw[YS (by omega)];exact Qb _
 have loop:∀(r:AA CH) (i:Nat) (o:AA Int),l.drop i=r->i<=AI l->AI o+AI (Ck r)<=256->DW (λn=>Nk n l (RO n)) (o,(i:Int)) (o++Ck r):=by
  intro r
  induction r with
  |nil=>
   intro i o t G _;refine Ej ?_;unfold Nk;simp only[Yt t G,Vq,Ck,Vh];exact Qb _
  |cons p r z=>
   intro i o t G h;obtain⟨g,F⟩:=QG (by omega) t;have V:=g.lt';rw[lg,X3]at h;have Q:=Y4 g.mem;rw[YQ]at Q;obtain⟨w1,M⟩:=Yk (N p g.mem);have X:=H p g.mem;refine(Ex ?_ (z (i+1) (o++Wm p) F (by omega) (by grind))).eq (by rw[lg,Vj]);unfold Nk;simp only[g.lt,Vp,g.ix,XJ,g.nx];rcases pN X with J|⟨a,b,d⟩
   .have q:(p.As==0)=true:=by simp[J]
    have E:Wm p=[p.Am]:=by rw[f7,q];rfl
    rw[E]at h⊢;refine Ea (v:=o++[p.Am]) ?_ ?_
    .rw[q];refine P6 ?_
     grind[pX,Qb]
    .refine Ea (v:=o++[p.Am]) ((Ej ?_).ev) (Qb _)
     simp_all[Lf,Qb]
   .have q:(p.As==0)=false:=(by grind);have E:Wm p=(List.replicate p.As.toNat (Ck p.Ac)).flatten:=by rw[f7,q];rfl
    rw[E]at h⊢;refine Ea (v:=o) ?_ ?_
    .rw[q];exact Qb _
    .refine Ea ((inner p (Ck p.Ac) (by omega) b (λL y=>W (Ce p.Ac) (by omega) p.Ac L (XT _) d w1 M y) p.As.toNat 0 o (by omega) (by omega)).ev) (Qb _)
 exact Ea ((loop l 0 f (by simp) (XU _) R).ev) (Qb _)
structure Fd (c:CB):Prop where
 parts:∀d∈c.AO,Cv ((AI c.Au:Int)-1) d.Ad=AE
 route:∀d∈c.AO,2<=AI (DP [] d.Ad)/\AI (DP [] d.Ad)<=256
 len:∀d∈c.AO,AI d.Ad<=1048576
 wf:∀d∈c.AO,∀x∈d.Ad,CH.wf x
 legs:AI c.Az<=512
theorem Fd.exp{c:CB}(g:Fd c){d:AN}(f:d∈c.AO):DP [] d.Ad=Ck d.Ad:=by
 have:=Qn6 _ _ d.Ad [] (XT _) (g.parts d f) (g.route d f).2
 grind
theorem ly{c:CB}(g:Fd c){d:AN}(f:d∈c.AO):Ev (λn=>O1 n d.Ad) (Ck d.Ad):=by
 unfold O1;have h:=(g.route d f).2;rw[g.exp f]at h;refine Ea ((W? _ _ d.Ad [] (XT _) (g.parts d f) (g.len d f) (g.wf d f) (by simpa using h)).eq (Vi _)) (Qb _)
theorem gU{c:CB}(he:Ev (λn=>F0 n c) 0){i:Nat}{d:AN}(g:c.AO[i]?=AC d):Ev (λn=>I2 n c (i:Int)) (d,0):=by
 unfold I2;refine Ea he ?_;have f:=(XL.1 g).1
 simp_all[Yp,Qb,QB]
theorem Qp3(c:CB)(d:AI c.Az<=512):∃m,Ev (λn=>Go.Sw.iter (Ip n c) n (([]:AA (Ub×Co)),0)) m:=by
 refine⟨_,YL c.Az (λ(m:AA (Ub×Co)) x=>QJ m ({BW:=x.A',to_:=x.To:Ub}) x) [] (λm i=>(m,(i:Int))) (λm=>m) (by omega) rfl (λi x m ha _=>?_) ?_⟩
 .unfold Ip;simp only[ha.lt,Vp,ha.ix,XJ,ha.nx];exact Qb _
 simp_all[Ip,Qb]
theorem QmM{α:Type}{step:Nat->Int->AB (CG Int (CG Unit Int))}(l:AA α)(q:α->Bool)(F:AI l<=1048576)
  (m:∀i x,At l i x->Ev (λn=>step n (i:Int)) (bif q x then .d (.d (i:Int))else .k ((i+1:Nat):Int)))(B:Ev (λn=>step n (AI l:Int)) (.d (.k ()))):
  (∃i x,At l i x/\l.find? q=AC x/\Ev (λn=>Go.Sw.iter (step n) n 0) (.d (i:Int)))\/l.find? q=AF/\Ev (λn=>Go.Sw.iter (step n) n 0) (.k ()):=by
 have g:∀(r:AA α) (i:Nat),l.drop i=r->i<=AI l->(∃j x,At l j x/\r.find? q=AC x/\DW step (i:Int) (.d (j:Int)))\/r.find? q=AF/\DW step (i:Int) (.k ()):=by
  intro r
  induction r with
  |nil=>
   intro i k z;have:i=AI l:=by have:=Xq.1 k;omega
   simp_all[Ej]
  |cons x r E=>
   intro i k z;obtain⟨f,t⟩:=QG (by omega) k;have y:=f.lt';have h:=m i x f;rw[List.find?_cons];cases e:q x with
   |true=>rw[e]at h;exact .inl ⟨i,x,f,rfl,Ej h⟩
   |false=>
    grind[DW.cont]
 rcases g l 0 (by simp) (XU _)with⟨j,x,a,b,d⟩|⟨a,b⟩
 .exact .inl ⟨j,x,a,b,d.ev⟩
 .exact .inr ⟨a,b.ev⟩
theorem l?{c:CB}(w:C0 c)(q:D4 c)(h:CP c=0):Fd c:=by
 unfold CP at h;cases j:Fm c with
 |false=>grind
 |true=>
  rw[j]at h;cases k:HW c with
  |false=>grind
  |true=>
   rw[k]at h;cases f:C5 c with
   |false=>grind
   |true=>
    rw[f]at h;simp only[Vp]at h;have m:c.AO.all (Dw c)=true:=by
     grind
    unfold C5 at f;simp only[XW]at f;obtain⟨_,_,_,n,_⟩:=f;unfold Fm at j;simp only[XW,Bool.not_eq_true',XX,decide_eq_false_iff_not]at j;rw[Xs]at m n;refine⟨λd g=>?_,λd g=>?_,q.len,q.wf,?_⟩
    .simp_all[ID]
    .simp_all[Dw,HU]
    omega
theorem B?:∀j:Fin 257,(AG (0<(u64.wrap ((u64.wrap ((u64.wrap ((Y5 .u64 (u64.wrap ([(0:Int)].length:Int)) 32)*(Y5 .u64 (u64.wrap ((j:Nat):Int)) 32)))+(Y5 .u64 (u64.wrap ((u64.wrap ((Y5 .u64 (u64.wrap ([(0:Int)].length:Int)) 32)*(Jh .u64 (u64.wrap ((j:Nat):Int)) 4294967295)))+(Y5 .u64 (u64.wrap ((Jh .u64 (u64.wrap ([(0:Int)].length:Int)) 4294967295)*(Jh .u64 (u64.wrap ((j:Nat):Int)) 4294967295))) 32))) 32)))+(Y5 .u64 (u64.wrap ((Jh .u64 (u64.wrap ((u64.wrap ((Y5 .u64 (u64.wrap ([(0:Int)].length:Int)) 32)*(Jh .u64 (u64.wrap ((j:Nat):Int)) 4294967295)))+(Y5 .u64 (u64.wrap ((Jh .u64 (u64.wrap ([(0:Int)].length:Int)) 4294967295)*(Jh .u64 (u64.wrap ((j:Nat):Int)) 4294967295))) 32))) 4294967295)+(u64.wrap ((Jh .u64 (u64.wrap ([(0:Int)].length:Int)) 4294967295)*(Y5 .u64 (u64.wrap ((j:Nat):Int)) 32))))) 32)))))=false:=by decide+kernel
theorem Qnz:∀j:Fin 257,(AG (9223372036854775807<(u64.wrap ((u64.wrap ([(0:Int)].length:Int))*(u64.wrap ((j:Nat):Int))))))=false:=by decide+kernel
theorem A?:∀j:Fin 257,(i64.wrap (u64.wrap ((u64.wrap ([(0:Int)].length:Int))*(u64.wrap ((j:Nat):Int)))))=((j:Nat):Int):=by decide+kernel
theorem QnA(x:Int)(K:Nat)(B:K<=256):∀(m j:Nat),1<=j->j<=K->K-j<=m->DW (λn=>Nf n) (List.replicate j x++List.replicate (K-j) 0,(j:Int)) (List.replicate K x):=by
 intro m
 induction m with
 |zero=>
  intro j y k h;obtain rfl:j=K:=by omega
  simp_all[Ej,Nf,Qb]
 |succ m q=>
  intro j y k h;by_cases z:j=K
  .grind
  .have g:AI (List.replicate j x++List.replicate (K-j) (0:Int))=K:=by simp;omega
   refine Ex ?_ (q (j+min j (K-j)) (by omega) (by omega) (by omega));unfold Nf;simp only;generalize hL:List.replicate j x++List.replicate (K-j) (0:Int)=L at g;have d:L.take j=List.replicate j x:=by grind
   have t:L.drop j=List.replicate (K-j) 0:=by grind
   rw[Yj (by omega),Vp,Qnt L (by omega),XJ,oO L (by omega),XJ];unfold Pw;simp only[XJ,Int.toNat_natCast,g,d];have f:L.take j++(List.replicate j x).take (K-j)++L.drop (j+min (AI (List.replicate j x)) (K-j))=List.replicate (j+min j (K-j)) x++List.replicate (K-(j+min j (K-j))) 0:=by
    rw[<- List.drop_drop,d,t,List.length_replicate,List.take_replicate,List.drop_replicate,List.replicate_append_replicate]
    grind
   rw[d]at f;rw[f];have w:i64.wrap ((j:Int)+((min (AI (List.replicate j x)) (K-j):Nat):Int))=((j+min j (K-j):Nat):Int):=by
    rw[List.length_replicate,Qt (by omega) (by omega)];omega
   rw[w];exact Qb _
theorem W4{α:Type}{c:Bool}{f g:Nat->AB α}{v:α}(h:c=AD)(q:Ev g v):Ev (λn=>bif c then f n else g n) v:=by simp_all
theorem lZ(x:Int)(k:Nat)(h:1<=k)(j:k<=256):Ev (λn=>Kb n [x] (k:Int)) (List.replicate k x):=by
 have g:=B? ⟨k,by omega⟩;have f:=Qnz ⟨k,by omega⟩;have d:=A? ⟨k,by omega⟩;unfold Kb;refine Ea (v:=()) (by grind[Qb]) (Ea (v:=()) (Qb _) (Ea (v:=AD) ?_ (Ea (v:=()) (Qb _) ?_)))
 .exact W4 g (EB (congrArg AC f))
 .refine Ea (v:=List.replicate k 0) (EB ((congrArg (λz=>mk z (0:Int)) d).trans ?_)) ?_
  .show mk (k:Int) 0=_;unfold mk
   grind
  .refine Ea (v:=List.replicate 1 x++List.replicate (k-1) 0) (EB ?_) ?_
   .unfold Pw
    grind
   .have e:((min [x].length (AI (List.replicate k (0:Int))):Nat):Int)=((1:Nat):Int):=by simp;omega
    rw[e];exact Ea ((QnA x k j k 1 (XT _) h (by omega)).ev) (Qb _)
set_option maxRecDepth 10000
theorem h_{c:CB}(h:CP c=0):Fm c=AE/\C5 c=AE/\ ∀d∈c.AO,Dw c d=true:=by
 unfold CP at h
 grind
theorem qb{c:CB}(h:CP c=0):IN c:=by
 obtain⟨d,f,_⟩:=h_ h;unfold Fm at d;unfold C5 LH DI at f;simp only[XW,Bool.not_eq_true',XX,decide_eq_false_iff_not,Vr]at d f;refine⟨?_,?_,?_⟩
 iterate 3 omega
theorem J5{α:Type}{c:Bool}{f g:Nat->AB α}{v:α}(h:c=AE)(q:Ev f v):Ev (λn=>bif c then f n else g n) v:=by simp_all
def Dy(l:AA Int)(x:Int):Nat->Nat
 |0=>0
 |j+1=>bif (l[j+1]? ==AC x)then j+1 else Dy l x j
theorem ko(l:AA Int)(x:Int):∀j,Dy l x j<=j
 |0=>XT _
 |j+1=>by
  unfold Dy;have:=ko l x j
  grind
def DE(d:AN)(k:Nat):AA Int:=(Ck d.Ad).take (Dy (Ck d.Ad) d.Ak (AI (Ck d.Ad)-1)+1)++List.replicate k d.Ak++(Ck d.Ad).drop (Dy (Ck d.Ad) d.Ak (AI (Ck d.Ad)-1)+1)
def CY(c:CB)(i k:Int):AA Int×Int:=
 bif i<0 then([],90)else match c.AO[i.toNat]? with
 |none=>([],90)
 |some d=>bif AG (k<0)||(AG (0<k)&&AG (d.Ak<0))then([],90)else bif 256-(AI (Ck d.Ad):Int)<k then([],2)else(DE d k.toNat,0)
theorem lb(d:AN)(e:Int)(l:AA Int)(f:AI l<=256):∀(m:Nat),m<AI l->DW (λn=>Ln n (d,e) l) (m:Int) ((Dy l d.Ak m:Nat):Int)
 |0,h=>by
  grind[DW.done,Ln,Dy,Qb]
 |m+1,h=>by
  have hx:l[m+1]?=AC (l[m+1]'(h)):=(by simp);unfold Dy;rw[hx];cases hq:((l[m+1]'(h)) != d.Ak)with
  |true=>
   have e1:(AC (l[m+1]'(h))==AC d.Ak)=false:=by grind
   rw[e1,Vq];refine Ex ?_ (lb d e l f m (by omega));unfold Ln;rw[Yj (show(0:Int)<((m+1:Nat):Int)by omega),Vp,QB hx,XJ,hq,XJ,Vp,Qt (n:=((m+1:Nat):Int)-1) (by omega) (by omega),show((m+1:Nat):Int)-1=(m:Int)by omega];exact Qb _
  |false=>
   have e1:(AC (l[m+1]'(h))==AC d.Ak)=true:=by grind
   rw[e1,Vp];refine Ej ?_;unfold Ln;rw[Yj (show(0:Int)<((m+1:Nat):Int)by omega),Vp,QB hx,XJ,hq,XJ,Vq];exact Qb _
theorem lB{c:CB}(g:Fd c)(he:Ev (λn=>F0 n c) 0)(i k:Int):Ev (λn=>IK n c i k) (CY c i k):=by
 unfold CY;by_cases E:i<0
 .rw[Yj E,Vp];unfold IK Ho;refine Ea (v:=((90:Int),([]:AA Int))) (Ea (v:=CT.c0 90) ?_ (Qb _)) (Qb _);refine Ea (v:=(Uu,90)) ?_ (J5 rfl (Qb _));unfold I2;refine Ea he (QY (Ea (v:=AE) ?_ (Qb _)));rw[Yj E];exact Qb _
 rw[Yp E,Vq];obtain⟨j,rfl⟩:∃j:Nat,i=(j:Int):=⟨i.toNat,by omega⟩;rw[Int.toNat_natCast];cases t:c.AO[j]? with
 |none=>
  have F:AI c.AO<=j:=(by grind);unfold IK Ho;refine Ea (v:=((90:Int),([]:AA Int))) (Ea (v:=CT.c0 90) ?_ (Qb _)) (Qb _);refine Ea (v:=(Uu,90)) ?_ (J5 rfl (Qb _));unfold I2;refine Ea he (QY (Ea (v:=AE) ?_ (Qb _)))
  simp_all[Qb]
 |some d=>
  simp only;have q:=VH t;have h:=(g.route d q);rw[g.exp q]at h;have w:i64.wrap (256-(AI (Ck d.Ad):Int))=256-(AI (Ck d.Ad):Int):=Qt (by omega) (by omega);unfold IK Ho;cases y:(AG (k<0)||(AG (0<k)&&AG (d.Ak<0)))with
  |true=>
   refine Ea (v:=((90:Int),([]:AA Int))) (Ea (v:=CT.c1 ()) (Ea (gU he t) (QY (Ea (v:=AE) ?_ (Qb _)))) (Qb _)) (Qb _)
   grind[Qb]
  |false=>
   have x:=y;simp only[XX,decide_eq_false_iff_not,Bool.and_eq_false_iff]at x;cases G:AG (256-(AI (Ck d.Ad):Int)<k)with
   |true=>
    refine Ea (v:=((2:Int),Ck d.Ad)) (Ea (v:=CT.c2 (Ck d.Ad)) (Ea (gU he t) (QY (Ea (v:=AD) ?_ (QY (Ea (ly g q) ?_))))) (Qb _)) (Qb _)
    .exact Ew (QN λ_=>Ei λ_=>Qb _) y
    simp_all[Qb]
   |false=>
    have H:=Vw G;obtain⟨f,rfl⟩:∃f:Nat,k=(f:Int):=⟨k.toNat,by omega⟩;obtain⟨m,B⟩:=Qp3 c g.legs;rw[Int.toNat_natCast];refine Ea (v:=(0,DE d f)) (Ea (v:=CT.c3 (DE d f,m)) (Ea (gU he t) (QY (Ea (v:=AD) ?_ (QY (Ea (ly g q) ?_))))) (Qb _)) (Qb _)
    .exact Ew (QN λ_=>Ei λ_=>Qb _) y
    .simp only[w,G,Vq];refine Ea (v:=DE d f) ?_ (Ea B (Qb _));by_cases L:f=0
     .simp_all[Qb,DE]
     .refine J5 (Yj (show(0:Int)<(f:Int)by omega)) ?_;have z:=lb d 0 (Ck d.Ad) h.2 (AI (Ck d.Ad)-1) (by omega);have J:=ko (Ck d.Ad) d.Ak (AI (Ck d.Ad)-1);rw[Qt (n:=(AI (Ck d.Ad):Int)-1) (by omega) (by omega),show(AI (Ck d.Ad):Int)-1=((AI (Ck d.Ad)-1:Nat):Int)by omega];refine Ea z.ev (Ea (lZ d.Ak f (by omega) (by omega)) (Ea (EB ?_) (Qb _)))
      grind[DE,Qt,Wv,Nat.blt,Nat.ble_eq_true_of_le,YE]
theorem gv{c:CB}(g:Fd c){i k:Int}(h:(CY c i k).2=0):∃(j:Nat) (d:AN) (f:Nat),i=(j:Int)/\k=(f:Int)/\c.AO[j]?=AC d/\(0<f->0<=d.Ak)/\AI (Ck d.Ad)+f<=256/\(CY c i k).1=DE d f:=by
 unfold CY at h⊢;by_cases m:i<0
 .grind
 rw[Yp m,Vq]at h⊢;cases q:c.AO[i.toNat]? with
 |none=>grind
 |some d=>
  rw[q]at h;simp only at h⊢;cases n:(AG (k<0)||(AG (0<k)&&AG (d.Ak<0)))with
  |true=>grind
  |false=>
   rw[n]at h;cases t:AG (256-(AI (Ck d.Ad):Int)<k)with
   |true=>grind
   |false=>
    grind
def Fo(c:CB):AA Int->Prop
 |a::b::r=>C3 c a b=AE/\Fo c (b::r)
 |_=>True
theorem sR{c:CB}{len:Nat}:∀{r:AA Int} {i:Nat} {p:Int},FU c len i p r=AE->Fo c r/\(i≠0->∀m q,r=m::q->C3 c p m=AE)
 |[],_,_,_=>⟨trivial,(by simp)⟩
 |m::r,i,p,h=>by
  unfold FU at h;simp only[XW,Bool.or_eq_true,Vr]at h;obtain⟨_,_,h1,h2⟩:=h;obtain⟨a1,a2⟩:=sR h2;refine⟨?_,λhi m' q e=>?_⟩
  .cases r with
   |nil=>trivial
   |cons b r=>exact⟨a2 (by omega) b r rfl,a1⟩
  grind
theorem Fo.tail{c:CB}:∀{r:AA Int} (k:Nat),Fo c r->Fo c (r.drop k)
 |r,0,h=>by simpa using h
 |[],k+1,_=>by simp[Fo]
 |[a],k+1,_=>by simp[Fo]
 |a::b::r,k+1,h=>by
  rw[List.drop_succ_cons];exact Fo.tail k h.2
theorem Fo.append{c:CB}:∀{p:AA Int} {x:Int} {q:AA Int},Fo c (p++[x])->Fo c (x::q)->Fo c (p++x::q)
 |[],x,q,_,h=>h
 |[a],x,q,h1,h2=>⟨h1.1,h2⟩
 |a::b::r,x,q,h1,h2=>⟨h1.1,Fo.append (p:=b::r) h1.2 h2⟩
theorem og{c:CB}{x:Int}(h:C3 c x x=AE){q:AA Int}(hq:Fo c (x::q)):∀k,Fo c (x::(List.replicate k x++q))
 |0=>hq
 |k+1=>⟨h,og h hq k⟩
theorem Fo.at{c:CB}:∀{r:AA Int} {i:Nat} {a b:Int},Fo c r->r[i]?=AC a->r[i+1]?=AC b->C3 c a b=AE
 |[],_,_,_,_,h,_=>by simp at h
 |[x],i,_,_,_,_,h=>by simp at h
 |x::y::r,0,a,b,h,h1,h2=>by simp at h1 h2;subst h1;subst h2;exact h.1
 |x::y::r,i+1,a,b,h,h1,h2=>Fo.at (r:=y::r) h.2 (by simpa using h1) (by grind)
theorem qX(l:AA Int)(x:Int):∀m,m<AI l->(∃i,i<=m/\0<i/\l[i]?=AC x)->l[Dy l x m]?=AC x
 |0,h,⟨i,h1,h2,_⟩=>by omega
 |m+1,h,⟨i,h1,h2,h3⟩=>by
  unfold Dy;cases e:(l[m+1]? ==AC x)with
  |true=>grind
  |false=>
   simp only[Vq];refine qX l x m (by omega) ⟨i,?_,h2,h3⟩
   grind
theorem QlK{c:CB}(g:Fd c)(L:CP c=0){d:AN}(G:d∈c.AO)(k:Nat)(M:0<k->0<=d.Ak):Fo c (DE d k):=by
 have h:=(h_ L).2.2 d G;unfold Dw HU at h;rw[g.exp G]at h;simp only[XW,Vr]at h;obtain⟨⟨l2,F⟩,P,t,_⟩:=h;have Q:=(sR P).1;unfold DE;by_cases k0:k=0
 .simp_all
 have N:=M (by omega);rw[Yj N,Vp]at t;simp only[XW,Bool.not_eq_true',beq_eq_false_iff_ne,ne_eq]at t;obtain⟨T,W,Y⟩:=t;have f:d.Ak∈Ck d.Ad:=by
  grind
 obtain⟨i,R,H⟩:=List.getElem_of_mem f;have z:0<i:=by
  rcases Nat.eq_zero_or_pos i with q|q
  .subst q;cases X:Ck d.Ad with
   |nil=>grind
   |cons m r=>
    simp_all[FU]
  .exact q
 have B:=qX (Ck d.Ad) d.Ak (AI (Ck d.Ad)-1) (by omega) ⟨i,by omega,z,by grind⟩;generalize hb:Dy (Ck d.Ad) d.Ak (AI (Ck d.Ad)-1)=b at B;have J:b<AI (Ck d.Ad):=(by grind);have j:(Ck d.Ad).drop b=d.Ak::(Ck d.Ad).drop (b+1):=by
  grind[List.drop_eq_getElem_cons]
 have n:(Ck d.Ad).take (b+1)=(Ck d.Ad).take b++[d.Ak]:=by
  grind
 have E:∀{p q:AA Int},Fo c (p++q)->Fo c p:=by
  intro p
  induction p with
  |nil=>intro q _;trivial
  |cons x p O=>
   intro q h;cases p with
   |nil=>trivial
   |cons y p=>exact⟨h.1,O h.2⟩
 have V:Fo c ((Ck d.Ad).take b++[d.Ak]):=by
  grind[List.take_append_drop]
 grind[Fo.tail,Fo.append,og]
set_option maxRecDepth 10000
theorem Hx{x:Int}:FO x=AE↔JW x:=by
 simp_all[FO,DI,JW]
def Dl(k:CE)(h:CN):Int:=DX (λx:CC=>({mat:=x.Am,BS:=x.Ag:Uf})=={mat:=h.Am,BS:=h.Ag}) k.AS 0
def HH(c:CB)(s:CC)(h:CN):CK:={Lo:=i64.wrap (h.BO+(Ia c (Cj c h.Am) s h.BO).Lo),Hi:=i64.wrap (h.A9+(Ia c (Cj c h.Am) s h.A9).Hi)}
def Du(c:CB)(k:CE)(h:CN):AB Ue:=
 bif Cj c h.Am==1 then AC {Ah:= -1,A_:=HH c {Am:=h.Am,Ag:=h.Ag,BK:=0} h}else
  bif Dl k h<0 then AF else(k.AS[(Dl k h).toNat]?).map λs=>{Ah:=Dl k h,A_:=HH c s h}
def C7(c:CB)(k:CE):AA CN->AB (AA Ue)
 |[]=>AC []
 |h::r=>(Du c k h).bind λx=>(C7 c k r).map λl=>x::l
theorem tW(c:CB)(k:CE)(h:CN)(r:AA CN):C7 c k (h::r)=(Du c k h).bind λx=>(C7 c k r).map λl=>x::l:=rfl
theorem lE(k:CE)(h:CN)(f:AI k.AS<=1048576):Ev (λn=>O3 n k.AS h) (Dl k h):=by
 unfold O3;refine Ev.first k.AS _ (by omega) (λi x d=>?_) ?_
 .unfold TA;simp only[d.lt,Vp,d.ix,XJ,d.nx]
  grind[WK,Qb]
 simp_all[TA,Qb]
theorem p9{k:CE}{h:CN}(q:¬Dl k h<0):∃(j:Nat) (s:CC),Dl k h=(j:Int)/\k.AS[j]?=AC s/\s.Am=h.Am/\s.Ag=h.Ag:=by
 rcases dX (λx:CC=>({mat:=x.Am,BS:=x.Ag:Uf})=={mat:=h.Am,BS:=h.Ag}) k.AS 0 with⟨d,_⟩|⟨j,s,d,f,g,_⟩
 .unfold Dl at q;omega
 .refine⟨j,s,by unfold Dl;rw[d];simp,f,?_⟩
  grind
structure J8 (c:CB) (h:CN):Prop where
 mat:∃(i:Nat) (m:Am),h.Am=(i:Int)/\c.Au[i]?=AC m
 fi:JW h.BO
 la:JW h.A9
 le:h.BO<=h.A9
theorem QoS{c:CB}{h:CN}(q:DN c h=AD):J8 c h:=by
 unfold DN at q;simp only[XX,decide_eq_false_iff_not,Bool.not_eq_false',jz]at q;obtain⟨j,k,_,_,f,d,g⟩:=q;exact⟨⟨h.Am.toNat,c.Au[h.Am.toNat]'(by omega),by omega,(by simp)⟩,f,d,by omega⟩
theorem pZ{p:Nat->Bool}:∀{m i:Nat},Dp p m i=AE->∀j,i<=j->j<i+m->p j=AE
 |0,i,_,j,h1,h2=>by omega
 |m+1,i,h,j,h1,h2=>by
  unfold Dp at h;rw[XW]at h;rcases Nat.eq_or_lt_of_le h1 with rfl|q
  .exact h.1
  .exact pZ h.2 j q (by omega)
theorem pK{c:CB}{x:AA CN}(h:Dg c x=AE):∀y∈x,J8 c y:=by
 intro y d;obtain⟨i,f,rfl⟩:=List.getElem_of_mem d;have:=pZ h i (XU _) (by omega)
 simp_all[H_,QoS]
theorem oG{c:CB}(j:IN c)(he:Ev (λn=>F0 n c) 0){s:CC}{i:Nat}{m:Am}(q:s.Am=(i:Int))(h:c.Au[i]?=AC m)(g:JW s.BK){d:Int}(f:JW d):
  Ev (λn=>I4 n c s d) (Ia c m.AY s d,0):=by
 have k:IA c s.Am=true:=by
  have:=(XL.1 h).1
  simp_all[IA]
 unfold I4;refine Ea he (QY (Ea (v:=AD) (Ea (lC c _) ?_) (QY (Ea (jw j h q g f) (Qb _)))));rw[k];refine QY (Ea (dO d) ?_);rw[Hx.2 f];refine QY (Ea (dO s.BK) ?_);rw[Hx.2 g];exact Qb _
structure J_ (k:CE):Prop where
 dims:Kl k
 ev:Ev (λn=>Iy n k) 0
 anc:∀s∈k.AS,JW s.BK
theorem lH{k:CE}(w:Ff k)(h:Fs k=AE):J_ k:=by
 have e:=oH k w;rw[h]at e;refine⟨Qmk h,e,λs g=>?_⟩;unfold Fs at h;simp only[XW]at h;have f:=h.2.1;unfold H6 at f;obtain⟨i,d,rfl⟩:=List.getElem_of_mem g;have:=fX.1 f i d;rw[XK d]at this;unfold HT at this;simp only[Bool.not_eq_true',XX,Bool.not_eq_false']at this;exact Hx.1 this.2.2.2.2.1
theorem s?{c:CB}{h:CN}{i:Nat}{m:Am}(d:h.Am=(i:Int))(f:c.Au[i]?=AC m):Cj c h.Am=m.AY:=by
 simp_all[Cj]
theorem Qn7{c:CB}{k:CE}(R:IN c)(he:Ev (λn=>F0 n c) 0)(T:J_ k)(x:AA CN)(hx:∀y∈x,J8 c y)(hl:AI x<=1000):
  Ev (λn=>iter (Hl n c k x) n ([],0)) (match C7 c k x with|some l=>CG.k l|none=>CG.d (CM.c0 170)):=by
 have hs:=T.dims.segs;have N:∀(r:AA CN) (a:AA Ue) (i:Nat),x.drop i=r->i<=AI x->AI a<=i->DW (λn=>Hl n c k x) (a,(i:Int)) (match C7 c k r with|some l=>CG.k (a++l)|none=>CG.d (CM.c0 170)):=by
  intro r
  induction r with
  |nil=>
   intro a i P Q d;refine Ej ?_;unfold Hl;simp only[Yt P Q,Vq];refine(Qb _).eq ?_;simp[C7]
  |cons h r ih=>
   intro a i P Q V;obtain⟨d,O⟩:=QG (by omega) P;have aa:=d.lt';obtain⟨⟨j,m,B,t⟩,W,f2,f3⟩:=hx h d.mem;have L:=s? B t;have step:∀(f:Int×CC),f.2.Am=(j:Int)->JW f.2.BK->
     Ev (λn=>(I4 n c f.2 h.BO).bind λH=>(I4 n c f.2 h.A9).bind λM=>(app a [{Ah:=f.1,A_:={Lo:=i64.wrap (h.BO+H.1.Lo),Hi:=i64.wrap (h.A9+M.1.Hi):CK}:Ue}]).bind λJ=>AC (CG.k (J,((i+1:Nat):Int)):CG (AA Ue×Int) (CG (AA Ue) CM)))
      (CG.k (a++[{Ah:=f.1,A_:=HH c f.2 h}],((i+1:Nat):Int))):=by
    intro f E F;refine Ea (oG R he E t F W) (Ea (oG R he E t F f2) (Ea (EB (gG (by omega))) ((Qb _).eq ?_)));unfold HH;rw[L]
   have g:∀(y:Ue),Du c k h=AC y->Ev (λn=>Hl n c k x (a,(i:Int))) (CG.k (a++[y],((i+1:Nat):Int)))->DW (λn=>Hl n c k x) (a,(i:Int)) (match C7 c k (h::r)with|some l=>CG.k (a++l)|none=>CG.d (CM.c0 170)):=by
    intro y hy G;refine Ex G ((ih (a++[y]) (i+1) O (by omega) (by simp;omega)).eq ?_);rw[tW,hy]
    grind
   cases z:(Cj c h.Am==1)with
   |true=>
    refine g {Ah:= -1,A_:=HH c {Am:=h.Am,Ag:=h.Ag,BK:=0} h} (by unfold Du;rw[z];rfl) ?_;unfold Hl;simp only[d.lt,Vp,d.ix,XJ,d.nx];refine Ea (lE k h (by omega)) ?_;simp only[B,QB t,XJ]
    simp_all[JW]
   |false=>
    by_cases q:Dl k h<0
    .have X:Du c k h=none:=by unfold Du;grind
     refine Ej ?_;unfold Hl;rw[tW,X];simp only[d.lt,Vp,d.ix,XJ,d.nx];refine Ea (lE k h (by omega)) ?_;simp only[B,QB t,XJ];rw[L]at z;refine Ea (v:=CG.d (.d (.d (CM.c0 170)))) (by rw[z,Yj q];exact Qb _) ?_;exact Qb _
    .obtain⟨jj,s,E,F,Y,g4⟩:=p9 q;refine g {Ah:=Dl k h,A_:=HH c s h} (by unfold Du;grind) ?_;unfold Hl;simp only[d.lt,Vp,d.ix,XJ,d.nx];refine Ea (lE k h (by omega)) ?_;simp only[B,QB t,XJ];rw[L]at z;refine Ea (v:=CG.k (Dl k h,s)) (by rw[z,Yp q,E];simp_all[QB,Qb]) ?_;exact step (Dl k h,s) (Y.trans B) (T.anc s (VH F))
 have:=(N x [] 0 rfl (XU _) (XT _)).ev
 grind
theorem qo{c:CB}{k:CE}:∀{x:AA CN} {l:AA Ue},C7 c k x=AC l->AI l=AI x/\ ∀(i:Nat) (h:CN),x[i]?=AC h->∃t,l[i]?=AC t/\Du c k h=AC t
 |[],l,h=>by
  simp_all[C7]
 |y::x,l,h=>by
  unfold C7 at h;cases e:Du c k y with
  |none=>grind
  |some t=>
   rw[e]at h;cases e2:C7 c k x with
   |none=>grind
   |some l2=>
    rw[e2]at h;cases h;obtain⟨p1,p2⟩:=qo e2
    grind
theorem QmV{c:CB}{k:CE}{h:CN}{t:Ue}(q:Du c k h=AC t):t.Ah= -1\/ ∃(j:Nat) (s:CC),t.Ah=(j:Int)/\k.AS[j]?=AC s/\s.Am=h.Am:=by
 unfold Du at q;cases f:(Cj c h.Am==1)with
 |true=>grind
 |false=>
  rw[f]at q;by_cases d:Dl k h<0
  .grind
  .rw[Yp d]at q;obtain⟨j,s,g,n,m,_⟩:=p9 d
   grind
def KE(a:AA (Int×Ue)×Int)(h:Ae):AA (Int×Ue)×Int:=
 bif !(Fc a.1 h.AT)then(QJ a.1 h.AT {Ah:= -1,A_:={Lo:=h.Lo,Hi:=h.Hi}},if a.2<h.AT then h.AT else a.2)else a
def IC(l:AA Ae):AA (Int×Ue)×Int:=l.foldl KE ([],-1)
theorem Qob(l:AA Ae)(d:AI l<=1048576):Ev (λn=>iter (Nh n l) n ([],(-1),0)) (IC l):=by
 refine YL l KE ([],-1) (λa i=>(a.1,a.2,(i:Int))) (λa=>a) (by omega) rfl (λi x a ha _=>?_) ?_
 .unfold Nh KE;simp only[ha.lt,Vp,ha.ix,XJ,ha.nx]
  grind[Qb]
 simp_all[Nh,Qb]
theorem pL:∀(l:AA Ae) (a:AA (Int×Ue)×Int) (p:Int),JC (l.foldl KE a).1 p=(match JC a.1 p with|some x=>AC x|none=>(l.find? λh=>h.AT==p).map λh=>{Ah:= -1,A_:={Lo:=h.Lo,Hi:=h.Hi}})
 |[],a,p=>by grind
 |x::l,a,p=>by
  rw[XD,pL l (KE a x) p];unfold KE;rw[po];cases hx:JC a.1 x.AT with
  |some y=>
   grind
  |none=>
   simp only[Option.isSome_none,Xh,Vp,rj]
   grind
theorem QnT(l:AA Ae)(p:Int):JC (IC l).1 p=(l.find? λh=>h.AT==p).map λh=>{Ah:= -1,A_:={Lo:=h.Lo,Hi:=h.Hi}}:=by
 unfold IC;rw[pL];rfl
def M5(c:CB)(a b:Int):Co:=(c.Az.find? λl=>(l.A'==a)&&(l.To==b)).getD {A':=0,To:=0,Bp:=0,Bq:=0}
def Fk(c:CB)(s:CK)(a b:Int):CK:={Lo:=i64.wrap (s.Lo+(M5 c a b).Bp),Hi:=i64.wrap (s.Hi+(M5 c a b).Bq)}
def Fi(c:CB):CK->Int->AA Int->AA CK
 |_,_,[]=>[]
 |s,a,b::r=>Fk c s a b::Fi c (Fk c s a b) b r
def H0(c:CB):AA Int->AA CK
 |[]=>[]
 |a::r=>{Lo:=0,Hi:=0}::Fi c {Lo:=0,Hi:=0} a r
theorem Qju(c:CB)(s:CK)(a b:Int)(r:AA Int):Fi c s a (b::r)=Fk c s a b::Fi c (Fk c s a b) b r:=rfl
theorem qy(c:CB):∀(r:AA Int) (s:CK) (a:Int),AI (Fi c s a r)=AI r
 |[],_,_=>rfl
 |b::r,s,a=>by unfold Fi;simp[qy c r]
theorem QlH(c:CB)(r:AA Int):AI (H0 c r)=AI r:=by
 cases r with
 |nil=>rfl
 |cons a r=>unfold H0;simp[qy]
theorem _E{c:CB}(F:AI c.Az<=512){k:CE}{r:AA Int}{s:AA CK}{x:AA CN}{t:AA Ue}{hi:Int}{m:AA (Int×Ue)}{i:Nat}{a b:Int}(q:r[i]?=AC a)(B:i<=100000)(hg:C3 c a b=AE):
  ∃j l,Ev (λn=>OX n c.Az ((i+1:Nat):Int) b c k r s x t hi m c k) ((j:Nat):Int)/\c.Az[j]?=AC l/\l=M5 c a b:=by
 have h:∀j y,At c.Az j y->Ev (λn=>Ls n c.Az ((i+1:Nat):Int) b c k r s x t hi m c k (j:Int)) (bif (y.A'==a)&&(y.To==b)then .d (.d (j:Int))else .k ((j+1:Nat):Int)):=by
  intro j y d;unfold Ls;simp only[d.lt,Vp,d.ix,XJ,d.nx];refine Ea (v:=(y.A'==a)&&(y.To==b)) ?_ ?_
  .unfold VZ;rw[show i64.wrap (((i+1:Nat):Int)-1)=(i:Int)by rw[Qt (by omega) (by omega)];omega,QB q,XJ]
   simp_all[Ei,Qb]
  grind[Qb]
 have E:Ev (λn=>Ls n c.Az ((i+1:Nat):Int) b c k r s x t hi m c k (AI c.Az:Int)) (.d (.k ())):=by
  simp_all[Ls,Qb]
 rcases QmM c.Az (λl=>(l.A'==a)&&(l.To==b)) (by omega) h E with⟨j,y,g,f,z⟩|⟨g,f⟩
 .refine⟨j,y,?_,g.get,?_⟩
  .unfold OX;exact Ea z (Qb _)
  .unfold M5;rw[f];rfl
 grind[C3]
theorem U?{c:CB}(O:AI c.Az<=512){k:CE}{r:AA Int}{x:AA CN}{t:AA Ue}{h:AA (Int×Ue)×Int}(Q:AI r<=256)(H:Fo c r):
  Ev (λn=>iter (It n c k x (r,0) t h) n ([],{Lo:=0,Hi:=0:CK},0)) (H0 c r):=by
 have E:∀(q:AA Int) (i:Nat) (a:Int) (s:CK) (o:AA CK),r[i]?=AC a->r.drop (i+1)=q->AI o=i+1->DW (λn=>It n c k x (r,0) t h) (o,s,((i+1:Nat):Int)) (o++Fi c s a q):=by
  intro q
  induction q with
  |nil=>
   intro i a s o y B F;have:=(XL.1 y).1;refine Ej ?_;unfold It;simp only[Yt B (by omega),Vq];refine(Qb _).eq ?_;simp[Fi]
  |cons b q M=>
   intro i a s o y B F;obtain⟨g,z⟩:=QG (by omega) B;have L:=g.lt';obtain⟨j,l,J,R,W⟩:=_E (c:=c) (k:=k) (s:=o) (x:=x) (t:=t) (hi:=h.2) (m:=h.1) O y (by omega) (H.at y g.get);refine Ex ?_ ((M (i+1) b (Fk c s a b) (o++[Fk c s a b]) g.get z (by simp[F])).eq (by rw[Qju];simp));unfold It;simp only[g.lt,Vp,g.ix,XJ,g.nx];refine Ea (v:=Fk c s a b) ?_ (Ea (EB (gG (by omega))) (Qb _));refine J5 (by simp) (Ea J ?_)
   grind[QB,Fk,Qb]
 cases d:r with
 |nil=>
  subst d;refine(Ej ?_).ev;unfold It;exact Qb _
 |cons a q=>
  have G:r[0]?=AC a:=by rw[d];rfl
  have N:r.drop (0+1)=q:=by rw[d];rfl
  have:=E q 0 a {Lo:=0,Hi:=0} [{Lo:=0,Hi:=0}] G N rfl;have f:At r 0 a:=Y3 (by omega) G;rw[<- d];refine(Ex (s':=([{Lo:=0,Hi:=0}],{Lo:=0,Hi:=0},((0+1:Nat):Int))) ?_ (this.eq ?_)).ev
  .unfold It;have T:=f.lt;have V:=f.ix;have P:=f.nx
   simp_all[EB,gG]
  .rw[d];rfl
def JX(h:Ae):Bool:=AG (h.Hi<h.Lo)||(!FO h.Lo||(!FO h.Hi||AG (h.AT<0)))
theorem qD(x:Int):Ev (λn=>L7 n x) (FO x):=by
 simp_all[L7,FO,DI,Ei,Qb]
theorem Qoc(h:Ae):Ev (λn=>L' n h) (JX h):=by
 unfold L' JX;refine Ea (QN λ_=>Ea (qD _) (QN λ_=>Ea (qD _) (QN λ_=>Qb _))) (Qb _)
def G_(c:CB)(s:AP)(l:AA Ae):Bool:=AG (s.AN<0)||(AG ((AI c.AO:Int)<=s.AN)||(AG (s.A3<0)||(AG ((AI c.A0:Int)<=s.A3)||l.any JX)))
def LE(c:CB)(k:CE)(s:AP)(e:Int)(x:AA CN)(l:AA Ae):CM:=
 bif !Fs k then .c0 160 else bif G_ c s l then .c0 1 else bif (CY c s.AN e).2 != 0 then .c0 (CY c s.AN e).2 else bif !Dg c x then .c0 170 else
  match C7 c k x with
  |none=>.c0 170
  |some t=>.c1 ((CY c s.AN e).1,H0 c (CY c s.AN e).1,t,(IC l).1,(IC l).2)
theorem QjI{c:CB}(g:Fd c)(q:CP c=0)(he:Ev (λn=>F0 n c) 0){k:CE}(z:Ff k)(s:AP)(e:Int)(x:AA CN)(G:AI x<=1000)(l:AA Ae)(T:AI l<=1048576):
  Ev (λn=>IL n c k s e x l) (LE c k s e x l):=by
 unfold IL LE;refine Ea he (QY (Ea (oH k z) ?_));cases J:Fs k with
 |false=>exact Qb _
 |true=>
 refine QY (Ea (v:=G_ c s l) ?_ ?_)
 .unfold G_;refine QN λ_=>QN λ_=>QN λ_=>QN λ_=>Ea ?_ (Qb _);exact Ev.contains l JX (λn y=>L' n y) (by omega) λy _=>Qoc y
 cases G_ c s l with
 |true=>exact Qb _
 |false=>
 refine QY (Ea (lB g he s.AN e) ?_);cases Q:((CY c s.AN e).2 != 0)with
 |true=>exact Qb _
 |false=>
 have f:(CY c s.AN e).2=0:=by grind
 refine QY (Ea (Ql8 c x (by omega) he) ?_);cases B:Dg c x with
 |false=>exact Qb _
 |true=>
 refine QY (Ea (Qn7 (qb q) he (lH z J) x (pK B) G) ?_);cases C7 c k x with
 |none=>exact Qb _
 |some t=>
 obtain⟨j,d,M,O,P,E,N,R,L⟩:=gv g f;have H:=VH E;have m:(CY c s.AN e).1.length<=256:=by
  grind[DE]
 have h:Fo c (CY c s.AN e).1:=by rw[L];exact QlK g q H M N
 refine Ea (Qob l (by omega)) ?_;have F:CY c s.AN e=((CY c s.AN e).1,0):=Prod.ext rfl f;rw[F];exact Ea (U? g.legs m h) (Qb _)
set_option maxRecDepth 10000
structure Cp where
 c:CB
 k:CE
 r:List Int
 s:List CK
 H:List CN
 T:List Ue
 m:List (Int×Ue)
 hi:Int
abbrev zX:Ue:={Ah:=0,A_:={Lo:=0,Hi:=0}}
def Cp.seg(t:Cp)(x:Ue):Prop:=∃j:Nat,x.Ah+1=(j:Int)/\j<AI t.k.AS+1
structure DD (t:Cp):Prop where
 ty:Ev (λn=>F0 n t.c) 0
 crs:IN t.c
 clk:J_ t.k
 sl:AI t.s=AI t.r
 rl:AI t.r<=256
 tl:AI t.T=AI t.H
 hl:AI t.H<=1000
 hit:∀(i:Nat) (h:CN),t.H[i]?=AC h->J8 t.c h
 sg:∀x∈t.T,t.seg x
 hs:∀p x,JC t.m p=AC x->t.seg x
 mi:0<=t.c.AQ.A8
def DO(t:Cp)(p h:Int):Ue×Bool:=bif Fc t.m p||AG (h<0)then(Qo t.m p zX,Fc t.m p)else((t.T[h.toNat]?).getD zX,AE)
def HY(t:Cp)(h:Int):Prop:=h<0\/h.toNat<AI t.H
theorem RD{α:Type}{l:AA α}{h:Int}(f:0<=h)(d:h.toNat<AI l):∃x,l[h.toNat]?=AC x/\CJ l h=AC x:=by
 refine⟨l[h.toNat]'(d),(by simp),?_⟩
 grind[QB]
theorem qC{t:Cp}(ok:DD t)(p h:Int)(f:HY t h):Ev (λn=>Iw n p h t.c t.k t.r t.s t.H t.T t.hi t.m t.c t.k) (DO t p h):=by
 unfold Iw DO;refine Ea (Qb _) (Ea (QN λ_=>Qb _) ?_);refine JN (λ_=>Qb _) λq=>?_;rw[XX,decide_eq_false_iff_not]at q;obtain⟨x,d,g⟩:=RD (l:=t.T) (h:=h) (by omega) (by have:=ok.tl;rcases f with z|z<;>omega);rw[g,d];exact Qb _
theorem lm{t:Cp}(ok:DD t){p h:Int}(g:HY t h)(q:(DO t p h).2=AE):t.seg (DO t p h).1:=by
 unfold DO at q⊢;cases e:(Fc t.m p||AG (h<0))with
 |true=>
  rw[e]at q;simp only[Vp]at q⊢;rw[po]at q;obtain⟨x,d⟩:=Option.isSome_iff_exists.1 q;unfold Qo;rw[d];exact ok.hs p x d
 |false=>
  simp only[Vq];rw[XX,decide_eq_false_iff_not]at e;obtain⟨x,f,j⟩:=RD (l:=t.T) (h:=h) (by omega) (by have:=ok.tl;rcases g with z|z<;>omega);rw[f];exact ok.sg x (by grind)
def Pr(d w:CK):Bool:=AG ((if d.Lo<w.Lo then w.Lo else d.Lo)<=(if w.Hi<d.Hi then w.Hi else d.Hi))
def K8(c:CB)(k:CE)(g:Int)(a b:Int):CK:=
 bif g<0 then {Lo:=a,Hi:=i64.wrap (b+c.AQ.Al)}else match k.AS[g.toNat]? with
 |none=>{Lo:=0,Hi:=0}
 |some s=>bif !IA c s.Am then {Lo:=0,Hi:=0}else
  {Lo:=i64.wrap (i64.wrap (a+(Ia c (Cj c s.Am) s a).Lo)-D1 k (g.toNat+1) 0),Hi:=i64.wrap (i64.wrap (b+(Ia c (Cj c s.Am) s b).Hi)+D1 k 0 (g.toNat+1))}
theorem V?{t:Cp}(ok:DD t){x:Ue}(W:t.seg x){a b:Int}(H:JW a)(O:JW b)(X:a<=b):∃e,Ev (λn=>MQ n t.c t.k x.Ah {Lo:=a,Hi:=b}) (K8 t.c t.k x.Ah a b,e):=by
 obtain⟨j,j1,j2⟩:=W;have hs:=ok.clk.dims.segs;have start:∀{v:CK×Int},Ev (λn=>(bif x.Ah<0 then AC ({Lo:=a,Hi:=i64.wrap (b+t.c.AQ.Al):CK},0)else(CJ t.k.AS x.Ah).bind λf=>(KW n t.c f.Am).bind λy=>(bif (!y)then AC ({Lo:=0,Hi:=0:CK},1)else(IM n t.c f a).bind λg=>(CJ t.k.BN (i64.wrap (x.Ah+1))).bind λq=>(CJ q 0).bind λB=>(IM n t.c f b).bind λF=>(CJ t.k.BN 0).bind λz=>(CJ z (i64.wrap (x.Ah+1))).bind λG=>AC ({Lo:=i64.wrap ((i64.wrap (a+g.Lo))-B),Hi:=i64.wrap ((i64.wrap (b+F.Hi))+G):CK},0)):AB (CK×Int))) v->Ev (λn=>MQ n t.c t.k x.Ah {Lo:=a,Hi:=b}) v:=by
  intro v R;unfold MQ;refine Ea ok.ty (QY (Ea ok.clk.ev (QY (Ea (v:=AD) ?_ (QY R)))));simp only[Yp (show¬x.Ah< -1 by omega),Yp (show¬(AI t.k.AS:Int)<=x.Ah by omega),Vq];refine Ea (dO a) ?_;rw[Hx.2 H];refine QY (Ea (dO b) ?_);rw[Hx.2 O]
  simp_all[Yp,Qb]
 unfold K8;by_cases d:x.Ah<0
 .rw[Yj d];exact⟨_,start (J5 (Yj d) (Qb _))⟩
 rw[Yp d];simp only[Vq];obtain⟨s,V,J⟩:=RD (l:=t.k.AS) (h:=x.Ah) (by omega) (by omega);rw[V];simp only;cases E:IA t.c s.Am with
 |false=>exact⟨_,start (W4 (Yp d) (YB J (Ea ((lC t.c s.Am).eq E) (J5 rfl (Qb _)))))⟩
 |true=>
  obtain⟨i,m,L,N⟩:=ze E;have Q:Cj t.c s.Am=m.AY:=by simp_all[Cj]
  have M:=ok.clk.anc s (by grind);obtain⟨P,Y⟩:=ok.clk.dims.get (i:=x.Ah.toNat+1) (j:=0) (by omega) (by omega);obtain⟨T,g4⟩:=ok.clk.dims.get (i:=0) (j:=x.Ah.toNat+1) (by omega) (by omega);have w:i64.wrap (x.Ah+1)=((x.Ah.toNat+1:Nat):Int):=by rw[Qt (by omega) (by omega)];omega
  refine⟨0,start (W4 (Yp d) (YB J (Ea ((lC t.c s.Am).eq E) (W4 rfl (Ea (jw ok.crs N L M H) (YB (v:=t.k.BN[x.Ah.toNat+1]?.getD []) (by rw[w];exact QB P) (YB (v:=D1 t.k (x.Ah.toNat+1) 0) (QB (i:=0) Y) (Ea (jw ok.crs N L M O) (YB (v:=t.k.BN[0]?.getD []) (QB (i:=0) T) (YB (v:=D1 t.k 0 (x.Ah.toNat+1)) (by rw[w];exact QB g4) ?_))))))))))⟩;rw[Q];exact Qb _
def Ie(t:Cp)(h p:Int):Bool:=bif !(Fc t.m p)then AE else match t.H[h.toNat]?,t.T[h.toNat]? with
 |some y,AC x=>Pr (K8 t.c t.k x.Ah y.BO y.A9) (Qo t.m p zX).A_
 |_,_=>AE
theorem Qoj{t:Cp}(ok:DD t){h p:Int}(f:0<=h)(g:h.toNat<AI t.H):Ev (λn=>Ou n h p t.c t.k t.c t.k t.r t.s t.H t.T t.hi t.m) (Ie t h p):=by
 unfold Ou Ie;refine Ea (Qb _) ?_;cases Fc t.m p with
 |false=>exact Qb _
 |true=>
  obtain⟨y,y1,y2⟩:=RD (l:=t.H) f g;obtain⟨x,j,q⟩:=RD (l:=t.T) f (by rw[ok.tl];exact g);have d:=ok.hit _ _ y1;rw[y2,q,y1,j];refine QY ?_;simp only[XJ];obtain⟨e,z⟩:=V? ok (ok.sg x (by grind)) d.fi d.la d.le;refine Ea z ?_;unfold L4;exact Qb _
def LF(t:Cp)(i j:Int):CK:=
 let a:=(t.s[i.toNat]?).getD {Lo:=0,Hi:=0}
 let b:=(t.s[j.toNat]?).getD {Lo:=0,Hi:=0}
 {Lo:=if i64.wrap (b.Lo-a.Lo)<2199023255552 then i64.wrap (b.Lo-a.Lo)else 2199023255552,Hi:=if i64.wrap (b.Hi-a.Hi)<2199023255552 then i64.wrap (b.Hi-a.Hi)else 2199023255552}
theorem j7{t:Cp}(ok:DD t){i j:Int}(h:0<=i)(f:i.toNat<AI t.r)(d:0<=j)(g:j.toNat<AI t.r):Ev (λn=>Kd n i j t.c t.k t.r t.s t.H t.T t.hi t.m t.c t.k) (LF t i j):=by
 obtain⟨a,x,y⟩:=RD (l:=t.s) h (by rw[ok.sl];exact f);obtain⟨b,z,q⟩:=RD (l:=t.s) d (by rw[ok.sl];exact g)
 grind[Kd,LF,Qb]
def LK(t:Cp)(a b:Ue):CK:=
 bif (i64.wrap (a.Ah+1)) != (i64.wrap (b.Ah+1))then
  {Lo:=i64.wrap (i64.wrap (b.A_.Lo-a.A_.Hi)-D1 t.k (b.Ah+1).toNat (a.Ah+1).toNat),Hi:=i64.wrap (i64.wrap (b.A_.Hi-a.A_.Lo)+D1 t.k (a.Ah+1).toNat (b.Ah+1).toNat)}
 else {Lo:=i64.wrap (b.A_.Lo-a.A_.Hi),Hi:=i64.wrap (b.A_.Hi-a.A_.Lo)}
def FQ(t:Cp)(a:Ue)(i:Int)(b:Ue)(j:Int):Bool:=Pr (LK t a b) (LF t i j)
theorem QjM{t:Cp}(ok:DD t){a b:Ue}{i j:Int}(f:t.seg a)(E:t.seg b)(B:0<=i)(h:i.toNat<AI t.r)(g:0<=j)(z:j.toNat<AI t.r):
  Ev (λn=>Ka n a i b j t.c t.k t.r t.s t.H t.T t.hi t.m t.c t.k) (FQ t a i b j):=by
 obtain⟨x,q,d⟩:=f;obtain⟨y,y1,y2⟩:=E;have F:=ok.clk.dims.segs;unfold Ka FQ;refine Ea (v:=LK t a b) ?_ (Ea (j7 ok B h g z) ?_)
 .unfold LK;rw[q,y1,Qt (n:=(x:Int)) (by omega) (by omega),Qt (n:=(y:Int)) (by omega) (by omega)];refine JN (λ_=>?_) λ_=>Qb _;obtain⟨G,M⟩:=ok.clk.dims.get (i:=y) (j:=x) y2 d;obtain⟨J,L⟩:=ok.clk.dims.get (i:=x) (j:=y) d y2
  grind[QB,Qb]
 .unfold L4;exact Qb _
structure KG (t:Cp) (s:Uh):Prop where
 la:s.Bm<(AI t.r:Int)
 wh:0<=s.Bm->t.seg s.Bv
 r0:0<=s.row
 r1:s.row<=1000
def HG(t:Cp)(s:Uh)(p h:Int):Bool:=(AG (0<=h)&& !Ie t h p)||(AG (0<=s.Bm)&& !FQ t s.Bv s.Bm (DO t p h).1 p)
def C_(t:Cp)(s:Uh)(p h:Int):Uh×Bool:=
 bif !(DO t p h).2 then({s with row:=s.row+1},AG (s.row+1<=t.c.AQ.A8))else bif HG t s p h then(s,AD)else({Bm:=p,Bv:=(DO t p h).1,row:=0},AE)
theorem j9{t:Cp}(ok:DD t){s:Uh}(f:KG t s){p h:Int}(F:0<=p)(E:p.toNat<AI t.r)(g:HY t h):
  Ev (λn=>KY n s p h t.c t.k t.r t.s t.H t.T t.hi t.m t.c t.k) (C_ t s p h):=by
 have r0:=f.r0;have r1:=f.r1;unfold KY C_;refine Ea (qC ok p h g) ?_;rw[Qt (n:=s.row+1) (by omega) (by omega)];cases y:(DO t p h).2 with
 |false=>exact Qb _
 |true=>
  have B:=lm ok g y;refine QY (Ea (v:=HG t s p h) ?_ ?_)
  .have j:Ev (λn=>(bif 0<=s.Bm then(Ka n s.Bv s.Bm (DO t p h).1 p t.c t.k t.r t.s t.H t.T t.hi t.m t.c t.k).bind λx=>AC (!x)else AC AD:AB Bool)) (AG (0<=s.Bm)&& !FQ t s.Bv s.Bm (DO t p h).1 p):=by
    refine Ei λq=>?_;have q:=Vv q;exact Ea (QjM ok (f.wh q) B q (by have:=f.la;omega) F E) (Qb _)
   unfold HG;by_cases d:0<=h
   .rw[Yj d,Vz];have G:h.toNat<AI t.H:=by rcases g with z|z<;>omega
    refine Ea (Qoj ok d G) ?_;exact QN λ_=>j
   grind
  .cases HG t s p h<;>exact Qb _
theorem kJ{t:Cp}(ok:DD t){s:Uh}(d:KG t s){p h:Int}(j:p<(AI t.r:Int))(g:HY t h)(k:s.row<1000):KG t (C_ t s p h).1:=by
 have r0:=d.r0;unfold C_;cases f:(DO t p h).2 with
 |false=>exact⟨d.la,d.wh,by grind,by grind⟩
 |true=>
  simp only[Xg,Vq];cases HG t s p h with
  |true=>exact d
  |false=>exact⟨j,λ_=>lm ok g f,by simp,by simp⟩
def FZ(t:Cp)(W:CX)(u:AA (Int×Bool))(i:Nat)(h:Int):Bool:=
 AG (h<0)||(AG ((AI t.H:Int)<=h)||((((t.H[h.toNat]?).map (·.Am)).getD 0 != (t.r[i]?).getD 0)||(Qo u h AD||AG (W.A9<(i:Int)))))
def admL(t:Cp)(W:CX):AA Int->Nat->AA (Int×Bool)->Uh->Bool
 |[],_,_,_=>AE
 |h::r,i,u,s=>
  bif (h != -1)&&FZ t W u i h then AD else
  bif W.A9<(i:Int) then admL t W r (i+1) (bif h != -1 then QJ u h AE else u) s else
  bif !(C_ t s (i:Int) h).2 then AD else admL t W r (i+1) (bif h != -1 then QJ u h AE else u) (C_ t s (i:Int) h).1
theorem dN(t:Cp)(W:CX)(h:Int)(r:AA Int)(i:Nat)(u:AA (Int×Bool))(s:Uh):admL t W (h::r) i u s=
  bif (h != -1)&&FZ t W u i h then AD else
  bif W.A9<(i:Int) then admL t W r (i+1) (bif h != -1 then QJ u h AE else u) s else
  bif !(C_ t s (i:Int) h).2 then AD else admL t W r (i+1) (bif h != -1 then QJ u h AE else u) (C_ t s (i:Int) h).1:=rfl
def Rn(l:AA Int)(x:Int):Bool:=AG (0<=DX (λy=>x==y) l 0)
def KB(W:CX):AA CN->Nat->Int->Int
 |[],_,a=>a
 |_::r,i,a=>KB W r (i+1) (bif !Rn W.BJ (i:Int)then i64.wrap (a+1)else a)
theorem Ql5(W:CX)(H:AA CN)(z:AI W.BJ<=1048576)(hH:AI H<=1048576):Ev (λn=>OE n H W) (KB W H 0 0):=by
 have f:∀(r:AA CN) (i:Nat) (a:Int),H.drop i=r->i<=AI H->DW (λn=>Nj n H W) (a,(i:Int)) (KB W r i a):=by
  intro r
  induction r with
  |nil=>
   intro i a k m;refine Ej ?_;unfold Nj;simp only[Yt k m,Vq];exact Qb _
  |cons y r t=>
   intro i a k m;obtain⟨d,h⟩:=QG (by omega) k;have q:=d.lt';refine Ex ?_ (t (i+1) _ h (by omega));unfold Nj;simp only[d.lt,Vp,d.nx];refine Ea (v:=Rn W.BJ (i:Int)) ?_ ?_
   .unfold WP Rn;refine Ea (v:=DX (λy=>(i:Int)==y) W.BJ 0) ?_ (Qb _);unfold WE;refine Ev.first W.BJ _ (by omega) (λj x g=>?_) ?_
    .unfold T3;simp only[g.lt,Vp,g.ix,XJ,g.nx];cases((i:Int)==x)<;>exact Qb _
    simp_all[T3,Qb]
   grind[Qb]
 unfold OE;exact Ea (f H 0 0 rfl (XU _)).ev (Qb _)
def Ha(t:Cp)(W:CX):Bool:=((AI W.BJ:Int) != (AI t.r:Int))||(AG (W.A9< -1)||(AG ((AI t.r:Int)<=W.A9)||(AG (W.A9<t.hi)||AG (t.c.AQ.A7<KB W t.H 0 0))))
def RZ:Uh:={DQ with Bm:=(-1)}
def FS(t:Cp)(W:CX):Bool:=bif Ha t W then AD else admL t W W.BJ 0 [] RZ
theorem n9{t:Cp}:KG t RZ:=⟨by show(-1:Int)<_;omega,λh=>by have:(0:Int)<= -1:=h;omega,by show(0:Int)<=0;omega,by show(0:Int)<=1000;omega⟩
theorem rx{t:Cp}{W:CX}{u:AA (Int×Bool)}{i:Nat}{h:Int}(q:((h != -1)&&FZ t W u i h)=AD):HY t h/\(h= -1\/(0<=h/\FZ t W u i h=AD)):=by
 rw[Bool.and_eq_false_iff]at q;rcases q with q|q
 .have:h= -1:=by grind
  exact⟨.inl (by omega),.inl this⟩
 .have d:=q;unfold FZ at d;simp only[XX,decide_eq_false_iff_not]at d;exact⟨.inr (by omega),.inr ⟨by omega,q⟩⟩
theorem _D{t:Cp}(ok:DD t)(W:CX)(hW:AI W.BJ<=1048576):Ev (λn=>L0 n W t.c t.k t.r t.s t.H t.T t.hi t.m t.c t.k) (FS t W):=by
 unfold L0 FS;refine Ea (v:=Ha t W) ?_ ?_
 .unfold Ha;exact QN λ_=>QN λ_=>QN λ_=>QN λ_=>Ea (Ql5 W t.H hW (by have:=ok.hl;omega)) (Qb _)
 cases N:Ha t W with
 |true=>exact Qb _
 |false=>
 unfold Ha at N;simp only[XX,decide_eq_false_iff_not]at N;obtain⟨j,b1,b2,b3,_⟩:=N;have j:AI W.BJ=AI t.r:=by have:=j;simp[bne]at this;omega
 have rl:=ok.rl;have O:∀(r:AA Int) (i:Nat) (u:AA (Int×Bool)) (s:Uh),W.BJ.drop i=r->i<=AI W.BJ->KG t s->s.row<=(i:Int)->DW (λn=>Iq n W t.c t.k t.r t.s t.H t.T t.hi t.m t.c t.k) (u,s,(i:Int)) (bif admL t W r i u s then CG.k ()else CG.d AD):=by
  intro r
  induction r with
  |nil=>
   intro i u s P hi x _;refine Ej ?_;unfold Iq admL;simp only[Yt P hi,Vq];exact Qb _
  |cons h r X=>
   intro i u s P hi x V;obtain⟨f,M⟩:=QG (by omega) P;have aa:=f.lt';rw[dN];have q:t.r[i]?=AC (t.r[i]'(by omega)):=XK (by omega);have d:Ev (λn=>((bif (h != (-1))then((bif h<0 then AC AE else(bif (AI t.H:Int)<=h then AC AE else(CJ t.H h).bind λJ=>(CJ t.r (i:Int)).bind λG=>(bif (J.Am != G)then AC AE else(AC (Qo u h AD)).bind λL=>(bif L then AC AE else AC (AG (W.A9<(i:Int))))))):AB Bool).bind λB=>(bif B then AC (.d (.d (.d (.d AD))))else(AC (QJ u h AE)).bind λE=>AC (.k E))else AC (.k u)):AB (CG (AA (Int×Bool)) (CG ((AA (Int×Bool))×Uh) (CG ((AA (Int×Bool))×Uh×Int) (CG Unit Bool))))))
     (bif (h != -1)&&FZ t W u i h then .d (.d (.d (.d AD)))else .k (bif h != -1 then QJ u h AE else u)):=by
    cases hn:(h != -1)with
    |false=>exact Qb _
    |true=>
     refine P6 (Ea (v:=FZ t W u i h) ?_ ?_)
     .unfold FZ;refine QN λY=>QN λR=>?_;have Y:=Vw Y;have R:=Vw R;obtain⟨y,y1,y2⟩:=RD (l:=t.H) (h:=h) (by omega) (by omega);rw[y2,y1,XJ,QB q,XJ,q];exact QN λ_=>Ea (Qb _) (QN λ_=>Qb _)
     .cases FZ t W u i h<;>exact Qb _
   cases g:((h != -1)&&FZ t W u i h)with
   |true=>
    rw[g]at d;refine Ej ?_;unfold Iq;simp only[f.lt,Vp,f.ix,XJ,f.nx];exact Ea (Ea d (Qb _)) (Qb _)
   |false=>
    rw[g]at d;obtain⟨Q,_⟩:=rx g;simp only[Vq]at d⊢;by_cases F:W.A9<(i:Int)
    .rw[Yj F,Vp];refine Ex ?_ (X (i+1) _ s M (by omega) x (by omega));unfold Iq;simp only[f.lt,Vp,f.ix,XJ,f.nx];exact Ea (v:=CG.k (_,_)) (Ea d (J5 (Yj F) (Qb _))) (Qb _)
    .rw[Yp F,Vq];have st:=j9 ok x (p:=(i:Int)) (h:=h) (by omega) (by omega) Q;cases z:(C_ t s (i:Int) h).2 with
     |false=>
      refine Ej ?_;unfold Iq;simp only[f.lt,Vp,f.ix,XJ,f.nx];refine Ea (v:=CG.d (.d (.d AD))) (Ea d (W4 (Yp F) (Ea st (v:=(C_ t s (i:Int) h)) ?_))) (Qb _);rw[z];exact Qb _
     |true=>
      simp only[Xg,Vq];refine Ex ?_ (X (i+1) _ _ M (by omega) (kJ ok x (by omega) Q (by omega)) ?_)
      .unfold Iq;simp only[f.lt,Vp,f.ix,XJ,f.nx];refine Ea (v:=CG.k (_,(C_ t s (i:Int) h).1)) (Ea d (W4 (Yp F) (Ea st (v:=(C_ t s (i:Int) h)) ?_))) (Qb _);rw[z];exact Qb _
      .have r0:=x.r0;unfold C_;cases(DO t (i:Int) h).2 with
       |false=>show s.row+1<=_;omega
       |true=>
        simp only[Xg,Vq];cases HG t s (i:Int) h with
        |true=>show s.row<=_;omega
        |false=>show(0:Int)<=_;omega
 refine QY ?_;unfold MK;simp only[XJ];refine Ea (O W.BJ 0 [] RZ rfl (XU _) n9 (by show(0:Int)<=_;omega)).ev ?_;cases admL t W W.BJ 0 [] RZ<;>exact Qb _
set_option maxRecDepth 10000
theorem Qod(k:CE)(w:Ff k):∃b,Ev (λn=>OR n k) b/\(b=AE->AI k.AS<=8):=by
 unfold OR;cases f:(AG (8<(AI k.AS:Int))||AG (10<(AI k.BN:Int)))with
 |true=>exact⟨AD,Ea (v:=AE) (Ew (QN λ_=>Qb _) f) (Qb _),nofun⟩
 |false=>
  have g:=f;simp only[XX,decide_eq_false_iff_not]at g;refine⟨bif k.BN.all (λr=> !decide (12<(AI r:Int)))then AE else AD,Ea (v:=AD) (Ew (QN λ_=>Qb _) f) (QY (Ea (rk k.BN (λr=> !decide (12<(AI r:Int))) (CG.d AD) (CG.k ()) (by omega) (λi x d=>?_) ?_) ?_)),λ_=>by omega⟩
  .unfold Tw;simp only[d.lt,Vp,d.ix,XJ,d.nx]
   grind[Qb]
  .simp_all[Tw,Qb]
  grind[Qb]
def Pj(c:CB)(k:CE)(s:AP)(e:Int)(x:AA CN)(l:AA Ae)(t:AA Ue):Cp:=
 {c:=c,k:=k,r:=(CY c s.AN e).1,s:=H0 c (CY c s.AN e).1,H:=x,T:=t,m:=(IC l).1,hi:=(IC l).2}
def Dr(c:CB)(k:CE)(s:AP)(e:Int)(x:AA CN)(l:AA Ae):Int ⊕ Cp:=
 bif CP c != 0 then .inl (CP c)else bif !Fs k then .inl 160 else bif G_ c s l then .inl 1 else bif (CY c s.AN e).2 != 0 then .inl (CY c s.AN e).2 else bif !Dg c x then .inl 170 else
  match C7 c k x with
  |none=>.inl 170
  |some t=>.inr (Pj c k s e x l t)
def JT:Int ⊕ Cp->CM
 |.inl e=>.c0 e
 |.inr t=>.c1 (t.r,t.s,t.T,t.m,t.hi)
theorem j8{c:CB}(f:Ev (λn=>F0 n c) (CP c))(m:CP c=0->Fd c){k:CE}(j:Ff k)(s:AP)(e:Int)(x:AA CN)(g:AI x<=1000)(l:AA Ae)(q:AI l<=1048576):
  Ev (λn=>IL n c k s e x l) (JT (Dr c k s e x l)):=by
 unfold Dr;cases h:(CP c != 0)with
 |true=>
  unfold IL;exact Ea f (J5 h (Qb _))
 |false=>
  have d:CP c=0:=by grind
  refine(QjI (m d) d (d▸f) j s e x g l q).eq ?_;unfold LE;cases Fs k with
  |false=>rfl
  |true=>
  cases G_ c s l with
  |true=>rfl
  |false=>
  cases((CY c s.AN e).2 != 0)with
  |true=>rfl
  |false=>
  cases Dg c x with
  |false=>rfl
  |true=>cases C7 c k x<;>rfl
structure Ig (c:CB) (k:CE) (s:AP) (e:Int) (x:List CN) (l:List Ae) (t:Cp):Prop where
 ok:DD t
 cE:CP c=0
 clk:Fs k=AE
 arg:G_ c s l=AD
 rt:(CY c s.AN e).2=0
 hit:Dg c x=AE
 is:t=Pj c k s e x l t.T
 tm:C7 c k x=AC t.T
theorem Qo8{c:CB}(O:Ev (λn=>F0 n c) (CP c))(Q:CP c=0->Fd c){k:CE}(kw:Ff k){s:AP}{e:Int}{x:AA CN}(Y:AI x<=1000){l:AA Ae}{t:Cp}(h:Dr c k s e x l=.inr t):Ig c k s e x l t:=by
 unfold Dr at h;cases X:(CP c != 0)with
 |true=>grind
 |false=>
 rw[X,Vq]at h;have f:CP c=0:=by grind
 cases G:Fs k with
 |false=>grind
 |true=>
 rw[G]at h;cases L:G_ c s l with
 |true=>grind
 |false=>
 rw[L]at h;cases hr:((CY c s.AN e).2 != 0)with
 |true=>grind
 |false=>
 have q:(CY c s.AN e).2=0:=by grind
 rw[hr]at h;cases J:Dg c x with
 |false=>grind
 |true=>
 rw[J]at h;cases m:C7 c k x with
 |none=>grind
 |some T=>
 rw[m]at h;cases h;have g:=Q f;obtain⟨j,d,k',r1,r2,r3,r4,r5,r6⟩:=gv g q;have F:(CY c s.AN e).1.length<=256:=by
  grind[DE]
 obtain⟨T1,T2⟩:=qo m;have W:=lH kw G;refine⟨⟨f▸O,qb f,W,QlH _ _,F,T1,Y,λi y B=>pK J y (VH B),λy B=>?_,λp y B=>?_,?_⟩,f,G,L,q,J,rfl,m⟩
 .obtain⟨i,N,R⟩:=List.getElem_of_mem B;have H:i<AI x:=by have:i<AI T:=N;omega
  obtain⟨t',g1,g2⟩:=T2 i _ (XK H);have V:t'=y:=by
   have:T[i]?=AC y:=by rw[<- R];exact XK N
   grind
  subst V;rcases QmV g2 with z|⟨M,s',z1,z2,_⟩
  .exact⟨0,by omega,by omega⟩
  .have:=(XL.1 z2).1;exact⟨M+1,by omega,by show M+1<AI k.AS+1;omega⟩
 .have:=QnT l p;rw[show JC (IC l).1 p=AC y from B]at this;cases P:l.find? (λh=>h.AT==p)with
  |none=>grind
  |some h'=>
   rw[P]at this;cases this;exact⟨0,rfl,by omega⟩
 .have E:=(h_ f).2.1;unfold C5 LH DI at E;simp only[XW,Vr]at E;exact E.2.2.2.2.2.2.2.2.2.1.1.1
theorem QmX{c:CB}{k:CE}{s:AP}{e:Int}{x:AA CN}{l:AA Ae}{v:Int}(h:Dr c k s e x l=.inl v):v≠0:=by
 unfold Dr at h
 grind
def Tt{α:Type}(f:Nat->AB α)(Q:α->Prop):Prop:=∃v,Ev f v/\Q v
section
variable {α β S B:Type} {f g:Nat->AB α} {P Q:α->Prop} {R:β->Prop}
theorem Tt.p{v:α}(h:Q v):Tt (λ_=>AC v) Q:=⟨v,Qb v,h⟩
theorem Tt.b{k:Nat->α->AB β}(h:Tt f P)(q:∀v,P v->Tt (λn=>k n v) R):Tt (λn=>(f n).bind (k n)) R:=by
 obtain⟨v,e,p⟩:=h;obtain⟨w,d,r⟩:=q v p;exact⟨w,Ea e d,r⟩
theorem Qg{k:Nat->α->AB β}(h:Tt f λ_=>True)(q:∀v,Tt (λn=>k n v) R):Tt (λn=>(f n).bind (k n)) R:=Tt.b h λv _=>q v
theorem Tt.c{c:Bool}(a:c=AE->Tt f Q)(b:c=AD->Tt g Q):Tt (λn=>bif c then f n else g n) Q:=by
 cases c with
 |true=>exact a rfl
 |false=>exact b rfl
theorem Tt.w(h:Tt f P)(q:∀v,P v->Q v):Tt f Q:=let⟨v,e,p⟩:=h;⟨v,e,q v p⟩
theorem Tt.any(h:Tt f P):Tt f λ_=>True:=h.w λ_ _=>trivial
theorem Tt.e{v:α}(h:Ev f v)(q:Q v):Tt f Q:=⟨v,h,q⟩
theorem Tt.o{o:AB α}{v:α}(h:o=AC v)(q:Q v):Tt (λ_=>o) Q:=⟨v,EB h,q⟩
theorem Tt.s(h:Tt (λn=>f (n+1)) Q):Tt f Q:=let⟨v,e,q⟩:=h;⟨v,Jb e,q⟩
theorem Tt.i{l:AA α}{i:Int}(d:0<=i)(f:i<(AI l:Int)):Tt (λ_=>CJ l i) (λx=>x∈l):=by
 obtain⟨k,rfl⟩:=Int.eq_ofNat_of_zero_le d;have h:k<AI l:=by omega
 exact⟨l[k],EB (QB (by simp)),Ve h⟩
theorem Tt.a{l m:AA α}(h:AI l+AI m<=4294967296):Tt (λ_=>app l m) (λx=>x=l++m):=Tt.o (ZB l m h) rfl
theorem Tt.sl{l:AA α}{i j:Int}(g:0<=i)(h:i<=j)(f:j<=(AI l:Int)):Tt (λ_=>Dd l i j) (λx=>(AI x:Int)=j-i/\ ∀y∈x,y∈l):=by
 refine Tt.o (v:=(l.take j.toNat).drop i.toNat) ?_ ⟨?_,λy d=>List.mem_of_mem_take (List.mem_of_mem_drop d)⟩
 .unfold Dd
  grind
 grind
theorem Tt.set{l:AA α}{i:Int}{x:α}(d:0<=i)(f:i<(AI l:Int)):Tt (λ_=>JG l i x) (λm=>AI m=AI l/\ ∀y∈m,y=x\/y∈l):=by
 refine Tt.o (v:=l.set i.toNat x) ?_ (by grind);unfold JG;simp[d,f]
abbrev G7(I:S->Prop)(m:S->Nat)(s:S)(Q:B->Prop):CG S B->Prop
 |.k s'=>I s'/\m s'<m s
 |.d b=>Q b
theorem Tt.l{step:Nat->S->AB (CG S B)}{Q:B->Prop}(I:S->Prop)(m:S->Nat)(h:∀s,I s->Tt (λn=>step n s) (G7 I m s Q))(s:S)(d:I s):Tt (λn=>iter (step n) n s) Q:=by
 have f:∀k s,m s<=k->I s->∃b,DW step s b/\Q b:=by
  intro k
  induction k with
  |zero=>
   intro s g d;obtain⟨c,e,q⟩:=h s d
   grind[DW.done]
  |succ k j=>
   intro s g d;obtain⟨c,e,q⟩:=h s d
   grind[DW.cont,DW.done]
 obtain⟨b,e,q⟩:=f (m s) s (XT _) d;exact⟨b,e.ev,q⟩
abbrev F6(pk:β->Int->S)(I:Nat->β->Prop)(i:Nat)(Q:B->Prop):CG S B->Prop
 |.k s=>∃a,s=pk a ((i+1:Nat):Int)/\I (i+1) a
 |.d b=>Q b
theorem QP{step:Nat->S->AB (CG S B)}{Q:B->Prop}(l:AA α)(d:β->Int->S)(I:Nat->β->Prop)(H:AI l<=4611686018427387904)
  (h:∀i x a,At l i x->I i a->Tt (λn=>step n (d a i)) (F6 d I i Q))(e:∀a,I (AI l) a->Tt (λn=>step n (d a (AI l))) (λc=>∃b,c=.d b/\Q b))(j:β)(s0:S)(M:s0=d j ((0:Nat):Int))(hi:I 0 j):
  Tt (λn=>iter (step n) n s0) Q:=by
 have y:∀k i a,i+k=AI l->I i a->∃b,DW step (d a i) b/\Q b:=by
  intro k
  induction k with
  |zero=>
   intro i a F f;have:i=AI l:=by omega
   subst this;obtain⟨c,q,b,rfl,g⟩:=e a f;exact⟨b,Ej q,g⟩
  |succ k L=>
   intro i a F f;have t:i<AI l:=by omega
   obtain⟨c,q,z⟩:=h i l[i] a (Y3 H (XK t)) f;cases c with
   |k N=>
    obtain⟨E,rfl,m⟩:=z;obtain⟨b,J,G⟩:=L (i+1) E (by omega) m;exact⟨b,Ex q J,G⟩
   |d b=>exact⟨b,Ej q,z⟩
 obtain⟨b,q,g⟩:=y (AI l) 0 j (by omega) hi;subst M;exact⟨b,q.ev,g⟩
theorem Tt.find{d:Nat->Int->AB Bool}(l:AA α)(f:AI l<=4611686018427387904)(h:∀i x,At l i x->Tt (λn=>d n i) λ_=>True):
  Tt (λn=>iter (λs:Int=>((bif s<(AI l:Int) then d n s else AC AD):AB Bool).bind λb=>bif b then AC (CG.k (i64.wrap (s+1)))else AC (CG.d s)) n 0) (λr=>0<=r/\r<=(AI l:Int)):=by
 refine QP (β:=Unit) l (λ_ i=>i) (λ_ _=>True) f (λi x a ha _=>?_) (λa _=>?_) () _ rfl trivial
 .have:=ha.lt';simp only[ha.lt,Vp,ha.nx];exact Qg (h i x ha) λb=>Tt.c (λ_=>Tt.p ⟨(),rfl,trivial⟩) λ_=>Tt.p ⟨by omega,by omega⟩
 .simp only[Y9,Vq,XJ];exact Tt.p ⟨_,rfl,by omega,by omega⟩
end
theorem Zg(a b c:Int):Tt (λn=>Fe n a b c) λr=>r=AE->b<=a:=by
 simp_all[Fe,Tt.c,Tt.p]
theorem RC(a b c:Int):Tt (λn=>Fe n a b c) λ_=>True:=(Zg a b c).any
theorem Qlt(s:AP):Tt (λn=>On n s) λr=>r=AE->0<=s.AN:=by
 unfold On K5 IX ME;refine Tt.b (P:=λr=>r=AE->0<=s.AN) (Qg (Qg (RC ..) λ_=>Tt.p trivial) λr=>Tt.c (λ_=>Tt.b (Zg ..) λr h=>Tt.c (λq=>Tt.w (P:=λ_=>True) ?_ λ_ _ _=>h q) λ_=>Tt.p nofun) λ_=>Tt.p nofun) λv h=>Tt.p h
 repeat' first|with_reducible exact Tt.p trivial|with_reducible refine Tt.c (λ_=>?_) λ_=>?_|with_reducible refine Qg ?_ λ_=>?_|with_reducible exact RC ..
theorem Qm5(s:Af):Tt (λn=>OA n s) λ_=>True:=by
 unfold OA I0 K5 IH
 repeat' first|with_reducible exact Tt.p trivial|with_reducible refine Tt.c (λ_=>?_) λ_=>?_|with_reducible refine Qg ?_ λ_=>?_|with_reducible exact RC ..
theorem _g(s:An):Tt (λn=>N8 n s) λ_=>True:=by
 unfold N8 IJ II IX
 repeat' first|with_reducible exact Tt.p trivial|with_reducible refine Tt.c (λ_=>?_) λ_=>?_|with_reducible refine Qg ?_ λ_=>?_|with_reducible exact RC ..
def VF(f:CI):Prop:=f.AY=1->0<=f.AP.AN
theorem Qlz(f:CI):Tt (λn=>PO n f) λr=>r=AE->VF f:=by
 unfold PO IJ II IX K5 IH I0 ME ML MN;refine Tt.c (λ_=>Tt.b (Qlt _) λr h=>Tt.p λq _=>h q) λd=>Tt.w (P:=λ_=>True) ?_ λ_ _ _ e=>absurd e (by grind)
 repeat' first|with_reducible exact Tt.p trivial|with_reducible refine Tt.c (λ_=>?_) λ_=>?_|with_reducible refine Qg ?_ λ_=>?_|with_reducible exact RC .. |with_reducible exact _g _|with_reducible exact Qm5 _
theorem _t(f:CI):Tt (λn=>PM n f) λ_=>True:=by
 unfold PM
 repeat' first|with_reducible exact Tt.p trivial|with_reducible refine Tt.c (λ_=>?_) λ_=>?_|with_reducible refine Qg ?_ λ_=>?_
theorem o0(f:CI):Tt (λn=>MC n f) λr=>r=0->VF f:=by
 unfold MC ML MN;refine Tt.b (P:=λb=>b=AD->VF f) ?_ λb h=>Tt.c (λ_=>Tt.p nofun) λq=>Tt.p λ_=>h q;refine Qg (Qg (RC ..) λ_=>Tt.p trivial) λ_=>Tt.c (λ_=>Tt.p nofun) λ_=>?_;refine Qg (Qg (RC ..) λ_=>Tt.p trivial) λ_=>Tt.c (λ_=>Tt.p nofun) λ_=>?_;refine Qg (RC ..) λ_=>Tt.c (λ_=>Tt.p nofun) λ_=>?_;exact Tt.b (Qlz f) λr h=>Tt.c (λ_=>Tt.p nofun) λq=>Qg (_t f) λ_=>Tt.p (by grind)
theorem Qlx(f:CI):Tt (λn=>OS n f) λl=>AI l<=20:=by
 unfold OS
 repeat' first|exact Tt.p (by simp)|refine Tt.c (λ_=>?_) λ_=>?_|refine Tt.b (Tt.a (by simp)) λl h=>Tt.p (by subst h;simp)
def Fl(v:AL):Prop:=v.AY=1/\v.S=[]/\v.L=[]
theorem zO(l:AA Int)(j:AI l<=20):Tt (λn=>PJ n l) λr=>AI r<=20/\ ∀v∈r,Fl v:=by
 unfold PJ;refine Tt.b (QP l (λ(a:AA AL) i=>(a,i)) (λi a=>AI a<=i/\ ∀v∈a,Fl v) (by omega) (λi x a d f=>?_) (λa f=>?_) [] _ rfl (by simp)) λr h=>Tt.p h
 .unfold St Wb;have:=d.lt';simp only[d.lt,Vp,d.ix,XJ,d.nx];refine Tt.b (Tt.a (by simp;omega)) λr h=>Tt.p ⟨r,rfl,?_⟩;subst h;refine⟨by simp;omega,λv g=>?_⟩;rcases VC.1 g with h|h
  .grind
  .cases VA.1 h;exact⟨rfl,rfl,rfl⟩
 .unfold St;simp only[Y9,Vq];exact Tt.p (by grind)
theorem QlD{v:AL}(h:Fl v):Tt (λn=>T4 n v) λ_=>True:=by
 refine Tt.s ?_;show Tt (λn=>ZW (T4 n) n v) _;unfold ZW;rw[h.1]
 simp_all[Tt.c,Tt.p]
theorem Qni(l:AA AL)(g:AI l<=20)(h:∀v∈l,Fl v):Tt (λn=>T4 n {AY:=3,N:=0,S:=[],L:=l}) λ_=>True:=by
 refine Tt.s ?_;show Tt (λn=>ZW (T4 n) n _) _;unfold ZW;refine Qg (QP l (λ(_:Unit) i=>i) (λi a=>True) (by omega) (λi x a d f=>?_) (λa f=>?_) () _ rfl trivial) λr=>?_
 .unfold TK;simp only[d.lt,Vp,d.ix,XJ,d.nx];exact Qg (QlD (h x d.mem)) λr=>Tt.c (λ_=>Tt.p trivial) λ_=>Tt.p ⟨(),rfl,trivial⟩
 .simp_all[TK,Tt.p]
 .cases r
  .simp_all[Tt.p]
  .exact Tt.p trivial
theorem Qnj{v:AL}(h:Fl v):Tt (λn=>Tc n v) λ_=>True:=by
 refine Tt.s ?_;show Tt (λn=>ZV (Tc n) n v) _;unfold ZV;rw[h.1];exact Tt.p trivial
theorem L?(l:AA AL)(g:AI l<=20)(h:∀v∈l,Fl v):Tt (λn=>Tc n {AY:=3,N:=0,S:=[],L:=l}) λ_=>True:=by
 refine Tt.s ?_;show Tt (λn=>ZV (Tc n) n _) _;unfold ZV;refine Qg (QP l (λ(a:Int) i=>(a,i)) (λi a=>True) (by omega) (λi x a d f=>?_) (λa f=>?_) 0 _ rfl trivial) λr=>Tt.p trivial
 .unfold Tu;simp only[d.lt,Vp,d.ix,XJ,d.nx];exact Qg (Qnj (h x d.mem)) λr=>Tt.p ⟨_,rfl,trivial⟩
 simp_all[Tu,Tt.p]
theorem rC:∀(k:Nat) (a:Int),0<=a->a<128^k->k<=20->Tt (λn=>RU n a) λl=>AI l<=k+1
 |0,a,h0,h1,_=>by
  refine Tt.s ?_;show Tt (λn=>Za (RU n) n a) _;unfold Za;exact Tt.c (λ_=>Tt.p (by simp)) (by grind)
 |k+1,a,h0,h1,hk=>by
  refine Tt.s ?_;show Tt (λn=>Za (RU n) n a) _;unfold Za;refine Tt.c (λ_=>Tt.p (by simp)) λq=>?_;have hd:0<=Int.tdiv a 128/\Int.tdiv a 128<128^k:=by
   grind
  have d:0<=u64.wrap (Int.tdiv a 128)/\u64.wrap (Int.tdiv a 128)<=Int.tdiv a 128:=by
   show 0<=(Int.tdiv a 128)%18446744073709551616/\(Int.tdiv a 128)%18446744073709551616<=_;omega
  refine Tt.b (rC k _ d.1 (by omega) (by omega)) λr f=>Tt.b (Tt.a (by simp;omega)) λl h=>Tt.p (by grind)
theorem oA(a:Int)(h0:0<=a)(h1:a<18446744073709551616):Tt (λn=>RU n a) λl=>AI l<=11:=
 rC 10 a h0 (by omega) (by omega)
theorem jq(a:Int):0<=u64.wrap a/\u64.wrap a<18446744073709551616:=by
 show 0<=a%18446744073709551616/\a%18446744073709551616<_;omega
theorem Qjn(a:Int):Tt (λn=>OF n a) λr=>0<=r/\r<18446744073709551616:=by
 simp_all[OF,Tt.c,Tt.p,jq]
theorem Qly{v:AL}(h:Fl v):Tt (λn=>WG n v) λr=>AI r<=12:=by
 refine Tt.s ?_;show Tt (λn=>ZY (WG n) n v) _;unfold ZY;rw[h.1];exact Tt.b (Qjn _) λr q=>Tt.b (oA r q.1 q.2) λl f=>Tt.b (Tt.a (by simp;omega)) λm d=>Tt.p (by grind)
theorem Qnb(l:AA AL)(j:AI l<=20)(h:∀v∈l,Fl v):Tt (λn=>WG n {AY:=3,N:=0,S:=[],L:=l}) λ_=>True:=by
 refine Tt.s ?_;show Tt (λn=>ZY (WG n) n _) _;unfold ZY;refine Tt.b (oA _ (jq _).1 (jq _).2) λr q=>Tt.b (Tt.a (by simp;omega)) λm f=>Qg ?_ λr=>Tt.p trivial;refine QP l (λ(a:AA Int) i=>(a,i)) (λi a=>AI a<=12+12*i) (by omega) (λi x a d g=>?_) (λa g=>?_) m _ rfl (by grind)
 .unfold TP;have:=d.lt';simp only[d.lt,Vp,d.ix,XJ,d.nx];exact Tt.b (Qly (h x d.mem)) λr q=>Tt.b (Tt.a (by omega)) λm f=>Tt.p ⟨m,rfl,by grind⟩
 simp_all[TP,Tt.p]
theorem qi(f:CI):Tt (λn=>MG n f) λ_=>True:=by
 unfold MG UX UW;refine Qg (o0 f).any λ_=>Tt.c (λ_=>Tt.p trivial) λ_=>Tt.b (Qlx f) λl g=>Tt.b (zO l g) λr d=>Qg ?_ λ_=>Tt.p trivial;refine Qg (Qg (Qni r d.1 d.2) λ_=>Tt.c (λ_=>Tt.p trivial) λ_=>Qg (L? r d.1 d.2) λ_=>Tt.c (λ_=>Tt.p trivial) λ_=>Tt.p trivial) λ_=>Tt.c (λ_=>Tt.p trivial) λ_=>Qg (Qnb r d.1 d.2) λ_=>Tt.p trivial
theorem QlE(f g:CI):Tt (λn=>O_ n f g) λ_=>True:=by
 unfold O_;refine Qg (QP [f.At,f.BD,f.No] (λ(_:Unit) i=>i) (λi a=>True) (by simp) (λi x a d j=>?_) (λa j=>?_) () _ rfl trivial) λr=>?_
 .unfold Tn;have h:=d.lt';simp only[X0,List.length_nil]at h;obtain⟨y,k⟩:∃y,CJ [g.At,g.BD,g.No] (i:Int)=AC y:=⟨_,QB (XK (by simpa using h))⟩;simp only[Yj (show(i:Int)<3 by omega),Vp,d.ix,k,XJ,d.nx];exact Tt.c (λ_=>Tt.p trivial) λ_=>Tt.c (λ_=>Tt.p trivial) λ_=>Tt.p ⟨(),rfl,trivial⟩
 .simp_all[Tn,Tt.p]
 .cases r with
  |k s=>exact Qg (qi f) λ_=>Qg (qi g) λ_=>Tt.c (λ_=>Tt.p trivial) λ_=>Tt.c (λ_=>Tt.p trivial) λ_=>Tt.p trivial
  |d s=>exact Tt.p trivial
theorem RM(l:AA CI)(R:AI l<=16):Tt (λn=>F8 n l) λr=>AI r<=16/\ ∀f∈r,VF f:=by
 unfold F8;refine Tt.b (QP l (λ(a:AA CI) i=>(a,i)) (λi a=>AI a<=i/\ ∀f∈a,VF f) (by omega) (λi x a d k=>?_) (λa k=>?_) [] _ rfl (by simp)) λr h=>Tt.p h
 .unfold TM;have:=d.lt';simp only[d.lt,Vp,d.ix,XJ,d.nx];refine Tt.b (P:=λ(m:AA CI)=>AI m<=i+1/\ ∀f∈m,VF f) (Tt.b (o0 x) λr F=>Tt.c (λ_=>Tt.p ⟨by omega,k.2⟩) λq=>?_) λm z=>Tt.p ⟨m,rfl,z⟩;have M:VF x:=F (by grind);refine Tt.b (Tt.find a (by omega) λj y B=>?_) λb g=>?_
  .exact Qg (Tt.o B.ix trivial) λy=>Qg (Tt.o d.ix trivial) λx=>Qg (QlE y x) λ_=>Tt.p trivial
  refine Qg (Tt.c (λh=>Qg (Tt.i g.1 (Vv h)).any λ_=>Tt.p trivial) λ_=>Tt.p trivial) λ_=>Tt.c (λ_=>Tt.p ⟨by omega,k.2⟩) λ_=>?_;refine Tt.b (Tt.sl (Int.le_refl 0) g.1 g.2) λp O=>Tt.b (Tt.a (by simp;omega)) λN t=>?_;subst t;refine Tt.b (Tt.a (by simp;omega)) λQ E=>Tt.b (Tt.sl g.1 g.2 (Int.le_refl _)) λG H=>?_;subst E;refine Tt.b (Tt.a (by simp;omega)) λJ L=>Tt.p ?_
  grind
 .unfold TM;simp only[Y9,Vq];exact Tt.p (by grind)
def F3(c:CB)(m:Int):Prop:=0<=m/\m<(AI c.Au:Int)
def D8(c:CB)(l:AA CC):Prop:=∀s∈l,F3 c s.Am
theorem fj(c:CB)(m:Int):Tt (λn=>I6 n c m) λr=>r=AE->F3 c m:=by
 unfold I6;exact Tt.b (P:=λr=>r=AE->F3 c m) (Tt.c (λh=>Tt.p λq=>⟨Vv h,Vv q⟩) λ_=>Tt.p nofun) λv h=>Tt.p h
theorem tU{c:CB}{m:Int}(h:F3 c m):Tt (λn=>L9 n c m) λ_=>True:=by
 unfold L9;exact Tt.b (Tt.i h.1 h.2) λ_ _=>Tt.p trivial
theorem _r(a b:CC):Tt (λn=>Nz n a b) λ_=>True:=by
 unfold Nz;exact Qg (Tt.c (λ_=>Tt.p trivial) λ_=>Tt.c (λ_=>Tt.p trivial) λ_=>Tt.p trivial) λ_=>Tt.p trivial
theorem gJ(c:CB)(l:AA CC)(a b:Int)(L:AI l<=1000)(f:D8 c l):Tt (λn=>I9 n c l a b) λr=>AI r<=AI l+1/\D8 c r:=by
 unfold I9;have skip:AI l<=AI l+1/\D8 c l:=⟨by omega,f⟩;refine Tt.b (P:=λq=>q=AD->F3 c a) (Tt.b (fj c a) λr J=>Tt.c (λ_=>Tt.p nofun) λq=>?_) λq g=>Tt.c (λ_=>Tt.p skip) λx=>?_
 .simp_all[tU]
 have F:=g x;refine Tt.b (Tt.find l (by omega) λj y B=>Qg (Tt.o B.ix trivial) λy=>Qg (_r _ _) λ_=>Tt.p trivial) λi d=>?_;refine Qg (Tt.c (λh=>Qg (Tt.i d.1 (Vv h)).any λ_=>Tt.c (λ_=>Qg (Tt.i d.1 (Vv h)).any λ_=>Tt.p trivial) λ_=>Tt.p trivial) λ_=>Tt.p trivial) λ_=>Tt.c (λ_=>Tt.p skip) λ_=>?_;refine Tt.b (Tt.sl d.1 d.2 (Int.le_refl _)) λp z=>Tt.b (Tt.a (by simp;omega)) λH m=>?_;subst m;refine Tt.b (Tt.sl (Int.le_refl 0) d.1 d.2) λG t=>Tt.b (Tt.a (by simp;omega)) λE k=>Tt.p ?_;subst k;refine⟨by simp;omega,λs h=>?_⟩;simp only[VC,VA]at h;rcases h with h|h|h
 .exact f s (t.2 s h)
 .grind
 .exact f s (z.2 s h)
theorem sy(c:CB)(l:AA CI)(W:AI l<=16){e:Int}(he:Ev (λn=>HD n c) e):Tt (λn=>MF n c l) λr=>AI r.1<=511/\D8 c r.1:=by
 unfold MF;have nil:AI ([]:AA CC)<=511/\D8 c []:=⟨by simp,λ_ h=>nomatch h⟩;refine Qg (Tt.e he trivial) λe=>Tt.c (λ_=>Tt.p nil) λ_=>Tt.b (RM l W) λC hC=>?_;refine Tt.b (P:=λ(r:AA CC)=>AI r<=2*AI C/\D8 c r) (QP C (λ(a:AA CC) i=>(a,i)) (λi a=>AI a<=2*i/\D8 c a) (by omega) (λi x a j f=>?_) (λa f=>?_) [] _ rfl (by grind)) λr hr=>?_
 .unfold Tp;have:=j.lt';simp only[j.lt,Vp,j.ix,XJ,j.nx];refine Tt.b (P:=λ(r:AA CC)=>AI r<=2*(i+1)/\D8 c r) ?_ λr h=>Tt.p ⟨r,rfl,h⟩;refine Tt.c (λ_=>Tt.b (gJ c a _ _ (by omega) f.2) λr h=>Tt.p ⟨by omega,h.2⟩) λ_=>Tt.c (λ_=>Tt.b (gJ c a _ _ (by omega) f.2) λr h=>Tt.p ⟨by omega,h.2⟩) λ_=>Tt.c (λ_=>?_) λ_=>Tt.p ⟨by omega,f.2⟩;exact Tt.b (gJ c a _ _ (by omega) f.2) λr h=>Tt.b (gJ c r _ _ (by omega) h.2) λr2 d=>Tt.p ⟨by omega,d.2⟩
 .simp_all[Tp,Tt.p]
 refine Tt.c (λ_=>Tt.p nil) λq=>?_;have hk:AI r<=511:=by omega
 refine Tt.b (P:=λ(b:AA CC)=>AI b<=511/\D8 c b) (Tt.l (λs:AA CC×Int=>AI s.1=AI r/\D8 c s.1/\0<=s.2/\s.2<=(AI r:Int)) (λs=>((AI r:Int)-s.2).toNat) (λs X=>?_) (r,0) (by grind)) λb M=>Tt.p (Q:=λv:AA CC×Int=>AI v.1<=511/\D8 c v.1) M;obtain⟨B,Y⟩:=s;obtain⟨V,d,F,O⟩:=X;simp only at V d F O;unfold eA;refine Tt.c (λq=>?_) λ_=>Tt.p (Q:=G7 _ _ _ _) ⟨by grind,d⟩;have N:=Vv q;simp only at N;refine Tt.b (P:=λ(t:AA CC)=>AI t=AI B/\D8 c t) (Tt.l (λt:AA CC×Int=>AI t.1=AI B/\D8 c t.1/\ -1<=t.2/\t.2<(AI C:Int)) (λt=>(t.2+1).toNat) (λt H=>?_) (B,i64.wrap ((AI C:Int)-1)) ⟨rfl,d,?_,?_⟩) λb M=>Tt.p (Q:=G7 _ _ _ _) ?_
 .obtain⟨L,t2⟩:=t;obtain⟨k,g,T,G⟩:=H;simp only at k g T G;unfold dw;refine Tt.c (λq=>?_) λ_=>Tt.p (Q:=G7 _ _ _ _) ⟨k,g⟩;have E:=Vv q;simp only at E;have ix:∀{Q:CC->Prop},(∀x∈L,Q x)->Tt (λ_=>CJ L Y) Q:=λh=>(Tt.i F (by omega)).w h;refine Qg (Tt.i E G).any λx=>Qg (Qg (Tt.i E G).any λ_=>Tt.c (λ_=>Qg (ix λ_ _=>trivial) λ_=>Tt.c (λ_=>Qg (ix λ_ _=>trivial) λ_=>Tt.p trivial) λ_=>Tt.p trivial) λ_=>Tt.p trivial) λb=>?_;refine Tt.b (P:=λ(t:AA CC)=>AI t=AI B/\D8 c t) (Tt.c (λ_=>?_) λ_=>Tt.p ⟨k,g⟩) λt H=>Tt.p (Q:=G7 _ _ _ _) ?_
  .refine Tt.b (ix λx h=>h) λy hy=>Tt.b (Tt.set F (by grind)) λm J=>Tt.p ⟨J.1.trans k,λz R=>?_⟩;rcases J.2 z R with h|h
   .subst h;exact g y hy
   .exact g z h
  grind[Qt]
 iterate 3 grind[Qt]
abbrev IE{A β:Type}(Q:β->Prop):CG A β->Prop
 |.k _=>True
 |.d r=>Q r
theorem mB(l:AA CC)(a b:Int)(f:AI l<=1000):Tt (λn=>KR n l a b) λr=>0<=r/\r<=(AI l:Int):=by
 unfold KR;refine Tt.b (P:=IE λr=>0<=r/\r<=(AI l:Int)) (QP l (λ(_:Unit) i=>i) (λ_ _=>True) (by omega) (λi x _ ha _=>?_) (λ_ _=>?_) () _ rfl trivial) λr d=>?_
 .unfold TH;have:=ha.lt';simp only[ha.lt,Vp,ha.ix,XJ,ha.nx];exact Qg (Tt.c (λ_=>Tt.p trivial) λ_=>Tt.p trivial) λ_=>Tt.c (λ_=>Tt.p (Q:=F6 _ _ _ _) (by omega)) λ_=>Tt.p ⟨(),rfl,trivial⟩
 .simp_all[TH,Tt.p]
 .cases r with
  |k s=>exact Tt.p (by omega)
  |d s=>exact Tt.p d
theorem lU{c:CB}{l:AA CC}{v a b:Int}(d:D8 c l)(g:0<=v)(j:v<=(AI l:Int))(k:AI l<=1000)(f:F3 c a):Tt (λn=>Kk n l v a b) λs=>F3 c s.Am:=by
 unfold Kk;refine Tt.c (λ_=>Tt.p f) λq=>?_;have q:v≠0:=by simpa using q
 have e:i64.wrap (v-1)=v-1:=Qt (by omega) (by omega);rw[e];exact Tt.b (Tt.i (by omega) (by omega)) λx h=>Tt.p (d x h)
theorem M?(a b:Int):Tt (λn=>PF n a b) λ_=>True:=by
 unfold PF
 repeat' first|with_reducible exact Tt.p trivial|with_reducible refine Tt.c (λ_=>?_) λ_=>?_|with_reducible refine Qg ?_ λ_=>?_
theorem mG{c:CB}{s:CC}(h:F3 c s.Am)(a:Int):Tt (λn=>ZT n c s a) λ_=>True:=by
 unfold ZT;exact Qg (tU h) λ_=>Tt.c (λ_=>Tt.p trivial) λ_=>Qg (M? _ _) λ_=>Tt.p trivial
theorem Qnf(c:CB)(l:AA CI)(H:AI l<=16){e:Int}(he:Ev (λn=>HD n c) e):Tt (λn=>O6 n c l) λ_=>True:=by
 unfold O6;refine Tt.b (sy c l H he) λr L=>Tt.c (λ_=>Tt.p trivial) λ_=>?_;obtain⟨S,z⟩:=r;have M:AI S<=511:=L.1;have f:D8 c S:=L.2;refine Tt.b (P:=λ(a:AA Edge)=>AI a<=1022) (QP S (λ(a:AA Edge) i=>(a,i)) (λi a=>AI a<=2*i) (by omega) (λi x a d g=>?_) (λa g=>?_) [] _ rfl (XT _)) λE1 h1=>Tt.b (RM l H) λC hC=>?_
 .unfold Tm;have:=d.lt';simp only[d.lt,Vp,d.nx];exact Tt.b (Tt.a (by simp;omega)) λm f=>Tt.p ⟨m,rfl,by grind⟩
 .unfold Tm;simp only[Y9,Vq];exact Tt.p ⟨_,rfl,by omega⟩
 refine Tt.b (P:=λ(b:AA CC×AA Edge)=>b.1=S/\AI b.2<=1054) (QP C (λ(a:AA Edge) i=>(S,a,i)) (λi a=>AI a<=1022+2*i) (by omega) (λi x a d g=>?_) (λa g=>?_) E1 _ rfl (by omega)) λb k=>?_
 .unfold T9;have:=d.lt';simp only[d.lt,Vp,d.ix,XJ,d.nx];refine Tt.b (P:=λ(m:AA Edge)=>AI m<=1022+2*(i+1)) (Tt.b (P:=λq=>q=AD->F3 c x.Aa.Am) (Tt.c (λ_=>Tt.p nofun) λ_=>Tt.b (fj c _) λr h=>Tt.p (by grind)) λq y=>Tt.c (λ_=>Tt.p (by omega)) λB=>?_) λm f=>Tt.p ⟨m,rfl,f⟩;have t:=y B;exact Tt.b (mB S _ _ (by omega)) λv j=>Tt.b (lU f j.1 j.2 (by omega) t) λs F=>Qg (mG F _) λ_=>Tt.b (Tt.a (by simp;omega)) λm h=>Tt.p (by grind)
 .unfold T9;simp only[Y9,Vq];exact Tt.p (by grind)
 obtain⟨J,N⟩:=b;obtain⟨rfl,k⟩:=k;simp only at k M f;refine Tt.b (P:=λ(b:AA Edge)=>True) (QP C (λ(a:AA Edge) i=>(a,i)) (λi a=>AI a<=1054+2*i) (by omega) (λi x a d g=>?_) (λa g=>?_) N _ rfl (by omega)) λb k=>Tt.c (λ_=>Tt.p trivial) λ_=>Tt.p trivial
 .unfold TV;have:=d.lt';simp only[d.lt,Vp,d.ix,XJ,d.nx];refine Tt.b (P:=λ(m:AA Edge)=>AI m<=1054+2*(i+1)) (Tt.b (P:=λq=>q=AD->F3 c x.An.Bs/\F3 c x.An.Br) (Tt.c (λ_=>Tt.p nofun) λ_=>Tt.b (fj c _) λr h=>Tt.c (λ_=>Tt.p nofun) λT=>Tt.b (fj c _) λQ O=>Tt.p (by grind)) λq y=>Tt.c (λ_=>Tt.p (by omega)) λB=>?_) λm f=>Tt.p ⟨m,rfl,f⟩;have t:=y B;exact Tt.b (mB J _ _ (by omega)) λv j=>Tt.b (mB J _ _ (by omega)) λw G=>Tt.b (lU f j.1 j.2 (by omega) t.1) λs F=>Qg (mG F _) λ_=>Tt.b (lU f G.1 G.2 (by omega) t.2) λR E=>Qg (mG E _) λ_=>Tt.b (Tt.a (by simp;omega)) λm h=>Tt.p (by grind)
 simp_all[TV,Tt.p]
def ZU(v:Int)(e:Edge):Prop:=0<=e.A'/\e.A'<v/\0<=e.To/\e.To<v
theorem QlF(s:Cm):Tt (λn=>Oa n s) λr=>r=0->1<=s.Ax/\s.Ax<=512/\AI s.Bn<=8192/\ ∀e∈s.Bn,ZU s.Ax e:=by
 unfold Oa;refine Tt.b (P:=λb=>b=AD->1<=s.Ax/\s.Ax<=512/\AI s.Bn<=8192) (Tt.c (λ_=>Tt.p nofun) λh=>Tt.c (λ_=>Tt.p nofun) λj=>Tt.p λf=>?_) λb d=>Tt.c (λ_=>Tt.p nofun) λq=>?_
 .grind
 obtain⟨H,j,f⟩:=d q;refine Tt.b (P:=λ(c:CG Unit Int)=>match c with|.k _=>∀e∈s.Bn,ZU s.Ax e|.d r=>r≠0) (QP s.Bn (λ(_:Unit) i=>i) (λi _=>∀e∈s.Bn.take i,ZU s.Ax e) (by omega) (λi x _ ha hI=>?_) (λ_ hI=>?_) () _ rfl (by simp)) λr y=>?_
 .unfold Sn;simp only[ha.lt,Vp,ha.ix,XJ,ha.nx];refine Tt.b (P:=λb=>b=AD->ZU s.Ax x) (Tt.c (λ_=>Tt.p nofun) λg=>Tt.c (λ_=>Tt.p nofun) λz=>Tt.c (λ_=>Tt.p nofun) λm=>Tt.c (λ_=>Tt.p nofun) λk=>Tt.w (P:=λ_=>True) (Tt.c (λ_=>Tt.p trivial) λ_=>Tt.p trivial) λ_ _ _=>?_) λb d=>Tt.c (λ_=>Tt.p (Q:=F6 _ _ _ _) (by omega)) λq=>Tt.p ⟨(),rfl,?_⟩
  .have F:=Vw g;have G:=Vw z;have B:=Vw m;have E:=Vw k;exact⟨by omega,by omega,by omega,by omega⟩
  .intro e t;rw[ha.take]at t
   grind
 .simp_all[Sn,Tt.p]
 .cases r with
  |k u=>exact Tt.p (by grind)
  |d v=>exact Tt.p λh=>absurd h y
def Ht(k:Nat)(t:AA (AA Int)):Prop:=AI t=k/\ ∀r∈t,AI r=k
theorem Ht.set{k:Nat}{t:AA (AA Int)}{r:AA Int}(h:Ht k t)(hr:AI r=k)(i:Nat):Ht k (t.set i r):=
 ⟨by simp[h.1],λq hq=>(List.mem_or_eq_of_mem_set hq).elim (h.2 q) λe=>e▸hr⟩
theorem Tt.up{β S B:Type}{step:Nat->S->AB (CG S B)}{Q:B->Prop}(k:Nat)(t:k<=4611686018427387904)(d:β->Int->S)(I:Nat->β->Prop)
  (h:∀i a,i<k->i64.wrap ((i:Int)+1)=((i+1:Nat):Int)->I i a->Tt (λn=>step n (d a i)) (F6 d I i Q))(e:∀a,I k a->Tt (λn=>step n (d a k)) (λc=>∃b,c=.d b/\Q b))(g:β)(s0:S)(m:s0=d g ((0:Nat):Int))(hi:I 0 g):
  Tt (λn=>iter (step n) n s0) Q:=by
 have q:AI (List.replicate k ())=k:=List.length_replicate;refine QP (List.replicate k ()) d I (by omega) (λi x a j f=>h i a (by have:=j.lt';omega) j.nx f) (λa f=>?_) g s0 m hi;rw[q]at f⊢;exact e a f
theorem _n{k:Nat}(q:k<=512)(r:AA Int)(g:AI r=k):Tt (λn=>iter (Nr n (k:Int)) n (r,0)) λl=>AI l=k:=by
 refine Tt.up k (by omega) (λ(a:AA Int) i=>(a,i)) (λ_ a=>AI a=k) (λi a j d f=>?_) (λa f=>?_) r _ rfl g
 .unfold Nr;simp only[Yj (show(i:Int)<(k:Int)by omega),Vp,d];exact Tt.b (Tt.i (by omega) (by omega)) λx _=>Tt.b (Tt.set (by omega) (by omega)) λm h=>Tt.p (by grind)
 simp_all[Nr,Tt.p]
theorem _e{k:Nat}(h:k<=512):Tt (λn=>iter (Np n (k:Int)) n ([],0)) (Ht k):=by
 refine Tt.up k (by omega) (λ(a:AA (AA Int)) i=>(a,i)) (λi a=>AI a=i/\ ∀r∈a,AI r=k) (λi a y f d=>?_) (λa d=>?_) [] _ rfl (by simp)
 .unfold Np;simp only[Yj (show(i:Int)<(k:Int)by omega),Vp,f];refine Qg (Tt.o (v:=()) (by rw[d.1];simp[chk]) trivial) λ_=>?_;refine Tt.b (P:=λ(r:AA Int)=>AI r=k) (Tt.o (v:=List.replicate k 0) (by unfold mk;grind) (by simp)) λg j=>?_;refine Tt.b (_n h g j) λr1 (h1:AI r1=k)=>Tt.b (Tt.i (Int.natCast_nonneg i) (by omega)) λx _=>Tt.b (Tt.set (Int.natCast_nonneg i) (by omega)) λm q=>Tt.p ⟨a++[m],rfl,by simp[d.1],λr t=>?_⟩
  grind
 .unfold Np;simp only[Yp (show¬(k:Int)<(k:Int)by omega),Vq];exact Tt.p ⟨_,rfl,d⟩
theorem Q?{k:Nat}(E:AA Edge)(hE:AI E<=8192)(h:∀e∈E,ZU (k:Int) e)(t:AA (AA Int))(B:Ht k t):Tt (λn=>iter (Ne n E) n (t,0)) (Ht k):=by
 refine QP E (λ(a:AA (AA Int)) i=>(a,i)) (λ_ a=>Ht k a) (by omega) (λi x a d f=>?_) (λa f=>?_) t _ rfl B
 .unfold Ne;simp only[d.lt,Vp,d.ix,XJ,d.nx];obtain⟨j,z,g,H⟩:=h x d.mem;refine Tt.b (Tt.i j (by rw[f.1];exact z)) λr F=>?_;have G:=f.2 r F;exact Qg (Tt.i g (by omega)).any λy=>Tt.b (Tt.set g (by omega)) λm q=>Tt.p ⟨_,rfl,f.set (q.1.trans G) _⟩
 simp_all[Ne,Tt.p]
theorem iS{k m i j:Nat}(z:m<k)(hi:i<k)(E:j<k)(t:AA (AA Int))(d:Ht k t):Tt (λ_=>TO (m:Int) (i:Int) (j:Int) t) (Ht k):=by
 unfold TO;refine Tt.b (Tt.i (by omega) (by rw[d.1];omega)) λr n=>?_;have x:=d.2 r n;refine Qg (Tt.i (by omega) (by omega)).any λa=>Tt.c (λ_=>?_) λ_=>Tt.p d;refine Tt.b (Tt.i (by omega) (by rw[d.1];omega)) λq g=>?_;have h:=d.2 q g;refine Qg (Tt.i (by omega) (by omega)).any λb=>Tt.c (λ_=>?_) λ_=>Tt.p d;exact Qg (Tt.i (by omega) (by omega)).any λy=>Tt.b (Tt.set (by omega) (by omega)) λB f=>Tt.p (d.set (f.1.trans x) _)
theorem tr{k m i:Nat}(x:k<=512)(q:m<k)(hi:i<k)(t:AA (AA Int))(d:Ht k t):Tt (λn=>iter (Ni n (k:Int) (m:Int) (i:Int)) n (t,0)) (Ht k):=by
 refine Tt.up k (by omega) (λ(a:AA (AA Int)) i=>(a,i)) (λ_ a=>Ht k a) (λj a g h f=>?_) (λa f=>?_) t _ rfl d
 .unfold Ni;simp only[Yj (show(j:Int)<(k:Int)by omega),Vp,h];exact Tt.b (iS q hi g a f) λt d=>Tt.p ⟨t,rfl,d⟩
 simp_all[Ni,Tt.p]
theorem tt{k m:Nat}(x:k<=512)(h:m<k)(t:AA (AA Int))(d:Ht k t):Tt (λn=>iter (Nu n (k:Int) (m:Int)) n (t,0)) (Ht k):=by
 refine Tt.up k (by omega) (λ(a:AA (AA Int)) i=>(a,i)) (λ_ a=>Ht k a) (λj a g q f=>?_) (λa f=>?_) t _ rfl d
 .unfold Nu;simp only[Yj (show(j:Int)<(k:Int)by omega),Vp,q];exact Tt.b (tr x h g a f) λt d=>Tt.p ⟨t,rfl,d⟩
 simp_all[Nu,Tt.p]
theorem _m{k:Nat}(m:k<=512)(t:AA (AA Int))(d:Ht k t):Tt (λn=>iter (Na n (k:Int) t) n 0) λ_=>True:=by
 refine Tt.up k (by omega) (λ(_:Unit) i=>i) (λ_ a=>True) (λj a q f g=>?_) (λa g=>?_) () _ rfl trivial
 .unfold Na;simp only[Yj (show(j:Int)<(k:Int)by omega),Vp,f];refine Tt.b (Tt.i (by omega) (by rw[d.1];omega)) λr h=>?_;have x:=d.2 r h;exact Qg (Tt.i (by omega) (by omega)).any λa=>Tt.c (λ_=>Tt.p trivial) λ_=>Tt.p ⟨(),rfl,trivial⟩
 simp_all[Na,Tt.p]
theorem Qia{k:Nat}(f:k<=512)(E:AA Edge)(hE:AI E<=8192)(h:∀e∈E,ZU (k:Int) e):Tt (λn=>PR n {Ax:=(k:Int),Bn:=E}) λr=>AI r.1<=512/\ ∀q∈r.1,AI q<=512:=by
 unfold PR;refine Qg (Tt.o (v:=List.replicate k ()) (by unfold mk;grind) trivial) λ_=>Tt.b (_e f) λG y=>?_;refine Qg (Tt.o (v:=()) (by rw[y.1];simp[chk]) trivial) λ_=>Tt.b (Q? E hE h G y) λB J=>?_;refine Tt.b (P:=λ(c:CG (AA (AA Int)) Unit)=>match c with|.k t=>Ht k t|.d _=>True) (Tt.up k (by omega) (λ(a:AA (AA Int)) i=>(a,i)) (λ_ a=>Ht k a) (λj a H F m=>?_) (λa m=>?_) B _ rfl J) λc g=>?_
 .unfold Th;simp only[Yj (show(j:Int)<(k:Int)by omega),Vp,F];refine Tt.b (tt f H a m) λt x=>Qg (_m f t x) λd=>?_;cases d with
  |k _=>exact Tt.p ⟨t,rfl,x⟩
  |d _=>exact Tt.p (Q:=F6 _ _ _ _) trivial
 .simp_all[Th,Tt.p]
 .cases c with
  |k t=>exact Tt.p ⟨by rw[g.1];exact f,λq z=>by rw[g.2 q z];exact f⟩
  |d _=>simp_all[Tt.p]
theorem Zh(s:Cm):Tt (λn=>N0 n s) λr=>AI r.1<=512/\ ∀q∈r.1,AI q<=512:=by
 unfold N0;have nil:AI ([]:AA (AA Int))<=512/\ ∀q∈([]:AA (AA Int)),AI q<=512:=(by simp);refine Tt.b (QlF s) λr d=>Tt.c (λ_=>Tt.p nil) λq=>?_;obtain⟨v,E⟩:=s;obtain⟨j,h,g,f⟩:=d (by grind);simp only at j h g f;obtain⟨k,rfl⟩:=Int.eq_ofNat_of_zero_le (show 0<=v by omega);exact Tt.b (Qia (by omega) E g f) λr d=>Tt.c (λ_=>Tt.p nil) λ_=>Tt.p d
theorem H?(c:CB)(l:AA CI)(d:AI l<=16){e:Int}(he:Ev (λn=>HD n c) e):Tt (λn=>PC n c l) λr=>Ff {AS:=r.1,BN:=r.2.1}:=by
 unfold PC;have nil:Ff {AS:=[],BN:=[]}:=⟨by simp,by simp,λ_ h=>nomatch h⟩;exact Qg (Qnf c l d he) λr=>Tt.c (λ_=>Tt.p nil) λ_=>Tt.b (Zh _) λr j=>Tt.c (λ_=>Tt.p nil) λ_=>Tt.b (sy c l d he) λs f=>Tt.p ⟨by grind,by grind,λq g=>by grind⟩
set_option maxRecDepth 10000
abbrev NC{B:Type}(i:Nat):CG Int (CG Unit B)->Prop
 |.k s=>s=((i+1:Nat):Int)
 |.d _=>True
theorem J6{α B:Type}{step:Nat->Int->AB (CG Int (CG Unit B))}(l:AA α)(g:AI l<=1048576)(h:∀i x,At l i x->Tt (λn=>step n (i:Int)) (NC i))(e:∀n,step n (AI l:Int)=AC (.d (.k ()))):Tt (λn=>iter (step n) n 0) λ_=>True:=by
 refine QP l (λ(_:Unit) i=>i) (λ_ _=>True) (by omega) (λi x _ ha _=>(h i x ha).w λc f=>?_) (λ_ _=>?_) () _ rfl trivial
 .cases c with
  |k s=>exact⟨(),f,trivial⟩
  |d d=>exact trivial
 .simp only[e];exact Tt.p ⟨_,rfl,trivial⟩
theorem o5(a b c:Int):Tt (λn=>Fz n a b c) λr=>r=AE->b<=a/\a<=c:=by
 unfold Fz;exact Tt.b (P:=λr=>r=AE->b<=a/\a<=c) (Tt.c (λh=>Tt.p (by grind)) λ_=>Tt.p nofun) λr h=>Tt.p h
theorem K4(a b c:Int):Tt (λn=>Fz n a b c) λ_=>True:=(o5 a b c).any
theorem Qm8(c:CB)(d:AI c.Au<=1048576)(m:Int):Tt (λn=>Fv n c m) λr=>r=AE->0<=m/\m<(AI c.Au:Int):=by
 unfold Fv;rw[ZH d];exact Tt.b (o5 ..) λr h=>Tt.p λq=>by grind
theorem kZ(c:CB)(m:Int):Tt (λn=>Fv n c m) λ_=>True:=by
 simp_all[Fv,K4]
theorem QlC(l:AA UInt8):Tt (λn=>PG n l) λ_=>True:=by
 unfold PG
 repeat' first|with_reducible exact Tt.p trivial|with_reducible refine Tt.c (λ_=>?_) λ_=>?_|with_reducible refine Qg ?_ λ_=>?_
theorem oQ(l:AA UInt8):Tt (λn=>L8 n l) λ_=>True:=by
 unfold L8;refine Tt.b (P:=λb=>b=AD->1<=AI l/\AI l<=24) (Tt.c (λ_=>Tt.p nofun) λf=>Tt.c (λ_=>Tt.p nofun) λd=>?_) λb j=>Tt.c (λ_=>Tt.p trivial) λq=>?_
 .have f:=Vw f;have d:=Vw d;have g:=Tt.i (l:=l) (i:=0) (Int.le_refl 0) (by omega);exact Tt.w (P:=λ_=>True) (Qg g.any λ_=>Tt.c (λ_=>Tt.p trivial) λ_=>Qg g.any λ_=>Tt.p trivial) (by omega)
 obtain⟨f,d⟩:=j q;refine Qg (Tt.l (λs:Int=>0<=s/\s<=(AI l:Int)) (λs=>((AI l:Int)-s).toNat) (λs h=>?_) 1 (by omega)) λr=>?_
 .unfold dx;refine Tt.c (λq=>?_) λ_=>Tt.p (Q:=G7 _ _ _ _) trivial;have q:=Vv q;have ix:=(Tt.i h.1 q).any;refine Qg ?_ λ_=>Tt.c (λ_=>Tt.p (Q:=G7 _ _ _ _) trivial) λ_=>Tt.p (Q:=G7 _ _ _ _) ?_
  .repeat' first|with_reducible exact Tt.p trivial|with_reducible exact ix|with_reducible refine Tt.c (λ_=>?_) λ_=>?_|with_reducible refine Qg ?_ λ_=>?_
  grind[Qt]
 .cases r with
  |k u=>simp_all[Qg,QlC,Tt.p]
  |d v=>exact Tt.p trivial
theorem dZ(l:AA (AA UInt8))(f:AI l<=1048576):Tt (λn=>IG n l) λ_=>True:=by
 unfold IG;refine Qg (J6 l f (λi x d=>?_) λn=>by simp_all[T6]) λr=>by cases r<;>exact Tt.p trivial
 have h:=d.lt';unfold T6;simp only[d.lt,Vp,d.ix,XJ,d.nx];refine Qg (oQ x) λ_=>Tt.c (λ_=>Tt.p trivial) λ_=>Tt.b (P:=λr=>match r with|.k _=>True|.d c=>match c with|.k _=>False|.d _=>True) (Tt.up i (by omega) (λ(_:Unit) i=>i) (λ_ _=>True) (λj _ hj hn _=>?_) (λ_ _=>?_) () _ rfl trivial) λr g=>?_
 .unfold Ty;simp only[Yj (show(j:Int)<(i:Int)by omega),Vp,hn];exact Qg (Tt.i (Int.natCast_nonneg j) (by omega)).any λ_=>Qg (Tt.i (Int.natCast_nonneg i) (by omega)).any λ_=>Tt.c (λ_=>Tt.p (Q:=F6 _ _ _ _) trivial) λ_=>Tt.p ⟨(),rfl,trivial⟩
 .simp_all[Ty,Tt.p]
 .cases r with
  |k u=>exact Tt.p rfl
  |d s=>
   cases s with
   |k z=>grind
   |d z=>exact Tt.p (Q:=NC i) trivial
theorem dI{α:Type}{step:Nat->AA (AA UInt8)×Int->AB (CG (AA (AA UInt8)×Int) (AA (AA UInt8)))}(l:AA α)(f:α->AA UInt8)(k:AI l<=1048576)
  (h:∀n i x a,At l i x->step n (a,(i:Int))=(app a [f x]).bind λm=>AC (.k (m,((i+1:Nat):Int))))(e:∀n a,step n (a,(AI l:Int))=AC (.d a)):Tt (λn=>iter (step n) n ([],0)) λr=>AI r<=1048576:=by
 refine QP l (λ(a:AA (AA UInt8)) i=>(a,i)) (λi a=>AI a<=i) (by omega) (λi x a d g=>?_) (λa g=>?_) [] _ rfl (XT _)
 .have:=d.lt';simp only[h _ _ _ _ d];exact Tt.b (Tt.a (by simp;omega)) λm j=>Tt.p ⟨m,rfl,by grind⟩
 .simp only[e];exact Tt.p ⟨_,rfl,by omega⟩
theorem S?(c:CB)(w:C0 c):Tt (λn=>OH n c) λ_=>True:=by
 unfold OH;refine Tt.b (dI c.Au (·.Ap) w.mats (λn i x a d=>?_) λn a=>?_) λm z=>Tt.b (dI c.AO (·.Ap) w.dist (λn i x a d=>?_) λn a=>?_) λt k=>Tt.b (dI c.A0 (·.Ap) w.wave (λn i x a d=>?_) λn a=>?_) λy h=>Tt.b (dI c.Ab (·.Ap) w.off (λn i x a d=>?_) λn a=>?_) λq j=>Tt.b (dI c.AV (·.Ap) w.cat (λn i x a d=>?_) λn a=>?_) λg f=>?_
 case refine_11=>
  exact Qg (Qg (oQ _) λ_=>Tt.c (λ_=>Qg (dZ m z) λ_=>Tt.c (λ_=>Qg (dZ t k) λ_=>Tt.c (λ_=>Qg (dZ y h) λ_=>Tt.c (λ_=>Qg (dZ q j) λ_=>Tt.c (λ_=>Qg (dZ g f) λ_=>Tt.p trivial) λ_=>Tt.p trivial) λ_=>Tt.p trivial) λ_=>Tt.p trivial) λ_=>Tt.p trivial) λ_=>Tt.p trivial) λ_=>Tt.p trivial
 all_goals first|(unfold TD;simp only[Y9,Vq];done)|(unfold T8;simp only[Y9,Vq];done)|(unfold TS;simp only[Y9,Vq];done)|(unfold Sq;simp only[Y9,Vq];done)|(unfold So;simp only[Y9,Vq];done)|(unfold TD;simp only[d.lt,Vp,d.ix,XJ,d.nx];done)|(unfold T8;simp only[d.lt,Vp,d.ix,XJ,d.nx];done)|(unfold TS;simp only[d.lt,Vp,d.ix,XJ,d.nx];done)|(unfold Sq;simp only[d.lt,Vp,d.ix,XJ,d.nx];done)|(unfold So;simp only[d.lt,Vp,d.ix,XJ,d.nx];done)
def Ih(c:CB)(d:AN):Prop:=Cv ((AI c.Au:Int)-1) d.Ad=AE/\(d.Ak≠ -1->0<=d.Ak/\d.Ak<(AI c.Au:Int))
theorem Qjp(c:CB)(w:C0 c){d:AN}(m:AI d.Ar<=1048576)(f:AI d.Ad<=1048576)(g:∀x∈d.Ad,CH.wf x):Tt (λn=>Ox n c d) λr=>r=AE->Ih c d:=by
 unfold Ox;refine Tt.b (P:=λr=>match r with|.k _=>True|.d b=>b=AD) (QP d.Ar (λ(_:Unit) i=>i) (λ_ _=>True) (by omega) (λi x _ ha _=>?_) (λ_ _=>?_) () _ rfl trivial) λr k=>?_
 .unfold S9;simp only[ha.lt,Vp,ha.ix,XJ,ha.nx];exact Qg (Qg (kZ ..) λ_=>Tt.c (λ_=>Tt.p trivial) λ_=>Tt.c (λ_=>Tt.p trivial) λ_=>Qg (K4 ..) λ_=>Tt.p trivial) λ_=>Tt.c (λ_=>Tt.p (Q:=F6 _ _ _ _) rfl) λ_=>Tt.p ⟨(),rfl,trivial⟩
 .simp_all[S9,Tt.p]
 .cases r with
  |d b=>simp_all[Tt.p]
  |k u=>
   refine Tt.b (P:=λr=>r=AE->Ih c d) (Qg (K4 ..) λ_=>Tt.c (λ_=>Tt.b (P:=λr=>r=Cv ((AI c.Au:Int)-1) d.Ad) (Tt.e (Ql6 c w _ d.Ad (XT _) f g) rfl) λr j=>Tt.c (λq=>Tt.w (P:=λr=>r=AE->d.Ak≠ -1->0<=d.Ak/\d.Ak<(AI c.Au:Int)) (Tt.c (λz=>Tt.p (by grind)) λ_=>Tt.b (Qm8 c w.mats _) λ_ h=>Tt.p λz _=>h z) λ_ h z=>⟨by grind,h z⟩) λ_=>Tt.p nofun) λ_=>Tt.p nofun) λr h=>Tt.p h
theorem Qm7(c:CB)(h:CB.wf c):Tt (λn=>Ov n c) λr=>r=AE->∀d∈c.AO,Ih c d:=by
 have w:=Y0 h;have k:=Jt h;unfold Ov;refine Tt.b (P:=IE λr=>r=AD) (QP c.Au (λ(_:Unit) i=>i) (λ_ _=>True) (by have:=w.mats;omega) (λi x _ f _=>?_) (λ_ _=>?_) () _ rfl trivial) λr g=>?_
 .unfold TF;simp only[f.lt,Vp,f.ix,XJ,f.nx]
  simp_all[Qg,K4,Tt.p]
 .simp_all[TF,Tt.p]
 rcases r with u|b
 case d=>simp_all[Tt.p]
 refine Tt.b (P:=IE λr=>r=AD) (QP c.Az (λ(_:Unit) i=>i) (λ_ _=>True) (by have:=w.legs;omega) (λi x _ f _=>?_) (λ_ _=>?_) () _ rfl trivial) λr g=>?_
 .have y:=f.lt';have z:=w.legs;unfold TE;simp only[f.lt,Vp,f.ix,XJ,f.nx];refine Qg (Qg (kZ ..) λ_=>Tt.c (λ_=>Tt.p trivial) λ_=>Qg (kZ ..) λ_=>Tt.c (λ_=>Tt.p trivial) λ_=>Tt.c (λ_=>Tt.p trivial) λ_=>Tt.c (λ_=>Tt.p trivial) λ_=>Tt.p trivial) λ_=>Tt.c (λ_=>Tt.p (Q:=F6 _ _ _ _) rfl) λ_=>?_;refine Tt.b (P:=IE λ(r:CG Int (CG Unit Bool))=>r=.d (.d AD)) (Tt.up i (by omega) (λ(_:Unit) i=>i) (λ_ _=>True) (λj _ hj hn _=>?_) (λ_ _=>?_) () _ rfl trivial) λr g=>?_
  .unfold Sr;simp only[Yj (show(j:Int)<(i:Int)by omega),Vp,hn];have ix:=Tt.i (l:=c.Az) (Int.natCast_nonneg j) (by omega);exact Qg (Qg ix.any λ_=>Tt.c (λ_=>Qg ix.any λ_=>Tt.p trivial) λ_=>Tt.p trivial) λ_=>Tt.c (λ_=>Tt.p (Q:=F6 _ _ _ _) rfl) λ_=>Tt.p ⟨(),rfl,trivial⟩
  .simp_all[Sr,Tt.p]
  .cases r with
   |k u=>exact Tt.p ⟨(),rfl,trivial⟩
   |d s=>cases g;exact Tt.p (Q:=F6 _ _ _ _) rfl
 .simp_all[TE,Tt.p]
 rcases r with u|b
 case d=>simp_all[Tt.p]
 refine Tt.b (P:=λr=>match r with|.k _=>∀d∈c.AO,Ih c d|.d b=>b=AD) (QP c.AO (λ(_:Unit) i=>i) (λi _=>∀d∈c.AO.take i,Ih c d) (by have:=w.dist;omega) (λi x _ f hI=>?_) (λ_ hI=>?_) () _ rfl (by simp)) λr m=>?_
 .unfold Tj;simp only[f.lt,Vp,f.ix,XJ,f.nx];refine Tt.b (Qjp c w (w.cut x f.mem) (k.len x f.mem) (k.wf x f.mem)) λr g=>Tt.c (λ_=>Tt.p (Q:=F6 _ _ _ _) rfl) λq=>Tt.p ⟨(),rfl,λd t=>?_⟩;rw[f.take]at t
  grind
 .simp_all[Tj,Tt.p]
 rcases r with u|b
 case d=>simp_all[Tt.p]
 refine Tt.w (P:=λ_=>True) ?_ λ_ _ _=>m;refine Qg (J6 c.A0 w.wave (λi x f=>?_) λn=>by simp_all[Td]) λr=>?_
 .unfold Td;simp only[f.lt,Vp,f.ix,XJ,f.nx];exact Qg (K4 ..) λ_=>Tt.c (λ_=>Tt.p trivial) λ_=>Tt.p rfl
 rcases r with u|b
 case d=>exact Tt.p trivial
 refine Qg (J6 c.Ab w.off (λi x f=>?_) λn=>by simp_all[Sl]) λr=>?_
 .unfold Sl;simp only[f.lt,Vp,f.ix,XJ,f.nx];refine Qg (Qg (K4 ..) λ_=>Tt.c (λ_=>Tt.c (λ_=>Tt.p trivial) λ_=>Tt.p trivial) λ_=>Tt.p trivial) λ_=>Qg (Tt.c (λ_=>Qg (K4 ..) λ_=>Tt.c (λ_=>Tt.p trivial) λ_=>Tt.p trivial) λ_=>Tt.p trivial) λ_=>Qg (Tt.c (λ_=>Tt.c (λ_=>Tt.p trivial) λ_=>Tt.p trivial) λ_=>Tt.p trivial) λ_=>Qg (Tt.c (λ_=>Tt.c (λ_=>Tt.p trivial) λ_=>Tt.p trivial) λ_=>Tt.p trivial) λ_=>Tt.c (λ_=>Tt.p trivial) λ_=>Tt.p rfl
 rcases r with u|b
 case d=>exact Tt.p trivial
 refine Qg (J6 c.AV w.cat (λi x f=>?_) λn=>by simp_all[S5]) λr=>?_
 .unfold S5;simp only[f.lt,Vp,f.ix,XJ,f.nx];exact Qg (Tt.c (λ_=>Tt.p trivial) λ_=>Tt.c (λ_=>Tt.p trivial) λ_=>Tt.p trivial) λ_=>Tt.c (λ_=>Tt.p trivial) λ_=>Tt.p rfl
 rcases r with u|b
 case d=>exact Tt.p trivial
 refine Qg (J6 c.Ay w.prize (λi x f=>?_) λn=>by simp_all[UQ]) λr=>?_
 .have y:=f.lt';have z:=w.prize;unfold UQ;simp only[f.lt,Vp,f.ix,XJ,f.nx];refine Qg (Qg (K4 ..) λ_=>Tt.c (λ_=>Tt.p trivial) λ_=>Qg (K4 ..) λ_=>Tt.c (λ_=>Tt.p trivial) λ_=>Qg (K4 ..) λ_=>Tt.c (λ_=>Tt.p trivial) λ_=>Qg (K4 ..) λ_=>Tt.p trivial) λ_=>Tt.c (λ_=>Tt.p trivial) λ_=>?_;refine Tt.b (P:=IE λ(r:CG Int (CG Unit Bool))=>r=.d (.d AD)) (Tt.up i (by omega) (λ(_:Unit) i=>i) (λ_ _=>True) (λj _ hj hn _=>?_) (λ_ _=>?_) () _ rfl trivial) λr g=>?_
  .unfold TQ;simp only[Yj (show(j:Int)<(i:Int)by omega),Vp,hn];exact Qg (Tt.i (Int.natCast_nonneg j) (by omega)).any λ_=>Qg (Tt.c (λ_=>Tt.c (λ_=>Tt.p trivial) λ_=>Tt.p trivial) λ_=>Tt.p trivial) λ_=>Tt.c (λ_=>Tt.p (Q:=F6 _ _ _ _) rfl) λ_=>Tt.p ⟨(),rfl,trivial⟩
  .simp_all[TQ,Tt.p]
  .cases r with
   |k u=>exact Tt.p rfl
   |d s=>cases g;exact Tt.p (Q:=NC i) trivial
 rcases r with u|b
 case d=>exact Tt.p trivial
 have B:=K4
 repeat' first|with_reducible exact Tt.p trivial|with_reducible refine Tt.c (λ_=>?_) λ_=>?_|with_reducible refine Qg ?_ λ_=>?_|simp_all
set_option maxRecDepth 10000
theorem Qlw:∀(m:Nat) (c:AR),SizeOf.sizeOf c<=m->AR.wf c->Tt (λn=>MS n c) λ_=>True:=by
 intro m
 induction m with
 |zero=>intro c f;cases c;simp at f
 |succ m j=>
  intro c f k;obtain⟨g,h⟩:=Y8 k;refine Tt.s ?_;show Tt (λn=>Pb (MS n) n c) _;unfold Pb;refine Tt.c (λ_=>?_) λ_=>Qg (Tt.c (λ_=>Tt.p trivial) λ_=>Tt.p trivial) λ_=>Qg ?_ λb=>?_
  .repeat' first|with_reducible exact Tt.p trivial|with_reducible refine Tt.c (λ_=>?_) λ_=>?_|with_reducible refine Qg ?_ λ_=>?_
  .repeat' first|with_reducible exact Tt.p trivial|with_reducible refine Tt.c (λ_=>?_) λ_=>?_|with_reducible refine Qg ?_ λ_=>?_
  .cases b with
   |d v=>exact Tt.p trivial
   |k u=>
    refine Qg (Tt.c (λ_=>Tt.p trivial) λ_=>Tt.p trivial) λ_=>Tt.c (λ_=>Tt.p trivial) λ_=>Qg (J6 c.Ac g (λi x d=>?_) λn=>by simp_all[Ti]) λr=>by cases r<;>exact Tt.p trivial
    unfold Ti;simp only[d.lt,Vp,d.ix,XJ,d.nx];have t:=List.sizeOf_lt_of_mem d.mem;have q:SizeOf.sizeOf c.Ac<SizeOf.sizeOf c:=by cases c;simp;omega
    exact Qg (j x (by omega) (h x d.mem)) λ_=>Tt.c (λ_=>Tt.p trivial) λ_=>Tt.p rfl
theorem Qnk{c:AR}(d:AR.wf c):Tt (λn=>O7 n c) λ_=>True:=by
 unfold O7;obtain⟨v,e,_⟩:=tZ _ c 0 (XT _) (by omega) d;exact Qg (Tt.e e trivial) λ_=>Tt.c (λ_=>Tt.p trivial) λ_=>Qg (Qlw _ c (XT _) d) λ_=>Tt.c (λ_=>Tt.p trivial) λ_=>Tt.p trivial
theorem Qls:∀(m:Nat) (l:AA AX),SizeOf.sizeOf l<=m->AI l<=1048576->(∀x∈l,AX.wf x)->Tt (λn=>MW n l) λ_=>True:=by
 intro m
 induction m with
 |zero=>intro l f;cases l<;>simp at f
 |succ m F=>
  intro l f B z;refine Tt.s ?_;show Tt (λn=>Pg (MW n) n l) _;unfold Pg;refine Qg (J6 l B (λi x d=>?_) λn=>by simp_all[UN]) λr=>by cases r<;>exact Tt.p trivial
  unfold UN;simp only[d.lt,Vp,d.ix,XJ,d.nx];obtain⟨q,⟨y,t⟩,⟨g,k⟩⟩:=Y7 (z x d.mem);have G:=List.sizeOf_lt_of_mem d.mem;have E:SizeOf.sizeOf x.BX<SizeOf.sizeOf x/\SizeOf.sizeOf x.Be<SizeOf.sizeOf x:=by cases x;simp;omega
  refine Tt.b (P:=IE λ(r:CG Int (CG Unit Bool))=>NC i r) (Tt.c (λ_=>?_) λ_=>Tt.c (λ_=>?_) λ_=>Tt.p trivial) λb j=>?_
  .refine Qg ?_ λ_=>Tt.c (λ_=>Tt.p trivial) λ_=>Tt.p trivial;refine Tt.c (λ_=>Tt.p trivial) λ_=>Tt.c (λ_=>Tt.p trivial) λ_=>Qg (Tt.e (Qb (Cr x.AR) |> λh=>h.congr λn=>sK n x.AR) trivial) λ_=>Tt.c (λ_=>Tt.p trivial) λ_=>Tt.c (λ_=>Tt.p trivial) λ_=>Tt.p trivial
  .exact Qg (Tt.c (λ_=>Tt.p trivial) λ_=>Qg (Qnk q) λ_=>Tt.c (λ_=>Tt.p trivial) λ_=>Tt.c (λ_=>Tt.p trivial) λ_=>Qg (by grind) λ_=>Tt.c (λ_=>Tt.p trivial) λ_=>Qg (by grind) λ_=>Tt.p trivial) λ_=>Tt.c (λ_=>Tt.p trivial) λ_=>Tt.p trivial
  .cases b with
   |k u=>exact Tt.p rfl
   |d v=>exact Tt.p j
theorem Qne{l:AA AX}(f:AI l<=1048576)(d:∀x∈l,AX.wf x):Tt (λn=>O2 n l) λ_=>True:=by
 unfold O2;obtain⟨a,b,e,_⟩:=pF _ l 0 (XT _) (by omega) f d;exact Qg (Tt.e e trivial) λ_=>Qg (Tt.c (λ_=>Tt.p trivial) λ_=>Tt.p trivial) λ_=>Tt.c (λ_=>Tt.p trivial) λ_=>Qg (Tt.c (λ_=>Tt.p trivial) λ_=>Qg (Qls _ l (XT _) f d) λ_=>Tt.p trivial) λ_=>Tt.c (λ_=>Tt.p trivial) λ_=>Tt.p trivial
theorem pT{k:Int}{l:AA CH}(h:Cv k l=AE){p:CH}(d:p∈l):(p.As=0->0<=p.Am/\p.Am<=k)/\(p.As≠0->1<=p.As/\p.As<=64/\Cv k p.Ac=AE):=by
 rw[Jz,Xs]at h;have q:=h p d;rw[ZF]at q;unfold DI at q;cases z:(p.As==0)with
 |true=>
  rw[z,Vp]at q;simp only[XW,Vr]at q;exact⟨λ_=>q.1,λy=>absurd (by simpa using z) y⟩
 |false=>
  rw[z,Vq]at q;simp only[XW,Vr]at q;exact⟨λy=>by rw[y]at z;simp at z,λ_=>⟨q.1.1,q.1.2,q.2.2.2⟩⟩
def Mo(k:Int)(m:Nat)(r:AA Int):Prop:=AI r<=600*(m+1)/\ ∀x∈r,0<=x/\x<=k
theorem Mo.app{k:Int}{m:Nat}{a b:AA Int}(ha:∀x∈a,0<=x/\x<=k)(hb:∀x∈b,0<=x/\x<=k)(h:AI a+AI b<=600*(m+1)):Mo k m (a++b):=
 ⟨by grind,(by grind)⟩
theorem Qjs(k:Int):∀(m:Nat) (l:AA CH),Ce l<=m->m<=256->AI l<=1048576->(∀x∈l,CH.wf x)->Cv k l=AE->Tt (λn=>MV n l) (Mo k m):=by
 intro m
 induction m using Nat.strongRecOn with
 |ind m V=>
  intro l hm F hl L X;refine Tt.s ?_;show Tt (λn=>Pf (MV n) n l) _;unfold Pf;refine Tt.b (P:=Mo k m) (QP l (λ(a:AA Int) i=>(a,i)) (λ_ a=>Mo k m a) (by omega) (λi x a f j=>?_) (λa j=>?_) [] _ rfl ⟨by simp,λ_ h=>nomatch h⟩) λr d=>Tt.p d
  .unfold Ts;simp only[f.lt,Vp,f.ix,XJ,f.nx];refine Tt.c (λq=>?_) λ_=>Tt.p (Q:=F6 _ _ _ _) j;have h2:AI a<=256:=by grind
   obtain⟨O,N⟩:=pT X f.mem;refine Tt.b (P:=Mo k m) (Tt.c (λz=>?_) λz=>?_) λr d=>Tt.p ⟨r,rfl,d⟩
   .have hM:=O (by simpa using z);refine Tt.b (Tt.a (by simp;omega)) λr d=>Tt.p ?_;subst d;exact Mo.app j.2 (λy E=>by grind) (by simp;omega)
   .obtain⟨l1,l2,M⟩:=N (by simpa using z);obtain⟨Y,H⟩:=Yk (L x f.mem);have t:=Y4 f.mem;rw[YQ]at t;refine Tt.b (V (Ce x.Ac) (by omega) x.Ac (XT _) (by omega) Y H M) λr d=>?_;have J:=d.1;have G:600*(Ce x.Ac+1)<=600*m:=(by omega);refine Tt.b (P:=Mo k m) (Tt.l (λs:AA Int×Int=>Mo k m s.1/\0<=s.2/\s.2<=64) (λs=>(64-s.2).toNat) (λs t=>?_) (a,0) (by grind)) λr d=>Tt.p d;obtain⟨T,B⟩:=s;obtain⟨g,W,R⟩:=t;simp only at g W R;unfold dy;refine Tt.b (P:=λb=>b=AE->B<x.As/\AI T<=256) (Tt.b (P:=λy=>y=x) (Tt.o f.ix rfl) λy E=>Tt.c (λq1=>Tt.p λq2=>?_) λ_=>Tt.p nofun) λb G=>Tt.c (λq=>?_) λ_=>Tt.p (Q:=G7 _ _ _ _) g
    .grind
    .obtain⟨h3,h4⟩:=G q;refine Tt.b (Tt.a (by grind)) λy E=>Tt.p (Q:=G7 _ _ _ _) ?_;have e:i64.wrap (B+1)=B+1:=Qt (by omega) (by omega);subst E;show(_/\_/\_)/\_;simp only[e];exact⟨⟨Mo.app g.2 d.2 (by omega),by omega,by omega⟩,by omega⟩
  simp_all[Ts,Tt.p]
theorem n_(c:CB)(f:AI c.Az<=1048576)(a b:Int):Tt (λn=>Lt n c a b) λ_=>True:=by
 unfold Lt;refine Qg (J6 c.Az f (λi x d=>?_) λn=>by simp_all[Sp]) λr=>by cases r<;>exact Tt.p trivial
 unfold Sp;simp only[d.lt,Vp,d.ix,XJ,d.nx];exact Qg (Tt.c (λ_=>Tt.p trivial) λ_=>Tt.p trivial) λ_=>Tt.c (λ_=>Tt.p trivial) λ_=>Tt.p rfl
theorem o6(l:AA Int)(d:AI l<=1048576)(a:Int):Tt (λn=>MP n l a) λ_=>True:=by
 unfold MP;refine Qg (QP l (λ(a:Int) i=>(a,i)) (λ_ _=>True) (by omega) (λi x a ha _=>?_) (λ_ _=>?_) 0 _ rfl trivial) λ_=>Tt.p trivial
 .unfold S_;simp only[ha.lt,Vp,ha.ix,XJ,ha.nx];exact Tt.b (P:=λ_=>True) (Tt.c (λ_=>Tt.p trivial) λ_=>Tt.p trivial) λr _=>Tt.p ⟨r,rfl,trivial⟩
 simp_all[S_,Tt.p]
theorem Qlu(c:CB)(w:C0 c){d:AN}(k:Ih c d)(m:Ce d.Ad<=256)(F:AI d.Ad<=1048576)(E:∀x∈d.Ad,CH.wf x)(t:AI d.Ar<=1048576):Tt (λn=>N6 n c d) λ_=>True:=by
 unfold N6;refine Tt.b (Qjs _ _ d.Ad (XT _) m F E k.1) λr g=>?_;have H:=g.1;have h:AI r<=1048576:=(by omega);have j:∀x∈r,Tt (λ_=>CJ c.Au x) λ_=>True:=λx B=>by have:=g.2 x B;exact(Tt.i this.1 (by omega)).any
 refine Qg (Tt.c (λ_=>Tt.p trivial) λ_=>Tt.p trivial) λ_=>Tt.c (λ_=>Tt.p trivial) λ_=>Qg (J6 r h (λi x f=>?_) λn=>by simp_all[TY]) λb=>?_
 .have G:=f.lt';unfold TY;simp only[f.lt,Vp,f.nx];refine Qg (Tt.c (λ_=>Tt.p trivial) λ_=>Tt.c (λ_=>Tt.p trivial) λ_=>Tt.p trivial) λ_=>Qg (Tt.b (P:=λy=>y∈r) (Tt.o f.ix f.mem) λy z=>Qg (j y z) λ_=>Tt.c (λ_=>Tt.p trivial) λ_=>Tt.c (λq=>?_) λ_=>Tt.p trivial) λ_=>Tt.c (λ_=>Tt.p trivial) λ_=>Tt.p rfl;have q:=Vv q;rw[Qt (n:=(i:Int)-1) (by omega) (by omega)];exact Qg (Tt.i (by omega) (by omega)).any λ_=>Qg (Tt.o f.ix trivial) λ_=>Qg (n_ c w.legs _ _) λ_=>Tt.p trivial
 .cases b with
  |d v=>exact Tt.p trivial
  |k u=>
   refine Qg (Tt.c (λq=>?_) λ_=>Tt.p trivial) λ_=>Tt.c (λ_=>Tt.p trivial) λ_=>Qg (J6 d.Ar t (λi x f=>?_) λn=>by simp_all[Sm]) λb=>by cases b<;>exact Tt.p trivial
   .have q:=k.2 (by grind);exact Qg (Tt.i q.1 q.2).any λ_=>Tt.c (λ_=>Tt.p trivial) λ_=>Qg (o6 r h _) λ_=>Tt.c (λ_=>Tt.p trivial) λ_=>Qg (n_ c w.legs _ _) λ_=>Tt.p trivial
   .unfold Sm;simp only[f.lt,Vp,f.ix,XJ,f.nx];exact Qg (o6 r h _) λ_=>Tt.c (λ_=>Tt.p trivial) λ_=>Tt.p rfl
theorem Qnc(c:CB)(g:CB.wf c):Tt (λn=>OG n c) λr=>r=AE->∀d∈c.AO,Ce d.Ad<=256:=by
 have w:=Y0 g;have j:=Jt g;unfold OG;refine Qg (by repeat' first|with_reducible exact Tt.p trivial|with_reducible refine Tt.c (λ_=>?_) λ_=>?_) λ_=>Tt.c (λ_=>Tt.p nofun) λ_=>?_;refine Tt.b (P:=λr=>match r with|.k _=>∀d∈c.AO,Ce d.Ad<=256|.d b=>b=AD) (QP c.AO (λ(_:Unit) i=>i) (λi _=>∀d∈c.AO.take i,Ce d.Ad<=256) (by have:=w.dist;omega) (λi x _ ha hI=>?_) (λ_ hI=>?_) () _ rfl (by simp)) λr k=>?_
 .unfold Te;simp only[ha.lt,Vp,ha.ix,XJ,ha.nx];have f:=j.len x ha.mem;have h:=j.wf x ha.mem;refine Tt.b (P:=λb=>b=AD->Ce x.Ad<=256) (Tt.c (λ_=>Tt.p nofun) λ_=>Qg (Tt.e (sj _ x.Ad 17 (XT _) (by omega) f h) trivial) λ_=>Tt.c (λ_=>Tt.p nofun) λ_=>Tt.b (P:=λr=>r=((min (Ce x.Ad) 257:Nat):Int)) (Tt.e (si _ x.Ad (XT _) f h) rfl) λr y=>Tt.p λq=>by grind) λb t=>Tt.c (λ_=>Tt.p (Q:=F6 _ _ _ _) rfl) λq=>Tt.p ⟨(),rfl,λd m=>?_⟩;rw[ha.take]at m
  grind
 .simp_all[Te,Tt.p]
 .cases r with
  |k u=>exact Tt.p λ_=>k
  |d b=>simp_all[Tt.p]
def IF(c:CB):Prop:=∀d∈c.AO,Ih c d/\Ce d.Ad<=256
theorem Qjt(c:CB)(g:CB.wf c):Tt (λn=>HD n c) λe=>e=0->IF c:=by
 have w:=Y0 g;have h:=Jt g;obtain⟨m,q⟩:=ka g;unfold HD;refine Tt.b (Qnc c g) λr E=>Tt.c (λ_=>Tt.p nofun) λy=>Qg (S? c w) λ_=>Tt.c (λ_=>Tt.p nofun) λ_=>Tt.b (Qm7 c g) λB t=>Tt.c (λ_=>Tt.p nofun) λz=>?_;have R:IF c:=λd F=>(by grind);refine Tt.w (P:=λ_=>True) ?_ λ_ _ _=>R;refine Qg (Qne m q) λ_=>Tt.c (λ_=>Tt.p trivial) λ_=>Qg (J6 c.AO w.dist (λi x f=>?_) λn=>by simp_all[Sx]) λb=>by cases b<;>exact Tt.p trivial
 unfold Sx;simp only[f.lt,Vp,f.ix,XJ,f.nx];obtain⟨j,k⟩:=R x f.mem;exact Qg (Qlu c w j k (h.len x f.mem) (h.wf x f.mem) (w.cut x f.mem)) λ_=>Tt.c (λ_=>Tt.p trivial) λ_=>Tt.p rfl
set_option maxRecDepth 10000
theorem pn:∀l:AA CH,AI l<=Ce l
 |[]=>XU _
 |p::r=>by
  have:=pn r
  grind[Ce,YQ]
theorem Qm2:∀(m:Nat) (l:AA CH) (d:Int),Ce l<=m->AI l<=1048576->(∀x∈l,CH.wf x)->Tt (λn=>MT n l d) λ_=>True:=by
 intro m
 induction m using Nat.strongRecOn with
 |ind m j=>
  intro l d q t g;refine Tt.s ?_;show Tt (λn=>Pd (MT n) n l d) _;unfold Pd;refine Tt.c (λ_=>Tt.p trivial) λ_=>Qg (QP l (λ(a:Int) i=>(a,i)) (λ_ _=>True) (by omega) (λi x a ha _=>?_) (λ_ _=>?_) _ _ rfl trivial) λ_=>Tt.p trivial
  .unfold UU;simp only[ha.lt,Vp,ha.ix,XJ,ha.nx];obtain⟨k,h⟩:=Yk (g x ha.mem);have f:=Y4 ha.mem;rw[YQ]at f;exact Tt.c (λ_=>Qg (j (Ce x.Ac) (by omega) x.Ac _ (XT _) k h) λr=>Tt.p ⟨_,rfl,trivial⟩) λ_=>Tt.p (Q:=F6 _ _ _ _) trivial
  simp_all[UU,Tt.p]
theorem QlA:∀(m:Nat) (l:AA AR) (d:Int),SizeOf.sizeOf l<=m->AI l<=1048576->(∀x∈l,AR.wf x)->Tt (λn=>MU n l d) λ_=>True:=by
 intro m
 induction m with
 |zero=>intro l d f;cases l<;>simp at f
 |succ m j=>
  intro l d f y g;refine Tt.s ?_;show Tt (λn=>Pe (MU n) n l d) _;unfold Pe;refine Tt.c (λ_=>Tt.p trivial) λ_=>Qg (QP l (λ(a:Int) i=>(a,i)) (λ_ _=>True) (by omega) (λi x a ha _=>?_) (λ_ _=>?_) _ _ rfl trivial) λ_=>Tt.p trivial
  .unfold TN;simp only[ha.lt,Vp,ha.ix,XJ,ha.nx];obtain⟨k,h⟩:=Y8 (g x ha.mem);have t:=List.sizeOf_lt_of_mem ha.mem;have q:SizeOf.sizeOf x.Ac<SizeOf.sizeOf x:=by cases x;simp;omega
   exact Tt.c (λ_=>Qg (j x.Ac _ (by omega) k h) λr=>Tt.p ⟨_,rfl,trivial⟩) λ_=>Tt.p (Q:=F6 _ _ _ _) trivial
  simp_all[TN,Tt.p]
theorem Qlr:∀(m:Nat) (l:AA AX) (d:Int),SizeOf.sizeOf l<=m->AI l<=1048576->(∀x∈l,AX.wf x)->Tt (λn=>MX n l d) λ_=>True:=by
 intro m
 induction m with
 |zero=>intro l d k;cases l<;>simp at k
 |succ m q=>
  intro l d k G t;refine Tt.s ?_;show Tt (λn=>Ph (MX n) n l d) _;unfold Ph;refine Tt.c (λ_=>Tt.p trivial) λ_=>Qg (QP l (λ(a:Int) i=>(a,i)) (λ_ _=>True) (by omega) (λi x a ha _=>?_) (λ_ _=>?_) _ _ rfl trivial) λ_=>Tt.p trivial
  .unfold T7;simp only[ha.lt,Vp,ha.ix,XJ,ha.nx];obtain⟨B,⟨j,h⟩,⟨f,g⟩⟩:=Y7 (t x ha.mem);have F:=List.sizeOf_lt_of_mem ha.mem;have z:SizeOf.sizeOf x.BX<SizeOf.sizeOf x/\SizeOf.sizeOf x.Be<SizeOf.sizeOf x:=by cases x;simp;omega
   exact Tt.c (λ_=>Qg (QlA _ [x.AR] 0 (XT _) (by simp) λy E=>by grind) λ_=>Qg (q x.BX _ (by omega) j h) λ_=>Qg (q x.Be _ (by omega) f g) λ_=>Tt.p ⟨_,rfl,trivial⟩) λ_=>Tt.p (Q:=F6 _ _ _ _) trivial
  simp_all[T7,Tt.p]
theorem N?(c:CB)(f:CB.wf c):Tt (λn=>OQ n c) λ_=>True:=by
 have w:=Y0 f;have g:=Jt f;obtain⟨h,j⟩:=ka f;unfold OQ;refine Qg (J6 c.AO w.dist (λi x d=>?_) λn=>by simp_all[TB]) λb=>?_
 .unfold TB;simp only[d.lt,Vp,d.ix,XJ,d.nx];exact Qg (Qg (Qm2 _ x.Ad 0 (XT _) (g.len x d.mem) (g.wf x d.mem)) λ_=>Tt.c (λ_=>Tt.p trivial) λ_=>Tt.c (λ_=>Tt.p trivial) λ_=>Tt.p trivial) λ_=>Tt.c (λ_=>Tt.p trivial) λ_=>Tt.p rfl
 rcases b with u|v
 case d=>exact Tt.p trivial
 refine Qg (J6 c.Au w.mats (λi x d=>?_) λn=>by simp_all[TU]) λb=>?_
 .unfold TU;simp only[d.lt,Vp,d.ix,XJ,d.nx];exact Tt.c (λ_=>Tt.p trivial) λ_=>Tt.p rfl
 rcases b with u|v
 case d=>exact Tt.p trivial
 refine Qg (by repeat' first|with_reducible exact Tt.p trivial|with_reducible refine Tt.c (λ_=>?_) λ_=>?_) λ_=>Tt.c (λ_=>Tt.p trivial) λ_=>Qg (Qlr _ c.BL 0 (XT _) h j) λ_=>Tt.p trivial
theorem Qjr(k:Int):∀(m:Nat) (l:AA CH),Ce l<=m->m<=256->AI l<=1048576->(∀x∈l,CH.wf x)->Cv k l=AE->Tt (λn=>RT n l) λr=>AI r<=600*(m+1):=by
 intro m
 induction m using Nat.strongRecOn with
 |ind m N=>
  intro l hm h hl F T;have ll:=pn l;refine Tt.s ?_;show Tt (λn=>iK (RT n) n l) _;unfold iK;refine Tt.b (P:=λ(r:AA Int)=>AI r<=600*(m+1)) (QP l (λ(a:AA Int) i=>(a,i)) (λi a=>AI a<=300+600*m+i) (by omega) (λi x a d B=>?_) (λa B=>?_) [] _ rfl (by simp)) λr f=>Tt.p f
  .have Y:=d.lt';unfold Tl;simp only[d.lt,Vp,d.ix,XJ,d.nx];obtain⟨p1,H⟩:=pT T d.mem;refine Tt.b (P:=λ(r:AA Int)=>AI r<=300+600*m+(i+1)) (Tt.c (λz=>?_) λz=>?_) λr f=>Tt.p ⟨r,rfl,f⟩
   .exact Tt.b (Tt.a (by simp;omega)) λr f=>Tt.p (by grind)
   .obtain⟨W,l2,G⟩:=H (by simpa using z);obtain⟨V,E⟩:=Yk (F x d.mem);have g:=Y4 d.mem;rw[YQ]at g;refine Tt.b (N (Ce x.Ac) (by omega) x.Ac (XT _) (by omega) V E G) λr f=>?_;have j:600*(Ce x.Ac+1)<=600*m:=(by omega);refine Tt.b (P:=λ(r:AA Int)=>AI r<=300+600*m+(i+1)) (Tt.l (λs:AA Int×Int=>AI s.1<=300+600*m+i/\0<=s.2/\s.2<=64) (λs=>(64-s.2).toNat) (λs g=>?_) (a,0) (by grind)) λr f=>Tt.p f;obtain⟨L,M⟩:=s;obtain⟨t,O,J⟩:=g;simp only at t O J;unfold dz;refine Tt.b (P:=λb=>b=AE->M<x.As/\AI L<=300) (Tt.b (P:=λy=>y=x) (Tt.o d.ix rfl) λy R=>Tt.c (λq1=>Tt.c (λ_=>Tt.p λX=>?_) λ_=>Tt.p nofun) λ_=>Tt.p nofun) λb j=>Tt.c (λq=>?_) λ_=>Tt.p (Q:=G7 _ _ _ _) (by grind)
    .grind
    .obtain⟨h3,h4⟩:=j q;refine Tt.b (Tt.a (by grind)) λy R=>Tt.p (Q:=G7 _ _ _ _) ?_
     grind[Qt]
  .unfold Tl;simp only[Y9,Vq];exact Tt.p ⟨_,rfl,by omega⟩
theorem kY{c:CB}(h:CB.wf c)(R:IF c){d:AN}(f:d∈c.AO):Tt (λn=>RT n d.Ad) λr=>AI r<=1048576:=by
 have g:=Jt h;obtain⟨⟨a,_⟩,b⟩:=R d f;exact(Qjr _ _ d.Ad (XT _) b (g.len d f) (g.wf d f) a).w (by omega)
theorem P?{c:CB}(f:CB.wf c)(R:IF c)(k:Int):Tt (λn=>N7 n c k) λ_=>True:=by
 unfold N7;refine Qg (N? c f) λb=>Tt.c (λ_=>Tt.p trivial) λ_=>Qg (J6 c.AO (Y0 f).dist (λi x d=>?_) λn=>by simp_all[UM]) λb=>by cases b<;>exact Tt.p trivial
 unfold UM;simp only[d.lt,Vp,d.ix,XJ,d.nx];exact Qg (kY f R d.mem).any λ_=>Tt.c (λ_=>Tt.p trivial) λ_=>Tt.p rfl
theorem rB{c:CB}(he:Ev (λn=>HD n c) 0)(i:Int):Tt (λn=>Ly n c i) λe=>e=0->0<=i/\i<(AI c.AO:Int):=by
 unfold Ly;refine Tt.b (P:=λe=>e=0) (Tt.e he rfl) λe f=>?_;subst f;refine Tt.c (λq=>by cases q) λ_=>Tt.b (P:=λb=>b=AD->0<=i/\i<(AI c.AO:Int)) (Tt.c (λ_=>Tt.p nofun) λh=>Tt.p λq=>?_) λb d=>Tt.c (λ_=>Tt.p nofun) λq=>Tt.p λ_=>d q;have h:=Vw h;have q:=Vw q;exact⟨by omega,by omega⟩
theorem Qng{c:CB}(g:CB.wf c)(R:IF c)(he:Ev (λn=>HD n c) 0)(i:Int):Tt (λn=>Nw n c i) λ_=>True:=by
 unfold Nw;refine Tt.b (rB he i) λe f=>Tt.c (λ_=>Tt.p trivial) λq=>?_;obtain⟨a,b⟩:=f (by grind);exact Tt.b (Tt.i a b) λd h=>Qg (Tt.p trivial) λ_=>Qg (kY g R h).any λ_=>Qg (Tt.p trivial) λ_=>Tt.c (λ_=>Tt.p trivial) λ_=>Tt.p trivial
theorem QlB{c:CB}(M:CB.wf c)(R:IF c)(he:Ev (λn=>HD n c) 0)(i k:Int):Tt (λn=>OK n c i k) λ_=>True:=by
 unfold OK;refine Tt.b (rB he i) λe N=>Tt.c (λ_=>Tt.p trivial) λq=>?_;obtain⟨a,b⟩:=N (by grind);refine Tt.b (Tt.i a b) λd O=>Tt.b (P:=λb=>b=AD->0<=k) (Tt.c (λ_=>Tt.p nofun) λh=>Tt.w (P:=λ_=>True) (Tt.c (λ_=>Tt.p trivial) λ_=>Tt.p trivial) λ_ _ _=>by grind) λb0 z=>Tt.c (λ_=>Tt.p trivial) λF=>Tt.b (kY M R O) λr hr=>Tt.b (P:=λb=>b=AD->k<=256) (Tt.c (λ_=>Tt.p nofun) λh=>Tt.p λ_=>by grind) λb1 t=>Tt.c (λ_=>Tt.p trivial) λV=>Tt.c (λ_=>Tt.p trivial) λ_=>?_;have k0:=z F;have X:=t V;refine Tt.b (P:=λx=> -1<=x/\x<(AI r:Int)) ?_ λx f=>?_
 .unfold WX;refine Tt.b (P:=λx=> -1<=x/\x<(AI r:Int)) (QP r (λ(a:Int) i=>(a,i)) (λi a=> -1<=a/\a<(i:Int)) (by omega) (λi y a g B=>?_) (λa B=>?_) (-1) _ rfl (by omega)) λx f=>Tt.p f
  .unfold S6;simp only[g.lt,Vp,g.ix,XJ,g.nx];exact Tt.b (P:=λx=> -1<=x/\x<((i+1:Nat):Int)) (Tt.c (λ_=>Tt.p (by omega)) λ_=>Tt.p ⟨B.1,by omega⟩) λx f=>Tt.p ⟨x,rfl,f⟩
  simp_all[S6,Tt.p]
 rw[Qt (n:=x+1) (by omega) (by omega)];refine Tt.b (Tt.sl (Int.le_refl 0) (by omega) (by omega)) λp hp=>Tt.b (Tt.a (by simp;omega)) λj G=>?_;have Y:AI j=AI p:=by rw[G];simp
 refine Tt.b (P:=λ(m:AA Int)=>AI m<=2000000) (Tt.l (λs:AA Int×Int=>AI s.1=AI j+s.2.toNat/\0<=s.2/\s.2<=k) (λs=>(k-s.2).toNat) (λs L=>?_) (j,0) (by grind)) λm H=>Tt.b (Tt.sl (by omega) (by omega) (Int.le_refl _)) λp2 W=>Tt.b (Tt.a (by omega)) λ_ _=>Tt.p trivial;obtain⟨s1,s2⟩:=s;obtain⟨E,T,J⟩:=L;simp only at E T J;unfold d8;refine Tt.c (λq=>?_) λ_=>Tt.p (Q:=G7 _ _ _ _) (by grind);have q:=Vv q;simp only at q;refine Tt.b (Tt.a (by grind)) λm H=>Tt.p (Q:=G7 _ _ _ _) ?_
 grind[Qt]
section
variable {α:Type}
theorem jo{R:AA α->Prop}(l:AA α)(x:α){i:Int}(j:0<=i)(k:i<=(AI l:Int))(F:AI l<=100000)(h:∀m,AI m=AI l+1->(∀y∈m,y=x\/y∈l)->R m):
  Tt (λ_=>(Dd l i (AI l:Int)).bind λa=>(app [x] a).bind λb=>(Dd l 0 i).bind λc=>(app c b).bind λd=>AC d) R:=by
 refine Tt.b (Tt.sl j k (Int.le_refl _)) λp t=>Tt.b (Tt.a (by simp;omega)) λB n=>?_;subst n;refine Tt.b (Tt.sl (Int.le_refl 0) j k) λE q=>Tt.b (Tt.a (by simp;omega)) λz f=>Tt.p (h _ ?_ λy g=>?_)
 .subst f;simp;omega
 .subst f;simp only[VC,VA]at g;rcases g with h|h|h
  .exact .inr (q.2 y h)
  .exact .inl h
  .exact .inr (t.2 y h)
theorem _o{R:AA α->Prop}(l:AA α)(x:α){i:Int}(f:0<=i)(g:i<=(AI l:Int))(H:AI l<=100000)(h:∀m,AI m=AI l+1->(∀y∈m,y=x\/y∈l)->R m):
  Tt (λ_=>(Dd l 0 i).bind λa=>(app ([]:AA α) a).bind λb=>(app b [x]).bind λc=>(Dd l i (AI l:Int)).bind λd=>(app c d).bind λe=>AC e) R:=by
 refine Tt.b (Tt.sl (Int.le_refl 0) f g) λp F=>Tt.b (Tt.a (by simp;omega)) λE j=>?_;subst j;refine Tt.b (Tt.a (by simp;omega)) λG k=>Tt.b (Tt.sl f g (Int.le_refl _)) λn q=>?_;subst k;refine Tt.b (Tt.a (by simp;omega)) λt z=>Tt.p (h _ ?_ λy B=>?_)
 .grind
 grind
end
def Wn(c:CB)(l:AA AP):Prop:=∀s∈l,0<=s.AN/\s.AN<(AI c.AO:Int)
theorem zN(l:AA AP)(b:Int)(d:AI l<=1000):Tt (λn=>Of n l b) λ_=>True:=by
 unfold Of;refine Qg (QP l (λ(_:Unit) i=>i) (λ_ _=>True) (by omega) (λi x _ ha _=>?_) (λ_ _=>?_) () _ rfl trivial) λr=>?_
 .unfold UL;simp only[ha.lt,Vp,ha.ix,XJ,ha.nx]
  simp_all[Tt.c,Tt.p]
 .simp_all[UL,Tt.p]
 .cases r<;>exact Tt.p trivial
theorem sz(c:CB)(l:AA CI)(G:AI l<=16){e:Int}(he:Ev (λn=>HD n c) e):Tt (λn=>MB n c l) λr=>AI r.1<=16/\Wn c r.1:=by
 unfold MB;have nil:AI ([]:AA AP)<=16/\Wn c []:=⟨by simp,λ_ h=>nomatch h⟩;refine Qg (Tt.e he trivial) λe=>Tt.c (λ_=>Tt.p nil) λ_=>Tt.b (RM l G) λC hC=>?_;refine Tt.b (P:=λ(a:AA AP)=>AI a<=16/\Wn c a) (QP C (λ(a:AA AP) i=>(a,i)) (λi a=>AI a<=i/\Wn c a) (by omega) (λi x a d g=>?_) (λa g=>?_) [] _ rfl (by grind)) λa d=>Tt.c (λ_=>Tt.p nil) λ_=>?_
 .unfold Tr;have:=d.lt';simp only[d.lt,Vp,d.ix,XJ,d.nx];have skip:AI a<=i+1/\Wn c a:=⟨by omega,g.2⟩;refine Tt.b (P:=λ(m:AA AP)=>AI m<=i+1/\Wn c m) (Tt.b (P:=λb=>b=AD->0<=x.AP.AN/\x.AP.AN<(AI c.AO:Int)) (Tt.c (λ_=>Tt.p nofun) λJ=>Tt.c (λ_=>Tt.p nofun) λE=>Tt.w (P:=λ_=>True) (Tt.c (λ_=>Tt.p trivial) λ_=>Qg (zN a _ (by omega)) λ_=>Tt.p trivial) λ_ _ _=>?_) λb H=>Tt.c (λ_=>Tt.p skip) λq=>?_) λm B=>Tt.p ⟨m,rfl,B⟩
  .have:=Vw E;exact⟨hC.2 x d.mem (by grind),by omega⟩
  refine Tt.b (Tt.find a (by omega) λj y f=>Qg (Tt.o f.ix trivial) λy=>Tt.p trivial) λj f=>?_;refine _o a x.AP f.1 f.2 (by omega) λm L z=>⟨by omega,λs t=>?_⟩;rcases z s t with h|h
  .grind
  .exact g.2 s h
 .unfold Tr;simp only[Y9,Vq];exact Tt.p (by grind)
 refine Tt.b (P:=IE λ(r:AA AP×Int)=>r.1=[]) (QP a (λ(_:Unit) i=>i) (λ_ _=>True) (by omega) (λi x _ hx _=>?_) (λ_ _=>?_) () _ rfl trivial) λr k=>?_
 .unfold UR;have F:=hx.lt';simp only[hx.lt,Vp,hx.nx];refine Tt.b (P:=IE λ(r:CG Int (CG Unit (AA AP×Int)))=>r=.d (.d ([],180))) (Tt.up i (by omega) (λ(_:Unit) i=>i) (λ_ _=>True) (λj _ f hn _=>?_) (λ_ _=>?_) () _ rfl trivial) λr k=>?_
  .unfold UP;simp only[Yj (show(j:Int)<(i:Int)by omega),Vp,hn];exact Qg (Tt.i (Int.natCast_nonneg i) (by omega)).any λ_=>Qg (Tt.i (Int.natCast_nonneg j) (by omega)).any λ_=>Tt.c (λ_=>Tt.p (Q:=F6 _ _ _ _) rfl) λ_=>Tt.p ⟨(),rfl,trivial⟩
  .simp_all[UP,Tt.p]
  .cases r with
   |k s=>exact Tt.p ⟨(),rfl,trivial⟩
   |d s=>cases k;exact Tt.p (Q:=F6 _ _ _ _) rfl
 .simp_all[UR,Tt.p]
 .cases r with
  |k s=>exact Tt.p d
  |d s=>simp_all[Tt.p]
theorem Qm3(l:AA CI)(r:A5)(d:AI l<=16):Tt (λn=>Oe n l r) λ_=>True:=by
 unfold Oe;refine Qg (QP l (λ(_:Unit) i=>i) (λ_ _=>True) (by omega) (λi x _ ha _=>?_) (λ_ _=>?_) () _ rfl trivial) λr=>?_
 .unfold Tg;simp only[ha.lt,Vp,ha.ix,XJ,ha.nx];refine Qg ?_ λ_=>Tt.c (λ_=>Tt.p trivial) λ_=>Tt.p ⟨(),rfl,trivial⟩
  repeat' first|with_reducible exact Tt.p trivial|with_reducible refine Tt.c (λ_=>?_) λ_=>?_
 .simp_all[Tg,Tt.p]
 .cases r<;>exact Tt.p trivial
theorem Qm9(a b:A5):Tt (λn=>OO n a b) λ_=>True:=by
 unfold OO
 repeat' first|with_reducible exact Tt.p trivial|with_reducible refine Tt.c (λ_=>?_) λ_=>?_
theorem _k(c:CB)(l:AA CI)(k:AI l<=16):Tt (λn=>O5 n c l) λr=>AI r<=16:=by
 unfold O5;refine Tt.b (RM l k) λC hC=>?_;refine Tt.b (P:=λ(a:AA A5)=>AI a<=16) (QP C (λ(a:AA A5) i=>(a,i)) (λi a=>AI a<=i) (by omega) (λi x a d h=>?_) (λa h=>?_) [] _ rfl (XT _)) λa d=>Tt.p d
 .unfold Sy;have:=d.lt';simp only[d.lt,Vp,d.ix,XJ,d.nx];refine Tt.b (P:=λ(m:AA A5)=>AI m<=i+1) (Qg (Tt.c (λ_=>Tt.p trivial) λ_=>Tt.c (λ_=>Tt.p trivial) λ_=>Qg (Qm3 C _ hC.1) λ_=>Tt.p trivial) λb=>Tt.c (λ_=>Tt.p (by omega)) λ_=>?_) λm g=>Tt.p ⟨m,rfl,g⟩;refine Tt.b (Tt.find a (by omega) λj y f=>Qg (Tt.o f.ix trivial) λy=>Qg (Qm9 _ _) λ_=>Tt.p trivial) λj f=>?_;exact jo a x.A5 f.1 f.2 (by omega) λm t q=>by omega
 .unfold Sy;simp only[Y9,Vq];exact Tt.p ⟨_,rfl,by omega⟩
theorem I?(c:CB)(l:AA CI)(k:AI l<=16){e:Int}(he:Ev (λn=>HD n c) e):Tt (λn=>N9 n c l) λr=>AI r<=16:=by
 unfold N9;refine Qg (Tt.e he trivial) λe=>Tt.c (λ_=>Tt.p (by simp)) λ_=>Tt.b (_k c l k) λC hC=>?_;refine Tt.b (P:=λ(a:AA CN)=>AI a<=16) (QP C (λ(a:AA CN) i=>(a,i)) (λi a=>AI a<=i) (by omega) (λi x a d j=>?_) (λa j=>?_) [] _ rfl (XT _)) λa d=>Tt.p d
 .unfold UV;have:=d.lt';have w:i64.wrap ((AI a:Int)-1)=(AI a:Int)-1:=Qt (by omega) (by omega);simp only[d.lt,Vp,d.ix,XJ,d.nx,w];refine Tt.b (P:=λb=>b=AE->0<=(AI a:Int)-1) (Tt.c (λh=>?_) λ_=>Tt.p nofun) λb g=>?_
  .have h:=Vv h;refine Tt.w (P:=λ_=>True) ?_ λ_ _ _=>h
   repeat' first|with_reducible exact Tt.p trivial|with_reducible refine Tt.c (λ_=>?_) λ_=>?_|with_reducible refine Qg ?_ λ_=>?_|exact(Tt.i h (by omega)).any
  .refine Tt.b (P:=λ(m:AA CN)=>AI m<=i+1) (Tt.c (λq=>?_) λ_=>Tt.b (Tt.a (by simp;omega)) λm f=>Tt.p (by grind)) λm f=>Tt.p ⟨m,rfl,f⟩;have h:=g q;exact Qg (Tt.i h (by omega)).any λy=>Tt.b (Tt.set h (by omega)) λm f=>Tt.p (by omega)
 .unfold UV;simp only[Y9,Vq];exact Tt.p ⟨_,rfl,by omega⟩
theorem zQ(c:CB)(l:AA CI)(k:Int)(h:AI l<=16){e:Int}(he:Ev (λn=>HD n c) e):Tt (λn=>PT n c l k) λr=>AI r<=16:=by
 unfold PT;refine Tt.b (I? c l h he) λC hC=>?_;refine Tt.b (P:=λ(a:AA CN)=>AI a<=16) (QP C (λ(a:AA CN) i=>(a,i)) (λi a=>AI a<=i) (by omega) (λi x a d g=>?_) (λa g=>?_) [] _ rfl (XT _)) λa d=>Tt.p d
 .unfold TJ;have:=d.lt';simp only[d.lt,Vp,d.ix,XJ,d.nx];exact Tt.b (P:=λ(m:AA CN)=>AI m<=i+1) (Tt.c (λ_=>Tt.b (Tt.a (by simp;omega)) λm f=>Tt.p (by grind)) λ_=>Tt.p (by omega)) λm f=>Tt.p ⟨m,rfl,f⟩
 .unfold TJ;simp only[Y9,Vq];exact Tt.p ⟨_,rfl,by omega⟩
theorem q_(l:AA CI)(k:Int)(B:AI l<=16):Tt (λn=>Lv n l k) λr=>AI r<=16:=by
 unfold Lv;refine Tt.b (P:=λ(a:AA Int)=>AI a<=16) (QP l (λ(a:AA Int) i=>(a,i)) (λi a=>AI a<=i) (by omega) (λi x a d q=>?_) (λa q=>?_) [] _ rfl (XT _)) λa d=>Tt.p d
 .unfold S0;have:=d.lt';simp only[d.lt,Vp,d.ix,XJ,d.nx];refine Tt.b (P:=λ(m:AA Int)=>AI m<=i+1) (Tt.c (λ_=>Tt.p (by omega)) λ_=>?_) λm g=>Tt.p ⟨m,rfl,g⟩;refine Tt.b (Tt.find a (by omega) λj y f=>Qg (Tt.o f.ix trivial) λy=>Tt.p trivial) λj f=>?_;refine Qg (Tt.c (λh=>Qg (Tt.i f.1 (Vv h)).any λ_=>Tt.p trivial) λ_=>Tt.p trivial) λ_=>Tt.c (λ_=>Tt.p (by omega)) λ_=>?_;exact jo a _ f.1 f.2 (by omega) λm z t=>by omega
 .unfold S0;simp only[Y9,Vq];exact Tt.p ⟨_,rfl,by omega⟩
theorem rA(l:AA CI)(h:AI l<=16):Tt (λn=>L3 n l) λr=>AI r<=16:=by
 unfold L3;refine Tt.b (RM l h) λC hC=>Tt.b (q_ C 8 hC.1) λK hK=>?_;refine Tt.b (P:=λ(a:AA Ai)=>AI a<=16) (QP K (λ(a:AA Ai) i=>(a,i)) (λi a=>AI a<=i) (by omega) (λi x a d g=>?_) (λa g=>?_) [] _ rfl (XT _)) λa d=>Tt.p d
 .unfold TT;have:=d.lt';simp only[d.lt,Vp,d.nx];refine Tt.b (P:=λ(m:AA Ai)=>AI m<=i+1) (QP C (λ(_:Unit) i=>i) (λ_ _=>True) (by omega) (λj y _ hy _=>?_) (λ_ _=>?_) () _ rfl trivial) λm f=>Tt.p ⟨m,rfl,f⟩
  .unfold Ta;simp only[hy.lt,Vp,hy.ix,XJ,hy.nx];exact Qg (Tt.c (λ_=>Qg (Tt.o d.ix trivial) λ_=>Tt.p trivial) λ_=>Tt.p trivial) λ_=>Tt.c (λ_=>Tt.b (Tt.a (by simp;omega)) λm f=>Tt.p (Q:=F6 _ _ _ _) (by grind)) λ_=>Tt.p ⟨(),rfl,trivial⟩
  .unfold Ta;simp only[Y9,Vq];exact Tt.p ⟨_,rfl,by omega⟩
 .unfold TT;simp only[Y9,Vq];exact Tt.p ⟨_,rfl,by omega⟩
theorem qj(l:AA Int)(k:Int)(q:AI l<=1000):Tt (λn=>Lz n l k) λr=>AI r<=AI l+1:=by
 unfold Lz;refine Tt.b (Tt.find l (by omega) λj y d=>Qg (Tt.o d.ix trivial) λy=>Tt.p trivial) λj d=>?_;refine Qg (Tt.c (λh=>Qg (Tt.i d.1 (Vv h)).any λ_=>Tt.p trivial) λ_=>Tt.p trivial) λ_=>Tt.c (λ_=>Tt.p (by omega)) λ_=>?_;exact jo l _ d.1 d.2 (by omega) λm f g=>by omega
theorem hQ(l:AA CI)(a b:Int)(f:AI l<=16):Tt (λn=>I8 n l a b) λr=>r<(AI l:Int):=by
 unfold I8;refine Tt.b (P:=IE λr=>r<(AI l:Int)) (QP l (λ(_:Unit) i=>i) (λ_ _=>True) (by omega) (λi x _ ha _=>?_) (λ_ _=>?_) () _ rfl trivial) λr d=>?_
 .unfold TX;have:=ha.lt';simp only[ha.lt,Vp,ha.ix,XJ,ha.nx];refine Qg ?_ λ_=>Tt.c (λ_=>Tt.p (Q:=F6 _ _ _ _) (by omega)) λ_=>Tt.p ⟨(),rfl,trivial⟩
  repeat' first|with_reducible exact Tt.p trivial|with_reducible refine Tt.c (λ_=>?_) λ_=>?_
 .simp_all[TX,Tt.p]
 .cases r with
  |k s=>exact Tt.p (by omega)
  |d s=>exact Tt.p d
theorem Qh8(l:AA CI)(a:Int)(d:AI l<=16):Tt (λn=>N4 n l a) λ_=>True:=by
 unfold N4;refine Qg (Qg (hQ l a 1 d).any λ_=>Tt.c (λ_=>Tt.p trivial) λ_=>Qg (hQ l a 2 d).any λ_=>Tt.p trivial) λ_=>Tt.c (λ_=>Tt.p trivial) λ_=>?_;refine Qg (QP l (λ(_:Unit) i=>i) (λ_ _=>True) (by omega) (λi x _ ha _=>?_) (λ_ _=>?_) () _ rfl trivial) λr=>?_
 .unfold Tv;simp only[ha.lt,Vp,ha.ix,XJ,ha.nx];refine Qg ?_ λ_=>Tt.c (λ_=>Tt.p trivial) λ_=>Tt.p ⟨(),rfl,trivial⟩
  repeat' first|with_reducible exact Tt.p trivial|with_reducible refine Tt.c (λ_=>?_) λ_=>?_
 .simp_all[Tv,Tt.p]
 .cases r<;>exact Tt.p trivial
theorem o4(l:AA CI)(a:Int)(d:AI l<=16):Tt (λn=>L_ n l a) λr=>r<(AI l:Int):=by
 unfold L_;exact Qg (Qh8 l a d) λ_=>Tt.c (λ_=>Tt.p (by omega)) λ_=>Tt.b (hQ l a 2 d) λr h=>Tt.c (λ_=>Tt.p h) λ_=>Tt.b (hQ l a 1 d) λr h=>Tt.p h
theorem J?(l:AA CI)(k:AI l<=16):Tt (λn=>N' n l) λr=>AI r<=16:=by
 unfold N';refine Tt.b (RM l k) λC hC=>Tt.b (q_ C 10 hC.1) λK hK=>?_;refine Tt.b (P:=λ(a:AA Af)=>AI a<=16) (QP K (λ(a:AA Af) i=>(a,i)) (λi a=>AI a<=i) (by omega) (λi x a d g=>?_) (λa g=>?_) [] _ rfl (XT _)) λa d=>Tt.p d
 .unfold UO;have:=d.lt';simp only[d.lt,Vp,d.ix,XJ,d.nx];exact Tt.b (o4 C x hC.1) λr j=>Tt.b (P:=λ(m:AA Af)=>AI m<=i+1) (Tt.c (λh=>Qg (Tt.i (Vv h) j).any λ_=>Tt.b (Tt.a (by simp;omega)) λm f=>Tt.p (by grind)) λ_=>Tt.p (by omega)) λm f=>Tt.p ⟨m,rfl,f⟩
 .unfold UO;simp only[Y9,Vq];exact Tt.p ⟨_,rfl,by omega⟩
theorem zR(l:AA CI)(a:Int)(f:AI l<=16):Tt (λn=>OU n l a) λ_=>True:=by
 unfold OU;refine Tt.b (RM l f) λC hC=>Tt.b (o4 C a hC.1) λr d=>Tt.c (λ_=>Tt.p trivial) λq=>?_;have:=Vw q;exact Qg (Tt.i (by omega) d).any λ_=>Tt.p trivial
theorem Qm6(l:AA CI)(a:Int)(d:AI l<=16):Tt (λn=>Oz n l a) λ_=>True:=by
 unfold Oz;refine Tt.b (rA l d) λC hC=>Qg (QP C (λ(_:Unit) i=>i) (λ_ _=>True) (by omega) (λi x _ ha _=>?_) (λ_ _=>?_) () _ rfl trivial) λr=>?_
 .unfold S7;simp only[ha.lt,Vp,ha.ix,XJ,ha.nx]
  simp_all[Tt.c,Tt.p]
 .simp_all[S7,Tt.p]
 .cases r<;>exact Tt.p trivial
theorem Qlv(c:CB)(l:AA CI)(a:Int)(d:AI l<=16):Tt (λn=>PV n c l a) λ_=>True:=by
 unfold PV;refine Qg (zR l a d) λr=>Qg ?_ λb=>?_
 .repeat' first|with_reducible exact Tt.p trivial|with_reducible refine Tt.c (λ_=>?_) λ_=>?_
 .cases b with
  |d s=>exact Tt.p trivial
  |k s=>
   refine Qg (Qm6 l a d) λr=>Tt.b (P:=λb=>b=AD->0<=r.1.AZ/\r.1.AZ<(AI c.Ab:Int)) (Tt.c (λ_=>Tt.p nofun) λ_=>Tt.c (λ_=>Tt.p nofun) λh=>Tt.p λq=>?_) λb g=>Tt.c (λ_=>Tt.p trivial) λq=>?_
   .grind
   .obtain⟨f,j⟩:=g q;exact Qg (Tt.i f j).any λ_=>Tt.p trivial
theorem QlG(c:CB)(l:AA CI)(a:Int)(h:AI l<=16){e:Int}(he:Ev (λn=>HD n c) e):Tt (λn=>PA n c l a) λr=>AI r.2<=32:=by
 unfold PA;refine Qg (Tt.e he trivial) λe=>Tt.c (λ_=>Tt.p (by simp)) λ_=>Tt.b (rA l h) λR hR=>?_;refine Tt.b (P:=λ(a:AA Int)=>AI a<=16) (QP R (λ(a:AA Int) i=>(a,i)) (λi a=>AI a<=i) (by omega) (λi x a d f=>?_) (λa f=>?_) [] _ rfl (XT _)) λK1 h1=>Tt.b (J? l h) λA hA=>?_
 .unfold Tf;have:=d.lt';simp only[d.lt,Vp,d.ix,XJ,d.nx];exact Tt.b (qj a _ (by omega)) λm g=>Tt.p ⟨m,rfl,by omega⟩
 .unfold Tf;simp only[Y9,Vq];exact Tt.p ⟨_,rfl,by omega⟩
 refine Tt.b (P:=λ(a:AA Int)=>AI a<=32) (QP A (λ(a:AA Int) i=>(a,i)) (λi a=>AI a<=16+i) (by omega) (λi x a d f=>?_) (λa f=>?_) K1 _ rfl (by omega)) λK2 k=>?_
 .unfold TW;have:=d.lt';simp only[d.lt,Vp,d.ix,XJ,d.nx];exact Tt.b (qj a _ (by omega)) λm g=>Tt.p ⟨m,rfl,by omega⟩
 .unfold TW;simp only[Y9,Vq];exact Tt.p ⟨_,rfl,by omega⟩
 refine Tt.b (P:=λ(a:AA Int×AA CF)=>AI a.2<=32) (QP K2 (λ(a:AA Int×AA CF) i=>(a.1,a.2,i)) (λi a=>AI a.1<=i/\AI a.2<=i) (by omega) (λi x a d f=>?_) (λa f=>?_) ([],[]) _ rfl (by simp)) λb j=>Tt.p j
 .unfold UT;have:=d.lt';simp only[d.lt,Vp,d.ix,XJ,d.nx];refine Qg (Qlv c l x h) λr=>Qg (Tt.c (λ_=>Tt.p trivial) λ_=>Tt.p trivial) λb=>?_;refine Tt.b (P:=λ(m:AA Int×AA CF)=>AI m.1<=i+1/\AI m.2<=i+1) (Tt.c (λ_=>Tt.b (Tt.a (by simp;omega)) λm g=>Tt.b (Tt.a (by simp;omega)) λq k=>Tt.p (by grind)) λ_=>Tt.p (by grind)) λm g=>Tt.p ⟨m,rfl,g⟩
 .unfold UT;simp only[Y9,Vq];exact Tt.p ⟨_,rfl,by grind⟩
theorem Qm1(l:AA CF)(E:AI l<=32):Tt (λn=>Nv n l) λr=>AI r<=32:=by
 unfold Nv;refine Tt.b (P:=λ(a:AA CF)=>AI a<=32) (QP l (λ(a:AA CF) i=>(a,i)) (λi a=>AI a<=i) (by omega) (λi x a d k=>?_) (λa k=>?_) [] _ rfl (XT _)) λa d=>Tt.p d
 .unfold S1;have:=d.lt';simp only[d.lt,Vp,d.ix,XJ,d.nx];refine Tt.b (Tt.find a (by omega) λj y f=>Qg (Tt.o f.ix trivial) λy=>Qg (Tt.o d.ix trivial) λy=>Tt.p trivial) λj f=>?_;refine Tt.b (Tt.sl f.1 f.2 (Int.le_refl _)) λp t=>Tt.b (Tt.a (by simp;omega)) λz h=>?_;subst h;refine Tt.b (Tt.sl (Int.le_refl 0) f.1 f.2) λB q=>Tt.b (Tt.a (by simp;omega)) λg m=>Tt.p ⟨g,rfl,?_⟩
  grind
 .unfold S1;simp only[Y9,Vq];exact Tt.p ⟨_,rfl,by omega⟩
theorem zS{c:CB}(F:CB.wf c)(R:IF c)(l:AA CI)(b:Int)(t:AI l<=16)(he:Ev (λn=>HD n c) 0):Tt (λn=>PW n c l b) λr=>AI r<=32:=by
 unfold PW;refine Tt.b (sz c l t he) λS hS=>Tt.c (λ_=>Tt.p (by simp)) λ_=>?_;refine Tt.b (P:=IE λ(r:AA CF)=>AI r<=32) (QP S.1 (λ(_:Unit) i=>i) (λ_ _=>True) (by omega) (λi x _ ha _=>?_) (λ_ _=>?_) () _ rfl trivial) λr f=>?_
 .unfold Su;simp only[ha.lt,Vp,ha.ix,XJ,ha.nx];refine Tt.b (P:=IE λ(r:CG Int (CG Unit (AA CF)))=>match r with|.d (.d p)=>AI p<=32|_=>False) (Tt.c (λ_=>Tt.p trivial) λ_=>?_) λr f=>?_
  .refine Tt.b (QlG c l b t he) λC hC=>Tt.b (Qm1 C.2 hC) λp k=>?_;obtain⟨G,J⟩:=hS.2 x ha.mem;refine Qg (Qng F R he _) λ_=>Qg (Tt.i G J).any λd=>Qg (Tt.c (λ_=>Tt.p trivial) λ_=>Tt.p trivial) λroom=>?_
   .refine Tt.b (P:=λ(p:AA CF)=>AI p<=32) (Tt.l (λs:AA CF×Int×Int=>AI s.1=AI p/\0<=s.2.2/\s.2.2<=(AI p:Int)) (λs=>((AI p:Int)-s.2.2).toNat) (λs E=>?_) (p,room,0) ⟨rfl,Int.le_refl 0,by simp⟩) λp k=>Tt.p k;obtain⟨L,M,B⟩:=s;obtain⟨h,g,H⟩:=E;simp only at h g H;unfold d6;refine Tt.c (λq=>?_) λ_=>Tt.p (Q:=G7 _ _ _ _) (by show AI L<=32;omega);have q:=Vv q;simp only at q;have e:i64.wrap (B+1)=B+1:=Qt (by omega) (by omega);refine Qg (Tt.i g q).any λy=>Qg (Tt.i g q).any λz=>Tt.b (Tt.set g q) λm j=>Qg (Tt.i g (by rw[j.1];exact q)).any λw=>Tt.p (Q:=G7 _ _ _ _) ?_;show(_/\_/\_)/\_;simp only[e];exact⟨⟨j.1.trans h,by omega,by omega⟩,by omega⟩
  .cases r with
   |k s=>exact Tt.p ⟨(),rfl,trivial⟩
   |d s=>
    cases s with
    |k i=>exact absurd f (by simp)
    |d s=>
     cases s with
     |k u=>exact absurd f (by simp)
     |d p=>exact Tt.p (Q:=F6 _ _ _ _) f
 .unfold Su;simp only[Y9,Vq];exact Tt.p ⟨_,rfl,trivial⟩
 .cases r with
  |k s=>exact Tt.p (by simp)
  |d s=>exact Tt.p f
theorem zP(l:AA CF)(d:AI l<=1000):Tt (λn=>I_ n l) λ_=>True:=by
 unfold I_;refine Qg (QP l (λ(a:Int) i=>(a,i)) (λ_ _=>True) (by omega) (λi x a ha _=>?_) (λ_ _=>?_) 0 _ rfl trivial) λr=>Tt.p trivial
 .unfold Lc;simp only[ha.lt,Vp,ha.ix,XJ,ha.nx];exact Tt.p ⟨_,rfl,trivial⟩
 simp_all[Lc,Tt.p]
structure MY (c:CB):Prop where
 wf:CB.wf c
 few:F7 c
 ty:Ev (λn=>F0 n c) 0
 cE:CP c=0
 good:Fd c
structure Km (c:CB):Prop where
 wf:CB.wf c
 few:F7 c
 ty:Ev (λn=>F0 n c) (CP c)
 ref:Ev (λn=>HD n c) 0
 rr:IF c
theorem Km.r{c:CB}(h:Km c)(e:CP c=0):MY c:=⟨h.wf,h.few,e▸h.ty,e,l? (Y0 h.wf) (Jt h.wf) e⟩
theorem O?{c:CB}(h:Km c){k:CE}(t:Ff k)(s:AP)(e:Int)(x:AA CN)(l:AA Ae):Tt (λn=>PK n c k s e x l) λr=>r=AE->AI x<=4/\AI l<=6:=by
 unfold PK;obtain⟨b,m,_⟩:=qa c h.wf;obtain⟨z,y,_⟩:=Qod k t;have rr:=QlB h.wf h.rr h.ref s.AN e;refine Tt.b (P:=λq=>q=AD->AI x<=4/\AI l<=6) (Qg (Tt.e m trivial) λ_=>Tt.c (λ_=>Tt.p nofun) λ_=>Tt.c (λ_=>Tt.p nofun) λ_=>Qg (Tt.e y trivial) λ_=>Tt.c (λ_=>Tt.p nofun) λ_=>Tt.c (λ_=>Tt.p nofun) λj=>Tt.p λf=>?_) λq d=>Tt.c (λ_=>Tt.p nofun) λg=>?_
 .have j:=Vw j;have f:=Vw f;exact⟨by omega,by omega⟩
 exact Qg (Tt.c (λ_=>Tt.p trivial) λ_=>Tt.p trivial) λ_=>Tt.c (λ_=>Tt.p λ_=>d g) λ_=>Qg rr λ_=>Qg (Tt.c (λ_=>Tt.p trivial) λ_=>Tt.p trivial) λ_=>Tt.p λ_=>d g
abbrev tj:=AA CC×AA (AA Int)×Int×Int×Int×Int×Int×Int×Int×Int×AA CN×AA Ae×AA CF×Bool
def iD(c:CB)(r:tj):Prop:=r.2.2.2.2.2.2.2.2.2.2.2.2.2=AE->
 Km c/\Ff {AS:=r.1,BN:=r.2.1}/\AI r.2.2.2.2.2.2.2.2.2.2.1<=4/\AI r.2.2.2.2.2.2.2.2.2.2.2.1<=6/\AI r.2.2.2.2.2.2.2.2.2.2.2.2.1<=32
theorem R?(c:CB)(k:CB.wf c)(l:AA CI)(b:Int):Tt (λn=>OJ n c l b) (iD c):=by
 unfold OJ;obtain⟨bf,N,E⟩:=qa c k;have AF:∀{z},iD c ([],[],0,0,0,0,0,0,0,0,[],[],z,AD):=λh=>absurd h (by simp);refine Tt.b (P:=λb=>b=AD->Km c/\AI l<=16) (Tt.b (P:=λb=>b=AE->F7 c/\Ev (λn=>F0 n c) (CP c)) (Tt.e N E) λb t=>Tt.c (λ_=>Tt.p nofun) λY=>Tt.c (λ_=>Tt.p nofun) λJ=>?_) λb t=>Tt.c (λ_=>Tt.p AF) λG=>?_
 .obtain⟨fo,L⟩:=t (by simpa using Y);obtain⟨v,ev,O⟩:=Qjt c k;refine Tt.b (P:=λe=>e=v) (Tt.e ev rfl) λe W=>Tt.c (λ_=>Tt.p nofun) λX=>?_;have y:v=0:=by rw[<- W];simpa[bne]using X
  have R:=O y;have:=Vw J;exact Qg (P? k R 10) λ_=>Tt.p λ_=>⟨⟨k,fo,L,y▸ev,R⟩,by omega⟩
 obtain⟨h,g⟩:=t G;refine Tt.b (H? c l g h.ref) λA hA=>Tt.b (sz c l g h.ref) λS hS=>Qg (Tt.c (λ_=>Tt.p trivial) λ_=>Tt.p trivial) λ_=>Tt.c (λ_=>Tt.p AF) λ_=>?_;refine Tt.b (P:=IE (iD c)) (QP S.1 (λ(_:Unit) i=>i) (λ_ _=>True) (by omega) (λi x _ d _=>?_) (λ_ _=>?_) () _ rfl trivial) λr j=>?_
 .unfold Tz;simp only[d.lt,Vp,d.ix,XJ,d.nx];refine Tt.b (P:=IE λ(r:CG Int (CG Unit tj))=>match r with|.d (.d p)=>iD c p|_=>False) (Tt.c (λ_=>Tt.p trivial) λ_=>?_) λr j=>?_
  .refine Tt.b (zQ c l x.BA g h.ref) λH hH=>Tt.b (zS h.wf h.rr l _ g h.ref) λP hP=>Tt.b (RM l g) λC hC=>?_;refine Tt.b (P:=λ(a:AA Ae)=>True) (QP C (λ(a:AA Ae) i=>(a,i)) (λi a=>AI a<=i) (by omega) (λi x a d F=>?_) (λa F=>?_) [] _ rfl (XT _)) λD _=>Qg (zP P (by omega)) λe=>Tt.b (O? h hA x e H D) λf M=>Tt.p ?_
   .unfold Tk;have:=d.lt';simp only[d.lt,Vp,d.ix,XJ,d.nx];exact Qg (Tt.c (λ_=>Tt.p trivial) λ_=>Tt.p trivial) λ_=>Tt.b (P:=λ(m:AA Ae)=>AI m<=i+1) (Tt.c (λ_=>Tt.b (Tt.a (by simp;omega)) λm q=>Tt.p (by subst q;simp;omega)) λ_=>Tt.p (by omega)) λm q=>Tt.p ⟨m,rfl,q⟩
   .unfold Tk;simp only[Y9,Vq];exact Tt.p ⟨_,rfl,trivial⟩
   .intro B;obtain⟨T,V⟩:=M B;exact⟨h,hA,T,V,hP⟩
  .cases r with
   |k s=>exact Tt.p ⟨(),rfl,trivial⟩
   |d s=>
    cases s with
    |k i=>exact absurd j (by simp)
    |d s=>
     cases s with
     |k u=>exact absurd j (by simp)
     |d p=>exact Tt.p (Q:=F6 _ _ _ _) j
 .unfold Tz;simp only[Y9,Vq];exact Tt.p ⟨_,rfl,trivial⟩
 .cases r with
  |k s=>exact Tt.p AF
  |d s=>exact Tt.p j
section
variable {α β:Type}
theorem rh{l:AA α}[DecidableEq (AA α)](d:AI l<=1048576):isNil l (AC ([]:AA α)) ((app ([]:AA α) l).bind λx=>AC x)=AC l:=by
 have:app [] l=AC l:=by rw[pX _ _ (by simp;omega)];rfl
 unfold isNil
 grind
theorem QoV{F:Nat->α->α->AB β}{V:α->α->β}(l:AA α)(h:∀x∈l,∀y∈l,Ev (λn=>F n x y) (V x y)):∃N,∀n,N<=n->∀x∈l,∀y∈l,F n x y=AC (V x y):=by
 obtain⟨N,d⟩:=mI (F:=λn p=>F n p.1 p.2) (V:=λp=>V p.1 p.2) (l.flatMap λx=>l.map λy=>(x,y)) (by
  grind)
 exact⟨N,λn f x g y j=>d n f (x,y) (by grind)⟩
def Ps(c:α->α->Int)(x y:α):Bool:=AG (c x y<0)
theorem pO{c:α->α->Int}(d:DT c)(l:AA α):NO (Ps c) l:=by
 refine⟨λx _=>?_,λx _ y _ z _ g f=>?_,λx _ y _ z _ g f=>?_⟩
 .have:=d.refl x;exact Vx (by omega)
 .have g:=Vv g;have f:=Vv f;exact Vu (d.trans x y z g f)
 .have g:=Vw g;have f:=Vw f;refine Vx λh=>?_;have a:=d.swap x y;have b:=d.swap y z;by_cases e:c x y=0
  .rw[d.eqt x y z e]at h;exact f h
  .by_cases j:c y z=0
   .rw[<- d.eqr x j]at h;exact g h
   .have k:=d.trans z y x (by omega) (by omega);have:=d.swap x z;omega
theorem oi[DecidableEq α]{j:Nat->α->α->AB Int}{l:AA α}{c:α->α->Int}(J:AI l<=1048576)(F:∀x∈l,∀y∈l,Ev (λn=>j n x y) (c x y))(d:DT c)(B:∀x∈l,∀y∈l,c x y=0->x=y):
  Ev (λn=>LV (j n) l) (Ky (Ps c) l):=by
 obtain⟨N,H⟩:=QoV l F;refine⟨N,λn E=>?_⟩;have h:=H n E;have t:=Qnr (XR (j? J)) c h (λx _=>by have:=d.refl x;omega) (λx _ y _ z _=>d.trans x y z) (λx g y f z G q k=>by
   have:=(pO d l).ntrans x g y f z G (Vx q) (Vx k);exact Vw this) (λx g y f q k=>B x g y f (by have:=d.swap x y;omega))
 show LV (j n) l=AC (Ky (Ps c) l);rw[t];congr 1;obtain⟨_,_,L,_,_⟩:=lQ t;have m:∀x∈l,∀y∈l,G5 (j n) x y=Ps c x y:=λx g y f=>by unfold G5 Ps;grind
 refine mA ((YN _ l).trans (YN _ l).symm) (λx g y f q k=>?_) ?_ (iA (pO d l))
 .grind[YN]
 grind[List.Pairwise.imp_of_mem,iA,YN]
end
def C9:AA Int->AA Int->Int
 |[],[]=>0
 |[],_::_=> -1
 |_::_,[]=>1
 |x::a,y::b=>bif C1 x y != 0 then C1 x y else C9 a b
theorem u?(a b:AA Int)(G:AI a<=1048576)(H:AI b<=1048576):Ev (λn=>Ny n a b) (C9 a b):=by
 unfold Ny;have h:∀(r:AA Int) (i:Nat),a.drop i=r->i<=AI a->i<=AI b->∃d:CG Unit Int,DW (λn=>KN n a b) (i:Int) d/\(match d with|.k _=>(bif (AI a:Int)<(AI b:Int) then(-1:Int)else 0)|.d v=>v)=C9 r (b.drop i):=by
  intro r
  induction r with
  |nil=>
   intro i j B k;refine⟨.k (),Ej ?_,?_⟩
   .unfold KN;simp only[Yt j B,Vq];exact Qb _
   .have f:i=AI a:=by have:=Xq.1 j;omega
    cases q:b.drop i with
    |nil=>
     simp_all[Yp,C9]
    |cons y s=>
     have:i<AI b:=by
      grind
     simp_all[C9]
  |cons x r F=>
   intro i j B k;obtain⟨f,E⟩:=QG (by omega) j;by_cases t:AI b<=i
   .refine⟨.d 1,Ej ?_,?_⟩
    .unfold KN;simp only[f.lt,Vp,f.ix,XJ,Yj (show(AI b:Int)<=(i:Int)by omega)];exact Qb _
    .rw[List.drop_of_length_le t];rfl
   .have g:i<AI b:=by omega
    rw[Xp g];cases q:(C1 x b[i] != 0)with
    |true=>
     refine⟨.d (C1 x b[i]),Ej ?_,?_⟩
     .unfold KN;simp only[f.lt,Vp,f.ix,XJ,Yp (show¬(AI b:Int)<=(i:Int)by omega),Vq,QB (XK g)];refine Ea (ST _ _) ?_;rw[q];exact Qb _
     .simp only[C9,q,Vp]
    |false=>
     obtain⟨d,m,z⟩:=F (i+1) E (by have:=f.lt';omega) (by omega);refine⟨d,Ex ?_ m,?_⟩
     .unfold KN;simp only[f.lt,Vp,f.ix,XJ,Yp (show¬(AI b:Int)<=(i:Int)by omega),Vq,QB (XK g),f.nx];refine Ea (ST _ _) ?_;rw[q];exact Qb _
     simp_all[C9]
 obtain⟨d,m,z⟩:=h a 0 rfl (XU _) (XU _);rw[List.drop_zero]at z;refine Ea m.ev ?_;rw[<- z];cases d with
 |d v=>exact Qb _
 |k _=>exact JN (λ_=>Qb _) (λ_=>Qb _)
theorem Qov(a b:Int):C1 a b<0↔a<b:=by
 grind[C1]
theorem gS(a b:Int):(C1 a b != 0)=(a != b):=by
 grind[C1]
theorem _V(x y:Int)(a b:AA Int):C9 (x::a) (y::b)<0↔x<y\/x=y/\C9 a b<0:=by
 rw[show C9 (x::a) (y::b)=bif C1 x y != 0 then C1 x y else C9 a b from rfl,gS];by_cases e:x=y
 .subst e;simp
 .have:(x != y)=true:=by grind
  rw[this,Vp,Qov];omega
theorem sJ:∀a b c:AA Int,C9 a b<0->C9 b c<0->C9 a c<0
 |[],[],c,h,_=>by omega
 |[],y::b,[],_,h=>by simp[C9]at h
 |[],y::b,z::c,_,_=>by simp[C9]
 |x::a,[],c,h,_=>by simp[C9]at h
 |x::a,y::b,[],_,h=>by simp[C9]at h
 |x::a,y::b,z::c,h1,h2=>by
  rw[_V]at h1 h2⊢;rcases h1 with h1|⟨e1,h1⟩<;>rcases h2 with h2|⟨e2,h2⟩
  iterate 3 left;omega
  .exact .inr ⟨by omega,sJ a b c h1 h2⟩
theorem _J{α:Type}[DecidableEq α](l m:AA α)(step:Nat->Int->AB (CG Int (CG Unit Bool)))(F:AI l<=4611686018427387904)
  (q:∀n s,step n s=(bif s<(AI l:Int) then(CJ l s).bind λx=>(CJ m s).bind λy=>(bif (x != y)then AC (.d (.d AD))else AC (.k (i64.wrap (s+1))))else AC (.d (.k ())))):
  Ev (λn=>(bif ((AI l:Int) != (AI m:Int))then AC AD else(Go.Sw.iter (step n) n 0:AB (CG Unit Bool)).bind λb11=>match b11 with|.k sb11=>(AC AE)|.d sb11=>AC sb11)) (AG (l=m)):=by
 by_cases h:AI l=AI m
 .rw[show(AI l != (AI m:Int))=AD by grind];have loop:∀(r f:AA α) (i:Nat),l.drop i=r->m.drop i=f->i<=AI l->DW step i (bif r=f then CG.k ()else CG.d AD):=by
   intro r
   induction r with
   |nil=>
    grind[DW.done,Qb,Yt]
   |cons x r B=>
    intro f i E j G;obtain⟨d,k⟩:=QG F E;have z:=d.lt';cases f with
    |nil=>
     have h1:=Xq.1 j;omega
    |cons y f=>
     obtain⟨t,g⟩:=QG (by omega) j;by_cases e:x=y
     .subst e;refine Ex ?_ ((B f (i+1) k g (by omega)).eq ?_)
      .refine Ev.congr (Qb _) λn=>?_;rw[q,d.lt,d.ix,t.ix,Vp,XJ,XJ,d.nx];simp
      .simp
     .refine Ej (Ev.congr (Qb _) λn=>?_);rw[q,d.lt,d.ix,t.ix,Vp,XJ,XJ,bne_iff_ne.2 e];simp[e]
  refine Ea (loop l m 0 rfl rfl (XU _)).ev ?_;cases AG (l=m)<;>exact Qb _
 .rw[show(AI l != (AI m:Int))=AE by rw[bne_iff_ne];omega];refine(Qb _).eq ?_;rw[Yp λe=>h (by rw[e])]
def FP:CD:={BQ:=AE,Bh:=(-1),Lo:=0,Hi:=0:CD}
def IP(o:CD):Bool:= !(o.BQ||AG (o.Hi<o.Lo))
def Id(x y:CD):Int:=Hq [C1 x.Bh y.Bh,C1 x.Lo y.Lo,C1 x.Hi y.Hi]
theorem qZ:Id=λx y=>bif C1 x.Bh y.Bh != 0 then C1 x.Bh y.Bh else bif C1 x.Lo y.Lo != 0 then C1 x.Lo y.Lo else C1 x.Hi y.Hi:=by
 funext x y
 unfold Id Hq Hq Hq Hq
 grind
theorem _W:DT Id:=by
 rw[qZ];exact(Fy.on λx:CD=>x.Bh).lex ((Fy.on λx:CD=>x.Lo).lex (Fy.on λx:CD=>x.Hi))
theorem Qmj{x y:CD}(h:Id x y=0):x.Bh=y.Bh/\x.Lo=y.Lo/\x.Hi=y.Hi:=by
 rw[qZ]at h;simp only at h;cases f:(C1 x.Bh y.Bh != 0)with
 |true=>
  grind
 |false=>
  rw[f,Vq]at h;cases d:(C1 x.Lo y.Lo != 0)with
  |true=>
   grind
  |false=>
   rw[d,Vq]at h;exact⟨fW.1 (by grind),fW.1 (by grind),fW.1 h⟩
def IZ(a b:CD):Bool:=(a.Bh==b.Bh)&&(AG (b.Lo<=a.Hi)||(i64.wrap (b.Lo-1)==a.Hi))
def fJ(a b:CD):CD:={a with Hi:=if a.Hi<b.Hi then b.Hi else a.Hi:CD}
def D_:CD->AA CD->AA CD
 |a,[]=>[a]
 |a,b::r=>bif IZ a b then D_ (fJ a b) r else a::D_ b r
def IB:AA CD->AA CD
 |[]=>[]
 |a::r=>D_ a r
def Dt(l:AA CD):AA CD:=bif l.any (·.BQ)then[FP]else[]
def H5(l:AA CD):AA CD:=Ky (Ps Id) (l.filter IP)
def Dv(l:AA CD):AA CD:=Dt l++IB (H5 l)
theorem E?{α:Type}(P R:AA α)(x y:α):JG (P++x::R) (AI P:Int) y=AC (P++y::R):=by
 rw[p_ _ _ (by simp)];simp
theorem pM{α:Type}(P R:AA α)(x:α):CJ (P++x::R) (AI P:Int)=AC x:=QB (by simp)
theorem Qoa(P:AA CD)(a b:CD)(d:AI P<=1000):Ev (λn=>L5 n b (AI P:Int) (P++[a])) (bif IZ a b then((AI P:Int),P++[fJ a b])else((AI (P++[a]):Int),(P++[a])++[b])):=by
 unfold L5;refine Ea (v:=IZ a b) ?_ ?_
 .simp_all[pM,IZ,Ei,QN,Qb]
 .cases IZ a b with
  |true=>
   simp only[Vp,pM,XJ,E?];exact Qb _
  |false=>
   simp only[Vq];rw[kS _ _ (by simp;omega)];simp only[XJ];refine(Qb _).eq ?_;rw[Qt (by omega) (by grind)]
   grind
theorem lD(S:AA CD)(hS:AI S<=900):∀(r:AA CD) (i:Nat) (P:AA CD) (a:CD),S.drop i=r->i<=AI S->AI P<=i+1->DW (λn=>Iu n S) (P++[a],(AI P:Int),(i:Int)) (P++D_ a r)
 |[],i,P,a,hr,hi,hp=>by
  refine Ej ?_;unfold Iu;simp only[Yt hr hi,Vq,D_];exact Qb _
 |b::r,i,P,a,hr,hi,hp=>by
  obtain⟨ha,hr'⟩:=QG (by omega) hr;have hlt:=ha.lt';have h1:=Qoa P a b (by omega);unfold D_;cases q:IZ a b with
  |true=>
   rw[q]at h1;refine Ex ?_ (lD S hS r (i+1) P (fJ a b) hr' (by omega) (by omega));unfold Iu;simp only[ha.lt,Vp,ha.ix,XJ,ha.nx];exact Ea h1 (Qb _)
  |false=>
   rw[q]at h1;have ih:=lD S hS r (i+1) (P++[a]) b hr' (by omega) (by simp;omega);refine(Ex ?_ ih).eq (by simp);unfold Iu;simp only[ha.lt,Vp,ha.ix,XJ,ha.nx];exact Ea h1 (Qb _)
theorem Qmc(l:AA CD)(m:AI l<=1048576):Ev (λn=>O4 n l) (l.any (·.BQ)):=by
 unfold O4 VQ;refine Ea (Ev.first l (λo=>o.BQ) (by omega) (λi x d=>?_) ?_) ?_
 .unfold TR U8;simp only[d.lt,Vp,d.ix,XJ,d.nx];cases x.BQ<;>exact Qb _
 .simp_all[TR,Qb]
 .refine(Qb _).eq ?_;rcases dX (λo:CD=>o.BQ) l 0 with⟨g,f⟩|⟨j,x,g,f,h,k⟩
  .grind
  grind
theorem x?(l:AA CD)(z:AI l<=1048576):Ev (λn=>OT n l) (l.filter IP):=by
 have k:∀x:CD,Ev (λn=>L2 n x) (!IP x):=λx=>by
  simp_all[L2,IP,QN,Qb]
 unfold OT U5;refine Ew (QmN l (λg=> !IP g) z (Ev.first l _ (by omega) (λi x d=>?_) ?_) (λh i j x y m d f B q=>?_) λh i=>?_) (by simp)
 .unfold TI;simp only[d.lt,Vp,d.ix,XJ,d.nx];refine Ea (k x) ?_;cases IP x<;>exact Qb _
 .simp_all[TI,Qb]
 .have t:=(XL.1 f).1;unfold US;simp only[d.lt,Vp,d.ix,XJ,d.nx];refine Ea (k x) ?_;cases IP x with
  |false=>exact Qb _
  |true=>
   simp only[Xg,Xh,Vp,Vq,QB f,p_ h x t,XJ,YS (show i<9223372036854775807 by omega)];exact Qb _
 simp_all[US,Qb]
theorem v?(x y:CD):Ev (λn=>PN n x y) (Id x y):=by
 unfold PN;exact Ea (ST _ _) (Ea (ST _ _) (Ea (ST _ _) (Ea (nt _ (by simp)) (Qb _))))
theorem jp{x:CD}(h:IP x=AE):x.BQ=AD/\x.Lo<=x.Hi:=by
 grind[IP]
theorem oy(l:AA CD):AI (H5 l)<=AI l:=by
 unfold H5;rw[(YN _ _).length_eq]
 grind
theorem zr{x y:CD}(f:IP x=AE)(d:IP y=AE)(h:Id x y=0):x=y:=by
 obtain⟨a,b,c⟩:=Qmj h;have g:=(jp f).1;have n:=(jp d).1;obtain⟨z,q,m,j⟩:=x;obtain⟨k,B,yl,t⟩:=y
 grind
theorem pC(l:AA CD)(F:AI l<=900):Ev (λn=>I5 n l) (Dv l):=by
 unfold I5 Dv;refine Ea (Qmc l (by omega)) (Ea (v:=Dt l) ?_ ?_)
 .unfold Dt K6;cases l.any (·.BQ)with
  |false=>exact Qb _
  |true=>exact Qb _
 refine Ea (v:=l) ?_ (Ea (x? l (by omega)) ?_)
 .unfold WS;exact EB (rh (by omega))
 have t:=List.length_filter_le IP l;refine Ea (v:=H5 l) (oi (by omega) (λx _ y _=>v? x y) _W λx E y z h=>zr (by grind) (by grind) h) ?_;have k:=oy l;generalize H5 l=S at k;refine Ea (v:=Dt l++IB S) ?_ (Qb _);have m:AI (Dt l)<=1:=by
  grind[Dt]
 generalize Dt l=B at m;cases S with
 |nil=>
  refine(Ej ?_).ev
  grind[Iu,Qb,IB]
 |cons a r=>
  have d:At (a::r) 0 a:=Y3 (by omega) rfl;refine(Ex (s':=(B++[a],(AI B:Int),((1:Nat):Int))) ?_ (lD (a::r) (by omega) r 1 B a rfl (by simp) (by omega))).ev;unfold Iu;have q:((0:Nat):Int)=0:=rfl;have j:=d.lt;have g:=d.ix;have f:=d.nx;rw[q]at j g f;simp only[j,g,f,Vp,XJ];refine Ea (v:=((AI B:Int),B++[a])) ?_ (Qb _);unfold L5;refine Ea (v:=AD) (Qb _) (QY ?_)
  grind[kS,Qb,Qt]
theorem lj:∀(r:AA CD) (a:CD),AI (D_ a r)<=AI r+1
 |[],a=>by simp[D_]
 |b::r,a=>by
  unfold D_;cases IZ a b with
  |true=>have:=lj r (fJ a b);grind
  |false=>have:=lj r b;grind
theorem QmW(l:AA CD):AI (Dv l)<=AI l+1:=by
 have d:=oy l;unfold Dv;rw[X3];have m:AI (Dt l)<=1:=by unfold Dt;cases l.any (·.BQ)<;>simp
 cases q:H5 l with
 |nil=>simp only[IB,List.length_nil];omega
 |cons a r=>
  rw[q]at d;have:=lj r a;have j:IB (a::r)=D_ a r:=rfl;rw[j];simp only[X0]at d;by_cases z:l.any (·.BQ)=AE
  ·
   have k:AI (l.filter IP)<AI l:=by
    obtain⟨x,g,f⟩:=Xt.1 z;rcases VB (AI (l.filter IP)) (AI l) with h|h
    .exact h
    .have e:=List.filter_eq_self.1 (List.Sublist.eq_of_length List.filter_sublist (Nat.le_antisymm (List.length_filter_le ..) h)) x g;rw[(jp e).1]at f;cases f
   have e:AI (a::r)=AI (l.filter IP):=by rw[<- q];unfold H5;exact(YN _ _).length_eq
   simp only[X0]at e;omega
  .have:Dt l=[]:=by unfold Dt;rw[Bool.not_eq_true]at z;rw[z];rfl
   rw[this,List.length_nil];omega
theorem rW(l m:AA CD)(hl:AI l<=1048576):Ev (λn=>L6 n l m) (AG (l=m)):=_J l m (λn=>d5 n l m) (by omega) λn s=>rfl
set_option maxRecDepth 10000
def Hz:AA (Int×Int)->Int
 |[]=>0
 |e::l=>e.2+Hz l
theorem oz:∀(l m:AA (Int×Int)),Hz (l++m)=Hz l+Hz m
 |[],m=>by simp[Hz]
 |e::l,m=>by simp only[VK,Hz,oz l m];omega
theorem QlV{l:AA (Int×Int)}{k:Int}(h:k∉l.map (·.1)):Qo l k 0=0:=by
 unfold Qo
 induction l with
 |nil=>rfl
 |cons e l d=>
  simp only[Vk,X7,not_or]at h;rw[Y6,Vs (λq=>h.1 q.symm)];exact d h.2
theorem kH{l:AA (Int×Int)}{k:Int}(h:k∈l.map (·.1)):(k,Qo l k 0)∈l:=by
 unfold Qo
 induction l with
 |nil=>simp at h
 |cons e l d=>
  rw[Y6]
  grind
theorem ZA{l:AA (Int×Int)}{k:Int}(h:k∈l.map (·.1))(v:Int):QJ l k v=l.map λp=>bif p.1=k then(p.1,v)else p:=by
 unfold QJ
 grind
theorem QnF{l:AA (Int×Int)}{k:Int}(h:k∉l.map (·.1))(v:Int):QJ l k v=l++[(k,v)]:=by
 unfold QJ
 grind
theorem dL{l:AA (Int×Int)}{k:Int}(h:k∈l.map (·.1))(v:Int):(QJ l k v).map (·.1)=l.map (·.1):=by
 rw[ZA h,List.map_map];refine List.map_congr_left λe _=>?_
 grind
theorem pS{l:AA (Int×Int)}{k:Int}(h:k∈l.map (·.1))(v:Int):AI (QJ l k v)=AI l:=by
 rw[ZA h,X2]
theorem pp{l:AA (Int×Int)}{k:Int}(h:k∈l.map (·.1))(v:Int):∀e∈QJ l k v,e.2=v\/e∈l:=by
 intro e d;rw[ZA h]at d
 grind
theorem pP{l:AA (Int×Int)}{k v:Int}(h:k∉l.map (·.1)):(l.map λp=>bif p.1=k then(p.1,v)else p)=l:=by
 induction l with
 |nil=>rfl
 |cons e l d=>
  grind
theorem pq{l:AA (Int×Int)}{k:Int}(nd:(l.map (·.1)).Nodup)(h:k∈l.map (·.1))(v:Int):Hz (QJ l k v)=Hz l+v-Qo l k 0:=by
 rw[ZA h];unfold Qo
 induction l with
 |nil=>simp at h
 |cons e l f=>
  simp only[Vk,List.nodup_cons]at nd;rw[Y6,Vk];by_cases q:e.1=k
  .subst q;rw[pP nd.1,Yj rfl,Vt rfl]
   grind[Hz]
  .have d:k∈l.map (·.1):=by
    grind
   have:=f nd.2 d;rw[Vs q,Yp q]
   grind[Hz]
theorem QlU{l:AA (Int×Int)}{k:Int}(nd:(l.map (·.1)).Nodup)(h:k∈l.map (·.1))(v:Int):QJ (QJ l k v) k (Qo l k 0)=l:=by
 rw[ZA (by rw[dL h];exact h),ZA h];unfold Qo
 induction l with
 |nil=>rfl
 |cons e l f=>
  simp only[Vk,List.nodup_cons]at nd;rw[Y6,Vk,Vk];by_cases q:e.1=k
  .subst q
   simp_all[pP]
  .have d:k∈l.map (·.1):=by
    grind
   simp_all
theorem o?{l:AA Int}{x:Int}(h:x∈l):Rn l x=true:=by
 grind[Rn,dX]
theorem kX(W:CX)(U:AA Bool)(d:∀h:Nat,U[h]?=AC AE->Rn W.BJ (h:Int)=AE)(f:AI U<=1000):∀(H:AA CN) (i:Nat) (a:Int),i+AI H=AI U->0<=a->a<=(i:Int)->KB W H i a<=a+((U.drop i).count AD:Int)
 |[],i,a,h,_,_=>by
  show a<=a+_;omega
 |y::H,i,a,h,h0,h1=>by
  simp only[X0]at h;have hi:i<AI U:=by omega
  rw[Xp hi,List.count_cons];show KB W H (i+1) _<=_;cases q:Rn W.BJ (i:Int)with
  |true=>
   have:=kX W U d f H (i+1) a (by omega) h0 (by omega);simp only[Xg,Vq];omega
  |false=>
   have g:U[i]=false:=by
    cases z:U[i]with
    |false=>rfl
    |true=>
     have:=d i (by rw[XK hi,z]);rw[q]at this;cases this
   have w:i64.wrap (a+1)=a+1:=Qt (by omega) (by omega);have:=kX W U d f H (i+1) (a+1) (by omega) (by omega) (by omega);simp only[Xh,Vp,w,g];simp only[beq_self_eq_true,if_true];omega
theorem pI(f:Int×Int->Int):∀(l:AA (Int×Int)) (s:Int),(∀e∈l,e.2<=f e/\0<=f e/\f e<=100000)->0<=s->s+100000*(AI l:Int)<=1000000000000->s+Hz l<=l.foldl (λs e=>i64.wrap (s+f e)) s
 |[],s,_,_,_=>by show s+0<=s;omega
 |e::l,s,h,h0,hb=>by
  obtain⟨a,b,c⟩:=h e (X5 ..);simp only[X0]at hb;have w:i64.wrap (s+f e)=s+f e:=Qt (by omega) (by omega);have:=pI f l (s+f e) (by grind) (by omega) (by omega)
  grind[Hz]
set_option maxRecDepth 10000
theorem qg(n:Int):i64.wrap n=if n%18446744073709551616≥9223372036854775808 then n%18446744073709551616-18446744073709551616 else n%18446744073709551616:=by
 simp_all[IntKind.wrap,IntKind.bits,IntKind.signed]
theorem Qll(z a b:Int):i64.wrap (i64.wrap (z+a)+b)=i64.wrap (i64.wrap (z+b)+a):=by
 simp only[qg];omega
theorem _f(f:Int×Int->Int)(l:AA (Int×Int)):anyP (λp=>(LO (λ(s:Int) (e:Int×Int)=>AC (CG.k (i64.wrap (s+f e)))) (λs=>AC s) 0 p).bind λb=>AC b) l=AC (l.foldl (λs e=>i64.wrap (s+f e)) 0):=by
 have run:∀(p:AA (Int×Int)) (s:Int),LO (B:=Int) (λ(s:Int) (e:Int×Int)=>AC (CG.k (i64.wrap (s+f e)))) (λs=>AC s) s p=AC (p.foldl (λs e=>i64.wrap (s+f e)) s):=by
  intro p
  induction p with
  |nil=>intro s;rfl
  |cons e p d=>intro s;exact d _
 unfold anyP;have:(Kz l).all (λp=>AG (((LO (B:=Int) (λ(s:Int) (e:Int×Int)=>AC (CG.k (i64.wrap (s+f e)))) (λs=>AC s) 0 p).bind λb=>AC b)=((LO (B:=Int) (λ(s:Int) (e:Int×Int)=>AC (CG.k (i64.wrap (s+f e)))) (λs=>AC s) 0 l).bind λb=>AC b)))=true:=by
  rw[Xs];intro p g;rw[run,run,Vr];exact congrArg AC ((g_ l p g).foldl_eq' (λx _ y _ z=>Qll z (f x) (f y)) 0)
 rw[this];simp only[Vp];rw[run];rfl
def K_(F M:AA (Int×Int)):Int:=F.foldl (λs e=>i64.wrap (s+(if 0<i64.wrap (e.2-Qo M e.1 0)then i64.wrap (e.2-Qo M e.1 0)else 0))) 0
theorem sM(F M:AA (Int×Int)):Ev (λn=>PQ n F M) (K_ F M):=
 EB (o:=PQ 0 F M) (_f (λe=>if 0<i64.wrap (e.2-Qo M e.1 0)then i64.wrap (e.2-Qo M e.1 0)else 0) F)
theorem qB(t:Cp)(s:Uh)(p h:Int)(d:0<=s.row):(C_ t s p h).1.row<=s.row+1:=by
 unfold C_
 grind
theorem fx{α:Type}{l:AA α}{i:Int}{x:α}(d:0<=i)(f:i<(AI l:Int)):Tt (λ_=>JG l i x) (λm=>m=l.set i.toNat x):=by
 simp_all[Tt.o,JG]
def WL(t:Cp)(L:AA CX):Prop:=AI L<=65/\ ∀w∈L,AI w.BJ=AI t.r/\(-1<=w.A9/\w.A9<=300)/\FS t w=AE
abbrev ja:=AA CX×AA Int×AA (Int×Int)×AA Bool×AA (Int×Int)
def SR(t:Cp)(W:AA Int)(U:AA Bool)(M F:AA (Int×Int))(r:ja):Prop:=WL t r.1/\r.2.1=W/\r.2.2.2.1=U/\r.2.2.2.2=F/\ ∀m,Qo r.2.2.1 m 0=Qo M m 0
structure Sv (t:Cp) (p:Nat) (en:Bool) (la:Int) (s:Uh) (W:List Int) (U:List Bool) (M F:List (Int×Int)):Prop where
 st:KG t s
 row:s.row<=(p:Int)
 wl:AI W=AI t.r
 ul:AI U=AI t.H
 tail:∀j,p<=j->j<AI t.r->W[j]?=AC (-1)
 used:∀h:Nat,U[h]?=AC AE->(h:Int)∈W
 cnt:∀m,Qo M m 0=((t.r.drop p).count m:Int)
 nd:(F.map (·.1)).Nodup
 fl:AI F<=1000
 fb:∀e∈F,-(p:Int)<=e.2/\e.2<=1000
 sum:Hz F=(U.count AD:Int)
 key:∀h∈t.H,h.Am∈F.map (·.1)
 l0: -1<=la
 l1:la<(p:Int)
 l2:en=AD->la=(p:Int)-1
 pre:∃u,(∀h:Int,Qo u h AD=AE->0<=h/\U[h.toNat]?=AC AE)/\ ∀W':CX,AI W'.BJ=AI t.r->(∀j,j<p->W'.BJ[j]?=W[j]?)->(en=AE->W'.A9=la)->(en=AD->(p:Int)-1<=W'.A9)->
  admL t W' (W'.BJ.drop p) p u s=AE->admL t W' W'.BJ 0 [] RZ=AE
theorem gt{α:Type}{l:AA α}{p:Nat}{x:α}(h:l[p]?=AC x):l.drop p=x::l.drop (p+1):=by
 grind[List.drop_eq_getElem_cons]
theorem k_{t:Cp}{p:Nat}{x:Int}{M:AA (Int×Int)}(d:t.r[p]?=AC x)(f:AI t.r<=256)(h:∀m,Qo M m 0=((t.r.drop p).count m:Int))(m:Int):
  Qo (QJ M x (i64.wrap (Qo M x 0-1))) m 0=((t.r.drop (p+1)).count m:Int):=by
 have e:∀m,((t.r.drop p).count m:Int)=((t.r.drop (p+1)).count m:Int)+(if x=m then 1 else 0):=by
  intro m;rw[gt d,List.count_cons];by_cases q:x=m<;>simp[q]
 have g:(t.r.drop (p+1)).count x<=256:=XV List.count_le_length (by rw[List.length_drop];omega);rw[Y1];by_cases q:m=x
 .subst q;rw[Vt rfl,h,e,Vt rfl,Qt (by omega) (by omega)];omega
 .rw[Vs q,h,e,Vs (λz=>q z.symm)];omega
theorem Qou{M M2:AA (Int×Int)}{x:Int}(d: -100000<=Qo M x 0/\Qo M x 0<=100000)(h:∀m,Qo M2 m 0=Qo (QJ M x (i64.wrap (Qo M x 0-1))) m 0)(m:Int):
  Qo (QJ M2 x (i64.wrap (Qo M2 x 0+1))) m 0=Qo M m 0:=by
 rw[Y1];by_cases q:m=x
 .subst q;rw[Vt rfl,h,Y1,Vt rfl,Qt (n:=Qo M m 0-1) (by omega) (by omega),Qt (by omega) (by omega)];omega
 .rw[Vs q,h,Y1,Vs q]
theorem F?{t:Cp}(ok:DD t){g:Bool}{d:Int}{s:Uh}{W:AA Int}{U:AA Bool}{M F:AA (Int×Int)}(v:Sv t (AI t.r) g d s W U M F)(x:t.hi<=d)(k:¬t.c.AQ.A7<K_ F M):
  FS t {BJ:=W,A9:=d}=true:=by
 have rl:=ok.rl;have hl:=ok.hl;unfold FS;have f:Ha t {BJ:=W,A9:=d}=false:=by
  unfold Ha;have a:=v.l0;have b:=v.l1;have wl:=v.wl;have m:Hz F<=K_ F M:=by
   have z:=pI (λe=>if 0<i64.wrap (e.2-Qo M e.1 0)then i64.wrap (e.2-Qo M e.1 0)else 0) F 0 (λe j=>by
    have:=v.fb e j;have c:=v.cnt e.1;rw[Xr,List.count_nil]at c;have w:i64.wrap (e.2-Qo M e.1 0)=e.2:=by rw[c,Qt (by omega) (by omega)];omega
    simp only[w];split<;>omega) (by omega) (by have:=v.fl;omega)
   rw[Int.zero_add]at z;exact z
  have sl:=kX {BJ:=W,A9:=d} U (λh q=>o? (v.used h q)) (by have:=v.ul;omega) t.H 0 0 (by have:=v.ul;omega) (Int.le_refl 0) (Int.le_refl 0);rw[List.drop_zero]at sl;have n:=v.sum;simp only[wl,bne_self_eq_false,Bool.false_or];rw[Yp (by omega),Yp (by omega),Yp (by omega),Yp (by omega)];rfl
 rw[f,Vq];obtain⟨u,_,pre⟩:=v.pre;refine pre {BJ:=W,A9:=d} v.wl (λ_ _=>rfl) (λ_=>rfl) (λq=>by have:=v.l2 q;show(AI t.r:Int)-1<=d;omega) ?_;show admL t _ (W.drop (AI t.r)) _ _ _=AE;rw[<- v.wl,Xr];rfl
theorem G?{t:Cp}(ok:DD t){p:Nat}{h:Int}{s:Uh}{W:AA Int}{U:AA Bool}{M F:AA (Int×Int)}(v:Sv t p AD h s W U M F){x:Int}(f:t.r[p]?=AC x)(g:(C_ t s (p:Int) (-1)).2=AE):
  Sv t (p+1) AD (p:Int) (C_ t s (p:Int) (-1)).1 W U (QJ M x (i64.wrap (Qo M x 0-1))) F:=by
 have rl:=ok.rl;have k:=(XL.1 f).1;have B:=v.row;refine {v with st:=kJ ok v.st (by omega) (.inl (by omega)) (by omega),row:=?_,tail:=λj a b=>v.tail j (by omega) b,cnt:=k_ f rl v.cnt,fb:=λe n=>?_,l0:=by omega,l1:=by omega,l2:=λ_=>by omega,pre:=?_}
 .have:=qB t s (p:Int) (-1) v.st.r0;omega
 .have:=v.fb e n;omega
 .obtain⟨u,m,pre⟩:=v.pre;refine⟨u,m,λW' a b _ d q=>pre W' a (λj z=>b j (by omega)) nofun (λ_=>by have:=d rfl;omega) ?_⟩;have e:W'.BJ[p]?=AC (-1):=by rw[b p (by omega)];exact v.tail p (XT _) k
  have y:=d rfl;rw[gt e,dN];have:((-1:Int) != -1)=false:=by decide
  simp only[this,Bool.false_and,Vq,g,Xg];rw[Yp (by omega),Vq];exact q
theorem zL{t:Cp}(ok:DD t){p:Nat}{g:Bool}{d:Int}{s:Uh}{W:AA Int}{U:AA Bool}{M F:AA (Int×Int)}(v:Sv t p g d s W U M F){x:Int}(f:t.r[p]?=AC x):
  Sv t (p+1) AE d s W U (QJ M x (i64.wrap (Qo M x 0-1))) F:=by
 have rl:=ok.rl;have h:=(XL.1 f).1;have n:=v.l1;refine {v with row:=by have:=v.row;omega,tail:=λj a b=>v.tail j (by omega) b,cnt:=k_ f rl v.cnt,fb:=λe m=>by have:=v.fb e m;omega,l1:=by omega,l2:=nofun,pre:=?_};obtain⟨u,k,pre⟩:=v.pre;refine⟨u,k,λW' a b c _ q=>pre W' a (λj y=>b j (by omega)) (λ_=>c rfl) (λz=>by have:=v.l2 z;rw[c rfl];omega) ?_⟩;have e:W'.BJ[p]?=AC (-1):=by rw[b p (by omega)];exact v.tail p (XT _) h
 rw[gt e,dN];have:((-1:Int) != -1)=false:=by decide
 simp only[this,Bool.false_and,Vq];rw[Yj (show W'.A9<(p:Int)by rw[c rfl];omega),Vp];exact q
theorem zM{t:Cp}(ok:DD t){p i:Nat}{la:Int}{s:Uh}{W:AA Int}{U:AA Bool}{M F:AA (Int×Int)}(v:Sv t p AD la s W U M F){x:Int}(B:t.r[p]?=AC x){y:CN}(n:t.H[i]?=AC y)(J:y.Am=x)(L:U[i]?=AC AD)(P:(C_ t s (p:Int) (i:Int)).2=AE)
  {M2:AA (Int×Int)}(O:∀m,Qo M2 m 0=((t.r.drop (p+1)).count m:Int)):
  Sv t (p+1) AD (p:Int) (C_ t s (p:Int) (i:Int)).1 (W.set p (i:Int)) (U.set i AE) M2 (QJ F x (i64.wrap (Qo F x 0-1))):=by
 have rl:=ok.rl;have hp:=(XL.1 B).1;have X:=(XL.1 n).1;have hr:=v.row;have wl:=v.wl;have Q:HY t (i:Int):=.inr (by simpa using X);have f:x∈F.map (·.1):=by rw[<- J];exact v.key y (VH n)
 have Y:=v.fb _ (kH f);simp only at Y;have w:i64.wrap (Qo F x 0-1)=Qo F x 0-1:=Qt (by omega) (by omega);rw[w];obtain⟨g,G⟩:=XL.1 L;refine {st:=kJ ok v.st (by omega) Q (by omega),row:=?_,wl:=by rw[X4];exact wl,ul:=by rw[X4];exact v.ul,tail:=λj a b=>?_,used:=λh q=>?_,cnt:=O,nd:=by rw[dL f];exact v.nd,fl:=by rw[pS f];exact v.fl,fb:=λe R=>?_,sum:=?_,key:=λh q=>by rw[dL f];exact v.key h q,l0:=by omega,l1:=by omega,l2:=λ_=>by omega,pre:=?_}
 .have:=qB t s (p:Int) (i:Int) v.st.r0;omega
 .rw[Xb,Vs (by omega)];exact v.tail j (by omega) b
 .rw[Xb]at q;by_cases z:i=h
  .subst z;exact VH (i:=p) (by rw[Xb,Vt rfl,Vt (by omega)])
  .rw[Vs z]at q;obtain⟨k,f,e⟩:=List.getElem_of_mem (v.used h q);refine VH (i:=k) ?_;rw[Xb,Vs (λc=>?_),XK f,e];subst c;have:=v.tail p (XT _) hp;rw[XK f,e]at this;have:=XZ this;omega
 .rcases pp f _ e R with z|z
  .omega
  .have:=v.fb e z;omega
 .rw[pq v.nd f,v.sum,List.count_set g,G];have:0<U.count false:=List.count_pos_iff.2 (by rw[<- G];exact Ve g);simp;omega
 .obtain⟨u,E,pre⟩:=v.pre;refine⟨QJ u (i:Int) AE,λh q=>?_,λW' a b _ d q=>pre W' a (λj hj=>by rw[b j (by omega),Xb,Vs (by omega)]) nofun (λ_=>by have:=d rfl;omega) ?_⟩
  .rw[Y1]at q;by_cases z:h=(i:Int)
   .subst z;exact⟨by omega,by rw[Int.toNat_natCast,Xb,Vt rfl,Vt g]⟩
   .rw[Vs z]at q;obtain⟨c1,V⟩:=E h q;exact⟨c1,by rw[Xb,Vs (by omega)];exact V⟩
  .have e:W'.BJ[p]?=AC (i:Int):=by rw[b p (by omega),Xb,Vt rfl,Vt (by omega)]
   have dl:=d rfl;have nb:FZ t W' u p (i:Int)=false:=by
    unfold FZ;have N:Qo u (i:Int) AD=false:=by
     cases z:Qo u (i:Int) AD with
     |false=>rfl
     |true=>
      have:=(E _ z).2;rw[Int.toNat_natCast,L]at this;cases this
    rw[N,Int.toNat_natCast,n,B,Yp (by omega),Yp (by omega),Yp (by omega)];simp[J]
   have T:((i:Int) != -1)=true:=bne_iff_ne.2 (by omega);rw[gt e,dN,nb];simp only[Bool.and_false,Vq,T,Vp,P,Xg];rw[Yp (by omega),Vq];exact q
set_option maxRecDepth 10000
theorem Qm4{t:Cp}(ok:DD t):∀(m p:Nat),p+m=AI t.r->∀(s:Uh) (V:Bool) (la:Int) (L:AA CX) (W:AA Int) (U:AA Bool) (M F:AA (Int×Int)),Sv t p V la s W U M F->WL t L->
  Tt (λn=>VY n (p:Int) s V la L t.c (AI t.r:Int) W t.H U t.c t.k t.r t.s t.H t.T t.hi M F t.m t.c t.k) (SR t W U M F):=by
 have rl:=ok.rl;have hl:=ok.hl;intro m
 induction m with
 |zero=>
  intro p hp s V la L W U M F v hL;have ep:p=AI t.r:=by omega
  have G9:SR t W U M F (L,W,M,U,F):=⟨hL,rfl,rfl,rfl,λ_=>rfl⟩;refine Tt.s ?_;show Tt (λn=>ZX (VY n) n _ _ _ _ _ _ _ _ _ _ _ _ _ _ _ _ _ _ _ _ _ _) _;unfold ZX;refine Tt.b (P:=λb=>b=AD->AI L<=64/\ ¬t.c.AQ.A7<K_ F M) (Tt.c (λ_=>Tt.p nofun) λh=>Tt.b (P:=λr=>r=K_ F M) (Tt.e (sM F M) rfl) λr d=>Tt.p λq=>⟨by grind,by grind⟩) λb hb=>Tt.c (λ_=>Tt.p G9) λq=>Tt.c (λ_=>?_) λE=>absurd E (by rw[ep];simp);obtain⟨ah,ad⟩:=hb q;refine Tt.b (P:=WL t) (Tt.c (λhh=>?_) λ_=>Tt.p hL) λr d=>Tt.p ⟨d,rfl,rfl,rfl,λ_=>rfl⟩;unfold WZ;have wl:=v.wl;have l0:=v.l0;have l1:=v.l1;refine Tt.b (P:=λ(r:AA Int)=>r=W) (Tt.o (rh (by omega)) rfl) λr d=>Tt.b (Tt.a (by simp;omega)) λx B=>Tt.p ?_;subst B d;refine⟨by simp;omega,λw R=>?_⟩;rcases VC.1 R with h|h
  .exact hL.2 w h
  .cases VA.1 h;subst ep;exact⟨wl,⟨l0,by grind⟩,F? ok v (Vv hh) ad⟩
 |succ m ih=>
  intro p hp s V la L W U M F v hL;have J:p<AI t.r:=by omega
  have G9:SR t W U M F (L,W,M,U,F):=⟨hL,rfl,rfl,rfl,λ_=>rfl⟩;refine Tt.s ?_;show Tt (λn=>ZX (VY n) n _ _ _ _ _ _ _ _ _ _ _ _ _ _ _ _ _ _ _ _ _ _) _;unfold ZX;refine Qg (Tt.c (λ_=>Tt.p trivial) λh=>Qg (Tt.e (sM F M) trivial) λ_=>Tt.p trivial) λb=>Tt.c (λ_=>Tt.p G9) λq=>Tt.c (λE=>absurd E (by simp;omega)) λ_=>?_;have wp:i64.wrap ((p:Int)+1)=((p+1:Nat):Int):=YS (by omega);have B:t.r[p]?=AC t.r[p]:=XK J;generalize t.r[p]=x at B;refine Tt.b (P:=λz=>z=x) (Tt.o (QB B) rfl) λz X=>?_;subst X;simp only[XJ,wp];have c1:=v.cnt z;have cb:(t.r.drop p).count z<=256:=XV List.count_le_length (by grind);have M1:=k_ B rl v.cnt;have ac: -100000<=Qo M z 0/\Qo M z 0<=100000:=by omega
  generalize hMe:QJ M z (i64.wrap (Qo M z 0-1))=M' at M1;have SRb:∀{r:ja},SR t W U M' F r->SR t W U M F (r.1,r.2.1,QJ r.2.2.1 z (i64.wrap (Qo r.2.2.1 z 0+1)),r.2.2.2.1,r.2.2.2.2):=λh=>
   ⟨h.1,h.2.1,h.2.2.1,h.2.2.2.1,Qou ac λm=>by rw[h.2.2.2.2 m,hMe]⟩
  refine Tt.b (P:=SR t W U M' F) (Tt.c (λag=>?_) λ_=>Tt.p ⟨hL,rfl,rfl,rfl,λ_=>rfl⟩) λb hb=>Tt.b (P:=λ_=>True) (Tt.c (λ_=>Tt.p trivial) λ_=>Tt.p trivial) λb2 _=>?_
  .have ae:V=false:=by grind
   subst ae;refine Tt.b (P:=λr=>r=C_ t s (p:Int) (-1)) (Tt.e (j9 ok v.st (Int.natCast_nonneg p) (by omega) (.inl (by omega))) rfl) λr d=>?_;subst d;refine Tt.b (P:=SR t W U M' F) (Tt.c (λO=>Tt.b (P:=SR t W U M' F) (ih (p+1) (by omega) _ _ _ _ _ _ _ _ (by rw[<- hMe];exact G? ok v B O) hL) λv G=>Tt.p G) λ_=>Tt.p ⟨hL,rfl,rfl,rfl,λ_=>rfl⟩) λw R=>?_;refine Tt.b (P:=SR t W U M' F) (QP t.H (λ(a:ja) i=>(a.1,a.2.1,a.2.2.1,a.2.2.2.1,a.2.2.2.2,i)) (λ_ a=>SR t W U M' F a) (by omega) (λi y a N hI=>?_) (λa hI=>?_) w _ rfl R) λw R=>Tt.p R
   .unfold S3;have ab:=N.lt';simp only[N.lt,Vp,N.ix,XJ,N.nx,wp];obtain⟨a1,Q,a3,g,f⟩:=a;obtain⟨g1,g2,g3,g4,g5⟩:=hI;simp only at g1 g2 g3 g4 g5;subst g2 g3 g4;have keep:SR t Q g M' f (a1,Q,a3,g,f):=⟨g1,rfl,rfl,rfl,g5⟩;have ul:=v.ul;have wl:=v.wl;have hU:g[i]?=AC g[i]:=XK (by omega);generalize g[i]'(by omega)=ub at hU;refine Tt.b (P:=SR t Q g M' f) (Tt.b (P:=λb=>b=AD->ub=AD/\y.Am=z) (Tt.b (P:=λq=>q=ub) (Tt.o (QB hU) rfl) λq hq=>Tt.c (λ_=>Tt.p nofun) λY=>Tt.p λh3=>⟨by rw[<- hq];exact Y,by simpa[bne]using h3⟩) λb hb=>Tt.c (λ_=>Tt.p keep) λaf=>?_) λz X=>Tt.p ⟨z,rfl,X⟩;obtain⟨aa,j⟩:=hb af;subst aa;have hh:HY t (i:Int):=.inr (by simpa using ab);refine Tt.b (P:=λr=>r=C_ t s (p:Int) (i:Int)) (Tt.e (j9 ok v.st (Int.natCast_nonneg p) (by simpa using J) hh) rfl) λr d=>?_;subst d;refine Tt.b (P:=SR t Q g M' f) (Tt.c (λO=>?_) λ_=>Tt.p keep) λz X=>Tt.p X;have u0:(i:Int)<(AI g:Int):=by omega
    have w0:(p:Int)<(AI Q:Int):=by omega
    refine Qg (Tt.i (Int.natCast_nonneg i) u0).any λ_=>Tt.b (fx (Int.natCast_nonneg i) u0) λU' hU'=>Qg (Tt.i (Int.natCast_nonneg p) w0).any λ_=>Tt.b (fx (Int.natCast_nonneg p) w0) λW' hW'=>?_;rw[Int.toNat_natCast]at hU' hW';subst hU' hW';have sv:=zM ok v B N.get j hU O (M2:=a3) λm=>by rw[g5 m];exact M1 m
    refine Tt.b (ih (p+1) (by omega) _ _ _ _ _ _ _ _ sv g1) λr d=>?_;obtain⟨v1,v2,v3,v4,v5⟩:=d;obtain⟨r1,r2,r3,r4,r5⟩:=r;simp only at v1 v2 v3 v4 v5;subst v2 v3 v4;have hk:z∈f.map (·.1):=by rw[<- j];exact v.key y N.mem
    have G:=v.fb _ (kH hk);simp only at G;have bk:QJ (QJ f z (i64.wrap (Qo f z 0-1))) z (i64.wrap (Qo (QJ f z (i64.wrap (Qo f z 0-1))) z 0+1))=f:=by
     rw[Y1,Vt rfl,Qt (n:=Qo f z 0-1) (by omega) (by omega),Qt (n:=Qo f z 0-1+1) (by omega) (by omega),show Qo f z 0-1+1=Qo f z 0 by omega];exact QlU v.nd hk _
    simp only[bk];have u1:(i:Int)<(AI (g.set i AE):Int):=by rw[X4];exact u0
    have w1:(p:Int)<(AI (Q.set p (i:Int)):Int):=by rw[X4];exact w0
    refine Qg (Tt.i (Int.natCast_nonneg i) u1).any λ_=>Tt.b (fx (Int.natCast_nonneg i) u1) λU2 hU2=>Qg (Tt.i (Int.natCast_nonneg p) w1).any λ_=>Tt.b (fx (Int.natCast_nonneg p) w1) λW2 hW2=>Tt.p ⟨v1,?_,?_,rfl,λm=>by rw[v5 m];exact g5 m⟩
    .rw[hW2,Int.toNat_natCast,List.set_set];obtain⟨q1,E⟩:=XL.1 (v.tail p (XT _) J);rw[<- E];exact List.set_getElem_self q1
    .rw[hU2,Int.toNat_natCast,List.set_set];obtain⟨q1,E⟩:=XL.1 hU;rw[<- E];exact List.set_getElem_self q1
   .unfold S3;simp only[Y9,Vq];exact Tt.p ⟨_,rfl,hI⟩
  .obtain⟨b1,bW,bM,bU,bF⟩:=b;obtain⟨Y,O,h3,h4,h5⟩:=hb;simp only at Y O h3 h4 h5;subst O h3 h4;refine Tt.b (P:=SR t bW bU M' bF) (Tt.c (λ_=>Tt.b (P:=SR t bW bU M' bF) ((ih (p+1) (by omega) _ _ _ _ _ _ _ _ (zL ok v B |> λq=>by rw[hMe]at q;exact {q with cnt:=λm=>by rw[h5 m];exact M1 m}) Y).w λr d=>⟨d.1,d.2.1,d.2.2.1,d.2.2.2.1,λm=>by rw[d.2.2.2.2 m];exact h5 m⟩) λv G=>Tt.p G) λ_=>Tt.p ⟨Y,rfl,rfl,rfl,h5⟩) λv G=>Tt.p (SRb G)
set_option maxRecDepth 10000
theorem lY:∀a b:AA Int,C9 a b=0->a=b
 |[],[],_=>rfl
 |[],y::b,h=>by simp[C9]at h
 |x::a,[],h=>by simp[C9]at h
 |x::a,y::b,h=>by
  rw[show C9 (x::a) (y::b)=bif C1 x y != 0 then C1 x y else C9 a b from rfl,gS]at h;by_cases e:x=y
  .subst e;rw[show(x != x)=AD by simp,Vq]at h;rw[lY a b h]
  .rw[show(x != y)=AE by grind,Vp]at h;exact absurd (fW.1 h) e
theorem rR:∀a b:AA Int,C9 b a= -C9 a b
 |[],[]=>rfl
 |[],y::b=>rfl
 |x::a,[]=>rfl
 |x::a,y::b=>by
  rw[show C9 (x::a) (y::b)=bif C1 x y != 0 then C1 x y else C9 a b from rfl,show C9 (y::b) (x::a)=bif C1 y x != 0 then C1 y x else C9 b a from rfl,gS,gS];by_cases e:x=y
  .subst e;rw[show(x != x)=AD by simp,Vq,Vq];exact rR a b
  .rw[show(x != y)=AE by grind,show(y != x)=AE by grind,Vp,Vp];exact Fy.swap x y
theorem NF:DT C9:=⟨rR,sJ,λx y z h=>by rw[lY x y h]⟩
def Ib(x y:CX):Int:=bif C9 x.BJ y.BJ != 0 then C9 x.BJ y.BJ else x.A9-y.A9
theorem _X:DT Ib:=
 (NF.on λw:CX=>w.BJ).lex (d:=λx y:CX=>x.A9-y.A9) ⟨λx y=>by omega,λx y z=>by omega,λx y z=>by omega⟩
theorem Qmh{x y:CX}(h:Ib x y=0):x=y:=by
 unfold Ib at h;cases q:(C9 x.BJ y.BJ != 0)with
 |true=>grind
 |false=>
  rw[q,Vq]at h;have e:=lY _ _ (show C9 x.BJ y.BJ=0 by simpa[bne]using q);obtain⟨a,b⟩:=x;obtain⟨d,f⟩:=y
  grind
theorem w?{x y:CX}(d:AI x.BJ<=1048576)(f:AI y.BJ<=1048576)(h: -1<=x.A9/\x.A9<=300)(g: -1<=y.A9/\y.A9<=300):Ev (λn=>MI n x y) (Ib x y):=by
 unfold MI Ib;refine Ea (u? _ _ d f) (JN (λ_=>Qb _) λ_=>(Qb _).eq (Qt (by omega) (by omega)))
theorem lR{c:CB}(g:Fd c){i k:Int}(h:(CY c i k).2=0):2<=(CY c i k).1.length/\(CY c i k).1.length<=256:=by
 obtain⟨j,d,x,t,z,n,B,y,q⟩:=gv g h;have f:=VH n;have m:=(g.route d f).1;rw[g.exp f]at m;rw[q];unfold DE;simp only[X3,Xx,List.length_drop,List.length_replicate];omega
structure Px (c:CB) (k:CE) (s:AP) (e:Int) (x:List CN) (l:List Ae) (r:List CX×Int):Prop where
 len:AI r.1<=64
 ok:r.2=0->r.1≠[]/\ ∃t,Ig c k s e x l t/\Dr c k s e x l=.inr t/\2<=AI t.r/\ ∀w∈r.1,AI w.BJ=AI t.r/\FS t w=AE
theorem _l{c:CB}(h:MY c){k:CE}(kw:Ff k)(s:AP)(e:Int)(x:AA CN)(hx:AI x<=4)(l:AA Ae)(hl:AI l<=6):Tt (λn=>LY n c k s e x l) (Px c k s e x l):=by
 unfold LY;have ty:Ev (λn=>F0 n c) (CP c):=h.cE.symm▸h.ty;have nil:∀{e':Int},e'≠0->Px c k s e x l ([],e'):=λq=>⟨by simp,λz=>absurd z q⟩;refine Tt.b (P:=λr=>r=JT (Dr c k s e x l)) (Tt.e (j8 ty (λ_=>h.good) kw s e x (by omega) l (by omega)) rfl) λr V=>?_;subst V;cases N:Dr c k s e x l with
 |inl v=>
  have:=QmX N;exact Tt.c (f:=λ_=>AC ([],v)) (g:=λ_=>AF) (λ_=>Tt.p (nil this)) λq=>absurd (by grind) this
 |inr t=>
  have i:=Qo8 ty (λ_=>h.good) kw (by omega) N;have ok:=i.ok;have hc:t.c=c:=by rw[i.is];rfl
  have B:t.k=k:=by rw[i.is];rfl
  have hH:t.H=x:=by rw[i.is];rfl
  have V:t.r=(CY c s.AN e).1:=by rw[i.is];rfl
  obtain⟨r1,r2⟩:=lR h.good i.rt;rw[<- V]at r1 r2;show Tt (λn=>(iter (Nc n (t.r,t.s,t.T,t.m,t.hi)) n ([],0):AB (AA (Int×Int))).bind λaa=>(iter (Nl n x) n ([],0):AB (AA (Int×Int))).bind λO=>(Kb n [(-1)] (AI t.r:Int)).bind λQ=>(mk (AI x:Int) AD).bind λY=>(MK n).bind λac=>(VY n 0 ({DQ with Bm:=(-1):Uh}) AD (-1) ([]:AA CX) c (AI t.r:Int) Q x Y c k t.r t.s x t.T t.hi aa O t.m c k).bind λE=>(bif 64<(AI E.1:Int) then AC ([],2)else(bif ((AI E.1:Int)==0)then AC ([],190)else(LV (λx y=>MI n x y) E.1).bind λL=>AC (L,0)))) _;refine Tt.b (P:=λ(M:AA (Int×Int))=>∀m,Qo M m 0=(t.r.count m:Int)) (QP t.r (λ(a:AA (Int×Int)) i=>(a,i)) (λi a=>∀m,Qo a m 0=((t.r.take i).count m:Int)) (by omega) (λi y a d G=>?_) (λa G=>?_) [] _ rfl (λm=>by rfl)) λM hM=>?_
  .unfold Nc;have hi:=d.lt';simp only[d.lt,Vp,d.ix,XJ,d.nx];refine Tt.p ⟨_,rfl,λm=>?_⟩;have cb:(t.r.take i).count y<=256:=XV List.count_le_length (by grind);rw[Y1,d.take,List.count_append,G,G];by_cases q:m=y
   .subst q;rw[Vt rfl,Qt (by omega) (by omega)];simp
   grind
  .simp_all[Nc,Tt.p]
  refine Tt.b (P:=λ(F:AA (Int×Int))=>(F.map (·.1)).Nodup/\AI F<=AI x/\(∀e∈F,0<=e.2/\e.2<=(AI x:Int))/\Hz F=(AI x:Int)/\ ∀h∈x,h.Am∈F.map (·.1)) (QP x (λ(a:AA (Int×Int)) i=>(a,i)) (λi F=>(F.map (·.1)).Nodup/\AI F<=i/\(∀e∈F,0<=e.2/\e.2<=(i:Int))/\Hz F=(i:Int)/\ ∀h∈x.take i,h.Am∈F.map (·.1)) (by omega) (λi y a d G=>?_) (λa G=>?_) [] _ rfl ⟨List.nodup_nil,XT _,(λ_ h=>nomatch h),rfl,(λ_ h=>nomatch h)⟩) λF hF=>?_
  .unfold Nl;have hi:=d.lt';simp only[d.lt,Vp,d.ix,XJ,d.nx];obtain⟨a1,a2,a3,a4,a5⟩:=G;refine Tt.p ⟨_,rfl,?_⟩;by_cases B:y.Am∈a.map (·.1)
   .have hv:=a3 _ (kH B);simp only at hv;rw[Qt (by omega) (by omega)];refine⟨by rw[dL B];exact a1,by rw[pS B];omega,λe he=>?_,by rw[pq a1 B,a4];omega,λh J=>?_⟩
    .grind[pp]
    .rw[dL B];rw[d.take]at J
     grind
   .rw[QlV B,QnF B,show i64.wrap (0+1)=1 from rfl];refine⟨?_,by simp;omega,λe he=>?_,by rw[oz,a4];simp[Hz],λh J=>?_⟩
    iterate 2 grind
    .rw[d.take]at J
     grind
  .unfold Nl;simp only[Y9,Vq];exact Tt.p ⟨_,rfl,by grind⟩
  obtain⟨f1,f2,f3,f4,f5⟩:=hF;refine Tt.b (P:=λ(W:AA Int)=>W=List.replicate (AI t.r) (-1)) (Tt.e (lZ (-1) (AI t.r) (by omega) (by omega)) rfl) λW hW=>?_;refine Tt.b (P:=λ(U:AA Bool)=>U=List.replicate (AI x) AD) (Tt.o (v:=List.replicate (AI x) AD) (by unfold mk;grind) rfl) λU hU=>Qg (Tt.p trivial) λ_=>?_;have sv:Sv t 0 AD (-1) RZ W U M F:=by
   subst hW hU;refine {st:=n9,row:=by show(0:Int)<=0;omega,wl:=by simp,ul:=by rw[hH];simp,tail:=λj _ b=>by grind,used:=λh q=>?_,cnt:=λm=>by grind,nd:=f1,fl:=by omega,fb:=λe he=>by grind,sum:=by rw[f4];simp,key:=λh J=>f5 h (by grind),l0:=by omega,l1:=by omega,l2:=λ_=>by omega,pre:=⟨[],λh q=>by simp[Qo,JC]at q,λW' _ _ _ _ q=>by grind⟩}
   grind
  have se:=Qm4 ok (AI t.r) 0 (by omega) RZ AD (-1) [] W U M F sv ⟨by simp,λ_ h=>nomatch h⟩;rw[hc,B,hH]at se;refine Tt.b (P:=SR t W U M F) se λr hR=>Tt.c (λ_=>Tt.p (nil (by decide))) λq=>Tt.c (λ_=>Tt.p (nil (by decide))) λq2=>?_;obtain⟨⟨h1,h2⟩,_,_⟩:=hR;have ab:AI r.1<=64:=by grind
  have R:r.1≠[]:=λz=>by grind
  refine Tt.b (P:=λl'=>l'=Ky (Ps Ib) r.1) (Tt.e (oi (by omega) (λa d b hb=>w? (by grind) (by grind) (h2 a d).2.1 (h2 b hb).2.1) _X λa _ b _=>Qmh) rfl) λl' X=>Tt.p ?_;subst X;have pm:=YN (Ps Ib) r.1;refine⟨by show(Ky _ _).length<=64;rw[pm.length_eq];exact ab,λ_=>⟨λz=>R (VJ.1 (by simp_all)),t,i,N,r1,λw hw=>?_⟩⟩
  grind
theorem kz{t:Cp}{W:CX}:∀{r:AA Int} {i:Nat} {u:AA (Int×Bool)} {s:Uh},admL t W r i u s=AE->∀h∈r,HY t h
 |[],_,_,_,_,h,hm=>by cases hm
 |y::r,i,u,s,q,h,hm=>by
  rw[dN]at q;cases hb:((y != -1)&&FZ t W u i y)with
  |true=>grind
  |false=>
  rw[hb,Vq]at q;rcases X7.1 hm with rfl|hm
  .exact(rx hb).1
  .cases hL:AG (W.A9<(i:Int))with
   |true=>rw[hL,Vp]at q;exact kz q h hm
   |false=>
    rw[hL,Vq]at q;cases h2:(C_ t s (i:Int) y).2 with
    |false=>grind
    |true=>rw[h2]at q;exact kz q h hm
theorem Qmb{c:CB}(g:Fd c)(he:Ev (λn=>F0 n c) 0){i k:Int}(h:(CY c i k).2=0):Ev (λn=>Ho n c i k) (CT.c3 ((CY c i k).1,c.Az.foldl (λm x=>QJ m ({BW:=x.A',to_:=x.To:Ub}) x) [])):=by
 have E:=lB g he i k;obtain⟨j,d,f,G,L,B,O,N,H⟩:=gv g h;subst G;subst L;have q:=VH B;have z:=(g.route d q);rw[g.exp q]at z;have w:i64.wrap (256-(AI (Ck d.Ad):Int))=256-(AI (Ck d.Ad):Int):=Qt (by omega) (by omega);have y:Ev (λn=>Go.Sw.iter (Ip n c) n (([]:AA (Ub×Co)),0)) (c.Az.foldl (λm x=>QJ m ({BW:=x.A',to_:=x.To:Ub}) x) []):=by
  have P:=g.legs;refine YL c.Az (λ(m:AA (Ub×Co)) x=>QJ m ({BW:=x.A',to_:=x.To:Ub}) x) [] (λm i=>(m,(i:Int))) (λm=>m) (by omega) rfl (λi x m ha _=>?_) ?_
  .unfold Ip;simp only[ha.lt,Vp,ha.ix,XJ,ha.nx];exact Qb _
  simp_all[Ip,Qb]
 rw[H];unfold Ho;have F:(AG ((f:Int)<0)||(AG (0<(f:Int))&&AG (d.Ak<0)))=false:=by
  grind
 refine Ea (gU he B) (QY (Ea (v:=AD) (Ew (QN λ_=>Ei λ_=>Qb _) F) (QY (Ea (ly g q) ?_))));simp only[w,Yp (show¬256-(AI (Ck d.Ad):Int)<(f:Int)by omega),Vq];refine Ea (v:=DE d f) ?_ (Ea y (Qb _));by_cases M:f=0
 .simp_all[Qb,DE]
 .refine J5 (by grind) ?_;have t:=lb d 0 (Ck d.Ad) z.2 (AI (Ck d.Ad)-1) (by omega);have J:=ko (Ck d.Ad) d.Ak (AI (Ck d.Ad)-1);rw[Qt (n:=(AI (Ck d.Ad):Int)-1) (by omega) (by omega),show(AI (Ck d.Ad):Int)-1=((AI (Ck d.Ad)-1:Nat):Int)by omega];refine Ea t.ev (Ea (lZ d.Ak f (by omega) (by omega)) (Ea (EB ?_) (Qb _)))
  grind[DE,Qt,Wv,Nat.blt,Nat.ble_eq_true_of_le,YE]
set_option maxRecDepth 10000
def KC(k:CE)(g:Int):Prop:=∃j:Nat,g+1=(j:Int)/\j<AI k.AS+1
theorem Qmp{t:Cp}{W:CX}(h:FS t W=AE):AI W.BJ=AI t.r/\W.A9<(AI t.r:Int)/\ ∀y∈W.BJ,HY t y:=by
 unfold FS at h;cases d:Ha t W with
 |true=>grind
 |false=>
  rw[d,Vq]at h
  grind[Ha,kz]
theorem K?{t:Cp}{s:AP}{e:Int}{l:AA Ae}(L:Ev (λn=>IL n t.c t.k s e t.H l) (JT (.inr t)))(ok:DD t){W:CX}(E:FS t W=AE){p:Int}(F:0<=p)(N:p<=W.A9):
  Tt (λn=>OW n t.c t.k s e t.H l W p) λr=>KC t.k r.1:=by
 obtain⟨O,R,G⟩:=Qmp E;have rl:=ok.rl;unfold OW;refine Tt.b (P:=λr=>r=JT (.inr t)) (Tt.e L rfl) λr f=>?_;subst f;show Tt (λn=>(L0 n W t.c t.k t.r t.s t.H t.T t.hi t.m t.c t.k).bind _) _;have d:∀{i:Int} {h:Int},h∈W.BJ->Tt (λn=>Iw n i h t.c t.k t.r t.s t.H t.T t.hi t.m t.c t.k) λr=>r.2=AE->KC t.k r.1.Ah:=λ{i h} hm=>Tt.e (qC ok i h (G h hm)) λq=>lm ok (G h hm) q;refine Tt.b (P:=λb=>b=AE) (Tt.e (_D ok W (by omega)) E) λb g=>?_;subst g;refine Tt.c (λq=>by cases q) λ_=>Tt.b (P:=λb=>b=AD) (Tt.c (by grind) λ_=>Tt.p (Yp (by omega))) λb g=>?_;subst g;refine Tt.c (λq=>by cases q) λ_=>?_;refine Tt.b (P:=IE λ(r:Int×CK×Int)=>KC t.k r.1) (Tt.l (λi:Int=> -1<=i/\i<=p) (λi=>(i+1).toNat) (λi hi=>?_) p (by omega)) λr f=>?_
 .unfold d_;refine Tt.c (λq=>?_) λ_=>Tt.p (Q:=G7 _ _ _ _) trivial;have q:=Vv q;obtain⟨M,J⟩:=hi;refine Tt.b (Tt.i q (by omega)) λy j=>Tt.b (d j) λz B=>Tt.c (λx=>Tt.b (Tt.e (j7 ok q (by omega) F (by omega)) trivial) λ_ (_:True)=>Tt.p (Q:=G7 _ _ _ _) (B x)) λ_=>Tt.p (Q:=G7 _ _ _ _) ?_
  grind[Qt]
 cases r with
 |d v=>exact Tt.p f
 |k u=>
  refine Tt.b (P:=IE λ(r:Int×CK×Int)=>KC t.k r.1) (Tt.l (λi:Int=>p<=i/\i<=W.A9+1) (λi=>(W.A9+1-i).toNat) (λi hi=>?_) p (by omega)) λr f=>?_
  .unfold d9;refine Tt.c (λq=>?_) λ_=>Tt.p (Q:=G7 _ _ _ _) trivial;have q:=Vv q;obtain⟨M,J⟩:=hi;refine Tt.b (Tt.i (by omega) (by omega)) λy j=>Tt.b (d j) λz B=>Tt.c (λx=>Tt.b (Tt.e (j7 ok F (by omega) (by omega) (by omega)) trivial) λ_ (_:True)=>Tt.p (Q:=G7 _ _ _ _) (B x)) λ_=>Tt.p (Q:=G7 _ _ _ _) ?_
   grind[Qt]
  cases r with
  |d v=>exact Tt.p f
  |k u=>exact Tt.p ⟨0,rfl,by omega⟩
theorem Qh7{k:CE}(ok:J_ k){g:Int}(hg:KC k g)(x:CK):Tt (λn=>L1 n k g x) λ_=>True:=by
 unfold L1;obtain⟨j,e,f⟩:=hg;have z:=ok.dims.segs;refine Tt.c (λ_=>Tt.p trivial) λ_=>?_;obtain⟨h,y⟩:=ok.dims.get (i:=j) (j:=0) f (by omega);obtain⟨m,q⟩:=ok.dims.get (i:=0) (j:=j) (by omega) f;rw[e,Qt (n:=(j:Int)) (by omega) (by omega)];have t:(0:Int)=((0:Nat):Int):=rfl;rw[t];refine Tt.b (P:=λr=>r=k.BN[j]?.getD []) (Tt.o (QB h) rfl) λr d=>?_;subst d;refine Qg (Tt.o (QB y) trivial) λ_=>Tt.b (P:=λr=>r=k.BN[0]?.getD []) (Tt.o (QB m) rfl) λr d=>?_;subst d;exact Qg (Tt.o (QB q) trivial) λ_=>Tt.p trivial
theorem _p(r:AA Int)(m:AA (Ub×Co))(H:AI r<=256):Tt (λn=>MJ n r m) λy=>∀p∈y.1,0<=p.1/\p.1<(AI r:Int):=by
 unfold MJ;have B:∀(k i:Nat) (M:AA (Int×Int)),i+k=AI r->∃y:AA (Int×Int)×Unit,(∃N,∀n f,N<=n->N<=f->LS (Ir n r) f (M,(i:Int))=AC y)/\ ∀p∈y.1,0<=p.1/\p.1<(AI r:Int):=by
  intro k
  induction k with
  |zero=>
   intro i M hk;have:i=AI r:=by omega
   subst this;refine⟨([],()),⟨1,λn f _ E=>?_⟩,λ_ h=>nomatch h⟩;obtain⟨f,rfl⟩:∃g,f=g+1:=⟨f-1,by omega⟩;unfold LS Ir;simp only[Y9,Vq];rfl
  |succ k F=>
   intro i M hk;have G:i<AI r:=by omega
   have d:At r i r[i]:=Y3 (by omega) (XK G);generalize hx:r[i]=x at d;obtain⟨y,⟨N,t⟩,q⟩:=F (i+1) (QJ M x (i64.wrap (Qo M x 0+1))) (by omega);refine⟨(((i:Int),Qo (QJ M x (i64.wrap (Qo M x 0+1))) x 0)::y.1,y.2),⟨N+1,λn f j E=>?_⟩,λp z=>?_⟩
   .obtain⟨f,rfl⟩:∃g,f=g+1:=⟨f-1,by omega⟩;have e:=t n f (by omega) (by omega);unfold LS;have step:Ir n r (M,(i:Int))=AC ([((i:Int),Qo (QJ M x (i64.wrap (Qo M x 0+1))) x 0)],CG.k (QJ M x (i64.wrap (Qo M x 0+1)),((i+1:Nat):Int))):=by
     unfold Ir;simp only[d.lt,Vp,d.ix,XJ,d.nx];rfl
    rw[step];show(LS (Ir n r) f (_,((i+1:Nat):Int))).bind _=_;rw[e];rfl
   .rcases X7.1 z with h|h
    .subst h;exact⟨by show(0:Int)<=(i:Int);omega,by show(i:Int)<_;omega⟩
    .exact q p h
 obtain⟨y,⟨N,t⟩,q⟩:=B (AI r) 0 [] (by omega);refine⟨(y.1++[],()),⟨N,λn j=>?_⟩,λp z=>q p (by simpa using z)⟩;have:=t n n j j;unfold ap;rw[show((0:Nat):Int)=0 from rfl]at this;show(LS (Ir n r) n ([],0)).bind _=_;rw[this];rfl
theorem Qjq{c:CB}(h:MY c){i k:Int}(f:(CY c i k).2=0)(a b:Int):Tt (λn=>OL n c i k a b) λr=>r.2=0->0<=r.1:=by
 unfold OL;obtain⟨t,j⟩:=lR h.good f;refine Tt.b (Tt.e (Qmb h.good h.ty f) (Q:=λr=>r=CT.c3 ((CY c i k).1,c.Az.foldl (λm x=>QJ m ({BW:=x.A',to_:=x.To:Ub}) x) [])) rfl) λr e=>?_;subst e;generalize(c.Az.foldl (λm x=>QJ m ({BW:=x.A',to_:=x.To:Ub}) x) [])=m;generalize(CY c i k).1=R at t j;show Tt (λn=>(WC n R m).bind λF=>(MJ n R m).bind λg=>(P3 (Lk n a b (R,m)) g.1 ():AB (CG Unit (Int×Int))).bind λD45=>match D45 with|.k s57=>(AC (0,90))|.d s57=>AC s57) _;refine Qg (Tt.p trivial) λ_=>Tt.b (_p R m j) λy z=>?_;have run:∀l:AA (Int×Int),(∀p∈l,0<=p.1/\p.1<(AI R:Int))->Tt (λn=>P3 (Lk n a b (R,m)) l ()) (IE λ(r:Int×Int)=>0<=r.1):=by
  intro l
  induction l with
  |nil=>intro _;exact Tt.p trivial
  |cons p l J=>
   intro H;obtain⟨q,E⟩:=H p (X5 ..);have B:Tt (λn=>Lk n a b (R,m) () p) (IE λ(r:Int×Int)=>0<=r.1):=by
    unfold Lk;exact Qg (Qg (Tt.i q E).any λ_=>Tt.c (λ_=>Tt.p trivial) λ_=>Tt.p trivial) λ_=>Tt.c (λ_=>Tt.p q) λ_=>Tt.p trivial
   unfold P3;refine Tt.b B λd G=>?_;cases d with
   |k u=>grind
   |d v=>exact Tt.p G
 refine Tt.b (run y.1 z) λr f=>?_;cases r with
 |k u=>exact Tt.p λh=>by cases h
 |d v=>exact Tt.p λ_=>f
set_option maxRecDepth 10000
structure Qk (q:Ui) (t:Cp):Prop where
 crs:MY q.A4
 clk:Ff q.Bj
 te:Dr q.A4 q.Bj q.Aj q.Ba q.B6 q.Bt=.inr t
 task:Ig q.A4 q.Bj q.Aj q.Ba q.B6 q.Bt t
 hx:AI q.B6<=4
 hl:AI q.Bt<=6
 p0:0<=q.Ao
 pen:AI q.BV<=100
theorem lL{q:Ui}{t:Cp}(h:Qk q t){W:CX}(d:FS t W=AE){p:Int}(y:0<=p)(x:p<=W.A9):Tt (λn=>KU n q W p) λr=>KC q.Bj r.1:=by
 unfold KU;have i:=h.task;have f:t.c=q.A4:=by rw[i.is];rfl
 have j:t.k=q.Bj:=by rw[i.is];rfl
 have g:t.H=q.B6:=by rw[i.is];rfl
 have m:=j8 (c:=q.A4) (h.crs.cE.symm▸h.crs.ty) (λ_=>h.crs.good) h.clk q.Aj q.Ba q.B6 (by have:=h.hx;omega) q.Bt (by have:=h.hl;omega);rw[h.te]at m;have z:=K? (t:=t) (s:=q.Aj) (e:=q.Ba) (l:=q.Bt) (by grind) i.ok d y x;rw[f,j,g]at z;exact Tt.b z λr B=>Tt.p B
theorem js{c:CB}{s:AP}{l:AA Ae}(h:G_ c s l=AD):0<=s.AN/\s.AN<(AI c.AO:Int)/\0<=s.A3/\s.A3<(AI c.A0:Int):=by
 grind[G_]
theorem jg{q:Ui}{t:Cp}(h:Qk q t):Tt (λn=>KV n q) λ_=>True:=by
 unfold KV;obtain⟨_,_,a,b⟩:=js h.task.arg;exact Qg (Tt.i a b).any λ_=>Tt.p trivial
theorem _q{q:Ui}{t:Cp}(h:Qk q t){W:CX}(j:FS t W=AE)(H:q.Ao<=W.A9):Tt (λn=>N_ n q W) λ_=>True:=by
 unfold N_;obtain⟨a,b,_,_⟩:=js h.task.arg;have w:=Y0 h.crs.wf;have m:=lH h.clk h.task.clk;refine Tt.b (Tt.i a b) λd E=>?_;have f:=w.cut d E;refine Qg (QP d.Ar (λ(a:Bool×Bool) i=>(a.1,a.2,i)) (λ_ _=>True) (by omega) (λi x a ha _=>?_) (λa _=>?_) (AD,AD) _ rfl trivial) λ_=>Tt.p trivial
 .unfold S8;simp only[ha.lt,Vp,ha.ix,XJ,ha.nx];refine Qg (Tt.b (Qjq h.crs h.task.rt _ _) λr g=>Tt.b (P:=λb=>b=AD->0<=r.1/\r.1<=q.Ao) (Tt.c (λ_=>Tt.p nofun) λF=>Tt.p λG=>?_) λb k=>Tt.c (λ_=>Tt.p trivial) λB=>?_) λb=>Tt.p ⟨b,rfl,trivial⟩
  .grind
  .obtain⟨y,J⟩:=k B;refine Tt.b (lL h j y (by omega)) λr g=>Qg (Qh7 m g _) λz=>Qg (Tt.c (λ_=>Tt.p trivial) λ_=>Qg (jg h) λ_=>Tt.p trivial) λ_=>Qg (Tt.c (λ_=>Tt.p trivial) λ_=>Qg (jg h) λ_=>Tt.p trivial) λ_=>Tt.p trivial
 .unfold S8;simp only[Y9,Vq];exact Tt.p ⟨_,rfl,trivial⟩
def Kn(p:Int)(s:Int×Int×Bool)(x:CF):Int×Int×Bool:=
 bif x.AT<=p then(i64.wrap (s.1+x.Bb),i64.wrap (s.2.1+x.As),s.2.2||x.BQ)else s
theorem dE(l:AA CF)(p:Int)(d:AI l<=1048576):Ev (λn=>F_ n l p) (l.foldl (Kn p) (0,0,AD)):=by
 unfold F_;refine Ea (YL l (λs x=>Kn p s x) (0,0,AD) (λs i=>(s.1,s.2.1,s.2.2,(i:Int))) (λs=>s) (by omega) rfl (λi x s ha _=>?_) ?_) (Qb _)
 .unfold S4;simp only[ha.lt,Vp,ha.ix,XJ,ha.nx];refine Ea (v:=Kn p s x) ?_ (Qb _);unfold Kn;refine JN (λ_=>?_) λ_=>Qb _
  grind[Qb]
 simp_all[S4,Qb]
theorem Qnd(l:AA Ae)(d:AI l<=6):Tt (λn=>Nx n l) λ_=>True:=by
 unfold Nx WA;refine Qg (Qg (QP l (λ(_:Unit) i=>i) (λ_ _=>True) (by omega) (λi x _ ha _=>?_) (λ_ _=>?_) () _ rfl trivial) λr=>?_) λ_=>Tt.p trivial
 .unfold TG V5;simp only[ha.lt,Vp,ha.ix,XJ,ha.nx]
  simp_all[Tt.c,Tt.p]
 .simp_all[TG,Tt.p]
 .cases r<;>exact Tt.p trivial
theorem rE{q:Ui}{t:Cp}(h:Qk q t)(W:CX):Tt (λn=>Kj n q W) λ_=>True:=by
 unfold Kj;exact Qg (jg h) λ_=>Qg (Tt.p trivial) λ_=>Tt.p trivial
theorem Qlq{q:Ui}{t:Cp}(h:Qk q t){W:CX}(d:FS t W=AE)(f:0<=W.A9)(g:0<AI W.BJ):Tt (λn=>PX n q W) λ_=>True:=by
 unfold PX;exact Qg (Qnd _ h.hl) λ_=>Qg (Qg (Tt.i (Int.le_refl 0) (by omega)).any λ_=>Tt.c (λ_=>Tt.p trivial) λ_=>Tt.p trivial) λ_=>Tt.c (λ_=>Qg (rE h W) λ_=>Tt.p trivial) λ_=>Qg (lL h d (Int.le_refl 0) f).any λ_=>Tt.p trivial
theorem Qln{c:CB}(h:CP c=0){d:AN}(f:d∈c.AO):1<=d.BH/\d.BH<=3:=by
 have g:=(h_ h).2.1
 simp_all[C5,ID,DI]
theorem iT{q:Ui}{t:Cp}(h:Qk q t){W:CX}(g:FS t W=AE)(m:0<AI W.BJ):Tt (λn=>I7 n q W) λr=>AI r<=2:=by
 unfold I7;obtain⟨a,b,_,_⟩:=js h.task.arg;have p0:=h.p0;refine Qg (Tt.e (dE q.BV q.Ao (by have:=h.pen;omega)) trivial) λu=>Tt.b (P:=λb=>b=AD->q.Ao<=W.A9) (Tt.c (λ_=>Tt.p nofun) λz=>Tt.p λ_=>by grind) λG k=>Tt.c (λ_=>Qg (Tt.p trivial) λ_=>Tt.p (by simp)) λz=>?_;have j:=k z;refine Qg (_q h g j) λF=>Tt.c (λ_=>Qg (Tt.p trivial) λ_=>Tt.p (by simp)) λ_=>Qg (lL h g p0 j).any λx=>Qg (Tt.p trivial) λ_=>Tt.b (Tt.i a b) λd y=>?_;have B:=Qln h.crs.cE y;refine Tt.c (by grind) λE=>Tt.c (λ_=>Qg (rE h W) λ_=>Tt.c (λ_=>Qg (Tt.p trivial) λ_=>Tt.p (by simp)) λ_=>Tt.p (by simp)) λH=>Tt.c (λ_=>Qg (Qlq h g (by omega) m) λ_=>Tt.c (λ_=>Qg (Tt.p trivial) λ_=>Tt.p (by simp)) λ_=>Tt.p (by simp)) λJ=>Tt.c (λ_=>Qg (f:=λn=>Wc n q W) (Tt.p trivial) λ_=>Tt.c (λ_=>Qg (Tt.p trivial) λ_=>Tt.p (by simp)) λ_=>Tt.p (by simp)) λL=>?_
 grind
end Go.Sw
