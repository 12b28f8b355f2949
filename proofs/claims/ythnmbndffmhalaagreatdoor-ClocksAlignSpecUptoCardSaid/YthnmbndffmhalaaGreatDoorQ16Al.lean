/- The plain laws that a law needs, with no program in sight. -/
import Derived.Test.YthnmbndffmhalaaGreatDoorW16Al
set_option linter.unusedVariables false
set_option linter.unusedSimpArgs false
namespace Go.Sw
open Option renaming some→AC,none→AF
open Bool renaming false→AD,true→AE
open Decidable renaming decide→AG
open List renaming length→AI
open Go renaming Value→AL
open List(map)
open Int(toNat)
open Go.IntKind(i64 u64 u8)
def CW(lo hi x:Int):Bool:=AG (lo<=x)&&AG (x<=hi)
theorem rx(lo hi:Int)(l:AA Int)(a:AI l<=4611686018427387904):Ev (λn=>FH n lo hi l) (l.all (CW lo hi)):=by
 have h:Ev (λn=>Sl n l lo hi) (l.any λx=> !CW lo hi x):=by
  refine Ev.contains l _ (λn x=>Ss n x lo hi) a λx _=>?_;refine Ea ((Ex λh=>Qa _).eq ?_) (Qa _);unfold CW
  grind
 refine Ea h ((Qa _).eq ?_)
 grind
def dJ(c:Nat):Bool:=(AG (97<=c)&&AG (c<=122))||(AG (48<=c)&&AG (c<=57))||AG (c=95)
def MX(c:Nat):Bool:=AG (97<=c)&&AG (c<=122)
def Hm(c:UInt8):Bool:=dJ c.toNat
def O7(c:UInt8):Bool:=MX c.toNat
def Tl:AA (AA UInt8):=[[99,111,117,114,115,101],[109,97,116,115],[115,116,97,114,116],[112,97,115,115],[101,110,100],[108,101,103],[116,111],[100,105,115,116,97,110,99,101],[103,117,110],[99,104,105,112],[115,108,111,116],[108,97,112,115],[108,97,112],[99,117,116,111,102,102],[101,120,116,114,97],[119,97,118,101],[111,102,102,101,110,99,101],[111,117,116],[99,97,116,101,103,111,114,121],[112,114,105,122,101],[97,108,108],[116,105,101,115],[105,102],[101,108,115,101],[97,110,100],[111,114],[110,111,116],[111,108,100,101,114],[121,111,117,110,103,101,114],[98,105,98],[100,114,97,119],[102,105,101,108,100],[115,104,111,114,116],[102,97,117,108,116,115],[109,105,115,115,101,115],[115,116,114,97,121,115],[119,105,110,100,111,119],[114,101,115,105,100,117,97,108],[100,114,105,102,116],[112,114,111,116,101,115,116],[102,101,101],[100,101,97,100,108,105,110,101]]
theorem pQ(c d:Bool):(bif c then AC c else AC d)=AC (c||d):=by grind
theorem qY(c d:Bool):(bif c then AC AE else AC d)=AC (c||d):=by grind
theorem QgP(n:Nat)(s:AA UInt8):Nr n s=AC (Tl.contains s):=by
 unfold Nr;simp only[pQ,qY,XK];simp only[Tl,List.contains_cons,List.contains_nil,Bool.or_assoc]
def Ir:AA UInt8->AA (AA UInt8)
 |[]=>[]
 |b::l=>(bif b==32&& !(l.dropWhile λc=>c != 32).isEmpty then[l.takeWhile λc=>c != 32]else[])++Ir l
theorem tY:∀(l s:AA UInt8),(∀c∈s,c≠32)->(s++[32]).isPrefixOf l=((l.takeWhile λc=>c != 32)==s&& !(l.dropWhile λc=>c != 32).isEmpty)
 |[],s,h=>by simp
 |b::l,[],h=>by
  by_cases e:b=32
  .subst e;simp
  .have e1:=by simpa using e
   have a:(32==b)=false:=by grind
   simp[List.isPrefixOf,e1,a]
 |b::l,c::s,h=>by
  have d:=h c (by simp);have f:=tY l s (by grind)
  grind[List.takeWhile_cons,List.dropWhile_cons]
theorem contains_cons(b:UInt8)(l t:AA UInt8)(a:t≠[]):Lib.contains (b::l) t=(t.isPrefixOf (b::l)||Lib.contains l t):=by
 unfold Lib.contains;rw[show Lib.index (b::l) t=if t.isPrefixOf (b::l)then 0 else if Lib.index l t== -1 then-1 else Lib.index l t+1 from rfl]
 grind
theorem uI(s:AA UInt8)(h:∀c∈s,c≠32):∀l,Lib.contains l (32::(s++[32]))=(Ir l).contains s
 |[]=>by rfl
 |b::l=>by
  rw[contains_cons b l _ (by simp),uI s h l];simp only[Ir,List.isPrefixOf,tY l s h]
  grind
def IC:AA UInt8:=[32,99,111,117,114,115,101,32,109,97,116,115,32,115,116,97,114,116,32,112,97,115,115,32,101,110,100,32,108,101,103,32,116,111,32,100,105,115,116,97,110,99,101,32,103,117,110,32,99,104,105,112,32,115,108,111,116,32,108,97,112,115,32,108,97,112,32,99,117,116,111,102,102,32,101,120,116,114,97,32,119,97,118,101,32,111,102,102,101,110,99,101,32,111,117,116,32,99,97,116,101,103,111,114,121,32,112,114,105,122,101,32,97,108,108,32,116,105,101,115,32,105,102,32,101,108,115,101,32,97,110,100,32,111,114,32,110,111,116,32,111,108,100,101,114,32,121,111,117,110,103,101,114,32,98,105,98,32,100,114,97,119,32,102,105,101,108,100,32,115,104,111,114,116,32,102,97,117,108,116,115,32,109,105,115,115,101,115,32,115,116,114,97,121,115,32,119,105,110,100,111,119,32,114,101,115,105,100,117,97,108,32,100,114,105,102,116,32,112,114,111,116,101,115,116,32,102,101,101,32,100,101,97,100,108,105,110,101,32]
theorem ui:Ir IC=Tl:=by decide+kernel
def Dd:AA Int:=(List.range 256).map λi=>if 97<=i/\i<=122\/65<=i/\i<=90 then 2 else if 48<=i/\i<=57 then 3 else if i∈[123,125,40,41,91,93,59,44,61,60,62]then 4 else if i∈[32,9,10,13]then 1 else 0
theorem QkR:Ev Nn Dd:=by
 unfold Nn;refine Ea (fi (step:=LE 0) 40 (b:=(iter (LE 0) 40 (List.replicate 256 0,97)).getD []) (by decide+kernel)) ?_;refine Ea (fi (step:=NC 0) 40 (b:=(iter (NC 0) 40 ((iter (LE 0) 40 (List.replicate 256 0,97)).getD [],48)).getD []) (by decide+kernel)) ?_;generalize hb:(iter (NC 0) 40 ((iter (LE 0) 40 (List.replicate 256 0,97)).getD [],48)).getD []=b2;refine Ea (fi (step:=SG 0) 40 (b:=(iter (SG 0) 40 (b2,0)).getD []) (by subst hb;decide+kernel)) ?_;refine Ea (fi (step:=bQ 0) 40 (b:=Dd) (by subst hb;decide+kernel)) ?_;exact ED (by decide+kernel)
theorem zi:((List.range 256).all λi=> !dJ i||AG (Dd[i]?=AC (if MX i then 2 else if i=95 then 0 else 3)))=true:=by decide+kernel
theorem x5{c:UInt8}(h:Hm c=AE):KU 256 Dd (c.toNat:Int)=AC (if O7 c then 2 else if c.toNat=95 then 0 else 3):=by
 have a:=Xu.1 zi c.toNat (List.mem_range.2 c.toNat_lt);unfold Hm at h;rw[h]at a;simp[Xg,Bool.false_or,Vs]at a;unfold KU;rw[show Nat.beq (AI Dd) 256=AE by decide+kernel,Vq,Qi a];rfl
def C'(s:AA UInt8):Bool:=AG (1<=AI s)&&AG (AI s<=24)&&(s.head?).any O7&&s.all Hm
def Cu(s:AA UInt8):Bool:=C' s&& !Tl.contains s
theorem zQ(s:AA UInt8)(h:C' s=AE):Ev (λn=>OG n s) true:=by
 unfold C' at h;simp only[XX,Vs,Xu]at h;obtain⟨⟨⟨d,k⟩,j⟩,e⟩:=h;unfold OG;refine Ea QkR ?_;refine JW (v:=List.replicate 256 0) (by decide+kernel) ?_;refine JW (v:=Dd) (by decide+kernel) ?_;refine Ea (v:=Bn.k ()) (EA (λi=>(i:Int)) (AI s) rfl (λi g=>?_) ?_) ?_
 .have a:=Jo (x:=s[i]) (by omega) (XL g);have f:=e _ a.mem;unfold SC;simp only[a.lt,Vq,a.ix,XK,x5 f,a.nx];cases i with
  |zero=>
   have:O7 s[0]=true:=by
    cases s with
    |nil=>simp at d
    |cons c r=>grind
   simp[this];exact Qa _
  |succ i=>
   grind[Qa]
 .simp_all[SC,Qa]
 .refine ED ?_;cases s with
  |nil=>simp at d
  |cons c r=>rfl
theorem zX{s:AA UInt8}(h:C' s=AE):∀c∈s,c≠32:=by
 unfold C' at h;simp[XX,Xu]at h;rintro c a rfl;exact absurd (h.2 _ a) (by decide)
theorem xT{s:AA UInt8}(h:C' s=AE):AI s<=24:=by
 simp_all[C']
theorem QkU(s:AA UInt8)(h:C' s=AE):Ev (λn=>Sk n s) (Tl.contains s):=by
 refine Ea (Ea (zQ s h) (JZ ?_)) (Qa _);have a:=xT h;refine JW (by unfold cat;rw[XT (by simp;omega)];rfl) (JW (by unfold cat;rw[XT (by simp;omega)];rfl) ?_);refine JW ?_ (Qa _);show Z5 IC ([32]++s++[32])=AC (Tl.contains s);unfold Z5;rw[show Nat.blt (AI IC) 4294967281=AE by decide+kernel,Vq]
 grind[uI,zX,ui]
theorem ZY(c:UInt8)(k:Nat):AG ((c.toNat:Int)<(k:Int))=AG (c.toNat<k):=by
 simp
theorem RS(c:UInt8):(bif (c.toNat:Int)<97 then(bif (c.toNat:Int)<48 then AC ((c.toNat:Int) != 95)else(bif 57<(c.toNat:Int) then AC ((c.toNat:Int) != 95)else AC AD))else(bif 122<(c.toNat:Int) then(bif (c.toNat:Int)<48 then AC ((c.toNat:Int) != 95)else(bif 57<(c.toNat:Int) then AC ((c.toNat:Int) != 95)else AC AD))else AC AD))=AC (!Hm c):=by
 unfold Hm dJ;generalize c.toNat=k;have e:((k:Int) != 95)= !decide (k=95):=by
  grind
 grind
theorem sG(n:Nat)(s:AA UInt8):(bif (AI s:Int)<1 then AC AE else(bif 24<(AI s:Int) then AC AE else(Bt s 0).bind λx10=>(bif (x10.toNat:Int)<97 then AC AE else(Bt s 0).bind λx12=>AC (AG (122<(x12.toNat:Int))))))=AC (!(AG (1<=AI s)&&AG (AI s<=24)&&(s.head?).any O7)):=by
 cases s with
 |nil=>rfl
 |cons c r=>
  by_cases h:AI (c::r)<=24
  .rw[Q4 (show¬24<(AI (c::r):Int)by omega),Vr];have d:Bt (c::r) 0=AC c:=rfl;simp[d,XK];simp[X2]at h;have e:AI r<=23:=by omega
   simp[List.head?_cons,Option.any_some,O7,MX];rw[show(97:Int)=(97:Nat)from rfl,ZY];by_cases a:c.toNat<97
   .grind
   .have f:97<=c.toNat:=by omega
    simp[a,f,e];by_cases q:c.toNat<=122
    iterate 2 grind
  grind
theorem rn(s:AA UInt8)(h:AI s<=1048576):Ev (λn=>K5 n s) (Cu s):=by
 refine Ea (ED (sG 0 s)) ?_;unfold Cu;cases f:(AG (1<=AI s)&&AG (AI s<=24)&&(s.head?).any O7)with
 |false=>
  have:C' s=false:=by unfold C';rw[f];rfl
  rw[this];exact Qa _
 |true=>
  have g:C' s=s.all Hm:=by unfold C';rw[f];rfl
  refine Ea (Jn s (λc=> !Hm c) (λi=>(i:Int)) (Bn.d AD) (Bn.k ()) (by omega) rfl (λi x a d=>?_) (λi x a d=>?_) ?_) ?_
  .unfold Nd;simp only[a.lt,a.ix,XK,RS,d,a.nx];exact Qa _
  .unfold Nd;simp only[a.lt,a.ix,XK,RS,d];exact Qa _
  .simp_all[Nd,Qa]
  .rw[g];have e:s.any (λc=> !Hm c)= !s.all Hm:=by grind
   rw[e];cases q:s.all Hm with
   |true=>
    exact Ea (QkU s (g.trans q)) (Qa _)
   |false=>
    exact Qa _
theorem f8(s:AA UInt8)(k:AI s<=1048576):Ev (λn=>Oe n s) (Cu s):=by
 refine Ea (ED (sG 0 s)) ?_;unfold Cu;cases a:(AG (1<=AI s)&&AG (AI s<=24)&&(s.head?).any O7)with
 |false=>
  have:C' s=false:=by unfold C';rw[a];rfl
  rw[this];exact Qa _
 |true=>
  have f:C' s=s.all Hm:=by unfold C';rw[a];rfl
  cases s with
  |nil=>simp at a
  |cons c r=>
   have h:Hm c=true:=by
    simp_all[O7,Hm,dJ,MX]
   have hr:=by
    simp[XX,Vs,X2]at a;omega
   have j:∀(i:Nat) (x:UInt8),At r i x->AG (((i+1:Nat):Int)<AI (c::r))=AE/\Bt (c::r) (i+1:Nat)=AC x/\i64.wrap ((i+1:Nat)+1)=i+1+1:=by
    intro i x d;have:=d.lt';exact⟨Vv (by simp;omega),Qi (by simpa using d.get),Qz (by omega)⟩
   refine Ea (Jn r (λc=> !Hm c) (λi=>((i+1:Nat):Int)) (Bn.d AD) (Bn.k ()) (by omega) rfl (λi x d g=>?_) (λi x d g=>?_) ?_) ?_
   iterate 2 grind[SW,RS,Qa]
   .unfold SW;rw[Q4 (by simp),Vr];exact Qa _
   .rw[f];have e:r.any (λc=> !Hm c)= !(c::r).all Hm:=by rw[List.all_cons,h,VA,List.not_all_eq_any_not]
    rw[e];cases q:(c::r).all Hm with
    |true=>
     exact Ea (ED (QgP 0 _)) (Qa _)
    |false=>
     exact Qa _
def C1:AA (AA UInt8)->AA (AA UInt8)->Bool
 |_,[]=>AE
 |seen,x::r=>Cu x&& !seen.contains x&&C1 (seen++[x]) r
theorem si(l:AA (AA UInt8))(i:Nat)(x:AA UInt8)(h:At l i x):C1 (l.take i) (l.drop i)=(Cu x&& !(l.take i).contains x&&C1 (l.take (i+1)) (l.drop (i+1))):=by
 rw[h.drop,h.take];rfl
theorem aJ{α:Type}(l:AA α)(a:α->AA UInt8)(g:Nat->α->AB Unit)(hg:∀n x,g n x=AC ())(p:AI l<=1048576)(m:∀x∈l,AI (a x)<=1048576):
  Ev (λn=>((iter (λs:(AA (AA UInt8×Bool))×Int=>bif s.2<(AI l:Int) then(Bt l s.2).bind λx35=>(g n x35).bind λr36=>((K5 n (a x35)).bind λr42=>(bif (!r42)then AC AE else(AC (QM s.1 (a x35) AD)).bind λv44=>AC v44):AB Bool).bind λb40=>(bif b40 then AC (.d (.d AD))else(AC (Yp s.1 (a x35) AE)).bind λm46=>AC (.k (m46,i64.wrap (s.2+1))))else AC (.d (.k ()))) n ([],0):AB (Bn Unit Bool)).bind λb28=>
   match b28 with
   |.k _=>AC AE
   |.d s=>AC s:AB Bool)) (C1 [] (l.map a)):=by
 have f:AI l<=4611686018427387904:=by omega
 have j:AI (l.map a)<=4611686018427387904:=by grind
 have h:=nX (B:=Bn Unit Bool) l (step:=λn s=>bif s.2<(AI l:Int) then(Bt l s.2).bind λx35=>(g n x35).bind λr36=>((K5 n (a x35)).bind λr42=>(bif (!r42)then AC AE else(AC (QM s.1 (a x35) AD)).bind λv44=>AC v44)).bind λb40=>(bif b40 then AC (.d (.d AD))else(AC (Yp s.1 (a x35) AE)).bind λm46=>AC (.k (m46,i64.wrap (s.2+1))))else AC (.d (.k ())))
  (λi=>(Yx a AE (l.take i),i)) (λi=>bif C1 ((l.map a).take i) ((l.map a).drop i)then .k ()else .d AD) f rfl (λi x e=>?_) ?_
 .refine Ea h ?_
  grind[Qa]
 .have ha2:=Jo j (by rw[Xp,e.get];rfl);simp only[si _ _ _ ha2];have d:Ev (λn=>(K5 n (a x)).bind λr42=>(bif (!r42)then AC AE else(AC (QM (Yx a AE (l.take i)) (a x) AD)).bind λv44=>AC v44)) (!(Cu (a x)&& !((l.map a).take i).contains (a x))):=by
   refine Ea (rn (a x) (m x e.mem)) ?_;cases Cu (a x)with
   |false=>exact Qa _
   |true=>
    simp_all[Qa,t6]
  cases k:(Cu (a x)&& !((l.map a).take i).contains (a x))with
  |true=>
   rw[k]at d;refine .inl ⟨?_,by simp⟩;simp only[e.lt,e.ix,XK,hg];refine Ea d ?_;simp[e.nx];rw[e.take,Qh1];exact Qa _
  |false=>
   rw[k]at d;refine .inr ?_;simp only[e.lt,e.ix,XK,hg];refine Ea d ?_;exact Qa _
 .simp[KT];rw[show(l.map a).drop (AI l)=[]by simp];exact Qa _
theorem vK{α:Type}{l:AA α}{x:α}(h:AI l<=140737488):app l [x]=AC (l++[x]):=Rv l x (by omega)
theorem Qe5(l:AA (AA UInt8))(s:AI l<=1048576)(g:∀x∈l,AI x<=1048576):Ev (λn=>Pj n l) (C1 [] l):=by
 have h:AI l<=4611686018427387904:=by omega
 refine Ea (nX l (λi=>(i:Int)) (λi=>bif C1 (l.take i) (l.drop i)then .k ()else .d AD) h rfl (λi x a=>?_) ?_) ?_
 .simp only[si _ _ _ a];unfold SN;simp only[a.lt,a.ix,XK];cases k:Cu x with
  |false=>
   exact .inr (Ea ((f8 x (g x a.mem)).eq k) (Qa _))
  |true=>
   have r:=a.lt';have Ci:Ev (λn=>iter (LP n l i) n 0) (bif (l.take i).contains x then Bn.d (Bn.d (Bn.d AD))else Bn.k ()):=by
    have e:(l.take i).contains x=(l.take i).any λy=>y==x:=by
     grind
    rw[e];have p:AI (l.take i)=i:=by simp;omega
    refine Jn (l.take i) (λy=>y==x) (λi=>(i:Int)) _ _ (by omega) rfl (λj y d m=>?_) (λj y d m=>?_) ?_
    .have f:=d.lt';have hjg:=by
      have:=d.get;rw[List.getElem?_take]at this;split at this
      .exact this
      .cases this
     unfold LP;rw[QV (show(j:Int)<i by omega)];simp only[Qi hjg,a.ix,XK,m,d.nx];exact Qa _
    .have f:=d.lt';have hjg:=by
      have:=d.get;rw[List.getElem?_take]at this;split at this
      .exact this
      .cases this
     unfold LP;rw[QV (show j<(i:Int)by omega)];simp only[Qi hjg,a.ix,XK,m];exact Qa _
    grind[LP,Qa]
   cases q:(l.take i).contains x with
   |true=>
    rw[q]at Ci;exact .inr (Ea ((f8 x (g x a.mem)).eq k) (Qy (Ea Ci (Qa _))))
   |false=>
    rw[q]at Ci;refine .inl ⟨Ea ((f8 x (g x a.mem)).eq k) (Qy (Ea Ci ?_)),by simp⟩;simp only[a.nx];exact Qa _
 .unfold SN;simp only[KT,Xs];exact Qa _
 grind[Qa]
theorem Rz{α β:Type}(l:AA α)(f:α->β)(j:AI l<=140737488):Ev (λn=>iter (λs:(AA β)×Int=>bif s.2<(AI l:Int) then(Bt l s.2).bind λx15=>(app s.1 [f x15]).bind λl16=>AC (Bn.k (l16,i64.wrap (s.2+1)))else AC (Bn.d s.1)) n (([]:AA β),(0:Int))) (l.map f):=by
 have e:∀l:AA α,l.foldl (λa x=>a++[f x]) []=l.map f:=by
  intro l;have h:∀(l:AA α) (a:AA β),l.foldl (λa x=>a++[f x]) a=a++l.map f:=by
   intro l
   induction l with
   |nil=>simp
   |cons x l k=>grind
  grind
 rw[<- e l];refine Jc l (λa x=>a++[f x]) [] (λa i=>(a,(i:Int))) (λa=>a) (by omega) rfl (λi x a g d=>?_) ?_
 .rw[e]at d;have:AI a<=140737488:=by grind
  simp only[g.lt,g.ix,vK this,g.nx];exact Qa _
 .simp[KT];exact Qa _
def FX(c:Bl):Bool:=Cu c.An&&(C1 [] (c.Ar.map (·.An))&&(C1 [] (c.AX.map (·.An))&&(C1 [] (c.A9.map (·.An))&&(C1 [] (c.Aq.map (·.An))&&C1 [] (c.Ae.map (·.An))))))
structure CK (c:Bl):Prop where
 name:AI c.An<=1048576
 mats:AI c.Ar<=1048576
 matsN:∀x∈c.Ar,AI x.An<=1048576
 legs:AI c.A8<=1048576
 dist:AI c.AX<=1048576
 distN:∀x∈c.AX,AI x.An<=1048576
 cut:∀x∈c.AX,AI x.Ao<=1048576
 wave:AI c.A9<=1048576
 waveN:∀x∈c.A9,AI x.An<=1048576
 off:AI c.Aq<=1048576
 offN:∀x∈c.Aq,AI x.An<=1048576
 cat:AI c.Ae<=1048576
 catN:∀x∈c.Ae,AI x.An<=1048576
 prize:AI c.A7<=1048576
theorem xp(c:Bl)(w:CK c):Ev (λn=>SX n c) (FX c):=by
 refine Ea (Ea (rn c.An w.name) (Ej λ_=>?_)) (Qa _);have f:Ev (λn=>Se n c.Ar) (C1 [] (c.Ar.map (·.An))):=by exact aJ c.Ar (·.An) TT (λ_ _=>rfl) w.mats w.matsN
 have e:Ev (λn=>S6 n c.AX) (C1 [] (c.AX.map (·.An))):=by exact aJ c.AX (·.An) S7 (λ_ _=>rfl) w.dist w.distN
 have d:Ev (λn=>TP n c.A9) (C1 [] (c.A9.map (·.An))):=by exact aJ c.A9 (·.An) TF (λ_ _=>rfl) w.wave w.waveN
 have a:Ev (λn=>SZ n c.Aq) (C1 [] (c.Aq.map (·.An))):=by exact aJ c.Aq (·.An) S8 (λ_ _=>rfl) w.off w.offN
 have g:Ev (λn=>TS n c.Ae) (C1 [] (c.Ae.map (·.An))):=by exact aJ c.Ae (·.An) Sj (λ_ _=>rfl) w.cat w.catN
 refine Ea f (Ej λ_=>(Ea e (Ej λ_=>?_)));refine Ea d (Ej λ_=>?_);exact Ea a (Ej (by grind))
structure PE (c:Bl):Prop where
 mats:AI c.Ar<=140737488
 dist:AI c.AX<=140737488
 wave:AI c.A9<=140737488
 off:AI c.Aq<=140737488
 cat:AI c.Ae<=140737488
theorem QjG(c:Bl)(w:CK c)(s:PE c):Ev (λn=>TY n c) (FX c):=by
 refine Ea (Rz c.Ar (·.An) s.mats) (Ea (Rz c.AX (·.An) s.dist) ?_);refine Ea (Rz c.A9 (·.An) s.wave) (Ea (Rz c.Aq (·.An) s.off) ?_);refine Ea (Rz c.Ae (·.An) s.cat) (Ea ?_ (Qa _));refine Ea (f8 c.An w.name) (Ej λ_=>?_);have mk:∀{α:Type} (l:AA α) (nm:α->AA UInt8),AI l<=1048576->(∀x∈l,AI (nm x)<=1048576)->Ev (λn=>Pj n (l.map nm)) (C1 [] (l.map nm)):=by
  simp_all[Qe5]
 refine Ea (mk c.Ar (·.An) w.mats w.matsN) (Ej λ_=>(Ea (mk c.AX (·.An) w.dist w.distN) (Ej λ_=>?_)));refine Ea (mk c.A9 (·.An) w.wave w.waveN) (Ej λ_=>(Ea (mk c.Aq (·.An) w.off w.offN) (Ej λ_=>?_)));exact Ea (mk c.Ae (·.An) w.cat w.catN) (Qa _)
theorem R5{n:Nat}(h:n<=1048576):i64.wrap ((n:Int)-1)=(n:Int)-1:=Qt (by omega) (by omega)
theorem JR(x lo hi:Int):Ev (λn=>Fo n x lo hi) (CW lo hi x):=by
 exact Ea (Ej λ_=>Qa _) (Qa _)
theorem Zy(c:Bl)(w:CK c)(x:Int):Ev (λn=>K3 n c x) (CW 0 ((AI c.Ar:Int)-1) x):=by
 unfold K3;rw[R5 w.mats];exact Ea (JR _ _ _) (Qa _)
mutual
def Th:Bo->Nat
 |⟨_,_,ps⟩=>1+CG ps
def CG:AA Bo->Nat
 |[]=>0
 |p::r=>Th p+CG r
end
theorem Jj(p:Bo):Th p=1+CG p.Ac:=by cases p;rfl
theorem JP{p:Bo}:∀{l:AA Bo},p∈l->Th p<=CG l
 |q::r,h=>by
  simp[CG];rcases X7.1 h with rfl|h
  .omega
  .have:=JP h;omega
mutual
def F1(k:Int):Bo->Bool
 |⟨m,laps,ps⟩=>bif laps==0 then CW 0 k m&&((AI ps:Int)==0)else CW 1 64 laps&&((m==0)&&(AG (0<(AI ps:Int))&&Cm k ps))
def Cm(k:Int):AA Bo->Bool
 |[]=>AE
 |p::r=>F1 k p&&Cm k r
end
theorem aR(k:Int)(p:Bo):F1 k p=bif p.Ax==0 then CW 0 k p.Ag&&((AI p.Ac:Int)==0)else CW 1 64 p.Ax&&((p.Ag==0)&&(AG (0<(AI p.Ac:Int))&&Cm k p.Ac)):=by cases p;rfl
theorem aN(k:Int):∀l:AA Bo,Cm k l=l.all (F1 k)
 |[]=>rfl
 |p::r=>by simp[Cm,List.all_cons,aN k r]
theorem YT{p:Bo}(h:Bo.wf p):AI p.Ac<=1048576/\ ∀x∈p.Ac,Bo.wf x:=by
 cases p
 grind[Bo.wf,uB]
theorem QJ(lo hi x:Int):Ev (λn=>FH n lo hi [x]) (CW lo hi x):=(rx lo hi [x] (by simp)).eq (by simp)
theorem bA(lo hi x y:Int):Ev (λn=>FH n lo hi [x,y]) (CW lo hi x&&CW lo hi y):=(rx lo hi [x,y] (by simp)).eq (by simp)
theorem xq(k:Int):∀(m:Nat) (l:AA Bo),CG l<=m->AI l<=1048576->(∀x∈l,Bo.wf x)->Ev (λn=>KH n l k) (Cm k l):=by
 intro m
 induction m with
 |zero=>
  intro l d f e;cases l with
  |nil=>
   refine QX ?_;exact JF [] (F1 k) (λn x=>OX (KH n) n x k) (by simp) (by simp)
  |cons p r=>
   simp only[CG,Jj]at d;omega
 |succ m h=>
  intro l d f e;refine QX ?_;rw[aN];refine JF l (F1 k) (λn x=>OX (KH n) n x k) (by omega) λp a=>?_;rw[aR];have g:=JP a;rw[Jj]at g;obtain⟨w1,w2⟩:=YT (e p a);refine Mw (λ_=>?_) (λ_=>?_)
  .exact Ea (Ea (QJ _ _ _) (Ej λ_=>Qa _)) (Qa _)
  .exact Ea (Ea (QJ _ _ _) (Ej λ_=>Ej λ_=>Ej (by grind))) (Qa _)
theorem zR(c:Bl)(w:CK c):∀(m:Nat) (l:AA Bo),CG l<=m->AI l<=1048576->(∀x∈l,Bo.wf x)->Ev (λn=>Ie n c l) (Cm ((AI c.Ar:Int)-1) l):=by
 intro m
 induction m with
 |zero=>
  intro l e j f;cases l with
  |nil=>
   refine QX ?_;show Ev (λn=>Ox (Ie n) n c []) _;exact⟨1,λn s=>by obtain⟨k,rfl⟩:∃k,n=k+1:=⟨n-1,by omega⟩;rfl⟩
  |cons p r=>
   simp only[CG,Jj]at e;omega
 |succ m h=>
  intro l e j f;refine QX ?_;show Ev (λn=>Ox (Ie n) n c l) _;rw[aN];have step:∀(i:Nat) (x:Bo),At l i x->Ev (λn=>NX n c l (Ie n) i) (bif F1 (AI c.Ar-1) x then .k (i+1)else .d (.d AD)):=by
   intro i x a;unfold NX;simp only[a.lt,a.ix,XK,a.nx];have q:=JP a.mem;rw[Jj]at q;obtain⟨w1,w2⟩:=YT (f x a.mem);refine Ea (Ej λ_=>Ea (Zy c w _) (Ej λ_=>Qa _)) (Ea (Ea (JR _ _ _) (Ej λ_=>Ej λ_=>Ej λ_=>Ea (h x.Ac (by omega) w1 w2) (Qa _))) ?_);rw[aR];cases g:(x.Ax==0)with
   |true=>
    have e0:=by simpa using g
    have:CW 1 64 x.Ax=false:=by rw[e0];rfl
    grind[Qa]
   |false=>
    generalize(CW 1 64 x.Ax&&((x.Ag==0)&&(AG (0<(AI x.Ac:Int))&&Cm (AI c.Ar-1) x.Ac)))=b;cases b<;>exact Qa _
  refine Ea (Jn l (λx=> !F1 (AI c.Ar-1) x) (λi=>(i:Int)) (Bn.d AD) (Bn.k ()) (by omega) rfl (λi x a d=>?_) (λi x a d=>?_) ?_) ?_
  .refine(step i x a).eq ?_;have:=by simpa using d
   rw[this];rfl
  .refine(step i x a).eq ?_;have:=by simpa using d
   rw[this];rfl
  .unfold NX;simp[KT];exact Qa _
  grind[Qa]
def IH(k:Int)(l:DO):Bool:=(CW 0 k l.Ai&&CW 0 k l.To)&&((CW 0 68719476736 l.BQ&&CW 0 68719476736 l.BO)&&AG (l.BQ<=l.BO))
def HO(k:Int)(x:Bw):Bool:=CW 0 k x.Ag&&(AG (1<=x.Bf)&&CW 0 1099511627776 x.BY)
def Fk(k:Int)(d:AQ):Bool:=CW 1 3 d.BS&&(CW (-1) k d.Am&&(Cm k d.Aw&&d.Ao.all (HO k)))
def IG(o:Ah):Bool:=bif o.Bg then(o.BT==0)&&(o.Ax==0)else bif o.Ax != 0 then(o.BT==0)&&CW 1 64 o.Ax else CW 0 68719476736 o.BT
def II(x:Aa):Bool:=(CW 0 120 x.Ai&&CW 0 120 x.To)&&AG (x.Ai<=x.To)
def FC(c:Bl)(p:CB):Bool:=CW 0 ((AI c.AX:Int)-1) p.AQ&&(CW (-1) ((AI c.Ae:Int)-1) p.Aa&&(CW 1 4000 p.BP&&CW 1 1125899906842624 p.A5))
def Iq(c:Bl):Bool:=(CW 0 16 c.Ak.BW&&CW 0 16 c.Ak.BU)&&((CW 0 4294967296 c.Ak.BV&&CW 0 4294967296 c.Ak.A6)&&(CW 0 100000 c.Ak.BM&&(CW 0 1125899906842624 c.Be&&CW 0 1099511627776 c.BN)))
def CL(l:DO):Ue:={from_:=l.Ai,to_:=l.To}
def CX(p:CB):Ug:={distance:=p.AQ,category:=p.Aa,rank:=p.BP}
def CY(c:Bl):Bool:=
 let k:=(AI c.Ar:Int)-1
 c.Ar.all (λm=>CW 1 3 m.AN)&&(c.A8.all (IH k)&&(AG ((c.A8.map CL).Nodup)&&(c.AX.all (Fk k)&&(c.A9.all (λw=>CW 0 1099511627776 w.Bj)&&(c.Aq.all IG&&(c.Ae.all II&&(c.A7.all (FC c)&&(AG ((c.A7.map CX).Nodup)&&Iq c))))))))
structure DT (c:Bl):Prop where
 len:∀d∈c.AX,AI d.Aw<=1048576
 wf:∀d∈c.AX,∀x∈d.Aw,Bo.wf x
theorem Qio(l:AA DO)(d:AI l<=1048576):Ev (λn=>Sm n l) (AG ((l.map CL).Nodup)):=by
 refine Ea (nW l CL AE (by omega) (λi x m a=>?_) (λm=>?_)) ((Qa _).eq ?_)
 .unfold SQ TJ;simp only[a.lt,a.ix,a.nx];exact Qa _
 .simp_all[SQ,Qa]
 .rw[XZ];simp[Vy,Vs]
  grind[uL]
theorem Qgq(l:AA CB)(d:AI l<=1048576):Ev (λn=>TA n l) (AG ((l.map CX).Nodup)):=by
 refine Ea (nW l CX AE (by omega) (λi x m a=>?_) (λm=>?_)) ((Qa _).eq ?_)
 .unfold SS TB;simp only[a.lt,a.ix,a.nx];exact Qa _
 .simp_all[SS,Qa]
 .rw[XZ];simp[Vy,Vs]
  grind[uL]
theorem QkL(c:Bl)(w:CK c)(q:DT c):Ev (λn=>OB n c) (CY c):=by
 unfold OB CY;rw[R5 w.mats];refine Ea (v:=_) ?_ (Qa _);have i:Ev (λn=>Ny n c.Ar) (c.Ar.all λm=>CW 1 3 m.AN):=by
  unfold Ny TM S5;refine JF c.Ar _ (λn x=>Nj n x) (by have:=w.mats;omega) λx a=>?_;unfold Nj;exact Ea (QJ _ _ _) (Qa _)
 have g:Ev (λn=>Nu n c.A8 ((AI c.Ar:Int)-1)) (c.A8.all (IH ((AI c.Ar:Int)-1))):=by
  unfold Nu TD TK;refine JF c.A8 _ (λn x=>OD n x _) (by have:=w.legs;omega) λx a=>?_;unfold OD;exact Ea (Ea (bA _ _ _ _) (Ej λ_=>Ea (bA _ _ _ _) (Ej λ_=>Qa _))) (Qa _)
 have e:Ev (λn=>Nl n c.AX ((AI c.Ar:Int)-1)) (c.AX.all (Fk ((AI c.Ar:Int)-1))):=by
  unfold Nl Sz TR;refine JF c.AX _ (λn x=>N5 n x _) (by have:=w.dist;omega) λx a=>?_;unfold N5;have j:Ev (λn=>OR n x.Ao ((AI c.Ar:Int)-1)) (x.Ao.all (HO ((AI c.Ar:Int)-1))):=by
   unfold OR Sn TI;refine JF x.Ao _ (λn x=>N1 n x _) (by have:=w.cut x a;omega) λy l=>?_;unfold N1;exact Ea (Ea (QJ _ _ _) (Ej λ_=>Ej λ_=>Ea (QJ _ _ _) (Qa _))) (Qa _)
  exact Ea (Ea (QJ _ _ _) (Ej λ_=>Ea (QJ _ _ _) (Ej λ_=>Ea (xq _ _ x.Aw (XU _) (q.len x a) (q.wf x a)) (Ej λ_=>Ea j (Qa _))))) (Qa _)
 have f:Ev (λn=>N6 n c.A9) (c.A9.all λw=>CW 0 1099511627776 w.Bj):=by
  unfold N6 TH St;refine JF c.A9 _ (λn x=>OF n x) (by have:=w.wave;omega) λx a=>?_;unfold OF;exact Ea (QJ _ _ _) (Qa _)
 have k:Ev (λn=>N4 n c.Aq) (c.Aq.all IG):=by
  unfold N4 So S4;refine JF c.Aq _ (λn x=>OC n x) (by have:=w.off;omega) λx a=>?_;unfold OC IG;refine Mw (λ_=>Ea (Ej λ_=>Qa _) (Qa _)) λ_=>Mw (λ_=>Ea (Ej λ_=>Ea (QJ _ _ _) (Qa _)) (Qa _)) λ_=>Ea (QJ _ _ _) (Qa _)
 have h:Ev (λn=>Nk n c.Ae) (c.Ae.all II):=by
  unfold Nk Sd S1;refine JF c.Ae _ (λn x=>OL n x) (by have:=w.cat;omega) λx a=>?_;unfold OL;exact Ea (Ea (bA _ _ _ _) (Ej λ_=>Qa _)) (Qa _)
 have d:Ev (λn=>N7 n c.A7 c) (c.A7.all (FC c)):=by
  unfold N7 SY TU;refine JF c.A7 _ (λn x=>Ns n x c) (by have:=w.prize;omega) λx a=>?_;unfold Ns;rw[R5 w.dist,R5 w.cat];exact Ea (Ea (QJ _ _ _) (Ej λ_=>Ea (QJ _ _ _) (Ej λ_=>Ea (QJ _ _ _) (Ej λ_=>Ea (QJ _ _ _) (Qa _))))) (Qa _)
 refine Ea i (Ej λ_=>Ea g (Ej λ_=>Ea (Qio _ w.legs) (Ej λ_=>Ea e (Ej λ_=>Ea f (Ej λ_=>Ea k (Ej λ_=>Ea h (Ej λ_=>Ea d (Ej λ_=>Ea (Qgq _ w.prize) (Ej λ_=>?_)))))))));exact Ea (bA _ _ _ _) (Ej λ_=>Ea (bA _ _ _ _) (Ej λ_=>Ea (QJ _ _ _) (Ej λ_=>Ea (QJ _ _ _) (Ej λ_=>Ea (QJ _ _ _) (Qa _)))))
theorem Mm{a b a' b':Int}:(({from_:=a,to_:=b}:Ue)={from_:=a',to_:=b'})↔a=a'/\b=b':=by simp
theorem Qgo(c:Bl)(w:CK c)(d:AQ)(k:AI d.Aw<=1048576)(j:∀x∈d.Aw,Bo.wf x)(l:AI d.Ao<=1048576):Ev (λn=>TN n c d) (Fk ((AI c.Ar:Int)-1) d):=by
 have step:∀(i:Nat) (x:Bw),At d.Ao i x->Ev (λn=>NJ n c d i) (bif HO (AI c.Ar-1) x then .k (i+1)else .d (.d AD)):=by
  intro i x a;unfold NJ;simp only[a.lt,a.ix,XK,a.nx];have:Ev (λn=>(K3 n c x.Ag).bind λf=>(bif (!f)then AC AE else(bif x.Bf<1 then AC AE else(Fo n x.BY 0 1099511627776).bind λg=>AC (!g)))) (!HO (AI c.Ar-1) x):=by
   refine Ea (Zy c w _) (Ey (Ex λ_=>Ex λ_=>Ea (JR _ _ _) (Qa _)) ?_)
   grind[HO]
  refine Ea this ?_
  grind[Qa]
 refine Ea (Jn d.Ao (λx=> !HO (AI c.Ar-1) x) (λi=>(i:Int)) (Bn.d AD) (Bn.k ()) (by omega) rfl (λi x a h=>?_) (λi x a h=>?_) ?_) ?_
 .grind
 .grind
 .simp_all[NJ,Qa]
 .have e:d.Ao.any (λx=> !HO (AI c.Ar-1) x)= !d.Ao.all (HO (AI c.Ar-1)):=by grind
  rw[e];unfold Fk;have m:CW (-1) (AI c.Ar-1) d.Am=((d.Am== -1)||CW 0 (AI c.Ar-1) d.Am):=by
   unfold CW
   grind
  cases d.Ao.all (HO (AI c.Ar-1))with
  |false=>
   simp[Bool.and_false];exact Qa _
  |true=>
   simp only[Bool.and_true];refine Ea (Ea (JR _ _ _) ((Ej λ_=>Ea (zR c w _ d.Aw (XU _) k j) (Ej λ_=>Ex λ_=>Ea (Zy c w _) (Qa _))).eq ?_)) (Qa _)
   grind
theorem Y2{α B:Type}{step:Nat->Int->AB (Bn Int B)}(l:AA α)(ok:α->Bool)(a b:B)(f:AI l<=4611686018427387904)
  (j:∀i x,At l i x->Ev (λn=>step n (i:Int)) (bif ok x then .k ((i+1:Nat):Int)else .d a))(h:Ev (λn=>step n (AI l:Int)) (.d b)):
  Ev (λn=>Go.Sw.iter (step n) n 0) (bif l.all ok then b else a):=by
 have e:(bif l.all ok then b else a)=bif l.any (λx=> !ok x)then a else b:=by
  grind
 rw[e];refine Jn l (λx=> !ok x) (λi=>(i:Int)) a b f rfl (λi x g d=>?_) (λi x g d=>?_) h
 .grind
 grind
theorem Qih(c:Bl)(w:CK c)(q:DT c):Ev (λn=>OV n c) (CY c):=by
 unfold OV CY;have H:Ev (λn=>iter (NU n c) n 0) (bif c.Ar.all (λm=>CW 1 3 m.AN)then Bn.k ()else Bn.d AD):=by
  refine Y2 c.Ar _ _ _ (by have:=w.mats;omega) (λi x a=>?_) ?_
  .unfold NU;simp only[a.lt,Vq,a.ix,XK,a.nx];refine Ea (JR _ _ _) ?_;cases CW 1 3 x.AN<;>exact Qa _
  simp_all[NU,Qa]
 have G:Ev (λn=>iter (J3 n c) n 0) (bif c.A8.all (IH ((AI c.Ar:Int)-1))&&AG ((c.A8.map CL).Nodup)then Bn.k ()else Bn.d AD):=by
  have first:∀x:DO,Ev (λn=>((K3 n c x.Ai).bind λu=>(bif (!u)then AC AE else(K3 n c x.To).bind λt=>(bif (!t)then AC AE else(bif x.BQ<0 then AC AE else(bif x.BO<x.BQ then AC AE else AC (AG (68719476736<x.BO)))))):AB Bool)) (!IH ((AI c.Ar:Int)-1) x):=by
   intro x;refine Ea (Zy c w _) (Ey (Ex λ_=>Ea (Zy c w _) (Ex λ_=>Ex λ_=>Ex λ_=>Qa _)) ?_);unfold IH CW
   grind
  have Ci:∀(i:Nat) (x:DO),At c.A8 i x->Ev (λn=>iter (K_ n c (i:Int) x) n 0) (bif ((c.A8.take i).map CL).contains (CL x)then Bn.d (Bn.d (Bn.d AD))else Bn.k ()):=by
   intro i x a;have F:=a.lt';refine rM c.A8 i CL (CL x) _ _ (by have:=w.legs;omega) (by omega) (λj y E k g=>?_) (λj y E k g=>?_) ?_
   .unfold K_;rw[QV (show(j:Int)<(i:Int)by omega)];simp only[Vq,k.ix,XK,k.nx];have h:¬(y.Ai=x.Ai/\y.To=x.To):=by simpa[CL]using g
    refine Ea (Ej λ_=>Qa _) ?_;have e:((y.Ai==x.Ai)&&(y.To==x.To))=false:=by
     grind
    rw[e];exact Qa _
   .unfold K_;rw[QV (show(j:Int)<(i:Int)by omega)];simp only[Vq,k.ix,XK,k.nx]
    simp_all[CL,Qa]
   grind[K_,Qa]
  refine pA c.A8 (IH ((AI c.Ar:Int)-1)) CL _ _ (by have:=w.legs;omega) (λi x a d g=>?_) (λi x a d=>?_) (λi x a d g=>?_) ?_
  .unfold J3;simp only[a.lt,Vq,a.ix,XK,a.nx];have f:=first x;rw[d]at f
   have l:=Ci i x a;rw[g]at l;exact Ea f (Qy (Ea l (Qa _)))
  .unfold J3;simp only[a.lt,Vq,a.ix,XK,a.nx];have f:=first x;rw[d]at f
   exact Ea f (Qa _)
  .unfold J3;simp only[a.lt,Vq,a.ix,XK,a.nx];have f:=first x;rw[d]at f
   have l:=Ci i x a;rw[g]at l;exact Ea f (Qy (Ea l (Qa _)))
  simp_all[J3,Qa]
 have J:Ev (λn=>iter (NL n c) n 0) (bif c.AX.all (Fk ((AI c.Ar:Int)-1))then Bn.k ()else Bn.d AD):=by
  refine Y2 c.AX _ _ _ (by have:=w.dist;omega) (λi x a=>?_) ?_
  .unfold NL;simp only[a.lt,Vq,a.ix,XK,a.nx];refine Ea (Qgo c w x (q.len x a.mem) (q.wf x a.mem) (w.cut x a.mem)) ?_;cases Fk ((AI c.Ar:Int)-1) x<;>exact Qa _
  .unfold NL;simp only[KT,Vr];exact Qa _
 have N:Ev (λn=>iter (NR n c) n 0) (bif c.A9.all (λw=>CW 0 1099511627776 w.Bj)then Bn.k ()else Bn.d AD):=by
  refine Y2 c.A9 _ _ _ (by have:=w.wave;omega) (λi x a=>?_) ?_
  .unfold NR;simp only[a.lt,Vq,a.ix,XK,a.nx];refine Ea (JR _ _ _) ?_;cases CW 0 1099511627776 x.Bj<;>exact Qa _
  .unfold NR;simp only[KT,Vr];exact Qa _
 have L:Ev (λn=>iter (NN n c) n 0) (bif c.Aq.all IG then Bn.k ()else Bn.d AD):=by
  refine Y2 c.Aq _ _ _ (by have:=w.off;omega) (λi x a=>?_) ?_
  .unfold NN;simp only[a.lt,Vq,a.ix,XK,a.nx];refine Ea (Ea (JR _ _ _) (Ej λ_=>Ej λ_=>Qa _)) ?_;refine Ea (Ej λ_=>Ea (JR _ _ _) (Ej λ_=>Qa _)) ?_;refine Ea (Ej λ_=>Ej λ_=>Qa _) ?_;refine Ea (Ej λ_=>Ej λ_=>Qa _) ?_;have e:IG x= !(!(CW 0 68719476736 x.BT&&((x.Ax==0)&& !x.Bg))&&(!((x.BT==0)&&(CW 1 64 x.Ax&& !x.Bg))&& !((x.BT==0)&&((x.Ax==0)&&x.Bg)))):=by
    unfold IG CW;cases x.Bg with
    |true=>
     rw[XZ];simp
    |false=>
     by_cases h:x.Ax=0
     iterate 2 rw[XZ];simp[h]
   rw[e];generalize(!(CW 0 68719476736 x.BT&&((x.Ax==0)&& !x.Bg))&&(!((x.BT==0)&&(CW 1 64 x.Ax&& !x.Bg))&& !((x.BT==0)&&((x.Ax==0)&&x.Bg))))=b;cases b<;>exact Qa _
  .unfold NN;simp only[KT,Vr];exact Qa _
 have O:Ev (λn=>iter (NW n c) n 0) (bif c.Ae.all II then Bn.k ()else Bn.d AD):=by
  refine Y2 c.Ae _ _ _ (by have:=w.cat;omega) (λi x a=>?_) ?_
  .unfold NW;simp only[a.lt,Vq,a.ix,XK,a.nx];refine Ea (Ex λ_=>Ex λ_=>Qa _) ?_;have e:(AG (x.Ai<0)||(AG (x.To<x.Ai)||AG (120<x.To)))= !II x:=by
    unfold II CW;rw[XZ];simp;omega
   rw[e];cases II x<;>exact Qa _
  .unfold NW;simp only[KT,Vr];exact Qa _
 have M:Ev (λn=>iter (J2 n c) n 0) (bif c.A7.all (FC c)&&AG ((c.A7.map CX).Nodup)then Bn.k ()else Bn.d AD):=by
  have first:∀x:CB,Ev (λn=>((Fo n x.AQ 0 (i64.wrap ((AI c.AX:Int)-1))).bind λp=>(bif (!p)then AC AE else(Fo n x.Aa (-1) (i64.wrap ((AI c.Ae:Int)-1))).bind λB=>(bif (!B)then AC AE else(Fo n x.BP 1 4000).bind λs=>(bif (!s)then AC AE else(Fo n x.A5 1 1125899906842624).bind λr=>AC (!r)))):AB Bool)) (!FC c x):=by
   intro x;rw[R5 w.dist,R5 w.cat];refine Ea (JR _ _ _) (Ey (Ex λ_=>Ea (JR _ _ _) (Ex λ_=>Ea (JR _ _ _) (Ex λ_=>Ea (JR _ _ _) (Qa _)))) ?_);unfold FC;simp only[Bool.not_and]
  have Ci:∀(i:Nat) (x:CB),At c.A7 i x->Ev (λn=>iter (LW n c (i:Int) x) n 0) (bif ((c.A7.take i).map CX).contains (CX x)then Bn.d (Bn.d (Bn.d AD))else Bn.k ()):=by
   intro i x a;have F:=a.lt';refine rM c.A7 i CX (CX x) _ _ (by have:=w.prize;omega) (by omega) (λj y E k g=>?_) (λj y E k g=>?_) ?_
   .unfold LW;rw[QV (show(j:Int)<(i:Int)by omega)];simp only[Vq,k.ix,XK,k.nx];have h:¬(y.AQ=x.AQ/\y.Aa=x.Aa/\y.BP=x.BP):=by simpa[CX]using g
    refine Ea (Ej λ_=>Ej λ_=>Qa _) ?_;have e:((y.AQ==x.AQ)&&((y.Aa==x.Aa)&&(y.BP==x.BP)))=false:=by
     rw[VM];intro z;exact h (by simpa using z)
    rw[e];exact Qa _
   .unfold LW;rw[QV (show(j:Int)<(i:Int)by omega)];simp only[Vq,k.ix,XK,k.nx];have h:(y.AQ=x.AQ/\y.Aa=x.Aa/\y.BP=x.BP):=by simpa[CX]using g
    refine Ea (Ej λ_=>Ej λ_=>Qa _) ?_;have e:((y.AQ==x.AQ)&&((y.Aa==x.Aa)&&(y.BP==x.BP)))=true:=by simpa using h
    rw[e];exact Qa _
   .unfold LW;rw[Q4 (show¬(i:Int)<(i:Int)by omega)];exact Qa _
  refine pA c.A7 (FC c) CX _ _ (by have:=w.prize;omega) (λi x a d g=>?_) (λi x a d=>?_) (λi x a d g=>?_) ?_
  .unfold J2;simp only[a.lt,Vq,a.ix,XK,a.nx];have f:=first x;rw[d]at f
   have l:=Ci i x a;rw[g]at l;exact Ea f (Qy (Ea l (Qa _)))
  .unfold J2;simp only[a.lt,Vq,a.ix,XK,a.nx];have f:=first x;rw[d]at f
   exact Ea f (Qa _)
  .unfold J2;simp only[a.lt,Vq,a.ix,XK,a.nx];have f:=first x;rw[d]at f
   have l:=Ci i x a;rw[g]at l;exact Ea f (Qy (Ea l (Qa _)))
  .unfold J2;simp only[KT,Vr];exact Qa _
 refine Ea H ?_;cases c.Ar.all (λm=>CW 1 3 m.AN)with
 |false=>exact Qa _
 |true=>
 refine Ea G ?_;simp only[VA];rw[<- Bool.and_assoc];cases(c.A8.all (IH ((AI c.Ar:Int)-1))&&AG ((c.A8.map CL).Nodup))with
 |false=>exact Qa _
 |true=>
 refine Ea J ?_;simp only[VA];cases c.AX.all (Fk ((AI c.Ar:Int)-1))with
 |false=>exact Qa _
 |true=>
 refine Ea N ?_;simp only[VA];cases c.A9.all (λw=>CW 0 1099511627776 w.Bj)with
 |false=>exact Qa _
 |true=>
 refine Ea L ?_;simp only[VA];cases c.Aq.all IG with
 |false=>exact Qa _
 |true=>
 refine Ea O ?_;simp only[VA];cases c.Ae.all II with
 |false=>exact Qa _
 |true=>
 refine Ea M ?_;simp only[VA];rw[<- Bool.and_assoc];cases(c.A7.all (FC c)&&AG ((c.A7.map CX).Nodup))with
 |false=>exact Qa _
 |true=>
 simp only[VA];refine Ea (v:=Iq c) ?_ (Qa _);refine Ea (JR _ _ _) ((Ej λ_=>Ea (JR _ _ _) (Ej λ_=>Ea (JR _ _ _) (Ej λ_=>Ea (JR _ _ _) (Ej λ_=>Ea (JR _ _ _) (Ej λ_=>Ea (JR _ _ _) (Ej λ_=>Ea (JR _ _ _) (Qa _))))))).eq ?_);unfold Iq;simp only[Bool.and_assoc]
mutual
def cN:AP->Nat
 |⟨_,_,_,ps⟩=>1+HP ps
def HP:AA AP->Nat
 |[]=>0
 |c::r=>cN c+HP r
end
theorem Kv(c:AP):cN c=1+HP c.Ac:=by cases c;rfl
mutual
def cD:Nat->AP->Bool
 |d,⟨_,_,_,ps⟩=>L8 d ps
def L8:Nat->AA AP->Bool
 |_,[]=>AE
 |d,c::r=>AG (d<=16)&&(cD (d+1) c&&L8 d r)
end
theorem d6(d:Nat)(c:AP):cD d c=L8 d c.Ac:=by cases c;rfl
def CE(c:AP):Bool:=(c.AN==0)&&((c.BZ==0)&&((c.N==0)&&((AI c.Ac:Int)==0)))
mutual
def KO:AZ->Nat
 |⟨_,_,_,t,e⟩=>1+G_ t+G_ e
def G_:AA AZ->Nat
 |[]=>0
 |s::r=>KO s+G_ r
end
theorem T5(s:AZ):KO s=1+G_ s.BD+G_ s.BG:=by cases s;rfl
mutual
def sC:AZ->Nat
 |⟨_,_,c,t,e⟩=>(bif CE c then 0 else cN c)+Fx t+Fx e
def Fx:AA AZ->Nat
 |[]=>0
 |s::r=>sC s+Fx r
end
theorem Rj(s:AZ):sC s=(bif CE s.AP then 0 else cN s.AP)+Fx s.BD+Fx s.BG:=by cases s;rfl
mutual
def I4:Nat->AZ->Bool
 |d,⟨_,_,c,t,e⟩=>(CE c||cD 1 c)&&(G' d t&&G' d e)
def G':Nat->AA AZ->Bool
 |_,[]=>AE
 |d,s::r=>AG (d<=16)&&(I4 (d+1) s&&G' d r)
end
theorem Zx(d:Nat)(s:AZ):I4 d s=((CE s.AP||cD 1 s.AP)&&(G' d s.BD&&G' d s.BG)):=by cases s;rfl
mutual
def sZ:AZ->Nat
 |⟨_,_,c,t,e⟩=>2+cN c+HV t+HV e
def HV:AA AZ->Nat
 |[]=>0
 |s::r=>sZ s+HV r
end
theorem T6(s:AZ):sZ s=2+cN s.AP+HV s.BD+HV s.BG:=by cases s;rfl
def fS:Uf->Nat
 |.ctyping_step x=>KO x.AZ
 |.ctyping_cond _=>0
def fC:Uf->Nat
 |.ctyping_step x=>sC x.AZ
 |.ctyping_cond x=>cN x.AP
def fD(d:Nat):Uf->Bool
 |.ctyping_step x=>I4 d x.AZ
 |.ctyping_cond x=>cD d x.AP
def fZ:Uf->Nat
 |.ctyping_step x=>sZ x.AZ
 |.ctyping_cond x=>cN x.AP
def Fu(l:AA Uf):Nat:=(l.map fS).sum
def Fv(l:AA Uf):Nat:=(l.map fC).sum
def GX(l:AA Uf):Nat:=(l.map fZ).sum
def W8:Uf->Prop
 |.ctyping_step x=>AZ.wf x.AZ
 |.ctyping_cond x=>AP.wf x.AP
def Co(s:AZ):Uf:=.ctyping_step {AZ:=s}
def CI(c:AP):Uf:=.ctyping_cond {AP:=c}
theorem UT:∀l:AA AZ,Fu (l.map Co)=G_ l
 |[]=>rfl
 |s::r=>by
  have:=UT r;simp[Fu,Vk,List.sum_cons]at this⊢;rw[this];rfl
theorem US:∀l:AA AZ,Fv (l.map Co)=Fx l
 |[]=>rfl
 |s::r=>by
  have:=US r;simp[Fv,Vk,List.sum_cons]at this⊢;rw[this];rfl
theorem aK:∀l:AA AZ,GX (l.map Co)=HV l
 |[]=>rfl
 |s::r=>by
  have:=aK r;simp[GX,Vk,List.sum_cons]at this⊢;rw[this];rfl
theorem mQ:∀l:AA AP,Fu (l.map CI)=0
 |[]=>rfl
 |s::r=>by
  have:=mQ r;simp only[Fu,Vk,List.sum_cons]at this⊢;rw[this];rfl
theorem mP:∀l:AA AP,Fv (l.map CI)=HP l
 |[]=>rfl
 |s::r=>by
  have:=mP r;simp[Fv,Vk,List.sum_cons]at this⊢;rw[this];rfl
theorem mR:∀l:AA AP,GX (l.map CI)=HP l
 |[]=>rfl
 |s::r=>by
  have:=mR r;simp[GX,Vk,List.sum_cons]at this⊢;rw[this];rfl
theorem fU(d:Nat):∀l:AA AZ,G' d l=((l.map Co).isEmpty||(AG (d<=16)&&(l.map Co).all (fD (d+1))))
 |[]=>rfl
 |s::r=>by
  rw[G',fU d r];simp[Vk,List.all_cons];rw[show fD (d+1) (Co s)=I4 (d+1) s from rfl]
  grind
theorem qc(d:Nat):∀l:AA AP,L8 d l=((l.map CI).isEmpty||(AG (d<=16)&&(l.map CI).all (fD (d+1))))
 |[]=>rfl
 |s::r=>by
  rw[L8,qc d r];simp[Vk,List.all_cons];rw[show fD (d+1) (CI s)=cD (d+1) s from rfl]
  grind
theorem JC{c:AP}(h:AP.wf c):AI c.Ac<=1048576/\ ∀x∈c.Ac,AP.wf x:=by
 cases c
 grind[AP.wf,t9]
theorem JA{s:AZ}(h:AZ.wf s):AP.wf s.AP/\(AI s.BD<=1048576/\ ∀x∈s.BD,AZ.wf x)/\(AI s.BG<=1048576/\ ∀x∈s.BG,AZ.wf x):=by
 cases s
 grind[AZ.wf,uD]
theorem rt(n:Nat)(c:AP):KE n {AP:=c}=AC (CE c):=by
 unfold KE CE
 grind
theorem sr(n:Nat)(c:AP):Lz n c=AC (CE c):=by
 unfold Lz CE
 grind
theorem mM(l:AA AZ)(a:AI l<=140737488):Ev (λn=>L3 n l) (l.map Co):=by
 exact Ea (Rz l Co a) (Qa _)
theorem xk(l:AA AP)(a:AI l<=140737488):Ev (λn=>Sf n l) (l.map CI):=by
 exact Ea (Rz l CI a) (Qa _)
def B4(s:AZ):AA Uf:=s.BD.map Co++s.BG.map Co
theorem nY(s:AZ)(h:AZ.wf s):Ev (λn=>KI n {AZ:=s}) (B4 s):=by
 obtain⟨_,⟨a,_⟩,⟨d,_⟩⟩:=JA h;refine Ea (mM s.BD (by omega)) (Ea (mM s.BG (by omega)) (JW (fR _ _ (by simp;omega)) (Qa _)))
theorem uF(c:AP)(h:AP.wf c):Ev (λn=>IZ n {AP:=c}) (c.Ac.map CI):=by
 obtain⟨a,_⟩:=JC h;exact Ea (xk c.Ac (by omega)) (Qa _)
def Hl(l:AA Uf)(d:Nat)(st co:Int):Bool:=l.isEmpty||(AG (d<=16)&&(l.all (fD (d+1))&&(AG (st+Fu l<=64)&&AG (co+Fv l<=256))))
def O5(l:AA Uf)(d:Nat)(st co:Int):Bool:=l.isEmpty||(l.all (fD (d+1))&&(AG (st+Fu l<=64)&&AG (co+Fv l<=256)))
def O6(f:Uf)(d:Nat)(st co:Int):Bool:=fD (d+1) f&&(AG (st+fS f<=64)&&AG (co+fC f<=256))
theorem qd(f:Uf)(l:AA Uf):Fu (f::l)=fS f+Fu l:=rfl
theorem rK(f:Uf)(l:AA Uf):Fv (f::l)=fC f+Fv l:=rfl
theorem qe(f:Uf)(l:AA Uf):GX (f::l)=fZ f+GX l:=rfl
theorem sv(l m:AA Uf):Fu (l++m)=Fu l+Fu m:=by simp[Fu]
theorem su(l m:AA Uf):Fv (l++m)=Fv l+Fv m:=by simp[Fv]
theorem sx(l m:AA Uf):GX (l++m)=GX l+GX m:=by simp[GX]
theorem yt(f:Uf)(r:AA Uf)(d:Nat)(e a:Int):O5 (f::r) d e a=(O6 f d e a&&O5 r d (e+fS f) (a+fC f)):=by
 unfold O5 O6;rw[qd,rK];cases r with
 |nil=>simp[Fu,Fv]
 |cons g r=>
  grind
theorem l8(l:AA Uf)(d:Nat)(e a:Int)(g:e<=64)(h:a<=256):Hl l d e a=AE↔(l.isEmpty||(AG (d<=16)&&l.all (fD (d+1))))=AE/\e+Fu l<=64/\a+Fv l<=256:=by
 unfold Hl;cases l with
 |nil=>simp[Fu,Fv,g,h]
 |cons f r=>
  grind
theorem QfB(s:AZ)(d:Nat):((B4 s).isEmpty||(AG (d<=16)&&(B4 s).all (fD (d+1))))=(G' d s.BD&&G' d s.BG):=by
 rw[fU,fU];unfold B4;rw[List.all_append];cases a:s.BD<;>cases e:s.BG<;>simp<;>(grind)
def oM(R:Nat->AA Uf->Int->Ud->AB (Ud×Bool))(l:AA Uf)(d:Nat)(st co:Int):Prop:=
 ∃c':Ud,Ev (λn=>R n l (d:Int) {steps:=st,conds:=co}) (c',Hl l d st co)/\(Hl l d st co=AE->c'={steps:=st+Fu l,conds:=co+Fv l})
theorem QkZ{R:Nat->AA Uf->Int->Ud->AB (Ud×Bool)}{l:AA Uf}{d:Nat}(hd:d<=16){i:Nat}{f:Uf}(P:At l i f)(hw:W8 f)
  (M:∀l' d' a e,GX l'<fZ f->AI l'<=2097152->(∀f∈l',W8 f)->d'<=17->0<=a->a<=66->(a<=65\/ ∀f∈l',∃c,f=CI c)->0<=e->e<=256->oM R l' d' a e){a e:Int}(h0:0<=a)(ac:a<=66)(u:a<=65\/ ∃c,f=CI c)(h2:0<=e)(h3:e<=256):
  ∃c':Ud,Ev (λn=>LQ n l (d:Int) (R n) ({steps:=a,conds:=e},(i:Int))) (bif O6 f d a e then .k (c',((i+1:Nat):Int))else .d (.d (c',AD)))/\(O6 f d a e=AE->c'={steps:=a+fS f,conds:=e+fC f}):=by
 unfold LQ;simp only[P.lt,Vq,P.ix,XK,P.nx];have ed:i64.wrap ((d:Int)+1)=((d+1:Nat):Int):=Qz (by omega);cases f with
 |ctyping_step x=>
  obtain⟨s⟩:=x;have h1:a<=65:=by
   rcases u with h|⟨c,h⟩
   .exact h
   .cases h
  have k:AZ.wf s:=hw;obtain⟨wc,⟨ab,J⟩,⟨ad,aa⟩⟩:=JA k;have O:i64.wrap (a+1)=a+1:=Qt (by omega) (by omega);simp only[Uf.elim,rt,XK,O];have hc:∃t:Ud,Ev (λn=>((bif (!CE s.AP)then(R n [Uf.ctyping_cond {AP:=s.AP}] 0 {steps:=a+1,conds:=e}).bind λp=>AC (p.1,(!p.2))else AC ({steps:=a+1,conds:=e},AD)):AB (Ud×Bool))) (t, !(CE s.AP||(cD 1 s.AP&&(AG (a+1<=64)&&AG (e+cN s.AP<=256)))))/\
    ((CE s.AP||(cD 1 s.AP&&(AG (a+1<=64)&&AG (e+cN s.AP<=256))))=AE->t={steps:=a+1,conds:=e+((bif CE s.AP then 0 else cN s.AP:Nat):Int)}):=by
   cases H:CE s.AP with
   |true=>
    simp_all[Qa]
   |false=>
    obtain⟨t,m,E⟩:=M [CI s.AP] 0 (a+1) e (by simp only[GX,Vk,Vl,List.sum_cons,List.sum_nil];show cN s.AP+0<sZ s;rw[T6];omega) (by simp) (by intro g j;simp only[VB]at j;subst j;exact wc) (by omega) (by omega) (by omega) (.inr (by intro g j;simp only[VB]at j;exact⟨_,j⟩)) h2 h3;have ek:Hl [CI s.AP] 0 (a+1) e=(cD 1 s.AP&&(AG (a+1<=64)&&AG (e+cN s.AP<=256))):=by
     unfold Hl;simp only[List.isEmpty_cons,Bool.false_or,List.all_cons,List.all_nil,Bool.and_true,Fu,Fv,Vk,Vl,List.sum_cons,List.sum_nil];rw[show fD (0+1) (CI s.AP)=cD 1 s.AP from rfl,show fS (CI s.AP)=0 from rfl,show fC (CI s.AP)=cN s.AP from rfl];simp
    rw[ek]at m E;refine⟨t,Ea m (Qa _),λh=>?_⟩;rw[E h];simp[Fu,Fv,show fS (CI s.AP)=0 from rfl,show fC (CI s.AP)=cN s.AP from rfl]
  obtain⟨t,m,E⟩:=hc;generalize hb:(CE s.AP||(cD 1 s.AP&&(AG (a+1<=64)&&AG (e+cN s.AP<=256))))=b at m E;have X:O6 (Uf.ctyping_step {AZ:=s}) d a e=(I4 (d+1) s&&(AG (a+KO s<=64)&&AG (e+sC s<=256))):=rfl;rw[X];cases b with
  |false=>
   have:(I4 (d+1) s&&(AG (a+KO s<=64)&&AG (e+sC s<=256)))=false:=by
    rw[VM];intro hh;simp only[XX,Vs,Zx,T5,Rj]at hh;obtain⟨⟨L,_⟩,z2,z3⟩:=hh;cases H:CE s.AP with
    |true=>rw[H]at hb;cases hb
    |false=>
     rw[H]at hb L z3;simp only[Bool.false_or]at hb L;rw[L]at hb;simp only[Vr]at z3;rw[QV (show a+1<=64 by omega),QV (show e+(cN s.AP:Int)<=256 by omega)]at hb;cases hb
   rw[this];exact⟨t,Ea m (Qa _),λh=>by cases h⟩
  |true=>
   obtain rfl:=E rfl;by_cases q:64<a+1
   .have:(I4 (d+1) s&&(AG (a+KO s<=64)&&AG (e+sC s<=256)))=false:=by
     rw[Q4 (show¬a+(KO s:Int)<=64 by rw[T5];omega)];simp
    rw[this];refine⟨{steps:=a+1,conds:=e+((bif CE s.AP then 0 else cN s.AP:Nat):Int)},Ea m ?_,λh=>by cases h⟩;simp only[Xg,Vr];refine Ea (v:=(_,AE)) ?_ (Qa _);rw[QV q];exact Qa _
   by_cases G:256<e+((bif CE s.AP then 0 else cN s.AP:Nat):Int)
   .have:(I4 (d+1) s&&(AG (a+KO s<=64)&&AG (e+sC s<=256)))=false:=by
     rw[Q4 (show¬e+(sC s:Int)<=256 by rw[Rj];omega)];simp
    rw[this];refine⟨{steps:=a+1,conds:=e+((bif CE s.AP then 0 else cN s.AP:Nat):Int)},Ea m ?_,λh=>by cases h⟩;simp only[Xg,Vr];refine Ea (v:=(_,AE)) ?_ (Qa _);rw[Q4 q,QV G];exact Qa _
   obtain⟨B,w,F⟩:=M (B4 s) (d+1) (a+1) (e+((bif CE s.AP then 0 else cN s.AP:Nat):Int)) (by
     unfold B4;rw[sx,aK,aK];show _<sZ s;rw[T6];omega) (by unfold B4;simp;omega) (by
     intro g j;unfold B4 at j;rcases VD.1 j with j|j
     .obtain⟨y,z,rfl⟩:=Xe.1 j;exact J y z
     .obtain⟨y,z,rfl⟩:=Xe.1 j;exact aa y z) (by omega) (by omega) (by omega) (.inl (by omega)) (by omega) (by omega)
   have W:Hl (B4 s) (d+1) (a+1) (e+((bif CE s.AP then 0 else cN s.AP:Nat):Int))=(I4 (d+1) s&&(AG (a+KO s<=64)&&AG (e+sC s<=256))):=by
    rw[XZ,l8 _ _ _ _ (by omega) (by omega),QfB];simp only[XX,Vs,Zx,T5,Rj];have T:Fu (B4 s)=G_ s.BD+G_ s.BG:=by unfold B4;rw[sv,UT,UT]
    have e3:Fv (B4 s)=Fx s.BD+Fx s.BG:=by unfold B4;rw[su,US,US]
    rw[T,e3];have Q:(CE s.AP||cD 1 s.AP)=true:=by
     cases H:CE s.AP with
     |true=>rfl
     |false=>
      rw[H]at hb;simp only[Bool.false_or,XX]at hb;rw[hb.1];rfl
    constructor
    .rintro⟨r,Y,V⟩;exact⟨⟨Q,r⟩,by omega,by omega⟩
    .rintro⟨⟨_,r⟩,Y,V⟩;exact⟨r,by omega,by omega⟩
   rw[W]at w F;refine⟨B,Ea m ?_,λh=>?_⟩
   .simp only[Xg,Vr];refine Ea (v:=(B, !(I4 (d+1) s&&(AG (a+KO s<=64)&&AG (e+sC s<=256))))) ?_ ?_
    .rw[Q4 q,Q4 G,ed];exact Ea (nY s k) (Ea w (Qa _))
    .cases(I4 (d+1) s&&(AG (a+KO s<=64)&&AG (e+sC s<=256)))<;>exact Qa _
   .rw[F h];have T:Fu (B4 s)=G_ s.BD+G_ s.BG:=by unfold B4;rw[sv,UT,UT]
    have e3:Fv (B4 s)=Fx s.BD+Fx s.BG:=by unfold B4;rw[su,US,US]
    rw[T,e3,show fS (Uf.ctyping_step {AZ:=s})=KO s from rfl,show fC (Uf.ctyping_step {AZ:=s})=sC s from rfl,T5,Rj];congr 1<;>omega
 |ctyping_cond x=>
  obtain⟨c⟩:=x;have k:AP.wf c:=hw;obtain⟨ae,N⟩:=JC k;have O:i64.wrap (e+1)=e+1:=Qt (by omega) (by omega);simp only[Uf.elim,O];have X:O6 (Uf.ctyping_cond {AP:=c}) d a e=(cD (d+1) c&&(AG (a<=64)&&AG (e+cN c<=256))):=by
   show(cD (d+1) c&&(AG (a+((0:Nat):Int)<=64)&&AG (e+cN c<=256)))=_;rw[show a+((0:Nat):Int)=a by omega]
  rw[X];by_cases q:64<a
  .have:(cD (d+1) c&&(AG (a<=64)&&AG (e+cN c<=256)))=false:=by
    rw[Q4 (show¬a<=64 by omega)];simp
   rw[this];refine⟨{steps:=a,conds:=e+1},?_,λh=>by cases h⟩;refine Ea (v:=(_,AE)) ?_ (Qa _);rw[QV q];exact Qa _
  by_cases G:256<e+1
  .have:(cD (d+1) c&&(AG (a<=64)&&AG (e+cN c<=256)))=false:=by
    rw[Q4 (show¬e+(cN c:Int)<=256 by rw[Kv];omega)];simp
   rw[this];refine⟨{steps:=a,conds:=e+1},?_,λh=>by cases h⟩;refine Ea (v:=(_,AE)) ?_ (Qa _);rw[Q4 q,QV G];exact Qa _
  obtain⟨B,w,F⟩:=M (c.Ac.map CI) (d+1) a (e+1) (by
    rw[mR];show _<cN c;rw[Kv];omega) (by simp;omega) (by
    intro g j;obtain⟨y,z,rfl⟩:=Xe.1 j;exact N y z) (by omega) (by omega) (by omega) (.inl (by omega)) (by omega) (by omega)
  have W:Hl (c.Ac.map CI) (d+1) a (e+1)=(cD (d+1) c&&(AG (a<=64)&&AG (e+cN c<=256))):=by
   rw[XZ,l8 _ _ _ _ (by omega) (by omega), <- qc,mQ,mP];simp only[XX,Vs,d6,Kv];constructor
   iterate 2 rintro⟨r,Y,V⟩;exact⟨r,by omega,by omega⟩
  rw[W]at w F;refine⟨B,?_,λh=>?_⟩
  .refine Ea (v:=(B, !(cD (d+1) c&&(AG (a<=64)&&AG (e+cN c<=256))))) ?_ ?_
   .rw[Q4 q,Q4 G,ed];exact Ea (uF c k) (Ea w (Qa _))
   .cases(cD (d+1) c&&(AG (a<=64)&&AG (e+cN c<=256)))<;>exact Qa _
  .rw[F h,mQ,mP,show fS (Uf.ctyping_cond {AP:=c})=0 from rfl,show fC (Uf.ctyping_cond {AP:=c})=cN c from rfl,Kv];congr 1;omega
theorem xl:∀(m:Nat) (l:AA Uf) (d:Nat) (a e:Int),GX l<=m->AI l<=2097152->(∀f∈l,W8 f)->d<=17->0<=a->a<=66->(a<=65\/ ∀f∈l,∃c,f=CI c)->0<=e->e<=256->oM ML l d a e:=by
 intro m
 induction m using Nat.strongRecOn with
 |_ m t=>
 intro l d a e hm hl hw hd h0 X z W h3;unfold oM;have G:∀c:Ud,(∃g:Ud,Ev (λn=>gH (ML n) n l (d:Int) c) (g,Hl l d a e)/\(Hl l d a e=AE->g={steps:=a+Fu l,conds:=e+Fv l}))->∃g:Ud,Ev (λn=>ML n l (d:Int) c) (g,Hl l d a e)/\(Hl l d a e=AE->g={steps:=a+Fu l,conds:=e+Fv l}):=by
  rintro c ⟨g,T,q2⟩;exact⟨g,QX T,q2⟩
 refine G _ ?_;unfold gH;cases j:l with
 |nil=>
  refine⟨{steps:=a,conds:=e},?_,λ_=>by simp[Fu,Fv]⟩;refine Ea (v:=Bn.k {steps:=a,conds:=e}) (Cc.ev (Ek ?_)) (Qa _);exact Qa _
 |cons f0 r0=>
 rw[<- j];have w:l.isEmpty=false:=by rw[j];rfl
 have M:0<AI l:=by rw[j];simp
 by_cases k:d<=16
 rotate_left
 .have:Hl l d a e=false:=by unfold Hl;rw[w,Q4 k];rfl
  rw[this];refine⟨{steps:=a,conds:=e},?_,λh=>by cases h⟩;rw[QV (show(0:Int)<(AI l:Int)by omega),QV (show(16:Int)<(d:Int)by omega)];exact Ea (Qa _) (Qa _)
 have y:Hl l d a e=O5 l d a e:=by unfold Hl O5;rw[QV k,VA]
 rw[y];have loop:∀(r:AA Uf) (i:Nat) (a e:Int),l.drop i=r->i<=AI l->0<=a->a<=66->(a<=65\/ ∀f∈l,∃c,f=CI c)->0<=e->e<=256->
   ∃g:Ud,Cc (λn=>LQ n l (d:Int) (ML n)) ({steps:=a,conds:=e},(i:Int)) (bif O5 r d a e then Bn.k g else Bn.d (g,AD))/\(O5 r d a e=AE->g={steps:=a+Fu r,conds:=e+Fv r}):=by
  intro r
  induction r with
  |nil=>
   intro i a e H N _ _ _ _ _;refine⟨{steps:=a,conds:=e},Ek ?_,λ_=>by simp[Fu,Fv]⟩;unfold LQ;simp only[QN H N,Vr];exact Qa _
  |cons f r E=>
   intro i a e H N g0 g1 u g2 V;obtain⟨s,B⟩:=Qx (by omega) H;have P:fZ f<=GX l:=by
    have:∀(l:AA Uf),f∈l->fZ f<=GX l:=by
     intro l
     induction l with
     |nil=>intro h;cases h
     |cons x l t=>
      intro h;rw[qe];rcases X7.1 h with rfl|h
      .omega
      .have:=t h;omega
    exact this l s.mem
   obtain⟨g,p,F⟩:=QkZ (R:=ML) k s (hw f s.mem) (λL d' a e k1 O Y k4 k5 k6 J k7 k8=>t (GX L) (by omega) L d' a e (XU _) O Y k4 k5 k6 J k7 k8) g0 g1 (u.imp id λh=>h f s.mem) g2 V;rw[yt];cases q:O6 f d a e with
   |false=>
    rw[q]at p;exact⟨g,Ek p,λh=>by cases h⟩
   |true=>
    rw[q]at p;obtain rfl:=F q;have hb:=by
     unfold O6 at q;simp only[XX,Vs]at q;exact q.2
    obtain⟨c2,Q,u2⟩:=E (i+1) (a+fS f) (e+fC f) B (by have:=s.lt';omega) (by omega) (by omega) (.inl (by omega)) (by omega) (by omega);refine⟨c2,Ez p Q,λh=>?_⟩;rw[u2 (by simpa using h),qd,rK];congr 1<;>omega
 obtain⟨g,p,F⟩:=loop l 0 a e rfl (XV _) h0 X z W h3;refine⟨g,?_,F⟩;refine Ea (v:=AD) ?_ (Qy (Ea p.ev ?_))
 .rw[QV (show(0:Int)<(AI l:Int)by omega),Q4 (show¬(16:Int)<(d:Int)by omega)];exact Qa _
 .cases O5 l d a e<;>exact Qa _
mutual
def HU:AP->Bool
 |⟨k,v,n,ps⟩=>bif k==1 then CW 1 3 v&&(CW 0 10000 n&&((AI ps:Int)==0))else
   bif k==4 then((v==0)&&(n==0))&&(((AI ps:Int)==1)&&Fs ps)else
   bif (k==2)||(k==3)then((v==0)&&(n==0))&&((AG (0<(AI ps:Int))&&AG ((AI ps:Int)<=16))&&Fs ps)else AD
def Fs:AA AP->Bool
 |[]=>AE
 |c::r=>HU c&&Fs r
end
theorem pV(c:AP):HU c=bif c.AN==1 then CW 1 3 c.BZ&&(CW 0 10000 c.N&&((AI c.Ac:Int)==0))else
   bif c.AN==4 then((c.BZ==0)&&(c.N==0))&&(((AI c.Ac:Int)==1)&&Fs c.Ac)else
   bif (c.AN==2)||(c.AN==3)then((c.BZ==0)&&(c.N==0))&&((AG (0<(AI c.Ac:Int))&&AG ((AI c.Ac:Int)<=16))&&Fs c.Ac)else false:=by cases c;rfl
theorem mB:∀l:AA AP,Fs l=l.all HU
 |[]=>rfl
 |c::r=>by rw[Fs,List.all_cons,mB r]
mutual
def O2:AZ->Bool
 |⟨k,b,c,t,e⟩=>bif k==1 then CW 1 5 b&&(CE c&&(((AI t:Int)==0)&&((AI e:Int)==0)))else
   bif k==2 then(b==0)&&(HU c&&(AG (0<(AI t:Int))&&(Dp t&&Dp e)))else AD
def Dp:AA AZ->Bool
 |[]=>AE
 |s::r=>O2 s&&Dp r
end
theorem pW(s:AZ):O2 s=bif s.AN==1 then CW 1 5 s.By&&(CE s.AP&&(((AI s.BD:Int)==0)&&((AI s.BG:Int)==0)))else
   bif s.AN==2 then(s.By==0)&&(HU s.AP&&(AG (0<(AI s.BD:Int))&&(Dp s.BD&&Dp s.BG)))else false:=by cases s;rfl
theorem mC:∀l:AA AZ,Dp l=l.all O2
 |[]=>rfl
 |c::r=>by rw[Dp,List.all_cons,mC r]
def fV:Uf->Bool
 |.ctyping_step x=>O2 x.AZ
 |.ctyping_cond x=>HU x.AP
theorem Qk5(l:AA AP):(l.map CI).any (λf=> !fV f)= !Fs l:=by
 rw[mB,List.not_all_eq_any_not,List.any_map];rfl
theorem m5(l:AA AZ):(l.map Co).any (λf=> !fV f)= !Dp l:=by
 rw[mC,List.not_all_eq_any_not,List.any_map];rfl
theorem rv{R:Nat->AA Uf->AB Bool}(c:AP)(i:AP.wf c)(h:Ev (λn=>R n (c.Ac.map CI)) (!Fs c.Ac)):
  Ev (λn=>TQ (R n) n {AP:=c}) (HU c):=by
 rw[pV];refine Ea (Ej λ_=>Qa _) (Mw (λ_=>?_) (λl=>?_))
 .exact Ea (Ea (QJ _ _ _) (Ej λ_=>Ea (QJ _ _ _) (Ej λ_=>Qa _))) (Qa _)
 .have fin:∀b,Ev (λn=>(bif b then(IZ n {AP:=c}).bind λa=>(R n a).bind λd=>AC (!d)else AC AD).bind λf=>AC f) (b&&Fs c.Ac):=by
   intro b;refine Ea ((Ej λ_=>Ea (uF c i) (Ea h (Qa _)))) ((Qa _).eq (by simp))
  cases k:(c.AN==4)with
  |true=>
   cases g:((c.BZ==0)&&(c.N==0))with
   |true=>
    grind
   |false=>
    simp_all
  |false=>
   cases j:((c.AN==2)||(c.AN==3))with
   |true=>
    have e:Ev (λn=>(bif (c.AN==2)then AC (c.AN==2)else AC (c.AN==3))) true:=by
     refine ED ?_
     grind
    cases g:((c.BZ==0)&&(c.N==0))with
    |true=>
     grind
    |false=>
     refine Ea (Ea e (Qa _)) ((fin _).eq (by simp))
   |false=>
    have e:Ev (λn=>(bif (c.AN==2)then AC (c.AN==2)else AC (c.AN==3))) false:=by
     refine ED ?_
     grind
    grind
theorem QkN:∀(m:Nat) (l:AA Uf),GX l<=m->AI l<=2097152->(∀f∈l,W8 f)->Ev (λn=>Id n l) (l.any λf=> !fV f):=by
 intro m
 induction m using Nat.strongRecOn with
 |_ m p=>
 intro l E F t;refine QX ?_;show Ev (λn=>Tf (Id n) n l) _;refine Ev.contains l _ (λn f=>Sh (Id n) n f) (by omega) λf r=>?_;have w:fZ f<=GX l:=by
  have:∀(l:AA Uf),f∈l->fZ f<=GX l:=by
   intro l
   induction l with
   |nil=>simp
   |cons x l p=>
    intro h;rw[qe]
    grind
  grind
 refine Ea (v:=fV f) ?_ (Qa _);have a:∀c:AP,AP.wf c->HP c.Ac<fZ f->Ev (λn=>Id n (c.Ac.map CI)) (!Fs c.Ac):=by
  intro c j i;rw[<- Qk5];obtain⟨w1,w2⟩:=JC j;refine p (GX (c.Ac.map CI)) (by rw[mR];omega) _ (XU _) (by simp;omega) ?_;intro g d;obtain⟨y,e,rfl⟩:=Xe.1 d;exact w2 y e
 cases f with
 |ctyping_cond x=>
  obtain⟨c⟩:=x;have j:AP.wf c:=t _ r;exact rv c j (a c j (by show HP c.Ac<cN c;rw[Kv];omega))
 |ctyping_step x=>
  obtain⟨s⟩:=x;have i:AZ.wf s:=t _ r;obtain⟨u,⟨B,k⟩,⟨z,q⟩⟩:=JA i;show Ev _ (O2 s);rw[pW];refine Mw (λ_=>?_) (λH=>Mw (λ_=>?_) λ_=>Qa _)
  .refine Ea (Ea (QJ _ _ _) (Ej λ_=>?_)) (Qa _);simp only[rt];refine Ej λ_=>Ea (nY s i) ((Qa _).eq ?_);unfold B4;rw[XZ];simp only[Vy,XX,X4,X3];omega
  .refine Ea (Ej λ_=>?_) (Qa _);refine Ea (rv s.AP u (a s.AP u (by show _<sZ s;rw[T6,Kv];omega))) (Ej λ_=>Ej λ_=>?_);refine Ea (nY s i) (Ea (p (GX (B4 s)) ?_ _ (XU _) (by unfold B4;simp;omega) ?_) ((Qa _).eq ?_))
   .have:GX (B4 s)<sZ s:=by
     unfold B4;rw[sx,aK,aK,T6];omega
    have G:fZ (Uf.ctyping_step {AZ:=s})=sZ s:=rfl;omega
   .intro g d;rcases VD.1 d with d|d
    .obtain⟨y,e,rfl⟩:=Xe.1 d;exact k y e
    .obtain⟨y,e,rfl⟩:=Xe.1 d;exact q y e
   .unfold B4;rw[List.any_append,m5,m5];simp
def F6(l:AA AZ):Bool:=G' 0 l&&(AG (G_ l<=64)&&AG (Fx l<=256))
def Fh(l:AA AZ):Int:=bif F6 l then(bif l.isEmpty|| !Dp l then 71 else 0)else 2
theorem yr(l:AA AZ):Hl (l.map Co) 0 0 0=F6 l:=by
 rw[XZ,l8 _ _ _ _ (by omega) (by omega), <- fU,UT,US];unfold F6
 grind
theorem va(l:AA AZ)(p:AI l<=1048576)(j:∀x∈l,AZ.wf x):Ev (λn=>S9 n l) (Fh l):=by
 refine Ea (mM l (by omega)) (Ea ?_ (Qa _));have a:∀f∈l.map Co,W8 f:=by
  intro g i;obtain⟨y,h,rfl⟩:=Xe.1 i;exact j y h
 obtain⟨k,d,m⟩:=xl _ (l.map Co) 0 0 0 (XU _) (by simp;omega) a (by omega) (by omega) (by omega) (.inl (by omega)) (by omega) (by omega);rw[yr]at d;have p3:=d.shift;refine Ea p3 ?_;unfold Fh;cases F6 l with
 |false=>exact Qa _
 |true=>
  have e:((AI (l.map Co):Int)==0)=l.isEmpty:=by
   cases l<;>simp;omega
  rw[e];refine Ea (Ex λ_=>Ea (QkN _ _ (XU _) (by simp;omega) a) (Qa _)) ?_
  grind[m5,Qa]
def D0(d:Nat):Int:=256*(18-(d:Int))+1000
theorem uJ:∀(m:Nat) (c:AP) (d:Nat),cN c<=m->d<=17->AP.wf c->∃v:Int,Ev (λn=>M8 n c (d:Int)) v/\0<=v/\v<=D0 d/\
  (d<=16/\cD (d+1) c=AE/\cN c<=256->v=cN c)/\(¬(d<=16/\cD (d+1) c=AE/\cN c<=256)->256<v):=by
 intro m
 induction m using Nat.strongRecOn with
 |_ m q=>
 intro c d hm hd V;obtain⟨aa,t⟩:=JC V;have F:∀{P:Int->Prop},(∃v:Int,Ev (λn=>gE (M8 n) n c (d:Int)) v/\P v)->∃v:Int,Ev (λn=>M8 n c (d:Int)) v/\P v:=by
  rintro P ⟨v,j,e⟩;exact⟨v,QX j,e⟩
 refine F ?_;unfold gE;by_cases z:d<=16
 .rw[Q4 (show¬(16:Int)<(d:Int)by omega)];have T:i64.wrap ((d:Int)+1)=((d+1:Nat):Int):=Qz (by omega);have loop:∀(r:AA AP) (i:Nat) (a:Int),c.Ac.drop i=r->i<=AI c.Ac->0<=a->a<=D0 d->
    ∃v:Int,Cc (λn=>LD n c (d:Int) (M8 n)) (a,(i:Int)) v/\0<=v/\v<=D0 d/\
     (L8 (d+1) r=AE/\a+HP r<=256->v=a+HP r)/\(¬(L8 (d+1) r=AE/\a+HP r<=256)->256<v):=by
   intro r
   induction r with
   |nil=>
    intro i a G O u j;refine⟨a,Ek ?_,u,j,λ_=>by simp[HP],λh=>?_⟩
    .unfold LD;simp only[QN G O,Vr,XK];exact Qa _
    .simp[L8,HP]at h;omega
   |cons x r E=>
    intro i a G O u j;obtain⟨g,B⟩:=Qx (by omega) G;have hx:cN x<cN c:=by
     have:∀l:AA AP,x∈l->cN x<=HP l:=by
      intro l
      induction l with
      |nil=>intro h;cases h
      |cons y l q=>
       intro h;rw[HP];rcases X7.1 h with rfl|h
       .omega
       .have:=q h;omega
     have:=this _ g.mem;rw[Kv c];omega
    by_cases f:a<=256
    .obtain⟨v,s,M,N,k,L⟩:=q (cN x) (by omega) x (d+1) (XU _) (by omega) (t x g.mem);have hB:D0 (d+1)+256=D0 d:=by unfold D0;omega
     have Y:D0 d<=6000:=by unfold D0;omega
     have W:i64.wrap (a+v)=a+v:=Qt (by omega) (by omega);obtain⟨w,R,q2,X,q4,J⟩:=E (i+1) (a+v) B (by have:=g.lt';omega) (by omega) (by omega);refine⟨w,Ez ?_ R,q2,X,?_,?_⟩
     .unfold LD;simp only[g.lt,Vq,QV f,XK,g.ix,g.nx,T];refine Ea s ?_;rw[W];exact Qa _
     .rintro⟨e,H⟩;simp only[L8,XX,Vs]at e;rw[HP]at H⊢;have:=k ⟨e.1,e.2.1,by omega⟩;subst this;rw[q4 ⟨e.2.2,by omega⟩];omega
     .intro Q;by_cases p:d+1<=16/\cD (d+1+1) x=AE/\cN x<=256
      .have:=k p;subst this;refine J λe=>Q ⟨?_,?_⟩
       .simp only[L8,XX,Vs];exact⟨p.1,p.2.1,e.1⟩
       .rw[HP];omega
      .have:=L p;exact J λe=>by omega
    .refine⟨a,Ek ?_,u,j,λh=>?_,λ_=>by omega⟩
     .unfold LD;simp only[g.lt,Vq,Q4 f,XK,Vr];exact Qa _
     .omega
  obtain⟨v,s,M,N,k,L⟩:=loop c.Ac 0 1 rfl (XV _) (by omega) (by unfold D0;omega);refine⟨v,Qy (Ea s.ev (Qa _)),M,N,?_,?_⟩
  .rintro⟨_,e,H⟩;rw[d6]at e;rw[Kv]at H⊢;rw[k ⟨e,by omega⟩];omega
  grind[d6,Kv]
 .rw[QV (show(16:Int)<(d:Int)by omega)];refine⟨1000,JZ (Qa _),by omega,by unfold D0;omega,λh=>absurd h.1 z,λ_=>by omega⟩
def DZ:Nat->Int
 |0=>10000
 |k+1=>3*DZ k
theorem fP:∀k,10000<=DZ k
 |0=>Int.le_refl _
 |k+1=>by have:=fP k;simp[DZ];omega
theorem yZ{k:Nat}(h:k<=17):DZ k<=1291401630000:=by
 have:∀j,j<=17->DZ j<=1291401630000:=by decide+kernel
 grind
def HA(d:Nat)(l:AA AZ):Prop:=G' d l=AE/\G_ l<=64/\Fx l<=256
theorem qF:∀(m:Nat) (l:AA AZ) (d:Nat),HV l<=m->d<=17->AI l<=1048576->(∀x∈l,AZ.wf x)->∃a b:Int,Ev (λn=>Pn n l (d:Int)) (a,b)/\0<=a/\0<=b/\a<=DZ (17-d)/\b<=DZ (17-d)/\
  (HA d l->a=G_ l/\b=Fx l)/\(¬HA d l->64<a\/256<b):=by
 intro m
 induction m using Nat.strongRecOn with
 |_ m G=>
 intro l d hm hd hl hw;have ab:∀{P:Int->Int->Prop},(∃a b:Int,Ev (λn=>gC (Pn n) n l (d:Int)) (a,b)/\P a b)->∃a b:Int,Ev (λn=>Pn n l (d:Int)) (a,b)/\P a b:=by
  rintro P ⟨a,b,p,j⟩;exact⟨a,b,QX p,j⟩
 refine ab ?_;unfold gC;by_cases B:0<AI l/\ ¬d<=16
 .rw[QV (show(0:Int)<(AI l:Int)by omega),QV (show(16:Int)<(d:Int)by omega)];have:=fP (17-d);refine⟨1000,1000,Ea (Qa _) (JZ (Qa _)),by omega,by omega,by omega,by omega,λh=>?_,λ_=>by omega⟩;exfalso;cases l with
  |nil=>simp at B
  |cons x r=>
   have:=h.1;simp only[G',XX,Vs]at this;omega
 .have t:Ev (λn:Nat=>((bif 0<(AI l:Int) then AC (AG (16<(d:Int)))else AC AD):AB Bool)) false:=by
   grind[Qa]
  have ed:i64.wrap ((d:Int)+1)=((d+1:Nat):Int):=Qz (by omega);have loop:∀(r:AA AZ) (i:Nat) (a b:Int),l.drop i=r->i<=AI l->0<=a->0<=b->a<=DZ (17-d)->b<=DZ (17-d)->
    ∃a' b':Int,Cc (λn=>LZ n l (d:Int) (Pn n)) (a,b,(i:Int)) (a',b')/\0<=a'/\0<=b'/\a'<=DZ (17-d)/\b'<=DZ (17-d)/\
     (G' d r=AE/\a+G_ r<=64/\b+Fx r<=256->a'=a+G_ r/\b'=b+Fx r)/\(¬(G' d r=AE/\a+G_ r<=64/\b+Fx r<=256)->64<a'\/256<b'):=by
   intro r
   induction r with
   |nil=>
    intro i a b hr hi t p j N;refine⟨a,b,Ek ?_,t,p,j,N,λ_=>by simp[G_,Fx],λh=>?_⟩
    .unfold LZ;simp only[QN hr hi,Vr,XK];exact Qa _
    .simp[G',G_,Fx]at h;omega
   |cons s r W=>
    intro i a b hr hi t p j N;obtain⟨g,aa⟩:=Qx (by omega) hr;have ag:=g.lt';have u:d<=16:=by
     omega
    have aj:sZ s<=HV l:=by
     have:∀l:AA AZ,s∈l->sZ s<=HV l:=by
      intro l
      induction l with
      |nil=>intro h;cases h
      |cons y l G=>
       intro h;rw[HV];rcases X7.1 h with rfl|h
       .omega
       .have:=G h;omega
     exact this _ g.mem
    by_cases e:a<=64/\b<=256
    .obtain⟨wc,⟨ae,Q⟩,⟨X,Y⟩⟩:=JA (hw s g.mem);have ai:=T6 s;obtain⟨w,f,p1,p2,p3,p4,p5,F,p7⟩:=G (HV s.BD) (by omega) s.BD (d+1) (XU _) (by omega) ae Q;obtain⟨y1,y2,q1,q2,q3,q4,q5,q6,q7⟩:=G (HV s.BG) (by omega) s.BG (d+1) (XU _) (by omega) X Y;have hB:DZ (17-d)=3*DZ (17-(d+1)):=by
      rw[show 17-d=(17-(d+1))+1 by omega];rfl
     have R:=fP (17-(d+1));have af:=yZ (k:=17-d) (by omega);have hc:∃z:Int,0<=z/\z<=5608/\Ev (λn=>((bif (!CE s.AP)then(Bt l (i:Int)).bind λJ=>(M8 n J.AP 0).bind λad=>AC (i64.wrap ((i64.wrap ((i64.wrap (b+f))+y2))+ad))else AC (i64.wrap ((i64.wrap (b+f))+y2))):AB Int)) (b+f+y2+z)/\
       ((CE s.AP||cD 1 s.AP)=AE/\(bif CE s.AP then 0 else cN s.AP)<=256->z=((bif CE s.AP then 0 else cN s.AP:Nat):Int))/\(¬((CE s.AP||cD 1 s.AP)=AE/\(bif CE s.AP then 0 else cN s.AP)<=256)->256<z):=by
      have e1:i64.wrap (b+f)=b+f:=Qt (by omega) (by omega);have e2:i64.wrap (b+f+y2)=b+f+y2:=Qt (by omega) (by omega);cases hz:CE s.AP with
      |true=>
       refine⟨0,by omega,by omega,?_,λ_=>by simp,λh=>absurd ⟨rfl,by simp⟩ h⟩;simp only[Xg,Vr,e1,e2];exact(Qa _).eq (by omega)
      |false=>
       obtain⟨v,u1,u2,u3,u4,u5⟩:=uJ _ s.AP 0 (XU _) (by omega) wc;have V:v<=5608:=by unfold D0 at u3;omega
       have e3:i64.wrap (b+f+y2+v)=b+f+y2+v:=Qt (by omega) (by omega);refine⟨v,u2,V,?_,λh=>?_,λh=>?_⟩
       .simp only[Xh,Vq,g.ix,XK,e1,e2];refine Ea u1 ?_;rw[e3];exact Qa _
       .simp only[Bool.false_or,Vr]at h⊢;exact u4 ⟨by omega,h.1,h.2⟩
       .simp only[Bool.false_or,Vr]at h;exact u5 λq=>h ⟨q.2.1,q.2.2⟩
     obtain⟨z,z0,z1,z2,z3,z4⟩:=hc;have e4:i64.wrap (a+1)=a+1:=Qt (by omega) (by omega);have e5:i64.wrap (a+1+w)=a+1+w:=Qt (by omega) (by omega);have e6:i64.wrap (a+1+w+y1)=a+1+w+y1:=Qt (by omega) (by omega);obtain⟨w1,w2,v1,v2,v3,v4,v5,v6,E⟩:=W (i+1) (a+1+w+y1) (b+f+y2+z) aa (by omega) (by omega) (by omega) (by omega) (by omega);refine⟨w1,w2,Ez ?_ v1,v2,v3,v4,v5,?_,?_⟩
     .unfold LZ;simp only[g.lt,Vq,QV e.1,QV e.2,XK,g.ix,g.nx,ed,sr];refine Ea p1 (Ea q1 ?_);simp only[g.ix,XK]at z2;refine Ea z2 ?_;rw[e4,e5,e6];exact Qa _
     .rintro⟨g1,g2,g3⟩;simp only[G',XX,Vs,Zx]at g1;obtain⟨ah,⟨ac,O,L⟩,M⟩:=g1;rw[G_,T5]at g2⊢;rw[Fx,Rj]at g3⊢;obtain⟨k1,k2⟩:=F ⟨O,by omega,by omega⟩;obtain⟨k3,k4⟩:=q6 ⟨L,by omega,by omega⟩;have k5:=z3 ⟨ac,by omega⟩;obtain⟨k6,k7⟩:=v6 ⟨M,by omega,by omega⟩;constructor<;>omega
     .intro hn;by_cases T:HA (d+1) s.BD
      .obtain⟨k1,k2⟩:=F T;by_cases H:HA (d+1) s.BG
       .obtain⟨k3,k4⟩:=q6 H;by_cases b3:(CE s.AP||cD 1 s.AP)=AE/\(bif CE s.AP then 0 else cN s.AP)<=256
        .have k5:=z3 b3;refine E λq=>hn ⟨?_,?_,?_⟩
         .simp only[G',XX,Vs,Zx];exact⟨u,⟨b3.1,T.1,H.1⟩,q.1⟩
         .rw[G_,T5];omega
         .rw[Fx,Rj];omega
        .have:=z4 b3;exact E λq=>by omega
       .have:=q7 H;exact E λq=>by omega
      .have:=p7 T;exact E λq=>by omega
    .refine⟨a,b,Ek ?_,t,p,j,N,λh=>?_,λ_=>?_⟩
     .unfold LZ;have:Ev (λn:Nat=>((bif (i:Int)<(AI l:Int) then(bif a<=64 then AC (AG (b<=256))else AC AD)else AC AD):AB Bool)) false:=by
       rw[g.lt];by_cases q:a<=64
       .rw[QV q,Q4 (show¬b<=256 from λz=>e ⟨q,z⟩)];exact Qa _
       .rw[Q4 q];exact Qa _
      exact Ea this (Qy (Qa _))
     iterate 2 omega
  have R:=fP (17-d);obtain⟨a,b,p1,p2,p3,p4,p5,F,p7⟩:=loop l 0 0 0 rfl (XV _) (by omega) (by omega) (by omega) (by omega);refine⟨a,b,Ea t (Qy (Ea p1.ev (Qa _))),p2,p3,p4,p5,λh=>?_,λh=>?_⟩
  .obtain⟨k1,k2⟩:=F ⟨h.1,by have:=h.2.1;omega,by have:=h.2.2;omega⟩;constructor<;>omega
  .exact p7 λq=>h ⟨q.1,by omega,by omega⟩
theorem QjF:∀(m:Nat) (c:AP),cN c<=m->AP.wf c->Ev (λn=>Ic n c) (HU c):=by
 intro m
 induction m using Nat.strongRecOn with
 |_ m r=>
 intro c w s;obtain⟨u,k⟩:=JC s;refine QX ?_;show Ev (λn=>Te (Ic n) n c) _;rw[pV];have g:∀x∈c.Ac,cN x<cN c:=by
  intro x g;have:∀l:AA AP,x∈l->cN x<=HP l:=by
   intro l
   induction l with
   |nil=>simp
   |cons y l r=>
    intro h;rw[HP]
    grind
  have:=this _ g;rw[Kv c];omega
 have loop:Ev (λn=>iter (LS n c (Ic n)) n 0) (bif c.Ac.all HU then Bn.k ()else Bn.d AD):=by
  refine Y2 c.Ac HU _ _ (by omega) (λi x a=>?_) ?_
  .unfold LS;simp only[a.lt,Vq,a.ix,XK,a.nx];refine Ea (r (cN x) (by have:=g x a.mem;omega) x (XU _) (k x a.mem)) ?_;cases HU x<;>exact Qa _
  simp_all[LS,Qa]
 have fin:Ev (λn=>((bif (c.BZ != 0)then AC AE else AC (c.N != 0)):AB Bool).bind λf=>(bif f then AC AD else(iter (LS n c (Ic n)) n 0).bind λd=>match d with|.k sb48=>(AC AE)|.d sb48=>AC sb48)) (((c.BZ==0)&&(c.N==0))&&Fs c.Ac):=by
  refine Ea (v:= !((c.BZ==0)&&(c.N==0))) (ED ?_) ?_
  .grind
  .cases((c.BZ==0)&&(c.N==0))with
   |false=>exact Qa _
   |true=>
    refine Qy (Ea loop ?_)
    grind[mB,Qa]
 refine Mw (λ_=>?_) (λz=>?_)
 .refine Ea (v:=_) ((Ej λ_=>Ej λ_=>Ej λ_=>Ej λ_=>Qa _).eq ?_) (Qa _);unfold CW
  grind
 .have e:Ev (λn:Nat=>((bif (c.AN==2)then AC (c.AN==2)else AC (c.AN==3)):AB Bool)) ((c.AN==2)||(c.AN==3)):=ED (by rw[pQ]);refine Ea e ?_;cases p:((c.AN==2)||(c.AN==3))with
  |true=>
   have q:(c.AN==4)=false:=by
    rw[VM];simp only[Bool.or_eq_true,Vy]at p;simp only[Vy,ne_eq];omega
   rw[q];have t:(bif (AI c.Ac:Int)<1 then AC AE else AC (AG (16<(AI c.Ac:Int))))=AC (!(AG (0<(AI c.Ac:Int))&&AG ((AI c.Ac:Int)<=16))):=by
    rw[qY];congr 1;rw[XZ];simp only[Bool.or_eq_true,Vs,Bool.not_eq_true',Bool.and_eq_false_iff,decide_eq_false_iff_not];omega
   rw[t];cases j:(AG (0<(AI c.Ac:Int))&&AG ((AI c.Ac:Int)<=16))with
   |false=>
    refine Ea (Qa _) ((Qa _).eq (by simp))
   |true=>
    refine Ea (Qa _) (fin.eq (by simp))
  |false=>
   simp only[Vr];cases q:(c.AN==4)with
   |true=>
    simp only[Vq];cases j:((AI c.Ac:Int)==1)with
    |false=>
     refine Ea (v:=Bn.d AD) (ED ?_) ((Qa _).eq (by simp));simp only[bne,j,Xh,Vq]
    |true=>
     refine Ea (v:=Bn.k ()) (ED ?_) (fin.eq (by simp));simp only[bne,j,Xg,Vr]
   |false=>
    refine Ea (Qa _) (Qa _)
theorem QkK(c:AP)(a:AP.wf c)(f:cD 1 c=AE)(e:cN c<=256):Ev (λn=>N2 n c) (bif HU c then 0 else 71):=by
 obtain⟨v,d,_,_,g,_⟩:=uJ _ c 0 (XU _) (by omega) a;have:=g ⟨by omega,f,e⟩;refine Ea d ?_;rw[Q4 (show¬256<v by omega)];refine Qy (Ea (QjF _ c (XU _) a) ?_);cases HU c<;>exact Qa _
theorem zF{c:AP}(h:CE c=AE):cD 1 c=AE/\cN c<=256:=by
 unfold CE at h;simp only[XX,Vy]at h;have:c.Ac=[]:=(by simp_all);rw[d6,Kv,this];exact⟨rfl,by simp[HP]⟩
theorem QjD:∀(m:Nat) (l:AA AZ) (d:Nat),HV l<=m->AI l<=1048576->(∀x∈l,AZ.wf x)->G' d l=AE->Fx l<=256->Ev (λn=>K4 n l) (Dp l):=by
 intro m
 induction m using Nat.strongRecOn with
 |_ m w=>
 intro l d hm hl L G hc;refine QX ?_;show Ev (λn=>gG (K4 n) n l) _;unfold gG;have j:∀s∈l,sZ s<=HV l/\I4 (d+1) s=AE/\sC s<=Fx l:=by
  intro s;have:∀l:AA AZ,s∈l->G' d l=AE->sZ s<=HV l/\I4 (d+1) s=AE/\sC s<=Fx l:=by
   intro l
   induction l with
   |nil=>simp
   |cons y l w=>
    intro h G;simp only[G',XX]at G;rw[HV,Fx]
    grind
  grind
 rw[mC];have loop:Ev (λn=>iter (ND n l (K4 n)) n 0) (bif l.all O2 then Bn.k ()else Bn.d AD):=by
  refine Y2 l O2 _ _ (by omega) (λi s p=>?_) ?_
  .obtain⟨m1,u,X⟩:=j s p.mem;obtain⟨P,⟨z,t⟩,⟨B,E⟩⟩:=JA (L s p.mem);have N:=T6 s;have k:=Rj s;rw[Zx]at u;simp only[XX]at u;obtain⟨H,W,T⟩:=u;have f:cD 1 s.AP=AE/\cN s.AP<=256:=by
    cases F:CE s.AP with
    |true=>exact zF F
    |false=>
     rw[F]at H k;simp only[Vr]at k;exact⟨by simpa using H,by omega⟩
   unfold ND;simp only[p.lt,Vq,p.ix,XK,p.nx,sr];rw[pW];cases h1:(s.AN==1)with
   |true=>
    simp only[Vq];have e:Ev (λn:Nat=>((bif s.By<1 then AC AE else(bif 5<s.By then AC AE else(bif (!CE s.AP)then AC AE else(bif ((AI s.BD:Int) != 0)then AC AE else AC ((AI s.BG:Int) != 0))))):AB Bool)) (!(CW 1 5 s.By&&(CE s.AP&&(((AI s.BD:Int)==0)&&((AI s.BG:Int)==0))))):=by
     refine(Ex λ_=>Ex λ_=>Ex λ_=>Ex λ_=>Qa _).eq ?_;unfold CW;cases CE s.AP with
     |false=>simp
     |true=>
      rw[XZ];simp only[Bool.or_eq_true,Vs,Bool.not_eq_true',Bool.and_eq_false_iff,decide_eq_false_iff_not,bne_iff_ne,ne_eq,Vz,Xg,VA,Xi,false_or];omega
    cases r:(CW 1 5 s.By&&(CE s.AP&&(((AI s.BD:Int)==0)&&((AI s.BG:Int)==0))))with
    |true=>rw[r]at e;exact Ea (Ea e (Qa _)) (Qa _)
    |false=>rw[r]at e;exact Ea (Ea e (Qa _)) (Qa _)
   |false=>
    simp only[Vr];cases Y:(s.AN==2)with
    |true=>
     simp only[Vq];have e:Ev (λn=>((bif (s.By != 0)then AC AE else(N2 n s.AP).bind λq=>(bif (q != 0)then AC AE else(bif ((AI s.BD:Int)==0)then AC AE else(K4 n s.BD).bind λg=>(bif (!g)then AC AE else(K4 n s.BG).bind λa=>AC (!a))))):AB Bool)) (!((s.By==0)&&(HU s.AP&&(AG (0<(AI s.BD:Int))&&(Dp s.BD&&Dp s.BG))))):=by
      have J:=w (HV s.BD) (by omega) s.BD (d+1) (XU _) z t W (by omega);have O:=w (HV s.BG) (by omega) s.BG (d+1) (XU _) B E T (by omega);have Q:Ev (λn=>(K4 n s.BG).bind λa=>AC (!a)) (!Dp s.BG):=Ea O (Qa _);have V:Ev (λn=>(K4 n s.BD).bind λg=>(bif (!g)then AC AE else(K4 n s.BG).bind λa=>AC (!a))) (!Dp s.BD|| !Dp s.BG):=Ea J (Ex λ_=>Q);refine(Ex λ_=>Ea (QkK s.AP P f.1 f.2) (Ex λ_=>Ex λ_=>V)).eq ?_;have M:((bif HU s.AP then(0:Int)else 71) != 0)= !HU s.AP:=by cases HU s.AP<;>rfl
      have R:((AI s.BD:Int)==0)= !decide (0<(AI s.BD:Int)):=by
       rw[XZ];simp
      rw[M,R];simp only[Bool.not_and,bne]
     cases r:((s.By==0)&&(HU s.AP&&(AG (0<(AI s.BD:Int))&&(Dp s.BD&&Dp s.BG))))with
     |true=>rw[r]at e;exact Ea (Ea e (Qa _)) (Qa _)
     |false=>rw[r]at e;exact Ea (Ea e (Qa _)) (Qa _)
    |false=>exact Ea (Qa _) (Qa _)
  simp_all[ND,Qa]
 refine Ea loop ?_;cases l.all O2<;>exact Qa _
theorem QkG(l:AA AZ)(i:AI l<=1048576)(g:∀x∈l,AZ.wf x):Ev (λn=>TX n l) (Fh l):=by
 obtain⟨a,b,m,w,t,_,_,j,r⟩:=qF _ l 0 (XU _) (by omega) i g;refine Ea m ?_;have k:F6 l=AE↔HA 0 l:=by
  unfold F6 HA;simp
 unfold Fh;cases f:F6 l with
 |false=>
  have:=r (λh=>by grind);have e:(bif 64<a then AC AE else AC (AG (256<b)))=AC true:=by
   grind
  exact Ea (ED e) (Qa _)
 |true=>
  have d:=k.1 f;obtain⟨u,s⟩:=j d;have y:=d.2.1;have p:=d.2.2;have e:(bif 64<a then AC AE else AC (AG (256<b)))=AC false:=by
   grind
  refine Ea (ED e) (Qy ?_);have q:((AI l:Int)==0)=l.isEmpty:=by
   cases l<;>simp;omega
  rw[q];refine Ea (Ex λ_=>Ea (QjD _ l 0 (XU _) i g d.1 p) (Qa _)) ?_
  grind[Qa]
mutual
def hP:Bo->Nat
 |⟨_,_,ps⟩=>bif ps.isEmpty then 0 else 1+Fy ps
def Fy:AA Bo->Nat
 |[]=>0
 |p::r=>max (hP p) (Fy r)
end
theorem ol(p:Bo):hP p=bif p.Ac.isEmpty then 0 else 1+Fy p.Ac:=by cases p;rfl
theorem qM{p:Bo}:∀{l:AA Bo},p∈l->hP p<=Fy l
 |q::r,h=>by
  simp[Fy];rcases X7.1 h with rfl|h
  .omega
  .have:=qM h;omega
theorem qs{α:Type}(l:AA α):((AI l:Int)==0)=l.isEmpty:=by
 cases l<;>simp;omega
theorem R4:∀l:AA Bo,AI l<=CG l
 |[]=>XU _
 |p::r=>by have:=R4 r;rw[CG,Jj,X2];omega
theorem tv:∀(m:Nat) (l:AA Bo) (k:Nat),CG l<=m->k<=17->AI l<=1048576->(∀x∈l,Bo.wf x)->Ev (λn=>Po n l (k:Int)) ((min (Fy l) k:Nat):Int):=by
 intro m
 induction m using Nat.strongRecOn with
 |_ m t=>
 intro l k E B F u;refine QX ?_;show Ev (λn=>gD (Po n) n l (k:Int)) _;unfold gD;have loop:∀(r:AA Bo) (i:Nat) (a:Nat),l.drop i=r->i<=AI l->a<=k->Cc (λn=>J8 n l (k:Int) (Po n)) ((a:Int),(i:Int)) ((max a (min (Fy r) k):Nat):Int):=by
  intro r
  induction r with
  |nil=>
   intro i a g h d;refine Ek ?_;unfold J8;simp only[QN g h,Vr,XK];refine(Qa _).eq ?_;simp[Fy]
  |cons p r f=>
   intro i a g h j;obtain⟨d,e⟩:=Qx (by omega) g;obtain⟨w1,w2⟩:=YT (u p d.mem);by_cases s:0<k
   .have w:i64.wrap ((k:Int)-1)=((k-1:Nat):Int):=by rw[Qt (by omega) (by omega)];omega
    have q:=JP d.mem;rw[Jj]at q;have step:Ev (λn=>J8 n l (k:Int) (Po n) ((a:Int),(i:Int))) (.k (((max a (min (hP p) k):Nat):Int),((i+1:Nat):Int))):=by
     unfold J8;simp only[d.lt,Vq,QV (show(0:Int)<(k:Int)by omega),XK,d.ix,d.nx,w,bne,qs];rw[ol];cases z:p.Ac.isEmpty with
     |true=>
      simp_all[Qa]
     |false=>
      simp only[Xh,Vq,Vr];refine Ea (Ea (t (CG p.Ac) (by omega) p.Ac (k-1) (XU _) (by omega) w1 w2) (Qa _)) ((Qa _).eq ?_);have y:i64.wrap (1+((min (Fy p.Ac) (k-1):Nat):Int))=((1+min (Fy p.Ac) (k-1):Nat):Int):=by rw[Qt (by omega) (by omega)];omega
      rw[y];congr 2;split<;>omega
    refine(Ez step (f (i+1) _ e (by have:=d.lt';omega) (by omega))).eq ?_;rw[Fy];omega
   simp_all[Ek,J8,Qa]
 refine Ea ((loop l 0 0 rfl (XV _) (XV _)).ev) ((Qa _).eq ?_);omega
theorem tu:∀(m:Nat) (l:AA Bo),CG l<=m->AI l<=1048576->(∀x∈l,Bo.wf x)->Ev (λn=>Ih n l) ((min (CG l) 257:Nat):Int):=by
 intro m
 induction m using Nat.strongRecOn with
 |_ m w=>
 intro l B z y;refine QX ?_;show Ev (λn=>Tg (Ih n) n l) _;have loop:∀(r:AA Bo) (i:Nat) (a:Nat),l.drop i=r->i<=AI l->a<=1048576->∃b:Nat,Cc (λn=>LX n l (Ih n)) ((a:Int),(i:Int)) (b:Int)/\min b 257=min (a+(CG r-(AI r))) 257:=by
  intro r
  induction r with
  |nil=>
   intro i a h q _;refine⟨a,Ek ?_,by simp[CG]⟩;unfold LX;simp only[QN h q,Vr,XK];exact Qa _
  |cons p r f=>
   intro i a h q s;obtain⟨d,e⟩:=Qx (by omega) h;obtain⟨w1,w2⟩:=YT (y p d.mem);have u:=JP d.mem;rw[Jj]at u;have t:=R4 r;by_cases j:a<=256
   .obtain⟨b,g,k⟩:=f (i+1) (a+min (CG p.Ac) 257) e (by have:=d.lt';omega) (by omega);refine⟨b,Ez ?_ g,?_⟩
    .unfold LX;simp only[d.lt,Vq,QV (show(a:Int)<=256 by omega),XK,d.ix,d.nx];refine Ea (w (CG p.Ac) (by omega) p.Ac (XU _) w1 w2) ((Qa _).eq ?_);rw[Qt (by omega) (by omega)];congr 2
     all_goals omega
    .rw[k,CG,Jj,X2];omega
   .refine⟨a,Ek ?_,by omega⟩;unfold LX;simp only[d.lt,Vq,Q4 (show¬(a:Int)<=256 by omega),XK,Vr];exact Qa _
 obtain⟨b,g,k⟩:=loop l 0 (AI l) rfl (XV _) z;refine Ea g.ev ((Qa _).eq ?_);have:=R4 l;omega
theorem xm:∀(m:Nat) (l:AA Bo) (k:Nat),CG l<=m->Fy l<=k->k<=17->CG l<=256->(∀x∈l,Bo.wf x)->Ev (λn=>Ii n l (k:Int)) ((Fy l:Int),(CG l:Int)):=by
 intro m
 induction m using Nat.strongRecOn with
 |_ m B=>
 intro l k O P t f G;have u:=R4 l;refine QX ?_;show Ev (λn=>Oz (Ii n) n l (k:Int)) _;unfold Oz;have loop:∀(r:AA Bo) (i:Nat) (a b:Nat),l.drop i=r->i<=AI l->a<=17->b+(CG r-(AI r))<=256->Cc (λn=>LK n l (k:Int) (Ii n)) ((a:Int),(b:Int),(i:Int)) (((max a (Fy r):Nat):Int),((b+(CG r-(AI r)):Nat):Int)):=by
  intro r
  induction r with
  |nil=>
   intro i a b j w _ _;refine Ek ?_;unfold LK;simp only[QN j w,Vr,XK]
   grind[Qa,Fy,CG]
  |cons p r g=>
   intro i a b j w E q;obtain⟨d,e⟩:=Qx (by omega) j;obtain⟨w1,w2⟩:=YT (G p d.mem);have F:=JP d.mem;have h:=qM d.mem;rw[Jj]at F;have y:=R4 r;rw[CG,Jj,X2]at q;have step:Ev (λn=>LK n l (k:Int) (Ii n) ((a:Int),(b:Int),(i:Int))) (.k (((max a (hP p):Nat):Int),((b+CG p.Ac:Nat):Int),((i+1:Nat):Int))):=by
    unfold LK;simp only[d.lt,Vq,d.ix,XK,d.nx,qs];rw[ol]at h⊢;cases s:p.Ac.isEmpty with
    |true=>
     have J:p.Ac=[]:=by simpa using s
     simp only[Vq,XK];rw[J];simp only[CG,Xy,Nat.max_zero];exact Qa _
    |false=>
     rw[s]at h;simp only[Vr]at h⊢;have z:0<k:=by omega
     have H:i64.wrap ((k:Int)-1)=((k-1:Nat):Int):=by rw[Qt (by omega) (by omega)];omega
     have L:((k:Int)==0)=false:=beq_false_of_ne (by omega);rw[L,Q4 (show¬(256:Int)<(b:Int)by omega),H];simp only[Vr,XK];refine Ea (Ea (B (CG p.Ac) (by omega) p.Ac (k-1) (XU _) (by omega) (by omega) (by omega) w2) (Qa _)) ((Qa _).eq ?_);have N:i64.wrap ((Fy p.Ac:Int)+1)=((Fy p.Ac+1:Nat):Int):=Qz (by omega);have M:i64.wrap ((b:Int)+(CG p.Ac:Int))=((b+CG p.Ac:Nat):Int):=by rw[Qt (by omega) (by omega)];omega
     simp only[N,M];congr 2;split<;>omega
   refine(Ez step (g (i+1) _ _ e (by have:=d.lt';omega) (by omega) (by omega))).eq ?_;rw[Fy,CG,Jj,X2];congr 1<;>omega
 refine Ea ((loop l 0 0 (AI l) rfl (XV _) (by omega) (by omega)).ev) ((Qa _).eq ?_)
 grind
def Df:Nat->AA Int->AA Int->AA Int
 |0,out,_=>out
 |k+1,out,lap=>if 256<AI out then out else Df k (out++lap) lap
mutual
def Ft:Bo->AA Int
 |⟨m,laps,ps⟩=>bif 0<laps then C4 [] ps else[m]
def C4:AA Int->AA Bo->AA Int
 |out,[]=>out
 |out,p::r=>C4 (Df (p.Ax.toNat+(bif 0<p.Ax then 0 else 1)) out (Ft p)) r
end
theorem UG(p:Bo):Ft p=bif 0<p.Ax then C4 [] p.Ac else[p.Ag]:=by cases p;rfl
theorem fM{k:Nat}{a d:AA Int}(h:256<AI a):Df k a d=a:=by
 cases k with
 |zero=>rfl
 |succ k=>rw[Df,Vu h]
theorem mN:∀(l:AA Bo) {out:AA Int},256<AI out->C4 out l=out
 |[],out,h=>by rw[C4]
 |p::r,out,h=>by rw[C4,fM h];exact mN r h
theorem fN:∀(k:Nat) (out lap:AA Int),AI (Df k out lap)<=max (AI out) (256+AI lap)
 |0,out,lap=>by rw[Df];omega
 |k+1,out,lap=>by
  rw[Df];split
  .omega
  .have:=fN k (out++lap) lap
   grind
theorem mO:∀(m:Nat) (l:AA Bo) (a:AA Int),CG l<=m->AI (C4 a l)<=max (AI a) (256+257*CG l):=by
 intro m
 induction m using Nat.strongRecOn with
 |_ m g=>
 intro l;have e:∀p∈l,CG l<=m->AI (Ft p)<=257*Th p:=by
  intro p f n;have k:=JP f;rw[UG,Jj]at*;cases AG (0<p.Ax)with
  |true=>
   have:=g (CG p.Ac) (by omega) p.Ac [] (XU _)
   grind
  |false=>simp;omega
 have j:∀(r:AA Bo) (a:AA Int),(∀p∈r,AI (Ft p)<=257*Th p)->AI (C4 a r)<=max (AI a) (256+257*CG r):=by
  intro r
  induction r with
  |nil=>intro a _;rw[C4];omega
  |cons p r d=>
   intro a i;rw[C4,CG];have s:=d (Df (p.Ax.toNat+(bif 0<p.Ax then 0 else 1)) a (Ft p)) λq h=>i q (by simp[h])
   grind[fN]
 grind
theorem qo(p:Bo):AI (Ft p)<=257*Th p:=by
 rw[UG,Jj];cases AG (0<p.Ax)with
 |true=>
  have:=mO _ p.Ac [] (XU _)
  grind
 |false=>simp;omega
theorem zN(Y:Int):∀(m:Nat) (l:AA Bo),CG l<=m->CG l<=256->AI l<=1048576->(∀x∈l,Bo.wf x)->Cm Y l=AE->Ev (λn=>Ij n l) (C4 [] l):=by
 intro m
 induction m using Nat.strongRecOn with
 |_ m T=>
 intro l hm J hl X O;rw[aN,Xu]at O;refine QX ?_;show Ev (λn=>O0 (Ij n) n l) _;unfold O0;have Ci:∀(p:Bo) (e:AA Int) (g:p.Ax=0\/0<p.Ax/\p.Ax<=64) (B:AI e<=100000) (j:Nat) (k:Nat) (a:AA Int),j+k=p.Ax.toNat+(bif 0<p.Ax then 0 else 1)->AI a<=200000->
   ∃d:Bn (AA Int) (Bn ((AA Int)×Int) (Bn (AA Int) (AA Int))),Cc (λn=>LH n p e) (a,(j:Int)) d/\
    (d=.k (Df k a e)\/(256<AI (Df k a e)/\d=.d (.d (.d (Df k a e))))):=by
  intro p e g B j k
  induction k generalizing j with
  |zero=>
   intro a y _;refine⟨_,Ek (b:=.k a) ?_,.inl rfl⟩;unfold LH;have:¬((j:Int)<if p.Ax<1 then 1 else p.Ax):=by
    grind
   rw[Q4 this];exact Qa _
  |succ k G=>
   intro a y F;have u:((j:Int)<if p.Ax<1 then 1 else p.Ax):=by
    rcases g with h|⟨h,h'⟩
    .rw[h]at y⊢;simp at y⊢;omega
    .rw[QV h]at y;simp at y;rw[Vt (by omega)];omega
   by_cases t:256<AI a
   .refine⟨_,Ek (b:=.d (.d (.d a))) ?_,.inr ⟨by rw[fM t];exact t,by rw[fM t]⟩⟩;unfold LH;rw[QV u,QV (show(256:Int)<(AI a:Int)by omega)];exact Qa _
   .obtain⟨d,s,z⟩:=G (j+1) (a++e) (by omega) (by rw[X4];omega);refine⟨d,Ez ?_ s,by rw[Df,Vt t];exact z⟩;unfold LH;rw[QV u,Q4 (show¬(256:Int)<(AI a:Int)by omega)];refine JZ (Qy (JW (fR a e (by omega)) ?_));rw[Qz (by omega)];exact Qa _
 have loop:∀(r:AA Bo) (i:Nat) (a:AA Int),l.drop i=r->i<=AI l->AI a<=100000->
   ∃d:Bn (AA Int) (AA Int),Cc (λn=>LO n l (Ij n)) (a,(i:Int)) d/\(d=.k (C4 a r)\/d=.d (C4 a r)):=by
  intro r
  induction r with
  |nil=>
   intro i a N Q _;refine⟨.k a,Ek ?_,.inl (by rw[C4])⟩;unfold LO;simp only[QN N Q,Vr];exact Qa _
  |cons p r L=>
   intro i a N Q F;obtain⟨f,H⟩:=Qx (by omega) N;have u:=f.lt';have W:=JP f.mem;obtain⟨w1,w2⟩:=YT (X p f.mem);have g:=O p f.mem;rw[aR]at g;have q:p.Ax=0\/0<p.Ax/\p.Ax<=64:=by
    cases P:(p.Ax==0)with
    |true=>exact .inl (by simpa using P)
    |false=>
     rw[P]at g;simp only[Vr,CW,XX,Vs]at g;exact .inr ⟨by omega,by omega⟩
   have V:=qo p;have t:Ev (λn=>((bif 0<p.Ax then(Ij n p.Ac).bind λM=>AC M else AC [p.Ag]):AB (AA Int))) (Ft p):=by
    rw[UG];refine Mw (λh=>?_) (λ_=>Qa _);rw[Jj]at W;refine Ea (T (CG p.Ac) (by omega) p.Ac (XU _) (by omega) w1 w2 ?_) (Qa _);have:(p.Ax==0)=false:=by
     simp only[Vs]at h;exact beq_false_of_ne (by omega)
    rw[this]at g;simp only[Vr,XX]at g;exact g.2.2.2
   obtain⟨d,s,z⟩:=Ci p (Ft p) q (by omega) 0 _ a (Xx _) (by omega);rw[C4];rcases z with rfl|⟨E,rfl⟩
   .obtain⟨w,R,q2⟩:=L (i+1) (Df (p.Ax.toNat+(bif 0<p.Ax then 0 else 1)) a (Ft p)) H (by omega) (by
     have:=fN (p.Ax.toNat+(bif 0<p.Ax then 0 else 1)) a (Ft p);omega)
    refine⟨w,Ez ?_ R,q2⟩;unfold LO;simp only[f.lt,Vq,f.ix,XK,f.nx];exact Ea t (Ea s.ev (Qa _))
   .refine⟨.d (Df (p.Ax.toNat+(bif 0<p.Ax then 0 else 1)) a (Ft p)),Ek ?_,.inr (by rw[mN r E])⟩;unfold LO;simp only[f.lt,Vq,f.ix,XK,f.nx];exact Ea t (Ea s.ev (Qa _))
 obtain⟨d,s,z⟩:=loop l 0 [] rfl (XV _) (by simp);rcases z with rfl|rfl
 iterate 2 exact Ea s.ev (Qa _)
theorem Qij(Q:Int):∀(m:Nat) (l:AA Bo),CG l<=m->CG l<=256->AI l<=1048576->(∀x∈l,Bo.wf x)->Cm Q l=AE->Ev (λn=>KJ n l) (C4 [] l):=by
 intro m
 induction m using Nat.strongRecOn with
 |_ m L=>
 intro l T z V N F;rw[aN,Xu]at F;refine QX ?_;show Ev (λn=>Ou (KJ n) n l) _;unfold Ou;have Ci:∀(p:Bo) (i:Nat) (e:At l i p) (H:AA Int) (f:AA Int) (g:0<p.Ax/\p.Ax<=64) (q:AI f<=100000) (j:Nat) (k:Nat) (a:AA Int),j+k=p.Ax.toNat->AI a<=200000->
   Cc (λn=>K8 n l (H,(i:Int)) f) (a,(j:Int)) (Df k a f):=by
  intro p i e H f g q j k
  induction k generalizing j with
  |zero=>
   intro a P _;refine Ek ?_;unfold K8;simp only[e.ix,XK];rw[Q4 (show¬(j:Int)<p.Ax by omega)];exact Qa _
  |succ k w=>
   intro a P s;by_cases h:256<AI a
   .refine Ek ?_;rw[fM h];unfold K8;simp only[e.ix,XK];rw[QV (show(j:Int)<p.Ax by omega),Q4 (show¬(AI a:Int)<=256 by omega)];exact Qa _
   .rw[Df,Vt h];refine Ez ?_ (w (j+1) (a++f) (by omega) (by rw[X4];omega));unfold K8;simp only[e.ix,XK];rw[QV (show(j:Int)<p.Ax by omega),QV (show(AI a:Int)<=256 by omega)];simp only[Vq,XK];refine JW (fR a f (by omega)) ?_;rw[Qz (by omega)];exact Qa _
 have loop:∀(r:AA Bo) (i:Nat) (a:AA Int),l.drop i=r->i<=AI l->AI a<=100000->
   Cc (λn=>LM n l (KJ n)) (a,(i:Int)) (C4 a r):=by
  intro r
  induction r with
  |nil=>
   intro i a E J _;refine Ek ?_;rw[C4];unfold LM;simp only[QN E J,Vr,XK];exact Qa _
  |cons p r B=>
   intro i a E J s;obtain⟨e,y⟩:=Qx (by omega) E;have R:=e.lt';have M:=JP e.mem;by_cases h:256<AI a
   .rw[mN _ h];refine Ek ?_;unfold LM;simp only[e.lt,Vq,Q4 (show¬(AI a:Int)<=256 by omega),XK,Vr];exact Qa _
   obtain⟨w1,w2⟩:=YT (N p e.mem);have g:=F p e.mem;rw[aR]at g;have t:=qo p;rw[C4];refine Ez ?_ (B (i+1) _ y (by omega) (by
    have:=fN (p.Ax.toNat+(bif 0<p.Ax then 0 else 1)) a (Ft p);omega))
   unfold LM;simp only[e.lt,Vq,QV (show(AI a:Int)<=256 by omega),XK,e.ix,e.nx];cases G:(p.Ax==0)with
   |true=>
    have O:p.Ax=0:=by simpa using G
    simp only[Vq];refine Ea (JW (fR a [p.Ag] (by simp;omega)) (Qa _)) ((Qa _).eq ?_);rw[UG,O];simp[Df,h]
   |false=>
    rw[G]at g;simp only[Vr,XX,CW,Vs]at g;have d:0<p.Ax/\p.Ax<=64:=⟨by omega,by omega⟩;simp only[Vr];rw[Jj]at M;refine Ea (Ea (L (CG p.Ac) (by omega) p.Ac (XU _) (by omega) w1 w2 g.2.2.2) (Ea ?_ (Qa _))) (Qa _);have u:=UG p;rw[QV d.1,Vq]at u;have:=(Ci p i e a (C4 [] p.Ac) d (by rw[<- u];rw[Jj]at t;omega) 0 p.Ax.toNat a (by omega) (by omega)).ev;rw[<- u]at this⊢;rw[QV d.1];exact this
 exact Ea (loop l 0 [] rfl (XV _) (by simp)).ev (Qa _)
def B5(c:Bl)(m:Int):Int:=((c.Ar[m.toNat]?).map (·.AN)).getD 0
def CO(c:Bl)(a b:Int):Bool:=c.A8.any λl=>(l.Ai==a)&&(l.To==b)
def D5(c:Bl)(len:Nat):Nat->Int->AA Int->Bool
 |_,_,[]=>AE
 |i,prev,m::r=>((B5 c m==1)==AG (i=0))&&(((B5 c m==3)==AG (i+1=len))&&((AG (i=0)||CO c prev m)&&D5 c len (i+1) m r))
def IF(c:Bl)(d:AQ)(r:AA Int):Bool:=
 (AG (2<=AI r)&&AG (AI r<=256))&&(D5 c (AI r) 0 0 r&&((bif 0<=d.Am then !((r.count d.Am:Int)==0)&&((B5 c d.Am==2)&&CO c d.Am d.Am)else AE)&&d.Ao.all λx=>AG (x.Bf<=(r.count x.Ag:Int))))
def Dq(c:Bl)(d:AQ):Bool:=IF c d (C4 [] d.Aw)
def FG(l:AA Int):AA (Int×Int):=l.foldl (λm k=>Yp m k (QM m k 0+1)) []
theorem zk(l:AA Int)(k:Int):FG (l++[k])=Yp (FG l) k (QM (FG l) k 0+1):=by unfold FG;simp
theorem mI(l:AA Int)(k:Int):QM (FG l) k 0=(l.count k:Int):=by
 have a:∀(l:AA Int) (m:AA (Int×Int)),QM (l.foldl (λm k=>Yp m k (QM m k 0+1)) m) k 0=QM m k 0+l.count k:=by
  intro l
  induction l with
  |nil=>simp
  |cons x l d=>
   grind[tO]
 grind[FG,zd]
theorem zx(d:Int):∀(m:Nat) (l:AA Bo) (a:AA Int),CG l<=m->Cm d l=AE->(∀x∈a,0<=x/\x<=d)->∀x∈C4 a l,0<=x/\x<=d:=by
 intro m
 induction m using Nat.strongRecOn with
 |_ m t=>
 intro l;have j:∀(k:Nat) (a e:AA Int),(∀x∈a,0<=x/\x<=d)->(∀x∈e,0<=x/\x<=d)->∀x∈Df k a e,0<=x/\x<=d:=by
  intro k
  induction k with
  |zero=>intro a e u _;exact u
  |succ k y=>
   grind[Df]
 have w:∀(r:AA Bo) (a:AA Int),CG r<=m->Cm d r=AE->(∀x∈a,0<=x/\x<=d)->∀x∈C4 a r,0<=x/\x<=d:=by
  intro r
  induction r with
  |nil=>intro a _ _ h;exact h
  |cons p r i=>
   intro a s q h;rw[CG,Jj]at s;rw[Cm,XX]at q;obtain⟨f,z⟩:=q;refine i _ (by omega) z (j _ _ _ h ?_);rw[UG];rw[aR]at f;cases g:(p.Ax==0)with
   |true=>
    have e0:=by simpa using g
    rw[g,Vq,XX]at f;have:=f.1;unfold CW at this;simp[XX,Vs]at this;rw[e0];intro x n;simp at n;subst n;exact this
   |false=>
    rw[g]at f;simp[Vr,XX,CW,Vs]at f;rw[QV (show 0<p.Ax by omega),Vq];exact t (CG p.Ac) (by omega) p.Ac [] (XU _) f.2.2.2 (by simp)
 grind
theorem Z7{c:Bl}{m:Int}(e:0<=m)(d:m<=(AI c.Ar:Int)-1):∃x:Ag,Bt c.Ar m=AC x/\x.AN=B5 c m:=by
 obtain⟨k,rfl⟩:∃k:Nat,m=k:=⟨m.toNat,by omega⟩;have a:k<AI c.Ar:=by omega
 simp_all[Qi,B5]
theorem qr(c:Bl)(a b:Int):QM (Yx CL AE c.A8) {from_:=a,to_:=b} AD=CO c a b:=by
 rw[t6];by_cases h:{from_:=a,to_:=b}∈c.A8.map CL
 .rw[Vu h];obtain⟨l,d,e⟩:=Xe.1 h;obtain⟨g,f⟩:=Mm.1 e;exact(Xv.2 ⟨l,d,by simp[g,f]⟩).symm
 .rw[Vt h]
  symm
  rw[VM];intro q;obtain⟨l,d,e⟩:=Xv.1 q;simp[XX,Vy]at e
  grind[CL]
theorem pL(c:Bl)(w:CK c)(a b:Int):∃v:Int,Ev (λn=>KB n c a b) v/\AG (v<0)= !CO c a b:=by
 have t:AI c.A8<=4611686018427387904:=by have:=w.legs;omega
 have step:∀i x,At c.A8 i x->Ev (λn=>LN n c a b i) (bif (x.Ai==a)&&(x.To==b)then .d (.d i)else .k (i+1)):=by
  intro i x e;unfold LN;simp only[e.lt,e.ix,e.nx];refine Ea (Ej λ_=>Qa _) ?_
  grind[Qa]
 have loop:∀(r:AA DO) (i:Nat),c.A8.drop i=r->i<=AI c.A8->∃d:Bn Unit Int,Cc (λn=>LN n c a b) i d/\((r.any λl=>(l.Ai==a)&&(l.To==b))=AE->∃j:Nat,d=.d j)/\((r.any λl=>(l.Ai==a)&&(l.To==b))=AD->d=.k ()):=by
  intro r
  induction r with
  |nil=>
   intro i m u;refine⟨.k (),Ek ?_,λh=>(by simp at h),λ_=>rfl⟩
   grind[LN,QN,Qa]
  |cons x r p=>
   intro i m u;obtain⟨e,g⟩:=Qx t m;have s:=step i x e;rw[List.any_cons];cases h:((x.Ai==a)&&(x.To==b))with
   |true=>
    rw[h]at s;exact⟨.d i,Ek s,λ_=>⟨i,rfl⟩,λh=>by simp at h⟩
   |false=>
    rw[h]at s;obtain⟨d,f,k⟩:=p (i+1) g (by have:=e.lt';omega);exact⟨d,Ez s f,by simpa using k⟩
 obtain⟨d,f,k,q⟩:=loop c.A8 0 rfl (XV _);unfold CO;cases h:c.A8.any λl=>(l.Ai==a)&&(l.To==b)with
 |true=>
  obtain⟨j,rfl⟩:=k h;exact⟨j,Ea f.ev (Qa _),by simp⟩
 |false=>
  obtain rfl:=q h;exact⟨-1,Ea f.ev (Qa _),by simp⟩
theorem rI(l:AA Int)(k:Int)(q:AI l<=1048576):Ev (λn=>Lt n l k) (l.count k:Int):=by
 have loop:∀(r:AA Int) (i:Nat) (a:Nat),l.drop i=r->i<=AI l->a<=i->Cc (λn=>LL n l k) (a,i) (a+r.count k):=by
  intro r
  induction r with
  |nil=>
   grind[Cc.done,LL,QN,Qa]
  |cons x r f=>
   intro i a p s m;obtain⟨d,e⟩:=Qx (by omega) p;have g:=d.lt';have j:i64.wrap (a+1)=a+1:=Qz (by omega);rw[List.count_cons];cases h:(x==k)with
   |true=>
    refine(Ez ?_ (f (i+1) (a+1) e (by omega) (by omega))).eq ?_
    .unfold LL;simp only[d.lt,d.ix,XK,d.nx,h,j];exact Qa _
    grind
   |false=>
    refine(Ez ?_ (f (i+1) a e (by omega) (by omega))).eq ?_
    .unfold LL;simp only[d.lt,d.ix,XK,d.nx,h];exact Qa _
    .simp
 exact Ea ((loop l 0 0 rfl (XV _) (XU _)).ev) ((Qa _).eq (by omega))
structure HF (c:Bl):Prop where
 kinds:∀m∈c.Ar,1<=m.AN/\m.AN<=3
 dist:∀d∈c.AX,-1<=d.Am/\d.Am<=(AI c.Ar:Int)-1/\Cm ((AI c.Ar:Int)-1) d.Aw=AE
theorem rP{c:Bl}(h:CY c=AE):HF c:=by
 unfold CY at h;simp[XX,Xu]at h;refine⟨λm a=>?_,λd e=>?_⟩
 .grind[CW]
 simp_all[Fk,CW]
theorem zZ{c:Bl}(q:HF c){m:Int}(d:0<=m)(a:m<=(AI c.Ar:Int)-1):1<=B5 c m/\B5 c m<=3:=by
 obtain⟨x,g,f⟩:=Z7 d a;have:=by
  obtain⟨_,e⟩:=Jw g;exact VH e
 rw[<- f];exact q.kinds x this
theorem pO{c:Bl}(q:HF c){d:AQ}(hd:d∈c.AX):∀x∈C4 [] d.Aw,0<=x/\x<=(AI c.Ar:Int)-1:=
 zx _ _ d.Aw [] (XU _) (q.dist d hd).2.2 (by simp)
theorem rh(c:Bl)(len i:Nat)(prev m:Int)(r:AA Int):D5 c len i prev (m::r)=(((B5 c m==1)==AG (i=0))&&(((B5 c m==3)==AG (i+1=len))&&((AG (i=0)||CO c prev m)&&D5 c len (i+1) m r))):=rfl
theorem qT(i:Nat):((i:Int)==0)=AG (i=0):=by
 grind
theorem QgU(c:Bl)(r:AA Int)(y:2<=AI r)(R:AI r<=256)(N:∀x∈r,0<=x/\x<=(AI c.Ar:Int)-1):
  Ev (λn=>iter (J5 n c (Yx CL AE c.A8) r) n ([],0)) (bif D5 c (AI r) 0 0 r then .k (FG r)else .d AD):=by
 have loop:∀(t:AA Int) (i:Nat) (d:Int),r.drop i=t->i<=AI r->(0<i->At r (i-1) d)->Cc (λn=>J5 n c (Yx CL AE c.A8) r) (FG (r.take i),(i:Int)) (bif D5 c (AI r) i d t then .k (FG r)else .d AD):=by
  intro t
  induction t with
  |nil=>
   intro i d q u _;refine Ek ?_;unfold J5;simp only[QN q u,Vr,D5,Vq]
   simp_all[VI,Qa]
  |cons m t z=>
   intro i d q u H;obtain⟨e,p⟩:=Qx (by omega) q;have M:=e.lt';obtain⟨J,B⟩:=N m e.mem;obtain⟨x,L,O⟩:=Z7 J B;have Q:i64.wrap ((AI r:Int)-1)=((AI r-1:Nat):Int):=by rw[Qt (by omega) (by omega)];omega
   have P:((i:Int)==((AI r-1:Nat):Int))=AG (i+1=AI r):=by grind
   have E:Ev (λn:Nat=>((bif ((x.AN==1) != ((i:Int)==0))then AC AE else(bif ((x.AN==3) != ((i:Int)==(i64.wrap ((AI r:Int)-1))))then AC AE else(bif 0<(i:Int) then(Bt r (i64.wrap ((i:Int)-1))).bind λk=>(AC (QM (Yx CL AE c.A8) ({from_:=k,to_:=m:Ue}) AD)).bind λj=>AC (!j)else AC AD))):AB Bool))
     (!(((B5 c m==1)==AG (i=0))&&(((B5 c m==3)==AG (i+1=AI r))&&(AG (i=0)||CO c d m)))):=by
    rw[O,Q,P,qT];refine Ey (Ex λ_=>Ex λ_=>Mw (v:= !CO c d m) (w:=AD) (λh=>?_) λ_=>Qa _) ?_
    .have g:0<i:=by simpa using h
     have G:i64.wrap ((i:Int)-1)=((i-1:Nat):Int):=by rw[Qt (by omega) (by omega)];omega
     rw[G,(H g).ix];simp only[XK,qr];exact Qa _
    grind
   have f:i64.wrap (QM (FG (r.take i)) m 0+1)=QM (FG (r.take i)) m 0+1:=by
    rw[mI];have:(r.take i).count m<=i:=by have:=List.count_le_length (a:=m) (l:=r.take i);simp at this;omega
    exact Qt (by omega) (by omega)
   have step:Ev (λn=>J5 n c (Yx CL AE c.A8) r (FG (r.take i),(i:Int))) (bif ((B5 c m==1)==AG (i=0))&&(((B5 c m==3)==AG (i+1=AI r))&&(AG (i=0)||CO c d m))then .k (FG (r.take (i+1)),((i+1:Nat):Int))else .d (.d AD)):=by
    unfold J5;simp only[e.lt,Vq,e.ix,XK,e.nx,L];refine Ea E ?_;rw[f, <- zk, <- e.take];cases(((B5 c m==1)==AG (i=0))&&(((B5 c m==3)==AG (i+1=AI r))&&(AG (i=0)||CO c d m)))<;>exact Qa _
   have F:D5 c (AI r) i d (m::t)=((((B5 c m==1)==AG (i=0))&&(((B5 c m==3)==AG (i+1=AI r))&&(AG (i=0)||CO c d m)))&&D5 c (AI r) (i+1) m t):=by rw[rh];simp only[Bool.and_assoc]
   rw[F];cases s:(((B5 c m==1)==AG (i=0))&&(((B5 c m==3)==AG (i+1=AI r))&&(AG (i=0)||CO c d m)))with
   |false=>
    rw[s]at step;exact Ek step
   |true=>
    rw[s]at step;rw[VA];exact Ez step (z (i+1) m p (by omega) (λ_=>by simpa using e))
 exact(loop r 0 0 rfl (XV _) (by omega)).ev
theorem QkM(c:Bl)(w:CK c)(q:HF c)(d:AQ)(e:d∈c.AX)(s:∀x∈d.Aw,Bo.wf x)(l:CG d.Aw<=256):
  Ev (λn=>N0 n c d (Yx CL AE c.A8)) (Dq c d):=by
 have k:=R4 d.Aw;have j:=pO q e;have a:=mO _ d.Aw [] (XU _);unfold N0 Dq;refine Ea (zN _ _ d.Aw (XU _) l (by omega) s (q.dist d e).2.2) ?_;generalize C4 [] d.Aw=r at j a⊢;unfold IF;have e3:=by
  have:AI r<=1048576:=by simp at a;omega
  exact R5 this
 rw[e3];have u:(AG ((AI r:Int)-1<1)||AG (256<=(AI r:Int)-1))= !(AG (2<=AI r)&&AG (AI r<=256)):=by
  grind
 refine Ea (Ey (Ex λ_=>Qa _) u) ?_;cases i:(AG (2<=AI r)&&AG (AI r<=256))with
 |false=>exact Qa _
 |true=>
  simp[XX,Vs]at i;refine Qy (Ea (QgU c r i.1 i.2 j) ?_);cases D5 c (AI r) 0 0 r with
  |false=>exact Qa _
  |true=>
   have t:Ev (λn=>(bif 0<=d.Am then(AC (QM (FG r) d.Am 0)).bind λf=>(bif (f==0)then AC AE else(Bt c.Ar d.Am).bind λg=>(bif (g.AN != 2)then AC AE else(AC (QM (Yx CL AE c.A8) ({from_:=d.Am,to_:=d.Am:Ue}) AD)).bind λh=>AC (!h)))else AC AD))
     (!(bif 0<=d.Am then !((r.count d.Am:Int)==0)&&((B5 c d.Am==2)&&CO c d.Am d.Am)else AE)):=by
    rw[mI];cases m:AG (0<=d.Am)with
    |false=>exact Qa _
    |true=>
     obtain⟨x,p,y⟩:=Z7 (by simpa using m) (q.dist d e).2.1;simp only[XK,p,qr,y];refine Ey (Ex λ_=>Ex λ_=>Qa _) ?_;rw[bne];cases((r.count d.Am:Int)==0)<;>cases(B5 c d.Am==2)<;>cases CO c d.Am d.Am<;>rfl
   refine Ea t ?_;cases(bif 0<=d.Am then !((r.count d.Am:Int)==0)&&((B5 c d.Am==2)&&CO c d.Am d.Am)else AE)with
   |false=>exact Qa _
   |true=>
    refine Qy (Ea ?_ (Qa _));refine JF d.Ao _ (λn x=>OE n x (FG r)) (by have:=w.cut d e;omega) λx _=>?_;unfold OE;rw[mI];exact Qa _
theorem Qgn(c:Bl)(w:CK c)(q:HF c)(r:AA Int)(E:2<=AI r)(W:AI r<=256)(O:∀x∈r,0<=x/\x<=(AI c.Ar:Int)-1):
  Ev (λn=>iter (J4 n c r) n 0) (bif D5 c (AI r) 0 0 r then .k ()else .d AD):=by
 have loop:∀(t:AA Int) (i:Nat) (a:Int),r.drop i=t->i<=AI r->(0<i->At r (i-1) a)->Cc (λn=>J4 n c r) (i:Int) (bif D5 c (AI r) i a t then .k ()else .d AD):=by
  intro t
  induction t with
  |nil=>
   intro i a p B _;refine Ek ?_;unfold J4;simp only[QN p B,Vr,D5,Vq];exact Qa _
  |cons m t F=>
   intro i a p B L;obtain⟨f,j⟩:=Qx (by omega) p;have N:=f.lt';obtain⟨z,u⟩:=O m f.mem;obtain⟨x,M,Q⟩:=Z7 z u;have X:=zZ q z u;have V:i64.wrap ((AI r:Int)-1)=((AI r-1:Nat):Int):=by rw[Qt (by omega) (by omega)];omega
   have R:((i:Int)==((AI r-1:Nat):Int))=AG (i+1=AI r):=by grind
   have step:Ev (λn=>J4 n c r (i:Int)) (bif ((B5 c m==1)==AG (i=0))&&(((B5 c m==3)==AG (i+1=AI r))&&(AG (i=0)||CO c a m))then .k ((i+1:Nat):Int)else .d (.d AD)):=by
    unfold J4;simp only[f.lt,Vq,f.ix,XK,f.nx,M,Q,V,R,qT];refine Ea (v:=if i=0 then 1 else if i+1=AI r then 3 else 2) (ED ?_) ?_
    .by_cases e:i=0
     .simp[e]
     .by_cases h:i+1=AI r
      iterate 2 simp[e,h]
    refine Ea (v:= !(((B5 c m==1)==AG (i=0))&&(((B5 c m==3)==AG (i+1=AI r))&&(AG (i=0)||CO c a m)))) ?_ ?_
    .have T:Ev (λn:Nat=>(bif 0<(i:Int) then(Bt r (i64.wrap ((i:Int)-1))).bind λk=>(KB n c k m).bind λl=>AC (AG (l<0))else AC AD:AB Bool)) (!(AG (i=0)||CO c a m)):=by
      by_cases e:i=0
      .subst e;exact Qa _
      .have J:i64.wrap ((i:Int)-1)=((i-1:Nat):Int):=by rw[Qt (by omega) (by omega)];omega
       obtain⟨v,G,P⟩:=pL c w a m;rw[QV (show(0:Int)<(i:Int)by omega),J,(L (by omega)).ix,Q4 e];exact Ea G ((Qa _).eq (by rw[P];rfl))
     refine Ey (Ex λ_=>T) ?_;have s:(B5 c m != if i=0 then 1 else if i+1=AI r then 3 else 2)= !(((B5 c m==1)==AG (i=0))&&((B5 c m==3)==AG (i+1=AI r))):=by
      have d:B5 c m=1\/B5 c m=2\/B5 c m=3:=by omega
      by_cases e:i=0
      .rcases d with g|g|g<;>simp[g,e,show¬1=AI r by omega]
      .by_cases h:i+1=AI r
       .rcases d with g|g|g<;>simp[g,e,h]
       .rcases d with g|g|g<;>simp[g,e,h]
     rw[s];cases((B5 c m==1)==AG (i=0))<;>cases((B5 c m==3)==AG (i+1=AI r))<;>cases(AG (i=0)||CO c a m)<;>rfl
    grind[Qa]
   have H:D5 c (AI r) i a (m::t)=((((B5 c m==1)==AG (i=0))&&(((B5 c m==3)==AG (i+1=AI r))&&(AG (i=0)||CO c a m)))&&D5 c (AI r) (i+1) m t):=by rw[rh];simp only[Bool.and_assoc]
   rw[H];cases y:(((B5 c m==1)==AG (i=0))&&(((B5 c m==3)==AG (i+1=AI r))&&(AG (i=0)||CO c a m)))with
   |false=>
    rw[y]at step;exact Ek step
   |true=>
    rw[y]at step;rw[VA];exact Ez step (F (i+1) m j (by omega) (λ_=>by simpa using f))
 exact(loop r 0 0 rfl (XV _) (by omega)).ev
theorem QjE(c:Bl)(w:CK c)(q:HF c)(d:AQ)(a:d∈c.AX)(F:∀x∈d.Aw,Bo.wf x)(z:CG d.Aw<=256):
  Ev (λn=>N9 n c d) (Dq c d):=by
 have p:=R4 d.Aw;have m:=pO q a;have g:=mO _ d.Aw [] (XU _);unfold N9 Dq;refine Ea (Qij _ _ d.Aw (XU _) z (by omega) F (q.dist d a).2.2) ?_;generalize C4 [] d.Aw=r at m g⊢;unfold IF;have G:(AG ((AI r:Int)<2)||AG (256<(AI r:Int)))= !(AG (2<=AI r)&&AG (AI r<=256)):=by
  grind
 refine Ea (Ey (Ex λ_=>Qa _) G) ?_;cases k:(AG (2<=AI r)&&AG (AI r<=256))with
 |false=>exact Qa _
 |true=>
  simp only[XX,Vs]at k;refine Qy (Ea (Qgn c w q r k.1 k.2 m) ?_);cases D5 c (AI r) 0 0 r with
  |false=>exact Qa _
  |true=>
   have s:Ev (λn:Nat=>(bif (d.Am != (-1))then(Bt c.Ar d.Am).bind λh=>(bif (h.AN != 2)then AC AE else(Lt n r d.Am).bind λf=>(bif (f==0)then AC AE else(KB n c d.Am d.Am).bind λj=>AC (AG (j<0))))else AC AD))
     (!(bif 0<=d.Am then !((r.count d.Am:Int)==0)&&((B5 c d.Am==2)&&CO c d.Am d.Am)else AE)):=by
    have e:=q.dist d a;have H:(d.Am != (-1))=AG (0<=d.Am):=by rw[XZ];simp;omega
    rw[H];cases B:AG (0<=d.Am)with
    |false=>exact Qa _
    |true=>
     obtain⟨x,E,y⟩:=Z7 (by simpa using B) e.2.1;obtain⟨v,t,u⟩:=pL c w d.Am d.Am;simp only[XK,E,y];refine Ey (Ex λ_=>Ea (rI r _ (by omega)) (Ex λ_=>Ea t (Qa _))) ?_;rw[bne,u];cases((r.count d.Am:Int)==0)<;>cases(B5 c d.Am==2)<;>cases CO c d.Am d.Am<;>rfl
   refine Ea s ?_;cases(bif 0<=d.Am then !((r.count d.Am:Int)==0)&&((B5 c d.Am==2)&&CO c d.Am d.Am)else AE)with
   |false=>exact Qa _
   |true=>
    refine Qy (Ea (Y2 d.Ao (λx=>AG (x.Bf<=r.count x.Ag)) (Bn.d AD) (Bn.k ()) (by have:=w.cut d a;omega) (λi x l=>?_) ?_) ?_)
    .unfold SF;simp only[l.lt,l.ix,XK,l.nx];refine Ea (rI r _ (by omega)) ?_;have:AG (r.count x.Ag<x.Bf)= !decide (x.Bf<=r.count x.Ag):=by rw[XZ];simp
     rw[this];cases AG (x.Bf<=r.count x.Ag)<;>exact Qa _
    .unfold SF;simp only[KT];exact Qa _
    .cases(d.Ao.all λx=>AG (x.Bf<=r.count x.Ag))<;>exact Qa _
theorem PO{a b:Nat}(h:a+b<=4611686018427387904):i64.wrap ((a:Int)+(b:Int))=((a+b:Nat):Int):=by
 rw[Qt (by omega) (by omega)];omega
def Ip(c:Bl):Nat:=AI c.Ar+AI c.A8+AI c.AX+AI c.A9+AI c.Aq+AI c.Ae+AI c.A7
def W_(d:AQ):Prop:=AI d.Ao<=200/\CG d.Aw<=200/\Fy d.Aw<=16
structure Hy (c:Bl):Prop where
 lens:Ip c<=200
 name:AI c.An<=100
 dist:∀d∈c.AX,W_ d
 ties:AI c.BK<=200
theorem Qir(c:Bl)(w:CK c)(q:DT c)(hl:AI c.BK<=1048576)(Q:∀x∈c.BK,AZ.wf x):∃b,Ev (λn=>N3 n c) b/\(b=AE->Hy c):=by
 have hm:=w.mats;have hg:=w.legs;have hd:=w.dist;have F:=w.wave;have ho:=w.off;have hc:=w.cat;have hp:=w.prize;have loop:∀(t:AA AQ) (i s:Nat),c.AX.drop i=t->i<=AI c.AX->∃f:Bn Int Bool,Cc (λn=>J6 n c) ((s:Int),(i:Int)) f/\(f=.d AD\/ ∃v:Nat,f=.k (v:Int)/\(v<=200->s<=v/\ ∀d∈t,W_ d)):=by
  intro t
  induction t with
  |nil=>
   intro i s B J;refine⟨.k (s:Int),Ek ?_,Or.inr ⟨s,rfl,λ_=>⟨XU _,by simp⟩⟩⟩;unfold J6;simp only[QN B J,Vr,XK];exact Qa _
  |cons d t L=>
   intro i s B J;obtain⟨g,z⟩:=Qx (by omega) B;have T:=g.lt';by_cases O:s<=200
   .have j:=q.len d g.mem;have l:=q.wf d g.mem;have H:=w.cut d g.mem;have u:=tu _ d.Aw (XU _) j l;have G:=tv _ d.Aw 17 (XU _) (XU _) j l;have P:i64.wrap ((s:Int)+(AI d.Ao:Int))=((s+AI d.Ao:Nat):Int):=PO (by omega);have W:i64.wrap (((s+AI d.Ao:Nat):Int)+((min (CG d.Aw) 257:Nat):Int))=((s+AI d.Ao+min (CG d.Aw) 257:Nat):Int):=PO (by omega);have step:Ev (λn=>J6 n c ((s:Int),(i:Int))) (bif (16:Int)<((min (Fy d.Aw) 17:Nat):Int) then .d (.d AD)else .k (((s+AI d.Ao+min (CG d.Aw) 257:Nat):Int),((i+1:Nat):Int))):=by
     unfold J6;simp only[g.lt,Vq,g.ix,XK,g.nx,QV (show(s:Int)<=200 by omega)];refine Ea u (Ea G ?_);rw[P,W];cases AG ((16:Int)<((min (Fy d.Aw) 17:Nat):Int))<;>exact Qa _
    by_cases X:Fy d.Aw<=16
    .rw[Q4 (show¬(16:Int)<((min (Fy d.Aw) 17:Nat):Int)by omega)]at step;obtain⟨f,p,k⟩:=L (i+1) (s+AI d.Ao+min (CG d.Aw) 257) z (by omega);refine⟨f,Ez step p,?_⟩;rcases k with k|⟨v,k,y⟩
     .exact Or.inl k
     .refine Or.inr ⟨v,k,λF=>?_⟩;obtain⟨R,E⟩:=y F;refine⟨by omega,λx r=>?_⟩;rcases X7.1 r with rfl|r
      .exact⟨by omega,by omega,X⟩
      .exact E x r
    .rw[QV (show(16:Int)<((min (Fy d.Aw) 17:Nat):Int)by omega)]at step;exact⟨.d AD,Ek step,Or.inl rfl⟩
   .refine⟨.k (s:Int),Ek ?_,Or.inr ⟨s,rfl,λh=>absurd h O⟩⟩;unfold J6;simp only[g.lt,Vq,Q4 (show¬(s:Int)<=200 by omega),XK,Vr];exact Qa _
 obtain⟨f,p,k⟩:=loop c.AX 0 (Ip c) rfl (XV _);have e:i64.wrap ((i64.wrap ((i64.wrap ((i64.wrap ((i64.wrap ((i64.wrap ((AI c.Ar:Int)+(AI c.A8:Int)))+(AI c.AX:Int)))+(AI c.A9:Int)))+(AI c.Aq:Int)))+(AI c.Ae:Int)))+(AI c.A7:Int))=(Ip c:Int):=by
  have N:AI c.Ar+AI c.A8<=4611686018427387904:=by omega
  have M:AI c.Ar+AI c.A8+AI c.AX<=4611686018427387904:=by omega
  have h3:AI c.Ar+AI c.A8+AI c.AX+AI c.A9<=4611686018427387904:=by omega
  have V:AI c.Ar+AI c.A8+AI c.AX+AI c.A9+AI c.Aq<=4611686018427387904:=by omega
  have h5:AI c.Ar+AI c.A8+AI c.AX+AI c.A9+AI c.Aq+AI c.Ae<=4611686018427387904:=by omega
  have Y:AI c.Ar+AI c.A8+AI c.AX+AI c.A9+AI c.Aq+AI c.Ae+AI c.A7<=4611686018427387904:=by omega
  rw[PO N,PO M,PO h3,PO V,PO h5,PO Y];rfl
 unfold N3;rw[e];rcases k with rfl|⟨v,rfl,y⟩
 .exact⟨AD,Ea p.ev (Qa _),λh=>by cases h⟩
 .obtain⟨a,b,u,G,p3,_,_,_,_⟩:=qF _ c.BK 0 (XU _) (by omega) hl Q;have m:Ev (λn=>OP n c.BK) (AG ((AI c.BK:Int)<=20)&&(AG (a<=80)&&AG (b<=300))):=by
   unfold OP;exact Ea u (Ea (Ej λ_=>Ej λ_=>Qa _) (Qa _))
  refine⟨AG ((v:Int)<=200)&&(AG ((AI c.An:Int)<=100)&&(AG ((AI c.BK:Int)<=20)&&(AG (a<=80)&&AG (b<=300)))),Ea p.ev (Ea (Ej λ_=>Ej λ_=>Ea m (Qa _)) (Qa _)),λh=>?_⟩;simp only[XX,Vs]at h;obtain⟨R,E⟩:=y (by omega);exact⟨by omega,by omega,E,by omega⟩
def FM(c:Bl):Bool:=
 !(AG (40<(AI c.Ar:Int))||(AG (512<(AI c.A8:Int))||(AG (8<(AI c.AX:Int))||(AG (32<(AI c.A9:Int))||(AG (32<(AI c.Aq:Int))||(AG (32<(AI c.Ae:Int))||AG (32<(AI c.A7:Int))))))))
  &&c.AX.all λd=> !decide (64<(AI d.Ao:Int))
theorem vg(c:Bl)(w:CK c)(q:DT c)(k:Hy c):Ev (λn=>N' n c) (FM c):=by
 unfold N' FM;refine Ea (Ex λ_=>Ex λ_=>Ex λ_=>Ex λ_=>Ex λ_=>Ex λ_=>Qa _) ?_;cases(AG (40<(AI c.Ar:Int))||(AG (512<(AI c.A8:Int))||(AG (8<(AI c.AX:Int))||(AG (32<(AI c.A9:Int))||(AG (32<(AI c.Aq:Int))||(AG (32<(AI c.Ae:Int))||AG (32<(AI c.A7:Int))))))))with
 |true=>exact Qa _
 |false=>
  refine Qy (Ea (Y2 c.AX (λd=> !decide (64<(AI d.Ao:Int))) (Bn.d AD) (Bn.k ()) (by have:=w.dist;omega) (λi x a=>?_) ?_) ?_)
  .obtain⟨e,g,f⟩:=k.dist x a.mem;unfold SI;simp only[a.lt,a.ix,XK,a.nx];refine Ea (xm _ x.Aw 17 (XU _) (by omega) (XU _) (by omega) (q.wf x a.mem)) ?_
   grind[Qa]
  .simp_all[SI,Qa]
  .cases(c.AX.all λd=> !decide (64<(AI d.Ao:Int)))<;>exact Qa _
theorem zM(c:Bl)(w:CK c)(q:DT c)(k:Hy c):Ev (λn=>N8 n c) (FM c):=by
 unfold N8 FM;refine Ea (Ex λ_=>Ex λ_=>Ex λ_=>Ex λ_=>Ex λ_=>Ex λ_=>Qa _) ?_;cases(AG (40<(AI c.Ar:Int))||(AG (512<(AI c.A8:Int))||(AG (8<(AI c.AX:Int))||(AG (32<(AI c.A9:Int))||(AG (32<(AI c.Aq:Int))||(AG (32<(AI c.Ae:Int))||AG (32<(AI c.A7:Int))))))))with
 |true=>exact Qa _
 |false=>
  refine Qy (Ea (Y2 c.AX (λd=> !decide (64<(AI d.Ao:Int))) (Bn.d AD) (Bn.k ()) (by have:=w.dist;omega) (λi x e=>?_) ?_) ?_)
  .obtain⟨h,g,j⟩:=k.dist x e.mem;have a:=q.len x e.mem;have f:=q.wf x e.mem;unfold R9;simp only[e.lt,e.ix,XK,e.nx];refine Ea (Ex λ_=>Ea (tv _ x.Aw 17 (XU _) (XU _) a f) (Ex λ_=>Ea (tu _ x.Aw (XU _) a f) (Qa _))) ?_
   grind[Qa]
  .simp_all[R9,Qa]
  .cases(c.AX.all λd=> !decide (64<(AI d.Ao:Int)))<;>exact Qa _
def C3(c:Bl):Int:=
 bif FM c then bif FX c then bif CY c then bif Fh c.BK==0 then bif c.AX.all (Dq c)then 0 else 72 else Fh c.BK else 71 else 70 else 2
theorem zJ(c:Bl)(w:CK c)(q:DT c)(k:Hy c)(e:AI c.BK<=1048576)(h:∀x∈c.BK,AZ.wf x):Ev (λn=>I2 n c) (C3 c):=by
 unfold I2 C3;refine Ea (vg c w q k) ?_;cases FM c with
 |false=>exact Qa _
 |true=>
 refine Qy (Ea (xp c w) ?_);cases FX c with
 |false=>exact Qa _
 |true=>
 refine Qy (Ea (QkL c w q) ?_);cases f:CY c with
 |false=>exact Qa _
 |true=>
 refine Qy (Ea (va c.BK e h) ?_);rw[bne];cases(Fh c.BK==0)with
 |false=>exact Qa _
 |true=>
 have g:Ev (λn=>iter (NO n c) n ([],0)) (Yx CL AE c.A8):=by
  refine nW c.A8 CL AE (by have:=w.legs;omega) (λi x m a=>?_) (λm=>?_)
  .unfold NO;simp only[a.lt,a.ix,a.nx];exact Qa _
  simp_all[NO,Qa]
 refine Qy (Ea g ?_);have a:Ev (λn=>Sq n c.AX c (Yx CL AE c.A8)) (c.AX.all (Dq c)):=by
  refine JF c.AX _ (λn x=>Sp n x c (Yx CL AE c.A8)) (by have:=w.dist;omega) λx d=>?_;exact Ea (QkM c w (rP f) x d (q.wf x d) (by have:=(k.dist x d).2.1;omega)) (Qa _)
 refine Ea a ?_
 grind[Qa]
theorem Qim(c:Bl)(w:CK c)(q:DT c)(k:Hy c)(e:AI c.BK<=1048576)(g:∀x∈c.BK,AZ.wf x):Ev (λn=>HT n c) (C3 c):=by
 have a:=k.lens;unfold Ip at a;have h:PE c:=⟨by omega,by omega,by omega,by omega,by omega⟩;unfold HT C3;refine Ea (zM c w q k) ?_;cases FM c with
 |false=>exact Qa _
 |true=>
 refine Qy (Ea (QjG c w h) ?_);cases FX c with
 |false=>exact Qa _
 |true=>
 refine Qy (Ea (Qih c w q) ?_);cases f:CY c with
 |false=>exact Qa _
 |true=>
 refine Qy (Ea (QkG c.BK e g) ?_);rw[bne];cases(Fh c.BK==0)with
 |false=>exact Qa _
 |true=>
 refine Qy (Ea (Y2 c.AX (Dq c) (Bn.d 72) (Bn.k ()) (by omega) (λi x d=>?_) ?_) ?_)
 .unfold SJ;simp only[d.lt,d.ix,XK,d.nx];refine Ea (QjE c w (rP f) x d.mem (q.wf x d.mem) (by have:=(k.dist x d.mem).2.1;omega)) ?_;cases Dq c x<;>exact Qa _
 .simp_all[SJ,Qa]
 grind[Qa]
theorem pq{α:Type}(l:AA α){a b:Nat}(h:a<=b)(d:b<=AI l):E_ l (a:Int) (b:Int)=AC ((l.take b).drop a):=by
 grind[E_]
theorem UB{α:Type}(l:AA α){b:Nat}(a:b<=AI l):E_ l 0 (b:Int)=AC (l.take b):=by
 have:=pq l (XV b) a
 grind
theorem aW{α:Type}(l:AA α){a:Nat}(d:a<=AI l):E_ l (a:Int) (AI l:Int)=AC (l.drop a):=by
 simp_all[pq]
theorem Pe{α:Type}(l m:AA α)(h:AI l+AI m<=4294967296):app l m=AC (l++m):=by
 unfold app;rw[XT (by exact h)];rfl
theorem Jd{α:Type}(l:AA α){i:Nat}(x:α)(h:i<AI l):Fe l (i:Int) x=AC (l.set i x):=by
 grind[Fe]
def Du{α:Type}(q:α->Bool):AA α->Nat->Int
 |[],_=> -1
 |x::l,i=>bif q x then(i:Int)else Du q l (i+1)
theorem Ev.first{α:Type}{step:Nat->Int->AB (Bn Int (Bn Unit Int))}(l:AA α)(q:α->Bool)(m:AI l<=4611686018427387904)
  (e:∀i x,At l i x->Ev (λn=>step n (i:Int)) (bif q x then .d (.d (i:Int))else .k ((i+1:Nat):Int)))(g:Ev (λn=>step n (AI l:Int)) (.d (.k ()))):
  Ev (λn=>(Go.Sw.iter (step n) n 0).bind λb=>match b with|.k _=>AC (-1)|.d v=>AC v) (Du q l 0):=by
 have loop:∀(r:AA α) (i:Nat),l.drop i=r->i<=AI l->∃a:Bn Unit Int,Cc step i a/\(match a with|.k _=>AC (-1)|.d v=>AC v)=AC (Du q r i):=by
  intro r
  induction r with
  |nil=>
   intro i d p;have:i=AI l:=by have:=Xr.1 d;omega
   subst this;exact⟨.k (),Ek g,rfl⟩
  |cons x r u=>
   intro i d p;obtain⟨t,f⟩:=Qx m d;have s:=e i x t;unfold Du;cases h:q x with
   |true=>
    rw[h]at s;exact⟨_,Ek s,rfl⟩
   |false=>
    grind[Cc.cont]
 obtain⟨a,j,k⟩:=loop l 0 rfl (XV _);exact Ea j.ev (ED k)
theorem tz{α:Type}(q:α->Bool):∀(l:AA α) (i:Nat),(Du q l i= -1/\l.all (λx=> !q x)=AE)\/ ∃j x,Du q l i=((i+j:Nat):Int)/\l[j]?=AC x/\q x=AE/\(l.take j).all (λx=> !q x)=AE
 |[],_=>.inl ⟨rfl,rfl⟩
 |x::l,i=>by
  unfold Du;cases h:q x with
  |true=>exact .inr ⟨0,x,rfl,rfl,h,rfl⟩
  |false=>
   rcases tz q l (i+1)with⟨h1,h2⟩|⟨j,y,h1,h2,h3,h4⟩
   .grind
   .refine .inr ⟨j+1,y,by grind,h2,h3,by simp[h,h4]⟩
theorem tV{α:Type}{p:α->Bool}{l:AA α}(h:l.all p=AE):l.filter p=l:=(by simp_all)
theorem x7{α:Type}{first:Nat->AB Int}{step:Nat->AA α×Int×Int->AB (Bn (AA α×Int×Int) (AA α×Int))}(l0:AA α)(q:α->Bool)(hl:AI l0<=1048576)
  (W:Ev first (Du q l0 0))
  (O:∀(l:AA α) (i j:Nat) x y,AI l<=1048576->At l j x->l[i]?=AC y->x∈l0->i<=j->Ev (λn=>step n (l,(i:Int),(j:Int))) (.k (bif q x then l else l.set i x,(bif q x then(i:Int)else((i+1:Nat):Int)),((j+1:Nat):Int))))
  (Y:∀(l:AA α) (i:Int),Ev (λn=>step n (l,i,(AI l:Int))) (.d (l,i))):
  Ev (λn=>(first n).bind λr1=>bif r1== -1 then AC l0 else(Go.Sw.iter (step n) n (l0,r1,i64.wrap (r1+1))).bind λb=>(E_ b.1 0 b.2).bind λx=>AC x) (l0.filter λx=> !q x):=by
 refine Ea W ?_;rcases tz q l0 0 with⟨F,E⟩|⟨B,P,F,E,X,T⟩
 .rw[F,tV E];exact Qa _
 .have N:=(XM.1 E).1;rw[Xx]at F;rw[F];have Q:((B:Int)== -1)=false:=by simp
  rw[Q,Qz (by omega)];have loop:∀(r l:AA α) (i j:Nat),l0.drop j=r->j<=AI l0->i<j->AI l=AI l0->l.drop j=l0.drop j->l.take i=(l0.take j).filter (λx=> !q x)->∃e:AA α,∃g:Nat,Cc step (l,i,j) (e,g)/\g<=AI e/\e.take g=l0.filter λx=> !q x:=by
   intro r
   induction r with
   |nil=>
    intro l i j G R J a u d;have:j=AI l:=by have:=Xr.1 G;omega
    subst this;refine⟨l,i,Ek (Y l _),by omega,?_⟩;rw[d,a,Va]
   |cons x r L=>
    intro l i j G R J a u d;have H:l.drop j=x::r:=by rw[u,G]
    obtain⟨M,z⟩:=Qx (by omega) H;obtain⟨k,f⟩:=Qx (by omega) G;have V:=M.lt';have s:=O l i j x l[i] (by omega) M (XL (by omega)) k.mem (by omega);cases h:q x with
    |true=>
     rw[h]at s;obtain⟨e,g,w,m,t⟩:=L l i (j+1) f (by omega) (by omega) a (by rw[z,f]) (by rw[k.take,List.filter_append,d];simp[h]);exact⟨e,g,Ez s w,m,t⟩
    |false=>
     rw[h]at s;obtain⟨e,g,w,m,t⟩:=L (l.set i x) (i+1) (j+1) f (by omega) (by omega) (by simpa using a) (by rw[List.drop_set_of_lt (by omega),z,f])
      (by
       rw[k.take,List.filter_append, <- d];have:i<AI (l.set i x):=by simp;omega
       rw[List.take_add_one,XL this];simp[h,List.take_set_of_le])
     exact⟨e,g,Ez s w,m,t⟩
  have p:l0.take (B+1)=l0.take B++[P]:=by rw[List.take_add_one,E];rfl
  obtain⟨e,g,w,m,t⟩:=loop _ l0 B (B+1) rfl (by omega) (by omega) rfl rfl (by rw[p,List.filter_append,tV T];simp[X]);refine Qy (Ea w.ev ?_);rw[<- t];exact ED (by simp[UB e m])
theorem nf{ι α:Type}{F:Nat->ι->AB α}{V:ι->α}:∀(L:AA ι),(∀p∈L,Ev (λn=>F n p) (V p))->∃N,∀n,N<=n->∀p∈L,F n p=AC (V p)
 |[],_=>(by simp)
 |x::L,h=>by
  obtain⟨N,hN⟩:=nf L λp hp=>h p (by simp[hp]);obtain⟨M,hM⟩:=h x (by simp);refine⟨N+M,λn hn p hp=>?_⟩
  grind
theorem Ev.anyP{E R:Type}[DecidableEq R]{k:Nat->AA E->AB R}{l:AA E}{r:R}(h:∀p,p.Perm l->Ev (λn=>k n p) r):Ev (λn=>Go.Sw.anyP (k n) l) r:=by
 obtain⟨N,d⟩:=nf (Kz l) λp a=>h p (nP l p a);exact⟨N,λn e=>wJ λp a=>d n e p (nC l p a)⟩
theorem Ev.isNil{α R:Type}[DecidableEq R]{l:AA α}{x y:Nat->AB R}{v:R}(d:l=[]->Ev x v)(a:Ev y v):Ev (λn=>Go.Sw.isNil l (x n) (y n)) v:=by
 unfold Go.Sw.isNil;cases q:l.isEmpty with
 |false=>exact a
 |true=>
  obtain⟨N,f⟩:=d (List.isEmpty_iff.1 q);obtain⟨M,g⟩:=a;exact⟨N+M,λn e=>by grind⟩
set_option maxRecDepth 4000
def CH(f:Bm):Bq:=
 bif f.AN==1 then .c0 ()else bif f.AN==2 then .c1 ()else bif f.AN==3 then .c2 ()else bif f.AN==4 then .c3 ()else bif f.AN==5 then .c4 ()else bif f.AN==6 then .c5 ()
 else bif f.AN==7 then .c6 ()else bif f.AN==8 then .c7 ()else bif f.AN==9 then .c8 ()else bif f.AN==10 then
  (bif (f.AS.AN==1)||(f.AS.AN==2)then .c9 (0,0,0,0,0,0)else bif f.AS.AN==3 then .c9 (1,9999,0,255,1,1099511627776)else bif f.AS.AN==4 then .c9 (1,9999,0,255,1,64)else .c9 (1,9999,0,255,0,0))
 else bif f.AN==11 then .c10 ()else bif f.AN==12 then .c11 ()else bif f.AN==13 then .c12 ()else .c13 ()
theorem pm(n:Nat)(f:Bm)(b:Int):L2 n f b=AC (CH f):=by
 unfold L2 CH;cases(f.AN==1)with
 |true=>rfl
 |false=>
 cases(f.AN==2)with
 |true=>rfl
 |false=>
 cases(f.AN==3)with
 |true=>rfl
 |false=>
 cases(f.AN==4)with
 |true=>rfl
 |false=>
 grind
def Hn:AA Ce:=[⟨AD,3,1,13⟩,⟨AD,0,0,31⟩,⟨AD,1,1,1048576⟩,⟨AD,2,0,1099511627776⟩]
def HD:Bq->AA Ce
 |.c0 _=>[⟨AD,4,1,9999⟩,⟨AD,5,0,7⟩,⟨AD,6,0,31⟩,⟨AD,7,(-1099511627776),1099511627776⟩,⟨AD,8,0,120⟩,⟨AD,9,0,1048576⟩,⟨AD,10,0,9999⟩,⟨AD,11,0,1048576⟩]
 |.c1 _=>[⟨AD,12,0,39⟩,⟨AD,13,0,255⟩,⟨AD,14,0,1048576⟩,⟨AD,15,(-1099511627776),1099511627776⟩]
 |.c2 _=>[⟨AD,16,0,39⟩,⟨AD,17,0,255⟩,⟨AD,18,(-1099511627776),1099511627776⟩,⟨AD,19,(-1099511627776),1099511627776⟩,⟨AD,20,0,1099511627776⟩]
 |.c3 _=>[⟨AD,21,0,39⟩,⟨AD,22,0,255⟩,⟨AD,23,(-1099511627776),1099511627776⟩,⟨AD,24,0,39⟩,⟨AD,25,0,255⟩,⟨AD,26,(-1099511627776),1099511627776⟩,⟨AD,27,(-1099511627776),1099511627776⟩,⟨AD,28,(-1099511627776),1099511627776⟩]
 |.c4 _=>[⟨AD,29,1,9999⟩,⟨AD,30,0,255⟩,⟨AD,31,(-1099511627776),1099511627776⟩,⟨AD,32,(-1099511627776),1099511627776⟩]
 |.c5 _=>[⟨AD,33,0,39⟩,⟨AD,34,0,255⟩,⟨AD,35,(-1099511627776),1099511627776⟩,⟨AD,36,(-1099511627776),1099511627776⟩]
 |.c6 _=>[⟨AD,37,1,9999⟩,⟨AD,38,1,9999⟩]
 |.c7 _=>[⟨AD,39,1,1048576⟩,⟨AD,40,1,9999⟩,⟨AD,41,0,31⟩,⟨AD,42,0,255⟩]
 |.c8 _=>[⟨AD,43,1,1048576⟩,⟨AD,44,0,9999⟩,⟨AD,45,0,1125899906842624⟩,⟨AD,46,0,1⟩]
 |.c9 x=>[⟨AD,47,1,1048576⟩,⟨AD,48,1,2⟩,⟨AD,49,1,5⟩,⟨AD,50,x.1,x.2.1⟩,⟨AD,51,x.2.2.1,x.2.2.2.1⟩,⟨AD,52,x.2.2.2.2.1,x.2.2.2.2.2⟩]
 |.c10 _=>[⟨AD,53,1,1048576⟩,⟨AE,0,0,1⟩]
 |.c11 _=>[]
 |.c12 _=>[⟨AD,55,0,31⟩,⟨AD,56,1,1048576⟩]
 |.c13 _=>[]
def DJ(f:Bm):Bq->Bool
 |.c3 _=>AG (f.AV.BQ<=f.AV.BO)
 |.c4 _=>AG (f.A0.Lo<=f.A0.Hi)
 |.c5 _=>AG (f.Ab.Lo<=f.Ab.Hi)
 |.c6 _=>AG (f.BA.A<f.BA.B)
 |.c13 _=>AD
 |_=>AE
def Cj(f:Bm):AA Ce:=Hn++HD (CH f)
def FJ(e:Ce):Bool:=bif e.fl then e.off==0 else AG (e.off<57)&& !(e.off==54)
theorem zp(f:Bm):∀e∈Cj f,FJ e=true:=by
 have h:∀u,(Hn++HD u).all FJ=true:=by intro u;cases u<;>rfl
 exact Xu.1 (h (CH f))
theorem mL(f:Bm):AI (Cj f)<=12:=by
 have h:∀u,AI (Hn++HD u)<=12:=by intro u;cases u<;>exact XS rfl
 exact h (CH f)
def kf:AB A->Bool
 |some (.int .i64 _)=>AE
 |_=>AD
theorem uh{x:AB A}(h:kf x=AE):∃v,x=AC (.int .i64 v):=by
 unfold kf at h
 grind
theorem xS{f:Bm}{b:Int}{e:Ce}(h:FJ e=AE):∃v,MA (Bm.c f) b e=AC v:=by
 unfold FJ at h;unfold MA;cases a:e.fl with
 |true=>
  simp_all
 |false=>
  rw[a]at h;simp only[Vr,XX,Vs,Bool.not_eq_true']at h⊢;have all:(List.range 57).all (λo=>(o==54)||kf (Bm.c f)[o]?)=true:=by rfl
  have:=Xu.1 all e.off (List.mem_range.2 h.1);rw[h.2,Bool.false_or]at this;obtain⟨v,d⟩:=uh this
  simp_all
theorem yT{x:Bm}{s v:Int}{e:Ce}(h:FJ e=AE):∃q,Ra Bm.put x s e v=AC q:=by
 unfold FJ at h;unfold Ra;cases a:e.fl with
 |true=>
  simp_all
 |false=>
  rw[a]at h;simp only[Vr,XX,Vs,Bool.not_eq_true']at h⊢;have all:(List.range 57).all (λo=>(o==54)||(Bm.put x o v).isSome)=true:=by rfl
  have:=Xu.1 all e.off (List.mem_range.2 h.1);rw[h.2,Bool.false_or]at this;obtain⟨y,d⟩:=Option.isSome_iff_exists.1 this
  simp_all
def FF(f:Bm)(b:Int)(e:Ce):Int:=(MA (Bm.c f) b e).getD 0
def I5(x:Bm)(s:Int)(e:Ce)(v:Int):Bm×Int:=(Ra Bm.put x s e v).getD (x,s)
theorem pG{f:Bm}{b:Int}{e:Ce}(h:FJ e=AE):MA (Bm.c f) b e=AC (FF f b e):=by
 obtain⟨v,a⟩:=xS h;unfold FF;rw[a];rfl
theorem ux{x:Bm}{s v:Int}{e:Ce}(h:FJ e=AE):Ra Bm.put x s e v=AC (I5 x s e v):=by
 obtain⟨q,a⟩:=yT h;unfold I5;rw[a];rfl
def Kl(f:Bm)(b:Int)(e:Ce):Bool:= !(AG (FF f b e<e.lo))&& !(AG (e.hi<FF f b e))
def FW(f:Bm)(b:Int):AA Ce->AA Int×Bm×Int->Bn (AA Int×Bm×Int) (AA Int×Bool)
 |[],a=>.k a
 |e::r,a=>bif Kl f b e then FW f b r (a.1++[FF f b e],I5 a.2.1 a.2.2 e (FF f b e))else .d ([],AD)
theorem aD{α:Type}(l m:AA α)(h:AI l+AI m<=1000):app l m=AC (l++m):=by
 unfold app;have:Nat.ble (AI l+AI m) Yn=true:=XT (XW h (by decide))
 grind
theorem xJ(f:Bm)(b:Int)(E:AA Ce)(hE:∀e∈E,FJ e=AE)(u:AI E<=12):∀(r:AA Ce) (i:Nat) (a:AA Int×Bm×Int),E.drop i=r->i<=AI E->AI a.1=i->
  Cc (λn=>LJ n f b E E) (a.1,a.2.1,a.2.2,(i:Int)) (FW f b r a):=by
 intro r
 induction r with
 |nil=>
  intro i a m p g;refine Ek ?_;unfold LJ;simp only[QN m p];exact Qa _
 |cons e r s=>
  intro i a m p j;obtain⟨g,k⟩:=Qx (by omega) m;have l:=hE e g.mem;have q:=g.lt';unfold FW;cases d:Kl f b e with
  |true=>
   have h:=d;unfold Kl at h;simp only[XX,Bool.not_eq_true']at h;refine Ez ?_ (s (i+1) (a.1++[FF f b e],I5 a.2.1 a.2.2 e (FF f b e)) k (by omega) (by simp[j]));unfold LJ;simp only[g.lt,g.ix,XK,g.nx,pG l,h.1,h.2,ux l];rw[aD a.1 [FF f b e] (by simp;omega)];exact Qa _
  |false=>
   refine Ek ?_;unfold LJ;simp only[g.lt,g.ix,XK,pG l];unfold Kl at d;cases t:AG (FF f b e<e.lo)with
   |true=>exact Qa _
   |false=>
    rw[t]at d;simp[Xh,VA,Bool.not_eq_false']at d;simp[d];exact Qa _
def Ch(f:Bm):Int:=bif f.Al.A_ then 1 else 0
def Hj(f:Bm):Bm:={Ul with AS:={Ur with AN:=f.AS.AN:AS},AN:=f.AN:Bm}
def Kk(f x:Bm)(s:Int):Bm:=
 let y:Bm:=bif f.AN != 10 then {x with AS:={x.AS with AN:=0:AS}:Bm}else x
 {y with Al:={A4:=y.Al.A4,A_:=s==1:Al}:Bm}
def F3(f:Bm):AA Int×Bool:=bif DJ f (CH f)then(match FW f (Ch f) (Cj f) ([],Hj f,0)with
  |.k a=>(a.1,Kk f a.2.1 a.2.2==f)
  |.d r=>r)else([],AD)
theorem zm(n:Nat)(f:Bm):OO n ({Ul with AS:={Ur with AN:=f.AS.AN:AS}:Bm}) 0 f=AC (Cj f):=by
 have a:CH ({({Ul with AS:={Ur with AN:=f.AS.AN:AS}:Bm})with AN:=f.AN:Bm})=CH f:=rfl;unfold OO Cj;rw[pm];rw[a];unfold Lk;generalize CH f=u;cases u<;>(rfl)
theorem qE(f:Bm):Ev (λn=>OZ n f) (F3 f):=by
 refine Ea (v:=Ch f) ?_ ?_
 .grind[Ch,Qa]
 refine Ea (v:=bif DJ f (CH f)then .k (HD (CH f))else .d ([],AD)) ?_ ?_
 .simp[pm];generalize CH f=u;cases u with
  |c3=>unfold DJ;cases AG (f.AV.BQ<=f.AV.BO)<;>exact Qa _
  |c4=>unfold DJ;cases AG (f.A0.Lo<=f.A0.Hi)<;>exact Qa _
  |c5=>unfold DJ;cases AG (f.Ab.Lo<=f.Ab.Hi)<;>exact Qa _
  |c6=>unfold DJ;cases AG (f.BA.A<f.BA.B)<;>exact Qa _
  |_=>exact Qa _
 unfold F3;cases DJ f (CH f)with
 |false=>exact Qa _
 |true=>
  have e:app Hn (HD (CH f))=AC (Cj f):=aD _ _ (by have:=mL f;unfold Cj at this;rw[X4]at this;omega);unfold Lk;simp[XK];refine Ea (ED e) ?_;refine Ea (ED (zm 0 f)) (Ea (xJ f (Ch f) (Cj f) (zp f) (mL f) (Cj f) 0 ([],Hj f,0) rfl (XV _) rfl).ev ?_);cases FW f (Ch f) (Cj f) ([],Hj f,0)with
  |d r=>exact Qa _
  |k a=>
   refine Ea ?_ (Qa _);cases(f.AN != 10)<;>exact Qa _
def B0(f:Bm):Bool:=(F3 f).2
theorem QgV(f:Bm):Ev (λn=>Sv n f) (bif B0 f then 0 else 120):=by
 refine Ea (qE f) ?_
 grind[B0,Qa]
theorem Qke{f:Bm}(h:B0 f=AE):(f.AN==0)=false:=by
 cases q:(f.AN==0)with
 |false=>rfl
 |true=>
  have hk:=by simpa using q
  have a:CH f=.c13 ():=by unfold CH;rw[hk];rfl
  unfold B0 F3 at h;rw[a]at h;cases h
set_option maxRecDepth 4000
def DH(v:Nat):AA Int:=if h:128<=v then L7 .u8 (u8.wrap (v:Int)) 128::DH (v/128)else[u8.wrap (v:Int)]
termination_by v
decreasing_by omega
theorem mZ{v:Nat}(h:128<=v):DH v=L7 .u8 (u8.wrap (v:Int)) 128::DH (v/128):=by
 rw[DH,dif_pos h]
theorem UU{v:Nat}(h:¬128<=v):DH v=[u8.wrap (v:Int)]:=by
 rw[DH,dif_neg h]
theorem gO(v:Nat):Ye .u64 (v:Int) 7=((v/128:Nat):Int):=by
 show Int.fdiv v (2^7)=_
 grind
theorem qv:∀(k v:Nat),v<128^(k+1)->AI (DH v)<=k+1:=by
 intro k
 induction k with
 |zero=>
  grind[UU]
 |succ k a=>
  grind[mZ]
theorem QhY:∀(k v:Nat) (l:AA Int),v<128^(k+1)->AI l+k<4294967296->∃(l':AA Int) (a:Nat),Cc (λn=>LI n) (l,(v:Int)) (l',(a:Int))/\l'++[u8.wrap (a:Int)]=l++DH v/\AI l'<=AI l+k:=by
 intro k
 induction k with
 |zero=>
  intro v l i f;refine⟨l,v,Ek ?_,by rw[UU (by omega)],XU _⟩
  grind[LI,Qa]
 |succ k d=>
  intro v l i f;by_cases h:128<=v
  .obtain⟨l',a,e,g,j⟩:=d (v/128) (l++[L7 .u8 (u8.wrap v) 128]) (by omega) (by simp;omega);refine⟨l',a,Ez ?_ e,?_,?_⟩
   .grind[LI,gO,Rv,Qa]
   .rw[g,mZ h];simp
   grind
  .refine⟨l,v,Ek ?_,by rw[UU h],by omega⟩;unfold LI;simp[Q4 (show¬128<=(v:Int)by omega)];exact Qa _
theorem sk(v:Nat)(l:AA Int)(i:v<18446744073709551616)(g:AI l<=1000000):Ev (λn=>KG n l (v:Int)) (l++DH v):=by
 obtain⟨d,h,a,f,e⟩:=QhY 9 v l (by omega) (by omega);refine Ea a.ev ?_
 grind[Rv,Qa]
theorem fy{v:Nat}(hv:v<18446744073709551616):AI (DH v)<=10:=qv 9 v (by omega)
def Fr(x:Int):Int:=Mr .u64 (Kr .u64 (u64.wrap x) 1) (u64.wrap (Ye .i64 x 63))
theorem U6(x:Int):0<=u64.wrap x/\u64.wrap x<18446744073709551616:=by
 have e:u64.wrap x=x%18446744073709551616:=by
  rfl
 omega
theorem Z2(x:Int):∃z:Nat,Fr x=(z:Int)/\z<18446744073709551616:=by
 have h:=U6 ((BitVec.ofInt IntKind.u64.bits (Kr .u64 (u64.wrap x) 1)^^^BitVec.ofInt IntKind.u64.bits (u64.wrap (Ye .i64 x 63))).toNat);refine⟨(Fr x).toNat,?_,?_⟩
 .rfl
 .unfold Fr Mr;omega
def DV(x:Int):AA Int:=1::DH (Fr x).toNat
theorem mc(x:Int):AI (DV x)<=11:=by
 obtain⟨z,a,d⟩:=Z2 x
 grind[DV,fy]
theorem QjB(l:AA Int)(x:Int)(f:AI l<=100000):Ev (λn=>L1 n l ({AN:=1,N:=x,S:=[],L:=[]:AL})) (l++DV x):=by
 unfold L1 Oc;rw[Rv l 1 (by omega)];simp only[XK];obtain⟨z,d,e⟩:=Z2 x;have a:=d;unfold Fr at a;rw[a];refine Ea (sk z (l++[1]) e (by simp;omega)) ((Qa _).eq ?_);unfold DV
 grind
def DQ(x:Int):AL:={AN:=1,N:=x,S:=[],L:=[]:AL}
def CJ(l:AA Int):AL:={AN:=3,N:=0,S:=[],L:=l.map DQ:AL}
theorem QkC(x:Int):Ev (λn=>R7 n (DQ x)) (0,AE):=by
 refine QX ?_;show Ev (λn=>U1 (R7 n) n (DQ x)) _;unfold U1 DQ;cases(x==0)with
 |true=>exact Qa _
 |false=>exact Qa _
theorem Qjq(l:AA Int)(g:AI l<=1000):Ev (λn=>R7 n (CJ l)) (1,AE):=by
 refine QX ?_;show Ev (λn=>U1 (R7 n) n (CJ l)) _;unfold U1 CJ;refine Ea (Qa _) ?_;refine Ea (v:=Bn.k 0) (EA (λi=>(0,(i:Int))) (AI (l.map DQ)) rfl (λi f=>?_) ?_) (Qa _)
 .have a:=Jo (by grind) (XL f);have d:∃y,(l.map DQ)[i]=DQ y:=by
   grind
  obtain⟨y,e⟩:=d;unfold ST;simp only[a.lt,a.ix,XK,a.nx];rw[e];exact Ea (QkC y) (Qa _)
 simp_all[ST,Qa]
def Dm(l:AA Int):AA Int:=[3]++DH (AI l)++(l.map DV).flatten
theorem Qie(l:AA Int)(w:AI l<=1000):Ev (λn=>OI n (CJ l)) (Dm l):=by
 unfold OI;have q:app ([]:AA Int) [3]=AC [3]:=rfl;rw[q];simp only[XK];have k:u64.wrap (((CJ l).L.length:Int))=((AI l:Nat):Int):=by
  have:u64.wrap (((CJ l).L.length:Int))=(((CJ l).L.length:Int))%18446744073709551616:=by rfl
  grind[CJ]
 rw[k];have r:=fy (show AI l<18446744073709551616 by omega);refine Ea (sk (AI l) [3] (by omega) (by simp)) ?_;refine Ea (v:=Dm l) ?_ (Qa _);have h:=Jc (step:=λn=>NQ n (CJ l)) (l.map DQ) (λ(a:AA Int) (v:AL)=>a++DV v.N) ([3]++DH (AI l)) (λa i=>(a,(i:Int))) (λa=>a) (by grind) rfl (λi x a d t=>?_) ?_
 .refine Ey h ?_;have:∀(m:AA Int) (a:AA Int),(m.map DQ).foldl (λ(a:AA Int) (v:AL)=>a++DV v.N) a=a++(m.map DV).flatten:=by
   intro m
   induction m with
   |nil=>intro a;simp
   |cons x m j=>grind[DQ]
  rw[this];rfl
 .have p:∃y,x=DQ y:=by
   obtain⟨y,_,s⟩:=Xe.1 d.mem
   grind
  obtain⟨y,rfl⟩:=p;have e:AI a<=100000:=by
   have:∀(m:AA Int) (a:AA Int),AI ((m.map DQ).foldl (λ(a:AA Int) (v:AL)=>a++DV v.N) a)<=AI a+11*AI m:=by
    intro m
    induction m with
    |nil=>intro a;simp
    |cons x m j=>
     grind[mc]
   have u:=this (l.take i) ([3]++DH (AI l))
   grind[List.map_take]
  unfold NQ;have f:AG ((i:Int)<((CJ l).L.length:Int))=true:=d.lt;have g:Bt (CJ l).L (i:Int)=AC (DQ y):=d.ix;simp only[f,Vq,g,XK,d.nx];refine Ea (QjB a y e) ?_;exact Qa _
 simp_all[NQ,CJ,Qa]
theorem yo{f:Bm}{b:Int}:∀(r:AA Ce) (a c:AA Int×Bm×Int),FW f b r a=.k c->AI c.1=AI a.1+AI r:=by
 intro r
 induction r with
 |nil=>intro a c h;cases h;rfl
 |cons e r d=>
  grind[FW]
theorem xd(f:Bm):(F3 f).1.length<=12:=by
 unfold F3;cases DJ f (CH f)with
 |false=>simp
 |true=>
  cases h:FW f (Ch f) (Cj f) ([],Hj f,0)with
  |k a=>
   have:=yo _ _ _ h
   grind[mL]
  |d r=>
   have:∀(E:AA Ce) (a:AA Int×Bm×Int),FW f (Ch f) E a=.d r->r=([],AD):=by
    intro E
    induction E with
    |nil=>intro a h;cases h
    |cons e E ih=>
     intro a h;unfold FW at h
     grind
   grind
def Dw(f:Bm):AA Int×Int:=bif B0 f then(Dm (F3 f).1,0)else([],120)
theorem rm(f:Bm):Ev (λn=>Og n f) (Dw f):=by
 refine Ea (qE f) ?_;have p:=xd f;unfold Dw B0;generalize F3 f=r at*;cases h:r.2 with
 |false=>exact Qa _
 |true=>
  refine Ea (v:=r.1.map DQ) ?_ ?_
  .refine Ey (Jc r.1 (λa x=>a++[DQ x]) [] (λa i=>(a,(i:Int))) (λa=>a) (by omega) rfl (λi x a d l=>?_) ?_) ?_
   .unfold R';simp only[d.lt,d.ix,XK,d.nx];have g:AI a<=12:=by
     have:∀(m:AA Int) (a:AA AL),AI (m.foldl (λa x=>a++[DQ x]) a)=AI a+AI m:=by
      intro m
      induction m with
      |nil=>simp
      |cons x m k=>grind
     grind
    grind[Rv,DQ,Qa]
   .simp_all[R',Qa]
   .have:∀(m:AA Int) (a:AA AL),m.foldl (λa x=>a++[DQ x]) a=a++m.map DQ:=by
     intro m
     induction m with
     |nil=>simp
     |cons x m k=>grind
    grind
  refine Ea (v:=(Dm r.1,0)) ?_ (Qa _);have j:=Qjq r.1 (by omega);have e:({AN:=3,N:=0,S:=[],L:=r.1.map DQ:AL})=CJ r.1:=rfl;refine Ea (Ea j (Qa _)) ?_;exact Ea (Qie r.1 (by omega)) (Qa _)
def CV(a b:Int):Int:=bif a<b then-1 else bif b<a then 1 else 0
theorem qD(n:Nat)(a b:Int):M6 n a b=AC (CV a b):=by
 unfold M6 Of CV
 grind
def H6:AA Int->Int
 |[]=>0
 |x::r=>bif x != 0 then x else H6 r
theorem oh(l:AA Int)(k:AI l<=1000):Ev (λn=>OY n l) (H6 l):=by
 have loop:∀(r:AA Int) (i:Nat),l.drop i=r->i<=AI l->Cc (λn=>LY n l) i (bif H6 r==0 then Bn.k ()else Bn.d (H6 r)):=by
  intro r
  induction r with
  |nil=>
   intro i f g;refine Ek ?_;unfold LY;simp only[QN f g];exact Qa _
  |cons x r j=>
   intro i f g;obtain⟨a,d⟩:=Qx (by omega) f;have h:=a.lt';unfold H6;cases q:(x != 0)with
   |true=>
    have e:(x==0)=false:=by grind
    simp[Vq,e];refine Ek ?_;unfold LY;simp only[a.lt,a.ix,XK,q];exact Qa _
   |false=>
    refine Ez ?_ (j (i+1) d (by omega));unfold LY;simp only[a.lt,a.ix,XK,q,a.nx];exact Qa _
 refine Ea (loop l 0 rfl (XV _)).ev ?_
 grind[Qa]
def C9(f g:Bm):Int:=bif H6 [CV f.At g.At,CV f.Au g.Au,CV f.No g.No] != 0 then H6 [CV f.At g.At,CV f.Au g.Au,CV f.No g.No]else cmpB (Dw f).1 (Dw g).1
theorem QkP(f g:Bm):Ev (λn=>OS n f g) (C9 f g):=by
 unfold OS C9;simp[qD,XK];refine Ea (oh _ (by simp)) ?_;cases(H6 [CV f.At g.At,CV f.Au g.Au,CV f.No g.No] != 0)with
 |true=>exact Qa _
 |false=>
  exact Ea (rm f) (Ea (rm g) (Qa _))
def dI(c:Bl)(f:Bm):Bool:=(f.AN==1)&&(B0 f&&(!decide ((AI c.AX:Int)<=f.AW.AQ)&& !decide ((AI c.A9:Int)<=f.AW.A')))
theorem vx{n:Nat}(h:n<=1048576):Nat.ble n Yn=true:=XT (XW h (by decide))
theorem vB{a b:Int}:CV a b=0↔a=b:=by
 grind[CV]
set_option maxRecDepth 4000
theorem xK(f:Bm)(b:Int):∀(E:AA Ce) (a:AA Int×Bm×Int),FW f b E a=bif E.all (Kl f b)then .k (a.1++E.map (FF f b),E.foldl (λp e=>I5 p.1 p.2 e (FF f b e)) a.2)else .d ([],AD):=by
 intro E
 induction E with
 |nil=>simp[FW]
 |cons e E ih=>
  intro a;unfold FW
  grind
def F2(f:Bm):Bm:={Au:=f.Au,No:=f.No,At:=f.At,AN:=f.AN,AW:=(bif f.AN==1 then f.AW else Ul.AW),Az:=(bif f.AN==2 then f.Az else Ul.Az),AO:=(bif f.AN==3 then f.AO else Ul.AO),AV:=(bif f.AN==4 then f.AV else Ul.AV),A0:=(bif f.AN==5 then f.A0 else Ul.A0),Ab:=(bif f.AN==6 then f.Ab else Ul.Ab),BA:=(bif f.AN==7 then f.BA else Ul.BA),Aj:=(bif f.AN==8 then f.Aj else Ul.Aj),Ad:=(bif f.AN==9 then f.Ad else Ul.Ad),AS:=(bif f.AN==10 then f.AS else Ul.AS),Al:=(bif f.AN==11 then f.Al else Ul.Al),BI:=(bif f.AN==13 then f.BI else Ul.BI):Bm}
def Dl(f:Bm):AA Int:=[f.AN,f.Au,f.No,f.At]++(
 bif f.AN==1 then[f.AW.BH,f.AW.AQ,f.AW.A',f.AW.Bb,f.AW.Bi,f.AW.BJ,f.AW.Bc,f.AW.Bh]
 else bif f.AN==2 then[f.Az.Ag,f.Az.AT,f.Az.BJ,f.Az.Av]
 else bif f.AN==3 then[f.AO.Ag,f.AO.AT,f.AO.Av,f.AO.True,f.AO.BX]
 else bif f.AN==4 then[f.AV.BE,f.AV.A2,f.AV.A1,f.AV.BF,f.AV.A3,f.AV.Ay,f.AV.BQ,f.AV.BO]
 else bif f.AN==5 then[f.A0.BH,f.A0.Af,f.A0.Lo,f.A0.Hi]
 else bif f.AN==6 then[f.Ab.Ag,f.Ab.AT,f.Ab.Lo,f.Ab.Hi]
 else bif f.AN==7 then[f.BA.A,f.BA.B]
 else bif f.AN==8 then[f.Aj.A4,f.Aj.BH,f.Aj.Ah,f.Aj.Af]
 else bif f.AN==9 then[f.Ad.A4,f.Ad.By,f.Ad.Be,f.Ad.Ba]
 else bif f.AN==10 then[f.AS.A4,f.AS.BC,f.AS.AN,f.AS.BH,f.AS.Af,f.AS.A5]
 else bif f.AN==11 then[f.Al.A4,Ch f]
 else bif f.AN==13 then[f.BI.Au,f.BI.No]else[])
theorem kinds(f:Bm):f.AN=1\/f.AN=2\/f.AN=3\/f.AN=4\/f.AN=5\/f.AN=6\/f.AN=7\/f.AN=8\/f.AN=9\/f.AN=10\/f.AN=11\/f.AN=12\/f.AN=13\/CH f=.c13 ():=by
 by_cases h:f.AN=1; · exact .inl h
 by_cases n:f.AN=2; · omega
 by_cases l:f.AN=3; · omega
 by_cases k:f.AN=4; · omega
 by_cases m:f.AN=5; · omega
 by_cases q:f.AN=6; · omega
 by_cases p:f.AN=7; · omega
 by_cases j:f.AN=8; · omega
 by_cases i:f.AN=9; · omega
 by_cases g:f.AN=10; · omega
 by_cases e:f.AN=11; · omega
 by_cases d:f.AN=12; · omega
 by_cases a:f.AN=13; · omega
 refine .inr (.inr (.inr (.inr (.inr (.inr (.inr (.inr (.inr (.inr (.inr (.inr (.inr ?_))))))))))));unfold CH
 grind
def Ho(f:Bm):Bm×Int:=(Cj f).foldl (λp e=>I5 p.1 p.2 e (FF f (Ch f) e)) (Hj f,0)
theorem l7(f:Bm):F3 f=bif DJ f (CH f)then(bif (Cj f).all (Kl f (Ch f))then((Cj f).map (FF f (Ch f)),Kk f (Ho f).1 (Ho f).2==f)else([],AD))else([],AD):=by
 unfold F3;rw[xK];cases DJ f (CH f)with
 |false=>rfl
 |true=>
  cases(Cj f).all (Kl f (Ch f))with
  |false=>rfl
  |true=>rfl
theorem m0(f:Bm)(h:¬CH f=.c13 ()):Kk f (Ho f).1 (Ho f).2=F2 f/\(Cj f).map (FF f (Ch f))=Dl f:=by
 rcases kinds f with k|k|k|k|k|k|k|k|k|k|k|k|k|k
 case inr.inr.inr.inr.inr.inr.inr.inr.inr.inr.inl=>
  obtain⟨Cr,No,At,Ki,S,R,B,Sy,Ha,Si,Pa,Re,Pr,Ru,⟨Ca,Su⟩,Vo⟩:=f;subst k;cases Su<;>exact⟨by kernel_rfl,by kernel_rfl⟩
 case inr.inr.inr.inr.inr.inr.inr.inr.inr.inl=>
  obtain⟨Cr,No,At,Ki,S,R,B,Sy,Ha,Si,Pa,Re,Pr,⟨i,e,a,j,d,l⟩,Ap,Vo⟩:=f;subst k;have:∃x,CH ⟨Cr,No,At,10,S,R,B,Sy,Ha,Si,Pa,Re,Pr,⟨i,e,a,j,d,l⟩,Ap,Vo⟩=.c9 x:=by
   unfold CH;cases((a==1)||(a==2))with
   |true=>simp
   |false=>
    cases(a==3)with
    |true=>simp
    |false=>cases(a==4)<;>exact⟨_,rfl⟩
  obtain⟨x,g⟩:=this;unfold Ho Cj;rw[g];exact⟨by kernel_rfl,by kernel_rfl⟩
 case inr.inr.inr.inr.inr.inr.inr.inr.inr.inr.inr.inr.inr=>grind
 all_goals
  obtain⟨Cr,No,At,Ki,S,R,B,Sy,Ha,Si,Pa,Re,Pr,Ru,Ap,Vo⟩:=f;subst k;exact⟨by kernel_rfl,by kernel_rfl⟩
def HC(f:Bm):Bool:=DJ f (CH f)&&(HD (CH f)).all (Kl f (Ch f))
def It(f:Bm):Bool:=Hn.all (Kl f (Ch f))
theorem fe(f:Bm):B0 f=(It f&&HC f&&(F2 f==f)):=by
 unfold B0 HC It;rw[l7];by_cases h:CH f=.c13 ()
 .simp_all[DJ]
 .obtain⟨a,d⟩:=m0 f h;rw[a];unfold Cj
  grind
theorem Qkd{f:Bm}(h:B0 f=AE):(F3 f).1=Dl f:=by
 unfold B0 at h;rw[l7]at h⊢;by_cases q:CH f=.c13 ()
 .simp_all[DJ]
 grind[m0]
theorem tL{f:Bm}(h:B0 f=AE):F2 f=f:=by
 simp_all[fe]
theorem yp{f g:Bm}(j:B0 f=AE)(hg:B0 g=AE)(h:Dl f=Dl g):f=g:=by
 have e1:=tL j;have e2:=tL hg;rw[<- e1, <- e2];unfold Dl at h;have B:f.AN=g.AN:=by
  grind
 have nk:=Qke j;rcases kinds f with k|k|k|k|k|k|k|k|k|k|k|k|k|k
 case inr.inr.inr.inr.inr.inr.inr.inr.inr.inr.inr.inr.inr=>
  grind[fe,HC,DJ]
 all_goals
  have d:=B.symm.trans k;obtain⟨Cr,No,At,Ki,⟨s1,s2,s3,s4,s5,s6,s7,s8⟩,⟨W,ak,a0,R⟩,⟨b1,b2,b3,b4,b5⟩,⟨y1,y2,y3,y4,y5,y6,y7,y8⟩,⟨h1,h2,h3,h4⟩,⟨i1,i2,i3,i4⟩,⟨p1,p2⟩,⟨u1,u2,u3,u4⟩,⟨o1,o2,o3,o4⟩,⟨r1,r2,r3,r4,r5,r6⟩,⟨a1,a2⟩,⟨v1,v2⟩⟩:=f;obtain⟨Cr',No',At',Ki',⟨ah,G,X,ad,t,J,al,an⟩,⟨i,e,l,a⟩,⟨w,Q,ay,L,u⟩,⟨aa,ax,ai,P,am,O,ab,au⟩,⟨ae,x,p,ag⟩,⟨r,av,ar,ac⟩,⟨T,z⟩,⟨M,az,V,ao⟩,⟨s,aj,F,aq⟩,⟨Y,n,q,N,aw,m⟩,⟨y,af⟩,⟨H,E⟩⟩:=g;simp only at k d;subst k;subst d
  grind[Ch,F2]
set_option maxRecDepth 4000
theorem UK(x:Int):u64.wrap x=x%18446744073709551616:=by rfl
theorem lO(x:Int):u8.wrap x=x%256:=by unfold IntKind.wrap;rfl
theorem uX(a b:Int):L7 .u8 a b=(((BitVec.ofInt 8 a|||BitVec.ofInt 8 b).toNat:Nat):Int)%256:=by rfl
theorem ot(a b:Int):Mr .u64 a b=(((BitVec.ofInt 64 a^^^BitVec.ofInt 64 b).toNat:Nat):Int)%18446744073709551616:=by rfl
theorem V9(v:Nat):L7 .u8 (u8.wrap (v:Int)) 128=((v%128+128:Nat):Int):=by
 have a:∀m:Fin 256,((BitVec.ofNat 8 m.val|||128#8).toNat)=m.val%128+128:=by decide
 have d:v%256<256:=(by omega);have k:(BitVec.ofNat 8 (v%256)|||128#8).toNat=v%256%128+128:=a ⟨v%256,d⟩;have e:BitVec.ofInt 8 (v%256)=BitVec.ofNat 8 (v%256):=by
  rfl
 have f:BitVec.ofInt 8 128=128#8:=by rfl
 rw[uX,lO,e,f,k];omega
theorem fY(v:Nat):DH v=if 128<=v then((v%128+128:Nat):Int)::DH (v/128)else[(v:Int)]:=by
 by_cases h:128<=v
 .rw[mZ h,Vu h,V9]
 .rw[UU h,Vt h,lO]
  grind
theorem qw:∀(v w:Nat) (a b:AA Int),DH v++a=DH w++b->v=w/\a=b:=by
 intro v
 induction v using Nat.strongRecOn with
 |_ v d=>
 intro w a b h;rw[fY v,fY w]at h
 grind
theorem tP:∀(v:Nat),∀x∈DH v,0<=x/\x<256:=by
 intro v
 induction v using Nat.strongRecOn with
 |_ v d=>
 intro x a;rw[fY v]at a
 grind
theorem qA{x:Int}(g:0<=x)(f:x<9223372036854775808):Fr x=2*x:=by
 unfold Fr Kr;have e:Ye .i64 x 63=0:=by
  show Int.fdiv x (2^63)=0
  grind
 have a:(2:Int)^(min (1:Int).toNat IntKind.u64.bits)=2:=by decide
 rw[e,a,ot];simp only[UK];have d:BitVec.ofInt 64 (0%18446744073709551616)=0#64:=by rfl
 rw[d,BitVec.xor_zero,BitVec.toNat_ofInt];omega
theorem p_{x:Int}(g:x<0)(f: -9223372036854775808<=x):Fr x= -2*x-1:=by
 unfold Fr Kr;have e:Ye .i64 x 63= -1:=by
  show Int.fdiv x (2^63)= -1
  grind
 have a:(2:Int)^(min (1:Int).toNat IntKind.u64.bits)=2:=by decide
 rw[e,a,ot];simp only[UK];have d:BitVec.ofInt 64 (-1%18446744073709551616)=BitVec.allOnes 64:=by decide
 rw[d,BitVec.xor_allOnes,BitVec.toNat_not,BitVec.toNat_ofInt];omega
def F5(x:Int):Prop:= -9223372036854775808<=x/\x<9223372036854775808
theorem xA{x y:Int}(e:F5 x)(f:F5 y)(h:Fr x=Fr y):x=y:=by
 obtain⟨a,b⟩:=e;obtain⟨c,d⟩:=f
 grind[qA,p_]
theorem qx:∀(l m:AA Int),AI l=AI m->(∀x∈l,F5 x)->(∀x∈m,F5 x)->(l.map DV).flatten=(m.map DV).flatten->l=m
 |[],[],_,_,_,_=>rfl
 |x::l,y::m,hl,h1,h2,h=>by
  simp[Vk,Vm,DV,VK,List.cons.injEq,true_and]at h;obtain⟨e1,e2⟩:=qw _ _ _ _ h;obtain⟨z,p1,p2⟩:=Z2 x;obtain⟨z',q1,q2⟩:=Z2 y;rw[p1,q1]at e1;have:=xA (h1 x (by simp)) (h2 y (by simp)) (by omega);rw[this,qx l m (by grind) (by grind) (by grind) e2]
theorem za{l m:AA Int}(a:∀x∈l,F5 x)(d:∀x∈m,F5 x)(h:Dm l=Dm m):l=m:=by
 unfold Dm at h;simp[VK,List.cons.injEq,true_and]at h
 grind[qw,qx]
theorem t5(l:AA Int):∀x∈Dm l,0<=x/\x<256:=by
 intro x a;unfold Dm at a;simp only[VD,VB,List.mem_flatten,Xe]at a;rcases a with(rfl|a)|⟨m,⟨y,_,rfl⟩,a⟩
 .omega
 .exact tP _ x a
 .rcases X7.1 a with rfl|a
  .omega
  .exact tP _ x a
structure DC {α:Type} (c:α->α->Int):Prop where
 swap:∀x y,c y x= -c x y
 trans:∀x y z,c x y<0->c y z<0->c x z<0
 eqt:∀x y z,c x y=0->c x z=c y z
section
variable {α:Type} {c d:α->α->Int}
theorem DC.refl(h:DC c)(x:α):c x x=0:=by have:=h.swap x x;omega
theorem DC.eqr(h:DC c){x y:α}(z:α)(e:c x y=0):c z x=c z y:=by
 rw[h.swap x z,h.swap y z,h.eqt x y z e]
theorem ff(h:DC c)(k:DC d):DC λx y=>bif c x y != 0 then c x y else d x y:=by
 refine⟨λx y=>?_,λx y z=>?_,λx y z=>?_⟩
 .have e:=h.swap x y;by_cases q:c x y=0
  .have f:c y x=0:=by omega
   rw[q,f];exact k.swap x y
  grind
 .by_cases q:c x y=0
  .have e:=h.eqt x y z q;rw[q,e];by_cases f:c y z=0
   .rw[f];exact k.trans x y z
   grind
  .rw[bne_iff_ne.2 q];by_cases f:c y z=0
   .have e:=h.eqr x f
    grind
   .rw[bne_iff_ne.2 f];intro a b;have:=h.trans x y z a b
    grind
 .by_cases q:c x y=0
  .rw[q,h.eqt x y z q];intro e;rw[k.eqt x y z e]
  grind
theorem DC.on{β:Type}(h:DC c)(f:β->α):DC λx y=>c (f x) (f y):=
 ⟨λx y=>h.swap _ _,λx y z=>h.trans _ _ _,λx y z=>h.eqt _ _ _⟩
end
theorem FO:DC CV:=by
 have e:∀a b,CV a b=if a<b then-1 else if b<a then 1 else 0:=by
  intro a b;unfold CV
  grind
 refine⟨λx y=>?_,λx y z=>?_,λx y z=>?_⟩
 iterate 3 grind
theorem PA:DC Lib.compareBytes:=by
 have f:∀x y:AA UInt8,Lib.compareBytes y x= -Lib.compareBytes x y:=by
  intro x
  induction x with
  |nil=>intro y;cases y<;>simp[Lib.compareBytes]
  |cons a x e=>
   intro y;cases y with
   |nil=>rfl
   |cons b y=>
    unfold Lib.compareBytes
    grind
 have eq:∀x y:AA UInt8,Lib.compareBytes x y=0->x=y:=by
  intro x
  induction x with
  |nil=>intro y h;cases y with
   |nil=>rfl
   |cons b y=>simp[Lib.compareBytes]at h
  |cons a x e=>
   intro y h;cases y with
   |nil=>simp[Lib.compareBytes]at h
   |cons b y=>
    unfold Lib.compareBytes at h
    grind
 refine⟨f,?_,(by grind)⟩;intro x
 induction x with
 |nil=>
  intro y z h k;cases y with
  |nil=>omega
  |cons b y=>cases z with
   |nil=>grind
   |cons d z=>simp[Lib.compareBytes]
 |cons a x e=>
  intro y z h k;cases y with
  |nil=>simp[Lib.compareBytes]at h
  |cons b y=>
   cases z with
   |nil=>simp[Lib.compareBytes]at k
   |cons d z=>
    unfold Lib.compareBytes at h k⊢
    grind
theorem k_:∀{x y:AA UInt8},Lib.compareBytes x y=0->x=y
 |[],[],_=>rfl
 |[],_::_,h=>by simp[Lib.compareBytes]at h
 |_::_,[],h=>by simp[Lib.compareBytes]at h
 |a::x,b::y,h=>by
  unfold Lib.compareBytes at h;by_cases q:a<b
  .grind
  .rw[Vt q]at h;by_cases q2:b<a
   .grind
   .rw[Vt q2]at h;have:a=b:=by
     grind
    rw[this,k_ h]
theorem sb:∀{l m:AA Int},(∀x∈l,0<=x/\x<256)->(∀x∈m,0<=x/\x<256)->l.map Yd=m.map Yd->l=m
 |[],[],_,_,_=>rfl
 |[],_::_,_,_,h=>by simp at h
 |_::_,[],_,_,h=>by simp at h
 |x::l,y::m,h1,h2,h=>by
  simp[Vk,List.cons.injEq]at h;have a1:=h1 x (by simp);have a2:=h2 y (by simp);have e:=congrArg UInt8.toNat h.1;unfold Yd at e;rw[UInt8.toNat_ofNat',UInt8.toNat_ofNat']at e;have:x=y:=by omega
  rw[this,sb (by grind) (by grind) h.2]
theorem mH(f g:Bm):C9 f g=bif CV f.At g.At != 0 then CV f.At g.At else bif CV f.Au g.Au != 0 then CV f.Au g.Au else bif CV f.No g.No != 0 then CV f.No g.No else cmpB (Dw f).1 (Dw g).1:=by
 unfold C9 H6 H6 H6 H6
 grind
theorem RY:DC C9:=by
 have h:=ff (FO.on λf=>f.At) (ff (FO.on λf=>f.Au) (ff (FO.on λf=>f.No) (PA.on λf=>(Dw f).1.map Yd)));have e:=by
  funext f g;exact mH f g
 rw[e];exact h
def O1(e:Ce):Bool:=AG (-1125899906842624<=e.lo)&&AG (e.hi<=1125899906842624)
theorem zG(f:Bm):(Cj f).all O1=true:=by
 unfold Cj;rw[List.all_append,XX];refine⟨rfl,?_⟩;rcases kinds f with k|k|k|k|k|k|k|k|k|k|k|k|k|k
 case inr.inr.inr.inr.inr.inr.inr.inr.inr.inl=>
  unfold CH;rw[k];cases((f.AS.AN==1)||(f.AS.AN==2))with
  |true=>rfl
  |false=>
   cases(f.AS.AN==3)with
   |true=>rfl
   |false=>cases(f.AS.AN==4)<;>rfl
 case inr.inr.inr.inr.inr.inr.inr.inr.inr.inr.inr.inr.inr=>rw[k];rfl
 all_goals
  unfold CH;rw[k];rfl
theorem tQ{f:Bm}(h:B0 f=AE):∀x∈Dl f,F5 x:=by
 unfold B0 at h;rw[l7]at h;by_cases q:CH f=.c13 ()
 .rw[q]at h;cases h
 .rw[<- (m0 f q).2];cases a:DJ f (CH f)with
  |false=>grind
  |true=>
   rw[a]at h;cases b:(Cj f).all (Kl f (Ch f))with
   |false=>grind
   |true=>
    intro x j;obtain⟨e,g,rfl⟩:=Xe.1 j;have d:=Xu.1 b e g;have i:=Xu.1 (zG f) e g;unfold Kl at d;unfold O1 at i;simp[XX,Bool.not_eq_true',decide_eq_false_iff_not,Vs]at d i;unfold F5;omega
theorem my{f:Bm}(h:B0 f=AE):Dw f=(Dm (Dl f),0):=by
 unfold Dw;rw[h,Qkd h];rfl
theorem eT{f g:Bm}(a:B0 f=AE)(hg:B0 g=AE)(h:C9 f g=0):f=g:=by
 rw[mH]at h;have z:cmpB (Dw f).1 (Dw g).1=0:=by
  grind
 rw[my a,my hg]at z;have e:=sb (t5 _) (t5 _) (k_ z)
 grind[yp,za,tQ]
set_option maxRecDepth 4000
theorem nM{α:Type}{R:α->α->Prop}(d:∀x,¬R x x)(f:∀x y z,R x y->R y z->R x z):∀{l m:AA α},l.Pairwise R->m.Pairwise R->(∀x,x∈l↔x∈m)->l=m
 |[],[],_,_,_=>rfl
 |[],b::m,_,_,h=>by have:=(h b).2 (by simp);cases this
 |a::l,[],_,_,h=>by have:=(h a).1 (by simp);cases this
 |a::l,b::m,hl,hm,h=>by
  rw[Xc]at hl hm;have e:a=b:=by
   rcases X7.1 ((h a).1 (by simp))with e|g
   .exact e
   .rcases X7.1 ((h b).2 (by simp))with e|i
    .exact e.symm
    grind
  subst e;congr 1;refine nM d f hl.2 hm.2 λx=>?_
  grind
def DX(x:Bm):AA Bm->AA Bm
 |[]=>[x]
 |y::r=>bif C9 y x<0 then y::DX x r else bif y==x then y::r else x::y::r
def B6(l:AA Bm):AA Bm:=l.foldl (λa x=>bif B0 x then DX x a else a) []
def I9(a b:Bm):Prop:=C9 a b<0
theorem xH(x:Bm):¬I9 x x:=by unfold I9;have:=RY.refl x;omega
theorem lH(x y z:Bm):I9 x y->I9 y z->I9 x z:=RY.trans x y z
theorem fI(x:Bm):∀(l:AA Bm) (z:Bm),z∈DX x l↔z=x\/z∈l
 |[],z=>by simp[DX]
 |y::r,z=>by
  unfold DX;cases AG (C9 y x<0)with
  |true=>
   simp[Vq,X7,fI x r z]
   grind
  |false=>
   grind
def D3(l:AA Bm):Prop:=l.Pairwise I9/\ ∀f∈l,B0 f=AE
theorem qP{x:Bm}(a:B0 x=AE):∀{l:AA Bm},D3 l->D3 (DX x l)
 |[],_=>⟨by simp[DX],by simp[DX,a]⟩
 |y::r,h=>by
  obtain⟨h1,h2⟩:=h;rw[Xc]at h1;have hr:D3 r:=⟨h1.2,(by grind)⟩;have ih:=qP a hr;refine⟨?_,λf hf=>?_⟩
  .unfold DX;cases q:AG (C9 y x<0)with
   |true=>
    simp[Vq,Xc];refine⟨λz hz=>?_,ih.1⟩;rcases(fI x r z).1 hz with rfl|hz
    .show C9 y z<0
     grind
    grind
   |false=>
    simp[Vr];cases q2:(y==x)with
    |true=>simp_all
    |false=>
     simp only[Vr,Xc];have lt:I9 x y:=by
      have g:=Vw q;have d:¬C9 y x=0:=λe=>by
       have:=eT (h2 y (by simp)) a e
       grind
      have:=RY.swap x y;unfold I9;omega
     refine⟨λz hz=>?_,h1⟩;rcases X7.1 hz with rfl|hz
     .exact lt
     .exact lH _ _ _ lt (h1.1 z hz)
  .rcases(fI x (y::r) f).1 hf with rfl|hf
   .exact a
   grind
theorem mx(l:AA Bm):D3 (B6 l)/\ ∀f,f∈B6 l↔f∈l/\B0 f=true:=by
 have d:∀(r a:AA Bm),D3 a->D3 (r.foldl (λa x=>bif B0 x then DX x a else a) a)/\ ∀f,f∈r.foldl (λa x=>bif B0 x then DX x a else a) a↔f∈a\/(f∈r/\B0 f=AE):=by
  intro r
  induction r with
  |nil=>simp
  |cons x r i=>
   intro a h;rw[XE];cases q:B0 x with
   |false=>
    grind
   |true=>
    obtain⟨e,g⟩:=i (DX x a) (qP q h);refine⟨e,λf=>?_⟩;rw[Vq,g f,fI,X7];constructor
    .rintro((rfl|a)|⟨a,b⟩)
     .exact .inr ⟨.inl rfl,q⟩
     .exact .inl a
     .exact .inr ⟨.inr a,b⟩
    .rintro(a|⟨rfl|a,b⟩)
     .exact .inl (.inr a)
     .exact .inl (.inl rfl)
     .exact .inr ⟨a,b⟩
 obtain⟨e,g⟩:=d l [] ⟨by simp,by simp⟩
 grind[B6]
def FR(c:Bl)(l:AA Bm)(f:Bm):Prop:=f∈l/\dI c f=AE/\ ∀g∈l,dI c g=AE->g.AW.BH=f.AW.BH->¬C9 g f<0
theorem Ux{c:Bl}{f:Bm}(h:dI c f=AE):B0 f=true:=by
 simp_all[dI]
theorem FR.one{c:Bl}{l:AA Bm}{f g:Bm}(a:FR c l f)(hg:FR c l g)(e:f.AW.BH=g.AW.BH):f=g:=by
 have d:=a.2.2 g hg.1 hg.2.1 e.symm;have h:=hg.2.2 f a.1 a.2.1 e;have:=RY.swap f g;exact eT (Ux a.2.1) (Ux hg.2.1) (by omega)
theorem QqQ{c:Bl}{l m:AA Bm}(h:∀f,B0 f=AE->(f∈l↔f∈m)){f:Bm}:FR c l f↔FR c m f:=by
 constructor
 .rintro⟨a,b,d⟩;exact⟨(h f (Ux b)).1 a,b,λg i e j=>d g ((h g (Ux e)).2 i) e j⟩
 .rintro⟨a,b,d⟩;exact⟨(h f (Ux b)).2 a,b,λg i e j=>d g ((h g (Ux e)).1 i) e j⟩
set_option maxRecDepth 4000
def nb(v lo hi:Int):Bool:= !(AG (v<lo))&& !(AG (hi<v))
theorem Rp(v lo hi:Int):nb v lo hi=AE↔lo<=v/\v<=hi:=by
 simp_all[nb]
def Dy(f:Bm):Bool:=
 bif f.AN==1 then AE&&(nb f.AW.BH 1 9999&&(nb f.AW.AQ 0 7&&(nb f.AW.A' 0 31&&(nb f.AW.Bb (-1099511627776) 1099511627776&&(nb f.AW.Bi 0 120&&(nb f.AW.BJ 0 1048576&&(nb f.AW.Bc 0 9999&&(nb f.AW.Bh 0 1048576&&AE))))))))
 else bif f.AN==2 then AE&&(nb f.Az.Ag 0 39&&(nb f.Az.AT 0 255&&(nb f.Az.BJ 0 1048576&&(nb f.Az.Av (-1099511627776) 1099511627776&&AE))))
 else bif f.AN==3 then AE&&(nb f.AO.Ag 0 39&&(nb f.AO.AT 0 255&&(nb f.AO.Av (-1099511627776) 1099511627776&&(nb f.AO.True (-1099511627776) 1099511627776&&(nb f.AO.BX 0 1099511627776&&AE)))))
 else bif f.AN==4 then AG (f.AV.BQ<=f.AV.BO)&&(nb f.AV.BE 0 39&&(nb f.AV.A2 0 255&&(nb f.AV.A1 (-1099511627776) 1099511627776&&(nb f.AV.BF 0 39&&(nb f.AV.A3 0 255&&(nb f.AV.Ay (-1099511627776) 1099511627776&&(nb f.AV.BQ (-1099511627776) 1099511627776&&(nb f.AV.BO (-1099511627776) 1099511627776&&AE))))))))
 else bif f.AN==5 then AG (f.A0.Lo<=f.A0.Hi)&&(nb f.A0.BH 1 9999&&(nb f.A0.Af 0 255&&(nb f.A0.Lo (-1099511627776) 1099511627776&&(nb f.A0.Hi (-1099511627776) 1099511627776&&AE))))
 else bif f.AN==6 then AG (f.Ab.Lo<=f.Ab.Hi)&&(nb f.Ab.Ag 0 39&&(nb f.Ab.AT 0 255&&(nb f.Ab.Lo (-1099511627776) 1099511627776&&(nb f.Ab.Hi (-1099511627776) 1099511627776&&AE))))
 else bif f.AN==7 then AG (f.BA.A<f.BA.B)&&(nb f.BA.A 1 9999&&(nb f.BA.B 1 9999&&AE))
 else bif f.AN==8 then AE&&(nb f.Aj.A4 1 1048576&&(nb f.Aj.BH 1 9999&&(nb f.Aj.Ah 0 31&&(nb f.Aj.Af 0 255&&AE))))
 else bif f.AN==9 then AE&&(nb f.Ad.A4 1 1048576&&(nb f.Ad.By 0 9999&&(nb f.Ad.Be 0 1125899906842624&&(nb f.Ad.Ba 0 1&&AE))))
 else bif f.AN==10 then AE&&(nb f.AS.A4 1 1048576&&(nb f.AS.BC 1 2&&(nb f.AS.AN 1 5&&(bif (f.AS.AN==1)||(f.AS.AN==2)then nb f.AS.BH 0 0&&(nb f.AS.Af 0 0&&(nb f.AS.A5 0 0&&AE))else bif f.AS.AN==3 then nb f.AS.BH 1 9999&&(nb f.AS.Af 0 255&&(nb f.AS.A5 1 1099511627776&&AE))else bif f.AS.AN==4 then nb f.AS.BH 1 9999&&(nb f.AS.Af 0 255&&(nb f.AS.A5 1 64&&AE))else nb f.AS.BH 1 9999&&(nb f.AS.Af 0 255&&(nb f.AS.A5 0 0&&AE))))))
 else bif f.AN==11 then AE&&(nb f.Al.A4 1 1048576&&(nb (Ch f) 0 1&&AE))
 else bif f.AN==12 then AE&&AE
 else bif f.AN==13 then AE&&(nb f.BI.Au 0 31&&(nb f.BI.No 1 1048576&&AE))
 else AD
theorem mD(f:Bm):(f.AN=1\/f.AN=2\/f.AN=3\/f.AN=4\/f.AN=5\/f.AN=6\/f.AN=7\/f.AN=8\/f.AN=9\/f.AN=10\/f.AN=11\/f.AN=12\/f.AN=13)\/((f.AN==1)=AD/\(f.AN==2)=AD/\(f.AN==3)=AD/\(f.AN==4)=AD/\(f.AN==5)=AD/\(f.AN==6)=AD/\(f.AN==7)=AD/\(f.AN==8)=AD/\(f.AN==9)=AD/\(f.AN==10)=AD/\(f.AN==11)=AD/\(f.AN==12)=AD/\(f.AN==13)=AD):=by
 grind
theorem rE(f:Bm):HC f=Dy f:=by
 rcases mD f with k|⟨w,q,t,x,E,y,u,z,r,l,h,i,n⟩
 .rcases k with k|k|k|k|k|k|k|k|k|k|k|k|k
  case inr.inr.inr.inr.inr.inr.inr.inr.inr.inl=>
   obtain⟨Cr,No,At,Ki,S,R,B,Sy,Ha,Si,Pa,Re,Pr,⟨j,m,a,e,d,g⟩,Ap,Vo⟩:=f;simp only at k;subst k;have p:CH ⟨Cr,No,At,10,S,R,B,Sy,Ha,Si,Pa,Re,Pr,⟨j,m,a,e,d,g⟩,Ap,Vo⟩=(bif (a==1)||(a==2)then Bq.c9 (0,0,0,0,0,0)else bif a==3 then .c9 (1,9999,0,255,1,1099511627776)else bif a==4 then .c9 (1,9999,0,255,1,64)else .c9 (1,9999,0,255,0,0)):=rfl;have s:Dy ⟨Cr,No,At,10,S,R,B,Sy,Ha,Si,Pa,Re,Pr,⟨j,m,a,e,d,g⟩,Ap,Vo⟩=(AE&&(nb j 1 1048576&&(nb m 1 2&&(nb a 1 5&&(bif (a==1)||(a==2)then nb e 0 0&&(nb d 0 0&&(nb g 0 0&&AE))else bif a==3 then nb e 1 9999&&(nb d 0 255&&(nb g 1 1099511627776&&AE))else bif a==4 then nb e 1 9999&&(nb d 0 255&&(nb g 1 64&&AE))else nb e 1 9999&&(nb d 0 255&&(nb g 0 0&&AE))))))):=rfl;rw[s];unfold HC;rw[p];cases((a==1)||(a==2))with
   |true=>rfl
   |false=>
    cases(a==3)with
    |true=>rfl
    |false=>cases(a==4)<;>rfl
  all_goals
   obtain⟨Cr,No,At,Ki,S,R,B,Sy,Ha,Si,Pa,Re,Pr,Ru,Ap,Vo⟩:=f;simp only at k;subst k;rfl
 .have p:CH f=.c13 ():=by unfold CH;grind
  unfold HC Dy;rw[p,w,q,t,x,E,y,u,z,r,l,h,i,n];rfl
theorem Jk(n:Nat)(v a b:Int):Fq n v a b=AC (nb v a b):=by
 unfold Fq nb;have d:AG (a<=v)= !decide (v<a):=by grind
 have e:AG (v<=b)= !decide (b<v):=by grind
 rw[d,e]
 grind
theorem L_(a:Bool)(b:AB Bool)(c:Bool)(h:b=AC c):(bif a then b else AC AD)=AC (a&&c):=by
 grind
theorem PZ(n:Nat)(v:Int):Lc n v=AC (nb v 1 9999):=by unfold Lc;rw[Jk];rfl
theorem eI(n:Nat)(v:Int):Pm n v=AC (nb v 0 39):=by unfold Pm;rw[Jk];rfl
theorem fL(n:Nat)(v:Int):H4 n v=AC (nb v 0 255):=by unfold H4;rw[Jk];rfl
theorem Z9(n:Nat)(v:Int):Lw n v=AC (nb v 0 1048576):=by unfold Lw;rw[Jk];rfl
theorem JL(n:Nat)(v:Int):H0 n v=AC (nb v 0 255):=by unfold H0;rw[Jk];rfl
theorem e9(n:Nat)(v:Int):Ia n v=AC (nb v 1 1048576):=by unfold Ia;rw[Jk];rfl
theorem sK(n:Nat)(v:Int):Lu n v=AC (nb v 1 1048576):=by unfold Lu;rw[Jk];rfl
theorem po(n:Nat)(v:Int):L0 n v=AC (nb v 0 31):=by unfold L0;rw[Jk];rfl
theorem UI(n:Nat)(v:Int):IM n v=AC (nb v (-1099511627776) 1099511627776):=by unfold IM;rw[Jk];rfl
theorem zy(n:Nat)(f:Bm):OW n f=AC (Dy f):=by
 unfold OW Dy;cases(f.AN==1)with
 |true=>
  simp_all[TV,PZ,UI,Z9,Jk,L_]
 |false=>
 cases(f.AN==2)with
 |true=>simp_all[eI,fL,UI,Z9,L_]
 |false=>
 cases(f.AN==3)with
 |true=>simp_all[eI,fL,UI,Jk,L_]
 |false=>
 cases(f.AN==4)with
 |true=>
  unfold TG;simp only[eI,fL,UI,Z9,Jk,XK,Vq,Vr,L_ _ _ _ rfl,Option.some.injEq,VA,Bool.and_true]
  grind
 |false=>
 cases(f.AN==5)with
 |true=>
  simp only[PZ,JL,UI,Z9,Jk,XK,Vq,Vr,L_ _ _ _ rfl,Option.some.injEq,VA,Bool.and_true]
  grind
 |false=>
 cases(f.AN==6)with
 |true=>
  simp only[eI,fL,UI,Z9,Jk,XK,Vq,Vr,L_ _ _ _ rfl,Option.some.injEq,VA,Bool.and_true]
  grind
 |false=>
 cases(f.AN==7)with
 |true=>
  simp only[PZ,Jk,XK,Vq,Vr,L_ _ _ _ rfl,Option.some.injEq,VA,Bool.and_true];rw[XZ];simp only[XX,Rp,Vs];omega
 |false=>
 cases(f.AN==8)with
 |true=>simp only[PZ,e9,JL,Jk,XK,Vq,Vr,L_ _ _ _ rfl,Option.some.injEq,VA,Bool.and_true]
 |false=>
 cases(f.AN==9)with
 |true=>simp only[PZ,e9,JL,Jk,XK,Vq,Vr,L_ _ _ _ rfl,Option.some.injEq,VA,Bool.and_true]
 |false=>
 cases(f.AN==10)with
 |true=>
  unfold TW;simp only[e9,Jk,XK,Vq,Vr,VA];have a:∀v:Int,(v==0)=nb v 0 0:=by intro v;rw[XZ,Rp,Vy];omega
  cases nb f.AS.A4 1 1048576 with
  |false=>rfl
  |true=>
   cases nb f.AS.BC 1 2 with
   |false=>rfl
   |true=>
    simp only[Xg,Vr,XK,VA];by_cases j:f.AS.AN=1
    .rw[j];simp only[a];cases nb f.AS.BH 0 0 with
     |false=>rfl
     |true=>cases nb f.AS.Af 0 0 with
      |false=>rfl
      |true=>cases nb f.AS.A5 0 0<;>rfl
    by_cases g:f.AS.AN=2
    .rw[g];simp only[a];cases nb f.AS.BH 0 0 with
     |false=>rfl
     |true=>cases nb f.AS.Af 0 0 with
      |false=>rfl
      |true=>cases nb f.AS.A5 0 0<;>rfl
    by_cases h:f.AS.AN=3
    .rw[h];simp only[a,PZ,JL,Jk,XK];cases nb f.AS.BH 1 9999 with
     |false=>rfl
     |true=>cases nb f.AS.Af 0 255 with
      |false=>rfl
      |true=>cases nb f.AS.A5 1 1099511627776<;>rfl
    by_cases d:f.AS.AN=4
    .rw[d];simp only[a,PZ,JL,Jk,XK];cases nb f.AS.BH 1 9999 with
     |false=>rfl
     |true=>cases nb f.AS.Af 0 255 with
      |false=>rfl
      |true=>cases nb f.AS.A5 1 64<;>rfl
    by_cases i:f.AS.AN=5
    .rw[i];simp only[a,PZ,JL,Jk,XK];cases nb f.AS.BH 1 9999 with
     |false=>rfl
     |true=>cases nb f.AS.Af 0 255 with
      |false=>rfl
      |true=>cases nb f.AS.A5 0 0<;>rfl
    have e:nb f.AS.AN 1 5=false:=by
     rw[VM,ne_eq,Rp];omega
    rw[e,Vz.2 j,Vz.2 g,Vz.2 h,Vz.2 d,Vz.2 i];rfl
 |false=>
 cases(f.AN==11)with
 |true=>
  have e:nb (Ch f) 0 1=true:=by unfold Ch;cases f.Al.A_<;>rfl
  simp only[e9,XK,Vq,Vr,e,VA,Bool.and_true]
 |false=>
 cases(f.AN==12)with
 |true=>rfl
 |false=>
 cases(f.AN==13)with
 |true=>simp only[po,sK,Jk,XK,Vq,Vr,L_ _ _ _ rfl,Option.some.injEq,VA,Bool.and_true]
 |false=>rfl
theorem ws(n:Nat)(f:Bm):OT n f=AC (F2 f):=by
 rcases mD f with k|⟨p,l,h,i,r,s,j,q,m,g,d,a,e⟩
 .rcases k with k|k|k|k|k|k|k|k|k|k|k|k|k
  all_goals
   obtain⟨Cr,No,At,Ki,S,R,B,Sy,Ha,Si,Pa,Re,Pr,Ru,Ap,Vo⟩:=f;subst k;rfl
 .unfold OT F2
  grind
theorem Qk0{f:Bm}(h:Dy f=AE):nb f.AN 1 13=true:=by
 rw[Rp];rcases mD f with k|⟨p,m,i,j,r,s,l,q,n,g,d,a,e⟩
 .omega
 grind[Dy]
theorem xU(f:Bm):It f=(nb f.AN 1 13&&(nb f.Au 0 31&&(nb f.No 1 1048576&&(nb f.At 0 1099511627776&&AE)))):=rfl
theorem rg(n:Nat)(f:Bm):Ls n f=AC (bif B0 f then 0 else 120):=by
 unfold Ls;rw[po,sK,Jk,zy,ws,fe,rE,xU];simp[XK];have a:= @Qk0 f
 grind
theorem xP(n:Nat)(f:Bm):N_ n f=AC (Dl f):=by
 unfold N_ Dl;cases(f.AN==1)with
 |true=>rfl
 |false=>
 cases(f.AN==2)with
 |true=>rfl
 |false=>
 cases(f.AN==3)with
 |true=>rfl
 |false=>
 cases(f.AN==4)with
 |true=>rfl
 |false=>
 cases(f.AN==5)with
 |true=>rfl
 |false=>
 cases(f.AN==6)with
 |true=>rfl
 |false=>
 cases(f.AN==7)with
 |true=>rfl
 |false=>
 cases(f.AN==8)with
 |true=>rfl
 |false=>
 cases(f.AN==9)with
 |true=>rfl
 |false=>
 cases(f.AN==10)with
 |true=>rfl
 |false=>
 cases(f.AN==11)with
 |true=>
  unfold Ch;cases f.Al.A_<;>rfl
 |false=>
 cases(f.AN==13)with
 |true=>rfl
 |false=>rfl
theorem QkH(l:AA Int)(g:AI l<=1000):Ev (λn=>TZ n l) (l.map DQ):=by
 refine Ea ?_ (Qa _);have e:∀(m:AA Int) (a:AA AL),m.foldl (λa x=>a++[DQ x]) a=a++m.map DQ:=by
  intro m
  induction m with
  |nil=>simp
  |cons x m j=>grind
 refine Ey (Jc l (λa x=>a++[DQ x]) [] (λa i=>(a,(i:Int))) (λa=>a) (by omega) rfl (λi x a d h=>?_) ?_) (by rw[e];rfl)
 .unfold R8 S2;simp only[d.lt,d.ix,XK,d.nx];have f:AI a<=1000:=by grind
  rw[Rv _ _ (by omega)];exact Qa _
 simp_all[R8,Qa]
theorem Qi5(n:Nat)(x:Int)(h:F5 x):OK n x=AC (Fr x):=by
 obtain⟨a,d⟩:=h;unfold OK;simp only[UK];by_cases p:0<=x
 .rw[QV p,qA p d]
  grind
 .rw[Q4 p,p_ (by omega) a,Qt (show-9223372036854775808<=x+1 by omega) (by omega),Qt (by omega) (by omega)]
  grind
theorem QgS:∀(k v:Nat),v<128^(k+1)->k<=9->v<18446744073709551616->Ev (λn=>Pq n (v:Int)) (DH v):=by
 intro k
 induction k with
 |zero=>
  intro v e _ _;refine QX ?_;show Ev (λn=>U3 (Pq n) n v) _
  grind[U3,UU,Qa]
 |succ k f=>
  intro v e j i;refine QX ?_;show Ev (λn=>U3 (Pq n) n v) _;unfold U3;by_cases q:v<128
  .grind[UU,Qa]
  .rw[Q4 (show¬(v:Int)<128 by omega)];have d:v/128<128^(k+1):=by rw[Nat.div_lt_iff_lt_mul (by decide)];exact e
   have g:u64.wrap (Int.tdiv v 128)=v/128:=by
    rw[UK,Int.tdiv_eq_ediv_of_nonneg (by omega)];omega
   have h:u8.wrap (u64.wrap ((Int.tmod v 128)+128))=v%128+128:=by
    rw[lO,UK,Int.tmod_eq_emod_of_nonneg (by omega)];omega
   rw[g,h,fY v,Vu (show 128<=v by omega)];refine Ea (f (v/128) d (by omega) (by omega)) ?_;have a:=qv k (v/128) d;rw[aD _ _ (by simp;omega)];exact Qa _
theorem ru(v:Nat)(h:v<18446744073709551616):Ev (λn=>Pq n (v:Int)) (DH v):=QgS 9 v (by omega) (XU _) h
theorem QkJ(x:Int)(h:F5 x):Ev (λn=>Pp n (DQ x)) (DV x):=by
 refine QX ?_;show Ev (λn=>U2 (Pp n) n (DQ x)) _;unfold U2;have e:((DQ x).AN==1)=true:=rfl;obtain⟨z,a,d⟩:=Z2 x;refine Ea (ED (Qi5 0 x h)) ?_;rw[a];refine Ea (ru z d) ?_
 grind[fy,aD,Qa,DV]
theorem QkI(l:AA Int)(B:AI l<=1000)(h:∀x∈l,F5 x):Ev (λn=>Pp n (CJ l)) (Dm l):=by
 refine QX ?_;show Ev (λn=>U2 (Pp n) n (CJ l)) _;unfold U2;have e:((CJ l).AN==1)=false:=rfl;have q:((CJ l).AN==2)=false:=rfl;have s:(CJ l).L=l.map DQ:=rfl;rw[e,q,s];have w:u64.wrap ((AI (l.map DQ):Int))=((AI l:Nat):Int):=by
  rw[UK,X3];omega
 rw[w];refine Ea (ru (AI l) (by omega)) ?_;have z:=fy (show AI l<18446744073709551616 by omega);rw[aD _ _ (by simp;omega)];refine Ea (Qa _) ?_;refine Ea ?_ (Qa _);have d:∀(m:AA Int) (a:AA Int),AI ((m.map DQ).foldl (λa (v:AL)=>a++DV v.N) a)<=AI a+11*AI m:=by
  intro m
  induction m with
  |nil=>intro a;simp
  |cons x m u=>
   grind[mc]
 have k:=Jc (step:=λn=>NB n (CJ l) (Pp n)) (l.map DQ) (λa (v:AL)=>a++DV v.N) ([3]++DH (AI l)) (λa i=>(a,(i:Int))) (λa=>a) (by grind) rfl (λi x a f t=>?_) ?_
 .refine Ey k ?_;have:∀(m:AA Int) (a:AA Int),(m.map DQ).foldl (λa (v:AL)=>a++DV v.N) a=a++(m.map DV).flatten:=by
   intro m
   induction m with
   |nil=>intro a;simp
   |cons x m u=>grind[DQ]
  rw[this];rfl
 .obtain⟨y,r,rfl⟩:=Xe.1 f.mem;have hal:=by
   have p:=d (l.take i) ([3]++DH (AI l));rw[List.map_take, <- t,X4,Xz]at p;simp at p;omega
  unfold NB;have g:AG ((i:Int)<((CJ l).L.length:Int))=true:=f.lt;have j:Bt (CJ l).L (i:Int)=AC (DQ y):=f.ix;simp only[g,Vq,j,XK,f.nx];refine Ea (QkJ y (h y r)) ?_;have p:=mc y;have:app a (DV y)=AC (a++DV y):=by
   unfold app;have:Nat.ble (AI a+AI (DV y)) Yn=true:=XT (XW (show _<=1000000 by omega) (by decide));rw[this];rfl
  rw[this];exact Qa _
 simp_all[NB,Qa]
theorem QgT(x:Int):Ev (λn=>KK n (DQ x)) true:=by
 refine QX ?_;exact Qa _
theorem Qii(l:AA Int)(k:AI l<=1000):Ev (λn=>KK n (CJ l)) true:=by
 refine QX ?_;show Ev (λn=>Ov (KK n) n (CJ l)) _;unfold Ov;have h:((CJ l).AN==1)=false:=rfl;have j:((CJ l).AN==2)=false:=rfl;have m:((CJ l).AN==3)=true:=rfl;refine Ea (v:=Bn.k ()) (EA (λi=>(i:Int)) (AI (l.map DQ)) rfl (λi g=>?_) ?_) (Qa _)
 .have e:=Jo (by grind) (XL g);obtain⟨y,f⟩:∃y,(l.map DQ)[i]=DQ y:=by grind
  unfold SV;have a:AG (i<((CJ l).L.length:Int))=true:=e.lt;have d:Bt (CJ l).L i=AC (l.map DQ)[i]:=e.ix;simp only[a,d,XK,e.nx];rw[f];exact Ea (QgT y) (Qa _)
 simp_all[SV,CJ,Qa]
theorem Qil(x:Int):Ev (λn=>KL n (DQ x)) 0:=by
 refine QX ?_;exact Qa _
theorem Qik(l:AA Int)(j:AI l<=1000):Ev (λn=>KL n (CJ l)) 1:=by
 refine QX ?_;show Ev (λn=>Ow (KL n) n (CJ l)) _;unfold Ow;have h:((CJ l).AN != 3)=false:=rfl;refine Ea (v:=0) (EA (λi=>(0,(i:Int))) (AI (l.map DQ)) rfl (λi g=>?_) ?_) (Qa _)
 .have e:=Jo (by grind) (XL g);obtain⟨y,f⟩:∃y,(l.map DQ)[i]=DQ y:=by grind
  unfold SE;have a:AG ((i:Int)<(CJ l).L.length)=true:=e.lt;have d:Bt (CJ l).L i=AC (l.map DQ)[i]:=e.ix;simp only[a,d,XK,e.nx];rw[f];exact Ea (Qil y) (Qa _)
 simp_all[SE,CJ,Qa]
theorem yq(f:Bm):AI (Dl f)<=12:=by
 unfold Dl;cases(f.AN==1)with
 |true=>simp
 |false=>
 cases(f.AN==2)with
 |true=>simp
 |false=>
 cases(f.AN==3)with
 |true=>simp
 |false=>
 cases(f.AN==4)with
 |true=>simp
 |false=>
 cases(f.AN==5)with
 |true=>simp
 |false=>
 cases(f.AN==6)with
 |true=>exact XS rfl
 |false=>
 cases(f.AN==7)with
 |true=>exact XS rfl
 |false=>
 cases(f.AN==8)with
 |true=>exact XS rfl
 |false=>
 cases(f.AN==9)with
 |true=>exact XS rfl
 |false=>
 cases(f.AN==10)with
 |true=>exact XS rfl
 |false=>
 cases(f.AN==11)with
 |true=>exact XS rfl
 |false=>cases(f.AN==13)<;>exact XS rfl
theorem uH(f:Bm):Ev (λn=>Od n f) (Dw f):=by
 refine Ea (aH (Qa _) λn=>rg n f) ?_;cases a:B0 f with
 |false=>
  unfold Dw;rw[a];exact Qa _
 |true=>
  rw[my a];refine Ea (aH (Qa _) λn=>xP n f) ?_;have d:=yq f;refine Ea (QkH _ (by omega)) (Ea (v:=(Dm (Dl f),0)) ?_ (Qa _));exact Ea (Ea (Qii _ (by omega)) (Ea (Qik _ (by omega)) (Qa _))) (Ea (QkI _ (by omega) (tQ a)) (Qa _))
theorem qQ:∀a b:AA UInt8,Op.bytesLess a b=AG (Lib.compareBytes a b<0)
 |[],[]=>rfl
 |[],_::_=>rfl
 |_::_,[]=>rfl
 |a::x,b::y=>by
  unfold Op.bytesLess Lib.compareBytes;by_cases h:a<b
  .grind
  .rw[Vt h,Q4 h];by_cases h2:b<a
   .grind
   .rw[Vt h2];have:a=b:=by
     grind
    rw[this,beq_self_eq_true,qQ x y];rfl
theorem rD:∀a b:AA UInt8,Lib.compareBytes a b= -1\/Lib.compareBytes a b=0\/Lib.compareBytes a b=1
 |[],[]=>.inr (.inl rfl)
 |[],_::_=>.inl rfl
 |_::_,[]=>.inr (.inr rfl)
 |a::x,b::y=>by
  unfold Lib.compareBytes;split
  .omega
  .split
   .omega
   .exact rD x y
theorem uK(f g:Bm):Ev (λn=>Nv n f g) (C9 f g):=by
 refine QX (QX (QX (QX ?_)));unfold Nv;rw[mH];have j:∀n,LU n f g 0=(bif f.At<g.At then AC (.d (.d (-1)))else bif g.At<f.At then AC (.d (.d 1))else AC (.k 1)):=λn=>rfl;have i:∀n,LU n f g 1=(bif f.Au<g.Au then AC (.d (.d (-1)))else bif g.Au<f.Au then AC (.d (.d 1))else AC (.k 2)):=λn=>rfl;have d:∀n,LU n f g 2=(bif f.No<g.No then AC (.d (.d (-1)))else bif g.No<f.No then AC (.d (.d 1))else AC (.k 3)):=λn=>rfl;have a:∀n,LU n f g 3=AC (.d (.k ())):=λn=>rfl;simp[iter,j];unfold CV;cases AG (f.At<g.At)with
 |true=>exact Qa _
 |false=>
 cases AG (g.At<f.At)with
 |true=>exact Qa _
 |false=>
 simp[Vr,i];cases AG (f.Au<g.Au)with
 |true=>exact Qa _
 |false=>
 cases AG (g.Au<f.Au)with
 |true=>exact Qa _
 |false=>
 simp[Vr,d];cases AG (f.No<g.No)with
 |true=>exact Qa _
 |false=>
 cases AG (g.No<f.No)with
 |true=>exact Qa _
 |false=>
 simp[Vr,a,XK];refine Ea (Ev.shift (Ev.shift (Ev.shift (Ev.shift (uH f))))) (Ea (Ev.shift (Ev.shift (Ev.shift (Ev.shift (uH g))))) ?_);unfold cmpB;rw[qQ];rcases rD ((Dw f).1.map Yd) ((Dw g).1.map Yd)with h|h|h
 .rw[h];exact Qa _
 .have e:=k_ h;rw[h,e,beq_self_eq_true];exact Qa _
 .have:((Dw f).1.map Yd==(Dw g).1.map Yd)=false:=by
   rw[Vz];intro e;rw[e,PA.refl]at h;cases h
  rw[h,this];exact Qa _
def DI(x:Bm):AA Bm->Nat
 |[]=>0
 |y::r=>bif C9 y x<0 then DI x r+1 else 0
theorem qq(x:Bm):∀l:AA Bm,DI x l<=AI l
 |[]=>XU _
 |y::r=>by
  unfold DI;have:=qq x r
  grind
theorem sA(x:Bm):∀l:AA Bm,DX x l=if l[DI x l]?=AC x then l else l.take (DI x l)++x::l.drop (DI x l)
 |[]=>by simp[DX]
 |y::r=>by
  unfold DX DI;cases AG (C9 y x<0)with
  |true=>
   simp only[Vq];rw[sA x r]
   grind
  |false=>
   simp
theorem vh(l:AA Bm)(p:AI l<=1048576)(a:AA Bm)(s:AI a<=1048576){i:Nat}{x:Bm}(g:At l i x):
  Ev (λn=>iter (J7 n l (a,(i:Int))) n 0) ((DI x a:Nat):Int):=by
 have loop:∀(r:AA Bm) (j:Nat),a.drop j=r->j<=AI a->Cc (λn=>J7 n l (a,i)) j (j+DI x r):=by
  intro r
  induction r with
  |nil=>
   intro j f h;refine Ek ?_;unfold J7;simp only[QN f h,Vr];exact Qa _
  |cons y r m=>
   intro j f h;obtain⟨d,e⟩:=Qx (by omega) f;have k:=d.lt';unfold DI;cases q:AG (C9 y x<0)with
   |true=>
    refine Ez ?_ ((m (j+1) e (by omega)).eq (by simp[Vq];omega));unfold J7;simp only[d.lt,d.ix,g.ix,XK,d.nx];refine Ea (Ea (uK y x) ((Qa _).eq q)) (Qa _)
   |false=>
    refine Ek ?_;unfold J7;simp only[d.lt,d.ix,g.ix,XK];refine Ea (Ea (uK y x) ((Qa _).eq q)) (Qa _)
 have:=(loop a 0 rfl (XV _)).ev
 grind
theorem mp(x:Bm):∀l:AA Bm,AI (DX x l)<=AI l+1
 |[]=>by simp[DX]
 |y::r=>by
  unfold DX;have:=mp x r
  grind
theorem Rs{α:Type}(l m:AA α)(h:AI l+AI m<=4000000):app l m=AC (l++m):=by
 unfold app;have:Nat.ble (AI l+AI m) Yn=true:=XT (XW h (by decide))
 grind
theorem tt(l:AA Bm)(k:AI l<=1048575):Ev (λn=>Lq n l) (B6 l):=by
 refine Ea (v:=B6 l) ?_ (Qa _);refine Jc l (λa x=>bif B0 x then DX x a else a) [] (λa i=>(a,(i:Int))) (λa=>a) (by omega) rfl (λi x a d h=>?_) ?_
 .have f:AI a<=i:=by
   have:∀(m:AA Bm) (a:AA Bm),AI (m.foldl (λa x=>bif B0 x then DX x a else a) a)<=AI a+AI m:=by
    intro m
    induction m with
    |nil=>intro a;simp
    |cons x m j=>
     grind[mp]
   grind
  have g:=d.lt';unfold SL;simp only[d.lt,Vq,d.ix,XK,d.nx,rg];refine Ea ?_ (Qa _);cases p:B0 x with
  |false=>exact Qa _
  |true=>
   refine Ea (vh l (by omega) a (by omega) d) ?_;have e:=qq x a;refine Ea (v:=AG (a[DI x a]?=AC x)) ?_ ?_
   .by_cases q:DI x a<AI a
    .have hg:=XL q;rw[QV (show((DI x a:Nat):Int)<(AI a:Int)by omega),Qi hg,hg];refine(Qa _).eq ?_;rw[XZ];simp
    .rw[Q4 (show¬((DI x a:Nat):Int)<(AI a:Int)by omega)];refine(Qa _).eq ?_;rw[XP (by omega)];simp
   .rw[sA x a];by_cases q:a[DI x a]?=AC x
    .rw[QV q,Vu q];exact Qa _
    .rw[Q4 q,Vt q];rw[UB a e,aW a e];simp only[XK];rw[Rs [] _ (by simp;omega)];simp only[XK];rw[Rs _ [x] (by simp;omega)];simp only[XK];rw[Rs _ _ (by simp;omega)];refine(Qa _).eq ?_;simp
 simp_all[SL,Qa]
theorem pf{α:Type}[DecidableEq α](l m:AA α)(step:Nat->Int->AB (Bn Int (Bn Unit Bool)))(u:AI l<=4611686018427387904)
  (p:∀n s,step n s=(bif s<(AI l:Int) then(Bt l s).bind λx=>(Bt m s).bind λy=>(bif (x != y)then AC (.d (.d AD))else AC (.k (i64.wrap (s+1))))else AC (.d (.k ())))):
  Ev (λn=>(bif ((AI l:Int) != (AI m:Int))then AC AD else(Go.Sw.iter (step n) n 0:AB (Bn Unit Bool)).bind λb11=>match b11 with|.k sb11=>(AC AE)|.d sb11=>AC sb11)) (AG (l=m)):=by
 by_cases g:AI l=AI m
 .rw[show(AI l != (AI m:Int))=AD by grind];have loop:∀(r a:AA α) (i:Nat),l.drop i=r->m.drop i=a->i<=AI l->Cc step i (bif r=a then Bn.k ()else Bn.d AD):=by
   intro r
   induction r with
   |nil=>
    grind[Cc.done,Qa,QN]
   |cons x r t=>
    intro a i w f z;obtain⟨d,j⟩:=Qx u w;have q:=d.lt';cases a with
    |nil=>
     have h1:=Xr.1 f;omega
    |cons y a=>
     obtain⟨k,h⟩:=Qx (by omega) f;by_cases e:x=y
     .subst e;refine Ez ?_ ((t a (i+1) j h (by omega)).eq ?_)
      .refine aH (Qa _) λn=>?_;rw[p,d.lt,d.ix,k.ix,Vq,XK,XK,d.nx];simp
      .simp
     .refine Ek (aH (Qa _) λn=>?_);rw[p,d.lt,d.ix,k.ix,Vq,XK,XK,bne_iff_ne.2 e];simp[e]
  refine Ea (loop l m 0 rfl rfl (XV _)).ev ?_;cases AG (l=m)<;>exact Qa _
 .rw[show(AI l != (AI m:Int))=AE by rw[bne_iff_ne];omega];refine(Qa _).eq ?_;rw[Q4 λe=>g (by rw[e])]
theorem Qj9{c:Bl}(h:Bl.wf c):CK c:=by
 obtain⟨q,⟨m,f⟩,⟨j,s⟩,⟨i,d⟩,⟨k,l⟩,⟨r,p⟩,⟨n,e⟩,⟨g,t⟩,_⟩:=h;exact⟨q,m,λx a=>(f x a).1,j,i,λx a=>(d x a).1,λx a=>(d x a).2.2.2.1.1,k,λx a=>(l x a).1,r,λx a=>(p x a).1,n,λx a=>(e x a).1,g⟩
theorem zt{c:Bl}(h:Bl.wf c):DT c:=by
 obtain⟨_,_,_,⟨f,e⟩,_⟩:=h;exact⟨λd a=>(e d a).2.1.1,λd a=>(e d a).2.1.2⟩
theorem w8{c:Bl}(h:Bl.wf c):AI c.BK<=1048576/\ ∀x∈c.BK,AZ.wf x:=by
 obtain⟨_,_,_,_,_,_,_,_,a,_⟩:=h;exact a
theorem f7(l:AA Bm):AI (B6 l)<=AI l:=by
 have:∀(m a:AA Bm),AI (m.foldl (λa x=>bif B0 x then DX x a else a) a)<=AI a+AI m:=by
  intro m
  induction m with
  |nil=>simp
  |cons x m d=>
   grind[mp]
 have:=this l [];simpa[B6]using this
section
variable {α β:Type}
theorem zY{l:AA α}[DecidableEq (AA α)](a:AI l<=1048576):isNil l (AC ([]:AA α)) ((app ([]:AA α) l).bind λx=>AC x)=AC l:=by
 have:app [] l=AC l:=by rw[Pe _ _ (by simp;omega)];rfl
 unfold isNil
 grind
theorem xF{F:Nat->α->α->AB β}{V:α->α->β}(l:AA α)(h:∀x∈l,∀y∈l,Ev (λn=>F n x y) (V x y)):∃N,∀n,N<=n->∀x∈l,∀y∈l,F n x y=AC (V x y):=by
 obtain⟨N,a⟩:=nf (F:=λn p=>F n p.1 p.2) (V:=λp=>V p.1 p.2) (l.flatMap λx=>l.map λy=>(x,y)) (by
  grind)
 exact⟨N,λn d x e y f=>a n d (x,y) (by grind)⟩
def Ik(c:α->α->Int)(x y:α):Bool:=AG (c x y<0)
theorem UH{c:α->α->Int}(d:DC c)(l:AA α):Ms (Ik c) l:=by
 refine⟨λx _=>?_,λx _ y _ z _ g f=>?_,λx _ y _ z _ g f=>?_⟩
 .have:=d.refl x;exact Vx (by omega)
 .have g:=of_decide_eq_true g;have f:=of_decide_eq_true f;exact Vv (d.trans x y z g f)
 .have g:=Vw g;have f:=Vw f;refine Vx λh=>?_;have a:=d.swap x y;have b:=d.swap y z;by_cases e:c x y=0
  .rw[d.eqt x y z e]at h;exact f h
  .by_cases i:c y z=0
   .rw[<- d.eqr x i]at h;exact g h
   .have j:=d.trans z y x (by omega) (by omega);have:=d.swap x z;omega
theorem pg[DecidableEq α]{f:Nat->α->α->AB Int}{l:AA α}{c:α->α->Int}(q:AI l<=1048576)(r:∀x∈l,∀y∈l,Ev (λn=>f n x y) (c x y))(a:DC c)(s:∀x∈l,∀y∈l,c x y=0->x=y):
  Ev (λn=>Ky (f n) l) (I0 (Ik c) l):=by
 obtain⟨N,t⟩:=xF l r;refine⟨N,λn p=>?_⟩;have h:=t n p;have k:=yb (XS (vx q)) c h (λx _=>by have:=a.refl x;omega) (λx _ y _ z _=>a.trans x y z) (λx e y d z m i g=>by
   have:=(UH a l).ntrans x e y d z m (Vx i) (Vx g);exact Vw this) (λx e y d i g=>s x e y d (by have:=a.swap x y;omega))
 show Ky (f n) l=AC (I0 (Ik c) l);rw[k];congr 1;obtain⟨_,_,u,_,_⟩:=mj k;have j:∀x∈l,∀y∈l,GW (f n) x y=Ik c x y:=λx e y d=>by unfold GW Ik;grind
 refine f5 ((Q2 _ l).trans (Q2 _ l).symm) (λx e y d i g=>?_) ?_ (YM (UH a l))
 .grind[Q2]
 grind[List.Pairwise.imp_of_mem,YM,Q2]
end
def HB(p:Bm):AA Bm->AA Bm
 |[]=>[]
 |x::r=>bif x==p then HB x r else x::HB x r
def dd:AA Bm->AA Bm
 |[]=>[]
 |x::r=>x::HB x r
theorem pI{x p:Bm}{r:AA Bm}(q:(x==p)=AE):HB p (x::r)=HB x r:=by
 simp_all[HB]
theorem pJ{x p:Bm}{r:AA Bm}(q:(x==p)=AD):HB p (x::r)=x::HB x r:=by
 show(bif x==p then HB x r else x::HB x r)=_;rw[q];rfl
theorem pK:∀(r:AA Bm) (p:Bm),(∀x∈r,¬C9 x p<0)->r.Pairwise (λa b=>¬C9 b a<0)->(∀x∈p::r,B0 x=AE)->(HB p r).Pairwise I9/\(∀x∈HB p r,I9 p x)/\ ∀x,x∈p::HB p r↔x∈p::r
 |[],p,_,_,_=>⟨List.Pairwise.nil,(λ_ h=>by cases h),λ_=>Iff.rfl⟩
 |y::r,p,h1,h2,h3=>by
  rw[Xc]at h2;obtain⟨i1,i2,i3⟩:=pK r y h2.1 h2.2 (by grind);have hy:=h1 y (by simp);unfold HB;cases q:y==p with
  |true=>
   grind
  |false=>
   have q':¬C9 y p=0:=λe=>by simp[eT (h3 y (by simp)) (h3 p (by simp)) e]at q
   have hp:I9 p y:=by
    have:=RY.swap y p;unfold I9;omega
   simp only[Vr];refine⟨(by simp_all),λx d=>?_,λx=>?_⟩
   .rcases X7.1 d with rfl|d
    .exact hp
    .exact lH _ _ _ hp (i2 x d)
   grind
theorem ZQ{S:AA Bm}(h:S.Pairwise λa b=>¬C9 b a<0)(g:∀x∈S,B0 x=AE):(dd S).Pairwise I9/\ ∀x,x∈dd S↔x∈S:=by
 cases S with
 |nil=>exact⟨List.Pairwise.nil,λ_=>Iff.rfl⟩
 |cons a r=>
  rw[Xc]at h;obtain⟨d,f,e⟩:=pK r a h.1 h.2 g;exact⟨Xc.2 ⟨f,d⟩,e⟩
theorem d9(x y:Bm):Ev (λn=>Oa n x y) ():=Qa _
theorem qN{l:AA Bm}{a j:Nat}{x:Bm}(h:l[a+j]?=AC x){m:Int}(e:m=(AI l:Int)):HX l (a:Int) m (j:Int)=AC x:=by
 have d:=(XM.1 h).1;unfold HX;rw[Vv (show 0<=(a:Int)by omega),Vv (show 0<=(j:Int)by omega),Vv (show a+j<m by omega)];exact Qi h
theorem ld{α:Type}{l r:AA α}{i:Nat}{x:α}(h:l.drop i=x::r):l[i]?=AC x/\l.drop (i+1)=r/\i<AI l:=by
 have h1:=by
  have:=congrArg (λl=>l[0]?) h;simpa using this
 grind[List.drop_eq_getElem_cons]
theorem QjM(a:AA Bm)(L:AI a<=1048576)(e:Nat):∀(r s:AA Bm) (i j:Nat) (p:Bm),AI s=AI a->s.drop (e+(j+1))=r->s[e+j]?=AC p->i<e+(j+1)->e+(j+1)<=AI s->
  ∃(s':AA Bm) (d:Nat),Cc (λn=>LA n a (e:Int)) (s,(i:Int),((j+1:Nat):Int)) (s',(d:Int))/\d<=AI s'/\s'.take d=s.take i++HB p r:=by
 intro r
 induction r with
 |nil=>
  intro s i j p f h y F H;refine⟨s,i,Ek ?_,by omega,by simp[HB]⟩;have:=Xr.1 h
  grind[LA,Qa]
 |cons x r t=>
  intro s i j p f h y F H;obtain⟨u,J,E⟩:=ld h;have z:=qN u (show(AI a:Int)=(AI s:Int)by rw[f]);have w:=qN y (show(AI a:Int)=(AI s:Int)by rw[f]);have w1:i64.wrap (((j+1:Nat):Int)-1)=(j:Int):=by rw[Qt (by omega) (by omega)];omega
  have w2:i64.wrap (((j+1:Nat):Int)+1)=((j+1+1:Nat):Int):=Qz (by omega);have B:AG (((j+1:Nat):Int)<((toNat (AI a:Int)-toNat (e:Int):Nat):Int))=true:=(by grind);have m:i<AI s:=by omega
  cases q:x==p with
  |true=>
   obtain⟨s',d,l,k,g⟩:=t s i (j+1) x f (by omega) u (by omega) (by omega);refine⟨s',d,Ez ?_ l,k,by rw[g,pI q]⟩;unfold LA;simp only[B,Vq,z,w1,w,XK];refine Ea (d9 x p) ?_;rw[q];simp only[Xg,Vr,XK,w2];exact Qa _
  |false=>
   have G:AI (s.set i x)=AI a:=by grind
   obtain⟨s',d,l,k,g⟩:=t (s.set i x) (i+1) (j+1) x G (by grind[List.drop_set_of_lt]) (by grind) (by omega) (by omega);have w3:i64.wrap ((i:Int)+1)=((i+1:Nat):Int):=Qz (by omega);refine⟨s',d,Ez ?_ l,k,?_⟩
   .unfold LA;simp only[B,Vq,z,w1,w,XK];refine Ea (d9 x p) ?_;rw[q];simp only[Xh,Vq,XK,w2,Qi (XL m),Jd s x m,w3];exact Qa _
   .rw[g,List.take_add_one,Xa m,List.take_set_of_le (XU _)];rw[pJ q];simp
theorem QjN(a:AA Bm)(t:AI a<=1048576):∀(r:AA Bm) (k:Nat) (p:Bm),a.drop (k+1)=r->a[k]?=AC p->k+1<=AI a->∃b:Bn Unit (AA Bm),Cc (λn=>Lb n a) ((k+1:Nat):Int) b/\((b=.k ()/\HB p r=r)\/b=.d (a.take (k+1)++HB p r)):=by
 intro r
 induction r with
 |nil=>
  intro k p i h m;refine⟨.k (),Ek ?_,.inl ⟨rfl,rfl⟩⟩;have:=Xr.1 i
  grind[Lb,Qa]
 |cons x r s=>
  intro k p i h m;obtain⟨f,l,d⟩:=ld i;have w1:i64.wrap (((k+1:Nat):Int)-1)=(k:Int):=by rw[Qt (by omega) (by omega)];omega
  have w2:i64.wrap (((k+1:Nat):Int)+1)=((k+1+1:Nat):Int):=Qz (by omega);have j:AG (((k+1:Nat):Int)<(AI a:Int))=true:=(by grind);cases q:x==p with
  |true=>
   obtain⟨w,z,g,u,y⟩:=QjM a t (k+1) r a (k+1) 0 x rfl l f (by omega) (by omega);refine⟨.d (a.take (k+1)++HB p (x::r)),Ek ?_,.inr rfl⟩;unfold Lb;simp only[j,Vq,Qi f,w1,Qi h,XK];refine Ea (d9 x p) ?_;rw[q];simp only[Vq,aW a (Nat.le_of_lt d),XK];refine Ea g.ev ?_
   grind[UB,pI,Qa]
  |false=>
   obtain⟨b,g,u⟩:=s (k+1) x l f d;have e:=pJ (r:=r) q;refine⟨b,Ez ?_ g,?_⟩
   .unfold Lb;simp only[j,Vq,Qi f,w1,Qi h,XK];refine Ea (d9 x p) ?_;rw[q]
    simp_all[Qa]
   grind[List.take_add_one]
theorem QjL(a:AA Bm)(d:AI a<=1048576):Ev (λn=>OA n a) (dd a):=by
 unfold OA
 match a,d with
 |[],_=>exact Qa _
 |[x],_=>exact Qa _
 |x::y::r,d=>
  rw[Q4 (show¬((AI (x::y::r):Int)<2)by simp;omega)];refine Qy ?_;obtain⟨b,f,g⟩:=QjN (x::y::r) d (y::r) 0 x rfl rfl (by simp);refine Ea f.ev ?_;rcases g with⟨rfl,e⟩|rfl
  .show Ev (λn=>AC (x::y::r)) (x::HB x (y::r));rw[e];exact Qa _
  .exact Qa _
section
variable {S T B:Type} {step:Nat->S->AB (AA T×Bn S B)} {s s':S} {b:B} {xs ys:AA T}
def MN(step:Nat->S->AB (AA T×Bn S B))(s:S)(ys:AA T)(b:B):Prop:=∃N,∀n k,N<=n->N<=k->ME (step n) k s=AC (ys,b)
theorem MN.done(h:Ev (λn=>step n s) (ys,.d b)):MN step s ys b:=by
 obtain⟨N,h⟩:=h;refine⟨N+1,λn k f d=>?_⟩;obtain⟨a,rfl⟩:∃a,k=a+1:=⟨k-1,by omega⟩;have e:step n s=AC (ys,.d b):=h n (by omega);unfold ME;rw[e];rfl
theorem MN.cont(h:Ev (λn=>step n s) (xs,.k s'))(q:MN step s' ys b):MN step s (xs++ys) b:=by
 obtain⟨N,h⟩:=h;obtain⟨M,q⟩:=q;refine⟨max N M+1,λn k f d=>?_⟩;obtain⟨a,rfl⟩:∃a,k=a+1:=⟨k-1,by omega⟩;have e:step n s=AC (xs,.k s'):=h n (by omega);unfold ME
 grind
theorem MN.ev(h:MN step s ys b):Ev (λn=>ME (step n) n s) (ys,b):=by
 obtain⟨N,h⟩:=h;exact⟨N,λn a=>h n n a a⟩
end
section
variable {U T R:Type}
theorem UM{step:Nat->U->T->AB (Bn U R)}(g:U->T->U)(I:U->Nat->Prop):∀(l:AA T) (u:U),I u (AI l)->(∀x∈l,∀u k,I u (k+1)->Ev (λn=>step n u x) (.k (g u x))/\I (g u x) k)->Ev (λn=>HJ (step n) l u) (.k (l.foldl g u))/\I (l.foldl g u) 0
 |[],u,h,_=>⟨Qa _,h⟩
 |x::l,u,h,q=>by
  obtain⟨h1,h2⟩:=q x (by simp) u (AI l) h;obtain⟨r1,r2⟩:=UM g I l (g u x) h2 λy hy=>q y (by simp[hy]);exact⟨Ea h1 r1,r2⟩
end
def ofK(k:Int)(f:Bm):Bool:=(f.AN==k)&&B0 f
def CS(l:AA Bm)(k:Int):AA Bm:=(B6 l).filter λf=>f.AN==k
theorem rG(f:Bm)(k:Int):Ev (λn=>Lv n f k) (!ofK k f):=by
 unfold Lv ofK;refine Ea (v:= !((f.AN==k)&&B0 f)) ?_ (Qa _);cases q:f.AN==k with
 |false=>simp only[bne,q,Xh,Vq,Bool.false_and];exact Qa _
 |true=>
  simp only[bne,q,Xg,Vr,VA];refine Ea (QgV f) ?_;cases B0 f<;>exact Qa _
theorem vb(l:AA Bm)(k:Int)(m:AI l<=1048576):Ev (λn=>OM n l k) (l.filter (ofK k)):=by
 unfold OM Sx;refine Ey (x7 l (λg=> !ofK k g) m (Ev.first l _ (by omega) (λi x a=>?_) ?_) (λe i j x y f a d q h=>?_) λe i=>?_) (by simp)
 .unfold R_;simp only[a.lt,Vq,a.ix,XK,a.nx];refine Ea (rG x k) ?_;cases ofK k x<;>exact Qa _
 .simp_all[R_,Qa]
 .have p:=(XM.1 d).1;unfold SR;simp only[a.lt,Vq,a.ix,XK,a.nx];refine Ea (rG x k) ?_;cases ofK k x with
  |false=>exact Qa _
  |true=>
   simp only[Xg,Xh,Vq,Vr,Qi d,Jd e x p,XK,Qz (show i<9223372036854775807 by omega)];exact Qa _
 simp_all[SR,Qa]
theorem zT(r:AA Bm)(l:AI r<=1048576):Ev (λn=>ap (ME (LF n r) n 0) λ_=>AC ([],())) (r,()):=by
 have loop:∀(q:AA Bm) (i:Nat),r.drop i=q->i<=AI r->MN (λn=>LF n r) (i:Int) q ():=by
  intro q
  induction q with
  |nil=>
   intro i e g;refine MN.done ?_;unfold LF;simp only[QN e g,Vr];exact Qa _
  |cons f q k=>
   intro i e g;obtain⟨a,d⟩:=Qx (by omega) e;have j:=a.lt';refine MN.cont (xs:=[f]) ?_ (k (i+1) d (by omega));unfold LF;simp only[a.lt,Vq,a.ix,XK,a.nx];exact Qa _
 have h:=(loop r 0 rfl (XV _)).ev;unfold ap;refine Ea h ?_;exact Ey (Qa _) (by simp)
theorem UD(l:AA Bm)(k:Int):AI (CS l k)<=AI l:=XW (VN ..) (f7 l)
theorem a_(l:AA Bm)(k:Int)(g:AI l<=1048576):Ev (λn=>H5 n l k) (CS l k,()):=by
 unfold H5 TO;simp only[zY g,XK];refine Ea (vb l k g) ?_;have p:=Q2 (Ik C9) (l.filter (ofK k));have h:∀f∈l.filter (ofK k),B0 f=true:=λf u=>by
  simp_all[ofK]
 have d:=XW (VN (ofK k) l) g;refine Ea (pg d (λx _ y _=>QkP x y) RY λx t y i e=>eT (h x t) (h y i) e) ?_;refine Ea (QjL _ (by rw[p.length_eq];exact d)) ?_;have s:(I0 (Ik C9) (l.filter (ofK k))).Pairwise λa b=>¬C9 b a<0:=List.Pairwise.imp (λq=>Vw q) (YM (UH RY _));obtain⟨j,m⟩:=ZQ s (by grind);obtain⟨c1,r⟩:=mx l;have e:dd (I0 (Ik C9) (l.filter (ofK k)))=CS l k:=nM xH lH j (c1.1.filter _) λf=>by
  rw[m,p.mem_iff];simp only[CS,Xd,r,ofK,XX]
  grind
 grind[zT,UD]
theorem uE(p:Nat->Bool):∀k,(∀i,i<k->p i=AE)\/ ∃j,j<k/\p j=AD/\ ∀i,i<j->p i=AE
 |0=>(by simp)
 |k+1=>by
  rcases uE p k with h|⟨j,h1,h2,h3⟩
  .grind
  grind
theorem dQ{p:Nat->Bool}{k:Nat}:(List.range k).all p=AE↔ ∀i,i<k->p i=true:=by simp
theorem Ju{B:Type}{step:Nat->Int->AB (Bn Int B)}(k:Nat)(p:Nat->Bool)(f b:B)
  (e:∀i,i<k->Ev (λn=>step n (i:Int)) (bif p i then .k ((i+1:Nat):Int)else .d f))(m:Ev (λn=>step n (k:Int)) (.d b)):
  Ev (λn=>Go.Sw.iter (step n) n 0) (bif (List.range k).all p then b else f):=by
 rcases uE p k with h|⟨j,g,d,l⟩
 .rw[dQ.2 h];exact EA (λi=>(i:Int)) k rfl (λi a=>(e i a).eq (by rw[h i a];rfl)) m
 .have:(List.range k).all p=false:=by
   rw[VM];intro q;rw[dQ.1 q j g]at d;cases d
  rw[this];exact EA (λi=>(i:Int)) j rfl (λi a=>(e i (by omega)).eq (by rw[l i a];rfl)) ((e j g).eq (by rw[d];rfl))
theorem Za{α:Type}{l:AA α}{i:Nat}(hl:AI l<=1048576)(hi:i<AI l):At l i l[i]:=Jo (by omega) (by simp)
theorem I1{n:Nat}(h:n<=1048576):i64.wrap ((n:Int)+1)=((n+1:Nat):Int):=Qz (by omega)
def Hh(x y:Bk):Bool:=AG (x.Ag<y.Ag)||((x.Ag==y.Ag)&&AG (x.AT<y.AT))
def CU(x y:Bk):Int:=H6 [CV x.Ag y.Ag,CV x.AT y.AT]
theorem sf(x y:Bk):AG (0<=CU x y)= !Hh x y:=by
 grind[CU,Hh,H6,CV]
theorem pM(a b:Int):Ev (λn=>M6 n a b) (CV a b):=aH (Qa _) λn=>qD n a b
theorem tw(x y:Bk):Ev (λn=>IS n x y) (CU x y):=by
 unfold IS S0;exact Ea (Ea (pM _ _) (Ea (pM _ _) (Ea (oh _ (by simp)) (Qa _)))) (Qa _)
def Di(x:Int):Bool:=CW (-1099511627776) 1099511627776 x
theorem rs(x:Int):Ev (λn=>Ka n x) (Di x):=by
 simp_all[Ka,Di,CW,Ej,Qa]
def HL(c:Bp)(i:Nat)(x:Bk):Bool:=AG (0<(i:Int))&& !(match c.AR[i-1]? with|some y=>Hh y x|none=>AE)
def FU(c:Bp)(i:Nat)(x:Bk):Bool:=AG (x.Ag<0)||(AG (40<=x.Ag)||(AG (x.AT<0)||(AG (255<x.AT)||(!Di x.As||HL c i x))))
def Fz(c:Bp):Bool:=(List.range (AI c.AR)).all λi=>match c.AR[i]? with|some x=> !FU c i x|none=>AE
theorem qm{α:Type}{l:AA α}{i:Nat}{y:α}(d:AI l<=1048576)(hi:0<i)(a:i<=AI l)(h:l[i-1]?=AC y):Bt l (i64.wrap ((i:Int)-1))=AC y:=by
 grind[Qt,Qi]
theorem vk(c:Bp)(g:AI c.AR<=1048576):Ev (λn=>iter (Ne n c) n 0) (bif Fz c then Bn.k ()else Bn.d 160):=by
 unfold Fz;refine Ju (AI c.AR) _ _ _ (λi l=>?_) ?_
 .have a:=Za g l;unfold Ne;simp only[a.lt,Vq,a.ix,XK,a.nx,a.get];have:Ev (λn=>((bif (c.AR[i]).Ag<0 then AC AE else(bif 40<=(c.AR[i]).Ag then AC AE else(bif (c.AR[i]).AT<0 then AC AE else(bif 255<(c.AR[i]).AT then AC AE else(Ka n (c.AR[i]).As).bind λd=>(bif (!d)then AC AE else(bif 0<(i:Int) then(Bt c.AR (i64.wrap ((i:Int)-1))).bind λe=>(IS n e (c.AR[i])).bind λf=>AC (AG (0<=f))else AC AD)))))):AB Bool)) (FU c i (c.AR[i])):=by
   unfold FU;refine Ex λ_=>Ex λ_=>Ex λ_=>Ex λ_=>Ea (rs _) (Ex λ_=>?_);unfold HL;refine Ej λh=>?_;have k:0<i:=by grind
   have j:i-1<AI c.AR:=by omega
   rw[qm g k (by omega) (XL j),XL j];simp only[XK];exact Ea (tw _ _) ((Qa _).eq (sf _ _))
  refine Ea this ?_
  grind[Qa]
 simp_all[Ne,Qa]
def Dv(x:Int):Bool:=AG (x< -2199023255552)||AG (2199023255552<x)
theorem zO(l:AA Int)(a:AI l<=1048576):Ev (λn=>Lh n l) (l.any Dv):=by
 unfold Lh Sa;refine Ev.contains l Dv (λn x=>ON n x) (by omega) λx _=>?_
 simp_all[ON,Dv,Ex,Qa]
def F0(c:Bp)(i:Nat)(r:AA Int):Bool:= !(((AI r:Int) != ((AI c.AR+1:Nat):Int))||((r[i]?.getD 1 != 0)||r.any Dv))
def Fi(c:Bp):Bool:=(List.range (AI c.BB)).all λi=>match c.BB[i]? with|some r=>F0 c i r|none=>AE
theorem vi(c:Bp)(j:AI c.AR<=1048576)(k:AI c.BB<=1048576)(p:∀r∈c.BB,AI r<=1048576)(m:AI c.BB=AI c.AR+1):
  Ev (λn=>iter (NF n c) n 0) (bif Fi c then Bn.k ()else Bn.d 160):=by
 unfold Fi;refine Ju (AI c.BB) _ _ _ (λi l=>?_) ?_
 .have e:=Za k l;unfold NF;simp only[e.lt,Vq,e.ix,XK,e.nx,e.get,I1 j];have:Ev (λn=>((bif ((AI (c.BB[i]):Int) != ((AI c.AR+1:Nat):Int))then AC AE else(Bt (c.BB[i]) (i:Int)).bind λa=>(bif (a != 0)then AC AE else(Lh n (c.BB[i])).bind λd=>AC d)):AB Bool)) (!F0 c i (c.BB[i])):=by
   unfold F0;rw[Bool.not_not];refine Ex λh=>?_;have f:AI (c.BB[i])=AI c.AR+1:=by
    grind
   have g:i<AI (c.BB[i]):=by omega
   simp_all[Qi,Ex,zO]
  refine Ea this ?_;cases F0 c i (c.BB[i])<;>exact Qa _
 simp_all[NF,Qa]
def Dc(c:Bp)(i j:Nat):Int:=((c.BB[i]?.getD [])[j]?).getD 0
structure KM (c:Bp):Prop where
 segs:AI c.AR<=511
 far:AI c.BB=AI c.AR+1
 row:∀i,i<AI c.BB->AI (c.BB[i]?.getD [])=AI c.AR+1
theorem KM.get{c:Bp}(d:KM c){i j:Nat}(hi:i<AI c.AR+1)(e:j<AI c.AR+1):c.BB[i]?=AC (c.BB[i]?.getD [])/\(c.BB[i]?.getD [])[j]?=AC (Dc c i j):=by
 have a:i<AI c.BB:=by rw[d.far];exact hi
 have f:=d.row i a
 simp_all[Dc]
def IE(c:Bp):Bool:=(List.range (AI c.AR+1)).all λi=>(List.range (AI c.AR+1)).all λj=>(List.range (AI c.AR+1)).all λk=> !decide (i64.wrap (Dc c i j+Dc c j k)<Dc c i k)
theorem ga{a b:Nat}(h:a<b):AG ((a:Int)<(b:Int))=true:=(by grind)
theorem kh{a b:Nat}(h:b<=a):AG ((a:Int)<(b:Int))=false:=(by grind)
theorem vS(c:Bp)(d:KM c):Ev (λn=>iter (NA n c) n 0) (bif IE c then Bn.k ()else Bn.d 160):=by
 have s:=d.segs;unfold IE;refine Ju (AI c.AR+1) _ _ _ (λi f=>?_) ?_
 .unfold NA;have g:=(d.get f f).1;have l:=d.row i (by grind);simp only[I1 (show AI c.AR<=1048576 by omega),ga f,Vq,Qi g,XK,I1 (show i<=1048576 by omega)];refine Ea (Ju (AI c.AR+1) (λj=>(List.range (AI c.AR+1)).all λk=> !decide (i64.wrap (Dc c i j+Dc c j k)<Dc c i k)) (Bn.d (Bn.d (Bn.d 160))) (Bn.k ()) (λj e=>?_) ?_) ?_
  .unfold SM;have p:=(d.get f e).2;have r:=(d.get e e).1;have a:=d.row j (by grind);simp only[l,ga e,Vq,Qi p,Qi r,XK,I1 (show j<=1048576 by omega)];refine Ea (Ju (AI c.AR+1) (λk=> !decide (i64.wrap (Dc c i j+Dc c j k)<Dc c i k)) (Bn.d (Bn.d (Bn.d (Bn.d (Bn.d 160))))) (Bn.k ()) (λk h=>?_) ?_) ?_
   .unfold SD;have q:=(d.get e h).2;have m:=(d.get f h).2;simp only[a,ga h,Vq,Qi q,Qi g,Qi m,XK,I1 (show k<=1048576 by omega)]
    grind[Qa]
   .unfold SD;simp only[a,kh (XU _),Vr];exact Qa _
   grind[Qa]
  .unfold SM;simp only[l,kh (XU _),Vr];exact Qa _
  grind[Qa]
 .unfold NA;simp only[I1 (show AI c.AR<=1048576 by omega),kh (XU _),Vr];exact Qa _
def Hq(c:Bp):Bool:= !(AG (511<(AI c.AR:Int))||((AI c.BB:Int) != ((AI c.AR+1:Nat):Int)))&&(Fz c&&(Fi c&&IE c))
structure L4 (c:Bp):Prop where
 segs:AI c.AR<=1048576
 far:AI c.BB<=1048576
 row:∀r∈c.BB,AI r<=1048576
theorem lZ{c:Bp}(f:¬511<(AI c.AR:Int))(e:AI c.BB=AI c.AR+1)(d:Fi c=AE):KM c:=by
 refine⟨by omega,e,λi a=>?_⟩;have:=dQ.1 d i a
 grind[F0]
theorem lR(c:Bp)(w:L4 c):Ev (λn=>IY n c) (bif Hq c then 0 else 160):=by
 unfold IY Hq;simp only[I1 w.segs];refine Ea (Ex λ_=>Qa _) ?_;cases a:(AG (511<(AI c.AR:Int))||((AI c.BB:Int) != ((AI c.AR+1:Nat):Int)))with
 |true=>exact Qa _
 |false=>
  simp only[Xh,VA,XY,decide_eq_false_iff_not]at a⊢;have d:AI c.BB=AI c.AR+1:=by
   grind
  refine Qy (Ea (vk c w.segs) ?_);cases Fz c with
  |false=>exact Qa _
  |true=>
   refine Ea (vi c w.segs w.far w.row d) ?_;cases e:Fi c with
   |false=>exact Qa _
   |true=>
    refine Ea (vS c (lZ a.1 d e)) ?_;cases IE c<;>exact Qa _
theorem zj{c:Bp}(h:Hq c=AE):KM c:=by
 simp only[Hq,XX,Bool.not_eq_true',XY,decide_eq_false_iff_not]at h
 grind[lZ]
structure Gr where
 F:Nat->Nat
 T:Nat->Nat
 W:Nat->Int
 E:Nat
structure Bs where
 far:Nat->Int
 edge:Nat->Nat
def bN:Int:=1152921504606846976
def PB{β:Type}(f:Nat->β)(k:Nat)(v:β):Nat->β:=λj=>if j=k then v else f j
def Ht(g:Gr)(s:Bs)(i:Nat):Bs:=
 if s.far (g.F i)=bN\/s.far (g.T i)<=s.far (g.F i)+g.W i then s else⟨PB s.far (g.T i) (s.far (g.F i)+g.W i),PB s.edge (g.T i) i⟩
def CM(g:Gr)(s:Bs):Nat->Bs
 |0=>s
 |t+1=>Ht g (CM g s t) (t%g.E)
theorem YZ{β:Type}(f:Nat->β)(k:Nat)(v:β):PB f k v k=v:=Vu rfl
theorem PW{β:Type}(f:Nat->β){k j:Nat}(v:β)(h:j≠k):PB f k v j=f j:=Vt h
theorem Y7(g:Gr)(s:Bs)(i:Nat):
  (Ht g s i=s/\(s.far (g.F i)=bN\/s.far (g.T i)<=s.far (g.F i)+g.W i))\/
  (s.far (g.F i)≠bN/\s.far (g.F i)+g.W i<s.far (g.T i)/\Ht g s i=⟨PB s.far (g.T i) (s.far (g.F i)+g.W i),PB s.edge (g.T i) i⟩):=by
 unfold Ht;by_cases h:s.far (g.F i)=bN\/s.far (g.T i)<=s.far (g.F i)+g.W i
 .exact .inl ⟨Vu h,h⟩
 .exact .inr ⟨λq=>h (.inl q),by omega,Vt h⟩
theorem wN(g:Gr)(s:Bs)(i v:Nat):(Ht g s i).far v<=s.far v:=by
 rcases Y7 g s i with⟨h,_⟩|⟨_,a,h⟩
 .grind
 .rw[h];by_cases q:v=g.T i
  .subst q;simp only[YZ];omega
  simp_all[PW]
theorem Z1(g:Gr)(s:Bs)(v t:Nat):∀k,(CM g s (t+k)).far v<=(CM g s t).far v
 |0=>Int.le_refl _
 |k+1=>Int.le_trans (wN g _ _ v) (Z1 g s v t k)
def Fw(g:Gr)(s:Bs)(v t:Nat):Prop:=(CM g s (t+1)).far v≠(CM g s t).far v
theorem JT(g:Gr)(s:Bs)(t:Nat):CM g s (t+1)=Ht g (CM g s t) (t%g.E):=rfl
theorem M3{g:Gr}{s:Bs}{v t:Nat}(h:Fw g s v t):v=g.T (t%g.E)/\(CM g s t).far (g.F (t%g.E))≠bN/\
  (CM g s t).far (g.F (t%g.E))+g.W (t%g.E)<(CM g s t).far v/\CM g s (t+1)=⟨PB (CM g s t).far v ((CM g s t).far (g.F (t%g.E))+g.W (t%g.E)),PB (CM g s t).edge v (t%g.E)⟩:=by
 unfold Fw at h;rw[JT]at h⊢;rcases Y7 g (CM g s t) (t%g.E)with⟨q,_⟩|⟨a,f,d⟩
 .grind
 .by_cases e:v=g.T (t%g.E)
  .grind
  simp_all[PW]
theorem xy{g:Gr}{s:Bs}{v t:Nat}(h:Fw g s v t):(CM g s (t+1)).edge v=t%g.E:=by
 rw[(M3 h).2.2.2];exact YZ _ _ _
theorem l6{g:Gr}{s:Bs}{v t:Nat}(h:¬Fw g s v t):(CM g s (t+1)).far v=(CM g s t).far v/\(CM g s (t+1)).edge v=(CM g s t).edge v:=by
 have a:(CM g s (t+1)).far v=(CM g s t).far v:=Classical.not_not.1 h;refine⟨a,?_⟩;rw[JT]at a⊢;rcases Y7 g (CM g s t) (t%g.E)with⟨q,_⟩|⟨e,f,d⟩
 .rw[q]
 .rw[d]at a⊢
  grind[YZ,PW]
theorem UQ{g:Gr}{s:Bs}{v t:Nat}:∀k,(∀j,j<k->¬Fw g s v (t+j))->(CM g s (t+k)).far v=(CM g s t).far v/\(CM g s (t+k)).edge v=(CM g s t).edge v
 |0,_=>⟨rfl,rfl⟩
 |k+1,h=>by
  have a:=l6 (h k (Xo k));have b:=UQ k λj hj=>h j (by omega);exact⟨a.1.trans b.1,a.2.trans b.2⟩
theorem xz{g:Gr}{s:Bs}{v t:Nat}(hE:0<g.E)(he:g.E<=t)(h:Fw g s v t):∃j,j<g.E/\Fw g s (g.F (t%g.E)) (t-g.E+j):=by
 obtain⟨n,m,p,-⟩:=M3 h;refine Classical.byContradiction λq=>?_;have k:=(UQ (t:=t-g.E) g.E λj i c=>q ⟨j,i,c⟩).1;rw[show t-g.E+g.E=t by omega]at k;have f:(t-g.E)%g.E=t%g.E:=by
  conv=>rhs;rw[show t=(t-g.E)+g.E by omega,Nat.add_mod_right]
 have l:=Z1 g s v (t-g.E+1) (g.E-1);rw[show t-g.E+1+(g.E-1)=t by omega]at l;have r:(CM g s (t-g.E+1)).far v<=(CM g s (t-g.E)).far (g.F (t%g.E))+g.W (t%g.E):=by
  rw[JT,f,n];rcases Y7 g (CM g s (t-g.E)) (t%g.E)with⟨d,a⟩|⟨d,a,e⟩
  .rw[d];rcases a with a|a
   .rw[<- k]at a;exact absurd a m
   .exact a
  .rw[e];simp only[YZ];exact Int.le_refl _
 omega
structure HG (g:Gr) (s:Bs) (v t τ:Nat):Prop where
 lt:τ<t
 ch:Fw g s v τ
 no:∀j,τ<j->j<t->¬Fw g s v j
theorem lF{g:Gr}{s:Bs}{v:Nat}:∀{t τ:Nat},τ<t->Fw g s v τ->∃τ',τ<=τ'/\HG g s v t τ'
 |0,_,h,_=>(by omega)
 |t+1,τ,h,c=>by
  by_cases q:Fw g s v t
  .exact⟨t,by omega,⟨by omega,q,λj h1 h2=>by omega⟩⟩
  .rcases VC τ t with k|k
   .obtain⟨τ',h1,h2⟩:=lF k c;exact⟨τ',h1,⟨Nat.lt_succ_of_lt h2.lt,h2.ch,λj a b=>by
     rcases VC j t with e|e
     .exact h2.no j a e
     grind⟩⟩
   grind
theorem HG.edge{g:Gr}{s:Bs}{v t τ:Nat}(h:HG g s v t τ):(CM g s t).edge v=τ%g.E:=by
 have k:=(UQ (t:=τ+1) (t-(τ+1)) λj a=>h.no (τ+1+j) (by omega) (by omega)).2;have:=h.lt;rw[show τ+1+(t-(τ+1))=t by omega]at k;rw[k,(M3 h.ch).2.2.2];exact YZ _ _ _
def bp(g:Gr)(s:Bs)(v:Nat):Nat:=g.F (s.edge v)
theorem HG.pred{g:Gr}{s:Bs}{v t τ:Nat}(hE:0<g.E)(h:HG g s v t τ)(he:g.E<=τ):∃τ',τ-g.E<=τ'/\HG g s (bp g (CM g s t) v) t τ':=by
 unfold bp;rw[h.edge];obtain⟨j,d,c⟩:=xz hE he h.ch;have:=h.lt;obtain⟨τ',a,e⟩:=lF (t:=t) (by omega) c
 grind
def CZ(g:Gr)(s:Bs):Nat->Nat->Nat
 |v,0=>v
 |v,k+1=>bp g s (CZ g s v k)
theorem HG.back{g:Gr}{s:Bs}{v t:Nat}(hE:0<g.E):∀k {τ:Nat},HG g s v t τ->k*g.E<=τ->∃τ',τ-k*g.E<=τ'/\HG g s (CZ g (CM g s t) v k) t τ'
 |0,τ,h,_=>⟨τ,by omega,h⟩
 |k+1,τ,h,hk=>by
  rw[Xm]at hk;obtain⟨τ1,h1,h2⟩:=HG.back hE k h (by omega);obtain⟨τ2,h3,h4⟩:=h2.pred hE (by omega);refine⟨τ2,?_,h4⟩;rw[Xm];omega
theorem HG.low{g:Gr}{s:Bs}{v t τ:Nat}(h:HG g s v t τ):(CM g s t).far (bp g (CM g s t) v)+g.W ((CM g s t).edge v)<=(CM g s t).far v:=by
 have k:=(UQ (t:=τ+1) (t-(τ+1)) λj d=>h.no (τ+1+j) (by omega) (by omega)).1;have lt:=h.lt;rw[show τ+1+(t-(τ+1))=t by omega]at k;obtain⟨i,f,e,a⟩:=M3 h.ch;unfold bp;rw[h.edge,k,a];simp only[YZ];have:=Z1 g s (g.F (τ%g.E)) τ (t-τ);rw[show τ+(t-τ)=t by omega]at this;omega
def Dn(g:Gr)(s:Bs)(v:Nat):Nat->Int
 |0=>0
 |k+1=>Dn g s v k+g.W (s.edge (CZ g s v k))
theorem qZ{g:Gr}{s:Bs}(φ:Nat->Int)(v:Nat):∀k,(∀j,j<k->g.W (s.edge (CZ g s v j))<=φ (CZ g s v j)-φ (CZ g s v (j+1)))->
  Dn g s v k<=φ v-φ (CZ g s v k)/\ ∀j,j<k->g.W (s.edge (CZ g s v j))<φ (CZ g s v j)-φ (CZ g s v (j+1))->Dn g s v k<φ v-φ (CZ g s v k)
 |0,_=>⟨by simp[Dn,CZ],λj hj=>absurd hj (Xn _)⟩
 |k+1,h=>by
  obtain⟨a,b⟩:=qZ φ v k λj hj=>h j (by omega);have c:=h k (by omega);unfold Dn;refine⟨by omega,λj hj q=>?_⟩;rcases VC j k with e|e
  .have:=b j e q;omega
  .rw[show j=k by omega]at q;omega
theorem rC{g:Gr}{s s':Bs}{v:Nat}:∀k,(∀j,j<k->s'.edge (CZ g s v j)=s.edge (CZ g s v j))->CZ g s' v k=CZ g s v k/\Dn g s' v k=Dn g s v k
 |0,_=>⟨rfl,rfl⟩
 |k+1,h=>by
  obtain⟨a,b⟩:=rC k λj hj=>h j (by omega)
  simp_all[CZ,bp,Dn]
theorem lW{g:Gr}{s:Bs}:∀(t:Nat) {v k:Nat},0<k->CZ g (CM g s t) v k=v->(∀j,j<k->∃τ,HG g s (CZ g (CM g s t) v j) t τ)->Dn g (CM g s t) v k<0
 |0,v,k,h0,_,h=>by obtain⟨τ,q⟩:=h 0 h0;exact absurd q.lt (Xn _)
 |t+1,v,k,h0,hk,h=>by
  by_cases q:∃j,j<k/\Fw g s (CZ g (CM g s (t+1)) v j) t
  .obtain⟨j,hj,c⟩:=q;obtain⟨e1,e2,e3,e4⟩:=M3 c;have ed:=xy c;have key:∀i,i<k->g.W ((CM g s (t+1)).edge (CZ g (CM g s (t+1)) v i))<=(CM g s t).far (CZ g (CM g s (t+1)) v i)-(CM g s t).far (CZ g (CM g s (t+1)) v (i+1)):=by
    intro i l;by_cases z:CZ g (CM g s (t+1)) v i=CZ g (CM g s (t+1)) v j
    .have:CZ g (CM g s (t+1)) v (i+1)=g.F (t%g.E):=by
      show bp g _ _=_;unfold bp;rw[z,ed]
     rw[this,z,ed];omega
    .obtain⟨τ,hτ⟩:=h i l;have d:¬Fw g s (CZ g (CM g s (t+1)) v i) t:=λn=>z ((M3 n).1.trans e1.symm);have r:HG g s (CZ g (CM g s (t+1)) v i) t τ:=⟨by
      have:=hτ.lt;rcases VC τ t with e|e
      .exact e
      .rw[show τ=t by omega]at hτ;exact absurd hτ.ch d,hτ.ch,λj a b=>hτ.no j a (by omega)⟩
     have:=r.low;have m:=(l6 d).2;show g.W _<=_-(CM g s t).far (bp g _ _);unfold bp at this⊢;rw[m];omega
   have u:=(qZ (g:=g) (s:=CM g s (t+1)) (CM g s t).far v k key).2 j hj (by
    show g.W _<_-(CM g s t).far (bp g _ _);unfold bp;rw[ed];omega)
   rw[hk]at u;omega
  .have d:∀j,j<k->¬Fw g s (CZ g (CM g s (t+1)) v j) t:=λj hj c=>q ⟨j,hj,c⟩;have p:=rC (g:=g) (s:=CM g s (t+1)) (s':=CM g s t) (v:=v);have f:=λi (l:i<=k)=>p i λj hj=>(l6 (d j (by omega))).2.symm;rw[<- (f k (XU _)).2];refine lW t h0 ((f k (XU _)).1.trans hk) λj hj=>?_;rw[(f j (by omega)).1];obtain⟨τ,hτ⟩:=h j hj;exact⟨τ,by
    have:=hτ.lt;rcases VC τ t with e|e
    .exact e
    .rw[show τ=t by omega]at hτ;exact absurd hτ.ch (d j hj),hτ.ch,λi a b=>hτ.no i a (by omega)⟩
theorem pY:∀(n:Nat) (f:Nat->Nat),(∀i,i<=n->f i<n)->∃i j,i<j/\j<=n/\f i=f j
 |0,f,h=>(by grind)
 |n+1,f,h=>by
  by_cases q:∃i,i<=n/\f i=f (n+1)
  .obtain⟨i,h1,h2⟩:=q;exact⟨i,n+1,by omega,by omega,h2⟩
  .have q':∀i,i<=n->f i≠f (n+1):=(by grind);obtain⟨i,j,h1,h2,h3⟩:=pY n (λi=>if f i=n then f (n+1)else f i) (by grind);refine⟨i,j,h1,by omega,?_⟩
   grind
theorem eQ(g:Gr)(s:Bs)(v a:Nat):∀b,CZ g s v (a+b)=CZ g s (CZ g s v a) b
 |0=>rfl
 |b+1=>by show bp g s (CZ g s v (a+b))=_;rw[eQ g s v a b];rfl
theorem wM{g:Gr}{s:Bs}{v i d:Nat}(h:CZ g s v (i+d)=CZ g s v i)(m:Nat):CZ g s v (i+m+d)=CZ g s v (i+m):=by
 grind[eQ]
theorem oy{g:Gr}{s:Bs}{n v t τ:Nat}(hE:0<g.E)(x:∀i,g.F i<n)(y:v<n)(h:HG g s v t τ)(hτ:(n-1)*g.E<=τ):
  ∃k,0<k/\k<=n/\CZ g (CM g s t) (CZ g (CM g s t) v n) k=CZ g (CM g s t) v n/\ ∀j,∃τ',HG g s (CZ g (CM g s t) (CZ g (CM g s t) v n) j) t τ':=by
 have all:∀j,j<n->∃τ',HG g s (CZ g (CM g s t) v j) t τ':=λj z=>by
  have:j*g.E<=(n-1)*g.E:=XD _ (by omega);obtain⟨τ',_,q⟩:=h.back hE j (by omega);exact⟨τ',q⟩
 obtain⟨i,j,G,B,u⟩:=pY n (λj=>CZ g (CM g s t) v j) (λj _=>by
  cases j with
  |zero=>exact y
  |succ j=>exact x _)
 have l:=λm=>wM (g:=g) (s:=CM g s t) (v:=v) (i:=i) (d:=j-i) (by rw[show i+(j-i)=j by omega];exact u.symm) m;refine⟨j-i,by omega,by omega,?_,λm=>?_⟩
 .rw[<- eQ];have:=l (n-i)
  rwa [show i+(n-i)=n by omega]at this
 .rw[<- eQ];have p:∀r,∃f,f<n/\CZ g (CM g s t) v (i+r)=CZ g (CM g s t) v f:=by
   intro r
   induction r using Nat.strongRecOn with
   |ind r w=>
    rcases VC (i+r) n with e|e
    .exact⟨i+r,e,rfl⟩
    .obtain⟨f,a,b⟩:=w (r-(j-i)) (by omega);refine⟨f,a,?_⟩;have:=l (r-(j-i));rw[show i+(r-(j-i))+(j-i)=i+r by omega]at this;rw[this,b]
  obtain⟨f,a,b⟩:=p (n+m-i);rw[show i+(n+m-i)=n+m by omega]at b;rw[b];exact all f a
theorem zg{g:Gr}{s:Bs}{t:Nat}(h:∀j v,j<g.E->¬Fw g s v (t+j))(e:t%g.E=0):∀i,i<g.E->(CM g s t).far (g.F i)=bN\/(CM g s t).far (g.T i)<=(CM g s t).far (g.F i)+g.W i:=by
 intro i a;have k:=λv=>(UQ (g:=g) (s:=s) (v:=v) (t:=t) i λj n=>h j v (by omega)).1;have f:(t+i)%g.E=i:=by rw[Nat.add_mod,e,Xx,Nat.mod_mod,Nat.mod_eq_of_lt a]
 rcases Y7 g (CM g s (t+i)) i with⟨_,q⟩|⟨l,m,d⟩
 .rwa [k,k]at q
 .have:=h i (g.T i) a;unfold Fw at this;rw[JT,f,d]at this;simp only[YZ]at this;omega
theorem wO{g:Gr}{s:Bs}{M:Int}(f:∀i,-M<=g.W i/\g.W i<=M)(k:∀v,s.far v=bN\/s.far v=0)(t:Nat)(v:Nat):(CM g s t).far v=bN\/(-(M*t)<=(CM g s t).far v/\(CM g s t).far v<=M*t):=by
 induction t generalizing v with
 |zero=>
      rcases k v with q|q
      .exact .inl q
      .have:(CM g s 0).far v=0:=q;exact .inr (by simp[this])
 |succ t d=>
  have m:0<=M:=by have:=f 0;omega
  have e:M*((t+1:Nat):Int)=M*t+M:=by rw[Int.natCast_succ,Int.mul_add,Int.mul_one]
  rw[JT];rcases Y7 g (CM g s t) (t%g.E)with⟨q,_⟩|⟨j,l,h⟩
  .rw[q];rcases d v with a|a
   .exact .inl a
   .exact .inr (by omega)
  .rw[h];by_cases z:v=g.T (t%g.E)
   .subst z;simp only[YZ];have:=f (t%g.E);rcases d (g.F (t%g.E))with a|a
    .exact absurd a j
    .exact .inr (by omega)
   .simp only[PW _ _ z];rcases d v with a|a
    .exact .inl a
    .exact .inr (by omega)
theorem wP{g:Gr}{s:Bs}{φ:Nat->Int}(hE:0<g.E){c:Int}(hφ:∀i,i<g.E->φ (g.T i)<=φ (g.F i)+g.W i)(h:∀v,s.far v=bN\/φ v-c<=s.far v)(t v:Nat):(CM g s t).far v=bN\/φ v-c<=(CM g s t).far v:=by
 induction t generalizing v with
 |zero=>exact h v
 |succ t d=>
  rw[JT];rcases Y7 g (CM g s t) (t%g.E)with⟨q,_⟩|⟨f,j,e⟩
  .rw[q];exact d v
  .rw[e];by_cases z:v=g.T (t%g.E)
   .subst z;simp only[YZ];have:=hφ (t%g.E) (Nat.mod_lt _ hE);rcases d (g.F (t%g.E))with a|a
    .exact absurd a f
    .exact .inr (by omega)
   .simp only[PW _ _ z];exact d v
inductive Wk (g:Gr) (a:Nat):Nat->Int->Prop
 |nil:Wk g a a 0
 |cons {v:Nat} {d:Int} (h:Wk g a v d) (i:Nat) (hi:i<g.E) (hv:v=g.F i):Wk g a (g.T i) (d+g.W i)
theorem vL{g:Gr}{s:Bs}{a:Nat}(hE:0<g.E)(f:∀v,s.far v=bN\/Wk g a v (s.far v))(t v:Nat):(CM g s t).far v=bN\/Wk g a v ((CM g s t).far v):=by
 induction t generalizing v with
 |zero=>exact f v
 |succ t d=>
  rw[JT];rcases Y7 g (CM g s t) (t%g.E)with⟨q,_⟩|⟨h,i,e⟩
  .grind
  .rw[e];by_cases z:v=g.T (t%g.E)
   .subst z;simp only[YZ];rcases d (g.F (t%g.E))with a|a
    .omega
    .exact .inr (.cons a _ (Nat.mod_lt _ hE) rfl)
   .simp only[PW _ _ z];exact d v
theorem Wk.le{g:Gr}{a v:Nat}{d:Int}(h:Wk g a v d){f:Nat->Int}(e:∀i,i<g.E->f (g.T i)<=f (g.F i)+g.W i):f v<=f a+d:=by
 induction h with
 |nil=>omega
 |cons h i j k l=>have:=e i j;subst k;omega
set_option maxRecDepth 10000
def Br(es:AA Edge):Gr:=⟨λi=>match es[i]? with|some x=>x.Ai.toNat|none=>0,λi=>match es[i]? with|some x=>x.To.toNat|none=>0,λi=>match es[i]? with|some x=>x.W|none=>0,AI es⟩
structure HH (n:Nat) (x:Edge):Prop where
 f0:0<=x.Ai
 f1:x.Ai<(n:Int)
 t0:0<=x.To
 t1:x.To<(n:Int)
 w0: -35184372088832<=x.W
 w1:x.W<=35184372088832
structure CT (n:Nat) (es:List Edge):Prop where
 n0:1<=n
 n1:n<=64
 e1:AI es<=256
 ok:∀x∈es,HH n x
theorem T4{es:AA Edge}{i:Nat}{x:Edge}(h:es[i]?=AC x):(Br es).F i=x.Ai.toNat/\(Br es).T i=x.To.toNat/\(Br es).W i=x.W:=by
 simp[Br,h]
theorem Rf{n:Nat}{es:AA Edge}(h:CT n es)(i:Nat):(Br es).F i<n:=by
 have:=h.n0;show(match es[i]? with|some x=>x.Ai.toNat|none=>0)<n;cases q:es[i]? with
 |none=>exact this
 |some x=>obtain⟨f,a,e,d,_,_⟩:=h.ok x (by grind);grind
theorem P2{n:Nat}{es:AA Edge}(h:CT n es)(i:Nat):(Br es).T i<n:=by
 have:=h.n0;show(match es[i]? with|some x=>x.To.toNat|none=>0)<n;cases q:es[i]? with
 |none=>exact this
 |some x=>obtain⟨f,a,e,d,_,_⟩:=h.ok x (by grind);grind
theorem kg{n:Nat}{es:AA Edge}(h:CT n es)(i:Nat): -35184372088832<=(Br es).W i/\(Br es).W i<=35184372088832:=by
 show-35184372088832<=(match es[i]? with|some x=>x.W|none=>0)/\(match es[i]? with|some x=>x.W|none=>0)<=35184372088832;cases q:es[i]? with
 |none=>simp
 |some x=>have:=h.ok x (by grind);exact⟨this.w0,this.w1⟩
theorem rk{n:Nat}{es:AA Edge}(h:CT n es):Ev (λm=>OH m ⟨(n:Int),es⟩) 0:=by
 have p:=h.n0;have u:=h.n1;have t:=h.e1;unfold OH;refine Ea (v:=AD) ?_ ?_
 .simp only[Q4 (show¬((n:Int)<1)by omega),Q4 (show¬(512<(n:Int))by omega),Q4 (show¬(8192<(AI es:Int))by omega),Vr];exact Qa _
 refine Qy ?_;have loop:∀(q:AA Edge) (i:Nat),es.drop i=q->i<=AI es->Cc (λm=>NI m ⟨(n:Int),es⟩) (i:Int) (Bn.k ()):=by
  intro q
  induction q with
  |nil=>
   intro i e f;refine Ek ?_;unfold NI;simp only[QN e f,Vr];exact Qa _
  |cons x q j=>
   intro i e f;obtain⟨a,d⟩:=Qx (by omega) e;have g:=a.lt';refine Ez ?_ (j (i+1) d (by omega));obtain⟨w,r,s,k,l,w1⟩:=h.ok x a.mem;unfold NI;simp only[a.lt,Vq,a.ix,XK,a.nx];refine Ea (v:=AD) ?_ (Qa _);rw[Q4 (show¬((if x.To<x.Ai then x.To else x.Ai)<0)by split<;>omega),Vr,Q4 (show¬((n:Int)<=(if x.Ai<x.To then x.To else x.Ai))by split<;>omega),Vr,Q4 (show¬(x.W< -35184372088832)by omega),Vr,Q4 (show¬(35184372088832<x.W)by omega)];exact Qa _
 exact Ea (loop es 0 rfl (XV _)).ev (Qa _)
structure FP (l0:List Int) (lo n:Nat) (l ed:List Int) (s:Bs):Prop where
 len:AI l=AI l0
 far:∀v,v<n->l[lo+v]?=AC (s.far v)
 out:∀j,j<lo\/lo+n<=j->l[j]?=l0[j]?
 eln:AI ed=n
 edge:∀v,v<n->ed[v]?=AC ((s.edge v:Nat):Int)
theorem mo{l:AA Int}{lo i:Nat}{x:Int}(h:l[lo+i]?=AC x){m:Int}(a:((lo+i:Nat):Int)<m):HX l (lo:Int) m (i:Int)=AC x:=by
 unfold HX;rw[Vv (show(0:Int)<=(lo:Int)by omega),Vv (show(0:Int)<=(i:Int)by omega),Vv (show(lo:Int)+(i:Int)<m by omega)];rw[show(lo:Int)+(i:Int)=((lo+i:Nat):Int)by omega];exact Qi h
theorem xr{n:Nat}{es:AA Edge}(h:CT n es){l0 l a:AA Int}{lo:Nat}{s:Bs}(r:FP l0 lo n l a s)(M:∀v,v<n-> -1152921504606846976<=s.far v/\s.far v<=1152921504606846976){i:Nat}(hi:i<AI es):
  ∃l' ed',FP l0 lo n l' ed' (Ht (Br es) s i)/\ ∃b:Bool,(b=AE↔ ¬(s.far ((Br es).F i)=bN\/s.far ((Br es).T i)<=s.far ((Br es).F i)+(Br es).W i))/\
   Ev (λm=>Nz m (i:Int) (n:Int) es l (lo:Int) ((lo+n:Nat):Int) a) (l',ed',b):=by
 have p:=XL hi;generalize es[i]=x at p;obtain⟨f0,V,X,R,w0,w1⟩:=h.ok x (by grind);obtain⟨gF,gT,N⟩:=T4 p;have J:x.Ai=((x.Ai.toNat:Nat):Int):=by omega
 have u:x.To=((x.To.toNat:Nat):Int):=by omega
 have z:x.Ai.toNat<n:=by omega
 have g:x.To.toNat<n:=by omega
 have O:=r.far _ z;have E:=r.far _ g;have B:=mo O (m:=((lo+n:Nat):Int)) (by omega);have w:=mo E (m:=((lo+n:Nat):Int)) (by omega);rw[<- J]at B;rw[<- u]at w;have Y:=M _ z;have H:i64.wrap (s.far x.Ai.toNat+x.W)=s.far x.Ai.toNat+x.W:=Qt (by omega) (by omega);unfold Nz;simp only[Qi p,XK,B,w,H];unfold Ht;rw[gF,gT,N];by_cases c1:s.far x.Ai.toNat=bN
 .refine⟨l,a,by grind,AD,by simp[c1],?_⟩;rw[show(s.far x.Ai.toNat==1152921504606846976)=AE by rw[c1];rfl];exact Qa _
 .have d:(s.far x.Ai.toNat==1152921504606846976)=false:=by simpa[bN]using c1
  by_cases f:s.far x.To.toNat<=s.far x.Ai.toNat+x.W
  .refine⟨l,a,by grind,AD,by simp[f],?_⟩;rw[d,QV f];exact Qa _
  .have y:¬(s.far x.Ai.toNat=bN\/s.far x.To.toNat<=s.far x.Ai.toNat+x.W):=λq=>q.elim c1 f;have k:lo+x.To.toNat<AI l:=(by grind);refine⟨l.set (lo+x.To.toNat) (s.far x.Ai.toNat+x.W),a.set x.To.toNat (i:Int),?_,AE,by simp[y],?_⟩
   .rw[Vt y];refine⟨by rw[X5];exact r.len,λv t=>?_,λj G=>?_,by rw[X5];exact r.eln,λv t=>?_⟩
    .by_cases e:v=x.To.toNat
     .grind[YZ]
     .rw[XQ (by omega)];simp only[PW _ _ e];exact r.far v t
    .rw[XQ (by omega)];exact r.out j G
    .by_cases e:v=x.To.toNat
     .subst e;rw[Xa (by rw[r.eln];exact g)];simp only[YZ]
     .rw[XQ (by omega)];simp only[PW _ _ e];exact r.edge v t
   .rw[d,Q4 f];have Q:Fe l ((lo:Int)+x.To) (s.far x.Ai.toNat+x.W)=AC (l.set (lo+x.To.toNat) (s.far x.Ai.toNat+x.W)):=by
     rw[show(lo:Int)+x.To=((lo+x.To.toNat:Nat):Int)by omega];exact Jd l _ k
    have L:Bt a x.To=AC ((s.edge x.To.toNat:Nat):Int):=by rw[u];exact Qi (r.edge _ g)
    have P:Fe a x.To (i:Int)=AC (a.set x.To.toNat (i:Int)):=by rw[u];exact Jd a _ (by rw[r.eln];exact g)
    simp only[Vr,Q,L,P,XK];exact Qa _
def bI(s:Bs):Prop:=∀v,s.far v=bN\/s.far v=0
theorem sY{n:Nat}{es:AA Edge}(h:CT n es){s:Bs}(d:bI s){t:Nat}(e:t<=n*AI es)(v:Nat): -1152921504606846976<=(CM (Br es) s t).far v/\(CM (Br es) s t).far v<=1152921504606846976:=by
 have a:t<=16384:=XW e (XW (Nat.mul_le_mul h.n1 h.e1) (by decide));rcases wO (M:=35184372088832) (kg h) d t v with q|q
 .rw[q];decide
 .omega
theorem m6{E k i:Nat}(hi:i<E):(k*E+i)%E=i:=by grind[Nat.add_mul_mod_self_right,Nat.mod_eq_of_lt]
theorem xu{n:Nat}{es:AA Edge}(h:CT n es){l0:AA Int}{lo:Nat}{s:Bs}(H:bI s){k:Nat}(P:k<n):
  ∀(m i:Nat) (l f:AA Int) (a:Int),i+m=AI es->FP l0 lo n l f (CM (Br es) s (k*AI es+i))->
  ((a= -1/\ ∀j v,j<i->¬Fw (Br es) s v (k*AI es+j))\/ ∃v τ,a=((v:Nat):Int)/\v<n/\k*AI es<=τ/\τ<k*AI es+i/\Fw (Br es) s v τ)->
  ∃l' ed' last',FP l0 lo n l' ed' (CM (Br es) s ((k+1)*AI es))/\Cc (λm=>LT m (n:Int) es (lo:Int) ((lo+n:Nat):Int)) (l,f,a,(i:Int)) (l',ed',last')/\
   ((last'= -1/\ ∀j v,j<AI es->¬Fw (Br es) s v (k*AI es+j))\/ ∃v τ,last'=((v:Nat):Int)/\v<n/\k*AI es<=τ/\τ<(k+1)*AI es/\Fw (Br es) s v τ):=by
 intro m;have e1:(k+1)*AI es=k*AI es+AI es:=by grind
 induction m with
 |zero=>
  intro i l f a R r q;obtain rfl:i=AI es:=by omega
  rw[e1];refine⟨l,f,a,r,Ek ?_,q⟩
  simp_all[LT,Qa]
 |succ m w=>
  intro i l f a R r q;have d:i<AI es:=by omega
  have hE:=h.e1;have L:k*AI es+i<=n*AI es:=XW (by omega:k*AI es+i<=(k+1)*AI es) (XD _ P);obtain⟨l',ed',M,b,J,B⟩:=xr h r (λv _=>sY h H L v) d;have F:FP l0 lo n l' ed' (CM (Br es) s (k*AI es+(i+1))):=by
   rw[<- Nat.add_assoc,JT,show(Br es).E=AI es from rfl,m6 d];exact M
  have hT:=P2 h i;have bc:b=AE↔Fw (Br es) s ((Br es).T i) (k*AI es+i):=by
   rw[J];unfold Fw;rw[JT,show(Br es).E=AI es from rfl,m6 d];rcases Y7 (Br es) (CM (Br es) s (k*AI es+i)) i with⟨u,N⟩|⟨u,N,V⟩
   .grind
   .rw[V];grind[YZ]
  have bn:b=AD->∀v,¬Fw (Br es) s v (k*AI es+i):=λQ v c=>by
   have:=(M3 c).1;rw[show(Br es).E=AI es from rfl,m6 d]at this
   grind
  have p:=XL d;generalize es[i]=x at p;obtain⟨_,gT,_⟩:=T4 p;obtain⟨f0,X,Y,W,_,_⟩:=h.ok x (by grind);have g:Ev (λm=>LT m (n:Int) es (lo:Int) ((lo+n:Nat):Int) (l,f,a,(i:Int))) (.k (l',ed',(bif b then x.To else a),((i+1:Nat):Int))):=by
   unfold LT;simp only[QV (show(i:Int)<(AI es:Int)by omega),Vq,Qz (show i<9223372036854775807 by omega)];refine Ea B ?_;refine Ea (v:=bif b then x.To else a) ?_ (Qa _);cases b
   .exact Qa _
   .simp only[Vq,Qi p,XK];exact Qa _
  obtain⟨z,t,e,G,O,y⟩:=w (i+1) l' ed' (bif b then x.To else a) (by omega) F (by
   grind)
  exact⟨z,t,e,G,Ez g O,y⟩
def bJ(es:AA Edge)(s:Bs):Prop:=∀i,i<AI es->s.far ((Br es).F i)=bN\/s.far ((Br es).T i)<=s.far ((Br es).F i)+(Br es).W i
theorem pN{n:Nat}{es:AA Edge}(h:CT n es){l0 l a:AA Int}{lo:Nat}{s:Bs}(J:bI s)(r:FP l0 lo n l a s):
  ∃l' ed' last T,FP l0 lo n l' ed' (CM (Br es) s T)/\T<=n*AI es/\Ev (λm=>KA m (n:Int) es l (lo:Int) ((lo+n:Nat):Int) a) (l',ed',last)/\
   ((last= -1/\bJ es (CM (Br es) s T))\/ ∃v τ,last=((v:Nat):Int)/\v<n/\T=n*AI es/\(n-1)*AI es<=τ/\HG (Br es) s v T τ):=by
 have X:=h.n0;have V:=h.n1;have loop:∀(m k:Nat) (l a:AA Int) (last:Int),k+m=n->FP l0 lo n l a (CM (Br es) s (k*AI es))->
   (0<k->∃v τ,last=((v:Nat):Int)/\v<n/\(k-1)*AI es<=τ/\τ<k*AI es/\Fw (Br es) s v τ)->
   ∃b:Bn (AA Int×AA Int×Int) (AA Int×AA Int×Int),Cc (λm=>K6 m (n:Int) es (lo:Int) ((lo+n:Nat):Int)) (l,a,last,(k:Int)) b/\
    ((∃l' ed' T,b=.d (l',ed',-1)/\FP l0 lo n l' ed' (CM (Br es) s T)/\T<=n*AI es/\bJ es (CM (Br es) s T))\/
     ∃l' ed' v τ,b=.k (l',ed',((v:Nat):Int))/\FP l0 lo n l' ed' (CM (Br es) s (n*AI es))/\v<n/\(n-1)*AI es<=τ/\τ<n*AI es/\Fw (Br es) s v τ):=by
  intro m
  induction m with
  |zero=>
   intro k l a last N r q;obtain rfl:k=n:=by omega
   obtain⟨v,τ,rfl,M,L,O,H⟩:=q (by omega);refine⟨.k (l,a,(v:Int)),Ek ?_,.inr ⟨l,a,v,τ,rfl,r,M,L,O,H⟩⟩
   simp_all[K6,Qa]
  |succ m F=>
   intro k l a last N r q;obtain⟨w,d,x,z,E,e⟩:=xu h J (k:=k) (l0:=l0) (lo:=lo) (by omega) (AI es) 0 l a (-1) (by omega) r (by simp);rcases e with⟨rfl,e⟩|⟨v,τ,rfl,w1,w2,w3,W⟩
   .refine⟨.d (w,d,-1),Ek ?_,.inl ⟨w,d,(k+1)*AI es,rfl,z,XD _ (by omega),λi P=>?_⟩⟩
    .unfold K6;simp only[QV (show(k:Int)<(n:Int)by omega),Vq];refine Ea E.ev ?_;exact Qa _
    .have st:=zg (g:=Br es) (s:=s) (t:=k*AI es) (λj v u=>e j v u) (by show(k*AI es)%AI es=0;simp) i P;have Y:=λv=>(UQ (g:=Br es) (s:=s) (v:=v) (t:=k*AI es) (AI es) λj u=>e j v u).1
     grind
   .obtain⟨b,f,p⟩:=F (k+1) w d (v:Int) (by omega) z (by grind);refine⟨b,Ez ?_ f,p⟩;unfold K6;simp only[QV (show(k:Int)<(n:Int)by omega),Vq,Qz (show k<9223372036854775807 by omega)];refine Ea E.ev ?_;simp only[Q4 (show¬((v:Int)<0)by omega),Vr];exact Qa _
 obtain⟨b,f,p⟩:=loop n 0 l a 0 (by omega) (by rw[Nat.zero_mul];exact r) (by omega);unfold KA;rcases p with⟨l',ed',T,rfl,c1,y,B⟩|⟨l',ed',v,τ,rfl,c1,y,B,G,Q⟩
 .exact⟨l',ed',-1,T,c1,y,Ea f.ev (Qa _),.inl ⟨rfl,B⟩⟩
 .obtain⟨τ',R,z2⟩:=lF (t:=n*AI es) G Q;exact⟨l',ed',(v:Int),n*AI es,c1,XU _,Ea f.ev (Qa _),(by grind)⟩
set_option maxRecDepth 10000
def D1(es:AA Edge)(φ:Nat->Int):Prop:=∀i,i<AI es->φ ((Br es).T i)<=φ ((Br es).F i)+(Br es).W i
def G1(es:AA Edge)(l:AA Int):Int:=(l.map λc=>(Br es).W c.toNat).sum
theorem yf{a b:AA Int}(h:a.Perm b):a.sum=b.sum:=by
 induction h with
 |nil=>rfl
 |cons x _ ih=>simp[ih]
 |swap x y l=>grind
 |trans _ _ h1 h2=>omega
theorem zC(es:AA Edge){a b:AA Int}(h:a.Perm b):G1 es a=G1 es b:=yf (h.map _)
theorem yj(es:AA Edge)(a b:AA Int):G1 es (a++b)=G1 es a+G1 es b:=by simp[G1]
theorem QkT(l0:AA Int)(z:AI l0<=1048576):∃r:AA Int,r.Perm l0/\Ev (λm=>Nt m l0) r:=by
 have loop:∀(m i j:Nat) (l:AA Int),AI l=AI l0->l.Perm l0->j<=AI l0->j-i<=m->∃r:AA Int,r.Perm l0/\Cc (λm=>LV m) (l,(i:Int),(j:Int)-1) r:=by
  intro m
  induction m with
  |zero=>
   intro i j l f d n k;refine⟨l,d,Ek ?_⟩;unfold LV;simp only[Q4 (show¬((i:Int)<(j:Int)-1)by omega),Vr];exact Qa _
  |succ m p=>
   intro i j l f d n k;by_cases q:i+1<j
   .have g:i<AI l:=by omega
    have w:j-1<AI l:=by omega
    obtain⟨r,e,a⟩:=p (i+1) (j-1) ((l.set i l[j-1]).set (j-1) l[i]) (by simp[f]) (by grind) (by omega) (by omega);refine⟨r,e,Ez ?_ a⟩;unfold LV;have h:(j:Int)-1=((j-1:Nat):Int):=by omega
    have t:=Qi (XL g);have x:=Qi (XL w);have y:Bt (l.set i l[j-1]) ((j-1:Nat):Int)=AC l[j-1]:=by
     grind[Qi]
    have u:=Jd l l[j-1] g;have s:=Jd (l.set i l[j-1]) l[i] (i:=j-1) (by grind);simp only[h,QV (show(i:Int)<((j-1:Nat):Int)by omega),Vq,t,x,u,y,s,XK,Qz (show i<9223372036854775807 by omega),Qt (show-9223372036854775808<=((j-1:Nat):Int)-1 by omega) (by omega)];exact Qa _
   .refine⟨l,d,Ek ?_⟩;unfold LV;simp only[Q4 (show¬((i:Int)<(j:Int)-1)by omega),Vr];exact Qa _
 obtain⟨r,e,a⟩:=loop (AI l0) 0 (AI l0) l0 rfl (List.Perm.refl _) (XU _) (by omega);refine⟨r,e,?_⟩;unfold Nt;rw[Qt (by omega) (by omega)];exact Ea a.ev (Qa _)
theorem eL{α:Type}(n:Nat)(z:α)(h:n<=4294967296):mk (n:Int) z=AC (List.replicate n z):=by
 grind[mk]
theorem yn(n:Nat)(x:Int)(f:Nat->Int)(lo:Nat)(l:AA Int)(hl:∀v,v<n->l[lo+v]?=AC (f v)):FP l lo n l (List.replicate n 0) ⟨f,λ_=>0⟩:=
 ⟨rfl,hl,λ_ _=>rfl,by simp,λv hv=>by grind⟩
theorem Qef{n:Nat}{es:AA Edge}(h:CT n es):
  (∃φ,D1 es φ)/\Ev (λm=>J_ m ⟨(n:Int),es⟩) []\/
  (¬ ∃φ,D1 es φ)/\ ∃cyc,cyc≠[]/\AI cyc<=n/\(∀c∈cyc,∃j,j<AI es/\c=((j:Nat):Int))/\G1 es cyc<0/\Ev (λm=>J_ m ⟨(n:Int),es⟩) cyc:=by
 have h0:=h.n0;have h1:=h.n1;have hE:=h.e1;have hm:=eL n (0:Int) (by omega)
 let s:Bs:=⟨λ_=>0,λ_=>0⟩
 have r0:FP (List.replicate n 0) 0 n (List.replicate n 0) (List.replicate n 0) s:=yn n 0 _ 0 _ λv hv=>by simp[List.getElem?_replicate,hv]
 have aa:bI s:=λv=>.inr rfl;obtain⟨l',J,ae,T,g1,g2,g3,g4⟩:=pN h aa r0;have hl:(AI (List.replicate n (0:Int)):Int)=((0+n:Nat):Int):=by simp
 rcases g4 with⟨rfl,g4⟩|⟨v,τ,rfl,w1,rfl,w2,w3⟩
 .refine .inl ⟨⟨(CM (Br es) s T).far,λi hi=>?_⟩,?_⟩
  .rcases g4 i hi with q|q
   .have:=Z1 (Br es) s ((Br es).F i) 0 T;rw[Xx,q]at this;exact absurd (show bN<=(0:Int)from this) (by decide)
   .exact q
  .unfold J_;simp only[hm,XK,hl];refine Ea g3 ?_;exact Qa _
 .have M:0<AI es:=by
   rcases Nat.eq_zero_or_pos (AI es) with e|e
   .have:=w3.lt;rw[e,Nat.mul_zero]at this;omega
   .exact e
  have L:0<(Br es).E:=M;generalize hS:CM (Br es) s (n*AI es)=S at g1;obtain⟨k,k0,k1,R,H⟩:=oy (g:=Br es) L (Rf h) w1 w3 w2;rw[hS]at R H;have N:∀j,j<n->∃τ',HG (Br es) s (CZ (Br es) S v j) (n*AI es) τ':=λj hj=>by
   have:j*AI es<=(n-1)*AI es:=XD _ (by omega);obtain⟨τ',_,q⟩:=w3.back L j (XW this w2);rw[hS]at q;exact⟨τ',q⟩
  have d:∀u τ',HG (Br es) s u (n*AI es) τ'->S.edge u<AI es:=λu τ' q=>by
   have:=q.edge;rw[hS]at this;rw[this];exact Nat.mod_lt _ M
  have r:∀u,u<n->∀j,CZ (Br es) S u j<n:=λu P j=>by
   cases j with
   |zero=>exact P
   |succ j=>exact Rf h _
  have l:∀u,S.edge u<AI es->∃x:Edge,es[S.edge u]?=AC x/\x.Ai=((bp (Br es) S u:Nat):Int):=λu P=>by
   refine⟨es[S.edge u],XL P,?_⟩;obtain⟨q,_,_⟩:=T4 (XL P);have:=h.ok _ (Ve P);unfold bp;rw[q];have:=this.f0;omega
  have w:∀(m i:Nat),i+m=n->Cc (λq=>NZ q ⟨(n:Int),es⟩ (l',J,(v:Int))) (((CZ (Br es) S v i:Nat):Int),(i:Int)) ((CZ (Br es) S v n:Nat):Int):=by
   intro m
   induction m with
   |zero=>
    intro i hi;obtain rfl:i=n:=by omega
    refine Ek ?_;unfold NZ;simp only[Q4 (show¬((i:Int)<(i:Int))by omega),Vr];exact Qa _
   |succ m G=>
    intro i hi;refine Ez ?_ (G (i+1) (by omega));obtain⟨τ',q⟩:=N i (by omega);have e1:=Qi (g1.edge _ (r v w1 i));obtain⟨x,X,W⟩:=l _ (d _ _ q);unfold NZ;simp only[QV (show(i:Int)<(n:Int)by omega),Vq,e1,XK,Qi X,W,Qz (show i<9223372036854775807 by omega)];exact Qa _
  generalize hp:CZ (Br es) S v n=p at w R H;have ad:p<n:=by rw[<- hp];exact r v w1 n
  let cl:Nat->AA Int:=λj=>(List.range j).map λi=>((S.edge (CZ (Br es) S p i):Nat):Int)
  have f:∀j,cl (j+1)=cl j++[((S.edge (CZ (Br es) S p j):Nat):Int)]:=λj=>by simp[cl,Xw]
  have B:∀(m j:Nat),j+m=k->j<k->(∀i,0<i->i<=j->CZ (Br es) S p i≠p)->∃t,0<t/\t<=n/\CZ (Br es) S p t=p/\Cc (λq=>NS q ⟨(n:Int),es⟩ (l',J,(v:Int)) ((p:Nat):Int)) (cl j,((CZ (Br es) S p j:Nat):Int)) (cl t):=by
   intro m
   induction m with
   |zero=>intro j a b;omega
   |succ m G=>
    intro j a b c;obtain⟨τ',q⟩:=H j;have e1:=Qi (g1.edge _ (r p ad j));obtain⟨x,X,W⟩:=l _ (d _ _ q);have ea:app (cl j) [((S.edge (CZ (Br es) S p j):Nat):Int)]=AC (cl (j+1)):=by
     rw[f];exact Pe _ _ (by simp[cl];omega)
    have e2:((bp (Br es) S (CZ (Br es) S p j):Nat):Int)=((CZ (Br es) S p (j+1):Nat):Int):=rfl;by_cases z:CZ (Br es) S p (j+1)=p
    .refine⟨j+1,by omega,by omega,z,Ek ?_⟩;unfold NS;simp only[e1,XK,ea,Qi X,W,e2,z,BEq.rfl,Vq];exact Qa _
    .have ac:j+1<k:=by
      rcases VC (j+1) k with y|y
      .exact y
      .rw[show k=j+1 by omega]at R;exact absurd R z
     obtain⟨t,y1,y2,Q,Y⟩:=G (j+1) (by omega) ac (λi i1 i2=>by
      rcases VC i (j+1)with y|y
      .exact c i i1 (by omega)
      .rwa [show i=j+1 by omega])
     refine⟨t,y1,y2,Q,Ez ?_ Y⟩;unfold NS;have zb:(((CZ (Br es) S p (j+1):Nat):Int)==(p:Int))=false:=Vz.2 λe=>z (by omega);simp only[e1,XK,ea,Qi X,W,e2,zb,Vr];exact Qa _
  obtain⟨t,y1,y2,Q,Y⟩:=B k 0 (by omega) k0 (λi a b=>by omega);have neg:Dn (Br es) S p t<0:=by
   have:=lW (g:=Br es) (s:=s) (n*AI es) (v:=p) (k:=t) y1 (by rw[hS];exact Q) (λj _=>by rw[hS];exact H j)
   rwa [hS]at this
  have O:∀j,G1 es (cl j)=Dn (Br es) S p j:=by
   intro j
   induction j with
   |zero=>rfl
   |succ j G=>rw[f,yj,G];simp[G1,Dn]
  obtain⟨V,rp,re⟩:=QkT (cl t) (by simp[cl];omega);have rl:AI V=t:=by rw[rp.length_eq];simp[cl]
  refine .inr ⟨?_,V,?_,by omega,λc hc=>?_,by rw[zC es rp,O];exact neg,?_⟩
  .rintro⟨φ,hφ⟩;have low:∀j,φ p-φ (CZ (Br es) S p j)<=Dn (Br es) S p j:=by
    intro j
    induction j with
    |zero=>simp[Dn,CZ]
    |succ j G=>
     obtain⟨τ',q⟩:=H j;have ab:=d _ _ q;have a:=hφ _ ab;have hT:=(M3 q.ch).1;have he:=q.edge;rw[hS]at he;rw[<- he]at hT;rw[<- hT]at a;have e3:CZ (Br es) S p (j+1)=(Br es).F (S.edge (CZ (Br es) S p j)):=rfl;unfold Dn;rw[e3];omega
   have:=low t;rw[Q]at this;omega
  .intro e;rw[e]at rl;simp at rl;omega
  .have:=rp.mem_iff.1 hc;obtain⟨i,_,rfl⟩:=Xe.1 this;obtain⟨τ',q⟩:=H i;exact⟨_,d _ _ q,rfl⟩
  .unfold J_;simp only[hm,XK,hl];refine Ea g3 ?_;simp only[Q4 (show¬((v:Int)<0)by omega),Vr];refine Ea (w n 0 (by omega)).ev ?_;refine Ea Y.ev ?_;refine Ea (v:=V) ?_ (Qa _);unfold Zq;refine Ea re ?_;rw[show Nat.beq (AI (cl t)) (AI V)=AE by rw[rp.length_eq];exact VF _];exact Qa _
set_option maxRecDepth 10000
theorem wv:∀k:Fin 65,(AG (0<(u64.wrap ((u64.wrap ((u64.wrap ((Ye .u64 (u64.wrap ([(0:Int)].length:Int)) 32)*(Ye .u64 (u64.wrap (((k:Nat)*(k:Nat):Nat):Int)) 32)))+(Ye .u64 (u64.wrap ((u64.wrap ((Ye .u64 (u64.wrap ([(0:Int)].length:Int)) 32)*(YA .u64 (u64.wrap (((k:Nat)*(k:Nat):Nat):Int)) 4294967295)))+(Ye .u64 (u64.wrap ((YA .u64 (u64.wrap ([(0:Int)].length:Int)) 4294967295)*(YA .u64 (u64.wrap (((k:Nat)*(k:Nat):Nat):Int)) 4294967295))) 32))) 32)))+(Ye .u64 (u64.wrap ((YA .u64 (u64.wrap ((u64.wrap ((Ye .u64 (u64.wrap ([(0:Int)].length:Int)) 32)*(YA .u64 (u64.wrap (((k:Nat)*(k:Nat):Nat):Int)) 4294967295)))+(Ye .u64 (u64.wrap ((YA .u64 (u64.wrap ([(0:Int)].length:Int)) 4294967295)*(YA .u64 (u64.wrap (((k:Nat)*(k:Nat):Nat):Int)) 4294967295))) 32))) 4294967295)+(u64.wrap ((YA .u64 (u64.wrap ([(0:Int)].length:Int)) 4294967295)*(Ye .u64 (u64.wrap (((k:Nat)*(k:Nat):Nat):Int)) 32))))) 32)))))=false:=by decide+kernel
theorem yV:∀k:Fin 65,(AG (9223372036854775807<(u64.wrap ((u64.wrap ([(0:Int)].length:Int))*(u64.wrap (((k:Nat)*(k:Nat):Nat):Int))))))=false:=by decide+kernel
theorem wu:∀k:Fin 65,(i64.wrap (u64.wrap ((u64.wrap ([(0:Int)].length:Int))*(u64.wrap (((k:Nat)*(k:Nat):Nat):Int)))))=(((k:Nat)*(k:Nat):Nat):Int):=by decide+kernel
theorem yU(x:Int)(K:Nat)(l:K<=4096):∀(m j:Nat),1<=j->j<=K->K-j<=m->Cc (λn=>NY n) (List.replicate j x++List.replicate (K-j) 0,(j:Int)) (List.replicate K x):=by
 intro m
 induction m with
 |zero=>
  intro j k i f;obtain rfl:j=K:=by omega
  simp_all[Ek,NY,Qa]
 |succ m g=>
  intro j k i f;by_cases p:j=K
  .grind
  .have e:AI (List.replicate j x++List.replicate (K-j) (0:Int))=K:=by simp;omega
   refine Ez ?_ (g (j+min j (K-j)) (by omega) (by omega) (by omega));unfold NY;simp only;generalize hL:List.replicate j x++List.replicate (K-j) (0:Int)=L at e;have a:L.take j=List.replicate j x:=by grind
   have h:L.drop j=List.replicate (K-j) 0:=by grind
   rw[QV (by omega),Vq,aW L (by omega),XK,UB L (by omega),XK];unfold O_;simp only[XK,Int.toNat_natCast,e,a];have d:L.take j++(List.replicate j x).take (K-j)++L.drop (j+min (AI (List.replicate j x)) (K-j))=List.replicate (j+min j (K-j)) x++List.replicate (K-(j+min j (K-j))) 0:=by
    rw[<- List.drop_drop,a,h,List.length_replicate,List.take_replicate,List.drop_replicate,List.replicate_append_replicate]
    grind
   rw[a]at d;rw[d];have w:i64.wrap ((j:Int)+((min (AI (List.replicate j x)) (K-j):Nat):Int))=((j+min j (K-j):Nat):Int):=by
    rw[List.length_replicate,Qt (by omega) (by omega)];omega
   rw[w];exact Qa _
theorem Ev.bf{α:Type}{c:Bool}{f g:Nat->AB α}{v:α}(h:c=AD)(q:Ev g v):Ev (λn=>bif c then f n else g n) v:=by simp_all
theorem zK(x:Int)(k:Nat)(i:1<=k)(m:Nat)(g:m<=64)(f:k=m*m):Ev (λn=>Nw n [x] (k:Int)) (List.replicate k x):=by
 have a:=wv ⟨m,by omega⟩;have d:=yV ⟨m,by omega⟩;have h:=wu ⟨m,by omega⟩;have j:k<=4096:=by rw[f];exact Nat.mul_le_mul g g
 simp only[<- f]at a d h;unfold Nw;refine Ea (v:=()) (by grind[Qa]) (Ea (v:=()) (Qa _) (Ea (v:=AD) ?_ (Ea (v:=()) (Qa _) ?_)))
 .exact Ev.bf a (ED (congrArg AC d))
 .refine Ea (v:=List.replicate k 0) (ED ((congrArg (λz=>mk z (0:Int)) h).trans ?_)) ?_
  .show mk (k:Int) 0=_;unfold mk
   grind
  .refine Ea (v:=List.replicate 1 x++List.replicate (k-1) 0) (ED ?_) ?_
   .unfold O_
    grind
   .have e:((min [x].length (AI (List.replicate k (0:Int))):Nat):Int)=((1:Nat):Int):=by simp;omega
    rw[e];exact Ea ((yU x k j k 1 (XU _) i (by omega)).ev) (Qa _)
structure On (es:List Edge) (n j:Nat) (d:Nat->Int):Prop where
 zero:d j=0
 wk:∀v,d v=bN\/Wk (Br es) j v (d v)
 hold:∀i,i<AI es->d ((Br es).F i)=bN\/d ((Br es).T i)<=d ((Br es).F i)+(Br es).W i
 low:∀v,v<n-> -1152921504606846976<=d v/\d v<=1152921504606846976
theorem U'{n:Nat}{es:AA Edge}(h:CT n es){φ:Nat->Int}(hφ:D1 es φ){l0 l L:AA Int}{lo j:Nat}(Y:j<n)(r:FP l0 lo n l L ⟨λv=>if v=j then 0 else bN,λ_=>0⟩):
  ∃l' ed' last d,AI l'=AI l0/\(∀v,v<n->l'[lo+v]?=AC (d v))/\(∀i,i<lo\/lo+n<=i->l'[i]?=l0[i]?)/\On es n j d/\Ev (λm=>KA m (n:Int) es l (lo:Int) ((lo+n:Nat):Int) L) (l',ed',last):=by
 have W:=h.n0;have R:=h.n1;generalize hs:(⟨λv=>if v=j then 0 else bN,λ_=>0⟩:Bs)=s at r;have f:s.far j=0:=by rw[<- hs];simp
 have w:∀v,v≠j->s.far v=bN:=λv V=>by rw[<- hs];grind
 have u:bI s:=λv=>by
  grind
 obtain⟨l',ed',last,T,B,P,N,y⟩:=pN h u r;rcases y with⟨rfl,y⟩|⟨v,τ,rfl,w1,rfl,w2,w3⟩
 .refine⟨l',ed',-1,(CM (Br es) s T).far,B.len,B.far,B.out,⟨?_,λv=>?_,y,λv _=>sY h u P v⟩,N⟩
  .have a:=Z1 (Br es) s j 0 T;rw[Xx]at a;have J:(CM (Br es) s T).far j<=0:=by rw[<- f];exact a
   rcases Nat.eq_zero_or_pos (AI es) with e|e
   .have:T=0:=by grind
    subst this;exact f
   .rcases wP (g:=Br es) (s:=s) (φ:=φ) e (c:=φ j) hφ (by grind) T j with q|q
    .rw[q]at J;exact absurd J (by decide)
    .omega
  .rcases Nat.eq_zero_or_pos (AI es) with e|e
   .have:T=0:=by grind
    subst this;by_cases z:v=j
    .subst z;exact .inr (by show Wk _ _ _ (s.far v);rw[f];exact .nil)
    .exact .inl (w v z)
   .exact vL e (λv=>by
     by_cases z:v=j
     .subst z;exact .inr (by rw[f];exact .nil)
     grind) T v
 .exfalso;have t:0<AI es:=by
   rcases Nat.eq_zero_or_pos (AI es) with e|e
   .have:=w3.lt;grind
   .exact e
  obtain⟨k,O,X,H,x⟩:=oy (g:=Br es) t (Rf h) w1 w3 w2;generalize hS:CM (Br es) s (n*AI es)=S at H x;generalize CZ (Br es) S v n=p at H x;have neg:=lW (g:=Br es) (s:=s) (n*AI es) (v:=p) (k:=k) O (by grind) (λj _=>by grind);rw[hS]at neg;have low:∀j,φ p-φ (CZ (Br es) S p j)<=Dn (Br es) S p j:=by
   intro j
   induction j with
   |zero=>simp[Dn,CZ]
   |succ j Q=>
    obtain⟨τ',q⟩:=x j;have E:=q.edge;rw[hS]at E;have G:S.edge (CZ (Br es) S p j)<AI es:=by rw[E];exact Nat.mod_lt _ t
    have a:=hφ _ G;have M:=(M3 q.ch).1;rw[<- E]at M;rw[<- M]at a;have e3:CZ (Br es) S p (j+1)=(Br es).F (S.edge (CZ (Br es) S p j)):=rfl;unfold Dn
    grind
  grind
structure F_ (es:List Edge) (n:Nat) (far:List (List Int)) (D:Nat->Nat->Int):Prop where
 len:AI far=n
 row:∀j,j<n->∃r,far[j]?=AC r/\AI r=n/\ ∀v,v<n->r[v]?=AC (D j v)
 d:∀j,j<n->On es n j (D j)
theorem uG{n:Nat}{es:AA Edge}(h:CT n es){φ:Nat->Int}(hφ:D1 es φ):∃far D,F_ es n far D/\Ev (λm=>OU m ⟨(n:Int),es⟩) far:=by
 have u:=h.n0;have q:=h.n1;have X:n*n<=4096:=Nat.mul_le_mul q q;have loop:∀(m i:Nat) (l:AA Int) (D:Nat->Nat->Int),i+m=n->AI l=n*n->(∀j,j<i->(∀v,v<n->l[j*n+v]?=AC (D j v))/\On es n j (D j))->(∀x,i*n<=x->x<n*n->l[x]?=AC bN)->
   ∃(f:AA Int) (D':Nat->Nat->Int),Cc (λm=>Na m ⟨(n:Int),es⟩) (l,(i:Int),i) (f,n)/\AI f=n*n/\ ∀j,j<n->(∀v,v<n->f[j*n+v]?=AC (D' j v))/\On es n j (D' j):=by
  intro m
  induction m with
  |zero=>
   intro i l D hi hl hd _;obtain rfl:i=n:=by omega
   refine⟨l,D,Ek ?_,hl,hd⟩
   simp_all[Na,Qa]
  |succ m B=>
   intro i l D hi hl hd hN;have k:i<n:=by omega
   have N:i*n+n<=n*n:=by
    have:=XD n (show i+1<=n from k)
    rwa [XB,Nat.one_mul]at this
   have t:i*n+i<n*n:=by omega
   let s:Bs:=⟨λv=>if v=i then 0 else bN,λ_=>0⟩
   have r:FP l (i*n) n (l.set (i*n+i) 0) (List.replicate n 0) s:=by
    refine⟨by simp,λv p=>?_,λj g=>?_,by simp,λv p=>by simp[List.getElem?_replicate,p,s]⟩
    .grind
    .rw[XQ (by omega)]
   obtain⟨f,H,w,d,z,Q,P,W,G⟩:=U' h hφ k r;obtain⟨J,D2,y,R,Y⟩:=B (i+1) f (λj=>if j=i then d else D j) (by omega) (by rw[z,hl]) (λj g=>by
    by_cases e:j=i
    .subst e;simp only[Vu];exact⟨Q,W⟩
    .simp only[Vt e];obtain⟨a,b⟩:=hd j (by omega);refine⟨λv p=>?_,b⟩;have:j*n+n<=i*n:=by
      have:=XD n (show j+1<=i by omega)
      rwa [XB,Nat.one_mul]at this
     rw[P _ (.inl (by omega))];exact a v p) (by grind)
   refine⟨J,D2,Ez ?_ y,R,Y⟩;have w1:i64.wrap ((i:Int)*(n:Int))=((i*n:Nat):Int):=by
    rw[show(i:Int)*(n:Int)=((i*n:Nat):Int)by push_cast;rfl];exact Qt (by omega) (by omega)
   have w2:i64.wrap (((i+1:Nat):Int)*(n:Int))=((i*n+n:Nat):Int):=by
    rw[show((i+1:Nat):Int)*(n:Int)=((i*n+n:Nat):Int)by push_cast;rw[Int.add_mul,Int.one_mul]];exact Qt (by omega) (by omega)
   have w3:=Qz (show i<9223372036854775807 by omega);have c1:E_ l ((i*n:Nat):Int) ((i*n+n:Nat):Int)=AC ((l.take (i*n+n)).drop (i*n)):=by
    unfold E_;simp only[QV (show(0:Int)<=((i*n:Nat):Int)by omega),QV (show((i*n:Nat):Int)<=((i*n+n:Nat):Int)by omega),QV (show((i*n+n:Nat):Int)<=(AI l:Int)by omega)];rfl
   have L:HX l ((i*n:Nat):Int) ((i*n+n:Nat):Int) (i:Int)=AC bN:=mo (hN _ (by omega) t) (by omega);have O:Fe l (((i*n:Nat):Int)+(i:Int)) 0=AC (l.set (i*n+i) 0):=by
    rw[show((i*n:Nat):Int)+(i:Int)=((i*n+i:Nat):Int)by omega];exact Jd l 0 (by omega)
   have F:Kc ((i*n:Nat):Int) ((i*n+n:Nat):Int) (n:Int) i f (l.set (i*n+i) 0)=AC ():=by
    unfold Kc;have a1:((0+((i*n:Nat):Int).toNat)==i*((n:Int)).toNat)=true:=Vy.2 (by rw[Int.toNat_natCast,Int.toNat_natCast,Xx]);have a2:((((i*n+n:Nat):Int).toNat-((i*n:Nat):Int).toNat)==((n:Int)).toNat)=true:=Vy.2 (by rw[Int.toNat_natCast,Int.toNat_natCast,Int.toNat_natCast];omega);have a3:AG (i+1<=Yn)=true:=Vv (XW (by omega:i+1<=1048576) (by decide))
    grind
   unfold Na;simp only[QV (show(i:Int)<(n:Int)by omega),Vq,w3,w1,w2,c1,L,O,eL n (0:Int) (by omega),XK];refine Ea G ?_;simp only[F,XK];exact Qa _
 obtain⟨f,D,M,T,E⟩:=loop n 0 (List.replicate (n*n) bN) (λ_ _=>0) (by omega) (by simp) (λj g=>absurd g (Xn _)) (λx _ hx=>by simp[List.getElem?_replicate,hx]);refine⟨PK f n n,D,⟨by simp[PK],λj g=>?_,λj g=>(E j g).2⟩,?_⟩
 .have N:j*n+n<=n*n:=by
   have:=XD n (show j+1<=n from g)
   rwa [XB,Nat.one_mul]at this
  grind[PK]
 .unfold OU;have V:i64.wrap ((n:Int)*(n:Int))=((n*n:Nat):Int):=by
   rw[show(n:Int)*(n:Int)=((n*n:Nat):Int)by push_cast;rfl];exact Qt (by omega) (by omega)
  simp only[V];refine Ea (zK bN (n*n) (Nat.mul_pos u u) n q rfl) ?_;refine Ea M.ev ?_;unfold MR;rw[Int.toNat_natCast,QV (by rw[T];exact XU _)];exact Qa _
theorem vR{n:Nat}{es:AA Edge}(h:CT n es):
  (∃φ far D,D1 es φ/\F_ es n far D/\Ev (λm=>J9 m ⟨(n:Int),es⟩) (far,[],0))\/
  ((¬ ∃φ,D1 es φ)/\ ∃cyc,cyc≠[]/\AI cyc<=n/\(∀c∈cyc,∃j,j<AI es/\c=((j:Nat):Int))/\G1 es cyc<0/\Ev (λm=>J9 m ⟨(n:Int),es⟩) ([],cyc,151)):=by
 unfold J9;rcases Qef h with⟨⟨φ,hφ⟩,e⟩|⟨f,cyc,c1,a,k,i,e⟩
 .obtain⟨far,D,g,d⟩:=uG h hφ;refine .inl ⟨φ,far,D,hφ,g,Ea (rk h) ?_⟩;refine Qy (Ea e ?_);exact Ea d (Qa _)
 .refine .inr ⟨f,cyc,c1,a,k,i,Ea (rk h) ?_⟩;refine Qy (Ea e ?_);have:0<AI cyc:=List.length_pos_iff.2 c1;rw[QV (show(0:Int)<(AI cyc:Int)by omega)];exact Qa _
set_option maxRecDepth 10000
theorem nU{f:Bm}(h:B0 f=AE):It f=AE/\Dy f=AE/\F2 f=f:=by
 simp_all[fe,rE]
theorem Qkc{f:Bm}(h:B0 f=AE)(k:f.AN=2):0<=f.Az.AT/\f.Az.AT<=255:=by
 obtain⟨_,a,_⟩:=nU h
 simp_all[Dy,Rp]
structure Ps (b:AO):Prop where
 ep:0<=b.AT/\b.AT<=255
 lo: -1099511627776<=b.Av/\b.Av<=1099511627776
 tr: -1099511627776<=b.True/\b.True<=1099511627776
 er:0<=b.BX/\b.BX<=1099511627776
theorem Y4{f:Bm}(h:B0 f=AE)(k:f.AN=3):Ps f.AO:=by
 obtain⟨_,d,_⟩:=nU h;unfold Dy at d;rw[k]at d;have a:(AE&&(nb f.AO.Ag 0 39&&(nb f.AO.AT 0 255&&(nb f.AO.Av (-1099511627776) 1099511627776&&(nb f.AO.True (-1099511627776) 1099511627776&&(nb f.AO.BX 0 1099511627776&&AE))))))=true:=d;simp only[XX,Rp]at a;exact⟨a.2.2.1,a.2.2.2.1,a.2.2.2.2.1,a.2.2.2.2.2.1⟩
structure PD (b:AV):Prop where
 ea:0<=b.A2/\b.A2<=255
 la: -1099511627776<=b.A1/\b.A1<=1099511627776
 eb:0<=b.A3/\b.A3<=255
 lb: -1099511627776<=b.Ay/\b.Ay<=1099511627776
 mi: -1099511627776<=b.BQ/\b.BQ<=1099511627776
 ma: -1099511627776<=b.BO/\b.BO<=1099511627776
theorem bB{f:Bm}(h:B0 f=AE)(k:f.AN=4):PD f.AV:=by
 obtain⟨_,d,_⟩:=nU h;unfold Dy at d;rw[k]at d;have a:(AG (f.AV.BQ<=f.AV.BO)&&(nb f.AV.BE 0 39&&(nb f.AV.A2 0 255&&(nb f.AV.A1 (-1099511627776) 1099511627776&&(nb f.AV.BF 0 39&&(nb f.AV.A3 0 255&&(nb f.AV.Ay (-1099511627776) 1099511627776&&(nb f.AV.BQ (-1099511627776) 1099511627776&&(nb f.AV.BO (-1099511627776) 1099511627776&&AE)))))))))=true:=d;simp only[XX,Rp]at a;exact⟨a.2.2.1,a.2.2.2.1,a.2.2.2.2.2.1,a.2.2.2.2.2.2.1,a.2.2.2.2.2.2.2.1,a.2.2.2.2.2.2.2.2.1⟩
theorem M4{l:AA Bm}{k:Int}{f:Bm}(h:f∈CS l k):f∈l/\B0 f=AE/\f.AN=k:=by
 grind[CS,mx]
structure DU (c:Bl):Prop where
 mats:AI c.Ar<=40
 res:0<=c.Ak.A6/\c.Ak.A6<=4294967296
 drift:0<=c.Ak.BM/\c.Ak.BM<=100000
def C8(x k:Int):Int:=Int.tdiv ((if x<0-x then 0-x else x)*k+1000000-1) 1000000
theorem aI{x k:Int}(g: -2199023255552<=x/\x<=2199023255552)(d:0<=k/\k<=100000):0<=C8 x k/\C8 x k<=274877906944/\0<=(if x<0-x then 0-x else x)*k/\(if x<0-x then 0-x else x)*k<=219902325555200000:=by
 generalize ha:(if x<0-x then 0-x else x)=a;have f:0<=a:=by omega
 have e:a<=2199023255552:=by omega
 have h:0<=a*k:=Int.mul_nonneg f d.1;have i:a*k<=2199023255552*100000:=Int.le_trans (Int.mul_le_mul_of_nonneg_right e d.1) (by omega)
 grind[C8]
theorem xn{x k:Int}(d: -2199023255552<=x/\x<=2199023255552)(a:0<=k/\k<=100000):Ev (λn=>Ni n x k) (C8 x k,0):=by
 obtain⟨j,e,f,g⟩:=aI d a;unfold Ni;refine Ea (v:=AD) ?_ ?_
 .grind[Qa]
 .have h:i64.wrap (0-x)=0-x:=Qt (by omega) (by omega);have w1:=Qt (n:=(if x<0-x then 0-x else x)*k) (by omega) (by omega);have w2:=Qt (n:=(if x<0-x then 0-x else x)*k+1000000) (by omega) (by omega);have w3:=Qt (n:=(if x<0-x then 0-x else x)*k+1000000-1) (by omega) (by omega);have i:=Qt (n:=C8 x k) (by omega) (by omega)
  simp_all[C8,Qa]
def Dx(c:Bl)(k:Int)(s:Bk)(loc:Int):CA:=
 bif k != 1 then⟨0-C8 (loc-s.As) c.Ak.BM,c.Ak.A6+C8 (loc-s.As) c.Ak.BM⟩else⟨0,c.Ak.A6⟩
def HN(x:Int):Prop:= -1099511627776<=x/\x<=1099511627776
theorem lP{c:Bl}(d:DU c)(k:Int){s:Bk}{a:Int}(f:HN s.As)(e:HN a): -274877906944<=(Dx c k s a).Lo/\(Dx c k s a).Lo<=0/\0<=(Dx c k s a).Hi/\(Dx c k s a).Hi<=279172874240:=by
 obtain⟨i,h⟩:=d.res;obtain⟨j,g,_,_⟩:=aI (x:=a-s.As) (by unfold HN at f e;omega) d.drift;unfold Dx
 grind
theorem lS{c:Bl}(d:DU c){i:Nat}{m:Ag}(g:c.Ar[i]?=AC m){s:Bk}(f:s.Ag=(i:Int)){a:Int}(j:HN s.As)(h:HN a):Ev (λn=>IW n c s a) (Dx c m.AN s a):=by
 obtain⟨p,l⟩:=d.res;have e: -2199023255552<=a-s.As/\a-s.As<=2199023255552:=by unfold HN at j h;omega
 obtain⟨q,k,_,_⟩:=aI e d.drift;unfold IW Dx;simp only[f,Qi g,XK];cases m.AN != 1 with
 |false=>exact Qa _
 |true=>
  simp only[Vq];refine Ea (v:=⟨0-C8 (a-s.As) c.Ak.BM,c.Ak.A6+C8 (a-s.As) c.Ak.BM⟩) ?_ (Qa _);rw[Qt (n:=a-s.As) (by omega) (by omega)];refine Ea (xn e d.drift) ?_
  grind[Qt,Qa]
def Cp(c:Bl)(x:Int):Bool:=AG (0<=x)&&AG (x<(AI c.Ar:Int))
theorem UR(c:Bl)(x:Int):Ev (λn=>M7 n c x) (Cp c x):=by
 simp_all[M7,Cp,Ej,Qa]
theorem UA{c:Bl}{x:Int}(h:Cp c x=AE):∃i m,x=((i:Nat):Int)/\c.Ar[i]?=AC m:=by
 unfold Cp at h;simp only[XX,Vs]at h;exact⟨x.toNat,c.Ar[x.toNat]'(by omega),by omega,(by simp)⟩
def C7(c:Bl)(x:Int):Bool:=Cp c x&&(match c.Ar[x.toNat]? with|some m=>m.AN != 1|none=>AD)
abbrev GY:=AA (Ua×Bool)
abbrev G9:=AA (Ua×Int)
def Dr(c:Bl)(m:GY)(x e:Int):GY:=bif C7 c x then Yp m ⟨x,e⟩ AE else m
theorem eV(c:Bl)(m:GY)(x e:Int):Ev (λn=>Ib n x e c m) (Dr c m x e):=by
 unfold Ib Dr;refine Ea (v:=C7 c x) ?_ ?_
 .unfold C7;refine Ea (UR c x) ?_;cases q:Cp c x with
  |false=>exact Qa _
  |true=>
   obtain⟨i,m,rfl,a⟩:=UA q
   simp_all[Qi,Qa]
 .cases C7 c x<;>exact Qa _
def Kj(c:Bl)(m:GY)(f:Bm):GY:=Dr c m f.Az.Ag f.Az.AT
def Kh(c:Bl)(m:GY)(f:Bm):GY:=Dr c (Dr c m f.AV.BE f.AV.A2) f.AV.BF f.AV.A3
def I7(c:Bl)(a:GY×G9)(f:Bm):GY×G9:=(Dr c a.1 f.AO.Ag f.AO.AT,bif !G6 a.2 (⟨f.AO.Ag,f.AO.AT⟩:Ua)then Yp a.2 ⟨f.AO.Ag,f.AO.AT⟩ f.AO.Av else a.2)
def DW(c:Bl)(l:AA Bm):GY×G9:=(CS l 3).foldl (I7 c) ((CS l 4).foldl (Kh c) ((CS l 2).foldl (Kj c) []),[])
structure F9 (c:Bl) (k:Nat) (m:GY):Prop where
 nodup:(m.map (·.1)).Nodup
 ok:∀p∈m.map (·.1),C7 c p.mat=AE/\0<=p.epoch/\p.epoch<=255
 len:AI m<=k
theorem zw{α β:Type}[DecidableEq α](m:AA (α×β))(k:α)(v:β)(h:(m.map (·.1)).Nodup):((Yp m k v).map (·.1)).Nodup/\(∀p∈(Yp m k v).map (·.1),p=k\/p∈m.map (·.1))/\AI (Yp m k v)<=AI m+1:=by
 have e:=nA m k v;have a:=congrArg List.length e
 grind
theorem ef{c:Bl}{k:Nat}{m:GY}(h:F9 c k m)(x:Int){e:Int}(he:0<=e/\e<=255):F9 c (k+1) (Dr c m x e):=by
 unfold Dr;cases q:C7 c x with
 |false=>exact⟨h.nodup,h.ok,by have:=h.len;grind⟩
 |true=>
  simp only[Vq];obtain⟨f,d,g⟩:=zw m (⟨x,e⟩:Ua) AE h.nodup;refine⟨f,λp a=>?_,by have:=h.len;omega⟩;rcases d p a with rfl|a
  .grind
  .exact h.ok p a
def L5(m:G9):Prop:=∀p v,Je m p=AC v->HN v
theorem fG{α β:Type}(g:β->α->β)(I:β->Nat->Prop)(w:Nat):∀(l:AA α) (b:β) (k:Nat),I b k->(∀x∈l,∀b k,I b k->I (g b x) (k+w))->I (l.foldl g b) (k+w*AI l)
 |[],b,k,h,_=>by simpa using h
 |x::l,b,k,h,q=>by
  have:=fG g I w l (g b x) (k+w) (q x (by simp) b k h) (by grind)
  grind
theorem ew(c:Bl)(l:AA Bm):F9 c (AI (CS l 2)+2*AI (CS l 4)+AI (CS l 3)) (DW c l).1/\L5 (DW c l).2:=by
 have r:F9 c (0+1*AI (CS l 2)) ((CS l 2).foldl (Kj c) []):=fG (Kj c) (λm k=>F9 c k m) 1 _ _ _ ⟨by simp,(by simp),by simp⟩ λf g m k h=>by
  obtain⟨_,i,d⟩:=M4 g;exact ef h _ (Qkc i d)
 have q:=fG (Kh c) (λm k=>F9 c k m) 2 (CS l 4) _ _ r λf g m k h=>by
  obtain⟨_,i,d⟩:=M4 g;have s:=bB i d;exact ef (ef h _ s.ea) _ s.eb
 have n:=fG (I7 c) (λa k=>F9 c k a.1/\L5 a.2) 1 (CS l 3) (_,[]) _ ⟨q,(λp v h=>by simp[Je]at h)⟩ λf g a k h=>by
  obtain⟨_,i,d⟩:=M4 g;have s:=Y4 i d;refine⟨ef h.1 _ s.ep,?_⟩;show L5 (bif !G6 a.2 _ then Yp a.2 _ _ else a.2);cases G6 a.2 (⟨f.AO.Ag,f.AO.AT⟩:Ua)with
  |true=>exact h.2
  |false=>
   simp only[Xh,Vq];intro p v j;rw[aM]at j;split at j
   .cases j;exact s.lo
   .exact h.2 p v j
 have e:0+1*AI (CS l 2)+2*AI (CS l 4)+1*AI (CS l 3)=AI (CS l 2)+2*AI (CS l 4)+AI (CS l 3):=by omega
 rw[e]at n;exact n
theorem qb(l:AA Bm):AI (CS l 2)+2*AI (CS l 4)+AI (CS l 3)<=2*AI l:=by
 have a:∀m:AA Bm,AI (m.filter λf=>f.AN==2)+2*AI (m.filter λf=>f.AN==4)+AI (m.filter λf=>f.AN==3)<=2*AI m:=by
  intro m
  induction m with
  |nil=>simp
  |cons f m d=>
   grind
 grind[f7,CS]
def DG(a:G9)(p:Ua×Bool):Bk:=⟨p.1.mat,p.1.epoch,QM a p.1 0⟩
def B2(c:Bl)(l:AA Bm):AA Bk:=I0 (Ik CU) ((DW c l).1.map (DG (DW c l).2))
set_option maxRecDepth 10000
theorem Mu:DC CU:=by
 have h:=ff (FO.on λx:Bk=>x.Ag) (FO.on λx:Bk=>x.AT);have e:CU=λx y:Bk=>bif CV x.Ag y.Ag != 0 then CV x.Ag y.Ag else CV x.AT y.AT:=by
  funext x y
  show(bif CV x.Ag y.Ag != 0 then CV x.Ag y.Ag else(bif CV x.AT y.AT != 0 then CV x.AT y.AT else 0))=_
  grind
 grind
theorem nK{x y:Bk}(h:CU x y=0):x.Ag=y.Ag/\x.AT=y.AT:=by
 unfold CU H6 at h;cases q:CV x.Ag y.Ag != 0 with
 |true=>grind
 |false=>
  rw[q]at h;have d:CV x.Ag y.Ag=0:=by simpa using q
  simp only[Vr,H6]at h;cases a:CV x.AT y.AT != 0 with
  |true=>grind
  |false=>
   grind[CV]
theorem tG{a:G9}{p q:Ua×Bool}(h:CU (DG a p) (DG a q)=0):DG a p=DG a q:=by
 obtain⟨i,f⟩:=nK h;have e:p.1=q.1:=by
  obtain⟨⟨g,j⟩,d⟩:=p
  simp_all[DG]
 unfold DG;rw[e]
theorem sj(n:Nat)(m:GY×G9):∀(p:GY) (s:AA Bk),AI s+AI p<=1048576->KW (LG n m) (NE n) s p=AC (s++p.map (DG m.2))
 |[],s,h=>by unfold KW NE;simp
 |e::p,s,h=>by
  rw[X2]at h;have h1:LG n m s e=AC (.k (s++[DG m.2 e])):=by
   unfold LG;simp only[XK];rw[Rv _ _ (by omega)];rfl
  unfold KW;rw[h1];show KW _ _ (s++[DG m.2 e]) p=_;rw[sj n m p _ (by simp;omega)];simp
theorem yX{m:GY×G9}{p:GY}(h:p.Perm m.1):I0 (Ik CU) (p.map (DG m.2))=I0 (Ik CU) (m.1.map (DG m.2)):=by
 refine f5 (lt:=Ik CU) ((Q2 _ _).trans ((h.map _).trans (Q2 _ _).symm)) (λx f y g d e=>?_) (YM (UH Mu _)) (YM (UH Mu _));have d:=Vw d;have e:=Vw e;obtain⟨a,_,rfl⟩:=Xe.1 ((Q2 _ _).mem_iff.1 f);obtain⟨b,_,rfl⟩:=Xe.1 ((Q2 _ _).mem_iff.1 g);refine tG ?_;have:=Mu.swap (DG m.2 a) (DG m.2 b);omega
theorem Qiq{c:Bl}{l:AA Bm}{e:Int}(he:Ev (λn=>I2 n c) e)(a:e≠0):Ev (λn=>Hz n c l) ([],e):=by
 unfold Hz;refine Ea he ?_
 grind[Qa]
theorem tp{c:Bl}{l:AA Bm}(he:Ev (λn=>I2 n c) 0)(s:AI l<=100):Ev (λn=>Hz n c l) (B2 c l,0):=by
 obtain⟨i,_⟩:=ew c l;have j:=qb l;have r:(DW c l).1.length<=200:=XW i.len (by omega);unfold Hz;refine Ea he (Qy ?_);simp only[Ph,XK];refine Ea (a_ l 2 (by omega)) ?_;refine Ea (UM (Kj c) (λ_ _=>True) (CS l 2) [] trivial λf _ m k _=>⟨?_,trivial⟩).1 ?_
 .unfold bL;exact Ea (eV c m _ _) (Qa _)
 refine Ea (a_ l 4 (by omega)) ?_;refine Ea (UM (Kh c) (λ_ _=>True) (CS l 4) _ trivial λf _ m k _=>⟨?_,trivial⟩).1 ?_
 .unfold bR;exact Ea (eV c m _ _) (Ea (eV c _ _ _) (Qa _))
 refine Ea (a_ l 3 (by omega)) ?_;refine Ea (UM (I7 c) (λ_ _=>True) (CS l 3) (_,[]) trivial λf _ a k _=>⟨?_,trivial⟩).1 ?_
 .unfold bM I7;refine Ea (eV c a.1 _ _) ?_
  grind[Qa]
 show Ev (λn=>bif 511<((DW c l).1.length:Int) then AC ([],2)else anyP (λp=>(KW (LG n (DW c l)) (NE n) [] p).bind λb=>(Ky (λx y=>IS n x y) b).bind λl=>AC (l,0)) (DW c l).1) (B2 c l,0);rw[Q4 (show¬(511<((DW c l).1.length:Int))by omega)];refine Qy (Ev.anyP λp d=>?_);have q:=d.length_eq;simp only[sj _ (DW c l) p [] (by simp;omega),Vi,XK];refine Ea (pg (by grind) (λx _ y _=>tw x y) Mu λx h y g e=>?_) ?_
 .obtain⟨a,_,rfl⟩:=Xe.1 h;obtain⟨b,_,rfl⟩:=Xe.1 g;exact tG e
 .rw[yX d];exact Qa _
structure Fl (c:Bl) (s:Bk):Prop where
 pl:C7 c s.Ag=AE
 ep:0<=s.AT/\s.AT<=255
 an:HN s.As
theorem lM{c:Bl}{l:AA Bm}{s:Bk}(h:s∈B2 c l):Fl c s:=by
 obtain⟨f,a⟩:=ew c l;obtain⟨p,g,rfl⟩:=Xe.1 ((Q2 _ _).mem_iff.1 h);obtain⟨e,d⟩:=f.ok p.1 (by grind);refine⟨e,d,?_⟩;show HN (QM (DW c l).2 p.1 0);unfold QM;cases q:Je (DW c l).2 p.1 with
 |none=>exact⟨by decide,by decide⟩
 |some v=>exact a _ _ q
theorem fB(c:Bl)(l:AA Bm):AI (B2 c l)<=2*AI l:=by
 obtain⟨a,_⟩:=ew c l;have h:AI (B2 c l)=(DW c l).1.length:=by
  unfold B2;rw[(Q2 _ _).length_eq,X3]
 have:=qb l;have:=a.len;omega
theorem pU(c:Bl)(l:AA Bm):(B2 c l).Pairwise λx y=>CU x y<0:=by
 obtain⟨d,_⟩:=ew c l;have s:(B2 c l).Pairwise λx y=>Ik CU y x=false:=YM (UH Mu _);have nd:((B2 c l).map λs=>(⟨s.Ag,s.AT⟩:Ua)).Nodup:=by
  have p:=(Q2 (Ik CU) ((DW c l).1.map (DG (DW c l).2))).map λs:Bk=>(⟨s.Ag,s.AT⟩:Ua);refine p.nodup_iff.2 ?_;rw[List.map_map];exact d.nodup
 unfold List.Nodup at nd;rw[List.pairwise_map]at nd;refine List.Pairwise.imp₂ (λx y a e=>?_) s nd;have a:=Vw a;have f:=Mu.swap x y;refine Classical.byContradiction λq=>e ?_
 grind[nK]
def place(s:Bk):Ua:=⟨s.Ag,s.AT⟩
def G2:AA Bk->Nat->G9->G9
 |[],_,m=>m
 |x::r,i,m=>G2 r (i+1) (Yp m (place x) ((i+1:Nat):Int))
def Ck:AA Bk->Nat->AA Edge
 |[],_=>[]
 |_::r,i=>⟨0,((i+1:Nat):Int),1099511627776⟩::⟨((i+1:Nat):Int),0,1099511627776⟩::Ck r (i+1)
def Hg(S:AA Bk):G9:=G2 S 0 []
def Kn(S:AA Bk)(k:Nat)(m:G9):Prop:=∀p v,Je m p=AC v->∃j s,v=((j+1:Nat):Int)/\j<k/\S[j]?=AC s/\place s=p
theorem py(S:AA Bk):∀(r:AA Bk) (i:Nat) (m:G9),S.drop i=r->i<=AI S->Kn S i m->Kn S (AI S) (G2 r i m)
 |[],i,m,h,hi,q=>λp v hp=>by
  obtain⟨j,s,a,b,d⟩:=q p v hp
  grind
 |x::r,i,m,h,hi,q=>by
  obtain⟨hx,hr,hlt⟩:=ld h;refine py S r (i+1) _ hr hlt λp v hp=>?_;rw[aM]at hp;split at hp
  .grind
  .obtain⟨j,s,a,b,d⟩:=q p v hp
   grind
theorem pz(S:AA Bk):Kn S (AI S) (Hg S):=py S S 0 [] rfl (XV _) λp v h=>by simp[Je]at h
theorem fW:∀(r:AA Bk) (i:Nat),AI (Ck r i)=2*AI r
 |[],_=>rfl
 |_::r,i=>by simp only[Ck,X2,fW r];omega
theorem sV:∀(r:AA Bk) (i j:Nat),j<AI r->(⟨0,((i+j+1:Nat):Int),1099511627776⟩:Edge)∈Ck r i/\(⟨((i+j+1:Nat):Int),0,1099511627776⟩:Edge)∈Ck r i
 |_::r,i,0,_=>by simp[Ck]
 |_::r,i,j+1,h=>by
  obtain⟨a,b⟩:=sV r (i+1) j (by simpa using h);rw[show i+1+j+1=i+(j+1)+1 by omega]at a b;exact⟨X6 _ (by grind),X6 _ (by grind)⟩
theorem rA:∀(r:AA Bk) (i n:Nat),i+AI r<n->∀x∈Ck r i,HH n x
 |[],_,_,_,x,h=>by cases h
 |_::r,i,n,hn,x,h=>by
  simp only[X2]at hn;simp only[Ck,X7]at h;rcases h with rfl|rfl|h
  .exact⟨by simp,by simp;omega,by simp;omega,by simp;omega,by simp,by simp⟩
  .exact⟨by simp;omega,by simp;omega,by simp,by simp;omega,by simp,by simp⟩
  .exact rA r (i+1) n (by omega) x h
theorem qG(r1:AA Bk×Int)(hl:AI r1.1<=1000):∀(r:AA Bk) (i:Nat) (m:G9) (es:AA Edge),r1.1.drop i=r->i<=AI r1.1->AI es<=2*i->
  Cc (λn=>M_ n r1) (m,es,(i:Int)) (G2 r i m,es++Ck r i)
 |[],i,m,es,h,hi,he=>by
  refine Ek ?_;unfold M_;simp only[QN h hi,Vr,G2,Ck,Vh];exact Qa _
 |x::r,i,m,es,h,hi,he=>by
  obtain⟨ha,hr⟩:=Qx (by omega) h;have hlt:=ha.lt';have q:=qG r1 hl r (i+1) (Yp m (place x) ((i+1:Nat):Int)) (es++[⟨0,((i+1:Nat):Int),1099511627776⟩,⟨((i+1:Nat):Int),0,1099511627776⟩]) hr (by omega) (by simp;omega);rw[Vj]at q;refine Ez ?_ q;unfold M_ IT;simp only[ha.lt,Vq,ha.ix,XK,ha.nx];rw[show i64.wrap (0- -1099511627776)=1099511627776 by decide,Pe _ _ (by simp;omega)];exact Qa _
def Dj(S:AA Bk)(v mat ep:Int):Bk:=bif 0<v then(S[(v-1).toNat]?).getD ⟨mat,ep,0⟩else⟨mat,ep,0⟩
def Fj(c:Bl)(x:Int):Int:=match c.Ar[x.toNat]? with|some m=>m.AN|none=>0
def DD(c:Bl)(S:AA Bk)(mat ep loc:Int):Int×CA:=
 let v:=QM (Hg S) (⟨mat,ep⟩:Ua) 0
 let y:=Dj S v mat ep
 (v,⟨loc+(Dx c (Fj c y.Ag) y loc).Lo,loc+(Dx c (Fj c y.Ag) y loc).Hi⟩)
theorem UC{c:Bl}(p:DU c){S:AA Bk}(G:∀s∈S,Fl c s)(Q:AI S<=1000){a ep d:Int}(H:Cp c a=AE)(g:HN d):
  Ev (λn=>KD n a ep d S c (Hg S)) (DD c S a ep d)/\(0<=(DD c S a ep d).1/\(DD c S a ep d).1<=(AI S:Int))/\
  (-1374389534720<=(DD c S a ep d).2.Lo/\(DD c S a ep d).2.Lo<=1099511627776)/\(-1099511627776<=(DD c S a ep d).2.Hi/\(DD c S a ep d).2.Hi<=1378684502016):=by
 have F:=pz S;generalize hv:QM (Hg S) (⟨a,ep⟩:Ua) 0=v;have h:(0<=v/\v<=(AI S:Int))/\(bif 0<v then(Bt S (i64.wrap (v-1))).bind λx=>AC x else AC (⟨a,ep,0⟩:Bk))=AC (Dj S v a ep)/\HN (Dj S v a ep).As/\ ∃i m,(Dj S v a ep).Ag=((i:Nat):Int)/\c.Ar[i]?=AC m:=by
  unfold QM at hv;cases q:Je (Hg S) (⟨a,ep⟩:Ua)with
  |none=>
   rw[q]at hv;have:v=0:=hv.symm;subst this;obtain⟨i,m,y,k⟩:=UA H;exact⟨(by omega),rfl,⟨show(-1099511627776:Int)<=0 by decide,show(0:Int)<=1099511627776 by decide⟩,i,m,y,k⟩
  |some w=>
   rw[q]at hv;have:w=v:=hv;subst this;obtain⟨j,s,rfl,k,t,P⟩:=F _ _ q;have l:=G s (VH t);have e:Dj S ((j+1:Nat):Int) a ep=s:=by
    simp_all[Dj]
   rw[e];refine⟨(by omega),?_,l.an,UA (by have:=l.pl;simp_all[C7])⟩;rw[QV (by omega),Vq,Qt (by omega) (by omega),show((j+1:Nat):Int)-1=(j:Int)by omega,Qi t];rfl
 obtain⟨E,z,r,i,m,B,u⟩:=h;have N:Fj c (Dj S v a ep).Ag=m.AN:=by unfold Fj;grind
 have e:DD c S a ep d=(v,⟨d+(Dx c m.AN (Dj S v a ep) d).Lo,d+(Dx c m.AN (Dj S v a ep) d).Hi⟩):=by
  unfold DD
  grind
 obtain⟨O,L,M,J⟩:=lP p m.AN r g;have f:=g;unfold HN at f;rw[e];refine⟨?_,E,(by grind),(by grind)⟩;unfold KD;simp only[hv,XK];rw[z];refine Ea (Qa _) (Ea (lS p u B r g) ?_)
 grind[Qt,Qa]
def Dh(c:Bl)(S:AA Bk)(b:AO):AA Edge:=
 bif Cp c b.Ag then[⟨0,(DD c S b.Ag b.AT b.Av).1,b.True+b.BX-(DD c S b.Ag b.AT b.Av).2.Lo⟩,⟨(DD c S b.Ag b.AT b.Av).1,0,0-(b.True-b.BX-(DD c S b.Ag b.AT b.Av).2.Hi)⟩]else[]
def FD(c:Bl)(S:AA Bk)(y:AV):AA Edge:=
 bif Cp c y.BE&&Cp c y.BF then[⟨(DD c S y.BE y.A2 y.A1).1,(DD c S y.BF y.A3 y.Ay).1,y.BO-(DD c S y.BF y.A3 y.Ay).2.Lo+(DD c S y.BE y.A2 y.A1).2.Hi⟩,
  ⟨(DD c S y.BF y.A3 y.Ay).1,(DD c S y.BE y.A2 y.A1).1,0-(y.BQ-(DD c S y.BF y.A3 y.Ay).2.Hi+(DD c S y.BE y.A2 y.A1).2.Lo)⟩]else[]
def Cv(c:Bl)(S:AA Bk)(l:AA Bm):AA Edge:=Ck S 0++((CS l 3).flatMap (λf=>Dh c S f.AO)++(CS l 4).flatMap (λf=>FD c S f.AV))
theorem Z8{c:Bl}(f:DU c){S:AA Bk}(g:∀s∈S,Fl c s)(e:AI S<=1000){b:AO}(a:Ps b):(∀x∈Dh c S b,HH (AI S+1) x)/\AI (Dh c S b)<=2:=by
 unfold Dh;cases q:Cp c b.Ag with
 |false=>simp
 |true=>
  obtain⟨_,⟨v0,h⟩,⟨r,n⟩,j,p⟩:=UC f g e (ep:=b.AT) q a.lo;obtain⟨m,i⟩:=a.tr;obtain⟨l,k⟩:=a.er;refine⟨λx d=>?_,by simp⟩;simp only[Vq,X7,List.not_mem_nil,or_false]at d;rcases d with rfl|rfl
  .exact⟨Int.le_refl _,by simp,v0,by grind,by grind,by grind⟩
  .exact⟨v0,by grind,Int.le_refl _,by simp,by grind,by grind⟩
theorem mG{c:Bl}(f:DU c){S:AA Bk}(h:∀s∈S,Fl c s)(g:AI S<=1000){y:AV}(a:PD y):(∀x∈FD c S y,HH (AI S+1) x)/\AI (FD c S y)<=2:=by
 unfold FD;cases q:Cp c y.BE&&Cp c y.BF with
 |false=>simp
 |true=>
  rw[XX]at q;obtain⟨_,⟨v0,t⟩,⟨r,E⟩,u,n⟩:=UC f h g (ep:=y.A2) q.1 a.la;obtain⟨_,⟨d,j⟩,⟨p,k⟩,m,w⟩:=UC f h g (ep:=y.A3) q.2 a.lb;obtain⟨l,i⟩:=a.mi;obtain⟨B,z⟩:=a.ma;refine⟨λx e=>?_,by simp⟩;simp only[Vq,X7,List.not_mem_nil,or_false]at e;rcases e with rfl|rfl
  .exact⟨v0,by grind,d,by grind,by grind,by grind⟩
  .exact⟨d,by grind,v0,by grind,by grind,by grind⟩
theorem nN{α β:Type}(f:α->AA β):∀(l:AA α) (a:AA β),l.foldl (λa x=>a++f x) a=a++l.flatMap f
 |[],a=>by simp
 |x::l,a=>by rw[XE,nN f l];simp
theorem mz{α β:Type}{f:α->AA β}{l:AA α}(h:∀x∈l,AI (f x)<=2):AI (l.flatMap f)<=2*AI l:=by
 induction l with
 |nil=>simp
 |cons x l a=>
  grind
theorem fT{c:Bl}(j:DU c)(l:AA Bm)(r:AI l<=15):CT (AI (B2 c l)+1) (Cv c (B2 c l) l):=by
 have n:=fB c l;have i:AI (B2 c l)<=1000:=by omega
 have k:∀s∈B2 c l,Fl c s:=λs h=>lM h;have t:=UD l 3;have q:=UD l 4;have p:∀f∈CS l 3,(∀x∈Dh c (B2 c l) f.AO,HH (AI (B2 c l)+1) x)/\AI (Dh c (B2 c l) f.AO)<=2:=λf a=>by
  obtain⟨_,g,d⟩:=M4 a;exact Z8 j k i (Y4 g d)
 have m:∀f∈CS l 4,(∀x∈FD c (B2 c l) f.AV,HH (AI (B2 c l)+1) x)/\AI (FD c (B2 c l) f.AV)<=2:=λf a=>by
  obtain⟨_,g,d⟩:=M4 a;exact mG j k i (bB g d)
 refine⟨by omega,by omega,?_,λx e=>?_⟩
 .grind[mz,fW,Cv]
 .unfold Cv at e;simp only[VD,List.mem_flatMap]at e;rcases e with h|⟨f,a,h⟩|⟨f,a,h⟩
  .exact rA _ 0 _ (by omega) x h
  .grind
  grind
theorem QkS{c:Bl}{l:AA Bm}{e:Int}(he:Ev (λn=>I2 n c) e)(a:e≠0):Ev (λn=>IR n c l) (0,[],e):=by
 unfold IR;refine Ea (Qiq he a) ?_
 grind[Qa]
theorem zL{c:Bl}(g:DU c){l:AA Bm}(he:Ev (λn=>I2 n c) 0)(O:AI l<=15):Ev (λn=>IR n c l) (((AI (B2 c l)+1:Nat):Int),Cv c (B2 c l) l,0):=by
 have s1:=fB c l;have i:AI (B2 c l)<=1000:=by omega
 have j:∀s∈B2 c l,Fl c s:=λs h=>lM h;have V:=UD l 3;have Q:=UD l 4;have X:=(fT g l O).e1;unfold IR;refine Ea (tp he (by omega)) (Qy ?_);have x:=(qG (B2 c l,0) i (B2 c l) 0 [] [] rfl (XV _) (by simp)).ev;refine Ea x ?_;simp only[Ph,XK,Vi];refine Ea (a_ l 3 (by omega)) ?_;have b0:AI (Ck (B2 c l) 0)<=1000:=by rw[fW];omega
 obtain⟨B,r⟩:=UM (step:=λn=>SP n c (B2 c l,0) (G2 (B2 c l) 0 [],Ck (B2 c l) 0)) (λd (f:Bm)=>d++Dh c (B2 c l) f.AO) (λd k=>AI d+2*k<=2000) (CS l 3) (Ck (B2 c l) 0) (by omega) λf m d k w=>by
  obtain⟨_,p,e⟩:=M4 m;have a:=Y4 p e;obtain⟨_,N⟩:=Z8 g j i a;refine⟨?_,by grind⟩;unfold SP Dh;refine Ea (UR c _) ?_;cases q:Cp c f.AO.Ag with
  |false=>simp_all[Qa]
  |true=>
   obtain⟨t,⟨v0,M⟩,⟨L,u⟩,G,E⟩:=UC g j i (ep:=f.AO.AT) q a.lo;obtain⟨z,y⟩:=a.tr;obtain⟨H,e1⟩:=a.er;simp only[Vq];refine Ea (Ea t (Ea ?_ (Qa _))) (Qa _)
   grind[IT,Qt,Pe,Qa]
 refine Ea B ?_;rw[nN]at r⊢;refine Ea (a_ l 4 (by omega)) ?_;have W:=mz (l:=CS l 3) (f:=λf:Bm=>Dh c (B2 c l) f.AO) λf m=>by
  obtain⟨_,p,w⟩:=M4 m
  grind[Z8,Y4]
 generalize hE1:Ck (B2 c l) 0++(CS l 3).flatMap (λf=>Dh c (B2 c l) f.AO)=E1;have u:AI E1<=1100:=by grind
 obtain⟨F,J⟩:=UM (step:=λn=>SU n c (B2 c l,0) (G2 (B2 c l) 0 [],Ck (B2 c l) 0)) (λd (f:Bm)=>d++FD c (B2 c l) f.AV) (λd k=>AI d+2*k<=2000) (CS l 4) E1 (by omega) λf m d k w=>by
  obtain⟨_,p,e⟩:=M4 m;have a:=bB p e;obtain⟨_,N⟩:=mG g j i a;refine⟨?_,by grind⟩;unfold SU FD;refine Ea (v:=Cp c f.AV.BE&&Cp c f.AV.BF) ?_ ?_
  .refine Ea (UR c _) ?_;cases Cp c f.AV.BE with
   |false=>exact Qa _
   |true=>exact Ea (UR c _) (Qa _)
  cases q:Cp c f.AV.BE&&Cp c f.AV.BF with
  |false=>simp_all[Qa]
  |true=>
   rw[XX]at q;obtain⟨t,⟨v0,M⟩,⟨L,u⟩,G,E⟩:=UC g j i (ep:=f.AV.A2) q.1 a.la;obtain⟨rf,⟨P,Y⟩,⟨T,l3⟩,R,h3⟩:=UC g j i (ep:=f.AV.A3) q.2 a.lb;obtain⟨z,y⟩:=a.mi;obtain⟨H,e1⟩:=a.ma;simp only[Vq];refine Ea (Ea t (Ea rf (Ea ?_ (Qa _)))) (Qa _)
   grind[IT,Qt,Pe,Qa]
 refine Ea F ?_
 grind[nN,Cv,Qz,Qa]
set_option maxRecDepth 10000
theorem pS{c:Bl}(h:C3 c=0):DU c:=by
 unfold C3 at h;cases a:FM c with
 |false=>grind
 |true=>
  rw[a,Vq]at h;cases e:FX c with
  |false=>grind
  |true=>
   rw[e,Vq]at h;cases d:CY c with
   |false=>grind
   |true=>
    simp only[CY,Iq,CW,XX,Vs]at d;simp only[FM,XX,Bool.not_eq_true',XY,decide_eq_false_iff_not]at a;have l:=d.2.2.2.2.2.2.2.2.2;exact⟨by omega,by omega,by omega⟩
theorem zH{c:Bl}{l:AA Bm}{e:Int}(he:Ev (λn=>I2 n c) e)(a:e≠0):Ev (λn=>Kb n c l) ([],[],e):=by
 unfold Kb;refine Ea (QkS he a) ?_
 grind[Qa]
theorem xi{c:Bl}(e:DU c){l:AA Bm}(he:Ev (λn=>I2 n c) 0)(d:AI l<=15):
  (∃φ far D,D1 (Cv c (B2 c l) l) φ/\F_ (Cv c (B2 c l) l) (AI (B2 c l)+1) far D/\Ev (λn=>Kb n c l) (B2 c l,far,0)/\Ev (λm=>J9 m ⟨((AI (B2 c l)+1:Nat):Int),Cv c (B2 c l) l⟩) (far,[],0))\/
  ((¬ ∃φ,D1 (Cv c (B2 c l) l) φ)/\Ev (λn=>Kb n c l) ([],[],160)):=by
 unfold Kb;have s:=zL e he d;rcases vR (fT e l d)with⟨φ,far,D,i,h,a⟩|⟨g,f,_,_,_,_,a⟩
 .refine .inl ⟨φ,far,D,i,h,Ea s (Qy (Ea a (Qy (Ea (tp he (by omega)) (Qa _))))),a⟩
 .exact .inr ⟨g,Ea s (Qy (Ea a (Qa _)))⟩
theorem zS(l m:AA Int)(hl:AI l<=1048576):Ev (λn=>S3 n l m) (AG (l=m)):=pf l m (λn=>bO n l m) (by omega) λn s=>rfl
theorem QkE(l m:AA Bk)(hl:AI l<=1048576):Ev (λn=>S_ n l m) (AG (l=m)):=pf l m (λn=>bP n l m) (by omega) λn s=>rfl
theorem wS:Sc 300=AC true:=by kernel_rfl
set_option maxRecDepth 10000
theorem UE{es:AA Edge}{x:Edge}(h:x∈es):∃i,i<AI es/\(Br es).F i=x.Ai.toNat/\(Br es).T i=x.To.toNat/\(Br es).W i=x.W:=by
 obtain⟨i,a,e⟩:=List.getElem_of_mem h;exact⟨i,a,T4 (by grind)⟩
theorem lm{es:AA Edge}{i:Nat}(h:i<AI es):∃x∈es,(Br es).F i=x.Ai.toNat/\(Br es).T i=x.To.toNat/\(Br es).W i=x.W:=
 ⟨es[i],Ve h,T4 (by simp)⟩
def GU(es:AA Edge)(n:Nat):Prop:=∀v,0<v->v<n->(⟨0,(v:Int),1099511627776⟩:Edge)∈es/\(⟨(v:Int),0,1099511627776⟩:Edge)∈es
theorem wL(c:Bl)(S:AA Bk)(l:AA Bm):GU (Cv c S l) (AI S+1):=λv h0 hv=>by
 obtain⟨a,b⟩:=sV S 0 (v-1) (by omega);rw[show 0+(v-1)+1=v by omega]at a b;exact⟨List.mem_append_left _ a,List.mem_append_left _ b⟩
structure K2 (es:List Edge) (n:Nat) (D:Nat->Nat->Int):Prop where
 zero:∀j,j<n->D j j=0
 le:∀j v,j<n->v<n->D j v<=2199023255552
 hold:∀j i,j<n->i<AI es->D j ((Br es).T i)<=D j ((Br es).F i)+(Br es).W i
 wk:∀j v,j<n->v<n->Wk (Br es) j v (D j v)
theorem qL{es:AA Edge}{n:Nat}(h:CT n es)(s:GU es n){m:AA (AA Int)}{D:Nat->Nat->Int}(f:F_ es n m D):K2 es n D:=by
 have le:∀j v,j<n->v<n->D j v<=2199023255552/\D j v≠bN:=by
  intro j v a t;have d:=f.d j a;have z:=d.zero;have k:D j 0<=1099511627776:=by
   rcases Nat.eq_zero_or_pos j with e|e
   .grind
   .obtain⟨i,g,l,p,r⟩:=UE (s j e a).2;have:=d.hold i g;rw[l,p,r]at this;simp only[Int.toNat_natCast,Int.toNat_zero]at this;rcases this with q|q
    .rw[q]at z;exact absurd z (by decide)
    .omega
  rcases Nat.eq_zero_or_pos v with e|e
  .subst e;exact⟨by omega,λq=>by rw[q]at k;exact absurd k (by decide)⟩
  .obtain⟨i,g,l,p,r⟩:=UE (s v e t).1;have:=d.hold i g;rw[l,p,r]at this;simp only[Int.toNat_natCast,Int.toNat_zero]at this;rcases this with q|q
   .rw[q]at k;exact absurd k (by decide)
   .exact⟨by omega,λu=>by rw[u]at q;exact absurd (Int.le_trans q (show D j 0+1099511627776<=2199023255552 by omega)) (by decide)⟩
 refine⟨λj a=>(f.d j a).zero,(by grind),λj i a g=>?_,λj v a t=>?_⟩
 .rcases(f.d j a).hold i g with q|q
  .exact absurd q (le j _ a (Rf h i)).2
  .exact q
 .rcases(f.d j a).wk v with q|q
  .grind
  .exact q
theorem K2.tri{es:AA Edge}{n:Nat}{D:Nat->Nat->Int}(h:K2 es n D){i j v:Nat}(hi:i<n)(hj:j<n)(hv:v<n):D i v<=D i j+D j v:=(h.wk j v hj hv).le λk hk=>h.hold i k hi hk
set_option maxRecDepth 10000
def Tb(n:Nat)(T:AA (AA Int))(f:Nat->Nat->Int):Prop:=AI T=n/\ ∀j,j<n->∃r,T[j]?=AC r/\AI r=n/\ ∀v,v<n->r[v]?=AC (f j v)
def L6(f:Nat->Nat->Int)(i k:Nat)(x:Int):Nat->Nat->Int:=λa b=>if a=i/\b=k then x else f a b
theorem Tb.set{n:Nat}{T:AA (AA Int)}{f:Nat->Nat->Int}(h:Tb n T f){i k:Nat}{r:AA Int}(hi:i<n)(d:k<n)(l:T[i]?=AC r)(x:Int):Tb n (T.set i (r.set k x)) (L6 f i k x):=by
 obtain⟨g,e⟩:=h;refine⟨by grind,λj a=>?_⟩
 grind[L6]
theorem ve(n:Nat)(f:n<=1000):Ev (λm=>iter (Nc m (n:Int)) m (List.replicate n 0,0)) (List.replicate n bN):=by
 refine EA (λi=>(List.replicate i bN++List.replicate (n-i) 0,(i:Int))) n (by simp) (λi d=>?_) ?_
 .unfold Nc;have a:i<AI (List.replicate i bN++List.replicate (n-i) (0:Int)):=by simp;omega
  have e:(List.replicate i bN++List.replicate (n-i) (0:Int)).set i 1152921504606846976=List.replicate (i+1) bN++List.replicate (n-(i+1)) 0:=by
   rw[show n-i=n-(i+1)+1 by omega,Xl (n:=n-(i+1)),List.set_append_right _ _ (by simp)];simp[List.replicate_succ',bN]
  simp only[QV (show(i:Int)<(n:Int)by omega),Vq,Qi (XL a),XK,Jd _ _ a,e,Qz (show i<9223372036854775807 by omega)];exact Qa _
 simp_all[Nc,Qa]
def HK(n i:Nat):AA Int:=(List.replicate n bN).set i 0
theorem rJ(n:Nat)(d:n<=1000):Ev (λm=>iter (NH m (n:Int)) m ([],0)) ((List.range n).map (HK n)):=by
 refine EA (λi=>((List.range i).map (HK n),(i:Int))) n rfl (λi e=>?_) ?_
 .unfold NH;have c:O' (((i:Nat):Int)==(AI ((List.range i).map (HK n)):Int))=AC ():=by simp[O']
  simp only[QV (show(i:Int)<(n:Int)by omega),Vq,c,XK,eL n (0:Int) (by omega)];refine Ea (ve n d) ?_;have a:i<AI (List.replicate n bN):=by grind
  simp only[Qi (XL a),XK,Jd _ _ a,Qz (show i<9223372036854775807 by omega)]
  grind[HK,List.range_succ,Qa]
 simp_all[NH,Qa]
def Tq(i k:Nat):Int:=if i=k then 0 else bN
theorem uS(n:Nat):Tb n ((List.range n).map (HK n)) Tq:=by
 refine⟨by simp,λj a=>⟨HK n j,by simp[a],by simp[HK],λv d=>?_⟩⟩
 grind[HK,Tq]
inductive WI (g:Gr) (m a:Nat):Nat->Int->Prop
 |nil:WI g m a a 0
 |one (i:Nat) (hi:i<g.E) (ha:a=g.F i):WI g m a (g.T i) (g.W i)
 |cons {v:Nat} {d:Int} (h:WI g m a v d) (hv:v<m) (i:Nat) (hi:i<g.E) (e:v=g.F i):WI g m a (g.T i) (d+g.W i)
theorem WI.wk{g:Gr}{m a v:Nat}{d:Int}(h:WI g m a v d):Wk g a v d:=by
 induction h with
 |nil=>exact .nil
 |one i f k=>
  have:=Wk.cons (.nil:Wk g a a 0) i f k
  grind
 |cons h l i f e j=>exact .cons j i f e
theorem WI.mono{g:Gr}{m j a v:Nat}{d:Int}(h:WI g m a v d)(n:m<=j):WI g j a v d:=by
 induction h with
 |nil=>exact .nil
 |one i f k=>exact .one i f k
 |cons h p i f e l=>exact .cons l (by omega) i f e
theorem WI.app{g:Gr}{m a v:Nat}{d j:Int}(h:WI g m a m d)(q:WI g m m v j):WI g (m+1) a v (d+j):=by
 induction q with
 |nil=>rw[Int.add_zero];exact h.mono (by omega)
 |one i f k=>exact .cons (h.mono (by omega)) (by omega) i f k
 |cons q n i f e l=>rw[<- Int.add_assoc];exact .cons l (by omega) i f e
structure Ed (es:List Edge) (n e:Nat) (f:Nat->Nat->Int):Prop where
 wi:∀i k,f i k=bN\/WI (Br es) 0 i k (f i k)
 le:∀j,j<e->f ((Br es).F j) ((Br es).T j)<=(Br es).W j
 dg:∀i,f i i<=0
theorem ud(es:AA Edge)(n:Nat):Ed es n 0 Tq:=by
 refine⟨λi k=>?_,λj a=>by omega,λi=>by simp[Tq]⟩;by_cases e:i=k
 .subst e;exact .inr (by simpa[Tq]using WI.nil)
 .exact .inl (by simp[Tq,e])
theorem Ed.step{es:AA Edge}{n e:Nat}{f:Nat->Nat->Int}(h:Ed es n e f)(he:e<AI es):
  Ed es n (e+1) (L6 f ((Br es).F e) ((Br es).T e) (if(Br es).W e<f ((Br es).F e) ((Br es).T e)then(Br es).W e else f ((Br es).F e) ((Br es).T e))):=by
 have d:∀a b,L6 f ((Br es).F e) ((Br es).T e) (if(Br es).W e<f ((Br es).F e) ((Br es).T e)then(Br es).W e else f ((Br es).F e) ((Br es).T e)) a b<=f a b:=λa b=>by
  unfold L6
  grind
 refine⟨λi k=>?_,λj g=>?_,λi=>Int.le_trans (d i i) (h.dg i)⟩
 .unfold L6;split
  .rename_i q;obtain⟨rfl,rfl⟩:=q;split
   .exact .inr (.one e he rfl)
   .exact h.wi _ _
  .exact h.wi i k
 .rcases VC j e with q|q
  .exact Int.le_trans (d _ _) (h.le j q)
  .obtain rfl:j=e:=by omega
   simp only[L6,and_self,if_true];omega
theorem xo{n:Nat}{es:AA Edge}(h:CT n es):∀(m e:Nat) (T:AA (AA Int)) (f:Nat->Nat->Int),e+m=AI es->Tb n T f->Ed es n e f->
  ∃T' f',Tb n T' f'/\Ed es n (AI es) f'/\Cc (λq=>Nb q es) (T,(e:Int)) T':=by
 intro m
 induction m with
 |zero=>
  intro e T f he ht hd;obtain rfl:e=AI es:=by omega
  refine⟨T,f,ht,hd,Ek ?_⟩
  simp_all[Nb,Qa]
 |succ m u=>
  intro e T f he ht hd;have g:e<AI es:=by omega
  have j:=XL g;obtain⟨B,H,w⟩:=T4 j;have ok:=h.ok _ (Ve g);have f0:=ok.f0;have f1:=ok.f1;have t0:=ok.t0;have t1:=ok.t1;obtain⟨r,l,N,t⟩:=ht.2 es[e].Ai.toNat (by omega);have z:=t es[e].To.toNat (by omega);have E:es[e].Ai=((es[e].Ai.toNat:Nat):Int):=by omega
  have p:es[e].To=((es[e].To.toNat:Nat):Int):=by omega
  have d:es[e].To.toNat<AI r:=by omega
  have M:=Tb.set ht (i:=es[e].Ai.toNat) (k:=es[e].To.toNat) (by omega) (by omega) l (if es[e].W<f es[e].Ai.toNat es[e].To.toNat then es[e].W else f es[e].Ai.toNat es[e].To.toNat);have a:=hd.step g;rw[B,H,w]at a;obtain⟨T',f',y,L,G⟩:=u (e+1) _ _ (by omega) M a;refine⟨T',f',y,L,Ez ?_ G⟩;have s:Bt T es[e].Ai=AC r:=by rw[E];exact Qi l
  have F:Bt r es[e].To=AC (f es[e].Ai.toNat es[e].To.toNat):=by rw[p];exact Qi z
  have J:∀x,Fe r es[e].To x=AC (r.set es[e].To.toNat x):=λx=>by rw[p];exact Jd _ _ d
  unfold Nb;simp only[QV (show(e:Int)<(AI es:Int)by omega),Vq,Qi j,XK,s,F,J,Qz (show e<9223372036854775807 by have:=h.e1;omega)];exact Qa _
def upd(f:Nat->Nat->Int)(m i k:Nat):Nat->Nat->Int:=
 if f i m=bN\/f m k=bN then f else L6 f i k (if i64.wrap (f i m+f m k)<f i k then i64.wrap (f i m+f m k)else f i k)
def ID(f:Nat->Nat->Int)(m i:Nat):Nat->Nat->Nat->Int
 |0=>f
 |k+1=>upd (ID f m i k) m i k
def D4(f:Nat->Nat->Int)(m n:Nat):Nat->Nat->Nat->Int
 |0=>f
 |i+1=>ID (D4 f m n i) m i n
theorem wT(f:Nat->Nat->Int)(m i k a b:Nat):upd f m i k a b<=f a b:=by
 unfold upd;split
 .omega
 .unfold L6
  grind
theorem px(f:Nat->Nat->Int)(m i a b:Nat):∀k,ID f m i k a b<=f a b
 |0=>Int.le_refl _
 |k+1=>Int.le_trans (wT _ m i k a b) (px f m i a b k)
theorem UJ(f:Nat->Nat->Int)(m n a b:Nat):∀i,D4 f m n i a b<=f a b
 |0=>Int.le_refl _
 |i+1=>Int.le_trans (px _ m i a b n) (UJ f m n a b i)
def I3(f:Nat->Nat->Int)(m:Nat):Nat->Nat->Int:=λa b=>if f a m=bN\/f m b=bN then f a b else if f a m+f m b<f a b then f a m+f m b else f a b
theorem wz{f:Nat->Nat->Int}{m:Nat}(h:f m m=0)(a:Nat):I3 f m a m=f a m:=by
 simp_all[I3]
theorem w5{f:Nat->Nat->Int}{m:Nat}(h:f m m=0)(b:Nat):I3 f m m b=f m b:=by
 simp_all[I3]
theorem y_{f g:Nat->Nat->Int}{m i k n:Nat}(s:k<n)(t:m<n)(hP:∀a b,g a b=if(a<i/\b<n)\/(a=i/\b<k)then I3 f m a b else f a b)(d:f m m=0)
  (l:f i m≠bN->f m k≠bN->i64.wrap (f i m+f m k)=f i m+f m k)(a b:Nat):upd g m i k a b=if(a<i/\b<n)\/(a=i/\b<k+1)then I3 f m a b else f a b:=by
 have j:g i m=f i m:=by rw[hP,wz d];split<;>rfl
 have p:g m k=f m k:=by rw[hP,w5 d];split<;>rfl
 have r:g i k=f i k:=by grind
 unfold upd;rw[j,p,r];by_cases q:f i m=bN\/f m k=bN
 .rw[Vu q,hP];by_cases z:a=i/\b=k
  .simp_all[I3]
  omega
 .rw[Vt q];have e:f i m≠bN:=λx=>q (.inl x);have h:f m k≠bN:=λx=>q (.inr x);rw[l e h];unfold L6;by_cases z:a=i/\b=k
  .simp_all[I3]
  grind
theorem z_{f:Nat->Nat->Int}{m n:Nat}(e:m<n)(g:f m m=0)(r:∀i k,i<n->k<n->f i m≠bN->f m k≠bN->i64.wrap (f i m+f m k)=f i m+f m k):
  ∀a b,a<n->b<n->D4 f m n n a b=I3 f m a b:=by
 have j:∀i,i<=n->∀a b,D4 f m n i a b=if(a<i/\b<n)\/(a=i/\b<0)then I3 f m a b else f a b:=by
  intro i
  induction i with
  |zero=>intro _ a b;rw[Vt (by omega)];rfl
  |succ i h=>
   intro q a b;have l:∀k,k<=n->∀a b,ID (D4 f m n i) m i k a b=if(a<i/\b<n)\/(a=i/\b<k)then I3 f m a b else f a b:=by
    intro k
    induction k with
    |zero=>intro _ a b;exact h (by omega) a b
    |succ k d=>intro p a b;exact y_ (by omega) e (d (by omega)) g (by grind) a b
   have:=l n (by omega) a b;rw[show D4 f m n (i+1)=ID (D4 f m n i) m i n from rfl,this];omega
 grind
theorem ZJ{n:Nat}{T:AA (AA Int)}{f:Nat->Nat->Int}(h:Tb n T f){m i k:Nat}(e:m<n)(hi:i<n)(a:k<n):∃T',SA (m:Int) (i:Int) (k:Int) T=AC T'/\Tb n T' (upd f m i k):=by
 obtain⟨r,u,w,d⟩:=h.2 i hi;obtain⟨p,t,y,s⟩:=h.2 m e;unfold SA upd;simp only[Qi u,Qi (d m e),XK,Qi t,Qi (s k a),Qi (d k a)];by_cases j:f i m=bN
 .simp_all[bN]
 .have l:(f i m != 1152921504606846976)=true:=by simpa[bN]using j
  rw[l];by_cases q:f m k=bN
  .simp_all[bN]
  .have g:(f m k != 1152921504606846976)=true:=by simpa[bN]using q
   rw[g,Vt (show¬(f i m=bN\/f m k=bN)from by rintro(x|x)<;>contradiction)]
   simp_all[Tb.set,Jd]
theorem ZM{n:Nat}(l:n<=1000){m i:Nat}(e:m<n)(hi:i<n){f:Nat->Nat->Int}:∀(c k:Nat) (T:AA (AA Int)),k+c=n->Tb n T (ID f m i k)->
  ∃T',Tb n T' (ID f m i n)/\Cc (λq=>NT q (n:Int) (m:Int) (i:Int)) (T,(k:Int)) T':=by
 intro c
 induction c with
 |zero=>
  intro k T hk ht;obtain rfl:k=n:=by omega
  refine⟨T,ht,Ek ?_⟩
  simp_all[NT,Qa]
 |succ c g=>
  intro k T hk ht;obtain⟨T1,a,d⟩:=ZJ ht e hi (show k<n by omega);obtain⟨T',j,h⟩:=g (k+1) T1 (by omega) d;refine⟨T',j,Ez ?_ h⟩;unfold NT;simp only[QV (show(k:Int)<(n:Int)by omega),Vq,a,XK,Qz (show k<9223372036854775807 by omega)];exact Qa _
theorem ZN{n:Nat}(a:n<=1000){m:Nat}(g:m<n){f:Nat->Nat->Int}:∀(c i:Nat) (T:AA (AA Int)),i+c=n->Tb n T (D4 f m n i)->
  ∃T',Tb n T' (D4 f m n n)/\Cc (λq=>NP q (n:Int) (m:Int)) (T,(i:Int)) T':=by
 intro c
 induction c with
 |zero=>
  intro i T hi ht;obtain rfl:i=n:=by omega
  refine⟨T,ht,Ek ?_⟩
  simp_all[NP,Qa]
 |succ c h=>
  intro i T hi ht;obtain⟨T1,d,e⟩:=ZM a g (show i<n by omega) n 0 T (by omega) (f:=D4 f m n i) ht;obtain⟨T',k,j⟩:=h (i+1) T1 (by omega) d;refine⟨T',k,Ez ?_ j⟩;unfold NP;simp only[QV (show(i:Int)<(n:Int)by omega),Vq];refine Ea e.ev ?_
  grind[Qz,Qa]
theorem vd{n:Nat}(p:n<=1000){T:AA (AA Int)}{f:Nat->Nat->Int}(h:Tb n T f):∀(c i:Nat),i+c=n->(∀j,j<i->0<=f j j)->
  ((∀j,j<n->0<=f j j)/\Cc (λq=>IP q (n:Int) T) (i:Int) (.k ()))\/((∃j,j<n/\f j j<0)/\Cc (λq=>IP q (n:Int) T) (i:Int) (.d ())):=by
 intro c
 induction c with
 |zero=>
  simp_all[Ek,IP,Qa]
 |succ c k=>
  intro i t l;obtain⟨r,e,s,d⟩:=h.2 i (by omega);by_cases q:f i i<0
  .refine .inr ⟨⟨i,by omega,q⟩,Ek ?_⟩;unfold IP;simp only[QV (show(i:Int)<(n:Int)by omega),Vq,Qi e,Qi (d i (by omega)),XK,QV q];exact Qa _
  .have g:Ev (λm=>IP m (n:Int) T (i:Int)) (.k ((i+1:Nat):Int)):=by
    unfold IP;simp only[QV (show(i:Int)<(n:Int)by omega),Vq,Qi e,Qi (d i (by omega)),XK,Q4 q,Vr,Qz (show i<9223372036854775807 by omega)];exact Qa _
   rcases k (i+1) (by omega) (by grind)with⟨a,b⟩|⟨a,b⟩
   .exact .inl ⟨a,Ez g b⟩
   .exact .inr ⟨a,Ez g b⟩
set_option maxRecDepth 10000
structure KR (es:List Edge) (n m:Nat) (f:Nat->Nat->Int):Prop where
 fin:0<m->∀i k,i<n->k<n->f i k<=2199023255552
 fm:∀i,i<n->f i 0<=1099511627776/\f 0 i<=1099511627776
 wi:∀i k,i<n->k<n->f i k=bN\/WI (Br es) m i k (f i k)
 tri:∀i j k,i<n->k<n->j<m->f i k<=f i j+f j k
 le:∀j,j<AI es->f ((Br es).F j) ((Br es).T j)<=(Br es).W j
 dg:∀i,f i i<=0
theorem gN{es:AA Edge}{n:Nat}(h:CT n es)(d:GU es n){f:Nat->Nat->Int}(e:Ed es n (AI es) f):KR es n 0 f:=by
 refine⟨λq=>by omega,λi m=>?_,λi k _ _=>e.wi i k,(by omega),e.le,e.dg⟩;rcases Nat.eq_zero_or_pos i with z|z
 .subst z;have:=e.dg 0;omega
 .obtain⟨a,b⟩:=d i z m;obtain⟨j,l,t,w,r⟩:=UE a;obtain⟨k,g,s,x,u⟩:=UE b;have p:=e.le j l;have q:=e.le k g
  grind
def I6(f:Nat->Int):Nat->Int
 |0=>0
 |k+1=>if f k<I6 f k then f k else I6 f k
theorem eM(f:Nat->Int):∀k,I6 f k<=0/\ ∀j,j<k->I6 f k<=f j
 |0=>⟨Int.le_refl _,λj h=>by omega⟩
 |k+1=>by
  obtain⟨a,b⟩:=eM f k;unfold I6
  grind
theorem lI(f:Nat->Int):∀k,I6 f k=0\/ ∃j,j<k/\I6 f k=f j
 |0=>.inl rfl
 |k+1=>by
  unfold I6;split
  .grind
  .rcases lI f k with q|⟨j,q1,q2⟩
   .exact .inl q
   grind
theorem pc{n:Nat}{es:AA Edge}(h:CT n es){φ:Nat->Int}(hφ:D1 es φ):∃ψ:Nat->Int,D1 es ψ/\ ∀v,v<n-> -1152921504606846976<=ψ v/\ψ v<=0:=by
 obtain⟨m,D,f,_⟩:=uG h hφ;refine⟨λv=>I6 (λj=>D j v) n,λi p=>?_,λv r=>⟨?_,(eM _ n).1⟩⟩
 .have k:=Rf h i;have use:∀j,j<n->D j ((Br es).F i)<=0->I6 (λj=>D j ((Br es).T i)) n<=D j ((Br es).F i)+(Br es).W i:=λj l g=>by
   have:=(eM (λj=>D j ((Br es).T i)) n).2 j l;rcases(f.d j l).hold i p with q|q
   .rw[q]at g;exact absurd g (by decide)
   .exact Int.le_trans this q
  show I6 (λj=>D j ((Br es).T i)) n<=I6 (λj=>D j ((Br es).F i)) n+(Br es).W i;rcases lI (λj=>D j ((Br es).F i)) n with q|⟨j,a,e⟩
  .rw[q];have z:=(f.d _ k).zero;have:=use _ k (by omega);rw[z]at this;exact this
  .have:=(eM (λj=>D j ((Br es).F i)) n).1;rw[e]at this⊢;exact use j a this
 .show-1152921504606846976<=I6 (λj=>D j v) n;rcases lI (λj=>D j v) n with q|⟨j,a,e⟩
  .rw[q];decide
  .rw[e];exact((f.d j a).low v r).1
def Ci(es:AA Edge)(m:Nat):AA Edge:=es.filter λx=>AG (x.Ai.toNat<m)&&AG (x.To.toNat<m)
theorem xV{n:Nat}{es:AA Edge}(h:CT n es)(m:Nat):CT n (Ci es m):=
 ⟨h.n0,h.n1,XW (VN _ _) h.e1,λx hx=>h.ok x (Xd.1 hx).1⟩
theorem wU{n m:Nat}{es:AA Edge}(h:CT n es)(B:m<=n){ψ:Nat->Int}(p:D1 (Ci es m) ψ)(r:∀v,v<n-> -1152921504606846976<=ψ v/\ψ v<=0){i v:Nat}{d:Int}(w:WI (Br es) m i v d):
  -1152921504606846976-70368744177664<=d/\(v<m->ψ v-35184372088832<=d):=by
 have g:∀k,k<AI es-> -35184372088832<=(Br es).W k:=λk a=>by
  obtain⟨x,l,_,_,q⟩:=lm a;rw[q];exact(h.ok x l).w0
 induction w with
 |nil=>grind
 |one k a N=>have:=g k a;grind
 | @cons u d w y k a e s=>
  have z:=g k a;have J:=s.2 y;have O:=r u (by omega);refine⟨by omega,λG=>?_⟩;obtain⟨x,l,M,F,q⟩:=lm a;have f:x∈Ci es m:=by
   grind[Ci]
  obtain⟨j,t,L,H,E⟩:=UE f;have:=p j t
  grind
theorem KR.low{es:AA Edge}{n m:Nat}{f:Nat->Nat->Int}(h:CT n es)(s:KR es n m f)(r:m<=n):∀{i v:Nat} {d:Int},WI (Br es) m i v d-> -1152921504606846976-70368744177664<=d:=by
 have n0:=h.n0;have p:D1 (Ci es m) (λv=>f 0 v):=λj u=>by
  obtain⟨x,e,B,F,y⟩:=lm u;unfold Ci at e;rw[Xd]at e;obtain⟨e,g⟩:=e;simp only[XX,Vs]at g;obtain⟨k,l,z,G,E⟩:=UE e;have a:=s.tri 0 x.Ai.toNat x.To.toNat (by omega) (by omega) g.1;have b:=s.le k l
  grind
 obtain⟨ψ,q,t⟩:=pc (xV h m) p;intro i v d w;exact(wU h r q t w).1
theorem KR.fin'{es:AA Edge}{n m:Nat}{f:Nat->Nat->Int}(s:KR es n m f)(a:m<n){i:Nat}(hi:i<n):f i m<=2199023255552/\f m i<=2199023255552:=by
 rcases Nat.eq_zero_or_pos m with z|z
 .subst z;have:=s.fm i hi;omega
 .exact⟨s.fin z i m hi a,s.fin z m i a hi⟩
theorem dy{x:Int}(h:x<=2199023255552):x≠bN:=λq=>by rw[q]at h;exact absurd h (by decide)
theorem KR.step{es:AA Edge}{n m:Nat}{f:Nat->Nat->Int}(h:CT n es)(s:KR es n m f)(g:m<n)(E:∀i,i<n->0<=f i i):KR es n (m+1) (D4 f m n n):=by
 have z:f m m=0:=by have:=s.dg m;have:=E m g;omega
 have l:∀i k,i<n->k<n->f i k<=2199023255552->WI (Br es) m i k (f i k):=λi k d e q=>(s.wi i k d e).resolve_left (dy q);have ex:∀a b,a<n->b<n->D4 f m n n a b=I3 f m a b:=z_ g z λi k d e _ _=>by
  have B:=(s.fin' g d).1;have F:=(s.fin' g e).2;have O:=s.low h (by omega) (l i m d g B);have N:=s.low h (by omega) (l m k g e F);exact Qt (by omega) (by omega)
 have p:∀a b,a<n->b<n->D4 f m n n a b<=f a b/\D4 f m n n a b<=f a m+f m b/\(D4 f m n n a b=f a b\/D4 f m n n a b=f a m+f m b):=λa b w x=>by
  rw[ex a b w x];unfold I3;rw[Vt (by rintro(q|q);exact dy (s.fin' g w).1 q;exact dy (s.fin' g x).2 q)];split<;>omega
 refine⟨λ_ i k d e=>?_,λi d=>?_,λi k d e=>?_,λi j k d e u=>?_,λj u=>?_,λi=>?_⟩
 .have q:=p i k d e;rcases Nat.eq_zero_or_pos m with y|y
  .subst y;have:=s.fm i d;have:=s.fm k e;omega
  .have:=s.fin y i k d e;omega
 .have n0:=h.n0;have:=s.fm i d;have a:=UJ f m n i 0 n;have b:=UJ f m n 0 i n;omega
 .obtain⟨H,P,t|t⟩:=p i k d e
  .rw[t];rcases s.wi i k d e with y|y
   .exact .inl y
   .exact .inr (y.mono (by omega))
  .rw[t];exact .inr (WI.app (l i m d g (s.fin' g d).1) (l m k g e (s.fin' g e).2))
 .have r:j<n:=by omega
  obtain⟨L,Q,_⟩:=p i k d e;obtain⟨_,_,a⟩:=p i j d r;obtain⟨_,_,b⟩:=p j k r e;rcases VC j m with y|y
  .have G:=s.tri i j k d e y;have J:=s.tri i j m d g y;have R:=s.tri m j k g e y;have M:=s.tri m j m g g y;rcases a with a|a<;>rcases b with b|b<;>rw[a,b]<;>omega
  .obtain rfl:j=m:=by omega
   rcases a with a|a<;>rcases b with b|b<;>rw[a,b]<;>omega
 .exact Int.le_trans (UJ f m n _ _ n) (s.le j u)
 .exact Int.le_trans (UJ f m n i i n) (s.dg i)
theorem KR.neg{es:AA Edge}{n m:Nat}{f:Nat->Nat->Int}(s:KR es n m f){i:Nat}(hi:i<n)(a:f i i<0):¬ ∃φ,D1 es φ:=by
 rintro⟨φ,p⟩;rcases s.wi i i hi hi with q|q
 .rw[q]at a;exact absurd a (by decide)
 .have:=q.wk.le (f:=φ) λk d=>p k d;omega
theorem ZK{n:Nat}{es:AA Edge}(h:CT n es):∀(c m:Nat) (T:AA (AA Int)) (f:Nat->Nat->Int),m+c=n->Tb n T f->KR es n m f->(0<m->∀i,i<n->0<=f i i)->
  (∃T' f',Tb n T' f'/\KR es n n f'/\(∀i,i<n->0<=f' i i)/\Cc (λq=>IO q (n:Int)) (T,(m:Int)) (.k T'))\/((¬ ∃φ,D1 es φ)/\Cc (λq=>IO q (n:Int)) (T,(m:Int)) (.d ())):=by
 have n0:=h.n0;have n1:=h.n1;intro c
 induction c with
 |zero=>
  intro m T f hm ht s hd;obtain rfl:m=n:=by omega
  refine .inl ⟨T,f,ht,s,hd (by omega),Ek ?_⟩
  simp_all[IO,Qa]
 |succ c x=>
  intro m T f hm ht s hd;have a:m<n:=by omega
  obtain⟨T1,r,g⟩:=ZN (n:=n) (by omega) a n 0 T (by omega) (f:=f) ht;rcases vd (n:=n) (by omega) r n 0 (by omega) (λj B=>by omega)with⟨l,e⟩|⟨⟨j,u,t⟩,e⟩
  .have d:∀i,i<n->0<=f i i:=λi w=>Int.le_trans (l i w) (UJ f m n i i n);have z:=s.step h a d;have E:Ev (λq=>IO q (n:Int) (T,(m:Int))) (.k (T1,((m+1:Nat):Int))):=by
    unfold IO;simp only[QV (show(m:Int)<(n:Int)by omega),Vq];refine Ea g.ev (Ea e.ev ?_)
    grind[Qz,Qa]
   grind[Cc.cont]
  .refine .inr ⟨?_,Ek ?_⟩
   .by_cases y:∀i,i<n->0<=f i i
    .exact(s.step h a y).neg u t
    .have:∃i,i<n/\f i i<0:=(by grind);obtain⟨i,p,k⟩:=this;exact s.neg p k
   .unfold IO;simp only[QV (show(m:Int)<(n:Int)by omega),Vq];refine Ea g.ev (Ea e.ev ?_);exact Qa _
theorem qC{n:Nat}{es:AA Edge}(h:CT n es)(M:GU es n):
  (∃T D,(∃φ,D1 es φ)/\F_ es n T D/\Ev (λq=>Lf q ⟨(n:Int),es⟩) (T,AE))\/((¬ ∃φ,D1 es φ)/\Ev (λq=>Lf q ⟨(n:Int),es⟩) ([],AD)):=by
 have n0:=h.n0;have n1:=h.n1;obtain⟨T1,B,H,Q,w⟩:=xo h (AI es) 0 _ _ (by omega) (uS n) (ud es n);have O:=gN h M Q;have c:O' ((AI ((List.range n).map (HK n)))==((n:Int)).toNat)=AC ():=by simp[O']
 unfold Lf;simp only[eL n () (by omega),XK];rcases ZK h n 0 T1 B (by omega) H O (λq=>by omega)with⟨T',m,s,l,V,N⟩|⟨s,l⟩
 .have p:D1 es (λv=>m 0 v):=λj e=>Int.le_trans (l.tri 0 ((Br es).F j) ((Br es).T j) (by omega) (P2 h j) (Rf h j)) (Int.add_le_add_left (l.le j e) _);obtain⟨ψ,E,u⟩:=pc h p;have fz:=l.fin (by omega);have L:∀j,j<n->m j j=0:=λj e=>by have:=l.dg j;have:=V j e;omega
  have x:∀j v,j<n->v<n->Wk (Br es) j v (m j v):=λj v e g=>((l.wi j v e g).resolve_left (dy (fz j v e g))).wk;refine .inl ⟨T',λj v=>if v<n then m j v else bN,⟨_,p⟩,⟨s.1,λj e=>?_,λj e=>⟨?_,λv=>?_,λi R=>?_,λv g=>?_⟩⟩,?_⟩
  .obtain⟨r,G,J,z⟩:=s.2 j e;exact⟨r,G,J,λv g=>by rw[z v g,Vu g]⟩
  .rw[Vu e];exact L j e
  .by_cases g:v<n
   .rw[Vu g];exact .inr (x j v e g)
   .rw[Vt g];exact .inl rfl
  .have y:=Rf h i;have t:=P2 h i;rw[Vu y,Vu t];have:=l.tri j _ _ e t y;have:=l.le i R;exact .inr (by omega)
  .rw[Vu g];have a:=(x j v e g).le (f:=ψ) λk P=>E k P;have b:=u v g;have c:=u j e;have d:=fz j v e g;exact⟨by omega,by omega⟩
  .refine Ea (rJ n (by omega)) ?_;simp only[c,XK];exact Ea w.ev (Ea N.ev (Qa _))
 .refine .inr ⟨s,Ea (rJ n (by omega)) ?_⟩;simp only[c,XK];exact Ea w.ev (Ea l.ev (Qa _))
set_option maxRecDepth 10000
set_option maxRecDepth 10000
theorem UX(c:Bl)(x:Int):Ev (λn=>Pi n c x) (Cp c x):=by
 simp_all[Pi,Cp,Ej,Qa]
theorem sq(x:Int):Ev (λn=>IU n x) (Di x):=by
 simp_all[IU,Di,CW,Ej,Qa]
theorem QjH{x k:Int}(f: -2199023255552<=x/\x<=2199023255552)(d:0<=k/\k<=100000):Ev (λn=>Nx n x k) (C8 x k,0):=by
 obtain⟨m,i,j,l⟩:=aI f d;unfold Nx;refine Ea (v:=AD) ?_ ?_
 .grind[Qa]
 refine Qy (Ea (v:=if x<0-x then 0-x else x) ?_ ?_)
 .by_cases h:x<0
  .rw[QV h,Vu (by omega),Qt (by omega) (by omega)];exact Qa _
  .rw[Q4 h,Vt (by omega)];exact Qa _
 unfold C8;generalize(if x<0-x then 0-x else x)*k=a at*;have e:Int.tdiv a 1000000=a/1000000:=(by grind);have g:Int.tdiv (a+1000000-1) 1000000=(a+1000000-1)/1000000:=(by grind);rw[Qt (n:=a) (by omega) (by omega),e,g,Qt (n:=a/1000000) (by omega) (by omega),Qt (n:=a/1000000*1000000) (by omega) (by omega),Qt (n:=a/1000000+1) (by omega) (by omega)];refine Ea (v:=(a+1000000-1)/1000000) ?_ (Qa _)
 grind[Qa]
theorem fX{c:Bl}(d:DU c){i:Nat}{m:Ag}(g:c.Ar[i]?=AC m){s:Bk}(f:s.Ag=(i:Int)){a:Int}(k:HN s.As)(j:HN a):Ev (λn=>M9 n c s a) (Dx c m.AN s a):=by
 obtain⟨q,p⟩:=d.res;have e: -2199023255552<=a-s.As/\a-s.As<=2199023255552:=by unfold HN at k j;omega
 obtain⟨r,l,_,_⟩:=aI e d.drift;unfold M9 Ln Dx;simp only[f,Qi g,XK];by_cases h:m.AN=1
 .simp_all[Qa]
 .rw[show(m.AN==1)=AD by simpa using h,show(m.AN != 1)=AE by simpa using h];simp only[Vr,Vq];rw[Qt (n:=a-s.As) (by omega) (by omega)];refine Ea (QjH e d.drift) ?_
  grind[Qt,Qa]
def I8(x y:Bk):Prop:=CU x y<0
theorem xI(x:Bk):¬I8 x x:=by have:=Mu.refl x;unfold I8;omega
theorem pH(x y z:Bk)(h1:I8 x y)(h2:I8 y z):I8 x z:=Mu.trans x y z h1 h2
def Ds(x y:Bk):Bool:=AG (x.Ag<y.Ag)||((x.Ag==y.Ag)&&AG (x.AT<y.AT))
theorem sF(x y:Bk):Ds x y=AE↔I8 x y:=by
 have e:=sf x y;unfold I8;have:Hh x y=Ds x y:=rfl
 grind
theorem lh(x y:Bk):Ev (λn=>Ll n x y) (Ds x y):=by
 simp_all[Ll,Ds,Ex,Ej,Qa]
def C2(p:Bk):AA Bk->Nat
 |[]=>0
 |x::r=>bif Ds x p then C2 p r+1 else 0
theorem l9(p:Bk):∀l,C2 p l<=AI l
 |[]=>XU _
 |x::r=>by
  have:=l9 p r;unfold C2
  grind
def I'(p:Bk)(l:AA Bk):AA Bk:=match l[C2 p l]? with
 |some x=>bif (x.Ag==p.Ag)&&(x.AT==p.AT)then l else l.take (C2 p l)++([p]++l.drop (C2 p l))
 |none=>l++[p]
theorem md(p:Bk):∀(l:AA Bk),∀x∈l.take (C2 p l),I8 x p
 |[],x,h=>by simp at h
 |y::r,x,h=>by
  unfold C2 at h;cases q:Ds y p with
  |false=>grind
  |true=>
   rw[q,Vq,List.take_succ_cons,X7]at h;rcases h with rfl|h
   .exact(sF _ _).1 q
   .exact md p r x h
theorem pb(p:Bk):∀(l:AA Bk) (x:Bk),l[C2 p l]?=AC x->¬I8 x p
 |[],x,h=>by simp at h
 |y::r,x,h=>by
  unfold C2 at h;cases q:Ds y p with
  |false=>
   rw[q]at h;simp only[Vr,XF,Option.some.injEq]at h
   grind[sF]
  |true=>
   rw[q,Vq,XG]at h;exact pb p r x h
structure HR (l:List Bk):Prop where
 lt:l.Pairwise I8
 an:∀s∈l,s.As=0
theorem lL{x y:Bk}(a:x.Ag=y.Ag)(e:x.AT=y.AT)(d:x.As=y.As):x=y:=by
 cases x;simp_all
theorem v7{l:AA Bk}(h:HR l){p:Bk}(k:p.As=0):HR (I' p l)/\(∀s,s∈I' p l↔s∈l\/s=p)/\AI (I' p l)<=AI l+1:=by
 have B:=l9 p l;unfold I';cases q:l[C2 p l]? with
 |none=>
  have d:AI l<=C2 p l:=(by grind);have r:=md p l;rw[VI d]at r;refine⟨⟨List.pairwise_append.2 ⟨h.lt,(by simp),(by grind)⟩,λs a=>?_⟩,λs=>by simp,by simp⟩;rcases VD.1 a with a|a
  .exact h.an s a
  grind
 |some x=>
  have n:=VH q
  dsimp only
  cases z:(x.Ag==p.Ag)&&(x.AT==p.AT)with
  |true=>
   rw[XX,Vy,Vy]at z;have e:x=p:=lL z.1 z.2 (by rw[h.an x n,k])
   grind
  |false=>
   have E:=pb p l x q;have m:=(XM.1 q).1;have t:l.drop (C2 p l)=x::l.drop (C2 p l+1):=by
    simp_all[Xq]
   have i:I8 p x:=by
    have w:=Mu.swap p x
    grind[I8,nK]
   have j:=h.lt;rw[<- XA (C2 p l) l,List.pairwise_append]at j;have u:∀y∈l.drop (C2 p l),I8 p y:=by
    intro y f;have g:=j.2.1;rw[t]at f g;rw[Xc]at g;rcases X7.1 f with rfl|f
    .exact i
    .exact pH _ _ _ i (g.1 y f)
   refine⟨⟨?_,λs a=>?_⟩,λs=>?_,?_⟩
   .rw[Vr,List.pairwise_append]
    grind[md]
   .simp only[Vr,VD,VB]at a;rcases a with a|a|a
    .exact h.an s (by grind)
    .grind
    .exact h.an s (by grind)
   .simp only[Vr,VD,VB];constructor
    .grind
    grind[List.take_append_drop]
   grind
def D7(c:Bl)(l:AA Bk)(x e:Int):AA Bk:=bif C7 c x then I' ⟨x,e,0⟩ l else l
theorem eW{c:Bl}{l:AA Bk}(y:AI l<=1000)(x e:Int):Ev (λn=>IX n c l x e) (D7 c l x e):=by
 unfold IX D7;refine Ea (v:= !C7 c x) ?_ ?_
 .refine Ea (UX c x) ?_;unfold C7;cases q:Cp c x with
  |false=>exact Qa _
  |true=>
   obtain⟨i,m,rfl,w⟩:=UA q
   simp_all[Ln,Qi,bne,Qa]
 .cases C7 c x with
  |false=>exact Qa _
  |true=>
   simp only[Xg,Vr,Vq];have loop:∀(r:AA Bk) (i:Nat),l.drop i=r->i<=AI l->Cc (λn=>LC n l x e) (i:Int) ((i+C2 ⟨x,e,0⟩ r:Nat):Int):=by
    intro r
    induction r with
    |nil=>
     intro i h k;refine Ek ?_;unfold LC;simp only[QN h k,Vr,XK,C2,Xy];exact Qa _
    |cons s r p=>
     intro i h k;obtain⟨d,f⟩:=Qx (by omega) h;have a:=d.lt';cases q:Ds s ⟨x,e,0⟩with
     |true=>
      have g:C2 ⟨x,e,0⟩ (s::r)=C2 ⟨x,e,0⟩ r+1:=by show(bif Ds s _ then _ else _)=_;rw[q];rfl
      rw[g,show i+(C2 ⟨x,e,0⟩ r+1)=(i+1)+C2 ⟨x,e,0⟩ r by omega];refine Ez ?_ (p (i+1) f (by omega));unfold LC;simp only[d.lt,Vq,d.ix,XK,d.nx];refine Ea (Ea (lh _ _) (Qa _)) ?_;rw[q];exact Qa _
     |false=>
      have g:C2 ⟨x,e,0⟩ (s::r)=0:=by show(bif Ds s _ then _ else _)=_;rw[q];rfl
      rw[g];refine Ek ?_;unfold LC;simp only[d.lt,Vq,d.ix,XK];refine Ea (Ea (lh _ _) (Qa _)) ?_;rw[q];exact Qa _
   have lp:=(loop l 0 rfl (XV _)).ev;rw[Xx]at lp;refine Ea lp ?_;have u:=l9 ⟨x,e,0⟩ l;unfold I';cases q:l[C2 ⟨x,e,0⟩ l]? with
   |none=>
    have j:AI l<=C2 ⟨x,e,0⟩ l:=(by grind);have t:C2 ⟨x,e,0⟩ l=AI l:=by omega
    rw[t,Q4 (show¬((AI l:Int)<(AI l:Int))by omega)];refine Ea (v:=AD) (Qa _) (Qy ?_);rw[aW l (XU _),XK,Rs _ _ (by simp),XK,UB l (XU _),XK,Rs _ _ (by simp;omega),XK];exact Ey (Qa _) (by simp)
   |some s=>
    have a:=(XM.1 q).1
    dsimp only
    rw[QV (show((C2 ⟨x,e,0⟩ l:Nat):Int)<(AI l:Int)by omega)];simp only[Vq,Qi q,XK];refine Ea (v:=(s.Ag==x)&&(s.AT==e)) (Ej λ_=>Qa _) ?_;cases(s.Ag==x)&&(s.AT==e)with
    |true=>exact Qa _
    |false=>
     refine Qy ?_;rw[aW l (Nat.le_of_lt a),XK,Rs _ _ (by simp;omega),XK,UB l (Nat.le_of_lt a),XK,Rs _ _ (by simp;omega),XK];exact Qa _
set_option maxRecDepth 10000
def Km(f:Bm)(x e:Int):Prop:=(f.AN=2/\x=f.Az.Ag/\e=f.Az.AT)\/(f.AN=3/\x=f.AO.Ag/\e=f.AO.AT)\/(f.AN=4/\((x=f.AV.BE/\e=f.AV.A2)\/(x=f.AV.BF/\e=f.AV.A3)))
def DY(c:Bl)(out:AA Bk)(f:Bm):AA Bk:=
 bif f.AN==2 then D7 c out f.Az.Ag f.Az.AT else bif f.AN==3 then D7 c out f.AO.Ag f.AO.AT else bif f.AN==4 then D7 c (D7 c out f.AV.BE f.AV.A2) f.AV.BF f.AV.A3 else out
theorem aB{c:Bl}{a:AA Bk}(h:HR a)(x e:Int):HR (D7 c a x e)/\(∀s,s∈D7 c a x e↔s∈a\/(C7 c x=AE/\s=⟨x,e,0⟩))/\AI (D7 c a x e)<=AI a+1:=by
 unfold D7;cases q:C7 c x with
 |false=>grind
 |true=>
  simp_all[v7]
theorem pt{c:Bl}{g:AA Bk}(h:HR g)(f:Bm):HR (DY c g f)/\(∀s,s∈DY c g f↔s∈g\/(C7 c s.Ag=AE/\s.As=0/\Km f s.Ag s.AT))/\AI (DY c g f)<=AI g+2:=by
 have one:∀(x e:Int) (s:Bk),(C7 c x=AE/\s=⟨x,e,0⟩)↔(C7 c s.Ag=AE/\s.As=0/\s.Ag=x/\s.AT=e):=λx e s=>by
  constructor
  .grind
  .rintro⟨a,b,rfl,rfl⟩;exact⟨a,lL rfl rfl b⟩
 unfold DY Km;by_cases m:f.AN=2
 .rw[show(f.AN==2)=AE by grind,Vq]
  grind[aB]
 .rw[show(f.AN==2)=AD by grind,Vr];by_cases i:f.AN=3
  .rw[show(f.AN==3)=AE by grind,Vq]
   grind[aB]
  .rw[show(f.AN==3)=AD by grind,Vr];by_cases j:f.AN=4
   .rw[show(f.AN==4)=AE by grind,Vq];obtain⟨a,b,d⟩:=aB (c:=c) h f.AV.BE f.AV.A2;obtain⟨n,k,l⟩:=aB (c:=c) a f.AV.BF f.AV.A3
    grind
   grind
def C6(c:Bl)(l:AA Bm):AA Bk:=(B6 l).foldl (DY c) []
theorem lJ{c:Bl}:∀(r:AA Bm) (out:AA Bk),HR out->HR (r.foldl (DY c) out)/\(∀s,s∈r.foldl (DY c) out↔s∈out\/(C7 c s.Ag=AE/\s.As=0/\ ∃f∈r,Km f s.Ag s.AT))/\AI (r.foldl (DY c) out)<=AI out+2*AI r
 |[],out,h=>(by grind)
 |f::r,out,h=>by
  obtain⟨a,b,d⟩:=pt (c:=c) h f;obtain⟨a',b',d'⟩:=lJ r _ a;refine⟨a',λs=>?_,by rw[X2];show(r.foldl (DY c) (DY c out f)).length<=_;omega⟩
  grind
theorem sE{α β:Type}[DecidableEq α](m:AA (α×β))(k:α)(v:β)(p:α):p∈(Yp m k v).map (·.1)↔p∈m.map (·.1)\/p=k:=by
 grind[nA]
theorem mY(c:Bl)(m:GY)(x e:Int)(p:Ua):p∈(Dr c m x e).map (·.1)↔p∈m.map (·.1)\/(C7 c p.mat=AE/\p.mat=x/\p.epoch=e):=by
 unfold Dr;cases q:C7 c x with
 |false=>
  grind
 |true=>
  rw[Vq,sE];constructor
  .grind
  .rintro(h|⟨_,b,d⟩)
   .exact .inl h
   .refine .inr ?_;cases p;grind
theorem fH{α:Type}(g:GY->α->GY)(P:α->Ua->Prop)(h:∀m x p,p∈(g m x).map (·.1)↔p∈m.map (·.1)\/P x p):∀(l:AA α) (m:GY) (p:Ua),p∈(l.foldl g m).map (·.1)↔p∈m.map (·.1)\/ ∃x∈l,P x p
 |[],m,p=>by simp
 |x::l,m,p=>by
  rw[XE,fH g P h l,h]
  grind
theorem qt(c:Bl):∀(l:AA Bm) (a:GY×G9),(l.foldl (I7 c) a).1=l.foldl (λm f=>Dr c m f.AO.Ag f.AO.AT) a.1
 |[],_=>rfl
 |f::l,a=>by rw[XE,XE,qt c l];rfl
theorem qu(c:Bl):∀(l:AA Bm) (a:GY×G9),(l.foldl (I7 c) a).2=l.foldl (λ(m:G9) f=>bif !G6 m (⟨f.AO.Ag,f.AO.AT⟩:Ua)then Yp m ⟨f.AO.Ag,f.AO.AT⟩ f.AO.Av else m) a.2
 |[],_=>rfl
 |f::l,a=>by rw[XE,XE,qu c l];rfl
theorem qS(c:Bl)(l:AA Bm)(p:Ua):p∈(DW c l).1.map (·.1)↔C7 c p.mat=AE/\ ∃f∈B6 l,Km f p.mat p.epoch:=by
 unfold DW;rw[qt,fH _ (λf p=>C7 c p.mat=AE/\p.mat=f.AO.Ag/\p.epoch=f.AO.AT) (λm f p=>mY c m _ _ p),
  fH (Kh c) (λf p=>C7 c p.mat=AE/\((p.mat=f.AV.BE/\p.epoch=f.AV.A2)\/(p.mat=f.AV.BF/\p.epoch=f.AV.A3))) (λm f p=>by
   grind[Kh,mY]),
  fH (Kj c) (λf p=>C7 c p.mat=AE/\p.mat=f.Az.Ag/\p.epoch=f.Az.AT) (λm f p=>mY c m _ _ p)]
 unfold CS Km
 grind
def O9(x e:Int)(f:Bm):Bool:=(f.AN==3)&&((f.AO.Ag==x)&&(f.AO.AT==e))
def IJ(l:AA Bm)(x e a:Int):Int:=match l.find? (O9 x e)with
 |some f=>f.AO.Av
 |none=>a
theorem qX(p:Ua):∀(l:AA Bm) (m:G9),Je (l.foldl (λ(m:G9) f=>bif !G6 m (⟨f.AO.Ag,f.AO.AT⟩:Ua)then Yp m ⟨f.AO.Ag,f.AO.AT⟩ f.AO.Av else m) m) p=
  (match Je m p with|some v=>AC v|none=>(l.find? λf=>(f.AO.Ag==p.mat)&&(f.AO.AT==p.epoch)).map (·.AO.Av))
 |[],m=>by
  grind
 |f::l,m=>by
  rw[XE,qX p l,List.find?_cons];have hh:∀q:Ua,G6 m q=(Je m q).isSome:=λq=>by
   unfold G6 Je
   grind
  by_cases e:p=⟨f.AO.Ag,f.AO.AT⟩
  .subst e;simp only[beq_self_eq_true,Bool.and_self];rw[hh];cases q:Je m (⟨f.AO.Ag,f.AO.AT⟩:Ua)with
   |some v=>grind
   |none=>simp_all[aM]
  .have ne:((f.AO.Ag==p.mat)&&(f.AO.AT==p.epoch))=false:=by
    cases z:(f.AO.Ag==p.mat)&&(f.AO.AT==p.epoch)with
    |false=>rfl
    |true=>
     simp_all
   rw[ne];have g:Je (bif !G6 m (⟨f.AO.Ag,f.AO.AT⟩:Ua)then Yp m ⟨f.AO.Ag,f.AO.AT⟩ f.AO.Av else m) p=Je m p:=by
    cases G6 m (⟨f.AO.Ag,f.AO.AT⟩:Ua)with
    |true=>rfl
    |false=>simp_all[aM]
   rw[g]
theorem pP(c:Bl)(l:AA Bm)(p:Ua):QM (DW c l).2 p 0=IJ (B6 l) p.mat p.epoch 0:=by
 unfold DW QM IJ;rw[qu,qX];have e:Je ([]:G9) p=none:=rfl;have d:∀r:AA Bm,(r.filter λf=>f.AN==3).find? (λf=>(f.AO.Ag==p.mat)&&(f.AO.AT==p.epoch))=r.find? (O9 p.mat p.epoch):=by
  intro r
  induction r with
  |nil=>rfl
  |cons f r a=>
   rw[List.filter_cons,List.find?_cons];unfold O9
   grind
 simp only[e];unfold CS
 grind
def F7(C:AA Bm)(s:Bk):Bk:=⟨s.Ag,s.AT,IJ C s.Ag s.AT 0⟩
theorem wy(c:Bl)(l:AA Bm):(C6 c l).map (F7 (B6 l))=B2 c l:=by
 obtain⟨j,f,_⟩:=lJ (c:=c) (B6 l) [] ⟨List.Pairwise.nil,λs h=>by cases h⟩;refine nM xI pH (List.pairwise_map.2 (j.lt.imp λh=>h)) (pU c l) λs=>?_;have i:s∈B2 c l↔ ∃p∈(DW c l).1.map (·.1),s=⟨p.mat,p.epoch,QM (DW c l).2 p 0⟩:=by
  unfold B2;rw[(Q2 _ _).mem_iff,Xe];constructor
  .rintro⟨p,a,rfl⟩;exact⟨p.1,Xe.2 ⟨p,a,rfl⟩,rfl⟩
  .rintro⟨_,k,rfl⟩;obtain⟨p,a,rfl⟩:=Xe.1 k;exact⟨p,a,rfl⟩
 rw[i,Xe];constructor
 .rintro⟨t,g,rfl⟩;have q:=(f t).1 g;rcases q with q|⟨e,m,d⟩
  .cases q
  .exact⟨⟨t.Ag,t.AT⟩,(qS c l _).2 ⟨e,d⟩,by rw[pP];rfl⟩
 .rintro⟨p,a,rfl⟩;obtain⟨e,d⟩:=(qS c l p).1 a;exact⟨⟨p.mat,p.epoch,0⟩,(f _).2 (.inr ⟨e,rfl,d⟩),by rw[pP];rfl⟩
theorem sn(C:AA Bm)(h:AI C<=1000)(S:AA Bk)(i:Nat)(s:Bk)(hi:S[i]?=AC s):∀(j:Nat) (a:Int),j<=AI C->
  Cc (λn=>Nf n C (S,(i:Int))) (S.set i ⟨s.Ag,s.AT,a⟩,(j:Int)-1) (S.set i ⟨s.Ag,s.AT,IJ (C.take j) s.Ag s.AT a⟩)
 |0,a,_=>by
  refine Ek ?_;unfold Nf;rw[Q4 (show¬(0<=((0:Nat):Int)-1)by omega)];exact Qa _
 |j+1,a,hj=>by
  have hlt:i<AI S:=(by grind);have hj':j<AI C:=by omega
  have d:=XL hj';generalize C[j]=f at d;have e:(S.set i ⟨s.Ag,s.AT,a⟩)[i]?=AC ⟨s.Ag,s.AT,a⟩:=(by grind);have k:IJ (C.take (j+1)) s.Ag s.AT a=IJ (C.take j) s.Ag s.AT (bif O9 s.Ag s.AT f then f.AO.Av else a):=by
   unfold IJ;rw[List.take_add_one,d,Option.toList_some,List.find?_append]
   grind
  rw[k];refine Ez ?_ (sn C h S i s hi j (bif O9 s.Ag s.AT f then f.AO.Av else a) (by omega));have g:((j+1:Nat):Int)-1=(j:Int):=by omega
  have w:i64.wrap ((j:Int)-1)=(j:Int)-1:=Qt (by omega) (by omega);unfold Nf;simp only[g,QV (show(0:Int)<=(j:Int)by omega),Vq,Qi d,XK,Qi e,w];refine Ea (v:=O9 s.Ag s.AT f) (Ej λ_=>Ej λ_=>Qa _) ?_;refine Ea (v:=S.set i ⟨s.Ag,s.AT,bif O9 s.Ag s.AT f then f.AO.Av else a⟩) ?_ (Qa _);cases O9 s.Ag s.AT f with
  |false=>exact Qa _
  |true=>
   simp_all[Jd,Qa]
theorem ng{c:Bl}{l:AA Bm}{e:Int}(he:Ev (λn=>HT n c) e)(X:AI l<=100):Ev (λn=>KC n c l) (bif e != 0 then([],e)else(B2 c l,0)):=by
 have R:=f7 l;obtain⟨M,V,J⟩:=lJ (c:=c) (B6 l) [] ⟨List.Pairwise.nil,λs h=>by cases h⟩;have W:AI (C6 c l)<=200:=XW J (by simp;omega);unfold KC;refine Ea he ?_;cases e != 0 with
 |true=>exact Qa _
 |false=>
  refine Qy (Ea (tt l (by omega)) ?_);have O:∀(r:AA Bm) (i:Nat) (g:AA Bk),(B6 l).drop i=r->i<=AI (B6 l)->HR g->AI g<=2*i->Cc (λn=>Nh n c (B6 l)) (g,(i:Int)) (r.foldl (DY c) g):=by
   intro r
   induction r with
   |nil=>
    intro i g G x E j;refine Ek ?_;unfold Nh;simp only[QN G x,Vr];exact Qa _
   |cons f r z=>
    intro i g G x E j;obtain⟨w,F⟩:=Qx (by omega) G;have P:=w.lt';obtain⟨a,_,d⟩:=pt (c:=c) E f;refine Ez ?_ (z (i+1) (DY c g f) F (by omega) a (by omega));unfold Nh DY;simp only[w.lt,Vq,w.ix,XK,w.nx];refine Ea ?_ (Qa _);cases f.AN==2 with
    |true=>exact Ea (eW (by omega) _ _) (Qa _)
    |false=>
     refine Qy ?_;cases f.AN==3 with
     |true=>exact Ea (eW (by omega) _ _) (Qa _)
     |false=>
      refine Qy ?_;cases f.AN==4 with
      |true=>
       obtain⟨_,_,T⟩:=aB (c:=c) E f.AV.BE f.AV.A2;exact Ea (eW (by omega) _ _) (Ea (eW (by omega) _ _) (Qa _))
      |false=>exact Qa _
  refine Ea (O (B6 l) 0 [] rfl (XV _) ⟨List.Pairwise.nil,λs h=>by cases h⟩ (by simp)).ev ?_;show Ev (λn=>bif 511<(AI (C6 c l):Int) then AC ([],2)else(iter (LB n (B6 l)) n (C6 c l,0)).bind λb=>AC (b,0)) _;rw[Q4 (show¬(511<(AI (C6 c l):Int))by omega)];refine Qy ?_;have H:∀(m i:Nat),i+m=AI (C6 c l)->Cc (λn=>LB n (B6 l)) (((C6 c l).take i).map (F7 (B6 l))++(C6 c l).drop i,(i:Int)) ((C6 c l).map (F7 (B6 l))):=by
   intro m
   induction m with
   |zero=>
    intro i x;obtain rfl:i=AI (C6 c l):=by omega
    simp_all[Ek,LB,Qa]
   |succ m z=>
    intro i x;have p:i<AI (C6 c l):=by omega
    generalize hL:((C6 c l).take i).map (F7 (B6 l))++(C6 c l).drop i=L;have j:AI L=AI (C6 c l):=by rw[<- hL];simp;omega
    have t:AI (((C6 c l).take i).map (F7 (B6 l)))=i:=by simp;omega
    have B:L[i]?=AC (C6 c l)[i]:=by
     rw[<- hL,XO (by omega),t,Nat.sub_self,List.getElem?_drop,Xy];simp
    have y:=M.an _ (Ve p);have N:(⟨(C6 c l)[i].Ag,(C6 c l)[i].AT,0⟩:Bk)=(C6 c l)[i]:=lL rfl rfl y.symm;have fin:=sn (B6 l) (by omega) L i _ B (AI (B6 l)) 0 (XU _);rw[N,Va]at fin;have G3:L.set i (C6 c l)[i]=L:=by
     refine List.ext_getElem? λk=>?_
     grind[List.getElem?_set_ne]
    rw[G3]at fin;have u:=z (i+1) (by omega);have Q:((C6 c l).take (i+1)).map (F7 (B6 l))++(C6 c l).drop (i+1)=L.set i (F7 (B6 l) (C6 c l)[i]):=by
     rw[<- hL,List.set_append_right _ _ (by omega),t,Nat.sub_self,Xq p,List.set_cons_zero,List.take_add_one,XL p,Xf,Vj];rfl
    rw[Q]at u;refine Ez ?_ u;unfold LB;simp only[j,QV (show(i:Int)<(AI (C6 c l):Int)by omega),Vq,Qz (show i<9223372036854775807 by omega)];rw[Qt (n:=(AI (B6 l):Int)-1) (by omega) (by omega)];exact Ea fin.ev (Qa _)
  have q:=(H (AI (C6 c l)) 0 (by omega)).ev;simp only[List.take_zero,Vl,Vi,List.drop_zero]at q;refine Ea q ?_;rw[wy];exact Qa _
set_option maxRecDepth 10000
theorem tJ:∀(r:AA Bk) (i:Nat) (m:G9) (p:Ua),p∈(G2 r i m).map (·.1)↔p∈m.map (·.1)\/ ∃x∈r,place x=p
 |[],i,m,p=>by simp[G2]
 |x::r,i,m,p=>by
  show p∈(G2 r (i+1) (Yp m (place x) _)).map (·.1)↔_;rw[tJ r,sE]
  grind
theorem xb{α β:Type}[DecidableEq α](m:AA (α×β))(p:α):(Je m p=AF)↔p∉m.map (·.1):=by
 unfold Je;rw[Option.map_eq_none_iff,List.find?_eq_none]
 grind
theorem nF{c:Bl}(u:DU c){S:AA Bk}(hS:∀s∈S,Fl c s)(t:S.Pairwise λx y=>CU x y<0)(hl:AI S<=1000){mat ep f:Int}(hm:Cp c mat=AE)(F:HN f):
  ∃v y d,DD c S mat ep f=(v,⟨f+d.Lo,f+d.Hi⟩)/\Ev (λn=>IV n S mat ep) v/\Ev (λn=>Ig n S v mat ep) y/\Ev (λn=>M9 n c y f) d/\
   (-274877906944<=d.Lo/\d.Lo<=0/\0<=d.Hi/\d.Hi<=279172874240):=by
 have vo:=pz S;have p:∀(r:AA Bk) (i:Nat),S.drop i=r->i<=AI S->(∀x∈r,¬(x.Ag=mat/\x.AT=ep))->Cc (λn=>IN n S mat ep) (i:Int) (Bn.k ()):=by
  intro r
  induction r with
  |nil=>
   intro i T H _;refine Ek ?_;unfold IN;simp only[QN T H,Vr];exact Qa _
  |cons x r J=>
   intro i T H V;obtain⟨E,R⟩:=Qx (by omega) T;have t:=E.lt';refine Ez ?_ (J (i+1) R (by omega) λy hy=>V y (by simp[hy]));have nx:=V x (by simp);unfold IN;simp only[E.lt,Vq,E.ix,XK,E.nx];refine Ea (v:=(x.Ag==mat)&&(x.AT==ep)) (Ej λ_=>Qa _) ?_;have e:((x.Ag==mat)&&(x.AT==ep))=false:=by
    cases z:(x.Ag==mat)&&(x.AT==ep)with
    |false=>rfl
    |true=>rw[XX,Vy,Vy]at z;exact absurd z nx
   rw[e];exact Qa _
 have g:∀(j:Nat) (s:Bk),S[j]?=AC s->s.Ag=mat->s.AT=ep->∀(m i:Nat),i+m=j->Cc (λn=>IN n S mat ep) (i:Int) (Bn.d ((j+1:Nat):Int)):=by
  intro j s B e1 e2 m;have hj:j<AI S:=(XM.1 B).1
  induction m with
  |zero=>
   intro i H;obtain rfl:i=j:=by omega
   refine Ek ?_;unfold IN;simp only[QV (show(i:Int)<(AI S:Int)by omega),Vq,Qi B,XK,e1,e2,beq_self_eq_true,Qz (show i<9223372036854775807 by omega)];exact Qa _
  |succ m J=>
   intro i H;have l:i<AI S:=by omega
   refine Ez ?_ (J (i+1) (by omega));have lt:=VE.1 t i j l hj (by omega);rw[XL hj]at B;have P:S[j]=s:=X0 B;have e:((S[i].Ag==mat)&&(S[i].AT==ep))=false:=by
    cases z:(S[i].Ag==mat)&&(S[i].AT==ep)with
    |false=>rfl
    |true=>
     rw[XX,Vy,Vy]at z;have G3:CU S[i] S[j]=0:=by
      unfold CU;rw[P,z.1,z.2,e1,e2];have c0:∀a:Int,CV a a=0:=λa=>vB.2 rfl;rw[c0,c0];rfl
     rw[G3]at lt;exact absurd lt (by decide)
   unfold IN;simp only[QV (show(i:Int)<(AI S:Int)by omega),Vq,Qi (XL l),XK,Qz (show i<9223372036854775807 by omega)];refine Ea (v:=(S[i].Ag==mat)&&(S[i].AT==ep)) (Ej λ_=>Qa _) ?_;rw[e];exact Qa _
 cases q:Je (Hg S) (⟨mat,ep⟩:Ua)with
 |none=>
  have nk:=(xb _ _).1 q;have AF:∀x∈S,¬(x.Ag=mat/\x.AT=ep):=λx hx h=>nk ((tJ S 0 [] _).2 (.inr ⟨x,hx,by unfold place;rw[h.1,h.2]⟩));obtain⟨i,m,Y,L⟩:=UA hm;have N:QM (Hg S) (⟨mat,ep⟩:Ua) 0=0:=by unfold QM;rw[q];rfl
  have O:Fj c mat=m.AN:=by unfold Fj;rw[Y,Int.toNat_natCast,L]
  have k:HN (⟨mat,ep,0⟩:Bk).As:=⟨show(-1099511627776:Int)<=0 by decide,show(0:Int)<=1099511627776 by decide⟩;refine⟨0,⟨mat,ep,0⟩,Dx c m.AN ⟨mat,ep,0⟩ f,?_,?_,?_,fX u L Y k F,lP u _ k F⟩
  .unfold DD;simp only[N];rw[show Dj S 0 mat ep=⟨mat,ep,0⟩from rfl,O]
  .unfold IV;exact Ea (p S 0 rfl (XV _) AF).ev (Qa _)
  .unfold Ig;exact Qa _
 |some w=>
  obtain⟨j,s,rfl,L,G,Q⟩:=vo _ _ q;have M:=hS s (VH G);unfold place at Q;have W:=congrArg Ua.mat Q;have e4:=congrArg Ua.epoch Q;simp only at W e4;have pl:=M.pl;unfold C7 at pl;rw[XX]at pl;obtain⟨i,m,X,p2⟩:=UA pl.1;have N:QM (Hg S) (⟨mat,ep⟩:Ua) 0=((j+1:Nat):Int):=by unfold QM;rw[q];rfl
  have sa:Dj S ((j+1:Nat):Int) mat ep=s:=by
   unfold Dj;rw[QV (by omega),Vq,show(((j+1:Nat):Int)-1).toNat=j by omega,G];rfl
  have O:Fj c s.Ag=m.AN:=by unfold Fj;rw[X,Int.toNat_natCast,p2]
  refine⟨((j+1:Nat):Int),s,Dx c m.AN s f,?_,?_,?_,fX u p2 X M.an F,lP u _ M.an F⟩
  .unfold DD;simp only[N,sa,O]
  .unfold IV;exact Ea (g j s G W e4 j 0 (by omega)).ev (Qa _)
  .unfold Ig;rw[show(((j+1:Nat):Int)==0)=AD by simp;omega,Qt (by omega) (by omega),show((j+1:Nat):Int)-1=(j:Int)by omega];refine Qy ?_;rw[Qi G];exact Qa _
theorem nZ{α β:Type}(f:α->AA β)(p:α->Bool):∀l:AA α,(l.filter p).flatMap f=l.flatMap λx=>bif p x then f x else[]
 |[]=>rfl
 |x::l=>by
  rw[List.filter_cons,List.flatMap_cons, <- nZ f p l]
  grind
theorem qB{x y:Edge}(a:x.Ai=y.Ai)(e:x.To=y.To)(d:x.W=y.W):x=y:=by
 cases x;simp_all
theorem Qig{c:Bl}(G:DU c){l:AA Bm}(he:Ev (λn=>HT n c) 0)(hl:AI l<=15):Ev (λn=>Li n c l) (((AI (B2 c l)+1:Nat):Int),Cv c (B2 c l) l,0):=by
 have s1:=fB c l;have V:AI (B2 c l)<=1000:=by omega
 have N:∀s∈B2 c l,Fl c s:=λs h=>lM h;have lt:=pU c l;have cl:=f7 l;have cv:=(mx l).1.2;have eo:=(fT G l hl).e1;unfold Li;have sg:=ng (l:=l) he (by omega);refine Ea sg ?_;show Ev (λn=>bif (0:Int) != 0 then AC (0,[],0)else(iter (K9 n (B2 c l,0)) n ([],0):AB (AA Edge)).bind λb8=>(Lq n l).bind λu=>(iter (La n c u) n (B2 c l,b8,0):AB ((AA Bk)×(AA Edge))).bind λB=>(iter (K7 n c u B) n (B.2,0):AB (AA Edge)).bind λp=>(bif 8192<(AI p:Int) then AC (0,[],2)else AC (i64.wrap ((AI (B2 c l):Int)+1),p,0))) _;refine Qy ?_;have l1:∀(r:AA Bk) (i:Nat) (a:AA Edge),(B2 c l).drop i=r->i<=AI (B2 c l)->AI a<=2*i->Cc (λn=>K9 n (B2 c l,0)) (a,(i:Int)) (a++Ck r i):=by
  intro r
  induction r with
  |nil=>
   intro i a h t he;refine Ek ?_;unfold K9;simp only[QN h t,Vr,Ck,Vh];exact Qa _
  |cons x r w=>
   intro i a h t he;obtain⟨e,F⟩:=Qx (by omega) h;have E:=e.lt';have q:=w (i+1) (a++[⟨0,((i+1:Nat):Int),1099511627776⟩,⟨((i+1:Nat):Int),0,1099511627776⟩]) F (by omega) (by simp;omega);rw[Vj]at q;refine Ez ?_ q;unfold K9;simp only[e.lt,Vq,e.nx]
   grind[Pe,Qa]
 refine Ea (l1 (B2 c l) 0 [] rfl (XV _) (by simp)).ev (Ea (tt l (by omega)) ?_);rw[Vi];have b0:AI (Ck (B2 c l) 0)<=1000:=by rw[fW];omega
 have m:∀f∈B6 l,B0 f=true:=λf P=>cv f P;have l2:∀(r:AA Bm) (i:Nat) (a:AA Edge),(B6 l).drop i=r->i<=AI (B6 l)->AI a<=1000+2*i->Cc (λn=>La n c (B6 l)) (B2 c l,a,(i:Int)) (B2 c l,a++r.flatMap λf=>bif f.AN==3 then Dh c (B2 c l) f.AO else[]):=by
  intro r
  induction r with
  |nil=>
   intro i a h t he;refine Ek ?_;unfold La;simp only[QN h t,Vr,List.flatMap_nil,Vh];exact Qa _
  |cons f r w=>
   intro i a h t he;obtain⟨e,F⟩:=Qx (by omega) h;have E:=e.lt';have H:=m f e.mem;have M:AI (bif f.AN==3 then Dh c (B2 c l) f.AO else[])<=2:=by
    grind[Z8,Y4]
   have q:=w (i+1) (a++bif f.AN==3 then Dh c (B2 c l) f.AO else[]) F (by omega) (by grind);rw[Vj]at q;refine Ez ?_ q;unfold La;simp only[e.lt,Vq,e.ix,XK,e.nx];refine Ea (v:=a++bif f.AN==3 then Dh c (B2 c l) f.AO else[]) ?_ (Qa _);cases k:f.AN==3 with
   |false=>
    simp only[bne,k,Xh,Vq,XK,Vr,Vh];exact Qa _
   |true=>
    have g:=Y4 H (by simpa using k);simp only[bne,k,Xg,Vr,Vq];refine Ea (Ea (UX c f.AO.Ag) (Qa _)) ?_;unfold Dh;cases z:Cp c f.AO.Ag with
    |false=>simp_all[Qa]
    |true=>
     obtain⟨v,y,d,e1,Q,W,T,d1,d2,d3,d4⟩:=nF G N lt V (ep:=f.AO.AT) z g.lo;obtain⟨a1,a2⟩:=g.lo;obtain⟨t0,t1⟩:=g.tr;obtain⟨u0,u1⟩:=g.er;simp only[Xg,Vr,Vq,e1];refine Ea Q (Ea W (Ea T ?_));rw[Qt (n:=f.AO.True+f.AO.BX) (by omega) (by omega),Qt (n:=f.AO.True+f.AO.BX-f.AO.Av) (by omega) (by omega),Qt (n:=f.AO.True+f.AO.BX-f.AO.Av-d.Lo) (by omega) (by omega),Qt (n:=f.AO.Av+d.Hi) (by omega) (by omega),Qt (n:=f.AO.Av+d.Hi-f.AO.True) (by omega) (by omega),Qt (n:=f.AO.Av+d.Hi-f.AO.True+f.AO.BX) (by omega) (by omega),Pe _ _ (by simp;omega)];refine Ey (Qa _) ?_
     grind
 refine Ea (l2 (B6 l) 0 (Ck (B2 c l) 0) rfl (XV _) (by omega)).ev ?_;have f3:((B6 l).flatMap λf=>bif f.AN==3 then Dh c (B2 c l) f.AO else[])=(CS l 3).flatMap λf=>Dh c (B2 c l) f.AO:=(nZ _ _ _).symm;rw[f3];have b1:=mz (l:=CS l 3) (f:=λf:Bm=>Dh c (B2 c l) f.AO) λf P=>by
  obtain⟨_,H,hk⟩:=M4 P
  grind[Z8,Y4]
 have c3:=UD l 3;generalize hE1:Ck (B2 c l) 0++(CS l 3).flatMap (λf=>Dh c (B2 c l) f.AO)=E1;have Y:AI E1<=1100:=by grind
 have l3:∀(r:AA Bm) (i:Nat) (a:AA Edge),(B6 l).drop i=r->i<=AI (B6 l)->AI a<=1100+2*i->Cc (λn=>K7 n c (B6 l) (B2 c l,E1)) (a,(i:Int)) (a++r.flatMap λf=>bif f.AN==4 then FD c (B2 c l) f.AV else[]):=by
  intro r
  induction r with
  |nil=>
   intro i a h t he;refine Ek ?_;unfold K7;simp only[QN h t,Vr,List.flatMap_nil,Vh];exact Qa _
  |cons f r w=>
   intro i a h t he;obtain⟨e,F⟩:=Qx (by omega) h;have E:=e.lt';have H:=m f e.mem;have M:AI (bif f.AN==4 then FD c (B2 c l) f.AV else[])<=2:=by
    cases k:f.AN==4 with
    |false=>simp
    |true=>simp_all[mG,bB]
   have q:=w (i+1) (a++bif f.AN==4 then FD c (B2 c l) f.AV else[]) F (by omega) (by rw[X4];omega);rw[Vj]at q;refine Ez ?_ q;unfold K7;simp only[e.lt,Vq,e.ix,XK,e.nx];refine Ea (v:=a++bif f.AN==4 then FD c (B2 c l) f.AV else[]) ?_ (Qa _);cases k:f.AN==4 with
   |false=>
    simp only[bne,k,Xh,Vq,XK,Vr,Vh];exact Qa _
   |true=>
    have g:=bB H (by simpa using k);simp only[bne,k,Xg,Vr,Vq];refine Ea (v:= !(Cp c f.AV.BE&&Cp c f.AV.BF)) ?_ ?_
    .refine Ea (UX c f.AV.BE) ?_;cases Cp c f.AV.BE with
     |false=>exact Qa _
     |true=>exact Qy (Ea (UX c f.AV.BF) (Qa _))
    unfold FD;cases z:Cp c f.AV.BE&&Cp c f.AV.BF with
    |false=>simp only[Xh,Vq,Vr,Vh];exact Qa _
    |true=>
     rw[XX]at z;obtain⟨v,y,d,e1,Q,W,T,d1,d2,d3,d4⟩:=nF G N lt V (ep:=f.AV.A2) z.1 g.la;obtain⟨J,y',j,R,L,O,X,ad,ab,ac,aa⟩:=nF G N lt V (ep:=f.AV.A3) z.2 g.lb;obtain⟨a1,a2⟩:=g.la;obtain⟨a3,a4⟩:=g.lb;obtain⟨t0,t1⟩:=g.mi;obtain⟨u0,u1⟩:=g.ma;simp only[Xg,Vr,Vq,e1,R];refine Ea Q (Ea L (Ea W (Ea T (Ea O (Ea X ?_)))));rw[Qt (n:=f.AV.BO-f.AV.Ay) (by omega) (by omega),Qt (n:=f.AV.BO-f.AV.Ay-j.Lo) (by omega) (by omega),Qt (n:=f.AV.BO-f.AV.Ay-j.Lo+f.AV.A1) (by omega) (by omega),Qt (n:=f.AV.BO-f.AV.Ay-j.Lo+f.AV.A1+d.Hi) (by omega) (by omega),Qt (n:=f.AV.Ay+j.Hi) (by omega) (by omega),Qt (n:=f.AV.Ay+j.Hi-f.AV.A1) (by omega) (by omega),Qt (n:=f.AV.Ay+j.Hi-f.AV.A1-d.Lo) (by omega) (by omega),Qt (n:=f.AV.Ay+j.Hi-f.AV.A1-d.Lo-f.AV.BQ) (by omega) (by omega),Pe _ _ (by simp;omega)];refine Ey (Qa _) ?_;congr 1;rw[qB (x:=⟨v,J,f.AV.BO-f.AV.Ay-j.Lo+f.AV.A1+d.Hi⟩) (y:=⟨v,J,f.AV.BO-(f.AV.Ay+j.Lo)+(f.AV.A1+d.Hi)⟩) rfl rfl (by simp only;omega),qB (x:=⟨J,v,f.AV.Ay+j.Hi-f.AV.A1-d.Lo-f.AV.BQ⟩) (y:=⟨J,v,0-(f.AV.BQ-(f.AV.Ay+j.Hi)+(f.AV.A1+d.Lo))⟩) rfl rfl (by simp only;omega)]
 refine Ea (l3 (B6 l) 0 E1 rfl (XV _) (by omega)).ev ?_;have f4:((B6 l).flatMap λf=>bif f.AN==4 then FD c (B2 c l) f.AV else[])=(CS l 4).flatMap λf=>FD c (B2 c l) f.AV:=(nZ _ _ _).symm;rw[f4, <- hE1,Vj];show Ev (λn=>bif 8192<(AI (Cv c (B2 c l) l):Int) then AC (0,[],2)else AC (i64.wrap ((AI (B2 c l):Int)+1),Cv c (B2 c l) l,0)) _;rw[Q4 (show¬(8192<(AI (Cv c (B2 c l) l):Int))by omega),Qz (by omega)];exact Qa _
set_option maxRecDepth 10000
theorem QjI{n:Nat}{es:AA Edge}(h:CT n es):Ev (λm=>Nq m ⟨(n:Int),es⟩) 0:=by
 have g:=h.n0;have p:=h.n1;have l:=h.e1;unfold Nq;refine Ea (v:=AD) ?_ ?_
 .simp only[Q4 (show¬((n:Int)<1)by omega),Q4 (show¬(512<(n:Int))by omega),Q4 (show¬(8192<(AI es:Int))by omega),Vr];exact Qa _
 refine Qy ?_;have loop:∀(c i:Nat),i+c=AI es->Cc (λm=>Ng m ⟨(n:Int),es⟩) (i:Int) (Bn.k ()):=by
  intro c
  induction c with
  |zero=>
   simp_all[Ek,Ng,Qa]
  |succ c d=>
   intro i q;have a:i<AI es:=by omega
   refine Ez ?_ (d (i+1) (by omega));obtain⟨r,j,k,e,f,w1⟩:=h.ok _ (Ve a);unfold Ng;simp only[QV (show(i:Int)<(AI es:Int)by omega),Vq,Qi (XL a),XK,Q4 (show¬(es[i].Ai<0)by omega),Q4 (show¬((n:Int)<=es[i].Ai)by omega),Q4 (show¬(es[i].To<0)by omega),
    Q4 (show¬((n:Int)<=es[i].To)by omega),Q4 (show¬(es[i].W< -35184372088832)by omega),Q4 (show¬(35184372088832<es[i].W)by omega),Vr,Qz (show i<9223372036854775807 by omega)]
   exact Qa _
 exact Ea (loop (AI es) 0 (by omega)).ev (Qa _)
theorem zV{es:AA Edge}{n:Nat}{D D':Nat->Nat->Int}(a:K2 es n D)(b:K2 es n D')(h:CT n es){j v:Nat}(d:j<n)(e:v<n):D j v<=D' j v:=by
 have:=(b.wk j v d e).le (f:=D j) λk g=>a.hold j k d g;rw[a.zero j d]at this;omega
theorem xQ{es:AA Edge}{n:Nat}(h:CT n es)(f:GU es n){T T':AA (AA Int)}{D D':Nat->Nat->Int}(a:F_ es n T D)(b:F_ es n T' D'):T=T':=by
 have s:=qL h f a;have fb:=qL h f b;have e:∀j v,j<n->v<n->D j v=D' j v:=λj v d t=>by
  grind[zV]
 apply List.ext_getElem?;intro j;by_cases d:j<n
 .obtain⟨r,i,l,m⟩:=a.row j d;obtain⟨q,g,p,k⟩:=b.row j d;rw[i,g];congr 1;apply List.ext_getElem?
  grind
 .have:=a.len;have:=b.len
  grind
theorem zI{c:Bl}(i:DU c){l:AA Bm}(he:Ev (λn=>I2 n c) 0)(u:Ev (λn=>HT n c) 0)(m:AI l<=15):
  ∃r,(AI r.1<=1000/\AI r.2.1<=1000/\ ∀x∈r.2.1,AI x<=1000)/\Ev (λn=>Kb n c l) r/\Ev (λn=>IQ n c l) r:=by
 have ok:=fT i l m;have f:=wL c (B2 c l) l;have B:=fB c l;have p:=Qig i u m;have t:=QjI ok;have z:Ev (λn=>KC n c l) (B2 c l,0):=ng u (by omega);rcases xi i he m with⟨φ,y,D,h,d,k,_⟩|⟨h,k⟩
 .rcases qC ok f with⟨T,D',a,q,e⟩|⟨a,_⟩
  .obtain rfl:=xQ ok f d q;refine⟨_,⟨by simp only;omega,by simp only;rw[d.len];omega,λx g=>?_⟩,k,?_⟩
   .obtain⟨j,w,rfl⟩:=List.getElem_of_mem g;obtain⟨r,s,E,_⟩:=d.row j (by rw[<- d.len];exact w);rw[XL w]at s;cases s;omega
   .unfold IQ OJ;exact Ea p (Qy (Ea (Ea t (Qy (Ea e (Qa _)))) (Qy (Ea z (Qa _)))))
  .exact absurd ⟨φ,h⟩ a
 .rcases qC ok f with⟨T,D',a,q,e⟩|⟨_,e⟩
  .exact absurd a h
  .refine⟨_,⟨by simp,by simp,λx g=>by cases g⟩,k,?_⟩;unfold IQ OJ;exact Ea p (Qy (Ea (Ea t (Qy (Ea e (Qa _)))) (Qa _)))
set_option maxRecDepth 10000
theorem xa(x y:Bk):Ds x y=Hh x y:=by
 rfl
theorem xw(c:Bp)(d:AI c.AR<=1048576):Ev (λn=>iter (NV n c) n 0) (bif Fz c then Bn.k ()else Bn.d 160):=by
 unfold Fz;refine Ju (AI c.AR) _ _ _ (λi f=>?_) ?_
 .have a:=Za d f;unfold NV;simp only[a.lt,Vq,a.ix,XK,a.nx,a.get];refine Ea (v:=FU c i (c.AR[i])) ?_ ?_
  .unfold FU;refine Ex λ_=>Ex λ_=>Ex λ_=>Ex λ_=>Ea (sq _) (Ex λ_=>?_);unfold HL;refine Ej λh=>?_;have g:0<i:=by grind
   have e:i-1<AI c.AR:=by omega
   rw[qm d g (by omega) (XL e),XL e];simp only[XK];exact Ea (lh _ _) ((Qa _).eq (by rw[xa]))
  grind[Qa]
 simp_all[NV,Qa]
theorem WR{a b:Nat}(h:a<b+1):AG ((a:Int)<=(b:Int))=true:=(by grind)
theorem W7{b:Nat}:AG (((b+1:Nat):Int)<=(b:Int))=false:=(by grind)
theorem vj(c:Bp)(d:KM c):Ev (λn=>iter (M' n c) n 0) (bif IE c then Bn.k ()else Bn.d 160):=by
 have q:=d.segs;unfold IE;refine Ju (AI c.AR+1) _ _ _ (λi e=>?_) ?_
 .unfold M';have g:=(d.get e e).1;simp only[WR e,Vq,I1 (show i<=1048576 by omega)];refine Ea (Ju (AI c.AR+1) (λj=>(List.range (AI c.AR+1)).all λk=> !decide (i64.wrap (Dc c i j+Dc c j k)<Dc c i k)) (Bn.d (Bn.d (Bn.d 160))) (Bn.k ()) (λj a=>?_) ?_) ?_
  .unfold SK;have l:=(d.get e a).2;have p:=(d.get a a).1;simp only[WR a,Vq,I1 (show j<=1048576 by omega)];refine Ea (Ju (AI c.AR+1) (λk=> !decide (i64.wrap (Dc c i j+Dc c j k)<Dc c i k)) (Bn.d (Bn.d (Bn.d (Bn.d (Bn.d 160))))) (Bn.k ()) (λk f=>?_) ?_) ?_
   .unfold SB;have m:=(d.get a f).2;have h:=(d.get e f).2;simp only[WR f,Vq,Qi g,Qi p,Qi l,Qi m,Qi h,XK,I1 (show k<=1048576 by omega)]
    grind[Qa]
   .unfold SB;simp only[W7,Vr];exact Qa _
   grind[Qa]
  .unfold SK;simp only[W7,Vr];exact Qa _
  grind[Qa]
 .unfold M';simp only[W7,Vr];exact Qa _
theorem yS(r:AA Int)(p:Int->Bool):r.any p=(List.range (AI r)).any λj=>p ((r[j]?).getD 0):=by
 rw[XZ,Xv,Xv];constructor
 .rintro⟨x,a,e⟩;obtain⟨j,d,rfl⟩:=List.getElem_of_mem a;exact⟨j,List.mem_range.2 d,by grind⟩
 grind
theorem xv(c:Bp)(m:AI c.AR<=1048576)(u:∀r∈c.BB,AI r<=1048576)(q:AI c.BB=AI c.AR+1):
  Ev (λn=>iter (NK n c) n 0) (bif Fi c then Bn.k ()else Bn.d 160):=by
 unfold Fi;rw[q];refine Ju (AI c.AR+1) _ _ _ (λi t=>?_) ?_
 .have h:i<AI c.BB:=by omega
  have g:=XL h;unfold NK;simp only[WR t,Vq,Qi g,g,XK,I1 m,I1 (show i<=1048576 by omega)];by_cases a:AI (c.BB[i])=AI c.AR+1
  .have e:((AI (c.BB[i]):Int) != ((AI c.AR+1:Nat):Int))=false:=by simp[a]
   have k:i<AI (c.BB[i]):=by omega
   have p:=XL k;simp only[e,Vr,Qi p,XK];by_cases z:(c.BB[i])[i]=0
   .have f:((c.BB[i])[i] != 0)=false:=by simp[z]
    have d:F0 c i (c.BB[i])=(List.range (AI c.AR+1)).all λj=> !Dv (((c.BB[i])[j]?).getD 0):=by
     simp_all[F0,yS,List.not_any_eq_all_not]
    rw[d];simp only[f,Vr];refine Ea (Ju (AI c.AR+1) (λj=> !Dv (((c.BB[i])[j]?).getD 0)) (Bn.d (Bn.d (Bn.d 160))) (Bn.k ()) (λj s=>?_) ?_) ?_
    .have l:=XL (show j<AI (c.BB[i]) by omega);unfold SH;simp only[WR s,Vq,Qi g,Qi l,l,Option.getD_some,XK,I1 (show j<=1048576 by omega)];refine Ea (v:=Dv ((c.BB[i])[j])) ?_ ?_
     .unfold Dv;exact Ex λ_=>Qa _
     grind[Qa]
    .unfold SH;simp only[W7,Vr];exact Qa _
    grind[Qa]
   .have f:((c.BB[i])[i] != 0)=true:=by simpa using z
    have d:F0 c i (c.BB[i])=false:=by
     simp_all[F0]
    rw[d];simp only[f,Vq];exact Qa _
  .have e:((AI (c.BB[i]):Int) != ((AI c.AR+1:Nat):Int))=true:=by
    grind
   have d:F0 c i (c.BB[i])=false:=by unfold F0;rw[e];rfl
   rw[d];simp only[e,Vq,XK];exact Qa _
 .unfold NK;simp only[W7,Vr];exact Qa _
theorem li(c:Bp)(w:L4 c):Ev (λn=>Ly n c) (bif Hq c then 0 else 160):=by
 unfold Ly Hq;simp only[I1 w.segs];refine Ea (Ex λ_=>Qa _) ?_;cases a:(AG (511<(AI c.AR:Int))||((AI c.BB:Int) != ((AI c.AR+1:Nat):Int)))with
 |true=>exact Qa _
 |false=>
  simp only[Xh,VA,XY,decide_eq_false_iff_not]at a⊢;have d:AI c.BB=AI c.AR+1:=by
   grind
  refine Qy (Ea (xw c w.segs) ?_);cases Fz c with
  |false=>exact Qa _
  |true=>
   refine Ea (xv c w.segs w.row d) ?_;cases e:Fi c with
   |false=>exact Qa _
   |true=>
    refine Ea (vj c (lZ a.1 d e)) ?_;cases IE c<;>exact Qa _
set_option maxRecDepth 10000
theorem aA{x:Int}(h:Di x=AE):HN x:=by
 unfold Di CW at h;simp only[XX,Vs]at h;exact⟨h.1,h.2⟩
theorem xj{c:Bl}{e:Int}(h:e=0->DU c)(he:Ev (λn=>I2 n c) e)(t:Ev (λn=>HT n c) e)(k:Bp)(w:L4 k)(a:Int)(s:CA):
  ∃r,Ev (λn=>Lj n c k a s) r/\Ev (λn=>Np n c k a s) r:=by
 by_cases R:e≠0
 .have b1:(e != 0)=true:=by grind
  have b2:(e==0)=false:=by grind
  refine⟨({Lo:=0,Hi:=0},e),Ea he ?_,Ea t ?_⟩
  .simp only[b1,Vq];exact Qa _
  .refine Ea (v:=e) ?_ ?_
   .simp only[b2,Vr];exact Qa _
   .simp only[b1,Vq];exact Qa _
 have R:=Classical.not_not.1 R;subst R;have h:=h rfl;cases F:Hq k with
 |false=>
  have p:=lR k w;have q:=li k w;rw[F]at p q;exact⟨_,Ea he (Qy (Ea p (JZ (Qa _)))),Ea t (Ea (JZ (Ea q (Qa _))) (JZ (Qa _)))⟩
 |true=>
  have p:=lR k w;have q:=li k w;rw[F]at p q;have d:=zj F;have ds:=d.segs;have Y:∀(f g:Nat->Int->AB Bool),(∀x,Ev (λn=>f n x) (Di x))->Ev (λn=>((bif a<(-1) then AC AE else(bif (AI k.AR:Int)<=a then AC AE else(f n s.Lo).bind λQ=>(bif (!Q)then AC AE else(f n s.Hi).bind λT=>(bif (!T)then AC AE else AC (AG (s.Hi<s.Lo)))))):AB Bool))
    (AG (a<(-1))||(AG ((AI k.AR:Int)<=a)||(!Di s.Lo||(!Di s.Hi||AG (s.Hi<s.Lo))))):=λf g hf=>
   Ex λ_=>Ex λ_=>Ea (hf _) (Ex λ_=>Ea (hf _) (Ex λ_=>Qa _))
  have c1:=Y Ka Ka rs;have m:=Y IU Ka sq;unfold Lj Np;cases M:(AG (a<(-1))||(AG ((AI k.AR:Int)<=a)||(!Di s.Lo||(!Di s.Hi||AG (s.Hi<s.Lo)))))with
  |true=>
   rw[M]at c1 m;exact⟨_,Ea he (Qy (Ea p (Qy (Ea c1 (JZ (Qa _)))))),Ea t (Ea (JZ (Ea q (Qa _))) (Qy (Ea m (JZ (Qa _)))))⟩
  |false=>
   rw[M]at c1 m;simp only[XY,decide_eq_false_iff_not,Bool.not_eq_false']at M;obtain⟨g1,g2,W,X,g5⟩:=M;by_cases z:a<0
   .have J:(a== -1)=true:=by grind
    refine⟨({Lo:=s.Lo,Hi:=i64.wrap (s.Hi+c.Ak.A6)},0),Ea he (Qy (Ea p (Qy (Ea c1 (Qy ?_))))),Ea t (Ea (JZ (Ea q (Qa _))) (Qy (Ea m (Qy ?_))))⟩
    .simp_all[Qa]
    .simp only[J,Vq];exact Qa _
   .obtain⟨i,rfl⟩:∃i:Nat,a=(i:Int):=⟨a.toNat,by omega⟩;have hi:i<AI k.AR:=by omega
    have J:(((i:Nat):Int)== -1)=false:=by rfl
    have N:=XL hi;have G:HN (k.AR[i]).As:=by
     simp only[Hq,XX]at F;have:=dQ.1 F.2.1 i hi
     grind[FU,aA]
    have V:=d.get (i:=i+1) (j:=0) (by omega) (by omega);have P:=d.get (i:=0) (j:=i+1) (by omega) (by omega);have u:Bt (k.BB[i+1]?.getD []) 0=AC (Dc k (i+1) 0):=Qi V.2;have B:Bt k.BB 0=AC (k.BB[0]?.getD []):=Qi P.1;have H:=Qz (show i<9223372036854775807 by omega);cases y:Cp c (k.AR[i]).Ag with
    |false=>
     refine⟨({Lo:=0,Hi:=0},1),Ea he (Qy (Ea p (Qy (Ea c1 (Qy ?_))))),Ea t (Ea (JZ (Ea q (Qa _))) (Qy (Ea m (Qy ?_))))⟩
     .simp only[Q4 z,Vr,Qi N,XK];refine Ea (UR c _) ?_;rw[y];exact Qa _
     .simp only[J,Vr,Qi N,XK];refine Ea (UX c _) ?_;rw[y];exact Qa _
    |true=>
     have E:=y;unfold Cp at E;simp only[XX,Vs]at E;have O:=XL (l:=c.Ar) (i:=(k.AR[i]).Ag.toNat) (by omega);have L:(k.AR[i]).Ag=(((k.AR[i]).Ag.toNat:Nat):Int):=by omega
     refine⟨({Lo:=i64.wrap (i64.wrap (s.Lo+(Dx c (c.Ar[(k.AR[i]).Ag.toNat]'(by omega)).AN k.AR[i] s.Lo).Lo)-Dc k (i+1) 0),Hi:=i64.wrap (i64.wrap (s.Hi+(Dx c (c.Ar[(k.AR[i]).Ag.toNat]'(by omega)).AN k.AR[i] s.Hi).Hi)+Dc k 0 (i+1))},0),Ea he (Qy (Ea p (Qy (Ea c1 (Qy ?_))))),Ea t (Ea (JZ (Ea q (Qa _))) (Qy (Ea m (Qy ?_))))⟩
     .simp only[Q4 z,Vr,Qi N,XK];refine Ea (UR c _) ?_;rw[y];refine Qy (Ea (lS h O L G (aA W)) ?_);simp only[H,Qi V.1,u,XK];refine Ea (lS h O L G (aA X)) ?_;simp only[B,H,Qi P.2,XK];exact Qa _
     .simp only[J,Vr,Qi N,XK];refine Ea (UX c _) ?_;rw[y];refine Qy (Ea (fX h O L G (aA W)) ?_);simp only[H,Qi V.1,u,XK];refine Ea (fX h O L G (aA X)) ?_;simp only[B,H,Qi P.2,XK];exact Qa _
end Go.Sw
