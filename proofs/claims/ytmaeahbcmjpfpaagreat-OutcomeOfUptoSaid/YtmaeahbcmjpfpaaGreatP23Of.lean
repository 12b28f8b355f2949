/- The plain laws that a law needs, with no program in sight. -/
import Derived.Test.YtmaeahbcmjpfpaaGreatW23Of
set_option linter.unusedVariables false
set_option linter.unusedSimpArgs false
namespace Go.Sw
open Option renaming some→AC,none→AF
open Bool renaming false→AD,true→AE
open Decidable renaming decide→AG
open List renaming length→AI
open Go renaming Value→AL
open List(map)
open Int(toNat)
open Go.IntKind(i64 u64 u8)
theorem Dj{n:Int}(d: -9223372036854775808<=n:=by omega)(h1:n<=9223372036854775807:=by omega):i64.wrap n=n:=Qz d h1
theorem dT(p:Prop)[Decidable p](h:p:=by omega):AG p=true:=Yr h
theorem dF(p:Prop)[Decidable p](h:¬p:=by omega):AG p=false:=QN h
def C7(lo hi x:Int):Bool:=AG (lo<=x)&&AG (x<=hi)
theorem vZ(lo hi:Int)(l:AA Int)(hl:AI l<=4611686018427387904):Ev (λn=>Fv n lo hi l) (l.all (C7 lo hi)):=by
 have h:Ev (λn=>ZX n l lo hi) (l.any λx=> !C7 lo hi x):=by
  refine Ev.contains l _ (λn x=>X_ n x lo hi) hl λx _=>?_;refine Ea ((Qg λh=>Qa _).eq ?_) (Qa _);unfold C7
  grind
 refine Ea h ((Qa _).eq ?_)
 grind
def iO(c:Nat):Bool:=(AG (97<=c)&&AG (c<=122))||(AG (48<=c)&&AG (c<=57))||AG (c=95)
def Nw(c:Nat):Bool:=AG (97<=c)&&AG (c<=122)
def Ib(c:UInt8):Bool:=iO c.toNat
def SF(c:UInt8):Bool:=Nw c.toNat
def Zr:AA (AA UInt8):=[[99,111,117,114,115,101],[109,97,116,115],[115,116,97,114,116],[112,97,115,115],[101,110,100],[108,101,103],[116,111],[100,105,115,116,97,110,99,101],[103,117,110],[99,104,105,112],[115,108,111,116],[108,97,112,115],[108,97,112],[99,117,116,111,102,102],[101,120,116,114,97],[119,97,118,101],[111,102,102,101,110,99,101],[111,117,116],[99,97,116,101,103,111,114,121],[112,114,105,122,101],[97,108,108],[116,105,101,115],[105,102],[101,108,115,101],[97,110,100],[111,114],[110,111,116],[111,108,100,101,114],[121,111,117,110,103,101,114],[98,105,98],[100,114,97,119],[102,105,101,108,100],[115,104,111,114,116],[102,97,117,108,116,115],[109,105,115,115,101,115],[115,116,114,97,121,115],[119,105,110,100,111,119],[114,101,115,105,100,117,97,108],[100,114,105,102,116],[112,114,111,116,101,115,116],[102,101,101],[100,101,97,100,108,105,110,101]]
theorem r_(c d:Bool):(bif c then AC c else AC d)=AC (c||d):=gq
theorem tA(c d:Bool):(bif c then AC AE else AC d)=AC (c||d):=gq
theorem Qgn(n:Nat)(s:AA UInt8):Ra n s=AC (Zr.contains s):=by
 unfold Ra;simp only[r_,tA,XK];simp only[Zr,List.contains_cons,List.contains_nil,Bool.or_assoc]
def KV:AA UInt8->AA (AA UInt8)
 |[]=>[]
 |b::l=>(bif b==32&& !(l.dropWhile λc=>c != 32).isEmpty then[l.takeWhile λc=>c != 32]else[])++KV l
theorem ws:∀(l s:AA UInt8),(∀c∈s,c≠32)->(s++[32]).isPrefixOf l=((l.takeWhile λc=>c != 32)==s&& !(l.dropWhile λc=>c != 32).isEmpty)
 |[],s,h=>sq
 |b::l,[],h=>by
  by_cases e:b=32
  .subst e;simp
  .have e1:=by simpa using e
   have d:(32==b)=false:=gq;simp[List.isPrefixOf,e1,d]
 |b::l,c::s,h=>by
  have g:=h c sq;have f:=ws l s gq
  grind[List.takeWhile_cons,List.dropWhile_cons]
theorem contains_cons(b:UInt8)(l t:AA UInt8)(d:t≠[]):Lib.contains (b::l) t=(t.isPrefixOf (b::l)||Lib.contains l t):=by
 unfold Lib.contains;rw[show Lib.index (b::l) t=if t.isPrefixOf (b::l)then 0 else if Lib.index l t== -1 then-1 else Lib.index l t+1 from rfl]
 grind
theorem xL(s:AA UInt8)(h:∀c∈s,c≠32):∀l,Lib.contains l (32::(s++[32]))=(KV l).contains s
 |[]=>by rfl
 |b::l=>by
  rw[contains_cons b l _ sq,xL s h l]
  grind[KV,ws]
def I4:AA UInt8:=[32,99,111,117,114,115,101,32,109,97,116,115,32,115,116,97,114,116,32,112,97,115,115,32,101,110,100,32,108,101,103,32,116,111,32,100,105,115,116,97,110,99,101,32,103,117,110,32,99,104,105,112,32,115,108,111,116,32,108,97,112,115,32,108,97,112,32,99,117,116,111,102,102,32,101,120,116,114,97,32,119,97,118,101,32,111,102,102,101,110,99,101,32,111,117,116,32,99,97,116,101,103,111,114,121,32,112,114,105,122,101,32,97,108,108,32,116,105,101,115,32,105,102,32,101,108,115,101,32,97,110,100,32,111,114,32,110,111,116,32,111,108,100,101,114,32,121,111,117,110,103,101,114,32,98,105,98,32,100,114,97,119,32,102,105,101,108,100,32,115,104,111,114,116,32,102,97,117,108,116,115,32,109,105,115,115,101,115,32,115,116,114,97,121,115,32,119,105,110,100,111,119,32,114,101,115,105,100,117,97,108,32,100,114,105,102,116,32,112,114,111,116,101,115,116,32,102,101,101,32,100,101,97,100,108,105,110,101,32]
theorem Qr6:KV I4=Zr:=by decide+kernel
def D_:AA Int:=(List.range 256).map λi=>if 97<=i/\i<=122\/65<=i/\i<=90 then 2 else if 48<=i/\i<=57 then 3 else if i∈[123,125,40,41,91,93,59,44,61,60,62]then 4 else if i∈[32,9,10,13]then 1 else 0
theorem Qj7:Ev R4 D_:=by
 unfold R4;refine Ea (jc (step:=MT 0) 40 (b:=(iter (MT 0) 40 (List.replicate 256 0,97)).getD []) (by decide+kernel)) ?_;refine Ea (jc (step:=O0 0) 40 (b:=(iter (O0 0) 40 ((iter (MT 0) 40 (List.replicate 256 0,97)).getD [],48)).getD []) (by decide+kernel)) ?_;generalize hb:(iter (O0 0) 40 ((iter (MT 0) 40 (List.replicate 256 0,97)).getD [],48)).getD []=b2;refine Ea (jc (step:=WC 0) 40 (b:=(iter (WC 0) 40 (b2,0)).getD []) (by subst hb;decide+kernel)) ?_;refine Ea (jc (step:=f8 0) 40 (b:=D_) (by subst hb;decide+kernel)) ?_;exact Ez (by decide+kernel)
theorem QmA:((List.range 256).all λi=> !iO i||AG (D_[i]?=AC (if Nw i then 2 else if i=95 then 0 else 3)))=true:=by decide+kernel
theorem QoM{c:UInt8}(h:Ib c=AE):L6 256 D_ (c.toNat:Int)=AC (if SF c then 2 else if c.toNat=95 then 0 else 3):=by
 have d:=Xs.1 QmA c.toNat (List.mem_range.2 c.toNat_lt);unfold Ib at h;rw[h]at d;simp[Xg,Bool.false_or,Vt]at d;unfold L6;rw[show Nat.beq (AI D_) 256=AE by decide+kernel,Vr,Qf d];rfl
def Dt(s:AA UInt8):Bool:=AG (1<=AI s)&&AG (AI s<=24)&&(s.head?).any SF&&s.all Ib
def DW(s:AA UInt8):Bool:=Dt s&& !Zr.contains s
theorem Qmn(s:AA UInt8)(h:Dt s=AE):Ev (λn=>Rd n s) true:=by
 unfold Dt at h;simp only[XX,Vt,Xs]at h;obtain⟨⟨⟨f,q⟩,t⟩,g⟩:=h;unfold Rd;refine Ea Qj7 ?_;refine Qj (v:=List.replicate 256 0) (by decide+kernel) ?_;refine Qj (v:=D_) (by decide+kernel) ?_;refine Ea (v:=CJ.k ()) (Ev.iter (λi=>(i:Int)) (AI s) rfl (λi m=>?_) ?_) ?_
 .have d:=YH (x:=s[i]) om (XL m);have j:=g _ d.mem;unfold WM;simp only[d.lt,Vr,d.ix,XK,QoM j,d.nx];cases i with
  |zero=>
   have:SF s[0]=true:=by
    cases s with
    |nil=>simp at f
    |cons c r=>grind
   simp[this];exact Qa _
  |succ i=>
   grind[Qa]
 .simp_all[WM,Qa]
 .refine Ez ?_;cases s with
  |nil=>simp at f
  |cons c r=>rfl
theorem Qmb{s:AA UInt8}(h:Dt s=AE):∀c∈s,c≠32:=by
 unfold Dt at h;simp[XX,Xs]at h;rintro c d rfl;exact absurd (h.2 _ d) (by decide)
theorem Qn2{s:AA UInt8}(h:Dt s=AE):AI s<=24:=by
 simp_all[Dt]
theorem Qj8(s:AA UInt8)(h:Dt s=AE):Ev (λn=>Zb n s) (Zr.contains s):=by
 refine Ea (Ea (Qmn s h) (Jk ?_)) (Qa _);have hl:=Qn2 h;refine Qj (by unfold cat;rw[XT (by simp;omega)];rfl) (Qj (by unfold cat;rw[XT (by simp;omega)];rfl) ?_);refine Qj ?_ (Qa _);show eY I4 ([32]++s++[32])=AC (Zr.contains s);unfold eY;rw[show Nat.blt (AI I4) 4294967281=AE by decide+kernel,Vr]
 grind[xL,Qmb,Qr6]
theorem dt(c:UInt8)(k:Nat):AG ((c.toNat:Int)<(k:Int))=AG (c.toNat<k):=by
 simp
theorem Ti(c:UInt8):(bif (c.toNat:Int)<97 then(bif (c.toNat:Int)<48 then AC ((c.toNat:Int) != 95)else(bif 57<(c.toNat:Int) then AC ((c.toNat:Int) != 95)else AC AD))else(bif 122<(c.toNat:Int) then(bif (c.toNat:Int)<48 then AC ((c.toNat:Int) != 95)else(bif 57<(c.toNat:Int) then AC ((c.toNat:Int) != 95)else AC AD))else AC AD))=AC (!Ib c):=by
 unfold Ib iO;generalize c.toNat=k;have e:((k:Int) != 95)= !decide (k=95):=by
  grind
 grind
theorem vh(n:Nat)(s:AA UInt8):(bif (AI s:Int)<1 then AC AE else(bif 24<(AI s:Int) then AC AE else(CN s 0).bind λx10=>(bif (x10.toNat:Int)<97 then AC AE else(CN s 0).bind λx12=>AC (AG (122<(x12.toNat:Int))))))=AC (!(AG (1<=AI s)&&AG (AI s<=24)&&(s.head?).any SF)):=by
 cases s with
 |nil=>rfl
 |cons c r=>
  by_cases h:AI (c::r)<=24
  .rw[QN (show¬24<(AI (c::r):Int)by omega),Vs];have g:CN (c::r) 0=AC c:=rfl;simp[g,XK];simp[X3]at h;have j:AI r<=23:=om;simp[List.head?_cons,Option.any_some,SF,Nw];rw[show(97:Int)=(97:Nat)from rfl,dt];by_cases d:c.toNat<97
   .grind
   .have f:97<=c.toNat:=by omega
    simp[d,f,j];by_cases q:c.toNat<=122
    iterate 2 grind
  grind
theorem vT(s:AA UInt8)(hl:AI s<=1048576):Ev (λn=>HG n s) (DW s):=by
 refine Ea (Ez (vh 0 s)) ?_;unfold DW;cases h:(AG (1<=AI s)&&AG (AI s<=24)&&(s.head?).any SF)with
 |false=>
  have:Dt s=false:=by unfold Dt;rw[h];rfl
  rw[this];exact Qa _
 |true=>
  have g:Dt s=s.all Ib:=by unfold Dt;rw[h];rfl
  refine Ea (Ja s (λc=> !Ib c) (λi=>(i:Int)) (CJ.d AD) (CJ.k ()) om rfl (λi x d f=>?_) (λi x d f=>?_) ?_) ?_
  .unfold O4;simp only[d.lt,d.ix,XK,Ti,f,d.nx];exact Qa _
  .unfold O4;simp only[d.lt,d.ix,XK,Ti,f];exact Qa _
  .simp_all[O4,Qa]
  .rw[g];have e:s.any (λc=> !Ib c)= !s.all Ib:=gq;rw[e];cases q:s.all Ib with
   |true=>
    exact Ea (Qj8 s (g.trans q)) (Qa _)
   |false=>
    exact Qa _
theorem jn(s:AA UInt8)(hl:AI s<=1048576):Ev (λn=>P5 n s) (DW s):=by
 refine Ea (Ez (vh 0 s)) ?_;unfold DW;cases f:(AG (1<=AI s)&&AG (AI s<=24)&&(s.head?).any SF)with
 |false=>
  have:Dt s=false:=by unfold Dt;rw[f];rfl
  rw[this];exact Qa _
 |true=>
  have h:Dt s=s.all Ib:=by unfold Dt;rw[f];rfl
  cases s with
  |nil=>simp at f
  |cons c r=>
   have m:Ib c=true:=by
    simp_all[SF,Ib,iO,Nw]
   have hr:=by
    simp[XX,Vt,X3]at f;omega
   have j:∀(i:Nat) (x:UInt8),At r i x->AG (((i+1:Nat):Int)<AI (c::r))=AE/\CN (c::r) (i+1:Nat)=AC x/\i64.wrap ((i+1:Nat)+1)=i+1+1:=by
    intro i x d;have:=d.lt';exact⟨(by grind),Qf (by simpa using d.get),QL om⟩
   refine Ea (Ja r (λc=> !Ib c) (λi=>((i+1:Nat):Int)) (CJ.d AD) (CJ.k ()) om rfl (λi x d g=>?_) (λi x d g=>?_) ?_) ?_
   iterate 2 grind[ZS,Ti,Qa]
   .unfold ZS;rw[QN sq,Vs];exact Qa _
   .rw[h];have e:r.any (λc=> !Ib c)= !(c::r).all Ib:=by grind
    rw[e];cases q:(c::r).all Ib with
    |true=>
     simp_all[Qgn,Qa]
    |false=>
     exact Qa _
def De:AA (AA UInt8)->AA (AA UInt8)->Bool
 |_,[]=>AE
 |seen,x::r=>DW x&& !seen.contains x&&De (seen++[x]) r
theorem wM(l:AA (AA UInt8))(i:Nat)(x:AA UInt8)(h:At l i x):De (l.take i) (l.drop i)=(DW x&& !(l.take i).contains x&&De (l.take (i+1)) (l.drop (i+1))):=by
 rw[h.drop,h.take];rfl
theorem e9{α:Type}(l:AA α)(d:α->AA UInt8)(g:Nat->α->AB Unit)(hg:∀n x,g n x=AC ())(hl:AI l<=1048576)(hn:∀x∈l,AI (d x)<=1048576):
  Ev (λn=>((iter (λs:(AA (AA UInt8×Bool))×Int=>bif s.2<(AI l:Int) then(CN l s.2).bind λx35=>(g n x35).bind λr36=>((HG n (d x35)).bind λr42=>(bif (!r42)then AC AE else(AC (Qd s.1 (d x35) AD)).bind λv44=>AC v44):AB Bool).bind λb40=>(bif b40 then AC (.d (.d AD))else(AC (QE s.1 (d x35) AE)).bind λm46=>AC (.k (m46,i64.wrap (s.2+1))))else AC (.d (.k ()))) n ([],0):AB (CJ Unit Bool)).bind λb28=>
   match b28 with
   |.k _=>AC AE
   |.d s=>AC s:AB Bool)) (De [] (l.map d)):=by
 have m:AI l<=4611686018427387904:=om;have q:AI (l.map d)<=4611686018427387904:=gq;have j:=pD (B:=CJ Unit Bool) l (step:=λn s=>bif s.2<(AI l:Int) then(CN l s.2).bind λx35=>(g n x35).bind λr36=>((HG n (d x35)).bind λr42=>(bif (!r42)then AC AE else(AC (Qd s.1 (d x35) AD)).bind λv44=>AC v44)).bind λb40=>(bif b40 then AC (.d (.d AD))else(AC (QE s.1 (d x35) AE)).bind λm46=>AC (.k (m46,i64.wrap (s.2+1))))else AC (.d (.k ())))
  (λi=>(Ym d AE (l.take i),i)) (λi=>bif De ((l.map d).take i) ((l.map d).drop i)then .k ()else .d AD) m rfl (λi x h=>?_) ?_
 .refine Ea j ?_
  grind[Qa]
 .have ha2:=YH q (by rw[Xo,h.get];rfl);simp only[wM _ _ _ ha2];have f:Ev (λn=>(HG n (d x)).bind λr42=>(bif (!r42)then AC AE else(AC (Qd (Ym d AE (l.take i)) (d x) AD)).bind λv44=>AC v44)) (!(DW (d x)&& !((l.map d).take i).contains (d x))):=by
   refine Ea (vT (d x) (hn x h.mem)) ?_;cases DW (d x)with
   |false=>exact Qa _
   |true=>
    simp_all[Qa,wq]
  cases t:(DW (d x)&& !((l.map d).take i).contains (d x))with
  |true=>
   rw[t]at f;refine .inl ⟨?_,sq⟩;simp only[h.lt,h.ix,XK,hg];refine Ea f ?_;simp[h.nx];rw[h.take,Qhu];exact Qa _
  |false=>
   rw[t]at f;refine .inr ?_;simp only[h.lt,h.ix,XK,hg];refine Ea f ?_;exact Qa _
 .simp[Jd];rw[show(l.map d).drop (AI l)=[]by simp];exact Qa _
theorem Se{α:Type}{l:AA α}{x:α}(h:AI l<=140737488):app l [x]=AC (l++[x]):=QqB l x om
theorem QeD(l:AA (AA UInt8))(hl:AI l<=1048576)(hn:∀x∈l,AI x<=1048576):Ev (λn=>Im n l) (De [] l):=by
 have h:AI l<=4611686018427387904:=om;refine Ea (pD l (λi=>(i:Int)) (λi=>bif De (l.take i) (l.drop i)then .k ()else .d AD) h rfl (λi x d=>?_) ?_) ?_
 .simp only[wM _ _ _ d];unfold VU;simp only[d.lt,d.ix,XK];cases hx:DW x with
  |false=>
   exact .inr (Ea ((jn x (hn x d.mem)).eq hx) (Qa _))
  |true=>
   have B:=d.lt';have inner:Ev (λn=>iter (Md n l i) n 0) (bif (l.take i).contains x then CJ.d (CJ.d (CJ.d AD))else CJ.k ()):=by
    have e:(l.take i).contains x=(l.take i).any λy=>y==x:=by
     grind
    rw[e];have q:AI (l.take i)=i:=by simp;omega
    refine Ja (l.take i) (λy=>y==x) (λi=>(i:Int)) _ _ om rfl (λj y f g=>?_) (λj y f g=>?_) ?_
    .have m:=f.lt';have hjg:=by
      have:=f.get;rw[List.getElem?_take]at this;split at this
      .exact this
      .cases this
     unfold Md;rw[dT ((j:Int)<i)];simp only[Qf hjg,d.ix,XK,g,f.nx];exact Qa _
    .have m:=f.lt';have hjg:=by
      have:=f.get;rw[List.getElem?_take]at this;split at this
      .exact this
      .cases this
     unfold Md;rw[dT (j<(i:Int))];simp only[Qf hjg,d.ix,XK,g];exact Qa _
    grind[Md,Qa]
   cases t:(l.take i).contains x with
   |true=>
    rw[t]at inner;exact .inr (Ea ((jn x (hn x d.mem)).eq hx) (Qo (Ea inner (Qa _))))
   |false=>
    rw[t]at inner;refine .inl ⟨Ea ((jn x (hn x d.mem)).eq hx) (Qo (Ea inner ?_)),sq⟩;simp only[d.nx];exact Qa _
 .unfold VU;simp only[Jd,Xr];exact Qa _
 grind[Qa]
theorem T_{α β:Type}(l:AA α)(f:α->β)(hl:AI l<=140737488):Ev (λn=>iter (λs:(AA β)×Int=>bif s.2<(AI l:Int) then(CN l s.2).bind λx15=>(app s.1 [f x15]).bind λl16=>AC (CJ.k (l16,i64.wrap (s.2+1)))else AC (CJ.d s.1)) n (([]:AA β),(0:Int))) (l.map f):=by
 have e:∀l:AA α,l.foldl (λa x=>a++[f x]) []=l.map f:=by
  intro l;have h:∀(l:AA α) (a:AA β),l.foldl (λa x=>a++[f x]) a=a++l.map f:=by
   intro l
   induction l with
   |nil=>simp
   |cons x l j=>grind
  grind
 rw[<- e l];refine Yu l (λa x=>a++[f x]) [] (λa i=>(a,(i:Int))) (λa=>a) om rfl (λi x a d g=>?_) ?_
 .rw[e]at g;have:AI a<=140737488:=gq;simp only[d.lt,d.ix,Se this,d.nx];exact Qa _
 .simp[Jd];exact Qa _
def GG(c:CE):Bool:=DW c.Ar&&(De [] (c.An.map (·.Ar))&&(De [] (c.AO.map (·.Ar))&&(De [] (c.Ax.map (·.Ar))&&(De [] (c.Ah.map (·.Ar))&&De [] (c.Ac.map (·.Ar))))))
structure Cx (c:CE):Prop where
 name:AI c.Ar<=1048576
 mats:AI c.An<=1048576
 matsN:∀x∈c.An,AI x.Ar<=1048576
 legs:AI c.As<=1048576
 dist:AI c.AO<=1048576
 distN:∀x∈c.AO,AI x.Ar<=1048576
 cut:∀x∈c.AO,AI x.Am<=1048576
 wave:AI c.Ax<=1048576
 waveN:∀x∈c.Ax,AI x.Ar<=1048576
 off:AI c.Ah<=1048576
 offN:∀x∈c.Ah,AI x.Ar<=1048576
 cat:AI c.Ac<=1048576
 catN:∀x∈c.Ac,AI x.Ar<=1048576
 prize:AI c.A3<=1048576
theorem Qoo(c:CE)(w:Cx c):Ev (λn=>Za n c) (GG c):=by
 refine Ea (Ea (vT c.Ar w.name) (Eh λ_=>?_)) (Qa _);have g:Ev (λn=>ZB n c.An) (De [] (c.An.map (·.Ar))):=by exact e9 c.An (·.Ar) Wy (λ_ _=>rfl) w.mats w.matsN
 have d:Ev (λn=>W6 n c.AO) (De [] (c.AO.map (·.Ar))):=by exact e9 c.AO (·.Ar) ZN (λ_ _=>rfl) w.dist w.distN
 have h:Ev (λn=>Wf n c.Ax) (De [] (c.Ax.map (·.Ar))):=by exact e9 c.Ax (·.Ar) Wq (λ_ _=>rfl) w.wave w.waveN
 have f:Ev (λn=>Wk n c.Ah) (De [] (c.Ah.map (·.Ar))):=by exact e9 c.Ah (·.Ar) W3 (λ_ _=>rfl) w.off w.offN
 have j:Ev (λn=>W7 n c.Ac) (De [] (c.Ac.map (·.Ar))):=by exact e9 c.Ac (·.Ar) ZM (λ_ _=>rfl) w.cat w.catN
 refine Ea g (Eh λ_=>(Ea d (Eh λ_=>?_)));refine Ea h (Eh λ_=>?_);exact Ea f (Eh gq)
structure SK (c:CE):Prop where
 mats:AI c.An<=140737488
 dist:AI c.AO<=140737488
 wave:AI c.Ax<=140737488
 off:AI c.Ah<=140737488
 cat:AI c.Ac<=140737488
theorem Qja(c:CE)(w:Cx c)(s:SK c):Ev (λn=>ZC n c) (GG c):=by
 refine Ea (T_ c.An (·.Ar) s.mats) (Ea (T_ c.AO (·.Ar) s.dist) ?_);refine Ea (T_ c.Ax (·.Ar) s.wave) (Ea (T_ c.Ah (·.Ar) s.off) ?_);refine Ea (T_ c.Ac (·.Ar) s.cat) (Ea ?_ (Qa _));refine Ea (jn c.Ar w.name) (Eh λ_=>?_);have mk:∀{α:Type} (l:AA α) (nm:α->AA UInt8),AI l<=1048576->(∀x∈l,AI (nm x)<=1048576)->Ev (λn=>Im n (l.map nm)) (De [] (l.map nm)):=by
  simp_all[QeD]
 refine Ea (mk c.An (·.Ar) w.mats w.matsN) (Eh λ_=>(Ea (mk c.AO (·.Ar) w.dist w.distN) (Eh λ_=>?_)));refine Ea (mk c.Ax (·.Ar) w.wave w.waveN) (Eh λ_=>(Ea (mk c.Ah (·.Ar) w.off w.offN) (Eh λ_=>?_)));exact Ea (mk c.Ac (·.Ar) w.cat w.catN) (Qa _)
theorem UO{n:Nat}(h:n<=1048576):i64.wrap ((n:Int)-1)=(n:Int)-1:=Dj
theorem JM(x lo hi:Int):Ev (λn=>GW n x lo hi) (C7 lo hi x):=by
 exact Ea (Eh λ_=>Qa _) (Qa _)
theorem ec(c:CE)(w:Cx c)(x:Int):Ev (λn=>HI n c x) (C7 0 ((AI c.An:Int)-1) x):=by
 unfold HI;rw[UO w.mats];exact Ea (JM _ _ _) (Qa _)
mutual
def Sy:CM->Nat
 |⟨_,_,ps⟩=>1+Co ps
def Co:AA CM->Nat
 |[]=>0
 |p::r=>Sy p+Co r
end
theorem Yw(p:CM):Sy p=1+Co p.Aa:=by cases p;rfl
theorem YK{p:CM}:∀{l:AA CM},p∈l->Sy p<=Co l
 |q::r,h=>by
  simp[Co];rcases X9.1 h with rfl|h
  .omega
  .have:=YK h;omega
mutual
def GT(k:Int):CM->Bool
 |⟨m,laps,ps⟩=>bif laps==0 then C7 0 k m&&((AI ps:Int)==0)else C7 1 64 laps&&((m==0)&&(AG (0<(AI ps:Int))&&C3 k ps))
def C3(k:Int):AA CM->Bool
 |[]=>AE
 |p::r=>GT k p&&C3 k r
end
theorem UL(k:Int)(p:CM):GT k p=bif p.Aj==0 then C7 0 k p.Af&&((AI p.Aa:Int)==0)else C7 1 64 p.Aj&&((p.Af==0)&&(AG (0<(AI p.Aa:Int))&&C3 k p.Aa)):=by cases p;rfl
theorem Y1(k:Int):∀l:AA CM,C3 k l=l.all (GT k)
 |[]=>rfl
 |p::r=>by simp[C3,List.all_cons,Y1 k r]
theorem Q2{p:CM}(h:CM.wf p):AI p.Aa<=1048576/\ ∀x∈p.Aa,CM.wf x:=by
 cases p
 grind[CM.wf,xE]
theorem QK(lo hi x:Int):Ev (λn=>Fv n lo hi [x]) (C7 lo hi x):=(vZ lo hi [x] sq).eq sq
theorem fa(lo hi x y:Int):Ev (λn=>Fv n lo hi [x,y]) (C7 lo hi x&&C7 lo hi y):=(vZ lo hi [x,y] sq).eq sq
theorem Qon(k:Int):∀(m:Nat) (l:AA CM),Co l<=m->AI l<=1048576->(∀x∈l,CM.wf x)->Ev (λn=>LW n l k) (C3 k l):=by
 intro m
 induction m with
 |zero=>
  intro l f hl d;cases l with
  |nil=>
   refine Yy ?_;exact Jo [] (GT k) (λn x=>PO (LW n) n x k) sq sq
  |cons p r=>
   simp only[Co,Yw]at f;omega
 |succ m q=>
  intro l f hl d;refine Yy ?_;rw[Y1];refine Jo l (GT k) (λn x=>PO (LW n) n x k) om λp g=>?_;rw[UL];have h:=YK g;rw[Yw]at h;obtain⟨j,t⟩:=Q2 (d p g);refine YQ (λ_=>?_) (λ_=>?_)
  .exact Ea (Ea (QK _ _ _) (Eh λ_=>Qa _)) (Qa _)
  .exact Ea (Ea (QK _ _ _) (Eh λ_=>Eh λ_=>Eh gq)) (Qa _)
theorem Qmm(c:CE)(w:Cx c):∀(m:Nat) (l:AA CM),Co l<=m->AI l<=1048576->(∀x∈l,CM.wf x)->Ev (λn=>US n c l) (C3 ((AI c.An:Int)-1) l):=by
 intro m
 induction m with
 |zero=>
  intro l g hl f;cases l with
  |nil=>
   refine Yy ?_;show Ev (λn=>j3 (US n) n c []) _;exact⟨1,λn hn=>by obtain⟨k,rfl⟩:∃k,n=k+1:=⟨n-1,om⟩;rfl⟩
  |cons p r=>
   simp only[Co,Yw]at g;omega
 |succ m q=>
  intro l g hl f;refine Yy ?_;show Ev (λn=>j3 (US n) n c l) _;rw[Y1];have step:∀(i:Nat) (x:CM),At l i x->Ev (λn=>PG n c l (US n) i) (bif GT (AI c.An-1) x then .k (i+1)else .d (.d AD)):=by
   intro i x d;unfold PG;simp only[d.lt,d.ix,XK,d.nx];have t:=YK d.mem;rw[Yw]at t;obtain⟨h,B⟩:=Q2 (f x d.mem);refine Ea (Eh λ_=>Ea (ec c w _) (Eh λ_=>Qa _)) (Ea (Ea (JM _ _ _) (Eh λ_=>Eh λ_=>Eh λ_=>Ea (q x.Aa om h B) (Qa _))) ?_);rw[UL];cases y:(x.Aj==0)with
   |true=>
    have e0:=by simpa using y
    have:C7 1 64 x.Aj=false:=by rw[e0];rfl
    grind[Qa]
   |false=>
    grind[Qa]
  refine Ea (Ja l (λx=> !GT (AI c.An-1) x) (λi=>(i:Int)) (CJ.d AD) (CJ.k ()) om rfl (λi x d j=>?_) (λi x d j=>?_) ?_) ?_
  .grind
  .grind
  .simp_all[PG,Qa]
  grind[Qa]
def Id(k:Int)(l:C2):Bool:=(C7 0 k l.A5&&C7 0 k l.To)&&((C7 0 68719476736 l.Bn&&C7 0 68719476736 l.Bs)&&AG (l.Bn<=l.Bs))
def H7(k:Int)(x:CX):Bool:=C7 0 k x.Af&&(AG (1<=x.B9)&&C7 0 1099511627776 x.Bu)
def FZ(k:Int)(d:AN):Bool:=C7 1 3 d.BI&&(C7 (-1) k d.Ae&&(C3 k d.Ab&&d.Am.all (H7 k)))
def JO(o:Ag):Bool:=bif o.BP then(o.BV==0)&&(o.Aj==0)else bif o.Aj != 0 then(o.BV==0)&&C7 1 64 o.Aj else C7 0 68719476736 o.BV
def JT(x:AZ):Bool:=(C7 0 120 x.A5&&C7 0 120 x.To)&&AG (x.A5<=x.To)
def Fr(c:CE)(p:Cc):Bool:=C7 0 ((AI c.AO:Int)-1) p.AN&&(C7 (-1) ((AI c.Ac:Int)-1) p.AZ&&(C7 1 4000 p.Bk&&C7 1 1125899906842624 p.BW))
def Ie(c:CE):Bool:=(C7 0 16 c.AT.BK&&C7 0 16 c.AT.BF)&&((C7 0 4294967296 c.AT.BH&&C7 0 4294967296 c.AT.A0)&&(C7 0 100000 c.AT.Ba&&(C7 0 1125899906842624 c.B7&&C7 0 1099511627776 c.BL)))
def C0(l:C2):Uk:={Be:=l.A5,to_:=l.To}
def DC(p:Cc):Um:={B6:=p.AN,B3:=p.AZ,CD:=p.Bk}
def Cw(c:CE):Bool:=
 let k:=(AI c.An:Int)-1
 c.An.all (λm=>C7 1 3 m.AV)&&(c.As.all (Id k)&&(AG ((c.As.map C0).Nodup)&&(c.AO.all (FZ k)&&(c.Ax.all (λw=>C7 0 1099511627776 w.B0)&&(c.Ah.all JO&&(c.Ac.all JT&&(c.A3.all (Fr c)&&(AG ((c.A3.map DC).Nodup)&&Ie c))))))))
structure Dx (c:CE):Prop where
 len:∀d∈c.AO,AI d.Ab<=1048576
 wf:∀d∈c.AO,∀x∈d.Ab,CM.wf x
theorem QhK(l:AA C2)(hl:AI l<=1048576):Ev (λn=>W0 n l) (AG ((l.map C0).Nodup)):=by
 refine Ea (pC l C0 AE om (λi x m d=>?_) (λm=>?_)) ((Qa _).eq ?_)
 .unfold VW We;simp only[d.lt,d.ix,d.nx];exact Qa _
 .simp_all[VW,Qa]
 .rw[XZ];simp[VA,Vt]
  grind[xP]
theorem QfO(l:AA Cc)(hl:AI l<=1048576):Ev (λn=>Wz n l) (AG ((l.map DC).Nodup)):=by
 refine Ea (pC l DC AE om (λi x m d=>?_) (λm=>?_)) ((Qa _).eq ?_)
 .unfold U1 Wh;simp only[d.lt,d.ix,d.nx];exact Qa _
 .simp_all[U1,Qa]
 .rw[XZ];simp[VA,Vt]
  grind[xP]
theorem Qj2(c:CE)(w:Cx c)(q:Dx c):Ev (λn=>Rh n c) (Cw c):=by
 unfold Rh Cw;rw[UO w.mats];refine Ea (v:=_) ?_ (Qa _);have j:Ev (λn=>PP n c.An) (c.An.all λm=>C7 1 3 m.AV):=by
  unfold PP ZY Y';refine Jo c.An _ (λn x=>PV n x) (by have:=w.mats;omega) λx hx=>?_
  simp_all[PV,QK]
 have g:Ev (λn=>P6 n c.As ((AI c.An:Int)-1)) (c.As.all (Id ((AI c.An:Int)-1))):=by
  unfold P6 ZG ZD;refine Jo c.As _ (λn x=>Pn n x _) (by have:=w.legs;omega) λx hx=>?_;unfold Pn;exact Ea (Ea (fa _ _ _ _) (Eh λ_=>Ea (fa _ _ _ _) (Eh λ_=>Qa _))) (Qa _)
 have h:Ev (λn=>PZ n c.AO ((AI c.An:Int)-1)) (c.AO.all (FZ ((AI c.An:Int)-1))):=by
  unfold PZ W_ Wo;refine Jo c.AO _ (λn x=>P0 n x _) (by have:=w.dist;omega) λx hx=>?_;unfold P0;have F:Ev (λn=>P7 n x.Am ((AI c.An:Int)-1)) (x.Am.all (H7 ((AI c.An:Int)-1))):=by
   unfold P7 ZJ W9;refine Jo x.Am _ (λn x=>P8 n x _) (by have:=w.cut x hx;omega) λy E=>?_;unfold P8;exact Ea (Ea (QK _ _ _) (Eh λ_=>Eh λ_=>Ea (QK _ _ _) (Qa _))) (Qa _)
  exact Ea (Ea (QK _ _ _) (Eh λ_=>Ea (QK _ _ _) (Eh λ_=>Ea (Qon _ _ x.Ab (XU _) (q.len x hx) (q.wf x hx)) (Eh (by grind))))) (Qa _)
 have B:Ev (λn=>RI n c.Ax) (c.Ax.all λw=>C7 0 1099511627776 w.B0):=by
  unfold RI ZT ZI;refine Jo c.Ax _ (λn x=>PY n x) (by have:=w.wave;omega) λx hx=>?_
  simp_all[PY,QK]
 have d:Ev (λn=>PQ n c.Ah) (c.Ah.all JO):=by
  unfold PQ ZQ ZU;refine Jo c.Ah _ (λn x=>RK n x) (by have:=w.off;omega) λx hx=>?_;unfold RK JO;refine YQ (λ_=>Ea (Eh λ_=>Qa _) (Qa _)) λ_=>YQ (λ_=>Ea (Eh λ_=>Ea (QK _ _ _) (Qa _)) (Qa _)) λ_=>Ea (QK _ _ _) (Qa _)
 have t:Ev (λn=>Pg n c.Ac) (c.Ac.all JT):=by
  unfold Pg W2 Wg;refine Jo c.Ac _ (λn x=>RV n x) (by have:=w.cat;omega) λx hx=>?_;unfold RV;exact Ea (Ea (fa _ _ _ _) (Eh λ_=>Qa _)) (Qa _)
 have f:Ev (λn=>PN n c.A3 c) (c.A3.all (Fr c)):=by
  unfold PN ZA ZE;refine Jo c.A3 _ (λn x=>Py n x c) (by have:=w.prize;omega) λx hx=>?_;unfold Py;rw[UO w.dist,UO w.cat];exact Ea (Ea (QK _ _ _) (Eh λ_=>Ea (QK _ _ _) (Eh λ_=>Ea (QK _ _ _) (Eh λ_=>Ea (QK _ _ _) (Qa _))))) (Qa _)
 refine Ea j (Eh λ_=>Ea g (Eh λ_=>Ea (QhK _ w.legs) (Eh λ_=>Ea h (Eh λ_=>Ea B (Eh λ_=>Ea d (Eh λ_=>Ea t (Eh λ_=>Ea f (Eh λ_=>Ea (QfO _ w.prize) (Eh λ_=>?_)))))))));exact Ea (fa _ _ _ _) (Eh λ_=>Ea (fa _ _ _ _) (Eh λ_=>Ea (QK _ _ _) (Eh λ_=>Ea (QK _ _ _) (Eh λ_=>Ea (QK _ _ _) (Qa _)))))
theorem OA{a b a' b':Int}:(({Be:=a,to_:=b}:Uk)={Be:=a',to_:=b'})↔a=a'/\b=b':=sq
theorem QfN(c:CE)(w:Cx c)(d:AN)(j:AI d.Ab<=1048576)(q:∀x∈d.Ab,CM.wf x)(t:AI d.Am<=1048576):Ev (λn=>Y_ n c d) (FZ ((AI c.An:Int)-1) d):=by
 have step:∀(i:Nat) (x:CX),At d.Am i x->Ev (λn=>O3 n c d i) (bif H7 (AI c.An-1) x then .k (i+1)else .d (.d AD)):=by
  intro i x f;unfold O3;simp only[f.lt,f.ix,XK,f.nx];have:Ev (λn=>(HI n c x.Af).bind λh=>(bif (!h)then AC AE else(bif x.B9<1 then AC AE else(GW n x.Bu 0 1099511627776).bind λg=>AC (!g)))) (!H7 (AI c.An-1) x):=by
   refine Ea (ec c w _) (Et (Qg λ_=>Qg λ_=>Ea (JM _ _ _) (Qa _)) ?_)
   grind[H7]
  refine Ea this ?_
  grind[Qa]
 refine Ea (Ja d.Am (λx=> !H7 (AI c.An-1) x) (λi=>(i:Int)) (CJ.d AD) (CJ.k ()) om rfl (λi x f m=>?_) (λi x f m=>?_) ?_) ?_
 .grind
 .grind
 .simp_all[O3,Qa]
 .have e:d.Am.any (λx=> !H7 (AI c.An-1) x)= !d.Am.all (H7 (AI c.An-1)):=by grind
  rw[e];unfold FZ;have hx:C7 (-1) (AI c.An-1) d.Ae=((d.Ae== -1)||C7 0 (AI c.An-1) d.Ae):=by
   unfold C7
   grind
  cases d.Am.all (H7 (AI c.An-1))with
  |false=>
   simp[Bool.and_false];exact Qa _
  |true=>
   simp only[Bool.and_true];refine Ea (Ea (JM _ _ _) ((Eh λ_=>Ea (Qmm c w _ d.Ab (XU _) j q) (Eh λ_=>Qg λ_=>Ea (ec c w _) (Qa _))).eq ?_)) (Qa _)
   grind
theorem Ye{α B:Type}{step:Nat->Int->AB (CJ Int B)}(l:AA α)(ok:α->Bool)(d b:B)(hl:AI l<=4611686018427387904)
  (hs:∀i x,At l i x->Ev (λn=>step n (i:Int)) (bif ok x then .k ((i+1:Nat):Int)else .d d))(f:Ev (λn=>step n (AI l:Int)) (.d b)):
  Ev (λn=>Go.Sw.iter (step n) n 0) (bif l.all ok then b else d):=by
 have e:(bif l.all ok then b else d)=bif l.any (λx=> !ok x)then d else b:=by
  grind
 rw[e];refine Ja l (λx=> !ok x) (λi=>(i:Int)) d b hl rfl (λi x g h=>?_) (λi x g h=>?_) f
 .grind
 grind
theorem QhH(c:CE)(w:Cx c)(q:Dx c):Ev (λn=>P_ n c) (Cw c):=by
 unfold P_ Cw;have Q:Ev (λn=>iter (Ou n c) n 0) (bif c.An.all (λm=>C7 1 3 m.AV)then CJ.k ()else CJ.d AD):=by
  refine Ye c.An _ _ _ (by have:=w.mats;omega) (λi x d=>?_) ?_
  .unfold Ou;simp only[d.lt,Vr,d.ix,XK,d.nx];refine Ea (JM _ _ _) ?_;cases C7 1 3 x.AV<;>exact Qa _
  simp_all[Ou,Qa]
 have O:Ev (λn=>iter (K6 n c) n 0) (bif c.As.all (Id ((AI c.An:Int)-1))&&AG ((c.As.map C0).Nodup)then CJ.k ()else CJ.d AD):=by
  have first:∀x:C2,Ev (λn=>((HI n c x.A5).bind λF=>(bif (!F)then AC AE else(HI n c x.To).bind λH=>(bif (!H)then AC AE else(bif x.Bn<0 then AC AE else(bif x.Bs<x.Bn then AC AE else AC (AG (68719476736<x.Bs)))))):AB Bool)) (!Id ((AI c.An:Int)-1) x):=by
   intro x;refine Ea (ec c w _) (Et (Qg λ_=>Ea (ec c w _) (Qg λ_=>Qg λ_=>Qg λ_=>Qa _)) ?_);unfold Id C7
   grind
  have inner:∀(i:Nat) (x:C2),At c.As i x->Ev (λn=>iter (Mb n c (i:Int) x) n 0) (bif ((c.As.take i).map C0).contains (C0 x)then CJ.d (CJ.d (CJ.d AD))else CJ.k ()):=by
   intro i x d;have M:=d.lt';refine uH c.As i C0 (C0 x) _ _ (by have:=w.legs;omega) om (λj y N t hk=>?_) (λj y N t hk=>?_) ?_
   .unfold Mb;rw[dT ((j:Int)<(i:Int))];simp only[Vr,t.ix,XK,t.nx];have h:¬(y.A5=x.A5/\y.To=x.To):=by simpa[C0]using hk
    refine Ea (Eh λ_=>Qa _) ?_
    grind[Qa]
   .unfold Mb;rw[dT ((j:Int)<(i:Int))];simp only[Vr,t.ix,XK,t.nx]
    simp_all[C0,Qa]
   grind[Mb,Qa]
  refine rx c.As (Id ((AI c.An:Int)-1)) C0 _ _ (by have:=w.legs;omega) (λi x d f hk=>?_) (λi x d f=>?_) (λi x d f hk=>?_) ?_
  .unfold K6;simp only[d.lt,Vr,d.ix,XK,d.nx];have g:=first x;rw[f]at g
   have B:=inner i x d;rw[hk]at B;exact Ea g (Qo (Ea B (Qa _)))
  .unfold K6;simp only[d.lt,Vr,d.ix,XK,d.nx];have g:=first x;rw[f]at g
   exact Ea g (Qa _)
  .unfold K6;simp only[d.lt,Vr,d.ix,XK,d.nx];have g:=first x;rw[f]at g
   have B:=inner i x d;rw[hk]at B;exact Ea g (Qo (Ea B (Qa _)))
  simp_all[K6,Qa]
 have P:Ev (λn=>iter (Oh n c) n 0) (bif c.AO.all (FZ ((AI c.An:Int)-1))then CJ.k ()else CJ.d AD):=by
  refine Ye c.AO _ _ _ (by have:=w.dist;omega) (λi x d=>?_) ?_
  .unfold Oh;simp only[d.lt,Vr,d.ix,XK,d.nx];refine Ea (QfN c w x (q.len x d.mem) (q.wf x d.mem) (w.cut x d.mem)) ?_
   grind[Qa]
  simp_all[Oh,Qa]
 have T:Ev (λn=>iter (O8 n c) n 0) (bif c.Ax.all (λw=>C7 0 1099511627776 w.B0)then CJ.k ()else CJ.d AD):=by
  refine Ye c.Ax _ _ _ (by have:=w.wave;omega) (λi x d=>?_) ?_
  .unfold O8;simp only[d.lt,Vr,d.ix,XK,d.nx];refine Ea (JM _ _ _) ?_
   grind[Qa]
  simp_all[O8,Qa]
 have W:Ev (λn=>iter (O_ n c) n 0) (bif c.Ah.all JO then CJ.k ()else CJ.d AD):=by
  refine Ye c.Ah _ _ _ (by have:=w.off;omega) (λi x d=>?_) ?_
  .unfold O_;simp only[d.lt,Vr,d.ix,XK,d.nx];refine Ea (Ea (JM _ _ _) (Eh λ_=>Eh λ_=>Qa _)) ?_;refine Ea (Eh λ_=>Ea (JM _ _ _) (Eh λ_=>Qa _)) ?_;refine Ea (Eh λ_=>Eh λ_=>Qa _) ?_;refine Ea (Eh λ_=>Eh λ_=>Qa _) ?_;have e:JO x= !(!(C7 0 68719476736 x.BV&&((x.Aj==0)&& !x.BP))&&(!((x.BV==0)&&(C7 1 64 x.Aj&& !x.BP))&& !((x.BV==0)&&((x.Aj==0)&&x.BP)))):=by
    unfold JO C7
    grind
   rw[e];generalize(!(C7 0 68719476736 x.BV&&((x.Aj==0)&& !x.BP))&&(!((x.BV==0)&&(C7 1 64 x.Aj&& !x.BP))&& !((x.BV==0)&&((x.Aj==0)&&x.BP))))=b;cases b<;>exact Qa _
  simp_all[O_,Qa]
 have R:Ev (λn=>iter (PF n c) n 0) (bif c.Ac.all JT then CJ.k ()else CJ.d AD):=by
  refine Ye c.Ac _ _ _ (by have:=w.cat;omega) (λi x d=>?_) ?_
  .unfold PF;simp only[d.lt,Vr,d.ix,XK,d.nx];refine Ea (Qg λ_=>Qg λ_=>Qa _) ?_;have e:(AG (x.A5<0)||(AG (x.To<x.A5)||AG (120<x.To)))= !JT x:=by
    unfold JT C7
    grind
   rw[e];cases JT x<;>exact Qa _
  simp_all[PF,Qa]
 have V:Ev (λn=>iter (LC n c) n 0) (bif c.A3.all (Fr c)&&AG ((c.A3.map DC).Nodup)then CJ.k ()else CJ.d AD):=by
  have first:∀x:Cc,Ev (λn=>((GW n x.AN 0 (i64.wrap ((AI c.AO:Int)-1))).bind λE=>(bif (!E)then AC AE else(GW n x.AZ (-1) (i64.wrap ((AI c.Ac:Int)-1))).bind λJ=>(bif (!J)then AC AE else(GW n x.Bk 1 4000).bind λG=>(bif (!G)then AC AE else(GW n x.BW 1 1125899906842624).bind λL=>AC (!L)))):AB Bool)) (!Fr c x):=by
   intro x;rw[UO w.dist,UO w.cat];refine Ea (JM _ _ _) (Et (Qg λ_=>Ea (JM _ _ _) (Qg λ_=>Ea (JM _ _ _) (Qg λ_=>Ea (JM _ _ _) (Qa _)))) ?_);unfold Fr;simp
  have inner:∀(i:Nat) (x:Cc),At c.A3 i x->Ev (λn=>iter (MW n c (i:Int) x) n 0) (bif ((c.A3.take i).map DC).contains (DC x)then CJ.d (CJ.d (CJ.d AD))else CJ.k ()):=by
   intro i x d;have M:=d.lt';refine uH c.A3 i DC (DC x) _ _ (by have:=w.prize;omega) om (λj y N t hk=>?_) (λj y N t hk=>?_) ?_
   .unfold MW;rw[dT ((j:Int)<(i:Int))];simp only[Vr,t.ix,XK,t.nx];have h:¬(y.AN=x.AN/\y.AZ=x.AZ/\y.Bk=x.Bk):=by simpa[DC]using hk
    refine Ea (Eh λ_=>Eh λ_=>Qa _) ?_;have e:((y.AN==x.AN)&&((y.AZ==x.AZ)&&(y.Bk==x.Bk)))=false:=by
     rw[VP];intro z;exact h (by simpa using z)
    rw[e];exact Qa _
   .unfold MW;rw[dT ((j:Int)<(i:Int))];simp only[Vr,t.ix,XK,t.nx];have h:(y.AN=x.AN/\y.AZ=x.AZ/\y.Bk=x.Bk):=by simpa[DC]using hk
    refine Ea (Eh λ_=>Eh λ_=>Qa _) ?_;have e:((y.AN==x.AN)&&((y.AZ==x.AZ)&&(y.Bk==x.Bk)))=true:=by simpa using h
    rw[e];exact Qa _
   grind[MW,Qa]
  refine rx c.A3 (Fr c) DC _ _ (by have:=w.prize;omega) (λi x d f hk=>?_) (λi x d f=>?_) (λi x d f hk=>?_) ?_
  .unfold LC;simp only[d.lt,Vr,d.ix,XK,d.nx];have g:=first x;rw[f]at g
   have B:=inner i x d;rw[hk]at B;exact Ea g (Qo (Ea B (Qa _)))
  .unfold LC;simp only[d.lt,Vr,d.ix,XK,d.nx];have g:=first x;rw[f]at g
   exact Ea g (Qa _)
  .unfold LC;simp only[d.lt,Vr,d.ix,XK,d.nx];have g:=first x;rw[f]at g
   have B:=inner i x d;rw[hk]at B;exact Ea g (Qo (Ea B (Qa _)))
  simp_all[LC,Qa]
 refine Ea Q ?_;cases c.An.all (λm=>C7 1 3 m.AV)with
 |false=>exact Qa _
 |true=>
 refine Ea O ?_;simp only[VC];rw[<- Bool.and_assoc];cases(c.As.all (Id ((AI c.An:Int)-1))&&AG ((c.As.map C0).Nodup))with
 |false=>exact Qa _
 |true=>
 refine Ea P ?_;simp only[VC];cases c.AO.all (FZ ((AI c.An:Int)-1))with
 |false=>exact Qa _
 |true=>
 refine Ea T ?_;simp only[VC];cases c.Ax.all (λw=>C7 0 1099511627776 w.B0)with
 |false=>exact Qa _
 |true=>
 refine Ea W ?_;simp only[VC];cases c.Ah.all JO with
 |false=>exact Qa _
 |true=>
 refine Ea R ?_;simp only[VC];cases c.Ac.all JT with
 |false=>exact Qa _
 |true=>
 refine Ea V ?_;simp only[VC];rw[<- Bool.and_assoc];cases(c.A3.all (Fr c)&&AG ((c.A3.map DC).Nodup))with
 |false=>exact Qa _
 |true=>
 simp only[VC];refine Ea (v:=Ie c) ?_ (Qa _);refine Ea (JM _ _ _) ((Eh λ_=>Ea (JM _ _ _) (Eh λ_=>Ea (JM _ _ _) (Eh λ_=>Ea (JM _ _ _) (Eh λ_=>Ea (JM _ _ _) (Eh λ_=>Ea (JM _ _ _) (Eh λ_=>Ea (JM _ _ _) (Qa _))))))).eq ?_);unfold Ie;simp only[Bool.and_assoc]
mutual
def cN:AR->Nat
 |⟨_,_,_,ps⟩=>1+H8 ps
def H8:AA AR->Nat
 |[]=>0
 |c::r=>cN c+H8 r
end
theorem L_(c:AR):cN c=1+H8 c.Aa:=by cases c;rfl
mutual
def cD:Nat->AR->Bool
 |d,⟨_,_,_,ps⟩=>NU d ps
def NU:Nat->AA AR->Bool
 |_,[]=>AE
 |d,c::r=>AG (d<=16)&&(cD (d+1) c&&NU d r)
end
theorem iZ(d:Nat)(c:AR):cD d c=NU d c.Aa:=by cases c;rfl
def Cv(c:AR):Bool:=(c.AV==0)&&((c.Bz==0)&&((c.N==0)&&((AI c.Aa:Int)==0)))
mutual
def NR:AX->Nat
 |⟨_,_,_,t,e⟩=>1+Hj t+Hj e
def Hj:AA AX->Nat
 |[]=>0
 |s::r=>NR s+Hj r
end
theorem Z9(s:AX):NR s=1+Hj s.BN+Hj s.BQ:=by cases s;rfl
mutual
def sC:AX->Nat
 |⟨_,_,c,t,e⟩=>(bif Cv c then 0 else cN c)+G5 t+G5 e
def G5:AA AX->Nat
 |[]=>0
 |s::r=>sC s+G5 r
end
theorem Z8(s:AX):sC s=(bif Cv s.AR then 0 else cN s.AR)+G5 s.BN+G5 s.BQ:=by cases s;rfl
mutual
def La:Nat->AX->Bool
 |d,⟨_,_,c,t,e⟩=>(Cv c||cD 1 c)&&(Hm d t&&Hm d e)
def Hm:Nat->AA AX->Bool
 |_,[]=>AE
 |d,s::r=>AG (d<=16)&&(La (d+1) s&&Hm d r)
end
theorem eS(d:Nat)(s:AX):La d s=((Cv s.AR||cD 1 s.AR)&&(Hm d s.BN&&Hm d s.BQ)):=by cases s;rfl
mutual
def sZ:AX->Nat
 |⟨_,_,c,t,e⟩=>2+cN c+IO t+IO e
def IO:AA AX->Nat
 |[]=>0
 |s::r=>sZ s+IO r
end
theorem Z_(s:AX):sZ s=2+cN s.AR+IO s.BN+IO s.BQ:=by cases s;rfl
def fS:Ul->Nat
 |.ctyping_step x=>NR x.AX
 |.ctyping_cond _=>0
def fC:Ul->Nat
 |.ctyping_step x=>sC x.AX
 |.ctyping_cond x=>cN x.AR
def fD(d:Nat):Ul->Bool
 |.ctyping_step x=>La d x.AX
 |.ctyping_cond x=>cD d x.AR
def fZ:Ul->Nat
 |.ctyping_step x=>sZ x.AX
 |.ctyping_cond x=>cN x.AR
def Gv(l:AA Ul):Nat:=(l.map fS).sum
def Gw(l:AA Ul):Nat:=(l.map fC).sum
def HM(l:AA Ul):Nat:=(l.map fZ).sum
def dD:Ul->Prop
 |.ctyping_step x=>AX.wf x.AX
 |.ctyping_cond x=>AR.wf x.AR
def DP(s:AX):Ul:=.ctyping_step {AX:=s}
def Cy(c:AR):Ul:=.ctyping_cond {AR:=c}
theorem aL:∀l:AA AX,Gv (l.map DP)=Hj l
 |[]=>rfl
 |s::r=>by
  have:=aL r;simp[Gv,Vm,List.sum_cons]at this⊢;rw[this];rfl
theorem aK:∀l:AA AX,Gw (l.map DP)=G5 l
 |[]=>rfl
 |s::r=>by
  have:=aK r;simp[Gw,Vm,List.sum_cons]at this⊢;rw[this];rfl
theorem jQ:∀l:AA AX,HM (l.map DP)=IO l
 |[]=>rfl
 |s::r=>by
  have:=jQ r;simp[HM,Vm,List.sum_cons]at this⊢;rw[this];rfl
theorem oR:∀l:AA AR,Gv (l.map Cy)=0
 |[]=>rfl
 |s::r=>by
  have:=oR r;simp only[Gv,Vm,List.sum_cons]at this⊢;rw[this];rfl
theorem oQ:∀l:AA AR,Gw (l.map Cy)=H8 l
 |[]=>rfl
 |s::r=>by
  have:=oQ r;simp[Gw,Vm,List.sum_cons]at this⊢;rw[this];rfl
theorem oS:∀l:AA AR,HM (l.map Cy)=H8 l
 |[]=>rfl
 |s::r=>by
  have:=oS r;simp[HM,Vm,List.sum_cons]at this⊢;rw[this];rfl
theorem jP(d:Nat):∀l:AA AX,Hm d l=((l.map DP).isEmpty||(AG (d<=16)&&(l.map DP).all (fD (d+1))))
 |[]=>rfl
 |s::r=>by
  rw[Hm,jP d r];simp[Vm,List.all_cons];rw[show fD (d+1) (DP s)=La (d+1) s from rfl]
  grind
theorem u7(d:Nat):∀l:AA AR,NU d l=((l.map Cy).isEmpty||(AG (d<=16)&&(l.map Cy).all (fD (d+1))))
 |[]=>rfl
 |s::r=>by
  rw[NU,u7 d r];simp[Vm,List.all_cons];rw[show fD (d+1) (Cy s)=cD (d+1) s from rfl]
  grind
theorem Y4{c:AR}(h:AR.wf c):AI c.Aa<=1048576/\ ∀x∈c.Aa,AR.wf x:=by
 cases c
 grind[AR.wf,w_]
theorem Y3{s:AX}(h:AX.wf s):AR.wf s.AR/\(AI s.BN<=1048576/\ ∀x∈s.BN,AX.wf x)/\(AI s.BQ<=1048576/\ ∀x∈s.BQ,AX.wf x):=by
 cases s
 grind[AX.wf,xI]
theorem vW(n:Nat)(c:AR):LL n {AR:=c}=AC (Cv c):=by
 unfold LL Cv
 grind
theorem wN(n:Nat)(c:AR):M3 n c=AC (Cv c):=by
 unfold M3 Cv
 grind
theorem oN(l:AA AX)(hl:AI l<=140737488):Ev (λn=>Mo n l) (l.map DP):=by
 exact Ea (T_ l DP hl) (Qa _)
theorem Qow(l:AA AR)(hl:AI l<=140737488):Ev (λn=>ZP n l) (l.map Cy):=by
 exact Ea (T_ l Cy hl) (Qa _)
def Ce(s:AX):AA Ul:=s.BN.map DP++s.BQ.map DP
theorem pG(s:AX)(h:AX.wf s):Ev (λn=>LV n {AX:=s}) (Ce s):=by
 obtain⟨_,⟨d,_⟩,⟨f,_⟩⟩:=Y3 h;refine Ea (oN s.BN om) (Ea (oN s.BQ om) (Qj (Sk _ _ (by simp;omega)) (Qa _)))
theorem w8(c:AR)(h:AR.wf c):Ev (λn=>KL n {AR:=c}) (c.Aa.map Cy):=by
 obtain⟨d,_⟩:=Y4 h;exact Ea (Qow c.Aa om) (Qa _)
def Ia(l:AA Ul)(d:Nat)(st co:Int):Bool:=l.isEmpty||(AG (d<=16)&&(l.all (fD (d+1))&&(AG (st+Gv l<=64)&&AG (co+Gw l<=256))))
def SD(l:AA Ul)(d:Nat)(st co:Int):Bool:=l.isEmpty||(l.all (fD (d+1))&&(AG (st+Gv l<=64)&&AG (co+Gw l<=256)))
def SE(f:Ul)(d:Nat)(st co:Int):Bool:=fD (d+1) f&&(AG (st+fS f<=64)&&AG (co+fC f<=256))
theorem u9(f:Ul)(l:AA Ul):Gv (f::l)=fS f+Gv l:=rfl
theorem u6(f:Ul)(l:AA Ul):Gw (f::l)=fC f+Gw l:=rfl
theorem u_(f:Ul)(l:AA Ul):HM (f::l)=fZ f+HM l:=rfl
theorem wQ(l m:AA Ul):Gv (l++m)=Gv l+Gv m:=by simp[Gv]
theorem wP(l m:AA Ul):Gw (l++m)=Gw l+Gw m:=by simp[Gw]
theorem wB(l m:AA Ul):HM (l++m)=HM l+HM m:=by simp[HM]
theorem QnL(f:Ul)(r:AA Ul)(d:Nat)(st h:Int):SD (f::r) d st h=(SE f d st h&&SD r d (st+fS f) (h+fC f)):=by
 unfold SD SE;rw[u9,u6];cases r with
 |nil=>simp[Gv,Gw]
 |cons g r=>
  grind
theorem m_(l:AA Ul)(d:Nat)(st g:Int)(h:st<=64)(j:g<=256):Ia l d st g=AE↔(l.isEmpty||(AG (d<=16)&&l.all (fD (d+1))))=AE/\st+Gv l<=64/\g+Gw l<=256:=by
 unfold Ia;cases l with
 |nil=>simp[Gv,Gw,h,j]
 |cons f r=>
  grind
theorem Qe7(s:AX)(d:Nat):((Ce s).isEmpty||(AG (d<=16)&&(Ce s).all (fD (d+1))))=(Hm d s.BN&&Hm d s.BQ):=by
 rw[jP,jP];unfold Ce;rw[List.all_append];cases f:s.BN<;>cases g:s.BQ<;>simp<;>(grind)
def qi(R:Nat->AA Ul->Int->Uj->AB (Uj×Bool))(l:AA Ul)(d:Nat)(st co:Int):Prop:=
 ∃c':Uj,Ev (λn=>R n l (d:Int) {A8:=st,A9:=co}) (c',Ia l d st co)/\(Ia l d st co=AE->c'={A8:=st+Gv l,A9:=co+Gw l})
theorem Qka{R:Nat->AA Ul->Int->Uj->AB (Uj×Bool)}{l:AA Ul}{d:Nat}(hd:d<=16){i:Nat}{f:Ul}(ha:At l i f)(hw:dD f)
  (ih:∀l' d' st j,HM l'<fZ f->AI l'<=2097152->(∀f∈l',dD f)->d'<=17->0<=st->st<=66->(st<=65\/ ∀f∈l',∃c,f=Cy c)->0<=j->j<=256->qi R l' d' st j){st j:Int}(h0:0<=st)(af:st<=66)(G:st<=65\/ ∃c,f=Cy c)(h2:0<=j)(h3:j<=256):
  ∃c':Uj,Ev (λn=>Me n l (d:Int) (R n) ({A8:=st,A9:=j},(i:Int))) (bif SE f d st j then .k (c',((i+1:Nat):Int))else .d (.d (c',AD)))/\(SE f d st j=AE->c'={A8:=st+fS f,A9:=j+fC f}):=by
 unfold Me;simp only[ha.lt,Vr,ha.ix,XK,ha.nx];have ed:i64.wrap ((d:Int)+1)=((d+1:Nat):Int):=QL om;cases f with
 |ctyping_step x=>
  obtain⟨s⟩:=x;have h1:st<=65:=by
   rcases G with h|⟨c,h⟩
   .exact h
   .cases h
  have m:AX.wf s:=hw;obtain⟨wc,⟨ae,aa⟩,⟨ag,ab⟩⟩:=Y3 m;have e1:i64.wrap (st+1)=st+1:=Dj;simp only[Ul.elim,vW,XK,e1];have hc:∃F:Uj,Ev (λn=>((bif (!Cv s.AR)then(R n [Ul.ctyping_cond {AR:=s.AR}] 0 {A8:=st+1,A9:=j}).bind λt=>AC (t.1,(!t.2))else AC ({A8:=st+1,A9:=j},AD)):AB (Uj×Bool))) (F, !(Cv s.AR||(cD 1 s.AR&&(AG (st+1<=64)&&AG (j+cN s.AR<=256)))))/\
    ((Cv s.AR||(cD 1 s.AR&&(AG (st+1<=64)&&AG (j+cN s.AR<=256))))=AE->F={A8:=st+1,A9:=j+((bif Cv s.AR then 0 else cN s.AR:Nat):Int)}):=by
   cases Q:Cv s.AR with
   |true=>
    simp_all[Qa]
   |false=>
    obtain⟨F,E,O⟩:=ih [Cy s.AR] 0 (st+1) j (by simp only[HM,Vm,Vn,List.sum_cons,List.sum_nil];show cN s.AR+0<sZ s;rw[Z_];omega) sq (by intro g q;simp only[VD]at q;subst q;exact wc) om om om (.inr (by grind)) h2 h3;have ek:Ia [Cy s.AR] 0 (st+1) j=(cD 1 s.AR&&(AG (st+1<=64)&&AG (j+cN s.AR<=256))):=by
     unfold Ia;simp only[List.isEmpty_cons,Bool.false_or,List.all_cons,List.all_nil,Bool.and_true,Gv,Gw,Vm,Vn,List.sum_cons,List.sum_nil];rw[show fD (0+1) (Cy s.AR)=cD 1 s.AR from rfl,show fS (Cy s.AR)=0 from rfl,show fC (Cy s.AR)=cN s.AR from rfl];simp
    rw[ek]at E O;refine⟨F,Ea E (Qa _),λh=>?_⟩;rw[O h];simp[Gv,Gw,show fS (Cy s.AR)=0 from rfl,show fC (Cy s.AR)=cN s.AR from rfl]
  obtain⟨F,E,O⟩:=hc;generalize hb:(Cv s.AR||(cD 1 s.AR&&(AG (st+1<=64)&&AG (j+cN s.AR<=256))))=b at E O;have Y:SE (Ul.ctyping_step {AX:=s}) d st j=(La (d+1) s&&(AG (st+NR s<=64)&&AG (j+sC s<=256))):=rfl;rw[Y];cases b with
  |false=>
   have:(La (d+1) s&&(AG (st+NR s<=64)&&AG (j+sC s<=256)))=false:=by
    rw[VP];intro hh;simp only[XX,Vt,eS,Z9,Z8]at hh;obtain⟨⟨T,_⟩,z2,z3⟩:=hh;cases Q:Cv s.AR with
    |true=>grind
    |false=>
     rw[Q]at hb T z3;simp only[Bool.false_or]at hb T;rw[T]at hb;simp only[Vs]at z3;rw[dT (st+1<=64),dT (j+(cN s.AR:Int)<=256)]at hb;cases hb
   rw[this];exact⟨F,Ea E (Qa _),λh=>by cases h⟩
  |true=>
   obtain rfl:=O rfl;by_cases L:64<st+1
   .have:(La (d+1) s&&(AG (st+NR s<=64)&&AG (j+sC s<=256)))=false:=by
     grind[Z9]
    rw[this];refine⟨{A8:=st+1,A9:=j+((bif Cv s.AR then 0 else cN s.AR:Nat):Int)},Ea E ?_,λh=>by cases h⟩
    simp_all[Qa]
   by_cases P:256<j+((bif Cv s.AR then 0 else cN s.AR:Nat):Int)
   .grind
   obtain⟨N,J,H⟩:=ih (Ce s) (d+1) (st+1) (j+((bif Cv s.AR then 0 else cN s.AR:Nat):Int)) (by
     unfold Ce;rw[wB,jQ,jQ];show _<sZ s;rw[Z_];omega) (by unfold Ce;simp;omega) (by
     intro g q;unfold Ce at q;rcases VG.1 q with q|q
     .obtain⟨y,M,rfl⟩:=Xe.1 q;exact aa y M
     .obtain⟨y,M,rfl⟩:=Xe.1 q;exact ab y M) om om om (.inl om) om om
   have eL:Ia (Ce s) (d+1) (st+1) (j+((bif Cv s.AR then 0 else cN s.AR:Nat):Int))=(La (d+1) s&&(AG (st+NR s<=64)&&AG (j+sC s<=256))):=by
    rw[XZ,m_ _ _ _ _ om om,Qe7];simp only[XX,Vt,eS,Z9,Z8];have X:Gv (Ce s)=Hj s.BN+Hj s.BQ:=by unfold Ce;rw[wQ,aL,aL]
    have e3:Gw (Ce s)=G5 s.BN+G5 s.BQ:=by unfold Ce;rw[wP,aK,aK]
    rw[X,e3];have W:(Cv s.AR||cD 1 s.AR)=true:=by
     cases Q:Cv s.AR with
     |true=>rfl
     |false=>
      rw[Q]at hb;simp only[Bool.false_or,XX]at hb;rw[hb.1];rfl
    constructor
    .rintro⟨B,V,h6⟩;exact⟨⟨W,B⟩,om,om⟩
    .rintro⟨⟨_,B⟩,V,h6⟩;exact⟨B,om,om⟩
   rw[eL]at J H;refine⟨N,Ea E ?_,λh=>?_⟩
   .simp only[Xg,Vs];refine Ea (v:=(N, !(La (d+1) s&&(AG (st+NR s<=64)&&AG (j+sC s<=256))))) ?_ ?_
    .rw[QN L,QN P,ed];exact Ea (pG s m) (Ea J (Qa _))
    .cases(La (d+1) s&&(AG (st+NR s<=64)&&AG (j+sC s<=256)))<;>exact Qa _
   .rw[H h];have X:Gv (Ce s)=Hj s.BN+Hj s.BQ:=by unfold Ce;rw[wQ,aL,aL]
    have e3:Gw (Ce s)=G5 s.BN+G5 s.BQ:=by unfold Ce;rw[wP,aK,aK]
    rw[X,e3,show fS (Ul.ctyping_step {AX:=s})=NR s from rfl,show fC (Ul.ctyping_step {AX:=s})=sC s from rfl,Z9,Z8];congr 1<;>omega
 |ctyping_cond x=>
  obtain⟨c⟩:=x;have m:AR.wf c:=hw;obtain⟨ad,ac⟩:=Y4 m;have e1:i64.wrap (j+1)=j+1:=Dj;simp only[Ul.elim,e1];have Y:SE (Ul.ctyping_cond {AR:=c}) d st j=(cD (d+1) c&&(AG (st<=64)&&AG (j+cN c<=256))):=by
   show(cD (d+1) c&&(AG (st+((0:Nat):Int)<=64)&&AG (j+cN c<=256)))=_;rw[show st+((0:Nat):Int)=st by omega]
  rw[Y];by_cases L:64<st
  .have:(cD (d+1) c&&(AG (st<=64)&&AG (j+cN c<=256)))=false:=by
    rw[dF (st<=64)];simp
   rw[this];refine⟨{A8:=st,A9:=j+1},?_,λh=>by cases h⟩;refine Ea (v:=(_,AE)) ?_ (Qa _);rw[Yr L];exact Qa _
  by_cases P:256<j+1
  .have:(cD (d+1) c&&(AG (st<=64)&&AG (j+cN c<=256)))=false:=by
    rw[QN (show¬j+(cN c:Int)<=256 by rw[L_];omega)];simp
   rw[this];refine⟨{A8:=st,A9:=j+1},?_,λh=>by cases h⟩;refine Ea (v:=(_,AE)) ?_ (Qa _);rw[QN L,Yr P];exact Qa _
  obtain⟨N,J,H⟩:=ih (c.Aa.map Cy) (d+1) st (j+1) (by
    rw[oS];show _<cN c;rw[L_];omega) (by simp;omega) (by
    intro g q;obtain⟨y,M,rfl⟩:=Xe.1 q;exact ac y M) om om om (.inl om) om om
  have eL:Ia (c.Aa.map Cy) (d+1) st (j+1)=(cD (d+1) c&&(AG (st<=64)&&AG (j+cN c<=256))):=by
   rw[XZ,m_ _ _ _ _ om om, <- u7,oR,oQ];simp only[XX,Vt,iZ,L_];constructor
   iterate 2 rintro⟨B,V,h6⟩;exact⟨B,om,om⟩
  rw[eL]at J H;refine⟨N,?_,λh=>?_⟩
  .refine Ea (v:=(N, !(cD (d+1) c&&(AG (st<=64)&&AG (j+cN c<=256))))) ?_ ?_
   .rw[QN L,QN P,ed];exact Ea (w8 c m) (Ea J (Qa _))
   .cases(cD (d+1) c&&(AG (st<=64)&&AG (j+cN c<=256)))<;>exact Qa _
  .rw[H h,oR,oQ,show fS (Ul.ctyping_cond {AR:=c})=0 from rfl,show fC (Ul.ctyping_cond {AR:=c})=cN c from rfl,L_];congr 1;omega
theorem Qov:∀(m:Nat) (l:AA Ul) (d:Nat) (st g:Int),HM l<=m->AI l<=2097152->(∀f∈l,dD f)->d<=17->0<=st->st<=66->(st<=65\/ ∀f∈l,∃c,f=Cy c)->0<=g->g<=256->qi Nf l d st g:=by
 intro m
 induction m using Nat.strongRecOn with
 |_ m V=>
 intro l d st g hm hl hw hd h0 h1 N h2 h3;unfold qi;have O:∀c:Uj,(∃j:Uj,Ev (λn=>j8 (Nf n) n l (d:Int) c) (j,Ia l d st g)/\(Ia l d st g=AE->j={A8:=st+Gv l,A9:=g+Gw l}))->∃j:Uj,Ev (λn=>Nf n l (d:Int) c) (j,Ia l d st g)/\(Ia l d st g=AE->j={A8:=st+Gv l,A9:=g+Gw l}):=by
  rintro c ⟨j,q1,q2⟩;exact⟨j,Yy q1,q2⟩
 refine O _ ?_;unfold j8;cases y:l with
 |nil=>
  refine⟨{A8:=st,A9:=g},?_,λ_=>by simp[Gv,Gw]⟩;refine Ea (v:=CJ.k {A8:=st,A9:=g}) (C9.ev (Ei ?_)) (Qa _);exact Qa _
 |cons f0 r0=>
 rw[<- y];have Y:l.isEmpty=false:=by rw[y];rfl
 have Q:0<AI l:=by grind
 by_cases F:d<=16
 rotate_left
 .have:Ia l d st g=false:=by unfold Ia;grind
  rw[this];refine⟨{A8:=st,A9:=g},?_,λh=>by cases h⟩;rw[dT ((0:Int)<(AI l:Int)),dT ((16:Int)<(d:Int))];exact Ea (Qa _) (Qa _)
 have L:Ia l d st g=SD l d st g:=by unfold Ia SD;grind
 rw[L];have loop:∀(r:AA Ul) (i:Nat) (st g:Int),l.drop i=r->i<=AI l->0<=st->st<=66->(st<=65\/ ∀f∈l,∃c,f=Cy c)->0<=g->g<=256->
   ∃j:Uj,C9 (λn=>Me n l (d:Int) (Nf n)) ({A8:=st,A9:=g},(i:Int)) (bif SD r d st g then CJ.k j else CJ.d (j,AD))/\(SD r d st g=AE->j={A8:=st+Gv r,A9:=g+Gw r}):=by
  intro r
  induction r with
  |nil=>
   intro i st g M T _ _ _ _ _;refine⟨{A8:=st,A9:=g},Ei ?_,λ_=>by simp[Gv,Gw]⟩;unfold Me;simp only[QH M T,Vs];exact Qa _
  |cons f r P=>
   intro i st g M T g0 g1 J g2 g3;obtain⟨B,G⟩:=Qs om M;have X:fZ f<=HM l:=by
    have:∀(l:AA Ul),f∈l->fZ f<=HM l:=by
     intro l
     induction l with
     |nil=>simp
     |cons x l V=>
      intro h;rw[u_];rcases X9.1 h with rfl|h
      .omega
      grind
    exact this l B.mem
   obtain⟨j,t,H⟩:=Qka (R:=Nf) F B (hw f B.mem) (λW d' st g k1 k2 k3 k4 k5 k6 E k7 k8=>V (HM W) om W d' st g (XU _) k2 k3 k4 k5 k6 E k7 k8) g0 g1 (J.imp id λh=>h f B.mem) g2 g3;rw[QnL];cases q:SE f d st g with
   |false=>
    rw[q]at t;exact⟨j,Ei t,λh=>by cases h⟩
   |true=>
    rw[q]at t;obtain rfl:=H q;have hb:=by
     unfold SE at q;simp only[XX,Vt]at q;exact q.2
    obtain⟨c2,u1,u2⟩:=P (i+1) (st+fS f) (g+fC f) G (by grind) om om (.inl om) om om;refine⟨c2,Eu t u1,λh=>?_⟩;rw[u2 (by simpa using h),u9,u6]
    grind
 obtain⟨j,t,H⟩:=loop l 0 st g rfl (XV _) h0 h1 N h2 h3;refine⟨j,?_,H⟩;refine Ea (v:=AD) ?_ (Qo (Ea t.ev ?_))
 .rw[dT ((0:Int)<(AI l:Int)),dF ((16:Int)<(d:Int))];exact Qa _
 .cases SD l d st g<;>exact Qa _
mutual
def I5:AR->Bool
 |⟨k,v,n,ps⟩=>bif k==1 then C7 1 3 v&&(C7 0 10000 n&&((AI ps:Int)==0))else
   bif k==4 then((v==0)&&(n==0))&&(((AI ps:Int)==1)&&GY ps)else
   bif (k==2)||(k==3)then((v==0)&&(n==0))&&((AG (0<(AI ps:Int))&&AG ((AI ps:Int)<=16))&&GY ps)else AD
def GY:AA AR->Bool
 |[]=>AE
 |c::r=>I5 c&&GY r
end
theorem sk(c:AR):I5 c=bif c.AV==1 then C7 1 3 c.Bz&&(C7 0 10000 c.N&&((AI c.Aa:Int)==0))else
   bif c.AV==4 then((c.Bz==0)&&(c.N==0))&&(((AI c.Aa:Int)==1)&&GY c.Aa)else
   bif (c.AV==2)||(c.AV==3)then((c.Bz==0)&&(c.N==0))&&((AG (0<(AI c.Aa:Int))&&AG ((AI c.Aa:Int)<=16))&&GY c.Aa)else false:=by cases c;rfl
theorem nK:∀l:AA AR,GY l=l.all I5
 |[]=>rfl
 |c::r=>by rw[GY,List.all_cons,nK r]
mutual
def SA:AX->Bool
 |⟨k,b,c,t,e⟩=>bif k==1 then C7 1 5 b&&(Cv c&&(((AI t:Int)==0)&&((AI e:Int)==0)))else
   bif k==2 then(b==0)&&(I5 c&&(AG (0<(AI t:Int))&&(FT t&&FT e)))else AD
def FT:AA AX->Bool
 |[]=>AE
 |s::r=>SA s&&FT r
end
theorem sn(s:AX):SA s=bif s.AV==1 then C7 1 5 s.By&&(Cv s.AR&&(((AI s.BN:Int)==0)&&((AI s.BQ:Int)==0)))else
   bif s.AV==2 then(s.By==0)&&(I5 s.AR&&(AG (0<(AI s.BN:Int))&&(FT s.BN&&FT s.BQ)))else false:=by cases s;rfl
theorem nL:∀l:AA AX,FT l=l.all SA
 |[]=>rfl
 |c::r=>by rw[FT,List.all_cons,nL r]
def fV:Ul->Bool
 |.ctyping_step x=>SA x.AX
 |.ctyping_cond x=>I5 x.AR
theorem Qkh(l:AA AR):(l.map Cy).any (λf=> !fV f)= !GY l:=by
 rw[nK,List.not_all_eq_any_not,List.any_map];rfl
theorem wK(l:AA AX):(l.map DP).any (λf=> !fV f)= !FT l:=by
 rw[nL,List.not_all_eq_any_not,List.any_map];rfl
theorem vY{R:Nat->AA Ul->AB Bool}(c:AR)(j:AR.wf c)(m:Ev (λn=>R n (c.Aa.map Cy)) (!GY c.Aa)):
  Ev (λn=>ZW (R n) n {AR:=c}) (I5 c):=by
 rw[sk];refine Ea (Eh λ_=>Qa _) (YQ (λ_=>?_) (λx=>?_))
 .exact Ea (Ea (QK _ _ _) (Eh λ_=>Ea (QK _ _ _) (Eh λ_=>Qa _))) (Qa _)
 .have fin:∀b,Ev (λn=>(bif b then(KL n {AR:=c}).bind λg=>(R n g).bind λd=>AC (!d)else AC AD).bind λf=>AC f) (b&&GY c.Aa):=by
   intro b;refine Ea ((Eh λ_=>Ea (w8 c j) (Ea m (Qa _)))) ((Qa _).eq sq)
  cases t:(c.AV==4)with
  |true=>
   cases h:((c.Bz==0)&&(c.N==0))with
   |true=>
    grind
   |false=>
    simp_all
  |false=>
   cases q:((c.AV==2)||(c.AV==3))with
   |true=>
    have e:Ev (λn=>(bif (c.AV==2)then AC (c.AV==2)else AC (c.AV==3))) true:=by
     refine Ez ?_
     grind
    cases h:((c.Bz==0)&&(c.N==0))with
    |true=>
     grind
    |false=>
     refine Ea (Ea e (Qa _)) ((fin _).eq sq)
   |false=>
    have e:Ev (λn=>(bif (c.AV==2)then AC (c.AV==2)else AC (c.AV==3))) false:=by
     refine Ez ?_
     grind
    grind
theorem Qj4:∀(m:Nat) (l:AA Ul),HM l<=m->AI l<=2097152->(∀f∈l,dD f)->Ev (λn=>KO n l) (l.any λf=> !fV f):=by
 intro m
 induction m using Nat.strongRecOn with
 |_ m E=>
 intro l Q hl G;refine Yy ?_;show Ev (λn=>Zo (KO n) n l) _;refine Ev.contains l _ (λn f=>Zi (KO n) n f) om λf H=>?_;have L:fZ f<=HM l:=by
  have:∀(l:AA Ul),f∈l->fZ f<=HM l:=by
   intro l
   induction l with
   |nil=>simp
   |cons x l E=>
    intro h;rw[u_]
    grind
  grind
 refine Ea (v:=fV f) ?_ (Qa _);have d:∀c:AR,AR.wf c->H8 c.Aa<fZ f->Ev (λn=>KO n (c.Aa.map Cy)) (!GY c.Aa):=by
  intro c t hs;rw[<- Qkh];obtain⟨P,O⟩:=Y4 t;refine E (HM (c.Aa.map Cy)) (by rw[oS];omega) _ (XU _) (by simp;omega) ?_;intro g j;obtain⟨y,q,rfl⟩:=Xe.1 j;exact O y q
 cases f with
 |ctyping_cond x=>
  obtain⟨c⟩:=x;have t:AR.wf c:=G _ H;exact vY c t (d c t (by show H8 c.Aa<cN c;rw[L_];omega))
 |ctyping_step x=>
  obtain⟨s⟩:=x;have hs:AX.wf s:=G _ H;obtain⟨J,⟨N,B⟩,⟨M,F⟩⟩:=Y3 hs;show Ev _ (SA s);rw[sn];refine YQ (λ_=>?_) (λT=>YQ (λ_=>?_) λ_=>Qa _)
  .refine Ea (Ea (QK _ _ _) (Eh λ_=>?_)) (Qa _);simp only[vW];refine Eh λ_=>Ea (pG s hs) ((Qa _).eq ?_);unfold Ce
   grind
  .refine Ea (Eh λ_=>?_) (Qa _);refine Ea (vY s.AR J (d s.AR J (by show _<sZ s;rw[Z_,L_];omega))) (Eh λ_=>Eh λ_=>?_);refine Ea (pG s hs) (Ea (E (HM (Ce s)) ?_ _ (XU _) (by unfold Ce;simp;omega) ?_) ((Qa _).eq ?_))
   .have:HM (Ce s)<sZ s:=by
     grind[Ce,wB,jQ,Z_]
    have R:fZ (Ul.ctyping_step {AX:=s})=sZ s:=rfl;omega
   .intro g j;rcases VG.1 j with j|j
    .obtain⟨y,q,rfl⟩:=Xe.1 j;exact B y q
    .obtain⟨y,q,rfl⟩:=Xe.1 j;exact F y q
   grind[Ce,wK]
def G'(l:AA AX):Bool:=Hm 0 l&&(AG (Hj l<=64)&&AG (G5 l<=256))
def GQ(l:AA AX):Int:=bif G' l then(bif l.isEmpty|| !FT l then 71 else 0)else 2
theorem QnM(l:AA AX):Ia (l.map DP) 0 0 0=G' l:=by
 rw[XZ,m_ _ _ _ _ om om, <- jP,aL,aK];unfold G'
 grind
theorem Qqr(l:AA AX)(hl:AI l<=1048576)(h:∀x∈l,AX.wf x):Ev (λn=>Wu n l) (GQ l):=by
 refine Ea (oN l om) (Ea ?_ (Qa _));have fw:∀f∈l.map DP,dD f:=by
  intro g m;obtain⟨y,j,rfl⟩:=Xe.1 m;exact h y j
 obtain⟨t,d,q⟩:=Qov _ (l.map DP) 0 0 0 (XU _) (by simp;omega) fw om om om (.inl om) om om;rw[QnM]at d;have p3:=d.shift;refine Ea p3 ?_;unfold GQ;cases G' l with
 |false=>exact Qa _
 |true=>
  have e:((AI (l.map DP):Int)==0)=l.isEmpty:=by
   cases l<;>simp;omega
  rw[e];refine Ea (Qg λ_=>Ea (Qj4 _ _ (XU _) (by simp;omega) fw) (Qa _)) ?_
  grind[wK,Qa]
def Fa(d:Nat):Int:=256*(18-(d:Int))+1000
theorem xN:∀(m:Nat) (c:AR) (d:Nat),cN c<=m->d<=17->AR.wf c->∃v:Int,Ev (λn=>OY n c (d:Int)) v/\0<=v/\v<=Fa d/\
  (d<=16/\cD (d+1) c=AE/\cN c<=256->v=cN c)/\(¬(d<=16/\cD (d+1) c=AE/\cN c<=256)->256<v):=by
 intro m
 induction m using Nat.strongRecOn with
 |_ m T=>
 intro c d hm hd hw;obtain⟨W,M⟩:=Y4 hw;have L:∀{P:Int->Prop},(∃v:Int,Ev (λn=>j7 (OY n) n c (d:Int)) v/\P v)->∃v:Int,Ev (λn=>OY n c (d:Int)) v/\P v:=by
  rintro P ⟨v,q,g⟩;exact⟨v,Yy q,g⟩
 refine L ?_;unfold j7;by_cases B:d<=16
 .rw[dF ((16:Int)<(d:Int))];have ed:i64.wrap ((d:Int)+1)=((d+1:Nat):Int):=QL om;have loop:∀(r:AA AR) (i:Nat) (a:Int),c.Aa.drop i=r->i<=AI c.Aa->0<=a->a<=Fa d->
    ∃v:Int,C9 (λn=>MY n c (d:Int) (OY n)) (a,(i:Int)) v/\0<=v/\v<=Fa d/\
     (NU (d+1) r=AE/\a+H8 r<=256->v=a+H8 r)/\(¬(NU (d+1) r=AE/\a+H8 r<=256)->256<v):=by
   intro r
   induction r with
   |nil=>
    intro i a H R F q;refine⟨a,Ei ?_,F,q,λ_=>by simp[H8],λh=>?_⟩
    .unfold MY;simp only[QH H R,Vs,XK];exact Qa _
    .simp[NU,H8]at h;omega
   |cons x r N=>
    intro i a H R F q;obtain⟨j,E⟩:=Qs om H;have hx:cN x<cN c:=by
     have:∀l:AA AR,x∈l->cN x<=H8 l:=by
      intro l
      induction l with
      |nil=>simp
      |cons y l T=>
       intro h;rw[H8]
       grind
     have:=this _ j.mem;rw[L_ c];omega
    by_cases f:a<=256
    .obtain⟨v,G,Q,O,t,V⟩:=T (cN x) om x (d+1) (XU _) om (M x j.mem);have hB:Fa (d+1)+256=Fa d:=by unfold Fa;omega
     have aa:Fa d<=6000:=by unfold Fa;omega
     have e1:i64.wrap (a+v)=a+v:=Dj;obtain⟨w,Y,q2,q3,q4,q5⟩:=N (i+1) (a+v) E (by grind) om om;refine⟨w,Eu ?_ Y,q2,q3,?_,?_⟩
     .unfold MY;simp only[j.lt,Vr,Yr f,XK,j.ix,j.nx,ed];refine Ea G ?_;rw[e1];exact Qa _
     .rintro⟨g,J⟩;simp only[NU,XX,Vt]at g;rw[H8]at J⊢
      grind
     .intro hn;by_cases X:d+1<=16/\cD (d+1+1) x=AE/\cN x<=256
      .have:=t X;subst this;refine q5 λg=>hn ⟨?_,?_⟩
       .simp only[NU,XX,Vt];grind
       .rw[H8];omega
      grind
    .refine⟨a,Ei ?_,F,q,λh=>?_,λ_=>om⟩
     .unfold MY;simp only[j.lt,Vr,QN f,XK,Vs];exact Qa _
     .omega
  obtain⟨v,G,Q,O,t,V⟩:=loop c.Aa 0 1 rfl (XV _) om (by unfold Fa;omega);refine⟨v,Qo (Ea G.ev (Qa _)),Q,O,?_,?_⟩
  .rintro⟨_,g,J⟩;rw[iZ]at g;rw[L_]at J⊢;rw[t ⟨g,om⟩];omega
  grind[iZ,L_]
 .rw[dT ((16:Int)<(d:Int))];refine⟨1000,Jk (Qa _),om,by unfold Fa;omega,λh=>absurd h.1 B,λ_=>om⟩
def D5:Nat->Int
 |0=>10000
 |k+1=>3*D5 k
theorem jW:∀k,10000<=D5 k
 |0=>Int.le_refl _
 |k+1=>by have:=jW k;simp[D5];omega
theorem QnB{k:Nat}(h:k<=17):D5 k<=1291401630000:=by
 have:∀j,j<=17->D5 j<=1291401630000:=by decide+kernel
 grind
def Hq(d:Nat)(l:AA AX):Prop:=Hm d l=AE/\Hj l<=64/\G5 l<=256
theorem tt:∀(m:Nat) (l:AA AX) (d:Nat),IO l<=m->d<=17->AI l<=1048576->(∀x∈l,AX.wf x)->∃a b:Int,Ev (λn=>St n l (d:Int)) (a,b)/\0<=a/\0<=b/\a<=D5 (17-d)/\b<=D5 (17-d)/\
  (Hq d l->a=Hj l/\b=G5 l)/\(¬Hq d l->64<a\/256<b):=by
 intro m
 induction m using Nat.strongRecOn with
 |_ m V=>
 intro l d hm hd hl hw;have ad:∀{P:Int->Int->Prop},(∃a b:Int,Ev (λn=>j6 (St n) n l (d:Int)) (a,b)/\P a b)->∃a b:Int,Ev (λn=>St n l (d:Int)) (a,b)/\P a b:=by
  rintro P ⟨a,b,H,t⟩;exact⟨a,b,Yy H,t⟩
 refine ad ?_;unfold j6;by_cases B:0<AI l/\ ¬d<=16
 .rw[dT ((0:Int)<(AI l:Int)),dT ((16:Int)<(d:Int))];have:=jW (17-d);refine⟨1000,1000,Ea (Qa _) (Jk (Qa _)),om,om,om,om,λh=>?_,λ_=>om⟩;exfalso;cases l with
  |nil=>simp at B
  |cons x r=>
   have:=h.1;simp only[Hm,XX,Vt]at this;omega
 .have G:Ev (λn:Nat=>((bif 0<(AI l:Int) then AC (AG (16<(d:Int)))else AC AD):AB Bool)) false:=by
   grind[Qa]
  have ed:i64.wrap ((d:Int)+1)=((d+1:Nat):Int):=QL om;have loop:∀(r:AA AX) (i:Nat) (a b:Int),l.drop i=r->i<=AI l->0<=a->0<=b->a<=D5 (17-d)->b<=D5 (17-d)->
    ∃a' b':Int,C9 (λn=>MZ n l (d:Int) (St n)) (a,b,(i:Int)) (a',b')/\0<=a'/\0<=b'/\a'<=D5 (17-d)/\b'<=D5 (17-d)/\
     (Hm d r=AE/\a+Hj r<=64/\b+G5 r<=256->a'=a+Hj r/\b'=b+G5 r)/\(¬(Hm d r=AE/\a+Hj r<=64/\b+G5 r<=256)->64<a'\/256<b'):=by
   intro r
   induction r with
   |nil=>
    intro i a b hr hi G H t T;refine⟨a,b,Ei ?_,G,H,t,T,λ_=>by simp[Hj,G5],λh=>?_⟩
    .unfold MZ;simp only[QH hr hi,Vs,XK];exact Qa _
    .simp[Hm,Hj,G5]at h;omega
   |cons s r ab=>
    intro i a b hr hi G H t T;obtain⟨j,M⟩:=Qs om hr;have am:=j.lt';have F:d<=16:=by
     omega
    have ak:sZ s<=IO l:=by
     have:∀l:AA AX,s∈l->sZ s<=IO l:=by
      intro l
      induction l with
      |nil=>simp
      |cons y l V=>
       intro h;rw[IO];rcases X9.1 h with rfl|h
       .omega
       grind
     exact this _ j.mem
    by_cases f:a<=64/\b<=256
    .obtain⟨wc,⟨Y,R⟩,⟨aa,ah⟩⟩:=Y3 (hw s j.mem);have ao:=Z_ s;obtain⟨E,g,p1,p2,p3,p4,p5,L,p7⟩:=V (IO s.BN) om s.BN (d+1) (XU _) om Y R;obtain⟨y1,y2,q1,q2,q3,q4,q5,q6,q7⟩:=V (IO s.BQ) om s.BQ (d+1) (XU _) om aa ah;have hB:D5 (17-d)=3*D5 (17-(d+1)):=by
      rw[show 17-d=(17-(d+1))+1 by omega];rfl
     have N:=jW (17-(d+1));have an:=QnB (k:=17-d) om;have hc:∃z:Int,0<=z/\z<=5608/\Ev (λn=>((bif (!Cv s.AR)then(CN l (i:Int)).bind λaf=>(OY n af.AR 0).bind λac=>AC (i64.wrap ((i64.wrap ((i64.wrap (b+g))+y2))+ac))else AC (i64.wrap ((i64.wrap (b+g))+y2))):AB Int)) (b+g+y2+z)/\
       ((Cv s.AR||cD 1 s.AR)=AE/\(bif Cv s.AR then 0 else cN s.AR)<=256->z=((bif Cv s.AR then 0 else cN s.AR:Nat):Int))/\(¬((Cv s.AR||cD 1 s.AR)=AE/\(bif Cv s.AR then 0 else cN s.AR)<=256)->256<z):=by
      have e1:i64.wrap (b+g)=b+g:=Dj;have e2:i64.wrap (b+g+y2)=b+g+y2:=Dj;cases hz:Cv s.AR with
      |true=>
       refine⟨0,om,om,?_,λ_=>sq,λh=>absurd ⟨rfl,sq⟩ h⟩;simp only[Xg,Vs,e1,e2];exact(Qa _).eq om
      |false=>
       obtain⟨v,u1,u2,u3,u4,u5⟩:=xN _ s.AR 0 (XU _) om wc;have ae:v<=5608:=by unfold Fa at u3;omega
       have e3:i64.wrap (b+g+y2+v)=b+g+y2+v:=Dj;refine⟨v,u2,ae,?_,λh=>?_,λh=>?_⟩
       .simp only[Xh,Vr,j.ix,XK,e1,e2];refine Ea u1 ?_;rw[e3];exact Qa _
       iterate 2 grind
     obtain⟨z,z0,z1,z2,z3,z4⟩:=hc;have e4:i64.wrap (a+1)=a+1:=Dj;have e5:i64.wrap (a+1+E)=a+1+E:=Dj;have e6:i64.wrap (a+1+E+y1)=a+1+E+y1:=Dj;obtain⟨w1,w2,v1,v2,v3,v4,v5,v6,J⟩:=ab (i+1) (a+1+E+y1) (b+g+y2+z) M om om om om om;refine⟨w1,w2,Eu ?_ v1,v2,v3,v4,v5,?_,?_⟩
     .unfold MZ;simp only[j.lt,Vr,Yr f.1,Yr f.2,XK,j.ix,j.nx,ed,wN];refine Ea p1 (Ea q1 ?_);simp only[j.ix,XK]at z2;refine Ea z2 ?_;rw[e4,e5,e6];exact Qa _
     .rintro⟨g1,g2,g3⟩;simp only[Hm,XX,Vt,eS]at g1;obtain⟨aj,⟨ai,ag,W⟩,Q⟩:=g1;rw[Hj,Z9]at g2⊢;rw[G5,Z8]at g3⊢;obtain⟨k1,k2⟩:=L ⟨ag,om,om⟩;obtain⟨k3,k4⟩:=q6 ⟨W,om,om⟩;have k5:=z3 ⟨ai,om⟩;obtain⟨k6,k7⟩:=v6 ⟨Q,om,om⟩;constructor<;>omega
     .intro hn;by_cases X:Hq (d+1) s.BN
      .obtain⟨k1,k2⟩:=L X;by_cases b2:Hq (d+1) s.BQ
       .obtain⟨k3,k4⟩:=q6 b2;by_cases O:(Cv s.AR||cD 1 s.AR)=AE/\(bif Cv s.AR then 0 else cN s.AR)<=256
        .have k5:=z3 O;refine J λq=>hn ⟨?_,?_,?_⟩
         .simp only[Hm,XX,Vt,eS];exact⟨F,⟨O.1,X.1,b2.1⟩,q.1⟩
         .rw[Hj,Z9];omega
         .rw[G5,Z8];omega
        .have:=z4 O;exact J λq=>om
       .have:=q7 b2;exact J λq=>om
      .have:=p7 X;exact J λq=>om
    .refine⟨a,b,Ei ?_,G,H,t,T,λh=>?_,λ_=>?_⟩
     .unfold MZ;have:Ev (λn:Nat=>((bif (i:Int)<(AI l:Int) then(bif a<=64 then AC (AG (b<=256))else AC AD)else AC AD):AB Bool)) false:=by
       rw[j.lt];by_cases q:a<=64
       .rw[Yr q,QN (show¬b<=256 from λz=>f ⟨q,z⟩)];exact Qa _
       .rw[QN q];exact Qa _
      exact Ea this (Qo (Qa _))
     iterate 2 omega
  have N:=jW (17-d);obtain⟨a,b,p1,p2,p3,p4,p5,L,p7⟩:=loop l 0 0 0 rfl (XV _) om om om om;refine⟨a,b,Ea G (Qo (Ea p1.ev (Qa _))),p2,p3,p4,p5,λh=>?_,λh=>?_⟩
  .obtain⟨k1,k2⟩:=L ⟨h.1,by have:=h.2.1;omega,by have:=h.2.2;omega⟩;constructor<;>omega
  .exact p7 λq=>h ⟨q.1,om,om⟩
theorem Qi9:∀(m:Nat) (c:AR),cN c<=m->AR.wf c->Ev (λn=>KN n c) (I5 c):=by
 intro m
 induction m using Nat.strongRecOn with
 |_ m q=>
 intro c J B;obtain⟨E,f⟩:=Y4 B;refine Yy ?_;show Ev (λn=>Zn (KN n) n c) _;rw[sk];have hx:∀x∈c.Aa,cN x<cN c:=by
  intro x hx;have:∀l:AA AR,x∈l->cN x<=H8 l:=by
   intro l
   induction l with
   |nil=>simp
   |cons y l q=>
    intro h;rw[H8]
    grind
  have:=this _ hx;rw[L_ c];omega
 have loop:Ev (λn=>iter (MK n c (KN n)) n 0) (bif c.Aa.all I5 then CJ.k ()else CJ.d AD):=by
  refine Ye c.Aa I5 _ _ om (λi x d=>?_) ?_
  .unfold MK;simp only[d.lt,Vr,d.ix,XK,d.nx];refine Ea (q (cN x) (by have:=hx x d.mem;omega) x (XU _) (f x d.mem)) ?_;cases I5 x<;>exact Qa _
  simp_all[MK,Qa]
 have fin:Ev (λn=>((bif (c.Bz != 0)then AC AE else AC (c.N != 0)):AB Bool).bind λj=>(bif j then AC AD else(iter (MK n c (KN n)) n 0).bind λg=>match g with|.k sb48=>(AC AE)|.d sb48=>AC sb48)) (((c.Bz==0)&&(c.N==0))&&GY c.Aa):=by
  refine Ea (v:= !((c.Bz==0)&&(c.N==0))) (Ez ?_) ?_
  .grind
  .cases((c.Bz==0)&&(c.N==0))with
   |false=>exact Qa _
   |true=>
    refine Qo (Ea loop ?_)
    grind[nK,Qa]
 refine YQ (λ_=>?_) (λL=>?_)
 .refine Ea (v:=_) ((Eh λ_=>Eh λ_=>Eh λ_=>Eh λ_=>Qa _).eq ?_) (Qa _);unfold C7
  grind
 .have e:Ev (λn:Nat=>((bif (c.AV==2)then AC (c.AV==2)else AC (c.AV==3)):AB Bool)) ((c.AV==2)||(c.AV==3)):=Ez (by rw[r_]);refine Ea e ?_;cases H:((c.AV==2)||(c.AV==3))with
  |true=>
   have t:(c.AV==4)=false:=by
    grind
   rw[t];have G:(bif (AI c.Aa:Int)<1 then AC AE else AC (AG (16<(AI c.Aa:Int))))=AC (!(AG (0<(AI c.Aa:Int))&&AG ((AI c.Aa:Int)<=16))):=by
    rw[tA];congr 1
    grind
   rw[G];cases F:(AG (0<(AI c.Aa:Int))&&AG ((AI c.Aa:Int)<=16))with
   |false=>
    refine Ea (Qa _) ((Qa _).eq sq)
   |true=>
    refine Ea (Qa _) (fin.eq sq)
  |false=>
   simp only[Vs];cases t:(c.AV==4)with
   |true=>
    simp only[Vr];cases F:((AI c.Aa:Int)==1)with
    |false=>
     grind
    |true=>
     refine Ea (v:=CJ.k ()) (Ez ?_) (fin.eq sq)
     grind
   |false=>
    grind
theorem Qj0(c:AR)(d:AR.wf c)(f:cD 1 c=AE)(j:cN c<=256):Ev (λn=>P3 n c) (bif I5 c then 0 else 71):=by
 obtain⟨v,h,_,_,g,_⟩:=xN _ c 0 (XU _) om d;have:=g ⟨om,f,j⟩;refine Ea h ?_;rw[dF (256<v)];refine Qo (Ea (Qi9 _ c (XU _) d) ?_);cases I5 c<;>exact Qa _
theorem Qlx{c:AR}(h:Cv c=AE):cD 1 c=AE/\cN c<=256:=by
 unfold Cv at h;simp only[XX,VA]at h;have:c.Aa=[]:=(by simp_all);rw[iZ,L_,this];exact⟨rfl,by simp[H8]⟩
theorem Qi7:∀(m:Nat) (l:AA AX) (d:Nat),IO l<=m->AI l<=1048576->(∀x∈l,AX.wf x)->Hm d l=AE->G5 l<=256->Ev (λn=>MU n l) (FT l):=by
 intro m
 induction m using Nat.strongRecOn with
 |_ m M=>
 intro l d hm hl X N hc;refine Yy ?_;show Ev (λn=>j9 (MU n) n l) _;unfold j9;have B:∀s∈l,sZ s<=IO l/\La (d+1) s=AE/\sC s<=G5 l:=by
  intro s;have:∀l:AA AX,s∈l->Hm d l=AE->sZ s<=IO l/\La (d+1) s=AE/\sC s<=G5 l:=by
   intro l
   induction l with
   |nil=>simp
   |cons y l M=>
    intro h N;simp only[Hm,XX]at N;rw[IO,G5]
    grind
  grind
 rw[nL];have loop:Ev (λn=>iter (O9 n l (MU n)) n 0) (bif l.all SA then CJ.k ()else CJ.d AD):=by
  refine Ye l SA _ _ om (λi s E=>?_) ?_
  .obtain⟨m1,F,m3⟩:=B s E.mem;obtain⟨Q,⟨G,H⟩,⟨L,J⟩⟩:=Y3 (X s E.mem);have aa:=Z_ s;have R:=Z8 s;rw[eS]at F;simp only[XX]at F;obtain⟨mz,T,V⟩:=F;have g:cD 1 s.AR=AE/\cN s.AR<=256:=by
    cases W:Cv s.AR with
    |true=>exact Qlx W
    |false=>
     grind
   unfold O9;simp only[E.lt,Vr,E.ix,XK,E.nx,wN];rw[sn];cases h1:(s.AV==1)with
   |true=>
    simp only[Vr];have e:Ev (λn:Nat=>((bif s.By<1 then AC AE else(bif 5<s.By then AC AE else(bif (!Cv s.AR)then AC AE else(bif ((AI s.BN:Int) != 0)then AC AE else AC ((AI s.BQ:Int) != 0))))):AB Bool)) (!(C7 1 5 s.By&&(Cv s.AR&&(((AI s.BN:Int)==0)&&((AI s.BQ:Int)==0))))):=by
     refine(Qg λ_=>Qg λ_=>Qg λ_=>Qg λ_=>Qa _).eq ?_;unfold C7
     grind
    cases t:(C7 1 5 s.By&&(Cv s.AR&&(((AI s.BN:Int)==0)&&((AI s.BQ:Int)==0))))with
    |true=>rw[t]at e;exact Ea (Ea e (Qa _)) (Qa _)
    |false=>rw[t]at e;exact Ea (Ea e (Qa _)) (Qa _)
   |false=>
    simp only[Vs];cases h2:(s.AV==2)with
    |true=>
     simp only[Vr];have e:Ev (λn=>((bif (s.By != 0)then AC AE else(P3 n s.AR).bind λq=>(bif (q != 0)then AC AE else(bif ((AI s.BN:Int)==0)then AC AE else(MU n s.BN).bind λj=>(bif (!j)then AC AE else(MU n s.BQ).bind λf=>AC (!f))))):AB Bool)) (!((s.By==0)&&(I5 s.AR&&(AG (0<(AI s.BN:Int))&&(FT s.BN&&FT s.BQ))))):=by
      have Y:=M (IO s.BN) om s.BN (d+1) (XU _) G H T om;have P:=M (IO s.BQ) om s.BQ (d+1) (XU _) L J V om;have j2:Ev (λn=>(MU n s.BQ).bind λf=>AC (!f)) (!FT s.BQ):=Ea P (Qa _);have O:Ev (λn=>(MU n s.BN).bind λj=>(bif (!j)then AC AE else(MU n s.BQ).bind λf=>AC (!f))) (!FT s.BN|| !FT s.BQ):=Ea Y (Qg λ_=>j2);refine(Qg λ_=>Ea (Qj0 s.AR Q g.1 g.2) (Qg λ_=>Qg λ_=>O)).eq ?_
      grind
     cases t:((s.By==0)&&(I5 s.AR&&(AG (0<(AI s.BN:Int))&&(FT s.BN&&FT s.BQ))))with
     |true=>rw[t]at e;exact Ea (Ea e (Qa _)) (Qa _)
     |false=>rw[t]at e;exact Ea (Ea e (Qa _)) (Qa _)
    |false=>exact Ea (Qa _) (Qa _)
  simp_all[O9,Qa]
 refine Ea loop ?_;cases l.all SA<;>exact Qa _
theorem QjZ(l:AA AX)(hl:AI l<=1048576)(g:∀x∈l,AX.wf x):Ev (λn=>Wm n l) (GQ l):=by
 obtain⟨a,b,j,H,F,_,_,q,B⟩:=tt _ l 0 (XU _) om hl g;refine Ea j ?_;have t:G' l=AE↔Hq 0 l:=by
  unfold G' Hq;simp
 unfold GQ;cases f:G' l with
 |false=>
  have:=B (λh=>gq);have e:(bif 64<a then AC AE else AC (AG (256<b)))=AC true:=by
   grind
  exact Ea (Ez e) (Qa _)
 |true=>
  have d:=t.1 f;obtain⟨E,G⟩:=q d;have J:=d.2.1;have m:=d.2.2;have e:(bif 64<a then AC AE else AC (AG (256<b)))=AC false:=by
   grind
  refine Ea (Ez e) (Qo ?_);have y:((AI l:Int)==0)=l.isEmpty:=by
   cases l<;>simp;omega
  rw[y];refine Ea (Qg λ_=>Ea (Qi7 _ l 0 (XU _) hl g d.1 m) (Qa _)) ?_
  grind[Qa]
mutual
def hP:CM->Nat
 |⟨_,_,ps⟩=>bif ps.isEmpty then 0 else 1+G_ ps
def G_:AA CM->Nat
 |[]=>0
 |p::r=>max (hP p) (G_ r)
end
theorem rO(p:CM):hP p=bif p.Aa.isEmpty then 0 else 1+G_ p.Aa:=by cases p;rfl
theorem tw{p:CM}:∀{l:AA CM},p∈l->hP p<=G_ l
 |q::r,h=>by
  simp[G_];rcases X9.1 h with rfl|h
  .omega
  .have:=tw h;omega
theorem uq{α:Type}(l:AA α):((AI l:Int)==0)=l.isEmpty:=by
 cases l<;>simp;omega
theorem UN:∀l:AA CM,AI l<=Co l
 |[]=>XU _
 |p::r=>by have:=UN r;rw[Co,Yw,X3];omega
theorem wg:∀(m:Nat) (l:AA CM) (k:Nat),Co l<=m->k<=17->AI l<=1048576->(∀x∈l,CM.wf x)->Ev (λn=>Ss n l (k:Int)) ((min (G_ l) k:Nat):Int):=by
 intro m
 induction m using Nat.strongRecOn with
 |_ m B=>
 intro l k J hk hl q;refine Yy ?_;show Ev (λn=>j5 (Ss n) n l (k:Int)) _;unfold j5;have loop:∀(r:AA CM) (i:Nat) (a:Nat),l.drop i=r->i<=AI l->a<=k->C9 (λn=>K_ n l (k:Int) (Ss n)) ((a:Int),(i:Int)) ((max a (min (G_ r) k):Nat):Int):=by
  intro r
  induction r with
  |nil=>
   intro i a h j d;refine Ei ?_;unfold K_;simp only[QH h j,Vs,XK];refine(Qa _).eq ?_;simp[G_]
  |cons p r f=>
   intro i a h j F;obtain⟨d,g⟩:=Qs om h;obtain⟨t,G⟩:=Q2 (q p d.mem);by_cases E:0<k
   .have y:i64.wrap ((k:Int)-1)=((k-1:Nat):Int):=by rw[Dj];omega
    have hs:=YK d.mem;rw[Yw]at hs;have step:Ev (λn=>K_ n l (k:Int) (Ss n) ((a:Int),(i:Int))) (.k (((max a (min (hP p) k):Nat):Int),((i+1:Nat):Int))):=by
     unfold K_;simp only[d.lt,Vr,dT ((0:Int)<(k:Int)),XK,d.ix,d.nx,y,bne,uq];rw[rO];cases H:p.Aa.isEmpty with
     |true=>
      simp_all[Qa]
     |false=>
      simp only[Xh,Vr,Vs];refine Ea (Ea (B (Co p.Aa) om p.Aa (k-1) (XU _) om t G) (Qa _)) ((Qa _).eq ?_);have L:i64.wrap (1+((min (G_ p.Aa) (k-1):Nat):Int))=((1+min (G_ p.Aa) (k-1):Nat):Int):=by rw[Dj];omega
      grind
    refine(Eu step (f (i+1) _ g (by grind) om)).eq ?_;rw[G_];omega
   simp_all[Ei,K_,Qa]
 refine Ea ((loop l 0 0 rfl (XV _) (XV _)).ev) ((Qa _).eq ?_);omega
theorem we:∀(m:Nat) (l:AA CM),Co l<=m->AI l<=1048576->(∀x∈l,CM.wf x)->Ev (λn=>KM n l) ((min (Co l) 257:Nat):Int):=by
 intro m
 induction m using Nat.strongRecOn with
 |_ m E=>
 intro l L hl y;refine Yy ?_;show Ev (λn=>Zm (KM n) n l) _;have loop:∀(r:AA CM) (i:Nat) (a:Nat),l.drop i=r->i<=AI l->a<=1048576->∃b:Nat,C9 (λn=>Mg n l (KM n)) ((a:Int),(i:Int)) (b:Int)/\min b 257=min (a+(Co r-(AI r))) 257:=by
  intro r
  induction r with
  |nil=>
   intro i a j t _;refine⟨a,Ei ?_,by simp[Co]⟩;unfold Mg;simp only[QH j t,Vs,XK];exact Qa _
  |cons p r g=>
   intro i a j t F;obtain⟨d,h⟩:=Qs om j;obtain⟨B,J⟩:=Q2 (y p d.mem);have hs:=YK d.mem;rw[Yw]at hs;have H:=UN r;by_cases q:a<=256
   .obtain⟨b,f,G⟩:=g (i+1) (a+min (Co p.Aa) 257) h (by grind) om;refine⟨b,Eu ?_ f,?_⟩
    .unfold Mg;simp only[d.lt,Vr,dT ((a:Int)<=256),XK,d.ix,d.nx];refine Ea (E (Co p.Aa) om p.Aa (XU _) B J) ((Qa _).eq ?_);rw[Dj];rfl
    grind[Co,Yw]
   .refine⟨a,Ei ?_,om⟩;unfold Mg;simp only[d.lt,Vr,dF ((a:Int)<=256),XK,Vs];exact Qa _
 obtain⟨b,f,G⟩:=loop l 0 (AI l) rfl (XV _) hl;refine Ea f.ev ((Qa _).eq ?_);have:=UN l;omega
theorem Qot:∀(m:Nat) (l:AA CM) (k:Nat),Co l<=m->G_ l<=k->k<=17->Co l<=256->(∀x∈l,CM.wf x)->Ev (λn=>KP n l (k:Int)) ((G_ l:Int),(Co l:Int)):=by
 intro m
 induction m using Nat.strongRecOn with
 |_ m P=>
 intro l k T hk y g L;have B:=UN l;refine Yy ?_;show Ev (λn=>R' (KP n) n l (k:Int)) _;unfold R';have loop:∀(r:AA CM) (i:Nat) (a b:Nat),l.drop i=r->i<=AI l->a<=17->b+(Co r-(AI r))<=256->C9 (λn=>MS n l (k:Int) (KP n)) ((a:Int),(b:Int),(i:Int)) (((max a (G_ r):Nat):Int),((b+(Co r-(AI r)):Nat):Int)):=by
  intro r
  induction r with
  |nil=>
   intro i a b q E _ _;refine Ei ?_;unfold MS;simp only[QH q E,Vs,XK]
   grind[Qa,G_,Co]
  |cons p r t=>
   intro i a b q E N h;obtain⟨d,f⟩:=Qs om q;obtain⟨R,Q⟩:=Q2 (L p d.mem);have hs:=YK d.mem;have j:=tw d.mem;rw[Yw]at hs;have G:=UN r;rw[Co,Yw,X3]at h;have step:Ev (λn=>MS n l (k:Int) (KP n) ((a:Int),(b:Int),(i:Int))) (.k (((max a (hP p):Nat):Int),((b+Co p.Aa:Nat):Int),((i+1:Nat):Int))):=by
    unfold MS;simp only[d.lt,Vr,d.ix,XK,d.nx,uq];rw[rO]at j⊢;cases M:p.Aa.isEmpty with
    |true=>
     have F:p.Aa=[]:=by grind
     simp only[Vr,XK];rw[F];simp only[Co,Xy,Nat.max_zero];exact Qa _
    |false=>
     rw[M]at j;simp only[Vs]at j⊢;have H:0<k:=om;have O:i64.wrap ((k:Int)-1)=((k-1:Nat):Int):=by rw[Dj];omega
     have J:((k:Int)==0)=false:=beq_false_of_ne om;rw[J,dF ((256:Int)<(b:Int)),O];simp only[Vs,XK];refine Ea (Ea (P (Co p.Aa) om p.Aa (k-1) (XU _) om om om Q) (Qa _)) ((Qa _).eq ?_);have V:i64.wrap ((G_ p.Aa:Int)+1)=((G_ p.Aa+1:Nat):Int):=QL om;have W:i64.wrap ((b:Int)+(Co p.Aa:Int))=((b+Co p.Aa:Nat):Int):=by rw[Dj];omega
     grind
   refine(Eu step (t (i+1) _ _ f (by grind) om om)).eq ?_;rw[G_,Co,Yw,X3]
   grind
 refine Ea ((loop l 0 0 (AI l) rfl (XV _) om om).ev) ((Qa _).eq ?_)
 grind
def Dw:Nat->AA Int->AA Int->AA Int
 |0,out,_=>out
 |k+1,out,lap=>if 256<AI out then out else Dw k (out++lap) lap
mutual
def F6:CM->AA Int
 |⟨m,laps,ps⟩=>bif 0<laps then DO [] ps else[m]
def DO:AA Int->AA CM->AA Int
 |out,[]=>out
 |out,p::r=>DO (Dw (p.Aj.toNat+(bif 0<p.Aj then 0 else 1)) out (F6 p)) r
end
theorem OU(p:CM):F6 p=bif 0<p.Aj then DO [] p.Aa else[p.Af]:=by cases p;rfl
theorem oA{k:Nat}{d f:AA Int}(h:256<AI d):Dw k d f=d:=by
 cases k with
 |zero=>rfl
 |succ k=>rw[Dw,Vv h]
theorem oO:∀(l:AA CM) {out:AA Int},256<AI out->DO out l=out
 |[],out,h=>by rw[DO]
 |p::r,out,h=>by rw[DO,oA h];exact oO r h
theorem jU:∀(k:Nat) (out lap:AA Int),AI (Dw k out lap)<=max (AI out) (256+AI lap)
 |0,out,lap=>by rw[Dw];omega
 |k+1,out,lap=>by
  rw[Dw];split
  .omega
  .have:=jU k (out++lap) lap
   grind
theorem oP:∀(m:Nat) (l:AA CM) (d:AA Int),Co l<=m->AI (DO d l)<=max (AI d) (256+257*Co l):=by
 intro m
 induction m using Nat.strongRecOn with
 |_ m x=>
 intro l;have g:∀p∈l,Co l<=m->AI (F6 p)<=257*Sy p:=by
  intro p h y;have hs:=YK h;rw[OU,Yw]at*;cases AG (0<p.Aj)with
  |true=>
   have:=x (Co p.Aa) om p.Aa [] (XU _)
   grind
  |false=>simp;omega
 have j:∀(r:AA CM) (d:AA Int),(∀p∈r,AI (F6 p)<=257*Sy p)->AI (DO d r)<=max (AI d) (256+257*Co r):=by
  intro r
  induction r with
  |nil=>intro d _;rw[DO];omega
  |cons p r f=>
   intro d hl;rw[DO,Co];have B:=f (Dw (p.Aj.toNat+(bif 0<p.Aj then 0 else 1)) d (F6 p)) λq t=>hl q (by simp[t])
   grind[jU]
 grind
theorem uk(p:CM):AI (F6 p)<=257*Sy p:=by
 rw[OU,Yw];cases AG (0<p.Aj)with
 |true=>
  have:=oP _ p.Aa [] (XU _)
  grind
 |false=>simp;omega
theorem Qmq(kk:Int):∀(m:Nat) (l:AA CM),Co l<=m->Co l<=256->AI l<=1048576->(∀x∈l,CM.wf x)->C3 kk l=AE->Ev (λn=>UR n l) (DO [] l):=by
 intro m
 induction m using Nat.strongRecOn with
 |_ m ih=>
 intro l hm O hl hw X;rw[Y1,Xs]at X;refine Yy ?_;show Ev (λn=>jz (UR n) n l) _;unfold jz;have inner:∀(p:CM) (g:AA Int) (t:p.Aj=0\/0<p.Aj/\p.Aj<=64) (L:AI g<=100000) (j:Nat) (k:Nat) (d:AA Int),j+k=p.Aj.toNat+(bif 0<p.Aj then 0 else 1)->AI d<=200000->
   ∃f:CJ (AA Int) (CJ ((AA Int)×Int) (CJ (AA Int) (AA Int))),C9 (λn=>MG n p g) (d,(j:Int)) f/\
    (f=.k (Dw k d g)\/(256<AI (Dw k d g)/\f=.d (.d (.d (Dw k d g))))):=by
  intro p g t L j k
  induction k generalizing j with
  |zero=>
   intro d hj _;refine⟨_,Ei (b:=.k d) ?_,.inl rfl⟩
   grind[MG,Qa]
  |succ k Q=>
   intro d hj H;have E:((j:Int)<if p.Aj<1 then 1 else p.Aj):=by
    grind
   by_cases M:256<AI d
   .grind[C9.done,oA,MG,Qa]
   .obtain⟨f,y,F⟩:=Q (j+1) (d++g) om (by grind);refine⟨f,Eu ?_ y,by rw[Dw,Vu M];exact F⟩;unfold MG;rw[Yr E,dF ((256:Int)<(AI d:Int))];refine Jk (Qo (Qj (Sk d g om) ?_));rw[QL om];exact Qa _
 have loop:∀(r:AA CM) (i:Nat) (d:AA Int),l.drop i=r->i<=AI l->AI d<=100000->
   ∃f:CJ (AA Int) (AA Int),C9 (λn=>MJ n l (UR n)) (d,(i:Int)) f/\(f=.k (DO d r)\/f=.d (DO d r)):=by
  intro r
  induction r with
  |nil=>
   intro i d P W _;refine⟨.k d,Ei ?_,.inl (by rw[DO])⟩;unfold MJ;simp only[QH P W,Vs];exact Qa _
  |cons p r R=>
   intro i d P W H;obtain⟨q,N⟩:=Qs om P;have E:=q.lt';have hs:=YK q.mem;obtain⟨Y,w2⟩:=Q2 (hw p q.mem);have t:=X p q.mem;rw[UL]at t;have B:p.Aj=0\/0<p.Aj/\p.Aj<=64:=by
    cases V:(p.Aj==0)with
    |true=>exact .inl (by simpa using V)
    |false=>
     rw[V]at t;simp only[Vs,C7,XX,Vt]at t;exact .inr ⟨om,om⟩
   have aa:=uk p;have M:Ev (λn=>((bif 0<p.Aj then(UR n p.Aa).bind λT=>AC T else AC [p.Af]):AB (AA Int))) (F6 p):=by
    rw[OU];refine YQ (λh=>?_) (λ_=>Qa _);rw[Yw]at hs;refine Ea (ih (Co p.Aa) om p.Aa (XU _) om Y w2 ?_) (Qa _);have:(p.Aj==0)=false:=by
     simp only[Vt]at h;exact beq_false_of_ne om
    rw[this]at t;simp only[Vs,XX]at t;exact t.2.2.2
   obtain⟨f,y,F⟩:=inner p (F6 p) B om 0 _ d (Xx _) om;rw[DO];rcases F with rfl|⟨G,rfl⟩
   .obtain⟨J,q1,q2⟩:=R (i+1) (Dw (p.Aj.toNat+(bif 0<p.Aj then 0 else 1)) d (F6 p)) N om (by
     have:=jU (p.Aj.toNat+(bif 0<p.Aj then 0 else 1)) d (F6 p);omega)
    refine⟨J,Eu ?_ q1,q2⟩;unfold MJ;simp only[q.lt,Vr,q.ix,XK,q.nx];exact Ea M (Ea y.ev (Qa _))
   .refine⟨.d (Dw (p.Aj.toNat+(bif 0<p.Aj then 0 else 1)) d (F6 p)),Ei ?_,.inr (by rw[oO r G])⟩;unfold MJ;simp only[q.lt,Vr,q.ix,XK,q.nx];exact Ea M (Ea y.ev (Qa _))
 obtain⟨f,y,F⟩:=loop l 0 [] rfl (XV _) sq;rcases F with rfl|rfl
 iterate 2 exact Ea y.ev (Qa _)
theorem QhI(kk:Int):∀(m:Nat) (l:AA CM),Co l<=m->Co l<=256->AI l<=1048576->(∀x∈l,CM.wf x)->C3 kk l=AE->Ev (λn=>LZ n l) (DO [] l):=by
 intro m
 induction m using Nat.strongRecOn with
 |_ m Y=>
 intro l hm G hl W Q;rw[Y1,Xs]at Q;refine Yy ?_;show Ev (λn=>R_ (LZ n) n l) _;unfold R_;have inner:∀(p:CM) (i:Nat) (g:At l i p) (P:AA Int) (h:AA Int) (q:0<p.Aj/\p.Aj<=64) (B:AI h<=100000) (j:Nat) (k:Nat) (d:AA Int),j+k=p.Aj.toNat->AI d<=200000->
   C9 (λn=>Ma n l (P,(i:Int)) h) (d,(j:Int)) (Dw k d h):=by
  intro p i g P h q B j k
  induction k generalizing j with
  |zero=>
   intro d X _;refine Ei ?_;unfold Ma;simp only[g.ix,XK];rw[dF ((j:Int)<p.Aj)];exact Qa _
  |succ k L=>
   intro d X y;by_cases t:256<AI d
   .refine Ei ?_;rw[oA t];unfold Ma;simp only[g.ix,XK];rw[dT ((j:Int)<p.Aj),dF ((AI d:Int)<=256)];exact Qa _
   .rw[Dw,Vu t];refine Eu ?_ (L (j+1) (d++h) om (by grind));unfold Ma;simp only[g.ix,XK];rw[dT ((j:Int)<p.Aj),dT ((AI d:Int)<=256)];simp only[Vr,XK];refine Qj (Sk d h om) ?_;rw[QL om];exact Qa _
 have loop:∀(r:AA CM) (i:Nat) (d:AA Int),l.drop i=r->i<=AI l->AI d<=100000->
   C9 (λn=>MQ n l (LZ n)) (d,(i:Int)) (DO d r):=by
  intro r
  induction r with
  |nil=>
   intro i d J O _;refine Ei ?_;rw[DO];unfold MQ;simp only[QH J O,Vs,XK];exact Qa _
  |cons p r M=>
   intro i d J O y;obtain⟨g,F⟩:=Qs om J;have V:=g.lt';have hs:=YK g.mem;by_cases t:256<AI d
   .rw[oO _ t];refine Ei ?_;unfold MQ;simp only[g.lt,Vr,dF ((AI d:Int)<=256),XK,Vs];exact Qa _
   obtain⟨T,w2⟩:=Q2 (W p g.mem);have q:=Q p g.mem;rw[UL]at q;have E:=uk p;rw[DO];refine Eu ?_ (M (i+1) _ F om (by
    have:=jU (p.Aj.toNat+(bif 0<p.Aj then 0 else 1)) d (F6 p);omega))
   unfold MQ;simp only[g.lt,Vr,dT ((AI d:Int)<=256),XK,g.ix,g.nx];cases N:(p.Aj==0)with
   |true=>
    have R:p.Aj=0:=by simpa using N
    simp only[Vr];refine Ea (Qj (Sk d [p.Af] (by simp;omega)) (Qa _)) ((Qa _).eq ?_);rw[OU,R];simp[Dw,t]
   |false=>
    rw[N]at q;simp only[Vs,XX,C7,Vt]at q;have f:0<p.Aj/\p.Aj<=64:=⟨om,om⟩;simp only[Vs];rw[Yw]at hs;refine Ea (Ea (Y (Co p.Aa) om p.Aa (XU _) om T w2 q.2.2.2) (Ea ?_ (Qa _))) (Qa _);have H:=OU p;rw[Yr f.1,Vr]at H;have:=(inner p i g d (DO [] p.Aa) f (by rw[<- H];rw[Yw]at E;omega) 0 p.Aj.toNat d om om).ev;rw[<- H]at this⊢;rw[Yr f.1];exact this
 exact Ea (loop l 0 [] rfl (XV _) sq).ev (Qa _)
def CU(c:CE)(m:Int):Int:=((c.An[m.toNat]?).map (·.AV)).getD 0
def Cq(c:CE)(a b:Int):Bool:=c.As.any λl=>(l.A5==a)&&(l.To==b)
def D6(c:CE)(len:Nat):Nat->Int->AA Int->Bool
 |_,_,[]=>AE
 |i,prev,m::r=>((CU c m==1)==AG (i=0))&&(((CU c m==3)==AG (i+1=len))&&((AG (i=0)||Cq c prev m)&&D6 c len (i+1) m r))
def GF(c:CE)(d:AN)(r:AA Int):Bool:=
 (AG (2<=AI r)&&AG (AI r<=256))&&(D6 c (AI r) 0 0 r&&((bif 0<=d.Ae then !((r.count d.Ae:Int)==0)&&((CU c d.Ae==2)&&Cq c d.Ae d.Ae)else AE)&&d.Am.all λx=>AG (x.B9<=(r.count x.Af:Int))))
def Df(c:CE)(d:AN):Bool:=GF c d (DO [] d.Ab)
def Ft(l:AA Int):AA (Int×Int):=l.foldl (λm k=>QE m k (Qd m k 0+1)) []
theorem Qmx(l:AA Int)(k:Int):Ft (l++[k])=QE (Ft l) k (Qd (Ft l) k 0+1):=by unfold Ft;simp
theorem oE(l:AA Int)(k:Int):Qd (Ft l) k 0=(l.count k:Int):=by
 have d:∀(l:AA Int) (m:AA (Int×Int)),Qd (l.foldl (λm k=>QE m k (Qd m k 0+1)) m) k 0=Qd m k 0+l.count k:=by
  intro l
  induction l with
  |nil=>simp
  |cons x l f=>
   grind[YG]
 grind[Ft,Ql5]
theorem QjQ(kk:Int):∀(m:Nat) (l:AA CM) (d:AA Int),Co l<=m->C3 kk l=AE->(∀x∈d,0<=x/\x<=kk)->∀x∈DO d l,0<=x/\x<=kk:=by
 intro m
 induction m using Nat.strongRecOn with
 |_ m H=>
 intro l;have rep:∀(k:Nat) (d f:AA Int),(∀x∈d,0<=x/\x<=kk)->(∀x∈f,0<=x/\x<=kk)->∀x∈Dw k d f,0<=x/\x<=kk:=by
  intro k
  induction k with
  |zero=>intro d f F _;exact F
  |succ k G=>
   grind[Dw]
 have B:∀(r:AA CM) (d:AA Int),Co r<=m->C3 kk r=AE->(∀x∈d,0<=x/\x<=kk)->∀x∈DO d r,0<=x/\x<=kk:=by
  intro r
  induction r with
  |nil=>intro d _ _ h;exact h
  |cons p r j=>
   intro d y q h;rw[Co,Yw]at y;rw[C3,XX]at q;obtain⟨g,E⟩:=q;refine j _ om E (rep _ _ _ h ?_);rw[OU];rw[UL]at g;cases t:(p.Aj==0)with
   |true=>
    have e0:=by omega
    rw[t,Vr,XX]at g;have:=g.1;unfold C7 at this
    grind
   |false=>
    rw[t]at g;simp[Vs,XX,C7,Vt]at g
    grind
 grind
theorem ew{c:CE}{m:Int}(g:0<=m)(f:m<=(AI c.An:Int)-1):∃x:Af,CN c.An m=AC x/\x.AV=CU c m:=by
 obtain⟨k,rfl⟩:∃k:Nat,m=k:=⟨m.toNat,om⟩;have d:k<AI c.An:=om
 simp_all[Qf,CU]
theorem uo(c:CE)(a b:Int):Qd (Ym C0 AE c.As) {Be:=a,to_:=b} AD=Cq c a b:=by
 rw[wq];by_cases h:{Be:=a,to_:=b}∈c.As.map C0
 .rw[Vv h];obtain⟨l,hl,e⟩:=Xe.1 h;obtain⟨f,d⟩:=OA.1 e;exact(Xt.2 ⟨l,hl,by simp[f,d]⟩).symm
 .rw[Vu h]
  symm
  rw[VP];intro q;obtain⟨l,hl,e⟩:=Xt.1 q;simp[XX,VA]at e
  grind[C0]
theorem sH(c:CE)(w:Cx c)(a b:Int):∃v:Int,Ev (λn=>LK n c a b) v/\AG (v<0)= !Cq c a b:=by
 have hl:AI c.As<=4611686018427387904:=by have:=w.legs;omega
 have step:∀i x,At c.As i x->Ev (λn=>MH n c a b i) (bif (x.A5==a)&&(x.To==b)then .d (.d i)else .k (i+1)):=by
  intro i x f;unfold MH;simp only[f.lt,f.ix,f.nx];refine Ea (Eh λ_=>Qa _) ?_
  grind[Qa]
 have loop:∀(r:AA C2) (i:Nat),c.As.drop i=r->i<=AI c.As->∃d:CJ Unit Int,C9 (λn=>MH n c a b) i d/\((r.any λl=>(l.A5==a)&&(l.To==b))=AE->∃j:Nat,d=.d j)/\((r.any λl=>(l.A5==a)&&(l.To==b))=AD->d=.k ()):=by
  intro r
  induction r with
  |nil=>
   intro i t E;refine⟨.k (),Ei ?_,λh=>(by simp at h),λ_=>rfl⟩
   grind[MH,QH,Qa]
  |cons x r B=>
   intro i t E;obtain⟨f,m⟩:=Qs hl t;have s:=step i x f;rw[List.any_cons];cases h:((x.A5==a)&&(x.To==b))with
   |true=>
    rw[h]at s;exact⟨.d i,Ei s,λ_=>⟨i,rfl⟩,λh=>by simp at h⟩
   |false=>
    rw[h]at s;obtain⟨d,g,q⟩:=B (i+1) m (by have:=f.lt';omega);exact⟨d,Eu s g,by grind⟩
 obtain⟨d,g,q,y⟩:=loop c.As 0 rfl (XV _);unfold Cq;cases h:c.As.any λl=>(l.A5==a)&&(l.To==b)with
 |true=>
  obtain⟨j,rfl⟩:=q h;exact⟨j,Ea g.ev (Qa _),sq⟩
 |false=>
  obtain rfl:=y h;exact⟨-1,Ea g.ev (Qa _),sq⟩
theorem uF(l:AA Int)(k:Int)(hl:AI l<=1048576):Ev (λn=>NI n l k) (l.count k:Int):=by
 have loop:∀(r:AA Int) (i:Nat) (a:Nat),l.drop i=r->i<=AI l->a<=i->C9 (λn=>MR n l k) (a,i) (a+r.count k):=by
  intro r
  induction r with
  |nil=>
   grind[C9.done,MR,QH,Qa]
  |cons x r g=>
   intro i a q y t;obtain⟨d,f⟩:=Qs om q;have j:=d.lt';have m:i64.wrap (a+1)=a+1:=QL om;rw[List.count_cons];cases h:(x==k)with
   |true=>
    refine(Eu ?_ (g (i+1) (a+1) f om om)).eq ?_
    .unfold MR;simp only[d.lt,d.ix,XK,d.nx,h,m];exact Qa _
    grind
   |false=>
    refine(Eu ?_ (g (i+1) a f om om)).eq ?_
    .unfold MR;simp only[d.lt,d.ix,XK,d.nx,h];exact Qa _
    .simp
 exact Ea ((loop l 0 0 rfl (XV _) (XU _)).ev) ((Qa _).eq om)
structure Hu (c:CE):Prop where
 kinds:∀m∈c.An,1<=m.AV/\m.AV<=3
 dist:∀d∈c.AO,-1<=d.Ae/\d.Ae<=(AI c.An:Int)-1/\C3 ((AI c.An:Int)-1) d.Ab=AE
theorem t6{c:CE}(h:Cw c=AE):Hu c:=by
 unfold Cw at h;simp[XX,Xs]at h;refine⟨λm g=>?_,λd f=>?_⟩
 .grind[C7]
 simp_all[FZ,C7]
theorem Ql6{c:CE}(q:Hu c){m:Int}(g:0<=m)(d:m<=(AI c.An:Int)-1):1<=CU c m/\CU c m<=3:=by
 obtain⟨x,f,h⟩:=ew g d;have:=by
  obtain⟨_,e⟩:=JL f;exact VK e
 rw[<- h];exact q.kinds x this
theorem rz{c:CE}(q:Hu c){d:AN}(hd:d∈c.AO):∀x∈DO [] d.Ab,0<=x/\x<=(AI c.An:Int)-1:=
 QjQ _ _ d.Ab [] (XU _) (q.dist d hd).2.2 sq
theorem uK(c:CE)(len i:Nat)(prev m:Int)(r:AA Int):D6 c len i prev (m::r)=(((CU c m==1)==AG (i=0))&&(((CU c m==3)==AG (i+1=len))&&((AG (i=0)||Cq c prev m)&&D6 c len (i+1) m r))):=rfl
theorem tP(i:Nat):((i:Int)==0)=AG (i=0):=by
 grind
theorem Qgo(c:CE)(r:AA Int)(J:2<=AI r)(Y:AI r<=256)(R:∀x∈r,0<=x/\x<=(AI c.An:Int)-1):
  Ev (λn=>iter (K5 n c (Ym C0 AE c.As) r) n ([],0)) (bif D6 c (AI r) 0 0 r then .k (Ft r)else .d AD):=by
 have loop:∀(t:AA Int) (i:Nat) (d:Int),r.drop i=t->i<=AI r->(0<i->At r (i-1) d)->C9 (λn=>K5 n c (Ym C0 AE c.As) r) (Ft (r.take i),(i:Int)) (bif D6 c (AI r) i d t then .k (Ft r)else .d AD):=by
  intro t
  induction t with
  |nil=>
   intro i d j E _;refine Ei ?_;unfold K5;simp only[QH j E,Vs,D6,Vr]
   simp_all[VL,Qa]
  |cons m t ih=>
   intro i d j E Q;obtain⟨f,P⟩:=Qs om j;have H:=f.lt';obtain⟨M,N⟩:=R m f.mem;obtain⟨x,T,O⟩:=ew M N;have V:i64.wrap ((AI r:Int)-1)=((AI r-1:Nat):Int):=by rw[Dj];omega
   have W:((i:Int)==((AI r-1:Nat):Int))=AG (i+1=AI r):=gq;have X:Ev (λn:Nat=>((bif ((x.AV==1) != ((i:Int)==0))then AC AE else(bif ((x.AV==3) != ((i:Int)==(i64.wrap ((AI r:Int)-1))))then AC AE else(bif 0<(i:Int) then(CN r (i64.wrap ((i:Int)-1))).bind λq=>(AC (Qd (Ym C0 AE c.As) ({Be:=q,to_:=m:Uk}) AD)).bind λB=>AC (!B)else AC AD))):AB Bool))
     (!(((CU c m==1)==AG (i=0))&&(((CU c m==3)==AG (i+1=AI r))&&(AG (i=0)||Cq c d m)))):=by
    rw[O,V,W,tP];refine Et (Qg λ_=>Qg λ_=>YQ (v:= !Cq c d m) (w:=AD) (λh=>?_) λ_=>Qa _) ?_
    .have y:0<i:=by simpa using h
     have G:i64.wrap ((i:Int)-1)=((i-1:Nat):Int):=by rw[Dj];omega
     rw[G,(Q y).ix]
     grind[uo,Qa]
    grind
   have g:i64.wrap (Qd (Ft (r.take i)) m 0+1)=Qd (Ft (r.take i)) m 0+1:=by
    grind[oE,List.count_le_length,Dj]
   have step:Ev (λn=>K5 n c (Ym C0 AE c.As) r (Ft (r.take i),(i:Int))) (bif ((CU c m==1)==AG (i=0))&&(((CU c m==3)==AG (i+1=AI r))&&(AG (i=0)||Cq c d m))then .k (Ft (r.take (i+1)),((i+1:Nat):Int))else .d (.d AD)):=by
    unfold K5;simp only[f.lt,Vr,f.ix,XK,f.nx,T];refine Ea X ?_;rw[g, <- Qmx, <- f.take];cases(((CU c m==1)==AG (i=0))&&(((CU c m==3)==AG (i+1=AI r))&&(AG (i=0)||Cq c d m)))<;>exact Qa _
   have L:D6 c (AI r) i d (m::t)=((((CU c m==1)==AG (i=0))&&(((CU c m==3)==AG (i+1=AI r))&&(AG (i=0)||Cq c d m)))&&D6 c (AI r) (i+1) m t):=by rw[uK];grind
   rw[L];cases F:(((CU c m==1)==AG (i=0))&&(((CU c m==3)==AG (i+1=AI r))&&(AG (i=0)||Cq c d m)))with
   |false=>
    rw[F]at step;exact Ei step
   |true=>
    rw[F]at step;rw[VC];exact Eu step (by grind)
 exact(loop r 0 0 rfl (XV _) om).ev
theorem Qj3(c:CE)(w:Cx c)(q:Hu c)(d:AN)(g:d∈c.AO)(E:∀x∈d.Ab,CM.wf x)(hs:Co d.Ab<=256):
  Ev (λn=>Pi n c d (Ym C0 AE c.As)) (Df c d):=by
 have B:=UN d.Ab;have y:=rz q g;have f:=oP _ d.Ab [] (XU _);unfold Pi Df;refine Ea (Qmq _ _ d.Ab (XU _) hs om E (q.dist d g).2.2) ?_;generalize DO [] d.Ab=r at y f⊢;unfold GF;have e3:=by
  have:AI r<=1048576:=by simp at f;omega
  exact UO this
 rw[e3];have F:(AG ((AI r:Int)-1<1)||AG (256<=(AI r:Int)-1))= !(AG (2<=AI r)&&AG (AI r<=256)):=by
  grind
 refine Ea (Et (Qg λ_=>Qa _) F) ?_;cases h:(AG (2<=AI r)&&AG (AI r<=256))with
 |false=>exact Qa _
 |true=>
  simp[XX,Vt]at h;refine Qo (Ea (Qgo c r h.1 h.2 y) ?_);cases D6 c (AI r) 0 0 r with
  |false=>exact Qa _
  |true=>
   have hx:Ev (λn=>(bif 0<=d.Ae then(AC (Qd (Ft r) d.Ae 0)).bind λj=>(bif (j==0)then AC AE else(CN c.An d.Ae).bind λm=>(bif (m.AV != 2)then AC AE else(AC (Qd (Ym C0 AE c.As) ({Be:=d.Ae,to_:=d.Ae:Uk}) AD)).bind λt=>AC (!t)))else AC AD))
     (!(bif 0<=d.Ae then !((r.count d.Ae:Int)==0)&&((CU c d.Ae==2)&&Cq c d.Ae d.Ae)else AE)):=by
    grind[oE,Qa,ew,uo]
   refine Ea hx ?_;cases(bif 0<=d.Ae then !((r.count d.Ae:Int)==0)&&((CU c d.Ae==2)&&Cq c d.Ae d.Ae)else AE)with
   |false=>exact Qa _
   |true=>
    refine Qo (Ea ?_ (Qa _));refine Jo d.Am _ (λn x=>PS n x (Ft r)) (by have:=w.cut d g;omega) λx _=>?_
    grind[PS,oE,Qa]
theorem QfM(c:CE)(w:Cx c)(q:Hu c)(r:AA Int)(O:2<=AI r)(hr:AI r<=256)(Y:∀x∈r,0<=x/\x<=(AI c.An:Int)-1):
  Ev (λn=>iter (K4 n c r) n 0) (bif D6 c (AI r) 0 0 r then .k ()else .d AD):=by
 have loop:∀(t:AA Int) (i:Nat) (d:Int),r.drop i=t->i<=AI r->(0<i->At r (i-1) d)->C9 (λn=>K4 n c r) (i:Int) (bif D6 c (AI r) i d t then .k ()else .d AD):=by
  intro t
  induction t with
  |nil=>
   intro i d y H _;refine Ei ?_;unfold K4;simp only[QH y H,Vs,D6,Vr];exact Qa _
  |cons m t ih=>
   intro i d y H T;obtain⟨h,R⟩:=Qs om y;have M:=h.lt';obtain⟨F,G⟩:=Y m h.mem;obtain⟨x,e1,Q⟩:=ew F G;have hk:=Ql6 q F G;have e3:i64.wrap ((AI r:Int)-1)=((AI r-1:Nat):Int):=by rw[Dj];omega
   have e4:((i:Int)==((AI r-1:Nat):Int))=AG (i+1=AI r):=gq;have step:Ev (λn=>K4 n c r (i:Int)) (bif ((CU c m==1)==AG (i=0))&&(((CU c m==3)==AG (i+1=AI r))&&(AG (i=0)||Cq c d m))then .k ((i+1:Nat):Int)else .d (.d AD)):=by
    unfold K4;simp only[h.lt,Vr,h.ix,XK,h.nx,e1,Q,e3,e4,tP];refine Ea (v:=if i=0 then 1 else if i+1=AI r then 3 else 2) (Ez ?_) ?_
    .grind
    refine Ea (v:= !(((CU c m==1)==AG (i=0))&&(((CU c m==3)==AG (i+1=AI r))&&(AG (i=0)||Cq c d m)))) ?_ ?_
    .have hl:Ev (λn:Nat=>(bif 0<(i:Int) then(CN r (i64.wrap ((i:Int)-1))).bind λB=>(LK n c B m).bind λE=>AC (AG (E<0))else AC AD:AB Bool)) (!(AG (i=0)||Cq c d m)):=by
      by_cases j:i=0
      .subst j;exact Qa _
      .have L:i64.wrap ((i:Int)-1)=((i-1:Nat):Int):=by rw[Dj];omega
       obtain⟨v,W,N⟩:=sH c w d m;rw[dT ((0:Int)<(i:Int)),L,(T om).ix,QN j];exact Ea W ((Qa _).eq (by rw[N];rfl))
     refine Et (Qg λ_=>hl) ?_;have V:(CU c m != if i=0 then 1 else if i+1=AI r then 3 else 2)= !(((CU c m==1)==AG (i=0))&&((CU c m==3)==AG (i+1=AI r))):=by
      have f:CU c m=1\/CU c m=2\/CU c m=3:=om;by_cases j:i=0
      .grind
      .by_cases X:i+1=AI r
       .grind
       .rcases f with g|g|g<;>simp[g,j,X]
     grind
    grind[Qa]
   have P:D6 c (AI r) i d (m::t)=((((CU c m==1)==AG (i=0))&&(((CU c m==3)==AG (i+1=AI r))&&(AG (i=0)||Cq c d m)))&&D6 c (AI r) (i+1) m t):=by rw[uK];grind
   rw[P];cases J:(((CU c m==1)==AG (i=0))&&(((CU c m==3)==AG (i+1=AI r))&&(AG (i=0)||Cq c d m)))with
   |false=>
    rw[J]at step;exact Ei step
   |true=>
    rw[J]at step;rw[VC];exact Eu step (by grind)
 exact(loop r 0 0 rfl (XV _) om).ev
theorem Qi8(c:CE)(w:Cx c)(q:Hu c)(d:AN)(f:d∈c.AO)(G:∀x∈d.Ab,CM.wf x)(hs:Co d.Ab<=256):
  Ev (λn=>Pu n c d) (Df c d):=by
 have F:=UN d.Ab;have E:=rz q f;have t:=oP _ d.Ab [] (XU _);unfold Pu Df;refine Ea (QhI _ _ d.Ab (XU _) hs om G (q.dist d f).2.2) ?_;generalize DO [] d.Ab=r at E t⊢;unfold GF;have H:(AG ((AI r:Int)<2)||AG (256<(AI r:Int)))= !(AG (2<=AI r)&&AG (AI r<=256)):=by
  grind
 refine Ea (Et (Qg λ_=>Qa _) H) ?_;cases h:(AG (2<=AI r)&&AG (AI r<=256))with
 |false=>exact Qa _
 |true=>
  simp only[XX,Vt]at h;refine Qo (Ea (QfM c w q r h.1 h.2 E) ?_);cases D6 c (AI r) 0 0 r with
  |false=>exact Qa _
  |true=>
   have hx:Ev (λn:Nat=>(bif (d.Ae != (-1))then(CN c.An d.Ae).bind λj=>(bif (j.AV != 2)then AC AE else(NI n r d.Ae).bind λy=>(bif (y==0)then AC AE else(LK n c d.Ae d.Ae).bind λg=>AC (AG (g<0))))else AC AD))
     (!(bif 0<=d.Ae then !((r.count d.Ae:Int)==0)&&((CU c d.Ae==2)&&Cq c d.Ae d.Ae)else AE)):=by
    have B:=q.dist d f;have N:(d.Ae != (-1))=AG (0<=d.Ae):=by grind
    rw[N];cases P:AG (0<=d.Ae)with
    |false=>exact Qa _
    |true=>
     obtain⟨x,L,M⟩:=ew (by grind) B.2.1;obtain⟨v,J,O⟩:=sH c w d.Ae d.Ae;simp only[XK,L,M];refine Et (Qg λ_=>Ea (uF r _ om) (Qg λ_=>Ea J (Qa _))) ?_
     grind
   refine Ea hx ?_;cases(bif 0<=d.Ae then !((r.count d.Ae:Int)==0)&&((CU c d.Ae==2)&&Cq c d.Ae d.Ae)else AE)with
   |false=>exact Qa _
   |true=>
    refine Qo (Ea (Ye d.Am (λx=>AG (x.B9<=r.count x.Af)) (CJ.d AD) (CJ.k ()) (by have:=w.cut d f;omega) (λi x m=>?_) ?_) ?_)
    .unfold WI;simp only[m.lt,m.ix,XK,m.nx];refine Ea (uF r _ om) ?_;have:AG (r.count x.Af<x.B9)= !decide (x.B9<=r.count x.Af):=by grind
     grind[Qa]
    .simp_all[WI,Qa]
    grind[Qa]
theorem Sa{a b:Nat}(h:a+b<=4611686018427387904):i64.wrap ((a:Int)+(b:Int))=((a+b:Nat):Int):=by
 rw[Dj];omega
def KU(c:CE):Nat:=AI c.An+AI c.As+AI c.AO+AI c.Ax+AI c.Ah+AI c.Ac+AI c.A3
def TJ(d:AN):Prop:=AI d.Am<=200/\Co d.Ab<=200/\G_ d.Ab<=16
structure Fl (c:CE):Prop where
 lens:KU c<=200
 name:AI c.Ar<=100
 dist:∀d∈c.AO,TJ d
 ties:AI c.BZ<=200
theorem QhO(c:CE)(w:Cx c)(q:Dx c)(hl:AI c.BZ<=1048576)(X:∀x∈c.BZ,AX.wf x):∃b,Ev (λn=>LP n c) b/\(b=AE->Fl c):=by
 have hm:=w.mats;have hg:=w.legs;have hd:=w.dist;have P:=w.wave;have ho:=w.off;have hc:=w.cat;have hp:=w.prize;have loop:∀(t:AA AN) (i s:Nat),c.AO.drop i=t->i<=AI c.AO->∃f:CJ Int Bool,C9 (λn=>K9 n c) ((s:Int),(i:Int)) f/\(f=.d AD\/ ∃v:Nat,f=.k (v:Int)/\(v<=200->s<=v/\ ∀d∈t,TJ d)):=by
  intro t
  induction t with
  |nil=>
   intro i s F N;refine⟨.k (s:Int),Ei ?_,Or.inr ⟨s,rfl,λ_=>⟨XU _,sq⟩⟩⟩;unfold K9;simp only[QH F N,Vs,XK];exact Qa _
  |cons d t ih=>
   intro i s F N;obtain⟨j,J⟩:=Qs om F;have Q:=j.lt';by_cases hs:s<=200
   .have g:=q.len d j.mem;have y:=q.wf d j.mem;have O:=w.cut d j.mem;have L:=we _ d.Ab (XU _) g y;have M:=wg _ d.Ab 17 (XU _) (XU _) g y;have e1:i64.wrap ((s:Int)+(AI d.Am:Int))=((s+AI d.Am:Nat):Int):=Sa om;have e2:i64.wrap (((s+AI d.Am:Nat):Int)+((min (Co d.Ab) 257:Nat):Int))=((s+AI d.Am+min (Co d.Ab) 257:Nat):Int):=Sa om;have step:Ev (λn=>K9 n c ((s:Int),(i:Int))) (bif (16:Int)<((min (G_ d.Ab) 17:Nat):Int) then .d (.d AD)else .k (((s+AI d.Am+min (Co d.Ab) 257:Nat):Int),((i+1:Nat):Int))):=by
     unfold K9;simp only[j.lt,Vr,j.ix,XK,j.nx,dT ((s:Int)<=200)];refine Ea L (Ea M ?_)
     grind[Qa]
    by_cases Y:G_ d.Ab<=16
    .rw[QN (show¬(16:Int)<((min (G_ d.Ab) 17:Nat):Int)by omega)]at step;obtain⟨f,E,m⟩:=ih (i+1) (s+AI d.Am+min (Co d.Ab) 257) J om;refine⟨f,Eu step E,?_⟩;rcases m with m|⟨v,m,G⟩
     .grind
     .refine Or.inr ⟨v,m,λP=>?_⟩;obtain⟨k4,H⟩:=G P;refine⟨om,λx hx=>?_⟩;rcases X9.1 hx with rfl|hx
      .exact⟨om,om,Y⟩
      .exact H x hx
    .rw[Yr (show(16:Int)<((min (G_ d.Ab) 17:Nat):Int)by omega)]at step;exact⟨.d AD,Ei step,Or.inl rfl⟩
   .refine⟨.k (s:Int),Ei ?_,Or.inr ⟨s,rfl,λh=>absurd h hs⟩⟩;unfold K9;simp only[j.lt,Vr,dF ((s:Int)<=200),XK,Vs];exact Qa _
 obtain⟨f,E,m⟩:=loop c.AO 0 (KU c) rfl (XV _);have e:i64.wrap ((i64.wrap ((i64.wrap ((i64.wrap ((i64.wrap ((i64.wrap ((AI c.An:Int)+(AI c.As:Int)))+(AI c.AO:Int)))+(AI c.Ax:Int)))+(AI c.Ah:Int)))+(AI c.Ac:Int)))+(AI c.A3:Int))=(KU c:Int):=by
  have V:AI c.An+AI c.As<=4611686018427387904:=om;have R:AI c.An+AI c.As+AI c.AO<=4611686018427387904:=om;have h3:AI c.An+AI c.As+AI c.AO+AI c.Ax<=4611686018427387904:=om;have T:AI c.An+AI c.As+AI c.AO+AI c.Ax+AI c.Ah<=4611686018427387904:=om;have W:AI c.An+AI c.As+AI c.AO+AI c.Ax+AI c.Ah+AI c.Ac<=4611686018427387904:=om;have h6:AI c.An+AI c.As+AI c.AO+AI c.Ax+AI c.Ah+AI c.Ac+AI c.A3<=4611686018427387904:=om;rw[Sa V,Sa R,Sa h3,Sa T,Sa W,Sa h6];rfl
 unfold LP;rw[e];rcases m with rfl|⟨v,rfl,G⟩
 .exact⟨AD,Ea E.ev (Qa _),λh=>by cases h⟩
 .obtain⟨a,b,L,M,p3,_,_,_,_⟩:=tt _ c.BZ 0 (XU _) om hl X;have B:Ev (λn=>Pm n c.BZ) (AG ((AI c.BZ:Int)<=20)&&(AG (a<=80)&&AG (b<=300))):=by
   unfold Pm;exact Ea L (Ea (Eh λ_=>Eh λ_=>Qa _) (Qa _))
  refine⟨AG ((v:Int)<=200)&&(AG ((AI c.Ar:Int)<=100)&&(AG ((AI c.BZ:Int)<=20)&&(AG (a<=80)&&AG (b<=300)))),Ea E.ev (Ea (Eh λ_=>Eh λ_=>Ea B (Qa _)) (Qa _)),λh=>?_⟩;simp only[XX,Vt]at h;obtain⟨k4,H⟩:=G om;exact⟨om,om,H,om⟩
def FW(c:CE):Bool:=
 !(AG (40<(AI c.An:Int))||(AG (512<(AI c.As:Int))||(AG (8<(AI c.AO:Int))||(AG (32<(AI c.Ax:Int))||(AG (32<(AI c.Ah:Int))||(AG (32<(AI c.Ac:Int))||AG (32<(AI c.A3:Int))))))))
  &&c.AO.all λd=> !decide (64<(AI d.Am:Int))
theorem Qqo(c:CE)(w:Cx c)(q:Dx c)(k:Fl c):Ev (λn=>P1 n c) (FW c):=by
 unfold P1 FW;refine Ea (Qg λ_=>Qg λ_=>Qg λ_=>Qg λ_=>Qg λ_=>Qg λ_=>Qa _) ?_;cases(AG (40<(AI c.An:Int))||(AG (512<(AI c.As:Int))||(AG (8<(AI c.AO:Int))||(AG (32<(AI c.Ax:Int))||(AG (32<(AI c.Ah:Int))||(AG (32<(AI c.Ac:Int))||AG (32<(AI c.A3:Int))))))))with
 |true=>exact Qa _
 |false=>
  refine Qo (Ea (Ye c.AO (λd=> !decide (64<(AI d.Am:Int))) (CJ.d AD) (CJ.k ()) (by have:=w.dist;omega) (λi x f=>?_) ?_) ?_)
  .obtain⟨h,g,j⟩:=k.dist x f.mem;unfold WZ;simp only[f.lt,f.ix,XK,f.nx];refine Ea (Qot _ x.Ab 17 (XU _) om (XU _) om (q.wf x f.mem)) ?_
   grind[Qa]
  .simp_all[WZ,Qa]
  .cases(c.AO.all λd=> !decide (64<(AI d.Am:Int)))<;>exact Qa _
theorem Qmr(c:CE)(w:Cx c)(q:Dx c)(k:Fl c):Ev (λn=>RS n c) (FW c):=by
 unfold RS FW;refine Ea (Qg λ_=>Qg λ_=>Qg λ_=>Qg λ_=>Qg λ_=>Qg λ_=>Qa _) ?_;cases(AG (40<(AI c.An:Int))||(AG (512<(AI c.As:Int))||(AG (8<(AI c.AO:Int))||(AG (32<(AI c.Ax:Int))||(AG (32<(AI c.Ah:Int))||(AG (32<(AI c.Ac:Int))||AG (32<(AI c.A3:Int))))))))with
 |true=>exact Qa _
 |false=>
  refine Qo (Ea (Ye c.AO (λd=> !decide (64<(AI d.Am:Int))) (CJ.d AD) (CJ.k ()) (by have:=w.dist;omega) (λi x g=>?_) ?_) ?_)
  .obtain⟨m,j,t⟩:=k.dist x g.mem;have f:=q.len x g.mem;have h:=q.wf x g.mem;unfold V1;simp only[g.lt,g.ix,XK,g.nx];refine Ea (Qg λ_=>Ea (wg _ x.Ab 17 (XU _) (XU _) f h) (Qg λ_=>Ea (we _ x.Ab (XU _) f h) (Qa _))) ?_
   grind[Qa]
  .simp_all[V1,Qa]
  .cases(c.AO.all λd=> !decide (64<(AI d.Am:Int)))<;>exact Qa _
def CO(c:CE):Int:=
 bif FW c then bif GG c then bif Cw c then bif GQ c.BZ==0 then bif c.AO.all (Df c)then 0 else 72 else GQ c.BZ else 71 else 70 else 2
theorem Qmu(c:CE)(w:Cx c)(q:Dx c)(k:Fl c)(hl:AI c.BZ<=1048576)(f:∀x∈c.BZ,AX.wf x):Ev (λn=>GA n c) (CO c):=by
 unfold GA CO;refine Ea (Qqo c w q k) ?_;cases FW c with
 |false=>exact Qa _
 |true=>
 refine Qo (Ea (Qoo c w) ?_);cases GG c with
 |false=>exact Qa _
 |true=>
 refine Qo (Ea (Qj2 c w q) ?_);cases hn:Cw c with
 |false=>exact Qa _
 |true=>
 refine Qo (Ea (Qqr c.BZ hl f) ?_);rw[bne];cases(GQ c.BZ==0)with
 |false=>exact Qa _
 |true=>
 have hs:Ev (λn=>iter (PI n c) n ([],0)) (Ym C0 AE c.As):=by
  refine pC c.As C0 AE (by have:=w.legs;omega) (λi x m d=>?_) (λm=>?_)
  .unfold PI;simp only[d.lt,d.ix,d.nx];exact Qa _
  simp_all[PI,Qa]
 refine Qo (Ea hs ?_);have d:Ev (λn=>Wv n c.AO c (Ym C0 AE c.As)) (c.AO.all (Df c)):=by
  refine Jo c.AO _ (λn x=>Ww n x c (Ym C0 AE c.As)) (by have:=w.dist;omega) λx hx=>?_;exact Ea (Qj3 c w (t6 hn) x hx (q.wf x hx) (by have:=(k.dist x hx).2.1;omega)) (Qa _)
 refine Ea d ?_
 grind[Qa]
theorem QhJ(c:CE)(w:Cx c)(q:Dx c)(k:Fl c)(hl:AI c.BZ<=1048576)(g:∀x∈c.BZ,AX.wf x):Ev (λn=>D2 n c) (CO c):=by
 have d:=k.lens;unfold KU at d;have h:SK c:=⟨om,om,om,om,om⟩;unfold D2 CO;refine Ea (Qmr c w q k) ?_;cases FW c with
 |false=>exact Qa _
 |true=>
 refine Qo (Ea (Qja c w h) ?_);cases GG c with
 |false=>exact Qa _
 |true=>
 refine Qo (Ea (QhH c w q) ?_);cases hn:Cw c with
 |false=>exact Qa _
 |true=>
 refine Qo (Ea (QjZ c.BZ hl g) ?_);rw[bne];cases(GQ c.BZ==0)with
 |false=>exact Qa _
 |true=>
 refine Qo (Ea (Ye c.AO (Df c) (CJ.d 72) (CJ.k ()) om (λi x f=>?_) ?_) ?_)
 .unfold Wd;simp only[f.lt,f.ix,XK,f.nx];refine Ea (Qi8 c w (t6 hn) x f.mem (q.wf x f.mem) (by have:=(k.dist x f.mem).2.1;omega)) ?_;cases Df c x<;>exact Qa _
 .simp_all[Wd,Qa]
 grind[Qa]
theorem jM{α:Type}(l:AA α){a b:Nat}(h:a<=b)(d:b<=AI l):Do l (a:Int) (b:Int)=AC ((l.take b).drop a):=by
 grind[Do]
theorem Qrv{α:Type}(l:AA α){b:Nat}(d:b<=AI l):Do l 0 (b:Int)=AC (l.take b):=by
 have:=jM l (XV b) d
 grind
theorem QnA{α:Type}(l:AA α){a:Nat}(d:a<=AI l):Do l (a:Int) (AI l:Int)=AC (l.drop a):=by
 simp_all[jM]
theorem s_{α:Type}(l m:AA α)(h:AI l+AI m<=4294967296):app l m=AC (l++m):=by
 unfold app;rw[XT (by exact h)];rfl
def DY{α:Type}(q:α->Bool):AA α->Nat->Int
 |[],_=> -1
 |x::l,i=>bif q x then(i:Int)else DY q l (i+1)
theorem Ev.first{α:Type}{step:Nat->Int->AB (CJ Int (CJ Unit Int))}(l:AA α)(q:α->Bool)(hl:AI l<=4611686018427387904)
  (hs:∀i x,At l i x->Ev (λn=>step n (i:Int)) (bif q x then .d (.d (i:Int))else .k ((i+1:Nat):Int)))(g:Ev (λn=>step n (AI l:Int)) (.d (.k ()))):
  Ev (λn=>(Go.Sw.iter (step n) n 0).bind λb=>match b with|.k _=>AC (-1)|.d v=>AC v) (DY q l 0):=by
 have loop:∀(r:AA α) (i:Nat),l.drop i=r->i<=AI l->∃d:CJ Unit Int,C9 step i d/\(match d with|.k _=>AC (-1)|.d v=>AC v)=AC (DY q r i):=by
  intro r
  induction r with
  |nil=>
   intro i f B;have:i=AI l:=by have:=Xq.1 f;omega
   subst this;exact⟨.k (),Ei g,rfl⟩
  |cons x r E=>
   intro i f B;obtain⟨m,t⟩:=Qs hl f;have s:=hs i x m;unfold DY;cases h:q x with
   |true=>
    rw[h]at s;exact⟨_,Ei s,rfl⟩
   |false=>
    grind[C9.cont]
 obtain⟨d,j,y⟩:=loop l 0 rfl (XV _);exact Ea j.ev (Ez y)
theorem ju{α:Type}(q:α->Bool):∀(l:AA α) (i:Nat),(DY q l i= -1/\l.all (λx=> !q x)=AE)\/ ∃j x,DY q l i=((i+j:Nat):Int)/\l[j]?=AC x/\q x=AE/\(l.take j).all (λx=> !q x)=AE
 |[],_=>.inl ⟨rfl,rfl⟩
 |x::l,i=>by
  unfold DY;cases h:q x with
  |true=>exact .inr ⟨0,x,rfl,rfl,h,rfl⟩
  |false=>
   rcases ju q l (i+1)with⟨h1,h2⟩|⟨j,y,h1,h2,h3,h4⟩
   .grind
   .refine .inr ⟨j+1,y,gq,h2,h3,by simp[h,h4]⟩
theorem pK{ι α:Type}{F:Nat->ι->AB α}{V:ι->α}:∀(L:AA ι),(∀p∈L,Ev (λn=>F n p) (V p))->∃N,∀n,N<=n->∀p∈L,F n p=AC (V p)
 |[],_=>sq
 |x::L,h=>by
  obtain⟨N,hN⟩:=pK L λp hp=>h p (by simp[hp]);obtain⟨M,hM⟩:=h x sq;refine⟨N+M,λn hn p hp=>?_⟩
  grind
theorem Ev.anyP{E R:Type}[DecidableEq R]{k:Nat->AA E->AB R}{l:AA E}{r:R}(h:∀p,p.Perm l->Ev (λn=>k n p) r):Ev (λn=>Go.Sw.anyP (k n) l) r:=by
 obtain⟨N,f⟩:=pK (Li l) λp d=>h p (jp l p d);exact⟨N,λn hn=>QqD λp d=>f n hn p (oi l p d)⟩
theorem Ev.isNil{α R:Type}[DecidableEq R]{l:AA α}{x y:Nat->AB R}{v:R}(hx:l=[]->Ev x v)(d:Ev y v):Ev (λn=>Go.Sw.isNil l (x n) (y n)) v:=by
 unfold Go.Sw.isNil;cases q:l.isEmpty with
 |false=>exact d
 |true=>
  obtain⟨N,g⟩:=hx (List.isEmpty_iff.1 q);obtain⟨M,f⟩:=d;exact⟨N+M,λn hn=>gq⟩
set_option maxRecDepth 4000
def DM(a b:Int):Int:=bif a<b then-1 else bif b<a then 1 else 0
theorem tE(n:Nat)(a b:Int):Ky n a b=AC (DM a b):=by
 unfold Ky RD DM
 grind
def HQ:AA Int->Int
 |[]=>0
 |x::r=>bif x != 0 then x else HQ r
theorem dS(l:AA Int)(hl:AI l<=1000):Ev (λn=>KG n l) (HQ l):=by
 have loop:∀(r:AA Int) (i:Nat),l.drop i=r->i<=AI l->C9 (λn=>IG n l) i (bif HQ r==0 then CJ.k ()else CJ.d (HQ r)):=by
  intro r
  induction r with
  |nil=>
   intro i g h;refine Ei ?_;unfold IG;simp only[QH g h];exact Qa _
  |cons x r m=>
   intro i g h;obtain⟨d,f⟩:=Qs om g;have j:=d.lt';unfold HQ;cases q:(x != 0)with
   |true=>
    have e:(x==0)=false:=gq;simp[Vr,e];refine Ei ?_;unfold IG;simp only[d.lt,d.ix,XK,q];exact Qa _
   |false=>
    refine Eu ?_ (m (i+1) f om);unfold IG;simp only[d.lt,d.ix,XK,q,d.nx];exact Qa _
 refine Ea (loop l 0 rfl (XV _)).ev ?_
 grind[Qa]
theorem UK{β:Type}(m:AA (Int×β))(k:Int):GN m k=(GM m k).isSome:=by
 unfold GN GM
 grind
theorem Qp3{n:Nat}(h:n<=1048576):Nat.ble n Yp=true:=XT (XW h (by decide))
theorem nT{a b:Int}:DM a b<0↔a<b:=by
 grind[DM]
theorem nv{a b:Int}:DM a b=0↔a=b:=by
 grind[DM]
set_option maxRecDepth 4000
structure Dv {α:Type} (c:α->α->Int):Prop where
 swap:∀x y,c y x= -c x y
 trans:∀x y z,c x y<0->c y z<0->c x z<0
 eqt:∀x y z,c x y=0->c x z=c y z
section
variable {α:Type} {c d:α->α->Int}
theorem Dv.refl(h:Dv c)(x:α):c x x=0:=by have:=h.swap x x;omega
theorem Dv.eqr(h:Dv c){x y:α}(z:α)(e:c x y=0):c z x=c z y:=by
 rw[h.swap x z,h.swap y z,h.eqt x y z e]
theorem Dv.lex(h:Dv c)(k:Dv d):Dv λx y=>bif c x y != 0 then c x y else d x y:=by
 refine⟨λx y=>?_,λx y z=>?_,λx y z=>?_⟩
 .have e:=h.swap x y;by_cases q:c x y=0
  .have f:c y x=0:=by omega
   rw[q,f];exact k.swap x y
  grind
 .by_cases q:c x y=0
  .have e:=h.eqt x y z q;rw[q,e];by_cases f:c y z=0
   .rw[f];exact k.trans x y z
   grind
  .rw[bne_iff_ne.2 q];by_cases f:c y z=0
   .have e:=h.eqr x f
    grind
   .rw[bne_iff_ne.2 f];intro a b;have:=h.trans x y z a b
    grind
 .by_cases q:c x y=0
  .rw[q,h.eqt x y z q];intro e;rw[k.eqt x y z e]
  grind
theorem Dv.on{β:Type}(h:Dv c)(f:β->α):Dv λx y=>c (f x) (f y):=
 ⟨λx y=>h.swap _ _,λx y z=>h.trans _ _ _,λx y z=>h.eqt _ _ _⟩
end
theorem OC:Dv DM:=by
 have e:∀a b,DM a b=if a<b then-1 else if b<a then 1 else 0:=by
  intro a b;unfold DM
  grind
 refine⟨λx y=>?_,λx y z=>?_,λx y z=>?_⟩
 iterate 3 grind
theorem JD{c:CE}(h:CE.wf c):Cx c:=by
 obtain⟨t,⟨m,g⟩,⟨F,J⟩,⟨q,d⟩,⟨B,G⟩,⟨f,y⟩,⟨E,H⟩,⟨j,L⟩,_⟩:=h;exact⟨t,m,λx hx=>(g x hx).1,F,q,λx hx=>(d x hx).1,λx hx=>(d x hx).2.2.2.1.1,B,λx hx=>(G x hx).1,f,λx hx=>(y x hx).1,E,λx hx=>(H x hx).1,j⟩
theorem fY{c:CE}(h:CE.wf c):Dx c:=by
 obtain⟨_,_,_,⟨j,g⟩,_⟩:=h;exact⟨λd f=>(g d f).2.1.1,λd f=>(g d f).2.1.2⟩
theorem nF{c:CE}(h:CE.wf c):AI c.BZ<=1048576/\ ∀x∈c.BZ,AX.wf x:=by
 obtain⟨_,_,_,_,_,_,_,_,d,_⟩:=h;exact d
theorem xJ(p:Nat->Bool):∀k,(∀i,i<k->p i=AE)\/ ∃j,j<k/\p j=AD/\ ∀i,i<j->p i=AE
 |0=>sq
 |k+1=>by
  rcases xJ p k with h|⟨j,h1,h2,h3⟩
  .grind
  grind
theorem eK{p:Nat->Bool}{k:Nat}:(List.range k).all p=AE↔ ∀i,i<k->p i=true:=sq
theorem JN{B:Type}{step:Nat->Int->AB (CJ Int B)}(k:Nat)(p:Nat->Bool)(d b:B)
  (q:∀i,i<k->Ev (λn=>step n (i:Int)) (bif p i then .k ((i+1:Nat):Int)else .d d))(f:Ev (λn=>step n (k:Int)) (.d b)):
  Ev (λn=>Go.Sw.iter (step n) n 0) (bif (List.range k).all p then b else d):=by
 rcases xJ p k with h|⟨j,g,t,m⟩
 .rw[eK.2 h];exact Ev.iter (λi=>(i:Int)) k rfl (by grind) f
 .have:(List.range k).all p=false:=by
   grind
  rw[this];exact Ev.iter (λi=>(i:Int)) j rfl (by grind) (by grind)
theorem mQ{α:Type}{l:AA α}{i:Nat}(hl:AI l<=1048576)(hi:i<AI l):At l i l[i]:=YH om sq
theorem KZ{n:Nat}(h:n<=1048576):i64.wrap ((n:Int)+1)=((n+1:Nat):Int):=QL om
def IY(x y:CF):Bool:=AG (x.Af<y.Af)||((x.Af==y.Af)&&AG (x.Ad<y.Ad))
def JS(x y:CF):Int:=HQ [DM x.Af y.Af,DM x.Ad y.Ad]
theorem Qmz(x y:CF):AG (0<=JS x y)= !IY x y:=by
 grind[JS,IY,HQ,DM]
theorem iu(a b:Int):Ev (λn=>Ky n a b) (DM a b):=Ev.congr (Qa _) λn=>tE n a b
theorem Qi4(x y:CF):Ev (λn=>M4 n x y) (JS x y):=by
 unfold M4 ZV;exact Ea (Ea (iu _ _) (Ea (iu _ _) (Ea (dS _ sq) (Qa _)))) (Qa _)
def Ds(x:Int):Bool:=C7 (-1099511627776) 1099511627776 x
theorem fG(x:Int):Ev (λn=>IK n x) (Ds x):=by
 simp_all[IK,Ds,C7,Eh,Qa]
def H5(c:CG)(i:Nat)(x:CF):Bool:=AG (0<(i:Int))&& !(match c.AQ[i-1]? with|some y=>IY y x|none=>AE)
def GE(c:CG)(i:Nat)(x:CF):Bool:=AG (x.Af<0)||(AG (40<=x.Af)||(AG (x.Ad<0)||(AG (255<x.Ad)||(!Ds x.A4||H5 c i x))))
def GR(c:CG):Bool:=(List.range (AI c.AQ)).all λi=>match c.AQ[i]? with|some x=> !GE c i x|none=>AE
theorem uh{α:Type}{l:AA α}{i:Nat}{y:α}(hl:AI l<=1048576)(hi:0<i)(d:i<=AI l)(h:l[i-1]?=AC y):CN l (i64.wrap ((i:Int)-1))=AC y:=by
 grind[Qz,Qf]
theorem Qqe(c:CG)(hl:AI c.AQ<=1048576):Ev (λn=>iter (PB n c) n 0) (bif GR c then CJ.k ()else CJ.d 160):=by
 unfold GR;refine JN (AI c.AQ) _ _ _ (λi t=>?_) ?_
 .have d:=mQ hl t;unfold PB;simp only[d.lt,Vr,d.ix,XK,d.nx,d.get];have:Ev (λn=>((bif (c.AQ[i]).Af<0 then AC AE else(bif 40<=(c.AQ[i]).Af then AC AE else(bif (c.AQ[i]).Ad<0 then AC AE else(bif 255<(c.AQ[i]).Ad then AC AE else(IK n (c.AQ[i]).A4).bind λf=>(bif (!f)then AC AE else(bif 0<(i:Int) then(CN c.AQ (i64.wrap ((i:Int)-1))).bind λg=>(M4 n g (c.AQ[i])).bind λj=>AC (AG (0<=j))else AC AD)))))):AB Bool)) (GE c i (c.AQ[i])):=by
   unfold GE;refine Qg λ_=>Qg λ_=>Qg λ_=>Qg λ_=>Ea (fG _) (Qg λ_=>?_);unfold H5;refine Eh λh=>?_;have q:0<i:=gq;have m:i-1<AI c.AQ:=om;rw[uh hl q om (XL m),XL m];simp only[XK];exact Ea (Qi4 _ _) ((Qa _).eq (Qmz _ _))
  refine Ea this ?_
  grind[Qa]
 simp_all[PB,Qa]
def FX(x:Int):Bool:=AG (x< -2199023255552)||AG (2199023255552<x)
theorem Qmp(l:AA Int)(hl:AI l<=1048576):Ev (λn=>M0 n l) (l.any FX):=by
 unfold M0 Wl;refine Ev.contains l FX (λn x=>Pf n x) om λx _=>?_
 grind[Pf,FX,Qa]
def I_(c:CG)(i:Nat)(r:AA Int):Bool:= !(((AI r:Int) != ((AI c.AQ+1:Nat):Int))||((r[i]?.getD 1 != 0)||r.any FX))
def GS(c:CG):Bool:=(List.range (AI c.BE)).all λi=>match c.BE[i]? with|some r=>I_ c i r|none=>AE
theorem Qqh(c:CG)(t:AI c.AQ<=1048576)(q:AI c.BE<=1048576)(B:∀r∈c.BE,AI r<=1048576)(y:AI c.BE=AI c.AQ+1):
  Ev (λn=>iter (Oe n c) n 0) (bif GS c then CJ.k ()else CJ.d 160):=by
 unfold GS;refine JN (AI c.BE) _ _ _ (λi x=>?_) ?_
 .have g:=mQ q x;unfold Oe;simp only[g.lt,Vr,g.ix,XK,g.nx,g.get,KZ t];have:Ev (λn=>((bif ((AI (c.BE[i]):Int) != ((AI c.AQ+1:Nat):Int))then AC AE else(CN (c.BE[i]) (i:Int)).bind λf=>(bif (f != 0)then AC AE else(M0 n (c.BE[i])).bind λd=>AC d)):AB Bool)) (!I_ c i (c.BE[i])):=by
   unfold I_;rw[Bool.not_not];refine Qg λh=>?_;have j:AI (c.BE[i])=AI c.AQ+1:=by
    grind
   have m:i<AI (c.BE[i]):=om
   simp_all[Qf,Qg,Qmp]
  refine Ea this ?_;cases I_ c i (c.BE[i])<;>exact Qa _
 simp_all[Oe,Qa]
def DQ(c:CG)(i j:Nat):Int:=((c.BE[i]?.getD [])[j]?).getD 0
structure KQ (c:CG):Prop where
 segs:AI c.AQ<=511
 far:AI c.BE=AI c.AQ+1
 row:∀i,i<AI c.BE->AI (c.BE[i]?.getD [])=AI c.AQ+1
theorem KQ.get{c:CG}(d:KQ c){i j:Nat}(hi:i<AI c.AQ+1)(g:j<AI c.AQ+1):c.BE[i]?=AC (c.BE[i]?.getD [])/\(c.BE[i]?.getD [])[j]?=AC (DQ c i j):=by
 have f:i<AI c.BE:=by rw[d.far];exact hi
 have h:=d.row i f
 simp_all[DQ]
def I6(c:CG):Bool:=(List.range (AI c.AQ+1)).all λi=>(List.range (AI c.AQ+1)).all λj=>(List.range (AI c.AQ+1)).all λk=> !decide (i64.wrap (DQ c i j+DQ c j k)<DQ c i k)
theorem kS{a b:Nat}(h:a<b):AG ((a:Int)<(b:Int))=true:=gq
theorem l9{a b:Nat}(h:b<=a):AG ((a:Int)<(b:Int))=false:=gq
theorem Qsd(c:CG)(d:KQ c):Ev (λn=>iter (Of n c) n 0) (bif I6 c then CJ.k ()else CJ.d 160):=by
 have hs:=d.segs;unfold I6;refine JN (AI c.AQ+1) _ _ _ (λi m=>?_) ?_
 .unfold Of;have g:=(d.get m m).1;have q:=d.row i gq;simp only[KZ (show AI c.AQ<=1048576 by omega),kS m,Vr,Qf g,XK,KZ (show i<=1048576 by omega)];refine Ea (JN (AI c.AQ+1) (λj=>(List.range (AI c.AQ+1)).all λk=> !decide (i64.wrap (DQ c i j+DQ c j k)<DQ c i k)) (CJ.d (CJ.d (CJ.d 160))) (CJ.k ()) (λj f=>?_) ?_) ?_
  .unfold U0;have y:=(d.get m f).2;have x:=(d.get f f).1;have h:=d.row j gq;simp only[q,kS f,Vr,Qf y,Qf x,XK,KZ (show j<=1048576 by omega)];refine Ea (JN (AI c.AQ+1) (λk=> !decide (i64.wrap (DQ c i j+DQ c j k)<DQ c i k)) (CJ.d (CJ.d (CJ.d (CJ.d (CJ.d 160))))) (CJ.k ()) (λk hk=>?_) ?_) ?_
   .unfold WT;have B:=(d.get f hk).2;have t:=(d.get m hk).2;simp only[h,kS hk,Vr,Qf B,Qf g,Qf t,XK,KZ (show k<=1048576 by omega)]
    grind[Qa]
   .unfold WT;simp only[h,l9 (XU _),Vs];exact Qa _
   grind[Qa]
  .unfold U0;simp only[q,l9 (XU _),Vs];exact Qa _
  grind[Qa]
 .unfold Of;simp only[KZ (show AI c.AQ<=1048576 by omega),l9 (XU _),Vs];exact Qa _
def FH(c:CG):Bool:= !(AG (511<(AI c.AQ:Int))||((AI c.BE:Int) != ((AI c.AQ+1:Nat):Int)))&&(GR c&&(GS c&&I6 c))
structure Dy (c:CG):Prop where
 segs:AI c.AQ<=1048576
 far:AI c.BE<=1048576
 row:∀r∈c.BE,AI r<=1048576
theorem nU{c:CG}(h:¬511<(AI c.AQ:Int))(g:AI c.BE=AI c.AQ+1)(f:GS c=AE):KQ c:=by
 refine⟨om,g,λi d=>?_⟩;have:=eK.1 f i d
 grind[I_]
theorem ry(c:CG)(w:Dy c):Ev (λn=>J_ n c) (bif FH c then 0 else 160):=by
 unfold J_ FH;simp only[KZ w.segs];refine Ea (Qg λ_=>Qa _) ?_;cases f:(AG (511<(AI c.AQ:Int))||((AI c.BE:Int) != ((AI c.AQ+1:Nat):Int)))with
 |true=>exact Qa _
 |false=>
  simp only[Xh,VC,XY,decide_eq_false_iff_not]at f⊢;have d:AI c.BE=AI c.AQ+1:=by
   grind
  refine Qo (Ea (Qqe c w.segs) ?_);cases GR c with
  |false=>exact Qa _
  |true=>
   refine Ea (Qqh c w.segs w.far w.row d) ?_;cases g:GS c with
   |false=>exact Qa _
   |true=>
    refine Ea (Qsd c (nU f.1 d g)) ?_;cases I6 c<;>exact Qa _
theorem jk{c:CG}(h:FH c=AE):KQ c:=by
 simp only[FH,XX,Bool.not_eq_true',XY,decide_eq_false_iff_not]at h
 grind[nU]
set_option maxRecDepth 10000
structure GC (c:CE):Prop where
 mats:AI c.An<=40
 res:0<=c.AT.A0/\c.AT.A0<=4294967296
 drift:0<=c.AT.Ba/\c.AT.Ba<=100000
def Dp(x k:Int):Int:=Int.tdiv ((if x<0-x then 0-x else x)*k+1000000-1) 1000000
theorem e8{x k:Int}(hx: -2199023255552<=x/\x<=2199023255552)(hk:0<=k/\k<=100000):0<=Dp x k/\Dp x k<=274877906944/\0<=(if x<0-x then 0-x else x)*k/\(if x<0-x then 0-x else x)*k<=219902325555200000:=by
 generalize ha:(if x<0-x then 0-x else x)=a;have f:0<=a:=om;have d:a<=2199023255552:=om;have h:0<=a*k:=Int.mul_nonneg f hk.1;have g:a*k<=2199023255552*100000:=Int.le_trans (Int.mul_le_mul_of_nonneg_right d hk.1) om
 grind[Dp]
theorem Qos{x k:Int}(hx: -2199023255552<=x/\x<=2199023255552)(hk:0<=k/\k<=100000):Ev (λn=>RN n x k) (Dp x k,0):=by
 obtain⟨g,q,f,j⟩:=e8 hx hk;unfold RN;refine Ea (v:=AD) ?_ ?_
 .grind[Qa]
 .have t:i64.wrap (0-x)=0-x:=Dj;have h:=Qz (n:=(if x<0-x then 0-x else x)*k) om om;have y:=Qz (n:=(if x<0-x then 0-x else x)*k+1000000) om om;have m:=Qz (n:=(if x<0-x then 0-x else x)*k+1000000-1) om om;have d:=Qz (n:=Dp x k) om om
  simp_all[Dp,Qa]
def FG(c:CE)(k:Int)(s:CF)(loc:Int):CK:=
 bif k != 1 then⟨0-Dp (loc-s.A4) c.AT.Ba,c.AT.A0+Dp (loc-s.A4) c.AT.Ba⟩else⟨0,c.AT.A0⟩
def F7(x:Int):Prop:= -1099511627776<=x/\x<=1099511627776
theorem sB{c:CE}(f:GC c)(k:Int){s:CF}{d:Int}(g:F7 s.A4)(hl:F7 d): -274877906944<=(FG c k s d).Lo/\(FG c k s d).Lo<=0/\0<=(FG c k s d).Hi/\(FG c k s d).Hi<=279172874240:=by
 obtain⟨q,h⟩:=f.res;obtain⟨m,j,_,_⟩:=e8 (x:=d-s.A4) (by unfold F7 at g hl;omega) f.drift;unfold FG
 grind
theorem m6{c:CE}(f:GC c){i:Nat}{m:Af}(g:c.An[i]?=AC m){s:CF}(hs:s.Af=(i:Int)){d:Int}(h:F7 s.A4)(hl:F7 d):Ev (λn=>Iq n c s d) (FG c m.AV s d):=by
 obtain⟨t,j⟩:=f.res;have hx: -2199023255552<=d-s.A4/\d-s.A4<=2199023255552:=by unfold F7 at h hl;omega
 obtain⟨q,x,_,_⟩:=e8 hx f.drift;unfold Iq FG;simp only[hs,Qf g,XK];cases m.AV != 1 with
 |false=>exact Qa _
 |true=>
  simp only[Vr];refine Ea (v:=⟨0-Dp (d-s.A4) c.AT.Ba,c.AT.A0+Dp (d-s.A4) c.AT.Ba⟩) ?_ (Qa _);rw[Qz (n:=d-s.A4) om om];refine Ea (Qos hx f.drift) ?_
  grind[Qz,Qa]
def GH(c:CE)(x:Int):Bool:=AG (0<=x)&&AG (x<(AI c.An:Int))
theorem oJ(c:CE)(x:Int):Ev (λn=>LJ n c x) (GH c x):=by
 simp_all[LJ,GH,Eh,Qa]
theorem sY{c:CE}{x:Int}(h:GH c x=AE):∃i m,x=((i:Nat):Int)/\c.An[i]?=AC m:=by
 unfold GH at h;simp only[XX,Vt]at h;exact⟨x.toNat,c.An[x.toNat]'om,om,sq⟩
def nb(v lo hi:Int):Bool:= !(AG (v<lo))&& !(AG (hi<v))
theorem mu(v lo hi:Int):nb v lo hi=AE↔lo<=v/\v<=hi:=by
 simp_all[nb]
theorem md(n:Nat)(v a b:Int):GB n v a b=AC (nb v a b):=by
 unfold GB nb;have f:AG (a<=v)= !decide (v<a):=gq;have d:AG (v<=b)= !decide (b<v):=gq;rw[f,d]
 grind
theorem QnH(n:Nat)(v:Int):Lk n v=AC (nb v 0 255):=by unfold Lk;rw[md];rfl
theorem QpM(n:Nat)(v:Int):IJ n v=AC (nb v 0 1048576):=by unfold IJ;rw[md];rfl
theorem QpL(n:Nat)(v:Int):HN n v=AC (nb v (-1099511627776) 1099511627776):=by unfold HN;rw[md];rfl
def Du(x y:Uc):Int:=HQ [DM x.Bw y.Bw,DM x.mat y.mat,DM x.BC y.BC]
def TA(x y:Uc):Prop:=x.Bw<y.Bw\/(x.Bw=y.Bw/\(x.mat<y.mat\/(x.mat=y.mat/\x.BC<y.BC)))
theorem xu(n:Nat)(a b d:Int):KG (n+4) [a,b,d]=AC (HQ [a,b,d]):=by
 unfold KG;have g:IG (n+4) [a,b,d] 0=bif a != 0 then AC (.d (.d a))else AC (.k 1):=rfl
 have h:IG (n+4) [a,b,d] 1=bif b != 0 then AC (.d (.d b))else AC (.k 2):=rfl
 have f:IG (n+4) [a,b,d] 2=bif d != 0 then AC (.d (.d d))else AC (.k 3):=rfl
 have j:IG (n+4) [a,b,d] 3=AC (.d (.k ())):=rfl;unfold HQ HQ HQ HQ;rw[iter,g];cases q:(a != 0)with
 |true=>rfl
 |false=>
  simp only[Vs];rw[iter,h];cases t:(b != 0)with
  |true=>rfl
  |false=>
   simp only[Vs];rw[iter,f];cases m:(d != 0)with
   |true=>rfl
   |false=>
    rfl
theorem QiB(n:Nat):(λx y=>Mk (n+4) x y)=λx y=>AC (Du x y):=by
 funext x y
 grind[Mk,Du,tE,xu]
theorem QoK(x y:Uc):Du x y<0↔TA x y:=by
 unfold Du HQ HQ HQ HQ TA;have e:∀a b:Int,(DM a b != 0)= !decide (a=b):=λa b=>by
  rw[XZ];simp[nv]
 rw[e,e,e];by_cases d:x.Bw=y.Bw
 .by_cases f:x.mat=y.mat
  .by_cases g:x.BC=y.BC
   .grind
   simp_all[nT]
  simp_all[nT]
 simp_all[nT]
theorem Qkb(x y:Uc):Du x y=0↔x=y:=by
 unfold Du HQ HQ HQ HQ;have e:∀a b:Int,(DM a b != 0)= !decide (a=b):=λa b=>by
  rw[XZ];simp[nv]
 rw[e,e,e];by_cases d:x.Bw=y.Bw
 .by_cases f:x.mat=y.mat
  .by_cases g:x.BC=y.BC
   .simp only[d,f,g,decide_true,Xg,Vs,true_iff];cases x;simp_all
   grind
  grind
 grind
def GZ(h:CQ):Uc:=⟨h.A',h.Af,h.Ad⟩
def DF(c:CE)(h:CQ):Bool:=AG (h.Af<0)||(AG ((AI c.An:Int)<=h.Af)||(!nb h.Ad 0 255||(!nb h.A' 0 1048576||(!nb h.BD (-1099511627776) 1099511627776||(!nb h.Ai (-1099511627776) 1099511627776||AG (h.Ai<h.BD))))))
def Ih(W:Int)(a b:CQ):Bool:=AG (Du (GZ a) (GZ b)<0)||(AG (Du (GZ a) (GZ b)=0)&&AG (W<i64.wrap (b.BD-a.Ai)))
def Ic(c:CE)(x:AA CQ)(i:Nat):Bool:=match x[i]? with
 |none=>AE
 |some h=> !DF c h&&((i==0)||(match x[i-1]? with
  |none=>AE
  |some p=>Ih c.AT.BH p h))
def FI(ok:Nat->Bool):Nat->Nat->Bool
 |0,_=>AE
 |d+1,i=>ok i&&FI ok d (i+1)
def Dg(c:CE)(x:AA CQ):Bool:=FI (Ic c x) (AI x) 0
theorem w7(c:CE)(x:AA CQ)(hx:AI x<=1000000)(step:Nat->Int->AB (CJ Int (CJ Unit Int)))
  (hs:∀i h,At x i h->(∀p,0<i->x[i-1]?=AC p->Ev (λn=>step n (i:Int)) (bif DF c h then CJ.d (CJ.d 170)else bif Ih c.AT.BH p h then CJ.k ((i+1:Nat):Int)else CJ.d (CJ.d 170)))/\(i=0->Ev (λn=>step n (i:Int)) (bif DF c h then .d (.d 170)else .k ((i+1:Nat):Int))))
  (f:Ev (λn=>step n (AI x:Int)) (.d (.k ()))):Ev (λn=>iter (step n) n 0) (bif Dg c x then CJ.k ()else CJ.d 170):=by
 have:=xA (step:=step) (s0:=(0:Int)) (λi=>(i:Int)) (AI x) (λi=>(bif FI (Ic c x) (AI x-i) i then CJ.k ()else CJ.d 170:CJ Unit Int)) rfl (λi m=>?_) ?_
 .exact this
 .have d:=YH (x:=x[i]) om (XL m);generalize x[i]=h at d;obtain⟨y,t⟩:=hs i h d;have j:AI x-i=(AI x-(i+1))+1:=om;have g:Ic c x i=(!DF c h&&((i==0)||(match x[i-1]? with|none=>AE|some p=>Ih c.AT.BH p h))):=by
   unfold Ic;rw[d.get]
  have q:FI (Ic c x) (AI x-i) i=(Ic c x i&&FI (Ic c x) (AI x-(i+1)) (i+1)):=by rw[j];rfl
  grind
 .rw[Nat.sub_self];exact f
theorem Qjd(p q:Uc):Ev (λn=>Mk n p q) (Du p q):=by
 refine⟨4,λn hn=>?_⟩;obtain⟨k,rfl⟩:∃k,n=k+4:=⟨n-4,om⟩;exact congrFun (congrFun (QiB k) p) q
theorem QpZ(n:Nat)(v:Int):KH n v=AC (nb v (-1099511627776) 1099511627776):=by
 unfold KH;by_cases d:(-1099511627776)<=v
 .rw[Yr d];simp only[Vr,XK,Option.some.injEq];rw[XZ,mu,Vt];omega
 .rw[QN d];simp only[Vs,XK,Option.some.injEq]
  symm
  rw[VP];intro z;rw[mu]at z;omega
theorem Qmo{e:Int}(c:CE)(x:AA CQ)(hx:AI x<=1000000)(he:Ev (λn=>GA n c) e):Ev (λn=>PW n c x) (bif e != 0 then e else bif Dg c x then 0 else 170):=by
 unfold PW;refine Ea he ?_;cases(e != 0)with
 |true=>exact Qa _
 |false=>
  simp only[Vs];refine Ea (w7 c x hx _ (λi h d=>?_) ?_) ?_
  .have t:Ev (λn=>((bif h.Af<0 then AC AE else(bif (AI c.An:Int)<=h.Af then AC AE else(bif h.Ad<0 then AC AE else(bif 255<h.Ad then AC AE else(bif h.A'<0 then AC AE else(bif 1048576<h.A' then AC AE else(KH n h.BD).bind λj=>(bif (!j)then AC AE else(KH n h.Ai).bind λg=>(bif (!g)then AC AE else AC (AG (h.Ai<h.BD)))))))))):AB Bool)) (DF c h):=by
    have e:DF c h=(AG (h.Af<0)||(AG ((AI c.An:Int)<=h.Af)||(AG (h.Ad<0)||(AG (255<h.Ad)||(AG (h.A'<0)||(AG (1048576<h.A')||(!nb h.BD (-1099511627776) 1099511627776||(!nb h.Ai (-1099511627776) 1099511627776||AG (h.Ai<h.BD))))))))):=by
     grind[DF,nb]
    rw[e];refine Qg λ_=>Qg λ_=>Qg λ_=>Qg λ_=>Qg λ_=>Qg λ_=>?_;simp only[QpZ,XK];exact Qg λ_=>Qg λ_=>Qa _
   refine⟨λp E F=>?_,λE=>?_⟩
   .have y:((i:Int)==0)=false:=by grind
    have m:i64.wrap ((i:Int)-1)=((i-1:Nat):Int):=by
     grind[Qz]
    unfold On;simp only[d.lt,Vr,d.ix,XK,d.nx,y,Vs,m,Qf F];cases B:DF c h with
    |true=>
     refine Ea (v:=(CJ.d (CJ.d (CJ.d 170)):CJ Unit (CJ Int (CJ Unit Int)))) (Ea t ?_) (Qa _);rw[B];exact Qa _
    |false=>
     refine Ea (v:=(bif Ih c.AT.BH p h then CJ.k ()else CJ.d (CJ.d (CJ.d 170)):CJ Unit (CJ Int (CJ Unit Int)))) (Ea t ?_) ?_
     .rw[B];simp only[Vs];refine Ea (Qjd _ _) ?_;show Ev (λn=>((bif 0<Du (GZ p) (GZ h) then AC (AG (0<Du (GZ p) (GZ h)))else(bif (Du (GZ p) (GZ h)==0)then AC (AG ((i64.wrap (h.BD-p.Ai))<=c.AT.BH))else AC AD)):AB Bool).bind λf=>((bif f then AC (CJ.d (CJ.d (CJ.d 170)))else AC (CJ.k ())):AB (CJ Unit (CJ Int (CJ Unit Int))))) _;unfold Ih;rcases Int.lt_trichotomy (Du (GZ p) (GZ h)) 0 with q|q|q
      iterate 3 grind[Qa]
     grind[Qa]
   .subst E;unfold On;have G:(((0:Nat):Int)==0)=true:=rfl;simp only[d.lt,Vr,d.ix,XK,d.nx,G];refine Ea (v:=(bif DF c h then CJ.d (CJ.d (CJ.d 170))else CJ.k ():CJ Unit (CJ Int (CJ Unit Int)))) (Ea t ?_) ?_
    .cases DF c h<;>exact Qa _
    .cases DF c h<;>exact Qa _
  .simp_all[On,Qa]
  .cases Dg c x<;>exact Qa _
theorem Qp2(n:Nat)(a b:CQ)(W:Int):Rc n a b W=AC (Ih W a b):=by
 unfold Rc Ih bne;have hl:=QoK (GZ a) (GZ b);have d:=Qkb (GZ a) (GZ b);have j:GZ a=GZ b↔a.A'=b.A'/\a.Af=b.Af/\a.Ad=b.Ad:=by
  unfold GZ;simp only[Uc.mk.injEq]
 rw[j]at d;unfold TA at hl;change _↔a.A'<b.A'\/(a.A'=b.A'/\(a.Af<b.Af\/(a.Af=b.Af/\a.Ad<b.Ad)))at hl;by_cases g:a.A'=b.A'
 .rw[VA.2 g];simp only[Xg,Vs];by_cases f:a.Af=b.Af
  .rw[VA.2 f];simp only[Xg,Vs];by_cases h:a.Ad=b.Ad
   .rw[VA.2 h];have z:=d.2 ⟨g,f,h⟩;rw[z];simp
   .rw[VB.2 h];have:¬Du (GZ a) (GZ b)=0:=λz=>h (d.1 z).2.2;rw[QN this];simp only[Xh,Vr,Bool.false_and,Bool.or_false,Option.some.injEq,decide_eq_decide];omega
  .rw[VB.2 f];have:¬Du (GZ a) (GZ b)=0:=λz=>f (d.1 z).2.1;rw[QN this];simp only[Xh,Vr,Bool.false_and,Bool.or_false,Option.some.injEq,decide_eq_decide];omega
 .rw[VB.2 g];have:¬Du (GZ a) (GZ b)=0:=λz=>g (d.1 z).1;rw[QN this];simp only[Xh,Vr,Bool.false_and,Bool.or_false,Option.some.injEq,decide_eq_decide];omega
theorem Qml{e:Int}(c:CE)(x:AA CQ)(hx:AI x<=1000000)(he:Ev (λn=>D2 n c) e):Ev (λn=>RY n c x) (bif e != 0 then e else bif Dg c x then 0 else 170):=by
 unfold RY;refine Ea he ?_;cases(e != 0)with
 |true=>exact Qa _
 |false=>
  simp only[Vs];refine Ea (w7 c x hx _ (λi h d=>?_) ?_) ?_
  .have t:Ev (λn=>((bif h.Af<0 then AC AE else(bif (AI c.An:Int)<=h.Af then AC AE else(Lk n h.Ad).bind λm=>(bif (!m)then AC AE else(IJ n h.A').bind λq=>(bif (!q)then AC AE else(HN n h.BD).bind λf=>(bif (!f)then AC AE else(HN n h.Ai).bind λj=>(bif (!j)then AC AE else AC (AG (h.Ai<h.BD)))))))):AB Bool)) (DF c h):=by
    unfold DF;refine Qg λ_=>Qg λ_=>?_;simp only[QnH,QpM,QpL,XK];exact Qg λ_=>Qg λ_=>Qg λ_=>Qg λ_=>Qa _
   refine⟨λp y E=>?_,λy=>?_⟩
   .have g:i64.wrap ((i:Int)-1)=((i-1:Nat):Int):=by
     have:=d.lt';rw[Dj];omega
    unfold Oo;simp only[d.lt,Vr,d.ix,XK,d.nx,dT ((0:Int)<(i:Int)),g,Qf E,Qp2];refine Ea t ?_;cases B:DF c h with
    |true=>exact Qa _
    |false=>
     simp only[Vs];cases Ih c.AT.BH p h<;>exact Qa _
   .subst y;unfold Oo;have F:AG ((0:Int)<((0:Nat):Int))=false:=rfl;simp only[d.lt,Vr,d.ix,XK,d.nx,F,Vs];refine Ea t ?_;cases B:DF c h<;>exact Qa _
  .unfold Oo;simp only[Jd,Vs];exact Qa _
  .cases Dg c x<;>exact Qa _
theorem uB(c:CE)(d:CE.wf c):∃b,Ev (λn=>LP n c) b/\(b=AE->Fl c/\Ev (λn=>GA n c) (CO c)):=by
 have w:=JD d
 grind[fY,nF,QhO,Qmu]
mutual
def N8:CM->AA Int
 |⟨m,laps,ps⟩=>bif laps==0 then[m]else(List.replicate laps.toNat (Ca ps)).flatten
def Ca:AA CM->AA Int
 |[]=>[]
 |p::r=>N8 p++Ca r
end
theorem aA(p:CM):N8 p=bif p.Aj==0 then[p.Af]else(List.replicate p.Aj.toNat (Ca p.Aa)).flatten:=by cases p;rfl
theorem fI(p:CM)(r:AA CM):Ca (p::r)=N8 p++Ca r:=by rw[Ca]
theorem uJ:∀(k:Nat) (out lap:AA Int),AI (Dw k out lap)<=256->Dw k out lap=out++(List.replicate k lap).flatten
 |0,out,lap,_=>by simp[Dw]
 |k+1,out,lap,h=>by
  rw[Dw]at h⊢;by_cases hb:256<AI out
  .grind
  .rw[Vu hb]at h⊢;rw[uJ k _ _ h,Xl,Vo,Vl]
theorem m7{kk:Int}{p:CM}(h:GT kk p=AE):p.Aj=0\/(1<=p.Aj/\p.Aj<=64/\C3 kk p.Aa=AE):=by
 rw[UL]at h;cases d:(p.Aj==0)with
 |true=>grind
 |false=>
  simp_all[C7]
theorem Qoe(kk:Int):∀(m:Nat) (l:AA CM) (f:AA Int),Co l<=m->C3 kk l=AE->AI (DO f l)<=256->DO f l=f++Ca l:=by
 intro m
 induction m using Nat.strongRecOn with
 |_ m E=>
 intro l
 induction l with
 |nil=>grind[DO,Ca]
 |cons p r j=>
  intro f B q hl;rw[Y1,List.all_cons,XX, <- Y1]at q;have h:Sy p+Co r<=m:=by rw[Co]at B;omega
  rw[DO]at hl⊢;by_cases x:256<AI (Dw (p.Aj.toNat+(bif 0<p.Aj then 0 else 1)) f (F6 p))
  .grind
  .have y:=uJ _ _ _ (Nat.le_of_not_lt x);rw[j _ om q.2 hl,y,fI,Vl];congr 2;rcases m7 q.1 with G|⟨a,b,d⟩
   .simp_all[OU,aA]
   .have t:AG (0<p.Aj)=true:=Yr om;have F:(p.Aj==0)=false:=gq;have g:AI (F6 p)<=256:=by
     rw[y,t]at x;simp only[Vr,Xy]at x;have:p.Aj.toNat=(p.Aj.toNat-1)+1:=om
     grind
    rw[OU,t,Vr]at g;rw[Yw]at h;have:=E (Co p.Aa) om p.Aa [] (XU _) d g;rw[OU,aA,t,F,Vr,Vr,Vs,Xy,this,Vk]
theorem Qqb(kk:Int):∀(m:Nat) (l:AA CM) (f:AA Int),Co l<=m->C3 kk l=AE->AI l<=1048576->(∀x∈l,CM.wf x)->AI f+AI (Ca l)<=256->Ev (λn=>Sr n l f) (f++Ca l):=by
 intro m
 induction m using Nat.strongRecOn with
 |_ m W=>
 intro l f hm L O Q P;rw[Y1,Xs]at L;refine Yy ?_;show Ev (λn=>j4 (Sr n) n l f) _;unfold j4;have inner:∀(p:CM) (w:AA Int),0<=p.Aj->p.Aj<=64->(∀o:AA Int,AI o+AI w<=256->Ev (λn=>Sr n p.Aa o) (o++w))->∀(k j:Nat) (o:AA Int),j+k=p.Aj.toNat->AI o+(List.replicate k w).flatten.length<=256->
   C9 (λn=>MX n (Sr n) p) (o,(j:Int)) (o++(List.replicate k w).flatten):=by
  intro p w H X q k
  induction k with
  |zero=>
   intro j o V _;refine Ei ?_;unfold MX;simp only[QN (show¬((j:Int)<p.Aj)by omega),Vs,List.replicate_zero,List.flatten_nil,Vj];exact Qa _
  |succ k F=>
   intro j o V h;rw[Xl,Vo]at h⊢;simp only[X5]at h;refine(Eu ?_ (F (j+1) (o++w) om gq)).eq sq;unfold MX;simp only[dT ((j:Int)<p.Aj),Vr];refine Ea (q o om) ?_;rw[QL om];exact Qa _
 have loop:∀(r:AA CM) (i:Nat) (o:AA Int),l.drop i=r->i<=AI l->AI o+AI (Ca r)<=256->C9 (λn=>PE n l (Sr n)) (o,(i:Int)) (o++Ca r):=by
  intro r
  induction r with
  |nil=>
   intro i o q J _;refine Ei ?_;unfold PE;simp only[QH q J,Vs,Ca,Vj];exact Qa _
  |cons p r G=>
   intro i o q J h;obtain⟨g,B⟩:=Qs om q;have N:=g.lt';rw[fI,X5]at h;have hs:=YK g.mem;rw[Yw]at hs;obtain⟨M,Y⟩:=Q2 (Q p g.mem);have R:=L p g.mem;refine(Eu ?_ (G (i+1) (o++N8 p) B om gq)).eq (by rw[fI,Vl]);unfold PE;simp only[g.lt,Vr,g.ix,XK,g.nx];rcases m7 R with H|⟨a,b,d⟩
   .have t:(p.Aj==0)=true:=by simp[H]
    have y:N8 p=[p.Af]:=by rw[aA,t];rfl
    rw[y]at h⊢;refine Ea (v:=o++[p.Af]) ?_ ?_
    .rw[t];refine Jk ?_
     grind[s_,Qa]
    .refine Ea (v:=o++[p.Af]) ((Ei ?_).ev) (Qa _)
     simp_all[MX,Qa]
   .have t:(p.Aj==0)=false:=gq;have y:N8 p=(List.replicate p.Aj.toNat (Ca p.Aa)).flatten:=by rw[aA,t];rfl
    rw[y]at h⊢;refine Ea (v:=o) ?_ ?_
    .rw[t];exact Qa _
    .refine Ea ((inner p (Ca p.Aa) om b (λT E=>W (Co p.Aa) om p.Aa T (XU _) d M Y E) p.Aj.toNat 0 o om om).ev) (Qa _)
 exact Ea ((loop l 0 f sq (XV _) P).ev) (Qa _)
structure Dd (c:CE):Prop where
 parts:∀d∈c.AO,C3 ((AI c.An:Int)-1) d.Ab=AE
 BT:∀d∈c.AO,2<=AI (DO [] d.Ab)/\AI (DO [] d.Ab)<=256
 len:∀d∈c.AO,AI d.Ab<=1048576
 wf:∀d∈c.AO,∀x∈d.Ab,CM.wf x
 legs:AI c.As<=512
theorem Dd.exp{c:CE}(g:Dd c){d:AN}(f:d∈c.AO):DO [] d.Ab=Ca d.Ab:=by
 have:=Qoe _ _ d.Ab [] (XU _) (g.parts d f) (g.BT d f).2
 grind
theorem o0{c:CE}(g:Dd c){d:AN}(f:d∈c.AO):Ev (λn=>Pw n d.Ab) (Ca d.Ab):=by
 unfold Pw;have h:=(g.BT d f).2;rw[g.exp f]at h;refine Ea ((Qqb _ _ d.Ab [] (XU _) (g.parts d f) (g.len d f) (g.wf d f) (by simpa using h)).eq (Vk _)) (Qa _)
theorem jC{c:CE}(he:Ev (λn=>GA n c) 0){i:Nat}{d:AN}(f:c.AO[i]?=AC d):Ev (λn=>LQ n c (i:Int)) (d,0):=by
 unfold LQ;refine Ea he ?_;have g:=(XM.1 f).1
 simp_all[QN,Qa,Qf]
theorem Qqm(c:CE)(hl:AI c.As<=512):∃m,Ev (λn=>Go.Sw.iter (J7 n c) n (([]:AA (Ub×C2)),0)) m:=by
 refine⟨_,Yu c.As (λ(m:AA (Ub×C2)) x=>QE m ({Be:=x.A5,to_:=x.To:Ub}) x) [] (λm i=>(m,(i:Int))) (λm=>m) om rfl (λi x m ha _=>?_) ?_⟩
 .unfold J7;simp only[ha.lt,Vr,ha.ix,XK,ha.nx];exact Qa _
 simp_all[J7,Qa]
theorem vA{α:Type}{step:Nat->Int->AB (CJ Int (CJ Unit Int))}(l:AA α)(q:α->Bool)(hl:AI l<=1048576)
  (hs:∀i x,At l i x->Ev (λn=>step n (i:Int)) (bif q x then .d (.d (i:Int))else .k ((i+1:Nat):Int)))(E:Ev (λn=>step n (AI l:Int)) (.d (.k ()))):
  (∃i x,At l i x/\l.find? q=AC x/\Ev (λn=>Go.Sw.iter (step n) n 0) (.d (i:Int)))\/l.find? q=AF/\Ev (λn=>Go.Sw.iter (step n) n 0) (.k ()):=by
 have f:∀(r:AA α) (i:Nat),l.drop i=r->i<=AI l->(∃j x,At l j x/\r.find? q=AC x/\C9 step (i:Int) (.d (j:Int)))\/r.find? q=AF/\C9 step (i:Int) (.k ()):=by
  intro r
  induction r with
  |nil=>
   intro i m B;have:i=AI l:=by have:=Xq.1 m;omega
   simp_all[Ei]
  |cons x r F=>
   intro i m B;obtain⟨g,y⟩:=Qs om m;have t:=g.lt';have h:=hs i x g;rw[List.find?_cons];cases e:q x with
   |true=>rw[e]at h;exact .inl ⟨i,x,g,rfl,Ei h⟩
   |false=>
    grind[C9.cont]
 rcases f l 0 sq (XV _)with⟨j,x,a,b,d⟩|⟨a,b⟩
 .exact .inl ⟨j,x,a,b,d.ev⟩
 .exact .inr ⟨a,b.ev⟩
theorem tv{c:CE}(w:Cx c)(q:Dx c)(h:CO c=0):Dd c:=by
 unfold CO at h;cases g:FW c with
 |false=>grind
 |true=>
  rw[g]at h;cases hn:GG c with
  |false=>grind
  |true=>
   rw[hn]at h;cases f:Cw c with
   |false=>grind
   |true=>
    rw[f]at h;simp only[Vr]at h;have t:c.AO.all (Df c)=true:=by
     grind
    unfold Cw at f;simp only[XX]at f;obtain⟨_,_,_,m,_⟩:=f;unfold FW at g;simp only[XX,Bool.not_eq_true',XY,decide_eq_false_iff_not]at g;rw[Xs]at t m;refine⟨λd j=>?_,λd j=>?_,q.len,q.wf,?_⟩
    .simp_all[FZ]
    .simp_all[Df,GF]
    omega
theorem QpI:∀j:Fin 257,(AG (0<(u64.wrap ((u64.wrap ((u64.wrap ((YX .u64 (u64.wrap ([(0:Int)].length:Int)) 32)*(YX .u64 (u64.wrap ((j:Nat):Int)) 32)))+(YX .u64 (u64.wrap ((u64.wrap ((YX .u64 (u64.wrap ([(0:Int)].length:Int)) 32)*(Je .u64 (u64.wrap ((j:Nat):Int)) 4294967295)))+(YX .u64 (u64.wrap ((Je .u64 (u64.wrap ([(0:Int)].length:Int)) 4294967295)*(Je .u64 (u64.wrap ((j:Nat):Int)) 4294967295))) 32))) 32)))+(YX .u64 (u64.wrap ((Je .u64 (u64.wrap ((u64.wrap ((YX .u64 (u64.wrap ([(0:Int)].length:Int)) 32)*(Je .u64 (u64.wrap ((j:Nat):Int)) 4294967295)))+(YX .u64 (u64.wrap ((Je .u64 (u64.wrap ([(0:Int)].length:Int)) 4294967295)*(Je .u64 (u64.wrap ((j:Nat):Int)) 4294967295))) 32))) 4294967295)+(u64.wrap ((Je .u64 (u64.wrap ([(0:Int)].length:Int)) 4294967295)*(YX .u64 (u64.wrap ((j:Nat):Int)) 32))))) 32)))))=false:=by decide+kernel
theorem QnF:∀j:Fin 257,(AG (9223372036854775807<(u64.wrap ((u64.wrap ([(0:Int)].length:Int))*(u64.wrap ((j:Nat):Int))))))=false:=by decide+kernel
theorem QpJ:∀j:Fin 257,(i64.wrap (u64.wrap ((u64.wrap ([(0:Int)].length:Int))*(u64.wrap ((j:Nat):Int)))))=((j:Nat):Int):=by decide+kernel
theorem QnG(x:Int)(K:Nat)(E:K<=256):∀(m j:Nat),1<=j->j<=K->K-j<=m->C9 (λn=>O' n) (List.replicate j x++List.replicate (K-j) 0,(j:Int)) (List.replicate K x):=by
 intro m
 induction m with
 |zero=>
  intro j t q y;obtain rfl:j=K:=om
  simp_all[Ei,O',Qa]
 |succ m h=>
  intro j t q y;by_cases B:j=K
  .grind
  .have hl:AI (List.replicate j x++List.replicate (K-j) (0:Int))=K:=by simp;omega
   refine Eu ?_ (h (j+min j (K-j)) om om om);unfold O';simp only;generalize hL:List.replicate j x++List.replicate (K-j) (0:Int)=L at hl;have d:L.take j=List.replicate j x:=gq;have g:L.drop j=List.replicate (K-j) 0:=gq;rw[Yr om,Vr,QnA L om,XK,Qrv L om,XK];unfold SI;simp only[XK,Int.toNat_natCast,hl,d];have f:L.take j++(List.replicate j x).take (K-j)++L.drop (j+min (AI (List.replicate j x)) (K-j))=List.replicate (j+min j (K-j)) x++List.replicate (K-(j+min j (K-j))) 0:=by
    rw[<- List.drop_drop,d,g,List.length_replicate,List.take_replicate,List.drop_replicate,List.replicate_append_replicate]
    grind
   rw[d]at f;rw[f];have w:i64.wrap ((j:Int)+((min (AI (List.replicate j x)) (K-j):Nat):Int))=((j+min j (K-j):Nat):Int):=by
    rw[List.length_replicate,Dj];omega
   rw[w];exact Qa _
theorem YS{α:Type}{c:Bool}{f g:Nat->AB α}{v:α}(h:c=AD)(q:Ev g v):Ev (λn=>bif c then f n else g n) v:=by simp_all
theorem ox(x:Int)(k:Nat)(f:1<=k)(d:k<=256):Ev (λn=>LT n [x] (k:Int)) (List.replicate k x):=by
 have j:=QpI ⟨k,om⟩;have h:=QnF ⟨k,om⟩;have g:=QpJ ⟨k,om⟩;unfold LT;refine Ea (v:=()) (by grind[Qa]) (Ea (v:=()) (Qa _) (Ea (v:=AD) ?_ (Ea (v:=()) (Qa _) ?_)))
 .exact YS j (Ez (congrArg AC h))
 .refine Ea (v:=List.replicate k 0) (Ez ((congrArg (λz=>mk z (0:Int)) g).trans ?_)) ?_
  .show mk (k:Int) 0=_;unfold mk
   grind
  .refine Ea (v:=List.replicate 1 x++List.replicate (k-1) 0) (Ez ?_) ?_
   .unfold SI
    grind
   .have e:((min [x].length (AI (List.replicate k (0:Int))):Nat):Int)=((1:Nat):Int):=by simp;omega
    rw[e];exact Ea ((QnG x k d k 1 (XU _) f om).ev) (Qa _)
set_option maxRecDepth 10000
theorem od(c:CE)(x:Int):Ev (λn=>G4 n c x) (GH c x):=by
 grind[G4,GH,Qa]
theorem jo(x:Int):Ev (λn=>HZ n x) (Ds x):=by
 grind[HZ,Ds,C7,Qa]
theorem Qjb{x k:Int}(hx: -2199023255552<=x/\x<=2199023255552)(hk:0<=k/\k<=100000):Ev (λn=>LM n x k) (Dp x k,0):=by
 obtain⟨j,q,g,m⟩:=e8 hx hk;unfold LM;refine Ea (v:=AD) ?_ ?_
 .grind[Qa]
 refine Qo (Ea (v:=if x<0-x then 0-x else x) ?_ ?_)
 .by_cases h:x<0
  .rw[Yr h,Vv om,Dj];exact Qa _
  .rw[QN h,Vu om];exact Qa _
 unfold Dp;generalize(if x<0-x then 0-x else x)*k=a at*;have d:Int.tdiv a 1000000=a/1000000:=gq;have f:Int.tdiv (a+1000000-1) 1000000=(a+1000000-1)/1000000:=gq;rw[Qz (n:=a) om om,d,f,Qz (n:=a/1000000) om om,Qz (n:=a/1000000*1000000) om om,Qz (n:=a/1000000+1) om om];refine Ea (v:=(a+1000000-1)/1000000) ?_ (Qa _)
 grind[Qa]
theorem oc{c:CE}(f:GC c){i:Nat}{m:Af}(g:c.An[i]?=AC m){s:CF}(hs:s.Af=(i:Int)){d:Int}(j:F7 s.A4)(hl:F7 d):Ev (λn=>Kz n c s d) (FG c m.AV s d):=by
 obtain⟨x,q⟩:=f.res;have hx: -2199023255552<=d-s.A4/\d-s.A4<=2199023255552:=by unfold F7 at j hl;omega
 obtain⟨t,y,_,_⟩:=e8 hx f.drift;unfold Kz Hg FG;simp only[hs,Qf g,XK];by_cases h:m.AV=1
 .simp_all[Qa]
 .rw[show(m.AV==1)=AD by simpa using h,show(m.AV != 1)=AE by simpa using h];simp only[Vs,Vr];rw[Qz (n:=d-s.A4) om om];refine Ea (Qjb hx f.drift) ?_
  grind[Qz,Qa]
theorem cV{a b:Nat}(h:a<b+1):AG ((a:Int)<=(b:Int))=true:=gq
theorem eH(b:Nat):AG (((b+1:Nat):Int)<=(b:Int))=false:=gq
theorem Qog(x:Int):Ev (λn=>HZ n x) (Ds x):=by
 simp_all[HZ,Ds,C7,Eh,Qa]
theorem Qok(x y:CF):Ev (λn=>KF n x y) (IY x y):=by
 simp_all[KF,IY,Qg,Eh,Qa]
theorem Qoh(c:CG)(hl:AI c.AQ<=1048576):Ev (λn=>iter (PH n c) n 0) (bif GR c then CJ.k ()else CJ.d 160):=by
 unfold GR;refine JN (AI c.AQ) _ _ _ (λi g=>?_) ?_
 .have d:=mQ hl g;unfold PH;simp only[d.lt,Vr,d.ix,XK,d.nx,d.get];refine Ea (v:=GE c i (c.AQ[i])) ?_ ?_
  .unfold GE;refine Qg λ_=>Qg λ_=>Qg λ_=>Qg λ_=>Ea (Qog _) (Qg λ_=>?_);unfold H5;refine Eh λh=>?_;have j:0<i:=gq;have f:i-1<AI c.AQ:=om;rw[uh hl j om (XL f),XL f];simp only[XK];exact Ea (Qok _ _) (Qa _)
  grind[Qa]
 simp_all[PH,Qa]
theorem QmE(l:AA Int)(q:Int->Bool):(List.range (AI l)).all (λu=> !q ((l[u]?).getD 0))= !l.any q:=by
 rw[XZ,eK,Bool.not_eq_true',VP];constructor
 .intro h e;obtain⟨x,hx,g⟩:=Xt.1 e;obtain⟨i,d,f⟩:=List.mem_iff_getElem.1 hx
  grind
 grind
theorem Qoi(c:CG)(x:AI c.AQ<=1048576)(B:∀r∈c.BE,AI r<=1048576)(q:AI c.BE=AI c.AQ+1):
  Ev (λn=>iter (PJ n c) n 0) (bif GS c then CJ.k ()else CJ.d 160):=by
 unfold GS;rw[q];refine JN (AI c.AQ+1) _ _ _ (λi y=>?_) ?_
 .have h:i<AI c.BE:=by omega
  have j:=XL h;unfold PJ;simp only[cV y,Vr,Qf j,j,XK,KZ x,KZ (show i<=1048576 by omega)];have m:AI (c.BE[i])<=1048576:=gq;refine Ea (v:=(AI (c.BE[i]):Int) != ((AI c.AQ+1:Nat):Int)||((c.BE[i])[i]?.getD 1 != 0)) ?_ ?_
  .grind[Qf,Qa]
  .unfold I_;cases E:((AI (c.BE[i]):Int) != ((AI c.AQ+1:Nat):Int))with
   |true=>exact Qa _
   |false=>
    have f:AI (c.BE[i])=AI c.AQ+1:=by
     grind
    simp only[Bool.false_or];cases(c.BE[i])[i]?.getD 1 != 0 with
    |true=>exact Qa _
    |false=>
     simp only[Bool.false_or,Vs];rw[<- QmE,f];refine Ea (JN (AI c.AQ+1) (λu=> !FX (((c.BE[i])[u]?).getD 0)) (CJ.d (CJ.d (CJ.d 160))) (CJ.k ()) (λu t=>?_) ?_) ?_
     .have g:u<AI (c.BE[i]):=by omega
      have d:=XL g;unfold V5;simp only[cV t,Vr,Qf j,Qf d,d,XK,Option.getD_some,KZ (show u<=1048576 by omega)];refine Ea (v:=FX (c.BE[i])[u]) (by unfold FX;exact Qg λ_=>Qa _) ?_
      grind[Qa]
     .unfold V5;simp only[eH,Vs];exact Qa _
     grind[Qa]
 .unfold PJ;simp only[eH,Vs];exact Qa _
theorem Qqf(c:CG)(d:KQ c):Ev (λn=>iter (O1 n c) n 0) (bif I6 c then CJ.k ()else CJ.d 160):=by
 have hs:=d.segs;unfold I6;refine JN (AI c.AQ+1) _ _ _ (λi h=>?_) ?_
 .unfold O1;have g:=(d.get h h).1;simp only[cV h,Vr,KZ (show i<=1048576 by omega)];refine Ea (JN (AI c.AQ+1) (λj=>(List.range (AI c.AQ+1)).all λk=> !decide (i64.wrap (DQ c i j+DQ c j k)<DQ c i k)) (CJ.d (CJ.d (CJ.d 160))) (CJ.k ()) (λj f=>?_) ?_) ?_
  .unfold WY;have t:=(d.get h f).2;have q:=(d.get f f).1;simp only[cV f,Vr,KZ (show j<=1048576 by omega)];refine Ea (JN (AI c.AQ+1) (λk=> !decide (i64.wrap (DQ c i j+DQ c j k)<DQ c i k)) (CJ.d (CJ.d (CJ.d (CJ.d (CJ.d 160))))) (CJ.k ()) (λk hk=>?_) ?_) ?_
   .unfold WG;have x:=(d.get f hk).2;have m:=(d.get h hk).2;simp only[cV hk,Vr,Qf g,Qf t,Qf q,Qf x,Qf m,XK,KZ (show k<=1048576 by omega)]
    grind[Qa]
   .unfold WG;simp only[eH,Vs];exact Qa _
   grind[Qa]
  .unfold WY;simp only[eH,Vs];exact Qa _
  grind[Qa]
 .unfold O1;simp only[eH,Vs];exact Qa _
theorem tJ(c:CG)(w:Dy c):Ev (λn=>LF n c) (bif FH c then 0 else 160):=by
 unfold LF FH;simp only[KZ w.segs];refine Ea (Qg λ_=>Qa _) ?_;cases f:(AG (511<(AI c.AQ:Int))||((AI c.BE:Int) != ((AI c.AQ+1:Nat):Int)))with
 |true=>exact Qa _
 |false=>
  simp only[Xh,VC,XY,decide_eq_false_iff_not]at f⊢;have d:AI c.BE=AI c.AQ+1:=by
   grind
  refine Qo (Ea (Qoh c w.segs) ?_);cases GR c with
  |false=>exact Qa _
  |true=>
   refine Ea (Qoi c w.segs w.row d) ?_;cases g:GS c with
   |false=>exact Qa _
   |true=>
    refine Ea (Qqf c (nU f.1 d g)) ?_;cases I6 c<;>exact Qa _
set_option maxRecDepth 10000
theorem YB{c:CE}(h:CO c=0):FW c=AE/\Cw c=AE/\ ∀d∈c.AO,Df c d=true:=by
 unfold CO at h
 grind
theorem oG{c:CE}(h:CO c=0):GC c:=by
 obtain⟨d,f,_⟩:=YB h;unfold FW at d;unfold Cw Ie C7 at f;simp only[XX,Bool.not_eq_true',XY,decide_eq_false_iff_not,Vt]at d f;refine⟨?_,?_,?_⟩
 iterate 3 omega
theorem Yx{α:Type}{c:Bool}{f g:Nat->AB α}{v:α}(h:c=AE)(q:Ev f v):Ev (λn=>bif c then f n else g n) v:=by simp_all
def D9(l:AA Int)(x:Int):Nat->Nat
 |0=>0
 |j+1=>bif (l[j+1]? ==AC x)then j+1 else D9 l x j
theorem n9(l:AA Int)(x:Int):∀j,D9 l x j<=j
 |0=>XU _
 |j+1=>by
  unfold D9;have:=n9 l x j
  grind
def DD(d:AN)(k:Nat):AA Int:=(Ca d.Ab).take (D9 (Ca d.Ab) d.Ae (AI (Ca d.Ab)-1)+1)++List.replicate k d.Ae++(Ca d.Ab).drop (D9 (Ca d.Ab) d.Ae (AI (Ca d.Ab)-1)+1)
def CV(c:CE)(i k:Int):AA Int×Int:=
 bif i<0 then([],90)else match c.AO[i.toNat]? with
 |none=>([],90)
 |some d=>bif AG (k<0)||(AG (0<k)&&AG (d.Ae<0))then([],90)else bif 256-(AI (Ca d.Ab):Int)<k then([],2)else(DD d k.toNat,0)
theorem oy(d:AN)(e:Int)(l:AA Int)(hl:AI l<=256):∀(m:Nat),m<AI l->C9 (λn=>MV n (d,e) l) (m:Int) ((D9 l d.Ae m:Nat):Int)
 |0,h=>by
  grind[C9.done,MV,D9,Qa]
 |m+1,h=>by
  have hx:l[m+1]?=AC (l[m+1]'(h)):=sq;unfold D9;rw[hx];cases hq:((l[m+1]'(h)) != d.Ae)with
  |true=>
   have e1:(AC (l[m+1]'(h))==AC d.Ae)=false:=gq;rw[e1,Vs];refine Eu ?_ (oy d e l hl m om);unfold MV;rw[Yr (show(0:Int)<((m+1:Nat):Int)by omega),Vr,Qf hx,XK,hq,XK,Vr,Qz (n:=((m+1:Nat):Int)-1) om om,show((m+1:Nat):Int)-1=(m:Int)by omega];exact Qa _
  |false=>
   have e1:(AC (l[m+1]'(h))==AC d.Ae)=true:=gq;rw[e1,Vr];refine Ei ?_;unfold MV;rw[Yr (show(0:Int)<((m+1:Nat):Int)by omega),Vr,Qf hx,XK,hq,XK,Vs];exact Qa _
theorem oI{c:CE}(g:Dd c)(he:Ev (λn=>GA n c) 0)(i k:Int):Ev (λn=>KI n c i k) (CV c i k):=by
 unfold CV;by_cases F:i<0
 .rw[Yr F,Vr];unfold KI It;refine Ea (v:=((90:Int),([]:AA Int))) (Ea (v:=Ch.c0 90) ?_ (Qa _)) (Qa _);refine Ea (v:=(Us,90)) ?_ (Yx rfl (Qa _));unfold LQ;refine Ea he (Qo (Ea (v:=AE) ?_ (Qa _)));rw[Yr F];exact Qa _
 rw[QN F,Vs];obtain⟨j,rfl⟩:∃j:Nat,i=(j:Int):=⟨i.toNat,om⟩;rw[Int.toNat_natCast];cases q:c.AO[j]? with
 |none=>
  have G:AI c.AO<=j:=gq;unfold KI It;refine Ea (v:=((90:Int),([]:AA Int))) (Ea (v:=Ch.c0 90) ?_ (Qa _)) (Qa _);refine Ea (v:=(Us,90)) ?_ (Yx rfl (Qa _));unfold LQ;refine Ea he (Qo (Ea (v:=AE) ?_ (Qa _)))
  simp_all[Qa]
 |some d=>
  simp only;have t:=VK q;have h:=(g.BT d t);rw[g.exp t]at h;have w:i64.wrap (256-(AI (Ca d.Ab):Int))=256-(AI (Ca d.Ab):Int):=Dj;unfold KI It;cases B:(AG (k<0)||(AG (0<k)&&AG (d.Ae<0)))with
  |true=>
   refine Ea (v:=((90:Int),([]:AA Int))) (Ea (v:=Ch.c1 ()) (Ea (jC he q) (Qo (Ea (v:=AE) ?_ (Qa _)))) (Qa _)) (Qa _)
   grind[Qa]
  |false=>
   have x:=B;simp only[XY,decide_eq_false_iff_not,Bool.and_eq_false_iff]at x;cases hk:AG (256-(AI (Ca d.Ab):Int)<k)with
   |true=>
    refine Ea (v:=((2:Int),Ca d.Ab)) (Ea (v:=Ch.c2 (Ca d.Ab)) (Ea (jC he q) (Qo (Ea (v:=AD) ?_ (Qo (Ea (o0 g t) ?_))))) (Qa _)) (Qa _)
    .exact Et (Qg λ_=>Eh λ_=>Qa _) B
    simp_all[Qa]
   |false=>
    have H:=Vy hk;obtain⟨f,rfl⟩:∃f:Nat,k=(f:Int):=⟨k.toNat,om⟩;obtain⟨m,y⟩:=Qqm c g.legs;rw[Int.toNat_natCast];refine Ea (v:=(0,DD d f)) (Ea (v:=Ch.c3 (DD d f,m)) (Ea (jC he q) (Qo (Ea (v:=AD) ?_ (Qo (Ea (o0 g t) ?_))))) (Qa _)) (Qa _)
    .exact Et (Qg λ_=>Eh λ_=>Qa _) B
    .simp only[w,hk,Vs];refine Ea (v:=DD d f) ?_ (Ea y (Qa _));by_cases L:f=0
     .simp_all[Qa,DD]
     .refine Yx (dT ((0:Int)<(f:Int))) ?_;have E:=oy d 0 (Ca d.Ab) h.2 (AI (Ca d.Ab)-1) om;have J:=n9 (Ca d.Ab) d.Ae (AI (Ca d.Ab)-1);rw[Qz (n:=(AI (Ca d.Ab):Int)-1) om om,show(AI (Ca d.Ab):Int)-1=((AI (Ca d.Ab)-1:Nat):Int)by omega];refine Ea E.ev (Ea (ox d.Ae f om om) (Ea (Ez ?_) (Qa _)))
      grind[DD,Qz,Zw,Nat.blt,Nat.ble_eq_true_of_le,Yp]
theorem fK{c:CE}(g:Dd c){i k:Int}(h:(CV c i k).2=0):∃(j:Nat) (d:AN) (f:Nat),i=(j:Int)/\k=(f:Int)/\c.AO[j]?=AC d/\(0<f->0<=d.Ae)/\AI (Ca d.Ab)+f<=256/\(CV c i k).1=DD d f:=by
 unfold CV at h⊢;by_cases q:i<0
 .grind
 rw[QN q,Vs]at h⊢;cases m:c.AO[i.toNat]? with
 |none=>grind
 |some d=>
  rw[m]at h;simp only at h⊢;cases t:(AG (k<0)||(AG (0<k)&&AG (d.Ae<0)))with
  |true=>grind
  |false=>
   rw[t]at h;cases hk:AG (256-(AI (Ca d.Ab):Int)<k)with
   |true=>grind
   |false=>
    grind
def Fz(c:CE):AA Int->Prop
 |a::b::r=>Cq c a b=AE/\Fz c (b::r)
 |_=>True
theorem vM{c:CE}{len:Nat}:∀{r:AA Int} {i:Nat} {p:Int},D6 c len i p r=AE->Fz c r/\(i≠0->∀m q,r=m::q->Cq c p m=AE)
 |[],_,_,_=>⟨trivial,sq⟩
 |m::r,i,p,h=>by
  unfold D6 at h;simp only[XX,Bool.or_eq_true,Vt]at h;obtain⟨_,_,h1,h2⟩:=h;obtain⟨a1,a2⟩:=vM h2;refine⟨?_,λhi m' q e=>?_⟩
  .cases r with
   |nil=>trivial
   |cons b r=>exact⟨a2 om b r rfl,a1⟩
  grind
theorem Fz.tail{c:CE}:∀{r:AA Int} (k:Nat),Fz c r->Fz c (r.drop k)
 |r,0,h=>by simpa using h
 |[],k+1,_=>by simp[Fz]
 |[a],k+1,_=>by simp[Fz]
 |a::b::r,k+1,h=>by
  rw[List.drop_succ_cons];exact Fz.tail k h.2
theorem Fz.append{c:CE}:∀{p:AA Int} {x:Int} {q:AA Int},Fz c (p++[x])->Fz c (x::q)->Fz c (p++x::q)
 |[],x,q,_,h=>h
 |[a],x,q,h1,h2=>⟨h1.1,h2⟩
 |a::b::r,x,q,h1,h2=>⟨h1.1,Fz.append (p:=b::r) h1.2 h2⟩
theorem sx{c:CE}{x:Int}(h:Cq c x x=AE){q:AA Int}(hq:Fz c (x::q)):∀k,Fz c (x::(List.replicate k x++q))
 |0=>hq
 |k+1=>⟨h,sx h hq k⟩
theorem Fz.at{c:CE}:∀{r:AA Int} {i:Nat} {a b:Int},Fz c r->r[i]?=AC a->r[i+1]?=AC b->Cq c a b=AE
 |[],_,_,_,_,h,_=>by simp at h
 |[x],i,_,_,_,_,h=>by simp at h
 |x::y::r,0,a,b,h,h1,h2=>by simp at h1 h2;subst h1;subst h2;exact h.1
 |x::y::r,i+1,a,b,h,h1,h2=>Fz.at (r:=y::r) h.2 (by simpa using h1) gq
theorem um(l:AA Int)(x:Int):∀m,m<AI l->(∃i,i<=m/\0<i/\l[i]?=AC x)->l[D9 l x m]?=AC x
 |0,h,⟨i,h1,h2,_⟩=>om
 |m+1,h,⟨i,h1,h2,h3⟩=>by
  unfold D9;cases e:(l[m+1]? ==AC x)with
  |true=>grind
  |false=>
   simp only[Vs];refine um l x m om ⟨i,?_,h2,h3⟩
   grind
theorem vn{c:CE}(g:Dd c)(N:CO c=0){d:AN}(G:d∈c.AO)(k:Nat)(hx:0<k->0<=d.Ae):Fz c (DD d k):=by
 have h:=(YB N).2.2 d G;unfold Df GF at h;rw[g.exp G]at h;simp only[XX,Vt]at h;obtain⟨⟨l2,J⟩,P,E,_⟩:=h;have W:=(vM P).1;unfold DD;by_cases R:k=0
 .simp_all
 have O:=hx om;rw[Yr O,Vr]at E;simp only[XX,Bool.not_eq_true',VB,ne_eq]at E;obtain⟨X,T,Y⟩:=E;have f:d.Ae∈Ca d.Ab:=by
  grind
 obtain⟨i,V,L⟩:=List.getElem_of_mem f;have F:0<i:=by
  rcases Nat.eq_zero_or_pos i with q|q
  .subst q;cases hl:Ca d.Ab with
   |nil=>grind
   |cons m r=>
    simp_all[D6]
  .exact q
 have t:=um (Ca d.Ab) d.Ae (AI (Ca d.Ab)-1) om ⟨i,om,F,gq⟩;generalize hb:D9 (Ca d.Ab) d.Ae (AI (Ca d.Ab)-1)=b at t;have M:b<AI (Ca d.Ab):=gq;have j:(Ca d.Ab).drop b=d.Ae::(Ca d.Ab).drop (b+1):=by
  grind[List.drop_eq_getElem_cons]
 have B:(Ca d.Ab).take (b+1)=(Ca d.Ab).take b++[d.Ae]:=by
  grind
 have H:∀{p q:AA Int},Fz c (p++q)->Fz c p:=by
  intro p
  induction p with
  |nil=>intro q _;trivial
  |cons x p Q=>
   intro q h;cases p with
   |nil=>trivial
   |cons y p=>exact⟨h.1,Q h.2⟩
 have a1:Fz c ((Ca d.Ab).take b++[d.Ae]):=by
  grind[List.take_append_drop]
 grind[Fz.tail,Fz.append,sx]
set_option maxRecDepth 10000
theorem F4{x:Int}:Ds x=AE↔F7 x:=by
 simp_all[Ds,C7,F7]
def DN(k:CG)(h:CQ):Int:=DY (λx:CF=>({mat:=x.Af,BC:=x.Ad:Ue})=={mat:=h.Af,BC:=h.Ad}) k.AQ 0
def Fi(c:CE)(s:CF)(h:CQ):CK:={Lo:=i64.wrap (h.BD+(FG c (CU c h.Af) s h.BD).Lo),Hi:=i64.wrap (h.Ai+(FG c (CU c h.Af) s h.Ai).Hi)}
def DU(c:CE)(k:CG)(h:CQ):AB Ud:=
 bif CU c h.Af==1 then AC {AW:= -1,Ay:=Fi c {Af:=h.Af,Ad:=h.Ad,A4:=0} h}else
  bif DN k h<0 then AF else(k.AQ[(DN k h).toNat]?).map λs=>{AW:=DN k h,Ay:=Fi c s h}
def C_(c:CE)(k:CG):AA CQ->AB (AA Ud)
 |[]=>AC []
 |h::r=>(DU c k h).bind λx=>(C_ c k r).map λl=>x::l
theorem pI(c:CE)(k:CG)(h:CQ)(r:AA CQ):C_ c k (h::r)=(DU c k h).bind λx=>(C_ c k r).map λl=>x::l:=rfl
theorem oM(k:CG)(h:CQ)(hk:AI k.AQ<=1048576):Ev (λn=>Pd n k.AQ h) (DN k h):=by
 unfold Pd;refine Ev.first k.AQ _ om (λi x d=>?_) ?_
 .unfold Wc;simp only[d.lt,Vr,d.ix,XK,d.nx]
  grind[Zc,Qa]
 simp_all[Wc,Qa]
theorem fE{k:CG}{h:CQ}(q:¬DN k h<0):∃(j:Nat) (s:CF),DN k h=(j:Int)/\k.AQ[j]?=AC s/\s.Af=h.Af/\s.Ad=h.Ad:=by
 rcases ju (λx:CF=>({mat:=x.Af,BC:=x.Ad:Ue})=={mat:=h.Af,BC:=h.Ad}) k.AQ 0 with⟨d,_⟩|⟨j,s,d,f,g,_⟩
 .unfold DN at q;omega
 .refine⟨j,s,by unfold DN;rw[d];simp,f,?_⟩
  grind
structure Fk (c:CE) (h:CQ):Prop where
 mat:∃(i:Nat) (m:Af),h.Af=(i:Int)/\c.An[i]?=AC m
 fi:F7 h.BD
 la:F7 h.Ai
 le:h.BD<=h.Ai
theorem Qpd{c:CE}{h:CQ}(q:DF c h=AD):Fk c h:=by
 unfold DF at q;simp only[XY,decide_eq_false_iff_not,Bool.not_eq_false',mu]at q;obtain⟨g,j,_,_,f,d,m⟩:=q;exact⟨⟨h.Af.toNat,c.An[h.Af.toNat]'om,om,sq⟩,f,d,om⟩
theorem tC{p:Nat->Bool}:∀{m i:Nat},FI p m i=AE->∀j,i<=j->j<i+m->p j=AE
 |0,i,_,j,h1,h2=>om
 |m+1,i,h,j,h1,h2=>by
  unfold FI at h;rw[XX]at h;rcases Nat.eq_or_lt_of_le h1 with rfl|q
  .exact h.1
  .exact tC h.2 j q om
theorem nZ{c:CE}{x:AA CQ}(h:Dg c x=AE):∀y∈x,Fk c y:=by
 intro y d;obtain⟨i,f,rfl⟩:=List.getElem_of_mem d;have:=tC h i (XV _) om
 simp_all[Ic,Qpd]
theorem sG{c:CE}(q:GC c)(he:Ev (λn=>GA n c) 0){s:CF}{i:Nat}{m:Af}(h:s.Af=(i:Int))(g:c.An[i]?=AC m)(f:F7 s.A4){d:Int}(hl:F7 d):
  Ev (λn=>KD n c s d) (FG c m.AV s d,0):=by
 have j:GH c s.Af=true:=by
  have:=(XM.1 g).1
  simp_all[GH]
 unfold KD;refine Ea he (Qo (Ea (v:=AD) (Ea (oJ c _) ?_) (Qo (Ea (m6 q g h f hl) (Qa _)))));rw[j];refine Qo (Ea (fG d) ?_);rw[F4.2 hl];refine Qo (Ea (fG s.A4) ?_);rw[F4.2 f];exact Qa _
structure Hy (k:CG):Prop where
 dims:KQ k
 ev:Ev (λn=>J_ n k) 0
 anc:∀s∈k.AQ,F7 s.A4
theorem nq{k:CG}(w:Dy k)(h:FH k=AE):Hy k:=by
 have e:=ry k w;rw[h]at e;refine⟨jk h,e,λs hs=>?_⟩;unfold FH at h;simp only[XX]at h;have f:=h.2.1;unfold GR at f;obtain⟨i,d,rfl⟩:=List.getElem_of_mem hs;have:=eK.1 f i d;rw[XL d]at this;unfold GE at this;simp only[Bool.not_eq_true',XY,Bool.not_eq_false']at this;exact F4.1 this.2.2.2.2.1
theorem QpT{c:CE}{h:CQ}{i:Nat}{m:Af}(d:h.Af=(i:Int))(f:c.An[i]?=AC m):CU c h.Af=m.AV:=by
 simp_all[CU]
theorem Qof{c:CE}{k:CG}(R:GC c)(he:Ev (λn=>GA n c) 0)(kk:Hy k)(x:AA CQ)(hx:∀y∈x,Fk c y)(hl:AI x<=1000):
  Ev (λn=>iter (ID n c k x) n ([],0)) (match C_ c k x with|some l=>CJ.k l|none=>CJ.d (CT.c0 170)):=by
 have hs:=kk.dims.segs;have N:∀(r:AA CQ) (a:AA Ud) (i:Nat),x.drop i=r->i<=AI x->AI a<=i->C9 (λn=>ID n c k x) (a,(i:Int)) (match C_ c k r with|some l=>CJ.k (a++l)|none=>CJ.d (CT.c0 170)):=by
  intro r
  induction r with
  |nil=>
   intro a i P Q d;refine Ei ?_;unfold ID;simp only[QH P Q,Vs];refine(Qa _).eq ?_;simp[C_]
  |cons h r ih=>
   intro a i P Q aa;obtain⟨d,H⟩:=Qs om P;have T:=d.lt';obtain⟨⟨j,m,B,t⟩,V,X,f3⟩:=hx h d.mem;have L:=QpT B t;have step:∀(g:Int×CF),g.2.Af=(j:Int)->F7 g.2.A4->
     Ev (λn=>(KD n c g.2 h.BD).bind λJ=>(KD n c g.2 h.Ai).bind λO=>(app a [{AW:=g.1,Ay:={Lo:=i64.wrap (h.BD+J.1.Lo),Hi:=i64.wrap (h.Ai+O.1.Hi):CK}:Ud}]).bind λG=>AC (CJ.k (G,((i+1:Nat):Int)):CJ (AA Ud×Int) (CJ (AA Ud) CT)))
      (CJ.k (a++[{AW:=g.1,Ay:=Fi c g.2 h}],((i+1:Nat):Int))):=by
    intro g F E;refine Ea (sG R he F t E V) (Ea (sG R he F t E X) (Ea (Ez (Se om)) ((Qa _).eq ?_)));unfold Fi;rw[L]
   have f:∀(y:Ud),DU c k h=AC y->Ev (λn=>ID n c k x (a,(i:Int))) (CJ.k (a++[y],((i+1:Nat):Int)))->C9 (λn=>ID n c k x) (a,(i:Int)) (match C_ c k (h::r)with|some l=>CJ.k (a++l)|none=>CJ.d (CT.c0 170)):=by
    intro y W M;refine Eu M ((ih (a++[y]) (i+1) H om (by simp;omega)).eq ?_);rw[pI,W]
    grind
   cases hk:(CU c h.Af==1)with
   |true=>
    refine f {AW:= -1,Ay:=Fi c {Af:=h.Af,Ad:=h.Ad,A4:=0} h} (by unfold DU;rw[hk];rfl) ?_;unfold ID;simp only[d.lt,Vr,d.ix,XK,d.nx];refine Ea (oM k h om) ?_;simp only[B,Qf t,XK]
    simp_all[F7]
   |false=>
    by_cases q:DN k h<0
    .have Y:DU c k h=none:=by unfold DU;grind
     refine Ei ?_;unfold ID;rw[pI,Y];simp only[d.lt,Vr,d.ix,XK,d.nx];refine Ea (oM k h om) ?_;simp only[B,Qf t,XK];rw[L]at hk;refine Ea (v:=CJ.d (.d (.d (CT.c0 170)))) (by rw[hk,Yr q];exact Qa _) ?_;exact Qa _
    .obtain⟨jj,s,F,E,g3,g4⟩:=fE q;refine f {AW:=DN k h,Ay:=Fi c s h} (by unfold DU;grind) ?_;unfold ID;simp only[d.lt,Vr,d.ix,XK,d.nx];refine Ea (oM k h om) ?_;simp only[B,Qf t,XK];rw[L]at hk;refine Ea (v:=CJ.k (DN k h,s)) (by rw[hk,QN q,F];simp_all[Qf,Qa]) ?_;exact step (DN k h,s) (g3.trans B) (kk.anc s (VK E))
 have:=(N x [] 0 rfl (XV _) (XU _)).ev
 grind
theorem fQ{c:CE}{k:CG}:∀{x:AA CQ} {l:AA Ud},C_ c k x=AC l->AI l=AI x/\ ∀(i:Nat) (h:CQ),x[i]?=AC h->∃t,l[i]?=AC t/\DU c k h=AC t
 |[],l,h=>by
  simp_all[C_]
 |y::x,l,h=>by
  unfold C_ at h;cases e:DU c k y with
  |none=>grind
  |some t=>
   rw[e]at h;cases e2:C_ c k x with
   |none=>grind
   |some l2=>
    rw[e2]at h;cases h;obtain⟨p1,p2⟩:=fQ e2
    grind
theorem Qnb{c:CE}{k:CG}{h:CQ}{t:Ud}(q:DU c k h=AC t):t.AW= -1\/ ∃(j:Nat) (s:CF),t.AW=(j:Int)/\k.AQ[j]?=AC s/\s.Af=h.Af:=by
 unfold DU at q;cases hk:(CU c h.Af==1)with
 |true=>grind
 |false=>
  rw[hk]at q;by_cases d:DN k h<0
  .grind
  .rw[QN d]at q;obtain⟨j,s,m,f,g,_⟩:=fE d
   grind
def HS(a:AA (Int×Ud)×Int)(h:AY):AA (Int×Ud)×Int:=
 bif !(GN a.1 h.AS)then(QE a.1 h.AS {AW:= -1,Ay:={Lo:=h.Lo,Hi:=h.Hi}},if a.2<h.AS then h.AS else a.2)else a
def F8(l:AA AY):AA (Int×Ud)×Int:=l.foldl HS ([],-1)
theorem Qop(l:AA AY)(hl:AI l<=1048576):Ev (λn=>iter (Ow n l) n ([],(-1),0)) (F8 l):=by
 refine Yu l HS ([],-1) (λa i=>(a.1,a.2,(i:Int))) (λa=>a) om rfl (λi x a ha _=>?_) ?_
 .unfold Ow HS;simp only[ha.lt,Vr,ha.ix,XK,ha.nx]
  grind[Qa]
 simp_all[Ow,Qa]
theorem tx:∀(l:AA AY) (a:AA (Int×Ud)×Int) (p:Int),GM (l.foldl HS a).1 p=(match GM a.1 p with|some x=>AC x|none=>(l.find? λh=>h.AS==p).map λh=>{AW:= -1,Ay:={Lo:=h.Lo,Hi:=h.Hi}})
 |[],a,p=>gq
 |x::l,a,p=>by
  rw[XE,tx l (HS a x) p];unfold HS;rw[UK];cases hx:GM a.1 x.AS with
  |some y=>
   grind
  |none=>
   simp only[Option.isSome_none,Xh,Vr,jX]
   grind
theorem tz:∀(l:AA AY) (a:AA (Int×Ud)×Int) (P:Int),(∀q,GN a.1 q=AE->q<=a.2)->((l.foldl HS a).2<=P↔a.2<=P/\ ∀h∈l,h.AS<=P)
 |[],a,P,_=>sq
 |x::l,a,P,ha=>by
  rw[XE,tz l (HS a x) P ?_]
  .unfold HS
   grind
  .intro q hq;unfold HS at hq⊢;cases e:GN a.1 x.AS with
   |true=>
    grind
   |false=>
    rw[e]at hq;simp only[Xh,Vr]at hq⊢;rw[UK,jX]at hq;by_cases z:q=x.AS
    .omega
    .rw[Vu z, <- UK]at hq
     grind
theorem jR(l:AA AY)(p:Int):GM (F8 l).1 p=(l.find? λh=>h.AS==p).map λh=>{AW:= -1,Ay:={Lo:=h.Lo,Hi:=h.Hi}}:=by
 unfold F8;rw[tx];rfl
theorem Qn1(l:AA AY)(P:Int):(F8 l).2<=P↔ -1<=P/\ ∀h∈l,h.AS<=P:=tz l _ P (λq h=>by cases h)
def D1(c:CE)(a b:Int):C2:=(c.As.find? λl=>(l.A5==a)&&(l.To==b)).getD {A5:=0,To:=0,Bn:=0,Bs:=0}
def D7(c:CE)(s:CK)(a b:Int):CK:={Lo:=i64.wrap (s.Lo+(D1 c a b).Bn),Hi:=i64.wrap (s.Hi+(D1 c a b).Bs)}
def Fh(c:CE):CK->Int->AA Int->AA CK
 |_,_,[]=>[]
 |s,a,b::r=>D7 c s a b::Fh c (D7 c s a b) b r
def C4(c:CE):AA Int->AA CK
 |[]=>[]
 |a::r=>{Lo:=0,Hi:=0}::Fh c {Lo:=0,Hi:=0} a r
theorem o4(c:CE)(s:CK)(a b:Int)(r:AA Int):Fh c s a (b::r)=D7 c s a b::Fh c (D7 c s a b) b r:=rfl
theorem vw(c:CE):∀(r:AA Int) (s:CK) (a:Int),AI (Fh c s a r)=AI r
 |[],_,_=>rfl
 |b::r,s,a=>by unfold Fh;simp[vw c r]
theorem Jb(c:CE)(r:AA Int):AI (C4 c r)=AI r:=by
 cases r with
 |nil=>rfl
 |cons a r=>unfold C4;simp[vw]
theorem Qsf{c:CE}(hl:AI c.As<=512){k:CG}{r:AA Int}{s:AA CK}{x:AA CQ}{t:AA Ud}{hi:Int}{m:AA (Int×Ud)}{i:Nat}{a b:Int}(q:r[i]?=AC a)(E:i<=100000)(hg:Cq c a b=AE):
  ∃j l,Ev (λn=>Q_ n c.As ((i+1:Nat):Int) b c k r s x t hi m c k) ((j:Nat):Int)/\c.As[j]?=AC l/\l=D1 c a b:=by
 have hs:∀j y,At c.As j y->Ev (λn=>MF n c.As ((i+1:Nat):Int) b c k r s x t hi m c k (j:Int)) (bif (y.A5==a)&&(y.To==b)then .d (.d (j:Int))else .k ((j+1:Nat):Int)):=by
  intro j y d;unfold MF;simp only[d.lt,Vr,d.ix,XK,d.nx];refine Ea (v:=(y.A5==a)&&(y.To==b)) ?_ ?_
  .unfold ZH;rw[show i64.wrap (((i+1:Nat):Int)-1)=(i:Int)by rw[Dj];omega,Qf q,XK]
   simp_all[Eh,Qa]
  grind[Qa]
 have h:Ev (λn=>MF n c.As ((i+1:Nat):Int) b c k r s x t hi m c k (AI c.As:Int)) (.d (.k ())):=by
  simp_all[MF,Qa]
 rcases vA c.As (λl=>(l.A5==a)&&(l.To==b)) om hs h with⟨j,y,g,f,B⟩|⟨g,f⟩
 .refine⟨j,y,?_,g.get,?_⟩
  .unfold Q_;exact Ea B (Qa _)
  .unfold D1;rw[f];rfl
 grind[Cq]
theorem Qqd{c:CE}(hl:AI c.As<=512){k:CG}{r:AA Int}{x:AA CQ}{t:AA Ud}{h:AA (Int×Ud)×Int}(P:AI r<=256)(O:Fz c r):
  Ev (λn=>iter (J3 n c k x (r,0) t h) n ([],{Lo:=0,Hi:=0:CK},0)) (C4 c r):=by
 have F:∀(q:AA Int) (i:Nat) (a:Int) (s:CK) (o:AA CK),r[i]?=AC a->r.drop (i+1)=q->AI o=i+1->C9 (λn=>J3 n c k x (r,0) t h) (o,s,((i+1:Nat):Int)) (o++Fh c s a q):=by
  intro q
  induction q with
  |nil=>
   intro i a s o y E H;have:=(XM.1 y).1;refine Ei ?_;unfold J3;simp only[QH E om,Vs];refine(Qa _).eq ?_;simp[Fh]
  |cons b q N=>
   intro i a s o y E H;obtain⟨g,B⟩:=Qs om E;have L:=g.lt';obtain⟨j,l,M,Q,W⟩:=Qsf (c:=c) (k:=k) (s:=o) (x:=x) (t:=t) (hi:=h.2) (m:=h.1) hl y om (O.at y g.get);refine Eu ?_ ((N (i+1) b (D7 c s a b) (o++[D7 c s a b]) g.get B (by simp[H])).eq (by rw[o4];simp));unfold J3;simp only[g.lt,Vr,g.ix,XK,g.nx];refine Ea (v:=D7 c s a b) ?_ (Ea (Ez (Se om)) (Qa _));refine Yx sq (Ea M ?_)
   grind[Qf,D7,Qa]
 cases d:r with
 |nil=>
  subst d;refine(Ei ?_).ev;unfold J3;exact Qa _
 |cons a q=>
  have G:r[0]?=AC a:=by rw[d];rfl
  have J:r.drop (0+1)=q:=by rw[d];rfl
  have:=F q 0 a {Lo:=0,Hi:=0} [{Lo:=0,Hi:=0}] G J rfl;have f:At r 0 a:=YH om G;rw[<- d];refine(Eu (s':=([{Lo:=0,Hi:=0}],{Lo:=0,Hi:=0},((0+1:Nat):Int))) ?_ (this.eq ?_)).ev
  .unfold J3;have R:=f.lt;have V:=f.ix;have T:=f.nx
   simp_all[Ez,Se]
  .rw[d];rfl
def D4(h:AY):Bool:=AG (h.Hi<h.Lo)||(!Ds h.Lo||(!Ds h.Hi||AG (h.AS<0)))
theorem uE(x:Int):Ev (λn=>My n x) (Ds x):=by
 simp_all[My,Ds,C7,Eh,Qa]
theorem Qoq(h:AY):Ev (λn=>Ml n h) (D4 h):=by
 unfold Ml D4;refine Ea (Qg λ_=>Ea (uE _) (Qg λ_=>Ea (uE _) (Qg λ_=>Qa _))) (Qa _)
def GK(c:CE)(s:AP)(l:AA AY):Bool:=AG (s.AN<0)||(AG ((AI c.AO:Int)<=s.AN)||(AG (s.Aw<0)||(AG ((AI c.Ax:Int)<=s.Aw)||l.any D4)))
def Lt(c:CE)(k:CG)(s:AP)(e:Int)(x:AA CQ)(l:AA AY):CT:=
 bif !FH k then .c0 160 else bif GK c s l then .c0 1 else bif (CV c s.AN e).2 != 0 then .c0 (CV c s.AN e).2 else bif !Dg c x then .c0 170 else
  match C_ c k x with
  |none=>.c0 170
  |some t=>.c1 ((CV c s.AN e).1,C4 c (CV c s.AN e).1,t,(F8 l).1,(F8 l).2)
theorem Qj1{c:CE}(g:Dd c)(B:CO c=0)(he:Ev (λn=>GA n c) 0){k:CG}(q:Dy k)(s:AP)(e:Int)(x:AA CQ)(hx:AI x<=1000)(l:AA AY)(hl:AI l<=1048576):
  Ev (λn=>OX n c k s e x l) (Lt c k s e x l):=by
 unfold OX Lt;refine Ea he (Qo (Ea (ry k q) ?_));cases hk:FH k with
 |false=>exact Qa _
 |true=>
 refine Qo (Ea (v:=GK c s l) ?_ ?_)
 .unfold GK;refine Qg λ_=>Qg λ_=>Qg λ_=>Qg λ_=>Ea ?_ (Qa _);exact Ev.contains l D4 (λn y=>Ml n y) om λy _=>Qoq y
 cases GK c s l with
 |true=>exact Qa _
 |false=>
 refine Qo (Ea (oI g he s.AN e) ?_);cases P:((CV c s.AN e).2 != 0)with
 |true=>exact Qa _
 |false=>
 have f:(CV c s.AN e).2=0:=gq;refine Qo (Ea (Qmo c x om he) ?_);cases J:Dg c x with
 |false=>exact Qa _
 |true=>
 refine Qo (Ea (Qof (oG B) he (nq q hk) x (nZ J) hx) ?_);cases C_ c k x with
 |none=>exact Qa _
 |some t=>
 obtain⟨j,d,M,O,N,H,F,Q,E⟩:=fK g f;have G:=VK H;have m:(CV c s.AN e).1.length<=256:=by
  grind[DD]
 have h:Fz c (CV c s.AN e).1:=by rw[E];exact vn g B G M F
 refine Ea (Qop l om) ?_;have L:CV c s.AN e=((CV c s.AN e).1,0):=Prod.ext rfl f;rw[L];exact Ea (Qqd g.legs m h) (Qa _)
set_option maxRecDepth 10000
structure Cj where
 c:CE
 k:CG
 r:List Int
 s:List CK
 H:List CQ
 T:List Ud
 m:List (Int×Ud)
 hi:Int
abbrev zX:Ud:={AW:=0,Ay:={Lo:=0,Hi:=0}}
def Cj.seg(t:Cj)(x:Ud):Prop:=∃j:Nat,x.AW+1=(j:Int)/\j<AI t.k.AQ+1
structure DI (t:Cj):Prop where
 ty:Ev (λn=>GA n t.c) 0
 crs:GC t.c
 clk:Hy t.k
 sl:AI t.s=AI t.r
 rl:AI t.r<=256
 tl:AI t.T=AI t.H
 hl:AI t.H<=1000
 hit:∀(i:Nat) (h:CQ),t.H[i]?=AC h->Fk t.c h
 sg:∀x∈t.T,t.seg x
 hs:∀p x,GM t.m p=AC x->t.seg x
 mi:0<=t.c.AT.BK
def DE(t:Cj)(p h:Int):Ud×Bool:=bif GN t.m p||AG (h<0)then(Qd t.m p zX,GN t.m p)else((t.T[h.toNat]?).getD zX,AE)
def Fs(t:Cj)(h:Int):Prop:=h<0\/h.toNat<AI t.H
theorem Kw{α:Type}{l:AA α}{h:Int}(f:0<=h)(d:h.toNat<AI l):∃x,l[h.toNat]?=AC x/\CN l h=AC x:=by
 refine⟨l[h.toNat]'(d),sq,?_⟩
 grind[Qf]
theorem oK{t:Cj}(ok:DI t)(p h:Int)(g:Fs t h):Ev (λn=>Ik n p h t.c t.k t.r t.s t.H t.T t.hi t.m t.c t.k) (DE t p h):=by
 unfold Ik DE;refine Ea (Qa _) (Ea (Qg λ_=>Qa _) ?_);refine YQ (λ_=>Qa _) λq=>?_;rw[XY,decide_eq_false_iff_not]at q;obtain⟨x,d,f⟩:=Kw (l:=t.T) (h:=h) om (by have:=ok.tl;rcases g with z|z<;>omega);rw[f,d];exact Qa _
theorem fJ{t:Cj}(ok:DI t){p h:Int}(f:Fs t h)(q:(DE t p h).2=AE):t.seg (DE t p h).1:=by
 unfold DE at q⊢;cases e:(GN t.m p||AG (h<0))with
 |true=>
  rw[e]at q;simp only[Vr]at q⊢;rw[UK]at q;obtain⟨x,hx⟩:=Option.isSome_iff_exists.1 q;unfold Qd;rw[hx];exact ok.hs p x hx
 |false=>
  simp only[Vs];rw[XY,decide_eq_false_iff_not]at e;obtain⟨x,d,g⟩:=Kw (l:=t.T) (h:=h) om (by have:=ok.tl;rcases f with z|z<;>omega);rw[d];exact ok.sg x gq
def KS(d w:CK):Bool:=AG ((if d.Lo<w.Lo then w.Lo else d.Lo)<=(if w.Hi<d.Hi then w.Hi else d.Hi))
def IW(c:CE)(k:CG)(g:Int)(a b:Int):CK:=
 bif g<0 then {Lo:=a,Hi:=i64.wrap (b+c.AT.A0)}else match k.AQ[g.toNat]? with
 |none=>{Lo:=0,Hi:=0}
 |some s=>bif !GH c s.Af then {Lo:=0,Hi:=0}else
  {Lo:=i64.wrap (i64.wrap (a+(FG c (CU c s.Af) s a).Lo)-DQ k (g.toNat+1) 0),Hi:=i64.wrap (i64.wrap (b+(FG c (CU c s.Af) s b).Hi)+DQ k 0 (g.toNat+1))}
theorem Qqc{t:Cj}(ok:DI t){x:Ud}(hx:t.seg x){a b:Int}(P:F7 a)(M:F7 b)(Q:a<=b):∃e,Ev (λn=>Mr n t.c t.k x.AW {Lo:=a,Hi:=b}) (IW t.c t.k x.AW a b,e):=by
 obtain⟨j,j1,j2⟩:=hx;have hs:=ok.clk.dims.segs;have start:∀{v:CK×Int},Ev (λn=>(bif x.AW<0 then AC ({Lo:=a,Hi:=i64.wrap (b+t.c.AT.A0):CK},0)else(CN t.k.AQ x.AW).bind λf=>(LJ n t.c f.Af).bind λG=>(bif (!G)then AC ({Lo:=0,Hi:=0:CK},1)else(Iq n t.c f a).bind λq=>(CN t.k.BE (i64.wrap (x.AW+1))).bind λE=>(CN E 0).bind λg=>(Iq n t.c f b).bind λy=>(CN t.k.BE 0).bind λB=>(CN B (i64.wrap (x.AW+1))).bind λF=>AC ({Lo:=i64.wrap ((i64.wrap (a+q.Lo))-g),Hi:=i64.wrap ((i64.wrap (b+y.Hi))+F):CK},0)):AB (CK×Int))) v->Ev (λn=>Mr n t.c t.k x.AW {Lo:=a,Hi:=b}) v:=by
  intro v Y;unfold Mr;refine Ea ok.ty (Qo (Ea ok.clk.ev (Qo (Ea (v:=AD) ?_ (Qo Y)))));simp only[dF (x.AW< -1),dF ((AI t.k.AQ:Int)<=x.AW),Vs];refine Ea (fG a) ?_;rw[F4.2 P];refine Qo (Ea (fG b) ?_);rw[F4.2 M]
  simp_all[QN,Qa]
 unfold IW;by_cases d:x.AW<0
 .rw[Yr d];exact⟨_,start (Yx (Yr d) (Qa _))⟩
 rw[QN d];simp only[Vs];obtain⟨s,V,L⟩:=Kw (l:=t.k.AQ) (h:=x.AW) om om;rw[V];simp only;cases H:GH t.c s.Af with
 |false=>exact⟨_,start (YS (QN d) (Qj L (Ea ((oJ t.c s.Af).eq H) (Yx rfl (Qa _)))))⟩
 |true=>
  obtain⟨i,m,N,J⟩:=sY H;have R:CU t.c s.Af=m.AV:=by simp_all[CU]
  have O:=ok.clk.anc s gq;obtain⟨X,T⟩:=ok.clk.dims.get (i:=x.AW.toNat+1) (j:=0) om om;obtain⟨g3,W⟩:=ok.clk.dims.get (i:=0) (j:=x.AW.toNat+1) om om;have w:i64.wrap (x.AW+1)=((x.AW.toNat+1:Nat):Int):=by rw[Dj];omega
  refine⟨0,start (YS (QN d) (Qj L (Ea ((oJ t.c s.Af).eq H) (YS rfl (Ea (m6 ok.crs J N O P) (Qj (v:=t.k.BE[x.AW.toNat+1]?.getD []) (by rw[w];exact Qf X) (Qj (v:=DQ t.k (x.AW.toNat+1) 0) (Qf (i:=0) T) (Ea (m6 ok.crs J N O M) (Qj (v:=t.k.BE[0]?.getD []) (Qf (i:=0) g3) (Qj (v:=DQ t.k 0 (x.AW.toNat+1)) (by rw[w];exact Qf W) ?_))))))))))⟩;rw[R];exact Qa _
def Fu(t:Cj)(h p:Int):Bool:=bif !(GN t.m p)then AE else match t.H[h.toNat]?,t.T[h.toNat]? with
 |some y,AC x=>KS (IW t.c t.k x.AW y.BD y.Ai) (Qd t.m p zX).Ay
 |_,_=>AE
theorem Qoy{t:Cj}(ok:DI t){h p:Int}(g:0<=h)(f:h.toNat<AI t.H):Ev (λn=>Ps n h p t.c t.k t.c t.k t.r t.s t.H t.T t.hi t.m) (Fu t h p):=by
 unfold Ps Fu;refine Ea (Qa _) ?_;cases GN t.m p with
 |false=>exact Qa _
 |true=>
  obtain⟨y,y1,y2⟩:=Kw (l:=t.H) g f;obtain⟨x,j,B⟩:=Kw (l:=t.T) g (by rw[ok.tl];exact f);have d:=ok.hit _ _ y1;rw[y2,B,y1,j];refine Qo ?_;simp only[XK];obtain⟨e,q⟩:=Qqc ok (ok.sg x gq) d.fi d.la d.le;refine Ea q ?_;unfold Mw;exact Qa _
def DH(t:Cj)(i j:Int):CK:=
 let a:=(t.s[i.toNat]?).getD {Lo:=0,Hi:=0}
 let b:=(t.s[j.toNat]?).getD {Lo:=0,Hi:=0}
 {Lo:=if i64.wrap (b.Lo-a.Lo)<2199023255552 then i64.wrap (b.Lo-a.Lo)else 2199023255552,Hi:=if i64.wrap (b.Hi-a.Hi)<2199023255552 then i64.wrap (b.Hi-a.Hi)else 2199023255552}
theorem jD{t:Cj}(ok:DI t){i j:Int}(d:0<=i)(f:i.toNat<AI t.r)(g:0<=j)(h:j.toNat<AI t.r):Ev (λn=>KA n i j t.c t.k t.r t.s t.H t.T t.hi t.m t.c t.k) (DH t i j):=by
 obtain⟨a,y,x⟩:=Kw (l:=t.s) d (by rw[ok.sl];exact f);obtain⟨b,q,B⟩:=Kw (l:=t.s) g (by rw[ok.sl];exact h)
 grind[KA,DH,Qa]
def Ii(t:Cj)(a b:Ud):CK:=
 bif (i64.wrap (a.AW+1)) != (i64.wrap (b.AW+1))then
  {Lo:=i64.wrap (i64.wrap (b.Ay.Lo-a.Ay.Hi)-DQ t.k (b.AW+1).toNat (a.AW+1).toNat),Hi:=i64.wrap (i64.wrap (b.Ay.Hi-a.Ay.Lo)+DQ t.k (a.AW+1).toNat (b.AW+1).toNat)}
 else {Lo:=i64.wrap (b.Ay.Lo-a.Ay.Hi),Hi:=i64.wrap (b.Ay.Hi-a.Ay.Lo)}
def Dl(t:Cj)(a:Ud)(i:Int)(b:Ud)(j:Int):Bool:=KS (Ii t a b) (DH t i j)
theorem Qj5{t:Cj}(ok:DI t){a b:Ud}{i j:Int}(h:t.seg a)(F:t.seg b)(f:0<=i)(g:i.toNat<AI t.r)(q:0<=j)(B:j.toNat<AI t.r):
  Ev (λn=>LO n a i b j t.c t.k t.r t.s t.H t.T t.hi t.m t.c t.k) (Dl t a i b j):=by
 obtain⟨x,E,d⟩:=h;obtain⟨y,y1,y2⟩:=F;have hs:=ok.clk.dims.segs;unfold LO Dl;refine Ea (v:=Ii t a b) ?_ (Ea (jD ok f g q B) ?_)
 .unfold Ii;rw[E,y1,Qz (n:=(x:Int)) om om,Qz (n:=(y:Int)) om om];refine YQ (λ_=>?_) λ_=>Qa _;obtain⟨L,J⟩:=ok.clk.dims.get (i:=y) (j:=x) y2 d;obtain⟨M,G⟩:=ok.clk.dims.get (i:=x) (j:=y) d y2
  grind[Qf,Qa]
 .unfold Mw;exact Qa _
structure Km (t:Cj) (s:Uf):Prop where
 la:s.Bb<(AI t.r:Int)
 wh:0<=s.Bb->t.seg s.Bt
 r0:0<=s.row
 r1:s.row<=1000
def G8(t:Cj)(s:Uf)(p h:Int):Bool:=(AG (0<=h)&& !Fu t h p)||(AG (0<=s.Bb)&& !Dl t s.Bt s.Bb (DE t p h).1 p)
def C8(t:Cj)(s:Uf)(p h:Int):Uf×Bool:=
 bif !(DE t p h).2 then({s with row:=s.row+1},AG (s.row+1<=t.c.AT.BK))else bif G8 t s p h then(s,AD)else({Bb:=p,Bt:=(DE t p h).1,row:=0},AE)
theorem nW{t:Cj}(ok:DI t){s:Uf}(f:Km t s){p h:Int}(E:0<=p)(B:p.toNat<AI t.r)(g:Fs t h):
  Ev (λn=>LE n s p h t.c t.k t.r t.s t.H t.T t.hi t.m t.c t.k) (C8 t s p h):=by
 have r0:=f.r0;have r1:=f.r1;unfold LE C8;refine Ea (oK ok p h g) ?_;rw[Qz (n:=s.row+1) om om];cases hk:(DE t p h).2 with
 |false=>exact Qa _
 |true=>
  have y:=fJ ok g hk;refine Qo (Ea (v:=G8 t s p h) ?_ ?_)
  .have j:Ev (λn=>(bif 0<=s.Bb then(LO n s.Bt s.Bb (DE t p h).1 p t.c t.k t.r t.s t.H t.T t.hi t.m t.c t.k).bind λx=>AC (!x)else AC AD:AB Bool)) (AG (0<=s.Bb)&& !Dl t s.Bt s.Bb (DE t p h).1 p):=by
    refine Eh λq=>?_;have q:=Vx q;exact Ea (Qj5 ok (f.wh q) y q (by have:=f.la;omega) E B) (Qa _)
   unfold G8;by_cases d:0<=h
   .rw[Yr d,VC];have F:h.toNat<AI t.H:=by rcases g with z|z<;>omega
    refine Ea (Qoy ok d F) ?_;exact Qg λ_=>j
   grind
  .cases G8 t s p h<;>exact Qa _
theorem nB{t:Cj}(ok:DI t){s:Uf}(d:Km t s){p h:Int}(g:p<(AI t.r:Int))(f:Fs t h)(j:s.row<1000):Km t (C8 t s p h).1:=by
 have r0:=d.r0;unfold C8;cases hk:(DE t p h).2 with
 |false=>exact⟨d.la,d.wh,gq,gq⟩
 |true=>
  simp only[Xg,Vs];cases G8 t s p h with
  |true=>exact d
  |false=>exact⟨g,λ_=>fJ ok f hk,sq,sq⟩
def FJ(t:Cj)(W:CW)(u:AA (Int×Bool))(i:Nat)(h:Int):Bool:=
 AG (h<0)||(AG ((AI t.H:Int)<=h)||((((t.H[h.toNat]?).map (·.Af)).getD 0 != (t.r[i]?).getD 0)||(Qd u h AD||AG (W.Ai<(i:Int)))))
def admL(t:Cj)(W:CW):AA Int->Nat->AA (Int×Bool)->Uf->Bool
 |[],_,_,_=>AE
 |h::r,i,u,s=>
  bif (h != -1)&&FJ t W u i h then AD else
  bif W.Ai<(i:Int) then admL t W r (i+1) (bif h != -1 then QE u h AE else u) s else
  bif !(C8 t s (i:Int) h).2 then AD else admL t W r (i+1) (bif h != -1 then QE u h AE else u) (C8 t s (i:Int) h).1
theorem aS(t:Cj)(W:CW)(h:Int)(r:AA Int)(i:Nat)(u:AA (Int×Bool))(s:Uf):admL t W (h::r) i u s=
  bif (h != -1)&&FJ t W u i h then AD else
  bif W.Ai<(i:Int) then admL t W r (i+1) (bif h != -1 then QE u h AE else u) s else
  bif !(C8 t s (i:Int) h).2 then AD else admL t W r (i+1) (bif h != -1 then QE u h AE else u) (C8 t s (i:Int) h).1:=rfl
def N6(l:AA Int)(x:Int):Bool:=AG (0<=DY (λy=>x==y) l 0)
def G7(W:CW):AA CQ->Nat->Int->Int
 |[],_,a=>a
 |_::r,i,a=>G7 W r (i+1) (bif !N6 W.Ak (i:Int)then i64.wrap (a+1)else a)
theorem Qmf(W:CW)(H:AA CQ)(B:AI W.Ak<=1048576)(hH:AI H<=1048576):Ev (λn=>P' n H W) (G7 W H 0 0):=by
 have d:∀(r:AA CQ) (i:Nat) (a:Int),H.drop i=r->i<=AI H->C9 (λn=>O2 n H W) (a,(i:Int)) (G7 W r i a):=by
  intro r
  induction r with
  |nil=>
   intro i a h m;refine Ei ?_;unfold O2;simp only[QH h m,Vs];exact Qa _
  |cons y r t=>
   intro i a h m;obtain⟨f,g⟩:=Qs om h;have q:=f.lt';refine Eu ?_ (t (i+1) _ g om);unfold O2;simp only[f.lt,Vr,f.nx];refine Ea (v:=N6 W.Ak (i:Int)) ?_ ?_
   .unfold Ws N6;refine Ea (v:=DY (λy=>(i:Int)==y) W.Ak 0) ?_ (Qa _);unfold Wx;refine Ev.first W.Ak _ om (λj x hx=>?_) ?_
    .unfold U3;simp only[hx.lt,Vr,hx.ix,XK,hx.nx];cases((i:Int)==x)<;>exact Qa _
    simp_all[U3,Qa]
   grind[Qa]
 unfold P';exact Ea (d H 0 0 rfl (XV _)).ev (Qa _)
def F9(t:Cj)(W:CW):Bool:=((AI W.Ak:Int) != (AI t.r:Int))||(AG (W.Ai< -1)||(AG ((AI t.r:Int)<=W.Ai)||(AG (W.Ai<t.hi)||AG (t.c.AT.BF<G7 W t.H 0 0))))
def Ns:Uf:={Di with Bb:=(-1)}
def Dq(t:Cj)(W:CW):Bool:=bif F9 t W then AD else admL t W W.Ak 0 [] Ns
theorem rT{t:Cj}:Km t Ns:=⟨by show(-1:Int)<_;omega,λh=>by have:(0:Int)<= -1:=h;omega,by show(0:Int)<=0;omega,by show(0:Int)<=1000;omega⟩
theorem o6{t:Cj}{W:CW}{u:AA (Int×Bool)}{i:Nat}{h:Int}(q:((h != -1)&&FJ t W u i h)=AD):Fs t h/\(h= -1\/(0<=h/\FJ t W u i h=AD)):=by
 rw[Bool.and_eq_false_iff]at q;rcases q with q|q
 .have:h= -1:=by grind
  exact⟨.inl om,.inl this⟩
 .have d:=q;unfold FJ at d;simp only[XY,decide_eq_false_iff_not]at d;exact⟨.inr om,.inr ⟨om,q⟩⟩
theorem ir{t:Cj}(ok:DI t)(W:CW)(hW:AI W.Ak<=1048576):Ev (λn=>KK n W t.c t.k t.r t.s t.H t.T t.hi t.m t.c t.k) (Dq t W):=by
 unfold KK Dq;refine Ea (v:=F9 t W) ?_ ?_
 .unfold F9;exact Qg λ_=>Qg λ_=>Qg λ_=>Qg λ_=>Ea (Qmf W t.H hW (by have:=ok.hl;omega)) (Qa _)
 cases O:F9 t W with
 |true=>exact Qa _
 |false=>
 unfold F9 at O;simp only[XY,decide_eq_false_iff_not]at O;obtain⟨F,b1,b2,b3,_⟩:=O;have F:AI W.Ak=AI t.r:=gq;have rl:=ok.rl;have P:∀(r:AA Int) (i:Nat) (u:AA (Int×Bool)) (s:Uf),W.Ak.drop i=r->i<=AI W.Ak->Km t s->s.row<=(i:Int)->C9 (λn=>J8 n W t.c t.k t.r t.s t.H t.T t.hi t.m t.c t.k) (u,s,(i:Int)) (bif admL t W r i u s then CJ.k ()else CJ.d AD):=by
  intro r
  induction r with
  |nil=>
   intro i u s Q hi x _;refine Ei ?_;unfold J8 admL;simp only[QH Q hi,Vs];exact Qa _
  |cons h r Y=>
   intro i u s Q hi x aa;obtain⟨f,q⟩:=Qs om Q;have ab:=f.lt';rw[aS];have N:t.r[i]?=AC (t.r[i]'om):=sq;have d:Ev (λn=>((bif (h != (-1))then((bif h<0 then AC AE else(bif (AI t.H:Int)<=h then AC AE else(CN t.H h).bind λB=>(CN t.r (i:Int)).bind λj=>(bif (B.Af != j)then AC AE else(AC (Qd u h AD)).bind λL=>(bif L then AC AE else AC (AG (W.Ai<(i:Int))))))):AB Bool).bind λM=>(bif M then AC (.d (.d (.d (.d AD))))else(AC (QE u h AE)).bind λG=>AC (.k G))else AC (.k u)):AB (CJ (AA (Int×Bool)) (CJ ((AA (Int×Bool))×Uf) (CJ ((AA (Int×Bool))×Uf×Int) (CJ Unit Bool))))))
     (bif (h != -1)&&FJ t W u i h then .d (.d (.d (.d AD)))else .k (bif h != -1 then QE u h AE else u)):=by
    cases hn:(h != -1)with
    |false=>exact Qa _
    |true=>
     refine Jk (Ea (v:=FJ t W u i h) ?_ ?_)
     .unfold FJ;refine Qg λR=>Qg λq2=>?_;have R:=Vy R;have q2:=Vy q2;obtain⟨y,y1,y2⟩:=Kw (l:=t.H) (h:=h) om om;rw[y2,y1,XK,Qf N,XK,N]
      simp_all[Qg,Qa]
     .cases FJ t W u i h<;>exact Qa _
   cases g:((h != -1)&&FJ t W u i h)with
   |true=>
    rw[g]at d;refine Ei ?_;unfold J8;simp only[f.lt,Vr,f.ix,XK,f.nx];exact Ea (Ea d (Qa _)) (Qa _)
   |false=>
    rw[g]at d;obtain⟨V,_⟩:=o6 g;simp only[Vs]at d⊢;by_cases E:W.Ai<(i:Int)
    .rw[Yr E,Vr];refine Eu ?_ (Y (i+1) _ s q om x om);unfold J8;simp only[f.lt,Vr,f.ix,XK,f.nx];exact Ea (v:=CJ.k (_,_)) (Ea d (Yx (Yr E) (Qa _))) (Qa _)
    .rw[QN E,Vs];have X:=nW ok x (p:=(i:Int)) (h:=h) om om V;cases J:(C8 t s (i:Int) h).2 with
     |false=>
      refine Ei ?_;unfold J8;simp only[f.lt,Vr,f.ix,XK,f.nx];refine Ea (v:=CJ.d (.d (.d AD))) (Ea d (YS (QN E) (Ea X (v:=(C8 t s (i:Int) h)) ?_))) (Qa _);rw[J];exact Qa _
     |true=>
      simp only[Xg,Vs];refine Eu ?_ (Y (i+1) _ _ q om (nB ok x om V om) ?_)
      .unfold J8;simp only[f.lt,Vr,f.ix,XK,f.nx];refine Ea (v:=CJ.k (_,(C8 t s (i:Int) h).1)) (Ea d (YS (QN E) (Ea X (v:=(C8 t s (i:Int) h)) ?_))) (Qa _);rw[J];exact Qa _
      .have r0:=x.r0;unfold C8
       grind
 refine Qo ?_;unfold NK;simp only[XK];refine Ea (P W.Ak 0 [] Ns rfl (XV _) rT (by show(0:Int)<=_;omega)).ev ?_
 grind[Qa]
end Go.Sw
