/- The plain laws that a law needs, with no program in sight. -/
import Derived.Test.YtbiglpikpigidaaGreatW23Pe
set_option linter.unusedVariables false
set_option linter.unusedSimpArgs false
namespace Go.Sw
open Option renaming some→AC,none→AF
open Bool renaming false→AD,true→AE
open Decidable renaming decide→AG
open List renaming length→AI
open Go renaming Value→AL
open List(map)
open Int(toNat)
open Go.IntKind(i64 u64 u8)
theorem Di{n:Int}(d: -9223372036854775808<=n:=by omega)(h1:n<=9223372036854775807:=by omega):i64.wrap n=n:=QJ d h1
theorem dT(p:Prop)[Decidable p](h:p:=by omega):AG p=true:=Jf h
theorem dF(p:Prop)[Decidable p](h:¬p:=by omega):AG p=false:=YO h
def DG(lo hi x:Int):Bool:=AG (lo<=x)&&AG (x<=hi)
theorem tC(lo hi:Int)(l:AA Int)(d:AI l<=4611686018427387904):Ev (λn=>FR n lo hi l) (l.all (DG lo hi)):=by
 have h:Ev (λn=>Wu n l lo hi) (l.any λx=> !DG lo hi x):=by
  refine Ev.contains l _ (λn x=>WW n x lo hi) d λx _=>?_;refine Ea ((QI λh=>Qa _).eq ?_) (Qa _);unfold DG
  grind
 refine Ea h ((Qa _).eq ?_)
 grind
def jI(c:Nat):Bool:=(AG (97<=c)&&AG (c<=122))||(AG (48<=c)&&AG (c<=57))||AG (c=95)
def R4(c:Nat):Bool:=AG (97<=c)&&AG (c<=122)
def Mv(c:UInt8):Bool:=jI c.toNat
def Y_(c:UInt8):Bool:=R4 c.toNat
def f7:AA (AA UInt8):=[[99,111,117,114,115,101],[109,97,116,115],[115,116,97,114,116],[112,97,115,115],[101,110,100],[108,101,103],[116,111],[100,105,115,116,97,110,99,101],[103,117,110],[99,104,105,112],[115,108,111,116],[108,97,112,115],[108,97,112],[99,117,116,111,102,102],[101,120,116,114,97],[119,97,118,101],[111,102,102,101,110,99,101],[111,117,116],[99,97,116,101,103,111,114,121],[112,114,105,122,101],[97,108,108],[116,105,101,115],[105,102],[101,108,115,101],[97,110,100],[111,114],[110,111,116],[111,108,100,101,114],[121,111,117,110,103,101,114],[98,105,98],[100,114,97,119],[102,105,101,108,100],[115,104,111,114,116],[102,97,117,108,116,115],[109,105,115,115,101,115],[115,116,114,97,121,115],[119,105,110,100,111,119],[114,101,115,105,100,117,97,108],[100,114,105,102,116],[112,114,111,116,101,115,116],[102,101,101],[100,101,97,100,108,105,110,101]]
def KL:AA UInt8->AA (AA UInt8)
 |[]=>[]
 |b::l=>(bif b==32&& !(l.dropWhile λc=>c != 32).isEmpty then[l.takeWhile λc=>c != 32]else[])++KL l
theorem um:∀(l s:AA UInt8),(∀c∈s,c≠32)->(s++[32]).isPrefixOf l=((l.takeWhile λc=>c != 32)==s&& !(l.dropWhile λc=>c != 32).isEmpty)
 |[],s,h=>sq
 |b::l,[],h=>by
  by_cases e:b=32
  .subst e;simp
  .have e1:=by simpa using e
   have d:(32==b)=false:=gq;simp[List.isPrefixOf,e1,d]
 |b::l,c::s,h=>by
  have g:=h c sq;have f:=um l s gq
  grind[List.takeWhile_cons,List.dropWhile_cons]
theorem Qgo(b:UInt8)(l t:AA UInt8)(d:t≠[]):Lib.contains (b::l) t=(t.isPrefixOf (b::l)||Lib.contains l t):=by
 unfold Lib.contains;rw[show Lib.index (b::l) t=if t.isPrefixOf (b::l)then 0 else if Lib.index l t== -1 then-1 else Lib.index l t+1 from rfl]
 grind
theorem uz(s:AA UInt8)(h:∀c∈s,c≠32):∀l,Lib.contains l (32::(s++[32]))=(KL l).contains s
 |[]=>by rfl
 |b::l=>by
  rw[Qgo b l _ sq,uz s h l];simp only[KL,List.isPrefixOf,um l s h]
  grind
def Iw:AA UInt8:=[32,99,111,117,114,115,101,32,109,97,116,115,32,115,116,97,114,116,32,112,97,115,115,32,101,110,100,32,108,101,103,32,116,111,32,100,105,115,116,97,110,99,101,32,103,117,110,32,99,104,105,112,32,115,108,111,116,32,108,97,112,115,32,108,97,112,32,99,117,116,111,102,102,32,101,120,116,114,97,32,119,97,118,101,32,111,102,102,101,110,99,101,32,111,117,116,32,99,97,116,101,103,111,114,121,32,112,114,105,122,101,32,97,108,108,32,116,105,101,115,32,105,102,32,101,108,115,101,32,97,110,100,32,111,114,32,110,111,116,32,111,108,100,101,114,32,121,111,117,110,103,101,114,32,98,105,98,32,100,114,97,119,32,102,105,101,108,100,32,115,104,111,114,116,32,102,97,117,108,116,115,32,109,105,115,115,101,115,32,115,116,114,97,121,115,32,119,105,110,100,111,119,32,114,101,115,105,100,117,97,108,32,100,114,105,102,116,32,112,114,111,116,101,115,116,32,102,101,101,32,100,101,97,100,108,105,110,101,32]
theorem _r:KL Iw=f7:=by decide+kernel
def Ds:AA Int:=(List.range 256).map λi=>if 97<=i/\i<=122\/65<=i/\i<=90 then 2 else if 48<=i/\i<=57 then 3 else if i∈[123,125,40,41,91,93,59,44,61,60,62]then 4 else if i∈[32,9,10,13]then 1 else 0
theorem Qj5:Ev Pt Ds:=by
 unfold Pt;refine Ea (iM (step:=MA 0) 40 (b:=(iter (MA 0) 40 (List.replicate 256 0,97)).getD []) (by decide+kernel)) ?_;refine Ea (iM (step:=OB 0) 40 (b:=(iter (OB 0) 40 ((iter (MA 0) 40 (List.replicate 256 0,97)).getD [],48)).getD []) (by decide+kernel)) ?_;generalize hb:(iter (OB 0) 40 ((iter (MA 0) 40 (List.replicate 256 0,97)).getD [],48)).getD []=b2;refine Ea (iM (step:=UW 0) 40 (b:=(iter (UW 0) 40 (b2,0)).getD []) (by subst hb;decide+kernel)) ?_;refine Ea (iM (step:=ee 0) 40 (b:=Ds) (by subst hb;decide+kernel)) ?_;exact EA (by decide+kernel)
theorem QmC:((List.range 256).all λi=> !jI i||AG (Ds[i]?=AC (if R4 i then 2 else if i=95 then 0 else 3)))=true:=by decide+kernel
theorem Qo2{c:UInt8}(h:Mv c=AE):Lt 256 Ds (c.toNat:Int)=AC (if Y_ c then 2 else if c.toNat=95 then 0 else 3):=by
 have d:=Xs.1 QmC c.toNat (List.mem_range.2 c.toNat_lt);unfold Mv at h;rw[h]at d;simp[Xg,Bool.false_or,Vr]at d;unfold Lt;rw[show Nat.beq (AI Ds) 256=AE by decide+kernel,Vp,Qz d];rfl
def Dy(s:AA UInt8):Bool:=AG (1<=AI s)&&AG (AI s<=24)&&(s.head?).any Y_&&s.all Mv
def Dh(s:AA UInt8):Bool:=Dy s&& !f7.contains s
theorem Qmo(s:AA UInt8)(h:Dy s=AE):Ev (λn=>Pf n s) true:=by
 unfold Dy at h;simp only[XW,Vr,Xs]at h;obtain⟨⟨⟨f,q⟩,t⟩,g⟩:=h;unfold Pf;refine Ea Qj5 ?_;refine YC (v:=List.replicate 256 0) (by decide+kernel) ?_;refine YC (v:=Ds) (by decide+kernel) ?_;refine Ea (v:=CG.k ()) (Ev.iter (λi=>(i:Int)) (AI s) rfl (λi m=>?_) ?_) ?_
 .have d:=Y5 (x:=s[i]) om (XK m);have j:=g _ d.mem;unfold VN;simp only[d.lt,Vp,d.ix,XJ,Qo2 j,d.nx];cases i with
  |zero=>
   have:Y_ s[0]=true:=by
    cases s with
    |nil=>simp at f
    |cons c r=>grind
   simp[this];exact Qa _
  |succ i=>
   grind[Qa]
 .simp_all[VN,Qa]
 .refine EA ?_;cases s with
  |nil=>simp at f
  |cons c r=>rfl
theorem Qmi{s:AA UInt8}(h:Dy s=AE):∀c∈s,c≠32:=by
 unfold Dy at h;simp[XW,Xs]at h;rintro c d rfl;exact absurd (h.2 _ d) (by decide)
theorem Qoh{s:AA UInt8}(h:Dy s=AE):AI s<=24:=by
 simp_all[Dy]
theorem Qj6(s:AA UInt8)(h:Dy s=AE):Ev (λn=>Wx n s) (f7.contains s):=by
 refine Ea (Ea (Qmo s h) (RY ?_)) (Qa _);have d:=Qoh h;refine YC (by unfold cat;rw[XS (by simp;omega)];rfl) (YC (by unfold cat;rw[XS (by simp;omega)];rfl) ?_);refine YC ?_ (Qa _);show dV Iw ([32]++s++[32])=AC (f7.contains s);unfold dV;rw[show Nat.blt (AI Iw) 4294967281=AE by decide+kernel,Vp]
 grind[uz,Qmi,_r]
theorem cZ(c:UInt8)(k:Nat):AG ((c.toNat:Int)<(k:Int))=AG (c.toNat<k):=by
 simp
theorem c8(c:UInt8):(bif (c.toNat:Int)<97 then(bif (c.toNat:Int)<48 then AC ((c.toNat:Int) != 95)else(bif 57<(c.toNat:Int) then AC ((c.toNat:Int) != 95)else AC AD))else(bif 122<(c.toNat:Int) then(bif (c.toNat:Int)<48 then AC ((c.toNat:Int) != 95)else(bif 57<(c.toNat:Int) then AC ((c.toNat:Int) != 95)else AC AD))else AC AD))=AC (!Mv c):=by
 unfold Mv jI;generalize c.toNat=k;have e:((k:Int) != 95)= !decide (k=95):=by
  grind
 grind
theorem Ql7(n:Nat)(s:AA UInt8):(bif (AI s:Int)<1 then AC AE else(bif 24<(AI s:Int) then AC AE else(CJ s 0).bind λx10=>(bif (x10.toNat:Int)<97 then AC AE else(CJ s 0).bind λx12=>AC (AG (122<(x12.toNat:Int))))))=AC (!(AG (1<=AI s)&&AG (AI s<=24)&&(s.head?).any Y_)):=by
 cases s with
 |nil=>rfl
 |cons c r=>
  by_cases h:AI (c::r)<=24
  .rw[YO (show¬24<(AI (c::r):Int)by omega),Vq];have g:CJ (c::r) 0=AC c:=rfl;simp[g,XJ];simp[X0]at h;have j:AI r<=23:=om;simp[List.head?_cons,Option.any_some,Y_,R4];rw[show(97:Int)=(97:Nat)from rfl,cZ];by_cases d:c.toNat<97
   .grind
   .have f:97<=c.toNat:=by omega
    simp[d,f,j];by_cases q:c.toNat<=122
    iterate 2 grind
  grind
theorem sz(s:AA UInt8)(j:AI s<=1048576):Ev (λn=>HE n s) (Dh s):=by
 refine Ea (EA (Ql7 0 s)) ?_;unfold Dh;cases h:(AG (1<=AI s)&&AG (AI s<=24)&&(s.head?).any Y_)with
 |false=>
  have:Dy s=false:=by unfold Dy;rw[h];rfl
  rw[this];exact Qa _
 |true=>
  have g:Dy s=s.all Mv:=by unfold Dy;rw[h];rfl
  refine Ea (il s (λc=> !Mv c) (λi=>(i:Int)) (CG.d AD) (CG.k ()) om rfl (λi x d f=>?_) (λi x d f=>?_) ?_) ?_
  .unfold OD;simp only[d.lt,d.ix,XJ,c8,f,d.nx];exact Qa _
  .unfold OD;simp only[d.lt,d.ix,XJ,c8,f];exact Qa _
  .simp_all[OD,Qa]
  .rw[g];have e:s.any (λc=> !Mv c)= !s.all Mv:=gq;rw[e];cases q:s.all Mv with
   |true=>
    exact Ea (Qj6 s (g.trans q)) (Qa _)
   |false=>
    exact Qa _
def Dd:AA (AA UInt8)->AA (AA UInt8)->Bool
 |_,[]=>AE
 |seen,x::r=>Dh x&& !seen.contains x&&Dd (seen++[x]) r
theorem Qka(l:AA (AA UInt8))(i:Nat)(x:AA UInt8)(h:At l i x):Dd (l.take i) (l.drop i)=(Dh x&& !(l.take i).contains x&&Dd (l.take (i+1)) (l.drop (i+1))):=by
 rw[h.drop,h.take];rfl
theorem dq{α:Type}(l:AA α)(d:α->AA UInt8)(g:Nat->α->AB Unit)(hg:∀n x,g n x=AC ())(E:AI l<=1048576)(y:∀x∈l,AI (d x)<=1048576):
  Ev (λn=>((iter (λs:(AA (AA UInt8×Bool))×Int=>bif s.2<(AI l:Int) then(CJ l s.2).bind λx35=>(g n x35).bind λr36=>((HE n (d x35)).bind λr42=>(bif (!r42)then AC AE else(AC (Qm s.1 (d x35) AD)).bind λv44=>AC v44):AB Bool).bind λb40=>(bif b40 then AC (.d (.d AD))else(AC (QL s.1 (d x35) AE)).bind λm46=>AC (.k (m46,i64.wrap (s.2+1))))else AC (.d (.k ()))) n ([],0):AB (CG Unit Bool)).bind λb28=>
   match b28 with
   |.k _=>AC AE
   |.d s=>AC s:AB Bool)) (Dd [] (l.map d)):=by
 have m:AI l<=4611686018427387904:=om;have q:AI (l.map d)<=4611686018427387904:=gq;have j:=uZ (B:=CG Unit Bool) l (step:=λn s=>bif s.2<(AI l:Int) then(CJ l s.2).bind λx35=>(g n x35).bind λr36=>((HE n (d x35)).bind λr42=>(bif (!r42)then AC AE else(AC (Qm s.1 (d x35) AD)).bind λv44=>AC v44)).bind λb40=>(bif b40 then AC (.d (.d AD))else(AC (QL s.1 (d x35) AE)).bind λm46=>AC (.k (m46,i64.wrap (s.2+1))))else AC (.d (.k ())))
  (λi=>(YE d AE (l.take i),i)) (λi=>bif Dd ((l.map d).take i) ((l.map d).drop i)then .k ()else .d AD) m rfl (λi x h=>?_) ?_
 .refine Ea j ?_
  grind[Qa]
 .have ha2:=Y5 q (by rw[Xo,h.get];rfl);simp only[Qka _ _ _ ha2];have f:Ev (λn=>(HE n (d x)).bind λr42=>(bif (!r42)then AC AE else(AC (Qm (YE d AE (l.take i)) (d x) AD)).bind λv44=>AC v44)) (!(Dh (d x)&& !((l.map d).take i).contains (d x))):=by
   refine Ea (sz (d x) (y x h.mem)) ?_;cases Dh (d x)with
   |false=>exact Qa _
   |true=>
    simp_all[Qa,uQ]
  cases t:(Dh (d x)&& !((l.map d).take i).contains (d x))with
  |true=>
   rw[t]at f;refine .inl ⟨?_,sq⟩;simp only[h.lt,h.ix,XJ,hg];refine Ea f ?_;simp[h.nx];rw[h.take,Qhu];exact Qa _
  |false=>
   rw[t]at f;refine .inr ?_;simp only[h.lt,h.ix,XJ,hg];refine Ea f ?_;exact Qa _
 .simp[Jp];rw[show(l.map d).drop (AI l)=[]by simp];exact Qa _
theorem ge{α:Type}{l:AA α}{x:α}(h:AI l<=140737488):app l [x]=AC (l++[x]):=lC l x om
theorem tg{α β:Type}(l:AA α)(f:α->β)(m:AI l<=140737488):Ev (λn=>iter (λs:(AA β)×Int=>bif s.2<(AI l:Int) then(CJ l s.2).bind λx15=>(app s.1 [f x15]).bind λl16=>AC (CG.k (l16,i64.wrap (s.2+1)))else AC (CG.d s.1)) n (([]:AA β),(0:Int))) (l.map f):=by
 have e:∀l:AA α,l.foldl (λa x=>a++[f x]) []=l.map f:=by
  intro l;have h:∀(l:AA α) (a:AA β),l.foldl (λa x=>a++[f x]) a=a++l.map f:=by
   intro l
   induction l with
   |nil=>simp
   |cons x l j=>grind
  grind
 rw[<- e l];refine YM l (λa x=>a++[f x]) [] (λa i=>(a,(i:Int))) (λa=>a) om rfl (λi x a g d=>?_) ?_
 .rw[e]at d;have:AI a<=140737488:=gq;simp only[g.lt,g.ix,ge this,g.nx];exact Qa _
 .simp[Jp];exact Qa _
def Hx(c:CB):Bool:=Dh c.Ap&&(Dd [] (c.Au.map (·.Ap))&&(Dd [] (c.AO.map (·.Ap))&&(Dd [] (c.A4.map (·.Ap))&&(Dd [] (c.Ab.map (·.Ap))&&Dd [] (c.AV.map (·.Ap))))))
structure C3 (c:CB):Prop where
 name:AI c.Ap<=1048576
 mats:AI c.Au<=1048576
 matsN:∀x∈c.Au,AI x.Ap<=1048576
 legs:AI c.Az<=1048576
 dist:AI c.AO<=1048576
 distN:∀x∈c.AO,AI x.Ap<=1048576
 cut:∀x∈c.AO,AI x.Ar<=1048576
 wave:AI c.A4<=1048576
 waveN:∀x∈c.A4,AI x.Ap<=1048576
 off:AI c.Ab<=1048576
 offN:∀x∈c.Ab,AI x.Ap<=1048576
 cat:AI c.AV<=1048576
 catN:∀x∈c.AV,AI x.Ap<=1048576
 prize:AI c.Ay<=1048576
theorem QoD(c:CB)(w:C3 c):Ev (λn=>Ww n c) (Hx c):=by
 refine Ea (Ea (sz c.Ap w.name) (Eh λ_=>?_)) (Qa _);have g:Ev (λn=>Wa n c.Au) (Dd [] (c.Au.map (·.Ap))):=by exact dq c.Au (·.Ap) WM (λ_ _=>rfl) w.mats w.matsN
 have d:Ev (λn=>WS n c.AO) (Dd [] (c.AO.map (·.Ap))):=by exact dq c.AO (·.Ap) Wk (λ_ _=>rfl) w.dist w.distN
 have h:Ev (λn=>V5 n c.A4) (Dd [] (c.A4.map (·.Ap))):=by exact dq c.A4 (·.Ap) WD (λ_ _=>rfl) w.wave w.waveN
 have f:Ev (λn=>V' n c.Ab) (Dd [] (c.Ab.map (·.Ap))):=by exact dq c.Ab (·.Ap) WR (λ_ _=>rfl) w.off w.offN
 have j:Ev (λn=>WT n c.AV) (Dd [] (c.AV.map (·.Ap))):=by exact dq c.AV (·.Ap) Wj (λ_ _=>rfl) w.cat w.catN
 refine Ea g (Eh λ_=>(Ea d (Eh λ_=>?_)));refine Ea h (Eh λ_=>?_);exact Ea f (Eh gq)
theorem Zp{n:Nat}(h:n<=1048576):i64.wrap ((n:Int)-1)=(n:Int)-1:=Di
theorem ol(x lo hi:Int):Ev (λn=>G5 n x lo hi) (DG lo hi x):=by
 exact Ea (Eh λ_=>Qa _) (Qa _)
theorem _i(c:CB)(w:C3 c)(x:Int):Ev (λn=>F5 n c x) (DG 0 ((AI c.Au:Int)-1) x):=by
 unfold F5;rw[Zp w.mats];exact Ea (ol _ _ _) (Qa _)
mutual
def Rv:CH->Nat
 |⟨_,_,ps⟩=>1+Ce ps
def Ce:AA CH->Nat
 |[]=>0
 |p::r=>Rv p+Ce r
end
theorem YR(p:CH):Rv p=1+Ce p.Ac:=by cases p;rfl
theorem Y6{p:CH}:∀{l:AA CH},p∈l->Rv p<=Ce l
 |q::r,h=>by
  simp[Ce];rcases X7.1 h with rfl|h
  .omega
  .have:=Y6 h;omega
mutual
def Ft(k:Int):CH->Bool
 |⟨m,laps,ps⟩=>bif laps==0 then DG 0 k m&&((AI ps:Int)==0)else DG 1 64 laps&&((m==0)&&(AG (0<(AI ps:Int))&&Cw k ps))
def Cw(k:Int):AA CH->Bool
 |[]=>AE
 |p::r=>Ft k p&&Cw k r
end
theorem Zn(k:Int)(p:CH):Ft k p=bif p.As==0 then DG 0 k p.Al&&((AI p.Ac:Int)==0)else DG 1 64 p.As&&((p.Al==0)&&(AG (0<(AI p.Ac:Int))&&Cw k p.Ac)):=by cases p;rfl
theorem JE(k:Int):∀l:AA CH,Cw k l=l.all (Ft k)
 |[]=>rfl
 |p::r=>by simp[Cw,List.all_cons,JE k r]
theorem Yl{p:CH}(h:CH.wf p):AI p.Ac<=1048576/\ ∀x∈p.Ac,CH.wf x:=by
 cases p
 grind[CH.wf,uf]
theorem QT(lo hi x:Int):Ev (λn=>FR n lo hi [x]) (DG lo hi x):=(tC lo hi [x] sq).eq sq
theorem eM(lo hi x y:Int):Ev (λn=>FR n lo hi [x,y]) (DG lo hi x&&DG lo hi y):=(tC lo hi [x,y] sq).eq sq
theorem QoC(k:Int):∀(m:Nat) (l:AA CH),Ce l<=m->AI l<=1048576->(∀x∈l,CH.wf x)->Ev (λn=>LB n l k) (Cw k l):=by
 intro m
 induction m with
 |zero=>
  intro l f h d;cases l with
  |nil=>
   refine Jc ?_;exact Jt [] (Ft k) (λn x=>OP (LB n) n x k) sq sq
  |cons p r=>
   simp only[Ce,YR]at f;omega
 |succ m t=>
  intro l f h d;refine Jc ?_;rw[JE];refine Jt l (Ft k) (λn x=>OP (LB n) n x k) om λp g=>?_;rw[Zn];have j:=Y6 g;rw[YR]at j;obtain⟨q,y⟩:=Yl (d p g);refine JS (λ_=>?_) (λ_=>?_)
  .exact Ea (Ea (QT _ _ _) (Eh λ_=>Qa _)) (Qa _)
  .exact Ea (Ea (QT _ _ _) (Eh λ_=>Eh λ_=>Eh gq)) (Qa _)
theorem Qmn(c:CB)(w:C3 c):∀(m:Nat) (l:AA CH),Ce l<=m->AI l<=1048576->(∀x∈l,CH.wf x)->Ev (λn=>TB n c l) (Cw ((AI c.Au:Int)-1) l):=by
 intro m
 induction m with
 |zero=>
  intro l h t g;cases l with
  |nil=>
   refine Jc ?_;show Ev (λn=>iq (TB n) n c []) _;exact⟨1,λn F=>by obtain⟨k,rfl⟩:∃k,n=k+1:=⟨n-1,om⟩;rfl⟩
  |cons p r=>
   simp only[Ce,YR]at h;omega
 |succ m q=>
  intro l h t g;refine Jc ?_;show Ev (λn=>iq (TB n) n c l) _;rw[JE];have step:∀(i:Nat) (x:CH),At l i x->Ev (λn=>OJ n c l (TB n) i) (bif Ft (AI c.Au-1) x then .k (i+1)else .d (.d AD)):=by
   intro i x d;unfold OJ;simp only[d.lt,d.ix,XJ,d.nx];have y:=Y6 d.mem;rw[YR]at y;obtain⟨j,E⟩:=Yl (g x d.mem);refine Ea (Eh λ_=>Ea (_i c w _) (Eh λ_=>Qa _)) (Ea (Ea (ol _ _ _) (Eh λ_=>Eh λ_=>Eh λ_=>Ea (q x.Ac om j E) (Qa _))) ?_);rw[Zn];cases B:(x.As==0)with
   |true=>
    have e0:=by simpa using B
    have:DG 1 64 x.As=false:=by rw[e0];rfl
    grind[Qa]
   |false=>
    generalize(DG 1 64 x.As&&((x.Al==0)&&(AG (0<(AI x.Ac:Int))&&Cw (AI c.Au-1) x.Ac)))=b;cases b<;>exact Qa _
  refine Ea (il l (λx=> !Ft (AI c.Au-1) x) (λi=>(i:Int)) (CG.d AD) (CG.k ()) om rfl (λi x d f=>?_) (λi x d f=>?_) ?_) ?_
  .refine(step i x d).eq ?_;have:=by simpa using f
   rw[this];rfl
  .refine(step i x d).eq ?_;have:=by simpa using f
   rw[this];rfl
  .unfold OJ;simp[Jp];exact Qa _
  grind[Qa]
def R'(k:Int)(l:Cr):Bool:=(DG 0 k l.BA&&DG 0 k l.To)&&((DG 0 68719476736 l.Bn&&DG 0 68719476736 l.Br)&&AG (l.Bn<=l.Br))
def cR(k:Int)(x:CO):Bool:=DG 0 k x.Al&&(AG (1<=x.B9)&&DG 0 1099511627776 x.Bu)
def Ib(k:Int)(d:AN):Bool:=DG 1 3 d.A'&&(DG (-1) k d.An&&(Cw k d.Ad&&d.Ar.all (cR k)))
def NT(o:AZ):Bool:=bif o.BM then(o.BU==0)&&(o.As==0)else bif o.As != 0 then(o.BU==0)&&DG 1 64 o.As else DG 0 68719476736 o.BU
def cv(x:AX):Bool:=(DG 0 120 x.BA&&DG 0 120 x.To)&&AG (x.BA<=x.To)
def Lc(c:CB)(p:CQ):Bool:=DG 0 ((AI c.AO:Int)-1) p.AN&&(DG (-1) ((AI c.AV:Int)-1) p.AX&&(DG 1 4000 p.B2&&DG 1 1125899906842624 p.BO))
def Li(c:CB):Bool:=(DG 0 16 c.AQ.A9&&DG 0 16 c.AQ.A8)&&((DG 0 4294967296 c.AQ.A6&&DG 0 4294967296 c.AQ.Am)&&(DG 0 100000 c.AQ.BF&&(DG 0 1125899906842624 c.Bk&&DG 0 1099511627776 c.Aw)))
def DE(l:Cr):Ul:={BZ:=l.BA,to_:=l.To}
def G8(p:CQ):Up:={B4:=p.AN,B0:=p.AX,CA:=p.B2}
def Cx(c:CB):Bool:=
 let k:=(AI c.Au:Int)-1
 c.Au.all (λm=>DG 1 3 m.AW)&&(c.Az.all (R' k)&&(AG ((c.Az.map DE).Nodup)&&(c.AO.all (Ib k)&&(c.A4.all (λw=>DG 0 1099511627776 w.B_)&&(c.Ab.all NT&&(c.AV.all cv&&(c.Ay.all (Lc c)&&(AG ((c.Ay.map G8).Nodup)&&Li c))))))))
structure D9 (c:CB):Prop where
 len:∀d∈c.AO,AI d.Ad<=1048576
 wf:∀d∈c.AO,∀x∈d.Ad,CH.wf x
theorem QhM(l:AA Cr)(f:AI l<=1048576):Ev (λn=>WP n l) (AG ((l.map DE).Nodup)):=by
 refine Ea (mw l DE AE om (λi x m d=>?_) (λm=>?_)) ((Qa _).eq ?_)
 .unfold Tu V4;simp only[d.lt,d.ix,d.nx];exact Qa _
 .simp_all[Tu,Qa]
 .rw[XY];simp[Vy,Vr]
  grind[vA]
theorem QfQ(l:AA CQ)(f:AI l<=1048576):Ev (λn=>WN n l) (AG ((l.map G8).Nodup)):=by
 refine Ea (mw l G8 AE om (λi x m d=>?_) (λm=>?_)) ((Qa _).eq ?_)
 .unfold TP V8;simp only[d.lt,d.ix,d.nx];exact Qa _
 .simp_all[TP,Qa]
 .rw[XY];simp[Vy,Vr]
  grind[vA]
theorem Qj0(c:CB)(w:C3 c)(q:D9 c):Ev (λn=>Ph n c) (Cx c):=by
 unfold Ph Cx;rw[Zp w.mats];refine Ea (v:=_) ?_ (Qa _);have t:Ev (λn=>OQ n c.Au) (c.Au.all λm=>DG 1 3 m.AW):=by
  unfold OQ Wv WY;refine Jt c.Au _ (λn x=>OU n x) (by have:=w.mats;omega) λx d=>?_;unfold OU;exact Ea (QT _ _ _) (Qa _)
 have h:Ev (λn=>PB n c.Az ((AI c.Au:Int)-1)) (c.Az.all (R' ((AI c.Au:Int)-1))):=by
  unfold PB We Wb;refine Jt c.Az _ (λn x=>Ot n x _) (by have:=w.legs;omega) λx d=>?_;unfold Ot;exact Ea (Ea (eM _ _ _ _) (Eh λ_=>Ea (eM _ _ _ _) (Eh λ_=>Qa _))) (Qa _)
 have j:Ev (λn=>OZ n c.AO ((AI c.Au:Int)-1)) (c.AO.all (Ib ((AI c.Au:Int)-1))):=by
  unfold OZ WV WC;refine Jt c.AO _ (λn x=>O6 n x _) (by have:=w.dist;omega) λx d=>?_;unfold O6;have F:Ev (λn=>PC n x.Ar ((AI c.Au:Int)-1)) (x.Ar.all (cR ((AI c.Au:Int)-1))):=by
   unfold PC Wh WU;refine Jt x.Ar _ (λn x=>PD n x _) (by have:=w.cut x d;omega) λy G=>?_;unfold PD;exact Ea (Ea (QT _ _ _) (Eh λ_=>Eh λ_=>Ea (QT _ _ _) (Qa _))) (Qa _)
  exact Ea (Ea (QT _ _ _) (Eh λ_=>Ea (QT _ _ _) (Eh λ_=>Ea (QoC _ _ x.Ad (XT _) (q.len x d) (q.wf x d)) (Eh λ_=>Ea F (Qa _))))) (Qa _)
 have E:Ev (λn=>PN n c.A4) (c.A4.all λw=>DG 0 1099511627776 w.B_):=by
  unfold PN Wq Wg;refine Jt c.A4 _ (λn x=>OY n x) (by have:=w.wave;omega) λx d=>?_;unfold OY;exact Ea (QT _ _ _) (Qa _)
 have f:Ev (λn=>OR n c.Ab) (c.Ab.all NT):=by
  unfold OR Wn Wr;refine Jt c.Ab _ (λn x=>PO n x) (by have:=w.off;omega) λx d=>?_;unfold PO NT;refine JS (λ_=>Ea (Eh λ_=>Qa _) (Qa _)) λ_=>JS (λ_=>Ea (Eh λ_=>Ea (QT _ _ _) (Qa _)) (Qa _)) λ_=>Ea (QT _ _ _) (Qa _)
 have B:Ev (λn=>Oh n c.AV) (c.AV.all cv):=by
  unfold Oh WQ V7;refine Jt c.AV _ (λn x=>PX n x) (by have:=w.cat;omega) λx d=>?_;unfold PX;exact Ea (Ea (eM _ _ _ _) (Eh λ_=>Qa _)) (Qa _)
 have g:Ev (λn=>OO n c.Ay c) (c.Ay.all (Lc c)):=by
  unfold OO WZ Wc;refine Jt c.Ay _ (λn x=>O4 n x c) (by have:=w.prize;omega) λx d=>?_;unfold O4;rw[Zp w.dist,Zp w.cat];exact Ea (Ea (QT _ _ _) (Eh λ_=>Ea (QT _ _ _) (Eh λ_=>Ea (QT _ _ _) (Eh λ_=>Ea (QT _ _ _) (Qa _))))) (Qa _)
 refine Ea t (Eh λ_=>Ea h (Eh λ_=>Ea (QhM _ w.legs) (Eh λ_=>Ea j (Eh λ_=>Ea E (Eh λ_=>Ea f (Eh λ_=>Ea B (Eh λ_=>Ea g (Eh λ_=>Ea (QfQ _ w.prize) (Eh λ_=>?_)))))))));exact Ea (eM _ _ _ _) (Eh λ_=>Ea (eM _ _ _ _) (Eh λ_=>Ea (QT _ _ _) (Eh λ_=>Ea (QT _ _ _) (Eh λ_=>Ea (QT _ _ _) (Qa _)))))
theorem Ne{a b a' b':Int}:(({BZ:=a,to_:=b}:Ul)={BZ:=a',to_:=b'})↔a=a'/\b=b':=sq
theorem sR{α B:Type}{step:Nat->Int->AB (CG Int B)}(l:AA α)(ok:α->Bool)(d b:B)(j:AI l<=4611686018427387904)
  (m:∀i x,At l i x->Ev (λn=>step n (i:Int)) (bif ok x then .k ((i+1:Nat):Int)else .d d))(f:Ev (λn=>step n (AI l:Int)) (.d b)):
  Ev (λn=>Go.Sw.iter (step n) n 0) (bif l.all ok then b else d):=by
 have e:(bif l.all ok then b else d)=bif l.any (λx=> !ok x)then d else b:=by
  grind
 rw[e];refine il l (λx=> !ok x) (λi=>(i:Int)) d b j rfl (λi x h g=>?_) (λi x h g=>?_) f
 .grind
 grind
mutual
def cN:AR->Nat
 |⟨_,_,_,ps⟩=>1+Io ps
def Io:AA AR->Nat
 |[]=>0
 |c::r=>cN c+Io r
end
theorem Nr(c:AR):cN c=1+Io c.Ac:=by cases c;rfl
mutual
def cD:Nat->AR->Bool
 |d,⟨_,_,_,ps⟩=>Mw d ps
def Mw:Nat->AA AR->Bool
 |_,[]=>AE
 |d,c::r=>AG (d<=16)&&(cD (d+1) c&&Mw d r)
end
theorem kO(d:Nat)(c:AR):cD d c=Mw d c.Ac:=by cases c;rfl
def Cu(c:AR):Bool:=(c.AW==0)&&((c.Bz==0)&&((c.N==0)&&((AI c.Ac:Int)==0)))
mutual
def LJ:AY->Nat
 |⟨_,_,_,t,e⟩=>1+HV t+HV e
def HV:AA AY->Nat
 |[]=>0
 |s::r=>LJ s+HV r
end
theorem ZS(s:AY):LJ s=1+HV s.Ba+HV s.Bh:=by cases s;rfl
mutual
def sC:AY->Nat
 |⟨_,_,c,t,e⟩=>(bif Cu c then 0 else cN c)+HW t+HW e
def HW:AA AY->Nat
 |[]=>0
 |s::r=>sC s+HW r
end
theorem ZQ(s:AY):sC s=(bif Cu s.AR then 0 else cN s.AR)+HW s.Ba+HW s.Bh:=by cases s;rfl
mutual
def La:Nat->AY->Bool
 |d,⟨_,_,c,t,e⟩=>(Cu c||cD 1 c)&&(IW d t&&IW d e)
def IW:Nat->AA AY->Bool
 |_,[]=>AE
 |d,s::r=>AG (d<=16)&&(La (d+1) s&&IW d r)
end
theorem gP(d:Nat)(s:AY):La d s=((Cu s.AR||cD 1 s.AR)&&(IW d s.Ba&&IW d s.Bh)):=by cases s;rfl
mutual
def sZ:AY->Nat
 |⟨_,_,c,t,e⟩=>2+cN c+LI t+LI e
def LI:AA AY->Nat
 |[]=>0
 |s::r=>sZ s+LI r
end
theorem dP(s:AY):sZ s=2+cN s.AR+LI s.Ba+LI s.Bh:=by cases s;rfl
def fS:Um->Nat
 |.ctyping_step x=>LJ x.AY
 |.ctyping_cond _=>0
def fC:Um->Nat
 |.ctyping_step x=>sC x.AY
 |.ctyping_cond x=>cN x.AR
def fD(d:Nat):Um->Bool
 |.ctyping_step x=>La d x.AY
 |.ctyping_cond x=>cD d x.AR
def fZ:Um->Nat
 |.ctyping_step x=>sZ x.AY
 |.ctyping_cond x=>cN x.AR
def Fz(l:AA Um):Nat:=(l.map fS).sum
def F0(l:AA Um):Nat:=(l.map fC).sum
def HH(l:AA Um):Nat:=(l.map fZ).sum
def bR:Um->Prop
 |.ctyping_step x=>AY.wf x.AY
 |.ctyping_cond x=>AR.wf x.AR
def DI(s:AY):Um:=.ctyping_step {AY:=s}
def Cs(c:AR):Um:=.ctyping_cond {AR:=c}
theorem Zm:∀l:AA AY,Fz (l.map DI)=HV l
 |[]=>rfl
 |s::r=>by
  have:=Zm r;simp[Fz,Vk,List.sum_cons]at this⊢;rw[this];rfl
theorem Zl:∀l:AA AY,F0 (l.map DI)=HW l
 |[]=>rfl
 |s::r=>by
  have:=Zl r;simp[F0,Vk,List.sum_cons]at this⊢;rw[this];rfl
theorem dr:∀l:AA AY,HH (l.map DI)=LI l
 |[]=>rfl
 |s::r=>by
  have:=dr r;simp[HH,Vk,List.sum_cons]at this⊢;rw[this];rfl
theorem mC:∀l:AA AR,Fz (l.map Cs)=0
 |[]=>rfl
 |s::r=>by
  have:=mC r;simp only[Fz,Vk,List.sum_cons]at this⊢;rw[this];rfl
theorem mB:∀l:AA AR,F0 (l.map Cs)=Io l
 |[]=>rfl
 |s::r=>by
  have:=mB r;simp[F0,Vk,List.sum_cons]at this⊢;rw[this];rfl
theorem mD:∀l:AA AR,HH (l.map Cs)=Io l
 |[]=>rfl
 |s::r=>by
  have:=mD r;simp[HH,Vk,List.sum_cons]at this⊢;rw[this];rfl
theorem iJ(d:Nat):∀l:AA AY,IW d l=((l.map DI).isEmpty||(AG (d<=16)&&(l.map DI).all (fD (d+1))))
 |[]=>rfl
 |s::r=>by
  rw[IW,iJ d r];simp[Vk,List.all_cons];rw[show fD (d+1) (DI s)=La (d+1) s from rfl]
  grind
theorem sE(d:Nat):∀l:AA AR,Mw d l=((l.map Cs).isEmpty||(AG (d<=16)&&(l.map Cs).all (fD (d+1))))
 |[]=>rfl
 |s::r=>by
  rw[Mw,sE d r];simp[Vk,List.all_cons];rw[show fD (d+1) (Cs s)=cD (d+1) s from rfl]
  grind
theorem Ja{c:AR}(h:AR.wf c):AI c.Ac<=1048576/\ ∀x∈c.Ac,AR.wf x:=by
 cases c
 grind[AR.wf,uX]
theorem Y9{s:AY}(h:AY.wf s):AR.wf s.AR/\(AI s.Ba<=1048576/\ ∀x∈s.Ba,AY.wf x)/\(AI s.Bh<=1048576/\ ∀x∈s.Bh,AY.wf x):=by
 cases s
 grind[AY.wf,ui]
theorem s9(n:Nat)(c:AR):K3 n {AR:=c}=AC (Cu c):=by
 unfold K3 Cu
 grind
theorem tv(n:Nat)(c:AR):Mb n c=AC (Cu c):=by
 unfold Mb Cu
 grind
theorem mA(l:AA AY)(d:AI l<=140737488):Ev (λn=>Mf n l) (l.map DI):=by
 exact Ea (tg l DI d) (Qa _)
theorem QoL(l:AA AR)(d:AI l<=140737488):Ev (λn=>Wm n l) (l.map Cs):=by
 exact Ea (tg l Cs d) (Qa _)
def CZ(s:AY):AA Um:=s.Ba.map DI++s.Bh.map DI
theorem mz(s:AY)(h:AY.wf s):Ev (λn=>LA n {AY:=s}) (CZ s):=by
 obtain⟨_,⟨d,_⟩,⟨f,_⟩⟩:=Y9 h;refine Ea (mA s.Ba om) (Ea (mA s.Bh om) (YC (S6 _ _ (by simp;omega)) (Qa _)))
theorem uk(c:AR)(h:AR.wf c):Ev (λn=>KD n {AR:=c}) (c.Ac.map Cs):=by
 obtain⟨d,_⟩:=Ja h;exact Ea (QoL c.Ac om) (Qa _)
def IY(l:AA Um)(d:Nat)(st co:Int):Bool:=l.isEmpty||(AG (d<=16)&&(l.all (fD (d+1))&&(AG (st+Fz l<=64)&&AG (co+F0 l<=256))))
def RC(l:AA Um)(d:Nat)(st co:Int):Bool:=l.isEmpty||(l.all (fD (d+1))&&(AG (st+Fz l<=64)&&AG (co+F0 l<=256)))
def RD(f:Um)(d:Nat)(st co:Int):Bool:=fD (d+1) f&&(AG (st+fS f<=64)&&AG (co+fC f<=256))
theorem sG(f:Um)(l:AA Um):Fz (f::l)=fS f+Fz l:=rfl
theorem sA(f:Um)(l:AA Um):F0 (f::l)=fC f+F0 l:=rfl
theorem sH(f:Um)(l:AA Um):HH (f::l)=fZ f+HH l:=rfl
theorem t3(l m:AA Um):Fz (l++m)=Fz l+Fz m:=by simp[Fz]
theorem tz(l m:AA Um):F0 (l++m)=F0 l+F0 m:=by simp[F0]
theorem t5(l m:AA Um):HH (l++m)=HH l+HH m:=by simp[HH]
theorem Qn0(f:Um)(r:AA Um)(d:Nat)(h j:Int):RC (f::r) d h j=(RD f d h j&&RC r d (h+fS f) (j+fC f)):=by
 unfold RC RD;rw[sG,sA];cases r with
 |nil=>simp[Fz,F0]
 |cons g r=>
  grind
theorem ku(l:AA Um)(d:Nat)(g h:Int)(j:g<=64)(m:h<=256):IY l d g h=AE↔(l.isEmpty||(AG (d<=16)&&l.all (fD (d+1))))=AE/\g+Fz l<=64/\h+F0 l<=256:=by
 unfold IY;cases l with
 |nil=>simp[Fz,F0,j,m]
 |cons f r=>
  grind
theorem Qe6(s:AY)(d:Nat):((CZ s).isEmpty||(AG (d<=16)&&(CZ s).all (fD (d+1))))=(IW d s.Ba&&IW d s.Bh):=by
 rw[iJ,iJ];unfold CZ;rw[List.all_append];cases f:s.Ba<;>cases g:s.Bh<;>simp<;>(grind)
def nv(R:Nat->AA Um->Int->Uk->AB (Uk×Bool))(l:AA Um)(d:Nat)(st co:Int):Prop:=
 ∃c':Uk,Ev (λn=>R n l (d:Int) {BG:=st,BH:=co}) (c',IY l d st co)/\(IY l d st co=AE->c'={BG:=st+Fz l,BH:=co+F0 l})
theorem Qkb{R:Nat->AA Um->Int->Uk->AB (Uk×Bool)}{l:AA Um}{d:Nat}(hd:d<=16){i:Nat}{f:Um}(ha:At l i f)(hw:bR f)
  (ih:∀l' d' j m,HH l'<fZ f->AI l'<=2097152->(∀f∈l',bR f)->d'<=17->0<=j->j<=66->(j<=65\/ ∀f∈l',∃c,f=Cs c)->0<=m->m<=256->nv R l' d' j m){j m:Int}(h0:0<=j)(af:j<=66)(J:j<=65\/ ∃c,f=Cs c)(h2:0<=m)(h3:m<=256):
  ∃c':Uk,Ev (λn=>MH n l (d:Int) (R n) ({BG:=j,BH:=m},(i:Int))) (bif RD f d j m then .k (c',((i+1:Nat):Int))else .d (.d (c',AD)))/\(RD f d j m=AE->c'={BG:=j+fS f,BH:=m+fC f}):=by
 unfold MH;simp only[ha.lt,Vp,ha.ix,XJ,ha.nx];have ed:i64.wrap ((d:Int)+1)=((d+1:Nat):Int):=YT om;cases f with
 |ctyping_step x=>
  obtain⟨s⟩:=x;have h1:j<=65:=by
   rcases J with h|⟨c,h⟩
   .exact h
   .cases h
  have t:AY.wf s:=hw;obtain⟨wc,⟨ae,aa⟩,⟨ag,ab⟩⟩:=Y9 t;have e1:i64.wrap (j+1)=j+1:=Di;simp only[Um.elim,s9,XJ,e1];have hc:∃H:Uk,Ev (λn=>((bif (!Cu s.AR)then(R n [Um.ctyping_cond {AR:=s.AR}] 0 {BG:=j+1,BH:=m}).bind λE=>AC (E.1,(!E.2))else AC ({BG:=j+1,BH:=m},AD)):AB (Uk×Bool))) (H, !(Cu s.AR||(cD 1 s.AR&&(AG (j+1<=64)&&AG (m+cN s.AR<=256)))))/\
    ((Cu s.AR||(cD 1 s.AR&&(AG (j+1<=64)&&AG (m+cN s.AR<=256))))=AE->H={BG:=j+1,BH:=m+((bif Cu s.AR then 0 else cN s.AR:Nat):Int)}):=by
   cases N:Cu s.AR with
   |true=>
    simp_all[Qa]
   |false=>
    obtain⟨H,B,T⟩:=ih [Cs s.AR] 0 (j+1) m (by simp only[HH,Vk,Vl,List.sum_cons,List.sum_nil];show cN s.AR+0<sZ s;rw[dP];omega) sq (by intro g q;simp only[VA]at q;subst q;exact wc) om om om (.inr (by intro g q;simp only[VA]at q;exact⟨_,q⟩)) h2 h3;have ek:IY [Cs s.AR] 0 (j+1) m=(cD 1 s.AR&&(AG (j+1<=64)&&AG (m+cN s.AR<=256))):=by
     unfold IY;simp only[List.isEmpty_cons,Bool.false_or,List.all_cons,List.all_nil,Bool.and_true,Fz,F0,Vk,Vl,List.sum_cons,List.sum_nil];rw[show fD (0+1) (Cs s.AR)=cD 1 s.AR from rfl,show fS (Cs s.AR)=0 from rfl,show fC (Cs s.AR)=cN s.AR from rfl];simp
    rw[ek]at B T;refine⟨H,Ea B (Qa _),λh=>?_⟩;rw[T h];simp[Fz,F0,show fS (Cs s.AR)=0 from rfl,show fC (Cs s.AR)=cN s.AR from rfl]
  obtain⟨H,B,T⟩:=hc;generalize hb:(Cu s.AR||(cD 1 s.AR&&(AG (j+1<=64)&&AG (m+cN s.AR<=256))))=b at B T;have hF:RD (Um.ctyping_step {AY:=s}) d j m=(La (d+1) s&&(AG (j+LJ s<=64)&&AG (m+sC s<=256))):=rfl;rw[hF];cases b with
  |false=>
   have:(La (d+1) s&&(AG (j+LJ s<=64)&&AG (m+sC s<=256)))=false:=by
    rw[VM];intro hh;simp only[XW,Vr,gP,ZS,ZQ]at hh;obtain⟨⟨V,_⟩,z2,z3⟩:=hh;cases N:Cu s.AR with
    |true=>rw[N]at hb;cases hb
    |false=>
     rw[N]at hb V z3;simp only[Bool.false_or]at hb V;rw[V]at hb;simp only[Vq]at z3;rw[dT (j+1<=64),dT (m+(cN s.AR:Int)<=256)]at hb;cases hb
   rw[this];exact⟨H,Ea B (Qa _),λh=>by cases h⟩
  |true=>
   obtain rfl:=T rfl;by_cases G:64<j+1
   .have:(La (d+1) s&&(AG (j+LJ s<=64)&&AG (m+sC s<=256)))=false:=by
     rw[YO (show¬j+(LJ s:Int)<=64 by rw[ZS];omega)];simp
    rw[this];refine⟨{BG:=j+1,BH:=m+((bif Cu s.AR then 0 else cN s.AR:Nat):Int)},Ea B ?_,λh=>by cases h⟩;simp only[Xg,Vq];refine Ea (v:=(_,AE)) ?_ (Qa _);rw[Jf G];exact Qa _
   by_cases M:256<m+((bif Cu s.AR then 0 else cN s.AR:Nat):Int)
   .have:(La (d+1) s&&(AG (j+LJ s<=64)&&AG (m+sC s<=256)))=false:=by
     rw[YO (show¬m+(sC s:Int)<=256 by rw[ZQ];omega)];simp
    rw[this];refine⟨{BG:=j+1,BH:=m+((bif Cu s.AR then 0 else cN s.AR:Nat):Int)},Ea B ?_,λh=>by cases h⟩;simp only[Xg,Vq];refine Ea (v:=(_,AE)) ?_ (Qa _);rw[YO G,Jf M];exact Qa _
   obtain⟨Q,O,L⟩:=ih (CZ s) (d+1) (j+1) (m+((bif Cu s.AR then 0 else cN s.AR:Nat):Int)) (by
     unfold CZ;rw[t5,dr,dr];show _<sZ s;rw[dP];omega) (by unfold CZ;simp;omega) (by
     intro g q;unfold CZ at q;rcases VC.1 q with q|q
     .obtain⟨y,P,rfl⟩:=Xe.1 q;exact aa y P
     .obtain⟨y,P,rfl⟩:=Xe.1 q;exact ab y P) om om om (.inl om) om om
   have eL:IY (CZ s) (d+1) (j+1) (m+((bif Cu s.AR then 0 else cN s.AR:Nat):Int))=(La (d+1) s&&(AG (j+LJ s<=64)&&AG (m+sC s<=256))):=by
    rw[XY,ku _ _ _ _ om om,Qe6];simp only[XW,Vr,gP,ZS,ZQ];have Y:Fz (CZ s)=HV s.Ba+HV s.Bh:=by unfold CZ;rw[t3,Zm,Zm]
    have e3:F0 (CZ s)=HW s.Ba+HW s.Bh:=by unfold CZ;rw[tz,Zl,Zl]
    rw[Y,e3];have X:(Cu s.AR||cD 1 s.AR)=true:=by
     cases N:Cu s.AR with
     |true=>rfl
     |false=>
      rw[N]at hb;simp only[Bool.false_or,XW]at hb;rw[hb.1];rfl
    constructor
    .rintro⟨F,W,h6⟩;exact⟨⟨X,F⟩,om,om⟩
    .rintro⟨⟨_,F⟩,W,h6⟩;exact⟨F,om,om⟩
   rw[eL]at O L;refine⟨Q,Ea B ?_,λh=>?_⟩
   .simp only[Xg,Vq];refine Ea (v:=(Q, !(La (d+1) s&&(AG (j+LJ s<=64)&&AG (m+sC s<=256))))) ?_ ?_
    .rw[YO G,YO M,ed];exact Ea (mz s t) (Ea O (Qa _))
    .cases(La (d+1) s&&(AG (j+LJ s<=64)&&AG (m+sC s<=256)))<;>exact Qa _
   .rw[L h];have Y:Fz (CZ s)=HV s.Ba+HV s.Bh:=by unfold CZ;rw[t3,Zm,Zm]
    have e3:F0 (CZ s)=HW s.Ba+HW s.Bh:=by unfold CZ;rw[tz,Zl,Zl]
    rw[Y,e3,show fS (Um.ctyping_step {AY:=s})=LJ s from rfl,show fC (Um.ctyping_step {AY:=s})=sC s from rfl,ZS,ZQ];congr 1<;>omega
 |ctyping_cond x=>
  obtain⟨c⟩:=x;have t:AR.wf c:=hw;obtain⟨ad,ac⟩:=Ja t;have e1:i64.wrap (m+1)=m+1:=Di;simp only[Um.elim,e1];have hF:RD (Um.ctyping_cond {AR:=c}) d j m=(cD (d+1) c&&(AG (j<=64)&&AG (m+cN c<=256))):=by
   show(cD (d+1) c&&(AG (j+((0:Nat):Int)<=64)&&AG (m+cN c<=256)))=_;rw[show j+((0:Nat):Int)=j by omega]
  rw[hF];by_cases G:64<j
  .have:(cD (d+1) c&&(AG (j<=64)&&AG (m+cN c<=256)))=false:=by
    rw[dF (j<=64)];simp
   rw[this];refine⟨{BG:=j,BH:=m+1},?_,λh=>by cases h⟩;refine Ea (v:=(_,AE)) ?_ (Qa _);rw[Jf G];exact Qa _
  by_cases M:256<m+1
  .have:(cD (d+1) c&&(AG (j<=64)&&AG (m+cN c<=256)))=false:=by
    rw[YO (show¬m+(cN c:Int)<=256 by rw[Nr];omega)];simp
   rw[this];refine⟨{BG:=j,BH:=m+1},?_,λh=>by cases h⟩;refine Ea (v:=(_,AE)) ?_ (Qa _);rw[YO G,Jf M];exact Qa _
  obtain⟨Q,O,L⟩:=ih (c.Ac.map Cs) (d+1) j (m+1) (by
    rw[mD];show _<cN c;rw[Nr];omega) (by simp;omega) (by
    intro g q;obtain⟨y,P,rfl⟩:=Xe.1 q;exact ac y P) om om om (.inl om) om om
  have eL:IY (c.Ac.map Cs) (d+1) j (m+1)=(cD (d+1) c&&(AG (j<=64)&&AG (m+cN c<=256))):=by
   rw[XY,ku _ _ _ _ om om, <- sE,mC,mB];simp only[XW,Vr,kO,Nr];constructor
   iterate 2 rintro⟨F,W,h6⟩;exact⟨F,om,om⟩
  rw[eL]at O L;refine⟨Q,?_,λh=>?_⟩
  .refine Ea (v:=(Q, !(cD (d+1) c&&(AG (j<=64)&&AG (m+cN c<=256))))) ?_ ?_
   .rw[YO G,YO M,ed];exact Ea (uk c t) (Ea O (Qa _))
   .cases(cD (d+1) c&&(AG (j<=64)&&AG (m+cN c<=256)))<;>exact Qa _
  .rw[L h,mC,mB,show fS (Um.ctyping_cond {AR:=c})=0 from rfl,show fC (Um.ctyping_cond {AR:=c})=cN c from rfl,Nr];congr 1;omega
theorem QoK:∀(m:Nat) (l:AA Um) (d:Nat) (g j:Int),HH l<=m->AI l<=2097152->(∀f∈l,bR f)->d<=17->0<=g->g<=66->(g<=65\/ ∀f∈l,∃c,f=Cs c)->0<=j->j<=256->nv NB l d g j:=by
 intro m
 induction m using Nat.strongRecOn with
 |_ m V=>
 intro l d g j hm hl hw hd h0 h1 P h2 h3;unfold nv;have Q:∀c:Uk,(∃q:Uk,Ev (λn=>iz (NB n) n l (d:Int) c) (q,IY l d g j)/\(IY l d g j=AE->q={BG:=g+Fz l,BH:=j+F0 l}))->∃q:Uk,Ev (λn=>NB n l (d:Int) c) (q,IY l d g j)/\(IY l d g j=AE->q={BG:=g+Fz l,BH:=j+F0 l}):=by
  rintro c ⟨q,q1,q2⟩;exact⟨q,Jc q1,q2⟩
 refine Q _ ?_;unfold iz;cases y:l with
 |nil=>
  refine⟨{BG:=g,BH:=j},?_,λ_=>by simp[Fz,F0]⟩;refine Ea (v:=CG.k {BG:=g,BH:=j}) (DY.ev (Ei ?_)) (Qa _);exact Qa _
 |cons f0 r0=>
 rw[<- y];have H:l.isEmpty=false:=by rw[y];rfl
 have W:0<AI l:=by rw[y];simp
 by_cases t:d<=16
 rotate_left
 .have:IY l d g j=false:=by unfold IY;rw[H,YO t];rfl
  rw[this];refine⟨{BG:=g,BH:=j},?_,λh=>by cases h⟩;rw[dT ((0:Int)<(AI l:Int)),dT ((16:Int)<(d:Int))];exact Ea (Qa _) (Qa _)
 have N:IY l d g j=RC l d g j:=by unfold IY RC;rw[Jf t,Vz]
 rw[N];have loop:∀(r:AA Um) (i:Nat) (g j:Int),l.drop i=r->i<=AI l->0<=g->g<=66->(g<=65\/ ∀f∈l,∃c,f=Cs c)->0<=j->j<=256->
   ∃q:Uk,DY (λn=>MH n l (d:Int) (NB n)) ({BG:=g,BH:=j},(i:Int)) (bif RC r d g j then CG.k q else CG.d (q,AD))/\(RC r d g j=AE->q={BG:=g+Fz r,BH:=j+F0 r}):=by
  intro r
  induction r with
  |nil=>
   intro i g j O X _ _ _ _ _;refine⟨{BG:=g,BH:=j},Ei ?_,λ_=>by simp[Fz,F0]⟩;unfold MH;simp only[Yt O X,Vq];exact Qa _
  |cons f r T=>
   intro i g j O X g0 g1 M g2 g3;obtain⟨F,J⟩:=QG om O;have aa:fZ f<=HH l:=by
    have:∀(l:AA Um),f∈l->fZ f<=HH l:=by
     intro l
     induction l with
     |nil=>intro h;cases h
     |cons x l V=>
      intro h;rw[sH];rcases X7.1 h with rfl|h
      .omega
      .have:=V h;omega
    exact this l F.mem
   obtain⟨q,E,L⟩:=Qkb (R:=NB) t F (hw f F.mem) (λY d' g j k1 k2 k3 k4 k5 k6 G k7 k8=>V (HH Y) om Y d' g j (XT _) k2 k3 k4 k5 k6 G k7 k8) g0 g1 (M.imp id λh=>h f F.mem) g2 g3;rw[Qn0];cases B:RD f d g j with
   |false=>
    rw[B]at E;exact⟨q,Ei E,λh=>by cases h⟩
   |true=>
    rw[B]at E;obtain rfl:=L B;have hb:=by
     unfold RD at B;simp only[XW,Vr]at B;exact B.2
    obtain⟨c2,u1,u2⟩:=T (i+1) (g+fS f) (j+fC f) J (by have:=F.lt';omega) om om (.inl om) om om;refine⟨c2,Ew E u1,λh=>?_⟩;rw[u2 (by simpa using h),sG,sA];congr 1<;>omega
 obtain⟨q,E,L⟩:=loop l 0 g j rfl (XU _) h0 h1 P h2 h3;refine⟨q,?_,L⟩;refine Ea (v:=AD) ?_ (Q1 (Ea E.ev ?_))
 .rw[dT ((0:Int)<(AI l:Int)),dF ((16:Int)<(d:Int))];exact Qa _
 .cases RC l d g j<;>exact Qa _
mutual
def Rs:AR->Bool
 |⟨k,v,n,ps⟩=>bif k==1 then DG 1 3 v&&(DG 0 10000 n&&((AI ps:Int)==0))else
   bif k==4 then((v==0)&&(n==0))&&(((AI ps:Int)==1)&&G6 ps)else
   bif (k==2)||(k==3)then((v==0)&&(n==0))&&((AG (0<(AI ps:Int))&&AG ((AI ps:Int)<=16))&&G6 ps)else AD
def G6:AA AR->Bool
 |[]=>AE
 |c::r=>Rs c&&G6 r
end
theorem j?(c:AR):Rs c=bif c.AW==1 then DG 1 3 c.Bz&&(DG 0 10000 c.N&&((AI c.Ac:Int)==0))else
   bif c.AW==4 then((c.Bz==0)&&(c.N==0))&&(((AI c.Ac:Int)==1)&&G6 c.Ac)else
   bif (c.AW==2)||(c.AW==3)then((c.Bz==0)&&(c.N==0))&&((AG (0<(AI c.Ac:Int))&&AG ((AI c.Ac:Int)<=16))&&G6 c.Ac)else false:=by cases c;rfl
theorem qM:∀l:AA AR,G6 l=l.all Rs
 |[]=>rfl
 |c::r=>by rw[G6,List.all_cons,qM r]
mutual
def Z7:AY->Bool
 |⟨k,b,c,t,e⟩=>bif k==1 then DG 1 5 b&&(Cu c&&(((AI t:Int)==0)&&((AI e:Int)==0)))else
   bif k==2 then(b==0)&&(Rs c&&(AG (0<(AI t:Int))&&(Hq t&&Hq e)))else AD
def Hq:AA AY->Bool
 |[]=>AE
 |s::r=>Z7 s&&Hq r
end
theorem k?(s:AY):Z7 s=bif s.AW==1 then DG 1 5 s.By&&(Cu s.AR&&(((AI s.Ba:Int)==0)&&((AI s.Bh:Int)==0)))else
   bif s.AW==2 then(s.By==0)&&(Rs s.AR&&(AG (0<(AI s.Ba:Int))&&(Hq s.Ba&&Hq s.Bh)))else false:=by cases s;rfl
theorem qN:∀l:AA AY,Hq l=l.all Z7
 |[]=>rfl
 |c::r=>by rw[Hq,List.all_cons,qN r]
def fV:Um->Bool
 |.ctyping_step x=>Z7 x.AY
 |.ctyping_cond x=>Rs x.AR
theorem Qke(l:AA AR):(l.map Cs).any (λf=> !fV f)= !G6 l:=by
 rw[qM,List.not_all_eq_any_not,List.any_map];rfl
theorem mj(l:AA AY):(l.map DI).any (λf=> !fV f)= !Hq l:=by
 rw[qN,List.not_all_eq_any_not,List.any_map];rfl
theorem tA{R:Nat->AA Um->AB Bool}(c:AR)(j:AR.wf c)(m:Ev (λn=>R n (c.Ac.map Cs)) (!G6 c.Ac)):
  Ev (λn=>Wt (R n) n {AR:=c}) (Rs c):=by
 rw[j?];refine Ea (Eh λ_=>Qa _) (JS (λ_=>?_) (λx=>?_))
 .exact Ea (Ea (QT _ _ _) (Eh λ_=>Ea (QT _ _ _) (Eh λ_=>Qa _))) (Qa _)
 .have fin:∀b,Ev (λn=>(bif b then(KD n {AR:=c}).bind λg=>(R n g).bind λd=>AC (!d)else AC AD).bind λf=>AC f) (b&&G6 c.Ac):=by
   intro b;refine Ea ((Eh λ_=>Ea (uk c j) (Ea m (Qa _)))) ((Qa _).eq sq)
  cases t:(c.AW==4)with
  |true=>
   cases h:((c.Bz==0)&&(c.N==0))with
   |true=>
    grind
   |false=>
    simp_all
  |false=>
   cases q:((c.AW==2)||(c.AW==3))with
   |true=>
    have e:Ev (λn=>(bif (c.AW==2)then AC (c.AW==2)else AC (c.AW==3))) true:=by
     refine EA ?_
     grind
    cases h:((c.Bz==0)&&(c.N==0))with
    |true=>
     grind
    |false=>
     refine Ea (Ea e (Qa _)) ((fin _).eq sq)
   |false=>
    have e:Ev (λn=>(bif (c.AW==2)then AC (c.AW==2)else AC (c.AW==3))) false:=by
     refine EA ?_
     grind
    grind
theorem Qj2:∀(m:Nat) (l:AA Um),HH l<=m->AI l<=2097152->(∀f∈l,bR f)->Ev (λn=>KF n l) (l.any λf=> !fV f):=by
 intro m
 induction m using Nat.strongRecOn with
 |_ m G=>
 intro l W V J;refine Jc ?_;show Ev (λn=>X_ (KF n) n l) _;refine Ev.contains l _ (λn f=>W4 (KF n) n f) om λf L=>?_;have M:fZ f<=HH l:=by
  have:∀(l:AA Um),f∈l->fZ f<=HH l:=by
   intro l
   induction l with
   |nil=>simp
   |cons x l G=>
    intro h;rw[sH]
    grind
  grind
 refine Ea (v:=fV f) ?_ (Qa _);have d:∀c:AR,AR.wf c->Io c.Ac<fZ f->Ev (λn=>KF n (c.Ac.map Cs)) (!G6 c.Ac):=by
  intro c B t;rw[<- Qke];obtain⟨Q,P⟩:=Ja B;refine G (HH (c.Ac.map Cs)) (by rw[mD];omega) _ (XT _) (by simp;omega) ?_;intro g j;obtain⟨y,q,rfl⟩:=Xe.1 j;exact P y q
 cases f with
 |ctyping_cond x=>
  obtain⟨c⟩:=x;have B:AR.wf c:=J _ L;exact tA c B (d c B (by show Io c.Ac<cN c;rw[Nr];omega))
 |ctyping_step x=>
  obtain⟨s⟩:=x;have t:AY.wf s:=J _ L;obtain⟨H,⟨N,E⟩,⟨O,F⟩⟩:=Y9 t;show Ev _ (Z7 s);rw[k?];refine JS (λ_=>?_) (λT=>JS (λ_=>?_) λ_=>Qa _)
  .refine Ea (Ea (QT _ _ _) (Eh λ_=>?_)) (Qa _);simp only[s9];refine Eh λ_=>Ea (mz s t) ((Qa _).eq ?_);unfold CZ;rw[XY];simp only[Vy,XW,X3,X2];omega
  .refine Ea (Eh λ_=>?_) (Qa _);refine Ea (tA s.AR H (d s.AR H (by show _<sZ s;rw[dP,Nr];omega))) (Eh λ_=>Eh λ_=>?_);refine Ea (mz s t) (Ea (G (HH (CZ s)) ?_ _ (XT _) (by unfold CZ;simp;omega) ?_) ((Qa _).eq ?_))
   .have:HH (CZ s)<sZ s:=by
     unfold CZ;rw[t5,dr,dr,dP];omega
    have R:fZ (Um.ctyping_step {AY:=s})=sZ s:=rfl;omega
   .intro g j;rcases VC.1 j with j|j
    .obtain⟨y,q,rfl⟩:=Xe.1 j;exact E y q
    .obtain⟨y,q,rfl⟩:=Xe.1 j;exact F y q
   .unfold CZ;rw[List.any_append,mj,mj];simp
def KM(l:AA AY):Bool:=IW 0 l&&(AG (HV l<=64)&&AG (HW l<=256))
def IT(l:AA AY):Int:=bif KM l then(bif l.isEmpty|| !Hq l then 71 else 0)else 2
theorem Qn1(l:AA AY):IY (l.map DI) 0 0 0=KM l:=by
 rw[XY,ku _ _ _ _ om om, <- iJ,Zm,Zl];unfold KM
 grind
theorem QqL(l:AA AY)(t:AI l<=1048576)(j:∀x∈l,AY.wf x):Ev (λn=>WH n l) (IT l):=by
 refine Ea (mA l om) (Ea ?_ (Qa _));have h:∀f∈l.map DI,bR f:=by
  intro g q;obtain⟨y,m,rfl⟩:=Xe.1 q;exact j y m
 obtain⟨E,d,B⟩:=QoK _ (l.map DI) 0 0 0 (XT _) (by simp;omega) h om om om (.inl om) om om;rw[Qn1]at d;have p3:=d.shift;refine Ea p3 ?_;unfold IT;cases KM l with
 |false=>exact Qa _
 |true=>
  have e:((AI (l.map DI):Int)==0)=l.isEmpty:=by
   cases l<;>simp;omega
  rw[e];refine Ea (QI λ_=>Ea (Qj2 _ _ (XT _) (by simp;omega) h) (Qa _)) ?_
  grind[mj,Qa]
def D6(d:Nat):Int:=256*(18-(d:Int))+1000
theorem u7:∀(m:Nat) (c:AR) (d:Nat),cN c<=m->d<=17->AR.wf c->∃v:Int,Ev (λn=>N3 n c (d:Int)) v/\0<=v/\v<=D6 d/\
  (d<=16/\cD (d+1) c=AE/\cN c<=256->v=cN c)/\(¬(d<=16/\cD (d+1) c=AE/\cN c<=256)->256<v):=by
 intro m
 induction m using Nat.strongRecOn with
 |_ m Q=>
 intro c d hm hd hw;obtain⟨Y,N⟩:=Ja hw;have M:∀{P:Int->Prop},(∃v:Int,Ev (λn=>iy (N3 n) n c (d:Int)) v/\P v)->∃v:Int,Ev (λn=>N3 n c (d:Int)) v/\P v:=by
  rintro P ⟨v,q,f⟩;exact⟨v,Jc q,f⟩
 refine M ?_;unfold iy;by_cases E:d<=16
 .rw[dF ((16:Int)<(d:Int))];have ed:i64.wrap ((d:Int)+1)=((d+1:Nat):Int):=YT om;have loop:∀(r:AA AR) (i:Nat) (a:Int),c.Ac.drop i=r->i<=AI c.Ac->0<=a->a<=D6 d->
    ∃v:Int,DY (λn=>ME n c (d:Int) (N3 n)) (a,(i:Int)) v/\0<=v/\v<=D6 d/\
     (Mw (d+1) r=AE/\a+Io r<=256->v=a+Io r)/\(¬(Mw (d+1) r=AE/\a+Io r<=256)->256<v):=by
   intro r
   induction r with
   |nil=>
    intro i a J X G q;refine⟨a,Ei ?_,G,q,λ_=>by simp[Io],λh=>?_⟩
    .unfold ME;simp only[Yt J X,Vq,XJ];exact Qa _
    .simp[Mw,Io]at h;omega
   |cons x r O=>
    intro i a J X G q;obtain⟨j,F⟩:=QG om J;have hx:cN x<cN c:=by
     have:∀l:AA AR,x∈l->cN x<=Io l:=by
      intro l
      induction l with
      |nil=>intro h;cases h
      |cons y l Q=>
       intro h;rw[Io];rcases X7.1 h with rfl|h
       .omega
       .have:=Q h;omega
     have:=this _ j.mem;rw[Nr c];omega
    by_cases g:a<=256
    .obtain⟨v,H,V,R,t,T⟩:=Q (cN x) om x (d+1) (XT _) om (N x j.mem);have hB:D6 (d+1)+256=D6 d:=by unfold D6;omega
     have aa:D6 d<=6000:=by unfold D6;omega
     have e1:i64.wrap (a+v)=a+v:=Di;obtain⟨w,q1,q2,q3,q4,W⟩:=O (i+1) (a+v) F (by have:=j.lt';omega) om om;refine⟨w,Ew ?_ q1,q2,q3,?_,?_⟩
     .unfold ME;simp only[j.lt,Vp,Jf g,XJ,j.ix,j.nx,ed];refine Ea H ?_;rw[e1];exact Qa _
     .rintro⟨f,L⟩;simp only[Mw,XW,Vr]at f;rw[Io]at L⊢;have:=t ⟨f.1,f.2.1,om⟩;subst this;rw[q4 ⟨f.2.2,om⟩];omega
     .intro hn;by_cases B:d+1<=16/\cD (d+1+1) x=AE/\cN x<=256
      .have:=t B;subst this;refine W λf=>hn ⟨?_,?_⟩
       .simp only[Mw,XW,Vr];exact⟨B.1,B.2.1,f.1⟩
       .rw[Io];omega
      .have:=T B;exact W λf=>om
    .refine⟨a,Ei ?_,G,q,λh=>?_,λ_=>om⟩
     .unfold ME;simp only[j.lt,Vp,YO g,XJ,Vq];exact Qa _
     .omega
  obtain⟨v,H,V,R,t,T⟩:=loop c.Ac 0 1 rfl (XU _) om (by unfold D6;omega);refine⟨v,Q1 (Ea H.ev (Qa _)),V,R,?_,?_⟩
  .rintro⟨_,f,L⟩;rw[kO]at f;rw[Nr]at L⊢;rw[t ⟨f,om⟩];omega
  grind[kO,Nr]
 .rw[dT ((16:Int)<(d:Int))];refine⟨1000,RY (Qa _),om,by unfold D6;omega,λh=>absurd h.1 E,λ_=>om⟩
def Dr:Nat->Int
 |0=>10000
 |k+1=>3*Dr k
theorem ib:∀k,10000<=Dr k
 |0=>Int.le_refl _
 |k+1=>by have:=ib k;simp[Dr];omega
theorem QnP{k:Nat}(h:k<=17):Dr k<=1291401630000:=by
 have:∀j,j<=17->Dr j<=1291401630000:=by decide+kernel
 grind
def KN(d:Nat)(l:AA AY):Prop:=IW d l=AE/\HV l<=64/\HW l<=256
theorem qF:∀(m:Nat) (l:AA AY) (d:Nat),LI l<=m->d<=17->AI l<=1048576->(∀x∈l,AY.wf x)->∃a b:Int,Ev (λn=>Rp n l (d:Int)) (a,b)/\0<=a/\0<=b/\a<=Dr (17-d)/\b<=Dr (17-d)/\
  (KN d l->a=HV l/\b=HW l)/\(¬KN d l->64<a\/256<b):=by
 intro m
 induction m using Nat.strongRecOn with
 |_ m L=>
 intro l d hm hd hl hw;have ad:∀{P:Int->Int->Prop},(∃a b:Int,Ev (λn=>iw (Rp n) n l (d:Int)) (a,b)/\P a b)->∃a b:Int,Ev (λn=>Rp n l (d:Int)) (a,b)/\P a b:=by
  rintro P ⟨a,b,H,t⟩;exact⟨a,b,Jc H,t⟩
 refine ad ?_;unfold iw;by_cases B:0<AI l/\ ¬d<=16
 .rw[dT ((0:Int)<(AI l:Int)),dT ((16:Int)<(d:Int))];have:=ib (17-d);refine⟨1000,1000,Ea (Qa _) (RY (Qa _)),om,om,om,om,λh=>?_,λ_=>om⟩;exfalso;cases l with
  |nil=>simp at B
  |cons x r=>
   have:=h.1;simp only[IW,XW,Vr]at this;omega
 .have G:Ev (λn:Nat=>((bif 0<(AI l:Int) then AC (AG (16<(d:Int)))else AC AD):AB Bool)) false:=by
   grind[Qa]
  have ed:i64.wrap ((d:Int)+1)=((d+1:Nat):Int):=YT om;have loop:∀(r:AA AY) (i:Nat) (a b:Int),l.drop i=r->i<=AI l->0<=a->0<=b->a<=Dr (17-d)->b<=Dr (17-d)->
    ∃a' b':Int,DY (λn=>MF n l (d:Int) (Rp n)) (a,b,(i:Int)) (a',b')/\0<=a'/\0<=b'/\a'<=Dr (17-d)/\b'<=Dr (17-d)/\
     (IW d r=AE/\a+HV r<=64/\b+HW r<=256->a'=a+HV r/\b'=b+HW r)/\(¬(IW d r=AE/\a+HV r<=64/\b+HW r<=256)->64<a'\/256<b'):=by
   intro r
   induction r with
   |nil=>
    intro i a b hr hi G H t V;refine⟨a,b,Ei ?_,G,H,t,V,λ_=>by simp[HV,HW],λh=>?_⟩
    .unfold MF;simp only[Yt hr hi,Vq,XJ];exact Qa _
    .simp[IW,HV,HW]at h;omega
   |cons s r ab=>
    intro i a b hr hi G H t V;obtain⟨j,N⟩:=QG om hr;have al:=j.lt';have F:d<=16:=by
     omega
    have ak:sZ s<=LI l:=by
     have:∀l:AA AY,s∈l->sZ s<=LI l:=by
      intro l
      induction l with
      |nil=>intro h;cases h
      |cons y l L=>
       intro h;rw[LI];rcases X7.1 h with rfl|h
       .omega
       .have:=L h;omega
     exact this _ j.mem
    by_cases f:a<=64/\b<=256
    .obtain⟨wc,⟨Y,T⟩,⟨aa,ah⟩⟩:=Y9 (hw s j.mem);have an:=dP s;obtain⟨E,g,p1,p2,p3,p4,p5,M,p7⟩:=L (LI s.Ba) om s.Ba (d+1) (XT _) om Y T;obtain⟨y1,y2,q1,q2,q3,q4,q5,q6,q7⟩:=L (LI s.Bh) om s.Bh (d+1) (XT _) om aa ah;have hB:Dr (17-d)=3*Dr (17-(d+1)):=by
      rw[show 17-d=(17-(d+1))+1 by omega];rfl
     have O:=ib (17-(d+1));have am:=QnP (k:=17-d) om;have hc:∃z:Int,0<=z/\z<=5608/\Ev (λn=>((bif (!Cu s.AR)then(CJ l (i:Int)).bind λaf=>(N3 n af.AR 0).bind λac=>AC (i64.wrap ((i64.wrap ((i64.wrap (b+g))+y2))+ac))else AC (i64.wrap ((i64.wrap (b+g))+y2))):AB Int)) (b+g+y2+z)/\
       ((Cu s.AR||cD 1 s.AR)=AE/\(bif Cu s.AR then 0 else cN s.AR)<=256->z=((bif Cu s.AR then 0 else cN s.AR:Nat):Int))/\(¬((Cu s.AR||cD 1 s.AR)=AE/\(bif Cu s.AR then 0 else cN s.AR)<=256)->256<z):=by
      have e1:i64.wrap (b+g)=b+g:=Di;have e2:i64.wrap (b+g+y2)=b+g+y2:=Di;cases hz:Cu s.AR with
      |true=>
       refine⟨0,om,om,?_,λ_=>sq,λh=>absurd ⟨rfl,sq⟩ h⟩;simp only[Xg,Vq,e1,e2];exact(Qa _).eq om
      |false=>
       obtain⟨v,u1,u2,u3,u4,u5⟩:=u7 _ s.AR 0 (XT _) om wc;have ae:v<=5608:=by unfold D6 at u3;omega
       have e3:i64.wrap (b+g+y2+v)=b+g+y2+v:=Di;refine⟨v,u2,ae,?_,λh=>?_,λh=>?_⟩
       .simp only[Xh,Vp,j.ix,XJ,e1,e2];refine Ea u1 ?_;rw[e3];exact Qa _
       .simp only[Bool.false_or,Vq]at h⊢;exact u4 ⟨om,h.1,h.2⟩
       .simp only[Bool.false_or,Vq]at h;exact u5 λq=>h ⟨q.2.1,q.2.2⟩
     obtain⟨z,z0,z1,z2,z3,z4⟩:=hc;have e4:i64.wrap (a+1)=a+1:=Di;have e5:i64.wrap (a+1+E)=a+1+E:=Di;have e6:i64.wrap (a+1+E+y1)=a+1+E+y1:=Di;obtain⟨w1,w2,v1,v2,v3,v4,v5,v6,J⟩:=ab (i+1) (a+1+E+y1) (b+g+y2+z) N om om om om om;refine⟨w1,w2,Ew ?_ v1,v2,v3,v4,v5,?_,?_⟩
     .unfold MF;simp only[j.lt,Vp,Jf f.1,Jf f.2,XJ,j.ix,j.nx,ed,tv];refine Ea p1 (Ea q1 ?_);simp only[j.ix,XJ]at z2;refine Ea z2 ?_;rw[e4,e5,e6];exact Qa _
     .rintro⟨g1,g2,g3⟩;simp only[IW,XW,Vr,gP]at g1;obtain⟨aj,⟨ai,ag,W⟩,R⟩:=g1;rw[HV,ZS]at g2⊢;rw[HW,ZQ]at g3⊢;obtain⟨k1,k2⟩:=M ⟨ag,om,om⟩;obtain⟨k3,k4⟩:=q6 ⟨W,om,om⟩;have k5:=z3 ⟨ai,om⟩;obtain⟨k6,k7⟩:=v6 ⟨R,om,om⟩;constructor<;>omega
     .intro hn;by_cases X:KN (d+1) s.Ba
      .obtain⟨k1,k2⟩:=M X;by_cases b2:KN (d+1) s.Bh
       .obtain⟨k3,k4⟩:=q6 b2;by_cases Q:(Cu s.AR||cD 1 s.AR)=AE/\(bif Cu s.AR then 0 else cN s.AR)<=256
        .have k5:=z3 Q;refine J λq=>hn ⟨?_,?_,?_⟩
         .simp only[IW,XW,Vr,gP];exact⟨F,⟨Q.1,X.1,b2.1⟩,q.1⟩
         .rw[HV,ZS];omega
         .rw[HW,ZQ];omega
        .have:=z4 Q;exact J λq=>om
       .have:=q7 b2;exact J λq=>om
      .have:=p7 X;exact J λq=>om
    .refine⟨a,b,Ei ?_,G,H,t,V,λh=>?_,λ_=>?_⟩
     .unfold MF;have:Ev (λn:Nat=>((bif (i:Int)<(AI l:Int) then(bif a<=64 then AC (AG (b<=256))else AC AD)else AC AD):AB Bool)) false:=by
       rw[j.lt];by_cases q:a<=64
       .rw[Jf q,YO (show¬b<=256 from λz=>f ⟨q,z⟩)];exact Qa _
       .rw[YO q];exact Qa _
      exact Ea this (Q1 (Qa _))
     iterate 2 omega
  have O:=ib (17-d);obtain⟨a,b,p1,p2,p3,p4,p5,M,p7⟩:=loop l 0 0 0 rfl (XU _) om om om om;refine⟨a,b,Ea G (Q1 (Ea p1.ev (Qa _))),p2,p3,p4,p5,λh=>?_,λh=>?_⟩
  .obtain⟨k1,k2⟩:=M ⟨h.1,by have:=h.2.1;omega,by have:=h.2.2;omega⟩;constructor<;>omega
  .exact p7 λq=>h ⟨q.1,om,om⟩
mutual
def hP:CH->Nat
 |⟨_,_,ps⟩=>bif ps.isEmpty then 0 else 1+F7 ps
def F7:AA CH->Nat
 |[]=>0
 |p::r=>max (hP p) (F7 r)
end
theorem ot(p:CH):hP p=bif p.Ac.isEmpty then 0 else 1+F7 p.Ac:=by cases p;rfl
theorem qk{p:CH}:∀{l:AA CH},p∈l->hP p<=F7 l
 |q::r,h=>by
  simp[F7];rcases X7.1 h with rfl|h
  .omega
  .have:=qk h;omega
theorem rn{α:Type}(l:AA α):((AI l:Int)==0)=l.isEmpty:=by
 cases l<;>simp;omega
theorem Zo:∀l:AA CH,AI l<=Ce l
 |[]=>XT _
 |p::r=>by have:=Zo r;rw[Ce,YR,X0];omega
theorem uL:∀(m:Nat) (l:AA CH) (k:Nat),Ce l<=m->k<=17->AI l<=1048576->(∀x∈l,CH.wf x)->Ev (λn=>Rn n l (k:Int)) ((min (F7 l) k:Nat):Int):=by
 intro m
 induction m using Nat.strongRecOn with
 |_ m B=>
 intro l k N M O q;refine Jc ?_;show Ev (λn=>iu (Rn n) n l (k:Int)) _;unfold iu;have loop:∀(r:AA CH) (i:Nat) (a:Nat),l.drop i=r->i<=AI l->a<=k->DY (λn=>Kt n l (k:Int) (Rn n)) ((a:Int),(i:Int)) ((max a (min (F7 r) k):Nat):Int):=by
  intro r
  induction r with
  |nil=>
   intro i a h j d;refine Ei ?_;unfold Kt;simp only[Yt h j,Vq,XJ];refine(Qa _).eq ?_;simp[F7]
  |cons p r f=>
   intro i a h j F;obtain⟨d,g⟩:=QG om h;obtain⟨t,G⟩:=Yl (q p d.mem);by_cases E:0<k
   .have y:i64.wrap ((k:Int)-1)=((k-1:Nat):Int):=by rw[Di];omega
    have H:=Y6 d.mem;rw[YR]at H;have step:Ev (λn=>Kt n l (k:Int) (Rn n) ((a:Int),(i:Int))) (.k (((max a (min (hP p) k):Nat):Int),((i+1:Nat):Int))):=by
     unfold Kt;simp only[d.lt,Vp,dT ((0:Int)<(k:Int)),XJ,d.ix,d.nx,y,bne,rn];rw[ot];cases L:p.Ac.isEmpty with
     |true=>
      simp_all[Qa]
     |false=>
      simp only[Xh,Vp,Vq];refine Ea (Ea (B (Ce p.Ac) om p.Ac (k-1) (XT _) om t G) (Qa _)) ((Qa _).eq ?_);have J:i64.wrap (1+((min (F7 p.Ac) (k-1):Nat):Int))=((1+min (F7 p.Ac) (k-1):Nat):Int):=by rw[Di];omega
      rw[J];congr 2;split<;>omega
    refine(Ew step (f (i+1) _ g (by have:=d.lt';omega) om)).eq ?_;rw[F7];omega
   simp_all[Ei,Kt,Qa]
 refine Ea ((loop l 0 0 rfl (XU _) (XU _)).ev) ((Qa _).eq ?_);omega
theorem uK:∀(m:Nat) (l:AA CH),Ce l<=m->AI l<=1048576->(∀x∈l,CH.wf x)->Ev (λn=>KE n l) ((min (Ce l) 257:Nat):Int):=by
 intro m
 induction m using Nat.strongRecOn with
 |_ m F=>
 intro l N G B;refine Jc ?_;show Ev (λn=>W_ (KE n) n l) _;have loop:∀(r:AA CH) (i:Nat) (a:Nat),l.drop i=r->i<=AI l->a<=1048576->∃b:Nat,DY (λn=>MI n l (KE n)) ((a:Int),(i:Int)) (b:Int)/\min b 257=min (a+(Ce r-(AI r))) 257:=by
  intro r
  induction r with
  |nil=>
   intro i a j y _;refine⟨a,Ei ?_,by simp[Ce]⟩;unfold MI;simp only[Yt j y,Vq,XJ];exact Qa _
  |cons p r g=>
   intro i a j y H;obtain⟨d,h⟩:=QG om j;obtain⟨E,L⟩:=Yl (B p d.mem);have M:=Y6 d.mem;rw[YR]at M;have J:=Zo r;by_cases t:a<=256
   .obtain⟨b,f,q⟩:=g (i+1) (a+min (Ce p.Ac) 257) h (by have:=d.lt';omega) om;refine⟨b,Ew ?_ f,?_⟩
    .unfold MI;simp only[d.lt,Vp,dT ((a:Int)<=256),XJ,d.ix,d.nx];refine Ea (F (Ce p.Ac) om p.Ac (XT _) E L) ((Qa _).eq ?_);rw[Di];congr 2
     all_goals omega
    .rw[q,Ce,YR,X0];omega
   .refine⟨a,Ei ?_,om⟩;unfold MI;simp only[d.lt,Vp,dF ((a:Int)<=256),XJ,Vq];exact Qa _
 obtain⟨b,f,q⟩:=loop l 0 (AI l) rfl (XU _) G;refine Ea f.ev ((Qa _).eq ?_);have:=Zo l;omega
theorem QoJ:∀(m:Nat) (l:AA CH) (k:Nat),Ce l<=m->F7 l<=k->k<=17->Ce l<=256->(∀x∈l,CH.wf x)->Ev (λn=>KG n l (k:Int)) ((F7 l:Int),(Ce l:Int)):=by
 intro m
 induction m using Nat.strongRecOn with
 |_ m R=>
 intro l k Y X y g M;have B:=Zo l;refine Jc ?_;show Ev (λn=>P8 (KG n) n l (k:Int)) _;unfold P8;have loop:∀(r:AA CH) (i:Nat) (a b:Nat),l.drop i=r->i<=AI l->a<=17->b+(Ce r-(AI r))<=256->DY (λn=>L_ n l (k:Int) (KG n)) ((a:Int),(b:Int),(i:Int)) (((max a (F7 r):Nat):Int),((b+(Ce r-(AI r)):Nat):Int)):=by
  intro r
  induction r with
  |nil=>
   intro i a b q F _ _;refine Ei ?_;unfold L_;simp only[Yt q F,Vq,XJ]
   grind[Qa,F7,Ce]
  |cons p r t=>
   intro i a b q F N h;obtain⟨d,f⟩:=QG om q;obtain⟨W,V⟩:=Yl (M p d.mem);have O:=Y6 d.mem;have j:=qk d.mem;rw[YR]at O;have H:=Zo r;rw[Ce,YR,X0]at h;have step:Ev (λn=>L_ n l (k:Int) (KG n) ((a:Int),(b:Int),(i:Int))) (.k (((max a (hP p):Nat):Int),((b+Ce p.Ac:Nat):Int),((i+1:Nat):Int))):=by
    unfold L_;simp only[d.lt,Vp,d.ix,XJ,d.nx,rn];rw[ot]at j⊢;cases E:p.Ac.isEmpty with
    |true=>
     have G:p.Ac=[]:=by simpa using E
     simp only[Vp,XJ];rw[G];simp only[Ce,Xw,Nat.max_zero];exact Qa _
    |false=>
     rw[E]at j;simp only[Vq]at j⊢;have J:0<k:=om;have P:i64.wrap ((k:Int)-1)=((k-1:Nat):Int):=by rw[Di];omega
     have L:((k:Int)==0)=false:=beq_false_of_ne om;rw[L,dF ((256:Int)<(b:Int)),P];simp only[Vq,XJ];refine Ea (Ea (R (Ce p.Ac) om p.Ac (k-1) (XT _) om om om V) (Qa _)) ((Qa _).eq ?_);have Q:i64.wrap ((F7 p.Ac:Int)+1)=((F7 p.Ac+1:Nat):Int):=YT om;have T:i64.wrap ((b:Int)+(Ce p.Ac:Int))=((b+Ce p.Ac:Nat):Int):=by rw[Di];omega
     simp only[Q,T];congr 2;split<;>omega
   refine(Ew step (t (i+1) _ _ f (by have:=d.lt';omega) om om)).eq ?_;rw[F7,Ce,YR,X0];congr 1<;>omega
 refine Ea ((loop l 0 0 (AI l) rfl (XU _) om om).ev) ((Qa _).eq ?_)
 grind
def Dl:Nat->AA Int->AA Int->AA Int
 |0,out,_=>out
 |k+1,out,lap=>if 256<AI out then out else Dl k (out++lap) lap
mutual
def Fi:CH->AA Int
 |⟨m,laps,ps⟩=>bif 0<laps then DP [] ps else[m]
def DP:AA Int->AA CH->AA Int
 |out,[]=>out
 |out,p::r=>DP (Dl (p.As.toNat+(bif 0<p.As then 0 else 1)) out (Fi p)) r
end
theorem S0(p:CH):Fi p=bif 0<p.As then DP [] p.Ac else[p.Al]:=by cases p;rfl
theorem lj{k:Nat}{d f:AA Int}(h:256<AI d):Dl k d f=d:=by
 cases k with
 |zero=>rfl
 |succ k=>rw[Dl,Vt h]
theorem rE:∀(l:AA CH) {out:AA Int},256<AI out->DP out l=out
 |[],out,h=>by rw[DP]
 |p::r,out,h=>by rw[DP,lj h];exact rE r h
theorem lm:∀(k:Nat) (out lap:AA Int),AI (Dl k out lap)<=max (AI out) (256+AI lap)
 |0,out,lap=>by rw[Dl];omega
 |k+1,out,lap=>by
  rw[Dl];split
  .omega
  .have:=lm k (out++lap) lap
   grind
theorem r_:∀(m:Nat) (l:AA CH) (d:AA Int),Ce l<=m->AI (DP d l)<=max (AI d) (256+257*Ce l):=by
 intro m
 induction m using Nat.strongRecOn with
 |_ m x=>
 intro l;have g:∀p∈l,Ce l<=m->AI (Fi p)<=257*Rv p:=by
  intro p h B;have F:=Y6 h;rw[S0,YR]at*;cases AG (0<p.As)with
  |true=>
   have:=x (Ce p.Ac) om p.Ac [] (XT _)
   grind
  |false=>simp;omega
 have j:∀(r:AA CH) (d:AA Int),(∀p∈r,AI (Fi p)<=257*Rv p)->AI (DP d r)<=max (AI d) (256+257*Ce r):=by
  intro r
  induction r with
  |nil=>intro d _;rw[DP];omega
  |cons p r f=>
   intro d y;rw[DP,Ce];have E:=f (Dl (p.As.toNat+(bif 0<p.As then 0 else 1)) d (Fi p)) λq t=>y q (by simp[t])
   grind[lm]
 grind
theorem Qn9(p:CH):AI (Fi p)<=257*Rv p:=by
 rw[S0,YR];cases AG (0<p.As)with
 |true=>
  have:=r_ _ p.Ac [] (XT _)
  grind
 |false=>simp;omega
theorem Qmr(kk:Int):∀(m:Nat) (l:AA CH),Ce l<=m->Ce l<=256->AI l<=1048576->(∀x∈l,CH.wf x)->Cw kk l=AE->Ev (λn=>KH n l) (DP [] l):=by
 intro m
 induction m using Nat.strongRecOn with
 |_ m ih=>
 intro l hm P hl hw Y;rw[JE,Xs]at Y;refine Jc ?_;show Ev (λn=>P9 (KH n) n l) _;unfold P9;have inner:∀(p:CH) (g:AA Int) (t:p.As=0\/0<p.As/\p.As<=64) (N:AI g<=100000) (j:Nat) (k:Nat) (d:AA Int),j+k=p.As.toNat+(bif 0<p.As then 0 else 1)->AI d<=200000->
   ∃f:CG (AA Int) (CG ((AA Int)×Int) (CG (AA Int) (AA Int))),DY (λn=>L6 n p g) (d,(j:Int)) f/\
    (f=.k (Dl k d g)\/(256<AI (Dl k d g)/\f=.d (.d (.d (Dl k d g))))):=by
  intro p g t N j k
  induction k generalizing j with
  |zero=>
   intro d L _;refine⟨_,Ei (b:=.k d) ?_,.inl rfl⟩;unfold L6;have:¬((j:Int)<if p.As<1 then 1 else p.As):=by
    grind
   rw[YO this];exact Qa _
  |succ k R=>
   intro d L J;have y:((j:Int)<if p.As<1 then 1 else p.As):=by
    rcases t with h|⟨h,h'⟩
    .rw[h]at L⊢;simp at L⊢;omega
    .rw[Jf h]at L;simp at L;rw[Vs om];omega
   by_cases B:256<AI d
   .refine⟨_,Ei (b:=.d (.d (.d d))) ?_,.inr ⟨by rw[lj B];exact B,by rw[lj B]⟩⟩;unfold L6;rw[Jf y,dT ((256:Int)<(AI d:Int))];exact Qa _
   .obtain⟨f,E,G⟩:=R (j+1) (d++g) om (by rw[X3];omega);refine⟨f,Ew ?_ E,by rw[Dl,Vs B];exact G⟩;unfold L6;rw[Jf y,dF ((256:Int)<(AI d:Int))];refine RY (Q1 (YC (S6 d g om) ?_));rw[YT om];exact Qa _
 have loop:∀(r:AA CH) (i:Nat) (d:AA Int),l.drop i=r->i<=AI l->AI d<=100000->
   ∃f:CG (AA Int) (AA Int),DY (λn=>L7 n l (KH n)) (d,(i:Int)) f/\(f=.k (DP d r)\/f=.d (DP d r)):=by
  intro r
  induction r with
  |nil=>
   intro i d Q X _;refine⟨.k d,Ei ?_,.inl (by rw[DP])⟩;unfold L7;simp only[Yt Q X,Vq];exact Qa _
  |cons p r T=>
   intro i d Q X J;obtain⟨q,O⟩:=QG om Q;have y:=q.lt';have hs:=Y6 q.mem;obtain⟨w1,w2⟩:=Yl (hw p q.mem);have t:=Y p q.mem;rw[Zn]at t;have F:p.As=0\/0<p.As/\p.As<=64:=by
    cases W:(p.As==0)with
    |true=>exact .inl (by simpa using W)
    |false=>
     rw[W]at t;simp only[Vq,DG,XW,Vr]at t;exact .inr ⟨om,om⟩
   have aa:=Qn9 p;have B:Ev (λn=>((bif 0<p.As then(KH n p.Ac).bind λV=>AC V else AC [p.Al]):AB (AA Int))) (Fi p):=by
    rw[S0];refine JS (λh=>?_) (λ_=>Qa _);rw[YR]at hs;refine Ea (ih (Ce p.Ac) om p.Ac (XT _) om w1 w2 ?_) (Qa _);have:(p.As==0)=false:=by
     simp only[Vr]at h;exact beq_false_of_ne om
    rw[this]at t;simp only[Vq,XW]at t;exact t.2.2.2
   obtain⟨f,E,G⟩:=inner p (Fi p) F om 0 _ d (Xv _) om;rw[DP];rcases G with rfl|⟨H,rfl⟩
   .obtain⟨M,q1,q2⟩:=T (i+1) (Dl (p.As.toNat+(bif 0<p.As then 0 else 1)) d (Fi p)) O om (by
     have:=lm (p.As.toNat+(bif 0<p.As then 0 else 1)) d (Fi p);omega)
    refine⟨M,Ew ?_ q1,q2⟩;unfold L7;simp only[q.lt,Vp,q.ix,XJ,q.nx];exact Ea B (Ea E.ev (Qa _))
   .refine⟨.d (Dl (p.As.toNat+(bif 0<p.As then 0 else 1)) d (Fi p)),Ei ?_,.inr (by rw[rE r H])⟩;unfold L7;simp only[q.lt,Vp,q.ix,XJ,q.nx];exact Ea B (Ea E.ev (Qa _))
 obtain⟨f,E,G⟩:=loop l 0 [] rfl (XU _) sq;rcases G with rfl|rfl
 iterate 2 exact Ea E.ev (Qa _)
def Ci(c:CB)(m:Int):Int:=((c.Au[m.toNat]?).map (·.AW)).getD 0
def C5(c:CB)(a b:Int):Bool:=c.Az.any λl=>(l.BA==a)&&(l.To==b)
def Fe(c:CB)(len:Nat):Nat->Int->AA Int->Bool
 |_,_,[]=>AE
 |i,prev,m::r=>((Ci c m==1)==AG (i=0))&&(((Ci c m==3)==AG (i+1=len))&&((AG (i=0)||C5 c prev m)&&Fe c len (i+1) m r))
def Hv(c:CB)(d:AN)(r:AA Int):Bool:=
 (AG (2<=AI r)&&AG (AI r<=256))&&(Fe c (AI r) 0 0 r&&((bif 0<=d.An then !((r.count d.An:Int)==0)&&((Ci c d.An==2)&&C5 c d.An d.An)else AE)&&d.Ar.all λx=>AG (x.B9<=(r.count x.Al:Int))))
def D2(c:CB)(d:AN):Bool:=Hv c d (DP [] d.Ad)
def FQ(l:AA Int):AA (Int×Int):=l.foldl (λm k=>QL m k (Qm m k 0+1)) []
theorem Qmx(l:AA Int)(k:Int):FQ (l++[k])=QL (FQ l) k (Qm (FQ l) k 0+1):=by unfold FQ;simp
theorem lx(l:AA Int)(k:Int):Qm (FQ l) k 0=(l.count k:Int):=by
 have d:∀(l:AA Int) (m:AA (Int×Int)),Qm (l.foldl (λm k=>QL m k (Qm m k 0+1)) m) k 0=Qm m k 0+l.count k:=by
  intro l
  induction l with
  |nil=>simp
  |cons x l f=>
   grind[Y2]
 grind[FQ,Qmc]
theorem QjS(kk:Int):∀(m:Nat) (l:AA CH) (d:AA Int),Ce l<=m->Cw kk l=AE->(∀x∈d,0<=x/\x<=kk)->∀x∈DP d l,0<=x/\x<=kk:=by
 intro m
 induction m using Nat.strongRecOn with
 |_ m F=>
 intro l;have rep:∀(k:Nat) (d f:AA Int),(∀x∈d,0<=x/\x<=kk)->(∀x∈f,0<=x/\x<=kk)->∀x∈Dl k d f,0<=x/\x<=kk:=by
  intro k
  induction k with
  |zero=>intro d f H _;exact H
  |succ k J=>
   grind[Dl]
 have E:∀(r:AA CH) (d:AA Int),Ce r<=m->Cw kk r=AE->(∀x∈d,0<=x/\x<=kk)->∀x∈DP d r,0<=x/\x<=kk:=by
  intro r
  induction r with
  |nil=>intro d _ _ h;exact h
  |cons p r j=>
   intro d B t h;rw[Ce,YR]at B;rw[Cw,XW]at t;obtain⟨g,G⟩:=t;refine j _ om G (rep _ _ _ h ?_);rw[S0];rw[Zn]at g;cases q:(p.As==0)with
   |true=>
    have e0:=by simpa using q
    rw[q,Vp,XW]at g;have:=g.1;unfold DG at this;simp[XW,Vr]at this;rw[e0];intro x y;simp at y;subst y;exact this
   |false=>
    rw[q]at g;simp[Vq,XW,DG,Vr]at g;rw[dT (0<p.As),Vp];exact F (Ce p.Ac) om p.Ac [] (XT _) g.2.2.2 sq
 grind
theorem qQ{c:CB}{m:Int}(g:0<=m)(f:m<=(AI c.Au:Int)-1):∃x:Al,CJ c.Au m=AC x/\x.AW=Ci c m:=by
 obtain⟨k,rfl⟩:∃k:Nat,m=k:=⟨m.toNat,om⟩;have d:k<AI c.Au:=om
 simp_all[Qz,Ci]
theorem rm(c:CB)(a b:Int):Qm (YE DE AE c.Az) {BZ:=a,to_:=b} AD=C5 c a b:=by
 rw[uQ];by_cases h:{BZ:=a,to_:=b}∈c.Az.map DE
 .rw[Vt h];obtain⟨l,d,e⟩:=Xe.1 h;obtain⟨g,f⟩:=Ne.1 e;exact(Xt.2 ⟨l,d,by simp[g,f]⟩).symm
 .rw[Vs h]
  symm
  rw[VM];intro q;obtain⟨l,d,e⟩:=Xt.1 q;simp[XW,Vy]at e
  grind[DE]
structure L4 (c:CB):Prop where
 kinds:∀m∈c.Au,1<=m.AW/\m.AW<=3
 dist:∀d∈c.AO,-1<=d.An/\d.An<=(AI c.Au:Int)-1/\Cw ((AI c.Au:Int)-1) d.Ad=AE
theorem Qpm{c:CB}(h:Cx c=AE):L4 c:=by
 unfold Cx at h;simp[XW,Xs]at h;refine⟨λm g=>?_,λd f=>?_⟩
 .grind[DG]
 simp_all[Ib,DG]
theorem _k{c:CB}(q:L4 c){d:AN}(hd:d∈c.AO):∀x∈DP [] d.Ad,0<=x/\x<=(AI c.Au:Int)-1:=
 QjS _ _ d.Ad [] (XT _) (q.dist d hd).2.2 sq
theorem QnV(c:CB)(len i:Nat)(prev m:Int)(r:AA Int):Fe c len i prev (m::r)=(((Ci c m==1)==AG (i=0))&&(((Ci c m==3)==AG (i+1=len))&&((AG (i=0)||C5 c prev m)&&Fe c len (i+1) m r))):=rfl
theorem Qqg(i:Nat):((i:Int)==0)=AG (i=0):=by
 grind
theorem Qgn(c:CB)(r:AA Int)(L:2<=AI r)(hr:AI r<=256)(R:∀x∈r,0<=x/\x<=(AI c.Au:Int)-1):
  Ev (λn=>iter (Ko n c (YE DE AE c.Az) r) n ([],0)) (bif Fe c (AI r) 0 0 r then .k (FQ r)else .d AD):=by
 have loop:∀(t:AA Int) (i:Nat) (d:Int),r.drop i=t->i<=AI r->(0<i->At r (i-1) d)->DY (λn=>Ko n c (YE DE AE c.Az) r) (FQ (r.take i),(i:Int)) (bif Fe c (AI r) i d t then .k (FQ r)else .d AD):=by
  intro t
  induction t with
  |nil=>
   intro i d j F _;refine Ei ?_;unfold Ko;simp only[Yt j F,Vq,Fe,Vp]
   simp_all[VI,Qa]
  |cons m t W=>
   intro i d j F Q;obtain⟨f,E⟩:=QG om j;have J:=f.lt';obtain⟨N,O⟩:=R m f.mem;obtain⟨x,T,P⟩:=qQ N O;have V:i64.wrap ((AI r:Int)-1)=((AI r-1:Nat):Int):=by rw[Di];omega
   have X:((i:Int)==((AI r-1:Nat):Int))=AG (i+1=AI r):=gq;have Y:Ev (λn:Nat=>((bif ((x.AW==1) != ((i:Int)==0))then AC AE else(bif ((x.AW==3) != ((i:Int)==(i64.wrap ((AI r:Int)-1))))then AC AE else(bif 0<(i:Int) then(CJ r (i64.wrap ((i:Int)-1))).bind λq=>(AC (Qm (YE DE AE c.Az) ({BZ:=q,to_:=m:Ul}) AD)).bind λB=>AC (!B)else AC AD))):AB Bool))
     (!(((Ci c m==1)==AG (i=0))&&(((Ci c m==3)==AG (i+1=AI r))&&(AG (i=0)||C5 c d m)))):=by
    rw[P,V,X,Qqg];refine Eu (QI λ_=>QI λ_=>JS (v:= !C5 c d m) (w:=AD) (λh=>?_) λ_=>Qa _) ?_
    .have y:0<i:=by simpa using h
     have H:i64.wrap ((i:Int)-1)=((i-1:Nat):Int):=by rw[Di];omega
     rw[H,(Q y).ix];simp only[XJ,rm];exact Qa _
    grind
   have g:i64.wrap (Qm (FQ (r.take i)) m 0+1)=Qm (FQ (r.take i)) m 0+1:=by
    rw[lx];have:(r.take i).count m<=i:=by have:=List.count_le_length (a:=m) (l:=r.take i);simp at this;omega
    exact Di
   have step:Ev (λn=>Ko n c (YE DE AE c.Az) r (FQ (r.take i),(i:Int))) (bif ((Ci c m==1)==AG (i=0))&&(((Ci c m==3)==AG (i+1=AI r))&&(AG (i=0)||C5 c d m))then .k (FQ (r.take (i+1)),((i+1:Nat):Int))else .d (.d AD)):=by
    unfold Ko;simp only[f.lt,Vp,f.ix,XJ,f.nx,T];refine Ea Y ?_;rw[g, <- Qmx, <- f.take];cases(((Ci c m==1)==AG (i=0))&&(((Ci c m==3)==AG (i+1=AI r))&&(AG (i=0)||C5 c d m)))<;>exact Qa _
   have M:Fe c (AI r) i d (m::t)=((((Ci c m==1)==AG (i=0))&&(((Ci c m==3)==AG (i+1=AI r))&&(AG (i=0)||C5 c d m)))&&Fe c (AI r) (i+1) m t):=by rw[QnV];simp only[Bool.and_assoc]
   rw[M];cases G:(((Ci c m==1)==AG (i=0))&&(((Ci c m==3)==AG (i+1=AI r))&&(AG (i=0)||C5 c d m)))with
   |false=>
    rw[G]at step;exact Ei step
   |true=>
    rw[G]at step;rw[Vz];exact Ew step (W (i+1) m E om (λ_=>by simpa using f))
 exact(loop r 0 0 rfl (XU _) om).ev
theorem Qj1(c:CB)(w:C3 c)(q:L4 c)(d:AN)(g:d∈c.AO)(E:∀x∈d.Ad,CH.wf x)(J:Ce d.Ad<=256):
  Ev (λn=>Ol n c d (YE DE AE c.Az)) (D2 c d):=by
 have B:=Zo d.Ad;have y:=_k q g;have f:=r_ _ d.Ad [] (XT _);unfold Ol D2;refine Ea (Qmr _ _ d.Ad (XT _) J om E (q.dist d g).2.2) ?_;generalize DP [] d.Ad=r at y f⊢;unfold Hv;have e3:=by
  have:AI r<=1048576:=by simp at f;omega
  exact Zp this
 rw[e3];have F:(AG ((AI r:Int)-1<1)||AG (256<=(AI r:Int)-1))= !(AG (2<=AI r)&&AG (AI r<=256)):=by
  grind
 refine Ea (Eu (QI λ_=>Qa _) F) ?_;cases h:(AG (2<=AI r)&&AG (AI r<=256))with
 |false=>exact Qa _
 |true=>
  simp[XW,Vr]at h;refine Q1 (Ea (Qgn c r h.1 h.2 y) ?_);cases Fe c (AI r) 0 0 r with
  |false=>exact Qa _
  |true=>
   have M:Ev (λn=>(bif 0<=d.An then(AC (Qm (FQ r) d.An 0)).bind λj=>(bif (j==0)then AC AE else(CJ c.Au d.An).bind λm=>(bif (m.AW != 2)then AC AE else(AC (Qm (YE DE AE c.Az) ({BZ:=d.An,to_:=d.An:Ul}) AD)).bind λt=>AC (!t)))else AC AD))
     (!(bif 0<=d.An then !((r.count d.An:Int)==0)&&((Ci c d.An==2)&&C5 c d.An d.An)else AE)):=by
    rw[lx];cases H:AG (0<=d.An)with
    |false=>exact Qa _
    |true=>
     obtain⟨x,G,L⟩:=qQ (by simpa using H) (q.dist d g).2.1;simp only[XJ,G,rm,L];refine Eu (QI λ_=>QI λ_=>Qa _) ?_;rw[bne];cases((r.count d.An:Int)==0)<;>cases(Ci c d.An==2)<;>cases C5 c d.An d.An<;>rfl
   refine Ea M ?_;cases(bif 0<=d.An then !((r.count d.An:Int)==0)&&((Ci c d.An==2)&&C5 c d.An d.An)else AE)with
   |false=>exact Qa _
   |true=>
    refine Q1 (Ea ?_ (Qa _));refine Jt d.Ar _ (λn x=>OS n x (FQ r)) (by have:=w.cut d g;omega) λx _=>?_;unfold OS;rw[lx];exact Qa _
theorem Re{a b:Nat}(h:a+b<=4611686018427387904):i64.wrap ((a:Int)+(b:Int))=((a+b:Nat):Int):=by
 rw[Di];omega
def Lh(c:CB):Nat:=AI c.Au+AI c.Az+AI c.AO+AI c.A4+AI c.Ab+AI c.AV+AI c.Ay
def bT(d:AN):Prop:=AI d.Ar<=200/\Ce d.Ad<=200/\F7 d.Ad<=16
structure HD (c:CB):Prop where
 lens:Lh c<=200
 name:AI c.Ap<=100
 dist:∀d∈c.AO,bT d
 ties:AI c.BN<=200
theorem QhO(c:CB)(w:C3 c)(q:D9 c)(hl:AI c.BN<=1048576)(hw:∀x∈c.BN,AY.wf x):∃b,Ev (λn=>K7 n c) b/\(b=AE->HD c):=by
 have hm:=w.mats;have hg:=w.legs;have hd:=w.dist;have Q:=w.wave;have ho:=w.off;have hc:=w.cat;have hp:=w.prize;have loop:∀(t:AA AN) (i s:Nat),c.AO.drop i=t->i<=AI c.AO->∃f:CG Int Bool,DY (λn=>Kr n c) ((s:Int),(i:Int)) f/\(f=.d AD\/ ∃v:Nat,f=.k (v:Int)/\(v<=200->s<=v/\ ∀d∈t,bT d)):=by
  intro t
  induction t with
  |nil=>
   intro i s F O;refine⟨.k (s:Int),Ei ?_,Or.inr ⟨s,rfl,λ_=>⟨XT _,sq⟩⟩⟩;unfold Kr;simp only[Yt F O,Vq,XJ];exact Qa _
  |cons d t ih=>
   intro i s F O;obtain⟨j,J⟩:=QG om F;have R:=j.lt';by_cases hs:s<=200
   .have g:=q.len d j.mem;have y:=q.wf d j.mem;have P:=w.cut d j.mem;have L:=uK _ d.Ad (XT _) g y;have N:=uL _ d.Ad 17 (XT _) (XT _) g y;have e1:i64.wrap ((s:Int)+(AI d.Ar:Int))=((s+AI d.Ar:Nat):Int):=Re om;have Y:i64.wrap (((s+AI d.Ar:Nat):Int)+((min (Ce d.Ad) 257:Nat):Int))=((s+AI d.Ar+min (Ce d.Ad) 257:Nat):Int):=Re om;have step:Ev (λn=>Kr n c ((s:Int),(i:Int))) (bif (16:Int)<((min (F7 d.Ad) 17:Nat):Int) then .d (.d AD)else .k (((s+AI d.Ar+min (Ce d.Ad) 257:Nat):Int),((i+1:Nat):Int))):=by
     unfold Kr;simp only[j.lt,Vp,j.ix,XJ,j.nx,dT ((s:Int)<=200)];refine Ea L (Ea N ?_);rw[e1,Y];cases AG ((16:Int)<((min (F7 d.Ad) 17:Nat):Int))<;>exact Qa _
    by_cases hh:F7 d.Ad<=16
    .rw[YO (show¬(16:Int)<((min (F7 d.Ad) 17:Nat):Int)by omega)]at step;obtain⟨f,E,m⟩:=ih (i+1) (s+AI d.Ar+min (Ce d.Ad) 257) J om;refine⟨f,Ew step E,?_⟩;rcases m with m|⟨v,m,G⟩
     .exact Or.inl m
     .refine Or.inr ⟨v,m,λQ=>?_⟩;obtain⟨k4,H⟩:=G Q;refine⟨om,λx M=>?_⟩;rcases X7.1 M with rfl|M
      .exact⟨om,om,hh⟩
      .exact H x M
    .rw[Jf (show(16:Int)<((min (F7 d.Ad) 17:Nat):Int)by omega)]at step;exact⟨.d AD,Ei step,Or.inl rfl⟩
   .refine⟨.k (s:Int),Ei ?_,Or.inr ⟨s,rfl,λh=>absurd h hs⟩⟩;unfold Kr;simp only[j.lt,Vp,dF ((s:Int)<=200),XJ,Vq];exact Qa _
 obtain⟨f,E,m⟩:=loop c.AO 0 (Lh c) rfl (XU _);have e:i64.wrap ((i64.wrap ((i64.wrap ((i64.wrap ((i64.wrap ((i64.wrap ((AI c.Au:Int)+(AI c.Az:Int)))+(AI c.AO:Int)))+(AI c.A4:Int)))+(AI c.Ab:Int)))+(AI c.AV:Int)))+(AI c.Ay:Int))=(Lh c:Int):=by
  have W:AI c.Au+AI c.Az<=4611686018427387904:=om;have T:AI c.Au+AI c.Az+AI c.AO<=4611686018427387904:=om;have h3:AI c.Au+AI c.Az+AI c.AO+AI c.A4<=4611686018427387904:=om;have V:AI c.Au+AI c.Az+AI c.AO+AI c.A4+AI c.Ab<=4611686018427387904:=om;have X:AI c.Au+AI c.Az+AI c.AO+AI c.A4+AI c.Ab+AI c.AV<=4611686018427387904:=om;have h6:AI c.Au+AI c.Az+AI c.AO+AI c.A4+AI c.Ab+AI c.AV+AI c.Ay<=4611686018427387904:=om;rw[Re W,Re T,Re h3,Re V,Re X,Re h6];rfl
 unfold K7;rw[e];rcases m with rfl|⟨v,rfl,G⟩
 .exact⟨AD,Ea E.ev (Qa _),λh=>by cases h⟩
 .obtain⟨a,b,L,N,p3,_,_,_,_⟩:=qF _ c.BN 0 (XT _) om hl hw;have B:Ev (λn=>Oo n c.BN) (AG ((AI c.BN:Int)<=20)&&(AG (a<=80)&&AG (b<=300))):=by
   unfold Oo;exact Ea L (Ea (Eh λ_=>Eh λ_=>Qa _) (Qa _))
  refine⟨AG ((v:Int)<=200)&&(AG ((AI c.Ap:Int)<=100)&&(AG ((AI c.BN:Int)<=20)&&(AG (a<=80)&&AG (b<=300)))),Ea E.ev (Ea (Eh λ_=>Eh λ_=>Ea B (Qa _)) (Qa _)),λh=>?_⟩;simp only[XW,Vr]at h;obtain⟨k4,H⟩:=G om;exact⟨om,om,H,om⟩
def Fw(c:CB):Bool:=
 !(AG (40<(AI c.Au:Int))||(AG (512<(AI c.Az:Int))||(AG (8<(AI c.AO:Int))||(AG (32<(AI c.A4:Int))||(AG (32<(AI c.Ab:Int))||(AG (32<(AI c.AV:Int))||AG (32<(AI c.Ay:Int))))))))
  &&c.AO.all λd=> !decide (64<(AI d.Ar:Int))
theorem QqG(c:CB)(w:C3 c)(q:D9 c)(k:HD c):Ev (λn=>O7 n c) (Fw c):=by
 unfold O7 Fw;refine Ea (QI λ_=>QI λ_=>QI λ_=>QI λ_=>QI λ_=>QI λ_=>Qa _) ?_;cases(AG (40<(AI c.Au:Int))||(AG (512<(AI c.Az:Int))||(AG (8<(AI c.AO:Int))||(AG (32<(AI c.A4:Int))||(AG (32<(AI c.Ab:Int))||(AG (32<(AI c.AV:Int))||AG (32<(AI c.Ay:Int))))))))with
 |true=>exact Qa _
 |false=>
  refine Q1 (Ea (sR c.AO (λd=> !decide (64<(AI d.Ar:Int))) (CG.d AD) (CG.k ()) (by have:=w.dist;omega) (λi x f=>?_) ?_) ?_)
  .obtain⟨h,g,j⟩:=k.dist x f.mem;unfold VZ;simp only[f.lt,f.ix,XJ,f.nx];refine Ea (QoJ _ x.Ad 17 (XT _) om (XT _) om (q.wf x f.mem)) ?_
   grind[Qa]
  .simp_all[VZ,Qa]
  .cases(c.AO.all λd=> !decide (64<(AI d.Ar:Int)))<;>exact Qa _
def CN(c:CB):Int:=
 bif Fw c then bif Hx c then bif Cx c then bif IT c.BN==0 then bif c.AO.all (D2 c)then 0 else 72 else IT c.BN else 71 else 70 else 2
theorem Qmu(c:CB)(w:C3 c)(q:D9 c)(k:HD c)(j:AI c.BN<=1048576)(g:∀x∈c.BN,AY.wf x):Ev (λn=>F_ n c) (CN c):=by
 unfold F_ CN;refine Ea (QqG c w q k) ?_;cases Fw c with
 |false=>exact Qa _
 |true=>
 refine Q1 (Ea (QoD c w) ?_);cases Hx c with
 |false=>exact Qa _
 |true=>
 refine Q1 (Ea (Qj0 c w q) ?_);cases t:Cx c with
 |false=>exact Qa _
 |true=>
 refine Q1 (Ea (QqL c.BN j g) ?_);rw[bne];cases(IT c.BN==0)with
 |false=>exact Qa _
 |true=>
 have h:Ev (λn=>iter (OK n c) n ([],0)) (YE DE AE c.Az):=by
  refine mw c.Az DE AE (by have:=w.legs;omega) (λi x m d=>?_) (λm=>?_)
  .unfold OK;simp only[d.lt,d.ix,d.nx];exact Qa _
  simp_all[OK,Qa]
 refine Q1 (Ea h ?_);have d:Ev (λn=>WI n c.AO c (YE DE AE c.Az)) (c.AO.all (D2 c)):=by
  refine Jt c.AO _ (λn x=>WJ n x c (YE DE AE c.Az)) (by have:=w.dist;omega) λx f=>?_;exact Ea (Qj1 c w (Qpm t) x f (q.wf x f) (by have:=(k.dist x f).2.1;omega)) (Qa _)
 refine Ea d ?_
 grind[Qa]
theorem qa{α:Type}(l:AA α){a b:Nat}(h:a<=b)(d:b<=AI l):Dj l (a:Int) (b:Int)=AC ((l.take b).drop a):=by
 grind[Dj]
theorem pa{α:Type}(l:AA α){b:Nat}(d:b<=AI l):Dj l 0 (b:Int)=AC (l.take b):=by
 have:=qa l (XU b) d
 grind
theorem QnO{α:Type}(l:AA α){a:Nat}(d:a<=AI l):Dj l (a:Int) (AI l:Int)=AC (l.drop a):=by
 simp_all[qa]
theorem py{α:Type}(l m:AA α)(h:AI l+AI m<=4294967296):app l m=AC (l++m):=by
 unfold app;rw[XS (by exact h)];rfl
theorem rJ{α:Type}(l:AA α){i:Nat}(x:α)(h:i<AI l):JK l (i:Int) x=AC (l.set i x):=by
 grind[JK]
def Dc{α:Type}(q:α->Bool):AA α->Nat->Int
 |[],_=> -1
 |x::l,i=>bif q x then(i:Int)else Dc q l (i+1)
theorem Ev.first{α:Type}{step:Nat->Int->AB (CG Int (CG Unit Int))}(l:AA α)(q:α->Bool)(t:AI l<=4611686018427387904)
  (E:∀i x,At l i x->Ev (λn=>step n (i:Int)) (bif q x then .d (.d (i:Int))else .k ((i+1:Nat):Int)))(g:Ev (λn=>step n (AI l:Int)) (.d (.k ()))):
  Ev (λn=>(Go.Sw.iter (step n) n 0).bind λb=>match b with|.k _=>AC (-1)|.d v=>AC v) (Dc q l 0):=by
 have loop:∀(r:AA α) (i:Nat),l.drop i=r->i<=AI l->∃d:CG Unit Int,DY step i d/\(match d with|.k _=>AC (-1)|.d v=>AC v)=AC (Dc q r i):=by
  intro r
  induction r with
  |nil=>
   intro i f F;have:i=AI l:=by have:=Xq.1 f;omega
   subst this;exact⟨.k (),Ei g,rfl⟩
  |cons x r G=>
   intro i f F;obtain⟨m,y⟩:=QG t f;have s:=E i x m;unfold Dc;cases h:q x with
   |true=>
    rw[h]at s;exact⟨_,Ei s,rfl⟩
   |false=>
    grind[DY.cont]
 obtain⟨d,j,B⟩:=loop l 0 rfl (XU _);exact Ea j.ev (EA B)
theorem eG{α:Type}(q:α->Bool):∀(l:AA α) (i:Nat),(Dc q l i= -1/\l.all (λx=> !q x)=AE)\/ ∃j x,Dc q l i=((i+j:Nat):Int)/\l[j]?=AC x/\q x=AE/\(l.take j).all (λx=> !q x)=AE
 |[],_=>.inl ⟨rfl,rfl⟩
 |x::l,i=>by
  unfold Dc;cases h:q x with
  |true=>exact .inr ⟨0,x,rfl,rfl,h,rfl⟩
  |false=>
   rcases eG q l (i+1)with⟨h1,h2⟩|⟨j,y,h1,h2,h3,h4⟩
   .grind
   .refine .inr ⟨j+1,y,gq,h2,h3,by simp[h,h4]⟩
theorem t7{α:Type}{p:α->Bool}{l:AA α}(h:l.all p=AE):l.filter p=l:=(by simp_all)
theorem Qm3{α:Type}{first:Nat->AB Int}{step:Nat->AA α×Int×Int->AB (CG (AA α×Int×Int) (AA α×Int))}(d:AA α)(q:α->Bool)(hl:AI d<=1048576)
  (hf:Ev first (Dc q d 0))
  (hs:∀(l:AA α) (i j:Nat) x y,AI l<=1048576->At l j x->l[i]?=AC y->x∈d->i<=j->Ev (λn=>step n (l,(i:Int),(j:Int))) (.k (bif q x then l else l.set i x,(bif q x then(i:Int)else((i+1:Nat):Int)),((j+1:Nat):Int))))
  (Y:∀(l:AA α) (i:Int),Ev (λn=>step n (l,i,(AI l:Int))) (.d (l,i))):
  Ev (λn=>(first n).bind λr1=>bif r1== -1 then AC d else(Go.Sw.iter (step n) n (d,r1,i64.wrap (r1+1))).bind λb=>(Dj b.1 0 b.2).bind λx=>AC x) (d.filter λx=> !q x):=by
 refine Ea hf ?_;rcases eG q d 0 with⟨P,O⟩|⟨M,X,P,O,h3,h4⟩
 .rw[P,t7 O];exact Qa _
 .have ab:=(XL.1 O).1;rw[Xv]at P;rw[P];have e0:((M:Int)== -1)=false:=sq;rw[e0,YT om];have loop:∀(r l:AA α) (i j:Nat),d.drop j=r->j<=AI d->i<j->AI l=AI d->l.drop j=d.drop j->l.take i=(d.take j).filter (λx=> !q x)->∃t:AA α,∃B:Nat,DY step (l,i,j) (t,B)/\B<=AI t/\t.take B=d.filter λx=> !q x:=by
   intro r
   induction r with
   |nil=>
    intro l i j Q hj T f J g;have:j=AI l:=by have:=Xq.1 Q;omega
    subst this;refine⟨l,i,Ei (Y l _),om,?_⟩;rw[g,f,Va]
   |cons x r W=>
    intro l i j Q hj T f J g;have R:l.drop j=x::r:=by rw[J,Q]
    obtain⟨V,G⟩:=QG om R;obtain⟨E,m⟩:=QG om Q;have aa:=V.lt';have s:=hs l i j x l[i] om V (XK om) E.mem om;cases h:q x with
    |true=>
     rw[h]at s;obtain⟨t,B,F,L,H⟩:=W l i (j+1) m om om f (by rw[G,m]) (by rw[E.take,List.filter_append,g];simp[h]);exact⟨t,B,Ew s F,L,H⟩
    |false=>
     rw[h]at s;obtain⟨t,B,F,L,H⟩:=W (l.set i x) (i+1) (j+1) m om om (by simpa using f) (by rw[List.drop_set_of_lt om,G,m])
      (by
       rw[E.take,List.filter_append, <- g];have:i<AI (l.set i x):=by simp;omega
       rw[List.take_add_one,XK this];simp[h,List.take_set_of_le])
     exact⟨t,B,Ew s F,L,H⟩
  have N:d.take (M+1)=d.take M++[X]:=by rw[List.take_add_one,O];rfl
  obtain⟨t,B,F,L,H⟩:=loop _ d M (M+1) rfl om om rfl rfl (by rw[N,List.filter_append,t7 h4];simp[h3]);refine Q1 (Ea F.ev ?_);rw[<- H];exact EA (by simp[pa t L])
theorem m4{ι α:Type}{F:Nat->ι->AB α}{V:ι->α}:∀(L:AA ι),(∀p∈L,Ev (λn=>F n p) (V p))->∃N,∀n,N<=n->∀p∈L,F n p=AC (V p)
 |[],_=>sq
 |x::L,h=>by
  obtain⟨N,hN⟩:=m4 L λp hp=>h p (by simp[hp]);obtain⟨M,hM⟩:=h x sq;refine⟨N+M,λn hn p hp=>?_⟩
  grind
theorem Ev.anyP{E R:Type}[DecidableEq R]{k:Nat->AA E->AB R}{l:AA E}{r:R}(h:∀p,p.Perm l->Ev (λn=>k n p) r):Ev (λn=>Go.Sw.anyP (k n) l) r:=by
 obtain⟨N,g⟩:=m4 (LQ l) λp d=>h p (ic l p d);exact⟨N,λn f=>QqW λp d=>g n f p (md l p d)⟩
theorem Ev.isNil{α R:Type}[DecidableEq R]{l:AA α}{x y:Nat->AB R}{v:R}(f:l=[]->Ev x v)(d:Ev y v):Ev (λn=>Go.Sw.isNil l (x n) (y n)) v:=by
 unfold Go.Sw.isNil;cases q:l.isEmpty with
 |false=>exact d
 |true=>
  obtain⟨N,h⟩:=f (List.isEmpty_iff.1 q);obtain⟨M,g⟩:=d;exact⟨N+M,λn j=>gq⟩
set_option maxRecDepth 4000
def C2(a b:Int):Int:=bif a<b then-1 else bif b<a then 1 else 0
theorem qD(n:Nat)(a b:Int):Kn n a b=AC (C2 a b):=by
 unfold Kn PJ C2
 grind
def IK:AA Int->Int
 |[]=>0
 |x::r=>bif x != 0 then x else IK r
theorem oo(l:AA Int)(t:AI l<=1000):Ev (λn=>J6 n l) (IK l):=by
 have loop:∀(r:AA Int) (i:Nat),l.drop i=r->i<=AI l->DY (λn=>IB n l) i (bif IK r==0 then CG.k ()else CG.d (IK r)):=by
  intro r
  induction r with
  |nil=>
   intro i g h;refine Ei ?_;unfold IB;simp only[Yt g h];exact Qa _
  |cons x r m=>
   intro i g h;obtain⟨d,f⟩:=QG om g;have j:=d.lt';unfold IK;cases q:(x != 0)with
   |true=>
    have e:(x==0)=false:=gq;simp[Vp,e];refine Ei ?_;unfold IB;simp only[d.lt,d.ix,XJ,q];exact Qa _
   |false=>
    refine Ew ?_ (m (i+1) f om);unfold IB;simp only[d.lt,d.ix,XJ,q,d.nx];exact Qa _
 refine Ea (loop l 0 rfl (XU _)).ev ?_
 grind[Qa]
theorem lh{β:Type}(m:AA (Int×β))(k:Int):JM m k=(Jo m k).isSome:=by
 unfold JM Jo
 grind
theorem Qqt{n:Nat}(h:n<=1048576):Nat.ble n YF=true:=XS (XV h (by decide))
theorem gB{a b:Int}:C2 a b=0↔a=b:=by
 grind[C2]
set_option maxRecDepth 4000
structure DU {α:Type} (c:α->α->Int):Prop where
 swap:∀x y,c y x= -c x y
 trans:∀x y z,c x y<0->c y z<0->c x z<0
 eqt:∀x y z,c x y=0->c x z=c y z
section
variable {α:Type} {c d:α->α->Int}
theorem DU.refl(h:DU c)(x:α):c x x=0:=by have:=h.swap x x;omega
theorem DU.eqr(h:DU c){x y:α}(z:α)(e:c x y=0):c z x=c z y:=by
 rw[h.swap x z,h.swap y z,h.eqt x y z e]
theorem DU.lex(h:DU c)(k:DU d):DU λx y=>bif c x y != 0 then c x y else d x y:=by
 refine⟨λx y=>?_,λx y z=>?_,λx y z=>?_⟩
 .have e:=h.swap x y;by_cases q:c x y=0
  .have f:c y x=0:=by omega
   rw[q,f];exact k.swap x y
  grind
 .by_cases q:c x y=0
  .have e:=h.eqt x y z q;rw[q,e];by_cases f:c y z=0
   .rw[f];exact k.trans x y z
   grind
  .rw[bne_iff_ne.2 q];by_cases f:c y z=0
   .have e:=h.eqr x f
    grind
   .rw[bne_iff_ne.2 f];intro a b;have:=h.trans x y z a b
    grind
 .by_cases q:c x y=0
  .rw[q,h.eqt x y z q];intro e;rw[k.eqt x y z e]
  grind
theorem DU.on{β:Type}(h:DU c)(f:β->α):DU λx y=>c (f x) (f y):=
 ⟨λx y=>h.swap _ _,λx y z=>h.trans _ _ _,λx y z=>h.eqt _ _ _⟩
end
theorem F8:DU C2:=by
 have e:∀a b,C2 a b=if a<b then-1 else if b<a then 1 else 0:=by
  intro a b;unfold C2
  grind
 refine⟨λx y=>?_,λx y z=>?_,λx y z=>?_⟩
 iterate 3 grind
theorem Y1{c:CB}(h:CB.wf c):C3 c:=by
 obtain⟨y,⟨q,j⟩,⟨G,L⟩,⟨t,f⟩,⟨E,H⟩,⟨g,B⟩,⟨F,J⟩,⟨m,M⟩,_⟩:=h;exact⟨y,q,λx d=>(j x d).1,G,t,λx d=>(f x d).1,λx d=>(f x d).2.2.2.1.1,E,λx d=>(H x d).1,g,λx d=>(B x d).1,F,λx d=>(J x d).1,m⟩
theorem JA{c:CB}(h:CB.wf c):D9 c:=by
 obtain⟨_,_,_,⟨j,g⟩,_⟩:=h;exact⟨λd f=>(g d f).2.1.1,λd f=>(g d f).2.1.2⟩
theorem k9{c:CB}(h:CB.wf c):AI c.BN<=1048576/\ ∀x∈c.BN,AY.wf x:=by
 obtain⟨_,_,_,_,_,_,_,_,d,_⟩:=h;exact d
theorem uj(p:Nat->Bool):∀k,(∀i,i<k->p i=AE)\/ ∃j,j<k/\p j=AD/\ ∀i,i<j->p i=AE
 |0=>sq
 |k+1=>by
  rcases uj p k with h|⟨j,h1,h2,h3⟩
  .grind
  grind
theorem gC{p:Nat->Bool}{k:Nat}:(List.range k).all p=AE↔ ∀i,i<k->p i=true:=sq
theorem dc{B:Type}{step:Nat->Int->AB (CG Int B)}(k:Nat)(p:Nat->Bool)(t b:B)
  (g:∀i,i<k->Ev (λn=>step n (i:Int)) (bif p i then .k ((i+1:Nat):Int)else .d t))(x:Ev (λn=>step n (k:Int)) (.d b)):
  Ev (λn=>Go.Sw.iter (step n) n 0) (bif (List.range k).all p then b else t):=by
 rcases uj p k with h|⟨j,m,f,y⟩
 .rw[gC.2 h];exact Ev.iter (λi=>(i:Int)) k rfl (λi d=>(g i d).eq (by rw[h i d];rfl)) x
 .have:(List.range k).all p=false:=by
   rw[VM];intro q;rw[gC.1 q j m]at f;cases f
  rw[this];exact Ev.iter (λi=>(i:Int)) j rfl (λi d=>(g i om).eq (by rw[y i d];rfl)) ((g j m).eq (by rw[f];rfl))
theorem oW{α:Type}{l:AA α}{i:Nat}(hl:AI l<=1048576)(hi:i<AI l):At l i l[i]:=Y5 om sq
theorem Sq{n:Nat}(h:n<=1048576):i64.wrap ((n:Int)+1)=((n+1:Nat):Int):=YT om
def LZ(x y:CD):Bool:=AG (x.Al<y.Al)||((x.Al==y.Al)&&AG (x.Ah<y.Ah))
def I0(x y:CD):Int:=IK [C2 x.Al y.Al,C2 x.Ah y.Ah]
theorem Qmz(x y:CD):AG (0<=I0 x y)= !LZ x y:=by
 grind[I0,LZ,IK,C2]
theorem St(a b:Int):Ev (λn=>Kn n a b) (C2 a b):=Ev.congr (Qa _) λn=>qD n a b
theorem Qjb(x y:CD):Ev (λn=>Mc n x y) (I0 x y):=by
 unfold Mc Ws;exact Ea (Ea (St _ _) (Ea (St _ _) (Ea (oo _ sq) (Qa _)))) (Qa _)
def FG(x:Int):Bool:=DG (-1099511627776) 1099511627776 x
theorem d6(x:Int):Ev (λn=>IG n x) (FG x):=by
 simp_all[IG,FG,DG,Eh,Qa]
def KJ(c:CE)(i:Nat)(x:CD):Bool:=AG (0<(i:Int))&& !(match c.AS[i-1]? with|some y=>LZ y x|none=>AE)
def Hu(c:CE)(i:Nat)(x:CD):Bool:=AG (x.Al<0)||(AG (40<=x.Al)||(AG (x.Ah<0)||(AG (255<x.Ah)||(!FG x.BI||KJ c i x))))
def IV(c:CE):Bool:=(List.range (AI c.AS)).all λi=>match c.AS[i]? with|some x=> !Hu c i x|none=>AE
theorem Qof{α:Type}{l:AA α}{i:Nat}{y:α}(f:AI l<=1048576)(hi:0<i)(d:i<=AI l)(h:l[i-1]?=AC y):CJ l (i64.wrap ((i:Int)-1))=AC y:=by
 grind[QJ,Qz]
theorem QqC(c:CE)(m:AI c.AS<=1048576):Ev (λn=>iter (OH n c) n 0) (bif IV c then CG.k ()else CG.d 160):=by
 unfold IV;refine dc (AI c.AS) _ _ _ (λi x=>?_) ?_
 .have d:=oW m x;unfold OH;simp only[d.lt,Vp,d.ix,XJ,d.nx,d.get];have:Ev (λn=>((bif (c.AS[i]).Al<0 then AC AE else(bif 40<=(c.AS[i]).Al then AC AE else(bif (c.AS[i]).Ah<0 then AC AE else(bif 255<(c.AS[i]).Ah then AC AE else(IG n (c.AS[i]).BI).bind λf=>(bif (!f)then AC AE else(bif 0<(i:Int) then(CJ c.AS (i64.wrap ((i:Int)-1))).bind λg=>(Mc n g (c.AS[i])).bind λj=>AC (AG (0<=j))else AC AD)))))):AB Bool)) (Hu c i (c.AS[i])):=by
   unfold Hu;refine QI λ_=>QI λ_=>QI λ_=>QI λ_=>Ea (d6 _) (QI λ_=>?_);unfold KJ;refine Eh λh=>?_;have t:0<i:=gq;have q:i-1<AI c.AS:=om;rw[Qof m t om (XK q),XK q];simp only[XJ];exact Ea (Qjb _ _) ((Qa _).eq (Qmz _ _))
  refine Ea this ?_
  grind[Qa]
 simp_all[OH,Qa]
def Hz(x:Int):Bool:=AG (x< -2199023255552)||AG (2199023255552<x)
theorem Qmq(l:AA Int)(d:AI l<=1048576):Ev (λn=>MZ n l) (l.any Hz):=by
 unfold MZ WA;refine Ev.contains l Hz (λn x=>Og n x) om λx _=>?_
 simp_all[Og,Hz,QI,Qa]
def Lb(c:CE)(i:Nat)(r:AA Int):Bool:= !(((AI r:Int) != ((AI c.AS+1:Nat):Int))||((r[i]?.getD 1 != 0)||r.any Hz))
def IX(c:CE):Bool:=(List.range (AI c.BQ)).all λi=>match c.BQ[i]? with|some r=>Lb c i r|none=>AE
theorem QqD(c:CE)(t:AI c.AS<=1048576)(q:AI c.BQ<=1048576)(B:∀r∈c.BQ,AI r<=1048576)(y:AI c.BQ=AI c.AS+1):
  Ev (λn=>iter (N5 n c) n 0) (bif IX c then CG.k ()else CG.d 160):=by
 unfold IX;refine dc (AI c.BQ) _ _ _ (λi x=>?_) ?_
 .have g:=oW q x;unfold N5;simp only[g.lt,Vp,g.ix,XJ,g.nx,g.get,Sq t];have:Ev (λn=>((bif ((AI (c.BQ[i]):Int) != ((AI c.AS+1:Nat):Int))then AC AE else(CJ (c.BQ[i]) (i:Int)).bind λf=>(bif (f != 0)then AC AE else(MZ n (c.BQ[i])).bind λd=>AC d)):AB Bool)) (!Lb c i (c.BQ[i])):=by
   unfold Lb;rw[Bool.not_not];refine QI λh=>?_;have j:AI (c.BQ[i])=AI c.AS+1:=by
    grind
   have m:i<AI (c.BQ[i]):=om
   simp_all[Qz,QI,Qmq]
  refine Ea this ?_;cases Lb c i (c.BQ[i])<;>exact Qa _
 simp_all[N5,Qa]
def D5(c:CE)(i j:Nat):Int:=((c.BQ[i]?.getD [])[j]?).getD 0
structure LF (c:CE):Prop where
 segs:AI c.AS<=511
 far:AI c.BQ=AI c.AS+1
 row:∀i,i<AI c.BQ->AI (c.BQ[i]?.getD [])=AI c.AS+1
theorem LF.get{c:CE}(d:LF c){i j:Nat}(hi:i<AI c.AS+1)(g:j<AI c.AS+1):c.BQ[i]?=AC (c.BQ[i]?.getD [])/\(c.BQ[i]?.getD [])[j]?=AC (D5 c i j):=by
 have f:i<AI c.BQ:=by rw[d.far];exact hi
 have h:=d.row i f
 simp_all[D5]
def NK(c:CE):Bool:=(List.range (AI c.AS+1)).all λi=>(List.range (AI c.AS+1)).all λj=>(List.range (AI c.AS+1)).all λk=> !decide (i64.wrap (D5 c i j+D5 c j k)<D5 c i k)
theorem jO{a b:Nat}(h:a<b):AG ((a:Int)<(b:Int))=true:=gq
theorem j_{a b:Nat}(h:b<=a):AG ((a:Int)<(b:Int))=false:=gq
theorem _j(c:CE)(d:LF c):Ev (λn=>iter (N6 n c) n 0) (bif NK c then CG.k ()else CG.d 160):=by
 have F:=d.segs;unfold NK;refine dc (AI c.AS+1) _ _ _ (λi m=>?_) ?_
 .unfold N6;have g:=(d.get m m).1;have t:=d.row i gq;simp only[Sq (show AI c.AS<=1048576 by omega),jO m,Vp,Qz g,XJ,Sq (show i<=1048576 by omega)];refine Ea (dc (AI c.AS+1) (λj=>(List.range (AI c.AS+1)).all λk=> !decide (i64.wrap (D5 c i j+D5 c j k)<D5 c i k)) (CG.d (CG.d (CG.d 160))) (CG.k ()) (λj f=>?_) ?_) ?_
  .unfold TO;have B:=(d.get m f).2;have y:=(d.get f f).1;have h:=d.row j gq;simp only[t,jO f,Vp,Qz B,Qz y,XJ,Sq (show j<=1048576 by omega)];refine Ea (dc (AI c.AS+1) (λk=> !decide (i64.wrap (D5 c i j+D5 c j k)<D5 c i k)) (CG.d (CG.d (CG.d (CG.d (CG.d 160))))) (CG.k ()) (λk q=>?_) ?_) ?_
   .unfold VT;have E:=(d.get f q).2;have x:=(d.get m q).2;simp only[h,jO q,Vp,Qz E,Qz g,Qz x,XJ,Sq (show k<=1048576 by omega)]
    grind[Qa]
   .unfold VT;simp only[h,j_ (XT _),Vq];exact Qa _
   grind[Qa]
  .unfold TO;simp only[t,j_ (XT _),Vq];exact Qa _
  grind[Qa]
 .unfold N6;simp only[Sq (show AI c.AS<=1048576 by omega),j_ (XT _),Vq];exact Qa _
def F2(c:CE):Bool:= !(AG (511<(AI c.AS:Int))||((AI c.BQ:Int) != ((AI c.AS+1:Nat):Int)))&&(IV c&&(IX c&&NK c))
structure Fq (c:CE):Prop where
 segs:AI c.AS<=1048576
 far:AI c.BQ<=1048576
 row:∀r∈c.BQ,AI r<=1048576
theorem qA{c:CE}(h:¬511<(AI c.AS:Int))(g:AI c.BQ=AI c.AS+1)(f:IX c=AE):LF c:=by
 refine⟨om,g,λi d=>?_⟩;have:=gC.1 f i d
 grind[Lb]
theorem pS(c:CE)(w:Fq c):Ev (λn=>JY n c) (bif F2 c then 0 else 160):=by
 unfold JY F2;simp only[Sq w.segs];refine Ea (QI λ_=>Qa _) ?_;cases f:(AG (511<(AI c.AS:Int))||((AI c.BQ:Int) != ((AI c.AS+1:Nat):Int)))with
 |true=>exact Qa _
 |false=>
  simp only[Xh,Vz,XX,decide_eq_false_iff_not]at f⊢;have d:AI c.BQ=AI c.AS+1:=by
   grind
  refine Q1 (Ea (QqC c w.segs) ?_);cases IV c with
  |false=>exact Qa _
  |true=>
   refine Ea (QqD c w.segs w.far w.row d) ?_;cases g:IX c with
   |false=>exact Qa _
   |true=>
    refine Ea (_j c (qA f.1 d g)) ?_;cases NK c<;>exact Qa _
theorem QmB{c:CE}(h:F2 c=AE):LF c:=by
 simp only[F2,XW,Bool.not_eq_true',XX,decide_eq_false_iff_not]at h
 grind[qA]
set_option maxRecDepth 10000
structure Fc (c:CB):Prop where
 mats:AI c.Au<=40
 res:0<=c.AQ.Am/\c.AQ.Am<=4294967296
 drift:0<=c.AQ.BF/\c.AQ.BF<=100000
def Dm(x k:Int):Int:=Int.tdiv ((if x<0-x then 0-x else x)*k+1000000-1) 1000000
theorem lz{x k:Int}(m: -2199023255552<=x/\x<=2199023255552)(d:0<=k/\k<=100000):0<=Dm x k/\Dm x k<=274877906944/\0<=(if x<0-x then 0-x else x)*k/\(if x<0-x then 0-x else x)*k<=219902325555200000:=by
 generalize ha:(if x<0-x then 0-x else x)=a;have g:0<=a:=om;have f:a<=2199023255552:=om;have j:0<=a*k:=Int.mul_nonneg g d.1;have h:a*k<=2199023255552*100000:=Int.le_trans (Int.mul_le_mul_of_nonneg_right f d.1) om
 grind[Dm]
theorem QoI{x k:Int}(f: -2199023255552<=x/\x<=2199023255552)(d:0<=k/\k<=100000):Ev (λn=>PR n x k) (Dm x k,0):=by
 obtain⟨j,y,h,q⟩:=lz f d;unfold PR;refine Ea (v:=AD) ?_ ?_
 .grind[Qa]
 .have B:i64.wrap (0-x)=0-x:=Di;have m:=QJ (n:=(if x<0-x then 0-x else x)*k) om om;have E:=QJ (n:=(if x<0-x then 0-x else x)*k+1000000) om om;have t:=QJ (n:=(if x<0-x then 0-x else x)*k+1000000-1) om om;have g:=QJ (n:=Dm x k) om om
  simp_all[Dm,Qa]
def F1(c:CB)(k:Int)(s:CD)(loc:Int):CK:=
 bif k != 1 then⟨0-Dm (loc-s.BI) c.AQ.BF,c.AQ.Am+Dm (loc-s.BI) c.AQ.BF⟩else⟨0,c.AQ.Am⟩
def Df(x:Int):Prop:= -1099511627776<=x/\x<=1099511627776
theorem pL{c:CB}(f:Fc c)(k:Int){s:CD}{d:Int}(g:Df s.BI)(h:Df d): -274877906944<=(F1 c k s d).Lo/\(F1 c k s d).Lo<=0/\0<=(F1 c k s d).Hi/\(F1 c k s d).Hi<=279172874240:=by
 obtain⟨q,j⟩:=f.res;obtain⟨m,t,_,_⟩:=lz (x:=d-s.BI) (by unfold Df at g h;omega) f.drift;unfold F1
 grind
theorem kn{c:CB}(f:Fc c){i:Nat}{m:Al}(h:c.Au[i]?=AC m){s:CD}(t:s.Al=(i:Int)){d:Int}(q:Df s.BI)(j:Df d):Ev (λn=>Ik n c s d) (F1 c m.AW s d):=by
 obtain⟨B,x⟩:=f.res;have g: -2199023255552<=d-s.BI/\d-s.BI<=2199023255552:=by unfold Df at q j;omega
 obtain⟨y,E,_,_⟩:=lz g f.drift;unfold Ik F1;simp only[t,Qz h,XJ];cases m.AW != 1 with
 |false=>exact Qa _
 |true=>
  simp only[Vp];refine Ea (v:=⟨0-Dm (d-s.BI) c.AQ.BF,c.AQ.Am+Dm (d-s.BI) c.AQ.BF⟩) ?_ (Qa _);rw[QJ (n:=d-s.BI) om om];refine Ea (QoI g f.drift) ?_
  grind[QJ,Qa]
def Ia(c:CB)(x:Int):Bool:=AG (0<=x)&&AG (x<(AI c.Au:Int))
theorem l7(c:CB)(x:Int):Ev (λn=>K0 n c x) (Ia c x):=by
 simp_all[K0,Ia,Eh,Qa]
theorem _v{c:CB}{x:Int}(h:Ia c x=AE):∃i m,x=((i:Nat):Int)/\c.Au[i]?=AC m:=by
 unfold Ia at h;simp only[XW,Vr]at h;exact⟨x.toNat,c.Au[x.toNat]'om,om,sq⟩
def nb(v lo hi:Int):Bool:= !(AG (v<lo))&& !(AG (hi<v))
theorem kg(v lo hi:Int):nb v lo hi=AE↔lo<=v/\v<=hi:=by
 simp_all[nb]
def FZ(x y:Ud):Int:=IK [C2 x.B8 y.B8,C2 x.mat y.mat,C2 x.BV y.BV]
theorem vR(n:Nat)(a b d:Int):J6 (n+4) [a,b,d]=AC (IK [a,b,d]):=by
 unfold J6;have g:IB (n+4) [a,b,d] 0=bif a != 0 then AC (.d (.d a))else AC (.k 1):=rfl
 have h:IB (n+4) [a,b,d] 1=bif b != 0 then AC (.d (.d b))else AC (.k 2):=rfl
 have f:IB (n+4) [a,b,d] 2=bif d != 0 then AC (.d (.d d))else AC (.k 3):=rfl
 have j:IB (n+4) [a,b,d] 3=AC (.d (.k ())):=rfl;unfold IK IK IK IK;rw[iter,g];cases q:(a != 0)with
 |true=>rfl
 |false=>
  simp only[Vq];rw[iter,h];cases t:(b != 0)with
  |true=>rfl
  |false=>
   simp only[Vq];rw[iter,f];cases m:(d != 0)with
   |true=>rfl
   |false=>
    rfl
theorem QiE(n:Nat):(λx y=>MK (n+4) x y)=λx y=>AC (FZ x y):=by
 funext x y
 grind[MK,FZ,qD,vR]
def LK(h:CM):Ud:=⟨h.BB,h.Al,h.Ah⟩
def DO(c:CB)(h:CM):Bool:=AG (h.Al<0)||(AG ((AI c.Au:Int)<=h.Al)||(!nb h.Ah 0 255||(!nb h.BB 0 1048576||(!nb h.BT (-1099511627776) 1099511627776||(!nb h.A7 (-1099511627776) 1099511627776||AG (h.A7<h.BT))))))
def Lj(W:Int)(a b:CM):Bool:=AG (FZ (LK a) (LK b)<0)||(AG (FZ (LK a) (LK b)=0)&&AG (W<i64.wrap (b.BT-a.A7)))
def IZ(c:CB)(x:AA CM)(i:Nat):Bool:=match x[i]? with
 |none=>AE
 |some h=> !DO c h&&((i==0)||(match x[i-1]? with
  |none=>AE
  |some p=>Lj c.AQ.A6 p h))
def Dv(ok:Nat->Bool):Nat->Nat->Bool
 |0,_=>AE
 |d+1,i=>ok i&&Dv ok d (i+1)
def Dn(c:CB)(x:AA CM):Bool:=Dv (IZ c x) (AI x) 0
theorem QhN(c:CB)(x:AA CM)(E:AI x<=1000000)(step:Nat->Int->AB (CG Int (CG Unit Int)))
  (m:∀i h,At x i h->(∀p,0<i->x[i-1]?=AC p->Ev (λn=>step n (i:Int)) (bif DO c h then CG.d (CG.d 170)else bif Lj c.AQ.A6 p h then CG.k ((i+1:Nat):Int)else CG.d (CG.d 170)))/\(i=0->Ev (λn=>step n (i:Int)) (bif DO c h then .d (.d 170)else .k ((i+1:Nat):Int))))
  (f:Ev (λn=>step n (AI x:Int)) (.d (.k ()))):Ev (λn=>iter (step n) n 0) (bif Dn c x then CG.k ()else CG.d 170):=by
 have:=uY (step:=step) (s0:=(0:Int)) (λi=>(i:Int)) (AI x) (λi=>(bif Dv (IZ c x) (AI x-i) i then CG.k ()else CG.d 170:CG Unit Int)) rfl (λi q=>?_) ?_
 .exact this
 .have d:=Y5 (x:=x[i]) om (XK q);generalize x[i]=h at d;obtain⟨B,y⟩:=m i h d;have j:AI x-i=(AI x-(i+1))+1:=om;have g:IZ c x i=(!DO c h&&((i==0)||(match x[i-1]? with|none=>AE|some p=>Lj c.AQ.A6 p h))):=by
   unfold IZ;rw[d.get]
  have t:Dv (IZ c x) (AI x-i) i=(IZ c x i&&Dv (IZ c x) (AI x-(i+1)) (i+1)):=by rw[j];rfl
  grind
 .rw[Nat.sub_self];exact f
theorem Qjc(p q:Ud):Ev (λn=>MK n p q) (FZ p q):=by
 refine⟨4,λn d=>?_⟩;obtain⟨k,rfl⟩:∃k,n=k+4:=⟨n-4,om⟩;exact congrFun (congrFun (QiE k) p) q
theorem Qqp(n:Nat)(v:Int):J7 n v=AC (nb v (-1099511627776) 1099511627776):=by
 unfold J7;by_cases d:(-1099511627776)<=v
 .rw[Jf d];simp only[Vp,XJ,Option.some.injEq];rw[XY,kg,Vr];omega
 .rw[YO d];simp only[Vq,XJ,Option.some.injEq]
  symm
  rw[VM];intro z;rw[kg]at z;omega
theorem Qmp{e:Int}(c:CB)(x:AA CM)(H:AI x<=1000000)(he:Ev (λn=>F_ n c) e):Ev (λn=>OW n c x) (bif e != 0 then e else bif Dn c x then 0 else 170):=by
 unfold OW;refine Ea he ?_;cases(e != 0)with
 |true=>exact Qa _
 |false=>
  simp only[Vq];refine Ea (QhN c x H _ (λi h d=>?_) ?_) ?_
  .have t:Ev (λn=>((bif h.Al<0 then AC AE else(bif (AI c.Au:Int)<=h.Al then AC AE else(bif h.Ah<0 then AC AE else(bif 255<h.Ah then AC AE else(bif h.BB<0 then AC AE else(bif 1048576<h.BB then AC AE else(J7 n h.BT).bind λj=>(bif (!j)then AC AE else(J7 n h.A7).bind λg=>(bif (!g)then AC AE else AC (AG (h.A7<h.BT)))))))))):AB Bool)) (DO c h):=by
    have e:DO c h=(AG (h.Al<0)||(AG ((AI c.Au:Int)<=h.Al)||(AG (h.Ah<0)||(AG (255<h.Ah)||(AG (h.BB<0)||(AG (1048576<h.BB)||(!nb h.BT (-1099511627776) 1099511627776||(!nb h.A7 (-1099511627776) 1099511627776||AG (h.A7<h.BT))))))))):=by
     grind[DO,nb]
    rw[e];refine QI λ_=>QI λ_=>QI λ_=>QI λ_=>QI λ_=>QI λ_=>?_;simp only[Qqp,XJ];exact QI λ_=>QI λ_=>Qa _
   refine⟨λp E F=>?_,λE=>?_⟩
   .have y:((i:Int)==0)=false:=by grind
    have m:i64.wrap ((i:Int)-1)=((i-1:Nat):Int):=by
     grind[QJ]
    unfold N9;simp only[d.lt,Vp,d.ix,XJ,d.nx,y,Vq,m,Qz F];cases B:DO c h with
    |true=>
     refine Ea (v:=(CG.d (CG.d (CG.d 170)):CG Unit (CG Int (CG Unit Int)))) (Ea t ?_) (Qa _);rw[B];exact Qa _
    |false=>
     refine Ea (v:=(bif Lj c.AQ.A6 p h then CG.k ()else CG.d (CG.d (CG.d 170)):CG Unit (CG Int (CG Unit Int)))) (Ea t ?_) ?_
     .rw[B];simp only[Vq];refine Ea (Qjc _ _) ?_;show Ev (λn=>((bif 0<FZ (LK p) (LK h) then AC (AG (0<FZ (LK p) (LK h)))else(bif (FZ (LK p) (LK h)==0)then AC (AG ((i64.wrap (h.BT-p.A7))<=c.AQ.A6))else AC AD)):AB Bool).bind λf=>((bif f then AC (CG.d (CG.d (CG.d 170)))else AC (CG.k ())):AB (CG Unit (CG Int (CG Unit Int))))) _;unfold Lj;rcases Int.lt_trichotomy (FZ (LK p) (LK h)) 0 with q|q|q
      iterate 3 grind[Qa]
     grind[Qa]
   .subst E;unfold N9;have G:(((0:Nat):Int)==0)=true:=rfl;simp only[d.lt,Vp,d.ix,XJ,d.nx,G];refine Ea (v:=(bif DO c h then CG.d (CG.d (CG.d 170))else CG.k ():CG Unit (CG Int (CG Unit Int)))) (Ea t ?_) ?_
    .cases DO c h<;>exact Qa _
    .cases DO c h<;>exact Qa _
  .simp_all[N9,Qa]
  .cases Dn c x<;>exact Qa _
theorem qy(c:CB)(d:CB.wf c):∃b,Ev (λn=>K7 n c) b/\(b=AE->HD c/\Ev (λn=>F_ n c) (CN c)):=by
 have w:=Y1 d
 grind[JA,k9,QhO,Qmu]
mutual
def ZB:CH->AA Int
 |⟨m,laps,ps⟩=>bif laps==0 then[m]else(List.replicate laps.toNat (Cm ps)).flatten
def Cm:AA CH->AA Int
 |[]=>[]
 |p::r=>ZB p++Cm r
end
theorem gk(p:CH):ZB p=bif p.As==0 then[p.Al]else(List.replicate p.As.toNat (Cm p.Ac)).flatten:=by cases p;rfl
theorem mX(p:CH)(r:AA CH):Cm (p::r)=ZB p++Cm r:=by rw[Cm]
theorem r9:∀(k:Nat) (out lap:AA Int),AI (Dl k out lap)<=256->Dl k out lap=out++(List.replicate k lap).flatten
 |0,out,lap,_=>by simp[Dl]
 |k+1,out,lap,h=>by
  rw[Dl]at h⊢;by_cases hb:256<AI out
  .grind
  .rw[Vs hb]at h⊢;rw[r9 k _ _ h,Xl,Vm,Vj]
theorem qo{kk:Int}{p:CH}(h:Ft kk p=AE):p.As=0\/(1<=p.As/\p.As<=64/\Cw kk p.Ac=AE):=by
 rw[Zn]at h;cases d:(p.As==0)with
 |true=>grind
 |false=>
  simp_all[DG]
theorem QoA(kk:Int):∀(m:Nat) (l:AA CH) (f:AA Int),Ce l<=m->Cw kk l=AE->AI (DP f l)<=256->DP f l=f++Cm l:=by
 intro m
 induction m using Nat.strongRecOn with
 |_ m F=>
 intro l
 induction l with
 |nil=>grind[DP,Cm]
 |cons p r j=>
  intro f E q y;rw[JE,List.all_cons,XW, <- JE]at q;have h:Rv p+Ce r<=m:=by rw[Ce]at E;omega
  rw[DP]at y⊢;by_cases x:256<AI (Dl (p.As.toNat+(bif 0<p.As then 0 else 1)) f (Fi p))
  .grind
  .have B:=r9 _ _ _ (Nat.le_of_not_lt x);rw[j _ om q.2 y,B,mX,Vj];congr 2;rcases qo q.1 with H|⟨a,b,d⟩
   .simp_all[S0,gk]
   .have t:AG (0<p.As)=true:=Jf om;have G:(p.As==0)=false:=gq;have g:AI (Fi p)<=256:=by
     rw[B,t]at x;simp only[Vp,Xw]at x;have:p.As.toNat=(p.As.toNat-1)+1:=om
     grind
    rw[S0,t,Vp]at g;rw[YR]at h;have:=F (Ce p.Ac) om p.Ac [] (XT _) d g;rw[S0,gk,t,G,Vp,Vp,Vq,Xw,this,Vi]
theorem w?(kk:Int):∀(m:Nat) (l:AA CH) (f:AA Int),Ce l<=m->Cw kk l=AE->AI l<=1048576->(∀x∈l,CH.wf x)->AI f+AI (Cm l)<=256->Ev (λn=>Rm n l f) (f++Cm l):=by
 intro m
 induction m using Nat.strongRecOn with
 |_ m X=>
 intro l f hm L O Q P;rw[JE,Xs]at L;refine Jc ?_;show Ev (λn=>ir (Rm n) n l f) _;unfold ir;have inner:∀(p:CH) (w:AA Int),0<=p.As->p.As<=64->(∀o:AA Int,AI o+AI w<=256->Ev (λn=>Rm n p.Ac o) (o++w))->∀(k j:Nat) (o:AA Int),j+k=p.As.toNat->AI o+(List.replicate k w).flatten.length<=256->
   DY (λn=>MC n (Rm n) p) (o,(j:Int)) (o++(List.replicate k w).flatten):=by
  intro p w H Y q k
  induction k with
  |zero=>
   intro j o W _;refine Ei ?_;unfold MC;simp only[YO (show¬((j:Int)<p.As)by omega),Vq,List.replicate_zero,List.flatten_nil,Vh];exact Qa _
  |succ k F=>
   intro j o W h;rw[Xl,Vm]at h⊢;simp only[X3]at h;refine(Ew ?_ (F (j+1) (o++w) om gq)).eq sq;unfold MC;simp only[dT ((j:Int)<p.As),Vp];refine Ea (q o om) ?_;rw[YT om];exact Qa _
 have loop:∀(r:AA CH) (i:Nat) (o:AA Int),l.drop i=r->i<=AI l->AI o+AI (Cm r)<=256->DY (λn=>OI n l (Rm n)) (o,(i:Int)) (o++Cm r):=by
  intro r
  induction r with
  |nil=>
   intro i o q J _;refine Ei ?_;unfold OI;simp only[Yt q J,Vq,Cm,Vh];exact Qa _
  |cons p r G=>
   intro i o q J h;obtain⟨g,B⟩:=QG om q;have N:=g.lt';rw[mX,X3]at h;have T:=Y6 g.mem;rw[YR]at T;obtain⟨M,w2⟩:=Yl (Q p g.mem);have R:=L p g.mem;refine(Ew ?_ (G (i+1) (o++ZB p) B om gq)).eq (by rw[mX,Vj]);unfold OI;simp only[g.lt,Vp,g.ix,XJ,g.nx];rcases qo R with H|⟨a,b,d⟩
   .have t:(p.As==0)=true:=by simp[H]
    have y:ZB p=[p.Al]:=by rw[gk,t];rfl
    rw[y]at h⊢;refine Ea (v:=o++[p.Al]) ?_ ?_
    .rw[t];refine RY ?_
     grind[py,Qa]
    .refine Ea (v:=o++[p.Al]) ((Ei ?_).ev) (Qa _)
     simp_all[MC,Qa]
   .have t:(p.As==0)=false:=gq;have y:ZB p=(List.replicate p.As.toNat (Cm p.Ac)).flatten:=by rw[gk,t];rfl
    rw[y]at h⊢;refine Ea (v:=o) ?_ ?_
    .rw[t];exact Qa _
    .refine Ea ((inner p (Cm p.Ac) om b (λV E=>X (Ce p.Ac) om p.Ac V (XT _) d M w2 E) p.As.toNat 0 o om om).ev) (Qa _)
 exact Ea ((loop l 0 f sq (XU _) P).ev) (Qa _)
structure Fo (c:CB):Prop where
 parts:∀d∈c.AO,Cw ((AI c.Au:Int)-1) d.Ad=AE
 route:∀d∈c.AO,2<=AI (DP [] d.Ad)/\AI (DP [] d.Ad)<=256
 len:∀d∈c.AO,AI d.Ad<=1048576
 wf:∀d∈c.AO,∀x∈d.Ad,CH.wf x
 legs:AI c.Az<=512
theorem Fo.exp{c:CB}(g:Fo c){d:AN}(f:d∈c.AO):DP [] d.Ad=Cm d.Ad:=by
 have:=QoA _ _ d.Ad [] (XT _) (g.parts d f) (g.route d f).2
 grind
theorem mg{c:CB}(g:Fo c){d:AN}(f:d∈c.AO):Ev (λn=>O1 n d.Ad) (Cm d.Ad):=by
 unfold O1;have h:=(g.route d f).2;rw[g.exp f]at h;refine Ea ((w? _ _ d.Ad [] (XT _) (g.parts d f) (g.len d f) (g.wf d f) (by simpa using h)).eq (Vi _)) (Qa _)
theorem hJ{c:CB}(he:Ev (λn=>F_ n c) 0){i:Nat}{d:AN}(f:c.AO[i]?=AC d):Ev (λn=>J8 n c (i:Int)) (d,0):=by
 unfold J8;refine Ea he ?_;have g:=(XL.1 f).1
 simp_all[YO,Qa,Qz]
theorem QqF(c:CB)(d:AI c.Az<=512):∃m,Ev (λn=>Go.Sw.iter (JV n c) n (([]:AA (Ub×Cr)),0)) m:=by
 refine⟨_,YM c.Az (λ(m:AA (Ub×Cr)) x=>QL m ({BZ:=x.BA,to_:=x.To:Ub}) x) [] (λm i=>(m,(i:Int))) (λm=>m) om rfl (λi x m ha _=>?_) ?_⟩
 .unfold JV;simp only[ha.lt,Vp,ha.ix,XJ,ha.nx];exact Qa _
 simp_all[JV,Qa]
theorem Qm2{α:Type}{step:Nat->Int->AB (CG Int (CG Unit Int))}(l:AA α)(q:α->Bool)(H:AI l<=1048576)
  (B:∀i x,At l i x->Ev (λn=>step n (i:Int)) (bif q x then .d (.d (i:Int))else .k ((i+1:Nat):Int)))(F:Ev (λn=>step n (AI l:Int)) (.d (.k ()))):
  (∃i x,At l i x/\l.find? q=AC x/\Ev (λn=>Go.Sw.iter (step n) n 0) (.d (i:Int)))\/l.find? q=AF/\Ev (λn=>Go.Sw.iter (step n) n 0) (.k ()):=by
 have f:∀(r:AA α) (i:Nat),l.drop i=r->i<=AI l->(∃j x,At l j x/\r.find? q=AC x/\DY step (i:Int) (.d (j:Int)))\/r.find? q=AF/\DY step (i:Int) (.k ()):=by
  intro r
  induction r with
  |nil=>
   intro i m E;have:i=AI l:=by have:=Xq.1 m;omega
   simp_all[Ei]
  |cons x r G=>
   intro i m E;obtain⟨g,y⟩:=QG om m;have t:=g.lt';have h:=B i x g;rw[List.find?_cons];cases e:q x with
   |true=>rw[e]at h;exact .inl ⟨i,x,g,rfl,Ei h⟩
   |false=>
    grind[DY.cont]
 rcases f l 0 sq (XU _)with⟨j,x,a,b,d⟩|⟨a,b⟩
 .exact .inl ⟨j,x,a,b,d.ev⟩
 .exact .inr ⟨a,b.ev⟩
theorem Qqr{c:CB}(w:C3 c)(q:D9 c)(h:CN c=0):Fo c:=by
 unfold CN at h;cases g:Fw c with
 |false=>grind
 |true=>
  rw[g]at h;cases x:Hx c with
  |false=>grind
  |true=>
   rw[x]at h;cases f:Cx c with
   |false=>grind
   |true=>
    rw[f]at h;simp only[Vp]at h;have t:c.AO.all (D2 c)=true:=by
     grind
    unfold Cx at f;simp only[XW]at f;obtain⟨_,_,_,m,_⟩:=f;unfold Fw at g;simp only[XW,Bool.not_eq_true',XX,decide_eq_false_iff_not]at g;rw[Xs]at t m;refine⟨λd j=>?_,λd j=>?_,q.len,q.wf,?_⟩
    .simp_all[Ib]
    .simp_all[D2,Hv]
    omega
theorem Qp7:∀j:Fin 257,(AG (0<(u64.wrap ((u64.wrap ((u64.wrap ((Y7 .u64 (u64.wrap ([(0:Int)].length:Int)) 32)*(Y7 .u64 (u64.wrap ((j:Nat):Int)) 32)))+(Y7 .u64 (u64.wrap ((u64.wrap ((Y7 .u64 (u64.wrap ([(0:Int)].length:Int)) 32)*(Jk .u64 (u64.wrap ((j:Nat):Int)) 4294967295)))+(Y7 .u64 (u64.wrap ((Jk .u64 (u64.wrap ([(0:Int)].length:Int)) 4294967295)*(Jk .u64 (u64.wrap ((j:Nat):Int)) 4294967295))) 32))) 32)))+(Y7 .u64 (u64.wrap ((Jk .u64 (u64.wrap ((u64.wrap ((Y7 .u64 (u64.wrap ([(0:Int)].length:Int)) 32)*(Jk .u64 (u64.wrap ((j:Nat):Int)) 4294967295)))+(Y7 .u64 (u64.wrap ((Jk .u64 (u64.wrap ([(0:Int)].length:Int)) 4294967295)*(Jk .u64 (u64.wrap ((j:Nat):Int)) 4294967295))) 32))) 4294967295)+(u64.wrap ((Jk .u64 (u64.wrap ([(0:Int)].length:Int)) 4294967295)*(Y7 .u64 (u64.wrap ((j:Nat):Int)) 32))))) 32)))))=false:=by decide+kernel
theorem QnW:∀j:Fin 257,(AG (9223372036854775807<(u64.wrap ((u64.wrap ([(0:Int)].length:Int))*(u64.wrap ((j:Nat):Int))))))=false:=by decide+kernel
theorem Qp8:∀j:Fin 257,(i64.wrap (u64.wrap ((u64.wrap ([(0:Int)].length:Int))*(u64.wrap ((j:Nat):Int)))))=((j:Nat):Int):=by decide+kernel
theorem QnX(x:Int)(K:Nat)(F:K<=256):∀(m j:Nat),1<=j->j<=K->K-j<=m->DY (λn=>OF n) (List.replicate j x++List.replicate (K-j) 0,(j:Int)) (List.replicate K x):=by
 intro m
 induction m with
 |zero=>
  intro j y t B;obtain rfl:j=K:=om
  simp_all[Ei,OF,Qa]
 |succ m q=>
  intro j y t B;by_cases E:j=K
  .grind
  .have g:AI (List.replicate j x++List.replicate (K-j) (0:Int))=K:=by simp;omega
   refine Ew ?_ (q (j+min j (K-j)) om om om);unfold OF;simp only;generalize hL:List.replicate j x++List.replicate (K-j) (0:Int)=L at g;have d:L.take j=List.replicate j x:=gq;have h:L.drop j=List.replicate (K-j) 0:=gq;rw[Jf om,Vp,QnO L om,XJ,pa L om,XJ];unfold RM;simp only[XJ,Int.toNat_natCast,g,d];have f:L.take j++(List.replicate j x).take (K-j)++L.drop (j+min (AI (List.replicate j x)) (K-j))=List.replicate (j+min j (K-j)) x++List.replicate (K-(j+min j (K-j))) 0:=by
    rw[<- List.drop_drop,d,h,List.length_replicate,List.take_replicate,List.drop_replicate,List.replicate_append_replicate]
    grind
   rw[d]at f;rw[f];have w:i64.wrap ((j:Int)+((min (AI (List.replicate j x)) (K-j):Nat):Int))=((j+min j (K-j):Nat):Int):=by
    rw[List.length_replicate,Di];omega
   rw[w];exact Qa _
theorem ZN{α:Type}{c:Bool}{f g:Nat->AB α}{v:α}(h:c=AD)(q:Ev g v):Ev (λn=>bif c then f n else g n) v:=by simp_all
theorem mV(x:Int)(k:Nat)(f:1<=k)(d:k<=256):Ev (λn=>K9 n [x] (k:Int)) (List.replicate k x):=by
 have j:=Qp7 ⟨k,om⟩;have h:=QnW ⟨k,om⟩;have g:=Qp8 ⟨k,om⟩;unfold K9;refine Ea (v:=()) (by grind[Qa]) (Ea (v:=()) (Qa _) (Ea (v:=AD) ?_ (Ea (v:=()) (Qa _) ?_)))
 .exact ZN j (EA (congrArg AC h))
 .refine Ea (v:=List.replicate k 0) (EA ((congrArg (λz=>mk z (0:Int)) g).trans ?_)) ?_
  .show mk (k:Int) 0=_;unfold mk
   grind
  .refine Ea (v:=List.replicate 1 x++List.replicate (k-1) 0) (EA ?_) ?_
   .unfold RM
    grind
   .have e:((min [x].length (AI (List.replicate k (0:Int))):Nat):Int)=((1:Nat):Int):=by simp;omega
    rw[e];exact Ea ((QnX x k d k 1 (XT _) f om).ev) (Qa _)
set_option maxRecDepth 10000
theorem Y3{c:CB}(h:CN c=0):Fw c=AE/\Cx c=AE/\ ∀d∈c.AO,D2 c d=true:=by
 unfold CN at h
 grind
theorem q_{c:CB}(h:CN c=0):Fc c:=by
 obtain⟨d,f,_⟩:=Y3 h;unfold Fw at d;unfold Cx Li DG at f;simp only[XW,Bool.not_eq_true',XX,decide_eq_false_iff_not,Vr]at d f;refine⟨?_,?_,?_⟩
 iterate 3 omega
theorem KU{α:Type}{c:Bool}{f g:Nat->AB α}{v:α}(h:c=AE)(q:Ev f v):Ev (λn=>bif c then f n else g n) v:=by simp_all
def D4(l:AA Int)(x:Int):Nat->Nat
 |0=>0
 |j+1=>bif (l[j+1]? ==AC x)then j+1 else D4 l x j
theorem lg(l:AA Int)(x:Int):∀j,D4 l x j<=j
 |0=>XT _
 |j+1=>by
  unfold D4;have:=lg l x j
  grind
def DH(d:AN)(k:Nat):AA Int:=(Cm d.Ad).take (D4 (Cm d.Ad) d.An (AI (Cm d.Ad)-1)+1)++List.replicate k d.An++(Cm d.Ad).drop (D4 (Cm d.Ad) d.An (AI (Cm d.Ad)-1)+1)
def CX(c:CB)(i k:Int):AA Int×Int:=
 bif i<0 then([],90)else match c.AO[i.toNat]? with
 |none=>([],90)
 |some d=>bif AG (k<0)||(AG (0<k)&&AG (d.An<0))then([],90)else bif 256-(AI (Cm d.Ad):Int)<k then([],2)else(DH d k.toNat,0)
theorem mW(d:AN)(e:Int)(l:AA Int)(hl:AI l<=256):∀(m:Nat),m<AI l->DY (λn=>MB n (d,e) l) (m:Int) ((D4 l d.An m:Nat):Int)
 |0,h=>by
  grind[DY.done,MB,D4,Qa]
 |m+1,h=>by
  have hx:l[m+1]?=AC (l[m+1]'(h)):=sq;unfold D4;rw[hx];cases hq:((l[m+1]'(h)) != d.An)with
  |true=>
   have e1:(AC (l[m+1]'(h))==AC d.An)=false:=gq;rw[e1,Vq];refine Ew ?_ (mW d e l hl m om);unfold MB;rw[Jf (show(0:Int)<((m+1:Nat):Int)by omega),Vp,Qz hx,XJ,hq,XJ,Vp,QJ (n:=((m+1:Nat):Int)-1) om om,show((m+1:Nat):Int)-1=(m:Int)by omega];exact Qa _
  |false=>
   have e1:(AC (l[m+1]'(h))==AC d.An)=true:=gq;rw[e1,Vp];refine Ei ?_;unfold MB;rw[Jf (show(0:Int)<((m+1:Nat):Int)by omega),Vp,Qz hx,XJ,hq,XJ,Vq];exact Qa _
theorem l6{c:CB}(g:Fo c)(he:Ev (λn=>F_ n c) 0)(i k:Int):Ev (λn=>Ij n c i k) (CX c i k):=by
 unfold CX;by_cases F:i<0
 .rw[Jf F,Vp];unfold Ij II;refine Ea (v:=((90:Int),([]:AA Int))) (Ea (v:=CS.c0 90) ?_ (Qa _)) (Qa _);refine Ea (v:=(Uu,90)) ?_ (KU rfl (Qa _));unfold J8;refine Ea he (Q1 (Ea (v:=AE) ?_ (Qa _)));rw[Jf F];exact Qa _
 rw[YO F,Vq];obtain⟨j,rfl⟩:∃j:Nat,i=(j:Int):=⟨i.toNat,om⟩;rw[Int.toNat_natCast];cases q:c.AO[j]? with
 |none=>
  have H:AI c.AO<=j:=gq;unfold Ij II;refine Ea (v:=((90:Int),([]:AA Int))) (Ea (v:=CS.c0 90) ?_ (Qa _)) (Qa _);refine Ea (v:=(Uu,90)) ?_ (KU rfl (Qa _));unfold J8;refine Ea he (Q1 (Ea (v:=AE) ?_ (Qa _)))
  simp_all[Qa]
 |some d=>
  simp only;have t:=VH q;have h:=(g.route d t);rw[g.exp t]at h;have w:i64.wrap (256-(AI (Cm d.Ad):Int))=256-(AI (Cm d.Ad):Int):=Di;unfold Ij II;cases B:(AG (k<0)||(AG (0<k)&&AG (d.An<0)))with
  |true=>
   refine Ea (v:=((90:Int),([]:AA Int))) (Ea (v:=CS.c1 ()) (Ea (hJ he q) (Q1 (Ea (v:=AE) ?_ (Qa _)))) (Qa _)) (Qa _)
   grind[Qa]
  |false=>
   have x:=B;simp only[XX,decide_eq_false_iff_not,Bool.and_eq_false_iff]at x;cases G:AG (256-(AI (Cm d.Ad):Int)<k)with
   |true=>
    refine Ea (v:=((2:Int),Cm d.Ad)) (Ea (v:=CS.c2 (Cm d.Ad)) (Ea (hJ he q) (Q1 (Ea (v:=AD) ?_ (Q1 (Ea (mg g t) ?_))))) (Qa _)) (Qa _)
    .exact Eu (QI λ_=>Eh λ_=>Qa _) B
    simp_all[Qa]
   |false=>
    have J:=Vw G;obtain⟨f,rfl⟩:∃f:Nat,k=(f:Int):=⟨k.toNat,om⟩;obtain⟨m,y⟩:=QqF c g.legs;rw[Int.toNat_natCast];refine Ea (v:=(0,DH d f)) (Ea (v:=CS.c3 (DH d f,m)) (Ea (hJ he q) (Q1 (Ea (v:=AD) ?_ (Q1 (Ea (mg g t) ?_))))) (Qa _)) (Qa _)
    .exact Eu (QI λ_=>Eh λ_=>Qa _) B
    .simp only[w,G,Vq];refine Ea (v:=DH d f) ?_ (Ea y (Qa _));by_cases M:f=0
     .simp_all[Qa,DH]
     .refine KU (dT ((0:Int)<(f:Int))) ?_;have E:=mW d 0 (Cm d.Ad) h.2 (AI (Cm d.Ad)-1) om;have L:=lg (Cm d.Ad) d.An (AI (Cm d.Ad)-1);rw[QJ (n:=(AI (Cm d.Ad):Int)-1) om om,show(AI (Cm d.Ad):Int)-1=((AI (Cm d.Ad)-1:Nat):Int)by omega];refine Ea E.ev (Ea (mV d.An f om om) (Ea (EA ?_) (Qa _)))
      grind[DH,QJ,ZE,Nat.blt,Nat.ble_eq_true_of_le,YF]
theorem iV{c:CB}(g:Fo c){i k:Int}(h:(CX c i k).2=0):∃(j:Nat) (d:AN) (f:Nat),i=(j:Int)/\k=(f:Int)/\c.AO[j]?=AC d/\(0<f->0<=d.An)/\AI (Cm d.Ad)+f<=256/\(CX c i k).1=DH d f:=by
 unfold CX at h⊢;by_cases t:i<0
 .grind
 rw[YO t,Vq]at h⊢;cases m:c.AO[i.toNat]? with
 |none=>grind
 |some d=>
  rw[m]at h;simp only at h⊢;cases q:(AG (k<0)||(AG (0<k)&&AG (d.An<0)))with
  |true=>grind
  |false=>
   rw[q]at h;cases x:AG (256-(AI (Cm d.Ad):Int)<k)with
   |true=>grind
   |false=>
    grind
def Fx(c:CB):AA Int->Prop
 |a::b::r=>C5 c a b=AE/\Fx c (b::r)
 |_=>True
theorem sk{c:CB}{len:Nat}:∀{r:AA Int} {i:Nat} {p:Int},Fe c len i p r=AE->Fx c r/\(i≠0->∀m q,r=m::q->C5 c p m=AE)
 |[],_,_,_=>⟨trivial,sq⟩
 |m::r,i,p,h=>by
  unfold Fe at h;simp only[XW,Bool.or_eq_true,Vr]at h;obtain⟨_,_,h1,h2⟩:=h;obtain⟨a1,a2⟩:=sk h2;refine⟨?_,λhi m' q e=>?_⟩
  .cases r with
   |nil=>trivial
   |cons b r=>exact⟨a2 om b r rfl,a1⟩
  grind
theorem Fx.tail{c:CB}:∀{r:AA Int} (k:Nat),Fx c r->Fx c (r.drop k)
 |r,0,h=>by simpa using h
 |[],k+1,_=>by simp[Fx]
 |[a],k+1,_=>by simp[Fx]
 |a::b::r,k+1,h=>by
  rw[List.drop_succ_cons];exact Fx.tail k h.2
theorem Fx.append{c:CB}:∀{p:AA Int} {x:Int} {q:AA Int},Fx c (p++[x])->Fx c (x::q)->Fx c (p++x::q)
 |[],x,q,_,h=>h
 |[a],x,q,h1,h2=>⟨h1.1,h2⟩
 |a::b::r,x,q,h1,h2=>⟨h1.1,Fx.append (p:=b::r) h1.2 h2⟩
theorem qH{c:CB}{x:Int}(h:C5 c x x=AE){q:AA Int}(hq:Fx c (x::q)):∀k,Fx c (x::(List.replicate k x++q))
 |0=>hq
 |k+1=>⟨h,qH h hq k⟩
theorem Fx.at{c:CB}:∀{r:AA Int} {i:Nat} {a b:Int},Fx c r->r[i]?=AC a->r[i+1]?=AC b->C5 c a b=AE
 |[],_,_,_,_,h,_=>by simp at h
 |[x],i,_,_,_,_,h=>by simp at h
 |x::y::r,0,a,b,h,h1,h2=>by simp at h1 h2;subst h1;subst h2;exact h.1
 |x::y::r,i+1,a,b,h,h1,h2=>Fx.at (r:=y::r) h.2 (by simpa using h1) gq
theorem rk(l:AA Int)(x:Int):∀m,m<AI l->(∃i,i<=m/\0<i/\l[i]?=AC x)->l[D4 l x m]?=AC x
 |0,h,⟨i,h1,h2,_⟩=>om
 |m+1,h,⟨i,h1,h2,h3⟩=>by
  unfold D4;cases e:(l[m+1]? ==AC x)with
  |true=>grind
  |false=>
   simp only[Vq];refine rk l x m om ⟨i,?_,h2,h3⟩
   grind
theorem QlZ{c:CB}(g:Fo c)(N:CN c=0){d:AN}(G:d∈c.AO)(k:Nat)(Q:0<k->0<=d.An):Fx c (DH d k):=by
 have h:=(Y3 N).2.2 d G;unfold D2 Hv at h;rw[g.exp G]at h;simp only[XW,Vr]at h;obtain⟨⟨l2,J⟩,P,E,_⟩:=h;have Y:=(sk P).1;unfold DH;by_cases T:k=0
 .simp_all
 have O:=Q om;rw[Jf O,Vp]at E;simp only[XW,Bool.not_eq_true',beq_eq_false_iff_ne,ne_eq]at E;obtain⟨e1,V,e3⟩:=E;have f:d.An∈Cm d.Ad:=by
  grind
 obtain⟨i,X,L⟩:=List.getElem_of_mem f;have F:0<i:=by
  rcases Nat.eq_zero_or_pos i with q|q
  .subst q;cases W:Cm d.Ad with
   |nil=>grind
   |cons m r=>
    simp_all[Fe]
  .exact q
 have t:=rk (Cm d.Ad) d.An (AI (Cm d.Ad)-1) om ⟨i,om,F,gq⟩;generalize hb:D4 (Cm d.Ad) d.An (AI (Cm d.Ad)-1)=b at t;have M:b<AI (Cm d.Ad):=gq;have j:(Cm d.Ad).drop b=d.An::(Cm d.Ad).drop (b+1):=by
  grind[List.drop_eq_getElem_cons]
 have B:(Cm d.Ad).take (b+1)=(Cm d.Ad).take b++[d.An]:=by
  grind
 have H:∀{p q:AA Int},Fx c (p++q)->Fx c p:=by
  intro p
  induction p with
  |nil=>intro q _;trivial
  |cons x p R=>
   intro q h;cases p with
   |nil=>trivial
   |cons y p=>exact⟨h.1,R h.2⟩
 have a1:Fx c ((Cm d.Ad).take b++[d.An]):=by
  grind[List.take_append_drop]
 grind[Fx.tail,Fx.append,qH]
set_option maxRecDepth 10000
theorem IS{x:Int}:FG x=AE↔Df x:=by
 simp_all[FG,DG,Df]
def Dg(k:CE)(h:CM):Int:=Dc (λx:CD=>({mat:=x.Al,BV:=x.Ah:Uf})=={mat:=h.Al,BV:=h.Ah}) k.AS 0
def Fs(c:CB)(s:CD)(h:CM):CK:={Lo:=i64.wrap (h.BT+(F1 c (Ci c h.Al) s h.BT).Lo),Hi:=i64.wrap (h.A7+(F1 c (Ci c h.Al) s h.A7).Hi)}
def Dq(c:CB)(k:CE)(h:CM):AB Ue:=
 bif Ci c h.Al==1 then AC {Ai:= -1,A_:=Fs c {Al:=h.Al,Ah:=h.Ah,BI:=0} h}else
  bif Dg k h<0 then AF else(k.AS[(Dg k h).toNat]?).map λs=>{Ai:=Dg k h,A_:=Fs c s h}
def C8(c:CB)(k:CE):AA CM->AB (AA Ue)
 |[]=>AC []
 |h::r=>(Dq c k h).bind λx=>(C8 c k r).map λl=>x::l
theorem mv(c:CB)(k:CE)(h:CM)(r:AA CM):C8 c k (h::r)=(Dq c k h).bind λx=>(C8 c k r).map λl=>x::l:=rfl
theorem l_(k:CE)(h:CM)(f:AI k.AS<=1048576):Ev (λn=>Oe n k.AS h) (Dg k h):=by
 unfold Oe;refine Ev.first k.AS _ om (λi x d=>?_) ?_
 .unfold V1;simp only[d.lt,Vp,d.ix,XJ,d.nx]
  grind[Wy,Qa]
 simp_all[V1,Qa]
theorem rI{k:CE}{h:CM}(q:¬Dg k h<0):∃(j:Nat) (s:CD),Dg k h=(j:Int)/\k.AS[j]?=AC s/\s.Al=h.Al/\s.Ah=h.Ah:=by
 rcases eG (λx:CD=>({mat:=x.Al,BV:=x.Ah:Uf})=={mat:=h.Al,BV:=h.Ah}) k.AS 0 with⟨d,_⟩|⟨j,s,d,f,g,_⟩
 .unfold Dg at q;omega
 .refine⟨j,s,by unfold Dg;rw[d];simp,f,?_⟩
  grind
structure HC (c:CB) (h:CM):Prop where
 mat:∃(i:Nat) (m:Al),h.Al=(i:Int)/\c.Au[i]?=AC m
 fi:Df h.BT
 la:Df h.A7
 le:h.BT<=h.A7
theorem Qpp{c:CB}{h:CM}(q:DO c h=AD):HC c h:=by
 unfold DO at q;simp only[XX,decide_eq_false_iff_not,Bool.not_eq_false',kg]at q;obtain⟨g,j,_,_,f,d,m⟩:=q;exact⟨⟨h.Al.toNat,c.Au[h.Al.toNat]'om,om,sq⟩,f,d,om⟩
theorem p9{p:Nat->Bool}:∀{m i:Nat},Dv p m i=AE->∀j,i<=j->j<i+m->p j=AE
 |0,i,_,j,h1,h2=>om
 |m+1,i,h,j,h1,h2=>by
  unfold Dv at h;rw[XW]at h;rcases Nat.eq_or_lt_of_le h1 with rfl|q
  .exact h.1
  .exact p9 h.2 j q om
theorem ql{c:CB}{x:AA CM}(h:Dn c x=AE):∀y∈x,HC c y:=by
 intro y d;obtain⟨i,f,rfl⟩:=List.getElem_of_mem d;have:=p9 h i (XU _) om
 simp_all[IZ,Qpp]
theorem pQ{c:CB}(t:Fc c)(he:Ev (λn=>F_ n c) 0){s:CD}{i:Nat}{m:Al}(j:s.Al=(i:Int))(g:c.Au[i]?=AC m)(f:Df s.BI){d:Int}(h:Df d):
  Ev (λn=>J1 n c s d) (F1 c m.AW s d,0):=by
 have q:Ia c s.Al=true:=by
  have:=(XL.1 g).1
  simp_all[Ia]
 unfold J1;refine Ea he (Q1 (Ea (v:=AD) (Ea (l7 c _) ?_) (Q1 (Ea (kn t g j f h) (Qa _)))));rw[q];refine Q1 (Ea (d6 d) ?_);rw[IS.2 h];refine Q1 (Ea (d6 s.BI) ?_);rw[IS.2 f];exact Qa _
structure KY (k:CE):Prop where
 dims:LF k
 ev:Ev (λn=>JY n k) 0
 anc:∀s∈k.AS,Df s.BI
theorem lS{k:CE}(w:Fq k)(h:F2 k=AE):KY k:=by
 have e:=pS k w;rw[h]at e;refine⟨QmB h,e,λs g=>?_⟩;unfold F2 at h;simp only[XW]at h;have f:=h.2.1;unfold IV at f;obtain⟨i,d,rfl⟩:=List.getElem_of_mem g;have:=gC.1 f i d;rw[XK d]at this;unfold Hu at this;simp only[Bool.not_eq_true',XX,Bool.not_eq_false']at this;exact IS.1 this.2.2.2.2.1
theorem Qqk{c:CB}{h:CM}{i:Nat}{m:Al}(d:h.Al=(i:Int))(f:c.Au[i]?=AC m):Ci c h.Al=m.AW:=by
 simp_all[Ci]
theorem QoB{c:CB}{k:CE}(T:Fc c)(he:Ev (λn=>F_ n c) 0)(kk:KY k)(x:AA CM)(Y:∀y∈x,HC c y)(hl:AI x<=1000):
  Ev (λn=>iter (IA n c k x) n ([],0)) (match C8 c k x with|some l=>CG.k l|none=>CG.d (CL.c0 170)):=by
 have hs:=kk.dims.segs;have O:∀(r:AA CM) (a:AA Ue) (i:Nat),x.drop i=r->i<=AI x->AI a<=i->DY (λn=>IA n c k x) (a,(i:Int)) (match C8 c k r with|some l=>CG.k (a++l)|none=>CG.d (CL.c0 170)):=by
  intro r
  induction r with
  |nil=>
   intro a i Q R d;refine Ei ?_;unfold IA;simp only[Yt Q R,Vq];refine(Qa _).eq ?_;simp[C8]
  |cons h r ih=>
   intro a i Q R aa;obtain⟨d,J⟩:=QG om Q;have V:=d.lt';obtain⟨⟨j,m,E,t⟩,W,f2,f3⟩:=Y h d.mem;have M:=Qqk E t;have step:∀(g:Int×CD),g.2.Al=(j:Int)->Df g.2.BI->
     Ev (λn=>(J1 n c g.2 h.BT).bind λL=>(J1 n c g.2 h.A7).bind λP=>(app a [{Ai:=g.1,A_:={Lo:=i64.wrap (h.BT+L.1.Lo),Hi:=i64.wrap (h.A7+P.1.Hi):CK}:Ue}]).bind λH=>AC (CG.k (H,((i+1:Nat):Int)):CG (AA Ue×Int) (CG (AA Ue) CL)))
      (CG.k (a++[{Ai:=g.1,A_:=Fs c g.2 h}],((i+1:Nat):Int))):=by
    intro g G F;refine Ea (pQ T he G t F W) (Ea (pQ T he G t F f2) (Ea (EA (ge om)) ((Qa _).eq ?_)));unfold Fs;rw[M]
   have f:∀(y:Ue),Dq c k h=AC y->Ev (λn=>IA n c k x (a,(i:Int))) (CG.k (a++[y],((i+1:Nat):Int)))->DY (λn=>IA n c k x) (a,(i:Int)) (match C8 c k (h::r)with|some l=>CG.k (a++l)|none=>CG.d (CL.c0 170)):=by
    intro y X N;refine Ew N ((ih (a++[y]) (i+1) J om (by simp;omega)).eq ?_);rw[mv,X]
    grind
   cases B:(Ci c h.Al==1)with
   |true=>
    refine f {Ai:= -1,A_:=Fs c {Al:=h.Al,Ah:=h.Ah,BI:=0} h} (by unfold Dq;rw[B];rfl) ?_;unfold IA;simp only[d.lt,Vp,d.ix,XJ,d.nx];refine Ea (l_ k h om) ?_;simp only[E,Qz t,XJ]
    simp_all[Df]
   |false=>
    by_cases q:Dg k h<0
    .have tn:Dq c k h=none:=by unfold Dq;grind
     refine Ei ?_;unfold IA;rw[mv,tn];simp only[d.lt,Vp,d.ix,XJ,d.nx];refine Ea (l_ k h om) ?_;simp only[E,Qz t,XJ];rw[M]at B;refine Ea (v:=CG.d (.d (.d (CL.c0 170)))) (by rw[B,Jf q];exact Qa _) ?_;exact Qa _
    .obtain⟨jj,s,G,F,g3,g4⟩:=rI q;refine f {Ai:=Dg k h,A_:=Fs c s h} (by unfold Dq;grind) ?_;unfold IA;simp only[d.lt,Vp,d.ix,XJ,d.nx];refine Ea (l_ k h om) ?_;simp only[E,Qz t,XJ];rw[M]at B;refine Ea (v:=CG.k (Dg k h,s)) (by rw[B,YO q,G];simp_all[Qz,Qa]) ?_;exact step (Dg k h,s) (g3.trans E) (kk.anc s (VH F))
 have:=(O x [] 0 rfl (XU _) (XT _)).ev
 grind
theorem rT{c:CB}{k:CE}:∀{x:AA CM} {l:AA Ue},C8 c k x=AC l->AI l=AI x/\ ∀(i:Nat) (h:CM),x[i]?=AC h->∃t,l[i]?=AC t/\Dq c k h=AC t
 |[],l,h=>by
  simp_all[C8]
 |y::x,l,h=>by
  unfold C8 at h;cases e:Dq c k y with
  |none=>grind
  |some t=>
   rw[e]at h;cases e2:C8 c k x with
   |none=>grind
   |some l2=>
    rw[e2]at h;cases h;obtain⟨p1,p2⟩:=rT e2
    grind
theorem Qnb{c:CB}{k:CE}{h:CM}{t:Ue}(q:Dq c k h=AC t):t.Ai= -1\/ ∃(j:Nat) (s:CD),t.Ai=(j:Int)/\k.AS[j]?=AC s/\s.Al=h.Al:=by
 unfold Dq at q;cases f:(Ci c h.Al==1)with
 |true=>grind
 |false=>
  rw[f]at q;by_cases d:Dg k h<0
  .grind
  .rw[YO d]at q;obtain⟨j,s,m,g,x,_⟩:=rI d
   grind
def Kb(a:AA (Int×Ue)×Int)(h:Ae):AA (Int×Ue)×Int:=
 bif !(JM a.1 h.AT)then(QL a.1 h.AT {Ai:= -1,A_:={Lo:=h.Lo,Hi:=h.Hi}},if a.2<h.AT then h.AT else a.2)else a
def G_(l:AA Ae):AA (Int×Ue)×Int:=l.foldl Kb ([],-1)
theorem QoF(l:AA Ae)(d:AI l<=1048576):Ev (λn=>iter (OA n l) n ([],(-1),0)) (G_ l):=by
 refine YM l Kb ([],-1) (λa i=>(a.1,a.2,(i:Int))) (λa=>a) om rfl (λi x a ha _=>?_) ?_
 .unfold OA Kb;simp only[ha.lt,Vp,ha.ix,XJ,ha.nx]
  grind[Qa]
 simp_all[OA,Qa]
theorem lM:∀(l:AA Ae) (a:AA (Int×Ue)×Int) (p:Int),Jo (l.foldl Kb a).1 p=(match Jo a.1 p with|some x=>AC x|none=>(l.find? λh=>h.AT==p).map λh=>{Ai:= -1,A_:={Lo:=h.Lo,Hi:=h.Hi}})
 |[],a,p=>gq
 |x::l,a,p=>by
  rw[XD,lM l (Kb a x) p];unfold Kb;rw[lh];cases hx:Jo a.1 x.AT with
  |some y=>
   grind
  |none=>
   simp only[Option.isSome_none,Xh,Vp,tK]
   grind
theorem Qog(l:AA Ae)(p:Int):Jo (G_ l).1 p=(l.find? λh=>h.AT==p).map λh=>{Ai:= -1,A_:={Lo:=h.Lo,Hi:=h.Hi}}:=by
 unfold G_;rw[lM];rfl
def Hy(c:CB)(a b:Int):Cr:=(c.Az.find? λl=>(l.BA==a)&&(l.To==b)).getD {BA:=0,To:=0,Bn:=0,Br:=0}
def FH(c:CB)(s:CK)(a b:Int):CK:={Lo:=i64.wrap (s.Lo+(Hy c a b).Bn),Hi:=i64.wrap (s.Hi+(Hy c a b).Br)}
def FX(c:CB):CK->Int->AA Int->AA CK
 |_,_,[]=>[]
 |s,a,b::r=>FH c s a b::FX c (FH c s a b) b r
def G7(c:CB):AA Int->AA CK
 |[]=>[]
 |a::r=>{Lo:=0,Hi:=0}::FX c {Lo:=0,Hi:=0} a r
theorem uT(c:CB)(s:CK)(a b:Int)(r:AA Int):FX c s a (b::r)=FH c s a b::FX c (FH c s a b) b r:=rfl
theorem tT(c:CB):∀(r:AA Int) (s:CK) (a:Int),AI (FX c s a r)=AI r
 |[],_,_=>rfl
 |b::r,s,a=>by unfold FX;simp[tT c r]
theorem QlW(c:CB)(r:AA Int):AI (G7 c r)=AI r:=by
 cases r with
 |nil=>rfl
 |cons a r=>unfold G7;simp[tT]
theorem _h{c:CB}(G:AI c.Az<=512){k:CE}{r:AA Int}{s:AA CK}{x:AA CM}{t:AA Ue}{hi:Int}{m:AA (Int×Ue)}{i:Nat}{a b:Int}(q:r[i]?=AC a)(F:i<=100000)(hg:C5 c a b=AE):
  ∃j l,Ev (λn=>PG n c.Az ((i+1:Nat):Int) b c k r s x t hi m c k) ((j:Nat):Int)/\c.Az[j]?=AC l/\l=Hy c a b:=by
 have E:∀j y,At c.Az j y->Ev (λn=>L5 n c.Az ((i+1:Nat):Int) b c k r s x t hi m c k (j:Int)) (bif (y.BA==a)&&(y.To==b)then .d (.d (j:Int))else .k ((j+1:Nat):Int)):=by
  intro j y d;unfold L5;simp only[d.lt,Vp,d.ix,XJ,d.nx];refine Ea (v:=(y.BA==a)&&(y.To==b)) ?_ ?_
  .unfold Wf;rw[show i64.wrap (((i+1:Nat):Int)-1)=(i:Int)by rw[Di];omega,Qz q,XJ]
   simp_all[Eh,Qa]
  grind[Qa]
 have h:Ev (λn=>L5 n c.Az ((i+1:Nat):Int) b c k r s x t hi m c k (AI c.Az:Int)) (.d (.k ())):=by
  simp_all[L5,Qa]
 rcases Qm2 c.Az (λl=>(l.BA==a)&&(l.To==b)) om E h with⟨j,y,g,f,B⟩|⟨g,f⟩
 .refine⟨j,y,?_,g.get,?_⟩
  .unfold PG;exact Ea B (Qa _)
  .unfold Hy;rw[f];rfl
 grind[C5]
theorem QqB{c:CB}(N:AI c.Az<=512){k:CE}{r:AA Int}{x:AA CM}{t:AA Ue}{h:AA (Int×Ue)×Int}(Q:AI r<=256)(P:Fx c r):
  Ev (λn=>iter (JT n c k x (r,0) t h) n ([],{Lo:=0,Hi:=0:CK},0)) (G7 c r):=by
 have F:∀(q:AA Int) (i:Nat) (a:Int) (s:CK) (o:AA CK),r[i]?=AC a->r.drop (i+1)=q->AI o=i+1->DY (λn=>JT n c k x (r,0) t h) (o,s,((i+1:Nat):Int)) (o++FX c s a q):=by
  intro q
  induction q with
  |nil=>
   intro i a s o y E H;have:=(XL.1 y).1;refine Ei ?_;unfold JT;simp only[Yt E om,Vq];refine(Qa _).eq ?_;simp[FX]
  |cons b q O=>
   intro i a s o y E H;obtain⟨g,B⟩:=QG om E;have L:=g.lt';obtain⟨j,l,M,R,X⟩:=_h (c:=c) (k:=k) (s:=o) (x:=x) (t:=t) (hi:=h.2) (m:=h.1) N y om (P.at y g.get);refine Ew ?_ ((O (i+1) b (FH c s a b) (o++[FH c s a b]) g.get B (by simp[H])).eq (by rw[uT];simp));unfold JT;simp only[g.lt,Vp,g.ix,XJ,g.nx];refine Ea (v:=FH c s a b) ?_ (Ea (EA (ge om)) (Qa _));refine KU sq (Ea M ?_)
   grind[Qz,FH,Qa]
 cases d:r with
 |nil=>
  subst d;refine(Ei ?_).ev;unfold JT;exact Qa _
 |cons a q=>
  have G:r[0]?=AC a:=by rw[d];rfl
  have J:r.drop (0+1)=q:=by rw[d];rfl
  have:=F q 0 a {Lo:=0,Hi:=0} [{Lo:=0,Hi:=0}] G J rfl;have f:At r 0 a:=Y5 om G;rw[<- d];refine(Ew (s':=([{Lo:=0,Hi:=0}],{Lo:=0,Hi:=0},((0+1:Nat):Int))) ?_ (this.eq ?_)).ev
  .unfold JT;have T:=f.lt;have W:=f.ix;have V:=f.nx
   simp_all[EA,ge]
  .rw[d];rfl
def Hl(h:Ae):Bool:=AG (h.Hi<h.Lo)||(!FG h.Lo||(!FG h.Hi||AG (h.AT<0)))
theorem rC(x:Int):Ev (λn=>MX n x) (FG x):=by
 simp_all[MX,FG,DG,Eh,Qa]
theorem QoG(h:Ae):Ev (λn=>ML n h) (Hl h):=by
 unfold ML Hl;refine Ea (QI λ_=>Ea (rC _) (QI λ_=>Ea (rC _) (QI λ_=>Qa _))) (Qa _)
def G'(c:CB)(s:AP)(l:AA Ae):Bool:=AG (s.AN<0)||(AG ((AI c.AO:Int)<=s.AN)||(AG (s.A3<0)||(AG ((AI c.A4:Int)<=s.A3)||l.any Hl)))
def Lf(c:CB)(k:CE)(s:AP)(e:Int)(x:AA CM)(l:AA Ae):CL:=
 bif !F2 k then .c0 160 else bif G' c s l then .c0 1 else bif (CX c s.AN e).2 != 0 then .c0 (CX c s.AN e).2 else bif !Dn c x then .c0 170 else
  match C8 c k x with
  |none=>.c0 170
  |some t=>.c1 ((CX c s.AN e).1,G7 c (CX c s.AN e).1,t,(G_ l).1,(G_ l).2)
theorem QjZ{c:CB}(g:Fo c)(B:CN c=0)(he:Ev (λn=>F_ n c) 0){k:CE}(q:Fq k)(s:AP)(e:Int)(x:AA CM)(H:AI x<=1000)(l:AA Ae)(P:AI l<=1048576):
  Ev (λn=>IJ n c k s e x l) (Lf c k s e x l):=by
 unfold IJ Lf;refine Ea he (Q1 (Ea (pS k q) ?_));cases M:F2 k with
 |false=>exact Qa _
 |true=>
 refine Q1 (Ea (v:=G' c s l) ?_ ?_)
 .unfold G';refine QI λ_=>QI λ_=>QI λ_=>QI λ_=>Ea ?_ (Qa _);exact Ev.contains l Hl (λn y=>ML n y) om λy _=>QoG y
 cases G' c s l with
 |true=>exact Qa _
 |false=>
 refine Q1 (Ea (l6 g he s.AN e) ?_);cases R:((CX c s.AN e).2 != 0)with
 |true=>exact Qa _
 |false=>
 have f:(CX c s.AN e).2=0:=gq;refine Q1 (Ea (Qmp c x om he) ?_);cases F:Dn c x with
 |false=>exact Qa _
 |true=>
 refine Q1 (Ea (QoB (q_ B) he (lS q M) x (ql F) H) ?_);cases C8 c k x with
 |none=>exact Qa _
 |some t=>
 obtain⟨j,d,O,Q,T,E,L,V,J⟩:=iV g f;have N:=VH E;have m:(CX c s.AN e).1.length<=256:=by
  grind[DH]
 have h:Fx c (CX c s.AN e).1:=by rw[J];exact QlZ g B N O L
 refine Ea (QoF l om) ?_;have G:CX c s.AN e=((CX c s.AN e).1,0):=Prod.ext rfl f;rw[G];exact Ea (QqB g.legs m h) (Qa _)
set_option maxRecDepth 10000
structure Ck where
 c:CB
 k:CE
 r:List Int
 s:List CK
 H:List CM
 T:List Ue
 m:List (Int×Ue)
 hi:Int
abbrev zX:Ue:={Ai:=0,A_:={Lo:=0,Hi:=0}}
def Ck.seg(t:Ck)(x:Ue):Prop:=∃j:Nat,x.Ai+1=(j:Int)/\j<AI t.k.AS+1
structure C9 (t:Ck):Prop where
 ty:Ev (λn=>F_ n t.c) 0
 crs:Fc t.c
 clk:KY t.k
 sl:AI t.s=AI t.r
 rl:AI t.r<=256
 tl:AI t.T=AI t.H
 hl:AI t.H<=1000
 hit:∀(i:Nat) (h:CM),t.H[i]?=AC h->HC t.c h
 sg:∀x∈t.T,t.seg x
 hs:∀p x,Jo t.m p=AC x->t.seg x
 mi:0<=t.c.AQ.A9
def DF(t:Ck)(p h:Int):Ue×Bool:=bif JM t.m p||AG (h<0)then(Qm t.m p zX,JM t.m p)else((t.T[h.toNat]?).getD zX,AE)
def HL(t:Ck)(h:Int):Prop:=h<0\/h.toNat<AI t.H
theorem Rf{α:Type}{l:AA α}{h:Int}(f:0<=h)(d:h.toNat<AI l):∃x,l[h.toNat]?=AC x/\CJ l h=AC x:=by
 refine⟨l[h.toNat]'(d),sq,?_⟩
 grind[Qz]
theorem l9{t:Ck}(ok:C9 t)(p h:Int)(g:HL t h):Ev (λn=>Ig n p h t.c t.k t.r t.s t.H t.T t.hi t.m t.c t.k) (DF t p h):=by
 unfold Ig DF;refine Ea (Qa _) (Ea (QI λ_=>Qa _) ?_);refine JS (λ_=>Qa _) λq=>?_;rw[XX,decide_eq_false_iff_not]at q;obtain⟨x,d,f⟩:=Rf (l:=t.T) (h:=h) om (by have:=ok.tl;rcases g with z|z<;>omega);rw[f,d];exact Qa _
theorem iT{t:Ck}(ok:C9 t){p h:Int}(g:HL t h)(q:(DF t p h).2=AE):t.seg (DF t p h).1:=by
 unfold DF at q⊢;cases e:(JM t.m p||AG (h<0))with
 |true=>
  rw[e]at q;simp only[Vp]at q⊢;rw[lh]at q;obtain⟨x,d⟩:=Option.isSome_iff_exists.1 q;unfold Qm;rw[d];exact ok.hs p x d
 |false=>
  simp only[Vq];rw[XX,decide_eq_false_iff_not]at e;obtain⟨x,f,j⟩:=Rf (l:=t.T) (h:=h) om (by have:=ok.tl;rcases g with z|z<;>omega);rw[f];exact ok.sg x gq
def RG(d w:CK):Bool:=AG ((if d.Lo<w.Lo then w.Lo else d.Lo)<=(if w.Hi<d.Hi then w.Hi else d.Hi))
def LW(c:CB)(k:CE)(g:Int)(a b:Int):CK:=
 bif g<0 then {Lo:=a,Hi:=i64.wrap (b+c.AQ.Am)}else match k.AS[g.toNat]? with
 |none=>{Lo:=0,Hi:=0}
 |some s=>bif !Ia c s.Al then {Lo:=0,Hi:=0}else
  {Lo:=i64.wrap (i64.wrap (a+(F1 c (Ci c s.Al) s a).Lo)-D5 k (g.toNat+1) 0),Hi:=i64.wrap (i64.wrap (b+(F1 c (Ci c s.Al) s b).Hi)+D5 k 0 (g.toNat+1))}
theorem QqA{t:Ck}(ok:C9 t){x:Ue}(Y:t.seg x){a b:Int}(P:Df a)(M:Df b)(Q:a<=b):∃e,Ev (λn=>Mk n t.c t.k x.Ai {Lo:=a,Hi:=b}) (LW t.c t.k x.Ai a b,e):=by
 obtain⟨j,j1,j2⟩:=Y;have hs:=ok.clk.dims.segs;have start:∀{v:CK×Int},Ev (λn=>(bif x.Ai<0 then AC ({Lo:=a,Hi:=i64.wrap (b+t.c.AQ.Am):CK},0)else(CJ t.k.AS x.Ai).bind λf=>(K0 n t.c f.Al).bind λG=>(bif (!G)then AC ({Lo:=0,Hi:=0:CK},1)else(Ik n t.c f a).bind λq=>(CJ t.k.BQ (i64.wrap (x.Ai+1))).bind λE=>(CJ E 0).bind λg=>(Ik n t.c f b).bind λy=>(CJ t.k.BQ 0).bind λB=>(CJ B (i64.wrap (x.Ai+1))).bind λF=>AC ({Lo:=i64.wrap ((i64.wrap (a+q.Lo))-g),Hi:=i64.wrap ((i64.wrap (b+y.Hi))+F):CK},0)):AB (CK×Int))) v->Ev (λn=>Mk n t.c t.k x.Ai {Lo:=a,Hi:=b}) v:=by
  intro v hv;unfold Mk;refine Ea ok.ty (Q1 (Ea ok.clk.ev (Q1 (Ea (v:=AD) ?_ (Q1 hv)))));simp only[dF (x.Ai< -1),dF ((AI t.k.AS:Int)<=x.Ai),Vq];refine Ea (d6 a) ?_;rw[IS.2 P];refine Q1 (Ea (d6 b) ?_);rw[IS.2 M]
  simp_all[YO,Qa]
 unfold LW;by_cases d:x.Ai<0
 .rw[Jf d];exact⟨_,start (KU (Jf d) (Qa _))⟩
 rw[YO d];simp only[Vq];obtain⟨s,V,L⟩:=Rf (l:=t.k.AS) (h:=x.Ai) om om;rw[V];simp only;cases H:Ia t.c s.Al with
 |false=>exact⟨_,start (ZN (YO d) (YC L (Ea ((l7 t.c s.Al).eq H) (KU rfl (Qa _)))))⟩
 |true=>
  obtain⟨i,m,N,J⟩:=_v H;have R:Ci t.c s.Al=m.AW:=by simp_all[Ci]
  have O:=ok.clk.anc s gq;obtain⟨X,T⟩:=ok.clk.dims.get (i:=x.Ai.toNat+1) (j:=0) om om;obtain⟨g3,W⟩:=ok.clk.dims.get (i:=0) (j:=x.Ai.toNat+1) om om;have w:i64.wrap (x.Ai+1)=((x.Ai.toNat+1:Nat):Int):=by rw[Di];omega
  refine⟨0,start (ZN (YO d) (YC L (Ea ((l7 t.c s.Al).eq H) (ZN rfl (Ea (kn ok.crs J N O P) (YC (v:=t.k.BQ[x.Ai.toNat+1]?.getD []) (by rw[w];exact Qz X) (YC (v:=D5 t.k (x.Ai.toNat+1) 0) (Qz (i:=0) T) (Ea (kn ok.crs J N O M) (YC (v:=t.k.BQ[0]?.getD []) (Qz (i:=0) g3) (YC (v:=D5 t.k 0 (x.Ai.toNat+1)) (by rw[w];exact Qz W) ?_))))))))))⟩;rw[R];exact Qa _
def I1(t:Ck)(h p:Int):Bool:=bif !(JM t.m p)then AE else match t.H[h.toNat]?,t.T[h.toNat]? with
 |some y,AC x=>RG (LW t.c t.k x.Ai y.BT y.A7) (Qm t.m p zX).A_
 |_,_=>AE
theorem QoN{t:Ck}(ok:C9 t){h p:Int}(g:0<=h)(f:h.toNat<AI t.H):Ev (λn=>Ox n h p t.c t.k t.c t.k t.r t.s t.H t.T t.hi t.m) (I1 t h p):=by
 unfold Ox I1;refine Ea (Qa _) ?_;cases JM t.m p with
 |false=>exact Qa _
 |true=>
  obtain⟨y,y1,y2⟩:=Rf (l:=t.H) g f;obtain⟨x,j,B⟩:=Rf (l:=t.T) g (by rw[ok.tl];exact f);have d:=ok.hit _ _ y1;rw[y2,B,y1,j];refine Q1 ?_;simp only[XJ];obtain⟨e,q⟩:=QqA ok (ok.sg x gq) d.fi d.la d.le;refine Ea q ?_;unfold MU;exact Qa _
def HZ(t:Ck)(i j:Int):CK:=
 let a:=(t.s[i.toNat]?).getD {Lo:=0,Hi:=0}
 let b:=(t.s[j.toNat]?).getD {Lo:=0,Hi:=0}
 {Lo:=if i64.wrap (b.Lo-a.Lo)<2199023255552 then i64.wrap (b.Lo-a.Lo)else 2199023255552,Hi:=if i64.wrap (b.Hi-a.Hi)<2199023255552 then i64.wrap (b.Hi-a.Hi)else 2199023255552}
theorem hQ{t:Ck}(ok:C9 t){i j:Int}(d:0<=i)(f:i.toNat<AI t.r)(g:0<=j)(h:j.toNat<AI t.r):Ev (λn=>J_ n i j t.c t.k t.r t.s t.H t.T t.hi t.m t.c t.k) (HZ t i j):=by
 obtain⟨a,y,x⟩:=Rf (l:=t.s) d (by rw[ok.sl];exact f);obtain⟨b,q,B⟩:=Rf (l:=t.s) g (by rw[ok.sl];exact h)
 grind[J_,HZ,Qa]
def Ll(t:Ck)(a b:Ue):CK:=
 bif (i64.wrap (a.Ai+1)) != (i64.wrap (b.Ai+1))then
  {Lo:=i64.wrap (i64.wrap (b.A_.Lo-a.A_.Hi)-D5 t.k (b.Ai+1).toNat (a.Ai+1).toNat),Hi:=i64.wrap (i64.wrap (b.A_.Hi-a.A_.Lo)+D5 t.k (a.Ai+1).toNat (b.Ai+1).toNat)}
 else {Lo:=i64.wrap (b.A_.Lo-a.A_.Hi),Hi:=i64.wrap (b.A_.Hi-a.A_.Lo)}
def FY(t:Ck)(a:Ue)(i:Int)(b:Ue)(j:Int):Bool:=RG (Ll t a b) (HZ t i j)
theorem Qj3{t:Ck}(ok:C9 t){a b:Ue}{i j:Int}(h:t.seg a)(F:t.seg b)(f:0<=i)(g:i.toNat<AI t.r)(q:0<=j)(B:j.toNat<AI t.r):
  Ev (λn=>K6 n a i b j t.c t.k t.r t.s t.H t.T t.hi t.m t.c t.k) (FY t a i b j):=by
 obtain⟨x,E,d⟩:=h;obtain⟨y,y1,y2⟩:=F;have M:=ok.clk.dims.segs;unfold K6 FY;refine Ea (v:=Ll t a b) ?_ (Ea (hQ ok f g q B) ?_)
 .unfold Ll;rw[E,y1,QJ (n:=(x:Int)) om om,QJ (n:=(y:Int)) om om];refine JS (λ_=>?_) λ_=>Qa _;obtain⟨L,J⟩:=ok.clk.dims.get (i:=y) (j:=x) y2 d;obtain⟨N,G⟩:=ok.clk.dims.get (i:=x) (j:=y) d y2
  grind[Qz,Qa]
 .unfold MU;exact Qa _
structure Ke (t:Ck) (s:Uh):Prop where
 la:s.Bm<(AI t.r:Int)
 wh:0<=s.Bm->t.seg s.Bw
 r0:0<=s.row
 r1:s.row<=1000
def HU(t:Ck)(s:Uh)(p h:Int):Bool:=(AG (0<=h)&& !I1 t h p)||(AG (0<=s.Bm)&& !FY t s.Bw s.Bm (DF t p h).1 p)
def DC(t:Ck)(s:Uh)(p h:Int):Uh×Bool:=
 bif !(DF t p h).2 then({s with row:=s.row+1},AG (s.row+1<=t.c.AQ.A9))else bif HU t s p h then(s,AD)else({Bm:=p,Bw:=(DF t p h).1,row:=0},AE)
theorem lG{t:Ck}(ok:C9 t){s:Uh}(f:Ke t s){p h:Int}(F:0<=p)(E:p.toNat<AI t.r)(g:HL t h):
  Ev (λn=>Kw n s p h t.c t.k t.r t.s t.H t.T t.hi t.m t.c t.k) (DC t s p h):=by
 have r0:=f.r0;have r1:=f.r1;unfold Kw DC;refine Ea (l9 ok p h g) ?_;rw[QJ (n:=s.row+1) om om];cases B:(DF t p h).2 with
 |false=>exact Qa _
 |true=>
  have y:=iT ok g B;refine Q1 (Ea (v:=HU t s p h) ?_ ?_)
  .have j:Ev (λn=>(bif 0<=s.Bm then(K6 n s.Bw s.Bm (DF t p h).1 p t.c t.k t.r t.s t.H t.T t.hi t.m t.c t.k).bind λx=>AC (!x)else AC AD:AB Bool)) (AG (0<=s.Bm)&& !FY t s.Bw s.Bm (DF t p h).1 p):=by
    refine Eh λq=>?_;have q:=Vv q;exact Ea (Qj3 ok (f.wh q) y q (by have:=f.la;omega) F E) (Qa _)
   unfold HU;by_cases d:0<=h
   .rw[Jf d,Vz];have G:h.toNat<AI t.H:=by rcases g with z|z<;>omega
    refine Ea (QoN ok d G) ?_;exact QI λ_=>j
   grind
  .cases HU t s p h<;>exact Qa _
theorem kv{t:Ck}(ok:C9 t){s:Uh}(d:Ke t s){p h:Int}(g:p<(AI t.r:Int))(j:HL t h)(m:s.row<1000):Ke t (DC t s p h).1:=by
 have r0:=d.r0;unfold DC;cases f:(DF t p h).2 with
 |false=>exact⟨d.la,d.wh,gq,gq⟩
 |true=>
  simp only[Xg,Vq];cases HU t s p h with
  |true=>exact d
  |false=>exact⟨g,λ_=>iT ok j f,sq,sq⟩
def Fk(t:Ck)(W:CW)(u:AA (Int×Bool))(i:Nat)(h:Int):Bool:=
 AG (h<0)||(AG ((AI t.H:Int)<=h)||((((t.H[h.toNat]?).map (·.Al)).getD 0 != (t.r[i]?).getD 0)||(Qm u h AD||AG (W.A7<(i:Int)))))
def admL(t:Ck)(W:CW):AA Int->Nat->AA (Int×Bool)->Uh->Bool
 |[],_,_,_=>AE
 |h::r,i,u,s=>
  bif (h != -1)&&Fk t W u i h then AD else
  bif W.A7<(i:Int) then admL t W r (i+1) (bif h != -1 then QL u h AE else u) s else
  bif !(DC t s (i:Int) h).2 then AD else admL t W r (i+1) (bif h != -1 then QL u h AE else u) (DC t s (i:Int) h).1
theorem dz(t:Ck)(W:CW)(h:Int)(r:AA Int)(i:Nat)(u:AA (Int×Bool))(s:Uh):admL t W (h::r) i u s=
  bif (h != -1)&&Fk t W u i h then AD else
  bif W.A7<(i:Int) then admL t W r (i+1) (bif h != -1 then QL u h AE else u) s else
  bif !(DC t s (i:Int) h).2 then AD else admL t W r (i+1) (bif h != -1 then QL u h AE else u) (DC t s (i:Int) h).1:=rfl
def SD(l:AA Int)(x:Int):Bool:=AG (0<=Dc (λy=>x==y) l 0)
def KZ(W:CW):AA CM->Nat->Int->Int
 |[],_,a=>a
 |_::r,i,a=>KZ W r (i+1) (bif !SD W.BL (i:Int)then i64.wrap (a+1)else a)
theorem Qmm(W:CW)(H:AA CM)(E:AI W.BL<=1048576)(hH:AI H<=1048576):Ev (λn=>PF n H W) (KZ W H 0 0):=by
 have d:∀(r:AA CM) (i:Nat) (a:Int),H.drop i=r->i<=AI H->DY (λn=>OC n H W) (a,(i:Int)) (KZ W r i a):=by
  intro r
  induction r with
  |nil=>
   intro i a h q;refine Ei ?_;unfold OC;simp only[Yt h q,Vq];exact Qa _
  |cons y r B=>
   intro i a h q;obtain⟨f,g⟩:=QG om h;have t:=f.lt';refine Ew ?_ (B (i+1) _ g om);unfold OC;simp only[f.lt,Vp,f.nx];refine Ea (v:=SD W.BL (i:Int)) ?_ ?_
   .unfold WE SD;refine Ea (v:=Dc (λy=>(i:Int)==y) W.BL 0) ?_ (Qa _);unfold WK;refine Ev.first W.BL _ om (λj x m=>?_) ?_
    .unfold TV;simp only[m.lt,Vp,m.ix,XJ,m.nx];cases((i:Int)==x)<;>exact Qa _
    simp_all[TV,Qa]
   grind[Qa]
 unfold PF;exact Ea (d H 0 0 rfl (XU _)).ev (Qa _)
def H0(t:Ck)(W:CW):Bool:=((AI W.BL:Int) != (AI t.r:Int))||(AG (W.A7< -1)||(AG ((AI t.r:Int)<=W.A7)||(AG (W.A7<t.hi)||AG (t.c.AQ.A8<KZ W t.H 0 0))))
def Ry:Uh:={DR with Bm:=(-1)}
def FD(t:Ck)(W:CW):Bool:=bif H0 t W then AD else admL t W W.BL 0 [] Ry
theorem oz{t:Ck}:Ke t Ry:=⟨by show(-1:Int)<_;omega,λh=>by have:(0:Int)<= -1:=h;omega,by show(0:Int)<=0;omega,by show(0:Int)<=1000;omega⟩
theorem th{t:Ck}{W:CW}{u:AA (Int×Bool)}{i:Nat}{h:Int}(q:((h != -1)&&Fk t W u i h)=AD):HL t h/\(h= -1\/(0<=h/\Fk t W u i h=AD)):=by
 rw[Bool.and_eq_false_iff]at q;rcases q with q|q
 .have:h= -1:=by grind
  exact⟨.inl om,.inl this⟩
 .have d:=q;unfold Fk at d;simp only[XX,decide_eq_false_iff_not]at d;exact⟨.inr om,.inr ⟨om,q⟩⟩
theorem pR{t:Ck}(ok:C9 t)(W:CW)(hW:AI W.BL<=1048576):Ev (λn=>K5 n W t.c t.k t.r t.s t.H t.T t.hi t.m t.c t.k) (FD t W):=by
 unfold K5 FD;refine Ea (v:=H0 t W) ?_ ?_
 .unfold H0;exact QI λ_=>QI λ_=>QI λ_=>QI λ_=>Ea (Qmm W t.H hW (by have:=ok.hl;omega)) (Qa _)
 cases O:H0 t W with
 |true=>exact Qa _
 |false=>
 unfold H0 at O;simp only[XX,decide_eq_false_iff_not]at O;obtain⟨j,b1,b2,b3,_⟩:=O;have j:AI W.BL=AI t.r:=by have:=j;simp[bne]at this;omega
 have rl:=ok.rl;have P:∀(r:AA Int) (i:Nat) (u:AA (Int×Bool)) (s:Uh),W.BL.drop i=r->i<=AI W.BL->Ke t s->s.row<=(i:Int)->DY (λn=>JW n W t.c t.k t.r t.s t.H t.T t.hi t.m t.c t.k) (u,s,(i:Int)) (bif admL t W r i u s then CG.k ()else CG.d AD):=by
  intro r
  induction r with
  |nil=>
   intro i u s Q hi B _;refine Ei ?_;unfold JW admL;simp only[Yt Q hi,Vq];exact Qa _
  |cons h r Y=>
   intro i u s Q hi B aa;obtain⟨f,x⟩:=QG om Q;have ab:=f.lt';rw[dz];have N:t.r[i]?=AC (t.r[i]'om):=XK om;have d:Ev (λn=>((bif (h != (-1))then((bif h<0 then AC AE else(bif (AI t.H:Int)<=h then AC AE else(CJ t.H h).bind λE=>(CJ t.r (i:Int)).bind λq=>(bif (E.Al != q)then AC AE else(AC (Qm u h AD)).bind λL=>(bif L then AC AE else AC (AG (W.A7<(i:Int))))))):AB Bool).bind λM=>(bif M then AC (.d (.d (.d (.d AD))))else(AC (QL u h AE)).bind λG=>AC (.k G))else AC (.k u)):AB (CG (AA (Int×Bool)) (CG ((AA (Int×Bool))×Uh) (CG ((AA (Int×Bool))×Uh×Int) (CG Unit Bool))))))
     (bif (h != -1)&&Fk t W u i h then .d (.d (.d (.d AD)))else .k (bif h != -1 then QL u h AE else u)):=by
    cases hn:(h != -1)with
    |false=>exact Qa _
    |true=>
     refine RY (Ea (v:=Fk t W u i h) ?_ ?_)
     .unfold Fk;refine QI λR=>QI λq2=>?_;have R:=Vw R;have q2:=Vw q2;obtain⟨y,y1,y2⟩:=Rf (l:=t.H) (h:=h) om om;rw[y2,y1,XJ,Qz N,XJ,N];exact QI λ_=>Ea (Qa _) (QI λ_=>Qa _)
     .cases Fk t W u i h<;>exact Qa _
   cases g:((h != -1)&&Fk t W u i h)with
   |true=>
    rw[g]at d;refine Ei ?_;unfold JW;simp only[f.lt,Vp,f.ix,XJ,f.nx];exact Ea (Ea d (Qa _)) (Qa _)
   |false=>
    rw[g]at d;obtain⟨V,_⟩:=th g;simp only[Vq]at d⊢;by_cases F:W.A7<(i:Int)
    .rw[Jf F,Vp];refine Ew ?_ (Y (i+1) _ s x om B om);unfold JW;simp only[f.lt,Vp,f.ix,XJ,f.nx];exact Ea (v:=CG.k (_,_)) (Ea d (KU (Jf F) (Qa _))) (Qa _)
    .rw[YO F,Vq];have X:=lG ok B (p:=(i:Int)) (h:=h) om om V;cases J:(DC t s (i:Int) h).2 with
     |false=>
      refine Ei ?_;unfold JW;simp only[f.lt,Vp,f.ix,XJ,f.nx];refine Ea (v:=CG.d (.d (.d AD))) (Ea d (ZN (YO F) (Ea X (v:=(DC t s (i:Int) h)) ?_))) (Qa _);rw[J];exact Qa _
     |true=>
      simp only[Xg,Vq];refine Ew ?_ (Y (i+1) _ _ x om (kv ok B om V om) ?_)
      .unfold JW;simp only[f.lt,Vp,f.ix,XJ,f.nx];refine Ea (v:=CG.k (_,(DC t s (i:Int) h).1)) (Ea d (ZN (YO F) (Ea X (v:=(DC t s (i:Int) h)) ?_))) (Qa _);rw[J];exact Qa _
      .have r0:=B.r0;unfold DC;cases(DF t (i:Int) h).2 with
       |false=>show s.row+1<=_;omega
       |true=>
        simp only[Xg,Vq];cases HU t s (i:Int) h with
        |true=>show s.row<=_;omega
        |false=>show(0:Int)<=_;omega
 refine Q1 ?_;unfold Mj;simp only[XJ];refine Ea (P W.BL 0 [] Ry rfl (XU _) oz (by show(0:Int)<=_;omega)).ev ?_;cases admL t W W.BL 0 [] Ry<;>exact Qa _
set_option maxRecDepth 10000
theorem QoH(k:CE)(w:Fq k):∃b,Ev (λn=>Ou n k) b/\(b=AE->AI k.AS<=8):=by
 unfold Ou;cases d:(AG (8<(AI k.AS:Int))||AG (10<(AI k.BQ:Int)))with
 |true=>exact⟨AD,Ea (v:=AE) (Eu (QI λ_=>Qa _) d) (Qa _),nofun⟩
 |false=>
  have g:=d;simp only[XX,decide_eq_false_iff_not]at g;refine⟨bif k.BQ.all (λr=> !decide (12<(AI r:Int)))then AE else AD,Ea (v:=AD) (Eu (QI λ_=>Qa _) d) (Q1 (Ea (sR k.BQ (λr=> !decide (12<(AI r:Int))) (CG.d AD) (CG.k ()) om (λi x f=>?_) ?_) ?_)),λ_=>om⟩
  .unfold UL;simp only[f.lt,Vp,f.ix,XJ,f.nx]
   grind[Qa]
  .simp_all[UL,Qa]
  grind[Qa]
def P_(c:CB)(k:CE)(s:AP)(e:Int)(x:AA CM)(l:AA Ae)(t:AA Ue):Ck:=
 {c:=c,k:=k,r:=(CX c s.AN e).1,s:=G7 c (CX c s.AN e).1,H:=x,T:=t,m:=(G_ l).1,hi:=(G_ l).2}
def Dx(c:CB)(k:CE)(s:AP)(e:Int)(x:AA CM)(l:AA Ae):Int ⊕ Ck:=
 bif CN c != 0 then .inl (CN c)else bif !F2 k then .inl 160 else bif G' c s l then .inl 1 else bif (CX c s.AN e).2 != 0 then .inl (CX c s.AN e).2 else bif !Dn c x then .inl 170 else
  match C8 c k x with
  |none=>.inl 170
  |some t=>.inr (P_ c k s e x l t)
def HY:Int ⊕ Ck->CL
 |.inl e=>.c0 e
 |.inr t=>.c1 (t.r,t.s,t.T,t.m,t.hi)
theorem hY{c:CB}(f:Ev (λn=>F_ n c) (CN c))(q:CN c=0->Fo c){k:CE}(g:Fq k)(s:AP)(e:Int)(x:AA CM)(j:AI x<=1000)(l:AA Ae)(m:AI l<=1048576):
  Ev (λn=>IJ n c k s e x l) (HY (Dx c k s e x l)):=by
 unfold Dx;cases h:(CN c != 0)with
 |true=>
  unfold IJ;exact Ea f (KU h (Qa _))
 |false=>
  have d:CN c=0:=gq;refine(QjZ (q d) d (d▸f) g s e x j l m).eq ?_;unfold Lf;cases F2 k with
  |false=>rfl
  |true=>
  cases G' c s l with
  |true=>rfl
  |false=>
  cases((CX c s.AN e).2 != 0)with
  |true=>rfl
  |false=>
  cases Dn c x with
  |false=>rfl
  |true=>cases C8 c k x<;>rfl
structure H5 (c:CB) (k:CE) (s:AP) (e:Int) (x:List CM) (l:List Ae) (t:Ck):Prop where
 ok:C9 t
 cE:CN c=0
 clk:F2 k=AE
 arg:G' c s l=AD
 rt:(CX c s.AN e).2=0
 hit:Dn c x=AE
 is:t=P_ c k s e x l t.T
 tm:C8 c k x=AC t.T
theorem QpI{c:CB}(ty:Ev (λn=>F_ n c) (CN c))(R:CN c=0->Fo c){k:CE}(X:Fq k){s:AP}{e:Int}{x:AA CM}(hx:AI x<=1000){l:AA Ae}{t:Ck}(h:Dx c k s e x l=.inr t):H5 c k s e x l t:=by
 unfold Dx at h;cases hc:(CN c != 0)with
 |true=>grind
 |false=>
 rw[hc,Vq]at h;have f:CN c=0:=gq;cases F:F2 k with
 |false=>grind
 |true=>
 rw[F]at h;cases N:G' c s l with
 |true=>grind
 |false=>
 rw[N]at h;cases Y:((CX c s.AN e).2 != 0)with
 |true=>grind
 |false=>
 have q:(CX c s.AN e).2=0:=gq;rw[Y]at h;cases H:Dn c x with
 |false=>grind
 |true=>
 rw[H]at h;cases m:C8 c k x with
 |none=>grind
 |some T=>
 rw[m]at h;cases h;have g:=R f;obtain⟨j,d,k',r1,r2,r3,r4,r5,r6⟩:=iV g q;have J:(CX c s.AN e).1.length<=256:=by
  grind[DH]
 obtain⟨T1,T2⟩:=rT m;have kk:=lS X F;refine⟨⟨f▸ty,q_ f,kk,QlW _ _,J,T1,hx,λi y B=>ql H y (VH B),λy B=>?_,λp y B=>?_,?_⟩,f,F,N,q,H,rfl,m⟩
 .obtain⟨i,M,e1⟩:=List.getElem_of_mem B;have G:i<AI x:=by have:i<AI T:=M;omega
  obtain⟨O,g1,P⟩:=T2 i _ (XK G);have V:O=y:=by
   have:T[i]?=AC y:=by rw[<- e1];exact XK M
   grind
  subst V;rcases Qnb P with z|⟨L,s',z1,Q,_⟩
  .exact⟨0,om,om⟩
  .have:=(XL.1 Q).1;exact⟨L+1,om,by show L+1<AI k.AS+1;omega⟩
 .have:=Qog l p;rw[show Jo (G_ l).1 p=AC y from B]at this;cases W:l.find? (λh=>h.AT==p)with
  |none=>grind
  |some h'=>
   rw[W]at this;cases this;exact⟨0,rfl,om⟩
 .have E:=(Y3 f).2.1;unfold Cx Li DG at E;simp only[XW,Vr]at E;exact E.2.2.2.2.2.2.2.2.2.1.1.1
theorem Qnd{c:CB}{k:CE}{s:AP}{e:Int}{x:AA CM}{l:AA Ae}{v:Int}(h:Dx c k s e x l=.inl v):v≠0:=by
 unfold Dx at h
 grind
def Tt{α:Type}(f:Nat->AB α)(Q:α->Prop):Prop:=∃v,Ev f v/\Q v
section
variable {α β S B:Type} {f g:Nat->AB α} {P Q:α->Prop} {R:β->Prop}
theorem Tt.p{v:α}(h:Q v):Tt (λ_=>AC v) Q:=⟨v,Qa v,h⟩
theorem Tt.b{k:Nat->α->AB β}(h:Tt f P)(q:∀v,P v->Tt (λn=>k n v) R):Tt (λn=>(f n).bind (k n)) R:=by
 obtain⟨v,e,p⟩:=h;obtain⟨w,d,r⟩:=q v p;exact⟨w,Ea e d,r⟩
theorem Qe{k:Nat->α->AB β}(h:Tt f λ_=>True)(q:∀v,Tt (λn=>k n v) R):Tt (λn=>(f n).bind (k n)) R:=Tt.b h λv _=>q v
theorem Tt.c{c:Bool}(a:c=AE->Tt f Q)(b:c=AD->Tt g Q):Tt (λn=>bif c then f n else g n) Q:=by
 cases c with
 |true=>exact a rfl
 |false=>exact b rfl
theorem Tt.z{v:α}(h:Q v:=by exact trivial):Tt (λ_=>AC v) Q:=Tt.p h
theorem Tt.k{c:Bool}{v:α}(b:c=AD->Tt g Q)(h:Q v:=by exact trivial):Tt (λn=>bif c then AC v else g n) Q:=Tt.c (λ_=>Tt.p h) b
theorem Qv{c:Bool}{v:α}(b:Tt g Q)(h:Q v:=by exact trivial):Tt (λn=>bif c then AC v else g n) Q:=Tt.c (λ_=>Tt.p h) λ_=>b
theorem Tt.n{c:Bool}{v:α}(b:c=AD->Tt g Q)(h:Q v:=by exact nofun):Tt (λn=>bif c then AC v else g n) Q:=Tt.c (λ_=>Tt.p h) b
theorem Tt.w(h:Tt f P)(q:∀v,P v->Q v):Tt f Q:=let⟨v,e,p⟩:=h;⟨v,e,q v p⟩
theorem Tt.any(h:Tt f P):Tt f λ_=>True:=h.w λ_ _=>trivial
theorem Tt.e{v:α}(h:Ev f v)(q:Q v):Tt f Q:=⟨v,h,q⟩
theorem Tt.o{o:AB α}{v:α}(h:o=AC v)(q:Q v):Tt (λ_=>o) Q:=⟨v,EA h,q⟩
theorem Tt.s(h:Tt (λn=>f (n+1)) Q):Tt f Q:=let⟨v,e,q⟩:=h;⟨v,Jc e,q⟩
theorem Tt.i{l:AA α}{i:Int}(d:0<=i)(f:i<(AI l:Int)):Tt (λ_=>CJ l i) (λx=>x∈l):=by
 obtain⟨k,rfl⟩:=Int.eq_ofNat_of_zero_le d;have h:k<AI l:=om;exact⟨l[k],EA (Qz sq),Ve h⟩
theorem Tt.a{l m:AA α}(h:AI l+AI m<=4294967296):Tt (λ_=>app l m) (λx=>x=l++m):=Tt.o (S6 l m h) rfl
theorem Tt.sl{l:AA α}{i j:Int}(g:0<=i)(f:i<=j)(h:j<=(AI l:Int)):Tt (λ_=>Dj l i j) (λx=>(AI x:Int)=j-i/\ ∀y∈x,y∈l):=by
 refine Tt.o (v:=(l.take j.toNat).drop i.toNat) ?_ ⟨?_,λy d=>List.mem_of_mem_take (List.mem_of_mem_drop d)⟩
 .unfold Dj
  grind
 grind
theorem Tt.set{l:AA α}{i:Int}{x:α}(f:0<=i)(d:i<(AI l:Int)):Tt (λ_=>JK l i x) (λm=>AI m=AI l/\ ∀y∈m,y=x\/y∈l):=by
 refine Tt.o (v:=l.set i.toNat x) ?_ gq;unfold JK;simp[f,d]
abbrev Fd(I:S->Prop)(m:S->Nat)(s:S)(Q:B->Prop):CG S B->Prop
 |.k s'=>I s'/\m s'<m s
 |.d b=>Q b
theorem Tt.l{step:Nat->S->AB (CG S B)}{Q:B->Prop}(I:S->Prop)(m:S->Nat)(h:∀s,I s->Tt (λn=>step n s) (Fd I m s Q))(s:S)(d:I s):Tt (λn=>iter (step n) n s) Q:=by
 have f:∀k s,m s<=k->I s->∃b,DY step s b/\Q b:=by
  intro k
  induction k with
  |zero=>
   intro s g d;obtain⟨c,e,q⟩:=h s d
   grind[DY.done]
  |succ k j=>
   intro s g d;obtain⟨c,e,q⟩:=h s d
   grind[DY.cont,DY.done]
 obtain⟨b,e,q⟩:=f (m s) s (XT _) d;exact⟨b,e.ev,q⟩
abbrev F9(pk:β->Int->S)(I:Nat->β->Prop)(i:Nat)(Q:B->Prop):CG S B->Prop
 |.k s=>∃a,s=pk a ((i+1:Nat):Int)/\I (i+1) a
 |.d b=>Q b
theorem QN{step:Nat->S->AB (CG S B)}{Q:B->Prop}(l:AA α)(d:β->Int->S)(I:Nat->β->Prop)(H:AI l<=4611686018427387904)
  (h:∀i x a,At l i x->I i a->Tt (λn=>step n (d a i)) (F9 d I i Q))(e:∀a,I (AI l) a->Tt (λn=>step n (d a (AI l))) (λc=>∃b,c=.d b/\Q b))(j:β)(s0:S)(L:s0=d j ((0:Nat):Int))(hi:I 0 j):
  Tt (λn=>iter (step n) n s0) Q:=by
 have f:∀k i a,i+k=AI l->I i a->∃b,DY step (d a i) b/\Q b:=by
  intro k
  induction k with
  |zero=>
   intro i a F m;have:i=AI l:=om;subst this;obtain⟨c,q,b,rfl,y⟩:=e a m;exact⟨b,Ei q,y⟩
  |succ k G=>
   intro i a F m;have g:i<AI l:=om;obtain⟨c,q,E⟩:=h i l[i] a (Y5 H (XK g)) m;cases c with
   |k O=>
    obtain⟨J,rfl,t⟩:=E;obtain⟨b,M,N⟩:=G (i+1) J om t;exact⟨b,Ew q M,N⟩
   |d b=>exact⟨b,Ei q,E⟩
 obtain⟨b,q,y⟩:=f (AI l) 0 j om hi;subst L;exact⟨b,q.ev,y⟩
theorem Tt.find{d:Nat->Int->AB Bool}(l:AA α)(f:AI l<=4611686018427387904)(h:∀i x,At l i x->Tt (λn=>d n i) λ_=>True):
  Tt (λn=>iter (λs:Int=>((bif s<(AI l:Int) then d n s else AC AD):AB Bool).bind λb=>bif b then AC (CG.k (i64.wrap (s+1)))else AC (CG.d s)) n 0) (λr=>0<=r/\r<=(AI l:Int)):=by
 refine QN (β:=Unit) l (λ_ i=>i) (λ_ _=>True) f (λi x a ha _=>?_) (λa _=>?_) () _ rfl trivial
 .have:=ha.lt';simp only[ha.lt,Vp,ha.nx];exact Qe (h i x ha) λb=>Tt.c (λ_=>Tt.p ⟨(),rfl,trivial⟩) λ_=>Tt.p ⟨om,om⟩
 .simp only[Jp,Vq,XJ];exact Tt.p ⟨_,rfl,om,om⟩
end
theorem Ru(a b c:Int):Tt (λn=>Fa n a b c) λr=>r=AE->b<=a:=by
 simp_all[Fa,Tt.c,Tt.p]
theorem Jn(a b c:Int):Tt (λn=>Fa n a b c) λ_=>True:=(Ru a b c).any
theorem QlJ(s:AP):Tt (λn=>Kx n s) λr=>r=AE->0<=s.AN:=by
 unfold Kx I_ H_ J5;refine Tt.b (P:=λr=>r=AE->0<=s.AN) (Qe (Qe (Jn ..) λ_=>Tt.z) λr=>Tt.c (λ_=>Tt.b (Ru ..) λr h=>Tt.c (λq=>Tt.w (P:=λ_=>True) ?_ λ_ _ _=>h q) λ_=>Tt.p nofun) λ_=>Tt.p nofun) λv h=>Tt.p h
 repeat' first|with_reducible exact Tt.p trivial|with_reducible refine Tt.c (λ_=>?_) λ_=>?_|with_reducible refine Qe ?_ λ_=>?_|with_reducible exact Jn ..
theorem Qnl(s:Af):Tt (λn=>Ky n s) λ_=>True:=by
 unfold Ky IC I_ HS
 repeat' first|with_reducible exact Tt.p trivial|with_reducible refine Tt.c (λ_=>?_) λ_=>?_|with_reducible refine Qe ?_ λ_=>?_|with_reducible exact Jn ..
theorem pX(s:Ao):Tt (λn=>PT n s) λ_=>True:=by
 unfold PT IH IF H_
 repeat' first|with_reducible exact Tt.p trivial|with_reducible refine Tt.c (λ_=>?_) λ_=>?_|with_reducible refine Qe ?_ λ_=>?_|with_reducible exact Jn ..
def VF(f:CI):Prop:=f.AW=1->0<=f.AP.AN
theorem QlQ(f:CI):Tt (λn=>K_ n f) λr=>r=AE->VF f:=by
 unfold K_ IH IF H_ I_ HS IC J5 KC KB;refine Tt.c (λ_=>Tt.b (QlJ _) λr h=>Tt.p λq _=>h q) λd=>Tt.w (P:=λ_=>True) ?_ λ_ _ _ e=>absurd e gq
 repeat' first|with_reducible exact Tt.p trivial|with_reducible refine Tt.c (λ_=>?_) λ_=>?_|with_reducible refine Qe ?_ λ_=>?_|with_reducible exact Jn .. |with_reducible exact pX _|with_reducible exact Qnl _
theorem pW(f:CI):Tt (λn=>Pq n f) λ_=>True:=by
 unfold Pq
 repeat' first|with_reducible exact Tt.p trivial|with_reducible refine Tt.c (λ_=>?_) λ_=>?_|with_reducible refine Qe ?_ λ_=>?_
theorem qg(f:CI):Tt (λn=>J2 n f) λr=>r=0->VF f:=by
 unfold J2 KC KB;refine Tt.b (P:=λb=>b=AD->VF f) ?_ λb h=>Tt.n λq=>Tt.p λ_=>h q;refine Qe (Qe (Jn ..) λ_=>Tt.z) λ_=>Tt.n λ_=>?_;refine Qe (Qe (Jn ..) λ_=>Tt.z) λ_=>Tt.n λ_=>?_;refine Qe (Jn ..) λ_=>Tt.n λ_=>?_;exact Tt.b (QlQ f) λr h=>Tt.n λq=>Qe (pW f) λ_=>Tt.p gq
theorem QlO(f:CI):Tt (λn=>Ow n f) λl=>AI l<=20:=by
 unfold Ow
 repeat' first|exact Tt.p sq|refine Tt.c (λ_=>?_) λ_=>?_|refine Tt.b (Tt.a sq) λl h=>Tt.p (by subst h;simp)
def Fu(v:AL):Prop:=v.AW=1/\v.S=[]/\v.L=[]
theorem V?(l:AA Int)(j:AI l<=20):Tt (λn=>Od n l) λr=>AI r<=20/\ ∀v∈r,Fu v:=by
 unfold Od;refine Tt.b (QN l (λ(a:AA AL) i=>(a,i)) (λi a=>AI a<=i/\ ∀v∈a,Fu v) om (λi x a d g=>?_) (λa g=>?_) [] _ rfl sq) λr h=>Tt.p h
 .unfold Tf W2;have:=d.lt';simp only[d.lt,Vp,d.ix,XJ,d.nx];refine Tt.b (Tt.a (by simp;omega)) λr h=>Tt.p ⟨r,rfl,?_⟩;subst h;refine⟨by simp;omega,λv f=>?_⟩;rcases VC.1 f with h|h
  .grind
  .cases VA.1 h;exact⟨rfl,rfl,rfl⟩
 .unfold Tf;simp only[Jp,Vq];exact Tt.p gq
theorem QlU{v:AL}(h:Fu v):Tt (λn=>U_ n v) λ_=>True:=by
 refine Tt.s ?_;show Tt (λn=>Z4 (U_ n) n v) _;unfold Z4;rw[h.1]
 simp_all[Tt.c,Tt.p]
theorem QnB(l:AA AL)(g:AI l<=20)(h:∀v∈l,Fu v):Tt (λn=>U_ n {AW:=3,N:=0,S:=[],L:=l}) λ_=>True:=by
 refine Tt.s ?_;show Tt (λn=>Z4 (U_ n) n _) _;unfold Z4;refine Qe (QN l (λ(_:Unit) i=>i) (λi a=>True) om (λi x a d f=>?_) (λa f=>?_) () _ rfl trivial) λr=>?_
 .unfold T6;simp only[d.lt,Vp,d.ix,XJ,d.nx];exact Qe (QlU (h x d.mem)) λr=>Qv <| Tt.p ⟨(),rfl,trivial⟩
 .simp_all[T6,Tt.p]
 .cases r
  .simp_all[Tt.p]
  .exact Tt.z
theorem QnC{v:AL}(h:Fu v):Tt (λn=>Tm n v) λ_=>True:=by
 refine Tt.s ?_;show Tt (λn=>Z3 (Tm n) n v) _;unfold Z3;rw[h.1];exact Tt.z
theorem QpW(l:AA AL)(g:AI l<=20)(h:∀v∈l,Fu v):Tt (λn=>Tm n {AW:=3,N:=0,S:=[],L:=l}) λ_=>True:=by
 refine Tt.s ?_;show Tt (λn=>Z3 (Tm n) n _) _;unfold Z3;refine Qe (QN l (λ(a:Int) i=>(a,i)) (λi a=>True) om (λi x a d f=>?_) (λa f=>?_) 0 _ rfl trivial) λr=>Tt.z
 .unfold Tl;simp only[d.lt,Vp,d.ix,XJ,d.nx];exact Qe (QnC (h x d.mem)) λr=>Tt.p ⟨_,rfl,trivial⟩
 simp_all[Tl,Tt.p]
theorem sf:∀(k:Nat) (a:Int),0<=a->a<128^k->k<=20->Tt (λn=>Rq n a) λl=>AI l<=k+1
 |0,a,h0,h1,_=>by
  refine Tt.s ?_;show Tt (λn=>Z6 (Rq n) n a) _;unfold Z6;exact Tt.c (λ_=>Tt.p sq) gq
 |k+1,a,h0,h1,hk=>by
  refine Tt.s ?_;show Tt (λn=>Z6 (Rq n) n a) _;unfold Z6;refine Tt.c (λ_=>Tt.p sq) λq=>?_;have hd:0<=Int.tdiv a 128/\Int.tdiv a 128<128^k:=by
   grind
  have d:0<=u64.wrap (Int.tdiv a 128)/\u64.wrap (Int.tdiv a 128)<=Int.tdiv a 128:=by
   show 0<=(Int.tdiv a 128)%18446744073709551616/\(Int.tdiv a 128)%18446744073709551616<=_;omega
  refine Tt.b (sf k _ d.1 om om) λr f=>Tt.b (Tt.a (by simp;omega)) λl h=>Tt.p gq
theorem o6(a:Int)(h0:0<=a)(h1:a<18446744073709551616):Tt (λn=>Rq n a) λl=>AI l<=11:=
 sf 10 a h0 om om
theorem kb(a:Int):0<=u64.wrap a/\u64.wrap a<18446744073709551616:=by
 show 0<=a%18446744073709551616/\a%18446744073709551616<_;omega
theorem Qjz(a:Int):Tt (λn=>PV n a) λr=>0<=r/\r<18446744073709551616:=by
 simp_all[PV,Tt.c,Tt.p,kb]
theorem QlP{v:AL}(h:Fu v):Tt (λn=>V6 n v) λr=>AI r<=12:=by
 refine Tt.s ?_;show Tt (λn=>Z5 (V6 n) n v) _;unfold Z5;rw[h.1];exact Tt.b (Qjz _) λr q=>Tt.b (o6 r q.1 q.2) λl f=>Tt.b (Tt.a (by simp;omega)) λm d=>Tt.p gq
theorem Qnu(l:AA AL)(j:AI l<=20)(h:∀v∈l,Fu v):Tt (λn=>V6 n {AW:=3,N:=0,S:=[],L:=l}) λ_=>True:=by
 refine Tt.s ?_;show Tt (λn=>Z5 (V6 n) n _) _;unfold Z5;refine Tt.b (o6 _ (kb _).1 (kb _).2) λr q=>Tt.b (Tt.a (by simp;omega)) λm f=>Qe ?_ λr=>Tt.z;refine QN l (λ(a:AA Int) i=>(a,i)) (λi a=>AI a<=12+12*i) om (λi x a d g=>?_) (λa g=>?_) m _ rfl gq
 .unfold VY;have:=d.lt';simp only[d.lt,Vp,d.ix,XJ,d.nx];exact Tt.b (QlP (h x d.mem)) λr q=>Tt.b (Tt.a om) λm f=>Tt.p ⟨m,rfl,gq⟩
 simp_all[VY,Tt.p]
theorem rM(f:CI):Tt (λn=>MM n f) λ_=>True:=by
 unfold MM V_ WG;refine Qe (qg f).any λ_=>Qv <| Tt.b (QlO f) λl g=>Tt.b (V? l g) λr d=>Qe ?_ λ_=>Tt.z
 refine Qe (Qe (QnB r d.1 d.2) λ_=>Qv <| Qe (QpW r d.1 d.2) λ_=>Tt.k λ_=>Tt.z) λ_=>Qv <| Qe (Qnu r d.1 d.2) λ_=>Tt.z
theorem sa(f g:CI):Tt (λn=>O5 n f g) λ_=>True:=by
 unfold O5;refine Qe (QN [f.At,f.BE,f.No] (λ(_:Unit) i=>i) (λi a=>True) sq (λi x a d m=>?_) (λa m=>?_) () _ rfl trivial) λr=>?_
 .unfold Tv;have h:=d.lt';simp only[X0,List.length_nil]at h;obtain⟨y,j⟩:∃y,CJ [g.At,g.BE,g.No] (i:Int)=AC y:=⟨_,Qz (XK (by simpa using h))⟩;simp only[dT ((i:Int)<3),Vp,d.ix,j,XJ,d.nx];exact Qv <| Qv <| Tt.p ⟨(),rfl,trivial⟩
 .simp_all[Tv,Tt.p]
 .cases r with
  |k s=>exact Qe (rM f) λ_=>Qe (rM g) λ_=>Qv <| Qv <| Tt.z
  |d s=>exact Tt.z
theorem du(l:AA CI)(O:AI l<=16):Tt (λn=>Km n l) λr=>AI r<=16/\ ∀f∈r,VF f:=by
 unfold Km;refine Tt.b (QN l (λ(a:AA CI) i=>(a,i)) (λi a=>AI a<=i/\ ∀f∈a,VF f) om (λi x a d t=>?_) (λa t=>?_) [] _ rfl sq) λr h=>Tt.p h
 .unfold MG;have:=d.lt';simp only[d.lt,Vp,d.ix,XJ,d.nx];refine Tt.b (P:=λ(m:AA CI)=>AI m<=i+1/\ ∀f∈m,VF f) (Tt.b (qg x) λr G=>Tt.c (λ_=>Tt.p ⟨om,t.2⟩) λq=>?_) λm B=>Tt.p ⟨m,rfl,B⟩;have V:VF x:=G gq;refine Tt.b (Tt.find a om λj y F=>?_) λb g=>?_
  .exact Qe (Tt.o F.ix trivial) λy=>Qe (Tt.o d.ix trivial) λx=>Qe (sa y x) λ_=>Tt.z
  refine Qe (Tt.c (λh=>Qe (Tt.i g.1 (Vv h)).any λ_=>Tt.z) λ_=>Tt.z) λ_=>Tt.c (λ_=>Tt.p ⟨om,t.2⟩) λ_=>?_;refine Tt.b (Tt.sl (Int.le_refl 0) g.1 g.2) λp L=>Tt.b (Tt.a (by simp;omega)) λN E=>?_;subst E;refine Tt.b (Tt.a (by simp;omega)) λQ H=>Tt.b (Tt.sl g.1 g.2 (Int.le_refl _)) λJ T=>?_;subst H;refine Tt.b (Tt.a (by simp;omega)) λM R=>Tt.p ?_
  grind
 .unfold MG;simp only[Jp,Vq];exact Tt.p gq
def G9(c:CB)(m:Int):Prop:=0<=m/\m<(AI c.Au:Int)
def FF(c:CB)(l:AA CD):Prop:=∀s∈l,G9 c s.Al
theorem gS(c:CB)(m:Int):Tt (λn=>J3 n c m) λr=>r=AE->G9 c m:=by
 unfold J3;exact Tt.b (P:=λr=>r=AE->G9 c m) (Tt.c (λh=>Tt.p λq=>⟨Vv h,Vv q⟩) λ_=>Tt.p nofun) λv h=>Tt.p h
theorem uu{c:CB}{m:Int}(h:G9 c m):Tt (λn=>MW n c m) λ_=>True:=by
 unfold MW;exact Tt.b (Tt.i h.1 h.2) λ_ _=>Tt.z
theorem g?(a b:CD):Tt (λn=>O9 n a b) λ_=>True:=by
 unfold O9;exact Qe (Qv <| Tt.k λ_=>Tt.z) λ_=>Tt.z
theorem gd(c:CB)(l:AA CD)(a b:Int)(M:AI l<=1000)(f:FF c l):Tt (λn=>J0 n c l a b) λr=>AI r<=AI l+1/\FF c r:=by
 unfold J0;have skip:AI l<=AI l+1/\FF c l:=⟨om,f⟩;refine Tt.b (P:=λq=>q=AD->G9 c a) (Tt.b (gS c a) λr N=>Tt.n λq=>?_) λq m=>Tt.c (λ_=>Tt.p skip) λt=>?_
 .simp_all[uu]
 have H:=m t;refine Tt.b (Tt.find l om λj y F=>Qe (Tt.o F.ix trivial) λy=>Qe (g? _ _) λ_=>Tt.z) λi d=>?_;refine Qe (Tt.c (λh=>Qe (Tt.i d.1 (Vv h)).any λ_=>Tt.c (λ_=>Qe (Tt.i d.1 (Vv h)).any λ_=>Tt.z) λ_=>Tt.z) λ_=>Tt.z) λ_=>Tt.c (λ_=>Tt.p skip) λ_=>?_;refine Tt.b (Tt.sl d.1 d.2 (Int.le_refl _)) λp g=>Tt.b (Tt.a (by simp;omega)) λJ x=>?_;subst x;refine Tt.b (Tt.sl (Int.le_refl 0) d.1 d.2) λL E=>Tt.b (Tt.a (by simp;omega)) λG B=>Tt.p ?_;subst B;refine⟨by simp;omega,λs h=>?_⟩;simp only[VC,VA]at h;rcases h with h|h|h
 .exact f s (E.2 s h)
 .grind
 .exact f s (g.2 s h)
theorem uU(c:CB)(l:AA CI)(X:AI l<=16){e:Int}(he:Ev (λn=>HQ n c) e):Tt (λn=>MS n c l) λr=>AI r.1<=511/\FF c r.1:=by
 unfold MS;have nil:AI ([]:AA CD)<=511/\FF c []:=⟨sq,λ_ h=>nomatch h⟩;refine Qe (Tt.e he trivial) λe=>Tt.c (λ_=>Tt.p nil) λ_=>Tt.b (du l X) λC hC=>?_;refine Tt.b (P:=λ(r:AA CD)=>AI r<=2*AI C/\FF c r) (QN C (λ(a:AA CD) i=>(a,i)) (λi a=>AI a<=2*i/\FF c a) om (λi x a E g=>?_) (λa g=>?_) [] _ rfl gq) λr hr=>?_
 .unfold VP;have:=E.lt';simp only[E.lt,Vp,E.ix,XJ,E.nx];refine Tt.b (P:=λ(r:AA CD)=>AI r<=2*(i+1)/\FF c r) ?_ λr h=>Tt.p ⟨r,rfl,h⟩;refine Tt.c (λ_=>Tt.b (gd c a _ _ om g.2) λr h=>Tt.p ⟨om,h.2⟩) λ_=>Tt.c (λ_=>Tt.b (gd c a _ _ om g.2) λr h=>Tt.p ⟨om,h.2⟩) λ_=>Tt.c (λ_=>?_) λ_=>Tt.p ⟨om,g.2⟩;exact Tt.b (gd c a _ _ om g.2) λr h=>Tt.b (gd c r _ _ om h.2) λr2 d=>Tt.p ⟨om,d.2⟩
 .simp_all[VP,Tt.p]
 refine Tt.c (λ_=>Tt.p nil) λq=>?_;have hk:AI r<=511:=om;refine Tt.b (P:=λ(b:AA CD)=>AI b<=511/\FF c b) (Tt.l (λs:AA CD×Int=>AI s.1=AI r/\FF c s.1/\0<=s.2/\s.2<=(AI r:Int)) (λs=>((AI r:Int)-s.2).toNat) (λs hs=>?_) (r,0) gq) λb L=>Tt.p (Q:=λv:AA CD×Int=>AI v.1<=511/\FF c v.1) L;obtain⟨B,R⟩:=s;obtain⟨V,d,G,T⟩:=hs;simp only at V d G T;unfold eX;refine Tt.c (λq=>?_) λ_=>Tt.p (Q:=Fd _ _ _ _) ⟨gq,d⟩;have O:=Vv q;simp only at O;refine Tt.b (P:=λ(t:AA CD)=>AI t=AI B/\FF c t) (Tt.l (λt:AA CD×Int=>AI t.1=AI B/\FF c t.1/\ -1<=t.2/\t.2<(AI C:Int)) (λt=>(t.2+1).toNat) (λt J=>?_) (B,i64.wrap ((AI C:Int)-1)) ⟨rfl,d,?_,?_⟩) λb L=>Tt.p (Q:=Fd _ _ _ _) ?_
 .obtain⟨M,t2⟩:=t;obtain⟨j,f,g3,F⟩:=J;simp only at j f g3 F;unfold ew;refine Tt.c (λq=>?_) λ_=>Tt.p (Q:=Fd _ _ _ _) ⟨j,f⟩;have H:=Vv q;simp only at H;have ix:∀{Q:CD->Prop},(∀x∈M,Q x)->Tt (λ_=>CJ M R) Q:=λh=>(Tt.i G om).w h;refine Qe (Tt.i H F).any λx=>Qe (Qe (Tt.i H F).any λ_=>Tt.c (λ_=>Qe (ix λ_ _=>trivial) λ_=>Tt.c (λ_=>Qe (ix λ_ _=>trivial) λ_=>Tt.z) λ_=>Tt.z) λ_=>Tt.z) λb=>?_;refine Tt.b (P:=λ(t:AA CD)=>AI t=AI B/\FF c t) (Tt.c (λ_=>?_) λ_=>Tt.p ⟨j,f⟩) λt J=>Tt.p (Q:=Fd _ _ _ _) ?_
  .refine Tt.b (ix λx h=>h) λy Y=>Tt.b (Tt.set G gq) λm N=>Tt.p ⟨N.1.trans j,λz W=>?_⟩;rcases N.2 z W with h|h
   .subst h;exact f y Y
   .exact f z h
  grind[QJ]
 iterate 3 grind[QJ]
abbrev Fj{A β:Type}(Q:β->Prop):CG A β->Prop
 |.k _=>True
 |.d r=>Q r
theorem mu(l:AA CD)(a b:Int)(f:AI l<=1000):Tt (λn=>Kv n l a b) λr=>0<=r/\r<=(AI l:Int):=by
 unfold Kv;refine Tt.b (P:=Fj λr=>0<=r/\r<=(AI l:Int)) (QN l (λ(_:Unit) i=>i) (λ_ _=>True) om (λi x _ ha _=>?_) (λ_ _=>?_) () _ rfl trivial) λr d=>?_
 .unfold Ts;have:=ha.lt';simp only[ha.lt,Vp,ha.ix,XJ,ha.nx];exact Qe (Tt.k λ_=>Tt.z) λ_=>Tt.c (λ_=>Tt.p (Q:=F9 _ _ _ _) om) λ_=>Tt.p ⟨(),rfl,trivial⟩
 .simp_all[Ts,Tt.p]
 .cases r with
  |k s=>exact Tt.p om
  |d s=>exact Tt.p d
theorem mQ{c:CB}{l:AA CD}{v a b:Int}(d:FF c l)(j:0<=v)(g:v<=(AI l:Int))(m:AI l<=1000)(f:G9 c a):Tt (λn=>Zy n l v a b) λs=>G9 c s.Al:=by
 unfold Zy;refine Tt.c (λ_=>Tt.p f) λq=>?_;have q:v≠0:=by simpa using q
 have e:i64.wrap (v-1)=v-1:=Di;rw[e];exact Tt.b (Tt.i om om) λx h=>Tt.p (d x h)
theorem QpV(a b:Int):Tt (λn=>PQ n a b) λ_=>True:=by
 unfold PQ
 repeat' first|with_reducible exact Tt.p trivial|with_reducible refine Tt.c (λ_=>?_) λ_=>?_|with_reducible refine Qe ?_ λ_=>?_
theorem m0{c:CB}{s:CD}(h:G9 c s.Al)(a:Int):Tt (λn=>LE n c s a) λ_=>True:=by
 unfold LE;exact Qe (uu h) λ_=>Qv <| Qe (QpV _ _) λ_=>Tt.z
theorem Qny(c:CB)(l:AA CI)(L:AI l<=16){e:Int}(he:Ev (λn=>HQ n c) e):Tt (λn=>OM n c l) λ_=>True:=by
 unfold OM;refine Tt.b (uU c l L he) λr M=>Qv <| ?_
 obtain⟨S,z⟩:=r;have O:AI S<=511:=M.1;have f:FF c S:=M.2;refine Tt.b (P:=λ(a:AA Edge)=>AI a<=1022) (QN S (λ(a:AA Edge) i=>(a,i)) (λi a=>AI a<=2*i) om (λi x a d g=>?_) (λa g=>?_) [] _ rfl (XT _)) λE1 h1=>Tt.b (du l L) λC hC=>?_
 .unfold TS;have:=d.lt';simp only[d.lt,Vp,d.nx];exact Tt.b (Tt.a (by simp;omega)) λm f=>Tt.p ⟨m,rfl,gq⟩
 .unfold TS;simp only[Jp,Vq];exact Tt.p ⟨_,rfl,om⟩
 refine Tt.b (P:=λ(b:AA CD×AA Edge)=>b.1=S/\AI b.2<=1054) (QN C (λ(a:AA Edge) i=>(S,a,i)) (λi a=>AI a<=1022+2*i) om (λi x a d g=>?_) (λa g=>?_) E1 _ rfl om) λb y=>?_
 .unfold Td;have:=d.lt';simp only[d.lt,Vp,d.ix,XJ,d.nx];refine Tt.b (P:=λ(m:AA Edge)=>AI m<=1022+2*(i+1)) (Tt.b (P:=λq=>q=AD->G9 c x.Aa.Al) (Tt.n λ_=>Tt.b (gS c _) λr h=>Tt.p gq) λq E=>Tt.c (λ_=>Tt.p om) λB=>?_) λm f=>Tt.p ⟨m,rfl,f⟩;have t:=E B;exact Tt.b (mu S _ _ om) λv j=>Tt.b (mQ f j.1 j.2 om t) λs G=>Qe (m0 G _) λ_=>Tt.b (Tt.a (by simp;omega)) λm h=>Tt.p gq
 .unfold Td;simp only[Jp,Vq];exact Tt.p gq
 obtain⟨H,N⟩:=b;obtain⟨rfl,y⟩:=y;simp only at y O f;refine Tt.b (P:=λ(b:AA Edge)=>True) (QN C (λ(a:AA Edge) i=>(a,i)) (λi a=>AI a<=1054+2*i) om (λi x a d g=>?_) (λa g=>?_) N _ rfl om) λb y=>Qv <| Tt.z
 .unfold Th;have:=d.lt';simp only[d.lt,Vp,d.ix,XJ,d.nx];refine Tt.b (P:=λ(m:AA Edge)=>AI m<=1054+2*(i+1)) (Tt.b (P:=λq=>q=AD->G9 c x.Ao.Bt/\G9 c x.Ao.Bs) (Tt.n λ_=>Tt.b (gS c _) λr h=>Tt.n λT=>Tt.b (gS c _) λV Q=>Tt.p gq) λq E=>Tt.c (λ_=>Tt.p om) λB=>?_) λm f=>Tt.p ⟨m,rfl,f⟩;have t:=E B;exact Tt.b (mu H _ _ om) λv j=>Tt.b (mu H _ _ om) λw J=>Tt.b (mQ f j.1 j.2 om t.1) λs G=>Qe (m0 G _) λ_=>Tt.b (mQ f J.1 J.2 om t.2) λR F=>Qe (m0 F _) λ_=>Tt.b (Tt.a (by simp;omega)) λm h=>Tt.p gq
 simp_all[Th,Tt.p]
def Zz(v:Int)(e:Edge):Prop:=0<=e.BA/\e.BA<v/\0<=e.To/\e.To<v
theorem QlV(s:Co):Tt (λn=>PS n s) λr=>r=0->1<=s.Ax/\s.Ax<=512/\AI s.Bo<=8192/\ ∀e∈s.Bo,Zz s.Ax e:=by
 unfold PS;refine Tt.b (P:=λb=>b=AD->1<=s.Ax/\s.Ax<=512/\AI s.Bo<=8192) (Tt.n λh=>Tt.n λt=>Tt.p λB=>?_) λb d=>Tt.n λq=>?_
 .grind
 obtain⟨J,t,B⟩:=d q;refine Tt.b (P:=λ(c:CG Unit Int)=>match c with|.k _=>∀e∈s.Bo,Zz s.Ax e|.d r=>r≠0) (QN s.Bo (λ(_:Unit) i=>i) (λi _=>∀e∈s.Bo.take i,Zz s.Ax e) om (λi x _ ha hI=>?_) (λ_ hI=>?_) () _ rfl sq) λr y=>?_
 .unfold TY;simp only[ha.lt,Vp,ha.ix,XJ,ha.nx];refine Tt.b (P:=λb=>b=AD->Zz s.Ax x) (Tt.n λj=>Tt.n λg=>Tt.n λE=>Tt.n λf=>Tt.w (P:=λ_=>True) (Tt.k λ_=>Tt.z) λ_ _ _=>?_) λb d=>Tt.c (λ_=>Tt.p (Q:=F9 _ _ _ _) om) λq=>Tt.p ⟨(),rfl,?_⟩
  .have G:=Vw j;have H:=Vw g;have L:=Vw E;have F:=Vw f;exact⟨om,om,om,om⟩
  .intro e m;rw[ha.take]at m
   grind
 .simp_all[TY,Tt.p]
 .cases r with
  |k u=>exact Tt.p gq
  |d v=>exact Tt.p λh=>absurd h y
def IM(k:Nat)(t:AA (AA Int)):Prop:=AI t=k/\ ∀r∈t,AI r=k
theorem IM.set{k:Nat}{t:AA (AA Int)}{r:AA Int}(h:IM k t)(hr:AI r=k)(i:Nat):IM k (t.set i r):=
 ⟨by simp[h.1],λq hq=>(List.mem_or_eq_of_mem_set hq).elim (h.2 q) λe=>e▸hr⟩
theorem Tt.up{β S B:Type}{step:Nat->S->AB (CG S B)}{Q:B->Prop}(k:Nat)(t:k<=4611686018427387904)(d:β->Int->S)(I:Nat->β->Prop)
  (h:∀i a,i<k->i64.wrap ((i:Int)+1)=((i+1:Nat):Int)->I i a->Tt (λn=>step n (d a i)) (F9 d I i Q))(e:∀a,I k a->Tt (λn=>step n (d a k)) (λc=>∃b,c=.d b/\Q b))(g:β)(s0:S)(m:s0=d g ((0:Nat):Int))(hi:I 0 g):
  Tt (λn=>iter (step n) n s0) Q:=by
 have q:AI (List.replicate k ())=k:=List.length_replicate;refine QN (List.replicate k ()) d I om (λi x a j f=>h i a (by have:=j.lt';omega) j.nx f) (λa f=>?_) g s0 m hi;rw[q]at f⊢;exact e a f
theorem b?{k:Nat}(j:k<=512)(r:AA Int)(g:AI r=k):Tt (λn=>iter (N7 n (k:Int)) n (r,0)) λl=>AI l=k:=by
 refine Tt.up k om (λ(a:AA Int) i=>(a,i)) (λ_ a=>AI a=k) (λi a q f d=>?_) (λa d=>?_) r _ rfl g
 .unfold N7;simp only[dT ((i:Int)<(k:Int)),Vp,f];exact Tt.b (Tt.i om om) λx _=>Tt.b (Tt.set om om) λm h=>Tt.p gq
 simp_all[N7,Tt.p]
theorem h?{k:Nat}(f:k<=512):Tt (λn=>iter (N_ n (k:Int)) n ([],0)) (IM k):=by
 refine Tt.up k om (λ(a:AA (AA Int)) i=>(a,i)) (λi a=>AI a=i/\ ∀r∈a,AI r=k) (λi a y j d=>?_) (λa d=>?_) [] _ rfl sq
 .unfold N_;simp only[dT ((i:Int)<(k:Int)),Vp,j];refine Qe (Tt.o (v:=()) (by rw[d.1];simp[chk]) trivial) λ_=>?_;refine Tt.b (P:=λ(r:AA Int)=>AI r=k) (Tt.o (v:=List.replicate k 0) (by unfold mk;grind) sq) λg h=>?_;refine Tt.b (b? f g h) λr1 (h1:AI r1=k)=>Tt.b (Tt.i (Int.natCast_nonneg i) om) λx _=>Tt.b (Tt.set (Int.natCast_nonneg i) om) λm q=>Tt.p ⟨a++[m],rfl,by simp[d.1],λr t=>?_⟩
  grind
 .unfold N_;simp only[dF ((k:Int)<(k:Int)),Vq];exact Tt.p ⟨_,rfl,d⟩
theorem QpO{k:Nat}(E:AA Edge)(hE:AI E<=8192)(h:∀e∈E,Zz (k:Int) e)(t:AA (AA Int))(G:IM k t):Tt (λn=>iter (N4 n E) n (t,0)) (IM k):=by
 refine QN E (λ(a:AA (AA Int)) i=>(a,i)) (λ_ a=>IM k a) om (λi x a f d=>?_) (λa d=>?_) t _ rfl G
 .unfold N4;simp only[f.lt,Vp,f.ix,XJ,f.nx];obtain⟨q,H,g,J⟩:=h x f.mem;refine Tt.b (Tt.i q (by rw[d.1];exact H)) λr F=>?_;have B:=d.2 r F;exact Qe (Tt.i g om).any λy=>Tt.b (Tt.set g om) λm j=>Tt.p ⟨_,rfl,d.set (j.1.trans B) _⟩
 simp_all[N4,Tt.p]
theorem i9{k m i j:Nat}(E:m<k)(hi:i<k)(G:j<k)(t:AA (AA Int))(d:IM k t):Tt (λ_=>U3 (m:Int) (i:Int) (j:Int) t) (IM k):=by
 unfold U3;refine Tt.b (Tt.i om (by rw[d.1];omega)) λr B=>?_;have x:=d.2 r B;refine Qe (Tt.i om om).any λa=>Tt.c (λ_=>?_) λ_=>Tt.p d;refine Tt.b (Tt.i om (by rw[d.1];omega)) λq h=>?_;have f:=d.2 q h;refine Qe (Tt.i om om).any λb=>Tt.c (λ_=>?_) λ_=>Tt.p d;exact Qe (Tt.i om om).any λy=>Tt.b (Tt.set om om) λF g=>Tt.p (d.set (g.1.trans x) _)
theorem vG{k m i:Nat}(x:k<=512)(g:m<k)(hi:i<k)(t:AA (AA Int))(d:IM k t):Tt (λn=>iter (N' n (k:Int) (m:Int) (i:Int)) n (t,0)) (IM k):=by
 refine Tt.up k om (λ(a:AA (AA Int)) i=>(a,i)) (λ_ a=>IM k a) (λj a h q f=>?_) (λa f=>?_) t _ rfl d
 .unfold N';simp only[dT ((j:Int)<(k:Int)),Vp,q];exact Tt.b (i9 g hi h a f) λt d=>Tt.p ⟨t,rfl,d⟩
 simp_all[N',Tt.p]
theorem vI{k m:Nat}(h:k<=512)(g:m<k)(t:AA (AA Int))(d:IM k t):Tt (λn=>iter (OE n (k:Int) (m:Int)) n (t,0)) (IM k):=by
 refine Tt.up k om (λ(a:AA (AA Int)) i=>(a,i)) (λ_ a=>IM k a) (λj a q x f=>?_) (λa f=>?_) t _ rfl d
 .unfold OE;simp only[dT ((j:Int)<(k:Int)),Vp,x];exact Tt.b (vG h g q a f) λt d=>Tt.p ⟨t,rfl,d⟩
 simp_all[OE,Tt.p]
theorem a?{k:Nat}(m:k<=512)(t:AA (AA Int))(d:IM k t):Tt (λn=>iter (OG n (k:Int) t) n 0) λ_=>True:=by
 refine Tt.up k om (λ(_:Unit) i=>i) (λ_ a=>True) (λj a q h f=>?_) (λa f=>?_) () _ rfl trivial
 .unfold OG;simp only[dT ((j:Int)<(k:Int)),Vp,h];refine Tt.b (Tt.i om (by rw[d.1];omega)) λr g=>?_;have x:=d.2 r g;exact Qe (Tt.i om om).any λa=>Qv <| Tt.p ⟨(),rfl,trivial⟩
 simp_all[OG,Tt.p]
theorem Qio{k:Nat}(f:k<=512)(E:AA Edge)(hE:AI E<=8192)(h:∀e∈E,Zz (k:Int) e):Tt (λn=>Ps n {Ax:=(k:Int),Bo:=E}) λr=>AI r.1<=512/\ ∀q∈r.1,AI q<=512:=by
 unfold Ps;refine Qe (Tt.o (v:=List.replicate k ()) (by unfold mk;grind) trivial) λ_=>Tt.b (h? f) λL m=>?_;refine Qe (Tt.o (v:=()) (by rw[m.1];simp[chk]) trivial) λ_=>Tt.b (QpO E hE h L m) λF H=>?_;refine Tt.b (P:=λ(c:CG (AA (AA Int)) Unit)=>match c with|.k t=>IM k t|.d _=>True) (Tt.up k om (λ(a:AA (AA Int)) i=>(a,i)) (λ_ a=>IM k a) (λj a G J g=>?_) (λa g=>?_) F _ rfl H) λc y=>?_
 .unfold VQ;simp only[dT ((j:Int)<(k:Int)),Vp,J];refine Tt.b (vI f G a g) λt x=>Qe (a? f t x) λd=>?_;cases d with
  |k _=>exact Tt.p ⟨t,rfl,x⟩
  |d _=>exact Tt.p (Q:=F9 _ _ _ _) trivial
 .simp_all[VQ,Tt.p]
 .cases c with
  |k t=>exact Tt.p ⟨by rw[y.1];exact f,λq B=>by rw[y.2 q B];exact f⟩
  |d _=>simp_all[Tt.p]
theorem aA(s:Co):Tt (λn=>PM n s) λr=>AI r.1<=512/\ ∀q∈r.1,AI q<=512:=by
 unfold PM;have nil:AI ([]:AA (AA Int))<=512/\ ∀q∈([]:AA (AA Int)),AI q<=512:=sq;refine Tt.b (QlV s) λr d=>Tt.c (λ_=>Tt.p nil) λq=>?_;obtain⟨v,E⟩:=s;obtain⟨j,h,g,f⟩:=d gq;simp only at j h g f;obtain⟨k,rfl⟩:=Int.eq_ofNat_of_zero_le (show 0<=v by omega);exact Tt.b (Qio om E g f) λr d=>Tt.c (λ_=>Tt.p nil) λ_=>Tt.p d
theorem Qp0(c:CB)(l:AA CI)(d:AI l<=16){e:Int}(he:Ev (λn=>HQ n c) e):Tt (λn=>Pg n c l) λr=>Fq {AS:=r.1,BQ:=r.2.1}:=by
 unfold Pg;have nil:Fq {AS:=[],BQ:=[]}:=⟨sq,sq,λ_ h=>nomatch h⟩;exact Qe (Qny c l d he) λr=>Tt.c (λ_=>Tt.p nil) λ_=>Tt.b (aA _) λr g=>Tt.c (λ_=>Tt.p nil) λ_=>Tt.b (uU c l d he) λs f=>Tt.p ⟨gq,gq,λq j=>gq⟩
set_option maxRecDepth 10000
abbrev NC{B:Type}(i:Nat):CG Int (CG Unit B)->Prop
 |.k s=>s=((i+1:Nat):Int)
 |.d _=>True
theorem KV{α B:Type}{step:Nat->Int->AB (CG Int (CG Unit B))}(l:AA α)(g:AI l<=1048576)(h:∀i x,At l i x->Tt (λn=>step n (i:Int)) (NC i))(e:∀n,step n (AI l:Int)=AC (.d (.k ()))):Tt (λn=>iter (step n) n 0) λ_=>True:=by
 refine QN l (λ(_:Unit) i=>i) (λ_ _=>True) om (λi x _ ha _=>(h i x ha).w λc f=>?_) (λ_ _=>?_) () _ rfl trivial
 .cases c with
  |k s=>exact⟨(),f,trivial⟩
  |d d=>exact trivial
 .simp only[e];exact Tt.p ⟨_,rfl,trivial⟩
theorem qh(a b c:Int):Tt (λn=>G5 n a b c) λr=>r=AE->b<=a/\a<=c:=by
 unfold G5;exact Tt.b (P:=λr=>r=AE->b<=a/\a<=c) (Tt.c (λh=>Tt.p gq) λ_=>Tt.p nofun) λr h=>Tt.p h
theorem LU(a b c:Int):Tt (λn=>G5 n a b c) λ_=>True:=(qh a b c).any
theorem Qnq(c:CB)(d:AI c.Au<=1048576)(m:Int):Tt (λn=>F5 n c m) λr=>r=AE->0<=m/\m<(AI c.Au:Int):=by
 unfold F5;rw[Zp d];exact Tt.b (qh ..) λr h=>Tt.p λq=>gq
theorem kz(c:CB)(m:Int):Tt (λn=>F5 n c m) λ_=>True:=by
 simp_all[F5,LU]
theorem QlT(l:AA UInt8):Tt (λn=>Pd n l) λ_=>True:=by
 unfold Pd
 repeat' first|with_reducible exact Tt.p trivial|with_reducible refine Tt.c (λ_=>?_) λ_=>?_|with_reducible refine Qe ?_ λ_=>?_
theorem pd(l:AA UInt8):Tt (λn=>MY n l) λ_=>True:=by
 unfold MY;refine Tt.b (P:=λb=>b=AD->1<=AI l/\AI l<=24) (Tt.n λf=>Tt.n λd=>?_) λb h=>Tt.k λq=>?_
 .have f:=Vw f;have d:=Vw d;have g:=Tt.i (l:=l) (i:=0) (Int.le_refl 0) om;exact Tt.w (P:=λ_=>True) (Qe g.any λ_=>Qv <| Qe g.any λ_=>Tt.z) om
 obtain⟨f,d⟩:=h q;refine Qe (Tt.l (λs:Int=>0<=s/\s<=(AI l:Int)) (λs=>((AI l:Int)-s).toNat) (λs j=>?_) 1 om) λr=>?_
 .unfold ei;refine Tt.c (λq=>?_) λ_=>Tt.p (Q:=Fd _ _ _ _) trivial;have q:=Vv q;have ix:=(Tt.i j.1 q).any;refine Qe ?_ λ_=>Tt.c (λ_=>Tt.p (Q:=Fd _ _ _ _) trivial) λ_=>Tt.p (Q:=Fd _ _ _ _) ?_
  .repeat' first|with_reducible exact Tt.p trivial|with_reducible exact ix|with_reducible refine Tt.c (λ_=>?_) λ_=>?_|with_reducible refine Qe ?_ λ_=>?_
  grind[QJ]
 .cases r with
  |k u=>simp_all[Qe,QlT,Tt.p]
  |d v=>exact Tt.z
theorem eJ(l:AA (AA UInt8))(f:AI l<=1048576):Tt (λn=>Ii n l) λ_=>True:=by
 unfold Ii;refine Qe (KV l f (λi x d=>?_) λn=>by simp_all[Tq]) λr=>by cases r<;>exact Tt.z
 have g:=d.lt';unfold Tq;simp only[d.lt,Vp,d.ix,XJ,d.nx];refine Qe (pd x) λ_=>Qv <| Tt.b (P:=λr=>match r with|.k _=>True|.d c=>match c with|.k _=>False|.d _=>True) (Tt.up i om (λ(_:Unit) i=>i) (λ_ _=>True) (λj _ hj hn _=>?_) (λ_ _=>?_) () _ rfl trivial) λr h=>?_
 .unfold VU;simp only[dT ((j:Int)<(i:Int)),Vp,hn];exact Qe (Tt.i (Int.natCast_nonneg j) om).any λ_=>Qe (Tt.i (Int.natCast_nonneg i) om).any λ_=>Tt.c (λ_=>Tt.p (Q:=F9 _ _ _ _) trivial) λ_=>Tt.p ⟨(),rfl,trivial⟩
 .simp_all[VU,Tt.p]
 .cases r with
  |k u=>exact Tt.p rfl
  |d s=>
   cases s with
   |k z=>grind
   |d z=>exact Tt.p (Q:=NC i) trivial
theorem dv{α:Type}{step:Nat->AA (AA UInt8)×Int->AB (CG (AA (AA UInt8)×Int) (AA (AA UInt8)))}(l:AA α)(g:α->AA UInt8)(q:AI l<=1048576)
  (h:∀n i x a,At l i x->step n (a,(i:Int))=(app a [g x]).bind λm=>AC (.k (m,((i+1:Nat):Int))))(e:∀n a,step n (a,(AI l:Int))=AC (.d a)):Tt (λn=>iter (step n) n ([],0)) λr=>AI r<=1048576:=by
 refine QN l (λ(a:AA (AA UInt8)) i=>(a,i)) (λi a=>AI a<=i) om (λi x a d f=>?_) (λa f=>?_) [] _ rfl (XT _)
 .have:=d.lt';simp only[h _ _ _ _ d];exact Tt.b (Tt.a (by simp;omega)) λm j=>Tt.p ⟨m,rfl,gq⟩
 .simp only[e];exact Tt.p ⟨_,rfl,om⟩
theorem QpL(c:CB)(w:C3 c):Tt (λn=>O3 n c) λ_=>True:=by
 unfold O3;refine Tt.b (dv c.Au (·.Ap) w.mats (λn i x a d=>?_) λn a=>?_) λj q=>Tt.b (dv c.AO (·.Ap) w.dist (λn i x a d=>?_) λn a=>?_) λh g=>Tt.b (dv c.A4 (·.Ap) w.wave (λn i x a d=>?_) λn a=>?_) λE y=>Tt.b (dv c.Ab (·.Ap) w.off (λn i x a d=>?_) λn a=>?_) λf m=>Tt.b (dv c.AV (·.Ap) w.cat (λn i x a d=>?_) λn a=>?_) λB t=>?_
 case refine_11=>
  exact Qe (Qe (pd _) λ_=>Tt.c (λ_=>Qe (eJ j q) λ_=>Tt.c (λ_=>Qe (eJ h g) λ_=>Tt.c (λ_=>Qe (eJ E y) λ_=>Tt.c (λ_=>Qe (eJ f m) λ_=>Tt.c (λ_=>Qe (eJ B t) λ_=>Tt.z) λ_=>Tt.z) λ_=>Tt.z) λ_=>Tt.z) λ_=>Tt.z) λ_=>Tt.z) λ_=>Tt.z
 all_goals first|(unfold Ty;simp only[Jp,Vq];done)|(unfold UU;simp only[Jp,Vq];done)|(unfold UY;simp only[Jp,Vq];done)|(unfold U6;simp only[Jp,Vq];done)|(unfold U9;simp only[Jp,Vq];done)|(unfold Ty;simp only[d.lt,Vp,d.ix,XJ,d.nx];done)|(unfold UU;simp only[d.lt,Vp,d.ix,XJ,d.nx];done)|(unfold UY;simp only[d.lt,Vp,d.ix,XJ,d.nx];done)|(unfold U6;simp only[d.lt,Vp,d.ix,XJ,d.nx];done)|(unfold U9;simp only[d.lt,Vp,d.ix,XJ,d.nx];done)
def I2(c:CB)(d:AN):Prop:=Cw ((AI c.Au:Int)-1) d.Ad=AE/\(d.An≠ -1->0<=d.An/\d.An<(AI c.Au:Int))
theorem QjE(c:CB)(w:C3 c){d:AN}(j:AI d.Ar<=1048576)(g:AI d.Ad<=1048576)(f:∀x∈d.Ad,CH.wf x):Tt (λn=>O2 n c d) λr=>r=AE->I2 c d:=by
 unfold O2;refine Tt.b (P:=λr=>match r with|.k _=>True|.d b=>b=AD) (QN d.Ar (λ(_:Unit) i=>i) (λ_ _=>True) om (λi x _ ha _=>?_) (λ_ _=>?_) () _ rfl trivial) λr t=>?_
 .unfold Tb;simp only[ha.lt,Vp,ha.ix,XJ,ha.nx];exact Qe (Qe (kz ..) λ_=>Qv <| Qv <| Qe (LU ..) λ_=>Tt.z) λ_=>Tt.c (λ_=>Tt.p (Q:=F9 _ _ _ _) rfl) λ_=>Tt.p ⟨(),rfl,trivial⟩
 .simp_all[Tb,Tt.p]
 .cases r with
  |d b=>simp_all[Tt.p]
  |k u=>
   refine Tt.b (P:=λr=>r=AE->I2 c d) (Qe (LU ..) λ_=>Tt.c (λ_=>Tt.b (P:=λr=>r=Cw ((AI c.Au:Int)-1) d.Ad) (Tt.e (Qmn c w _ d.Ad (XT _) g f) rfl) λr m=>Tt.c (λq=>Tt.w (P:=λr=>r=AE->d.An≠ -1->0<=d.An/\d.An<(AI c.Au:Int)) (Tt.c (λz=>Tt.p gq) λ_=>Tt.b (Qnq c w.mats _) λ_ h=>Tt.p λz _=>h z) λ_ h z=>⟨gq,h z⟩) λ_=>Tt.p nofun) λ_=>Tt.p nofun) λr h=>Tt.p h
theorem Qnn(c:CB)(m:CB.wf c):Tt (λn=>PE n c) λr=>r=AE->∀d∈c.AO,I2 c d:=by
 have w:=Y1 m;have h:=JA m;unfold PE;refine Tt.b (P:=Fj λr=>r=AD) (QN c.Au (λ(_:Unit) i=>i) (λ_ _=>True) (by have:=w.mats;omega) (λi x _ f _=>?_) (λ_ _=>?_) () _ rfl trivial) λr g=>?_
 .unfold TT;simp only[f.lt,Vp,f.ix,XJ,f.nx]
  simp_all[Qe,LU,Tt.p]
 .simp_all[TT,Tt.p]
 rcases r with u|b
 case d=>simp_all[Tt.p]
 refine Tt.b (P:=Fj λr=>r=AD) (QN c.Az (λ(_:Unit) i=>i) (λ_ _=>True) (by have:=w.legs;omega) (λi x _ f _=>?_) (λ_ _=>?_) () _ rfl trivial) λr g=>?_
 .have E:=f.lt';have y:=w.legs;unfold Ta;simp only[f.lt,Vp,f.ix,XJ,f.nx];refine Qe (Qe (kz ..) λ_=>Qv <| Qe (kz ..) λ_=>Qv <| Qv <| Tt.k λ_=>Tt.z) λ_=>Tt.c (λ_=>Tt.p (Q:=F9 _ _ _ _) rfl) λ_=>?_;refine Tt.b (P:=Fj λ(r:CG Int (CG Unit Bool))=>r=.d (.d AD)) (Tt.up i om (λ(_:Unit) i=>i) (λ_ _=>True) (λj _ hj hn _=>?_) (λ_ _=>?_) () _ rfl trivial) λr g=>?_
  .unfold U8;simp only[dT ((j:Int)<(i:Int)),Vp,hn];have ix:=Tt.i (l:=c.Az) (Int.natCast_nonneg j) om;exact Qe (Qe ix.any λ_=>Tt.c (λ_=>Qe ix.any λ_=>Tt.z) λ_=>Tt.z) λ_=>Tt.c (λ_=>Tt.p (Q:=F9 _ _ _ _) rfl) λ_=>Tt.p ⟨(),rfl,trivial⟩
  .simp_all[U8,Tt.p]
  .cases r with
   |k u=>exact Tt.p ⟨(),rfl,trivial⟩
   |d s=>cases g;exact Tt.p (Q:=F9 _ _ _ _) rfl
 .simp_all[Ta,Tt.p]
 rcases r with u|b
 case d=>simp_all[Tt.p]
 refine Tt.b (P:=λr=>match r with|.k _=>∀d∈c.AO,I2 c d|.d b=>b=AD) (QN c.AO (λ(_:Unit) i=>i) (λi _=>∀d∈c.AO.take i,I2 c d) (by have:=w.dist;omega) (λi x _ f hI=>?_) (λ_ hI=>?_) () _ rfl sq) λr B=>?_
 .unfold TM;simp only[f.lt,Vp,f.ix,XJ,f.nx];refine Tt.b (QjE c w (w.cut x f.mem) (h.len x f.mem) (h.wf x f.mem)) λr g=>Tt.c (λ_=>Tt.p (Q:=F9 _ _ _ _) rfl) λq=>Tt.p ⟨(),rfl,λd t=>?_⟩;rw[f.take]at t
  grind
 .simp_all[TM,Tt.p]
 rcases r with u|b
 case d=>simp_all[Tt.p]
 refine Tt.w (P:=λ_=>True) ?_ λ_ _ _=>B;refine Qe (KV c.A4 w.wave (λi x f=>?_) λn=>by simp_all[T7]) λr=>?_
 .unfold T7;simp only[f.lt,Vp,f.ix,XJ,f.nx];exact Qe (LU ..) λ_=>Qv <| Tt.p rfl
 rcases r with u|b
 case d=>exact Tt.z
 refine Qe (KV c.Ab w.off (λi x f=>?_) λn=>by simp_all[UN]) λr=>?_
 .unfold UN;simp only[f.lt,Vp,f.ix,XJ,f.nx];refine Qe (Qe (LU ..) λ_=>Tt.c (λ_=>Tt.k λ_=>Tt.z) λ_=>Tt.z) λ_=>Qe (Tt.c (λ_=>Qe (LU ..) λ_=>Tt.k λ_=>Tt.z) λ_=>Tt.z) λ_=>Qe (Tt.c (λ_=>Tt.k λ_=>Tt.z) λ_=>Tt.z) λ_=>Qe (Tt.c (λ_=>Tt.k λ_=>Tt.z) λ_=>Tt.z) λ_=>Qv <| Tt.p rfl
 rcases r with u|b
 case d=>exact Tt.z
 refine Qe (KV c.AV w.cat (λi x f=>?_) λn=>by simp_all[U7]) λr=>?_
 .unfold U7;simp only[f.lt,Vp,f.ix,XJ,f.nx];exact Qe (Qv <| Tt.k λ_=>Tt.z) λ_=>Qv <| Tt.p rfl
 rcases r with u|b
 case d=>exact Tt.z
 refine Qe (KV c.Ay w.prize (λi x f=>?_) λn=>by simp_all[UX]) λr=>?_
 .have E:=f.lt';have y:=w.prize;unfold UX;simp only[f.lt,Vp,f.ix,XJ,f.nx];refine Qe (Qe (LU ..) λ_=>Qv <| Qe (LU ..) λ_=>Qv <| Qe (LU ..) λ_=>Qv <| Qe (LU ..) λ_=>Tt.z) λ_=>Qv <| ?_
  refine Tt.b (P:=Fj λ(r:CG Int (CG Unit Bool))=>r=.d (.d AD)) (Tt.up i om (λ(_:Unit) i=>i) (λ_ _=>True) (λj _ hj hn _=>?_) (λ_ _=>?_) () _ rfl trivial) λr g=>?_
  .unfold UO;simp only[dT ((j:Int)<(i:Int)),Vp,hn];exact Qe (Tt.i (Int.natCast_nonneg j) om).any λ_=>Qe (Tt.c (λ_=>Tt.k λ_=>Tt.z) λ_=>Tt.z) λ_=>Tt.c (λ_=>Tt.p (Q:=F9 _ _ _ _) rfl) λ_=>Tt.p ⟨(),rfl,trivial⟩
  .simp_all[UO,Tt.p]
  .cases r with
   |k u=>exact Tt.p rfl
   |d s=>cases g;exact Tt.p (Q:=NC i) trivial
 rcases r with u|b
 case d=>exact Tt.z
 have F:=LU
 repeat' first|with_reducible exact Tt.p trivial|with_reducible refine Tt.c (λ_=>?_) λ_=>?_|with_reducible refine Qe ?_ λ_=>?_|simp_all
set_option maxRecDepth 10000
theorem QlN:∀(m:Nat) (c:AR),SizeOf.sizeOf c<=m->AR.wf c->Tt (λn=>Ms n c) λ_=>True:=by
 intro m
 induction m with
 |zero=>intro c f;cases c;simp at f
 |succ m j=>
  intro c f g;obtain⟨h,q⟩:=Ja g;refine Tt.s ?_;show Tt (λn=>P6 (Ms n) n c) _;unfold P6;refine Tt.c (λ_=>?_) λ_=>Qe (Tt.k λ_=>Tt.z) λ_=>Qe ?_ λb=>?_
  .repeat' first|with_reducible exact Tt.p trivial|with_reducible refine Tt.c (λ_=>?_) λ_=>?_|with_reducible refine Qe ?_ λ_=>?_
  .repeat' first|with_reducible exact Tt.p trivial|with_reducible refine Tt.c (λ_=>?_) λ_=>?_|with_reducible refine Qe ?_ λ_=>?_
  .cases b with
   |d v=>exact Tt.z
   |k u=>
    refine Qe (Tt.k λ_=>Tt.z) λ_=>Qv <| Qe (KV c.Ac h (λi x d=>?_) λn=>by simp_all[TQ]) λr=>by cases r<;>exact Tt.z
    unfold TQ;simp only[d.lt,Vp,d.ix,XJ,d.nx];have y:=List.sizeOf_lt_of_mem d.mem;have t:SizeOf.sizeOf c.Ac<SizeOf.sizeOf c:=by cases c;simp;omega
    exact Qe (j x om (q x d.mem)) λ_=>Qv <| Tt.p rfl
theorem QnE{c:AR}(d:AR.wf c):Tt (λn=>O_ n c) λ_=>True:=by
 unfold O_;obtain⟨v,e,_⟩:=u7 _ c 0 (XT _) om d;exact Qe (Tt.e e trivial) λ_=>Qv <| Qe (QlN _ c (XT _) d) λ_=>Qv <| Tt.z
theorem QlI:∀(m:Nat) (l:AA AY),SizeOf.sizeOf l<=m->AI l<=1048576->(∀x∈l,AY.wf x)->Tt (λn=>Mq n l) λ_=>True:=by
 intro m
 induction m with
 |zero=>intro l f;cases l<;>simp at f
 |succ m G=>
  intro l f y g;refine Tt.s ?_;show Tt (λn=>P4 (Mq n) n l) _;unfold P4;refine Qe (KV l y (λi x d=>?_) λn=>by simp_all[T9]) λr=>by cases r<;>exact Tt.z
  unfold T9;simp only[d.lt,Vp,d.ix,XJ,d.nx];obtain⟨F,⟨q,t⟩,⟨j,B⟩⟩:=Y9 (g x d.mem);have J:=List.sizeOf_lt_of_mem d.mem;have H:SizeOf.sizeOf x.Ba<SizeOf.sizeOf x/\SizeOf.sizeOf x.Bh<SizeOf.sizeOf x:=by cases x;simp;omega
  refine Tt.b (P:=Fj λ(r:CG Int (CG Unit Bool))=>NC i r) (Tt.c (λ_=>?_) λ_=>Tt.c (λ_=>?_) λ_=>Tt.z) λb E=>?_
  .refine Qe ?_ λ_=>Qv <| Tt.z
   refine Qv <| Qv <| Qe (Tt.e (Qa (Cu x.AR) |> λh=>h.congr λn=>tv n x.AR) trivial) λ_=>Qv <| Qv <| Tt.z
  .exact Qe (Qv <| Qe (QnE F) λ_=>Qv <| Qv <| Qe gq λ_=>Qv <| Qe gq λ_=>Tt.z) λ_=>Qv <| Tt.z
  .cases b with
   |k u=>exact Tt.p rfl
   |d v=>exact Tt.p E
theorem Qnx{l:AA AY}(f:AI l<=1048576)(d:∀x∈l,AY.wf x):Tt (λn=>OV n l) λ_=>True:=by
 unfold OV;obtain⟨a,b,e,_⟩:=qF _ l 0 (XT _) om f d;exact Qe (Tt.e e trivial) λ_=>Qe (Tt.k λ_=>Tt.z) λ_=>Qv <| Qe (Qv <| Qe (QlI _ l (XT _) f d) λ_=>Tt.z) λ_=>Qv <| Tt.z
theorem qU{k:Int}{l:AA CH}(h:Cw k l=AE){p:CH}(d:p∈l):(p.As=0->0<=p.Al/\p.Al<=k)/\(p.As≠0->1<=p.As/\p.As<=64/\Cw k p.Ac=AE):=by
 rw[JE,Xs]at h;have q:=h p d;rw[Zn]at q;unfold DG at q;cases z:(p.As==0)with
 |true=>
  rw[z,Vp]at q;simp only[XW,Vr]at q;exact⟨λ_=>q.1,λy=>absurd (by simpa using z) y⟩
 |false=>
  rw[z,Vq]at q;simp only[XW,Vr]at q;exact⟨λy=>by rw[y]at z;simp at z,λ_=>⟨q.1.1,q.1.2,q.2.2.2⟩⟩
def ND(k:Int)(m:Nat)(r:AA Int):Prop:=AI r<=600*(m+1)/\ ∀x∈r,0<=x/\x<=k
theorem ND.app{k:Int}{m:Nat}{a b:AA Int}(ha:∀x∈a,0<=x/\x<=k)(hb:∀x∈b,0<=x/\x<=k)(h:AI a+AI b<=600*(m+1)):ND k m (a++b):=
 ⟨gq,gq⟩
theorem QjI(k:Int):∀(m:Nat) (l:AA CH),Ce l<=m->m<=256->AI l<=1048576->(∀x∈l,CH.wf x)->Cw k l=AE->Tt (λn=>Mp n l) (ND k m):=by
 intro m
 induction m using Nat.strongRecOn with
 |ind m W=>
  intro l hm F hl N O;refine Tt.s ?_;show Tt (λn=>P3 (Mp n) n l) _;unfold P3;refine Tt.b (P:=ND k m) (QN l (λ(a:AA Int) i=>(a,i)) (λ_ a=>ND k m a) om (λi x a f j=>?_) (λa j=>?_) [] _ rfl ⟨sq,λ_ h=>nomatch h⟩) λr d=>Tt.p d
  .unfold Te;simp only[f.lt,Vp,f.ix,XJ,f.nx];refine Tt.c (λq=>?_) λ_=>Tt.p (Q:=F9 _ _ _ _) j;have h2:AI a<=256:=gq;obtain⟨R,J⟩:=qU O f.mem;refine Tt.b (P:=ND k m) (Tt.c (λz=>?_) λz=>?_) λr d=>Tt.p ⟨r,rfl,d⟩
   .have hM:=R (by simpa using z);refine Tt.b (Tt.a (by simp;omega)) λr d=>Tt.p ?_;subst d;exact ND.app j.2 (λy B=>gq) (by simp;omega)
   .obtain⟨l1,l2,M⟩:=J (by simpa using z);obtain⟨H,X⟩:=Yl (N x f.mem);have E:=Y6 f.mem;rw[YR]at E;refine Tt.b (W (Ce x.Ac) om x.Ac (XT _) om H X M) λr d=>?_;have V:=d.1;have G:600*(Ce x.Ac+1)<=600*m:=om;refine Tt.b (P:=ND k m) (Tt.l (λs:AA Int×Int=>ND k m s.1/\0<=s.2/\s.2<=64) (λs=>(64-s.2).toNat) (λs E=>?_) (a,0) gq) λr d=>Tt.p d;obtain⟨T,g⟩:=s;obtain⟨t,L,Y⟩:=E;simp only at t L Y;unfold eh;refine Tt.b (P:=λb=>b=AE->g<x.As/\AI T<=256) (Tt.b (P:=λy=>y=x) (Tt.o f.ix rfl) λy B=>Tt.c (λq1=>Tt.p λq2=>?_) λ_=>Tt.p nofun) λb G=>Tt.c (λq=>?_) λ_=>Tt.p (Q:=Fd _ _ _ _) t
    .grind
    .obtain⟨h3,h4⟩:=G q;refine Tt.b (Tt.a gq) λy B=>Tt.p (Q:=Fd _ _ _ _) ?_;have e:i64.wrap (g+1)=g+1:=Di;subst B;show(_/\_/\_)/\_;simp only[e];exact⟨⟨ND.app t.2 d.2 om,om,om⟩,om⟩
  simp_all[Te,Tt.p]
theorem o0(c:CB)(f:AI c.Az<=1048576)(a b:Int):Tt (λn=>MV n c a b) λ_=>True:=by
 unfold MV;refine Qe (KV c.Az f (λi x d=>?_) λn=>by simp_all[TJ]) λr=>by cases r<;>exact Tt.z
 unfold TJ;simp only[d.lt,Vp,d.ix,XJ,d.nx];exact Qe (Tt.k λ_=>Tt.z) λ_=>Qv <| Tt.p rfl
theorem qi(l:AA Int)(d:AI l<=1048576)(a:Int):Tt (λn=>Mi n l a) λ_=>True:=by
 unfold Mi;refine Qe (QN l (λ(a:Int) i=>(a,i)) (λ_ _=>True) om (λi x a ha _=>?_) (λ_ _=>?_) 0 _ rfl trivial) λ_=>Tt.z
 .unfold Tn;simp only[ha.lt,Vp,ha.ix,XJ,ha.nx];exact Tt.b (P:=λ_=>True) (Tt.k λ_=>Tt.z) λr _=>Tt.p ⟨r,rfl,trivial⟩
 simp_all[Tn,Tt.p]
theorem QlM(c:CB)(w:C3 c){d:AN}(m:I2 c d)(F:Ce d.Ad<=256)(E:AI d.Ad<=1048576)(t:∀x∈d.Ad,CH.wf x)(G:AI d.Ar<=1048576):Tt (λn=>Oz n c d) λ_=>True:=by
 unfold Oz;refine Tt.b (QjI _ _ d.Ad (XT _) F E t m.1) λr g=>?_;have J:=g.1;have j:AI r<=1048576:=om;have h:∀x∈r,Tt (λ_=>CJ c.Au x) λ_=>True:=λx H=>by have:=g.2 x H;exact(Tt.i this.1 om).any
 refine Qe (Tt.k λ_=>Tt.z) λ_=>Qv <| Qe (KV r j (λi x f=>?_) λn=>by simp_all[TW]) λb=>?_
 .have L:=f.lt';unfold TW;simp only[f.lt,Vp,f.nx];refine Qe (Qv <| Tt.k λ_=>Tt.z) λ_=>Qe (Tt.b (P:=λy=>y∈r) (Tt.o f.ix f.mem) λy B=>Qe (h y B) λ_=>Qv <| Tt.c (λq=>?_) λ_=>Tt.z) λ_=>Qv <| Tt.p rfl
  have q:=Vv q;rw[QJ (n:=(i:Int)-1) om om];exact Qe (Tt.i om om).any λ_=>Qe (Tt.o f.ix trivial) λ_=>Qe (o0 c w.legs _ _) λ_=>Tt.z
 .cases b with
  |d v=>exact Tt.z
  |k u=>
   refine Qe (Tt.c (λq=>?_) λ_=>Tt.z) λ_=>Qv <| Qe (KV d.Ar G (λi x f=>?_) λn=>by simp_all[U4]) λb=>by cases b<;>exact Tt.z
   .have q:=m.2 gq;exact Qe (Tt.i q.1 q.2).any λ_=>Qv <| Qe (qi r j _) λ_=>Qv <| Qe (o0 c w.legs _ _) λ_=>Tt.z
   .unfold U4;simp only[f.lt,Vp,f.ix,XJ,f.nx];exact Qe (qi r j _) λ_=>Qv <| Tt.p rfl
theorem Qnv(c:CB)(j:CB.wf c):Tt (λn=>PU n c) λr=>r=AE->∀d∈c.AO,Ce d.Ad<=256:=by
 have w:=Y1 j;have f:=JA j;unfold PU;refine Qe (by repeat' first|with_reducible exact Tt.p trivial|with_reducible refine Tt.c (λ_=>?_) λ_=>?_) λ_=>Tt.n λ_=>?_;refine Tt.b (P:=λr=>match r with|.k _=>∀d∈c.AO,Ce d.Ad<=256|.d b=>b=AD) (QN c.AO (λ(_:Unit) i=>i) (λi _=>∀d∈c.AO.take i,Ce d.Ad<=256) (by have:=w.dist;omega) (λi x _ ha hI=>?_) (λ_ hI=>?_) () _ rfl sq) λr t=>?_
 .unfold T4;simp only[ha.lt,Vp,ha.ix,XJ,ha.nx];have g:=f.len x ha.mem;have h:=f.wf x ha.mem;refine Tt.b (P:=λb=>b=AD->Ce x.Ad<=256) (Tt.n λ_=>Qe (Tt.e (uL _ x.Ad 17 (XT _) om g h) trivial) λ_=>Tt.n λ_=>Tt.b (P:=λr=>r=((min (Ce x.Ad) 257:Nat):Int)) (Tt.e (uK _ x.Ad (XT _) g h) rfl) λr y=>Tt.p λq=>gq) λb B=>Tt.c (λ_=>Tt.p (Q:=F9 _ _ _ _) rfl) λq=>Tt.p ⟨(),rfl,λd m=>?_⟩;rw[ha.take]at m
  grind
 .simp_all[T4,Tt.p]
 .cases r with
  |k u=>exact Tt.p λ_=>t
  |d b=>simp_all[Tt.p]
def Id(c:CB):Prop:=∀d∈c.AO,I2 c d/\Ce d.Ad<=256
theorem QjJ(c:CB)(g:CB.wf c):Tt (λn=>HQ n c) λe=>e=0->Id c:=by
 have w:=Y1 g;have h:=JA g;obtain⟨m,j⟩:=k9 g;unfold HQ;refine Tt.b (Qnv c g) λr G=>Tt.n λF=>Qe (QpL c w) λ_=>Tt.n λ_=>Tt.b (Qnn c g) λB E=>Tt.n λH=>?_;have R:Id c:=λd y=>gq;refine Tt.w (P:=λ_=>True) ?_ λ_ _ _=>R;refine Qe (Qnx m j) λ_=>Qv <| Qe (KV c.AO w.dist (λi x f=>?_) λn=>by simp_all[V2]) λb=>by cases b<;>exact Tt.z
 unfold V2;simp only[f.lt,Vp,f.ix,XJ,f.nx];obtain⟨q,t⟩:=R x f.mem;exact Qe (QlM c w q t (h.len x f.mem) (h.wf x f.mem) (w.cut x f.mem)) λ_=>Qv <| Tt.p rfl
set_option maxRecDepth 10000
theorem ru:∀l:AA CH,AI l<=Ce l
 |[]=>XU _
 |p::r=>by
  have:=ru r
  grind[Ce,YR]
theorem Qni:∀(m:Nat) (l:AA CH) (d:Int),Ce l<=m->AI l<=1048576->(∀x∈l,CH.wf x)->Tt (λn=>Mt n l d) λ_=>True:=by
 intro m
 induction m using Nat.strongRecOn with
 |ind m h=>
  intro l d t y f;refine Tt.s ?_;show Tt (λn=>P7 (Mt n) n l d) _;unfold P7;refine Qv <| Qe (QN l (λ(a:Int) i=>(a,i)) (λ_ _=>True) om (λi x a ha _=>?_) (λ_ _=>?_) _ _ rfl trivial) λ_=>Tt.z
  .unfold T8;simp only[ha.lt,Vp,ha.ix,XJ,ha.nx];obtain⟨g,j⟩:=Yl (f x ha.mem);have q:=Y6 ha.mem;rw[YR]at q;exact Tt.c (λ_=>Qe (h (Ce x.Ac) om x.Ac _ (XT _) g j) λr=>Tt.p ⟨_,rfl,trivial⟩) λ_=>Tt.p (Q:=F9 _ _ _ _) trivial
  simp_all[T8,Tt.p]
theorem QlR:∀(m:Nat) (l:AA AR) (d:Int),SizeOf.sizeOf l<=m->AI l<=1048576->(∀x∈l,AR.wf x)->Tt (λn=>Mr n l d) λ_=>True:=by
 intro m
 induction m with
 |zero=>intro l d f;cases l<;>simp at f
 |succ m j=>
  intro l d f t g;refine Tt.s ?_;show Tt (λn=>P5 (Mr n) n l d) _;unfold P5;refine Qv <| Qe (QN l (λ(a:Int) i=>(a,i)) (λ_ _=>True) om (λi x a ha _=>?_) (λ_ _=>?_) _ _ rfl trivial) λ_=>Tt.z
  .unfold U5;simp only[ha.lt,Vp,ha.ix,XJ,ha.nx];obtain⟨h,q⟩:=Ja (g x ha.mem);have B:=List.sizeOf_lt_of_mem ha.mem;have y:SizeOf.sizeOf x.Ac<SizeOf.sizeOf x:=by cases x;simp;omega
   exact Tt.c (λ_=>Qe (j x.Ac _ om h q) λr=>Tt.p ⟨_,rfl,trivial⟩) λ_=>Tt.p (Q:=F9 _ _ _ _) trivial
  simp_all[U5,Tt.p]
theorem QlH:∀(m:Nat) (l:AA AY) (d:Int),SizeOf.sizeOf l<=m->AI l<=1048576->(∀x∈l,AY.wf x)->Tt (λn=>Mo n l d) λ_=>True:=by
 intro m
 induction m with
 |zero=>intro l d q;cases l<;>simp at q
 |succ m t=>
  intro l d q E B;refine Tt.s ?_;show Tt (λn=>P2 (Mo n) n l d) _;unfold P2;refine Qv <| Qe (QN l (λ(a:Int) i=>(a,i)) (λ_ _=>True) om (λi x a ha _=>?_) (λ_ _=>?_) _ _ rfl trivial) λ_=>Tt.z
  .unfold TZ;simp only[ha.lt,Vp,ha.ix,XJ,ha.nx];obtain⟨J,⟨g,h⟩,⟨f,j⟩⟩:=Y9 (B x ha.mem);have H:=List.sizeOf_lt_of_mem ha.mem;have F:SizeOf.sizeOf x.Ba<SizeOf.sizeOf x/\SizeOf.sizeOf x.Bh<SizeOf.sizeOf x:=by cases x;simp;omega
   exact Tt.c (λ_=>Qe (QlR _ [x.AR] 0 (XT _) sq λy G=>gq) λ_=>Qe (t x.Ba _ om g h) λ_=>Qe (t x.Bh _ om f j) λ_=>Tt.p ⟨_,rfl,trivial⟩) λ_=>Tt.p (Q:=F9 _ _ _ _) trivial
  simp_all[TZ,Tt.p]
theorem QpU(c:CB)(f:CB.wf c):Tt (λn=>On n c) λ_=>True:=by
 have w:=Y1 f;have g:=JA f;obtain⟨j,h⟩:=k9 f;unfold On;refine Qe (KV c.AO w.dist (λi x d=>?_) λn=>by simp_all[VW]) λb=>?_
 .unfold VW;simp only[d.lt,Vp,d.ix,XJ,d.nx];exact Qe (Qe (Qni _ x.Ad 0 (XT _) (g.len x d.mem) (g.wf x d.mem)) λ_=>Qv <| Tt.k λ_=>Tt.z) λ_=>Qv <| Tt.p rfl
 rcases b with u|v
 case d=>exact Tt.z
 refine Qe (KV c.Au w.mats (λi x d=>?_) λn=>by simp_all[UV]) λb=>?_
 .unfold UV;simp only[d.lt,Vp,d.ix,XJ,d.nx];exact Qv <| Tt.p rfl
 rcases b with u|v
 case d=>exact Tt.z
 refine Qe (by repeat' first|with_reducible exact Tt.p trivial|with_reducible refine Tt.c (λ_=>?_) λ_=>?_) λ_=>Qv <| Qe (QlH _ c.BN 0 (XT _) j h) λ_=>Tt.z
theorem QjH(k:Int):∀(m:Nat) (l:AA CH),Ce l<=m->m<=256->AI l<=1048576->(∀x∈l,CH.wf x)->Cw k l=AE->Tt (λn=>Ro n l) λr=>AI r<=600*(m+1):=by
 intro m
 induction m using Nat.strongRecOn with
 |ind m R=>
  intro l hm h hl H J;have ll:=ru l;refine Tt.s ?_;show Tt (λn=>iv (Ro n) n l) _;unfold iv;refine Tt.b (P:=λ(r:AA Int)=>AI r<=600*(m+1)) (QN l (λ(a:AA Int) i=>(a,i)) (λi a=>AI a<=300+600*m+i) om (λi x a d L=>?_) (λa L=>?_) [] _ rfl sq) λr f=>Tt.p f
  .have hi:=d.lt';unfold T3;simp only[d.lt,Vp,d.ix,XJ,d.nx];obtain⟨Y,B⟩:=qU J d.mem;refine Tt.b (P:=λ(r:AA Int)=>AI r<=300+600*m+(i+1)) (Tt.c (λz=>?_) λz=>?_) λr f=>Tt.p ⟨r,rfl,f⟩
   .exact Tt.b (Tt.a (by simp;omega)) λr f=>Tt.p gq
   .obtain⟨l1,l2,G⟩:=B (by simpa using z);obtain⟨t,T⟩:=Yl (H x d.mem);have g:=Y6 d.mem;rw[YR]at g;refine Tt.b (R (Ce x.Ac) om x.Ac (XT _) om t T G) λr f=>?_;have j:600*(Ce x.Ac+1)<=600*m:=om;refine Tt.b (P:=λ(r:AA Int)=>AI r<=300+600*m+(i+1)) (Tt.l (λs:AA Int×Int=>AI s.1<=300+600*m+i/\0<=s.2/\s.2<=64) (λs=>(64-s.2).toNat) (λs g=>?_) (a,0) gq) λr f=>Tt.p f;obtain⟨O,F⟩:=s;obtain⟨M,E,V⟩:=g;simp only at M E V;unfold eZ;refine Tt.b (P:=λb=>b=AE->F<x.As/\AI O<=300) (Tt.b (P:=λy=>y=x) (Tt.o d.ix rfl) λy N=>Tt.c (λX=>Tt.c (λ_=>Tt.p λq2=>?_) λ_=>Tt.p nofun) λ_=>Tt.p nofun) λb j=>Tt.c (λq=>?_) λ_=>Tt.p (Q:=Fd _ _ _ _) gq
    .grind
    .obtain⟨h3,W⟩:=j q;refine Tt.b (Tt.a gq) λy N=>Tt.p (Q:=Fd _ _ _ _) ?_
     grind[QJ]
  .unfold T3;simp only[Jp,Vq];exact Tt.p ⟨_,rfl,om⟩
theorem ky{c:CB}(h:CB.wf c)(R:Id c){d:AN}(f:d∈c.AO):Tt (λn=>Ro n d.Ad) λr=>AI r<=1048576:=by
 have g:=JA h;obtain⟨⟨a,_⟩,b⟩:=R d f;exact(QjH _ _ d.Ad (XT _) b (g.len d f) (g.wf d f) a).w om
theorem QpQ{c:CB}(f:CB.wf c)(R:Id c)(k:Int):Tt (λn=>PP n c k) λ_=>True:=by
 unfold PP;refine Qe (QpU c f) λb=>Qv <| Qe (KV c.AO (Y1 f).dist (λi x d=>?_) λn=>by simp_all[Tw]) λb=>by cases b<;>exact Tt.z
 unfold Tw;simp only[d.lt,Vp,d.ix,XJ,d.nx];exact Qe (ky f R d.mem).any λ_=>Qv <| Tt.p rfl
theorem sd{c:CB}(he:Ev (λn=>HQ n c) 0)(i:Int):Tt (λn=>Me n c i) λe=>e=0->0<=i/\i<(AI c.AO:Int):=by
 unfold Me;refine Tt.b (P:=λe=>e=0) (Tt.e he rfl) λe d=>?_;subst d;refine Tt.c (λq=>by cases q) λ_=>Tt.b (P:=λb=>b=AD->0<=i/\i<(AI c.AO:Int)) (Tt.n λh=>Tt.p λq=>?_) λb f=>Tt.n λq=>Tt.p λ_=>f q;have h:=Vw h;have q:=Vw q;exact⟨om,om⟩
theorem Qnz{c:CB}(h:CB.wf c)(R:Id c)(he:Ev (λn=>HQ n c) 0)(i:Int):Tt (λn=>Of n c i) λ_=>True:=by
 unfold Of;refine Tt.b (sd he i) λe g=>Tt.k λq=>?_;obtain⟨a,b⟩:=g gq;exact Tt.b (Tt.i a b) λd f=>Qe (Tt.z) λ_=>Qe (ky h R f).any λ_=>Qe (Tt.z) λ_=>Qv <| Tt.z
theorem QlS{c:CB}(H:CB.wf c)(R:Id c)(he:Ev (λn=>HQ n c) 0)(i k:Int):Tt (λn=>Oc n c i k) λ_=>True:=by
 unfold Oc;refine Tt.b (sd he i) λe M=>Tt.k λq=>?_;obtain⟨a,b⟩:=M gq;refine Tt.b (Tt.i a b) λd F=>Tt.b (P:=λb=>b=AD->0<=k) (Tt.n λh=>Tt.w (P:=λ_=>True) (Tt.k λ_=>Tt.z) λ_ _ _=>gq) λb0 g=>Tt.k λG=>Tt.b (ky H R F) λr hr=>Tt.b (P:=λb=>b=AD->k<=256) (Tt.n λh=>Tt.p λ_=>gq) λY B=>Tt.k λL=>Qv <| ?_
 have k0:=g G;have X:=B L;refine Tt.b (P:=λx=> -1<=x/\x<(AI r:Int)) ?_ λx f=>?_
 .unfold WB;refine Tt.b (P:=λx=> -1<=x/\x<(AI r:Int)) (QN r (λ(a:Int) i=>(a,i)) (λi a=> -1<=a/\a<(i:Int)) om (λi y a t E=>?_) (λa E=>?_) (-1) _ rfl om) λx f=>Tt.p f
  .unfold TX;simp only[t.lt,Vp,t.ix,XJ,t.nx];exact Tt.b (P:=λx=> -1<=x/\x<((i+1:Nat):Int)) (Tt.c (λ_=>Tt.p om) λ_=>Tt.p ⟨E.1,om⟩) λx f=>Tt.p ⟨x,rfl,f⟩
  simp_all[TX,Tt.p]
 rw[QJ (n:=x+1) om om];refine Tt.b (Tt.sl (Int.le_refl 0) om om) λp hp=>Tt.b (Tt.a (by simp;omega)) λj V=>?_;have e2:AI j=AI p:=by rw[V];simp
 refine Tt.b (P:=λ(m:AA Int)=>AI m<=2000000) (Tt.l (λs:AA Int×Int=>AI s.1=AI j+s.2.toNat/\0<=s.2/\s.2<=k) (λs=>(k-s.2).toNat) (λs O=>?_) (j,0) gq) λm T=>Tt.b (Tt.sl om om (Int.le_refl _)) λp2 h2=>Tt.b (Tt.a om) λ_ _=>Tt.z;obtain⟨s1,s2⟩:=s;obtain⟨N,J,W⟩:=O;simp only at N J W;unfold ec;refine Tt.c (λq=>?_) λ_=>Tt.p (Q:=Fd _ _ _ _) gq;have q:=Vv q;simp only at q;refine Tt.b (Tt.a gq) λm T=>Tt.p (Q:=Fd _ _ _ _) ?_
 grind[QJ]
section
variable {α:Type}
theorem kj{R:AA α->Prop}(l:AA α)(x:α){i:Int}(q:0<=i)(j:i<=(AI l:Int))(H:AI l<=100000)(h:∀m,AI m=AI l+1->(∀y∈m,y=x\/y∈l)->R m):
  Tt (λ_=>(Dj l i (AI l:Int)).bind λa=>(app [x] a).bind λb=>(Dj l 0 i).bind λc=>(app c b).bind λd=>AC d) R:=by
 refine Tt.b (Tt.sl q j (Int.le_refl _)) λp t=>Tt.b (Tt.a (by simp;omega)) λG B=>?_;subst B;refine Tt.b (Tt.sl (Int.le_refl 0) q j) λJ E=>Tt.b (Tt.a (by simp;omega)) λF f=>Tt.p (h _ ?_ λy g=>?_)
 .subst f;simp;omega
 .subst f;simp only[VC,VA]at g;rcases g with h|h|h
  .exact .inr (E.2 y h)
  .exact .inl h
  .exact .inr (t.2 y h)
theorem d?{R:AA α->Prop}(l:AA α)(x:α){i:Int}(g:0<=i)(f:i<=(AI l:Int))(G:AI l<=100000)(h:∀m,AI m=AI l+1->(∀y∈m,y=x\/y∈l)->R m):
  Tt (λ_=>(Dj l 0 i).bind λa=>(app ([]:AA α) a).bind λb=>(app b [x]).bind λc=>(Dj l i (AI l:Int)).bind λd=>(app c d).bind λe=>AC e) R:=by
 refine Tt.b (Tt.sl (Int.le_refl 0) g f) λp t=>Tt.b (Tt.a (by simp;omega)) λF j=>?_;subst j;refine Tt.b (Tt.a (by simp;omega)) λJ q=>Tt.b (Tt.sl g f (Int.le_refl _)) λB M=>?_;subst q;refine Tt.b (Tt.a (by simp;omega)) λE L=>Tt.p (h _ ?_ λy H=>?_)
 .grind
 grind
end
theorem U?(l:AA AP)(b:Int)(d:AI l<=1000):Tt (λn=>Pi n l b) λ_=>True:=by
 unfold Pi;refine Qe (QN l (λ(_:Unit) i=>i) (λ_ _=>True) om (λi x _ ha _=>?_) (λ_ _=>?_) () _ rfl trivial) λr=>?_
 .unfold TI;simp only[ha.lt,Vp,ha.ix,XJ,ha.nx]
  simp_all[Tt.c,Tt.p]
 .simp_all[TI,Tt.p]
 .cases r<;>exact Tt.z
theorem Qnj(l:AA CI)(r:A5)(d:AI l<=16):Tt (λn=>Oa n l r) λ_=>True:=by
 unfold Oa;refine Qe (QN l (λ(_:Unit) i=>i) (λ_ _=>True) om (λi x _ ha _=>?_) (λ_ _=>?_) () _ rfl trivial) λr=>?_
 .unfold U';simp only[ha.lt,Vp,ha.ix,XJ,ha.nx];refine Qe ?_ λ_=>Qv <| Tt.p ⟨(),rfl,trivial⟩
  repeat' first|with_reducible exact Tt.p trivial|with_reducible refine Tt.c (λ_=>?_) λ_=>?_
 .simp_all[U',Tt.p]
 .cases r<;>exact Tt.z
theorem Qnr(a b:A5):Tt (λn=>Ov n a b) λ_=>True:=by
 unfold Ov
 repeat' first|with_reducible exact Tt.p trivial|with_reducible refine Tt.c (λ_=>?_) λ_=>?_
theorem Y?(c:CB)(l:AA CI)(q:AI l<=16):Tt (λn=>Pb n c l) λr=>AI r<=16:=by
 unfold Pb;refine Tt.b (du l q) λC hC=>?_;refine Tt.b (P:=λ(a:AA A5)=>AI a<=16) (QN C (λ(a:AA A5) i=>(a,i)) (λi a=>AI a<=i) om (λi x a d h=>?_) (λa h=>?_) [] _ rfl (XT _)) λa d=>Tt.p d
 .unfold UR;have:=d.lt';simp only[d.lt,Vp,d.ix,XJ,d.nx];refine Tt.b (P:=λ(m:AA A5)=>AI m<=i+1) (Qe (Qv <| Qv <| Qe (Qnj C _ hC.1) λ_=>Tt.z) λb=>Tt.c (λ_=>Tt.p om) λ_=>?_) λm g=>Tt.p ⟨m,rfl,g⟩;refine Tt.b (Tt.find a om λj y f=>Qe (Tt.o f.ix trivial) λy=>Qe (Qnr _ _) λ_=>Tt.z) λj f=>?_;exact kj a x.A5 f.1 f.2 om λm B t=>om
 .unfold UR;simp only[Jp,Vq];exact Tt.p ⟨_,rfl,om⟩
theorem QpZ(c:CB)(l:AA CI)(t:AI l<=16){e:Int}(he:Ev (λn=>HQ n c) e):Tt (λn=>PH n c l) λr=>AI r<=16:=by
 unfold PH;refine Qe (Tt.e he trivial) λe=>Tt.c (λ_=>Tt.p sq) λ_=>Tt.b (Y? c l t) λC hC=>?_;refine Tt.b (P:=λ(a:AA CM)=>AI a<=16) (QN C (λ(a:AA CM) i=>(a,i)) (λi a=>AI a<=i) om (λi x a d j=>?_) (λa j=>?_) [] _ rfl (XT _)) λa d=>Tt.p d
 .unfold TN;have:=d.lt';have w:i64.wrap ((AI a:Int)-1)=(AI a:Int)-1:=Di;simp only[d.lt,Vp,d.ix,XJ,d.nx,w];refine Tt.b (P:=λb=>b=AE->0<=(AI a:Int)-1) (Tt.c (λh=>?_) λ_=>Tt.p nofun) λb g=>?_
  .have h:=Vv h;refine Tt.w (P:=λ_=>True) ?_ λ_ _ _=>h
   repeat' first|with_reducible exact Tt.p trivial|with_reducible refine Tt.c (λ_=>?_) λ_=>?_|with_reducible refine Qe ?_ λ_=>?_|exact(Tt.i h om).any
  .refine Tt.b (P:=λ(m:AA CM)=>AI m<=i+1) (Tt.c (λq=>?_) λ_=>Tt.b (Tt.a (by simp;omega)) λm f=>Tt.p gq) λm f=>Tt.p ⟨m,rfl,f⟩;have h:=g q;exact Qe (Tt.i h om).any λy=>Tt.b (Tt.set h om) λm f=>Tt.p om
 .unfold TN;simp only[Jp,Vq];exact Tt.p ⟨_,rfl,om⟩
theorem X?(c:CB)(l:AA CI)(k:Int)(g:AI l<=16){e:Int}(he:Ev (λn=>HQ n c) e):Tt (λn=>Pu n c l k) λr=>AI r<=16:=by
 unfold Pu;refine Tt.b (QpZ c l g he) λC hC=>?_;refine Tt.b (P:=λ(a:AA CM)=>AI a<=16) (QN C (λ(a:AA CM) i=>(a,i)) (λi a=>AI a<=i) om (λi x a d h=>?_) (λa h=>?_) [] _ rfl (XT _)) λa d=>Tt.p d
 .unfold Tg;have:=d.lt';simp only[d.lt,Vp,d.ix,XJ,d.nx];exact Tt.b (P:=λ(m:AA CM)=>AI m<=i+1) (Tt.c (λ_=>Tt.b (Tt.a (by simp;omega)) λm f=>Tt.p gq) λ_=>Tt.p om) λm f=>Tt.p ⟨m,rfl,f⟩
 .unfold Tg;simp only[Jp,Vq];exact Tt.p ⟨_,rfl,om⟩
theorem tU(l:AA CI)(k:Int)(B:AI l<=16):Tt (λn=>MJ n l k) λr=>AI r<=16:=by
 unfold MJ;refine Tt.b (P:=λ(a:AA Int)=>AI a<=16) (QN l (λ(a:AA Int) i=>(a,i)) (λi a=>AI a<=i) om (λi x a d q=>?_) (λa q=>?_) [] _ rfl (XT _)) λa d=>Tt.p d
 .unfold Tp;have:=d.lt';simp only[d.lt,Vp,d.ix,XJ,d.nx];refine Tt.b (P:=λ(m:AA Int)=>AI m<=i+1) (Tt.c (λ_=>Tt.p om) λ_=>?_) λm g=>Tt.p ⟨m,rfl,g⟩;refine Tt.b (Tt.find a om λj y f=>Qe (Tt.o f.ix trivial) λy=>Tt.z) λj f=>?_;refine Qe (Tt.c (λh=>Qe (Tt.i f.1 (Vv h)).any λ_=>Tt.z) λ_=>Tt.z) λ_=>Tt.c (λ_=>Tt.p om) λ_=>?_;exact kj a _ f.1 f.2 om λm E t=>om
 .unfold Tp;simp only[Jp,Vq];exact Tt.p ⟨_,rfl,om⟩
theorem sb(l:AA CI)(g:AI l<=16):Tt (λn=>Md n l) λr=>AI r<=16:=by
 unfold Md;refine Tt.b (du l g) λC hC=>Tt.b (tU C 8 hC.1) λK hK=>?_;refine Tt.b (P:=λ(a:AA Ak)=>AI a<=16) (QN K (λ(a:AA Ak) i=>(a,i)) (λi a=>AI a<=i) om (λi x a d h=>?_) (λa h=>?_) [] _ rfl (XT _)) λa d=>Tt.p d
 .unfold Tc;have:=d.lt';simp only[d.lt,Vp,d.nx];refine Tt.b (P:=λ(m:AA Ak)=>AI m<=i+1) (QN C (λ(_:Unit) i=>i) (λ_ _=>True) om (λj y _ hy _=>?_) (λ_ _=>?_) () _ rfl trivial) λm f=>Tt.p ⟨m,rfl,f⟩
  .unfold T5;simp only[hy.lt,Vp,hy.ix,XJ,hy.nx];exact Qe (Tt.c (λ_=>Qe (Tt.o d.ix trivial) λ_=>Tt.z) λ_=>Tt.z) λ_=>Tt.c (λ_=>Tt.b (Tt.a (by simp;omega)) λm f=>Tt.p (Q:=F9 _ _ _ _) gq) λ_=>Tt.p ⟨(),rfl,trivial⟩
  .unfold T5;simp only[Jp,Vq];exact Tt.p ⟨_,rfl,om⟩
 .unfold Tc;simp only[Jp,Vq];exact Tt.p ⟨_,rfl,om⟩
theorem rN(l:AA Int)(k:Int)(g:AI l<=1000):Tt (λn=>MT n l k) λr=>AI r<=AI l+1:=by
 unfold MT;refine Tt.b (Tt.find l om λj y d=>Qe (Tt.o d.ix trivial) λy=>Tt.z) λj d=>?_;refine Qe (Tt.c (λh=>Qe (Tt.i d.1 (Vv h)).any λ_=>Tt.z) λ_=>Tt.z) λ_=>Tt.c (λ_=>Tt.p om) λ_=>?_;exact kj l _ d.1 d.2 om λm f q=>om
theorem ii(l:AA CI)(a b:Int)(f:AI l<=16):Tt (λn=>IE n l a b) λr=>r<(AI l:Int):=by
 unfold IE;refine Tt.b (P:=Fj λr=>r<(AI l:Int)) (QN l (λ(_:Unit) i=>i) (λ_ _=>True) om (λi x _ ha _=>?_) (λ_ _=>?_) () _ rfl trivial) λr d=>?_
 .unfold MD;have:=ha.lt';simp only[ha.lt,Vp,ha.ix,XJ,ha.nx];refine Qe ?_ λ_=>Tt.c (λ_=>Tt.p (Q:=F9 _ _ _ _) om) λ_=>Tt.p ⟨(),rfl,trivial⟩
  repeat' first|with_reducible exact Tt.p trivial|with_reducible refine Tt.c (λ_=>?_) λ_=>?_
 .simp_all[MD,Tt.p]
 .cases r with
  |k s=>exact Tt.p om
  |d s=>exact Tt.p d
theorem ux(l:AA CI)(a:Int)(d:AI l<=16):Tt (λn=>Pa n l a) λ_=>True:=by
 unfold Pa;refine Qe (Qe (ii l a 1 d).any λ_=>Qv <| Qe (ii l a 2 d).any λ_=>Tt.z) λ_=>Qv <| ?_
 refine Qe (QN l (λ(_:Unit) i=>i) (λ_ _=>True) om (λi x _ ha _=>?_) (λ_ _=>?_) () _ rfl trivial) λr=>?_
 .unfold VX;simp only[ha.lt,Vp,ha.ix,XJ,ha.nx];refine Qe ?_ λ_=>Qv <| Tt.p ⟨(),rfl,trivial⟩
  repeat' first|with_reducible exact Tt.p trivial|with_reducible refine Tt.c (λ_=>?_) λ_=>?_
 .simp_all[VX,Tt.p]
 .cases r<;>exact Tt.z
theorem QpN(l:AA CI)(a:Int)(d:AI l<=16):Tt (λn=>J4 n l a) λr=>r<(AI l:Int):=by
 unfold J4;exact Qe (ux l a d) λ_=>Tt.c (λ_=>Tt.p om) λ_=>Tt.b (ii l a 2 d) λr h=>Tt.c (λ_=>Tt.p h) λ_=>Tt.b (ii l a 1 d) λr h=>Tt.p h
theorem QpY(l:AA CI)(j:AI l<=16):Tt (λn=>OX n l) λr=>AI r<=16:=by
 unfold OX;refine Tt.b (du l j) λC hC=>Tt.b (tU C 10 hC.1) λK hK=>?_;refine Tt.b (P:=λ(a:AA Af)=>AI a<=16) (QN K (λ(a:AA Af) i=>(a,i)) (λi a=>AI a<=i) om (λi x a d g=>?_) (λa g=>?_) [] _ rfl (XT _)) λa d=>Tt.p d
 .unfold TG;have:=d.lt';simp only[d.lt,Vp,d.ix,XJ,d.nx];exact Tt.b (QpN C x hC.1) λr q=>Tt.b (P:=λ(m:AA Af)=>AI m<=i+1) (Tt.c (λh=>Qe (Tt.i (Vv h) q).any λ_=>Tt.b (Tt.a (by simp;omega)) λm f=>Tt.p gq) λ_=>Tt.p om) λm f=>Tt.p ⟨m,rfl,f⟩
 .unfold TG;simp only[Jp,Vq];exact Tt.p ⟨_,rfl,om⟩
theorem Qnm(l:AA CI)(a:Int)(d:AI l<=16):Tt (λn=>PA n l a) λ_=>True:=by
 unfold PA;refine Tt.b (sb l d) λC hC=>Qe (QN C (λ(_:Unit) i=>i) (λ_ _=>True) om (λi x _ ha _=>?_) (λ_ _=>?_) () _ rfl trivial) λr=>?_
 .unfold UT;simp only[ha.lt,Vp,ha.ix,XJ,ha.nx]
  simp_all[Tt.c,Tt.p]
 .simp_all[UT,Tt.p]
 .cases r<;>exact Tt.z
theorem W?(l:AA CF)(d:AI l<=1000):Tt (λn=>J9 n l) λ_=>True:=by
 unfold J9;refine Qe (QN l (λ(a:Int) i=>(a,i)) (λ_ _=>True) om (λi x a ha _=>?_) (λ_ _=>?_) 0 _ rfl trivial) λr=>Tt.z
 .unfold L8;simp only[ha.lt,Vp,ha.ix,XJ,ha.nx];exact Tt.p ⟨_,rfl,trivial⟩
 simp_all[L8,Tt.p]
structure Mu (c:CB):Prop where
 wf:CB.wf c
 few:HD c
 ty:Ev (λn=>F_ n c) 0
 cE:CN c=0
 good:Fo c
structure LG (c:CB):Prop where
 wf:CB.wf c
 few:HD c
 ty:Ev (λn=>F_ n c) (CN c)
 ref:Ev (λn=>HQ n c) 0
 rr:Id c
theorem LG.r{c:CB}(h:LG c)(e:CN c=0):Mu c:=⟨h.wf,h.few,e▸h.ty,e,Qqr (Y1 h.wf) (JA h.wf) e⟩
theorem QpT{c:CB}(h:LG c){k:CE}(t:Fq k)(s:AP)(e:Int)(x:AA CM)(l:AA Ae):Tt (λn=>Pj n c k s e x l) λr=>r=AE->AI x<=4/\AI l<=6:=by
 unfold Pj;obtain⟨b,m,_⟩:=qy c h.wf;obtain⟨B,y,_⟩:=QoH k t;have rr:=QlS h.wf h.rr h.ref s.AN e;refine Tt.b (P:=λq=>q=AD->AI x<=4/\AI l<=6) (Qe (Tt.e m trivial) λ_=>Tt.n λ_=>Tt.n λ_=>Qe (Tt.e y trivial) λ_=>Tt.n λ_=>Tt.n λj=>Tt.p λg=>?_) λq f=>Tt.n λd=>?_
 .have j:=Vw j;have g:=Vw g;exact⟨om,om⟩
 exact Qe (Tt.k λ_=>Tt.z) λ_=>Tt.c (λ_=>Tt.p λ_=>f d) λ_=>Qe rr λ_=>Qe (Tt.k λ_=>Tt.z) λ_=>Tt.p λ_=>f d
abbrev vE:=AA CD×AA (AA Int)×Int×Int×Int×Int×Int×Int×Int×Int×AA CM×AA Ae×AA CF×Bool
section
variable {α β:Type}
theorem mY(f:α->β):∀(l:AA α) (a:AA β),l.foldl (λa x=>a++[f x]) a=a++l.map f
 |[],a=>sq
 |x::l,a=>by rw[XD,mY f l];simp
theorem Qq8{step:Nat->AA β×Int->AB (CG (AA β×Int) (AA β))}(l:AA α)(f:α->β)(m:AI l<=1048576)
  (h:∀i x a,At l i x->AI a<=i->Ev (λn=>step n (a,(i:Int))) (.k (a++[f x],((i+1:Nat):Int))))
  (d:∀a,Ev (λn=>step n (a,(AI l:Int))) (.d a)):Ev (λn=>Go.Sw.iter (step n) n ([],0)) (l.map f):=by
 have e:l.map f=l.foldl (λa x=>a++[f x]) []:=by rw[mY];rfl
 rw[e];refine YM l (λa x=>a++[f x]) [] (λa i=>(a,(i:Int))) (λa=>a) om rfl (λi x a j g=>h i x a j ?_) (d _);rw[g,mY,Vi,X2,Xx];omega
theorem tI{l:AA α}[DecidableEq (AA α)](d:AI l<=1048576):isNil l (AC ([]:AA α)) ((app ([]:AA α) l).bind λx=>AC x)=AC l:=by
 have:app [] l=AC l:=by rw[py _ _ (by simp;omega)];rfl
 unfold isNil
 grind
theorem Qps{F:Nat->α->α->AB β}{V:α->α->β}(l:AA α)(h:∀x∈l,∀y∈l,Ev (λn=>F n x y) (V x y)):∃N,∀n,N<=n->∀x∈l,∀y∈l,F n x y=AC (V x y):=by
 obtain⟨N,d⟩:=m4 (F:=λn p=>F n p.1 p.2) (V:=λp=>V p.1 p.2) (l.flatMap λx=>l.map λy=>(x,y)) (by
  grind)
 exact⟨N,λn f x j y g=>d n f (x,y) gq⟩
def NV(c:α->α->Int)(x y:α):Bool:=AG (c x y<0)
theorem qO{c:α->α->Int}(d:DU c)(l:AA α):Np (NV c) l:=by
 refine⟨λx _=>?_,λx _ y _ z _ g f=>?_,λx _ y _ z _ g f=>?_⟩
 .have:=d.refl x;exact Vx om
 .have g:=Vv g;have f:=Vv f;exact Vu (d.trans x y z g f)
 .have g:=Vw g;have f:=Vw f;refine Vx λh=>?_;have a:=d.swap x y;have b:=d.swap y z;by_cases e:c x y=0
  .rw[d.eqt x y z e]at h;exact f h
  .by_cases j:c y z=0
   .rw[<- d.eqr x j]at h;exact g h
   .have m:=d.trans z y x om om;have:=d.swap x z;omega
theorem pp[DecidableEq α]{j:Nat->α->α->AB Int}{l:AA α}{c:α->α->Int}(E:AI l<=1048576)(H:∀x∈l,∀y∈l,Ev (λn=>j n x y) (c x y))(d:DU c)(F:∀x∈l,∀y∈l,c x y=0->x=y):
  Ev (λn=>L2 (j n) l) (I6 (NV c) l):=by
 obtain⟨N,G⟩:=Qps l H;refine⟨N,λn J=>?_⟩;have h:=G n J;have B:=QnM (XR (Qqt E)) c h (λx _=>by have:=d.refl x;omega) (λx _ y _ z _=>d.trans x y z) (λx g y f z L q m=>by
   have:=(qO d l).ntrans x g y f z L (Vx q) (Vx m);exact Vw this) (λx g y f q m=>F x g y f (by have:=d.swap x y;omega))
 show L2 (j n) l=AC (I6 (NV c) l);rw[B];congr 1;obtain⟨_,_,M,_,_⟩:=mL B;have t:∀x∈l,∀y∈l,HG (j n) x y=NV c x y:=λx g y f=>by unfold HG NV;grind
 refine mt ((Yw _ l).trans (Yw _ l).symm) (λx g y f q m=>?_) ?_ (ik (qO d l))
 .grind[Yw]
 grind[List.Pairwise.imp_of_mem,ik,Yw]
end
def C':AA Int->AA Int->Int
 |[],[]=>0
 |[],_::_=> -1
 |_::_,[]=>1
 |x::a,y::b=>bif C2 x y != 0 then C2 x y else C' a b
theorem QqK(a b:AA Int)(J:AI a<=1048576)(L:AI b<=1048576):Ev (λn=>PI n a b) (C' a b):=by
 unfold PI;have h:∀(r:AA Int) (i:Nat),a.drop i=r->i<=AI a->i<=AI b->∃d:CG Unit Int,DY (λn=>Ku n a b) (i:Int) d/\(match d with|.k _=>(bif (AI a:Int)<(AI b:Int) then(-1:Int)else 0)|.d v=>v)=C' r (b.drop i):=by
  intro r
  induction r with
  |nil=>
   intro i j F B;refine⟨.k (),Ei ?_,?_⟩
   .unfold Ku;simp only[Yt j F,Vq];exact Qa _
   .have f:i=AI a:=by have:=Xq.1 j;omega
    cases q:b.drop i with
    |nil=>
     simp_all[YO,C']
    |cons y s=>
     have:i<AI b:=by
      grind
     simp_all[C']
  |cons x r G=>
   intro i j F B;obtain⟨f,H⟩:=QG om j;by_cases E:AI b<=i
   .refine⟨.d 1,Ei ?_,?_⟩
    .unfold Ku;simp only[f.lt,Vp,f.ix,XJ,dT ((AI b:Int)<=(i:Int))];exact Qa _
    .rw[List.drop_of_length_le E];rfl
   .have g:i<AI b:=by omega
    rw[Xp g];cases q:(C2 x b[i] != 0)with
    |true=>
     refine⟨.d (C2 x b[i]),Ei ?_,?_⟩
     .unfold Ku;simp only[f.lt,Vp,f.ix,XJ,dF ((AI b:Int)<=(i:Int)),Vq,Qz (XK g)];refine Ea (St _ _) ?_;rw[q];exact Qa _
     .simp only[C',q,Vp]
    |false=>
     obtain⟨d,t,m⟩:=G (i+1) H (by have:=f.lt';omega) om;refine⟨d,Ew ?_ t,?_⟩
     .unfold Ku;simp only[f.lt,Vp,f.ix,XJ,dF ((AI b:Int)<=(i:Int)),Vq,Qz (XK g),f.nx];refine Ea (St _ _) ?_;rw[q];exact Qa _
     simp_all[C']
 obtain⟨d,t,m⟩:=h a 0 rfl (XU _) (XU _);rw[List.drop_zero]at m;refine Ea t.ev ?_;rw[<- m];cases d with
 |d v=>exact Qa _
 |k _=>exact JS (λ_=>Qa _) (λ_=>Qa _)
theorem Qo1(a b:Int):C2 a b<0↔a<b:=by
 grind[C2]
theorem g_(a b:Int):(C2 a b != 0)=(a != b):=by
 grind[C2]
theorem QqT(x y:Int)(a b:AA Int):C' (x::a) (y::b)<0↔x<y\/x=y/\C' a b<0:=by
 rw[show C' (x::a) (y::b)=bif C2 x y != 0 then C2 x y else C' a b from rfl,g_];by_cases e:x=y
 .subst e;simp
 .have:(x != y)=true:=by grind
  rw[this,Vp,Qo1];omega
theorem uC:∀a b c:AA Int,C' a b<0->C' b c<0->C' a c<0
 |[],[],c,h,_=>om
 |[],y::b,[],_,h=>by simp[C']at h
 |[],y::b,z::c,_,_=>by simp[C']
 |x::a,[],c,h,_=>by simp[C']at h
 |x::a,y::b,[],_,h=>by simp[C']at h
 |x::a,y::b,z::c,h1,h2=>by
  rw[QqT]at h1 h2⊢;rcases h1 with h1|⟨e1,h1⟩<;>rcases h2 with h2|⟨e2,h2⟩
  iterate 3 left;omega
  .exact .inr ⟨om,uC a b c h1 h2⟩
theorem Qq6{α:Type}[DecidableEq α](l m:AA α)(step:Nat->Int->AB (CG Int (CG Unit Bool)))(G:AI l<=4611686018427387904)
  (B:∀n s,step n s=(bif s<(AI l:Int) then(CJ l s).bind λx=>(CJ m s).bind λy=>(bif (x != y)then AC (.d (.d AD))else AC (.k (i64.wrap (s+1))))else AC (.d (.k ())))):
  Ev (λn=>(bif ((AI l:Int) != (AI m:Int))then AC AD else(Go.Sw.iter (step n) n 0:AB (CG Unit Bool)).bind λb11=>match b11 with|.k sb11=>(AC AE)|.d sb11=>AC sb11)) (AG (l=m)):=by
 by_cases j:AI l=AI m
 .rw[show(AI l != (AI m:Int))=AD by grind];have loop:∀(r d:AA α) (i:Nat),l.drop i=r->m.drop i=d->i<=AI l->DY step i (bif r=d then CG.k ()else CG.d AD):=by
   intro r
   induction r with
   |nil=>
    grind[DY.done,Qa,Yt]
   |cons x r F=>
    intro d i H h J;obtain⟨f,q⟩:=QG G H;have E:=f.lt';cases d with
    |nil=>
     have h1:=Xq.1 h;omega
    |cons y d=>
     obtain⟨t,g⟩:=QG om h;by_cases e:x=y
     .subst e;refine Ew ?_ ((F d (i+1) q g om).eq ?_)
      .refine Ev.congr (Qa _) λn=>?_;rw[B,f.lt,f.ix,t.ix,Vp,XJ,XJ,f.nx];simp
      .simp
     .refine Ei (Ev.congr (Qa _) λn=>?_);rw[B,f.lt,f.ix,t.ix,Vp,XJ,XJ,bne_iff_ne.2 e];simp[e]
  refine Ea (loop l m 0 rfl rfl (XU _)).ev ?_;cases AG (l=m)<;>exact Qa _
 .rw[show(AI l != (AI m:Int))=AE by rw[bne_iff_ne];omega];refine(Qa _).eq ?_;rw[YO λe=>j (by rw[e])]
def jH:CC:={BM:=AE,BS:=(-1),Lo:=0,Hi:=0:CC}
def HI(o:CC):Bool:= !(o.BM||AG (o.Hi<o.Lo))
def Ic(x y:CC):Int:=IK [C2 x.BS y.BS,C2 x.Lo y.Lo,C2 x.Hi y.Hi]
theorem qx:Ic=λx y=>bif C2 x.BS y.BS != 0 then C2 x.BS y.BS else bif C2 x.Lo y.Lo != 0 then C2 x.Lo y.Lo else C2 x.Hi y.Hi:=by
 funext x y
 unfold Ic IK IK IK IK
 grind
theorem QqS:DU Ic:=by
 rw[qx];exact(F8.on λx:CC=>x.BS).lex ((F8.on λx:CC=>x.Lo).lex (F8.on λx:CC=>x.Hi))
theorem QmA{x y:CC}(h:Ic x y=0):x.BS=y.BS/\x.Lo=y.Lo/\x.Hi=y.Hi:=by
 rw[qx]at h;simp only at h;cases f:(C2 x.BS y.BS != 0)with
 |true=>
  grind
 |false=>
  rw[f,Vq]at h;cases d:(C2 x.Lo y.Lo != 0)with
  |true=>
   grind
  |false=>
   rw[d,Vq]at h;exact⟨gB.1 gq,gB.1 gq,gB.1 h⟩
def Fy(a b:CC):Bool:=(a.BS==b.BS)&&(AG (b.Lo<=a.Hi)||(i64.wrap (b.Lo-1)==a.Hi))
def NI(a b:CC):CC:={a with Hi:=if a.Hi<b.Hi then b.Hi else a.Hi:CC}
def DZ:CC->AA CC->AA CC
 |a,[]=>[a]
 |a,b::r=>bif Fy a b then DZ (NI a b) r else a::DZ b r
def Fv:AA CC->AA CC
 |[]=>[]
 |a::r=>DZ a r
def D1(l:AA CC):AA CC:=bif l.any (·.BM)then[jH]else[]
def FM(l:AA CC):AA CC:=I6 (NV Ic) (l.filter HI)
def DW(l:AA CC):AA CC:=D1 l++Fv (FM l)
theorem Qp4{α:Type}(P R:AA α)(x y:α):JK (P++x::R) (AI P:Int) y=AC (P++y::R):=by
 rw[rJ _ _ sq];simp
theorem qm{α:Type}(P R:AA α)(x:α):CJ (P++x::R) (AI P:Int)=AC x:=Qz sq
theorem QoE(P:AA CC)(a b:CC)(d:AI P<=1000):Ev (λn=>MQ n b (AI P:Int) (P++[a])) (bif Fy a b then((AI P:Int),P++[NI a b])else((AI (P++[a]):Int),(P++[a])++[b])):=by
 unfold MQ;refine Ea (v:=Fy a b) ?_ ?_
 .simp_all[qm,Fy,Eh,QI,Qa]
 .cases Fy a b with
  |true=>
   simp only[Vp,qm,XJ,Qp4];exact Qa _
  |false=>
   simp only[Vq];rw[lC _ _ (by simp;omega)];simp only[XJ];refine(Qa _).eq ?_;rw[QJ om gq]
   grind
theorem l8(S:AA CC)(hS:AI S<=900):∀(r:AA CC) (i:Nat) (P:AA CC) (a:CC),S.drop i=r->i<=AI S->AI P<=i+1->DY (λn=>I' n S) (P++[a],(AI P:Int),(i:Int)) (P++DZ a r)
 |[],i,P,a,hr,hi,hp=>by
  refine Ei ?_;unfold I';simp only[Yt hr hi,Vq,DZ];exact Qa _
 |b::r,i,P,a,hr,hi,hp=>by
  obtain⟨ha,hr'⟩:=QG om hr;have hlt:=ha.lt';have h1:=QoE P a b om;unfold DZ;cases q:Fy a b with
  |true=>
   rw[q]at h1;refine Ew ?_ (l8 S hS r (i+1) P (NI a b) hr' om om);unfold I';simp only[ha.lt,Vp,ha.ix,XJ,ha.nx];exact Ea h1 (Qa _)
  |false=>
   rw[q]at h1;have ih:=l8 S hS r (i+1) (P++[a]) b hr' om (by simp;omega);refine(Ew ?_ ih).eq sq;unfold I';simp only[ha.lt,Vp,ha.ix,XJ,ha.nx];exact Ea h1 (Qa _)
theorem Qmt(l:AA CC)(m:AI l<=1048576):Ev (λn=>O' n l) (l.any (·.BM)):=by
 unfold O' WX;refine Ea (Ev.first l (λo=>o.BM) om (λi x d=>?_) ?_) ?_
 .unfold Tk Wz;simp only[d.lt,Vp,d.ix,XJ,d.nx];cases x.BM<;>exact Qa _
 .simp_all[Tk,Qa]
 .refine(Qa _).eq ?_;rcases eG (λo:CC=>o.BM) l 0 with⟨g,f⟩|⟨j,x,g,f,q,h⟩
  .grind
  grind
theorem QqH(l:AA CC)(q:AI l<=1048576):Ev (λn=>PZ n l) (l.filter HI):=by
 have m:∀x:CC,Ev (λn=>MR n x) (!HI x):=λx=>by
  simp_all[MR,HI,QI,Qa]
 unfold PZ Wo;refine Eu (Qm3 l (λg=> !HI g) q (Ev.first l _ om (λi x d=>?_) ?_) (λh i j x y t d f F E=>?_) λh i=>?_) sq
 .unfold UM;simp only[d.lt,Vp,d.ix,XJ,d.nx];refine Ea (m x) ?_;cases HI x<;>exact Qa _
 .simp_all[UM,Qa]
 .have B:=(XL.1 f).1;unfold Tj;simp only[d.lt,Vp,d.ix,XJ,d.nx];refine Ea (m x) ?_;cases HI x with
  |false=>exact Qa _
  |true=>
   simp only[Xg,Xh,Vp,Vq,Qz f,rJ h x B,XJ,YT (show i<9223372036854775807 by omega)];exact Qa _
 simp_all[Tj,Qa]
theorem QqJ(x y:CC):Ev (λn=>Po n x y) (Ic x y):=by
 unfold Po;exact Ea (St _ _) (Ea (St _ _) (Ea (St _ _) (Ea (oo _ sq) (Qa _))))
theorem da{x:CC}(h:HI x=AE):x.BM=AD/\x.Lo<=x.Hi:=by
 grind[HI]
theorem qc(l:AA CC):AI (FM l)<=AI l:=by
 unfold FM;rw[(Yw _ _).length_eq]
 grind
theorem _Q{x y:CC}(f:HI x=AE)(d:HI y=AE)(h:Ic x y=0):x=y:=by
 obtain⟨a,b,c⟩:=QmA h;have G:=(da f).1;have B:=(da d).1;obtain⟨t,q,m,E⟩:=x;obtain⟨F,j,yl,g⟩:=y
 grind
theorem qC(l:AA CC)(F:AI l<=900):Ev (λn=>JZ n l) (DW l):=by
 unfold JZ DW;refine Ea (Qmt l om) (Ea (v:=D1 l) ?_ ?_)
 .unfold D1 IQ;cases l.any (·.BM)with
  |false=>exact Qa _
  |true=>exact Qa _
 refine Ea (v:=l) ?_ (Ea (QqH l om) ?_)
 .unfold V3;exact EA (tI om)
 have H:=List.length_filter_le HI l;refine Ea (v:=FM l) (pp om (λx _ y _=>QqJ x y) QqS λx G y E h=>_Q gq gq h) ?_;have t:=qc l;generalize FM l=S at t;refine Ea (v:=D1 l++Fv S) ?_ (Qa _);have q:AI (D1 l)<=1:=by
  grind[D1]
 generalize D1 l=B at q;cases S with
 |nil=>
  refine(Ei ?_).ev
  grind[I',Qa,Fv]
 |cons a r=>
  have d:At (a::r) 0 a:=Y5 om rfl;refine(Ew (s':=(B++[a],(AI B:Int),((1:Nat):Int))) ?_ (l8 (a::r) om r 1 B a rfl sq om)).ev;unfold I';have m:((0:Nat):Int)=0:=rfl;have g:=d.lt;have f:=d.ix;have j:=d.nx;rw[m]at g f j;simp only[g,f,j,Vp,XJ];refine Ea (v:=((AI B:Int),B++[a])) ?_ (Qa _);unfold MQ;refine Ea (v:=AD) (Qa _) (Q1 ?_)
  grind[lC,Qa,QJ]
theorem ma:∀(r:AA CC) (a:CC),AI (DZ a r)<=AI r+1
 |[],a=>by simp[DZ]
 |b::r,a=>by
  unfold DZ;cases Fy a b with
  |true=>have:=ma r (NI a b);grind
  |false=>have:=ma r b;grind
theorem Qnc(l:AA CC):AI (DW l)<=AI l+1:=by
 have f:=qc l;unfold DW;rw[X3];have t:AI (D1 l)<=1:=by unfold D1;cases l.any (·.BM)<;>simp
 cases q:FM l with
 |nil=>simp only[Fv,List.length_nil];omega
 |cons a r=>
  rw[q]at f;have:=ma r a;have g:Fv (a::r)=DZ a r:=rfl;rw[g];simp only[X0]at f;by_cases z:l.any (·.BM)=AE
  ·
   have j:AI (l.filter HI)<AI l:=by
    obtain⟨x,m,d⟩:=Xt.1 z;rcases VB (AI (l.filter HI)) (AI l) with h|h
    .exact h
    .have e:=List.filter_eq_self.1 (List.Sublist.eq_of_length List.filter_sublist (Nat.le_antisymm (List.length_filter_le ..) h)) x m;rw[(da e).1]at d;cases d
   have e:AI (a::r)=AI (l.filter HI):=by rw[<- q];unfold FM;exact(Yw _ _).length_eq
   simp only[X0]at e;omega
  .have:D1 l=[]:=by unfold D1;rw[Bool.not_eq_true]at z;rw[z];rfl
   rw[this,List.length_nil];omega
theorem s_(l m:AA CC)(hl:AI l<=1048576):Ev (λn=>Ml n l m) (AG (l=m)):=Qq6 l m (λn=>ef n l m) om λn s=>rfl
set_option maxRecDepth 10000
def IU:AA (Int×Int)->Int
 |[]=>0
 |e::l=>e.2+IU l
theorem qf:∀(l m:AA (Int×Int)),IU (l++m)=IU l+IU m
 |[],m=>by simp[IU]
 |e::l,m=>by simp only[VK,IU,qf l m];omega
theorem Qmb{l:AA (Int×Int)}{k:Int}(h:k∉l.map (·.1)):Qm l k 0=0:=by
 unfold Qm
 induction l with
 |nil=>rfl
 |cons e l d=>
  simp only[Vk,X7,not_or]at h;rw[Y8,Vs (λq=>h.1 q.symm)];exact d h.2
theorem kr{l:AA (Int×Int)}{k:Int}(h:k∈l.map (·.1)):(k,Qm l k 0)∈l:=by
 unfold Qm
 induction l with
 |nil=>simp at h
 |cons e l d=>
  rw[Y8]
  grind
theorem Zh{l:AA (Int×Int)}{k:Int}(h:k∈l.map (·.1))(v:Int):QL l k v=l.map λp=>bif p.1=k then(p.1,v)else p:=by
 unfold QL
 grind
theorem Qn2{l:AA (Int×Int)}{k:Int}(h:k∉l.map (·.1))(v:Int):QL l k v=l++[(k,v)]:=by
 unfold QL
 grind
theorem dx{l:AA (Int×Int)}{k:Int}(h:k∈l.map (·.1))(v:Int):(QL l k v).map (·.1)=l.map (·.1):=by
 rw[Zh h,List.map_map];refine List.map_congr_left λe _=>?_
 grind
theorem qT{l:AA (Int×Int)}{k:Int}(h:k∈l.map (·.1))(v:Int):AI (QL l k v)=AI l:=by
 rw[Zh h,X2]
theorem rv{l:AA (Int×Int)}{k:Int}(h:k∈l.map (·.1))(v:Int):∀e∈QL l k v,e.2=v\/e∈l:=by
 intro e d;rw[Zh h]at d
 grind
theorem qP{l:AA (Int×Int)}{k v:Int}(h:k∉l.map (·.1)):(l.map λp=>bif p.1=k then(p.1,v)else p)=l:=by
 induction l with
 |nil=>rfl
 |cons e l d=>
  grind
theorem rx{l:AA (Int×Int)}{k:Int}(nd:(l.map (·.1)).Nodup)(h:k∈l.map (·.1))(v:Int):IU (QL l k v)=IU l+v-Qm l k 0:=by
 rw[Zh h];unfold Qm
 induction l with
 |nil=>simp at h
 |cons e l d=>
  simp only[Vk,List.nodup_cons]at nd;rw[Y8,Vk];by_cases q:e.1=k
  .subst q;rw[qP nd.1,Jf rfl,Vt rfl]
   grind[IU]
  .have f:k∈l.map (·.1):=by
    grind
   have:=d nd.2 f;rw[Vs q,YO q]
   grind[IU]
theorem Qma{l:AA (Int×Int)}{k:Int}(nd:(l.map (·.1)).Nodup)(h:k∈l.map (·.1))(v:Int):QL (QL l k v) k (Qm l k 0)=l:=by
 rw[Zh (by rw[dx h];exact h),Zh h];unfold Qm
 induction l with
 |nil=>rfl
 |cons e l d=>
  simp only[Vk,List.nodup_cons]at nd;rw[Y8,Vk,Vk];by_cases q:e.1=k
  .subst q
   simp_all[qP]
  .have f:k∈l.map (·.1):=by
    grind
   simp_all
theorem Qqo{l:AA Int}{x:Int}(h:x∈l):SD l x=true:=by
 grind[SD,eG]
theorem kx(W:CW)(U:AA Bool)(d:∀h:Nat,U[h]?=AC AE->SD W.BL (h:Int)=AE)(f:AI U<=1000):∀(H:AA CM) (i:Nat) (a:Int),i+AI H=AI U->0<=a->a<=(i:Int)->KZ W H i a<=a+((U.drop i).count AD:Int)
 |[],i,a,h,_,_=>by
  show a<=a+_;omega
 |y::H,i,a,h,h0,h1=>by
  simp only[X0]at h;have hi:i<AI U:=om;rw[Xp hi,List.count_cons];show KZ W H (i+1) _<=_;cases q:SD W.BL (i:Int)with
  |true=>
   have:=kx W U d f H (i+1) a om h0 om;simp only[Xg,Vq];omega
  |false=>
   have hf:U[i]=false:=by
    cases z:U[i]with
    |false=>rfl
    |true=>
     have:=d i (by rw[XK hi,z]);rw[q]at this;cases this
   have w:i64.wrap (a+1)=a+1:=Di;have:=kx W U d f H (i+1) (a+1) om om om;simp only[Xh,Vp,w,hf];simp only[beq_self_eq_true,if_true];omega
theorem qj(f:Int×Int->Int):∀(l:AA (Int×Int)) (s:Int),(∀e∈l,e.2<=f e/\0<=f e/\f e<=100000)->0<=s->s+100000*(AI l:Int)<=1000000000000->s+IU l<=l.foldl (λs e=>i64.wrap (s+f e)) s
 |[],s,_,_,_=>by show s+0<=s;omega
 |e::l,s,h,h0,hb=>by
  obtain⟨a,b,c⟩:=h e (X5 ..);simp only[X0]at hb;have w:i64.wrap (s+f e)=s+f e:=Di;have:=qj f l (s+f e) gq om om
  grind[IU]
set_option maxRecDepth 10000
theorem mJ(n:Int):i64.wrap n=if n%18446744073709551616≥9223372036854775808 then n%18446744073709551616-18446744073709551616 else n%18446744073709551616:=by
 simp_all[IntKind.wrap,IntKind.bits,IntKind.signed]
theorem QlD(z a b:Int):i64.wrap (i64.wrap (z+a)+b)=i64.wrap (i64.wrap (z+b)+a):=by
 simp only[mJ];omega
theorem i?(f:Int×Int->Int)(l:AA (Int×Int)):anyP (λp=>(Lu (λ(s:Int) (e:Int×Int)=>AC (CG.k (i64.wrap (s+f e)))) (λs=>AC s) 0 p).bind λb=>AC b) l=AC (l.foldl (λs e=>i64.wrap (s+f e)) 0):=by
 have run:∀(p:AA (Int×Int)) (s:Int),Lu (B:=Int) (λ(s:Int) (e:Int×Int)=>AC (CG.k (i64.wrap (s+f e)))) (λs=>AC s) s p=AC (p.foldl (λs e=>i64.wrap (s+f e)) s):=by
  intro p
  induction p with
  |nil=>intro s;rfl
  |cons e p g=>intro s;exact g _
 unfold anyP;have:(LQ l).all (λp=>AG (((Lu (B:=Int) (λ(s:Int) (e:Int×Int)=>AC (CG.k (i64.wrap (s+f e)))) (λs=>AC s) 0 p).bind λb=>AC b)=((Lu (B:=Int) (λ(s:Int) (e:Int×Int)=>AC (CG.k (i64.wrap (s+f e)))) (λs=>AC s) 0 l).bind λb=>AC b)))=true:=by
  rw[Xs];intro p d;rw[run,run,Vr];exact congrArg AC ((ic l p d).foldl_eq' (λx _ y _ z=>QlD z (f x) (f y)) 0)
 rw[this];simp only[Vp];rw[run];rfl
def LY(F M:AA (Int×Int)):Int:=F.foldl (λs e=>i64.wrap (s+(if 0<i64.wrap (e.2-Qm M e.1 0)then i64.wrap (e.2-Qm M e.1 0)else 0))) 0
theorem tx(F M:AA (Int×Int)):Ev (λn=>Pm n F M) (LY F M):=
 EA (o:=Pm 0 F M) (i? (λe=>if 0<i64.wrap (e.2-Qm M e.1 0)then i64.wrap (e.2-Qm M e.1 0)else 0) F)
theorem rL(t:Ck)(s:Uh)(p h:Int)(d:0<=s.row):(DC t s p h).1.row<=s.row+1:=by
 unfold DC
 grind
theorem gK{α:Type}{l:AA α}{i:Int}{x:α}(f:0<=i)(d:i<(AI l:Int)):Tt (λ_=>JK l i x) (λm=>m=l.set i.toNat x):=by
 simp_all[Tt.o,JK]
def WL(t:Ck)(L:AA CW):Prop:=AI L<=65/\ ∀w∈L,AI w.BL=AI t.r/\(-1<=w.A7/\w.A7<=300)/\FD t w=AE
abbrev kH:=AA CW×AA Int×AA (Int×Int)×AA Bool×AA (Int×Int)
def SR(t:Ck)(W:AA Int)(U:AA Bool)(M F:AA (Int×Int))(r:kH):Prop:=WL t r.1/\r.2.1=W/\r.2.2.2.1=U/\r.2.2.2.2=F/\ ∀m,Qm r.2.2.1 m 0=Qm M m 0
structure Sv (t:Ck) (p:Nat) (en:Bool) (la:Int) (s:Uh) (W:List Int) (U:List Bool) (M F:List (Int×Int)):Prop where
 st:Ke t s
 row:s.row<=(p:Int)
 wl:AI W=AI t.r
 ul:AI U=AI t.H
 tail:∀j,p<=j->j<AI t.r->W[j]?=AC (-1)
 used:∀h:Nat,U[h]?=AC AE->(h:Int)∈W
 cnt:∀m,Qm M m 0=((t.r.drop p).count m:Int)
 nd:(F.map (·.1)).Nodup
 fl:AI F<=1000
 fb:∀e∈F,-(p:Int)<=e.2/\e.2<=1000
 sum:IU F=(U.count AD:Int)
 key:∀h∈t.H,h.Al∈F.map (·.1)
 l0: -1<=la
 l1:la<(p:Int)
 l2:en=AD->la=(p:Int)-1
 pre:∃u,(∀h:Int,Qm u h AD=AE->0<=h/\U[h.toNat]?=AC AE)/\ ∀W':CW,AI W'.BL=AI t.r->(∀j,j<p->W'.BL[j]?=W[j]?)->(en=AE->W'.A7=la)->(en=AD->(p:Int)-1<=W'.A7)->
  admL t W' (W'.BL.drop p) p u s=AE->admL t W' W'.BL 0 [] Ry=AE
theorem iS{α:Type}{l:AA α}{p:Nat}{x:α}(h:l[p]?=AC x):l.drop p=x::l.drop (p+1):=by
 grind[List.drop_eq_getElem_cons]
theorem ly{t:Ck}{p:Nat}{x:Int}{M:AA (Int×Int)}(d:t.r[p]?=AC x)(g:AI t.r<=256)(h:∀m,Qm M m 0=((t.r.drop p).count m:Int))(m:Int):
  Qm (QL M x (i64.wrap (Qm M x 0-1))) m 0=((t.r.drop (p+1)).count m:Int):=by
 have e:∀m,((t.r.drop p).count m:Int)=((t.r.drop (p+1)).count m:Int)+(if x=m then 1 else 0):=by
  intro m;rw[iS d,List.count_cons];by_cases q:x=m<;>simp[q]
 have f:(t.r.drop (p+1)).count x<=256:=XV List.count_le_length (by rw[List.length_drop];omega);rw[Y2];by_cases q:m=x
 .subst q;rw[Vt rfl,h,e,Vt rfl,Di];omega
 .rw[Vs q,h,e,Vs (λz=>q z.symm)];omega
theorem Qo0{M M2:AA (Int×Int)}{x:Int}(d: -100000<=Qm M x 0/\Qm M x 0<=100000)(h:∀m,Qm M2 m 0=Qm (QL M x (i64.wrap (Qm M x 0-1))) m 0)(m:Int):
  Qm (QL M2 x (i64.wrap (Qm M2 x 0+1))) m 0=Qm M m 0:=by
 rw[Y2];by_cases q:m=x
 .subst q;rw[Vt rfl,h,Y2,Vt rfl,QJ (n:=Qm M m 0-1) om om,Di];omega
 .rw[Vs q,h,Y2,Vs q]
theorem Qp2{t:Ck}(ok:C9 t){g:Bool}{d:Int}{s:Uh}{W:AA Int}{U:AA Bool}{M F:AA (Int×Int)}(v:Sv t (AI t.r) g d s W U M F)(x:t.hi<=d)(m:¬t.c.AQ.A8<LY F M):
  FD t {BL:=W,A7:=d}=true:=by
 have rl:=ok.rl;have hl:=ok.hl;unfold FD;have j:H0 t {BL:=W,A7:=d}=false:=by
  unfold H0;have a:=v.l0;have b:=v.l1;have wl:=v.wl;have y:IU F<=LY F M:=by
   have z:=qj (λe=>if 0<i64.wrap (e.2-Qm M e.1 0)then i64.wrap (e.2-Qm M e.1 0)else 0) F 0 (λe f=>by
    have:=v.fb e f;have c:=v.cnt e.1;rw[Xr,List.count_nil]at c;have w:i64.wrap (e.2-Qm M e.1 0)=e.2:=by rw[c,Di];omega
    simp only[w];split<;>omega) om (by have:=v.fl;omega)
   rw[Int.zero_add]at z;exact z
  have sl:=kx {BL:=W,A7:=d} U (λh q=>Qqo (v.used h q)) (by have:=v.ul;omega) t.H 0 0 (by have:=v.ul;omega) (Int.le_refl 0) (Int.le_refl 0);rw[List.drop_zero]at sl;have B:=v.sum;simp only[wl,bne_self_eq_false,Bool.false_or];rw[YO om,YO om,YO om,YO om];rfl
 rw[j,Vq];obtain⟨u,_,pre⟩:=v.pre;refine pre {BL:=W,A7:=d} v.wl (λ_ _=>rfl) (λ_=>rfl) (λq=>by have:=v.l2 q;show(AI t.r:Int)-1<=d;omega) ?_;show admL t _ (W.drop (AI t.r)) _ _ _=AE;rw[<- v.wl,Xr];rfl
theorem Qp1{t:Ck}(ok:C9 t){p:Nat}{B:Int}{s:Uh}{W:AA Int}{U:AA Bool}{M F:AA (Int×Int)}(v:Sv t p AD B s W U M F){x:Int}(f:t.r[p]?=AC x)(m:(DC t s (p:Int) (-1)).2=AE):
  Sv t (p+1) AD (p:Int) (DC t s (p:Int) (-1)).1 W U (QL M x (i64.wrap (Qm M x 0-1))) F:=by
 have rl:=ok.rl;have g:=(XL.1 f).1;have G:=v.row;refine {v with st:=kv ok v.st om (.inl om) om,row:=?_,tail:=λj a b=>v.tail j om b,cnt:=ly f rl v.cnt,fb:=λe h=>?_,l0:=om,l1:=om,l2:=λ_=>om,pre:=?_}
 .have:=rL t s (p:Int) (-1) v.st.r0;omega
 .have:=v.fb e h;omega
 .obtain⟨u,y,pre⟩:=v.pre;refine⟨u,y,λW' a b _ d q=>pre W' a (λj E=>b j om) nofun (λ_=>by have:=d rfl;omega) ?_⟩;have e:W'.BL[p]?=AC (-1):=by rw[b p om];exact v.tail p (XT _) g
  have H:=d rfl;rw[iS e,dz];have:((-1:Int) != -1)=false:=by decide
  simp only[this,Bool.false_and,Vq,m,Xg];rw[YO om,Vq];exact q
theorem S?{t:Ck}(ok:C9 t){p:Nat}{B:Bool}{d:Int}{s:Uh}{W:AA Int}{U:AA Bool}{M F:AA (Int×Int)}(v:Sv t p B d s W U M F){x:Int}(f:t.r[p]?=AC x):
  Sv t (p+1) AE d s W U (QL M x (i64.wrap (Qm M x 0-1))) F:=by
 have rl:=ok.rl;have g:=(XL.1 f).1;have m:=v.l1;refine {v with row:=by have:=v.row;omega,tail:=λj a b=>v.tail j om b,cnt:=ly f rl v.cnt,fb:=λe h=>by have:=v.fb e h;omega,l1:=om,l2:=nofun,pre:=?_};obtain⟨u,y,pre⟩:=v.pre;refine⟨u,y,λW' a b c _ q=>pre W' a (λj E=>b j om) (λ_=>c rfl) (λz=>by have:=v.l2 z;rw[c rfl];omega) ?_⟩;have e:W'.BL[p]?=AC (-1):=by rw[b p om];exact v.tail p (XT _) g
 rw[iS e,dz];have:((-1:Int) != -1)=false:=by decide
 simp only[this,Bool.false_and,Vq];rw[Jf (show W'.A7<(p:Int)by rw[c rfl];omega),Vp];exact q
theorem T?{t:Ck}(ok:C9 t){p i:Nat}{V:Int}{s:Uh}{W:AA Int}{U:AA Bool}{M F:AA (Int×Int)}(v:Sv t p AD V s W U M F){x:Int}(J:t.r[p]?=AC x){y:CM}(B:t.H[i]?=AC y)(L:y.Al=x)(G:U[i]?=AC AD)(Q:(DC t s (p:Int) (i:Int)).2=AE)
  {M2:AA (Int×Int)}(T:∀m,Qm M2 m 0=((t.r.drop (p+1)).count m:Int)):
  Sv t (p+1) AD (p:Int) (DC t s (p:Int) (i:Int)).1 (W.set p (i:Int)) (U.set i AE) M2 (QL F x (i64.wrap (Qm F x 0-1))):=by
 have rl:=ok.rl;have P:=(XL.1 J).1;have X:=(XL.1 B).1;have hr:=v.row;have wl:=v.wl;have R:HL t (i:Int):=.inr (by simpa using X);have f:x∈F.map (·.1):=by rw[<- L];exact v.key y (VH B)
 have hv:=v.fb _ (kr f);simp only at hv;have w:i64.wrap (Qm F x 0-1)=Qm F x 0-1:=Di;rw[w];obtain⟨g,E⟩:=XL.1 G;refine {st:=kv ok v.st om R om,row:=?_,wl:=by rw[X4];exact wl,ul:=by rw[X4];exact v.ul,tail:=λj a b=>?_,used:=λh q=>?_,cnt:=T,nd:=by rw[dx f];exact v.nd,fl:=by rw[qT f];exact v.fl,fb:=λe he=>?_,sum:=?_,key:=λh q=>by rw[dx f];exact v.key h q,l0:=om,l1:=om,l2:=λ_=>om,pre:=?_}
 .have:=rL t s (p:Int) (i:Int) v.st.r0;omega
 .rw[Xb,Vs om];exact v.tail j om b
 .rw[Xb]at q;by_cases z:i=h
  .subst z;exact VH (i:=p) (by rw[Xb,Vt rfl,Vt om])
  .rw[Vs z]at q;obtain⟨k,f,e⟩:=List.getElem_of_mem (v.used h q);refine VH (i:=k) ?_;rw[Xb,Vs (λc=>?_),XK f,e];subst c;have:=v.tail p (XT _) P;rw[XK f,e]at this;have:=XZ this;omega
 .rcases rv f _ e he with z|z
  .omega
  .have:=v.fb e z;omega
 .rw[rx v.nd f,v.sum,List.count_set g,E];have:0<U.count false:=List.count_pos_iff.2 (by rw[<- E];exact Ve g);simp;omega
 .obtain⟨u,N,pre⟩:=v.pre;refine⟨QL u (i:Int) AE,λh q=>?_,λW' a b _ d q=>pre W' a (λj hj=>by rw[b j om,Xb,Vs om]) nofun (λ_=>by have:=d rfl;omega) ?_⟩
  .rw[Y2]at q;by_cases z:h=(i:Int)
   .subst z;exact⟨om,by rw[Int.toNat_natCast,Xb,Vt rfl,Vt g]⟩
   .rw[Vs z]at q;obtain⟨c1,O⟩:=N h q;exact⟨c1,by rw[Xb,Vs om];exact O⟩
  .have e:W'.BL[p]?=AC (i:Int):=by rw[b p om,Xb,Vt rfl,Vt om]
   have dl:=d rfl;have nb:Fk t W' u p (i:Int)=false:=by
    unfold Fk;have Y:Qm u (i:Int) AD=false:=by
     cases z:Qm u (i:Int) AD with
     |false=>rfl
     |true=>
      have:=(N _ z).2;rw[Int.toNat_natCast,G]at this;cases this
    rw[Y,Int.toNat_natCast,B,J,YO om,YO om,YO om];simp[L]
   have ni:((i:Int) != -1)=true:=bne_iff_ne.2 om;rw[iS e,dz,nb];simp only[Bool.and_false,Vq,ni,Vp,Q,Xg];rw[YO om,Vq];exact q
set_option maxRecDepth 10000
theorem Qnk{t:Ck}(ok:C9 t):∀(m p:Nat),p+m=AI t.r->∀(s:Uh) (en:Bool) (la:Int) (L:AA CW) (W:AA Int) (U:AA Bool) (M F:AA (Int×Int)),Sv t p en la s W U M F->WL t L->
  Tt (λn=>TD n (p:Int) s en la L t.c (AI t.r:Int) W t.H U t.c t.k t.r t.s t.H t.T t.hi M F t.m t.c t.k) (SR t W U M F):=by
 have rl:=ok.rl;have hl:=ok.hl;intro m
 induction m with
 |zero=>
  intro p hp s en la L W U M F v hL;have ep:p=AI t.r:=om;have HK:SR t W U M F (L,W,M,U,F):=⟨hL,rfl,rfl,rfl,λ_=>rfl⟩;refine Tt.s ?_;show Tt (λn=>Z0 (TD n) n _ _ _ _ _ _ _ _ _ _ _ _ _ _ _ _ _ _ _ _ _ _) _;unfold Z0;refine Tt.b (P:=λb=>b=AD->AI L<=64/\ ¬t.c.AQ.A8<LY F M) (Tt.n λh=>Tt.b (P:=λr=>r=LY F M) (Tt.e (tx F M) rfl) λr d=>Tt.p λq=>⟨gq,gq⟩) λb R=>Tt.c (λ_=>Tt.p HK) λq=>Tt.c (λ_=>?_) λJ=>absurd J (by rw[ep];simp);obtain⟨ah,ab⟩:=R q;refine Tt.b (P:=WL t) (Tt.c (λhh=>?_) λ_=>Tt.p hL) λr d=>Tt.p ⟨d,rfl,rfl,rfl,λ_=>rfl⟩;unfold W3;have wl:=v.wl;have l0:=v.l0;have l1:=v.l1;refine Tt.b (P:=λ(r:AA Int)=>r=W) (Tt.o (tI om) rfl) λr d=>Tt.b (Tt.a (by simp;omega)) λx B=>Tt.p ?_;subst B d;refine⟨by simp;omega,λw Y=>?_⟩;rcases VC.1 Y with h|h
  .exact hL.2 w h
  .cases VA.1 h;subst ep;exact⟨wl,⟨l0,gq⟩,Qp2 ok v (Vv hh) ab⟩
 |succ m ih=>
  intro p hp s en la L W U M F v hL;have E:p<AI t.r:=om;have HK:SR t W U M F (L,W,M,U,F):=⟨hL,rfl,rfl,rfl,λ_=>rfl⟩;refine Tt.s ?_;show Tt (λn=>Z0 (TD n) n _ _ _ _ _ _ _ _ _ _ _ _ _ _ _ _ _ _ _ _ _ _) _;unfold Z0;refine Qe (Tt.k λh=>Qe (Tt.e (tx F M) trivial) λ_=>Tt.z) λb=>Tt.c (λ_=>Tt.p HK) λq=>Tt.c (λJ=>absurd J (by simp;omega)) λ_=>?_;have wp:i64.wrap ((p:Int)+1)=((p+1:Nat):Int):=YT om;have B:t.r[p]?=AC t.r[p]:=XK E;generalize t.r[p]=x at B;refine Tt.b (P:=λz=>z=x) (Tt.o (Qz B) rfl) λz X=>?_;subst X;simp only[XJ,wp];have c1:=v.cnt z;have cb:(t.r.drop p).count z<=256:=XV List.count_le_length gq;have M1:=ly B rl v.cnt;have af: -100000<=Qm M z 0/\Qm M z 0<=100000:=om;generalize hMe:QL M z (i64.wrap (Qm M z 0-1))=M' at M1;have SRb:∀{r:kH},SR t W U M' F r->SR t W U M F (r.1,r.2.1,QL r.2.2.1 z (i64.wrap (Qm r.2.2.1 z 0+1)),r.2.2.2.1,r.2.2.2.2):=λh=>
   ⟨h.1,h.2.1,h.2.2.1,h.2.2.2.1,Qo0 af λm=>by rw[h.2.2.2.2 m,hMe]⟩
  refine Tt.b (P:=SR t W U M' F) (Tt.c (λag=>?_) λ_=>Tt.p ⟨hL,rfl,rfl,rfl,λ_=>rfl⟩) λb R=>Tt.b (P:=λ_=>True) (Tt.k λ_=>Tt.z) λb2 _=>?_
  .have ae:en=false:=by grind
   subst ae;refine Tt.b (P:=λr=>r=DC t s (p:Int) (-1)) (Tt.e (lG ok v.st (Int.natCast_nonneg p) om (.inl om)) rfl) λr d=>?_;subst d;refine Tt.b (P:=SR t W U M' F) (Tt.c (λN=>Tt.b (P:=SR t W U M' F) (ih (p+1) om _ _ _ _ _ _ _ _ (by rw[<- hMe];exact Qp1 ok v B N) hL) λv G=>Tt.p G) λ_=>Tt.p ⟨hL,rfl,rfl,rfl,λ_=>rfl⟩) λw Y=>?_;refine Tt.b (P:=SR t W U M' F) (QN t.H (λ(a:kH) i=>(a.1,a.2.1,a.2.2.1,a.2.2.2.1,a.2.2.2.2,i)) (λ_ a=>SR t W U M' F a) om (λi y a Q hI=>?_) (λa hI=>?_) w _ rfl Y) λw Y=>Tt.p Y
   .unfold V0;have ac:=Q.lt';simp only[Q.lt,Vp,Q.ix,XJ,Q.nx,wp];obtain⟨a1,O,a3,g,f⟩:=a;obtain⟨g1,g2,g3,g4,g5⟩:=hI;simp only at g1 g2 g3 g4 g5;subst g2 g3 g4;have keep:SR t O g M' f (a1,O,a3,g,f):=⟨g1,rfl,rfl,rfl,g5⟩;have ul:=v.ul;have wl:=v.wl;have hU:g[i]?=AC g[i]:=XK om;generalize g[i]'om=ub at hU;refine Tt.b (P:=SR t O g M' f) (Tt.b (P:=λb=>b=AD->ub=AD/\y.Al=z) (Tt.b (P:=λq=>q=ub) (Tt.o (Qz hU) rfl) λq hq=>Tt.n λV=>Tt.p λh3=>⟨by rw[<- hq];exact V,by simpa[bne]using h3⟩) λb R=>Tt.c (λ_=>Tt.p keep) λad=>?_) λz X=>Tt.p ⟨z,rfl,X⟩;obtain⟨aa,j⟩:=R ad;subst aa;have hh:HL t (i:Int):=.inr (by simpa using ac);refine Tt.b (P:=λr=>r=DC t s (p:Int) (i:Int)) (Tt.e (lG ok v.st (Int.natCast_nonneg p) (by simpa using E) hh) rfl) λr d=>?_;subst d;refine Tt.b (P:=SR t O g M' f) (Tt.c (λN=>?_) λ_=>Tt.p keep) λz X=>Tt.p X;have u0:(i:Int)<(AI g:Int):=om;have w0:(p:Int)<(AI O:Int):=om;refine Qe (Tt.i (Int.natCast_nonneg i) u0).any λ_=>Tt.b (gK (Int.natCast_nonneg i) u0) λU' hU'=>Qe (Tt.i (Int.natCast_nonneg p) w0).any λ_=>Tt.b (gK (Int.natCast_nonneg p) w0) λW' hW'=>?_;rw[Int.toNat_natCast]at hU' hW';subst hU' hW';have sv:=T? ok v B Q.get j hU N (M2:=a3) λm=>by rw[g5 m];exact M1 m
    refine Tt.b (ih (p+1) om _ _ _ _ _ _ _ _ sv g1) λr d=>?_;obtain⟨v1,v2,v3,v4,v5⟩:=d;obtain⟨r1,r2,r3,r4,r5⟩:=r;simp only at v1 v2 v3 v4 v5;subst v2 v3 v4;have hk:z∈f.map (·.1):=by rw[<- j];exact v.key y Q.mem
    have G:=v.fb _ (kr hk);simp only at G;have bk:QL (QL f z (i64.wrap (Qm f z 0-1))) z (i64.wrap (Qm (QL f z (i64.wrap (Qm f z 0-1))) z 0+1))=f:=by
     rw[Y2,Vt rfl,QJ (n:=Qm f z 0-1) om om,QJ (n:=Qm f z 0-1+1) om om,show Qm f z 0-1+1=Qm f z 0 by omega];exact Qma v.nd hk _
    simp only[bk];have u1:(i:Int)<(AI (g.set i AE):Int):=by rw[X4];exact u0
    have w1:(p:Int)<(AI (O.set p (i:Int)):Int):=by rw[X4];exact w0
    refine Qe (Tt.i (Int.natCast_nonneg i) u1).any λ_=>Tt.b (gK (Int.natCast_nonneg i) u1) λU2 hU2=>Qe (Tt.i (Int.natCast_nonneg p) w1).any λ_=>Tt.b (gK (Int.natCast_nonneg p) w1) λW2 hW2=>Tt.p ⟨v1,?_,?_,rfl,λm=>by rw[v5 m];exact g5 m⟩
    .rw[hW2,Int.toNat_natCast,List.set_set];obtain⟨q1,J⟩:=XL.1 (v.tail p (XT _) E);rw[<- J];exact List.set_getElem_self q1
    .rw[hU2,Int.toNat_natCast,List.set_set];obtain⟨q1,J⟩:=XL.1 hU;rw[<- J];exact List.set_getElem_self q1
   .unfold V0;simp only[Jp,Vq];exact Tt.p ⟨_,rfl,hI⟩
  .obtain⟨b1,bW,bM,bU,bF⟩:=b;obtain⟨V,N,h3,h4,h5⟩:=R;simp only at V N h3 h4 h5;subst N h3 h4;refine Tt.b (P:=SR t bW bU M' bF) (Tt.c (λ_=>Tt.b (P:=SR t bW bU M' bF) ((ih (p+1) om _ _ _ _ _ _ _ _ (S? ok v B |> λq=>by rw[hMe]at q;exact {q with cnt:=λm=>by rw[h5 m];exact M1 m}) V).w λr d=>⟨d.1,d.2.1,d.2.2.1,d.2.2.2.1,λm=>by rw[d.2.2.2.2 m];exact h5 m⟩) λv G=>Tt.p G) λ_=>Tt.p ⟨V,rfl,rfl,rfl,h5⟩) λv G=>Tt.p (SRb G)
set_option maxRecDepth 10000
theorem mU:∀a b:AA Int,C' a b=0->a=b
 |[],[],_=>rfl
 |[],y::b,h=>by simp[C']at h
 |x::a,[],h=>by simp[C']at h
 |x::a,y::b,h=>by
  rw[show C' (x::a) (y::b)=bif C2 x y != 0 then C2 x y else C' a b from rfl,g_]at h;by_cases e:x=y
  .subst e;rw[show(x != x)=AD by simp,Vq]at h;rw[mU a b h]
  .rw[show(x != y)=AE by grind,Vp]at h;exact absurd (gB.1 h) e
theorem ta:∀a b:AA Int,C' b a= -C' a b
 |[],[]=>rfl
 |[],y::b=>rfl
 |x::a,[]=>rfl
 |x::a,y::b=>by
  rw[show C' (x::a) (y::b)=bif C2 x y != 0 then C2 x y else C' a b from rfl,show C' (y::b) (x::a)=bif C2 y x != 0 then C2 y x else C' b a from rfl,g_,g_];by_cases e:x=y
  .subst e;rw[show(x != x)=AD by simp,Vq,Vq];exact ta a b
  .rw[show(x != y)=AE by grind,show(y != x)=AE by grind,Vp,Vp];exact F8.swap x y
theorem Nf:DU C':=⟨ta,uC,λx y z h=>by rw[mU x y h]⟩
def Iy(x y:CW):Int:=bif C' x.BL y.BL != 0 then C' x.BL y.BL else x.A7-y.A7
theorem QqR:DU Iy:=
 (Nf.on λw:CW=>w.BL).lex (d:=λx y:CW=>x.A7-y.A7) ⟨λx y=>om,λx y z=>om,λx y z=>om⟩
theorem Qmy{x y:CW}(h:Iy x y=0):x=y:=by
 unfold Iy at h;cases q:(C' x.BL y.BL != 0)with
 |true=>grind
 |false=>
  rw[q,Vq]at h;have e:=mU _ _ (show C' x.BL y.BL=0 by simpa[bne]using q);obtain⟨a,b⟩:=x;obtain⟨f,d⟩:=y
  grind
theorem QqI{x y:CW}(f:AI x.BL<=1048576)(d:AI y.BL<=1048576)(h: -1<=x.A7/\x.A7<=300)(g: -1<=y.A7/\y.A7<=300):Ev (λn=>Mg n x y) (Iy x y):=by
 unfold Mg Iy;refine Ea (QqK _ _ f d) (JS (λ_=>Qa _) λ_=>(Qa _).eq (Di))
theorem mf{c:CB}(g:Fo c){i k:Int}(h:(CX c i k).2=0):2<=(CX c i k).1.length/\(CX c i k).1.length<=256:=by
 obtain⟨j,d,E,B,x,q,y,F,m⟩:=iV g h;have f:=VH q;have t:=(g.route d f).1;rw[g.exp f]at t;rw[m];unfold DH;simp only[X3,Xx,List.length_drop,List.length_replicate];omega
structure RN (c:CB) (k:CE) (s:AP) (e:Int) (x:List CM) (l:List Ae) (r:List CW×Int):Prop where
 len:AI r.1<=64
 ok:r.2=0->r.1≠[]/\ ∃t,H5 c k s e x l t/\Dx c k s e x l=.inr t/\2<=AI t.r/\ ∀w∈r.1,AI w.BL=AI t.r/\FD t w=AE
theorem Z?{c:CB}(h:Mu c){k:CE}(kw:Fq k)(s:AP)(e:Int)(x:AA CM)(hx:AI x<=4)(l:AA Ae)(hl:AI l<=6):Tt (λn=>HF n c k s e x l) (RN c k s e x l):=by
 unfold HF;have ty:Ev (λn=>F_ n c) (CN c):=h.cE.symm▸h.ty;have nil:∀{e':Int},e'≠0->RN c k s e x l ([],e'):=λq=>⟨sq,λz=>absurd z q⟩;refine Tt.b (P:=λr=>r=HY (Dx c k s e x l)) (Tt.e (hY ty (λ_=>h.good) kw s e x om l om) rfl) λr R=>?_;subst R;cases N:Dx c k s e x l with
 |inl v=>
  have:=Qnd N;exact Tt.c (f:=λ_=>AC ([],v)) (g:=λ_=>AF) (λ_=>Tt.p (nil this)) λq=>absurd gq this
 |inr t=>
  have i:=QpI ty (λ_=>h.good) kw om N;have ok:=i.ok;have hc:t.c=c:=by rw[i.is];rfl
  have B:t.k=k:=by rw[i.is];rfl
  have hH:t.H=x:=by rw[i.is];rfl
  have R:t.r=(CX c s.AN e).1:=by rw[i.is];rfl
  obtain⟨r1,r2⟩:=mf h.good i.rt;rw[<- R]at r1 r2;show Tt (λn=>(iter (OL n (t.r,t.s,t.T,t.m,t.hi)) n ([],0):AB (AA (Int×Int))).bind λY=>(iter (N8 n x) n ([],0):AB (AA (Int×Int))).bind λX=>(K9 n [(-1)] (AI t.r:Int)).bind λO=>(mk (AI x:Int) AD).bind λQ=>(Mj n).bind λac=>(TD n 0 ({DR with Bm:=(-1):Uh}) AD (-1) ([]:AA CW) c (AI t.r:Int) O x Q c k t.r t.s x t.T t.hi Y X t.m c k).bind λE=>(bif 64<(AI E.1:Int) then AC ([],2)else(bif ((AI E.1:Int)==0)then AC ([],190)else(L2 (λx y=>Mg n x y) E.1).bind λab=>AC (ab,0)))) _;refine Tt.b (P:=λ(M:AA (Int×Int))=>∀m,Qm M m 0=(t.r.count m:Int)) (QN t.r (λ(a:AA (Int×Int)) i=>(a,i)) (λi a=>∀m,Qm a m 0=((t.r.take i).count m:Int)) om (λi y a d G=>?_) (λa G=>?_) [] _ rfl (λm=>by rfl)) λM hM=>?_
  .unfold OL;have hi:=d.lt';simp only[d.lt,Vp,d.ix,XJ,d.nx];refine Tt.p ⟨_,rfl,λm=>?_⟩;have cb:(t.r.take i).count y<=256:=XV List.count_le_length gq;rw[Y2,d.take,List.count_append,G,G];by_cases q:m=y
   .subst q;rw[Vt rfl,Di];simp
   grind
  .simp_all[OL,Tt.p]
  refine Tt.b (P:=λ(F:AA (Int×Int))=>(F.map (·.1)).Nodup/\AI F<=AI x/\(∀e∈F,0<=e.2/\e.2<=(AI x:Int))/\IU F=(AI x:Int)/\ ∀h∈x,h.Al∈F.map (·.1)) (QN x (λ(a:AA (Int×Int)) i=>(a,i)) (λi F=>(F.map (·.1)).Nodup/\AI F<=i/\(∀e∈F,0<=e.2/\e.2<=(i:Int))/\IU F=(i:Int)/\ ∀h∈x.take i,h.Al∈F.map (·.1)) om (λi y a d G=>?_) (λa G=>?_) [] _ rfl ⟨List.nodup_nil,XT _,(λ_ h=>nomatch h),rfl,(λ_ h=>nomatch h)⟩) λF hF=>?_
  .unfold N8;have hi:=d.lt';simp only[d.lt,Vp,d.ix,XJ,d.nx];obtain⟨a1,a2,a3,a4,a5⟩:=G;refine Tt.p ⟨_,rfl,?_⟩;by_cases B:y.Al∈a.map (·.1)
   .have hv:=a3 _ (kr B);simp only at hv;rw[Di];refine⟨by rw[dx B];exact a1,by rw[qT B];omega,λe he=>?_,by rw[rx a1 B,a4];omega,λh J=>?_⟩
    .grind[rv]
    .rw[dx B];rw[d.take]at J
     grind
   .rw[Qmb B,Qn2 B,show i64.wrap (0+1)=1 from rfl];refine⟨?_,by simp;omega,λe he=>?_,by rw[qf,a4];simp[IU],λh J=>?_⟩
    iterate 2 grind
    .rw[d.take]at J
     grind
  .unfold N8;simp only[Jp,Vq];exact Tt.p ⟨_,rfl,gq⟩
  obtain⟨f1,f2,f3,f4,f5⟩:=hF;refine Tt.b (P:=λ(W:AA Int)=>W=List.replicate (AI t.r) (-1)) (Tt.e (mV (-1) (AI t.r) om om) rfl) λW hW=>?_;refine Tt.b (P:=λ(U:AA Bool)=>U=List.replicate (AI x) AD) (Tt.o (v:=List.replicate (AI x) AD) (by unfold mk;grind) rfl) λU hU=>Qe (Tt.z) λ_=>?_;have sv:Sv t 0 AD (-1) Ry W U M F:=by
   subst hW hU;refine {st:=oz,row:=by show(0:Int)<=0;omega,wl:=sq,ul:=by rw[hH];simp,tail:=λj _ b=>gq,used:=λh q=>?_,cnt:=λm=>gq,nd:=f1,fl:=om,fb:=λe he=>gq,sum:=by rw[f4];simp,key:=λh J=>f5 h gq,l0:=om,l1:=om,l2:=λ_=>om,pre:=⟨[],λh q=>by simp[Qm,Jo]at q,λW' _ _ _ _ q=>gq⟩}
   grind
  have se:=Qnk ok (AI t.r) 0 om Ry AD (-1) [] W U M F sv ⟨sq,λ_ h=>nomatch h⟩;rw[hc,B,hH]at se;refine Tt.b (P:=SR t W U M F) se λr hR=>Tt.c (λ_=>Tt.p (nil (by decide))) λq=>Tt.c (λ_=>Tt.p (nil (by decide))) λq2=>?_;obtain⟨⟨h1,h2⟩,_,_⟩:=hR;have aa:AI r.1<=64:=gq;have L:r.1≠[]:=λz=>gq;refine Tt.b (P:=λl'=>l'=I6 (NV Iy) r.1) (Tt.e (pp om (λa d b hb=>QqI gq gq (h2 a d).2.1 (h2 b hb).2.1) QqR λa _ b _=>Qmy) rfl) λl' V=>Tt.p ?_;subst V;have pm:=Yw (NV Iy) r.1;refine⟨by show(I6 _ _).length<=64;rw[pm.length_eq];exact aa,λ_=>⟨λz=>L (VJ.1 (by simp_all)),t,i,N,r1,λw hw=>?_⟩⟩
  grind
theorem mI{t:Ck}{W:CW}:∀{r:AA Int} {i:Nat} {u:AA (Int×Bool)} {s:Uh},admL t W r i u s=AE->∀h∈r,HL t h
 |[],_,_,_,_,h,hm=>by cases hm
 |y::r,i,u,s,q,h,hm=>by
  rw[dz]at q;cases hb:((y != -1)&&Fk t W u i y)with
  |true=>grind
  |false=>
  rw[hb,Vq]at q;rcases X7.1 hm with rfl|hm
  .exact(th hb).1
  .cases hL:AG (W.A7<(i:Int))with
   |true=>rw[hL,Vp]at q;exact mI q h hm
   |false=>
    rw[hL,Vq]at q;cases h2:(DC t s (i:Int) y).2 with
    |false=>grind
    |true=>rw[h2]at q;exact mI q h hm
theorem Qms{c:CB}(g:Fo c)(he:Ev (λn=>F_ n c) 0){i k:Int}(h:(CX c i k).2=0):Ev (λn=>II n c i k) (CS.c3 ((CX c i k).1,c.Az.foldl (λm x=>QL m ({BZ:=x.BA,to_:=x.To:Ub}) x) [])):=by
 have H:=l6 g he i k;obtain⟨j,d,f,J,G,B,N,Q,F⟩:=iV g h;subst J;subst G;have q:=VH B;have E:=(g.route d q);rw[g.exp q]at E;have w:i64.wrap (256-(AI (Cm d.Ad):Int))=256-(AI (Cm d.Ad):Int):=Di;have t:Ev (λn=>Go.Sw.iter (JV n c) n (([]:AA (Ub×Cr)),0)) (c.Az.foldl (λm x=>QL m ({BZ:=x.BA,to_:=x.To:Ub}) x) []):=by
  have O:=g.legs;refine YM c.Az (λ(m:AA (Ub×Cr)) x=>QL m ({BZ:=x.BA,to_:=x.To:Ub}) x) [] (λm i=>(m,(i:Int))) (λm=>m) om rfl (λi x m ha _=>?_) ?_
  .unfold JV;simp only[ha.lt,Vp,ha.ix,XJ,ha.nx];exact Qa _
  simp_all[JV,Qa]
 rw[F];unfold II;have M:(AG ((f:Int)<0)||(AG (0<(f:Int))&&AG (d.An<0)))=false:=by
  grind
 refine Ea (hJ he B) (Q1 (Ea (v:=AD) (Eu (QI λ_=>Eh λ_=>Qa _) M) (Q1 (Ea (mg g q) ?_))));simp only[w,YO (show¬256-(AI (Cm d.Ad):Int)<(f:Int)by omega),Vq];refine Ea (v:=DH d f) ?_ (Ea t (Qa _));by_cases P:f=0
 .simp_all[Qa,DH]
 .refine KU gq ?_;have y:=mW d 0 (Cm d.Ad) E.2 (AI (Cm d.Ad)-1) om;have L:=lg (Cm d.Ad) d.An (AI (Cm d.Ad)-1);rw[QJ (n:=(AI (Cm d.Ad):Int)-1) om om,show(AI (Cm d.Ad):Int)-1=((AI (Cm d.Ad)-1:Nat):Int)by omega];refine Ea y.ev (Ea (mV d.An f om om) (Ea (EA ?_) (Qa _)))
  grind[DH,QJ,ZE,Nat.blt,Nat.ble_eq_true_of_le,YF]
set_option maxRecDepth 10000
def HJ(k:CE)(g:Int):Prop:=∃j:Nat,g+1=(j:Int)/\j<AI k.AS+1
theorem tW{t:Ck}{W:CW}(h:FD t W=AE):AI W.BL=AI t.r/\W.A7<(AI t.r:Int)/\ ∀y∈W.BL,HL t y:=by
 unfold FD at h;cases d:H0 t W with
 |true=>grind
 |false=>
  rw[d,Vq]at h
  grind[H0,mI]
theorem QpX{t:Ck}{s:AP}{e:Int}{l:AA Ae}(J:Ev (λn=>IJ n t.c t.k s e t.H l) (HY (.inr t)))(ok:C9 t){W:CW}(E:FD t W=AE){p:Int}(F:0<=p)(O:p<=W.A7):
  Tt (λn=>Kz n t.c t.k s e t.H l W p) λr=>HJ t.k r.1:=by
 obtain⟨N,R,G⟩:=tW E;have rl:=ok.rl;unfold Kz;refine Tt.b (P:=λr=>r=HY (.inr t)) (Tt.e J rfl) λr f=>?_;subst f;show Tt (λn=>(K5 n W t.c t.k t.r t.s t.H t.T t.hi t.m t.c t.k).bind _) _;have d:∀{i:Int} {h:Int},h∈W.BL->Tt (λn=>Ig n i h t.c t.k t.r t.s t.H t.T t.hi t.m t.c t.k) λr=>r.2=AE->HJ t.k r.1.Ai:=λ{i h} hm=>Tt.e (l9 ok i h (G h hm)) λq=>iT ok (G h hm) q;refine Tt.b (P:=λb=>b=AE) (Tt.e (pR ok W om) E) λb j=>?_;subst j;refine Tt.c (λq=>by cases q) λ_=>Tt.b (P:=λb=>b=AD) (Tt.c gq λ_=>Tt.p (YO om)) λb j=>?_;subst j;refine Tt.c (λq=>by cases q) λ_=>?_;refine Tt.b (P:=Fj λ(r:Int×CK×Int)=>HJ t.k r.1) (Tt.l (λi:Int=> -1<=i/\i<=p) (λi=>(i+1).toNat) (λi hi=>?_) p om) λr f=>?_
 .unfold TR;refine Tt.c (λq=>?_) λ_=>Tt.p (Q:=Fd _ _ _ _) trivial;have q:=Vv q;obtain⟨M,L⟩:=hi;refine Tt.b (Tt.i q om) λy g=>Tt.b (d g) λz B=>Tt.c (λx=>Tt.b (Tt.e (hQ ok q om F om) trivial) λ_ (_:True)=>Tt.p (Q:=Fd _ _ _ _) (B x)) λ_=>Tt.p (Q:=Fd _ _ _ _) ?_
  grind[QJ]
 cases r with
 |d v=>exact Tt.p f
 |k u=>
  refine Tt.b (P:=Fj λ(r:Int×CK×Int)=>HJ t.k r.1) (Tt.l (λi:Int=>p<=i/\i<=W.A7+1) (λi=>(W.A7+1-i).toNat) (λi hi=>?_) p om) λr f=>?_
  .unfold UP;refine Tt.c (λq=>?_) λ_=>Tt.p (Q:=Fd _ _ _ _) trivial;have q:=Vv q;obtain⟨M,L⟩:=hi;refine Tt.b (Tt.i om om) λy g=>Tt.b (d g) λz B=>Tt.c (λx=>Tt.b (Tt.e (hQ ok F om om om) trivial) λ_ (_:True)=>Tt.p (Q:=Fd _ _ _ _) (B x)) λ_=>Tt.p (Q:=Fd _ _ _ _) ?_
   grind[QJ]
  cases r with
  |d v=>exact Tt.p f
  |k u=>exact Tt.p ⟨0,rfl,om⟩
theorem Qim{k:CE}(ok:KY k){g:Int}(hg:HJ k g)(x:CK):Tt (λn=>MN n k g x) λ_=>True:=by
 unfold MN;obtain⟨j,e,f⟩:=hg;have B:=ok.dims.segs;refine Tt.k λ_=>?_;obtain⟨t,q⟩:=ok.dims.get (i:=j) (j:=0) f om;obtain⟨y,m⟩:=ok.dims.get (i:=0) (j:=j) om f;rw[e,QJ (n:=(j:Int)) om om];have h:(0:Int)=((0:Nat):Int):=rfl;rw[h];refine Tt.b (P:=λr=>r=k.BQ[j]?.getD []) (Tt.o (Qz t) rfl) λr d=>?_;subst d;refine Qe (Tt.o (Qz q) trivial) λ_=>Tt.b (P:=λr=>r=k.BQ[0]?.getD []) (Tt.o (Qz y) rfl) λr d=>?_;subst d;exact Qe (Tt.o (Qz m) trivial) λ_=>Tt.z
theorem e?(r:AA Int)(m:AA (Ub×Cr))(J:AI r<=256):Tt (λn=>Mh n r m) λy=>∀p∈y.1,0<=p.1/\p.1<(AI r:Int):=by
 unfold Mh;have j:∀(k i:Nat) (M:AA (Int×Int)),i+k=AI r->∃y:AA (Int×Int)×Unit,(∃N,∀n f,N<=n->N<=f->L0 (JU n r) f (M,(i:Int))=AC y)/\ ∀p∈y.1,0<=p.1/\p.1<(AI r:Int):=by
  intro k
  induction k with
  |zero=>
   intro i M hk;have:i=AI r:=om;subst this;refine⟨([],()),⟨1,λn f _ F=>?_⟩,λ_ h=>nomatch h⟩;obtain⟨f,rfl⟩:∃g,f=g+1:=⟨f-1,om⟩;unfold L0 JU;simp only[Jp,Vq];rfl
  |succ k G=>
   intro i M hk;have H:i<AI r:=om;have d:At r i r[i]:=Y5 om (XK H);generalize hx:r[i]=x at d;obtain⟨y,⟨N,B⟩,t⟩:=G (i+1) (QL M x (i64.wrap (Qm M x 0+1))) om;refine⟨(((i:Int),Qm (QL M x (i64.wrap (Qm M x 0+1))) x 0)::y.1,y.2),⟨N+1,λn f E F=>?_⟩,λp q=>?_⟩
   .obtain⟨f,rfl⟩:∃g,f=g+1:=⟨f-1,om⟩;have e:=B n f om om;unfold L0;have step:JU n r (M,(i:Int))=AC ([((i:Int),Qm (QL M x (i64.wrap (Qm M x 0+1))) x 0)],CG.k (QL M x (i64.wrap (Qm M x 0+1)),((i+1:Nat):Int))):=by
     unfold JU;simp only[d.lt,Vp,d.ix,XJ,d.nx];rfl
    rw[step];show(L0 (JU n r) f (_,((i+1:Nat):Int))).bind _=_;rw[e];rfl
   .rcases X7.1 q with h|h
    .subst h;exact⟨by show(0:Int)<=(i:Int);omega,by show(i:Int)<_;omega⟩
    .exact t p h
 obtain⟨y,⟨N,B⟩,t⟩:=j (AI r) 0 [] om;refine⟨(y.1++[],()),⟨N,λn E=>?_⟩,λp q=>t p (by simpa using q)⟩;have:=B n n E E;unfold ap;rw[show((0:Nat):Int)=0 from rfl]at this;show(L0 (JU n r) n ([],0)).bind _=_;rw[this];rfl
theorem QjG{c:CB}(h:Mu c){i k:Int}(f:(CX c i k).2=0)(a b:Int):Tt (λn=>PW n c i k a b) λr=>r.2=0->0<=r.1:=by
 unfold PW;obtain⟨L,j⟩:=mf h.good f;refine Tt.b (Tt.e (Qms h.good h.ty f) (Q:=λr=>r=CS.c3 ((CX c i k).1,c.Az.foldl (λm x=>QL m ({BZ:=x.BA,to_:=x.To:Ub}) x) [])) rfl) λr e=>?_;subst e;generalize(c.Az.foldl (λm x=>QL m ({BZ:=x.BA,to_:=x.To:Ub}) x) [])=m;generalize(CX c i k).1=R at L j;show Tt (λn=>(Wd n R m).bind λM=>(Mh n R m).bind λg=>(RU (L9 n a b (R,m)) g.1 ():AB (CG Unit (Int×Int))).bind λD45=>match D45 with|.k s57=>(AC (0,90))|.d s57=>AC s57) _;refine Qe (Tt.z) λ_=>Tt.b (e? R m j) λy J=>?_;have run:∀l:AA (Int×Int),(∀p∈l,0<=p.1/\p.1<(AI R:Int))->Tt (λn=>RU (L9 n a b (R,m)) l ()) (Fj λ(r:Int×Int)=>0<=r.1):=by
  intro l
  induction l with
  |nil=>intro _;exact Tt.z
  |cons p l H=>
   intro B;obtain⟨t,F⟩:=B p (X5 ..);have N:Tt (λn=>L9 n a b (R,m) () p) (Fj λ(r:Int×Int)=>0<=r.1):=by
    unfold L9;exact Qe (Qe (Tt.i t F).any λ_=>Tt.k λ_=>Tt.z) λ_=>Tt.c (λ_=>Tt.p t) λ_=>Tt.z
   unfold RU;refine Tt.b N λd E=>?_;cases d with
   |k u=>exact H λq G=>B q (X6 _ G)
   |d v=>exact Tt.p E
 refine Tt.b (run y.1 J) λr f=>?_;cases r with
 |k u=>exact Tt.p λh=>by cases h
 |d v=>exact Tt.p λ_=>f
set_option maxRecDepth 10000
structure Qk (q:Ui) (t:Ck):Prop where
 crs:Mu q.A0
 clk:Fq q.Bj
 te:Dx q.A0 q.Bj q.Ag q.BY q.Bv q.Bq=.inr t
 task:H5 q.A0 q.Bj q.Ag q.BY q.Bv q.Bq t
 hx:AI q.Bv<=4
 hl:AI q.Bq<=6
 p0:0<=q.Aj
 pen:AI q.BP<=100
theorem Qno{q:Ui}{t:Ck}(h:Qk q t){W:CW}(g:FD t W=AE){p:Int}(m:0<=p)(j:p<=W.A7):Tt (λn=>ID n q W p) λr=>HJ q.Bj r.1:=by
 unfold ID;have i:=h.task;have B:t.c=q.A0:=by rw[i.is];rfl
 have f:t.k=q.Bj:=by rw[i.is];rfl
 have x:t.H=q.Bv:=by rw[i.is];rfl
 have d:=hY (c:=q.A0) (h.crs.cE.symm▸h.crs.ty) (λ_=>h.crs.good) h.clk q.Ag q.BY q.Bv (by have:=h.hx;omega) q.Bq (by have:=h.hl;omega);rw[h.te]at d;have z:=QpX (t:=t) (s:=q.Ag) (e:=q.BY) (l:=q.Bq) gq i.ok g m j;rw[B,f,x]at z;exact Tt.b z λr y=>Tt.p y
theorem gh{c:CB}{s:AP}{l:AA Ae}(h:G' c s l=AD):0<=s.AN/\s.AN<(AI c.AO:Int)/\0<=s.A3/\s.A3<(AI c.A4:Int):=by
 grind[G']
theorem o4{q:Ui}{t:Ck}(h:Qk q t):Tt (λn=>Ih n q) λ_=>True:=by
 unfold Ih;obtain⟨_,_,a,b⟩:=gh h.task.arg;exact Qe (Tt.i a b).any λ_=>Tt.z
theorem f?{q:Ui}{t:Ck}(h:Qk q t){W:CW}(m:FD t W=AE)(F:q.Aj<=W.A7):Tt (λn=>Ma n q W) λ_=>True:=by
 unfold Ma;obtain⟨a,b,_,_⟩:=gh h.task.arg;have w:=Y1 h.crs.wf;have kk:=lS h.clk h.task.clk;refine Tt.b (Tt.i a b) λd j=>?_;have f:=w.cut d j;refine Qe (QN d.Ar (λ(a:Bool×Bool) i=>(a.1,a.2,i)) (λ_ _=>True) om (λi x a ha _=>?_) (λa _=>?_) (AD,AD) _ rfl trivial) λ_=>Tt.z
 .unfold TK;simp only[ha.lt,Vp,ha.ix,XJ,ha.nx];refine Qe (Tt.b (QjG h.crs h.task.rt _ _) λr g=>Tt.b (P:=λb=>b=AD->0<=r.1/\r.1<=q.Aj) (Tt.n λH=>Tt.p λJ=>?_) λb E=>Tt.k λy=>?_) λb=>Tt.p ⟨b,rfl,trivial⟩
  .grind
  .obtain⟨B,G⟩:=E y;refine Tt.b (Qno h m B om) λr g=>Qe (Qim kk g _) λz=>Qe (Qv <| Qe (o4 h) λ_=>Tt.z) λ_=>Qe (Qv <| Qe (o4 h) λ_=>Tt.z) λ_=>Tt.z
 .unfold TK;simp only[Jp,Vq];exact Tt.p ⟨_,rfl,trivial⟩
def IR(p:Int)(s:Int×Int×Bool)(x:CF):Int×Int×Bool:=
 bif x.AT<=p then(i64.wrap (s.1+x.BU),i64.wrap (s.2.1+x.As),s.2.2||x.BM)else s
theorem Zk(l:AA CF)(p:Int)(d:AI l<=1048576):Ev (λn=>KX n l p) (l.foldl (IR p) (0,0,AD)):=by
 unfold KX;refine Ea (YM l (λs x=>IR p s x) (0,0,AD) (λs i=>(s.1,s.2.1,s.2.2,(i:Int))) (λs=>s) om rfl (λi x s ha _=>?_) ?_) (Qa _)
 .unfold US;simp only[ha.lt,Vp,ha.ix,XJ,ha.nx];refine Ea (v:=IR p s x) ?_ (Qa _);unfold IR;refine JS (λ_=>?_) λ_=>Qa _
  grind[Qa]
 simp_all[US,Qa]
theorem Qnw(l:AA Ae)(d:AI l<=6):Tt (λn=>PK n l) λ_=>True:=by
 unfold PK Wi;refine Qe (Qe (QN l (λ(_:Unit) i=>i) (λ_ _=>True) om (λi x _ ha _=>?_) (λ_ _=>?_) () _ rfl trivial) λr=>?_) λ_=>Tt.z
 .unfold TU Wl;simp only[ha.lt,Vp,ha.ix,XJ,ha.nx]
  simp_all[Tt.c,Tt.p]
 .simp_all[TU,Tt.p]
 .cases r<;>exact Tt.z
theorem QlF{c:CB}(h:CN c=0){d:AN}(f:d∈c.AO):1<=d.A'/\d.A'<=3:=by
 have g:=(Y3 h).2.1
 simp_all[Cx,Ib,DG]
set_option maxRecDepth 10000
def LH(x:CK):Prop:=(-2199023255552<=x.Lo/\x.Lo<=2199023255552)/\(-2199023255552<=x.Hi/\x.Hi<=2199023255552)
def IL(x:Int):Prop:= -140737488355328<=x/\x<=140737488355328
def LM(x:CK):Prop:=IL x.Lo/\IL x.Hi
theorem qb{c:CB}(f:Fc c){s:CD}(g:Df s.BI){h:CM}(d:HC c h):LH (Fs c s h):=by
 have j:=pL f (Ci c h.Al) g d.fi;have q:=pL f (Ci c h.Al) g d.la;have t:=d.fi;have m:=d.la
 grind[Df,Fs,LH,QJ]
theorem QpG{c:CB}(q:Fc c){k:CE}(g:∀s∈k.AS,Df s.BI){h:CM}(j:HC c h){x:Ue}(e:Dq c k h=AC x):LH x.A_:=by
 unfold Dq at e;cases d:Ci c h.Al==1 with
 |true=>
  rw[d,Vp]at e
  grind[qb,Df]
 |false=>
  rw[d,Vq]at e;cases f:AG (Dg k h<0)with
  |true=>grind
  |false=>
   rw[f,Vq,Option.map_eq_some_iff]at e;obtain⟨s,m,rfl⟩:=e
   grind[qb]
theorem rS{c:CB}(hc:Fc c){k:CE}(ka:∀s∈k.AS,Df s.BI):∀{l:AA CM} {T:AA Ue},(∀h∈l,HC c h)->C8 c k l=AC T->∀x∈T,LH x.A_
 |[],T,_,e,x,hx=>by
  cases(XZ e:[]=T);cases hx
 |h::r,T,ho,e,x,hx=>by
  rw[mv,Option.bind_eq_some_iff]at e;obtain⟨y,e1,e2⟩:=e;rw[Option.map_eq_some_iff]at e2;obtain⟨R,e3,rfl⟩:=e2;rcases X7.1 hx with q|q
  .grind[QpG,List.mem_cons_self]
  .exact rS hc ka gq e3 x q
theorem _p{l:AA Ae}(h:l.any Hl=AD){p:Int}{x:Ue}(e:Jo (G_ l).1 p=AC x):LH x.A_:=by
 unfold G_ at e;rw[lM]at e;have d:(l.find? λh=>h.AT==p).map (λh=>({Ai:= -1,A_:={Lo:=h.Lo,Hi:=h.Hi}}:Ue))=AC x:=e;rw[Option.map_eq_some_iff]at d;obtain⟨y,f,rfl⟩:=d
 grind[Hl,FG,DG,LH]
theorem _t{c:CB}(f:CN c=0)(a b:Int):(0<=(Hy c a b).Bn/\(Hy c a b).Bn<=68719476736)/\(0<=(Hy c a b).Br/\(Hy c a b).Br<=68719476736):=by
 have d:=(Y3 f).2.1;unfold Cx at d;simp only[XW]at d;unfold Hy;cases e:c.Az.find? λl=>(l.BA==a)&&(l.To==b)with
 |none=>simp
 |some y=>
  have:=Xs.1 d.2.1 y (List.mem_of_find?_eq_some e)
  simp_all[R',DG]
def NL(K:Int)(s:CK):Prop:=(0<=s.Lo/\s.Lo<=K)/\(0<=s.Hi/\s.Hi<=K)
theorem qd{c:CB}(d:CN c=0):∀(r:AA Int) (s:CK) (a K:Int),NL K s->K+68719476736*(AI r:Int)<=35184372088832->∀u∈FX c s a r,NL 35184372088832 u
 |[],s,a,K,hs,hK,u,hu=>by cases hu
 |b::r,s,a,K,hs,hK,u,hu=>by
  rw[uT]at hu;rw[X0]at hK;obtain⟨⟨l1,l2⟩,l3,l4⟩:=_t d a b;obtain⟨⟨s1,s2⟩,s3,s4⟩:=hs;have hr:=om;have e:NL (K+68719476736) (FH c s a b):=by
   grind[FH,NL,QJ]
  rcases X7.1 hu with q|q
  .subst q;obtain⟨⟨f,h⟩,g,j⟩:=e;exact⟨⟨f,om⟩,g,om⟩
  .exact qd d r _ b _ e om u q
theorem Qp3{c:CB}(f:CN c=0){r:AA Int}(g:AI r<=256):∀u∈G7 c r,NL 35184372088832 u:=by
 cases r with
 |nil=>intro u d;cases d
 |cons a r=>
  intro u d;rw[X0]at g;rcases X7.1 d with q|q
  .subst q;exact⟨sq,Int.le_refl 0,sq⟩
  .exact qd f r _ a 0 ⟨sq,Int.le_refl 0,Int.le_refl 0⟩ om u q
def R7(x:Int):Prop:= -35184372088832<=x/\x<=2199023255552
theorem c9{l:AA CK}(h:∀u∈l,NL 35184372088832 u)(i:Nat):NL 35184372088832 ((l[i]?).getD {Lo:=0,Hi:=0}):=by
 cases e:l[i]? with
 |none=>exact⟨sq,Int.le_refl 0,sq⟩
 |some u=>grind
theorem Qqe{t:Ck}(h:∀u∈t.s,NL 35184372088832 u)(i j:Int):R7 (HZ t i j).Lo/\R7 (HZ t i j).Hi:=by
 obtain⟨⟨g,m⟩,y,d⟩:=c9 h i.toNat;obtain⟨⟨f,q⟩,B,x⟩:=c9 h j.toNat
 grind[HZ,R7,QJ]
structure KO (t:Ck):Prop where
 T:∀x∈t.T,LH x.A_
 m:∀p x,Jo t.m p=AC x->LH x.A_
 s:∀u∈t.s,NL 35184372088832 u
theorem Qo9{c:CB}{k:CE}{s:AP}{e:Int}{x:AA CM}{l:AA Ae}{t:Ck}(h:H5 c k s e x l t):KO t:=by
 have ok:=h.ok;have rl:=ok.rl;have j:t.c=c:=by rw[h.is];rfl
 have f:t.k=k:=by rw[h.is];rfl
 have E:t.H=x:=by rw[h.is];rfl
 have q:t.m=(G_ l).1:=by rw[h.is];rfl
 have F:t.r=(CX c s.AN e).1:=by rw[h.is];rfl
 have g:t.s=G7 c (CX c s.AN e).1:=by rw[h.is];rfl
 refine⟨?_,λp y d=>?_,?_⟩
 .refine rS (c:=c) (k:=k) (j▸ok.crs) (f▸ok.clk.anc) (l:=x) (λy d=>?_) h.tm;obtain⟨i,G,e⟩:=List.getElem_of_mem d;have:=ok.hit i y gq
  grind
 .have B:=h.arg
  grind[G',_p]
 .rw[g];exact Qp3 h.cE gq
theorem Qqj{t:Ck}(b:KO t)(ok:C9 t){p h:Int}(g:HL t h)(q:(DF t p h).2=AE):LH (DF t p h).1.A_:=by
 unfold DF at q⊢;cases e:(JM t.m p||AG (h<0))with
 |true=>
  rw[e]at q;simp only[Vp]at q⊢;rw[lh]at q;obtain⟨x,f⟩:=Option.isSome_iff_exists.1 q;have:Qm t.m p zX=x:=by
   unfold Qm;rw[f];rfl
  rw[this];exact b.m p x f
 |false=>
  simp only[Vq];rw[XX,decide_eq_false_iff_not]at e;rcases g with z|z
  .omega
  .have d:h.toNat<AI t.T:=by rw[ok.tl];exact z
   rw[XK d];exact b.T _ (Ve d)
theorem QnD{t:Ck}{s:AP}{e:Int}{l:AA Ae}(X:Ev (λn=>IJ n t.c t.k s e t.H l) (HY (.inr t)))(ok:C9 t)(O:KO t){W:CW}(R:FD t W=AE){p:Int}(V:0<=p)(p1:p<=W.A7):
  Tt (λn=>Kz n t.c t.k s e t.H l W p) λr=>HJ t.k r.1/\LM r.2.1:=by
 obtain⟨w1,w2,F⟩:=tW R;have rl:=ok.rl;unfold Kz;refine Tt.b (P:=λr=>r=HY (.inr t)) (Tt.e X rfl) λr x=>?_;subst x;show Tt (λn=>(K5 n W t.c t.k t.r t.s t.H t.T t.hi t.m t.c t.k).bind _) _;have f:∀{i:Int} {h:Int},h∈W.BL->Tt (λn=>Ig n i h t.c t.k t.r t.s t.H t.T t.hi t.m t.c t.k) λr=>r.2=AE->HJ t.k r.1.Ai/\LH r.1.A_:=λ{i h} hm=>Tt.e (l9 ok i h (F h hm)) λq=>⟨iT ok (F h hm) q,Qqj O ok (F h hm) q⟩;have g:∀{i j:Int},0<=i->i.toNat<AI t.r->0<=j->j.toNat<AI t.r->Tt (λn=>J_ n i j t.c t.k t.r t.s t.H t.T t.hi t.m t.c t.k) λr=>R7 r.Lo/\R7 r.Hi:=λa b c d=>Tt.e (hQ ok a b c d) (Qqe O.s _ _);refine Tt.b (P:=λb=>b=AE) (Tt.e (pR ok W om) R) λb J=>?_;subst J;refine Tt.c (λq=>by cases q) λ_=>Tt.b (P:=λb=>b=AD) (Tt.c gq λ_=>Tt.p (YO om)) λb J=>?_;subst J;refine Tt.c (λq=>by cases q) λ_=>?_;refine Tt.b (P:=Fj λ(r:Int×CK×Int)=>HJ t.k r.1/\LM r.2.1) (Tt.l (λi:Int=> -1<=i/\i<=p) (λi=>(i+1).toNat) (λi hi=>?_) p om) λr x=>?_
 .unfold TR;refine Tt.c (λq=>?_) λ_=>Tt.p (Q:=Fd _ _ _ _) trivial;have q:=Vv q;obtain⟨h1,Y⟩:=hi;refine Tt.b (Tt.i q om) λy E=>Tt.b (f E) λz N=>Tt.c (λM=>Tt.b (g q om V om) λu G=>Tt.p (Q:=Fd _ _ _ _) ?_) λ_=>Tt.p (Q:=Fd _ _ _ _) ?_
  .obtain⟨B,L⟩:=N M;refine⟨B,?_⟩;unfold LH at L;unfold R7 at G;show IL _/\IL _;unfold IL
   dsimp only
   rw[Di,Di];omega
  grind[QJ]
 cases r with
 |d v=>exact Tt.p x
 |k u=>
  refine Tt.b (P:=Fj λ(r:Int×CK×Int)=>HJ t.k r.1/\LM r.2.1) (Tt.l (λi:Int=>p<=i/\i<=W.A7+1) (λi=>(W.A7+1-i).toNat) (λi hi=>?_) p om) λr x=>?_
  .unfold UP;refine Tt.c (λq=>?_) λ_=>Tt.p (Q:=Fd _ _ _ _) trivial;have q:=Vv q;obtain⟨h1,Y⟩:=hi;refine Tt.b (Tt.i om om) λy E=>Tt.b (f E) λz N=>Tt.c (λM=>Tt.b (g V om om om) λu G=>Tt.p (Q:=Fd _ _ _ _) ?_) λ_=>Tt.p (Q:=Fd _ _ _ _) ?_
   .obtain⟨B,L⟩:=N M;refine⟨B,?_⟩;unfold LH at L;unfold R7 at G;show IL _/\IL _
    grind[IL,QJ]
   grind[QJ]
  cases r with
  |d v=>exact Tt.p x
  |k u=>exact Tt.p ⟨⟨0,rfl,om⟩,by show IL _/\IL _;unfold IL;simp⟩
set_option maxRecDepth 10000
def oB(o:CC):Prop:=(-1125899906842624<=o.Lo/\o.Lo<=1125899906842624)/\(-1125899906842624<=o.Hi/\o.Hi<=1125899906842624)
theorem ZJ{x f:CK}(j:LM x)(h:LM f){u:Int}(d:IL u)(g:Int):oB {BM:=AD,BS:=g,Lo:=i64.wrap (i64.wrap (x.Lo-f.Hi)+u),Hi:=i64.wrap (i64.wrap (x.Hi-f.Lo)+u):CC}:=by
 grind[LM,IL,oB,QJ]
def oL(r:AA CC):Prop:=AI r<=2/\ ∀o∈r,oB o
theorem jK:oB {BM:=AE,BS:=(-1),Lo:=0,Hi:=0:CC}:=by
 unfold oB;simp
theorem aQ{o:CC}(h:oB o):oL [o]:=⟨sq,λy hy=>gq⟩
theorem jJ{o:CC}(h:oB o):oL [{BM:=AE,BS:=(-1),Lo:=0,Hi:=0:CC},o]:=⟨sq,λy hy=>by
 grind[jK]⟩
structure Sl (q:Ui) (t:Ck):Prop where
 k:Qk q t
 b:KO t
 sl:Df q.Ag.BK
 pb:∀y∈q.BP,Df y.BU
theorem sh{q:Ui}{t:Ck}(h:Sl q t){W:CW}(g:FD t W=AE){p:Int}(m:0<=p)(j:p<=W.A7):Tt (λn=>ID n q W p) λr=>LM r.2:=by
 unfold ID;have i:=h.k.task;have B:t.c=q.A0:=by rw[i.is];rfl
 have f:t.k=q.Bj:=by rw[i.is];rfl
 have x:t.H=q.Bv:=by rw[i.is];rfl
 have d:=hY (c:=q.A0) (h.k.crs.cE.symm▸h.k.crs.ty) (λ_=>h.k.crs.good) h.k.clk q.Ag q.BY q.Bv (by have:=h.k.hx;omega) q.Bq (by have:=h.k.hl;omega);rw[h.k.te]at d;have z:=QnD (t:=t) (s:=q.Ag) (e:=q.BY) (l:=q.Bq) gq i.ok h.b g m j;rw[B,f,x]at z;exact Tt.b z λr y=>Tt.p y.2
theorem c?{q:Ui}{t:Ck}(h:Sl q t):Tt (λn=>Ih n q) λg=>0<=g/\g<=1099511627776:=by
 unfold Ih;obtain⟨_,_,a,b⟩:=gh h.k.task.arg;have d:=(Y3 h.k.crs.cE).2.1;unfold Cx at d;simp only[XW]at d;refine Tt.b (Tt.i a b) λw f=>Tt.p ?_
 simp_all[DG]
theorem uV{q:Ui}{t:Ck}(h:Sl q t)(W:CW):Tt (λn=>Il n q W) LM:=by
 unfold Il;refine Tt.b (c? h) λg d=>Qe (Tt.z) λ_=>Tt.p ?_;unfold LM IL
 grind
theorem QjA{q:Ui}{t:Ck}(h:Sl q t){W:CW}(g:FD t W=AE)(f:0<=W.A7)(j:0<AI W.BL):Tt (λn=>Mm n q W) LM:=by
 unfold Mm;exact Qe (Qnw _ h.k.hl) λ_=>Qe (Qe (Tt.i (Int.le_refl 0) om).any λ_=>Tt.k λ_=>Tt.z) λ_=>Tt.c (λ_=>Tt.b (uV h W) λr d=>Tt.p d) λ_=>Tt.b (sh h g (Int.le_refl 0) f) λr d=>Tt.p d
theorem qJ(p:Int):∀(l:AA CF) (s:Int×Int×Bool) (K:Int),(∀y∈l,Df y.BU)-> -K<=s.1/\s.1<=K->K+1099511627776*(AI l:Int)<=140737488355328->IL (l.foldl (IR p) s).1
 |[],s,K,_,h,hK=>by
  grind[IL]
 |y::l,s,K,hy,h,hK=>by
  rw[XD];rw[X0]at hK;have hr:=om;have ht:=hy y (X5 ..);unfold Df at ht;refine qJ p l _ (K+1099511627776) gq ?_ om;unfold IR;cases AG (y.AT<=p)with
  |true=>
   simp only[Vp];rw[Di];omega
  |false=>
   grind
theorem Z'{q:Ui}{t:Ck}(h:Sl q t){W:CW}(y:FD t W=AE)(G:0<AI W.BL):Tt (λn=>HR n q W) oL:=by
 unfold HR;obtain⟨a,b,_,_⟩:=gh h.k.task.arg;have p0:=h.k.p0;have pen:=h.k.pen;refine Tt.b (P:=λu=>IL u.1) (Tt.e (Zk q.BP q.Aj om) (qJ q.Aj q.BP (0,0,AD) 0 h.pb om om)) λu g=>Tt.b (P:=λb=>b=AD->q.Aj<=W.A7) (Tt.n λz=>Tt.p λ_=>gq) λL F=>Tt.c (λ_=>Qe (Tt.z) λ_=>Tt.p (aQ jK)) λz=>?_;have B:=F z;refine Qe (f? h.k y B) λN=>Tt.c (λ_=>Qe (Tt.z) λ_=>Tt.p (aQ jK)) λ_=>Tt.b (sh h y p0 B) λx j=>Qe (Tt.z) λ_=>Tt.b (Tt.i a b) λd E=>?_;have H:=QlF h.k.crs.cE E;have sl:LM {Lo:=q.Ag.BK,Hi:=q.Ag.BK}:=by
  have:=h.sl
  grind[Df,LM,IL]
 refine Tt.c gq λQ=>Tt.c (λ_=>Tt.b (uV h W) λf m=>Tt.c (λ_=>Qe (Tt.z) λ_=>Tt.p (jJ (ZJ j m g _))) λ_=>Tt.p (aQ (ZJ j m g _))) λM=>Tt.c (λ_=>Tt.b (QjA h y om G) λf m=>Tt.c (λ_=>Qe (Tt.z) λ_=>Tt.p (jJ (ZJ j m g _))) λ_=>Tt.p (aQ (ZJ j m g _))) λJ=>Tt.c (λ_=>Qe (f:=λn=>Pw n q W) (Tt.z) λ_=>Tt.c (λ_=>Qe (Tt.z) λ_=>Tt.p (jJ (ZJ j sl g _))) λ_=>Tt.p (aQ (ZJ j sl g _))) λO=>?_
 grind
theorem QpM{q:Ui}{t:Ck}(h:Sl q t){V:AA CW×Int}(F:AI V.1<=64)(j:∀w∈V.1,FD t w=AE/\0<AI w.BL):Tt (λn=>iter (Ie n V (q,0)) n ([],0)) λr=>AI r<=128/\ ∀o∈r,oB o:=by
 refine QN V.1 (λ(a:AA CC) i=>(a,i)) (λi a=>AI a<=2*i/\ ∀o∈a,oB o) om (λi w a d y=>?_) (λa y=>?_) [] _ rfl sq
 .unfold Ie;have:=d.lt';simp only[d.lt,Vp,d.ix,XJ,d.nx];obtain⟨E,B⟩:=j w d.mem;refine Tt.b (Z' h E B) λr f=>Tt.b (Tt.a (by have:=f.1;omega)) λm g=>Tt.p ⟨m,rfl,?_⟩;subst g;refine⟨by have:=f.1;simp;omega,λo x=>?_⟩;rcases VC.1 x with z|z
  .grind
  .exact f.2 o z
 .unfold Ie;simp only[Jp,Vq];exact Tt.p gq
def D8(d:Int)(o:CC):CC:=bif !o.BM then {BM:=o.BM,BS:=o.BS,Lo:=i64.wrap (o.Lo+d),Hi:=i64.wrap (o.Hi+d):CC}else o
section
variable {α β γ:Type} {L:β} {L':γ}
theorem bK{x:AB α}{f:α->AB β}{d:α->AB γ}(h:∀v,f v=AC L->d v=AC L')(e:x.bind f=AC L):x.bind d=AC L':=by
 cases x with
 |none=>cases e
 |some v=>exact h v e
theorem cK{c:Bool}{a b:AB β}{a' b':AB γ}(d:a=AC L->a'=AC L')(f:b=AC L->b'=AC L')(e:(bif c then a else b)=AC L):(bif c then a' else b')=AC L':=by
 grind
end
def ofK(n:Nat)(q:Ui)(w:CW)(u:Int×Int×Bool):AB (AA CC):=
 ((bif w.A7<q.Aj then AC AE else AC u.2.2):AB Bool).bind λb3=>(bif b3 then(IQ n).bind λr7=>AC [{BM:=AE,BS:=(-1),Lo:=0,Hi:=0:CC}]else(Ma n q w).bind λr8=>(bif r8.1 then(IQ n).bind λr10=>AC [{BM:=AE,BS:=(-1),Lo:=0,Hi:=0:CC}]else(ID n q w q.Aj).bind λr11=>(W6 n).bind λr12=>(CJ q.A0.AO q.Ag.AN).bind λx13=>(bif (x13.A'==0)then(Il n q w).bind λr15=>(bif r8.2 then(IQ n).bind λr17=>AC [{BM:=AE,BS:=(-1),Lo:=0,Hi:=0:CC},{BM:=AD,BS:=r11.1,Lo:=i64.wrap ((i64.wrap (r11.2.Lo-r15.Hi))+u.1),Hi:=i64.wrap ((i64.wrap (r11.2.Hi-r15.Lo))+u.1):CC}]else AC [{BM:=AD,BS:=r11.1,Lo:=i64.wrap ((i64.wrap (r11.2.Lo-r15.Hi))+u.1),Hi:=i64.wrap ((i64.wrap (r11.2.Hi-r15.Lo))+u.1):CC}])else(bif (x13.A'==1)then(Il n q w).bind λr19=>(bif r8.2 then(IQ n).bind λr21=>AC [{BM:=AE,BS:=(-1),Lo:=0,Hi:=0:CC},{BM:=AD,BS:=r11.1,Lo:=i64.wrap ((i64.wrap (r11.2.Lo-r19.Hi))+u.1),Hi:=i64.wrap ((i64.wrap (r11.2.Hi-r19.Lo))+u.1):CC}]else AC [{BM:=AD,BS:=r11.1,Lo:=i64.wrap ((i64.wrap (r11.2.Lo-r19.Hi))+u.1),Hi:=i64.wrap ((i64.wrap (r11.2.Hi-r19.Lo))+u.1):CC}])else(bif (x13.A'==2)then(Mm n q w).bind λr23=>(bif r8.2 then(IQ n).bind λr25=>AC [{BM:=AE,BS:=(-1),Lo:=0,Hi:=0:CC},{BM:=AD,BS:=r11.1,Lo:=i64.wrap ((i64.wrap (r11.2.Lo-r23.Hi))+u.1),Hi:=i64.wrap ((i64.wrap (r11.2.Hi-r23.Lo))+u.1):CC}]else AC [{BM:=AD,BS:=r11.1,Lo:=i64.wrap ((i64.wrap (r11.2.Lo-r23.Hi))+u.1),Hi:=i64.wrap ((i64.wrap (r11.2.Hi-r23.Lo))+u.1):CC}])else(bif (x13.A'==3)then(Pw n q w).bind λr27=>(bif r8.2 then(IQ n).bind λr29=>AC [{BM:=AE,BS:=(-1),Lo:=0,Hi:=0:CC},{BM:=AD,BS:=r11.1,Lo:=i64.wrap ((i64.wrap (r11.2.Lo-q.Ag.BK))+u.1),Hi:=i64.wrap ((i64.wrap (r11.2.Hi-q.Ag.BK))+u.1):CC}]else AC [{BM:=AD,BS:=r11.1,Lo:=i64.wrap ((i64.wrap (r11.2.Lo-q.Ag.BK))+u.1),Hi:=i64.wrap ((i64.wrap (r11.2.Hi-q.Ag.BK))+u.1):CC}])else AF))))))
theorem _N(n:Nat)(q:Ui)(P:AA CF)(w:CW):HR n {q with BP:=P} w=(KX n P q.Aj).bind (ofK n q w):=rfl
theorem QpE(a u d:Int):i64.wrap (a+i64.wrap (u+d))=i64.wrap (i64.wrap (a+u)+d):=by
 simp only[mJ];omega
theorem pZ{g a b u v d:Int}(h:v=i64.wrap (u+d)):({BM:=AD,BS:=g,Lo:=i64.wrap (a+v),Hi:=i64.wrap (b+v)}:CC)=D8 d {BM:=AD,BS:=g,Lo:=i64.wrap (a+u),Hi:=i64.wrap (b+u)}:=by
 simp_all[D8,QpE]
theorem oJ{d:Int}{L:AA CC}(e:AC [{BM:=AE,BS:=(-1),Lo:=0,Hi:=0:CC}]=AC L):AC [{BM:=AE,BS:=(-1),Lo:=0,Hi:=0:CC}]=AC (L.map (D8 d)):=by
 cases e;rfl
theorem fy{g a b u v d:Int}{L:AA CC}(h:v=i64.wrap (u+d))(e:AC [{BM:=AD,BS:=g,Lo:=i64.wrap (a+u),Hi:=i64.wrap (b+u):CC}]=AC L):AC [{BM:=AD,BS:=g,Lo:=i64.wrap (a+v),Hi:=i64.wrap (b+v):CC}]=AC (L.map (D8 d)):=by
 cases e;rw[pZ h];rfl
theorem fx{g a b u v d:Int}{L:AA CC}(h:v=i64.wrap (u+d))(e:AC [{BM:=AE,BS:=(-1),Lo:=0,Hi:=0:CC},{BM:=AD,BS:=g,Lo:=i64.wrap (a+u),Hi:=i64.wrap (b+u):CC}]=AC L):AC [{BM:=AE,BS:=(-1),Lo:=0,Hi:=0:CC},{BM:=AD,BS:=g,Lo:=i64.wrap (a+v),Hi:=i64.wrap (b+v):CC}]=AC (L.map (D8 d)):=by
 cases e;rw[pZ h];rfl
theorem _O{n:Nat}{q:Ui}{w:CW}{u v:Int×Int×Bool}{d:Int}{L:AA CC}(h:v.1=i64.wrap (u.1+d))(f:v.2.2=u.2.2)(e:ofK n q w u=AC L):ofK n q w v=AC (L.map (D8 d)):=by
 unfold ofK at e⊢;rw[f];exact bK (λ_=>cK (bK λ_=>oJ) (bK λ_=>cK (bK λ_=>oJ) (bK λ_=>bK λ_=>bK λ_=>cK (bK λ_=>cK (bK λ_=>fx h) (fy h)) (cK (bK λ_=>cK (bK λ_=>fx h) (fy h)) (cK (bK λ_=>cK (bK λ_=>fx h) (fy h)) (cK (bK λ_=>cK (bK λ_=>fx h) (fy h)) λz=>by cases z)))))) e
theorem rj{S B:Type}{step step':S->AB (CG S B)}(φ:S->S)(ψ:B->B)(h1:∀s s',step s=AC (.k s')->step' (φ s)=AC (.k (φ s')))(h2:∀s b,step s=AC (.d b)->step' (φ s)=AC (.d (ψ b))):∀(m:Nat) (s:S) (b:B),iter step m s=AC b->iter step' m (φ s)=AC (ψ b)
 |0,s,b,e=>by cases e
 |m+1,s,b,e=>by
  unfold iter at e⊢;cases hs:step s with
  |none=>grind
  |some r=>
   rw[hs]at e;cases r with
   |k s'=>rw[h1 s s' hs];exact rj φ ψ h1 h2 m s' b e
   |d b'=>grind
theorem QqU{α β:Type}(f:α->β){l m r:AA α}(h:app l m=AC r):app (l.map f) (m.map f)=AC (r.map f):=by
 obtain⟨d,rfl⟩:=gg h;rw[S6 _ _ (by simp only[X2];exact d),Xf]
theorem _u{n:Nat}{q x:Ui}{V:AA CW×Int}{d:Int}(of:∀w r,HR n q w=AC r->HR n x w=AC (r.map (D8 d))){L:AA CC}
  (e:iter (Ie n V (q,0)) n ([],0)=AC L):iter (Ie n V (x,0)) n ([],0)=AC (L.map (D8 d)):=by
 refine rj (λs:AA CC×Int=>(s.1.map (D8 d),s.2)) (λL:AA CC=>L.map (D8 d)) (λs y f=>?_) (λs b f=>?_) n ([],0) L e
 .unfold Ie at f⊢
  dsimp only at f⊢
  cases h:AG (s.2<(AI V.1:Int))with
  |false=>grind
  |true=>
   rw[h,Vp]at f;rw[Vp];refine bK (λw g=>?_) f;obtain⟨r,t,g⟩:=QE g;rw[of w r t,XJ];obtain⟨m,j,g⟩:=QE g;rw[QqU _ j,XJ];cases g;rfl
 .unfold Ie at f⊢
  dsimp only at f⊢
  cases h:AG (s.2<(AI V.1:Int))with
  |false=>grind
  |true=>
   rw[h,Vp]at f;obtain⟨w,g,f⟩:=QE f;obtain⟨r,t,f⟩:=QE f;obtain⟨m,j,f⟩:=QE f;cases f
theorem Qqi{n:Nat}{q:Ui}{P:AA CF}{V:AA CW×Int}{u v:Int×Int×Bool}{d:Int}(g:KX n q.BP q.Aj=AC u)(f:KX n P q.Aj=AC v)(h:v.1=i64.wrap (u.1+d))(j:v.2.2=u.2.2){L:AA CC}
  (e:iter (Ie n V (q,0)) n ([],0)=AC L):iter (Ie n V ({q with BP:=P},0)) n ([],0)=AC (L.map (D8 d)):=by
 grind[_u,HR,ofK,_N,_O]
def sB(d:Int):Prop:= -68719476736<=d/\d<=68719476736
def Ht(d:Int)(o:CC):CC:={o with Lo:=o.Lo+d,Hi:=o.Hi+d}
theorem kP{d:Int}(f:sB d){o:CC}(h:oB o)(g:o.BM=AD):D8 d o=Ht d o:=by
 unfold oB at h;unfold sB at f;unfold D8 Ht;rw[g];simp only[Xh,Vp]
 grind[QJ]
theorem R?(d:Int)(o:CC):(D8 d o).BM=o.BM:=by
 unfold D8
 grind
theorem aC{d:Int}(g:sB d){o:CC}(h:oB o):HI (D8 d o)=HI o:=by
 cases f:o.BM with
 |true=>unfold D8;rw[f];rfl
 |false=>
  rw[kP g h f];unfold HI Ht;simp
theorem p_(a b d:Int):C2 (a+d) (b+d)=C2 a b:=by
 grind[C2]
theorem qn{α β:Type}(f:α->β){lt:α->α->Bool}{lt':β->β->Bool}(x:α):∀l:AA α,(∀y∈l,lt' (f y) (f x)=lt y x)->ins lt' (f x) (l.map f)=(ins lt x l).map f
 |[],_=>rfl
 |y::l,h=>by
  rw[Vk];unfold ins;rw[h y (X5 ..)];cases lt y x with
  |true=>simp only[Vp,Vk];rw[qn f x l λz hz=>h z (X6 _ hz)]
  |false=>rfl
theorem tJ{α β:Type}(f:α->β){lt:α->α->Bool}{lt':β->β->Bool}:∀l:AA α,(∀x∈l,∀y∈l,lt' (f x) (f y)=lt x y)->I6 lt' (l.map f)=(I6 lt l).map f
 |[],_=>rfl
 |x::l,h=>by
  rw[Vk];unfold I6;rw[tJ f l λa ha b hb=>h a (X6 _ ha) b (X6 _ hb)]
  grind[qn,Yw]
def tB(o:CC):Prop:=oB o/\o.BM=AD
theorem Qqf{d:Int}(h:sB d){a b:CC}(f:tB a)(g:tB b):Fy (Ht d a) (Ht d b)=Fy a b:=by
 unfold Fy Ht
 dsimp only
 have f:=f.1;have g:=g.1;unfold oB at f g;unfold sB at h;rw[Di,Di]
 grind
theorem Z9(d:Int)(a b:CC):NI (Ht d a) (Ht d b)=Ht d (NI a b):=by
 unfold NI Ht
 grind
theorem o8{a b:CC}(d:tB a)(f:tB b):tB (NI a b):=by
 refine⟨?_,d.2⟩;have d:=d.1;have f:=f.1
 grind[oB,NI]
theorem lY{d:Int}(hd:sB d):∀(r:AA CC) (a:CC),tB a->(∀x∈r,tB x)->DZ (Ht d a) (r.map (Ht d))=(DZ a r).map (Ht d)
 |[],a,_,_=>rfl
 |b::r,a,ha,hr=>by
  rw[Vk];unfold DZ;have hb:=hr b (X5 ..);have hr':=λx hx=>hr x (X6 _ hx);rw[Qqf hd ha hb];cases Fy a b with
  |true=>simp only[Vp];rw[Z9];exact lY hd r _ (o8 ha hb) hr'
  |false=>simp only[Vq,Vk];rw[lY hd r b hb hr']
theorem lZ:∀(r:AA CC) (a:CC),tB a->(∀x∈r,tB x)->∀x∈DZ a r,tB x
 |[],a,ha,_,x,hx=>by rw[VA.1 hx];exact ha
 |b::r,a,ha,hr,x,hx=>by
  have hb:=hr b (X5 ..);have hr':=λx hx=>hr x (X6 _ hx);unfold DZ at hx;cases hn:Fy a b with
  |true=>rw[hn]at hx;exact lZ r _ (o8 ha hb) hr' x hx
  |false=>
   rw[hn,Vq]at hx;rcases X7.1 hx with q|q
   .grind
   .exact lZ r b hb hr' x q
theorem u9{d:Int}(hd:sB d):∀l:AA CC,(∀o∈l,oB o)->(l.map (D8 d)).filter HI=(l.filter HI).map (Ht d)
 |[],_=>rfl
 |o::l,h=>by
  have ho:=h o (X5 ..);rw[Vk,List.filter_cons,List.filter_cons,aC hd ho,u9 hd l gq];cases ht:HI o with
  |true=>simp_all[kP,da]
  |false=>rfl
theorem J?(d:Int):∀l:AA CC,(l.map (D8 d)).any (·.BM)=l.any (·.BM)
 |[]=>rfl
 |o::l=>by grind[R?]
theorem QpH{d:Int}(q:sB d){l:AA CC}(h:∀o∈l,oB o):DW (l.map (D8 d))=(DW l).map (D8 d):=by
 have g:∀x∈FM l,tB x:=λx f=>by
  have m:=(Yw _ _).mem_iff.1 f;obtain⟨F,E⟩:=Xd.1 m;exact⟨h x F,(da E).1⟩
 have s:FM (l.map (D8 d))=(FM l).map (Ht d):=by
  unfold FM;rw[u9 q l h];refine tJ (Ht d) _ λx _ y _=>?_;unfold NV Ic Ht
  dsimp only
  rw[p_,p_]
 have j:Fv ((FM l).map (Ht d))=(Fv (FM l)).map (Ht d)/\ ∀x∈Fv (FM l),tB x:=by
  cases e:FM l with
  |nil=>exact⟨rfl,λ_ h=>nomatch h⟩
  |cons a r=>
   rw[e]at g;have B:=g a (X5 ..);have t:=λx f=>g x (X6 _ f);exact⟨lY q r a B t,lZ r a B t⟩
 unfold DW;rw[Xf,s,j.1];congr 1
 .unfold D1;rw[J?];cases l.any (·.BM)with
  |true=>rfl
  |false=>rfl
 .exact List.map_congr_left λx f=>(kP q (j.2 x f).1 (j.2 x f).2).symm
theorem QjY(l:AA CC)(d:Int)(g:AI l<=1048576):Ev (λn=>Pn n l d) (l.map (D8 d)):=by
 unfold Pn;refine Ea (Qq8 l (D8 d) g (λi x a f h=>?_) λa=>?_) (Qa _)
 .unfold VO;have:=f.lt';simp only[f.lt,Vp,f.ix,XJ,f.nx];refine Ea (v:=D8 d x) ?_ (YC (S6 _ _ (by simp;omega)) (Qa _))
  grind[D8,Qa]
 simp_all[VO,Qa]
theorem o5(a b c:Int):Tt (λn=>Fa n a b c) λr=>r=AE->b<=a/\a<=c:=by
 unfold Fa;exact Tt.b (P:=λr=>r=AE->b<=a/\a<=c) (Tt.c (λh=>Tt.p gq) λ_=>Tt.p nofun) λv h=>Tt.p h
theorem QpP(a:Int):Tt (λn=>H_ n a) λr=>r=AE->Df a:=by
 unfold H_;exact Tt.b (o5 ..) λr h=>Tt.p λq=>h q
theorem QjB(s:AP):Tt (λn=>Kx n s) λr=>r=AE->0<=s.AN/\Df s.BK:=by
 unfold Kx I_ J5;refine Tt.b (P:=λr=>r=AE->0<=s.AN/\Df s.BK) (Qe (Qe (Jn ..) λ_=>Tt.z) λr=>Tt.c (λ_=>Tt.b (Ru ..) λr h=>Tt.c (λq=>Qe (Jn ..) λ_=>Tt.c (λ_=>Tt.b (QpP _) λr f=>Tt.c (λd=>Tt.w (P:=λ_=>True) ?_ gq) λ_=>Tt.p nofun) λ_=>Tt.p nofun) λ_=>Tt.p nofun) λ_=>Tt.p nofun) λv h=>Tt.p h
 repeat' first|with_reducible exact Tt.p trivial|with_reducible refine Tt.c (λ_=>?_) λ_=>?_|with_reducible refine Qe ?_ λ_=>?_|with_reducible exact Jn ..
theorem QlL(s:Af):Tt (λn=>Ky n s) λr=>r=AE->s.AW=3->Df s.BO:=by
 unfold Ky IC I_ HS;refine Qe ?_ λd=>Tt.n λ_=>Tt.b (P:=λb=>b=AE->s.AW≠3) (Tt.c (λh=>Tt.p λ_ e=>?_) λ_=>Tt.p λh e=>?_) λb f=>Tt.c (λq=>Tt.w (P:=λ_=>True) ?_ gq) λ_=>Tt.c (λk=>Tt.b (P:=λr=>r=AE->Df s.BO) ?_ λr h=>Tt.p λq _=>h q) λk=>Tt.w (P:=λ_=>True) ?_ gq
 .repeat' first|with_reducible exact Tt.p trivial|with_reducible refine Tt.c (λ_=>?_) λ_=>?_|with_reducible refine Qe ?_ λ_=>?_|with_reducible exact Jn ..
 .grind
 .grind
 .repeat' first|with_reducible exact Tt.p trivial|with_reducible refine Tt.c (λ_=>?_) λ_=>?_|with_reducible refine Qe ?_ λ_=>?_|with_reducible exact Jn ..
 .refine Qe (Qe (Jn ..) λ_=>Tt.z) λ_=>Tt.c (λ_=>Qe (Qe (Jn ..) λ_=>Tt.z) λ_=>Tt.c (λ_=>Tt.b (o5 ..) λr h=>Tt.p λq=>?_) λ_=>Tt.p nofun) λ_=>Tt.p nofun;have:=h q;unfold Df;omega
 .repeat' first|with_reducible exact Tt.p trivial|with_reducible refine Tt.c (λ_=>?_) λ_=>?_|with_reducible refine Qe ?_ λ_=>?_|with_reducible exact Jn ..
def Ln(f:CI):Prop:=(f.AW=1->0<=f.AP.AN/\Df f.AP.BK)/\(f.AW=10->f.Af.AW=3->Df f.Af.BO)
theorem Ln.k{f:CI}{k:Int}(h:(f.AW==k)=AE)(d:k≠1)(g:k≠10):Ln f:=by
 have:f.AW=k:=by simpa using h
 exact⟨om,om⟩
theorem QjF(f:CI):Tt (λn=>K_ n f) λr=>r=AE->Ln f:=by
 unfold K_ IH IF H_ I_ HS IC J5 KC KB;have g:(f.AW==1)=AE->f.AW=1:=sq;have d:(f.AW==10)=AE->f.AW=10:=sq;refine Tt.c (λk=>Tt.b (QjB _) λr h=>Tt.p λq=>⟨λ_=>h q,gq⟩) λ_=>?_
 iterate 8 (refine Tt.c (λk=>Tt.w (P:=λ_=>True) ?_ λ_ _ _=>Ln.k k ?_ ?_) λ_=>?_;rotate_left;rotate_left;rotate_left)
 .refine Tt.c (λk=>Tt.b (QlL _) λr h=>Tt.p λq=>⟨gq,λ_=>h q⟩) λ_=>?_
  iterate 3 (refine Tt.c (λk=>Tt.w (P:=λ_=>True) ?_ λ_ _ _=>Ln.k k ?_ ?_) λ_=>?_;rotate_left;rotate_left;rotate_left)
  .exact Tt.p nofun
  all_goals simp_all[Tt.p,Qe,Jn]
 all_goals repeat' first|decide|with_reducible exact Tt.p trivial|with_reducible refine Tt.c (λ_=>?_) λ_=>?_|with_reducible refine Qe ?_ λ_=>?_|with_reducible exact Jn .. |with_reducible exact pX _
theorem QnF(f:CI):Tt (λn=>J2 n f) λr=>r=0->Ln f:=by
 unfold J2 KC KB;refine Tt.b (P:=λb=>b=AD->Ln f) ?_ λb h=>Tt.n λq=>Tt.p λ_=>h q;refine Qe (Qe (Jn ..) λ_=>Tt.z) λ_=>Tt.n λ_=>?_;refine Qe (Qe (Jn ..) λ_=>Tt.z) λ_=>Tt.n λ_=>?_;refine Qe (Jn ..) λ_=>Tt.n λ_=>?_;exact Tt.b (QjF f) λr h=>Tt.n λq=>Qe (pW f) λ_=>Tt.p gq
theorem mM(l:AA CI)(O:AI l<=16):Tt (λn=>Km n l) λr=>AI r<=16/\ ∀f∈r,Ln f:=by
 unfold Km;refine Tt.b (QN l (λ(a:AA CI) i=>(a,i)) (λi a=>AI a<=i/\ ∀f∈a,Ln f) om (λi x a d t=>?_) (λa t=>?_) [] _ rfl sq) λr h=>Tt.p h
 .unfold MG;have:=d.lt';simp only[d.lt,Vp,d.ix,XJ,d.nx];refine Tt.b (P:=λ(m:AA CI)=>AI m<=i+1/\ ∀f∈m,Ln f) (Tt.b (QnF x) λr G=>Tt.c (λ_=>Tt.p ⟨om,t.2⟩) λq=>?_) λm B=>Tt.p ⟨m,rfl,B⟩;have V:Ln x:=G gq;refine Tt.b (Tt.find a om λj y F=>?_) λb g=>?_
  .exact Qe (Tt.o F.ix trivial) λy=>Qe (Tt.o d.ix trivial) λx=>Qe (sa y x) λ_=>Tt.z
  refine Qe (Tt.c (λh=>Qe (Tt.i g.1 (Vv h)).any λ_=>Tt.z) λ_=>Tt.z) λ_=>Tt.c (λ_=>Tt.p ⟨om,t.2⟩) λ_=>?_;refine Tt.b (Tt.sl (Int.le_refl 0) g.1 g.2) λp L=>Tt.b (Tt.a (by simp;omega)) λN E=>?_;subst E;refine Tt.b (Tt.a (by simp;omega)) λQ H=>Tt.b (Tt.sl g.1 g.2 (Int.le_refl _)) λJ T=>?_;subst H;refine Tt.b (Tt.a (by simp;omega)) λM R=>Tt.p ?_
  grind
 .unfold MG;simp only[Jp,Vq];exact Tt.p gq
def ZC(c:CB)(l:AA AP):Prop:=∀s∈l,(0<=s.AN/\s.AN<(AI c.AO:Int))/\Df s.BK
theorem uv(c:CB)(l:AA CI)(G:AI l<=16){e:Int}(he:Ev (λn=>HQ n c) e):Tt (λn=>MP n c l) λr=>AI r.1<=16/\ZC c r.1:=by
 unfold MP;have nil:AI ([]:AA AP)<=16/\ZC c []:=⟨sq,λ_ h=>nomatch h⟩;refine Qe (Tt.e he trivial) λe=>Tt.c (λ_=>Tt.p nil) λ_=>Tt.b (mM l G) λC hC=>?_;refine Tt.b (P:=λ(a:AA AP)=>AI a<=16/\ZC c a) (QN C (λ(a:AA AP) i=>(a,i)) (λi a=>AI a<=i/\ZC c a) om (λi x a d g=>?_) (λa g=>?_) [] _ rfl gq) λa d=>Tt.c (λ_=>Tt.p nil) λ_=>?_
 .unfold TH;have:=d.lt';simp only[d.lt,Vp,d.ix,XJ,d.nx];have skip:AI a<=i+1/\ZC c a:=⟨om,g.2⟩;refine Tt.b (P:=λ(m:AA AP)=>AI m<=i+1/\ZC c m) (Tt.b (P:=λb=>b=AD->(0<=x.AP.AN/\x.AP.AN<(AI c.AO:Int))/\Df x.AP.BK) (Tt.n λM=>Tt.n λL=>Tt.w (P:=λ_=>True) (Qv <| Qe (U? a _ om) λ_=>Tt.z) λ_ _ _=>?_) λb N=>Tt.c (λ_=>Tt.p skip) λq=>?_) λm F=>Tt.p ⟨m,rfl,F⟩
  .have:=Vw L;obtain⟨H,t⟩:=(hC.2 x d.mem).1 gq
   grind
  refine Tt.b (Tt.find a om λj y f=>Qe (Tt.o f.ix trivial) λy=>Tt.z) λj f=>?_;refine d? a x.AP f.1 f.2 om λm H t=>⟨om,λs J=>?_⟩;rcases t s J with h|h
  .grind
  .exact g.2 s h
 .unfold TH;simp only[Jp,Vq];exact Tt.p gq
 refine Tt.b (P:=Fj λ(r:AA AP×Int)=>r.1=[]) (QN a (λ(_:Unit) i=>i) (λ_ _=>True) om (λi x _ hx _=>?_) (λ_ _=>?_) () _ rfl trivial) λr B=>?_
 .unfold TE;have E:=hx.lt';simp only[hx.lt,Vp,hx.nx];refine Tt.b (P:=Fj λ(r:CG Int (CG Unit (AA AP×Int)))=>r=.d (.d ([],180))) (Tt.up i om (λ(_:Unit) i=>i) (λ_ _=>True) (λj _ f hn _=>?_) (λ_ _=>?_) () _ rfl trivial) λr B=>?_
  .unfold Tr;simp only[dT ((j:Int)<(i:Int)),Vp,hn];exact Qe (Tt.i (Int.natCast_nonneg i) om).any λ_=>Qe (Tt.i (Int.natCast_nonneg j) om).any λ_=>Tt.c (λ_=>Tt.p (Q:=F9 _ _ _ _) rfl) λ_=>Tt.p ⟨(),rfl,trivial⟩
  .simp_all[Tr,Tt.p]
  .cases r with
   |k s=>exact Tt.p ⟨(),rfl,trivial⟩
   |d s=>cases B;exact Tt.p (Q:=F9 _ _ _ _) rfl
 .simp_all[TE,Tt.p]
 .cases r with
  |k s=>exact Tt.p d
  |d s=>simp_all[Tt.p]
theorem Tt.ie{α:Type}{l:AA α}{i:Int}(f:0<=i)(d:i<(AI l:Int)):Tt (λ_=>CJ l i) (λx=>x∈l/\CJ l i=AC x):=by
 obtain⟨x,⟨N,e⟩,h⟩:=Tt.i (l:=l) f d;exact⟨x,⟨N,e⟩,h,e N (XT _)⟩
def i_(l:AA CI)(r:Int):Prop:=r<(AI l:Int)/\(0<=r->∀x,CJ l r=AC x->x.AW=10)
theorem uw(l:AA CI)(a b:Int)(f:AI l<=16):Tt (λn=>IE n l a b) (i_ l):=by
 unfold IE;refine Tt.b (P:=Fj (i_ l)) (QN l (λ(_:Unit) i=>i) (λ_ _=>True) om (λi x _ ha _=>?_) (λ_ _=>?_) () _ rfl trivial) λr d=>?_
 .unfold MD;have:=ha.lt';simp only[ha.lt,Vp,ha.ix,XJ,ha.nx];refine Tt.b (P:=λb=>b=AE->x.AW=10) (Tt.c (λk=>Tt.w (P:=λ_=>True) ?_ gq) λ_=>Tt.p nofun) λb g=>Tt.c (λq=>Tt.p (Q:=F9 _ _ _ _) ?_) λ_=>Tt.p ⟨(),rfl,trivial⟩
  .simp_all[Tt.p,Tt.c]
  .refine⟨om,λ_ y hy=>?_⟩;rw[ha.ix]at hy
   grind
 .simp_all[MD,Tt.p]
 .cases r with
  |k s=>exact Tt.p ⟨om,om⟩
  |d s=>exact Tt.p d
theorem Qnt(l:AA CI)(a:Int)(d:AI l<=16):Tt (λn=>J4 n l a) (i_ l):=by
 unfold J4;exact Qe (ux l a d) λ_=>Tt.c (λ_=>Tt.p ⟨om,om⟩) λ_=>Tt.b (uw l a 2 d) λr h=>Tt.c (λ_=>Tt.p h) λ_=>Tt.b (uw l a 1 d) λr h=>Tt.p h
theorem QpS(l:AA CI)(a:Int)(g:AI l<=16):Tt (λn=>O8 n l a) λr=>r.2=AE->r.1.AW=3->Df r.1.BO:=by
 unfold O8;refine Tt.b (mM l g) λC hC=>Tt.b (Qnt C a hC.1) λr f=>Tt.n λq=>?_;have:=Vw q;exact Tt.b (Tt.ie om f.1) λx d=>Tt.p λ_=>(hC.2 x d.1).2 (f.2 om x d.2)
def OT(c:CB):Prop:=∀o∈c.Ab,Df o.BU
def pT(c:CB)(y:CF):Prop:=OT c->Df y.BU
theorem QjC(c:CB)(l:AA CI)(a:Int)(f:AI l<=16):Tt (λn=>Py n c l a) λr=>pT c r.2.1:=by
 unfold Py;have z:∀{p l o},pT c {AT:=p,BU:=0,As:=l,BM:=o}:=λ{_ _ _} _=>by show Df 0;unfold Df;omega
 refine Tt.b (QpS l a f) λr m=>Tt.b (P:=Fj λ(s:Int×CF×Bool)=>pT c s.2.1) (Tt.c (λq=>Tt.c (λk=>Tt.p (Q:=Fj _) λ_=>m q (by simpa using k)) λ_=>Tt.c (λ_=>Tt.p (Q:=Fj _) z) λ_=>Tt.c (λ_=>Tt.p (Q:=Fj _) z) λ_=>Tt.c (λ_=>Tt.p (Q:=Fj _) z) λ_=>Tt.p (Q:=Fj _) trivial) λ_=>Tt.p (Q:=Fj _) trivial) λb d=>?_;cases b with
 |d s=>exact Tt.p d
 |k s=>
  refine Qe (Qnm l a f) λr=>Tt.b (P:=λb=>b=AD->0<=r.1.AZ/\r.1.AZ<(AI c.Ab:Int)) (Tt.n λ_=>Tt.n λh=>Tt.p λq=>?_) λb d=>Tt.c (λ_=>Tt.p z) λq=>?_
  .grind
  .obtain⟨t,j⟩:=d q;exact Tt.b (Tt.i t j) λo g=>Tt.p λx=>x o g
theorem QjK(c:CB)(l:AA CI)(a:Int)(h:AI l<=16){e:Int}(he:Ev (λn=>HQ n c) e):Tt (λn=>Pe n c l a) λr=>AI r.2<=32/\ ∀y∈r.2,pT c y:=by
 unfold Pe;refine Qe (Tt.e he trivial) λe=>Tt.c (λ_=>Tt.p sq) λ_=>Tt.b (sb l h) λR hR=>?_;refine Tt.b (P:=λ(a:AA Int)=>AI a<=16) (QN R (λ(a:AA Int) i=>(a,i)) (λi a=>AI a<=i) om (λi x a d f=>?_) (λa f=>?_) [] _ rfl (XT _)) λK1 h1=>Tt.b (QpY l h) λA hA=>?_
 .unfold TF;have:=d.lt';simp only[d.lt,Vp,d.ix,XJ,d.nx];exact Tt.b (rN a _ om) λm g=>Tt.p ⟨m,rfl,om⟩
 .unfold TF;simp only[Jp,Vq];exact Tt.p ⟨_,rfl,om⟩
 refine Tt.b (P:=λ(a:AA Int)=>AI a<=32) (QN A (λ(a:AA Int) i=>(a,i)) (λi a=>AI a<=16+i) om (λi x a d f=>?_) (λa f=>?_) K1 _ rfl om) λK2 j=>?_
 .unfold Tz;have:=d.lt';simp only[d.lt,Vp,d.ix,XJ,d.nx];exact Tt.b (rN a _ om) λm g=>Tt.p ⟨m,rfl,om⟩
 .unfold Tz;simp only[Jp,Vq];exact Tt.p ⟨_,rfl,om⟩
 refine Tt.b (P:=λ(a:AA Int×AA CF)=>AI a.2<=32/\ ∀y∈a.2,pT c y) (QN K2 (λ(a:AA Int×AA CF) i=>(a.1,a.2,i)) (λi a=>(AI a.1<=i/\AI a.2<=i)/\ ∀y∈a.2,pT c y) om (λi x a d f=>?_) (λa f=>?_) ([],[]) _ rfl sq) λb q=>Tt.p q
 .unfold VS;have:=d.lt';simp only[d.lt,Vp,d.ix,XJ,d.nx];obtain⟨⟨t,H⟩,E⟩:=f;refine Tt.b (QjC c l x h) λr G=>Qe (Tt.k λ_=>Tt.z) λb=>?_;refine Tt.b (P:=λ(m:AA Int×AA CF)=>(AI m.1<=i+1/\AI m.2<=i+1)/\ ∀y∈m.2,pT c y) (Tt.c (λ_=>Tt.b (Tt.a (by simp;omega)) λm g=>Tt.b (Tt.a (by simp;omega)) λB j=>Tt.p ⟨⟨by subst g;simp;omega,by subst j;simp;omega⟩,λy F=>?_⟩) λ_=>Tt.p gq) λm g=>Tt.p ⟨m,rfl,g⟩
  grind
 .unfold VS;simp only[Jp,Vq];exact Tt.p gq
theorem QlK(c:CB)(l:AA CF)(M:AI l<=32)(t:∀y∈l,pT c y):Tt (λn=>O0 n l) λr=>AI r<=32/\ ∀y∈r,pT c y:=by
 unfold O0;refine Tt.b (P:=λ(a:AA CF)=>AI a<=32/\ ∀y∈a,pT c y) (QN l (λ(a:AA CF) i=>(a,i)) (λi a=>AI a<=i/\ ∀y∈a,pT c y) om (λi x a d g=>?_) (λa g=>?_) [] _ rfl sq) λa d=>Tt.p d
 .unfold Ti;have:=d.lt';simp only[d.lt,Vp,d.ix,XJ,d.nx];obtain⟨G,N⟩:=g;refine Tt.b (Tt.find a om λj y f=>Qe (Tt.o f.ix trivial) λy=>Qe (Tt.o d.ix trivial) λy=>Tt.z) λj f=>?_;refine Tt.b (Tt.sl f.1 f.2 (Int.le_refl _)) λp B=>Tt.b (Tt.a (by simp;omega)) λH E=>?_;subst E;refine Tt.b (Tt.sl (Int.le_refl 0) f.1 f.2) λL J=>Tt.b (Tt.a (by simp;omega)) λq F=>Tt.p ⟨q,rfl,?_,λy m=>?_⟩
  .grind
  .subst F;simp only[VC,VA]at m;rcases m with h|h|h
   .grind
   .subst h;exact t _ d.mem
   grind
 .unfold Ti;simp only[Jp,Vq];exact Tt.p gq
theorem QpR{c:CB}(M:CB.wf c)(R:Id c)(l:AA CI)(b:Int)(E:AI l<=16)(he:Ev (λn=>HQ n c) 0):Tt (λn=>Px n c l b) λr=>AI r<=32/\ ∀y∈r,pT c y:=by
 unfold Px;have nil:AI ([]:AA CF)<=32/\ ∀y∈([]:AA CF),pT c y:=sq;refine Tt.b (uv c l E he) λS hS=>Tt.c (λ_=>Tt.p nil) λ_=>?_;refine Tt.b (P:=Fj λ(r:AA CF)=>AI r<=32/\ ∀y∈r,pT c y) (QN S.1 (λ(_:Unit) i=>i) (λ_ _=>True) om (λi x _ ha _=>?_) (λ_ _=>?_) () _ rfl trivial) λr j=>?_
 .unfold UQ;simp only[ha.lt,Vp,ha.ix,XJ,ha.nx];refine Tt.b (P:=Fj λ(r:CG Int (CG Unit (AA CF)))=>match r with|.d (.d p)=>AI p<=32/\ ∀y∈p,pT c y|_=>False) (Qv <| ?_) λr j=>?_
  .refine Tt.b (QjK c l b E he) λC hC=>Tt.b (QlK c C.2 hC.1 hC.2) λp g=>?_;obtain⟨⟨F,N⟩,_⟩:=hS.2 x ha.mem;refine Qe (Qnz M R he _) λ_=>Qe (Tt.i F N).any λd=>Qe (Tt.k λ_=>Tt.z) λroom=>?_
   .refine Tt.b (P:=λ(p:AA CF)=>AI p<=32/\ ∀y∈p,pT c y) (Tt.l (λs:AA CF×Int×Int=>(AI s.1=AI p/\0<=s.2.2/\s.2.2<=(AI p:Int))/\ ∀y∈s.1,pT c y) (λs=>((AI p:Int)-s.2.2).toNat) (λs O=>?_) (p,room,0) gq) λp g=>Tt.p g;obtain⟨X,W,B⟩:=s;obtain⟨⟨J,f,T⟩,t⟩:=O;have G:=g.1;simp only at J f T t;unfold eY;refine Tt.c (λq=>?_) λ_=>Tt.p (Q:=Fd _ _ _ _) gq;have q:=Vv q;simp only at q;have e:i64.wrap (B+1)=B+1:=Di;refine Qe (Tt.i f q).any λy=>Tt.b (Tt.i f q) λz V=>Tt.b (Tt.set f q) λm H=>Qe (Tt.i f gq).any λw=>Tt.p (Q:=Fd _ _ _ _) ?_;show((_/\_/\_)/\_)/\_;simp only[e];refine⟨⟨gq,λv L=>?_⟩,om⟩;rcases H.2 v L with h|h
    .subst h;exact t z V
    grind
  .cases r with
   |k s=>exact Tt.p ⟨(),rfl,trivial⟩
   |d s=>
    cases s with
    |k i=>grind
    |d s=>
     cases s with
     |k u=>grind
     |d p=>exact Tt.p (Q:=F9 _ _ _ _) j
 .simp_all[UQ,Tt.p]
 .cases r with
  |k s=>exact Tt.p nil
  |d s=>exact Tt.p j
def io(c:CB)(r:vE):Prop:=r.2.2.2.2.2.2.2.2.2.2.2.2.2=AE->
 LG c/\Fq {AS:=r.1,BQ:=r.2.1}/\AI r.2.2.2.2.2.2.2.2.2.2.1<=4/\AI r.2.2.2.2.2.2.2.2.2.2.2.1<=6/\(AI r.2.2.2.2.2.2.2.2.2.2.2.2.1<=32/\ ∀y∈r.2.2.2.2.2.2.2.2.2.2.2.2.1,pT c y)/\Df r.2.2.2.2.2.1
theorem Qns(c:CB)(j:CB.wf c)(l:AA CI)(b:Int):Tt (λn=>Pr n c l b) (io c):=by
 unfold Pr;obtain⟨bf,M,G⟩:=qy c j;have AF:∀{z},io c ([],[],0,0,0,0,0,0,0,0,[],[],z,AD):=λh=>absurd h sq;refine Tt.b (P:=λb=>b=AD->LG c/\AI l<=16) (Tt.b (P:=λb=>b=AE->HD c/\Ev (λn=>F_ n c) (CN c)) (Tt.e M G) λb q=>Tt.n λV=>Tt.n λO=>?_) λb q=>Tt.c (λ_=>Tt.p AF) λE=>?_
 .obtain⟨fo,L⟩:=q gq;obtain⟨v,ev,N⟩:=QjJ c j;refine Tt.b (P:=λe=>e=v) (Tt.e ev rfl) λe X=>Tt.n λW=>?_;have y:v=0:=gq;have R:=N y;have:=Vw O;exact Qe (QpQ j R 10) λ_=>Tt.p λ_=>⟨⟨j,fo,L,y▸ev,R⟩,om⟩
 obtain⟨h,g⟩:=q E;refine Tt.b (Qp0 c l g h.ref) λA hA=>Tt.b (uv c l g h.ref) λS hS=>Qe (Tt.k λ_=>Tt.z) λ_=>Tt.c (λ_=>Tt.p AF) λ_=>?_;refine Tt.b (P:=Fj (io c)) (QN S.1 (λ(_:Unit) i=>i) (λ_ _=>True) om (λi x _ d _=>?_) (λ_ _=>?_) () _ rfl trivial) λr t=>?_
 .unfold VV;simp only[d.lt,Vp,d.ix,XJ,d.nx];refine Tt.b (P:=Fj λ(r:CG Int (CG Unit vE))=>match r with|.d (.d p)=>io c p|_=>False) (Qv <| ?_) λr t=>?_
  .refine Tt.b (X? c l x.BB g h.ref) λH hH=>Tt.b (QpR h.wf h.rr l _ g h.ref) λP hP=>Tt.b (mM l g) λC hC=>?_;have sx:=(hS.2 x d.mem).2;have F:=hP.1;refine Tt.b (P:=λ(a:AA Ae)=>True) (QN C (λ(a:AA Ae) i=>(a,i)) (λi a=>AI a<=i) om (λi x a d J=>?_) (λa J=>?_) [] _ rfl (XT _)) λD _=>Qe (W? P om) λe=>Tt.b (QpT h hA x e H D) λf Y=>Tt.p ?_
   .unfold UZ;have:=d.lt';simp only[d.lt,Vp,d.ix,XJ,d.nx];exact Qe (Tt.k λ_=>Tt.z) λ_=>Tt.b (P:=λ(m:AA Ae)=>AI m<=i+1) (Tt.c (λ_=>Tt.b (Tt.a (by simp;omega)) λm B=>Tt.p gq) λ_=>Tt.p om) λm B=>Tt.p ⟨m,rfl,B⟩
   .simp_all[UZ,Tt.p]
   .intro T
    grind
  .cases r with
   |k s=>exact Tt.p ⟨(),rfl,trivial⟩
   |d s=>
    cases s with
    |k i=>grind
    |d s=>
     cases s with
     |k u=>grind
     |d p=>exact Tt.p (Q:=F9 _ _ _ _) t
 .simp_all[VV,Tt.p]
 .cases r with
  |k s=>exact Tt.p AF
  |d s=>exact Tt.p t
set_option maxRecDepth 10000
theorem Q?:W0 300=AC true:=by kernel_rfl
theorem Qq7{α:Type}{f g:Nat->AB α}{v:α}(h:Ev f v)(e:∃N,∀n,N<=n->g n=f n):Ev g v:=by
 obtain⟨N,j⟩:=h;obtain⟨M,d⟩:=e;exact⟨max N M,λn m=>gq⟩
def NW(a:Int)(x:CF):Int:=i64.wrap (a+x.As)
def FP(P:AA CF):Int:=P.foldl NW 0
theorem QlC(a:Int):i64.wrap (i64.wrap a+0)=i64.wrap a:=by
 simp only[mJ];omega
theorem Qn8(P:AA CF)(y:CF)(h:y.As=0):FP (P++[y])=FP P:=by
 unfold FP;rw[XC];show i64.wrap (P.foldl NW 0+y.As)=_;rw[h];rcases List.eq_nil_or_concat P with e|⟨Q,x,e⟩
 .subst e;rfl
 .subst e;rw[List.concat_eq_append,XC];exact QlC _
theorem QqM(P:AA CF)(d:AI P<=1000):Ev (λn=>J9 n P) (FP P):=by
 unfold J9;refine Ea (YM P (λa x=>NW a x) 0 (λa i=>(a,(i:Int))) (λa=>a) om rfl (λi x a ha _=>?_) ?_) (Qa _)
 .unfold L8;simp only[ha.lt,Vp,ha.ix,XJ,ha.nx];exact Qa _
 simp_all[L8,Qa]
def Cp(c:CB)(k:CE)(s:AP)(x:AA CM)(l:AA Ae)(P:AA CF)(p:Int):Ui:={A0:=c,Bj:=k,Ag:=s,Bv:=x,Bq:=l,BP:=P,BY:=FP P,Aj:=p}
theorem QqE(c:CB)(k:CE)(s:AP)(x:AA CM)(l:AA Ae)(P:AA CF)(p:Int)(d:AI P<=1000):Ev (λn=>PY n c k s x l P p) (Cp c k s x l P p):=by
 unfold PY;refine Ea (YM P (λa y=>NW a y) 0 (λa i=>({Cp c k s x l P p with BY:=a},(i:Int))) (λa=>{Cp c k s x l P p with BY:=a}) om rfl (λi y a ha _=>?_) ?_) (Qa _)
 .unfold T_;simp only[ha.lt,Vp,ha.ix,XJ,ha.nx];exact Qa _
 simp_all[T_,Qa]
def Hw(R:AA Int×Int)(p:Int):AB Int:=bif (R.2 != 0)||(AG (p< -1)||AG ((AI R.1:Int)<=p))then AF else AC (bif p== -1 then(AI R.1:Int)-1 else p)
theorem tw{q:Ui}(h:Mu q.A0):Ev (λn=>JX n q) (match Hw (CX q.A0 q.Ag.AN q.BY) q.Aj with|none=>(q,90)|some p=>({q with Aj:=p},0)):=by
 unfold JX Hw;have f:=l6 h.good h.ty q.Ag.AN q.BY;have d:(CX q.A0 q.Ag.AN q.BY).2=0->(CX q.A0 q.Ag.AN q.BY).1.length<=256:=λz=>(mf h.good z).2;generalize CX q.A0 q.Ag.AN q.BY=R at f d;refine Ea f (Ea (QI λ_=>QI λ_=>Qa _) ?_);cases j:((R.2 != 0)||(AG (q.Aj< -1)||AG ((AI R.1:Int)<=q.Aj)))with
 |true=>exact Qa _
 |false=>
  simp only[XX]at j;have g:R.2=0:=gq;have:=d g;refine Q1 ?_;rw[QJ (n:=(AI R.1:Int)-1) om om];cases(q.Aj== -1)with
  |true=>exact Qa _
  |false=>exact Qa _
theorem L3{c:CB}{k:CE}{s:AP}{x:AA CM}{l:AA Ae}{P:AA CF}{p:Int}{pv:AB Int}(h:Ev (λn=>JX n (Cp c k s x l P p)) (match pv with|none=>(Cp c k s x l P p,90)|some p'=>({Cp c k s x l P p with Aj:=p'},0)))(hP:AI P<=100){V:AA CW×Int}(g:Ev (λn=>HF n c k s (FP P) x l) V){o:AA CC×Int}
  (d:Ev (λn=>(bif (bif V.2 != 0 then V.2 != 2 else AD)then AC ([],V.2)else(match(generalizing:=false) pv with
   |none=>AC ([],90)
   |some p'=>bif V.2==2 then(K4 n {Cp c k s x l P p with Aj:=p'}).bind λr=>AC (r,0)else(iter (Ie n V ({Cp c k s x l P p with Aj:=p'},0)) n ([],0):AB (AA CC)).bind λL=>(JZ n L).bind λr=>AC (r,0)):AB (AA CC×Int))) o):
  Ev (λn=>NA n c k s x l P p) o:=by
 unfold NA;refine Ea (QqE c k s x l P p om) (Ea g (Ea (v:=bif V.2 != 0 then V.2 != 2 else AD) (JS (λ_=>Qa _) λ_=>Qa _) ?_));cases f:(bif V.2 != 0 then V.2 != 2 else AD)with
 |true=>rw[f]at d;exact d
 |false=>
  rw[f]at d;refine Q1 (Ea h ?_);cases pv with
  |none=>exact d
  |some p'=>exact d
theorem qE{q:Ui}(f:Ev (λn=>F_ n q.A0) (CN q.A0))(h:CN q.A0≠0):Ev (λn=>JX n q) (q,90):=by
 unfold JX Ij II J8;have d:(CN q.A0 != 0)=true:=bne_iff_ne.2 h;refine Ea (v:=([],CN q.A0)) (Ea (v:=(CN q.A0,[])) (Ea (v:=CS.c0 (CN q.A0)) (Ea (v:=(Uu,CN q.A0)) (Ea f (KU d (Qa _))) (KU d (Qa _))) (Qa _)) (KU d (Qa _))) (Ea (v:=AE) (KU d (Qa _)) (Qa _))
theorem QoP{c:CB}(h:LG c)(hE:CN c≠0){k:CE}(j:Fq k)(s:AP)(e:Int)(x:AA CM)(t:AI x<=4)(l:AA Ae)(m:AI l<=6):Ev (λn=>HF n c k s e x l) ([],CN c):=by
 unfold HF;have f:(CN c != 0)=true:=bne_iff_ne.2 hE;have g:Dx c k s e x l=.inl (CN c):=by unfold Dx;rw[f];rfl
 have d:=hY h.ty (λq=>absurd q hE) j s e x om l om;rw[g]at d;exact Ea d (KU f (Qa _))
theorem _P{n:Nat}{q:Ui}{P P':AA CF}(h:KX n P' q.Aj=KX n P q.Aj)(w:CW):HR n {q with BP:=P'} w=HR n {q with BP:=P} w:=by
 show(KX n P' q.Aj).bind _=(KX n P q.Aj).bind _;rw[h];rfl
theorem si(q:Ui)(hP:AI q.BP<=100):Tt (λn=>K4 n q) λ_=>True:=by
 unfold K4;exact Qe (Tt.e (Zk _ _ om) trivial) λ_=>Tt.c (λ_=>Qe (Tt.z) λ_=>Tt.z) λ_=>Qe (Tt.z) λ_=>Tt.z
theorem _V{R:AA Int×Int}{p d:Int}(h:Hw R p=AC d)(f:2<=AI R.1):0<=d/\d=(bif p== -1 then(AI R.1:Int)-1 else p):=by
 unfold Hw at h
 grind
end Go.Sw
