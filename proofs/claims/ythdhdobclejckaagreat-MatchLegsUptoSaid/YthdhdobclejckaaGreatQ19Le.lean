/- The plain laws that a law needs, with no program in sight. -/
import Derived.Test.YthdhdobclejckaaGreatW19Le
set_option linter.unusedVariables false
set_option linter.unusedSimpArgs false
namespace Go.Sw
open List(map)
open Int(toNat)
open Go.IntKind(i64 u64 u8)
def inR(lo hi x:Int):Bool:=decide (lo<=x)&&decide (x<=hi)
theorem Qfu(lo hi:Int)(l:List Int)(a:l.length<=4611686018427387904):Ev (λn=>F_a n lo hi l) (l.all (inR lo hi)):=by
 have h:Ev (λn=>F_dx n l lo hi) (l.any λx=> !inR lo hi x):=by
  refine Ev.contains l _ (λn x=>F_ej n x lo hi) a λx _=>?_;refine Ea ((Ql λh=>Qa _).eq ?_) (Qa _);unfold inR
  grind
 refine Ea h ((Qa _).eq ?_)
 grind
def okN(c:Nat):Bool:=(decide (97<=c)&&decide (c<=122))||(decide (48<=c)&&decide (c<=57))||decide (c=95)
def okAN(c:Nat):Bool:=decide (97<=c)&&decide (c<=122)
def okC(c:UInt8):Bool:=okN c.toNat
def okA(c:UInt8):Bool:=okAN c.toNat
def kwL:List (List UInt8):=[[99,111,117,114,115,101],[109,97,116,115],[115,116,97,114,116],[112,97,115,115],[101,110,100],[108,101,103],[116,111],[100,105,115,116,97,110,99,101],[103,117,110],[99,104,105,112],[115,108,111,116],[108,97,112,115],[108,97,112],[99,117,116,111,102,102],[101,120,116,114,97],[119,97,118,101],[111,102,102,101,110,99,101],[111,117,116],[99,97,116,101,103,111,114,121],[112,114,105,122,101],[97,108,108],[116,105,101,115],[105,102],[101,108,115,101],[97,110,100],[111,114],[110,111,116],[111,108,100,101,114],[121,111,117,110,103,101,114],[98,105,98],[100,114,97,119],[102,105,101,108,100],[115,104,111,114,116],[102,97,117,108,116,115],[109,105,115,115,101,115],[115,116,114,97,121,115],[119,105,110,100,111,119],[114,101,115,105,100,117,97,108],[100,114,105,102,116],[112,114,111,116,101,115,116],[102,101,101],[100,101,97,100,108,105,110,101]]
theorem QkZ(c d:Bool):(bif c then some c else some d)=some (c||d):=by grind
theorem QiG(c d:Bool):(bif c then some true else some d)=some (c||d):=by grind
theorem Qe3(n:Nat)(s:List UInt8):F_bu n s=some (kwL.contains s):=by
 unfold F_bu;simp only[QkZ,QiG,XI];simp only[kwL,List.contains_cons,List.contains_nil,Bool.or_assoc]
def kwsOf:List UInt8->List (List UInt8)
 |[]=>[]
 |b::l=>(bif b==32&& !(l.dropWhile λc=>c != 32).isEmpty then[l.takeWhile λc=>c != 32]else[])++kwsOf l
theorem Qdl:∀(l s:List UInt8),(∀c∈s,c≠32)->(s++[32]).isPrefixOf l=((l.takeWhile λc=>c != 32)==s&& !(l.dropWhile λc=>c != 32).isEmpty)
 |[],s,h=>by simp
 |b::l,[],h=>by
  by_cases e:b=32
  .subst e;simp
  .have e1:=by simpa using e
   have a:(32==b)=false:=by grind
   simp[List.isPrefixOf,e1,a]
 |b::l,c::s,h=>by
  have d:=h c (by simp);have f:=Qdl l s (by grind)
  grind[List.takeWhile_cons,List.dropWhile_cons]
theorem contains_cons(b:UInt8)(l t:List UInt8)(a:t≠[]):Lib.contains (b::l) t=(t.isPrefixOf (b::l)||Lib.contains l t):=by
 unfold Lib.contains;rw[show Lib.index (b::l) t=if t.isPrefixOf (b::l)then 0 else if Lib.index l t== -1 then-1 else Lib.index l t+1 from rfl]
 grind
theorem QbH(s:List UInt8)(h:∀c∈s,c≠32):∀l,Lib.contains l (32::(s++[32]))=(kwsOf l).contains s
 |[]=>by rfl
 |b::l=>by
  rw[contains_cons b l _ (by simp),QbH s h l];simp only[kwsOf,List.isPrefixOf,Qdl l s h]
  grind
def wordsL:List UInt8:=[32,99,111,117,114,115,101,32,109,97,116,115,32,115,116,97,114,116,32,112,97,115,115,32,101,110,100,32,108,101,103,32,116,111,32,100,105,115,116,97,110,99,101,32,103,117,110,32,99,104,105,112,32,115,108,111,116,32,108,97,112,115,32,108,97,112,32,99,117,116,111,102,102,32,101,120,116,114,97,32,119,97,118,101,32,111,102,102,101,110,99,101,32,111,117,116,32,99,97,116,101,103,111,114,121,32,112,114,105,122,101,32,97,108,108,32,116,105,101,115,32,105,102,32,101,108,115,101,32,97,110,100,32,111,114,32,110,111,116,32,111,108,100,101,114,32,121,111,117,110,103,101,114,32,98,105,98,32,100,114,97,119,32,102,105,101,108,100,32,115,104,111,114,116,32,102,97,117,108,116,115,32,109,105,115,115,101,115,32,115,116,114,97,121,115,32,119,105,110,100,111,119,32,114,101,115,105,100,117,97,108,32,100,114,105,102,116,32,112,114,111,116,101,115,116,32,102,101,101,32,100,101,97,100,108,105,110,101,32]
theorem QmU:kwsOf wordsL=kwL:=by decide+kernel
def classTab:List Int:=(List.range 256).map λi=>if 97<=i/\i<=122\/65<=i/\i<=90 then 2 else if 48<=i/\i<=57 then 3 else if i∈[123,125,40,41,91,93,59,44,61,60,62]then 4 else if i∈[32,9,10,13]then 1 else 0
theorem QhR:Ev F_cx classTab:=by
 unfold F_cx;refine Ea (QbX (step:=F_gb 0) 40 (b:=(iter (F_gb 0) 40 (List.replicate 256 0,97)).getD []) (by decide+kernel)) ?_;refine Ea (QbX (step:=F_ih 0) 40 (b:=(iter (F_ih 0) 40 ((iter (F_gb 0) 40 (List.replicate 256 0,97)).getD [],48)).getD []) (by decide+kernel)) ?_;generalize hb:(iter (F_ih 0) 40 ((iter (F_gb 0) 40 (List.replicate 256 0,97)).getD [],48)).getD []=b2;refine Ea (QbX (step:=F_iw 0) 40 (b:=(iter (F_iw 0) 40 (b2,0)).getD []) (by subst hb;decide+kernel)) ?_;refine Ea (QbX (step:=F_jg 0) 40 (b:=classTab) (by subst hb;decide+kernel)) ?_;exact EA (by decide+kernel)
theorem Qjq:((List.range 256).all λi=> !okN i||decide (classTab[i]?=some (if okAN i then 2 else if i=95 then 0 else 3)))=true:=by decide+kernel
theorem QkY{c:UInt8}(h:okC c=true):Qen 256 classTab (c.toNat:Int)=some (if okA c then 2 else if c.toNat=95 then 0 else 3):=by
 have a:=Xs.1 Qjq c.toNat (List.mem_range.2 c.toNat_lt);unfold okC at h;rw[h]at a;simp[Xg,Bool.false_or,Vo]at a;unfold Qen;rw[show Nat.beq classTab.length 256=true by decide+kernel,Vm,Qt a];rfl
def goodS(s:List UInt8):Bool:=decide (1<=s.length)&&decide (s.length<=24)&&(s.head?).any okA&&s.all okC
def isNameS(s:List UInt8):Bool:=goodS s&& !kwL.contains s
theorem Qje(s:List UInt8)(h:goodS s=true):Ev (λn=>F_dn n s) true:=by
 unfold goodS at h;simp only[XV,Vo,Xs]at h;obtain⟨⟨⟨d,j⟩,k⟩,e⟩:=h;unfold F_dn;refine Ea QhR ?_;refine QO (v:=List.replicate 256 0) (by decide+kernel) ?_;refine QO (v:=classTab) (by decide+kernel) ?_;refine Ea (v:=Ctl.cont ()) (Ev.iter (λi=>(i:Int)) s.length rfl (λi f=>?_) ?_) ?_
 .have a:=Y7 (x:=s[i]) (by omega) (XJ f);have g:=e _ a.mem;unfold F_jc;simp only[a.lt,Vm,a.ix,XI,QkY g,a.nx];cases i with
  |zero=>
   have:okA s[0]=true:=by
    cases s with
    |nil=>simp at d
    |cons c r=>grind
   simp[this];exact Qa _
  |succ i=>
   grind[Qa]
 .simp_all[F_jc,Qa]
 .refine EA ?_;cases s with
  |nil=>simp at d
  |cons c r=>rfl
theorem Qi8{s:List UInt8}(h:goodS s=true):∀c∈s,c≠32:=by
 unfold goodS at h;simp[XV,Xs]at h;rintro c a rfl;exact absurd (h.2 _ a) (by decide)
theorem Qko{s:List UInt8}(h:goodS s=true):s.length<=24:=by
 simp_all[goodS]
theorem QhT(s:List UInt8)(h:goodS s=true):Ev (λn=>F_eg n s) (kwL.contains s):=by
 refine Ea (Ea (Qje s h) (QeZ ?_)) (Qa _);have a:=Qko h;refine QO (by unfold cat;rw[XR (by simp;omega)];rfl) (QO (by unfold cat;rw[XR (by simp;omega)];rfl) ?_);refine QO ?_ (Qa _);show Qep wordsL ([32]++s++[32])=some (kwL.contains s);unfold Qep;rw[show Nat.blt wordsL.length 4294967281=true by decide+kernel,Vm]
 grind[QbH,Qi8,QmU]
theorem ch_lt(c:UInt8)(k:Nat):decide ((c.toNat:Int)<(k:Int))=decide (c.toNat<k):=by
 simp
theorem badC(c:UInt8):(bif decide ((c.toNat:Int)<97)then(bif decide ((c.toNat:Int)<48)then some ((c.toNat:Int) != 95)else(bif decide (57<(c.toNat:Int))then some ((c.toNat:Int) != 95)else some false))else(bif decide (122<(c.toNat:Int))then(bif decide ((c.toNat:Int)<48)then some ((c.toNat:Int) != 95)else(bif decide (57<(c.toNat:Int))then some ((c.toNat:Int) != 95)else some false))else some false))=some (!okC c):=by
 unfold okC okN;generalize c.toNat=k;have e:((k:Int) != 95)= !decide (k=95):=by
  grind
 grind
theorem Qfm(n:Nat)(s:List UInt8):(bif decide ((s.length:Int)<1)then some true else(bif decide (24<(s.length:Int))then some true else(idx s 0).bind λx10=>(bif decide ((x10.toNat:Int)<97)then some true else(idx s 0).bind λx12=>some (decide (122<(x12.toNat:Int))))))=some (!(decide (1<=s.length)&&decide (s.length<=24)&&(s.head?).any okA)):=by
 cases s with
 |nil=>rfl
 |cons c r=>
  by_cases h:(c::r).length<=24
  .rw[Qu (show¬24<((c::r).length:Int)by omega),Vn];have a:idx (c::r) 0=some c:=rfl;simp[a,XI];simp[XZ]at h;have f:r.length<=23:=by omega
   simp[List.head?_cons,Option.any_some,okA,okAN];rw[show(97:Int)=(97:Nat)from rfl,ch_lt];by_cases e:c.toNat<97
   .grind
   .have d:97<=c.toNat:=by omega
    simp[e,d,f];by_cases q:c.toNat<=122
    iterate 2 grind
  grind
theorem Qfy(s:List UInt8)(h:s.length<=1048576):Ev (λn=>F_e n s) (isNameS s):=by
 refine Ea (EA (Qfm 0 s)) ?_;unfold isNameS;cases g:(decide (1<=s.length)&&decide (s.length<=24)&&(s.head?).any okA)with
 |false=>
  have:goodS s=false:=by unfold goodS;rw[g];rfl
  rw[this];exact Qa _
 |true=>
  have f:goodS s=s.all okC:=by unfold goodS;rw[g];rfl
  refine Ea (YX s (λc=> !okC c) (λi=>(i:Int)) (Ctl.done false) (Ctl.cont ()) (by omega) rfl (λi x a d=>?_) (λi x a d=>?_) ?_) ?_
  .unfold F_he;simp only[a.lt,a.ix,XI,badC,d,a.nx];exact Qa _
  .unfold F_he;simp only[a.lt,a.ix,XI,badC,d];exact Qa _
  .simp_all[F_he,Qa]
  .rw[f];have e:s.any (λc=> !okC c)= !s.all okC:=by grind
   rw[e];cases q:s.all okC with
   |true=>
    exact Ea (QhT s (f.trans q)) (Qa _)
   |false=>
    exact Qa _
theorem Qbh(s:List UInt8)(j:s.length<=1048576):Ev (λn=>F_bn n s) (isNameS s):=by
 refine Ea (EA (Qfm 0 s)) ?_;unfold isNameS;cases a:(decide (1<=s.length)&&decide (s.length<=24)&&(s.head?).any okA)with
 |false=>
  have:goodS s=false:=by unfold goodS;rw[a];rfl
  rw[this];exact Qa _
 |true=>
  have g:goodS s=s.all okC:=by unfold goodS;rw[a];rfl
  cases s with
  |nil=>simp at a
  |cons c r=>
   have h:okC c=true:=by
    simp_all[okA,okC,okN,okAN]
   have hr:=by
    simp[XV,Vo,XZ]at a;omega
   have k:∀(i:Nat) (x:UInt8),At r i x->decide (((i+1:Nat):Int)<(c::r).length)=true/\idx (c::r) (i+1:Nat)=some x/\i64.wrap ((i+1:Nat)+1)=i+1+1:=by
    intro i x d;have:=d.lt';exact⟨Vr (by simp;omega),Qt (by simpa using d.get),QV (by omega)⟩
   refine Ea (YX r (λc=> !okC c) (λi=>((i+1:Nat):Int)) (Ctl.done false) (Ctl.cont ()) (by omega) rfl (λi x d f=>?_) (λi x d f=>?_) ?_) ?_
   iterate 2 grind[F_gt,badC,Qa]
   .unfold F_gt;rw[Qu (by simp),Vn];exact Qa _
   .rw[g];have e:r.any (λc=> !okC c)= !(c::r).all okC:=by rw[List.all_cons,h,Vw,List.not_all_eq_any_not]
    rw[e];cases q:(c::r).all okC with
    |true=>
     exact Ea (EA (Qe3 0 _)) (Qa _)
    |false=>
     exact Qa _
def diffS:List (List UInt8)->List (List UInt8)->Bool
 |_,[]=>true
 |seen,x::r=>isNameS x&& !seen.contains x&&diffS (seen++[x]) r
theorem QeJ(l:List (List UInt8))(i:Nat)(x:List UInt8)(h:At l i x):diffS (l.take i) (l.drop i)=(isNameS x&& !(l.take i).contains x&&diffS (l.take (i+1)) (l.drop (i+1))):=by
 rw[h.drop,h.take];rfl
theorem QbE{α:Type}(l:List α)(a:α->List UInt8)(g:Nat->α->Option Unit)(hg:∀n x,g n x=some ())(p:l.length<=1048576)(m:∀x∈l,(a x).length<=1048576):
  Ev (λn=>((iter (λs:(List (List UInt8×Bool))×Int=>bif decide (s.2<(l.length:Int))then(idx l s.2).bind λx35=>(g n x35).bind λr36=>((F_e n (a x35)).bind λr42=>(bif (!r42)then some true else(some (QA s.1 (a x35) false)).bind λv44=>some v44):Option Bool).bind λb40=>(bif b40 then some (.done (.done false))else(some (QW s.1 (a x35) true)).bind λm46=>some (.cont (m46,i64.wrap (s.2+1))))else some (.done (.cont ()))) n ([],0):Option (Ctl Unit Bool)).bind λb28=>
   match b28 with
   |.cont _=>some true
   |.done s=>some s:Option Bool)) (diffS [] (l.map a)):=by
 have h:l.length<=4611686018427387904:=by omega
 have j:(l.map a).length<=4611686018427387904:=by grind
 have f:=Qbm (B:=Ctl Unit Bool) l (step:=λn s=>bif decide (s.2<(l.length:Int))then(idx l s.2).bind λx35=>(g n x35).bind λr36=>((F_e n (a x35)).bind λr42=>(bif (!r42)then some true else(some (QA s.1 (a x35) false)).bind λv44=>some v44)).bind λb40=>(bif b40 then some (.done (.done false))else(some (QW s.1 (a x35) true)).bind λm46=>some (.cont (m46,i64.wrap (s.2+1))))else some (.done (.cont ())))
  (λi=>(Ye a true (l.take i),i)) (λi=>bif diffS ((l.map a).take i) ((l.map a).drop i)then .cont ()else .done false) h rfl (λi x e=>?_) ?_
 .refine Ea f ?_
  grind[Qa]
 .have ha2:=Y7 j (by rw[Xo,e.get];rfl);simp only[QeJ _ _ _ ha2];have d:Ev (λn=>(F_e n (a x)).bind λr42=>(bif (!r42)then some true else(some (QA (Ye a true (l.take i)) (a x) false)).bind λv44=>some v44)) (!(isNameS (a x)&& !((l.map a).take i).contains (a x))):=by
   refine Ea (Qfy (a x) (m x e.mem)) ?_;cases isNameS (a x)with
   |false=>exact Qa _
   |true=>
    simp_all[Qa,Qdn]
  cases k:(isNameS (a x)&& !((l.map a).take i).contains (a x))with
  |true=>
   rw[k]at d;refine .inl ⟨?_,by simp⟩;simp only[e.lt,e.ix,XI,hg];refine Ea d ?_;simp[e.nx];rw[e.take,QfT];exact Qa _
  |false=>
   rw[k]at d;refine .inr ?_;simp only[e.lt,e.ix,XI,hg];refine Ea d ?_;exact Qa _
 .simp[Qa4];rw[show(l.map a).drop l.length=[]by simp];exact Qa _
theorem Qda{α:Type}{l:List α}{x:α}(h:l.length<=140737488):app l [x]=some (l++[x]):=Ql8 l x (by omega)
theorem QdE(l:List (List UInt8))(s:l.length<=1048576)(k:∀x∈l,x.length<=1048576):Ev (λn=>F_n n l) (diffS [] l):=by
 have h:l.length<=4611686018427387904:=by omega
 refine Ea (Qbm l (λi=>(i:Int)) (λi=>bif diffS (l.take i) (l.drop i)then .cont ()else .done false) h rfl (λi x a=>?_) ?_) ?_
 .simp only[QeJ _ _ _ a];unfold F_it;simp only[a.lt,a.ix,XI];cases m:isNameS x with
  |false=>
   exact .inr (Ea ((Qbh x (k x a.mem)).eq m) (Qa _))
  |true=>
   have r:=a.lt';have inner:Ev (λn=>iter (F_fs n l i) n 0) (bif (l.take i).contains x then Ctl.done (Ctl.done (Ctl.done false))else Ctl.cont ()):=by
    have e:(l.take i).contains x=(l.take i).any λy=>y==x:=by
     grind
    rw[e];have p:(l.take i).length=i:=by simp;omega
    refine YX (l.take i) (λy=>y==x) (λi=>(i:Int)) _ _ (by omega) rfl (λj y d f=>?_) (λj y d f=>?_) ?_
    .have g:=d.lt';have hjg:=by
      have:=d.get;rw[List.getElem?_take]at this;split at this
      .exact this
      .cases this
     unfold F_fs;rw[Qv (show(j:Int)<i by omega)];simp only[Qt hjg,a.ix,XI,f,d.nx];exact Qa _
    .have g:=d.lt';have hjg:=by
      have:=d.get;rw[List.getElem?_take]at this;split at this
      .exact this
      .cases this
     unfold F_fs;rw[Qv (show j<(i:Int)by omega)];simp only[Qt hjg,a.ix,XI,f];exact Qa _
    grind[F_fs,Qa]
   cases q:(l.take i).contains x with
   |true=>
    rw[q]at inner;exact .inr (Ea ((Qbh x (k x a.mem)).eq m) (Qs (Ea inner (Qa _))))
   |false=>
    rw[q]at inner;refine .inl ⟨Ea ((Qbh x (k x a.mem)).eq m) (Qs (Ea inner ?_)),by simp⟩;simp only[a.nx];exact Qa _
 .unfold F_it;simp only[Qa4,Xr];exact Qa _
 grind[Qa]
theorem Qac{α β:Type}(l:List α)(f:α->β)(k:l.length<=140737488):Ev (λn=>iter (λs:(List β)×Int=>bif decide (s.2<(l.length:Int))then(idx l s.2).bind λx15=>(app s.1 [f x15]).bind λl16=>some (Ctl.cont (l16,i64.wrap (s.2+1)))else some (Ctl.done s.1)) n (([]:List β),(0:Int))) (l.map f):=by
 have e:∀l:List α,l.foldl (λa x=>a++[f x]) []=l.map f:=by
  intro l;have h:∀(l:List α) (a:List β),l.foldl (λa x=>a++[f x]) a=a++l.map f:=by
   intro l
   induction l with
   |nil=>simp
   |cons x l j=>grind
  grind
 rw[<- e l];refine Js l (λa x=>a++[f x]) [] (λa i=>(a,(i:Int))) (λa=>a) (by omega) rfl (λi x a d g=>?_) ?_
 .rw[e]at g;have:a.length<=140737488:=by grind
  simp only[d.lt,d.ix,Qda this,d.nx];exact Qa _
 .simp[Qa4];exact Qa _
def namesS(c:Course):Bool:=isNameS c.Name&&(diffS [] (c.Mats.map (·.Name))&&(diffS [] (c.Distances.map (·.Name))&&(diffS [] (c.Waves.map (·.Name))&&(diffS [] (c.Offences.map (·.Name))&&diffS [] (c.Categories.map (·.Name))))))
structure CourseOk (c:Course):Prop where
 name:c.Name.length<=1048576
 mats:c.Mats.length<=1048576
 matsN:∀x∈c.Mats,x.Name.length<=1048576
 legs:c.Legs.length<=1048576
 dist:c.Distances.length<=1048576
 distN:∀x∈c.Distances,x.Name.length<=1048576
 cut:∀x∈c.Distances,x.Cutoffs.length<=1048576
 wave:c.Waves.length<=1048576
 waveN:∀x∈c.Waves,x.Name.length<=1048576
 off:c.Offences.length<=1048576
 offN:∀x∈c.Offences,x.Name.length<=1048576
 cat:c.Categories.length<=1048576
 catN:∀x∈c.Categories,x.Name.length<=1048576
 prize:c.Prizes.length<=1048576
theorem QkD(c:Course)(w:CourseOk c):Ev (λn=>F_dt n c) (namesS c):=by
 refine Ea (Ea (Qfy c.Name w.name) (Ei λ_=>?_)) (Qa _);have e:Ev (λn=>F_fi n c.Mats) (diffS [] (c.Mats.map (·.Name))):=by exact QbE c.Mats (·.Name) F_ez (λ_ _=>rfl) w.mats w.matsN
 have a:Ev (λn=>F_ei n c.Distances) (diffS [] (c.Distances.map (·.Name))):=by exact QbE c.Distances (·.Name) F_er (λ_ _=>rfl) w.dist w.distN
 have f:Ev (λn=>F_em n c.Waves) (diffS [] (c.Waves.map (·.Name))):=by exact QbE c.Waves (·.Name) F_gd (λ_ _=>rfl) w.wave w.waveN
 have d:Ev (λn=>F_ey n c.Offences) (diffS [] (c.Offences.map (·.Name))):=by exact QbE c.Offences (·.Name) F_fq (λ_ _=>rfl) w.off w.offN
 have g:Ev (λn=>F_fn n c.Categories) (diffS [] (c.Categories.map (·.Name))):=by exact QbE c.Categories (·.Name) F_fa (λ_ _=>rfl) w.cat w.catN
 refine Ea e (Ei λ_=>(Ea a (Ei λ_=>?_)));refine Ea f (Ei λ_=>?_);exact Ea d (Ei (by grind))
structure Short (c:Course):Prop where
 mats:c.Mats.length<=140737488
 dist:c.Distances.length<=140737488
 wave:c.Waves.length<=140737488
 off:c.Offences.length<=140737488
 cat:c.Categories.length<=140737488
theorem Qg1(c:Course)(w:CourseOk c)(s:Short c):Ev (λn=>F_ex n c) (namesS c):=by
 refine Ea (Qac c.Mats (·.Name) s.mats) (Ea (Qac c.Distances (·.Name) s.dist) ?_);refine Ea (Qac c.Waves (·.Name) s.wave) (Ea (Qac c.Offences (·.Name) s.off) ?_);refine Ea (Qac c.Categories (·.Name) s.cat) (Ea ?_ (Qa _));refine Ea (Qbh c.Name w.name) (Ei λ_=>?_);have mk:∀{α:Type} (l:List α) (nm:α->List UInt8),l.length<=1048576->(∀x∈l,(nm x).length<=1048576)->Ev (λn=>F_n n (l.map nm)) (diffS [] (l.map nm)):=by
  simp_all[QdE]
 refine Ea (mk c.Mats (·.Name) w.mats w.matsN) (Ei λ_=>(Ea (mk c.Distances (·.Name) w.dist w.distN) (Ei λ_=>?_)));refine Ea (mk c.Waves (·.Name) w.wave w.waveN) (Ei λ_=>(Ea (mk c.Offences (·.Name) w.off w.offN) (Ei λ_=>?_)));exact Ea (mk c.Categories (·.Name) w.cat w.catN) (Qa _)
theorem QaC{n:Nat}(h:n<=1048576):i64.wrap ((n:Int)-1)=(n:Int)-1:=Qj (by omega) (by omega)
theorem Jq(x lo hi:Int):Ev (λn=>F_b n x lo hi) (inR lo hi x):=by
 exact Ea (Ei λ_=>Qa _) (Qa _)
theorem QeF(c:Course)(w:CourseOk c)(x:Int):Ev (λn=>F_g n c x) (inR 0 ((c.Mats.length:Int)-1) x):=by
 unfold F_g;rw[QaC w.mats];exact Ea (Jq _ _ _) (Qa _)
mutual
def szP:Part->Nat
 |⟨_,_,ps⟩=>1+szPs ps
def szPs:List Part->Nat
 |[]=>0
 |p::r=>szP p+szPs r
end
theorem YB(p:Part):szP p=1+szPs p.Parts:=by cases p;rfl
theorem YO{p:Part}:∀{l:List Part},p∈l->szP p<=szPs l
 |q::r,h=>by
  simp[szPs];rcases X5.1 h with rfl|h
  .omega
  .have:=YO h;omega
mutual
def partS(k:Int):Part->Bool
 |⟨m,laps,ps⟩=>bif laps==0 then inR 0 k m&&((ps.length:Int)==0)else inR 1 64 laps&&((m==0)&&(decide (0<(ps.length:Int))&&partsS k ps))
def partsS(k:Int):List Part->Bool
 |[]=>true
 |p::r=>partS k p&&partsS k r
end
theorem QaW(k:Int)(p:Part):partS k p=bif p.Laps==0 then inR 0 k p.Mat&&((p.Parts.length:Int)==0)else inR 1 64 p.Laps&&((p.Mat==0)&&(decide (0<(p.Parts.length:Int))&&partsS k p.Parts)):=by cases p;rfl
theorem YZ(k:Int):∀l:List Part,partsS k l=l.all (partS k)
 |[]=>rfl
 |p::r=>by simp[partsS,List.all_cons,YZ k r]
theorem Q9{p:Part}(h:Part.wf p):p.Parts.length<=1048576/\ ∀x∈p.Parts,Part.wf x:=by
 cases p
 grind[Part.wf,QcL]
theorem QF(lo hi x:Int):Ev (λn=>F_a n lo hi [x]) (inR lo hi x):=(Qfu lo hi [x] (by simp)).eq (by simp)
theorem QaF(lo hi x y:Int):Ev (λn=>F_a n lo hi [x,y]) (inR lo hi x&&inR lo hi y):=(Qfu lo hi [x,y] (by simp)).eq (by simp)
theorem QkC(k:Int):∀(m:Nat) (l:List Part),szPs l<=m->l.length<=1048576->(∀x∈l,Part.wf x)->Ev (λn=>F_ae n l k) (partsS k l):=by
 intro m
 induction m with
 |zero=>
  intro l a f d;cases l with
  |nil=>
   refine Yx ?_;exact Je [] (partS k) (λn x=>F_da (F_ae n) n x k) (by simp) (by simp)
  |cons p r=>
   simp only[szPs,YB]at a;omega
 |succ m j=>
  intro l a f d;refine Yx ?_;rw[YZ];refine Je l (partS k) (λn x=>F_da (F_ae n) n x k) (by omega) λp e=>?_;rw[QaW];have g:=YO e;rw[YB]at g;obtain⟨i,h⟩:=Q9 (d p e);refine QaI (λ_=>?_) (λ_=>?_)
  .exact Ea (Ea (QF _ _ _) (Ei λ_=>Qa _)) (Qa _)
  .exact Ea (Ea (QF _ _ _) (Ei λ_=>Ei λ_=>Ei (by grind))) (Qa _)
theorem Qjd(c:Course)(w:CourseOk c):∀(m:Nat) (l:List Part),szPs l<=m->l.length<=1048576->(∀x∈l,Part.wf x)->Ev (λn=>F_r n c l) (partsS ((c.Mats.length:Int)-1) l):=by
 intro m
 induction m with
 |zero=>
  intro l e h f;cases l with
  |nil=>
   refine Yx ?_;show Ev (λn=>B_r (F_r n) n c []) _;exact⟨1,λn u=>by obtain⟨k,rfl⟩:∃k,n=k+1:=⟨n-1,by omega⟩;rfl⟩
  |cons p r=>
   simp only[szPs,YB]at e;omega
 |succ m s=>
  intro l e h f;refine Yx ?_;show Ev (λn=>B_r (F_r n) n c l) _;rw[YZ];have step:∀(i:Nat) (x:Part),At l i x->Ev (λn=>F_hb n c l (F_r n) i) (bif partS (c.Mats.length-1) x then .cont (i+1)else .done (.done false)):=by
   intro i x a;unfold F_hb;simp only[a.lt,a.ix,XI,a.nx];have t:=YO a.mem;rw[YB]at t;obtain⟨q,g⟩:=Q9 (f x a.mem);refine Ea (Ei λ_=>Ea (QeF c w _) (Ei λ_=>Qa _)) (Ea (Ea (Jq _ _ _) (Ei λ_=>Ei λ_=>Ei λ_=>Ea (s x.Parts (by omega) q g) (Qa _))) ?_);rw[QaW];cases j:(x.Laps==0)with
   |true=>
    have e0:=by simpa using j
    have:inR 1 64 x.Laps=false:=by rw[e0];rfl
    grind[Qa]
   |false=>
    generalize(inR 1 64 x.Laps&&((x.Mat==0)&&(decide (0<(x.Parts.length:Int))&&partsS (c.Mats.length-1) x.Parts)))=b;cases b<;>exact Qa _
  refine Ea (YX l (λx=> !partS (c.Mats.length-1) x) (λi=>(i:Int)) (Ctl.done false) (Ctl.cont ()) (by omega) rfl (λi x a d=>?_) (λi x a d=>?_) ?_) ?_
  .refine(step i x a).eq ?_;have:=by simpa using d
   rw[this];rfl
  .refine(step i x a).eq ?_;have:=by simpa using d
   rw[this];rfl
  .unfold F_hb;simp[Qa4];exact Qa _
  grind[Qa]
def legS(k:Int)(l:Leg):Bool:=(inR 0 k l.From&&inR 0 k l.To)&&((inR 0 68719476736 l.Min&&inR 0 68719476736 l.Max)&&decide (l.Min<=l.Max))
def cutS(k:Int)(x:Cutoff):Bool:=inR 0 k x.Mat&&(decide (1<=x.Lap)&&inR 0 1099511627776 x.Limit)
def distS(k:Int)(d:Distance):Bool:=inR 1 3 d.Timing&&(inR (-1) k d.Extra&&(partsS k d.Route&&d.Cutoffs.all (cutS k)))
def offS(o:Offence):Bool:=bif o.Out then(o.Time==0)&&(o.Laps==0)else bif o.Laps != 0 then(o.Time==0)&&inR 1 64 o.Laps else inR 0 68719476736 o.Time
def catS(x:Category):Bool:=(inR 0 120 x.From&&inR 0 120 x.To)&&decide (x.From<=x.To)
def prizeS(c:Course)(p:Prize):Bool:=inR 0 ((c.Distances.length:Int)-1) p.Distance&&(inR (-1) ((c.Categories.length:Int)-1) p.Category&&(inR 1 4000 p.Rank&&inR 1 1125899906842624 p.Amount))
def lastS(c:Course):Bool:=(inR 0 16 c.Faults.Misses&&inR 0 16 c.Faults.Strays)&&((inR 0 4294967296 c.Faults.Window&&inR 0 4294967296 c.Faults.Residual)&&(inR 0 100000 c.Faults.Drift&&(inR 0 1125899906842624 c.Fee&&inR 0 1099511627776 c.Deadline)))
def legKey(l:Leg):Ui:={from_:=l.From,to_:=l.To}
def prizeKey(p:Prize):Uk:={distance:=p.Distance,category:=p.Category,rank:=p.Rank}
def numbersS(c:Course):Bool:=
 let k:=(c.Mats.length:Int)-1
 c.Mats.all (λm=>inR 1 3 m.Kind)&&(c.Legs.all (legS k)&&(decide ((c.Legs.map legKey).Nodup)&&(c.Distances.all (distS k)&&(c.Waves.all (λw=>inR 0 1099511627776 w.Gun)&&(c.Offences.all offS&&(c.Categories.all catS&&(c.Prizes.all (prizeS c)&&(decide ((c.Prizes.map prizeKey).Nodup)&&lastS c))))))))
structure PartsOk (c:Course):Prop where
 len:∀d∈c.Distances,d.Route.length<=1048576
 wf:∀d∈c.Distances,∀x∈d.Route,Part.wf x
theorem Qf4(l:List Leg)(d:l.length<=1048576):Ev (λn=>F_eh n l) (decide ((l.map legKey).Nodup)):=by
 refine Ea (Qbn l legKey true (by omega) (λi x m a=>?_) (λm=>?_)) ((Qa _).eq ?_)
 .unfold F_iu F_es;simp only[a.lt,a.ix,a.nx];exact Qa _
 .simp_all[F_iu,Qa]
 .rw[XX];simp[Vu,Vo]
  grind[QbZ]
theorem QeE(l:List Prize)(d:l.length<=1048576):Ev (λn=>F_fc n l) (decide ((l.map prizeKey).Nodup)):=by
 refine Ea (Qbn l prizeKey true (by omega) (λi x m a=>?_) (λm=>?_)) ((Qa _).eq ?_)
 .unfold F_iy F_gf;simp only[a.lt,a.ix,a.nx];exact Qa _
 .simp_all[F_iy,Qa]
 .rw[XX];simp[Vu,Vo]
  grind[QbZ]
theorem QhM(c:Course)(w:CourseOk c)(q:PartsOk c):Ev (λn=>F_cp n c) (numbersS c):=by
 unfold F_cp numbersS;rw[QaC w.mats];refine Ea (v:=_) ?_ (Qa _);have j:Ev (λn=>F_co n c.Mats) (c.Mats.all λm=>inR 1 3 m.Kind):=by
  unfold F_co F_ed F_ea;refine Je c.Mats _ (λn x=>F_cc n x) (by have:=w.mats;omega) λx a=>?_;unfold F_cc;exact Ea (QF _ _ _) (Qa _)
 have d:Ev (λn=>F_dp n c.Legs ((c.Mats.length:Int)-1)) (c.Legs.all (legS ((c.Mats.length:Int)-1))):=by
  unfold F_dp F_fd F_ge;refine Je c.Legs _ (λn x=>F_ch n x _) (by have:=w.legs;omega) λx a=>?_;unfold F_ch;exact Ea (Ea (QaF _ _ _ _) (Ei λ_=>Ea (QaF _ _ _ _) (Ei λ_=>Qa _))) (Qa _)
 have e:Ev (λn=>F_cs n c.Distances ((c.Mats.length:Int)-1)) (c.Distances.all (distS ((c.Mats.length:Int)-1))):=by
  unfold F_cs F_gi F_ep;refine Je c.Distances _ (λn x=>F_di n x _) (by have:=w.dist;omega) λx a=>?_;unfold F_di;have k:Ev (λn=>F_dg n x.Cutoffs ((c.Mats.length:Int)-1)) (x.Cutoffs.all (cutS ((c.Mats.length:Int)-1))):=by
   unfold F_dg F_gg F_fr;refine Je x.Cutoffs _ (λn x=>F_cr n x _) (by have:=w.cut x a;omega) λy l=>?_;unfold F_cr;exact Ea (Ea (QF _ _ _) (Ei λ_=>Ei λ_=>Ea (QF _ _ _) (Qa _))) (Qa _)
  exact Ea (Ea (QF _ _ _) (Ei λ_=>Ea (QF _ _ _) (Ei λ_=>Ea (QkC _ _ x.Route (XS _) (q.len x a) (q.wf x a)) (Ei λ_=>Ea k (Qa _))))) (Qa _)
 have f:Ev (λn=>F_bz n c.Waves) (c.Waves.all λw=>inR 0 1099511627776 w.Gun):=by
  unfold F_bz F_ga F_dv;refine Je c.Waves _ (λn x=>F_bx n x) (by have:=w.wave;omega) λx a=>?_;unfold F_bx;exact Ea (QF _ _ _) (Qa _)
 have g:Ev (λn=>F_dj n c.Offences) (c.Offences.all offS):=by
  unfold F_dj F_eu F_ds;refine Je c.Offences _ (λn x=>F_db n x) (by have:=w.off;omega) λx a=>?_;unfold F_db offS;refine QaI (λ_=>Ea (Ei λ_=>Qa _) (Qa _)) λ_=>QaI (λ_=>Ea (Ei λ_=>Ea (QF _ _ _) (Qa _)) (Qa _)) λ_=>Ea (QF _ _ _) (Qa _)
 have i:Ev (λn=>F_df n c.Categories) (c.Categories.all catS):=by
  unfold F_df F_fx F_gh;refine Je c.Categories _ (λn x=>F_cy n x) (by have:=w.cat;omega) λx a=>?_;unfold F_cy;exact Ea (Ea (QaF _ _ _ _) (Ei λ_=>Qa _)) (Qa _)
 have h:Ev (λn=>F_ci n c.Prizes c) (c.Prizes.all (prizeS c)):=by
  unfold F_ci F_ef F_fl;refine Je c.Prizes _ (λn x=>F_cd n x c) (by have:=w.prize;omega) λx a=>?_;unfold F_cd;rw[QaC w.dist,QaC w.cat];exact Ea (Ea (QF _ _ _) (Ei λ_=>Ea (QF _ _ _) (Ei λ_=>Ea (QF _ _ _) (Ei λ_=>Ea (QF _ _ _) (Qa _))))) (Qa _)
 refine Ea j (Ei λ_=>Ea d (Ei λ_=>Ea (Qf4 _ w.legs) (Ei λ_=>Ea e (Ei λ_=>Ea f (Ei λ_=>Ea g (Ei λ_=>Ea i (Ei λ_=>Ea h (Ei λ_=>Ea (QeE _ w.prize) (Ei λ_=>?_)))))))));exact Ea (QaF _ _ _ _) (Ei λ_=>Ea (QaF _ _ _ _) (Ei λ_=>Ea (QF _ _ _) (Ei λ_=>Ea (QF _ _ _) (Ei λ_=>Ea (QF _ _ _) (Qa _)))))
theorem ends_eq{a b a' d:Int}:(({from_:=a,to_:=b}:Ui)={from_:=a',to_:=d})↔a=a'/\b=d:=by simp
theorem QeD(c:Course)(w:CourseOk c)(d:Distance)(k:d.Route.length<=1048576)(h:∀x∈d.Route,Part.wf x)(l:d.Cutoffs.length<=1048576):Ev (λn=>F_fo n c d) (distS ((c.Mats.length:Int)-1) d):=by
 have step:∀(i:Nat) (x:Cutoff),At d.Cutoffs i x->Ev (λn=>F_ik n c d i) (bif cutS (c.Mats.length-1) x then .cont (i+1)else .done (.done false)):=by
  intro i x a;unfold F_ik;simp only[a.lt,a.ix,XI,a.nx];have:Ev (λn=>(F_g n c x.Mat).bind λg=>(bif (!g)then some true else(bif decide (x.Lap<1)then some true else(F_b n x.Limit 0 1099511627776).bind λf=>some (!f)))) (!cutS (c.Mats.length-1) x):=by
   refine Ea (QeF c w _) (Ew (Ql λ_=>Ql λ_=>Ea (Jq _ _ _) (Qa _)) ?_)
   grind[cutS]
  refine Ea this ?_
  grind[Qa]
 refine Ea (YX d.Cutoffs (λx=> !cutS (c.Mats.length-1) x) (λi=>(i:Int)) (Ctl.done false) (Ctl.cont ()) (by omega) rfl (λi x a j=>?_) (λi x a j=>?_) ?_) ?_
 .grind
 .grind
 .simp_all[F_ik,Qa]
 .have e:d.Cutoffs.any (λx=> !cutS (c.Mats.length-1) x)= !d.Cutoffs.all (cutS (c.Mats.length-1)):=by grind
  rw[e];unfold distS;have m:inR (-1) (c.Mats.length-1) d.Extra=((d.Extra== -1)||inR 0 (c.Mats.length-1) d.Extra):=by
   unfold inR
   grind
  cases d.Cutoffs.all (cutS (c.Mats.length-1))with
  |false=>
   simp[Bool.and_false];exact Qa _
  |true=>
   simp only[Bool.and_true];refine Ea (Ea (Jq _ _ _) ((Ei λ_=>Ea (Qjd c w _ d.Route (XS _) k h) (Ei λ_=>Ql λ_=>Ea (QeF c w _) (Qa _))).eq ?_)) (Qa _)
   grind
theorem Yt{α B:Type}{step:Nat->Int->Option (Ctl Int B)}(l:List α)(ok:α->Bool)(a b:B)(g:l.length<=4611686018427387904)
  (j:∀i x,At l i x->Ev (λn=>step n (i:Int)) (bif ok x then .cont ((i+1:Nat):Int)else .done a))(f:Ev (λn=>step n (l.length:Int)) (.done b)):
  Ev (λn=>Go.Sw.iter (step n) n 0) (bif l.all ok then b else a):=by
 have e:(bif l.all ok then b else a)=bif l.any (λx=> !ok x)then a else b:=by
  grind
 rw[e];refine YX l (λx=> !ok x) (λi=>(i:Int)) a b g rfl (λi x d h=>?_) (λi x d h=>?_) f
 .grind
 grind
theorem Qf1(c:Course)(w:CourseOk c)(q:PartsOk c):Ev (λn=>F_dc n c) (numbersS c):=by
 unfold F_dc numbersS;have M:Ev (λn=>iter (F_gq n c) n 0) (bif c.Mats.all (λm=>inR 1 3 m.Kind)then Ctl.cont ()else Ctl.done false):=by
  refine Yt c.Mats _ _ _ (by have:=w.mats;omega) (λi x a=>?_) ?_
  .unfold F_gq;simp only[a.lt,Vm,a.ix,XI,a.nx];refine Ea (Jq _ _ _) ?_;cases inR 1 3 x.Kind<;>exact Qa _
  simp_all[F_gq,Qa]
 have G:Ev (λn=>iter (F_cb n c) n 0) (bif c.Legs.all (legS ((c.Mats.length:Int)-1))&&decide ((c.Legs.map legKey).Nodup)then Ctl.cont ()else Ctl.done false):=by
  have first:∀x:Leg,Ev (λn=>((F_g n c x.From).bind λr=>(bif (!r)then some true else(F_g n c x.To).bind λB=>(bif (!B)then some true else(bif decide (x.Min<0)then some true else(bif decide (x.Max<x.Min)then some true else some (decide (68719476736<x.Max)))))):Option Bool)) (!legS ((c.Mats.length:Int)-1) x):=by
   intro x;refine Ea (QeF c w _) (Ew (Ql λ_=>Ea (QeF c w _) (Ql λ_=>Ql λ_=>Ql λ_=>Qa _)) ?_);unfold legS inR
   grind
  have inner:∀(i:Nat) (x:Leg),At c.Legs i x->Ev (λn=>iter (F_fe n c (i:Int) x) n 0) (bif ((c.Legs.take i).map legKey).contains (legKey x)then Ctl.done (Ctl.done (Ctl.done false))else Ctl.cont ()):=by
   intro i x a;have F:=a.lt';refine Qho c.Legs i legKey (legKey x) _ _ (by have:=w.legs;omega) (by omega) (λj y E l g=>?_) (λj y E l g=>?_) ?_
   .unfold F_fe;rw[Qv (show(j:Int)<(i:Int)by omega)];simp only[Vm,l.ix,XI,l.nx];have h:¬(y.From=x.From/\y.To=x.To):=by simpa[legKey]using g
    refine Ea (Ei λ_=>Qa _) ?_;have e:((y.From==x.From)&&(y.To==x.To))=false:=by
     grind
    rw[e];exact Qa _
   .unfold F_fe;rw[Qv (show(j:Int)<(i:Int)by omega)];simp only[Vm,l.ix,XI,l.nx]
    simp_all[legKey,Qa]
   grind[F_fe,Qa]
  refine Qll c.Legs (legS ((c.Mats.length:Int)-1)) legKey _ _ (by have:=w.legs;omega) (λi x a d g=>?_) (λi x a d=>?_) (λi x a d g=>?_) ?_
  .unfold F_cb;simp only[a.lt,Vm,a.ix,XI,a.nx];have f:=first x;rw[d]at f
   have k:=inner i x a;rw[g]at k;exact Ea f (Qs (Ea k (Qa _)))
  .unfold F_cb;simp only[a.lt,Vm,a.ix,XI,a.nx];have f:=first x;rw[d]at f
   exact Ea f (Qa _)
  .unfold F_cb;simp only[a.lt,Vm,a.ix,XI,a.nx];have f:=first x;rw[d]at f
   have k:=inner i x a;rw[g]at k;exact Ea f (Qs (Ea k (Qa _)))
  simp_all[F_cb,Qa]
 have H:Ev (λn=>iter (F_go n c) n 0) (bif c.Distances.all (distS ((c.Mats.length:Int)-1))then Ctl.cont ()else Ctl.done false):=by
  refine Yt c.Distances _ _ _ (by have:=w.dist;omega) (λi x a=>?_) ?_
  .unfold F_go;simp only[a.lt,Vm,a.ix,XI,a.nx];refine Ea (QeD c w x (q.len x a.mem) (q.wf x a.mem) (w.cut x a.mem)) ?_;cases distS ((c.Mats.length:Int)-1) x<;>exact Qa _
  .unfold F_go;simp only[Qa4,Vn];exact Qa _
 have N:Ev (λn=>iter (F_hu n c) n 0) (bif c.Waves.all (λw=>inR 0 1099511627776 w.Gun)then Ctl.cont ()else Ctl.done false):=by
  refine Yt c.Waves _ _ _ (by have:=w.wave;omega) (λi x a=>?_) ?_
  .unfold F_hu;simp only[a.lt,Vm,a.ix,XI,a.nx];refine Ea (Jq _ _ _) ?_;cases inR 0 1099511627776 x.Gun<;>exact Qa _
  .unfold F_hu;simp only[Qa4,Vn];exact Qa _
 have J:Ev (λn=>iter (F_hx n c) n 0) (bif c.Offences.all offS then Ctl.cont ()else Ctl.done false):=by
  refine Yt c.Offences _ _ _ (by have:=w.off;omega) (λi x a=>?_) ?_
  .unfold F_hx;simp only[a.lt,Vm,a.ix,XI,a.nx];refine Ea (Ea (Jq _ _ _) (Ei λ_=>Ei λ_=>Qa _)) ?_;refine Ea (Ei λ_=>Ea (Jq _ _ _) (Ei λ_=>Qa _)) ?_;refine Ea (Ei λ_=>Ei λ_=>Qa _) ?_;refine Ea (Ei λ_=>Ei λ_=>Qa _) ?_;have e:offS x= !(!(inR 0 68719476736 x.Time&&((x.Laps==0)&& !x.Out))&&(!((x.Time==0)&&(inR 1 64 x.Laps&& !x.Out))&& !((x.Time==0)&&((x.Laps==0)&&x.Out)))):=by
    unfold offS inR;cases x.Out with
    |true=>
     rw[XX];simp
    |false=>
     by_cases h:x.Laps=0
     iterate 2 rw[XX];simp[h]
   rw[e];generalize(!(inR 0 68719476736 x.Time&&((x.Laps==0)&& !x.Out))&&(!((x.Time==0)&&(inR 1 64 x.Laps&& !x.Out))&& !((x.Time==0)&&((x.Laps==0)&&x.Out))))=b;cases b<;>exact Qa _
  .unfold F_hx;simp only[Qa4,Vn];exact Qa _
 have L:Ev (λn=>iter (F_im n c) n 0) (bif c.Categories.all catS then Ctl.cont ()else Ctl.done false):=by
  refine Yt c.Categories _ _ _ (by have:=w.cat;omega) (λi x a=>?_) ?_
  .unfold F_im;simp only[a.lt,Vm,a.ix,XI,a.nx];refine Ea (Ql λ_=>Ql λ_=>Qa _) ?_;have e:(decide (x.From<0)||(decide (x.To<x.From)||decide (120<x.To)))= !catS x:=by
    unfold catS inR;rw[XX];simp;omega
   rw[e];cases catS x<;>exact Qa _
  .unfold F_im;simp only[Qa4,Vn];exact Qa _
 have O:Ev (λn=>iter (F_dq n c) n 0) (bif c.Prizes.all (prizeS c)&&decide ((c.Prizes.map prizeKey).Nodup)then Ctl.cont ()else Ctl.done false):=by
  have first:∀x:Prize,Ev (λn=>((F_b n x.Distance 0 (i64.wrap ((c.Distances.length:Int)-1))).bind λu=>(bif (!u)then some true else(F_b n x.Category (-1) (i64.wrap ((c.Categories.length:Int)-1))).bind λs=>(bif (!s)then some true else(F_b n x.Rank 1 4000).bind λp=>(bif (!p)then some true else(F_b n x.Amount 1 1125899906842624).bind λt=>some (!t)))):Option Bool)) (!prizeS c x):=by
   intro x;rw[QaC w.dist,QaC w.cat];refine Ea (Jq _ _ _) (Ew (Ql λ_=>Ea (Jq _ _ _) (Ql λ_=>Ea (Jq _ _ _) (Ql λ_=>Ea (Jq _ _ _) (Qa _)))) ?_);unfold prizeS;simp only[Bool.not_and]
  have inner:∀(i:Nat) (x:Prize),At c.Prizes i x->Ev (λn=>iter (F_fj n c (i:Int) x) n 0) (bif ((c.Prizes.take i).map prizeKey).contains (prizeKey x)then Ctl.done (Ctl.done (Ctl.done false))else Ctl.cont ()):=by
   intro i x a;have F:=a.lt';refine Qho c.Prizes i prizeKey (prizeKey x) _ _ (by have:=w.prize;omega) (by omega) (λj y E l g=>?_) (λj y E l g=>?_) ?_
   .unfold F_fj;rw[Qv (show(j:Int)<(i:Int)by omega)];simp only[Vm,l.ix,XI,l.nx];have h:¬(y.Distance=x.Distance/\y.Category=x.Category/\y.Rank=x.Rank):=by simpa[prizeKey]using g
    refine Ea (Ei λ_=>Ei λ_=>Qa _) ?_;have e:((y.Distance==x.Distance)&&((y.Category==x.Category)&&(y.Rank==x.Rank)))=false:=by
     rw[VI];intro z;exact h (by simpa using z)
    rw[e];exact Qa _
   .unfold F_fj;rw[Qv (show(j:Int)<(i:Int)by omega)];simp only[Vm,l.ix,XI,l.nx];have h:(y.Distance=x.Distance/\y.Category=x.Category/\y.Rank=x.Rank):=by simpa[prizeKey]using g
    refine Ea (Ei λ_=>Ei λ_=>Qa _) ?_;have e:((y.Distance==x.Distance)&&((y.Category==x.Category)&&(y.Rank==x.Rank)))=true:=by simpa using h
    rw[e];exact Qa _
   .unfold F_fj;rw[Qu (show¬(i:Int)<(i:Int)by omega)];exact Qa _
  refine Qll c.Prizes (prizeS c) prizeKey _ _ (by have:=w.prize;omega) (λi x a d g=>?_) (λi x a d=>?_) (λi x a d g=>?_) ?_
  .unfold F_dq;simp only[a.lt,Vm,a.ix,XI,a.nx];have f:=first x;rw[d]at f
   have k:=inner i x a;rw[g]at k;exact Ea f (Qs (Ea k (Qa _)))
  .unfold F_dq;simp only[a.lt,Vm,a.ix,XI,a.nx];have f:=first x;rw[d]at f
   exact Ea f (Qa _)
  .unfold F_dq;simp only[a.lt,Vm,a.ix,XI,a.nx];have f:=first x;rw[d]at f
   have k:=inner i x a;rw[g]at k;exact Ea f (Qs (Ea k (Qa _)))
  .unfold F_dq;simp only[Qa4,Vn];exact Qa _
 refine Ea M ?_;cases c.Mats.all (λm=>inR 1 3 m.Kind)with
 |false=>exact Qa _
 |true=>
 refine Ea G ?_;simp only[Vw];rw[<- Bool.and_assoc];cases(c.Legs.all (legS ((c.Mats.length:Int)-1))&&decide ((c.Legs.map legKey).Nodup))with
 |false=>exact Qa _
 |true=>
 refine Ea H ?_;simp only[Vw];cases c.Distances.all (distS ((c.Mats.length:Int)-1))with
 |false=>exact Qa _
 |true=>
 refine Ea N ?_;simp only[Vw];cases c.Waves.all (λw=>inR 0 1099511627776 w.Gun)with
 |false=>exact Qa _
 |true=>
 refine Ea J ?_;simp only[Vw];cases c.Offences.all offS with
 |false=>exact Qa _
 |true=>
 refine Ea L ?_;simp only[Vw];cases c.Categories.all catS with
 |false=>exact Qa _
 |true=>
 refine Ea O ?_;simp only[Vw];rw[<- Bool.and_assoc];cases(c.Prizes.all (prizeS c)&&decide ((c.Prizes.map prizeKey).Nodup))with
 |false=>exact Qa _
 |true=>
 simp only[Vw];refine Ea (v:=lastS c) ?_ (Qa _);refine Ea (Jq _ _ _) ((Ei λ_=>Ea (Jq _ _ _) (Ei λ_=>Ea (Jq _ _ _) (Ei λ_=>Ea (Jq _ _ _) (Ei λ_=>Ea (Jq _ _ _) (Ei λ_=>Ea (Jq _ _ _) (Ei λ_=>Ea (Jq _ _ _) (Qa _))))))).eq ?_);unfold lastS;simp only[Bool.and_assoc]
mutual
def cN:Cond->Nat
 |⟨_,_,_,ps⟩=>1+cNs ps
def cNs:List Cond->Nat
 |[]=>0
 |c::r=>cN c+cNs r
end
theorem QbI(c:Cond):cN c=1+cNs c.Parts:=by cases c;rfl
mutual
def cD:Nat->Cond->Bool
 |d,⟨_,_,_,ps⟩=>cDs d ps
def cDs:Nat->List Cond->Bool
 |_,[]=>true
 |d,c::r=>decide (d<=16)&&(cD (d+1) c&&cDs d r)
end
theorem QiF(d:Nat)(c:Cond):cD d c=cDs d c.Parts:=by cases c;rfl
def zeroC(c:Cond):Bool:=(c.Kind==0)&&((c.Var==0)&&((c.N==0)&&((c.Parts.length:Int)==0)))
mutual
def sNp:Step->Nat
 |⟨_,_,_,t,e⟩=>1+sNs t+sNs e
def sNs:List Step->Nat
 |[]=>0
 |s::r=>sNp s+sNs r
end
theorem Qff(s:Step):sNp s=1+sNs s.Then+sNs s.Else:=by cases s;rfl
mutual
def sC:Step->Nat
 |⟨_,_,c,t,e⟩=>(bif zeroC c then 0 else cN c)+sCs t+sCs e
def sCs:List Step->Nat
 |[]=>0
 |s::r=>sC s+sCs r
end
theorem Qd5(s:Step):sC s=(bif zeroC s.Cond then 0 else cN s.Cond)+sCs s.Then+sCs s.Else:=by cases s;rfl
mutual
def sDp:Nat->Step->Bool
 |d,⟨_,_,c,t,e⟩=>(zeroC c||cD 1 c)&&(sDs d t&&sDs d e)
def sDs:Nat->List Step->Bool
 |_,[]=>true
 |d,s::r=>decide (d<=16)&&(sDp (d+1) s&&sDs d r)
end
theorem Qgt(d:Nat)(s:Step):sDp d s=((zeroC s.Cond||cD 1 s.Cond)&&(sDs d s.Then&&sDs d s.Else)):=by cases s;rfl
mutual
def sZ:Step->Nat
 |⟨_,_,c,t,e⟩=>2+cN c+sZs t+sZs e
def sZs:List Step->Nat
 |[]=>0
 |s::r=>sZ s+sZs r
end
theorem Qfe(s:Step):sZ s=2+cN s.Cond+sZs s.Then+sZs s.Else:=by cases s;rfl
def fS:Uj->Nat
 |.ctyping_step x=>sNp x.Step
 |.ctyping_cond _=>0
def fC:Uj->Nat
 |.ctyping_step x=>sC x.Step
 |.ctyping_cond x=>cN x.Cond
def fD(d:Nat):Uj->Bool
 |.ctyping_step x=>sDp d x.Step
 |.ctyping_cond x=>cD d x.Cond
def fZ:Uj->Nat
 |.ctyping_step x=>sZ x.Step
 |.ctyping_cond x=>cN x.Cond
def fSs(l:List Uj):Nat:=(l.map fS).sum
def fCs(l:List Uj):Nat:=(l.map fC).sum
def fZs(l:List Uj):Nat:=(l.map fZ).sum
def fwf:Uj->Prop
 |.ctyping_step x=>Step.wf x.Step
 |.ctyping_cond x=>Cond.wf x.Cond
def ofStep(s:Step):Uj:=.ctyping_step {Step:=s}
def ofCond(c:Cond):Uj:=.ctyping_cond {Cond:=c}
theorem Qa1:∀l:List Step,fSs (l.map ofStep)=sNs l
 |[]=>rfl
 |s::r=>by
  have:=Qa1 r;simp[fSs,Vh,List.sum_cons]at this⊢;rw[this];rfl
theorem Qa2:∀l:List Step,fCs (l.map ofStep)=sCs l
 |[]=>rfl
 |s::r=>by
  have:=Qa2 r;simp[fCs,Vh,List.sum_cons]at this⊢;rw[this];rfl
theorem QbD:∀l:List Step,fZs (l.map ofStep)=sZs l
 |[]=>rfl
 |s::r=>by
  have:=QbD r;simp[fZs,Vh,List.sum_cons]at this⊢;rw[this];rfl
theorem Qev:∀l:List Cond,fSs (l.map ofCond)=0
 |[]=>rfl
 |s::r=>by
  have:=Qev r;simp only[fSs,Vh,List.sum_cons]at this⊢;rw[this];rfl
theorem Qex:∀l:List Cond,fCs (l.map ofCond)=cNs l
 |[]=>rfl
 |s::r=>by
  have:=Qex r;simp[fCs,Vh,List.sum_cons]at this⊢;rw[this];rfl
theorem Qet:∀l:List Cond,fZs (l.map ofCond)=cNs l
 |[]=>rfl
 |s::r=>by
  have:=Qet r;simp[fZs,Vh,List.sum_cons]at this⊢;rw[this];rfl
theorem Qcy(d:Nat):∀l:List Step,sDs d l=((l.map ofStep).isEmpty||(decide (d<=16)&&(l.map ofStep).all (fD (d+1))))
 |[]=>rfl
 |s::r=>by
  rw[sDs,Qcy d r];simp[Vh,List.all_cons];rw[show fD (d+1) (ofStep s)=sDp (d+1) s from rfl]
  grind
theorem QgV(d:Nat):∀l:List Cond,cDs d l=((l.map ofCond).isEmpty||(decide (d<=16)&&(l.map ofCond).all (fD (d+1))))
 |[]=>rfl
 |s::r=>by
  rw[cDs,QgV d r];simp[Vh,List.all_cons];rw[show fD (d+1) (ofCond s)=cD (d+1) s from rfl]
  grind
theorem Ja{c:Cond}(h:Cond.wf c):c.Parts.length<=1048576/\ ∀x∈c.Parts,Cond.wf x:=by
 cases c
 grind[Cond.wf,QcT]
theorem Y8{s:Step}(h:Step.wf s):Cond.wf s.Cond/\(s.Then.length<=1048576/\ ∀x∈s.Then,Step.wf x)/\(s.Else.length<=1048576/\ ∀x∈s.Else,Step.wf x):=by
 cases s
 grind[Step.wf,QcH]
theorem Qfx(n:Nat)(c:Cond):F_af n {Cond:=c}=some (zeroC c):=by
 unfold F_af zeroC
 grind
theorem QeB(n:Nat)(c:Cond):F_bf n c=some (zeroC c):=by
 unfold F_bf zeroC
 grind
theorem Qez(l:List Step)(a:l.length<=140737488):Ev (λn=>F_ak n l) (l.map ofStep):=by
 exact Ea (Qac l ofStep a) (Qa _)
theorem QkJ(l:List Cond)(a:l.length<=140737488):Ev (λn=>F_fg n l) (l.map ofCond):=by
 exact Ea (Qac l ofCond a) (Qa _)
def stepParts(s:Step):List Uj:=s.Then.map ofStep++s.Else.map ofStep
theorem Qbg(s:Step)(h:Step.wf s):Ev (λn=>F_aa n {Step:=s}) (stepParts s):=by
 obtain⟨_,⟨d,_⟩,⟨a,_⟩⟩:=Y8 h;refine Ea (Qez s.Then (by omega)) (Ea (Qez s.Else (by omega)) (QO (QaG _ _ (by simp;omega)) (Qa _)))
theorem QcA(c:Cond)(h:Cond.wf c):Ev (λn=>F_x n {Cond:=c}) (c.Parts.map ofCond):=by
 obtain⟨a,_⟩:=Ja h;exact Ea (QkJ c.Parts (by omega)) (Qa _)
def okL(l:List Uj)(d:Nat)(st co:Int):Bool:=l.isEmpty||(decide (d<=16)&&(l.all (fD (d+1))&&(decide (st+fSs l<=64)&&decide (co+fCs l<=256))))
def okR(l:List Uj)(d:Nat)(st co:Int):Bool:=l.isEmpty||(l.all (fD (d+1))&&(decide (st+fSs l<=64)&&decide (co+fCs l<=256)))
def okF(f:Uj)(d:Nat)(st co:Int):Bool:=fD (d+1) f&&(decide (st+fS f<=64)&&decide (co+fC f<=256))
theorem QgU(f:Uj)(l:List Uj):fSs (f::l)=fS f+fSs l:=rfl
theorem QgW(f:Uj)(l:List Uj):fCs (f::l)=fC f+fCs l:=rfl
theorem QgT(f:Uj)(l:List Uj):fZs (f::l)=fZ f+fZs l:=rfl
theorem Qeu(l m:List Uj):fSs (l++m)=fSs l+fSs m:=by simp[fSs]
theorem Qew(l m:List Uj):fCs (l++m)=fCs l+fCs m:=by simp[fCs]
theorem Qes(l m:List Uj):fZs (l++m)=fZs l+fZs m:=by simp[fZs]
theorem Qkd(f:Uj)(r:List Uj)(d:Nat)(e a:Int):okR (f::r) d e a=(okF f d e a&&okR r d (e+fS f) (a+fC f)):=by
 unfold okR okF;rw[QgU,QgW];cases r with
 |nil=>simp[fSs,fCs]
 |cons g r=>
  grind
theorem QfS(l:List Uj)(d:Nat)(a e:Int)(h:a<=64)(g:e<=256):okL l d a e=true↔(l.isEmpty||(decide (d<=16)&&l.all (fD (d+1))))=true/\a+fSs l<=64/\e+fCs l<=256:=by
 unfold okL;cases l with
 |nil=>simp[fSs,fCs,h,g]
 |cons f r=>
  grind
theorem Qd0(s:Step)(d:Nat):((stepParts s).isEmpty||(decide (d<=16)&&(stepParts s).all (fD (d+1))))=(sDs d s.Then&&sDs d s.Else):=by
 rw[Qcy,Qcy];unfold stepParts;rw[List.all_append];cases e:s.Then<;>cases a:s.Else<;>simp<;>(grind)
def Cnt(R:Nat->List Uj->Int->Uh->Option (Uh×Bool))(l:List Uj)(d:Nat)(st co:Int):Prop:=
 ∃c':Uh,Ev (λn=>R n l (d:Int) {steps:=st,conds:=co}) (c',okL l d st co)/\(okL l d st co=true->c'={steps:=st+fSs l,conds:=co+fCs l})
theorem QhV{R:Nat->List Uj->Int->Uh->Option (Uh×Bool)}{l:List Uj}{d:Nat}(hd:d<=16){i:Nat}{f:Uj}(Y:At l i f)(hw:fwf f)
  (O:∀l' d' a e,fZs l'<fZ f->l'.length<=2097152->(∀f∈l',fwf f)->d'<=17->0<=a->a<=66->(a<=65\/ ∀f∈l',∃c,f=ofCond c)->0<=e->e<=256->Cnt R l' d' a e){a e:Int}(h0:0<=a)(ac:a<=66)(w:a<=65\/ ∃c,f=ofCond c)(h2:0<=e)(h3:e<=256):
  ∃c':Uh,Ev (λn=>F_fy n l (d:Int) (R n) ({steps:=a,conds:=e},(i:Int))) (bif okF f d a e then .cont (c',((i+1:Nat):Int))else .done (.done (c',false)))/\(okF f d a e=true->c'={steps:=a+fS f,conds:=e+fC f}):=by
 unfold F_fy;simp only[Y.lt,Vm,Y.ix,XI,Y.nx];have ed:i64.wrap ((d:Int)+1)=((d+1:Nat):Int):=QV (by omega);cases f with
 |ctyping_step x=>
  obtain⟨s⟩:=x;have h1:a<=65:=by
   rcases w with h|⟨c,h⟩
   .exact h
   .cases h
  have k:Step.wf s:=hw;obtain⟨wc,⟨ab,L⟩,⟨ae,M⟩⟩:=Y8 k;have P:i64.wrap (a+1)=a+1:=Qj (by omega) (by omega);simp only[Uj.elim,Qfx,XI,P];have hc:∃t:Uh,Ev (λn=>((bif (!zeroC s.Cond)then(R n [Uj.ctyping_cond {Cond:=s.Cond}] 0 {steps:=a+1,conds:=e}).bind λm=>some (m.1,(!m.2))else some ({steps:=a+1,conds:=e},false)):Option (Uh×Bool))) (t, !(zeroC s.Cond||(cD 1 s.Cond&&(decide (a+1<=64)&&decide (e+cN s.Cond<=256)))))/\
    ((zeroC s.Cond||(cD 1 s.Cond&&(decide (a+1<=64)&&decide (e+cN s.Cond<=256))))=true->t={steps:=a+1,conds:=e+((bif zeroC s.Cond then 0 else cN s.Cond:Nat):Int)}):=by
   cases E:zeroC s.Cond with
   |true=>
    simp_all[Qa]
   |false=>
    obtain⟨t,p,G⟩:=O [ofCond s.Cond] 0 (a+1) e (by simp only[fZs,Vh,Vi,List.sum_cons,List.sum_nil];show cN s.Cond+0<sZ s;rw[Qfe];omega) (by simp) (by intro g j;simp only[Vx]at j;subst j;exact wc) (by omega) (by omega) (by omega) (.inr (by intro g j;simp only[Vx]at j;exact⟨_,j⟩)) h2 h3;have ek:okL [ofCond s.Cond] 0 (a+1) e=(cD 1 s.Cond&&(decide (a+1<=64)&&decide (e+cN s.Cond<=256))):=by
     unfold okL;simp only[List.isEmpty_cons,Bool.false_or,List.all_cons,List.all_nil,Bool.and_true,fSs,fCs,Vh,Vi,List.sum_cons,List.sum_nil];rw[show fD (0+1) (ofCond s.Cond)=cD 1 s.Cond from rfl,show fS (ofCond s.Cond)=0 from rfl,show fC (ofCond s.Cond)=cN s.Cond from rfl];simp
    rw[ek]at p G;refine⟨t,Ea p (Qa _),λh=>?_⟩;rw[G h];simp[fSs,fCs,show fS (ofCond s.Cond)=0 from rfl,show fC (ofCond s.Cond)=cN s.Cond from rfl]
  obtain⟨t,p,G⟩:=hc;generalize hb:(zeroC s.Cond||(cD 1 s.Cond&&(decide (a+1<=64)&&decide (e+cN s.Cond<=256))))=b at p G;have X:okF (Uj.ctyping_step {Step:=s}) d a e=(sDp (d+1) s&&(decide (a+sNp s<=64)&&decide (e+sC s<=256))):=rfl;rw[X];cases b with
  |false=>
   have:(sDp (d+1) s&&(decide (a+sNp s<=64)&&decide (e+sC s<=256)))=false:=by
    rw[VI];intro hh;simp only[XV,Vo,Qgt,Qff,Qd5]at hh;obtain⟨⟨z1,_⟩,z2,z3⟩:=hh;cases E:zeroC s.Cond with
    |true=>rw[E]at hb;cases hb
    |false=>
     rw[E]at hb z1 z3;simp only[Bool.false_or]at hb z1;rw[z1]at hb;simp only[Vn]at z3;rw[Qv (show a+1<=64 by omega),Qv (show e+(cN s.Cond:Int)<=256 by omega)]at hb;cases hb
   rw[this];exact⟨t,Ea p (Qa _),λh=>by cases h⟩
  |true=>
   obtain rfl:=G rfl;by_cases r:64<a+1
   .have:(sDp (d+1) s&&(decide (a+sNp s<=64)&&decide (e+sC s<=256)))=false:=by
     rw[Qu (show¬a+(sNp s:Int)<=64 by rw[Qff];omega)];simp
    rw[this];refine⟨{steps:=a+1,conds:=e+((bif zeroC s.Cond then 0 else cN s.Cond:Nat):Int)},Ea p ?_,λh=>by cases h⟩;simp only[Xg,Vn];refine Ea (v:=(_,true)) ?_ (Qa _);rw[Qv r];exact Qa _
   by_cases u:256<e+((bif zeroC s.Cond then 0 else cN s.Cond:Nat):Int)
   .have:(sDp (d+1) s&&(decide (a+sNp s<=64)&&decide (e+sC s<=256)))=false:=by
     rw[Qu (show¬e+(sC s:Int)<=256 by rw[Qd5];omega)];simp
    rw[this];refine⟨{steps:=a+1,conds:=e+((bif zeroC s.Cond then 0 else cN s.Cond:Nat):Int)},Ea p ?_,λh=>by cases h⟩;simp only[Xg,Vn];refine Ea (v:=(_,true)) ?_ (Qa _);rw[Qu r,Qv u];exact Qa _
   obtain⟨z,B,H⟩:=O (stepParts s) (d+1) (a+1) (e+((bif zeroC s.Cond then 0 else cN s.Cond:Nat):Int)) (by
     unfold stepParts;rw[Qes,QbD,QbD];show _<sZ s;rw[Qfe];omega) (by unfold stepParts;simp;omega) (by
     intro g j;unfold stepParts at j;rcases Vz.1 j with j|j
     .obtain⟨y,F,rfl⟩:=Xe.1 j;exact L y F
     .obtain⟨y,F,rfl⟩:=Xe.1 j;exact M y F) (by omega) (by omega) (by omega) (.inl (by omega)) (by omega) (by omega)
   have T:okL (stepParts s) (d+1) (a+1) (e+((bif zeroC s.Cond then 0 else cN s.Cond:Nat):Int))=(sDp (d+1) s&&(decide (a+sNp s<=64)&&decide (e+sC s<=256))):=by
    rw[XX,QfS _ _ _ _ (by omega) (by omega),Qd0];simp only[XV,Vo,Qgt,Qff,Qd5];have V:fSs (stepParts s)=sNs s.Then+sNs s.Else:=by unfold stepParts;rw[Qeu,Qa1,Qa1]
    have Q:fCs (stepParts s)=sCs s.Then+sCs s.Else:=by unfold stepParts;rw[Qew,Qa2,Qa2]
    rw[V,Q];have N:(zeroC s.Cond||cD 1 s.Cond)=true:=by
     cases E:zeroC s.Cond with
     |true=>rfl
     |false=>
      rw[E]at hb;simp only[Bool.false_or,XV]at hb;rw[hb.1];rfl
    constructor
    .rintro⟨q,W,J⟩;exact⟨⟨N,q⟩,by omega,by omega⟩
    .rintro⟨⟨_,q⟩,W,J⟩;exact⟨q,by omega,by omega⟩
   rw[T]at B H;refine⟨z,Ea p ?_,λh=>?_⟩
   .simp only[Xg,Vn];refine Ea (v:=(z, !(sDp (d+1) s&&(decide (a+sNp s<=64)&&decide (e+sC s<=256))))) ?_ ?_
    .rw[Qu r,Qu u,ed];exact Ea (Qbg s k) (Ea B (Qa _))
    .cases(sDp (d+1) s&&(decide (a+sNp s<=64)&&decide (e+sC s<=256)))<;>exact Qa _
   .rw[H h];have V:fSs (stepParts s)=sNs s.Then+sNs s.Else:=by unfold stepParts;rw[Qeu,Qa1,Qa1]
    have Q:fCs (stepParts s)=sCs s.Then+sCs s.Else:=by unfold stepParts;rw[Qew,Qa2,Qa2]
    rw[V,Q,show fS (Uj.ctyping_step {Step:=s})=sNp s from rfl,show fC (Uj.ctyping_step {Step:=s})=sC s from rfl,Qff,Qd5];congr 1<;>omega
 |ctyping_cond x=>
  obtain⟨c⟩:=x;have k:Cond.wf c:=hw;obtain⟨ad,aa⟩:=Ja k;have P:i64.wrap (e+1)=e+1:=Qj (by omega) (by omega);simp only[Uj.elim,P];have X:okF (Uj.ctyping_cond {Cond:=c}) d a e=(cD (d+1) c&&(decide (a<=64)&&decide (e+cN c<=256))):=by
   show(cD (d+1) c&&(decide (a+((0:Nat):Int)<=64)&&decide (e+cN c<=256)))=_;rw[show a+((0:Nat):Int)=a by omega]
  rw[X];by_cases r:64<a
  .have:(cD (d+1) c&&(decide (a<=64)&&decide (e+cN c<=256)))=false:=by
    rw[Qu (show¬a<=64 by omega)];simp
   rw[this];refine⟨{steps:=a,conds:=e+1},?_,λh=>by cases h⟩;refine Ea (v:=(_,true)) ?_ (Qa _);rw[Qv r];exact Qa _
  by_cases u:256<e+1
  .have:(cD (d+1) c&&(decide (a<=64)&&decide (e+cN c<=256)))=false:=by
    rw[Qu (show¬e+(cN c:Int)<=256 by rw[QbI];omega)];simp
   rw[this];refine⟨{steps:=a,conds:=e+1},?_,λh=>by cases h⟩;refine Ea (v:=(_,true)) ?_ (Qa _);rw[Qu r,Qv u];exact Qa _
  obtain⟨z,B,H⟩:=O (c.Parts.map ofCond) (d+1) a (e+1) (by
    rw[Qet];show _<cN c;rw[QbI];omega) (by simp;omega) (by
    intro g j;obtain⟨y,F,rfl⟩:=Xe.1 j;exact aa y F) (by omega) (by omega) (by omega) (.inl (by omega)) (by omega) (by omega)
  have T:okL (c.Parts.map ofCond) (d+1) a (e+1)=(cD (d+1) c&&(decide (a<=64)&&decide (e+cN c<=256))):=by
   rw[XX,QfS _ _ _ _ (by omega) (by omega), <- QgV,Qev,Qex];simp only[XV,Vo,QiF,QbI];constructor
   iterate 2 rintro⟨q,W,J⟩;exact⟨q,by omega,by omega⟩
  rw[T]at B H;refine⟨z,?_,λh=>?_⟩
  .refine Ea (v:=(z, !(cD (d+1) c&&(decide (a<=64)&&decide (e+cN c<=256))))) ?_ ?_
   .rw[Qu r,Qu u,ed];exact Ea (QcA c k) (Ea B (Qa _))
   .cases(cD (d+1) c&&(decide (a<=64)&&decide (e+cN c<=256)))<;>exact Qa _
  .rw[H h,Qev,Qex,show fS (Uj.ctyping_cond {Cond:=c})=0 from rfl,show fC (Uj.ctyping_cond {Cond:=c})=cN c from rfl,QbI];congr 1;omega
theorem QkI:∀(m:Nat) (l:List Uj) (d:Nat) (a e:Int),fZs l<=m->l.length<=2097152->(∀f∈l,fwf f)->d<=17->0<=a->a<=66->(a<=65\/ ∀f∈l,∃c,f=ofCond c)->0<=e->e<=256->Cnt F_d l d a e:=by
 intro m
 induction m using Nat.strongRecOn with
 |_ m w=>
 intro l d a e hm hl hw hd h0 h1 z O W;unfold Cnt;have B:∀c:Uh,(∃g:Uh,Ev (λn=>B_d (F_d n) n l (d:Int) c) (g,okL l d a e)/\(okL l d a e=true->g={steps:=a+fSs l,conds:=e+fCs l}))->∃g:Uh,Ev (λn=>F_d n l (d:Int) c) (g,okL l d a e)/\(okL l d a e=true->g={steps:=a+fSs l,conds:=e+fCs l}):=by
  rintro c ⟨g,q1,q2⟩;exact⟨g,Yx q1,q2⟩
 refine B _ ?_;unfold B_d;cases k:l with
 |nil=>
  refine⟨{steps:=a,conds:=e},?_,λ_=>by simp[fSs,fCs]⟩;refine Ea (v:=Ctl.cont {steps:=a,conds:=e}) (EvI.ev (Ej ?_)) (Qa _);exact Qa _
 |cons f0 r0=>
 rw[<- k];have F:l.isEmpty=false:=by rw[k];rfl
 have N:0<l.length:=by rw[k];simp
 by_cases j:d<=16
 rotate_left
 .have:okL l d a e=false:=by unfold okL;rw[F,Qu j];rfl
  rw[this];refine⟨{steps:=a,conds:=e},?_,λh=>by cases h⟩;rw[Qv (show(0:Int)<(l.length:Int)by omega),Qv (show(16:Int)<(d:Int)by omega)];exact Ea (Qa _) (Qa _)
 have G:okL l d a e=okR l d a e:=by unfold okL okR;rw[Qv j,Vw]
 rw[G];have loop:∀(r:List Uj) (i:Nat) (a e:Int),l.drop i=r->i<=l.length->0<=a->a<=66->(a<=65\/ ∀f∈l,∃c,f=ofCond c)->0<=e->e<=256->
   ∃g:Uh,EvI (λn=>F_fy n l (d:Int) (F_d n)) ({steps:=a,conds:=e},(i:Int)) (bif okR r d a e then Ctl.cont g else Ctl.done (g,false))/\(okR r d a e=true->g={steps:=a+fSs r,conds:=e+fCs r}):=by
  intro r
  induction r with
  |nil=>
   intro i a e J L _ _ _ _ _;refine⟨{steps:=a,conds:=e},Ej ?_,λ_=>by simp[fSs,fCs]⟩;unfold F_fy;simp only[QS J L,Vn];exact Qa _
  |cons f r H=>
   intro i a e J L T g1 y P g3;obtain⟨s,u⟩:=Qy (by omega) J;have aa:fZ f<=fZs l:=by
    have:∀(l:List Uj),f∈l->fZ f<=fZs l:=by
     intro l
     induction l with
     |nil=>intro h;cases h
     |cons x l w=>
      intro h;rw[QgT];rcases X5.1 h with rfl|h
      .omega
      .have:=w h;omega
    exact this l s.mem
   obtain⟨g,p,E⟩:=QhV (R:=F_d) j s (hw f s.mem) (λM X a e k1 k2 k3 k4 k5 k6 t k7 Y=>w (fZs M) (by omega) M X a e (XS _) k2 k3 k4 k5 k6 t k7 Y) T g1 (y.imp id λh=>h f s.mem) P g3;rw[Qkd];cases q:okF f d a e with
   |false=>
    rw[q]at p;exact⟨g,Ej p,λh=>by cases h⟩
   |true=>
    rw[q]at p;obtain rfl:=E q;have hb:=by
     unfold okF at q;simp only[XV,Vo]at q;exact q.2
    obtain⟨Q,u1,V⟩:=H (i+1) (a+fS f) (e+fC f) u (by have:=s.lt';omega) (by omega) (by omega) (.inl (by omega)) (by omega) (by omega);refine⟨Q,Ex p u1,λh=>?_⟩;rw[V (by simpa using h),QgU,QgW];congr 1<;>omega
 obtain⟨g,p,E⟩:=loop l 0 a e rfl (XT _) h0 h1 z O W;refine⟨g,?_,E⟩;refine Ea (v:=false) ?_ (Qs (Ea p.ev ?_))
 .rw[Qv (show(0:Int)<(l.length:Int)by omega),Qu (show¬(16:Int)<(d:Int)by omega)];exact Qa _
 .cases okR l d a e<;>exact Qa _
mutual
def vaC:Cond->Bool
 |⟨k,v,n,ps⟩=>bif k==1 then inR 1 3 v&&(inR 0 10000 n&&((ps.length:Int)==0))else
   bif k==4 then((v==0)&&(n==0))&&(((ps.length:Int)==1)&&vaCs ps)else
   bif (k==2)||(k==3)then((v==0)&&(n==0))&&((decide (0<(ps.length:Int))&&decide ((ps.length:Int)<=16))&&vaCs ps)else false
def vaCs:List Cond->Bool
 |[]=>true
 |c::r=>vaC c&&vaCs r
end
theorem QjY(c:Cond):vaC c=bif c.Kind==1 then inR 1 3 c.Var&&(inR 0 10000 c.N&&((c.Parts.length:Int)==0))else
   bif c.Kind==4 then((c.Var==0)&&(c.N==0))&&(((c.Parts.length:Int)==1)&&vaCs c.Parts)else
   bif (c.Kind==2)||(c.Kind==3)then((c.Var==0)&&(c.N==0))&&((decide (0<(c.Parts.length:Int))&&decide ((c.Parts.length:Int)<=16))&&vaCs c.Parts)else false:=by cases c;rfl
theorem QfK:∀l:List Cond,vaCs l=l.all vaC
 |[]=>rfl
 |c::r=>by rw[vaCs,List.all_cons,QfK r]
mutual
def vaS:Step->Bool
 |⟨k,b,c,t,e⟩=>bif k==1 then inR 1 5 b&&(zeroC c&&(((t.length:Int)==0)&&((e.length:Int)==0)))else
   bif k==2 then(b==0)&&(vaC c&&(decide (0<(t.length:Int))&&(vaSs t&&vaSs e)))else false
def vaSs:List Step->Bool
 |[]=>true
 |s::r=>vaS s&&vaSs r
end
theorem QjX(s:Step):vaS s=bif s.Kind==1 then inR 1 5 s.By&&(zeroC s.Cond&&(((s.Then.length:Int)==0)&&((s.Else.length:Int)==0)))else
   bif s.Kind==2 then(s.By==0)&&(vaC s.Cond&&(decide (0<(s.Then.length:Int))&&(vaSs s.Then&&vaSs s.Else)))else false:=by cases s;rfl
theorem QfJ:∀l:List Step,vaSs l=l.all vaS
 |[]=>rfl
 |c::r=>by rw[vaSs,List.all_cons,QfJ r]
def fV:Uj->Bool
 |.ctyping_step x=>vaS x.Step
 |.ctyping_cond x=>vaC x.Cond
theorem QhZ(l:List Cond):(l.map ofCond).any (λf=> !fV f)= !vaCs l:=by
 rw[QfK,List.not_all_eq_any_not,List.any_map];rfl
theorem Qcg(l:List Step):(l.map ofStep).any (λf=> !fV f)= !vaSs l:=by
 rw[QfJ,List.not_all_eq_any_not,List.any_map];rfl
theorem Qfv{R:Nat->List Uj->Option Bool}(c:Cond)(g:Cond.wf c)(h:Ev (λn=>R n (c.Parts.map ofCond)) (!vaCs c.Parts)):
  Ev (λn=>F_gj (R n) n {Cond:=c}) (vaC c):=by
 rw[QjY];refine Ea (Ei λ_=>Qa _) (QaI (λ_=>?_) (λl=>?_))
 .exact Ea (Ea (QF _ _ _) (Ei λ_=>Ea (QF _ _ _) (Ei λ_=>Qa _))) (Qa _)
 .have fin:∀b,Ev (λn=>(bif b then(F_x n {Cond:=c}).bind λd=>(R n d).bind λf=>some (!f)else some false).bind λa=>some a) (b&&vaCs c.Parts):=by
   intro b;refine Ea ((Ei λ_=>Ea (QcA c g) (Ea h (Qa _)))) ((Qa _).eq (by simp))
  cases k:(c.Kind==4)with
  |true=>
   cases j:((c.Var==0)&&(c.N==0))with
   |true=>
    grind
   |false=>
    simp_all
  |false=>
   cases i:((c.Kind==2)||(c.Kind==3))with
   |true=>
    have e:Ev (λn=>(bif (c.Kind==2)then some (c.Kind==2)else some (c.Kind==3))) true:=by
     refine EA ?_
     grind
    cases j:((c.Var==0)&&(c.N==0))with
    |true=>
     grind
    |false=>
     refine Ea (Ea e (Qa _)) ((fin _).eq (by simp))
   |false=>
    have e:Ev (λn=>(bif (c.Kind==2)then some (c.Kind==2)else some (c.Kind==3))) false:=by
     refine EA ?_
     grind
    grind
theorem QhO:∀(m:Nat) (l:List Uj),fZs l<=m->l.length<=2097152->(∀f∈l,fwf f)->Ev (λn=>F_t n l) (l.any λf=> !fV f):=by
 intro m
 induction m using Nat.strongRecOn with
 |_ m q=>
 intro l G J u;refine Yx ?_;show Ev (λn=>B_t (F_t n) n l) _;refine Ev.contains l _ (λn f=>F_eq (F_t n) n f) (by omega) λf t=>?_;have z:fZ f<=fZs l:=by
  have:∀(l:List Uj),f∈l->fZ f<=fZs l:=by
   intro l
   induction l with
   |nil=>simp
   |cons x l q=>
    intro h;rw[QgT]
    grind
  grind
 refine Ea (v:=fV f) ?_ (Qa _);have a:∀c:Cond,Cond.wf c->cNs c.Parts<fZ f->Ev (λn=>F_t n (c.Parts.map ofCond)) (!vaCs c.Parts):=by
  intro c j i;rw[<- QhZ];obtain⟨H,B⟩:=Ja j;refine q (fZs (c.Parts.map ofCond)) (by rw[Qet];omega) _ (XS _) (by simp;omega) ?_;intro g d;obtain⟨y,e,rfl⟩:=Xe.1 d;exact B y e
 cases f with
 |ctyping_cond x=>
  obtain⟨c⟩:=x;have j:Cond.wf c:=u _ t;exact Qfv c j (a c j (by show cNs c.Parts<cN c;rw[QbI];omega))
 |ctyping_step x=>
  obtain⟨s⟩:=x;have i:Step.wf s:=u _ t;obtain⟨r,⟨w,k⟩,⟨E,p⟩⟩:=Y8 i;show Ev _ (vaS s);rw[QjX];refine QaI (λ_=>?_) (λL=>QaI (λ_=>?_) λ_=>Qa _)
  .refine Ea (Ea (QF _ _ _) (Ei λ_=>?_)) (Qa _);simp only[Qfx];refine Ei λ_=>Ea (Qbg s i) ((Qa _).eq ?_);unfold stepParts;rw[XX];simp only[Vu,XV,X2,X0];omega
  .refine Ea (Ei λ_=>?_) (Qa _);refine Ea (Qfv s.Cond r (a s.Cond r (by show _<sZ s;rw[Qfe,QbI];omega))) (Ei λ_=>Ei λ_=>?_);refine Ea (Qbg s i) (Ea (q (fZs (stepParts s)) ?_ _ (XS _) (by unfold stepParts;simp;omega) ?_) ((Qa _).eq ?_))
   .have:fZs (stepParts s)<sZ s:=by
     unfold stepParts;rw[Qes,QbD,QbD,Qfe];omega
    have F:fZ (Uj.ctyping_step {Step:=s})=sZ s:=rfl;omega
   .intro g d;rcases Vz.1 d with d|d
    .obtain⟨y,e,rfl⟩:=Xe.1 d;exact k y e
    .obtain⟨y,e,rfl⟩:=Xe.1 d;exact p y e
   .unfold stepParts;rw[List.any_append,Qcg,Qcg];simp
def goodT(l:List Step):Bool:=sDs 0 l&&(decide (sNs l<=64)&&decide (sCs l<=256))
def tiesE(l:List Step):Int:=bif goodT l then(bif l.isEmpty|| !vaSs l then 71 else 0)else 2
theorem Qke(l:List Step):okL (l.map ofStep) 0 0 0=goodT l:=by
 rw[XX,QfS _ _ _ _ (by omega) (by omega), <- Qcy,Qa1,Qa2];unfold goodT
 grind
theorem QlX(l:List Step)(p:l.length<=1048576)(i:∀x∈l,Step.wf x):Ev (λn=>F_dr n l) (tiesE l):=by
 refine Ea (Qez l (by omega)) (Ea ?_ (Qa _));have d:∀f∈l.map ofStep,fwf f:=by
  intro g j;obtain⟨y,h,rfl⟩:=Xe.1 j;exact i y h
 obtain⟨k,a,m⟩:=QkI _ (l.map ofStep) 0 0 0 (XS _) (by simp;omega) d (by omega) (by omega) (by omega) (.inl (by omega)) (by omega) (by omega);rw[Qke]at a;have p3:=a.shift;refine Ea p3 ?_;unfold tiesE;cases goodT l with
 |false=>exact Qa _
 |true=>
  have e:(((l.map ofStep).length:Int)==0)=l.isEmpty:=by
   cases l<;>simp;omega
  rw[e];refine Ea (Ql λ_=>Ea (QhO _ _ (XS _) (by simp;omega) d) (Qa _)) ?_
  grind[Qcg,Qa]
def condB(d:Nat):Int:=256*(18-(d:Int))+1000
theorem Qb2:∀(m:Nat) (c:Cond) (d:Nat),cN c<=m->d<=17->Cond.wf c->∃v:Int,Ev (λn=>F_h n c (d:Int)) v/\0<=v/\v<=condB d/\
  (d<=16/\cD (d+1) c=true/\cN c<=256->v=cN c)/\(¬(d<=16/\cD (d+1) c=true/\cN c<=256)->256<v):=by
 intro m
 induction m using Nat.strongRecOn with
 |_ m B=>
 intro c d hm hd hw;obtain⟨W,G⟩:=Ja hw;have E:∀{P:Int->Prop},(∃v:Int,Ev (λn=>B_h (F_h n) n c (d:Int)) v/\P v)->∃v:Int,Ev (λn=>F_h n c (d:Int)) v/\P v:=by
  rintro P ⟨v,j,e⟩;exact⟨v,Yx j,e⟩
 refine E ?_;unfold B_h;by_cases q:d<=16
 .rw[Qu (show¬(16:Int)<(d:Int)by omega)];have ed:i64.wrap ((d:Int)+1)=((d+1:Nat):Int):=QV (by omega);have loop:∀(r:List Cond) (i:Nat) (a:Int),c.Parts.drop i=r->i<=c.Parts.length->0<=a->a<=condB d->
    ∃v:Int,EvI (λn=>F_ew n c (d:Int) (F_h n)) (a,(i:Int)) v/\0<=v/\v<=condB d/\
     (cDs (d+1) r=true/\a+cNs r<=256->v=a+cNs r)/\(¬(cDs (d+1) r=true/\a+cNs r<=256)->256<v):=by
   intro r
   induction r with
   |nil=>
    intro i a H L z j;refine⟨a,Ej ?_,z,j,λ_=>by simp[cNs],λh=>?_⟩
    .unfold F_ew;simp only[QS H L,Vn,XI];exact Qa _
    .simp[cDs,cNs]at h;omega
   |cons x r F=>
    intro i a H L z j;obtain⟨g,s⟩:=Qy (by omega) H;have hx:cN x<cN c:=by
     have:∀l:List Cond,x∈l->cN x<=cNs l:=by
      intro l
      induction l with
      |nil=>intro h;cases h
      |cons y l B=>
       intro h;rw[cNs];rcases X5.1 h with rfl|h
       .omega
       .have:=B h;omega
     have:=this _ g.mem;rw[QbI c];omega
    by_cases f:a<=256
    .obtain⟨v,u,O,N,p,J⟩:=B (cN x) (by omega) x (d+1) (XS _) (by omega) (G x g.mem);have hB:condB (d+1)+256=condB d:=by unfold condB;omega
     have Y:condB d<=6000:=by unfold condB;omega
     have T:i64.wrap (a+v)=a+v:=Qj (by omega) (by omega);obtain⟨w,V,X,R,q4,M⟩:=F (i+1) (a+v) s (by have:=g.lt';omega) (by omega) (by omega);refine⟨w,Ex ?_ V,X,R,?_,?_⟩
     .unfold F_ew;simp only[g.lt,Vm,Qv f,XI,g.ix,g.nx,ed];refine Ea u ?_;rw[T];exact Qa _
     .rintro⟨e,t⟩;simp only[cDs,XV,Vo]at e;rw[cNs]at t⊢;have:=p ⟨e.1,e.2.1,by omega⟩;subst this;rw[q4 ⟨e.2.2,by omega⟩];omega
     .intro Q;by_cases k:d+1<=16/\cD (d+1+1) x=true/\cN x<=256
      .have:=p k;subst this;refine M λe=>Q ⟨?_,?_⟩
       .simp only[cDs,XV,Vo];exact⟨k.1,k.2.1,e.1⟩
       .rw[cNs];omega
      .have:=J k;exact M λe=>by omega
    .refine⟨a,Ej ?_,z,j,λh=>?_,λ_=>by omega⟩
     .unfold F_ew;simp only[g.lt,Vm,Qu f,XI,Vn];exact Qa _
     .omega
  obtain⟨v,u,O,N,p,J⟩:=loop c.Parts 0 1 rfl (XT _) (by omega) (by unfold condB;omega);refine⟨v,Qs (Ea u.ev (Qa _)),O,N,?_,?_⟩
  .rintro⟨_,e,t⟩;rw[QiF]at e;rw[QbI]at t⊢;rw[p ⟨e,by omega⟩];omega
  grind[QiF,QbI]
 .rw[Qv (show(16:Int)<(d:Int)by omega)];refine⟨1000,QeZ (Qa _),by omega,by unfold condB;omega,λh=>absurd h.1 q,λ_=>by omega⟩
def sizeB:Nat->Int
 |0=>10000
 |k+1=>3*sizeB k
theorem Qcl:∀k,10000<=sizeB k
 |0=>Int.le_refl _
 |k+1=>by have:=Qcl k;simp[sizeB];omega
theorem Qj7{k:Nat}(h:k<=17):sizeB k<=1291401630000:=by
 have:∀j,j<=17->sizeB j<=1291401630000:=by decide+kernel
 grind
def goodL(d:Nat)(l:List Step):Prop:=sDs d l=true/\sNs l<=64/\sCs l<=256
theorem Qiw:∀(m:Nat) (l:List Step) (d:Nat),sZs l<=m->d<=17->l.length<=1048576->(∀x∈l,Step.wf x)->∃a b:Int,Ev (λn=>F_j n l (d:Int)) (a,b)/\0<=a/\0<=b/\a<=sizeB (17-d)/\b<=sizeB (17-d)/\
  (goodL d l->a=sNs l/\b=sCs l)/\(¬goodL d l->64<a\/256<b):=by
 intro m
 induction m using Nat.strongRecOn with
 |_ m F=>
 intro l d hm hd hl hw;have ad:∀{P:Int->Int->Prop},(∃a b:Int,Ev (λn=>B_j (F_j n) n l (d:Int)) (a,b)/\P a b)->∃a b:Int,Ev (λn=>F_j n l (d:Int)) (a,b)/\P a b:=by
  rintro P ⟨a,b,B,p⟩;exact⟨a,b,Yx B,p⟩
 refine ad ?_;unfold B_j;by_cases u:0<l.length/\ ¬d<=16
 .rw[Qv (show(0:Int)<(l.length:Int)by omega),Qv (show(16:Int)<(d:Int)by omega)];have:=Qcl (17-d);refine⟨1000,1000,Ea (Qa _) (QeZ (Qa _)),by omega,by omega,by omega,by omega,λh=>?_,λ_=>by omega⟩;exfalso;cases l with
  |nil=>simp at u
  |cons x r=>
   have:=h.1;simp only[sDs,XV,Vo]at this;omega
 .have j:Ev (λn:Nat=>((bif decide (0<(l.length:Int))then some (decide (16<(d:Int)))else some false):Option Bool)) false:=by
   grind[Qa]
  have ed:i64.wrap ((d:Int)+1)=((d+1:Nat):Int):=QV (by omega);have loop:∀(r:List Step) (i:Nat) (a b:Int),l.drop i=r->i<=l.length->0<=a->0<=b->a<=sizeB (17-d)->b<=sizeB (17-d)->
    ∃a' b':Int,EvI (λn=>F_eb n l (d:Int) (F_j n)) (a,b,(i:Int)) (a',b')/\0<=a'/\0<=b'/\a'<=sizeB (17-d)/\b'<=sizeB (17-d)/\
     (sDs d r=true/\a+sNs r<=64/\b+sCs r<=256->a'=a+sNs r/\b'=b+sCs r)/\(¬(sDs d r=true/\a+sNs r<=64/\b+sCs r<=256)->64<a'\/256<b'):=by
   intro r
   induction r with
   |nil=>
    intro i a b hr hi j B p L;refine⟨a,b,Ej ?_,j,B,p,L,λ_=>by simp[sNs,sCs],λh=>?_⟩
    .unfold F_eb;simp only[QS hr hi,Vn,XI];exact Qa _
    .simp[sDs,sNs,sCs]at h;omega
   |cons s r ac=>
    intro i a b hr hi j B p L;obtain⟨g,V⟩:=Qy (by omega) hr;have ag:=g.lt';have t:d<=16:=by
     omega
    have ai:sZ s<=sZs l:=by
     have:∀l:List Step,s∈l->sZ s<=sZs l:=by
      intro l
      induction l with
      |nil=>intro h;cases h
      |cons y l F=>
       intro h;rw[sZs];rcases X5.1 h with rfl|h
       .omega
       .have:=F h;omega
     exact this _ g.mem
    by_cases e:a<=64/\b<=256
    .obtain⟨wc,⟨R,H⟩,⟨Y,Q⟩⟩:=Y8 (hw s g.mem);have ah:=Qfe s;obtain⟨w,f,p1,p2,p3,p4,p5,E,p7⟩:=F (sZs s.Then) (by omega) s.Then (d+1) (XS _) (by omega) R H;obtain⟨y1,y2,q1,q2,q3,q4,q5,q6,q7⟩:=F (sZs s.Else) (by omega) s.Else (d+1) (XS _) (by omega) Y Q;have hB:sizeB (17-d)=3*sizeB (17-(d+1)):=by
      rw[show 17-d=(17-(d+1))+1 by omega];rfl
     have J:=Qcl (17-(d+1));have ae:=Qj7 (k:=17-d) (by omega);have hc:∃z:Int,0<=z/\z<=5608/\Ev (λn=>((bif (!zeroC s.Cond)then(idx l (i:Int)).bind λN=>(F_h n N.Cond 0).bind λT=>some (i64.wrap ((i64.wrap ((i64.wrap (b+f))+y2))+T))else some (i64.wrap ((i64.wrap (b+f))+y2))):Option Int)) (b+f+y2+z)/\
       ((zeroC s.Cond||cD 1 s.Cond)=true/\(bif zeroC s.Cond then 0 else cN s.Cond)<=256->z=((bif zeroC s.Cond then 0 else cN s.Cond:Nat):Int))/\(¬((zeroC s.Cond||cD 1 s.Cond)=true/\(bif zeroC s.Cond then 0 else cN s.Cond)<=256)->256<z):=by
      have e1:i64.wrap (b+f)=b+f:=Qj (by omega) (by omega);have e2:i64.wrap (b+f+y2)=b+f+y2:=Qj (by omega) (by omega);cases hz:zeroC s.Cond with
      |true=>
       refine⟨0,by omega,by omega,?_,λ_=>by simp,λh=>absurd ⟨rfl,by simp⟩ h⟩;simp only[Xg,Vn,e1,e2];exact(Qa _).eq (by omega)
      |false=>
       obtain⟨v,u1,u2,u3,u4,u5⟩:=Qb2 _ s.Cond 0 (XS _) (by omega) wc;have O:v<=5608:=by unfold condB at u3;omega
       have e3:i64.wrap (b+f+y2+v)=b+f+y2+v:=Qj (by omega) (by omega);refine⟨v,u2,O,?_,λh=>?_,λh=>?_⟩
       .simp only[Xh,Vm,g.ix,XI,e1,e2];refine Ea u1 ?_;rw[e3];exact Qa _
       .simp only[Bool.false_or,Vn]at h⊢;exact u4 ⟨by omega,h.1,h.2⟩
       .simp only[Bool.false_or,Vn]at h;exact u5 λq=>h ⟨q.2.1,q.2.2⟩
     obtain⟨z,z0,z1,z2,z3,z4⟩:=hc;have e4:i64.wrap (a+1)=a+1:=Qj (by omega) (by omega);have e5:i64.wrap (a+1+w)=a+1+w:=Qj (by omega) (by omega);have e6:i64.wrap (a+1+w+y1)=a+1+w+y1:=Qj (by omega) (by omega);obtain⟨w1,w2,v1,v2,v3,v4,v5,v6,G⟩:=ac (i+1) (a+1+w+y1) (b+f+y2+z) V (by omega) (by omega) (by omega) (by omega) (by omega);refine⟨w1,w2,Ex ?_ v1,v2,v3,v4,v5,?_,?_⟩
     .unfold F_eb;simp only[g.lt,Vm,Qv e.1,Qv e.2,XI,g.ix,g.nx,ed,QeB];refine Ea p1 (Ea q1 ?_);simp only[g.ix,XI]at z2;refine Ea z2 ?_;rw[e4,e5,e6];exact Qa _
     .rintro⟨g1,g2,g3⟩;simp only[sDs,XV,Vo,Qgt]at g1;obtain⟨af,⟨M,ab,W⟩,aa⟩:=g1;rw[sNs,Qff]at g2⊢;rw[sCs,Qd5]at g3⊢;obtain⟨k1,k2⟩:=E ⟨ab,by omega,by omega⟩;obtain⟨k3,k4⟩:=q6 ⟨W,by omega,by omega⟩;have k5:=z3 ⟨M,by omega⟩;obtain⟨k6,k7⟩:=v6 ⟨aa,by omega,by omega⟩;constructor<;>omega
     .intro hn;by_cases b1:goodL (d+1) s.Then
      .obtain⟨k1,k2⟩:=E b1;by_cases X:goodL (d+1) s.Else
       .obtain⟨k3,k4⟩:=q6 X;by_cases b3:(zeroC s.Cond||cD 1 s.Cond)=true/\(bif zeroC s.Cond then 0 else cN s.Cond)<=256
        .have k5:=z3 b3;refine G λq=>hn ⟨?_,?_,?_⟩
         .simp only[sDs,XV,Vo,Qgt];exact⟨t,⟨b3.1,b1.1,X.1⟩,q.1⟩
         .rw[sNs,Qff];omega
         .rw[sCs,Qd5];omega
        .have:=z4 b3;exact G λq=>by omega
       .have:=q7 X;exact G λq=>by omega
      .have:=p7 b1;exact G λq=>by omega
    .refine⟨a,b,Ej ?_,j,B,p,L,λh=>?_,λ_=>?_⟩
     .unfold F_eb;have:Ev (λn:Nat=>((bif decide ((i:Int)<(l.length:Int))then(bif decide (a<=64)then some (decide (b<=256))else some false)else some false):Option Bool)) false:=by
       rw[g.lt];by_cases q:a<=64
       .rw[Qv q,Qu (show¬b<=256 from λz=>e ⟨q,z⟩)];exact Qa _
       .rw[Qu q];exact Qa _
      exact Ea this (Qs (Qa _))
     iterate 2 omega
  have J:=Qcl (17-d);obtain⟨a,b,p1,p2,p3,p4,p5,E,p7⟩:=loop l 0 0 0 rfl (XT _) (by omega) (by omega) (by omega) (by omega);refine⟨a,b,Ea j (Qs (Ea p1.ev (Qa _))),p2,p3,p4,p5,λh=>?_,λh=>?_⟩
  .obtain⟨k1,k2⟩:=E ⟨h.1,by have:=h.2.1;omega,by have:=h.2.2;omega⟩;constructor<;>omega
  .exact p7 λq=>h ⟨q.1,by omega,by omega⟩
theorem Qg0:∀(m:Nat) (c:Cond),cN c<=m->Cond.wf c->Ev (λn=>F_u n c) (vaC c):=by
 intro m
 induction m using Nat.strongRecOn with
 |_ m r=>
 intro c w s;obtain⟨t,j⟩:=Ja s;refine Yx ?_;show Ev (λn=>B_u (F_u n) n c) _;rw[QjY];have p:∀x∈c.Parts,cN x<cN c:=by
  intro x p;have:∀l:List Cond,x∈l->cN x<=cNs l:=by
   intro l
   induction l with
   |nil=>simp
   |cons y l r=>
    intro h;rw[cNs]
    grind
  have:=this _ p;rw[QbI c];omega
 have loop:Ev (λn=>iter (F_fz n c (F_u n)) n 0) (bif c.Parts.all vaC then Ctl.cont ()else Ctl.done false):=by
  refine Yt c.Parts vaC _ _ (by omega) (λi x a=>?_) ?_
  .unfold F_fz;simp only[a.lt,Vm,a.ix,XI,a.nx];refine Ea (r (cN x) (by have:=p x a.mem;omega) x (XS _) (j x a.mem)) ?_;cases vaC x<;>exact Qa _
  simp_all[F_fz,Qa]
 have fin:Ev (λn=>((bif (c.Var != 0)then some true else some (c.N != 0)):Option Bool).bind λg=>(bif g then some false else(iter (F_fz n c (F_u n)) n 0).bind λf=>match f with|.cont sb48=>(some true)|.done sb48=>some sb48)) (((c.Var==0)&&(c.N==0))&&vaCs c.Parts):=by
  refine Ea (v:= !((c.Var==0)&&(c.N==0))) (EA ?_) ?_
  .grind
  .cases((c.Var==0)&&(c.N==0))with
   |false=>exact Qa _
   |true=>
    refine Qs (Ea loop ?_)
    grind[QfK,Qa]
 refine QaI (λ_=>?_) (λz=>?_)
 .refine Ea (v:=_) ((Ei λ_=>Ei λ_=>Ei λ_=>Ei λ_=>Qa _).eq ?_) (Qa _);unfold inR
  grind
 .have e:Ev (λn:Nat=>((bif (c.Kind==2)then some (c.Kind==2)else some (c.Kind==3)):Option Bool)) ((c.Kind==2)||(c.Kind==3)):=EA (by rw[QkZ]);refine Ea e ?_;cases k:((c.Kind==2)||(c.Kind==3))with
  |true=>
   have q:(c.Kind==4)=false:=by
    rw[VI];simp only[Bool.or_eq_true,Vu]at k;simp only[Vu,ne_eq];omega
   rw[q];have u:(bif decide ((c.Parts.length:Int)<1)then some true else some (decide (16<(c.Parts.length:Int))))=some (!(decide (0<(c.Parts.length:Int))&&decide ((c.Parts.length:Int)<=16))):=by
    rw[QiG];congr 1;rw[XX];simp only[Bool.or_eq_true,Vo,Bool.not_eq_true',Bool.and_eq_false_iff,decide_eq_false_iff_not];omega
   rw[u];cases d:(decide (0<(c.Parts.length:Int))&&decide ((c.Parts.length:Int)<=16))with
   |false=>
    refine Ea (Qa _) ((Qa _).eq (by simp))
   |true=>
    refine Ea (Qa _) (fin.eq (by simp))
  |false=>
   simp only[Vn];cases q:(c.Kind==4)with
   |true=>
    simp only[Vm];cases d:((c.Parts.length:Int)==1)with
    |false=>
     refine Ea (v:=Ctl.done false) (EA ?_) ((Qa _).eq (by simp));simp only[bne,d,Xh,Vm]
    |true=>
     refine Ea (v:=Ctl.cont ()) (EA ?_) (fin.eq (by simp));simp only[bne,d,Xg,Vn]
   |false=>
    refine Ea (Qa _) (Qa _)
theorem QhK(c:Cond)(a:Cond.wf c)(f:cD 1 c=true)(e:cN c<=256):Ev (λn=>F_by n c) (bif vaC c then 0 else 71):=by
 obtain⟨v,g,_,_,d,_⟩:=Qb2 _ c 0 (XS _) (by omega) a;have:=d ⟨by omega,f,e⟩;refine Ea g ?_;rw[Qu (show¬256<v by omega)];refine Qs (Ea (Qg0 _ c (XS _) a) ?_);cases vaC c<;>exact Qa _
theorem QiR{c:Cond}(h:zeroC c=true):cD 1 c=true/\cN c<=256:=by
 unfold zeroC at h;simp only[XV,Vu]at h;have:c.Parts=[]:=(by simp_all);rw[QiF,QbI,this];exact⟨rfl,by simp[cNs]⟩
theorem QgY:∀(m:Nat) (l:List Step) (d:Nat),sZs l<=m->l.length<=1048576->(∀x∈l,Step.wf x)->sDs d l=true->sCs l<=256->Ev (λn=>F_f n l) (vaSs l):=by
 intro m
 induction m using Nat.strongRecOn with
 |_ m B=>
 intro l d Y hl R H hc;refine Yx ?_;show Ev (λn=>B_f (F_f n) n l) _;unfold B_f;have q:∀s∈l,sZ s<=sZs l/\sDp (d+1) s=true/\sC s<=sCs l:=by
  intro s;have:∀l:List Step,s∈l->sDs d l=true->sZ s<=sZs l/\sDp (d+1) s=true/\sC s<=sCs l:=by
   intro l
   induction l with
   |nil=>simp
   |cons y l B=>
    intro h H;simp only[sDs,XV]at H;rw[sZs,sCs]
    grind
  grind
 rw[QfJ];have loop:Ev (λn=>iter (F_hf n l (F_f n)) n 0) (bif l.all vaS then Ctl.cont ()else Ctl.done false):=by
  refine Yt l vaS _ _ (by omega) (λi s r=>?_) ?_
  .obtain⟨m1,z,m3⟩:=q s r.mem;obtain⟨Q,⟨w,t⟩,⟨E,u⟩⟩:=Y8 (R s r.mem);have J:=Qfe s;have j:=Qd5 s;rw[Qgt]at z;simp only[XV]at z;obtain⟨G,M,V⟩:=z;have g:cD 1 s.Cond=true/\cN s.Cond<=256:=by
    cases F:zeroC s.Cond with
    |true=>exact QiR F
    |false=>
     rw[F]at G j;simp only[Vn]at j;exact⟨by simpa using G,by omega⟩
   unfold F_hf;simp only[r.lt,Vm,r.ix,XI,r.nx,QeB];rw[QjX];cases h1:(s.Kind==1)with
   |true=>
    simp only[Vm];have e:Ev (λn:Nat=>((bif decide (s.By<1)then some true else(bif decide (5<s.By)then some true else(bif (!zeroC s.Cond)then some true else(bif ((s.Then.length:Int) != 0)then some true else some ((s.Else.length:Int) != 0))))):Option Bool)) (!(inR 1 5 s.By&&(zeroC s.Cond&&(((s.Then.length:Int)==0)&&((s.Else.length:Int)==0))))):=by
     refine(Ql λ_=>Ql λ_=>Ql λ_=>Ql λ_=>Qa _).eq ?_;unfold inR;cases zeroC s.Cond with
     |false=>simp
     |true=>
      rw[XX];simp only[Bool.or_eq_true,Vo,Bool.not_eq_true',Bool.and_eq_false_iff,decide_eq_false_iff_not,bne_iff_ne,ne_eq,Vv,Xg,Vw,Xi,false_or];omega
    cases p:(inR 1 5 s.By&&(zeroC s.Cond&&(((s.Then.length:Int)==0)&&((s.Else.length:Int)==0))))with
    |true=>rw[p]at e;exact Ea (Ea e (Qa _)) (Qa _)
    |false=>rw[p]at e;exact Ea (Ea e (Qa _)) (Qa _)
   |false=>
    simp only[Vn];cases X:(s.Kind==2)with
    |true=>
     simp only[Vm];have e:Ev (λn=>((bif (s.By != 0)then some true else(F_by n s.Cond).bind λk=>(bif (k != 0)then some true else(bif ((s.Then.length:Int)==0)then some true else(F_f n s.Then).bind λf=>(bif (!f)then some true else(F_f n s.Else).bind λa=>some (!a))))):Option Bool)) (!((s.By==0)&&(vaC s.Cond&&(decide (0<(s.Then.length:Int))&&(vaSs s.Then&&vaSs s.Else))))):=by
      have L:=B (sZs s.Then) (by omega) s.Then (d+1) (XS _) w t M (by omega);have O:=B (sZs s.Else) (by omega) s.Else (d+1) (XS _) E u V (by omega);have N:Ev (λn=>(F_f n s.Else).bind λa=>some (!a)) (!vaSs s.Else):=Ea O (Qa _);have T:Ev (λn=>(F_f n s.Then).bind λf=>(bif (!f)then some true else(F_f n s.Else).bind λa=>some (!a))) (!vaSs s.Then|| !vaSs s.Else):=Ea L (Ql λ_=>N);refine(Ql λ_=>Ea (QhK s.Cond Q g.1 g.2) (Ql λ_=>Ql λ_=>T)).eq ?_;have P:((bif vaC s.Cond then(0:Int)else 71) != 0)= !vaC s.Cond:=by cases vaC s.Cond<;>rfl
      have W:((s.Then.length:Int)==0)= !decide (0<(s.Then.length:Int)):=by
       rw[XX];simp
      rw[P,W];simp only[Bool.not_and,bne]
     cases p:((s.By==0)&&(vaC s.Cond&&(decide (0<(s.Then.length:Int))&&(vaSs s.Then&&vaSs s.Else))))with
     |true=>rw[p]at e;exact Ea (Ea e (Qa _)) (Qa _)
     |false=>rw[p]at e;exact Ea (Ea e (Qa _)) (Qa _)
    |false=>exact Ea (Qa _) (Qa _)
  simp_all[F_hf,Qa]
 refine Ea loop ?_;cases l.all vaS<;>exact Qa _
theorem QhJ(l:List Step)(i:l.length<=1048576)(g:∀x∈l,Step.wf x):Ev (λn=>F_ec n l) (tiesE l):=by
 obtain⟨a,b,m,t,s,_,_,r,k⟩:=Qiw _ l 0 (XS _) (by omega) i g;refine Ea m ?_;have p:goodT l=true↔goodL 0 l:=by
  unfold goodT goodL;simp
 unfold tiesE;cases f:goodT l with
 |false=>
  have:=k (λh=>by grind);have e:(bif decide (64<a)then some true else some (decide (256<b)))=some true:=by
   grind
  exact Ea (EA e) (Qa _)
 |true=>
  have d:=p.1 f;obtain⟨w,u⟩:=r d;have y:=d.2.1;have j:=d.2.2;have e:(bif decide (64<a)then some true else some (decide (256<b)))=some false:=by
   grind
  refine Ea (EA e) (Qs ?_);have q:((l.length:Int)==0)=l.isEmpty:=by
   cases l<;>simp;omega
  rw[q];refine Ea (Ql λ_=>Ea (QgY _ l 0 (XS _) i g d.1 j) (Qa _)) ?_
  grind[Qa]
mutual
def hP:Part->Nat
 |⟨_,_,ps⟩=>bif ps.isEmpty then 0 else 1+hPs ps
def hPs:List Part->Nat
 |[]=>0
 |p::r=>max (hP p) (hPs r)
end
theorem Qmm(p:Part):hP p=bif p.Parts.isEmpty then 0 else 1+hPs p.Parts:=by cases p;rfl
theorem Qir{p:Part}:∀{l:List Part},p∈l->hP p<=hPs l
 |q::r,h=>by
  simp[hPs];rcases X5.1 h with rfl|h
  .omega
  .have:=Qir h;omega
theorem QgE{α:Type}(l:List α):((l.length:Int)==0)=l.isEmpty:=by
 cases l<;>simp;omega
theorem QaD:∀l:List Part,l.length<=szPs l
 |[]=>XS _
 |p::r=>by have:=QaD r;rw[szPs,YB,XZ];omega
theorem Qds:∀(m:Nat) (l:List Part) (k:Nat),szPs l<=m->k<=17->l.length<=1048576->(∀x∈l,Part.wf x)->Ev (λn=>F_k n l (k:Int)) ((min (hPs l) k:Nat):Int):=by
 intro m
 induction m using Nat.strongRecOn with
 |_ m w=>
 intro l k E H F s;refine Yx ?_;show Ev (λn=>B_k (F_k n) n l (k:Int)) _;unfold B_k;have loop:∀(r:List Part) (i:Nat) (a:Nat),l.drop i=r->i<=l.length->a<=k->EvI (λn=>F_cm n l (k:Int) (F_k n)) ((a:Int),(i:Int)) ((max a (min (hPs r) k):Nat):Int):=by
  intro r
  induction r with
  |nil=>
   intro i a g h d;refine Ej ?_;unfold F_cm;simp only[QS g h,Vn,XI];refine(Qa _).eq ?_;simp[hPs]
  |cons p r e=>
   intro i a g h y;obtain⟨d,f⟩:=Qy (by omega) g;obtain⟨u,q⟩:=Q9 (s p d.mem);by_cases B:0<k
   .have j:i64.wrap ((k:Int)-1)=((k-1:Nat):Int):=by rw[Qj (by omega) (by omega)];omega
    have t:=YO d.mem;rw[YB]at t;have step:Ev (λn=>F_cm n l (k:Int) (F_k n) ((a:Int),(i:Int))) (.cont (((max a (min (hP p) k):Nat):Int),((i+1:Nat):Int))):=by
     unfold F_cm;simp only[d.lt,Vm,Qv (show(0:Int)<(k:Int)by omega),XI,d.ix,d.nx,j,bne,QgE];rw[Qmm];cases G:p.Parts.isEmpty with
     |true=>
      simp_all[Qa]
     |false=>
      simp only[Xh,Vm,Vn];refine Ea (Ea (w (szPs p.Parts) (by omega) p.Parts (k-1) (XS _) (by omega) u q) (Qa _)) ((Qa _).eq ?_);have z:i64.wrap (1+((min (hPs p.Parts) (k-1):Nat):Int))=((1+min (hPs p.Parts) (k-1):Nat):Int):=by rw[Qj (by omega) (by omega)];omega
      rw[z];congr 2;split<;>omega
    refine(Ex step (e (i+1) _ f (by have:=d.lt';omega) (by omega))).eq ?_;rw[hPs];omega
   simp_all[Ej,F_cm,Qa]
 refine Ea ((loop l 0 0 rfl (XT _) (XT _)).ev) ((Qa _).eq ?_);omega
theorem Qdt:∀(m:Nat) (l:List Part),szPs l<=m->l.length<=1048576->(∀x∈l,Part.wf x)->Ev (λn=>F_o n l) ((min (szPs l) 257:Nat):Int):=by
 intro m
 induction m using Nat.strongRecOn with
 |_ m z=>
 intro l F u t;refine Yx ?_;show Ev (λn=>B_o (F_o n) n l) _;have loop:∀(r:List Part) (i:Nat) (a:Nat),l.drop i=r->i<=l.length->a<=1048576->∃b:Nat,EvI (λn=>F_ek n l (F_o n)) ((a:Int),(i:Int)) (b:Int)/\min b 257=min (a+(szPs r-r.length)) 257:=by
  intro r
  induction r with
  |nil=>
   intro i a h j _;refine⟨a,Ej ?_,by simp[szPs]⟩;unfold F_ek;simp only[QS h j,Vn,XI];exact Qa _
  |cons p r f=>
   intro i a h j E;obtain⟨d,g⟩:=Qy (by omega) h;obtain⟨y,s⟩:=Q9 (t p d.mem);have w:=YO d.mem;rw[YB]at w;have B:=QaD r;by_cases q:a<=256
   .obtain⟨b,e,k⟩:=f (i+1) (a+min (szPs p.Parts) 257) g (by have:=d.lt';omega) (by omega);refine⟨b,Ex ?_ e,?_⟩
    .unfold F_ek;simp only[d.lt,Vm,Qv (show(a:Int)<=256 by omega),XI,d.ix,d.nx];refine Ea (z (szPs p.Parts) (by omega) p.Parts (XS _) y s) ((Qa _).eq ?_);rw[Qj (by omega) (by omega)];congr 2
     all_goals omega
    .rw[k,szPs,YB,XZ];omega
   .refine⟨a,Ej ?_,by omega⟩;unfold F_ek;simp only[d.lt,Vm,Qu (show¬(a:Int)<=256 by omega),XI,Vn];exact Qa _
 obtain⟨b,e,k⟩:=loop l 0 l.length rfl (XT _) u;refine Ea e.ev ((Qa _).eq ?_);have:=QaD l;omega
theorem QkH:∀(m:Nat) (l:List Part) (k:Nat),szPs l<=m->hPs l<=k->k<=17->szPs l<=256->(∀x∈l,Part.wf x)->Ev (λn=>F_p n l (k:Int)) ((hPs l:Int),(szPs l:Int)):=by
 intro m
 induction m using Nat.strongRecOn with
 |_ m B=>
 intro l k P R s g L;have u:=QaD l;refine Yx ?_;show Ev (λn=>B_p (F_p n) n l (k:Int)) _;unfold B_p;have loop:∀(r:List Part) (i:Nat) (a b:Nat),l.drop i=r->i<=l.length->a<=17->b+(szPs r-r.length)<=256->EvI (λn=>F_fu n l (k:Int) (F_p n)) ((a:Int),(b:Int),(i:Int)) (((max a (hPs r):Nat):Int),((b+(szPs r-r.length):Nat):Int)):=by
  intro r
  induction r with
  |nil=>
   intro i a b q t _ _;refine Ej ?_;unfold F_fu;simp only[QS q t,Vn,XI]
   grind[Qa,hPs,szPs]
  |cons p r j=>
   intro i a b q t M h;obtain⟨d,e⟩:=Qy (by omega) q;obtain⟨Q,H⟩:=Q9 (L p d.mem);have z:=YO d.mem;have f:=Qir d.mem;rw[YB]at z;have E:=QaD r;rw[szPs,YB,XZ]at h;have step:Ev (λn=>F_fu n l (k:Int) (F_p n) ((a:Int),(b:Int),(i:Int))) (.cont (((max a (hP p):Nat):Int),((b+szPs p.Parts:Nat):Int),((i+1:Nat):Int))):=by
    unfold F_fu;simp only[d.lt,Vm,d.ix,XI,d.nx,QgE];rw[Qmm]at f⊢;cases w:p.Parts.isEmpty with
    |true=>
     have y:p.Parts=[]:=by simpa using w
     simp only[Vm,XI];rw[y];simp only[szPs,Xw,Nat.max_zero];exact Qa _
    |false=>
     rw[w]at f;simp only[Vn]at f⊢;have O:0<k:=by omega
     have F:i64.wrap ((k:Int)-1)=((k-1:Nat):Int):=by rw[Qj (by omega) (by omega)];omega
     have N:((k:Int)==0)=false:=beq_false_of_ne (by omega);rw[N,Qu (show¬(256:Int)<(b:Int)by omega),F];simp only[Vn,XI];refine Ea (Ea (B (szPs p.Parts) (by omega) p.Parts (k-1) (XS _) (by omega) (by omega) (by omega) H) (Qa _)) ((Qa _).eq ?_);have G:i64.wrap ((hPs p.Parts:Int)+1)=((hPs p.Parts+1:Nat):Int):=QV (by omega);have J:i64.wrap ((b:Int)+(szPs p.Parts:Int))=((b+szPs p.Parts:Nat):Int):=by rw[Qj (by omega) (by omega)];omega
     simp only[G,J];congr 2;split<;>omega
   refine(Ex step (j (i+1) _ _ e (by have:=d.lt';omega) (by omega) (by omega))).eq ?_;rw[hPs,szPs,YB,XZ];congr 1<;>omega
 refine Ea ((loop l 0 0 l.length rfl (XT _) (by omega) (by omega)).ev) ((Qa _).eq ?_)
 grind
def repS:Nat->List Int->List Int->List Int
 |0,out,_=>out
 |k+1,out,lap=>if 256<out.length then out else repS k (out++lap) lap
mutual
def lapS:Part->List Int
 |⟨m,laps,ps⟩=>bif decide (0<laps)then expS [] ps else[m]
def expS:List Int->List Part->List Int
 |out,[]=>out
 |out,p::r=>expS (repS (p.Laps.toNat+(bif decide (0<p.Laps)then 0 else 1)) out (lapS p)) r
end
theorem Qaw(p:Part):lapS p=bif decide (0<p.Laps)then expS [] p.Parts else[p.Mat]:=by cases p;rfl
theorem Qcq{k:Nat}{a d:List Int}(h:256<a.length):repS k a d=a:=by
 cases k with
 |zero=>rfl
 |succ k=>rw[repS,Vq h]
theorem Qcz:∀(l:List Part) {out:List Int},256<out.length->expS out l=out
 |[],out,h=>by rw[expS]
 |p::r,out,h=>by rw[expS,Qcq h];exact Qcz r h
theorem Qcp:∀(k:Nat) (out lap:List Int),(repS k out lap).length<=max out.length (256+lap.length)
 |0,out,lap=>by rw[repS];omega
 |k+1,out,lap=>by
  rw[repS];split
  .omega
  .have:=Qcp k (out++lap) lap
   grind
theorem Qey:∀(m:Nat) (l:List Part) (a:List Int),szPs l<=m->(expS a l).length<=max a.length (256+257*szPs l):=by
 intro m
 induction m using Nat.strongRecOn with
 |_ m i=>
 intro l;have e:∀p∈l,szPs l<=m->(lapS p).length<=257*szP p:=by
  intro p j k;have n:=YO j;rw[Qaw,YB]at*;cases decide (0<p.Laps)with
  |true=>
   have:=i (szPs p.Parts) (by omega) p.Parts [] (XS _)
   grind
  |false=>simp;omega
 have h:∀(r:List Part) (a:List Int),(∀p∈r,(lapS p).length<=257*szP p)->(expS a r).length<=max a.length (256+257*szPs r):=by
  intro r
  induction r with
  |nil=>intro a _;rw[expS];omega
  |cons p r d=>
   intro a g;rw[expS,szPs];have s:=d (repS (p.Laps.toNat+(bif decide (0<p.Laps)then 0 else 1)) a (lapS p)) λq f=>g q (by simp[f])
   grind[Qcp]
 grind
theorem QgI(p:Part):(lapS p).length<=257*szP p:=by
 rw[Qaw,YB];cases decide (0<p.Laps)with
 |true=>
  have:=Qey _ p.Parts [] (XS _)
  grind
 |false=>simp;omega
theorem Qjh(kk:Int):∀(m:Nat) (l:List Part),szPs l<=m->szPs l<=256->l.length<=1048576->(∀x∈l,Part.wf x)->partsS kk l=true->Ev (λn=>F_q n l) (expS [] l):=by
 intro m
 induction m using Nat.strongRecOn with
 |_ m T=>
 intro l hm L hl hw Q;rw[YZ,Xs]at Q;refine Yx ?_;show Ev (λn=>B_q (F_q n) n l) _;unfold B_q;have inner:∀(p:Part) (e:List Int) (g:p.Laps=0\/0<p.Laps/\p.Laps<=64) (B:e.length<=100000) (j:Nat) (k:Nat) (a:List Int),j+k=p.Laps.toNat+(bif decide (0<p.Laps)then 0 else 1)->a.length<=200000->
   ∃d:Ctl (List Int) (Ctl ((List Int)×Int) (Ctl (List Int) (List Int))),EvI (λn=>F_fv n p e) (a,(j:Int)) d/\
    (d=.cont (repS k a e)\/(256<(repS k a e).length/\d=.done (.done (.done (repS k a e))))):=by
  intro p e g B j k
  induction k generalizing j with
  |zero=>
   intro a y _;refine⟨_,Ej (b:=.cont a) ?_,.inl rfl⟩;unfold F_fv;have:¬((j:Int)<if p.Laps<1 then 1 else p.Laps):=by
    grind
   rw[Qu this];exact Qa _
  |succ k N=>
   intro a y z;have u:((j:Int)<if p.Laps<1 then 1 else p.Laps):=by
    rcases g with h|⟨h,h'⟩
    .rw[h]at y⊢;simp at y⊢;omega
    .rw[Qv h]at y;simp at y;rw[Vp (by omega)];omega
   by_cases q:256<a.length
   .refine⟨_,Ej (b:=.done (.done (.done a))) ?_,.inr ⟨by rw[Qcq q];exact q,by rw[Qcq q]⟩⟩;unfold F_fv;rw[Qv u,Qv (show(256:Int)<(a.length:Int)by omega)];exact Qa _
   .obtain⟨d,t,E⟩:=N (j+1) (a++e) (by omega) (by rw[X2];omega);refine⟨d,Ex ?_ t,by rw[repS,Vp q];exact E⟩;unfold F_fv;rw[Qv u,Qu (show¬(256:Int)<(a.length:Int)by omega)];refine QeZ (Qs (QO (QaG a e (by omega)) ?_));rw[QV (by omega)];exact Qa _
 have loop:∀(r:List Part) (i:Nat) (a:List Int),l.drop i=r->i<=l.length->a.length<=100000->
   ∃d:Ctl (List Int) (List Int),EvI (λn=>F_dz n l (F_q n)) (a,(i:Int)) d/\(d=.cont (expS a r)\/d=.done (expS a r)):=by
  intro r
  induction r with
  |nil=>
   intro i a J O _;refine⟨.cont a,Ej ?_,.inl (by rw[expS])⟩;unfold F_dz;simp only[QS J O,Vn];exact Qa _
  |cons p r M=>
   intro i a J O z;obtain⟨f,H⟩:=Qy (by omega) J;have u:=f.lt';have R:=YO f.mem;obtain⟨w1,V⟩:=Q9 (hw p f.mem);have g:=Q p f.mem;rw[QaW]at g;have s:p.Laps=0\/0<p.Laps/\p.Laps<=64:=by
    cases P:(p.Laps==0)with
    |true=>exact .inl (by simpa using P)
    |false=>
     rw[P]at g;simp only[Vn,inR,XV,Vo]at g;exact .inr ⟨by omega,by omega⟩
   have W:=QgI p;have q:Ev (λn=>((bif decide (0<p.Laps)then(F_q n p.Parts).bind λG=>some G else some [p.Mat]):Option (List Int))) (lapS p):=by
    rw[Qaw];refine QaI (λh=>?_) (λ_=>Qa _);rw[YB]at R;refine Ea (T (szPs p.Parts) (by omega) p.Parts (XS _) (by omega) w1 V ?_) (Qa _);have:(p.Laps==0)=false:=by
     simp only[Vo]at h;exact beq_false_of_ne (by omega)
    rw[this]at g;simp only[Vn,XV]at g;exact g.2.2.2
   obtain⟨d,t,E⟩:=inner p (lapS p) s (by omega) 0 _ a (Xv _) (by omega);rw[expS];rcases E with rfl|⟨F,rfl⟩
   .obtain⟨w,X,Y⟩:=M (i+1) (repS (p.Laps.toNat+(bif decide (0<p.Laps)then 0 else 1)) a (lapS p)) H (by omega) (by
     have:=Qcp (p.Laps.toNat+(bif decide (0<p.Laps)then 0 else 1)) a (lapS p);omega)
    refine⟨w,Ex ?_ X,Y⟩;unfold F_dz;simp only[f.lt,Vm,f.ix,XI,f.nx];exact Ea q (Ea t.ev (Qa _))
   .refine⟨.done (repS (p.Laps.toNat+(bif decide (0<p.Laps)then 0 else 1)) a (lapS p)),Ej ?_,.inr (by rw[Qcz r F])⟩;unfold F_dz;simp only[f.lt,Vm,f.ix,XI,f.nx];exact Ea q (Ea t.ev (Qa _))
 obtain⟨d,t,E⟩:=loop l 0 [] rfl (XT _) (by simp);rcases E with rfl|rfl
 iterate 2 exact Ea t.ev (Qa _)
theorem Qf2(T:Int):∀(m:Nat) (l:List Part),szPs l<=m->szPs l<=256->l.length<=1048576->(∀x∈l,Part.wf x)->partsS T l=true->Ev (λn=>F_v n l) (expS [] l):=by
 intro m
 induction m using Nat.strongRecOn with
 |_ m O=>
 intro l W y X V J;rw[YZ,Xs]at J;refine Yx ?_;show Ev (λn=>B_v (F_v n) n l) _;unfold B_v;have inner:∀(p:Part) (i:Nat) (e:At l i p) (G:List Int) (f:List Int) (g:0<p.Laps/\p.Laps<=64) (s:f.length<=100000) (j:Nat) (k:Nat) (a:List Int),j+k=p.Laps.toNat->a.length<=200000->
   EvI (λn=>F_ff n l (G,(i:Int)) f) (a,(j:Int)) (repS k a f):=by
  intro p i e G f g s j k
  induction k generalizing j with
  |zero=>
   intro a N _;refine Ej ?_;unfold F_ff;simp only[e.ix,XI];rw[Qu (show¬(j:Int)<p.Laps by omega)];exact Qa _
  |succ k E=>
   intro a N q;by_cases h:256<a.length
   .refine Ej ?_;rw[Qcq h];unfold F_ff;simp only[e.ix,XI];rw[Qv (show(j:Int)<p.Laps by omega),Qu (show¬(a.length:Int)<=256 by omega)];exact Qa _
   .rw[repS,Vp h];refine Ex ?_ (E (j+1) (a++f) (by omega) (by rw[X2];omega));unfold F_ff;simp only[e.ix,XI];rw[Qv (show(j:Int)<p.Laps by omega),Qv (show(a.length:Int)<=256 by omega)];simp only[Vm,XI];refine QO (QaG a f (by omega)) ?_;rw[QV (by omega)];exact Qa _
 have loop:∀(r:List Part) (i:Nat) (a:List Int),l.drop i=r->i<=l.length->a.length<=100000->
   EvI (λn=>F_fh n l (F_v n)) (a,(i:Int)) (expS a r):=by
  intro r
  induction r with
  |nil=>
   intro i a w F _;refine Ej ?_;rw[expS];unfold F_fh;simp only[QS w F,Vn,XI];exact Qa _
  |cons p r B=>
   intro i a w F q;obtain⟨e,t⟩:=Qy (by omega) w;have R:=e.lt';have M:=YO e.mem;by_cases h:256<a.length
   .rw[Qcz _ h];refine Ej ?_;unfold F_fh;simp only[e.lt,Vm,Qu (show¬(a.length:Int)<=256 by omega),XI,Vn];exact Qa _
   obtain⟨Q,P⟩:=Q9 (V p e.mem);have g:=J p e.mem;rw[QaW]at g;have u:=QgI p;rw[expS];refine Ex ?_ (B (i+1) _ t (by omega) (by
    have:=Qcp (p.Laps.toNat+(bif decide (0<p.Laps)then 0 else 1)) a (lapS p);omega))
   unfold F_fh;simp only[e.lt,Vm,Qv (show(a.length:Int)<=256 by omega),XI,e.ix,e.nx];cases H:(p.Laps==0)with
   |true=>
    have L:p.Laps=0:=by simpa using H
    simp only[Vm];refine Ea (QO (QaG a [p.Mat] (by simp;omega)) (Qa _)) ((Qa _).eq ?_);rw[Qaw,L];simp[repS,h]
   |false=>
    rw[H]at g;simp only[Vn,XV,inR,Vo]at g;have d:0<p.Laps/\p.Laps<=64:=⟨by omega,by omega⟩;simp only[Vn];rw[YB]at M;refine Ea (Ea (O (szPs p.Parts) (by omega) p.Parts (XS _) (by omega) Q P g.2.2.2) (Ea ?_ (Qa _))) (Qa _);have z:=Qaw p;rw[Qv d.1,Vm]at z;have:=(inner p i e a (expS [] p.Parts) d (by rw[<- z];rw[YB]at u;omega) 0 p.Laps.toNat a (by omega) (by omega)).ev;rw[<- z]at this⊢;rw[Qv d.1];exact this
 exact Ea (loop l 0 [] rfl (XT _) (by simp)).ev (Qa _)
def kindAt(c:Course)(m:Int):Int:=((c.Mats[m.toNat]?).map (·.Kind)).getD 0
def hasLeg(c:Course)(a b:Int):Bool:=c.Legs.any λl=>(l.From==a)&&(l.To==b)
def rokS(c:Course)(len:Nat):Nat->Int->List Int->Bool
 |_,_,[]=>true
 |i,prev,m::r=>((kindAt c m==1)==decide (i=0))&&(((kindAt c m==3)==decide (i+1=len))&&((decide (i=0)||hasLeg c prev m)&&rokS c len (i+1) m r))
def routeR(c:Course)(d:Distance)(r:List Int):Bool:=
 (decide (2<=r.length)&&decide (r.length<=256))&&(rokS c r.length 0 0 r&&((bif decide (0<=d.Extra)then !((r.count d.Extra:Int)==0)&&((kindAt c d.Extra==2)&&hasLeg c d.Extra d.Extra)else true)&&d.Cutoffs.all λx=>decide (x.Lap<=(r.count x.Mat:Int))))
def routeS(c:Course)(d:Distance):Bool:=routeR c d (expS [] d.Route)
def cntM(l:List Int):List (Int×Int):=l.foldl (λm k=>QW m k (QA m k 0+1)) []
theorem Qjo(l:List Int)(k:Int):cntM (l++[k])=QW (cntM l) k (QA (cntM l) k 0+1):=by unfold cntM;simp
theorem QeL(l:List Int)(k:Int):QA (cntM l) k 0=(l.count k:Int):=by
 have a:∀(l:List Int) (m:List (Int×Int)),QA (l.foldl (λm k=>QW m k (QA m k 0+1)) m) k 0=QA m k 0+l.count k:=by
  intro l
  induction l with
  |nil=>simp
  |cons x l d=>
   grind[Qee]
 grind[cntM,Qi4]
theorem QhB(d:Int):∀(m:Nat) (l:List Part) (a:List Int),szPs l<=m->partsS d l=true->(∀x∈a,0<=x/\x<=d)->∀x∈expS a l,0<=x/\x<=d:=by
 intro m
 induction m using Nat.strongRecOn with
 |_ m t=>
 intro l;have rep:∀(k:Nat) (a e:List Int),(∀x∈a,0<=x/\x<=d)->(∀x∈e,0<=x/\x<=d)->∀x∈repS k a e,0<=x/\x<=d:=by
  intro k
  induction k with
  |zero=>intro a e w _;exact w
  |succ k y=>
   grind[repS]
 have u:∀(r:List Part) (a:List Int),szPs r<=m->partsS d r=true->(∀x∈a,0<=x/\x<=d)->∀x∈expS a r,0<=x/\x<=d:=by
  intro r
  induction r with
  |nil=>intro a _ _ h;exact h
  |cons p r g=>
   intro a q j h;rw[szPs,YB]at q;rw[partsS,XV]at j;obtain⟨f,s⟩:=j;refine g _ (by omega) s (rep _ _ _ h ?_);rw[Qaw];rw[QaW]at f;cases i:(p.Laps==0)with
   |true=>
    have e0:=by simpa using i
    rw[i,Vm,XV]at f;have:=f.1;unfold inR at this;simp[XV,Vo]at this;rw[e0];intro x n;simp at n;subst n;exact this
   |false=>
    rw[i]at f;simp[Vn,XV,inR,Vo]at f;rw[Qv (show 0<p.Laps by omega),Vm];exact t (szPs p.Parts) (by omega) p.Parts [] (XS _) f.2.2.2 (by simp)
 grind
theorem Qct{c:Course}{m:Int}(d:0<=m)(e:m<=(c.Mats.length:Int)-1):∃x:Mat,idx c.Mats m=some x/\x.Kind=kindAt c m:=by
 obtain⟨k,rfl⟩:∃k:Nat,m=k:=⟨m.toNat,by omega⟩;have a:k<c.Mats.length:=by omega
 simp_all[Qt,kindAt]
theorem QgF(c:Course)(a b:Int):QA (Ye legKey true c.Legs) {from_:=a,to_:=b} false=hasLeg c a b:=by
 rw[Qdn];by_cases h:{from_:=a,to_:=b}∈c.Legs.map legKey
 .rw[Vq h];obtain⟨l,d,e⟩:=Xe.1 h;obtain⟨f,g⟩:=ends_eq.1 e;exact(Xt.2 ⟨l,d,by simp[f,g]⟩).symm
 .rw[Vp h]
  symm
  rw[VI];intro q;obtain⟨l,d,e⟩:=Xt.1 q;simp[XV,Vu]at e
  grind[legKey]
theorem QkO(c:Course)(w:CourseOk c)(a b:Int):∃v:Int,Ev (λn=>F_ao n c a b) v/\decide (v<0)= !hasLeg c a b:=by
 have t:c.Legs.length<=4611686018427387904:=by have:=w.legs;omega
 have step:∀i x,At c.Legs i x->Ev (λn=>F_du n c a b i) (bif (x.From==a)&&(x.To==b)then .done (.done i)else .cont (i+1)):=by
  intro i x e;unfold F_du;simp only[e.lt,e.ix,e.nx];refine Ea (Ei λ_=>Qa _) ?_
  grind[Qa]
 have loop:∀(r:List Leg) (i:Nat),c.Legs.drop i=r->i<=c.Legs.length->∃d:Ctl Unit Int,EvI (λn=>F_du n c a b) i d/\((r.any λl=>(l.From==a)&&(l.To==b))=true->∃j:Nat,d=.done j)/\((r.any λl=>(l.From==a)&&(l.To==b))=false->d=.cont ()):=by
  intro r
  induction r with
  |nil=>
   intro i m q;refine⟨.cont (),Ej ?_,λh=>(by simp at h),λ_=>rfl⟩
   grind[F_du,QS,Qa]
  |cons x r u=>
   intro i m q;obtain⟨e,k⟩:=Qy t m;have s:=step i x e;rw[List.any_cons];cases h:((x.From==a)&&(x.To==b))with
   |true=>
    rw[h]at s;exact⟨.done i,Ej s,λ_=>⟨i,rfl⟩,λh=>by simp at h⟩
   |false=>
    rw[h]at s;obtain⟨d,f,g⟩:=u (i+1) k (by have:=e.lt';omega);exact⟨d,Ex s f,by simpa using g⟩
 obtain⟨d,f,g,p⟩:=loop c.Legs 0 rfl (XT _);unfold hasLeg;cases h:c.Legs.any λl=>(l.From==a)&&(l.To==b)with
 |true=>
  obtain⟨j,rfl⟩:=g h;exact⟨j,Ea f.ev (Qa _),by simp⟩
 |false=>
  obtain rfl:=p h;exact⟨-1,Ea f.ev (Qa _),by simp⟩
theorem Qg3(l:List Int)(k:Int)(s:l.length<=1048576):Ev (λn=>F_av n l k) (l.count k:Int):=by
 have loop:∀(r:List Int) (i:Nat) (a:Nat),l.drop i=r->i<=l.length->a<=i->EvI (λn=>F_fm n l k) (a,i) (a+r.count k):=by
  intro r
  induction r with
  |nil=>
   grind[EvI.done,F_fm,QS,Qa]
  |cons x r f=>
   intro i a p q m;obtain⟨d,e⟩:=Qy (by omega) p;have j:=d.lt';have g:i64.wrap (a+1)=a+1:=QV (by omega);rw[List.count_cons];cases h:(x==k)with
   |true=>
    refine(Ex ?_ (f (i+1) (a+1) e (by omega) (by omega))).eq ?_
    .unfold F_fm;simp only[d.lt,d.ix,XI,d.nx,h,g];exact Qa _
    grind
   |false=>
    refine(Ex ?_ (f (i+1) a e (by omega) (by omega))).eq ?_
    .unfold F_fm;simp only[d.lt,d.ix,XI,d.nx,h];exact Qa _
    .simp
 exact Ea ((loop l 0 0 rfl (XT _) (XS _)).ev) ((Qa _).eq (by omega))
structure NumOk (c:Course):Prop where
 kinds:∀m∈c.Mats,1<=m.Kind/\m.Kind<=3
 dist:∀d∈c.Distances,-1<=d.Extra/\d.Extra<=(c.Mats.length:Int)-1/\partsS ((c.Mats.length:Int)-1) d.Route=true
theorem Qhl{c:Course}(h:numbersS c=true):NumOk c:=by
 unfold numbersS at h;simp[XV,Xs]at h;refine⟨λm a=>?_,λd e=>?_⟩
 .grind[inR]
 simp_all[distS,inR]
theorem Qi5{c:Course}(q:NumOk c){m:Int}(d:0<=m)(f:m<=(c.Mats.length:Int)-1):1<=kindAt c m/\kindAt c m<=3:=by
 obtain⟨x,a,g⟩:=Qct d f;have:=by
  obtain⟨_,e⟩:=Qbe a;exact VD e
 rw[<- g];exact q.kinds x this
theorem Qkz{c:Course}(q:NumOk c){d:Distance}(hd:d∈c.Distances):∀x∈expS [] d.Route,0<=x/\x<=(c.Mats.length:Int)-1:=
 QhB _ _ d.Route [] (XS _) (q.dist d hd).2.2 (by simp)
theorem Qgx(c:Course)(len i:Nat)(prev m:Int)(r:List Int):rokS c len i prev (m::r)=(((kindAt c m==1)==decide (i=0))&&(((kindAt c m==3)==decide (i+1=len))&&((decide (i=0)||hasLeg c prev m)&&rokS c len (i+1) m r))):=rfl
theorem Qin(i:Nat):((i:Int)==0)=decide (i=0):=by
 grind
theorem Qe5(c:Course)(r:List Int)(E:2<=r.length)(R:r.length<=256)(y:∀x∈r,0<=x/\x<=(c.Mats.length:Int)-1):
  Ev (λn=>iter (F_cj n c (Ye legKey true c.Legs) r) n ([],0)) (bif rokS c r.length 0 0 r then .cont (cntM r)else .done false):=by
 have loop:∀(t:List Int) (i:Nat) (d:Int),r.drop i=t->i<=r.length->(0<i->At r (i-1) d)->EvI (λn=>F_cj n c (Ye legKey true c.Legs) r) (cntM (r.take i),(i:Int)) (bif rokS c r.length i d t then .cont (cntM r)else .done false):=by
  intro t
  induction t with
  |nil=>
   intro i d k s _;refine Ej ?_;unfold F_cj;simp only[QS k s,Vn,rokS,Vm]
   simp_all[VE,Qa]
  |cons m t B=>
   intro i d k s F;obtain⟨e,g⟩:=Qy (by omega) k;have O:=e.lt';obtain⟨z,Q⟩:=y m e.mem;obtain⟨x,G,P⟩:=Qct z Q;have H:i64.wrap ((r.length:Int)-1)=((r.length-1:Nat):Int):=by rw[Qj (by omega) (by omega)];omega
   have L:((i:Int)==((r.length-1:Nat):Int))=decide (i+1=r.length):=by grind
   have J:Ev (λn:Nat=>((bif ((x.Kind==1) != ((i:Int)==0))then some true else(bif ((x.Kind==3) != ((i:Int)==(i64.wrap ((r.length:Int)-1))))then some true else(bif decide (0<(i:Int))then(idx r (i64.wrap ((i:Int)-1))).bind λq=>(some (QA (Ye legKey true c.Legs) ({from_:=q,to_:=m:Ui}) false)).bind λp=>some (!p)else some false))):Option Bool))
     (!(((kindAt c m==1)==decide (i=0))&&(((kindAt c m==3)==decide (i+1=r.length))&&(decide (i=0)||hasLeg c d m)))):=by
    rw[P,H,L,Qin];refine Ew (Ql λ_=>Ql λ_=>QaI (v:= !hasLeg c d m) (w:=false) (λh=>?_) λ_=>Qa _) ?_
    .have j:0<i:=by simpa using h
     have M:i64.wrap ((i:Int)-1)=((i-1:Nat):Int):=by rw[Qj (by omega) (by omega)];omega
     rw[M,(F j).ix];simp only[XI,QgF];exact Qa _
    grind
   have f:i64.wrap (QA (cntM (r.take i)) m 0+1)=QA (cntM (r.take i)) m 0+1:=by
    rw[QeL];have:(r.take i).count m<=i:=by have:=List.count_le_length (a:=m) (l:=r.take i);simp at this;omega
    exact Qj (by omega) (by omega)
   have step:Ev (λn=>F_cj n c (Ye legKey true c.Legs) r (cntM (r.take i),(i:Int))) (bif ((kindAt c m==1)==decide (i=0))&&(((kindAt c m==3)==decide (i+1=r.length))&&(decide (i=0)||hasLeg c d m))then .cont (cntM (r.take (i+1)),((i+1:Nat):Int))else .done (.done false)):=by
    unfold F_cj;simp only[e.lt,Vm,e.ix,XI,e.nx,G];refine Ea J ?_;rw[f, <- Qjo, <- e.take];cases(((kindAt c m==1)==decide (i=0))&&(((kindAt c m==3)==decide (i+1=r.length))&&(decide (i=0)||hasLeg c d m)))<;>exact Qa _
   have N:rokS c r.length i d (m::t)=((((kindAt c m==1)==decide (i=0))&&(((kindAt c m==3)==decide (i+1=r.length))&&(decide (i=0)||hasLeg c d m)))&&rokS c r.length (i+1) m t):=by rw[Qgx];simp only[Bool.and_assoc]
   rw[N];cases u:(((kindAt c m==1)==decide (i=0))&&(((kindAt c m==3)==decide (i+1=r.length))&&(decide (i=0)||hasLeg c d m)))with
   |false=>
    rw[u]at step;exact Ej step
   |true=>
    rw[u]at step;rw[Vw];exact Ex step (B (i+1) m g (by omega) (λ_=>by simpa using e))
 exact(loop r 0 0 rfl (XT _) (by omega)).ev
theorem QhN(c:Course)(w:CourseOk c)(q:NumOk c)(d:Distance)(e:d∈c.Distances)(m:∀x∈d.Route,Part.wf x)(u:szPs d.Route<=256):
  Ev (λn=>F_cq n c d (Ye legKey true c.Legs)) (routeS c d):=by
 have k:=QaD d.Route;have j:=Qkz q e;have a:=Qey _ d.Route [] (XS _);unfold F_cq routeS;refine Ea (Qjh _ _ d.Route (XS _) u (by omega) m (q.dist d e).2.2) ?_;generalize expS [] d.Route=r at j a⊢;unfold routeR;have e3:=by
  have:r.length<=1048576:=by simp at a;omega
  exact QaC this
 rw[e3];have s:(decide ((r.length:Int)-1<1)||decide (256<=(r.length:Int)-1))= !(decide (2<=r.length)&&decide (r.length<=256)):=by
  grind
 refine Ea (Ew (Ql λ_=>Qa _) s) ?_;cases f:(decide (2<=r.length)&&decide (r.length<=256))with
 |false=>exact Qa _
 |true=>
  simp[XV,Vo]at f;refine Qs (Ea (Qe5 c r f.1 f.2 j) ?_);cases rokS c r.length 0 0 r with
  |false=>exact Qa _
  |true=>
   have p:Ev (λn=>(bif decide (0<=d.Extra)then(some (QA (cntM r) d.Extra 0)).bind λg=>(bif (g==0)then some true else(idx c.Mats d.Extra).bind λh=>(bif (h.Kind != 2)then some true else(some (QA (Ye legKey true c.Legs) ({from_:=d.Extra,to_:=d.Extra:Ui}) false)).bind λi=>some (!i)))else some false))
     (!(bif decide (0<=d.Extra)then !((r.count d.Extra:Int)==0)&&((kindAt c d.Extra==2)&&hasLeg c d.Extra d.Extra)else true)):=by
    rw[QeL];cases t:decide (0<=d.Extra)with
    |false=>exact Qa _
    |true=>
     obtain⟨x,l,y⟩:=Qct (by simpa using t) (q.dist d e).2.1;simp only[XI,l,QgF,y];refine Ew (Ql λ_=>Ql λ_=>Qa _) ?_;rw[bne];cases((r.count d.Extra:Int)==0)<;>cases(kindAt c d.Extra==2)<;>cases hasLeg c d.Extra d.Extra<;>rfl
   refine Ea p ?_;cases(bif decide (0<=d.Extra)then !((r.count d.Extra:Int)==0)&&((kindAt c d.Extra==2)&&hasLeg c d.Extra d.Extra)else true)with
   |false=>exact Qa _
   |true=>
    refine Qs (Ea ?_ (Qa _));refine Je d.Cutoffs _ (λn x=>F_cz n x (cntM r)) (by have:=w.cut d e;omega) λx _=>?_;unfold F_cz;rw[QeL];exact Qa _
theorem QeC(c:Course)(w:CourseOk c)(q:NumOk c)(r:List Int)(H:2<=r.length)(W:r.length<=256)(E:∀x∈r,0<=x/\x<=(c.Mats.length:Int)-1):
  Ev (λn=>iter (F_bv n c r) n 0) (bif rokS c r.length 0 0 r then .cont ()else .done false):=by
 have loop:∀(t:List Int) (i:Nat) (a:Int),r.drop i=t->i<=r.length->(0<i->At r (i-1) a)->EvI (λn=>F_bv n c r) (i:Int) (bif rokS c r.length i a t then .cont ()else .done false):=by
  intro t
  induction t with
  |nil=>
   intro i a p u _;refine Ej ?_;unfold F_bv;simp only[QS p u,Vn,rokS,Vm];exact Qa _
  |cons m t G=>
   intro i a p u J;obtain⟨f,k⟩:=Qy (by omega) p;have Q:=f.lt';obtain⟨z,y⟩:=E m f.mem;obtain⟨x,L,V⟩:=Qct z y;have X:=Qi5 q z y;have M:i64.wrap ((r.length:Int)-1)=((r.length-1:Nat):Int):=by rw[Qj (by omega) (by omega)];omega
   have N:((i:Int)==((r.length-1:Nat):Int))=decide (i+1=r.length):=by grind
   have step:Ev (λn=>F_bv n c r (i:Int)) (bif ((kindAt c m==1)==decide (i=0))&&(((kindAt c m==3)==decide (i+1=r.length))&&(decide (i=0)||hasLeg c a m))then .cont ((i+1:Nat):Int)else .done (.done false)):=by
    unfold F_bv;simp only[f.lt,Vm,f.ix,XI,f.nx,L,V,M,N,Qin];refine Ea (v:=if i=0 then 1 else if i+1=r.length then 3 else 2) (EA ?_) ?_
    .by_cases e:i=0
     .simp[e]
     .by_cases h:i+1=r.length
      iterate 2 simp[e,h]
    refine Ea (v:= !(((kindAt c m==1)==decide (i=0))&&(((kindAt c m==3)==decide (i+1=r.length))&&(decide (i=0)||hasLeg c a m)))) ?_ ?_
    .have T:Ev (λn:Nat=>(bif decide (0<(i:Int))then(idx r (i64.wrap ((i:Int)-1))).bind λl=>(F_ao n c l m).bind λj=>some (decide (j<0))else some false:Option Bool)) (!(decide (i=0)||hasLeg c a m)):=by
      by_cases e:i=0
      .subst e;exact Qa _
      .have O:i64.wrap ((i:Int)-1)=((i-1:Nat):Int):=by rw[Qj (by omega) (by omega)];omega
       obtain⟨v,F,R⟩:=QkO c w a m;rw[Qv (show(0:Int)<(i:Int)by omega),O,(J (by omega)).ix,Qu e];exact Ea F ((Qa _).eq (by rw[R];rfl))
     refine Ew (Ql λ_=>T) ?_;have s:(kindAt c m != if i=0 then 1 else if i+1=r.length then 3 else 2)= !(((kindAt c m==1)==decide (i=0))&&((kindAt c m==3)==decide (i+1=r.length))):=by
      have d:kindAt c m=1\/kindAt c m=2\/kindAt c m=3:=by omega
      by_cases e:i=0
      .rcases d with g|g|g<;>simp[g,e,show¬1=r.length by omega]
      .by_cases h:i+1=r.length
       .rcases d with g|g|g<;>simp[g,e,h]
       .rcases d with g|g|g<;>simp[g,e,h]
     rw[s];cases((kindAt c m==1)==decide (i=0))<;>cases((kindAt c m==3)==decide (i+1=r.length))<;>cases(decide (i=0)||hasLeg c a m)<;>rfl
    grind[Qa]
   have P:rokS c r.length i a (m::t)=((((kindAt c m==1)==decide (i=0))&&(((kindAt c m==3)==decide (i+1=r.length))&&(decide (i=0)||hasLeg c a m)))&&rokS c r.length (i+1) m t):=by rw[Qgx];simp only[Bool.and_assoc]
   rw[P];cases B:(((kindAt c m==1)==decide (i=0))&&(((kindAt c m==3)==decide (i+1=r.length))&&(decide (i=0)||hasLeg c a m)))with
   |false=>
    rw[B]at step;exact Ej step
   |true=>
    rw[B]at step;rw[Vw];exact Ex step (G (i+1) m k (by omega) (λ_=>by simpa using f))
 exact(loop r 0 0 rfl (XT _) (by omega)).ev
theorem QgZ(c:Course)(w:CourseOk c)(q:NumOk c)(d:Distance)(a:d∈c.Distances)(E:∀x∈d.Route,Part.wf x)(u:szPs d.Route<=256):
  Ev (λn=>F_cf n c d) (routeS c d):=by
 have p:=QaD d.Route;have m:=Qkz q a;have g:=Qey _ d.Route [] (XS _);unfold F_cf routeS;refine Ea (Qf2 _ _ d.Route (XS _) u (by omega) E (q.dist d a).2.2) ?_;generalize expS [] d.Route=r at m g⊢;unfold routeR;have t:(decide ((r.length:Int)<2)||decide (256<(r.length:Int)))= !(decide (2<=r.length)&&decide (r.length<=256)):=by
  grind
 refine Ea (Ew (Ql λ_=>Qa _) t) ?_;cases e:(decide (2<=r.length)&&decide (r.length<=256))with
 |false=>exact Qa _
 |true=>
  simp only[XV,Vo]at e;refine Qs (Ea (QeC c w q r e.1 e.2 m) ?_);cases rokS c r.length 0 0 r with
  |false=>exact Qa _
  |true=>
   have y:Ev (λn:Nat=>(bif (d.Extra != (-1))then(idx c.Mats d.Extra).bind λl=>(bif (l.Kind != 2)then some true else(F_av n r d.Extra).bind λh=>(bif (h==0)then some true else(F_ao n c d.Extra d.Extra).bind λf=>some (decide (f<0))))else some false))
     (!(bif decide (0<=d.Extra)then !((r.count d.Extra:Int)==0)&&((kindAt c d.Extra==2)&&hasLeg c d.Extra d.Extra)else true)):=by
    have k:=q.dist d a;have z:(d.Extra != (-1))=decide (0<=d.Extra):=by rw[XX];simp;omega
    rw[z];cases G:decide (0<=d.Extra)with
    |false=>exact Qa _
    |true=>
     obtain⟨x,s,H⟩:=Qct (by simpa using G) k.2.1;obtain⟨v,F,B⟩:=QkO c w d.Extra d.Extra;simp only[XI,s,H];refine Ew (Ql λ_=>Ea (Qg3 r _ (by omega)) (Ql λ_=>Ea F (Qa _))) ?_;rw[bne,B];cases((r.count d.Extra:Int)==0)<;>cases(kindAt c d.Extra==2)<;>cases hasLeg c d.Extra d.Extra<;>rfl
   refine Ea y ?_;cases(bif decide (0<=d.Extra)then !((r.count d.Extra:Int)==0)&&((kindAt c d.Extra==2)&&hasLeg c d.Extra d.Extra)else true)with
   |false=>exact Qa _
   |true=>
    refine Qs (Ea (Yt d.Cutoffs (λx=>decide (x.Lap<=r.count x.Mat)) (Ctl.done false) (Ctl.cont ()) (by have:=w.cut d a;omega) (λi x j=>?_) ?_) ?_)
    .unfold F_iz;simp only[j.lt,j.ix,XI,j.nx];refine Ea (Qg3 r _ (by omega)) ?_;have:decide (r.count x.Mat<x.Lap)= !decide (x.Lap<=r.count x.Mat):=by rw[XX];simp
     rw[this];cases decide (x.Lap<=r.count x.Mat)<;>exact Qa _
    .unfold F_iz;simp only[Qa4];exact Qa _
    .cases(d.Cutoffs.all λx=>decide (x.Lap<=r.count x.Mat))<;>exact Qa _
theorem Qdg{a b:Nat}(h:a+b<=4611686018427387904):i64.wrap ((a:Int)+(b:Int))=((a+b:Nat):Int):=by
 rw[Qj (by omega) (by omega)];omega
def lensC(c:Course):Nat:=c.Mats.length+c.Legs.length+c.Distances.length+c.Waves.length+c.Offences.length+c.Categories.length+c.Prizes.length
def fewD(d:Distance):Prop:=d.Cutoffs.length<=200/\szPs d.Route<=200/\hPs d.Route<=16
structure FewOk (c:Course):Prop where
 lens:lensC c<=200
 name:c.Name.length<=100
 dist:∀d∈c.Distances,fewD d
 ties:c.Ties.length<=200
theorem Qf6(c:Course)(w:CourseOk c)(q:PartsOk c)(hl:c.Ties.length<=1048576)(Y:∀x∈c.Ties,Step.wf x):∃b,Ev (λn=>F_br n c) b/\(b=true->FewOk c):=by
 have hm:=w.mats;have hg:=w.legs;have hd:=w.dist;have H:=w.wave;have ho:=w.off;have hc:=w.cat;have hp:=w.prize;have loop:∀(t:List Distance) (i s:Nat),c.Distances.drop i=t->i<=c.Distances.length->∃f:Ctl Int Bool,EvI (λn=>F_dm n c) ((s:Int),(i:Int)) f/\(f=.done false\/ ∃v:Nat,f=.cont (v:Int)/\(v<=200->s<=v/\ ∀d∈t,fewD d)):=by
  intro t
  induction t with
  |nil=>
   intro i s z G;refine⟨.cont (s:Int),Ej ?_,Or.inr ⟨s,rfl,λ_=>⟨XS _,by simp⟩⟩⟩;unfold F_dm;simp only[QS z G,Vn,XI];exact Qa _
  |cons d t Q=>
   intro i s z G;obtain⟨j,r⟩:=Qy (by omega) z;have X:=j.lt';by_cases O:s<=200
   .have g:=q.len d j.mem;have m:=q.wf d j.mem;have F:=w.cut d j.mem;have u:=Qdt _ d.Route (XS _) g m;have J:=Qds _ d.Route 17 (XS _) (XS _) g m;have R:i64.wrap ((s:Int)+(d.Cutoffs.length:Int))=((s+d.Cutoffs.length:Nat):Int):=Qdg (by omega);have e2:i64.wrap (((s+d.Cutoffs.length:Nat):Int)+((min (szPs d.Route) 257:Nat):Int))=((s+d.Cutoffs.length+min (szPs d.Route) 257:Nat):Int):=Qdg (by omega);have step:Ev (λn=>F_dm n c ((s:Int),(i:Int))) (bif decide ((16:Int)<((min (hPs d.Route) 17:Nat):Int))then .done (.done false)else .cont (((s+d.Cutoffs.length+min (szPs d.Route) 257:Nat):Int),((i+1:Nat):Int))):=by
     unfold F_dm;simp only[j.lt,Vm,j.ix,XI,j.nx,Qv (show(s:Int)<=200 by omega)];refine Ea u (Ea J ?_);rw[R,e2];cases decide ((16:Int)<((min (hPs d.Route) 17:Nat):Int))<;>exact Qa _
    by_cases T:hPs d.Route<=16
    .rw[Qu (show¬(16:Int)<((min (hPs d.Route) 17:Nat):Int)by omega)]at step;obtain⟨f,p,k⟩:=Q (i+1) (s+d.Cutoffs.length+min (szPs d.Route) 257) r (by omega);refine⟨f,Ex step p,?_⟩;rcases k with k|⟨v,k,E⟩
     .exact Or.inl k
     .refine Or.inr ⟨v,k,λH=>?_⟩;obtain⟨V,y⟩:=E H;refine⟨by omega,λx B=>?_⟩;rcases X5.1 B with rfl|B
      .exact⟨by omega,by omega,T⟩
      .exact y x B
    .rw[Qv (show(16:Int)<((min (hPs d.Route) 17:Nat):Int)by omega)]at step;exact⟨.done false,Ej step,Or.inl rfl⟩
   .refine⟨.cont (s:Int),Ej ?_,Or.inr ⟨s,rfl,λh=>absurd h O⟩⟩;unfold F_dm;simp only[j.lt,Vm,Qu (show¬(s:Int)<=200 by omega),XI,Vn];exact Qa _
 obtain⟨f,p,k⟩:=loop c.Distances 0 (lensC c) rfl (XT _);have e:i64.wrap ((i64.wrap ((i64.wrap ((i64.wrap ((i64.wrap ((i64.wrap ((c.Mats.length:Int)+(c.Legs.length:Int)))+(c.Distances.length:Int)))+(c.Waves.length:Int)))+(c.Offences.length:Int)))+(c.Categories.length:Int)))+(c.Prizes.length:Int))=(lensC c:Int):=by
  have h1:c.Mats.length+c.Legs.length<=4611686018427387904:=by omega
  have L:c.Mats.length+c.Legs.length+c.Distances.length<=4611686018427387904:=by omega
  have P:c.Mats.length+c.Legs.length+c.Distances.length+c.Waves.length<=4611686018427387904:=by omega
  have M:c.Mats.length+c.Legs.length+c.Distances.length+c.Waves.length+c.Offences.length<=4611686018427387904:=by omega
  have W:c.Mats.length+c.Legs.length+c.Distances.length+c.Waves.length+c.Offences.length+c.Categories.length<=4611686018427387904:=by omega
  have N:c.Mats.length+c.Legs.length+c.Distances.length+c.Waves.length+c.Offences.length+c.Categories.length+c.Prizes.length<=4611686018427387904:=by omega
  rw[Qdg h1,Qdg L,Qdg P,Qdg M,Qdg W,Qdg N];rfl
 unfold F_br;rw[e];rcases k with rfl|⟨v,rfl,E⟩
 .exact⟨false,Ea p.ev (Qa _),λh=>by cases h⟩
 .obtain⟨a,b,u,J,p3,_,_,_,_⟩:=Qiw _ c.Ties 0 (XS _) (by omega) hl Y;have l:Ev (λn=>F_dk n c.Ties) (decide ((c.Ties.length:Int)<=20)&&(decide (a<=80)&&decide (b<=300))):=by
   unfold F_dk;exact Ea u (Ea (Ei λ_=>Ei λ_=>Qa _) (Qa _))
  refine⟨decide ((v:Int)<=200)&&(decide ((c.Name.length:Int)<=100)&&(decide ((c.Ties.length:Int)<=20)&&(decide (a<=80)&&decide (b<=300)))),Ea p.ev (Ea (Ei λ_=>Ei λ_=>Ea l (Qa _)) (Qa _)),λh=>?_⟩;simp only[XV,Vo]at h;obtain⟨V,y⟩:=E (by omega);exact⟨by omega,by omega,y,by omega⟩
def fitsS(c:Course):Bool:=
 !(decide (40<(c.Mats.length:Int))||(decide (512<(c.Legs.length:Int))||(decide (8<(c.Distances.length:Int))||(decide (32<(c.Waves.length:Int))||(decide (32<(c.Offences.length:Int))||(decide (32<(c.Categories.length:Int))||decide (32<(c.Prizes.length:Int))))))))
  &&c.Distances.all λd=> !decide (64<(d.Cutoffs.length:Int))
theorem QlW(c:Course)(w:CourseOk c)(q:PartsOk c)(k:FewOk c):Ev (λn=>F_de n c) (fitsS c):=by
 unfold F_de fitsS;refine Ea (Ql λ_=>Ql λ_=>Ql λ_=>Ql λ_=>Ql λ_=>Ql λ_=>Qa _) ?_;cases(decide (40<(c.Mats.length:Int))||(decide (512<(c.Legs.length:Int))||(decide (8<(c.Distances.length:Int))||(decide (32<(c.Waves.length:Int))||(decide (32<(c.Offences.length:Int))||(decide (32<(c.Categories.length:Int))||decide (32<(c.Prizes.length:Int))))))))with
 |true=>exact Qa _
 |false=>
  refine Qs (Ea (Yt c.Distances (λd=> !decide (64<(d.Cutoffs.length:Int))) (Ctl.done false) (Ctl.cont ()) (by have:=w.dist;omega) (λi x a=>?_) ?_) ?_)
  .obtain⟨g,f,e⟩:=k.dist x a.mem;unfold F_jd;simp only[a.lt,a.ix,XI,a.nx];refine Ea (QkH _ x.Route 17 (XS _) (by omega) (XS _) (by omega) (q.wf x a.mem)) ?_
   grind[Qa]
  .simp_all[F_jd,Qa]
  .cases(c.Distances.all λd=> !decide (64<(d.Cutoffs.length:Int)))<;>exact Qa _
theorem Qji(c:Course)(w:CourseOk c)(q:PartsOk c)(k:FewOk c):Ev (λn=>F_dd n c) (fitsS c):=by
 unfold F_dd fitsS;refine Ea (Ql λ_=>Ql λ_=>Ql λ_=>Ql λ_=>Ql λ_=>Ql λ_=>Qa _) ?_;cases(decide (40<(c.Mats.length:Int))||(decide (512<(c.Legs.length:Int))||(decide (8<(c.Distances.length:Int))||(decide (32<(c.Waves.length:Int))||(decide (32<(c.Offences.length:Int))||(decide (32<(c.Categories.length:Int))||decide (32<(c.Prizes.length:Int))))))))with
 |true=>exact Qa _
 |false=>
  refine Qs (Ea (Yt c.Distances (λd=> !decide (64<(d.Cutoffs.length:Int))) (Ctl.done false) (Ctl.cont ()) (by have:=w.dist;omega) (λi x e=>?_) ?_) ?_)
  .obtain⟨g,j,h⟩:=k.dist x e.mem;have a:=q.len x e.mem;have f:=q.wf x e.mem;unfold F_is;simp only[e.lt,e.ix,XI,e.nx];refine Ea (Ql λ_=>Ea (Qds _ x.Route 17 (XS _) (XS _) a f) (Ql λ_=>Ea (Qdt _ x.Route (XS _) a f) (Qa _))) ?_
   grind[Qa]
  .simp_all[F_is,Qa]
  .cases(c.Distances.all λd=> !decide (64<(d.Cutoffs.length:Int)))<;>exact Qa _
def courseE(c:Course):Int:=
 bif fitsS c then bif namesS c then bif numbersS c then bif tiesE c.Ties==0 then bif c.Distances.all (routeS c)then 0 else 72 else tiesE c.Ties else 71 else 70 else 2
theorem Qjk(c:Course)(w:CourseOk c)(q:PartsOk c)(k:FewOk c)(g:c.Ties.length<=1048576)(h:∀x∈c.Ties,Step.wf x):Ev (λn=>F_c n c) (courseE c):=by
 unfold F_c courseE;refine Ea (QlW c w q k) ?_;cases fitsS c with
 |false=>exact Qa _
 |true=>
 refine Qs (Ea (QkD c w) ?_);cases namesS c with
 |false=>exact Qa _
 |true=>
 refine Qs (Ea (QhM c w q) ?_);cases f:numbersS c with
 |false=>exact Qa _
 |true=>
 refine Qs (Ea (QlX c.Ties g h) ?_);rw[bne];cases(tiesE c.Ties==0)with
 |false=>exact Qa _
 |true=>
 have e:Ev (λn=>iter (F_gv n c) n ([],0)) (Ye legKey true c.Legs):=by
  refine Qbn c.Legs legKey true (by have:=w.legs;omega) (λi x m a=>?_) (λm=>?_)
  .unfold F_gv;simp only[a.lt,a.ix,a.nx];exact Qa _
  simp_all[F_gv,Qa]
 refine Qs (Ea e ?_);have a:Ev (λn=>F_fk n c.Distances c (Ye legKey true c.Legs)) (c.Distances.all (routeS c)):=by
  refine Je c.Distances _ (λn x=>F_fp n x c (Ye legKey true c.Legs)) (by have:=w.dist;omega) λx d=>?_;exact Ea (QhN c w (Qhl f) x d (q.wf x d) (by have:=(k.dist x d).2.1;omega)) (Qa _)
 refine Ea a ?_
 grind[Qa]
theorem Qf3(c:Course)(w:CourseOk c)(q:PartsOk c)(k:FewOk c)(h:c.Ties.length<=1048576)(g:∀x∈c.Ties,Step.wf x):Ev (λn=>F_bb n c) (courseE c):=by
 have a:=k.lens;unfold lensC at a;have f:Short c:=⟨by omega,by omega,by omega,by omega,by omega⟩;unfold F_bb courseE;refine Ea (Qji c w q k) ?_;cases fitsS c with
 |false=>exact Qa _
 |true=>
 refine Qs (Ea (Qg1 c w f) ?_);cases namesS c with
 |false=>exact Qa _
 |true=>
 refine Qs (Ea (Qf1 c w q) ?_);cases e:numbersS c with
 |false=>exact Qa _
 |true=>
 refine Qs (Ea (QhJ c.Ties h g) ?_);rw[bne];cases(tiesE c.Ties==0)with
 |false=>exact Qa _
 |true=>
 refine Qs (Ea (Yt c.Distances (routeS c) (Ctl.done 72) (Ctl.cont ()) (by omega) (λi x d=>?_) ?_) ?_)
 .unfold F_jf;simp only[d.lt,d.ix,XI,d.nx];refine Ea (QgZ c w (Qhl e) x d.mem (q.wf x d.mem) (by have:=(k.dist x d.mem).2.1;omega)) ?_;cases routeS c x<;>exact Qa _
 .simp_all[F_jf,Qa]
 grind[Qa]
theorem QdI{α:Type}(l:List α){a b:Nat}(h:a<=b)(d:b<=l.length):slc l (a:Int) (b:Int)=some ((l.take b).drop a):=by
 grind[slc]
theorem Qmw{α:Type}(l:List α){b:Nat}(a:b<=l.length):slc l 0 (b:Int)=some (l.take b):=by
 have:=QdI l (XT b) a
 grind
theorem Qj6{α:Type}(l:List α){a:Nat}(d:a<=l.length):slc l (a:Int) (l.length:Int)=some (l.drop a):=by
 simp_all[QdI]
theorem Ql7{α:Type}(l m:List α)(h:l.length+m.length<=4294967296):app l m=some (l++m):=by
 unfold app;rw[XR (by exact h)];rfl
def firstI{α:Type}(q:α->Bool):List α->Nat->Int
 |[],_=> -1
 |x::l,i=>bif q x then(i:Int)else firstI q l (i+1)
theorem Ev.first{α:Type}{step:Nat->Int->Option (Ctl Int (Ctl Unit Int))}(l:List α)(q:α->Bool)(j:l.length<=4611686018427387904)
  (p:∀i x,At l i x->Ev (λn=>step n (i:Int)) (bif q x then .done (.done (i:Int))else .cont ((i+1:Nat):Int)))(e:Ev (λn=>step n (l.length:Int)) (.done (.cont ()))):
  Ev (λn=>(Go.Sw.iter (step n) n 0).bind λb=>match b with|.cont _=>some (-1)|.done v=>some v) (firstI q l 0):=by
 have loop:∀(r:List α) (i:Nat),l.drop i=r->i<=l.length->∃a:Ctl Unit Int,EvI step i a/\(match a with|.cont _=>some (-1)|.done v=>some v)=some (firstI q r i):=by
  intro r
  induction r with
  |nil=>
   intro i d g;have:i=l.length:=by have:=Xq.1 d;omega
   subst this;exact⟨.cont (),Ej e,rfl⟩
  |cons x r u=>
   intro i d g;obtain⟨m,t⟩:=Qy j d;have s:=p i x m;unfold firstI;cases h:q x with
   |true=>
    rw[h]at s;exact⟨_,Ej s,rfl⟩
   |false=>
    grind[EvI.cont]
 obtain⟨a,k,f⟩:=loop l 0 rfl (XT _);exact Ea k.ev (EA f)
theorem Qdq{α:Type}(q:α->Bool):∀(l:List α) (i:Nat),(firstI q l i= -1/\l.all (λx=> !q x)=true)\/ ∃j x,firstI q l i=((i+j:Nat):Int)/\l[j]?=some x/\q x=true/\(l.take j).all (λx=> !q x)=true
 |[],_=>.inl ⟨rfl,rfl⟩
 |x::l,i=>by
  unfold firstI;cases h:q x with
  |true=>exact .inr ⟨0,x,rfl,rfl,h,rfl⟩
  |false=>
   rcases Qdq q l (i+1)with⟨h1,h2⟩|⟨j,y,h1,h2,h3,h4⟩
   .grind
   .refine .inr ⟨j+1,y,by grind,h2,h3,by simp[h,h4]⟩
set_option maxRecDepth 4000
def cmpI(a b:Int):Int:=bif decide (a<b)then-1 else bif decide (b<a)then 1 else 0
theorem Qiz(n:Nat)(a b:Int):F_i n a b=some (cmpI a b):=by
 unfold F_i F_bt cmpI
 grind
def orL:List Int->Int
 |[]=>0
 |x::r=>bif x != 0 then x else orL r
theorem ev_or(l:List Int)(k:l.length<=1000):Ev (λn=>F_au n l) (orL l):=by
 have loop:∀(r:List Int) (i:Nat),l.drop i=r->i<=l.length->EvI (λn=>F_as n l) i (bif orL r==0 then Ctl.cont ()else Ctl.done (orL r)):=by
  intro r
  induction r with
  |nil=>
   intro i f g;refine Ej ?_;unfold F_as;simp only[QS f g];exact Qa _
  |cons x r j=>
   intro i f g;obtain⟨a,d⟩:=Qy (by omega) f;have h:=a.lt';unfold orL;cases q:(x != 0)with
   |true=>
    have e:(x==0)=false:=by grind
    simp[Vm,e];refine Ej ?_;unfold F_as;simp only[a.lt,a.ix,XI,q];exact Qa _
   |false=>
    refine Ex ?_ (j (i+1) d (by omega));unfold F_as;simp only[a.lt,a.ix,XI,q,a.nx];exact Qa _
 refine Ea (loop l 0 rfl (XT _)).ev ?_
 grind[Qa]
theorem Qed{β:Type}(m:List (Int×β))(k:Int):Jh m k=(YP m k).isSome:=by
 unfold Jh YP
 grind
set_option maxRecDepth 4000
section
variable {α:Type} {c d:α->α->Int}
end
theorem QdB{c:Course}(h:Course.wf c):CourseOk c:=by
 obtain⟨p,⟨e,l⟩,⟨r,t⟩,⟨f,d⟩,⟨g,q⟩,⟨i,n⟩,⟨k,m⟩,⟨j,s⟩,_⟩:=h;exact⟨p,e,λx a=>(l x a).1,r,f,λx a=>(d x a).1,λx a=>(d x a).2.2.2.1.1,g,λx a=>(q x a).1,i,λx a=>(n x a).1,k,λx a=>(m x a).1,j⟩
theorem QeP{c:Course}(h:Course.wf c):PartsOk c:=by
 obtain⟨_,_,_,⟨f,e⟩,_⟩:=h;exact⟨λd a=>(e d a).2.1.1,λd a=>(e d a).2.1.2⟩
theorem Qih{c:Course}(h:Course.wf c):c.Ties.length<=1048576/\ ∀x∈c.Ties,Step.wf x:=by
 obtain⟨_,_,_,_,_,_,_,_,a,_⟩:=h;exact a
theorem QcC(p:Nat->Bool):∀k,(∀i,i<k->p i=true)\/ ∃j,j<k/\p j=false/\ ∀i,i<j->p i=true
 |0=>.inl λi h=>absurd h (Nat.not_lt_zero _)
 |k+1=>by
  rcases QcC p k with h|⟨j,h1,h2,h3⟩
  .cases q:p k with
   |true=>exact .inl λi hi=>(Nat.lt_succ_iff_lt_or_eq.1 hi).elim (h i) λe=>e▸q
   |false=>exact .inr ⟨k,Xn _,q,h⟩
  .exact .inr ⟨j,by omega,h2,h3⟩
theorem Qnk{p:Nat->Bool}{k:Nat}:(List.range k).all p=true↔ ∀i,i<k->p i=true:=by simp[Xs]
theorem QcR{B:Type}{step:Nat->Int->Option (Ctl Int B)}(k:Nat)(p:Nat->Bool)(g b:B)
  (e:∀i,i<k->Ev (λn=>step n (i:Int)) (bif p i then .cont ((i+1:Nat):Int)else .done g))(l:Ev (λn=>step n (k:Int)) (.done b)):
  Ev (λn=>Go.Sw.iter (step n) n 0) (bif (List.range k).all p then b else g):=by
 rcases QcC p k with h|⟨j,f,d,m⟩
 .rw[Qnk.2 h];exact Ev.iter (λi=>(i:Int)) k rfl (λi a=>(e i a).eq (by rw[h i a];rfl)) l
 .have:(List.range k).all p=false:=by
   rw[VI];intro q;rw[Qnk.1 q j f]at d;cases d
  rw[this];exact Ev.iter (λi=>(i:Int)) j rfl (λi a=>(e i (by omega)).eq (by rw[m i a];rfl)) ((e j f).eq (by rw[d];rfl))
theorem atN{α:Type}{l:List α}{i:Nat}(hl:l.length<=1048576)(hi:i<l.length):At l i l[i]:=Y7 (by omega) (XJ hi)
theorem QdW{n:Nat}(h:n<=1048576):i64.wrap ((n:Int)+1)=((n+1:Nat):Int):=QV (by omega)
def segLt(x y:Segment):Bool:=decide (x.Mat<y.Mat)||((x.Mat==y.Mat)&&decide (x.Epoch<y.Epoch))
def cmpSeg(x y:Segment):Int:=orL [cmpI x.Mat y.Mat,cmpI x.Epoch y.Epoch]
theorem Qjp(x y:Segment):decide (0<=cmpSeg x y)= !segLt x y:=by
 unfold cmpSeg segLt orL orL orL cmpI;by_cases a:x.Mat<y.Mat
 .simp[a]
 .by_cases d:y.Mat<x.Mat
  .have:¬x.Mat=y.Mat:=by omega
   simp[a,d,this]
  .have:x.Mat=y.Mat:=by omega
   by_cases e:x.Epoch<y.Epoch
   .simp[a,d,this,e]
   .by_cases f:y.Epoch<x.Epoch
    iterate 2 simp[a,d,this,e,f]
theorem QkK(a b:Int):Ev (λn=>F_i n a b) (cmpI a b):=Qlk (Qa _) λn=>Qiz n a b
theorem QgX(x y:Segment):Ev (λn=>F_bj n x y) (cmpSeg x y):=by
 unfold F_bj F_dy;exact Ea (Ea (QkK _ _) (Ea (QkK _ _) (Ea (ev_or _ (by simp)) (Qa _)))) (Qa _)
def timeB(x:Int):Bool:=inR (-1099511627776) 1099511627776 x
theorem Qa3(x:Int):Ev (λn=>F_l n x) (timeB x):=by
 unfold F_l timeB inR;exact Ea (Ei λ_=>Qa _) (Qa _)
def prevSeg(c:Clocks)(i:Nat)(x:Segment):Bool:=decide (0<(i:Int))&& !(match c.Segments[i-1]? with|some y=>segLt y x|none=>true)
def segBad(c:Clocks)(i:Nat)(x:Segment):Bool:=decide (x.Mat<0)||(decide (40<=x.Mat)||(decide (x.Epoch<0)||(decide (255<x.Epoch)||(!timeB x.Anchor||prevSeg c i x))))
def segsB(c:Clocks):Bool:=(List.range c.Segments.length).all λi=>match c.Segments[i]? with|some x=> !segBad c i x|none=>true
theorem Qkn{α:Type}{l:List α}{i:Nat}{y:α}(d:l.length<=1048576)(hi:0<i)(a:i<=l.length)(h:l[i-1]?=some y):idx l (i64.wrap ((i:Int)-1))=some y:=by
 rw[Qj (by omega) (by omega),show((i:Int)-1)=((i-1:Nat):Int)by omega];exact Qt h
theorem QlR(c:Clocks)(g:c.Segments.length<=1048576):Ev (λn=>iter (F_ia n c) n 0) (bif segsB c then Ctl.cont ()else Ctl.done 160):=by
 unfold segsB;refine QcR c.Segments.length _ _ _ (λi k=>?_) ?_
 .have a:=atN g k;unfold F_ia;simp only[a.lt,Vm,a.ix,XI,a.nx,a.get];have:Ev (λn=>((bif decide ((c.Segments[i]).Mat<0)then some true else(bif decide (40<=(c.Segments[i]).Mat)then some true else(bif decide ((c.Segments[i]).Epoch<0)then some true else(bif decide (255<(c.Segments[i]).Epoch)then some true else(F_l n (c.Segments[i]).Anchor).bind λd=>(bif (!d)then some true else(bif decide (0<(i:Int))then(idx c.Segments (i64.wrap ((i:Int)-1))).bind λf=>(F_bj n f (c.Segments[i])).bind λe=>some (decide (0<=e))else some false)))))):Option Bool)) (segBad c i (c.Segments[i])):=by
   unfold segBad;refine Ql λ_=>Ql λ_=>Ql λ_=>Ql λ_=>Ea (Qa3 _) (Ql λ_=>?_);unfold prevSeg;refine Ei λh=>?_;have l:0<i:=by have:=Vs h;omega
   have j:i-1<c.Segments.length:=by omega
   rw[Qkn g l (by omega) (XJ j),XJ j];simp only[XI];exact Ea (QgX _ _) ((Qa _).eq (Qjp _ _))
  refine Ea this ?_;cases segBad c i (c.Segments[i])<;>exact Qa _
 .unfold F_ia;simp only[Qa4,Vn];exact Qa _
def farBad(x:Int):Bool:=decide (x< -2199023255552)||decide (2199023255552<x)
theorem Qjg(l:List Int)(a:l.length<=1048576):Ev (λn=>F_bs n l) (l.any farBad):=by
 unfold F_bs F_gk;refine Ev.contains l farBad (λn x=>F_ck n x) (by omega) λx _=>?_;unfold F_ck farBad;exact Ea (Ql λ_=>Qa _) (Qa _)
def rowB(c:Clocks)(i:Nat)(r:List Int):Bool:= !(((r.length:Int) != ((c.Segments.length+1:Nat):Int))||((r[i]?.getD 1 != 0)||r.any farBad))
def rowsB(c:Clocks):Bool:=(List.range c.Far.length).all λi=>match c.Far[i]? with|some r=>rowB c i r|none=>true
theorem QlS(c:Clocks)(l:c.Segments.length<=1048576)(m:c.Far.length<=1048576)(j:∀r∈c.Far,r.length<=1048576)(p:c.Far.length=c.Segments.length+1):
  Ev (λn=>iter (F_ib n c) n 0) (bif rowsB c then Ctl.cont ()else Ctl.done 160):=by
 unfold rowsB;refine QcR c.Far.length _ _ _ (λi k=>?_) ?_
 .have e:=atN m k;unfold F_ib;simp only[e.lt,Vm,e.ix,XI,e.nx,e.get,QdW l];have:Ev (λn=>((bif (((c.Far[i]).length:Int) != ((c.Segments.length+1:Nat):Int))then some true else(idx (c.Far[i]) (i:Int)).bind λa=>(bif (a != 0)then some true else(F_bs n (c.Far[i])).bind λf=>some f)):Option Bool)) (!rowB c i (c.Far[i])):=by
   unfold rowB;rw[Bool.not_not];refine Ql λh=>?_;have g:(c.Far[i]).length=c.Segments.length+1:=by
    have:((c.Far[i]).length:Int)=((c.Segments.length+1:Nat):Int):=by simpa[bne]using h
    omega
   have d:i<(c.Far[i]).length:=by omega
   rw[Qt (XJ d),XJ d];simp only[XI,Option.getD_some];exact Ql λ_=>Ea (Qjg _ (j _ e.mem)) (Qa _)
  refine Ea this ?_;cases rowB c i (c.Far[i])<;>exact Qa _
 .unfold F_ib;simp only[Qa4,Vn];exact Qa _
def farG(c:Clocks)(i j:Nat):Int:=((c.Far[i]?.getD [])[j]?).getD 0
structure Dims (c:Clocks):Prop where
 segs:c.Segments.length<=511
 far:c.Far.length=c.Segments.length+1
 row:∀i,i<c.Far.length->(c.Far[i]?.getD []).length=c.Segments.length+1
theorem Dims.get{c:Clocks}(d:Dims c){i j:Nat}(hi:i<c.Segments.length+1)(f:j<c.Segments.length+1):c.Far[i]?=some (c.Far[i]?.getD [])/\(c.Far[i]?.getD [])[j]?=some (farG c i j):=by
 have a:i<c.Far.length:=by rw[d.far];exact hi
 have e:=d.row i a;refine⟨by rw[XJ a];rfl,?_⟩;unfold farG;have:j<(c.Far[i]?.getD []).length:=by omega
 rw[XJ this];rfl
def triB(c:Clocks):Bool:=(List.range (c.Segments.length+1)).all λi=>(List.range (c.Segments.length+1)).all λj=>(List.range (c.Segments.length+1)).all λk=> !decide (i64.wrap (farG c i j+farG c j k)<farG c i k)
theorem ltN{a b:Nat}(h:a<b):decide ((a:Int)<(b:Int))=true:=Vr (by omega)
theorem geN{a b:Nat}(h:b<=a):decide ((a:Int)<(b:Int))=false:=decide_eq_false (by omega)
theorem Qm0(c:Clocks)(d:Dims c):Ev (λn=>iter (F_gz n c) n 0) (bif triB c then Ctl.cont ()else Ctl.done 160):=by
 have s:=d.segs;unfold triB;refine QcR (c.Segments.length+1) _ _ _ (λi a=>?_) ?_
 .unfold F_gz;have g:=(d.get a a).1;have l:=d.row i (by rw[d.far];exact a);simp only[QdW (show c.Segments.length<=1048576 by omega),ltN a,Vm,Qt g,XI,QdW (show i<=1048576 by omega)];refine Ea (QcR (c.Segments.length+1) (λj=>(List.range (c.Segments.length+1)).all λk=> !decide (i64.wrap (farG c i j+farG c j k)<farG c i k)) (Ctl.done (Ctl.done (Ctl.done 160))) (Ctl.cont ()) (λj e=>?_) ?_) ?_
  .unfold F_jb;have m:=(d.get a e).2;have q:=(d.get e e).1;have f:=d.row j (by rw[d.far];exact e);simp only[l,ltN e,Vm,Qt m,Qt q,XI,QdW (show j<=1048576 by omega)];refine Ea (QcR (c.Segments.length+1) (λk=> !decide (i64.wrap (farG c i j+farG c j k)<farG c i k)) (Ctl.done (Ctl.done (Ctl.done (Ctl.done (Ctl.done 160))))) (Ctl.cont ()) (λk h=>?_) ?_) ?_
   .unfold F_je;have r:=(d.get e h).2;have p:=(d.get a h).2;simp only[f,ltN h,Vm,Qt r,Qt g,Qt p,XI,QdW (show k<=1048576 by omega)];cases decide (i64.wrap (farG c i j+farG c j k)<farG c i k)<;>exact Qa _
   .unfold F_je;simp only[f,geN (XS _),Vn];exact Qa _
   .cases(List.range (c.Segments.length+1)).all λk=> !decide (i64.wrap (farG c i j+farG c j k)<farG c i k)<;>exact Qa _
  .unfold F_jb;simp only[l,geN (XS _),Vn];exact Qa _
  .cases(List.range (c.Segments.length+1)).all λj=>(List.range (c.Segments.length+1)).all λk=> !decide (i64.wrap (farG c i j+farG c j k)<farG c i k)<;>exact Qa _
 .unfold F_gz;simp only[QdW (show c.Segments.length<=1048576 by omega),geN (XS _),Vn];exact Qa _
def clkB(c:Clocks):Bool:= !(decide (511<(c.Segments.length:Int))||((c.Far.length:Int) != ((c.Segments.length+1:Nat):Int)))&&(segsB c&&(rowsB c&&triB c))
structure ClkW (c:Clocks):Prop where
 segs:c.Segments.length<=1048576
 far:c.Far.length<=1048576
 row:∀r∈c.Far,r.length<=1048576
theorem QiC{c:Clocks}(g:¬511<(c.Segments.length:Int))(d:c.Far.length=c.Segments.length+1)(f:rowsB c=true):Dims c:=by
 refine⟨by omega,d,λi a=>?_⟩;have:=Qnk.1 f i a;rw[XJ a]at this⊢;simp only[rowB,Bool.not_eq_true',XW]at this;have e:((c.Far[i]).length:Int)=((c.Segments.length+1:Nat):Int):=by simpa[bne]using this.1
 simp only[Option.getD_some];omega
theorem QkL(c:Clocks)(w:ClkW c):Ev (λn=>F_ar n c) (bif clkB c then 0 else 160):=by
 unfold F_ar clkB;simp only[QdW w.segs];refine Ea (Ql λ_=>Qa _) ?_;cases a:(decide (511<(c.Segments.length:Int))||((c.Far.length:Int) != ((c.Segments.length+1:Nat):Int)))with
 |true=>exact Qa _
 |false=>
  simp only[Xh,Vw,XW,decide_eq_false_iff_not]at a⊢;have d:c.Far.length=c.Segments.length+1:=by
   have:(c.Far.length:Int)=((c.Segments.length+1:Nat):Int):=by simpa[bne]using a.2
   omega
  refine Qs (Ea (QlR c w.segs) ?_);cases segsB c with
  |false=>exact Qa _
  |true=>
   refine Ea (QlS c w.segs w.far w.row d) ?_;cases e:rowsB c with
   |false=>exact Qa _
   |true=>
    refine Ea (Qm0 c (QiC a.1 d e)) ?_;cases triB c<;>exact Qa _
theorem QbT{c:Clocks}(h:clkB c=true):Dims c:=by
 simp only[clkB,XV,Bool.not_eq_true',XW,decide_eq_false_iff_not]at h;have a:c.Far.length=c.Segments.length+1:=by
  have:(c.Far.length:Int)=((c.Segments.length+1:Nat):Int):=by simpa[bne]using h.1.2
  omega
 exact QiC h.1.1 a h.2.2.1
set_option maxRecDepth 10000
structure CrsOk (c:Course):Prop where
 mats:c.Mats.length<=40
 res:0<=c.Faults.Residual/\c.Faults.Residual<=4294967296
 drift:0<=c.Faults.Drift/\c.Faults.Drift<=100000
def driftV(x k:Int):Int:=Int.tdiv ((if x<0-x then 0-x else x)*k+1000000-1) 1000000
theorem QeI{x k:Int}(i: -2199023255552<=x/\x<=2199023255552)(d:0<=k/\k<=100000):0<=driftV x k/\driftV x k<=274877906944/\0<=(if x<0-x then 0-x else x)*k/\(if x<0-x then 0-x else x)*k<=219902325555200000:=by
 generalize ha:(if x<0-x then 0-x else x)=a;have f:0<=a:=by rw[<- ha];split<;>omega
 have g:a<=2199023255552:=by rw[<- ha];split<;>omega
 have j:0<=a*k:=Int.mul_nonneg f d.1;have h:a*k<=2199023255552*100000:=Int.le_trans (Int.mul_le_mul_of_nonneg_right g d.1) (Int.mul_le_mul_of_nonneg_left d.2 (by decide));have e:(2199023255552:Int)*100000=219902325555200000:=by decide
 rw[e]at h;unfold driftV;rw[ha,Int.tdiv_eq_ediv_of_nonneg (by omega)];omega
theorem QkG{x k:Int}(i: -2199023255552<=x/\x<=2199023255552)(h:0<=k/\k<=100000):Ev (λn=>F_cu n x k) (driftV x k,0):=by
 obtain⟨l,m,p,j⟩:=QeI i h;unfold F_cu;refine Ea (v:=false) ?_ ?_
 .rw[Qu (show¬(x< -2199023255552)by omega),Qu (show¬(2199023255552<x)by omega),Qu (show¬(k<0)by omega),Qu (show¬(100000<k)by omega)];exact Qa _
 .have f:i64.wrap (0-x)=0-x:=Qj (by omega) (by omega);have g:=Qj (n:=(if x<0-x then 0-x else x)*k) (by omega) (by omega);have d:=Qj (n:=(if x<0-x then 0-x else x)*k+1000000) (by omega) (by omega);have e:=Qj (n:=(if x<0-x then 0-x else x)*k+1000000-1) (by omega) (by omega);have a:=Qj (n:=driftV x k) (by omega) (by omega);refine Qs ?_;rw[f,g,d,e];unfold driftV at a⊢;rw[a];exact Qa _
def devV(c:Course)(k:Int)(s:Segment)(loc:Int):Span:=
 bif k != 1 then⟨0-driftV (loc-s.Anchor) c.Faults.Drift,c.Faults.Residual+driftV (loc-s.Anchor) c.Faults.Drift⟩else⟨0,c.Faults.Residual⟩
def isT(x:Int):Prop:= -1099511627776<=x/\x<=1099511627776
theorem QkV{c:Course}(d:CrsOk c)(k:Int){s:Segment}{a:Int}(f:isT s.Anchor)(e:isT a): -274877906944<=(devV c k s a).Lo/\(devV c k s a).Lo<=0/\0<=(devV c k s a).Hi/\(devV c k s a).Hi<=279172874240:=by
 obtain⟨j,h⟩:=d.res;obtain⟨g,i,_,_⟩:=QeI (x:=a-s.Anchor) (by unfold isT at f e;omega) d.drift;unfold devV;cases k != 1 with
 |true=>simp only[Vm];omega
 |false=>simp only[Vn];omega
theorem QhQ{c:Course}(d:CrsOk c){i:Nat}{m:Mat}(f:c.Mats[i]?=some m){s:Segment}(j:s.Mat=(i:Int)){a:Int}(h:isT s.Anchor)(g:isT a):Ev (λn=>F_y n c s a) (devV c m.Kind s a):=by
 obtain⟨q,l⟩:=d.res;have e: -2199023255552<=a-s.Anchor/\a-s.Anchor<=2199023255552:=by unfold isT at h g;omega
 obtain⟨k,p,_,_⟩:=QeI e d.drift;unfold F_y devV;simp only[j,Qt f,XI];cases m.Kind != 1 with
 |false=>exact Qa _
 |true=>
  simp only[Vm];refine Ea (v:=⟨0-driftV (a-s.Anchor) c.Faults.Drift,c.Faults.Residual+driftV (a-s.Anchor) c.Faults.Drift⟩) ?_ (Qa _);rw[Qj (n:=a-s.Anchor) (by omega) (by omega)];refine Ea (QkG e d.drift) ?_;rw[Qj (n:=0-driftV (a-s.Anchor) c.Faults.Drift) (by omega) (by omega),Qj (n:=c.Faults.Residual+driftV (a-s.Anchor) c.Faults.Drift) (by omega) (by omega)];exact Qa _
def matB(c:Course)(x:Int):Bool:=decide (0<=x)&&decide (x<(c.Mats.length:Int))
theorem QeG(c:Course)(x:Int):Ev (λn=>F_ap n c x) (matB c x):=by
 unfold F_ap matB;exact Ea (Ei λ_=>Qa _) (Qa _)
theorem QmS{c:Course}{x:Int}(h:matB c x=true):∃i m,x=((i:Nat):Int)/\c.Mats[i]?=some m:=by
 unfold matB at h;simp only[XV,Vo]at h;exact⟨x.toNat,c.Mats[x.toNat]'(by omega),by omega,XJ _⟩
def nb(v lo hi:Int):Bool:= !(decide (v<lo))&& !(decide (hi<v))
theorem QhC(v lo hi:Int):nb v lo hi=true↔lo<=v/\v<=hi:=by
 simp_all[nb]
def cmpPl(x y:Uc):Int:=orL [cmpI x.chip y.chip,cmpI x.mat y.mat,cmpI x.epoch y.epoch]
theorem or3(n:Nat)(a b d:Int):F_au (n+4) [a,b,d]=some (orL [a,b,d]):=by
 unfold F_au;have e:F_as (n+4) [a,b,d] 0=bif a != 0 then some (.done (.done a))else some (.cont 1):=rfl
 have g:F_as (n+4) [a,b,d] 1=bif b != 0 then some (.done (.done b))else some (.cont 2):=rfl
 have h:F_as (n+4) [a,b,d] 2=bif d != 0 then some (.done (.done d))else some (.cont 3):=rfl
 have f:F_as (n+4) [a,b,d] 3=some (.done (.cont ())):=rfl;unfold orL orL orL orL;rw[iter,e];cases q:(a != 0)with
 |true=>rfl
 |false=>
  simp only[Vn];rw[iter,g];cases j:(b != 0)with
  |true=>rfl
  |false=>
   simp only[Vn];rw[iter,h];cases i:(d != 0)with
   |true=>rfl
   |false=>
    simp only[Vn];rw[iter,f];rfl
theorem QgA(n:Nat):(λx y=>F_bl (n+4) x y)=λx y=>some (cmpPl x y):=by
 funext x y
 unfold F_bl cmpPl;simp only[Qiz,XI,or3]
def plH(h:Hit):Uc:=⟨h.Chip,h.Mat,h.Epoch⟩
def wrongH(c:Course)(h:Hit):Bool:=decide (h.Mat<0)||(decide ((c.Mats.length:Int)<=h.Mat)||(!nb h.Epoch 0 255||(!nb h.Chip 0 1048576||(!nb h.First (-1099511627776) 1099511627776||(!nb h.Last (-1099511627776) 1099511627776||decide (h.Last<h.First))))))
def folB(W:Int)(a b:Hit):Bool:=decide (cmpPl (plH a) (plH b)<0)||(decide (cmpPl (plH a) (plH b)=0)&&decide (W<i64.wrap (b.First-a.Last)))
def okAt(c:Course)(x:List Hit)(i:Nat):Bool:=match x[i]? with
 |none=>true
 |some h=> !wrongH c h&&((i==0)||(match x[i-1]? with
  |none=>true
  |some p=>folB c.Faults.Window p h))
def chkFrom(ok:Nat->Bool):Nat->Nat->Bool
 |0,_=>true
 |d+1,i=>ok i&&chkFrom ok d (i+1)
def checkH(c:Course)(x:List Hit):Bool:=chkFrom (okAt c x) x.length 0
theorem Qf5(c:Course)(x:List Hit)(y:x.length<=1000000)(step:Nat->Int->Option (Ctl Int (Ctl Unit Int)))
  (t:∀i h,At x i h->(∀p,0<i->x[i-1]?=some p->Ev (λn=>step n (i:Int)) (bif wrongH c h then Ctl.done (Ctl.done 170)else bif folB c.Faults.Window p h then Ctl.cont ((i+1:Nat):Int)else Ctl.done (Ctl.done 170)))/\(i=0->Ev (λn=>step n (i:Int)) (bif wrongH c h then .done (.done 170)else .cont ((i+1:Nat):Int))))
  (r:Ev (λn=>step n (x.length:Int)) (.done (.cont ()))):Ev (λn=>iter (step n) n 0) (bif checkH c x then Ctl.cont ()else Ctl.done 170):=by
 have:=QcQ (step:=step) (s0:=(0:Int)) (λi=>(i:Int)) x.length (λi=>(bif chkFrom (okAt c x) (x.length-i) i then Ctl.cont ()else Ctl.done 170:Ctl Unit Int)) rfl (λi s=>?_) ?_
 .exact this
 .have g:=Y7 (x:=x[i]) (show x.length<=4611686018427387904 by omega) (XJ s);generalize x[i]=h at g;obtain⟨u,m⟩:=t i h g;have q:x.length-i=(x.length-(i+1))+1:=by omega
  have k:okAt c x i=(!wrongH c h&&((i==0)||(match x[i-1]? with|none=>true|some p=>folB c.Faults.Window p h))):=by
   unfold okAt;rw[g.get]
  have f:chkFrom (okAt c x) (x.length-i) i=(okAt c x i&&chkFrom (okAt c x) (x.length-(i+1)) (i+1)):=by rw[q];rfl
  rw[f,k];by_cases j:i=0
  .have a:=m j;cases d:wrongH c h with
   |true=>rw[d]at a;exact .inr (a.eq (by simp))
   |false=>rw[d]at a;exact .inl ⟨a,by simp[j]⟩
  .have l:x[i-1]?=some x[i-1]:=XJ (by omega);have a:=u _ (by omega) l;rw[l];have w:(i==0)=false:=by simpa using j
   rw[w];cases d:wrongH c h with
   |true=>rw[d]at a;exact .inr (a.eq (by simp))
   |false=>
    rw[d]at a;cases e:folB c.Faults.Window x[i-1] h with
    |true=>rw[e]at a;exact .inl ⟨a,by simp[e]⟩
    |false=>rw[e]at a;exact .inr (a.eq (by simp[e]))
 .rw[Nat.sub_self];exact r
theorem Qg2(p q:Uc):Ev (λn=>F_bl n p q) (cmpPl p q):=by
 refine⟨4,λn a=>?_⟩;obtain⟨k,rfl⟩:∃k,n=k+4:=⟨n-4,by omega⟩;exact congrFun (congrFun (QgA k) p) q
theorem QlI(n:Nat)(v:Int):F_ag n v=some (nb v (-1099511627776) 1099511627776):=by
 unfold F_ag;by_cases a:(-1099511627776)<=v
 .rw[Qv a];simp only[Vm,XI,Option.some.injEq];rw[XX,QhC,Vo];omega
 .rw[Qu a];simp only[Vn,XI,Option.some.injEq]
  symm
  rw[VI];intro z;rw[QhC]at z;omega
theorem Qjf{e:Int}(c:Course)(x:List Hit)(w:x.length<=1000000)(he:Ev (λn=>F_c n c) e):Ev (λn=>F_cl n c x) (bif e != 0 then e else bif checkH c x then 0 else 170):=by
 unfold F_cl;refine Ea he ?_;cases(e != 0)with
 |true=>exact Qa _
 |false=>
  simp only[Vn];refine Ea (Qf5 c x w _ (λi h a=>?_) ?_) ?_
  .have l:Ev (λn=>((bif decide (h.Mat<0)then some true else(bif decide ((c.Mats.length:Int)<=h.Mat)then some true else(bif decide (h.Epoch<0)then some true else(bif decide (255<h.Epoch)then some true else(bif decide (h.Chip<0)then some true else(bif decide (1048576<h.Chip)then some true else(F_ag n h.First).bind λf=>(bif (!f)then some true else(F_ag n h.Last).bind λg=>(bif (!g)then some true else some (decide (h.Last<h.First)))))))))):Option Bool)) (wrongH c h):=by
    have e:wrongH c h=(decide (h.Mat<0)||(decide ((c.Mats.length:Int)<=h.Mat)||(decide (h.Epoch<0)||(decide (255<h.Epoch)||(decide (h.Chip<0)||(decide (1048576<h.Chip)||(!nb h.First (-1099511627776) 1099511627776||(!nb h.Last (-1099511627776) 1099511627776||decide (h.Last<h.First))))))))):=by
     unfold wrongH;have s:∀v lo d:Int,(!nb v lo d)=(decide (v<lo)||decide (d<v)):=λv lo d=>by unfold nb;simp
     rw[s h.Epoch,s h.Chip,Bool.or_assoc,Bool.or_assoc]
    rw[e];refine Ql λ_=>Ql λ_=>Ql λ_=>Ql λ_=>Ql λ_=>Ql λ_=>?_;simp only[QlI,XI];exact Ql λ_=>Ql λ_=>Qa _
   refine⟨λp d u=>?_,λd=>?_⟩
   .have m:((i:Int)==0)=false:=by rw[Vv];omega
    have k:i64.wrap ((i:Int)-1)=((i-1:Nat):Int):=by
     have:=a.lt';rw[Qj (by omega) (by omega)];omega
    unfold F_hs;simp only[a.lt,Vm,a.ix,XI,a.nx,m,Vn,k,Qt u];cases r:wrongH c h with
    |true=>
     refine Ea (v:=(Ctl.done (Ctl.done (Ctl.done 170)):Ctl Unit (Ctl Int (Ctl Unit Int)))) (Ea l ?_) (Qa _);rw[r];exact Qa _
    |false=>
     refine Ea (v:=(bif folB c.Faults.Window p h then Ctl.cont ()else Ctl.done (Ctl.done (Ctl.done 170)):Ctl Unit (Ctl Int (Ctl Unit Int)))) (Ea l ?_) ?_
     .rw[r];simp only[Vn];refine Ea (Qg2 _ _) ?_;show Ev (λn=>((bif decide (0<cmpPl (plH p) (plH h))then some (decide (0<cmpPl (plH p) (plH h)))else(bif (cmpPl (plH p) (plH h)==0)then some (decide ((i64.wrap (h.First-p.Last))<=c.Faults.Window))else some false)):Option Bool).bind λj=>((bif j then some (Ctl.done (Ctl.done (Ctl.done 170)))else some (Ctl.cont ())):Option (Ctl Unit (Ctl Int (Ctl Unit Int))))) _;unfold folB;rcases Int.lt_trichotomy (cmpPl (plH p) (plH h)) 0 with q|q|q
      .rw[Qu (show¬0<cmpPl (plH p) (plH h)by omega),Qv q,show(cmpPl (plH p) (plH h)==0)=false by rw[Vv];omega];exact Qa _
      .rw[q];by_cases z:c.Faults.Window<i64.wrap (h.First-p.Last)
       .rw[Qv z,Qu (show¬i64.wrap (h.First-p.Last)<=c.Faults.Window by omega)];exact Qa _
       .rw[Qu z,Qv (show i64.wrap (h.First-p.Last)<=c.Faults.Window by omega)];exact Qa _
      .rw[Qv q,Qu (show¬cmpPl (plH p) (plH h)<0 by omega),Qu (show¬cmpPl (plH p) (plH h)=0 by omega)];exact Qa _
     .cases folB c.Faults.Window p h<;>exact Qa _
   .subst d;unfold F_hs;have t:(((0:Nat):Int)==0)=true:=rfl;simp only[a.lt,Vm,a.ix,XI,a.nx,t];refine Ea (v:=(bif wrongH c h then Ctl.done (Ctl.done (Ctl.done 170))else Ctl.cont ():Ctl Unit (Ctl Int (Ctl Unit Int)))) (Ea l ?_) ?_
    .cases wrongH c h<;>exact Qa _
    .cases wrongH c h<;>exact Qa _
  .unfold F_hs;simp only[Qa4,Vn];exact Qa _
  .cases checkH c x<;>exact Qa _
theorem Qhe(c:Course)(a:Course.wf c):∃b,Ev (λn=>F_br n c) b/\(b=true->FewOk c/\Ev (λn=>F_c n c) (courseE c)):=by
 have w:=QdB a;have q:=QeP a;obtain⟨e,d⟩:=Qih a;obtain⟨b,g,fb⟩:=Qf6 c w q e d;exact⟨b,g,λf=>⟨fb f,Qjk c w q (fb f) e d⟩⟩
mutual
def flP:Part->List Int
 |⟨m,laps,ps⟩=>bif laps==0 then[m]else(List.replicate laps.toNat (flPs ps)).flatten
def flPs:List Part->List Int
 |[]=>[]
 |p::r=>flP p++flPs r
end
theorem Qc8(p:Part):flP p=bif p.Laps==0 then[p.Mat]else(List.replicate p.Laps.toNat (flPs p.Parts)).flatten:=by cases p;rfl
theorem Qa0(p:Part)(r:List Part):flPs (p::r)=flP p++flPs r:=by rw[flPs]
theorem Qgy:∀(k:Nat) (out lap:List Int),(repS k out lap).length<=256->repS k out lap=out++(List.replicate k lap).flatten
 |0,out,lap,_=>by simp[repS]
 |k+1,out,lap,h=>by
  rw[repS]at h⊢;by_cases hb:256<out.length
  .rw[Vq hb]at h;omega
  .rw[Vp hb]at h⊢;rw[Qgy k _ _ h,Xl,Vj,Vg]
theorem QfX{d:Int}{p:Part}(h:partS d p=true):p.Laps=0\/(1<=p.Laps/\p.Laps<=64/\partsS d p.Parts=true):=by
 rw[QaW]at h;cases a:(p.Laps==0)with
 |true=>exact .inl (by simpa using a)
 |false=>
  rw[a]at h;simp only[Vn,XV,inR,Vo]at h;exact .inr ⟨h.1.1,h.1.2,h.2.2.2⟩
theorem QkA(u:Int):∀(m:Nat) (l:List Part) (e:List Int),szPs l<=m->partsS u l=true->(expS e l).length<=256->expS e l=e++flPs l:=by
 intro m
 induction m using Nat.strongRecOn with
 |_ m x=>
 intro l
 induction l with
 |nil=>intro e _ _ _;rw[expS,flPs,Ve]
 |cons p r n=>
  intro e w j i;rw[YZ,List.all_cons,XV, <- YZ]at j;have q:szP p+szPs r<=m:=by rw[szPs]at w;omega
  rw[expS]at i⊢;by_cases g:256<(repS (p.Laps.toNat+(bif decide (0<p.Laps)then 0 else 1)) e (lapS p)).length
  .rw[Qcz r g]at i;omega
  .have s:=Qgy _ _ _ (Nat.le_of_not_lt g);rw[n _ (by omega) j.2 i,s,Qa0,Vg];congr 2;rcases QfX j.1 with t|⟨a,b,d⟩
   .have h:decide (0<p.Laps)=false:=Qu (by omega);have k:(p.Laps==0)=true:=by simp[t]
    rw[Qaw,Qc8,h,k,t];simp
   .have h:decide (0<p.Laps)=true:=Qv (by omega);have k:(p.Laps==0)=false:=beq_false_of_ne (by omega);have f:(lapS p).length<=256:=by
     rw[s,h]at g;simp only[Vm,Xw]at g;have:p.Laps.toNat=(p.Laps.toNat-1)+1:=by omega
     rw[this,Xl,Vj]at g;simp only[X2]at g;omega
    rw[Qaw,h,Vm]at f;rw[YB]at q;have:=x (szPs p.Parts) (by omega) p.Parts [] (XS _) d f;rw[Qaw,Qc8,h,k,Vm,Vm,Vn,Xw,this,Vf]
theorem QlN(T:Int):∀(m:Nat) (l:List Part) (e:List Int),szPs l<=m->partsS T l=true->l.length<=1048576->(∀x∈l,Part.wf x)->e.length+(flPs l).length<=256->Ev (λn=>F_m n l e) (e++flPs l):=by
 intro m
 induction m using Nat.strongRecOn with
 |_ m L=>
 intro l e X F P V H;rw[YZ,Xs]at F;refine Yx ?_;show Ev (λn=>B_m (F_m n) n l e) _;unfold B_m;have inner:∀(p:Part) (w:List Int),0<=p.Laps->p.Laps<=64->(∀o:List Int,o.length+w.length<=256->Ev (λn=>F_m n p.Parts o) (o++w))->∀(k j:Nat) (o:List Int),j+k=p.Laps.toNat->o.length+(List.replicate k w).flatten.length<=256->
   EvI (λn=>F_et n (F_m n) p) (o,(j:Int)) (o++(List.replicate k w).flatten):=by
  intro p w E N h k
  induction k with
  |zero=>
   intro j o J _;refine Ej ?_;unfold F_et;simp only[Qu (show¬((j:Int)<p.Laps)by omega),Vn,List.replicate_zero,List.flatten_nil,Ve];exact Qa _
  |succ k z=>
   intro j o J g;rw[Xl,Vj]at g⊢;simp only[X2]at g;refine(Ex ?_ (z (j+1) (o++w) (by omega) (by rw[X2];omega))).eq (by rw[Vg]);unfold F_et;simp only[Qv (show(j:Int)<p.Laps by omega),Vm];refine Ea (h o (by omega)) ?_;rw[QV (by omega)];exact Qa _
 have loop:∀(r:List Part) (i:Nat) (o:List Int),l.drop i=r->i<=l.length->o.length+(flPs r).length<=256->EvI (λn=>F_ie n l (F_m n)) (o,(i:Int)) (o++flPs r):=by
  intro r
  induction r with
  |nil=>
   intro i o h B _;refine Ej ?_;unfold F_ie;simp only[QS h B,Vn,flPs,Ve];exact Qa _
  |cons p r y=>
   intro i o h B g;obtain⟨f,s⟩:=Qy (by omega) h;have R:=f.lt';rw[Qa0,X2]at g;have G:=YO f.mem;rw[YB]at G;obtain⟨Q,O⟩:=Q9 (V p f.mem);have M:=F p f.mem;refine(Ex ?_ (y (i+1) (o++flP p) s (by omega) (by rw[X2];omega))).eq (by rw[Qa0,Vg]);unfold F_ie;simp only[f.lt,Vm,f.ix,XI,f.nx];rcases QfX M with E|⟨a,b,d⟩
   .have q:(p.Laps==0)=true:=by simp[E]
    have u:flP p=[p.Mat]:=by rw[Qc8,q];rfl
    rw[u]at g⊢;refine Ea (v:=o++[p.Mat]) ?_ ?_
    .rw[q];refine QeZ ?_;rw[Ql7 _ _ (by simp;omega)];exact Qa _
    .refine Ea (v:=o++[p.Mat]) ((Ej ?_).ev) (Qa _);unfold F_et;simp only[Qu (show¬((0:Int)<p.Laps)by omega),Vn];exact Qa _
   .have q:(p.Laps==0)=false:=beq_false_of_ne (by omega);have u:flP p=(List.replicate p.Laps.toNat (flPs p.Parts)).flatten:=by rw[Qc8,q];rfl
    rw[u]at g⊢;refine Ea (v:=o) ?_ ?_
    .rw[q];exact Qa _
    .refine Ea ((inner p (flPs p.Parts) (by omega) b (λW t=>L (szPs p.Parts) (by omega) p.Parts W (XS _) d Q O t) p.Laps.toNat 0 o (by omega) (by omega)).ev) (Qa _)
 exact Ea ((loop l 0 e (by simp) (XT _) H).ev) (Qa _)
structure Good (c:Course):Prop where
 parts:∀d∈c.Distances,partsS ((c.Mats.length:Int)-1) d.Route=true
 route:∀d∈c.Distances,2<=(expS [] d.Route).length/\(expS [] d.Route).length<=256
 len:∀d∈c.Distances,d.Route.length<=1048576
 wf:∀d∈c.Distances,∀x∈d.Route,Part.wf x
 legs:c.Legs.length<=512
theorem Good.exp{c:Course}(g:Good c){d:Distance}(a:d∈c.Distances):expS [] d.Route=flPs d.Route:=by
 have:=QkA _ _ d.Route [] (XS _) (g.parts d a) (g.route d a).2
 rwa [Vf]at this
theorem QbF{c:Course}(g:Good c){d:Distance}(a:d∈c.Distances):Ev (λn=>F_cn n d.Route) (flPs d.Route):=by
 unfold F_cn;have h:=(g.route d a).2;rw[g.exp a]at h;refine Ea ((QlN _ _ d.Route [] (XS _) (g.parts d a) (g.len d a) (g.wf d a) (by simpa using h)).eq (Vf _)) (Qa _)
theorem QdP{c:Course}(he:Ev (λn=>F_c n c) 0){i:Nat}{d:Distance}(a:c.Distances[i]?=some d):Ev (λn=>F_bc n c (i:Int)) (d,0):=by
 unfold F_bc;refine Ea he ?_;have e:=(XK.1 a).1;refine Qs (Ea (v:=false) ?_ ?_)
 .rw[Qu (show¬((i:Int)<0)by omega),Qu (show¬((c.Distances.length:Int)<=(i:Int))by omega)];exact Qa _
 .simp only[Vn,Qt a,XI];exact Qa _
theorem QlU(c:Course)(a:c.Legs.length<=512):∃m,Ev (λn=>Go.Sw.iter (F_bi n c) n (([]:List (Ub×Leg)),0)) m:=by
 refine⟨_,Js c.Legs (λ(m:List (Ub×Leg)) x=>QW m ({from_:=x.From,to_:=x.To:Ub}) x) [] (λm i=>(m,(i:Int))) (λm=>m) (by omega) rfl (λi x m ha _=>?_) ?_⟩
 .unfold F_bi;simp only[ha.lt,Vm,ha.ix,XI,ha.nx];exact Qa _
 .unfold F_bi;simp only[Qa4,Vn];exact Qa _
theorem QjQ{α:Type}{step:Nat->Int->Option (Ctl Int (Ctl Unit Int))}(l:List α)(q:α->Bool)(z:l.length<=1048576)
  (u:∀i x,At l i x->Ev (λn=>step n (i:Int)) (bif q x then .done (.done (i:Int))else .cont ((i+1:Nat):Int)))(s:Ev (λn=>step n (l.length:Int)) (.done (.cont ()))):
  (∃i x,At l i x/\l.find? q=some x/\Ev (λn=>Go.Sw.iter (step n) n 0) (.done (i:Int)))\/l.find? q=none/\Ev (λn=>Go.Sw.iter (step n) n 0) (.cont ()):=by
 have g:∀(r:List α) (i:Nat),l.drop i=r->i<=l.length->(∃j x,At l j x/\r.find? q=some x/\EvI step (i:Int) (.done (j:Int)))\/r.find? q=none/\EvI step (i:Int) (.cont ()):=by
  intro r
  induction r with
  |nil=>
   intro i m t;have:i=l.length:=by have:=Xq.1 m;omega
   subst this;exact .inr ⟨rfl,Ej s⟩
  |cons x r w=>
   intro i m t;obtain⟨f,k⟩:=Qy (by omega) m;have p:=f.lt';have h:=u i x f;rw[List.find?_cons];cases e:q x with
   |true=>rw[e]at h;exact .inl ⟨i,x,f,rfl,Ej h⟩
   |false=>
    rw[e]at h;rcases w (i+1) k (by omega)with⟨j,y,a,b,d⟩|⟨a,b⟩
    .exact .inl ⟨j,y,a,b,Ex h d⟩
    .exact .inr ⟨a,Ex h b⟩
 rcases g l 0 (by simp) (XT _)with⟨j,x,a,b,d⟩|⟨a,b⟩
 .exact .inl ⟨j,x,a,b,d.ev⟩
 .exact .inr ⟨a,b.ev⟩
theorem QlK{c:Course}(w:CourseOk c)(q:PartsOk c)(h:courseE c=0):Good c:=by
 unfold courseE at h;cases f:fitsS c with
 |false=>rw[f]at h;cases h
 |true=>
  rw[f]at h;cases k:namesS c with
  |false=>rw[k]at h;cases h
  |true=>
   rw[k]at h;cases e:numbersS c with
   |false=>rw[e]at h;cases h
   |true=>
    rw[e]at h;simp only[Vm]at h;have i:c.Distances.all (routeS c)=true:=by
     cases g:(tiesE c.Ties==0)with
     |false=>
      rw[g,Vn]at h;rw[Vv]at g;exact absurd h g
     |true=>
      rw[g,Vm]at h;cases i:c.Distances.all (routeS c)with
      |true=>rfl
      |false=>rw[i]at h;cases h
    unfold numbersS at e;simp only[XV]at e;obtain⟨_,_,_,j,_⟩:=e;unfold fitsS at f;simp only[XV,Bool.not_eq_true',XW,decide_eq_false_iff_not]at f;rw[Xs]at i j;refine⟨λd a=>?_,λd a=>?_,q.len,q.wf,?_⟩
    .have:=j d a;unfold distS at this;simp only[XV]at this;exact this.2.2.1
    .have:=i d a;unfold routeS routeR at this;simp only[XV,Vo]at this;exact this.1
    .have:=f.1.2.1;omega
theorem Qly:∀j:Fin 257,(decide (0<(u64.wrap ((u64.wrap ((u64.wrap ((Yi .u64 (u64.wrap ([(0:Int)].length:Int)) 32)*(Yi .u64 (u64.wrap ((j:Nat):Int)) 32)))+(Yi .u64 (u64.wrap ((u64.wrap ((Yi .u64 (u64.wrap ([(0:Int)].length:Int)) 32)*(Yj .u64 (u64.wrap ((j:Nat):Int)) 4294967295)))+(Yi .u64 (u64.wrap ((Yj .u64 (u64.wrap ([(0:Int)].length:Int)) 4294967295)*(Yj .u64 (u64.wrap ((j:Nat):Int)) 4294967295))) 32))) 32)))+(Yi .u64 (u64.wrap ((Yj .u64 (u64.wrap ((u64.wrap ((Yi .u64 (u64.wrap ([(0:Int)].length:Int)) 32)*(Yj .u64 (u64.wrap ((j:Nat):Int)) 4294967295)))+(Yi .u64 (u64.wrap ((Yj .u64 (u64.wrap ([(0:Int)].length:Int)) 4294967295)*(Yj .u64 (u64.wrap ((j:Nat):Int)) 4294967295))) 32))) 4294967295)+(u64.wrap ((Yj .u64 (u64.wrap ([(0:Int)].length:Int)) 4294967295)*(Yi .u64 (u64.wrap ((j:Nat):Int)) 32))))) 32)))))=false:=by decide+kernel
theorem Qkb:∀j:Fin 257,(decide (9223372036854775807<(u64.wrap ((u64.wrap ([(0:Int)].length:Int))*(u64.wrap ((j:Nat):Int))))))=false:=by decide+kernel
theorem Qlz:∀j:Fin 257,(i64.wrap (u64.wrap ((u64.wrap ([(0:Int)].length:Int))*(u64.wrap ((j:Nat):Int)))))=((j:Nat):Int):=by decide+kernel
theorem Qkc(x:Int)(K:Nat)(p:K<=256):∀(m j:Nat),1<=j->j<=K->K-j<=m->EvI (λn=>F_gl n) (List.replicate j x++List.replicate (K-j) 0,(j:Int)) (List.replicate K x):=by
 intro m
 induction m with
 |zero=>
  intro j i f l;obtain rfl:j=K:=by omega
  refine Ej ?_;unfold F_gl;rw[Nat.sub_self,List.replicate_zero,Ve];simp only[List.length_replicate,Qu (show¬((j:Int)<(j:Int))by omega),Vn];exact Qa _
 |succ m h=>
  intro j i f l;by_cases k:j=K
  .subst k;refine Ej ?_;unfold F_gl;rw[Nat.sub_self,List.replicate_zero,Ve];simp only[List.length_replicate,Qu (show¬((j:Int)<(j:Int))by omega),Vn];exact Qa _
  .have e:(List.replicate j x++List.replicate (K-j) (0:Int)).length=K:=by simp;omega
   refine Ex ?_ (h (j+min j (K-j)) (by omega) (by omega) (by omega));unfold F_gl;simp only;generalize hL:List.replicate j x++List.replicate (K-j) (0:Int)=L at e;have a:L.take j=List.replicate j x:=by rw[<- hL,List.take_left' (by simp)]
   have g:L.drop j=List.replicate (K-j) 0:=by rw[<- hL,List.drop_left' (by simp)]
   rw[Qv (by omega),Vm,Qj6 L (by omega),XI,Qmw L (by omega),XI];unfold cpy;simp only[XI,Int.toNat_natCast,e,a];have d:L.take j++(List.replicate j x).take (K-j)++L.drop (j+min (List.replicate j x).length (K-j))=List.replicate (j+min j (K-j)) x++List.replicate (K-(j+min j (K-j))) 0:=by
    rw[<- List.drop_drop,a,g,List.length_replicate,List.take_replicate,List.drop_replicate,List.replicate_append_replicate];rw[Nat.min_comm (K-j) j,Nat.sub_sub]
   rw[a]at d;rw[d];have w:i64.wrap ((j:Int)+((min (List.replicate j x).length (K-j):Nat):Int))=((j+min j (K-j):Nat):Int):=by
    rw[List.length_replicate,Qj (by omega) (by omega)];omega
   rw[w];exact Qa _
theorem Yp{α:Type}{c:Bool}{f g:Nat->Option α}{v:α}(h:c=false)(q:Ev g v):Ev (λn=>bif c then f n else g n) v:=by subst h;exact q
theorem Qfz(x:Int)(k:Nat)(a:1<=k)(g:k<=256):Ev (λn=>F_bg n [x] (k:Int)) (List.replicate k x):=by
 have h:=Qly ⟨k,by omega⟩;have f:=Qkb ⟨k,by omega⟩;have d:=Qlz ⟨k,by omega⟩;unfold F_bg;refine Ea (v:=()) (by rw[Qu (show¬((k:Int)<0)by omega)];exact Qa _) (Ea (v:=()) (Qa _) (Ea (v:=false) ?_ (Ea (v:=()) (Qa _) ?_)))
 .exact Yp h (EA (congrArg some f))
 .refine Ea (v:=List.replicate k 0) (EA ((congrArg (λz=>mk z (0:Int)) d).trans ?_)) ?_
  .show mk (k:Int) 0=_;unfold mk;rw[Qv (by omega),Qv (by omega)];rfl
  .refine Ea (v:=List.replicate 1 x++List.replicate (k-1) 0) (EA ?_) ?_
   .unfold cpy;simp only[List.length_replicate,Int.toNat_natCast,List.length_singleton];obtain⟨m,rfl⟩:∃m,k=m+1:=⟨k-1,by omega⟩;simp
   .have e:((min [x].length (List.replicate k (0:Int)).length:Nat):Int)=((1:Nat):Int):=by simp;omega
    rw[e];exact Ea ((Qkc x k g k 1 (XS _) a (by omega)).ev) (Qa _)
set_option maxRecDepth 10000
theorem Y2{c:Course}(h:courseE c=0):fitsS c=true/\numbersS c=true/\ ∀d∈c.Distances,routeS c d=true:=by
 unfold courseE at h;cases f:fitsS c with
 |false=>rw[f]at h;cases h
 |true=>
  rw[f]at h;cases g:namesS c with
  |false=>rw[g]at h;cases h
  |true=>
   rw[g]at h;cases e:numbersS c with
   |false=>rw[e]at h;cases h
   |true=>
    rw[e]at h;simp only[Vm]at h;cases a:(tiesE c.Ties==0)with
    |false=>
     rw[a,Vn]at h;rw[Vv]at a;exact absurd h a
    |true=>
     rw[a,Vm]at h;cases i:c.Distances.all (routeS c)with
     |true=>exact⟨rfl,rfl,Xs.1 i⟩
     |false=>rw[i]at h;cases h
theorem Qhd{c:Course}(h:courseE c=0):CrsOk c:=by
 obtain⟨d,a,_⟩:=Y2 h;unfold fitsS at d;unfold numbersS lastS inR at a;simp only[XV,Bool.not_eq_true',XW,decide_eq_false_iff_not,Vo]at d a;refine⟨?_,?_,?_⟩
 .have:=d.1;omega
 .exact a.2.2.2.2.2.2.2.2.2.2.1.2
 .exact a.2.2.2.2.2.2.2.2.2.2.2.1
theorem Qal{α:Type}{c:Bool}{f g:Nat->Option α}{v:α}(h:c=true)(q:Ev f v):Ev (λn=>bif c then f n else g n) v:=by subst h;exact q
def lastB(l:List Int)(x:Int):Nat->Nat
 |0=>0
 |j+1=>bif (l[j+1]? ==some x)then j+1 else lastB l x j
theorem Qei(l:List Int)(x:Int):∀j,lastB l x j<=j
 |0=>XS _
 |j+1=>by
  unfold lastB;have:=Qei l x j;cases(l[j+1]? ==some x)<;>simp<;>omega
def routeV(d:Distance)(k:Nat):List Int:=(flPs d.Route).take (lastB (flPs d.Route) d.Extra ((flPs d.Route).length-1)+1)++List.replicate k d.Extra++(flPs d.Route).drop (lastB (flPs d.Route) d.Extra ((flPs d.Route).length-1)+1)
def routeO(c:Course)(i k:Int):List Int×Int:=
 bif decide (i<0)then([],90)else match c.Distances[i.toNat]? with
 |none=>([],90)
 |some d=>bif decide (k<0)||(decide (0<k)&&decide (d.Extra<0))then([],90)else bif decide (256-((flPs d.Route).length:Int)<k)then([],2)else(routeV d k.toNat,0)
theorem Qc9(d:Distance)(e:Int)(l:List Int)(a:l.length<=256):∀(m:Nat),m<l.length->EvI (λn=>F_dw n (d,e) l) (m:Int) ((lastB l d.Extra m:Nat):Int)
 |0,h=>by
  refine Ej ?_;unfold F_dw lastB;exact Qa _
 |m+1,h=>by
  have hx:l[m+1]?=some (l[m+1]'(h)):=XJ h;unfold lastB;rw[hx];cases hq:((l[m+1]'(h)) != d.Extra)with
  |true=>
   have e1:(some (l[m+1]'(h))==some d.Extra)=false:=by simp at hq⊢;exact hq
   rw[e1,Vn];refine Ex ?_ (Qc9 d e l a m (by omega));unfold F_dw;rw[Qv (show(0:Int)<((m+1:Nat):Int)by omega),Vm,Qt hx,XI,hq,XI,Vm,Qj (n:=((m+1:Nat):Int)-1) (by omega) (by omega),show((m+1:Nat):Int)-1=(m:Int)by omega];exact Qa _
  |false=>
   have e1:(some (l[m+1]'(h))==some d.Extra)=true:=by simp at hq⊢;exact hq
   rw[e1,Vm];refine Ej ?_;unfold F_dw;rw[Qv (show(0:Int)<((m+1:Nat):Int)by omega),Vm,Qt hx,XI,hq,XI,Vn];exact Qa _
theorem Qg8{c:Course}(g:Good c)(he:Ev (λn=>F_c n c) 0)(i k:Int):Ev (λn=>F_az n c i k) (routeO c i k):=by
 unfold routeO;by_cases p:i<0
 .rw[Qv p,Vm];unfold F_az F_z;refine Ea (v:=((90:Int),([]:List Int))) (Ea (v:=U_course_build.c0 90) ?_ (Qa _)) (Qa _);refine Ea (v:=(Uo,90)) ?_ (Qal rfl (Qa _));unfold F_bc;refine Ea he (Qs (Ea (v:=true) ?_ (Qa _)));rw[Qv p];exact Qa _
 rw[Qu p,Vn];obtain⟨j,rfl⟩:∃j:Nat,i=(j:Int):=⟨i.toNat,by omega⟩;rw[Int.toNat_natCast];cases e:c.Distances[j]? with
 |none=>
  have x:c.Distances.length<=j:=List.getElem?_eq_none_iff.1 e;unfold F_az F_z;refine Ea (v:=((90:Int),([]:List Int))) (Ea (v:=U_course_build.c0 90) ?_ (Qa _)) (Qa _);refine Ea (v:=(Uo,90)) ?_ (Qal rfl (Qa _));unfold F_bc;refine Ea he (Qs (Ea (v:=true) ?_ (Qa _)));rw[Qu (show¬(j:Int)<0 by omega),Vn,Qv (show(c.Distances.length:Int)<=(j:Int)by omega)];exact Qa _
 |some d=>
  simp only;have f:=VD e;have h:=(g.route d f);rw[g.exp f]at h;have w:i64.wrap (256-((flPs d.Route).length:Int))=256-((flPs d.Route).length:Int):=Qj (by omega) (by omega);unfold F_az F_z;cases l:(decide (k<0)||(decide (0<k)&&decide (d.Extra<0)))with
  |true=>
   refine Ea (v:=((90:Int),([]:List Int))) (Ea (v:=U_course_build.c1 ()) (Ea (QdP he e) (Qs (Ea (v:=true) ?_ (Qa _)))) (Qa _)) (Qa _);exact Ew (Ql λ_=>Ei λ_=>Qa _) l
  |false=>
   have r:=l;simp only[XW,decide_eq_false_iff_not,Bool.and_eq_false_iff]at r;cases t:decide (256-((flPs d.Route).length:Int)<k)with
   |true=>
    refine Ea (v:=((2:Int),flPs d.Route)) (Ea (v:=U_course_build.c2 (flPs d.Route)) (Ea (QdP he e) (Qs (Ea (v:=false) ?_ (Qs (Ea (QbF g f) ?_))))) (Qa _)) (Qa _)
    .exact Ew (Ql λ_=>Ei λ_=>Qa _) l
    .simp only[w,t,Vm];exact Qa _
   |false=>
    have y:=Vt t;obtain⟨a,rfl⟩:∃a:Nat,k=(a:Int):=⟨k.toNat,by omega⟩;obtain⟨m,s⟩:=QlU c g.legs;rw[Int.toNat_natCast];refine Ea (v:=(0,routeV d a)) (Ea (v:=U_course_build.c3 (routeV d a,m)) (Ea (QdP he e) (Qs (Ea (v:=false) ?_ (Qs (Ea (QbF g f) ?_))))) (Qa _)) (Qa _)
    .exact Ew (Ql λ_=>Ei λ_=>Qa _) l
    .simp only[w,t,Vn];refine Ea (v:=routeV d a) ?_ (Ea s (Qa _));by_cases z:a=0
     .subst z;refine Yp (Qu (show¬(0:Int)<((0:Nat):Int)by omega)) ((Qa _).eq ?_);unfold routeV;simp
     .refine Qal (Qv (show(0:Int)<(a:Int)by omega)) ?_;have q:=Qc9 d 0 (flPs d.Route) h.2 ((flPs d.Route).length-1) (by omega);have u:=Qei (flPs d.Route) d.Extra ((flPs d.Route).length-1);rw[Qj (n:=((flPs d.Route).length:Int)-1) (by omega) (by omega),show((flPs d.Route).length:Int)-1=(((flPs d.Route).length-1:Nat):Int)by omega];refine Ea q.ev (Ea (Qfz d.Extra a (by omega) (by omega)) (Ea (EA ?_) (Qa _)));unfold routeV;generalize lastB (flPs d.Route) d.Extra ((flPs d.Route).length-1)=b at u;rw[Qj (n:=(b:Int)+1) (by omega) (by omega)];unfold Qi7;rw[Qv (show 0<=(b:Int)+1 by omega),Qv (show(b:Int)+1<=((flPs d.Route).length:Int)by omega),List.length_replicate,show Nat.blt 0 a=true from by simp;omega,XR (show(flPs d.Route).length+a<=Yk by unfold Yk;omega),show((b:Int)+1).toNat=b+1 by omega];rfl
theorem QaV{c:Course}(g:Good c){i k:Int}(h:(routeO c i k).2=0):∃(j:Nat) (d:Distance) (a:Nat),i=(j:Int)/\k=(a:Int)/\c.Distances[j]?=some d/\(0<a->0<=d.Extra)/\(flPs d.Route).length+a<=256/\(routeO c i k).1=routeV d a:=by
 unfold routeO at h⊢;by_cases l:i<0
 .rw[Qv l]at h;cases h
 rw[Qu l,Vn]at h⊢;cases e:c.Distances[i.toNat]? with
 |none=>rw[e]at h;cases h
 |some d=>
  rw[e]at h;simp only at h⊢;cases f:(decide (k<0)||(decide (0<k)&&decide (d.Extra<0)))with
  |true=>rw[f]at h;cases h
  |false=>
   rw[f]at h;cases m:decide (256-((flPs d.Route).length:Int)<k)with
   |true=>rw[m]at h;cases h
   |false=>
    simp only[XW,decide_eq_false_iff_not,Bool.and_eq_false_iff]at f m;exact⟨i.toNat,d,k.toNat,by omega,by omega,e,λ_=>by omega,by omega,rfl⟩
def Adj(c:Course):List Int->Prop
 |a::b::r=>hasLeg c a b=true/\Adj c (b::r)
 |_=>True
theorem Qe0{c:Course}{len:Nat}:∀{r:List Int} {i:Nat} {p:Int},rokS c len i p r=true->Adj c r/\(i≠0->∀m q,r=m::q->hasLeg c p m=true)
 |[],_,_,_=>⟨trivial,λ_ m q e=>by cases e⟩
 |m::r,i,p,h=>by
  unfold rokS at h;simp only[XV,Bool.or_eq_true,Vo]at h;obtain⟨_,_,h1,h2⟩:=h;obtain⟨a1,a2⟩:=Qe0 h2;refine⟨?_,λhi m' q e=>?_⟩
  .cases r with
   |nil=>trivial
   |cons b r=>exact⟨a2 (by omega) b r rfl,a1⟩
  .cases e;exact h1.resolve_left hi
theorem Qht{c:Course}:∀{r:List Int} (k:Nat),Adj c r->Adj c (r.drop k)
 |r,0,h=>by simpa using h
 |[],k+1,_=>by simp[Adj]
 |[a],k+1,_=>by simp[Adj]
 |a::b::r,k+1,h=>by
  rw[List.drop_succ_cons];exact Qht k h.2
theorem Adj.append{c:Course}:∀{p:List Int} {x:Int} {q:List Int},Adj c (p++[x])->Adj c (x::q)->Adj c (p++x::q)
 |[],x,q,_,h=>h
 |[a],x,q,h1,h2=>⟨h1.1,h2⟩
 |a::b::r,x,q,h1,h2=>⟨h1.1,Adj.append (p:=b::r) h1.2 h2⟩
theorem QiQ{c:Course}{x:Int}(h:hasLeg c x x=true){q:List Int}(hq:Adj c (x::q)):∀k,Adj c (x::(List.replicate k x++q))
 |0=>hq
 |k+1=>⟨h,QiQ h hq k⟩
theorem Adj.at{c:Course}:∀{r:List Int} {i:Nat} {a b:Int},Adj c r->r[i]?=some a->r[i+1]?=some b->hasLeg c a b=true
 |[],_,_,_,_,h,_=>by simp at h
 |[x],i,_,_,_,_,h=>by simp at h
 |x::y::r,0,a,b,h,h1,h2=>by simp at h1 h2;subst h1;subst h2;exact h.1
 |x::y::r,i+1,a,b,h,h1,h2=>Adj.at (r:=y::r) h.2 (by simpa using h1) (by simpa using h2)
theorem QgH(l:List Int)(x:Int):∀m,m<l.length->(∃i,i<=m/\0<i/\l[i]?=some x)->l[lastB l x m]?=some x
 |0,h,⟨i,h1,h2,_⟩=>by omega
 |m+1,h,⟨i,h1,h2,h3⟩=>by
  unfold lastB;cases e:(l[m+1]? ==some x)with
  |true=>simp at e;simpa using e
  |false=>
   simp only[Vn];refine QgH l x m (by omega) ⟨i,?_,h2,h3⟩;rcases Vy m i with q|q
   .have:i=m+1:=by omega
    subst this;rw[h3]at e;simp at e
   .exact q
theorem Qfg{c:Course}(g:Good c)(W:courseE c=0){d:Distance}(L:d∈c.Distances)(k:Nat)(V:0<k->0<=d.Extra):Adj c (routeV d k):=by
 have h:=(Y2 W).2.2 d L;unfold routeS routeR at h;rw[g.exp L]at h;simp only[XV,Vo]at h;obtain⟨⟨X,M⟩,t,F,_⟩:=h;have u:=(Qe0 t).1;unfold routeV;by_cases N:k=0
 .subst N;simpa using u
 have O:=V (by omega);rw[Qv O,Vm]at F;simp only[XV,Bool.not_eq_true',Vv,ne_eq]at F;obtain⟨J,H,R⟩:=F;have l:d.Extra∈flPs d.Route:=by
  by_cases w:d.Extra∈flPs d.Route
  .exact w
  .rw[List.count_eq_zero_of_not_mem w]at J;exact absurd rfl J
 obtain⟨i,B,s⟩:=List.getElem_of_mem l;have E:0<i:=by
  rcases Nat.eq_zero_or_pos i with q|q
  .subst q;cases G:flPs d.Route with
   |nil=>rw[G]at B;simp at B
   |cons m r=>
    rw[G]at t;unfold rokS at t;simp only[XV,Vu,decide_true,Bool.true_eq]at t;have w:m=d.Extra:=by rw[<- s];simp[G]
    rw[<- w]at H;rw[Vu]at H;have:=t.1;rw[H]at this;simp at this
  .exact q
 have j:=QgH (flPs d.Route) d.Extra ((flPs d.Route).length-1) (by omega) ⟨i,by omega,E,by rw[XJ B,s]⟩;generalize hb:lastB (flPs d.Route) d.Extra ((flPs d.Route).length-1)=b at j;have z:b<(flPs d.Route).length:=(XK.1 j).1;have f:(flPs d.Route).drop b=d.Extra::(flPs d.Route).drop (b+1):=by
  rw[Xp z,(XK.1 j).2]
 have a:(flPs d.Route).take (b+1)=(flPs d.Route).take b++[d.Extra]:=by
  rw[List.take_add_one,j];rfl
 have n:∀{p q:List Int},Adj c (p++q)->Adj c p:=by
  intro p
  induction p with
  |nil=>intro q _;trivial
  |cons x p Q=>
   intro q h;cases p with
   |nil=>trivial
   |cons y p=>exact⟨h.1,Q h.2⟩
 have P:Adj c ((flPs d.Route).take b++[d.Extra]):=by
  rw[<- a];have e:(flPs d.Route)=(flPs d.Route).take (b+1)++(flPs d.Route).drop (b+1):=(Xy _ _).symm;rw[e]at u;exact n u
 have T:Adj c (d.Extra::(flPs d.Route).drop (b+1)):=by rw[<- f];exact Qht b u
 rw[a,Vg,Vg,List.singleton_append];exact Adj.append P (QiQ R T k)
set_option maxRecDepth 10000
theorem timeI{x:Int}:timeB x=true↔isT x:=by
 unfold timeB inR isT;rw[XV,Vo,Vo]
def segIx(k:Clocks)(h:Hit):Int:=firstI (λx:Segment=>({mat:=x.Mat,epoch:=x.Epoch:Ue})=={mat:=h.Mat,epoch:=h.Epoch}) k.Segments 0
def spanV(c:Course)(s:Segment)(h:Hit):Span:={Lo:=i64.wrap (h.First+(devV c (kindAt c h.Mat) s h.First).Lo),Hi:=i64.wrap (h.Last+(devV c (kindAt c h.Mat) s h.Last).Hi)}
def timeV(c:Course)(k:Clocks)(h:Hit):Option Ud:=
 bif kindAt c h.Mat==1 then some {segment:= -1,span:=spanV c {Mat:=h.Mat,Epoch:=h.Epoch,Anchor:=0} h}else
  bif decide (segIx k h<0)then none else(k.Segments[(segIx k h).toNat]?).map λs=>{segment:=segIx k h,span:=spanV c s h}
def timesV(c:Course)(k:Clocks):List Hit->Option (List Ud)
 |[]=>some []
 |h::r=>(timeV c k h).bind λx=>(timesV c k r).map λl=>x::l
theorem Qdi(c:Course)(k:Clocks)(h:Hit)(r:List Hit):timesV c k (h::r)=(timeV c k h).bind λx=>(timesV c k r).map λl=>x::l:=rfl
theorem QeA(k:Clocks)(h:Hit)(d:k.Segments.length<=1048576):Ev (λn=>F_ce n k.Segments h) (segIx k h):=by
 unfold F_ce;refine Ev.first k.Segments _ (by omega) (λi x a=>?_) ?_
 .unfold F_ja;simp only[a.lt,Vm,a.ix,XI,a.nx];unfold F_eo;simp only[XI];cases(({mat:=x.Mat,epoch:=x.Epoch:Ue})=={mat:=h.Mat,epoch:=h.Epoch})<;>exact Qa _
 .unfold F_ja;simp only[Qa4,Vn];exact Qa _
theorem Qd4{k:Clocks}{h:Hit}(q:¬segIx k h<0):∃(j:Nat) (s:Segment),segIx k h=(j:Int)/\k.Segments[j]?=some s/\s.Mat=h.Mat/\s.Epoch=h.Epoch:=by
 rcases Qdq (λx:Segment=>({mat:=x.Mat,epoch:=x.Epoch:Ue})=={mat:=h.Mat,epoch:=h.Epoch}) k.Segments 0 with⟨a,_⟩|⟨j,s,a,e,d,_⟩
 .unfold segIx at q;rw[a]at q;omega
 .refine⟨j,s,by unfold segIx;rw[a];simp,e,?_⟩;rw[Vu]at d;simpa using d
structure HitOk (c:Course) (h:Hit):Prop where
 mat:∃(i:Nat) (m:Mat),h.Mat=(i:Int)/\c.Mats[i]?=some m
 fi:isT h.First
 la:isT h.Last
 le:h.First<=h.Last
theorem Qli{c:Course}{h:Hit}(q:wrongH c h=false):HitOk c h:=by
 unfold wrongH at q;simp only[XW,decide_eq_false_iff_not,Bool.not_eq_false',QhC]at q;obtain⟨e,f,_,_,a,d,g⟩:=q;exact⟨⟨h.Mat.toNat,c.Mats[h.Mat.toNat]'(by omega),by omega,XJ _⟩,a,d,by omega⟩
theorem QiD{p:Nat->Bool}:∀{m i:Nat},chkFrom p m i=true->∀j,i<=j->j<i+m->p j=true
 |0,i,_,j,h1,h2=>by omega
 |m+1,i,h,j,h1,h2=>by
  unfold chkFrom at h;rw[XV]at h;rcases Nat.eq_or_lt_of_le h1 with rfl|q
  .exact h.1
  .exact QiD h.2 j q (by omega)
theorem Qiq{c:Course}{x:List Hit}(h:checkH c x=true):∀y∈x,HitOk c y:=by
 intro y a;obtain⟨i,d,rfl⟩:=List.getElem_of_mem a;have:=QiD h i (XT _) (by omega);unfold okAt at this;rw[XJ d]at this;simp only[XV,Bool.not_eq_true']at this;exact Qli this.1
theorem QkP{c:Course}(j:CrsOk c)(he:Ev (λn=>F_c n c) 0){s:Segment}{i:Nat}{m:Mat}(f:s.Mat=(i:Int))(d:c.Mats[i]?=some m)(e:isT s.Anchor){a:Int}(g:isT a):
  Ev (λn=>F_aj n c s a) (devV c m.Kind s a,0):=by
 have h:matB c s.Mat=true:=by
  have:=(XK.1 d).1;unfold matB;rw[f,Qv (by omega),Qv (by omega)];rfl
 unfold F_aj;refine Ea he (Qs (Ea (v:=false) (Ea (QeG c _) ?_) (Qs (Ea (QhQ j d f e g) (Qa _)))));rw[h];refine Qs (Ea (Qa3 a) ?_);rw[timeI.2 g];refine Qs (Ea (Qa3 s.Anchor) ?_);rw[timeI.2 e];exact Qa _
structure ClkOk (k:Clocks):Prop where
 dims:Dims k
 ev:Ev (λn=>F_ar n k) 0
 anc:∀s∈k.Segments,isT s.Anchor
theorem Qhr{k:Clocks}(w:ClkW k)(h:clkB k=true):ClkOk k:=by
 have e:=QkL k w;rw[h]at e;refine⟨QbT h,e,λs f=>?_⟩;unfold clkB at h;simp only[XV]at h;have a:=h.2.1;unfold segsB at a;obtain⟨i,d,rfl⟩:=List.getElem_of_mem f;have:=Qnk.1 a i d;rw[XJ d]at this;unfold segBad at this;simp only[Bool.not_eq_true',XW,Bool.not_eq_false']at this;exact timeI.1 this.2.2.2.2.1
theorem QlF{c:Course}{h:Hit}{i:Nat}{m:Mat}(d:h.Mat=(i:Int))(a:c.Mats[i]?=some m):kindAt c h.Mat=m.Kind:=by
 unfold kindAt;rw[d,Int.toNat_natCast,a];rfl
theorem QkB{c:Course}{k:Clocks}(N:CrsOk c)(he:Ev (λn=>F_c n c) 0)(O:ClkOk k)(x:List Hit)(V:∀y∈x,HitOk c y)(hl:x.length<=1000):
  Ev (λn=>iter (F_al n c k x) n ([],0)) (match timesV c k x with|some l=>Ctl.cont l|none=>Ctl.done (U_match_prepare.c0 170)):=by
 have hs:=O.dims.segs;have E:∀(r:List Hit) (a:List Ud) (i:Nat),x.drop i=r->i<=x.length->a.length<=i->EvI (λn=>F_al n c k x) (a,(i:Int)) (match timesV c k r with|some l=>Ctl.cont (a++l)|none=>Ctl.done (U_match_prepare.c0 170)):=by
  intro r
  induction r with
  |nil=>
   intro a i L M d;refine Ej ?_;unfold F_al;simp only[QS L M,Vn];refine(Qa _).eq ?_;simp[timesV]
  |cons h r Q=>
   intro a i L M Y;obtain⟨d,F⟩:=Qy (by omega) L;have W:=d.lt';obtain⟨⟨j,m,q,t⟩,X,R,f3⟩:=V h d.mem;have z:=QlF q t;have step:∀(g:Int×Segment),g.2.Mat=(j:Int)->isT g.2.Anchor->
     Ev (λn=>(F_aj n c g.2 h.First).bind λJ=>(F_aj n c g.2 h.Last).bind λG=>(app a [{segment:=g.1,span:={Lo:=i64.wrap (h.First+J.1.Lo),Hi:=i64.wrap (h.Last+G.1.Hi):Span}:Ud}]).bind λB=>some (Ctl.cont (B,((i+1:Nat):Int)):Ctl (List Ud×Int) (Ctl (List Ud) U_match_prepare)))
      (Ctl.cont (a++[{segment:=g.1,span:=spanV c g.2 h}],((i+1:Nat):Int))):=by
    intro g w u;refine Ea (QkP N he w t u X) (Ea (QkP N he w t u R) (Ea (EA (Qda (by omega))) ((Qa _).eq ?_)));unfold spanV;rw[z]
   have p:∀(y:Ud),timeV c k h=some y->Ev (λn=>F_al n c k x (a,(i:Int))) (Ctl.cont (a++[y],((i+1:Nat):Int)))->EvI (λn=>F_al n c k x) (a,(i:Int)) (match timesV c k (h::r)with|some l=>Ctl.cont (a++l)|none=>Ctl.done (U_match_prepare.c0 170)):=by
    intro y T H;refine Ex H ((Q (a++[y]) (i+1) F (by omega) (by simp;omega)).eq ?_);rw[Qdi,T];cases timesV c k r with
    |none=>rfl
    |some l=>simp
   cases f:(kindAt c h.Mat==1)with
   |true=>
    refine p {segment:= -1,span:=spanV c {Mat:=h.Mat,Epoch:=h.Epoch,Anchor:=0} h} (by unfold timeV;rw[f];rfl) ?_;unfold F_al;simp only[d.lt,Vm,d.ix,XI,d.nx];refine Ea (QeA k h (by omega)) ?_;simp only[q,Qt t,XI];rw[z]at f;refine Ea (v:=Ctl.cont (-1,{Mat:=h.Mat,Epoch:=h.Epoch,Anchor:=0})) (by rw[f,q];exact Qa _) ?_;exact step (-1,{Mat:=h.Mat,Epoch:=h.Epoch,Anchor:=0}) q (by show isT 0;unfold isT;omega)
   |false=>
    by_cases e:segIx k h<0
    .have P:timeV c k h=none:=by unfold timeV;rw[f,Qv e];rfl
     refine Ej ?_;unfold F_al;rw[Qdi,P];simp only[d.lt,Vm,d.ix,XI,d.nx];refine Ea (QeA k h (by omega)) ?_;simp only[q,Qt t,XI];rw[z]at f;refine Ea (v:=Ctl.done (.done (.done (U_match_prepare.c0 170)))) (by rw[f,Qv e];exact Qa _) ?_;exact Qa _
    .obtain⟨jj,s,w,u,g3,g4⟩:=Qd4 e;refine p {segment:=segIx k h,span:=spanV c s h} (by unfold timeV;rw[f,Qu e,w,Int.toNat_natCast,u];rfl) ?_;unfold F_al;simp only[d.lt,Vm,d.ix,XI,d.nx];refine Ea (QeA k h (by omega)) ?_;simp only[q,Qt t,XI];rw[z]at f;refine Ea (v:=Ctl.cont (segIx k h,s)) (by rw[f,Qu e,w];simp only[Vn,Qt u,XI];exact Qa _) ?_;exact step (segIx k h,s) (g3.trans q) (O.anc s (VD u))
 have:=(E x [] 0 rfl (XT _) (XS _)).ev;simpa using this
theorem QdZ{c:Course}{k:Clocks}:∀{x:List Hit} {l:List Ud},timesV c k x=some l->l.length=x.length/\ ∀(i:Nat) (h:Hit),x[i]?=some h->∃t,l[i]?=some t/\timeV c k h=some t
 |[],l,h=>by
  unfold timesV at h;cases h;exact⟨rfl,λi h q=>by simp at q⟩
 |y::x,l,h=>by
  unfold timesV at h;cases e:timeV c k y with
  |none=>rw[e]at h;cases h
  |some t=>
   rw[e]at h;cases e2:timesV c k x with
   |none=>rw[e2]at h;cases h
   |some l2=>
    rw[e2]at h;cases h;obtain⟨p1,p2⟩:=QdZ e2;refine⟨by simp[p1],λi h q=>?_⟩;cases i with
    |zero=>simp at q;subst q;exact⟨t,rfl,e⟩
    |succ i=>exact p2 i h (by simpa using q)
theorem Qj0{c:Course}{k:Clocks}{h:Hit}{t:Ud}(q:timeV c k h=some t):t.segment= -1\/ ∃(j:Nat) (s:Segment),t.segment=(j:Int)/\k.Segments[j]?=some s/\s.Mat=h.Mat:=by
 unfold timeV at q;cases e:(kindAt c h.Mat==1)with
 |true=>rw[e]at q;cases q;exact .inl rfl
 |false=>
  rw[e]at q;by_cases a:segIx k h<0
  .rw[Qv a]at q;cases q
  .rw[Qu a]at q;obtain⟨j,s,f,d,g,_⟩:=Qd4 a;rw[f,Int.toNat_natCast,d]at q;cases q;exact .inr ⟨j,s,rfl,d,g⟩
def hndS(a:List (Int×Ud)×Int)(h:Hand):List (Int×Ud)×Int:=
 bif !(Jh a.1 h.Position)then(QW a.1 h.Position {segment:= -1,span:={Lo:=h.Lo,Hi:=h.Hi}},if a.2<h.Position then h.Position else a.2)else a
def hndV(l:List Hand):List (Int×Ud)×Int:=l.foldl hndS ([],-1)
theorem QkE(l:List Hand)(d:l.length<=1048576):Ev (λn=>iter (F_gn n l) n ([],(-1),0)) (hndV l):=by
 refine Js l hndS ([],-1) (λa i=>(a.1,a.2,(i:Int))) (λa=>a) (by omega) rfl (λi x a ha _=>?_) ?_
 .unfold F_gn hndS;simp only[ha.lt,Vm,ha.ix,XI,ha.nx];cases(!(Jh a.1 x.Position))<;>exact Qa _
 .unfold F_gn;simp only[Qa4,Vn];exact Qa _
theorem Qip:∀(l:List Hand) (a:List (Int×Ud)×Int) (p:Int),YP (l.foldl hndS a).1 p=(match YP a.1 p with|some x=>some x|none=>(l.find? λh=>h.Position==p).map λh=>{segment:= -1,span:={Lo:=h.Lo,Hi:=h.Hi}})
 |[],a,p=>by cases h:YP a.1 p<;>simp[h]
 |x::l,a,p=>by
  rw[XC,Qip l (hndS a x) p];unfold hndS;rw[Qed];cases hx:YP a.1 x.Position with
  |some y=>
   simp only[Option.isSome_some,Xg,Vn];cases hp:YP a.1 p with
   |some z=>rfl
   |none=>
    have hne:(x.Position==p)=false:=by rw[Vv];intro e;rw[e,hp]at hx;cases hx
    rw[List.find?_cons,hne]
  |none=>
   simp only[Option.isSome_none,Xh,Vm,QbR];by_cases e:p=x.Position
   .subst e;rw[Vq rfl,hx,List.find?_cons,beq_self_eq_true];rfl
   .rw[Vp e];cases hp:YP a.1 p with
    |some z=>rfl
    |none=>
     have hne:(x.Position==p)=false:=by rw[Vv];exact λq=>e q.symm
     rw[List.find?_cons,hne]
theorem QgJ(l:List Hand)(p:Int):YP (hndV l).1 p=(l.find? λh=>h.Position==p).map λh=>{segment:= -1,span:={Lo:=h.Lo,Hi:=h.Hi}}:=by
 unfold hndV;rw[Qip];rfl
def legV(c:Course)(a b:Int):Leg:=(c.Legs.find? λl=>(l.From==a)&&(l.To==b)).getD {From:=0,To:=0,Min:=0,Max:=0}
def nextS(c:Course)(s:Span)(a b:Int):Span:={Lo:=i64.wrap (s.Lo+(legV c a b).Min),Hi:=i64.wrap (s.Hi+(legV c a b).Max)}
def sumsF(c:Course):Span->Int->List Int->List Span
 |_,_,[]=>[]
 |s,a,b::r=>nextS c s a b::sumsF c (nextS c s a b) b r
def sumsV(c:Course):List Int->List Span
 |[]=>[]
 |a::r=>{Lo:=0,Hi:=0}::sumsF c {Lo:=0,Hi:=0} a r
theorem Qb6(c:Course)(s:Span)(a b:Int)(r:List Int):sumsF c s a (b::r)=nextS c s a b::sumsF c (nextS c s a b) b r:=rfl
theorem Qfa(c:Course):∀(r:List Int) (s:Span) (a:Int),(sumsF c s a r).length=r.length
 |[],_,_=>rfl
 |b::r,s,a=>by unfold sumsF;simp[Qfa c r]
theorem YC(c:Course)(r:List Int):(sumsV c r).length=r.length:=by
 cases r with
 |nil=>rfl
 |cons a r=>unfold sumsV;simp[Qfa]
theorem Qm1{c:Course}(B:c.Legs.length<=512){k:Clocks}{r:List Int}{s:List Span}{x:List Hit}{t:List Ud}{hi:Int}{m:List (Int×Ud)}{i:Nat}{a b:Int}(q:r[i]?=some a)(w:i<=100000)(hg:hasLeg c a b=true):
  ∃j l,Ev (λn=>F_ct n c.Legs ((i+1:Nat):Int) b c k r s x t hi m c k) ((j:Nat):Int)/\c.Legs[j]?=some l/\l=legV c a b:=by
 have u:∀j y,At c.Legs j y->Ev (λn=>F_gc n c.Legs ((i+1:Nat):Int) b c k r s x t hi m c k (j:Int)) (bif (y.From==a)&&(y.To==b)then .done (.done (j:Int))else .cont ((j+1:Nat):Int)):=by
  intro j y d;unfold F_gc;simp only[d.lt,Vm,d.ix,XI,d.nx];refine Ea (v:=(y.From==a)&&(y.To==b)) ?_ ?_
  .unfold F_fw;rw[show i64.wrap (((i+1:Nat):Int)-1)=(i:Int)by rw[Qj (by omega) (by omega)];omega,Qt q,XI];exact Ea (Ei λ_=>Qa _) (Qa _)
  .cases((y.From==a)&&(y.To==b))<;>exact Qa _
 have h:Ev (λn=>F_gc n c.Legs ((i+1:Nat):Int) b c k r s x t hi m c k (c.Legs.length:Int)) (.done (.cont ())):=by
  unfold F_gc;simp only[Qa4,Vn];exact Qa _
 rcases QjQ c.Legs (λl=>(l.From==a)&&(l.To==b)) (by omega) u h with⟨j,y,e,f,z⟩|⟨e,f⟩
 .refine⟨j,y,?_,e.get,?_⟩
  .unfold F_ct;exact Ea z (Qa _)
  .unfold legV;rw[f];rfl
 .unfold hasLeg at hg;obtain⟨y,g,p⟩:=Xt.1 hg;have:=List.find?_eq_none.1 e y g;exact absurd p this
theorem QlP{c:Course}(M:c.Legs.length<=512){k:Clocks}{r:List Int}{x:List Hit}{t:List Ud}{g:List (Int×Ud)×Int}(Q:r.length<=256)(N:Adj c r):
  Ev (λn=>iter (F_bp n c k x (r,0) t g) n ([],{Lo:=0,Hi:=0:Span},0)) (sumsV c r):=by
 have w:∀(q:List Int) (i:Nat) (a:Int) (s:Span) (o:List Span),r[i]?=some a->r.drop (i+1)=q->o.length=i+1->EvI (λn=>F_bp n c k x (r,0) t g) (o,s,((i+1:Nat):Int)) (o++sumsF c s a q):=by
  intro q
  induction q with
  |nil=>
   intro i a s o h p B;have:=(XK.1 h).1;refine Ej ?_;unfold F_bp;simp only[QS p (by omega),Vn];refine(Qa _).eq ?_;simp[sumsF]
  |cons b q O=>
   intro i a s o h p B;obtain⟨f,u⟩:=Qy (by omega) p;have J:=f.lt';obtain⟨j,l,G,H,P⟩:=Qm1 (c:=c) (k:=k) (s:=o) (x:=x) (t:=t) (hi:=g.2) (m:=g.1) M h (by omega) (N.at h f.get);refine Ex ?_ ((O (i+1) b (nextS c s a b) (o++[nextS c s a b]) f.get u (by simp[B])).eq (by rw[Qb6];simp));unfold F_bp;simp only[f.lt,Vm,f.ix,XI,f.nx];refine Ea (v:=nextS c s a b) ?_ (Ea (EA (Qda (by omega))) (Qa _));refine Qal (Qv (show(0:Int)<((i+1:Nat):Int)by omega)) (Ea G ?_);simp only[Qt H,XI];unfold nextS;rw[<- P];exact Qa _
 cases d:r with
 |nil=>
  subst d;refine(Ej ?_).ev;unfold F_bp;exact Qa _
 |cons a q=>
  have E:r[0]?=some a:=by rw[d];rfl
  have L:r.drop (0+1)=q:=by rw[d];rfl
  have:=w q 0 a {Lo:=0,Hi:=0} [{Lo:=0,Hi:=0}] E L rfl;have e:At r 0 a:=Y7 (by omega) E;rw[<- d];refine(Ex (s':=([{Lo:=0,Hi:=0}],{Lo:=0,Hi:=0},((0+1:Nat):Int))) ?_ (this.eq ?_)).ev
  .unfold F_bp;have y:=e.lt;have F:=e.ix;have z:=e.nx;simp only[Int.natCast_zero,Int.ofNat_zero]at y F z;simp only[y,Vm,F,XI,z];refine Ea (v:={Lo:=0,Hi:=0}) (Yp (Qu (show¬(0:Int)<0 by omega)) (Qa _)) (Ea (EA (Qda (by simp))) (Qa _))
  .rw[d];rfl
def handW(h:Hand):Bool:=decide (h.Hi<h.Lo)||(!timeB h.Lo||(!timeB h.Hi||decide (h.Position<0)))
theorem Qg4(x:Int):Ev (λn=>F_ba n x) (timeB x):=by
 unfold F_ba timeB inR;exact Ea (Ei λ_=>Qa _) (Qa _)
theorem QkF(h:Hand):Ev (λn=>F_bk n h) (handW h):=by
 unfold F_bk handW;refine Ea (Ql λ_=>Ea (Qg4 _) (Ql λ_=>Ea (Qg4 _) (Ql λ_=>Qa _))) (Qa _)
def argW(c:Course)(s:Starter)(l:List Hand):Bool:=decide (s.Distance<0)||(decide ((c.Distances.length:Int)<=s.Distance)||(decide (s.Wave<0)||(decide ((c.Waves.length:Int)<=s.Wave)||l.any handW)))
def prepV(c:Course)(k:Clocks)(s:Starter)(e:Int)(x:List Hit)(l:List Hand):U_match_prepare:=
 bif !clkB k then .c0 160 else bif argW c s l then .c0 1 else bif (routeO c s.Distance e).2 != 0 then .c0 (routeO c s.Distance e).2 else bif !checkH c x then .c0 170 else
  match timesV c k x with
  |none=>.c0 170
  |some t=>.c1 ((routeO c s.Distance e).1,sumsV c (routeO c s.Distance e).1,t,(hndV l).1,(hndV l).2)
theorem QhL{c:Course}(g:Good c)(i:courseE c=0)(he:Ev (λn=>F_c n c) 0){k:Clocks}(p:ClkW k)(s:Starter)(e:Int)(x:List Hit)(B:x.length<=1000)(l:List Hand)(J:l.length<=1048576):
  Ev (λn=>F_w n c k s e x l) (prepV c k s e x l):=by
 unfold F_w prepV;refine Ea he (Qs (Ea (QkL k p) ?_));cases F:clkB k with
 |false=>exact Qa _
 |true=>
 refine Qs (Ea (v:=argW c s l) ?_ ?_)
 .unfold argW;refine Ql λ_=>Ql λ_=>Ql λ_=>Ql λ_=>Ea ?_ (Qa _);exact Ev.contains l handW (λn y=>F_bk n y) (by omega) λy _=>QkF y
 cases argW c s l with
 |true=>exact Qa _
 |false=>
 refine Qs (Ea (Qg8 g he s.Distance e) ?_);cases G:((routeO c s.Distance e).2 != 0)with
 |true=>exact Qa _
 |false=>
 have a:(routeO c s.Distance e).2=0:=by simpa[bne]using G
 refine Qs (Ea (Qjf c x (by omega) he) ?_);cases u:checkH c x with
 |false=>exact Qa _
 |true=>
 refine Qs (Ea (QkB (Qhd i) he (Qhr p F) x (Qiq u) B) ?_);cases timesV c k x with
 |none=>exact Qa _
 |some t=>
 obtain⟨j,d,q,M,L,z,E,H,m⟩:=QaV g a;have r:=VD z;have h:(routeO c s.Distance e).1.length<=256:=by
  rw[m];unfold routeV;simp only[X2,Xx,List.length_drop,List.length_replicate];omega
 have f:Adj c (routeO c s.Distance e).1:=by rw[m];exact Qfg g i r q E
 refine Ea (QkE l (by omega)) ?_;have w:routeO c s.Distance e=((routeO c s.Distance e).1,0):=Prod.ext rfl a;rw[w];exact Ea (QlP g.legs h f) (Qa _)
set_option maxRecDepth 10000
structure Task where
 c:Course
 k:Clocks
 r:List Int
 s:List Span
 H:List Hit
 T:List Ud
 m:List (Int×Ud)
 hi:Int
abbrev zX:Ud:={segment:=0,span:={Lo:=0,Hi:=0}}
def Task.seg(t:Task)(x:Ud):Prop:=∃j:Nat,x.segment+1=(j:Int)/\j<t.k.Segments.length+1
structure TaskOk (t:Task):Prop where
 ty:Ev (λn=>F_c n t.c) 0
 crs:CrsOk t.c
 clk:ClkOk t.k
 sl:t.s.length=t.r.length
 rl:t.r.length<=256
 tl:t.T.length=t.H.length
 hl:t.H.length<=1000
 hit:∀(i:Nat) (h:Hit),t.H[i]?=some h->HitOk t.c h
 sg:∀x∈t.T,t.seg x
 hs:∀p x,YP t.m p=some x->t.seg x
 mi:0<=t.c.Faults.Misses
def knownV(t:Task)(p h:Int):Ud×Bool:=bif Jh t.m p||decide (h<0)then(QA t.m p zX,Jh t.m p)else((t.T[h.toNat]?).getD zX,true)
def hitI(t:Task)(h:Int):Prop:=h<0\/h.toNat<t.H.length
theorem Qbi{α:Type}{l:List α}{h:Int}(d:0<=h)(a:h.toNat<l.length):∃x,l[h.toNat]?=some x/\idx l h=some x:=by
 refine⟨l[h.toNat]'(a),XJ a,?_⟩;have:=Qt (l:=l) (i:=h.toNat) (XJ a)
 rwa [Int.toNat_of_nonneg d]at this
theorem Qg5{t:Task}(ok:TaskOk t)(p h:Int)(e:hitI t h):Ev (λn=>F_ac n p h t.c t.k t.r t.s t.H t.T t.hi t.m t.c t.k) (knownV t p h):=by
 unfold F_ac knownV;refine Ea (Qa _) (Ea (Ql λ_=>Qa _) ?_);refine QaI (λ_=>Qa _) λq=>?_;rw[XW,decide_eq_false_iff_not]at q;obtain⟨x,d,a⟩:=Qbi (l:=t.T) (h:=h) (by omega) (by have:=ok.tl;rcases e with z|z<;>omega);rw[a,d];exact Qa _
theorem QbS{t:Task}(ok:TaskOk t){p h:Int}(f:hitI t h)(q:(knownV t p h).2=true):t.seg (knownV t p h).1:=by
 unfold knownV at q⊢;cases e:(Jh t.m p||decide (h<0))with
 |true=>
  rw[e]at q;simp only[Vm]at q⊢;rw[Qed]at q;obtain⟨x,d⟩:=Option.isSome_iff_exists.1 q;unfold QA;rw[d];exact ok.hs p x d
 |false=>
  simp only[Vn];rw[XW,decide_eq_false_iff_not]at e;obtain⟨x,a,g⟩:=Qbi (l:=t.T) (h:=h) (by omega) (by have:=ok.tl;rcases f with z|z<;>omega);rw[a];exact ok.sg x (VD a)
def meetV(d w:Span):Bool:=decide ((if d.Lo<w.Lo then w.Lo else d.Lo)<=(if w.Hi<d.Hi then w.Hi else d.Hi))
def trueV(c:Course)(k:Clocks)(g:Int)(a b:Int):Span:=
 bif decide (g<0)then {Lo:=a,Hi:=i64.wrap (b+c.Faults.Residual)}else match k.Segments[g.toNat]? with
 |none=>{Lo:=0,Hi:=0}
 |some s=>bif !matB c s.Mat then {Lo:=0,Hi:=0}else
  {Lo:=i64.wrap (i64.wrap (a+(devV c (kindAt c s.Mat) s a).Lo)-farG k (g.toNat+1) 0),Hi:=i64.wrap (i64.wrap (b+(devV c (kindAt c s.Mat) s b).Hi)+farG k 0 (g.toNat+1))}
theorem QlO{t:Task}(ok:TaskOk t){x:Ud}(V:t.seg x){a b:Int}(L:isT a)(H:isT b)(N:a<=b):∃e,Ev (λn=>F_be n t.c t.k x.segment {Lo:=a,Hi:=b}) (trueV t.c t.k x.segment a b,e):=by
 obtain⟨j,j1,Y⟩:=V;have X:=ok.clk.dims.segs;have start:∀{v:Span×Int},Ev (λn=>(bif decide (x.segment<0)then some ({Lo:=a,Hi:=i64.wrap (b+t.c.Faults.Residual):Span},0)else(idx t.k.Segments x.segment).bind λf=>(F_ap n t.c f.Mat).bind λF=>(bif (!F)then some ({Lo:=0,Hi:=0:Span},1)else(F_y n t.c f a).bind λr=>(idx t.k.Far (i64.wrap (x.segment+1))).bind λq=>(idx q 0).bind λE=>(F_y n t.c f b).bind λu=>(idx t.k.Far 0).bind λB=>(idx B (i64.wrap (x.segment+1))).bind λz=>some ({Lo:=i64.wrap ((i64.wrap (a+r.Lo))-E),Hi:=i64.wrap ((i64.wrap (b+u.Hi))+z):Span},0)):Option (Span×Int))) v->Ev (λn=>F_be n t.c t.k x.segment {Lo:=a,Hi:=b}) v:=by
  intro v T;unfold F_be;refine Ea ok.ty (Qs (Ea ok.clk.ev (Qs (Ea (v:=false) ?_ (Qs T)))));simp only[Qu (show¬x.segment< -1 by omega),Qu (show¬(t.k.Segments.length:Int)<=x.segment by omega),Vn];refine Ea (Qa3 a) ?_;rw[timeI.2 L];refine Qs (Ea (Qa3 b) ?_);rw[timeI.2 H];refine Qs ?_;rw[Qu (by show¬b<a;omega)];exact Qa _
 unfold trueV;by_cases d:x.segment<0
 .rw[Qv d];exact⟨_,start (Qal (Qv d) (Qa _))⟩
 rw[Qu d];simp only[Vn];obtain⟨s,M,G⟩:=Qbi (l:=t.k.Segments) (h:=x.segment) (by omega) (by omega);rw[M];simp only;cases g:matB t.c s.Mat with
 |false=>exact⟨_,start (Yp (Qu d) (QO G (Ea ((QeG t.c s.Mat).eq g) (Qal rfl (Qa _)))))⟩
 |true=>
  obtain⟨i,m,y,p⟩:=QmS g;have Q:kindAt t.c s.Mat=m.Kind:=by unfold kindAt;rw[y,Int.toNat_natCast,p];rfl
  have J:=ok.clk.anc s (VD M);obtain⟨R,O⟩:=ok.clk.dims.get (i:=x.segment.toNat+1) (j:=0) (by omega) (by omega);obtain⟨W,P⟩:=ok.clk.dims.get (i:=0) (j:=x.segment.toNat+1) (by omega) (by omega);have w:i64.wrap (x.segment+1)=((x.segment.toNat+1:Nat):Int):=by rw[Qj (by omega) (by omega)];omega
  refine⟨0,start (Yp (Qu d) (QO G (Ea ((QeG t.c s.Mat).eq g) (Yp rfl (Ea (QhQ ok.crs p y J L) (QO (v:=t.k.Far[x.segment.toNat+1]?.getD []) (by rw[w];exact Qt R) (QO (v:=farG t.k (x.segment.toNat+1) 0) (Qt (i:=0) O) (Ea (QhQ ok.crs p y J H) (QO (v:=t.k.Far[0]?.getD []) (Qt (i:=0) W) (QO (v:=farG t.k 0 (x.segment.toNat+1)) (by rw[w];exact Qt P) ?_))))))))))⟩;rw[Q];exact Qa _
def agreeV(t:Task)(h p:Int):Bool:=bif !(Jh t.m p)then true else match t.H[h.toNat]?,t.T[h.toNat]? with
 |some y,some x=>meetV (trueV t.c t.k x.segment y.First y.Last) (QA t.m p zX).span
 |_,_=>true
theorem QkM{t:Task}(ok:TaskOk t){h p:Int}(d:0<=h)(g:h.toNat<t.H.length):Ev (λn=>F_do n h p t.c t.k t.c t.k t.r t.s t.H t.T t.hi t.m) (agreeV t h p):=by
 unfold F_do agreeV;refine Ea (Qa _) ?_;cases Jh t.m p with
 |false=>exact Qa _
 |true=>
  obtain⟨y,y1,y2⟩:=Qbi (l:=t.H) d g;obtain⟨x,f,i⟩:=Qbi (l:=t.T) d (by rw[ok.tl];exact g);have a:=ok.hit _ _ y1;rw[y2,i,y1,f];refine Qs ?_;simp only[XI];obtain⟨e,j⟩:=QlO ok (ok.sg x (VD f)) a.fi a.la a.le;refine Ea j ?_;unfold F_ax;exact Qa _
def needV(t:Task)(i j:Int):Span:=
 let a:=(t.s[i.toNat]?).getD {Lo:=0,Hi:=0}
 let b:=(t.s[j.toNat]?).getD {Lo:=0,Hi:=0}
 {Lo:=if i64.wrap (b.Lo-a.Lo)<2199023255552 then i64.wrap (b.Lo-a.Lo)else 2199023255552,Hi:=if i64.wrap (b.Hi-a.Hi)<2199023255552 then i64.wrap (b.Hi-a.Hi)else 2199023255552}
theorem Qiy{t:Task}(ok:TaskOk t){i j:Int}(h:0<=i)(f:i.toNat<t.r.length)(u:0<=j)(e:j.toNat<t.r.length):Ev (λn=>F_ab n i j t.c t.k t.r t.s t.H t.T t.hi t.m t.c t.k) (needV t i j):=by
 obtain⟨a,p,q⟩:=Qbi (l:=t.s) h (by rw[ok.sl];exact f);obtain⟨b,d,g⟩:=Qbi (l:=t.s) u (by rw[ok.sl];exact e);unfold F_ab needV;rw[q,g,p,d];exact Qa _
def distV(t:Task)(a b:Ud):Span:=
 bif (i64.wrap (a.segment+1)) != (i64.wrap (b.segment+1))then
  {Lo:=i64.wrap (i64.wrap (b.span.Lo-a.span.Hi)-farG t.k (b.segment+1).toNat (a.segment+1).toNat),Hi:=i64.wrap (i64.wrap (b.span.Hi-a.span.Lo)+farG t.k (a.segment+1).toNat (b.segment+1).toNat)}
 else {Lo:=i64.wrap (b.span.Lo-a.span.Hi),Hi:=i64.wrap (b.span.Hi-a.span.Lo)}
def followsV(t:Task)(a:Ud)(i:Int)(b:Ud)(j:Int):Bool:=meetV (distV t a b) (needV t i j)
theorem QhP{t:Task}(ok:TaskOk t){a b:Ud}{i j:Int}(l:t.seg a)(z:t.seg b)(w:0<=i)(u:i.toNat<t.r.length)(e:0<=j)(q:j.toNat<t.r.length):
  Ev (λn=>F_at n a i b j t.c t.k t.r t.s t.H t.T t.hi t.m t.c t.k) (followsV t a i b j):=by
 obtain⟨x,g,d⟩:=l;obtain⟨y,y1,y2⟩:=z;have E:=ok.clk.dims.segs;unfold F_at followsV;refine Ea (v:=distV t a b) ?_ (Ea (Qiy ok w u e q) ?_)
 .unfold distV;rw[g,y1,Qj (n:=(x:Int)) (by omega) (by omega),Qj (n:=(y:Int)) (by omega) (by omega)];refine QaI (λ_=>?_) λ_=>Qa _;obtain⟨f,p⟩:=ok.clk.dims.get (i:=y) (j:=x) y2 d;obtain⟨B,h⟩:=ok.clk.dims.get (i:=x) (j:=y) d y2;rw[Qt f,XI,Qt p,XI,Qt B,XI,Qt h,XI,Int.toNat_natCast,Int.toNat_natCast];exact Qa _
 .unfold F_ax;exact Qa _
structure StOk (t:Task) (s:Uf):Prop where
 la:s.last<(t.r.length:Int)
 wh:0<=s.last->t.seg s.when
 r0:0<=s.row
 r1:s.row<=1000
def stopV(t:Task)(s:Uf)(p h:Int):Bool:=(decide (0<=h)&& !agreeV t h p)||(decide (0<=s.last)&& !followsV t s.when s.last (knownV t p h).1 p)
def stepV(t:Task)(s:Uf)(p h:Int):Uf×Bool:=
 bif !(knownV t p h).2 then({s with row:=s.row+1},decide (s.row+1<=t.c.Faults.Misses))else bif stopV t s p h then(s,false)else({last:=p,when:=(knownV t p h).1,row:=0},true)
theorem QlQ{t:Task}(ok:TaskOk t){s:Uf}(e:StOk t s){p h:Int}(i:0<=p)(j:p.toNat<t.r.length)(f:hitI t h):
  Ev (λn=>F_ai n s p h t.c t.k t.r t.s t.H t.T t.hi t.m t.c t.k) (stepV t s p h):=by
 have r0:=e.r0;have r1:=e.r1;unfold F_ai stepV;refine Ea (Qg5 ok p h f) ?_;rw[Qj (n:=s.row+1) (by omega) (by omega)];cases l:(knownV t p h).2 with
 |false=>exact Qa _
 |true=>
  have w:=QbS ok f l;refine Qs (Ea (v:=stopV t s p h) ?_ ?_)
  .have d:Ev (λn=>(bif decide (0<=s.last)then(F_at n s.when s.last (knownV t p h).1 p t.c t.k t.r t.s t.H t.T t.hi t.m t.c t.k).bind λg=>some (!g)else some false:Option Bool)) (decide (0<=s.last)&& !followsV t s.when s.last (knownV t p h).1 p):=by
    refine Ei λq=>?_;have q:=Vs q;exact Ea (QhP ok (e.wh q) w q (by have:=e.la;omega) i j) (Qa _)
   unfold stopV;by_cases a:0<=h
   .rw[Qv a,Vw];have u:h.toNat<t.H.length:=by rcases f with z|z<;>omega
    refine Ea (QkM ok a u) ?_;exact Ql λ_=>d
   .rw[Qu a,Bool.false_and,Bool.false_or];exact d
  .cases stopV t s p h<;>exact Qa _
theorem Qlv{t:Task}(ok:TaskOk t){s:Uf}(a:StOk t s){p h:Int}(e:p<(t.r.length:Int))(f:hitI t h)(g:s.row<1000):StOk t (stepV t s p h).1:=by
 have r0:=a.r0;unfold stepV;cases d:(knownV t p h).2 with
 |false=>exact⟨a.la,a.wh,by show 0<=s.row+1;omega,by show s.row+1<=1000;omega⟩
 |true=>
  simp only[Xg,Vn];cases stopV t s p h with
  |true=>exact a
  |false=>exact⟨e,λ_=>QbS ok f d,by show(0:Int)<=0;omega,by show(0:Int)<=1000;omega⟩
def badV(t:Task)(W:Way)(u:List (Int×Bool))(i:Nat)(h:Int):Bool:=
 decide (h<0)||(decide ((t.H.length:Int)<=h)||((((t.H[h.toNat]?).map (·.Mat)).getD 0 != (t.r[i]?).getD 0)||(QA u h false||decide (W.Last<(i:Int)))))
def admL(t:Task)(W:Way):List Int->Nat->List (Int×Bool)->Uf->Bool
 |[],_,_,_=>true
 |h::r,i,u,s=>
  bif (h != -1)&&badV t W u i h then false else
  bif decide (W.Last<(i:Int))then admL t W r (i+1) (bif h != -1 then QW u h true else u) s else
  bif !(stepV t s (i:Int) h).2 then false else admL t W r (i+1) (bif h != -1 then QW u h true else u) (stepV t s (i:Int) h).1
theorem Qdb(t:Task)(W:Way)(h:Int)(r:List Int)(i:Nat)(u:List (Int×Bool))(s:Uf):admL t W (h::r) i u s=
  bif (h != -1)&&badV t W u i h then false else
  bif decide (W.Last<(i:Int))then admL t W r (i+1) (bif h != -1 then QW u h true else u) s else
  bif !(stepV t s (i:Int) h).2 then false else admL t W r (i+1) (bif h != -1 then QW u h true else u) (stepV t s (i:Int) h).1:=rfl
def inV(l:List Int)(x:Int):Bool:=decide (0<=firstI (λy=>x==y) l 0)
def strL(W:Way):List Hit->Nat->Int->Int
 |[],_,a=>a
 |_::r,i,a=>strL W r (i+1) (bif !inV W.Hits (i:Int)then i64.wrap (a+1)else a)
theorem Qjc(W:Way)(H:List Hit)(p:W.Hits.length<=1048576)(q:H.length<=1048576):Ev (λn=>F_ay n H W) (strL W H 0 0):=by
 have e:∀(r:List Hit) (i:Nat) (a:Int),H.drop i=r->i<=H.length->EvI (λn=>F_in n H W) (a,(i:Int)) (strL W r i a):=by
  intro r
  induction r with
  |nil=>
   intro i a h k;refine Ej ?_;unfold F_in;simp only[QS h k,Vn];exact Qa _
  |cons y r m=>
   intro i a h k;obtain⟨d,f⟩:=Qy (by omega) h;have l:=d.lt';refine Ex ?_ (m (i+1) _ f (by omega));unfold F_in;simp only[d.lt,Vm,d.nx];refine Ea (v:=inV W.Hits (i:Int)) ?_ ?_
   .unfold F_en inV;refine Ea (v:=firstI (λy=>(i:Int)==y) W.Hits 0) ?_ (Qa _);unfold F_ev;refine Ev.first W.Hits _ (by omega) (λj x g=>?_) ?_
    .unfold F_iv;simp only[g.lt,Vm,g.ix,XI,g.nx];cases((i:Int)==x)<;>exact Qa _
    .unfold F_iv;simp only[Qa4,Vn];exact Qa _
   .cases inV W.Hits (i:Int)<;>exact Qa _
 unfold F_ay;exact Ea (e H 0 0 rfl (XT _)).ev (Qa _)
def admB(t:Task)(W:Way):Bool:=((W.Hits.length:Int) != (t.r.length:Int))||(decide (W.Last< -1)||(decide ((t.r.length:Int)<=W.Last)||(decide (W.Last<t.hi)||decide (t.c.Faults.Strays<strL W t.H 0 0))))
def s0V:Uf:={z_match_state with last:=(-1)}
def admV(t:Task)(W:Way):Bool:=bif admB t W then false else admL t W W.Hits 0 [] s0V
theorem s0_ok{t:Task}:StOk t s0V:=⟨by show(-1:Int)<_;omega,λh=>by have:(0:Int)<= -1:=h;omega,by show(0:Int)<=0;omega,by show(0:Int)<=1000;omega⟩
theorem Qeo{t:Task}{W:Way}{u:List (Int×Bool)}{i:Nat}{h:Int}(q:((h != -1)&&badV t W u i h)=false):hitI t h/\(h= -1\/(0<=h/\badV t W u i h=false)):=by
 rw[Bool.and_eq_false_iff]at q;rcases q with q|q
 .have:h= -1:=by simpa[bne]using q
  exact⟨.inl (by omega),.inl this⟩
 .have a:=q;unfold badV at a;simp only[XW,decide_eq_false_iff_not]at a;exact⟨.inr (by omega),.inr ⟨by omega,q⟩⟩
theorem QkN{t:Task}(ok:TaskOk t)(W:Way)(Y:W.Hits.length<=1048576):Ev (λn=>F_aq n W t.c t.k t.r t.s t.H t.T t.hi t.m t.c t.k) (admV t W):=by
 unfold F_aq admV;refine Ea (v:=admB t W) ?_ ?_
 .unfold admB;exact Ql λ_=>Ql λ_=>Ql λ_=>Ql λ_=>Ea (Qjc W t.H Y (by have:=ok.hl;omega)) (Qa _)
 cases L:admB t W with
 |true=>exact Qa _
 |false=>
 unfold admB at L;simp only[XW,decide_eq_false_iff_not]at L;obtain⟨f,b1,b2,b3,_⟩:=L;have f:W.Hits.length=t.r.length:=by have:=f;simp[bne]at this;omega
 have rl:=ok.rl;have J:∀(r:List Int) (i:Nat) (u:List (Int×Bool)) (s:Uf),W.Hits.drop i=r->i<=W.Hits.length->StOk t s->s.row<=(i:Int)->EvI (λn=>F_bo n W t.c t.k t.r t.s t.H t.T t.hi t.m t.c t.k) (u,s,(i:Int)) (bif admL t W r i u s then Ctl.cont ()else Ctl.done false):=by
  intro r
  induction r with
  |nil=>
   intro i u s M hi B _;refine Ej ?_;unfold F_bo admL;simp only[QS M hi,Vn];exact Qa _
  |cons h r N=>
   intro i u s M hi B V;obtain⟨d,q⟩:=Qy (by omega) M;have X:=d.lt';rw[Qdb];have x:t.r[i]?=some (t.r[i]'(by omega)):=XJ (by omega);have a:Ev (λn=>((bif (h != (-1))then((bif decide (h<0)then some true else(bif decide ((t.H.length:Int)<=h)then some true else(idx t.H h).bind λj=>(idx t.r (i:Int)).bind λw=>(bif (j.Mat != w)then some true else(some (QA u h false)).bind λE=>(bif E then some true else some (decide (W.Last<(i:Int))))))):Option Bool).bind λz=>(bif z then some (.done (.done (.done (.done false))))else(some (QW u h true)).bind λF=>some (.cont F))else some (.cont u)):Option (Ctl (List (Int×Bool)) (Ctl ((List (Int×Bool))×Uf) (Ctl ((List (Int×Bool))×Uf×Int) (Ctl Unit Bool))))))
     (bif (h != -1)&&badV t W u i h then .done (.done (.done (.done false)))else .cont (bif h != -1 then QW u h true else u)):=by
    cases hn:(h != -1)with
    |false=>exact Qa _
    |true=>
     refine QeZ (Ea (v:=badV t W u i h) ?_ ?_)
     .unfold badV;refine Ql λP=>Ql λQ=>?_;have P:=Vt P;have Q:=Vt Q;obtain⟨y,y1,y2⟩:=Qbi (l:=t.H) (h:=h) (by omega) (by omega);rw[y2,y1,XI,Qt x,XI,x];exact Ql λ_=>Ea (Qa _) (Ql λ_=>Qa _)
     .cases badV t W u i h<;>exact Qa _
   cases e:((h != -1)&&badV t W u i h)with
   |true=>
    rw[e]at a;refine Ej ?_;unfold F_bo;simp only[d.lt,Vm,d.ix,XI,d.nx];exact Ea (Ea a (Qa _)) (Qa _)
   |false=>
    rw[e]at a;obtain⟨O,_⟩:=Qeo e;simp only[Vn]at a⊢;by_cases G:W.Last<(i:Int)
    .rw[Qv G,Vm];refine Ex ?_ (N (i+1) _ s q (by omega) B (by omega));unfold F_bo;simp only[d.lt,Vm,d.ix,XI,d.nx];exact Ea (v:=Ctl.cont (_,_)) (Ea a (Qal (Qv G) (Qa _))) (Qa _)
    .rw[Qu G,Vn];have R:=QlQ ok B (p:=(i:Int)) (h:=h) (by omega) (by omega) O;cases g:(stepV t s (i:Int) h).2 with
     |false=>
      refine Ej ?_;unfold F_bo;simp only[d.lt,Vm,d.ix,XI,d.nx];refine Ea (v:=Ctl.done (.done (.done false))) (Ea a (Yp (Qu G) (Ea R (v:=(stepV t s (i:Int) h)) ?_))) (Qa _);rw[g];exact Qa _
     |true=>
      simp only[Xg,Vn];refine Ex ?_ (N (i+1) _ _ q (by omega) (Qlv ok B (by omega) O (by omega)) ?_)
      .unfold F_bo;simp only[d.lt,Vm,d.ix,XI,d.nx];refine Ea (v:=Ctl.cont (_,(stepV t s (i:Int) h).1)) (Ea a (Yp (Qu G) (Ea R (v:=(stepV t s (i:Int) h)) ?_))) (Qa _);rw[g];exact Qa _
      .have r0:=B.r0;unfold stepV;cases(knownV t (i:Int) h).2 with
       |false=>show s.row+1<=_;omega
       |true=>
        simp only[Xg,Vn];cases stopV t s (i:Int) h with
        |true=>show s.row<=_;omega
        |false=>show(0:Int)<=_;omega
 refine Qs ?_;unfold F_bq;simp only[XI];refine Ea (J W.Hits 0 [] s0V rfl (XT _) s0_ok (by show(0:Int)<=_;omega)).ev ?_;cases admL t W W.Hits 0 [] s0V<;>exact Qa _
set_option maxRecDepth 10000
theorem QlT(Y:Int):∀(m:Nat) (l:List Part),szPs l<=m->partsS Y l=true->l.length<=1048576->(∀x∈l,Part.wf x)->(flPs l).length<=256->Ev (λn=>F_s n l) (flPs l):=by
 intro m
 induction m using Nat.strongRecOn with
 |_ m P=>
 intro l hm H V hw N;rw[YZ,Xs]at H;refine Yx ?_;show Ev (λn=>B_s (F_s n) n l) _;unfold B_s;have inner:∀(p:Part) (i:Nat) (e:At l i p) (E w:List Int),0<=p.Laps->p.Laps<=64->w.length<=256->∀(k j:Nat) (o:List Int),j+k=p.Laps.toNat->o.length+(List.replicate k w).flatten.length<=256->
   EvI (λn=>F_el n l (E,(i:Int)) w) (o,(j:Int)) (o++(List.replicate k w).flatten):=by
  intro p i e E w F R L k
  induction k with
  |zero=>
   intro j o O _;refine Ej ?_;unfold F_el;simp only[e.ix,XI,Qu (show¬((j:Int)<p.Laps)by omega),Vn,List.replicate_zero,List.flatten_nil,Ve];exact Qa _
  |succ k z=>
   intro j o O f;by_cases s:w.length=0
   .have s:w=[]:=VF.1 s;subst s;refine Ej ?_;unfold F_el;simp only[e.ix,XI,Qv (show(j:Int)<p.Laps by omega),Vm,Qu (show¬((0:Int)<(([]:List Int).length:Int))by simp),Vn];exact(Qa _).eq (by simp)
   .rw[Xl,Vj]at f⊢;simp only[X2]at f;refine(Ex ?_ (z (j+1) (o++w) (by omega) (by rw[X2];omega))).eq (by rw[Vg]);unfold F_el;simp only[e.ix,XI,Qv (show(j:Int)<p.Laps by omega),Vm,Qv (show(0:Int)<(w.length:Int)by omega),Qv (show(o.length:Int)<=300 by omega)];refine QO (QaG o w (by omega)) ?_;rw[QV (by omega)];exact Qa _
 have loop:∀(r:List Part) (i:Nat) (o:List Int),l.drop i=r->i<=l.length->o.length+(flPs r).length<=256->EvI (λn=>F_hp n l (F_s n)) (o,(i:Int)) (o++flPs r):=by
  intro r
  induction r with
  |nil=>
   intro i o t B _;refine Ej ?_;unfold F_hp;simp only[QS t B,Vn,flPs,Ve];exact Qa _
  |cons p r y=>
   intro i o t B f;obtain⟨e,q⟩:=Qy (by omega) t;have X:=e.lt';rw[Qa0,X2]at f;have M:=YO e.mem;rw[YB]at M;obtain⟨W,T⟩:=Q9 (hw p e.mem);have Q:=H p e.mem;refine(Ex ?_ (y (i+1) (o++flP p) q (by omega) (by rw[X2];omega))).eq (by rw[Qa0,Vg]);unfold F_hp;simp only[e.lt,Vm,e.ix,XI,e.nx];rcases QfX Q with F|⟨a,b,d⟩
   .have g:(p.Laps==0)=true:=by simp[F]
    have u:flP p=[p.Mat]:=by rw[Qc8,g];rfl
    rw[u]at f⊢;refine Ea (v:=o++[p.Mat]) ?_ (Qa _);rw[g];exact QeZ (Ea (EA (Qda (by omega))) (Qa _))
   .have g:(p.Laps==0)=false:=beq_false_of_ne (by omega);have u:flP p=(List.replicate p.Laps.toNat (flPs p.Parts)).flatten:=by rw[Qc8,g];rfl
    rw[u]at f⊢;have J:(flPs p.Parts).length<=256:=by
     obtain⟨G,h⟩:∃G,p.Laps.toNat=G+1:=⟨p.Laps.toNat-1,by omega⟩;rw[h,Xl,Vj,X2]at f;omega
    refine Ea (v:=o++(List.replicate p.Laps.toNat (flPs p.Parts)).flatten) ?_ (Qa _);rw[g];exact Qs (Ea (P (szPs p.Parts) (by omega) p.Parts (XS _) d W T J) (Ea ((inner p i e o (flPs p.Parts) (by omega) b J p.Laps.toNat 0 o (by omega) (by omega)).ev) (Qa _)))
 exact Ea ((loop l 0 [] (by simp) (XT _) (by simpa using N)).ev.eq (Vf _)) (Qa _)
theorem Qfo(l:List Int)(x:Int){j:Nat}(f:0<j)(d:l[j]?=some x):∀m,j<=m->(∀p,j<p->p<=m->l[p]? ≠some x)->lastB l x m=j
 |0,h,_=>by omega
 |m+1,h,h2=>by
  unfold lastB;rcases Nat.eq_or_lt_of_le h with e|q
  .rw[<- e,d];simp
  .have:=h2 (m+1) q (XS _);have e:(l[m+1]? ==some x)=false:=by rw[Vv];exact this
   rw[e,Vn];exact Qfo l x f d m (by omega) λp a b=>h2 p a (by omega)
theorem QlV(l:List Int)(x:Int)(N:l.length<=1048576):∃b:Int,Ev (λn=>F_cw n l x) b/\((b= -1/\ ∀p:Nat,l[p]? ≠some x)\/ ∃q:Nat,q<l.length/\b=(q:Int)/\l[q]?=some x/\ ∀p:Nat,q<p->l[p]? ≠some x):=by
 have t:∀(r:List Int) (i:Nat) (b:Int),l.drop i=r->i<=l.length->((b= -1/\ ∀p:Nat,p<i->l[p]? ≠some x)\/ ∃q:Nat,q<i/\b=(q:Int)/\l[q]?=some x/\ ∀p:Nat,q<p->p<i->l[p]? ≠some x)->
   ∃g:Int,EvI (λn=>F_ht n l x) (b,(i:Int)) g/\((g= -1/\ ∀p:Nat,l[p]? ≠some x)\/ ∃q:Nat,q<l.length/\g=(q:Int)/\l[q]?=some x/\ ∀p:Nat,q<p->l[p]? ≠some x):=by
  intro r
  induction r with
  |nil=>
   intro i b m H u;have L:l.length<=i:=Xq.1 m;have h:∀p:Nat,i<=p->l[p]? ≠some x:=λp F=>by rw[XN (by omega)];exact nofun
   refine⟨b,Ej ?_,?_⟩
   .unfold F_ht;simp only[QS m H,Vn];exact Qa _
   .rcases u with⟨k,d⟩|⟨q,k,d,B,s⟩
    .exact .inl ⟨k,λp=>(Vy p i).elim (d p) (h p)⟩
    .exact .inr ⟨q,by omega,d,B,λp a=>(Vy p i).elim (s p a) (h p)⟩
  |cons y r J=>
   intro i b m H u;obtain⟨f,w⟩:=Qy (by omega) m;have M:=f.lt';obtain⟨g,E,G⟩:=J (i+1) (bif y==x then(i:Int)else b) w (by omega) (by
    cases e:(y==x)with
    |true=>
     rw[Vu]at e;subst e;exact .inr ⟨i,by omega,rfl,f.get,λp a c=>by omega⟩
    |false=>
     rw[Vv]at e;have j:l[i]? ≠some x:=by rw[f.get];intro q;cases q;exact e rfl
     rcases u with⟨k,d⟩|⟨q,k,d,B,s⟩
     .exact .inl ⟨k,λp F=>(Vy p i).elim (d p) λz=>(show i=p by omega)▸j⟩
     .exact .inr ⟨q,by omega,d,B,λp a F=>(Vy p i).elim (s p a) λz=>(show i=p by omega)▸j⟩)
   refine⟨g,Ex ?_ E,G⟩;unfold F_ht;simp only[f.lt,Vm,f.ix,XI,f.nx];cases(y==x)<;>exact Qa _
 obtain⟨b,E,G⟩:=t l 0 (-1) rfl (XT _) (.inl ⟨rfl,λp F=>by omega⟩);refine⟨b,?_,G⟩;unfold F_cw;exact Ea E.ev (Qa _)
theorem Qky{c:Course}(g:Good c)(w:courseE c=0){d:Distance}(t:d∈c.Distances)(hE:0<=d.Extra):∃i,0<i/\(flPs d.Route)[i]?=some d.Extra:=by
 have h:=(Y2 w).2.2 d t;unfold routeS routeR at h;rw[g.exp t]at h;simp only[XV,Vo]at h;obtain⟨⟨y,u⟩,j,l,_⟩:=h;rw[Qv hE,Vm]at l;simp only[XV,Bool.not_eq_true',Vv,ne_eq]at l;obtain⟨s,p,x⟩:=l;have a:d.Extra∈flPs d.Route:=by
  by_cases f:d.Extra∈flPs d.Route
  .exact f
  .rw[List.count_eq_zero_of_not_mem f]at s;exact absurd rfl s
 obtain⟨i,k,e⟩:=List.getElem_of_mem a;refine⟨i,?_,by rw[XJ k,e]⟩;rcases Nat.eq_zero_or_pos i with q|q
 .subst q;cases n:flPs d.Route with
  |nil=>rw[n]at k;simp at k
  |cons m r=>
   rw[n]at j;unfold rokS at j;simp only[XV,Vu,decide_true,Bool.true_eq]at j;have f:m=d.Extra:=by rw[<- e];simp[n]
   rw[<- f]at p;rw[Vu]at p;have:=j.1;rw[p]at this;simp at this
 .exact q
theorem Qkx{c:Course}(e:courseE c=0){d:Distance}(a:d∈c.Distances): -1<=d.Extra:=by
 have h:=(Y2 e).2.1;unfold numbersS at h;simp only[XV]at h;obtain⟨_,_,_,h,_⟩:=h;have:=Xs.1 h d a;unfold distS inR at this;simp only[XV,Vo]at this;exact this.2.1.1
theorem Qfw{c:Course}(hg:courseE c=0->Good c)(he:Ev (λn=>F_bb n c) (courseE c))(i k:Int):Ev (λn=>F_dl n c i k) (bif courseE c != 0 then([],courseE c)else routeO c i k):=by
 unfold F_dl;cases w:(courseE c != 0)with
 |true=>
  refine Ea (v:=courseE c) ?_ (Qal w (Qa _));unfold F_bm;exact Ea he (Qal w (Qa _))
 |false=>
 have e:courseE c=0:=by simpa[bne]using w
 have g:=hg e;rw[e]at he;simp only[Vn];unfold routeO;have chk:∀b:Bool,(decide (i<0)||decide ((c.Distances.length:Int)<=i))=b->Ev (λn=>F_bm n c i) (bif b then 90 else 0):=by
  intro b u;unfold F_bm;refine Ea he (Qs (Ea (v:=b) (Ew (Ql λ_=>Qa _) u) ?_));cases b<;>exact Qa _
 by_cases l:i<0
 .rw[Qv l,Vm];exact Ea (chk true (by rw[Qv l];rfl)) (Qa _)
 rw[Qu l,Vn];cases r:c.Distances[i.toNat]? with
 |none=>
  have:=List.getElem?_eq_none_iff.1 r;exact Ea (chk true (by rw[Qv (show(c.Distances.length:Int)<=i by omega),Bool.or_true])) (Qa _)
 |some d=>
  have aa:=(XK.1 r).1;have f:=VD r;have Q:=Qkx e f;have h:=(g.route d f).2;rw[g.exp f]at h;refine Ea (chk false (by rw[Qu l,Qu (show¬(c.Distances.length:Int)<=i by omega)];rfl)) (Qs ?_);have x:idx c.Distances i=some d:=by
   have:=Qt r
   rwa [Int.toNat_of_nonneg (by omega)]at this
  refine QO x ?_;simp only;have V:decide (d.Extra<0)=(d.Extra== -1):=by
   by_cases z:d.Extra<0
   .rw[Qv z];symm;rw[Vu];omega
   .rw[Qu z];symm;rw[Vv];omega
  refine Ea (v:=decide (k<0)||(decide (0<k)&&decide (d.Extra<0))) ?_ ?_
  .rw[V];exact Ql λ_=>Ei λ_=>Qa _
  cases u:(decide (k<0)||(decide (0<k)&&decide (d.Extra<0)))with
  |true=>exact Qa _
  |false=>
   simp only[XW,decide_eq_false_iff_not,Bool.and_eq_false_iff]at u;refine Qs (Ea (QlT _ _ d.Route (XS _) (g.parts d f) (g.len d f) (g.wf d f) h) ?_);refine Ea (v:=decide (256-((flPs d.Route).length:Int)<k)) ?_ ?_
   .by_cases s:256<k
    .rw[Qv s,Qv (show 256-((flPs d.Route).length:Int)<k by omega)];exact Qa _
    .rw[Qu s,Qj (by omega) (by omega)];refine(Qa _).eq ?_;by_cases z:256-((flPs d.Route).length:Int)<k
     .rw[Qv z,Qv (by omega)]
     .rw[Qu z,Qu (by omega)]
   cases s:decide (256-((flPs d.Route).length:Int)<k)with
   |true=>exact Qa _
   |false=>
    have H:=Vt s;simp only[Vn];by_cases y:k=0
    .subst y;refine(Qa _).eq ?_;simp[routeV]
    .have kb:(k==0)=false:=beq_false_of_ne y;rw[kb];refine Qs ?_;have M:0<=d.Extra:=by omega
     obtain⟨b,Y,W⟩:=QlV (flPs d.Route) d.Extra (by omega);obtain⟨F,J,B⟩:=Qky g e f M;rcases W with⟨_,G⟩|⟨q,q1,X,P,E⟩
     .exact absurd B (G F)
     have N:0<q:=by
      rcases Nat.eq_zero_or_pos q with z|z
      .subst z;exact absurd B (E F J)
      .exact z
     have t:=Qfo (flPs d.Route) d.Extra N P ((flPs d.Route).length-1) (by omega) λp a _=>E p a;refine Ea Y ?_;rw[X,QV (by omega)];have L:slc (flPs d.Route) 0 ((q+1:Nat):Int)=some ((flPs d.Route).take (q+1)):=by
      have:=QdI (flPs d.Route) (a:=0) (b:=q+1) (by omega) (by omega);simpa using this
     have T:slc (flPs d.Route) ((q+1:Nat):Int) ((flPs d.Route).length:Int)=some ((flPs d.Route).drop (q+1)):=by
      have:=QdI (flPs d.Route) (a:=q+1) (b:=(flPs d.Route).length) (by omega) (by omega);simpa using this
     refine QO L ?_;refine QO (QaG [] _ (by simp;omega)) ?_;rw[Vf];have lp:∀(m j:Nat),j+m=k.toNat->EvI (λn=>F_hy n k d) ((flPs d.Route).take (q+1)++List.replicate j d.Extra,(j:Int)) ((flPs d.Route).take (q+1)++List.replicate k.toNat d.Extra):=by
      intro m
      induction m with
      |zero=>
       intro j O;have:j=k.toNat:=by omega
       subst this;refine Ej ?_;unfold F_hy;simp only[Qu (show¬((k.toNat:Nat):Int)<k by omega),Vn];exact Qa _
      |succ m R=>
       intro j O;refine Ex ?_ (R (j+1) (by omega));unfold F_hy;simp only[Qv (show(j:Int)<k by omega),Vm];refine QO (Qda (by simp;omega)) ?_;rw[QV (by omega),Vg, <- List.replicate_succ'];exact Qa _
     refine Ea ((lp k.toNat 0 (by omega)).ev.eq rfl |> λh=>by simpa using h) ?_;refine QO T ?_;refine QO (QaG _ _ (by simp;omega)) ((Qa _).eq ?_);unfold routeV;rw[t]
theorem Qg6(k:Clocks)(w:ClkW k):∃b,Ev (λn=>F_cg n k) b/\(b=true->k.Segments.length<=8):=by
 unfold F_cg;cases d:(decide (8<(k.Segments.length:Int))||decide (10<(k.Far.length:Int)))with
 |true=>exact⟨false,Ea (v:=true) (Ew (Ql λ_=>Qa _) d) (Qa _),nofun⟩
 |false=>
  have e:=d;simp only[XW,decide_eq_false_iff_not]at e;refine⟨bif k.Far.all (λr=> !decide (12<(r.length:Int)))then true else false,Ea (v:=false) (Ew (Ql λ_=>Qa _) d) (Qs (Ea (Yt k.Far (λr=> !decide (12<(r.length:Int))) (Ctl.done false) (Ctl.cont ()) (by have:=w.far;omega) (λi x a=>?_) ?_) ?_)),λ_=>by omega⟩
  .unfold F_ix;simp only[a.lt,Vm,a.ix,XI,a.nx];cases decide (12<(x.length:Int))<;>exact Qa _
  .unfold F_ix;simp only[Qa4,Vn];exact Qa _
  .cases k.Far.all (λr=> !decide (12<(r.length:Int)))<;>exact Qa _
theorem Qib{k:Clocks}(h:Clocks.wf k):ClkW k:=⟨h.1.1,h.2.1.1,λr hr=>(h.2.1.2 r hr).1⟩
structure FewI (a:stopwatchlaw19_Input):Prop where
 few:FewOk a.C
 ty:Ev (λn=>F_c n a.C) (courseE a.C)
 ref:Ev (λn=>F_bb n a.C) (courseE a.C)
 good:courseE a.C=0->Good a.C
 clk:ClkW a.K
 segs:a.K.Segments.length<=8
 mats:a.C.Mats.length<=8
 hits:a.Hits.length<=4
 hands:a.Hands.length<=6
theorem Qm2(a:stopwatchlaw19_Input)(w:stopwatchlaw19_Input.wf a):∃b,Ev (λn=>F_an n a) b/\(b=true->FewI a):=by
 have m:=QdB w.1;have j:=QeP w.1;obtain⟨t,y⟩:=Qih w.1;have k:=Qib w.2.1;obtain⟨z,g,x⟩:=Qhe a.C w.1;obtain⟨s,f,F⟩:=Qg6 a.K k;unfold F_an F_ca;cases e:(!z||(decide (8<(a.C.Mats.length:Int))||(!s||(decide (4<(a.Hits.length:Int))||decide (6<(a.Hands.length:Int))))))with
 |true=>exact⟨false,Ea (Ea (v:=true) (Ew (Ea g (Ql λ_=>Ql λ_=>Ea f (Ql λ_=>Ql λ_=>Qa _))) e) (Qa _)) (Qa _),nofun⟩
 |false=>
  have d:=e;simp only[XW,decide_eq_false_iff_not,Bool.not_eq_false']at d;obtain⟨u,H,B,G,J⟩:=d;obtain⟨l,E⟩:=x u;have p:=Qf3 a.C m j l t y;have i:courseE a.C=0->Good a.C:=λh=>QlK m j h;have all:FewI a:=⟨l,E,p,i,k,F B,by omega,by omega,by omega⟩;cases q:(decide (a.S.Distance<0)||decide ((a.C.Distances.length:Int)<=a.S.Distance))with
  |true=>exact⟨true,Ea (Ea (v:=false) (Ew (Ea g (Ql λ_=>Ql λ_=>Ea f (Ql λ_=>Ql λ_=>Qa _))) e) (Qs (Ea (v:=true) (Ew (Ql λ_=>Qa _) q) (Qa _)))) (Qa _),λ_=>all⟩
  |false=>
   have r:=Qfw i p a.S.Distance a.Extra;generalize(bif courseE a.C != 0 then([],courseE a.C)else routeO a.C a.S.Distance a.Extra)=R at r;exact⟨R.2 != 0||decide ((R.1.length:Int)<=8),Ea (Ea (v:=false) (Ew (Ea g (Ql λ_=>Ql λ_=>Ea f (Ql λ_=>Ql λ_=>Qa _))) e) (Qs (Ea (v:=false) (Ew (Ql λ_=>Qa _) q) (Qs (Ea r (Ea (Ql λ_=>Qa _) (Qa _))))))) (Qa _),λ_=>all⟩
def taskV(c:Course)(k:Clocks)(s:Starter)(e:Int)(x:List Hit)(l:List Hand)(t:List Ud):Task:=
 {c:=c,k:=k,r:=(routeO c s.Distance e).1,s:=sumsV c (routeO c s.Distance e).1,H:=x,T:=t,m:=(hndV l).1,hi:=(hndV l).2}
def taskE(c:Course)(k:Clocks)(s:Starter)(e:Int)(x:List Hit)(l:List Hand):Int ⊕ Task:=
 bif courseE c != 0 then .inl (courseE c)else bif !clkB k then .inl 160 else bif argW c s l then .inl 1 else bif (routeO c s.Distance e).2 != 0 then .inl (routeO c s.Distance e).2 else bif !checkH c x then .inl 170 else
  match timesV c k x with
  |none=>.inl 170
  |some t=>.inr (taskV c k s e x l t)
def prepU:Int ⊕ Task->U_match_prepare
 |.inl e=>.c0 e
 |.inr t=>.c1 (t.r,t.s,t.T,t.m,t.hi)
theorem Qix{c:Course}(d:Ev (λn=>F_c n c) (courseE c))(i:courseE c=0->Good c){k:Clocks}(g:ClkW k)(s:Starter)(e:Int)(x:List Hit)(j:x.length<=1000)(l:List Hand)(h:l.length<=1048576):
  Ev (λn=>F_w n c k s e x l) (prepU (taskE c k s e x l)):=by
 unfold taskE;cases f:(courseE c != 0)with
 |true=>
  unfold F_w;exact Ea d (Qal f (Qa _))
 |false=>
  have a:courseE c=0:=by simpa[bne]using f
  refine(QhL (i a) a (a▸d) g s e x j l h).eq ?_;unfold prepV;cases clkB k with
  |false=>rfl
  |true=>
  cases argW c s l with
  |true=>rfl
  |false=>
  cases((routeO c s.Distance e).2 != 0)with
  |true=>rfl
  |false=>
  cases checkH c x with
  |false=>rfl
  |true=>cases timesV c k x<;>rfl
structure TaskIs (c:Course) (k:Clocks) (s:Starter) (e:Int) (x:List Hit) (l:List Hand) (t:Task):Prop where
 ok:TaskOk t
 cE:courseE c=0
 clk:clkB k=true
 arg:argW c s l=false
 rt:(routeO c s.Distance e).2=0
 hit:checkH c x=true
 is:t=taskV c k s e x l t.T
 tm:timesV c k x=some t.T
theorem QfN{c:Course}(Y:Ev (λn=>F_c n c) (courseE c))(P:courseE c=0->Good c){k:Clocks}(R:ClkW k){s:Starter}{e:Int}{x:List Hit}(X:x.length<=1000){l:List Hand}{t:Task}(h:taskE c k s e x l=.inr t):TaskIs c k s e x l t:=by
 unfold taskE at h;cases E:(courseE c != 0)with
 |true=>rw[E]at h;cases h
 |false=>
 rw[E,Vn]at h;have a:courseE c=0:=by simpa[bne]using E
 cases u:clkB k with
 |false=>rw[u]at h;cases h
 |true=>
 rw[u]at h;cases F:argW c s l with
 |true=>rw[F]at h;cases h
 |false=>
 rw[F]at h;cases H:((routeO c s.Distance e).2 != 0)with
 |true=>rw[H]at h;cases h
 |false=>
 have q:(routeO c s.Distance e).2=0:=by simpa[bne]using H
 rw[H]at h;cases r:checkH c x with
 |false=>rw[r]at h;cases h
 |true=>
 rw[r]at h;cases f:timesV c k x with
 |none=>rw[f]at h;cases h
 |some T=>
 rw[f]at h;cases h;have g:=P a;obtain⟨j,d,k',r1,r2,r3,r4,r5,r6⟩:=QaV g q;have B:(routeO c s.Distance e).1.length<=256:=by
  rw[r6];unfold routeV;simp only[X2,Xx,List.length_drop,List.length_replicate];omega
 obtain⟨T1,T2⟩:=QdZ f;have kk:=Qhr R u;refine⟨⟨a▸Y,Qhd a,kk,YC _ _,B,T1,X,λi y m=>Qiq r y (VD m),λy m=>?_,λp y m=>?_,?_⟩,a,u,F,q,r,rfl,f⟩
 .obtain⟨i,J,W⟩:=List.getElem_of_mem m;have G:i<x.length:=by have:i<T.length:=J;omega
  obtain⟨V,L,O⟩:=T2 i _ (XJ G);have e2:V=y:=by
   have:T[i]?=some y:=by rw[<- W];exact XJ J
   rw[this]at L;cases L;rfl
  subst e2;rcases Qj0 O with z|⟨M,s',z1,Q,_⟩
  .exact⟨0,by omega,by omega⟩
  .have:=(XK.1 Q).1;exact⟨M+1,by omega,by show M+1<k.Segments.length+1;omega⟩
 .have:=QgJ l p;rw[show YP (hndV l).1 p=some y from m]at this;cases N:l.find? (λh=>h.Position==p)with
  |none=>rw[N]at this;cases this
  |some h'=>
   rw[N]at this;cases this;exact⟨0,rfl,by omega⟩
 .have w:=(Y2 a).2.1;unfold numbersS lastS inR at w;simp only[XV,Vo]at w;exact w.2.2.2.2.2.2.2.2.2.1.1.1
theorem Qgn{c:Course}{k:Clocks}{s:Starter}{e:Int}{x:List Hit}{l:List Hand}{v:Int}(h:taskE c k s e x l=.inl v):v≠0:=by
 unfold taskE at h;cases d:(courseE c != 0)with
 |true=>rw[d]at h;cases h;simpa[bne]using d
 |false=>
 rw[d,Vn]at h;cases j:clkB k with
 |false=>rw[j]at h;cases h;decide
 |true=>
 rw[j]at h;cases i:argW c s l with
 |true=>rw[i]at h;cases h;decide
 |false=>
 rw[i]at h;cases f:((routeO c s.Distance e).2 != 0)with
 |true=>rw[f]at h;cases h;simpa[bne]using f
 |false=>
 rw[f]at h;cases g:checkH c x with
 |false=>rw[g]at h;cases h;decide
 |true=>
 rw[g]at h;cases a:timesV c k x with
 |none=>rw[a]at h;cases h;decide
 |some T=>rw[a]at h;cases h
def chkV(c:Course)(k:Clocks)(s:Starter)(e:Int)(x:List Hit)(l:List Hand)(W:Way):Int:=
 match taskE c k s e x l with
 |.inl v=>v
 |.inr t=>bif admV t W then 0 else 190
theorem QkQ{c:Course}(a:Ev (λn=>F_c n c) (courseE c))(d:courseE c=0->Good c){k:Clocks}(g:ClkW k)(s:Starter)(e:Int)(x:List Hit)(h:x.length<=1000)(l:List Hand)(p:l.length<=1048576)(W:Way)(q:W.Hits.length<=1048576):
  Ev (λn=>F_aw n c k s e x l W) (chkV c k s e x l W):=by
 unfold F_aw chkV;refine Ea (Qix a d g s e x h l p) ?_;cases f:taskE c k s e x l with
 |inl v=>
  have:=Qgn f;exact Qal (by simpa[bne]using this) (Qa _)
 |inr t=>
  have i:=QfN a d g h f;have u:t.c=c:=by rw[i.is];rfl
  have w:t.k=k:=by rw[i.is];rfl
  have y:t.H=x:=by rw[i.is];rfl
  have:=QkN i.ok W q;rw[u,w,y]at this;show Ev (λn=>(F_aq n W c k t.r t.s x t.T t.hi t.m c k).bind λj=>(bif (!j)then some 190 else some 0)) _;refine Ea this ?_;simp only;cases admV t W<;>exact Qa _
set_option maxRecDepth 10000
theorem Qmx:F_ee 300=some true:=by kernel_rfl
theorem QcB{a:stopwatchlaw19_Input}(f:FewI a){W:Way}(d:W.Hits.length<=1048576):Ev (λn=>F_dh n a W) (chkV a.C a.K a.S a.Extra a.Hits a.Hands W):=by
 unfold F_dh;exact Ea (QkQ f.ty f.good f.clk _ _ _ (by have:=f.hits;omega) _ (by have:=f.hands;omega) W d) (Qa _)
theorem Qm6{a:stopwatchlaw19_Input}(f:FewI a){W:Way}(h:chkV a.C a.K a.S a.Extra a.Hits a.Hands W=0):∃t,taskE a.C a.K a.S a.Extra a.Hits a.Hands=.inr t/\TaskIs a.C a.K a.S a.Extra a.Hits a.Hands t/\admV t W=true:=by
 unfold chkV at h;cases d:taskE a.C a.K a.S a.Extra a.Hits a.Hands with
 |inl v=>rw[d]at h;exact absurd h (Qgn d)
 |inr t=>
  rw[d]at h;refine⟨t,rfl,QfN f.ty f.good f.clk (by have:=f.hits;omega) d,?_⟩;cases e:admV t W with
  |true=>rfl
  |false=>simp only[e]at h;cases h
set_option maxRecDepth 10000
theorem Qfn{k:Ub}:∀(l:List Leg) (a:List (Ub×Leg)),(∀x∈l,({from_:=x.From,to_:=x.To:Ub})≠k)->YP (l.foldl (λm x=>QW m ({from_:=x.From,to_:=x.To:Ub}) x) a) k=YP a k
 |[],a,_=>rfl
 |x::l,a,h=>by
  rw[XC,Qfn l _ λy hy=>h y (X4 _ hy),QbR,Vp λq=>h x List.mem_cons_self q.symm]
theorem QgG{a b:Int}{y:Leg}:∀(l:List Leg) (m:List (Ub×Leg)),(l.map legKey).Nodup->(l.find? λx=>(x.From==a)&&(x.To==b))=some y->YP (l.foldl (λm x=>QW m ({from_:=x.From,to_:=x.To:Ub}) x) m) {from_:=a,to_:=b}=some y
 |[],m,_,h=>by cases h
 |x::l,m,hn,h=>by
  rw[Vh,List.nodup_cons]at hn;rw[List.find?_cons]at h;rw[XC];cases e:((x.From==a)&&(x.To==b))with
  |true=>
   rw[e]at h;cases h;rw[XV,Vu,Vu]at e;rw[Qfn l,QbR,Vq (by rw[e.1,e.2])];intro z hz q;refine hn.1 (Xe.2 ⟨z,hz,?_⟩);unfold legKey;simp only[Ub.mk.injEq]at q;rw[q.1,q.2,e.1,e.2]
  |false=>
   rw[e]at h;exact QgG l _ hn.2 h
structure LegOk (x:Leg):Prop where
 lo:0<=x.Min
 le:x.Min<=x.Max
 hi:x.Max<=68719476736
theorem Qeg{c:Course}(k:courseE c=0){a b:Int}(h:hasLeg c a b=true):LegOk (legV c a b)/\(c.Legs.find? λl=>(l.From==a)&&(l.To==b))=some (legV c a b)/\(c.Legs.map legKey).Nodup:=by
 have d:=(Y2 k).2.1;unfold numbersS at d;simp only[XV,Vo]at d;obtain⟨_,j,f,_⟩:=d;unfold legV;cases e:c.Legs.find? λl=>(l.From==a)&&(l.To==b)with
 |none=>
  unfold hasLeg at h;obtain⟨y,g,i⟩:=Xt.1 h;exact absurd i (List.find?_eq_none.1 e y g)
 |some y=>
  have:=Xs.1 j y (List.mem_of_find?_eq_some e);unfold legS inR at this;simp only[XV,Vo]at this;exact⟨⟨this.2.1.1.1,this.2.2,this.2.1.2.2⟩,rfl,f⟩
theorem Qfb(c:Course):∀(r:List Int) (s:Span) (a:Int) (i:Nat) (x y:Int) (u:Span),(a::r)[i]?=some x->(a::r)[i+1]?=some y->(s::sumsF c s a r)[i]?=some u->(s::sumsF c s a r)[i+1]?=some (nextS c u x y)
 |[],s,a,i,x,y,u,_,h2,_=>by simp at h2
 |b::r,s,a,0,x,y,u,h1,h2,h3=>by
  simp at h1 h2 h3;subst h1;subst h2;subst h3;rw[Qb6];rfl
 |b::r,s,a,i+1,x,y,u,h1,h2,h3=>by
  rw[Qb6]at h3⊢;exact Qfb c r (nextS c s a b) b i x y u (by simpa using h1) (by simpa using h2) (by simpa using h3)
theorem Qgo(c:Course)(r:List Int)(i:Nat)(x y:Int)(u:Span)(d:r[i]?=some x)(e:r[i+1]?=some y)(f:(sumsV c r)[i]?=some u):(sumsV c r)[i+1]?=some (nextS c u x y):=by
 cases r with
 |nil=>simp at d
 |cons a r=>exact Qfb c r _ a i x y u d e f
theorem QdH{c:Course}(j:courseE c=0){r:List Int}(f:Adj c r)(n:r.length<=256):∀(i:Nat) (u:Span),(sumsV c r)[i]?=some u->0<=u.Lo/\u.Lo<=u.Hi/\u.Hi<=(i:Int)*68719476736
 |0,u,h=>by
  cases r with
  |nil=>simp[sumsV]at h
  |cons a r=>
   have:u={Lo:=0,Hi:=0}:=by simpa[sumsV]using h.symm
   subst this;exact⟨Int.le_refl _,Int.le_refl _,by show(0:Int)<=_;omega⟩
 |i+1,v,h=>by
  have d:=(XK.1 h).1;rw[YC]at d;have g:r[i]?=some (r[i]'(by omega)):=XJ (by omega);have e:r[i+1]?=some (r[i+1]'(d)):=XJ d;have k:(sumsV c r)[i]?=some ((sumsV c r)[i]'(by rw[YC];omega)):=XJ _;obtain⟨p,m,l⟩:=QdH j f n i _ k;rw[Qgo c r i _ _ _ g e k]at h;cases h;have L:=(Qeg j (f.at g e)).1;have s:=L.lo;have t:=L.le;have q:=L.hi;generalize(sumsV c r)[i]'(by rw[YC];omega)=u at p m l;unfold nextS;rw[Qj (by omega) (by omega),Qj (by omega) (by omega)];show 0<=u.Lo+_/\u.Lo+_<=u.Hi+_/\u.Hi+_<=_;rw[show((i+1:Nat):Int)*68719476736=(i:Int)*68719476736+68719476736 by omega];omega
theorem Qe8{c:Course}(f:courseE c=0){r:List Int}(e:Adj c r)(j:r.length<=256){i:Nat}{x y:Int}{u:Span}(a:r[i]?=some x)(d:r[i+1]?=some y)(g:(sumsV c r)[i]?=some u):
  (sumsV c r)[i+1]?=some {Lo:=u.Lo+(legV c x y).Min,Hi:=u.Hi+(legV c x y).Max}:=by
 have h:=(XK.1 a).1;rw[Qgo c r i x y u a d g];obtain⟨q,m,k⟩:=QdH f e j i u g;have L:=(Qeg f (e.at a d)).1;have n:=L.lo;have p:=L.le;have l:=L.hi;unfold nextS;rw[Qj (by omega) (by omega),Qj (by omega) (by omega)]
theorem Qe9{c:Course}(hc:courseE c=0){r:List Int}(ha:Adj c r)(hl:r.length<=256){i:Nat}{u:Span}(h:(sumsV c r)[i]?=some u):∀(d:Nat) (v:Span),(sumsV c r)[i+d]?=some v->0<=v.Lo-u.Lo/\v.Lo-u.Lo<=v.Hi-u.Hi/\v.Hi-u.Hi<=(d:Int)*68719476736
 |0,v,hv=>by
  rw[Xw,h]at hv;cases hv;omega
 |d+1,v,hv=>by
  have hlt:=(XK.1 hv).1;rw[YC]at hlt;have h1:r[i+d]?=some (r[i+d]'(by omega)):=XJ (by omega);have h2:r[i+d+1]?=some (r[i+d+1]'(by omega)):=XJ (by omega);have h3:(sumsV c r)[i+d]?=some ((sumsV c r)[i+d]'(by rw[YC];omega)):=XJ _;obtain⟨p1,p2,p3⟩:=Qe9 hc ha hl h d _ h3;have:=Qe8 hc ha hl h1 h2 h3;rw[show i+(d+1)=i+d+1 by omega,this]at hv;cases hv;have L:=(Qeg hc (ha.at h1 h2)).1;have l1:=L.lo;have l2:=L.le;have l3:=L.hi;generalize(sumsV c r)[i+d]'(by rw[YC];omega)=w at p1 p2 p3;show 0<=w.Lo+_-u.Lo/\w.Lo+_-u.Lo<=w.Hi+_-u.Hi/\w.Hi+_-u.Hi<=_;rw[show((d+1:Nat):Int)*68719476736=(d:Int)*68719476736+68719476736 by omega];omega
theorem Qjj{c:Course}(g:Good c)(he:Ev (λn=>F_c n c) 0){i k:Int}(h:(routeO c i k).2=0):Ev (λn=>F_z n c i k) (U_course_build.c3 ((routeO c i k).1,c.Legs.foldl (λm x=>QW m ({from_:=x.From,to_:=x.To:Ub}) x) [])):=by
 have y:=Qg8 g he i k;obtain⟨j,d,a,E,z,r,t,G,u⟩:=QaV g h;subst E;subst z;have e:=VD r;have s:=(g.route d e);rw[g.exp e]at s;have w:i64.wrap (256-((flPs d.Route).length:Int))=256-((flPs d.Route).length:Int):=Qj (by omega) (by omega);have p:Ev (λn=>Go.Sw.iter (F_bi n c) n (([]:List (Ub×Leg)),0)) (c.Legs.foldl (λm x=>QW m ({from_:=x.From,to_:=x.To:Ub}) x) []):=by
  have F:=g.legs;refine Js c.Legs (λ(m:List (Ub×Leg)) x=>QW m ({from_:=x.From,to_:=x.To:Ub}) x) [] (λm i=>(m,(i:Int))) (λm=>m) (by omega) rfl (λi x m ha _=>?_) ?_
  .unfold F_bi;simp only[ha.lt,Vm,ha.ix,XI,ha.nx];exact Qa _
  .unfold F_bi;simp only[Qa4,Vn];exact Qa _
 rw[u];unfold F_z;have B:(decide ((a:Int)<0)||(decide (0<(a:Int))&&decide (d.Extra<0)))=false:=by
  rw[Qu (show¬(a:Int)<0 by omega),Bool.false_or];by_cases l:0<a
  .have:=t l;rw[Qu (show¬d.Extra<0 by omega),Bool.and_false]
  .rw[Qu (show¬0<(a:Int)by omega),Bool.false_and]
 refine Ea (QdP he r) (Qs (Ea (v:=false) (Ew (Ql λ_=>Ei λ_=>Qa _) B) (Qs (Ea (QbF g e) ?_))));simp only[w,Qu (show¬256-((flPs d.Route).length:Int)<(a:Int)by omega),Vn];refine Ea (v:=routeV d a) ?_ (Ea p (Qa _));by_cases l:a=0
 .subst l;refine Yp (Qu (show¬(0:Int)<((0:Nat):Int)by omega)) ((Qa _).eq ?_);unfold routeV;simp
 .refine Qal (Qv (show(0:Int)<(a:Int)by omega)) ?_;have f:=Qc9 d 0 (flPs d.Route) s.2 ((flPs d.Route).length-1) (by omega);have q:=Qei (flPs d.Route) d.Extra ((flPs d.Route).length-1);rw[Qj (n:=((flPs d.Route).length:Int)-1) (by omega) (by omega),show((flPs d.Route).length:Int)-1=(((flPs d.Route).length-1:Nat):Int)by omega];refine Ea f.ev (Ea (Qfz d.Extra a (by omega) (by omega)) (Ea (EA ?_) (Qa _)));unfold routeV;generalize lastB (flPs d.Route) d.Extra ((flPs d.Route).length-1)=b at q;rw[Qj (n:=(b:Int)+1) (by omega) (by omega)];unfold Qi7;rw[Qv (show 0<=(b:Int)+1 by omega),Qv (show(b:Int)+1<=((flPs d.Route).length:Int)by omega),List.length_replicate,show Nat.blt 0 a=true from by simp;omega,XR (show(flPs d.Route).length+a<=Yk by unfold Yk;omega),show((b:Int)+1).toNat=b+1 by omega];rfl
set_option maxRecDepth 10000
structure SpanOk (x:Span):Prop where
 a: -4398046511104<=x.Lo
 b:x.Lo<=x.Hi
 c:x.Hi<=4398046511104
theorem Qij{c:Course}(e:CrsOk c){s:Segment}(d:isT s.Anchor){h:Hit}(a:HitOk c h):SpanOk (spanV c s h):=by
 have l:=QkV e (kindAt c h.Mat) d a.fi;have m:=QkV e (kindAt c h.Mat) d a.la;have g:=a.fi;have j:=a.la;have k:=a.le;unfold isT at g j;have i:i64.wrap (h.First+(devV c (kindAt c h.Mat) s h.First).Lo)=h.First+(devV c (kindAt c h.Mat) s h.First).Lo:=Qj (by omega) (by omega);have f:i64.wrap (h.Last+(devV c (kindAt c h.Mat) s h.Last).Hi)=h.Last+(devV c (kindAt c h.Mat) s h.Last).Hi:=Qj (by omega) (by omega);unfold spanV;rw[i,f];refine⟨?_,?_,?_⟩
 .show _<=h.First+_;omega
 .show h.First+_<=h.Last+_;omega
 .show h.Last+_<=_;omega
theorem QiT{c:Course}(f:CrsOk c){k:Clocks}(l:ClkOk k){h:Hit}(e:HitOk c h){t:Ud}(q:timeV c k h=some t):SpanOk t.span:=by
 unfold timeV at q;cases g:(kindAt c h.Mat==1)with
 |true=>rw[g]at q;cases q;exact Qij f (by show isT 0;unfold isT;omega) e
 |false=>
  rw[g]at q;by_cases a:segIx k h<0
  .rw[Qv a]at q;cases q
  .rw[Qu a]at q;obtain⟨j,s,i,d,m,_⟩:=Qd4 a;rw[i,Int.toNat_natCast,d]at q;cases q;exact Qij f (l.anc s (VD d)) e
section
variable {c:Course} {k:Clocks} {s:Starter} {e:Int} {x:List Hit} {l:List Hand} {t:Task}
theorem QhE(a:TaskIs c k s e x l t){p h:Int}(G:hitI t h)(q:(knownV t p h).2=true):SpanOk (knownV t p h).1.span:=by
 have ok:=a.ok;have g:t.c=c:=by rw[a.is];rfl
 have w:t.H=x:=by rw[a.is];rfl
 have u:t.k=k:=by rw[a.is];rfl
 have E:t.m=(hndV l).1:=by rw[a.is];rfl
 unfold knownV at q⊢;cases e:(Jh t.m p||decide (h<0))with
 |true=>
  rw[e]at q;simp only[Vm]at q⊢;rw[Qed]at q;obtain⟨y,d⟩:=Option.isSome_iff_exists.1 q;unfold QA;rw[d];rw[E,QgJ]at d;cases j:l.find? (λh=>h.Position==p)with
  |none=>rw[j]at d;cases d
  |some f=>
   rw[j]at d;cases d;have r:=a.arg;unfold argW at r;simp only[XW]at r;have B:=List.any_eq_false.1 r.2.2.2.2 f (List.mem_of_find?_eq_some j);unfold handW timeB inR at B;simp only[Bool.or_eq_true,Vo,Bool.not_eq_true',Bool.and_eq_false_iff,decide_eq_false_iff_not,not_or,Decidable.not_not]at B;exact⟨by show _<=f.Lo;omega,by show f.Lo<=f.Hi;omega,by show f.Hi<=_;omega⟩
 |false=>
  simp only[Vn];rw[XW,decide_eq_false_iff_not]at e;have i:h.toNat<t.H.length:=by rcases G with z|z<;>omega
  obtain⟨y,n,L⟩:=Qbi (l:=t.H) (h:=h) (by omega) i;obtain⟨_,T2⟩:=QdZ a.tm;rw[w]at n;obtain⟨z,J,F⟩:=T2 _ _ n;rw[J];exact QiT (by rw[<- g];exact ok.crs) (by rw[<- u];exact ok.clk) (by have:=ok.hit h.toNat y (by rw[w];exact n);rwa [g]at this) F
end
def kv(t:Task)(W:Way)(i:Nat):Ud×Bool:=knownV t (i:Int) ((W.Hits[i]?).getD (-1))
theorem QcD{t:Task}{W:Way}:∀{r:List Int} {i:Nat} {u:List (Int×Bool)} {s:Uf},admL t W r i u s=true->∀h∈r,hitI t h
 |[],_,_,_,_,h,hm=>by cases hm
 |y::r,i,u,s,q,h,hm=>by
  rw[Qdb]at q;cases hb:((y != -1)&&badV t W u i y)with
  |true=>rw[hb]at q;cases q
  |false=>
  rw[hb,Vn]at q;rcases X5.1 hm with rfl|hm
  .exact(Qeo hb).1
  .cases hL:decide (W.Last<(i:Int))with
   |true=>rw[hL,Vm]at q;exact QcD q h hm
   |false=>
    rw[hL,Vn]at q;cases h2:(stepV t s (i:Int) y).2 with
    |false=>rw[h2]at q;cases q
    |true=>rw[h2]at q;exact QcD q h hm
def InvK(t:Task)(W:Way)(i:Nat)(s:Uf):Prop:=(s.last= -1/\ ∀j,j<i->(kv t W j).2=false)\/ ∃a:Nat,a<i/\s.last=(a:Int)/\(kv t W a).2=true/\s.when=(kv t W a).1/\ ∀j,a<j->j<i->(kv t W j).2=false
theorem Qch{t:Task}{W:Way}:∀{r:List Int} {i:Nat} {u:List (Int×Bool)} {s:Uf},W.Hits.drop i=r->InvK t W i s->admL t W r i u s=true->∀a b:Nat,a<b->i<=b->(b:Int)<=W.Last->b<W.Hits.length->(kv t W a).2=true->(kv t W b).2=true->(∀j,a<j->j<b->(kv t W j).2=false)->followsV t (kv t W a).1 a (kv t W b).1 b=true
 |[],i,u,s,hr,_,_,a,b,_,hib,_,hb,_,_,_=>by
  have:=Xq.1 hr;omega
 |y::r,i,u,s,hr,hI,q,a,b,hab,hib,hbL,hbl,ka,kb,kj=>by
  have hil:i<W.Hits.length:=by
   rcases Vy i W.Hits.length with z|z
   .exact z
   .rw[List.drop_eq_nil_of_le z]at hr;cases hr
  have F:W.Hits[i]?=some y:=by
   have:=Xp hil;rw[hr]at this;cases this;exact XJ hil
  have n:W.Hits.drop (i+1)=r:=by
   have:=Xp hil;rw[hr]at this;cases this;rfl
  have m:kv t W i=knownV t (i:Int) y:=by unfold kv;rw[F];rfl
  rw[Qdb]at q;cases f:((y != -1)&&badV t W u i y)with
  |true=>rw[f]at q;cases q
  |false=>
  rw[f,Vn,Qu (show¬W.Last<(i:Int)by omega),Vn]at q;cases d:(stepV t s (i:Int) y).2 with
  |false=>rw[d]at q;cases q
  |true=>
  rw[d]at q;simp only[Xg,Vn]at q;unfold stepV at d q;rw[<- m]at d q;cases k:(kv t W i).2 with
  |false=>
   rw[k]at d q;simp only[Xh,Vm]at q;have J:b≠i:=by intro z;rw[z,k]at kb;cases kb
   refine Qch n ?_ q a b hab (by omega) hbL hbl ka kb kj;rcases hI with⟨w,g⟩|⟨h,w,g,p,B,x⟩
   .exact .inl ⟨w,λj L=>(Vy j i).elim (g j) λz=>(show i=j by omega)▸k⟩
   .exact .inr ⟨h,by omega,g,p,B,λj E L=>(Vy j i).elim (x j E) λz=>(show i=j by omega)▸k⟩
  |true=>
   rw[k]at d q;simp only[Xg,Vn]at d q;cases l:stopV t s (i:Int) y with
   |true=>rw[l]at d;cases d
   |false=>
    rw[l]at q;simp only[Vn]at q;rcases Nat.eq_or_lt_of_le hib with e|G
    .subst e;rcases hI with⟨_,g⟩|⟨h,w,g,p,B,x⟩
     .rw[g a hab]at ka;cases ka
     .have H:h=a:=by
       rcases Nat.lt_trichotomy h a with z|z|z
       .rw[x a z hab]at ka;cases ka
       .exact z
       .rw[kj h z w]at p;cases p
      subst H;unfold stopV at l;rw[<- m,XW,g,Qv (show(0:Int)<=(h:Int)by omega),Vw,B,Bool.not_eq_false']at l;exact l.2
    .refine Qch n (.inr ⟨i,by omega,rfl,k,rfl,λj E d=>by omega⟩) q a b hab (by omega) hbL hbl ka kb kj
theorem inv0(t:Task)(W:Way):InvK t W 0 s0V:=.inl ⟨rfl,λj h=>by omega⟩
inductive Cr (t:Task) (W:Way) (p:Nat):Int->Span->Prop
 |back (i:Nat) (hi:i<=p) (hk:(kv t W i).2=true) (g:∀j,i<j->j<=p->(kv t W j).2=false):Cr t W p (kv t W i).1.segment {Lo:=i64.wrap ((kv t W i).1.span.Lo+(needV t i p).Lo),Hi:=i64.wrap ((kv t W i).1.span.Hi+(needV t i p).Hi)}
 |fwd (hb:∀j,j<=p->(kv t W j).2=false) (i:Nat) (hi:p<i) (hL:(i:Int)<=W.Last) (hk:(kv t W i).2=true) (g:∀j,p<j->j<i->(kv t W j).2=false):Cr t W p (kv t W i).1.segment {Lo:=i64.wrap ((kv t W i).1.span.Lo-(needV t p i).Hi),Hi:=i64.wrap ((kv t W i).1.span.Hi-(needV t p i).Lo)}
 |none (hb:∀j:Nat,(j:Int)<=W.Last->(kv t W j).2=false):Cr t W p (-1) {Lo:= -1099511627776,Hi:=1099511627776}
theorem Qg7{c:Course}(ty:Ev (λn=>F_c n c) (courseE c))(gd:courseE c=0->Good c){k:Clocks}(kw:ClkW k){s:Starter}{e:Int}{x:List Hit}(hx:x.length<=1000){l:List Hand}(hl:l.length<=1048576){t:Task}(ht:taskE c k s e x l=.inr t){W:Way}(hW:W.Hits.length<=1048576)(J:admV t W=true){p:Nat}(hp:(p:Int)<=W.Last):
  ∃sg sp,Ev (λn=>F_ad n c k s e x l W (p:Int)) (sg,sp,0)/\Cr t W p sg sp:=by
 have Q:=QfN ty gd kw hx ht;have ok:=Q.ok;have hc:t.c=c:=by rw[Q.is];rfl
 have hk:t.k=k:=by rw[Q.is];rfl
 have hH:t.H=x:=by rw[Q.is];rfl
 have f:=J;unfold admV at f;cases G:admB t W with
 |true=>rw[G]at f;cases f
 |false=>
 rw[G,Vn]at f;unfold admB at G;simp only[XW,decide_eq_false_iff_not]at G;obtain⟨F,b1,b2,b3,b4⟩:=G;have F:W.Hits.length=t.r.length:=by have:=F;simp[bne]at this;omega
 have rl:=ok.rl;have O:=QcD f;have kn:∀i:Nat,i<W.Hits.length->∃h,idx W.Hits (i:Int)=some h/\Ev (λn=>F_ac n (i:Int) h c k t.r t.s x t.T t.hi t.m c k) (kv t W i):=by
  intro i hi;have hy:W.Hits[i]?=some (W.Hits[i]'(hi)):=XJ hi;refine⟨_,Qt hy,?_⟩;have:=Qg5 ok (i:Int) (W.Hits[i]'(hi)) (O _ (List.getElem_mem hi));rw[hc,hk,hH]at this;unfold kv;rw[hy];exact this
 have nd:∀i j:Nat,i<t.r.length->j<t.r.length->Ev (λn=>F_ab n (i:Int) (j:Int) c k t.r t.s x t.T t.hi t.m c k) (needV t i j):=by
  intro i j hi R;have:=Qiy ok (i:=(i:Int)) (j:=(j:Int)) (by omega) (by omega) (by omega) (by omega)
  rwa [hc,hk,hH]at this
 have up:(∀j,j<=p->(kv t W j).2=false)->∀(m i:Nat),p<=i->W.Last.toNat+1-i<=m->(∀j,p<j->j<i->(kv t W j).2=false)->
   (∃a,p<a/\(a:Int)<=W.Last/\(kv t W a).2=true/\(∀j,p<j->j<a->(kv t W j).2=false)/\EvI (λn=>F_am n c k x W (p:Int) (t.r,t.s,t.T,t.m,t.hi)) (i:Int) (Ctl.done ((kv t W a).1.segment,{Lo:=i64.wrap ((kv t W a).1.span.Lo-(needV t p a).Hi),Hi:=i64.wrap ((kv t W a).1.span.Hi-(needV t p a).Lo)},0)))\/
   ((∀j,p<j->(j:Int)<=W.Last->(kv t W j).2=false)/\EvI (λn=>F_am n c k x W (p:Int) (t.r,t.s,t.T,t.m,t.hi)) (i:Int) (Ctl.cont ())):=by
  intro hb m
  induction m with
  |zero=>
   intro i hi hm y;refine .inr ⟨λj w B=>y j w (by omega),Ej ?_⟩;unfold F_am;simp only[Qu (show¬(i:Int)<=W.Last by omega),Vn];exact Qa _
  |succ m ih=>
   intro i hi hm y;by_cases V:(i:Int)<=W.Last
   case neg=>
    refine .inr ⟨λj w B=>y j w (by omega),Ej ?_⟩;unfold F_am;simp only[Qu V,Vn];exact Qa _
   obtain⟨h,M,P⟩:=kn i (by omega);cases d:(kv t W i).2 with
   |true=>
    have ab:p<i:=(Vy p i).elim id λz=>by rw[hb i z]at d;cases d
    refine .inl ⟨i,ab,V,d,y,Ej ?_⟩;unfold F_am;simp only[Qv V,Vm,M,XI];refine Ea P (Qal d (Ea (nd p i (by omega) (by omega)) (Qa _)))
   |false=>
    have u:Ev (λn=>F_am n c k x W (p:Int) (t.r,t.s,t.T,t.m,t.hi) (i:Int)) (Ctl.cont ((i+1:Nat):Int)):=by
     unfold F_am;simp only[Qv V,Vm,M,XI];refine Ea P (Yp d ?_);rw[QV (by omega)];exact Qa _
    rcases ih (i+1) (by omega) (by omega) (λj w B=>(Vy j i).elim (y j w) λz=>(show i=j by omega)▸d)with⟨a,g,q,N,L,g5⟩|⟨g,q⟩
    .exact .inl ⟨a,g,q,N,L,Ex u g5⟩
    .exact .inr ⟨g,Ex u q⟩
 have down:∀(m:Nat),m<=p+1->(∀j,m<=j->j<=p->(kv t W j).2=false)->
   (∃a,a<=p/\(kv t W a).2=true/\(∀j,a<j->j<=p->(kv t W j).2=false)/\EvI (λn=>F_bd n c k x W (p:Int) (t.r,t.s,t.T,t.m,t.hi)) ((m:Int)-1) (Ctl.done ((kv t W a).1.segment,{Lo:=i64.wrap ((kv t W a).1.span.Lo+(needV t a p).Lo),Hi:=i64.wrap ((kv t W a).1.span.Hi+(needV t a p).Hi)},0)))\/
   ((∀j,j<=p->(kv t W j).2=false)/\EvI (λn=>F_bd n c k x W (p:Int) (t.r,t.s,t.T,t.m,t.hi)) ((m:Int)-1) (Ctl.cont ())):=by
  intro m
  induction m with
  |zero=>
   intro _ y;refine .inr ⟨λj R=>y j (XT _) R,Ej ?_⟩;unfold F_bd;simp only[Qu (show¬(0:Int)<=((0:Nat):Int)-1 by omega),Vn];exact Qa _
  |succ m ih=>
   intro hm y;rw[show((m+1:Nat):Int)-1=(m:Int)by omega];obtain⟨h,M,P⟩:=kn m (by omega);cases d:(kv t W m).2 with
   |true=>
    refine .inl ⟨m,by omega,d,λj w B=>y j w B,Ej ?_⟩;unfold F_bd;simp only[Qv (show(0:Int)<=(m:Int)by omega),Vm,M,XI];refine Ea P (Qal d (Ea (nd m p (by omega) (by omega)) (Qa _)))
   |false=>
    have u:Ev (λn=>F_bd n c k x W (p:Int) (t.r,t.s,t.T,t.m,t.hi) (m:Int)) (Ctl.cont ((m:Int)-1)):=by
     unfold F_bd;simp only[Qv (show(0:Int)<=(m:Int)by omega),Vm,M,XI];refine Ea P (Yp d ?_);rw[Qj (n:=(m:Int)-1) (by omega) (by omega)];exact Qa _
    rcases ih (by omega) (λj w B=>(Nat.eq_or_lt_of_le w).elim (λz=>z▸d) λz=>y j z B)with⟨a,g,q,N,L⟩|⟨g,q⟩
    .exact .inl ⟨a,g,q,N,Ex u L⟩
    .exact .inr ⟨g,Ex u q⟩
 have E:=QkN ok W hW;rw[hc,hk,hH,J]at E;have start:∀v,Ev (λn=>(iter (F_bd n c k x W (p:Int) (t.r,t.s,t.T,t.m,t.hi)) n (p:Int):Option (Ctl Unit (Int×Span×Int))).bind λY=>match Y with|.cont sb24=>((iter (F_am n c k x W (p:Int) (t.r,t.s,t.T,t.m,t.hi)) n (p:Int):Option (Ctl Unit (Int×Span×Int))).bind λaa=>match aa with|.cont sb46=>(some ((-1),{Lo:=(-1099511627776),Hi:=1099511627776:Span},0))|.done sb46=>some sb46)|.done sb24=>some sb24) v->Ev (λn=>F_ad n c k s e x l W (p:Int)) v:=by
  intro v hv;unfold F_ad;refine Ea (Qix ty gd kw s e x hx l hl) ?_;rw[ht];simp only[prepU];refine Ea E (Qs (Ea (v:=false) ?_ (Qs hv)));exact Yp (Qu (by omega)) ((Qa _).eq (Qu (by omega)))
 have hd:=down (p+1) (XS _) (λj w B=>by omega);rw[show((p+1:Nat):Int)-1=(p:Int)by omega]at hd;rcases hd with⟨a,g,q,N,L⟩|⟨g,q⟩
 .exact⟨_,_,start _ (Ea L.ev (Qa _)),Cr.back a g q N⟩
 .rcases up g (W.Last.toNat+1) p (XS _) (by omega) (λj w B=>by omega)with⟨a,u1,X,u3,u4,u5⟩|⟨u1,X⟩
  .exact⟨_,_,start _ (Ea q.ev (Ea u5.ev (Qa _))),Cr.fwd g a u1 X u3 u4⟩
  .exact⟨_,_,start _ (Ea q.ev (Ea X.ev (Qa _))),Cr.none λj R=>(Vy p j).elim (λz=>u1 j z R) (g j)⟩
end Go.Sw
