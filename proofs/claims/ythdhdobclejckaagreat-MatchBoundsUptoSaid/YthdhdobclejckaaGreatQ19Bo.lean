/- The plain laws that a law needs, with no program in sight. -/
import Derived.Test.YthdhdobclejckaaGreatW19Bo
set_option linter.unusedVariables false
set_option linter.unusedSimpArgs false
namespace Go.Sw
open List(map)
open Int(toNat)
open Go.IntKind(i64 u64 u8)
def inR(lo hi x:Int):Bool:=decide (lo<=x)&&decide (x<=hi)
theorem Qfb(lo hi:Int)(l:List Int)(a:l.length<=4611686018427387904):Ev (λn=>F_a n lo hi l) (l.all (inR lo hi)):=by
 have h:Ev (λn=>F_fs n l lo hi) (l.any λx=> !inR lo hi x):=by
  refine Ev.contains l _ (λn x=>F_er n x lo hi) a λx _=>?_;refine Ea ((Ql λh=>Qa _).eq ?_) (Qa _);unfold inR
  grind
 refine Ea h ((Qa _).eq ?_)
 grind
def okN(c:Nat):Bool:=(decide (97<=c)&&decide (c<=122))||(decide (48<=c)&&decide (c<=57))||decide (c=95)
def okAN(c:Nat):Bool:=decide (97<=c)&&decide (c<=122)
def okC(c:UInt8):Bool:=okN c.toNat
def okA(c:UInt8):Bool:=okAN c.toNat
def kwL:List (List UInt8):=[[99,111,117,114,115,101],[109,97,116,115],[115,116,97,114,116],[112,97,115,115],[101,110,100],[108,101,103],[116,111],[100,105,115,116,97,110,99,101],[103,117,110],[99,104,105,112],[115,108,111,116],[108,97,112,115],[108,97,112],[99,117,116,111,102,102],[101,120,116,114,97],[119,97,118,101],[111,102,102,101,110,99,101],[111,117,116],[99,97,116,101,103,111,114,121],[112,114,105,122,101],[97,108,108],[116,105,101,115],[105,102],[101,108,115,101],[97,110,100],[111,114],[110,111,116],[111,108,100,101,114],[121,111,117,110,103,101,114],[98,105,98],[100,114,97,119],[102,105,101,108,100],[115,104,111,114,116],[102,97,117,108,116,115],[109,105,115,115,101,115],[115,116,114,97,121,115],[119,105,110,100,111,119],[114,101,115,105,100,117,97,108],[100,114,105,102,116],[112,114,111,116,101,115,116],[102,101,101],[100,101,97,100,108,105,110,101]]
theorem QkF(c d:Bool):(bif c then some c else some d)=some (c||d):=by grind
theorem Qii(c d:Bool):(bif c then some true else some d)=some (c||d):=by grind
theorem QeM(n:Nat)(s:List UInt8):F_cy n s=some (kwL.contains s):=by
 unfold F_cy;simp only[QkF,Qii,XI];simp only[kwL,List.contains_cons,List.contains_nil,Bool.or_assoc]
def kwsOf:List UInt8->List (List UInt8)
 |[]=>[]
 |b::l=>(bif b==32&& !(l.dropWhile λc=>c != 32).isEmpty then[l.takeWhile λc=>c != 32]else[])++kwsOf l
theorem Qdb:∀(l s:List UInt8),(∀c∈s,c≠32)->(s++[32]).isPrefixOf l=((l.takeWhile λc=>c != 32)==s&& !(l.dropWhile λc=>c != 32).isEmpty)
 |[],s,h=>by simp
 |b::l,[],h=>by
  by_cases e:b=32
  .subst e;simp
  .have e1:=by simpa using e
   have a:(32==b)=false:=by grind
   simp[List.isPrefixOf,e1,a]
 |b::l,c::s,h=>by
  have f:=h c (by simp);have d:=Qdb l s (by grind)
  grind[List.takeWhile_cons,List.dropWhile_cons]
theorem contains_cons(b:UInt8)(l t:List UInt8)(a:t≠[]):Lib.contains (b::l) t=(t.isPrefixOf (b::l)||Lib.contains l t):=by
 unfold Lib.contains;rw[show Lib.index (b::l) t=if t.isPrefixOf (b::l)then 0 else if Lib.index l t== -1 then-1 else Lib.index l t+1 from rfl]
 grind
theorem QbJ(s:List UInt8)(h:∀c∈s,c≠32):∀l,Lib.contains l (32::(s++[32]))=(kwsOf l).contains s
 |[]=>by rfl
 |b::l=>by
  rw[contains_cons b l _ (by simp),QbJ s h l];simp only[kwsOf,List.isPrefixOf,Qdb l s h]
  grind
def wordsL:List UInt8:=[32,99,111,117,114,115,101,32,109,97,116,115,32,115,116,97,114,116,32,112,97,115,115,32,101,110,100,32,108,101,103,32,116,111,32,100,105,115,116,97,110,99,101,32,103,117,110,32,99,104,105,112,32,115,108,111,116,32,108,97,112,115,32,108,97,112,32,99,117,116,111,102,102,32,101,120,116,114,97,32,119,97,118,101,32,111,102,102,101,110,99,101,32,111,117,116,32,99,97,116,101,103,111,114,121,32,112,114,105,122,101,32,97,108,108,32,116,105,101,115,32,105,102,32,101,108,115,101,32,97,110,100,32,111,114,32,110,111,116,32,111,108,100,101,114,32,121,111,117,110,103,101,114,32,98,105,98,32,100,114,97,119,32,102,105,101,108,100,32,115,104,111,114,116,32,102,97,117,108,116,115,32,109,105,115,115,101,115,32,115,116,114,97,121,115,32,119,105,110,100,111,119,32,114,101,115,105,100,117,97,108,32,100,114,105,102,116,32,112,114,111,116,101,115,116,32,102,101,101,32,100,101,97,100,108,105,110,101,32]
theorem Qmw:kwsOf wordsL=kwL:=by decide+kernel
def classTab:List Int:=(List.range 256).map λi=>if 97<=i/\i<=122\/65<=i/\i<=90 then 2 else if 48<=i/\i<=57 then 3 else if i∈[123,125,40,41,91,93,59,44,61,60,62]then 4 else if i∈[32,9,10,13]then 1 else 0
theorem Qhw:Ev F_ce classTab:=by
 unfold F_ce;refine Ea (QbW (step:=F_dy 0) 40 (b:=(iter (F_dy 0) 40 (List.replicate 256 0,97)).getD []) (by decide+kernel)) ?_;refine Ea (QbW (step:=F_hk 0) 40 (b:=(iter (F_hk 0) 40 ((iter (F_dy 0) 40 (List.replicate 256 0,97)).getD [],48)).getD []) (by decide+kernel)) ?_;generalize hb:(iter (F_hk 0) 40 ((iter (F_dy 0) 40 (List.replicate 256 0,97)).getD [],48)).getD []=b2;refine Ea (QbW (step:=F_iw 0) 40 (b:=(iter (F_iw 0) 40 (b2,0)).getD []) (by subst hb;decide+kernel)) ?_;refine Ea (QbW (step:=F_jc 0) 40 (b:=classTab) (by subst hb;decide+kernel)) ?_;exact EA (by decide+kernel)
theorem Qi5:((List.range 256).all λi=> !okN i||decide (classTab[i]?=some (if okAN i then 2 else if i=95 then 0 else 3)))=true:=by decide+kernel
theorem QkE{c:UInt8}(h:okC c=true):Qd6 256 classTab (c.toNat:Int)=some (if okA c then 2 else if c.toNat=95 then 0 else 3):=by
 have a:=Xs.1 Qi5 c.toNat (List.mem_range.2 c.toNat_lt);unfold okC at h;rw[h]at a;simp[Xg,Bool.false_or,Vo]at a;unfold Qd6;rw[show Nat.beq classTab.length 256=true by decide+kernel,Vm,Qu a];rfl
def goodS(s:List UInt8):Bool:=decide (1<=s.length)&&decide (s.length<=24)&&(s.head?).any okA&&s.all okC
def isNameS(s:List UInt8):Bool:=goodS s&& !kwL.contains s
theorem QiQ(s:List UInt8)(h:goodS s=true):Ev (λn=>F_cz n s) true:=by
 unfold goodS at h;simp only[XV,Vo,Xs]at h;obtain⟨⟨⟨d,k⟩,j⟩,e⟩:=h;unfold F_cz;refine Ea Qhw ?_;refine QO (v:=List.replicate 256 0) (by decide+kernel) ?_;refine QO (v:=classTab) (by decide+kernel) ?_;refine Ea (v:=Ctl.cont ()) (Ev.iter (λi=>(i:Int)) s.length rfl (λi f=>?_) ?_) ?_
 .have a:=Y4 (x:=s[i]) (by omega) (XJ f);have g:=e _ a.mem;unfold F_jb;simp only[a.lt,Vm,a.ix,XI,QkE g,a.nx];cases i with
  |zero=>
   have:okA s[0]=true:=by
    cases s with
    |nil=>simp at d
    |cons c r=>grind
   simp[this];exact Qa _
  |succ i=>
   grind[Qa]
 .simp_all[F_jb,Qa]
 .refine EA ?_;cases s with
  |nil=>simp at d
  |cons c r=>rfl
theorem QiL{s:List UInt8}(h:goodS s=true):∀c∈s,c≠32:=by
 unfold goodS at h;simp[XV,Xs]at h;rintro c a rfl;exact absurd (h.2 _ a) (by decide)
theorem Qj4{s:List UInt8}(h:goodS s=true):s.length<=24:=by
 simp_all[goodS]
theorem Qhx(s:List UInt8)(h:goodS s=true):Ev (λn=>F_ej n s) (kwL.contains s):=by
 refine Ea (Ea (QiQ s h) (QeI ?_)) (Qa _);have a:=Qj4 h;refine QO (by unfold cat;rw[XR (by simp;omega)];rfl) (QO (by unfold cat;rw[XR (by simp;omega)];rfl) ?_);refine QO ?_ (Qa _);show Qd8 wordsL ([32]++s++[32])=some (kwL.contains s);unfold Qd8;rw[show Nat.blt wordsL.length 4294967281=true by decide+kernel,Vm]
 grind[QbJ,QiL,Qmw]
theorem ch_lt(c:UInt8)(k:Nat):decide ((c.toNat:Int)<(k:Int))=decide (c.toNat<k):=by
 simp
theorem badC(c:UInt8):(bif decide ((c.toNat:Int)<97)then(bif decide ((c.toNat:Int)<48)then some ((c.toNat:Int) != 95)else(bif decide (57<(c.toNat:Int))then some ((c.toNat:Int) != 95)else some false))else(bif decide (122<(c.toNat:Int))then(bif decide ((c.toNat:Int)<48)then some ((c.toNat:Int) != 95)else(bif decide (57<(c.toNat:Int))then some ((c.toNat:Int) != 95)else some false))else some false))=some (!okC c):=by
 unfold okC okN;generalize c.toNat=k;have e:((k:Int) != 95)= !decide (k=95):=by
  grind
 grind
theorem Qe2(n:Nat)(s:List UInt8):(bif decide ((s.length:Int)<1)then some true else(bif decide (24<(s.length:Int))then some true else(idx s 0).bind λx10=>(bif decide ((x10.toNat:Int)<97)then some true else(idx s 0).bind λx12=>some (decide (122<(x12.toNat:Int))))))=some (!(decide (1<=s.length)&&decide (s.length<=24)&&(s.head?).any okA)):=by
 cases s with
 |nil=>rfl
 |cons c r=>
  by_cases h:(c::r).length<=24
  .rw[Qy (show¬24<((c::r).length:Int)by omega),Vn];have d:idx (c::r) 0=some c:=rfl;simp[d,XI];simp[XZ]at h;have a:r.length<=23:=by omega
   simp[List.head?_cons,Option.any_some,okA,okAN];rw[show(97:Int)=(97:Nat)from rfl,ch_lt];by_cases f:c.toNat<97
   .grind
   .have e:97<=c.toNat:=by omega
    simp[f,e,a];by_cases q:c.toNat<=122
    iterate 2 grind
  grind
theorem Qff(s:List UInt8)(h:s.length<=1048576):Ev (λn=>F_e n s) (isNameS s):=by
 refine Ea (EA (Qe2 0 s)) ?_;unfold isNameS;cases g:(decide (1<=s.length)&&decide (s.length<=24)&&(s.head?).any okA)with
 |false=>
  have:goodS s=false:=by unfold goodS;rw[g];rfl
  rw[this];exact Qa _
 |true=>
  have f:goodS s=s.all okC:=by unfold goodS;rw[g];rfl
  refine Ea (YU s (λc=> !okC c) (λi=>(i:Int)) (Ctl.done false) (Ctl.cont ()) (by omega) rfl (λi x a d=>?_) (λi x a d=>?_) ?_) ?_
  .unfold F_hv;simp only[a.lt,a.ix,XI,badC,d,a.nx];exact Qa _
  .unfold F_hv;simp only[a.lt,a.ix,XI,badC,d];exact Qa _
  .simp_all[F_hv,Qa]
  .rw[f];have e:s.any (λc=> !okC c)= !s.all okC:=by grind
   rw[e];cases q:s.all okC with
   |true=>
    exact Ea (Qhx s (f.trans q)) (Qa _)
   |false=>
    exact Qa _
theorem Qbk(s:List UInt8)(j:s.length<=1048576):Ev (λn=>F_bf n s) (isNameS s):=by
 refine Ea (EA (Qe2 0 s)) ?_;unfold isNameS;cases a:(decide (1<=s.length)&&decide (s.length<=24)&&(s.head?).any okA)with
 |false=>
  have:goodS s=false:=by unfold goodS;rw[a];rfl
  rw[this];exact Qa _
 |true=>
  have f:goodS s=s.all okC:=by unfold goodS;rw[a];rfl
  cases s with
  |nil=>simp at a
  |cons c r=>
   have g:okC c=true:=by
    simp_all[okA,okC,okN,okAN]
   have hr:=by
    simp[XV,Vo,XZ]at a;omega
   have k:∀(i:Nat) (x:UInt8),At r i x->decide (((i+1:Nat):Int)<(c::r).length)=true/\idx (c::r) (i+1:Nat)=some x/\i64.wrap ((i+1:Nat)+1)=i+1+1:=by
    intro i x d;have:=d.lt';exact⟨Vr (by simp;omega),Qu (by simpa using d.get),Yc (by omega)⟩
   refine Ea (YU r (λc=> !okC c) (λi=>((i+1:Nat):Int)) (Ctl.done false) (Ctl.cont ()) (by omega) rfl (λi x d h=>?_) (λi x d h=>?_) ?_) ?_
   iterate 2 grind[F_im,badC,Qa]
   .unfold F_im;rw[Qy (by simp),Vn];exact Qa _
   .rw[f];have e:r.any (λc=> !okC c)= !(c::r).all okC:=by rw[List.all_cons,g,Vw,List.not_all_eq_any_not]
    rw[e];cases q:(c::r).all okC with
    |true=>
     exact Ea (EA (QeM 0 _)) (Qa _)
    |false=>
     exact Qa _
def diffS:List (List UInt8)->List (List UInt8)->Bool
 |_,[]=>true
 |seen,x::r=>isNameS x&& !seen.contains x&&diffS (seen++[x]) r
theorem Qer(l:List (List UInt8))(i:Nat)(x:List UInt8)(h:At l i x):diffS (l.take i) (l.drop i)=(isNameS x&& !(l.take i).contains x&&diffS (l.take (i+1)) (l.drop (i+1))):=by
 rw[h.drop,h.take];rfl
theorem QbH{α:Type}(l:List α)(a:α->List UInt8)(g:Nat->α->Option Unit)(hg:∀n x,g n x=some ())(p:l.length<=1048576)(m:∀x∈l,(a x).length<=1048576):
  Ev (λn=>((iter (λs:(List (List UInt8×Bool))×Int=>bif decide (s.2<(l.length:Int))then(idx l s.2).bind λx35=>(g n x35).bind λr36=>((F_e n (a x35)).bind λr42=>(bif (!r42)then some true else(some (Qq s.1 (a x35) false)).bind λv44=>some v44):Option Bool).bind λb40=>(bif b40 then some (.done (.done false))else(some (QU s.1 (a x35) true)).bind λm46=>some (.cont (m46,i64.wrap (s.2+1))))else some (.done (.cont ()))) n ([],0):Option (Ctl Unit Bool)).bind λb28=>
   match b28 with
   |.cont _=>some true
   |.done s=>some s:Option Bool)) (diffS [] (l.map a)):=by
 have f:l.length<=4611686018427387904:=by omega
 have h:(l.map a).length<=4611686018427387904:=by grind
 have j:=Qbp (B:=Ctl Unit Bool) l (step:=λn s=>bif decide (s.2<(l.length:Int))then(idx l s.2).bind λx35=>(g n x35).bind λr36=>((F_e n (a x35)).bind λr42=>(bif (!r42)then some true else(some (Qq s.1 (a x35) false)).bind λv44=>some v44)).bind λb40=>(bif b40 then some (.done (.done false))else(some (QU s.1 (a x35) true)).bind λm46=>some (.cont (m46,i64.wrap (s.2+1))))else some (.done (.cont ())))
  (λi=>(Yd a true (l.take i),i)) (λi=>bif diffS ((l.map a).take i) ((l.map a).drop i)then .cont ()else .done false) f rfl (λi x e=>?_) ?_
 .refine Ea j ?_
  grind[Qa]
 .have ha2:=Y4 h (by rw[Xo,e.get];rfl);simp only[Qer _ _ _ ha2];have d:Ev (λn=>(F_e n (a x)).bind λr42=>(bif (!r42)then some true else(some (Qq (Yd a true (l.take i)) (a x) false)).bind λv44=>some v44)) (!(isNameS (a x)&& !((l.map a).take i).contains (a x))):=by
   refine Ea (Qff (a x) (m x e.mem)) ?_;cases isNameS (a x)with
   |false=>exact Qa _
   |true=>
    simp_all[Qa,Qdd]
  cases k:(isNameS (a x)&& !((l.map a).take i).contains (a x))with
  |true=>
   rw[k]at d;refine .inl ⟨?_,by simp⟩;simp only[e.lt,e.ix,XI,hg];refine Ea d ?_;simp[e.nx];rw[e.take,QfA];exact Qa _
  |false=>
   rw[k]at d;refine .inr ?_;simp only[e.lt,e.ix,XI,hg];refine Ea d ?_;exact Qa _
 .simp[Qa6];rw[show(l.map a).drop l.length=[]by simp];exact Qa _
theorem Qc1{α:Type}{l:List α}{x:α}(h:l.length<=140737488):app l [x]=some (l++[x]):=QlL l x (by omega)
theorem Qdu(l:List (List UInt8))(s:l.length<=1048576)(h:∀x∈l,x.length<=1048576):Ev (λn=>F_q n l) (diffS [] l):=by
 have g:l.length<=4611686018427387904:=by omega
 refine Ea (Qbp l (λi=>(i:Int)) (λi=>bif diffS (l.take i) (l.drop i)then .cont ()else .done false) g rfl (λi x a=>?_) ?_) ?_
 .simp only[Qer _ _ _ a];unfold F_iu;simp only[a.lt,a.ix,XI];cases f:isNameS x with
  |false=>
   exact .inr (Ea ((Qbk x (h x a.mem)).eq f) (Qa _))
  |true=>
   have r:=a.lt';have inner:Ev (λn=>iter (F_du n l i) n 0) (bif (l.take i).contains x then Ctl.done (Ctl.done (Ctl.done false))else Ctl.cont ()):=by
    have e:(l.take i).contains x=(l.take i).any λy=>y==x:=by
     grind
    rw[e];have p:(l.take i).length=i:=by simp;omega
    refine YU (l.take i) (λy=>y==x) (λi=>(i:Int)) _ _ (by omega) rfl (λj y d m=>?_) (λj y d m=>?_) ?_
    .have k:=d.lt';have hjg:=by
      have:=d.get;rw[List.getElem?_take]at this;split at this
      .exact this
      .cases this
     unfold F_du;rw[QA (show(j:Int)<i by omega)];simp only[Qu hjg,a.ix,XI,m,d.nx];exact Qa _
    .have k:=d.lt';have hjg:=by
      have:=d.get;rw[List.getElem?_take]at this;split at this
      .exact this
      .cases this
     unfold F_du;rw[QA (show j<(i:Int)by omega)];simp only[Qu hjg,a.ix,XI,m];exact Qa _
    grind[F_du,Qa]
   cases q:(l.take i).contains x with
   |true=>
    rw[q]at inner;exact .inr (Ea ((Qbk x (h x a.mem)).eq f) (Qs (Ea inner (Qa _))))
   |false=>
    rw[q]at inner;refine .inl ⟨Ea ((Qbk x (h x a.mem)).eq f) (Qs (Ea inner ?_)),by simp⟩;simp only[a.nx];exact Qa _
 .unfold F_iu;simp only[Qa6,Xr];exact Qa _
 grind[Qa]
theorem Qad{α β:Type}(l:List α)(f:α->β)(j:l.length<=140737488):Ev (λn=>iter (λs:(List β)×Int=>bif decide (s.2<(l.length:Int))then(idx l s.2).bind λx15=>(app s.1 [f x15]).bind λl16=>some (Ctl.cont (l16,i64.wrap (s.2+1)))else some (Ctl.done s.1)) n (([]:List β),(0:Int))) (l.map f):=by
 have e:∀l:List α,l.foldl (λa x=>a++[f x]) []=l.map f:=by
  intro l;have h:∀(l:List α) (a:List β),l.foldl (λa x=>a++[f x]) a=a++l.map f:=by
   intro l
   induction l with
   |nil=>simp
   |cons x l k=>grind
  grind
 rw[<- e l];refine Jq l (λa x=>a++[f x]) [] (λa i=>(a,(i:Int))) (λa=>a) (by omega) rfl (λi x a d g=>?_) ?_
 .rw[e]at g;have:a.length<=140737488:=by grind
  simp only[d.lt,d.ix,Qc1 this,d.nx];exact Qa _
 .simp[Qa6];exact Qa _
def namesS(c:Course):Bool:=isNameS c.Name&&(diffS [] (c.Mats.map (·.Name))&&(diffS [] (c.Distances.map (·.Name))&&(diffS [] (c.Waves.map (·.Name))&&(diffS [] (c.Offences.map (·.Name))&&diffS [] (c.Categories.map (·.Name))))))
structure CourseOk (c:Course):Prop where
 name:c.Name.length<=1048576
 mats:c.Mats.length<=1048576
 matsN:∀x∈c.Mats,x.Name.length<=1048576
 legs:c.Legs.length<=1048576
 dist:c.Distances.length<=1048576
 distN:∀x∈c.Distances,x.Name.length<=1048576
 cut:∀x∈c.Distances,x.Cutoffs.length<=1048576
 wave:c.Waves.length<=1048576
 waveN:∀x∈c.Waves,x.Name.length<=1048576
 off:c.Offences.length<=1048576
 offN:∀x∈c.Offences,x.Name.length<=1048576
 cat:c.Categories.length<=1048576
 catN:∀x∈c.Categories,x.Name.length<=1048576
 prize:c.Prizes.length<=1048576
theorem Qkj(c:Course)(w:CourseOk c):Ev (λn=>F_fy n c) (namesS c):=by
 refine Ea (Ea (Qff c.Name w.name) (Ei λ_=>?_)) (Qa _);have a:Ev (λn=>F_ea n c.Mats) (diffS [] (c.Mats.map (·.Name))):=by exact QbH c.Mats (·.Name) F_dz (λ_ _=>rfl) w.mats w.matsN
 have e:Ev (λn=>F_fw n c.Distances) (diffS [] (c.Distances.map (·.Name))):=by exact QbH c.Distances (·.Name) F_eg (λ_ _=>rfl) w.dist w.distN
 have d:Ev (λn=>F_em n c.Waves) (diffS [] (c.Waves.map (·.Name))):=by exact QbH c.Waves (·.Name) F_fi (λ_ _=>rfl) w.wave w.waveN
 have f:Ev (λn=>F_gc n c.Offences) (diffS [] (c.Offences.map (·.Name))):=by exact QbH c.Offences (·.Name) F_fg (λ_ _=>rfl) w.off w.offN
 have g:Ev (λn=>F_gf n c.Categories) (diffS [] (c.Categories.map (·.Name))):=by exact QbH c.Categories (·.Name) F_fl (λ_ _=>rfl) w.cat w.catN
 refine Ea a (Ei λ_=>(Ea e (Ei λ_=>?_)));refine Ea d (Ei λ_=>?_);exact Ea f (Ei (by grind))
structure Short (c:Course):Prop where
 mats:c.Mats.length<=140737488
 dist:c.Distances.length<=140737488
 wave:c.Waves.length<=140737488
 off:c.Offences.length<=140737488
 cat:c.Categories.length<=140737488
theorem QgK(c:Course)(w:CourseOk c)(s:Short c):Ev (λn=>F_ft n c) (namesS c):=by
 refine Ea (Qad c.Mats (·.Name) s.mats) (Ea (Qad c.Distances (·.Name) s.dist) ?_);refine Ea (Qad c.Waves (·.Name) s.wave) (Ea (Qad c.Offences (·.Name) s.off) ?_);refine Ea (Qad c.Categories (·.Name) s.cat) (Ea ?_ (Qa _));refine Ea (Qbk c.Name w.name) (Ei λ_=>?_);have mk:∀{α:Type} (l:List α) (nm:α->List UInt8),l.length<=1048576->(∀x∈l,(nm x).length<=1048576)->Ev (λn=>F_q n (l.map nm)) (diffS [] (l.map nm)):=by
  simp_all[Qdu]
 refine Ea (mk c.Mats (·.Name) w.mats w.matsN) (Ei λ_=>(Ea (mk c.Distances (·.Name) w.dist w.distN) (Ei λ_=>?_)));refine Ea (mk c.Waves (·.Name) w.wave w.waveN) (Ei λ_=>(Ea (mk c.Offences (·.Name) w.off w.offN) (Ei λ_=>?_)));exact Ea (mk c.Categories (·.Name) w.cat w.catN) (Qa _)
theorem QaE{n:Nat}(h:n<=1048576):i64.wrap ((n:Int)-1)=(n:Int)-1:=Qz (by omega) (by omega)
theorem Jm(x lo hi:Int):Ev (λn=>F_b n x lo hi) (inR lo hi x):=by
 exact Ea (Ei λ_=>Qa _) (Qa _)
theorem Qeo(c:Course)(w:CourseOk c)(x:Int):Ev (λn=>F_i n c x) (inR 0 ((c.Mats.length:Int)-1) x):=by
 unfold F_i;rw[QaE w.mats];exact Ea (Jm _ _ _) (Qa _)
mutual
def szP:Part->Nat
 |⟨_,_,ps⟩=>1+szPs ps
def szPs:List Part->Nat
 |[]=>0
 |p::r=>szP p+szPs r
end
theorem YB(p:Part):szP p=1+szPs p.Parts:=by cases p;rfl
theorem YN{p:Part}:∀{l:List Part},p∈l->szP p<=szPs l
 |q::r,h=>by
  simp[szPs];rcases X5.1 h with rfl|h
  .omega
  .have:=YN h;omega
mutual
def partS(k:Int):Part->Bool
 |⟨m,laps,ps⟩=>bif laps==0 then inR 0 k m&&((ps.length:Int)==0)else inR 1 64 laps&&((m==0)&&(decide (0<(ps.length:Int))&&partsS k ps))
def partsS(k:Int):List Part->Bool
 |[]=>true
 |p::r=>partS k p&&partsS k r
end
theorem QaY(k:Int)(p:Part):partS k p=bif p.Laps==0 then inR 0 k p.Mat&&((p.Parts.length:Int)==0)else inR 1 64 p.Laps&&((p.Mat==0)&&(decide (0<(p.Parts.length:Int))&&partsS k p.Parts)):=by cases p;rfl
theorem YX(k:Int):∀l:List Part,partsS k l=l.all (partS k)
 |[]=>rfl
 |p::r=>by simp[partsS,List.all_cons,YX k r]
theorem Q8{p:Part}(h:Part.wf p):p.Parts.length<=1048576/\ ∀x∈p.Parts,Part.wf x:=by
 cases p
 grind[Part.wf,QcF]
theorem QF(lo hi x:Int):Ev (λn=>F_a n lo hi [x]) (inR lo hi x):=(Qfb lo hi [x] (by simp)).eq (by simp)
theorem QaH(lo hi x y:Int):Ev (λn=>F_a n lo hi [x,y]) (inR lo hi x&&inR lo hi y):=(Qfb lo hi [x,y] (by simp)).eq (by simp)
theorem Qki(k:Int):∀(m:Nat) (l:List Part),szPs l<=m->l.length<=1048576->(∀x∈l,Part.wf x)->Ev (λn=>F_z n l k) (partsS k l):=by
 intro m
 induction m with
 |zero=>
  intro l d g a;cases l with
  |nil=>
   refine Yw ?_;exact Jc [] (partS k) (λn x=>F_bz (F_z n) n x k) (by simp) (by simp)
  |cons p r=>
   simp only[szPs,YB]at d;omega
 |succ m i=>
  intro l d g a;refine Yw ?_;rw[YX];refine Jc l (partS k) (λn x=>F_bz (F_z n) n x k) (by omega) λp e=>?_;rw[QaY];have f:=YN e;rw[YB]at f;obtain⟨j,h⟩:=Q8 (a p e);refine QaK (λ_=>?_) (λ_=>?_)
  .exact Ea (Ea (QF _ _ _) (Ei λ_=>Qa _)) (Qa _)
  .exact Ea (Ea (QF _ _ _) (Ei λ_=>Ei λ_=>Ei (by grind))) (Qa _)
theorem QiP(c:Course)(w:CourseOk c):∀(m:Nat) (l:List Part),szPs l<=m->l.length<=1048576->(∀x∈l,Part.wf x)->Ev (λn=>F_p n c l) (partsS ((c.Mats.length:Int)-1) l):=by
 intro m
 induction m with
 |zero=>
  intro l f t e;cases l with
  |nil=>
   refine Yw ?_;show Ev (λn=>B_p (F_p n) n c []) _;exact⟨1,λn u=>by obtain⟨k,rfl⟩:∃k,n=k+1:=⟨n-1,by omega⟩;rfl⟩
  |cons p r=>
   simp only[szPs,YB]at f;omega
 |succ m j=>
  intro l f t e;refine Yw ?_;show Ev (λn=>B_p (F_p n) n c l) _;rw[YX];have step:∀(i:Nat) (x:Part),At l i x->Ev (λn=>F_hp n c l (F_p n) i) (bif partS (c.Mats.length-1) x then .cont (i+1)else .done (.done false)):=by
   intro i x a;unfold F_hp;simp only[a.lt,a.ix,XI,a.nx];have h:=YN a.mem;rw[YB]at h;obtain⟨s,g⟩:=Q8 (e x a.mem);refine Ea (Ei λ_=>Ea (Qeo c w _) (Ei λ_=>Qa _)) (Ea (Ea (Jm _ _ _) (Ei λ_=>Ei λ_=>Ei λ_=>Ea (j x.Parts (by omega) s g) (Qa _))) ?_);rw[QaY];cases q:(x.Laps==0)with
   |true=>
    have e0:=by simpa using q
    have:inR 1 64 x.Laps=false:=by rw[e0];rfl
    grind[Qa]
   |false=>
    generalize(inR 1 64 x.Laps&&((x.Mat==0)&&(decide (0<(x.Parts.length:Int))&&partsS (c.Mats.length-1) x.Parts)))=b;cases b<;>exact Qa _
  refine Ea (YU l (λx=> !partS (c.Mats.length-1) x) (λi=>(i:Int)) (Ctl.done false) (Ctl.cont ()) (by omega) rfl (λi x a d=>?_) (λi x a d=>?_) ?_) ?_
  .refine(step i x a).eq ?_;have:=by simpa using d
   rw[this];rfl
  .refine(step i x a).eq ?_;have:=by simpa using d
   rw[this];rfl
  .unfold F_hp;simp[Qa6];exact Qa _
  grind[Qa]
def legS(k:Int)(l:Leg):Bool:=(inR 0 k l.From&&inR 0 k l.To)&&((inR 0 68719476736 l.Min&&inR 0 68719476736 l.Max)&&decide (l.Min<=l.Max))
def cutS(k:Int)(x:Cutoff):Bool:=inR 0 k x.Mat&&(decide (1<=x.Lap)&&inR 0 1099511627776 x.Limit)
def distS(k:Int)(d:Distance):Bool:=inR 1 3 d.Timing&&(inR (-1) k d.Extra&&(partsS k d.Route&&d.Cutoffs.all (cutS k)))
def offS(o:Offence):Bool:=bif o.Out then(o.Time==0)&&(o.Laps==0)else bif o.Laps != 0 then(o.Time==0)&&inR 1 64 o.Laps else inR 0 68719476736 o.Time
def catS(x:Category):Bool:=(inR 0 120 x.From&&inR 0 120 x.To)&&decide (x.From<=x.To)
def prizeS(c:Course)(p:Prize):Bool:=inR 0 ((c.Distances.length:Int)-1) p.Distance&&(inR (-1) ((c.Categories.length:Int)-1) p.Category&&(inR 1 4000 p.Rank&&inR 1 1125899906842624 p.Amount))
def lastS(c:Course):Bool:=(inR 0 16 c.Faults.Misses&&inR 0 16 c.Faults.Strays)&&((inR 0 4294967296 c.Faults.Window&&inR 0 4294967296 c.Faults.Residual)&&(inR 0 100000 c.Faults.Drift&&(inR 0 1125899906842624 c.Fee&&inR 0 1099511627776 c.Deadline)))
def legKey(l:Leg):Ui:={from_:=l.From,to_:=l.To}
def prizeKey(p:Prize):Uk:={distance:=p.Distance,category:=p.Category,rank:=p.Rank}
def numbersS(c:Course):Bool:=
 let k:=(c.Mats.length:Int)-1
 c.Mats.all (λm=>inR 1 3 m.Kind)&&(c.Legs.all (legS k)&&(decide ((c.Legs.map legKey).Nodup)&&(c.Distances.all (distS k)&&(c.Waves.all (λw=>inR 0 1099511627776 w.Gun)&&(c.Offences.all offS&&(c.Categories.all catS&&(c.Prizes.all (prizeS c)&&(decide ((c.Prizes.map prizeKey).Nodup)&&lastS c))))))))
structure PartsOk (c:Course):Prop where
 len:∀d∈c.Distances,d.Route.length<=1048576
 wf:∀d∈c.Distances,∀x∈d.Route,Part.wf x
theorem QfL(l:List Leg)(d:l.length<=1048576):Ev (λn=>F_ga n l) (decide ((l.map legKey).Nodup)):=by
 refine Ea (Qbq l legKey true (by omega) (λi x m a=>?_) (λm=>?_)) ((Qa _).eq ?_)
 .unfold F_iz F_el;simp only[a.lt,a.ix,a.nx];exact Qa _
 .simp_all[F_iz,Qa]
 .rw[XX];simp[Vu,Vo]
  grind[QbY]
theorem Qen(l:List Prize)(d:l.length<=1048576):Ev (λn=>F_eh n l) (decide ((l.map prizeKey).Nodup)):=by
 refine Ea (Qbq l prizeKey true (by omega) (λi x m a=>?_) (λm=>?_)) ((Qa _).eq ?_)
 .unfold F_iv F_ef;simp only[a.lt,a.ix,a.nx];exact Qa _
 .simp_all[F_iv,Qa]
 .rw[XX];simp[Vu,Vo]
  grind[QbY]
theorem Qhr(c:Course)(w:CourseOk c)(q:PartsOk c):Ev (λn=>F_cd n c) (numbersS c):=by
 unfold F_cd numbersS;rw[QaE w.mats];refine Ea (v:=_) ?_ (Qa _);have d:Ev (λn=>F_cv n c.Mats) (c.Mats.all λm=>inR 1 3 m.Kind):=by
  unfold F_cv F_fa F_do;refine Jc c.Mats _ (λn x=>F_bt n x) (by have:=w.mats;omega) λx a=>?_;unfold F_bt;exact Ea (QF _ _ _) (Qa _)
 have e:Ev (λn=>F_cb n c.Legs ((c.Mats.length:Int)-1)) (c.Legs.all (legS ((c.Mats.length:Int)-1))):=by
  unfold F_cb F_fd F_ed;refine Jc c.Legs _ (λn x=>F_df n x _) (by have:=w.legs;omega) λx a=>?_;unfold F_df;exact Ea (Ea (QaH _ _ _ _) (Ei λ_=>Ea (QaH _ _ _ _) (Ei λ_=>Qa _))) (Qa _)
 have g:Ev (λn=>F_ci n c.Distances ((c.Mats.length:Int)-1)) (c.Distances.all (distS ((c.Mats.length:Int)-1))):=by
  unfold F_ci F_fe F_eu;refine Jc c.Distances _ (λn x=>F_br n x _) (by have:=w.dist;omega) λx a=>?_;unfold F_br;have i:Ev (λn=>F_cs n x.Cutoffs ((c.Mats.length:Int)-1)) (x.Cutoffs.all (cutS ((c.Mats.length:Int)-1))):=by
   unfold F_cs F_et F_dm;refine Jc x.Cutoffs _ (λn x=>F_dh n x _) (by have:=w.cut x a;omega) λy l=>?_;unfold F_dh;exact Ea (Ea (QF _ _ _) (Ei λ_=>Ei λ_=>Ea (QF _ _ _) (Qa _))) (Qa _)
  exact Ea (Ea (QF _ _ _) (Ei λ_=>Ea (QF _ _ _) (Ei λ_=>Ea (Qki _ _ x.Route (XS _) (q.len x a) (q.wf x a)) (Ei λ_=>Ea i (Qa _))))) (Qa _)
 have h:Ev (λn=>F_cu n c.Waves) (c.Waves.all λw=>inR 0 1099511627776 w.Gun):=by
  unfold F_cu F_dn F_ek;refine Jc c.Waves _ (λn x=>F_cr n x) (by have:=w.wave;omega) λx a=>?_;unfold F_cr;exact Ea (QF _ _ _) (Qa _)
 have f:Ev (λn=>F_db n c.Offences) (c.Offences.all offS):=by
  unfold F_db F_fh F_fp;refine Jc c.Offences _ (λn x=>F_cl n x) (by have:=w.off;omega) λx a=>?_;unfold F_cl offS;refine QaK (λ_=>Ea (Ei λ_=>Qa _) (Qa _)) λ_=>QaK (λ_=>Ea (Ei λ_=>Ea (QF _ _ _) (Qa _)) (Qa _)) λ_=>Ea (QF _ _ _) (Qa _)
 have k:Ev (λn=>F_cj n c.Categories) (c.Categories.all catS):=by
  unfold F_cj F_ee F_gd;refine Jc c.Categories _ (λn x=>F_ca n x) (by have:=w.cat;omega) λx a=>?_;unfold F_ca;exact Ea (Ea (QaH _ _ _ _) (Ei λ_=>Qa _)) (Qa _)
 have j:Ev (λn=>F_bs n c.Prizes c) (c.Prizes.all (prizeS c)):=by
  unfold F_bs F_fx F_fv;refine Jc c.Prizes _ (λn x=>F_da n x c) (by have:=w.prize;omega) λx a=>?_;unfold F_da;rw[QaE w.dist,QaE w.cat];exact Ea (Ea (QF _ _ _) (Ei λ_=>Ea (QF _ _ _) (Ei λ_=>Ea (QF _ _ _) (Ei λ_=>Ea (QF _ _ _) (Qa _))))) (Qa _)
 refine Ea d (Ei λ_=>Ea e (Ei λ_=>Ea (QfL _ w.legs) (Ei λ_=>Ea g (Ei λ_=>Ea h (Ei λ_=>Ea f (Ei λ_=>Ea k (Ei λ_=>Ea j (Ei λ_=>Ea (Qen _ w.prize) (Ei λ_=>?_)))))))));exact Ea (QaH _ _ _ _) (Ei λ_=>Ea (QaH _ _ _ _) (Ei λ_=>Ea (QF _ _ _) (Ei λ_=>Ea (QF _ _ _) (Ei λ_=>Ea (QF _ _ _) (Qa _)))))
theorem ends_eq{a b a' d:Int}:(({from_:=a,to_:=b}:Ui)={from_:=a',to_:=d})↔a=a'/\b=d:=by simp
theorem Qem(c:Course)(w:CourseOk c)(d:Distance)(h:d.Route.length<=1048576)(j:∀x∈d.Route,Part.wf x)(m:d.Cutoffs.length<=1048576):Ev (λn=>F_ew n c d) (distS ((c.Mats.length:Int)-1) d):=by
 have step:∀(i:Nat) (x:Cutoff),At d.Cutoffs i x->Ev (λn=>F_ht n c d i) (bif cutS (c.Mats.length-1) x then .cont (i+1)else .done (.done false)):=by
  intro i x a;unfold F_ht;simp only[a.lt,a.ix,XI,a.nx];have:Ev (λn=>(F_i n c x.Mat).bind λg=>(bif (!g)then some true else(bif decide (x.Lap<1)then some true else(F_b n x.Limit 0 1099511627776).bind λf=>some (!f)))) (!cutS (c.Mats.length-1) x):=by
   refine Ea (Qeo c w _) (Ew (Ql λ_=>Ql λ_=>Ea (Jm _ _ _) (Qa _)) ?_)
   grind[cutS]
  refine Ea this ?_
  grind[Qa]
 refine Ea (YU d.Cutoffs (λx=> !cutS (c.Mats.length-1) x) (λi=>(i:Int)) (Ctl.done false) (Ctl.cont ()) (by omega) rfl (λi x a k=>?_) (λi x a k=>?_) ?_) ?_
 .grind
 .grind
 .simp_all[F_ht,Qa]
 .have e:d.Cutoffs.any (λx=> !cutS (c.Mats.length-1) x)= !d.Cutoffs.all (cutS (c.Mats.length-1)):=by grind
  rw[e];unfold distS;have l:inR (-1) (c.Mats.length-1) d.Extra=((d.Extra== -1)||inR 0 (c.Mats.length-1) d.Extra):=by
   unfold inR
   grind
  cases d.Cutoffs.all (cutS (c.Mats.length-1))with
  |false=>
   simp[Bool.and_false];exact Qa _
  |true=>
   simp only[Bool.and_true];refine Ea (Ea (Jm _ _ _) ((Ei λ_=>Ea (QiP c w _ d.Route (XS _) h j) (Ei λ_=>Ql λ_=>Ea (Qeo c w _) (Qa _))).eq ?_)) (Qa _)
   grind
theorem Yr{α B:Type}{step:Nat->Int->Option (Ctl Int B)}(l:List α)(ok:α->Bool)(a b:B)(g:l.length<=4611686018427387904)
  (j:∀i x,At l i x->Ev (λn=>step n (i:Int)) (bif ok x then .cont ((i+1:Nat):Int)else .done a))(h:Ev (λn=>step n (l.length:Int)) (.done b)):
  Ev (λn=>Go.Sw.iter (step n) n 0) (bif l.all ok then b else a):=by
 have e:(bif l.all ok then b else a)=bif l.any (λx=> !ok x)then a else b:=by
  grind
 rw[e];refine YU l (λx=> !ok x) (λi=>(i:Int)) a b g rfl (λi x d f=>?_) (λi x d f=>?_) h
 .grind
 grind
theorem QfI(c:Course)(w:CourseOk c)(q:PartsOk c):Ev (λn=>F_cp n c) (numbersS c):=by
 unfold F_cp numbersS;have G:Ev (λn=>iter (F_gx n c) n 0) (bif c.Mats.all (λm=>inR 1 3 m.Kind)then Ctl.cont ()else Ctl.done false):=by
  refine Yr c.Mats _ _ _ (by have:=w.mats;omega) (λi x a=>?_) ?_
  .unfold F_gx;simp only[a.lt,Vm,a.ix,XI,a.nx];refine Ea (Jm _ _ _) ?_;cases inR 1 3 x.Kind<;>exact Qa _
  simp_all[F_gx,Qa]
 have H:Ev (λn=>iter (F_de n c) n 0) (bif c.Legs.all (legS ((c.Mats.length:Int)-1))&&decide ((c.Legs.map legKey).Nodup)then Ctl.cont ()else Ctl.done false):=by
  have first:∀x:Leg,Ev (λn=>((F_i n c x.From).bind λs=>(bif (!s)then some true else(F_i n c x.To).bind λB=>(bif (!B)then some true else(bif decide (x.Min<0)then some true else(bif decide (x.Max<x.Min)then some true else some (decide (68719476736<x.Max)))))):Option Bool)) (!legS ((c.Mats.length:Int)-1) x):=by
   intro x;refine Ea (Qeo c w _) (Ew (Ql λ_=>Ea (Qeo c w _) (Ql λ_=>Ql λ_=>Ql λ_=>Qa _)) ?_);unfold legS inR
   grind
  have inner:∀(i:Nat) (x:Leg),At c.Legs i x->Ev (λn=>iter (F_dv n c (i:Int) x) n 0) (bif ((c.Legs.take i).map legKey).contains (legKey x)then Ctl.done (Ctl.done (Ctl.done false))else Ctl.cont ()):=by
   intro i x a;have F:=a.lt';refine Qg4 c.Legs i legKey (legKey x) _ _ (by have:=w.legs;omega) (by omega) (λj y E l g=>?_) (λj y E l g=>?_) ?_
   .unfold F_dv;rw[QA (show(j:Int)<(i:Int)by omega)];simp only[Vm,l.ix,XI,l.nx];have h:¬(y.From=x.From/\y.To=x.To):=by simpa[legKey]using g
    refine Ea (Ei λ_=>Qa _) ?_;have e:((y.From==x.From)&&(y.To==x.To))=false:=by
     grind
    rw[e];exact Qa _
   .unfold F_dv;rw[QA (show(j:Int)<(i:Int)by omega)];simp only[Vm,l.ix,XI,l.nx]
    simp_all[legKey,Qa]
   grind[F_dv,Qa]
  refine Qk1 c.Legs (legS ((c.Mats.length:Int)-1)) legKey _ _ (by have:=w.legs;omega) (λi x a d g=>?_) (λi x a d=>?_) (λi x a d g=>?_) ?_
  .unfold F_de;simp only[a.lt,Vm,a.ix,XI,a.nx];have f:=first x;rw[d]at f
   have k:=inner i x a;rw[g]at k;exact Ea f (Qs (Ea k (Qa _)))
  .unfold F_de;simp only[a.lt,Vm,a.ix,XI,a.nx];have f:=first x;rw[d]at f
   exact Ea f (Qa _)
  .unfold F_de;simp only[a.lt,Vm,a.ix,XI,a.nx];have f:=first x;rw[d]at f
   have k:=inner i x a;rw[g]at k;exact Ea f (Qs (Ea k (Qa _)))
  simp_all[F_de,Qa]
 have J:Ev (λn=>iter (F_gs n c) n 0) (bif c.Distances.all (distS ((c.Mats.length:Int)-1))then Ctl.cont ()else Ctl.done false):=by
  refine Yr c.Distances _ _ _ (by have:=w.dist;omega) (λi x a=>?_) ?_
  .unfold F_gs;simp only[a.lt,Vm,a.ix,XI,a.nx];refine Ea (Qem c w x (q.len x a.mem) (q.wf x a.mem) (w.cut x a.mem)) ?_;cases distS ((c.Mats.length:Int)-1) x<;>exact Qa _
  .unfold F_gs;simp only[Qa6,Vn];exact Qa _
 have M:Ev (λn=>iter (F_hs n c) n 0) (bif c.Waves.all (λw=>inR 0 1099511627776 w.Gun)then Ctl.cont ()else Ctl.done false):=by
  refine Yr c.Waves _ _ _ (by have:=w.wave;omega) (λi x a=>?_) ?_
  .unfold F_hs;simp only[a.lt,Vm,a.ix,XI,a.nx];refine Ea (Jm _ _ _) ?_;cases inR 0 1099511627776 x.Gun<;>exact Qa _
  .unfold F_hs;simp only[Qa6,Vn];exact Qa _
 have L:Ev (λn=>iter (F_hj n c) n 0) (bif c.Offences.all offS then Ctl.cont ()else Ctl.done false):=by
  refine Yr c.Offences _ _ _ (by have:=w.off;omega) (λi x a=>?_) ?_
  .unfold F_hj;simp only[a.lt,Vm,a.ix,XI,a.nx];refine Ea (Ea (Jm _ _ _) (Ei λ_=>Ei λ_=>Qa _)) ?_;refine Ea (Ei λ_=>Ea (Jm _ _ _) (Ei λ_=>Qa _)) ?_;refine Ea (Ei λ_=>Ei λ_=>Qa _) ?_;refine Ea (Ei λ_=>Ei λ_=>Qa _) ?_;have e:offS x= !(!(inR 0 68719476736 x.Time&&((x.Laps==0)&& !x.Out))&&(!((x.Time==0)&&(inR 1 64 x.Laps&& !x.Out))&& !((x.Time==0)&&((x.Laps==0)&&x.Out)))):=by
    unfold offS inR;cases x.Out with
    |true=>
     rw[XX];simp
    |false=>
     by_cases h:x.Laps=0
     iterate 2 rw[XX];simp[h]
   rw[e];generalize(!(inR 0 68719476736 x.Time&&((x.Laps==0)&& !x.Out))&&(!((x.Time==0)&&(inR 1 64 x.Laps&& !x.Out))&& !((x.Time==0)&&((x.Laps==0)&&x.Out))))=b;cases b<;>exact Qa _
  .unfold F_hj;simp only[Qa6,Vn];exact Qa _
 have O:Ev (λn=>iter (F_gl n c) n 0) (bif c.Categories.all catS then Ctl.cont ()else Ctl.done false):=by
  refine Yr c.Categories _ _ _ (by have:=w.cat;omega) (λi x a=>?_) ?_
  .unfold F_gl;simp only[a.lt,Vm,a.ix,XI,a.nx];refine Ea (Ql λ_=>Ql λ_=>Qa _) ?_;have e:(decide (x.From<0)||(decide (x.To<x.From)||decide (120<x.To)))= !catS x:=by
    unfold catS inR;rw[XX];simp;omega
   rw[e];cases catS x<;>exact Qa _
  .unfold F_gl;simp only[Qa6,Vn];exact Qa _
 have N:Ev (λn=>iter (F_bu n c) n 0) (bif c.Prizes.all (prizeS c)&&decide ((c.Prizes.map prizeKey).Nodup)then Ctl.cont ()else Ctl.done false):=by
  have first:∀x:Prize,Ev (λn=>((F_b n x.Distance 0 (i64.wrap ((c.Distances.length:Int)-1))).bind λr=>(bif (!r)then some true else(F_b n x.Category (-1) (i64.wrap ((c.Categories.length:Int)-1))).bind λt=>(bif (!t)then some true else(F_b n x.Rank 1 4000).bind λu=>(bif (!u)then some true else(F_b n x.Amount 1 1125899906842624).bind λp=>some (!p)))):Option Bool)) (!prizeS c x):=by
   intro x;rw[QaE w.dist,QaE w.cat];refine Ea (Jm _ _ _) (Ew (Ql λ_=>Ea (Jm _ _ _) (Ql λ_=>Ea (Jm _ _ _) (Ql λ_=>Ea (Jm _ _ _) (Qa _)))) ?_);unfold prizeS;simp only[Bool.not_and]
  have inner:∀(i:Nat) (x:Prize),At c.Prizes i x->Ev (λn=>iter (F_fo n c (i:Int) x) n 0) (bif ((c.Prizes.take i).map prizeKey).contains (prizeKey x)then Ctl.done (Ctl.done (Ctl.done false))else Ctl.cont ()):=by
   intro i x a;have F:=a.lt';refine Qg4 c.Prizes i prizeKey (prizeKey x) _ _ (by have:=w.prize;omega) (by omega) (λj y E l g=>?_) (λj y E l g=>?_) ?_
   .unfold F_fo;rw[QA (show(j:Int)<(i:Int)by omega)];simp only[Vm,l.ix,XI,l.nx];have h:¬(y.Distance=x.Distance/\y.Category=x.Category/\y.Rank=x.Rank):=by simpa[prizeKey]using g
    refine Ea (Ei λ_=>Ei λ_=>Qa _) ?_;have e:((y.Distance==x.Distance)&&((y.Category==x.Category)&&(y.Rank==x.Rank)))=false:=by
     rw[VI];intro z;exact h (by simpa using z)
    rw[e];exact Qa _
   .unfold F_fo;rw[QA (show(j:Int)<(i:Int)by omega)];simp only[Vm,l.ix,XI,l.nx];have h:(y.Distance=x.Distance/\y.Category=x.Category/\y.Rank=x.Rank):=by simpa[prizeKey]using g
    refine Ea (Ei λ_=>Ei λ_=>Qa _) ?_;have e:((y.Distance==x.Distance)&&((y.Category==x.Category)&&(y.Rank==x.Rank)))=true:=by simpa using h
    rw[e];exact Qa _
   .unfold F_fo;rw[Qy (show¬(i:Int)<(i:Int)by omega)];exact Qa _
  refine Qk1 c.Prizes (prizeS c) prizeKey _ _ (by have:=w.prize;omega) (λi x a d g=>?_) (λi x a d=>?_) (λi x a d g=>?_) ?_
  .unfold F_bu;simp only[a.lt,Vm,a.ix,XI,a.nx];have f:=first x;rw[d]at f
   have k:=inner i x a;rw[g]at k;exact Ea f (Qs (Ea k (Qa _)))
  .unfold F_bu;simp only[a.lt,Vm,a.ix,XI,a.nx];have f:=first x;rw[d]at f
   exact Ea f (Qa _)
  .unfold F_bu;simp only[a.lt,Vm,a.ix,XI,a.nx];have f:=first x;rw[d]at f
   have k:=inner i x a;rw[g]at k;exact Ea f (Qs (Ea k (Qa _)))
  .unfold F_bu;simp only[Qa6,Vn];exact Qa _
 refine Ea G ?_;cases c.Mats.all (λm=>inR 1 3 m.Kind)with
 |false=>exact Qa _
 |true=>
 refine Ea H ?_;simp only[Vw];rw[<- Bool.and_assoc];cases(c.Legs.all (legS ((c.Mats.length:Int)-1))&&decide ((c.Legs.map legKey).Nodup))with
 |false=>exact Qa _
 |true=>
 refine Ea J ?_;simp only[Vw];cases c.Distances.all (distS ((c.Mats.length:Int)-1))with
 |false=>exact Qa _
 |true=>
 refine Ea M ?_;simp only[Vw];cases c.Waves.all (λw=>inR 0 1099511627776 w.Gun)with
 |false=>exact Qa _
 |true=>
 refine Ea L ?_;simp only[Vw];cases c.Offences.all offS with
 |false=>exact Qa _
 |true=>
 refine Ea O ?_;simp only[Vw];cases c.Categories.all catS with
 |false=>exact Qa _
 |true=>
 refine Ea N ?_;simp only[Vw];rw[<- Bool.and_assoc];cases(c.Prizes.all (prizeS c)&&decide ((c.Prizes.map prizeKey).Nodup))with
 |false=>exact Qa _
 |true=>
 simp only[Vw];refine Ea (v:=lastS c) ?_ (Qa _);refine Ea (Jm _ _ _) ((Ei λ_=>Ea (Jm _ _ _) (Ei λ_=>Ea (Jm _ _ _) (Ei λ_=>Ea (Jm _ _ _) (Ei λ_=>Ea (Jm _ _ _) (Ei λ_=>Ea (Jm _ _ _) (Ei λ_=>Ea (Jm _ _ _) (Qa _))))))).eq ?_);unfold lastS;simp only[Bool.and_assoc]
mutual
def cN:Cond->Nat
 |⟨_,_,_,ps⟩=>1+cNs ps
def cNs:List Cond->Nat
 |[]=>0
 |c::r=>cN c+cNs r
end
theorem QbK(c:Cond):cN c=1+cNs c.Parts:=by cases c;rfl
mutual
def cD:Nat->Cond->Bool
 |d,⟨_,_,_,ps⟩=>cDs d ps
def cDs:Nat->List Cond->Bool
 |_,[]=>true
 |d,c::r=>decide (d<=16)&&(cD (d+1) c&&cDs d r)
end
theorem Qih(d:Nat)(c:Cond):cD d c=cDs d c.Parts:=by cases c;rfl
def zeroC(c:Cond):Bool:=(c.Kind==0)&&((c.Var==0)&&((c.N==0)&&((c.Parts.length:Int)==0)))
mutual
def sNp:Step->Nat
 |⟨_,_,_,t,e⟩=>1+sNs t+sNs e
def sNs:List Step->Nat
 |[]=>0
 |s::r=>sNp s+sNs r
end
theorem QeV(s:Step):sNp s=1+sNs s.Then+sNs s.Else:=by cases s;rfl
mutual
def sC:Step->Nat
 |⟨_,_,c,t,e⟩=>(bif zeroC c then 0 else cN c)+sCs t+sCs e
def sCs:List Step->Nat
 |[]=>0
 |s::r=>sC s+sCs r
end
theorem QdR(s:Step):sC s=(bif zeroC s.Cond then 0 else cN s.Cond)+sCs s.Then+sCs s.Else:=by cases s;rfl
mutual
def sDp:Nat->Step->Bool
 |d,⟨_,_,c,t,e⟩=>(zeroC c||cD 1 c)&&(sDs d t&&sDs d e)
def sDs:Nat->List Step->Bool
 |_,[]=>true
 |d,s::r=>decide (d<=16)&&(sDp (d+1) s&&sDs d r)
end
theorem Qgc(d:Nat)(s:Step):sDp d s=((zeroC s.Cond||cD 1 s.Cond)&&(sDs d s.Then&&sDs d s.Else)):=by cases s;rfl
mutual
def sZ:Step->Nat
 |⟨_,_,c,t,e⟩=>2+cN c+sZs t+sZs e
def sZs:List Step->Nat
 |[]=>0
 |s::r=>sZ s+sZs r
end
theorem QeU(s:Step):sZ s=2+cN s.Cond+sZs s.Then+sZs s.Else:=by cases s;rfl
def fS:Uj->Nat
 |.ctyping_step x=>sNp x.Step
 |.ctyping_cond _=>0
def fC:Uj->Nat
 |.ctyping_step x=>sC x.Step
 |.ctyping_cond x=>cN x.Cond
def fD(d:Nat):Uj->Bool
 |.ctyping_step x=>sDp d x.Step
 |.ctyping_cond x=>cD d x.Cond
def fZ:Uj->Nat
 |.ctyping_step x=>sZ x.Step
 |.ctyping_cond x=>cN x.Cond
def fSs(l:List Uj):Nat:=(l.map fS).sum
def fCs(l:List Uj):Nat:=(l.map fC).sum
def fZs(l:List Uj):Nat:=(l.map fZ).sum
def fwf:Uj->Prop
 |.ctyping_step x=>Step.wf x.Step
 |.ctyping_cond x=>Cond.wf x.Cond
def ofStep(s:Step):Uj:=.ctyping_step {Step:=s}
def ofCond(c:Cond):Uj:=.ctyping_cond {Cond:=c}
theorem Qa3:∀l:List Step,fSs (l.map ofStep)=sNs l
 |[]=>rfl
 |s::r=>by
  have:=Qa3 r;simp[fSs,Vh,List.sum_cons]at this⊢;rw[this];rfl
theorem Qa4:∀l:List Step,fCs (l.map ofStep)=sCs l
 |[]=>rfl
 |s::r=>by
  have:=Qa4 r;simp[fCs,Vh,List.sum_cons]at this⊢;rw[this];rfl
theorem QbG:∀l:List Step,fZs (l.map ofStep)=sZs l
 |[]=>rfl
 |s::r=>by
  have:=QbG r;simp[fZs,Vh,List.sum_cons]at this⊢;rw[this];rfl
theorem Qee:∀l:List Cond,fSs (l.map ofCond)=0
 |[]=>rfl
 |s::r=>by
  have:=Qee r;simp only[fSs,Vh,List.sum_cons]at this⊢;rw[this];rfl
theorem Qeg:∀l:List Cond,fCs (l.map ofCond)=cNs l
 |[]=>rfl
 |s::r=>by
  have:=Qeg r;simp[fCs,Vh,List.sum_cons]at this⊢;rw[this];rfl
theorem Qec:∀l:List Cond,fZs (l.map ofCond)=cNs l
 |[]=>rfl
 |s::r=>by
  have:=Qec r;simp[fZs,Vh,List.sum_cons]at this⊢;rw[this];rfl
theorem Qcu(d:Nat):∀l:List Step,sDs d l=((l.map ofStep).isEmpty||(decide (d<=16)&&(l.map ofStep).all (fD (d+1))))
 |[]=>rfl
 |s::r=>by
  rw[sDs,Qcu d r];simp[Vh,List.all_cons];rw[show fD (d+1) (ofStep s)=sDp (d+1) s from rfl]
  grind
theorem QgE(d:Nat):∀l:List Cond,cDs d l=((l.map ofCond).isEmpty||(decide (d<=16)&&(l.map ofCond).all (fD (d+1))))
 |[]=>rfl
 |s::r=>by
  rw[cDs,QgE d r];simp[Vh,List.all_cons];rw[show fD (d+1) (ofCond s)=cD (d+1) s from rfl]
  grind
theorem Y8{c:Cond}(h:Cond.wf c):c.Parts.length<=1048576/\ ∀x∈c.Parts,Cond.wf x:=by
 cases c
 grind[Cond.wf,QcM]
theorem Y6{s:Step}(h:Step.wf s):Cond.wf s.Cond/\(s.Then.length<=1048576/\ ∀x∈s.Then,Step.wf x)/\(s.Else.length<=1048576/\ ∀x∈s.Else,Step.wf x):=by
 cases s
 grind[Step.wf,QcB]
theorem Qfe(n:Nat)(c:Cond):F_ah n {Cond:=c}=some (zeroC c):=by
 unfold F_ah zeroC
 grind
theorem Qek(n:Nat)(c:Cond):F_ay n c=some (zeroC c):=by
 unfold F_ay zeroC
 grind
theorem Qei(l:List Step)(a:l.length<=140737488):Ev (λn=>F_ar n l) (l.map ofStep):=by
 exact Ea (Qad l ofStep a) (Qa _)
theorem Qkr(l:List Cond)(a:l.length<=140737488):Ev (λn=>F_ev n l) (l.map ofCond):=by
 exact Ea (Qad l ofCond a) (Qa _)
def stepParts(s:Step):List Uj:=s.Then.map ofStep++s.Else.map ofStep
theorem Qbj(s:Step)(h:Step.wf s):Ev (λn=>F_aa n {Step:=s}) (stepParts s):=by
 obtain⟨_,⟨d,_⟩,⟨a,_⟩⟩:=Y6 h;refine Ea (Qei s.Then (by omega)) (Ea (Qei s.Else (by omega)) (QO (QaI _ _ (by simp;omega)) (Qa _)))
theorem Qcw(c:Cond)(h:Cond.wf c):Ev (λn=>F_w n {Cond:=c}) (c.Parts.map ofCond):=by
 obtain⟨a,_⟩:=Y8 h;exact Ea (Qkr c.Parts (by omega)) (Qa _)
def okL(l:List Uj)(d:Nat)(st co:Int):Bool:=l.isEmpty||(decide (d<=16)&&(l.all (fD (d+1))&&(decide (st+fSs l<=64)&&decide (co+fCs l<=256))))
def okR(l:List Uj)(d:Nat)(st co:Int):Bool:=l.isEmpty||(l.all (fD (d+1))&&(decide (st+fSs l<=64)&&decide (co+fCs l<=256)))
def okF(f:Uj)(d:Nat)(st co:Int):Bool:=fD (d+1) f&&(decide (st+fS f<=64)&&decide (co+fC f<=256))
theorem QgD(f:Uj)(l:List Uj):fSs (f::l)=fS f+fSs l:=rfl
theorem QgF(f:Uj)(l:List Uj):fCs (f::l)=fC f+fCs l:=rfl
theorem QgC(f:Uj)(l:List Uj):fZs (f::l)=fZ f+fZs l:=rfl
theorem Qed(l m:List Uj):fSs (l++m)=fSs l+fSs m:=by simp[fSs]
theorem Qef(l m:List Uj):fCs (l++m)=fCs l+fCs m:=by simp[fCs]
theorem Qeb(l m:List Uj):fZs (l++m)=fZs l+fZs m:=by simp[fZs]
theorem QjS(f:Uj)(r:List Uj)(d:Nat)(a e:Int):okR (f::r) d a e=(okF f d a e&&okR r d (a+fS f) (e+fC f)):=by
 unfold okR okF;rw[QgD,QgF];cases r with
 |nil=>simp[fSs,fCs]
 |cons g r=>
  grind
theorem Qfz(l:List Uj)(d:Nat)(a e:Int)(h:a<=64)(g:e<=256):okL l d a e=true↔(l.isEmpty||(decide (d<=16)&&l.all (fD (d+1))))=true/\a+fSs l<=64/\e+fCs l<=256:=by
 unfold okL;cases l with
 |nil=>simp[fSs,fCs,h,g]
 |cons f r=>
  grind
theorem QdN(s:Step)(d:Nat):((stepParts s).isEmpty||(decide (d<=16)&&(stepParts s).all (fD (d+1))))=(sDs d s.Then&&sDs d s.Else):=by
 rw[Qcu,Qcu];unfold stepParts;rw[List.all_append];cases e:s.Then<;>cases a:s.Else<;>simp<;>(grind)
def Cnt(R:Nat->List Uj->Int->Uh->Option (Uh×Bool))(l:List Uj)(d:Nat)(st co:Int):Prop:=
 ∃c':Uh,Ev (λn=>R n l (d:Int) {steps:=st,conds:=co}) (c',okL l d st co)/\(okL l d st co=true->c'={steps:=st+fSs l,conds:=co+fCs l})
theorem Qhz{R:Nat->List Uj->Int->Uh->Option (Uh×Bool)}{l:List Uj}{d:Nat}(hd:d<=16){i:Nat}{f:Uj}(T:At l i f)(hw:fwf f)
  (Y:∀l' d' a e,fZs l'<fZ f->l'.length<=2097152->(∀f∈l',fwf f)->d'<=17->0<=a->a<=66->(a<=65\/ ∀f∈l',∃c,f=ofCond c)->0<=e->e<=256->Cnt R l' d' a e){a e:Int}(h0:0<=a)(ac:a<=66)(B:a<=65\/ ∃c,f=ofCond c)(h2:0<=e)(h3:e<=256):
  ∃c':Uh,Ev (λn=>F_eo n l (d:Int) (R n) ({steps:=a,conds:=e},(i:Int))) (bif okF f d a e then .cont (c',((i+1:Nat):Int))else .done (.done (c',false)))/\(okF f d a e=true->c'={steps:=a+fS f,conds:=e+fC f}):=by
 unfold F_eo;simp only[T.lt,Vm,T.ix,XI,T.nx];have ed:i64.wrap ((d:Int)+1)=((d+1:Nat):Int):=Yc (by omega);cases f with
 |ctyping_step x=>
  obtain⟨s⟩:=x;have h1:a<=65:=by
   rcases B with h|⟨c,h⟩
   .exact h
   .cases h
  have k:Step.wf s:=hw;obtain⟨wc,⟨ae,aa⟩,⟨ad,X⟩⟩:=Y6 k;have M:i64.wrap (a+1)=a+1:=Qz (by omega) (by omega);simp only[Uj.elim,Qfe,XI,M];have hc:∃t:Uh,Ev (λn=>((bif (!zeroC s.Cond)then(R n [Uj.ctyping_cond {Cond:=s.Cond}] 0 {steps:=a+1,conds:=e}).bind λm=>some (m.1,(!m.2))else some ({steps:=a+1,conds:=e},false)):Option (Uh×Bool))) (t, !(zeroC s.Cond||(cD 1 s.Cond&&(decide (a+1<=64)&&decide (e+cN s.Cond<=256)))))/\
    ((zeroC s.Cond||(cD 1 s.Cond&&(decide (a+1<=64)&&decide (e+cN s.Cond<=256))))=true->t={steps:=a+1,conds:=e+((bif zeroC s.Cond then 0 else cN s.Cond:Nat):Int)}):=by
   cases H:zeroC s.Cond with
   |true=>
    simp_all[Qa]
   |false=>
    obtain⟨t,p,u⟩:=Y [ofCond s.Cond] 0 (a+1) e (by simp only[fZs,Vh,Vi,List.sum_cons,List.sum_nil];show cN s.Cond+0<sZ s;rw[QeU];omega) (by simp) (by intro g j;simp only[Vx]at j;subst j;exact wc) (by omega) (by omega) (by omega) (.inr (by intro g j;simp only[Vx]at j;exact⟨_,j⟩)) h2 h3;have ek:okL [ofCond s.Cond] 0 (a+1) e=(cD 1 s.Cond&&(decide (a+1<=64)&&decide (e+cN s.Cond<=256))):=by
     unfold okL;simp only[List.isEmpty_cons,Bool.false_or,List.all_cons,List.all_nil,Bool.and_true,fSs,fCs,Vh,Vi,List.sum_cons,List.sum_nil];rw[show fD (0+1) (ofCond s.Cond)=cD 1 s.Cond from rfl,show fS (ofCond s.Cond)=0 from rfl,show fC (ofCond s.Cond)=cN s.Cond from rfl];simp
    rw[ek]at p u;refine⟨t,Ea p (Qa _),λh=>?_⟩;rw[u h];simp[fSs,fCs,show fS (ofCond s.Cond)=0 from rfl,show fC (ofCond s.Cond)=cN s.Cond from rfl]
  obtain⟨t,p,u⟩:=hc;generalize hb:(zeroC s.Cond||(cD 1 s.Cond&&(decide (a+1<=64)&&decide (e+cN s.Cond<=256))))=b at p u;have N:okF (Uj.ctyping_step {Step:=s}) d a e=(sDp (d+1) s&&(decide (a+sNp s<=64)&&decide (e+sC s<=256))):=rfl;rw[N];cases b with
  |false=>
   have:(sDp (d+1) s&&(decide (a+sNp s<=64)&&decide (e+sC s<=256)))=false:=by
    rw[VI];intro hh;simp only[XV,Vo,Qgc,QeV,QdR]at hh;obtain⟨⟨L,_⟩,z2,z3⟩:=hh;cases H:zeroC s.Cond with
    |true=>rw[H]at hb;cases hb
    |false=>
     rw[H]at hb L z3;simp only[Bool.false_or]at hb L;rw[L]at hb;simp only[Vn]at z3;rw[QA (show a+1<=64 by omega),QA (show e+(cN s.Cond:Int)<=256 by omega)]at hb;cases hb
   rw[this];exact⟨t,Ea p (Qa _),λh=>by cases h⟩
  |true=>
   obtain rfl:=u rfl;by_cases r:64<a+1
   .have:(sDp (d+1) s&&(decide (a+sNp s<=64)&&decide (e+sC s<=256)))=false:=by
     rw[Qy (show¬a+(sNp s:Int)<=64 by rw[QeV];omega)];simp
    rw[this];refine⟨{steps:=a+1,conds:=e+((bif zeroC s.Cond then 0 else cN s.Cond:Nat):Int)},Ea p ?_,λh=>by cases h⟩;simp only[Xg,Vn];refine Ea (v:=(_,true)) ?_ (Qa _);rw[QA r];exact Qa _
   by_cases z:256<e+((bif zeroC s.Cond then 0 else cN s.Cond:Nat):Int)
   .have:(sDp (d+1) s&&(decide (a+sNp s<=64)&&decide (e+sC s<=256)))=false:=by
     rw[Qy (show¬e+(sC s:Int)<=256 by rw[QdR];omega)];simp
    rw[this];refine⟨{steps:=a+1,conds:=e+((bif zeroC s.Cond then 0 else cN s.Cond:Nat):Int)},Ea p ?_,λh=>by cases h⟩;simp only[Xg,Vn];refine Ea (v:=(_,true)) ?_ (Qa _);rw[Qy r,QA z];exact Qa _
   obtain⟨G,w,E⟩:=Y (stepParts s) (d+1) (a+1) (e+((bif zeroC s.Cond then 0 else cN s.Cond:Nat):Int)) (by
     unfold stepParts;rw[Qeb,QbG,QbG];show _<sZ s;rw[QeU];omega) (by unfold stepParts;simp;omega) (by
     intro g j;unfold stepParts at j;rcases Vz.1 j with j|j
     .obtain⟨y,F,rfl⟩:=Xe.1 j;exact aa y F
     .obtain⟨y,F,rfl⟩:=Xe.1 j;exact X y F) (by omega) (by omega) (by omega) (.inl (by omega)) (by omega) (by omega)
   have W:okL (stepParts s) (d+1) (a+1) (e+((bif zeroC s.Cond then 0 else cN s.Cond:Nat):Int))=(sDp (d+1) s&&(decide (a+sNp s<=64)&&decide (e+sC s<=256))):=by
    rw[XX,Qfz _ _ _ _ (by omega) (by omega),QdN];simp only[XV,Vo,Qgc,QeV,QdR];have P:fSs (stepParts s)=sNs s.Then+sNs s.Else:=by unfold stepParts;rw[Qed,Qa3,Qa3]
    have e3:fCs (stepParts s)=sCs s.Then+sCs s.Else:=by unfold stepParts;rw[Qef,Qa4,Qa4]
    rw[P,e3];have O:(zeroC s.Cond||cD 1 s.Cond)=true:=by
     cases H:zeroC s.Cond with
     |true=>rfl
     |false=>
      rw[H]at hb;simp only[Bool.false_or,XV]at hb;rw[hb.1];rfl
    constructor
    .rintro⟨q,Q,J⟩;exact⟨⟨O,q⟩,by omega,by omega⟩
    .rintro⟨⟨_,q⟩,Q,J⟩;exact⟨q,by omega,by omega⟩
   rw[W]at w E;refine⟨G,Ea p ?_,λh=>?_⟩
   .simp only[Xg,Vn];refine Ea (v:=(G, !(sDp (d+1) s&&(decide (a+sNp s<=64)&&decide (e+sC s<=256))))) ?_ ?_
    .rw[Qy r,Qy z,ed];exact Ea (Qbj s k) (Ea w (Qa _))
    .cases(sDp (d+1) s&&(decide (a+sNp s<=64)&&decide (e+sC s<=256)))<;>exact Qa _
   .rw[E h];have P:fSs (stepParts s)=sNs s.Then+sNs s.Else:=by unfold stepParts;rw[Qed,Qa3,Qa3]
    have e3:fCs (stepParts s)=sCs s.Then+sCs s.Else:=by unfold stepParts;rw[Qef,Qa4,Qa4]
    rw[P,e3,show fS (Uj.ctyping_step {Step:=s})=sNp s from rfl,show fC (Uj.ctyping_step {Step:=s})=sC s from rfl,QeV,QdR];congr 1<;>omega
 |ctyping_cond x=>
  obtain⟨c⟩:=x;have k:Cond.wf c:=hw;obtain⟨ab,V⟩:=Y8 k;have M:i64.wrap (e+1)=e+1:=Qz (by omega) (by omega);simp only[Uj.elim,M];have N:okF (Uj.ctyping_cond {Cond:=c}) d a e=(cD (d+1) c&&(decide (a<=64)&&decide (e+cN c<=256))):=by
   show(cD (d+1) c&&(decide (a+((0:Nat):Int)<=64)&&decide (e+cN c<=256)))=_;rw[show a+((0:Nat):Int)=a by omega]
  rw[N];by_cases r:64<a
  .have:(cD (d+1) c&&(decide (a<=64)&&decide (e+cN c<=256)))=false:=by
    rw[Qy (show¬a<=64 by omega)];simp
   rw[this];refine⟨{steps:=a,conds:=e+1},?_,λh=>by cases h⟩;refine Ea (v:=(_,true)) ?_ (Qa _);rw[QA r];exact Qa _
  by_cases z:256<e+1
  .have:(cD (d+1) c&&(decide (a<=64)&&decide (e+cN c<=256)))=false:=by
    rw[Qy (show¬e+(cN c:Int)<=256 by rw[QbK];omega)];simp
   rw[this];refine⟨{steps:=a,conds:=e+1},?_,λh=>by cases h⟩;refine Ea (v:=(_,true)) ?_ (Qa _);rw[Qy r,QA z];exact Qa _
  obtain⟨G,w,E⟩:=Y (c.Parts.map ofCond) (d+1) a (e+1) (by
    rw[Qec];show _<cN c;rw[QbK];omega) (by simp;omega) (by
    intro g j;obtain⟨y,F,rfl⟩:=Xe.1 j;exact V y F) (by omega) (by omega) (by omega) (.inl (by omega)) (by omega) (by omega)
  have W:okL (c.Parts.map ofCond) (d+1) a (e+1)=(cD (d+1) c&&(decide (a<=64)&&decide (e+cN c<=256))):=by
   rw[XX,Qfz _ _ _ _ (by omega) (by omega), <- QgE,Qee,Qeg];simp only[XV,Vo,Qih,QbK];constructor
   iterate 2 rintro⟨q,Q,J⟩;exact⟨q,by omega,by omega⟩
  rw[W]at w E;refine⟨G,?_,λh=>?_⟩
  .refine Ea (v:=(G, !(cD (d+1) c&&(decide (a<=64)&&decide (e+cN c<=256))))) ?_ ?_
   .rw[Qy r,Qy z,ed];exact Ea (Qcw c k) (Ea w (Qa _))
   .cases(cD (d+1) c&&(decide (a<=64)&&decide (e+cN c<=256)))<;>exact Qa _
  .rw[E h,Qee,Qeg,show fS (Uj.ctyping_cond {Cond:=c})=0 from rfl,show fC (Uj.ctyping_cond {Cond:=c})=cN c from rfl,QbK];congr 1;omega
theorem Qkq:∀(m:Nat) (l:List Uj) (d:Nat) (a e:Int),fZs l<=m->l.length<=2097152->(∀f∈l,fwf f)->d<=17->0<=a->a<=66->(a<=65\/ ∀f∈l,∃c,f=ofCond c)->0<=e->e<=256->Cnt F_d l d a e:=by
 intro m
 induction m using Nat.strongRecOn with
 |_ m z=>
 intro l d a e hm hl hw hd h0 T u V h3;unfold Cnt;have J:∀c:Uh,(∃g:Uh,Ev (λn=>B_d (F_d n) n l (d:Int) c) (g,okL l d a e)/\(okL l d a e=true->g={steps:=a+fSs l,conds:=e+fCs l}))->∃g:Uh,Ev (λn=>F_d n l (d:Int) c) (g,okL l d a e)/\(okL l d a e=true->g={steps:=a+fSs l,conds:=e+fCs l}):=by
  rintro c ⟨g,q1,Q⟩;exact⟨g,Yw q1,Q⟩
 refine J _ ?_;unfold B_d;cases k:l with
 |nil=>
  refine⟨{steps:=a,conds:=e},?_,λ_=>by simp[fSs,fCs]⟩;refine Ea (v:=Ctl.cont {steps:=a,conds:=e}) (EvI.ev (Ej ?_)) (Qa _);exact Qa _
 |cons f0 r0=>
 rw[<- k];have B:l.isEmpty=false:=by rw[k];rfl
 have N:0<l.length:=by rw[k];simp
 by_cases j:d<=16
 rotate_left
 .have:okL l d a e=false:=by unfold okL;rw[B,Qy j];rfl
  rw[this];refine⟨{steps:=a,conds:=e},?_,λh=>by cases h⟩;rw[QA (show(0:Int)<(l.length:Int)by omega),QA (show(16:Int)<(d:Int)by omega)];exact Ea (Qa _) (Qa _)
 have H:okL l d a e=okR l d a e:=by unfold okL okR;rw[QA j,Vw]
 rw[H];have loop:∀(r:List Uj) (i:Nat) (a e:Int),l.drop i=r->i<=l.length->0<=a->a<=66->(a<=65\/ ∀f∈l,∃c,f=ofCond c)->0<=e->e<=256->
   ∃g:Uh,EvI (λn=>F_eo n l (d:Int) (F_d n)) ({steps:=a,conds:=e},(i:Int)) (bif okR r d a e then Ctl.cont g else Ctl.done (g,false))/\(okR r d a e=true->g={steps:=a+fSs r,conds:=e+fCs r}):=by
  intro r
  induction r with
  |nil=>
   intro i a e w M _ _ _ _ _;refine⟨{steps:=a,conds:=e},Ej ?_,λ_=>by simp[fSs,fCs]⟩;unfold F_eo;simp only[QS w M,Vn];exact Qa _
  |cons f r G=>
   intro i a e w M g0 Y t g2 g3;obtain⟨s,y⟩:=Qt (by omega) w;have aa:fZ f<=fZs l:=by
    have:∀(l:List Uj),f∈l->fZ f<=fZs l:=by
     intro l
     induction l with
     |nil=>intro h;cases h
     |cons x l z=>
      intro h;rw[QgC];rcases X5.1 h with rfl|h
      .omega
      .have:=z h;omega
    exact this l s.mem
   obtain⟨g,p,F⟩:=Qhz (R:=F_d) j s (hw f s.mem) (λL W a e k1 X k3 O k5 P E k7 k8=>z (fZs L) (by omega) L W a e (XS _) X k3 O k5 P E k7 k8) g0 Y (t.imp id λh=>h f s.mem) g2 g3;rw[QjS];cases q:okF f d a e with
   |false=>
    rw[q]at p;exact⟨g,Ej p,λh=>by cases h⟩
   |true=>
    rw[q]at p;obtain rfl:=F q;have hb:=by
     unfold okF at q;simp only[XV,Vo]at q;exact q.2
    obtain⟨c2,u1,u2⟩:=G (i+1) (a+fS f) (e+fC f) y (by have:=s.lt';omega) (by omega) (by omega) (.inl (by omega)) (by omega) (by omega);refine⟨c2,Ex p u1,λh=>?_⟩;rw[u2 (by simpa using h),QgD,QgF];congr 1<;>omega
 obtain⟨g,p,F⟩:=loop l 0 a e rfl (XT _) h0 T u V h3;refine⟨g,?_,F⟩;refine Ea (v:=false) ?_ (Qs (Ea p.ev ?_))
 .rw[QA (show(0:Int)<(l.length:Int)by omega),Qy (show¬(16:Int)<(d:Int)by omega)];exact Qa _
 .cases okR l d a e<;>exact Qa _
mutual
def vaC:Cond->Bool
 |⟨k,v,n,ps⟩=>bif k==1 then inR 1 3 v&&(inR 0 10000 n&&((ps.length:Int)==0))else
   bif k==4 then((v==0)&&(n==0))&&(((ps.length:Int)==1)&&vaCs ps)else
   bif (k==2)||(k==3)then((v==0)&&(n==0))&&((decide (0<(ps.length:Int))&&decide ((ps.length:Int)<=16))&&vaCs ps)else false
def vaCs:List Cond->Bool
 |[]=>true
 |c::r=>vaC c&&vaCs r
end
theorem QjD(c:Cond):vaC c=bif c.Kind==1 then inR 1 3 c.Var&&(inR 0 10000 c.N&&((c.Parts.length:Int)==0))else
   bif c.Kind==4 then((c.Var==0)&&(c.N==0))&&(((c.Parts.length:Int)==1)&&vaCs c.Parts)else
   bif (c.Kind==2)||(c.Kind==3)then((c.Var==0)&&(c.N==0))&&((decide (0<(c.Parts.length:Int))&&decide ((c.Parts.length:Int)<=16))&&vaCs c.Parts)else false:=by cases c;rfl
theorem Qfs:∀l:List Cond,vaCs l=l.all vaC
 |[]=>rfl
 |c::r=>by rw[vaCs,List.all_cons,Qfs r]
mutual
def vaS:Step->Bool
 |⟨k,b,c,t,e⟩=>bif k==1 then inR 1 5 b&&(zeroC c&&(((t.length:Int)==0)&&((e.length:Int)==0)))else
   bif k==2 then(b==0)&&(vaC c&&(decide (0<(t.length:Int))&&(vaSs t&&vaSs e)))else false
def vaSs:List Step->Bool
 |[]=>true
 |s::r=>vaS s&&vaSs r
end
theorem QjC(s:Step):vaS s=bif s.Kind==1 then inR 1 5 s.By&&(zeroC s.Cond&&(((s.Then.length:Int)==0)&&((s.Else.length:Int)==0)))else
   bif s.Kind==2 then(s.By==0)&&(vaC s.Cond&&(decide (0<(s.Then.length:Int))&&(vaSs s.Then&&vaSs s.Else)))else false:=by cases s;rfl
theorem Qfr:∀l:List Step,vaSs l=l.all vaS
 |[]=>rfl
 |c::r=>by rw[vaSs,List.all_cons,Qfr r]
def fV:Uj->Bool
 |.ctyping_step x=>vaS x.Step
 |.ctyping_cond x=>vaC x.Cond
theorem QhD(l:List Cond):(l.map ofCond).any (λf=> !fV f)= !vaCs l:=by
 rw[Qfs,List.not_all_eq_any_not,List.any_map];rfl
theorem Qce(l:List Step):(l.map ofStep).any (λf=> !fV f)= !vaSs l:=by
 rw[Qfr,List.not_all_eq_any_not,List.any_map];rfl
theorem Qfc{R:Nat->List Uj->Option Bool}(c:Cond)(g:Cond.wf c)(h:Ev (λn=>R n (c.Parts.map ofCond)) (!vaCs c.Parts)):
  Ev (λn=>F_ez (R n) n {Cond:=c}) (vaC c):=by
 rw[QjD];refine Ea (Ei λ_=>Qa _) (QaK (λ_=>?_) (λk=>?_))
 .exact Ea (Ea (QF _ _ _) (Ei λ_=>Ea (QF _ _ _) (Ei λ_=>Qa _))) (Qa _)
 .have fin:∀b,Ev (λn=>(bif b then(F_w n {Cond:=c}).bind λd=>(R n d).bind λf=>some (!f)else some false).bind λa=>some a) (b&&vaCs c.Parts):=by
   intro b;refine Ea ((Ei λ_=>Ea (Qcw c g) (Ea h (Qa _)))) ((Qa _).eq (by simp))
  cases l:(c.Kind==4)with
  |true=>
   cases j:((c.Var==0)&&(c.N==0))with
   |true=>
    grind
   |false=>
    simp_all
  |false=>
   cases i:((c.Kind==2)||(c.Kind==3))with
   |true=>
    have e:Ev (λn=>(bif (c.Kind==2)then some (c.Kind==2)else some (c.Kind==3))) true:=by
     refine EA ?_
     grind
    cases j:((c.Var==0)&&(c.N==0))with
    |true=>
     grind
    |false=>
     refine Ea (Ea e (Qa _)) ((fin _).eq (by simp))
   |false=>
    have e:Ev (λn=>(bif (c.Kind==2)then some (c.Kind==2)else some (c.Kind==3))) false:=by
     refine EA ?_
     grind
    grind
theorem Qht:∀(m:Nat) (l:List Uj),fZs l<=m->l.length<=2097152->(∀f∈l,fwf f)->Ev (λn=>F_v n l) (l.any λf=> !fV f):=by
 intro m
 induction m using Nat.strongRecOn with
 |_ m p=>
 intro l H L u;refine Yw ?_;show Ev (λn=>B_v (F_v n) n l) _;refine Ev.contains l _ (λn f=>F_gg (F_v n) n f) (by omega) λf r=>?_;have E:fZ f<=fZs l:=by
  have:∀(l:List Uj),f∈l->fZ f<=fZs l:=by
   intro l
   induction l with
   |nil=>simp
   |cons x l p=>
    intro h;rw[QgC]
    grind
  grind
 refine Ea (v:=fV f) ?_ (Qa _);have a:∀c:Cond,Cond.wf c->cNs c.Parts<fZ f->Ev (λn=>F_v n (c.Parts.map ofCond)) (!vaCs c.Parts):=by
  intro c i j;rw[<- QhD];obtain⟨J,z⟩:=Y8 i;refine p (fZs (c.Parts.map ofCond)) (by rw[Qec];omega) _ (XS _) (by simp;omega) ?_;intro g d;obtain⟨y,e,rfl⟩:=Xe.1 d;exact z y e
 cases f with
 |ctyping_cond x=>
  obtain⟨c⟩:=x;have i:Cond.wf c:=u _ r;exact Qfc c i (a c i (by show cNs c.Parts<cN c;rw[QbK];omega))
 |ctyping_step x=>
  obtain⟨s⟩:=x;have j:Step.wf s:=u _ r;obtain⟨t,⟨B,q⟩,⟨w,k⟩⟩:=Y6 j;show Ev _ (vaS s);rw[QjC];refine QaK (λ_=>?_) (λF=>QaK (λ_=>?_) λ_=>Qa _)
  .refine Ea (Ea (QF _ _ _) (Ei λ_=>?_)) (Qa _);simp only[Qfe];refine Ei λ_=>Ea (Qbj s j) ((Qa _).eq ?_);unfold stepParts;rw[XX];simp only[Vu,XV,X2,X0];omega
  .refine Ea (Ei λ_=>?_) (Qa _);refine Ea (Qfc s.Cond t (a s.Cond t (by show _<sZ s;rw[QeU,QbK];omega))) (Ei λ_=>Ei λ_=>?_);refine Ea (Qbj s j) (Ea (p (fZs (stepParts s)) ?_ _ (XS _) (by unfold stepParts;simp;omega) ?_) ((Qa _).eq ?_))
   .have:fZs (stepParts s)<sZ s:=by
     unfold stepParts;rw[Qeb,QbG,QbG,QeU];omega
    have G:fZ (Uj.ctyping_step {Step:=s})=sZ s:=rfl;omega
   .intro g d;rcases Vz.1 d with d|d
    .obtain⟨y,e,rfl⟩:=Xe.1 d;exact q y e
    .obtain⟨y,e,rfl⟩:=Xe.1 d;exact k y e
   .unfold stepParts;rw[List.any_append,Qce,Qce];simp
def goodT(l:List Step):Bool:=sDs 0 l&&(decide (sNs l<=64)&&decide (sCs l<=256))
def tiesE(l:List Step):Int:=bif goodT l then(bif l.isEmpty|| !vaSs l then 71 else 0)else 2
theorem QjT(l:List Step):okL (l.map ofStep) 0 0 0=goodT l:=by
 rw[XX,Qfz _ _ _ _ (by omega) (by omega), <- Qcu,Qa3,Qa4];unfold goodT
 grind
theorem QlG(l:List Step)(p:l.length<=1048576)(h:∀x∈l,Step.wf x):Ev (λn=>F_es n l) (tiesE l):=by
 refine Ea (Qei l (by omega)) (Ea ?_ (Qa _));have a:∀f∈l.map ofStep,fwf f:=by
  intro g i;obtain⟨y,j,rfl⟩:=Xe.1 i;exact h y j
 obtain⟨m,d,k⟩:=Qkq _ (l.map ofStep) 0 0 0 (XS _) (by simp;omega) a (by omega) (by omega) (by omega) (.inl (by omega)) (by omega) (by omega);rw[QjT]at d;have p3:=d.shift;refine Ea p3 ?_;unfold tiesE;cases goodT l with
 |false=>exact Qa _
 |true=>
  have e:(((l.map ofStep).length:Int)==0)=l.isEmpty:=by
   cases l<;>simp;omega
  rw[e];refine Ea (Ql λ_=>Ea (Qht _ _ (XS _) (by simp;omega) a) (Qa _)) ?_
  grind[Qce,Qa]
def condB(d:Nat):Int:=256*(18-(d:Int))+1000
theorem Qb1:∀(m:Nat) (c:Cond) (d:Nat),cN c<=m->d<=17->Cond.wf c->∃v:Int,Ev (λn=>F_h n c (d:Int)) v/\0<=v/\v<=condB d/\
  (d<=16/\cD (d+1) c=true/\cN c<=256->v=cN c)/\(¬(d<=16/\cD (d+1) c=true/\cN c<=256)->256<v):=by
 intro m
 induction m using Nat.strongRecOn with
 |_ m E=>
 intro c d hm hd hw;obtain⟨Y,u⟩:=Y8 hw;have H:∀{P:Int->Prop},(∃v:Int,Ev (λn=>B_h (F_h n) n c (d:Int)) v/\P v)->∃v:Int,Ev (λn=>F_h n c (d:Int)) v/\P v:=by
  rintro P ⟨v,j,e⟩;exact⟨v,Yw j,e⟩
 refine H ?_;unfold B_h;by_cases s:d<=16
 .rw[Qy (show¬(16:Int)<(d:Int)by omega)];have ed:i64.wrap ((d:Int)+1)=((d+1:Nat):Int):=Yc (by omega);have loop:∀(r:List Cond) (i:Nat) (a:Int),c.Parts.drop i=r->i<=c.Parts.length->0<=a->a<=condB d->
    ∃v:Int,EvI (λn=>F_gb n c (d:Int) (F_h n)) (a,(i:Int)) v/\0<=v/\v<=condB d/\
     (cDs (d+1) r=true/\a+cNs r<=256->v=a+cNs r)/\(¬(cDs (d+1) r=true/\a+cNs r<=256)->256<v):=by
   intro r
   induction r with
   |nil=>
    intro i a t J F j;refine⟨a,Ej ?_,F,j,λ_=>by simp[cNs],λh=>?_⟩
    .unfold F_gb;simp only[QS t J,Vn,XI];exact Qa _
    .simp[cDs,cNs]at h;omega
   |cons x r G=>
    intro i a t J F j;obtain⟨g,z⟩:=Qt (by omega) t;have hx:cN x<cN c:=by
     have:∀l:List Cond,x∈l->cN x<=cNs l:=by
      intro l
      induction l with
      |nil=>intro h;cases h
      |cons y l E=>
       intro h;rw[cNs];rcases X5.1 h with rfl|h
       .omega
       .have:=E h;omega
     have:=this _ g.mem;rw[QbK c];omega
    by_cases f:a<=256
    .obtain⟨v,q,O,L,k,M⟩:=E (cN x) (by omega) x (d+1) (XS _) (by omega) (u x g.mem);have hB:condB (d+1)+256=condB d:=by unfold condB;omega
     have X:condB d<=6000:=by unfold condB;omega
     have W:i64.wrap (a+v)=a+v:=Qz (by omega) (by omega);obtain⟨w,q1,Q,T,V,N⟩:=G (i+1) (a+v) z (by have:=g.lt';omega) (by omega) (by omega);refine⟨w,Ex ?_ q1,Q,T,?_,?_⟩
     .unfold F_gb;simp only[g.lt,Vm,QA f,XI,g.ix,g.nx,ed];refine Ea q ?_;rw[W];exact Qa _
     .rintro⟨e,B⟩;simp only[cDs,XV,Vo]at e;rw[cNs]at B⊢;have:=k ⟨e.1,e.2.1,by omega⟩;subst this;rw[V ⟨e.2.2,by omega⟩];omega
     .intro R;by_cases p:d+1<=16/\cD (d+1+1) x=true/\cN x<=256
      .have:=k p;subst this;refine N λe=>R ⟨?_,?_⟩
       .simp only[cDs,XV,Vo];exact⟨p.1,p.2.1,e.1⟩
       .rw[cNs];omega
      .have:=M p;exact N λe=>by omega
    .refine⟨a,Ej ?_,F,j,λh=>?_,λ_=>by omega⟩
     .unfold F_gb;simp only[g.lt,Vm,Qy f,XI,Vn];exact Qa _
     .omega
  obtain⟨v,q,O,L,k,M⟩:=loop c.Parts 0 1 rfl (XT _) (by omega) (by unfold condB;omega);refine⟨v,Qs (Ea q.ev (Qa _)),O,L,?_,?_⟩
  .rintro⟨_,e,B⟩;rw[Qih]at e;rw[QbK]at B⊢;rw[k ⟨e,by omega⟩];omega
  grind[Qih,QbK]
 .rw[QA (show(16:Int)<(d:Int)by omega)];refine⟨1000,QeI (Qa _),by omega,by unfold condB;omega,λh=>absurd h.1 s,λ_=>by omega⟩
def sizeB:Nat->Int
 |0=>10000
 |k+1=>3*sizeB k
theorem Qci:∀k,10000<=sizeB k
 |0=>Int.le_refl _
 |k+1=>by have:=Qci k;simp[sizeB];omega
theorem QjM{k:Nat}(h:k<=17):sizeB k<=1291401630000:=by
 have:∀j,j<=17->sizeB j<=1291401630000:=by decide+kernel
 grind
def goodL(d:Nat)(l:List Step):Prop:=sDs d l=true/\sNs l<=64/\sCs l<=256
theorem Qia:∀(m:Nat) (l:List Step) (d:Nat),sZs l<=m->d<=17->l.length<=1048576->(∀x∈l,Step.wf x)->∃a b:Int,Ev (λn=>F_j n l (d:Int)) (a,b)/\0<=a/\0<=b/\a<=sizeB (17-d)/\b<=sizeB (17-d)/\
  (goodL d l->a=sNs l/\b=sCs l)/\(¬goodL d l->64<a\/256<b):=by
 intro m
 induction m using Nat.strongRecOn with
 |_ m E=>
 intro l d hm hd hl hw;have ag:∀{P:Int->Int->Prop},(∃a b:Int,Ev (λn=>B_j (F_j n) n l (d:Int)) (a,b)/\P a b)->∃a b:Int,Ev (λn=>F_j n l (d:Int)) (a,b)/\P a b:=by
  rintro P ⟨a,b,t,j⟩;exact⟨a,b,Yw t,j⟩
 refine ag ?_;unfold B_j;by_cases w:0<l.length/\ ¬d<=16
 .rw[QA (show(0:Int)<(l.length:Int)by omega),QA (show(16:Int)<(d:Int)by omega)];have:=Qci (17-d);refine⟨1000,1000,Ea (Qa _) (QeI (Qa _)),by omega,by omega,by omega,by omega,λh=>?_,λ_=>by omega⟩;exfalso;cases l with
  |nil=>simp at w
  |cons x r=>
   have:=h.1;simp only[sDs,XV,Vo]at this;omega
 .have B:Ev (λn:Nat=>((bif decide (0<(l.length:Int))then some (decide (16<(d:Int)))else some false):Option Bool)) false:=by
   grind[Qa]
  have ed:i64.wrap ((d:Int)+1)=((d+1:Nat):Int):=Yc (by omega);have loop:∀(r:List Step) (i:Nat) (a b:Int),l.drop i=r->i<=l.length->0<=a->0<=b->a<=sizeB (17-d)->b<=sizeB (17-d)->
    ∃a' b':Int,EvI (λn=>F_dw n l (d:Int) (F_j n)) (a,b,(i:Int)) (a',b')/\0<=a'/\0<=b'/\a'<=sizeB (17-d)/\b'<=sizeB (17-d)/\
     (sDs d r=true/\a+sNs r<=64/\b+sCs r<=256->a'=a+sNs r/\b'=b+sCs r)/\(¬(sDs d r=true/\a+sNs r<=64/\b+sCs r<=256)->64<a'\/256<b'):=by
   intro r
   induction r with
   |nil=>
    intro i a b Q hi B t j L;refine⟨a,b,Ej ?_,B,t,j,L,λ_=>by simp[sNs,sCs],λh=>?_⟩
    .unfold F_dw;simp only[QS Q hi,Vn,XI];exact Qa _
    .simp[sDs,sNs,sCs]at h;omega
   |cons s r ae=>
    intro i a b Q hi B t j L;obtain⟨g,R⟩:=Qt (by omega) Q;have ah:=g.lt';have u:d<=16:=by
     omega
    have al:sZ s<=sZs l:=by
     have:∀l:List Step,s∈l->sZ s<=sZs l:=by
      intro l
      induction l with
      |nil=>intro h;cases h
      |cons y l E=>
       intro h;rw[sZs];rcases X5.1 h with rfl|h
       .omega
       .have:=E h;omega
     exact this _ g.mem
    by_cases e:a<=64/\b<=256
    .obtain⟨wc,⟨M,af⟩,⟨X,V⟩⟩:=Y6 (hw s g.mem);have ai:=QeU s;obtain⟨p,f,p1,p2,p3,p4,p5,G,Y⟩:=E (sZs s.Then) (by omega) s.Then (d+1) (XS _) (by omega) M af;obtain⟨y1,y2,q1,q2,q3,q4,q5,q6,q7⟩:=E (sZs s.Else) (by omega) s.Else (d+1) (XS _) (by omega) X V;have hB:sizeB (17-d)=3*sizeB (17-(d+1)):=by
      rw[show 17-d=(17-(d+1))+1 by omega];rfl
     have ab:=Qci (17-(d+1));have aj:=QjM (k:=17-d) (by omega);have hc:∃z:Int,0<=z/\z<=5608/\Ev (λn=>((bif (!zeroC s.Cond)then(idx l (i:Int)).bind λO=>(F_h n O.Cond 0).bind λac=>some (i64.wrap ((i64.wrap ((i64.wrap (b+f))+y2))+ac))else some (i64.wrap ((i64.wrap (b+f))+y2))):Option Int)) (b+f+y2+z)/\
       ((zeroC s.Cond||cD 1 s.Cond)=true/\(bif zeroC s.Cond then 0 else cN s.Cond)<=256->z=((bif zeroC s.Cond then 0 else cN s.Cond:Nat):Int))/\(¬((zeroC s.Cond||cD 1 s.Cond)=true/\(bif zeroC s.Cond then 0 else cN s.Cond)<=256)->256<z):=by
      have e1:i64.wrap (b+f)=b+f:=Qz (by omega) (by omega);have e2:i64.wrap (b+f+y2)=b+f+y2:=Qz (by omega) (by omega);cases hz:zeroC s.Cond with
      |true=>
       refine⟨0,by omega,by omega,?_,λ_=>by simp,λh=>absurd ⟨rfl,by simp⟩ h⟩;simp only[Xg,Vn,e1,e2];exact(Qa _).eq (by omega)
      |false=>
       obtain⟨v,u1,u2,u3,u4,u5⟩:=Qb1 _ s.Cond 0 (XS _) (by omega) wc;have N:v<=5608:=by unfold condB at u3;omega
       have e3:i64.wrap (b+f+y2+v)=b+f+y2+v:=Qz (by omega) (by omega);refine⟨v,u2,N,?_,λh=>?_,λh=>?_⟩
       .simp only[Xh,Vm,g.ix,XI,e1,e2];refine Ea u1 ?_;rw[e3];exact Qa _
       .simp only[Bool.false_or,Vn]at h⊢;exact u4 ⟨by omega,h.1,h.2⟩
       .simp only[Bool.false_or,Vn]at h;exact u5 λq=>h ⟨q.2.1,q.2.2⟩
     obtain⟨z,z0,z1,z2,z3,z4⟩:=hc;have e4:i64.wrap (a+1)=a+1:=Qz (by omega) (by omega);have e5:i64.wrap (a+1+p)=a+1+p:=Qz (by omega) (by omega);have e6:i64.wrap (a+1+p+y1)=a+1+p+y1:=Qz (by omega) (by omega);obtain⟨w1,w2,v1,v2,v3,v4,v5,v6,F⟩:=ae (i+1) (a+1+p+y1) (b+f+y2+z) R (by omega) (by omega) (by omega) (by omega) (by omega);refine⟨w1,w2,Ex ?_ v1,v2,v3,v4,v5,?_,?_⟩
     .unfold F_dw;simp only[g.lt,Vm,QA e.1,QA e.2,XI,g.ix,g.nx,ed,Qek];refine Ea p1 (Ea q1 ?_);simp only[g.ix,XI]at z2;refine Ea z2 ?_;rw[e4,e5,e6];exact Qa _
     .rintro⟨g1,g2,g3⟩;simp only[sDs,XV,Vo,Qgc]at g1;obtain⟨ak,⟨ad,J,aa⟩,W⟩:=g1;rw[sNs,QeV]at g2⊢;rw[sCs,QdR]at g3⊢;obtain⟨k1,k2⟩:=G ⟨J,by omega,by omega⟩;obtain⟨k3,k4⟩:=q6 ⟨aa,by omega,by omega⟩;have k5:=z3 ⟨ad,by omega⟩;obtain⟨k6,k7⟩:=v6 ⟨W,by omega,by omega⟩;constructor<;>omega
     .intro hn;by_cases H:goodL (d+1) s.Then
      .obtain⟨k1,k2⟩:=G H;by_cases b2:goodL (d+1) s.Else
       .obtain⟨k3,k4⟩:=q6 b2;by_cases T:(zeroC s.Cond||cD 1 s.Cond)=true/\(bif zeroC s.Cond then 0 else cN s.Cond)<=256
        .have k5:=z3 T;refine F λq=>hn ⟨?_,?_,?_⟩
         .simp only[sDs,XV,Vo,Qgc];exact⟨u,⟨T.1,H.1,b2.1⟩,q.1⟩
         .rw[sNs,QeV];omega
         .rw[sCs,QdR];omega
        .have:=z4 T;exact F λq=>by omega
       .have:=q7 b2;exact F λq=>by omega
      .have:=Y H;exact F λq=>by omega
    .refine⟨a,b,Ej ?_,B,t,j,L,λh=>?_,λ_=>?_⟩
     .unfold F_dw;have:Ev (λn:Nat=>((bif decide ((i:Int)<(l.length:Int))then(bif decide (a<=64)then some (decide (b<=256))else some false)else some false):Option Bool)) false:=by
       rw[g.lt];by_cases q:a<=64
       .rw[QA q,Qy (show¬b<=256 from λz=>e ⟨q,z⟩)];exact Qa _
       .rw[Qy q];exact Qa _
      exact Ea this (Qs (Qa _))
     iterate 2 omega
  have ab:=Qci (17-d);obtain⟨a,b,p1,p2,p3,p4,p5,G,Y⟩:=loop l 0 0 0 rfl (XT _) (by omega) (by omega) (by omega) (by omega);refine⟨a,b,Ea B (Qs (Ea p1.ev (Qa _))),p2,p3,p4,p5,λh=>?_,λh=>?_⟩
  .obtain⟨k1,k2⟩:=G ⟨h.1,by have:=h.2.1;omega,by have:=h.2.2;omega⟩;constructor<;>omega
  .exact Y λq=>h ⟨q.1,by omega,by omega⟩
theorem QgJ:∀(m:Nat) (c:Cond),cN c<=m->Cond.wf c->Ev (λn=>F_s n c) (vaC c):=by
 intro m
 induction m using Nat.strongRecOn with
 |_ m q=>
 intro c z s;obtain⟨u,j⟩:=Y8 s;refine Yw ?_;show Ev (λn=>B_s (F_s n) n c) _;rw[QjD];have d:∀x∈c.Parts,cN x<cN c:=by
  intro x d;have:∀l:List Cond,x∈l->cN x<=cNs l:=by
   intro l
   induction l with
   |nil=>simp
   |cons y l q=>
    intro h;rw[cNs]
    grind
  have:=this _ d;rw[QbK c];omega
 have loop:Ev (λn=>iter (F_ei n c (F_s n)) n 0) (bif c.Parts.all vaC then Ctl.cont ()else Ctl.done false):=by
  refine Yr c.Parts vaC _ _ (by omega) (λi x a=>?_) ?_
  .unfold F_ei;simp only[a.lt,Vm,a.ix,XI,a.nx];refine Ea (q (cN x) (by have:=d x a.mem;omega) x (XS _) (j x a.mem)) ?_;cases vaC x<;>exact Qa _
  simp_all[F_ei,Qa]
 have fin:Ev (λn=>((bif (c.Var != 0)then some true else some (c.N != 0)):Option Bool).bind λf=>(bif f then some false else(iter (F_ei n c (F_s n)) n 0).bind λp=>match p with|.cont sb48=>(some true)|.done sb48=>some sb48)) (((c.Var==0)&&(c.N==0))&&vaCs c.Parts):=by
  refine Ea (v:= !((c.Var==0)&&(c.N==0))) (EA ?_) ?_
  .grind
  .cases((c.Var==0)&&(c.N==0))with
   |false=>exact Qa _
   |true=>
    refine Qs (Ea loop ?_)
    grind[Qfs,Qa]
 refine QaK (λ_=>?_) (λw=>?_)
 .refine Ea (v:=_) ((Ei λ_=>Ei λ_=>Ei λ_=>Ei λ_=>Qa _).eq ?_) (Qa _);unfold inR
  grind
 .have e:Ev (λn:Nat=>((bif (c.Kind==2)then some (c.Kind==2)else some (c.Kind==3)):Option Bool)) ((c.Kind==2)||(c.Kind==3)):=EA (by rw[QkF]);refine Ea e ?_;cases k:((c.Kind==2)||(c.Kind==3))with
  |true=>
   have r:(c.Kind==4)=false:=by
    rw[VI];simp only[Bool.or_eq_true,Vu]at k;simp only[Vu,ne_eq];omega
   rw[r];have t:(bif decide ((c.Parts.length:Int)<1)then some true else some (decide (16<(c.Parts.length:Int))))=some (!(decide (0<(c.Parts.length:Int))&&decide ((c.Parts.length:Int)<=16))):=by
    rw[Qii];congr 1;rw[XX];simp only[Bool.or_eq_true,Vo,Bool.not_eq_true',Bool.and_eq_false_iff,decide_eq_false_iff_not];omega
   rw[t];cases g:(decide (0<(c.Parts.length:Int))&&decide ((c.Parts.length:Int)<=16))with
   |false=>
    refine Ea (Qa _) ((Qa _).eq (by simp))
   |true=>
    refine Ea (Qa _) (fin.eq (by simp))
  |false=>
   simp only[Vn];cases r:(c.Kind==4)with
   |true=>
    simp only[Vm];cases g:((c.Parts.length:Int)==1)with
    |false=>
     refine Ea (v:=Ctl.done false) (EA ?_) ((Qa _).eq (by simp));simp only[bne,g,Xh,Vm]
    |true=>
     refine Ea (v:=Ctl.cont ()) (EA ?_) (fin.eq (by simp));simp only[bne,g,Xg,Vn]
   |false=>
    refine Ea (Qa _) (Qa _)
theorem Qhp(c:Cond)(a:Cond.wf c)(g:cD 1 c=true)(f:cN c<=256):Ev (λn=>F_dj n c) (bif vaC c then 0 else 71):=by
 obtain⟨v,e,_,_,d,_⟩:=Qb1 _ c 0 (XS _) (by omega) a;have:=d ⟨by omega,g,f⟩;refine Ea e ?_;rw[Qy (show¬256<v by omega)];refine Qs (Ea (QgJ _ c (XS _) a) ?_);cases vaC c<;>exact Qa _
theorem Qit{c:Cond}(h:zeroC c=true):cD 1 c=true/\cN c<=256:=by
 unfold zeroC at h;simp only[XV,Vu]at h;have:c.Parts=[]:=(by simp_all);rw[Qih,QbK,this];exact⟨rfl,by simp[cNs]⟩
theorem QgH:∀(m:Nat) (l:List Step) (d:Nat),sZs l<=m->l.length<=1048576->(∀x∈l,Step.wf x)->sDs d l=true->sCs l<=256->Ev (λn=>F_f n l) (vaSs l):=by
 intro m
 induction m using Nat.strongRecOn with
 |_ m w=>
 intro l d hm hl V G hc;refine Yw ?_;show Ev (λn=>B_f (F_f n) n l) _;unfold B_f;have j:∀s∈l,sZ s<=sZs l/\sDp (d+1) s=true/\sC s<=sCs l:=by
  intro s;have:∀l:List Step,s∈l->sDs d l=true->sZ s<=sZs l/\sDp (d+1) s=true/\sC s<=sCs l:=by
   intro l
   induction l with
   |nil=>simp
   |cons y l w=>
    intro h G;simp only[sDs,XV]at G;rw[sZs,sCs]
    grind
  grind
 rw[Qfr];have loop:Ev (λn=>iter (F_gv n l (F_f n)) n 0) (bif l.all vaS then Ctl.cont ()else Ctl.done false):=by
  refine Yr l vaS _ _ (by omega) (λi s p=>?_) ?_
  .obtain⟨m1,B,m3⟩:=j s p.mem;obtain⟨O,⟨z,E⟩,⟨t,u⟩⟩:=Y6 (V s p.mem);have L:=QeU s;have k:=QdR s;rw[Qgc]at B;simp only[XV]at B;obtain⟨F,J,Q⟩:=B;have f:cD 1 s.Cond=true/\cN s.Cond<=256:=by
    cases H:zeroC s.Cond with
    |true=>exact Qit H
    |false=>
     rw[H]at F k;simp only[Vn]at k;exact⟨by simpa using F,by omega⟩
   unfold F_gv;simp only[p.lt,Vm,p.ix,XI,p.nx,Qek];rw[QjC];cases X:(s.Kind==1)with
   |true=>
    simp only[Vm];have e:Ev (λn:Nat=>((bif decide (s.By<1)then some true else(bif decide (5<s.By)then some true else(bif (!zeroC s.Cond)then some true else(bif ((s.Then.length:Int) != 0)then some true else some ((s.Else.length:Int) != 0))))):Option Bool)) (!(inR 1 5 s.By&&(zeroC s.Cond&&(((s.Then.length:Int)==0)&&((s.Else.length:Int)==0))))):=by
     refine(Ql λ_=>Ql λ_=>Ql λ_=>Ql λ_=>Qa _).eq ?_;unfold inR;cases zeroC s.Cond with
     |false=>simp
     |true=>
      rw[XX];simp only[Bool.or_eq_true,Vo,Bool.not_eq_true',Bool.and_eq_false_iff,decide_eq_false_iff_not,bne_iff_ne,ne_eq,Vv,Xg,Vw,Xi,false_or];omega
    cases q:(inR 1 5 s.By&&(zeroC s.Cond&&(((s.Then.length:Int)==0)&&((s.Else.length:Int)==0))))with
    |true=>rw[q]at e;exact Ea (Ea e (Qa _)) (Qa _)
    |false=>rw[q]at e;exact Ea (Ea e (Qa _)) (Qa _)
   |false=>
    simp only[Vn];cases Y:(s.Kind==2)with
    |true=>
     simp only[Vm];have e:Ev (λn=>((bif (s.By != 0)then some true else(F_dj n s.Cond).bind λr=>(bif (r != 0)then some true else(bif ((s.Then.length:Int)==0)then some true else(F_f n s.Then).bind λg=>(bif (!g)then some true else(F_f n s.Else).bind λa=>some (!a))))):Option Bool)) (!((s.By==0)&&(vaC s.Cond&&(decide (0<(s.Then.length:Int))&&(vaSs s.Then&&vaSs s.Else))))):=by
      have T:=w (sZs s.Then) (by omega) s.Then (d+1) (XS _) z E J (by omega);have W:=w (sZs s.Else) (by omega) s.Else (d+1) (XS _) t u Q (by omega);have M:Ev (λn=>(F_f n s.Else).bind λa=>some (!a)) (!vaSs s.Else):=Ea W (Qa _);have R:Ev (λn=>(F_f n s.Then).bind λg=>(bif (!g)then some true else(F_f n s.Else).bind λa=>some (!a))) (!vaSs s.Then|| !vaSs s.Else):=Ea T (Ql λ_=>M);refine(Ql λ_=>Ea (Qhp s.Cond O f.1 f.2) (Ql λ_=>Ql λ_=>R)).eq ?_;have N:((bif vaC s.Cond then(0:Int)else 71) != 0)= !vaC s.Cond:=by cases vaC s.Cond<;>rfl
      have P:((s.Then.length:Int)==0)= !decide (0<(s.Then.length:Int)):=by
       rw[XX];simp
      rw[N,P];simp only[Bool.not_and,bne]
     cases q:((s.By==0)&&(vaC s.Cond&&(decide (0<(s.Then.length:Int))&&(vaSs s.Then&&vaSs s.Else))))with
     |true=>rw[q]at e;exact Ea (Ea e (Qa _)) (Qa _)
     |false=>rw[q]at e;exact Ea (Ea e (Qa _)) (Qa _)
    |false=>exact Ea (Qa _) (Qa _)
  simp_all[F_gv,Qa]
 refine Ea loop ?_;cases l.all vaS<;>exact Qa _
theorem Qho(l:List Step)(i:l.length<=1048576)(g:∀x∈l,Step.wf x):Ev (λn=>F_fz n l) (tiesE l):=by
 obtain⟨a,b,r,u,t,_,_,q,k⟩:=Qia _ l 0 (XS _) (by omega) i g;refine Ea r ?_;have j:goodT l=true↔goodL 0 l:=by
  unfold goodT goodL;simp
 unfold tiesE;cases f:goodT l with
 |false=>
  have:=k (λh=>by grind);have e:(bif decide (64<a)then some true else some (decide (256<b)))=some true:=by
   grind
  exact Ea (EA e) (Qa _)
 |true=>
  have d:=j.1 f;obtain⟨w,y⟩:=q d;have s:=d.2.1;have m:=d.2.2;have e:(bif decide (64<a)then some true else some (decide (256<b)))=some false:=by
   grind
  refine Ea (EA e) (Qs ?_);have p:((l.length:Int)==0)=l.isEmpty:=by
   cases l<;>simp;omega
  rw[p];refine Ea (Ql λ_=>Ea (QgH _ l 0 (XS _) i g d.1 m) (Qa _)) ?_
  grind[Qa]
mutual
def hP:Part->Nat
 |⟨_,_,ps⟩=>bif ps.isEmpty then 0 else 1+hPs ps
def hPs:List Part->Nat
 |[]=>0
 |p::r=>max (hP p) (hPs r)
end
theorem QlY(p:Part):hP p=bif p.Parts.isEmpty then 0 else 1+hPs p.Parts:=by cases p;rfl
theorem Qh5{p:Part}:∀{l:List Part},p∈l->hP p<=hPs l
 |q::r,h=>by
  simp[hPs];rcases X5.1 h with rfl|h
  .omega
  .have:=Qh5 h;omega
theorem Qgn{α:Type}(l:List α):((l.length:Int)==0)=l.isEmpty:=by
 cases l<;>simp;omega
theorem QaF:∀l:List Part,l.length<=szPs l
 |[]=>XS _
 |p::r=>by have:=QaF r;rw[szPs,YB,XZ];omega
theorem Qdi:∀(m:Nat) (l:List Part) (k:Nat),szPs l<=m->k<=17->l.length<=1048576->(∀x∈l,Part.wf x)->Ev (λn=>F_k n l (k:Int)) ((min (hPs l) k:Nat):Int):=by
 intro m
 induction m using Nat.strongRecOn with
 |_ m t=>
 intro l k F E G s;refine Yw ?_;show Ev (λn=>B_k (F_k n) n l (k:Int)) _;unfold B_k;have loop:∀(r:List Part) (i:Nat) (a:Nat),l.drop i=r->i<=l.length->a<=k->EvI (λn=>F_ct n l (k:Int) (F_k n)) ((a:Int),(i:Int)) ((max a (min (hPs r) k):Nat):Int):=by
  intro r
  induction r with
  |nil=>
   intro i a f h d;refine Ej ?_;unfold F_ct;simp only[QS f h,Vn,XI];refine(Qa _).eq ?_;simp[hPs]
  |cons p r e=>
   intro i a f h w;obtain⟨d,g⟩:=Qt (by omega) f;obtain⟨y,j⟩:=Q8 (s p d.mem);by_cases z:0<k
   .have B:i64.wrap ((k:Int)-1)=((k-1:Nat):Int):=by rw[Qz (by omega) (by omega)];omega
    have q:=YN d.mem;rw[YB]at q;have step:Ev (λn=>F_ct n l (k:Int) (F_k n) ((a:Int),(i:Int))) (.cont (((max a (min (hP p) k):Nat):Int),((i+1:Nat):Int))):=by
     unfold F_ct;simp only[d.lt,Vm,QA (show(0:Int)<(k:Int)by omega),XI,d.ix,d.nx,B,bne,Qgn];rw[QlY];cases H:p.Parts.isEmpty with
     |true=>
      simp_all[Qa]
     |false=>
      simp only[Xh,Vm,Vn];refine Ea (Ea (t (szPs p.Parts) (by omega) p.Parts (k-1) (XS _) (by omega) y j) (Qa _)) ((Qa _).eq ?_);have u:i64.wrap (1+((min (hPs p.Parts) (k-1):Nat):Int))=((1+min (hPs p.Parts) (k-1):Nat):Int):=by rw[Qz (by omega) (by omega)];omega
      rw[u];congr 2;split<;>omega
    refine(Ex step (e (i+1) _ g (by have:=d.lt';omega) (by omega))).eq ?_;rw[hPs];omega
   simp_all[Ej,F_ct,Qa]
 refine Ea ((loop l 0 0 rfl (XT _) (XT _)).ev) ((Qa _).eq ?_);omega
theorem Qdj:∀(m:Nat) (l:List Part),szPs l<=m->l.length<=1048576->(∀x∈l,Part.wf x)->Ev (λn=>F_r n l) ((min (szPs l) 257:Nat):Int):=by
 intro m
 induction m using Nat.strongRecOn with
 |_ m y=>
 intro l F E w;refine Yw ?_;show Ev (λn=>B_r (F_r n) n l) _;have loop:∀(r:List Part) (i:Nat) (a:Nat),l.drop i=r->i<=l.length->a<=1048576->∃b:Nat,EvI (λn=>F_ff n l (F_r n)) ((a:Int),(i:Int)) (b:Int)/\min b 257=min (a+(szPs r-r.length)) 257:=by
  intro r
  induction r with
  |nil=>
   intro i a f q _;refine⟨a,Ej ?_,by simp[szPs]⟩;unfold F_ff;simp only[QS f q,Vn,XI];exact Qa _
  |cons p r e=>
   intro i a f q z;obtain⟨d,g⟩:=Qt (by omega) f;obtain⟨B,t⟩:=Q8 (w p d.mem);have u:=YN d.mem;rw[YB]at u;have s:=QaF r;by_cases j:a<=256
   .obtain⟨b,h,k⟩:=e (i+1) (a+min (szPs p.Parts) 257) g (by have:=d.lt';omega) (by omega);refine⟨b,Ex ?_ h,?_⟩
    .unfold F_ff;simp only[d.lt,Vm,QA (show(a:Int)<=256 by omega),XI,d.ix,d.nx];refine Ea (y (szPs p.Parts) (by omega) p.Parts (XS _) B t) ((Qa _).eq ?_);rw[Qz (by omega) (by omega)];congr 2
     all_goals omega
    .rw[k,szPs,YB,XZ];omega
   .refine⟨a,Ej ?_,by omega⟩;unfold F_ff;simp only[d.lt,Vm,Qy (show¬(a:Int)<=256 by omega),XI,Vn];exact Qa _
 obtain⟨b,h,k⟩:=loop l 0 l.length rfl (XT _) E;refine Ea h.ev ((Qa _).eq ?_);have:=QaF l;omega
theorem Qkp:∀(m:Nat) (l:List Part) (k:Nat),szPs l<=m->hPs l<=k->k<=17->szPs l<=256->(∀x∈l,Part.wf x)->Ev (λn=>F_o n l (k:Int)) ((hPs l:Int),(szPs l:Int)):=by
 intro m
 induction m using Nat.strongRecOn with
 |_ m J=>
 intro l k Q P w h L;have t:=QaF l;refine Yw ?_;show Ev (λn=>B_o (F_o n) n l (k:Int)) _;unfold B_o;have loop:∀(r:List Part) (i:Nat) (a b:Nat),l.drop i=r->i<=l.length->a<=17->b+(szPs r-r.length)<=256->EvI (λn=>F_fn n l (k:Int) (F_o n)) ((a:Int),(b:Int),(i:Int)) (((max a (hPs r):Nat):Int),((b+(szPs r-r.length):Nat):Int)):=by
  intro r
  induction r with
  |nil=>
   intro i a b f s _ _;refine Ej ?_;unfold F_fn;simp only[QS f s,Vn,XI]
   grind[Qa,hPs,szPs]
  |cons p r j=>
   intro i a b f s z q;obtain⟨d,g⟩:=Qt (by omega) f;obtain⟨R,G⟩:=Q8 (L p d.mem);have H:=YN d.mem;have e:=Qh5 d.mem;rw[YB]at H;have y:=QaF r;rw[szPs,YB,XZ]at q;have step:Ev (λn=>F_fn n l (k:Int) (F_o n) ((a:Int),(b:Int),(i:Int))) (.cont (((max a (hP p):Nat):Int),((b+szPs p.Parts:Nat):Int),((i+1:Nat):Int))):=by
    unfold F_fn;simp only[d.lt,Vm,d.ix,XI,d.nx,Qgn];rw[QlY]at e⊢;cases u:p.Parts.isEmpty with
    |true=>
     have O:p.Parts=[]:=by simpa using u
     simp only[Vm,XI];rw[O];simp only[szPs,Xw,Nat.max_zero];exact Qa _
    |false=>
     rw[u]at e;simp only[Vn]at e⊢;have N:0<k:=by omega
     have B:i64.wrap ((k:Int)-1)=((k-1:Nat):Int):=by rw[Qz (by omega) (by omega)];omega
     have F:((k:Int)==0)=false:=beq_false_of_ne (by omega);rw[F,Qy (show¬(256:Int)<(b:Int)by omega),B];simp only[Vn,XI];refine Ea (Ea (J (szPs p.Parts) (by omega) p.Parts (k-1) (XS _) (by omega) (by omega) (by omega) G) (Qa _)) ((Qa _).eq ?_);have M:i64.wrap ((hPs p.Parts:Int)+1)=((hPs p.Parts+1:Nat):Int):=Yc (by omega);have E:i64.wrap ((b:Int)+(szPs p.Parts:Int))=((b+szPs p.Parts:Nat):Int):=by rw[Qz (by omega) (by omega)];omega
     simp only[M,E];congr 2;split<;>omega
   refine(Ex step (j (i+1) _ _ g (by have:=d.lt';omega) (by omega) (by omega))).eq ?_;rw[hPs,szPs,YB,XZ];congr 1<;>omega
 refine Ea ((loop l 0 0 l.length rfl (XT _) (by omega) (by omega)).ev) ((Qa _).eq ?_)
 grind
def repS:Nat->List Int->List Int->List Int
 |0,out,_=>out
 |k+1,out,lap=>if 256<out.length then out else repS k (out++lap) lap
mutual
def lapS:Part->List Int
 |⟨m,laps,ps⟩=>bif decide (0<laps)then expS [] ps else[m]
def expS:List Int->List Part->List Int
 |out,[]=>out
 |out,p::r=>expS (repS (p.Laps.toNat+(bif decide (0<p.Laps)then 0 else 1)) out (lapS p)) r
end
theorem Qax(p:Part):lapS p=bif decide (0<p.Laps)then expS [] p.Parts else[p.Mat]:=by cases p;rfl
theorem Qcn{k:Nat}{a d:List Int}(h:256<a.length):repS k a d=a:=by
 cases k with
 |zero=>rfl
 |succ k=>rw[repS,Vq h]
theorem Qcv:∀(l:List Part) {out:List Int},256<out.length->expS out l=out
 |[],out,h=>by rw[expS]
 |p::r,out,h=>by rw[expS,Qcn h];exact Qcv r h
theorem Qcm:∀(k:Nat) (out lap:List Int),(repS k out lap).length<=max out.length (256+lap.length)
 |0,out,lap=>by rw[repS];omega
 |k+1,out,lap=>by
  rw[repS];split
  .omega
  .have:=Qcm k (out++lap) lap
   grind
theorem Qeh:∀(m:Nat) (l:List Part) (a:List Int),szPs l<=m->(expS a l).length<=max a.length (256+257*szPs l):=by
 intro m
 induction m using Nat.strongRecOn with
 |_ m f=>
 intro l;have e:∀p∈l,szPs l<=m->(lapS p).length<=257*szP p:=by
  intro p j s;have k:=YN j;rw[Qax,YB]at*;cases decide (0<p.Laps)with
  |true=>
   have:=f (szPs p.Parts) (by omega) p.Parts [] (XS _)
   grind
  |false=>simp;omega
 have g:∀(r:List Part) (a:List Int),(∀p∈r,(lapS p).length<=257*szP p)->(expS a r).length<=max a.length (256+257*szPs r):=by
  intro r
  induction r with
  |nil=>intro a _;rw[expS];omega
  |cons p r d=>
   intro a i;rw[expS,szPs];have n:=d (repS (p.Laps.toNat+(bif decide (0<p.Laps)then 0 else 1)) a (lapS p)) λq h=>i q (by simp[h])
   grind[Qcm]
 grind
theorem Qgr(p:Part):(lapS p).length<=257*szP p:=by
 rw[Qax,YB];cases decide (0<p.Laps)with
 |true=>
  have:=Qeh _ p.Parts [] (XS _)
  grind
 |false=>simp;omega
theorem QiT(T:Int):∀(m:Nat) (l:List Part),szPs l<=m->szPs l<=256->l.length<=1048576->(∀x∈l,Part.wf x)->partsS T l=true->Ev (λn=>F_n n l) (expS [] l):=by
 intro m
 induction m using Nat.strongRecOn with
 |_ m ih=>
 intro l hm L hl hw O;rw[YX,Xs]at O;refine Yw ?_;show Ev (λn=>B_n (F_n n) n l) _;unfold B_n;have inner:∀(p:Part) (e:List Int) (g:p.Laps=0\/0<p.Laps/\p.Laps<=64) (y:e.length<=100000) (j:Nat) (k:Nat) (a:List Int),j+k=p.Laps.toNat+(bif decide (0<p.Laps)then 0 else 1)->a.length<=200000->
   ∃d:Ctl (List Int) (Ctl ((List Int)×Int) (Ctl (List Int) (List Int))),EvI (λn=>F_fb n p e) (a,(j:Int)) d/\
    (d=.cont (repS k a e)\/(256<(repS k a e).length/\d=.done (.done (.done (repS k a e))))):=by
  intro p e g y j k
  induction k generalizing j with
  |zero=>
   intro a B _;refine⟨_,Ej (b:=.cont a) ?_,.inl rfl⟩;unfold F_fb;have:¬((j:Int)<if p.Laps<1 then 1 else p.Laps):=by
    grind
   rw[Qy this];exact Qa _
  |succ k G=>
   intro a B F;have u:((j:Int)<if p.Laps<1 then 1 else p.Laps):=by
    rcases g with h|⟨h,h'⟩
    .rw[h]at B⊢;simp at B⊢;omega
    .rw[QA h]at B;simp at B;rw[Vp (by omega)];omega
   by_cases t:256<a.length
   .refine⟨_,Ej (b:=.done (.done (.done a))) ?_,.inr ⟨by rw[Qcn t];exact t,by rw[Qcn t]⟩⟩;unfold F_fb;rw[QA u,QA (show(256:Int)<(a.length:Int)by omega)];exact Qa _
   .obtain⟨d,q,E⟩:=G (j+1) (a++e) (by omega) (by rw[X2];omega);refine⟨d,Ex ?_ q,by rw[repS,Vp t];exact E⟩;unfold F_fb;rw[QA u,Qy (show¬(256:Int)<(a.length:Int)by omega)];refine QeI (Qs (QO (QaI a e (by omega)) ?_));rw[Yc (by omega)];exact Qa _
 have loop:∀(r:List Part) (i:Nat) (a:List Int),l.drop i=r->i<=l.length->a.length<=100000->
   ∃d:Ctl (List Int) (List Int),EvI (λn=>F_fu n l (F_n n)) (a,(i:Int)) d/\(d=.cont (expS a r)\/d=.done (expS a r)):=by
  intro r
  induction r with
  |nil=>
   intro i a H P _;refine⟨.cont a,Ej ?_,.inl (by rw[expS])⟩;unfold F_fu;simp only[QS H P,Vn];exact Qa _
  |cons p r M=>
   intro i a H P F;obtain⟨f,J⟩:=Qt (by omega) H;have u:=f.lt';have Y:=YN f.mem;obtain⟨V,X⟩:=Q8 (hw p f.mem);have g:=O p f.mem;rw[QaY]at g;have s:p.Laps=0\/0<p.Laps/\p.Laps<=64:=by
    cases Q:(p.Laps==0)with
    |true=>exact .inl (by simpa using Q)
    |false=>
     rw[Q]at g;simp only[Vn,inR,XV,Vo]at g;exact .inr ⟨by omega,by omega⟩
   have W:=Qgr p;have t:Ev (λn=>((bif decide (0<p.Laps)then(F_n n p.Parts).bind λN=>some N else some [p.Mat]):Option (List Int))) (lapS p):=by
    rw[Qax];refine QaK (λh=>?_) (λ_=>Qa _);rw[YB]at Y;refine Ea (ih (szPs p.Parts) (by omega) p.Parts (XS _) (by omega) V X ?_) (Qa _);have:(p.Laps==0)=false:=by
     simp only[Vo]at h;exact beq_false_of_ne (by omega)
    rw[this]at g;simp only[Vn,XV]at g;exact g.2.2.2
   obtain⟨d,q,E⟩:=inner p (lapS p) s (by omega) 0 _ a (Xv _) (by omega);rw[expS];rcases E with rfl|⟨z,rfl⟩
   .obtain⟨w,q1,R⟩:=M (i+1) (repS (p.Laps.toNat+(bif decide (0<p.Laps)then 0 else 1)) a (lapS p)) J (by omega) (by
     have:=Qcm (p.Laps.toNat+(bif decide (0<p.Laps)then 0 else 1)) a (lapS p);omega)
    refine⟨w,Ex ?_ q1,R⟩;unfold F_fu;simp only[f.lt,Vm,f.ix,XI,f.nx];exact Ea t (Ea q.ev (Qa _))
   .refine⟨.done (repS (p.Laps.toNat+(bif decide (0<p.Laps)then 0 else 1)) a (lapS p)),Ej ?_,.inr (by rw[Qcv r z])⟩;unfold F_fu;simp only[f.lt,Vm,f.ix,XI,f.nx];exact Ea t (Ea q.ev (Qa _))
 obtain⟨d,q,E⟩:=loop l 0 [] rfl (XT _) (by simp);rcases E with rfl|rfl
 iterate 2 exact Ea q.ev (Qa _)
theorem QfJ(L:Int):∀(m:Nat) (l:List Part),szPs l<=m->szPs l<=256->l.length<=1048576->(∀x∈l,Part.wf x)->partsS L l=true->Ev (λn=>F_t n l) (expS [] l):=by
 intro m
 induction m using Nat.strongRecOn with
 |_ m P=>
 intro l W B X Q F;rw[YX,Xs]at F;refine Yw ?_;show Ev (λn=>B_t (F_t n) n l) _;unfold B_t;have inner:∀(p:Part) (i:Nat) (e:At l i p) (H:List Int) (f:List Int) (g:0<p.Laps/\p.Laps<=64) (h:f.length<=100000) (j:Nat) (k:Nat) (a:List Int),j+k=p.Laps.toNat->a.length<=200000->
   EvI (λn=>F_dx n l (H,(i:Int)) f) (a,(j:Int)) (repS k a f):=by
  intro p i e H f g h j k
  induction k generalizing j with
  |zero=>
   intro a R _;refine Ej ?_;unfold F_dx;simp only[e.ix,XI];rw[Qy (show¬(j:Int)<p.Laps by omega)];exact Qa _
  |succ k t=>
   intro a R s;by_cases q:256<a.length
   .refine Ej ?_;rw[Qcn q];unfold F_dx;simp only[e.ix,XI];rw[QA (show(j:Int)<p.Laps by omega),Qy (show¬(a.length:Int)<=256 by omega)];exact Qa _
   .rw[repS,Vp q];refine Ex ?_ (t (j+1) (a++f) (by omega) (by rw[X2];omega));unfold F_dx;simp only[e.ix,XI];rw[QA (show(j:Int)<p.Laps by omega),QA (show(a.length:Int)<=256 by omega)];simp only[Vm,XI];refine QO (QaI a f (by omega)) ?_;rw[Yc (by omega)];exact Qa _
 have loop:∀(r:List Part) (i:Nat) (a:List Int),l.drop i=r->i<=l.length->a.length<=100000->
   EvI (λn=>F_dr n l (F_t n)) (a,(i:Int)) (expS a r):=by
  intro r
  induction r with
  |nil=>
   intro i a w G _;refine Ej ?_;rw[expS];unfold F_dr;simp only[QS w G,Vn,XI];exact Qa _
  |cons p r E=>
   intro i a w G s;obtain⟨e,y⟩:=Qt (by omega) w;have V:=e.lt';have O:=YN e.mem;by_cases q:256<a.length
   .rw[Qcv _ q];refine Ej ?_;unfold F_dr;simp only[e.lt,Vm,Qy (show¬(a.length:Int)<=256 by omega),XI,Vn];exact Qa _
   obtain⟨M,N⟩:=Q8 (Q p e.mem);have g:=F p e.mem;rw[QaY]at g;have u:=Qgr p;rw[expS];refine Ex ?_ (E (i+1) _ y (by omega) (by
    have:=Qcm (p.Laps.toNat+(bif decide (0<p.Laps)then 0 else 1)) a (lapS p);omega))
   unfold F_dr;simp only[e.lt,Vm,QA (show(a.length:Int)<=256 by omega),XI,e.ix,e.nx];cases J:(p.Laps==0)with
   |true=>
    have T:p.Laps=0:=by simpa using J
    simp only[Vm];refine Ea (QO (QaI a [p.Mat] (by simp;omega)) (Qa _)) ((Qa _).eq ?_);rw[Qax,T];simp[repS,q]
   |false=>
    rw[J]at g;simp only[Vn,XV,inR,Vo]at g;have d:0<p.Laps/\p.Laps<=64:=⟨by omega,by omega⟩;simp only[Vn];rw[YB]at O;refine Ea (Ea (P (szPs p.Parts) (by omega) p.Parts (XS _) (by omega) M N g.2.2.2) (Ea ?_ (Qa _))) (Qa _);have z:=Qax p;rw[QA d.1,Vm]at z;have:=(inner p i e a (expS [] p.Parts) d (by rw[<- z];rw[YB]at u;omega) 0 p.Laps.toNat a (by omega) (by omega)).ev;rw[<- z]at this⊢;rw[QA d.1];exact this
 exact Ea (loop l 0 [] rfl (XT _) (by simp)).ev (Qa _)
def kindAt(c:Course)(m:Int):Int:=((c.Mats[m.toNat]?).map (·.Kind)).getD 0
def hasLeg(c:Course)(a b:Int):Bool:=c.Legs.any λl=>(l.From==a)&&(l.To==b)
def rokS(c:Course)(len:Nat):Nat->Int->List Int->Bool
 |_,_,[]=>true
 |i,prev,m::r=>((kindAt c m==1)==decide (i=0))&&(((kindAt c m==3)==decide (i+1=len))&&((decide (i=0)||hasLeg c prev m)&&rokS c len (i+1) m r))
def routeR(c:Course)(d:Distance)(r:List Int):Bool:=
 (decide (2<=r.length)&&decide (r.length<=256))&&(rokS c r.length 0 0 r&&((bif decide (0<=d.Extra)then !((r.count d.Extra:Int)==0)&&((kindAt c d.Extra==2)&&hasLeg c d.Extra d.Extra)else true)&&d.Cutoffs.all λx=>decide (x.Lap<=(r.count x.Mat:Int))))
def routeS(c:Course)(d:Distance):Bool:=routeR c d (expS [] d.Route)
def cntM(l:List Int):List (Int×Int):=l.foldl (λm k=>QU m k (Qq m k 0+1)) []
theorem Qi2(l:List Int)(k:Int):cntM (l++[k])=QU (cntM l) k (Qq (cntM l) k 0+1):=by unfold cntM;simp
theorem Qet(l:List Int)(k:Int):Qq (cntM l) k 0=(l.count k:Int):=by
 have a:∀(l:List Int) (m:List (Int×Int)),Qq (l.foldl (λm k=>QU m k (Qq m k 0+1)) m) k 0=Qq m k 0+l.count k:=by
  intro l
  induction l with
  |nil=>simp
  |cons x l d=>
   grind[QdZ]
 grind[cntM,QiH]
theorem Qhi(d:Int):∀(m:Nat) (l:List Part) (a:List Int),szPs l<=m->partsS d l=true->(∀x∈a,0<=x/\x<=d)->∀x∈expS a l,0<=x/\x<=d:=by
 intro m
 induction m using Nat.strongRecOn with
 |_ m t=>
 intro l;have rep:∀(k:Nat) (a e:List Int),(∀x∈a,0<=x/\x<=d)->(∀x∈e,0<=x/\x<=d)->∀x∈repS k a e,0<=x/\x<=d:=by
  intro k
  induction k with
  |zero=>intro a e s _;exact s
  |succ k q=>
   grind[repS]
 have w:∀(r:List Part) (a:List Int),szPs r<=m->partsS d r=true->(∀x∈a,0<=x/\x<=d)->∀x∈expS a r,0<=x/\x<=d:=by
  intro r
  induction r with
  |nil=>intro a _ _ h;exact h
  |cons p r i=>
   intro a u n h;rw[szPs,YB]at u;rw[partsS,XV]at n;obtain⟨f,y⟩:=n;refine i _ (by omega) y (rep _ _ _ h ?_);rw[Qax];rw[QaY]at f;cases g:(p.Laps==0)with
   |true=>
    have e0:=by simpa using g
    rw[g,Vm,XV]at f;have:=f.1;unfold inR at this;simp[XV,Vo]at this;rw[e0];intro x j;simp at j;subst j;exact this
   |false=>
    rw[g]at f;simp[Vn,XV,inR,Vo]at f;rw[QA (show 0<p.Laps by omega),Vm];exact t (szPs p.Parts) (by omega) p.Parts [] (XS _) f.2.2.2 (by simp)
 grind
theorem Qcq{c:Course}{m:Int}(d:0<=m)(e:m<=(c.Mats.length:Int)-1):∃x:Mat,idx c.Mats m=some x/\x.Kind=kindAt c m:=by
 obtain⟨k,rfl⟩:∃k:Nat,m=k:=⟨m.toNat,by omega⟩;have a:k<c.Mats.length:=by omega
 simp_all[Qu,kindAt]
theorem Qgo(c:Course)(a b:Int):Qq (Yd legKey true c.Legs) {from_:=a,to_:=b} false=hasLeg c a b:=by
 rw[Qdd];by_cases h:{from_:=a,to_:=b}∈c.Legs.map legKey
 .rw[Vq h];obtain⟨l,d,e⟩:=Xe.1 h;obtain⟨g,f⟩:=ends_eq.1 e;exact(Xt.2 ⟨l,d,by simp[g,f]⟩).symm
 .rw[Vp h]
  symm
  rw[VI];intro q;obtain⟨l,d,e⟩:=Xt.1 q;simp[XV,Vu]at e
  grind[legKey]
theorem Qkv(c:Course)(w:CourseOk c)(a b:Int):∃v:Int,Ev (λn=>F_am n c a b) v/\decide (v<0)= !hasLeg c a b:=by
 have u:c.Legs.length<=4611686018427387904:=by have:=w.legs;omega
 have step:∀i x,At c.Legs i x->Ev (λn=>F_ex n c a b i) (bif (x.From==a)&&(x.To==b)then .done (.done i)else .cont (i+1)):=by
  intro i x e;unfold F_ex;simp only[e.lt,e.ix,e.nx];refine Ea (Ei λ_=>Qa _) ?_
  grind[Qa]
 have loop:∀(r:List Leg) (i:Nat),c.Legs.drop i=r->i<=c.Legs.length->∃d:Ctl Unit Int,EvI (λn=>F_ex n c a b) i d/\((r.any λl=>(l.From==a)&&(l.To==b))=true->∃j:Nat,d=.done j)/\((r.any λl=>(l.From==a)&&(l.To==b))=false->d=.cont ()):=by
  intro r
  induction r with
  |nil=>
   intro i m t;refine⟨.cont (),Ej ?_,λh=>(by simp at h),λ_=>rfl⟩
   grind[F_ex,QS,Qa]
  |cons x r p=>
   intro i m t;obtain⟨e,k⟩:=Qt u m;have s:=step i x e;rw[List.any_cons];cases h:((x.From==a)&&(x.To==b))with
   |true=>
    rw[h]at s;exact⟨.done i,Ej s,λ_=>⟨i,rfl⟩,λh=>by simp at h⟩
   |false=>
    rw[h]at s;obtain⟨d,f,g⟩:=p (i+1) k (by have:=e.lt';omega);exact⟨d,Ex s f,by simpa using g⟩
 obtain⟨d,f,g,q⟩:=loop c.Legs 0 rfl (XT _);unfold hasLeg;cases h:c.Legs.any λl=>(l.From==a)&&(l.To==b)with
 |true=>
  obtain⟨j,rfl⟩:=g h;exact⟨j,Ea f.ev (Qa _),by simp⟩
 |false=>
  obtain rfl:=q h;exact⟨-1,Ea f.ev (Qa _),by simp⟩
theorem QgM(l:List Int)(k:Int)(s:l.length<=1048576):Ev (λn=>F_aw n l k) (l.count k:Int):=by
 have loop:∀(r:List Int) (i:Nat) (a:Nat),l.drop i=r->i<=l.length->a<=i->EvI (λn=>F_dl n l k) (a,i) (a+r.count k):=by
  intro r
  induction r with
  |nil=>
   grind[EvI.done,F_dl,QS,Qa]
  |cons x r f=>
   intro i a j q g;obtain⟨d,e⟩:=Qt (by omega) j;have m:=d.lt';have p:i64.wrap (a+1)=a+1:=Yc (by omega);rw[List.count_cons];cases h:(x==k)with
   |true=>
    refine(Ex ?_ (f (i+1) (a+1) e (by omega) (by omega))).eq ?_
    .unfold F_dl;simp only[d.lt,d.ix,XI,d.nx,h,p];exact Qa _
    grind
   |false=>
    refine(Ex ?_ (f (i+1) a e (by omega) (by omega))).eq ?_
    .unfold F_dl;simp only[d.lt,d.ix,XI,d.nx,h];exact Qa _
    .simp
 exact Ea ((loop l 0 0 rfl (XT _) (XS _)).ev) ((Qa _).eq (by omega))
structure NumOk (c:Course):Prop where
 kinds:∀m∈c.Mats,1<=m.Kind/\m.Kind<=3
 dist:∀d∈c.Distances,-1<=d.Extra/\d.Extra<=(c.Mats.length:Int)-1/\partsS ((c.Mats.length:Int)-1) d.Route=true
theorem Qg1{c:Course}(h:numbersS c=true):NumOk c:=by
 unfold numbersS at h;simp[XV,Xs]at h;refine⟨λm e=>?_,λd a=>?_⟩
 .grind[inR]
 simp_all[distS,inR]
theorem QiI{c:Course}(q:NumOk c){m:Int}(d:0<=m)(f:m<=(c.Mats.length:Int)-1):1<=kindAt c m/\kindAt c m<=3:=by
 obtain⟨x,a,g⟩:=Qcq d f;have:=by
  obtain⟨_,e⟩:=Qbh a;exact VD e
 rw[<- g];exact q.kinds x this
theorem Qkf{c:Course}(q:NumOk c){d:Distance}(hd:d∈c.Distances):∀x∈expS [] d.Route,0<=x/\x<=(c.Mats.length:Int)-1:=
 Qhi _ _ d.Route [] (XS _) (q.dist d hd).2.2 (by simp)
theorem Qgg(c:Course)(len i:Nat)(prev m:Int)(r:List Int):rokS c len i prev (m::r)=(((kindAt c m==1)==decide (i=0))&&(((kindAt c m==3)==decide (i+1=len))&&((decide (i=0)||hasLeg c prev m)&&rokS c len (i+1) m r))):=rfl
theorem Qh0(i:Nat):((i:Int)==0)=decide (i=0):=by
 grind
theorem QeO(c:Course)(r:List Int)(y:2<=r.length)(R:r.length<=256)(B:∀x∈r,0<=x/\x<=(c.Mats.length:Int)-1):
  Ev (λn=>iter (F_di n c (Yd legKey true c.Legs) r) n ([],0)) (bif rokS c r.length 0 0 r then .cont (cntM r)else .done false):=by
 have loop:∀(t:List Int) (i:Nat) (d:Int),r.drop i=t->i<=r.length->(0<i->At r (i-1) d)->EvI (λn=>F_di n c (Yd legKey true c.Legs) r) (cntM (r.take i),(i:Int)) (bif rokS c r.length i d t then .cont (cntM r)else .done false):=by
  intro t
  induction t with
  |nil=>
   intro i d g u _;refine Ej ?_;unfold F_di;simp only[QS g u,Vn,rokS,Vm]
   simp_all[VE,Qa]
  |cons m t M=>
   intro i d g u O;obtain⟨e,j⟩:=Qt (by omega) g;have Q:=e.lt';obtain⟨N,z⟩:=B m e.mem;obtain⟨x,F,H⟩:=Qcq N z;have P:i64.wrap ((r.length:Int)-1)=((r.length-1:Nat):Int):=by rw[Qz (by omega) (by omega)];omega
   have G:((i:Int)==((r.length-1:Nat):Int))=decide (i+1=r.length):=by grind
   have J:Ev (λn:Nat=>((bif ((x.Kind==1) != ((i:Int)==0))then some true else(bif ((x.Kind==3) != ((i:Int)==(i64.wrap ((r.length:Int)-1))))then some true else(bif decide (0<(i:Int))then(idx r (i64.wrap ((i:Int)-1))).bind λp=>(some (Qq (Yd legKey true c.Legs) ({from_:=p,to_:=m:Ui}) false)).bind λq=>some (!q)else some false))):Option Bool))
     (!(((kindAt c m==1)==decide (i=0))&&(((kindAt c m==3)==decide (i+1=r.length))&&(decide (i=0)||hasLeg c d m)))):=by
    rw[H,P,G,Qh0];refine Ew (Ql λ_=>Ql λ_=>QaK (v:= !hasLeg c d m) (w:=false) (λh=>?_) λ_=>Qa _) ?_
    .have k:0<i:=by simpa using h
     have E:i64.wrap ((i:Int)-1)=((i-1:Nat):Int):=by rw[Qz (by omega) (by omega)];omega
     rw[E,(O k).ix];simp only[XI,Qgo];exact Qa _
    grind
   have f:i64.wrap (Qq (cntM (r.take i)) m 0+1)=Qq (cntM (r.take i)) m 0+1:=by
    rw[Qet];have:(r.take i).count m<=i:=by have:=List.count_le_length (a:=m) (l:=r.take i);simp at this;omega
    exact Qz (by omega) (by omega)
   have step:Ev (λn=>F_di n c (Yd legKey true c.Legs) r (cntM (r.take i),(i:Int))) (bif ((kindAt c m==1)==decide (i=0))&&(((kindAt c m==3)==decide (i+1=r.length))&&(decide (i=0)||hasLeg c d m))then .cont (cntM (r.take (i+1)),((i+1:Nat):Int))else .done (.done false)):=by
    unfold F_di;simp only[e.lt,Vm,e.ix,XI,e.nx,F];refine Ea J ?_;rw[f, <- Qi2, <- e.take];cases(((kindAt c m==1)==decide (i=0))&&(((kindAt c m==3)==decide (i+1=r.length))&&(decide (i=0)||hasLeg c d m)))<;>exact Qa _
   have L:rokS c r.length i d (m::t)=((((kindAt c m==1)==decide (i=0))&&(((kindAt c m==3)==decide (i+1=r.length))&&(decide (i=0)||hasLeg c d m)))&&rokS c r.length (i+1) m t):=by rw[Qgg];simp only[Bool.and_assoc]
   rw[L];cases s:(((kindAt c m==1)==decide (i=0))&&(((kindAt c m==3)==decide (i+1=r.length))&&(decide (i=0)||hasLeg c d m)))with
   |false=>
    rw[s]at step;exact Ej step
   |true=>
    rw[s]at step;rw[Vw];exact Ex step (M (i+1) m j (by omega) (λ_=>by simpa using e))
 exact(loop r 0 0 rfl (XT _) (by omega)).ev
theorem Qhs(c:Course)(w:CourseOk c)(q:NumOk c)(d:Distance)(e:d∈c.Distances)(p:∀x∈d.Route,Part.wf x)(m:szPs d.Route<=256):
  Ev (λn=>F_ck n c d (Yd legKey true c.Legs)) (routeS c d):=by
 have j:=QaF d.Route;have k:=Qkf q e;have a:=Qeh _ d.Route [] (XS _);unfold F_ck routeS;refine Ea (QiT _ _ d.Route (XS _) m (by omega) p (q.dist d e).2.2) ?_;generalize expS [] d.Route=r at k a⊢;unfold routeR;have e3:=by
  have:r.length<=1048576:=by simp at a;omega
  exact QaE this
 rw[e3];have u:(decide ((r.length:Int)-1<1)||decide (256<=(r.length:Int)-1))= !(decide (2<=r.length)&&decide (r.length<=256)):=by
  grind
 refine Ea (Ew (Ql λ_=>Qa _) u) ?_;cases i:(decide (2<=r.length)&&decide (r.length<=256))with
 |false=>exact Qa _
 |true=>
  simp[XV,Vo]at i;refine Qs (Ea (QeO c r i.1 i.2 k) ?_);cases rokS c r.length 0 0 r with
  |false=>exact Qa _
  |true=>
   have l:Ev (λn=>(bif decide (0<=d.Extra)then(some (Qq (cntM r) d.Extra 0)).bind λf=>(bif (f==0)then some true else(idx c.Mats d.Extra).bind λg=>(bif (g.Kind != 2)then some true else(some (Qq (Yd legKey true c.Legs) ({from_:=d.Extra,to_:=d.Extra:Ui}) false)).bind λh=>some (!h)))else some false))
     (!(bif decide (0<=d.Extra)then !((r.count d.Extra:Int)==0)&&((kindAt c d.Extra==2)&&hasLeg c d.Extra d.Extra)else true)):=by
    rw[Qet];cases t:decide (0<=d.Extra)with
    |false=>exact Qa _
    |true=>
     obtain⟨x,y,s⟩:=Qcq (by simpa using t) (q.dist d e).2.1;simp only[XI,y,Qgo,s];refine Ew (Ql λ_=>Ql λ_=>Qa _) ?_;rw[bne];cases((r.count d.Extra:Int)==0)<;>cases(kindAt c d.Extra==2)<;>cases hasLeg c d.Extra d.Extra<;>rfl
   refine Ea l ?_;cases(bif decide (0<=d.Extra)then !((r.count d.Extra:Int)==0)&&((kindAt c d.Extra==2)&&hasLeg c d.Extra d.Extra)else true)with
   |false=>exact Qa _
   |true=>
    refine Qs (Ea ?_ (Qa _));refine Jc d.Cutoffs _ (λn x=>F_cc n x (cntM r)) (by have:=w.cut d e;omega) λx _=>?_;unfold F_cc;rw[Qet];exact Qa _
theorem Qel(c:Course)(w:CourseOk c)(q:NumOk c)(r:List Int)(E:2<=r.length)(X:r.length<=256)(F:∀x∈r,0<=x/\x<=(c.Mats.length:Int)-1):
  Ev (λn=>iter (F_cx n c r) n 0) (bif rokS c r.length 0 0 r then .cont ()else .done false):=by
 have loop:∀(t:List Int) (i:Nat) (a:Int),r.drop i=t->i<=r.length->(0<i->At r (i-1) a)->EvI (λn=>F_cx n c r) (i:Int) (bif rokS c r.length i a t then .cont ()else .done false):=by
  intro t
  induction t with
  |nil=>
   intro i a j z _;refine Ej ?_;unfold F_cx;simp only[QS j z,Vn,rokS,Vm];exact Qa _
  |cons m t O=>
   intro i a j z Q;obtain⟨f,p⟩:=Qt (by omega) j;have V:=f.lt';obtain⟨B,y⟩:=F m f.mem;obtain⟨x,J,M⟩:=Qcq B y;have W:=QiI q B y;have R:i64.wrap ((r.length:Int)-1)=((r.length-1:Nat):Int):=by rw[Qz (by omega) (by omega)];omega
   have L:((i:Int)==((r.length-1:Nat):Int))=decide (i+1=r.length):=by grind
   have step:Ev (λn=>F_cx n c r (i:Int)) (bif ((kindAt c m==1)==decide (i=0))&&(((kindAt c m==3)==decide (i+1=r.length))&&(decide (i=0)||hasLeg c a m))then .cont ((i+1:Nat):Int)else .done (.done false)):=by
    unfold F_cx;simp only[f.lt,Vm,f.ix,XI,f.nx,J,M,R,L,Qh0];refine Ea (v:=if i=0 then 1 else if i+1=r.length then 3 else 2) (EA ?_) ?_
    .by_cases e:i=0
     .simp[e]
     .by_cases h:i+1=r.length
      iterate 2 simp[e,h]
    refine Ea (v:= !(((kindAt c m==1)==decide (i=0))&&(((kindAt c m==3)==decide (i+1=r.length))&&(decide (i=0)||hasLeg c a m)))) ?_ ?_
    .have P:Ev (λn:Nat=>(bif decide (0<(i:Int))then(idx r (i64.wrap ((i:Int)-1))).bind λk=>(F_am n c k m).bind λs=>some (decide (s<0))else some false:Option Bool)) (!(decide (i=0)||hasLeg c a m)):=by
      by_cases e:i=0
      .subst e;exact Qa _
      .have H:i64.wrap ((i:Int)-1)=((i-1:Nat):Int):=by rw[Qz (by omega) (by omega)];omega
       obtain⟨v,G,T⟩:=Qkv c w a m;rw[QA (show(0:Int)<(i:Int)by omega),H,(Q (by omega)).ix,Qy e];exact Ea G ((Qa _).eq (by rw[T];rfl))
     refine Ew (Ql λ_=>P) ?_;have l:(kindAt c m != if i=0 then 1 else if i+1=r.length then 3 else 2)= !(((kindAt c m==1)==decide (i=0))&&((kindAt c m==3)==decide (i+1=r.length))):=by
      have d:kindAt c m=1\/kindAt c m=2\/kindAt c m=3:=by omega
      by_cases e:i=0
      .rcases d with g|g|g<;>simp[g,e,show¬1=r.length by omega]
      .by_cases h:i+1=r.length
       .rcases d with g|g|g<;>simp[g,e,h]
       .rcases d with g|g|g<;>simp[g,e,h]
     rw[l];cases((kindAt c m==1)==decide (i=0))<;>cases((kindAt c m==3)==decide (i+1=r.length))<;>cases(decide (i=0)||hasLeg c a m)<;>rfl
    grind[Qa]
   have N:rokS c r.length i a (m::t)=((((kindAt c m==1)==decide (i=0))&&(((kindAt c m==3)==decide (i+1=r.length))&&(decide (i=0)||hasLeg c a m)))&&rokS c r.length (i+1) m t):=by rw[Qgg];simp only[Bool.and_assoc]
   rw[N];cases u:(((kindAt c m==1)==decide (i=0))&&(((kindAt c m==3)==decide (i+1=r.length))&&(decide (i=0)||hasLeg c a m)))with
   |false=>
    rw[u]at step;exact Ej step
   |true=>
    rw[u]at step;rw[Vw];exact Ex step (O (i+1) m p (by omega) (λ_=>by simpa using f))
 exact(loop r 0 0 rfl (XT _) (by omega)).ev
theorem QgI(c:Course)(w:CourseOk c)(q:NumOk c)(d:Distance)(a:d∈c.Distances)(B:∀x∈d.Route,Part.wf x)(s:szPs d.Route<=256):
  Ev (λn=>F_cg n c d) (routeS c d):=by
 have m:=QaF d.Route;have p:=Qkf q a;have j:=Qeh _ d.Route [] (XS _);unfold F_cg routeS;refine Ea (QfJ _ _ d.Route (XS _) s (by omega) B (q.dist d a).2.2) ?_;generalize expS [] d.Route=r at p j⊢;unfold routeR;have H:(decide ((r.length:Int)<2)||decide (256<(r.length:Int)))= !(decide (2<=r.length)&&decide (r.length<=256)):=by
  grind
 refine Ea (Ew (Ql λ_=>Qa _) H) ?_;cases l:(decide (2<=r.length)&&decide (r.length<=256))with
 |false=>exact Qa _
 |true=>
  simp only[XV,Vo]at l;refine Qs (Ea (Qel c w q r l.1 l.2 p) ?_);cases rokS c r.length 0 0 r with
  |false=>exact Qa _
  |true=>
   have z:Ev (λn:Nat=>(bif (d.Extra != (-1))then(idx c.Mats d.Extra).bind λh=>(bif (h.Kind != 2)then some true else(F_aw n r d.Extra).bind λf=>(bif (f==0)then some true else(F_am n c d.Extra d.Extra).bind λg=>some (decide (g<0))))else some false))
     (!(bif decide (0<=d.Extra)then !((r.count d.Extra:Int)==0)&&((kindAt c d.Extra==2)&&hasLeg c d.Extra d.Extra)else true)):=by
    have e:=q.dist d a;have G:(d.Extra != (-1))=decide (0<=d.Extra):=by rw[XX];simp;omega
    rw[G];cases t:decide (0<=d.Extra)with
    |false=>exact Qa _
    |true=>
     obtain⟨x,y,E⟩:=Qcq (by simpa using t) e.2.1;obtain⟨v,u,F⟩:=Qkv c w d.Extra d.Extra;simp only[XI,y,E];refine Ew (Ql λ_=>Ea (QgM r _ (by omega)) (Ql λ_=>Ea u (Qa _))) ?_;rw[bne,F];cases((r.count d.Extra:Int)==0)<;>cases(kindAt c d.Extra==2)<;>cases hasLeg c d.Extra d.Extra<;>rfl
   refine Ea z ?_;cases(bif decide (0<=d.Extra)then !((r.count d.Extra:Int)==0)&&((kindAt c d.Extra==2)&&hasLeg c d.Extra d.Extra)else true)with
   |false=>exact Qa _
   |true=>
    refine Qs (Ea (Yr d.Cutoffs (λx=>decide (x.Lap<=r.count x.Mat)) (Ctl.done false) (Ctl.cont ()) (by have:=w.cut d a;omega) (λi x k=>?_) ?_) ?_)
    .unfold F_is;simp only[k.lt,k.ix,XI,k.nx];refine Ea (QgM r _ (by omega)) ?_;have:decide (r.count x.Mat<x.Lap)= !decide (x.Lap<=r.count x.Mat):=by rw[XX];simp
     rw[this];cases decide (x.Lap<=r.count x.Mat)<;>exact Qa _
    .unfold F_is;simp only[Qa6];exact Qa _
    .cases(d.Cutoffs.all λx=>decide (x.Lap<=r.count x.Mat))<;>exact Qa _
theorem Qc6{a b:Nat}(h:a+b<=4611686018427387904):i64.wrap ((a:Int)+(b:Int))=((a+b:Nat):Int):=by
 rw[Qz (by omega) (by omega)];omega
def lensC(c:Course):Nat:=c.Mats.length+c.Legs.length+c.Distances.length+c.Waves.length+c.Offences.length+c.Categories.length+c.Prizes.length
def fewD(d:Distance):Prop:=d.Cutoffs.length<=200/\szPs d.Route<=200/\hPs d.Route<=16
structure FewOk (c:Course):Prop where
 lens:lensC c<=200
 name:c.Name.length<=100
 dist:∀d∈c.Distances,fewD d
 ties:c.Ties.length<=200
theorem QfO(c:Course)(w:CourseOk c)(q:PartsOk c)(hl:c.Ties.length<=1048576)(hw:∀x∈c.Ties,Step.wf x):∃b,Ev (λn=>F_be n c) b/\(b=true->FewOk c):=by
 have hm:=w.mats;have hg:=w.legs;have hd:=w.dist;have F:=w.wave;have ho:=w.off;have hc:=w.cat;have hp:=w.prize;have loop:∀(t:List Distance) (i s:Nat),c.Distances.drop i=t->i<=c.Distances.length->∃f:Ctl Int Bool,EvI (λn=>F_by n c) ((s:Int),(i:Int)) f/\(f=.done false\/ ∃v:Nat,f=.cont (v:Int)/\(v<=200->s<=v/\ ∀d∈t,fewD d)):=by
  intro t
  induction t with
  |nil=>
   intro i s r G;refine⟨.cont (s:Int),Ej ?_,Or.inr ⟨s,rfl,λ_=>⟨XS _,by simp⟩⟩⟩;unfold F_by;simp only[QS r G,Vn,XI];exact Qa _
  |cons d t Y=>
   intro i s r G;obtain⟨g,y⟩:=Qt (by omega) r;have aa:=g.lt';by_cases W:s<=200
   .have j:=q.len d g.mem;have m:=q.wf d g.mem;have J:=w.cut d g.mem;have u:=Qdj _ d.Route (XS _) j m;have H:=Qdi _ d.Route 17 (XS _) (XS _) j m;have Q:i64.wrap ((s:Int)+(d.Cutoffs.length:Int))=((s+d.Cutoffs.length:Nat):Int):=Qc6 (by omega);have T:i64.wrap (((s+d.Cutoffs.length:Nat):Int)+((min (szPs d.Route) 257:Nat):Int))=((s+d.Cutoffs.length+min (szPs d.Route) 257:Nat):Int):=Qc6 (by omega);have step:Ev (λn=>F_by n c ((s:Int),(i:Int))) (bif decide ((16:Int)<((min (hPs d.Route) 17:Nat):Int))then .done (.done false)else .cont (((s+d.Cutoffs.length+min (szPs d.Route) 257:Nat):Int),((i+1:Nat):Int))):=by
     unfold F_by;simp only[g.lt,Vm,g.ix,XI,g.nx,QA (show(s:Int)<=200 by omega)];refine Ea u (Ea H ?_);rw[Q,T];cases decide ((16:Int)<((min (hPs d.Route) 17:Nat):Int))<;>exact Qa _
    by_cases R:hPs d.Route<=16
    .rw[Qy (show¬(16:Int)<((min (hPs d.Route) 17:Nat):Int)by omega)]at step;obtain⟨f,p,k⟩:=Y (i+1) (s+d.Cutoffs.length+min (szPs d.Route) 257) y (by omega);refine⟨f,Ex step p,?_⟩;rcases k with k|⟨v,k,z⟩
     .exact Or.inl k
     .refine Or.inr ⟨v,k,λF=>?_⟩;obtain⟨L,B⟩:=z F;refine⟨by omega,λx E=>?_⟩;rcases X5.1 E with rfl|E
      .exact⟨by omega,by omega,R⟩
      .exact B x E
    .rw[QA (show(16:Int)<((min (hPs d.Route) 17:Nat):Int)by omega)]at step;exact⟨.done false,Ej step,Or.inl rfl⟩
   .refine⟨.cont (s:Int),Ej ?_,Or.inr ⟨s,rfl,λh=>absurd h W⟩⟩;unfold F_by;simp only[g.lt,Vm,Qy (show¬(s:Int)<=200 by omega),XI,Vn];exact Qa _
 obtain⟨f,p,k⟩:=loop c.Distances 0 (lensC c) rfl (XT _);have e:i64.wrap ((i64.wrap ((i64.wrap ((i64.wrap ((i64.wrap ((i64.wrap ((c.Mats.length:Int)+(c.Legs.length:Int)))+(c.Distances.length:Int)))+(c.Waves.length:Int)))+(c.Offences.length:Int)))+(c.Categories.length:Int)))+(c.Prizes.length:Int))=(lensC c:Int):=by
  have M:c.Mats.length+c.Legs.length<=4611686018427387904:=by omega
  have N:c.Mats.length+c.Legs.length+c.Distances.length<=4611686018427387904:=by omega
  have X:c.Mats.length+c.Legs.length+c.Distances.length+c.Waves.length<=4611686018427387904:=by omega
  have O:c.Mats.length+c.Legs.length+c.Distances.length+c.Waves.length+c.Offences.length<=4611686018427387904:=by omega
  have V:c.Mats.length+c.Legs.length+c.Distances.length+c.Waves.length+c.Offences.length+c.Categories.length<=4611686018427387904:=by omega
  have P:c.Mats.length+c.Legs.length+c.Distances.length+c.Waves.length+c.Offences.length+c.Categories.length+c.Prizes.length<=4611686018427387904:=by omega
  rw[Qc6 M,Qc6 N,Qc6 X,Qc6 O,Qc6 V,Qc6 P];rfl
 unfold F_be;rw[e];rcases k with rfl|⟨v,rfl,z⟩
 .exact⟨false,Ea p.ev (Qa _),λh=>by cases h⟩
 .obtain⟨a,b,u,H,p3,_,_,_,_⟩:=Qia _ c.Ties 0 (XS _) (by omega) hl hw;have l:Ev (λn=>F_cm n c.Ties) (decide ((c.Ties.length:Int)<=20)&&(decide (a<=80)&&decide (b<=300))):=by
   unfold F_cm;exact Ea u (Ea (Ei λ_=>Ei λ_=>Qa _) (Qa _))
  refine⟨decide ((v:Int)<=200)&&(decide ((c.Name.length:Int)<=100)&&(decide ((c.Ties.length:Int)<=20)&&(decide (a<=80)&&decide (b<=300)))),Ea p.ev (Ea (Ei λ_=>Ei λ_=>Ea l (Qa _)) (Qa _)),λh=>?_⟩;simp only[XV,Vo]at h;obtain⟨L,B⟩:=z (by omega);exact⟨by omega,by omega,B,by omega⟩
def fitsS(c:Course):Bool:=
 !(decide (40<(c.Mats.length:Int))||(decide (512<(c.Legs.length:Int))||(decide (8<(c.Distances.length:Int))||(decide (32<(c.Waves.length:Int))||(decide (32<(c.Offences.length:Int))||(decide (32<(c.Categories.length:Int))||decide (32<(c.Prizes.length:Int))))))))
  &&c.Distances.all λd=> !decide (64<(d.Cutoffs.length:Int))
theorem QlF(c:Course)(w:CourseOk c)(q:PartsOk c)(k:FewOk c):Ev (λn=>F_cq n c) (fitsS c):=by
 unfold F_cq fitsS;refine Ea (Ql λ_=>Ql λ_=>Ql λ_=>Ql λ_=>Ql λ_=>Ql λ_=>Qa _) ?_;cases(decide (40<(c.Mats.length:Int))||(decide (512<(c.Legs.length:Int))||(decide (8<(c.Distances.length:Int))||(decide (32<(c.Waves.length:Int))||(decide (32<(c.Offences.length:Int))||(decide (32<(c.Categories.length:Int))||decide (32<(c.Prizes.length:Int))))))))with
 |true=>exact Qa _
 |false=>
  refine Qs (Ea (Yr c.Distances (λd=> !decide (64<(d.Cutoffs.length:Int))) (Ctl.done false) (Ctl.cont ()) (by have:=w.dist;omega) (λi x a=>?_) ?_) ?_)
  .obtain⟨e,f,g⟩:=k.dist x a.mem;unfold F_ir;simp only[a.lt,a.ix,XI,a.nx];refine Ea (Qkp _ x.Route 17 (XS _) (by omega) (XS _) (by omega) (q.wf x a.mem)) ?_
   grind[Qa]
  .simp_all[F_ir,Qa]
  .cases(c.Distances.all λd=> !decide (64<(d.Cutoffs.length:Int)))<;>exact Qa _
theorem QiU(c:Course)(w:CourseOk c)(q:PartsOk c)(k:FewOk c):Ev (λn=>F_ch n c) (fitsS c):=by
 unfold F_ch fitsS;refine Ea (Ql λ_=>Ql λ_=>Ql λ_=>Ql λ_=>Ql λ_=>Ql λ_=>Qa _) ?_;cases(decide (40<(c.Mats.length:Int))||(decide (512<(c.Legs.length:Int))||(decide (8<(c.Distances.length:Int))||(decide (32<(c.Waves.length:Int))||(decide (32<(c.Offences.length:Int))||(decide (32<(c.Categories.length:Int))||decide (32<(c.Prizes.length:Int))))))))with
 |true=>exact Qa _
 |false=>
  refine Qs (Ea (Yr c.Distances (λd=> !decide (64<(d.Cutoffs.length:Int))) (Ctl.done false) (Ctl.cont ()) (by have:=w.dist;omega) (λi x e=>?_) ?_) ?_)
  .obtain⟨g,j,h⟩:=k.dist x e.mem;have a:=q.len x e.mem;have f:=q.wf x e.mem;unfold F_iy;simp only[e.lt,e.ix,XI,e.nx];refine Ea (Ql λ_=>Ea (Qdi _ x.Route 17 (XS _) (XS _) a f) (Ql λ_=>Ea (Qdj _ x.Route (XS _) a f) (Qa _))) ?_
   grind[Qa]
  .simp_all[F_iy,Qa]
  .cases(c.Distances.all λd=> !decide (64<(d.Cutoffs.length:Int)))<;>exact Qa _
def courseE(c:Course):Int:=
 bif fitsS c then bif namesS c then bif numbersS c then bif tiesE c.Ties==0 then bif c.Distances.all (routeS c)then 0 else 72 else tiesE c.Ties else 71 else 70 else 2
theorem QiY(c:Course)(w:CourseOk c)(q:PartsOk c)(k:FewOk c)(g:c.Ties.length<=1048576)(f:∀x∈c.Ties,Step.wf x):Ev (λn=>F_c n c) (courseE c):=by
 unfold F_c courseE;refine Ea (QlF c w q k) ?_;cases fitsS c with
 |false=>exact Qa _
 |true=>
 refine Qs (Ea (Qkj c w) ?_);cases namesS c with
 |false=>exact Qa _
 |true=>
 refine Qs (Ea (Qhr c w q) ?_);cases h:numbersS c with
 |false=>exact Qa _
 |true=>
 refine Qs (Ea (QlG c.Ties g f) ?_);rw[bne];cases(tiesE c.Ties==0)with
 |false=>exact Qa _
 |true=>
 have e:Ev (λn=>iter (F_gu n c) n ([],0)) (Yd legKey true c.Legs):=by
  refine Qbq c.Legs legKey true (by have:=w.legs;omega) (λi x m a=>?_) (λm=>?_)
  .unfold F_gu;simp only[a.lt,a.ix,a.nx];exact Qa _
  simp_all[F_gu,Qa]
 refine Qs (Ea e ?_);have a:Ev (λn=>F_ey n c.Distances c (Yd legKey true c.Legs)) (c.Distances.all (routeS c)):=by
  refine Jc c.Distances _ (λn x=>F_ds n x c (Yd legKey true c.Legs)) (by have:=w.dist;omega) λx d=>?_;exact Ea (Qhs c w (Qg1 h) x d (q.wf x d) (by have:=(k.dist x d).2.1;omega)) (Qa _)
 refine Ea a ?_
 grind[Qa]
theorem QfK(c:Course)(w:CourseOk c)(q:PartsOk c)(k:FewOk c)(f:c.Ties.length<=1048576)(e:∀x∈c.Ties,Step.wf x):Ev (λn=>F_bb n c) (courseE c):=by
 have a:=k.lens;unfold lensC at a;have g:Short c:=⟨by omega,by omega,by omega,by omega,by omega⟩;unfold F_bb courseE;refine Ea (QiU c w q k) ?_;cases fitsS c with
 |false=>exact Qa _
 |true=>
 refine Qs (Ea (QgK c w g) ?_);cases namesS c with
 |false=>exact Qa _
 |true=>
 refine Qs (Ea (QfI c w q) ?_);cases h:numbersS c with
 |false=>exact Qa _
 |true=>
 refine Qs (Ea (Qho c.Ties f e) ?_);rw[bne];cases(tiesE c.Ties==0)with
 |false=>exact Qa _
 |true=>
 refine Qs (Ea (Yr c.Distances (routeS c) (Ctl.done 72) (Ctl.cont ()) (by omega) (λi x d=>?_) ?_) ?_)
 .unfold F_ix;simp only[d.lt,d.ix,XI,d.nx];refine Ea (QgI c w (Qg1 h) x d.mem (q.wf x d.mem) (by have:=(k.dist x d.mem).2.1;omega)) ?_;cases routeS c x<;>exact Qa _
 .simp_all[F_ix,Qa]
 grind[Qa]
theorem Qdx{α:Type}(l:List α){a b:Nat}(h:a<=b)(d:b<=l.length):slc l (a:Int) (b:Int)=some ((l.take b).drop a):=by
 grind[slc]
theorem Ql8{α:Type}(l:List α){b:Nat}(a:b<=l.length):slc l 0 (b:Int)=some (l.take b):=by
 have:=Qdx l (XT b) a
 grind
theorem QjL{α:Type}(l:List α){a:Nat}(d:a<=l.length):slc l (a:Int) (l.length:Int)=some (l.drop a):=by
 simp_all[Qdx]
theorem QlK{α:Type}(l m:List α)(h:l.length+m.length<=4294967296):app l m=some (l++m):=by
 unfold app;rw[XR (by exact h)];rfl
def firstI{α:Type}(q:α->Bool):List α->Nat->Int
 |[],_=> -1
 |x::l,i=>bif q x then(i:Int)else firstI q l (i+1)
theorem Ev.first{α:Type}{step:Nat->Int->Option (Ctl Int (Ctl Unit Int))}(l:List α)(q:α->Bool)(f:l.length<=4611686018427387904)
  (e:∀i x,At l i x->Ev (λn=>step n (i:Int)) (bif q x then .done (.done (i:Int))else .cont ((i+1:Nat):Int)))(k:Ev (λn=>step n (l.length:Int)) (.done (.cont ()))):
  Ev (λn=>(Go.Sw.iter (step n) n 0).bind λb=>match b with|.cont _=>some (-1)|.done v=>some v) (firstI q l 0):=by
 have loop:∀(r:List α) (i:Nat),l.drop i=r->i<=l.length->∃a:Ctl Unit Int,EvI step i a/\(match a with|.cont _=>some (-1)|.done v=>some v)=some (firstI q r i):=by
  intro r
  induction r with
  |nil=>
   intro i d j;have:i=l.length:=by have:=Xq.1 d;omega
   subst this;exact⟨.cont (),Ej k,rfl⟩
  |cons x r u=>
   intro i d j;obtain⟨m,p⟩:=Qt f d;have s:=e i x m;unfold firstI;cases h:q x with
   |true=>
    rw[h]at s;exact⟨_,Ej s,rfl⟩
   |false=>
    grind[EvI.cont]
 obtain⟨a,t,g⟩:=loop l 0 rfl (XT _);exact Ea t.ev (EA g)
theorem Qdg{α:Type}(q:α->Bool):∀(l:List α) (i:Nat),(firstI q l i= -1/\l.all (λx=> !q x)=true)\/ ∃j x,firstI q l i=((i+j:Nat):Int)/\l[j]?=some x/\q x=true/\(l.take j).all (λx=> !q x)=true
 |[],_=>.inl ⟨rfl,rfl⟩
 |x::l,i=>by
  unfold firstI;cases h:q x with
  |true=>exact .inr ⟨0,x,rfl,rfl,h,rfl⟩
  |false=>
   rcases Qdg q l (i+1)with⟨h1,h2⟩|⟨j,y,h1,h2,h3,h4⟩
   .grind
   .refine .inr ⟨j+1,y,by grind,h2,h3,by simp[h,h4]⟩
set_option maxRecDepth 4000
def cmpI(a b:Int):Int:=bif decide (a<b)then-1 else bif decide (b<a)then 1 else 0
theorem Qib(n:Nat)(a b:Int):F_g n a b=some (cmpI a b):=by
 unfold F_g F_bo cmpI
 grind
def orL:List Int->Int
 |[]=>0
 |x::r=>bif x != 0 then x else orL r
theorem ev_or(l:List Int)(k:l.length<=1000):Ev (λn=>F_an n l) (orL l):=by
 have loop:∀(r:List Int) (i:Nat),l.drop i=r->i<=l.length->EvI (λn=>F_aq n l) i (bif orL r==0 then Ctl.cont ()else Ctl.done (orL r)):=by
  intro r
  induction r with
  |nil=>
   intro i d g;refine Ej ?_;unfold F_aq;simp only[QS d g];exact Qa _
  |cons x r h=>
   intro i d g;obtain⟨a,f⟩:=Qt (by omega) d;have j:=a.lt';unfold orL;cases q:(x != 0)with
   |true=>
    have e:(x==0)=false:=by grind
    simp[Vm,e];refine Ej ?_;unfold F_aq;simp only[a.lt,a.ix,XI,q];exact Qa _
   |false=>
    refine Ex ?_ (h (i+1) f (by omega));unfold F_aq;simp only[a.lt,a.ix,XI,q,a.nx];exact Qa _
 refine Ea (loop l 0 rfl (XT _)).ev ?_
 grind[Qa]
theorem QbE{β:Type}(m:List (Int×β))(k:Int):YF m k=(Y5 m k).isSome:=by
 unfold YF Y5
 grind
set_option maxRecDepth 4000
section
variable {α:Type} {c d:α->α->Int}
end
theorem Qdr{c:Course}(h:Course.wf c):CourseOk c:=by
 obtain⟨f,⟨i,q⟩,⟨g,s⟩,⟨j,d⟩,⟨n,k⟩,⟨l,e⟩,⟨r,m⟩,⟨p,t⟩,_⟩:=h;exact⟨f,i,λx a=>(q x a).1,g,j,λx a=>(d x a).1,λx a=>(d x a).2.2.2.1.1,n,λx a=>(k x a).1,l,λx a=>(e x a).1,r,λx a=>(m x a).1,p⟩
theorem Qex{c:Course}(h:Course.wf c):PartsOk c:=by
 obtain⟨_,_,_,⟨f,e⟩,_⟩:=h;exact⟨λd a=>(e d a).2.1.1,λd a=>(e d a).2.1.2⟩
theorem QhV{c:Course}(h:Course.wf c):c.Ties.length<=1048576/\ ∀x∈c.Ties,Step.wf x:=by
 obtain⟨_,_,_,_,_,_,_,_,a,_⟩:=h;exact a
theorem Qcx(p:Nat->Bool):∀k,(∀i,i<k->p i=true)\/ ∃j,j<k/\p j=false/\ ∀i,i<j->p i=true
 |0=>.inl λi h=>absurd h (Nat.not_lt_zero _)
 |k+1=>by
  rcases Qcx p k with h|⟨j,h1,h2,h3⟩
  .cases q:p k with
   |true=>exact .inl λi hi=>(Nat.lt_succ_iff_lt_or_eq.1 hi).elim (h i) λe=>e▸q
   |false=>exact .inr ⟨k,Xn _,q,h⟩
  .exact .inr ⟨j,by omega,h2,h3⟩
theorem QmW{p:Nat->Bool}{k:Nat}:(List.range k).all p=true↔ ∀i,i<k->p i=true:=by simp[Xs]
theorem QcK{B:Type}{step:Nat->Int->Option (Ctl Int B)}(k:Nat)(p:Nat->Bool)(f b:B)
  (d:∀i,i<k->Ev (λn=>step n (i:Int)) (bif p i then .cont ((i+1:Nat):Int)else .done f))(m:Ev (λn=>step n (k:Int)) (.done b)):
  Ev (λn=>Go.Sw.iter (step n) n 0) (bif (List.range k).all p then b else f):=by
 rcases Qcx p k with h|⟨j,g,e,l⟩
 .rw[QmW.2 h];exact Ev.iter (λi=>(i:Int)) k rfl (λi a=>(d i a).eq (by rw[h i a];rfl)) m
 .have:(List.range k).all p=false:=by
   rw[VI];intro q;rw[QmW.1 q j g]at e;cases e
  rw[this];exact Ev.iter (λi=>(i:Int)) j rfl (λi a=>(d i (by omega)).eq (by rw[l i a];rfl)) ((d j g).eq (by rw[e];rfl))
theorem atN{α:Type}{l:List α}{i:Nat}(hl:l.length<=1048576)(hi:i<l.length):At l i l[i]:=Y4 (by omega) (XJ hi)
theorem QdK{n:Nat}(h:n<=1048576):i64.wrap ((n:Int)+1)=((n+1:Nat):Int):=Yc (by omega)
def segLt(x y:Segment):Bool:=decide (x.Mat<y.Mat)||((x.Mat==y.Mat)&&decide (x.Epoch<y.Epoch))
def cmpSeg(x y:Segment):Int:=orL [cmpI x.Mat y.Mat,cmpI x.Epoch y.Epoch]
theorem Qi3(x y:Segment):decide (0<=cmpSeg x y)= !segLt x y:=by
 unfold cmpSeg segLt orL orL orL cmpI;by_cases a:x.Mat<y.Mat
 .simp[a]
 .by_cases d:y.Mat<x.Mat
  .have:¬x.Mat=y.Mat:=by omega
   simp[a,d,this]
  .have:x.Mat=y.Mat:=by omega
   by_cases e:x.Epoch<y.Epoch
   .simp[a,d,this,e]
   .by_cases f:y.Epoch<x.Epoch
    iterate 2 simp[a,d,this,e,f]
theorem Qks(a b:Int):Ev (λn=>F_g n a b) (cmpI a b):=Qk0 (Qa _) λn=>Qib n a b
theorem QgG(x y:Segment):Ev (λn=>F_bd n x y) (cmpSeg x y):=by
 unfold F_bd F_fj;exact Ea (Ea (Qks _ _) (Ea (Qks _ _) (Ea (ev_or _ (by simp)) (Qa _)))) (Qa _)
def timeB(x:Int):Bool:=inR (-1099511627776) 1099511627776 x
theorem Qa5(x:Int):Ev (λn=>F_l n x) (timeB x):=by
 unfold F_l timeB inR;exact Ea (Ei λ_=>Qa _) (Qa _)
def prevSeg(c:Clocks)(i:Nat)(x:Segment):Bool:=decide (0<(i:Int))&& !(match c.Segments[i-1]? with|some y=>segLt y x|none=>true)
def segBad(c:Clocks)(i:Nat)(x:Segment):Bool:=decide (x.Mat<0)||(decide (40<=x.Mat)||(decide (x.Epoch<0)||(decide (255<x.Epoch)||(!timeB x.Anchor||prevSeg c i x))))
def segsB(c:Clocks):Bool:=(List.range c.Segments.length).all λi=>match c.Segments[i]? with|some x=> !segBad c i x|none=>true
theorem Qj2{α:Type}{l:List α}{i:Nat}{y:α}(d:l.length<=1048576)(hi:0<i)(a:i<=l.length)(h:l[i-1]?=some y):idx l (i64.wrap ((i:Int)-1))=some y:=by
 rw[Qz (by omega) (by omega),show((i:Int)-1)=((i-1:Nat):Int)by omega];exact Qu h
theorem Qly(c:Clocks)(j:c.Segments.length<=1048576):Ev (λn=>iter (F_he n c) n 0) (bif segsB c then Ctl.cont ()else Ctl.done 160):=by
 unfold segsB;refine QcK c.Segments.length _ _ _ (λi l=>?_) ?_
 .have a:=atN j l;unfold F_he;simp only[a.lt,Vm,a.ix,XI,a.nx,a.get];have:Ev (λn=>((bif decide ((c.Segments[i]).Mat<0)then some true else(bif decide (40<=(c.Segments[i]).Mat)then some true else(bif decide ((c.Segments[i]).Epoch<0)then some true else(bif decide (255<(c.Segments[i]).Epoch)then some true else(F_l n (c.Segments[i]).Anchor).bind λf=>(bif (!f)then some true else(bif decide (0<(i:Int))then(idx c.Segments (i64.wrap ((i:Int)-1))).bind λe=>(F_bd n e (c.Segments[i])).bind λd=>some (decide (0<=d))else some false)))))):Option Bool)) (segBad c i (c.Segments[i])):=by
   unfold segBad;refine Ql λ_=>Ql λ_=>Ql λ_=>Ql λ_=>Ea (Qa5 _) (Ql λ_=>?_);unfold prevSeg;refine Ei λh=>?_;have k:0<i:=by have:=Vs h;omega
   have g:i-1<c.Segments.length:=by omega
   rw[Qj2 j k (by omega) (XJ g),XJ g];simp only[XI];exact Ea (QgG _ _) ((Qa _).eq (Qi3 _ _))
  refine Ea this ?_;cases segBad c i (c.Segments[i])<;>exact Qa _
 .unfold F_he;simp only[Qa6,Vn];exact Qa _
def farBad(x:Int):Bool:=decide (x< -2199023255552)||decide (2199023255552<x)
theorem QiS(l:List Int)(a:l.length<=1048576):Ev (λn=>F_bi n l) (l.any farBad):=by
 unfold F_bi F_fm;refine Ev.contains l farBad (λn x=>F_dk n x) (by omega) λx _=>?_;unfold F_dk farBad;exact Ea (Ql λ_=>Qa _) (Qa _)
def rowB(c:Clocks)(i:Nat)(r:List Int):Bool:= !(((r.length:Int) != ((c.Segments.length+1:Nat):Int))||((r[i]?.getD 1 != 0)||r.any farBad))
def rowsB(c:Clocks):Bool:=(List.range c.Far.length).all λi=>match c.Far[i]? with|some r=>rowB c i r|none=>true
theorem Qlz(c:Clocks)(l:c.Segments.length<=1048576)(j:c.Far.length<=1048576)(k:∀r∈c.Far,r.length<=1048576)(p:c.Far.length=c.Segments.length+1):
  Ev (λn=>iter (F_hy n c) n 0) (bif rowsB c then Ctl.cont ()else Ctl.done 160):=by
 unfold rowsB;refine QcK c.Far.length _ _ _ (λi m=>?_) ?_
 .have d:=atN j m;unfold F_hy;simp only[d.lt,Vm,d.ix,XI,d.nx,d.get,QdK l];have:Ev (λn=>((bif (((c.Far[i]).length:Int) != ((c.Segments.length+1:Nat):Int))then some true else(idx (c.Far[i]) (i:Int)).bind λa=>(bif (a != 0)then some true else(F_bi n (c.Far[i])).bind λe=>some e)):Option Bool)) (!rowB c i (c.Far[i])):=by
   unfold rowB;rw[Bool.not_not];refine Ql λh=>?_;have g:(c.Far[i]).length=c.Segments.length+1:=by
    have:((c.Far[i]).length:Int)=((c.Segments.length+1:Nat):Int):=by simpa[bne]using h
    omega
   have f:i<(c.Far[i]).length:=by omega
   rw[Qu (XJ f),XJ f];simp only[XI,Option.getD_some];exact Ql λ_=>Ea (QiS _ (k _ d.mem)) (Qa _)
  refine Ea this ?_;cases rowB c i (c.Far[i])<;>exact Qa _
 .unfold F_hy;simp only[Qa6,Vn];exact Qa _
def farG(c:Clocks)(i j:Nat):Int:=((c.Far[i]?.getD [])[j]?).getD 0
structure Dims (c:Clocks):Prop where
 segs:c.Segments.length<=511
 far:c.Far.length=c.Segments.length+1
 row:∀i,i<c.Far.length->(c.Far[i]?.getD []).length=c.Segments.length+1
theorem Dims.get{c:Clocks}(d:Dims c){i j:Nat}(hi:i<c.Segments.length+1)(f:j<c.Segments.length+1):c.Far[i]?=some (c.Far[i]?.getD [])/\(c.Far[i]?.getD [])[j]?=some (farG c i j):=by
 have a:i<c.Far.length:=by rw[d.far];exact hi
 have e:=d.row i a;refine⟨by rw[XJ a];rfl,?_⟩;unfold farG;have:j<(c.Far[i]?.getD []).length:=by omega
 rw[XJ this];rfl
def triB(c:Clocks):Bool:=(List.range (c.Segments.length+1)).all λi=>(List.range (c.Segments.length+1)).all λj=>(List.range (c.Segments.length+1)).all λk=> !decide (i64.wrap (farG c i j+farG c j k)<farG c i k)
theorem ltN{a b:Nat}(h:a<b):decide ((a:Int)<(b:Int))=true:=Vr (by omega)
theorem geN{a b:Nat}(h:b<=a):decide ((a:Int)<(b:Int))=false:=decide_eq_false (by omega)
theorem QmC(c:Clocks)(d:Dims c):Ev (λn=>iter (F_hb n c) n 0) (bif triB c then Ctl.cont ()else Ctl.done 160):=by
 have s:=d.segs;unfold triB;refine QcK (c.Segments.length+1) _ _ _ (λi e=>?_) ?_
 .unfold F_hb;have g:=(d.get e e).1;have l:=d.row i (by rw[d.far];exact e);simp only[QdK (show c.Segments.length<=1048576 by omega),ltN e,Vm,Qu g,XI,QdK (show i<=1048576 by omega)];refine Ea (QcK (c.Segments.length+1) (λj=>(List.range (c.Segments.length+1)).all λk=> !decide (i64.wrap (farG c i j+farG c j k)<farG c i k)) (Ctl.done (Ctl.done (Ctl.done 160))) (Ctl.cont ()) (λj a=>?_) ?_) ?_
  .unfold F_ja;have m:=(d.get e a).2;have p:=(d.get a a).1;have f:=d.row j (by rw[d.far];exact a);simp only[l,ltN a,Vm,Qu m,Qu p,XI,QdK (show j<=1048576 by omega)];refine Ea (QcK (c.Segments.length+1) (λk=> !decide (i64.wrap (farG c i j+farG c j k)<farG c i k)) (Ctl.done (Ctl.done (Ctl.done (Ctl.done (Ctl.done 160))))) (Ctl.cont ()) (λk h=>?_) ?_) ?_
   .unfold F_io;have r:=(d.get a h).2;have q:=(d.get e h).2;simp only[f,ltN h,Vm,Qu r,Qu g,Qu q,XI,QdK (show k<=1048576 by omega)];cases decide (i64.wrap (farG c i j+farG c j k)<farG c i k)<;>exact Qa _
   .unfold F_io;simp only[f,geN (XS _),Vn];exact Qa _
   .cases(List.range (c.Segments.length+1)).all λk=> !decide (i64.wrap (farG c i j+farG c j k)<farG c i k)<;>exact Qa _
  .unfold F_ja;simp only[l,geN (XS _),Vn];exact Qa _
  .cases(List.range (c.Segments.length+1)).all λj=>(List.range (c.Segments.length+1)).all λk=> !decide (i64.wrap (farG c i j+farG c j k)<farG c i k)<;>exact Qa _
 .unfold F_hb;simp only[QdK (show c.Segments.length<=1048576 by omega),geN (XS _),Vn];exact Qa _
def clkB(c:Clocks):Bool:= !(decide (511<(c.Segments.length:Int))||((c.Far.length:Int) != ((c.Segments.length+1:Nat):Int)))&&(segsB c&&(rowsB c&&triB c))
structure ClkW (c:Clocks):Prop where
 segs:c.Segments.length<=1048576
 far:c.Far.length<=1048576
 row:∀r∈c.Far,r.length<=1048576
theorem Qie{c:Clocks}(g:¬511<(c.Segments.length:Int))(d:c.Far.length=c.Segments.length+1)(f:rowsB c=true):Dims c:=by
 refine⟨by omega,d,λi a=>?_⟩;have:=QmW.1 f i a;rw[XJ a]at this⊢;simp only[rowB,Bool.not_eq_true',XW]at this;have e:((c.Far[i]).length:Int)=((c.Segments.length+1:Nat):Int):=by simpa[bne]using this.1
 simp only[Option.getD_some];omega
theorem Qkt(c:Clocks)(w:ClkW c):Ev (λn=>F_al n c) (bif clkB c then 0 else 160):=by
 unfold F_al clkB;simp only[QdK w.segs];refine Ea (Ql λ_=>Qa _) ?_;cases a:(decide (511<(c.Segments.length:Int))||((c.Far.length:Int) != ((c.Segments.length+1:Nat):Int)))with
 |true=>exact Qa _
 |false=>
  simp only[Xh,Vw,XW,decide_eq_false_iff_not]at a⊢;have d:c.Far.length=c.Segments.length+1:=by
   have:(c.Far.length:Int)=((c.Segments.length+1:Nat):Int):=by simpa[bne]using a.2
   omega
  refine Qs (Ea (Qly c w.segs) ?_);cases segsB c with
  |false=>exact Qa _
  |true=>
   refine Ea (Qlz c w.segs w.far w.row d) ?_;cases e:rowsB c with
   |false=>exact Qa _
   |true=>
    refine Ea (QmC c (Qie a.1 d e)) ?_;cases triB c<;>exact Qa _
theorem Qi4{c:Clocks}(h:clkB c=true):Dims c:=by
 simp only[clkB,XV,Bool.not_eq_true',XW,decide_eq_false_iff_not]at h;have a:c.Far.length=c.Segments.length+1:=by
  have:(c.Far.length:Int)=((c.Segments.length+1:Nat):Int):=by simpa[bne]using h.1.2
  omega
 exact Qie h.1.1 a h.2.2.1
set_option maxRecDepth 10000
structure CrsOk (c:Course):Prop where
 mats:c.Mats.length<=40
 res:0<=c.Faults.Residual/\c.Faults.Residual<=4294967296
 drift:0<=c.Faults.Drift/\c.Faults.Drift<=100000
def driftV(x k:Int):Int:=Int.tdiv ((if x<0-x then 0-x else x)*k+1000000-1) 1000000
theorem QgS{x k:Int}(i: -2199023255552<=x/\x<=2199023255552)(d:0<=k/\k<=100000):0<=driftV x k/\driftV x k<=274877906944/\0<=(if x<0-x then 0-x else x)*k/\(if x<0-x then 0-x else x)*k<=219902325555200000:=by
 generalize ha:(if x<0-x then 0-x else x)=a;have g:0<=a:=by rw[<- ha];split<;>omega
 have h:a<=2199023255552:=by rw[<- ha];split<;>omega
 have j:0<=a*k:=Int.mul_nonneg g d.1;have f:a*k<=2199023255552*100000:=Int.le_trans (Int.mul_le_mul_of_nonneg_right h d.1) (Int.mul_le_mul_of_nonneg_left d.2 (by decide));have e:(2199023255552:Int)*100000=219902325555200000:=by decide
 rw[e]at f;unfold driftV;rw[ha,Int.tdiv_eq_ediv_of_nonneg (by omega)];omega
theorem Qko{x k:Int}(d: -2199023255552<=x/\x<=2199023255552)(g:0<=k/\k<=100000):Ev (λn=>F_dd n x k) (driftV x k,0):=by
 obtain⟨p,l,m,j⟩:=QgS d g;unfold F_dd;refine Ea (v:=false) ?_ ?_
 .rw[Qy (show¬(x< -2199023255552)by omega),Qy (show¬(2199023255552<x)by omega),Qy (show¬(k<0)by omega),Qy (show¬(100000<k)by omega)];exact Qa _
 .have f:i64.wrap (0-x)=0-x:=Qz (by omega) (by omega);have i:=Qz (n:=(if x<0-x then 0-x else x)*k) (by omega) (by omega);have e:=Qz (n:=(if x<0-x then 0-x else x)*k+1000000) (by omega) (by omega);have h:=Qz (n:=(if x<0-x then 0-x else x)*k+1000000-1) (by omega) (by omega);have a:=Qz (n:=driftV x k) (by omega) (by omega);refine Qs ?_;rw[f,i,e,h];unfold driftV at a⊢;rw[a];exact Qa _
def devV(c:Course)(k:Int)(s:Segment)(loc:Int):Span:=
 bif k != 1 then⟨0-driftV (loc-s.Anchor) c.Faults.Drift,c.Faults.Residual+driftV (loc-s.Anchor) c.Faults.Drift⟩else⟨0,c.Faults.Residual⟩
def isT(x:Int):Prop:= -1099511627776<=x/\x<=1099511627776
theorem Qhv{c:Course}(d:CrsOk c){i:Nat}{m:Mat}(h:c.Mats[i]?=some m){s:Segment}(f:s.Mat=(i:Int)){a:Int}(j:isT s.Anchor)(g:isT a):Ev (λn=>F_x n c s a) (devV c m.Kind s a):=by
 obtain⟨q,k⟩:=d.res;have e: -2199023255552<=a-s.Anchor/\a-s.Anchor<=2199023255552:=by unfold isT at j g;omega
 obtain⟨p,l,_,_⟩:=QgS e d.drift;unfold F_x devV;simp only[f,Qu h,XI];cases m.Kind != 1 with
 |false=>exact Qa _
 |true=>
  simp only[Vm];refine Ea (v:=⟨0-driftV (a-s.Anchor) c.Faults.Drift,c.Faults.Residual+driftV (a-s.Anchor) c.Faults.Drift⟩) ?_ (Qa _);rw[Qz (n:=a-s.Anchor) (by omega) (by omega)];refine Ea (Qko e d.drift) ?_;rw[Qz (n:=0-driftV (a-s.Anchor) c.Faults.Drift) (by omega) (by omega),Qz (n:=c.Faults.Residual+driftV (a-s.Anchor) c.Faults.Drift) (by omega) (by omega)];exact Qa _
def matB(c:Course)(x:Int):Bool:=decide (0<=x)&&decide (x<(c.Mats.length:Int))
theorem Qep(c:Course)(x:Int):Ev (λn=>F_ap n c x) (matB c x):=by
 unfold F_ap matB;exact Ea (Ei λ_=>Qa _) (Qa _)
theorem Qmu{c:Course}{x:Int}(h:matB c x=true):∃i m,x=((i:Nat):Int)/\c.Mats[i]?=some m:=by
 unfold matB at h;simp only[XV,Vo]at h;exact⟨x.toNat,c.Mats[x.toNat]'(by omega),by omega,XJ _⟩
def nb(v lo hi:Int):Bool:= !(decide (v<lo))&& !(decide (hi<v))
theorem Qhj(v lo hi:Int):nb v lo hi=true↔lo<=v/\v<=hi:=by
 simp_all[nb]
def cmpPl(x y:Uc):Int:=orL [cmpI x.chip y.chip,cmpI x.mat y.mat,cmpI x.epoch y.epoch]
theorem or3(n:Nat)(a b d:Int):F_an (n+4) [a,b,d]=some (orL [a,b,d]):=by
 unfold F_an;have e:F_aq (n+4) [a,b,d] 0=bif a != 0 then some (.done (.done a))else some (.cont 1):=rfl
 have f:F_aq (n+4) [a,b,d] 1=bif b != 0 then some (.done (.done b))else some (.cont 2):=rfl
 have g:F_aq (n+4) [a,b,d] 2=bif d != 0 then some (.done (.done d))else some (.cont 3):=rfl
 have h:F_aq (n+4) [a,b,d] 3=some (.done (.cont ())):=rfl;unfold orL orL orL orL;rw[iter,e];cases q:(a != 0)with
 |true=>rfl
 |false=>
  simp only[Vn];rw[iter,f];cases i:(b != 0)with
  |true=>rfl
  |false=>
   simp only[Vn];rw[iter,g];cases j:(d != 0)with
   |true=>rfl
   |false=>
    simp only[Vn];rw[iter,h];rfl
theorem Qgj(n:Nat):(λx y=>F_bk (n+4) x y)=λx y=>some (cmpPl x y):=by
 funext x y
 unfold F_bk cmpPl;simp only[Qib,XI,or3]
def plH(h:Hit):Uc:=⟨h.Chip,h.Mat,h.Epoch⟩
def wrongH(c:Course)(h:Hit):Bool:=decide (h.Mat<0)||(decide ((c.Mats.length:Int)<=h.Mat)||(!nb h.Epoch 0 255||(!nb h.Chip 0 1048576||(!nb h.First (-1099511627776) 1099511627776||(!nb h.Last (-1099511627776) 1099511627776||decide (h.Last<h.First))))))
def folB(W:Int)(a b:Hit):Bool:=decide (cmpPl (plH a) (plH b)<0)||(decide (cmpPl (plH a) (plH b)=0)&&decide (W<i64.wrap (b.First-a.Last)))
def okAt(c:Course)(x:List Hit)(i:Nat):Bool:=match x[i]? with
 |none=>true
 |some h=> !wrongH c h&&((i==0)||(match x[i-1]? with
  |none=>true
  |some p=>folB c.Faults.Window p h))
def chkFrom(ok:Nat->Bool):Nat->Nat->Bool
 |0,_=>true
 |d+1,i=>ok i&&chkFrom ok d (i+1)
def checkH(c:Course)(x:List Hit):Bool:=chkFrom (okAt c x) x.length 0
theorem QfN(c:Course)(x:List Hit)(y:x.length<=1000000)(step:Nat->Int->Option (Ctl Int (Ctl Unit Int)))
  (m:∀i h,At x i h->(∀p,0<i->x[i-1]?=some p->Ev (λn=>step n (i:Int)) (bif wrongH c h then Ctl.done (Ctl.done 170)else bif folB c.Faults.Window p h then Ctl.cont ((i+1:Nat):Int)else Ctl.done (Ctl.done 170)))/\(i=0->Ev (λn=>step n (i:Int)) (bif wrongH c h then .done (.done 170)else .cont ((i+1:Nat):Int))))
  (t:Ev (λn=>step n (x.length:Int)) (.done (.cont ()))):Ev (λn=>iter (step n) n 0) (bif checkH c x then Ctl.cont ()else Ctl.done 170):=by
 have:=QcJ (step:=step) (s0:=(0:Int)) (λi=>(i:Int)) x.length (λi=>(bif chkFrom (okAt c x) (x.length-i) i then Ctl.cont ()else Ctl.done 170:Ctl Unit Int)) rfl (λi s=>?_) ?_
 .exact this
 .have k:=Y4 (x:=x[i]) (show x.length<=4611686018427387904 by omega) (XJ s);generalize x[i]=h at k;obtain⟨q,r⟩:=m i h k;have u:x.length-i=(x.length-(i+1))+1:=by omega
  have g:okAt c x i=(!wrongH c h&&((i==0)||(match x[i-1]? with|none=>true|some p=>folB c.Faults.Window p h))):=by
   unfold okAt;rw[k.get]
  have f:chkFrom (okAt c x) (x.length-i) i=(okAt c x i&&chkFrom (okAt c x) (x.length-(i+1)) (i+1)):=by rw[u];rfl
  rw[f,g];by_cases j:i=0
  .have a:=r j;cases d:wrongH c h with
   |true=>rw[d]at a;exact .inr (a.eq (by simp))
   |false=>rw[d]at a;exact .inl ⟨a,by simp[j]⟩
  .have l:x[i-1]?=some x[i-1]:=XJ (by omega);have a:=q _ (by omega) l;rw[l];have w:(i==0)=false:=by simpa using j
   rw[w];cases d:wrongH c h with
   |true=>rw[d]at a;exact .inr (a.eq (by simp))
   |false=>
    rw[d]at a;cases e:folB c.Faults.Window x[i-1] h with
    |true=>rw[e]at a;exact .inl ⟨a,by simp[e]⟩
    |false=>rw[e]at a;exact .inr (a.eq (by simp[e]))
 .rw[Nat.sub_self];exact t
theorem QgL(p q:Uc):Ev (λn=>F_bk n p q) (cmpPl p q):=by
 refine⟨4,λn a=>?_⟩;obtain⟨k,rfl⟩:∃k,n=k+4:=⟨n-4,by omega⟩;exact congrFun (congrFun (Qgj k) p) q
theorem Qlp(n:Nat)(v:Int):F_af n v=some (nb v (-1099511627776) 1099511627776):=by
 unfold F_af;by_cases a:(-1099511627776)<=v
 .rw[QA a];simp only[Vm,XI,Option.some.injEq];rw[XX,Qhj,Vo];omega
 .rw[Qy a];simp only[Vn,XI,Option.some.injEq]
  symm
  rw[VI];intro z;rw[Qhj]at z;omega
theorem QiR{e:Int}(c:Course)(x:List Hit)(t:x.length<=1000000)(he:Ev (λn=>F_c n c) e):Ev (λn=>F_cw n c x) (bif e != 0 then e else bif checkH c x then 0 else 170):=by
 unfold F_cw;refine Ea he ?_;cases(e != 0)with
 |true=>exact Qa _
 |false=>
  simp only[Vn];refine Ea (QfN c x t _ (λi h a=>?_) ?_) ?_
  .have l:Ev (λn=>((bif decide (h.Mat<0)then some true else(bif decide ((c.Mats.length:Int)<=h.Mat)then some true else(bif decide (h.Epoch<0)then some true else(bif decide (255<h.Epoch)then some true else(bif decide (h.Chip<0)then some true else(bif decide (1048576<h.Chip)then some true else(F_af n h.First).bind λj=>(bif (!j)then some true else(F_af n h.Last).bind λf=>(bif (!f)then some true else some (decide (h.Last<h.First)))))))))):Option Bool)) (wrongH c h):=by
    have e:wrongH c h=(decide (h.Mat<0)||(decide ((c.Mats.length:Int)<=h.Mat)||(decide (h.Epoch<0)||(decide (255<h.Epoch)||(decide (h.Chip<0)||(decide (1048576<h.Chip)||(!nb h.First (-1099511627776) 1099511627776||(!nb h.Last (-1099511627776) 1099511627776||decide (h.Last<h.First))))))))):=by
     unfold wrongH;have s:∀v lo d:Int,(!nb v lo d)=(decide (v<lo)||decide (d<v)):=λv lo d=>by unfold nb;simp
     rw[s h.Epoch,s h.Chip,Bool.or_assoc,Bool.or_assoc]
    rw[e];refine Ql λ_=>Ql λ_=>Ql λ_=>Ql λ_=>Ql λ_=>Ql λ_=>?_;simp only[Qlp,XI];exact Ql λ_=>Ql λ_=>Qa _
   refine⟨λp d w=>?_,λd=>?_⟩
   .have m:((i:Int)==0)=false:=by rw[Vv];omega
    have k:i64.wrap ((i:Int)-1)=((i-1:Nat):Int):=by
     have:=a.lt';rw[Qz (by omega) (by omega)];omega
    unfold F_gm;simp only[a.lt,Vm,a.ix,XI,a.nx,m,Vn,k,Qu w];cases r:wrongH c h with
    |true=>
     refine Ea (v:=(Ctl.done (Ctl.done (Ctl.done 170)):Ctl Unit (Ctl Int (Ctl Unit Int)))) (Ea l ?_) (Qa _);rw[r];exact Qa _
    |false=>
     refine Ea (v:=(bif folB c.Faults.Window p h then Ctl.cont ()else Ctl.done (Ctl.done (Ctl.done 170)):Ctl Unit (Ctl Int (Ctl Unit Int)))) (Ea l ?_) ?_
     .rw[r];simp only[Vn];refine Ea (QgL _ _) ?_;show Ev (λn=>((bif decide (0<cmpPl (plH p) (plH h))then some (decide (0<cmpPl (plH p) (plH h)))else(bif (cmpPl (plH p) (plH h)==0)then some (decide ((i64.wrap (h.First-p.Last))<=c.Faults.Window))else some false)):Option Bool).bind λg=>((bif g then some (Ctl.done (Ctl.done (Ctl.done 170)))else some (Ctl.cont ())):Option (Ctl Unit (Ctl Int (Ctl Unit Int))))) _;unfold folB;rcases Int.lt_trichotomy (cmpPl (plH p) (plH h)) 0 with q|q|q
      .rw[Qy (show¬0<cmpPl (plH p) (plH h)by omega),QA q,show(cmpPl (plH p) (plH h)==0)=false by rw[Vv];omega];exact Qa _
      .rw[q];by_cases z:c.Faults.Window<i64.wrap (h.First-p.Last)
       .rw[QA z,Qy (show¬i64.wrap (h.First-p.Last)<=c.Faults.Window by omega)];exact Qa _
       .rw[Qy z,QA (show i64.wrap (h.First-p.Last)<=c.Faults.Window by omega)];exact Qa _
      .rw[QA q,Qy (show¬cmpPl (plH p) (plH h)<0 by omega),Qy (show¬cmpPl (plH p) (plH h)=0 by omega)];exact Qa _
     .cases folB c.Faults.Window p h<;>exact Qa _
   .subst d;unfold F_gm;have u:(((0:Nat):Int)==0)=true:=rfl;simp only[a.lt,Vm,a.ix,XI,a.nx,u];refine Ea (v:=(bif wrongH c h then Ctl.done (Ctl.done (Ctl.done 170))else Ctl.cont ():Ctl Unit (Ctl Int (Ctl Unit Int)))) (Ea l ?_) ?_
    .cases wrongH c h<;>exact Qa _
    .cases wrongH c h<;>exact Qa _
  .unfold F_gm;simp only[Qa6,Vn];exact Qa _
  .cases checkH c x<;>exact Qa _
theorem QkC(c:Course)(a:Course.wf c):∃b,Ev (λn=>F_be n c) b/\(b=true->FewOk c/\Ev (λn=>F_c n c) (courseE c)):=by
 have w:=Qdr a;have q:=Qex a;obtain⟨d,e⟩:=QhV a;obtain⟨b,g,fb⟩:=QfO c w q d e;exact⟨b,g,λf=>⟨fb f,QiY c w q (fb f) d e⟩⟩
mutual
def flP:Part->List Int
 |⟨m,laps,ps⟩=>bif laps==0 then[m]else(List.replicate laps.toNat (flPs ps)).flatten
def flPs:List Part->List Int
 |[]=>[]
 |p::r=>flP p++flPs r
end
theorem Qc0(p:Part):flP p=bif p.Laps==0 then[p.Mat]else(List.replicate p.Laps.toNat (flPs p.Parts)).flatten:=by cases p;rfl
theorem Qa2(p:Part)(r:List Part):flPs (p::r)=flP p++flPs r:=by rw[flPs]
theorem Qgh:∀(k:Nat) (out lap:List Int),(repS k out lap).length<=256->repS k out lap=out++(List.replicate k lap).flatten
 |0,out,lap,_=>by simp[repS]
 |k+1,out,lap,h=>by
  rw[repS]at h⊢;by_cases hb:256<out.length
  .rw[Vq hb]at h;omega
  .rw[Vp hb]at h⊢;rw[Qgh k _ _ h,Xl,Vj,Vg]
theorem QfE{d:Int}{p:Part}(h:partS d p=true):p.Laps=0\/(1<=p.Laps/\p.Laps<=64/\partsS d p.Parts=true):=by
 rw[QaY]at h;cases a:(p.Laps==0)with
 |true=>exact .inl (by simpa using a)
 |false=>
  rw[a]at h;simp only[Vn,XV,inR,Vo]at h;exact .inr ⟨h.1.1,h.1.2,h.2.2.2⟩
theorem Qkg(x:Int):∀(m:Nat) (l:List Part) (e:List Int),szPs l<=m->partsS x l=true->(expS e l).length<=256->expS e l=e++flPs l:=by
 intro m
 induction m using Nat.strongRecOn with
 |_ m u=>
 intro l
 induction l with
 |nil=>intro e _ _ _;rw[expS,flPs,Ve]
 |cons p r k=>
  intro e w j n;rw[YX,List.all_cons,XV, <- YX]at j;have q:szP p+szPs r<=m:=by rw[szPs]at w;omega
  rw[expS]at n⊢;by_cases g:256<(repS (p.Laps.toNat+(bif decide (0<p.Laps)then 0 else 1)) e (lapS p)).length
  .rw[Qcv r g]at n;omega
  .have s:=Qgh _ _ _ (Nat.le_of_not_lt g);rw[k _ (by omega) j.2 n,s,Qa2,Vg];congr 2;rcases QfE j.1 with t|⟨a,b,d⟩
   .have h:decide (0<p.Laps)=false:=Qy (by omega);have i:(p.Laps==0)=true:=by simp[t]
    rw[Qax,Qc0,h,i,t];simp
   .have h:decide (0<p.Laps)=true:=QA (by omega);have i:(p.Laps==0)=false:=beq_false_of_ne (by omega);have f:(lapS p).length<=256:=by
     rw[s,h]at g;simp only[Vm,Xw]at g;have:p.Laps.toNat=(p.Laps.toNat-1)+1:=by omega
     rw[this,Xl,Vj]at g;simp only[X2]at g;omega
    rw[Qax,h,Vm]at f;rw[YB]at q;have:=u (szPs p.Parts) (by omega) p.Parts [] (XS _) d f;rw[Qax,Qc0,h,i,Vm,Vm,Vn,Xw,this,Vf]
theorem Qlu(H:Int):∀(m:Nat) (l:List Part) (e:List Int),szPs l<=m->partsS H l=true->l.length<=1048576->(∀x∈l,Part.wf x)->e.length+(flPs l).length<=256->Ev (λn=>F_m n l e) (e++flPs l):=by
 intro m
 induction m using Nat.strongRecOn with
 |_ m Q=>
 intro l e X B M T N;rw[YX,Xs]at B;refine Yw ?_;show Ev (λn=>B_m (F_m n) n l e) _;unfold B_m;have inner:∀(p:Part) (w:List Int),0<=p.Laps->p.Laps<=64->(∀o:List Int,o.length+w.length<=256->Ev (λn=>F_m n p.Parts o) (o++w))->∀(k j:Nat) (o:List Int),j+k=p.Laps.toNat->o.length+(List.replicate k w).flatten.length<=256->
   EvI (λn=>F_ec n (F_m n) p) (o,(j:Int)) (o++(List.replicate k w).flatten):=by
  intro p w F G q k
  induction k with
  |zero=>
   intro j o V _;refine Ej ?_;unfold F_ec;simp only[Qy (show¬((j:Int)<p.Laps)by omega),Vn,List.replicate_zero,List.flatten_nil,Ve];exact Qa _
  |succ k s=>
   intro j o V g;rw[Xl,Vj]at g⊢;simp only[X2]at g;refine(Ex ?_ (s (j+1) (o++w) (by omega) (by rw[X2];omega))).eq (by rw[Vg]);unfold F_ec;simp only[QA (show(j:Int)<p.Laps by omega),Vm];refine Ea (q o (by omega)) ?_;rw[Yc (by omega)];exact Qa _
 have loop:∀(r:List Part) (i:Nat) (o:List Int),l.drop i=r->i<=l.length->o.length+(flPs r).length<=256->EvI (λn=>F_hl n l (F_m n)) (o,(i:Int)) (o++flPs r):=by
  intro r
  induction r with
  |nil=>
   intro i o q E _;refine Ej ?_;unfold F_hl;simp only[QS q E,Vn,flPs,Ve];exact Qa _
  |cons p r z=>
   intro i o q E g;obtain⟨f,t⟩:=Qt (by omega) q;have W:=f.lt';rw[Qa2,X2]at g;have P:=YN f.mem;rw[YB]at P;obtain⟨J,O⟩:=Q8 (T p f.mem);have R:=B p f.mem;refine(Ex ?_ (z (i+1) (o++flP p) t (by omega) (by rw[X2];omega))).eq (by rw[Qa2,Vg]);unfold F_hl;simp only[f.lt,Vm,f.ix,XI,f.nx];rcases QfE R with F|⟨a,b,d⟩
   .have h:(p.Laps==0)=true:=by simp[F]
    have u:flP p=[p.Mat]:=by rw[Qc0,h];rfl
    rw[u]at g⊢;refine Ea (v:=o++[p.Mat]) ?_ ?_
    .rw[h];refine QeI ?_;rw[QlK _ _ (by simp;omega)];exact Qa _
    .refine Ea (v:=o++[p.Mat]) ((Ej ?_).ev) (Qa _);unfold F_ec;simp only[Qy (show¬((0:Int)<p.Laps)by omega),Vn];exact Qa _
   .have h:(p.Laps==0)=false:=beq_false_of_ne (by omega);have u:flP p=(List.replicate p.Laps.toNat (flPs p.Parts)).flatten:=by rw[Qc0,h];rfl
    rw[u]at g⊢;refine Ea (v:=o) ?_ ?_
    .rw[h];exact Qa _
    .refine Ea ((inner p (flPs p.Parts) (by omega) b (λL y=>Q (szPs p.Parts) (by omega) p.Parts L (XS _) d J O y) p.Laps.toNat 0 o (by omega) (by omega)).ev) (Qa _)
 exact Ea ((loop l 0 e (by simp) (XT _) N).ev) (Qa _)
structure Good (c:Course):Prop where
 parts:∀d∈c.Distances,partsS ((c.Mats.length:Int)-1) d.Route=true
 route:∀d∈c.Distances,2<=(expS [] d.Route).length/\(expS [] d.Route).length<=256
 len:∀d∈c.Distances,d.Route.length<=1048576
 wf:∀d∈c.Distances,∀x∈d.Route,Part.wf x
 legs:c.Legs.length<=512
theorem Good.exp{c:Course}(g:Good c){d:Distance}(a:d∈c.Distances):expS [] d.Route=flPs d.Route:=by
 have:=Qkg _ _ d.Route [] (XS _) (g.parts d a) (g.route d a).2
 rwa [Vf]at this
theorem Qdk{c:Course}(g:Good c){d:Distance}(a:d∈c.Distances):Ev (λn=>F_cn n d.Route) (flPs d.Route):=by
 unfold F_cn;have h:=(g.route d a).2;rw[g.exp a]at h;refine Ea ((Qlu _ _ d.Route [] (XS _) (g.parts d a) (g.len d a) (g.wf d a) (by simpa using h)).eq (Vf _)) (Qa _)
theorem QfM{c:Course}(he:Ev (λn=>F_c n c) 0){i:Nat}{d:Distance}(a:c.Distances[i]?=some d):Ev (λn=>F_ba n c (i:Int)) (d,0):=by
 unfold F_ba;refine Ea he ?_;have e:=(XK.1 a).1;refine Qs (Ea (v:=false) ?_ ?_)
 .rw[Qy (show¬((i:Int)<0)by omega),Qy (show¬((c.Distances.length:Int)<=(i:Int))by omega)];exact Qa _
 .simp only[Vn,Qu a,XI];exact Qa _
theorem QlD(c:Course)(a:c.Legs.length<=512):∃m,Ev (λn=>Go.Sw.iter (F_ii n c) n (([]:List (Ub×Leg)),0)) m:=by
 refine⟨_,Jq c.Legs (λ(m:List (Ub×Leg)) x=>QU m ({from_:=x.From,to_:=x.To:Ub}) x) [] (λm i=>(m,(i:Int))) (λm=>m) (by omega) rfl (λi x m ha _=>?_) ?_⟩
 .unfold F_ii;simp only[ha.lt,Vm,ha.ix,XI,ha.nx];exact Qa _
 .unfold F_ii;simp only[Qa6,Vn];exact Qa _
theorem Qjv{α:Type}{step:Nat->Int->Option (Ctl Int (Ctl Unit Int))}(l:List α)(q:α->Bool)(z:l.length<=1048576)
  (p:∀i x,At l i x->Ev (λn=>step n (i:Int)) (bif q x then .done (.done (i:Int))else .cont ((i+1:Nat):Int)))(u:Ev (λn=>step n (l.length:Int)) (.done (.cont ()))):
  (∃i x,At l i x/\l.find? q=some x/\Ev (λn=>Go.Sw.iter (step n) n 0) (.done (i:Int)))\/l.find? q=none/\Ev (λn=>Go.Sw.iter (step n) n 0) (.cont ()):=by
 have g:∀(r:List α) (i:Nat),l.drop i=r->i<=l.length->(∃j x,At l j x/\r.find? q=some x/\EvI step (i:Int) (.done (j:Int)))\/r.find? q=none/\EvI step (i:Int) (.cont ()):=by
  intro r
  induction r with
  |nil=>
   intro i k t;have:i=l.length:=by have:=Xq.1 k;omega
   subst this;exact .inr ⟨rfl,Ej u⟩
  |cons x r s=>
   intro i k t;obtain⟨f,m⟩:=Qt (by omega) k;have w:=f.lt';have h:=p i x f;rw[List.find?_cons];cases e:q x with
   |true=>rw[e]at h;exact .inl ⟨i,x,f,rfl,Ej h⟩
   |false=>
    rw[e]at h;rcases s (i+1) m (by omega)with⟨j,y,a,b,d⟩|⟨a,b⟩
    .exact .inl ⟨j,y,a,b,Ex h d⟩
    .exact .inr ⟨a,Ex h b⟩
 rcases g l 0 (by simp) (XT _)with⟨j,x,a,b,d⟩|⟨a,b⟩
 .exact .inl ⟨j,x,a,b,d.ev⟩
 .exact .inr ⟨a,b.ev⟩
theorem Qlr{c:Course}(w:CourseOk c)(q:PartsOk c)(h:courseE c=0):Good c:=by
 unfold courseE at h;cases f:fitsS c with
 |false=>rw[f]at h;cases h
 |true=>
  rw[f]at h;cases k:namesS c with
  |false=>rw[k]at h;cases h
  |true=>
   rw[k]at h;cases e:numbersS c with
   |false=>rw[e]at h;cases h
   |true=>
    rw[e]at h;simp only[Vm]at h;have i:c.Distances.all (routeS c)=true:=by
     cases g:(tiesE c.Ties==0)with
     |false=>
      rw[g,Vn]at h;rw[Vv]at g;exact absurd h g
     |true=>
      rw[g,Vm]at h;cases i:c.Distances.all (routeS c)with
      |true=>rfl
      |false=>rw[i]at h;cases h
    unfold numbersS at e;simp only[XV]at e;obtain⟨_,_,_,j,_⟩:=e;unfold fitsS at f;simp only[XV,Bool.not_eq_true',XW,decide_eq_false_iff_not]at f;rw[Xs]at i j;refine⟨λd a=>?_,λd a=>?_,q.len,q.wf,?_⟩
    .have:=j d a;unfold distS at this;simp only[XV]at this;exact this.2.2.1
    .have:=i d a;unfold routeS routeR at this;simp only[XV,Vo]at this;exact this.1
    .have:=f.1.2.1;omega
theorem Qle:∀j:Fin 257,(decide (0<(u64.wrap ((u64.wrap ((u64.wrap ((Yg .u64 (u64.wrap ([(0:Int)].length:Int)) 32)*(Yg .u64 (u64.wrap ((j:Nat):Int)) 32)))+(Yg .u64 (u64.wrap ((u64.wrap ((Yg .u64 (u64.wrap ([(0:Int)].length:Int)) 32)*(Yh .u64 (u64.wrap ((j:Nat):Int)) 4294967295)))+(Yg .u64 (u64.wrap ((Yh .u64 (u64.wrap ([(0:Int)].length:Int)) 4294967295)*(Yh .u64 (u64.wrap ((j:Nat):Int)) 4294967295))) 32))) 32)))+(Yg .u64 (u64.wrap ((Yh .u64 (u64.wrap ((u64.wrap ((Yg .u64 (u64.wrap ([(0:Int)].length:Int)) 32)*(Yh .u64 (u64.wrap ((j:Nat):Int)) 4294967295)))+(Yg .u64 (u64.wrap ((Yh .u64 (u64.wrap ([(0:Int)].length:Int)) 4294967295)*(Yh .u64 (u64.wrap ((j:Nat):Int)) 4294967295))) 32))) 4294967295)+(u64.wrap ((Yh .u64 (u64.wrap ([(0:Int)].length:Int)) 4294967295)*(Yg .u64 (u64.wrap ((j:Nat):Int)) 32))))) 32)))))=false:=by decide+kernel
theorem QjQ:∀j:Fin 257,(decide (9223372036854775807<(u64.wrap ((u64.wrap ([(0:Int)].length:Int))*(u64.wrap ((j:Nat):Int))))))=false:=by decide+kernel
theorem Qlf:∀j:Fin 257,(i64.wrap (u64.wrap ((u64.wrap ([(0:Int)].length:Int))*(u64.wrap ((j:Nat):Int)))))=((j:Nat):Int):=by decide+kernel
theorem QjR(x:Int)(K:Nat)(p:K<=256):∀(m j:Nat),1<=j->j<=K->K-j<=m->EvI (λn=>F_eb n) (List.replicate j x++List.replicate (K-j) 0,(j:Int)) (List.replicate K x):=by
 intro m
 induction m with
 |zero=>
  intro j g i k;obtain rfl:j=K:=by omega
  refine Ej ?_;unfold F_eb;rw[Nat.sub_self,List.replicate_zero,Ve];simp only[List.length_replicate,Qy (show¬((j:Int)<(j:Int))by omega),Vn];exact Qa _
 |succ m h=>
  intro j g i k;by_cases f:j=K
  .subst f;refine Ej ?_;unfold F_eb;rw[Nat.sub_self,List.replicate_zero,Ve];simp only[List.length_replicate,Qy (show¬((j:Int)<(j:Int))by omega),Vn];exact Qa _
  .have d:(List.replicate j x++List.replicate (K-j) (0:Int)).length=K:=by simp;omega
   refine Ex ?_ (h (j+min j (K-j)) (by omega) (by omega) (by omega));unfold F_eb;simp only;generalize hL:List.replicate j x++List.replicate (K-j) (0:Int)=L at d;have a:L.take j=List.replicate j x:=by rw[<- hL,List.take_left' (by simp)]
   have l:L.drop j=List.replicate (K-j) 0:=by rw[<- hL,List.drop_left' (by simp)]
   rw[QA (by omega),Vm,QjL L (by omega),XI,Ql8 L (by omega),XI];unfold cpy;simp only[XI,Int.toNat_natCast,d,a];have e:L.take j++(List.replicate j x).take (K-j)++L.drop (j+min (List.replicate j x).length (K-j))=List.replicate (j+min j (K-j)) x++List.replicate (K-(j+min j (K-j))) 0:=by
    rw[<- List.drop_drop,a,l,List.length_replicate,List.take_replicate,List.drop_replicate,List.replicate_append_replicate];rw[Nat.min_comm (K-j) j,Nat.sub_sub]
   rw[a]at e;rw[e];have w:i64.wrap ((j:Int)+((min (List.replicate j x).length (K-j):Nat):Int))=((j+min j (K-j):Nat):Int):=by
    rw[List.length_replicate,Qz (by omega) (by omega)];omega
   rw[w];exact Qa _
theorem Qam{α:Type}{c:Bool}{f g:Nat->Option α}{v:α}(h:c=false)(q:Ev g v):Ev (λn=>bif c then f n else g n) v:=by subst h;exact q
theorem QiX(x:Int)(k:Nat)(g:1<=k)(f:k<=256):Ev (λn=>F_au n [x] (k:Int)) (List.replicate k x):=by
 have a:=Qle ⟨k,by omega⟩;have h:=QjQ ⟨k,by omega⟩;have d:=Qlf ⟨k,by omega⟩;unfold F_au;refine Ea (v:=()) (by rw[Qy (show¬((k:Int)<0)by omega)];exact Qa _) (Ea (v:=()) (Qa _) (Ea (v:=false) ?_ (Ea (v:=()) (Qa _) ?_)))
 .exact Qam a (EA (congrArg some h))
 .refine Ea (v:=List.replicate k 0) (EA ((congrArg (λz=>mk z (0:Int)) d).trans ?_)) ?_
  .show mk (k:Int) 0=_;unfold mk;rw[QA (by omega),QA (by omega)];rfl
  .refine Ea (v:=List.replicate 1 x++List.replicate (k-1) 0) (EA ?_) ?_
   .unfold cpy;simp only[List.length_replicate,Int.toNat_natCast,List.length_singleton];obtain⟨m,rfl⟩:∃m,k=m+1:=⟨k-1,by omega⟩;simp
   .have e:((min [x].length (List.replicate k (0:Int)).length:Nat):Int)=((1:Nat):Int):=by simp;omega
    rw[e];exact Ea ((QjR x k f k 1 (XS _) g (by omega)).ev) (Qa _)
set_option maxRecDepth 10000
theorem Jn{c:Course}(h:courseE c=0):fitsS c=true/\numbersS c=true/\ ∀d∈c.Distances,routeS c d=true:=by
 unfold courseE at h;cases i:fitsS c with
 |false=>rw[i]at h;cases h
 |true=>
  rw[i]at h;cases f:namesS c with
  |false=>rw[f]at h;cases h
  |true=>
   rw[f]at h;cases e:numbersS c with
   |false=>rw[e]at h;cases h
   |true=>
    rw[e]at h;simp only[Vm]at h;cases a:(tiesE c.Ties==0)with
    |false=>
     rw[a,Vn]at h;rw[Vv]at a;exact absurd h a
    |true=>
     rw[a,Vm]at h;cases g:c.Distances.all (routeS c)with
     |true=>exact⟨rfl,rfl,Xs.1 g⟩
     |false=>rw[g]at h;cases h
theorem QgV{c:Course}(h:courseE c=0):CrsOk c:=by
 obtain⟨d,a,_⟩:=Jn h;unfold fitsS at d;unfold numbersS lastS inR at a;simp only[XV,Bool.not_eq_true',XW,decide_eq_false_iff_not,Vo]at d a;refine⟨?_,?_,?_⟩
 .have:=d.1;omega
 .exact a.2.2.2.2.2.2.2.2.2.2.1.2
 .exact a.2.2.2.2.2.2.2.2.2.2.2.1
theorem QaR{α:Type}{c:Bool}{f g:Nat->Option α}{v:α}(h:c=true)(q:Ev f v):Ev (λn=>bif c then f n else g n) v:=by subst h;exact q
def lastB(l:List Int)(x:Int):Nat->Nat
 |0=>0
 |j+1=>bif (l[j+1]? ==some x)then j+1 else lastB l x j
theorem Qgp(l:List Int)(x:Int):∀j,lastB l x j<=j
 |0=>XS _
 |j+1=>by
  unfold lastB;have:=Qgp l x j;cases(l[j+1]? ==some x)<;>simp<;>omega
def routeV(d:Distance)(k:Nat):List Int:=(flPs d.Route).take (lastB (flPs d.Route) d.Extra ((flPs d.Route).length-1)+1)++List.replicate k d.Extra++(flPs d.Route).drop (lastB (flPs d.Route) d.Extra ((flPs d.Route).length-1)+1)
def routeO(c:Course)(i k:Int):List Int×Int:=
 bif decide (i<0)then([],90)else match c.Distances[i.toNat]? with
 |none=>([],90)
 |some d=>bif decide (k<0)||(decide (0<k)&&decide (d.Extra<0))then([],90)else bif decide (256-((flPs d.Route).length:Int)<k)then([],2)else(routeV d k.toNat,0)
theorem Qfg(d:Distance)(e:Int)(l:List Int)(a:l.length<=256):∀(m:Nat),m<l.length->EvI (λn=>F_ge n (d,e) l) (m:Int) ((lastB l d.Extra m:Nat):Int)
 |0,h=>by
  refine Ej ?_;unfold F_ge lastB;exact Qa _
 |m+1,h=>by
  have hx:l[m+1]?=some (l[m+1]'(h)):=XJ h;unfold lastB;rw[hx];cases hq:((l[m+1]'(h)) != d.Extra)with
  |true=>
   have e1:(some (l[m+1]'(h))==some d.Extra)=false:=by simp at hq⊢;exact hq
   rw[e1,Vn];refine Ex ?_ (Qfg d e l a m (by omega));unfold F_ge;rw[QA (show(0:Int)<((m+1:Nat):Int)by omega),Vm,Qu hx,XI,hq,XI,Vm,Qz (n:=((m+1:Nat):Int)-1) (by omega) (by omega),show((m+1:Nat):Int)-1=(m:Int)by omega];exact Qa _
  |false=>
   have e1:(some (l[m+1]'(h))==some d.Extra)=true:=by simp at hq⊢;exact hq
   rw[e1,Vm];refine Ej ?_;unfold F_ge;rw[QA (show(0:Int)<((m+1:Nat):Int)by omega),Vm,Qu hx,XI,hq,XI,Vn];exact Qa _
theorem QgP{c:Course}(g:Good c)(he:Ev (λn=>F_c n c) 0)(i k:Int):Ev (λn=>F_aj n c i k) (routeO c i k):=by
 unfold routeO;by_cases q:i<0
 .rw[QA q,Vm];unfold F_aj F_bl;refine Ea (v:=((90:Int),([]:List Int))) (Ea (v:=U_course_build.c0 90) ?_ (Qa _)) (Qa _);refine Ea (v:=(Uo,90)) ?_ (QaR rfl (Qa _));unfold F_ba;refine Ea he (Qs (Ea (v:=true) ?_ (Qa _)));rw[QA q];exact Qa _
 rw[Qy q,Vn];obtain⟨j,rfl⟩:∃j:Nat,i=(j:Int):=⟨i.toNat,by omega⟩;rw[Int.toNat_natCast];cases e:c.Distances[j]? with
 |none=>
  have x:c.Distances.length<=j:=List.getElem?_eq_none_iff.1 e;unfold F_aj F_bl;refine Ea (v:=((90:Int),([]:List Int))) (Ea (v:=U_course_build.c0 90) ?_ (Qa _)) (Qa _);refine Ea (v:=(Uo,90)) ?_ (QaR rfl (Qa _));unfold F_ba;refine Ea he (Qs (Ea (v:=true) ?_ (Qa _)));rw[Qy (show¬(j:Int)<0 by omega),Vn,QA (show(c.Distances.length:Int)<=(j:Int)by omega)];exact Qa _
 |some d=>
  simp only;have f:=VD e;have h:=(g.route d f);rw[g.exp f]at h;have w:i64.wrap (256-((flPs d.Route).length:Int))=256-((flPs d.Route).length:Int):=Qz (by omega) (by omega);unfold F_aj F_bl;cases l:(decide (k<0)||(decide (0<k)&&decide (d.Extra<0)))with
  |true=>
   refine Ea (v:=((90:Int),([]:List Int))) (Ea (v:=U_course_build.c1 ()) (Ea (QfM he e) (Qs (Ea (v:=true) ?_ (Qa _)))) (Qa _)) (Qa _);exact Ew (Ql λ_=>Ei λ_=>Qa _) l
  |false=>
   have s:=l;simp only[XW,decide_eq_false_iff_not,Bool.and_eq_false_iff]at s;cases p:decide (256-((flPs d.Route).length:Int)<k)with
   |true=>
    refine Ea (v:=((2:Int),flPs d.Route)) (Ea (v:=U_course_build.c2 (flPs d.Route)) (Ea (QfM he e) (Qs (Ea (v:=false) ?_ (Qs (Ea (Qdk g f) ?_))))) (Qa _)) (Qa _)
    .exact Ew (Ql λ_=>Ei λ_=>Qa _) l
    .simp only[w,p,Vm];exact Qa _
   |false=>
    have z:=Vt p;obtain⟨a,rfl⟩:∃a:Nat,k=(a:Int):=⟨k.toNat,by omega⟩;obtain⟨m,r⟩:=QlD c g.legs;rw[Int.toNat_natCast];refine Ea (v:=(0,routeV d a)) (Ea (v:=U_course_build.c3 (routeV d a,m)) (Ea (QfM he e) (Qs (Ea (v:=false) ?_ (Qs (Ea (Qdk g f) ?_))))) (Qa _)) (Qa _)
    .exact Ew (Ql λ_=>Ei λ_=>Qa _) l
    .simp only[w,p,Vn];refine Ea (v:=routeV d a) ?_ (Ea r (Qa _));by_cases y:a=0
     .subst y;refine Qam (Qy (show¬(0:Int)<((0:Nat):Int)by omega)) ((Qa _).eq ?_);unfold routeV;simp
     .refine QaR (QA (show(0:Int)<(a:Int)by omega)) ?_;have t:=Qfg d 0 (flPs d.Route) h.2 ((flPs d.Route).length-1) (by omega);have u:=Qgp (flPs d.Route) d.Extra ((flPs d.Route).length-1);rw[Qz (n:=((flPs d.Route).length:Int)-1) (by omega) (by omega),show((flPs d.Route).length:Int)-1=(((flPs d.Route).length-1:Nat):Int)by omega];refine Ea t.ev (Ea (QiX d.Extra a (by omega) (by omega)) (Ea (EA ?_) (Qa _)));unfold routeV;generalize lastB (flPs d.Route) d.Extra ((flPs d.Route).length-1)=b at u;rw[Qz (n:=(b:Int)+1) (by omega) (by omega)];unfold Qj1;rw[QA (show 0<=(b:Int)+1 by omega),QA (show(b:Int)+1<=((flPs d.Route).length:Int)by omega),List.length_replicate,show Nat.blt 0 a=true from by simp;omega,XR (show(flPs d.Route).length+a<=Yo by unfold Yo;omega),show((b:Int)+1).toNat=b+1 by omega];rfl
theorem QeW{c:Course}(g:Good c){i k:Int}(h:(routeO c i k).2=0):∃(j:Nat) (d:Distance) (a:Nat),i=(j:Int)/\k=(a:Int)/\c.Distances[j]?=some d/\(0<a->0<=d.Extra)/\(flPs d.Route).length+a<=256/\(routeO c i k).1=routeV d a:=by
 unfold routeO at h⊢;by_cases m:i<0
 .rw[QA m]at h;cases h
 rw[Qy m,Vn]at h⊢;cases e:c.Distances[i.toNat]? with
 |none=>rw[e]at h;cases h
 |some d=>
  rw[e]at h;simp only at h⊢;cases f:(decide (k<0)||(decide (0<k)&&decide (d.Extra<0)))with
  |true=>rw[f]at h;cases h
  |false=>
   rw[f]at h;cases l:decide (256-((flPs d.Route).length:Int)<k)with
   |true=>rw[l]at h;cases h
   |false=>
    simp only[XW,decide_eq_false_iff_not,Bool.and_eq_false_iff]at f l;exact⟨i.toNat,d,k.toNat,by omega,by omega,e,λ_=>by omega,by omega,rfl⟩
def Adj(c:Course):List Int->Prop
 |a::b::r=>hasLeg c a b=true/\Adj c (b::r)
 |_=>True
theorem QeJ{c:Course}{len:Nat}:∀{r:List Int} {i:Nat} {p:Int},rokS c len i p r=true->Adj c r/\(i≠0->∀m q,r=m::q->hasLeg c p m=true)
 |[],_,_,_=>⟨trivial,λ_ m q e=>by cases e⟩
 |m::r,i,p,h=>by
  unfold rokS at h;simp only[XV,Bool.or_eq_true,Vo]at h;obtain⟨_,_,h1,h2⟩:=h;obtain⟨a1,a2⟩:=QeJ h2;refine⟨?_,λhi m' q e=>?_⟩
  .cases r with
   |nil=>trivial
   |cons b r=>exact⟨a2 (by omega) b r rfl,a1⟩
  .cases e;exact h1.resolve_left hi
theorem Qg9{c:Course}:∀{r:List Int} (k:Nat),Adj c r->Adj c (r.drop k)
 |r,0,h=>by simpa using h
 |[],k+1,_=>by simp[Adj]
 |[a],k+1,_=>by simp[Adj]
 |a::b::r,k+1,h=>by
  rw[List.drop_succ_cons];exact Qg9 k h.2
theorem Adj.append{c:Course}:∀{p:List Int} {x:Int} {q:List Int},Adj c (p++[x])->Adj c (x::q)->Adj c (p++x::q)
 |[],x,q,_,h=>h
 |[a],x,q,h1,h2=>⟨h1.1,h2⟩
 |a::b::r,x,q,h1,h2=>⟨h1.1,Adj.append (p:=b::r) h1.2 h2⟩
theorem Qis{c:Course}{x:Int}(h:hasLeg c x x=true){q:List Int}(hq:Adj c (x::q)):∀k,Adj c (x::(List.replicate k x++q))
 |0=>hq
 |k+1=>⟨h,Qis h hq k⟩
theorem Adj.at{c:Course}:∀{r:List Int} {i:Nat} {a b:Int},Adj c r->r[i]?=some a->r[i+1]?=some b->hasLeg c a b=true
 |[],_,_,_,_,h,_=>by simp at h
 |[x],i,_,_,_,_,h=>by simp at h
 |x::y::r,0,a,b,h,h1,h2=>by simp at h1 h2;subst h1;subst h2;exact h.1
 |x::y::r,i+1,a,b,h,h1,h2=>Adj.at (r:=y::r) h.2 (by simpa using h1) (by simpa using h2)
theorem Qgq(l:List Int)(x:Int):∀m,m<l.length->(∃i,i<=m/\0<i/\l[i]?=some x)->l[lastB l x m]?=some x
 |0,h,⟨i,h1,h2,_⟩=>by omega
 |m+1,h,⟨i,h1,h2,h3⟩=>by
  unfold lastB;cases e:(l[m+1]? ==some x)with
  |true=>simp at e;simpa using e
  |false=>
   simp only[Vn];refine Qgq l x m (by omega) ⟨i,?_,h2,h3⟩;rcases Vy m i with q|q
   .have:i=m+1:=by omega
    subst this;rw[h3]at e;simp at e
   .exact q
theorem Qiy{c:Course}(g:Good c)(O:courseE c=0){d:Distance}(L:d∈c.Distances)(k:Nat)(T:0<k->0<=d.Extra):Adj c (routeV d k):=by
 have h:=(Jn O).2.2 d L;unfold routeS routeR at h;rw[g.exp L]at h;simp only[XV,Vo]at h;obtain⟨⟨X,M⟩,s,z,_⟩:=h;have w:=(QeJ s).1;unfold routeV;by_cases P:k=0
 .subst P;simpa using w
 have N:=T (by omega);rw[QA N,Vm]at z;simp only[XV,Bool.not_eq_true',Vv,ne_eq]at z;obtain⟨J,E,V⟩:=z;have l:d.Extra∈flPs d.Route:=by
  by_cases u:d.Extra∈flPs d.Route
  .exact u
  .rw[List.count_eq_zero_of_not_mem u]at J;exact absurd rfl J
 obtain⟨i,B,n⟩:=List.getElem_of_mem l;have F:0<i:=by
  rcases Nat.eq_zero_or_pos i with q|q
  .subst q;cases G:flPs d.Route with
   |nil=>rw[G]at B;simp at B
   |cons m r=>
    rw[G]at s;unfold rokS at s;simp only[XV,Vu,decide_true,Bool.true_eq]at s;have u:m=d.Extra:=by rw[<- n];simp[G]
    rw[<- u]at E;rw[Vu]at E;have:=s.1;rw[E]at this;simp at this
  .exact q
 have j:=Qgq (flPs d.Route) d.Extra ((flPs d.Route).length-1) (by omega) ⟨i,by omega,F,by rw[XJ B,n]⟩;generalize hb:lastB (flPs d.Route) d.Extra ((flPs d.Route).length-1)=b at j;have H:b<(flPs d.Route).length:=(XK.1 j).1;have f:(flPs d.Route).drop b=d.Extra::(flPs d.Route).drop (b+1):=by
  rw[Xp H,(XK.1 j).2]
 have a:(flPs d.Route).take (b+1)=(flPs d.Route).take b++[d.Extra]:=by
  rw[List.take_add_one,j];rfl
 have t:∀{p q:List Int},Adj c (p++q)->Adj c p:=by
  intro p
  induction p with
  |nil=>intro q _;trivial
  |cons x p R=>
   intro q h;cases p with
   |nil=>trivial
   |cons y p=>exact⟨h.1,R h.2⟩
 have W:Adj c ((flPs d.Route).take b++[d.Extra]):=by
  rw[<- a];have e:(flPs d.Route)=(flPs d.Route).take (b+1)++(flPs d.Route).drop (b+1):=(Xy _ _).symm;rw[e]at w;exact t w
 have Q:Adj c (d.Extra::(flPs d.Route).drop (b+1)):=by rw[<- f];exact Qg9 b w
 rw[a,Vg,Vg,List.singleton_append];exact Adj.append W (Qis V Q k)
set_option maxRecDepth 10000
theorem timeI{x:Int}:timeB x=true↔isT x:=by
 unfold timeB inR isT;rw[XV,Vo,Vo]
def segIx(k:Clocks)(h:Hit):Int:=firstI (λx:Segment=>({mat:=x.Mat,epoch:=x.Epoch:Ue})=={mat:=h.Mat,epoch:=h.Epoch}) k.Segments 0
def spanV(c:Course)(s:Segment)(h:Hit):Span:={Lo:=i64.wrap (h.First+(devV c (kindAt c h.Mat) s h.First).Lo),Hi:=i64.wrap (h.Last+(devV c (kindAt c h.Mat) s h.Last).Hi)}
def timeV(c:Course)(k:Clocks)(h:Hit):Option Ud:=
 bif kindAt c h.Mat==1 then some {segment:= -1,span:=spanV c {Mat:=h.Mat,Epoch:=h.Epoch,Anchor:=0} h}else
  bif decide (segIx k h<0)then none else(k.Segments[(segIx k h).toNat]?).map λs=>{segment:=segIx k h,span:=spanV c s h}
def timesV(c:Course)(k:Clocks):List Hit->Option (List Ud)
 |[]=>some []
 |h::r=>(timeV c k h).bind λx=>(timesV c k r).map λl=>x::l
theorem Qc8(c:Course)(k:Clocks)(h:Hit)(r:List Hit):timesV c k (h::r)=(timeV c k h).bind λx=>(timesV c k r).map λl=>x::l:=rfl
theorem Qej(k:Clocks)(h:Hit)(d:k.Segments.length<=1048576):Ev (λn=>F_bq n k.Segments h) (segIx k h):=by
 unfold F_bq;refine Ev.first k.Segments _ (by omega) (λi x a=>?_) ?_
 .unfold F_ip;simp only[a.lt,Vm,a.ix,XI,a.nx];unfold F_dq;simp only[XI];cases(({mat:=x.Mat,epoch:=x.Epoch:Ue})=={mat:=h.Mat,epoch:=h.Epoch})<;>exact Qa _
 .unfold F_ip;simp only[Qa6,Vn];exact Qa _
theorem Qgb{k:Clocks}{h:Hit}(q:¬segIx k h<0):∃(j:Nat) (s:Segment),segIx k h=(j:Int)/\k.Segments[j]?=some s/\s.Mat=h.Mat/\s.Epoch=h.Epoch:=by
 rcases Qdg (λx:Segment=>({mat:=x.Mat,epoch:=x.Epoch:Ue})=={mat:=h.Mat,epoch:=h.Epoch}) k.Segments 0 with⟨a,_⟩|⟨j,s,a,e,d,_⟩
 .unfold segIx at q;rw[a]at q;omega
 .refine⟨j,s,by unfold segIx;rw[a];simp,e,?_⟩;rw[Vu]at d;simpa using d
structure HitOk (c:Course) (h:Hit):Prop where
 mat:∃(i:Nat) (m:Mat),h.Mat=(i:Int)/\c.Mats[i]?=some m
 fi:isT h.First
 la:isT h.Last
 le:h.First<=h.Last
theorem QkY{c:Course}{h:Hit}(q:wrongH c h=false):HitOk c h:=by
 unfold wrongH at q;simp only[XW,decide_eq_false_iff_not,Bool.not_eq_false',Qhj]at q;obtain⟨g,e,_,_,a,d,f⟩:=q;exact⟨⟨h.Mat.toNat,c.Mats[h.Mat.toNat]'(by omega),by omega,XJ _⟩,a,d,by omega⟩
theorem Qif{p:Nat->Bool}:∀{m i:Nat},chkFrom p m i=true->∀j,i<=j->j<i+m->p j=true
 |0,i,_,j,h1,h2=>by omega
 |m+1,i,h,j,h1,h2=>by
  unfold chkFrom at h;rw[XV]at h;rcases Nat.eq_or_lt_of_le h1 with rfl|q
  .exact h.1
  .exact Qif h.2 j q (by omega)
theorem Qh4{c:Course}{x:List Hit}(h:checkH c x=true):∀y∈x,HitOk c y:=by
 intro y d;obtain⟨i,a,rfl⟩:=List.getElem_of_mem d;have:=Qif h i (XT _) (by omega);unfold okAt at this;rw[XJ a]at this;simp only[XV,Bool.not_eq_true']at this;exact QkY this.1
theorem Qkw{c:Course}(h:CrsOk c)(he:Ev (λn=>F_c n c) 0){s:Segment}{i:Nat}{m:Mat}(e:s.Mat=(i:Int))(g:c.Mats[i]?=some m)(d:isT s.Anchor){a:Int}(f:isT a):
  Ev (λn=>F_ad n c s a) (devV c m.Kind s a,0):=by
 have j:matB c s.Mat=true:=by
  have:=(XK.1 g).1;unfold matB;rw[e,QA (by omega),QA (by omega)];rfl
 unfold F_ad;refine Ea he (Qs (Ea (v:=false) (Ea (Qep c _) ?_) (Qs (Ea (Qhv h g e d f) (Qa _)))));rw[j];refine Qs (Ea (Qa5 a) ?_);rw[timeI.2 f];refine Qs (Ea (Qa5 s.Anchor) ?_);rw[timeI.2 d];exact Qa _
structure ClkOk (k:Clocks):Prop where
 dims:Dims k
 ev:Ev (λn=>F_al n k) 0
 anc:∀s∈k.Segments,isT s.Anchor
theorem Qg7{k:Clocks}(w:ClkW k)(h:clkB k=true):ClkOk k:=by
 have e:=Qkt k w;rw[h]at e;refine⟨Qi4 h,e,λs f=>?_⟩;unfold clkB at h;simp only[XV]at h;have a:=h.2.1;unfold segsB at a;obtain⟨i,d,rfl⟩:=List.getElem_of_mem f;have:=QmW.1 a i d;rw[XJ d]at this;unfold segBad at this;simp only[Bool.not_eq_true',XW,Bool.not_eq_false']at this;exact timeI.1 this.2.2.2.2.1
theorem Qll{c:Course}{h:Hit}{i:Nat}{m:Mat}(d:h.Mat=(i:Int))(a:c.Mats[i]?=some m):kindAt c h.Mat=m.Kind:=by
 unfold kindAt;rw[d,Int.toNat_natCast,a];rfl
theorem Qkh{c:Course}{k:Clocks}(O:CrsOk c)(he:Ev (λn=>F_c n c) 0)(N:ClkOk k)(x:List Hit)(V:∀y∈x,HitOk c y)(hl:x.length<=1000):
  Ev (λn=>iter (F_ao n c k x) n ([],0)) (match timesV c k x with|some l=>Ctl.cont l|none=>Ctl.done (U_match_prepare.c0 170)):=by
 have hs:=N.dims.segs;have E:∀(r:List Hit) (a:List Ud) (i:Nat),x.drop i=r->i<=x.length->a.length<=i->EvI (λn=>F_ao n c k x) (a,(i:Int)) (match timesV c k r with|some l=>Ctl.cont (a++l)|none=>Ctl.done (U_match_prepare.c0 170)):=by
  intro r
  induction r with
  |nil=>
   intro a i F M d;refine Ej ?_;unfold F_ao;simp only[QS F M,Vn];refine(Qa _).eq ?_;simp[timesV]
  |cons h r T=>
   intro a i F M P;obtain⟨d,G⟩:=Qt (by omega) F;have Y:=d.lt';obtain⟨⟨j,m,q,t⟩,R,Q,f3⟩:=V h d.mem;have z:=Qll q t;have step:∀(g:Int×Segment),g.2.Mat=(j:Int)->isT g.2.Anchor->
     Ev (λn=>(F_ad n c g.2 h.First).bind λH=>(F_ad n c g.2 h.Last).bind λJ=>(app a [{segment:=g.1,span:={Lo:=i64.wrap (h.First+H.1.Lo),Hi:=i64.wrap (h.Last+J.1.Hi):Span}:Ud}]).bind λB=>some (Ctl.cont (B,((i+1:Nat):Int)):Ctl (List Ud×Int) (Ctl (List Ud) U_match_prepare)))
      (Ctl.cont (a++[{segment:=g.1,span:=spanV c g.2 h}],((i+1:Nat):Int))):=by
    intro g w u;refine Ea (Qkw O he w t u R) (Ea (Qkw O he w t u Q) (Ea (EA (Qc1 (by omega))) ((Qa _).eq ?_)));unfold spanV;rw[z]
   have p:∀(y:Ud),timeV c k h=some y->Ev (λn=>F_ao n c k x (a,(i:Int))) (Ctl.cont (a++[y],((i+1:Nat):Int)))->EvI (λn=>F_ao n c k x) (a,(i:Int)) (match timesV c k (h::r)with|some l=>Ctl.cont (a++l)|none=>Ctl.done (U_match_prepare.c0 170)):=by
    intro y W L;refine Ex L ((T (a++[y]) (i+1) G (by omega) (by simp;omega)).eq ?_);rw[Qc8,W];cases timesV c k r with
    |none=>rfl
    |some l=>simp
   cases f:(kindAt c h.Mat==1)with
   |true=>
    refine p {segment:= -1,span:=spanV c {Mat:=h.Mat,Epoch:=h.Epoch,Anchor:=0} h} (by unfold timeV;rw[f];rfl) ?_;unfold F_ao;simp only[d.lt,Vm,d.ix,XI,d.nx];refine Ea (Qej k h (by omega)) ?_;simp only[q,Qu t,XI];rw[z]at f;refine Ea (v:=Ctl.cont (-1,{Mat:=h.Mat,Epoch:=h.Epoch,Anchor:=0})) (by rw[f,q];exact Qa _) ?_;exact step (-1,{Mat:=h.Mat,Epoch:=h.Epoch,Anchor:=0}) q (by show isT 0;unfold isT;omega)
   |false=>
    by_cases e:segIx k h<0
    .have tn:timeV c k h=none:=by unfold timeV;rw[f,QA e];rfl
     refine Ej ?_;unfold F_ao;rw[Qc8,tn];simp only[d.lt,Vm,d.ix,XI,d.nx];refine Ea (Qej k h (by omega)) ?_;simp only[q,Qu t,XI];rw[z]at f;refine Ea (v:=Ctl.done (.done (.done (U_match_prepare.c0 170)))) (by rw[f,QA e];exact Qa _) ?_;exact Qa _
    .obtain⟨jj,s,w,u,X,g4⟩:=Qgb e;refine p {segment:=segIx k h,span:=spanV c s h} (by unfold timeV;rw[f,Qy e,w,Int.toNat_natCast,u];rfl) ?_;unfold F_ao;simp only[d.lt,Vm,d.ix,XI,d.nx];refine Ea (Qej k h (by omega)) ?_;simp only[q,Qu t,XI];rw[z]at f;refine Ea (v:=Ctl.cont (segIx k h,s)) (by rw[f,Qy e,w];simp only[Vn,Qu u,XI];exact Qa _) ?_;exact step (segIx k h,s) (X.trans q) (N.anc s (VD u))
 have:=(E x [] 0 rfl (XT _) (XS _)).ev;simpa using this
theorem Qf5{c:Course}{k:Clocks}:∀{x:List Hit} {l:List Ud},timesV c k x=some l->l.length=x.length/\ ∀(i:Nat) (h:Hit),x[i]?=some h->∃t,l[i]?=some t/\timeV c k h=some t
 |[],l,h=>by
  unfold timesV at h;cases h;exact⟨rfl,λi h q=>by simp at q⟩
 |y::x,l,h=>by
  unfold timesV at h;cases e:timeV c k y with
  |none=>rw[e]at h;cases h
  |some t=>
   rw[e]at h;cases e2:timesV c k x with
   |none=>rw[e2]at h;cases h
   |some l2=>
    rw[e2]at h;cases h;obtain⟨p1,p2⟩:=Qf5 e2;refine⟨by simp[p1],λi h q=>?_⟩;cases i with
    |zero=>simp at q;subst q;exact⟨t,rfl,e⟩
    |succ i=>exact p2 i h (by simpa using q)
theorem QjF{c:Course}{k:Clocks}{h:Hit}{t:Ud}(q:timeV c k h=some t):t.segment= -1\/ ∃(j:Nat) (s:Segment),t.segment=(j:Int)/\k.Segments[j]?=some s/\s.Mat=h.Mat:=by
 unfold timeV at q;cases e:(kindAt c h.Mat==1)with
 |true=>rw[e]at q;cases q;exact .inl rfl
 |false=>
  rw[e]at q;by_cases a:segIx k h<0
  .rw[QA a]at q;cases q
  .rw[Qy a]at q;obtain⟨j,s,f,d,g,_⟩:=Qgb a;rw[f,Int.toNat_natCast,d]at q;cases q;exact .inr ⟨j,s,rfl,d,g⟩
def hndS(a:List (Int×Ud)×Int)(h:Hand):List (Int×Ud)×Int:=
 bif !(YF a.1 h.Position)then(QU a.1 h.Position {segment:= -1,span:={Lo:=h.Lo,Hi:=h.Hi}},if a.2<h.Position then h.Position else a.2)else a
def hndV(l:List Hand):List (Int×Ud)×Int:=l.foldl hndS ([],-1)
theorem Qkl(l:List Hand)(d:l.length<=1048576):Ev (λn=>iter (F_gp n l) n ([],(-1),0)) (hndV l):=by
 refine Jq l hndS ([],-1) (λa i=>(a.1,a.2,(i:Int))) (λa=>a) (by omega) rfl (λi x a ha _=>?_) ?_
 .unfold F_gp hndS;simp only[ha.lt,Vm,ha.ix,XI,ha.nx];cases(!(YF a.1 x.Position))<;>exact Qa _
 .unfold F_gp;simp only[Qa6,Vn];exact Qa _
theorem Qh3:∀(l:List Hand) (a:List (Int×Ud)×Int) (p:Int),Y5 (l.foldl hndS a).1 p=(match Y5 a.1 p with|some x=>some x|none=>(l.find? λh=>h.Position==p).map λh=>{segment:= -1,span:={Lo:=h.Lo,Hi:=h.Hi}})
 |[],a,p=>by cases h:Y5 a.1 p<;>simp[h]
 |x::l,a,p=>by
  rw[XC,Qh3 l (hndS a x) p];unfold hndS;rw[QbE];cases hx:Y5 a.1 x.Position with
  |some y=>
   simp only[Option.isSome_some,Xg,Vn];cases hp:Y5 a.1 p with
   |some z=>rfl
   |none=>
    have hne:(x.Position==p)=false:=by rw[Vv];intro e;rw[e,hp]at hx;cases hx
    rw[List.find?_cons,hne]
  |none=>
   simp only[Option.isSome_none,Xh,Vm,Qac];by_cases e:p=x.Position
   .subst e;rw[Vq rfl,hx,List.find?_cons,beq_self_eq_true];rfl
   .rw[Vp e];cases hp:Y5 a.1 p with
    |some z=>rfl
    |none=>
     have hne:(x.Position==p)=false:=by rw[Vv];exact λq=>e q.symm
     rw[List.find?_cons,hne]
theorem Qh2:∀(l:List Hand) (a:List (Int×Ud)×Int) (P:Int),(∀q,YF a.1 q=true->q<=a.2)->((l.foldl hndS a).2<=P↔a.2<=P/\ ∀h∈l,h.Position<=P)
 |[],a,P,_=>by simp
 |x::l,a,P,ha=>by
  rw[XC,Qh2 l (hndS a x) P ?_]
  .unfold hndS;cases e:YF a.1 x.Position with
   |true=>
    have:=ha _ e;simp only[Xg,Vn,X5,forall_eq_or_imp];constructor
    .rintro⟨h1,h2⟩;exact⟨h1,by omega,h2⟩
    .rintro⟨h1,_,h2⟩;exact⟨h1,h2⟩
   |false=>
    simp only[Xh,Vm,X5,forall_eq_or_imp];constructor
    .rintro⟨h1,h2⟩;split at h1<;>exact⟨by omega,by omega,h2⟩
    .rintro⟨h1,h3,h2⟩;refine⟨?_,h2⟩;split<;>omega
  .intro q hq;unfold hndS at hq⊢;cases e:YF a.1 x.Position with
   |true=>
    rw[e]at hq;exact ha q hq
   |false=>
    rw[e]at hq;simp only[Xh,Vm]at hq⊢;rw[QbE,Qac]at hq;by_cases z:q=x.Position
    .subst z;split<;>omega
    .rw[Vp z, <- QbE]at hq;have:=ha q hq;split<;>omega
theorem Qgs(l:List Hand)(p:Int):Y5 (hndV l).1 p=(l.find? λh=>h.Position==p).map λh=>{segment:= -1,span:={Lo:=h.Lo,Hi:=h.Hi}}:=by
 unfold hndV;rw[Qh3];rfl
theorem Qj3(l:List Hand)(P:Int):(hndV l).2<=P↔ -1<=P/\ ∀h∈l,h.Position<=P:=Qh2 l _ P (λq h=>by cases h)
def legV(c:Course)(a b:Int):Leg:=(c.Legs.find? λl=>(l.From==a)&&(l.To==b)).getD {From:=0,To:=0,Min:=0,Max:=0}
def nextS(c:Course)(s:Span)(a b:Int):Span:={Lo:=i64.wrap (s.Lo+(legV c a b).Min),Hi:=i64.wrap (s.Hi+(legV c a b).Max)}
def sumsF(c:Course):Span->Int->List Int->List Span
 |_,_,[]=>[]
 |s,a,b::r=>nextS c s a b::sumsF c (nextS c s a b) b r
def sumsV(c:Course):List Int->List Span
 |[]=>[]
 |a::r=>{Lo:=0,Hi:=0}::sumsF c {Lo:=0,Hi:=0} a r
theorem Qhb(c:Course)(s:Span)(a b:Int)(r:List Int):sumsF c s a (b::r)=nextS c s a b::sumsF c (nextS c s a b) b r:=rfl
theorem QeR(c:Course):∀(r:List Int) (s:Span) (a:Int),(sumsF c s a r).length=r.length
 |[],_,_=>rfl
 |b::r,s,a=>by unfold sumsF;simp[QeR c r]
theorem Qiv(c:Course)(r:List Int):(sumsV c r).length=r.length:=by
 cases r with
 |nil=>rfl
 |cons a r=>unfold sumsV;simp[QeR]
theorem QmD{c:Course}(B:c.Legs.length<=512){k:Clocks}{r:List Int}{s:List Span}{x:List Hit}{t:List Ud}{hi:Int}{m:List (Int×Ud)}{i:Nat}{a b:Int}(w:r[i]?=some a)(z:i<=100000)(hg:hasLeg c a b=true):
  ∃j l,Ev (λn=>F_dc n c.Legs ((i+1:Nat):Int) b c k r s x t hi m c k) ((j:Nat):Int)/\c.Legs[j]?=some l/\l=legV c a b:=by
 have p:∀j y,At c.Legs j y->Ev (λn=>F_fc n c.Legs ((i+1:Nat):Int) b c k r s x t hi m c k (j:Int)) (bif (y.From==a)&&(y.To==b)then .done (.done (j:Int))else .cont ((j+1:Nat):Int)):=by
  intro j y e;unfold F_fc;simp only[e.lt,Vm,e.ix,XI,e.nx];refine Ea (v:=(y.From==a)&&(y.To==b)) ?_ ?_
  .unfold F_dt;rw[show i64.wrap (((i+1:Nat):Int)-1)=(i:Int)by rw[Qz (by omega) (by omega)];omega,Qu w,XI];exact Ea (Ei λ_=>Qa _) (Qa _)
  .cases((y.From==a)&&(y.To==b))<;>exact Qa _
 have u:Ev (λn=>F_fc n c.Legs ((i+1:Nat):Int) b c k r s x t hi m c k (c.Legs.length:Int)) (.done (.cont ())):=by
  unfold F_fc;simp only[Qa6,Vn];exact Qa _
 rcases Qjv c.Legs (λl=>(l.From==a)&&(l.To==b)) (by omega) p u with⟨j,y,d,f,q⟩|⟨d,f⟩
 .refine⟨j,y,?_,d.get,?_⟩
  .unfold F_dc;exact Ea q (Qa _)
  .unfold legV;rw[f];rfl
 .unfold hasLeg at hg;obtain⟨y,g,h⟩:=Xt.1 hg;have:=List.find?_eq_none.1 d y g;exact absurd h this
theorem Qlw{c:Course}(J:c.Legs.length<=512){k:Clocks}{r:List Int}{x:List Hit}{t:List Ud}{h:List (Int×Ud)×Int}(Q:r.length<=256)(N:Adj c r):
  Ev (λn=>iter (F_bm n c k x (r,0) t h) n ([],{Lo:=0,Hi:=0:Span},0)) (sumsV c r):=by
 have w:∀(q:List Int) (i:Nat) (a:Int) (s:Span) (o:List Span),r[i]?=some a->r.drop (i+1)=q->o.length=i+1->EvI (λn=>F_bm n c k x (r,0) t h) (o,s,((i+1:Nat):Int)) (o++sumsF c s a q):=by
  intro q
  induction q with
  |nil=>
   intro i a s o g p y;have:=(XK.1 g).1;refine Ej ?_;unfold F_bm;simp only[QS p (by omega),Vn];refine(Qa _).eq ?_;simp[sumsF]
  |cons b q G=>
   intro i a s o g p y;obtain⟨f,u⟩:=Qt (by omega) p;have P:=f.lt';obtain⟨j,l,L,M,O⟩:=QmD (c:=c) (k:=k) (s:=o) (x:=x) (t:=t) (hi:=h.2) (m:=h.1) J g (by omega) (N.at g f.get);refine Ex ?_ ((G (i+1) b (nextS c s a b) (o++[nextS c s a b]) f.get u (by simp[y])).eq (by rw[Qhb];simp));unfold F_bm;simp only[f.lt,Vm,f.ix,XI,f.nx];refine Ea (v:=nextS c s a b) ?_ (Ea (EA (Qc1 (by omega))) (Qa _));refine QaR (QA (show(0:Int)<((i+1:Nat):Int)by omega)) (Ea L ?_);simp only[Qu M,XI];unfold nextS;rw[<- O];exact Qa _
 cases d:r with
 |nil=>
  subst d;refine(Ej ?_).ev;unfold F_bm;exact Qa _
 |cons a q=>
  have z:r[0]?=some a:=by rw[d];rfl
  have H:r.drop (0+1)=q:=by rw[d];rfl
  have:=w q 0 a {Lo:=0,Hi:=0} [{Lo:=0,Hi:=0}] z H rfl;have e:At r 0 a:=Y4 (by omega) z;rw[<- d];refine(Ex (s':=([{Lo:=0,Hi:=0}],{Lo:=0,Hi:=0},((0+1:Nat):Int))) ?_ (this.eq ?_)).ev
  .unfold F_bm;have B:=e.lt;have E:=e.ix;have F:=e.nx;simp only[Int.natCast_zero,Int.ofNat_zero]at B E F;simp only[B,Vm,E,XI,F];refine Ea (v:={Lo:=0,Hi:=0}) (Qam (Qy (show¬(0:Int)<0 by omega)) (Qa _)) (Ea (EA (Qc1 (by simp))) (Qa _))
  .rw[d];rfl
def handW(h:Hand):Bool:=decide (h.Hi<h.Lo)||(!timeB h.Lo||(!timeB h.Hi||decide (h.Position<0)))
theorem QgN(x:Int):Ev (λn=>F_bc n x) (timeB x):=by
 unfold F_bc timeB inR;exact Ea (Ei λ_=>Qa _) (Qa _)
theorem Qkm(h:Hand):Ev (λn=>F_bg n h) (handW h):=by
 unfold F_bg handW;refine Ea (Ql λ_=>Ea (QgN _) (Ql λ_=>Ea (QgN _) (Ql λ_=>Qa _))) (Qa _)
def argW(c:Course)(s:Starter)(l:List Hand):Bool:=decide (s.Distance<0)||(decide ((c.Distances.length:Int)<=s.Distance)||(decide (s.Wave<0)||(decide ((c.Waves.length:Int)<=s.Wave)||l.any handW)))
def prepV(c:Course)(k:Clocks)(s:Starter)(e:Int)(x:List Hit)(l:List Hand):U_match_prepare:=
 bif !clkB k then .c0 160 else bif argW c s l then .c0 1 else bif (routeO c s.Distance e).2 != 0 then .c0 (routeO c s.Distance e).2 else bif !checkH c x then .c0 170 else
  match timesV c k x with
  |none=>.c0 170
  |some t=>.c1 ((routeO c s.Distance e).1,sumsV c (routeO c s.Distance e).1,t,(hndV l).1,(hndV l).2)
theorem Qhq{c:Course}(g:Good c)(m:courseE c=0)(he:Ev (λn=>F_c n c) 0){k:Clocks}(p:ClkW k)(s:Starter)(e:Int)(x:List Hit)(z:x.length<=1000)(l:List Hand)(L:l.length<=1048576):
  Ev (λn=>F_y n c k s e x l) (prepV c k s e x l):=by
 unfold F_y prepV;refine Ea he (Qs (Ea (Qkt k p) ?_));cases q:clkB k with
 |false=>exact Qa _
 |true=>
 refine Qs (Ea (v:=argW c s l) ?_ ?_)
 .unfold argW;refine Ql λ_=>Ql λ_=>Ql λ_=>Ql λ_=>Ea ?_ (Qa _);exact Ev.contains l handW (λn y=>F_bg n y) (by omega) λy _=>Qkm y
 cases argW c s l with
 |true=>exact Qa _
 |false=>
 refine Qs (Ea (QgP g he s.Distance e) ?_);cases G:((routeO c s.Distance e).2 != 0)with
 |true=>exact Qa _
 |false=>
 have a:(routeO c s.Distance e).2=0:=by simpa[bne]using G
 refine Qs (Ea (QiR c x (by omega) he) ?_);cases F:checkH c x with
 |false=>exact Qa _
 |true=>
 refine Qs (Ea (Qkh (QgV m) he (Qg7 p q) x (Qh4 F) z) ?_);cases timesV c k x with
 |none=>exact Qa _
 |some t=>
 obtain⟨j,d,w,M,J,B,E,H,i⟩:=QeW g a;have r:=VD B;have h:(routeO c s.Distance e).1.length<=256:=by
  rw[i];unfold routeV;simp only[X2,Xx,List.length_drop,List.length_replicate];omega
 have f:Adj c (routeO c s.Distance e).1:=by rw[i];exact Qiy g m r w E
 refine Ea (Qkl l (by omega)) ?_;have u:routeO c s.Distance e=((routeO c s.Distance e).1,0):=Prod.ext rfl a;rw[u];exact Ea (Qlw g.legs h f) (Qa _)
set_option maxRecDepth 10000
structure Task where
 c:Course
 k:Clocks
 r:List Int
 s:List Span
 H:List Hit
 T:List Ud
 m:List (Int×Ud)
 hi:Int
abbrev zX:Ud:={segment:=0,span:={Lo:=0,Hi:=0}}
def Task.seg(t:Task)(x:Ud):Prop:=∃j:Nat,x.segment+1=(j:Int)/\j<t.k.Segments.length+1
structure TaskOk (t:Task):Prop where
 ty:Ev (λn=>F_c n t.c) 0
 crs:CrsOk t.c
 clk:ClkOk t.k
 sl:t.s.length=t.r.length
 rl:t.r.length<=256
 tl:t.T.length=t.H.length
 hl:t.H.length<=1000
 hit:∀(i:Nat) (h:Hit),t.H[i]?=some h->HitOk t.c h
 sg:∀x∈t.T,t.seg x
 hs:∀p x,Y5 t.m p=some x->t.seg x
 mi:0<=t.c.Faults.Misses
def knownV(t:Task)(p h:Int):Ud×Bool:=bif YF t.m p||decide (h<0)then(Qq t.m p zX,YF t.m p)else((t.T[h.toNat]?).getD zX,true)
def hitI(t:Task)(h:Int):Prop:=h<0\/h.toNat<t.H.length
theorem Qbl{α:Type}{l:List α}{h:Int}(d:0<=h)(a:h.toNat<l.length):∃x,l[h.toNat]?=some x/\idx l h=some x:=by
 refine⟨l[h.toNat]'(a),XJ a,?_⟩;have:=Qu (l:=l) (i:=h.toNat) (XJ a)
 rwa [Int.toNat_of_nonneg d]at this
theorem Qkk{t:Task}(ok:TaskOk t)(p h:Int)(a:hitI t h):Ev (λn=>F_ag n p h t.c t.k t.r t.s t.H t.T t.hi t.m t.c t.k) (knownV t p h):=by
 unfold F_ag knownV;refine Ea (Qa _) (Ea (Ql λ_=>Qa _) ?_);refine QaK (λ_=>Qa _) λq=>?_;rw[XW,decide_eq_false_iff_not]at q;obtain⟨x,e,d⟩:=Qbl (l:=t.T) (h:=h) (by omega) (by have:=ok.tl;rcases a with z|z<;>omega);rw[d,e];exact Qa _
theorem Qe4{t:Task}(ok:TaskOk t){p h:Int}(f:hitI t h)(q:(knownV t p h).2=true):t.seg (knownV t p h).1:=by
 unfold knownV at q⊢;cases e:(YF t.m p||decide (h<0))with
 |true=>
  rw[e]at q;simp only[Vm]at q⊢;rw[QbE]at q;obtain⟨x,a⟩:=Option.isSome_iff_exists.1 q;unfold Qq;rw[a];exact ok.hs p x a
 |false=>
  simp only[Vn];rw[XW,decide_eq_false_iff_not]at e;obtain⟨x,d,g⟩:=Qbl (l:=t.T) (h:=h) (by omega) (by have:=ok.tl;rcases f with z|z<;>omega);rw[d];exact ok.sg x (VD d)
def meetV(d w:Span):Bool:=decide ((if d.Lo<w.Lo then w.Lo else d.Lo)<=(if w.Hi<d.Hi then w.Hi else d.Hi))
def trueV(c:Course)(k:Clocks)(g:Int)(a b:Int):Span:=
 bif decide (g<0)then {Lo:=a,Hi:=i64.wrap (b+c.Faults.Residual)}else match k.Segments[g.toNat]? with
 |none=>{Lo:=0,Hi:=0}
 |some s=>bif !matB c s.Mat then {Lo:=0,Hi:=0}else
  {Lo:=i64.wrap (i64.wrap (a+(devV c (kindAt c s.Mat) s a).Lo)-farG k (g.toNat+1) 0),Hi:=i64.wrap (i64.wrap (b+(devV c (kindAt c s.Mat) s b).Hi)+farG k 0 (g.toNat+1))}
theorem Qlv{t:Task}(ok:TaskOk t){x:Ud}(T:t.seg x){a b:Int}(J:isT a)(L:isT b)(N:a<=b):∃e,Ev (λn=>F_at n t.c t.k x.segment {Lo:=a,Hi:=b}) (trueV t.c t.k x.segment a b,e):=by
 obtain⟨j,j1,X⟩:=T;have Y:=ok.clk.dims.segs;have start:∀{v:Span×Int},Ev (λn=>(bif decide (x.segment<0)then some ({Lo:=a,Hi:=i64.wrap (b+t.c.Faults.Residual):Span},0)else(idx t.k.Segments x.segment).bind λf=>(F_ap n t.c f.Mat).bind λB=>(bif (!B)then some ({Lo:=0,Hi:=0:Span},1)else(F_x n t.c f a).bind λq=>(idx t.k.Far (i64.wrap (x.segment+1))).bind λy=>(idx y 0).bind λr=>(F_x n t.c f b).bind λu=>(idx t.k.Far 0).bind λz=>(idx z (i64.wrap (x.segment+1))).bind λF=>some ({Lo:=i64.wrap ((i64.wrap (a+q.Lo))-r),Hi:=i64.wrap ((i64.wrap (b+u.Hi))+F):Span},0)):Option (Span×Int))) v->Ev (λn=>F_at n t.c t.k x.segment {Lo:=a,Hi:=b}) v:=by
  intro v O;unfold F_at;refine Ea ok.ty (Qs (Ea ok.clk.ev (Qs (Ea (v:=false) ?_ (Qs O)))));simp only[Qy (show¬x.segment< -1 by omega),Qy (show¬(t.k.Segments.length:Int)<=x.segment by omega),Vn];refine Ea (Qa5 a) ?_;rw[timeI.2 J];refine Qs (Ea (Qa5 b) ?_);rw[timeI.2 L];refine Qs ?_;rw[Qy (by show¬b<a;omega)];exact Qa _
 unfold trueV;by_cases d:x.segment<0
 .rw[QA d];exact⟨_,start (QaR (QA d) (Qa _))⟩
 rw[Qy d];simp only[Vn];obtain⟨s,G,H⟩:=Qbl (l:=t.k.Segments) (h:=x.segment) (by omega) (by omega);rw[G];simp only;cases p:matB t.c s.Mat with
 |false=>exact⟨_,start (Qam (Qy d) (QO H (Ea ((Qep t.c s.Mat).eq p) (QaR rfl (Qa _)))))⟩
 |true=>
  obtain⟨i,m,g,E⟩:=Qmu p;have P:kindAt t.c s.Mat=m.Kind:=by unfold kindAt;rw[g,Int.toNat_natCast,E];rfl
  have M:=ok.clk.anc s (VD G);obtain⟨Q,R⟩:=ok.clk.dims.get (i:=x.segment.toNat+1) (j:=0) (by omega) (by omega);obtain⟨W,V⟩:=ok.clk.dims.get (i:=0) (j:=x.segment.toNat+1) (by omega) (by omega);have w:i64.wrap (x.segment+1)=((x.segment.toNat+1:Nat):Int):=by rw[Qz (by omega) (by omega)];omega
  refine⟨0,start (Qam (Qy d) (QO H (Ea ((Qep t.c s.Mat).eq p) (Qam rfl (Ea (Qhv ok.crs E g M J) (QO (v:=t.k.Far[x.segment.toNat+1]?.getD []) (by rw[w];exact Qu Q) (QO (v:=farG t.k (x.segment.toNat+1) 0) (Qu (i:=0) R) (Ea (Qhv ok.crs E g M L) (QO (v:=t.k.Far[0]?.getD []) (Qu (i:=0) W) (QO (v:=farG t.k 0 (x.segment.toNat+1)) (by rw[w];exact Qu V) ?_))))))))))⟩;rw[P];exact Qa _
def agreeV(t:Task)(h p:Int):Bool:=bif !(YF t.m p)then true else match t.H[h.toNat]?,t.T[h.toNat]? with
 |some y,some x=>meetV (trueV t.c t.k x.segment y.First y.Last) (Qq t.m p zX).span
 |_,_=>true
theorem Qku{t:Task}(ok:TaskOk t){h p:Int}(g:0<=h)(f:h.toNat<t.H.length):Ev (λn=>F_cf n h p t.c t.k t.c t.k t.r t.s t.H t.T t.hi t.m) (agreeV t h p):=by
 unfold F_cf agreeV;refine Ea (Qa _) ?_;cases YF t.m p with
 |false=>exact Qa _
 |true=>
  obtain⟨y,y1,y2⟩:=Qbl (l:=t.H) g f;obtain⟨x,d,i⟩:=Qbl (l:=t.T) g (by rw[ok.tl];exact f);have a:=ok.hit _ _ y1;rw[y2,i,y1,d];refine Qs ?_;simp only[XI];obtain⟨e,j⟩:=Qlv ok (ok.sg x (VD d)) a.fi a.la a.le;refine Ea j ?_;unfold F_ax;exact Qa _
def needV(t:Task)(i j:Int):Span:=
 let a:=(t.s[i.toNat]?).getD {Lo:=0,Hi:=0}
 let b:=(t.s[j.toNat]?).getD {Lo:=0,Hi:=0}
 {Lo:=if i64.wrap (b.Lo-a.Lo)<2199023255552 then i64.wrap (b.Lo-a.Lo)else 2199023255552,Hi:=if i64.wrap (b.Hi-a.Hi)<2199023255552 then i64.wrap (b.Hi-a.Hi)else 2199023255552}
theorem QlC{t:Task}(ok:TaskOk t){i j:Int}(d:0<=i)(f:i.toNat<t.r.length)(p:0<=j)(h:j.toNat<t.r.length):Ev (λn=>F_ae n i j t.c t.k t.r t.s t.H t.T t.hi t.m t.c t.k) (needV t i j):=by
 obtain⟨a,q,e⟩:=Qbl (l:=t.s) d (by rw[ok.sl];exact f);obtain⟨b,g,u⟩:=Qbl (l:=t.s) p (by rw[ok.sl];exact h);unfold F_ae needV;rw[e,u,q,g];exact Qa _
def distV(t:Task)(a b:Ud):Span:=
 bif (i64.wrap (a.segment+1)) != (i64.wrap (b.segment+1))then
  {Lo:=i64.wrap (i64.wrap (b.span.Lo-a.span.Hi)-farG t.k (b.segment+1).toNat (a.segment+1).toNat),Hi:=i64.wrap (i64.wrap (b.span.Hi-a.span.Lo)+farG t.k (a.segment+1).toNat (b.segment+1).toNat)}
 else {Lo:=i64.wrap (b.span.Lo-a.span.Hi),Hi:=i64.wrap (b.span.Hi-a.span.Lo)}
def followsV(t:Task)(a:Ud)(i:Int)(b:Ud)(j:Int):Bool:=meetV (distV t a b) (needV t i j)
theorem Qhu{t:Task}(ok:TaskOk t){a b:Ud}{i j:Int}(B:t.seg a)(g:t.seg b)(h:0<=i)(p:i.toNat<t.r.length)(q:0<=j)(l:j.toNat<t.r.length):
  Ev (λn=>F_as n a i b j t.c t.k t.r t.s t.H t.T t.hi t.m t.c t.k) (followsV t a i b j):=by
 obtain⟨x,w,d⟩:=B;obtain⟨y,y1,y2⟩:=g;have E:=ok.clk.dims.segs;unfold F_as followsV;refine Ea (v:=distV t a b) ?_ (Ea (QlC ok h p q l) ?_)
 .unfold distV;rw[w,y1,Qz (n:=(x:Int)) (by omega) (by omega),Qz (n:=(y:Int)) (by omega) (by omega)];refine QaK (λ_=>?_) λ_=>Qa _;obtain⟨e,f⟩:=ok.clk.dims.get (i:=y) (j:=x) y2 d;obtain⟨z,u⟩:=ok.clk.dims.get (i:=x) (j:=y) d y2;rw[Qu e,XI,Qu f,XI,Qu z,XI,Qu u,XI,Int.toNat_natCast,Int.toNat_natCast];exact Qa _
 .unfold F_ax;exact Qa _
structure StOk (t:Task) (s:Uf):Prop where
 la:s.last<(t.r.length:Int)
 wh:0<=s.last->t.seg s.when
 r0:0<=s.row
 r1:s.row<=1000
def stopV(t:Task)(s:Uf)(p h:Int):Bool:=(decide (0<=h)&& !agreeV t h p)||(decide (0<=s.last)&& !followsV t s.when s.last (knownV t p h).1 p)
def stepV(t:Task)(s:Uf)(p h:Int):Uf×Bool:=
 bif !(knownV t p h).2 then({s with row:=s.row+1},decide (s.row+1<=t.c.Faults.Misses))else bif stopV t s p h then(s,false)else({last:=p,when:=(knownV t p h).1,row:=0},true)
theorem Qlx{t:Task}(ok:TaskOk t){s:Uf}(e:StOk t s){p h:Int}(u:0<=p)(w:p.toNat<t.r.length)(g:hitI t h):
  Ev (λn=>F_ab n s p h t.c t.k t.r t.s t.H t.T t.hi t.m t.c t.k) (stepV t s p h):=by
 have r0:=e.r0;have r1:=e.r1;unfold F_ab stepV;refine Ea (Qkk ok p h g) ?_;rw[Qz (n:=s.row+1) (by omega) (by omega)];cases i:(knownV t p h).2 with
 |false=>exact Qa _
 |true=>
  have l:=Qe4 ok g i;refine Qs (Ea (v:=stopV t s p h) ?_ ?_)
  .have d:Ev (λn=>(bif decide (0<=s.last)then(F_as n s.when s.last (knownV t p h).1 p t.c t.k t.r t.s t.H t.T t.hi t.m t.c t.k).bind λf=>some (!f)else some false:Option Bool)) (decide (0<=s.last)&& !followsV t s.when s.last (knownV t p h).1 p):=by
    refine Ei λq=>?_;have q:=Vs q;exact Ea (Qhu ok (e.wh q) l q (by have:=e.la;omega) u w) (Qa _)
   unfold stopV;by_cases a:0<=h
   .rw[QA a,Vw];have j:h.toNat<t.H.length:=by rcases g with z|z<;>omega
    refine Ea (Qku ok a j) ?_;exact Ql λ_=>d
   .rw[Qy a,Bool.false_and,Bool.false_or];exact d
  .cases stopV t s p h<;>exact Qa _
theorem Qlb{t:Task}(ok:TaskOk t){s:Uf}(a:StOk t s){p h:Int}(e:p<(t.r.length:Int))(f:hitI t h)(g:s.row<1000):StOk t (stepV t s p h).1:=by
 have r0:=a.r0;unfold stepV;cases d:(knownV t p h).2 with
 |false=>exact⟨a.la,a.wh,by show 0<=s.row+1;omega,by show s.row+1<=1000;omega⟩
 |true=>
  simp only[Xg,Vn];cases stopV t s p h with
  |true=>exact a
  |false=>exact⟨e,λ_=>Qe4 ok f d,by show(0:Int)<=0;omega,by show(0:Int)<=1000;omega⟩
def badV(t:Task)(W:Way)(u:List (Int×Bool))(i:Nat)(h:Int):Bool:=
 decide (h<0)||(decide ((t.H.length:Int)<=h)||((((t.H[h.toNat]?).map (·.Mat)).getD 0 != (t.r[i]?).getD 0)||(Qq u h false||decide (W.Last<(i:Int)))))
def admL(t:Task)(W:Way):List Int->Nat->List (Int×Bool)->Uf->Bool
 |[],_,_,_=>true
 |h::r,i,u,s=>
  bif (h != -1)&&badV t W u i h then false else
  bif decide (W.Last<(i:Int))then admL t W r (i+1) (bif h != -1 then QU u h true else u) s else
  bif !(stepV t s (i:Int) h).2 then false else admL t W r (i+1) (bif h != -1 then QU u h true else u) (stepV t s (i:Int) h).1
theorem Qfl(t:Task)(W:Way)(h:Int)(r:List Int)(i:Nat)(u:List (Int×Bool))(s:Uf):admL t W (h::r) i u s=
  bif (h != -1)&&badV t W u i h then false else
  bif decide (W.Last<(i:Int))then admL t W r (i+1) (bif h != -1 then QU u h true else u) s else
  bif !(stepV t s (i:Int) h).2 then false else admL t W r (i+1) (bif h != -1 then QU u h true else u) (stepV t s (i:Int) h).1:=rfl
def inV(l:List Int)(x:Int):Bool:=decide (0<=firstI (λy=>x==y) l 0)
def strL(W:Way):List Hit->Nat->Int->Int
 |[],_,a=>a
 |_::r,i,a=>strL W r (i+1) (bif !inV W.Hits (i:Int)then i64.wrap (a+1)else a)
theorem Qfd(W:Way)(H:List Hit)(p:W.Hits.length<=1048576)(q:H.length<=1048576):Ev (λn=>F_ac n H W) (strL W H 0 0):=by
 have f:∀(r:List Hit) (i:Nat) (a:Int),H.drop i=r->i<=H.length->EvI (λn=>F_ib n H W) (a,(i:Int)) (strL W r i a):=by
  intro r
  induction r with
  |nil=>
   intro i a g k;refine Ej ?_;unfold F_ib;simp only[QS g k,Vn];exact Qa _
  |cons y r l=>
   intro i a g k;obtain⟨e,h⟩:=Qt (by omega) g;have m:=e.lt';refine Ex ?_ (l (i+1) _ h (by omega));unfold F_ib;simp only[e.lt,Vm,e.nx];refine Ea (v:=inV W.Hits (i:Int)) ?_ ?_
   .unfold F_ep inV;refine Ea (v:=firstI (λy=>(i:Int)==y) W.Hits 0) ?_ (Qa _);unfold F_fr;refine Ev.first W.Hits _ (by omega) (λj x d=>?_) ?_
    .unfold F_iq;simp only[d.lt,Vm,d.ix,XI,d.nx];cases((i:Int)==x)<;>exact Qa _
    .unfold F_iq;simp only[Qa6,Vn];exact Qa _
   .cases inV W.Hits (i:Int)<;>exact Qa _
 unfold F_ac;exact Ea (f H 0 0 rfl (XT _)).ev (Qa _)
def admB(t:Task)(W:Way):Bool:=((W.Hits.length:Int) != (t.r.length:Int))||(decide (W.Last< -1)||(decide ((t.r.length:Int)<=W.Last)||(decide (W.Last<t.hi)||decide (t.c.Faults.Strays<strL W t.H 0 0))))
def s0V:Uf:={z_match_state with last:=(-1)}
def admV(t:Task)(W:Way):Bool:=bif admB t W then false else admL t W W.Hits 0 [] s0V
theorem s0_ok{t:Task}:StOk t s0V:=⟨by show(-1:Int)<_;omega,λh=>by have:(0:Int)<= -1:=h;omega,by show(0:Int)<=0;omega,by show(0:Int)<=1000;omega⟩
theorem Qd7{t:Task}{W:Way}{u:List (Int×Bool)}{i:Nat}{h:Int}(q:((h != -1)&&badV t W u i h)=false):hitI t h/\(h= -1\/(0<=h/\badV t W u i h=false)):=by
 rw[Bool.and_eq_false_iff]at q;rcases q with q|q
 .have:h= -1:=by simpa[bne]using q
  exact⟨.inl (by omega),.inl this⟩
 .have a:=q;unfold badV at a;simp only[XW,decide_eq_false_iff_not]at a;exact⟨.inr (by omega),.inr ⟨by omega,q⟩⟩
theorem QmF{t:Task}(ok:TaskOk t)(W:Way)(X:W.Hits.length<=1048576):Ev (λn=>F_ak n W t.c t.k t.r t.s t.H t.T t.hi t.m t.c t.k) (admV t W):=by
 unfold F_ak admV;refine Ea (v:=admB t W) ?_ ?_
 .unfold admB;exact Ql λ_=>Ql λ_=>Ql λ_=>Ql λ_=>Ea (Qfd W t.H X (by have:=ok.hl;omega)) (Qa _)
 cases M:admB t W with
 |true=>exact Qa _
 |false=>
 unfold admB at M;simp only[XW,decide_eq_false_iff_not]at M;obtain⟨f,b1,b2,b3,_⟩:=M;have f:W.Hits.length=t.r.length:=by have:=f;simp[bne]at this;omega
 have rl:=ok.rl;have J:∀(r:List Int) (i:Nat) (u:List (Int×Bool)) (s:Uf),W.Hits.drop i=r->i<=W.Hits.length->StOk t s->s.row<=(i:Int)->EvI (λn=>F_bn n W t.c t.k t.r t.s t.H t.T t.hi t.m t.c t.k) (u,s,(i:Int)) (bif admL t W r i u s then Ctl.cont ()else Ctl.done false):=by
  intro r
  induction r with
  |nil=>
   intro i u s L hi q _;refine Ej ?_;unfold F_bn admL;simp only[QS L hi,Vn];exact Qa _
  |cons h r Q=>
   intro i u s L hi q V;obtain⟨d,w⟩:=Qt (by omega) L;have Y:=d.lt';rw[Qfl];have x:t.r[i]?=some (t.r[i]'(by omega)):=XJ (by omega);have a:Ev (λn=>((bif (h != (-1))then((bif decide (h<0)then some true else(bif decide ((t.H.length:Int)<=h)then some true else(idx t.H h).bind λz=>(idx t.r (i:Int)).bind λE=>(bif (z.Mat != E)then some true else(some (Qq u h false)).bind λg=>(bif g then some true else some (decide (W.Last<(i:Int))))))):Option Bool).bind λB=>(bif B then some (.done (.done (.done (.done false))))else(some (QU u h true)).bind λG=>some (.cont G))else some (.cont u)):Option (Ctl (List (Int×Bool)) (Ctl ((List (Int×Bool))×Uf) (Ctl ((List (Int×Bool))×Uf×Int) (Ctl Unit Bool))))))
     (bif (h != -1)&&badV t W u i h then .done (.done (.done (.done false)))else .cont (bif h != -1 then QU u h true else u)):=by
    cases hn:(h != -1)with
    |false=>exact Qa _
    |true=>
     refine QeI (Ea (v:=badV t W u i h) ?_ ?_)
     .unfold badV;refine Ql λR=>Ql λN=>?_;have R:=Vt R;have N:=Vt N;obtain⟨y,y1,y2⟩:=Qbl (l:=t.H) (h:=h) (by omega) (by omega);rw[y2,y1,XI,Qu x,XI,x];exact Ql λ_=>Ea (Qa _) (Ql λ_=>Qa _)
     .cases badV t W u i h<;>exact Qa _
   cases e:((h != -1)&&badV t W u i h)with
   |true=>
    rw[e]at a;refine Ej ?_;unfold F_bn;simp only[d.lt,Vm,d.ix,XI,d.nx];exact Ea (Ea a (Qa _)) (Qa _)
   |false=>
    rw[e]at a;obtain⟨P,_⟩:=Qd7 e;simp only[Vn]at a⊢;by_cases F:W.Last<(i:Int)
    .rw[QA F,Vm];refine Ex ?_ (Q (i+1) _ s w (by omega) q (by omega));unfold F_bn;simp only[d.lt,Vm,d.ix,XI,d.nx];exact Ea (v:=Ctl.cont (_,_)) (Ea a (QaR (QA F) (Qa _))) (Qa _)
    .rw[Qy F,Vn];have O:=Qlx ok q (p:=(i:Int)) (h:=h) (by omega) (by omega) P;cases j:(stepV t s (i:Int) h).2 with
     |false=>
      refine Ej ?_;unfold F_bn;simp only[d.lt,Vm,d.ix,XI,d.nx];refine Ea (v:=Ctl.done (.done (.done false))) (Ea a (Qam (Qy F) (Ea O (v:=(stepV t s (i:Int) h)) ?_))) (Qa _);rw[j];exact Qa _
     |true=>
      simp only[Xg,Vn];refine Ex ?_ (Q (i+1) _ _ w (by omega) (Qlb ok q (by omega) P (by omega)) ?_)
      .unfold F_bn;simp only[d.lt,Vm,d.ix,XI,d.nx];refine Ea (v:=Ctl.cont (_,(stepV t s (i:Int) h).1)) (Ea a (Qam (Qy F) (Ea O (v:=(stepV t s (i:Int) h)) ?_))) (Qa _);rw[j];exact Qa _
      .have r0:=q.r0;unfold stepV;cases(knownV t (i:Int) h).2 with
       |false=>show s.row+1<=_;omega
       |true=>
        simp only[Xg,Vn];cases stopV t s (i:Int) h with
        |true=>show s.row<=_;omega
        |false=>show(0:Int)<=_;omega
 refine Qs ?_;unfold F_bj;simp only[XI];refine Ea (J W.Hits 0 [] s0V rfl (XT _) s0_ok (by show(0:Int)<=_;omega)).ev ?_;cases admL t W W.Hits 0 [] s0V<;>exact Qa _
set_option maxRecDepth 10000
theorem QlA(M:Int):∀(m:Nat) (l:List Part),szPs l<=m->partsS M l=true->l.length<=1048576->(∀x∈l,Part.wf x)->(flPs l).length<=256->Ev (λn=>F_u n l) (flPs l):=by
 intro m
 induction m using Nat.strongRecOn with
 |_ m V=>
 intro l hm E P X Q;rw[YX,Xs]at E;refine Yw ?_;show Ev (λn=>B_u (F_u n) n l) _;unfold B_u;have inner:∀(p:Part) (i:Nat) (e:At l i p) (G w:List Int),0<=p.Laps->p.Laps<=64->w.length<=256->∀(k j:Nat) (o:List Int),j+k=p.Laps.toNat->o.length+(List.replicate k w).flatten.length<=256->
   EvI (λn=>F_eq n l (G,(i:Int)) w) (o,(j:Int)) (o++(List.replicate k w).flatten):=by
  intro p i e G w H L O k
  induction k with
  |zero=>
   intro j o Y _;refine Ej ?_;unfold F_eq;simp only[e.ix,XI,Qy (show¬((j:Int)<p.Laps)by omega),Vn,List.replicate_zero,List.flatten_nil,Ve];exact Qa _
  |succ k h=>
   intro j o Y f;by_cases z:w.length=0
   .have z:w=[]:=VF.1 z;subst z;refine Ej ?_;unfold F_eq;simp only[e.ix,XI,QA (show(j:Int)<p.Laps by omega),Vm,Qy (show¬((0:Int)<(([]:List Int).length:Int))by simp),Vn];exact(Qa _).eq (by simp)
   .rw[Xl,Vj]at f⊢;simp only[X2]at f;refine(Ex ?_ (h (j+1) (o++w) (by omega) (by rw[X2];omega))).eq (by rw[Vg]);unfold F_eq;simp only[e.ix,XI,QA (show(j:Int)<p.Laps by omega),Vm,QA (show(0:Int)<(w.length:Int)by omega),QA (show(o.length:Int)<=300 by omega)];refine QO (QaI o w (by omega)) ?_;rw[Yc (by omega)];exact Qa _
 have loop:∀(r:List Part) (i:Nat) (o:List Int),l.drop i=r->i<=l.length->o.length+(flPs r).length<=256->EvI (λn=>F_gh n l (F_u n)) (o,(i:Int)) (o++flPs r):=by
  intro r
  induction r with
  |nil=>
   intro i o s F _;refine Ej ?_;unfold F_gh;simp only[QS s F,Vn,flPs,Ve];exact Qa _
  |cons p r y=>
   intro i o s F f;obtain⟨e,t⟩:=Qt (by omega) s;have aa:=e.lt';rw[Qa2,X2]at f;have T:=YN e.mem;rw[YB]at T;obtain⟨N,R⟩:=Q8 (X p e.mem);have W:=E p e.mem;refine(Ex ?_ (y (i+1) (o++flP p) t (by omega) (by rw[X2];omega))).eq (by rw[Qa2,Vg]);unfold F_gh;simp only[e.lt,Vm,e.ix,XI,e.nx];rcases QfE W with H|⟨a,b,d⟩
   .have g:(p.Laps==0)=true:=by simp[H]
    have u:flP p=[p.Mat]:=by rw[Qc0,g];rfl
    rw[u]at f⊢;refine Ea (v:=o++[p.Mat]) ?_ (Qa _);rw[g];exact QeI (Ea (EA (Qc1 (by omega))) (Qa _))
   .have g:(p.Laps==0)=false:=beq_false_of_ne (by omega);have u:flP p=(List.replicate p.Laps.toNat (flPs p.Parts)).flatten:=by rw[Qc0,g];rfl
    rw[u]at f⊢;have B:(flPs p.Parts).length<=256:=by
     obtain⟨J,q⟩:∃J,p.Laps.toNat=J+1:=⟨p.Laps.toNat-1,by omega⟩;rw[q,Xl,Vj,X2]at f;omega
    refine Ea (v:=o++(List.replicate p.Laps.toNat (flPs p.Parts)).flatten) ?_ (Qa _);rw[g];exact Qs (Ea (V (szPs p.Parts) (by omega) p.Parts (XS _) d N R B) (Ea ((inner p i e o (flPs p.Parts) (by omega) b B p.Laps.toNat 0 o (by omega) (by omega)).ev) (Qa _)))
 exact Ea ((loop l 0 [] (by simp) (XT _) (by simpa using Q)).ev.eq (Vf _)) (Qa _)
theorem Qe3(l:List Int)(x:Int){j:Nat}(f:0<j)(d:l[j]?=some x):∀m,j<=m->(∀p,j<p->p<=m->l[p]? ≠some x)->lastB l x m=j
 |0,h,_=>by omega
 |m+1,h,h2=>by
  unfold lastB;rcases Nat.eq_or_lt_of_le h with e|q
  .rw[<- e,d];simp
  .have:=h2 (m+1) q (XS _);have e:(l[m+1]? ==some x)=false:=by rw[Vv];exact this
   rw[e,Vn];exact Qe3 l x f d m (by omega) λp a b=>h2 p a (by omega)
theorem QlE(l:List Int)(x:Int)(N:l.length<=1048576):∃b:Int,Ev (λn=>F_bw n l x) b/\((b= -1/\ ∀p:Nat,l[p]? ≠some x)\/ ∃q:Nat,q<l.length/\b=(q:Int)/\l[q]?=some x/\ ∀p:Nat,q<p->l[p]? ≠some x):=by
 have u:∀(r:List Int) (i:Nat) (b:Int),l.drop i=r->i<=l.length->((b= -1/\ ∀p:Nat,p<i->l[p]? ≠some x)\/ ∃q:Nat,q<i/\b=(q:Int)/\l[q]?=some x/\ ∀p:Nat,q<p->p<i->l[p]? ≠some x)->
   ∃h:Int,EvI (λn=>F_ia n l x) (b,(i:Int)) h/\((h= -1/\ ∀p:Nat,l[p]? ≠some x)\/ ∃q:Nat,q<l.length/\h=(q:Int)/\l[q]?=some x/\ ∀p:Nat,q<p->l[p]? ≠some x):=by
  intro r
  induction r with
  |nil=>
   intro i b m H B;have L:l.length<=i:=Xq.1 m;have k:∀p:Nat,i<=p->l[p]? ≠some x:=λp F=>by rw[XN (by omega)];exact nofun
   refine⟨b,Ej ?_,?_⟩
   .unfold F_ia;simp only[QS m H,Vn];exact Qa _
   .rcases B with⟨g,d⟩|⟨q,g,d,E,s⟩
    .exact .inl ⟨g,λp=>(Vy p i).elim (d p) (k p)⟩
    .exact .inr ⟨q,by omega,d,E,λp a=>(Vy p i).elim (s p a) (k p)⟩
  |cons y r J=>
   intro i b m H B;obtain⟨f,w⟩:=Qt (by omega) m;have M:=f.lt';obtain⟨h,t,G⟩:=J (i+1) (bif y==x then(i:Int)else b) w (by omega) (by
    cases e:(y==x)with
    |true=>
     rw[Vu]at e;subst e;exact .inr ⟨i,by omega,rfl,f.get,λp a c=>by omega⟩
    |false=>
     rw[Vv]at e;have j:l[i]? ≠some x:=by rw[f.get];intro q;cases q;exact e rfl
     rcases B with⟨g,d⟩|⟨q,g,d,E,s⟩
     .exact .inl ⟨g,λp F=>(Vy p i).elim (d p) λz=>(show i=p by omega)▸j⟩
     .exact .inr ⟨q,by omega,d,E,λp a F=>(Vy p i).elim (s p a) λz=>(show i=p by omega)▸j⟩)
   refine⟨h,Ex ?_ t,G⟩;unfold F_ia;simp only[f.lt,Vm,f.ix,XI,f.nx];cases(y==x)<;>exact Qa _
 obtain⟨b,t,G⟩:=u l 0 (-1) rfl (XT _) (.inl ⟨rfl,λp F=>by omega⟩);refine⟨b,?_,G⟩;unfold F_bw;exact Ea t.ev (Qa _)
theorem Qke{c:Course}(g:Good c)(w:courseE c=0){d:Distance}(t:d∈c.Distances)(hE:0<=d.Extra):∃i,0<i/\(flPs d.Route)[i]?=some d.Extra:=by
 have h:=(Jn w).2.2 d t;unfold routeS routeR at h;rw[g.exp t]at h;simp only[XV,Vo]at h;obtain⟨⟨x,s⟩,j,k,_⟩:=h;rw[QA hE,Vm]at k;simp only[XV,Bool.not_eq_true',Vv,ne_eq]at k;obtain⟨u,l,y⟩:=k;have a:d.Extra∈flPs d.Route:=by
  by_cases f:d.Extra∈flPs d.Route
  .exact f
  .rw[List.count_eq_zero_of_not_mem f]at u;exact absurd rfl u
 obtain⟨i,n,e⟩:=List.getElem_of_mem a;refine⟨i,?_,by rw[XJ n,e]⟩;rcases Nat.eq_zero_or_pos i with q|q
 .subst q;cases p:flPs d.Route with
  |nil=>rw[p]at n;simp at n
  |cons m r=>
   rw[p]at j;unfold rokS at j;simp only[XV,Vu,decide_true,Bool.true_eq]at j;have f:m=d.Extra:=by rw[<- e];simp[p]
   rw[<- f]at l;rw[Vu]at l;have:=j.1;rw[l]at this;simp at this
 .exact q
theorem Qkd{c:Course}(a:courseE c=0){d:Distance}(e:d∈c.Distances): -1<=d.Extra:=by
 have h:=(Jn a).2.1;unfold numbersS at h;simp only[XV]at h;obtain⟨_,_,_,h,_⟩:=h;have:=Xs.1 h d e;unfold distS inR at this;simp only[XV,Vo]at this;exact this.2.1.1
theorem QiO{c:Course}(hg:courseE c=0->Good c)(he:Ev (λn=>F_bb n c) (courseE c))(i k:Int):Ev (λn=>F_bv n c i k) (bif courseE c != 0 then([],courseE c)else routeO c i k):=by
 unfold F_bv;cases u:(courseE c != 0)with
 |true=>
  refine Ea (v:=courseE c) ?_ (QaR u (Qa _));unfold F_bh;exact Ea he (QaR u (Qa _))
 |false=>
 have e:courseE c=0:=by simpa[bne]using u
 have g:=hg e;rw[e]at he;simp only[Vn];unfold routeO;have chk:∀b:Bool,(decide (i<0)||decide ((c.Distances.length:Int)<=i))=b->Ev (λn=>F_bh n c i) (bif b then 90 else 0):=by
  intro b w;unfold F_bh;refine Ea he (Qs (Ea (v:=b) (Ew (Ql λ_=>Qa _) w) ?_));cases b<;>exact Qa _
 by_cases r:i<0
 .rw[QA r,Vm];exact Ea (chk true (by rw[QA r];rfl)) (Qa _)
 rw[Qy r,Vn];cases s:c.Distances[i.toNat]? with
 |none=>
  have:=List.getElem?_eq_none_iff.1 s;exact Ea (chk true (by rw[QA (show(c.Distances.length:Int)<=i by omega),Bool.or_true])) (Qa _)
 |some d=>
  have aa:=(XK.1 s).1;have f:=VD s;have ab:=Qkd e f;have h:=(g.route d f).2;rw[g.exp f]at h;refine Ea (chk false (by rw[Qy r,Qy (show¬(c.Distances.length:Int)<=i by omega)];rfl)) (Qs ?_);have t:idx c.Distances i=some d:=by
   have:=Qu s
   rwa [Int.toNat_of_nonneg (by omega)]at this
  refine QO t ?_;simp only;have N:decide (d.Extra<0)=(d.Extra== -1):=by
   by_cases z:d.Extra<0
   .rw[QA z];symm;rw[Vu];omega
   .rw[Qy z];symm;rw[Vv];omega
  refine Ea (v:=decide (k<0)||(decide (0<k)&&decide (d.Extra<0))) ?_ ?_
  .rw[N];exact Ql λ_=>Ei λ_=>Qa _
  cases w:(decide (k<0)||(decide (0<k)&&decide (d.Extra<0)))with
  |true=>exact Qa _
  |false=>
   simp only[XW,decide_eq_false_iff_not,Bool.and_eq_false_iff]at w;refine Qs (Ea (QlA _ _ d.Route (XS _) (g.parts d f) (g.len d f) (g.wf d f) h) ?_);refine Ea (v:=decide (256-((flPs d.Route).length:Int)<k)) ?_ ?_
   .by_cases l:256<k
    .rw[QA l,QA (show 256-((flPs d.Route).length:Int)<k by omega)];exact Qa _
    .rw[Qy l,Qz (by omega) (by omega)];refine(Qa _).eq ?_;by_cases z:256-((flPs d.Route).length:Int)<k
     .rw[QA z,QA (by omega)]
     .rw[Qy z,Qy (by omega)]
   cases l:decide (256-((flPs d.Route).length:Int)<k)with
   |true=>exact Qa _
   |false=>
    have T:=Vt l;simp only[Vn];by_cases B:k=0
    .subst B;refine(Qa _).eq ?_;simp[routeV]
    .have R:(k==0)=false:=beq_false_of_ne B;rw[R];refine Qs ?_;have O:0<=d.Extra:=by omega
     obtain⟨b,J,Q⟩:=QlE (flPs d.Route) d.Extra (by omega);obtain⟨E,V,F⟩:=Qke g e f O;rcases Q with⟨_,H⟩|⟨q,q1,G,M,y⟩
     .exact absurd F (H E)
     have X:0<q:=by
      rcases Nat.eq_zero_or_pos q with z|z
      .subst z;exact absurd F (y E V)
      .exact z
     have x:=Qe3 (flPs d.Route) d.Extra X M ((flPs d.Route).length-1) (by omega) λp a _=>y p a;refine Ea J ?_;rw[G,Yc (by omega)];have P:slc (flPs d.Route) 0 ((q+1:Nat):Int)=some ((flPs d.Route).take (q+1)):=by
      have:=Qdx (flPs d.Route) (a:=0) (b:=q+1) (by omega) (by omega);simpa using this
     have L:slc (flPs d.Route) ((q+1:Nat):Int) ((flPs d.Route).length:Int)=some ((flPs d.Route).drop (q+1)):=by
      have:=Qdx (flPs d.Route) (a:=q+1) (b:=(flPs d.Route).length) (by omega) (by omega);simpa using this
     refine QO P ?_;refine QO (QaI [] _ (by simp;omega)) ?_;rw[Vf];have lp:∀(m j:Nat),j+m=k.toNat->EvI (λn=>F_hn n k d) ((flPs d.Route).take (q+1)++List.replicate j d.Extra,(j:Int)) ((flPs d.Route).take (q+1)++List.replicate k.toNat d.Extra):=by
      intro m
      induction m with
      |zero=>
       intro j Y;have:j=k.toNat:=by omega
       subst this;refine Ej ?_;unfold F_hn;simp only[Qy (show¬((k.toNat:Nat):Int)<k by omega),Vn];exact Qa _
      |succ m W=>
       intro j Y;refine Ex ?_ (W (j+1) (by omega));unfold F_hn;simp only[QA (show(j:Int)<k by omega),Vm];refine QO (Qc1 (by simp;omega)) ?_;rw[Yc (by omega),Vg, <- List.replicate_succ'];exact Qa _
     refine Ea ((lp k.toNat 0 (by omega)).ev.eq rfl |> λh=>by simpa using h) ?_;refine QO L ?_;refine QO (QaI _ _ (by simp;omega)) ((Qa _).eq ?_);unfold routeV;rw[x]
theorem Qkn(k:Clocks)(w:ClkW k):∃b,Ev (λn=>F_dg n k) b/\(b=true->k.Segments.length<=8):=by
 unfold F_dg;cases d:(decide (8<(k.Segments.length:Int))||decide (10<(k.Far.length:Int)))with
 |true=>exact⟨false,Ea (v:=true) (Ew (Ql λ_=>Qa _) d) (Qa _),nofun⟩
 |false=>
  have e:=d;simp only[XW,decide_eq_false_iff_not]at e;refine⟨bif k.Far.all (λr=> !decide (12<(r.length:Int)))then true else false,Ea (v:=false) (Ew (Ql λ_=>Qa _) d) (Qs (Ea (Yr k.Far (λr=> !decide (12<(r.length:Int))) (Ctl.done false) (Ctl.cont ()) (by have:=w.far;omega) (λi x a=>?_) ?_) ?_)),λ_=>by omega⟩
  .unfold F_it;simp only[a.lt,Vm,a.ix,XI,a.nx];cases decide (12<(x.length:Int))<;>exact Qa _
  .unfold F_it;simp only[Qa6,Vn];exact Qa _
  .cases k.Far.all (λr=> !decide (12<(r.length:Int)))<;>exact Qa _
theorem QhP{k:Clocks}(h:Clocks.wf k):ClkW k:=⟨h.1.1,h.2.1.1,λr hr=>(h.2.1.2 r hr).1⟩
structure FewI (a:stopwatchlaw19_Input):Prop where
 few:FewOk a.C
 ty:Ev (λn=>F_c n a.C) (courseE a.C)
 ref:Ev (λn=>F_bb n a.C) (courseE a.C)
 good:courseE a.C=0->Good a.C
 clk:ClkW a.K
 segs:a.K.Segments.length<=8
 mats:a.C.Mats.length<=8
 hits:a.Hits.length<=4
 hands:a.Hands.length<=6
theorem QmE(a:stopwatchlaw19_Input)(w:stopwatchlaw19_Input.wf a):∃b,Ev (λn=>F_bx n a) b/\(b=true->FewI a):=by
 have i:=Qdr w.1;have q:=Qex w.1;obtain⟨z,s⟩:=QhV w.1;have l:=QhP w.2.1;obtain⟨B,f,u⟩:=QkC a.C w.1;obtain⟨y,g,x⟩:=Qkn a.K l;unfold F_bx F_fk;cases e:(!B||(decide (8<(a.C.Mats.length:Int))||(!y||(decide (4<(a.Hits.length:Int))||decide (6<(a.Hands.length:Int))))))with
 |true=>exact⟨false,Ea (Ea (v:=true) (Ew (Ea f (Ql λ_=>Ql λ_=>Ea g (Ql λ_=>Ql λ_=>Qa _))) e) (Qa _)) (Qa _),nofun⟩
 |false=>
  have d:=e;simp only[XW,decide_eq_false_iff_not,Bool.not_eq_false']at d;obtain⟨E,J,t,G,H⟩:=d;obtain⟨k,F⟩:=u E;have j:=QfK a.C i q k z s;have r:courseE a.C=0->Good a.C:=λh=>Qlr i q h;have all:FewI a:=⟨k,F,j,r,l,x t,by omega,by omega,by omega⟩;cases p:(decide (a.S.Distance<0)||decide ((a.C.Distances.length:Int)<=a.S.Distance))with
  |true=>exact⟨true,Ea (Ea (v:=false) (Ew (Ea f (Ql λ_=>Ql λ_=>Ea g (Ql λ_=>Ql λ_=>Qa _))) e) (Qs (Ea (v:=true) (Ew (Ql λ_=>Qa _) p) (Qa _)))) (Qa _),λ_=>all⟩
  |false=>
   have m:=QiO r j a.S.Distance a.Extra;generalize(bif courseE a.C != 0 then([],courseE a.C)else routeO a.C a.S.Distance a.Extra)=R at m;exact⟨R.2 != 0||decide ((R.1.length:Int)<=8),Ea (Ea (v:=false) (Ew (Ea f (Ql λ_=>Ql λ_=>Ea g (Ql λ_=>Ql λ_=>Qa _))) e) (Qs (Ea (v:=false) (Ew (Ql λ_=>Qa _) p) (Qs (Ea m (Ea (Ql λ_=>Qa _) (Qa _))))))) (Qa _),λ_=>all⟩
def taskV(c:Course)(k:Clocks)(s:Starter)(e:Int)(x:List Hit)(l:List Hand)(t:List Ud):Task:=
 {c:=c,k:=k,r:=(routeO c s.Distance e).1,s:=sumsV c (routeO c s.Distance e).1,H:=x,T:=t,m:=(hndV l).1,hi:=(hndV l).2}
def taskE(c:Course)(k:Clocks)(s:Starter)(e:Int)(x:List Hit)(l:List Hand):Int ⊕ Task:=
 bif courseE c != 0 then .inl (courseE c)else bif !clkB k then .inl 160 else bif argW c s l then .inl 1 else bif (routeO c s.Distance e).2 != 0 then .inl (routeO c s.Distance e).2 else bif !checkH c x then .inl 170 else
  match timesV c k x with
  |none=>.inl 170
  |some t=>.inr (taskV c k s e x l t)
def prepU:Int ⊕ Task->U_match_prepare
 |.inl e=>.c0 e
 |.inr t=>.c1 (t.r,t.s,t.T,t.m,t.hi)
theorem QlB{c:Course}(f:Ev (λn=>F_c n c) (courseE c))(j:courseE c=0->Good c){k:Clocks}(h:ClkW k)(s:Starter)(e:Int)(x:List Hit)(g:x.length<=1000)(l:List Hand)(i:l.length<=1048576):
  Ev (λn=>F_y n c k s e x l) (prepU (taskE c k s e x l)):=by
 unfold taskE;cases d:(courseE c != 0)with
 |true=>
  unfold F_y;exact Ea f (QaR d (Qa _))
 |false=>
  have a:courseE c=0:=by simpa[bne]using d
  refine(Qhq (j a) a (a▸f) h s e x g l i).eq ?_;unfold prepV;cases clkB k with
  |false=>rfl
  |true=>
  cases argW c s l with
  |true=>rfl
  |false=>
  cases((routeO c s.Distance e).2 != 0)with
  |true=>rfl
  |false=>
  cases checkH c x with
  |false=>rfl
  |true=>cases timesV c k x<;>rfl
structure TaskIs (c:Course) (k:Clocks) (s:Starter) (e:Int) (x:List Hit) (l:List Hand) (t:Task):Prop where
 ok:TaskOk t
 cE:courseE c=0
 clk:clkB k=true
 arg:argW c s l=false
 rt:(routeO c s.Distance e).2=0
 hit:checkH c x=true
 is:t=taskV c k s e x l t.T
 tm:timesV c k x=some t.T
theorem QhW{c:Course}(ty:Ev (λn=>F_c n c) (courseE c))(gd:courseE c=0->Good c){k:Clocks}(W:ClkW k){s:Starter}{e:Int}{x:List Hit}(Y:x.length<=1000){l:List Hand}{t:Task}(h:taskE c k s e x l=.inr t):TaskIs c k s e x l t:=by
 unfold taskE at h;cases F:(courseE c != 0)with
 |true=>rw[F]at h;cases h
 |false=>
 rw[F,Vn]at h;have a:courseE c=0:=by simpa[bne]using F
 cases r:clkB k with
 |false=>rw[r]at h;cases h
 |true=>
 rw[r]at h;cases E:argW c s l with
 |true=>rw[E]at h;cases h
 |false=>
 rw[E]at h;cases G:((routeO c s.Distance e).2 != 0)with
 |true=>rw[G]at h;cases h
 |false=>
 have m:(routeO c s.Distance e).2=0:=by simpa[bne]using G
 rw[G]at h;cases u:checkH c x with
 |false=>rw[u]at h;cases h
 |true=>
 rw[u]at h;cases f:timesV c k x with
 |none=>rw[f]at h;cases h
 |some T=>
 rw[f]at h;cases h;have g:=gd a;obtain⟨j,d,k',r1,r2,r3,r4,r5,R⟩:=QeW g m;have B:(routeO c s.Distance e).1.length<=256:=by
  rw[R];unfold routeV;simp only[X2,Xx,List.length_drop,List.length_replicate];omega
 obtain⟨T1,T2⟩:=Qf5 f;have O:=Qg7 W r;refine⟨⟨a▸ty,QgV a,O,Qiv _ _,B,T1,Y,λi y q=>Qh4 u y (VD q),λy q=>?_,λp y q=>?_,?_⟩,a,r,E,m,u,rfl,f⟩
 .obtain⟨i,J,P⟩:=List.getElem_of_mem q;have H:i<x.length:=by have:i<T.length:=J;omega
  obtain⟨X,M,Q⟩:=T2 i _ (XJ H);have V:X=y:=by
   have:T[i]?=some y:=by rw[<- P];exact XJ J
   rw[this]at M;cases M;rfl
  subst V;rcases QjF Q with z|⟨N,s',z1,z2,_⟩
  .exact⟨0,by omega,by omega⟩
  .have:=(XK.1 z2).1;exact⟨N+1,by omega,by show N+1<k.Segments.length+1;omega⟩
 .have:=Qgs l p;rw[show Y5 (hndV l).1 p=some y from q]at this;cases L:l.find? (λh=>h.Position==p)with
  |none=>rw[L]at this;cases this
  |some h'=>
   rw[L]at this;cases this;exact⟨0,rfl,by omega⟩
 .have w:=(Jn a).2.1;unfold numbersS lastS inR at w;simp only[XV,Vo]at w;exact w.2.2.2.2.2.2.2.2.2.1.1.1
theorem Qf6{c:Course}{k:Clocks}{s:Starter}{e:Int}{x:List Hit}{l:List Hand}{v:Int}(h:taskE c k s e x l=.inl v):v≠0:=by
 unfold taskE at h;cases d:(courseE c != 0)with
 |true=>rw[d]at h;cases h;simpa[bne]using d
 |false=>
 rw[d,Vn]at h;cases g:clkB k with
 |false=>rw[g]at h;cases h;decide
 |true=>
 rw[g]at h;cases j:argW c s l with
 |true=>rw[j]at h;cases h;decide
 |false=>
 rw[j]at h;cases f:((routeO c s.Distance e).2 != 0)with
 |true=>rw[f]at h;cases h;simpa[bne]using f
 |false=>
 rw[f]at h;cases i:checkH c x with
 |false=>rw[i]at h;cases h;decide
 |true=>
 rw[i]at h;cases a:timesV c k x with
 |none=>rw[a]at h;cases h;decide
 |some T=>rw[a]at h;cases h
def chkV(c:Course)(k:Clocks)(s:Starter)(e:Int)(x:List Hit)(l:List Hand)(W:Way):Int:=
 match taskE c k s e x l with
 |.inl v=>v
 |.inr t=>bif admV t W then 0 else 190
theorem Qkx{c:Course}(f:Ev (λn=>F_c n c) (courseE c))(d:courseE c=0->Good c){k:Clocks}(h:ClkW k)(s:Starter)(e:Int)(x:List Hit)(a:x.length<=1000)(l:List Hand)(y:l.length<=1048576)(W:Way)(j:W.Hits.length<=1048576):
  Ev (λn=>F_av n c k s e x l W) (chkV c k s e x l W):=by
 unfold F_av chkV;refine Ea (QlB f d h s e x a l y) ?_;cases g:taskE c k s e x l with
 |inl v=>
  have:=Qf6 g;exact QaR (by simpa[bne]using this) (Qa _)
 |inr t=>
  have i:=QhW f d h a g;have w:t.c=c:=by rw[i.is];rfl
  have p:t.k=k:=by rw[i.is];rfl
  have q:t.H=x:=by rw[i.is];rfl
  have:=QmF i.ok W j;rw[w,p,q]at this;show Ev (λn=>(F_ak n W c k t.r t.s x t.T t.hi t.m c k).bind λu=>(bif (!u)then some 190 else some 0)) _;refine Ea this ?_;simp only;cases admV t W<;>exact Qa _
set_option maxRecDepth 10000
theorem Ql9:F_dp 300=some true:=by kernel_rfl
theorem QgO{a:stopwatchlaw19_Input}(f:FewI a){W:Way}(d:W.Hits.length<=1048576):Ev (λn=>F_bp n a W) (chkV a.C a.K a.S a.Extra a.Hits a.Hands W):=by
 unfold F_bp;exact Ea (Qkx f.ty f.good f.clk _ _ _ (by have:=f.hits;omega) _ (by have:=f.hands;omega) W d) (Qa _)
theorem QmJ{a:stopwatchlaw19_Input}(f:FewI a){W:Way}(h:chkV a.C a.K a.S a.Extra a.Hits a.Hands W=0):∃t,taskE a.C a.K a.S a.Extra a.Hits a.Hands=.inr t/\TaskIs a.C a.K a.S a.Extra a.Hits a.Hands t/\admV t W=true:=by
 unfold chkV at h;cases d:taskE a.C a.K a.S a.Extra a.Hits a.Hands with
 |inl v=>rw[d]at h;exact absurd h (Qf6 d)
 |inr t=>
  rw[d]at h;refine⟨t,rfl,QhW f.ty f.good f.clk (by have:=f.hits;omega) d,?_⟩;cases e:admV t W with
  |true=>rfl
  |false=>simp only[e]at h;cases h
end Go.Sw
