/- The plain laws that a law needs, with no program in sight. -/
import Derived.Test.YtbhpipneolcmkaaGreatDoorW21Ad
set_option linter.unusedVariables false
set_option linter.unusedSimpArgs false
namespace Go.Sw
open List(map)
open Int(toNat)
open Go.IntKind(i64 u64 u8)
def inR(lo hi x:Int):Bool:=decide (lo<=x)&&decide (x<=hi)
theorem QhR(lo hi:Int)(l:List Int)(hl:l.length<=4611686018427387904):Ev (λn=>F_a n lo hi l) (l.all (inR lo hi)):=by
 have h:Ev (λn=>F_ei n l lo hi) (l.any λx=> !inR lo hi x):=by
  refine Ev.contains l _ (λn x=>F_gn n x lo hi) hl λx _=>?_;refine Ea ((Ep λh=>Qa _).eq ?_) (Qa _);unfold inR
  grind
 refine Ea h ((Qa _).eq ?_)
 grind
def okN(c:Nat):Bool:=(decide (97<=c)&&decide (c<=122))||(decide (48<=c)&&decide (c<=57))||decide (c=95)
def okAN(c:Nat):Bool:=decide (97<=c)&&decide (c<=122)
def okC(c:UInt8):Bool:=okN c.toNat
def okA(c:UInt8):Bool:=okAN c.toNat
def kwL:List (List UInt8):=[[99,111,117,114,115,101],[109,97,116,115],[115,116,97,114,116],[112,97,115,115],[101,110,100],[108,101,103],[116,111],[100,105,115,116,97,110,99,101],[103,117,110],[99,104,105,112],[115,108,111,116],[108,97,112,115],[108,97,112],[99,117,116,111,102,102],[101,120,116,114,97],[119,97,118,101],[111,102,102,101,110,99,101],[111,117,116],[99,97,116,101,103,111,114,121],[112,114,105,122,101],[97,108,108],[116,105,101,115],[105,102],[101,108,115,101],[97,110,100],[111,114],[110,111,116],[111,108,100,101,114],[121,111,117,110,103,101,114],[98,105,98],[100,114,97,119],[102,105,101,108,100],[115,104,111,114,116],[102,97,117,108,116,115],[109,105,115,115,101,115],[115,116,114,97,121,115],[119,105,110,100,111,119],[114,101,115,105,100,117,97,108],[100,114,105,102,116],[112,114,111,116,101,115,116],[102,101,101],[100,101,97,100,108,105,110,101]]
theorem Qpm(c d:Bool):(bif c then some c else some d)=some (c||d):=by grind
theorem QmK(c d:Bool):(bif c then some true else some d)=some (c||d):=by grind
theorem Qg5(n:Nat)(s:List UInt8):F_dg n s=some (kwL.contains s):=by
 unfold F_dg;simp only[Qpm,QmK,XG];simp only[kwL,List.contains_cons,List.contains_nil,Bool.or_assoc]
def kwsOf:List UInt8->List (List UInt8)
 |[]=>[]
 |b::l=>(bif b==32&& !(l.dropWhile λc=>c != 32).isEmpty then[l.takeWhile λc=>c != 32]else[])++kwsOf l
theorem QeT:∀(l s:List UInt8),(∀c∈s,c≠32)->(s++[32]).isPrefixOf l=((l.takeWhile λc=>c != 32)==s&& !(l.dropWhile λc=>c != 32).isEmpty)
 |[],s,h=>by simp
 |b::l,[],h=>by
  by_cases e:b=32
  .subst e;simp
  .have e1:=by simpa using e
   have a:(32==b)=false:=by grind
   simp[List.isPrefixOf,e1,a]
 |b::l,c::s,h=>by
  have d:=h c (by simp);have f:=QeT l s (by grind)
  grind[List.takeWhile_cons,List.dropWhile_cons]
theorem contains_cons(b:UInt8)(l t:List UInt8)(a:t≠[]):Lib.contains (b::l) t=(t.isPrefixOf (b::l)||Lib.contains l t):=by
 unfold Lib.contains;rw[show Lib.index (b::l) t=if t.isPrefixOf (b::l)then 0 else if Lib.index l t== -1 then-1 else Lib.index l t+1 from rfl]
 grind
theorem Qcn(s:List UInt8)(h:∀c∈s,c≠32):∀l,Lib.contains l (32::(s++[32]))=(kwsOf l).contains s
 |[]=>by rfl
 |b::l=>by
  rw[contains_cons b l _ (by simp),Qcn s h l];simp only[kwsOf,List.isPrefixOf,QeT l s h]
  grind
def wordsL:List UInt8:=[32,99,111,117,114,115,101,32,109,97,116,115,32,115,116,97,114,116,32,112,97,115,115,32,101,110,100,32,108,101,103,32,116,111,32,100,105,115,116,97,110,99,101,32,103,117,110,32,99,104,105,112,32,115,108,111,116,32,108,97,112,115,32,108,97,112,32,99,117,116,111,102,102,32,101,120,116,114,97,32,119,97,118,101,32,111,102,102,101,110,99,101,32,111,117,116,32,99,97,116,101,103,111,114,121,32,112,114,105,122,101,32,97,108,108,32,116,105,101,115,32,105,102,32,101,108,115,101,32,97,110,100,32,111,114,32,110,111,116,32,111,108,100,101,114,32,121,111,117,110,103,101,114,32,98,105,98,32,100,114,97,119,32,102,105,101,108,100,32,115,104,111,114,116,32,102,97,117,108,116,115,32,109,105,115,115,101,115,32,115,116,114,97,121,115,32,119,105,110,100,111,119,32,114,101,115,105,100,117,97,108,32,100,114,105,102,116,32,112,114,111,116,101,115,116,32,102,101,101,32,100,101,97,100,108,105,110,101,32]
theorem Qro:kwsOf wordsL=kwL:=by decide+kernel
def classTab:List Int:=(List.range 256).map λi=>if 97<=i/\i<=122\/65<=i/\i<=90 then 2 else if 48<=i/\i<=57 then 3 else if i∈[123,125,40,41,91,93,59,44,61,60,62]then 4 else if i∈[32,9,10,13]then 1 else 0
theorem QlE:Ev F_dl classTab:=by
 unfold F_dl;refine Ea (QcO (step:=F_ev 0) 40 (b:=(iter (F_ev 0) 40 (List.replicate 256 0,97)).getD []) (by decide+kernel)) ?_;refine Ea (QcO (step:=F_jv 0) 40 (b:=(iter (F_jv 0) 40 ((iter (F_ev 0) 40 (List.replicate 256 0,97)).getD [],48)).getD []) (by decide+kernel)) ?_;generalize hb:(iter (F_jv 0) 40 ((iter (F_ev 0) 40 (List.replicate 256 0,97)).getD [],48)).getD []=b2;refine Ea (QcO (step:=F_ln 0) 40 (b:=(iter (F_ln 0) 40 (b2,0)).getD []) (by subst hb;decide+kernel)) ?_;refine Ea (QcO (step:=F_mc 0) 40 (b:=classTab) (by subst hb;decide+kernel)) ?_;exact Ez (by decide+kernel)
theorem QnC:((List.range 256).all λi=> !okN i||decide (classTab[i]?=some (if okAN i then 2 else if i=95 then 0 else 3)))=true:=by decide+kernel
theorem Qpk{c:UInt8}(h:okC c=true):Qfi 256 classTab (c.toNat:Int)=some (if okA c then 2 else if c.toNat=95 then 0 else 3):=by
 have a:=Xs.1 QnC c.toNat (List.mem_range.2 c.toNat_lt);unfold okC at h;rw[h]at a;simp[Xh,Bool.false_or,Vk]at a;unfold Qfi;rw[show Nat.beq classTab.length 256=true by decide+kernel,Vi,YX a];rfl
def goodS(s:List UInt8):Bool:=decide (1<=s.length)&&decide (s.length<=24)&&(s.head?).any okA&&s.all okC
def isNameS(s:List UInt8):Bool:=goodS s&& !kwL.contains s
theorem Qnq(s:List UInt8)(h:goodS s=true):Ev (λn=>F_cj n s) true:=by
 unfold goodS at h;simp only[XT,Vk,Xs]at h;obtain⟨⟨⟨d,j⟩,k⟩,e⟩:=h;unfold F_cj;refine Ea QlE ?_;refine J5 (v:=List.replicate 256 0) (by decide+kernel) ?_;refine J5 (v:=classTab) (by decide+kernel) ?_;refine Ea (v:=Ctl.cont ()) (Eu (λi=>(i:Int)) s.length rfl (λi g=>?_) ?_) ?_
 .have a:=JH (x:=s[i]) (by omega) (XH g);have f:=e _ a.mem;unfold F_kz;simp only[a.lt,Vi,a.ix,XG,Qpk f,a.nx];cases i with
  |zero=>
   have:okA s[0]=true:=by
    cases s with
    |nil=>simp at d
    |cons c r=>grind
   simp[this];exact Qa _
  |succ i=>
   grind[Qa]
 .simp_all[F_kz,Qa]
 .refine Ez ?_;cases s with
  |nil=>simp at d
  |cons c r=>rfl
theorem Qni{s:List UInt8}(h:goodS s=true):∀c∈s,c≠32:=by
 unfold goodS at h;simp[XT,Xs]at h;rintro c a rfl;exact absurd (h.2 _ a) (by decide)
theorem QoJ{s:List UInt8}(h:goodS s=true):s.length<=24:=by
 simp_all[goodS]
theorem QlF(s:List UInt8)(h:goodS s=true):Ev (λn=>F_hx n s) (kwL.contains s):=by
 refine Ea (Ea (Qnq s h) (QmV ?_)) (Qa _);have a:=QoJ h;refine J5 (by unfold cat;rw[XP (by simp;omega)];rfl) (J5 (by unfold cat;rw[XP (by simp;omega)];rfl) ?_);refine J5 ?_ (Qa _);show Qgd wordsL ([32]++s++[32])=some (kwL.contains s);unfold Qgd;rw[show Nat.blt wordsL.length 4294967281=true by decide+kernel,Vi]
 grind[Qcn,Qni,Qro]
theorem ch_lt(c:UInt8)(k:Nat):decide ((c.toNat:Int)<(k:Int))=decide (c.toNat<k):=by
 simp
theorem badC(c:UInt8):(bif decide ((c.toNat:Int)<97)then(bif decide ((c.toNat:Int)<48)then some ((c.toNat:Int) != 95)else(bif decide (57<(c.toNat:Int))then some ((c.toNat:Int) != 95)else some false))else(bif decide (122<(c.toNat:Int))then(bif decide ((c.toNat:Int)<48)then some ((c.toNat:Int) != 95)else(bif decide (57<(c.toNat:Int))then some ((c.toNat:Int) != 95)else some false))else some false))=some (!okC c):=by
 unfold okC okN;generalize c.toNat=k;have e:((k:Int) != 95)= !decide (k=95):=by
  grind
 grind
theorem QhB(n:Nat)(s:List UInt8):(bif decide ((s.length:Int)<1)then some true else(bif decide (24<(s.length:Int))then some true else(idx s 0).bind λx10=>(bif decide ((x10.toNat:Int)<97)then some true else(idx s 0).bind λx12=>some (decide (122<(x12.toNat:Int))))))=some (!(decide (1<=s.length)&&decide (s.length<=24)&&(s.head?).any okA)):=by
 cases s with
 |nil=>rfl
 |cons c r=>
  by_cases h:(c::r).length<=24
  .rw[YU (show¬24<((c::r).length:Int)by omega),Vj];have f:idx (c::r) 0=some c:=rfl;simp[f,XG];simp[XW]at h;have d:r.length<=23:=by omega
   simp[List.head?_cons,Option.any_some,okA,okAN];rw[show(97:Int)=(97:Nat)from rfl,ch_lt];by_cases a:c.toNat<97
   .grind
   .have e:97<=c.toNat:=by omega
    simp[a,e,d];by_cases q:c.toNat<=122
    iterate 2 grind
  grind
theorem QhW(s:List UInt8)(hl:s.length<=1048576):Ev (λn=>F_k n s) (isNameS s):=by
 refine Ea (Ez (QhB 0 s)) ?_;unfold isNameS;cases f:(decide (1<=s.length)&&decide (s.length<=24)&&(s.head?).any okA)with
 |false=>
  have:goodS s=false:=by unfold goodS;rw[f];rfl
  rw[this];exact Qa _
 |true=>
  have g:goodS s=s.all okC:=by unfold goodS;rw[f];rfl
  refine Ea (Ju s (λc=> !okC c) (λi=>(i:Int)) (Ctl.done false) (Ctl.cont ()) (by omega) rfl (λi x a d=>?_) (λi x a d=>?_) ?_) ?_
  .unfold F_ki;simp only[a.lt,a.ix,XG,badC,d,a.nx];exact Qa _
  .unfold F_ki;simp only[a.lt,a.ix,XG,badC,d];exact Qa _
  .simp_all[F_ki,Qa]
  .rw[g];have e:s.any (λc=> !okC c)= !s.all okC:=by grind
   rw[e];cases q:s.all okC with
   |true=>
    exact Ea (QlF s (g.trans q)) (Qa _)
   |false=>
    exact Qa _
theorem QbP(s:List UInt8)(hl:s.length<=1048576):Ev (λn=>F_bz n s) (isNameS s):=by
 refine Ea (Ez (QhB 0 s)) ?_;unfold isNameS;cases a:(decide (1<=s.length)&&decide (s.length<=24)&&(s.head?).any okA)with
 |false=>
  have:goodS s=false:=by unfold goodS;rw[a];rfl
  rw[this];exact Qa _
 |true=>
  have g:goodS s=s.all okC:=by unfold goodS;rw[a];rfl
  cases s with
  |nil=>simp at a
  |cons c r=>
   have f:okC c=true:=by
    simp_all[okA,okC,okN,okAN]
   have hr:=by
    simp[XT,Vk,XW]at a;omega
   have j:∀(i:Nat) (x:UInt8),At r i x->decide (((i+1:Nat):Int)<(c::r).length)=true/\idx (c::r) (i+1:Nat)=some x/\i64.wrap ((i+1:Nat)+1)=i+1+1:=by
    intro i x d;have:=d.lt';exact⟨Vn (by simp;omega),YX (by simpa using d.get),Yh (by omega)⟩
   refine Ea (Ju r (λc=> !okC c) (λi=>((i+1:Nat):Int)) (Ctl.done false) (Ctl.cont ()) (by omega) rfl (λi x d h=>?_) (λi x d h=>?_) ?_) ?_
   iterate 2 grind[F_kh,badC,Qa]
   .unfold F_kh;rw[YU (by simp),Vj];exact Qa _
   .rw[g];have e:r.any (λc=> !okC c)= !(c::r).all okC:=by rw[List.all_cons,f,Vu,List.not_all_eq_any_not]
    rw[e];cases q:(c::r).all okC with
    |true=>
     exact Ea (Ez (Qg5 0 _)) (Qa _)
    |false=>
     exact Qa _
def diffS:List (List UInt8)->List (List UInt8)->Bool
 |_,[]=>true
 |seen,x::r=>isNameS x&& !seen.contains x&&diffS (seen++[x]) r
theorem QgN(l:List (List UInt8))(i:Nat)(x:List UInt8)(h:At l i x):diffS (l.take i) (l.drop i)=(isNameS x&& !(l.take i).contains x&&diffS (l.take (i+1)) (l.drop (i+1))):=by
 rw[h.drop,h.take];rfl
theorem Qcl{α:Type}(l:List α)(a:α->List UInt8)(g:Nat->α->Option Unit)(hg:∀n x,g n x=some ())(hl:l.length<=1048576)(m:∀x∈l,(a x).length<=1048576):
  Ev (λn=>((iter (λs:(List (List UInt8×Bool))×Int=>bif decide (s.2<(l.length:Int))then(idx l s.2).bind λx35=>(g n x35).bind λr36=>((F_k n (a x35)).bind λr42=>(bif (!r42)then some true else(some (Qy s.1 (a x35) false)).bind λv44=>some v44):Option Bool).bind λb40=>(bif b40 then some (.done (.done false))else(some (Yk s.1 (a x35) true)).bind λm46=>some (.cont (m46,i64.wrap (s.2+1))))else some (.done (.cont ()))) n ([],0):Option (Ctl Unit Bool)).bind λb28=>
   match b28 with
   |.cont _=>some true
   |.done s=>some s:Option Bool)) (diffS [] (l.map a)):=by
 have j:l.length<=4611686018427387904:=by omega
 have f:(l.map a).length<=4611686018427387904:=by grind
 have h:=QaF (B:=Ctl Unit Bool) l (step:=λn s=>bif decide (s.2<(l.length:Int))then(idx l s.2).bind λx35=>(g n x35).bind λr36=>((F_k n (a x35)).bind λr42=>(bif (!r42)then some true else(some (Qy s.1 (a x35) false)).bind λv44=>some v44)).bind λb40=>(bif b40 then some (.done (.done false))else(some (Yk s.1 (a x35) true)).bind λm46=>some (.cont (m46,i64.wrap (s.2+1))))else some (.done (.cont ())))
  (λi=>(Ye a true (l.take i),i)) (λi=>bif diffS ((l.map a).take i) ((l.map a).drop i)then .cont ()else .done false) j rfl (λi x e=>?_) ?_
 .refine Ea h ?_
  grind[Qa]
 .have ha2:=JH f (by rw[Xo,e.get];rfl);simp only[QgN _ _ _ ha2];have d:Ev (λn=>(F_k n (a x)).bind λr42=>(bif (!r42)then some true else(some (Qy (Ye a true (l.take i)) (a x) false)).bind λv44=>some v44)) (!(isNameS (a x)&& !((l.map a).take i).contains (a x))):=by
   refine Ea (QhW (a x) (m x e.mem)) ?_;cases isNameS (a x)with
   |false=>exact Qa _
   |true=>
    simp_all[Qa,Qan]
  cases k:(isNameS (a x)&& !((l.map a).take i).contains (a x))with
  |true=>
   rw[k]at d;refine .inl ⟨?_,by simp⟩;simp only[e.lt,e.ix,XG,hg];refine Ea d ?_;simp[e.nx];rw[e.take,QdE];exact Qa _
  |false=>
   rw[k]at d;refine .inr ?_;simp only[e.lt,e.ix,XG,hg];refine Ea d ?_;exact Qa _
 .simp[Qcm];rw[show(l.map a).drop l.length=[]by simp];exact Qa _
theorem QrE{α:Type}{l:List α}{x:α}(h:l.length<=140737488):app l [x]=some (l++[x]):=Y4 l x (by omega)
theorem Qfk(l:List (List UInt8))(hl:l.length<=1048576)(g:∀x∈l,x.length<=1048576):Ev (λn=>F_ab n l) (diffS [] l):=by
 have k:l.length<=4611686018427387904:=by omega
 refine Ea (QaF l (λi=>(i:Int)) (λi=>bif diffS (l.take i) (l.drop i)then .cont ()else .done false) k rfl (λi x a=>?_) ?_) ?_
 .simp only[QgN _ _ _ a];unfold F_lq;simp only[a.lt,a.ix,XG];cases f:isNameS x with
  |false=>
   exact .inr (Ea ((QbP x (g x a.mem)).eq f) (Qa _))
  |true=>
   have r:=a.lt';have inner:Ev (λn=>iter (F_hv n l i) n 0) (bif (l.take i).contains x then Ctl.done (Ctl.done (Ctl.done false))else Ctl.cont ()):=by
    have e:(l.take i).contains x=(l.take i).any λy=>y==x:=by
     grind
    rw[e];have q:(l.take i).length=i:=by simp;omega
    refine Ju (l.take i) (λy=>y==x) (λi=>(i:Int)) _ _ (by omega) rfl (λj y d h=>?_) (λj y d h=>?_) ?_
    .have m:=d.lt';have hjg:=by
      have:=d.get;rw[List.getElem?_take]at this;split at this
      .exact this
      .cases this
     unfold F_hv;rw[YS (show(j:Int)<i by omega)];simp only[YX hjg,a.ix,XG,h,d.nx];exact Qa _
    .have m:=d.lt';have hjg:=by
      have:=d.get;rw[List.getElem?_take]at this;split at this
      .exact this
      .cases this
     unfold F_hv;rw[YS (show j<(i:Int)by omega)];simp only[YX hjg,a.ix,XG,h];exact Qa _
    grind[F_hv,Qa]
   cases p:(l.take i).contains x with
   |true=>
    rw[p]at inner;exact .inr (Ea ((QbP x (g x a.mem)).eq f) (Yf (Ea inner (Qa _))))
   |false=>
    rw[p]at inner;refine .inl ⟨Ea ((QbP x (g x a.mem)).eq f) (Yf (Ea inner ?_)),by simp⟩;simp only[a.nx];exact Qa _
 .unfold F_lq;simp only[Qcm,Xr];exact Qa _
 grind[Qa]
theorem Qag{α β:Type}(l:List α)(f:α->β)(hl:l.length<=140737488):Ev (λn=>iter (λs:(List β)×Int=>bif decide (s.2<(l.length:Int))then(idx l s.2).bind λx15=>(app s.1 [f x15]).bind λl16=>some (Ctl.cont (l16,i64.wrap (s.2+1)))else some (Ctl.done s.1)) n (([]:List β),(0:Int))) (l.map f):=by
 have e:∀l:List α,l.foldl (λa x=>a++[f x]) []=l.map f:=by
  intro l;have h:∀(l:List α) (a:List β),l.foldl (λa x=>a++[f x]) a=a++l.map f:=by
   intro l
   induction l with
   |nil=>simp
   |cons x l j=>grind
  grind
 rw[<- e l];refine QB l (λa x=>a++[f x]) [] (λa i=>(a,(i:Int))) (λa=>a) (by omega) rfl (λi x a d g=>?_) ?_
 .rw[e]at g;have:a.length<=140737488:=by grind
  simp only[d.lt,d.ix,QrE this,d.nx];exact Qa _
 .simp[Qcm];exact Qa _
def namesS(c:Course):Bool:=isNameS c.Name&&(diffS [] (c.Mats.map (·.Name))&&(diffS [] (c.Distances.map (·.Name))&&(diffS [] (c.Waves.map (·.Name))&&(diffS [] (c.Offences.map (·.Name))&&diffS [] (c.Categories.map (·.Name))))))
structure CourseOk (c:Course):Prop where
 name:c.Name.length<=1048576
 mats:c.Mats.length<=1048576
 matsN:∀x∈c.Mats,x.Name.length<=1048576
 legs:c.Legs.length<=1048576
 dist:c.Distances.length<=1048576
 distN:∀x∈c.Distances,x.Name.length<=1048576
 cut:∀x∈c.Distances,x.Cutoffs.length<=1048576
 wave:c.Waves.length<=1048576
 waveN:∀x∈c.Waves,x.Name.length<=1048576
 off:c.Offences.length<=1048576
 offN:∀x∈c.Offences,x.Name.length<=1048576
 cat:c.Categories.length<=1048576
 catN:∀x∈c.Categories,x.Name.length<=1048576
 prize:c.Prizes.length<=1048576
theorem Qo2(c:Course)(w:CourseOk c):Ev (λn=>F_hm n c) (namesS c):=by
 refine Ea (Ea (QhW c.Name w.name) (Ql λ_=>?_)) (Qa _);have a:Ev (λn=>F_fd n c.Mats) (diffS [] (c.Mats.map (·.Name))):=by exact Qcl c.Mats (·.Name) F_hn (λ_ _=>rfl) w.mats w.matsN
 have e:Ev (λn=>F_hz n c.Distances) (diffS [] (c.Distances.map (·.Name))):=by exact Qcl c.Distances (·.Name) F_ib (λ_ _=>rfl) w.dist w.distN
 have f:Ev (λn=>F_es n c.Waves) (diffS [] (c.Waves.map (·.Name))):=by exact Qcl c.Waves (·.Name) F_ht (λ_ _=>rfl) w.wave w.waveN
 have d:Ev (λn=>F_hu n c.Offences) (diffS [] (c.Offences.map (·.Name))):=by exact Qcl c.Offences (·.Name) F_fi (λ_ _=>rfl) w.off w.offN
 have g:Ev (λn=>F_fq n c.Categories) (diffS [] (c.Categories.map (·.Name))):=by exact Qcl c.Categories (·.Name) F_eo (λ_ _=>rfl) w.cat w.catN
 refine Ea a (Ql λ_=>(Ea e (Ql λ_=>?_)));refine Ea f (Ql λ_=>?_);exact Ea d (Ql (by grind))
structure Short (c:Course):Prop where
 mats:c.Mats.length<=140737488
 dist:c.Distances.length<=140737488
 wave:c.Waves.length<=140737488
 off:c.Offences.length<=140737488
 cat:c.Categories.length<=140737488
theorem Qkh(c:Course)(w:CourseOk c)(s:Short c):Ev (λn=>F_fb n c) (namesS c):=by
 refine Ea (Qag c.Mats (·.Name) s.mats) (Ea (Qag c.Distances (·.Name) s.dist) ?_);refine Ea (Qag c.Waves (·.Name) s.wave) (Ea (Qag c.Offences (·.Name) s.off) ?_);refine Ea (Qag c.Categories (·.Name) s.cat) (Ea ?_ (Qa _));refine Ea (QbP c.Name w.name) (Ql λ_=>?_);have mk:∀{α:Type} (l:List α) (nm:α->List UInt8),l.length<=1048576->(∀x∈l,(nm x).length<=1048576)->Ev (λn=>F_ab n (l.map nm)) (diffS [] (l.map nm)):=by
  simp_all[Qfk]
 refine Ea (mk c.Mats (·.Name) w.mats w.matsN) (Ql λ_=>(Ea (mk c.Distances (·.Name) w.dist w.distN) (Ql λ_=>?_)));refine Ea (mk c.Waves (·.Name) w.wave w.waveN) (Ql λ_=>(Ea (mk c.Offences (·.Name) w.off w.offN) (Ql λ_=>?_)));exact Ea (mk c.Categories (·.Name) w.cat w.catN) (Qa _)
theorem QaM{n:Nat}(h:n<=1048576):i64.wrap ((n:Int)-1)=(n:Int)-1:=QZ (by omega) (by omega)
theorem J3(x lo hi:Int):Ev (λn=>F_c n x lo hi) (inR lo hi x):=by
 exact Ea (Ql λ_=>Qa _) (Qa _)
theorem QgG(c:Course)(w:CourseOk c)(x:Int):Ev (λn=>F_n n c x) (inR 0 ((c.Mats.length:Int)-1) x):=by
 unfold F_n;rw[QaM w.mats];exact Ea (J3 _ _ _) (Qa _)
mutual
def szP:Part->Nat
 |⟨_,_,ps⟩=>1+szPs ps
def szPs:List Part->Nat
 |[]=>0
 |p::r=>szP p+szPs r
end
theorem Y6(p:Part):szP p=1+szPs p.Parts:=by cases p;rfl
theorem JI{p:Part}:∀{l:List Part},p∈l->szP p<=szPs l
 |q::r,h=>by
  simp[szPs];rcases X0.1 h with rfl|h
  .omega
  .have:=JI h;omega
mutual
def partS(k:Int):Part->Bool
 |⟨m,laps,ps⟩=>bif laps==0 then inR 0 k m&&((ps.length:Int)==0)else inR 1 64 laps&&((m==0)&&(decide (0<(ps.length:Int))&&partsS k ps))
def partsS(k:Int):List Part->Bool
 |[]=>true
 |p::r=>partS k p&&partsS k r
end
theorem Qce(k:Int)(p:Part):partS k p=bif p.Laps==0 then inR 0 k p.Mat&&((p.Parts.length:Int)==0)else inR 1 64 p.Laps&&((p.Mat==0)&&(decide (0<(p.Parts.length:Int))&&partsS k p.Parts)):=by cases p;rfl
theorem Qbo(k:Int):∀l:List Part,partsS k l=l.all (partS k)
 |[]=>rfl
 |p::r=>by simp[partsS,List.all_cons,Qbo k r]
theorem Yv{p:Part}(h:Part.wf p):p.Parts.length<=1048576/\ ∀x∈p.Parts,Part.wf x:=by
 cases p
 grind[Part.wf,Qd8]
theorem QN(lo hi x:Int):Ev (λn=>F_a n lo hi [x]) (inR lo hi x):=(QhR lo hi [x] (by simp)).eq (by simp)
theorem QaT(lo hi x y:Int):Ev (λn=>F_a n lo hi [x,y]) (inR lo hi x&&inR lo hi y):=(QhR lo hi [x,y] (by simp)).eq (by simp)
theorem Qo1(k:Int):∀(m:Nat) (l:List Part),szPs l<=m->l.length<=1048576->(∀x∈l,Part.wf x)->Ev (λn=>F_at n l k) (partsS k l):=by
 intro m
 induction m with
 |zero=>
  intro l d g a;cases l with
  |nil=>
   refine QJ ?_;exact JL [] (partS k) (λn x=>F_du (F_at n) n x k) (by simp) (by simp)
  |cons p r=>
   simp only[szPs,Y6]at d;omega
 |succ m i=>
  intro l d g a;refine QJ ?_;rw[Qbo];refine JL l (partS k) (λn x=>F_du (F_at n) n x k) (by omega) λp e=>?_;rw[Qce];have f:=JI e;rw[Y6]at f;obtain⟨j,h⟩:=Yv (a p e);refine QbZ (λ_=>?_) (λ_=>?_)
  .exact Ea (Ea (QN _ _ _) (Ql λ_=>Qa _)) (Qa _)
  .exact Ea (Ea (QN _ _ _) (Ql λ_=>Ql λ_=>Ql (by grind))) (Qa _)
theorem Qnp(c:Course)(w:CourseOk c):∀(m:Nat) (l:List Part),szPs l<=m->l.length<=1048576->(∀x∈l,Part.wf x)->Ev (λn=>F_ac n c l) (partsS ((c.Mats.length:Int)-1) l):=by
 intro m
 induction m with
 |zero=>
  intro l f h e;cases l with
  |nil=>
   refine QJ ?_;show Ev (λn=>B_ac (F_ac n) n c []) _;exact⟨1,λn u=>by obtain⟨k,rfl⟩:∃k,n=k+1:=⟨n-1,by omega⟩;rfl⟩
  |cons p r=>
   simp only[szPs,Y6]at f;omega
 |succ m s=>
  intro l f h e;refine QJ ?_;show Ev (λn=>B_ac (F_ac n) n c l) _;rw[Qbo];have step:∀(i:Nat) (x:Part),At l i x->Ev (λn=>F_kk n c l (F_ac n) i) (bif partS (c.Mats.length-1) x then .cont (i+1)else .done (.done false)):=by
   intro i x a;unfold F_kk;simp only[a.lt,a.ix,XG,a.nx];have g:=JI a.mem;rw[Y6]at g;obtain⟨t,q⟩:=Yv (e x a.mem);refine Ea (Ql λ_=>Ea (QgG c w _) (Ql λ_=>Qa _)) (Ea (Ea (J3 _ _ _) (Ql λ_=>Ql λ_=>Ql λ_=>Ea (s x.Parts (by omega) t q) (Qa _))) ?_);rw[Qce];cases j:(x.Laps==0)with
   |true=>
    have e0:=by simpa using j
    have:inR 1 64 x.Laps=false:=by rw[e0];rfl
    grind[Qa]
   |false=>
    generalize(inR 1 64 x.Laps&&((x.Mat==0)&&(decide (0<(x.Parts.length:Int))&&partsS (c.Mats.length-1) x.Parts)))=b;cases b<;>exact Qa _
  refine Ea (Ju l (λx=> !partS (c.Mats.length-1) x) (λi=>(i:Int)) (Ctl.done false) (Ctl.cont ()) (by omega) rfl (λi x a d=>?_) (λi x a d=>?_) ?_) ?_
  .refine(step i x a).eq ?_;have:=by simpa using d
   rw[this];rfl
  .refine(step i x a).eq ?_;have:=by simpa using d
   rw[this];rfl
  .unfold F_kk;simp[Qcm];exact Qa _
  grind[Qa]
def legS(k:Int)(l:Leg):Bool:=(inR 0 k l.From&&inR 0 k l.To)&&((inR 0 68719476736 l.Min&&inR 0 68719476736 l.Max)&&decide (l.Min<=l.Max))
def cutS(k:Int)(x:Cutoff):Bool:=inR 0 k x.Mat&&(decide (1<=x.Lap)&&inR 0 1099511627776 x.Limit)
def distS(k:Int)(d:Distance):Bool:=inR 1 3 d.Timing&&(inR (-1) k d.Extra&&(partsS k d.Route&&d.Cutoffs.all (cutS k)))
def offS(o:Offence):Bool:=bif o.Out then(o.Time==0)&&(o.Laps==0)else bif o.Laps != 0 then(o.Time==0)&&inR 1 64 o.Laps else inR 0 68719476736 o.Time
def catS(x:Category):Bool:=(inR 0 120 x.From&&inR 0 120 x.To)&&decide (x.From<=x.To)
def prizeS(c:Course)(p:Prize):Bool:=inR 0 ((c.Distances.length:Int)-1) p.Distance&&(inR (-1) ((c.Categories.length:Int)-1) p.Category&&(inR 1 4000 p.Rank&&inR 1 1125899906842624 p.Amount))
def lastS(c:Course):Bool:=(inR 0 16 c.Faults.Misses&&inR 0 16 c.Faults.Strays)&&((inR 0 4294967296 c.Faults.Window&&inR 0 4294967296 c.Faults.Residual)&&(inR 0 100000 c.Faults.Drift&&(inR 0 1125899906842624 c.Fee&&inR 0 1099511627776 c.Deadline)))
def legKey(l:Leg):Ue:={from_:=l.From,to_:=l.To}
def prizeKey(p:Prize):Ug:={distance:=p.Distance,category:=p.Category,rank:=p.Rank}
def numbersS(c:Course):Bool:=
 let k:=(c.Mats.length:Int)-1
 c.Mats.all (λm=>inR 1 3 m.Kind)&&(c.Legs.all (legS k)&&(decide ((c.Legs.map legKey).Nodup)&&(c.Distances.all (distS k)&&(c.Waves.all (λw=>inR 0 1099511627776 w.Gun)&&(c.Offences.all offS&&(c.Categories.all catS&&(c.Prizes.all (prizeS c)&&(decide ((c.Prizes.map prizeKey).Nodup)&&lastS c))))))))
structure PartsOk (c:Course):Prop where
 len:∀d∈c.Distances,d.Route.length<=1048576
 wf:∀d∈c.Distances,∀x∈d.Route,Part.wf x
theorem QiN(l:List Leg)(hl:l.length<=1048576):Ev (λn=>F_fk n l) (decide ((l.map legKey).Nodup)):=by
 refine Ea (QaG l legKey true (by omega) (λi x m a=>?_) (λm=>?_)) ((Qa _).eq ?_)
 .unfold F_ky F_ft;simp only[a.lt,a.ix,a.nx];exact Qa _
 .simp_all[F_ky,Qa]
 .rw[XU];simp[Vs,Vk]
  grind[QcS]
theorem QgE(l:List Prize)(hl:l.length<=1048576):Ev (λn=>F_hp n l) (decide ((l.map prizeKey).Nodup)):=by
 refine Ea (QaG l prizeKey true (by omega) (λi x m a=>?_) (λm=>?_)) ((Qa _).eq ?_)
 .unfold F_ku F_hb;simp only[a.lt,a.ix,a.nx];exact Qa _
 .simp_all[F_ku,Qa]
 .rw[XU];simp[Vs,Vk]
  grind[QcS]
theorem Qlz(c:Course)(w:CourseOk c)(q:PartsOk c):Ev (λn=>F_cp n c) (numbersS c):=by
 unfold F_cp numbersS;rw[QaM w.mats];refine Ea (v:=_) ?_ (Qa _);have d:Ev (λn=>F_dh n c.Mats) (c.Mats.all λm=>inR 1 3 m.Kind):=by
  unfold F_dh F_fp F_gq;refine JL c.Mats _ (λn x=>F_dj n x) (by have:=w.mats;omega) λx a=>?_;unfold F_dj;exact Ea (QN _ _ _) (Qa _)
 have j:Ev (λn=>F_ed n c.Legs ((c.Mats.length:Int)-1)) (c.Legs.all (legS ((c.Mats.length:Int)-1))):=by
  unfold F_ed F_gj F_ia;refine JL c.Legs _ (λn x=>F_dv n x _) (by have:=w.legs;omega) λx a=>?_;unfold F_dv;exact Ea (Ea (QaT _ _ _ _) (Ql λ_=>Ea (QaT _ _ _ _) (Ql λ_=>Qa _))) (Qa _)
 have f:Ev (λn=>F_eb n c.Distances ((c.Mats.length:Int)-1)) (c.Distances.all (distS ((c.Mats.length:Int)-1))):=by
  unfold F_eb F_go F_en;refine JL c.Distances _ (λn x=>F_cm n x _) (by have:=w.dist;omega) λx a=>?_;unfold F_cm;have g:Ev (λn=>F_dk n x.Cutoffs ((c.Mats.length:Int)-1)) (x.Cutoffs.all (cutS ((c.Mats.length:Int)-1))):=by
   unfold F_dk F_hy F_id;refine JL x.Cutoffs _ (λn x=>F_ef n x _) (by have:=w.cut x a;omega) λy l=>?_;unfold F_ef;exact Ea (Ea (QN _ _ _) (Ql λ_=>Ql λ_=>Ea (QN _ _ _) (Qa _))) (Qa _)
  exact Ea (Ea (QN _ _ _) (Ql λ_=>Ea (QN _ _ _) (Ql λ_=>Ea (Qo1 _ _ x.Route (XQ _) (q.len x a) (q.wf x a)) (Ql λ_=>Ea g (Qa _))))) (Qa _)
 have i:Ev (λn=>F_dx n c.Waves) (c.Waves.all λw=>inR 0 1099511627776 w.Gun):=by
  unfold F_dx F_hr F_gw;refine JL c.Waves _ (λn x=>F_eg n x) (by have:=w.wave;omega) λx a=>?_;unfold F_eg;exact Ea (QN _ _ _) (Qa _)
 have h:Ev (λn=>F_dt n c.Offences) (c.Offences.all offS):=by
  unfold F_dt F_ep F_hw;refine JL c.Offences _ (λn x=>F_dn n x) (by have:=w.off;omega) λx a=>?_;unfold F_dn offS;refine QbZ (λ_=>Ea (Ql λ_=>Qa _) (Qa _)) λ_=>QbZ (λ_=>Ea (Ql λ_=>Ea (QN _ _ _) (Qa _)) (Qa _)) λ_=>Ea (QN _ _ _) (Qa _)
 have e:Ev (λn=>F_ee n c.Categories) (c.Categories.all catS):=by
  unfold F_ee F_gp F_ha;refine JL c.Categories _ (λn x=>F_dp n x) (by have:=w.cat;omega) λx a=>?_;unfold F_dp;exact Ea (Ea (QaT _ _ _ _) (Ql λ_=>Qa _)) (Qa _)
 have k:Ev (λn=>F_cs n c.Prizes c) (c.Prizes.all (prizeS c)):=by
  unfold F_cs F_hs F_ho;refine JL c.Prizes _ (λn x=>F_cz n x c) (by have:=w.prize;omega) λx a=>?_;unfold F_cz;rw[QaM w.dist,QaM w.cat];exact Ea (Ea (QN _ _ _) (Ql λ_=>Ea (QN _ _ _) (Ql λ_=>Ea (QN _ _ _) (Ql λ_=>Ea (QN _ _ _) (Qa _))))) (Qa _)
 refine Ea d (Ql λ_=>Ea j (Ql λ_=>Ea (QiN _ w.legs) (Ql λ_=>Ea f (Ql λ_=>Ea i (Ql λ_=>Ea h (Ql λ_=>Ea e (Ql λ_=>Ea k (Ql λ_=>Ea (QgE _ w.prize) (Ql λ_=>?_)))))))));exact Ea (QaT _ _ _ _) (Ql λ_=>Ea (QaT _ _ _ _) (Ql λ_=>Ea (QN _ _ _) (Ql λ_=>Ea (QN _ _ _) (Ql λ_=>Ea (QN _ _ _) (Qa _)))))
theorem ends_eq{a b a' d:Int}:(({from_:=a,to_:=b}:Ue)={from_:=a',to_:=d})↔a=a'/\b=d:=by simp
theorem QgC(c:Course)(w:CourseOk c)(d:Distance)(h:d.Route.length<=1048576)(j:∀x∈d.Route,Part.wf x)(m:d.Cutoffs.length<=1048576):Ev (λn=>F_gv n c d) (distS ((c.Mats.length:Int)-1) d):=by
 have step:∀(i:Nat) (x:Cutoff),At d.Cutoffs i x->Ev (λn=>F_jw n c d i) (bif cutS (c.Mats.length-1) x then .cont (i+1)else .done (.done false)):=by
  intro i x a;unfold F_jw;simp only[a.lt,a.ix,XG,a.nx];have:Ev (λn=>(F_n n c x.Mat).bind λf=>(bif (!f)then some true else(bif decide (x.Lap<1)then some true else(F_c n x.Limit 0 1099511627776).bind λg=>some (!g)))) (!cutS (c.Mats.length-1) x):=by
   refine Ea (QgG c w _) (Er (Ep λ_=>Ep λ_=>Ea (J3 _ _ _) (Qa _)) ?_)
   grind[cutS]
  refine Ea this ?_
  grind[Qa]
 refine Ea (Ju d.Cutoffs (λx=> !cutS (c.Mats.length-1) x) (λi=>(i:Int)) (Ctl.done false) (Ctl.cont ()) (by omega) rfl (λi x a k=>?_) (λi x a k=>?_) ?_) ?_
 .grind
 .grind
 .simp_all[F_jw,Qa]
 .have e:d.Cutoffs.any (λx=> !cutS (c.Mats.length-1) x)= !d.Cutoffs.all (cutS (c.Mats.length-1)):=by grind
  rw[e];unfold distS;have l:inR (-1) (c.Mats.length-1) d.Extra=((d.Extra== -1)||inR 0 (c.Mats.length-1) d.Extra):=by
   unfold inR
   grind
  cases d.Cutoffs.all (cutS (c.Mats.length-1))with
  |false=>
   simp[Bool.and_false];exact Qa _
  |true=>
   simp only[Bool.and_true];refine Ea (Ea (J3 _ _ _) ((Ql λ_=>Ea (Qnp c w _ d.Route (XQ _) h j) (Ql λ_=>Ep λ_=>Ea (QgG c w _) (Qa _))).eq ?_)) (Qa _)
   grind
theorem YG{α B:Type}{step:Nat->Int->Option (Ctl Int B)}(l:List α)(ok:α->Bool)(a b:B)(hl:l.length<=4611686018427387904)
  (h:∀i x,At l i x->Ev (λn=>step n (i:Int)) (bif ok x then .cont ((i+1:Nat):Int)else .done a))(g:Ev (λn=>step n (l.length:Int)) (.done b)):
  Ev (λn=>Go.Sw.iter (step n) n 0) (bif l.all ok then b else a):=by
 have e:(bif l.all ok then b else a)=bif l.any (λx=> !ok x)then a else b:=by
  grind
 rw[e];refine Ju l (λx=> !ok x) (λi=>(i:Int)) a b hl rfl (λi x d f=>?_) (λi x d f=>?_) g
 .grind
 grind
theorem QiH(c:Course)(w:CourseOk c)(q:PartsOk c):Ev (λn=>F_eh n c) (numbersS c):=by
 unfold F_eh numbersS;have G:Ev (λn=>iter (F_in n c) n 0) (bif c.Mats.all (λm=>inR 1 3 m.Kind)then Ctl.cont ()else Ctl.done false):=by
  refine YG c.Mats _ _ _ (by have:=w.mats;omega) (λi x a=>?_) ?_
  .unfold F_in;simp only[a.lt,Vi,a.ix,XG,a.nx];refine Ea (J3 _ _ _) ?_;cases inR 1 3 x.Kind<;>exact Qa _
  simp_all[F_in,Qa]
 have L:Ev (λn=>iter (F_dz n c) n 0) (bif c.Legs.all (legS ((c.Mats.length:Int)-1))&&decide ((c.Legs.map legKey).Nodup)then Ctl.cont ()else Ctl.done false):=by
  have first:∀x:Leg,Ev (λn=>((F_n n c x.From).bind λu=>(bif (!u)then some true else(F_n n c x.To).bind λt=>(bif (!t)then some true else(bif decide (x.Min<0)then some true else(bif decide (x.Max<x.Min)then some true else some (decide (68719476736<x.Max)))))):Option Bool)) (!legS ((c.Mats.length:Int)-1) x):=by
   intro x;refine Ea (QgG c w _) (Er (Ep λ_=>Ea (QgG c w _) (Ep λ_=>Ep λ_=>Ep λ_=>Qa _)) ?_);unfold legS inR
   grind
  have inner:∀(i:Nat) (x:Leg),At c.Legs i x->Ev (λn=>iter (F_gg n c (i:Int) x) n 0) (bif ((c.Legs.take i).map legKey).contains (legKey x)then Ctl.done (Ctl.done (Ctl.done false))else Ctl.cont ()):=by
   intro i x a;have E:=a.lt';refine Qec c.Legs i legKey (legKey x) _ _ (by have:=w.legs;omega) (by omega) (λj y F l g=>?_) (λj y F l g=>?_) ?_
   .unfold F_gg;rw[YS (show(j:Int)<(i:Int)by omega)];simp only[Vi,l.ix,XG,l.nx];have h:¬(y.From=x.From/\y.To=x.To):=by simpa[legKey]using g
    refine Ea (Ql λ_=>Qa _) ?_;have e:((y.From==x.From)&&(y.To==x.To))=false:=by
     grind
    rw[e];exact Qa _
   .unfold F_gg;rw[YS (show(j:Int)<(i:Int)by omega)];simp only[Vi,l.ix,XG,l.nx]
    simp_all[legKey,Qa]
   grind[F_gg,Qa]
  refine Ql5 c.Legs (legS ((c.Mats.length:Int)-1)) legKey _ _ (by have:=w.legs;omega) (λi x a d g=>?_) (λi x a d=>?_) (λi x a d g=>?_) ?_
  .unfold F_dz;simp only[a.lt,Vi,a.ix,XG,a.nx];have f:=first x;rw[d]at f
   have k:=inner i x a;rw[g]at k;exact Ea f (Yf (Ea k (Qa _)))
  .unfold F_dz;simp only[a.lt,Vi,a.ix,XG,a.nx];have f:=first x;rw[d]at f
   exact Ea f (Qa _)
  .unfold F_dz;simp only[a.lt,Vi,a.ix,XG,a.nx];have f:=first x;rw[d]at f
   have k:=inner i x a;rw[g]at k;exact Ea f (Yf (Ea k (Qa _)))
  simp_all[F_dz,Qa]
 have H:Ev (λn=>iter (F_ik n c) n 0) (bif c.Distances.all (distS ((c.Mats.length:Int)-1))then Ctl.cont ()else Ctl.done false):=by
  refine YG c.Distances _ _ _ (by have:=w.dist;omega) (λi x a=>?_) ?_
  .unfold F_ik;simp only[a.lt,Vi,a.ix,XG,a.nx];refine Ea (QgC c w x (q.len x a.mem) (q.wf x a.mem) (w.cut x a.mem)) ?_;cases distS ((c.Mats.length:Int)-1) x<;>exact Qa _
  .unfold F_ik;simp only[Qcm,Vj];exact Qa _
 have M:Ev (λn=>iter (F_jb n c) n 0) (bif c.Waves.all (λw=>inR 0 1099511627776 w.Gun)then Ctl.cont ()else Ctl.done false):=by
  refine YG c.Waves _ _ _ (by have:=w.wave;omega) (λi x a=>?_) ?_
  .unfold F_jb;simp only[a.lt,Vi,a.ix,XG,a.nx];refine Ea (J3 _ _ _) ?_;cases inR 0 1099511627776 x.Gun<;>exact Qa _
  .unfold F_jb;simp only[Qcm,Vj];exact Qa _
 have J:Ev (λn=>iter (F_ja n c) n 0) (bif c.Offences.all offS then Ctl.cont ()else Ctl.done false):=by
  refine YG c.Offences _ _ _ (by have:=w.off;omega) (λi x a=>?_) ?_
  .unfold F_ja;simp only[a.lt,Vi,a.ix,XG,a.nx];refine Ea (Ea (J3 _ _ _) (Ql λ_=>Ql λ_=>Qa _)) ?_;refine Ea (Ql λ_=>Ea (J3 _ _ _) (Ql λ_=>Qa _)) ?_;refine Ea (Ql λ_=>Ql λ_=>Qa _) ?_;refine Ea (Ql λ_=>Ql λ_=>Qa _) ?_;have e:offS x= !(!(inR 0 68719476736 x.Time&&((x.Laps==0)&& !x.Out))&&(!((x.Time==0)&&(inR 1 64 x.Laps&& !x.Out))&& !((x.Time==0)&&((x.Laps==0)&&x.Out)))):=by
    unfold offS inR;cases x.Out with
    |true=>
     rw[XU];simp
    |false=>
     by_cases h:x.Laps=0
     iterate 2 rw[XU];simp[h]
   rw[e];generalize(!(inR 0 68719476736 x.Time&&((x.Laps==0)&& !x.Out))&&(!((x.Time==0)&&(inR 1 64 x.Laps&& !x.Out))&& !((x.Time==0)&&((x.Laps==0)&&x.Out))))=b;cases b<;>exact Qa _
  .unfold F_ja;simp only[Qcm,Vj];exact Qa _
 have N:Ev (λn=>iter (F_iu n c) n 0) (bif c.Categories.all catS then Ctl.cont ()else Ctl.done false):=by
  refine YG c.Categories _ _ _ (by have:=w.cat;omega) (λi x a=>?_) ?_
  .unfold F_iu;simp only[a.lt,Vi,a.ix,XG,a.nx];refine Ea (Ep λ_=>Ep λ_=>Qa _) ?_;have e:(decide (x.From<0)||(decide (x.To<x.From)||decide (120<x.To)))= !catS x:=by
    unfold catS inR;rw[XU];simp;omega
   rw[e];cases catS x<;>exact Qa _
  .unfold F_iu;simp only[Qcm,Vj];exact Qa _
 have O:Ev (λn=>iter (F_cx n c) n 0) (bif c.Prizes.all (prizeS c)&&decide ((c.Prizes.map prizeKey).Nodup)then Ctl.cont ()else Ctl.done false):=by
  have first:∀x:Prize,Ev (λn=>((F_c n x.Distance 0 (i64.wrap ((c.Distances.length:Int)-1))).bind λp=>(bif (!p)then some true else(F_c n x.Category (-1) (i64.wrap ((c.Categories.length:Int)-1))).bind λs=>(bif (!s)then some true else(F_c n x.Rank 1 4000).bind λB=>(bif (!B)then some true else(F_c n x.Amount 1 1125899906842624).bind λr=>some (!r)))):Option Bool)) (!prizeS c x):=by
   intro x;rw[QaM w.dist,QaM w.cat];refine Ea (J3 _ _ _) (Er (Ep λ_=>Ea (J3 _ _ _) (Ep λ_=>Ea (J3 _ _ _) (Ep λ_=>Ea (J3 _ _ _) (Qa _)))) ?_);unfold prizeS;simp only[Bool.not_and]
  have inner:∀(i:Nat) (x:Prize),At c.Prizes i x->Ev (λn=>iter (F_hh n c (i:Int) x) n 0) (bif ((c.Prizes.take i).map prizeKey).contains (prizeKey x)then Ctl.done (Ctl.done (Ctl.done false))else Ctl.cont ()):=by
   intro i x a;have E:=a.lt';refine Qec c.Prizes i prizeKey (prizeKey x) _ _ (by have:=w.prize;omega) (by omega) (λj y F l g=>?_) (λj y F l g=>?_) ?_
   .unfold F_hh;rw[YS (show(j:Int)<(i:Int)by omega)];simp only[Vi,l.ix,XG,l.nx];have h:¬(y.Distance=x.Distance/\y.Category=x.Category/\y.Rank=x.Rank):=by simpa[prizeKey]using g
    refine Ea (Ql λ_=>Ql λ_=>Qa _) ?_;have e:((y.Distance==x.Distance)&&((y.Category==x.Category)&&(y.Rank==x.Rank)))=false:=by
     rw[VG];intro z;exact h (by simpa using z)
    rw[e];exact Qa _
   .unfold F_hh;rw[YS (show(j:Int)<(i:Int)by omega)];simp only[Vi,l.ix,XG,l.nx];have h:(y.Distance=x.Distance/\y.Category=x.Category/\y.Rank=x.Rank):=by simpa[prizeKey]using g
    refine Ea (Ql λ_=>Ql λ_=>Qa _) ?_;have e:((y.Distance==x.Distance)&&((y.Category==x.Category)&&(y.Rank==x.Rank)))=true:=by simpa using h
    rw[e];exact Qa _
   .unfold F_hh;rw[YU (show¬(i:Int)<(i:Int)by omega)];exact Qa _
  refine Ql5 c.Prizes (prizeS c) prizeKey _ _ (by have:=w.prize;omega) (λi x a d g=>?_) (λi x a d=>?_) (λi x a d g=>?_) ?_
  .unfold F_cx;simp only[a.lt,Vi,a.ix,XG,a.nx];have f:=first x;rw[d]at f
   have k:=inner i x a;rw[g]at k;exact Ea f (Yf (Ea k (Qa _)))
  .unfold F_cx;simp only[a.lt,Vi,a.ix,XG,a.nx];have f:=first x;rw[d]at f
   exact Ea f (Qa _)
  .unfold F_cx;simp only[a.lt,Vi,a.ix,XG,a.nx];have f:=first x;rw[d]at f
   have k:=inner i x a;rw[g]at k;exact Ea f (Yf (Ea k (Qa _)))
  .unfold F_cx;simp only[Qcm,Vj];exact Qa _
 refine Ea G ?_;cases c.Mats.all (λm=>inR 1 3 m.Kind)with
 |false=>exact Qa _
 |true=>
 refine Ea L ?_;simp only[Vu];rw[<- Bool.and_assoc];cases(c.Legs.all (legS ((c.Mats.length:Int)-1))&&decide ((c.Legs.map legKey).Nodup))with
 |false=>exact Qa _
 |true=>
 refine Ea H ?_;simp only[Vu];cases c.Distances.all (distS ((c.Mats.length:Int)-1))with
 |false=>exact Qa _
 |true=>
 refine Ea M ?_;simp only[Vu];cases c.Waves.all (λw=>inR 0 1099511627776 w.Gun)with
 |false=>exact Qa _
 |true=>
 refine Ea J ?_;simp only[Vu];cases c.Offences.all offS with
 |false=>exact Qa _
 |true=>
 refine Ea N ?_;simp only[Vu];cases c.Categories.all catS with
 |false=>exact Qa _
 |true=>
 refine Ea O ?_;simp only[Vu];rw[<- Bool.and_assoc];cases(c.Prizes.all (prizeS c)&&decide ((c.Prizes.map prizeKey).Nodup))with
 |false=>exact Qa _
 |true=>
 simp only[Vu];refine Ea (v:=lastS c) ?_ (Qa _);refine Ea (J3 _ _ _) ((Ql λ_=>Ea (J3 _ _ _) (Ql λ_=>Ea (J3 _ _ _) (Ql λ_=>Ea (J3 _ _ _) (Ql λ_=>Ea (J3 _ _ _) (Ql λ_=>Ea (J3 _ _ _) (Ql λ_=>Ea (J3 _ _ _) (Qa _))))))).eq ?_);unfold lastS;simp only[Bool.and_assoc]
mutual
def cN:Cond->Nat
 |⟨_,_,_,ps⟩=>1+cNs ps
def cNs:List Cond->Nat
 |[]=>0
 |c::r=>cN c+cNs r
end
theorem Qco(c:Cond):cN c=1+cNs c.Parts:=by cases c;rfl
mutual
def cD:Nat->Cond->Bool
 |d,⟨_,_,_,ps⟩=>cDs d ps
def cDs:Nat->List Cond->Bool
 |_,[]=>true
 |d,c::r=>decide (d<=16)&&(cD (d+1) c&&cDs d r)
end
theorem QmJ(d:Nat)(c:Cond):cD d c=cDs d c.Parts:=by cases c;rfl
def zeroC(c:Cond):Bool:=(c.Kind==0)&&((c.Var==0)&&((c.N==0)&&((c.Parts.length:Int)==0)))
mutual
def sNp:Step->Nat
 |⟨_,_,_,t,e⟩=>1+sNs t+sNs e
def sNs:List Step->Nat
 |[]=>0
 |s::r=>sNp s+sNs r
end
theorem Qhr(s:Step):sNp s=1+sNs s.Then+sNs s.Else:=by cases s;rfl
mutual
def sC:Step->Nat
 |⟨_,_,c,t,e⟩=>(bif zeroC c then 0 else cN c)+sCs t+sCs e
def sCs:List Step->Nat
 |[]=>0
 |s::r=>sC s+sCs r
end
theorem QfN(s:Step):sC s=(bif zeroC s.Cond then 0 else cN s.Cond)+sCs s.Then+sCs s.Else:=by cases s;rfl
mutual
def sDp:Nat->Step->Bool
 |d,⟨_,_,c,t,e⟩=>(zeroC c||cD 1 c)&&(sDs d t&&sDs d e)
def sDs:Nat->List Step->Bool
 |_,[]=>true
 |d,s::r=>decide (d<=16)&&(sDp (d+1) s&&sDs d r)
end
theorem Qjs(d:Nat)(s:Step):sDp d s=((zeroC s.Cond||cD 1 s.Cond)&&(sDs d s.Then&&sDs d s.Else)):=by cases s;rfl
mutual
def sZ:Step->Nat
 |⟨_,_,c,t,e⟩=>2+cN c+sZs t+sZs e
def sZs:List Step->Nat
 |[]=>0
 |s::r=>sZ s+sZs r
end
theorem Qhq(s:Step):sZ s=2+cN s.Cond+sZs s.Then+sZs s.Else:=by cases s;rfl
def fS:Uf->Nat
 |.ctyping_step x=>sNp x.Step
 |.ctyping_cond _=>0
def fC:Uf->Nat
 |.ctyping_step x=>sC x.Step
 |.ctyping_cond x=>cN x.Cond
def fD(d:Nat):Uf->Bool
 |.ctyping_step x=>sDp d x.Step
 |.ctyping_cond x=>cD d x.Cond
def fZ:Uf->Nat
 |.ctyping_step x=>sZ x.Step
 |.ctyping_cond x=>cN x.Cond
def fSs(l:List Uf):Nat:=(l.map fS).sum
def fCs(l:List Uf):Nat:=(l.map fC).sum
def fZs(l:List Uf):Nat:=(l.map fZ).sum
def fwf:Uf->Prop
 |.ctyping_step x=>Step.wf x.Step
 |.ctyping_cond x=>Cond.wf x.Cond
def ofStep(s:Step):Uf:=.ctyping_step {Step:=s}
def ofCond(c:Cond):Uf:=.ctyping_cond {Cond:=c}
theorem Qbu:∀l:List Step,fSs (l.map ofStep)=sNs l
 |[]=>rfl
 |s::r=>by
  have:=Qbu r;simp[fSs,Vd,List.sum_cons]at this⊢;rw[this];rfl
theorem Qbv:∀l:List Step,fCs (l.map ofStep)=sCs l
 |[]=>rfl
 |s::r=>by
  have:=Qbv r;simp[fCs,Vd,List.sum_cons]at this⊢;rw[this];rfl
theorem Qck:∀l:List Step,fZs (l.map ofStep)=sZs l
 |[]=>rfl
 |s::r=>by
  have:=Qck r;simp[fZs,Vd,List.sum_cons]at this⊢;rw[this];rfl
theorem Qgs:∀l:List Cond,fSs (l.map ofCond)=0
 |[]=>rfl
 |s::r=>by
  have:=Qgs r;simp only[fSs,Vd,List.sum_cons]at this⊢;rw[this];rfl
theorem Qgu:∀l:List Cond,fCs (l.map ofCond)=cNs l
 |[]=>rfl
 |s::r=>by
  have:=Qgu r;simp[fCs,Vd,List.sum_cons]at this⊢;rw[this];rfl
theorem Qgq:∀l:List Cond,fZs (l.map ofCond)=cNs l
 |[]=>rfl
 |s::r=>by
  have:=Qgq r;simp[fZs,Vd,List.sum_cons]at this⊢;rw[this];rfl
theorem QdS(d:Nat):∀l:List Step,sDs d l=((l.map ofStep).isEmpty||(decide (d<=16)&&(l.map ofStep).all (fD (d+1))))
 |[]=>rfl
 |s::r=>by
  rw[sDs,QdS d r];simp[Vd,List.all_cons];rw[show fD (d+1) (ofStep s)=sDp (d+1) s from rfl]
  grind
theorem Qj8(d:Nat):∀l:List Cond,cDs d l=((l.map ofCond).isEmpty||(decide (d<=16)&&(l.map ofCond).all (fD (d+1))))
 |[]=>rfl
 |s::r=>by
  rw[cDs,Qj8 d r];simp[Vd,List.all_cons];rw[show fD (d+1) (ofCond s)=cD (d+1) s from rfl]
  grind
theorem Jk{c:Cond}(h:Cond.wf c):c.Parts.length<=1048576/\ ∀x∈c.Parts,Cond.wf x:=by
 cases c
 grind[Cond.wf,Qee]
theorem Jj{s:Step}(h:Step.wf s):Cond.wf s.Cond/\(s.Then.length<=1048576/\ ∀x∈s.Then,Step.wf x)/\(s.Else.length<=1048576/\ ∀x∈s.Else,Step.wf x):=by
 cases s
 grind[Step.wf,Qd2]
theorem QhV(n:Nat)(c:Cond):F_ax n {Cond:=c}=some (zeroC c):=by
 unfold F_ax zeroC
 grind
theorem Qgy(n:Nat)(c:Cond):F_bs n c=some (zeroC c):=by
 unfold F_bs zeroC
 grind
theorem Qgx(l:List Step)(hl:l.length<=140737488):Ev (λn=>F_bi n l) (l.map ofStep):=by
 exact Ea (Qag l ofStep hl) (Qa _)
theorem Qo9(l:List Cond)(hl:l.length<=140737488):Ev (λn=>F_ez n l) (l.map ofCond):=by
 exact Ea (Qag l ofCond hl) (Qa _)
def stepParts(s:Step):List Uf:=s.Then.map ofStep++s.Else.map ofStep
theorem QbN(s:Step)(h:Step.wf s):Ev (λn=>F_av n {Step:=s}) (stepParts s):=by
 obtain⟨_,⟨a,_⟩,⟨d,_⟩⟩:=Jj h;refine Ea (Qgx s.Then (by omega)) (Ea (Qgx s.Else (by omega)) (J5 (QdZ _ _ (by simp;omega)) (Qa _)))
theorem QdV(c:Cond)(h:Cond.wf c):Ev (λn=>F_aj n {Cond:=c}) (c.Parts.map ofCond):=by
 obtain⟨a,_⟩:=Jk h;exact Ea (Qo9 c.Parts (by omega)) (Qa _)
def okL(l:List Uf)(d:Nat)(st co:Int):Bool:=l.isEmpty||(decide (d<=16)&&(l.all (fD (d+1))&&(decide (st+fSs l<=64)&&decide (co+fCs l<=256))))
def okR(l:List Uf)(d:Nat)(st co:Int):Bool:=l.isEmpty||(l.all (fD (d+1))&&(decide (st+fSs l<=64)&&decide (co+fCs l<=256)))
def okF(f:Uf)(d:Nat)(st co:Int):Bool:=fD (d+1) f&&(decide (st+fS f<=64)&&decide (co+fC f<=256))
theorem Qj7(f:Uf)(l:List Uf):fSs (f::l)=fS f+fSs l:=rfl
theorem Qj9(f:Uf)(l:List Uf):fCs (f::l)=fC f+fCs l:=rfl
theorem Qj6(f:Uf)(l:List Uf):fZs (f::l)=fZ f+fZs l:=rfl
theorem Qgr(l m:List Uf):fSs (l++m)=fSs l+fSs m:=by simp[fSs]
theorem Qgt(l m:List Uf):fCs (l++m)=fCs l+fCs m:=by simp[fCs]
theorem Qgp(l m:List Uf):fZs (l++m)=fZs l+fZs m:=by simp[fZs]
theorem Qoq(f:Uf)(r:List Uf)(d:Nat)(st a:Int):okR (f::r) d st a=(okF f d st a&&okR r d (st+fS f) (a+fC f)):=by
 unfold okR okF;rw[Qj7,Qj9];cases r with
 |nil=>simp[fSs,fCs]
 |cons g r=>
  grind
theorem Qiq(l:List Uf)(d:Nat)(st a:Int)(e:st<=64)(g:a<=256):okL l d st a=true↔(l.isEmpty||(decide (d<=16)&&l.all (fD (d+1))))=true/\st+fSs l<=64/\a+fCs l<=256:=by
 unfold okL;cases l with
 |nil=>simp[fSs,fCs,e,g]
 |cons f r=>
  grind
theorem QfH(s:Step)(d:Nat):((stepParts s).isEmpty||(decide (d<=16)&&(stepParts s).all (fD (d+1))))=(sDs d s.Then&&sDs d s.Else):=by
 rw[QdS,QdS];unfold stepParts;rw[List.all_append];cases a:s.Then<;>cases e:s.Else<;>simp<;>(grind)
def Cnt(R:Nat->List Uf->Int->Ud->Option (Ud×Bool))(l:List Uf)(d:Nat)(st co:Int):Prop:=
 ∃c':Ud,Ev (λn=>R n l (d:Int) {steps:=st,conds:=co}) (c',okL l d st co)/\(okL l d st co=true->c'={steps:=st+fSs l,conds:=co+fCs l})
theorem QlL{R:Nat->List Uf->Int->Ud->Option (Ud×Bool)}{l:List Uf}{d:Nat}(hd:d<=16){i:Nat}{f:Uf}(T:At l i f)(hw:fwf f)
  (Q:∀l' d' st a,fZs l'<fZ f->l'.length<=2097152->(∀f∈l',fwf f)->d'<=17->0<=st->st<=66->(st<=65\/ ∀f∈l',∃c,f=ofCond c)->0<=a->a<=256->Cnt R l' d' st a){st a:Int}(h0:0<=st)(ab:st<=66)(E:st<=65\/ ∃c,f=ofCond c)(h2:0<=a)(h3:a<=256):
  ∃c':Ud,Ev (λn=>F_hg n l (d:Int) (R n) ({steps:=st,conds:=a},(i:Int))) (bif okF f d st a then .cont (c',((i+1:Nat):Int))else .done (.done (c',false)))/\(okF f d st a=true->c'={steps:=st+fS f,conds:=a+fC f}):=by
 unfold F_hg;simp only[T.lt,Vi,T.ix,XG,T.nx];have ed:i64.wrap ((d:Int)+1)=((d+1:Nat):Int):=Yh (by omega);cases f with
 |ctyping_step x=>
  obtain⟨s⟩:=x;have h1:st<=65:=by
   rcases E with h|⟨c,h⟩
   .exact h
   .cases h
  have j:Step.wf s:=hw;obtain⟨wc,⟨ae,M⟩,⟨ac,N⟩⟩:=Jj j;have V:i64.wrap (st+1)=st+1:=QZ (by omega) (by omega);simp only[Uf.elim,QhV,XG,V];have hc:∃r:Ud,Ev (λn=>((bif (!zeroC s.Cond)then(R n [Uf.ctyping_cond {Cond:=s.Cond}] 0 {steps:=st+1,conds:=a}).bind λm=>some (m.1,(!m.2))else some ({steps:=st+1,conds:=a},false)):Option (Ud×Bool))) (r, !(zeroC s.Cond||(cD 1 s.Cond&&(decide (st+1<=64)&&decide (a+cN s.Cond<=256)))))/\
    ((zeroC s.Cond||(cD 1 s.Cond&&(decide (st+1<=64)&&decide (a+cN s.Cond<=256))))=true->r={steps:=st+1,conds:=a+((bif zeroC s.Cond then 0 else cN s.Cond:Nat):Int)}):=by
   cases w:zeroC s.Cond with
   |true=>
    simp_all[Qa]
   |false=>
    obtain⟨r,k,G⟩:=Q [ofCond s.Cond] 0 (st+1) a (by simp only[fZs,Vd,Ve,List.sum_cons,List.sum_nil];show cN s.Cond+0<sZ s;rw[Qhq];omega) (by simp) (by intro g e;simp only[Vv]at e;subst e;exact wc) (by omega) (by omega) (by omega) (.inr (by intro g e;simp only[Vv]at e;exact⟨_,e⟩)) h2 h3;have ek:okL [ofCond s.Cond] 0 (st+1) a=(cD 1 s.Cond&&(decide (st+1<=64)&&decide (a+cN s.Cond<=256))):=by
     unfold okL;simp only[List.isEmpty_cons,Bool.false_or,List.all_cons,List.all_nil,Bool.and_true,fSs,fCs,Vd,Ve,List.sum_cons,List.sum_nil];rw[show fD (0+1) (ofCond s.Cond)=cD 1 s.Cond from rfl,show fS (ofCond s.Cond)=0 from rfl,show fC (ofCond s.Cond)=cN s.Cond from rfl];simp
    rw[ek]at k G;refine⟨r,Ea k (Qa _),λh=>?_⟩;rw[G h];simp[fSs,fCs,show fS (ofCond s.Cond)=0 from rfl,show fC (ofCond s.Cond)=cN s.Cond from rfl]
  obtain⟨r,k,G⟩:=hc;generalize hb:(zeroC s.Cond||(cD 1 s.Cond&&(decide (st+1<=64)&&decide (a+cN s.Cond<=256))))=b at k G;have W:okF (Uf.ctyping_step {Step:=s}) d st a=(sDp (d+1) s&&(decide (st+sNp s<=64)&&decide (a+sC s<=256))):=rfl;rw[W];cases b with
  |false=>
   have:(sDp (d+1) s&&(decide (st+sNp s<=64)&&decide (a+sC s<=256)))=false:=by
    rw[VG];intro hh;simp only[XT,Vk,Qjs,Qhr,QfN]at hh;obtain⟨⟨X,_⟩,z2,z3⟩:=hh;cases w:zeroC s.Cond with
    |true=>rw[w]at hb;cases hb
    |false=>
     rw[w]at hb X z3;simp only[Bool.false_or]at hb X;rw[X]at hb;simp only[Vj]at z3;rw[YS (show st+1<=64 by omega),YS (show a+(cN s.Cond:Int)<=256 by omega)]at hb;cases hb
   rw[this];exact⟨r,Ea k (Qa _),λh=>by cases h⟩
  |true=>
   obtain rfl:=G rfl;by_cases q:64<st+1
   .have:(sDp (d+1) s&&(decide (st+sNp s<=64)&&decide (a+sC s<=256)))=false:=by
     rw[YU (show¬st+(sNp s:Int)<=64 by rw[Qhr];omega)];simp
    rw[this];refine⟨{steps:=st+1,conds:=a+((bif zeroC s.Cond then 0 else cN s.Cond:Nat):Int)},Ea k ?_,λh=>by cases h⟩;simp only[Xh,Vj];refine Ea (v:=(_,true)) ?_ (Qa _);rw[YS q];exact Qa _
   by_cases z:256<a+((bif zeroC s.Cond then 0 else cN s.Cond:Nat):Int)
   .have:(sDp (d+1) s&&(decide (st+sNp s<=64)&&decide (a+sC s<=256)))=false:=by
     rw[YU (show¬a+(sC s:Int)<=256 by rw[QfN];omega)];simp
    rw[this];refine⟨{steps:=st+1,conds:=a+((bif zeroC s.Cond then 0 else cN s.Cond:Nat):Int)},Ea k ?_,λh=>by cases h⟩;simp only[Xh,Vj];refine Ea (v:=(_,true)) ?_ (Qa _);rw[YU q,YS z];exact Qa _
   obtain⟨F,t,u⟩:=Q (stepParts s) (d+1) (st+1) (a+((bif zeroC s.Cond then 0 else cN s.Cond:Nat):Int)) (by
     unfold stepParts;rw[Qgp,Qck,Qck];show _<sZ s;rw[Qhq];omega) (by unfold stepParts;simp;omega) (by
     intro g e;unfold stepParts at e;rcases Vx.1 e with e|e
     .obtain⟨y,B,rfl⟩:=Xf.1 e;exact M y B
     .obtain⟨y,B,rfl⟩:=Xf.1 e;exact N y B) (by omega) (by omega) (by omega) (.inl (by omega)) (by omega) (by omega)
   have P:okL (stepParts s) (d+1) (st+1) (a+((bif zeroC s.Cond then 0 else cN s.Cond:Nat):Int))=(sDp (d+1) s&&(decide (st+sNp s<=64)&&decide (a+sC s<=256))):=by
    rw[XU,Qiq _ _ _ _ (by omega) (by omega),QfH];simp only[XT,Vk,Qjs,Qhr,QfN];have L:fSs (stepParts s)=sNs s.Then+sNs s.Else:=by unfold stepParts;rw[Qgr,Qbu,Qbu]
    have e3:fCs (stepParts s)=sCs s.Then+sCs s.Else:=by unfold stepParts;rw[Qgt,Qbv,Qbv]
    rw[L,e3];have J:(zeroC s.Cond||cD 1 s.Cond)=true:=by
     cases w:zeroC s.Cond with
     |true=>rfl
     |false=>
      rw[w]at hb;simp only[Bool.false_or,XT]at hb;rw[hb.1];rfl
    constructor
    .rintro⟨p,O,H⟩;exact⟨⟨J,p⟩,by omega,by omega⟩
    .rintro⟨⟨_,p⟩,O,H⟩;exact⟨p,by omega,by omega⟩
   rw[P]at t u;refine⟨F,Ea k ?_,λh=>?_⟩
   .simp only[Xh,Vj];refine Ea (v:=(F, !(sDp (d+1) s&&(decide (st+sNp s<=64)&&decide (a+sC s<=256))))) ?_ ?_
    .rw[YU q,YU z,ed];exact Ea (QbN s j) (Ea t (Qa _))
    .cases(sDp (d+1) s&&(decide (st+sNp s<=64)&&decide (a+sC s<=256)))<;>exact Qa _
   .rw[u h];have L:fSs (stepParts s)=sNs s.Then+sNs s.Else:=by unfold stepParts;rw[Qgr,Qbu,Qbu]
    have e3:fCs (stepParts s)=sCs s.Then+sCs s.Else:=by unfold stepParts;rw[Qgt,Qbv,Qbv]
    rw[L,e3,show fS (Uf.ctyping_step {Step:=s})=sNp s from rfl,show fC (Uf.ctyping_step {Step:=s})=sC s from rfl,Qhr,QfN];congr 1<;>omega
 |ctyping_cond x=>
  obtain⟨c⟩:=x;have j:Cond.wf c:=hw;obtain⟨aa,Y⟩:=Jk j;have V:i64.wrap (a+1)=a+1:=QZ (by omega) (by omega);simp only[Uf.elim,V];have W:okF (Uf.ctyping_cond {Cond:=c}) d st a=(cD (d+1) c&&(decide (st<=64)&&decide (a+cN c<=256))):=by
   show(cD (d+1) c&&(decide (st+((0:Nat):Int)<=64)&&decide (a+cN c<=256)))=_;rw[show st+((0:Nat):Int)=st by omega]
  rw[W];by_cases q:64<st
  .have:(cD (d+1) c&&(decide (st<=64)&&decide (a+cN c<=256)))=false:=by
    rw[YU (show¬st<=64 by omega)];simp
   rw[this];refine⟨{steps:=st,conds:=a+1},?_,λh=>by cases h⟩;refine Ea (v:=(_,true)) ?_ (Qa _);rw[YS q];exact Qa _
  by_cases z:256<a+1
  .have:(cD (d+1) c&&(decide (st<=64)&&decide (a+cN c<=256)))=false:=by
    rw[YU (show¬a+(cN c:Int)<=256 by rw[Qco];omega)];simp
   rw[this];refine⟨{steps:=st,conds:=a+1},?_,λh=>by cases h⟩;refine Ea (v:=(_,true)) ?_ (Qa _);rw[YU q,YS z];exact Qa _
  obtain⟨F,t,u⟩:=Q (c.Parts.map ofCond) (d+1) st (a+1) (by
    rw[Qgq];show _<cN c;rw[Qco];omega) (by simp;omega) (by
    intro g e;obtain⟨y,B,rfl⟩:=Xf.1 e;exact Y y B) (by omega) (by omega) (by omega) (.inl (by omega)) (by omega) (by omega)
  have P:okL (c.Parts.map ofCond) (d+1) st (a+1)=(cD (d+1) c&&(decide (st<=64)&&decide (a+cN c<=256))):=by
   rw[XU,Qiq _ _ _ _ (by omega) (by omega), <- Qj8,Qgs,Qgu];simp only[XT,Vk,QmJ,Qco];constructor
   iterate 2 rintro⟨p,O,H⟩;exact⟨p,by omega,by omega⟩
  rw[P]at t u;refine⟨F,?_,λh=>?_⟩
  .refine Ea (v:=(F, !(cD (d+1) c&&(decide (st<=64)&&decide (a+cN c<=256))))) ?_ ?_
   .rw[YU q,YU z,ed];exact Ea (QdV c j) (Ea t (Qa _))
   .cases(cD (d+1) c&&(decide (st<=64)&&decide (a+cN c<=256)))<;>exact Qa _
  .rw[u h,Qgs,Qgu,show fS (Uf.ctyping_cond {Cond:=c})=0 from rfl,show fC (Uf.ctyping_cond {Cond:=c})=cN c from rfl,Qco];congr 1;omega
theorem Qo8:∀(m:Nat) (l:List Uf) (d:Nat) (st a:Int),fZs l<=m->l.length<=2097152->(∀f∈l,fwf f)->d<=17->0<=st->st<=66->(st<=65\/ ∀f∈l,∃c,f=ofCond c)->0<=a->a<=256->Cnt F_h l d st a:=by
 intro m
 induction m using Nat.strongRecOn with
 |_ m E=>
 intro l d st a hm hl P hd h0 N u V h3;unfold Cnt;have t:∀c:Ud,(∃e:Ud,Ev (λn=>B_h (F_h n) n l (d:Int) c) (e,okL l d st a)/\(okL l d st a=true->e={steps:=st+fSs l,conds:=a+fCs l}))->∃e:Ud,Ev (λn=>F_h n l (d:Int) c) (e,okL l d st a)/\(okL l d st a=true->e={steps:=st+fSs l,conds:=a+fCs l}):=by
  rintro c ⟨e,q1,q2⟩;exact⟨e,QJ q1,q2⟩
 refine t _ ?_;unfold B_h;cases j:l with
 |nil=>
  refine⟨{steps:=st,conds:=a},?_,λ_=>by simp[fSs,fCs]⟩;refine Ea (v:=Ctl.cont {steps:=st,conds:=a}) (EvI.ev (Eh ?_)) (Qa _);exact Qa _
 |cons f0 r0=>
 rw[<- j];have z:l.isEmpty=false:=by rw[j];rfl
 have M:0<l.length:=by rw[j];simp
 by_cases g:d<=16
 rotate_left
 .have:okL l d st a=false:=by unfold okL;rw[z,YU g];rfl
  rw[this];refine⟨{steps:=st,conds:=a},?_,λh=>by cases h⟩;rw[YS (show(0:Int)<(l.length:Int)by omega),YS (show(16:Int)<(d:Int)by omega)];exact Ea (Qa _) (Qa _)
 have G:okL l d st a=okR l d st a:=by unfold okL okR;rw[YS g,Vu]
 rw[G];have loop:∀(r:List Uf) (i:Nat) (st a:Int),l.drop i=r->i<=l.length->0<=st->st<=66->(st<=65\/ ∀f∈l,∃c,f=ofCond c)->0<=a->a<=256->
   ∃e:Ud,EvI (λn=>F_hg n l (d:Int) (F_h n)) ({steps:=st,conds:=a},(i:Int)) (bif okR r d st a then Ctl.cont e else Ctl.done (e,false))/\(okR r d st a=true->e={steps:=st+fSs r,conds:=a+fCs r}):=by
  intro r
  induction r with
  |nil=>
   intro i st a w J _ _ _ _ _;refine⟨{steps:=st,conds:=a},Eh ?_,λ_=>by simp[fSs,fCs]⟩;unfold F_hg;simp only[QO w J,Vj];exact Qa _
  |cons f r B=>
   intro i st a w J g0 g1 y g2 g3;obtain⟨q,F⟩:=Qt (by omega) w;have aa:fZ f<=fZs l:=by
    have:∀(l:List Uf),f∈l->fZ f<=fZs l:=by
     intro l
     induction l with
     |nil=>intro h;cases h
     |cons x l E=>
      intro h;rw[Qj6];rcases X0.1 h with rfl|h
      .omega
      .have:=E h;omega
    exact this l q.mem
   obtain⟨e,k,s⟩:=QlL (R:=F_h) g q (P f q.mem) (λL Y st a k1 k2 k3 X O W H k7 k8=>E (fZs L) (by omega) L Y st a (XQ _) k2 k3 X O W H k7 k8) g0 g1 (y.imp id λh=>h f q.mem) g2 g3;rw[Qoq];cases p:okF f d st a with
   |false=>
    rw[p]at k;exact⟨e,Eh k,λh=>by cases h⟩
   |true=>
    rw[p]at k;obtain rfl:=s p;have hb:=by
     unfold okF at p;simp only[XT,Vk]at p;exact p.2
    obtain⟨Q,T,u2⟩:=B (i+1) (st+fS f) (a+fC f) F (by have:=q.lt';omega) (by omega) (by omega) (.inl (by omega)) (by omega) (by omega);refine⟨Q,Et k T,λh=>?_⟩;rw[u2 (by simpa using h),Qj7,Qj9];congr 1<;>omega
 obtain⟨e,k,s⟩:=loop l 0 st a rfl (XR _) h0 N u V h3;refine⟨e,?_,s⟩;refine Ea (v:=false) ?_ (Yf (Ea k.ev ?_))
 .rw[YS (show(0:Int)<(l.length:Int)by omega),YU (show¬(16:Int)<(d:Int)by omega)];exact Qa _
 .cases okR l d st a<;>exact Qa _
mutual
def vaC:Cond->Bool
 |⟨k,v,n,ps⟩=>bif k==1 then inR 1 3 v&&(inR 0 10000 n&&((ps.length:Int)==0))else
   bif k==4 then((v==0)&&(n==0))&&(((ps.length:Int)==1)&&vaCs ps)else
   bif (k==2)||(k==3)then((v==0)&&(n==0))&&((decide (0<(ps.length:Int))&&decide ((ps.length:Int)<=16))&&vaCs ps)else false
def vaCs:List Cond->Bool
 |[]=>true
 |c::r=>vaC c&&vaCs r
end
theorem Qn9(c:Cond):vaC c=bif c.Kind==1 then inR 1 3 c.Var&&(inR 0 10000 c.N&&((c.Parts.length:Int)==0))else
   bif c.Kind==4 then((c.Var==0)&&(c.N==0))&&(((c.Parts.length:Int)==1)&&vaCs c.Parts)else
   bif (c.Kind==2)||(c.Kind==3)then((c.Var==0)&&(c.N==0))&&((decide (0<(c.Parts.length:Int))&&decide ((c.Parts.length:Int)<=16))&&vaCs c.Parts)else false:=by cases c;rfl
theorem Qif:∀l:List Cond,vaCs l=l.all vaC
 |[]=>rfl
 |c::r=>by rw[vaCs,List.all_cons,Qif r]
mutual
def vaS:Step->Bool
 |⟨k,b,c,t,e⟩=>bif k==1 then inR 1 5 b&&(zeroC c&&(((t.length:Int)==0)&&((e.length:Int)==0)))else
   bif k==2 then(b==0)&&(vaC c&&(decide (0<(t.length:Int))&&(vaSs t&&vaSs e)))else false
def vaSs:List Step->Bool
 |[]=>true
 |s::r=>vaS s&&vaSs r
end
theorem Qn8(s:Step):vaS s=bif s.Kind==1 then inR 1 5 s.By&&(zeroC s.Cond&&(((s.Then.length:Int)==0)&&((s.Else.length:Int)==0)))else
   bif s.Kind==2 then(s.By==0)&&(vaC s.Cond&&(decide (0<(s.Then.length:Int))&&(vaSs s.Then&&vaSs s.Else)))else false:=by cases s;rfl
theorem Qie:∀l:List Step,vaSs l=l.all vaS
 |[]=>rfl
 |c::r=>by rw[vaSs,List.all_cons,Qie r]
def fV:Uf->Bool
 |.ctyping_step x=>vaS x.Step
 |.ctyping_cond x=>vaC x.Cond
theorem QlO(l:List Cond):(l.map ofCond).any (λf=> !fV f)= !vaCs l:=by
 rw[Qif,List.not_all_eq_any_not,List.any_map];rfl
theorem Qdh(l:List Step):(l.map ofStep).any (λf=> !fV f)= !vaSs l:=by
 rw[Qie,List.not_all_eq_any_not,List.any_map];rfl
theorem QhS{R:Nat->List Uf->Option Bool}(c:Cond)(h:Cond.wf c)(i:Ev (λn=>R n (c.Parts.map ofCond)) (!vaCs c.Parts)):
  Ev (λn=>F_hl (R n) n {Cond:=c}) (vaC c):=by
 rw[Qn9];refine Ea (Ql λ_=>Qa _) (QbZ (λ_=>?_) (λk=>?_))
 .exact Ea (Ea (QN _ _ _) (Ql λ_=>Ea (QN _ _ _) (Ql λ_=>Qa _))) (Qa _)
 .have fin:∀b,Ev (λn=>(bif b then(F_aj n {Cond:=c}).bind λa=>(R n a).bind λf=>some (!f)else some false).bind λd=>some d) (b&&vaCs c.Parts):=by
   intro b;refine Ea ((Ql λ_=>Ea (QdV c h) (Ea i (Qa _)))) ((Qa _).eq (by simp))
  cases l:(c.Kind==4)with
  |true=>
   cases j:((c.Var==0)&&(c.N==0))with
   |true=>
    grind
   |false=>
    simp_all
  |false=>
   cases g:((c.Kind==2)||(c.Kind==3))with
   |true=>
    have e:Ev (λn=>(bif (c.Kind==2)then some (c.Kind==2)else some (c.Kind==3))) true:=by
     refine Ez ?_
     grind
    cases j:((c.Var==0)&&(c.N==0))with
    |true=>
     grind
    |false=>
     refine Ea (Ea e (Qa _)) ((fin _).eq (by simp))
   |false=>
    have e:Ev (λn=>(bif (c.Kind==2)then some (c.Kind==2)else some (c.Kind==3))) false:=by
     refine Ez ?_
     grind
    grind
theorem QlB:∀(m:Nat) (l:List Uf),fZs l<=m->l.length<=2097152->(∀f∈l,fwf f)->Ev (λn=>F_ah n l) (l.any λf=> !fV f):=by
 intro m
 induction m using Nat.strongRecOn with
 |_ m q=>
 intro l J H r;refine QJ ?_;show Ev (λn=>B_ah (F_ah n) n l) _;refine Ev.contains l _ (λn f=>F_hc (F_ah n) n f) (by omega) λf u=>?_;have w:fZ f<=fZs l:=by
  have:∀(l:List Uf),f∈l->fZ f<=fZs l:=by
   intro l
   induction l with
   |nil=>simp
   |cons x l q=>
    intro h;rw[Qj6]
    grind
  grind
 refine Ea (v:=fV f) ?_ (Qa _);have a:∀c:Cond,Cond.wf c->cNs c.Parts<fZ f->Ev (λn=>F_ah n (c.Parts.map ofCond)) (!vaCs c.Parts):=by
  intro c j i;rw[<- QlO];obtain⟨L,z⟩:=Jk j;refine q (fZs (c.Parts.map ofCond)) (by rw[Qgq];omega) _ (XQ _) (by simp;omega) ?_;intro g d;obtain⟨y,e,rfl⟩:=Xf.1 d;exact z y e
 cases f with
 |ctyping_cond x=>
  obtain⟨c⟩:=x;have j:Cond.wf c:=r _ u;exact QhS c j (a c j (by show cNs c.Parts<cN c;rw[Qco];omega))
 |ctyping_step x=>
  obtain⟨s⟩:=x;have i:Step.wf s:=r _ u;obtain⟨t,⟨E,k⟩,⟨B,p⟩⟩:=Jj i;show Ev _ (vaS s);rw[Qn8];refine QbZ (λ_=>?_) (λF=>QbZ (λ_=>?_) λ_=>Qa _)
  .refine Ea (Ea (QN _ _ _) (Ql λ_=>?_)) (Qa _);simp only[QhV];refine Ql λ_=>Ea (QbN s i) ((Qa _).eq ?_);unfold stepParts;rw[XU];simp only[Vs,XT,XY,XX];omega
  .refine Ea (Ql λ_=>?_) (Qa _);refine Ea (QhS s.Cond t (a s.Cond t (by show _<sZ s;rw[Qhq,Qco];omega))) (Ql λ_=>Ql λ_=>?_);refine Ea (QbN s i) (Ea (q (fZs (stepParts s)) ?_ _ (XQ _) (by unfold stepParts;simp;omega) ?_) ((Qa _).eq ?_))
   .have:fZs (stepParts s)<sZ s:=by
     unfold stepParts;rw[Qgp,Qck,Qck,Qhq];omega
    have G:fZ (Uf.ctyping_step {Step:=s})=sZ s:=rfl;omega
   .intro g d;rcases Vx.1 d with d|d
    .obtain⟨y,e,rfl⟩:=Xf.1 d;exact k y e
    .obtain⟨y,e,rfl⟩:=Xf.1 d;exact p y e
   .unfold stepParts;rw[List.any_append,Qdh,Qdh];simp
def goodT(l:List Step):Bool:=sDs 0 l&&(decide (sNs l<=64)&&decide (sCs l<=256))
def tiesE(l:List Step):Int:=bif goodT l then(bif l.isEmpty|| !vaSs l then 71 else 0)else 2
theorem Qor(l:List Step):okL (l.map ofStep) 0 0 0=goodT l:=by
 rw[XU,Qiq _ _ _ _ (by omega) (by omega), <- QdS,Qbu,Qbv];unfold goodT
 grind
theorem Qqu(l:List Step)(hl:l.length<=1048576)(i:∀x∈l,Step.wf x):Ev (λn=>F_fz n l) (tiesE l):=by
 refine Ea (Qgx l (by omega)) (Ea ?_ (Qa _));have d:∀f∈l.map ofStep,fwf f:=by
  intro g h;obtain⟨y,j,rfl⟩:=Xf.1 h;exact i y j
 obtain⟨m,a,k⟩:=Qo8 _ (l.map ofStep) 0 0 0 (XQ _) (by simp;omega) d (by omega) (by omega) (by omega) (.inl (by omega)) (by omega) (by omega);rw[Qor]at a;have p3:=a.shift;refine Ea p3 ?_;unfold tiesE;cases goodT l with
 |false=>exact Qa _
 |true=>
  have e:(((l.map ofStep).length:Int)==0)=l.isEmpty:=by
   cases l<;>simp;omega
  rw[e];refine Ea (Ep λ_=>Ea (QlB _ _ (XQ _) (by simp;omega) d) (Qa _)) ?_
  grind[Qdh,Qa]
def condB(d:Nat):Int:=256*(18-(d:Int))+1000
theorem QcW:∀(m:Nat) (c:Cond) (d:Nat),cN c<=m->d<=17->Cond.wf c->∃v:Int,Ev (λn=>F_l n c (d:Int)) v/\0<=v/\v<=condB d/\
  (d<=16/\cD (d+1) c=true/\cN c<=256->v=cN c)/\(¬(d<=16/\cD (d+1) c=true/\cN c<=256)->256<v):=by
 intro m
 induction m using Nat.strongRecOn with
 |_ m E=>
 intro c d hm hd Q;obtain⟨R,H⟩:=Jk Q;have s:∀{P:Int->Prop},(∃v:Int,Ev (λn=>B_l (F_l n) n c (d:Int)) v/\P v)->∃v:Int,Ev (λn=>F_l n c (d:Int)) v/\P v:=by
  rintro P ⟨v,j,e⟩;exact⟨v,QJ j,e⟩
 refine s ?_;unfold B_l;by_cases u:d<=16
 .rw[YU (show¬(16:Int)<(d:Int)by omega)];have X:i64.wrap ((d:Int)+1)=((d+1:Nat):Int):=Yh (by omega);have loop:∀(r:List Cond) (i:Nat) (a:Int),c.Parts.drop i=r->i<=c.Parts.length->0<=a->a<=condB d->
    ∃v:Int,EvI (λn=>F_hq n c (d:Int) (F_l n)) (a,(i:Int)) v/\0<=v/\v<=condB d/\
     (cDs (d+1) r=true/\a+cNs r<=256->v=a+cNs r)/\(¬(cDs (d+1) r=true/\a+cNs r<=256)->256<v):=by
   intro r
   induction r with
   |nil=>
    intro i a t N z j;refine⟨a,Eh ?_,z,j,λ_=>by simp[cNs],λh=>?_⟩
    .unfold F_hq;simp only[QO t N,Vj,XG];exact Qa _
    .simp[cDs,cNs]at h;omega
   |cons x r B=>
    intro i a t N z j;obtain⟨g,G⟩:=Qt (by omega) t;have hx:cN x<cN c:=by
     have:∀l:List Cond,x∈l->cN x<=cNs l:=by
      intro l
      induction l with
      |nil=>intro h;cases h
      |cons y l E=>
       intro h;rw[cNs];rcases X0.1 h with rfl|h
       .omega
       .have:=E h;omega
     have:=this _ g.mem;rw[Qco c];omega
    by_cases f:a<=256
    .obtain⟨v,q,J,O,p,M⟩:=E (cN x) (by omega) x (d+1) (XQ _) (by omega) (H x g.mem);have hB:condB (d+1)+256=condB d:=by unfold condB;omega
     have Y:condB d<=6000:=by unfold condB;omega
     have e1:i64.wrap (a+v)=a+v:=QZ (by omega) (by omega);obtain⟨w,T,q2,V,q4,L⟩:=B (i+1) (a+v) G (by have:=g.lt';omega) (by omega) (by omega);refine⟨w,Et ?_ T,q2,V,?_,?_⟩
     .unfold F_hq;simp only[g.lt,Vi,YS f,XG,g.ix,g.nx,X];refine Ea q ?_;rw[e1];exact Qa _
     .rintro⟨e,F⟩;simp only[cDs,XT,Vk]at e;rw[cNs]at F⊢;have:=p ⟨e.1,e.2.1,by omega⟩;subst this;rw[q4 ⟨e.2.2,by omega⟩];omega
     .intro W;by_cases k:d+1<=16/\cD (d+1+1) x=true/\cN x<=256
      .have:=p k;subst this;refine L λe=>W ⟨?_,?_⟩
       .simp only[cDs,XT,Vk];exact⟨k.1,k.2.1,e.1⟩
       .rw[cNs];omega
      .have:=M k;exact L λe=>by omega
    .refine⟨a,Eh ?_,z,j,λh=>?_,λ_=>by omega⟩
     .unfold F_hq;simp only[g.lt,Vi,YU f,XG,Vj];exact Qa _
     .omega
  obtain⟨v,q,J,O,p,M⟩:=loop c.Parts 0 1 rfl (XR _) (by omega) (by unfold condB;omega);refine⟨v,Yf (Ea q.ev (Qa _)),J,O,?_,?_⟩
  .rintro⟨_,e,F⟩;rw[QmJ]at e;rw[Qco]at F⊢;rw[p ⟨e,by omega⟩];omega
  grind[QmJ,Qco]
 .rw[YS (show(16:Int)<(d:Int)by omega)];refine⟨1000,QmV (Qa _),by omega,by unfold condB;omega,λh=>absurd h.1 u,λ_=>by omega⟩
def sizeB:Nat->Int
 |0=>10000
 |k+1=>3*sizeB k
theorem Qdr:∀k,10000<=sizeB k
 |0=>Int.le_refl _
 |k+1=>by have:=Qdr k;simp[sizeB];omega
theorem Qoi{k:Nat}(h:k<=17):sizeB k<=1291401630000:=by
 have:∀j,j<=17->sizeB j<=1291401630000:=by decide+kernel
 grind
def goodL(d:Nat)(l:List Step):Prop:=sDs d l=true/\sNs l<=64/\sCs l<=256
theorem Qqo:∀(m:Nat) (l:List Step) (d:Nat),sZs l<=m->d<=17->l.length<=1048576->(∀x∈l,Step.wf x)->∃a b:Int,Ev (λn=>F_y n l (d:Int)) (a,b)/\0<=a/\0<=b/\a<=sizeB (17-d)/\b<=sizeB (17-d)/\
  (goodL d l->a=sNs l/\b=sCs l)/\(¬goodL d l->64<a\/256<b):=by
 intro m
 induction m using Nat.strongRecOn with
 |_ m F=>
 intro l d hm hd hl hw;have V:∀{P:Int->Int->Prop},(∃a b:Int,Ev (λn=>B_y (F_y n) n l (d:Int)) (a,b)/\P a b)->∃a b:Int,Ev (λn=>F_y n l (d:Int)) (a,b)/\P a b:=by
  rintro P ⟨a,b,p,u⟩;exact⟨a,b,QJ p,u⟩
 refine V ?_;unfold B_y;by_cases B:0<l.length/\ ¬d<=16
 .rw[YS (show(0:Int)<(l.length:Int)by omega),YS (show(16:Int)<(d:Int)by omega)];have:=Qdr (17-d);refine⟨1000,1000,Ea (Qa _) (QmV (Qa _)),by omega,by omega,by omega,by omega,λh=>?_,λ_=>by omega⟩;exfalso;cases l with
  |nil=>simp at B
  |cons x r=>
   have:=h.1;simp only[sDs,XT,Vk]at this;omega
 .have w:Ev (λn:Nat=>((bif decide (0<(l.length:Int))then some (decide (16<(d:Int)))else some false):Option Bool)) false:=by
   grind[Qa]
  have ed:i64.wrap ((d:Int)+1)=((d+1:Nat):Int):=Yh (by omega);have loop:∀(r:List Step) (i:Nat) (a b:Int),l.drop i=r->i<=l.length->0<=a->0<=b->a<=sizeB (17-d)->b<=sizeB (17-d)->
    ∃a' b':Int,EvI (λn=>F_fn n l (d:Int) (F_y n)) (a,b,(i:Int)) (a',b')/\0<=a'/\0<=b'/\a'<=sizeB (17-d)/\b'<=sizeB (17-d)/\
     (sDs d r=true/\a+sNs r<=64/\b+sCs r<=256->a'=a+sNs r/\b'=b+sCs r)/\(¬(sDs d r=true/\a+sNs r<=64/\b+sCs r<=256)->64<a'\/256<b'):=by
   intro r
   induction r with
   |nil=>
    intro i a b L hi w p u Q;refine⟨a,b,Eh ?_,w,p,u,Q,λ_=>by simp[sNs,sCs],λh=>?_⟩
    .unfold F_fn;simp only[QO L hi,Vj,XG];exact Qa _
    .simp[sDs,sNs,sCs]at h;omega
   |cons s r N=>
    intro i a b L hi w p u Q;obtain⟨g,ah⟩:=Qt (by omega) L;have ai:=g.lt';have t:d<=16:=by
     omega
    have aj:sZ s<=sZs l:=by
     have:∀l:List Step,s∈l->sZ s<=sZs l:=by
      intro l
      induction l with
      |nil=>intro h;cases h
      |cons y l F=>
       intro h;rw[sZs];rcases X0.1 h with rfl|h
       .omega
       .have:=F h;omega
     exact this _ g.mem
    by_cases e:a<=64/\b<=256
    .obtain⟨wc,⟨ag,J⟩,⟨R,ab⟩⟩:=Jj (hw s g.mem);have ak:=Qhq s;obtain⟨j,f,H,p2,p3,p4,p5,G,p7⟩:=F (sZs s.Then) (by omega) s.Then (d+1) (XQ _) (by omega) ag J;obtain⟨y1,y2,q1,q2,q3,q4,q5,q6,q7⟩:=F (sZs s.Else) (by omega) s.Else (d+1) (XQ _) (by omega) R ab;have hB:sizeB (17-d)=3*sizeB (17-(d+1)):=by
      rw[show 17-d=(17-(d+1))+1 by omega];rfl
     have X:=Qdr (17-(d+1));have am:=Qoi (k:=17-d) (by omega);have hc:∃z:Int,0<=z/\z<=5608/\Ev (λn=>((bif (!zeroC s.Cond)then(idx l (i:Int)).bind λaf=>(F_l n af.Cond 0).bind λae=>some (i64.wrap ((i64.wrap ((i64.wrap (b+f))+y2))+ae))else some (i64.wrap ((i64.wrap (b+f))+y2))):Option Int)) (b+f+y2+z)/\
       ((zeroC s.Cond||cD 1 s.Cond)=true/\(bif zeroC s.Cond then 0 else cN s.Cond)<=256->z=((bif zeroC s.Cond then 0 else cN s.Cond:Nat):Int))/\(¬((zeroC s.Cond||cD 1 s.Cond)=true/\(bif zeroC s.Cond then 0 else cN s.Cond)<=256)->256<z):=by
      have e1:i64.wrap (b+f)=b+f:=QZ (by omega) (by omega);have e2:i64.wrap (b+f+y2)=b+f+y2:=QZ (by omega) (by omega);cases hz:zeroC s.Cond with
      |true=>
       refine⟨0,by omega,by omega,?_,λ_=>by simp,λh=>absurd ⟨rfl,by simp⟩ h⟩;simp only[Xh,Vj,e1,e2];exact(Qa _).eq (by omega)
      |false=>
       obtain⟨v,u1,u2,u3,u4,u5⟩:=QcW _ s.Cond 0 (XQ _) (by omega) wc;have aa:v<=5608:=by unfold condB at u3;omega
       have e3:i64.wrap (b+f+y2+v)=b+f+y2+v:=QZ (by omega) (by omega);refine⟨v,u2,aa,?_,λh=>?_,λh=>?_⟩
       .simp only[Xi,Vi,g.ix,XG,e1,e2];refine Ea u1 ?_;rw[e3];exact Qa _
       .simp only[Bool.false_or,Vj]at h⊢;exact u4 ⟨by omega,h.1,h.2⟩
       .simp only[Bool.false_or,Vj]at h;exact u5 λq=>h ⟨q.2.1,q.2.2⟩
     obtain⟨z,z0,z1,z2,z3,z4⟩:=hc;have e4:i64.wrap (a+1)=a+1:=QZ (by omega) (by omega);have e5:i64.wrap (a+1+j)=a+1+j:=QZ (by omega) (by omega);have e6:i64.wrap (a+1+j+y1)=a+1+j+y1:=QZ (by omega) (by omega);obtain⟨w1,w2,v1,v2,v3,v4,v5,v6,E⟩:=N (i+1) (a+1+j+y1) (b+f+y2+z) ah (by omega) (by omega) (by omega) (by omega) (by omega);refine⟨w1,w2,Et ?_ v1,v2,v3,v4,v5,?_,?_⟩
     .unfold F_fn;simp only[g.lt,Vi,YS e.1,YS e.2,XG,g.ix,g.nx,ed,Qgy];refine Ea H (Ea q1 ?_);simp only[g.ix,XG]at z2;refine Ea z2 ?_;rw[e4,e5,e6];exact Qa _
     .rintro⟨g1,g2,g3⟩;simp only[sDs,XT,Vk,Qjs]at g1;obtain⟨al,⟨ac,M,T⟩,O⟩:=g1;rw[sNs,Qhr]at g2⊢;rw[sCs,QfN]at g3⊢;obtain⟨k1,k2⟩:=G ⟨M,by omega,by omega⟩;obtain⟨k3,k4⟩:=q6 ⟨T,by omega,by omega⟩;have k5:=z3 ⟨ac,by omega⟩;obtain⟨k6,k7⟩:=v6 ⟨O,by omega,by omega⟩;constructor<;>omega
     .intro hn;by_cases b1:goodL (d+1) s.Then
      .obtain⟨k1,k2⟩:=G b1;by_cases W:goodL (d+1) s.Else
       .obtain⟨k3,k4⟩:=q6 W;by_cases Y:(zeroC s.Cond||cD 1 s.Cond)=true/\(bif zeroC s.Cond then 0 else cN s.Cond)<=256
        .have k5:=z3 Y;refine E λq=>hn ⟨?_,?_,?_⟩
         .simp only[sDs,XT,Vk,Qjs];exact⟨t,⟨Y.1,b1.1,W.1⟩,q.1⟩
         .rw[sNs,Qhr];omega
         .rw[sCs,QfN];omega
        .have:=z4 Y;exact E λq=>by omega
       .have:=q7 W;exact E λq=>by omega
      .have:=p7 b1;exact E λq=>by omega
    .refine⟨a,b,Eh ?_,w,p,u,Q,λh=>?_,λ_=>?_⟩
     .unfold F_fn;have:Ev (λn:Nat=>((bif decide ((i:Int)<(l.length:Int))then(bif decide (a<=64)then some (decide (b<=256))else some false)else some false):Option Bool)) false:=by
       rw[g.lt];by_cases q:a<=64
       .rw[YS q,YU (show¬b<=256 from λz=>e ⟨q,z⟩)];exact Qa _
       .rw[YU q];exact Qa _
      exact Ea this (Yf (Qa _))
     iterate 2 omega
  have X:=Qdr (17-d);obtain⟨a,b,H,p2,p3,p4,p5,G,p7⟩:=loop l 0 0 0 rfl (XR _) (by omega) (by omega) (by omega) (by omega);refine⟨a,b,Ea w (Yf (Ea H.ev (Qa _))),p2,p3,p4,p5,λh=>?_,λh=>?_⟩
  .obtain⟨k1,k2⟩:=G ⟨h.1,by have:=h.2.1;omega,by have:=h.2.2;omega⟩;constructor<;>omega
  .exact p7 λq=>h ⟨q.1,by omega,by omega⟩
theorem Qkf:∀(m:Nat) (c:Cond),cN c<=m->Cond.wf c->Ev (λn=>F_af n c) (vaC c):=by
 intro m
 induction m using Nat.strongRecOn with
 |_ m r=>
 intro c z t;obtain⟨s,k⟩:=Jk t;refine QJ ?_;show Ev (λn=>B_af (F_af n) n c) _;rw[Qn9];have g:∀x∈c.Parts,cN x<cN c:=by
  intro x g;have:∀l:List Cond,x∈l->cN x<=cNs l:=by
   intro l
   induction l with
   |nil=>simp
   |cons y l r=>
    intro h;rw[cNs]
    grind
  have:=this _ g;rw[Qco c];omega
 have loop:Ev (λn=>iter (F_gf n c (F_af n)) n 0) (bif c.Parts.all vaC then Ctl.cont ()else Ctl.done false):=by
  refine YG c.Parts vaC _ _ (by omega) (λi x a=>?_) ?_
  .unfold F_gf;simp only[a.lt,Vi,a.ix,XG,a.nx];refine Ea (r (cN x) (by have:=g x a.mem;omega) x (XQ _) (k x a.mem)) ?_;cases vaC x<;>exact Qa _
  simp_all[F_gf,Qa]
 have fin:Ev (λn=>((bif (c.Var != 0)then some true else some (c.N != 0)):Option Bool).bind λj=>(bif j then some false else(iter (F_gf n c (F_af n)) n 0).bind λf=>match f with|.cont sb48=>(some true)|.done sb48=>some sb48)) (((c.Var==0)&&(c.N==0))&&vaCs c.Parts):=by
  refine Ea (v:= !((c.Var==0)&&(c.N==0))) (Ez ?_) ?_
  .grind
  .cases((c.Var==0)&&(c.N==0))with
   |false=>exact Qa _
   |true=>
    refine Yf (Ea loop ?_)
    grind[Qif,Qa]
 refine QbZ (λ_=>?_) (λw=>?_)
 .refine Ea (v:=_) ((Ql λ_=>Ql λ_=>Ql λ_=>Ql λ_=>Qa _).eq ?_) (Qa _);unfold inR
  grind
 .have e:Ev (λn:Nat=>((bif (c.Kind==2)then some (c.Kind==2)else some (c.Kind==3)):Option Bool)) ((c.Kind==2)||(c.Kind==3)):=Ez (by rw[Qpm]);refine Ea e ?_;cases d:((c.Kind==2)||(c.Kind==3))with
  |true=>
   have q:(c.Kind==4)=false:=by
    rw[VG];simp only[Bool.or_eq_true,Vs]at d;simp only[Vs,ne_eq];omega
   rw[q];have u:(bif decide ((c.Parts.length:Int)<1)then some true else some (decide (16<(c.Parts.length:Int))))=some (!(decide (0<(c.Parts.length:Int))&&decide ((c.Parts.length:Int)<=16))):=by
    rw[QmK];congr 1;rw[XU];simp only[Bool.or_eq_true,Vk,Bool.not_eq_true',Bool.and_eq_false_iff,decide_eq_false_iff_not];omega
   rw[u];cases p:(decide (0<(c.Parts.length:Int))&&decide ((c.Parts.length:Int)<=16))with
   |false=>
    refine Ea (Qa _) ((Qa _).eq (by simp))
   |true=>
    refine Ea (Qa _) (fin.eq (by simp))
  |false=>
   simp only[Vj];cases q:(c.Kind==4)with
   |true=>
    simp only[Vi];cases p:((c.Parts.length:Int)==1)with
    |false=>
     refine Ea (v:=Ctl.done false) (Ez ?_) ((Qa _).eq (by simp));simp only[bne,p,Xi,Vi]
    |true=>
     refine Ea (v:=Ctl.cont ()) (Ez ?_) (fin.eq (by simp));simp only[bne,p,Xh,Vj]
   |false=>
    refine Ea (Qa _) (Qa _)
theorem Qly(c:Cond)(a:Cond.wf c)(e:cD 1 c=true)(f:cN c<=256):Ev (λn=>F_cu n c) (bif vaC c then 0 else 71):=by
 obtain⟨v,d,_,_,g,_⟩:=QcW _ c 0 (XQ _) (by omega) a;have:=g ⟨by omega,e,f⟩;refine Ea d ?_;rw[YU (show¬256<v by omega)];refine Yf (Ea (Qkf _ c (XQ _) a) ?_);cases vaC c<;>exact Qa _
theorem QmZ{c:Cond}(h:zeroC c=true):cD 1 c=true/\cN c<=256:=by
 unfold zeroC at h;simp only[XT,Vs]at h;have:c.Parts=[]:=(by simp_all);rw[QmJ,Qco,this];exact⟨rfl,by simp[cNs]⟩
theorem Qkd:∀(m:Nat) (l:List Step) (d:Nat),sZs l<=m->l.length<=1048576->(∀x∈l,Step.wf x)->sDs d l=true->sCs l<=256->Ev (λn=>F_i n l) (vaSs l):=by
 intro m
 induction m using Nat.strongRecOn with
 |_ m z=>
 intro l d hm hl L G hc;refine QJ ?_;show Ev (λn=>B_i (F_i n) n l) _;unfold B_i;have r:∀s∈l,sZ s<=sZs l/\sDp (d+1) s=true/\sC s<=sCs l:=by
  intro s;have:∀l:List Step,s∈l->sDs d l=true->sZ s<=sZs l/\sDp (d+1) s=true/\sC s<=sCs l:=by
   intro l
   induction l with
   |nil=>simp
   |cons y l z=>
    intro h G;simp only[sDs,XT]at G;rw[sZs,sCs]
    grind
  grind
 rw[Qie];have loop:Ev (λn=>iter (F_kb n l (F_i n)) n 0) (bif l.all vaS then Ctl.cont ()else Ctl.done false):=by
  refine YG l vaS _ _ (by omega) (λi s q=>?_) ?_
  .obtain⟨m1,w,Y⟩:=r s q.mem;obtain⟨M,⟨E,t⟩,⟨B,u⟩⟩:=Jj (L s q.mem);have P:=Qhq s;have k:=QfN s;rw[Qjs]at w;simp only[XT]at w;obtain⟨H,T,O⟩:=w;have g:cD 1 s.Cond=true/\cN s.Cond<=256:=by
    cases F:zeroC s.Cond with
    |true=>exact QmZ F
    |false=>
     rw[F]at H k;simp only[Vj]at k;exact⟨by simpa using H,by omega⟩
   unfold F_kb;simp only[q.lt,Vi,q.ix,XG,q.nx,Qgy];rw[Qn8];cases X:(s.Kind==1)with
   |true=>
    simp only[Vi];have e:Ev (λn:Nat=>((bif decide (s.By<1)then some true else(bif decide (5<s.By)then some true else(bif (!zeroC s.Cond)then some true else(bif ((s.Then.length:Int) != 0)then some true else some ((s.Else.length:Int) != 0))))):Option Bool)) (!(inR 1 5 s.By&&(zeroC s.Cond&&(((s.Then.length:Int)==0)&&((s.Else.length:Int)==0))))):=by
     refine(Ep λ_=>Ep λ_=>Ep λ_=>Ep λ_=>Qa _).eq ?_;unfold inR;cases zeroC s.Cond with
     |false=>simp
     |true=>
      rw[XU];simp only[Bool.or_eq_true,Vk,Bool.not_eq_true',Bool.and_eq_false_iff,decide_eq_false_iff_not,bne_iff_ne,ne_eq,Vt,Xh,Vu,Xj,false_or];omega
    cases p:(inR 1 5 s.By&&(zeroC s.Cond&&(((s.Then.length:Int)==0)&&((s.Else.length:Int)==0))))with
    |true=>rw[p]at e;exact Ea (Ea e (Qa _)) (Qa _)
    |false=>rw[p]at e;exact Ea (Ea e (Qa _)) (Qa _)
   |false=>
    simp only[Vj];cases h2:(s.Kind==2)with
    |true=>
     simp only[Vi];have e:Ev (λn=>((bif (s.By != 0)then some true else(F_cu n s.Cond).bind λj=>(bif (j != 0)then some true else(bif ((s.Then.length:Int)==0)then some true else(F_i n s.Then).bind λf=>(bif (!f)then some true else(F_i n s.Else).bind λa=>some (!a))))):Option Bool)) (!((s.By==0)&&(vaC s.Cond&&(decide (0<(s.Then.length:Int))&&(vaSs s.Then&&vaSs s.Else))))):=by
      have J:=z (sZs s.Then) (by omega) s.Then (d+1) (XQ _) E t T (by omega);have V:=z (sZs s.Else) (by omega) s.Else (d+1) (XQ _) B u O (by omega);have Q:Ev (λn=>(F_i n s.Else).bind λa=>some (!a)) (!vaSs s.Else):=Ea V (Qa _);have W:Ev (λn=>(F_i n s.Then).bind λf=>(bif (!f)then some true else(F_i n s.Else).bind λa=>some (!a))) (!vaSs s.Then|| !vaSs s.Else):=Ea J (Ep λ_=>Q);refine(Ep λ_=>Ea (Qly s.Cond M g.1 g.2) (Ep λ_=>Ep λ_=>W)).eq ?_;have R:((bif vaC s.Cond then(0:Int)else 71) != 0)= !vaC s.Cond:=by cases vaC s.Cond<;>rfl
      have N:((s.Then.length:Int)==0)= !decide (0<(s.Then.length:Int)):=by
       rw[XU];simp
      rw[R,N];simp only[Bool.not_and,bne]
     cases p:((s.By==0)&&(vaC s.Cond&&(decide (0<(s.Then.length:Int))&&(vaSs s.Then&&vaSs s.Else))))with
     |true=>rw[p]at e;exact Ea (Ea e (Qa _)) (Qa _)
     |false=>rw[p]at e;exact Ea (Ea e (Qa _)) (Qa _)
    |false=>exact Ea (Qa _) (Qa _)
  simp_all[F_kb,Qa]
 refine Ea loop ?_;cases l.all vaS<;>exact Qa _
theorem Qlr(l:List Step)(hl:l.length<=1048576)(g:∀x∈l,Step.wf x):Ev (λn=>F_hk n l) (tiesE l):=by
 obtain⟨a,b,i,t,u,_,_,j,p⟩:=Qqo _ l 0 (XQ _) (by omega) hl g;refine Ea i ?_;have k:goodT l=true↔goodL 0 l:=by
  unfold goodT goodL;simp
 unfold tiesE;cases f:goodT l with
 |false=>
  have:=p (λh=>by grind);have e:(bif decide (64<a)then some true else some (decide (256<b)))=some true:=by
   grind
  exact Ea (Ez e) (Qa _)
 |true=>
  have d:=k.1 f;obtain⟨w,s⟩:=j d;have r:=d.2.1;have q:=d.2.2;have e:(bif decide (64<a)then some true else some (decide (256<b)))=some false:=by
   grind
  refine Ea (Ez e) (Yf ?_);have m:((l.length:Int)==0)=l.isEmpty:=by
   cases l<;>simp;omega
  rw[m];refine Ea (Ep λ_=>Ea (Qkd _ l 0 (XQ _) hl g d.1 q) (Qa _)) ?_
  grind[Qa]
mutual
def hP:Part->Nat
 |⟨_,_,ps⟩=>bif ps.isEmpty then 0 else 1+hPs ps
def hPs:List Part->Nat
 |[]=>0
 |p::r=>max (hP p) (hPs r)
end
theorem QoI(p:Part):hP p=bif p.Parts.isEmpty then 0 else 1+hPs p.Parts:=by cases p;rfl
theorem Qmu{p:Part}:∀{l:List Part},p∈l->hP p<=hPs l
 |q::r,h=>by
  simp[hPs];rcases X0.1 h with rfl|h
  .omega
  .have:=Qmu h;omega
theorem Qf6{α:Type}(l:List α):((l.length:Int)==0)=l.isEmpty:=by
 cases l<;>simp;omega
theorem Jn:∀l:List Part,l.length<=szPs l
 |[]=>XQ _
 |p::r=>by have:=Jn r;rw[szPs,Y6,XW];omega
theorem Qe3:∀(m:Nat) (l:List Part) (k:Nat),szPs l<=m->k<=17->l.length<=1048576->(∀x∈l,Part.wf x)->Ev (λn=>F_v n l (k:Int)) ((min (hPs l) k:Nat):Int):=by
 intro m
 induction m using Nat.strongRecOn with
 |_ m s=>
 intro l k G F E j;refine QJ ?_;show Ev (λn=>B_v (F_v n) n l (k:Int)) _;unfold B_v;have loop:∀(r:List Part) (i:Nat) (a:Nat),l.drop i=r->i<=l.length->a<=k->EvI (λn=>F_dd n l (k:Int) (F_v n)) ((a:Int),(i:Int)) ((max a (min (hPs r) k):Nat):Int):=by
  intro r
  induction r with
  |nil=>
   intro i a f h d;refine Eh ?_;unfold F_dd;simp only[QO f h,Vj,XG];refine(Qa _).eq ?_;simp[hPs]
  |cons p r e=>
   intro i a f h y;obtain⟨d,g⟩:=Qt (by omega) f;obtain⟨u,q⟩:=Yv (j p d.mem);by_cases B:0<k
   .have z:i64.wrap ((k:Int)-1)=((k-1:Nat):Int):=by rw[QZ (by omega) (by omega)];omega
    have t:=JI d.mem;rw[Y6]at t;have step:Ev (λn=>F_dd n l (k:Int) (F_v n) ((a:Int),(i:Int))) (.cont (((max a (min (hP p) k):Nat):Int),((i+1:Nat):Int))):=by
     unfold F_dd;simp only[d.lt,Vi,YS (show(0:Int)<(k:Int)by omega),XG,d.ix,d.nx,z,bne,Qf6];rw[QoI];cases H:p.Parts.isEmpty with
     |true=>
      simp_all[Qa]
     |false=>
      simp only[Xi,Vi,Vj];refine Ea (Ea (s (szPs p.Parts) (by omega) p.Parts (k-1) (XQ _) (by omega) u q) (Qa _)) ((Qa _).eq ?_);have w:i64.wrap (1+((min (hPs p.Parts) (k-1):Nat):Int))=((1+min (hPs p.Parts) (k-1):Nat):Int):=by rw[QZ (by omega) (by omega)];omega
      rw[w];congr 2;split<;>omega
    refine(Et step (e (i+1) _ g (by have:=d.lt';omega) (by omega))).eq ?_;rw[hPs];omega
   simp_all[Eh,F_dd,Qa]
 refine Ea ((loop l 0 0 rfl (XR _) (XR _)).ev) ((Qa _).eq ?_);omega
theorem Qe4:∀(m:Nat) (l:List Part),szPs l<=m->l.length<=1048576->(∀x∈l,Part.wf x)->Ev (λn=>F_ao n l) ((min (szPs l) 257:Nat):Int):=by
 intro m
 induction m using Nat.strongRecOn with
 |_ m y=>
 intro l F s u;refine QJ ?_;show Ev (λn=>B_ao (F_ao n) n l) _;have loop:∀(r:List Part) (i:Nat) (a:Nat),l.drop i=r->i<=l.length->a<=1048576->∃b:Nat,EvI (λn=>F_hf n l (F_ao n)) ((a:Int),(i:Int)) (b:Int)/\min b 257=min (a+(szPs r-r.length)) 257:=by
  intro r
  induction r with
  |nil=>
   intro i a g k _;refine⟨a,Eh ?_,by simp[szPs]⟩;unfold F_hf;simp only[QO g k,Vj,XG];exact Qa _
  |cons p r f=>
   intro i a g k E;obtain⟨d,h⟩:=Qt (by omega) g;obtain⟨B,w⟩:=Yv (u p d.mem);have z:=JI d.mem;rw[Y6]at z;have t:=Jn r;by_cases q:a<=256
   .obtain⟨b,e,j⟩:=f (i+1) (a+min (szPs p.Parts) 257) h (by have:=d.lt';omega) (by omega);refine⟨b,Et ?_ e,?_⟩
    .unfold F_hf;simp only[d.lt,Vi,YS (show(a:Int)<=256 by omega),XG,d.ix,d.nx];refine Ea (y (szPs p.Parts) (by omega) p.Parts (XQ _) B w) ((Qa _).eq ?_);rw[QZ (by omega) (by omega)];congr 2
     all_goals omega
    .rw[j,szPs,Y6,XW];omega
   .refine⟨a,Eh ?_,by omega⟩;unfold F_hf;simp only[d.lt,Vi,YU (show¬(a:Int)<=256 by omega),XG,Vj];exact Qa _
 obtain⟨b,e,j⟩:=loop l 0 l.length rfl (XR _) s;refine Ea e.ev ((Qa _).eq ?_);have:=Jn l;omega
theorem Qo7:∀(m:Nat) (l:List Part) (k:Nat),szPs l<=m->hPs l<=k->k<=17->szPs l<=256->(∀x∈l,Part.wf x)->Ev (λn=>F_f n l (k:Int)) ((hPs l:Int),(szPs l:Int)):=by
 intro m
 induction m using Nat.strongRecOn with
 |_ m J=>
 intro l k Q P s e y;have u:=Jn l;refine QJ ?_;show Ev (λn=>B_f (F_f n) n l (k:Int)) _;unfold B_f;have loop:∀(r:List Part) (i:Nat) (a b:Nat),l.drop i=r->i<=l.length->a<=17->b+(szPs r-r.length)<=256->EvI (λn=>F_bc n l (k:Int) (F_f n)) ((a:Int),(b:Int),(i:Int)) (((max a (hPs r):Nat):Int),((b+(szPs r-r.length):Nat):Int)):=by
  intro r
  induction r with
  |nil=>
   intro i a b h t _ _;refine Eh ?_;unfold F_bc;simp only[QO h t,Vj,XG]
   grind[Qa,hPs,szPs]
  |cons p r j=>
   intro i a b h t G f;obtain⟨d,q⟩:=Qt (by omega) h;obtain⟨R,H⟩:=Yv (y p d.mem);have z:=JI d.mem;have g:=Qmu d.mem;rw[Y6]at z;have N:=Jn r;rw[szPs,Y6,XW]at f;have step:Ev (λn=>F_bc n l (k:Int) (F_f n) ((a:Int),(b:Int),(i:Int))) (.cont (((max a (hP p):Nat):Int),((b+szPs p.Parts:Nat):Int),((i+1:Nat):Int))):=by
    unfold F_bc;simp only[d.lt,Vi,d.ix,XG,d.nx,Qf6];rw[QoI]at g⊢;cases w:p.Parts.isEmpty with
    |true=>
     have F:p.Parts=[]:=by simpa using w
     simp only[Vi,XG];rw[F];simp only[szPs,Xv,Nat.max_zero];exact Qa _
    |false=>
     rw[w]at g;simp only[Vj]at g⊢;have M:0<k:=by omega
     have L:i64.wrap ((k:Int)-1)=((k-1:Nat):Int):=by rw[QZ (by omega) (by omega)];omega
     have B:((k:Int)==0)=false:=beq_false_of_ne (by omega);rw[B,YU (show¬(256:Int)<(b:Int)by omega),L];simp only[Vj,XG];refine Ea (Ea (J (szPs p.Parts) (by omega) p.Parts (k-1) (XQ _) (by omega) (by omega) (by omega) H) (Qa _)) ((Qa _).eq ?_);have O:i64.wrap ((hPs p.Parts:Int)+1)=((hPs p.Parts+1:Nat):Int):=Yh (by omega);have E:i64.wrap ((b:Int)+(szPs p.Parts:Int))=((b+szPs p.Parts:Nat):Int):=by rw[QZ (by omega) (by omega)];omega
     simp only[O,E];congr 2;split<;>omega
   refine(Et step (j (i+1) _ _ q (by have:=d.lt';omega) (by omega) (by omega))).eq ?_;rw[hPs,szPs,Y6,XW];congr 1<;>omega
 refine Ea ((loop l 0 0 l.length rfl (XR _) (by omega) (by omega)).ev) ((Qa _).eq ?_)
 grind
def repS:Nat->List Int->List Int->List Int
 |0,out,_=>out
 |k+1,out,lap=>if 256<out.length then out else repS k (out++lap) lap
mutual
def lapS:Part->List Int
 |⟨m,laps,ps⟩=>bif decide (0<laps)then expS [] ps else[m]
def expS:List Int->List Part->List Int
 |out,[]=>out
 |out,p::r=>expS (repS (p.Laps.toNat+(bif decide (0<p.Laps)then 0 else 1)) out (lapS p)) r
end
theorem QcD(p:Part):lapS p=bif decide (0<p.Laps)then expS [] p.Parts else[p.Mat]:=by cases p;rfl
theorem Qdy{k:Nat}{a d:List Int}(h:256<a.length):repS k a d=a:=by
 cases k with
 |zero=>rfl
 |succ k=>rw[repS,Vm h]
theorem Qgw:∀(l:List Part) {out:List Int},256<out.length->expS out l=out
 |[],out,h=>by rw[expS]
 |p::r,out,h=>by rw[expS,Qdy h];exact Qgw r h
theorem Qdx:∀(k:Nat) (out lap:List Int),(repS k out lap).length<=max out.length (256+lap.length)
 |0,out,lap=>by rw[repS];omega
 |k+1,out,lap=>by
  rw[repS];split
  .omega
  .have:=Qdx k (out++lap) lap
   grind
theorem Qgv:∀(m:Nat) (l:List Part) (a:List Int),szPs l<=m->(expS a l).length<=max a.length (256+257*szPs l):=by
 intro m
 induction m using Nat.strongRecOn with
 |_ m h=>
 intro l;have e:∀p∈l,szPs l<=m->(lapS p).length<=257*szP p:=by
  intro p j n;have s:=JI j;rw[QcD,Y6]at*;cases decide (0<p.Laps)with
  |true=>
   have:=h (szPs p.Parts) (by omega) p.Parts [] (XQ _)
   grind
  |false=>simp;omega
 have g:∀(r:List Part) (a:List Int),(∀p∈r,(lapS p).length<=257*szP p)->(expS a r).length<=max a.length (256+257*szPs r):=by
  intro r
  induction r with
  |nil=>intro a _;rw[expS];omega
  |cons p r d=>
   intro a f;rw[expS,szPs];have k:=d (repS (p.Laps.toNat+(bif decide (0<p.Laps)then 0 else 1)) a (lapS p)) λq i=>f q (by simp[i])
   grind[Qdx]
 grind
theorem QjP(p:Part):(lapS p).length<=257*szP p:=by
 rw[QcD,Y6];cases decide (0<p.Laps)with
 |true=>
  have:=Qgv _ p.Parts [] (XQ _)
  grind
 |false=>simp;omega
theorem Qns(kk:Int):∀(m:Nat) (l:List Part),szPs l<=m->szPs l<=256->l.length<=1048576->(∀x∈l,Part.wf x)->partsS kk l=true->Ev (λn=>F_z n l) (expS [] l):=by
 intro m
 induction m using Nat.strongRecOn with
 |_ m Y=>
 intro l hm G hl R O;rw[Qbo,Xs]at O;refine QJ ?_;show Ev (λn=>B_z (F_z n) n l) _;unfold B_z;have inner:∀(p:Part) (e:List Int) (g:p.Laps=0\/0<p.Laps/\p.Laps<=64) (E:e.length<=100000) (j:Nat) (k:Nat) (a:List Int),j+k=p.Laps.toNat+(bif decide (0<p.Laps)then 0 else 1)->a.length<=200000->
   ∃d:Ctl (List Int) (Ctl ((List Int)×Int) (Ctl (List Int) (List Int))),EvI (λn=>F_gc n p e) (a,(j:Int)) d/\
    (d=.cont (repS k a e)\/(256<(repS k a e).length/\d=.done (.done (.done (repS k a e))))):=by
  intro p e g E j k
  induction k generalizing j with
  |zero=>
   intro a B _;refine⟨_,Eh (b:=.cont a) ?_,.inl rfl⟩;unfold F_gc;have:¬((j:Int)<if p.Laps<1 then 1 else p.Laps):=by
    grind
   rw[YU this];exact Qa _
  |succ k M=>
   intro a B z;have t:((j:Int)<if p.Laps<1 then 1 else p.Laps):=by
    rcases g with h|⟨h,h'⟩
    .rw[h]at B⊢;simp at B⊢;omega
    .rw[YS h]at B;simp at B;rw[Vl (by omega)];omega
   by_cases u:256<a.length
   .refine⟨_,Eh (b:=.done (.done (.done a))) ?_,.inr ⟨by rw[Qdy u];exact u,by rw[Qdy u]⟩⟩;unfold F_gc;rw[YS t,YS (show(256:Int)<(a.length:Int)by omega)];exact Qa _
   .obtain⟨d,q,w⟩:=M (j+1) (a++e) (by omega) (by rw[XY];omega);refine⟨d,Et ?_ q,by rw[repS,Vl u];exact w⟩;unfold F_gc;rw[YS t,YU (show¬(256:Int)<(a.length:Int)by omega)];refine QmV (Yf (J5 (QdZ a e (by omega)) ?_));rw[Yh (by omega)];exact Qa _
 have loop:∀(r:List Part) (i:Nat) (a:List Int),l.drop i=r->i<=l.length->a.length<=100000->
   ∃d:Ctl (List Int) (List Int),EvI (λn=>F_gy n l (F_z n)) (a,(i:Int)) d/\(d=.cont (expS a r)\/d=.done (expS a r)):=by
  intro r
  induction r with
  |nil=>
   intro i a H P _;refine⟨.cont a,Eh ?_,.inl (by rw[expS])⟩;unfold F_gy;simp only[QO H P,Vj];exact Qa _
  |cons p r L=>
   intro i a H P z;obtain⟨f,N⟩:=Qt (by omega) H;have t:=f.lt';have T:=JI f.mem;obtain⟨W,X⟩:=Yv (R p f.mem);have g:=O p f.mem;rw[Qce]at g;have s:p.Laps=0\/0<p.Laps/\p.Laps<=64:=by
    cases Q:(p.Laps==0)with
    |true=>exact .inl (by simpa using Q)
    |false=>
     rw[Q]at g;simp only[Vj,inR,XT,Vk]at g;exact .inr ⟨by omega,by omega⟩
   have aa:=QjP p;have u:Ev (λn=>((bif decide (0<p.Laps)then(F_z n p.Parts).bind λJ=>some J else some [p.Mat]):Option (List Int))) (lapS p):=by
    rw[QcD];refine QbZ (λh=>?_) (λ_=>Qa _);rw[Y6]at T;refine Ea (Y (szPs p.Parts) (by omega) p.Parts (XQ _) (by omega) W X ?_) (Qa _);have:(p.Laps==0)=false:=by
     simp only[Vk]at h;exact beq_false_of_ne (by omega)
    rw[this]at g;simp only[Vj,XT]at g;exact g.2.2.2
   obtain⟨d,q,w⟩:=inner p (lapS p) s (by omega) 0 _ a (Xu _) (by omega);rw[expS];rcases w with rfl|⟨y,rfl⟩
   .obtain⟨F,V,q2⟩:=L (i+1) (repS (p.Laps.toNat+(bif decide (0<p.Laps)then 0 else 1)) a (lapS p)) N (by omega) (by
     have:=Qdx (p.Laps.toNat+(bif decide (0<p.Laps)then 0 else 1)) a (lapS p);omega)
    refine⟨F,Et ?_ V,q2⟩;unfold F_gy;simp only[f.lt,Vi,f.ix,XG,f.nx];exact Ea u (Ea q.ev (Qa _))
   .refine⟨.done (repS (p.Laps.toNat+(bif decide (0<p.Laps)then 0 else 1)) a (lapS p)),Eh ?_,.inr (by rw[Qgw r y])⟩;unfold F_gy;simp only[f.lt,Vi,f.ix,XG,f.nx];exact Ea u (Ea q.ev (Qa _))
 obtain⟨d,q,w⟩:=loop l 0 [] rfl (XR _) (by simp);rcases w with rfl|rfl
 iterate 2 exact Ea q.ev (Qa _)
theorem QiJ(T:Int):∀(m:Nat) (l:List Part),szPs l<=m->szPs l<=256->l.length<=1048576->(∀x∈l,Part.wf x)->partsS T l=true->Ev (λn=>F_ag n l) (expS [] l):=by
 intro m
 induction m using Nat.strongRecOn with
 |_ m R=>
 intro l X t W L F;rw[Qbo,Xs]at F;refine QJ ?_;show Ev (λn=>B_ag (F_ag n) n l) _;unfold B_ag;have inner:∀(p:Part) (i:Nat) (e:At l i p) (J:List Int) (f:List Int) (g:0<p.Laps/\p.Laps<=64) (s:f.length<=100000) (j:Nat) (k:Nat) (a:List Int),j+k=p.Laps.toNat->a.length<=200000->
   EvI (λn=>F_fc n l (J,(i:Int)) f) (a,(j:Int)) (repS k a f):=by
  intro p i e J f g s j k
  induction k generalizing j with
  |zero=>
   intro a V _;refine Eh ?_;unfold F_fc;simp only[e.ix,XG];rw[YU (show¬(j:Int)<p.Laps by omega)];exact Qa _
  |succ k z=>
   intro a V h;by_cases q:256<a.length
   .refine Eh ?_;rw[Qdy q];unfold F_fc;simp only[e.ix,XG];rw[YS (show(j:Int)<p.Laps by omega),YU (show¬(a.length:Int)<=256 by omega)];exact Qa _
   .rw[repS,Vl q];refine Et ?_ (z (j+1) (a++f) (by omega) (by rw[XY];omega));unfold F_fc;simp only[e.ix,XG];rw[YS (show(j:Int)<p.Laps by omega),YS (show(a.length:Int)<=256 by omega)];simp only[Vi,XG];refine J5 (QdZ a f (by omega)) ?_;rw[Yh (by omega)];exact Qa _
 have loop:∀(r:List Part) (i:Nat) (a:List Int),l.drop i=r->i<=l.length->a.length<=100000->
   EvI (λn=>F_hi n l (F_ag n)) (a,(i:Int)) (expS a r):=by
  intro r
  induction r with
  |nil=>
   intro i a w G _;refine Eh ?_;rw[expS];unfold F_hi;simp only[QO w G,Vj,XG];exact Qa _
  |cons p r y=>
   intro i a w G h;obtain⟨e,B⟩:=Qt (by omega) w;have O:=e.lt';have M:=JI e.mem;by_cases q:256<a.length
   .rw[Qgw _ q];refine Eh ?_;unfold F_hi;simp only[e.lt,Vi,YU (show¬(a.length:Int)<=256 by omega),XG,Vj];exact Qa _
   obtain⟨P,Q⟩:=Yv (L p e.mem);have g:=F p e.mem;rw[Qce]at g;have E:=QjP p;rw[expS];refine Et ?_ (y (i+1) _ B (by omega) (by
    have:=Qdx (p.Laps.toNat+(bif decide (0<p.Laps)then 0 else 1)) a (lapS p);omega))
   unfold F_hi;simp only[e.lt,Vi,YS (show(a.length:Int)<=256 by omega),XG,e.ix,e.nx];cases H:(p.Laps==0)with
   |true=>
    have N:p.Laps=0:=by simpa using H
    simp only[Vi];refine Ea (J5 (QdZ a [p.Mat] (by simp;omega)) (Qa _)) ((Qa _).eq ?_);rw[QcD,N];simp[repS,q]
   |false=>
    rw[H]at g;simp only[Vj,XT,inR,Vk]at g;have d:0<p.Laps/\p.Laps<=64:=⟨by omega,by omega⟩;simp only[Vj];rw[Y6]at M;refine Ea (Ea (R (szPs p.Parts) (by omega) p.Parts (XQ _) (by omega) P Q g.2.2.2) (Ea ?_ (Qa _))) (Qa _);have u:=QcD p;rw[YS d.1,Vi]at u;have:=(inner p i e a (expS [] p.Parts) d (by rw[<- u];rw[Y6]at E;omega) 0 p.Laps.toNat a (by omega) (by omega)).ev;rw[<- u]at this⊢;rw[YS d.1];exact this
 exact Ea (loop l 0 [] rfl (XR _) (by simp)).ev (Qa _)
def kindAt(c:Course)(m:Int):Int:=((c.Mats[m.toNat]?).map (·.Kind)).getD 0
def hasLeg(c:Course)(a b:Int):Bool:=c.Legs.any λl=>(l.From==a)&&(l.To==b)
def rokS(c:Course)(len:Nat):Nat->Int->List Int->Bool
 |_,_,[]=>true
 |i,prev,m::r=>((kindAt c m==1)==decide (i=0))&&(((kindAt c m==3)==decide (i+1=len))&&((decide (i=0)||hasLeg c prev m)&&rokS c len (i+1) m r))
def routeR(c:Course)(d:Distance)(r:List Int):Bool:=
 (decide (2<=r.length)&&decide (r.length<=256))&&(rokS c r.length 0 0 r&&((bif decide (0<=d.Extra)then !((r.count d.Extra:Int)==0)&&((kindAt c d.Extra==2)&&hasLeg c d.Extra d.Extra)else true)&&d.Cutoffs.all λx=>decide (x.Lap<=(r.count x.Mat:Int))))
def routeS(c:Course)(d:Distance):Bool:=routeR c d (expS [] d.Route)
def cntM(l:List Int):List (Int×Int):=l.foldl (λm k=>Yk m k (Qy m k 0+1)) []
theorem QnB(l:List Int)(k:Int):cntM (l++[k])=Yk (cntM l) k (Qy (cntM l) k 0+1):=by unfold cntM;simp
theorem QgO(l:List Int)(k:Int):Qy (cntM l) k 0=(l.count k:Int):=by
 have a:∀(l:List Int) (m:List (Int×Int)),Qy (l.foldl (λm k=>Yk m k (Qy m k 0+1)) m) k 0=Qy m k 0+l.count k:=by
  intro l
  induction l with
  |nil=>simp
  |cons x l d=>
   grind[Qc8]
 grind[cntM,QhC]
theorem Qlb(d:Int):∀(m:Nat) (l:List Part) (a:List Int),szPs l<=m->partsS d l=true->(∀x∈a,0<=x/\x<=d)->∀x∈expS a l,0<=x/\x<=d:=by
 intro m
 induction m using Nat.strongRecOn with
 |_ m w=>
 intro l;have i:∀(k:Nat) (a e:List Int),(∀x∈a,0<=x/\x<=d)->(∀x∈e,0<=x/\x<=d)->∀x∈repS k a e,0<=x/\x<=d:=by
  intro k
  induction k with
  |zero=>intro a e s _;exact s
  |succ k z=>
   grind[repS]
 have t:∀(r:List Part) (a:List Int),szPs r<=m->partsS d r=true->(∀x∈a,0<=x/\x<=d)->∀x∈expS a r,0<=x/\x<=d:=by
  intro r
  induction r with
  |nil=>intro a _ _ h;exact h
  |cons p r j=>
   intro a u q h;rw[szPs,Y6]at u;rw[partsS,XT]at q;obtain⟨f,y⟩:=q;refine j _ (by omega) y (i _ _ _ h ?_);rw[QcD];rw[Qce]at f;cases g:(p.Laps==0)with
   |true=>
    have e0:=by simpa using g
    rw[g,Vi,XT]at f;have:=f.1;unfold inR at this;simp[XT,Vk]at this;rw[e0];intro x n;simp at n;subst n;exact this
   |false=>
    rw[g]at f;simp[Vj,XT,inR,Vk]at f;rw[YS (show 0<p.Laps by omega),Vi];exact w (szPs p.Parts) (by omega) p.Parts [] (XQ _) f.2.2.2 (by simp)
 grind
theorem QdF{c:Course}{m:Int}(h0:0<=m)(d:m<=(c.Mats.length:Int)-1):∃x:Mat,idx c.Mats m=some x/\x.Kind=kindAt c m:=by
 obtain⟨k,rfl⟩:∃k:Nat,m=k:=⟨m.toNat,by omega⟩;have a:k<c.Mats.length:=by omega
 simp_all[YX,kindAt]
theorem QjM(c:Course)(a b:Int):Qy (Ye legKey true c.Legs) {from_:=a,to_:=b} false=hasLeg c a b:=by
 rw[Qan];by_cases h:{from_:=a,to_:=b}∈c.Legs.map legKey
 .rw[Vm h];obtain⟨l,d,e⟩:=Xf.1 h;obtain⟨g,f⟩:=ends_eq.1 e;exact(Xt.2 ⟨l,d,by simp[g,f]⟩).symm
 .rw[Vl h]
  symm
  rw[VG];intro q;obtain⟨l,d,e⟩:=Xt.1 q;simp[XT,Vs]at e
  grind[legKey]
theorem Qpa(c:Course)(w:CourseOk c)(a b:Int):∃v:Int,Ev (λn=>F_bg n c a b) v/\decide (v<0)= !hasLeg c a b:=by
 have p:c.Legs.length<=4611686018427387904:=by have:=w.legs;omega
 have step:∀i x,At c.Legs i x->Ev (λn=>F_fo n c a b i) (bif (x.From==a)&&(x.To==b)then .done (.done i)else .cont (i+1)):=by
  intro i x e;unfold F_fo;simp only[e.lt,e.ix,e.nx];refine Ea (Ql λ_=>Qa _) ?_
  grind[Qa]
 have loop:∀(r:List Leg) (i:Nat),c.Legs.drop i=r->i<=c.Legs.length->∃d:Ctl Unit Int,EvI (λn=>F_fo n c a b) i d/\((r.any λl=>(l.From==a)&&(l.To==b))=true->∃j:Nat,d=.done j)/\((r.any λl=>(l.From==a)&&(l.To==b))=false->d=.cont ()):=by
  intro r
  induction r with
  |nil=>
   intro i m q;refine⟨.cont (),Eh ?_,λh=>(by simp at h),λ_=>rfl⟩
   grind[F_fo,QO,Qa]
  |cons x r t=>
   intro i m q;obtain⟨e,k⟩:=Qt p m;have s:=step i x e;rw[List.any_cons];cases h:((x.From==a)&&(x.To==b))with
   |true=>
    rw[h]at s;exact⟨.done i,Eh s,λ_=>⟨i,rfl⟩,λh=>by simp at h⟩
   |false=>
    rw[h]at s;obtain⟨d,f,g⟩:=t (i+1) k (by have:=e.lt';omega);exact⟨d,Et s f,by simpa using g⟩
 obtain⟨d,f,g,u⟩:=loop c.Legs 0 rfl (XR _);unfold hasLeg;cases h:c.Legs.any λl=>(l.From==a)&&(l.To==b)with
 |true=>
  obtain⟨j,rfl⟩:=g h;exact⟨j,Ea f.ev (Qa _),by simp⟩
 |false=>
  obtain rfl:=u h;exact⟨-1,Ea f.ev (Qa _),by simp⟩
theorem Qkj(l:List Int)(k:Int)(hl:l.length<=1048576):Ev (λn=>F_bj n l k) (l.count k:Int):=by
 have loop:∀(r:List Int) (i:Nat) (a:Nat),l.drop i=r->i<=l.length->a<=i->EvI (λn=>F_ic n l k) (a,i) (a+r.count k):=by
  intro r
  induction r with
  |nil=>
   grind[EvI.done,F_ic,QO,Qa]
  |cons x r f=>
   intro i a j q g;obtain⟨d,e⟩:=Qt (by omega) j;have m:=d.lt';have p:i64.wrap (a+1)=a+1:=Yh (by omega);rw[List.count_cons];cases h:(x==k)with
   |true=>
    refine(Et ?_ (f (i+1) (a+1) e (by omega) (by omega))).eq ?_
    .unfold F_ic;simp only[d.lt,d.ix,XG,d.nx,h,p];exact Qa _
    grind
   |false=>
    refine(Et ?_ (f (i+1) a e (by omega) (by omega))).eq ?_
    .unfold F_ic;simp only[d.lt,d.ix,XG,d.nx,h];exact Qa _
    .simp
 exact Ea ((loop l 0 0 rfl (XR _) (XQ _)).ev) ((Qa _).eq (by omega))
structure NumOk (c:Course):Prop where
 kinds:∀m∈c.Mats,1<=m.Kind/\m.Kind<=3
 dist:∀d∈c.Distances,-1<=d.Extra/\d.Extra<=(c.Mats.length:Int)-1/\partsS ((c.Mats.length:Int)-1) d.Route=true
theorem QkP{c:Course}(h:numbersS c=true):NumOk c:=by
 unfold numbersS at h;simp[XT,Xs]at h;refine⟨λm a=>?_,λd e=>?_⟩
 .grind[inR]
 simp_all[distS,inR]
theorem Qnf{c:Course}(q:NumOk c){m:Int}(h0:0<=m)(a:m<=(c.Mats.length:Int)-1):1<=kindAt c m/\kindAt c m<=3:=by
 obtain⟨x,d,f⟩:=QdF h0 a;have:=by
  obtain⟨_,e⟩:=Qae d;exact VB e
 rw[<- f];exact q.kinds x this
theorem QoZ{c:Course}(q:NumOk c){d:Distance}(hd:d∈c.Distances):∀x∈expS [] d.Route,0<=x/\x<=(c.Mats.length:Int)-1:=
 Qlb _ _ d.Route [] (XQ _) (q.dist d hd).2.2 (by simp)
theorem Qjx(c:Course)(len i:Nat)(prev m:Int)(r:List Int):rokS c len i prev (m::r)=(((kindAt c m==1)==decide (i=0))&&(((kindAt c m==3)==decide (i+1=len))&&((decide (i=0)||hasLeg c prev m)&&rokS c len (i+1) m r))):=rfl
theorem Qmo(i:Nat):((i:Int)==0)=decide (i=0):=by
 grind
theorem Qhc(c:Course)(r:List Int)(N:2<=r.length)(R:r.length<=256)(G:∀x∈r,0<=x/\x<=(c.Mats.length:Int)-1):
  Ev (λn=>iter (F_dw n c (Ye legKey true c.Legs) r) n ([],0)) (bif rokS c r.length 0 0 r then .cont (cntM r)else .done false):=by
 have loop:∀(t:List Int) (i:Nat) (d:Int),r.drop i=t->i<=r.length->(0<i->At r (i-1) d)->EvI (λn=>F_dw n c (Ye legKey true c.Legs) r) (cntM (r.take i),(i:Int)) (bif rokS c r.length i d t then .cont (cntM r)else .done false):=by
  intro t
  induction t with
  |nil=>
   intro i d g u _;refine Eh ?_;unfold F_dw;simp only[QO g u,Vj,rokS,Vi]
   simp_all[VC,Qa]
  |cons m t L=>
   intro i d g u Q;obtain⟨e,q⟩:=Qt (by omega) g;have H:=e.lt';obtain⟨J,y⟩:=G m e.mem;obtain⟨x,M,B⟩:=QdF J y;have P:i64.wrap ((r.length:Int)-1)=((r.length-1:Nat):Int):=by rw[QZ (by omega) (by omega)];omega
   have E:((i:Int)==((r.length-1:Nat):Int))=decide (i+1=r.length):=by grind
   have F:Ev (λn:Nat=>((bif ((x.Kind==1) != ((i:Int)==0))then some true else(bif ((x.Kind==3) != ((i:Int)==(i64.wrap ((r.length:Int)-1))))then some true else(bif decide (0<(i:Int))then(idx r (i64.wrap ((i:Int)-1))).bind λj=>(some (Qy (Ye legKey true c.Legs) ({from_:=j,to_:=m:Ue}) false)).bind λk=>some (!k)else some false))):Option Bool))
     (!(((kindAt c m==1)==decide (i=0))&&(((kindAt c m==3)==decide (i+1=r.length))&&(decide (i=0)||hasLeg c d m)))):=by
    rw[B,P,E,Qmo];refine Er (Ep λ_=>Ep λ_=>QbZ (v:= !hasLeg c d m) (w:=false) (λh=>?_) λ_=>Qa _) ?_
    .have p:0<i:=by simpa using h
     have z:i64.wrap ((i:Int)-1)=((i-1:Nat):Int):=by rw[QZ (by omega) (by omega)];omega
     rw[z,(Q p).ix];simp only[XG,QjM];exact Qa _
    grind
   have f:i64.wrap (Qy (cntM (r.take i)) m 0+1)=Qy (cntM (r.take i)) m 0+1:=by
    rw[QgO];have:(r.take i).count m<=i:=by have:=List.count_le_length (a:=m) (l:=r.take i);simp at this;omega
    exact QZ (by omega) (by omega)
   have step:Ev (λn=>F_dw n c (Ye legKey true c.Legs) r (cntM (r.take i),(i:Int))) (bif ((kindAt c m==1)==decide (i=0))&&(((kindAt c m==3)==decide (i+1=r.length))&&(decide (i=0)||hasLeg c d m))then .cont (cntM (r.take (i+1)),((i+1:Nat):Int))else .done (.done false)):=by
    unfold F_dw;simp only[e.lt,Vi,e.ix,XG,e.nx,M];refine Ea F ?_;rw[f, <- QnB, <- e.take];cases(((kindAt c m==1)==decide (i=0))&&(((kindAt c m==3)==decide (i+1=r.length))&&(decide (i=0)||hasLeg c d m)))<;>exact Qa _
   have O:rokS c r.length i d (m::t)=((((kindAt c m==1)==decide (i=0))&&(((kindAt c m==3)==decide (i+1=r.length))&&(decide (i=0)||hasLeg c d m)))&&rokS c r.length (i+1) m t):=by rw[Qjx];simp only[Bool.and_assoc]
   rw[O];cases s:(((kindAt c m==1)==decide (i=0))&&(((kindAt c m==3)==decide (i+1=r.length))&&(decide (i=0)||hasLeg c d m)))with
   |false=>
    rw[s]at step;exact Eh step
   |true=>
    rw[s]at step;rw[Vu];exact Et step (L (i+1) m q (by omega) (λ_=>by simpa using e))
 exact(loop r 0 0 rfl (XR _) (by omega)).ev
theorem QlA(c:Course)(w:CourseOk c)(q:NumOk c)(d:Distance)(e:d∈c.Distances)(p:∀x∈d.Route,Part.wf x)(t:szPs d.Route<=256):
  Ev (λn=>F_ds n c d (Ye legKey true c.Legs)) (routeS c d):=by
 have k:=Jn d.Route;have j:=QoZ q e;have a:=Qgv _ d.Route [] (XQ _);unfold F_ds routeS;refine Ea (Qns _ _ d.Route (XQ _) t (by omega) p (q.dist d e).2.2) ?_;generalize expS [] d.Route=r at j a⊢;unfold routeR;have e3:=by
  have:r.length<=1048576:=by simp at a;omega
  exact QaM this
 rw[e3];have s:(decide ((r.length:Int)-1<1)||decide (256<=(r.length:Int)-1))= !(decide (2<=r.length)&&decide (r.length<=256)):=by
  grind
 refine Ea (Er (Ep λ_=>Qa _) s) ?_;cases h:(decide (2<=r.length)&&decide (r.length<=256))with
 |false=>exact Qa _
 |true=>
  simp[XT,Vk]at h;refine Yf (Ea (Qhc c r h.1 h.2 j) ?_);cases rokS c r.length 0 0 r with
  |false=>exact Qa _
  |true=>
   have m:Ev (λn=>(bif decide (0<=d.Extra)then(some (Qy (cntM r) d.Extra 0)).bind λf=>(bif (f==0)then some true else(idx c.Mats d.Extra).bind λg=>(bif (g.Kind != 2)then some true else(some (Qy (Ye legKey true c.Legs) ({from_:=d.Extra,to_:=d.Extra:Ue}) false)).bind λi=>some (!i)))else some false))
     (!(bif decide (0<=d.Extra)then !((r.count d.Extra:Int)==0)&&((kindAt c d.Extra==2)&&hasLeg c d.Extra d.Extra)else true)):=by
    rw[QgO];cases l:decide (0<=d.Extra)with
    |false=>exact Qa _
    |true=>
     obtain⟨x,y,u⟩:=QdF (by simpa using l) (q.dist d e).2.1;simp only[XG,y,QjM,u];refine Er (Ep λ_=>Ep λ_=>Qa _) ?_;rw[bne];cases((r.count d.Extra:Int)==0)<;>cases(kindAt c d.Extra==2)<;>cases hasLeg c d.Extra d.Extra<;>rfl
   refine Ea m ?_;cases(bif decide (0<=d.Extra)then !((r.count d.Extra:Int)==0)&&((kindAt c d.Extra==2)&&hasLeg c d.Extra d.Extra)else true)with
   |false=>exact Qa _
   |true=>
    refine Yf (Ea ?_ (Qa _));refine JL d.Cutoffs _ (λn x=>F_dy n x (cntM r)) (by have:=w.cut d e;omega) λx _=>?_;unfold F_dy;rw[QgO];exact Qa _
theorem QgB(c:Course)(w:CourseOk c)(q:NumOk c)(r:List Int)(P:2<=r.length)(X:r.length<=256)(L:∀x∈r,0<=x/\x<=(c.Mats.length:Int)-1):
  Ev (λn=>iter (F_cq n c r) n 0) (bif rokS c r.length 0 0 r then .cont ()else .done false):=by
 have loop:∀(t:List Int) (i:Nat) (a:Int),r.drop i=t->i<=r.length->(0<i->At r (i-1) a)->EvI (λn=>F_cq n c r) (i:Int) (bif rokS c r.length i a t then .cont ()else .done false):=by
  intro t
  induction t with
  |nil=>
   intro i a j z _;refine Eh ?_;unfold F_cq;simp only[QO j z,Vj,rokS,Vi];exact Qa _
  |cons m t N=>
   intro i a j z T;obtain⟨f,s⟩:=Qt (by omega) j;have M:=f.lt';obtain⟨B,u⟩:=L m f.mem;obtain⟨x,O,G⟩:=QdF B u;have W:=Qnf q B u;have R:i64.wrap ((r.length:Int)-1)=((r.length-1:Nat):Int):=by rw[QZ (by omega) (by omega)];omega
   have H:((i:Int)==((r.length-1:Nat):Int))=decide (i+1=r.length):=by grind
   have step:Ev (λn=>F_cq n c r (i:Int)) (bif ((kindAt c m==1)==decide (i=0))&&(((kindAt c m==3)==decide (i+1=r.length))&&(decide (i=0)||hasLeg c a m))then .cont ((i+1:Nat):Int)else .done (.done false)):=by
    unfold F_cq;simp only[f.lt,Vi,f.ix,XG,f.nx,O,G,R,H,Qmo];refine Ea (v:=if i=0 then 1 else if i+1=r.length then 3 else 2) (Ez ?_) ?_
    .by_cases e:i=0
     .simp[e]
     .by_cases h:i+1=r.length
      iterate 2 simp[e,h]
    refine Ea (v:= !(((kindAt c m==1)==decide (i=0))&&(((kindAt c m==3)==decide (i+1=r.length))&&(decide (i=0)||hasLeg c a m)))) ?_ ?_
    .have J:Ev (λn:Nat=>(bif decide (0<(i:Int))then(idx r (i64.wrap ((i:Int)-1))).bind λl=>(F_bg n c l m).bind λp=>some (decide (p<0))else some false:Option Bool)) (!(decide (i=0)||hasLeg c a m)):=by
      by_cases e:i=0
      .subst e;exact Qa _
      .have V:i64.wrap ((i:Int)-1)=((i-1:Nat):Int):=by rw[QZ (by omega) (by omega)];omega
       obtain⟨v,E,F⟩:=Qpa c w a m;rw[YS (show(0:Int)<(i:Int)by omega),V,(T (by omega)).ix,YU e];exact Ea E ((Qa _).eq (by rw[F];rfl))
     refine Er (Ep λ_=>J) ?_;have k:(kindAt c m != if i=0 then 1 else if i+1=r.length then 3 else 2)= !(((kindAt c m==1)==decide (i=0))&&((kindAt c m==3)==decide (i+1=r.length))):=by
      have d:kindAt c m=1\/kindAt c m=2\/kindAt c m=3:=by omega
      by_cases e:i=0
      .rcases d with g|g|g<;>simp[g,e,show¬1=r.length by omega]
      .by_cases h:i+1=r.length
       .rcases d with g|g|g<;>simp[g,e,h]
       .rcases d with g|g|g<;>simp[g,e,h]
     rw[k];cases((kindAt c m==1)==decide (i=0))<;>cases((kindAt c m==3)==decide (i+1=r.length))<;>cases(decide (i=0)||hasLeg c a m)<;>rfl
    grind[Qa]
   have Q:rokS c r.length i a (m::t)=((((kindAt c m==1)==decide (i=0))&&(((kindAt c m==3)==decide (i+1=r.length))&&(decide (i=0)||hasLeg c a m)))&&rokS c r.length (i+1) m t):=by rw[Qjx];simp only[Bool.and_assoc]
   rw[Q];cases y:(((kindAt c m==1)==decide (i=0))&&(((kindAt c m==3)==decide (i+1=r.length))&&(decide (i=0)||hasLeg c a m)))with
   |false=>
    rw[y]at step;exact Eh step
   |true=>
    rw[y]at step;rw[Vu];exact Et step (N (i+1) m s (by omega) (λ_=>by simpa using f))
 exact(loop r 0 0 rfl (XR _) (by omega)).ev
theorem Qke(c:Course)(w:CourseOk c)(q:NumOk c)(d:Distance)(a:d∈c.Distances)(z:∀x∈d.Route,Part.wf x)(E:szPs d.Route<=256):
  Ev (λn=>F_do n c d) (routeS c d):=by
 have p:=Jn d.Route;have m:=QoZ q a;have f:=Qgv _ d.Route [] (XQ _);unfold F_do routeS;refine Ea (QiJ _ _ d.Route (XQ _) E (by omega) z (q.dist d a).2.2) ?_;generalize expS [] d.Route=r at m f⊢;unfold routeR;have H:(decide ((r.length:Int)<2)||decide (256<(r.length:Int)))= !(decide (2<=r.length)&&decide (r.length<=256)):=by
  grind
 refine Ea (Er (Ep λ_=>Qa _) H) ?_;cases j:(decide (2<=r.length)&&decide (r.length<=256))with
 |false=>exact Qa _
 |true=>
  simp only[XT,Vk]at j;refine Yf (Ea (QgB c w q r j.1 j.2 m) ?_);cases rokS c r.length 0 0 r with
  |false=>exact Qa _
  |true=>
   have y:Ev (λn:Nat=>(bif (d.Extra != (-1))then(idx c.Mats d.Extra).bind λk=>(bif (k.Kind != 2)then some true else(F_bj n r d.Extra).bind λe=>(bif (e==0)then some true else(F_bg n c d.Extra d.Extra).bind λg=>some (decide (g<0))))else some false))
     (!(bif decide (0<=d.Extra)then !((r.count d.Extra:Int)==0)&&((kindAt c d.Extra==2)&&hasLeg c d.Extra d.Extra)else true)):=by
    have l:=q.dist d a;have B:(d.Extra != (-1))=decide (0<=d.Extra):=by rw[XU];simp;omega
    rw[B];cases t:decide (0<=d.Extra)with
    |false=>exact Qa _
    |true=>
     obtain⟨x,G,F⟩:=QdF (by simpa using t) l.2.1;obtain⟨v,s,u⟩:=Qpa c w d.Extra d.Extra;simp only[XG,G,F];refine Er (Ep λ_=>Ea (Qkj r _ (by omega)) (Ep λ_=>Ea s (Qa _))) ?_;rw[bne,u];cases((r.count d.Extra:Int)==0)<;>cases(kindAt c d.Extra==2)<;>cases hasLeg c d.Extra d.Extra<;>rfl
   refine Ea y ?_;cases(bif decide (0<=d.Extra)then !((r.count d.Extra:Int)==0)&&((kindAt c d.Extra==2)&&hasLeg c d.Extra d.Extra)else true)with
   |false=>exact Qa _
   |true=>
    refine Yf (Ea (YG d.Cutoffs (λx=>decide (x.Lap<=r.count x.Mat)) (Ctl.done false) (Ctl.cont ()) (by have:=w.cut d a;omega) (λi x h=>?_) ?_) ?_)
    .unfold F_lr;simp only[h.lt,h.ix,XG,h.nx];refine Ea (Qkj r _ (by omega)) ?_;have:decide (r.count x.Mat<x.Lap)= !decide (x.Lap<=r.count x.Mat):=by rw[XU];simp
     rw[this];cases decide (x.Lap<=r.count x.Mat)<;>exact Qa _
    .unfold F_lr;simp only[Qcm];exact Qa _
    .cases(d.Cutoffs.all λx=>decide (x.Lap<=r.count x.Mat))<;>exact Qa _
def lensC(c:Course):Nat:=c.Mats.length+c.Legs.length+c.Distances.length+c.Waves.length+c.Offences.length+c.Categories.length+c.Prizes.length
def fewD(d:Distance):Prop:=d.Cutoffs.length<=200/\szPs d.Route<=200/\hPs d.Route<=16
structure FewOk (c:Course):Prop where
 lens:lensC c<=200
 name:c.Name.length<=100
 dist:∀d∈c.Distances,fewD d
 ties:c.Ties.length<=200
def fitsS(c:Course):Bool:=
 !(decide (40<(c.Mats.length:Int))||(decide (512<(c.Legs.length:Int))||(decide (8<(c.Distances.length:Int))||(decide (32<(c.Waves.length:Int))||(decide (32<(c.Offences.length:Int))||(decide (32<(c.Categories.length:Int))||decide (32<(c.Prizes.length:Int))))))))
  &&c.Distances.all λd=> !decide (64<(d.Cutoffs.length:Int))
theorem Qqs(c:Course)(w:CourseOk c)(q:PartsOk c)(k:FewOk c):Ev (λn=>F_bm n c) (fitsS c):=by
 unfold F_bm fitsS;refine Ea (Ep λ_=>Ep λ_=>Ep λ_=>Ep λ_=>Ep λ_=>Ep λ_=>Qa _) ?_;cases(decide (40<(c.Mats.length:Int))||(decide (512<(c.Legs.length:Int))||(decide (8<(c.Distances.length:Int))||(decide (32<(c.Waves.length:Int))||(decide (32<(c.Offences.length:Int))||(decide (32<(c.Categories.length:Int))||decide (32<(c.Prizes.length:Int))))))))with
 |true=>exact Qa _
 |false=>
  refine Yf (Ea (YG c.Distances (λd=> !decide (64<(d.Cutoffs.length:Int))) (Ctl.done false) (Ctl.cont ()) (by have:=w.dist;omega) (λi x a=>?_) ?_) ?_)
  .obtain⟨f,e,g⟩:=k.dist x a.mem;unfold F_fr;simp only[a.lt,a.ix,XG,a.nx];refine Ea (Qo7 _ x.Route 17 (XQ _) (by omega) (XQ _) (by omega) (q.wf x a.mem)) ?_
   grind[Qa]
  .simp_all[F_fr,Qa]
  .cases(c.Distances.all λd=> !decide (64<(d.Cutoffs.length:Int)))<;>exact Qa _
theorem Qnu(c:Course)(w:CourseOk c)(q:PartsOk c)(k:FewOk c):Ev (λn=>F_bq n c) (fitsS c):=by
 unfold F_bq fitsS;refine Ea (Ep λ_=>Ep λ_=>Ep λ_=>Ep λ_=>Ep λ_=>Ep λ_=>Qa _) ?_;cases(decide (40<(c.Mats.length:Int))||(decide (512<(c.Legs.length:Int))||(decide (8<(c.Distances.length:Int))||(decide (32<(c.Waves.length:Int))||(decide (32<(c.Offences.length:Int))||(decide (32<(c.Categories.length:Int))||decide (32<(c.Prizes.length:Int))))))))with
 |true=>exact Qa _
 |false=>
  refine Yf (Ea (YG c.Distances (λd=> !decide (64<(d.Cutoffs.length:Int))) (Ctl.done false) (Ctl.cont ()) (by have:=w.dist;omega) (λi x e=>?_) ?_) ?_)
  .obtain⟨h,g,j⟩:=k.dist x e.mem;have a:=q.len x e.mem;have f:=q.wf x e.mem;unfold F_gz;simp only[e.lt,e.ix,XG,e.nx];refine Ea (Ep λ_=>Ea (Qe3 _ x.Route 17 (XQ _) (XQ _) a f) (Ep λ_=>Ea (Qe4 _ x.Route (XQ _) a f) (Qa _))) ?_
   grind[Qa]
  .simp_all[F_gz,Qa]
  .cases(c.Distances.all λd=> !decide (64<(d.Cutoffs.length:Int)))<;>exact Qa _
def courseE(c:Course):Int:=
 bif fitsS c then bif namesS c then bif numbersS c then bif tiesE c.Ties==0 then bif c.Distances.all (routeS c)then 0 else 72 else tiesE c.Ties else 71 else 70 else 2
theorem Qnv(c:Course)(w:CourseOk c)(q:PartsOk c)(k:FewOk c)(hl:c.Ties.length<=1048576)(f:∀x∈c.Ties,Step.wf x):Ev (λn=>F_r n c) (courseE c):=by
 unfold F_r courseE;refine Ea (Qqs c w q k) ?_;cases fitsS c with
 |false=>exact Qa _
 |true=>
 refine Yf (Ea (Qo2 c w) ?_);cases namesS c with
 |false=>exact Qa _
 |true=>
 refine Yf (Ea (Qlz c w q) ?_);cases g:numbersS c with
 |false=>exact Qa _
 |true=>
 refine Yf (Ea (Qqu c.Ties hl f) ?_);rw[bne];cases(tiesE c.Ties==0)with
 |false=>exact Qa _
 |true=>
 have e:Ev (λn=>iter (F_jz n c) n ([],0)) (Ye legKey true c.Legs):=by
  refine QaG c.Legs legKey true (by have:=w.legs;omega) (λi x m a=>?_) (λm=>?_)
  .unfold F_jz;simp only[a.lt,a.ix,a.nx];exact Qa _
  simp_all[F_jz,Qa]
 refine Yf (Ea e ?_);have a:Ev (λn=>F_fw n c.Distances c (Ye legKey true c.Legs)) (c.Distances.all (routeS c)):=by
  refine JL c.Distances _ (λn x=>F_er n x c (Ye legKey true c.Legs)) (by have:=w.dist;omega) λx d=>?_;exact Ea (QlA c w (QkP g) x d (q.wf x d) (by have:=(k.dist x d).2.1;omega)) (Qa _)
 refine Ea a ?_
 grind[Qa]
theorem QiM(c:Course)(w:CourseOk c)(q:PartsOk c)(k:FewOk c)(hl:c.Ties.length<=1048576)(e:∀x∈c.Ties,Step.wf x):Ev (λn=>F_q n c) (courseE c):=by
 have a:=k.lens;unfold lensC at a;have g:Short c:=⟨by omega,by omega,by omega,by omega,by omega⟩;unfold F_q courseE;refine Ea (Qnu c w q k) ?_;cases fitsS c with
 |false=>exact Qa _
 |true=>
 refine Yf (Ea (Qkh c w g) ?_);cases namesS c with
 |false=>exact Qa _
 |true=>
 refine Yf (Ea (QiH c w q) ?_);cases f:numbersS c with
 |false=>exact Qa _
 |true=>
 refine Yf (Ea (Qlr c.Ties hl e) ?_);rw[bne];cases(tiesE c.Ties==0)with
 |false=>exact Qa _
 |true=>
 refine Yf (Ea (YG c.Distances (routeS c) (Ctl.done 72) (Ctl.cont ()) (by omega) (λi x d=>?_) ?_) ?_)
 .unfold F_lm;simp only[d.lt,d.ix,XG,d.nx];refine Ea (Qke c w (QkP f) x d.mem (q.wf x d.mem) (by have:=(k.dist x d.mem).2.1;omega)) ?_;cases routeS c x<;>exact Qa _
 .simp_all[F_lm,Qa]
 grind[Qa]
theorem Qhk{α:Type}{lt:α->α->Prop}(d:∀a b,lt a b->¬lt b a):∀{l m:List α},l.Pairwise lt->m.Pairwise lt->(∀x,x∈l↔x∈m)->l=m:=by
 intro l
 induction l with
 |nil=>
  intro m _ _ h;cases m with
  |nil=>rfl
  |cons y m=>exact absurd ((h y).2 (by simp)) (by simp)
 |cons x l j=>
  intro m e f h;cases m with
  |nil=>grind
  |cons y m=>
   obtain⟨g,k⟩:=Xc.1 e;obtain⟨i,n⟩:=Xc.1 f
   grind
def insB(b:Int):List Int->List Int
 |[]=>[b]
 |x::l=>bif decide (x<b)then x::insB b l else b::x::l
theorem Qgb(b:Int):∀(l:List Int) (x:Int),x∈insB b l↔x=b\/x∈l
 |[],x=>by simp[insB]
 |y::l,x=>by
  unfold insB;cases decide (y<b)
  .simp
  .simp[Vi,X0,Qgb b l x]
   grind
theorem QeY(b:Int):∀(l:List Int),b∉l->l.Pairwise (· < ·)->(insB b l).Pairwise (· < ·)
 |[],_,_=>by simp[insB]
 |y::l,hn,h=>by
  obtain⟨h1,h2⟩:=Xc.1 h;unfold insB;have hby:b≠y:=(by grind);by_cases q:y<b
  .rw[Vn q,Vi];refine Xc.2 ⟨λx hx=>?_,QeY b l (by grind) h2⟩;rcases(Qgb b l x).1 hx with rfl|hx
   .exact q
   grind
  .rw[Vr q,Vj];refine Xc.2 ⟨λx hx=>?_,h⟩
   grind
theorem QjR(b:Int):∀l:List Int,(insB b l).length=l.length+1
 |[]=>rfl
 |y::l=>by
  unfold insB;cases decide (y<b)
  .simp
  .simp[QjR b l]
def posB(b:Int):List Int->Nat
 |[]=>0
 |x::l=>bif decide (x<b)then posB b l+1 else 0
theorem Qmi(b:Int):∀l:List Int,posB b l<=l.length
 |[]=>XQ _
 |x::l=>by
  unfold posB;have:=Qmi b l
  grind
theorem QjS(b:Int):∀l:List Int,l.take (posB b l)++b::l.drop (posB b l)=insB b l
 |[]=>rfl
 |x::l=>by
  unfold posB insB;cases decide (x<b)
  .simp
  .simp[QjS b l]
theorem Qmg{α:Type}(l:List α){a b:Nat}(h:a<=b)(d:b<=l.length):slc l (a:Int) (b:Int)=some ((l.take b).drop a):=by
 grind[slc]
theorem QfJ{α:Type}(l:List α){b:Nat}(a:b<=l.length):slc l 0 (b:Int)=some (l.take b):=by
 have:=Qmg l (XR b) a
 grind
theorem Qb8{α:Type}(l:List α){a:Nat}(d:a<=l.length):slc l (a:Int) (l.length:Int)=some (l.drop a):=by
 simp_all[Qmg]
theorem Qfw{α:Type}(l m:List α)(h:l.length+m.length<=4294967296):app l m=some (l++m):=by
 unfold app;rw[XP (by exact h)];rfl
theorem Qjq{α:Type}(l:List α){i:Nat}(x:α)(h:i<l.length):Qej l (i:Int) x=some (l.set i x):=by
 grind[Qej]
def firstI{α:Type}(q:α->Bool):List α->Nat->Int
 |[],_=> -1
 |x::l,i=>bif q x then(i:Int)else firstI q l (i+1)
theorem Ev.first{α:Type}{step:Nat->Int->Option (Ctl Int (Ctl Unit Int))}(l:List α)(q:α->Bool)(hl:l.length<=4611686018427387904)
  (j:∀i x,At l i x->Ev (λn=>step n (i:Int)) (bif q x then .done (.done (i:Int))else .cont ((i+1:Nat):Int)))(m:Ev (λn=>step n (l.length:Int)) (.done (.cont ()))):
  Ev (λn=>(Go.Sw.iter (step n) n 0).bind λb=>match b with|.cont _=>some (-1)|.done v=>some v) (firstI q l 0):=by
 have loop:∀(r:List α) (i:Nat),l.drop i=r->i<=l.length->∃a:Ctl Unit Int,EvI step i a/\(match a with|.cont _=>some (-1)|.done v=>some v)=some (firstI q r i):=by
  intro r
  induction r with
  |nil=>
   intro i d g;have:i=l.length:=by have:=Xq.1 d;omega
   subst this;exact⟨.cont (),Eh m,rfl⟩
  |cons x r t=>
   intro i d g;obtain⟨k,p⟩:=Qt hl d;have s:=j i x k;unfold firstI;cases h:q x with
   |true=>
    rw[h]at s;exact⟨_,Eh s,rfl⟩
   |false=>
    grind[EvI.cont]
 obtain⟨a,e,f⟩:=loop l 0 rfl (XR _);exact Ea e.ev (Ez f)
theorem Qa8{α:Type}(q:α->Bool):∀(l:List α) (i:Nat),(firstI q l i= -1/\l.all (λx=> !q x)=true)\/ ∃j x,firstI q l i=((i+j:Nat):Int)/\l[j]?=some x/\q x=true/\(l.take j).all (λx=> !q x)=true
 |[],_=>.inl ⟨rfl,rfl⟩
 |x::l,i=>by
  unfold firstI;cases h:q x with
  |true=>exact .inr ⟨0,x,rfl,rfl,h,rfl⟩
  |false=>
   rcases Qa8 q l (i+1)with⟨h1,h2⟩|⟨j,y,h1,h2,h3,h4⟩
   .grind
   .refine .inr ⟨j+1,y,by grind,h2,h3,by simp[h,h4]⟩
theorem Qgj{α:Type}{p:α->Bool}{l:List α}(h:l.all p=true):l.filter p=l:=(by simp_all)
theorem Ev.delete{α:Type}{first:Nat->Option Int}{step:Nat->List α×Int×Int->Option (Ctl (List α×Int×Int) (List α×Int))}(a:List α)(q:α->Bool)(hl:a.length<=1048576)
  (hf:Ev first (firstI q a 0))
  (P:∀(l:List α) (i j:Nat) x y,l.length<=1048576->At l j x->l[i]?=some y->x∈a->i<=j->Ev (λn=>step n (l,(i:Int),(j:Int))) (.cont (bif q x then l else l.set i x,(bif q x then(i:Int)else((i+1:Nat):Int)),((j+1:Nat):Int))))
  (T:∀(l:List α) (i:Int),Ev (λn=>step n (l,i,(l.length:Int))) (.done (l,i))):
  Ev (λn=>(first n).bind λr1=>bif r1== -1 then some a else(Go.Sw.iter (step n) n (a,r1,i64.wrap (r1+1))).bind λb=>(slc b.1 0 b.2).bind λx=>some x) (a.filter λx=> !q x):=by
 refine Ea hf ?_;rcases Qa8 q a 0 with⟨F,G⟩|⟨p,V,F,G,W,O⟩
 .rw[F,Qgj G];exact Qa _
 .have Y:=(XI.1 G).1;rw[Xu]at F;rw[F];have Q:((p:Int)== -1)=false:=by simp
  rw[Q,Yh (by omega)];have loop:∀(r l:List α) (i j:Nat),a.drop j=r->j<=a.length->i<j->l.length=a.length->l.drop j=a.drop j->l.take i=(a.take j).filter (λx=> !q x)->∃e:List α,∃k:Nat,EvI step (l,i,j) (e,k)/\k<=e.length/\e.take k=a.filter λx=> !q x:=by
   intro r
   induction r with
   |nil=>
    intro l i j H X J d B f;have:j=l.length:=by have:=Xq.1 H;omega
    subst this;refine⟨l,i,Eh (T l _),by omega,?_⟩;rw[f,d,X4]
   |cons x r M=>
    intro l i j H X J d B f;have L:l.drop j=x::r:=by rw[B,H]
    obtain⟨N,E⟩:=Qt (by omega) L;obtain⟨m,g⟩:=Qt (by omega) H;have R:=N.lt';have s:=P l i j x l[i] (by omega) N (XH (by omega)) m.mem (by omega);cases h:q x with
    |true=>
     rw[h]at s;obtain⟨e,k,u,z,t⟩:=M l i (j+1) g (by omega) (by omega) d (by rw[E,g]) (by rw[m.take,List.filter_append,f];simp[h]);exact⟨e,k,Et s u,z,t⟩
    |false=>
     rw[h]at s;obtain⟨e,k,u,z,t⟩:=M (l.set i x) (i+1) (j+1) g (by omega) (by omega) (by simpa using d) (by rw[List.drop_set_of_lt (by omega),E,g])
      (by
       rw[m.take,List.filter_append, <- f];have:i<(l.set i x).length:=by simp;omega
       rw[List.take_add_one,XH this];simp[h,List.take_set_of_le])
     exact⟨e,k,Et s u,z,t⟩
  have w:a.take (p+1)=a.take p++[V]:=by rw[List.take_add_one,G];rfl
  obtain⟨e,k,u,z,t⟩:=loop _ a p (p+1) rfl (by omega) (by omega) rfl rfl (by rw[w,List.filter_append,Qgj O];simp[W]);refine Yf (Ea u.ev ?_);rw[<- t];exact Ez (by simp[QfJ e z])
theorem QaY{ι α:Type}{F:Nat->ι->Option α}{V:ι->α}:∀(L:List ι),(∀p∈L,Ev (λn=>F n p) (V p))->∃N,∀n,N<=n->∀p∈L,F n p=some (V p)
 |[],_=>(by simp)
 |x::L,h=>by
  obtain⟨N,hN⟩:=QaY L λp hp=>h p (by simp[hp]);obtain⟨M,hM⟩:=h x (by simp);refine⟨N+M,λn hn p hp=>?_⟩
  grind
theorem Ev.anyP{E R:Type}[DecidableEq R]{k:Nat->List E->Option R}{l:List E}{r:R}(h:∀p,p.Perm l->Ev (λn=>k n p) r):Ev (λn=>Go.Sw.anyP (k n) l) r:=by
 obtain⟨N,e⟩:=QaY (Qcd l) λp a=>h p (Qc6 l p a);exact⟨N,λn d=>QiZ λp a=>e n d p (Qel l p a)⟩
theorem Ev.isNil{α R:Type}[DecidableEq R]{l:List α}{x y:Nat->Option R}{v:R}(d:l=[]->Ev x v)(a:Ev y v):Ev (λn=>Go.Sw.isNil l (x n) (y n)) v:=by
 unfold Go.Sw.isNil;cases q:l.isEmpty with
 |false=>exact a
 |true=>
  obtain⟨N,e⟩:=d (List.isEmpty_iff.1 q);obtain⟨M,g⟩:=a;exact⟨N+M,λn f=>by grind⟩
theorem Qnt:∀(k:Nat) (l:List Part),k<=17->szPs l<=256->(∀x∈l,Part.wf x)->∃s:Nat,s<=szPs l/\Ev (λn=>F_f n l (k:Int)) (((min (hPs l) k:Nat):Int),(s:Int)):=by
 intro k
 induction k using Nat.strongRecOn with
 |_ k N=>
 intro l u f F;have B:=Jn l;have loop:∀(r:List Part) (i a b:Nat),l.drop i=r->i<=l.length->a<=17->b+(szPs r-r.length)<=256->∃s:Nat,s<=b+(szPs r-r.length)/\EvI (λn=>F_bc n l (k:Int) (F_f n)) ((a:Int),(b:Int),(i:Int)) (((max a (min (hPs r) k):Nat):Int),(s:Int)):=by
  intro r
  induction r with
  |nil=>
   intro i a b h z _ _;refine⟨b,by omega,Eh ?_⟩;unfold F_bc;simp only[QO h z,Vj,XG];refine(Qa _).eq ?_;simp[hPs]
  |cons p r j=>
   intro i a b h z L g;obtain⟨d,q⟩:=Qt (by omega) h;obtain⟨R,M⟩:=Yv (F p d.mem);have w:=JI d.mem;rw[Y6]at w;have P:=Jn r;rw[szPs,Y6,XW]at g⊢;have step:∃t:Nat,t<=szPs p.Parts/\Ev (λn=>F_bc n l (k:Int) (F_f n) ((a:Int),(b:Int),(i:Int))) (.cont (((max a (min (hP p) k):Nat):Int),((b+t:Nat):Int),((i+1:Nat):Int))):=by
    unfold F_bc;simp only[d.lt,Vi,d.ix,XG,d.nx,Qf6];rw[QoI];cases T:p.Parts.isEmpty with
    |true=>
     refine⟨0,XR _,?_⟩;simp only[Vi,XG,Nat.zero_min,Nat.max_zero,Xv];exact Qa _
    |false=>
     simp only[Vj];by_cases m:k=0
     .subst m;refine⟨0,XR _,?_⟩;simp only[Nat.min_zero,Nat.max_zero,Xv];exact Qa _
     .obtain⟨t,y,e⟩:=N (k-1) (by omega) p.Parts (by omega) (by omega) M;refine⟨t,y,?_⟩;have O:i64.wrap ((k:Int)-1)=((k-1:Nat):Int):=by rw[QZ (by omega) (by omega)];omega
      have G:((k:Int)==0)=false:=beq_false_of_ne (by omega);rw[G,YU (show¬(256:Int)<(b:Int)by omega),O];simp only[Vj,XG];refine Ea (Ea e (Qa _)) ((Qa _).eq ?_);have Q:i64.wrap (((min (hPs p.Parts) (k-1):Nat):Int)+1)=((min (hPs p.Parts) (k-1)+1:Nat):Int):=Yh (by omega);have H:i64.wrap ((b:Int)+(t:Int))=((b+t:Nat):Int):=by rw[QZ (by omega) (by omega)];omega
      simp only[Q,H];congr 2;split<;>omega
   obtain⟨t,y,e⟩:=step;obtain⟨s,J,E⟩:=j (i+1) (max a (min (hP p) k)) (b+t) q (by have:=d.lt';omega) (by omega) (by omega);refine⟨s,by omega,(Et e E).eq ?_⟩;rw[hPs];congr 1;omega
 obtain⟨s,w,p⟩:=loop l 0 0 l.length rfl (XR _) (by omega) (by omega);refine⟨s,by omega,QJ ?_⟩;show Ev (λn=>B_f (F_f n) n l (k:Int)) _;unfold B_f;refine Ea p.ev ((Qa _).eq ?_);rfl
structure FewL (c:Course):Prop where
 lens:lensC c<=200
 name:c.Name.length<=100
 dist:∀d∈c.Distances,d.Cutoffs.length<=12/\szPs d.Route<=24
 ties:c.Ties.length<=200
def fitsG(c:Course):Bool:=
 !(decide (40<(c.Mats.length:Int))||(decide (512<(c.Legs.length:Int))||(decide (8<(c.Distances.length:Int))||(decide (32<(c.Waves.length:Int))||(decide (32<(c.Offences.length:Int))||(decide (32<(c.Categories.length:Int))||decide (32<(c.Prizes.length:Int))))))))
  &&c.Distances.all λd=> !(decide (64<(d.Cutoffs.length:Int))||decide (16<hPs d.Route))
theorem Qo4(c:Course)(w:CourseOk c)(q:PartsOk c)(k:FewL c):Ev (λn=>F_bm n c) (fitsG c):=by
 unfold F_bm fitsG;refine Ea (Ep λ_=>Ep λ_=>Ep λ_=>Ep λ_=>Ep λ_=>Ep λ_=>Qa _) ?_;cases(decide (40<(c.Mats.length:Int))||(decide (512<(c.Legs.length:Int))||(decide (8<(c.Distances.length:Int))||(decide (32<(c.Waves.length:Int))||(decide (32<(c.Offences.length:Int))||(decide (32<(c.Categories.length:Int))||decide (32<(c.Prizes.length:Int))))))))with
 |true=>exact Qa _
 |false=>
  refine Yf (Ea (YG c.Distances (λd=> !(decide (64<(d.Cutoffs.length:Int))||decide (16<hPs d.Route))) (Ctl.done false) (Ctl.cont ()) (by have:=w.dist;omega) (λi x a=>?_) ?_) ?_)
  .obtain⟨h,g⟩:=k.dist x a.mem;unfold F_fr;simp only[a.lt,a.ix,XG,a.nx];obtain⟨s,f,p⟩:=Qnt 17 x.Route (XQ _) (by omega) (q.wf x a.mem);refine Ea p (Ea (Ep λ_=>Ep λ_=>Qa _) ?_);simp only[YU (show¬256<(s:Int)by omega),Bool.or_false];have e:decide (16<((min (hPs x.Route) 17:Nat):Int))=decide (16<hPs x.Route):=by
    grind
   grind[Qa]
  .simp_all[F_fr,Qa]
  .cases c.Distances.all (λd=> !(decide (64<(d.Cutoffs.length:Int))||decide (16<hPs d.Route)))<;>exact Qa _
theorem Qk1:∀(k:Nat) (l:List Part),k<=21->l.length<=1048576->(∀x∈l,Part.wf x)->∃v:Nat,v<=1048576+500*(k+1)/\(v<500->szPs l<=v)/\Ev (λn=>F_s n l ((21-k:Nat):Int)) (v:Int):=by
 intro k
 induction k with
 |zero=>
  intro l _ w t;refine⟨500,by omega,by omega,QJ ?_⟩
  simp_all[B_s,F_s,Qa]
 |succ k H=>
  intro l M w t;have loop:∀(r:List Part) (i a:Nat),l.drop i=r->i<=l.length->a<=1048576+500*(k+1+1)->∃v:Nat,v<=1048576+500*(k+1+1)/\a<=v/\(v<500->a+(szPs r-r.length)<=v)/\EvI (λn=>F_em n l ((21-(k+1):Nat):Int) (F_s n)) ((a:Int),(i:Int)) (v:Int):=by
   intro r
   induction r with
   |nil=>
    intro i a f y j;refine⟨a,j,XQ _,λ_=>by simp[szPs],Eh ?_⟩;unfold F_em;simp only[QO f y,Vj,XG];exact Qa _
   |cons p r h=>
    intro i a f y j;obtain⟨d,m⟩:=Qt (by omega) f;obtain⟨B,G⟩:=Yv (t p d.mem);by_cases E:a<500
    .obtain⟨u,N,O,L⟩:=H p.Parts (by omega) B G;have J:i64.wrap (((21-(k+1):Nat):Int)+1)=((21-k:Nat):Int):=by rw[QZ (by omega) (by omega)];omega
     have z:i64.wrap ((a:Int)+(u:Int))=((a+u:Nat):Int):=by rw[QZ (by omega) (by omega)];omega
     obtain⟨v,s,F,q,g⟩:=h (i+1) (a+u) m (by have:=d.lt';omega) (by omega);refine⟨v,s,by omega,λe=>?_,Et ?_ g⟩
     .have:=q e;have:=Jn r;rw[szPs,Y6,XW];omega
     .unfold F_em;simp only[d.lt,Vi,d.ix,XG,d.nx,YS (show(a:Int)<500 by omega),J];refine Ea L ?_;rw[z];exact Qa _
    .refine⟨a,j,XQ _,λe=>absurd e E,Eh ?_⟩;unfold F_em;simp only[d.lt,Vi,XG,YU (show¬(a:Int)<500 by omega),Vj];exact Qa _
  obtain⟨v,s,F,q,g⟩:=loop l 0 l.length rfl (XR _) (XS w (Nat.le_add_right _ _));have:=Jn l;refine⟨v,s,λe=>by have:=q e;omega,QJ ?_⟩;show Ev (λn=>B_s (F_s n) n l ((21-(k+1):Nat):Int)) _;unfold B_s;rw[YU (show¬(20:Int)<((21-(k+1):Nat):Int)by omega)];exact Yf (Ea g.ev (Qa _))
theorem Qku:∀(k:Nat) (l:List Cond),k<=21->l.length<=1048576->(∀x∈l,Cond.wf x)->∃v:Nat,v<=1048576+500*(k+1)/\Ev (λn=>F_u n l ((21-k:Nat):Int)) (v:Int):=by
 intro k
 induction k with
 |zero=>
  intro l _ s t;refine⟨500,by omega,QJ ?_⟩
  simp_all[B_u,F_u,Qa]
 |succ k y=>
  intro l F s t;have loop:∀(r:List Cond) (i a:Nat),l.drop i=r->i<=l.length->a<=1048576+500*(k+1+1)->∃v:Nat,v<=1048576+500*(k+1+1)/\EvI (λn=>F_fm n l ((21-(k+1):Nat):Int) (F_u n)) ((a:Int),(i:Int)) (v:Int):=by
   intro r
   induction r with
   |nil=>
    intro i a j w h;refine⟨a,h,Eh ?_⟩;unfold F_fm;simp only[QO j w,Vj];exact Qa _
   |cons p r g=>
    intro i a j w h;obtain⟨d,q⟩:=Qt (by omega) j;have e:=Jk (t p d.mem);by_cases H:a<500
    .obtain⟨u,G,B⟩:=y p.Parts (by omega) e.1 e.2;have E:i64.wrap (((21-(k+1):Nat):Int)+1)=((21-k:Nat):Int):=by rw[QZ (by omega) (by omega)];omega
     have z:i64.wrap ((a:Int)+(u:Int))=((a+u:Nat):Int):=by rw[QZ (by omega) (by omega)];omega
     obtain⟨v,m,f⟩:=g (i+1) (a+u) q (by have:=d.lt';omega) (by omega);refine⟨v,m,Et ?_ f⟩;unfold F_fm;simp only[d.lt,Vi,d.ix,XG,d.nx,YS (show(a:Int)<500 by omega),E];refine Ea B ?_;rw[z];exact Qa _
    .refine⟨a,h,Eh ?_⟩;unfold F_fm;simp only[d.lt,YU (show¬(a:Int)<500 by omega)];exact Qa _
  obtain⟨v,m,f⟩:=loop l 0 l.length rfl (XR _) (XS s (Nat.le_add_right _ _));refine⟨v,m,QJ ?_⟩;show Ev (λn=>B_u (F_u n) n l ((21-(k+1):Nat):Int)) _;unfold B_u;rw[YU (show¬(20:Int)<((21-(k+1):Nat):Int)by omega)];exact Yf (Ea f.ev (Qa _))
def Cs:Nat->Nat
 |0=>500
 |k+1=>4194304+2*Cs k
theorem QqY:∀k,k<22->Cs k<=1125899906842624:=by decide
theorem Qji:∀(k:Nat) (l:List Step),k<=21->l.length<=1048576->(∀x∈l,Step.wf x)->∃v:Nat,v<=Cs k/\(v<500->l.length<=v)/\Ev (λn=>F_p n l ((21-k:Nat):Int)) (v:Int):=by
 intro k
 induction k with
 |zero=>
  intro l _ J q;refine⟨500,XQ _,by omega,QJ ?_⟩
  simp_all[B_p,F_p,Qa]
 |succ k B=>
  intro l T J q;have R:=QqY k (by omega);have E:=QqY (k+1) (by omega);have O:Cs (k+1)=4194304+2*Cs k:=rfl;have loop:∀(r:List Step) (i a:Nat),l.drop i=r->i<=l.length->a<=Cs (k+1)->∃v:Nat,v<=Cs (k+1)/\a<=v/\EvI (λn=>F_fy n l ((21-(k+1):Nat):Int) (F_p n)) ((a:Int),(i:Int)) (v:Int):=by
   intro r
   induction r with
   |nil=>
    intro i a f t h;refine⟨a,h,XQ _,Eh ?_⟩;unfold F_fy;simp only[QO f t,Vj,XG];exact Qa _
   |cons p r j=>
    intro i a f t h;obtain⟨d,m⟩:=Qt (by omega) f;obtain⟨F,z,s⟩:=Jj (q p d.mem);by_cases X:a<500
    .obtain⟨u,V,P⟩:=Qku 21 [p.Cond] (XQ _) (by simp) (by simpa using F);obtain⟨x,W,_,L⟩:=B p.Then (by omega) z.1 z.2;obtain⟨y,y1,_,M⟩:=B p.Else (by omega) s.1 s.2;have N:i64.wrap (((21-(k+1):Nat):Int)+1)=((21-k:Nat):Int):=by rw[QZ (by omega) (by omega)];omega
     have G:i64.wrap ((a:Int)+(u:Int))=((a+u:Nat):Int):=by rw[QZ (by omega) (by omega)];omega
     have Q:i64.wrap (((a+u:Nat):Int)+(x:Int))=((a+u+x:Nat):Int):=by rw[QZ (by omega) (by omega)];omega
     have H:i64.wrap (((a+u+x:Nat):Int)+(y:Int))=((a+u+x+y:Nat):Int):=by rw[QZ (by omega) (by omega)];omega
     obtain⟨v,e,w,g⟩:=j (i+1) (a+u+x+y) m (by have:=d.lt';omega) (by omega);refine⟨v,e,by omega,Et ?_ g⟩;unfold F_fy;simp only[d.lt,Vi,d.ix,XG,d.nx,YS (show(a:Int)<500 by omega),N];refine Ea P (Ea L (Ea M ?_));rw[G,Q,H];exact Qa _
    .refine⟨a,h,XQ _,Eh ?_⟩;unfold F_fy;simp only[d.lt,Vi,XG,YU (show¬(a:Int)<500 by omega),Vj];exact Qa _
  obtain⟨v,e,w,g⟩:=loop l 0 l.length rfl (XR _) (by omega);refine⟨v,e,λ_=>w,QJ ?_⟩;show Ev (λn=>B_p (F_p n) n l ((21-(k+1):Nat):Int)) _;unfold B_p;rw[YU (show¬(20:Int)<((21-(k+1):Nat):Int)by omega)];exact Yf (Ea g.ev (Qa _))
theorem Qnn(c:Course)(w:CourseOk c)(q:PartsOk c)(hl:c.Ties.length<=1048576)(B:∀x∈c.Ties,Step.wf x):∃b,Ev (λn=>F_be n c) b/\(b=true->FewL c):=by
 have L:=w.dist;have J:=w.mats;have loop:∀(r:List Distance) (i:Nat),c.Distances.drop i=r->i<=c.Distances.length->∃a:Ctl Unit Bool,EvI (λn=>F_gk n c) (i:Int) a/\(a=.done false\/(a=.cont ()/\ ∀d∈r,d.Cutoffs.length<=12/\szPs d.Route<=24)):=by
  intro r
  induction r with
  |nil=>
   intro i k u;refine⟨.cont (),Eh ?_,.inr ⟨rfl,λd h=>by cases h⟩⟩;unfold F_gk;simp only[QO k u,Vj];exact Qa _
  |cons d r l=>
   intro i k u;obtain⟨e,p⟩:=Qt (by omega) k;obtain⟨v,H,y,s⟩:=Qk1 21 d.Route (XQ _) (q.len d e.mem) (q.wf d e.mem);have step:Ev (λn=>F_gk n c (i:Int)) (bif (decide ((24:Int)<(v:Int))||(decide (12<(d.Cutoffs.length:Int))||decide (60<(d.Name.length:Int))))then .done (.done false)else .cont ((i+1:Nat):Int)):=by
    unfold F_gk;simp only[e.lt,Vi,e.ix,XG,e.nx];refine Ea (Ea s (Ep λ_=>Ep λ_=>Qa _)) ?_
    grind[Qa]
   cases g:(decide ((24:Int)<(v:Int))||(decide (12<(d.Cutoffs.length:Int))||decide (60<(d.Name.length:Int))))with
   |true=>
    rw[g]at step;exact⟨.done false,Eh step,.inl rfl⟩
   |false=>
    rw[g]at step;obtain⟨a,f,t⟩:=l (i+1) p (by grind);refine⟨a,Et step f,?_⟩
    grind
 obtain⟨a,f,t⟩:=loop c.Distances 0 rfl (XR _);rcases t with rfl|⟨rfl,F⟩
 .refine⟨false,?_,λh=>by cases h⟩;unfold F_be;exact Ea f.ev (Qa _)
 .have E:∃a:Ctl Unit Bool,Ev (λn=>iter (F_iz n c) n (0:Int)) a/\(a=.done false\/a=.cont ()):=by
   refine⟨_,YG c.Mats (λm=> !decide (60<(m.Name.length:Int))) (Ctl.done false) (Ctl.cont ()) (by omega) (λi x e=>?_) ?_,?_⟩
   .unfold F_iz;simp only[e.lt,Vi,e.ix,XG,e.nx];cases decide (60<(x.Name.length:Int))<;>exact Qa _
   .unfold F_iz;simp only[Qcm,Vj];exact Qa _
   .cases c.Mats.all (λm=> !decide (60<(m.Name.length:Int)))with
    |true=>exact .inr rfl
    |false=>exact .inl rfl
  obtain⟨z,j,G⟩:=E;rcases G with rfl|rfl
  .refine⟨false,?_,λh=>by cases h⟩;unfold F_be;exact Ea f.ev (Ea j (Qa _))
  .obtain⟨v,H,y,s⟩:=Qji 21 c.Ties (XQ _) hl B;cases g:(decide (12<(c.Mats.length:Int))||(decide (30<(c.Legs.length:Int))||(decide (4<(c.Distances.length:Int))||(decide (6<(c.Waves.length:Int))||(decide (6<(c.Offences.length:Int))||(decide (6<(c.Categories.length:Int))||(decide (6<(c.Prizes.length:Int))||decide (60<(c.Name.length:Int)))))))))with
   |true=>
    refine⟨false,?_,λh=>by cases h⟩;unfold F_be;refine Ea f.ev (Ea j (Ea (v:=true) (Er (Ep λ_=>Ep λ_=>Ep λ_=>Ep λ_=>Ep λ_=>Ep λ_=>Ep λ_=>Qa _) g) (Qa _)))
   |false=>
    refine⟨decide ((v:Int)<=100),?_,λh=>?_⟩
    .unfold F_be;refine Ea f.ev (Ea j (Ea (v:=false) (Er (Ep λ_=>Ep λ_=>Ep λ_=>Ep λ_=>Ep λ_=>Ep λ_=>Ep λ_=>Qa _) g) (Ea s (Qa _))))
    .have h:=Vp h;have:=y (by omega);simp only[Bool.or_eq_false_iff,decide_eq_false_iff_not]at g;exact⟨by unfold lensC;omega,by omega,F,by omega⟩
set_option maxRecDepth 4000
def openU(f:Fact):U_facts_open_rxk:=
 bif f.Kind==1 then .c0 ()else bif f.Kind==2 then .c1 ()else bif f.Kind==3 then .c2 ()else bif f.Kind==4 then .c3 ()else bif f.Kind==5 then .c4 ()else bif f.Kind==6 then .c5 ()
 else bif f.Kind==7 then .c6 ()else bif f.Kind==8 then .c7 ()else bif f.Kind==9 then .c8 ()else bif f.Kind==10 then
  (bif (f.Ruling.Kind==1)||(f.Ruling.Kind==2)then .c9 (0,0,0,0,0,0)else bif f.Ruling.Kind==3 then .c9 (1,9999,0,255,1,1099511627776)else bif f.Ruling.Kind==4 then .c9 (1,9999,0,255,1,64)else .c9 (1,9999,0,255,0,0))
 else bif f.Kind==11 then .c10 ()else bif f.Kind==12 then .c11 ()else bif f.Kind==13 then .c12 ()else .c13 ()
theorem Qmk(n:Nat)(f:Fact)(b:Int):F_bn n f b=some (openU f):=by
 unfold F_bn openU;cases(f.Kind==1)with
 |true=>rfl
 |false=>
 cases(f.Kind==2)with
 |true=>rfl
 |false=>
 cases(f.Kind==3)with
 |true=>rfl
 |false=>
 cases(f.Kind==4)with
 |true=>rfl
 |false=>
 grind
def headL:List Ent:=[⟨false,3,1,13⟩,⟨false,0,0,31⟩,⟨false,1,1,1048576⟩,⟨false,2,0,1099511627776⟩]
def bodyL:U_facts_open_rxk->List Ent
 |.c0 _=>[⟨false,4,1,9999⟩,⟨false,5,0,7⟩,⟨false,6,0,31⟩,⟨false,7,(-1099511627776),1099511627776⟩,⟨false,8,0,120⟩,⟨false,9,0,1048576⟩,⟨false,10,0,9999⟩,⟨false,11,0,1048576⟩]
 |.c1 _=>[⟨false,12,0,39⟩,⟨false,13,0,255⟩,⟨false,14,0,1048576⟩,⟨false,15,(-1099511627776),1099511627776⟩]
 |.c2 _=>[⟨false,16,0,39⟩,⟨false,17,0,255⟩,⟨false,18,(-1099511627776),1099511627776⟩,⟨false,19,(-1099511627776),1099511627776⟩,⟨false,20,0,1099511627776⟩]
 |.c3 _=>[⟨false,21,0,39⟩,⟨false,22,0,255⟩,⟨false,23,(-1099511627776),1099511627776⟩,⟨false,24,0,39⟩,⟨false,25,0,255⟩,⟨false,26,(-1099511627776),1099511627776⟩,⟨false,27,(-1099511627776),1099511627776⟩,⟨false,28,(-1099511627776),1099511627776⟩]
 |.c4 _=>[⟨false,29,1,9999⟩,⟨false,30,0,255⟩,⟨false,31,(-1099511627776),1099511627776⟩,⟨false,32,(-1099511627776),1099511627776⟩]
 |.c5 _=>[⟨false,33,0,39⟩,⟨false,34,0,255⟩,⟨false,35,(-1099511627776),1099511627776⟩,⟨false,36,(-1099511627776),1099511627776⟩]
 |.c6 _=>[⟨false,37,1,9999⟩,⟨false,38,1,9999⟩]
 |.c7 _=>[⟨false,39,1,1048576⟩,⟨false,40,1,9999⟩,⟨false,41,0,31⟩,⟨false,42,0,255⟩]
 |.c8 _=>[⟨false,43,1,1048576⟩,⟨false,44,0,9999⟩,⟨false,45,0,1125899906842624⟩,⟨false,46,0,1⟩]
 |.c9 x=>[⟨false,47,1,1048576⟩,⟨false,48,1,2⟩,⟨false,49,1,5⟩,⟨false,50,x.1,x.2.1⟩,⟨false,51,x.2.2.1,x.2.2.2.1⟩,⟨false,52,x.2.2.2.2.1,x.2.2.2.2.2⟩]
 |.c10 _=>[⟨false,53,1,1048576⟩,⟨true,0,0,1⟩]
 |.c11 _=>[]
 |.c12 _=>[⟨false,55,0,31⟩,⟨false,56,1,1048576⟩]
 |.c13 _=>[]
def fineU(f:Fact):U_facts_open_rxk->Bool
 |.c3 _=>decide (f.Sync.Min<=f.Sync.Max)
 |.c4 _=>decide (f.Hand.Lo<=f.Hand.Hi)
 |.c5 _=>decide (f.Silence.Lo<=f.Silence.Hi)
 |.c6 _=>decide (f.Pair.A<f.Pair.B)
 |.c13 _=>false
 |_=>true
def entsS(f:Fact):List Ent:=headL++bodyL (openU f)
def goodE(e:Ent):Bool:=bif e.fl then e.off==0 else decide (e.off<57)&& !(e.off==54)
theorem Qnx(f:Fact):∀e∈entsS f,goodE e=true:=by
 have h:∀u,(headL++bodyL u).all goodE=true:=by intro u;cases u<;>rfl
 exact Xs.1 (h (openU f))
theorem QgK(f:Fact):(entsS f).length<=12:=by
 have h:∀u,(headL++bodyL u).length<=12:=by intro u;cases u<;>exact XO rfl
 exact h (openU f)
def isI:Option A->Bool
 |some (.int .i64 _)=>true
 |_=>false
theorem Qrp{x:Option A}(h:isI x=true):∃v,x=some (.int .i64 v):=by
 unfold isI at h
 grind
theorem QoK{f:Fact}{b:Int}{e:Ent}(h:goodE e=true):∃v,Qg9 (Fact.c f) b e=some v:=by
 unfold goodE at h;unfold Qg9;cases a:e.fl with
 |true=>
  simp_all
 |false=>
  rw[a]at h;simp only[Vj,XT,Vk,Bool.not_eq_true']at h⊢;have all:(List.range 57).all (λo=>(o==54)||isI (Fact.c f)[o]?)=true:=by rfl
  have:=Xs.1 all e.off (List.mem_range.2 h.1);rw[h.2,Bool.false_or]at this;obtain⟨v,d⟩:=Qrp this
  simp_all
theorem Qol{x:Fact}{s v:Int}{e:Ent}(h:goodE e=true):∃q,Qla Fact.put x s e v=some q:=by
 unfold goodE at h;unfold Qla;cases a:e.fl with
 |true=>
  simp_all
 |false=>
  rw[a]at h;simp only[Vj,XT,Vk,Bool.not_eq_true']at h⊢;have all:(List.range 57).all (λo=>(o==54)||(Fact.put x o v).isSome)=true:=by rfl
  have:=Xs.1 all e.off (List.mem_range.2 h.1);rw[h.2,Bool.false_or]at this;obtain⟨y,d⟩:=Option.isSome_iff_exists.1 this
  simp_all
def getV(f:Fact)(b:Int)(e:Ent):Int:=(Qg9 (Fact.c f) b e).getD 0
def putV(x:Fact)(s:Int)(e:Ent)(v:Int):Fact×Int:=(Qla Fact.put x s e v).getD (x,s)
theorem QoL{f:Fact}{b:Int}{e:Ent}(h:goodE e=true):Qg9 (Fact.c f) b e=some (getV f b e):=by
 obtain⟨v,a⟩:=QoK h;unfold getV;rw[a];rfl
theorem Qra{x:Fact}{s v:Int}{e:Ent}(h:goodE e=true):Qla Fact.put x s e v=some (putV x s e v):=by
 obtain⟨q,a⟩:=Qol h;unfold putV;rw[a];rfl
def inE(f:Fact)(b:Int)(e:Ent):Bool:= !(decide (getV f b e<e.lo))&& !(decide (e.hi<getV f b e))
def numR(f:Fact)(b:Int):List Ent->List Int×Fact×Int->Ctl (List Int×Fact×Int) (List Int×Bool)
 |[],a=>.cont a
 |e::r,a=>bif inE f b e then numR f b r (a.1++[getV f b e],putV a.2.1 a.2.2 e (getV f b e))else .done ([],false)
theorem Qd0{α:Type}(l m:List α)(h:l.length+m.length<=1000):app l m=some (l++m):=by
 unfold app;have:Nat.ble (l.length+m.length) QC=true:=XP (XS h (by decide))
 grind
theorem Qp8(f:Fact)(b:Int)(E:List Ent)(hE:∀e∈E,goodE e=true)(hl:E.length<=12):∀(r:List Ent) (i:Nat) (a:List Int×Fact×Int),E.drop i=r->i<=E.length->a.1.length=i->
  EvI (λn=>F_fu n f b E E) (a.1,a.2.1,a.2.2,(i:Int)) (numR f b r a):=by
 intro r
 induction r with
 |nil=>
  intro i a l p g;refine Eh ?_;unfold F_fu;simp only[QO l p];exact Qa _
 |cons e r s=>
  intro i a l p k;obtain⟨g,m⟩:=Qt (by omega) l;have j:=hE e g.mem;have t:=g.lt';unfold numR;cases d:inE f b e with
  |true=>
   have h:=d;unfold inE at h;simp only[XT,Bool.not_eq_true']at h;refine Et ?_ (s (i+1) (a.1++[getV f b e],putV a.2.1 a.2.2 e (getV f b e)) m (by omega) (by simp[k]));unfold F_fu;simp only[g.lt,g.ix,XG,g.nx,QoL j,h.1,h.2,Qra j];rw[Qd0 a.1 [getV f b e] (by simp;omega)];exact Qa _
  |false=>
   refine Eh ?_;unfold F_fu;simp only[g.lt,g.ix,XG,QoL j];unfold inE at d;cases q:decide (getV f b e<e.lo)with
   |true=>exact Qa _
   |false=>
    rw[q]at d;simp[Xi,Vu,Bool.not_eq_false']at d;simp[d];exact Qa _
def suspB(f:Fact):Int:=bif f.Appeal.Suspends then 1 else 0
def restS(f:Fact):Fact:={Uk with Ruling:={Ur with Kind:=f.Ruling.Kind:Ruling},Kind:=f.Kind:Fact}
def lastF(f x:Fact)(s:Int):Fact:=
 let y:Fact:=bif f.Kind != 10 then {x with Ruling:={x.Ruling with Kind:=0:Ruling}:Fact}else x
 {y with Appeal:={Case:=y.Appeal.Case,Suspends:=s==1:Appeal}:Fact}
def numF(f:Fact):List Int×Bool:=bif fineU f (openU f)then(match numR f (suspB f) (entsS f) ([],restS f,0)with
  |.cont a=>(a.1,lastF f a.2.1 a.2.2==f)
  |.done r=>r)else([],false)
theorem QnA(n:Nat)(f:Fact):F_di n ({Uk with Ruling:={Ur with Kind:=f.Ruling.Kind:Ruling}:Fact}) 0 f=some (entsS f):=by
 have a:openU ({({Uk with Ruling:={Ur with Kind:=f.Ruling.Kind:Ruling}:Fact})with Kind:=f.Kind:Fact})=openU f:=rfl;unfold F_di entsS;rw[Qmk];rw[a];unfold F_br;generalize openU f=u;cases u<;>(rfl)
theorem QmF(f:Fact):Ev (λn=>F_ch n f) (numF f):=by
 refine Ea (v:=suspB f) ?_ ?_
 .grind[suspB,Qa]
 refine Ea (v:=bif fineU f (openU f)then .cont (bodyL (openU f))else .done ([],false)) ?_ ?_
 .simp[Qmk];generalize openU f=u;cases u with
  |c3=>unfold fineU;cases decide (f.Sync.Min<=f.Sync.Max)<;>exact Qa _
  |c4=>unfold fineU;cases decide (f.Hand.Lo<=f.Hand.Hi)<;>exact Qa _
  |c5=>unfold fineU;cases decide (f.Silence.Lo<=f.Silence.Hi)<;>exact Qa _
  |c6=>unfold fineU;cases decide (f.Pair.A<f.Pair.B)<;>exact Qa _
  |_=>exact Qa _
 unfold numF;cases fineU f (openU f)with
 |false=>exact Qa _
 |true=>
  have e:app headL (bodyL (openU f))=some (entsS f):=Qd0 _ _ (by have:=QgK f;unfold entsS at this;rw[XY]at this;omega);unfold F_br;simp[XG];refine Ea (Ez e) ?_;refine Ea (Ez (QnA 0 f)) (Ea (Qp8 f (suspB f) (entsS f) (Qnx f) (QgK f) (entsS f) 0 ([],restS f,0) rfl (XR _) rfl).ev ?_);cases numR f (suspB f) (entsS f) ([],restS f,0)with
  |done r=>exact Qa _
  |cont a=>
   refine Ea ?_ (Qa _);cases(f.Kind != 10)<;>exact Qa _
def validS(f:Fact):Bool:=(numF f).2
theorem Qaj(f:Fact):Ev (λn=>F_au n f) (bif validS f then 0 else 120):=by
 refine Ea (QmF f) ?_
 grind[validS,Qa]
theorem QkX{f:Fact}(h:validS f=true):(f.Kind==0)=false:=by
 cases q:(f.Kind==0)with
 |false=>rfl
 |true=>
  have hk:=by simpa using q
  have a:openU f=.c13 ():=by unfold openU;rw[hk];rfl
  unfold validS numF at h;rw[a]at h;cases h
set_option maxRecDepth 4000
def numN(v:Nat):List Int:=if h:128<=v then orI .u8 (u8.wrap (v:Int)) 128::numN (v/128)else[u8.wrap (v:Int)]
termination_by v
decreasing_by omega
theorem Qf2{v:Nat}(h:128<=v):numN v=orI .u8 (u8.wrap (v:Int)) 128::numN (v/128):=by
 rw[numN,dif_pos h]
theorem Qad{v:Nat}(h:¬128<=v):numN v=[u8.wrap (v:Int)]:=by
 rw[numN,dif_neg h]
theorem shr7(v:Nat):Qc2 .u64 (v:Int) 7=((v/128:Nat):Int):=by
 show Int.fdiv v (2^7)=_
 grind
theorem QjH:∀(k v:Nat),v<128^(k+1)->(numN v).length<=k+1:=by
 intro k
 induction k with
 |zero=>
  grind[Qad]
 |succ k a=>
  grind[Qf2]
theorem Qir:∀(k v:Nat) (l:List Int),v<128^(k+1)->l.length+k<4294967296->∃(l':List Int) (a:Nat),EvI (λn=>F_fj n) (l,(v:Int)) (l',(a:Int))/\l'++[u8.wrap (a:Int)]=l++numN v/\l'.length<=l.length+k:=by
 intro k
 induction k with
 |zero=>
  intro v l i e;refine⟨l,v,Eh ?_,by rw[Qad (by omega)],XQ _⟩
  grind[F_fj,Qa]
 |succ k g=>
  intro v l i e;by_cases h:128<=v
  .obtain⟨l',a,d,f,j⟩:=g (v/128) (l++[orI .u8 (u8.wrap v) 128]) (by omega) (by simp;omega);refine⟨l',a,Et ?_ d,?_,?_⟩
   .grind[F_fj,shr7,Y4,Qa]
   .rw[f,Qf2 h];simp
   grind
  .refine⟨l,v,Eh ?_,by rw[Qad h],by omega⟩;unfold F_fj;simp[YU (show¬128<=(v:Int)by omega)];exact Qa _
theorem QgF(v:Nat)(l:List Int)(f:v<18446744073709551616)(hl:l.length<=1000000):Ev (λn=>F_as n l (v:Int)) (l++numN v):=by
 obtain⟨e,h,a,d,g⟩:=Qir 9 v l (by omega) (by omega);refine Ea a.ev ?_
 grind[Y4,Qa]
theorem QbF{v:Nat}(hv:v<18446744073709551616):(numN v).length<=10:=QjH 9 v (by omega)
def zigI(x:Int):Int:=Qid .u64 (QfK .u64 (u64.wrap x) 1) (u64.wrap (Qc2 .i64 x 63))
theorem wrapU(x:Int):0<=u64.wrap x/\u64.wrap x<18446744073709551616:=by
 have e:u64.wrap x=x%18446744073709551616:=by
  rfl
 omega
theorem QfC(x:Int):∃z:Nat,zigI x=(z:Int)/\z<18446744073709551616:=by
 have h:=wrapU ((BitVec.ofInt IntKind.u64.bits (QfK .u64 (u64.wrap x) 1)^^^BitVec.ofInt IntKind.u64.bits (u64.wrap (Qc2 .i64 x 63))).toNat);refine⟨(zigI x).toNat,?_,?_⟩
 .rfl
 .unfold zigI Qid;omega
def oneB(x:Int):List Int:=1::numN (zigI x).toNat
theorem QfZ(x:Int):(oneB x).length<=11:=by
 obtain⟨z,a,d⟩:=QfC x
 grind[oneB,QbF]
theorem Qka(l:List Int)(x:Int)(hl:l.length<=100000):Ev (λn=>F_bx n l ({Kind:=1,N:=x,S:=[],L:=[]:Value})) (l++oneB x):=by
 unfold F_bx F_ce;rw[Y4 l 1 (by omega)];simp only[XG];obtain⟨z,d,e⟩:=QfC x;have a:=d;unfold zigI at a;rw[a];refine Ea (QgF z (l++[1]) e (by simp;omega)) ((Qa _).eq ?_);unfold oneB
 grind
def mkV(x:Int):Value:={Kind:=1,N:=x,S:=[],L:=[]:Value}
def listV(l:List Int):Value:={Kind:=3,N:=0,S:=[],L:=l.map mkV:Value}
theorem Qll(x:Int):Ev (λn=>F_o n (mkV x)) (0,true):=by
 refine QJ ?_;show Ev (λn=>B_o (F_o n) n (mkV x)) _;unfold B_o mkV;cases(x==0)with
 |true=>exact Qa _
 |false=>exact Qa _
theorem QjW(l:List Int)(hl:l.length<=1000):Ev (λn=>F_o n (listV l)) (1,true):=by
 refine QJ ?_;show Ev (λn=>B_o (F_o n) n (listV l)) _;unfold B_o listV;refine Ea (Qa _) ?_;refine Ea (v:=Ctl.cont 0) (Eu (λi=>(0,(i:Int))) (l.map mkV).length rfl (λi d=>?_) ?_) (Qa _)
 .have a:=JH (by grind) (XH d);have f:∃y,(l.map mkV)[i]=mkV y:=by
   grind
  obtain⟨y,e⟩:=f;unfold F_li;simp only[a.lt,a.ix,XG,a.nx];rw[e];exact Ea (Qll y) (Qa _)
 simp_all[F_li,Qa]
def listB(l:List Int):List Int:=[3]++numN l.length++(l.map oneB).flatten
theorem QiF(l:List Int)(hl:l.length<=1000):Ev (λn=>F_ck n (listV l)) (listB l):=by
 unfold F_ck;have p:app ([]:List Int) [3]=some [3]:=rfl;rw[p];simp only[XG];have r:u64.wrap (((listV l).L.length:Int))=((l.length:Nat):Int):=by
  have:u64.wrap (((listV l).L.length:Int))=(((listV l).L.length:Int))%18446744073709551616:=by rfl
  grind[listV]
 rw[r];have j:=QbF (show l.length<18446744073709551616 by omega);refine Ea (QgF l.length [3] (by omega) (by simp)) ?_;refine Ea (v:=listB l) ?_ (Qa _);have h:=QB (step:=λn=>F_jc n (listV l)) (l.map mkV) (λ(a:List Int) (v:Value)=>a++oneB v.N) ([3]++numN l.length) (λa i=>(a,(i:Int))) (λa=>a) (by grind) rfl (λi x a d u=>?_) ?_
 .refine Er h ?_;have:∀(m:List Int) (a:List Int),(m.map mkV).foldl (λ(a:List Int) (v:Value)=>a++oneB v.N) a=a++(m.map oneB).flatten:=by
   intro m
   induction m with
   |nil=>intro a;simp
   |cons x m q=>grind[mkV]
  rw[this];rfl
 .have k:∃y,x=mkV y:=by
   obtain⟨y,_,s⟩:=Xf.1 d.mem
   grind
  obtain⟨y,rfl⟩:=k;have e:a.length<=100000:=by
   have:∀(m:List Int) (a:List Int),((m.map mkV).foldl (λ(a:List Int) (v:Value)=>a++oneB v.N) a).length<=a.length+11*m.length:=by
    intro m
    induction m with
    |nil=>intro a;simp
    |cons x m q=>
     grind[QfZ]
   have t:=this (l.take i) ([3]++numN l.length)
   grind[List.map_take]
  unfold F_jc;have f:decide ((i:Int)<((listV l).L.length:Int))=true:=d.lt;have g:idx (listV l).L (i:Int)=some (mkV y):=d.ix;simp only[f,Vi,g,XG,d.nx];refine Ea (Qka a y e) ?_;exact Qa _
 simp_all[F_jc,listV,Qa]
theorem Qou{f:Fact}{b:Int}:∀(r:List Ent) (a c:List Int×Fact×Int),numR f b r a=.cont c->c.1.length=a.1.length+r.length:=by
 intro r
 induction r with
 |nil=>intro a c h;cases h;rfl
 |cons e r d=>
  grind[numR]
theorem Qov(f:Fact):(numF f).1.length<=12:=by
 unfold numF;cases fineU f (openU f)with
 |false=>simp
 |true=>
  cases h:numR f (suspB f) (entsS f) ([],restS f,0)with
  |cont a=>
   have:=Qou _ _ _ h
   grind[QgK]
  |done r=>
   have:∀(E:List Ent) (a:List Int×Fact×Int),numR f (suspB f) E a=.done r->r=([],false):=by
    intro E
    induction E with
    |nil=>intro a h;cases h
    |cons e E ih=>
     intro a h;unfold numR at h
     grind
   grind
def encF(f:Fact):List Int×Int:=bif validS f then(listB (numF f).1,0)else([],120)
theorem QhX(f:Fact):Ev (λn=>F_ci n f) (encF f):=by
 refine Ea (QmF f) ?_;have l:=Qov f;unfold encF validS;generalize numF f=r at*;cases h:r.2 with
 |false=>exact Qa _
 |true=>
  refine Ea (v:=r.1.map mkV) ?_ ?_
  .refine Er (QB r.1 (λa x=>a++[mkV x]) [] (λa i=>(a,(i:Int))) (λa=>a) (by omega) rfl (λi x a d p=>?_) ?_) ?_
   .unfold F_kt;simp only[d.lt,d.ix,XG,d.nx];have g:a.length<=12:=by
     have:∀(m:List Int) (a:List Value),(m.foldl (λa x=>a++[mkV x]) a).length=a.length+m.length:=by
      intro m
      induction m with
      |nil=>simp
      |cons x m j=>grind
     grind
    grind[Y4,mkV,Qa]
   .simp_all[F_kt,Qa]
   .have:∀(m:List Int) (a:List Value),m.foldl (λa x=>a++[mkV x]) a=a++m.map mkV:=by
     intro m
     induction m with
     |nil=>simp
     |cons x m j=>grind
    grind
  refine Ea (v:=(listB r.1,0)) ?_ (Qa _);have k:=QjW r.1 (by omega);have e:({Kind:=3,N:=0,S:=[],L:=r.1.map mkV:Value})=listV r.1:=rfl;refine Ea (Ea k (Qa _)) ?_;exact Ea (QiF r.1 (by omega)) (Qa _)
def cmpI(a b:Int):Int:=bif decide (a<b)then-1 else bif decide (b<a)then 1 else 0
theorem QiO(n:Nat)(a b:Int):F_an n a b=some (cmpI a b):=by
 unfold F_an F_cf cmpI
 grind
def orL:List Int->Int
 |[]=>0
 |x::r=>bif x != 0 then x else orL r
theorem ev_or(l:List Int)(hl:l.length<=1000):Ev (λn=>F_gu n l) (orL l):=by
 have loop:∀(r:List Int) (i:Nat),l.drop i=r->i<=l.length->EvI (λn=>F_fe n l) i (bif orL r==0 then Ctl.cont ()else Ctl.done (orL r)):=by
  intro r
  induction r with
  |nil=>
   intro i d g;refine Eh ?_;unfold F_fe;simp only[QO d g];exact Qa _
  |cons x r h=>
   intro i d g;obtain⟨a,f⟩:=Qt (by omega) d;have j:=a.lt';unfold orL;cases q:(x != 0)with
   |true=>
    have e:(x==0)=false:=by grind
    simp[Vi,e];refine Eh ?_;unfold F_fe;simp only[a.lt,a.ix,XG,q];exact Qa _
   |false=>
    refine Et ?_ (h (i+1) f (by omega));unfold F_fe;simp only[a.lt,a.ix,XG,q,a.nx];exact Qa _
 refine Ea (loop l 0 rfl (XR _)).ev ?_
 grind[Qa]
def cmpF(f g:Fact):Int:=bif orL [cmpI f.At g.At,cmpI f.Crew g.Crew,cmpI f.No g.No] != 0 then orL [cmpI f.At g.At,cmpI f.Crew g.Crew,cmpI f.No g.No]else cmpB (encF f).1 (encF g).1
theorem QbQ(f g:Fact):Ev (λn=>F_am n f g) (cmpF f g):=by
 unfold F_am cmpF;simp[QiO,XG];refine Ea (ev_or _ (by simp)) ?_;cases(orL [cmpI f.At g.At,cmpI f.Crew g.Crew,cmpI f.No g.No] != 0)with
 |true=>exact Qa _
 |false=>
  exact Ea (QhX f) (Ea (QhX g) (Qa _))
def okS(c:Course)(f:Fact):Bool:=(f.Kind==1)&&(validS f&&(!decide ((c.Distances.length:Int)<=f.Starter.Distance)&& !decide ((c.Waves.length:Int)<=f.Starter.Wave)))
def stepS(c:Course)(m:List (Int×Fact))(f:Fact):List (Int×Fact):=
 bif okS c f then(bif !(Qbj m f.Starter.Bib)||decide (cmpF f (Qy m f.Starter.Bib Uk)<0)then Yk m f.Starter.Bib f else m)else m
def firstS(c:Course)(l:List Fact):List (Int×Fact):=l.foldl (stepS c) []
theorem Qo5(c:Course)(l:List Fact)(hl:l.length<=1048576):Ev (λn=>iter (F_io n c l) n ([],0)) (firstS c l):=by
 refine QB l (stepS c) [] (λa i=>(a,(i:Int))) (λa=>a) (by omega) rfl (λi x a ha _=>?_) ?_
 .unfold F_io;simp only[ha.lt,ha.ix,ha.nx];refine Ea (Ea (v:= !okS c x) ?_ ?_) (Qa _)
  .unfold okS bne;cases(x.Kind==1)with
   |false=>exact Qa _
   |true=>
    refine Ea (Qaj x) ?_;cases validS x with
    |false=>exact Qa _
    |true=>
     cases decide (c.Distances.length<=x.Starter.Distance)with
     |true=>exact Qa _
     |false=>
      simp_all[Qa]
  .unfold stepS;cases okS c x with
   |false=>exact Qa _
   |true=>
    refine Ea (Ep λ_=>Ea (QbQ _ _) (Qa _)) ?_;cases(!(Qbj a x.Starter.Bib)||decide (cmpF x (Qy a x.Starter.Bib Uk)<0))<;>exact Qa _
 simp_all[F_io,Qa]
theorem QjJ{β:Type}(m:List (Int×β))(k:Int):Qbj m k=(YN m k).isSome:=by
 unfold Qbj YN
 grind
theorem QaR{β:Type}(m:List (Int×β))(k:Int):k∈m.map Prod.fst↔ ∃v,YN m k=some v:=by
 have h:=QjJ m k;rw[<- Option.isSome_iff_exists, <- h];unfold Qbj;simp
structure FirstOk (c:Course) (l:List Fact) (m:List (Int×Fact)):Prop where
 nodup:(m.map Prod.fst).Nodup
 ok:∀k f,YN m k=some f->f.Starter.Bib=k/\okS c f=true/\f∈l
 len:m.length<=l.length
theorem QjI{β:Type}(m:List (Int×β))(k:Int)(v:β):(Yk m k v).length<=m.length+1:=by
 have:=congrArg List.length (Qeq m k v)
 grind
theorem Qf3{β:Type}{m:List (Int×β)}(k:Int)(v:β)(h:(m.map Prod.fst).Nodup):((Yk m k v).map Prod.fst).Nodup:=by
 have e:=Qeq m k v
 grind
theorem Qbt(c:Course)(l:List Fact):FirstOk c l (firstS c l):=by
 have j:∀(r:List Fact) (p:List Fact) (m:List (Int×Fact)),FirstOk c p m->FirstOk c (p++r) (r.foldl (stepS c) m):=by
  intro r
  induction r with
  |nil=>simp
  |cons f r s=>
   intro p m h;have n:FirstOk c (p++[f]) (stepS c m f):=by
    have keep:FirstOk c (p++[f]) m:=⟨h.nodup,λk g i=>by obtain⟨a,b,d⟩:=h.ok k g i;grind,by have:=h.len;simp;omega⟩;unfold stepS;cases q:okS c f with
    |false=>exact keep
    |true=>
     cases(!(Qbj m f.Starter.Bib)||decide (cmpF f (Qy m f.Starter.Bib Uk)<0))with
     |false=>exact keep
     |true=>
      refine⟨Qf3 _ _ h.nodup,λk g i=>?_,?_⟩
      .simp[Vi]at i;rw[Jy]at i;by_cases e:k=f.Starter.Bib
       .rw[Vm e]at i;cases i;exact⟨e.symm,q,by simp⟩
       .rw[Vl e]at i;exact keep.ok k g i
      .have:=QjI m f.Starter.Bib f;have:=h.len;simp[Vi,XY,List.length_singleton];omega
   grind
 have:=j l [] [] ⟨by simp,(λk f h=>by cases h),XQ _⟩;simpa[firstS]using this
theorem QhG{l m:List Int}(h:l.Perm m):Jh ltI l=Jh ltI m:=
 JO ((Qu ltI l).trans (h.trans (Qu ltI m).symm)) (λx _ y _ a b=>by simp[ltI]at*;omega) (Q2 (QdH l)) (Q2 (QdH m))
theorem QcE{n:Nat}(h:n<=1048576):Nat.ble n QC=true:=XP (XS h (by decide))
theorem Qm1(n:Nat)(m:List (Int×Fact))(h:m.length<=1048576):F_cl n m=some (Jh ltI (m.map Prod.fst)):=by
 unfold F_cl QnH;have a:(map Prod.fst m).length<=1048576:=by grind
 rw[QcE a,Vi];refine QiZ λp d=>?_;unfold sortI;rw[QcE (by rw[d.length_eq];exact a)]
 grind[QhG]
def ordF(m:List (Int×Fact)):List Fact:=(Jh ltI (m.map Prod.fst)).map λk=>Qy m k Uk
theorem QdB(m:List (Int×Fact)):(ordF m).length=m.length:=by
 unfold ordF;rw[XX,(Qu _ _).length_eq,XX]
theorem QlC(m:List (Int×Fact))(h:m.length<=1048576):Ev (λn=>F_db n m) (ordF m):=by
 unfold F_db F_gt;simp only[XG];refine Ea ⟨0,λn _=>Qm1 n m h⟩ ?_;have f:(Jh ltI (m.map Prod.fst)).length=m.length:=by rw[(Qu _ _).length_eq,XX]
 refine Ea ?_ (Qa _);unfold ordF;generalize Jh ltI (m.map Prod.fst)=ks at f;have e:ks.map (λk=>Qy m k Uk)=ks.foldl (λa k=>a++[Qy m k Uk]) []:=by
  have:∀(r:List Int) (a:List Fact),r.foldl (λa k=>a++[Qy m k Uk]) a=a++r.map λk=>Qy m k Uk:=by
   intro r
   induction r with
   |nil=>simp
   |cons x r j=>grind
  grind
 rw[e];refine QB ks (λa k=>a++[Qy m k Uk]) [] (λa i=>(a,(i:Int))) (λa=>a) (by omega) rfl (λi x a d l=>?_) ?_
 .unfold F_la;simp only[d.lt,d.ix,XG,d.nx];have g:a.length=i:=by
   have:∀(r:List Int) (a:List Fact),(r.foldl (λa k=>a++[Qy m k Uk]) a).length=a.length+r.length:=by
    intro r
    induction r with
    |nil=>intro a;rfl
    |cons x r j=>grind
   rw[l,this,Xw];have:=d.lt';simp;omega
  have:=d.lt'
  grind[Y4,Qa]
 simp_all[F_la,Qa]
def chipK(f:Fact):Int:=f.Starter.Chip
def startF(e:Int)(c:Course)(l:List Fact):List Starter×Int:=bif e != 0 then([],e)else
 bif decide (((ordF (firstS c l)).map chipK).Nodup)then((ordF (firstS c l)).map (·.Starter),0)else([],180)
theorem Qqn(L:List Fact)(hl:L.length<=1048576):Ev (λn=>iter (F_dr n L) n ([],[],0)) (bif decide ((L.map chipK).Nodup)then Ctl.cont (L.map (·.Starter))else Ctl.done ([],180)):=by
 have loop:∀(r:List Fact) (i:Nat),L.drop i=r->i<=L.length->EvI (λn=>F_dr n L) ((L.take i).map (·.Starter),Ye chipK true (L.take i),i)
   (bif QiU (λ_=>true) chipK ((L.take i).map chipK) r then Ctl.cont (L.map (·.Starter))else Ctl.done ([],180)):=by
  intro r
  induction r with
  |nil=>
   grind[EvI.done,F_dr,QO,QiU,Qa]
  |cons f r j=>
   intro i k m;obtain⟨a,g⟩:=Qt (by omega) k;have l:=a.lt';have d:=Qan chipK true false (L.take i) (chipK f);simp only[QiU];cases q:((L.take i).map chipK).contains (chipK f)with
   |true=>
    have e:chipK f∈(L.take i).map chipK:=by simpa using q
    rw[Vm e]at d;refine Eh ?_;unfold F_dr;simp only[a.lt,a.ix,XG];rw[show f.Starter.Chip=chipK f from rfl,d];exact Qa _
   |false=>
    have e:¬chipK f∈(L.take i).map chipK:=by
     intro z;have:((L.take i).map chipK).contains (chipK f)=true:=by simpa using z
     rw[q]at this;cases this
    rw[Vl e]at d;have h:=j (i+1) g (by omega);rw[a.take,QdE,Xg,Xg]at h;refine Et ?_ h;unfold F_dr;simp only[a.lt,a.ix,XG,a.nx];rw[show f.Starter.Chip=chipK f from rfl,d];rw[Y4 _ _ (by rw[XX,Xw];omega)];exact Qa _
 refine Er (loop L 0 rfl (XR _)).ev ?_;have:=QiT (λ_=>true) chipK L [] (by simp)
 grind
theorem Qkb(e:Int)(c:Course)(l:List Fact)(hl:l.length<=16)(he:Ev (λn=>F_r n c) e):Ev (λn=>F_de n c l) (startF e c l):=by
 unfold F_de startF;refine Ea he ?_;cases(e != 0)with
 |true=>exact Qa _
 |false=>
  refine Ea (Qo5 c l (by omega)) ?_;have h:=Qbt c l;have a:=h.len;rw[YU (show¬(4000:Int)<(firstS c l).length by omega)];refine Yf (Ea (QlC _ (by omega)) (Ea (Qqn _ (by rw[QdB];omega)) ?_))
  grind[Qa]
theorem Qjj{e:Int}{c:Course}{l:List Fact}(h:((startF e c l).2==0)=true):((startF e c l).1.map (·.Bib)).Nodup/\((startF e c l).1.map (·.Chip)).Nodup/\(startF e c l).1.length<=l.length:=by
 unfold startF at h⊢;cases q:(e != 0)with
 |true=>
  simp
 |false=>
  rw[q]at h;simp[Vj]at h⊢;cases i:decide (((ordF (firstS c l)).map chipK).Nodup)with
  |false=>simp
  |true=>
   simp only[Vi];have d:=Qbt c l;refine⟨?_,?_,by rw[XX,QdB];exact d.len⟩
   .have e:((ordF (firstS c l)).map (·.Starter)).map (·.Bib)=Jh ltI ((firstS c l).map Prod.fst):=by
     unfold ordF;rw[List.map_map,List.map_map]
     conv=>rhs;rw[<- List.map_id (Jh ltI ((firstS c l).map Prod.fst))]
     refine List.map_congr_left λk g=>?_;have a:=(Qu ltI _).mem_iff.1 g;obtain⟨v,f⟩:=(QaR _ _).1 a;have:=(d.ok k v f).1;simp[Function.comp,Qy,f,id];exact this
    rw[e];exact(Qu ltI _).symm.nodup d.nodup
   .have:=Vp i;rw[List.map_map];exact this
theorem Qqz{a b:Int}:cmpI a b<0↔a<b:=by
 grind[cmpI]
theorem QrN{a b:Int}:cmpI a b=0↔a=b:=by
 grind[cmpI]
set_option maxRecDepth 4000
theorem Qp7(f:Fact)(b:Int):∀(E:List Ent) (a:List Int×Fact×Int),numR f b E a=bif E.all (inE f b)then .cont (a.1++E.map (getV f b),E.foldl (λp e=>putV p.1 p.2 e (getV f b e)) a.2)else .done ([],false):=by
 intro E
 induction E with
 |nil=>simp[numR]
 |cons e E ih=>
  intro a;unfold numR
  grind
def onlyS(f:Fact):Fact:={Crew:=f.Crew,No:=f.No,At:=f.At,Kind:=f.Kind,Starter:=(bif f.Kind==1 then f.Starter else Uk.Starter),Read:=(bif f.Kind==2 then f.Read else Uk.Read),Beacon:=(bif f.Kind==3 then f.Beacon else Uk.Beacon),Sync:=(bif f.Kind==4 then f.Sync else Uk.Sync),Hand:=(bif f.Kind==5 then f.Hand else Uk.Hand),Silence:=(bif f.Kind==6 then f.Silence else Uk.Silence),Pair:=(bif f.Kind==7 then f.Pair else Uk.Pair),Report:=(bif f.Kind==8 then f.Report else Uk.Report),Protest:=(bif f.Kind==9 then f.Protest else Uk.Protest),Ruling:=(bif f.Kind==10 then f.Ruling else Uk.Ruling),Appeal:=(bif f.Kind==11 then f.Appeal else Uk.Appeal),Void:=(bif f.Kind==13 then f.Void else Uk.Void):Fact}
def numsS(f:Fact):List Int:=[f.Kind,f.Crew,f.No,f.At]++(
 bif f.Kind==1 then[f.Starter.Bib,f.Starter.Distance,f.Starter.Wave,f.Starter.Slot,f.Starter.Age,f.Starter.Chip,f.Starter.Team,f.Starter.Lot]
 else bif f.Kind==2 then[f.Read.Mat,f.Read.Epoch,f.Read.Chip,f.Read.Local]
 else bif f.Kind==3 then[f.Beacon.Mat,f.Beacon.Epoch,f.Beacon.Local,f.Beacon.True,f.Beacon.Err]
 else bif f.Kind==4 then[f.Sync.MatA,f.Sync.EpochA,f.Sync.LocalA,f.Sync.MatB,f.Sync.EpochB,f.Sync.LocalB,f.Sync.Min,f.Sync.Max]
 else bif f.Kind==5 then[f.Hand.Bib,f.Hand.Position,f.Hand.Lo,f.Hand.Hi]
 else bif f.Kind==6 then[f.Silence.Mat,f.Silence.Epoch,f.Silence.Lo,f.Silence.Hi]
 else bif f.Kind==7 then[f.Pair.A,f.Pair.B]
 else bif f.Kind==8 then[f.Report.Case,f.Report.Bib,f.Report.Offence,f.Report.Position]
 else bif f.Kind==9 then[f.Protest.Case,f.Protest.By,f.Protest.Fee,f.Protest.Form]
 else bif f.Kind==10 then[f.Ruling.Case,f.Ruling.Instance,f.Ruling.Kind,f.Ruling.Bib,f.Ruling.Position,f.Ruling.Amount]
 else bif f.Kind==11 then[f.Appeal.Case,suspB f]
 else bif f.Kind==13 then[f.Void.Crew,f.Void.No]else[])
theorem kinds(f:Fact):f.Kind=1\/f.Kind=2\/f.Kind=3\/f.Kind=4\/f.Kind=5\/f.Kind=6\/f.Kind=7\/f.Kind=8\/f.Kind=9\/f.Kind=10\/f.Kind=11\/f.Kind=12\/f.Kind=13\/openU f=.c13 ():=by
 by_cases a:f.Kind=1; · exact .inl a
 by_cases n:f.Kind=2; · omega
 by_cases p:f.Kind=3; · omega
 by_cases j:f.Kind=4; · omega
 by_cases m:f.Kind=5; · omega
 by_cases l:f.Kind=6; · omega
 by_cases i:f.Kind=7; · omega
 by_cases q:f.Kind=8; · omega
 by_cases k:f.Kind=9; · omega
 by_cases e:f.Kind=10; · omega
 by_cases g:f.Kind=11; · omega
 by_cases h:f.Kind=12; · omega
 by_cases d:f.Kind=13; · omega
 refine .inr (.inr (.inr (.inr (.inr (.inr (.inr (.inr (.inr (.inr (.inr (.inr (.inr ?_))))))))))));unfold openU
 grind
def copyS(f:Fact):Fact×Int:=(entsS f).foldl (λp e=>putV p.1 p.2 e (getV f (suspB f) e)) (restS f,0)
theorem Qis(f:Fact):numF f=bif fineU f (openU f)then(bif (entsS f).all (inE f (suspB f))then((entsS f).map (getV f (suspB f)),lastF f (copyS f).1 (copyS f).2==f)else([],false))else([],false):=by
 unfold numF;rw[Qp7];cases fineU f (openU f)with
 |false=>rfl
 |true=>
  cases(entsS f).all (inE f (suspB f))with
  |false=>rfl
  |true=>rfl
theorem Qeu(f:Fact)(h:¬openU f=.c13 ()):lastF f (copyS f).1 (copyS f).2=onlyS f/\(entsS f).map (getV f (suspB f))=numsS f:=by
 rcases kinds f with k|k|k|k|k|k|k|k|k|k|k|k|k|k
 case inr.inr.inr.inr.inr.inr.inr.inr.inr.inr.inl=>
  obtain⟨Cr,No,At,Ki,S,R,B,Sy,Ha,Si,Pa,Re,Pr,Ru,⟨Ca,Su⟩,Vo⟩:=f;subst k;cases Su<;>exact⟨by kernel_rfl,by kernel_rfl⟩
 case inr.inr.inr.inr.inr.inr.inr.inr.inr.inl=>
  obtain⟨Cr,No,At,Ki,S,R,B,Sy,Ha,Si,Pa,Re,Pr,⟨g,i,a,l,e,j⟩,Ap,Vo⟩:=f;subst k;have:∃x,openU ⟨Cr,No,At,10,S,R,B,Sy,Ha,Si,Pa,Re,Pr,⟨g,i,a,l,e,j⟩,Ap,Vo⟩=.c9 x:=by
   unfold openU;cases((a==1)||(a==2))with
   |true=>simp
   |false=>
    cases(a==3)with
    |true=>simp
    |false=>cases(a==4)<;>exact⟨_,rfl⟩
  obtain⟨x,d⟩:=this;unfold copyS entsS;rw[d];exact⟨by kernel_rfl,by kernel_rfl⟩
 case inr.inr.inr.inr.inr.inr.inr.inr.inr.inr.inr.inr.inr=>grind
 all_goals
  obtain⟨Cr,No,At,Ki,S,R,B,Sy,Ha,Si,Pa,Re,Pr,Ru,Ap,Vo⟩:=f;subst k;exact⟨by kernel_rfl,by kernel_rfl⟩
def contS(f:Fact):Bool:=fineU f (openU f)&&(bodyL (openU f)).all (inE f (suspB f))
def headS(f:Fact):Bool:=headL.all (inE f (suspB f))
theorem Qcv(f:Fact):validS f=(headS f&&contS f&&(onlyS f==f)):=by
 unfold validS contS headS;rw[Qis];by_cases h:openU f=.c13 ()
 .simp_all[fineU]
 .obtain⟨a,d⟩:=Qeu f h;rw[a];unfold entsS
  grind
theorem QkW{f:Fact}(h:validS f=true):(numF f).1=numsS f:=by
 unfold validS at h;rw[Qis]at h⊢;by_cases q:openU f=.c13 ()
 .simp_all[fineU]
 grind[Qeu]
theorem QfD{f:Fact}(h:validS f=true):onlyS f=f:=by
 simp_all[Qcv]
theorem Qot{f g:Fact}(l:validS f=true)(hg:validS g=true)(h:numsS f=numsS g):f=g:=by
 have z:=QfD l;have T:=QfD hg;rw[<- z, <- T];unfold numsS at h;have E:f.Kind=g.Kind:=by
  grind
 have nk:=QkX l;rcases kinds f with k|k|k|k|k|k|k|k|k|k|k|k|k|k
 case inr.inr.inr.inr.inr.inr.inr.inr.inr.inr.inr.inr.inr=>
  grind[Qcv,contS,fineU]
 all_goals
  have e:=E.symm.trans k;obtain⟨Cr,No,At,Ki,⟨s1,s2,s3,s4,s5,s6,s7,s8⟩,⟨u,am,B,L⟩,⟨b1,b2,b3,b4,b5⟩,⟨y1,y2,y3,y4,y5,y6,y7,y8⟩,⟨h1,h2,h3,h4⟩,⟨i1,i2,i3,i4⟩,⟨p1,p2⟩,⟨u1,u2,u3,u4⟩,⟨o1,o2,o3,o4⟩,⟨r1,r2,r3,r4,r5,r6⟩,⟨a1,a2⟩,⟨v1,v2⟩⟩:=f;obtain⟨Cr',No',At',Ki',⟨a4,N,G,ai,Y,O,aj,ag⟩,⟨a,d,i,j⟩,⟨an,az,p,ae,af⟩,⟨q,R,ak,ah,al,F,ar,n⟩,⟨r,a0,w,V⟩,⟨aq,av,aa,X⟩,⟨M,P⟩,⟨m,y,W,J⟩,⟨a3,ac,ay,t⟩,⟨a5,s,x,H,au,Q⟩,⟨ab,ao⟩,⟨ax,aw⟩⟩:=g;simp only at k e;subst k;subst e
  grind[suspB,onlyS]
set_option maxRecDepth 4000
theorem Qct(x:Int):u64.wrap x=x%18446744073709551616:=by rfl
theorem QkV(x:Int):u8.wrap x=x%256:=by unfold IntKind.wrap;rfl
theorem or8(a b:Int):orI .u8 a b=(((BitVec.ofInt 8 a|||BitVec.ofInt 8 b).toNat:Nat):Int)%256:=by rfl
theorem QqN(a b:Int):Qid .u64 a b=(((BitVec.ofInt 64 a^^^BitVec.ofInt 64 b).toNat:Nat):Int)%18446744073709551616:=by rfl
theorem or128(v:Nat):orI .u8 (u8.wrap (v:Int)) 128=((v%128+128:Nat):Int):=by
 have a:∀m:Fin 256,((BitVec.ofNat 8 m.val|||128#8).toNat)=m.val%128+128:=by decide
 have d:v%256<256:=(by omega);have k:(BitVec.ofNat 8 (v%256)|||128#8).toNat=v%256%128+128:=a ⟨v%256,d⟩;have e:BitVec.ofInt 8 (v%256)=BitVec.ofNat 8 (v%256):=by
  rfl
 have f:BitVec.ofInt 8 128=128#8:=by rfl
 rw[or8,QkV,e,f,k];omega
theorem QcA(v:Nat):numN v=if 128<=v then((v%128+128:Nat):Int)::numN (v/128)else[(v:Int)]:=by
 by_cases h:128<=v
 .rw[Qf2 h,Vm h,or128]
 .rw[Qad h,Vl h,QkV]
  grind
theorem QjG:∀(v w:Nat) (a b:List Int),numN v++a=numN w++b->v=w/\a=b:=by
 intro v
 induction v using Nat.strongRecOn with
 |_ v d=>
 intro w a b h;rw[QcA v,QcA w]at h
 grind
theorem Qf1:∀(v:Nat),∀x∈numN v,0<=x/\x<256:=by
 intro v
 induction v using Nat.strongRecOn with
 |_ v d=>
 intro x a;rw[QcA v]at a
 grind
theorem Ql8{x:Int}(h0:0<=x)(f:x<9223372036854775808):zigI x=2*x:=by
 unfold zigI QfK;have e:Qc2 .i64 x 63=0:=by
  show Int.fdiv x (2^63)=0
  grind
 have a:(2:Int)^(min (1:Int).toNat IntKind.u64.bits)=2:=by decide
 rw[e,a,QqN];simp only[Qct];have d:BitVec.ofInt 64 (0%18446744073709551616)=0#64:=by rfl
 rw[d,BitVec.xor_zero,BitVec.toNat_ofInt];omega
theorem Ql9{x:Int}(h0:x<0)(f: -9223372036854775808<=x):zigI x= -2*x-1:=by
 unfold zigI QfK;have e:Qc2 .i64 x 63= -1:=by
  show Int.fdiv x (2^63)= -1
  grind
 have a:(2:Int)^(min (1:Int).toNat IntKind.u64.bits)=2:=by decide
 rw[e,a,QqN];simp only[Qct];have d:BitVec.ofInt 64 (-1%18446744073709551616)=BitVec.allOnes 64:=by decide
 rw[d,BitVec.xor_allOnes,BitVec.toNat_not,BitVec.toNat_ofInt];omega
def in63(x:Int):Prop:= -9223372036854775808<=x/\x<9223372036854775808
theorem QpW{x y:Int}(f:in63 x)(e:in63 y)(h:zigI x=zigI y):x=y:=by
 obtain⟨a,b⟩:=f;obtain⟨c,d⟩:=e
 grind[Ql8,Ql9]
theorem QjE:∀(l m:List Int),l.length=m.length->(∀x∈l,in63 x)->(∀x∈m,in63 x)->(l.map oneB).flatten=(m.map oneB).flatten->l=m
 |[],[],_,_,_,_=>rfl
 |x::l,y::m,hl,h1,h2,h=>by
  simp[Vd,Vf,oneB,VE,List.cons.injEq,true_and]at h;obtain⟨e1,e2⟩:=QjG _ _ _ _ h;obtain⟨z,p1,p2⟩:=QfC x;obtain⟨z',q1,q2⟩:=QfC y;rw[p1,q1]at e1;have:=QpW (h1 x (by simp)) (h2 y (by simp)) (by omega);rw[this,QjE l m (by grind) (by grind) (by grind) e2]
theorem Qne{l m:List Int}(a:∀x∈l,in63 x)(d:∀x∈m,in63 x)(h:listB l=listB m):l=m:=by
 unfold listB at h;simp[VE,List.cons.injEq,true_and]at h
 grind[QjG,QjE]
theorem QeV(l:List Int):∀x∈listB l,0<=x/\x<256:=by
 intro x a;unfold listB at a;simp only[Vx,Vv,List.mem_flatten,Xf]at a;rcases a with(rfl|a)|⟨m,⟨y,_,rfl⟩,a⟩
 .omega
 .exact Qf1 _ x a
 .rcases X0.1 a with rfl|a
  .omega
  .exact Qf1 _ x a
structure CmpOK {α:Type} (c:α->α->Int):Prop where
 swap:∀x y,c y x= -c x y
 trans:∀x y z,c x y<0->c y z<0->c x z<0
 eqt:∀x y z,c x y=0->c x z=c y z
section
variable {α:Type} {c d:α->α->Int}
theorem CmpOK.refl(h:CmpOK c)(x:α):c x x=0:=by have:=h.swap x x;omega
theorem CmpOK.eqr(h:CmpOK c){x y:α}(z:α)(e:c x y=0):c z x=c z y:=by
 rw[h.swap x z,h.swap y z,h.eqt x y z e]
theorem QeM(h:CmpOK c)(k:CmpOK d):CmpOK λx y=>bif c x y != 0 then c x y else d x y:=by
 refine⟨λx y=>?_,λx y z=>?_,λx y z=>?_⟩
 .have e:=h.swap x y;by_cases q:c x y=0
  .have f:c y x=0:=by omega
   rw[q,f];exact k.swap x y
  grind
 .by_cases q:c x y=0
  .have e:=h.eqt x y z q;rw[q,e];by_cases f:c y z=0
   .rw[f];exact k.trans x y z
   grind
  .rw[bne_iff_ne.2 q];by_cases f:c y z=0
   .have e:=h.eqr x f
    grind
   .rw[bne_iff_ne.2 f];intro a b;have:=h.trans x y z a b
    grind
 .by_cases q:c x y=0
  .rw[q,h.eqt x y z q];intro e;rw[k.eqt x y z e]
  grind
theorem CmpOK.on{β:Type}(h:CmpOK c)(f:β->α):CmpOK λx y=>c (f x) (f y):=
 ⟨λx y=>h.swap _ _,λx y z=>h.trans _ _ _,λx y z=>h.eqt _ _ _⟩
end
theorem cmpI_ok:CmpOK cmpI:=by
 have e:∀a b,cmpI a b=if a<b then-1 else if b<a then 1 else 0:=by
  intro a b;unfold cmpI
  grind
 refine⟨λx y=>?_,λx y z=>?_,λx y z=>?_⟩
 iterate 3 grind
theorem cb_ok:CmpOK Lib.compareBytes:=by
 have f:∀x y:List UInt8,Lib.compareBytes y x= -Lib.compareBytes x y:=by
  intro x
  induction x with
  |nil=>intro y;cases y<;>simp[Lib.compareBytes]
  |cons a x e=>
   intro y;cases y with
   |nil=>rfl
   |cons b y=>
    unfold Lib.compareBytes
    grind
 have eq:∀x y:List UInt8,Lib.compareBytes x y=0->x=y:=by
  intro x
  induction x with
  |nil=>intro y h;cases y with
   |nil=>rfl
   |cons b y=>simp[Lib.compareBytes]at h
  |cons a x e=>
   intro y h;cases y with
   |nil=>simp[Lib.compareBytes]at h
   |cons b y=>
    unfold Lib.compareBytes at h
    grind
 refine⟨f,?_,(by grind)⟩;intro x
 induction x with
 |nil=>
  intro y z h k;cases y with
  |nil=>omega
  |cons b y=>cases z with
   |nil=>grind
   |cons d z=>simp[Lib.compareBytes]
 |cons a x e=>
  intro y z h k;cases y with
  |nil=>simp[Lib.compareBytes]at h
  |cons b y=>
   cases z with
   |nil=>simp[Lib.compareBytes]at k
   |cons d z=>
    unfold Lib.compareBytes at h k⊢
    grind
theorem Qpl:∀{x y:List UInt8},Lib.compareBytes x y=0->x=y
 |[],[],_=>rfl
 |[],_::_,h=>by simp[Lib.compareBytes]at h
 |_::_,[],h=>by simp[Lib.compareBytes]at h
 |a::x,b::y,h=>by
  unfold Lib.compareBytes at h;by_cases q:a<b
  .grind
  .rw[Vl q]at h;by_cases q2:b<a
   .grind
   .rw[Vl q2]at h;have:a=b:=by
     grind
    rw[this,Qpl h]
theorem Qh1:∀{l m:List Int},(∀x∈l,0<=x/\x<256)->(∀x∈m,0<=x/\x<256)->l.map Yc=m.map Yc->l=m
 |[],[],_,_,_=>rfl
 |[],_::_,_,_,h=>by simp at h
 |_::_,[],_,_,h=>by simp at h
 |x::l,y::m,h1,h2,h=>by
  simp[Vd,List.cons.injEq]at h;have a1:=h1 x (by simp);have a2:=h2 y (by simp);have e:=congrArg UInt8.toNat h.1;unfold Yc at e;rw[UInt8.toNat_ofNat',UInt8.toNat_ofNat']at e;have:x=y:=by omega
  rw[this,Qh1 (by grind) (by grind) h.2]
theorem QgP(f g:Fact):cmpF f g=bif cmpI f.At g.At != 0 then cmpI f.At g.At else bif cmpI f.Crew g.Crew != 0 then cmpI f.Crew g.Crew else bif cmpI f.No g.No != 0 then cmpI f.No g.No else cmpB (encF f).1 (encF g).1:=by
 unfold cmpF orL orL orL orL
 grind
theorem QmI:CmpOK cmpF:=by
 have h:=QeM (cmpI_ok.on λf=>f.At) (QeM (cmpI_ok.on λf=>f.Crew) (QeM (cmpI_ok.on λf=>f.No) (cb_ok.on λf=>(encF f).1.map Yc)));have e:=by
  funext f g;exact QgP f g
 rw[e];exact h
def wideE(e:Ent):Bool:=decide (-1125899906842624<=e.lo)&&decide (e.hi<=1125899906842624)
theorem Qnw(f:Fact):(entsS f).all wideE=true:=by
 unfold entsS;rw[List.all_append,XT];refine⟨rfl,?_⟩;rcases kinds f with k|k|k|k|k|k|k|k|k|k|k|k|k|k
 case inr.inr.inr.inr.inr.inr.inr.inr.inr.inl=>
  unfold openU;rw[k];cases((f.Ruling.Kind==1)||(f.Ruling.Kind==2))with
  |true=>rfl
  |false=>
   cases(f.Ruling.Kind==3)with
   |true=>rfl
   |false=>cases(f.Ruling.Kind==4)<;>rfl
 case inr.inr.inr.inr.inr.inr.inr.inr.inr.inr.inr.inr.inr=>rw[k];rfl
 all_goals
  unfold openU;rw[k];rfl
theorem Qf0{f:Fact}(h:validS f=true):∀x∈numsS f,in63 x:=by
 unfold validS at h;rw[Qis]at h;by_cases q:openU f=.c13 ()
 .rw[q]at h;cases h
 .rw[<- (Qeu f q).2];cases a:fineU f (openU f)with
  |false=>grind
  |true=>
   rw[a]at h;cases b:(entsS f).all (inE f (suspB f))with
   |false=>grind
   |true=>
    intro x j;obtain⟨e,g,rfl⟩:=Xf.1 j;have d:=Xs.1 b e g;have i:=Xs.1 (Qnw f) e g;unfold inE at d;unfold wideE at i;simp[XT,Bool.not_eq_true',decide_eq_false_iff_not,Vk]at d i;unfold in63;omega
theorem Qey{f:Fact}(h:validS f=true):encF f=(listB (numsS f),0):=by
 unfold encF;rw[h,QkW h];rfl
theorem QcF{f g:Fact}(a:validS f=true)(hg:validS g=true)(h:cmpF f g=0):f=g:=by
 rw[QgP]at h;have z:cmpB (encF f).1 (encF g).1=0:=by
  grind
 rw[Qey a,Qey hg]at z;have e:=Qh1 (QeV _) (QeV _) (Qpl z)
 grind[Qot,Qne,Qf0]
set_option maxRecDepth 4000
theorem Qaa{α:Type}{R:α->α->Prop}(d:∀x,¬R x x)(f:∀x y z,R x y->R y z->R x z):∀{l m:List α},l.Pairwise R->m.Pairwise R->(∀x,x∈l↔x∈m)->l=m
 |[],[],_,_,_=>rfl
 |[],b::m,_,_,h=>by have:=(h b).2 (by simp);cases this
 |a::l,[],_,_,h=>by have:=(h a).1 (by simp);cases this
 |a::l,b::m,hl,hm,h=>by
  rw[Xc]at hl hm;have e:a=b:=by
   rcases X0.1 ((h a).1 (by simp))with e|g
   .exact e
   .rcases X0.1 ((h b).2 (by simp))with e|i
    .exact e.symm
    grind
  subst e;congr 1;refine Qaa d f hl.2 hm.2 λx=>?_
  grind
def insC(x:Fact):List Fact->List Fact
 |[]=>[x]
 |y::r=>bif decide (cmpF y x<0)then y::insC x r else bif y==x then y::r else x::y::r
def canonS(l:List Fact):List Fact:=l.foldl (λa x=>bif validS x then insC x a else a) []
def ltF(a b:Fact):Prop:=cmpF a b<0
theorem QbG(x:Fact):¬ltF x x:=by unfold ltF;have:=QmI.refl x;omega
theorem Qdb(x y z:Fact):ltF x y->ltF y z->ltF x z:=QmI.trans x y z
theorem QdK(x:Fact):∀(l:List Fact) (z:Fact),z∈insC x l↔z=x\/z∈l
 |[],z=>by simp[insC]
 |y::r,z=>by
  unfold insC;cases decide (cmpF y x<0)with
  |true=>
   simp[Vi,X0,QdK x r z]
   grind
  |false=>
   grind
def CanonOK(l:List Fact):Prop:=l.Pairwise ltF/\ ∀f∈l,validS f=true
theorem Qmr{x:Fact}(a:validS x=true):∀{l:List Fact},CanonOK l->CanonOK (insC x l)
 |[],_=>⟨by simp[insC],by simp[insC,a]⟩
 |y::r,h=>by
  obtain⟨h1,h2⟩:=h;rw[Xc]at h1;have hr:CanonOK r:=⟨h1.2,(by grind)⟩;have ih:=Qmr a hr;refine⟨?_,λf hf=>?_⟩
  .unfold insC;cases q:decide (cmpF y x<0)with
   |true=>
    simp[Vi,Xc];refine⟨λz hz=>?_,ih.1⟩;rcases(QdK x r z).1 hz with rfl|hz
    .show cmpF y z<0
     grind
    grind
   |false=>
    simp[Vj];cases q2:(y==x)with
    |true=>simp_all
    |false=>
     simp only[Vj,Xc];have lt:ltF x y:=by
      have g:=Vq q;have d:¬cmpF y x=0:=λe=>by
       have:=QcF (h2 y (by simp)) a e
       grind
      have:=QmI.swap x y;unfold ltF;omega
     refine⟨λz hz=>?_,h1⟩;rcases X0.1 hz with rfl|hz
     .exact lt
     .exact Qdb _ _ _ lt (h1.1 z hz)
  .rcases(QdK x (y::r) f).1 hf with rfl|hf
   .exact a
   grind
theorem YT(l:List Fact):CanonOK (canonS l)/\ ∀f,f∈canonS l↔f∈l/\validS f=true:=by
 have d:∀(r a:List Fact),CanonOK a->CanonOK (r.foldl (λa x=>bif validS x then insC x a else a) a)/\ ∀f,f∈r.foldl (λa x=>bif validS x then insC x a else a) a↔f∈a\/(f∈r/\validS f=true):=by
  intro r
  induction r with
  |nil=>simp
  |cons x r i=>
   intro a h;rw[XB];cases q:validS x with
   |false=>
    grind
   |true=>
    obtain⟨e,g⟩:=i (insC x a) (Qmr q h);refine⟨e,λf=>?_⟩;rw[Vi,g f,QdK,X0];constructor
    .rintro((rfl|a)|⟨a,b⟩)
     .exact .inr ⟨.inl rfl,q⟩
     .exact .inl a
     .exact .inr ⟨.inr a,b⟩
    .rintro(a|⟨rfl|a,b⟩)
     .exact .inl (.inr a)
     .exact .inl (.inl rfl)
     .exact .inr ⟨a,b⟩
 obtain⟨e,g⟩:=d l [] ⟨by simp,by simp⟩
 grind[canonS]
theorem Qdg{l m:List Fact}(h:∀f,validS f=true->(f∈l↔f∈m)):canonS l=canonS m:=by
 obtain⟨d,g⟩:=YT l;obtain⟨a,e⟩:=YT m;refine Qaa QbG Qdb d.1 a.1 λf=>?_
 grind
def FirstIs(c:Course)(l:List Fact)(f:Fact):Prop:=f∈l/\okS c f=true/\ ∀g∈l,okS c g=true->g.Starter.Bib=f.Starter.Bib->¬cmpF g f<0
theorem QdM{c:Course}{l:List Fact}{h:Fact}(w:h∈l)(h0:okS c h=true):∃f,f∈l/\okS c f=true/\(f.Starter.Bib=h.Starter.Bib/\ ∀g∈l,okS c g=true->g.Starter.Bib=f.Starter.Bib->¬cmpF g f<0):=by
 have fin:∀(s:List Fact),(∃g∈s,okS c g=true/\g.Starter.Bib=h.Starter.Bib)->∃f∈s,okS c f=true/\f.Starter.Bib=h.Starter.Bib/\ ∀g∈s,okS c g=true->g.Starter.Bib=h.Starter.Bib->¬cmpF g f<0:=by
  intro s
  induction s with
  |nil=>simp
  |cons y s m=>
   intro j;by_cases i:okS c y=true/\y.Starter.Bib=h.Starter.Bib
   .by_cases t:∃g∈s,okS c g=true/\g.Starter.Bib=h.Starter.Bib
    .obtain⟨f,r,q,u,n⟩:=m t;by_cases p:cmpF y f<0
     .refine⟨y,by simp,i.1,i.2,?_⟩;intro g a e d;rcases X0.1 a with rfl|a
      .have:=QmI.refl g;omega
      .intro k;exact n g a e d (QmI.trans _ _ _ k p)
     .refine⟨f,by simp[r],q,u,?_⟩;intro g a e d;rcases X0.1 a with rfl|a
      .exact p
      .exact n g a e d
    .refine⟨y,by simp,i.1,i.2,?_⟩;intro g a e d;rcases X0.1 a with rfl|a
     .have:=QmI.refl g;omega
     .exact absurd ⟨g,a,e,d⟩ t
   .have t:∃g∈s,okS c g=true/\g.Starter.Bib=h.Starter.Bib:=by
     obtain⟨g,a,e,d⟩:=j;rcases X0.1 a with rfl|a
     .exact absurd ⟨e,d⟩ i
     .exact⟨g,a,e,d⟩
    obtain⟨f,r,q,u,n⟩:=m t;refine⟨f,by simp[r],q,u,?_⟩;intro g a e d;rcases X0.1 a with rfl|a
    .exact absurd ⟨e,d⟩ i
    .exact n g a e d
 obtain⟨f,r,q,u,n⟩:=fin l ⟨h,w,h0,rfl⟩
 grind
theorem JU{c:Course}{f:Fact}(h:okS c f=true):validS f=true:=by
 simp_all[okS]
theorem FirstIs.one{c:Course}{l:List Fact}{f g:Fact}(a:FirstIs c l f)(hg:FirstIs c l g)(e:f.Starter.Bib=g.Starter.Bib):f=g:=by
 have d:=a.2.2 g hg.1 hg.2.1 e.symm;have h:=hg.2.2 f a.1 a.2.1 e;have:=QmI.swap f g;exact QcF (JU a.2.1) (JU hg.2.1) (by omega)
theorem QhN(c:Course)(l:List Fact):∀b f,YN (firstS c l) b=some f↔f.Starter.Bib=b/\FirstIs c l f:=by
 have J:∀(r p:List Fact) (m:List (Int×Fact)),(∀b f,YN m b=some f↔f.Starter.Bib=b/\FirstIs c p f)->∀b f,YN (r.foldl (stepS c) m) b=some f↔f.Starter.Bib=b/\FirstIs c (p++r) f:=by
  intro r
  induction r with
  |nil=>simp
  |cons x r W=>
   intro p m h;have R:∀b f,YN (stepS c m x) b=some f↔f.Starter.Bib=b/\FirstIs c (p++[x]) f:=by
    intro b f;unfold stepS;cases q:okS c x with
    |false=>
     simp only[Vj];rw[h b f];unfold FirstIs
     grind
    |true=>
     simp only[Vi];have F:Qbj m x.Starter.Bib=(YN m x.Starter.Bib).isSome:=QjJ m _;cases e:YN m x.Starter.Bib with
     |none=>
      rw[e]at F;have B:Qbj m x.Starter.Bib=false:=by grind
      rw[B];simp only[Xi,Bool.true_or,Vi];rw[Jy];have P:∀g∈p,okS c g=true->g.Starter.Bib=x.Starter.Bib->False:=by
       intro g d j i;have:∃f,FirstIs c p f/\f.Starter.Bib=x.Starter.Bib:=by
        obtain⟨f,M,E,O⟩:=QdM d j;exact⟨f,⟨M,E,O.2⟩,O.1.trans i⟩
       obtain⟨f,M,E⟩:=this;have:=(h x.Starter.Bib f).2 ⟨E,M⟩;rw[e]at this;cases this
      by_cases w:b=x.Starter.Bib
      .subst w;rw[Vm rfl];constructor
       .rintro⟨⟩;refine⟨rfl,by simp,q,?_⟩;intro g d H G;rcases Vx.1 d with d|d
        .exact(P g d H G).elim
        .rw[Vv]at d;subst d;have:=QmI.refl g;omega
       .rintro⟨j,i,L,N⟩;rcases Vx.1 i with d|d
        .exact(P f d L j).elim
        .rw[Vv]at d;rw[d]
      .rw[Vl w,h b f];unfold FirstIs;simp only[Vx,Vv];constructor
       .rintro⟨a,n,t,s⟩;refine⟨a,.inl n,t,?_⟩;rintro g (d|rfl) j i
        .exact s g d j i
        .exact absurd (a.symm.trans i.symm) w
       .rintro⟨a,n|n,t,s⟩
        .exact⟨a,n,t,λg d j i=>s g (.inl d) j i⟩
        .subst n;exact absurd a.symm w
     |some y=>
      rw[e]at F;have B:Qbj m x.Starter.Bib=true:=by simpa using F
      have u:=(h x.Starter.Bib y).1 e;have V:Qy m x.Starter.Bib Uk=y:=by unfold Qy;rw[e];rfl
      rw[B,V];simp only[Xh,Bool.false_or];cases lt:decide (cmpF x y<0)with
      |true=>
       have lt':=Vp lt;simp only[Vi];rw[Jy];by_cases w:b=x.Starter.Bib
       .subst w;rw[Vm rfl];constructor
        .rintro⟨⟩;refine⟨rfl,by simp,q,?_⟩;intro g d H G;rcases Vx.1 d with d|d
         .intro k;exact u.2.2.2 g d H (G.trans u.1.symm) (QmI.trans _ _ _ k lt')
         .rw[Vv]at d;subst d;have:=QmI.refl g;omega
        .rintro⟨j,i,L,N⟩;rcases Vx.1 i with d|d
         .exfalso;have k:=u.2.2.2 f d L (j.trans u.1.symm);have Y:=N x (by simp) q j.symm;have T:=QmI.swap x f;have X:=QmI.swap y f;have Q:cmpF f x<=0:=by omega
          rcases Int.lt_or_eq_of_le Q with z|z
          .exact k (QmI.trans _ _ _ z lt')
          .have:=QmI.eqt f x y z;omega
         .rw[Vv]at d;rw[d]
       .rw[Vl w,h b f];unfold FirstIs;simp only[Vx,Vv];constructor
        .rintro⟨a,n,t,s⟩;refine⟨a,.inl n,t,?_⟩;rintro g (d|rfl) j i
         .exact s g d j i
         .exact absurd (a.symm.trans i.symm) w
        .rintro⟨a,n|n,t,s⟩
         .exact⟨a,n,t,λg d j i=>s g (.inl d) j i⟩
         .subst n;exact absurd a.symm w
      |false=>
       have lt':=Vq lt;simp only[Vj];rw[h b f];unfold FirstIs;simp only[Vx,Vv];constructor
       .rintro⟨a,n,t,s⟩;refine⟨a,.inl n,t,?_⟩;rintro g (d|rfl) j i
        .exact s g d j i
        .have:f=y:=FirstIs.one ⟨n,t,s⟩ u.2 (i.symm.trans u.1.symm);rw[this];exact lt'
       .rintro⟨a,n|n,t,s⟩
        .exact⟨a,n,t,λg d j i=>s g (.inl d) j i⟩
        .subst n;have k:=s y (.inl u.2.1) u.2.2.1 u.1;have T:=QmI.swap f y;have:f=y:=QcF (JU t) (JU u.2.2.1) (by omega);subst this;exact⟨a,u.2⟩
   have:=W (p++[x]) _ R
   grind
 have:=J l [] [] (λb f=>by
  constructor
  .intro h;cases h
  .rintro⟨_,h,_⟩;cases h)
 intro b f;have:=this b f;rw[Vb]at this;exact this
theorem Qoy{m:List (Int×Fact)}{f:Fact}(h:∀b f,YN m b=some f->f.Starter.Bib=b):f∈ordF m↔YN m f.Starter.Bib=some f:=by
 unfold ordF;rw[Xf];constructor
 .rintro⟨k,e,rfl⟩;obtain⟨v,d⟩:=(QaR m k).1 ((Qu ltI _).mem_iff.1 e);have:Qy m k Uk=v:=by unfold Qy;rw[d];rfl
  grind
 .intro a;refine⟨f.Starter.Bib,(Qu ltI _).mem_iff.2 ((QaR m _).2 ⟨f,a⟩),?_⟩;unfold Qy;rw[a];rfl
def ltS(f g:Fact):Prop:=f.Starter.Bib<g.Starter.Bib
theorem QjD{m:List (Int×Fact)}(j:(m.map Prod.fst).Nodup)(h:∀b f,YN m b=some f->f.Starter.Bib=b):(ordF m).Pairwise ltS:=by
 unfold ordF;rw[List.pairwise_map];have n:=Q2 (QdH (m.map Prod.fst));have i:=Qu ltI (m.map Prod.fst);have d:=i.symm.nodup j;have g:∀k∈Jh ltI (m.map Prod.fst),(Qy m k Uk).Starter.Bib=k:=by
  intro k g;obtain⟨v,l⟩:=(QaR m k).1 (i.mem_iff.1 g);have:Qy m k Uk=v:=by unfold Qy;rw[l];rfl
  grind
 generalize Jh ltI (m.map Prod.fst)=ks at*;have e:ks.Pairwise λa b=>a<b:=by
  refine List.Pairwise.imp₂ ?_ n d
  grind[ltI]
 refine List.Pairwise.imp_of_mem (λ{a b} ha hb hab=>?_) e;show(Qy m a Uk).Starter.Bib<(Qy m b Uk).Starter.Bib
 grind
theorem Qex(c:Course)(l:List Fact)(f:Fact):f∈ordF (firstS c l)↔FirstIs c l f:=by
 simp_all[Qoy,QhN]
theorem QbL(c:Course)(l:List Fact):(ordF (firstS c l)).Pairwise ltS:=QjD (Qbt c l).nodup λb f h=>((QhN c l b f).1 h).1
theorem Qp9(x:Fact):¬ltS x x:=by unfold ltS;omega
theorem Qrj(x y z:Fact):ltS x y->ltS y z->ltS x z:=by unfold ltS;omega
theorem Qeb{c:Course}{l m:List Fact}(h:∀f,validS f=true->(f∈l↔f∈m)){f:Fact}:FirstIs c l f↔FirstIs c m f:=by
 constructor
 .rintro⟨a,b,d⟩;exact⟨(h f (JU b)).1 a,b,λg j e i=>d g ((h g (JU e)).2 j) e i⟩
 .rintro⟨a,b,d⟩;exact⟨(h f (JU b)).2 a,b,λg j e i=>d g ((h g (JU e)).1 j) e i⟩
theorem Qj1{c:Course}{l m:List Fact}(h:∀f,validS f=true->(f∈l↔f∈m)):ordF (firstS c l)=ordF (firstS c m):=
 Qaa Qp9 Qrj (QbL c l) (QbL c m) λf=>by rw[Qex,Qex,Qeb h]
theorem Qjk{e:Int}{c:Course}{l m:List Fact}(h:∀f,validS f=true->(f∈l↔f∈m)):startF e c l=startF e c m:=by
 unfold startF;rw[Qj1 h]
set_option maxRecDepth 4000
def nb(v lo hi:Int):Bool:= !(decide (v<lo))&& !(decide (hi<v))
theorem QaQ(v lo hi:Int):nb v lo hi=true↔lo<=v/\v<=hi:=by
 simp_all[nb]
def contR(f:Fact):Bool:=
 bif f.Kind==1 then true&&(nb f.Starter.Bib 1 9999&&(nb f.Starter.Distance 0 7&&(nb f.Starter.Wave 0 31&&(nb f.Starter.Slot (-1099511627776) 1099511627776&&(nb f.Starter.Age 0 120&&(nb f.Starter.Chip 0 1048576&&(nb f.Starter.Team 0 9999&&(nb f.Starter.Lot 0 1048576&&true))))))))
 else bif f.Kind==2 then true&&(nb f.Read.Mat 0 39&&(nb f.Read.Epoch 0 255&&(nb f.Read.Chip 0 1048576&&(nb f.Read.Local (-1099511627776) 1099511627776&&true))))
 else bif f.Kind==3 then true&&(nb f.Beacon.Mat 0 39&&(nb f.Beacon.Epoch 0 255&&(nb f.Beacon.Local (-1099511627776) 1099511627776&&(nb f.Beacon.True (-1099511627776) 1099511627776&&(nb f.Beacon.Err 0 1099511627776&&true)))))
 else bif f.Kind==4 then decide (f.Sync.Min<=f.Sync.Max)&&(nb f.Sync.MatA 0 39&&(nb f.Sync.EpochA 0 255&&(nb f.Sync.LocalA (-1099511627776) 1099511627776&&(nb f.Sync.MatB 0 39&&(nb f.Sync.EpochB 0 255&&(nb f.Sync.LocalB (-1099511627776) 1099511627776&&(nb f.Sync.Min (-1099511627776) 1099511627776&&(nb f.Sync.Max (-1099511627776) 1099511627776&&true))))))))
 else bif f.Kind==5 then decide (f.Hand.Lo<=f.Hand.Hi)&&(nb f.Hand.Bib 1 9999&&(nb f.Hand.Position 0 255&&(nb f.Hand.Lo (-1099511627776) 1099511627776&&(nb f.Hand.Hi (-1099511627776) 1099511627776&&true))))
 else bif f.Kind==6 then decide (f.Silence.Lo<=f.Silence.Hi)&&(nb f.Silence.Mat 0 39&&(nb f.Silence.Epoch 0 255&&(nb f.Silence.Lo (-1099511627776) 1099511627776&&(nb f.Silence.Hi (-1099511627776) 1099511627776&&true))))
 else bif f.Kind==7 then decide (f.Pair.A<f.Pair.B)&&(nb f.Pair.A 1 9999&&(nb f.Pair.B 1 9999&&true))
 else bif f.Kind==8 then true&&(nb f.Report.Case 1 1048576&&(nb f.Report.Bib 1 9999&&(nb f.Report.Offence 0 31&&(nb f.Report.Position 0 255&&true))))
 else bif f.Kind==9 then true&&(nb f.Protest.Case 1 1048576&&(nb f.Protest.By 0 9999&&(nb f.Protest.Fee 0 1125899906842624&&(nb f.Protest.Form 0 1&&true))))
 else bif f.Kind==10 then true&&(nb f.Ruling.Case 1 1048576&&(nb f.Ruling.Instance 1 2&&(nb f.Ruling.Kind 1 5&&(bif (f.Ruling.Kind==1)||(f.Ruling.Kind==2)then nb f.Ruling.Bib 0 0&&(nb f.Ruling.Position 0 0&&(nb f.Ruling.Amount 0 0&&true))else bif f.Ruling.Kind==3 then nb f.Ruling.Bib 1 9999&&(nb f.Ruling.Position 0 255&&(nb f.Ruling.Amount 1 1099511627776&&true))else bif f.Ruling.Kind==4 then nb f.Ruling.Bib 1 9999&&(nb f.Ruling.Position 0 255&&(nb f.Ruling.Amount 1 64&&true))else nb f.Ruling.Bib 1 9999&&(nb f.Ruling.Position 0 255&&(nb f.Ruling.Amount 0 0&&true))))))
 else bif f.Kind==11 then true&&(nb f.Appeal.Case 1 1048576&&(nb (suspB f) 0 1&&true))
 else bif f.Kind==12 then true&&true
 else bif f.Kind==13 then true&&(nb f.Void.Crew 0 31&&(nb f.Void.No 1 1048576&&true))
 else false
theorem Qiw(f:Fact):(f.Kind=1\/f.Kind=2\/f.Kind=3\/f.Kind=4\/f.Kind=5\/f.Kind=6\/f.Kind=7\/f.Kind=8\/f.Kind=9\/f.Kind=10\/f.Kind=11\/f.Kind=12\/f.Kind=13)\/((f.Kind==1)=false/\(f.Kind==2)=false/\(f.Kind==3)=false/\(f.Kind==4)=false/\(f.Kind==5)=false/\(f.Kind==6)=false/\(f.Kind==7)=false/\(f.Kind==8)=false/\(f.Kind==9)=false/\(f.Kind==10)=false/\(f.Kind==11)=false/\(f.Kind==12)=false/\(f.Kind==13)=false):=by
 grind
theorem Qkt(f:Fact):contS f=contR f:=by
 rcases Qiw f with k|⟨w,y,u,s,q,r,x,z,E,p,l,j,n⟩
 .rcases k with k|k|k|k|k|k|k|k|k|k|k|k|k
  case inr.inr.inr.inr.inr.inr.inr.inr.inr.inl=>
   obtain⟨Cr,No,At,Ki,S,R,B,Sy,Ha,Si,Pa,Re,Pr,⟨h,i,a,e,d,g⟩,Ap,Vo⟩:=f;simp only at k;subst k;have m:openU ⟨Cr,No,At,10,S,R,B,Sy,Ha,Si,Pa,Re,Pr,⟨h,i,a,e,d,g⟩,Ap,Vo⟩=(bif (a==1)||(a==2)then U_facts_open_rxk.c9 (0,0,0,0,0,0)else bif a==3 then .c9 (1,9999,0,255,1,1099511627776)else bif a==4 then .c9 (1,9999,0,255,1,64)else .c9 (1,9999,0,255,0,0)):=rfl;have t:contR ⟨Cr,No,At,10,S,R,B,Sy,Ha,Si,Pa,Re,Pr,⟨h,i,a,e,d,g⟩,Ap,Vo⟩=(true&&(nb h 1 1048576&&(nb i 1 2&&(nb a 1 5&&(bif (a==1)||(a==2)then nb e 0 0&&(nb d 0 0&&(nb g 0 0&&true))else bif a==3 then nb e 1 9999&&(nb d 0 255&&(nb g 1 1099511627776&&true))else bif a==4 then nb e 1 9999&&(nb d 0 255&&(nb g 1 64&&true))else nb e 1 9999&&(nb d 0 255&&(nb g 0 0&&true))))))):=rfl;rw[t];unfold contS;rw[m];cases((a==1)||(a==2))with
   |true=>rfl
   |false=>
    cases(a==3)with
    |true=>rfl
    |false=>cases(a==4)<;>rfl
  all_goals
   obtain⟨Cr,No,At,Ki,S,R,B,Sy,Ha,Si,Pa,Re,Pr,Ru,Ap,Vo⟩:=f;simp only at k;subst k;rfl
 .have m:openU f=.c13 ():=by unfold openU;grind
  unfold contS contR;rw[m,w,y,u,s,q,r,x,z,E,p,l,j,n];rfl
theorem Jo(n:Nat)(v a b:Int):F_b n v a b=some (nb v a b):=by
 unfold F_b nb;have e:decide (a<=v)= !decide (v<a):=by grind
 have d:decide (v<=b)= !decide (b<v):=by grind
 rw[e,d]
 grind
theorem Qhe(a:Bool)(b:Option Bool)(c:Bool)(h:b=some c):(bif a then b else some false)=some (a&&c):=by
 grind
theorem Qcc(n:Nat)(v:Int):F_g n v=some (nb v 1 9999):=by unfold F_g;rw[Jo];rfl
theorem Qip(n:Nat)(v:Int):F_aa n v=some (nb v 0 39):=by unfold F_aa;rw[Jo];rfl
theorem Qdz(n:Nat)(v:Int):F_x n v=some (nb v 0 255):=by unfold F_x;rw[Jo];rfl
theorem QdA(n:Nat)(v:Int):F_bp n v=some (nb v 0 1048576):=by unfold F_bp;rw[Jo];rfl
theorem JT(n:Nat)(v:Int):F_w n v=some (nb v 0 255):=by unfold F_w;rw[Jo];rfl
theorem Qfq(n:Nat)(v:Int):F_ak n v=some (nb v 1 1048576):=by unfold F_ak;rw[Jo];rfl
theorem Qhw(n:Nat)(v:Int):F_ar n v=some (nb v 1 1048576):=by unfold F_ar;rw[Jo];rfl
theorem Qmh(n:Nat)(v:Int):F_aq n v=some (nb v 0 31):=by unfold F_aq;rw[Jo];rfl
theorem Qcx(n:Nat)(v:Int):F_d n v=some (nb v (-1099511627776) 1099511627776):=by unfold F_d;rw[Jo];rfl
theorem Qk8(n:Nat)(f:Fact):F_cd n f=some (contR f):=by
 unfold F_cd contR;cases(f.Kind==1)with
 |true=>
  simp_all[F_ff,Qcc,Qcx,QdA,Jo,Qhe]
 |false=>
 cases(f.Kind==2)with
 |true=>simp_all[Qip,Qdz,Qcx,QdA,Qhe]
 |false=>
 cases(f.Kind==3)with
 |true=>simp_all[Qip,Qdz,Qcx,Jo,Qhe]
 |false=>
 cases(f.Kind==4)with
 |true=>
  unfold F_he;simp only[Qip,Qdz,Qcx,QdA,Jo,XG,Vi,Vj,Qhe _ _ _ rfl,Option.some.injEq,Vu,Bool.and_true]
  grind
 |false=>
 cases(f.Kind==5)with
 |true=>
  simp only[Qcc,JT,Qcx,QdA,Jo,XG,Vi,Vj,Qhe _ _ _ rfl,Option.some.injEq,Vu,Bool.and_true]
  grind
 |false=>
 cases(f.Kind==6)with
 |true=>
  simp only[Qip,Qdz,Qcx,QdA,Jo,XG,Vi,Vj,Qhe _ _ _ rfl,Option.some.injEq,Vu,Bool.and_true]
  grind
 |false=>
 cases(f.Kind==7)with
 |true=>
  simp only[Qcc,Jo,XG,Vi,Vj,Qhe _ _ _ rfl,Option.some.injEq,Vu,Bool.and_true];rw[XU];simp only[XT,QaQ,Vk];omega
 |false=>
 cases(f.Kind==8)with
 |true=>simp only[Qcc,Qfq,JT,Jo,XG,Vi,Vj,Qhe _ _ _ rfl,Option.some.injEq,Vu,Bool.and_true]
 |false=>
 cases(f.Kind==9)with
 |true=>simp only[Qcc,Qfq,JT,Jo,XG,Vi,Vj,Qhe _ _ _ rfl,Option.some.injEq,Vu,Bool.and_true]
 |false=>
 cases(f.Kind==10)with
 |true=>
  unfold F_ey;simp only[Qfq,Jo,XG,Vi,Vj,Vu];have a:∀v:Int,(v==0)=nb v 0 0:=by intro v;rw[XU,QaQ,Vs];omega
  cases nb f.Ruling.Case 1 1048576 with
  |false=>rfl
  |true=>
   cases nb f.Ruling.Instance 1 2 with
   |false=>rfl
   |true=>
    simp only[Xh,Vj,XG,Vu];by_cases h:f.Ruling.Kind=1
    .rw[h];simp only[a];cases nb f.Ruling.Bib 0 0 with
     |false=>rfl
     |true=>cases nb f.Ruling.Position 0 0 with
      |false=>rfl
      |true=>cases nb f.Ruling.Amount 0 0<;>rfl
    by_cases j:f.Ruling.Kind=2
    .rw[j];simp only[a];cases nb f.Ruling.Bib 0 0 with
     |false=>rfl
     |true=>cases nb f.Ruling.Position 0 0 with
      |false=>rfl
      |true=>cases nb f.Ruling.Amount 0 0<;>rfl
    by_cases i:f.Ruling.Kind=3
    .rw[i];simp only[a,Qcc,JT,Jo,XG];cases nb f.Ruling.Bib 1 9999 with
     |false=>rfl
     |true=>cases nb f.Ruling.Position 0 255 with
      |false=>rfl
      |true=>cases nb f.Ruling.Amount 1 1099511627776<;>rfl
    by_cases g:f.Ruling.Kind=4
    .rw[g];simp only[a,Qcc,JT,Jo,XG];cases nb f.Ruling.Bib 1 9999 with
     |false=>rfl
     |true=>cases nb f.Ruling.Position 0 255 with
      |false=>rfl
      |true=>cases nb f.Ruling.Amount 1 64<;>rfl
    by_cases d:f.Ruling.Kind=5
    .rw[d];simp only[a,Qcc,JT,Jo,XG];cases nb f.Ruling.Bib 1 9999 with
     |false=>rfl
     |true=>cases nb f.Ruling.Position 0 255 with
      |false=>rfl
      |true=>cases nb f.Ruling.Amount 0 0<;>rfl
    have e:nb f.Ruling.Kind 1 5=false:=by
     rw[VG,ne_eq,QaQ];omega
    rw[e,Vt.2 h,Vt.2 j,Vt.2 i,Vt.2 g,Vt.2 d];rfl
 |false=>
 cases(f.Kind==11)with
 |true=>
  have e:nb (suspB f) 0 1=true:=by unfold suspB;cases f.Appeal.Suspends<;>rfl
  simp only[Qfq,XG,Vi,Vj,e,Vu,Bool.and_true]
 |false=>
 cases(f.Kind==12)with
 |true=>rfl
 |false=>
 cases(f.Kind==13)with
 |true=>simp only[Qmh,Qhw,Jo,XG,Vi,Vj,Qhe _ _ _ rfl,Option.some.injEq,Vu,Bool.and_true]
 |false=>rfl
theorem Qp3(n:Nat)(f:Fact):F_cn n f=some (onlyS f):=by
 rcases Qiw f with k|⟨s,j,p,l,i,r,h,q,m,g,d,e,a⟩
 .rcases k with k|k|k|k|k|k|k|k|k|k|k|k|k
  all_goals
   obtain⟨Cr,No,At,Ki,S,R,B,Sy,Ha,Si,Pa,Re,Pr,Ru,Ap,Vo⟩:=f;subst k;rfl
 .unfold F_cn onlyS
  grind
theorem QlM{f:Fact}(h:contR f=true):nb f.Kind 1 13=true:=by
 rw[QaQ];rcases Qiw f with k|⟨s,l,p,m,j,r,i,q,n,g,d,e,a⟩
 .omega
 grind[contR]
theorem QjT(f:Fact):headS f=(nb f.Kind 1 13&&(nb f.Crew 0 31&&(nb f.No 1 1048576&&(nb f.At 0 1099511627776&&true)))):=rfl
theorem QfV(n:Nat)(f:Fact):F_az n f=some (bif validS f then 0 else 120):=by
 unfold F_az;rw[Qmh,Qhw,Jo,Qk8,Qp3,Qcv,Qkt,QjT];simp[XG];have a:= @QlM f
 grind
theorem Qp4(n:Nat)(f:Fact):F_dm n f=some (numsS f):=by
 unfold F_dm numsS;cases(f.Kind==1)with
 |true=>rfl
 |false=>
 cases(f.Kind==2)with
 |true=>rfl
 |false=>
 cases(f.Kind==3)with
 |true=>rfl
 |false=>
 cases(f.Kind==4)with
 |true=>rfl
 |false=>
 cases(f.Kind==5)with
 |true=>rfl
 |false=>
 cases(f.Kind==6)with
 |true=>rfl
 |false=>
 cases(f.Kind==7)with
 |true=>rfl
 |false=>
 cases(f.Kind==8)with
 |true=>rfl
 |false=>
 cases(f.Kind==9)with
 |true=>rfl
 |false=>
 cases(f.Kind==10)with
 |true=>rfl
 |false=>
 cases(f.Kind==11)with
 |true=>
  unfold suspB;cases f.Appeal.Suspends<;>rfl
 |false=>
 cases(f.Kind==13)with
 |true=>rfl
 |false=>rfl
theorem Qlu(l:List Int)(hl:l.length<=1000):Ev (λn=>F_gm n l) (l.map mkV):=by
 refine Ea ?_ (Qa _);have e:∀(m:List Int) (a:List Value),m.foldl (λa x=>a++[mkV x]) a=a++m.map mkV:=by
  intro m
  induction m with
  |nil=>simp
  |cons x m h=>grind
 refine Er (QB l (λa x=>a++[mkV x]) [] (λa i=>(a,(i:Int))) (λa=>a) (by omega) rfl (λi x a d g=>?_) ?_) (by rw[e];rfl)
 .unfold F_kq F_fh;simp only[d.lt,d.ix,XG,d.nx];have f:a.length<=1000:=by grind
  rw[Y4 _ _ (by omega)];exact Qa _
 simp_all[F_kq,Qa]
theorem Qjy(n:Nat)(x:Int)(h:in63 x):F_ea n x=some (zigI x):=by
 obtain⟨a,d⟩:=h;unfold F_ea;simp only[Qct];by_cases p:0<=x
 .rw[YS p,Ql8 p d]
  grind
 .rw[YU p,Ql9 (by omega) a,QZ (show-9223372036854775808<=x+1 by omega) (by omega),QZ (by omega) (by omega)]
  grind
theorem Qha:∀(k v:Nat),v<128^(k+1)->k<=9->v<18446744073709551616->Ev (λn=>F_j n (v:Int)) (numN v):=by
 intro k
 induction k with
 |zero=>
  intro v a _ _;refine QJ ?_;show Ev (λn=>B_j (F_j n) n v) _
  grind[B_j,Qad,Qa]
 |succ k g=>
  intro v a j f;refine QJ ?_;show Ev (λn=>B_j (F_j n) n v) _;unfold B_j;by_cases q:v<128
  .grind[Qad,Qa]
  .rw[YU (show¬(v:Int)<128 by omega)];have e:v/128<128^(k+1):=by rw[Nat.div_lt_iff_lt_mul (by decide)];exact a
   have i:u64.wrap (Int.tdiv v 128)=v/128:=by
    rw[Qct,Int.tdiv_eq_ediv_of_nonneg (by omega)];omega
   have h:u8.wrap (u64.wrap ((Int.tmod v 128)+128))=v%128+128:=by
    rw[QkV,Qct,Int.tmod_eq_emod_of_nonneg (by omega)];omega
   rw[i,h,QcA v,Vm (show 128<=v by omega)];refine Ea (g (v/128) e (by omega) (by omega)) ?_;have d:=QjH k (v/128) e;rw[Qd0 _ _ (by simp;omega)];exact Qa _
theorem QhU(v:Nat)(h:v<18446744073709551616):Ev (λn=>F_j n (v:Int)) (numN v):=Qha 9 v (by omega) (XQ _) h
theorem Qlx(x:Int)(h:in63 x):Ev (λn=>F_m n (mkV x)) (oneB x):=by
 refine QJ ?_;show Ev (λn=>B_m (F_m n) n (mkV x)) _;unfold B_m;have e:((mkV x).Kind==1)=true:=rfl;obtain⟨z,a,d⟩:=QfC x;refine Ea (Ez (Qjy 0 x h)) ?_;rw[a];refine Ea (QhU z d) ?_
 grind[QbF,Qd0,Qa,oneB]
theorem Qlw(l:List Int)(hl:l.length<=1000)(h:∀x∈l,in63 x):Ev (λn=>F_m n (listV l)) (listB l):=by
 refine QJ ?_;show Ev (λn=>B_m (F_m n) n (listV l)) _;unfold B_m;have e:((listV l).Kind==1)=false:=rfl;have u:((listV l).Kind==2)=false:=rfl;have r:(listV l).L=l.map mkV:=rfl;rw[e,u,r];have w:u64.wrap (((l.map mkV).length:Int))=((l.length:Nat):Int):=by
  rw[Qct,XX];omega
 rw[w];refine Ea (QhU l.length (by omega)) ?_;have q:=QbF (show l.length<18446744073709551616 by omega);rw[Qd0 _ _ (by simp;omega)];refine Ea (Qa _) ?_;refine Ea ?_ (Qa _);have d:∀(m:List Int) (a:List Int),((m.map mkV).foldl (λa (v:Value)=>a++oneB v.N) a).length<=a.length+11*m.length:=by
  intro m
  induction m with
  |nil=>intro a;simp
  |cons x m s=>
   grind[QfZ]
 have k:=QB (step:=λn=>F_kf n (listV l) (F_m n)) (l.map mkV) (λa (v:Value)=>a++oneB v.N) ([3]++numN l.length) (λa i=>(a,(i:Int))) (λa=>a) (by grind) rfl (λi x a f z=>?_) ?_
 .refine Er k ?_;have:∀(m:List Int) (a:List Int),(m.map mkV).foldl (λa (v:Value)=>a++oneB v.N) a=a++(m.map oneB).flatten:=by
   intro m
   induction m with
   |nil=>intro a;simp
   |cons x m s=>grind[mkV]
  rw[this];rfl
 .obtain⟨y,t,rfl⟩:=Xf.1 f.mem;have hal:=by
   have j:=d (l.take i) ([3]++numN l.length);rw[List.map_take, <- z,XY,Xw]at j;simp at j;omega
  unfold F_kf;have g:decide ((i:Int)<((listV l).L.length:Int))=true:=f.lt;have p:idx (listV l).L (i:Int)=some (mkV y):=f.ix;simp only[g,Vi,p,XG,f.nx];refine Ea (Qlx y (h y t)) ?_;have j:=QfZ y;have:app a (oneB y)=some (a++oneB y):=by
   unfold app;have:Nat.ble (a.length+(oneB y).length) QC=true:=XP (XS (show _<=1000000 by omega) (by decide));rw[this];rfl
  rw[this];exact Qa _
 simp_all[F_kf,Qa]
theorem Qhb(x:Int):Ev (λn=>F_ae n (mkV x)) true:=by
 refine QJ ?_;exact Qa _
theorem QiI(l:List Int)(hl:l.length<=1000):Ev (λn=>F_ae n (listV l)) true:=by
 refine QJ ?_;show Ev (λn=>B_ae (F_ae n) n (listV l)) _;unfold B_ae;have k:((listV l).Kind==1)=false:=rfl;have h:((listV l).Kind==2)=false:=rfl;have j:((listV l).Kind==3)=true:=rfl;refine Ea (v:=Ctl.cont ()) (Eu (λi=>(i:Int)) (l.map mkV).length rfl (λi f=>?_) ?_) (Qa _)
 .have d:=JH (by grind) (XH f);obtain⟨y,g⟩:∃y,(l.map mkV)[i]=mkV y:=by grind
  unfold F_lx;have a:decide (i<((listV l).L.length:Int))=true:=d.lt;have e:idx (listV l).L i=some (l.map mkV)[i]:=d.ix;simp only[a,e,XG,d.nx];rw[g];exact Ea (Qhb y) (Qa _)
 simp_all[F_lx,listV,Qa]
theorem QiL(x:Int):Ev (λn=>F_ai n (mkV x)) 0:=by
 refine QJ ?_;exact Qa _
theorem QiK(l:List Int)(hl:l.length<=1000):Ev (λn=>F_ai n (listV l)) 1:=by
 refine QJ ?_;show Ev (λn=>B_ai (F_ai n) n (listV l)) _;unfold B_ai;have h:((listV l).Kind != 3)=false:=rfl;refine Ea (v:=0) (Eu (λi=>(0,(i:Int))) (l.map mkV).length rfl (λi f=>?_) ?_) (Qa _)
 .have d:=JH (by grind) (XH f);obtain⟨y,g⟩:∃y,(l.map mkV)[i]=mkV y:=by grind
  unfold F_lb;have a:decide ((i:Int)<(listV l).L.length)=true:=d.lt;have e:idx (listV l).L i=some (l.map mkV)[i]:=d.ix;simp only[a,e,XG,d.nx];rw[g];exact Ea (QiL y) (Qa _)
 simp_all[F_lb,listV,Qa]
theorem Qos(f:Fact):(numsS f).length<=12:=by
 unfold numsS;cases(f.Kind==1)with
 |true=>simp
 |false=>
 cases(f.Kind==2)with
 |true=>simp
 |false=>
 cases(f.Kind==3)with
 |true=>simp
 |false=>
 cases(f.Kind==4)with
 |true=>simp
 |false=>
 cases(f.Kind==5)with
 |true=>simp
 |false=>
 cases(f.Kind==6)with
 |true=>exact XO rfl
 |false=>
 cases(f.Kind==7)with
 |true=>exact XO rfl
 |false=>
 cases(f.Kind==8)with
 |true=>exact XO rfl
 |false=>
 cases(f.Kind==9)with
 |true=>exact XO rfl
 |false=>
 cases(f.Kind==10)with
 |true=>exact XO rfl
 |false=>
 cases(f.Kind==11)with
 |true=>exact XO rfl
 |false=>cases(f.Kind==13)<;>exact XO rfl
theorem QdU(f:Fact):Ev (λn=>F_cb n f) (encF f):=by
 refine Ea (Ym (Qa _) λn=>QfV n f) ?_;cases a:validS f with
 |false=>
  unfold encF;rw[a];exact Qa _
 |true=>
  rw[Qey a];refine Ea (Ym (Qa _) λn=>Qp4 n f) ?_;have d:=Qos f;refine Ea (Qlu _ (by omega)) (Ea (v:=(listB (numsS f),0)) ?_ (Qa _));exact Ea (Ea (QiI _ (by omega)) (Ea (QiK _ (by omega)) (Qa _))) (Ea (Qlw _ (by omega) (Qf0 a)) (Qa _))
theorem Qmp:∀a b:List UInt8,Op.bytesLess a b=decide (Lib.compareBytes a b<0)
 |[],[]=>rfl
 |[],_::_=>rfl
 |_::_,[]=>rfl
 |a::x,b::y=>by
  unfold Op.bytesLess Lib.compareBytes;by_cases h:a<b
  .grind
  .rw[Vl h,YU h];by_cases h2:b<a
   .grind
   .rw[Vl h2];have:a=b:=by
     grind
    rw[this,beq_self_eq_true,Qmp x y];rfl
theorem Qkw:∀a b:List UInt8,Lib.compareBytes a b= -1\/Lib.compareBytes a b=0\/Lib.compareBytes a b=1
 |[],[]=>.inr (.inl rfl)
 |[],_::_=>.inl rfl
 |_::_,[]=>.inr (.inr rfl)
 |a::x,b::y=>by
  unfold Lib.compareBytes;split
  .omega
  .split
   .omega
   .exact Qkw x y
theorem QcV(f g:Fact):Ev (λn=>F_dc n f g) (cmpF f g):=by
 refine QJ (QJ (QJ (QJ ?_)));unfold F_dc;rw[QgP];have j:∀n,F_el n f g 0=(bif decide (f.At<g.At)then some (.done (.done (-1)))else bif decide (g.At<f.At)then some (.done (.done 1))else some (.cont 1)):=λn=>rfl;have i:∀n,F_el n f g 1=(bif decide (f.Crew<g.Crew)then some (.done (.done (-1)))else bif decide (g.Crew<f.Crew)then some (.done (.done 1))else some (.cont 2)):=λn=>rfl;have d:∀n,F_el n f g 2=(bif decide (f.No<g.No)then some (.done (.done (-1)))else bif decide (g.No<f.No)then some (.done (.done 1))else some (.cont 3)):=λn=>rfl;have a:∀n,F_el n f g 3=some (.done (.cont ())):=λn=>rfl;simp[iter,j];unfold cmpI;cases decide (f.At<g.At)with
 |true=>exact Qa _
 |false=>
 cases decide (g.At<f.At)with
 |true=>exact Qa _
 |false=>
 simp[Vj,i];cases decide (f.Crew<g.Crew)with
 |true=>exact Qa _
 |false=>
 cases decide (g.Crew<f.Crew)with
 |true=>exact Qa _
 |false=>
 simp[Vj,d];cases decide (f.No<g.No)with
 |true=>exact Qa _
 |false=>
 cases decide (g.No<f.No)with
 |true=>exact Qa _
 |false=>
 simp[Vj,a,XG];refine Ea (Ev.shift (Ev.shift (Ev.shift (Ev.shift (QdU f))))) (Ea (Ev.shift (Ev.shift (Ev.shift (Ev.shift (QdU g))))) ?_);unfold cmpB;rw[Qmp];rcases Qkw ((encF f).1.map Yc) ((encF g).1.map Yc)with h|h|h
 .rw[h];exact Qa _
 .have e:=Qpl h;rw[h,e,beq_self_eq_true];exact Qa _
 .have:((encF f).1.map Yc==(encF g).1.map Yc)=false:=by
   rw[Vt];intro e;rw[e,cb_ok.refl]at h;cases h
  rw[h,this];exact Qa _
def leadC(x:Fact):List Fact->Nat
 |[]=>0
 |y::r=>bif decide (cmpF y x<0)then leadC x r+1 else 0
theorem QjO(x:Fact):∀l:List Fact,leadC x l<=l.length
 |[]=>XQ _
 |y::r=>by
  unfold leadC;have:=QjO x r
  grind
theorem QhH(x:Fact):∀l:List Fact,insC x l=if l[leadC x l]?=some x then l else l.take (leadC x l)++x::l.drop (leadC x l)
 |[]=>by simp[insC]
 |y::r=>by
  unfold insC leadC;cases decide (cmpF y x<0)with
  |true=>
   simp only[Vi];rw[QhH x r]
   grind
  |false=>
   simp
theorem Qqq(l:List Fact)(hl:l.length<=1048576)(a:List Fact)(p:a.length<=1048576){i:Nat}{x:Fact}(g:At l i x):
  Ev (λn=>iter (F_cv n l (a,(i:Int))) n 0) ((leadC x a:Nat):Int):=by
 have loop:∀(r:List Fact) (j:Nat),a.drop j=r->j<=a.length->EvI (λn=>F_cv n l (a,i)) j (j+leadC x r):=by
  intro r
  induction r with
  |nil=>
   intro j e h;refine Eh ?_;unfold F_cv;simp only[QO e h,Vj];exact Qa _
  |cons y r k=>
   intro j e h;obtain⟨d,f⟩:=Qt (by omega) e;have m:=d.lt';unfold leadC;cases q:decide (cmpF y x<0)with
   |true=>
    refine Et ?_ ((k (j+1) f (by omega)).eq (by simp[Vi];omega));unfold F_cv;simp only[d.lt,d.ix,g.ix,XG,d.nx];refine Ea (Ea (QcV y x) ((Qa _).eq q)) (Qa _)
   |false=>
    refine Eh ?_;unfold F_cv;simp only[d.lt,d.ix,g.ix,XG];refine Ea (Ea (QcV y x) ((Qa _).eq q)) (Qa _)
 have:=(loop a 0 rfl (XR _)).ev
 grind
theorem Qga(x:Fact):∀l:List Fact,(insC x l).length<=l.length+1
 |[]=>by simp[insC]
 |y::r=>by
  unfold insC;have:=Qga x r
  grind
theorem QcG{α:Type}(l m:List α)(h:l.length+m.length<=4000000):app l m=some (l++m):=by
 unfold app;have:Nat.ble (l.length+m.length) QC=true:=XP (XS h (by decide))
 grind
theorem Qaq(l:List Fact)(hl:l.length<=1048575):Ev (λn=>F_ad n l) (canonS l):=by
 refine Ea (v:=canonS l) ?_ (Qa _);refine QB l (λa x=>bif validS x then insC x a else a) [] (λa i=>(a,(i:Int))) (λa=>a) (by omega) rfl (λi x a e k=>?_) ?_
 .have f:a.length<=i:=by
   have:∀(m:List Fact) (a:List Fact),(m.foldl (λa x=>bif validS x then insC x a else a) a).length<=a.length+m.length:=by
    intro m
    induction m with
    |nil=>intro a;simp
    |cons x m h=>
     grind[Qga]
   grind
  have g:=e.lt';unfold F_lg;simp only[e.lt,Vi,e.ix,XG,e.nx,QfV];refine Ea ?_ (Qa _);cases j:validS x with
  |false=>exact Qa _
  |true=>
   refine Ea (Qqq l (by omega) a (by omega) e) ?_;have d:=QjO x a;refine Ea (v:=decide (a[leadC x a]?=some x)) ?_ ?_
   .by_cases q:leadC x a<a.length
    .have hg:=XH q;rw[YS (show((leadC x a:Nat):Int)<(a.length:Int)by omega),YX hg,hg];refine(Qa _).eq ?_;rw[XU];simp
    .rw[YU (show¬((leadC x a:Nat):Int)<(a.length:Int)by omega)];refine(Qa _).eq ?_;rw[XL (by omega)];simp
   .rw[QhH x a];by_cases q:a[leadC x a]?=some x
    .rw[YS q,Vm q];exact Qa _
    .rw[YU q,Vl q];rw[QfJ a d,Qb8 a d];simp only[XG];rw[QcG [] _ (by simp;omega)];simp only[XG];rw[QcG _ [x] (by simp;omega)];simp only[XG];rw[QcG _ _ (by simp;omega)];refine(Qa _).eq ?_;simp
 simp_all[F_lg,Qa]
theorem QlD(c:Course)(w:CourseOk c)(q:PartsOk c)(k:FewL c):Ev (λn=>F_bq n c) (fitsG c):=by
 unfold F_bq fitsG;refine Ea (Ep λ_=>Ep λ_=>Ep λ_=>Ep λ_=>Ep λ_=>Ep λ_=>Qa _) ?_;cases(decide (40<(c.Mats.length:Int))||(decide (512<(c.Legs.length:Int))||(decide (8<(c.Distances.length:Int))||(decide (32<(c.Waves.length:Int))||(decide (32<(c.Offences.length:Int))||(decide (32<(c.Categories.length:Int))||decide (32<(c.Prizes.length:Int))))))))with
 |true=>exact Qa _
 |false=>
  refine Yf (Ea (YG c.Distances (λd=> !(decide (64<(d.Cutoffs.length:Int))||decide (16<hPs d.Route))) (Ctl.done false) (Ctl.cont ()) (by have:=w.dist;omega) (λi x f=>?_) ?_) ?_)
  .obtain⟨j,h⟩:=k.dist x f.mem;have a:=q.len x f.mem;have g:=q.wf x f.mem;unfold F_gz;simp only[f.lt,f.ix,XG,f.nx];refine Ea (Ep λ_=>Ea (Qe3 _ x.Route 17 (XQ _) (XQ _) a g) (Ep λ_=>Ea (Qe4 _ x.Route (XQ _) a g) (Qa _))) ?_;have e:decide (16<((min (hPs x.Route) 17:Nat):Int))=decide (16<hPs x.Route):=by
    grind
   simp only[YU (show¬256<((min (szPs x.Route) 257:Nat):Int)by omega),Bool.or_false,e]
   grind[Qa]
  .simp_all[F_gz,Qa]
  .cases c.Distances.all (λd=> !(decide (64<(d.Cutoffs.length:Int))||decide (16<hPs d.Route)))<;>exact Qa _
theorem Qks(c:Course)(w:CourseOk c)(q:PartsOk c)(k:FewL c)(hl:c.Ties.length<=1048576)(g:∀x∈c.Ties,Step.wf x):∃e,Ev (λn=>F_r n c) e/\Ev (λn=>F_q n c) e:=by
 by_cases i:∀d∈c.Distances,hPs d.Route<=16
 .have f:FewOk c:=⟨k.lens,k.name,λd a=>⟨by have:=(k.dist d a).1;omega,by have:=(k.dist d a).2;omega,i d a⟩,k.ties⟩;exact⟨_,Qnv c w q f hl g,QiM c w q f hl g⟩
 .have h:fitsG c=false:=by
   unfold fitsG
   grind
  refine⟨2,?_,?_⟩
  .refine Ea (Qo4 c w q k) ?_;rw[h];exact Qa _
  .refine Ea (QlD c w q k) ?_;rw[h];exact Qa _
theorem QqH{α:Type}[DecidableEq α](l m:List α)(step:Nat->Int->Option (Ctl Int (Ctl Unit Bool)))(hl:l.length<=4611686018427387904)
  (p:∀n s,step n s=(bif decide (s<(l.length:Int))then(idx l s).bind λx=>(idx m s).bind λy=>(bif (x != y)then some (.done (.done false))else some (.cont (i64.wrap (s+1))))else some (.done (.cont ())))):
  Ev (λn=>(bif ((l.length:Int) != (m.length:Int))then some false else(Go.Sw.iter (step n) n 0:Option (Ctl Unit Bool)).bind λb11=>match b11 with|.cont sb11=>(some true)|.done sb11=>some sb11)) (decide (l=m)):=by
 by_cases g:l.length=m.length
 .rw[show(l.length != (m.length:Int))=false by grind];have loop:∀(r d:List α) (i:Nat),l.drop i=r->m.drop i=d->i<=l.length->EvI step i (bif decide (r=d)then Ctl.cont ()else Ctl.done false):=by
   intro r
   induction r with
   |nil=>
    grind[EvI.done,Qa,QO]
   |cons x r u=>
    intro d i q h w;obtain⟨a,j⟩:=Qt hl q;have t:=a.lt';cases d with
    |nil=>
     have h1:=Xq.1 h;omega
    |cons y d=>
     obtain⟨k,f⟩:=Qt (by omega) h;by_cases e:x=y
     .subst e;refine Et ?_ ((u d (i+1) j f (by omega)).eq ?_)
      .refine Ym (Qa _) λn=>?_;rw[p,a.lt,a.ix,k.ix,Vi,XG,XG,a.nx];simp
      .simp
     .refine Eh (Ym (Qa _) λn=>?_);rw[p,a.lt,a.ix,k.ix,Vi,XG,XG,bne_iff_ne.2 e];simp[e]
  refine Ea (loop l m 0 rfl rfl (XR _)).ev ?_;cases decide (l=m)<;>exact Qa _
 .rw[show(l.length != (m.length:Int))=true by rw[bne_iff_ne];omega];refine(Qa _).eq ?_;rw[YU λe=>g (by rw[e])]
def ofBib(b:Int)(s:Starter):Bool:=s.Bib==b
def fndR(x:List Starter)(b:Int)(i:Nat):Ctl Unit Int:=match(x.drop i).findIdx? (ofBib b)with
 |some j=>.done ((i+j:Nat):Int)
 |none=>.cont ()
def fndI(x:List Starter)(b:Int):Int:=match x.findIdx? (ofBib b)with
 |some j=>(j:Int)
 |none=> -1
theorem QoS{x:List Starter}{b:Int}{i:Nat}{s:Starter}(h:At x i s)(e:ofBib b s=true):fndR x b i=.done (i:Int):=by
 unfold fndR;rw[h.drop,List.findIdx?_cons,e];simp
theorem Qqe{x:List Starter}{b:Int}{i:Nat}{s:Starter}(h:At x i s)(e:ofBib b s=false):fndR x b i=fndR x b (i+1):=by
 unfold fndR;rw[h.drop,List.findIdx?_cons,e]
 grind
theorem QoT(x:List Starter)(b:Int):fndR x b x.length=.cont ():=by
 unfold fndR;simp
theorem Qnk(x:List Starter)(b:Int):fndR x b 0=match x.findIdx? (ofBib b)with
 |some j=>.done (j:Int)
 |none=>.cont ():=by
 unfold fndR;simp
def fstS(x:List Starter)(b:Int):Option Starter:=x.find? (ofBib b)
theorem QhL(x:List Starter)(b:Int):(fndI x b= -1/\fstS x b=none)\/ ∃(j:Nat) (s:Starter),fndI x b=(j:Int)/\fstS x b=some s/\x[j]?=some s:=by
 unfold fndI fstS
 induction x with
 |nil=>simp
 |cons s x g=>
  rw[List.findIdx?_cons,List.find?_cons];cases e:ofBib b s with
  |true=>exact .inr ⟨0,s,rfl,rfl,rfl⟩
  |false=>
   rcases g with⟨a,h⟩|⟨j,k,a,h,i⟩
   .grind
   .right;cases q:x.findIdx? (ofBib b)with
    |none=>grind
    |some d=>
     rw[q]at a;have:d=j:=by have f:(d:Int)=j:=a;omega
     grind
theorem QkT{c:Course}(h:Course.wf c):CourseOk c:=by
 obtain⟨e,⟨m,j⟩,⟨n,s⟩,⟨k,d⟩,⟨p,i⟩,⟨l,q⟩,⟨f,g⟩,⟨r,t⟩,_⟩:=h;exact⟨e,m,λx a=>(j x a).1,n,k,λx a=>(d x a).1,λx a=>(d x a).2.2.2.1.1,p,λx a=>(i x a).1,l,λx a=>(q x a).1,f,λx a=>(g x a).1,r⟩
theorem QlW{c:Course}(h:Course.wf c):PartsOk c:=by
 obtain⟨_,_,_,⟨f,e⟩,_⟩:=h;exact⟨λd a=>(e d a).2.1.1,λd a=>(e d a).2.1.2⟩
theorem QpY{c:Course}(h:Course.wf c):c.Ties.length<=1048576/\ ∀x∈c.Ties,Step.wf x:=by
 obtain⟨_,_,_,_,_,_,_,_,a,_⟩:=h;exact a
theorem QfI(e:Int)(c:Course)(l:List Fact):(startF e c l).1.length<=l.length:=by
 unfold startF;cases(e != 0)with
 |true=>simp
 |false=>
  simp[Vj];cases decide (((ordF (firstS c l)).map chipK).Nodup)with
  |false=>simp
  |true=>simp only[Vi];rw[XX,QdB];exact(Qbt c l).len
def leadS(b:Int):List Starter->Nat
 |[]=>0
 |y::r=>bif decide (y.Bib<b)then leadS b r+1 else 0
theorem QjN(b:Int):∀l:List Starter,leadS b l<=l.length
 |[]=>XQ _
 |y::r=>by
  unfold leadS;have:=QjN b r
  grind
def putS(s:Starter)(l:List Starter):List Starter:=l.take (leadS s.Bib l)++s::l.drop (leadS s.Bib l)
def refOk(c:Course)(f:Fact):Bool:=(f.Kind==1)&&(!decide ((c.Distances.length:Int)<=f.Starter.Distance)&& !decide ((c.Waves.length:Int)<=f.Starter.Wave))
def refStep(c:Course)(out:List Starter)(f:Fact):List Starter:=bif refOk c f&& !(out.any (ofBib f.Starter.Bib))then putS f.Starter out else out
theorem Qom(s:Starter)(l:List Starter):(putS s l).length=l.length+1:=by
 unfold putS;simp;omega
theorem Qjz(c:Course)(a:List Starter)(f:Fact):(refStep c a f).length<=a.length+1:=by
 unfold refStep;cases refOk c f&& !(a.any (ofBib f.Starter.Bib))with
 |true=>simp[Vi];rw[Qom];omega
 |false=>simp
theorem QoQ(c:Course):∀(m:List Fact) (a:List Starter),(m.foldl (refStep c) a).length<=a.length+m.length:=by
 intro m
 induction m with
 |nil=>simp
 |cons x m d=>
  grind[Qjz]
theorem Qe2(x:List Starter)(b:Int)(d:x.length<=1048576):Ev (λn=>F_cc n x b) (fndI x b):=by
 refine Ea (QaF x (λi=>(i:Int)) (fndR x b) (by omega) rfl (λi s a=>?_) ?_) ?_
 .cases e:ofBib b s with
  |true=>
   refine .inr ?_;rw[QoS a e];unfold F_iv;simp only[a.lt,a.ix,XG]
   grind[ofBib,Qa]
  |false=>
   refine .inl ⟨?_,Qqe a e⟩;unfold F_iv;simp only[a.lt,a.ix,XG];unfold ofBib at e;rw[e,a.nx];exact Qa _
 .simp_all[F_iv,QoT,Qa]
 grind[Qnk,fndI,Qa]
theorem Qqd(x:List Starter)(b:Int):decide (0<=fndI x b)=x.any (ofBib b):=by
 rw[XU,Vk,Xt]
 grind[QhL,fstS]
theorem Qo3(a:List Starter)(m:a.length<=1048576)(f:Fact)(i:Int):Ev (λn=>iter (F_df n (a,i) f) n 0) ((leadS f.Starter.Bib a:Nat):Int):=by
 have loop:∀(r:List Starter) (j:Nat),a.drop j=r->j<=a.length->EvI (λn=>F_df n (a,i) f) j (j+leadS f.Starter.Bib r):=by
  intro r
  induction r with
  |nil=>
   intro j e h;refine Eh ?_;unfold F_df;simp only[QO e h,Vj];exact Qa _
  |cons y r k=>
   intro j e h;obtain⟨d,g⟩:=Qt (by omega) e;have l:=d.lt';unfold leadS;cases q:decide (y.Bib<f.Starter.Bib)with
   |true=>
    refine Et ?_ ((k (j+1) g (by omega)).eq (by simp[Vi];omega));unfold F_df;simp only[d.lt,d.ix,XG,d.nx,q];exact Qa _
   |false=>
    refine Eh ?_;unfold F_df;simp[d.lt,d.ix,XG,q];exact Qa _
 have:=(loop a 0 rfl (XR _)).ev
 grind
theorem Qlv(c:Course)(L:List Fact)(k:L.length<=1048576):Ev (λn=>iter (F_ko n c L) n (([]:List Starter),0)) (L.foldl (refStep c) []):=by
 refine QB L (refStep c) [] (λa i=>(a,(i:Int))) (λa=>a) (by omega) rfl (λi f a e j=>?_) ?_
 .have hal:=by
   have g:=QoQ c (L.take i) [];rw[<- j,Xw]at g;simp at g;omega
  have h:=e.lt';unfold F_ko;simp only[e.lt,e.ix,XG,e.nx];refine Ea (Ea (v:= !(refOk c f&& !(a.any (ofBib f.Starter.Bib)))) ?_ ?_) (Qa _)
  .unfold refOk bne;cases(f.Kind==1)with
   |false=>exact Qa _
   |true=>
    cases decide (c.Distances.length<=f.Starter.Distance)with
    |true=>exact Qa _
    |false=>
     cases decide (c.Waves.length<=f.Starter.Wave)with
     |true=>exact Qa _
     |false=>
      refine Yf (Yf (Ea (Qe2 a _ (by omega)) ?_))
      grind[Qqd,Qa]
  .unfold refStep;cases refOk c f&& !(a.any (ofBib f.Starter.Bib))with
   |false=>exact Qa _
   |true=>
    refine Ea (Qo3 a (by omega) f _) ?_;have d:=QjN f.Starter.Bib a;rw[QfJ a d,Qb8 a d];simp[XG];rw[QcG [] _ (by simp;omega)]
    grind[QcG,Qa,putS]
 simp_all[F_ko,Qa]
def ltB(s t:Starter):Prop:=s.Bib<t.Bib
theorem QjA(s:Starter)(l:List Starter)(t:Starter):t∈putS s l↔t=s\/t∈l:=by
 grind[putS,List.take_append_drop]
theorem QeS(s:Starter):∀(l:List Starter),l.Pairwise ltB->(∀t∈l,t.Bib≠s.Bib)->(putS s l).Pairwise ltB
 |[],_,_=>by simp[putS]
 |y::r,h,hn=>by
  rw[Xc]at h;unfold putS leadS;cases q:decide (y.Bib<s.Bib)with
  |true=>
   have ih:=QeS s r h.2 (by grind);simp only[Vi,List.take_succ_cons,VE,Xc];refine⟨λt ht=>?_,ih⟩;rcases(QjA s r t).1 ht with rfl|ht
   .show y.Bib<t.Bib
    grind
   grind
  |false=>
   have q':=Vq q;have hy:=hn y (by simp);simp only[Vj,List.take_zero,List.drop_zero,Vb,Xc];refine⟨λt ht=>?_,h⟩;have h0:ltB s y:=by unfold ltB;omega
   rcases X0.1 ht with rfl|ht
   .exact h0
   grind[ltB]
theorem Qmm{c:Course}{f:Fact}(a:validS f=true):okS c f=refOk c f:=by
 unfold okS refOk
 grind
theorem Qk7(c:Course)(L:List Fact)(h:CanonOK L):(L.foldl (refStep c) []).Pairwise ltB/\ ∀s,s∈L.foldl (refStep c) []↔ ∃f,FirstIs c L f/\f.Starter=s:=by
 have B:∀(r p:List Fact) (a:List Starter),p++r=L->a.Pairwise ltB->(∀s,s∈a↔ ∃f,FirstIs c p f/\f.Starter=s)->(r.foldl (refStep c) a).Pairwise ltB/\ ∀s,s∈r.foldl (refStep c) a↔ ∃f,FirstIs c L f/\f.Starter=s:=by
  intro r
  induction r with
  |nil=>grind
  |cons f r O=>
   intro p a N E y;have P:f∈L:=by grind
   have F:=h.2 f P;have M:∀g∈p,cmpF g f<0:=by
    intro g d;have:=h.1;rw[<- N,List.pairwise_append]at this;exact this.2.2 g d f (by simp)
   have keep:∀g,FirstIs c p g->FirstIs c (p++[f]) g:=by
    rintro g ⟨i,j,H⟩;refine⟨by simp[i],j,?_⟩;intro k m u w;rcases Vx.1 m with m|m
    .grind
    .rw[Vv]at m;subst m;have:=M g i;have:=QmI.swap g k;omega
   have n:∀g,FirstIs c (p++[f]) g->g∈p->FirstIs c p g:=by
    rintro g ⟨i,j,H⟩ d;exact⟨d,j,λk m u w=>H k (by simp[m]) u w⟩
   refine O (p++[f]) (refStep c a f) (by rw[<- N];simp) ?_ ?_
   .unfold refStep;cases q:refOk c f&& !(a.any (ofBib f.Starter.Bib))with
    |false=>exact E
    |true=>
     rw[XT,Bool.not_eq_true',List.any_eq_false]at q;exact QeS _ _ E λt z e=>(q.2 t z (by unfold ofBib;rw[e];simp))
   .intro s;unfold refStep;cases q:refOk c f&& !(a.any (ofBib f.Starter.Bib))with
    |false=>
     simp only[Vj];rw[y s];constructor
     .rintro⟨g,i,j⟩;exact⟨g,keep g i,j⟩
     .rintro⟨g,i,j⟩;rcases Vx.1 i.1 with d|d
      .exact⟨g,n g i d,j⟩
      .rw[Vv]at d;subst d;exfalso;have J:=i.2.1;rw[Qmm F]at J;rw[J,Vu,Bool.not_eq_false',Xt]at q;obtain⟨t,z,x⟩:=q;obtain⟨k,u,w⟩:=(y t).1 z;have m:k.Starter.Bib=g.Starter.Bib:=by
        rw[w];unfold ofBib at x;simpa using x
       exact i.2.2 k (by simp[u.1]) u.2.1 m (M k u.1)
    |true=>
     rw[XT,Bool.not_eq_true',List.any_eq_false]at q;simp only[Vi];rw[QjA,y s];constructor
     .rintro(rfl|⟨g,i,j⟩)
      .refine⟨f,⟨by simp,by rw[Qmm F];exact q.1,?_⟩,rfl⟩;intro g d i j;rcases Vx.1 d with d|d
       .exfalso;obtain⟨k,u,w,G⟩:=QdM (c:=c) (l:=p) d i;refine q.2 k.Starter ((y _).2 ⟨k,⟨u,w,G.2⟩,rfl⟩) ?_;unfold ofBib;rw[G.1,j];simp
       .rw[Vv]at d;subst d;have:=QmI.refl g;omega
      .exact⟨g,keep g i,j⟩
     .rintro⟨g,i,j⟩;rcases Vx.1 i.1 with d|d
      .exact .inr ⟨g,n g i d,j⟩
      .rw[Vv]at d;subst d;exact .inl j.symm
 exact B L [] [] rfl (by simp) (λs=>by
  constructor
  .intro h;cases h
  .rintro⟨f,⟨h,_⟩,_⟩;cases h)
theorem Qio(c:Course)(l:List Fact):(canonS l).foldl (refStep c) []=(ordF (firstS c l)).map (·.Starter):=by
 obtain⟨e,g⟩:=YT l;obtain⟨d,f⟩:=Qk7 c (canonS l) e;refine Qaa (λx h=>by unfold ltB at h;omega) (λx y z a b=>by unfold ltB at*;omega) d ?_ λs=>?_
 .rw[List.pairwise_map];exact QbL c l
 grind[Qex,Qeb]
theorem YI(l:List Fact):(canonS l).length<=l.length:=by
 have:∀(m a:List Fact),(m.foldl (λa x=>bif validS x then insC x a else a) a).length<=a.length+m.length:=by
  intro m
  induction m with
  |nil=>simp
  |cons x m d=>
   grind[Qga]
 have:=this l [];simpa[canonS]using this
theorem QiP(L:List Starter)(m:L.length<=1048576):Ev (λn=>iter (F_ct n L) n 0) (bif decide ((L.map (·.Chip)).Nodup)then Ctl.cont ()else Ctl.done ([],180)):=by
 have h:=Ql5 (step:=λn=>F_ct n L) L (λ_=>true) (λs=>s.Chip) (Ctl.done ([],180)) (Ctl.cont ()) (by omega) (λi x a _ hk=>?_) (λi x a h=>by cases h) (λi x a _ hk=>?_) ?_
 .grind
 .have g:=a.lt';unfold F_ct;simp only[a.lt,a.nx];have k:=Qec (step:=λn=>F_bf n L i) L i (λs=>s.Chip) x.Chip (Ctl.done (Ctl.done (Ctl.done ([],180)))) (Ctl.cont ()) (by omega) (by omega) (λj y l d f=>?_) (λj y l d f=>?_) ?_
  .rw[hk]at k;exact Ea k (Qa _)
  .unfold F_bf;have e:(x.Chip==y.Chip)=false:=by grind
   simp only[YS (show j<(i:Int)by omega),a.ix,d.ix,XG,e,d.nx];exact Qa _
  .unfold F_bf;have e:(x.Chip==y.Chip)=true:=by grind
   simp only[YS (show(j:Int)<i by omega),a.ix,d.ix,XG,e];exact Qa _
  grind[F_bf,Qa]
 .have g:=a.lt';unfold F_ct;simp only[a.lt,a.nx];have k:=Qec (step:=λn=>F_bf n L (i:Int)) L i (λs=>s.Chip) x.Chip (Ctl.done (Ctl.done (Ctl.done ([],180)))) (Ctl.cont ()) (by omega) (by omega) (λj y l d f=>?_) (λj y l d f=>?_) ?_
  .rw[hk]at k;exact Ea k (Qa _)
  .unfold F_bf;have e:(x.Chip==y.Chip)=false:=by rw[Vt];exact λe=>Vq f e.symm
   simp only[YS (show j<(i:Int)by omega),a.ix,d.ix,XG,e,d.nx];exact Qa _
  .unfold F_bf;have e:(x.Chip==y.Chip)=true:=by rw[Vs];exact(Vp f).symm
   simp only[YS (show(j:Int)<i by omega),a.ix,d.ix,XG,e];exact Qa _
  grind[F_bf,Qa]
 simp_all[F_ct,Qa]
theorem Qgz(e:Int)(c:Course)(l:List Fact)(hl:l.length<=16)(he:Ev (λn=>F_q n c) e):Ev (λn=>F_cw n c l) (startF e c l):=by
 unfold F_cw startF;refine Ea he ?_;cases(e != 0)with
 |true=>exact Qa _
 |false=>
  refine Ea (Qaq l (by omega)) ?_;have d:=YI l;refine Ea (Qlv c (canonS l) (by omega)) ?_;rw[Qio];have a:((ordF (firstS c l)).map (·.Starter)).length<=l.length:=by rw[XX,QdB];exact(Qbt c l).len
  rw[YU (show¬4000<(((ordF (firstS c l)).map (·.Starter)).length:Int)by omega)];refine Yf (Ea (QiP _ (by omega)) ?_);have f:((ordF (firstS c l)).map (·.Starter)).map (·.Chip)=(ordF (firstS c l)).map chipK:=by rw[List.map_map];rfl
  grind[Qa]
def rulB(k i:Int)(f:Fact):Bool:=(f.Kind==10)&&((f.Ruling.Case==k)&&(f.Ruling.Instance==i))
def repB(k:Int)(f:Fact):Bool:=(f.Kind==8)&&(f.Report.Case==k)
def appB(k:Int)(f:Fact):Bool:=(f.Kind==11)&&(f.Appeal.Suspends&&(f.Appeal.Case==k))
def caseN(f:Fact):Option Int:=bif f.Kind==10 then some f.Ruling.Case else bif f.Kind==8 then some f.Report.Case else bif (f.Kind==11)&&f.Appeal.Suspends then some f.Appeal.Case else none
def fileOf(P:List Fact)(k:Int):Ub:=⟨k,P.filter (rulB k 0),P.filter (rulB k 1),P.filter (rulB k 2),(P.filter (repB k)).map (·.Report),P.any (appB k)⟩
theorem QaK{k i:Int}{f:Fact}(h:rulB k i f=true):caseN f=some k:=by
 simp_all[rulB,caseN]
theorem Qhu{k:Int}{f:Fact}(h:repB k f=true):caseN f=some k:=by
 simp_all[repB,caseN]
theorem Qh2{k:Int}{f:Fact}(h:appB k f=true):caseN f=some k:=by
 simp_all[appB,caseN]
theorem Qa9{α:Type}{p:α->Bool}{l:List α}(h:∀x∈l,p x=false):l.filter p=[]:=by
 simp_all
theorem QbR{b:Bool}(h:¬b=true):b=false:=by grind
theorem Qlo{P:List Fact}{k:Int}(h:∀f∈P,caseN f≠some k):fileOf P k=QaP k:=by
 unfold fileOf QaP;rw[Qa9 λf a=>QbR λq=>h f a (QaK q),Qa9 λf a=>QbR λq=>h f a (QaK q),Qa9 λf a=>QbR λq=>h f a (QaK q),
  Qa9 λf a=>QbR λq=>h f a (Qhu q),show P.any (appB k)=false from List.any_eq_false.2 λf a q=>h f a (Qh2 q)]
 rfl
theorem Yp{α:Type}(p:α->Bool)(l:List α)(x:α):(l++[x]).filter p=bif p x then l.filter p++[x]else l.filter p:=by
 grind
theorem QdN{P:List Fact}{f:Fact}{k:Int}(h:caseN f≠some k):fileOf (P++[f]) k=fileOf P k:=by
 unfold fileOf;rw[Yp,Yp,Yp,Yp,QbR λq=>h (QaK q),QbR λq=>h (QaK q),QbR λq=>h (QaK q),QbR λq=>h (Qhu q),List.any_append,List.any_cons,List.any_nil,
  QbR λq=>h (Qh2 q)]
 simp
structure FilesOf (P:List Fact) (fs:List Ub):Prop where
 num:(fs.map (·.number)).Nodup
 each:∀x∈fs,x=fileOf P x.number
 mem:∀k,k∈fs.map (·.number)↔ ∃f∈P,caseN f=some k
theorem FilesOf.nil:FilesOf [] []:=⟨List.nodup_nil,(λ_ h=>by cases h),λk=>by simp⟩
theorem FilesOf.skip{P:List Fact}{fs:List Ub}{f:Fact}(h:FilesOf P fs)(d:caseN f=none):FilesOf (P++[f]) fs:=by
 refine⟨h.num,λx a=>?_,λk=>?_⟩
 .rw[QdN (by grind)];exact h.each x a
 .rw[h.mem k]
  grind
theorem FilesOf.put{P:List Fact}{fs:List Ub}{f:Fact}{k:Int}{g:Ub->Ub}(h:FilesOf P fs)(u:caseN f=some k)(w:∀x,(g x).number=x.number)(hg:g (fileOf P k)=fileOf (P++[f]) k):FilesOf (P++[f]) (Qb4 (Qaf fs k) k g):=by
 have r:∀x∈Qaf fs k,x=fileOf P x.number:=by
  by_cases q:∃x∈fs,x.number=k
  .rw[QdL q];exact h.each
  .have i:=λx d e=>q ⟨x,d,e⟩;rw[Qci i];intro x d;rcases Vx.1 d with z|z
   .exact h.each x z
   .rw[Vv.1 z];refine(Qlo λa s e=>?_).symm;obtain⟨x,d,G⟩:=Xf.1 ((h.mem k).2 ⟨a,s,e⟩)
    grind
 have p:((Qaf fs k).map (·.number)).Nodup:=by
  by_cases q:∃x∈fs,x.number=k
  .rw[QdL q];exact h.num
  .have i:=λx d e=>q ⟨x,d,e⟩;rw[Qci i,Xg,List.nodup_append];refine⟨h.num,by simp,?_⟩;intro a s b E;obtain⟨x,d,rfl⟩:=Xf.1 s;have hb':=by simpa  using E
   rw[hb'];exact i x d
 have t:∀j,j∈(Qaf fs k).map (·.number)↔j=k\/j∈fs.map (·.number):=by
  intro j;by_cases q:∃x∈fs,x.number=k
  .rw[QdL q];constructor
   .exact .inr
   .rintro(rfl|z)
    .obtain⟨x,d,e⟩:=q;exact Xf.2 ⟨x,d,e⟩
    .exact z
  .rw[Qci λx d e=>q ⟨x,d,e⟩,Xg,Vx];simp[Vd,Ve,Vv];exact Or.comm
 have l:(Qb4 (Qaf fs k) k g).map (·.number)=(Qaf fs k).map (·.number):=by
  unfold Qb4;rw[List.map_map];refine List.map_congr_left λx _=>?_;show(bif decide (x.number=k)then g x else x).number=x.number;cases decide (x.number=k)with
  |true=>exact w x
  |false=>rfl
 refine⟨by rw[l];exact p,λx d=>?_,λj=>?_⟩
 .obtain⟨y,F,rfl⟩:=Xf.1 d;have B:=r y F;cases q:decide (y.number=k)with
  |true=>
   have i:=Vp q;show g y=fileOf _ (g y).number;rw[w,i, <- hg, <- i, <- B]
  |false=>
   have i:=Vq q;rw[QdN (by rw[u];intro z;cases z;exact i rfl)];exact B
 .rw[l,t,h.mem j];constructor
  .rintro(rfl|⟨a,n,m⟩)
   .exact⟨f,by simp,u⟩
   .exact⟨a,by simp[n],m⟩
  .rintro⟨a,n,m⟩;rcases Vx.1 n with z|z
   .exact .inr ⟨a,z,m⟩
   .rw[Vv.1 z,u]at m;cases m;exact .inl rfl
theorem FilesOf.room{P:List Fact}{fs:List Ub}{k:Int}(h:FilesOf P fs)(hl:P.length<1048576):QfU (Qaf fs k)=true:=by
 have e:∀n,n<=P.length->Nat.ble (n+1) QC=true:=λn d=>QcE (by omega);have one:∀j,(λx=>Nat.ble (x.r0.length+1) QC&&Nat.ble (x.r1.length+1) QC&&Nat.ble (x.r2.length+1) QC&&Nat.ble (x.reports.length+1) QC) (fileOf P j)=true:=by
  simp_all[fileOf,VH]
 refine Xs.2 λx a=>?_;by_cases q:∃x∈fs,x.number=k
 .rw[QdL q]at a;rw[h.each x a];exact one _
 .rw[Qci (by grind)]at a;rcases Vx.1 a with z|z
  .rw[h.each x z];exact one _
  grind[QaP]
theorem Qb3{f:Fact}(h:validS f=true):headS f=true/\contR f=true/\onlyS f=f:=by
 simp_all[Qcv,Qkt]
theorem Qn7{f:Fact}(h:validS f=true):0<=f.At/\f.At<=1099511627776:=by
 obtain⟨a,_,_⟩:=Qb3 h
 simp_all[QjT,QaQ]
theorem Qcu{f:Fact}(h:validS f=true)(k:f.Kind=10):(1<=f.Ruling.Case/\(f.Ruling.Instance=1\/f.Ruling.Instance=2))/\(0<=f.Ruling.Bib/\f.Ruling.Bib<=9999)/\f.Report=Uk.Report:=by
 obtain⟨_,d,n⟩:=Qb3 h;have e:f.Report=(onlyS f).Report:=by rw[n]
 have m:(onlyS f).Report=bif f.Kind==8 then f.Report else Uk.Report:=rfl
 rw[m,k]at e;refine⟨?_,?_,e⟩
 .unfold contR at d;rw[k]at d;have g:(true&&(nb f.Ruling.Case 1 1048576&&(nb f.Ruling.Instance 1 2&&(nb f.Ruling.Kind 1 5&&(bif (f.Ruling.Kind==1)||(f.Ruling.Kind==2)then nb f.Ruling.Bib 0 0&&(nb f.Ruling.Position 0 0&&(nb f.Ruling.Amount 0 0&&true))else bif f.Ruling.Kind==3 then nb f.Ruling.Bib 1 9999&&(nb f.Ruling.Position 0 255&&(nb f.Ruling.Amount 1 1099511627776&&true))else bif f.Ruling.Kind==4 then nb f.Ruling.Bib 1 9999&&(nb f.Ruling.Position 0 255&&(nb f.Ruling.Amount 1 64&&true))else nb f.Ruling.Bib 1 9999&&(nb f.Ruling.Position 0 255&&(nb f.Ruling.Amount 0 0&&true)))))))=true:=d;simp only[XT,QaQ]at g;omega
 .unfold contR at d;rw[k]at d;have g:(true&&(nb f.Ruling.Case 1 1048576&&(nb f.Ruling.Instance 1 2&&(nb f.Ruling.Kind 1 5&&(bif (f.Ruling.Kind==1)||(f.Ruling.Kind==2)then nb f.Ruling.Bib 0 0&&(nb f.Ruling.Position 0 0&&(nb f.Ruling.Amount 0 0&&true))else bif f.Ruling.Kind==3 then nb f.Ruling.Bib 1 9999&&(nb f.Ruling.Position 0 255&&(nb f.Ruling.Amount 1 1099511627776&&true))else bif f.Ruling.Kind==4 then nb f.Ruling.Bib 1 9999&&(nb f.Ruling.Position 0 255&&(nb f.Ruling.Amount 1 64&&true))else nb f.Ruling.Bib 1 9999&&(nb f.Ruling.Position 0 255&&(nb f.Ruling.Amount 0 0&&true)))))))=true:=d;simp only[XT]at g;obtain⟨_,_,_,_,a⟩:=g;cases j:((f.Ruling.Kind==1)||(f.Ruling.Kind==2))with
  |true=>rw[j]at a;simp[Vi,XT,QaQ]at a;omega
  |false=>
   rw[j,Vj]at a;cases l:(f.Ruling.Kind==3)with
   |true=>rw[l]at a;simp[Vi,XT,QaQ]at a;omega
   |false=>
    rw[l,Vj]at a;cases i:(f.Ruling.Kind==4)with
    |true=>rw[i]at a;simp[Vi,XT,QaQ]at a;omega
    |false=>rw[i]at a;simp[Vj,XT,QaQ]at a;omega
theorem Qhi{f:Fact}(h:validS f=true)(k:f.Kind=8):1<=f.Report.Case/\(1<=f.Report.Bib/\f.Report.Bib<=9999)/\f.Ruling=Uk.Ruling:=by
 obtain⟨_,g,a⟩:=Qb3 h;have e:f.Ruling=(onlyS f).Ruling:=by rw[a]
 have d:(onlyS f).Ruling=bif f.Kind==10 then f.Ruling else Uk.Ruling:=rfl
 simp_all[contR,QaQ]
theorem Qfp{f:Fact}(k:f.Kind=10)(j:Int):rulB f.Ruling.Case j f=(f.Ruling.Instance==j):=by
 unfold rulB;rw[k];simp
theorem QiC{P:List Fact}{fs:List Ub}{f:Fact}(h:FilesOf P fs)(hl:P.length<1048576)(s:validS f=true):∃fs',filesStep fs f=some fs'/\FilesOf (P++[f]) fs':=by
 unfold filesStep;cases a:(f.Kind==10)with
 |true=>
  have k:=by simpa using a
  obtain⟨⟨_,m⟩,_⟩:=Qcu s k;have e:caseN f=some f.Ruling.Case:=by unfold caseN;rw[a];rfl
  have r:repB f.Ruling.Case f=false:=by unfold repB;rw[k];rfl
  have n:appB f.Ruling.Case f=false:=by unfold appB;rw[k];rfl
  simp only[h.room hl];rcases m with m|m
  .refine⟨Qb4 (Qaf fs f.Ruling.Case) f.Ruling.Case λx=>{x with r1:=x.r1++[f]},by rw[m];rfl,h.put e (λx=>rfl) ?_⟩
   grind[fileOf,Qfp]
  .refine⟨Qb4 (Qaf fs f.Ruling.Case) f.Ruling.Case λx=>{x with r2:=x.r2++[f]},by rw[m];rfl,h.put e (λx=>rfl) ?_⟩
   grind[fileOf,Qfp]
 |false=>
  have l:∀j i,rulB j i f=false:=λj i=>by unfold rulB;rw[a];rfl
  cases g:(f.Kind==8)with
  |true=>
   have k:=by simpa using g
   have e:caseN f=some f.Report.Case:=by unfold caseN;rw[a,g];rfl
   have t:repB f.Report.Case f=true:=by unfold repB;rw[k];simp
   have n:appB f.Report.Case f=false:=by unfold appB;rw[k];rfl
   simp only[h.room hl];refine⟨Qb4 (Qaf fs f.Report.Case) f.Report.Case λx=>{x with reports:=x.reports++[f.Report]},rfl,h.put e (λx=>rfl) ?_⟩;unfold fileOf;rw[Yp,Yp,Yp,Yp,l,l,l,t,List.any_append,List.any_cons,List.any_nil,n];simp
  |false=>
   have r:∀j,repB j f=false:=λj=>by unfold repB;rw[g];rfl
   cases d:(f.Kind==11)with
   |true=>
    cases p:f.Appeal.Suspends with
    |true=>
     have e:caseN f=some f.Appeal.Case:=by unfold caseN;rw[a,g,d,p];rfl
     have q:appB f.Appeal.Case f=true:=by unfold appB;rw[d,p];simp
     refine⟨Qb4 (Qaf fs f.Appeal.Case) f.Appeal.Case λx=>{x with appeal:=true},rfl,h.put e (λx=>rfl) ?_⟩;unfold fileOf;rw[Yp,Yp,Yp,Yp,l,l,l,r,List.any_append,List.any_cons,List.any_nil,q];simp
    |false=>exact⟨_,rfl,h.skip (by unfold caseN;rw[a,g,d,p];rfl)⟩
   |false=>exact⟨_,rfl,h.skip (by unfold caseN;rw[a,g,d];rfl)⟩
def voidB(C:List Fact)(f:Fact):Bool:=(f.Kind==10)&&C.any λg=>rulB f.Ruling.Case f.Ruling.Instance g&&decide (cmpF g f<0)
def voidS(C:List Fact):List Fact:=C.filter (voidB C)
theorem Qjh{l:List Fact}(h:l.Pairwise ltF)(f:Fact):f∈l.drop 1↔f∈l/\ ∃g∈l,ltF g f:=by
 cases l with
 |nil=>simp
 |cons a r=>
  rw[Xc]at h;simp only[List.drop_succ_cons,List.drop_zero];constructor
  .grind
  .rintro⟨e,g,i,d⟩;rcases X0.1 e with rfl|e
   .rcases X0.1 i with rfl|i
    .exact absurd d (QbG _)
    grind[Qdb,QbG]
   .exact e
theorem Qn5{C:List Fact}(r:CanonOK C){fs:List Ub}(h:FilesOf C fs)(f:Fact):f∈voidS C↔ ∃x∈fs,f∈x.r0.drop 1\/f∈x.r1.drop 1\/f∈x.r2.drop 1:=by
 have sub:=λp=>r.1.filter p;have one:∀k i,f∈(C.filter (rulB k i)).drop 1->f∈voidS C:=by
  intro k i a;obtain⟨d,g,j,m⟩:=(Qjh (sub _) f).1 a;rw[Xe]at d j;have q:=d.2;unfold rulB at q;simp[XT,Vs]at q;unfold voidS;rw[Xe];refine⟨d.1,?_⟩;unfold voidB;rw[q.1,q.2.1,q.2.2];exact Xt.2 ⟨g,j.1,by rw[j.2,Vu];exact Vn (show cmpF g f<0 from m)⟩
 constructor
 .intro a;unfold voidS at a;rw[Xe]at a;obtain⟨d,j⟩:=a;unfold voidB at j;rw[XT,Xt]at j;obtain⟨k,g,u,m⟩:=j;rw[XT]at m;have k':=by simpa using k
  have t:caseN f=some f.Ruling.Case:=by unfold caseN;rw[k];rfl
  obtain⟨x,n,e⟩:=Xf.1 ((h.mem f.Ruling.Case).2 ⟨f,d,t⟩);have ex:=h.each x n;rw[e]at ex;have s:∀i,f.Ruling.Instance=i->f∈(C.filter (rulB f.Ruling.Case i)).drop 1:=by
   rintro i rfl;refine(Qjh (sub _) f).2 ⟨Xe.2 ⟨d,by rw[Qfp k'];simp⟩,g,Xe.2 ⟨u,m.1⟩,(show cmpF g f<0 from Vp m.2)⟩
  refine⟨x,n,?_⟩;rw[ex];obtain⟨⟨_,l⟩,_⟩:=Qcu (r.2 f d) k';rcases l with l|l
  .exact .inr (.inl (s 1 l))
  .exact .inr (.inr (s 2 l))
 .rintro⟨x,n,a⟩;have ex:=h.each x n;rw[ex]at a;rcases a with a|a|a
  iterate 3 exact one _ _ a
def refOf(f:Fact):Ref:={Crew:=f.Crew,No:=f.No:Ref}
def voidR(l:List Fact):List Ref:=(voidS (canonS l)).map refOf
def standB(vs:List Ref)(k:Int)(f:Fact):Bool:=(f.Kind==10)&&((f.Ruling.Case==k)&& !(vs.any λr=>decide (r=refOf f)))
def firstRep(C:List Fact)(k:Int):Option Fact:=C.find? (repB k)
def about(l:List Fact)(k:Int):List Fact:=l.filter (λf=>validS f&&standB (voidR l) k f)++(firstRep (canonS l) k).toList
def SameF(l m:List Fact):Prop:=∀f,validS f=true->(f∈l↔f∈m)
theorem SameF.symm{l m:List Fact}(h:SameF l m):SameF m l:=λf hf=>(h f hf).symm
theorem QkF(l:List Fact):SameF (canonS l) l:=λf hf=>by rw[(YT l).2 f];simp[hf]
theorem SameF.filter{l m:List Fact}(h:SameF l m)(p:Fact->Bool):SameF (l.filter p) (m.filter p):=λf hf=>by rw[Xe,Xe,h f hf]
theorem SameF.voidR{l m:List Fact}(h:SameF l m):voidR l=voidR m:=by unfold Go.Sw.voidR;rw[Qdg h]
theorem QeA{l:List Fact}{k:Int}{f:Fact}:f∈about l k↔(f∈l/\validS f=true/\standB (voidR l) k f=true)\/firstRep (canonS l) k=some f:=by
 simp_all[about]
theorem QbT{l m:List Fact}(h:SameF l m)(k:Int):∀f,f∈about l k↔f∈about m k:=by
 intro f;rw[QeA,QeA,h.voidR,Qdg h];constructor
 .rintro(⟨a,b,c⟩|a)
  .exact .inl ⟨(h f b).1 a,b,c⟩
  grind
 .rintro(⟨a,b,c⟩|a)
  .exact .inl ⟨(h f b).2 a,b,c⟩
  grind
theorem Qap{l:List Fact}{k:Int}{f:Fact}(h:firstRep (canonS l) k=some f):f∈l/\validS f=true/\repB k f=true:=by
 have a:=List.mem_of_find?_eq_some h;have d:=List.find?_some h
 grind[YT]
theorem Qpr{l:List Fact}{k:Int}{f:Fact}(h:f∈about l k):f∈l/\validS f=true/\((f.Kind=10/\f.Ruling.Case=k)\/(f.Kind=8/\f.Report.Case=k)):=by
 rcases QeA.1 h with⟨a,b,c⟩|a
 .simp_all[standB]
 .obtain⟨a,b,c⟩:=Qap a
  simp_all[repB]
theorem Qpq{α:Type}{l m:List α}(h:∀x,x∈l↔x∈m)(p:α->Bool):l.any p=m.any p:=by
 grind
theorem Qde{α:Type}{l m:List α}(h:∀x,x∈l↔x∈m):l.isEmpty=m.isEmpty:=by
 rw[XU,List.isEmpty_iff,List.isEmpty_iff,List.eq_nil_iff_forall_not_mem,List.eq_nil_iff_forall_not_mem]
 grind
def repStep(k:Int)(r f:Fact):Fact:=bif validS f&&repB k f then(bif (r.Kind==0)||decide (cmpF f r<0)then f else r)else r
structure RepOf (k:Int) (P:List Fact) (r:Fact):Prop where
 none:(r.Kind==0)=true->r=Uk/\ ∀f∈P,validS f=true->repB k f=false
 some:(r.Kind==0)=false->r∈P/\validS r=true/\repB k r=true/\ ∀f∈P,validS f=true->repB k f=true->¬cmpF f r<0
theorem Qht{k:Int}{f:Fact}(h:repB k f=true):(f.Kind==0)=false:=by
 simp_all[repB]
theorem RepOf.nil(k:Int):RepOf k [] Uk:=⟨(by simp),λh=>by cases h⟩
theorem RepOf.step{k:Int}{P:List Fact}{r f:Fact}(h:RepOf k P r):RepOf k (P++[f]) (repStep k r f):=by
 unfold repStep;cases q:validS f&&repB k f with
 |false=>
  have n:¬(validS f=true/\repB k f=true):=λz=>by grind
  refine⟨λz=>⟨(h.none z).1,λg i j=>?_⟩,λz=>?_⟩
  .rcases Vx.1 i with w|w
   .exact(h.none z).2 g w j
   grind
  .obtain⟨a,b,c,d⟩:=h.some z
   grind
 |true=>
  rw[XT]at q;simp[Vi];cases z:(r.Kind==0)with
  |true=>
   simp[Bool.true_or,Vi];refine⟨λw=>(by rw[Qht q.2]at w;cases w),λ_=>⟨by simp,q.1,q.2,λg i j l=>?_⟩⟩;rcases Vx.1 i with w|w
   .rw[(h.none z).2 g w j]at l;cases l
   .rw[Vv.1 w];have:=QmI.refl f;omega
  |false=>
   simp[Bool.false_or];obtain⟨a,b,c,d⟩:=h.some z;cases y:decide (cmpF f r<0)with
   |true=>
    have m:=Vp y;simp[Vi];refine⟨λw=>(by rw[Qht q.2]at w;cases w),λ_=>⟨by simp,q.1,q.2,λg i j l=>?_⟩⟩;rcases Vx.1 i with w|w
    .intro e;exact d g w j l (QmI.trans _ _ _ e m)
    .rw[Vv.1 w];have:=QmI.refl f;omega
   |false=>
    have m:=Vq y;simp[Vj];refine⟨λw=>(by grind),λ_=>⟨by simp[a],b,c,λg i j l=>?_⟩⟩
    grind
theorem Qp1(k:Int)(l:List Fact):RepOf k l (l.foldl (repStep k) Uk):=by
 have d:∀(r p:List Fact) (a:Fact),RepOf k p a->RepOf k (p++r) (r.foldl (repStep k) a):=by
  intro r
  induction r with
  |nil=>simp
  |cons f r e=>
   intro p a h;rw[XB,show p++f::r=(p++[f])++r by simp];exact e _ _ h.step
 exact d l [] Uk (RepOf.nil k)
theorem Qlc{C:List Fact}(e:C.Pairwise ltF){p:Fact->Bool}{f:Fact}(h:C.find? p=some f):∀g∈C,p g=true->¬cmpF g f<0:=by
 induction C with
 |nil=>cases h
 |cons a C ih=>
  rw[Xc]at e;rw[List.find?_cons]at h;cases q:p a with
  |true=>
   rw[q]at h;cases h;intro g d _;rcases X0.1 d with rfl|d
   .have:=QmI.refl g;omega
   .have:=e.1 g d;unfold ltF at this;have:=QmI.swap f g;omega
  |false=>
   grind
theorem Qm5(k:Int)(l:List Fact):(l.foldl (repStep k) Uk=Uk/\firstRep (canonS l) k=none)\/(((l.foldl (repStep k) Uk).Kind==0)=false/\firstRep (canonS l) k=some (l.foldl (repStep k) Uk)):=by
 have h:=Qp1 k l;obtain⟨c1,i⟩:=YT l;generalize l.foldl (repStep k) Uk=r at*;cases z:(r.Kind==0)with
 |true=>
  obtain⟨a,b⟩:=h.none z;refine .inl ⟨a,List.find?_eq_none.2 λf s=>?_⟩
  grind
 |false=>
  obtain⟨a,b,c,d⟩:=h.some z;refine .inr ⟨rfl,?_⟩;have hr:=(i r).2 ⟨a,b⟩;cases q:firstRep (canonS l) k with
  |none=>exact absurd c (by have:=List.find?_eq_none.1 q r hr;exact this)
  |some f=>
   obtain⟨g,e,j⟩:=Qap q;have m:=Qlc c1.1 q r hr c;have n:=d f g e j;have p:=QmI.swap f r;rw[QcF e b (by omega)]
def bibOf(f:Fact):Int:=f.Report.Bib+f.Ruling.Bib
def whoB(ab:List Fact)(b:Int):Bool:= !(b==0)&&ab.any λf=>bibOf f==b
theorem QnG{l:List Fact}{k:Int}{f:Fact}(h:f∈about l k):0<=bibOf f/\bibOf f<=9999:=by
 obtain⟨_,a,q|q⟩:=Qpr h
 .simp_all[Qcu,bibOf]
 .obtain⟨_,d,e⟩:=Qhi a q.1;unfold bibOf
  grind
def maxAt(ab:List Fact):Int:=ab.foldl (λa f=>max a f.At) 0
theorem QjL(d:List Fact):∀a:Int,a<=d.foldl (λa f=>max a f.At) a/\(∀f∈d,f.At<=d.foldl (λa f=>max a f.At) a)/\(d.foldl (λa f=>max a f.At) a=a\/ ∃f∈d,f.At=d.foldl (λa f=>max a f.At) a):=by
 induction d with
 |nil=>simp
 |cons x r h=>
  intro a;rw[XB];obtain⟨i,k,e⟩:=h (max a x.At);refine⟨by omega,λf g=>?_,?_⟩
  .rcases X0.1 g with rfl|g
   .omega
   grind
  .rcases e with e|⟨f,j,l⟩
   .rcases Int.le_total a x.At with q|q
    .grind
    omega
   grind
theorem QjK{l m:List Fact}(h:∀x,x∈l↔x∈m):maxAt l=maxAt m:=by
 obtain⟨d,k,g⟩:=QjL l 0;obtain⟨i,j,e⟩:=QjL m 0;unfold maxAt;generalize l.foldl (λa f=>max a f.At) 0=x at*
 grind
def standS(e:Int)(c:Course)(l:List Fact)(p:Protest):Bool:=
 bif (about l p.Case).isEmpty then false else bif (p.By==0)||whoB (about l p.Case) p.By then true else
 bif (startF e c l).2==0 then(startF e c l).1.any (λs=>(s.Bib==p.By)&&(startF e c l).1.any λt=>whoB (about l p.Case) t.Bib&&(t.Distance==s.Distance))else false
def deadS(e:Int)(c:Course)(l:List Fact)(k:Int):Int×Bool:=bif (e==0)&& !(about l k).isEmpty then(i64.wrap (maxAt (about l k)+c.Deadline),true)else(0,false)
def filedB(t:Int)(g:Fact):Bool:= !decide (t<g.At)
def admS(e:Int)(c:Course)(l:List Fact)(f:Fact):Bool:=
 validS f&&((f.Kind==9)&&((f.Protest.Form==1)&&(((f.Protest.By==0)||decide (c.Fee<=f.Protest.Fee))&&(((deadS e c (l.filter (filedB f.At)) f.Protest.Case).2&&decide (f.At<=(deadS e c (l.filter (filedB f.At)) f.Protest.Case).1))&&standS e c (l.filter (filedB f.At)) f.Protest))))
def lateB(l:List Fact)(f:Fact):Bool:=(about l f.Protest.Case).any λg=>(g.Kind==10)&&decide (f.At<g.At)
def openB(e:Int)(c:Course)(l:List Fact)(f:Fact):Bool:=admS e c l f&& !lateB l f
theorem Qje{l m:List Fact}(h:∀x,x∈l↔x∈m)(b:Int):whoB l b=whoB m b:=by unfold whoB;grind
theorem Qjl{e:Int}{c:Course}{l m:List Fact}(h:SameF l m)(p:Protest):standS e c l p=standS e c m p:=by
 have hw:=funext λb=>Qje (QbT h p.Case) b;unfold standS;rw[Qde (QbT h p.Case),Qjk h,hw]
theorem QlJ{e:Int}{c:Course}{l m:List Fact}(h:SameF l m)(k:Int):deadS e c l k=deadS e c m k:=by
 grind[deadS,Qde,QbT,QjK]
theorem QnI{e:Int}{c:Course}{l m:List Fact}(h:SameF l m)(f:Fact):admS e c l f=admS e c m f:=by
 unfold admS;rw[QlJ (h.filter _),Qjl (h.filter _)]
theorem Qle{e:Int}{c:Course}{l m:List Fact}(h:SameF l m)(f:Fact):openB e c l f=openB e c m f:=by
 grind[openB,lateB,QnI,QbT]
theorem QgQ{e:Int}{c:Course}{l:List Fact}{f:Fact}(h:admS e c l f=true):validS f=true/\f.Kind=9:=by
 simp_all[admS]
section
variable {α β:Type}
theorem QbK(q:α->Bool):∀(l a:List α),l.foldl (λa x=>bif q x then a++[x]else a) a=a++l.filter q
 |[],a=>by simp
 |x::l,a=>by
  rw[XB,QbK q l,Xd]
  grind
theorem Qdp{step:Nat->List α×Int->Option (Ctl (List α×Int) (List α))}(l:List α)(q:α->Bool)(hl:l.length<=1048576)
  (g:∀i x a,At l i x->a.length<=i->Ev (λn=>step n (a,(i:Int))) (.cont ((bif q x then a++[x]else a),((i+1:Nat):Int))))
  (d:∀a,Ev (λn=>step n (a,(l.length:Int))) (.done a)):Ev (λn=>Go.Sw.iter (step n) n ([],0)) (l.filter q):=by
 have e:l.filter q=l.foldl (λa x=>bif q x then a++[x]else a) []:=by rw[QbK];rfl
 rw[e];refine QB l (λa x=>bif q x then a++[x]else a) [] (λa i=>(a,(i:Int))) (λa=>a) (by omega) rfl (λi x a f h=>g i x a f ?_) (d _);rw[h,QbK,Vb]
 grind
theorem Qew(f:α->β):∀(l:List α) (a:List β),l.foldl (λa x=>a++[f x]) a=a++l.map f
 |[],a=>by simp
 |x::l,a=>by rw[XB,Qew f l];simp
theorem QqI{step:Nat->List β×Int->Option (Ctl (List β×Int) (List β))}(l:List α)(f:α->β)(hl:l.length<=1048576)
  (h:∀i x a,At l i x->a.length<=i->Ev (λn=>step n (a,(i:Int))) (.cont (a++[f x],((i+1:Nat):Int))))
  (d:∀a,Ev (λn=>step n (a,(l.length:Int))) (.done a)):Ev (λn=>Go.Sw.iter (step n) n ([],0)) (l.map f):=by
 have e:l.map f=l.foldl (λa x=>a++[f x]) []:=by rw[Qew];rfl
 rw[e];refine QB l (λa x=>a++[f x]) [] (λa i=>(a,(i:Int))) (λa=>a) (by omega) rfl (λi x a g j=>h i x a g ?_) (d _);rw[j,Qew,Vb,XX,Xw];omega
theorem Qev{l:List α}[DecidableEq (List α)](hl:l.length<=1048576):isNil l (some ([]:List α)) ((app ([]:List α) l).bind λx=>some x)=some l:=by
 have:app [] l=some l:=by rw[Qfw _ _ (by simp;omega)];rfl
 unfold isNil
 grind
theorem QpM{F:Nat->α->α->Option β}{V:α->α->β}(l:List α)(h:∀x∈l,∀y∈l,Ev (λn=>F n x y) (V x y)):∃N,∀n,N<=n->∀x∈l,∀y∈l,F n x y=some (V x y):=by
 obtain⟨N,d⟩:=QaY (F:=λn p=>F n p.1 p.2) (V:=λp=>V p.1 p.2) (l.flatMap λx=>l.map λy=>(x,y)) (by
  grind)
 exact⟨N,λn a x f y e=>d n a (x,y) (by grind)⟩
def ltC(c:α->α->Int)(x y:α):Bool:=decide (c x y<0)
theorem QcC{c:α->α->Int}(d:CmpOK c)(l:List α):Qfa (ltC c) l:=by
 refine⟨λx _=>?_,λx _ y _ z _ f g=>?_,λx _ y _ z _ f g=>?_⟩
 .have:=d.refl x;exact Vr (by omega)
 .have f:=Vp f;have g:=Vp g;exact Vn (d.trans x y z f g)
 .have f:=Vq f;have g:=Vq g;refine Vr λh=>?_;have a:=d.swap x y;have b:=d.swap y z;by_cases e:c x y=0
  .rw[d.eqt x y z e]at h;exact g h
  .by_cases i:c y z=0
   .rw[<- d.eqr x i]at h;exact f h
   .have j:=d.trans z y x (by omega) (by omega);have:=d.swap x z;omega
theorem QmW[DecidableEq α]{f:Nat->α->α->Option Int}{l:List α}{c:α->α->Int}(hl:l.length<=1048576)(m:∀x∈l,∀y∈l,Ev (λn=>f n x y) (c x y))(a:CmpOK c)(s:∀x∈l,∀y∈l,c x y=0->x=y):
  Ev (λn=>Qb7 (f n) l) (Jh (ltC c) l):=by
 obtain⟨N,q⟩:=QpM l m;refine⟨N,λn p=>?_⟩;have h:=q n p;have k:=Qoh (XO (QcE hl)) c h (λx _=>by have:=a.refl x;omega) (λx _ y _ z _=>a.trans x y z) (λx d y e z r g i=>by
   have:=(QcC a l).ntrans x d y e z r (Vr g) (Vr i);exact Vq this) (λx d y e g i=>s x d y e (by have:=a.swap x y;omega))
 show Qb7 (f n) l=some (Jh (ltC c) l);rw[k];congr 1;obtain⟨_,_,t,_,_⟩:=Qdq k;have j:∀x∈l,∀y∈l,ltO (f n) x y=ltC c x y:=λx d y e=>by unfold ltO ltC;grind
 refine JO ((Qu _ l).trans (Qu _ l).symm) (λx d y e g i=>?_) ?_ (Q2 (QcC a l))
 .grind[Qu]
 grind[List.Pairwise.imp_of_mem,Q2,Qu]
end
def ddA(p:Fact):List Fact->List Fact
 |[]=>[]
 |x::r=>bif cmpF x p==0 then ddA x r else x::ddA x r
def dd:List Fact->List Fact
 |[]=>[]
 |x::r=>x::ddA x r
theorem Qph{x p:Fact}{r:List Fact}(q:(cmpF x p==0)=true):ddA p (x::r)=ddA x r:=by
 simp_all[ddA]
theorem Qpg{x p:Fact}{r:List Fact}(q:(cmpF x p==0)=false):ddA p (x::r)=x::ddA x r:=by
 show(bif cmpF x p==0 then ddA x r else x::ddA x r)=_;rw[q];rfl
theorem Qpf:∀(r:List Fact) (p:Fact),(∀x∈r,¬cmpF x p<0)->r.Pairwise (λa b=>¬cmpF b a<0)->(∀x∈p::r,validS x=true)->(ddA p r).Pairwise ltF/\(∀x∈ddA p r,ltF p x)/\ ∀x,x∈p::ddA p r↔x∈p::r
 |[],p,_,_,_=>⟨List.Pairwise.nil,(λ_ h=>by cases h),λ_=>Iff.rfl⟩
 |y::r,p,h1,h2,h3=>by
  rw[Xc]at h2;obtain⟨i1,i2,i3⟩:=Qpf r y h2.1 h2.2 (by grind);have hy:=h1 y (by simp);unfold ddA;cases q:cmpF y p==0 with
  |true=>
   have q':=by simpa using q
   have e:=QcF (h3 y (by simp)) (h3 p (by simp)) q'
   grind
  |false=>
   have q':=by simpa using q
   have f:ltF p y:=by
    have:=QmI.swap y p;unfold ltF;omega
   simp only[Vj];refine⟨(by simp_all),λx d=>?_,λx=>?_⟩
   .rcases X0.1 d with rfl|d
    .exact f
    .exact Qdb _ _ _ f (i2 x d)
   grind
theorem dd_ok{S:List Fact}(h:S.Pairwise λa b=>¬cmpF b a<0)(e:∀x∈S,validS x=true):(dd S).Pairwise ltF/\ ∀x,x∈dd S↔x∈S:=by
 cases S with
 |nil=>exact⟨List.Pairwise.nil,λ_=>Iff.rfl⟩
 |cons a r=>
  rw[Xc]at h;obtain⟨d,f,g⟩:=Qpf r a h.1 h.2 e;exact⟨Xc.2 ⟨f,d⟩,g⟩
theorem QiG(x y:Fact):Ev (λn=>F_ca n x y) (cmpF x y==0):=Ea (QbQ x y) (Qa _)
theorem Qmt{l:List Fact}{a j:Nat}{x:Fact}(h:l[a+j]?=some x){m:Int}(e:m=(l.length:Int)):Qiy l (a:Int) m (j:Int)=some x:=by
 have d:=(XI.1 h).1;unfold Qiy;rw[Vn (show 0<=(a:Int)by omega),Vn (show 0<=(j:Int)by omega),Vn (show a+j<m by omega)];exact YX h
theorem QmH{α:Type}{l r:List α}{i:Nat}{x:α}(h:l.drop i=x::r):l[i]?=some x/\l.drop (i+1)=r/\i<l.length:=by
 have h1:=by
  have:=congrArg (λl=>l[0]?) h;simpa using this
 grind[List.drop_eq_getElem_cons]
theorem Qkm(a:List Fact)(hl:a.length<=1048576)(d:Nat):∀(r s:List Fact) (i j:Nat) (p:Fact),s.length=a.length->s.drop (d+(j+1))=r->s[d+j]?=some p->i<d+(j+1)->d+(j+1)<=s.length->
  ∃(s':List Fact) (e:Nat),EvI (λn=>F_ga n a (d:Int)) (s,(i:Int),((j+1:Nat):Int)) (s',(e:Int))/\e<=s'.length/\s'.take e=s.take i++ddA p r:=by
 intro r
 induction r with
 |nil=>
  intro s i j p f g E H M;refine⟨s,i,Eh ?_,by omega,by simp[ddA]⟩;have:=Xq.1 g
  grind[F_ga,Qa]
 |cons x r B=>
  intro s i j p f g E H M;obtain⟨t,w,L⟩:=QmH g;have F:=Qmt t (show(a.length:Int)=(s.length:Int)by rw[f]);have u:=Qmt E (show(a.length:Int)=(s.length:Int)by rw[f]);have y:i64.wrap (((j+1:Nat):Int)-1)=(j:Int):=by rw[QZ (by omega) (by omega)];omega
  have z:i64.wrap (((j+1:Nat):Int)+1)=((j+1+1:Nat):Int):=Yh (by omega);have G:decide (((j+1:Nat):Int)<((toNat (a.length:Int)-toNat (d:Int):Nat):Int))=true:=Vn (by omega);have h:i<s.length:=by omega
  cases q:cmpF x p==0 with
  |true=>
   obtain⟨s',e,l,k,m⟩:=B s i (j+1) x f (by rw[show d+(j+1+1)=d+(j+1)+1 by omega];exact w) t (by omega) (by omega);refine⟨s',e,Et ?_ l,k,by rw[m,Qph q]⟩;unfold F_ga;simp only[G,Vi,F,y,u,XG];refine Ea (QiG x p) ?_;rw[q];simp only[Xh,Vj,XG,z];exact Qa _
  |false=>
   have J:(s.set i x).length=a.length:=by rw[XZ];exact f
   obtain⟨s',e,l,k,m⟩:=B (s.set i x) (i+1) (j+1) x J (by rw[show d+(j+1+1)=d+(j+1)+1 by omega,List.drop_set_of_lt (by omega)];exact w) (by rw[XM (by omega)];exact t) (by omega) (by rw[XZ];omega);have N:i64.wrap ((i:Int)+1)=((i+1:Nat):Int):=Yh (by omega);refine⟨s',e,Et ?_ l,k,?_⟩
   .unfold F_ga;simp only[G,Vi,F,y,u,XG];refine Ea (QiG x p) ?_;rw[q];simp only[Xi,Vi,XG,z,YX (XH h),Qjq s x h,N];exact Qa _
   .rw[m,List.take_add_one,Xa h,List.take_set_of_le (XQ _)];rw[Qpg q];simp
theorem Qkn(a:List Fact)(hl:a.length<=1048576):∀(r:List Fact) (k:Nat) (p:Fact),a.drop (k+1)=r->a[k]?=some p->k+1<=a.length->∃b:Ctl Unit (List Fact),EvI (λn=>F_hj n a) ((k+1:Nat):Int) b/\((b=.cont ()/\ddA p r=r)\/b=.done (a.take (k+1)++ddA p r)):=by
 intro r
 induction r with
 |nil=>
  intro k p h j y;refine⟨.cont (),Eh ?_,.inl ⟨rfl,rfl⟩⟩;have:=Xq.1 h
  grind[F_hj,Qa]
 |cons x r w=>
  intro k p h j y;obtain⟨f,s,g⟩:=QmH h;have t:i64.wrap ((k+1:Nat)-1)=k:=by rw[QZ (by omega) (by omega)];omega
  have u:i64.wrap ((k+1:Nat)+1)=k+1+1:=Yh (by omega);have m:decide ((k+1:Nat)<(a.length:Int))=true:=Vn (by omega);cases q:cmpF x p==0 with
  |true=>
   obtain⟨z,B,i,d,l⟩:=Qkm a hl (k+1) r a (k+1) 0 x rfl s f (by omega) (by omega);refine⟨.done (a.take (k+1)++ddA p (x::r)),Eh ?_,.inr rfl⟩;unfold F_hj;simp only[m,YX f,t,YX j,XG];refine Ea (QiG x p) ?_;rw[q];simp only[Qb8 a (Nat.le_of_lt g),XG];refine Ea i.ev ?_;simp only[QfJ z d];rw[l];rw[Qph q];exact Qa _
  |false=>
   obtain⟨b,i,d⟩:=w (k+1) x s f g;have e:=Qpg (r:=r) q;refine⟨b,Et ?_ i,?_⟩
   .unfold F_hj;simp only[m,YX f,t,YX j,XG];refine Ea (QiG x p) ?_;rw[q];simp only[u];exact Qa _
   .rcases d with⟨d,l⟩|d
    .exact .inl ⟨d,by rw[e,l]⟩
    .rw[d,e,List.take_add_one,f];simp
theorem Qkk(a:List Fact)(hl:a.length<=1048576):Ev (λn=>F_fv n a) (dd a):=by
 match a,hl with
 |[],_=>exact Qa _
 |[x],_=>exact Qa _
 |x::y::r,hl=>
  obtain⟨b,f,e⟩:=Qkn (x::y::r) hl (y::r) 0 x rfl rfl (by simp);refine Ea f.ev ?_;rcases e with⟨rfl,d⟩|rfl
  .show Ev (λn=>some (x::y::r)) (x::ddA x (y::r));rw[d];exact Qa _
  .exact Qa _
theorem QhT(l:List Fact)(d:∀f∈l,validS f=true)(hl:l.length<=1048576):Ev (λn=>F_bk n l) (canonS l):=by
 unfold F_bk F_bu;simp only[Qev hl,XG];have p:=Qu (ltC cmpF) l;refine Ea (QmW hl (λx _ y _=>QbQ x y) QmI λx g y i e=>QcF (d x g) (d y i) e) (Ea (Qkk _ (by rw[p.length_eq];exact hl)) ?_);have s:(Jh (ltC cmpF) l).Pairwise λa b=>¬cmpF b a<0:=List.Pairwise.imp (λq=>Vq q) (Q2 (QcC QmI l));obtain⟨h,j⟩:=dd_ok s (by grind);obtain⟨c1,k⟩:=YT l;refine Er (Qa _) (Qaa QbG Qdb h c1.1 λf=>?_)
 grind
def cmpN(x y:Ub):Int:=cmpI x.number y.number
theorem Qfu:CmpOK cmpN:=cmpI_ok.on λx:Ub=>x.number
def sortN(fs:List Ub):List Ub:=Jh (ltC cmpN) fs
theorem Qmn{fs:List Ub}(h:(fs.map (·.number)).Nodup){x y:Ub}(d:x∈fs)(f:y∈fs)(e:x.number=y.number):x=y:=by
 induction fs with
 |nil=>cases d
 |cons a r g=>
  grind
theorem Qm2{p q:List Ub}(h:p.Perm q)(g:(q.map (·.number)).Nodup):sortN p=sortN q:=by
 have hp:=(h.map _).nodup_iff.2 g;refine JO ((Qu _ p).trans (h.trans (Qu _ q).symm)) (λx f y e a d=>?_) (Q2 (QcC Qfu p)) (Q2 (QcC Qfu q));have a:=Vq a;have d:=Vq d;refine Qmn hp ((Qu _ p).mem_iff.1 f) ((Qu _ p).mem_iff.1 e) (QrN.1 ?_);have:=Qfu.swap x y;show cmpN x y=0;omega
def ltN(x y:Ub):Prop:=x.number<y.number
theorem Qjm{p:List Ub}(e:(p.map (·.number)).Nodup):(sortN p).Pairwise ltN:=by
 have d:((sortN p).map (·.number)).Nodup:=((Qu _ p).map _).nodup_iff.2 e;have s:=Q2 (QcC Qfu p);have hm':=by
  unfold List.Nodup at d;rw[List.pairwise_map]at d;exact d
 refine List.Pairwise.imp₂ (λx y a f=>?_) s hm';have a:¬cmpI y.number x.number<0:=Vq a;rw[Qqz]at a;unfold ltN;omega
theorem Qrw(x y:Ub):Ev (λn=>F_bv n x y) (cmpN x y==0):=by
 unfold F_bv F_bt;simp[QiO];exact Qa _
theorem Qkl(fs:List Ub)(hl:fs.length<=1048576)(d:fs.Pairwise ltN):Ev (λn=>F_ec n fs) ():=by
 unfold F_ec;cases q:decide ((fs.length:Int)<2)with
 |true=>exact Qa _
 |false=>
  refine Ea (v:=()) ?_ (Qa _);refine Eu (λi=>((i+1:Nat):Int)) (fs.length-1) rfl (λi h=>?_) ?_
  .have a:fs[i+1]?=some fs[i+1]:=(by simp);have g:fs[i]?=some fs[i]:=(by simp);have f:i64.wrap (((i+1:Nat):Int)-1)=(i:Int):=by rw[QZ (by omega) (by omega)];omega
   have j:i64.wrap (((i+1:Nat):Int)+1)=((i+1+1:Nat):Int):=Yh (by omega);unfold F_lj;rw[Vn (show(((i+1:Nat):Int)<(fs.length:Int))by omega)];simp only[Vi,YX a,f,YX g,XG];refine Ea (Qrw _ _) ?_;have lt:=Vy.1 d i (i+1) (by omega) (by omega) (by omega);have e:(cmpN fs[i+1] fs[i]==0)=false:=by
    rw[Vt];intro z;have z2:=QrN.1 z;unfold ltN at lt;omega
   grind[Qa]
  grind[F_lj,Qa]
theorem Qlp(fs:List Ub)(hl:fs.length<=1048576)(a:(fs.map (·.number)).Nodup):Ev (λn=>F_cy n fs) (sortN fs):=by
 unfold F_cy F_et;simp only[Qev hl,XG];refine Ea (v:=sortN fs) (QmW hl (λx _ y _=>?_) Qfu λx f y d e=>Qmn a f d (QrN.1 e)) ?_
 .unfold F_bt;simp[QiO];exact Qa _
 .refine Ea (Qkl _ ?_ (Qjm a)) (Qa _);unfold sortN;rw[(Qu _ fs).length_eq];exact hl
theorem Qgf(fs:List Ub)(k:Int):(Qaf fs k).length<=fs.length+1:=by
 grind[Qaf]
theorem QfF(fs:List Ub)(k:Int)(g:Ub->Ub):(Qb4 fs k g).length=fs.length:=by unfold Qb4;simp
theorem QqB{fs a:List Ub}{k i:Int}{f:Fact}(h:filesAdd fs k i f=some a):a.length=fs.length:=by
 grind[filesAdd,QfF]
theorem Qoc{fs a:List Ub}{f:Fact}(h:filesStep fs f=some a):a.length<=fs.length+1:=by
 unfold filesStep at h;cases g:(f.Kind==10)with
 |true=>
  rw[g,Vi]at h;cases d:QfU (Qaf fs f.Ruling.Case)with
  |true=>rw[d,Vi]at h;rw[QqB h];exact Qgf _ _
  |false=>grind
 |false=>
  rw[g,Vj]at h;cases d:(f.Kind==8)with
  |true=>
   rw[d,Vi]at h;cases e:QfU (Qaf fs f.Report.Case)with
   |true=>rw[e,Vi]at h;cases h;rw[QfF];exact Qgf _ _
   |false=>grind
  |false=>
   rw[d,Vj]at h;cases e:(f.Kind==11)with
   |true=>
    rw[e,Vi]at h;cases i:f.Appeal.Suspends with
    |true=>rw[i,Vi]at h;cases h;rw[QfF];exact Qgf _ _
    |false=>grind
   |false=>grind
theorem Qnr(C:List Fact)(h:∀f∈C,validS f=true)(hl:C.length<=1048576):∃fs,Ev (λn=>Go.Sw.iter (filesL n C) n (([]:List Ub),0)) fs/\FilesOf C fs/\fs.length<=C.length:=by
 have loop:∀(r:List Fact) (i:Nat) (s:List Ub),C.drop i=r->i<=C.length->FilesOf (C.take i) s->s.length<=i->∃fs,EvI (λn=>filesL n C) (s,i) fs/\FilesOf C fs/\fs.length<=C.length:=by
  intro r
  induction r with
  |nil=>
   grind[EvI.done,filesL,QO,Qa]
  |cons f r t=>
   intro i s m w p j;obtain⟨a,g⟩:=Qt (by omega) m;have q:=a.lt';obtain⟨u,d,e⟩:=QiC p (by grind) (h f a.mem);rw[<- a.take]at e;obtain⟨fs,l,k⟩:=t (i+1) u g (by omega) e (by have:=Qoc d;omega);refine⟨fs,Et ?_ l,k⟩;unfold filesL;simp only[a.lt,a.ix,XG,d,a.nx];exact Qa _
 obtain⟨fs,d,e⟩:=loop C 0 [] rfl (XR _) FilesOf.nil (XQ _);exact⟨fs,d.ev,e⟩
theorem QgH:∀(p:List (Int×Ub)) (s:List Ub) (n:Nat),s.length+p.length<=1048576->QfP (F_iy n) (F_lu n) s p=some (s++p.map Prod.snd)
 |[],s,n,_=>by unfold QfP F_lu;simp
 |e::p,s,n,h=>by
  rw[XW]at h;have h1:F_iy n s e=some (.cont (s++[e.2])):=by
   unfold F_iy;rw[Y4 _ _ (by omega)];rfl
  unfold QfP;rw[h1];show QfP _ _ (s++[e.2]) p=_;rw[QgH p _ n (by simp;omega)];simp
theorem FilesOf.perm{C:List Fact}{fs gs:List Ub}(h:FilesOf C fs)(p:gs.Perm fs):FilesOf C gs:=
 ⟨(p.map _).nodup_iff.2 h.num,λx hx=>h.each x (p.mem_iff.1 hx),λk=>by rw[(p.map _).mem_iff];exact h.mem k⟩
theorem Qo6(l:List Fact)(hl:l.length<=100):∃fs,Ev (λn=>F_gb n l) fs/\FilesOf (canonS l) fs/\fs.Pairwise ltN/\fs.length<=(canonS l).length:=by
 have q:∀f∈l.filter validS,validS f=true:=(by simp);have e:canonS (l.filter validS)=canonS l:=Qdg (by grind);obtain⟨c1,u⟩:=YT l;have k:=YI l;obtain⟨fs,j,d,t⟩:=Qnr (canonS l) c1.2 (by omega);refine⟨sortN fs,?_,d.perm (Qu _ fs),Qjm d.num,by unfold sortN;rw[(Qu _ fs).length_eq];exact t⟩;refine Ea (Qdp l validS (by omega) (λi x a g m=>?_) λa=>?_) ?_
 .have r:=g.lt';unfold F_ls;simp only[g.lt,g.ix,XG,g.nx];refine Ea (Qaj x) ?_
  grind[Y4,Qa]
 .simp_all[F_ls,Qa]
 refine Ea ((QhT _ q (by grind)).eq e) (Ea j ?_);refine Ev.anyP λp h=>?_;have w:p.length=fs.length:=by rw[h.length_eq];unfold Qfj;simp
 have pm:=by
  have:=h.map Prod.snd;unfold Qfj at this;rw[List.map_map]at this;have s:(fs.map (Prod.snd ∘ λx=>(x.number,x)))=fs:=by
   conv=>rhs;rw[<- List.map_id fs]
   rfl
  rw[s]at this;exact this
 simp only[QgH p [] _ (by simp;omega),Vb,XG];refine Ea (Qlp _ (by grind) ((pm.map _).nodup_iff.2 d.num)) ?_;rw[Qm2 pm d.num];exact Qa _
def tailsOf(x:Ub):List Fact:=x.r0.drop 1++(x.r1.drop 1++x.r2.drop 1)
theorem Qo0(x:Ub)(s:List Fact)(h:s.length+(tailsOf x).length<=1048576)(h0:x.r0.length<=1048576)(f:x.r1.length<=1048576)(g:x.r2.length<=1048576):Ev (λn=>Go.Sw.iter (F_kd n x) n (s,0)) (s++tailsOf x):=by
 unfold tailsOf at h⊢;simp only[XY]at h;have one:∀(l s:List Fact) (i:Nat),[x.r0,x.r1,x.r2][i]?=some l->l.length<=1048576->s.length+(l.drop 1).length<=1048576->∀n,F_kd n x (s,i)=some (.cont (s++l.drop 1,(i+1:Nat))):=by
  intro l s i e k m n;have d:=(XI.1 e).1;simp[XW,List.length_nil]at d;unfold F_kd;simp only[Vn (show((i:Int)<3)by omega),Vi,YX e,XG,Yh (show i<9223372036854775807 by omega)];cases q:decide (1<(l.length:Int))with
  |true=>
   have j:=Vp q;have:=Qb8 l (a:=1) (by omega);rw[show((1:Nat):Int)=1 by rfl]at this;rw[this];simp only[XG];rw[Qfw _ _ (by omega)];rfl
  |false=>
   have j:=Vq q;simp only[Vj,XG];rw[Xq.2 (by omega),Va]
 refine EvI.ev (Et (Ym (Qa _) λn=>one _ _ 0 rfl h0 (by omega) n) (Et (Ym (Qa _) λn=>one _ _ 1 rfl f (by simp only[XY];omega) n) (Et (Ym (Qa _) λn=>one _ _ 2 rfl g (by simp only[XY];omega) n) (Eh (Ym (Qa _) λn=>?_)))));simp[Vc];rfl
theorem Qhj{C:List Fact}{fs:List Ub}(h:FilesOf C fs){x:Ub}(a:x∈fs):(tailsOf x).length<=3*C.length/\x.r0.length<=C.length/\x.r1.length<=C.length/\x.r2.length<=C.length:=by
 have e:=h.each x a;have f:x.r0.length<=C.length:=by rw[e];exact VH ..
 have d:x.r1.length<=C.length:=by rw[e];exact VH ..
 have g:x.r2.length<=C.length:=by rw[e];exact VH ..
 grind[tailsOf]
theorem Qnl{C:List Fact}{fs gs:List Ub}(h:FilesOf C fs)(hg:∀x∈gs,x∈fs):(gs.flatMap tailsOf).length<=gs.length*(3*C.length):=by
 induction gs with
 |nil=>simp
 |cons a r d=>
  rw[List.flatMap_cons,XY,XW,Xy,Nat.one_mul];have:=(Qhj h (hg a (by simp))).1
  grind
theorem Qdc{α β:Type}(f:α->List β):∀(l:List α) (a:List β),l.foldl (λa x=>a++f x) a=a++l.flatMap f
 |[],a=>by simp
 |x::l,a=>by rw[XB,Qdc f l];simp
theorem Qqt(l:List Fact)(hl:l.length<=100):Ev (λn=>F_eu n l) (voidR l):=by
 obtain⟨d,r,q,N,F⟩:=Qo6 l hl;have y:=YI l;obtain⟨c1,J⟩:=YT l;have B:∀j:List Ub,j.length<=d.length->(∀x∈j,x∈d)->(j.flatMap tailsOf).length<=30000:=λj G k=>by
  have a:=Qnl q k;have b:j.length*(3*(canonS l).length)<=100*300:=Nat.mul_le_mul (by omega) (by omega);omega
 refine Ea r ?_;refine Ea (v:=d.flatMap tailsOf) ?_ ?_
 .have e:d.flatMap tailsOf=d.foldl (λa x=>a++tailsOf x) []:=by rw[Qdc];rfl
  rw[e];refine QB d (λa x=>a++tailsOf x) [] (λa i=>(a,(i:Int))) (λa=>a) (by omega) rfl (λi x a g p=>?_) ?_
  .rw[Qdc,Vb]at p;have m:a.length<=30000:=by grind
   obtain⟨H,O,L,M⟩:=Qhj q g.mem;unfold F_lo;simp only[g.lt,Vi,g.ix,XG,g.nx];exact Ea (Qo0 x a (by omega) (by omega) (by omega) (by omega)) (Qa _)
  simp_all[F_lo,Qa]
 have k:∀f,f∈d.flatMap tailsOf↔f∈voidS (canonS l):=by
  grind[Qn5,tailsOf]
 have hv:=λf p=>by
  have:=(k f).1 p;exact c1.2 f (Xe.1 this).1
 have E:=B d (XQ _) λx z=>z;refine Ea (QhT _ hv (by omega)) ?_;have e:canonS (d.flatMap tailsOf)=voidS (canonS l):=by
  obtain⟨s,w⟩:=YT (d.flatMap tailsOf);refine Qaa QbG Qdb s.1 (c1.1.filter _) λf=>?_;rw[w,k f];exact⟨λh=>h.1,λh=>⟨h,hv f ((k f).2 h)⟩⟩
 rw[e];have u:(voidS (canonS l)).length<=100:=XS (VH ..) (by omega);refine Ea (v:=voidR l) (QqI _ refOf (by omega) (λi x a g m=>?_) λa=>?_) (Qa _)
 .have t:=g.lt';unfold F_ll;simp only[g.lt,Vi,g.ix,XG,g.nx];rw[Y4 a _ (by omega)];exact Qa _
 simp_all[F_ll,Qa]
section
variable {S T B:Type} {step:Nat->S->Option (List T×Ctl S B)} {s s':S} {b:B} {xs ys:List T}
def EvL(step:Nat->S->Option (List T×Ctl S B))(s:S)(ys:List T)(b:B):Prop:=∃N,∀n k,N<=n->N<=k->QdJ (step n) k s=some (ys,b)
theorem EvL.done(h:Ev (λn=>step n s) (ys,.done b)):EvL step s ys b:=by
 obtain⟨N,h⟩:=h;refine⟨N+1,λn k d f=>?_⟩;obtain⟨a,rfl⟩:∃a,k=a+1:=⟨k-1,by omega⟩;have e:step n s=some (ys,.done b):=h n (by omega);unfold QdJ;rw[e];rfl
theorem EvL.cont(h:Ev (λn=>step n s) (xs,.cont s'))(q:EvL step s' ys b):EvL step s (xs++ys) b:=by
 obtain⟨N,h⟩:=h;obtain⟨M,q⟩:=q;refine⟨max N M+1,λn k d f=>?_⟩;obtain⟨a,rfl⟩:∃a,k=a+1:=⟨k-1,by omega⟩;have e:step n s=some (xs,.cont s'):=h n (by omega);unfold QdJ
 grind
theorem EvL.ev(h:EvL step s ys b):Ev (λn=>QdJ (step n) n s) (ys,b):=by
 obtain⟨N,h⟩:=h;exact⟨N,λn a=>h n n a a⟩
theorem Qhs{U R:Type}{st:U->T->Option (Ctl U R)}(g:U->T->U):∀(l:List T) (u:U),(∀x∈l,∀u,st u x=some (.cont (g u x)))->QcP st l u=some (.cont (l.foldl g u))
 |[],u,_=>rfl
 |x::l,u,h=>by
  unfold QcP;rw[h x (by simp)];exact Qhs g l _ (by grind)
end
theorem Qn6(vs:List Ref)(r:Ref):Qy (Ye (λx:Ref=>x) true vs) r false=vs.any λx=>decide (x=r):=by
 rw[Qan,List.map_id']
 grind
theorem QgI(l:List Fact)(k:Int)(hl:l.length<=100):Ev (λn=>F_bh n l k) (about l k,()):=by
 refine Ea (Qqt l hl) ?_;have w:(voidR l).length<=100:=by
  grind[voidR,voidS,YI]
 refine Ea (v:=Ye (λx:Ref=>x) true (voidR l)) (QaG _ _ _ (by omega) (λi x m d=>?_) λm=>?_) ?_
 .unfold F_lt;simp only[d.lt,d.ix,d.nx];exact Qa _
 .simp_all[F_lt,Qa]
 have loop:∀(r:List Fact) (i:Nat) (a:Fact),l.drop i=r->i<=l.length->EvL (λn=>F_kl n l k (Ye (λx:Ref=>x) true (voidR l))) (a,i) (r.filter λf=>validS f&&standB (voidR l) k f) (r.foldl (repStep k) a):=by
  intro r
  induction r with
  |nil=>
   grind[EvL.done,F_kl,QO,Qa]
  |cons f r q=>
   intro i a t y;obtain⟨d,p⟩:=Qt (by omega) t;have u:=d.lt';have e:(f::r).filter (λf=>validS f&&standB (voidR l) k f)=(bif validS f&&standB (voidR l) k f then[f]else[])++r.filter λf=>validS f&&standB (voidR l) k f:=by
    grind
   rw[e,XB];refine EvL.cont ?_ (q (i+1) (repStep k a f) p (by omega));unfold F_kl;simp only[d.lt,d.ix,XG,d.nx];refine Ea (Qaj f) ?_;unfold repStep;cases z:validS f with
   |false=>exact Qa _
   |true=>
    refine Yf (Ea (v:=repB k f) (Ym (Qa _) λn=>?_) ?_)
    .unfold repB;cases(f.Kind==8)<;>rfl
    cases g:repB k f with
    |true=>
     have s:standB (voidR l) k f=false:=by
      unfold repB at g;rw[XT,Vs]at g;unfold standB;rw[g.1];rfl
     rw[s];refine Ea (Ep λ_=>Ea (QbQ f a) (Qa _)) ?_;cases(a.Kind==0)||decide (cmpF f a<0)<;>exact Qa _
    |false=>
     simp only[Qn6];refine Ea (v:=standB (voidR l) k f) (Ym (Qa _) λn=>?_) ?_
     .unfold standB refOf;cases(f.Kind==10)<;>cases(f.Ruling.Case==k)<;>rfl
     cases standB (voidR l) k f<;>exact Qa _
 refine Ea (loop l 0 Uk rfl (XR _)).ev ?_;unfold about;rcases Qm5 k l with⟨h,j⟩|⟨h,j⟩
 .rw[j];simp only[h];refine Ym (Qa _) λn=>?_;rfl
 .rw[j];simp only[bne,h,Vi];refine Ym (Qa _) λn=>?_;rfl
theorem QhK:∀(ab:List Fact) (a:Int) (b:Bool),ab.foldl (λ(s:Int×Bool) x=>((if s.1<x.At then x.At else s.1),true)) (a,b)=(ab.foldl (λa f=>max a f.At) a,b|| !ab.isEmpty)
 |[],a,b=>by simp
 |x::r,a,b=>by
  rw[XB,QhK r,XB]
  grind
theorem Qkp(e:Int)(c:Course)(l:List Fact)(k:Int)(hl:l.length<=100)(he:Ev (λn=>F_r n c) e):Ev (λn=>F_ay n c l k) (deadS e c l k):=by
 unfold F_ay deadS;refine Ea he ?_;cases h:(e==0)with
 |false=>
  rw[show(e != 0)=true by grind];exact Qa _
 |true=>
  rw[show(e != 0)=false by grind];refine Ea (QgI l k hl) (Ea (v:=.cont (maxAt (about l k), !(about l k).isEmpty)) (Ym (Qa _) λn=>?_) ?_)
  .have a:=Qhs (st:=F_mb n) (λs x=>((if s.1<x.At then x.At else s.1),true)) (about l k) (0,false) λx _ u=>rfl;rw[QhK]at a;exact a
  grind[Qa]
theorem Qnd{α β:Type}[DecidableEq α](l:List (α×β))(k a:α):YN (mdel l k) a=if a=k then none else YN l a:=by
 induction l with
 |nil=>by_cases h:a=k<;>simp[mdel,Qow]
 |cons p l d=>
  unfold mdel at d⊢;rw[Xd,Jz];by_cases e:p.1=k
  .grind
  .by_cases f:a=k
   .simp_all[Jz]
   grind[Jz]
theorem Qc9{α β:Type}[DecidableEq α](l:List (α×β))(k:α)(z:β):Qy l k z=(YN l k).getD z:=by
 rfl
theorem Qpn{l:List Fact}{k:Int}{f:Fact}(h:f∈about l k):i64.wrap (f.Report.Bib+f.Ruling.Bib)=bibOf f:=by
 have:=QnG h
 grind[bibOf,QZ]
theorem Qjf{l:List Fact}{k:Int}(n:Nat):∀(a:List Fact),(∀f∈a,f∈about l k)->∀(m:List (Int×Bool)) (b:Bool),QcP (F_ji n) a (m,b)=some (.cont (a.foldl (λm f=>Yk m (bibOf f) true) m,b|| !a.isEmpty))
 |[],_,m,b=>by simp[QcP]
 |x::r,h,m,b=>by
  unfold QcP;have:F_ji n (m,b) x=some (.cont (Yk m (bibOf x) true,true)):=by
   unfold F_ji;rw[Qpn (h x (by simp))];rfl
  rw[this];show QcP _ r _=_;rw[Qjf n r (λf d=>h f (by simp[d]))];simp
theorem Qma(a:List Fact)(b:Int):Qy (mdel (a.foldl (λm f=>Yk m (bibOf f) true) ([]:List (Int×Bool))) 0) b false=whoB a b:=by
 have e:a.foldl (λm f=>Yk m (bibOf f) true) []=Ye bibOf true a:=rfl;rw[e,Qc9,Qnd];unfold whoB;by_cases h:b=0
 .grind
 .rw[Vl h, <- Qc9,Qan]
  grind
theorem Qho{α κ:Type}[DecidableEq κ](q:α->Bool)(key:α->κ)(d:κ):∀(l:List α) (m:List (κ×Bool)),Qy (l.foldl (λm t=>bif q t then Yk m (key t) true else m) m) d false=(Qy m d false||l.any λt=>q t&&decide (key t=d))
 |[],m=>by simp
 |x::l,m=>by
  rw[XB,Qho q key d l,List.any_cons];cases h:q x with
  |false=>simp
  |true=>
   rw[Vi,Qc8]
   grind
theorem Qnm{α:Type}(q:α->Bool)(l:List α):decide (0<=firstI q l 0)=l.any q:=by
 grind[Qa8]
theorem Qko(e:Int)(c:Course)(l:List Fact)(p:Protest)(hl:l.length<=16)(he:Ev (λn=>F_r n c) e):Ev (λn=>F_al n c l p) (standS e c l p):=by
 unfold F_al standS F_bb;simp only[XG];refine Ea (QgI l p.Case (by omega)) (Ea (v:=.cont ((about l p.Case).foldl (λm f=>Yk m (bibOf f) true) [], !(about l p.Case).isEmpty)) (Ym (Qa _) λn=>by rw[Qjf n _ λf k=>k];rfl) ?_);simp only[Qma];generalize hm:mdel ((about l p.Case).foldl (λm f=>Yk m (bibOf f) true) []) 0=M;have g:∀b,Qy M b false=whoB (about l p.Case) b:=λb=>by rw[<- hm];exact Qma _ b
 generalize about l p.Case=ab at g⊢;cases ab.isEmpty with
 |true=>exact Qa _
 |false=>
  simp only[Xi,Xh,Vj];refine Ea (Ep λ_=>Qa _) ?_;cases(p.By==0)||whoB ab p.By with
  |true=>exact Qa _
  |false=>
   refine Ea (Qkb e c l hl he) ?_;cases q:((startF e c l).2==0)with
   |false=>
    rw[show((startF e c l).2 != 0)=true by grind];exact Qa _
   |true=>
    rw[show((startF e c l).2 != 0)=false by rw[bne,q];rfl];have j:=QfI e c l;generalize startF e c l=st at j;refine Ea (v:=st.1.foldl (λm t=>bif whoB ab t.Bib then Yk m t.Distance true else m) []) ?_ ?_
    .refine QB st.1 (λm t=>bif whoB ab t.Bib then Yk m t.Distance true else m) [] (λm i=>(m,(i:Int))) (λm=>m) (by omega) rfl (λi x m a _=>?_) ?_
     .unfold F_ma;simp only[a.lt,a.ix,XG,a.nx,g];cases whoB ab x.Bib<;>exact Qa _
     .unfold F_ma;simp[Qcm];exact Qa _
    generalize hd:st.1.foldl (λm t=>bif whoB ab t.Bib then Yk m t.Distance true else m) []=D;have h:∀d,Qy D d false=st.1.any λt=>whoB ab t.Bib&&(t.Distance==d):=λd=>by
     rw[<- hd,Qho (λt:Starter=>whoB ab t.Bib) (λt=>t.Distance) d,QhC,Bool.false_or];refine congrArg (λf=>st.1.any f) (funext λt=>?_);rw[show decide (t.Distance=d)=(t.Distance==d)from rfl]
    refine Ea ?_ (Qa _);rw[<- Qnm];refine Ea (Ev.first st.1 (λs=>(s.Bib==p.By)&&st.1.any λt=>whoB ab t.Bib&&(t.Distance==s.Distance)) (by omega) (λi x a=>?_) ?_) (Qa _)
    .unfold F_le F_gs;simp only[a.lt,a.ix,XG,a.nx,h];refine Ea (Ea (Ql λ_=>Qa _) (Qa _)) ?_;cases(x.Bib==p.By)&&st.1.any λt=>whoB ab t.Bib&&(t.Distance==x.Distance)<;>exact Qa _
    .unfold F_le;simp[Qcm];exact Qa _
theorem Qqr(l:List Fact)(f:Fact)(hl:l.length<=1048576):Ev (λn=>F_gl n l f) (l.filter (filedB f.At)):=by
 refine Ev.delete l (λg=>decide (f.At<g.At)) hl (Ev.first l _ (by omega) (λi x a=>?_) ?_) (λe i j x y k a h m d=>?_) λe i=>?_
 .unfold F_ks F_bw;simp only[a.lt,a.ix,XG,a.nx]
  grind[Qa]
 .simp_all[F_ks,Qa]
 .have p:=(XI.1 h).1;unfold F_kw F_bw;simp only[a.lt,a.ix,XG,a.nx]
  grind[Qa,YX,Qjq,Yh]
 simp_all[F_kw,Qa]
theorem QgJ(e:Int)(c:Course)(l:List Fact)(f:Fact)(hl:l.length<=100)(h:(l.filter (filedB f.At)).length<=16)(he:Ev (λn=>F_r n c) e):Ev (λn=>F_t n c l f) (admS e c l f):=by
 unfold F_t admS;refine Ea (v:= !(validS f&&(f.Kind==9))) ?_ ?_
 .refine Ea (Qaj f) ?_;cases validS f with
  |true=>exact Ym (Qa _) λn=>rfl
  |false=>exact Qa _
 cases validS f with
 |false=>exact Qa _
 |true=>
  cases(f.Kind==9)with
  |false=>exact Qa _
  |true=>
   unfold F_bu;simp only[Qev (show l.length<=1048576 by omega)];refine Ea (Qqr l f (by omega)) ?_;unfold F_fl F_fg F_ex F_hd;cases(f.Protest.Form==1)with
   |false=>exact Qa _
   |true=>
    unfold F_fa F_ge;have g:(bif (f.Protest.By==0)then some true else some (decide (c.Fee<=f.Protest.Fee)))=some ((f.Protest.By==0)||decide (c.Fee<=f.Protest.Fee)):=by grind
    simp only[g,XG];cases(f.Protest.By==0)||decide (c.Fee<=f.Protest.Fee)with
    |false=>exact Qa _
    |true=>
     have a:Ev (λn=>F_ej n c (l.filter (filedB f.At)) f.Protest f) (!((deadS e c (l.filter (filedB f.At)) f.Protest.Case).2&&decide (f.At<=(deadS e c (l.filter (filedB f.At)) f.Protest.Case).1))):=by
      exact Ea (Ea (Qkp e c _ f.Protest.Case (by omega) he) (Ea (Ql λ_=>Qa _) (Qa _))) (Qa _)
     have d:Ev (λn=>F_ek n c (l.filter (filedB f.At)) f.Protest) (!standS e c (l.filter (filedB f.At)) f.Protest):=by
      exact Ea (Ea (Qko e c _ f.Protest h he) (Qa _)) (Qa _)
     generalize((deadS e c (l.filter (filedB f.At)) f.Protest.Case).2&&decide (f.At<=(deadS e c (l.filter (filedB f.At)) f.Protest.Case).1))=u at a⊢;generalize standS e c (l.filter (filedB f.At)) f.Protest=v at d⊢;refine Ea (v:= !(u&&v)) (Ea (v:=bif u&&v then-1 else bif u then 3 else 2) (Ea a ?_) ?_) ?_
     .cases u with
      |false=>exact Qa _
      |true=>
       refine Yf (Ea d ?_);cases v<;>exact Qa _
     .cases u<;>cases v<;>exact Qa _
     .cases u<;>cases v<;>exact Qa _
theorem QcX(e:Int)(c:Course)(l:List Fact)(f:Fact)(hl:l.length<=16)(he:Ev (λn=>F_r n c) e):Ev (λn=>F_t n c l f) (admS e c l f):=
 QgJ e c l f (by omega) (by grind) he
def openM(e:Int)(c:Course)(l:List Fact)(m:List (Int×Bool))(f:Fact):List (Int×Bool):=bif Qy m f.Protest.Case false then m else bif openB e c l f then Yk m f.Protest.Case true else m
def openF(e:Int)(c:Course)(l:List Fact):List Int:=Jh ltI ((l.foldl (openM e c l) []).map Prod.fst)
theorem QhJ(f:Fact)(n:Nat):∀(a:List Fact) (b:Bool),QcP (F_jj n f) a b=some (.cont (b||a.any λg=>(g.Kind==10)&&decide (f.At<g.At)))
 |[],b=>by simp[QcP]
 |x::r,b=>by
  unfold QcP;have:F_jj n f b x=some (.cont (b||((x.Kind==10)&&decide (f.At<x.At)))):=by
   unfold F_jj
   grind
  rw[this];show QcP _ r _=_;rw[QhJ f n r,List.any_cons,Bool.or_assoc]
theorem Qen(e:Int)(c:Course)(l:List Fact):∀(r:List Fact) (m:List (Int×Bool)),(r.foldl (openM e c l) m).length<=m.length+r.length
 |[],m=>by simp
 |x::r,m=>by
  refine XS (Qen e c l r _) ?_;have:(openM e c l m x).length<=m.length+1:=by
   unfold openM;have:=QjI m x.Protest.Case true
   grind
  grind
theorem Qqv(e:Int)(c:Course)(l:List Fact)(hl:l.length<=16)(he:Ev (λn=>F_r n c) e):Ev (λn=>F_ba n c l) (openF e c l):=by
 unfold F_ba openF F_fs;refine Ea (v:=l.foldl (openM e c l) []) ?_ ?_
 .refine QB l (openM e c l) [] (λm i=>(m,(i:Int))) (λm=>m) (by omega) rfl (λi f m ha _=>?_) ?_
  .unfold F_ld;simp only[ha.lt,ha.ix,XG,ha.nx];refine Ea (Ea (Ep λ_=>Ea (QcX e c l f hl he) (Qa _)) ?_) (Qa _);unfold openM openB;cases Qy m f.Protest.Case false with
   |true=>exact Qa _
   |false=>
    cases admS e c l f with
    |false=>exact Qa _
    |true=>
     unfold F_bb lateB;refine Ea (QgI l f.Protest.Case (by omega)) ?_;simp[QhJ,Bool.false_or]
     grind[Qa]
  simp_all[F_ld,Qa]
 simp only[XG];have a:=Qen e c l l [];simp[List.length_nil]at a;generalize l.foldl (openM e c l) []=m at a;refine Ea ⟨0,λn _=>?_⟩ (Qa _);unfold F_ew QnH;have d:(map Prod.fst m).length<=1048576:=by grind
 rw[QcE d,Vi];refine QiZ λp g=>?_;unfold sortI;rw[QcE (by rw[g.length_eq];exact d)]
 grind[QhG]
theorem Qcf(e:Int)(c:Course)(l:List Fact):(openF e c l).Pairwise (· < ·)/\ ∀k,k∈openF e c l↔ ∃f∈l,openB e c l f=true/\f.Protest.Case=k:=by
 have u:∀(r p:List Fact) (m:List (Int×Bool)),p++r=l->(m.map Prod.fst).Nodup->(∀k,YN m k≠some false)->(∀k,k∈m.map Prod.fst↔ ∃f∈p,openB e c l f=true/\f.Protest.Case=k)->
   ((r.foldl (openM e c l) m).map Prod.fst).Nodup/\ ∀k,k∈(r.foldl (openM e c l) m).map Prod.fst↔ ∃f∈l,openB e c l f=true/\f.Protest.Case=k:=by
  intro r
  induction r with
  |nil=>grind
  |cons f r w=>
   intro p m E i t B;rw[XB];have keep:(∀k,openB e c l f=true->f.Protest.Case=k->k∈m.map Prod.fst)->∀k,k∈m.map Prod.fst↔ ∃g∈p++[f],openB e c l g=true/\g.Protest.Case=k:=λH k=>by
    rw[B k];constructor
    .rintro⟨g,a,b⟩;exact⟨g,by simp[a],b⟩
    .rintro⟨g,a,b,d⟩;rcases Vx.1 a with a|a
     .exact⟨g,a,b,d⟩
     .rw[Vv.1 a]at b d;exact(B k).1 (H k b d)
   unfold openM;cases q:Qy m f.Protest.Case false with
   |true=>
    refine w (p++[f]) m (by rw[<- E];simp) i t (keep λk _ d=>?_);rw[Qc9]at q;rw[<- d];refine(QaR m _).2 ?_;cases z:YN m f.Protest.Case with
    |none=>rw[z]at q;cases q
    |some v=>exact⟨v,rfl⟩
   |false=>
    cases F:openB e c l f with
    |false=>exact w (p++[f]) m (by rw[<- E];simp) i t (keep λk b _=>by rw[F]at b;cases b)
    |true=>
     refine w (p++[f]) (Yk m f.Protest.Case true) (by rw[<- E];simp) (Qf3 _ _ i) (λk=>?_) λk=>?_
     .rw[Jy];by_cases z:k=f.Protest.Case
      .rw[Vm z];intro y;cases y
      .rw[Vl z];exact t k
     .have G:k∈(Yk m f.Protest.Case true).map Prod.fst↔k=f.Protest.Case\/k∈m.map Prod.fst:=by
       rw[QaR,QaR];constructor
       .rintro⟨v,j⟩;rw[Jy]at j;by_cases z:k=f.Protest.Case
        .exact .inl z
        .rw[Vl z]at j;exact .inr ⟨v,j⟩
       .rintro(z|⟨v,j⟩)
        .exact⟨true,by rw[Jy,Vm z]⟩
        .by_cases z:k=f.Protest.Case
         .exact⟨true,by rw[Jy,Vm z]⟩
         .exact⟨v,by rw[Jy,Vl z];exact j⟩
      rw[G,B k];constructor
      .rintro(rfl|⟨g,a,b⟩)
       .exact⟨f,by simp,F,rfl⟩
       .exact⟨g,by simp[a],b⟩
      .rintro⟨g,a,b,d⟩;rcases Vx.1 a with a|a
       .exact .inr ⟨g,a,b,d⟩
       .rw[Vv.1 a]at d;exact .inl d.symm
 obtain⟨i,t⟩:=u l [] [] (by simp) (by simp) (λk h=>by cases h) (λk=>by simp);unfold openF;generalize l.foldl (openM e c l) []=m at*;have p:=Qu ltI (m.map Prod.fst);refine⟨?_,λk=>by rw[p.mem_iff];exact t k⟩;have s:=Q2 (QdH (m.map Prod.fst));have n:=p.nodup_iff.2 i;refine List.Pairwise.imp₂ (λx y a b=>?_) s n;have a:=Vq a;omega
theorem Qld{e:Int}{c:Course}{l m:List Fact}(h:SameF l m):openF e c l=openF e c m:=by
 obtain⟨j,q⟩:=Qcf e c l;obtain⟨n,p⟩:=Qcf e c m;have one:∀{l m:List Fact},SameF l m->∀k,k∈openF e c l->k∈openF e c m:=λ{l m} h k hk=>by
  obtain⟨f,i,d,g⟩:=((Qcf e c l).2 k).1 hk;have hv:=by
   unfold openB at d;rw[XT]at d;exact(QgQ d.1).1
  exact((Qcf e c m).2 k).2 ⟨f,(h f hv).1 i,by rw[<- Qle h];exact d,g⟩
 exact Qhk (λa b h=>by omega) j n λk=>⟨one h k,one h.symm k⟩
theorem Qed{α R:Type}{step:Nat->Int->Option (Ctl Int (Ctl Unit R))}(l:List α)(q:α->Bool)(v:α->R)(hl:l.length<=4611686018427387904)
  (h:∀i x,At l i x->Ev (λn=>step n (i:Int)) (bif q x then .done (.done (v x))else .cont ((i+1:Nat):Int)))(e:Ev (λn=>step n (l.length:Int)) (.done (.cont ()))):
  Ev (λn=>Go.Sw.iter (step n) n 0) ((l.find? q).elim (.cont ()) λx=>.done (v x)):=by
 have loop:∀(r:List α) (i:Nat),l.drop i=r->i<=l.length->EvI step i ((r.find? q).elim (.cont ()) λx=>.done (v x)):=by
  intro r
  induction r with
  |nil=>
   intro i a d;have:i=l.length:=by have:=Xq.1 a;omega
   subst this;exact Eh e
  |cons x r g=>
   intro i a d;obtain⟨j,f⟩:=Qt hl a
   grind[EvI.done,EvI.cont]
 exact(loop l 0 rfl (XR _)).ev
theorem Qgi{α:Type}(q:α->Bool)(l:List α):(l.find? q).isSome=l.any q:=by
 grind
theorem Qkc(C:List Fact)(k i:Int)(hl:C.length<=1048576):Ev (λn=>F_fx n C k i) (firstI (rulB k i) C 0):=by
 refine Ev.first C (rulB k i) (by omega) (λj x a=>?_) ?_
 .unfold F_kx;simp only[a.lt,a.ix,XG,a.nx];refine Ea (v:=rulB k i x) (Ym (Qa _) λn=>?_) ?_
  .unfold rulB
   grind
  .cases rulB k i x<;>exact Qa _
 simp_all[F_kx,Qa]
theorem Qln{C:List Fact}(s:C.Pairwise ltF){i:Nat}{x:Fact}(t:C[i]?=some x)(E:x.Kind=10):(firstI (rulB x.Ruling.Case x.Ruling.Instance) C 0 != (i:Int))=C.any λg=>rulB x.Ruling.Case x.Ruling.Instance g&&decide (cmpF g x<0):=by
 have w:rulB x.Ruling.Case x.Ruling.Instance x=true:=by rw[Qfp E];simp
 have G:=(XI.1 t).1;have d:=(XI.1 t).2;rcases Qa8 (rulB x.Ruling.Case x.Ruling.Instance) C 0 with⟨r,f⟩|⟨j,y,r,f,F,B⟩
 .grind
 .have u:=(XI.1 f).1;have n:=(XI.1 f).2;have no:=λk a g h=>by
   have H:g∈C.take j:=by
    refine VB (i:=k) ?_;rw[List.getElem?_take_of_lt a];exact h
   have:=Xs.1 B g H;simpa using this
  have J:j<=i:=by
   grind
  rw[r];by_cases e:j=i
  .subst e;have m:(((0+j:Nat):Int) != (j:Int))=false:=by simp
   rw[m];refine(List.any_eq_false.2 λg h q=>?_).symm;rw[XT]at q;obtain⟨k,a,rfl⟩:=List.getElem_of_mem h;have l:ltF C[k] x:=show cmpF C[k] x<0 from Vp q.2;have p:k<j:=by
    rcases Nat.lt_trichotomy k j with z|z|z
    .exact z
    .subst z;rw[d]at l;exact absurd l (QbG _)
    .have:=Vy.1 s j k u a z;rw[d]at this;exact absurd (Qdb _ _ _ l this) (QbG _)
   have:=no k p _ (XH a);rw[q.1]at this;cases this
  .have m:(((0+j:Nat):Int) != (i:Int))=true:=by
    rw[bne_iff_ne];omega
   rw[m];have:=Vy.1 s j i u G (by omega);rw[d,n]at this;exact(Xt.2 ⟨y,VB f,by rw[F,Vu];exact Vn (show cmpF y x<0 from this)⟩).symm
theorem Ji{α β:Type}(q:α->Bool)(f:α->β):∀(l:List α) (a:List β),l.foldl (λa x=>bif q x then a++[f x]else a) a=a++(l.filter q).map f
 |[],a=>by simp
 |x::l,a=>by
  rw[XB,Ji q f l,Xd]
  grind
theorem Qlq(l:List Fact)(hl:l.length<=100):Ev (λn=>F_gh n l) (voidR l):=by
 have f:=YI l;obtain⟨c1,j⟩:=YT l;refine Ea (Qaq l (by omega)) (Ea ?_ (Qa _));have e:voidR l=(canonS l).foldl (λa x=>bif voidB (canonS l) x then a++[refOf x]else a) []:=by
  rw[Ji];rfl
 rw[e];generalize canonS l=C at*;refine QB C (λa x=>bif voidB C x then a++[refOf x]else a) [] (λa i=>(a,(i:Int))) (λa=>a) (by omega) rfl (λi x a d h=>?_) ?_
 .have g:a.length<=100:=by
   rw[h,Ji,Vb,XX]
   grind
  unfold F_lf;simp only[d.lt,d.ix,XG,d.nx];refine Ea (v:=voidB C x) ?_ ?_
  .unfold voidB;cases q:(x.Kind==10)with
   |false=>exact Qa _
   |true=>
    refine Ea (Qkc C _ _ (by omega)) ?_;rw[Qln c1.1 d.get (by simpa using q)];exact Qa _
  .cases voidB C x with
   |false=>exact Qa _
   |true=>
    rw[Y4 a _ (by omega)];exact Qa _
 simp_all[F_lf,Qa]
def standsR(l:List Fact)(k:Int):List Fact:=(canonS l).filter (standB (voidR l) k)
theorem QaD(l:List Fact)(k:Int)(hl:l.length<=100):Ev (λn=>F_ap n l k) (standsR l k):=by
 have f:=YI l;have m:(voidR l).length<=100:=by
  grind[voidR,voidS]
 unfold F_ap standsR;refine Ea (Qlq l hl) (Ea (Qaq l (by omega)) ?_);generalize voidR l=vs at*;generalize canonS l=C at*;refine Ea (Qdp C _ (by omega) (λi x a d g=>?_) λa=>?_) (Qa _)
 .have h:=d.lt';unfold F_lz;simp only[d.lt,d.ix,XG,d.nx];refine Ea (Ql λ_=>Qa _) (Ea (v:=standB vs k x) ?_ ?_)
  .have p:∀(r:List Ref) (b:Bool),r.foldl (λb v=>b&&(v != refOf x)) b=(b&& !(r.any λv=>decide (v=refOf x))):=by
    intro r
    induction r with
    |nil=>simp
    |cons v r q=>
     grind
   have e:standB vs k x=vs.foldl (λb v=>b&&(v != refOf x)) ((x.Kind==10)&&(x.Ruling.Case==k)):=by
    rw[p];unfold standB;grind
   rw[e];generalize((x.Kind==10)&&(x.Ruling.Case==k))=b0;refine QB vs (λb v=>b&&(v != refOf x)) b0 (λb i=>(b,(i:Int))) (λb=>b) (by omega) rfl (λj v b hb _=>?_) ?_
   .unfold F_lc;simp only[hb.lt,hb.ix,hb.nx];cases b<;>exact Qa _
   simp_all[F_lc,Qa]
  grind[Qa,Y4]
 simp_all[F_lz,Qa]
def repR(l:List Fact)(k:Int):Fact×Bool:=(firstRep (canonS l) k).elim (Uk,false) λf=>(f,true)
theorem QbO(l:List Fact)(k:Int)(hl:l.length<=100):Ev (λn=>F_aw n l k) (repR l k):=by
 have d:=YI l;unfold F_aw repR firstRep;refine Ea (Qaq l (by omega)) ?_;generalize canonS l=C at*;refine Ea (Qed C (repB k) (λf=>(f,true)) (by omega) (λi x a=>?_) ?_) ?_
 .unfold F_lp;simp only[a.lt,a.ix,XG,a.nx];refine Ea (v:=repB k x) (Ym (Qa _) λn=>?_) ?_
  .unfold repB
   grind
  .cases repB k x<;>exact Qa _
 .simp_all[F_lp,Qa]
 .cases C.find? (repB k)<;>exact Qa _
def aboutR(l:List Fact)(k:Int):List Fact:=(firstRep (canonS l) k).toList++standsR l k
theorem QbU{l:List Fact}{k:Int}(f:Fact):f∈aboutR l k↔f∈about l k:=by
 grind[aboutR,standsR,QeA,YT]
theorem QdT(l:List Fact)(k:Int)(hl:l.length<=100):Ev (λn=>F_cg n l k) (!(about l k).isEmpty):=by
 have e:(about l k).isEmpty=(aboutR l k).isEmpty:=Qde λf=>(QbU f).symm;rw[e];refine Ea (QbO l k hl) (Ea ?_ (Qa _));unfold repR aboutR;cases firstRep (canonS l) k with
 |some f=>exact Qa _
 |none=>
  refine Yf (Ea (QaD l k hl) ?_);cases standsR l k with
  |nil=>exact Qa _
  |cons a r=>simp_all[Qa]
def concR(l:List Fact)(k:Int):List Int:=(firstRep (canonS l) k).toList.map (·.Report.Bib)++((standsR l k).filter λf=>f.Ruling.Bib != 0).map (·.Ruling.Bib)
theorem Qfl(l:List Fact)(k:Int)(hl:l.length<=100):Ev (λn=>F_gr n l k) (concR l k):=by
 refine Ea (QbO l k hl) (Ea (v:=(firstRep (canonS l) k).toList.map (·.Report.Bib)) ?_ ?_)
 .unfold repR;cases firstRep (canonS l) k with
  |none=>exact Qa _
  |some f=>
   refine Ym (Qa _) λn=>?_;rfl
 refine Ea (QaD l k hl) (Ea ?_ (Qa _));have e:(standsR l k).length<=100:=by
  exact XS (VH ..) (by have:=YI l;omega)
 have d:((firstRep (canonS l) k).toList.map λf=>f.Report.Bib).length<=1:=by
  simp
 unfold concR;generalize(firstRep (canonS l) k).toList.map (λf=>f.Report.Bib)=a0 at d;rw[<- Ji (λf=>f.Ruling.Bib != 0) (λf:Fact=>f.Ruling.Bib)];generalize standsR l k=C at e;refine QB C (λa x=>bif x.Ruling.Bib != 0 then a++[x.Ruling.Bib]else a) a0 (λa i=>(a,(i:Int))) (λa=>a) (by omega) rfl (λi x a g j=>?_) ?_
 .have h:a.length<=101:=by
   rw[j,Ji (λf:Fact=>f.Ruling.Bib != 0) (λf=>f.Ruling.Bib),XY,XX]
   grind
  unfold F_lh;simp only[g.lt,g.ix,XG,g.nx]
  grind[Qa,Y4]
 simp_all[F_lh,Qa]
theorem Qki(L:List Int)(b:Int)(hl:L.length<=1048576):Ev (λn=>F_bd n L b) (L.any λx=>x==b):=by
 refine Ea (Qed L (λx=>x==b) (λ_=>true) (by omega) (λi x a=>?_) ?_) ?_
 .unfold F_lv;simp only[a.lt,a.ix,XG,a.nx];cases(x==b)<;>exact Qa _
 .simp_all[F_lv,Qa]
 .rw[<- Qgi];cases L.find? (λx=>x==b)<;>exact Qa _
theorem Qpi(l:List Fact)(k b:Int):((concR l k).any λx=>x==b)=whoB (about l k) b:=by
 rw[<- Qje (λf=>QbU f) b];unfold concR whoB aboutR;rw[XU,XT,Xt,Xt];have d:∀f,f∈(firstRep (canonS l) k).toList->bibOf f=f.Report.Bib/\1<=f.Report.Bib:=λf a=>by
  obtain⟨i,g,m⟩:=Qap (Option.mem_toList.1 a);unfold repB at m;rw[XT,Vs]at m;obtain⟨_,r,j⟩:=Qhi g m.1;unfold bibOf;rw[j,show Uk.Ruling.Bib=0 from rfl];omega
 have h:∀f,f∈standsR l k->bibOf f=f.Ruling.Bib:=λf a=>by
  unfold standsR at a;rw[Xe]at a;obtain⟨i,g⟩:=a;unfold standB at g;rw[XT,Vs]at g;obtain⟨_,_,j⟩:=Qcu (((YT l).2 f).1 i).2 g.1;unfold bibOf;rw[j,show Uk.Report.Bib=0 from rfl];omega
 constructor
 .rintro⟨x,p,e⟩;rw[Vs]at e;subst e;rcases Vx.1 p with q|q
  .obtain⟨f,a,rfl⟩:=Xf.1 q;obtain⟨i,g⟩:=d f a;refine⟨?_,f,by simp[a],by rw[i];simp⟩;have:¬f.Report.Bib=0:=by omega
   simp[this]
  .obtain⟨f,a,rfl⟩:=Xf.1 q;rw[Xe]at a;have g:=by simpa using a.2
   refine⟨by simp[g],f,by simp[a.1],by rw[h f a.1];simp⟩
 .rintro⟨n,f,a,e⟩;rw[Vs]at e;have h0':=by simpa using n
  refine⟨b,?_,by simp⟩;rcases Vx.1 a with q|q
  .refine Vx.2 (.inl (Xf.2 ⟨f,q,?_⟩));rw[<- (d f q).1];exact e
  .rw[h f q]at e;refine Vx.2 (.inr (Xf.2 ⟨f,Xe.2 ⟨q,?_⟩,e⟩));rw[e];simp[h0']
theorem Qpj(l:List Fact)(k:Int)(hl:l.length<=100):(concR l k).length<=101:=by
 grind[concR,standsR,YI]
theorem Qnb{α:Type}{f:α->Int}{l:List α}(h:(l.map f).Nodup){x y:α}(g:x∈l)(d:y∈l)(e:f x=f y):x=y:=by
 induction l with
 |nil=>cases g
 |cons a r i=>
  have hn:=by rw[Vd,List.nodup_cons]at h;exact h
  rcases X0.1 g with q|q
  .rcases X0.1 d with z|z
   .rw[q,z]
   .exact absurd (Xf.2 ⟨y,z,by rw[<- e,q]⟩) hn.1
  .rcases X0.1 d with z|z
   .exact absurd (Xf.2 ⟨x,q,by rw[e,z]⟩) hn.1
   .exact i hn.2 q z
theorem QrH{x:List Starter}{b:Int}{s:Starter}(d:(x.map (·.Bib)).Nodup)(a:s∈x)(e:s.Bib=b)(g:Starter->Bool):(x.any λt=>(t.Bib==b)&&g t)=g s:=by
 rw[XU,Xt];constructor
 .rintro⟨t,f,q⟩;rw[XT,Vs]at q
  grind[Qnb]
 grind
theorem QgA(e:Int)(c:Course)(l:List Fact)(p:Protest)(hl:l.length<=16)(he:Ev (λn=>F_q n c) e):Ev (λn=>F_da n c l p) (standS e c l p):=by
 unfold F_da standS;refine Ea (QdT l p.Case (by omega)) ?_;have m:=Qpj l p.Case (by omega);have hw:=λb=>(Qki _ b (by omega)).eq (Qpi l p.Case b);cases(about l p.Case).isEmpty with
 |true=>exact Qa _
 |false=>
  refine Ea (Qfl l p.Case (by omega)) (Ea (Ep λ_=>Ea (hw p.By) (Qa _)) ?_);cases(p.By==0)||whoB (about l p.Case) p.By with
  |true=>exact Qa _
  |false=>
   refine Ea (Qgz e c l hl he) ?_;have f:=QfI e c l;refine Ea (Qe2 _ p.By (by omega)) ?_;have a:= @Qjj e c l;generalize startF e c l=st at f a;cases q:(st.2==0)with
   |false=>
    rw[show(st.2 != 0)=true by rw[bne,q];rfl];exact Qa _
   |true=>
    obtain⟨r,_,_⟩:=a q;rw[show(st.2 != 0)=false by rw[bne,q];rfl];simp[Vj,XG];rcases QhL st.1 p.By with⟨d,h⟩|⟨j,s,d,h,k⟩
    .rw[d];have e:(st.1.any λs=>(s.Bib==p.By)&&st.1.any λt=>whoB (about l p.Case) t.Bib&&(t.Distance==s.Distance))=false:=by
      refine List.any_eq_false.2 λs f z=>?_;rw[XT]at z;exact List.find?_eq_none.1 h s f z.1
     rw[e];exact Qa _
    .rw[d,YU (show¬((j:Int)<0)by omega)];have hb:=by
      have:=List.find?_some h;unfold ofBib at this;simpa using this
     rw[QrH r (VB k) hb λs=>st.1.any λt=>whoB (about l p.Case) t.Bib&&(t.Distance==s.Distance)];refine Ea (Qed st.1 (λt=>whoB (about l p.Case) t.Bib&&(t.Distance==s.Distance)) (λ_=>true) (by omega) (λi x g=>?_) ?_) ?_
     .unfold F_ly;simp only[g.lt,g.ix,XG,g.nx,YX k];refine Ea (Ea (hw x.Bib) (Ql λ_=>Qa _)) ?_;cases whoB (about l p.Case) x.Bib&&(x.Distance==s.Distance)<;>exact Qa _
     .unfold F_ly;simp[Qcm];exact Qa _
     .rw[<- Qgi];cases st.1.find? (λt=>whoB (about l p.Case) t.Bib&&(t.Distance==s.Distance))<;>exact Qa _
theorem QgD(e:Int)(c:Course)(l:List Fact)(k:Int)(hl:l.length<=100)(he:Ev (λn=>F_q n c) e):Ev (λn=>F_dq n c l k) (deadS e c l k):=by
 unfold F_dq deadS;refine Ea (v:= !((e==0)&& !(about l k).isEmpty)) ?_ ?_
 .refine Ea he ?_;cases h:(e==0)with
  |false=>
   rw[show(e != 0)=true by grind];exact Qa _
  |true=>
   rw[show(e != 0)=false by grind];exact Yf (Ea (QdT l k hl) (Qa _))
 cases(e==0)&& !(about l k).isEmpty with
 |false=>exact Qa _
 |true=>
  refine Ea (QbO l k hl) ?_;rw[<- QjK (λf=>QbU f)];have d:(standsR l k).length<=100:=by
   exact XS (VH ..) (by have:=YI l;omega)
  refine Ea (v:=maxAt (firstRep (canonS l) k).toList) ?_ ?_
  .unfold repR;cases h:firstRep (canonS l) k with
   |none=>exact Qa _
   |some f=>
    have:=(Qn7 (Qap h).2.1).1;refine Er (Qa _) ?_;show f.At=max 0 f.At;omega
  refine Ea (QaD l k hl) (Ea ?_ (Qa _));unfold aboutR maxAt;rw[List.foldl_append];generalize(firstRep (canonS l) k).toList.foldl (λa f=>max a f.At) 0=a0;generalize standsR l k=C at d;refine QB C (λa f=>max a f.At) a0 (λa i=>(a,(i:Int))) (λa=>a) (by omega) rfl (λi x a ha _=>?_) ?_
  .unfold F_lk;simp only[ha.lt,ha.ix,XG,ha.nx]
   grind[Qa]
  simp_all[F_lk,Qa]
theorem Qbw(e:Int)(c:Course)(l:List Fact)(f:Fact)(hl:l.length<=16)(he:Ev (λn=>F_q n c) e):Ev (λn=>F_bl n c l f) (admS e c l f):=by
 unfold F_bl admS;have k:(l.filter (filedB f.At)).length<=16:=XS (VH ..) hl;refine Ea (v:= !(validS f&&(f.Kind==9))) (Ym (Qa _) λn=>?_) ?_
 .rw[QfV];cases validS f<;>rfl
 cases validS f with
 |false=>exact Qa _
 |true=>
  cases(f.Kind==9)with
  |false=>exact Qa _
  |true=>
   refine Ea (v:=l.filter (filedB f.At)) (Qdp l _ (by omega) (λi x a g j=>?_) λa=>?_) ?_
   .have m:=g.lt';have p:decide (x.At<=f.At)=filedB f.At x:=by
     unfold filedB;by_cases h:f.At<x.At
     .rw[Vn h,Vr (by omega)];rfl
     .rw[Vr h,Vn (by omega)];rfl
    unfold F_kv;simp only[g.lt,g.ix,XG,g.nx,p];cases filedB f.At x with
    |false=>exact Qa _
    |true=>
     rw[Y4 a _ (by omega)];exact Qa _
   .unfold F_kv;simp[Qcm];exact Qa _
   refine Ea (QgD e c _ f.Protest.Case (by omega) he) (Ea (Ea (QgA e c _ f.Protest k he) ?_) (Qa _));generalize deadS e c (l.filter (filedB f.At)) f.Protest.Case=d;generalize standS e c (l.filter (filedB f.At)) f.Protest=s;generalize decide (f.At<=d.1)=t;generalize d.2=u;generalize decide (c.Fee<=f.Protest.Fee)=w;cases s<;>cases t<;>cases u<;>cases(f.Protest.Form==1)<;>cases(f.Protest.By==0)<;>cases w<;>exact Qa _
theorem Qkg(e:Int)(c:Course)(l:List Fact)(f:Fact)(hl:l.length<=16)(he:Ev (λn=>F_q n c) e):Ev (λn=>F_cr n c l f) (openB e c l f):=by
 unfold F_cr openB;refine Ea (QaD l f.Protest.Case (by omega)) ?_;have m:(standsR l f.Protest.Case).length<=100:=by
  exact XS (VH ..) (by have:=YI l;omega)
 have k:lateB l f=(standsR l f.Protest.Case).any λg=>decide (f.At<g.At):=by
  unfold lateB;rw[<- Qpq (λg=>QbU g)];unfold aboutR;rw[List.any_append];have h:((firstRep (canonS l) f.Protest.Case).toList.any λg=>(g.Kind==10)&&decide (f.At<g.At))=false:=by
   refine List.any_eq_false.2 λg j z=>?_;obtain⟨_,_,p⟩:=Qap (Option.mem_toList.1 j)
   simp_all[repB]
  rw[h,Bool.false_or];rw[XU,Xt,Xt];constructor
  .grind
  .rintro⟨g,a,b⟩;refine⟨g,a,?_⟩;have:=(Xe.1 a).2;unfold standB at this;rw[XT]at this;rw[this.1,Vu];exact b
 rw[k, <- Qgi];refine Ea (Qed (standsR l f.Protest.Case) (λg=>decide (f.At<g.At)) (λ_=>false) (by omega) (λi x d=>?_) ?_) ?_
 .unfold F_kr;simp only[d.lt,d.ix,XG,d.nx];cases decide (f.At<x.At)<;>exact Qa _
 .unfold F_kr;simp[Qcm];exact Qa _
 .cases(standsR l f.Protest.Case).find? (λg=>decide (f.At<g.At))with
  |none=>
   refine Ea (Qbw e c l f hl he) ?_;simp[Option.isSome_none,Xi,Bool.and_true];exact Qa _
  |some g=>
   simp[Option.isSome_some,Xh,Bool.and_false];exact Qa _
def openI(e:Int)(c:Course)(l:List Fact)(out:List Int)(f:Fact):List Int:=bif (f.Kind != 9)||(!openB e c l f||out.any λx=>x==f.Protest.Case)then out else insB f.Protest.Case out
theorem QhA(e:Int)(c:Course)(l:List Fact):∀(r:List Fact) (a:List Int),(r.foldl (openI e c l) a).length<=a.length+r.length
 |[],a=>by simp
 |x::r,a=>by
  refine XS (QhA e c l r _) ?_;have:(openI e c l a x).length<=a.length+1:=by
   unfold openI;cases(x.Kind != 9)||(!openB e c l x||a.any λy=>y==x.Protest.Case)with
   |true=>rw[Vi];omega
   |false=>rw[Vj,QjR];omega
  rw[XW];omega
theorem QfY(e:Int)(c:Course)(l:List Fact):∀(r:List Fact) (a:List Int),a.Pairwise (· < ·)->(r.foldl (openI e c l) a).Pairwise (· < ·)/\ ∀k,k∈r.foldl (openI e c l) a↔k∈a\/ ∃f∈r,openB e c l f=true/\f.Protest.Case=k
 |[],a,h=>⟨h,λk=>by simp⟩
 |x::r,a,h=>by
  rw[XB];have hk:openB e c l x=true->(x.Kind != 9)=false:=λq=>by
   unfold openB at q;rw[XT]at q;rw[(QgQ q.1).2];rfl
  have stay:openI e c l a x=a->(openB e c l x=true->x.Protest.Case∈a)->((r.foldl (openI e c l) (openI e c l a x)).Pairwise (· < ·)/\ ∀k,k∈r.foldl (openI e c l) (openI e c l a x)↔k∈a\/ ∃f∈x::r,openB e c l f=true/\f.Protest.Case=k):=λe1 e2=>by
   rw[e1];obtain⟨i1,i2⟩:=QfY e c l r a h;refine⟨i1,λk=>?_⟩;rw[i2 k];constructor
   .rintro(q|⟨f,q1,q2⟩)
    .exact .inl q
    .exact .inr ⟨f,by simp[q1],q2⟩
   .rintro(q|⟨f,q1,q2,q3⟩)
    .exact .inl q
    .rcases X0.1 q1 with rfl|q1
     .exact .inl (by rw[<- q3];exact e2 q2)
     .exact .inr ⟨f,q1,q2,q3⟩
  cases hb:openB e c l x with
  |false=>
   refine stay ?_ λq=>by rw[hb]at q;cases q
   unfold openI;rw[hb,Xi,Bool.true_or,Bool.or_true];rfl
  |true=>
   cases ha:a.any λy=>y==x.Protest.Case with
   |true=>
    refine stay ?_ λ_=>?_
    .unfold openI;rw[ha,Bool.or_true,Bool.or_true];rfl
    .obtain⟨y,hy,z⟩:=Xt.1 ha;rw[<- Vs.1 z];exact hy
   |false=>
    have hn:x.Protest.Case∉a:=λz=>by
     have:=List.any_eq_false.1 ha _ z;simp at this
    have e1:openI e c l a x=insB x.Protest.Case a:=by
     unfold openI;rw[hb,ha,hk hb];rfl
    rw[e1];obtain⟨i1,i2⟩:=QfY e c l r _ (QeY _ a hn h);refine⟨i1,λk=>?_⟩;rw[i2 k,Qgb];constructor
    .rintro((rfl|q)|⟨f,q1,q2⟩)
     .exact .inr ⟨x,by simp,hb,rfl⟩
     .exact .inl q
     .exact .inr ⟨f,by simp[q1],q2⟩
    .rintro(q|⟨f,q1,q2,q3⟩)
     .exact .inl (.inr q)
     .rcases X0.1 q1 with rfl|q1
      .exact .inl (.inl q3.symm)
      .exact .inr ⟨f,q1,q2,q3⟩
theorem Qqp(C:List Fact)(a:List Int)(m:a.length<=1048576){i:Nat}{x:Fact}(g:idx C (i:Int)=some x):Ev (λn=>Go.Sw.iter (F_co n C (a,(i:Int))) n 0) ((posB x.Protest.Case a:Nat):Int):=by
 have loop:∀(r:List Int) (j:Nat),a.drop j=r->j<=a.length->EvI (λn=>F_co n C (a,i)) j (j+posB x.Protest.Case r:Nat):=by
  intro r
  induction r with
  |nil=>
   intro j e h;refine Eh ?_;unfold F_co;simp only[QO e h,Vj];exact Qa _
  |cons y r k=>
   intro j e h;obtain⟨d,f⟩:=Qt (by omega) e;have l:=d.lt';unfold posB;cases q:decide (y<x.Protest.Case)with
   |true=>
    refine Et ?_ ((k (j+1) f (by omega)).eq (by simp;omega));unfold F_co;simp only[d.lt,d.ix,XG,d.nx,g,q];exact Qa _
   |false=>
    refine Eh ?_;unfold F_co;simp[d.lt,d.ix,XG,g,q,Vj];exact Qa _
 have:=loop a 0 rfl (XR _);rw[Xu]at this;exact this.ev
theorem Qlt(e:Int)(c:Course)(l:List Fact)(hl:l.length<=16)(he:Ev (λn=>F_q n c) e):Ev (λn=>F_gd n c l) (openF e c l):=by
 have j:=YI l;have r:openF e c l=(canonS l).foldl (openI e c (canonS l)) []:=by
  rw[<- Qld (QkF l)];obtain⟨p,z⟩:=Qcf e c (canonS l);obtain⟨t,u⟩:=QfY e c (canonS l) (canonS l) [] List.Pairwise.nil;refine Qhk (λa b h=>by omega) p t λk=>?_;rw[z,u];simp
 rw[r];refine Ea (Qaq l (by omega)) ?_;generalize canonS l=C at*;refine Ea (QB C (openI e c C) [] (λa i=>(a,(i:Int))) (λa=>a) (by omega) rfl (λi x a d w=>?_) ?_) (Qa _)
 .have m:a.length<=16:=by
   rw[w];refine XS (QhA e c C _ _) ?_;rw[List.length_nil,Xw];omega
  unfold F_lw;simp only[d.lt,d.ix,XG,d.nx];refine Ea ?_ (Qa _);unfold openI;refine Ea (Ep λ_=>Ea (Qkg e c C x (by omega) he) (Ep λ_=>Ea (Qki a _ (by omega)) (Qa _))) ?_;cases(x.Kind != 9)||(!openB e c C x||a.any λy=>y==x.Protest.Case)with
  |true=>exact Qa _
  |false=>
   refine Ea (Qqp C a (by omega) d.ix) ?_;have f:=Qmi x.Protest.Case a;simp[QfJ a f];have g:app [] (a.take (posB x.Protest.Case a))=some (a.take (posB x.Protest.Case a)):=by
    rw[Qfw _ _ (by rw[List.length_nil,Xw];omega)];rfl
   have q:app (a.take (posB x.Protest.Case a)) [x.Protest.Case]=some (a.take (posB x.Protest.Case a)++[x.Protest.Case]):=Y4 _ _ (by rw[Xw];omega);have s:app (a.take (posB x.Protest.Case a)++[x.Protest.Case]) (a.drop (posB x.Protest.Case a))=some (insB x.Protest.Case a):=by
    rw[Qfw _ _ (by rw[XY,Xw,List.length_drop,List.length_singleton];omega), <- QjS];simp
   simp[g,q,XG,Qb8 a f,s];exact Qa _
 .unfold F_lw;simp[Qcm];exact Qa _
theorem Qls(l m:List Int)(hl:l.length<=1048576):Ev (λn=>F_by n l m) (decide (l=m)):=QqH l m (λn=>F_md n l m) (by omega) λn s=>rfl
set_option maxRecDepth 100000
theorem Qq0:F_eq 300=some true:=by kernel_rfl
theorem QrD{α:Type}[BEq α][LawfulBEq α](a:α):(a != a)=false:=by simp
end Go.Sw
