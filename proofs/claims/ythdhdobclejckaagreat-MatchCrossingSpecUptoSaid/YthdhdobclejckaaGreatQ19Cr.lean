/- The plain laws that a law needs, with no program in sight. -/
import Derived.Test.YthdhdobclejckaaGreatW19Cr
set_option linter.unusedVariables false
set_option linter.unusedSimpArgs false
namespace Go.Sw
open List(map)
open Int(toNat)
open Go.IntKind(i64 u64 u8)
def inR(lo hi x:Int):Bool:=decide (lo<=x)&&decide (x<=hi)
theorem QfB(lo hi:Int)(l:List Int)(a:l.length<=4611686018427387904):Ev (λn=>F_a n lo hi l) (l.all (inR lo hi)):=by
 have h:Ev (λn=>F_fy n l lo hi) (l.any λx=> !inR lo hi x):=by
  refine Ev.contains l _ (λn x=>F_go n x lo hi) a λx _=>?_;refine Ea ((Qh λh=>Qa _).eq ?_) (Qa _);unfold inR
  grind
 refine Ea h ((Qa _).eq ?_)
 grind
def okN(c:Nat):Bool:=(decide (97<=c)&&decide (c<=122))||(decide (48<=c)&&decide (c<=57))||decide (c=95)
def okAN(c:Nat):Bool:=decide (97<=c)&&decide (c<=122)
def okC(c:UInt8):Bool:=okN c.toNat
def okA(c:UInt8):Bool:=okAN c.toNat
def kwL:List (List UInt8):=[[99,111,117,114,115,101],[109,97,116,115],[115,116,97,114,116],[112,97,115,115],[101,110,100],[108,101,103],[116,111],[100,105,115,116,97,110,99,101],[103,117,110],[99,104,105,112],[115,108,111,116],[108,97,112,115],[108,97,112],[99,117,116,111,102,102],[101,120,116,114,97],[119,97,118,101],[111,102,102,101,110,99,101],[111,117,116],[99,97,116,101,103,111,114,121],[112,114,105,122,101],[97,108,108],[116,105,101,115],[105,102],[101,108,115,101],[97,110,100],[111,114],[110,111,116],[111,108,100,101,114],[121,111,117,110,103,101,114],[98,105,98],[100,114,97,119],[102,105,101,108,100],[115,104,111,114,116],[102,97,117,108,116,115],[109,105,115,115,101,115],[115,116,114,97,121,115],[119,105,110,100,111,119],[114,101,115,105,100,117,97,108],[100,114,105,102,116],[112,114,111,116,101,115,116],[102,101,101],[100,101,97,100,108,105,110,101]]
theorem Qlx(c d:Bool):(bif c then some c else some d)=some (c||d):=by grind
theorem QiW(c d:Bool):(bif c then some true else some d)=some (c||d):=by grind
theorem Qfb(n:Nat)(s:List UInt8):F_dz n s=some (kwL.contains s):=by
 unfold F_dz;simp only[Qlx,QiW,XJ];simp only[kwL,List.contains_cons,List.contains_nil,Bool.or_assoc]
def kwsOf:List UInt8->List (List UInt8)
 |[]=>[]
 |b::l=>(bif b==32&& !(l.dropWhile λc=>c != 32).isEmpty then[l.takeWhile λc=>c != 32]else[])++kwsOf l
theorem Qdv:∀(l s:List UInt8),(∀c∈s,c≠32)->(s++[32]).isPrefixOf l=((l.takeWhile λc=>c != 32)==s&& !(l.dropWhile λc=>c != 32).isEmpty)
 |[],s,h=>by simp
 |b::l,[],h=>by
  by_cases e:b=32
  .subst e;simp
  .have e1:=by simpa using e
   have a:(32==b)=false:=by grind
   simp[List.isPrefixOf,e1,a]
 |b::l,c::s,h=>by
  have d:=h c (by simp);have f:=Qdv l s (by grind)
  grind[List.takeWhile_cons,List.dropWhile_cons]
theorem contains_cons(b:UInt8)(l t:List UInt8)(a:t≠[]):Lib.contains (b::l) t=(t.isPrefixOf (b::l)||Lib.contains l t):=by
 unfold Lib.contains;rw[show Lib.index (b::l) t=if t.isPrefixOf (b::l)then 0 else if Lib.index l t== -1 then-1 else Lib.index l t+1 from rfl]
 grind
theorem QbR(s:List UInt8)(h:∀c∈s,c≠32):∀l,Lib.contains l (32::(s++[32]))=(kwsOf l).contains s
 |[]=>by rfl
 |b::l=>by
  rw[contains_cons b l _ (by simp),QbR s h l];simp only[kwsOf,List.isPrefixOf,Qdv l s h]
  grind
def wordsL:List UInt8:=[32,99,111,117,114,115,101,32,109,97,116,115,32,115,116,97,114,116,32,112,97,115,115,32,101,110,100,32,108,101,103,32,116,111,32,100,105,115,116,97,110,99,101,32,103,117,110,32,99,104,105,112,32,115,108,111,116,32,108,97,112,115,32,108,97,112,32,99,117,116,111,102,102,32,101,120,116,114,97,32,119,97,118,101,32,111,102,102,101,110,99,101,32,111,117,116,32,99,97,116,101,103,111,114,121,32,112,114,105,122,101,32,97,108,108,32,116,105,101,115,32,105,102,32,101,108,115,101,32,97,110,100,32,111,114,32,110,111,116,32,111,108,100,101,114,32,121,111,117,110,103,101,114,32,98,105,98,32,100,114,97,119,32,102,105,101,108,100,32,115,104,111,114,116,32,102,97,117,108,116,115,32,109,105,115,115,101,115,32,115,116,114,97,121,115,32,119,105,110,100,111,119,32,114,101,115,105,100,117,97,108,32,100,114,105,102,116,32,112,114,111,116,101,115,116,32,102,101,101,32,100,101,97,100,108,105,110,101,32]
theorem Qnv:kwsOf wordsL=kwL:=by decide+kernel
def classTab:List Int:=(List.range 256).map λi=>if 97<=i/\i<=122\/65<=i/\i<=90 then 2 else if 48<=i/\i<=57 then 3 else if i∈[123,125,40,41,91,93,59,44,61,60,62]then 4 else if i∈[32,9,10,13]then 1 else 0
theorem Qh2:Ev F_es classTab:=by
 unfold F_es;refine Ea (Qca (step:=F_gp 0) 40 (b:=(iter (F_gp 0) 40 (List.replicate 256 0,97)).getD []) (by decide+kernel)) ?_;refine Ea (Qca (step:=F_js 0) 40 (b:=(iter (F_js 0) 40 ((iter (F_gp 0) 40 (List.replicate 256 0,97)).getD [],48)).getD []) (by decide+kernel)) ?_;generalize hb:(iter (F_js 0) 40 ((iter (F_gp 0) 40 (List.replicate 256 0,97)).getD [],48)).getD []=b2;refine Ea (Qca (step:=F_le 0) 40 (b:=(iter (F_le 0) 40 (b2,0)).getD []) (by subst hb;decide+kernel)) ?_;refine Ea (Qca (step:=F_lf 0) 40 (b:=classTab) (by subst hb;decide+kernel)) ?_;exact EA (by decide+kernel)
theorem QjL:((List.range 256).all λi=> !okN i||decide (classTab[i]?=some (if okAN i then 2 else if i=95 then 0 else 3)))=true:=by decide+kernel
theorem Qlw{c:UInt8}(h:okC c=true):Qev 256 classTab (c.toNat:Int)=some (if okA c then 2 else if c.toNat=95 then 0 else 3):=by
 have a:=Xs.1 QjL c.toNat (List.mem_range.2 c.toNat_lt);unfold okC at h;rw[h]at a;simp[Xg,Bool.false_or,Vq]at a;unfold Qev;rw[show Nat.beq classTab.length 256=true by decide+kernel,Vo,Qo a];rfl
def goodS(s:List UInt8):Bool:=decide (1<=s.length)&&decide (s.length<=24)&&(s.head?).any okA&&s.all okC
def isNameS(s:List UInt8):Bool:=goodS s&& !kwL.contains s
theorem Qjz(s:List UInt8)(h:goodS s=true):Ev (λn=>F_dq n s) true:=by
 unfold goodS at h;simp only[XW,Vq,Xs]at h;obtain⟨⟨⟨d,k⟩,j⟩,f⟩:=h;unfold F_dq;refine Ea Qh2 ?_;refine Qt (v:=List.replicate 256 0) (by decide+kernel) ?_;refine Qt (v:=classTab) (by decide+kernel) ?_;refine Ea (v:=Ctl.cont ()) (Ev.iter (λi=>(i:Int)) s.length rfl (λi e=>?_) ?_) ?_
 .have a:=Y9 (x:=s[i]) (by omega) (XK e);have g:=f _ a.mem;unfold F_kw;simp only[a.lt,Vo,a.ix,XJ,Qlw g,a.nx];cases i with
  |zero=>
   have:okA s[0]=true:=by
    cases s with
    |nil=>simp at d
    |cons c r=>grind
   simp[this];exact Qa _
  |succ i=>
   grind[Qa]
 .simp_all[F_kw,Qa]
 .refine EA ?_;cases s with
  |nil=>simp at d
  |cons c r=>rfl
theorem Qjp{s:List UInt8}(h:goodS s=true):∀c∈s,c≠32:=by
 unfold goodS at h;simp[XW,Xs]at h;rintro c a rfl;exact absurd (h.2 _ a) (by decide)
theorem QkN{s:List UInt8}(h:goodS s=true):s.length<=24:=by
 simp_all[goodS]
theorem Qh3(s:List UInt8)(h:goodS s=true):Ev (λn=>F_gb n s) (kwL.contains s):=by
 refine Ea (Ea (Qjz s h) (Qaq ?_)) (Qa _);have a:=QkN h;refine Qt (by unfold cat;rw[XS (by simp;omega)];rfl) (Qt (by unfold cat;rw[XS (by simp;omega)];rfl) ?_);refine Qt ?_ (Qa _);show Qew wordsL ([32]++s++[32])=some (kwL.contains s);unfold Qew;rw[show Nat.blt wordsL.length 4294967281=true by decide+kernel,Vo]
 grind[QbR,Qjp,Qnv]
theorem ch_lt(c:UInt8)(k:Nat):decide ((c.toNat:Int)<(k:Int))=decide (c.toNat<k):=by
 simp
theorem badC(c:UInt8):(bif decide ((c.toNat:Int)<97)then(bif decide ((c.toNat:Int)<48)then some ((c.toNat:Int) != 95)else(bif decide (57<(c.toNat:Int))then some ((c.toNat:Int) != 95)else some false))else(bif decide (122<(c.toNat:Int))then(bif decide ((c.toNat:Int)<48)then some ((c.toNat:Int) != 95)else(bif decide (57<(c.toNat:Int))then some ((c.toNat:Int) != 95)else some false))else some false))=some (!okC c):=by
 unfold okC okN;generalize c.toNat=k;have e:((k:Int) != 95)= !decide (k=95):=by
  grind
 grind
theorem Qfu(n:Nat)(s:List UInt8):(bif decide ((s.length:Int)<1)then some true else(bif decide (24<(s.length:Int))then some true else(idx s 0).bind λx10=>(bif decide ((x10.toNat:Int)<97)then some true else(idx s 0).bind λx12=>some (decide (122<(x12.toNat:Int))))))=some (!(decide (1<=s.length)&&decide (s.length<=24)&&(s.head?).any okA)):=by
 cases s with
 |nil=>rfl
 |cons c r=>
  by_cases h:(c::r).length<=24
  .rw[Qx (show¬24<((c::r).length:Int)by omega),Vp];have e:idx (c::r) 0=some c:=rfl;simp[e,XJ];simp[X0]at h;have a:r.length<=23:=by omega
   simp[List.head?_cons,Option.any_some,okA,okAN];rw[show(97:Int)=(97:Nat)from rfl,ch_lt];by_cases f:c.toNat<97
   .grind
   .have d:97<=c.toNat:=by omega
    simp[f,d,a];by_cases q:c.toNat<=122
    iterate 2 grind
  grind
theorem QfE(s:List UInt8)(h:s.length<=1048576):Ev (λn=>F_g n s) (isNameS s):=by
 refine Ea (EA (Qfu 0 s)) ?_;unfold isNameS;cases f:(decide (1<=s.length)&&decide (s.length<=24)&&(s.head?).any okA)with
 |false=>
  have:goodS s=false:=by unfold goodS;rw[f];rfl
  rw[this];exact Qa _
 |true=>
  have g:goodS s=s.all okC:=by unfold goodS;rw[f];rfl
  refine Ea (YZ s (λc=> !okC c) (λi=>(i:Int)) (Ctl.done false) (Ctl.cont ()) (by omega) rfl (λi x a d=>?_) (λi x a d=>?_) ?_) ?_
  .unfold F_ir;simp only[a.lt,a.ix,XJ,badC,d,a.nx];exact Qa _
  .unfold F_ir;simp only[a.lt,a.ix,XJ,badC,d];exact Qa _
  .simp_all[F_ir,Qa]
  .rw[g];have e:s.any (λc=> !okC c)= !s.all okC:=by grind
   rw[e];cases q:s.all okC with
   |true=>
    exact Ea (Qh3 s (g.trans q)) (Qa _)
   |false=>
    exact Qa _
theorem Qbq(s:List UInt8)(j:s.length<=1048576):Ev (λn=>F_cf n s) (isNameS s):=by
 refine Ea (EA (Qfu 0 s)) ?_;unfold isNameS;cases a:(decide (1<=s.length)&&decide (s.length<=24)&&(s.head?).any okA)with
 |false=>
  have:goodS s=false:=by unfold goodS;rw[a];rfl
  rw[this];exact Qa _
 |true=>
  have g:goodS s=s.all okC:=by unfold goodS;rw[a];rfl
  cases s with
  |nil=>simp at a
  |cons c r=>
   have h:okC c=true:=by
    simp_all[okA,okC,okN,okAN]
   have hr:=by
    simp[XW,Vq,X0]at a;omega
   have k:∀(i:Nat) (x:UInt8),At r i x->decide (((i+1:Nat):Int)<(c::r).length)=true/\idx (c::r) (i+1:Nat)=some x/\i64.wrap ((i+1:Nat)+1)=i+1+1:=by
    intro i x d;have:=d.lt';exact⟨Vt (by simp;omega),Qo (by simpa using d.get),QO (by omega)⟩
   refine Ea (YZ r (λc=> !okC c) (λi=>((i+1:Nat):Int)) (Ctl.done false) (Ctl.cont ()) (by omega) rfl (λi x d f=>?_) (λi x d f=>?_) ?_) ?_
   iterate 2 grind[F_kh,badC,Qa]
   .unfold F_kh;rw[Qx (by simp),Vp];exact Qa _
   .rw[g];have e:r.any (λc=> !okC c)= !(c::r).all okC:=by rw[List.all_cons,h,Vz,List.not_all_eq_any_not]
    rw[e];cases q:(c::r).all okC with
    |true=>
     exact Ea (EA (Qfb 0 _)) (Qa _)
    |false=>
     exact Qa _
def diffS:List (List UInt8)->List (List UInt8)->Bool
 |_,[]=>true
 |seen,x::r=>isNameS x&& !seen.contains x&&diffS (seen++[x]) r
theorem QeR(l:List (List UInt8))(i:Nat)(x:List UInt8)(h:At l i x):diffS (l.take i) (l.drop i)=(isNameS x&& !(l.take i).contains x&&diffS (l.take (i+1)) (l.drop (i+1))):=by
 rw[h.drop,h.take];rfl
theorem QbO{α:Type}(l:List α)(a:α->List UInt8)(g:Nat->α->Option Unit)(hg:∀n x,g n x=some ())(p:l.length<=1048576)(m:∀x∈l,(a x).length<=1048576):
  Ev (λn=>((iter (λs:(List (List UInt8×Bool))×Int=>bif decide (s.2<(l.length:Int))then(idx l s.2).bind λx35=>(g n x35).bind λr36=>((F_g n (a x35)).bind λr42=>(bif (!r42)then some true else(some (QB s.1 (a x35) false)).bind λv44=>some v44):Option Bool).bind λb40=>(bif b40 then some (.done (.done false))else(some (Q3 s.1 (a x35) true)).bind λm46=>some (.cont (m46,i64.wrap (s.2+1))))else some (.done (.cont ()))) n ([],0):Option (Ctl Unit Bool)).bind λb28=>
   match b28 with
   |.cont _=>some true
   |.done s=>some s:Option Bool)) (diffS [] (l.map a)):=by
 have h:l.length<=4611686018427387904:=by omega
 have f:(l.map a).length<=4611686018427387904:=by grind
 have j:=Qbu (B:=Ctl Unit Bool) l (step:=λn s=>bif decide (s.2<(l.length:Int))then(idx l s.2).bind λx35=>(g n x35).bind λr36=>((F_g n (a x35)).bind λr42=>(bif (!r42)then some true else(some (QB s.1 (a x35) false)).bind λv44=>some v44)).bind λb40=>(bif b40 then some (.done (.done false))else(some (Q3 s.1 (a x35) true)).bind λm46=>some (.cont (m46,i64.wrap (s.2+1))))else some (.done (.cont ())))
  (λi=>(Yg a true (l.take i),i)) (λi=>bif diffS ((l.map a).take i) ((l.map a).drop i)then .cont ()else .done false) h rfl (λi x e=>?_) ?_
 .refine Ea j ?_
  grind[Qa]
 .have ha2:=Y9 f (by rw[Xo,e.get];rfl);simp only[QeR _ _ _ ha2];have d:Ev (λn=>(F_g n (a x)).bind λr42=>(bif (!r42)then some true else(some (QB (Yg a true (l.take i)) (a x) false)).bind λv44=>some v44)) (!(isNameS (a x)&& !((l.map a).take i).contains (a x))):=by
   refine Ea (QfE (a x) (m x e.mem)) ?_;cases isNameS (a x)with
   |false=>exact Qa _
   |true=>
    simp_all[Qa,Qdx]
  cases k:(isNameS (a x)&& !((l.map a).take i).contains (a x))with
  |true=>
   rw[k]at d;refine .inl ⟨?_,by simp⟩;simp only[e.lt,e.ix,XJ,hg];refine Ea d ?_;simp[e.nx];rw[e.take,QfZ];exact Qa _
  |false=>
   rw[k]at d;refine .inr ?_;simp only[e.lt,e.ix,XJ,hg];refine Ea d ?_;exact Qa _
 .simp[Qao];rw[show(l.map a).drop l.length=[]by simp];exact Qa _
theorem QbT{α:Type}{l:List α}{x:α}(h:l.length<=140737488):app l [x]=some (l++[x]):=QmK l x (by omega)
theorem QdO(l:List (List UInt8))(s:l.length<=1048576)(f:∀x∈l,x.length<=1048576):Ev (λn=>F_q n l) (diffS [] l):=by
 have k:l.length<=4611686018427387904:=by omega
 refine Ea (Qbu l (λi=>(i:Int)) (λi=>bif diffS (l.take i) (l.drop i)then .cont ()else .done false) k rfl (λi x a=>?_) ?_) ?_
 .simp only[QeR _ _ _ a];unfold F_ku;simp only[a.lt,a.ix,XJ];cases m:isNameS x with
  |false=>
   exact .inr (Ea ((Qbq x (f x a.mem)).eq m) (Qa _))
  |true=>
   have r:=a.lt';have inner:Ev (λn=>iter (F_hg n l i) n 0) (bif (l.take i).contains x then Ctl.done (Ctl.done (Ctl.done false))else Ctl.cont ()):=by
    have e:(l.take i).contains x=(l.take i).any λy=>y==x:=by
     grind
    rw[e];have p:(l.take i).length=i:=by simp;omega
    refine YZ (l.take i) (λy=>y==x) (λi=>(i:Int)) _ _ (by omega) rfl (λj y d h=>?_) (λj y d h=>?_) ?_
    .have g:=d.lt';have hjg:=by
      have:=d.get;rw[List.getElem?_take]at this;split at this
      .exact this
      .cases this
     unfold F_hg;rw[Qw (show(j:Int)<i by omega)];simp only[Qo hjg,a.ix,XJ,h,d.nx];exact Qa _
    .have g:=d.lt';have hjg:=by
      have:=d.get;rw[List.getElem?_take]at this;split at this
      .exact this
      .cases this
     unfold F_hg;rw[Qw (show j<(i:Int)by omega)];simp only[Qo hjg,a.ix,XJ,h];exact Qa _
    grind[F_hg,Qa]
   cases q:(l.take i).contains x with
   |true=>
    rw[q]at inner;exact .inr (Ea ((Qbq x (f x a.mem)).eq m) (Qs (Ea inner (Qa _))))
   |false=>
    rw[q]at inner;refine .inl ⟨Ea ((Qbq x (f x a.mem)).eq m) (Qs (Ea inner ?_)),by simp⟩;simp only[a.nx];exact Qa _
 .unfold F_ku;simp only[Qao,Xr];exact Qa _
 grind[Qa]
theorem Qac{α β:Type}(l:List α)(f:α->β)(j:l.length<=140737488):Ev (λn=>iter (λs:(List β)×Int=>bif decide (s.2<(l.length:Int))then(idx l s.2).bind λx15=>(app s.1 [f x15]).bind λl16=>some (Ctl.cont (l16,i64.wrap (s.2+1)))else some (Ctl.done s.1)) n (([]:List β),(0:Int))) (l.map f):=by
 have e:∀l:List α,l.foldl (λa x=>a++[f x]) []=l.map f:=by
  intro l;have h:∀(l:List α) (a:List β),l.foldl (λa x=>a++[f x]) a=a++l.map f:=by
   intro l
   induction l with
   |nil=>simp
   |cons x l k=>grind
  grind
 rw[<- e l];refine QaD l (λa x=>a++[f x]) [] (λa i=>(a,(i:Int))) (λa=>a) (by omega) rfl (λi x a g d=>?_) ?_
 .rw[e]at d;have:a.length<=140737488:=by grind
  simp only[g.lt,g.ix,QbT this,g.nx];exact Qa _
 .simp[Qao];exact Qa _
def namesS(c:Course):Bool:=isNameS c.Name&&(diffS [] (c.Mats.map (·.Name))&&(diffS [] (c.Distances.map (·.Name))&&(diffS [] (c.Waves.map (·.Name))&&(diffS [] (c.Offences.map (·.Name))&&diffS [] (c.Categories.map (·.Name))))))
structure CourseOk (c:Course):Prop where
 name:c.Name.length<=1048576
 mats:c.Mats.length<=1048576
 matsN:∀x∈c.Mats,x.Name.length<=1048576
 legs:c.Legs.length<=1048576
 dist:c.Distances.length<=1048576
 distN:∀x∈c.Distances,x.Name.length<=1048576
 cut:∀x∈c.Distances,x.Cutoffs.length<=1048576
 wave:c.Waves.length<=1048576
 waveN:∀x∈c.Waves,x.Name.length<=1048576
 off:c.Offences.length<=1048576
 offN:∀x∈c.Offences,x.Name.length<=1048576
 cat:c.Categories.length<=1048576
 catN:∀x∈c.Categories,x.Name.length<=1048576
 prize:c.Prizes.length<=1048576
theorem Qk9(c:Course)(w:CourseOk c):Ev (λn=>F_fm n c) (namesS c):=by
 refine Ea (Ea (QfE c.Name w.name) (Ei λ_=>?_)) (Qa _);have a:Ev (λn=>F_hb n c.Mats) (diffS [] (c.Mats.map (·.Name))):=by exact QbO c.Mats (·.Name) F_gk (λ_ _=>rfl) w.mats w.matsN
 have e:Ev (λn=>F_gm n c.Distances) (diffS [] (c.Distances.map (·.Name))):=by exact QbO c.Distances (·.Name) F_ff (λ_ _=>rfl) w.dist w.distN
 have f:Ev (λn=>F_fv n c.Waves) (diffS [] (c.Waves.map (·.Name))):=by exact QbO c.Waves (·.Name) F_fn (λ_ _=>rfl) w.wave w.waveN
 have d:Ev (λn=>F_hp n c.Offences) (diffS [] (c.Offences.map (·.Name))):=by exact QbO c.Offences (·.Name) F_gx (λ_ _=>rfl) w.off w.offN
 have g:Ev (λn=>F_gq n c.Categories) (diffS [] (c.Categories.map (·.Name))):=by exact QbO c.Categories (·.Name) F_gl (λ_ _=>rfl) w.cat w.catN
 refine Ea a (Ei λ_=>(Ea e (Ei λ_=>?_)));refine Ea f (Ei λ_=>?_);exact Ea d (Ei (by grind))
structure Short (c:Course):Prop where
 mats:c.Mats.length<=140737488
 dist:c.Distances.length<=140737488
 wave:c.Waves.length<=140737488
 off:c.Offences.length<=140737488
 cat:c.Categories.length<=140737488
theorem Qhd(c:Course)(w:CourseOk c)(s:Short c):Ev (λn=>F_hm n c) (namesS c):=by
 refine Ea (Qac c.Mats (·.Name) s.mats) (Ea (Qac c.Distances (·.Name) s.dist) ?_);refine Ea (Qac c.Waves (·.Name) s.wave) (Ea (Qac c.Offences (·.Name) s.off) ?_);refine Ea (Qac c.Categories (·.Name) s.cat) (Ea ?_ (Qa _));refine Ea (Qbq c.Name w.name) (Ei λ_=>?_);have mk:∀{α:Type} (l:List α) (nm:α->List UInt8),l.length<=1048576->(∀x∈l,(nm x).length<=1048576)->Ev (λn=>F_q n (l.map nm)) (diffS [] (l.map nm)):=by
  simp_all[QdO]
 refine Ea (mk c.Mats (·.Name) w.mats w.matsN) (Ei λ_=>(Ea (mk c.Distances (·.Name) w.dist w.distN) (Ei λ_=>?_)));refine Ea (mk c.Waves (·.Name) w.wave w.waveN) (Ei λ_=>(Ea (mk c.Offences (·.Name) w.off w.offN) (Ei λ_=>?_)));exact Ea (mk c.Categories (·.Name) w.cat w.catN) (Qa _)
theorem QaI{n:Nat}(h:n<=1048576):i64.wrap ((n:Int)-1)=(n:Int)-1:=Qq (by omega) (by omega)
theorem Jr(x lo hi:Int):Ev (λn=>F_b n x lo hi) (inR lo hi x):=by
 exact Ea (Ei λ_=>Qa _) (Qa _)
theorem QeO(c:Course)(w:CourseOk c)(x:Int):Ev (λn=>F_h n c x) (inR 0 ((c.Mats.length:Int)-1) x):=by
 unfold F_h;rw[QaI w.mats];exact Ea (Jr _ _ _) (Qa _)
mutual
def szP:Part->Nat
 |⟨_,_,ps⟩=>1+szPs ps
def szPs:List Part->Nat
 |[]=>0
 |p::r=>szP p+szPs r
end
theorem YG(p:Part):szP p=1+szPs p.Parts:=by cases p;rfl
theorem YU{p:Part}:∀{l:List Part},p∈l->szP p<=szPs l
 |q::r,h=>by
  simp[szPs];rcases X6.1 h with rfl|h
  .omega
  .have:=YU h;omega
mutual
def partS(k:Int):Part->Bool
 |⟨m,laps,ps⟩=>bif laps==0 then inR 0 k m&&((ps.length:Int)==0)else inR 1 64 laps&&((m==0)&&(decide (0<(ps.length:Int))&&partsS k ps))
def partsS(k:Int):List Part->Bool
 |[]=>true
 |p::r=>partS k p&&partsS k r
end
theorem Qa3(k:Int)(p:Part):partS k p=bif p.Laps==0 then inR 0 k p.Mat&&((p.Parts.length:Int)==0)else inR 1 64 p.Laps&&((p.Mat==0)&&(decide (0<(p.Parts.length:Int))&&partsS k p.Parts)):=by cases p;rfl
theorem Y1(k:Int):∀l:List Part,partsS k l=l.all (partS k)
 |[]=>rfl
 |p::r=>by simp[partsS,List.all_cons,Y1 k r]
theorem Yc{p:Part}(h:Part.wf p):p.Parts.length<=1048576/\ ∀x∈p.Parts,Part.wf x:=by
 cases p
 grind[Part.wf,QcZ]
theorem QH(lo hi x:Int):Ev (λn=>F_a n lo hi [x]) (inR lo hi x):=(QfB lo hi [x] (by simp)).eq (by simp)
theorem QaM(lo hi x y:Int):Ev (λn=>F_a n lo hi [x,y]) (inR lo hi x&&inR lo hi y):=(QfB lo hi [x,y] (by simp)).eq (by simp)
theorem Qk8(k:Int):∀(m:Nat) (l:List Part),szPs l<=m->l.length<=1048576->(∀x∈l,Part.wf x)->Ev (λn=>F_al n l k) (partsS k l):=by
 intro m
 induction m with
 |zero=>
  intro l a f d;cases l with
  |nil=>
   refine Yy ?_;exact Jg [] (partS k) (λn x=>F_dw (F_al n) n x k) (by simp) (by simp)
  |cons p r=>
   simp only[szPs,YG]at a;omega
 |succ m h=>
  intro l a f d;refine Yy ?_;rw[Y1];refine Jg l (partS k) (λn x=>F_dw (F_al n) n x k) (by omega) λp e=>?_;rw[Qa3];have g:=YU e;rw[YG]at g;obtain⟨i,j⟩:=Yc (d p e);refine Qah (λ_=>?_) (λ_=>?_)
  .exact Ea (Ea (QH _ _ _) (Ei λ_=>Qa _)) (Qa _)
  .exact Ea (Ea (QH _ _ _) (Ei λ_=>Ei λ_=>Ei (by grind))) (Qa _)
theorem Qjy(c:Course)(w:CourseOk c):∀(m:Nat) (l:List Part),szPs l<=m->l.length<=1048576->(∀x∈l,Part.wf x)->Ev (λn=>F_u n c l) (partsS ((c.Mats.length:Int)-1) l):=by
 intro m
 induction m with
 |zero=>
  intro l e h f;cases l with
  |nil=>
   refine Yy ?_;show Ev (λn=>B_u (F_u n) n c []) _;exact⟨1,λn u=>by obtain⟨k,rfl⟩:∃k,n=k+1:=⟨n-1,by omega⟩;rfl⟩
  |cons p r=>
   simp only[szPs,YG]at e;omega
 |succ m g=>
  intro l e h f;refine Yy ?_;show Ev (λn=>B_u (F_u n) n c l) _;rw[Y1];have step:∀(i:Nat) (x:Part),At l i x->Ev (λn=>F_iq n c l (F_u n) i) (bif partS (c.Mats.length-1) x then .cont (i+1)else .done (.done false)):=by
   intro i x a;unfold F_iq;simp only[a.lt,a.ix,XJ,a.nx];have j:=YU a.mem;rw[YG]at j;obtain⟨s,t⟩:=Yc (f x a.mem);refine Ea (Ei λ_=>Ea (QeO c w _) (Ei λ_=>Qa _)) (Ea (Ea (Jr _ _ _) (Ei λ_=>Ei λ_=>Ei λ_=>Ea (g x.Parts (by omega) s t) (Qa _))) ?_);rw[Qa3];cases q:(x.Laps==0)with
   |true=>
    have e0:=by simpa using q
    have:inR 1 64 x.Laps=false:=by rw[e0];rfl
    grind[Qa]
   |false=>
    generalize(inR 1 64 x.Laps&&((x.Mat==0)&&(decide (0<(x.Parts.length:Int))&&partsS (c.Mats.length-1) x.Parts)))=b;cases b<;>exact Qa _
  refine Ea (YZ l (λx=> !partS (c.Mats.length-1) x) (λi=>(i:Int)) (Ctl.done false) (Ctl.cont ()) (by omega) rfl (λi x a d=>?_) (λi x a d=>?_) ?_) ?_
  .refine(step i x a).eq ?_;have:=by simpa using d
   rw[this];rfl
  .refine(step i x a).eq ?_;have:=by simpa using d
   rw[this];rfl
  .unfold F_iq;simp[Qao];exact Qa _
  grind[Qa]
def legS(k:Int)(l:Leg):Bool:=(inR 0 k l.From&&inR 0 k l.To)&&((inR 0 68719476736 l.Min&&inR 0 68719476736 l.Max)&&decide (l.Min<=l.Max))
def cutS(k:Int)(x:Cutoff):Bool:=inR 0 k x.Mat&&(decide (1<=x.Lap)&&inR 0 1099511627776 x.Limit)
def distS(k:Int)(d:Distance):Bool:=inR 1 3 d.Timing&&(inR (-1) k d.Extra&&(partsS k d.Route&&d.Cutoffs.all (cutS k)))
def offS(o:Offence):Bool:=bif o.Out then(o.Time==0)&&(o.Laps==0)else bif o.Laps != 0 then(o.Time==0)&&inR 1 64 o.Laps else inR 0 68719476736 o.Time
def catS(x:Category):Bool:=(inR 0 120 x.From&&inR 0 120 x.To)&&decide (x.From<=x.To)
def prizeS(c:Course)(p:Prize):Bool:=inR 0 ((c.Distances.length:Int)-1) p.Distance&&(inR (-1) ((c.Categories.length:Int)-1) p.Category&&(inR 1 4000 p.Rank&&inR 1 1125899906842624 p.Amount))
def lastS(c:Course):Bool:=(inR 0 16 c.Faults.Misses&&inR 0 16 c.Faults.Strays)&&((inR 0 4294967296 c.Faults.Window&&inR 0 4294967296 c.Faults.Residual)&&(inR 0 100000 c.Faults.Drift&&(inR 0 1125899906842624 c.Fee&&inR 0 1099511627776 c.Deadline)))
def legKey(l:Leg):Ui:={from_:=l.From,to_:=l.To}
def prizeKey(p:Prize):Uk:={distance:=p.Distance,category:=p.Category,rank:=p.Rank}
def numbersS(c:Course):Bool:=
 let k:=(c.Mats.length:Int)-1
 c.Mats.all (λm=>inR 1 3 m.Kind)&&(c.Legs.all (legS k)&&(decide ((c.Legs.map legKey).Nodup)&&(c.Distances.all (distS k)&&(c.Waves.all (λw=>inR 0 1099511627776 w.Gun)&&(c.Offences.all offS&&(c.Categories.all catS&&(c.Prizes.all (prizeS c)&&(decide ((c.Prizes.map prizeKey).Nodup)&&lastS c))))))))
structure PartsOk (c:Course):Prop where
 len:∀d∈c.Distances,d.Route.length<=1048576
 wf:∀d∈c.Distances,∀x∈d.Route,Part.wf x
theorem Qgb(l:List Leg)(d:l.length<=1048576):Ev (λn=>F_gr n l) (decide ((l.map legKey).Nodup)):=by
 refine Ea (Qbv l legKey true (by omega) (λi x m a=>?_) (λm=>?_)) ((Qa _).eq ?_)
 .unfold F_kp F_fq;simp only[a.lt,a.ix,a.nx];exact Qa _
 .simp_all[F_kp,Qa]
 .rw[XY];simp[Vx,Vq]
  grind[Qcc]
theorem QeN(l:List Prize)(d:l.length<=1048576):Ev (λn=>F_fc n l) (decide ((l.map prizeKey).Nodup)):=by
 refine Ea (Qbv l prizeKey true (by omega) (λi x m a=>?_) (λm=>?_)) ((Qa _).eq ?_)
 .unfold F_kz F_fb;simp only[a.lt,a.ix,a.nx];exact Qa _
 .simp_all[F_kz,Qa]
 .rw[XY];simp[Vx,Vq]
  grind[Qcc]
theorem QhX(c:Course)(w:CourseOk c)(q:PartsOk c):Ev (λn=>F_di n c) (numbersS c):=by
 unfold F_di numbersS;rw[QaI w.mats];refine Ea (v:=_) ?_ (Qa _);have e:Ev (λn=>F_ey n c.Mats) (c.Mats.all λm=>inR 1 3 m.Kind):=by
  unfold F_ey F_gj F_hs;refine Jg c.Mats _ (λn x=>F_dp n x) (by have:=w.mats;omega) λx a=>?_;unfold F_dp;exact Ea (QH _ _ _) (Qa _)
 have i:Ev (λn=>F_ds n c.Legs ((c.Mats.length:Int)-1)) (c.Legs.all (legS ((c.Mats.length:Int)-1))):=by
  unfold F_ds F_gf F_ft;refine Jg c.Legs _ (λn x=>F_ew n x _) (by have:=w.legs;omega) λx a=>?_;unfold F_ew;exact Ea (Ea (QaM _ _ _ _) (Ei λ_=>Ea (QaM _ _ _ _) (Ei λ_=>Qa _))) (Qa _)
 have f:Ev (λn=>F_dd n c.Distances ((c.Mats.length:Int)-1)) (c.Distances.all (distS ((c.Mats.length:Int)-1))):=by
  unfold F_dd F_fo F_fi;refine Jg c.Distances _ (λn x=>F_dk n x _) (by have:=w.dist;omega) λx a=>?_;unfold F_dk;have j:Ev (λn=>F_ek n x.Cutoffs ((c.Mats.length:Int)-1)) (x.Cutoffs.all (cutS ((c.Mats.length:Int)-1))):=by
   unfold F_ek F_fw F_hj;refine Jg x.Cutoffs _ (λn x=>F_db n x _) (by have:=w.cut x a;omega) λy l=>?_;unfold F_db;exact Ea (Ea (QH _ _ _) (Ei λ_=>Ei λ_=>Ea (QH _ _ _) (Qa _))) (Qa _)
  exact Ea (Ea (QH _ _ _) (Ei λ_=>Ea (QH _ _ _) (Ei λ_=>Ea (Qk8 _ _ x.Route (XT _) (q.len x a) (q.wf x a)) (Ei λ_=>Ea j (Qa _))))) (Qa _)
 have k:Ev (λn=>F_cw n c.Waves) (c.Waves.all λw=>inR 0 1099511627776 w.Gun):=by
  unfold F_cw F_gw F_gy;refine Jg c.Waves _ (λn x=>F_en n x) (by have:=w.wave;omega) λx a=>?_;unfold F_en;exact Ea (QH _ _ _) (Qa _)
 have h:Ev (λn=>F_dn n c.Offences) (c.Offences.all offS):=by
  unfold F_dn F_hv F_hq;refine Jg c.Offences _ (λn x=>F_ec n x) (by have:=w.off;omega) λx a=>?_;unfold F_ec offS;refine Qah (λ_=>Ea (Ei λ_=>Qa _) (Qa _)) λ_=>Qah (λ_=>Ea (Ei λ_=>Ea (QH _ _ _) (Qa _)) (Qa _)) λ_=>Ea (QH _ _ _) (Qa _)
 have g:Ev (λn=>F_dr n c.Categories) (c.Categories.all catS):=by
  unfold F_dr F_fa F_fx;refine Jg c.Categories _ (λn x=>F_dc n x) (by have:=w.cat;omega) λx a=>?_;unfold F_dc;exact Ea (Ea (QaM _ _ _ _) (Ei λ_=>Qa _)) (Qa _)
 have d:Ev (λn=>F_ep n c.Prizes c) (c.Prizes.all (prizeS c)):=by
  unfold F_ep F_fd F_hu;refine Jg c.Prizes _ (λn x=>F_ct n x c) (by have:=w.prize;omega) λx a=>?_;unfold F_ct;rw[QaI w.dist,QaI w.cat];exact Ea (Ea (QH _ _ _) (Ei λ_=>Ea (QH _ _ _) (Ei λ_=>Ea (QH _ _ _) (Ei λ_=>Ea (QH _ _ _) (Qa _))))) (Qa _)
 refine Ea e (Ei λ_=>Ea i (Ei λ_=>Ea (Qgb _ w.legs) (Ei λ_=>Ea f (Ei λ_=>Ea k (Ei λ_=>Ea h (Ei λ_=>Ea g (Ei λ_=>Ea d (Ei λ_=>Ea (QeN _ w.prize) (Ei λ_=>?_)))))))));exact Ea (QaM _ _ _ _) (Ei λ_=>Ea (QaM _ _ _ _) (Ei λ_=>Ea (QH _ _ _) (Ei λ_=>Ea (QH _ _ _) (Ei λ_=>Ea (QH _ _ _) (Qa _)))))
theorem ends_eq{a b a' d:Int}:(({from_:=a,to_:=b}:Ui)={from_:=a',to_:=d})↔a=a'/\b=d:=by simp
theorem QeL(c:Course)(w:CourseOk c)(d:Distance)(h:d.Route.length<=1048576)(k:∀x∈d.Route,Part.wf x)(l:d.Cutoffs.length<=1048576):Ev (λn=>F_ga n c d) (distS ((c.Mats.length:Int)-1) d):=by
 have step:∀(i:Nat) (x:Cutoff),At d.Cutoffs i x->Ev (λn=>F_ja n c d i) (bif cutS (c.Mats.length-1) x then .cont (i+1)else .done (.done false)):=by
  intro i x a;unfold F_ja;simp only[a.lt,a.ix,XJ,a.nx];have:Ev (λn=>(F_h n c x.Mat).bind λf=>(bif (!f)then some true else(bif decide (x.Lap<1)then some true else(F_b n x.Limit 0 1099511627776).bind λg=>some (!g)))) (!cutS (c.Mats.length-1) x):=by
   refine Ea (QeO c w _) (Ew (Qh λ_=>Qh λ_=>Ea (Jr _ _ _) (Qa _)) ?_)
   grind[cutS]
  refine Ea this ?_
  grind[Qa]
 refine Ea (YZ d.Cutoffs (λx=> !cutS (c.Mats.length-1) x) (λi=>(i:Int)) (Ctl.done false) (Ctl.cont ()) (by omega) rfl (λi x a j=>?_) (λi x a j=>?_) ?_) ?_
 .grind
 .grind
 .simp_all[F_ja,Qa]
 .have e:d.Cutoffs.any (λx=> !cutS (c.Mats.length-1) x)= !d.Cutoffs.all (cutS (c.Mats.length-1)):=by grind
  rw[e];unfold distS;have m:inR (-1) (c.Mats.length-1) d.Extra=((d.Extra== -1)||inR 0 (c.Mats.length-1) d.Extra):=by
   unfold inR
   grind
  cases d.Cutoffs.all (cutS (c.Mats.length-1))with
  |false=>
   simp[Bool.and_false];exact Qa _
  |true=>
   simp only[Bool.and_true];refine Ea (Ea (Jr _ _ _) ((Ei λ_=>Ea (Qjy c w _ d.Route (XT _) h k) (Ei λ_=>Qh λ_=>Ea (QeO c w _) (Qa _))).eq ?_)) (Qa _)
   grind
theorem Q9{α B:Type}{step:Nat->Int->Option (Ctl Int B)}(l:List α)(ok:α->Bool)(a b:B)(g:l.length<=4611686018427387904)
  (j:∀i x,At l i x->Ev (λn=>step n (i:Int)) (bif ok x then .cont ((i+1:Nat):Int)else .done a))(f:Ev (λn=>step n (l.length:Int)) (.done b)):
  Ev (λn=>Go.Sw.iter (step n) n 0) (bif l.all ok then b else a):=by
 have e:(bif l.all ok then b else a)=bif l.any (λx=> !ok x)then a else b:=by
  grind
 rw[e];refine YZ l (λx=> !ok x) (λi=>(i:Int)) a b g rfl (λi x h d=>?_) (λi x h d=>?_) f
 .grind
 grind
theorem Qf8(c:Course)(w:CourseOk c)(q:PartsOk c):Ev (λn=>F_eh n c) (numbersS c):=by
 unfold F_eh numbersS;have M:Ev (λn=>iter (F_jw n c) n 0) (bif c.Mats.all (λm=>inR 1 3 m.Kind)then Ctl.cont ()else Ctl.done false):=by
  refine Q9 c.Mats _ _ _ (by have:=w.mats;omega) (λi x a=>?_) ?_
  .unfold F_jw;simp only[a.lt,Vo,a.ix,XJ,a.nx];refine Ea (Jr _ _ _) ?_;cases inR 1 3 x.Kind<;>exact Qa _
  simp_all[F_jw,Qa]
 have H:Ev (λn=>iter (F_dt n c) n 0) (bif c.Legs.all (legS ((c.Mats.length:Int)-1))&&decide ((c.Legs.map legKey).Nodup)then Ctl.cont ()else Ctl.done false):=by
  have first:∀x:Leg,Ev (λn=>((F_h n c x.From).bind λp=>(bif (!p)then some true else(F_h n c x.To).bind λu=>(bif (!u)then some true else(bif decide (x.Min<0)then some true else(bif decide (x.Max<x.Min)then some true else some (decide (68719476736<x.Max)))))):Option Bool)) (!legS ((c.Mats.length:Int)-1) x):=by
   intro x;refine Ea (QeO c w _) (Ew (Qh λ_=>Ea (QeO c w _) (Qh λ_=>Qh λ_=>Qh λ_=>Qa _)) ?_);unfold legS inR
   grind
  have inner:∀(i:Nat) (x:Leg),At c.Legs i x->Ev (λn=>iter (F_gg n c (i:Int) x) n 0) (bif ((c.Legs.take i).map legKey).contains (legKey x)then Ctl.done (Ctl.done (Ctl.done false))else Ctl.cont ()):=by
   intro i x a;have E:=a.lt';refine Qhz c.Legs i legKey (legKey x) _ _ (by have:=w.legs;omega) (by omega) (λj y F k g=>?_) (λj y F k g=>?_) ?_
   .unfold F_gg;rw[Qw (show(j:Int)<(i:Int)by omega)];simp only[Vo,k.ix,XJ,k.nx];have h:¬(y.From=x.From/\y.To=x.To):=by simpa[legKey]using g
    refine Ea (Ei λ_=>Qa _) ?_;have e:((y.From==x.From)&&(y.To==x.To))=false:=by
     grind
    rw[e];exact Qa _
   .unfold F_gg;rw[Qw (show(j:Int)<(i:Int)by omega)];simp only[Vo,k.ix,XJ,k.nx]
    simp_all[legKey,Qa]
   grind[F_gg,Qa]
  refine QlT c.Legs (legS ((c.Mats.length:Int)-1)) legKey _ _ (by have:=w.legs;omega) (λi x a d g=>?_) (λi x a d=>?_) (λi x a d g=>?_) ?_
  .unfold F_dt;simp only[a.lt,Vo,a.ix,XJ,a.nx];have f:=first x;rw[d]at f
   have l:=inner i x a;rw[g]at l;exact Ea f (Qs (Ea l (Qa _)))
  .unfold F_dt;simp only[a.lt,Vo,a.ix,XJ,a.nx];have f:=first x;rw[d]at f
   exact Ea f (Qa _)
  .unfold F_dt;simp only[a.lt,Vo,a.ix,XJ,a.nx];have f:=first x;rw[d]at f
   have l:=inner i x a;rw[g]at l;exact Ea f (Qs (Ea l (Qa _)))
  simp_all[F_dt,Qa]
 have G:Ev (λn=>iter (F_iz n c) n 0) (bif c.Distances.all (distS ((c.Mats.length:Int)-1))then Ctl.cont ()else Ctl.done false):=by
  refine Q9 c.Distances _ _ _ (by have:=w.dist;omega) (λi x a=>?_) ?_
  .unfold F_iz;simp only[a.lt,Vo,a.ix,XJ,a.nx];refine Ea (QeL c w x (q.len x a.mem) (q.wf x a.mem) (w.cut x a.mem)) ?_;cases distS ((c.Mats.length:Int)-1) x<;>exact Qa _
  .unfold F_iz;simp only[Qao,Vp];exact Qa _
 have O:Ev (λn=>iter (F_ji n c) n 0) (bif c.Waves.all (λw=>inR 0 1099511627776 w.Gun)then Ctl.cont ()else Ctl.done false):=by
  refine Q9 c.Waves _ _ _ (by have:=w.wave;omega) (λi x a=>?_) ?_
  .unfold F_ji;simp only[a.lt,Vo,a.ix,XJ,a.nx];refine Ea (Jr _ _ _) ?_;cases inR 0 1099511627776 x.Gun<;>exact Qa _
  .unfold F_ji;simp only[Qao,Vp];exact Qa _
 have L:Ev (λn=>iter (F_ju n c) n 0) (bif c.Offences.all offS then Ctl.cont ()else Ctl.done false):=by
  refine Q9 c.Offences _ _ _ (by have:=w.off;omega) (λi x a=>?_) ?_
  .unfold F_ju;simp only[a.lt,Vo,a.ix,XJ,a.nx];refine Ea (Ea (Jr _ _ _) (Ei λ_=>Ei λ_=>Qa _)) ?_;refine Ea (Ei λ_=>Ea (Jr _ _ _) (Ei λ_=>Qa _)) ?_;refine Ea (Ei λ_=>Ei λ_=>Qa _) ?_;refine Ea (Ei λ_=>Ei λ_=>Qa _) ?_;have e:offS x= !(!(inR 0 68719476736 x.Time&&((x.Laps==0)&& !x.Out))&&(!((x.Time==0)&&(inR 1 64 x.Laps&& !x.Out))&& !((x.Time==0)&&((x.Laps==0)&&x.Out)))):=by
    unfold offS inR;cases x.Out with
    |true=>
     rw[XY];simp
    |false=>
     by_cases h:x.Laps=0
     iterate 2 rw[XY];simp[h]
   rw[e];generalize(!(inR 0 68719476736 x.Time&&((x.Laps==0)&& !x.Out))&&(!((x.Time==0)&&(inR 1 64 x.Laps&& !x.Out))&& !((x.Time==0)&&((x.Laps==0)&&x.Out))))=b;cases b<;>exact Qa _
  .unfold F_ju;simp only[Qao,Vp];exact Qa _
 have N:Ev (λn=>iter (F_kk n c) n 0) (bif c.Categories.all catS then Ctl.cont ()else Ctl.done false):=by
  refine Q9 c.Categories _ _ _ (by have:=w.cat;omega) (λi x a=>?_) ?_
  .unfold F_kk;simp only[a.lt,Vo,a.ix,XJ,a.nx];refine Ea (Qh λ_=>Qh λ_=>Qa _) ?_;have e:(decide (x.From<0)||(decide (x.To<x.From)||decide (120<x.To)))= !catS x:=by
    unfold catS inR;rw[XY];simp;omega
   rw[e];cases catS x<;>exact Qa _
  .unfold F_kk;simp only[Qao,Vp];exact Qa _
 have J:Ev (λn=>iter (F_da n c) n 0) (bif c.Prizes.all (prizeS c)&&decide ((c.Prizes.map prizeKey).Nodup)then Ctl.cont ()else Ctl.done false):=by
  have first:∀x:Prize,Ev (λn=>((F_b n x.Distance 0 (i64.wrap ((c.Distances.length:Int)-1))).bind λB=>(bif (!B)then some true else(F_b n x.Category (-1) (i64.wrap ((c.Categories.length:Int)-1))).bind λs=>(bif (!s)then some true else(F_b n x.Rank 1 4000).bind λr=>(bif (!r)then some true else(F_b n x.Amount 1 1125899906842624).bind λt=>some (!t)))):Option Bool)) (!prizeS c x):=by
   intro x;rw[QaI w.dist,QaI w.cat];refine Ea (Jr _ _ _) (Ew (Qh λ_=>Ea (Jr _ _ _) (Qh λ_=>Ea (Jr _ _ _) (Qh λ_=>Ea (Jr _ _ _) (Qa _)))) ?_);unfold prizeS;simp only[Bool.not_and]
  have inner:∀(i:Nat) (x:Prize),At c.Prizes i x->Ev (λn=>iter (F_ho n c (i:Int) x) n 0) (bif ((c.Prizes.take i).map prizeKey).contains (prizeKey x)then Ctl.done (Ctl.done (Ctl.done false))else Ctl.cont ()):=by
   intro i x a;have E:=a.lt';refine Qhz c.Prizes i prizeKey (prizeKey x) _ _ (by have:=w.prize;omega) (by omega) (λj y F k g=>?_) (λj y F k g=>?_) ?_
   .unfold F_ho;rw[Qw (show(j:Int)<(i:Int)by omega)];simp only[Vo,k.ix,XJ,k.nx];have h:¬(y.Distance=x.Distance/\y.Category=x.Category/\y.Rank=x.Rank):=by simpa[prizeKey]using g
    refine Ea (Ei λ_=>Ei λ_=>Qa _) ?_;have e:((y.Distance==x.Distance)&&((y.Category==x.Category)&&(y.Rank==x.Rank)))=false:=by
     rw[VL];intro z;exact h (by simpa using z)
    rw[e];exact Qa _
   .unfold F_ho;rw[Qw (show(j:Int)<(i:Int)by omega)];simp only[Vo,k.ix,XJ,k.nx];have h:(y.Distance=x.Distance/\y.Category=x.Category/\y.Rank=x.Rank):=by simpa[prizeKey]using g
    refine Ea (Ei λ_=>Ei λ_=>Qa _) ?_;have e:((y.Distance==x.Distance)&&((y.Category==x.Category)&&(y.Rank==x.Rank)))=true:=by simpa using h
    rw[e];exact Qa _
   .unfold F_ho;rw[Qx (show¬(i:Int)<(i:Int)by omega)];exact Qa _
  refine QlT c.Prizes (prizeS c) prizeKey _ _ (by have:=w.prize;omega) (λi x a d g=>?_) (λi x a d=>?_) (λi x a d g=>?_) ?_
  .unfold F_da;simp only[a.lt,Vo,a.ix,XJ,a.nx];have f:=first x;rw[d]at f
   have l:=inner i x a;rw[g]at l;exact Ea f (Qs (Ea l (Qa _)))
  .unfold F_da;simp only[a.lt,Vo,a.ix,XJ,a.nx];have f:=first x;rw[d]at f
   exact Ea f (Qa _)
  .unfold F_da;simp only[a.lt,Vo,a.ix,XJ,a.nx];have f:=first x;rw[d]at f
   have l:=inner i x a;rw[g]at l;exact Ea f (Qs (Ea l (Qa _)))
  .unfold F_da;simp only[Qao,Vp];exact Qa _
 refine Ea M ?_;cases c.Mats.all (λm=>inR 1 3 m.Kind)with
 |false=>exact Qa _
 |true=>
 refine Ea H ?_;simp only[Vz];rw[<- Bool.and_assoc];cases(c.Legs.all (legS ((c.Mats.length:Int)-1))&&decide ((c.Legs.map legKey).Nodup))with
 |false=>exact Qa _
 |true=>
 refine Ea G ?_;simp only[Vz];cases c.Distances.all (distS ((c.Mats.length:Int)-1))with
 |false=>exact Qa _
 |true=>
 refine Ea O ?_;simp only[Vz];cases c.Waves.all (λw=>inR 0 1099511627776 w.Gun)with
 |false=>exact Qa _
 |true=>
 refine Ea L ?_;simp only[Vz];cases c.Offences.all offS with
 |false=>exact Qa _
 |true=>
 refine Ea N ?_;simp only[Vz];cases c.Categories.all catS with
 |false=>exact Qa _
 |true=>
 refine Ea J ?_;simp only[Vz];rw[<- Bool.and_assoc];cases(c.Prizes.all (prizeS c)&&decide ((c.Prizes.map prizeKey).Nodup))with
 |false=>exact Qa _
 |true=>
 simp only[Vz];refine Ea (v:=lastS c) ?_ (Qa _);refine Ea (Jr _ _ _) ((Ei λ_=>Ea (Jr _ _ _) (Ei λ_=>Ea (Jr _ _ _) (Ei λ_=>Ea (Jr _ _ _) (Ei λ_=>Ea (Jr _ _ _) (Ei λ_=>Ea (Jr _ _ _) (Ei λ_=>Ea (Jr _ _ _) (Qa _))))))).eq ?_);unfold lastS;simp only[Bool.and_assoc]
mutual
def cN:Cond->Nat
 |⟨_,_,_,ps⟩=>1+cNs ps
def cNs:List Cond->Nat
 |[]=>0
 |c::r=>cN c+cNs r
end
theorem QbS(c:Cond):cN c=1+cNs c.Parts:=by cases c;rfl
mutual
def cD:Nat->Cond->Bool
 |d,⟨_,_,_,ps⟩=>cDs d ps
def cDs:Nat->List Cond->Bool
 |_,[]=>true
 |d,c::r=>decide (d<=16)&&(cD (d+1) c&&cDs d r)
end
theorem QiV(d:Nat)(c:Cond):cD d c=cDs d c.Parts:=by cases c;rfl
def zeroC(c:Cond):Bool:=(c.Kind==0)&&((c.Var==0)&&((c.N==0)&&((c.Parts.length:Int)==0)))
mutual
def sNp:Step->Nat
 |⟨_,_,_,t,e⟩=>1+sNs t+sNs e
def sNs:List Step->Nat
 |[]=>0
 |s::r=>sNp s+sNs r
end
theorem Qfn(s:Step):sNp s=1+sNs s.Then+sNs s.Else:=by cases s;rfl
mutual
def sC:Step->Nat
 |⟨_,_,c,t,e⟩=>(bif zeroC c then 0 else cN c)+sCs t+sCs e
def sCs:List Step->Nat
 |[]=>0
 |s::r=>sC s+sCs r
end
theorem Qef(s:Step):sC s=(bif zeroC s.Cond then 0 else cN s.Cond)+sCs s.Then+sCs s.Else:=by cases s;rfl
mutual
def sDp:Nat->Step->Bool
 |d,⟨_,_,c,t,e⟩=>(zeroC c||cD 1 c)&&(sDs d t&&sDs d e)
def sDs:Nat->List Step->Bool
 |_,[]=>true
 |d,s::r=>decide (d<=16)&&(sDp (d+1) s&&sDs d r)
end
theorem QgE(d:Nat)(s:Step):sDp d s=((zeroC s.Cond||cD 1 s.Cond)&&(sDs d s.Then&&sDs d s.Else)):=by cases s;rfl
mutual
def sZ:Step->Nat
 |⟨_,_,c,t,e⟩=>2+cN c+sZs t+sZs e
def sZs:List Step->Nat
 |[]=>0
 |s::r=>sZ s+sZs r
end
theorem Qfm(s:Step):sZ s=2+cN s.Cond+sZs s.Then+sZs s.Else:=by cases s;rfl
def fS:Uj->Nat
 |.ctyping_step x=>sNp x.Step
 |.ctyping_cond _=>0
def fC:Uj->Nat
 |.ctyping_step x=>sC x.Step
 |.ctyping_cond x=>cN x.Cond
def fD(d:Nat):Uj->Bool
 |.ctyping_step x=>sDp d x.Step
 |.ctyping_cond x=>cD d x.Cond
def fZ:Uj->Nat
 |.ctyping_step x=>sZ x.Step
 |.ctyping_cond x=>cN x.Cond
def fSs(l:List Uj):Nat:=(l.map fS).sum
def fCs(l:List Uj):Nat:=(l.map fC).sum
def fZs(l:List Uj):Nat:=(l.map fZ).sum
def fwf:Uj->Prop
 |.ctyping_step x=>Step.wf x.Step
 |.ctyping_cond x=>Cond.wf x.Cond
def ofStep(s:Step):Uj:=.ctyping_step {Step:=s}
def ofCond(c:Cond):Uj:=.ctyping_cond {Cond:=c}
theorem Qa8:∀l:List Step,fSs (l.map ofStep)=sNs l
 |[]=>rfl
 |s::r=>by
  have:=Qa8 r;simp[fSs,Vj,List.sum_cons]at this⊢;rw[this];rfl
theorem Qa9:∀l:List Step,fCs (l.map ofStep)=sCs l
 |[]=>rfl
 |s::r=>by
  have:=Qa9 r;simp[fCs,Vj,List.sum_cons]at this⊢;rw[this];rfl
theorem QbN:∀l:List Step,fZs (l.map ofStep)=sZs l
 |[]=>rfl
 |s::r=>by
  have:=QbN r;simp[fZs,Vj,List.sum_cons]at this⊢;rw[this];rfl
theorem QeC:∀l:List Cond,fSs (l.map ofCond)=0
 |[]=>rfl
 |s::r=>by
  have:=QeC r;simp only[fSs,Vj,List.sum_cons]at this⊢;rw[this];rfl
theorem QeE:∀l:List Cond,fCs (l.map ofCond)=cNs l
 |[]=>rfl
 |s::r=>by
  have:=QeE r;simp[fCs,Vj,List.sum_cons]at this⊢;rw[this];rfl
theorem QeA:∀l:List Cond,fZs (l.map ofCond)=cNs l
 |[]=>rfl
 |s::r=>by
  have:=QeA r;simp[fZs,Vj,List.sum_cons]at this⊢;rw[this];rfl
theorem QcM(d:Nat):∀l:List Step,sDs d l=((l.map ofStep).isEmpty||(decide (d<=16)&&(l.map ofStep).all (fD (d+1))))
 |[]=>rfl
 |s::r=>by
  rw[sDs,QcM d r];simp[Vj,List.all_cons];rw[show fD (d+1) (ofStep s)=sDp (d+1) s from rfl]
  grind
theorem Qg6(d:Nat):∀l:List Cond,cDs d l=((l.map ofCond).isEmpty||(decide (d<=16)&&(l.map ofCond).all (fD (d+1))))
 |[]=>rfl
 |s::r=>by
  rw[cDs,Qg6 d r];simp[Vj,List.all_cons];rw[show fD (d+1) (ofCond s)=cD (d+1) s from rfl]
  grind
theorem Jc{c:Cond}(h:Cond.wf c):c.Parts.length<=1048576/\ ∀x∈c.Parts,Cond.wf x:=by
 cases c
 grind[Cond.wf,Qc5]
theorem Ja{s:Step}(h:Step.wf s):Cond.wf s.Cond/\(s.Then.length<=1048576/\ ∀x∈s.Then,Step.wf x)/\(s.Else.length<=1048576/\ ∀x∈s.Else,Step.wf x):=by
 cases s
 grind[Step.wf,QcV]
theorem QfD(n:Nat)(c:Cond):F_an n {Cond:=c}=some (zeroC c):=by
 unfold F_an zeroC
 grind
theorem QeJ(n:Nat)(c:Cond):F_bz n c=some (zeroC c):=by
 unfold F_bz zeroC
 grind
theorem QeG(l:List Step)(a:l.length<=140737488):Ev (λn=>F_bg n l) (l.map ofStep):=by
 exact Ea (Qac l ofStep a) (Qa _)
theorem Qlg(l:List Cond)(a:l.length<=140737488):Ev (λn=>F_gv n l) (l.map ofCond):=by
 exact Ea (Qac l ofCond a) (Qa _)
def stepParts(s:Step):List Uj:=s.Then.map ofStep++s.Else.map ofStep
theorem Qbo(s:Step)(h:Step.wf s):Ev (λn=>F_ak n {Step:=s}) (stepParts s):=by
 obtain⟨_,⟨d,_⟩,⟨a,_⟩⟩:=Ja h;refine Ea (QeG s.Then (by omega)) (Ea (QeG s.Else (by omega)) (Qt (QaN _ _ (by simp;omega)) (Qa _)))
theorem QcO(c:Cond)(h:Cond.wf c):Ev (λn=>F_af n {Cond:=c}) (c.Parts.map ofCond):=by
 obtain⟨a,_⟩:=Jc h;exact Ea (Qlg c.Parts (by omega)) (Qa _)
def okL(l:List Uj)(d:Nat)(st co:Int):Bool:=l.isEmpty||(decide (d<=16)&&(l.all (fD (d+1))&&(decide (st+fSs l<=64)&&decide (co+fCs l<=256))))
def okR(l:List Uj)(d:Nat)(st co:Int):Bool:=l.isEmpty||(l.all (fD (d+1))&&(decide (st+fSs l<=64)&&decide (co+fCs l<=256)))
def okF(f:Uj)(d:Nat)(st co:Int):Bool:=fD (d+1) f&&(decide (st+fS f<=64)&&decide (co+fC f<=256))
theorem Qg5(f:Uj)(l:List Uj):fSs (f::l)=fS f+fSs l:=rfl
theorem Qg7(f:Uj)(l:List Uj):fCs (f::l)=fC f+fCs l:=rfl
theorem Qg4(f:Uj)(l:List Uj):fZs (f::l)=fZ f+fZs l:=rfl
theorem QeB(l m:List Uj):fSs (l++m)=fSs l+fSs m:=by simp[fSs]
theorem QeD(l m:List Uj):fCs (l++m)=fCs l+fCs m:=by simp[fCs]
theorem Qez(l m:List Uj):fZs (l++m)=fZs l+fZs m:=by simp[fZs]
theorem Qkz(f:Uj)(r:List Uj)(d:Nat)(a e:Int):okR (f::r) d a e=(okF f d a e&&okR r d (a+fS f) (e+fC f)):=by
 unfold okR okF;rw[Qg5,Qg7];cases r with
 |nil=>simp[fSs,fCs]
 |cons g r=>
  grind
theorem QfY(l:List Uj)(d:Nat)(a e:Int)(h:a<=64)(g:e<=256):okL l d a e=true↔(l.isEmpty||(decide (d<=16)&&l.all (fD (d+1))))=true/\a+fSs l<=64/\e+fCs l<=256:=by
 unfold okL;cases l with
 |nil=>simp[fSs,fCs,h,g]
 |cons f r=>
  grind
theorem Qea(s:Step)(d:Nat):((stepParts s).isEmpty||(decide (d<=16)&&(stepParts s).all (fD (d+1))))=(sDs d s.Then&&sDs d s.Else):=by
 rw[QcM,QcM];unfold stepParts;rw[List.all_append];cases e:s.Then<;>cases a:s.Else<;>simp<;>(grind)
def Cnt(R:Nat->List Uj->Int->Uh->Option (Uh×Bool))(l:List Uj)(d:Nat)(st co:Int):Prop:=
 ∃c':Uh,Ev (λn=>R n l (d:Int) {steps:=st,conds:=co}) (c',okL l d st co)/\(okL l d st co=true->c'={steps:=st+fSs l,conds:=co+fCs l})
theorem Qh5{R:Nat->List Uj->Int->Uh->Option (Uh×Bool)}{l:List Uj}{d:Nat}(hd:d<=16){i:Nat}{f:Uj}(N:At l i f)(hw:fwf f)
  (W:∀l' d' a e,fZs l'<fZ f->l'.length<=2097152->(∀f∈l',fwf f)->d'<=17->0<=a->a<=66->(a<=65\/ ∀f∈l',∃c,f=ofCond c)->0<=e->e<=256->Cnt R l' d' a e){a e:Int}(h0:0<=a)(ac:a<=66)(u:a<=65\/ ∃c,f=ofCond c)(h2:0<=e)(h3:e<=256):
  ∃c':Uh,Ev (λn=>F_hk n l (d:Int) (R n) ({steps:=a,conds:=e},(i:Int))) (bif okF f d a e then .cont (c',((i+1:Nat):Int))else .done (.done (c',false)))/\(okF f d a e=true->c'={steps:=a+fS f,conds:=e+fC f}):=by
 unfold F_hk;simp only[N.lt,Vo,N.ix,XJ,N.nx];have ed:i64.wrap ((d:Int)+1)=((d+1:Nat):Int):=QO (by omega);cases f with
 |ctyping_step x=>
  obtain⟨s⟩:=x;have h1:a<=65:=by
   rcases u with h|⟨c,h⟩
   .exact h
   .cases h
  have k:Step.wf s:=hw;obtain⟨wc,⟨ad,V⟩,⟨ab,J⟩⟩:=Ja k;have T:i64.wrap (a+1)=a+1:=Qq (by omega) (by omega);simp only[Uj.elim,QfD,XJ,T];have hc:∃t:Uh,Ev (λn=>((bif (!zeroC s.Cond)then(R n [Uj.ctyping_cond {Cond:=s.Cond}] 0 {steps:=a+1,conds:=e}).bind λp=>some (p.1,(!p.2))else some ({steps:=a+1,conds:=e},false)):Option (Uh×Bool))) (t, !(zeroC s.Cond||(cD 1 s.Cond&&(decide (a+1<=64)&&decide (e+cN s.Cond<=256)))))/\
    ((zeroC s.Cond||(cD 1 s.Cond&&(decide (a+1<=64)&&decide (e+cN s.Cond<=256))))=true->t={steps:=a+1,conds:=e+((bif zeroC s.Cond then 0 else cN s.Cond:Nat):Int)}):=by
   cases H:zeroC s.Cond with
   |true=>
    simp_all[Qa]
   |false=>
    obtain⟨t,m,w⟩:=W [ofCond s.Cond] 0 (a+1) e (by simp only[fZs,Vj,Vk,List.sum_cons,List.sum_nil];show cN s.Cond+0<sZ s;rw[Qfm];omega) (by simp) (by intro g j;simp only[VA]at j;subst j;exact wc) (by omega) (by omega) (by omega) (.inr (by intro g j;simp only[VA]at j;exact⟨_,j⟩)) h2 h3;have ek:okL [ofCond s.Cond] 0 (a+1) e=(cD 1 s.Cond&&(decide (a+1<=64)&&decide (e+cN s.Cond<=256))):=by
     unfold okL;simp only[List.isEmpty_cons,Bool.false_or,List.all_cons,List.all_nil,Bool.and_true,fSs,fCs,Vj,Vk,List.sum_cons,List.sum_nil];rw[show fD (0+1) (ofCond s.Cond)=cD 1 s.Cond from rfl,show fS (ofCond s.Cond)=0 from rfl,show fC (ofCond s.Cond)=cN s.Cond from rfl];simp
    rw[ek]at m w;refine⟨t,Ea m (Qa _),λh=>?_⟩;rw[w h];simp[fSs,fCs,show fS (ofCond s.Cond)=0 from rfl,show fC (ofCond s.Cond)=cN s.Cond from rfl]
  obtain⟨t,m,w⟩:=hc;generalize hb:(zeroC s.Cond||(cD 1 s.Cond&&(decide (a+1<=64)&&decide (e+cN s.Cond<=256))))=b at m w;have P:okF (Uj.ctyping_step {Step:=s}) d a e=(sDp (d+1) s&&(decide (a+sNp s<=64)&&decide (e+sC s<=256))):=rfl;rw[P];cases b with
  |false=>
   have:(sDp (d+1) s&&(decide (a+sNp s<=64)&&decide (e+sC s<=256)))=false:=by
    rw[VL];intro hh;simp only[XW,Vq,QgE,Qfn,Qef]at hh;obtain⟨⟨X,_⟩,z2,z3⟩:=hh;cases H:zeroC s.Cond with
    |true=>rw[H]at hb;cases hb
    |false=>
     rw[H]at hb X z3;simp only[Bool.false_or]at hb X;rw[X]at hb;simp only[Vp]at z3;rw[Qw (show a+1<=64 by omega),Qw (show e+(cN s.Cond:Int)<=256 by omega)]at hb;cases hb
   rw[this];exact⟨t,Ea m (Qa _),λh=>by cases h⟩
  |true=>
   obtain rfl:=w rfl;by_cases r:64<a+1
   .have:(sDp (d+1) s&&(decide (a+sNp s<=64)&&decide (e+sC s<=256)))=false:=by
     rw[Qx (show¬a+(sNp s:Int)<=64 by rw[Qfn];omega)];simp
    rw[this];refine⟨{steps:=a+1,conds:=e+((bif zeroC s.Cond then 0 else cN s.Cond:Nat):Int)},Ea m ?_,λh=>by cases h⟩;simp only[Xg,Vp];refine Ea (v:=(_,true)) ?_ (Qa _);rw[Qw r];exact Qa _
   by_cases B:256<e+((bif zeroC s.Cond then 0 else cN s.Cond:Nat):Int)
   .have:(sDp (d+1) s&&(decide (a+sNp s<=64)&&decide (e+sC s<=256)))=false:=by
     rw[Qx (show¬e+(sC s:Int)<=256 by rw[Qef];omega)];simp
    rw[this];refine⟨{steps:=a+1,conds:=e+((bif zeroC s.Cond then 0 else cN s.Cond:Nat):Int)},Ea m ?_,λh=>by cases h⟩;simp only[Xg,Vp];refine Ea (v:=(_,true)) ?_ (Qa _);rw[Qx r,Qw B];exact Qa _
   obtain⟨G,F,E⟩:=W (stepParts s) (d+1) (a+1) (e+((bif zeroC s.Cond then 0 else cN s.Cond:Nat):Int)) (by
     unfold stepParts;rw[Qez,QbN,QbN];show _<sZ s;rw[Qfm];omega) (by unfold stepParts;simp;omega) (by
     intro g j;unfold stepParts at j;rcases VC.1 j with j|j
     .obtain⟨y,z,rfl⟩:=Xe.1 j;exact V y z
     .obtain⟨y,z,rfl⟩:=Xe.1 j;exact J y z) (by omega) (by omega) (by omega) (.inl (by omega)) (by omega) (by omega)
   have eL:okL (stepParts s) (d+1) (a+1) (e+((bif zeroC s.Cond then 0 else cN s.Cond:Nat):Int))=(sDp (d+1) s&&(decide (a+sNp s<=64)&&decide (e+sC s<=256))):=by
    rw[XY,QfY _ _ _ _ (by omega) (by omega),Qea];simp only[XW,Vq,QgE,Qfn,Qef];have M:fSs (stepParts s)=sNs s.Then+sNs s.Else:=by unfold stepParts;rw[QeB,Qa8,Qa8]
    have Y:fCs (stepParts s)=sCs s.Then+sCs s.Else:=by unfold stepParts;rw[QeD,Qa9,Qa9]
    rw[M,Y];have L:(zeroC s.Cond||cD 1 s.Cond)=true:=by
     cases H:zeroC s.Cond with
     |true=>rfl
     |false=>
      rw[H]at hb;simp only[Bool.false_or,XW]at hb;rw[hb.1];rfl
    constructor
    .rintro⟨q,h5,Q⟩;exact⟨⟨L,q⟩,by omega,by omega⟩
    .rintro⟨⟨_,q⟩,h5,Q⟩;exact⟨q,by omega,by omega⟩
   rw[eL]at F E;refine⟨G,Ea m ?_,λh=>?_⟩
   .simp only[Xg,Vp];refine Ea (v:=(G, !(sDp (d+1) s&&(decide (a+sNp s<=64)&&decide (e+sC s<=256))))) ?_ ?_
    .rw[Qx r,Qx B,ed];exact Ea (Qbo s k) (Ea F (Qa _))
    .cases(sDp (d+1) s&&(decide (a+sNp s<=64)&&decide (e+sC s<=256)))<;>exact Qa _
   .rw[E h];have M:fSs (stepParts s)=sNs s.Then+sNs s.Else:=by unfold stepParts;rw[QeB,Qa8,Qa8]
    have Y:fCs (stepParts s)=sCs s.Then+sCs s.Else:=by unfold stepParts;rw[QeD,Qa9,Qa9]
    rw[M,Y,show fS (Uj.ctyping_step {Step:=s})=sNp s from rfl,show fC (Uj.ctyping_step {Step:=s})=sC s from rfl,Qfn,Qef];congr 1<;>omega
 |ctyping_cond x=>
  obtain⟨c⟩:=x;have k:Cond.wf c:=hw;obtain⟨aa,O⟩:=Jc k;have T:i64.wrap (e+1)=e+1:=Qq (by omega) (by omega);simp only[Uj.elim,T];have P:okF (Uj.ctyping_cond {Cond:=c}) d a e=(cD (d+1) c&&(decide (a<=64)&&decide (e+cN c<=256))):=by
   show(cD (d+1) c&&(decide (a+((0:Nat):Int)<=64)&&decide (e+cN c<=256)))=_;rw[show a+((0:Nat):Int)=a by omega]
  rw[P];by_cases r:64<a
  .have:(cD (d+1) c&&(decide (a<=64)&&decide (e+cN c<=256)))=false:=by
    rw[Qx (show¬a<=64 by omega)];simp
   rw[this];refine⟨{steps:=a,conds:=e+1},?_,λh=>by cases h⟩;refine Ea (v:=(_,true)) ?_ (Qa _);rw[Qw r];exact Qa _
  by_cases B:256<e+1
  .have:(cD (d+1) c&&(decide (a<=64)&&decide (e+cN c<=256)))=false:=by
    rw[Qx (show¬e+(cN c:Int)<=256 by rw[QbS];omega)];simp
   rw[this];refine⟨{steps:=a,conds:=e+1},?_,λh=>by cases h⟩;refine Ea (v:=(_,true)) ?_ (Qa _);rw[Qx r,Qw B];exact Qa _
  obtain⟨G,F,E⟩:=W (c.Parts.map ofCond) (d+1) a (e+1) (by
    rw[QeA];show _<cN c;rw[QbS];omega) (by simp;omega) (by
    intro g j;obtain⟨y,z,rfl⟩:=Xe.1 j;exact O y z) (by omega) (by omega) (by omega) (.inl (by omega)) (by omega) (by omega)
  have eL:okL (c.Parts.map ofCond) (d+1) a (e+1)=(cD (d+1) c&&(decide (a<=64)&&decide (e+cN c<=256))):=by
   rw[XY,QfY _ _ _ _ (by omega) (by omega), <- Qg6,QeC,QeE];simp only[XW,Vq,QiV,QbS];constructor
   iterate 2 rintro⟨q,h5,Q⟩;exact⟨q,by omega,by omega⟩
  rw[eL]at F E;refine⟨G,?_,λh=>?_⟩
  .refine Ea (v:=(G, !(cD (d+1) c&&(decide (a<=64)&&decide (e+cN c<=256))))) ?_ ?_
   .rw[Qx r,Qx B,ed];exact Ea (QcO c k) (Ea F (Qa _))
   .cases(cD (d+1) c&&(decide (a<=64)&&decide (e+cN c<=256)))<;>exact Qa _
  .rw[E h,QeC,QeE,show fS (Uj.ctyping_cond {Cond:=c})=0 from rfl,show fC (Uj.ctyping_cond {Cond:=c})=cN c from rfl,QbS];congr 1;omega
theorem Qlf:∀(m:Nat) (l:List Uj) (d:Nat) (a e:Int),fZs l<=m->l.length<=2097152->(∀f∈l,fwf f)->d<=17->0<=a->a<=66->(a<=65\/ ∀f∈l,∃c,f=ofCond c)->0<=e->e<=256->Cnt F_e l d a e:=by
 intro m
 induction m using Nat.strongRecOn with
 |_ m H=>
 intro l d a e hm hl hw hd h0 h1 E V h3;unfold Cnt;have y:∀c:Uh,(∃g:Uh,Ev (λn=>B_e (F_e n) n l (d:Int) c) (g,okL l d a e)/\(okL l d a e=true->g={steps:=a+fSs l,conds:=e+fCs l}))->∃g:Uh,Ev (λn=>F_e n l (d:Int) c) (g,okL l d a e)/\(okL l d a e=true->g={steps:=a+fSs l,conds:=e+fCs l}):=by
  rintro c ⟨g,Q,W⟩;exact⟨g,Yy Q,W⟩
 refine y _ ?_;unfold B_e;cases k:l with
 |nil=>
  refine⟨{steps:=a,conds:=e},?_,λ_=>by simp[fSs,fCs]⟩;refine Ea (v:=Ctl.cont {steps:=a,conds:=e}) (EvI.ev (Ej ?_)) (Qa _);exact Qa _
 |cons f0 r0=>
 rw[<- k];have u:l.isEmpty=false:=by rw[k];rfl
 have M:0<l.length:=by rw[k];simp
 by_cases j:d<=16
 rotate_left
 .have:okL l d a e=false:=by unfold okL;rw[u,Qx j];rfl
  rw[this];refine⟨{steps:=a,conds:=e},?_,λh=>by cases h⟩;rw[Qw (show(0:Int)<(l.length:Int)by omega),Qw (show(16:Int)<(d:Int)by omega)];exact Ea (Qa _) (Qa _)
 have t:okL l d a e=okR l d a e:=by unfold okL okR;rw[Qw j,Vz]
 rw[t];have loop:∀(r:List Uj) (i:Nat) (a e:Int),l.drop i=r->i<=l.length->0<=a->a<=66->(a<=65\/ ∀f∈l,∃c,f=ofCond c)->0<=e->e<=256->
   ∃g:Uh,EvI (λn=>F_hk n l (d:Int) (F_e n)) ({steps:=a,conds:=e},(i:Int)) (bif okR r d a e then Ctl.cont g else Ctl.done (g,false))/\(okR r d a e=true->g={steps:=a+fSs r,conds:=e+fCs r}):=by
  intro r
  induction r with
  |nil=>
   intro i a e G N _ _ _ _ _;refine⟨{steps:=a,conds:=e},Ej ?_,λ_=>by simp[fSs,fCs]⟩;unfold F_hk;simp only[QJ G N,Vp];exact Qa _
  |cons f r J=>
   intro i a e G N g0 g1 F g2 g3;obtain⟨s,B⟩:=Qv (by omega) G;have aa:fZ f<=fZs l:=by
    have:∀(l:List Uj),f∈l->fZ f<=fZs l:=by
     intro l
     induction l with
     |nil=>intro h;cases h
     |cons x l H=>
      intro h;rw[Qg4];rcases X6.1 h with rfl|h
      .omega
      .have:=H h;omega
    exact this l s.mem
   obtain⟨g,q,z⟩:=Qh5 (R:=F_e) j s (hw f s.mem) (λL d' a e k1 k2 Y k4 k5 k6 w k7 T=>H (fZs L) (by omega) L d' a e (XT _) k2 Y k4 k5 k6 w k7 T) g0 g1 (F.imp id λh=>h f s.mem) g2 g3;rw[Qkz];cases p:okF f d a e with
   |false=>
    rw[p]at q;exact⟨g,Ej q,λh=>by cases h⟩
   |true=>
    rw[p]at q;obtain rfl:=z p;have hb:=by
     unfold okF at p;simp only[XW,Vq]at p;exact p.2
    obtain⟨X,O,P⟩:=J (i+1) (a+fS f) (e+fC f) B (by have:=s.lt';omega) (by omega) (by omega) (.inl (by omega)) (by omega) (by omega);refine⟨X,Ex q O,λh=>?_⟩;rw[P (by simpa using h),Qg5,Qg7];congr 1<;>omega
 obtain⟨g,q,z⟩:=loop l 0 a e rfl (XU _) h0 h1 E V h3;refine⟨g,?_,z⟩;refine Ea (v:=false) ?_ (Qs (Ea q.ev ?_))
 .rw[Qw (show(0:Int)<(l.length:Int)by omega),Qx (show¬(16:Int)<(d:Int)by omega)];exact Qa _
 .cases okR l d a e<;>exact Qa _
mutual
def vaC:Cond->Bool
 |⟨k,v,n,ps⟩=>bif k==1 then inR 1 3 v&&(inR 0 10000 n&&((ps.length:Int)==0))else
   bif k==4 then((v==0)&&(n==0))&&(((ps.length:Int)==1)&&vaCs ps)else
   bif (k==2)||(k==3)then((v==0)&&(n==0))&&((decide (0<(ps.length:Int))&&decide ((ps.length:Int)<=16))&&vaCs ps)else false
def vaCs:List Cond->Bool
 |[]=>true
 |c::r=>vaC c&&vaCs r
end
theorem Qkj(c:Cond):vaC c=bif c.Kind==1 then inR 1 3 c.Var&&(inR 0 10000 c.N&&((c.Parts.length:Int)==0))else
   bif c.Kind==4 then((c.Var==0)&&(c.N==0))&&(((c.Parts.length:Int)==1)&&vaCs c.Parts)else
   bif (c.Kind==2)||(c.Kind==3)then((c.Var==0)&&(c.N==0))&&((decide (0<(c.Parts.length:Int))&&decide ((c.Parts.length:Int)<=16))&&vaCs c.Parts)else false:=by cases c;rfl
theorem QfR:∀l:List Cond,vaCs l=l.all vaC
 |[]=>rfl
 |c::r=>by rw[vaCs,List.all_cons,QfR r]
mutual
def vaS:Step->Bool
 |⟨k,b,c,t,e⟩=>bif k==1 then inR 1 5 b&&(zeroC c&&(((t.length:Int)==0)&&((e.length:Int)==0)))else
   bif k==2 then(b==0)&&(vaC c&&(decide (0<(t.length:Int))&&(vaSs t&&vaSs e)))else false
def vaSs:List Step->Bool
 |[]=>true
 |s::r=>vaS s&&vaSs r
end
theorem Qki(s:Step):vaS s=bif s.Kind==1 then inR 1 5 s.By&&(zeroC s.Cond&&(((s.Then.length:Int)==0)&&((s.Else.length:Int)==0)))else
   bif s.Kind==2 then(s.By==0)&&(vaC s.Cond&&(decide (0<(s.Then.length:Int))&&(vaSs s.Then&&vaSs s.Else)))else false:=by cases s;rfl
theorem QfQ:∀l:List Step,vaSs l=l.all vaS
 |[]=>rfl
 |c::r=>by rw[vaSs,List.all_cons,QfQ r]
def fV:Uj->Bool
 |.ctyping_step x=>vaS x.Step
 |.ctyping_cond x=>vaC x.Cond
theorem Qib(l:List Cond):(l.map ofCond).any (λf=> !fV f)= !vaCs l:=by
 rw[QfR,List.not_all_eq_any_not,List.any_map];rfl
theorem Qcu(l:List Step):(l.map ofStep).any (λf=> !fV f)= !vaSs l:=by
 rw[QfQ,List.not_all_eq_any_not,List.any_map];rfl
theorem QfC{R:Nat->List Uj->Option Bool}(c:Cond)(i:Cond.wf c)(h:Ev (λn=>R n (c.Parts.map ofCond)) (!vaCs c.Parts)):
  Ev (λn=>F_ha (R n) n {Cond:=c}) (vaC c):=by
 rw[Qkj];refine Ea (Ei λ_=>Qa _) (Qah (λ_=>?_) (λk=>?_))
 .exact Ea (Ea (QH _ _ _) (Ei λ_=>Ea (QH _ _ _) (Ei λ_=>Qa _))) (Qa _)
 .have fin:∀b,Ev (λn=>(bif b then(F_af n {Cond:=c}).bind λf=>(R n f).bind λa=>some (!a)else some false).bind λd=>some d) (b&&vaCs c.Parts):=by
   intro b;refine Ea ((Ei λ_=>Ea (QcO c i) (Ea h (Qa _)))) ((Qa _).eq (by simp))
  cases l:(c.Kind==4)with
  |true=>
   cases j:((c.Var==0)&&(c.N==0))with
   |true=>
    grind
   |false=>
    simp_all
  |false=>
   cases g:((c.Kind==2)||(c.Kind==3))with
   |true=>
    have e:Ev (λn=>(bif (c.Kind==2)then some (c.Kind==2)else some (c.Kind==3))) true:=by
     refine EA ?_
     grind
    cases j:((c.Var==0)&&(c.N==0))with
    |true=>
     grind
    |false=>
     refine Ea (Ea e (Qa _)) ((fin _).eq (by simp))
   |false=>
    have e:Ev (λn=>(bif (c.Kind==2)then some (c.Kind==2)else some (c.Kind==3))) false:=by
     refine EA ?_
     grind
    grind
theorem QhZ:∀(m:Nat) (l:List Uj),fZs l<=m->l.length<=2097152->(∀f∈l,fwf f)->Ev (λn=>F_aa n l) (l.any λf=> !fV f):=by
 intro m
 induction m using Nat.strongRecOn with
 |_ m q=>
 intro l H G u;refine Yy ?_;show Ev (λn=>B_aa (F_aa n) n l) _;refine Ev.contains l _ (λn f=>F_ht (F_aa n) n f) (by omega) λf r=>?_;have w:fZ f<=fZs l:=by
  have:∀(l:List Uj),f∈l->fZ f<=fZs l:=by
   intro l
   induction l with
   |nil=>simp
   |cons x l q=>
    intro h;rw[Qg4]
    grind
  grind
 refine Ea (v:=fV f) ?_ (Qa _);have a:∀c:Cond,Cond.wf c->cNs c.Parts<fZ f->Ev (λn=>F_aa n (c.Parts.map ofCond)) (!vaCs c.Parts):=by
  intro c j i;rw[<- Qib];obtain⟨L,B⟩:=Jc j;refine q (fZs (c.Parts.map ofCond)) (by rw[QeA];omega) _ (XT _) (by simp;omega) ?_;intro g d;obtain⟨y,e,rfl⟩:=Xe.1 d;exact B y e
 cases f with
 |ctyping_cond x=>
  obtain⟨c⟩:=x;have j:Cond.wf c:=u _ r;exact QfC c j (a c j (by show cNs c.Parts<cN c;rw[QbS];omega))
 |ctyping_step x=>
  obtain⟨s⟩:=x;have i:Step.wf s:=u _ r;obtain⟨t,⟨E,p⟩,⟨z,k⟩⟩:=Ja i;show Ev _ (vaS s);rw[Qki];refine Qah (λ_=>?_) (λJ=>Qah (λ_=>?_) λ_=>Qa _)
  .refine Ea (Ea (QH _ _ _) (Ei λ_=>?_)) (Qa _);simp only[QfD];refine Ei λ_=>Ea (Qbo s i) ((Qa _).eq ?_);unfold stepParts;rw[XY];simp only[Vx,XW,X3,X2];omega
  .refine Ea (Ei λ_=>?_) (Qa _);refine Ea (QfC s.Cond t (a s.Cond t (by show _<sZ s;rw[Qfm,QbS];omega))) (Ei λ_=>Ei λ_=>?_);refine Ea (Qbo s i) (Ea (q (fZs (stepParts s)) ?_ _ (XT _) (by unfold stepParts;simp;omega) ?_) ((Qa _).eq ?_))
   .have:fZs (stepParts s)<sZ s:=by
     unfold stepParts;rw[Qez,QbN,QbN,Qfm];omega
    have F:fZ (Uj.ctyping_step {Step:=s})=sZ s:=rfl;omega
   .intro g d;rcases VC.1 d with d|d
    .obtain⟨y,e,rfl⟩:=Xe.1 d;exact p y e
    .obtain⟨y,e,rfl⟩:=Xe.1 d;exact k y e
   .unfold stepParts;rw[List.any_append,Qcu,Qcu];simp
def goodT(l:List Step):Bool:=sDs 0 l&&(decide (sNs l<=64)&&decide (sCs l<=256))
def tiesE(l:List Step):Int:=bif goodT l then(bif l.isEmpty|| !vaSs l then 71 else 0)else 2
theorem QkA(l:List Step):okL (l.map ofStep) 0 0 0=goodT l:=by
 rw[XY,QfY _ _ _ _ (by omega) (by omega), <- QcM,Qa8,Qa9];unfold goodT
 grind
theorem QmD(l:List Step)(p:l.length<=1048576)(i:∀x∈l,Step.wf x):Ev (λn=>F_hn n l) (tiesE l):=by
 refine Ea (QeG l (by omega)) (Ea ?_ (Qa _));have a:∀f∈l.map ofStep,fwf f:=by
  intro g j;obtain⟨y,h,rfl⟩:=Xe.1 j;exact i y h
 obtain⟨k,d,m⟩:=Qlf _ (l.map ofStep) 0 0 0 (XT _) (by simp;omega) a (by omega) (by omega) (by omega) (.inl (by omega)) (by omega) (by omega);rw[QkA]at d;have p3:=d.shift;refine Ea p3 ?_;unfold tiesE;cases goodT l with
 |false=>exact Qa _
 |true=>
  have e:(((l.map ofStep).length:Int)==0)=l.isEmpty:=by
   cases l<;>simp;omega
  rw[e];refine Ea (Qh λ_=>Ea (QhZ _ _ (XT _) (by simp;omega) a) (Qa _)) ?_
  grind[Qcu,Qa]
def condB(d:Nat):Int:=256*(18-(d:Int))+1000
theorem Qcf:∀(m:Nat) (c:Cond) (d:Nat),cN c<=m->d<=17->Cond.wf c->∃v:Int,Ev (λn=>F_j n c (d:Int)) v/\0<=v/\v<=condB d/\
  (d<=16/\cD (d+1) c=true/\cN c<=256->v=cN c)/\(¬(d<=16/\cD (d+1) c=true/\cN c<=256)->256<v):=by
 intro m
 induction m using Nat.strongRecOn with
 |_ m E=>
 intro c d hm hd hw;obtain⟨W,s⟩:=Jc hw;have t:∀{P:Int->Prop},(∃v:Int,Ev (λn=>B_j (F_j n) n c (d:Int)) v/\P v)->∃v:Int,Ev (λn=>F_j n c (d:Int)) v/\P v:=by
  rintro P ⟨v,j,e⟩;exact⟨v,Yy j,e⟩
 refine t ?_;unfold B_j;by_cases q:d<=16
 .rw[Qx (show¬(16:Int)<(d:Int)by omega)];have ed:i64.wrap ((d:Int)+1)=((d+1:Nat):Int):=QO (by omega);have loop:∀(r:List Cond) (i:Nat) (a:Int),c.Parts.drop i=r->i<=c.Parts.length->0<=a->a<=condB d->
    ∃v:Int,EvI (λn=>F_gn n c (d:Int) (F_j n)) (a,(i:Int)) v/\0<=v/\v<=condB d/\
     (cDs (d+1) r=true/\a+cNs r<=256->v=a+cNs r)/\(¬(cDs (d+1) r=true/\a+cNs r<=256)->256<v):=by
   intro r
   induction r with
   |nil=>
    intro i a B O G j;refine⟨a,Ej ?_,G,j,λ_=>by simp[cNs],λh=>?_⟩
    .unfold F_gn;simp only[QJ B O,Vp,XJ];exact Qa _
    .simp[cDs,cNs]at h;omega
   |cons x r F=>
    intro i a B O G j;obtain⟨g,z⟩:=Qv (by omega) B;have hx:cN x<cN c:=by
     have:∀l:List Cond,x∈l->cN x<=cNs l:=by
      intro l
      induction l with
      |nil=>intro h;cases h
      |cons y l E=>
       intro h;rw[cNs];rcases X6.1 h with rfl|h
       .omega
       .have:=E h;omega
     have:=this _ g.mem;rw[QbS c];omega
    by_cases f:a<=256
    .obtain⟨v,u,N,J,k,M⟩:=E (cN x) (by omega) x (d+1) (XT _) (by omega) (s x g.mem);have hB:condB (d+1)+256=condB d:=by unfold condB;omega
     have Q:condB d<=6000:=by unfold condB;omega
     have e1:i64.wrap (a+v)=a+v:=Qq (by omega) (by omega);obtain⟨w,T,V,Y,X,L⟩:=F (i+1) (a+v) z (by have:=g.lt';omega) (by omega) (by omega);refine⟨w,Ex ?_ T,V,Y,?_,?_⟩
     .unfold F_gn;simp only[g.lt,Vo,Qw f,XJ,g.ix,g.nx,ed];refine Ea u ?_;rw[e1];exact Qa _
     .rintro⟨e,H⟩;simp only[cDs,XW,Vq]at e;rw[cNs]at H⊢;have:=k ⟨e.1,e.2.1,by omega⟩;subst this;rw[X ⟨e.2.2,by omega⟩];omega
     .intro R;by_cases p:d+1<=16/\cD (d+1+1) x=true/\cN x<=256
      .have:=k p;subst this;refine L λe=>R ⟨?_,?_⟩
       .simp only[cDs,XW,Vq];exact⟨p.1,p.2.1,e.1⟩
       .rw[cNs];omega
      .have:=M p;exact L λe=>by omega
    .refine⟨a,Ej ?_,G,j,λh=>?_,λ_=>by omega⟩
     .unfold F_gn;simp only[g.lt,Vo,Qx f,XJ,Vp];exact Qa _
     .omega
  obtain⟨v,u,N,J,k,M⟩:=loop c.Parts 0 1 rfl (XU _) (by omega) (by unfold condB;omega);refine⟨v,Qs (Ea u.ev (Qa _)),N,J,?_,?_⟩
  .rintro⟨_,e,H⟩;rw[QiV]at e;rw[QbS]at H⊢;rw[k ⟨e,by omega⟩];omega
  grind[QiV,QbS]
 .rw[Qw (show(16:Int)<(d:Int)by omega)];refine⟨1000,Qaq (Qa _),by omega,by unfold condB;omega,λh=>absurd h.1 q,λ_=>by omega⟩
def sizeB:Nat->Int
 |0=>10000
 |k+1=>3*sizeB k
theorem Qcz:∀k,10000<=sizeB k
 |0=>Int.le_refl _
 |k+1=>by have:=Qcz k;simp[sizeB];omega
theorem Qks{k:Nat}(h:k<=17):sizeB k<=1291401630000:=by
 have:∀j,j<=17->sizeB j<=1291401630000:=by decide+kernel
 grind
def goodL(d:Nat)(l:List Step):Prop:=sDs d l=true/\sNs l<=64/\sCs l<=256
theorem QiJ:∀(m:Nat) (l:List Step) (d:Nat),sZs l<=m->d<=17->l.length<=1048576->(∀x∈l,Step.wf x)->∃a b:Int,Ev (λn=>F_m n l (d:Int)) (a,b)/\0<=a/\0<=b/\a<=sizeB (17-d)/\b<=sizeB (17-d)/\
  (goodL d l->a=sNs l/\b=sCs l)/\(¬goodL d l->64<a\/256<b):=by
 intro m
 induction m using Nat.strongRecOn with
 |_ m F=>
 intro l d hm hd hl hw;have R:∀{P:Int->Int->Prop},(∃a b:Int,Ev (λn=>B_m (F_m n) n l (d:Int)) (a,b)/\P a b)->∃a b:Int,Ev (λn=>F_m n l (d:Int)) (a,b)/\P a b:=by
  rintro P ⟨a,b,u,p⟩;exact⟨a,b,Yy u,p⟩
 refine R ?_;unfold B_m;by_cases B:0<l.length/\ ¬d<=16
 .rw[Qw (show(0:Int)<(l.length:Int)by omega),Qw (show(16:Int)<(d:Int)by omega)];have:=Qcz (17-d);refine⟨1000,1000,Ea (Qa _) (Qaq (Qa _)),by omega,by omega,by omega,by omega,λh=>?_,λ_=>by omega⟩;exfalso;cases l with
  |nil=>simp at B
  |cons x r=>
   have:=h.1;simp only[sDs,XW,Vq]at this;omega
 .have w:Ev (λn:Nat=>((bif decide (0<(l.length:Int))then some (decide (16<(d:Int)))else some false):Option Bool)) false:=by
   grind[Qa]
  have ed:i64.wrap ((d:Int)+1)=((d+1:Nat):Int):=QO (by omega);have loop:∀(r:List Step) (i:Nat) (a b:Int),l.drop i=r->i<=l.length->0<=a->0<=b->a<=sizeB (17-d)->b<=sizeB (17-d)->
    ∃a' b':Int,EvI (λn=>F_gi n l (d:Int) (F_m n)) (a,b,(i:Int)) (a',b')/\0<=a'/\0<=b'/\a'<=sizeB (17-d)/\b'<=sizeB (17-d)/\
     (sDs d r=true/\a+sNs r<=64/\b+sCs r<=256->a'=a+sNs r/\b'=b+sCs r)/\(¬(sDs d r=true/\a+sNs r<=64/\b+sCs r<=256)->64<a'\/256<b'):=by
   intro r
   induction r with
   |nil=>
    intro i a b hr hi w u p h3;refine⟨a,b,Ej ?_,w,u,p,h3,λ_=>by simp[sNs,sCs],λh=>?_⟩
    .unfold F_gi;simp only[QJ hr hi,Vp,XJ];exact Qa _
    .simp[sDs,sNs,sCs]at h;omega
   |cons s r W=>
    intro i a b hr hi w u p h3;obtain⟨g,aa⟩:=Qv (by omega) hr;have ai:=g.lt';have t:d<=16:=by
     omega
    have af:sZ s<=sZs l:=by
     have:∀l:List Step,s∈l->sZ s<=sZs l:=by
      intro l
      induction l with
      |nil=>intro h;cases h
      |cons y l F=>
       intro h;rw[sZs];rcases X6.1 h with rfl|h
       .omega
       .have:=F h;omega
     exact this _ g.mem
    by_cases e:a<=64/\b<=256
    .obtain⟨wc,⟨ab,L⟩,⟨T,X⟩⟩:=Ja (hw s g.mem);have ah:=Qfm s;obtain⟨j,f,p1,p2,p3,p4,p5,E,p7⟩:=F (sZs s.Then) (by omega) s.Then (d+1) (XT _) (by omega) ab L;obtain⟨y1,y2,q1,q2,q3,q4,q5,q6,q7⟩:=F (sZs s.Else) (by omega) s.Else (d+1) (XT _) (by omega) T X;have hB:sizeB (17-d)=3*sizeB (17-(d+1)):=by
      rw[show 17-d=(17-(d+1))+1 by omega];rfl
     have N:=Qcz (17-(d+1));have ae:=Qks (k:=17-d) (by omega);have hc:∃z:Int,0<=z/\z<=5608/\Ev (λn=>((bif (!zeroC s.Cond)then(idx l (i:Int)).bind λad=>(F_j n ad.Cond 0).bind λH=>some (i64.wrap ((i64.wrap ((i64.wrap (b+f))+y2))+H))else some (i64.wrap ((i64.wrap (b+f))+y2))):Option Int)) (b+f+y2+z)/\
       ((zeroC s.Cond||cD 1 s.Cond)=true/\(bif zeroC s.Cond then 0 else cN s.Cond)<=256->z=((bif zeroC s.Cond then 0 else cN s.Cond:Nat):Int))/\(¬((zeroC s.Cond||cD 1 s.Cond)=true/\(bif zeroC s.Cond then 0 else cN s.Cond)<=256)->256<z):=by
      have e1:i64.wrap (b+f)=b+f:=Qq (by omega) (by omega);have e2:i64.wrap (b+f+y2)=b+f+y2:=Qq (by omega) (by omega);cases hz:zeroC s.Cond with
      |true=>
       refine⟨0,by omega,by omega,?_,λ_=>by simp,λh=>absurd ⟨rfl,by simp⟩ h⟩;simp only[Xg,Vp,e1,e2];exact(Qa _).eq (by omega)
      |false=>
       obtain⟨v,u1,u2,u3,u4,u5⟩:=Qcf _ s.Cond 0 (XT _) (by omega) wc;have V:v<=5608:=by unfold condB at u3;omega
       have e3:i64.wrap (b+f+y2+v)=b+f+y2+v:=Qq (by omega) (by omega);refine⟨v,u2,V,?_,λh=>?_,λh=>?_⟩
       .simp only[Xh,Vo,g.ix,XJ,e1,e2];refine Ea u1 ?_;rw[e3];exact Qa _
       .simp only[Bool.false_or,Vp]at h⊢;exact u4 ⟨by omega,h.1,h.2⟩
       .simp only[Bool.false_or,Vp]at h;exact u5 λq=>h ⟨q.2.1,q.2.2⟩
     obtain⟨z,z0,z1,z2,z3,z4⟩:=hc;have e4:i64.wrap (a+1)=a+1:=Qq (by omega) (by omega);have e5:i64.wrap (a+1+j)=a+1+j:=Qq (by omega) (by omega);have e6:i64.wrap (a+1+j+y1)=a+1+j+y1:=Qq (by omega) (by omega);obtain⟨w1,w2,v1,v2,v3,v4,v5,v6,G⟩:=W (i+1) (a+1+j+y1) (b+f+y2+z) aa (by omega) (by omega) (by omega) (by omega) (by omega);refine⟨w1,w2,Ex ?_ v1,v2,v3,v4,v5,?_,?_⟩
     .unfold F_gi;simp only[g.lt,Vo,Qw e.1,Qw e.2,XJ,g.ix,g.nx,ed,QeJ];refine Ea p1 (Ea q1 ?_);simp only[g.ix,XJ]at z2;refine Ea z2 ?_;rw[e4,e5,e6];exact Qa _
     .rintro⟨g1,g2,g3⟩;simp only[sDs,XW,Vq,QgE]at g1;obtain⟨ag,⟨M,ac,O⟩,J⟩:=g1;rw[sNs,Qfn]at g2⊢;rw[sCs,Qef]at g3⊢;obtain⟨k1,k2⟩:=E ⟨ac,by omega,by omega⟩;obtain⟨k3,k4⟩:=q6 ⟨O,by omega,by omega⟩;have k5:=z3 ⟨M,by omega⟩;obtain⟨k6,k7⟩:=v6 ⟨J,by omega,by omega⟩;constructor<;>omega
     .intro hn;by_cases Y:goodL (d+1) s.Then
      .obtain⟨k1,k2⟩:=E Y;by_cases Q:goodL (d+1) s.Else
       .obtain⟨k3,k4⟩:=q6 Q;by_cases b3:(zeroC s.Cond||cD 1 s.Cond)=true/\(bif zeroC s.Cond then 0 else cN s.Cond)<=256
        .have k5:=z3 b3;refine G λq=>hn ⟨?_,?_,?_⟩
         .simp only[sDs,XW,Vq,QgE];exact⟨t,⟨b3.1,Y.1,Q.1⟩,q.1⟩
         .rw[sNs,Qfn];omega
         .rw[sCs,Qef];omega
        .have:=z4 b3;exact G λq=>by omega
       .have:=q7 Q;exact G λq=>by omega
      .have:=p7 Y;exact G λq=>by omega
    .refine⟨a,b,Ej ?_,w,u,p,h3,λh=>?_,λ_=>?_⟩
     .unfold F_gi;have:Ev (λn:Nat=>((bif decide ((i:Int)<(l.length:Int))then(bif decide (a<=64)then some (decide (b<=256))else some false)else some false):Option Bool)) false:=by
       rw[g.lt];by_cases q:a<=64
       .rw[Qw q,Qx (show¬b<=256 from λz=>e ⟨q,z⟩)];exact Qa _
       .rw[Qx q];exact Qa _
      exact Ea this (Qs (Qa _))
     iterate 2 omega
  have N:=Qcz (17-d);obtain⟨a,b,p1,p2,p3,p4,p5,E,p7⟩:=loop l 0 0 0 rfl (XU _) (by omega) (by omega) (by omega) (by omega);refine⟨a,b,Ea w (Qs (Ea p1.ev (Qa _))),p2,p3,p4,p5,λh=>?_,λh=>?_⟩
  .obtain⟨k1,k2⟩:=E ⟨h.1,by have:=h.2.1;omega,by have:=h.2.2;omega⟩;constructor<;>omega
  .exact p7 λq=>h ⟨q.1,by omega,by omega⟩
theorem Qhc:∀(m:Nat) (c:Cond),cN c<=m->Cond.wf c->Ev (λn=>F_x n c) (vaC c):=by
 intro m
 induction m using Nat.strongRecOn with
 |_ m q=>
 intro c w s;obtain⟨u,g⟩:=Jc s;refine Yy ?_;show Ev (λn=>B_x (F_x n) n c) _;rw[Qkj];have k:∀x∈c.Parts,cN x<cN c:=by
  intro x k;have:∀l:List Cond,x∈l->cN x<=cNs l:=by
   intro l
   induction l with
   |nil=>simp
   |cons y l q=>
    intro h;rw[cNs]
    grind
  have:=this _ k;rw[QbS c];omega
 have loop:Ev (λn=>iter (F_fg n c (F_x n)) n 0) (bif c.Parts.all vaC then Ctl.cont ()else Ctl.done false):=by
  refine Q9 c.Parts vaC _ _ (by omega) (λi x a=>?_) ?_
  .unfold F_fg;simp only[a.lt,Vo,a.ix,XJ,a.nx];refine Ea (q (cN x) (by have:=k x a.mem;omega) x (XT _) (g x a.mem)) ?_;cases vaC x<;>exact Qa _
  simp_all[F_fg,Qa]
 have fin:Ev (λn=>((bif (c.Var != 0)then some true else some (c.N != 0)):Option Bool).bind λf=>(bif f then some false else(iter (F_fg n c (F_x n)) n 0).bind λj=>match j with|.cont sb48=>(some true)|.done sb48=>some sb48)) (((c.Var==0)&&(c.N==0))&&vaCs c.Parts):=by
  refine Ea (v:= !((c.Var==0)&&(c.N==0))) (EA ?_) ?_
  .grind
  .cases((c.Var==0)&&(c.N==0))with
   |false=>exact Qa _
   |true=>
    refine Qs (Ea loop ?_)
    grind[QfR,Qa]
 refine Qah (λ_=>?_) (λz=>?_)
 .refine Ea (v:=_) ((Ei λ_=>Ei λ_=>Ei λ_=>Ei λ_=>Qa _).eq ?_) (Qa _);unfold inR
  grind
 .have e:Ev (λn:Nat=>((bif (c.Kind==2)then some (c.Kind==2)else some (c.Kind==3)):Option Bool)) ((c.Kind==2)||(c.Kind==3)):=EA (by rw[Qlx]);refine Ea e ?_;cases d:((c.Kind==2)||(c.Kind==3))with
  |true=>
   have r:(c.Kind==4)=false:=by
    rw[VL];simp only[Bool.or_eq_true,Vx]at d;simp only[Vx,ne_eq];omega
   rw[r];have t:(bif decide ((c.Parts.length:Int)<1)then some true else some (decide (16<(c.Parts.length:Int))))=some (!(decide (0<(c.Parts.length:Int))&&decide ((c.Parts.length:Int)<=16))):=by
    rw[QiW];congr 1;rw[XY];simp only[Bool.or_eq_true,Vq,Bool.not_eq_true',Bool.and_eq_false_iff,decide_eq_false_iff_not];omega
   rw[t];cases p:(decide (0<(c.Parts.length:Int))&&decide ((c.Parts.length:Int)<=16))with
   |false=>
    refine Ea (Qa _) ((Qa _).eq (by simp))
   |true=>
    refine Ea (Qa _) (fin.eq (by simp))
  |false=>
   simp only[Vp];cases r:(c.Kind==4)with
   |true=>
    simp only[Vo];cases p:((c.Parts.length:Int)==1)with
    |false=>
     refine Ea (v:=Ctl.done false) (EA ?_) ((Qa _).eq (by simp));simp only[bne,p,Xh,Vo]
    |true=>
     refine Ea (v:=Ctl.cont ()) (EA ?_) (fin.eq (by simp));simp only[bne,p,Xg,Vp]
   |false=>
    refine Ea (Qa _) (Qa _)
theorem QhV(c:Cond)(a:Cond.wf c)(g:cD 1 c=true)(f:cN c<=256):Ev (λn=>F_eb n c) (bif vaC c then 0 else 71):=by
 obtain⟨v,d,_,_,e,_⟩:=Qcf _ c 0 (XT _) (by omega) a;have:=e ⟨by omega,g,f⟩;refine Ea d ?_;rw[Qx (show¬256<v by omega)];refine Qs (Ea (Qhc _ c (XT _) a) ?_);cases vaC c<;>exact Qa _
theorem Qi7{c:Cond}(h:zeroC c=true):cD 1 c=true/\cN c<=256:=by
 unfold zeroC at h;simp only[XW,Vx]at h;have:c.Parts=[]:=(by simp_all);rw[QiV,QbS,this];exact⟨rfl,by simp[cNs]⟩
theorem Qha:∀(m:Nat) (l:List Step) (d:Nat),sZs l<=m->l.length<=1048576->(∀x∈l,Step.wf x)->sDs d l=true->sCs l<=256->Ev (λn=>F_f n l) (vaSs l):=by
 intro m
 induction m using Nat.strongRecOn with
 |_ m z=>
 intro l d hm Y V G hc;refine Yy ?_;show Ev (λn=>B_f (F_f n) n l) _;unfold B_f;have j:∀s∈l,sZ s<=sZs l/\sDp (d+1) s=true/\sC s<=sCs l:=by
  intro s;have:∀l:List Step,s∈l->sDs d l=true->sZ s<=sZs l/\sDp (d+1) s=true/\sC s<=sCs l:=by
   intro l
   induction l with
   |nil=>simp
   |cons y l z=>
    intro h G;simp only[sDs,XW]at G;rw[sZs,sCs]
    grind
  grind
 rw[QfQ];have loop:Ev (λn=>iter (F_jc n l (F_f n)) n 0) (bif l.all vaS then Ctl.cont ()else Ctl.done false):=by
  refine Q9 l vaS _ _ (by omega) (λi s k=>?_) ?_
  .obtain⟨m1,E,m3⟩:=j s k.mem;obtain⟨P,⟨B,w⟩,⟨u,t⟩⟩:=Ja (V s k.mem);have L:=Qfm s;have q:=Qef s;rw[QgE]at E;simp only[XW]at E;obtain⟨F,N,R⟩:=E;have g:cD 1 s.Cond=true/\cN s.Cond<=256:=by
    cases H:zeroC s.Cond with
    |true=>exact Qi7 H
    |false=>
     rw[H]at F q;simp only[Vp]at q;exact⟨by simpa using F,by omega⟩
   unfold F_jc;simp only[k.lt,Vo,k.ix,XJ,k.nx,QeJ];rw[Qki];cases h1:(s.Kind==1)with
   |true=>
    simp only[Vo];have e:Ev (λn:Nat=>((bif decide (s.By<1)then some true else(bif decide (5<s.By)then some true else(bif (!zeroC s.Cond)then some true else(bif ((s.Then.length:Int) != 0)then some true else some ((s.Else.length:Int) != 0))))):Option Bool)) (!(inR 1 5 s.By&&(zeroC s.Cond&&(((s.Then.length:Int)==0)&&((s.Else.length:Int)==0))))):=by
     refine(Qh λ_=>Qh λ_=>Qh λ_=>Qh λ_=>Qa _).eq ?_;unfold inR;cases zeroC s.Cond with
     |false=>simp
     |true=>
      rw[XY];simp only[Bool.or_eq_true,Vq,Bool.not_eq_true',Bool.and_eq_false_iff,decide_eq_false_iff_not,bne_iff_ne,ne_eq,Vy,Xg,Vz,Xi,false_or];omega
    cases r:(inR 1 5 s.By&&(zeroC s.Cond&&(((s.Then.length:Int)==0)&&((s.Else.length:Int)==0))))with
    |true=>rw[r]at e;exact Ea (Ea e (Qa _)) (Qa _)
    |false=>rw[r]at e;exact Ea (Ea e (Qa _)) (Qa _)
   |false=>
    simp only[Vp];cases X:(s.Kind==2)with
    |true=>
     simp only[Vo];have e:Ev (λn=>((bif (s.By != 0)then some true else(F_eb n s.Cond).bind λp=>(bif (p != 0)then some true else(bif ((s.Then.length:Int)==0)then some true else(F_f n s.Then).bind λf=>(bif (!f)then some true else(F_f n s.Else).bind λa=>some (!a))))):Option Bool)) (!((s.By==0)&&(vaC s.Cond&&(decide (0<(s.Then.length:Int))&&(vaSs s.Then&&vaSs s.Else))))):=by
      have W:=z (sZs s.Then) (by omega) s.Then (d+1) (XT _) B w N (by omega);have Q:=z (sZs s.Else) (by omega) s.Else (d+1) (XT _) u t R (by omega);have J:Ev (λn=>(F_f n s.Else).bind λa=>some (!a)) (!vaSs s.Else):=Ea Q (Qa _);have O:Ev (λn=>(F_f n s.Then).bind λf=>(bif (!f)then some true else(F_f n s.Else).bind λa=>some (!a))) (!vaSs s.Then|| !vaSs s.Else):=Ea W (Qh λ_=>J);refine(Qh λ_=>Ea (QhV s.Cond P g.1 g.2) (Qh λ_=>Qh λ_=>O)).eq ?_;have T:((bif vaC s.Cond then(0:Int)else 71) != 0)= !vaC s.Cond:=by cases vaC s.Cond<;>rfl
      have M:((s.Then.length:Int)==0)= !decide (0<(s.Then.length:Int)):=by
       rw[XY];simp
      rw[T,M];simp only[Bool.not_and,bne]
     cases r:((s.By==0)&&(vaC s.Cond&&(decide (0<(s.Then.length:Int))&&(vaSs s.Then&&vaSs s.Else))))with
     |true=>rw[r]at e;exact Ea (Ea e (Qa _)) (Qa _)
     |false=>rw[r]at e;exact Ea (Ea e (Qa _)) (Qa _)
    |false=>exact Ea (Qa _) (Qa _)
  simp_all[F_jc,Qa]
 refine Ea loop ?_;cases l.all vaS<;>exact Qa _
theorem QhU(l:List Step)(g:l.length<=1048576)(i:∀x∈l,Step.wf x):Ev (λn=>F_fe n l) (tiesE l):=by
 obtain⟨a,b,m,s,u,_,_,r,k⟩:=QiJ _ l 0 (XT _) (by omega) g i;refine Ea m ?_;have j:goodT l=true↔goodL 0 l:=by
  unfold goodT goodL;simp
 unfold tiesE;cases f:goodT l with
 |false=>
  have:=k (λh=>by grind);have e:(bif decide (64<a)then some true else some (decide (256<b)))=some true:=by
   grind
  exact Ea (EA e) (Qa _)
 |true=>
  have d:=j.1 f;obtain⟨t,y⟩:=r d;have w:=d.2.1;have q:=d.2.2;have e:(bif decide (64<a)then some true else some (decide (256<b)))=some false:=by
   grind
  refine Ea (EA e) (Qs ?_);have p:((l.length:Int)==0)=l.isEmpty:=by
   cases l<;>simp;omega
  rw[p];refine Ea (Qh λ_=>Ea (Qha _ l 0 (XT _) g i d.1 q) (Qa _)) ?_
  grind[Qa]
mutual
def hP:Part->Nat
 |⟨_,_,ps⟩=>bif ps.isEmpty then 0 else 1+hPs ps
def hPs:List Part->Nat
 |[]=>0
 |p::r=>max (hP p) (hPs r)
end
theorem QmY(p:Part):hP p=bif p.Parts.isEmpty then 0 else 1+hPs p.Parts:=by cases p;rfl
theorem QiE{p:Part}:∀{l:List Part},p∈l->hP p<=hPs l
 |q::r,h=>by
  simp[hPs];rcases X6.1 h with rfl|h
  .omega
  .have:=QiE h;omega
theorem QgP{α:Type}(l:List α):((l.length:Int)==0)=l.isEmpty:=by
 cases l<;>simp;omega
theorem QaJ:∀l:List Part,l.length<=szPs l
 |[]=>XT _
 |p::r=>by have:=QaJ r;rw[szPs,YG,X0];omega
theorem QdC:∀(m:Nat) (l:List Part) (k:Nat),szPs l<=m->k<=17->l.length<=1048576->(∀x∈l,Part.wf x)->Ev (λn=>F_l n l (k:Int)) ((min (hPs l) k:Nat):Int):=by
 intro m
 induction m using Nat.strongRecOn with
 |_ m t=>
 intro l k E H F u;refine Yy ?_;show Ev (λn=>B_l (F_l n) n l (k:Int)) _;unfold B_l;have loop:∀(r:List Part) (i:Nat) (a:Nat),l.drop i=r->i<=l.length->a<=k->EvI (λn=>F_er n l (k:Int) (F_l n)) ((a:Int),(i:Int)) ((max a (min (hPs r) k):Nat):Int):=by
  intro r
  induction r with
  |nil=>
   intro i a e h d;refine Ej ?_;unfold F_er;simp only[QJ e h,Vp,XJ];refine(Qa _).eq ?_;simp[hPs]
  |cons p r f=>
   intro i a e h q;obtain⟨d,g⟩:=Qv (by omega) e;obtain⟨y,B⟩:=Yc (u p d.mem);by_cases s:0<k
   .have j:i64.wrap ((k:Int)-1)=((k-1:Nat):Int):=by rw[Qq (by omega) (by omega)];omega
    have z:=YU d.mem;rw[YG]at z;have step:Ev (λn=>F_er n l (k:Int) (F_l n) ((a:Int),(i:Int))) (.cont (((max a (min (hP p) k):Nat):Int),((i+1:Nat):Int))):=by
     unfold F_er;simp only[d.lt,Vo,Qw (show(0:Int)<(k:Int)by omega),XJ,d.ix,d.nx,j,bne,QgP];rw[QmY];cases G:p.Parts.isEmpty with
     |true=>
      simp_all[Qa]
     |false=>
      simp only[Xh,Vo,Vp];refine Ea (Ea (t (szPs p.Parts) (by omega) p.Parts (k-1) (XT _) (by omega) y B) (Qa _)) ((Qa _).eq ?_);have w:i64.wrap (1+((min (hPs p.Parts) (k-1):Nat):Int))=((1+min (hPs p.Parts) (k-1):Nat):Int):=by rw[Qq (by omega) (by omega)];omega
      rw[w];congr 2;split<;>omega
    refine(Ex step (f (i+1) _ g (by have:=d.lt';omega) (by omega))).eq ?_;rw[hPs];omega
   simp_all[Ej,F_er,Qa]
 refine Ea ((loop l 0 0 rfl (XU _) (XU _)).ev) ((Qa _).eq ?_);omega
theorem QdD:∀(m:Nat) (l:List Part),szPs l<=m->l.length<=1048576->(∀x∈l,Part.wf x)->Ev (λn=>F_s n l) ((min (szPs l) 257:Nat):Int):=by
 intro m
 induction m using Nat.strongRecOn with
 |_ m t=>
 intro l F u w;refine Yy ?_;show Ev (λn=>B_s (F_s n) n l) _;have loop:∀(r:List Part) (i:Nat) (a:Nat),l.drop i=r->i<=l.length->a<=1048576->∃b:Nat,EvI (λn=>F_ez n l (F_s n)) ((a:Int),(i:Int)) (b:Int)/\min b 257=min (a+(szPs r-r.length)) 257:=by
  intro r
  induction r with
  |nil=>
   intro i a e j _;refine⟨a,Ej ?_,by simp[szPs]⟩;unfold F_ez;simp only[QJ e j,Vp,XJ];exact Qa _
  |cons p r f=>
   intro i a e j s;obtain⟨d,h⟩:=Qv (by omega) e;obtain⟨z,E⟩:=Yc (w p d.mem);have B:=YU d.mem;rw[YG]at B;have y:=QaJ r;by_cases q:a<=256
   .obtain⟨b,g,k⟩:=f (i+1) (a+min (szPs p.Parts) 257) h (by have:=d.lt';omega) (by omega);refine⟨b,Ex ?_ g,?_⟩
    .unfold F_ez;simp only[d.lt,Vo,Qw (show(a:Int)<=256 by omega),XJ,d.ix,d.nx];refine Ea (t (szPs p.Parts) (by omega) p.Parts (XT _) z E) ((Qa _).eq ?_);rw[Qq (by omega) (by omega)];congr 2
     all_goals omega
    .rw[k,szPs,YG,X0];omega
   .refine⟨a,Ej ?_,by omega⟩;unfold F_ez;simp only[d.lt,Vo,Qx (show¬(a:Int)<=256 by omega),XJ,Vp];exact Qa _
 obtain⟨b,g,k⟩:=loop l 0 l.length rfl (XU _) u;refine Ea g.ev ((Qa _).eq ?_);have:=QaJ l;omega
theorem Qld:∀(m:Nat) (l:List Part) (k:Nat),szPs l<=m->hPs l<=k->k<=17->szPs l<=256->(∀x∈l,Part.wf x)->Ev (λn=>F_v n l (k:Int)) ((hPs l:Int),(szPs l:Int)):=by
 intro m
 induction m using Nat.strongRecOn with
 |_ m M=>
 intro l k P Q u q H;have t:=QaJ l;refine Yy ?_;show Ev (λn=>B_v (F_v n) n l (k:Int)) _;unfold B_v;have loop:∀(r:List Part) (i:Nat) (a b:Nat),l.drop i=r->i<=l.length->a<=17->b+(szPs r-r.length)<=256->EvI (λn=>F_hl n l (k:Int) (F_v n)) ((a:Int),(b:Int),(i:Int)) (((max a (hPs r):Nat):Int),((b+(szPs r-r.length):Nat):Int)):=by
  intro r
  induction r with
  |nil=>
   intro i a b h w _ _;refine Ej ?_;unfold F_hl;simp only[QJ h w,Vp,XJ]
   grind[Qa,hPs,szPs]
  |cons p r j=>
   intro i a b h w F e;obtain⟨d,g⟩:=Qv (by omega) h;obtain⟨R,L⟩:=Yc (H p d.mem);have z:=YU d.mem;have f:=QiE d.mem;rw[YG]at z;have J:=QaJ r;rw[szPs,YG,X0]at e;have step:Ev (λn=>F_hl n l (k:Int) (F_v n) ((a:Int),(b:Int),(i:Int))) (.cont (((max a (hP p):Nat):Int),((b+szPs p.Parts:Nat):Int),((i+1:Nat):Int))):=by
    unfold F_hl;simp only[d.lt,Vo,d.ix,XJ,d.nx,QgP];rw[QmY]at f⊢;cases s:p.Parts.isEmpty with
    |true=>
     have B:p.Parts=[]:=by simpa using s
     simp only[Vo,XJ];rw[B];simp only[szPs,Xx,Nat.max_zero];exact Qa _
    |false=>
     rw[s]at f;simp only[Vp]at f⊢;have G:0<k:=by omega
     have E:i64.wrap ((k:Int)-1)=((k-1:Nat):Int):=by rw[Qq (by omega) (by omega)];omega
     have y:((k:Int)==0)=false:=beq_false_of_ne (by omega);rw[y,Qx (show¬(256:Int)<(b:Int)by omega),E];simp only[Vp,XJ];refine Ea (Ea (M (szPs p.Parts) (by omega) p.Parts (k-1) (XT _) (by omega) (by omega) (by omega) L) (Qa _)) ((Qa _).eq ?_);have N:i64.wrap ((hPs p.Parts:Int)+1)=((hPs p.Parts+1:Nat):Int):=QO (by omega);have O:i64.wrap ((b:Int)+(szPs p.Parts:Int))=((b+szPs p.Parts:Nat):Int):=by rw[Qq (by omega) (by omega)];omega
     simp only[N,O];congr 2;split<;>omega
   refine(Ex step (j (i+1) _ _ g (by have:=d.lt';omega) (by omega) (by omega))).eq ?_;rw[hPs,szPs,YG,X0];congr 1<;>omega
 refine Ea ((loop l 0 0 l.length rfl (XU _) (by omega) (by omega)).ev) ((Qa _).eq ?_)
 grind
def repS:Nat->List Int->List Int->List Int
 |0,out,_=>out
 |k+1,out,lap=>if 256<out.length then out else repS k (out++lap) lap
mutual
def lapS:Part->List Int
 |⟨m,laps,ps⟩=>bif decide (0<laps)then expS [] ps else[m]
def expS:List Int->List Part->List Int
 |out,[]=>out
 |out,p::r=>expS (repS (p.Laps.toNat+(bif decide (0<p.Laps)then 0 else 1)) out (lapS p)) r
end
theorem QaB(p:Part):lapS p=bif decide (0<p.Laps)then expS [] p.Parts else[p.Mat]:=by cases p;rfl
theorem QcE{k:Nat}{a d:List Int}(h:256<a.length):repS k a d=a:=by
 cases k with
 |zero=>rfl
 |succ k=>rw[repS,Vs h]
theorem QcN:∀(l:List Part) {out:List Int},256<out.length->expS out l=out
 |[],out,h=>by rw[expS]
 |p::r,out,h=>by rw[expS,QcE h];exact QcN r h
theorem QcD:∀(k:Nat) (out lap:List Int),(repS k out lap).length<=max out.length (256+lap.length)
 |0,out,lap=>by rw[repS];omega
 |k+1,out,lap=>by
  rw[repS];split
  .omega
  .have:=QcD k (out++lap) lap
   grind
theorem QeF:∀(m:Nat) (l:List Part) (a:List Int),szPs l<=m->(expS a l).length<=max a.length (256+257*szPs l):=by
 intro m
 induction m using Nat.strongRecOn with
 |_ m f=>
 intro l;have e:∀p∈l,szPs l<=m->(lapS p).length<=257*szP p:=by
  intro p i k;have s:=YU i;rw[QaB,YG]at*;cases decide (0<p.Laps)with
  |true=>
   have:=f (szPs p.Parts) (by omega) p.Parts [] (XT _)
   grind
  |false=>simp;omega
 have j:∀(r:List Part) (a:List Int),(∀p∈r,(lapS p).length<=257*szP p)->(expS a r).length<=max a.length (256+257*szPs r):=by
  intro r
  induction r with
  |nil=>intro a _;rw[expS];omega
  |cons p r d=>
   intro a g;rw[expS,szPs];have n:=d (repS (p.Laps.toNat+(bif decide (0<p.Laps)then 0 else 1)) a (lapS p)) λq h=>g q (by simp[h])
   grind[QcD]
 grind
theorem QgT(p:Part):(lapS p).length<=257*szP p:=by
 rw[QaB,YG];cases decide (0<p.Laps)with
 |true=>
  have:=QeF _ p.Parts [] (XT _)
  grind
 |false=>simp;omega
theorem QjC(kk:Int):∀(m:Nat) (l:List Part),szPs l<=m->szPs l<=256->l.length<=1048576->(∀x∈l,Part.wf x)->partsS kk l=true->Ev (λn=>F_r n l) (expS [] l):=by
 intro m
 induction m using Nat.strongRecOn with
 |_ m ih=>
 intro l hm N hl W P;rw[Y1,Xs]at P;refine Yy ?_;show Ev (λn=>B_r (F_r n) n l) _;unfold B_r;have inner:∀(p:Part) (e:List Int) (g:p.Laps=0\/0<p.Laps/\p.Laps<=64) (E:e.length<=100000) (j:Nat) (k:Nat) (a:List Int),j+k=p.Laps.toNat+(bif decide (0<p.Laps)then 0 else 1)->a.length<=200000->
   ∃d:Ctl (List Int) (Ctl ((List Int)×Int) (Ctl (List Int) (List Int))),EvI (λn=>F_gt n p e) (a,(j:Int)) d/\
    (d=.cont (repS k a e)\/(256<(repS k a e).length/\d=.done (.done (.done (repS k a e))))):=by
  intro p e g E j k
  induction k generalizing j with
  |zero=>
   intro a F _;refine⟨_,Ej (b:=.cont a) ?_,.inl rfl⟩;unfold F_gt;have:¬((j:Int)<if p.Laps<1 then 1 else p.Laps):=by
    grind
   rw[Qx this];exact Qa _
  |succ k G=>
   intro a F z;have s:((j:Int)<if p.Laps<1 then 1 else p.Laps):=by
    rcases g with h|⟨h,h'⟩
    .rw[h]at F⊢;simp at F⊢;omega
    .rw[Qw h]at F;simp at F;rw[Vr (by omega)];omega
   by_cases u:256<a.length
   .refine⟨_,Ej (b:=.done (.done (.done a))) ?_,.inr ⟨by rw[QcE u];exact u,by rw[QcE u]⟩⟩;unfold F_gt;rw[Qw s,Qw (show(256:Int)<(a.length:Int)by omega)];exact Qa _
   .obtain⟨d,t,B⟩:=G (j+1) (a++e) (by omega) (by rw[X3];omega);refine⟨d,Ex ?_ t,by rw[repS,Vr u];exact B⟩;unfold F_gt;rw[Qw s,Qx (show¬(256:Int)<(a.length:Int)by omega)];refine Qaq (Qs (Qt (QaN a e (by omega)) ?_));rw[QO (by omega)];exact Qa _
 have loop:∀(r:List Part) (i:Nat) (a:List Int),l.drop i=r->i<=l.length->a.length<=100000->
   ∃d:Ctl (List Int) (List Int),EvI (λn=>F_fz n l (F_r n)) (a,(i:Int)) d/\(d=.cont (expS a r)\/d=.done (expS a r)):=by
  intro r
  induction r with
  |nil=>
   intro i a L O _;refine⟨.cont a,Ej ?_,.inl (by rw[expS])⟩;unfold F_fz;simp only[QJ L O,Vp];exact Qa _
  |cons p r M=>
   intro i a L O z;obtain⟨f,H⟩:=Qv (by omega) L;have s:=f.lt';have T:=YU f.mem;obtain⟨X,Y⟩:=Yc (W p f.mem);have g:=P p f.mem;rw[Qa3]at g;have q:p.Laps=0\/0<p.Laps/\p.Laps<=64:=by
    cases Q:(p.Laps==0)with
    |true=>exact .inl (by simpa using Q)
    |false=>
     rw[Q]at g;simp only[Vp,inR,XW,Vq]at g;exact .inr ⟨by omega,by omega⟩
   have aa:=QgT p;have u:Ev (λn=>((bif decide (0<p.Laps)then(F_r n p.Parts).bind λJ=>some J else some [p.Mat]):Option (List Int))) (lapS p):=by
    rw[QaB];refine Qah (λh=>?_) (λ_=>Qa _);rw[YG]at T;refine Ea (ih (szPs p.Parts) (by omega) p.Parts (XT _) (by omega) X Y ?_) (Qa _);have:(p.Laps==0)=false:=by
     simp only[Vq]at h;exact beq_false_of_ne (by omega)
    rw[this]at g;simp only[Vp,XW]at g;exact g.2.2.2
   obtain⟨d,t,B⟩:=inner p (lapS p) q (by omega) 0 _ a (Xw _) (by omega);rw[expS];rcases B with rfl|⟨w,rfl⟩
   .obtain⟨y,R,V⟩:=M (i+1) (repS (p.Laps.toNat+(bif decide (0<p.Laps)then 0 else 1)) a (lapS p)) H (by omega) (by
     have:=QcD (p.Laps.toNat+(bif decide (0<p.Laps)then 0 else 1)) a (lapS p);omega)
    refine⟨y,Ex ?_ R,V⟩;unfold F_fz;simp only[f.lt,Vo,f.ix,XJ,f.nx];exact Ea u (Ea t.ev (Qa _))
   .refine⟨.done (repS (p.Laps.toNat+(bif decide (0<p.Laps)then 0 else 1)) a (lapS p)),Ej ?_,.inr (by rw[QcN r w])⟩;unfold F_fz;simp only[f.lt,Vo,f.ix,XJ,f.nx];exact Ea u (Ea t.ev (Qa _))
 obtain⟨d,t,B⟩:=loop l 0 [] rfl (XU _) (by simp);rcases B with rfl|rfl
 iterate 2 exact Ea t.ev (Qa _)
theorem Qf9(R:Int):∀(m:Nat) (l:List Part),szPs l<=m->szPs l<=256->l.length<=1048576->(∀x∈l,Part.wf x)->partsS R l=true->Ev (λn=>F_z n l) (expS [] l):=by
 intro m
 induction m using Nat.strongRecOn with
 |_ m T=>
 intro l X B W O H;rw[Y1,Xs]at H;refine Yy ?_;show Ev (λn=>B_z (F_z n) n l) _;unfold B_z;have inner:∀(p:Part) (i:Nat) (e:At l i p) (F:List Int) (f:List Int) (g:0<p.Laps/\p.Laps<=64) (s:f.length<=100000) (j:Nat) (k:Nat) (a:List Int),j+k=p.Laps.toNat->a.length<=200000->
   EvI (λn=>F_gs n l (F,(i:Int)) f) (a,(j:Int)) (repS k a f):=by
  intro p i e F f g s j k
  induction k generalizing j with
  |zero=>
   intro a V _;refine Ej ?_;unfold F_gs;simp only[e.ix,XJ];rw[Qx (show¬(j:Int)<p.Laps by omega)];exact Qa _
  |succ k t=>
   intro a V h;by_cases q:256<a.length
   .refine Ej ?_;rw[QcE q];unfold F_gs;simp only[e.ix,XJ];rw[Qw (show(j:Int)<p.Laps by omega),Qx (show¬(a.length:Int)<=256 by omega)];exact Qa _
   .rw[repS,Vr q];refine Ex ?_ (t (j+1) (a++f) (by omega) (by rw[X3];omega));unfold F_gs;simp only[e.ix,XJ];rw[Qw (show(j:Int)<p.Laps by omega),Qw (show(a.length:Int)<=256 by omega)];simp only[Vo,XJ];refine Qt (QaN a f (by omega)) ?_;rw[QO (by omega)];exact Qa _
 have loop:∀(r:List Part) (i:Nat) (a:List Int),l.drop i=r->i<=l.length->a.length<=100000->
   EvI (λn=>F_fh n l (F_z n)) (a,(i:Int)) (expS a r):=by
  intro r
  induction r with
  |nil=>
   intro i a y G _;refine Ej ?_;rw[expS];unfold F_fh;simp only[QJ y G,Vp,XJ];exact Qa _
  |cons p r z=>
   intro i a y G h;obtain⟨e,w⟩:=Qv (by omega) y;have M:=e.lt';have L:=YU e.mem;by_cases q:256<a.length
   .rw[QcN _ q];refine Ej ?_;unfold F_fh;simp only[e.lt,Vo,Qx (show¬(a.length:Int)<=256 by omega),XJ,Vp];exact Qa _
   obtain⟨P,Q⟩:=Yc (O p e.mem);have g:=H p e.mem;rw[Qa3]at g;have E:=QgT p;rw[expS];refine Ex ?_ (z (i+1) _ w (by omega) (by
    have:=QcD (p.Laps.toNat+(bif decide (0<p.Laps)then 0 else 1)) a (lapS p);omega))
   unfold F_fh;simp only[e.lt,Vo,Qw (show(a.length:Int)<=256 by omega),XJ,e.ix,e.nx];cases J:(p.Laps==0)with
   |true=>
    have N:p.Laps=0:=by simpa using J
    simp only[Vo];refine Ea (Qt (QaN a [p.Mat] (by simp;omega)) (Qa _)) ((Qa _).eq ?_);rw[QaB,N];simp[repS,q]
   |false=>
    rw[J]at g;simp only[Vp,XW,inR,Vq]at g;have d:0<p.Laps/\p.Laps<=64:=⟨by omega,by omega⟩;simp only[Vp];rw[YG]at L;refine Ea (Ea (T (szPs p.Parts) (by omega) p.Parts (XT _) (by omega) P Q g.2.2.2) (Ea ?_ (Qa _))) (Qa _);have u:=QaB p;rw[Qw d.1,Vo]at u;have:=(inner p i e a (expS [] p.Parts) d (by rw[<- u];rw[YG]at E;omega) 0 p.Laps.toNat a (by omega) (by omega)).ev;rw[<- u]at this⊢;rw[Qw d.1];exact this
 exact Ea (loop l 0 [] rfl (XU _) (by simp)).ev (Qa _)
def kindAt(c:Course)(m:Int):Int:=((c.Mats[m.toNat]?).map (·.Kind)).getD 0
def hasLeg(c:Course)(a b:Int):Bool:=c.Legs.any λl=>(l.From==a)&&(l.To==b)
def rokS(c:Course)(len:Nat):Nat->Int->List Int->Bool
 |_,_,[]=>true
 |i,prev,m::r=>((kindAt c m==1)==decide (i=0))&&(((kindAt c m==3)==decide (i+1=len))&&((decide (i=0)||hasLeg c prev m)&&rokS c len (i+1) m r))
def routeR(c:Course)(d:Distance)(r:List Int):Bool:=
 (decide (2<=r.length)&&decide (r.length<=256))&&(rokS c r.length 0 0 r&&((bif decide (0<=d.Extra)then !((r.count d.Extra:Int)==0)&&((kindAt c d.Extra==2)&&hasLeg c d.Extra d.Extra)else true)&&d.Cutoffs.all λx=>decide (x.Lap<=(r.count x.Mat:Int))))
def routeS(c:Course)(d:Distance):Bool:=routeR c d (expS [] d.Route)
def cntM(l:List Int):List (Int×Int):=l.foldl (λm k=>Q3 m k (QB m k 0+1)) []
theorem QjJ(l:List Int)(k:Int):cntM (l++[k])=Q3 (cntM l) k (QB (cntM l) k 0+1):=by unfold cntM;simp
theorem QeU(l:List Int)(k:Int):QB (cntM l) k 0=(l.count k:Int):=by
 have a:∀(l:List Int) (m:List (Int×Int)),QB (l.foldl (λm k=>Q3 m k (QB m k 0+1)) m) k 0=QB m k 0+l.count k:=by
  intro l
  induction l with
  |nil=>simp
  |cons x l d=>
   grind[Qen]
 grind[cntM,Qjm]
theorem QhM(d:Int):∀(m:Nat) (l:List Part) (a:List Int),szPs l<=m->partsS d l=true->(∀x∈a,0<=x/\x<=d)->∀x∈expS a l,0<=x/\x<=d:=by
 intro m
 induction m using Nat.strongRecOn with
 |_ m t=>
 intro l;have rep:∀(k:Nat) (a e:List Int),(∀x∈a,0<=x/\x<=d)->(∀x∈e,0<=x/\x<=d)->∀x∈repS k a e,0<=x/\x<=d:=by
  intro k
  induction k with
  |zero=>intro a e w _;exact w
  |succ k u=>
   grind[repS]
 have y:∀(r:List Part) (a:List Int),szPs r<=m->partsS d r=true->(∀x∈a,0<=x/\x<=d)->∀x∈expS a r,0<=x/\x<=d:=by
  intro r
  induction r with
  |nil=>intro a _ _ h;exact h
  |cons p r g=>
   intro a q j h;rw[szPs,YG]at q;rw[partsS,XW]at j;obtain⟨f,s⟩:=j;refine g _ (by omega) s (rep _ _ _ h ?_);rw[QaB];rw[Qa3]at f;cases i:(p.Laps==0)with
   |true=>
    have e0:=by simpa using i
    rw[i,Vo,XW]at f;have:=f.1;unfold inR at this;simp[XW,Vq]at this;rw[e0];intro x n;simp at n;subst n;exact this
   |false=>
    rw[i]at f;simp[Vp,XW,inR,Vq]at f;rw[Qw (show 0<p.Laps by omega),Vo];exact t (szPs p.Parts) (by omega) p.Parts [] (XT _) f.2.2.2 (by simp)
 grind
theorem QcH{c:Course}{m:Int}(e:0<=m)(d:m<=(c.Mats.length:Int)-1):∃x:Mat,idx c.Mats m=some x/\x.Kind=kindAt c m:=by
 obtain⟨k,rfl⟩:∃k:Nat,m=k:=⟨m.toNat,by omega⟩;have a:k<c.Mats.length:=by omega
 simp_all[Qo,kindAt]
theorem QgQ(c:Course)(a b:Int):QB (Yg legKey true c.Legs) {from_:=a,to_:=b} false=hasLeg c a b:=by
 rw[Qdx];by_cases h:{from_:=a,to_:=b}∈c.Legs.map legKey
 .rw[Vs h];obtain⟨l,d,e⟩:=Xe.1 h;obtain⟨g,f⟩:=ends_eq.1 e;exact(Xt.2 ⟨l,d,by simp[g,f]⟩).symm
 .rw[Vr h]
  symm
  rw[VL];intro q;obtain⟨l,d,e⟩:=Xt.1 q;simp[XW,Vx]at e
  grind[legKey]
theorem Qlm(c:Course)(w:CourseOk c)(a b:Int):∃v:Int,Ev (λn=>F_bc n c a b) v/\decide (v<0)= !hasLeg c a b:=by
 have t:c.Legs.length<=4611686018427387904:=by have:=w.legs;omega
 have step:∀i x,At c.Legs i x->Ev (λn=>F_gz n c a b i) (bif (x.From==a)&&(x.To==b)then .done (.done i)else .cont (i+1)):=by
  intro i x e;unfold F_gz;simp only[e.lt,e.ix,e.nx];refine Ea (Ei λ_=>Qa _) ?_
  grind[Qa]
 have loop:∀(r:List Leg) (i:Nat),c.Legs.drop i=r->i<=c.Legs.length->∃d:Ctl Unit Int,EvI (λn=>F_gz n c a b) i d/\((r.any λl=>(l.From==a)&&(l.To==b))=true->∃j:Nat,d=.done j)/\((r.any λl=>(l.From==a)&&(l.To==b))=false->d=.cont ()):=by
  intro r
  induction r with
  |nil=>
   intro i m p;refine⟨.cont (),Ej ?_,λh=>(by simp at h),λ_=>rfl⟩
   grind[F_gz,QJ,Qa]
  |cons x r q=>
   intro i m p;obtain⟨e,k⟩:=Qv t m;have s:=step i x e;rw[List.any_cons];cases h:((x.From==a)&&(x.To==b))with
   |true=>
    rw[h]at s;exact⟨.done i,Ej s,λ_=>⟨i,rfl⟩,λh=>by simp at h⟩
   |false=>
    rw[h]at s;obtain⟨d,f,g⟩:=q (i+1) k (by have:=e.lt';omega);exact⟨d,Ex s f,by simpa using g⟩
 obtain⟨d,f,g,u⟩:=loop c.Legs 0 rfl (XU _);unfold hasLeg;cases h:c.Legs.any λl=>(l.From==a)&&(l.To==b)with
 |true=>
  obtain⟨j,rfl⟩:=g h;exact⟨j,Ea f.ev (Qa _),by simp⟩
 |false=>
  obtain rfl:=u h;exact⟨-1,Ea f.ev (Qa _),by simp⟩
theorem Qhh(l:List Int)(k:Int)(s:l.length<=1048576):Ev (λn=>F_bv n l k) (l.count k:Int):=by
 have loop:∀(r:List Int) (i:Nat) (a:Nat),l.drop i=r->i<=l.length->a<=i->EvI (λn=>F_gu n l k) (a,i) (a+r.count k):=by
  intro r
  induction r with
  |nil=>
   grind[EvI.done,F_gu,QJ,Qa]
  |cons x r f=>
   intro i a j q m;obtain⟨d,e⟩:=Qv (by omega) j;have p:=d.lt';have g:i64.wrap (a+1)=a+1:=QO (by omega);rw[List.count_cons];cases h:(x==k)with
   |true=>
    refine(Ex ?_ (f (i+1) (a+1) e (by omega) (by omega))).eq ?_
    .unfold F_gu;simp only[d.lt,d.ix,XJ,d.nx,h,g];exact Qa _
    grind
   |false=>
    refine(Ex ?_ (f (i+1) a e (by omega) (by omega))).eq ?_
    .unfold F_gu;simp only[d.lt,d.ix,XJ,d.nx,h];exact Qa _
    .simp
 exact Ea ((loop l 0 0 rfl (XU _) (XT _)).ev) ((Qa _).eq (by omega))
structure NumOk (c:Course):Prop where
 kinds:∀m∈c.Mats,1<=m.Kind/\m.Kind<=3
 dist:∀d∈c.Distances,-1<=d.Extra/\d.Extra<=(c.Mats.length:Int)-1/\partsS ((c.Mats.length:Int)-1) d.Route=true
theorem Qhw{c:Course}(h:numbersS c=true):NumOk c:=by
 unfold numbersS at h;simp[XW,Xs]at h;refine⟨λm e=>?_,λd a=>?_⟩
 .grind[inR]
 simp_all[distS,inR]
theorem Qjn{c:Course}(q:NumOk c){m:Int}(f:0<=m)(g:m<=(c.Mats.length:Int)-1):1<=kindAt c m/\kindAt c m<=3:=by
 obtain⟨x,a,d⟩:=QcH f g;have:=by
  obtain⟨_,e⟩:=Qbm a;exact VG e
 rw[<- d];exact q.kinds x this
theorem QkY{c:Course}(q:NumOk c){d:Distance}(hd:d∈c.Distances):∀x∈expS [] d.Route,0<=x/\x<=(c.Mats.length:Int)-1:=
 QhM _ _ d.Route [] (XT _) (q.dist d hd).2.2 (by simp)
theorem QgI(c:Course)(len i:Nat)(prev m:Int)(r:List Int):rokS c len i prev (m::r)=(((kindAt c m==1)==decide (i=0))&&(((kindAt c m==3)==decide (i+1=len))&&((decide (i=0)||hasLeg c prev m)&&rokS c len (i+1) m r))):=rfl
theorem QiA(i:Nat):((i:Int)==0)=decide (i=0):=by
 grind
theorem Qfd(c:Course)(r:List Int)(L:2<=r.length)(R:r.length<=256)(H:∀x∈r,0<=x/\x<=(c.Mats.length:Int)-1):
  Ev (λn=>iter (F_ei n c (Yg legKey true c.Legs) r) n ([],0)) (bif rokS c r.length 0 0 r then .cont (cntM r)else .done false):=by
 have loop:∀(t:List Int) (i:Nat) (d:Int),r.drop i=t->i<=r.length->(0<i->At r (i-1) d)->EvI (λn=>F_ei n c (Yg legKey true c.Legs) r) (cntM (r.take i),(i:Int)) (bif rokS c r.length i d t then .cont (cntM r)else .done false):=by
  intro t
  induction t with
  |nil=>
   intro i d q s _;refine Ej ?_;unfold F_ei;simp only[QJ q s,Vp,rokS,Vo]
   simp_all[VH,Qa]
  |cons m t M=>
   intro i d q s z;obtain⟨e,p⟩:=Qv (by omega) q;have F:=e.lt';obtain⟨P,J⟩:=H m e.mem;obtain⟨x,G,y⟩:=QcH P J;have N:i64.wrap ((r.length:Int)-1)=((r.length-1:Nat):Int):=by rw[Qq (by omega) (by omega)];omega
   have O:((i:Int)==((r.length-1:Nat):Int))=decide (i+1=r.length):=by grind
   have Q:Ev (λn:Nat=>((bif ((x.Kind==1) != ((i:Int)==0))then some true else(bif ((x.Kind==3) != ((i:Int)==(i64.wrap ((r.length:Int)-1))))then some true else(bif decide (0<(i:Int))then(idx r (i64.wrap ((i:Int)-1))).bind λk=>(some (QB (Yg legKey true c.Legs) ({from_:=k,to_:=m:Ui}) false)).bind λg=>some (!g)else some false))):Option Bool))
     (!(((kindAt c m==1)==decide (i=0))&&(((kindAt c m==3)==decide (i+1=r.length))&&(decide (i=0)||hasLeg c d m)))):=by
    rw[y,N,O,QiA];refine Ew (Qh λ_=>Qh λ_=>Qah (v:= !hasLeg c d m) (w:=false) (λh=>?_) λ_=>Qa _) ?_
    .have j:0<i:=by simpa using h
     have B:i64.wrap ((i:Int)-1)=((i-1:Nat):Int):=by rw[Qq (by omega) (by omega)];omega
     rw[B,(z j).ix];simp only[XJ,QgQ];exact Qa _
    grind
   have f:i64.wrap (QB (cntM (r.take i)) m 0+1)=QB (cntM (r.take i)) m 0+1:=by
    rw[QeU];have:(r.take i).count m<=i:=by have:=List.count_le_length (a:=m) (l:=r.take i);simp at this;omega
    exact Qq (by omega) (by omega)
   have step:Ev (λn=>F_ei n c (Yg legKey true c.Legs) r (cntM (r.take i),(i:Int))) (bif ((kindAt c m==1)==decide (i=0))&&(((kindAt c m==3)==decide (i+1=r.length))&&(decide (i=0)||hasLeg c d m))then .cont (cntM (r.take (i+1)),((i+1:Nat):Int))else .done (.done false)):=by
    unfold F_ei;simp only[e.lt,Vo,e.ix,XJ,e.nx,G];refine Ea Q ?_;rw[f, <- QjJ, <- e.take];cases(((kindAt c m==1)==decide (i=0))&&(((kindAt c m==3)==decide (i+1=r.length))&&(decide (i=0)||hasLeg c d m)))<;>exact Qa _
   have E:rokS c r.length i d (m::t)=((((kindAt c m==1)==decide (i=0))&&(((kindAt c m==3)==decide (i+1=r.length))&&(decide (i=0)||hasLeg c d m)))&&rokS c r.length (i+1) m t):=by rw[QgI];simp only[Bool.and_assoc]
   rw[E];cases u:(((kindAt c m==1)==decide (i=0))&&(((kindAt c m==3)==decide (i+1=r.length))&&(decide (i=0)||hasLeg c d m)))with
   |false=>
    rw[u]at step;exact Ej step
   |true=>
    rw[u]at step;rw[Vz];exact Ex step (M (i+1) m p (by omega) (λ_=>by simpa using e))
 exact(loop r 0 0 rfl (XU _) (by omega)).ev
theorem QhY(c:Course)(w:CourseOk c)(q:NumOk c)(d:Distance)(e:d∈c.Distances)(s:∀x∈d.Route,Part.wf x)(t:szPs d.Route<=256):
  Ev (λn=>F_cz n c d (Yg legKey true c.Legs)) (routeS c d):=by
 have k:=QaJ d.Route;have j:=QkY q e;have a:=QeF _ d.Route [] (XT _);unfold F_cz routeS;refine Ea (QjC _ _ d.Route (XT _) t (by omega) s (q.dist d e).2.2) ?_;generalize expS [] d.Route=r at j a⊢;unfold routeR;have e3:=by
  have:r.length<=1048576:=by simp at a;omega
  exact QaI this
 rw[e3];have u:(decide ((r.length:Int)-1<1)||decide (256<=(r.length:Int)-1))= !(decide (2<=r.length)&&decide (r.length<=256)):=by
  grind
 refine Ea (Ew (Qh λ_=>Qa _) u) ?_;cases i:(decide (2<=r.length)&&decide (r.length<=256))with
 |false=>exact Qa _
 |true=>
  simp[XW,Vq]at i;refine Qs (Ea (Qfd c r i.1 i.2 j) ?_);cases rokS c r.length 0 0 r with
  |false=>exact Qa _
  |true=>
   have y:Ev (λn=>(bif decide (0<=d.Extra)then(some (QB (cntM r) d.Extra 0)).bind λh=>(bif (h==0)then some true else(idx c.Mats d.Extra).bind λg=>(bif (g.Kind != 2)then some true else(some (QB (Yg legKey true c.Legs) ({from_:=d.Extra,to_:=d.Extra:Ui}) false)).bind λf=>some (!f)))else some false))
     (!(bif decide (0<=d.Extra)then !((r.count d.Extra:Int)==0)&&((kindAt c d.Extra==2)&&hasLeg c d.Extra d.Extra)else true)):=by
    rw[QeU];cases p:decide (0<=d.Extra)with
    |false=>exact Qa _
    |true=>
     obtain⟨x,l,m⟩:=QcH (by simpa using p) (q.dist d e).2.1;simp only[XJ,l,QgQ,m];refine Ew (Qh λ_=>Qh λ_=>Qa _) ?_;rw[bne];cases((r.count d.Extra:Int)==0)<;>cases(kindAt c d.Extra==2)<;>cases hasLeg c d.Extra d.Extra<;>rfl
   refine Ea y ?_;cases(bif decide (0<=d.Extra)then !((r.count d.Extra:Int)==0)&&((kindAt c d.Extra==2)&&hasLeg c d.Extra d.Extra)else true)with
   |false=>exact Qa _
   |true=>
    refine Qs (Ea ?_ (Qa _));refine Jg d.Cutoffs _ (λn x=>F_df n x (cntM r)) (by have:=w.cut d e;omega) λx _=>?_;unfold F_df;rw[QeU];exact Qa _
theorem QeK(c:Course)(w:CourseOk c)(q:NumOk c)(r:List Int)(Q:2<=r.length)(X:r.length<=256)(N:∀x∈r,0<=x/\x<=(c.Mats.length:Int)-1):
  Ev (λn=>iter (F_et n c r) n 0) (bif rokS c r.length 0 0 r then .cont ()else .done false):=by
 have loop:∀(t:List Int) (i:Nat) (a:Int),r.drop i=t->i<=r.length->(0<i->At r (i-1) a)->EvI (λn=>F_et n c r) (i:Int) (bif rokS c r.length i a t then .cont ()else .done false):=by
  intro t
  induction t with
  |nil=>
   intro i a p y _;refine Ej ?_;unfold F_et;simp only[QJ p y,Vp,rokS,Vo];exact Qa _
  |cons m t R=>
   intro i a p y F;obtain⟨f,l⟩:=Qv (by omega) p;have L:=f.lt';obtain⟨B,u⟩:=N m f.mem;obtain⟨x,M,E⟩:=QcH B u;have W:=Qjn q B u;have T:i64.wrap ((r.length:Int)-1)=((r.length-1:Nat):Int):=by rw[Qq (by omega) (by omega)];omega
   have V:((i:Int)==((r.length-1:Nat):Int))=decide (i+1=r.length):=by grind
   have step:Ev (λn=>F_et n c r (i:Int)) (bif ((kindAt c m==1)==decide (i=0))&&(((kindAt c m==3)==decide (i+1=r.length))&&(decide (i=0)||hasLeg c a m))then .cont ((i+1:Nat):Int)else .done (.done false)):=by
    unfold F_et;simp only[f.lt,Vo,f.ix,XJ,f.nx,M,E,T,V,QiA];refine Ea (v:=if i=0 then 1 else if i+1=r.length then 3 else 2) (EA ?_) ?_
    .by_cases e:i=0
     .simp[e]
     .by_cases h:i+1=r.length
      iterate 2 simp[e,h]
    refine Ea (v:= !(((kindAt c m==1)==decide (i=0))&&(((kindAt c m==3)==decide (i+1=r.length))&&(decide (i=0)||hasLeg c a m)))) ?_ ?_
    .have H:Ev (λn:Nat=>(bif decide (0<(i:Int))then(idx r (i64.wrap ((i:Int)-1))).bind λs=>(F_bc n c s m).bind λk=>some (decide (k<0))else some false:Option Bool)) (!(decide (i=0)||hasLeg c a m)):=by
      by_cases e:i=0
      .subst e;exact Qa _
      .have G:i64.wrap ((i:Int)-1)=((i-1:Nat):Int):=by rw[Qq (by omega) (by omega)];omega
       obtain⟨v,P,O⟩:=Qlm c w a m;rw[Qw (show(0:Int)<(i:Int)by omega),G,(F (by omega)).ix,Qx e];exact Ea P ((Qa _).eq (by rw[O];rfl))
     refine Ew (Qh λ_=>H) ?_;have j:(kindAt c m != if i=0 then 1 else if i+1=r.length then 3 else 2)= !(((kindAt c m==1)==decide (i=0))&&((kindAt c m==3)==decide (i+1=r.length))):=by
      have d:kindAt c m=1\/kindAt c m=2\/kindAt c m=3:=by omega
      by_cases e:i=0
      .rcases d with g|g|g<;>simp[g,e,show¬1=r.length by omega]
      .by_cases h:i+1=r.length
       .rcases d with g|g|g<;>simp[g,e,h]
       .rcases d with g|g|g<;>simp[g,e,h]
     rw[j];cases((kindAt c m==1)==decide (i=0))<;>cases((kindAt c m==3)==decide (i+1=r.length))<;>cases(decide (i=0)||hasLeg c a m)<;>rfl
    grind[Qa]
   have J:rokS c r.length i a (m::t)=((((kindAt c m==1)==decide (i=0))&&(((kindAt c m==3)==decide (i+1=r.length))&&(decide (i=0)||hasLeg c a m)))&&rokS c r.length (i+1) m t):=by rw[QgI];simp only[Bool.and_assoc]
   rw[J];cases z:(((kindAt c m==1)==decide (i=0))&&(((kindAt c m==3)==decide (i+1=r.length))&&(decide (i=0)||hasLeg c a m)))with
   |false=>
    rw[z]at step;exact Ej step
   |true=>
    rw[z]at step;rw[Vz];exact Ex step (R (i+1) m l (by omega) (λ_=>by simpa using f))
 exact(loop r 0 0 rfl (XU _) (by omega)).ev
theorem Qhb(c:Course)(w:CourseOk c)(q:NumOk c)(d:Distance)(a:d∈c.Distances)(u:∀x∈d.Route,Part.wf x)(E:szPs d.Route<=256):
  Ev (λn=>F_cy n c d) (routeS c d):=by
 have p:=QaJ d.Route;have m:=QkY q a;have k:=QeF _ d.Route [] (XT _);unfold F_cy routeS;refine Ea (Qf9 _ _ d.Route (XT _) E (by omega) u (q.dist d a).2.2) ?_;generalize expS [] d.Route=r at m k⊢;unfold routeR;have B:(decide ((r.length:Int)<2)||decide (256<(r.length:Int)))= !(decide (2<=r.length)&&decide (r.length<=256)):=by
  grind
 refine Ea (Ew (Qh λ_=>Qa _) B) ?_;cases g:(decide (2<=r.length)&&decide (r.length<=256))with
 |false=>exact Qa _
 |true=>
  simp only[XW,Vq]at g;refine Qs (Ea (QeK c w q r g.1 g.2 m) ?_);cases rokS c r.length 0 0 r with
  |false=>exact Qa _
  |true=>
   have H:Ev (λn:Nat=>(bif (d.Extra != (-1))then(idx c.Mats d.Extra).bind λl=>(bif (l.Kind != 2)then some true else(F_bv n r d.Extra).bind λe=>(bif (e==0)then some true else(F_bc n c d.Extra d.Extra).bind λh=>some (decide (h<0))))else some false))
     (!(bif decide (0<=d.Extra)then !((r.count d.Extra:Int)==0)&&((kindAt c d.Extra==2)&&hasLeg c d.Extra d.Extra)else true)):=by
    have f:=q.dist d a;have F:(d.Extra != (-1))=decide (0<=d.Extra):=by rw[XY];simp;omega
    rw[F];cases G:decide (0<=d.Extra)with
    |false=>exact Qa _
    |true=>
     obtain⟨x,s,y⟩:=QcH (by simpa using G) f.2.1;obtain⟨v,z,t⟩:=Qlm c w d.Extra d.Extra;simp only[XJ,s,y];refine Ew (Qh λ_=>Ea (Qhh r _ (by omega)) (Qh λ_=>Ea z (Qa _))) ?_;rw[bne,t];cases((r.count d.Extra:Int)==0)<;>cases(kindAt c d.Extra==2)<;>cases hasLeg c d.Extra d.Extra<;>rfl
   refine Ea H ?_;cases(bif decide (0<=d.Extra)then !((r.count d.Extra:Int)==0)&&((kindAt c d.Extra==2)&&hasLeg c d.Extra d.Extra)else true)with
   |false=>exact Qa _
   |true=>
    refine Qs (Ea (Q9 d.Cutoffs (λx=>decide (x.Lap<=r.count x.Mat)) (Ctl.done false) (Ctl.cont ()) (by have:=w.cut d a;omega) (λi x j=>?_) ?_) ?_)
    .unfold F_kr;simp only[j.lt,j.ix,XJ,j.nx];refine Ea (Qhh r _ (by omega)) ?_;have:decide (r.count x.Mat<x.Lap)= !decide (x.Lap<=r.count x.Mat):=by rw[XY];simp
     rw[this];cases decide (x.Lap<=r.count x.Mat)<;>exact Qa _
    .unfold F_kr;simp only[Qao];exact Qa _
    .cases(d.Cutoffs.all λx=>decide (x.Lap<=r.count x.Mat))<;>exact Qa _
theorem Qdr{a b:Nat}(h:a+b<=4611686018427387904):i64.wrap ((a:Int)+(b:Int))=((a+b:Nat):Int):=by
 rw[Qq (by omega) (by omega)];omega
def lensC(c:Course):Nat:=c.Mats.length+c.Legs.length+c.Distances.length+c.Waves.length+c.Offences.length+c.Categories.length+c.Prizes.length
def fewD(d:Distance):Prop:=d.Cutoffs.length<=200/\szPs d.Route<=200/\hPs d.Route<=16
structure FewOk (c:Course):Prop where
 lens:lensC c<=200
 name:c.Name.length<=100
 dist:∀d∈c.Distances,fewD d
 ties:c.Ties.length<=200
theorem Qgd(c:Course)(w:CourseOk c)(q:PartsOk c)(P:c.Ties.length<=1048576)(Y:∀x∈c.Ties,Step.wf x):∃b,Ev (λn=>F_cr n c) b/\(b=true->FewOk c):=by
 have hm:=w.mats;have hg:=w.legs;have hd:=w.dist;have J:=w.wave;have ho:=w.off;have hc:=w.cat;have hp:=w.prize;have loop:∀(t:List Distance) (i s:Nat),c.Distances.drop i=t->i<=c.Distances.length->∃f:Ctl Int Bool,EvI (λn=>F_ed n c) ((s:Int),(i:Int)) f/\(f=.done false\/ ∃v:Nat,f=.cont (v:Int)/\(v<=200->s<=v/\ ∀d∈t,fewD d)):=by
  intro t
  induction t with
  |nil=>
   intro i s E H;refine⟨.cont (s:Int),Ej ?_,Or.inr ⟨s,rfl,λ_=>⟨XT _,by simp⟩⟩⟩;unfold F_ed;simp only[QJ E H,Vp,XJ];exact Qa _
  |cons d t ih=>
   intro i s E H;obtain⟨j,B⟩:=Qv (by omega) E;have Q:=j.lt';by_cases N:s<=200
   .have g:=q.len d j.mem;have m:=q.wf d j.mem;have F:=w.cut d j.mem;have z:=QdD _ d.Route (XT _) g m;have G:=QdC _ d.Route 17 (XT _) (XT _) g m;have V:i64.wrap ((s:Int)+(d.Cutoffs.length:Int))=((s+d.Cutoffs.length:Nat):Int):=Qdr (by omega);have M:i64.wrap (((s+d.Cutoffs.length:Nat):Int)+((min (szPs d.Route) 257:Nat):Int))=((s+d.Cutoffs.length+min (szPs d.Route) 257:Nat):Int):=Qdr (by omega);have step:Ev (λn=>F_ed n c ((s:Int),(i:Int))) (bif decide ((16:Int)<((min (hPs d.Route) 17:Nat):Int))then .done (.done false)else .cont (((s+d.Cutoffs.length+min (szPs d.Route) 257:Nat):Int),((i+1:Nat):Int))):=by
     unfold F_ed;simp only[j.lt,Vo,j.ix,XJ,j.nx,Qw (show(s:Int)<=200 by omega)];refine Ea z (Ea G ?_);rw[V,M];cases decide ((16:Int)<((min (hPs d.Route) 17:Nat):Int))<;>exact Qa _
    by_cases W:hPs d.Route<=16
    .rw[Qx (show¬(16:Int)<((min (hPs d.Route) 17:Nat):Int)by omega)]at step;obtain⟨f,p,k⟩:=ih (i+1) (s+d.Cutoffs.length+min (szPs d.Route) 257) B (by omega);refine⟨f,Ex step p,?_⟩;rcases k with k|⟨v,k,r⟩
     .exact Or.inl k
     .refine Or.inr ⟨v,k,λJ=>?_⟩;obtain⟨R,y⟩:=r J;refine⟨by omega,λx u=>?_⟩;rcases X6.1 u with rfl|u
      .exact⟨by omega,by omega,W⟩
      .exact y x u
    .rw[Qw (show(16:Int)<((min (hPs d.Route) 17:Nat):Int)by omega)]at step;exact⟨.done false,Ej step,Or.inl rfl⟩
   .refine⟨.cont (s:Int),Ej ?_,Or.inr ⟨s,rfl,λh=>absurd h N⟩⟩;unfold F_ed;simp only[j.lt,Vo,Qx (show¬(s:Int)<=200 by omega),XJ,Vp];exact Qa _
 obtain⟨f,p,k⟩:=loop c.Distances 0 (lensC c) rfl (XU _);have e:i64.wrap ((i64.wrap ((i64.wrap ((i64.wrap ((i64.wrap ((i64.wrap ((c.Mats.length:Int)+(c.Legs.length:Int)))+(c.Distances.length:Int)))+(c.Waves.length:Int)))+(c.Offences.length:Int)))+(c.Categories.length:Int)))+(c.Prizes.length:Int))=(lensC c:Int):=by
  have X:c.Mats.length+c.Legs.length<=4611686018427387904:=by omega
  have O:c.Mats.length+c.Legs.length+c.Distances.length<=4611686018427387904:=by omega
  have h3:c.Mats.length+c.Legs.length+c.Distances.length+c.Waves.length<=4611686018427387904:=by omega
  have L:c.Mats.length+c.Legs.length+c.Distances.length+c.Waves.length+c.Offences.length<=4611686018427387904:=by omega
  have h5:c.Mats.length+c.Legs.length+c.Distances.length+c.Waves.length+c.Offences.length+c.Categories.length<=4611686018427387904:=by omega
  have T:c.Mats.length+c.Legs.length+c.Distances.length+c.Waves.length+c.Offences.length+c.Categories.length+c.Prizes.length<=4611686018427387904:=by omega
  rw[Qdr X,Qdr O,Qdr h3,Qdr L,Qdr h5,Qdr T];rfl
 unfold F_cr;rw[e];rcases k with rfl|⟨v,rfl,r⟩
 .exact⟨false,Ea p.ev (Qa _),λh=>by cases h⟩
 .obtain⟨a,b,z,G,p3,_,_,_,_⟩:=QiJ _ c.Ties 0 (XT _) (by omega) P Y;have l:Ev (λn=>F_dx n c.Ties) (decide ((c.Ties.length:Int)<=20)&&(decide (a<=80)&&decide (b<=300))):=by
   unfold F_dx;exact Ea z (Ea (Ei λ_=>Ei λ_=>Qa _) (Qa _))
  refine⟨decide ((v:Int)<=200)&&(decide ((c.Name.length:Int)<=100)&&(decide ((c.Ties.length:Int)<=20)&&(decide (a<=80)&&decide (b<=300)))),Ea p.ev (Ea (Ei λ_=>Ei λ_=>Ea l (Qa _)) (Qa _)),λh=>?_⟩;simp only[XW,Vq]at h;obtain⟨R,y⟩:=r (by omega);exact⟨by omega,by omega,y,by omega⟩
def fitsS(c:Course):Bool:=
 !(decide (40<(c.Mats.length:Int))||(decide (512<(c.Legs.length:Int))||(decide (8<(c.Distances.length:Int))||(decide (32<(c.Waves.length:Int))||(decide (32<(c.Offences.length:Int))||(decide (32<(c.Categories.length:Int))||decide (32<(c.Prizes.length:Int))))))))
  &&c.Distances.all λd=> !decide (64<(d.Cutoffs.length:Int))
theorem QmC(c:Course)(w:CourseOk c)(q:PartsOk c)(k:FewOk c):Ev (λn=>F_eo n c) (fitsS c):=by
 unfold F_eo fitsS;refine Ea (Qh λ_=>Qh λ_=>Qh λ_=>Qh λ_=>Qh λ_=>Qh λ_=>Qa _) ?_;cases(decide (40<(c.Mats.length:Int))||(decide (512<(c.Legs.length:Int))||(decide (8<(c.Distances.length:Int))||(decide (32<(c.Waves.length:Int))||(decide (32<(c.Offences.length:Int))||(decide (32<(c.Categories.length:Int))||decide (32<(c.Prizes.length:Int))))))))with
 |true=>exact Qa _
 |false=>
  refine Qs (Ea (Q9 c.Distances (λd=> !decide (64<(d.Cutoffs.length:Int))) (Ctl.done false) (Ctl.cont ()) (by have:=w.dist;omega) (λi x a=>?_) ?_) ?_)
  .obtain⟨g,f,e⟩:=k.dist x a.mem;unfold F_ko;simp only[a.lt,a.ix,XJ,a.nx];refine Ea (Qld _ x.Route 17 (XT _) (by omega) (XT _) (by omega) (q.wf x a.mem)) ?_
   grind[Qa]
  .simp_all[F_ko,Qa]
  .cases(c.Distances.all λd=> !decide (64<(d.Cutoffs.length:Int)))<;>exact Qa _
theorem QjD(c:Course)(w:CourseOk c)(q:PartsOk c)(k:FewOk c):Ev (λn=>F_ex n c) (fitsS c):=by
 unfold F_ex fitsS;refine Ea (Qh λ_=>Qh λ_=>Qh λ_=>Qh λ_=>Qh λ_=>Qh λ_=>Qa _) ?_;cases(decide (40<(c.Mats.length:Int))||(decide (512<(c.Legs.length:Int))||(decide (8<(c.Distances.length:Int))||(decide (32<(c.Waves.length:Int))||(decide (32<(c.Offences.length:Int))||(decide (32<(c.Categories.length:Int))||decide (32<(c.Prizes.length:Int))))))))with
 |true=>exact Qa _
 |false=>
  refine Qs (Ea (Q9 c.Distances (λd=> !decide (64<(d.Cutoffs.length:Int))) (Ctl.done false) (Ctl.cont ()) (by have:=w.dist;omega) (λi x e=>?_) ?_) ?_)
  .obtain⟨j,g,h⟩:=k.dist x e.mem;have a:=q.len x e.mem;have f:=q.wf x e.mem;unfold F_kt;simp only[e.lt,e.ix,XJ,e.nx];refine Ea (Qh λ_=>Ea (QdC _ x.Route 17 (XT _) (XT _) a f) (Qh λ_=>Ea (QdD _ x.Route (XT _) a f) (Qa _))) ?_
   grind[Qa]
  .simp_all[F_kt,Qa]
  .cases(c.Distances.all λd=> !decide (64<(d.Cutoffs.length:Int)))<;>exact Qa _
def courseE(c:Course):Int:=
 bif fitsS c then bif namesS c then bif numbersS c then bif tiesE c.Ties==0 then bif c.Distances.all (routeS c)then 0 else 72 else tiesE c.Ties else 71 else 70 else 2
theorem QjF(c:Course)(w:CourseOk c)(q:PartsOk c)(k:FewOk c)(g:c.Ties.length<=1048576)(e:∀x∈c.Ties,Step.wf x):Ev (λn=>F_d n c) (courseE c):=by
 unfold F_d courseE;refine Ea (QmC c w q k) ?_;cases fitsS c with
 |false=>exact Qa _
 |true=>
 refine Qs (Ea (Qk9 c w) ?_);cases namesS c with
 |false=>exact Qa _
 |true=>
 refine Qs (Ea (QhX c w q) ?_);cases h:numbersS c with
 |false=>exact Qa _
 |true=>
 refine Qs (Ea (QmD c.Ties g e) ?_);rw[bne];cases(tiesE c.Ties==0)with
 |false=>exact Qa _
 |true=>
 have f:Ev (λn=>iter (F_iu n c) n ([],0)) (Yg legKey true c.Legs):=by
  refine Qbv c.Legs legKey true (by have:=w.legs;omega) (λi x m a=>?_) (λm=>?_)
  .unfold F_iu;simp only[a.lt,a.ix,a.nx];exact Qa _
  simp_all[F_iu,Qa]
 refine Qs (Ea f ?_);have a:Ev (λn=>F_fl n c.Distances c (Yg legKey true c.Legs)) (c.Distances.all (routeS c)):=by
  refine Jg c.Distances _ (λn x=>F_he n x c (Yg legKey true c.Legs)) (by have:=w.dist;omega) λx d=>?_;exact Ea (QhY c w (Qhw h) x d (q.wf x d) (by have:=(k.dist x d).2.1;omega)) (Qa _)
 refine Ea a ?_
 grind[Qa]
theorem Qga(c:Course)(w:CourseOk c)(q:PartsOk c)(k:FewOk c)(g:c.Ties.length<=1048576)(f:∀x∈c.Ties,Step.wf x):Ev (λn=>F_c n c) (courseE c):=by
 have a:=k.lens;unfold lensC at a;have e:Short c:=⟨by omega,by omega,by omega,by omega,by omega⟩;unfold F_c courseE;refine Ea (QjD c w q k) ?_;cases fitsS c with
 |false=>exact Qa _
 |true=>
 refine Qs (Ea (Qhd c w e) ?_);cases namesS c with
 |false=>exact Qa _
 |true=>
 refine Qs (Ea (Qf8 c w q) ?_);cases h:numbersS c with
 |false=>exact Qa _
 |true=>
 refine Qs (Ea (QhU c.Ties g f) ?_);rw[bne];cases(tiesE c.Ties==0)with
 |false=>exact Qa _
 |true=>
 refine Qs (Ea (Q9 c.Distances (routeS c) (Ctl.done 72) (Ctl.cont ()) (by omega) (λi x d=>?_) ?_) ?_)
 .unfold F_ky;simp only[d.lt,d.ix,XJ,d.nx];refine Ea (Qhb c w (Qhw h) x d.mem (q.wf x d.mem) (by have:=(k.dist x d.mem).2.1;omega)) ?_;cases routeS c x<;>exact Qa _
 .simp_all[F_ky,Qa]
 grind[Qa]
theorem QdS{α:Type}(l:List α){a b:Nat}(h:a<=b)(d:b<=l.length):slc l (a:Int) (b:Int)=some ((l.take b).drop a):=by
 grind[slc]
theorem Qm8{α:Type}(l:List α){b:Nat}(a:b<=l.length):slc l 0 (b:Int)=some (l.take b):=by
 have:=QdS l (XU b) a
 grind
theorem Qkr{α:Type}(l:List α){a:Nat}(d:a<=l.length):slc l (a:Int) (l.length:Int)=some (l.drop a):=by
 simp_all[QdS]
theorem QmJ{α:Type}(l m:List α)(h:l.length+m.length<=4294967296):app l m=some (l++m):=by
 unfold app;rw[XS (by exact h)];rfl
def firstI{α:Type}(q:α->Bool):List α->Nat->Int
 |[],_=> -1
 |x::l,i=>bif q x then(i:Int)else firstI q l (i+1)
theorem Ev.first{α:Type}{step:Nat->Int->Option (Ctl Int (Ctl Unit Int))}(l:List α)(q:α->Bool)(m:l.length<=4611686018427387904)
  (f:∀i x,At l i x->Ev (λn=>step n (i:Int)) (bif q x then .done (.done (i:Int))else .cont ((i+1:Nat):Int)))(g:Ev (λn=>step n (l.length:Int)) (.done (.cont ()))):
  Ev (λn=>(Go.Sw.iter (step n) n 0).bind λb=>match b with|.cont _=>some (-1)|.done v=>some v) (firstI q l 0):=by
 have loop:∀(r:List α) (i:Nat),l.drop i=r->i<=l.length->∃a:Ctl Unit Int,EvI step i a/\(match a with|.cont _=>some (-1)|.done v=>some v)=some (firstI q r i):=by
  intro r
  induction r with
  |nil=>
   intro i d e;have:i=l.length:=by have:=Xq.1 d;omega
   subst this;exact⟨.cont (),Ej g,rfl⟩
  |cons x r u=>
   intro i d e;obtain⟨k,t⟩:=Qv m d;have s:=f i x k;unfold firstI;cases h:q x with
   |true=>
    rw[h]at s;exact⟨_,Ej s,rfl⟩
   |false=>
    grind[EvI.cont]
 obtain⟨a,p,j⟩:=loop l 0 rfl (XU _);exact Ea p.ev (EA j)
theorem QbM{α:Type}(q:α->Bool):∀(l:List α) (i:Nat),(firstI q l i= -1/\l.all (λx=> !q x)=true)\/ ∃j x,firstI q l i=((i+j:Nat):Int)/\l[j]?=some x/\q x=true/\(l.take j).all (λx=> !q x)=true
 |[],_=>.inl ⟨rfl,rfl⟩
 |x::l,i=>by
  unfold firstI;cases h:q x with
  |true=>exact .inr ⟨0,x,rfl,rfl,h,rfl⟩
  |false=>
   rcases QbM q l (i+1)with⟨h1,h2⟩|⟨j,y,h1,h2,h3,h4⟩
   .grind
   .refine .inr ⟨j+1,y,by grind,h2,h3,by simp[h,h4]⟩
set_option maxRecDepth 4000
def cmpI(a b:Int):Int:=bif decide (a<b)then-1 else bif decide (b<a)then 1 else 0
theorem QiQ(n:Nat)(a b:Int):F_i n a b=some (cmpI a b):=by
 unfold F_i F_ce cmpI
 grind
def orL:List Int->Int
 |[]=>0
 |x::r=>bif x != 0 then x else orL r
theorem ev_or(l:List Int)(k:l.length<=1000):Ev (λn=>F_ba n l) (orL l):=by
 have loop:∀(r:List Int) (i:Nat),l.drop i=r->i<=l.length->EvI (λn=>F_ay n l) i (bif orL r==0 then Ctl.cont ()else Ctl.done (orL r)):=by
  intro r
  induction r with
  |nil=>
   intro i d g;refine Ej ?_;unfold F_ay;simp only[QJ d g];exact Qa _
  |cons x r h=>
   intro i d g;obtain⟨a,f⟩:=Qv (by omega) d;have j:=a.lt';unfold orL;cases q:(x != 0)with
   |true=>
    have e:(x==0)=false:=by grind
    simp[Vo,e];refine Ej ?_;unfold F_ay;simp only[a.lt,a.ix,XJ,q];exact Qa _
   |false=>
    refine Ex ?_ (h (i+1) f (by omega));unfold F_ay;simp only[a.lt,a.ix,XJ,q,a.nx];exact Qa _
 refine Ea (loop l 0 rfl (XU _)).ev ?_
 grind[Qa]
theorem QaL{β:Type}(m:List (Int×β))(k:Int):Y2 m k=(Y3 m k).isSome:=by
 unfold Y2 Y3
 grind
theorem Qgf{a b:Int}:cmpI a b<0↔a<b:=by
 grind[cmpI]
theorem Qbd{a b:Int}:cmpI a b=0↔a=b:=by
 grind[cmpI]
set_option maxRecDepth 4000
section
variable {α:Type} {c d:α->α->Int}
end
theorem QdL{c:Course}(h:Course.wf c):CourseOk c:=by
 obtain⟨g,⟨n,e⟩,⟨p,s⟩,⟨i,d⟩,⟨r,j⟩,⟨m,f⟩,⟨l,k⟩,⟨q,t⟩,_⟩:=h;exact⟨g,n,λx a=>(e x a).1,p,i,λx a=>(d x a).1,λx a=>(d x a).2.2.2.1.1,r,λx a=>(j x a).1,m,λx a=>(f x a).1,l,λx a=>(k x a).1,q⟩
theorem QeX{c:Course}(h:Course.wf c):PartsOk c:=by
 obtain⟨_,_,_,⟨f,e⟩,_⟩:=h;exact⟨λd a=>(e d a).2.1.1,λd a=>(e d a).2.1.2⟩
theorem Qiu{c:Course}(h:Course.wf c):c.Ties.length<=1048576/\ ∀x∈c.Ties,Step.wf x:=by
 obtain⟨_,_,_,_,_,_,_,_,a,_⟩:=h;exact a
theorem QcQ(p:Nat->Bool):∀k,(∀i,i<k->p i=true)\/ ∃j,j<k/\p j=false/\ ∀i,i<j->p i=true
 |0=>.inl λi h=>absurd h (Nat.not_lt_zero _)
 |k+1=>by
  rcases QcQ p k with h|⟨j,h1,h2,h3⟩
  .cases q:p k with
   |true=>exact .inl λi hi=>(Nat.lt_succ_iff_lt_or_eq.1 hi).elim (h i) λe=>e▸q
   |false=>exact .inr ⟨k,Xn _,q,h⟩
  .exact .inr ⟨j,by omega,h2,h3⟩
theorem Qjg{p:Nat->Bool}{k:Nat}:(List.range k).all p=true↔ ∀i,i<k->p i=true:=by simp[Xs]
theorem Jw{B:Type}{step:Nat->Int->Option (Ctl Int B)}(k:Nat)(p:Nat->Bool)(f b:B)
  (d:∀i,i<k->Ev (λn=>step n (i:Int)) (bif p i then .cont ((i+1:Nat):Int)else .done f))(l:Ev (λn=>step n (k:Int)) (.done b)):
  Ev (λn=>Go.Sw.iter (step n) n 0) (bif (List.range k).all p then b else f):=by
 rcases QcQ p k with h|⟨j,g,e,m⟩
 .rw[Qjg.2 h];exact Ev.iter (λi=>(i:Int)) k rfl (λi a=>(d i a).eq (by rw[h i a];rfl)) l
 .have:(List.range k).all p=false:=by
   rw[VL];intro q;rw[Qjg.1 q j g]at e;cases e
  rw[this];exact Ev.iter (λi=>(i:Int)) j rfl (λi a=>(d i (by omega)).eq (by rw[m i a];rfl)) ((d j g).eq (by rw[e];rfl))
theorem atN{α:Type}{l:List α}{i:Nat}(hl:l.length<=1048576)(hi:i<l.length):At l i l[i]:=Y9 (by omega) (XK hi)
theorem QaS{n:Nat}(h:n<=1048576):i64.wrap ((n:Int)+1)=((n+1:Nat):Int):=QO (by omega)
def segLt(x y:Segment):Bool:=decide (x.Mat<y.Mat)||((x.Mat==y.Mat)&&decide (x.Epoch<y.Epoch))
def cmpSeg(x y:Segment):Int:=orL [cmpI x.Mat y.Mat,cmpI x.Epoch y.Epoch]
theorem QjK(x y:Segment):decide (0<=cmpSeg x y)= !segLt x y:=by
 unfold cmpSeg segLt orL orL orL cmpI;by_cases a:x.Mat<y.Mat
 .simp[a]
 .by_cases d:y.Mat<x.Mat
  .have:¬x.Mat=y.Mat:=by omega
   simp[a,d,this]
  .have:x.Mat=y.Mat:=by omega
   by_cases e:x.Epoch<y.Epoch
   .simp[a,d,this,e]
   .by_cases f:y.Epoch<x.Epoch
    iterate 2 simp[a,d,this,e,f]
theorem Qlh(a b:Int):Ev (λn=>F_i n a b) (cmpI a b):=QlS (Qa _) λn=>QiQ n a b
theorem Qg8(x y:Segment):Ev (λn=>F_cj n x y) (cmpSeg x y):=by
 unfold F_cj F_fr;exact Ea (Ea (Qlh _ _) (Ea (Qlh _ _) (Ea (ev_or _ (by simp)) (Qa _)))) (Qa _)
def timeB(x:Int):Bool:=inR (-1099511627776) 1099511627776 x
theorem Qba(x:Int):Ev (λn=>F_o n x) (timeB x):=by
 unfold F_o timeB inR;exact Ea (Ei λ_=>Qa _) (Qa _)
def prevSeg(c:Clocks)(i:Nat)(x:Segment):Bool:=decide (0<(i:Int))&& !(match c.Segments[i-1]? with|some y=>segLt y x|none=>true)
def segBad(c:Clocks)(i:Nat)(x:Segment):Bool:=decide (x.Mat<0)||(decide (40<=x.Mat)||(decide (x.Epoch<0)||(decide (255<x.Epoch)||(!timeB x.Anchor||prevSeg c i x))))
def segsB(c:Clocks):Bool:=(List.range c.Segments.length).all λi=>match c.Segments[i]? with|some x=> !segBad c i x|none=>true
theorem QgU{α:Type}{l:List α}{i:Nat}{y:α}(d:l.length<=1048576)(hi:0<i)(a:i<=l.length)(h:l[i-1]?=some y):idx l (i64.wrap ((i:Int)-1))=some y:=by
 rw[Qq (by omega) (by omega),show((i:Int)-1)=((i-1:Nat):Int)by omega];exact Qo h
theorem Qmu(c:Clocks)(j:c.Segments.length<=1048576):Ev (λn=>iter (F_iw n c) n 0) (bif segsB c then Ctl.cont ()else Ctl.done 160):=by
 unfold segsB;refine Jw c.Segments.length _ _ _ (λi k=>?_) ?_
 .have a:=atN j k;unfold F_iw;simp only[a.lt,Vo,a.ix,XJ,a.nx,a.get];have:Ev (λn=>((bif decide ((c.Segments[i]).Mat<0)then some true else(bif decide (40<=(c.Segments[i]).Mat)then some true else(bif decide ((c.Segments[i]).Epoch<0)then some true else(bif decide (255<(c.Segments[i]).Epoch)then some true else(F_o n (c.Segments[i]).Anchor).bind λe=>(bif (!e)then some true else(bif decide (0<(i:Int))then(idx c.Segments (i64.wrap ((i:Int)-1))).bind λf=>(F_cj n f (c.Segments[i])).bind λd=>some (decide (0<=d))else some false)))))):Option Bool)) (segBad c i (c.Segments[i])):=by
   unfold segBad;refine Qh λ_=>Qh λ_=>Qh λ_=>Qh λ_=>Ea (Qba _) (Qh λ_=>?_);unfold prevSeg;refine Ei λh=>?_;have l:0<i:=by have:=Vu h;omega
   have g:i-1<c.Segments.length:=by omega
   rw[QgU j l (by omega) (XK g),XK g];simp only[XJ];exact Ea (Qg8 _ _) ((Qa _).eq (QjK _ _))
  refine Ea this ?_;cases segBad c i (c.Segments[i])<;>exact Qa _
 .unfold F_iw;simp only[Qao,Vp];exact Qa _
def farBad(x:Int):Bool:=decide (x< -2199023255552)||decide (2199023255552<x)
theorem QjB(l:List Int)(a:l.length<=1048576):Ev (λn=>F_cq n l) (l.any farBad):=by
 unfold F_cq F_gh;refine Ev.contains l farBad (λn x=>F_cv n x) (by omega) λx _=>?_;unfold F_cv farBad;exact Ea (Qh λ_=>Qa _) (Qa _)
def rowB(c:Clocks)(i:Nat)(r:List Int):Bool:= !(((r.length:Int) != ((c.Segments.length+1:Nat):Int))||((r[i]?.getD 1 != 0)||r.any farBad))
def rowsB(c:Clocks):Bool:=(List.range c.Far.length).all λi=>match c.Far[i]? with|some r=>rowB c i r|none=>true
theorem Qmw(c:Clocks)(l:c.Segments.length<=1048576)(k:c.Far.length<=1048576)(m:∀r∈c.Far,r.length<=1048576)(p:c.Far.length=c.Segments.length+1):
  Ev (λn=>iter (F_jv n c) n 0) (bif rowsB c then Ctl.cont ()else Ctl.done 160):=by
 unfold rowsB;refine Jw c.Far.length _ _ _ (λi j=>?_) ?_
 .have a:=atN k j;unfold F_jv;simp only[a.lt,Vo,a.ix,XJ,a.nx,a.get,QaS l];have:Ev (λn=>((bif (((c.Far[i]).length:Int) != ((c.Segments.length+1:Nat):Int))then some true else(idx (c.Far[i]) (i:Int)).bind λd=>(bif (d != 0)then some true else(F_cq n (c.Far[i])).bind λf=>some f)):Option Bool)) (!rowB c i (c.Far[i])):=by
   unfold rowB;rw[Bool.not_not];refine Qh λh=>?_;have g:(c.Far[i]).length=c.Segments.length+1:=by
    have:((c.Far[i]).length:Int)=((c.Segments.length+1:Nat):Int):=by simpa[bne]using h
    omega
   have e:i<(c.Far[i]).length:=by omega
   rw[Qo (XK e),XK e];simp only[XJ,Option.getD_some];exact Qh λ_=>Ea (QjB _ (m _ a.mem)) (Qa _)
  refine Ea this ?_;cases rowB c i (c.Far[i])<;>exact Qa _
 .unfold F_jv;simp only[Qao,Vp];exact Qa _
def farG(c:Clocks)(i j:Nat):Int:=((c.Far[i]?.getD [])[j]?).getD 0
structure Dims (c:Clocks):Prop where
 segs:c.Segments.length<=511
 far:c.Far.length=c.Segments.length+1
 row:∀i,i<c.Far.length->(c.Far[i]?.getD []).length=c.Segments.length+1
theorem Dims.get{c:Clocks}(d:Dims c){i j:Nat}(hi:i<c.Segments.length+1)(e:j<c.Segments.length+1):c.Far[i]?=some (c.Far[i]?.getD [])/\(c.Far[i]?.getD [])[j]?=some (farG c i j):=by
 have a:i<c.Far.length:=by rw[d.far];exact hi
 have f:=d.row i a;refine⟨by rw[XK a];rfl,?_⟩;unfold farG;have:j<(c.Far[i]?.getD []).length:=by omega
 rw[XK this];rfl
def triB(c:Clocks):Bool:=(List.range (c.Segments.length+1)).all λi=>(List.range (c.Segments.length+1)).all λj=>(List.range (c.Segments.length+1)).all λk=> !decide (i64.wrap (farG c i j+farG c j k)<farG c i k)
theorem ltN{a b:Nat}(h:a<b):decide ((a:Int)<(b:Int))=true:=Vt (by omega)
theorem geN{a b:Nat}(h:b<=a):decide ((a:Int)<(b:Int))=false:=Vw (by omega)
theorem QnC(c:Clocks)(d:Dims c):Ev (λn=>iter (F_ka n c) n 0) (bif triB c then Ctl.cont ()else Ctl.done 160):=by
 have s:=d.segs;unfold triB;refine Jw (c.Segments.length+1) _ _ _ (λi a=>?_) ?_
 .unfold F_ka;have g:=(d.get a a).1;have l:=d.row i (by rw[d.far];exact a);simp only[QaS (show c.Segments.length<=1048576 by omega),ltN a,Vo,Qo g,XJ,QaS (show i<=1048576 by omega)];refine Ea (Jw (c.Segments.length+1) (λj=>(List.range (c.Segments.length+1)).all λk=> !decide (i64.wrap (farG c i j+farG c j k)<farG c i k)) (Ctl.done (Ctl.done (Ctl.done 160))) (Ctl.cont ()) (λj e=>?_) ?_) ?_
  .unfold F_la;have r:=(d.get a e).2;have q:=(d.get e e).1;have f:=d.row j (by rw[d.far];exact e);simp only[l,ltN e,Vo,Qo r,Qo q,XJ,QaS (show j<=1048576 by omega)];refine Ea (Jw (c.Segments.length+1) (λk=> !decide (i64.wrap (farG c i j+farG c j k)<farG c i k)) (Ctl.done (Ctl.done (Ctl.done (Ctl.done (Ctl.done 160))))) (Ctl.cont ()) (λk h=>?_) ?_) ?_
   .unfold F_ks;have p:=(d.get e h).2;have m:=(d.get a h).2;simp only[f,ltN h,Vo,Qo p,Qo g,Qo m,XJ,QaS (show k<=1048576 by omega)];cases decide (i64.wrap (farG c i j+farG c j k)<farG c i k)<;>exact Qa _
   .unfold F_ks;simp only[f,geN (XT _),Vp];exact Qa _
   .cases(List.range (c.Segments.length+1)).all λk=> !decide (i64.wrap (farG c i j+farG c j k)<farG c i k)<;>exact Qa _
  .unfold F_la;simp only[l,geN (XT _),Vp];exact Qa _
  .cases(List.range (c.Segments.length+1)).all λj=>(List.range (c.Segments.length+1)).all λk=> !decide (i64.wrap (farG c i j+farG c j k)<farG c i k)<;>exact Qa _
 .unfold F_ka;simp only[QaS (show c.Segments.length<=1048576 by omega),geN (XT _),Vp];exact Qa _
def clkB(c:Clocks):Bool:= !(decide (511<(c.Segments.length:Int))||((c.Far.length:Int) != ((c.Segments.length+1:Nat):Int)))&&(segsB c&&(rowsB c&&triB c))
structure ClkW (c:Clocks):Prop where
 segs:c.Segments.length<=1048576
 far:c.Far.length<=1048576
 row:∀r∈c.Far,r.length<=1048576
theorem Qge{c:Clocks}(g:¬511<(c.Segments.length:Int))(d:c.Far.length=c.Segments.length+1)(f:rowsB c=true):Dims c:=by
 refine⟨by omega,d,λi a=>?_⟩;have:=Qjg.1 f i a;rw[XK a]at this⊢;simp only[rowB,Bool.not_eq_true',XX]at this;have e:((c.Far[i]).length:Int)=((c.Segments.length+1:Nat):Int):=by simpa[bne]using this.1
 simp only[Option.getD_some];omega
theorem Qli(c:Clocks)(w:ClkW c):Ev (λn=>F_ax n c) (bif clkB c then 0 else 160):=by
 unfold F_ax clkB;simp only[QaS w.segs];refine Ea (Qh λ_=>Qa _) ?_;cases a:(decide (511<(c.Segments.length:Int))||((c.Far.length:Int) != ((c.Segments.length+1:Nat):Int)))with
 |true=>exact Qa _
 |false=>
  simp only[Xh,Vz,XX,decide_eq_false_iff_not]at a⊢;have d:c.Far.length=c.Segments.length+1:=by
   have:(c.Far.length:Int)=((c.Segments.length+1:Nat):Int):=by simpa[bne]using a.2
   omega
  refine Qs (Ea (Qmu c w.segs) ?_);cases segsB c with
  |false=>exact Qa _
  |true=>
   refine Ea (Qmw c w.segs w.far w.row d) ?_;cases e:rowsB c with
   |false=>exact Qa _
   |true=>
    refine Ea (QnC c (Qge a.1 d e)) ?_;cases triB c<;>exact Qa _
theorem Qb6{c:Clocks}(h:clkB c=true):Dims c:=by
 simp only[clkB,XW,Bool.not_eq_true',XX,decide_eq_false_iff_not]at h;have a:c.Far.length=c.Segments.length+1:=by
  have:(c.Far.length:Int)=((c.Segments.length+1:Nat):Int):=by simpa[bne]using h.1.2
  omega
 exact Qge h.1.1 a h.2.2.1
set_option maxRecDepth 10000
structure CrsOk (c:Course):Prop where
 mats:c.Mats.length<=40
 res:0<=c.Faults.Residual/\c.Faults.Residual<=4294967296
 drift:0<=c.Faults.Drift/\c.Faults.Drift<=100000
def driftV(x k:Int):Int:=Int.tdiv ((if x<0-x then 0-x else x)*k+1000000-1) 1000000
theorem QbP{x k:Int}(j: -2199023255552<=x/\x<=2199023255552)(d:0<=k/\k<=100000):0<=driftV x k/\driftV x k<=274877906944/\0<=(if x<0-x then 0-x else x)*k/\(if x<0-x then 0-x else x)*k<=219902325555200000:=by
 generalize ha:(if x<0-x then 0-x else x)=a;have g:0<=a:=by rw[<- ha];split<;>omega
 have h:a<=2199023255552:=by rw[<- ha];split<;>omega
 have i:0<=a*k:=Int.mul_nonneg g d.1;have f:a*k<=2199023255552*100000:=Int.le_trans (Int.mul_le_mul_of_nonneg_right h d.1) (Int.mul_le_mul_of_nonneg_left d.2 (by decide));have e:(2199023255552:Int)*100000=219902325555200000:=by decide
 rw[e]at f;unfold driftV;rw[ha,Int.tdiv_eq_ediv_of_nonneg (by omega)];omega
theorem Qlc{x k:Int}(f: -2199023255552<=x/\x<=2199023255552)(g:0<=k/\k<=100000):Ev (λn=>F_dy n x k) (driftV x k,0):=by
 obtain⟨p,m,l,j⟩:=QbP f g;unfold F_dy;refine Ea (v:=false) ?_ ?_
 .rw[Qx (show¬(x< -2199023255552)by omega),Qx (show¬(2199023255552<x)by omega),Qx (show¬(k<0)by omega),Qx (show¬(100000<k)by omega)];exact Qa _
 .have d:i64.wrap (0-x)=0-x:=Qq (by omega) (by omega);have h:=Qq (n:=(if x<0-x then 0-x else x)*k) (by omega) (by omega);have i:=Qq (n:=(if x<0-x then 0-x else x)*k+1000000) (by omega) (by omega);have e:=Qq (n:=(if x<0-x then 0-x else x)*k+1000000-1) (by omega) (by omega);have a:=Qq (n:=driftV x k) (by omega) (by omega);refine Qs ?_;rw[d,h,i,e];unfold driftV at a⊢;rw[a];exact Qa _
def devV(c:Course)(k:Int)(s:Segment)(loc:Int):Span:=
 bif k != 1 then⟨0-driftV (loc-s.Anchor) c.Faults.Drift,c.Faults.Residual+driftV (loc-s.Anchor) c.Faults.Drift⟩else⟨0,c.Faults.Residual⟩
def isT(x:Int):Prop:= -1099511627776<=x/\x<=1099511627776
theorem Qlt{c:Course}(d:CrsOk c)(k:Int){s:Segment}{a:Int}(f:isT s.Anchor)(e:isT a): -274877906944<=(devV c k s a).Lo/\(devV c k s a).Lo<=0/\0<=(devV c k s a).Hi/\(devV c k s a).Hi<=279172874240:=by
 obtain⟨i,h⟩:=d.res;obtain⟨j,g,_,_⟩:=QbP (x:=a-s.Anchor) (by unfold isT at f e;omega) d.drift;unfold devV;cases k != 1 with
 |true=>simp only[Vo];omega
 |false=>simp only[Vp];omega
theorem Qh1{c:Course}(d:CrsOk c){i:Nat}{m:Mat}(f:c.Mats[i]?=some m){s:Segment}(j:s.Mat=(i:Int)){a:Int}(h:isT s.Anchor)(g:isT a):Ev (λn=>F_ae n c s a) (devV c m.Kind s a):=by
 obtain⟨q,p⟩:=d.res;have e: -2199023255552<=a-s.Anchor/\a-s.Anchor<=2199023255552:=by unfold isT at h g;omega
 obtain⟨k,l,_,_⟩:=QbP e d.drift;unfold F_ae devV;simp only[j,Qo f,XJ];cases m.Kind != 1 with
 |false=>exact Qa _
 |true=>
  simp only[Vo];refine Ea (v:=⟨0-driftV (a-s.Anchor) c.Faults.Drift,c.Faults.Residual+driftV (a-s.Anchor) c.Faults.Drift⟩) ?_ (Qa _);rw[Qq (n:=a-s.Anchor) (by omega) (by omega)];refine Ea (Qlc e d.drift) ?_;rw[Qq (n:=0-driftV (a-s.Anchor) c.Faults.Drift) (by omega) (by omega),Qq (n:=c.Faults.Residual+driftV (a-s.Anchor) c.Faults.Drift) (by omega) (by omega)];exact Qa _
def matB(c:Course)(x:Int):Bool:=decide (0<=x)&&decide (x<(c.Mats.length:Int))
theorem QeP(c:Course)(x:Int):Ev (λn=>F_az n c x) (matB c x):=by
 unfold F_az matB;exact Ea (Ei λ_=>Qa _) (Qa _)
theorem QkD{c:Course}{x:Int}(h:matB c x=true):∃i m,x=((i:Nat):Int)/\c.Mats[i]?=some m:=by
 unfold matB at h;simp only[XW,Vq]at h;exact⟨x.toNat,c.Mats[x.toNat]'(by omega),by omega,XK _⟩
def nb(v lo hi:Int):Bool:= !(decide (v<lo))&& !(decide (hi<v))
theorem QhN(v lo hi:Int):nb v lo hi=true↔lo<=v/\v<=hi:=by
 simp_all[nb]
theorem QkL(n:Nat)(v a b:Int):F_aq n v a b=some (nb v a b):=by
 unfold F_aq nb;have e:decide (a<=v)= !decide (v<a):=by grind
 have d:decide (v<=b)= !decide (b<v):=by grind
 rw[e,d]
 grind
theorem Qky(n:Nat)(v:Int):F_cb n v=some (nb v 0 255):=by unfold F_cb;rw[QkL];rfl
theorem Qmb(n:Nat)(v:Int):F_ci n v=some (nb v 0 1048576):=by unfold F_ci;rw[QkL];rfl
theorem Qma(n:Nat)(v:Int):F_ap n v=some (nb v (-1099511627776) 1099511627776):=by unfold F_ap;rw[QkL];rfl
def cmpPl(x y:Uc):Int:=orL [cmpI x.chip y.chip,cmpI x.mat y.mat,cmpI x.epoch y.epoch]
def ltPl(x y:Uc):Prop:=x.chip<y.chip\/(x.chip=y.chip/\(x.mat<y.mat\/(x.mat=y.mat/\x.epoch<y.epoch)))
theorem or3(n:Nat)(a b d:Int):F_ba (n+4) [a,b,d]=some (orL [a,b,d]):=by
 unfold F_ba;have e:F_ay (n+4) [a,b,d] 0=bif a != 0 then some (.done (.done a))else some (.cont 1):=rfl
 have f:F_ay (n+4) [a,b,d] 1=bif b != 0 then some (.done (.done b))else some (.cont 2):=rfl
 have h:F_ay (n+4) [a,b,d] 2=bif d != 0 then some (.done (.done d))else some (.cont 3):=rfl
 have g:F_ay (n+4) [a,b,d] 3=some (.done (.cont ())):=rfl;unfold orL orL orL orL;rw[iter,e];cases q:(a != 0)with
 |true=>rfl
 |false=>
  simp only[Vp];rw[iter,f];cases i:(b != 0)with
  |true=>rfl
  |false=>
   simp only[Vp];rw[iter,h];cases j:(d != 0)with
   |true=>rfl
   |false=>
    simp only[Vp];rw[iter,g];rfl
theorem QgL(n:Nat):(λx y=>F_cg (n+4) x y)=λx y=>some (cmpPl x y):=by
 funext x y
 unfold F_cg cmpPl;simp only[QiQ,XJ,or3]
theorem Qlu(x y:Uc):cmpPl x y<0↔ltPl x y:=by
 unfold cmpPl orL orL orL orL ltPl;have e:∀a b:Int,(cmpI a b != 0)= !decide (a=b):=λa b=>by
  rw[XY];simp[Qbd]
 rw[e,e,e];by_cases d:x.chip=y.chip
 .by_cases f:x.mat=y.mat
  .by_cases g:x.epoch=y.epoch
   .simp[d,f,g]
   .simp only[d,f,g,decide_true,decide_false,Xg,Xh,Vo,Vp,Qgf,true_and,false_and,or_false];omega
  .simp only[d,f,decide_true,decide_false,Xg,Xh,Vo,Vp,Qgf,true_and,false_and,or_false];omega
 .simp only[d,decide_false,Xh,Vo,Qgf,true_and,false_and,or_false]
theorem Qh6(x y:Uc):cmpPl x y=0↔x=y:=by
 unfold cmpPl orL orL orL orL;have e:∀a b:Int,(cmpI a b != 0)= !decide (a=b):=λa b=>by
  rw[XY];simp[Qbd]
 rw[e,e,e];by_cases d:x.chip=y.chip
 .by_cases f:x.mat=y.mat
  .by_cases g:x.epoch=y.epoch
   .simp only[d,f,g,decide_true,Xg,Vp,true_iff];cases x;cases y;simp_all
   .simp only[d,f,g,decide_true,decide_false,Xg,Xh,Vo,Vp,Qbd];exact⟨λz=>z.elim,λz=>g (by rw[z])⟩
  .simp only[d,f,decide_true,decide_false,Xg,Xh,Vo,Vp,Qbd];exact⟨λz=>z.elim,λz=>f (by rw[z])⟩
 .simp only[d,decide_false,Xh,Vo,Qbd];exact⟨λz=>z.elim,λz=>d (by rw[z])⟩
def plH(h:Hit):Uc:=⟨h.Chip,h.Mat,h.Epoch⟩
def wrongH(c:Course)(h:Hit):Bool:=decide (h.Mat<0)||(decide ((c.Mats.length:Int)<=h.Mat)||(!nb h.Epoch 0 255||(!nb h.Chip 0 1048576||(!nb h.First (-1099511627776) 1099511627776||(!nb h.Last (-1099511627776) 1099511627776||decide (h.Last<h.First))))))
def folB(W:Int)(a b:Hit):Bool:=decide (cmpPl (plH a) (plH b)<0)||(decide (cmpPl (plH a) (plH b)=0)&&decide (W<i64.wrap (b.First-a.Last)))
def okAt(c:Course)(x:List Hit)(i:Nat):Bool:=match x[i]? with
 |none=>true
 |some h=> !wrongH c h&&((i==0)||(match x[i-1]? with
  |none=>true
  |some p=>folB c.Faults.Window p h))
def chkFrom(ok:Nat->Bool):Nat->Nat->Bool
 |0,_=>true
 |d+1,i=>ok i&&chkFrom ok d (i+1)
def checkH(c:Course)(x:List Hit):Bool:=chkFrom (okAt c x) x.length 0
theorem QcP(c:Course)(x:List Hit)(y:x.length<=1000000)(step:Nat->Int->Option (Ctl Int (Ctl Unit Int)))
  (w:∀i h,At x i h->(∀p,0<i->x[i-1]?=some p->Ev (λn=>step n (i:Int)) (bif wrongH c h then Ctl.done (Ctl.done 170)else bif folB c.Faults.Window p h then Ctl.cont ((i+1:Nat):Int)else Ctl.done (Ctl.done 170)))/\(i=0->Ev (λn=>step n (i:Int)) (bif wrongH c h then .done (.done 170)else .cont ((i+1:Nat):Int))))
  (r:Ev (λn=>step n (x.length:Int)) (.done (.cont ()))):Ev (λn=>iter (step n) n 0) (bif checkH c x then Ctl.cont ()else Ctl.done 170):=by
 have:=Qc3 (step:=step) (s0:=(0:Int)) (λi=>(i:Int)) x.length (λi=>(bif chkFrom (okAt c x) (x.length-i) i then Ctl.cont ()else Ctl.done 170:Ctl Unit Int)) rfl (λi m=>?_) ?_
 .exact this
 .have g:=Y9 (x:=x[i]) (show x.length<=4611686018427387904 by omega) (XK m);generalize x[i]=h at g;obtain⟨s,t⟩:=w i h g;have q:x.length-i=(x.length-(i+1))+1:=by omega
  have j:okAt c x i=(!wrongH c h&&((i==0)||(match x[i-1]? with|none=>true|some p=>folB c.Faults.Window p h))):=by
   unfold okAt;rw[g.get]
  have f:chkFrom (okAt c x) (x.length-i) i=(okAt c x i&&chkFrom (okAt c x) (x.length-(i+1)) (i+1)):=by rw[q];rfl
  rw[f,j];by_cases k:i=0
  .have a:=t k;cases d:wrongH c h with
   |true=>rw[d]at a;exact .inr (a.eq (by simp))
   |false=>rw[d]at a;exact .inl ⟨a,by simp[k]⟩
  .have l:x[i-1]?=some x[i-1]:=XK (by omega);have a:=s _ (by omega) l;rw[l];have u:(i==0)=false:=by simpa using k
   rw[u];cases d:wrongH c h with
   |true=>rw[d]at a;exact .inr (a.eq (by simp))
   |false=>
    rw[d]at a;cases e:folB c.Faults.Window x[i-1] h with
    |true=>rw[e]at a;exact .inl ⟨a,by simp[e]⟩
    |false=>rw[e]at a;exact .inr (a.eq (by simp[e]))
 .rw[Nat.sub_self];exact r
theorem Qhg(p q:Uc):Ev (λn=>F_cg n p q) (cmpPl p q):=by
 refine⟨4,λn a=>?_⟩;obtain⟨k,rfl⟩:∃k,n=k+4:=⟨n-4,by omega⟩;exact congrFun (congrFun (QgL k) p) q
theorem Qmk(n:Nat)(v:Int):F_ao n v=some (nb v (-1099511627776) 1099511627776):=by
 unfold F_ao;by_cases a:(-1099511627776)<=v
 .rw[Qw a];simp only[Vo,XJ,Option.some.injEq];rw[XY,QhN,Vq];omega
 .rw[Qx a];simp only[Vp,XJ,Option.some.injEq]
  symm
  rw[VL];intro z;rw[QhN]at z;omega
theorem QjA{e:Int}(c:Course)(x:List Hit)(w:x.length<=1000000)(he:Ev (λn=>F_d n c) e):Ev (λn=>F_do n c x) (bif e != 0 then e else bif checkH c x then 0 else 170):=by
 unfold F_do;refine Ea he ?_;cases(e != 0)with
 |true=>exact Qa _
 |false=>
  simp only[Vp];refine Ea (QcP c x w _ (λi h a=>?_) ?_) ?_
  .have l:Ev (λn=>((bif decide (h.Mat<0)then some true else(bif decide ((c.Mats.length:Int)<=h.Mat)then some true else(bif decide (h.Epoch<0)then some true else(bif decide (255<h.Epoch)then some true else(bif decide (h.Chip<0)then some true else(bif decide (1048576<h.Chip)then some true else(F_ao n h.First).bind λj=>(bif (!j)then some true else(F_ao n h.Last).bind λf=>(bif (!f)then some true else some (decide (h.Last<h.First)))))))))):Option Bool)) (wrongH c h):=by
    have e:wrongH c h=(decide (h.Mat<0)||(decide ((c.Mats.length:Int)<=h.Mat)||(decide (h.Epoch<0)||(decide (255<h.Epoch)||(decide (h.Chip<0)||(decide (1048576<h.Chip)||(!nb h.First (-1099511627776) 1099511627776||(!nb h.Last (-1099511627776) 1099511627776||decide (h.Last<h.First))))))))):=by
     unfold wrongH;have s:∀v lo d:Int,(!nb v lo d)=(decide (v<lo)||decide (d<v)):=λv lo d=>by unfold nb;simp
     rw[s h.Epoch,s h.Chip,Bool.or_assoc,Bool.or_assoc]
    rw[e];refine Qh λ_=>Qh λ_=>Qh λ_=>Qh λ_=>Qh λ_=>Qh λ_=>?_;simp only[Qmk,XJ];exact Qh λ_=>Qh λ_=>Qa _
   refine⟨λp d t=>?_,λd=>?_⟩
   .have m:((i:Int)==0)=false:=by rw[Vy];omega
    have k:i64.wrap ((i:Int)-1)=((i-1:Nat):Int):=by
     have:=a.lt';rw[Qq (by omega) (by omega)];omega
    unfold F_if;simp only[a.lt,Vo,a.ix,XJ,a.nx,m,Vp,k,Qo t];cases r:wrongH c h with
    |true=>
     refine Ea (v:=(Ctl.done (Ctl.done (Ctl.done 170)):Ctl Unit (Ctl Int (Ctl Unit Int)))) (Ea l ?_) (Qa _);rw[r];exact Qa _
    |false=>
     refine Ea (v:=(bif folB c.Faults.Window p h then Ctl.cont ()else Ctl.done (Ctl.done (Ctl.done 170)):Ctl Unit (Ctl Int (Ctl Unit Int)))) (Ea l ?_) ?_
     .rw[r];simp only[Vp];refine Ea (Qhg _ _) ?_;show Ev (λn=>((bif decide (0<cmpPl (plH p) (plH h))then some (decide (0<cmpPl (plH p) (plH h)))else(bif (cmpPl (plH p) (plH h)==0)then some (decide ((i64.wrap (h.First-p.Last))<=c.Faults.Window))else some false)):Option Bool).bind λg=>((bif g then some (Ctl.done (Ctl.done (Ctl.done 170)))else some (Ctl.cont ())):Option (Ctl Unit (Ctl Int (Ctl Unit Int))))) _;unfold folB;rcases Int.lt_trichotomy (cmpPl (plH p) (plH h)) 0 with q|q|q
      .rw[Qx (show¬0<cmpPl (plH p) (plH h)by omega),Qw q,show(cmpPl (plH p) (plH h)==0)=false by rw[Vy];omega];exact Qa _
      .rw[q];by_cases z:c.Faults.Window<i64.wrap (h.First-p.Last)
       .rw[Qw z,Qx (show¬i64.wrap (h.First-p.Last)<=c.Faults.Window by omega)];exact Qa _
       .rw[Qx z,Qw (show i64.wrap (h.First-p.Last)<=c.Faults.Window by omega)];exact Qa _
      .rw[Qw q,Qx (show¬cmpPl (plH p) (plH h)<0 by omega),Qx (show¬cmpPl (plH p) (plH h)=0 by omega)];exact Qa _
     .cases folB c.Faults.Window p h<;>exact Qa _
   .subst d;unfold F_if;have u:(((0:Nat):Int)==0)=true:=rfl;simp only[a.lt,Vo,a.ix,XJ,a.nx,u];refine Ea (v:=(bif wrongH c h then Ctl.done (Ctl.done (Ctl.done 170))else Ctl.cont ():Ctl Unit (Ctl Int (Ctl Unit Int)))) (Ea l ?_) ?_
    .cases wrongH c h<;>exact Qa _
    .cases wrongH c h<;>exact Qa _
  .unfold F_if;simp only[Qao,Vp];exact Qa _
  .cases checkH c x<;>exact Qa _
theorem Qmo(n:Nat)(a b:Hit)(W:Int):F_eu n a b W=some (folB W a b):=by
 unfold F_eu folB bne;have i:=Qlu (plH a) (plH b);have d:=Qh6 (plH a) (plH b);have h:plH a=plH b↔a.Chip=b.Chip/\a.Mat=b.Mat/\a.Epoch=b.Epoch:=by
  unfold plH;simp only[Uc.mk.injEq]
 rw[h]at d;unfold ltPl at i;change _↔a.Chip<b.Chip\/(a.Chip=b.Chip/\(a.Mat<b.Mat\/(a.Mat=b.Mat/\a.Epoch<b.Epoch)))at i;by_cases e:a.Chip=b.Chip
 .rw[Vx.2 e];simp only[Xg,Vp];by_cases f:a.Mat=b.Mat
  .rw[Vx.2 f];simp only[Xg,Vp];by_cases g:a.Epoch=b.Epoch
   .rw[Vx.2 g];have z:=d.2 ⟨e,f,g⟩;rw[z];simp
   .rw[Vy.2 g];have:¬cmpPl (plH a) (plH b)=0:=λz=>g (d.1 z).2.2;rw[Qx this];simp only[Xh,Vo,Bool.false_and,Bool.or_false,Option.some.injEq,decide_eq_decide];omega
  .rw[Vy.2 f];have:¬cmpPl (plH a) (plH b)=0:=λz=>f (d.1 z).2.1;rw[Qx this];simp only[Xh,Vo,Bool.false_and,Bool.or_false,Option.some.injEq,decide_eq_decide];omega
 .rw[Vy.2 e];have:¬cmpPl (plH a) (plH b)=0:=λz=>e (d.1 z).1;rw[Qx this];simp only[Xh,Vo,Bool.false_and,Bool.or_false,Option.some.injEq,decide_eq_decide];omega
theorem Qjx{e:Int}(c:Course)(x:List Hit)(t:x.length<=1000000)(he:Ev (λn=>F_c n c) e):Ev (λn=>F_ee n c x) (bif e != 0 then e else bif checkH c x then 0 else 170):=by
 unfold F_ee;refine Ea he ?_;cases(e != 0)with
 |true=>exact Qa _
 |false=>
  simp only[Vp];refine Ea (QcP c x t _ (λi h a=>?_) ?_) ?_
  .have m:Ev (λn=>((bif decide (h.Mat<0)then some true else(bif decide ((c.Mats.length:Int)<=h.Mat)then some true else(F_cb n h.Epoch).bind λk=>(bif (!k)then some true else(F_ci n h.Chip).bind λf=>(bif (!f)then some true else(F_ap n h.First).bind λg=>(bif (!g)then some true else(F_ap n h.Last).bind λj=>(bif (!j)then some true else some (decide (h.Last<h.First)))))))):Option Bool)) (wrongH c h):=by
    unfold wrongH;refine Qh λ_=>Qh λ_=>?_;simp only[Qky,Qmb,Qma,XJ];exact Qh λ_=>Qh λ_=>Qh λ_=>Qh λ_=>Qa _
   refine⟨λp l r=>?_,λl=>?_⟩
   .have d:i64.wrap ((i:Int)-1)=((i-1:Nat):Int):=by
     have:=a.lt';rw[Qq (by omega) (by omega)];omega
    unfold F_jh;simp only[a.lt,Vo,a.ix,XJ,a.nx,Qw (show(0:Int)<(i:Int)by omega),d,Qo r,Qmo];refine Ea m ?_;cases q:wrongH c h with
    |true=>exact Qa _
    |false=>
     simp only[Vp];cases folB c.Faults.Window p h<;>exact Qa _
   .subst l;unfold F_jh;have s:decide ((0:Int)<((0:Nat):Int))=false:=rfl;simp only[a.lt,Vo,a.ix,XJ,a.nx,s,Vp];refine Ea m ?_;cases q:wrongH c h<;>exact Qa _
  .unfold F_jh;simp only[Qao,Vp];exact Qa _
  .cases checkH c x<;>exact Qa _
theorem Qhq(c:Course)(a:Course.wf c):∃b,Ev (λn=>F_cr n c) b/\(b=true->FewOk c/\Ev (λn=>F_d n c) (courseE c)):=by
 have w:=QdL a;have q:=QeX a;obtain⟨f,d⟩:=Qiu a;obtain⟨b,g,fb⟩:=Qgd c w q f d;exact⟨b,g,λe=>⟨fb e,QjF c w q (fb e) f d⟩⟩
mutual
def flP:Part->List Int
 |⟨m,laps,ps⟩=>bif laps==0 then[m]else(List.replicate laps.toNat (flPs ps)).flatten
def flPs:List Part->List Int
 |[]=>[]
 |p::r=>flP p++flPs r
end
theorem Qdj(p:Part):flP p=bif p.Laps==0 then[p.Mat]else(List.replicate p.Laps.toNat (flPs p.Parts)).flatten:=by cases p;rfl
theorem Qa7(p:Part)(r:List Part):flPs (p::r)=flP p++flPs r:=by rw[flPs]
theorem QgJ:∀(k:Nat) (out lap:List Int),(repS k out lap).length<=256->repS k out lap=out++(List.replicate k lap).flatten
 |0,out,lap,_=>by simp[repS]
 |k+1,out,lap,h=>by
  rw[repS]at h⊢;by_cases hb:256<out.length
  .rw[Vs hb]at h;omega
  .rw[Vr hb]at h⊢;rw[QgJ k _ _ h,Xl,Vl,Vi]
theorem Qf3{a:Int}{p:Part}(h:partS a p=true):p.Laps=0\/(1<=p.Laps/\p.Laps<=64/\partsS a p.Parts=true):=by
 rw[Qa3]at h;cases d:(p.Laps==0)with
 |true=>exact .inl (by simpa using d)
 |false=>
  rw[d]at h;simp only[Vp,XW,inR,Vq]at h;exact .inr ⟨h.1.1,h.1.2,h.2.2.2⟩
theorem QkZ(w:Int):∀(m:Nat) (l:List Part) (e:List Int),szPs l<=m->partsS w l=true->(expS e l).length<=256->expS e l=e++flPs l:=by
 intro m
 induction m using Nat.strongRecOn with
 |_ m x=>
 intro l
 induction l with
 |nil=>intro e _ _ _;rw[expS,flPs,Vg]
 |cons p r k=>
  intro e u q n;rw[Y1,List.all_cons,XW, <- Y1]at q;have i:szP p+szPs r<=m:=by rw[szPs]at u;omega
  rw[expS]at n⊢;by_cases g:256<(repS (p.Laps.toNat+(bif decide (0<p.Laps)then 0 else 1)) e (lapS p)).length
  .rw[QcN r g]at n;omega
  .have s:=QgJ _ _ _ (Nat.le_of_not_lt g);rw[k _ (by omega) q.2 n,s,Qa7,Vi];congr 2;rcases Qf3 q.1 with t|⟨a,b,d⟩
   .have h:decide (0<p.Laps)=false:=Qx (by omega);have j:(p.Laps==0)=true:=by simp[t]
    rw[QaB,Qdj,h,j,t];simp
   .have h:decide (0<p.Laps)=true:=Qw (by omega);have j:(p.Laps==0)=false:=beq_false_of_ne (by omega);have f:(lapS p).length<=256:=by
     rw[s,h]at g;simp only[Vo,Xx]at g;have:p.Laps.toNat=(p.Laps.toNat-1)+1:=by omega
     rw[this,Xl,Vl]at g;simp only[X3]at g;omega
    rw[QaB,h,Vo]at f;rw[YG]at i;have:=x (szPs p.Parts) (by omega) p.Parts [] (XT _) d f;rw[QaB,Qdj,h,j,Vo,Vo,Vp,Xx,this,Vh]
theorem Qmq(R:Int):∀(m:Nat) (l:List Part) (e:List Int),szPs l<=m->partsS R l=true->l.length<=1048576->(∀x∈l,Part.wf x)->e.length+(flPs l).length<=256->Ev (λn=>F_n n l e) (e++flPs l):=by
 intro m
 induction m using Nat.strongRecOn with
 |_ m T=>
 intro l e X E W N O;rw[Y1,Xs]at E;refine Yy ?_;show Ev (λn=>B_n (F_n n) n l e) _;unfold B_n;have inner:∀(p:Part) (w:List Int),0<=p.Laps->p.Laps<=64->(∀o:List Int,o.length+w.length<=256->Ev (λn=>F_n n p.Parts o) (o++w))->∀(k j:Nat) (o:List Int),j+k=p.Laps.toNat->o.length+(List.replicate k w).flatten.length<=256->
   EvI (λn=>F_fp n (F_n n) p) (o,(j:Int)) (o++(List.replicate k w).flatten):=by
  intro p w F H q k
  induction k with
  |zero=>
   intro j o V _;refine Ej ?_;unfold F_fp;simp only[Qx (show¬((j:Int)<p.Laps)by omega),Vp,List.replicate_zero,List.flatten_nil,Vg];exact Qa _
  |succ k s=>
   intro j o V g;rw[Xl,Vl]at g⊢;simp only[X3]at g;refine(Ex ?_ (s (j+1) (o++w) (by omega) (by rw[X3];omega))).eq (by rw[Vi]);unfold F_fp;simp only[Qw (show(j:Int)<p.Laps by omega),Vo];refine Ea (q o (by omega)) ?_;rw[QO (by omega)];exact Qa _
 have loop:∀(r:List Part) (i:Nat) (o:List Int),l.drop i=r->i<=l.length->o.length+(flPs r).length<=256->EvI (λn=>F_jt n l (F_n n)) (o,(i:Int)) (o++flPs r):=by
  intro r
  induction r with
  |nil=>
   intro i o q B _;refine Ej ?_;unfold F_jt;simp only[QJ q B,Vp,flPs,Vg];exact Qa _
  |cons p r y=>
   intro i o q B g;obtain⟨f,u⟩:=Qv (by omega) q;have L:=f.lt';rw[Qa7,X3]at g;have J:=YU f.mem;rw[YG]at J;obtain⟨P,Q⟩:=Yc (N p f.mem);have G:=E p f.mem;refine(Ex ?_ (y (i+1) (o++flP p) u (by omega) (by rw[X3];omega))).eq (by rw[Qa7,Vi]);unfold F_jt;simp only[f.lt,Vo,f.ix,XJ,f.nx];rcases Qf3 G with F|⟨a,b,d⟩
   .have h:(p.Laps==0)=true:=by simp[F]
    have z:flP p=[p.Mat]:=by rw[Qdj,h];rfl
    rw[z]at g⊢;refine Ea (v:=o++[p.Mat]) ?_ ?_
    .rw[h];refine Qaq ?_;rw[QmJ _ _ (by simp;omega)];exact Qa _
    .refine Ea (v:=o++[p.Mat]) ((Ej ?_).ev) (Qa _);unfold F_fp;simp only[Qx (show¬((0:Int)<p.Laps)by omega),Vp];exact Qa _
   .have h:(p.Laps==0)=false:=beq_false_of_ne (by omega);have z:flP p=(List.replicate p.Laps.toNat (flPs p.Parts)).flatten:=by rw[Qdj,h];rfl
    rw[z]at g⊢;refine Ea (v:=o) ?_ ?_
    .rw[h];exact Qa _
    .refine Ea ((inner p (flPs p.Parts) (by omega) b (λM t=>T (szPs p.Parts) (by omega) p.Parts M (XT _) d P Q t) p.Laps.toNat 0 o (by omega) (by omega)).ev) (Qa _)
 exact Ea ((loop l 0 e (by simp) (XU _) O).ev) (Qa _)
structure Good (c:Course):Prop where
 parts:∀d∈c.Distances,partsS ((c.Mats.length:Int)-1) d.Route=true
 route:∀d∈c.Distances,2<=(expS [] d.Route).length/\(expS [] d.Route).length<=256
 len:∀d∈c.Distances,d.Route.length<=1048576
 wf:∀d∈c.Distances,∀x∈d.Route,Part.wf x
 legs:c.Legs.length<=512
theorem Good.exp{c:Course}(g:Good c){d:Distance}(a:d∈c.Distances):expS [] d.Route=flPs d.Route:=by
 have:=QkZ _ _ d.Route [] (XT _) (g.parts d a) (g.route d a).2
 rwa [Vh]at this
theorem QdE{c:Course}(g:Good c){d:Distance}(a:d∈c.Distances):Ev (λn=>F_ev n d.Route) (flPs d.Route):=by
 unfold F_ev;have h:=(g.route d a).2;rw[g.exp a]at h;refine Ea ((Qmq _ _ d.Route [] (XT _) (g.parts d a) (g.len d a) (g.wf d a) (by simpa using h)).eq (Vh _)) (Qa _)
theorem Qgc{c:Course}(he:Ev (λn=>F_d n c) 0){i:Nat}{d:Distance}(a:c.Distances[i]?=some d):Ev (λn=>F_bu n c (i:Int)) (d,0):=by
 unfold F_bu;refine Ea he ?_;have e:=(XL.1 a).1;refine Qs (Ea (v:=false) ?_ ?_)
 .rw[Qx (show¬((i:Int)<0)by omega),Qx (show¬((c.Distances.length:Int)<=(i:Int))by omega)];exact Qa _
 .simp only[Vp,Qo a,XJ];exact Qa _
theorem QmA(c:Course)(a:c.Legs.length<=512):∃m,Ev (λn=>Go.Sw.iter (F_jo n c) n (([]:List (Ub×Leg)),0)) m:=by
 refine⟨_,QaD c.Legs (λ(m:List (Ub×Leg)) x=>Q3 m ({from_:=x.From,to_:=x.To:Ub}) x) [] (λm i=>(m,(i:Int))) (λm=>m) (by omega) rfl (λi x m ha _=>?_) ?_⟩
 .unfold F_jo;simp only[ha.lt,Vo,ha.ix,XJ,ha.nx];exact Qa _
 .unfold F_jo;simp only[Qao,Vp];exact Qa _
theorem Qkb{α:Type}{step:Nat->Int->Option (Ctl Int (Ctl Unit Int))}(l:List α)(q:α->Bool)(z:l.length<=1048576)
  (s:∀i x,At l i x->Ev (λn=>step n (i:Int)) (bif q x then .done (.done (i:Int))else .cont ((i+1:Nat):Int)))(t:Ev (λn=>step n (l.length:Int)) (.done (.cont ()))):
  (∃i x,At l i x/\l.find? q=some x/\Ev (λn=>Go.Sw.iter (step n) n 0) (.done (i:Int)))\/l.find? q=none/\Ev (λn=>Go.Sw.iter (step n) n 0) (.cont ()):=by
 have m:∀(r:List α) (i:Nat),l.drop i=r->i<=l.length->(∃j x,At l j x/\r.find? q=some x/\EvI step (i:Int) (.done (j:Int)))\/r.find? q=none/\EvI step (i:Int) (.cont ()):=by
  intro r
  induction r with
  |nil=>
   intro i f p;have:i=l.length:=by have:=Xq.1 f;omega
   subst this;exact .inr ⟨rfl,Ej t⟩
  |cons x r u=>
   intro i f p;obtain⟨g,k⟩:=Qv (by omega) f;have w:=g.lt';have h:=s i x g;rw[List.find?_cons];cases e:q x with
   |true=>rw[e]at h;exact .inl ⟨i,x,g,rfl,Ej h⟩
   |false=>
    rw[e]at h;rcases u (i+1) k (by omega)with⟨j,y,a,b,d⟩|⟨a,b⟩
    .exact .inl ⟨j,y,a,b,Ex h d⟩
    .exact .inr ⟨a,Ex h b⟩
 rcases m l 0 (by simp) (XU _)with⟨j,x,a,b,d⟩|⟨a,b⟩
 .exact .inl ⟨j,x,a,b,d.ev⟩
 .exact .inr ⟨a,b.ev⟩
theorem Qmm{c:Course}(w:CourseOk c)(q:PartsOk c)(h:courseE c=0):Good c:=by
 unfold courseE at h;cases f:fitsS c with
 |false=>rw[f]at h;cases h
 |true=>
  rw[f]at h;cases k:namesS c with
  |false=>rw[k]at h;cases h
  |true=>
   rw[k]at h;cases e:numbersS c with
   |false=>rw[e]at h;cases h
   |true=>
    rw[e]at h;simp only[Vo]at h;have g:c.Distances.all (routeS c)=true:=by
     cases i:(tiesE c.Ties==0)with
     |false=>
      rw[i,Vp]at h;rw[Vy]at i;exact absurd h i
     |true=>
      rw[i,Vo]at h;cases g:c.Distances.all (routeS c)with
      |true=>rfl
      |false=>rw[g]at h;cases h
    unfold numbersS at e;simp only[XW]at e;obtain⟨_,_,_,j,_⟩:=e;unfold fitsS at f;simp only[XW,Bool.not_eq_true',XX,decide_eq_false_iff_not]at f;rw[Xs]at g j;refine⟨λd a=>?_,λd a=>?_,q.len,q.wf,?_⟩
    .have:=j d a;unfold distS at this;simp only[XW]at this;exact this.2.2.1
    .have:=g d a;unfold routeS routeR at this;simp only[XW,Vq]at this;exact this.1
    .have:=f.1.2.1;omega
theorem Ql7:∀j:Fin 257,(decide (0<(u64.wrap ((u64.wrap ((u64.wrap ((Yl .u64 (u64.wrap ([(0:Int)].length:Int)) 32)*(Yl .u64 (u64.wrap ((j:Nat):Int)) 32)))+(Yl .u64 (u64.wrap ((u64.wrap ((Yl .u64 (u64.wrap ([(0:Int)].length:Int)) 32)*(Ym .u64 (u64.wrap ((j:Nat):Int)) 4294967295)))+(Yl .u64 (u64.wrap ((Ym .u64 (u64.wrap ([(0:Int)].length:Int)) 4294967295)*(Ym .u64 (u64.wrap ((j:Nat):Int)) 4294967295))) 32))) 32)))+(Yl .u64 (u64.wrap ((Ym .u64 (u64.wrap ((u64.wrap ((Yl .u64 (u64.wrap ([(0:Int)].length:Int)) 32)*(Ym .u64 (u64.wrap ((j:Nat):Int)) 4294967295)))+(Yl .u64 (u64.wrap ((Ym .u64 (u64.wrap ([(0:Int)].length:Int)) 4294967295)*(Ym .u64 (u64.wrap ((j:Nat):Int)) 4294967295))) 32))) 4294967295)+(u64.wrap ((Ym .u64 (u64.wrap ([(0:Int)].length:Int)) 4294967295)*(Yl .u64 (u64.wrap ((j:Nat):Int)) 32))))) 32)))))=false:=by decide+kernel
theorem Qkw:∀j:Fin 257,(decide (9223372036854775807<(u64.wrap ((u64.wrap ([(0:Int)].length:Int))*(u64.wrap ((j:Nat):Int))))))=false:=by decide+kernel
theorem Ql8:∀j:Fin 257,(i64.wrap (u64.wrap ((u64.wrap ([(0:Int)].length:Int))*(u64.wrap ((j:Nat):Int)))))=((j:Nat):Int):=by decide+kernel
theorem Qkx(x:Int)(K:Nat)(p:K<=256):∀(m j:Nat),1<=j->j<=K->K-j<=m->EvI (λn=>F_gd n) (List.replicate j x++List.replicate (K-j) 0,(j:Int)) (List.replicate K x):=by
 intro m
 induction m with
 |zero=>
  intro j h k l;obtain rfl:j=K:=by omega
  refine Ej ?_;unfold F_gd;rw[Nat.sub_self,List.replicate_zero,Vg];simp only[List.length_replicate,Qx (show¬((j:Int)<(j:Int))by omega),Vp];exact Qa _
 |succ m g=>
  intro j h k l;by_cases i:j=K
  .subst i;refine Ej ?_;unfold F_gd;rw[Nat.sub_self,List.replicate_zero,Vg];simp only[List.length_replicate,Qx (show¬((j:Int)<(j:Int))by omega),Vp];exact Qa _
  .have e:(List.replicate j x++List.replicate (K-j) (0:Int)).length=K:=by simp;omega
   refine Ex ?_ (g (j+min j (K-j)) (by omega) (by omega) (by omega));unfold F_gd;simp only;generalize hL:List.replicate j x++List.replicate (K-j) (0:Int)=L at e;have a:L.take j=List.replicate j x:=by rw[<- hL,List.take_left' (by simp)]
   have f:L.drop j=List.replicate (K-j) 0:=by rw[<- hL,List.drop_left' (by simp)]
   rw[Qw (by omega),Vo,Qkr L (by omega),XJ,Qm8 L (by omega),XJ];unfold cpy;simp only[XJ,Int.toNat_natCast,e,a];have d:L.take j++(List.replicate j x).take (K-j)++L.drop (j+min (List.replicate j x).length (K-j))=List.replicate (j+min j (K-j)) x++List.replicate (K-(j+min j (K-j))) 0:=by
    rw[<- List.drop_drop,a,f,List.length_replicate,List.take_replicate,List.drop_replicate,List.replicate_append_replicate];rw[Nat.min_comm (K-j) j,Nat.sub_sub]
   rw[a]at d;rw[d];have w:i64.wrap ((j:Int)+((min (List.replicate j x).length (K-j):Nat):Int))=((j+min j (K-j):Nat):Int):=by
    rw[List.length_replicate,Qq (by omega) (by omega)];omega
   rw[w];exact Qa _
theorem YA{α:Type}{c:Bool}{f g:Nat->Option α}{v:α}(h:c=false)(q:Ev g v):Ev (λn=>bif c then f n else g n) v:=by subst h;exact q
theorem QjE(x:Int)(k:Nat)(f:1<=k)(h:k<=256):Ev (λn=>F_bs n [x] (k:Int)) (List.replicate k x):=by
 have d:=Ql7 ⟨k,by omega⟩;have g:=Qkw ⟨k,by omega⟩;have a:=Ql8 ⟨k,by omega⟩;unfold F_bs;refine Ea (v:=()) (by rw[Qx (show¬((k:Int)<0)by omega)];exact Qa _) (Ea (v:=()) (Qa _) (Ea (v:=false) ?_ (Ea (v:=()) (Qa _) ?_)))
 .exact YA d (EA (congrArg some g))
 .refine Ea (v:=List.replicate k 0) (EA ((congrArg (λz=>mk z (0:Int)) a).trans ?_)) ?_
  .show mk (k:Int) 0=_;unfold mk;rw[Qw (by omega),Qw (by omega)];rfl
  .refine Ea (v:=List.replicate 1 x++List.replicate (k-1) 0) (EA ?_) ?_
   .unfold cpy;simp only[List.length_replicate,Int.toNat_natCast,List.length_singleton];obtain⟨m,rfl⟩:∃m,k=m+1:=⟨k-1,by omega⟩;simp
   .have e:((min [x].length (List.replicate k (0:Int)).length:Nat):Int)=((1:Nat):Int):=by simp;omega
    rw[e];exact Ea ((Qkx x k h k 1 (XT _) f (by omega)).ev) (Qa _)
set_option maxRecDepth 10000
theorem Qdk(c:Course)(x:Int):Ev (λn=>F_aw n c x) (matB c x):=by
 unfold F_aw matB;exact Ea (Ei λ_=>Qa _) (Qa _)
theorem Qbp(x:Int):Ev (λn=>F_k n x) (timeB x):=by
 unfold F_k timeB inR;exact Ea (Ei λ_=>Qa _) (Qa _)
theorem Qhe{x k:Int}(f: -2199023255552<=x/\x<=2199023255552)(g:0<=k/\k<=100000):Ev (λn=>F_dm n x k) (driftV x k,0):=by
 obtain⟨j,l,m,i⟩:=QbP f g;unfold F_dm;refine Ea (v:=false) ?_ ?_
 .rw[Qx (show¬(x< -2199023255552)by omega),Qx (show¬(2199023255552<x)by omega),Qx (show¬(k<0)by omega),Qx (show¬(100000<k)by omega)];exact Qa _
 refine Qs (Ea (v:=if x<0-x then 0-x else x) ?_ ?_)
 .by_cases h:x<0
  .rw[Qw h,Vs (by omega),Qq (by omega) (by omega)];exact Qa _
  .rw[Qx h,Vr (by omega)];exact Qa _
 unfold driftV;generalize(if x<0-x then 0-x else x)*k=a at*;have d:Int.tdiv a 1000000=a/1000000:=Int.tdiv_eq_ediv_of_nonneg (by omega);have e:Int.tdiv (a+1000000-1) 1000000=(a+1000000-1)/1000000:=Int.tdiv_eq_ediv_of_nonneg (by omega);rw[Qq (n:=a) (by omega) (by omega),d,e,Qq (n:=a/1000000) (by omega) (by omega),Qq (n:=a/1000000*1000000) (by omega) (by omega),Qq (n:=a/1000000+1) (by omega) (by omega)];refine Ea (v:=(a+1000000-1)/1000000) ?_ (Qa _);by_cases h:a/1000000*1000000<a
 .rw[Qw h];exact Ew (Qa _) (by omega)
 .rw[Qx h];exact Ew (Qa _) (by omega)
theorem Qdl{c:Course}(d:CrsOk c){i:Nat}{m:Mat}(f:c.Mats[i]?=some m){s:Segment}(k:s.Mat=(i:Int)){a:Int}(j:isT s.Anchor)(g:isT a):Ev (λn=>F_ab n c s a) (devV c m.Kind s a):=by
 obtain⟨r,q⟩:=d.res;have e: -2199023255552<=a-s.Anchor/\a-s.Anchor<=2199023255552:=by unfold isT at j g;omega
 obtain⟨l,p,_,_⟩:=QbP e d.drift;unfold F_ab F_ah devV;simp only[k,Qo f,XJ];by_cases h:m.Kind=1
 .simp only[h,bne_self_eq_false,Vp,beq_self_eq_true,Vo];exact Qa _
 .rw[show(m.Kind==1)=false by simpa using h,show(m.Kind != 1)=true by simpa using h];simp only[Vp,Vo];rw[Qq (n:=a-s.Anchor) (by omega) (by omega)];refine Ea (Qhe e d.drift) ?_;rw[Qq (n:=0-driftV (a-s.Anchor) c.Faults.Drift) (by omega) (by omega),Qq (n:=c.Faults.Residual+driftV (a-s.Anchor) c.Faults.Drift) (by omega) (by omega)];exact Qa _
theorem leN{a b:Nat}(h:a<b+1):decide ((a:Int)<=(b:Int))=true:=Vt (by omega)
theorem QkB(b:Nat):decide (((b+1:Nat):Int)<=(b:Int))=false:=Vw (by omega)
theorem Qk1(x:Int):Ev (λn=>F_k n x) (timeB x):=by
 unfold F_k timeB inR;exact Ea (Ei λ_=>Qa _) (Qa _)
theorem Qk5(x y:Segment):Ev (λn=>F_eg n x y) (segLt x y):=by
 unfold F_eg segLt;exact Ea (Qh λ_=>Ei λ_=>Qa _) (Qa _)
theorem Qk2(c:Clocks)(d:c.Segments.length<=1048576):Ev (λn=>iter (F_jb n c) n 0) (bif segsB c then Ctl.cont ()else Ctl.done 160):=by
 unfold segsB;refine Jw c.Segments.length _ _ _ (λi f=>?_) ?_
 .have a:=atN d f;unfold F_jb;simp only[a.lt,Vo,a.ix,XJ,a.nx,a.get];refine Ea (v:=segBad c i (c.Segments[i])) ?_ ?_
  .unfold segBad;refine Qh λ_=>Qh λ_=>Qh λ_=>Qh λ_=>Ea (Qk1 _) (Qh λ_=>?_);unfold prevSeg;refine Ei λh=>?_;have g:0<i:=by have:=Vu h;omega
   have e:i-1<c.Segments.length:=by omega
   rw[QgU d g (by omega) (XK e),XK e];simp only[XJ];exact Ea (Qk5 _ _) (Qa _)
  .cases segBad c i (c.Segments[i])<;>exact Qa _
 .unfold F_jb;simp only[Qao,Vp];exact Qa _
theorem QjO(l:List Int)(q:Int->Bool):(List.range l.length).all (λu=> !q ((l[u]?).getD 0))= !l.any q:=by
 rw[XY,Qjg,Bool.not_eq_true',VL];constructor
 .intro h e;obtain⟨x,g,f⟩:=Xt.1 e;obtain⟨i,a,d⟩:=List.mem_iff_getElem.1 g;have:=h i a;rw[XK a,d]at this;simp[f]at this
 .intro h i a;rw[XK a];cases z:q ((some l[i]).getD 0)with
  |false=>rfl
  |true=>exact(h (Xt.2 ⟨l[i],Vd a,z⟩)).elim
theorem Qk3(c:Clocks)(t:c.Segments.length<=1048576)(q:∀r∈c.Far,r.length<=1048576)(p:c.Far.length=c.Segments.length+1):
  Ev (λn=>iter (F_kb n c) n 0) (bif rowsB c then Ctl.cont ()else Ctl.done 160):=by
 unfold rowsB;rw[p];refine Jw (c.Segments.length+1) _ _ _ (λi l=>?_) ?_
 .have d:i<c.Far.length:=by omega
  have j:=XK d;unfold F_kb;simp only[leN l,Vo,Qo j,j,XJ,QaS t,QaS (show i<=1048576 by omega)];have k:(c.Far[i]).length<=1048576:=q _ (Vd d);refine Ea (v:=((c.Far[i]).length:Int) != ((c.Segments.length+1:Nat):Int)||((c.Far[i])[i]?.getD 1 != 0)) ?_ ?_
  .refine Qh λh=>?_;have a:(c.Far[i]).length=c.Segments.length+1:=by
    have:((c.Far[i]).length:Int)=((c.Segments.length+1:Nat):Int):=by simpa[bne]using h
    omega
   have f:i<(c.Far[i]).length:=by omega
   rw[Qo (XK f),XK f];exact Qa _
  .unfold rowB;cases s:(((c.Far[i]).length:Int) != ((c.Segments.length+1:Nat):Int))with
   |true=>exact Qa _
   |false=>
    have a:(c.Far[i]).length=c.Segments.length+1:=by
     have:((c.Far[i]).length:Int)=((c.Segments.length+1:Nat):Int):=by simpa[bne]using s
     omega
    simp only[Bool.false_or];cases(c.Far[i])[i]?.getD 1 != 0 with
    |true=>exact Qa _
    |false=>
     simp only[Bool.false_or,Vp];rw[<- QjO,a];refine Ea (Jw (c.Segments.length+1) (λu=> !farBad (((c.Far[i])[u]?).getD 0)) (Ctl.done (Ctl.done (Ctl.done 160))) (Ctl.cont ()) (λu m=>?_) ?_) ?_
     .have g:u<(c.Far[i]).length:=by omega
      have e:=XK g;unfold F_kx;simp only[leN m,Vo,Qo j,Qo e,e,XJ,Option.getD_some,QaS (show u<=1048576 by omega)];refine Ea (v:=farBad (c.Far[i])[u]) (by unfold farBad;exact Qh λ_=>Qa _) ?_;cases farBad (c.Far[i])[u]<;>exact Qa _
     .unfold F_kx;simp only[QkB,Vp];exact Qa _
     .cases(List.range (c.Segments.length+1)).all λu=> !farBad (((c.Far[i])[u]?).getD 0)<;>exact Qa _
 .unfold F_kb;simp only[QkB,Vp];exact Qa _
theorem Qmv(c:Clocks)(d:Dims c):Ev (λn=>iter (F_id n c) n 0) (bif triB c then Ctl.cont ()else Ctl.done 160):=by
 have q:=d.segs;unfold triB;refine Jw (c.Segments.length+1) _ _ _ (λi a=>?_) ?_
 .unfold F_id;have g:=(d.get a a).1;simp only[leN a,Vo,QaS (show i<=1048576 by omega)];refine Ea (Jw (c.Segments.length+1) (λj=>(List.range (c.Segments.length+1)).all λk=> !decide (i64.wrap (farG c i j+farG c j k)<farG c i k)) (Ctl.done (Ctl.done (Ctl.done 160))) (Ctl.cont ()) (λj e=>?_) ?_) ?_
  .unfold F_ld;have p:=(d.get a e).2;have m:=(d.get e e).1;simp only[leN e,Vo,QaS (show j<=1048576 by omega)];refine Ea (Jw (c.Segments.length+1) (λk=> !decide (i64.wrap (farG c i j+farG c j k)<farG c i k)) (Ctl.done (Ctl.done (Ctl.done (Ctl.done (Ctl.done 160))))) (Ctl.cont ()) (λk f=>?_) ?_) ?_
   .unfold F_lb;have l:=(d.get e f).2;have h:=(d.get a f).2;simp only[leN f,Vo,Qo g,Qo p,Qo m,Qo l,Qo h,XJ,QaS (show k<=1048576 by omega)];cases decide (i64.wrap (farG c i j+farG c j k)<farG c i k)<;>exact Qa _
   .unfold F_lb;simp only[QkB,Vp];exact Qa _
   .cases(List.range (c.Segments.length+1)).all λk=> !decide (i64.wrap (farG c i j+farG c j k)<farG c i k)<;>exact Qa _
  .unfold F_ld;simp only[QkB,Vp];exact Qa _
  .cases(List.range (c.Segments.length+1)).all λj=>(List.range (c.Segments.length+1)).all λk=> !decide (i64.wrap (farG c i j+farG c j k)<farG c i k)<;>exact Qa _
 .unfold F_id;simp only[QkB,Vp];exact Qa _
theorem QiK(c:Clocks)(w:ClkW c):Ev (λn=>F_be n c) (bif clkB c then 0 else 160):=by
 unfold F_be clkB;simp only[QaS w.segs];refine Ea (Qh λ_=>Qa _) ?_;cases a:(decide (511<(c.Segments.length:Int))||((c.Far.length:Int) != ((c.Segments.length+1:Nat):Int)))with
 |true=>exact Qa _
 |false=>
  simp only[Xh,Vz,XX,decide_eq_false_iff_not]at a⊢;have d:c.Far.length=c.Segments.length+1:=by
   have:(c.Far.length:Int)=((c.Segments.length+1:Nat):Int):=by simpa[bne]using a.2
   omega
  refine Qs (Ea (Qk2 c w.segs) ?_);cases segsB c with
  |false=>exact Qa _
  |true=>
   refine Ea (Qk3 c w.segs w.row d) ?_;cases e:rowsB c with
   |false=>exact Qa _
   |true=>
    refine Ea (Qmv c (Qge a.1 d e)) ?_;cases triB c<;>exact Qa _
set_option maxRecDepth 10000
theorem Y6{c:Course}(h:courseE c=0):fitsS c=true/\numbersS c=true/\ ∀d∈c.Distances,routeS c d=true:=by
 unfold courseE at h;cases i:fitsS c with
 |false=>rw[i]at h;cases h
 |true=>
  rw[i]at h;cases g:namesS c with
  |false=>rw[g]at h;cases h
  |true=>
   rw[g]at h;cases e:numbersS c with
   |false=>rw[e]at h;cases h
   |true=>
    rw[e]at h;simp only[Vo]at h;cases a:(tiesE c.Ties==0)with
    |false=>
     rw[a,Vp]at h;rw[Vy]at a;exact absurd h a
    |true=>
     rw[a,Vo]at h;cases f:c.Distances.all (routeS c)with
     |true=>exact⟨rfl,rfl,Xs.1 f⟩
     |false=>rw[f]at h;cases h
theorem QeS{c:Course}(h:courseE c=0):CrsOk c:=by
 obtain⟨d,a,_⟩:=Y6 h;unfold fitsS at d;unfold numbersS lastS inR at a;simp only[XW,Bool.not_eq_true',XX,decide_eq_false_iff_not,Vq]at d a;refine⟨?_,?_,?_⟩
 .have:=d.1;omega
 .exact a.2.2.2.2.2.2.2.2.2.2.1.2
 .exact a.2.2.2.2.2.2.2.2.2.2.2.1
theorem Yz{α:Type}{c:Bool}{f g:Nat->Option α}{v:α}(h:c=true)(q:Ev f v):Ev (λn=>bif c then f n else g n) v:=by subst h;exact q
def lastB(l:List Int)(x:Int):Nat->Nat
 |0=>0
 |j+1=>bif (l[j+1]? ==some x)then j+1 else lastB l x j
theorem QgR(l:List Int)(x:Int):∀j,lastB l x j<=j
 |0=>XT _
 |j+1=>by
  unfold lastB;have:=QgR l x j;cases(l[j+1]? ==some x)<;>simp<;>omega
def routeV(d:Distance)(k:Nat):List Int:=(flPs d.Route).take (lastB (flPs d.Route) d.Extra ((flPs d.Route).length-1)+1)++List.replicate k d.Extra++(flPs d.Route).drop (lastB (flPs d.Route) d.Extra ((flPs d.Route).length-1)+1)
def routeO(c:Course)(i k:Int):List Int×Int:=
 bif decide (i<0)then([],90)else match c.Distances[i.toNat]? with
 |none=>([],90)
 |some d=>bif decide (k<0)||(decide (0<k)&&decide (d.Extra<0))then([],90)else bif decide (256-((flPs d.Route).length:Int)<k)then([],2)else(routeV d k.toNat,0)
theorem QfF(d:Distance)(e:Int)(l:List Int)(a:l.length<=256):∀(m:Nat),m<l.length->EvI (λn=>F_fk n (d,e) l) (m:Int) ((lastB l d.Extra m:Nat):Int)
 |0,h=>by
  refine Ej ?_;unfold F_fk lastB;exact Qa _
 |m+1,h=>by
  have hx:l[m+1]?=some (l[m+1]'(h)):=XK h;unfold lastB;rw[hx];cases hq:((l[m+1]'(h)) != d.Extra)with
  |true=>
   have e1:(some (l[m+1]'(h))==some d.Extra)=false:=by simp at hq⊢;exact hq
   rw[e1,Vp];refine Ex ?_ (QfF d e l a m (by omega));unfold F_fk;rw[Qw (show(0:Int)<((m+1:Nat):Int)by omega),Vo,Qo hx,XJ,hq,XJ,Vo,Qq (n:=((m+1:Nat):Int)-1) (by omega) (by omega),show((m+1:Nat):Int)-1=(m:Int)by omega];exact Qa _
  |false=>
   have e1:(some (l[m+1]'(h))==some d.Extra)=true:=by simp at hq⊢;exact hq
   rw[e1,Vo];refine Ej ?_;unfold F_fk;rw[Qw (show(0:Int)<((m+1:Nat):Int)by omega),Vo,Qo hx,XJ,hq,XJ,Vp];exact Qa _
theorem Qll{c:Course}(g:Good c)(he:Ev (λn=>F_d n c) 0)(i k:Int):Ev (λn=>F_bm n c i k) (routeO c i k):=by
 unfold routeO;by_cases p:i<0
 .rw[Qw p,Vo];unfold F_bm F_ch;refine Ea (v:=((90:Int),([]:List Int))) (Ea (v:=U_course_build.c0 90) ?_ (Qa _)) (Qa _);refine Ea (v:=(Uo,90)) ?_ (Yz rfl (Qa _));unfold F_bu;refine Ea he (Qs (Ea (v:=true) ?_ (Qa _)));rw[Qw p];exact Qa _
 rw[Qx p,Vp];obtain⟨j,rfl⟩:∃j:Nat,i=(j:Int):=⟨i.toNat,by omega⟩;rw[Int.toNat_natCast];cases e:c.Distances[j]? with
 |none=>
  have x:c.Distances.length<=j:=List.getElem?_eq_none_iff.1 e;unfold F_bm F_ch;refine Ea (v:=((90:Int),([]:List Int))) (Ea (v:=U_course_build.c0 90) ?_ (Qa _)) (Qa _);refine Ea (v:=(Uo,90)) ?_ (Yz rfl (Qa _));unfold F_bu;refine Ea he (Qs (Ea (v:=true) ?_ (Qa _)));rw[Qx (show¬(j:Int)<0 by omega),Vp,Qw (show(c.Distances.length:Int)<=(j:Int)by omega)];exact Qa _
 |some d=>
  simp only;have f:=VG e;have h:=(g.route d f);rw[g.exp f]at h;have w:i64.wrap (256-((flPs d.Route).length:Int))=256-((flPs d.Route).length:Int):=Qq (by omega) (by omega);unfold F_bm F_ch;cases l:(decide (k<0)||(decide (0<k)&&decide (d.Extra<0)))with
  |true=>
   refine Ea (v:=((90:Int),([]:List Int))) (Ea (v:=U_course_build.c1 ()) (Ea (Qgc he e) (Qs (Ea (v:=true) ?_ (Qa _)))) (Qa _)) (Qa _);exact Ew (Qh λ_=>Ei λ_=>Qa _) l
  |false=>
   have u:=l;simp only[XX,decide_eq_false_iff_not,Bool.and_eq_false_iff]at u;cases t:decide (256-((flPs d.Route).length:Int)<k)with
   |true=>
    refine Ea (v:=((2:Int),flPs d.Route)) (Ea (v:=U_course_build.c2 (flPs d.Route)) (Ea (Qgc he e) (Qs (Ea (v:=false) ?_ (Qs (Ea (QdE g f) ?_))))) (Qa _)) (Qa _)
    .exact Ew (Qh λ_=>Ei λ_=>Qa _) l
    .simp only[w,t,Vo];exact Qa _
   |false=>
    have z:=Vv t;obtain⟨a,rfl⟩:∃a:Nat,k=(a:Int):=⟨k.toNat,by omega⟩;obtain⟨m,r⟩:=QmA c g.legs;rw[Int.toNat_natCast];refine Ea (v:=(0,routeV d a)) (Ea (v:=U_course_build.c3 (routeV d a,m)) (Ea (Qgc he e) (Qs (Ea (v:=false) ?_ (Qs (Ea (QdE g f) ?_))))) (Qa _)) (Qa _)
    .exact Ew (Qh λ_=>Ei λ_=>Qa _) l
    .simp only[w,t,Vp];refine Ea (v:=routeV d a) ?_ (Ea r (Qa _));by_cases y:a=0
     .subst y;refine YA (Qx (show¬(0:Int)<((0:Nat):Int)by omega)) ((Qa _).eq ?_);unfold routeV;simp
     .refine Yz (Qw (show(0:Int)<(a:Int)by omega)) ?_;have s:=QfF d 0 (flPs d.Route) h.2 ((flPs d.Route).length-1) (by omega);have q:=QgR (flPs d.Route) d.Extra ((flPs d.Route).length-1);rw[Qq (n:=((flPs d.Route).length:Int)-1) (by omega) (by omega),show((flPs d.Route).length:Int)-1=(((flPs d.Route).length-1:Nat):Int)by omega];refine Ea s.ev (Ea (QjE d.Extra a (by omega) (by omega)) (Ea (EA ?_) (Qa _)));unfold routeV;generalize lastB (flPs d.Route) d.Extra ((flPs d.Route).length-1)=b at q;rw[Qq (n:=(b:Int)+1) (by omega) (by omega)];unfold QkK;rw[Qw (show 0<=(b:Int)+1 by omega),Qw (show(b:Int)+1<=((flPs d.Route).length:Int)by omega),List.length_replicate,show Nat.blt 0 a=true from by simp;omega,XS (show(flPs d.Route).length+a<=Ys by unfold Ys;omega),show((b:Int)+1).toNat=b+1 by omega];rfl
theorem Qb0{c:Course}(g:Good c){i k:Int}(h:(routeO c i k).2=0):∃(j:Nat) (d:Distance) (a:Nat),i=(j:Int)/\k=(a:Int)/\c.Distances[j]?=some d/\(0<a->0<=d.Extra)/\(flPs d.Route).length+a<=256/\(routeO c i k).1=routeV d a:=by
 unfold routeO at h⊢;by_cases l:i<0
 .rw[Qw l]at h;cases h
 rw[Qx l,Vp]at h⊢;cases f:c.Distances[i.toNat]? with
 |none=>rw[f]at h;cases h
 |some d=>
  rw[f]at h;simp only at h⊢;cases e:(decide (k<0)||(decide (0<k)&&decide (d.Extra<0)))with
  |true=>rw[e]at h;cases h
  |false=>
   rw[e]at h;cases m:decide (256-((flPs d.Route).length:Int)<k)with
   |true=>rw[m]at h;cases h
   |false=>
    simp only[XX,decide_eq_false_iff_not,Bool.and_eq_false_iff]at e m;exact⟨i.toNat,d,k.toNat,by omega,by omega,f,λ_=>by omega,by omega,rfl⟩
def Adj(c:Course):List Int->Prop
 |a::b::r=>hasLeg c a b=true/\Adj c (b::r)
 |_=>True
theorem Qe8{c:Course}{len:Nat}:∀{r:List Int} {i:Nat} {p:Int},rokS c len i p r=true->Adj c r/\(i≠0->∀m q,r=m::q->hasLeg c p m=true)
 |[],_,_,_=>⟨trivial,λ_ m q e=>by cases e⟩
 |m::r,i,p,h=>by
  unfold rokS at h;simp only[XW,Bool.or_eq_true,Vq]at h;obtain⟨_,_,h1,h2⟩:=h;obtain⟨a1,a2⟩:=Qe8 h2;refine⟨?_,λhi m' q e=>?_⟩
  .cases r with
   |nil=>trivial
   |cons b r=>exact⟨a2 (by omega) b r rfl,a1⟩
  .cases e;exact h1.resolve_left hi
theorem QhE{c:Course}:∀{r:List Int} (k:Nat),Adj c r->Adj c (r.drop k)
 |r,0,h=>by simpa using h
 |[],k+1,_=>by simp[Adj]
 |[a],k+1,_=>by simp[Adj]
 |a::b::r,k+1,h=>by
  rw[List.drop_succ_cons];exact QhE k h.2
theorem Adj.append{c:Course}:∀{p:List Int} {x:Int} {q:List Int},Adj c (p++[x])->Adj c (x::q)->Adj c (p++x::q)
 |[],x,q,_,h=>h
 |[a],x,q,h1,h2=>⟨h1.1,h2⟩
 |a::b::r,x,q,h1,h2=>⟨h1.1,Adj.append (p:=b::r) h1.2 h2⟩
theorem Qi6{c:Course}{x:Int}(h:hasLeg c x x=true){q:List Int}(hq:Adj c (x::q)):∀k,Adj c (x::(List.replicate k x++q))
 |0=>hq
 |k+1=>⟨h,Qi6 h hq k⟩
theorem Adj.at{c:Course}:∀{r:List Int} {i:Nat} {a b:Int},Adj c r->r[i]?=some a->r[i+1]?=some b->hasLeg c a b=true
 |[],_,_,_,_,h,_=>by simp at h
 |[x],i,_,_,_,_,h=>by simp at h
 |x::y::r,0,a,b,h,h1,h2=>by simp at h1 h2;subst h1;subst h2;exact h.1
 |x::y::r,i+1,a,b,h,h1,h2=>Adj.at (r:=y::r) h.2 (by simpa using h1) (by simpa using h2)
theorem QgS(l:List Int)(x:Int):∀m,m<l.length->(∃i,i<=m/\0<i/\l[i]?=some x)->l[lastB l x m]?=some x
 |0,h,⟨i,h1,h2,_⟩=>by omega
 |m+1,h,⟨i,h1,h2,h3⟩=>by
  unfold lastB;cases e:(l[m+1]? ==some x)with
  |true=>simp at e;simpa using e
  |false=>
   simp only[Vp];refine QgS l x m (by omega) ⟨i,?_,h2,h3⟩;rcases VB m i with q|q
   .have:i=m+1:=by omega
    subst this;rw[h3]at e;simp at e
   .exact q
theorem Qfo{c:Course}(g:Good c)(W:courseE c=0){d:Distance}(M:d∈c.Distances)(k:Nat)(P:0<k->0<=d.Extra):Adj c (routeV d k):=by
 have h:=(Y6 W).2.2 d M;unfold routeS routeR at h;rw[g.exp M]at h;simp only[XW,Vq]at h;obtain⟨⟨X,J⟩,s,z,_⟩:=h;have u:=(Qe8 s).1;unfold routeV;by_cases V:k=0
 .subst V;simpa using u
 have Q:=P (by omega);rw[Qw Q,Vo]at z;simp only[XW,Bool.not_eq_true',Vy,ne_eq]at z;obtain⟨L,B,T⟩:=z;have l:d.Extra∈flPs d.Route:=by
  by_cases w:d.Extra∈flPs d.Route
  .exact w
  .rw[List.count_eq_zero_of_not_mem w]at L;exact absurd rfl L
 obtain⟨i,H,n⟩:=List.getElem_of_mem l;have E:0<i:=by
  rcases Nat.eq_zero_or_pos i with q|q
  .subst q;cases G:flPs d.Route with
   |nil=>rw[G]at H;simp at H
   |cons m r=>
    rw[G]at s;unfold rokS at s;simp only[XW,Vx,decide_true,Bool.true_eq]at s;have w:m=d.Extra:=by rw[<- n];simp[G]
    rw[<- w]at B;rw[Vx]at B;have:=s.1;rw[B]at this;simp at this
  .exact q
 have j:=QgS (flPs d.Route) d.Extra ((flPs d.Route).length-1) (by omega) ⟨i,by omega,E,by rw[XK H,n]⟩;generalize hb:lastB (flPs d.Route) d.Extra ((flPs d.Route).length-1)=b at j;have F:b<(flPs d.Route).length:=(XL.1 j).1;have f:(flPs d.Route).drop b=d.Extra::(flPs d.Route).drop (b+1):=by
  rw[Xp F,(XL.1 j).2]
 have a:(flPs d.Route).take (b+1)=(flPs d.Route).take b++[d.Extra]:=by
  rw[List.take_add_one,j];rfl
 have t:∀{p q:List Int},Adj c (p++q)->Adj c p:=by
  intro p
  induction p with
  |nil=>intro q _;trivial
  |cons x p R=>
   intro q h;cases p with
   |nil=>trivial
   |cons y p=>exact⟨h.1,R h.2⟩
 have O:Adj c ((flPs d.Route).take b++[d.Extra]):=by
  rw[<- a];have e:(flPs d.Route)=(flPs d.Route).take (b+1)++(flPs d.Route).drop (b+1):=(Xz _ _).symm;rw[e]at u;exact t u
 have N:Adj c (d.Extra::(flPs d.Route).drop (b+1)):=by rw[<- f];exact QhE b u
 rw[a,Vi,Vi,List.singleton_append];exact Adj.append O (Qi6 T N k)
set_option maxRecDepth 10000
theorem timeI{x:Int}:timeB x=true↔isT x:=by
 unfold timeB inR isT;rw[XW,Vq,Vq]
def segIx(k:Clocks)(h:Hit):Int:=firstI (λx:Segment=>({mat:=x.Mat,epoch:=x.Epoch:Ue})=={mat:=h.Mat,epoch:=h.Epoch}) k.Segments 0
def spanV(c:Course)(s:Segment)(h:Hit):Span:={Lo:=i64.wrap (h.First+(devV c (kindAt c h.Mat) s h.First).Lo),Hi:=i64.wrap (h.Last+(devV c (kindAt c h.Mat) s h.Last).Hi)}
def timeV(c:Course)(k:Clocks)(h:Hit):Option Ud:=
 bif kindAt c h.Mat==1 then some {segment:= -1,span:=spanV c {Mat:=h.Mat,Epoch:=h.Epoch,Anchor:=0} h}else
  bif decide (segIx k h<0)then none else(k.Segments[(segIx k h).toNat]?).map λs=>{segment:=segIx k h,span:=spanV c s h}
def timesV(c:Course)(k:Clocks):List Hit->Option (List Ud)
 |[]=>some []
 |h::r=>(timeV c k h).bind λx=>(timesV c k r).map λl=>x::l
theorem QbE(c:Course)(k:Clocks)(h:Hit)(r:List Hit):timesV c k (h::r)=(timeV c k h).bind λx=>(timesV c k r).map λl=>x::l:=rfl
theorem QeH(k:Clocks)(h:Hit)(d:k.Segments.length<=1048576):Ev (λn=>F_du n k.Segments h) (segIx k h):=by
 unfold F_du;refine Ev.first k.Segments _ (by omega) (λi x a=>?_) ?_
 .unfold F_kq;simp only[a.lt,Vo,a.ix,XJ,a.nx];unfold F_gc;simp only[XJ];cases(({mat:=x.Mat,epoch:=x.Epoch:Ue})=={mat:=h.Mat,epoch:=h.Epoch})<;>exact Qa _
 .unfold F_kq;simp only[Qao,Vp];exact Qa _
theorem Qa2{k:Clocks}{h:Hit}(q:¬segIx k h<0):∃(j:Nat) (s:Segment),segIx k h=(j:Int)/\k.Segments[j]?=some s/\s.Mat=h.Mat/\s.Epoch=h.Epoch:=by
 rcases QbM (λx:Segment=>({mat:=x.Mat,epoch:=x.Epoch:Ue})=={mat:=h.Mat,epoch:=h.Epoch}) k.Segments 0 with⟨a,_⟩|⟨j,s,a,e,d,_⟩
 .unfold segIx at q;rw[a]at q;omega
 .refine⟨j,s,by unfold segIx;rw[a];simp,e,?_⟩;rw[Vx]at d;simpa using d
structure HitOk (c:Course) (h:Hit):Prop where
 mat:∃(i:Nat) (m:Mat),h.Mat=(i:Int)/\c.Mats[i]?=some m
 fi:isT h.First
 la:isT h.Last
 le:h.First<=h.Last
theorem QlQ{c:Course}{h:Hit}(q:wrongH c h=false):HitOk c h:=by
 unfold wrongH at q;simp only[XX,decide_eq_false_iff_not,Bool.not_eq_false',QhN]at q;obtain⟨f,e,_,_,d,a,g⟩:=q;exact⟨⟨h.Mat.toNat,c.Mats[h.Mat.toNat]'(by omega),by omega,XK _⟩,d,a,by omega⟩
theorem QiT{p:Nat->Bool}:∀{m i:Nat},chkFrom p m i=true->∀j,i<=j->j<i+m->p j=true
 |0,i,_,j,h1,h2=>by omega
 |m+1,i,h,j,h1,h2=>by
  unfold chkFrom at h;rw[XW]at h;rcases Nat.eq_or_lt_of_le h1 with rfl|q
  .exact h.1
  .exact QiT h.2 j q (by omega)
theorem Qf5{c:Course}{x:List Hit}(h:checkH c x=true):∀y∈x,HitOk c y:=by
 intro y d;obtain⟨i,a,rfl⟩:=List.getElem_of_mem d;have:=QiT h i (XU _) (by omega);unfold okAt at this;rw[XK a]at this;simp only[XW,Bool.not_eq_true']at this;exact QlQ this.1
theorem Qln{c:Course}(j:CrsOk c)(he:Ev (λn=>F_d n c) 0){s:Segment}{i:Nat}{m:Mat}(g:s.Mat=(i:Int))(d:c.Mats[i]?=some m)(e:isT s.Anchor){a:Int}(f:isT a):
  Ev (λn=>F_am n c s a) (devV c m.Kind s a,0):=by
 have h:matB c s.Mat=true:=by
  have:=(XL.1 d).1;unfold matB;rw[g,Qw (by omega),Qw (by omega)];rfl
 unfold F_am;refine Ea he (Qs (Ea (v:=false) (Ea (QeP c _) ?_) (Qs (Ea (Qh1 j d g e f) (Qa _)))));rw[h];refine Qs (Ea (Qba a) ?_);rw[timeI.2 f];refine Qs (Ea (Qba s.Anchor) ?_);rw[timeI.2 e];exact Qa _
structure ClkOk (k:Clocks):Prop where
 dims:Dims k
 ev:Ev (λn=>F_ax n k) 0
 anc:∀s∈k.Segments,isT s.Anchor
theorem QhC{k:Clocks}(w:ClkW k)(h:clkB k=true):ClkOk k:=by
 have e:=Qli k w;rw[h]at e;refine⟨Qb6 h,e,λs f=>?_⟩;unfold clkB at h;simp only[XW]at h;have d:=h.2.1;unfold segsB at d;obtain⟨i,a,rfl⟩:=List.getElem_of_mem f;have:=Qjg.1 d i a;rw[XK a]at this;unfold segBad at this;simp only[Bool.not_eq_true',XX,Bool.not_eq_false']at this;exact timeI.1 this.2.2.2.2.1
theorem Qmg{c:Course}{h:Hit}{i:Nat}{m:Mat}(d:h.Mat=(i:Int))(a:c.Mats[i]?=some m):kindAt c h.Mat=m.Kind:=by
 unfold kindAt;rw[d,Int.toNat_natCast,a];rfl
theorem Qk0{c:Course}{k:Clocks}(O:CrsOk c)(he:Ev (λn=>F_d n c) 0)(N:ClkOk k)(x:List Hit)(V:∀y∈x,HitOk c y)(hl:x.length<=1000):
  Ev (λn=>iter (F_au n c k x) n ([],0)) (match timesV c k x with|some l=>Ctl.cont l|none=>Ctl.done (U_match_prepare.c0 170)):=by
 have hs:=N.dims.segs;have E:∀(r:List Hit) (a:List Ud) (i:Nat),x.drop i=r->i<=x.length->a.length<=i->EvI (λn=>F_au n c k x) (a,(i:Int)) (match timesV c k r with|some l=>Ctl.cont (a++l)|none=>Ctl.done (U_match_prepare.c0 170)):=by
  intro r
  induction r with
  |nil=>
   intro a i H M d;refine Ej ?_;unfold F_au;simp only[QJ H M,Vp];refine(Qa _).eq ?_;simp[timesV]
  |cons h r Y=>
   intro a i H M X;obtain⟨d,G⟩:=Qv (by omega) H;have R:=d.lt';obtain⟨⟨j,m,q,t⟩,f1,P,f3⟩:=V h d.mem;have z:=Qmg q t;have step:∀(p:Int×Segment),p.2.Mat=(j:Int)->isT p.2.Anchor->
     Ev (λn=>(F_am n c p.2 h.First).bind λF=>(F_am n c p.2 h.Last).bind λJ=>(app a [{segment:=p.1,span:={Lo:=i64.wrap (h.First+F.1.Lo),Hi:=i64.wrap (h.Last+J.1.Hi):Span}:Ud}]).bind λL=>some (Ctl.cont (L,((i+1:Nat):Int)):Ctl (List Ud×Int) (Ctl (List Ud) U_match_prepare)))
      (Ctl.cont (a++[{segment:=p.1,span:=spanV c p.2 h}],((i+1:Nat):Int))):=by
    intro p w u;refine Ea (Qln O he w t u f1) (Ea (Qln O he w t u P) (Ea (EA (QbT (by omega))) ((Qa _).eq ?_)));unfold spanV;rw[z]
   have g:∀(y:Ud),timeV c k h=some y->Ev (λn=>F_au n c k x (a,(i:Int))) (Ctl.cont (a++[y],((i+1:Nat):Int)))->EvI (λn=>F_au n c k x) (a,(i:Int)) (match timesV c k (h::r)with|some l=>Ctl.cont (a++l)|none=>Ctl.done (U_match_prepare.c0 170)):=by
    intro y Q B;refine Ex B ((Y (a++[y]) (i+1) G (by omega) (by simp;omega)).eq ?_);rw[QbE,Q];cases timesV c k r with
    |none=>rfl
    |some l=>simp
   cases f:(kindAt c h.Mat==1)with
   |true=>
    refine g {segment:= -1,span:=spanV c {Mat:=h.Mat,Epoch:=h.Epoch,Anchor:=0} h} (by unfold timeV;rw[f];rfl) ?_;unfold F_au;simp only[d.lt,Vo,d.ix,XJ,d.nx];refine Ea (QeH k h (by omega)) ?_;simp only[q,Qo t,XJ];rw[z]at f;refine Ea (v:=Ctl.cont (-1,{Mat:=h.Mat,Epoch:=h.Epoch,Anchor:=0})) (by rw[f,q];exact Qa _) ?_;exact step (-1,{Mat:=h.Mat,Epoch:=h.Epoch,Anchor:=0}) q (by show isT 0;unfold isT;omega)
   |false=>
    by_cases e:segIx k h<0
    .have W:timeV c k h=none:=by unfold timeV;rw[f,Qw e];rfl
     refine Ej ?_;unfold F_au;rw[QbE,W];simp only[d.lt,Vo,d.ix,XJ,d.nx];refine Ea (QeH k h (by omega)) ?_;simp only[q,Qo t,XJ];rw[z]at f;refine Ea (v:=Ctl.done (.done (.done (U_match_prepare.c0 170)))) (by rw[f,Qw e];exact Qa _) ?_;exact Qa _
    .obtain⟨jj,s,w,u,T,g4⟩:=Qa2 e;refine g {segment:=segIx k h,span:=spanV c s h} (by unfold timeV;rw[f,Qx e,w,Int.toNat_natCast,u];rfl) ?_;unfold F_au;simp only[d.lt,Vo,d.ix,XJ,d.nx];refine Ea (QeH k h (by omega)) ?_;simp only[q,Qo t,XJ];rw[z]at f;refine Ea (v:=Ctl.cont (segIx k h,s)) (by rw[f,Qx e,w];simp only[Vp,Qo u,XJ];exact Qa _) ?_;exact step (segIx k h,s) (T.trans q) (N.anc s (VG u))
 have:=(E x [] 0 rfl (XU _) (XT _)).ev;simpa using this
theorem QbD{c:Course}{k:Clocks}:∀{x:List Hit} {l:List Ud},timesV c k x=some l->l.length=x.length/\ ∀(i:Nat) (h:Hit),x[i]?=some h->∃t,l[i]?=some t/\timeV c k h=some t
 |[],l,h=>by
  unfold timesV at h;cases h;exact⟨rfl,λi h q=>by simp at q⟩
 |y::x,l,h=>by
  unfold timesV at h;cases e:timeV c k y with
  |none=>rw[e]at h;cases h
  |some t=>
   rw[e]at h;cases e2:timesV c k x with
   |none=>rw[e2]at h;cases h
   |some l2=>
    rw[e2]at h;cases h;obtain⟨p1,p2⟩:=QbD e2;refine⟨by simp[p1],λi h q=>?_⟩;cases i with
    |zero=>simp at q;subst q;exact⟨t,rfl,e⟩
    |succ i=>exact p2 i h (by simpa using q)
theorem Qkl{c:Course}{k:Clocks}{h:Hit}{t:Ud}(q:timeV c k h=some t):t.segment= -1\/ ∃(j:Nat) (s:Segment),t.segment=(j:Int)/\k.Segments[j]?=some s/\s.Mat=h.Mat:=by
 unfold timeV at q;cases d:(kindAt c h.Mat==1)with
 |true=>rw[d]at q;cases q;exact .inl rfl
 |false=>
  rw[d]at q;by_cases a:segIx k h<0
  .rw[Qw a]at q;cases q
  .rw[Qx a]at q;obtain⟨j,s,g,e,f,_⟩:=Qa2 a;rw[g,Int.toNat_natCast,e]at q;cases q;exact .inr ⟨j,s,rfl,e,f⟩
def hndS(a:List (Int×Ud)×Int)(h:Hand):List (Int×Ud)×Int:=
 bif !(Y2 a.1 h.Position)then(Q3 a.1 h.Position {segment:= -1,span:={Lo:=h.Lo,Hi:=h.Hi}},if a.2<h.Position then h.Position else a.2)else a
def hndV(l:List Hand):List (Int×Ud)×Int:=l.foldl hndS ([],-1)
theorem Qla(l:List Hand)(d:l.length<=1048576):Ev (λn=>iter (F_kl n l) n ([],(-1),0)) (hndV l):=by
 refine QaD l hndS ([],-1) (λa i=>(a.1,a.2,(i:Int))) (λa=>a) (by omega) rfl (λi x a ha _=>?_) ?_
 .unfold F_kl hndS;simp only[ha.lt,Vo,ha.ix,XJ,ha.nx];cases(!(Y2 a.1 x.Position))<;>exact Qa _
 .unfold F_kl;simp only[Qao,Vp];exact Qa _
theorem QiD:∀(l:List Hand) (a:List (Int×Ud)×Int) (p:Int),Y3 (l.foldl hndS a).1 p=(match Y3 a.1 p with|some x=>some x|none=>(l.find? λh=>h.Position==p).map λh=>{segment:= -1,span:={Lo:=h.Lo,Hi:=h.Hi}})
 |[],a,p=>by cases h:Y3 a.1 p<;>simp[h]
 |x::l,a,p=>by
  rw[XD,QiD l (hndS a x) p];unfold hndS;rw[QaL];cases hx:Y3 a.1 x.Position with
  |some y=>
   simp only[Option.isSome_some,Xg,Vp];cases hp:Y3 a.1 p with
   |some z=>rfl
   |none=>
    have hne:(x.Position==p)=false:=by rw[Vy];intro e;rw[e,hp]at hx;cases hx
    rw[List.find?_cons,hne]
  |none=>
   simp only[Option.isSome_none,Xh,Vo,Qb3];by_cases e:p=x.Position
   .subst e;rw[Vs rfl,hx,List.find?_cons,beq_self_eq_true];rfl
   .rw[Vr e];cases hp:Y3 a.1 p with
    |some z=>rfl
    |none=>
     have hne:(x.Position==p)=false:=by rw[Vy];exact λq=>e q.symm
     rw[List.find?_cons,hne]
theorem QiC:∀(l:List Hand) (a:List (Int×Ud)×Int) (P:Int),(∀q,Y2 a.1 q=true->q<=a.2)->((l.foldl hndS a).2<=P↔a.2<=P/\ ∀h∈l,h.Position<=P)
 |[],a,P,_=>by simp
 |x::l,a,P,ha=>by
  rw[XD,QiC l (hndS a x) P ?_]
  .unfold hndS;cases e:Y2 a.1 x.Position with
   |true=>
    have:=ha _ e;simp only[Xg,Vp,X6,forall_eq_or_imp];constructor
    .rintro⟨h1,h2⟩;exact⟨h1,by omega,h2⟩
    .rintro⟨h1,_,h2⟩;exact⟨h1,h2⟩
   |false=>
    simp only[Xh,Vo,X6,forall_eq_or_imp];constructor
    .rintro⟨h1,h2⟩;split at h1<;>exact⟨by omega,by omega,h2⟩
    .rintro⟨h1,h3,h2⟩;refine⟨?_,h2⟩;split<;>omega
  .intro q hq;unfold hndS at hq⊢;cases e:Y2 a.1 x.Position with
   |true=>
    rw[e]at hq;exact ha q hq
   |false=>
    rw[e]at hq;simp only[Xh,Vo]at hq⊢;rw[QaL,Qb3]at hq;by_cases z:q=x.Position
    .subst z;split<;>omega
    .rw[Vr z, <- QaL]at hq;have:=ha q hq;split<;>omega
theorem QcL(l:List Hand)(p:Int):Y3 (hndV l).1 p=(l.find? λh=>h.Position==p).map λh=>{segment:= -1,span:={Lo:=h.Lo,Hi:=h.Hi}}:=by
 unfold hndV;rw[QiD];rfl
theorem QkM(l:List Hand)(P:Int):(hndV l).2<=P↔ -1<=P/\ ∀h∈l,h.Position<=P:=QiC l _ P (λq h=>by cases h)
def legV(c:Course)(a b:Int):Leg:=(c.Legs.find? λl=>(l.From==a)&&(l.To==b)).getD {From:=0,To:=0,Min:=0,Max:=0}
def nextS(c:Course)(s:Span)(a b:Int):Span:={Lo:=i64.wrap (s.Lo+(legV c a b).Min),Hi:=i64.wrap (s.Hi+(legV c a b).Max)}
def sumsF(c:Course):Span->Int->List Int->List Span
 |_,_,[]=>[]
 |s,a,b::r=>nextS c s a b::sumsF c (nextS c s a b) b r
def sumsV(c:Course):List Int->List Span
 |[]=>[]
 |a::r=>{Lo:=0,Hi:=0}::sumsF c {Lo:=0,Hi:=0} a r
theorem Qcj(c:Course)(s:Span)(a b:Int)(r:List Int):sumsF c s a (b::r)=nextS c s a b::sumsF c (nextS c s a b) b r:=rfl
theorem Qfi(c:Course):∀(r:List Int) (s:Span) (a:Int),(sumsF c s a r).length=r.length
 |[],_,_=>rfl
 |b::r,s,a=>by unfold sumsF;simp[Qfi c r]
theorem YH(c:Course)(r:List Int):(sumsV c r).length=r.length:=by
 cases r with
 |nil=>rfl
 |cons a r=>unfold sumsV;simp[Qfi]
theorem QnE{c:Course}(B:c.Legs.length<=512){k:Clocks}{r:List Int}{s:List Span}{x:List Hit}{t:List Ud}{hi:Int}{m:List (Int×Ud)}{i:Nat}{a b:Int}(h:r[i]?=some a)(p:i<=100000)(hg:hasLeg c a b=true):
  ∃j l,Ev (λn=>F_em n c.Legs ((i+1:Nat):Int) b c k r s x t hi m c k) ((j:Nat):Int)/\c.Legs[j]?=some l/\l=legV c a b:=by
 have u:∀j y,At c.Legs j y->Ev (λn=>F_fu n c.Legs ((i+1:Nat):Int) b c k r s x t hi m c k (j:Int)) (bif (y.From==a)&&(y.To==b)then .done (.done (j:Int))else .cont ((j+1:Nat):Int)):=by
  intro j y d;unfold F_fu;simp only[d.lt,Vo,d.ix,XJ,d.nx];refine Ea (v:=(y.From==a)&&(y.To==b)) ?_ ?_
  .unfold F_fs;rw[show i64.wrap (((i+1:Nat):Int)-1)=(i:Int)by rw[Qq (by omega) (by omega)];omega,Qo h,XJ];exact Ea (Ei λ_=>Qa _) (Qa _)
  .cases((y.From==a)&&(y.To==b))<;>exact Qa _
 have g:Ev (λn=>F_fu n c.Legs ((i+1:Nat):Int) b c k r s x t hi m c k (c.Legs.length:Int)) (.done (.cont ())):=by
  unfold F_fu;simp only[Qao,Vp];exact Qa _
 rcases Qkb c.Legs (λl=>(l.From==a)&&(l.To==b)) (by omega) u g with⟨j,y,e,f,w⟩|⟨e,f⟩
 .refine⟨j,y,?_,e.get,?_⟩
  .unfold F_em;exact Ea w (Qa _)
  .unfold legV;rw[f];rfl
 .unfold hasLeg at hg;obtain⟨y,z,q⟩:=Xt.1 hg;have:=List.find?_eq_none.1 e y z;exact absurd q this
theorem Qms{c:Course}(M:c.Legs.length<=512){k:Clocks}{r:List Int}{x:List Hit}{t:List Ud}{g:List (Int×Ud)×Int}(Q:r.length<=256)(N:Adj c r):
  Ev (λn=>iter (F_cd n c k x (r,0) t g) n ([],{Lo:=0,Hi:=0:Span},0)) (sumsV c r):=by
 have p:∀(q:List Int) (i:Nat) (a:Int) (s:Span) (o:List Span),r[i]?=some a->r.drop (i+1)=q->o.length=i+1->EvI (λn=>F_cd n c k x (r,0) t g) (o,s,((i+1:Nat):Int)) (o++sumsF c s a q):=by
  intro q
  induction q with
  |nil=>
   intro i a s o h u F;have:=(XL.1 h).1;refine Ej ?_;unfold F_cd;simp only[QJ u (by omega),Vp];refine(Qa _).eq ?_;simp[sumsF]
  |cons b q L=>
   intro i a s o h u F;obtain⟨f,w⟩:=Qv (by omega) u;have O:=f.lt';obtain⟨j,l,G,H,P⟩:=QnE (c:=c) (k:=k) (s:=o) (x:=x) (t:=t) (hi:=g.2) (m:=g.1) M h (by omega) (N.at h f.get);refine Ex ?_ ((L (i+1) b (nextS c s a b) (o++[nextS c s a b]) f.get w (by simp[F])).eq (by rw[Qcj];simp));unfold F_cd;simp only[f.lt,Vo,f.ix,XJ,f.nx];refine Ea (v:=nextS c s a b) ?_ (Ea (EA (QbT (by omega))) (Qa _));refine Yz (Qw (show(0:Int)<((i+1:Nat):Int)by omega)) (Ea G ?_);simp only[Qo H,XJ];unfold nextS;rw[<- P];exact Qa _
 cases d:r with
 |nil=>
  subst d;refine(Ej ?_).ev;unfold F_cd;exact Qa _
 |cons a q=>
  have E:r[0]?=some a:=by rw[d];rfl
  have J:r.drop (0+1)=q:=by rw[d];rfl
  have:=p q 0 a {Lo:=0,Hi:=0} [{Lo:=0,Hi:=0}] E J rfl;have e:At r 0 a:=Y9 (by omega) E;rw[<- d];refine(Ex (s':=([{Lo:=0,Hi:=0}],{Lo:=0,Hi:=0},((0+1:Nat):Int))) ?_ (this.eq ?_)).ev
  .unfold F_cd;have y:=e.lt;have z:=e.ix;have B:=e.nx;simp only[Int.natCast_zero,Int.ofNat_zero]at y z B;simp only[y,Vo,z,XJ,B];refine Ea (v:={Lo:=0,Hi:=0}) (YA (Qx (show¬(0:Int)<0 by omega)) (Qa _)) (Ea (EA (QbT (by simp))) (Qa _))
  .rw[d];rfl
def handW(h:Hand):Bool:=decide (h.Hi<h.Lo)||(!timeB h.Lo||(!timeB h.Hi||decide (h.Position<0)))
theorem Qhi(x:Int):Ev (λn=>F_bp n x) (timeB x):=by
 unfold F_bp timeB inR;exact Ea (Ei λ_=>Qa _) (Qa _)
theorem Qlb(h:Hand):Ev (λn=>F_cc n h) (handW h):=by
 unfold F_cc handW;refine Ea (Qh λ_=>Ea (Qhi _) (Qh λ_=>Ea (Qhi _) (Qh λ_=>Qa _))) (Qa _)
def argW(c:Course)(s:Starter)(l:List Hand):Bool:=decide (s.Distance<0)||(decide ((c.Distances.length:Int)<=s.Distance)||(decide (s.Wave<0)||(decide ((c.Waves.length:Int)<=s.Wave)||l.any handW)))
def prepV(c:Course)(k:Clocks)(s:Starter)(e:Int)(x:List Hit)(l:List Hand):U_match_prepare:=
 bif !clkB k then .c0 160 else bif argW c s l then .c0 1 else bif (routeO c s.Distance e).2 != 0 then .c0 (routeO c s.Distance e).2 else bif !checkH c x then .c0 170 else
  match timesV c k x with
  |none=>.c0 170
  |some t=>.c1 ((routeO c s.Distance e).1,sumsV c (routeO c s.Distance e).1,t,(hndV l).1,(hndV l).2)
theorem QhW{c:Course}(g:Good c)(p:courseE c=0)(he:Ev (λn=>F_d n c) 0){k:Clocks}(m:ClkW k)(s:Starter)(e:Int)(x:List Hit)(G:x.length<=1000)(l:List Hand)(L:l.length<=1048576):
  Ev (λn=>F_ad n c k s e x l) (prepV c k s e x l):=by
 unfold F_ad prepV;refine Ea he (Qs (Ea (Qli k m) ?_));cases z:clkB k with
 |false=>exact Qa _
 |true=>
 refine Qs (Ea (v:=argW c s l) ?_ ?_)
 .unfold argW;refine Qh λ_=>Qh λ_=>Qh λ_=>Qh λ_=>Ea ?_ (Qa _);exact Ev.contains l handW (λn y=>F_cc n y) (by omega) λy _=>Qlb y
 cases argW c s l with
 |true=>exact Qa _
 |false=>
 refine Qs (Ea (Qll g he s.Distance e) ?_);cases B:((routeO c s.Distance e).2 != 0)with
 |true=>exact Qa _
 |false=>
 have a:(routeO c s.Distance e).2=0:=by simpa[bne]using B
 refine Qs (Ea (QjA c x (by omega) he) ?_);cases u:checkH c x with
 |false=>exact Qa _
 |true=>
 refine Qs (Ea (Qk0 (QeS p) he (QhC m z) x (Qf5 u) G) ?_);cases timesV c k x with
 |none=>exact Qa _
 |some t=>
 obtain⟨j,d,w,M,H,r,E,J,i⟩:=Qb0 g a;have q:=VG r;have h:(routeO c s.Distance e).1.length<=256:=by
  rw[i];unfold routeV;simp only[X3,Xy,List.length_drop,List.length_replicate];omega
 have f:Adj c (routeO c s.Distance e).1:=by rw[i];exact Qfo g p q w E
 refine Ea (Qla l (by omega)) ?_;have F:routeO c s.Distance e=((routeO c s.Distance e).1,0):=Prod.ext rfl a;rw[F];exact Ea (Qms g.legs h f) (Qa _)
set_option maxRecDepth 10000
structure Task where
 c:Course
 k:Clocks
 r:List Int
 s:List Span
 H:List Hit
 T:List Ud
 m:List (Int×Ud)
 hi:Int
abbrev zX:Ud:={segment:=0,span:={Lo:=0,Hi:=0}}
def Task.seg(t:Task)(x:Ud):Prop:=∃j:Nat,x.segment+1=(j:Int)/\j<t.k.Segments.length+1
structure TaskOk (t:Task):Prop where
 ty:Ev (λn=>F_d n t.c) 0
 crs:CrsOk t.c
 clk:ClkOk t.k
 sl:t.s.length=t.r.length
 rl:t.r.length<=256
 tl:t.T.length=t.H.length
 hl:t.H.length<=1000
 hit:∀(i:Nat) (h:Hit),t.H[i]?=some h->HitOk t.c h
 sg:∀x∈t.T,t.seg x
 hs:∀p x,Y3 t.m p=some x->t.seg x
 mi:0<=t.c.Faults.Misses
def knownV(t:Task)(p h:Int):Ud×Bool:=bif Y2 t.m p||decide (h<0)then(QB t.m p zX,Y2 t.m p)else((t.T[h.toNat]?).getD zX,true)
def hitI(t:Task)(h:Int):Prop:=h<0\/h.toNat<t.H.length
theorem Qad{α:Type}{l:List α}{h:Int}(d:0<=h)(a:h.toNat<l.length):∃x,l[h.toNat]?=some x/\idx l h=some x:=by
 refine⟨l[h.toNat]'(a),XK a,?_⟩;have:=Qo (l:=l) (i:=h.toNat) (XK a)
 rwa [Int.toNat_of_nonneg d]at this
theorem Qhj{t:Task}(ok:TaskOk t)(p h:Int)(a:hitI t h):Ev (λn=>F_ai n p h t.c t.k t.r t.s t.H t.T t.hi t.m t.c t.k) (knownV t p h):=by
 unfold F_ai knownV;refine Ea (Qa _) (Ea (Qh λ_=>Qa _) ?_);refine Qah (λ_=>Qa _) λq=>?_;rw[XX,decide_eq_false_iff_not]at q;obtain⟨x,e,d⟩:=Qad (l:=t.T) (h:=h) (by omega) (by have:=ok.tl;rcases a with z|z<;>omega);rw[d,e];exact Qa _
theorem Qb4{t:Task}(ok:TaskOk t){p h:Int}(f:hitI t h)(q:(knownV t p h).2=true):t.seg (knownV t p h).1:=by
 unfold knownV at q⊢;cases e:(Y2 t.m p||decide (h<0))with
 |true=>
  rw[e]at q;simp only[Vo]at q⊢;rw[QaL]at q;obtain⟨x,a⟩:=Option.isSome_iff_exists.1 q;unfold QB;rw[a];exact ok.hs p x a
 |false=>
  simp only[Vp];rw[XX,decide_eq_false_iff_not]at e;obtain⟨x,d,g⟩:=Qad (l:=t.T) (h:=h) (by omega) (by have:=ok.tl;rcases f with z|z<;>omega);rw[d];exact ok.sg x (VG d)
def meetV(d w:Span):Bool:=decide ((if d.Lo<w.Lo then w.Lo else d.Lo)<=(if w.Hi<d.Hi then w.Hi else d.Hi))
def trueV(c:Course)(k:Clocks)(g:Int)(a b:Int):Span:=
 bif decide (g<0)then {Lo:=a,Hi:=i64.wrap (b+c.Faults.Residual)}else match k.Segments[g.toNat]? with
 |none=>{Lo:=0,Hi:=0}
 |some s=>bif !matB c s.Mat then {Lo:=0,Hi:=0}else
  {Lo:=i64.wrap (i64.wrap (a+(devV c (kindAt c s.Mat) s a).Lo)-farG k (g.toNat+1) 0),Hi:=i64.wrap (i64.wrap (b+(devV c (kindAt c s.Mat) s b).Hi)+farG k 0 (g.toNat+1))}
theorem Qmr{t:Task}(ok:TaskOk t){x:Ud}(Q:t.seg x){a b:Int}(H:isT a)(M:isT b)(T:a<=b):∃e,Ev (λn=>F_bl n t.c t.k x.segment {Lo:=a,Hi:=b}) (trueV t.c t.k x.segment a b,e):=by
 obtain⟨j,Y,X⟩:=Q;have hs:=ok.clk.dims.segs;have start:∀{v:Span×Int},Ev (λn=>(bif decide (x.segment<0)then some ({Lo:=a,Hi:=i64.wrap (b+t.c.Faults.Residual):Span},0)else(idx t.k.Segments x.segment).bind λf=>(F_az n t.c f.Mat).bind λB=>(bif (!B)then some ({Lo:=0,Hi:=0:Span},1)else(F_ae n t.c f a).bind λu=>(idx t.k.Far (i64.wrap (x.segment+1))).bind λz=>(idx z 0).bind λp=>(F_ae n t.c f b).bind λg=>(idx t.k.Far 0).bind λr=>(idx r (i64.wrap (x.segment+1))).bind λq=>some ({Lo:=i64.wrap ((i64.wrap (a+u.Lo))-p),Hi:=i64.wrap ((i64.wrap (b+g.Hi))+q):Span},0)):Option (Span×Int))) v->Ev (λn=>F_bl n t.c t.k x.segment {Lo:=a,Hi:=b}) v:=by
  intro v W;unfold F_bl;refine Ea ok.ty (Qs (Ea ok.clk.ev (Qs (Ea (v:=false) ?_ (Qs W)))));simp only[Qx (show¬x.segment< -1 by omega),Qx (show¬(t.k.Segments.length:Int)<=x.segment by omega),Vp];refine Ea (Qba a) ?_;rw[timeI.2 H];refine Qs (Ea (Qba b) ?_);rw[timeI.2 M];refine Qs ?_;rw[Qx (by show¬b<a;omega)];exact Qa _
 unfold trueV;by_cases d:x.segment<0
 .rw[Qw d];exact⟨_,start (Yz (Qw d) (Qa _))⟩
 rw[Qx d];simp only[Vp];obtain⟨s,L,G⟩:=Qad (l:=t.k.Segments) (h:=x.segment) (by omega) (by omega);rw[L];simp only;cases y:matB t.c s.Mat with
 |false=>exact⟨_,start (YA (Qx d) (Qt G (Ea ((QeP t.c s.Mat).eq y) (Yz rfl (Qa _)))))⟩
 |true=>
  obtain⟨i,m,E,F⟩:=QkD y;have R:kindAt t.c s.Mat=m.Kind:=by unfold kindAt;rw[E,Int.toNat_natCast,F];rfl
  have J:=ok.clk.anc s (VG L);obtain⟨V,P⟩:=ok.clk.dims.get (i:=x.segment.toNat+1) (j:=0) (by omega) (by omega);obtain⟨O,N⟩:=ok.clk.dims.get (i:=0) (j:=x.segment.toNat+1) (by omega) (by omega);have w:i64.wrap (x.segment+1)=((x.segment.toNat+1:Nat):Int):=by rw[Qq (by omega) (by omega)];omega
  refine⟨0,start (YA (Qx d) (Qt G (Ea ((QeP t.c s.Mat).eq y) (YA rfl (Ea (Qh1 ok.crs F E J H) (Qt (v:=t.k.Far[x.segment.toNat+1]?.getD []) (by rw[w];exact Qo V) (Qt (v:=farG t.k (x.segment.toNat+1) 0) (Qo (i:=0) P) (Ea (Qh1 ok.crs F E J M) (Qt (v:=t.k.Far[0]?.getD []) (Qo (i:=0) O) (Qt (v:=farG t.k 0 (x.segment.toNat+1)) (by rw[w];exact Qo N) ?_))))))))))⟩;rw[R];exact Qa _
def agreeV(t:Task)(h p:Int):Bool:=bif !(Y2 t.m p)then true else match t.H[h.toNat]?,t.T[h.toNat]? with
 |some y,some x=>meetV (trueV t.c t.k x.segment y.First y.Last) (QB t.m p zX).span
 |_,_=>true
theorem Qlj{t:Task}(ok:TaskOk t){h p:Int}(d:0<=h)(g:h.toNat<t.H.length):Ev (λn=>F_cu n h p t.c t.k t.c t.k t.r t.s t.H t.T t.hi t.m) (agreeV t h p):=by
 unfold F_cu agreeV;refine Ea (Qa _) ?_;cases Y2 t.m p with
 |false=>exact Qa _
 |true=>
  obtain⟨y,y1,y2⟩:=Qad (l:=t.H) d g;obtain⟨x,f,i⟩:=Qad (l:=t.T) d (by rw[ok.tl];exact g);have a:=ok.hit _ _ y1;rw[y2,i,y1,f];refine Qs ?_;simp only[XJ];obtain⟨e,j⟩:=Qmr ok (ok.sg x (VG f)) a.fi a.la a.le;refine Ea j ?_;unfold F_bt;exact Qa _
def needV(t:Task)(i j:Int):Span:=
 let a:=(t.s[i.toNat]?).getD {Lo:=0,Hi:=0}
 let b:=(t.s[j.toNat]?).getD {Lo:=0,Hi:=0}
 {Lo:=if i64.wrap (b.Lo-a.Lo)<2199023255552 then i64.wrap (b.Lo-a.Lo)else 2199023255552,Hi:=if i64.wrap (b.Hi-a.Hi)<2199023255552 then i64.wrap (b.Hi-a.Hi)else 2199023255552}
theorem QiP{t:Task}(ok:TaskOk t){i j:Int}(p:0<=i)(g:i.toNat<t.r.length)(e:0<=j)(h:j.toNat<t.r.length):Ev (λn=>F_aj n i j t.c t.k t.r t.s t.H t.T t.hi t.m t.c t.k) (needV t i j):=by
 obtain⟨a,f,q⟩:=Qad (l:=t.s) p (by rw[ok.sl];exact g);obtain⟨b,d,u⟩:=Qad (l:=t.s) e (by rw[ok.sl];exact h);unfold F_aj needV;rw[q,u,f,d];exact Qa _
def distV(t:Task)(a b:Ud):Span:=
 bif (i64.wrap (a.segment+1)) != (i64.wrap (b.segment+1))then
  {Lo:=i64.wrap (i64.wrap (b.span.Lo-a.span.Hi)-farG t.k (b.segment+1).toNat (a.segment+1).toNat),Hi:=i64.wrap (i64.wrap (b.span.Hi-a.span.Lo)+farG t.k (a.segment+1).toNat (b.segment+1).toNat)}
 else {Lo:=i64.wrap (b.span.Lo-a.span.Hi),Hi:=i64.wrap (b.span.Hi-a.span.Lo)}
def followsV(t:Task)(a:Ud)(i:Int)(b:Ud)(j:Int):Bool:=meetV (distV t a b) (needV t i j)
theorem Qh0{t:Task}(ok:TaskOk t){a b:Ud}{i j:Int}(e:t.seg a)(l:t.seg b)(B:0<=i)(h:i.toNat<t.r.length)(g:0<=j)(p:j.toNat<t.r.length):
  Ev (λn=>F_bd n a i b j t.c t.k t.r t.s t.H t.T t.hi t.m t.c t.k) (followsV t a i b j):=by
 obtain⟨x,q,d⟩:=e;obtain⟨y,y1,y2⟩:=l;have E:=ok.clk.dims.segs;unfold F_bd followsV;refine Ea (v:=distV t a b) ?_ (Ea (QiP ok B h g p) ?_)
 .unfold distV;rw[q,y1,Qq (n:=(x:Int)) (by omega) (by omega),Qq (n:=(y:Int)) (by omega) (by omega)];refine Qah (λ_=>?_) λ_=>Qa _;obtain⟨w,u⟩:=ok.clk.dims.get (i:=y) (j:=x) y2 d;obtain⟨z,f⟩:=ok.clk.dims.get (i:=x) (j:=y) d y2;rw[Qo w,XJ,Qo u,XJ,Qo z,XJ,Qo f,XJ,Int.toNat_natCast,Int.toNat_natCast];exact Qa _
 .unfold F_bt;exact Qa _
structure StOk (t:Task) (s:Uf):Prop where
 la:s.last<(t.r.length:Int)
 wh:0<=s.last->t.seg s.when
 r0:0<=s.row
 r1:s.row<=1000
def stopV(t:Task)(s:Uf)(p h:Int):Bool:=(decide (0<=h)&& !agreeV t h p)||(decide (0<=s.last)&& !followsV t s.when s.last (knownV t p h).1 p)
def stepV(t:Task)(s:Uf)(p h:Int):Uf×Bool:=
 bif !(knownV t p h).2 then({s with row:=s.row+1},decide (s.row+1<=t.c.Faults.Misses))else bif stopV t s p h then(s,false)else({last:=p,when:=(knownV t p h).1,row:=0},true)
theorem Qmt{t:Task}(ok:TaskOk t){s:Uf}(e:StOk t s){p h:Int}(l:0<=p)(u:p.toNat<t.r.length)(f:hitI t h):
  Ev (λn=>F_as n s p h t.c t.k t.r t.s t.H t.T t.hi t.m t.c t.k) (stepV t s p h):=by
 have r0:=e.r0;have r1:=e.r1;unfold F_as stepV;refine Ea (Qhj ok p h f) ?_;rw[Qq (n:=s.row+1) (by omega) (by omega)];cases w:(knownV t p h).2 with
 |false=>exact Qa _
 |true=>
  have i:=Qb4 ok f w;refine Qs (Ea (v:=stopV t s p h) ?_ ?_)
  .have d:Ev (λn=>(bif decide (0<=s.last)then(F_bd n s.when s.last (knownV t p h).1 p t.c t.k t.r t.s t.H t.T t.hi t.m t.c t.k).bind λg=>some (!g)else some false:Option Bool)) (decide (0<=s.last)&& !followsV t s.when s.last (knownV t p h).1 p):=by
    refine Ei λq=>?_;have q:=Vu q;exact Ea (Qh0 ok (e.wh q) i q (by have:=e.la;omega) l u) (Qa _)
   unfold stopV;by_cases a:0<=h
   .rw[Qw a,Vz];have j:h.toNat<t.H.length:=by rcases f with z|z<;>omega
    refine Ea (Qlj ok a j) ?_;exact Qh λ_=>d
   .rw[Qx a,Bool.false_and,Bool.false_or];exact d
  .cases stopV t s p h<;>exact Qa _
theorem Ql4{t:Task}(ok:TaskOk t){s:Uf}(a:StOk t s){p h:Int}(d:p<(t.r.length:Int))(f:hitI t h)(g:s.row<1000):StOk t (stepV t s p h).1:=by
 have r0:=a.r0;unfold stepV;cases e:(knownV t p h).2 with
 |false=>exact⟨a.la,a.wh,by show 0<=s.row+1;omega,by show s.row+1<=1000;omega⟩
 |true=>
  simp only[Xg,Vp];cases stopV t s p h with
  |true=>exact a
  |false=>exact⟨d,λ_=>Qb4 ok f e,by show(0:Int)<=0;omega,by show(0:Int)<=1000;omega⟩
def badV(t:Task)(W:Way)(u:List (Int×Bool))(i:Nat)(h:Int):Bool:=
 decide (h<0)||(decide ((t.H.length:Int)<=h)||((((t.H[h.toNat]?).map (·.Mat)).getD 0 != (t.r[i]?).getD 0)||(QB u h false||decide (W.Last<(i:Int)))))
def admL(t:Task)(W:Way):List Int->Nat->List (Int×Bool)->Uf->Bool
 |[],_,_,_=>true
 |h::r,i,u,s=>
  bif (h != -1)&&badV t W u i h then false else
  bif decide (W.Last<(i:Int))then admL t W r (i+1) (bif h != -1 then Q3 u h true else u) s else
  bif !(stepV t s (i:Int) h).2 then false else admL t W r (i+1) (bif h != -1 then Q3 u h true else u) (stepV t s (i:Int) h).1
theorem Qdm(t:Task)(W:Way)(h:Int)(r:List Int)(i:Nat)(u:List (Int×Bool))(s:Uf):admL t W (h::r) i u s=
  bif (h != -1)&&badV t W u i h then false else
  bif decide (W.Last<(i:Int))then admL t W r (i+1) (bif h != -1 then Q3 u h true else u) s else
  bif !(stepV t s (i:Int) h).2 then false else admL t W r (i+1) (bif h != -1 then Q3 u h true else u) (stepV t s (i:Int) h).1:=rfl
def inV(l:List Int)(x:Int):Bool:=decide (0<=firstI (λy=>x==y) l 0)
def strL(W:Way):List Hit->Nat->Int->Int
 |[],_,a=>a
 |_::r,i,a=>strL W r (i+1) (bif !inV W.Hits (i:Int)then i64.wrap (a+1)else a)
theorem Qjt(W:Way)(H:List Hit)(p:W.Hits.length<=1048576)(q:H.length<=1048576):Ev (λn=>F_br n H W) (strL W H 0 0):=by
 have g:∀(r:List Hit) (i:Nat) (a:Int),H.drop i=r->i<=H.length->EvI (λn=>F_jy n H W) (a,(i:Int)) (strL W r i a):=by
  intro r
  induction r with
  |nil=>
   intro i a d k;refine Ej ?_;unfold F_jy;simp only[QJ d k,Vp];exact Qa _
  |cons y r l=>
   intro i a d k;obtain⟨e,f⟩:=Qv (by omega) d;have m:=e.lt';refine Ex ?_ (l (i+1) _ f (by omega));unfold F_jy;simp only[e.lt,Vo,e.nx];refine Ea (v:=inV W.Hits (i:Int)) ?_ ?_
   .unfold F_hd inV;refine Ea (v:=firstI (λy=>(i:Int)==y) W.Hits 0) ?_ (Qa _);unfold F_hh;refine Ev.first W.Hits _ (by omega) (λj x h=>?_) ?_
    .unfold F_kv;simp only[h.lt,Vo,h.ix,XJ,h.nx];cases((i:Int)==x)<;>exact Qa _
    .unfold F_kv;simp only[Qao,Vp];exact Qa _
   .cases inV W.Hits (i:Int)<;>exact Qa _
 unfold F_br;exact Ea (g H 0 0 rfl (XU _)).ev (Qa _)
def admB(t:Task)(W:Way):Bool:=((W.Hits.length:Int) != (t.r.length:Int))||(decide (W.Last< -1)||(decide ((t.r.length:Int)<=W.Last)||(decide (W.Last<t.hi)||decide (t.c.Faults.Strays<strL W t.H 0 0))))
def s0V:Uf:={z_match_state with last:=(-1)}
def admV(t:Task)(W:Way):Bool:=bif admB t W then false else admL t W W.Hits 0 [] s0V
theorem s0_ok{t:Task}:StOk t s0V:=⟨by show(-1:Int)<_;omega,λh=>by have:(0:Int)<= -1:=h;omega,by show(0:Int)<=0;omega,by show(0:Int)<=1000;omega⟩
theorem Qcq{t:Task}{W:Way}{u:List (Int×Bool)}{i:Nat}{h:Int}(q:((h != -1)&&badV t W u i h)=false):hitI t h/\(h= -1\/(0<=h/\badV t W u i h=false)):=by
 rw[Bool.and_eq_false_iff]at q;rcases q with q|q
 .have:h= -1:=by simpa[bne]using q
  exact⟨.inl (by omega),.inl this⟩
 .have a:=q;unfold badV at a;simp only[XX,decide_eq_false_iff_not]at a;exact⟨.inr (by omega),.inr ⟨by omega,q⟩⟩
theorem Qlk{t:Task}(ok:TaskOk t)(W:Way)(X:W.Hits.length<=1048576):Ev (λn=>F_bk n W t.c t.k t.r t.s t.H t.T t.hi t.m t.c t.k) (admV t W):=by
 unfold F_bk admV;refine Ea (v:=admB t W) ?_ ?_
 .unfold admB;exact Qh λ_=>Qh λ_=>Qh λ_=>Qh λ_=>Ea (Qjt W t.H X (by have:=ok.hl;omega)) (Qa _)
 cases L:admB t W with
 |true=>exact Qa _
 |false=>
 unfold admB at L;simp only[XX,decide_eq_false_iff_not]at L;obtain⟨f,b1,b2,b3,_⟩:=L;have f:W.Hits.length=t.r.length:=by have:=f;simp[bne]at this;omega
 have rl:=ok.rl;have J:∀(r:List Int) (i:Nat) (u:List (Int×Bool)) (s:Uf),W.Hits.drop i=r->i<=W.Hits.length->StOk t s->s.row<=(i:Int)->EvI (λn=>F_cp n W t.c t.k t.r t.s t.H t.T t.hi t.m t.c t.k) (u,s,(i:Int)) (bif admL t W r i u s then Ctl.cont ()else Ctl.done false):=by
  intro r
  induction r with
  |nil=>
   intro i u s M hi G _;refine Ej ?_;unfold F_cp admL;simp only[QJ M hi,Vp];exact Qa _
  |cons h r V=>
   intro i u s M hi G R;obtain⟨d,B⟩:=Qv (by omega) M;have Y:=d.lt';rw[Qdm];have j:t.r[i]?=some (t.r[i]'(by omega)):=XK (by omega);have a:Ev (λn=>((bif (h != (-1))then((bif decide (h<0)then some true else(bif decide ((t.H.length:Int)<=h)then some true else(idx t.H h).bind λq=>(idx t.r (i:Int)).bind λz=>(bif (q.Mat != z)then some true else(some (QB u h false)).bind λw=>(bif w then some true else some (decide (W.Last<(i:Int))))))):Option Bool).bind λE=>(bif E then some (.done (.done (.done (.done false))))else(some (Q3 u h true)).bind λg=>some (.cont g))else some (.cont u)):Option (Ctl (List (Int×Bool)) (Ctl ((List (Int×Bool))×Uf) (Ctl ((List (Int×Bool))×Uf×Int) (Ctl Unit Bool))))))
     (bif (h != -1)&&badV t W u i h then .done (.done (.done (.done false)))else .cont (bif h != -1 then Q3 u h true else u)):=by
    cases hn:(h != -1)with
    |false=>exact Qa _
    |true=>
     refine Qaq (Ea (v:=badV t W u i h) ?_ ?_)
     .unfold badV;refine Qh λO=>Qh λQ=>?_;have O:=Vv O;have Q:=Vv Q;obtain⟨y,y1,y2⟩:=Qad (l:=t.H) (h:=h) (by omega) (by omega);rw[y2,y1,XJ,Qo j,XJ,j];exact Qh λ_=>Ea (Qa _) (Qh λ_=>Qa _)
     .cases badV t W u i h<;>exact Qa _
   cases e:((h != -1)&&badV t W u i h)with
   |true=>
    rw[e]at a;refine Ej ?_;unfold F_cp;simp only[d.lt,Vo,d.ix,XJ,d.nx];exact Ea (Ea a (Qa _)) (Qa _)
   |false=>
    rw[e]at a;obtain⟨P,_⟩:=Qcq e;simp only[Vp]at a⊢;by_cases x:W.Last<(i:Int)
    .rw[Qw x,Vo];refine Ex ?_ (V (i+1) _ s B (by omega) G (by omega));unfold F_cp;simp only[d.lt,Vo,d.ix,XJ,d.nx];exact Ea (v:=Ctl.cont (_,_)) (Ea a (Yz (Qw x) (Qa _))) (Qa _)
    .rw[Qx x,Vp];have N:=Qmt ok G (p:=(i:Int)) (h:=h) (by omega) (by omega) P;cases F:(stepV t s (i:Int) h).2 with
     |false=>
      refine Ej ?_;unfold F_cp;simp only[d.lt,Vo,d.ix,XJ,d.nx];refine Ea (v:=Ctl.done (.done (.done false))) (Ea a (YA (Qx x) (Ea N (v:=(stepV t s (i:Int) h)) ?_))) (Qa _);rw[F];exact Qa _
     |true=>
      simp only[Xg,Vp];refine Ex ?_ (V (i+1) _ _ B (by omega) (Ql4 ok G (by omega) P (by omega)) ?_)
      .unfold F_cp;simp only[d.lt,Vo,d.ix,XJ,d.nx];refine Ea (v:=Ctl.cont (_,(stepV t s (i:Int) h).1)) (Ea a (YA (Qx x) (Ea N (v:=(stepV t s (i:Int) h)) ?_))) (Qa _);rw[F];exact Qa _
      .have r0:=G.r0;unfold stepV;cases(knownV t (i:Int) h).2 with
       |false=>show s.row+1<=_;omega
       |true=>
        simp only[Xg,Vp];cases stopV t s (i:Int) h with
        |true=>show s.row<=_;omega
        |false=>show(0:Int)<=_;omega
 refine Qs ?_;unfold F_cm;simp only[XJ];refine Ea (J W.Hits 0 [] s0V rfl (XU _) s0_ok (by show(0:Int)<=_;omega)).ev ?_;cases admL t W W.Hits 0 [] s0V<;>exact Qa _
set_option maxRecDepth 10000
theorem Qmy(X:Int):∀(m:Nat) (l:List Part),szPs l<=m->partsS X l=true->l.length<=1048576->(∀x∈l,Part.wf x)->(flPs l).length<=256->Ev (λn=>F_w n l) (flPs l):=by
 intro m
 induction m using Nat.strongRecOn with
 |_ m Y=>
 intro l hm H L R T;rw[Y1,Xs]at H;refine Yy ?_;show Ev (λn=>B_w (F_w n) n l) _;unfold B_w;have inner:∀(p:Part) (i:Nat) (e:At l i p) (B w:List Int),0<=p.Laps->p.Laps<=64->w.length<=256->∀(k j:Nat) (o:List Int),j+k=p.Laps.toNat->o.length+(List.replicate k w).flatten.length<=256->
   EvI (λn=>F_hw n l (B,(i:Int)) w) (o,(j:Int)) (o++(List.replicate k w).flatten):=by
  intro p i e B w J O M k
  induction k with
  |zero=>
   intro j o hj _;refine Ej ?_;unfold F_hw;simp only[e.ix,XJ,Qx (show¬((j:Int)<p.Laps)by omega),Vp,List.replicate_zero,List.flatten_nil,Vg];exact Qa _
  |succ k h=>
   intro j o hj f;by_cases u:w.length=0
   .have u:w=[]:=VI.1 u;subst u;refine Ej ?_;unfold F_hw;simp only[e.ix,XJ,Qw (show(j:Int)<p.Laps by omega),Vo,Qx (show¬((0:Int)<(([]:List Int).length:Int))by simp),Vp];exact(Qa _).eq (by simp)
   .rw[Xl,Vl]at f⊢;simp only[X3]at f;refine(Ex ?_ (h (j+1) (o++w) (by omega) (by rw[X3];omega))).eq (by rw[Vi]);unfold F_hw;simp only[e.ix,XJ,Qw (show(j:Int)<p.Laps by omega),Vo,Qw (show(0:Int)<(w.length:Int)by omega),Qw (show(o.length:Int)<=300 by omega)];refine Qt (QaN o w (by omega)) ?_;rw[QO (by omega)];exact Qa _
 have loop:∀(r:List Part) (i:Nat) (o:List Int),l.drop i=r->i<=l.length->o.length+(flPs r).length<=256->EvI (λn=>F_ij n l (F_w n)) (o,(i:Int)) (o++flPs r):=by
  intro r
  induction r with
  |nil=>
   intro i o s G _;refine Ej ?_;unfold F_ij;simp only[QJ s G,Vp,flPs,Vg];exact Qa _
  |cons p r t=>
   intro i o s G f;obtain⟨e,q⟩:=Qv (by omega) s;have Q:=e.lt';rw[Qa7,X3]at f;have P:=YU e.mem;rw[YG]at P;obtain⟨V,W⟩:=Yc (R p e.mem);have N:=H p e.mem;refine(Ex ?_ (t (i+1) (o++flP p) q (by omega) (by rw[X3];omega))).eq (by rw[Qa7,Vi]);unfold F_ij;simp only[e.lt,Vo,e.ix,XJ,e.nx];rcases Qf3 N with J|⟨a,b,d⟩
   .have g:(p.Laps==0)=true:=by simp[J]
    have y:flP p=[p.Mat]:=by rw[Qdj,g];rfl
    rw[y]at f⊢;refine Ea (v:=o++[p.Mat]) ?_ (Qa _);rw[g];exact Qaq (Ea (EA (QbT (by omega))) (Qa _))
   .have g:(p.Laps==0)=false:=beq_false_of_ne (by omega);have y:flP p=(List.replicate p.Laps.toNat (flPs p.Parts)).flatten:=by rw[Qdj,g];rfl
    rw[y]at f⊢;have F:(flPs p.Parts).length<=256:=by
     obtain⟨E,z⟩:∃E,p.Laps.toNat=E+1:=⟨p.Laps.toNat-1,by omega⟩;rw[z,Xl,Vl,X3]at f;omega
    refine Ea (v:=o++(List.replicate p.Laps.toNat (flPs p.Parts)).flatten) ?_ (Qa _);rw[g];exact Qs (Ea (Y (szPs p.Parts) (by omega) p.Parts (XT _) d V W F) (Ea ((inner p i e o (flPs p.Parts) (by omega) b F p.Laps.toNat 0 o (by omega) (by omega)).ev) (Qa _)))
 exact Ea ((loop l 0 [] (by simp) (XU _) (by simpa using T)).ev.eq (Vh _)) (Qa _)
theorem Qfv(l:List Int)(x:Int){j:Nat}(f:0<j)(d:l[j]?=some x):∀m,j<=m->(∀p,j<p->p<=m->l[p]? ≠some x)->lastB l x m=j
 |0,h,_=>by omega
 |m+1,h,h2=>by
  unfold lastB;rcases Nat.eq_or_lt_of_le h with e|q
  .rw[<- e,d];simp
  .have:=h2 (m+1) q (XT _);have e:(l[m+1]? ==some x)=false:=by rw[Vy];exact this
   rw[e,Vp];exact Qfv l x f d m (by omega) λp a b=>h2 p a (by omega)
theorem QmB(l:List Int)(x:Int)(N:l.length<=1048576):∃b:Int,Ev (λn=>F_de n l x) b/\((b= -1/\ ∀p:Nat,l[p]? ≠some x)\/ ∃q:Nat,q<l.length/\b=(q:Int)/\l[q]?=some x/\ ∀p:Nat,q<p->l[p]? ≠some x):=by
 have u:∀(r:List Int) (i:Nat) (b:Int),l.drop i=r->i<=l.length->((b= -1/\ ∀p:Nat,p<i->l[p]? ≠some x)\/ ∃q:Nat,q<i/\b=(q:Int)/\l[q]?=some x/\ ∀p:Nat,q<p->p<i->l[p]? ≠some x)->
   ∃j:Int,EvI (λn=>F_ih n l x) (b,(i:Int)) j/\((j= -1/\ ∀p:Nat,l[p]? ≠some x)\/ ∃q:Nat,q<l.length/\j=(q:Int)/\l[q]?=some x/\ ∀p:Nat,q<p->l[p]? ≠some x):=by
  intro r
  induction r with
  |nil=>
   intro i b m H E;have L:l.length<=i:=Xq.1 m;have k:∀p:Nat,i<=p->l[p]? ≠some x:=λp t=>by rw[XO (by omega)];exact nofun
   refine⟨b,Ej ?_,?_⟩
   .unfold F_ih;simp only[QJ m H,Vp];exact Qa _
   .rcases E with⟨h,d⟩|⟨q,h,d,G,s⟩
    .exact .inl ⟨h,λp=>(VB p i).elim (d p) (k p)⟩
    .exact .inr ⟨q,by omega,d,G,λp a=>(VB p i).elim (s p a) (k p)⟩
  |cons y r M=>
   intro i b m H E;obtain⟨f,F⟩:=Qv (by omega) m;have J:=f.lt';obtain⟨j,B,w⟩:=M (i+1) (bif y==x then(i:Int)else b) F (by omega) (by
    cases e:(y==x)with
    |true=>
     rw[Vx]at e;subst e;exact .inr ⟨i,by omega,rfl,f.get,λp a c=>by omega⟩
    |false=>
     rw[Vy]at e;have g:l[i]? ≠some x:=by rw[f.get];intro q;cases q;exact e rfl
     rcases E with⟨h,d⟩|⟨q,h,d,G,s⟩
     .exact .inl ⟨h,λp t=>(VB p i).elim (d p) λz=>(show i=p by omega)▸g⟩
     .exact .inr ⟨q,by omega,d,G,λp a t=>(VB p i).elim (s p a) λz=>(show i=p by omega)▸g⟩)
   refine⟨j,Ex ?_ B,w⟩;unfold F_ih;simp only[f.lt,Vo,f.ix,XJ,f.nx];cases(y==x)<;>exact Qa _
 obtain⟨b,B,w⟩:=u l 0 (-1) rfl (XU _) (.inl ⟨rfl,λp t=>by omega⟩);refine⟨b,?_,w⟩;unfold F_de;exact Ea B.ev (Qa _)
theorem QkX{c:Course}(g:Good c)(w:courseE c=0){d:Distance}(t:d∈c.Distances)(hE:0<=d.Extra):∃i,0<i/\(flPs d.Route)[i]?=some d.Extra:=by
 have h:=(Y6 w).2.2 d t;unfold routeS routeR at h;rw[g.exp t]at h;simp only[XW,Vq]at h;obtain⟨⟨x,u⟩,f,l,_⟩:=h;rw[Qw hE,Vo]at l;simp only[XW,Bool.not_eq_true',Vy,ne_eq]at l;obtain⟨s,p,y⟩:=l;have e:d.Extra∈flPs d.Route:=by
  by_cases j:d.Extra∈flPs d.Route
  .exact j
  .rw[List.count_eq_zero_of_not_mem j]at s;exact absurd rfl s
 obtain⟨i,k,a⟩:=List.getElem_of_mem e;refine⟨i,?_,by rw[XK k,a]⟩;rcases Nat.eq_zero_or_pos i with q|q
 .subst q;cases n:flPs d.Route with
  |nil=>rw[n]at k;simp at k
  |cons m r=>
   rw[n]at f;unfold rokS at f;simp only[XW,Vx,decide_true,Bool.true_eq]at f;have j:m=d.Extra:=by rw[<- a];simp[n]
   rw[<- j]at p;rw[Vx]at p;have:=f.1;rw[p]at this;simp at this
 .exact q
theorem QkW{c:Course}(e:courseE c=0){d:Distance}(a:d∈c.Distances): -1<=d.Extra:=by
 have h:=(Y6 e).2.1;unfold numbersS at h;simp only[XW]at h;obtain⟨_,_,_,h,_⟩:=h;have:=Xs.1 h d a;unfold distS inR at this;simp only[XW,Vq]at this;exact this.2.1.1
theorem Qb5{c:Course}(hg:courseE c=0->Good c)(he:Ev (λn=>F_c n c) (courseE c))(i k:Int):Ev (λn=>F_ac n c i k) (bif courseE c != 0 then([],courseE c)else routeO c i k):=by
 unfold F_ac;cases x:(courseE c != 0)with
 |true=>
  refine Ea (v:=courseE c) ?_ (Yz x (Qa _));unfold F_cl;exact Ea he (Yz x (Qa _))
 |false=>
 have e:courseE c=0:=by simpa[bne]using x
 have g:=hg e;rw[e]at he;simp only[Vp];unfold routeO;have chk:∀b:Bool,(decide (i<0)||decide ((c.Distances.length:Int)<=i))=b->Ev (λn=>F_cl n c i) (bif b then 90 else 0):=by
  intro b w;unfold F_cl;refine Ea he (Qs (Ea (v:=b) (Ew (Qh λ_=>Qa _) w) ?_));cases b<;>exact Qa _
 by_cases r:i<0
 .rw[Qw r,Vo];exact Ea (chk true (by rw[Qw r];rfl)) (Qa _)
 rw[Qx r,Vp];cases s:c.Distances[i.toNat]? with
 |none=>
  have:=List.getElem?_eq_none_iff.1 s;exact Ea (chk true (by rw[Qw (show(c.Distances.length:Int)<=i by omega),Bool.or_true])) (Qa _)
 |some d=>
  have P:=(XL.1 s).1;have f:=VG s;have H:=QkW e f;have h:=(g.route d f).2;rw[g.exp f]at h;refine Ea (chk false (by rw[Qx r,Qx (show¬(c.Distances.length:Int)<=i by omega)];rfl)) (Qs ?_);have u:idx c.Distances i=some d:=by
   have:=Qo s
   rwa [Int.toNat_of_nonneg (by omega)]at this
  refine Qt u ?_;simp only;have T:decide (d.Extra<0)=(d.Extra== -1):=by
   by_cases z:d.Extra<0
   .rw[Qw z];symm;rw[Vx];omega
   .rw[Qx z];symm;rw[Vy];omega
  refine Ea (v:=decide (k<0)||(decide (0<k)&&decide (d.Extra<0))) ?_ ?_
  .rw[T];exact Qh λ_=>Ei λ_=>Qa _
  cases w:(decide (k<0)||(decide (0<k)&&decide (d.Extra<0)))with
  |true=>exact Qa _
  |false=>
   simp only[XX,decide_eq_false_iff_not,Bool.and_eq_false_iff]at w;refine Qs (Ea (Qmy _ _ d.Route (XT _) (g.parts d f) (g.len d f) (g.wf d f) h) ?_);refine Ea (v:=decide (256-((flPs d.Route).length:Int)<k)) ?_ ?_
   .by_cases l:256<k
    .rw[Qw l,Qw (show 256-((flPs d.Route).length:Int)<k by omega)];exact Qa _
    .rw[Qx l,Qq (by omega) (by omega)];refine(Qa _).eq ?_;by_cases z:256-((flPs d.Route).length:Int)<k
     .rw[Qw z,Qw (by omega)]
     .rw[Qx z,Qx (by omega)]
   cases l:decide (256-((flPs d.Route).length:Int)<k)with
   |true=>exact Qa _
   |false=>
    have aa:=Vv l;simp only[Vp];by_cases E:k=0
    .subst E;refine(Qa _).eq ?_;simp[routeV]
    .have O:(k==0)=false:=beq_false_of_ne E;rw[O];refine Qs ?_;have Q:0<=d.Extra:=by omega
     obtain⟨b,N,L⟩:=QmB (flPs d.Route) d.Extra (by omega);obtain⟨F,V,y⟩:=QkX g e f Q;rcases L with⟨_,J⟩|⟨q,q1,M,R,B⟩
     .exact absurd y (J F)
     have X:0<q:=by
      rcases Nat.eq_zero_or_pos q with z|z
      .subst z;exact absurd y (B F V)
      .exact z
     have t:=Qfv (flPs d.Route) d.Extra X R ((flPs d.Route).length-1) (by omega) λp a _=>B p a;refine Ea N ?_;rw[M,QO (by omega)];have G:slc (flPs d.Route) 0 ((q+1:Nat):Int)=some ((flPs d.Route).take (q+1)):=by
      have:=QdS (flPs d.Route) (a:=0) (b:=q+1) (by omega) (by omega);simpa using this
     have s2:slc (flPs d.Route) ((q+1:Nat):Int) ((flPs d.Route).length:Int)=some ((flPs d.Route).drop (q+1)):=by
      have:=QdS (flPs d.Route) (a:=q+1) (b:=(flPs d.Route).length) (by omega) (by omega);simpa using this
     refine Qt G ?_;refine Qt (QaN [] _ (by simp;omega)) ?_;rw[Vh];have lp:∀(m j:Nat),j+m=k.toNat->EvI (λn=>F_ia n k d) ((flPs d.Route).take (q+1)++List.replicate j d.Extra,(j:Int)) ((flPs d.Route).take (q+1)++List.replicate k.toNat d.Extra):=by
      intro m
      induction m with
      |zero=>
       intro j Y;have:j=k.toNat:=by omega
       subst this;refine Ej ?_;unfold F_ia;simp only[Qx (show¬((k.toNat:Nat):Int)<k by omega),Vp];exact Qa _
      |succ m W=>
       intro j Y;refine Ex ?_ (W (j+1) (by omega));unfold F_ia;simp only[Qw (show(j:Int)<k by omega),Vo];refine Qt (QbT (by simp;omega)) ?_;rw[QO (by omega),Vi, <- List.replicate_succ'];exact Qa _
     refine Ea ((lp k.toNat 0 (by omega)).ev.eq rfl |> λh=>by simpa using h) ?_;refine Qt s2 ?_;refine Qt (QaN _ _ (by simp;omega)) ((Qa _).eq ?_);unfold routeV;rw[t]
theorem Qhk(k:Clocks)(w:ClkW k):∃b,Ev (λn=>F_ej n k) b/\(b=true->k.Segments.length<=8):=by
 unfold F_ej;cases d:(decide (8<(k.Segments.length:Int))||decide (10<(k.Far.length:Int)))with
 |true=>exact⟨false,Ea (v:=true) (Ew (Qh λ_=>Qa _) d) (Qa _),nofun⟩
 |false=>
  have e:=d;simp only[XX,decide_eq_false_iff_not]at e;refine⟨bif k.Far.all (λr=> !decide (12<(r.length:Int)))then true else false,Ea (v:=false) (Ew (Qh λ_=>Qa _) d) (Qs (Ea (Q9 k.Far (λr=> !decide (12<(r.length:Int))) (Ctl.done false) (Ctl.cont ()) (by have:=w.far;omega) (λi x a=>?_) ?_) ?_)),λ_=>by omega⟩
  .unfold F_lc;simp only[a.lt,Vo,a.ix,XJ,a.nx];cases decide (12<(x.length:Int))<;>exact Qa _
  .unfold F_lc;simp only[Qao,Vp];exact Qa _
  .cases k.Far.all (λr=> !decide (12<(r.length:Int)))<;>exact Qa _
theorem Qio{k:Clocks}(h:Clocks.wf k):ClkW k:=⟨h.1.1,h.2.1.1,λr hr=>(h.2.1.2 r hr).1⟩
structure FewI (a:stopwatchlaw19_Input):Prop where
 few:FewOk a.C
 ty:Ev (λn=>F_d n a.C) (courseE a.C)
 ref:Ev (λn=>F_c n a.C) (courseE a.C)
 good:courseE a.C=0->Good a.C
 clk:ClkW a.K
 segs:a.K.Segments.length<=8
 mats:a.C.Mats.length<=8
 hits:a.Hits.length<=4
 hands:a.Hands.length<=6
theorem QnF(a:stopwatchlaw19_Input)(w:stopwatchlaw19_Input.wf a):∃b,Ev (λn=>F_ar n a) b/\(b=true->FewI a):=by
 have j:=QdL w.1;have l:=QeX w.1;obtain⟨y,z⟩:=Qiu w.1;have r:=Qio w.2.1;obtain⟨u,f,B⟩:=Qhq a.C w.1;obtain⟨t,g,F⟩:=Qhk a.K r;unfold F_ar F_ea;cases e:(!u||(decide (8<(a.C.Mats.length:Int))||(!t||(decide (4<(a.Hits.length:Int))||decide (6<(a.Hands.length:Int))))))with
 |true=>exact⟨false,Ea (Ea (v:=true) (Ew (Ea f (Qh λ_=>Qh λ_=>Ea g (Qh λ_=>Qh λ_=>Qa _))) e) (Qa _)) (Qa _),nofun⟩
 |false=>
  have d:=e;simp only[XX,decide_eq_false_iff_not,Bool.not_eq_false']at d;obtain⟨E,G,s,J,H⟩:=d;obtain⟨m,x⟩:=B E;have i:=Qga a.C j l m y z;have k:courseE a.C=0->Good a.C:=λh=>Qmm j l h;have all:FewI a:=⟨m,x,i,k,r,F s,by omega,by omega,by omega⟩;cases p:(decide (a.S.Distance<0)||decide ((a.C.Distances.length:Int)<=a.S.Distance))with
  |true=>exact⟨true,Ea (Ea (v:=false) (Ew (Ea f (Qh λ_=>Qh λ_=>Ea g (Qh λ_=>Qh λ_=>Qa _))) e) (Qs (Ea (v:=true) (Ew (Qh λ_=>Qa _) p) (Qa _)))) (Qa _),λ_=>all⟩
  |false=>
   have q:=Qb5 k i a.S.Distance a.Extra;generalize(bif courseE a.C != 0 then([],courseE a.C)else routeO a.C a.S.Distance a.Extra)=R at q;exact⟨R.2 != 0||decide ((R.1.length:Int)<=8),Ea (Ea (v:=false) (Ew (Ea f (Qh λ_=>Qh λ_=>Ea g (Qh λ_=>Qh λ_=>Qa _))) e) (Qs (Ea (v:=false) (Ew (Qh λ_=>Qa _) p) (Qs (Ea q (Ea (Qh λ_=>Qa _) (Qa _))))))) (Qa _),λ_=>all⟩
def taskV(c:Course)(k:Clocks)(s:Starter)(e:Int)(x:List Hit)(l:List Hand)(t:List Ud):Task:=
 {c:=c,k:=k,r:=(routeO c s.Distance e).1,s:=sumsV c (routeO c s.Distance e).1,H:=x,T:=t,m:=(hndV l).1,hi:=(hndV l).2}
def taskE(c:Course)(k:Clocks)(s:Starter)(e:Int)(x:List Hit)(l:List Hand):Int ⊕ Task:=
 bif courseE c != 0 then .inl (courseE c)else bif !clkB k then .inl 160 else bif argW c s l then .inl 1 else bif (routeO c s.Distance e).2 != 0 then .inl (routeO c s.Distance e).2 else bif !checkH c x then .inl 170 else
  match timesV c k x with
  |none=>.inl 170
  |some t=>.inr (taskV c k s e x l t)
def prepU:Int ⊕ Task->U_match_prepare
 |.inl e=>.c0 e
 |.inr t=>.c1 (t.r,t.s,t.T,t.m,t.hi)
theorem QiO{c:Course}(d:Ev (λn=>F_d n c) (courseE c))(h:courseE c=0->Good c){k:Clocks}(j:ClkW k)(s:Starter)(e:Int)(x:List Hit)(g:x.length<=1000)(l:List Hand)(i:l.length<=1048576):
  Ev (λn=>F_ad n c k s e x l) (prepU (taskE c k s e x l)):=by
 unfold taskE;cases f:(courseE c != 0)with
 |true=>
  unfold F_ad;exact Ea d (Yz f (Qa _))
 |false=>
  have a:courseE c=0:=by simpa[bne]using f
  refine(QhW (h a) a (a▸d) j s e x g l i).eq ?_;unfold prepV;cases clkB k with
  |false=>rfl
  |true=>
  cases argW c s l with
  |true=>rfl
  |false=>
  cases((routeO c s.Distance e).2 != 0)with
  |true=>rfl
  |false=>
  cases checkH c x with
  |false=>rfl
  |true=>cases timesV c k x<;>rfl
structure TaskIs (c:Course) (k:Clocks) (s:Starter) (e:Int) (x:List Hit) (l:List Hand) (t:Task):Prop where
 ok:TaskOk t
 cE:courseE c=0
 clk:clkB k=true
 arg:argW c s l=false
 rt:(routeO c s.Distance e).2=0
 hit:checkH c x=true
 is:t=taskV c k s e x l t.T
 tm:timesV c k x=some t.T
theorem Qcx{c:Course}(V:Ev (λn=>F_d n c) (courseE c))(Q:courseE c=0->Good c){k:Clocks}(kw:ClkW k){s:Starter}{e:Int}{x:List Hit}(W:x.length<=1000){l:List Hand}{t:Task}(h:taskE c k s e x l=.inr t):TaskIs c k s e x l t:=by
 unfold taskE at h;cases H:(courseE c != 0)with
 |true=>rw[H]at h;cases h
 |false=>
 rw[H,Vp]at h;have a:courseE c=0:=by simpa[bne]using H
 cases u:clkB k with
 |false=>rw[u]at h;cases h
 |true=>
 rw[u]at h;cases E:argW c s l with
 |true=>rw[E]at h;cases h
 |false=>
 rw[E]at h;cases G:((routeO c s.Distance e).2 != 0)with
 |true=>rw[G]at h;cases h
 |false=>
 have q:(routeO c s.Distance e).2=0:=by simpa[bne]using G
 rw[G]at h;cases r:checkH c x with
 |false=>rw[r]at h;cases h
 |true=>
 rw[r]at h;cases f:timesV c k x with
 |none=>rw[f]at h;cases h
 |some T=>
 rw[f]at h;cases h;have g:=Q a;obtain⟨j,d,k',r1,r2,r3,r4,r5,O⟩:=Qb0 g q;have F:(routeO c s.Distance e).1.length<=256:=by
  rw[O];unfold routeV;simp only[X3,Xy,List.length_drop,List.length_replicate];omega
 obtain⟨T1,T2⟩:=QbD f;have kk:=QhC kw u;refine⟨⟨a▸V,QeS a,kk,YH _ _,F,T1,W,λi y m=>Qf5 r y (VG m),λy m=>?_,λp y m=>?_,?_⟩,a,u,E,q,r,rfl,f⟩
 .obtain⟨i,N,X⟩:=List.getElem_of_mem m;have B:i<x.length:=by have:i<T.length:=N;omega
  obtain⟨Y,M,R⟩:=T2 i _ (XK B);have P:Y=y:=by
   have:T[i]?=some y:=by rw[<- X];exact XK N
   rw[this]at M;cases M;rfl
  subst P;rcases Qkl R with z|⟨J,s',z1,z2,_⟩
  .exact⟨0,by omega,by omega⟩
  .have:=(XL.1 z2).1;exact⟨J+1,by omega,by show J+1<k.Segments.length+1;omega⟩
 .have:=QcL l p;rw[show Y3 (hndV l).1 p=some y from m]at this;cases L:l.find? (λh=>h.Position==p)with
  |none=>rw[L]at this;cases this
  |some h'=>
   rw[L]at this;cases this;exact⟨0,rfl,by omega⟩
 .have w:=(Y6 a).2.1;unfold numbersS lastS inR at w;simp only[XW,Vq]at w;exact w.2.2.2.2.2.2.2.2.2.1.1.1
theorem Qgy{c:Course}{k:Clocks}{s:Starter}{e:Int}{x:List Hit}{l:List Hand}{v:Int}(h:taskE c k s e x l=.inl v):v≠0:=by
 unfold taskE at h;cases f:(courseE c != 0)with
 |true=>rw[f]at h;cases h;simpa[bne]using f
 |false=>
 rw[f,Vp]at h;cases j:clkB k with
 |false=>rw[j]at h;cases h;decide
 |true=>
 rw[j]at h;cases i:argW c s l with
 |true=>rw[i]at h;cases h;decide
 |false=>
 rw[i]at h;cases d:((routeO c s.Distance e).2 != 0)with
 |true=>rw[d]at h;cases h;simpa[bne]using d
 |false=>
 rw[d]at h;cases g:checkH c x with
 |false=>rw[g]at h;cases h;decide
 |true=>
 rw[g]at h;cases a:timesV c k x with
 |none=>rw[a]at h;cases h;decide
 |some T=>rw[a]at h;cases h
def chkV(c:Course)(k:Clocks)(s:Starter)(e:Int)(x:List Hit)(l:List Hand)(W:Way):Int:=
 match taskE c k s e x l with
 |.inl v=>v
 |.inr t=>bif admV t W then 0 else 190
set_option maxRecDepth 10000
theorem Qm9:F_hf 300=some true:=by kernel_rfl
set_option maxRecDepth 10000
structure LegOk (x:Leg):Prop where
 lo:0<=x.Min
 le:x.Min<=x.Max
 hi:x.Max<=68719476736
theorem QhP{c:Course}(k:courseE c=0){a b:Int}(h:hasLeg c a b=true):LegOk (legV c a b)/\(c.Legs.find? λl=>(l.From==a)&&(l.To==b))=some (legV c a b)/\(c.Legs.map legKey).Nodup:=by
 have d:=(Y6 k).2.1;unfold numbersS at d;simp only[XW,Vq]at d;obtain⟨_,g,f,_⟩:=d;unfold legV;cases e:c.Legs.find? λl=>(l.From==a)&&(l.To==b)with
 |none=>
  unfold hasLeg at h;obtain⟨y,j,i⟩:=Xt.1 h;exact absurd i (List.find?_eq_none.1 e y j)
 |some y=>
  have:=Xs.1 g y (List.mem_of_find?_eq_some e);unfold legS inR at this;simp only[XW,Vq]at this;exact⟨⟨this.2.1.1.1,this.2.2,this.2.1.2.2⟩,rfl,f⟩
theorem Qfj(c:Course):∀(r:List Int) (s:Span) (a:Int) (i:Nat) (x y:Int) (u:Span),(a::r)[i]?=some x->(a::r)[i+1]?=some y->(s::sumsF c s a r)[i]?=some u->(s::sumsF c s a r)[i+1]?=some (nextS c u x y)
 |[],s,a,i,x,y,u,_,h2,_=>by simp at h2
 |b::r,s,a,0,x,y,u,h1,h2,h3=>by
  simp at h1 h2 h3;subst h1;subst h2;subst h3;rw[Qcj];rfl
 |b::r,s,a,i+1,x,y,u,h1,h2,h3=>by
  rw[Qcj]at h3⊢;exact Qfj c r (nextS c s a b) b i x y u (by simpa using h1) (by simpa using h2) (by simpa using h3)
theorem Qgz(c:Course)(r:List Int)(i:Nat)(x y:Int)(u:Span)(d:r[i]?=some x)(e:r[i+1]?=some y)(f:(sumsV c r)[i]?=some u):(sumsV c r)[i+1]?=some (nextS c u x y):=by
 cases r with
 |nil=>simp at d
 |cons a r=>exact Qfj c r _ a i x y u d e f
theorem QdR{c:Course}(e:courseE c=0){r:List Int}(g:Adj c r)(n:r.length<=256):∀(i:Nat) (u:Span),(sumsV c r)[i]?=some u->0<=u.Lo/\u.Lo<=u.Hi/\u.Hi<=(i:Int)*68719476736
 |0,u,h=>by
  cases r with
  |nil=>simp[sumsV]at h
  |cons a r=>
   have:u={Lo:=0,Hi:=0}:=by simpa[sumsV]using h.symm
   subst this;exact⟨Int.le_refl _,Int.le_refl _,by show(0:Int)<=_;omega⟩
 |i+1,v,h=>by
  have d:=(XL.1 h).1;rw[YH]at d;have f:r[i]?=some (r[i]'(by omega)):=XK (by omega);have j:r[i+1]?=some (r[i+1]'(d)):=XK d;have k:(sumsV c r)[i]?=some ((sumsV c r)[i]'(by rw[YH];omega)):=XK _;obtain⟨p,l,m⟩:=QdR e g n i _ k;rw[Qgz c r i _ _ _ f j k]at h;cases h;have L:=(QhP e (g.at f j)).1;have s:=L.lo;have q:=L.le;have t:=L.hi;generalize(sumsV c r)[i]'(by rw[YH];omega)=u at p l m;unfold nextS;rw[Qq (by omega) (by omega),Qq (by omega) (by omega)];show 0<=u.Lo+_/\u.Lo+_<=u.Hi+_/\u.Hi+_<=_;rw[show((i+1:Nat):Int)*68719476736=(i:Int)*68719476736+68719476736 by omega];omega
theorem Qfg{c:Course}(g:courseE c=0){r:List Int}(e:Adj c r)(h:r.length<=256){i:Nat}{x y:Int}{u:Span}(a:r[i]?=some x)(f:r[i+1]?=some y)(d:(sumsV c r)[i]?=some u):
  (sumsV c r)[i+1]?=some {Lo:=u.Lo+(legV c x y).Min,Hi:=u.Hi+(legV c x y).Max}:=by
 have j:=(XL.1 a).1;rw[Qgz c r i x y u a f d];obtain⟨p,l,n⟩:=QdR g e h i u d;have L:=(QhP g (e.at a f)).1;have m:=L.lo;have k:=L.le;have q:=L.hi;unfold nextS;rw[Qq (by omega) (by omega),Qq (by omega) (by omega)]
theorem Qfh{c:Course}(hc:courseE c=0){r:List Int}(ha:Adj c r)(hl:r.length<=256){i:Nat}{u:Span}(h:(sumsV c r)[i]?=some u):∀(d:Nat) (v:Span),(sumsV c r)[i+d]?=some v->0<=v.Lo-u.Lo/\v.Lo-u.Lo<=v.Hi-u.Hi/\v.Hi-u.Hi<=(d:Int)*68719476736
 |0,v,hv=>by
  rw[Xx,h]at hv;cases hv;omega
 |d+1,v,hv=>by
  have hlt:=(XL.1 hv).1;rw[YH]at hlt;have h1:r[i+d]?=some (r[i+d]'(by omega)):=XK (by omega);have h2:r[i+d+1]?=some (r[i+d+1]'(by omega)):=XK (by omega);have h3:(sumsV c r)[i+d]?=some ((sumsV c r)[i+d]'(by rw[YH];omega)):=XK _;obtain⟨p1,p2,p3⟩:=Qfh hc ha hl h d _ h3;have:=Qfg hc ha hl h1 h2 h3;rw[show i+(d+1)=i+d+1 by omega,this]at hv;cases hv;have L:=(QhP hc (ha.at h1 h2)).1;have l1:=L.lo;have l2:=L.le;have l3:=L.hi;generalize(sumsV c r)[i+d]'(by rw[YH];omega)=w at p1 p2 p3;show 0<=w.Lo+_-u.Lo/\w.Lo+_-u.Lo<=w.Hi+_-u.Hi/\w.Hi+_-u.Hi<=_;rw[show((d+1:Nat):Int)*68719476736=(d:Int)*68719476736+68719476736 by omega];omega
set_option maxRecDepth 10000
structure SpanOk (x:Span):Prop where
 a: -4398046511104<=x.Lo
 b:x.Lo<=x.Hi
 c:x.Hi<=4398046511104
theorem Qiw{c:Course}(e:CrsOk c){s:Segment}(d:isT s.Anchor){h:Hit}(a:HitOk c h):SpanOk (spanV c s h):=by
 have m:=Qlt e (kindAt c h.Mat) d a.fi;have l:=Qlt e (kindAt c h.Mat) d a.la;have g:=a.fi;have f:=a.la;have k:=a.le;unfold isT at g f;have i:i64.wrap (h.First+(devV c (kindAt c h.Mat) s h.First).Lo)=h.First+(devV c (kindAt c h.Mat) s h.First).Lo:=Qq (by omega) (by omega);have j:i64.wrap (h.Last+(devV c (kindAt c h.Mat) s h.Last).Hi)=h.Last+(devV c (kindAt c h.Mat) s h.Last).Hi:=Qq (by omega) (by omega);unfold spanV;rw[i,j];refine⟨?_,?_,?_⟩
 .show _<=h.First+_;omega
 .show h.First+_<=h.Last+_;omega
 .show h.Last+_<=_;omega
theorem Qi9{c:Course}(g:CrsOk c){k:Clocks}(i:ClkOk k){h:Hit}(d:HitOk c h){t:Ud}(q:timeV c k h=some t):SpanOk t.span:=by
 unfold timeV at q;cases e:(kindAt c h.Mat==1)with
 |true=>rw[e]at q;cases q;exact Qiw g (by show isT 0;unfold isT;omega) d
 |false=>
  rw[e]at q;by_cases a:segIx k h<0
  .rw[Qw a]at q;cases q
  .rw[Qx a]at q;obtain⟨j,s,l,f,m,_⟩:=Qa2 a;rw[l,Int.toNat_natCast,f]at q;cases q;exact Qiw g (i.anc s (VG f)) d
section
variable {c:Course} {k:Clocks} {s:Starter} {e:Int} {x:List Hit} {l:List Hand} {t:Task}
theorem Qeq(a:TaskIs c k s e x l t){p h:Int}(F:hitI t h)(q:(knownV t p h).2=true):SpanOk (knownV t p h).1.span:=by
 have ok:=a.ok;have f:t.c=c:=by rw[a.is];rfl
 have w:t.H=x:=by rw[a.is];rfl
 have r:t.k=k:=by rw[a.is];rfl
 have E:t.m=(hndV l).1:=by rw[a.is];rfl
 unfold knownV at q⊢;cases e:(Y2 t.m p||decide (h<0))with
 |true=>
  rw[e]at q;simp only[Vo]at q⊢;rw[QaL]at q;obtain⟨y,d⟩:=Option.isSome_iff_exists.1 q;unfold QB;rw[d];rw[E,QcL]at d;cases n:l.find? (λh=>h.Position==p)with
  |none=>rw[n]at d;cases d
  |some g=>
   rw[n]at d;cases d;have i:=a.arg;unfold argW at i;simp only[XX]at i;have B:=List.any_eq_false.1 i.2.2.2.2 g (List.mem_of_find?_eq_some n);unfold handW timeB inR at B;simp only[Bool.or_eq_true,Vq,Bool.not_eq_true',Bool.and_eq_false_iff,decide_eq_false_iff_not,not_or,Decidable.not_not]at B;exact⟨by show _<=g.Lo;omega,by show g.Lo<=g.Hi;omega,by show g.Hi<=_;omega⟩
 |false=>
  simp only[Vp];rw[XX,decide_eq_false_iff_not]at e;have u:h.toNat<t.H.length:=by rcases F with z|z<;>omega
  obtain⟨y,j,L⟩:=Qad (l:=t.H) (h:=h) (by omega) u;obtain⟨_,T2⟩:=QbD a.tm;rw[w]at j;obtain⟨z,J,G⟩:=T2 _ _ j;rw[J];exact Qi9 (by rw[<- f];exact ok.crs) (by rw[<- r];exact ok.clk) (by have:=ok.hit h.toNat y (by rw[w];exact j);rwa [f]at this) G
end
def kv(t:Task)(W:Way)(i:Nat):Ud×Bool:=knownV t (i:Int) ((W.Hits[i]?).getD (-1))
theorem QcR{t:Task}{W:Way}:∀{r:List Int} {i:Nat} {u:List (Int×Bool)} {s:Uf},admL t W r i u s=true->∀h∈r,hitI t h
 |[],_,_,_,_,h,hm=>by cases hm
 |y::r,i,u,s,q,h,hm=>by
  rw[Qdm]at q;cases hb:((y != -1)&&badV t W u i y)with
  |true=>rw[hb]at q;cases q
  |false=>
  rw[hb,Vp]at q;rcases X6.1 hm with rfl|hm
  .exact(Qcq hb).1
  .cases hL:decide (W.Last<(i:Int))with
   |true=>rw[hL,Vo]at q;exact QcR q h hm
   |false=>
    rw[hL,Vp]at q;cases h2:(stepV t s (i:Int) y).2 with
    |false=>rw[h2]at q;cases q
    |true=>rw[h2]at q;exact QcR q h hm
def InvK(t:Task)(W:Way)(i:Nat)(s:Uf):Prop:=(s.last= -1/\ ∀j,j<i->(kv t W j).2=false)\/ ∃a:Nat,a<i/\s.last=(a:Int)/\(kv t W a).2=true/\s.when=(kv t W a).1/\ ∀j,a<j->j<i->(kv t W j).2=false
theorem inv0(t:Task)(W:Way):InvK t W 0 s0V:=.inl ⟨rfl,λj h=>by omega⟩
inductive Cr (t:Task) (W:Way) (p:Nat):Int->Span->Prop
 |back (i:Nat) (hi:i<=p) (hk:(kv t W i).2=true) (g:∀j,i<j->j<=p->(kv t W j).2=false):Cr t W p (kv t W i).1.segment {Lo:=i64.wrap ((kv t W i).1.span.Lo+(needV t i p).Lo),Hi:=i64.wrap ((kv t W i).1.span.Hi+(needV t i p).Hi)}
 |fwd (hb:∀j,j<=p->(kv t W j).2=false) (i:Nat) (hi:p<i) (hL:(i:Int)<=W.Last) (hk:(kv t W i).2=true) (g:∀j,p<j->j<i->(kv t W j).2=false):Cr t W p (kv t W i).1.segment {Lo:=i64.wrap ((kv t W i).1.span.Lo-(needV t p i).Hi),Hi:=i64.wrap ((kv t W i).1.span.Hi-(needV t p i).Lo)}
 |none (hb:∀j:Nat,(j:Int)<=W.Last->(kv t W j).2=false):Cr t W p (-1) {Lo:= -1099511627776,Hi:=1099511627776}
theorem Qle{c:Course}(ty:Ev (λn=>F_d n c) (courseE c))(gd:courseE c=0->Good c){k:Clocks}(kw:ClkW k){s:Starter}{e:Int}{x:List Hit}(hx:x.length<=1000){l:List Hand}(hl:l.length<=1048576){t:Task}(ht:taskE c k s e x l=.inr t){W:Way}(hW:W.Hits.length<=1048576)(L:admV t W=true){p:Nat}(hp:(p:Int)<=W.Last):
  ∃sg sp,Ev (λn=>F_y n c k s e x l W (p:Int)) (sg,sp,0)/\Cr t W p sg sp:=by
 have Q:=Qcx ty gd kw hx ht;have ok:=Q.ok;have hc:t.c=c:=by rw[Q.is];rfl
 have hk:t.k=k:=by rw[Q.is];rfl
 have hH:t.H=x:=by rw[Q.is];rfl
 have f:=L;unfold admV at f;cases J:admB t W with
 |true=>rw[J]at f;cases f
 |false=>
 rw[J,Vp]at f;unfold admB at J;simp only[XX,decide_eq_false_iff_not]at J;obtain⟨F,b1,b2,b3,b4⟩:=J;have F:W.Hits.length=t.r.length:=by have:=F;simp[bne]at this;omega
 have rl:=ok.rl;have M:=QcR f;have kn:∀i:Nat,i<W.Hits.length->∃h,idx W.Hits (i:Int)=some h/\Ev (λn=>F_ai n (i:Int) h c k t.r t.s x t.T t.hi t.m c k) (kv t W i):=by
  intro i hi;have hy:W.Hits[i]?=some (W.Hits[i]'(hi)):=XK hi;refine⟨_,Qo hy,?_⟩;have:=Qhj ok (i:Int) (W.Hits[i]'(hi)) (M _ (Vd hi));rw[hc,hk,hH]at this;unfold kv;rw[hy];exact this
 have nd:∀i j:Nat,i<t.r.length->j<t.r.length->Ev (λn=>F_aj n (i:Int) (j:Int) c k t.r t.s x t.T t.hi t.m c k) (needV t i j):=by
  intro i j hi V;have:=QiP ok (i:=(i:Int)) (j:=(j:Int)) (by omega) (by omega) (by omega) (by omega)
  rwa [hc,hk,hH]at this
 have up:(∀j,j<=p->(kv t W j).2=false)->∀(m i:Nat),p<=i->W.Last.toNat+1-i<=m->(∀j,p<j->j<i->(kv t W j).2=false)->
   (∃a,p<a/\(a:Int)<=W.Last/\(kv t W a).2=true/\(∀j,p<j->j<a->(kv t W j).2=false)/\EvI (λn=>F_av n c k x W (p:Int) (t.r,t.s,t.T,t.m,t.hi)) (i:Int) (Ctl.done ((kv t W a).1.segment,{Lo:=i64.wrap ((kv t W a).1.span.Lo-(needV t p a).Hi),Hi:=i64.wrap ((kv t W a).1.span.Hi-(needV t p a).Lo)},0)))\/
   ((∀j,p<j->(j:Int)<=W.Last->(kv t W j).2=false)/\EvI (λn=>F_av n c k x W (p:Int) (t.r,t.s,t.T,t.m,t.hi)) (i:Int) (Ctl.cont ())):=by
  intro hb m
  induction m with
  |zero=>
   intro i hi hm y;refine .inr ⟨λj w B=>y j w (by omega),Ej ?_⟩;unfold F_av;simp only[Qx (show¬(i:Int)<=W.Last by omega),Vp];exact Qa _
  |succ m ih=>
   intro i hi hm y;by_cases R:(i:Int)<=W.Last
   case neg=>
    refine .inr ⟨λj w B=>y j w (by omega),Ej ?_⟩;unfold F_av;simp only[Qx R,Vp];exact Qa _
   obtain⟨h,N,P⟩:=kn i (by omega);cases d:(kv t W i).2 with
   |true=>
    have ab:p<i:=(VB p i).elim id λz=>by rw[hb i z]at d;cases d
    refine .inl ⟨i,ab,R,d,y,Ej ?_⟩;unfold F_av;simp only[Qw R,Vo,N,XJ];refine Ea P (Yz d (Ea (nd p i (by omega) (by omega)) (Qa _)))
   |false=>
    have u:Ev (λn=>F_av n c k x W (p:Int) (t.r,t.s,t.T,t.m,t.hi) (i:Int)) (Ctl.cont ((i+1:Nat):Int)):=by
     unfold F_av;simp only[Qw R,Vo,N,XJ];refine Ea P (YA d ?_);rw[QO (by omega)];exact Qa _
    rcases ih (i+1) (by omega) (by omega) (λj w B=>(VB j i).elim (y j w) λz=>(show i=j by omega)▸d)with⟨a,g,q,O,G,g5⟩|⟨g,q⟩
    .exact .inl ⟨a,g,q,O,G,Ex u g5⟩
    .exact .inr ⟨g,Ex u q⟩
 have down:∀(m:Nat),m<=p+1->(∀j,m<=j->j<=p->(kv t W j).2=false)->
   (∃a,a<=p/\(kv t W a).2=true/\(∀j,a<j->j<=p->(kv t W j).2=false)/\EvI (λn=>F_bj n c k x W (p:Int) (t.r,t.s,t.T,t.m,t.hi)) ((m:Int)-1) (Ctl.done ((kv t W a).1.segment,{Lo:=i64.wrap ((kv t W a).1.span.Lo+(needV t a p).Lo),Hi:=i64.wrap ((kv t W a).1.span.Hi+(needV t a p).Hi)},0)))\/
   ((∀j,j<=p->(kv t W j).2=false)/\EvI (λn=>F_bj n c k x W (p:Int) (t.r,t.s,t.T,t.m,t.hi)) ((m:Int)-1) (Ctl.cont ())):=by
  intro m
  induction m with
  |zero=>
   intro _ y;refine .inr ⟨λj V=>y j (XU _) V,Ej ?_⟩;unfold F_bj;simp only[Qx (show¬(0:Int)<=((0:Nat):Int)-1 by omega),Vp];exact Qa _
  |succ m ih=>
   intro hm y;rw[show((m+1:Nat):Int)-1=(m:Int)by omega];obtain⟨h,N,P⟩:=kn m (by omega);cases d:(kv t W m).2 with
   |true=>
    refine .inl ⟨m,by omega,d,λj w B=>y j w B,Ej ?_⟩;unfold F_bj;simp only[Qw (show(0:Int)<=(m:Int)by omega),Vo,N,XJ];refine Ea P (Yz d (Ea (nd m p (by omega) (by omega)) (Qa _)))
   |false=>
    have u:Ev (λn=>F_bj n c k x W (p:Int) (t.r,t.s,t.T,t.m,t.hi) (m:Int)) (Ctl.cont ((m:Int)-1)):=by
     unfold F_bj;simp only[Qw (show(0:Int)<=(m:Int)by omega),Vo,N,XJ];refine Ea P (YA d ?_);rw[Qq (n:=(m:Int)-1) (by omega) (by omega)];exact Qa _
    rcases ih (by omega) (λj w B=>(Nat.eq_or_lt_of_le w).elim (λz=>z▸d) λz=>y j z B)with⟨a,g,q,O,G⟩|⟨g,q⟩
    .exact .inl ⟨a,g,q,O,Ex u G⟩
    .exact .inr ⟨g,Ex u q⟩
 have E:=Qlk ok W hW;rw[hc,hk,hH,L]at E;have start:∀v,Ev (λn=>(iter (F_bj n c k x W (p:Int) (t.r,t.s,t.T,t.m,t.hi)) n (p:Int):Option (Ctl Unit (Int×Span×Int))).bind λaa=>match aa with|.cont sb24=>((iter (F_av n c k x W (p:Int) (t.r,t.s,t.T,t.m,t.hi)) n (p:Int):Option (Ctl Unit (Int×Span×Int))).bind λac=>match ac with|.cont sb46=>(some ((-1),{Lo:=(-1099511627776),Hi:=1099511627776:Span},0))|.done sb46=>some sb46)|.done sb24=>some sb24) v->Ev (λn=>F_y n c k s e x l W (p:Int)) v:=by
  intro v hv;unfold F_y;refine Ea (QiO ty gd kw s e x hx l hl) ?_;rw[ht];simp only[prepU];refine Ea E (Qs (Ea (v:=false) ?_ (Qs hv)));exact YA (Qx (by omega)) ((Qa _).eq (Qx (by omega)))
 have hd:=down (p+1) (XT _) (λj w B=>by omega);rw[show((p+1:Nat):Int)-1=(p:Int)by omega]at hd;rcases hd with⟨a,g,q,O,G⟩|⟨g,q⟩
 .exact⟨_,_,start _ (Ea G.ev (Qa _)),Cr.back a g q O⟩
 .rcases up g (W.Last.toNat+1) p (XT _) (by omega) (λj w B=>by omega)with⟨a,X,Y,u3,u4,u5⟩|⟨X,Y⟩
  .exact⟨_,_,start _ (Ea q.ev (Ea u5.ev (Qa _))),Cr.fwd g a X Y u3 u4⟩
  .exact⟨_,_,start _ (Ea q.ev (Ea Y.ev (Qa _))),Cr.none λj V=>(VB p j).elim (λz=>X j z V) (g j)⟩
set_option maxRecDepth 10000
theorem QiL(k:Clocks)(h:Hit)(B:k.Segments.length<=1048576):Ev (λn=>F_by n k.Segments h.Mat h.Epoch) (segIx k h+1):=by
 have s:∀(r:List Segment) (i:Nat),k.Segments.drop i=r->i<=k.Segments.length->∃d:Ctl Unit Int,EvI (λn=>F_fj n k.Segments h.Mat h.Epoch) (i:Int) d/\(match d with|.cont _=>some 0|.done v=>some v)=some (firstI (λx:Segment=>({mat:=x.Mat,epoch:=x.Epoch:Ue})=={mat:=h.Mat,epoch:=h.Epoch}) r i+1):=by
  intro r
  induction r with
  |nil=>
   intro i l t;refine⟨.cont (),Ej ?_,rfl⟩;unfold F_fj;simp only[QJ l t,Vp];exact Qa _
  |cons y r w=>
   intro i l t;obtain⟨g,q⟩:=Qv (by omega) l;have z:=g.lt';unfold firstI;have eq:(({mat:=y.Mat,epoch:=y.Epoch:Ue})=={mat:=h.Mat,epoch:=h.Epoch})=((y.Mat==h.Mat)&&(y.Epoch==h.Epoch)):=by
    rw[XY];simp
   rw[eq];have a:Ev (λn=>((idx k.Segments (i:Int)).bind λj=>(bif (j.Mat==h.Mat)then(idx k.Segments (i:Int)).bind λm=>some (m.Epoch==h.Epoch)else some false):Option Bool)) ((y.Mat==h.Mat)&&(y.Epoch==h.Epoch)):=by
    simp only[g.ix,XJ];exact Ei λ_=>Qa _
   cases e:((y.Mat==h.Mat)&&(y.Epoch==h.Epoch))with
   |true=>
    rw[e]at a;refine⟨.done ((i:Int)+1),Ej ?_,rfl⟩;unfold F_fj;simp only[g.lt,Vo];refine Ea a (Qaq ?_);rw[Qq (n:=(i:Int)+1) (by omega) (by omega)];exact Qa _
   |false=>
    rw[e]at a;obtain⟨d,p,f⟩:=w (i+1) q (by omega);refine⟨d,Ex ?_ p,f⟩;unfold F_fj;simp only[g.lt,Vo,g.nx];exact Ea a (Qs (Qa _))
 obtain⟨d,p,f⟩:=s k.Segments 0 rfl (XU _);unfold F_by segIx;refine Ea p.ev ?_;cases d with
 |cont u=>
  have f:=XZ f;exact(Qa _).eq f
 |done v=>
  have f:=XZ f;exact(Qa _).eq f
theorem QiM{c:Course}{h:Hit}(d:HitOk c h):Ev (λn=>F_ah n c h.Mat) (kindAt c h.Mat==1):=by
 obtain⟨i,m,e,a⟩:=d.mat;unfold F_ah kindAt;rw[e,Qo a,Int.toNat_natCast,a];exact Qa _
def noSeg(c:Course)(k:Clocks)(h:Hit):Bool:= !(kindAt c h.Mat==1)&&decide (segIx k h<0)
theorem Qja(c:Course)(k:Clocks)(h:Hit):(timeV c k h).isNone=noSeg c k h:=by
 unfold timeV noSeg;cases(kindAt c h.Mat==1)with
 |true=>rfl
 |false=>
  by_cases a:segIx k h<0
  .rw[Qw a];rfl
  .rw[Qx a];obtain⟨j,s,e,d,f,_⟩:=Qa2 a;rw[e,Int.toNat_natCast,d];rfl
theorem Qd8(c:Course)(k:Clocks):∀x:List Hit,(timesV c k x).isNone=x.any (noSeg c k)
 |[]=>rfl
 |h::r=>by
  rw[QbE,List.any_cons, <- Qja, <- Qd8 c k r];cases timeV c k h with
  |none=>rfl
  |some t=>cases timesV c k r<;>rfl
def errV(q:Int ⊕ Task):Int:=match q with|.inl v=>v|.inr _=>0
theorem Qk7{c:Course}(d:Ev (λn=>F_c n c) (courseE c))(H:courseE c=0->Good c){k:Clocks}(E:ClkW k)(s:Starter)(e:Int)(x:List Hit)(N:x.length<=1000)(l:List Hand)(M:l.length<=1048576):
  Ev (λn=>F_dg n c k s e x l) (errV (taskE c k s e x l)):=by
 unfold F_dg taskE;cases t:(courseE c != 0)with
 |true=>
  refine Ea d (Ea (v:=courseE c) (YA ?_ (Qa _)) (Yz t (Qa _)));rw[Vy];simpa[bne]using t
 |false=>
 have g:courseE c=0:=by simpa[bne]using t
 refine Ea d ?_;rw[g];refine Ea (Qaq (Ea (QiK k E) (Qa _))) ?_;cases J:clkB k with
 |false=>exact Qa _
 |true=>
 refine Qs ?_;simp only[bne_self_eq_false,Xg,Vp];have G:argW c s l=((decide (s.Distance<0)||(decide ((c.Distances.length:Int)<=s.Distance)||(decide (s.Wave<0)||decide ((c.Waves.length:Int)<=s.Wave))))||l.any handW):=by
  unfold argW;simp only[Bool.or_assoc]
 rw[G];cases w:(decide (s.Distance<0)||(decide ((c.Distances.length:Int)<=s.Distance)||(decide (s.Wave<0)||decide ((c.Waves.length:Int)<=s.Wave))))with
 |true=>exact Ea (v:=true) (Ew (Qh λ_=>Qh λ_=>Qh λ_=>Qa _) w) (Qa _)
 |false=>
 refine Ea (v:=false) (Ew (Qh λ_=>Qh λ_=>Qh λ_=>Qa _) w) (Qs ?_);have f:Ev (λn=>iter (F_hz n l) n 0) (bif l.all (λh=> !handW h)then Ctl.cont ()else Ctl.done 1):=by
  refine Q9 l (λh=> !handW h) (Ctl.done 1) (Ctl.cont ()) (by omega) (λi y a=>?_) ?_
  .unfold F_hz;simp only[a.lt,Vo,a.ix,XJ,a.nx];have u:∀z:Int,Ev (λn=>F_bq n z) (timeB z):=by
    intro z;unfold F_bq timeB inR;exact Ea (Ei λ_=>Qa _) (Qa _)
   refine Ea (v:=handW y) ?_ ?_
   .unfold handW;exact Qh λ_=>Ea (u _) (Qh λ_=>Ea (u _) (Qh λ_=>Qa _))
   .cases handW y<;>exact Qa _
  .unfold F_hz;simp only[Qao,Vp];exact Qa _
 refine Ea f ?_;rw[show l.all (λh=> !handW h)= !l.any handW from(List.not_any_eq_all_not ..).symm];cases a:l.any handW with
 |true=>exact Qa _
 |false=>
 simp only[Xh,Vo,Bool.or_false,Vp];have B:=Qb5 H d s.Distance e;rw[g]at B;refine Ea B ?_;simp only[bne_self_eq_false,Vp];cases r:((routeO c s.Distance e).2 != 0)with
 |true=>
  refine Ea (v:=(routeO c s.Distance e).2) (YA ?_ (Qa _)) (Yz r (Qa _));rw[Vy];simpa[bne]using r
 |false=>
 have p:(routeO c s.Distance e).2=0:=by simpa[bne]using r
 refine Ea (Yz (by rw[p];rfl) (Ea (Qjx c x (by omega) d) (Qa _))) ?_;rw[g];simp only[bne_self_eq_false,Vp];cases F:checkH c x with
 |false=>exact Qa _
 |true=>
 refine Qs ?_;have m:Ev (λn=>iter (F_io n c k x) n 0) (bif x.all (λh=> !noSeg c k h)then Ctl.cont ()else Ctl.done 170):=by
  refine Q9 x (λh=> !noSeg c k h) (Ctl.done 170) (Ctl.cont ()) (by omega) (λi y a=>?_) ?_
  .unfold F_io;simp only[a.lt,Vo,a.ix,XJ,a.nx];refine Ea (v:=noSeg c k y) ?_ ?_
   .refine Ea (QiM (Qf5 F y a.mem)) ?_;unfold noSeg;refine Ei λ_=>Ea (QiL k y E.segs) ((Qa _).eq ?_);rcases QbM (λx:Segment=>({mat:=x.Mat,epoch:=x.Epoch:Ue})=={mat:=y.Mat,epoch:=y.Epoch}) k.Segments 0 with⟨q,_⟩|⟨j,L,q,_⟩
    .have:segIx k y= -1:=q;rw[this];rfl
    .have:segIx k y=(j:Int):=by unfold segIx;rw[q];simp
     rw[this,Qx (show¬(j:Int)<0 by omega)];rw[Vy];omega
   .cases noSeg c k y<;>exact Qa _
  .unfold F_io;simp only[Qao,Vp];exact Qa _
 refine Ea m ?_;rw[show x.all (λh=> !noSeg c k h)= !x.any (noSeg c k)from(List.not_any_eq_all_not ..).symm, <- Qd8];cases timesV c k x with
 |none=>exact Qa _
 |some T=>exact Qa _
theorem Qg9(I:stopwatchref19_input)(m:I.hands.length<=1048576)(p:Int):Ev (λn=>F_bi n I p) (match I.hands.find? (λh=>h.Position==p)with|some h=>(h,true)|none=>(Uq,false)):=by
 have g:∀(r:List Hand) (i:Nat),I.hands.drop i=r->i<=I.hands.length->EvI (λn=>F_hc n I p) (i:Int) (match r.find? (λh=>h.Position==p)with|some h=>Ctl.done (h,true)|none=>Ctl.cont ()):=by
  intro r
  induction r with
  |nil=>
   intro i d j;refine Ej ?_;unfold F_hc;simp only[QJ d j,Vp];exact Qa _
  |cons y r k=>
   intro i d j;obtain⟨a,f⟩:=Qv (by omega) d;have l:=a.lt';rw[List.find?_cons];cases e:(y.Position==p)with
   |true=>
    refine Ej ?_;unfold F_hc;simp only[a.lt,Vo,a.ix,XJ,e];exact Qa _
   |false=>
    refine Ex ?_ (k (i+1) f (by omega));unfold F_hc;simp only[a.lt,Vo,a.ix,XJ,e,Vp,a.nx];exact Qa _
 unfold F_bi;refine Ea (g I.hands 0 rfl (XU _)).ev ?_;cases I.hands.find? (λh=>h.Position==p)<;>exact Qa _
theorem QeI(I:stopwatchref19_input)(i:I.k.Segments.length<=1048576){h:Hit}(g:HitOk I.c h){t:Ud}(q:timeV I.c I.k h=some t):Ev (λn=>F_p n I h) t.segment:=by
 unfold F_p;refine Ea (QiM g) ?_;unfold timeV at q;cases e:(kindAt I.c h.Mat==1)with
 |true=>rw[e]at q;cases q;exact Qa _
 |false=>
  rw[e]at q;refine Qs (Ea (QiL I.k h i) ?_);by_cases a:segIx I.k h<0
  .rw[Qw a]at q;cases q
  .rw[Qx a]at q;obtain⟨j,s,f,d,m,_⟩:=Qa2 a;have l:=(XL.1 d).1;rw[f,Int.toNat_natCast,d]at q;cases q;rw[f];refine(Qa _).eq ?_;rw[Qq (by omega) (by omega)];show(j:Int)+1-1=(j:Int);omega
theorem QiN{c:Course}(d:Ev (λn=>F_c n c) (courseE c))(j:courseE c=0){i:Nat}{m:Mat}(e:c.Mats[i]?=some m){s:Segment}(h:s.Mat=(i:Int)){a:Int}(g:isT s.Anchor)(f:isT a):Ev (λn=>F_bo n c s a) (devV c m.Kind s a,0):=by
 unfold F_bo;rw[j]at d;have k:=(XL.1 e).1;refine Ea d (Qs (Ea (v:=false) ?_ (Qs (Ea (Qdl (QeS j) e h g f) (Qa _)))));refine Ea (Qdk c s.Mat) ?_;rw[show matB c s.Mat=true by unfold matB;rw[h,Qw (show(0:Int)<=(i:Int)by omega),Qw (show(i:Int)<(c.Mats.length:Int)by omega)];rfl];refine Qs (Ea (Qbp a) ?_);rw[timeI.2 f];refine Qs (Ea (Qbp s.Anchor) ?_);rw[timeI.2 g];exact Qa _
theorem Qjv(I:stopwatchref19_input)(d:Ev (λn=>F_c n I.c) (courseE I.c))(y:courseE I.c=0)(x:ClkOk I.k){h:Hit}(f:HitOk I.c h){t:Ud}(q:timeV I.c I.k h=some t):Ev (λn=>F_ck n I h) t.span:=by
 have z:=x.dims.segs;have seg:=QeI I (by omega) f q;obtain⟨i,m,g,r⟩:=f.mat;have B:kindAt I.c h.Mat=m.Kind:=by unfold kindAt;rw[g,Int.toNat_natCast,r];rfl
 have fin:∀s:Segment,s.Mat=h.Mat->isT s.Anchor->t.span=spanV I.c s h->Ev (λn=>((bif decide (0<=t.segment)then(F_p n I h).bind λF=>(idx I.k.Segments F).bind λl=>some l else some ({Mat:=h.Mat,Epoch:=h.Epoch,Anchor:=0:Segment})):Option Segment)) s->Ev (λn=>F_ck n I h) t.span:=by
  intro s u w G H;unfold F_ck;refine Ea seg (Ea H (Ea (QiN d y r (u.trans g) w f.fi) (Ea (QiN d y r (u.trans g) w f.la) ((Qa _).eq ?_))));rw[G];unfold spanV;rw[B]
 have L:=q;unfold timeV at q;cases e:(kindAt I.c h.Mat==1)with
 |true=>
  rw[e]at q;cases q;exact fin {Mat:=h.Mat,Epoch:=h.Epoch,Anchor:=0} rfl (by show isT 0;unfold isT;omega) rfl (YA rfl (Qa _))
 |false=>
  rw[e]at q;by_cases a:segIx I.k h<0
  .rw[Qw a]at q;cases q
  .rw[Qx a]at q;obtain⟨j,s,E,p,J,_⟩:=Qa2 a;rw[E,Int.toNat_natCast,p]at q;cases q;refine fin s J (x.anc s (VG p)) (by show spanV I.c s h=_;rfl) (Yz (Qw (show(0:Int)<=(j:Int)by omega)) (Ea seg ?_));show Ev (λn=>(idx I.k.Segments (j:Int)).bind λl=>some l) s;rw[Qo p];exact Qa _
set_option maxRecDepth 10000
theorem Qjr{a:stopwatchlaw19_Input}(w:stopwatchlaw19_Input.wf a)(f:FewI a)(d:Ev (λn=>F_ar n a) true)(j:courseE a.C=0)(x:0<=a.S.Distance)(u:a.S.Distance<(a.C.Distances.length:Int))(q:(routeO a.C a.S.Distance a.Extra).2=0):(routeO a.C a.S.Distance a.Extra).1.length<=8:=by
 obtain⟨r,g,_⟩:=Qhq a.C w.1;obtain⟨l,i,_⟩:=Qhk a.K f.clk;have k:∃v,Ev (λn=>F_ar n a) v/\(v=true->(routeO a.C a.S.Distance a.Extra).1.length<=8):=by
  unfold F_ar F_ea;cases d:(!r||(decide (8<(a.C.Mats.length:Int))||(!l||(decide (4<(a.Hits.length:Int))||decide (6<(a.Hands.length:Int))))))with
  |true=>exact⟨false,Ea (Ea (v:=true) (Ew (Ea g (Qh λ_=>Qh λ_=>Ea i (Qh λ_=>Qh λ_=>Qa _))) d) (Qa _)) (Qa _),nofun⟩
  |false=>
   have m:(decide (a.S.Distance<0)||decide ((a.C.Distances.length:Int)<=a.S.Distance))=false:=by
    rw[Qx (show¬a.S.Distance<0 by omega),Qx (show¬(a.C.Distances.length:Int)<=a.S.Distance by omega)];rfl
   have e:=Qb5 f.good f.ref a.S.Distance a.Extra;rw[j]at e;simp only[bne_self_eq_false,Vp]at e;refine⟨(routeO a.C a.S.Distance a.Extra).2 != 0||decide (((routeO a.C a.S.Distance a.Extra).1.length:Int)<=8),Ea (Ea (v:=false) (Ew (Ea g (Qh λ_=>Qh λ_=>Ea i (Qh λ_=>Qh λ_=>Qa _))) d) (Qs (Ea (v:=false) (Ew (Qh λ_=>Qa _) m) (Qs (Ea e (Ea (Qh λ_=>Qa _) (Qa _))))))) (Qa _),λh=>?_⟩;rw[q]at h;have h:=Vu (p:=((routeO a.C a.S.Distance a.Extra).1.length:Int)<=8) (by simpa using h);omega
 obtain⟨v,s,t⟩:=k;exact t (QmU s d)
theorem QnB{k:Clocks}(h:clkB k=true){i j:Nat}(hi:i<k.Segments.length+1)(g:j<k.Segments.length+1):farG k i i=0/\ -2199023255552<=farG k i j/\farG k i j<=2199023255552:=by
 have d:=Qb6 h;simp only[clkB,XW]at h;have a:=Qjg.1 h.2.2.1 i (by have:=d.far;omega);obtain⟨n,m⟩:=d.get hi g;obtain⟨_,l⟩:=d.get hi hi;rw[n]at a;simp only[rowB,Bool.not_eq_true',XX]at a;obtain⟨_,e,f⟩:=a;rw[l]at e;have b:=List.any_eq_false.1 f (farG k i j) (VG m);unfold farBad at b;simp only[Bool.or_eq_true,Vq,not_or]at b;refine⟨by simpa[bne]using e,by omega,by omega⟩
theorem QmH{t:Task}(d:clkB t.k=true){a b:Ud}{e f:Nat}(j:a.segment+1=(e:Int))(g:e<t.k.Segments.length+1)(l:b.segment+1=(f:Int))(s:f<t.k.Segments.length+1)(y1: -4398046511104<=a.span.Lo)(y2:a.span.Lo<=a.span.Hi)(m:a.span.Hi<=4398046511104)(q: -4398046511104<=b.span.Lo)(r:b.span.Lo<=b.span.Hi)(p:b.span.Hi<=4398046511104):
  distV t a b={Lo:=i64.wrap (i64.wrap (b.span.Lo-a.span.Hi)-farG t.k f e),Hi:=i64.wrap (i64.wrap (b.span.Hi-a.span.Lo)+farG t.k e f)}:=by
 have u:=(Qb6 d).segs;unfold distV;rw[j,l,Qq (n:=(e:Int)) (by omega) (by omega),Qq (n:=(f:Int)) (by omega) (by omega),Int.toNat_natCast,Int.toNat_natCast];by_cases h:e=f
 .subst h;rw[(QnB d g g).1,bne_self_eq_false,Vp,Qq (n:=b.span.Lo-a.span.Hi) (by omega) (by omega),Qq (n:=b.span.Hi-a.span.Lo) (by omega) (by omega),Qq (by omega) (by omega),Qq (by omega) (by omega),Int.sub_zero,Int.add_zero]
 .have i:((e:Int) != (f:Int))=true:=by simp[bne];omega
  rw[i];rfl
section
variable {c:Course} {k:Clocks} {s:Starter} {e:Int} {x:List Hit} {l:List Hand} {t:Task}
theorem Qcy(a:TaskIs c k s e x l t)(m:courseE c=0->Good c):Adj c t.r:=by
 have g:=m a.cE;obtain⟨j,d,f,u,p,i,n,q,h⟩:=Qb0 g a.rt;have:t.r=routeV d f:=by rw[a.is];exact h
 rw[this];exact Qfo g a.cE (VG i) f n
theorem Qiz(a:TaskIs c k s e x l t)(g:courseE c=0->Good c)(F:t.r.length<=8){i j:Nat}(w:i<=j)(E:j<t.r.length):∃u v,(sumsV c t.r)[i]?=some u/\(sumsV c t.r)[j]?=some v/\needV t i j={Lo:=v.Lo-u.Lo,Hi:=v.Hi-u.Hi}/\0<=v.Lo-u.Lo/\v.Lo-u.Lo<=v.Hi-u.Hi/\v.Hi-u.Hi<=549755813888:=by
 have y:t.s=sumsV c t.r:=by rw[a.is];rfl
 have d:(sumsV c t.r)[i]?=some ((sumsV c t.r)[i]'(by rw[YH];omega)):=XK _;have f:(sumsV c t.r)[j]?=some ((sumsV c t.r)[j]'(by rw[YH];omega)):=XK _;have m:=Qfh a.cE (Qcy a g) (by omega) d (j-i) _ (by rw[show i+(j-i)=j by omega];exact f);have q:=QdR a.cE (Qcy a g) (by omega) _ _ d;have z:=QdR a.cE (Qcy a g) (by omega) _ _ f;refine⟨_,_,d,f,?_⟩;unfold needV;rw[y,Int.toNat_natCast,Int.toNat_natCast,d,f];simp only[Option.getD_some];generalize(sumsV c t.r)[i]'(by rw[YH];omega)=u at m q;generalize(sumsV c t.r)[j]'(by rw[YH];omega)=v at m z;have B:((j-i:Nat):Int)*68719476736<=549755813888:=by
  have:((j-i:Nat):Int)<=8:=by omega
  omega
 have p:(i:Int)*68719476736<=549755813888:=by omega
 have h:(j:Int)*68719476736<=549755813888:=by omega
 rw[Qq (n:=v.Lo-u.Lo) (by omega) (by omega),Qq (n:=v.Hi-u.Hi) (by omega) (by omega),Vs (by omega),Vs (by omega)];exact⟨rfl,by omega,by omega,by omega⟩
end
set_option maxRecDepth 10000
theorem Qmx{c:Course}(x:c.Legs.length<=512){a b:Int}(hg:hasLeg c a b=true):Ev (λn=>F_cn n c a b) (legV c a b):=by
 have p:∀(r:List Leg) (i:Nat),c.Legs.drop i=r->i<=c.Legs.length->EvI (λn=>F_ge n c a b) (i:Int) (match r.find? (λl=>(l.From==a)&&(l.To==b))with|some l=>Ctl.done l|none=>Ctl.cont ()):=by
  intro r
  induction r with
  |nil=>
   intro i j q;refine Ej ?_;unfold F_ge;simp only[QJ j q,Vp];exact Qa _
  |cons y r s=>
   intro i j q;obtain⟨f,m⟩:=Qv (by omega) j;have t:=f.lt';have d:Ev (λn=>((idx c.Legs (i:Int)).bind λk=>(bif (k.From==a)then(idx c.Legs (i:Int)).bind λh=>some (h.To==b)else some false):Option Bool)) ((y.From==a)&&(y.To==b)):=by
    simp only[f.ix,XJ];exact Ei λ_=>Qa _
   rw[List.find?_cons];cases e:((y.From==a)&&(y.To==b))with
   |true=>
    rw[e]at d;refine Ej ?_;unfold F_ge;simp only[f.lt,Vo];refine Ea d (Qaq ?_);rw[f.ix];exact Qa _
   |false=>
    rw[e]at d;refine Ex ?_ (s (i+1) m (by omega));unfold F_ge;simp only[f.lt,Vo,f.nx];exact Ea d (Qs (Qa _))
 unfold F_cn;have g:=(p c.Legs 0 rfl (XU _)).ev;unfold legV;cases e:c.Legs.find? (λl=>(l.From==a)&&(l.To==b))with
 |none=>
  unfold hasLeg at hg;obtain⟨y,w,u⟩:=Xt.1 hg;exact absurd u (List.find?_eq_none.1 e y w)
 |some y=>
  rw[e]at g;exact Ea g (Qa _)
section
variable {c:Course} {k:Clocks} {s:Starter} {e:Int} {x:List Hit} {l:List Hand} {t:Task}
theorem Qhf(d:TaskIs c k s e x l t)(h:courseE c=0->Good c)(J:t.r.length<=8){a b:Nat}(B:a<=b)(W:b<t.r.length):Ev (λn=>F_dl n c t.r (a:Int) (b:Int)) (needV t a b):=by
 obtain⟨u,v,H,P,V,q4,q5,q6⟩:=Qiz d h J B W;rw[V];have f:=Qcy d h;have lp:∀(m i:Nat),i+m=b->a<=i->∀w:Span,(sumsV c t.r)[i]?=some w->EvI (λn=>F_jx n c t.r (b:Int)) ({Lo:=w.Lo-u.Lo,Hi:=w.Hi-u.Hi},(i:Int)) {Lo:=v.Lo-u.Lo,Hi:=v.Hi-u.Hi}:=by
  intro m
  induction m with
  |zero=>
   intro i X _ w q;have:i=b:=by omega
   subst this;rw[P]at q;cases q;refine Ej ?_;unfold F_jx;simp only[Qx (show¬(i:Int)<(i:Int)by omega),Vp];exact Qa _
  |succ m ih=>
   intro i X N w q;have p:t.r[i]?=some (t.r[i]'(by omega)):=XK (by omega);have g:t.r[i+1]?=some (t.r[i+1]'(by omega)):=XK (by omega);have E:=f.at p g;have G:=Qfg d.cE f (by omega) p g q;obtain⟨u',w',M,L,_,z,y,F⟩:=Qiz d h J (i:=a) (j:=i+1) (by omega) (by omega);rw[H]at M;cases M;rw[G]at L;cases L;refine Ex ?_ (ih (i+1) (by omega) (by omega) _ G);unfold F_jx;simp only[Qw (show(i:Int)<(b:Int)by omega),Vo];generalize(t.r[i]'(by omega))=y1 at p E z y F;generalize(t.r[i+1]'(by omega))=y2 at g E z y F;rw[QO (by omega)];refine Qt (Qo p) (Qt (Qo g) ?_);refine Ea (Qmx (h d.cE).legs E) ((Qa _).eq ?_);have R:0<=w.Lo+(legV c y1 y2).Min-u.Lo:=z;have Q:w.Lo+(legV c y1 y2).Min-u.Lo<=w.Hi+(legV c y1 y2).Max-u.Hi:=y;have Y:w.Hi+(legV c y1 y2).Max-u.Hi<=549755813888:=F;have T:i64.wrap (w.Lo-u.Lo+(legV c y1 y2).Min)=w.Lo+(legV c y1 y2).Min-u.Lo:=by rw[Qq (by omega) (by omega)];omega
   have O:i64.wrap (w.Hi-u.Hi+(legV c y1 y2).Max)=w.Hi+(legV c y1 y2).Max-u.Hi:=by rw[Qq (by omega) (by omega)];omega
   show Ctl.cont (({Lo:=if i64.wrap (w.Lo-u.Lo+(legV c y1 y2).Min)<2199023255552 then i64.wrap (w.Lo-u.Lo+(legV c y1 y2).Min)else 2199023255552,Hi:=if i64.wrap (w.Hi-u.Hi+(legV c y1 y2).Max)<2199023255552 then i64.wrap (w.Hi-u.Hi+(legV c y1 y2).Max)else 2199023255552}:Span),((i+1:Nat):Int))=_;rw[T,O,Vs (by omega),Vs (by omega)]
 unfold F_dl;have:=lp (b-a) a (by omega) (XT _) u H;rw[Int.sub_self,Int.sub_self]at this;exact Ea this.ev (Qa _)
def betV(t:Task)(i j:Nat):Span:=needV t ((if j<i then j else i:Nat):Int) ((if i<j then j else i:Nat):Int)
def betR(t:Task)(i:Nat):List Span:=(List.range t.r.length).map (betV t i)
def betM(t:Task):List (List Span):=(List.range t.r.length).map (betR t)
theorem QdB(g:TaskIs c k s e x l t)(u:Ev (λn=>F_c n c) (courseE c))(y:courseE c=0->Good c)(F:t.r.length<=8):Ev (λn=>F_bx n c k s e x l) (t.r,betM t):=by
 have d:=Qb5 y u s.Distance e;rw[g.cE]at d;simp only[bne_self_eq_false,Vp]at d;have er:routeO c s.Distance e=(t.r,0):=Prod.ext (by rw[g.is];rfl) g.rt;rw[er]at d;have bt:∀i j:Nat,i<t.r.length->j<t.r.length->Ev (λn=>F_dv n c s.Distance e (if(j:Int)<(i:Int)then(j:Int)else(i:Int)) (if(i:Int)<(j:Int)then(j:Int)else(i:Int))) (betV t i j,0):=by
  intro i j f w;have B:(if(j:Int)<(i:Int)then(j:Int)else(i:Int))=((if j<i then j else i:Nat):Int):=by split<;>split<;>omega
  have E:(if(i:Int)<(j:Int)then(j:Int)else(i:Int))=((if i<j then j else i:Nat):Int):=by split<;>split<;>omega
  rw[B,E];have p:(if j<i then j else i)<=(if i<j then j else i):=by split<;>split<;>omega
  have z:(if i<j then j else i)<t.r.length:=by split<;>omega
  unfold F_dv betV;generalize(if j<i then j else i)=a at p;generalize(if i<j then j else i)=b at p z;refine Ea d (Qs (Ea (v:=false) (YA (Qx (by omega)) (YA (Qx (by omega)) ((Qa _).eq (Qx (by show¬(t.r.length:Int)<=(b:Int);omega))))) (Qs (Ea (Qhf g y F p z) (Qa _)))))
 have row:∀(o:List (List Span)) (i:Nat),i<t.r.length->Ev (λn=>iter (F_hi n c s e (t.r,0) (o,(i:Int))) n (([]:List Span),0)) (betR t i):=by
  intro o i f;have q:∀(m j:Nat),j+m=t.r.length->EvI (λn=>F_hi n c s e (t.r,0) (o,(i:Int))) ((List.range j).map (betV t i),(j:Int)) (betR t i):=by
   intro m
   induction m with
   |zero=>
    intro j w;have:j=t.r.length:=by omega
    subst this;refine Ej ?_;unfold F_hi;simp only[Qao,Vp];exact Qa _
   |succ m h=>
    intro j w;refine Ex ?_ (h (j+1) (by omega));unfold F_hi;simp only[Qw (show(j:Int)<(t.r.length:Int)by omega),Vo];refine Ea (bt i j f (by omega)) (Qt (QbT (by simp;omega)) ?_);rw[QO (by omega),Xu,Xf];exact Qa _
  exact(q t.r.length 0 (by omega)).ev
 have all:∀(m i:Nat),i+m=t.r.length->EvI (λn=>F_kc n c s e (t.r,0)) ((List.range i).map (betR t),(i:Int)) (betM t):=by
  intro m
  induction m with
  |zero=>
   intro i f;have:i=t.r.length:=by omega
   subst this;refine Ej ?_;unfold F_kc;simp only[Qao,Vp];exact Qa _
  |succ m h=>
   intro i f;refine Ex ?_ (h (i+1) (by omega));unfold F_kc;simp only[Qw (show(i:Int)<(t.r.length:Int)by omega),Vo];refine Ea (row _ i (by omega)) (Qt (QbT (by simp;omega)) ?_);rw[QO (by omega),Xu,Xf];exact Qa _
 unfold F_bx;exact Ea d (Ea (all t.r.length 0 (by omega)).ev (Qa _))
theorem Qgh(t:Task){i j:Nat}(hi:i<t.r.length)(a:j<t.r.length):idx (betM t) (i:Int)=some (betR t i)/\idx (betR t i) (j:Int)=some (betV t i j):=by
 refine⟨Qo ?_,Qo ?_⟩
 .unfold betM;simp[hi]
 .unfold betR;simp[a]
def inpV(t:Task)(l:List Hand):stopwatchref19_input:={c:=t.c,k:=t.k,hits:=t.H,hands:=l,route:=t.r,between:=betM t}
theorem Qbr(a:TaskIs c k s e x l t)(r:Ev (λn=>F_c n c) (courseE c))(M:l.length<=1048576){W:Way}(f:∀h∈W.Hits,hitI t h){i:Nat}(hi:i<W.Hits.length):
  Ev (λn=>F_t n (inpV t l) W (i:Int)) (bif (kv t W i).2 then((kv t W i).1.segment,(kv t W i).1.span,true)else(-1,{Lo:=0,Hi:=0},false)):=by
 have ok:=a.ok;have d:t.c=c:=by rw[a.is];rfl
 have N:t.H=x:=by rw[a.is];rfl
 have p:t.k=k:=by rw[a.is];rfl
 have G:t.m=(hndV l).1:=by rw[a.is];rfl
 have j:W.Hits[i]?=some (W.Hits[i]'hi):=XK hi;have B:=f _ (Vd hi);unfold kv;rw[j,Option.getD_some];generalize W.Hits[i]'(hi)=h at j B;unfold F_t;have g:=Qg9 (inpV t l) M (i:Int);rw[show(inpV t l).hands=l from rfl]at g;have J:Y3 t.m (i:Int)=(l.find? λh=>h.Position==(i:Int)).map λh=>{segment:= -1,span:={Lo:=h.Lo,Hi:=h.Hi}}:=by rw[G];exact QcL l _
 unfold knownV QB;rw[QaL,J];cases E:l.find? (λh=>h.Position==(i:Int))with
 |some O=>
  rw[E]at g;exact Ea g (Qa _)
 |none=>
  rw[E]at g;refine Ea g ?_;simp only[Xk,Option.isSome_none,Bool.false_or,Vp,Qo j,XJ];by_cases F:h<0
  .rw[Qw F];exact Qa _
  .rw[Qx F];have q:h.toNat<t.H.length:=by rcases B with z|z<;>omega
   obtain⟨y,y1,y2⟩:=Qad (l:=t.H) (h:=h) (by omega) q;obtain⟨_,T2⟩:=QbD a.tm;obtain⟨z,L,u⟩:=T2 _ _ (by rw[<- N];exact y1);rw[L];simp only[Vp,Vo,Option.getD_some];have w:HitOk t.c y:=ok.hit _ _ y1;rw[<- d, <- p]at u;refine Qt y2 (Ea (QeI (inpV t l) (by have:=ok.clk.dims.segs;show t.k.Segments.length<=_;omega) w u) (Ea (Qjv (inpV t l) (by show Ev (λn=>F_c n t.c) (courseE t.c);rw[d];exact r) (by show courseE t.c=0;rw[d];exact a.cE) ok.clk w u) (Qa _)))
end
set_option maxRecDepth 10000
def shpL(t:Task)(W:Way):List Int->Nat->List (Int×Bool)->Bool
 |[],_,_=>true
 |h::r,i,u=>bif (h != -1)&&badV t W u i h then false else shpL t W r (i+1) (bif h != -1 then Q3 u h true else u)
def stpL(t:Task)(W:Way):List Int->Nat->Uf->Bool
 |[],_,_=>true
 |h::r,i,s=>bif decide (W.Last<(i:Int))then true else bif !(stepV t s (i:Int) h).2 then false else stpL t W r (i+1) (stepV t s (i:Int) h).1
theorem Qec(t:Task)(W:Way)(h:Int)(r:List Int)(i:Nat)(u:List (Int×Bool)):shpL t W (h::r) i u=bif (h != -1)&&badV t W u i h then false else shpL t W r (i+1) (bif h != -1 then Q3 u h true else u):=rfl
theorem Qd9(t:Task)(W:Way)(h:Int)(r:List Int)(i:Nat)(s:Uf):stpL t W (h::r) i s=bif decide (W.Last<(i:Int))then true else bif !(stepV t s (i:Int) h).2 then false else stpL t W r (i+1) (stepV t s (i:Int) h).1:=rfl
theorem Ql3(t:Task)(W:Way):∀(r:List Int) (i:Nat) (s:Uf),W.Last<(i:Int)->stpL t W r i s=true
 |[],_,_,_=>rfl
 |h::r,i,s,q=>by rw[Qd9,Qw q,Vo]
theorem Qgk(t:Task)(W:Way):∀(r:List Int) (i:Nat) (u:List (Int×Bool)) (s:Uf),admL t W r i u s=(shpL t W r i u&&stpL t W r i s)
 |[],_,_,_=>rfl
 |h::r,i,u,s=>by
  rw[Qdm,Qec,Qd9];cases((h != -1)&&badV t W u i h)with
  |true=>rfl
  |false=>
  simp only[Vp];by_cases hL:W.Last<(i:Int)
  .rw[Qw hL,Vo,Vo,Qgk t W r,Ql3 t W r (i+1) s (by omega)]
  .rw[Qx hL,Vp,Vp];cases(stepV t s (i:Int) h).2 with
   |false=>simp
   |true=>
    simp only[Xg,Vp];exact Qgk t W r _ _ _
theorem QnD(l:List Int)(x:Int)(m:l.length<=1048576):Ev (λn=>F_eq n l x) (inV l x):=by
 have g:∀(r:List Int) (i:Nat),l.drop i=r->i<=l.length->EvI (λn=>F_hx n l x) (i:Int) (bif decide (0<=firstI (λy=>x==y) r i)then Ctl.done true else Ctl.cont ()):=by
  intro r
  induction r with
  |nil=>
   intro i d h;refine Ej ?_;unfold F_hx;simp only[QJ d h,Vp];exact Qa _
  |cons y r j=>
   intro i d h;obtain⟨a,f⟩:=Qv (by omega) d;have k:=a.lt';unfold firstI;have eq:(y==x)=(x==y):=by rw[XY,Vx,Vx];exact eq_comm
   cases e:(x==y)with
   |true=>
    refine Ej ?_;unfold F_hx;simp only[a.lt,Vo,a.ix,XJ,eq,e,Qw (show(0:Int)<=(i:Int)by omega)];exact Qa _
   |false=>
    refine Ex ?_ (j (i+1) f (by omega));unfold F_hx;simp only[a.lt,Vo,a.ix,XJ,eq,e,Vp,a.nx];exact Qa _
 unfold F_eq inV;refine Ea (g l 0 rfl (XU _)).ev ?_;cases decide (0<=firstI (λy=>x==y) l 0)<;>exact Qa _
theorem QhT(W:Way)(H:List Hit)(k:W.Hits.length<=1048576)(m:H.length<=1048576):Ev (λn=>F_cx n H W) (strL W H 0 0):=by
 have g:∀(r:List Hit) (i:Nat) (a:Int),H.drop i=r->i<=H.length->EvI (λn=>F_hy n H W) (a,(i:Int)) (strL W r i a):=by
  intro r
  induction r with
  |nil=>
   intro i a d h;refine Ej ?_;unfold F_hy;simp only[QJ d h,Vp];exact Qa _
  |cons y r j=>
   intro i a d h;obtain⟨e,f⟩:=Qv (by omega) d;have l:=e.lt';refine Ex ?_ (j (i+1) _ f (by omega));unfold F_hy;simp only[e.lt,Vo,e.nx];refine Ea (QnD W.Hits (i:Int) k) ?_;cases inV W.Hits (i:Int)<;>exact Qa _
 unfold F_cx;exact Ea (g H 0 0 rfl (XU _)).ev (Qa _)
def shapeV(t:Task)(W:Way):Bool:=bif (((W.Hits.length:Int) != (t.r.length:Int))||(decide (W.Last< -1)||decide ((t.r.length:Int)<=W.Last)))then false else bif shpL t W W.Hits 0 []then !decide (W.Last<t.hi)else false
theorem QnI(W:Way)(i:Nat)(hi:i<W.Hits.length)(l:W.Hits.length<=1048576)(h:Int):Ev (λn=>iter (F_cs n W (i:Int) h) n 0) (bif (W.Hits.take i).any (λy=>y==h)then Ctl.done (.done (.done (.done false)))else Ctl.cont ()):=by
 have a:∀(m j:Nat),j+m=i->EvI (λn=>F_cs n W (i:Int) h) (j:Int) (bif ((W.Hits.take i).drop j).any (λy=>y==h)then Ctl.done (.done (.done (.done false)))else Ctl.cont ()):=by
  intro m
  induction m with
  |zero=>
   intro j k;have:j=i:=by omega
   subst this;refine Ej ?_;unfold F_cs;rw[List.drop_eq_nil_of_le (by simp;omega)];simp only[Qx (show¬(j:Int)<(j:Int)by omega),Vp];exact Qa _
  |succ m g=>
   intro j k;have d:W.Hits[j]?=some (W.Hits[j]'(by omega)):=XK (by omega);have f:(W.Hits.take i).drop j=(W.Hits[j]'(by omega))::(W.Hits.take i).drop (j+1):=by
    rw[Xp (by simp;omega)];simp
   rw[f,List.any_cons];cases e:((W.Hits[j]'(by omega))==h)with
   |true=>
    refine Ej ?_;unfold F_cs;simp only[Qw (show(j:Int)<(i:Int)by omega),Vo,Qo d,XJ,e,Bool.true_or];exact Qa _
   |false=>
    refine Ex ?_ (g (j+1) (by omega));unfold F_cs;simp only[Qw (show(j:Int)<(i:Int)by omega),Vo,Qo d,XJ,e,Vp];rw[QO (by omega)];exact Qa _
 have:=a i 0 (by omega);simpa using this.ev
theorem Qju{t:Task}{l:List Hand}(ok:TaskOk t)(J:t.hi=(hndV l).2)(hl:l.length<=1048576){W:Way}(hW:W.Hits.length<=1048576):Ev (λn=>F_el n (inpV t l) W) (shapeV t W):=by
 have rl:=ok.rl;unfold F_el shapeV;refine Ea (v:=(((W.Hits.length:Int) != (t.r.length:Int))||(decide (W.Last< -1)||decide ((t.r.length:Int)<=W.Last)))) (Qh λ_=>Qh λ_=>Qa _) ?_;cases P:(((W.Hits.length:Int) != (t.r.length:Int))||(decide (W.Last< -1)||decide ((t.r.length:Int)<=W.Last)))with
 |true=>exact Qa _
 |false=>
 simp only[XX,decide_eq_false_iff_not]at P;obtain⟨f,b1,b2⟩:=P;have f:W.Hits.length=t.r.length:=by have:=f;simp[bne]at this;omega
 simp only[Vp];have G:∀(r:List Int) (i:Nat) (u:List (Int×Bool)),W.Hits.drop i=r->i<=W.Hits.length->(∀q,0<=q->QB u q false=(W.Hits.take i).any (λy=>y==q))->EvI (λn=>F_co n (inpV t l) W) (i:Int) (bif shpL t W r i u then Ctl.cont ()else Ctl.done false):=by
  intro r
  induction r with
  |nil=>
   intro i u O hi _;have ab:W.Hits.length<=i:=Xq.1 O;refine Ej ?_;unfold F_co;rw[Qx (show¬(i:Int)<((inpV t l).route.length:Int)by show¬(i:Int)<(t.r.length:Int);omega)];exact Qa _
  |cons h r X=>
   intro i u O hi M;obtain⟨a,s⟩:=Qv (by omega) O;have aa:=a.lt';have m:t.r[i]?=some (t.r[i]'(by omega)):=XK (by omega);have x:∀q,(W.Hits.take (i+1)).any (λy=>y==q)=((W.Hits.take i).any (λy=>y==q)||(h==q)):=by
    intro q;rw[List.take_add_one,a.get];simp
   have B:(decide ((i:Int)<((inpV t l).route.length:Int)))=true:=Qw (by show(i:Int)<(t.r.length:Int);omega);rw[Qec];by_cases k:h= -1
   .subst k;refine Ex ?_ (X (i+1) u s (by omega) (λq F=>by rw[x,M q F,show((-1:Int)==q)=false from beq_false_of_ne (by omega),Bool.or_false]));unfold F_co;rw[B];simp only[Vo,a.ix,XJ,a.nx];exact Ea (v:=Ctl.cont ()) (Qa _) (Qa _)
   .have Y:(h != -1)=true:=by simpa[bne]using k
    have j:(h== -1)=false:=beq_false_of_ne k;rw[Y,Vz];simp only[Vo];have d:Ev (λn=>(bif decide (h<0)then some true else(bif decide (((inpV t l).hits.length:Int)<=h)then some true else(idx (inpV t l).hits h).bind λw=>(idx (inpV t l).route (i:Int)).bind λp=>(bif (w.Mat != p)then some true else some (decide (W.Last<(i:Int))))):Option Bool)) (decide (h<0)||(decide ((t.H.length:Int)<=h)||((((t.H[h.toNat]?).map (·.Mat)).getD 0 != (t.r[i]?).getD 0)||decide (W.Last<(i:Int))))):=by
     refine Qh λQ=>Qh λT=>?_;have Q:=Vv Q;have T:¬(t.H.length:Int)<=h:=Vv T;obtain⟨y,y1,y2⟩:=Qad (l:=t.H) (h:=h) (by omega) (by omega);rw[y1,m];refine Qt y2 (Qt (Qo m) ?_);exact Qh λ_=>Qa _
    have split:badV t W u i h=((decide (h<0)||(decide ((t.H.length:Int)<=h)||((((t.H[h.toNat]?).map (·.Mat)).getD 0 != (t.r[i]?).getD 0)||decide (W.Last<(i:Int)))))||QB u h false):=by
     unfold badV;cases decide (h<0)<;>cases decide ((t.H.length:Int)<=h)<;>cases(((t.H[h.toNat]?).map (·.Mat)).getD 0 != (t.r[i]?).getD 0)<;>cases decide (W.Last<(i:Int))<;>cases QB u h false<;>rfl
    rw[split];cases N:(decide (h<0)||(decide ((t.H.length:Int)<=h)||((((t.H[h.toNat]?).map (·.Mat)).getD 0 != (t.r[i]?).getD 0)||decide (W.Last<(i:Int)))))with
    |true=>
     rw[N]at d;refine Ej ?_;unfold F_co;rw[B];simp only[Vo,a.ix,XJ,j,Vp];exact Ea (v:=Ctl.done (.done (.done false))) (Ea d (Qaq (Qa _))) (Qa _)
    |false=>
     rw[N]at d;simp only[XX,decide_eq_false_iff_not]at N;have h0:0<=h:=by omega
     rw[Bool.false_or,M h h0];have E:=QnI W i (by omega) hW h;cases V:(W.Hits.take i).any (λy=>y==h)with
     |true=>
      rw[V,Vo]at E;refine Ej ?_;unfold F_co;rw[B];simp only[Vo,a.ix,XJ,j,Vp];exact Ea (v:=Ctl.done (.done (.done false))) (Ea d (Qs (Ea E (Qa _)))) (Qa _)
     |false=>
      rw[V,Vp]at E;refine Ex ?_ (X (i+1) (Q3 u h true) s (by omega) (λq F=>?_))
      .unfold F_co;rw[B];simp only[Vo,a.ix,XJ,j,Vp,a.nx];exact Ea (v:=Ctl.cont ()) (Ea d (Qs (Ea E (Qa _)))) (Qa _)
      .rw[x, <- M q F];unfold QB;rw[Qb3];by_cases e:q=h
       .subst e;simp
       .rw[Vr e,show(h==q)=false from beq_false_of_ne λz=>e z.symm,Bool.or_false]
 have g:=(G W.Hits 0 [] rfl (XU _) (λq _=>rfl)).ev;cases R:shpL t W W.Hits 0 []with
 |false=>
  rw[R]at g;exact Ea g (Qa _)
 |true=>
  rw[R]at g;refine Ea g ?_;have hands:Ev (λn=>iter (F_jk n (inpV t l) W) n 0) (bif l.all (λh=> !decide (W.Last<h.Position))then Ctl.cont ()else Ctl.done false):=by
   refine Q9 l (λh=> !decide (W.Last<h.Position)) (Ctl.done false) (Ctl.cont ()) (by omega) (λi y a=>?_) ?_
   .unfold F_jk;rw[show(inpV t l).hands=l from rfl];simp only[a.lt,Vo,a.ix,XJ,a.nx];cases decide (W.Last<y.Position)<;>exact Qa _
   .unfold F_jk;rw[show(inpV t l).hands=l from rfl];simp only[Qao,Vp];exact Qa _
  have eh:l.all (λh=> !decide (W.Last<h.Position))= !decide (W.Last<t.hi):=by
   rw[XY,Xs];simp only[Bool.not_eq_true',decide_eq_false_iff_not];rw[J];have:=QkM l W.Last;constructor
   .intro h;have:=this.2 ⟨by omega,λy L=>by have:=h y L;omega⟩;omega
   .intro h y L;have:=(this.1 (by omega)).2 y L;omega
  rw[eh]at hands;refine Ea hands ?_;cases decide (W.Last<t.hi)<;>exact Qa _
set_option maxRecDepth 10000
section
variable {c:Course} {k:Clocks} {s:Starter} {e:Int} {x:List Hit} {l:List Hand} {t:Task}
theorem Qk6(r:TaskIs c k s e x l t)(q:Ev (λn=>F_c n c) (courseE c))(kw:ClkW k){y:Ud}(hx:t.seg y){a b:Int}(Q:isT a)(V:isT b)(aa:a<=b):∃er,Ev (λn=>F_bh n t.c t.k y.segment {Lo:=a,Hi:=b}) (trueV t.c t.k y.segment a b,er):=by
 have ok:=r.ok;have G:t.c=c:=by rw[r.is];rfl
 have L:t.k=k:=by rw[r.is];rfl
 obtain⟨j,j1,j2⟩:=hx;have hs:=ok.clk.dims.segs;have start:∀{v:Span×Int},Ev (λn=>(bif (y.segment==(-1))then some ({Lo:=a,Hi:=i64.wrap (b+t.c.Faults.Residual):Span},0)else(idx t.k.Segments y.segment).bind λf=>(F_aw n t.c f.Mat).bind λF=>(bif (!F)then some ({Lo:=0,Hi:=0:Span},1)else(F_ab n t.c f a).bind λz=>(idx t.k.Far (i64.wrap (y.segment+1))).bind λu=>(idx u 0).bind λM=>(F_ab n t.c f b).bind λN=>(idx t.k.Far 0).bind λE=>(idx E (i64.wrap (y.segment+1))).bind λB=>some ({Lo:=i64.wrap ((i64.wrap (a+z.Lo))-M),Hi:=i64.wrap ((i64.wrap (b+N.Hi))+B):Span},0)):Option (Span×Int))) v->Ev (λn=>F_bh n t.c t.k y.segment {Lo:=a,Hi:=b}) v:=by
  intro v hv;have rf:Ev (λn=>F_c n t.c) 0:=by rw[G];rw[r.cE]at q;exact q
  have X:Ev (λn=>F_be n t.k) 0:=by
   have:=QiK k kw;rw[r.clk]at this;rw[L];exact this
  unfold F_bh;refine Ea rf (Ea (v:=0) (Qaq (Ea X (Qa _))) (Qs (Ea (v:=false) ?_ (Qs hv))));refine YA (Qx (by omega)) (YA (Qx (by omega)) (Ea (Qbp a) ?_));rw[timeI.2 Q];refine Qs (Ea (Qbp b) ?_);rw[timeI.2 V];exact Qs ((Qa _).eq (Qx (by show¬b<a;omega)))
 unfold trueV;by_cases d:y.segment<0
 .rw[Qw d];exact⟨_,start (Yz (by rw[Vx];omega) (Qa _))⟩
 rw[Qx d];simp only[Vp];have p:(y.segment== -1)=false:=beq_false_of_ne (by omega);obtain⟨g,T,P⟩:=Qad (l:=t.k.Segments) (h:=y.segment) (by omega) (by omega);rw[T];simp only;cases H:matB t.c g.Mat with
 |false=>exact⟨_,start (YA p (Qt P (Ea ((Qdk t.c g.Mat).eq H) (Yz rfl (Qa _)))))⟩
 |true=>
  obtain⟨i,m,J,O⟩:=QkD H;have kd:kindAt t.c g.Mat=m.Kind:=by unfold kindAt;rw[J,Int.toNat_natCast,O];rfl
  have R:=ok.clk.anc g (VG T);obtain⟨g1,g2⟩:=ok.clk.dims.get (i:=y.segment.toNat+1) (j:=0) (by omega) (by omega);obtain⟨Y,W⟩:=ok.clk.dims.get (i:=0) (j:=y.segment.toNat+1) (by omega) (by omega);have w:i64.wrap (y.segment+1)=((y.segment.toNat+1:Nat):Int):=by rw[Qq (by omega) (by omega)];omega
  refine⟨0,start (YA p (Qt P (Ea ((Qdk t.c g.Mat).eq H) (YA rfl (Ea (Qdl ok.crs O J R Q) (Qt (v:=t.k.Far[y.segment.toNat+1]?.getD []) (by rw[w];exact Qo g1) (Qt (v:=farG t.k (y.segment.toNat+1) 0) (Qo (i:=0) g2) (Ea (Qdl ok.crs O J R V) (Qt (v:=t.k.Far[0]?.getD []) (Qo (i:=0) Y) (Qt (v:=farG t.k 0 (y.segment.toNat+1)) (by rw[w];exact Qo W) ?_))))))))))⟩;rw[kd];exact Qa _
theorem Qk4(u:TaskIs c k s e x l t)(P:Ev (λn=>F_c n c) (courseE c))(gd:courseE c=0->Good c)(kw:ClkW k)(h8:t.r.length<=8)(hl:l.length<=1048576){W:Way}(hits:∀h∈W.Hits,hitI t h)(ax:W.Hits.length=t.r.length)(a0:W.Last<(t.r.length:Int)):
  ∀(r:List Int) (i:Nat) (d:Uf),W.Hits.drop i=r->i<=W.Hits.length->InvK t W i d->0<=d.row->d.row<=(i:Int)->EvI (λn=>F_bb n (inpV t l) W) (d.row,d.last,(i:Int)) (bif stpL t W r i d then Ctl.cont ()else Ctl.done false):=by
 have ok:=u.ok;have aq:t.c=c:=by rw[u.is];rfl
 have ac:t.k=k:=by rw[u.is];rfl
 have hH:t.H=x:=by rw[u.is];rfl
 have hm:t.m=(hndV l).1:=by rw[u.is];rfl
 have O:clkB t.k=true:=by rw[ac];exact u.clk
 have dm:=Qb6 O;have a2:=dm.segs;have hI:∀i:Nat,hitI t ((W.Hits[i]?).getD (-1)):=by
  intro i;cases e:W.Hits[i]? with
  |none=>exact .inl (by show(-1:Int)<0;omega)
  |some y=>exact hits y (VG e)
 intro r
 induction r with
 |nil=>
  intro i d hr hi _ _ _;have az:W.Hits.length<=i:=Xq.1 hr;refine Ej ?_;unfold F_bb;simp only[Qx (show¬(i:Int)<=W.Last by omega),Vp];exact Qa _
 |cons h r ih=>
  intro i d hr hi hK h0 ay;obtain⟨T,ah⟩:=Qv (by omega) hr;have au:=T.lt';rw[Qd9];by_cases hL:W.Last<(i:Int)
  .rw[Qw hL];refine Ej ?_;unfold F_bb;simp only[Qx (show¬(i:Int)<=W.Last by omega),Vp];exact Qa _
  rw[Qx hL,Vp];have ai:kv t W i=knownV t (i:Int) h:=by unfold kv;rw[T.get];rfl
  have L:=Qbr u P hl hits (i:=i) au;have go:decide ((i:Int)<=W.Last)=true:=Qw (by omega);unfold stepV;rw[<- ai];cases Q:(kv t W i).2 with
  |false=>
   rw[Q]at L;simp only[Vp]at L;simp only[Xh,Vo];have w:i64.wrap (d.row+1)=d.row+1:=Qq (by omega) (by omega);by_cases hM:d.row+1<=t.c.Faults.Misses
   .rw[Qw hM];simp only[Xg,Vp];refine Ex ?_ (ih (i+1) {d with row:=d.row+1} ah (by omega) ?_ (by show 0<=d.row+1;omega) (by show d.row+1<=_;omega))
    .unfold F_bb;simp only[go,Vo];refine Ea (v:=Ctl.cont (d.row+1,d.last)) (Ea L (Yz rfl ?_)) ?_
     .rw[w];exact YA (Qx (by show¬t.c.Faults.Misses<d.row+1;omega)) (Qa _)
     .simp only[T.nx];exact Qa _
    .rcases hK with⟨i1,X⟩|⟨F,i1,X,i3,i4,i5⟩
     .exact .inl ⟨i1,λj hj=>(VB j i).elim (X j) λz=>(show i=j by omega)▸Q⟩
     .exact .inr ⟨F,by omega,X,i3,i4,λj h1 hj=>(VB j i).elim (i5 j h1) λz=>(show i=j by omega)▸Q⟩
   .rw[Qx hM];simp only[Xh,Vo,Vp];refine Ej ?_;unfold F_bb;simp only[go,Vo];refine Ea (v:=Ctl.done (.done (.done false))) (Ea L (Yz rfl ?_)) (Qa _);rw[w];exact Yz (Qw (by show t.c.Faults.Misses<d.row+1;omega)) (Qa _)
  |true=>
   rw[Q]at L;simp only[Vo]at L;simp only[Xg,Vp];obtain⟨z1,z2,z3⟩:=Qeq u (hI i) Q;obtain⟨jb,eb,lb⟩:=Qb4 ok (hI i) Q;have q:Ev (λn=>((bif decide (0<=d.last)then(F_t n (inpV t l) W d.last).bind λf=>(idx (inpV t l).k.Far (i64.wrap ((kv t W i).1.segment+1))).bind λak=>(idx ak (i64.wrap (f.1+1))).bind λJ=>(idx (inpV t l).k.Far (i64.wrap (f.1+1))).bind λao=>(idx ao (i64.wrap ((kv t W i).1.segment+1))).bind λG=>(idx (inpV t l).between d.last).bind λae=>(idx ae (i:Int)).bind λp=>(F_ca n ({Lo:=i64.wrap ((i64.wrap ((kv t W i).1.span.Lo-f.2.1.Hi))-J),Hi:=i64.wrap ((i64.wrap ((kv t W i).1.span.Hi-f.2.1.Lo))+G):Span}) ({Lo:=p.Lo,Hi:=p.Hi:Span})).bind λaw=>(bif (!(decide ((if(i64.wrap ((i64.wrap ((kv t W i).1.span.Lo-f.2.1.Hi))-J))<p.Lo then p.Lo else(i64.wrap ((i64.wrap ((kv t W i).1.span.Lo-f.2.1.Hi))-J)))<=(if p.Hi<(i64.wrap ((i64.wrap ((kv t W i).1.span.Hi-f.2.1.Lo))+G))then p.Hi else(i64.wrap ((i64.wrap ((kv t W i).1.span.Hi-f.2.1.Lo))+G))))))then some (.done (.done (.done (.done false))))else some (.cont ()))else some (.cont ())):Option (Ctl Unit (Ctl (Int×Int) (Ctl (Int×Int×Int) (Ctl Unit Bool))))))
     (bif decide (0<=d.last)&& !followsV t d.when d.last (kv t W i).1 (i:Int)then .done (.done (.done (.done false)))else .cont ()):=by
    rcases hK with⟨i1,X⟩|⟨F,i1,X,i3,i4,i5⟩
    .rw[i1];exact Qa _
    .rw[X,i4,Qw (show(0:Int)<=(F:Int)by omega),Vz];obtain⟨y1,y2,y3⟩:=Qeq u (hI F) i3;obtain⟨ja,ea,la⟩:=Qb4 ok (hI F) i3;have ca:=Qbr u P hl hits (i:=F) (by omega);rw[i3]at ca;simp only[Vo]at ca;change (kv t W F).1.segment+1=(ja:Int)at ea;change (kv t W i).1.segment+1=(jb:Int)at eb;have D:=QmH O (a:=(kv t W F).1) (b:=(kv t W i).1) ea la eb lb y1 y2 y3 z1 z2 z3;have bv:betV t F i=needV t (F:Int) (i:Int):=by
      unfold betV;rw[Vr (by omega),Vs i1]
     obtain⟨b1,b2⟩:=Qgh t (i:=F) (j:=i) (by omega) (by omega);obtain⟨g1,g2⟩:=dm.get lb la;obtain⟨g3,g4⟩:=dm.get la lb;unfold followsV;rw[D, <- bv];refine Qaq (Ea ca ?_);rw[ea,eb,Qq (n:=(ja:Int)) (by omega) (by omega),Qq (n:=(jb:Int)) (by omega) (by omega)];refine Qt (Qo g1) (Qt (Qo g2) (Qt (Qo g3) (Qt (Qo g4) (Qt b1 (Qt b2 ?_)))));refine Ea (v:=()) (Qa _) ?_;unfold meetV;refine Qah (λ_=>Qa _) λ_=>Qa _
   have V:=Qg9 (inpV t l) hl (i:Int);rw[show(inpV t l).hands=l from rfl]at V;have gm:Y3 t.m (i:Int)=(l.find? λh=>h.Position==(i:Int)).map λh=>{segment:= -1,span:={Lo:=h.Lo,Hi:=h.Hi}}:=by rw[hm];exact QcL l _
   have ar:∀N:Hand×Bool,(match l.find? (λh=>h.Position==(i:Int))with|some h=>(h,true)|none=>(Uq,false))=N->∃E,Ev (λn=>(bif N.2 then(idx W.Hits (i:Int)).bind λab=>some (decide (0<=ab))else some false:Option Bool)) E/\Ev (λn=>((bif E then(idx W.Hits (i:Int)).bind λaa=>(idx (inpV t l).hits aa).bind λB=>(F_p n (inpV t l) B).bind λam=>(F_bh n (inpV t l).c (inpV t l).k am ({Lo:=B.First,Hi:=B.Last:Span})).bind λg=>(F_ca n ({Lo:=g.1.Lo,Hi:=g.1.Hi:Span}) ({Lo:=N.1.Lo,Hi:=N.1.Hi:Span})).bind λav=>(bif (!(decide ((if g.1.Lo<N.1.Lo then N.1.Lo else g.1.Lo)<=(if N.1.Hi<g.1.Hi then N.1.Hi else g.1.Hi))))then some (.done (.done (.done (.done false))))else some (.cont ()))else some (.cont ())):Option (Ctl Unit (Ctl (Int×Int) (Ctl (Int×Int×Int) (Ctl Unit Bool))))))
     (bif decide (0<=h)&& !agreeV t h (i:Int)then .done (.done (.done (.done false)))else .cont ()):=by
    intro N M;unfold agreeV;unfold QB;rw[QaL,gm];cases hf:l.find? (λh=>h.Position==(i:Int))with
    |none=>
     rw[hf]at M;subst M;refine⟨false,Qa _,(Qa _).eq ?_⟩;simp
    |some h'=>
     rw[hf]at M;subst M;refine⟨decide (0<=h),Qaq (Qt T.ix (Qa _)),?_⟩;by_cases R:0<=h
     .rw[Qw R,Vz];have al:=hI i;rw[T.get,Option.getD_some]at al;have af:h.toNat<t.H.length:=by rcases al with z|z<;>omega
      obtain⟨y,y1,y2⟩:=Qad (l:=t.H) R af;obtain⟨_,T2⟩:=QbD u.tm;obtain⟨z,ad,an⟩:=T2 _ _ (by rw[<- hH];exact y1);rw[y1,ad];rw[<- aq, <- ac]at an;have hy:=ok.hit _ _ y1;have sg:=QeI (inpV t l) (by show t.k.Segments.length<=_;omega) hy an;obtain⟨er,tr⟩:=Qk6 u P kw (ok.sg z (VG ad)) hy.fi hy.la hy.le;refine Qaq (Qt T.ix (Qt y2 (Ea sg (Ea tr (Ea (v:=()) (Qa _) ?_)))));simp only[Xj,Option.isSome_some,Xg,Vp,Option.getD_some];unfold meetV;exact Qah (λ_=>Qa _) λ_=>Qa _
     .rw[Qx R];exact Qa _
   have aj:stopV t d (i:Int) h=((decide (0<=h)&& !agreeV t h (i:Int))||(decide (0<=d.last)&& !followsV t d.when d.last (kv t W i).1 (i:Int))):=by
    unfold stopV;rw[<- ai]
   rw[aj];cases eA:(decide (0<=d.last)&& !followsV t d.when d.last (kv t W i).1 (i:Int))with
   |true=>
    rw[eA]at q;simp only[Vo]at q;simp only[Bool.or_true,Vo,Xh,Vp];refine Ej ?_;unfold F_bb;simp only[go,Vo];refine Ea (v:=Ctl.done (.done (.done false))) (Ea L (YA rfl (Ea q (Qa _)))) (Qa _)
   |false=>
    rw[eA]at q;simp only[Vp]at q;rw[Bool.or_false];obtain⟨E,a1,Y⟩:=ar _ rfl;cases eB:(decide (0<=h)&& !agreeV t h (i:Int))with
    |true=>
     rw[eB]at Y;simp only[Vo]at Y;simp only[Vo,Xh,Vp];refine Ej ?_;unfold F_bb;simp only[go,Vo];refine Ea (v:=Ctl.done (.done (.done false))) (Ea L (YA rfl (Ea q (Ea V (Ea a1 (Ea Y (Qa _))))))) (Qa _)
    |false=>
     rw[eB]at Y;simp only[Vp]at Y;simp only[Vp,Xg];refine Ex ?_ (ih (i+1) {last:=(i:Int),when:=(kv t W i).1,row:=0} ah (by omega) (.inr ⟨i,by omega,rfl,Q,rfl,λj h1 h2=>by omega⟩) (by show(0:Int)<=0;omega) (by show(0:Int)<=_;omega));unfold F_bb;simp only[go,Vo];refine Ea (v:=Ctl.cont (0,(i:Int))) (Ea L (YA rfl (Ea q (Ea V (Ea a1 (Ea Y (Qa _))))))) ?_;simp only[T.nx];exact Qa _
theorem Qmz(p:TaskIs c k s e x l t)(B:Ev (λn=>F_c n c) (courseE c))(O:courseE c=0->Good c)(P:ClkW k)(M:t.r.length<=8)(hl:l.length<=1048576){W:Way}(F:W.Hits.length<=1048576):Ev (λn=>F_dh n (inpV t l) W) (admV t W):=by
 have ok:=p.ok;have z:t.hi=(hndV l).2:=by rw[p.is];rfl
 have G:=Qju ok z hl F;have L:=QhT W t.H F (by have:=ok.hl;omega);unfold F_dh;have J:admV t W=bif !shapeV t W||decide (t.c.Faults.Strays<strL W t.H 0 0)then false else stpL t W W.Hits 0 s0V:=by
  unfold admV admB shapeV;rw[Qgk];cases((W.Hits.length:Int) != (t.r.length:Int))<;>cases decide (W.Last< -1)<;>cases decide ((t.r.length:Int)<=W.Last)<;>cases decide (W.Last<t.hi)<;>cases decide (t.c.Faults.Strays<strL W t.H 0 0)<;>cases shpL t W W.Hits 0 []<;>rfl
 rw[J];refine Ea (v:= !shapeV t W||decide (t.c.Faults.Strays<strL W t.H 0 0)) ?_ ?_
 .refine Ea G ?_;exact Qh λ_=>Ea L (Qa _)
 cases d:(!shapeV t W||decide (t.c.Faults.Strays<strL W t.H 0 0))with
 |true=>exact Qa _
 |false=>
 simp only[XX,Bool.not_eq_false']at d;obtain⟨f,_⟩:=d;unfold shapeV at f;cases m:(((W.Hits.length:Int) != (t.r.length:Int))||(decide (W.Last< -1)||decide ((t.r.length:Int)<=W.Last)))with
 |true=>rw[m]at f;cases f
 |false=>
 rw[m,Vp]at f;simp only[XX,decide_eq_false_iff_not]at m;obtain⟨a,R,Q⟩:=m;have a:W.Hits.length=t.r.length:=by have:=a;simp[bne]at this;omega
 have j:∀h∈W.Hits,hitI t h:=by
  cases E:shpL t W W.Hits 0 []with
  |false=>rw[E]at f;cases f
  |true=>
  have w:∀(r:List Int) (i:Nat) (u:List (Int×Bool)),shpL t W r i u=true->∀h∈r,hitI t h:=by
   intro r
   induction r with
   |nil=>intro i u _ h g;cases g
   |cons y r N=>
    intro i u q h g;rw[Qec]at q;cases d:((y != -1)&&badV t W u i y)with
    |true=>rw[d]at q;cases q
    |false=>
     rw[d,Vp]at q;rcases X6.1 g with rfl|g
     .exact(Qcq d).1
     .exact N _ _ q h g
  exact w _ _ _ E
 have lp:=(Qk4 p B O P M hl j a (by omega) W.Hits 0 s0V rfl (XU _) (inv0 t W) (by show(0:Int)<=0;omega) (by show(0:Int)<=0;omega)).ev;refine Qs (Ea lp ?_);cases stpL t W W.Hits 0 s0V<;>exact Qa _
theorem QeM(y:Ev (λn=>F_d n c) (courseE c))(a:Ev (λn=>F_c n c) (courseE c))(g:courseE c=0->Good c)(i:ClkW k)(p:x.length<=1000)(m:l.length<=1048576)(j:∀t,taskE c k s e x l=.inr t->t.r.length<=8){W:Way}(q:W.Hits.length<=1048576):Ev (λn=>F_ef n c k s e x l W) (chkV c k s e x l W):=by
 unfold F_ef chkV;refine Ea (Qk7 a g i s e x p l m) ?_;cases f:taskE c k s e x l with
 |inl v=>
  have:=Qgy f;exact Yz (by simpa[errV,bne]using this) (Qa _)
 |inr t=>
  have d:=Qcx y g i p f;have z:t.c=c:=by rw[d.is];rfl
  have w:t.k=k:=by rw[d.is];rfl
  have u:t.H=x:=by rw[d.is];rfl
  have h:=Qmz d a g i (j t f) m q;unfold inpV at h;rw[z,w,u]at h;refine Qs (Ea (QdB d a g (j t f)) (Ea h ?_));show Ev _ (bif admV t W then(0:Int)else 190);cases admV t W with
  |true=>exact YA rfl (Qa _)
  |false=>exact Yz rfl (Qa _)
end
set_option maxRecDepth 10000
theorem Qmp{a:stopwatchlaw19_Input}(w:stopwatchlaw19_Input.wf a)(f:FewI a)(k:Ev (λn=>F_ar n a) true)(t:Task)(i:taskE a.C a.K a.S a.Extra a.Hits a.Hands=.inr t):t.r.length<=8:=by
 have e:=Qcx f.ty f.good f.clk (by have:=f.hits;omega) i;have g:t.r=(routeO a.C a.S.Distance a.Extra).1:=by rw[e.is];rfl
 obtain⟨j,d,m,s,p,h,u,q,l⟩:=Qb0 (f.good e.cE) e.rt;have:=(XL.1 h).1;rw[g];exact Qjr w f k e.cE (by omega) (by omega) e.rt
end Go.Sw
