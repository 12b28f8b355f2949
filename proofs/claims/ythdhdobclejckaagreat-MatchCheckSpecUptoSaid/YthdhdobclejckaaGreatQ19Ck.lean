/- The plain laws that a law needs, with no program in sight. -/
import Derived.Test.YthdhdobclejckaaGreatW19Ck
set_option linter.unusedVariables false
set_option linter.unusedSimpArgs false
namespace Go.Sw
open List(map)
open Int(toNat)
open Go.IntKind(i64 u64 u8)
def inR(lo hi x:Int):Bool:=decide (lo<=x)&&decide (x<=hi)
theorem Qfy(lo hi:Int)(l:List Int)(a:l.length<=4611686018427387904):Ev (λn=>F_a n lo hi l) (l.all (inR lo hi)):=by
 have h:Ev (λn=>F_gh n l lo hi) (l.any λx=> !inR lo hi x):=by
  refine Ev.contains l _ (λn x=>F_gg n x lo hi) a λx _=>?_;refine Ea ((Qh λh=>Qa _).eq ?_) (Qa _);unfold inR
  grind
 refine Ea h ((Qa _).eq ?_)
 grind
def okN(c:Nat):Bool:=(decide (97<=c)&&decide (c<=122))||(decide (48<=c)&&decide (c<=57))||decide (c=95)
def okAN(c:Nat):Bool:=decide (97<=c)&&decide (c<=122)
def okC(c:UInt8):Bool:=okN c.toNat
def okA(c:UInt8):Bool:=okAN c.toNat
def kwL:List (List UInt8):=[[99,111,117,114,115,101],[109,97,116,115],[115,116,97,114,116],[112,97,115,115],[101,110,100],[108,101,103],[116,111],[100,105,115,116,97,110,99,101],[103,117,110],[99,104,105,112],[115,108,111,116],[108,97,112,115],[108,97,112],[99,117,116,111,102,102],[101,120,116,114,97],[119,97,118,101],[111,102,102,101,110,99,101],[111,117,116],[99,97,116,101,103,111,114,121],[112,114,105,122,101],[97,108,108],[116,105,101,115],[105,102],[101,108,115,101],[97,110,100],[111,114],[110,111,116],[111,108,100,101,114],[121,111,117,110,103,101,114],[98,105,98],[100,114,97,119],[102,105,101,108,100],[115,104,111,114,116],[102,97,117,108,116,115],[109,105,115,115,101,115],[115,116,114,97,121,115],[119,105,110,100,111,119],[114,101,115,105,100,117,97,108],[100,114,105,102,116],[112,114,111,116,101,115,116],[102,101,101],[100,101,97,100,108,105,110,101]]
theorem Qlr(c d:Bool):(bif c then some c else some d)=some (c||d):=by grind
theorem QiR(c d:Bool):(bif c then some true else some d)=some (c||d):=by grind
theorem Qe8(n:Nat)(s:List UInt8):F_cv n s=some (kwL.contains s):=by
 unfold F_cv;simp only[Qlr,QiR,XJ];simp only[kwL,List.contains_cons,List.contains_nil,Bool.or_assoc]
def kwsOf:List UInt8->List (List UInt8)
 |[]=>[]
 |b::l=>(bif b==32&& !(l.dropWhile λc=>c != 32).isEmpty then[l.takeWhile λc=>c != 32]else[])++kwsOf l
theorem Qds:∀(l s:List UInt8),(∀c∈s,c≠32)->(s++[32]).isPrefixOf l=((l.takeWhile λc=>c != 32)==s&& !(l.dropWhile λc=>c != 32).isEmpty)
 |[],s,h=>by simp
 |b::l,[],h=>by
  by_cases e:b=32
  .subst e;simp
  .have e1:=by simpa using e
   have a:(32==b)=false:=by grind
   simp[List.isPrefixOf,e1,a]
 |b::l,c::s,h=>by
  have f:=h c (by simp);have d:=Qds l s (by grind)
  grind[List.takeWhile_cons,List.dropWhile_cons]
theorem contains_cons(b:UInt8)(l t:List UInt8)(a:t≠[]):Lib.contains (b::l) t=(t.isPrefixOf (b::l)||Lib.contains l t):=by
 unfold Lib.contains;rw[show Lib.index (b::l) t=if t.isPrefixOf (b::l)then 0 else if Lib.index l t== -1 then-1 else Lib.index l t+1 from rfl]
 grind
theorem QbR(s:List UInt8)(h:∀c∈s,c≠32):∀l,Lib.contains l (32::(s++[32]))=(kwsOf l).contains s
 |[]=>by rfl
 |b::l=>by
  rw[contains_cons b l _ (by simp),QbR s h l];simp only[kwsOf,List.isPrefixOf,Qds l s h]
  grind
def wordsL:List UInt8:=[32,99,111,117,114,115,101,32,109,97,116,115,32,115,116,97,114,116,32,112,97,115,115,32,101,110,100,32,108,101,103,32,116,111,32,100,105,115,116,97,110,99,101,32,103,117,110,32,99,104,105,112,32,115,108,111,116,32,108,97,112,115,32,108,97,112,32,99,117,116,111,102,102,32,101,120,116,114,97,32,119,97,118,101,32,111,102,102,101,110,99,101,32,111,117,116,32,99,97,116,101,103,111,114,121,32,112,114,105,122,101,32,97,108,108,32,116,105,101,115,32,105,102,32,101,108,115,101,32,97,110,100,32,111,114,32,110,111,116,32,111,108,100,101,114,32,121,111,117,110,103,101,114,32,98,105,98,32,100,114,97,119,32,102,105,101,108,100,32,115,104,111,114,116,32,102,97,117,108,116,115,32,109,105,115,115,101,115,32,115,116,114,97,121,115,32,119,105,110,100,111,119,32,114,101,115,105,100,117,97,108,32,100,114,105,102,116,32,112,114,111,116,101,115,116,32,102,101,101,32,100,101,97,100,108,105,110,101,32]
theorem Qnr:kwsOf wordsL=kwL:=by decide+kernel
def classTab:List Int:=(List.range 256).map λi=>if 97<=i/\i<=122\/65<=i/\i<=90 then 2 else if 48<=i/\i<=57 then 3 else if i∈[123,125,40,41,91,93,59,44,61,60,62]then 4 else if i∈[32,9,10,13]then 1 else 0
theorem Qh0:Ev F_er classTab:=by
 unfold F_er;refine Ea (Qca (step:=F_hl 0) 40 (b:=(iter (F_hl 0) 40 (List.replicate 256 0,97)).getD []) (by decide+kernel)) ?_;refine Ea (Qca (step:=F_kb 0) 40 (b:=(iter (F_kb 0) 40 ((iter (F_hl 0) 40 (List.replicate 256 0,97)).getD [],48)).getD []) (by decide+kernel)) ?_;generalize hb:(iter (F_kb 0) 40 ((iter (F_hl 0) 40 (List.replicate 256 0,97)).getD [],48)).getD []=b2;refine Ea (Qca (step:=F_kt 0) 40 (b:=(iter (F_kt 0) 40 (b2,0)).getD []) (by subst hb;decide+kernel)) ?_;refine Ea (Qca (step:=F_lb 0) 40 (b:=classTab) (by subst hb;decide+kernel)) ?_;exact EA (by decide+kernel)
theorem QjE:((List.range 256).all λi=> !okN i||decide (classTab[i]?=some (if okAN i then 2 else if i=95 then 0 else 3)))=true:=by decide+kernel
theorem Qlq{c:UInt8}(h:okC c=true):Qer 256 classTab (c.toNat:Int)=some (if okA c then 2 else if c.toNat=95 then 0 else 3):=by
 have a:=Xs.1 QjE c.toNat (List.mem_range.2 c.toNat_lt);unfold okC at h;rw[h]at a;simp[Xg,Bool.false_or,Vq]at a;unfold Qer;rw[show Nat.beq classTab.length 256=true by decide+kernel,Vo,Qo a];rfl
def goodS(s:List UInt8):Bool:=decide (1<=s.length)&&decide (s.length<=24)&&(s.head?).any okA&&s.all okC
def isNameS(s:List UInt8):Bool:=goodS s&& !kwL.contains s
theorem Qjs(s:List UInt8)(h:goodS s=true):Ev (λn=>F_ep n s) true:=by
 unfold goodS at h;simp only[XW,Vq,Xs]at h;obtain⟨⟨⟨d,j⟩,k⟩,g⟩:=h;unfold F_ep;refine Ea Qh0 ?_;refine Qu (v:=List.replicate 256 0) (by decide+kernel) ?_;refine Qu (v:=classTab) (by decide+kernel) ?_;refine Ea (v:=Ctl.cont ()) (Ev.iter (λi=>(i:Int)) s.length rfl (λi e=>?_) ?_) ?_
 .have a:=Y9 (x:=s[i]) (by omega) (XK e);have f:=g _ a.mem;unfold F_la;simp only[a.lt,Vo,a.ix,XJ,Qlq f,a.nx];cases i with
  |zero=>
   have:okA s[0]=true:=by
    cases s with
    |nil=>simp at d
    |cons c r=>grind
   simp[this];exact Qa _
  |succ i=>
   grind[Qa]
 .simp_all[F_la,Qa]
 .refine EA ?_;cases s with
  |nil=>simp at d
  |cons c r=>rfl
theorem Qjk{s:List UInt8}(h:goodS s=true):∀c∈s,c≠32:=by
 unfold goodS at h;simp[XW,Xs]at h;rintro c a rfl;exact absurd (h.2 _ a) (by decide)
theorem QkH{s:List UInt8}(h:goodS s=true):s.length<=24:=by
 simp_all[goodS]
theorem Qh1(s:List UInt8)(h:goodS s=true):Ev (λn=>F_hg n s) (kwL.contains s):=by
 refine Ea (Ea (Qjs s h) (QaP ?_)) (Qa _);have a:=QkH h;refine Qu (by unfold cat;rw[XS (by simp;omega)];rfl) (Qu (by unfold cat;rw[XS (by simp;omega)];rfl) ?_);refine Qu ?_ (Qa _);show Qet wordsL ([32]++s++[32])=some (kwL.contains s);unfold Qet;rw[show Nat.blt wordsL.length 4294967281=true by decide+kernel,Vo]
 grind[QbR,Qjk,Qnr]
theorem ch_lt(c:UInt8)(k:Nat):decide ((c.toNat:Int)<(k:Int))=decide (c.toNat<k):=by
 simp
theorem badC(c:UInt8):(bif decide ((c.toNat:Int)<97)then(bif decide ((c.toNat:Int)<48)then some ((c.toNat:Int) != 95)else(bif decide (57<(c.toNat:Int))then some ((c.toNat:Int) != 95)else some false))else(bif decide (122<(c.toNat:Int))then(bif decide ((c.toNat:Int)<48)then some ((c.toNat:Int) != 95)else(bif decide (57<(c.toNat:Int))then some ((c.toNat:Int) != 95)else some false))else some false))=some (!okC c):=by
 unfold okC okN;generalize c.toNat=k;have e:((k:Int) != 95)= !decide (k=95):=by
  grind
 grind
theorem Qfr(n:Nat)(s:List UInt8):(bif decide ((s.length:Int)<1)then some true else(bif decide (24<(s.length:Int))then some true else(idx s 0).bind λx10=>(bif decide ((x10.toNat:Int)<97)then some true else(idx s 0).bind λx12=>some (decide (122<(x12.toNat:Int))))))=some (!(decide (1<=s.length)&&decide (s.length<=24)&&(s.head?).any okA)):=by
 cases s with
 |nil=>rfl
 |cons c r=>
  by_cases h:(c::r).length<=24
  .rw[Qy (show¬24<((c::r).length:Int)by omega),Vp];have a:idx (c::r) 0=some c:=rfl;simp[a,XJ];simp[X0]at h;have f:r.length<=23:=by omega
   simp[List.head?_cons,Option.any_some,okA,okAN];rw[show(97:Int)=(97:Nat)from rfl,ch_lt];by_cases e:c.toNat<97
   .grind
   .have d:97<=c.toNat:=by omega
    simp[e,d,f];by_cases q:c.toNat<=122
    iterate 2 grind
  grind
theorem QfC(s:List UInt8)(h:s.length<=1048576):Ev (λn=>F_f n s) (isNameS s):=by
 refine Ea (EA (Qfr 0 s)) ?_;unfold isNameS;cases f:(decide (1<=s.length)&&decide (s.length<=24)&&(s.head?).any okA)with
 |false=>
  have:goodS s=false:=by unfold goodS;rw[f];rfl
  rw[this];exact Qa _
 |true=>
  have g:goodS s=s.all okC:=by unfold goodS;rw[f];rfl
  refine Ea (YX s (λc=> !okC c) (λi=>(i:Int)) (Ctl.done false) (Ctl.cont ()) (by omega) rfl (λi x a d=>?_) (λi x a d=>?_) ?_) ?_
  .unfold F_if;simp only[a.lt,a.ix,XJ,badC,d,a.nx];exact Qa _
  .unfold F_if;simp only[a.lt,a.ix,XJ,badC,d];exact Qa _
  .simp_all[F_if,Qa]
  .rw[g];have e:s.any (λc=> !okC c)= !s.all okC:=by grind
   rw[e];cases q:s.all okC with
   |true=>
    exact Ea (Qh1 s (g.trans q)) (Qa _)
   |false=>
    exact Qa _
theorem Qbr(s:List UInt8)(j:s.length<=1048576):Ev (λn=>F_bz n s) (isNameS s):=by
 refine Ea (EA (Qfr 0 s)) ?_;unfold isNameS;cases d:(decide (1<=s.length)&&decide (s.length<=24)&&(s.head?).any okA)with
 |false=>
  have:goodS s=false:=by unfold goodS;rw[d];rfl
  rw[this];exact Qa _
 |true=>
  have f:goodS s=s.all okC:=by unfold goodS;rw[d];rfl
  cases s with
  |nil=>simp at d
  |cons c r=>
   have g:okC c=true:=by
    simp_all[okA,okC,okN,okAN]
   have hr:=by
    simp[XW,Vq,X0]at d;omega
   have k:∀(i:Nat) (x:UInt8),At r i x->decide (((i+1:Nat):Int)<(c::r).length)=true/\idx (c::r) (i+1:Nat)=some x/\i64.wrap ((i+1:Nat)+1)=i+1+1:=by
    intro i x a;have:=a.lt';exact⟨Vt (by simp;omega),Qo (by simpa using a.get),QU (by omega)⟩
   refine Ea (YX r (λc=> !okC c) (λi=>((i+1:Nat):Int)) (Ctl.done false) (Ctl.cont ()) (by omega) rfl (λi x a h=>?_) (λi x a h=>?_) ?_) ?_
   iterate 2 grind[F_jm,badC,Qa]
   .unfold F_jm;rw[Qy (by simp),Vp];exact Qa _
   .rw[f];have e:r.any (λc=> !okC c)= !(c::r).all okC:=by rw[List.all_cons,g,Vz,List.not_all_eq_any_not]
    rw[e];cases q:(c::r).all okC with
    |true=>
     exact Ea (EA (Qe8 0 _)) (Qa _)
    |false=>
     exact Qa _
def diffS:List (List UInt8)->List (List UInt8)->Bool
 |_,[]=>true
 |seen,x::r=>isNameS x&& !seen.contains x&&diffS (seen++[x]) r
theorem QeO(l:List (List UInt8))(i:Nat)(x:List UInt8)(h:At l i x):diffS (l.take i) (l.drop i)=(isNameS x&& !(l.take i).contains x&&diffS (l.take (i+1)) (l.drop (i+1))):=by
 rw[h.drop,h.take];rfl
theorem QbO{α:Type}(l:List α)(a:α->List UInt8)(g:Nat->α->Option Unit)(hg:∀n x,g n x=some ())(p:l.length<=1048576)(m:∀x∈l,(a x).length<=1048576):
  Ev (λn=>((iter (λs:(List (List UInt8×Bool))×Int=>bif decide (s.2<(l.length:Int))then(idx l s.2).bind λx35=>(g n x35).bind λr36=>((F_f n (a x35)).bind λr42=>(bif (!r42)then some true else(some (QA s.1 (a x35) false)).bind λv44=>some v44):Option Bool).bind λb40=>(bif b40 then some (.done (.done false))else(some (Q2 s.1 (a x35) true)).bind λm46=>some (.cont (m46,i64.wrap (s.2+1))))else some (.done (.cont ()))) n ([],0):Option (Ctl Unit Bool)).bind λb28=>
   match b28 with
   |.cont _=>some true
   |.done s=>some s:Option Bool)) (diffS [] (l.map a)):=by
 have h:l.length<=4611686018427387904:=by omega
 have f:(l.map a).length<=4611686018427387904:=by grind
 have j:=Qbu (B:=Ctl Unit Bool) l (step:=λn s=>bif decide (s.2<(l.length:Int))then(idx l s.2).bind λx35=>(g n x35).bind λr36=>((F_f n (a x35)).bind λr42=>(bif (!r42)then some true else(some (QA s.1 (a x35) false)).bind λv44=>some v44)).bind λb40=>(bif b40 then some (.done (.done false))else(some (Q2 s.1 (a x35) true)).bind λm46=>some (.cont (m46,i64.wrap (s.2+1))))else some (.done (.cont ())))
  (λi=>(Yg a true (l.take i),i)) (λi=>bif diffS ((l.map a).take i) ((l.map a).drop i)then .cont ()else .done false) h rfl (λi x e=>?_) ?_
 .refine Ea j ?_
  grind[Qa]
 .have ha2:=Y9 f (by rw[Xo,e.get];rfl);simp only[QeO _ _ _ ha2];have d:Ev (λn=>(F_f n (a x)).bind λr42=>(bif (!r42)then some true else(some (QA (Yg a true (l.take i)) (a x) false)).bind λv44=>some v44)) (!(isNameS (a x)&& !((l.map a).take i).contains (a x))):=by
   refine Ea (QfC (a x) (m x e.mem)) ?_;cases isNameS (a x)with
   |false=>exact Qa _
   |true=>
    simp_all[Qa,Qdu]
  cases k:(isNameS (a x)&& !((l.map a).take i).contains (a x))with
  |true=>
   rw[k]at d;refine .inl ⟨?_,by simp⟩;simp only[e.lt,e.ix,XJ,hg];refine Ea d ?_;simp[e.nx];rw[e.take,QfY];exact Qa _
  |false=>
   rw[k]at d;refine .inr ?_;simp only[e.lt,e.ix,XJ,hg];refine Ea d ?_;exact Qa _
 .simp[Qao];rw[show(l.map a).drop l.length=[]by simp];exact Qa _
theorem QbT{α:Type}{l:List α}{x:α}(h:l.length<=140737488):app l [x]=some (l++[x]):=QmG l x (by omega)
theorem QdK(l:List (List UInt8))(s:l.length<=1048576)(h:∀x∈l,x.length<=1048576):Ev (λn=>F_q n l) (diffS [] l):=by
 have k:l.length<=4611686018427387904:=by omega
 refine Ea (Qbu l (λi=>(i:Int)) (λi=>bif diffS (l.take i) (l.drop i)then .cont ()else .done false) k rfl (λi x a=>?_) ?_) ?_
 .simp only[QeO _ _ _ a];unfold F_kn;simp only[a.lt,a.ix,XJ];cases f:isNameS x with
  |false=>
   exact .inr (Ea ((Qbr x (h x a.mem)).eq f) (Qa _))
  |true=>
   have r:=a.lt';have inner:Ev (λn=>iter (F_hs n l i) n 0) (bif (l.take i).contains x then Ctl.done (Ctl.done (Ctl.done false))else Ctl.cont ()):=by
    have e:(l.take i).contains x=(l.take i).any λy=>y==x:=by
     grind
    rw[e];have p:(l.take i).length=i:=by simp;omega
    refine YX (l.take i) (λy=>y==x) (λi=>(i:Int)) _ _ (by omega) rfl (λj y d m=>?_) (λj y d m=>?_) ?_
    .have g:=d.lt';have hjg:=by
      have:=d.get;rw[List.getElem?_take]at this;split at this
      .exact this
      .cases this
     unfold F_hs;rw[Qx (show(j:Int)<i by omega)];simp only[Qo hjg,a.ix,XJ,m,d.nx];exact Qa _
    .have g:=d.lt';have hjg:=by
      have:=d.get;rw[List.getElem?_take]at this;split at this
      .exact this
      .cases this
     unfold F_hs;rw[Qx (show j<(i:Int)by omega)];simp only[Qo hjg,a.ix,XJ,m];exact Qa _
    grind[F_hs,Qa]
   cases q:(l.take i).contains x with
   |true=>
    rw[q]at inner;exact .inr (Ea ((Qbr x (h x a.mem)).eq f) (Qt (Ea inner (Qa _))))
   |false=>
    rw[q]at inner;refine .inl ⟨Ea ((Qbr x (h x a.mem)).eq f) (Qt (Ea inner ?_)),by simp⟩;simp only[a.nx];exact Qa _
 .unfold F_kn;simp only[Qao,Xr];exact Qa _
 grind[Qa]
theorem Qac{α β:Type}(l:List α)(f:α->β)(j:l.length<=140737488):Ev (λn=>iter (λs:(List β)×Int=>bif decide (s.2<(l.length:Int))then(idx l s.2).bind λx15=>(app s.1 [f x15]).bind λl16=>some (Ctl.cont (l16,i64.wrap (s.2+1)))else some (Ctl.done s.1)) n (([]:List β),(0:Int))) (l.map f):=by
 have e:∀l:List α,l.foldl (λa x=>a++[f x]) []=l.map f:=by
  intro l;have h:∀(l:List α) (a:List β),l.foldl (λa x=>a++[f x]) a=a++l.map f:=by
   intro l
   induction l with
   |nil=>simp
   |cons x l k=>grind
  grind
 rw[<- e l];refine QaC l (λa x=>a++[f x]) [] (λa i=>(a,(i:Int))) (λa=>a) (by omega) rfl (λi x a d g=>?_) ?_
 .rw[e]at g;have:a.length<=140737488:=by grind
  simp only[d.lt,d.ix,QbT this,d.nx];exact Qa _
 .simp[Qao];exact Qa _
def namesS(c:Course):Bool:=isNameS c.Name&&(diffS [] (c.Mats.map (·.Name))&&(diffS [] (c.Distances.map (·.Name))&&(diffS [] (c.Waves.map (·.Name))&&(diffS [] (c.Offences.map (·.Name))&&diffS [] (c.Categories.map (·.Name))))))
structure CourseOk (c:Course):Prop where
 name:c.Name.length<=1048576
 mats:c.Mats.length<=1048576
 matsN:∀x∈c.Mats,x.Name.length<=1048576
 legs:c.Legs.length<=1048576
 dist:c.Distances.length<=1048576
 distN:∀x∈c.Distances,x.Name.length<=1048576
 cut:∀x∈c.Distances,x.Cutoffs.length<=1048576
 wave:c.Waves.length<=1048576
 waveN:∀x∈c.Waves,x.Name.length<=1048576
 off:c.Offences.length<=1048576
 offN:∀x∈c.Offences,x.Name.length<=1048576
 cat:c.Categories.length<=1048576
 catN:∀x∈c.Categories,x.Name.length<=1048576
 prize:c.Prizes.length<=1048576
theorem Qk3(c:Course)(w:CourseOk c):Ev (λn=>F_ev n c) (namesS c):=by
 refine Ea (Ea (QfC c.Name w.name) (Ei λ_=>?_)) (Qa _);have f:Ev (λn=>F_hc n c.Mats) (diffS [] (c.Mats.map (·.Name))):=by exact QbO c.Mats (·.Name) F_fk (λ_ _=>rfl) w.mats w.matsN
 have a:Ev (λn=>F_hn n c.Distances) (diffS [] (c.Distances.map (·.Name))):=by exact QbO c.Distances (·.Name) F_gm (λ_ _=>rfl) w.dist w.distN
 have e:Ev (λn=>F_fd n c.Waves) (diffS [] (c.Waves.map (·.Name))):=by exact QbO c.Waves (·.Name) F_fu (λ_ _=>rfl) w.wave w.waveN
 have d:Ev (λn=>F_gz n c.Offences) (diffS [] (c.Offences.map (·.Name))):=by exact QbO c.Offences (·.Name) F_fm (λ_ _=>rfl) w.off w.offN
 have g:Ev (λn=>F_ga n c.Categories) (diffS [] (c.Categories.map (·.Name))):=by exact QbO c.Categories (·.Name) F_hp (λ_ _=>rfl) w.cat w.catN
 refine Ea f (Ei λ_=>(Ea a (Ei λ_=>?_)));refine Ea e (Ei λ_=>?_);exact Ea d (Ei (by grind))
structure Short (c:Course):Prop where
 mats:c.Mats.length<=140737488
 dist:c.Distances.length<=140737488
 wave:c.Waves.length<=140737488
 off:c.Offences.length<=140737488
 cat:c.Categories.length<=140737488
theorem Qhc(c:Course)(w:CourseOk c)(s:Short c):Ev (λn=>F_ex n c) (namesS c):=by
 refine Ea (Qac c.Mats (·.Name) s.mats) (Ea (Qac c.Distances (·.Name) s.dist) ?_);refine Ea (Qac c.Waves (·.Name) s.wave) (Ea (Qac c.Offences (·.Name) s.off) ?_);refine Ea (Qac c.Categories (·.Name) s.cat) (Ea ?_ (Qa _));refine Ea (Qbr c.Name w.name) (Ei λ_=>?_);have mk:∀{α:Type} (l:List α) (nm:α->List UInt8),l.length<=1048576->(∀x∈l,(nm x).length<=1048576)->Ev (λn=>F_q n (l.map nm)) (diffS [] (l.map nm)):=by
  simp_all[QdK]
 refine Ea (mk c.Mats (·.Name) w.mats w.matsN) (Ei λ_=>(Ea (mk c.Distances (·.Name) w.dist w.distN) (Ei λ_=>?_)));refine Ea (mk c.Waves (·.Name) w.wave w.waveN) (Ei λ_=>(Ea (mk c.Offences (·.Name) w.off w.offN) (Ei λ_=>?_)));exact Ea (mk c.Categories (·.Name) w.cat w.catN) (Qa _)
theorem QaI{n:Nat}(h:n<=1048576):i64.wrap ((n:Int)-1)=(n:Int)-1:=Qq (by omega) (by omega)
theorem Jr(x lo hi:Int):Ev (λn=>F_b n x lo hi) (inR lo hi x):=by
 exact Ea (Ei λ_=>Qa _) (Qa _)
theorem QeL(c:Course)(w:CourseOk c)(x:Int):Ev (λn=>F_j n c x) (inR 0 ((c.Mats.length:Int)-1) x):=by
 unfold F_j;rw[QaI w.mats];exact Ea (Jr _ _ _) (Qa _)
mutual
def szP:Part->Nat
 |⟨_,_,ps⟩=>1+szPs ps
def szPs:List Part->Nat
 |[]=>0
 |p::r=>szP p+szPs r
end
theorem YD(p:Part):szP p=1+szPs p.Parts:=by cases p;rfl
theorem YS{p:Part}:∀{l:List Part},p∈l->szP p<=szPs l
 |q::r,h=>by
  simp[szPs];rcases X6.1 h with rfl|h
  .omega
  .have:=YS h;omega
mutual
def partS(k:Int):Part->Bool
 |⟨m,laps,ps⟩=>bif laps==0 then inR 0 k m&&((ps.length:Int)==0)else inR 1 64 laps&&((m==0)&&(decide (0<(ps.length:Int))&&partsS k ps))
def partsS(k:Int):List Part->Bool
 |[]=>true
 |p::r=>partS k p&&partsS k r
end
theorem Qa4(k:Int)(p:Part):partS k p=bif p.Laps==0 then inR 0 k p.Mat&&((p.Parts.length:Int)==0)else inR 1 64 p.Laps&&((p.Mat==0)&&(decide (0<(p.Parts.length:Int))&&partsS k p.Parts)):=by cases p;rfl
theorem Y1(k:Int):∀l:List Part,partsS k l=l.all (partS k)
 |[]=>rfl
 |p::r=>by simp[partsS,List.all_cons,Y1 k r]
theorem Yc{p:Part}(h:Part.wf p):p.Parts.length<=1048576/\ ∀x∈p.Parts,Part.wf x:=by
 cases p
 grind[Part.wf,QcX]
theorem QH(lo hi x:Int):Ev (λn=>F_a n lo hi [x]) (inR lo hi x):=(Qfy lo hi [x] (by simp)).eq (by simp)
theorem QaM(lo hi x y:Int):Ev (λn=>F_a n lo hi [x,y]) (inR lo hi x&&inR lo hi y):=(Qfy lo hi [x,y] (by simp)).eq (by simp)
theorem Qk2(k:Int):∀(m:Nat) (l:List Part),szPs l<=m->l.length<=1048576->(∀x∈l,Part.wf x)->Ev (λn=>F_ae n l k) (partsS k l):=by
 intro m
 induction m with
 |zero=>
  intro l e f d;cases l with
  |nil=>
   refine Yy ?_;exact Jg [] (partS k) (λn x=>F_cn (F_ae n) n x k) (by simp) (by simp)
  |cons p r=>
   simp only[szPs,YD]at e;omega
 |succ m j=>
  intro l e f d;refine Yy ?_;rw[Y1];refine Jg l (partS k) (λn x=>F_cn (F_ae n) n x k) (by omega) λp a=>?_;rw[Qa4];have g:=YS a;rw[YD]at g;obtain⟨i,h⟩:=Yc (d p a);refine Qah (λ_=>?_) (λ_=>?_)
  .exact Ea (Ea (QH _ _ _) (Ei λ_=>Qa _)) (Qa _)
  .exact Ea (Ea (QH _ _ _) (Ei λ_=>Ei λ_=>Ei (by grind))) (Qa _)
theorem Qjr(c:Course)(w:CourseOk c):∀(m:Nat) (l:List Part),szPs l<=m->l.length<=1048576->(∀x∈l,Part.wf x)->Ev (λn=>F_t n c l) (partsS ((c.Mats.length:Int)-1) l):=by
 intro m
 induction m with
 |zero=>
  intro l f h e;cases l with
  |nil=>
   refine Yy ?_;show Ev (λn=>B_t (F_t n) n c []) _;exact⟨1,λn u=>by obtain⟨k,rfl⟩:∃k,n=k+1:=⟨n-1,by omega⟩;rfl⟩
  |cons p r=>
   simp only[szPs,YD]at f;omega
 |succ m q=>
  intro l f h e;refine Yy ?_;show Ev (λn=>B_t (F_t n) n c l) _;rw[Y1];have step:∀(i:Nat) (x:Part),At l i x->Ev (λn=>F_hw n c l (F_t n) i) (bif partS (c.Mats.length-1) x then .cont (i+1)else .done (.done false)):=by
   intro i x a;unfold F_hw;simp only[a.lt,a.ix,XJ,a.nx];have t:=YS a.mem;rw[YD]at t;obtain⟨j,g⟩:=Yc (e x a.mem);refine Ea (Ei λ_=>Ea (QeL c w _) (Ei λ_=>Qa _)) (Ea (Ea (Jr _ _ _) (Ei λ_=>Ei λ_=>Ei λ_=>Ea (q x.Parts (by omega) j g) (Qa _))) ?_);rw[Qa4];cases s:(x.Laps==0)with
   |true=>
    have e0:=by simpa using s
    have:inR 1 64 x.Laps=false:=by rw[e0];rfl
    grind[Qa]
   |false=>
    generalize(inR 1 64 x.Laps&&((x.Mat==0)&&(decide (0<(x.Parts.length:Int))&&partsS (c.Mats.length-1) x.Parts)))=b;cases b<;>exact Qa _
  refine Ea (YX l (λx=> !partS (c.Mats.length-1) x) (λi=>(i:Int)) (Ctl.done false) (Ctl.cont ()) (by omega) rfl (λi x a d=>?_) (λi x a d=>?_) ?_) ?_
  .refine(step i x a).eq ?_;have:=by simpa using d
   rw[this];rfl
  .refine(step i x a).eq ?_;have:=by simpa using d
   rw[this];rfl
  .unfold F_hw;simp[Qao];exact Qa _
  grind[Qa]
def legS(k:Int)(l:Leg):Bool:=(inR 0 k l.From&&inR 0 k l.To)&&((inR 0 68719476736 l.Min&&inR 0 68719476736 l.Max)&&decide (l.Min<=l.Max))
def cutS(k:Int)(x:Cutoff):Bool:=inR 0 k x.Mat&&(decide (1<=x.Lap)&&inR 0 1099511627776 x.Limit)
def distS(k:Int)(d:Distance):Bool:=inR 1 3 d.Timing&&(inR (-1) k d.Extra&&(partsS k d.Route&&d.Cutoffs.all (cutS k)))
def offS(o:Offence):Bool:=bif o.Out then(o.Time==0)&&(o.Laps==0)else bif o.Laps != 0 then(o.Time==0)&&inR 1 64 o.Laps else inR 0 68719476736 o.Time
def catS(x:Category):Bool:=(inR 0 120 x.From&&inR 0 120 x.To)&&decide (x.From<=x.To)
def prizeS(c:Course)(p:Prize):Bool:=inR 0 ((c.Distances.length:Int)-1) p.Distance&&(inR (-1) ((c.Categories.length:Int)-1) p.Category&&(inR 1 4000 p.Rank&&inR 1 1125899906842624 p.Amount))
def lastS(c:Course):Bool:=(inR 0 16 c.Faults.Misses&&inR 0 16 c.Faults.Strays)&&((inR 0 4294967296 c.Faults.Window&&inR 0 4294967296 c.Faults.Residual)&&(inR 0 100000 c.Faults.Drift&&(inR 0 1125899906842624 c.Fee&&inR 0 1099511627776 c.Deadline)))
def legKey(l:Leg):Ui:={from_:=l.From,to_:=l.To}
def prizeKey(p:Prize):Uk:={distance:=p.Distance,category:=p.Category,rank:=p.Rank}
def numbersS(c:Course):Bool:=
 let k:=(c.Mats.length:Int)-1
 c.Mats.all (λm=>inR 1 3 m.Kind)&&(c.Legs.all (legS k)&&(decide ((c.Legs.map legKey).Nodup)&&(c.Distances.all (distS k)&&(c.Waves.all (λw=>inR 0 1099511627776 w.Gun)&&(c.Offences.all offS&&(c.Categories.all catS&&(c.Prizes.all (prizeS c)&&(decide ((c.Prizes.map prizeKey).Nodup)&&lastS c))))))))
structure PartsOk (c:Course):Prop where
 len:∀d∈c.Distances,d.Route.length<=1048576
 wf:∀d∈c.Distances,∀x∈d.Route,Part.wf x
theorem Qga(l:List Leg)(d:l.length<=1048576):Ev (λn=>F_fe n l) (decide ((l.map legKey).Nodup)):=by
 refine Ea (Qbv l legKey true (by omega) (λi x m a=>?_) (λm=>?_)) ((Qa _).eq ?_)
 .unfold F_kv F_ez;simp only[a.lt,a.ix,a.nx];exact Qa _
 .simp_all[F_kv,Qa]
 .rw[XY];simp[Vx,Vq]
  grind[Qcc]
theorem QeK(l:List Prize)(d:l.length<=1048576):Ev (λn=>F_fr n l) (decide ((l.map prizeKey).Nodup)):=by
 refine Ea (Qbv l prizeKey true (by omega) (λi x m a=>?_) (λm=>?_)) ((Qa _).eq ?_)
 .unfold F_ku F_gc;simp only[a.lt,a.ix,a.nx];exact Qa _
 .simp_all[F_ku,Qa]
 .rw[XY];simp[Vx,Vq]
  grind[Qcc]
theorem QhV(c:Course)(w:CourseOk c)(q:PartsOk c):Ev (λn=>F_eg n c) (numbersS c):=by
 unfold F_eg numbersS;rw[QaI w.mats];refine Ea (v:=_) ?_ (Qa _);have k:Ev (λn=>F_ds n c.Mats) (c.Mats.all λm=>inR 1 3 m.Kind):=by
  unfold F_ds F_fb F_hm;refine Jg c.Mats _ (λn x=>F_dp n x) (by have:=w.mats;omega) λx a=>?_;unfold F_dp;exact Ea (QH _ _ _) (Qa _)
 have e:Ev (λn=>F_du n c.Legs ((c.Mats.length:Int)-1)) (c.Legs.all (legS ((c.Mats.length:Int)-1))):=by
  unfold F_du F_gf F_gb;refine Jg c.Legs _ (λn x=>F_dw n x _) (by have:=w.legs;omega) λx a=>?_;unfold F_dw;exact Ea (Ea (QaM _ _ _ _) (Ei λ_=>Ea (QaM _ _ _ _) (Ei λ_=>Qa _))) (Qa _)
 have h:Ev (λn=>F_dh n c.Distances ((c.Mats.length:Int)-1)) (c.Distances.all (distS ((c.Mats.length:Int)-1))):=by
  unfold F_dh F_fh F_fl;refine Jg c.Distances _ (λn x=>F_dc n x _) (by have:=w.dist;omega) λx a=>?_;unfold F_dc;have g:Ev (λn=>F_dk n x.Cutoffs ((c.Mats.length:Int)-1)) (x.Cutoffs.all (cutS ((c.Mats.length:Int)-1))):=by
   unfold F_dk F_gw F_ft;refine Jg x.Cutoffs _ (λn x=>F_cu n x _) (by have:=w.cut x a;omega) λy l=>?_;unfold F_cu;exact Ea (Ea (QH _ _ _) (Ei λ_=>Ei λ_=>Ea (QH _ _ _) (Qa _))) (Qa _)
  exact Ea (Ea (QH _ _ _) (Ei λ_=>Ea (QH _ _ _) (Ei λ_=>Ea (Qk2 _ _ x.Route (XT _) (q.len x a) (q.wf x a)) (Ei λ_=>Ea g (Qa _))))) (Qa _)
 have i:Ev (λn=>F_dv n c.Waves) (c.Waves.all λw=>inR 0 1099511627776 w.Gun):=by
  unfold F_dv F_hk F_gn;refine Jg c.Waves _ (λn x=>F_ee n x) (by have:=w.wave;omega) λx a=>?_;unfold F_ee;exact Ea (QH _ _ _) (Qa _)
 have f:Ev (λn=>F_dy n c.Offences) (c.Offences.all offS):=by
  unfold F_dy F_fx F_gj;refine Jg c.Offences _ (λn x=>F_cp n x) (by have:=w.off;omega) λx a=>?_;unfold F_cp offS;refine Qah (λ_=>Ea (Ei λ_=>Qa _) (Qa _)) λ_=>Qah (λ_=>Ea (Ei λ_=>Ea (QH _ _ _) (Qa _)) (Qa _)) λ_=>Ea (QH _ _ _) (Qa _)
 have j:Ev (λn=>F_ed n c.Categories) (c.Categories.all catS):=by
  unfold F_ed F_fy F_gy;refine Jg c.Categories _ (λn x=>F_eh n x) (by have:=w.cat;omega) λx a=>?_;unfold F_eh;exact Ea (Ea (QaM _ _ _ _) (Ei λ_=>Qa _)) (Qa _)
 have d:Ev (λn=>F_ef n c.Prizes c) (c.Prizes.all (prizeS c)):=by
  unfold F_ef F_ht F_ge;refine Jg c.Prizes _ (λn x=>F_dg n x c) (by have:=w.prize;omega) λx a=>?_;unfold F_dg;rw[QaI w.dist,QaI w.cat];exact Ea (Ea (QH _ _ _) (Ei λ_=>Ea (QH _ _ _) (Ei λ_=>Ea (QH _ _ _) (Ei λ_=>Ea (QH _ _ _) (Qa _))))) (Qa _)
 refine Ea k (Ei λ_=>Ea e (Ei λ_=>Ea (Qga _ w.legs) (Ei λ_=>Ea h (Ei λ_=>Ea i (Ei λ_=>Ea f (Ei λ_=>Ea j (Ei λ_=>Ea d (Ei λ_=>Ea (QeK _ w.prize) (Ei λ_=>?_)))))))));exact Ea (QaM _ _ _ _) (Ei λ_=>Ea (QaM _ _ _ _) (Ei λ_=>Ea (QH _ _ _) (Ei λ_=>Ea (QH _ _ _) (Ei λ_=>Ea (QH _ _ _) (Qa _)))))
theorem ends_eq{a b a' d:Int}:(({from_:=a,to_:=b}:Ui)={from_:=a',to_:=d})↔a=a'/\b=d:=by simp
theorem QeJ(c:Course)(w:CourseOk c)(d:Distance)(h:d.Route.length<=1048576)(j:∀x∈d.Route,Part.wf x)(m:d.Cutoffs.length<=1048576):Ev (λn=>F_gu n c d) (distS ((c.Mats.length:Int)-1) d):=by
 have step:∀(i:Nat) (x:Cutoff),At d.Cutoffs i x->Ev (λn=>F_jo n c d i) (bif cutS (c.Mats.length-1) x then .cont (i+1)else .done (.done false)):=by
  intro i x a;unfold F_jo;simp only[a.lt,a.ix,XJ,a.nx];have:Ev (λn=>(F_j n c x.Mat).bind λg=>(bif (!g)then some true else(bif decide (x.Lap<1)then some true else(F_b n x.Limit 0 1099511627776).bind λf=>some (!f)))) (!cutS (c.Mats.length-1) x):=by
   refine Ea (QeL c w _) (Ew (Qh λ_=>Qh λ_=>Ea (Jr _ _ _) (Qa _)) ?_)
   grind[cutS]
  refine Ea this ?_
  grind[Qa]
 refine Ea (YX d.Cutoffs (λx=> !cutS (c.Mats.length-1) x) (λi=>(i:Int)) (Ctl.done false) (Ctl.cont ()) (by omega) rfl (λi x a k=>?_) (λi x a k=>?_) ?_) ?_
 .grind
 .grind
 .simp_all[F_jo,Qa]
 .have e:d.Cutoffs.any (λx=> !cutS (c.Mats.length-1) x)= !d.Cutoffs.all (cutS (c.Mats.length-1)):=by grind
  rw[e];unfold distS;have l:inR (-1) (c.Mats.length-1) d.Extra=((d.Extra== -1)||inR 0 (c.Mats.length-1) d.Extra):=by
   unfold inR
   grind
  cases d.Cutoffs.all (cutS (c.Mats.length-1))with
  |false=>
   simp[Bool.and_false];exact Qa _
  |true=>
   simp only[Bool.and_true];refine Ea (Ea (Jr _ _ _) ((Ei λ_=>Ea (Qjr c w _ d.Route (XT _) h j) (Ei λ_=>Qh λ_=>Ea (QeL c w _) (Qa _))).eq ?_)) (Qa _)
   grind
theorem Q9{α B:Type}{step:Nat->Int->Option (Ctl Int B)}(l:List α)(ok:α->Bool)(a b:B)(g:l.length<=4611686018427387904)
  (j:∀i x,At l i x->Ev (λn=>step n (i:Int)) (bif ok x then .cont ((i+1:Nat):Int)else .done a))(d:Ev (λn=>step n (l.length:Int)) (.done b)):
  Ev (λn=>Go.Sw.iter (step n) n 0) (bif l.all ok then b else a):=by
 have e:(bif l.all ok then b else a)=bif l.any (λx=> !ok x)then a else b:=by
  grind
 rw[e];refine YX l (λx=> !ok x) (λi=>(i:Int)) a b g rfl (λi x f h=>?_) (λi x f h=>?_) d
 .grind
 grind
theorem Qf7(c:Course)(w:CourseOk c)(q:PartsOk c):Ev (λn=>F_ek n c) (numbersS c):=by
 unfold F_ek numbersS;have O:Ev (λn=>iter (F_jl n c) n 0) (bif c.Mats.all (λm=>inR 1 3 m.Kind)then Ctl.cont ()else Ctl.done false):=by
  refine Q9 c.Mats _ _ _ (by have:=w.mats;omega) (λi x a=>?_) ?_
  .unfold F_jl;simp only[a.lt,Vo,a.ix,XJ,a.nx];refine Ea (Jr _ _ _) ?_;cases inR 1 3 x.Kind<;>exact Qa _
  simp_all[F_jl,Qa]
 have N:Ev (λn=>iter (F_eo n c) n 0) (bif c.Legs.all (legS ((c.Mats.length:Int)-1))&&decide ((c.Legs.map legKey).Nodup)then Ctl.cont ()else Ctl.done false):=by
  have first:∀x:Leg,Ev (λn=>((F_j n c x.From).bind λB=>(bif (!B)then some true else(F_j n c x.To).bind λr=>(bif (!r)then some true else(bif decide (x.Min<0)then some true else(bif decide (x.Max<x.Min)then some true else some (decide (68719476736<x.Max)))))):Option Bool)) (!legS ((c.Mats.length:Int)-1) x):=by
   intro x;refine Ea (QeL c w _) (Ew (Qh λ_=>Ea (QeL c w _) (Qh λ_=>Qh λ_=>Qh λ_=>Qa _)) ?_);unfold legS inR
   grind
  have inner:∀(i:Nat) (x:Leg),At c.Legs i x->Ev (λn=>iter (F_hd n c (i:Int) x) n 0) (bif ((c.Legs.take i).map legKey).contains (legKey x)then Ctl.done (Ctl.done (Ctl.done false))else Ctl.cont ()):=by
   intro i x a;have E:=a.lt';refine Qhx c.Legs i legKey (legKey x) _ _ (by have:=w.legs;omega) (by omega) (λj y F k g=>?_) (λj y F k g=>?_) ?_
   .unfold F_hd;rw[Qx (show(j:Int)<(i:Int)by omega)];simp only[Vo,k.ix,XJ,k.nx];have h:¬(y.From=x.From/\y.To=x.To):=by simpa[legKey]using g
    refine Ea (Ei λ_=>Qa _) ?_;have e:((y.From==x.From)&&(y.To==x.To))=false:=by
     grind
    rw[e];exact Qa _
   .unfold F_hd;rw[Qx (show(j:Int)<(i:Int)by omega)];simp only[Vo,k.ix,XJ,k.nx]
    simp_all[legKey,Qa]
   grind[F_hd,Qa]
  refine QlN c.Legs (legS ((c.Mats.length:Int)-1)) legKey _ _ (by have:=w.legs;omega) (λi x a d g=>?_) (λi x a d=>?_) (λi x a d g=>?_) ?_
  .unfold F_eo;simp only[a.lt,Vo,a.ix,XJ,a.nx];have f:=first x;rw[d]at f
   have l:=inner i x a;rw[g]at l;exact Ea f (Qt (Ea l (Qa _)))
  .unfold F_eo;simp only[a.lt,Vo,a.ix,XJ,a.nx];have f:=first x;rw[d]at f
   exact Ea f (Qa _)
  .unfold F_eo;simp only[a.lt,Vo,a.ix,XJ,a.nx];have f:=first x;rw[d]at f
   have l:=inner i x a;rw[g]at l;exact Ea f (Qt (Ea l (Qa _)))
  simp_all[F_eo,Qa]
 have J:Ev (λn=>iter (F_ik n c) n 0) (bif c.Distances.all (distS ((c.Mats.length:Int)-1))then Ctl.cont ()else Ctl.done false):=by
  refine Q9 c.Distances _ _ _ (by have:=w.dist;omega) (λi x a=>?_) ?_
  .unfold F_ik;simp only[a.lt,Vo,a.ix,XJ,a.nx];refine Ea (QeJ c w x (q.len x a.mem) (q.wf x a.mem) (w.cut x a.mem)) ?_;cases distS ((c.Mats.length:Int)-1) x<;>exact Qa _
  .unfold F_ik;simp only[Qao,Vp];exact Qa _
 have L:Ev (λn=>iter (F_hu n c) n 0) (bif c.Waves.all (λw=>inR 0 1099511627776 w.Gun)then Ctl.cont ()else Ctl.done false):=by
  refine Q9 c.Waves _ _ _ (by have:=w.wave;omega) (λi x a=>?_) ?_
  .unfold F_hu;simp only[a.lt,Vo,a.ix,XJ,a.nx];refine Ea (Jr _ _ _) ?_;cases inR 0 1099511627776 x.Gun<;>exact Qa _
  .unfold F_hu;simp only[Qao,Vp];exact Qa _
 have H:Ev (λn=>iter (F_js n c) n 0) (bif c.Offences.all offS then Ctl.cont ()else Ctl.done false):=by
  refine Q9 c.Offences _ _ _ (by have:=w.off;omega) (λi x a=>?_) ?_
  .unfold F_js;simp only[a.lt,Vo,a.ix,XJ,a.nx];refine Ea (Ea (Jr _ _ _) (Ei λ_=>Ei λ_=>Qa _)) ?_;refine Ea (Ei λ_=>Ea (Jr _ _ _) (Ei λ_=>Qa _)) ?_;refine Ea (Ei λ_=>Ei λ_=>Qa _) ?_;refine Ea (Ei λ_=>Ei λ_=>Qa _) ?_;have e:offS x= !(!(inR 0 68719476736 x.Time&&((x.Laps==0)&& !x.Out))&&(!((x.Time==0)&&(inR 1 64 x.Laps&& !x.Out))&& !((x.Time==0)&&((x.Laps==0)&&x.Out)))):=by
    unfold offS inR;cases x.Out with
    |true=>
     rw[XY];simp
    |false=>
     by_cases h:x.Laps=0
     iterate 2 rw[XY];simp[h]
   rw[e];generalize(!(inR 0 68719476736 x.Time&&((x.Laps==0)&& !x.Out))&&(!((x.Time==0)&&(inR 1 64 x.Laps&& !x.Out))&& !((x.Time==0)&&((x.Laps==0)&&x.Out))))=b;cases b<;>exact Qa _
  .unfold F_js;simp only[Qao,Vp];exact Qa _
 have M:Ev (λn=>iter (F_kf n c) n 0) (bif c.Categories.all catS then Ctl.cont ()else Ctl.done false):=by
  refine Q9 c.Categories _ _ _ (by have:=w.cat;omega) (λi x a=>?_) ?_
  .unfold F_kf;simp only[a.lt,Vo,a.ix,XJ,a.nx];refine Ea (Qh λ_=>Qh λ_=>Qa _) ?_;have e:(decide (x.From<0)||(decide (x.To<x.From)||decide (120<x.To)))= !catS x:=by
    unfold catS inR;rw[XY];simp;omega
   rw[e];cases catS x<;>exact Qa _
  .unfold F_kf;simp only[Qao,Vp];exact Qa _
 have G:Ev (λn=>iter (F_df n c) n 0) (bif c.Prizes.all (prizeS c)&&decide ((c.Prizes.map prizeKey).Nodup)then Ctl.cont ()else Ctl.done false):=by
  have first:∀x:Prize,Ev (λn=>((F_b n x.Distance 0 (i64.wrap ((c.Distances.length:Int)-1))).bind λu=>(bif (!u)then some true else(F_b n x.Category (-1) (i64.wrap ((c.Categories.length:Int)-1))).bind λs=>(bif (!s)then some true else(F_b n x.Rank 1 4000).bind λt=>(bif (!t)then some true else(F_b n x.Amount 1 1125899906842624).bind λp=>some (!p)))):Option Bool)) (!prizeS c x):=by
   intro x;rw[QaI w.dist,QaI w.cat];refine Ea (Jr _ _ _) (Ew (Qh λ_=>Ea (Jr _ _ _) (Qh λ_=>Ea (Jr _ _ _) (Qh λ_=>Ea (Jr _ _ _) (Qa _)))) ?_);unfold prizeS;simp only[Bool.not_and]
  have inner:∀(i:Nat) (x:Prize),At c.Prizes i x->Ev (λn=>iter (F_fz n c (i:Int) x) n 0) (bif ((c.Prizes.take i).map prizeKey).contains (prizeKey x)then Ctl.done (Ctl.done (Ctl.done false))else Ctl.cont ()):=by
   intro i x a;have E:=a.lt';refine Qhx c.Prizes i prizeKey (prizeKey x) _ _ (by have:=w.prize;omega) (by omega) (λj y F k g=>?_) (λj y F k g=>?_) ?_
   .unfold F_fz;rw[Qx (show(j:Int)<(i:Int)by omega)];simp only[Vo,k.ix,XJ,k.nx];have h:¬(y.Distance=x.Distance/\y.Category=x.Category/\y.Rank=x.Rank):=by simpa[prizeKey]using g
    refine Ea (Ei λ_=>Ei λ_=>Qa _) ?_;have e:((y.Distance==x.Distance)&&((y.Category==x.Category)&&(y.Rank==x.Rank)))=false:=by
     rw[VL];intro z;exact h (by simpa using z)
    rw[e];exact Qa _
   .unfold F_fz;rw[Qx (show(j:Int)<(i:Int)by omega)];simp only[Vo,k.ix,XJ,k.nx];have h:(y.Distance=x.Distance/\y.Category=x.Category/\y.Rank=x.Rank):=by simpa[prizeKey]using g
    refine Ea (Ei λ_=>Ei λ_=>Qa _) ?_;have e:((y.Distance==x.Distance)&&((y.Category==x.Category)&&(y.Rank==x.Rank)))=true:=by simpa using h
    rw[e];exact Qa _
   .unfold F_fz;rw[Qy (show¬(i:Int)<(i:Int)by omega)];exact Qa _
  refine QlN c.Prizes (prizeS c) prizeKey _ _ (by have:=w.prize;omega) (λi x a d g=>?_) (λi x a d=>?_) (λi x a d g=>?_) ?_
  .unfold F_df;simp only[a.lt,Vo,a.ix,XJ,a.nx];have f:=first x;rw[d]at f
   have l:=inner i x a;rw[g]at l;exact Ea f (Qt (Ea l (Qa _)))
  .unfold F_df;simp only[a.lt,Vo,a.ix,XJ,a.nx];have f:=first x;rw[d]at f
   exact Ea f (Qa _)
  .unfold F_df;simp only[a.lt,Vo,a.ix,XJ,a.nx];have f:=first x;rw[d]at f
   have l:=inner i x a;rw[g]at l;exact Ea f (Qt (Ea l (Qa _)))
  .unfold F_df;simp only[Qao,Vp];exact Qa _
 refine Ea O ?_;cases c.Mats.all (λm=>inR 1 3 m.Kind)with
 |false=>exact Qa _
 |true=>
 refine Ea N ?_;simp only[Vz];rw[<- Bool.and_assoc];cases(c.Legs.all (legS ((c.Mats.length:Int)-1))&&decide ((c.Legs.map legKey).Nodup))with
 |false=>exact Qa _
 |true=>
 refine Ea J ?_;simp only[Vz];cases c.Distances.all (distS ((c.Mats.length:Int)-1))with
 |false=>exact Qa _
 |true=>
 refine Ea L ?_;simp only[Vz];cases c.Waves.all (λw=>inR 0 1099511627776 w.Gun)with
 |false=>exact Qa _
 |true=>
 refine Ea H ?_;simp only[Vz];cases c.Offences.all offS with
 |false=>exact Qa _
 |true=>
 refine Ea M ?_;simp only[Vz];cases c.Categories.all catS with
 |false=>exact Qa _
 |true=>
 refine Ea G ?_;simp only[Vz];rw[<- Bool.and_assoc];cases(c.Prizes.all (prizeS c)&&decide ((c.Prizes.map prizeKey).Nodup))with
 |false=>exact Qa _
 |true=>
 simp only[Vz];refine Ea (v:=lastS c) ?_ (Qa _);refine Ea (Jr _ _ _) ((Ei λ_=>Ea (Jr _ _ _) (Ei λ_=>Ea (Jr _ _ _) (Ei λ_=>Ea (Jr _ _ _) (Ei λ_=>Ea (Jr _ _ _) (Ei λ_=>Ea (Jr _ _ _) (Ei λ_=>Ea (Jr _ _ _) (Qa _))))))).eq ?_);unfold lastS;simp only[Bool.and_assoc]
mutual
def cN:Cond->Nat
 |⟨_,_,_,ps⟩=>1+cNs ps
def cNs:List Cond->Nat
 |[]=>0
 |c::r=>cN c+cNs r
end
theorem QbS(c:Cond):cN c=1+cNs c.Parts:=by cases c;rfl
mutual
def cD:Nat->Cond->Bool
 |d,⟨_,_,_,ps⟩=>cDs d ps
def cDs:Nat->List Cond->Bool
 |_,[]=>true
 |d,c::r=>decide (d<=16)&&(cD (d+1) c&&cDs d r)
end
theorem QiQ(d:Nat)(c:Cond):cD d c=cDs d c.Parts:=by cases c;rfl
def zeroC(c:Cond):Bool:=(c.Kind==0)&&((c.Var==0)&&((c.N==0)&&((c.Parts.length:Int)==0)))
mutual
def sNp:Step->Nat
 |⟨_,_,_,t,e⟩=>1+sNs t+sNs e
def sNs:List Step->Nat
 |[]=>0
 |s::r=>sNp s+sNs r
end
theorem Qfk(s:Step):sNp s=1+sNs s.Then+sNs s.Else:=by cases s;rfl
mutual
def sC:Step->Nat
 |⟨_,_,c,t,e⟩=>(bif zeroC c then 0 else cN c)+sCs t+sCs e
def sCs:List Step->Nat
 |[]=>0
 |s::r=>sC s+sCs r
end
theorem Qeb(s:Step):sC s=(bif zeroC s.Cond then 0 else cN s.Cond)+sCs s.Then+sCs s.Else:=by cases s;rfl
mutual
def sDp:Nat->Step->Bool
 |d,⟨_,_,c,t,e⟩=>(zeroC c||cD 1 c)&&(sDs d t&&sDs d e)
def sDs:Nat->List Step->Bool
 |_,[]=>true
 |d,s::r=>decide (d<=16)&&(sDp (d+1) s&&sDs d r)
end
theorem QgC(d:Nat)(s:Step):sDp d s=((zeroC s.Cond||cD 1 s.Cond)&&(sDs d s.Then&&sDs d s.Else)):=by cases s;rfl
mutual
def sZ:Step->Nat
 |⟨_,_,c,t,e⟩=>2+cN c+sZs t+sZs e
def sZs:List Step->Nat
 |[]=>0
 |s::r=>sZ s+sZs r
end
theorem Qfj(s:Step):sZ s=2+cN s.Cond+sZs s.Then+sZs s.Else:=by cases s;rfl
def fS:Uj->Nat
 |.ctyping_step x=>sNp x.Step
 |.ctyping_cond _=>0
def fC:Uj->Nat
 |.ctyping_step x=>sC x.Step
 |.ctyping_cond x=>cN x.Cond
def fD(d:Nat):Uj->Bool
 |.ctyping_step x=>sDp d x.Step
 |.ctyping_cond x=>cD d x.Cond
def fZ:Uj->Nat
 |.ctyping_step x=>sZ x.Step
 |.ctyping_cond x=>cN x.Cond
def fSs(l:List Uj):Nat:=(l.map fS).sum
def fCs(l:List Uj):Nat:=(l.map fC).sum
def fZs(l:List Uj):Nat:=(l.map fZ).sum
def fwf:Uj->Prop
 |.ctyping_step x=>Step.wf x.Step
 |.ctyping_cond x=>Cond.wf x.Cond
def ofStep(s:Step):Uj:=.ctyping_step {Step:=s}
def ofCond(c:Cond):Uj:=.ctyping_cond {Cond:=c}
theorem Qa9:∀l:List Step,fSs (l.map ofStep)=sNs l
 |[]=>rfl
 |s::r=>by
  have:=Qa9 r;simp[fSs,Vj,List.sum_cons]at this⊢;rw[this];rfl
theorem Qba:∀l:List Step,fCs (l.map ofStep)=sCs l
 |[]=>rfl
 |s::r=>by
  have:=Qba r;simp[fCs,Vj,List.sum_cons]at this⊢;rw[this];rfl
theorem QbN:∀l:List Step,fZs (l.map ofStep)=sZs l
 |[]=>rfl
 |s::r=>by
  have:=QbN r;simp[fZs,Vj,List.sum_cons]at this⊢;rw[this];rfl
theorem Qez:∀l:List Cond,fSs (l.map ofCond)=0
 |[]=>rfl
 |s::r=>by
  have:=Qez r;simp only[fSs,Vj,List.sum_cons]at this⊢;rw[this];rfl
theorem QeB:∀l:List Cond,fCs (l.map ofCond)=cNs l
 |[]=>rfl
 |s::r=>by
  have:=QeB r;simp[fCs,Vj,List.sum_cons]at this⊢;rw[this];rfl
theorem Qex:∀l:List Cond,fZs (l.map ofCond)=cNs l
 |[]=>rfl
 |s::r=>by
  have:=Qex r;simp[fZs,Vj,List.sum_cons]at this⊢;rw[this];rfl
theorem QcK(d:Nat):∀l:List Step,sDs d l=((l.map ofStep).isEmpty||(decide (d<=16)&&(l.map ofStep).all (fD (d+1))))
 |[]=>rfl
 |s::r=>by
  rw[sDs,QcK d r];simp[Vj,List.all_cons];rw[show fD (d+1) (ofStep s)=sDp (d+1) s from rfl]
  grind
theorem Qg4(d:Nat):∀l:List Cond,cDs d l=((l.map ofCond).isEmpty||(decide (d<=16)&&(l.map ofCond).all (fD (d+1))))
 |[]=>rfl
 |s::r=>by
  rw[cDs,Qg4 d r];simp[Vj,List.all_cons];rw[show fD (d+1) (ofCond s)=cD (d+1) s from rfl]
  grind
theorem Jc{c:Cond}(h:Cond.wf c):c.Parts.length<=1048576/\ ∀x∈c.Parts,Cond.wf x:=by
 cases c
 grind[Cond.wf,Qc3]
theorem Ja{s:Step}(h:Step.wf s):Cond.wf s.Cond/\(s.Then.length<=1048576/\ ∀x∈s.Then,Step.wf x)/\(s.Else.length<=1048576/\ ∀x∈s.Else,Step.wf x):=by
 cases s
 grind[Step.wf,QcT]
theorem QfB(n:Nat)(c:Cond):F_al n {Cond:=c}=some (zeroC c):=by
 unfold F_al zeroC
 grind
theorem QeH(n:Nat)(c:Cond):F_bg n c=some (zeroC c):=by
 unfold F_bg zeroC
 grind
theorem QeD(l:List Step)(a:l.length<=140737488):Ev (λn=>F_be n l) (l.map ofStep):=by
 exact Ea (Qac l ofStep a) (Qa _)
theorem Qla(l:List Cond)(a:l.length<=140737488):Ev (λn=>F_hi n l) (l.map ofCond):=by
 exact Ea (Qac l ofCond a) (Qa _)
def stepParts(s:Step):List Uj:=s.Then.map ofStep++s.Else.map ofStep
theorem Qbp(s:Step)(h:Step.wf s):Ev (λn=>F_af n {Step:=s}) (stepParts s):=by
 obtain⟨_,⟨d,_⟩,⟨a,_⟩⟩:=Ja h;refine Ea (QeD s.Then (by omega)) (Ea (QeD s.Else (by omega)) (Qu (QaN _ _ (by simp;omega)) (Qa _)))
theorem QcN(c:Cond)(h:Cond.wf c):Ev (λn=>F_aa n {Cond:=c}) (c.Parts.map ofCond):=by
 obtain⟨a,_⟩:=Jc h;exact Ea (Qla c.Parts (by omega)) (Qa _)
def okL(l:List Uj)(d:Nat)(st co:Int):Bool:=l.isEmpty||(decide (d<=16)&&(l.all (fD (d+1))&&(decide (st+fSs l<=64)&&decide (co+fCs l<=256))))
def okR(l:List Uj)(d:Nat)(st co:Int):Bool:=l.isEmpty||(l.all (fD (d+1))&&(decide (st+fSs l<=64)&&decide (co+fCs l<=256)))
def okF(f:Uj)(d:Nat)(st co:Int):Bool:=fD (d+1) f&&(decide (st+fS f<=64)&&decide (co+fC f<=256))
theorem Qg3(f:Uj)(l:List Uj):fSs (f::l)=fS f+fSs l:=rfl
theorem Qg5(f:Uj)(l:List Uj):fCs (f::l)=fC f+fCs l:=rfl
theorem Qg2(f:Uj)(l:List Uj):fZs (f::l)=fZ f+fZs l:=rfl
theorem Qey(l m:List Uj):fSs (l++m)=fSs l+fSs m:=by simp[fSs]
theorem QeA(l m:List Uj):fCs (l++m)=fCs l+fCs m:=by simp[fCs]
theorem Qew(l m:List Uj):fZs (l++m)=fZs l+fZs m:=by simp[fZs]
theorem Qkt(f:Uj)(r:List Uj)(d:Nat)(e a:Int):okR (f::r) d e a=(okF f d e a&&okR r d (e+fS f) (a+fC f)):=by
 unfold okR okF;rw[Qg3,Qg5];cases r with
 |nil=>simp[fSs,fCs]
 |cons g r=>
  grind
theorem QfX(l:List Uj)(d:Nat)(a e:Int)(h:a<=64)(g:e<=256):okL l d a e=true↔(l.isEmpty||(decide (d<=16)&&l.all (fD (d+1))))=true/\a+fSs l<=64/\e+fCs l<=256:=by
 unfold okL;cases l with
 |nil=>simp[fSs,fCs,h,g]
 |cons f r=>
  grind
theorem Qd6(s:Step)(d:Nat):((stepParts s).isEmpty||(decide (d<=16)&&(stepParts s).all (fD (d+1))))=(sDs d s.Then&&sDs d s.Else):=by
 rw[QcK,QcK];unfold stepParts;rw[List.all_append];cases e:s.Then<;>cases a:s.Else<;>simp<;>(grind)
def Cnt(R:Nat->List Uj->Int->Uh->Option (Uh×Bool))(l:List Uj)(d:Nat)(st co:Int):Prop:=
 ∃c':Uh,Ev (λn=>R n l (d:Int) {steps:=st,conds:=co}) (c',okL l d st co)/\(okL l d st co=true->c'={steps:=st+fSs l,conds:=co+fCs l})
theorem Qh3{R:Nat->List Uj->Int->Uh->Option (Uh×Bool)}{l:List Uj}{d:Nat}(hd:d<=16){i:Nat}{f:Uj}(ha:At l i f)(hw:fwf f)
  (T:∀l' d' a e,fZs l'<fZ f->l'.length<=2097152->(∀f∈l',fwf f)->d'<=17->0<=a->a<=66->(a<=65\/ ∀f∈l',∃c,f=ofCond c)->0<=e->e<=256->Cnt R l' d' a e){a e:Int}(h0:0<=a)(aa:a<=66)(F:a<=65\/ ∃c,f=ofCond c)(h2:0<=e)(h3:e<=256):
  ∃c':Uh,Ev (λn=>F_fq n l (d:Int) (R n) ({steps:=a,conds:=e},(i:Int))) (bif okF f d a e then .cont (c',((i+1:Nat):Int))else .done (.done (c',false)))/\(okF f d a e=true->c'={steps:=a+fS f,conds:=e+fC f}):=by
 unfold F_fq;simp only[ha.lt,Vo,ha.ix,XJ,ha.nx];have ed:i64.wrap ((d:Int)+1)=((d+1:Nat):Int):=QU (by omega);cases f with
 |ctyping_step x=>
  obtain⟨s⟩:=x;have h1:a<=65:=by
   rcases F with h|⟨c,h⟩
   .exact h
   .cases h
  have k:Step.wf s:=hw;obtain⟨wc,⟨ac,L⟩,⟨ad,Q⟩⟩:=Ja k;have P:i64.wrap (a+1)=a+1:=Qq (by omega) (by omega);simp only[Uj.elim,QfB,XJ,P];have hc:∃t:Uh,Ev (λn=>((bif (!zeroC s.Cond)then(R n [Uj.ctyping_cond {Cond:=s.Cond}] 0 {steps:=a+1,conds:=e}).bind λm=>some (m.1,(!m.2))else some ({steps:=a+1,conds:=e},false)):Option (Uh×Bool))) (t, !(zeroC s.Cond||(cD 1 s.Cond&&(decide (a+1<=64)&&decide (e+cN s.Cond<=256)))))/\
    ((zeroC s.Cond||(cD 1 s.Cond&&(decide (a+1<=64)&&decide (e+cN s.Cond<=256))))=true->t={steps:=a+1,conds:=e+((bif zeroC s.Cond then 0 else cN s.Cond:Nat):Int)}):=by
   cases E:zeroC s.Cond with
   |true=>
    simp_all[Qa]
   |false=>
    obtain⟨t,p,H⟩:=T [ofCond s.Cond] 0 (a+1) e (by simp only[fZs,Vj,Vk,List.sum_cons,List.sum_nil];show cN s.Cond+0<sZ s;rw[Qfj];omega) (by simp) (by intro g j;simp only[VA]at j;subst j;exact wc) (by omega) (by omega) (by omega) (.inr (by intro g j;simp only[VA]at j;exact⟨_,j⟩)) h2 h3;have ek:okL [ofCond s.Cond] 0 (a+1) e=(cD 1 s.Cond&&(decide (a+1<=64)&&decide (e+cN s.Cond<=256))):=by
     unfold okL;simp only[List.isEmpty_cons,Bool.false_or,List.all_cons,List.all_nil,Bool.and_true,fSs,fCs,Vj,Vk,List.sum_cons,List.sum_nil];rw[show fD (0+1) (ofCond s.Cond)=cD 1 s.Cond from rfl,show fS (ofCond s.Cond)=0 from rfl,show fC (ofCond s.Cond)=cN s.Cond from rfl];simp
    rw[ek]at p H;refine⟨t,Ea p (Qa _),λh=>?_⟩;rw[H h];simp[fSs,fCs,show fS (ofCond s.Cond)=0 from rfl,show fC (ofCond s.Cond)=cN s.Cond from rfl]
  obtain⟨t,p,H⟩:=hc;generalize hb:(zeroC s.Cond||(cD 1 s.Cond&&(decide (a+1<=64)&&decide (e+cN s.Cond<=256))))=b at p H;have J:okF (Uj.ctyping_step {Step:=s}) d a e=(sDp (d+1) s&&(decide (a+sNp s<=64)&&decide (e+sC s<=256))):=rfl;rw[J];cases b with
  |false=>
   have:(sDp (d+1) s&&(decide (a+sNp s<=64)&&decide (e+sC s<=256)))=false:=by
    rw[VL];intro hh;simp only[XW,Vq,QgC,Qfk,Qeb]at hh;obtain⟨⟨W,_⟩,z2,z3⟩:=hh;cases E:zeroC s.Cond with
    |true=>rw[E]at hb;cases hb
    |false=>
     rw[E]at hb W z3;simp only[Bool.false_or]at hb W;rw[W]at hb;simp only[Vp]at z3;rw[Qx (show a+1<=64 by omega),Qx (show e+(cN s.Cond:Int)<=256 by omega)]at hb;cases hb
   rw[this];exact⟨t,Ea p (Qa _),λh=>by cases h⟩
  |true=>
   obtain rfl:=H rfl;by_cases r:64<a+1
   .have:(sDp (d+1) s&&(decide (a+sNp s<=64)&&decide (e+sC s<=256)))=false:=by
     rw[Qy (show¬a+(sNp s:Int)<=64 by rw[Qfk];omega)];simp
    rw[this];refine⟨{steps:=a+1,conds:=e+((bif zeroC s.Cond then 0 else cN s.Cond:Nat):Int)},Ea p ?_,λh=>by cases h⟩;simp only[Xg,Vp];refine Ea (v:=(_,true)) ?_ (Qa _);rw[Qx r];exact Qa _
   by_cases G:256<e+((bif zeroC s.Cond then 0 else cN s.Cond:Nat):Int)
   .have:(sDp (d+1) s&&(decide (a+sNp s<=64)&&decide (e+sC s<=256)))=false:=by
     rw[Qy (show¬e+(sC s:Int)<=256 by rw[Qeb];omega)];simp
    rw[this];refine⟨{steps:=a+1,conds:=e+((bif zeroC s.Cond then 0 else cN s.Cond:Nat):Int)},Ea p ?_,λh=>by cases h⟩;simp only[Xg,Vp];refine Ea (v:=(_,true)) ?_ (Qa _);rw[Qy r,Qx G];exact Qa _
   obtain⟨B,w,u⟩:=T (stepParts s) (d+1) (a+1) (e+((bif zeroC s.Cond then 0 else cN s.Cond:Nat):Int)) (by
     unfold stepParts;rw[Qew,QbN,QbN];show _<sZ s;rw[Qfj];omega) (by unfold stepParts;simp;omega) (by
     intro g j;unfold stepParts at j;rcases VC.1 j with j|j
     .obtain⟨y,z,rfl⟩:=Xe.1 j;exact L y z
     .obtain⟨y,z,rfl⟩:=Xe.1 j;exact Q y z) (by omega) (by omega) (by omega) (.inl (by omega)) (by omega) (by omega)
   have V:okL (stepParts s) (d+1) (a+1) (e+((bif zeroC s.Cond then 0 else cN s.Cond:Nat):Int))=(sDp (d+1) s&&(decide (a+sNp s<=64)&&decide (e+sC s<=256))):=by
    rw[XY,QfX _ _ _ _ (by omega) (by omega),Qd6];simp only[XW,Vq,QgC,Qfk,Qeb];have e2:fSs (stepParts s)=sNs s.Then+sNs s.Else:=by unfold stepParts;rw[Qey,Qa9,Qa9]
    have Y:fCs (stepParts s)=sCs s.Then+sCs s.Else:=by unfold stepParts;rw[QeA,Qba,Qba]
    rw[e2,Y];have N:(zeroC s.Cond||cD 1 s.Cond)=true:=by
     cases E:zeroC s.Cond with
     |true=>rfl
     |false=>
      rw[E]at hb;simp only[Bool.false_or,XW]at hb;rw[hb.1];rfl
    constructor
    .rintro⟨q,O,M⟩;exact⟨⟨N,q⟩,by omega,by omega⟩
    .rintro⟨⟨_,q⟩,O,M⟩;exact⟨q,by omega,by omega⟩
   rw[V]at w u;refine⟨B,Ea p ?_,λh=>?_⟩
   .simp only[Xg,Vp];refine Ea (v:=(B, !(sDp (d+1) s&&(decide (a+sNp s<=64)&&decide (e+sC s<=256))))) ?_ ?_
    .rw[Qy r,Qy G,ed];exact Ea (Qbp s k) (Ea w (Qa _))
    .cases(sDp (d+1) s&&(decide (a+sNp s<=64)&&decide (e+sC s<=256)))<;>exact Qa _
   .rw[u h];have e2:fSs (stepParts s)=sNs s.Then+sNs s.Else:=by unfold stepParts;rw[Qey,Qa9,Qa9]
    have Y:fCs (stepParts s)=sCs s.Then+sCs s.Else:=by unfold stepParts;rw[QeA,Qba,Qba]
    rw[e2,Y,show fS (Uj.ctyping_step {Step:=s})=sNp s from rfl,show fC (Uj.ctyping_step {Step:=s})=sC s from rfl,Qfk,Qeb];congr 1<;>omega
 |ctyping_cond x=>
  obtain⟨c⟩:=x;have k:Cond.wf c:=hw;obtain⟨ab,X⟩:=Jc k;have P:i64.wrap (e+1)=e+1:=Qq (by omega) (by omega);simp only[Uj.elim,P];have J:okF (Uj.ctyping_cond {Cond:=c}) d a e=(cD (d+1) c&&(decide (a<=64)&&decide (e+cN c<=256))):=by
   show(cD (d+1) c&&(decide (a+((0:Nat):Int)<=64)&&decide (e+cN c<=256)))=_;rw[show a+((0:Nat):Int)=a by omega]
  rw[J];by_cases r:64<a
  .have:(cD (d+1) c&&(decide (a<=64)&&decide (e+cN c<=256)))=false:=by
    rw[Qy (show¬a<=64 by omega)];simp
   rw[this];refine⟨{steps:=a,conds:=e+1},?_,λh=>by cases h⟩;refine Ea (v:=(_,true)) ?_ (Qa _);rw[Qx r];exact Qa _
  by_cases G:256<e+1
  .have:(cD (d+1) c&&(decide (a<=64)&&decide (e+cN c<=256)))=false:=by
    rw[Qy (show¬e+(cN c:Int)<=256 by rw[QbS];omega)];simp
   rw[this];refine⟨{steps:=a,conds:=e+1},?_,λh=>by cases h⟩;refine Ea (v:=(_,true)) ?_ (Qa _);rw[Qy r,Qx G];exact Qa _
  obtain⟨B,w,u⟩:=T (c.Parts.map ofCond) (d+1) a (e+1) (by
    rw[Qex];show _<cN c;rw[QbS];omega) (by simp;omega) (by
    intro g j;obtain⟨y,z,rfl⟩:=Xe.1 j;exact X y z) (by omega) (by omega) (by omega) (.inl (by omega)) (by omega) (by omega)
  have V:okL (c.Parts.map ofCond) (d+1) a (e+1)=(cD (d+1) c&&(decide (a<=64)&&decide (e+cN c<=256))):=by
   rw[XY,QfX _ _ _ _ (by omega) (by omega), <- Qg4,Qez,QeB];simp only[XW,Vq,QiQ,QbS];constructor
   iterate 2 rintro⟨q,O,M⟩;exact⟨q,by omega,by omega⟩
  rw[V]at w u;refine⟨B,?_,λh=>?_⟩
  .refine Ea (v:=(B, !(cD (d+1) c&&(decide (a<=64)&&decide (e+cN c<=256))))) ?_ ?_
   .rw[Qy r,Qy G,ed];exact Ea (QcN c k) (Ea w (Qa _))
   .cases(cD (d+1) c&&(decide (a<=64)&&decide (e+cN c<=256)))<;>exact Qa _
  .rw[u h,Qez,QeB,show fS (Uj.ctyping_cond {Cond:=c})=0 from rfl,show fC (Uj.ctyping_cond {Cond:=c})=cN c from rfl,QbS];congr 1;omega
theorem Qk9:∀(m:Nat) (l:List Uj) (d:Nat) (a e:Int),fZs l<=m->l.length<=2097152->(∀f∈l,fwf f)->d<=17->0<=a->a<=66->(a<=65\/ ∀f∈l,∃c,f=ofCond c)->0<=e->e<=256->Cnt F_e l d a e:=by
 intro m
 induction m using Nat.strongRecOn with
 |_ m F=>
 intro l d a e hm hl P hd Y h1 u h2 h3;unfold Cnt;have G:∀c:Uh,(∃g:Uh,Ev (λn=>B_e (F_e n) n l (d:Int) c) (g,okL l d a e)/\(okL l d a e=true->g={steps:=a+fSs l,conds:=e+fCs l}))->∃g:Uh,Ev (λn=>F_e n l (d:Int) c) (g,okL l d a e)/\(okL l d a e=true->g={steps:=a+fSs l,conds:=e+fCs l}):=by
  rintro c ⟨g,q1,q2⟩;exact⟨g,Yy q1,q2⟩
 refine G _ ?_;unfold B_e;cases k:l with
 |nil=>
  refine⟨{steps:=a,conds:=e},?_,λ_=>by simp[fSs,fCs]⟩;refine Ea (v:=Ctl.cont {steps:=a,conds:=e}) (EvI.ev (Ej ?_)) (Qa _);exact Qa _
 |cons f0 r0=>
 rw[<- k];have J:l.isEmpty=false:=by rw[k];rfl
 have M:0<l.length:=by rw[k];simp
 by_cases j:d<=16
 rotate_left
 .have:okL l d a e=false:=by unfold okL;rw[J,Qy j];rfl
  rw[this];refine⟨{steps:=a,conds:=e},?_,λh=>by cases h⟩;rw[Qx (show(0:Int)<(l.length:Int)by omega),Qx (show(16:Int)<(d:Int)by omega)];exact Ea (Qa _) (Qa _)
 have H:okL l d a e=okR l d a e:=by unfold okL okR;rw[Qx j,Vz]
 rw[H];have loop:∀(r:List Uj) (i:Nat) (a e:Int),l.drop i=r->i<=l.length->0<=a->a<=66->(a<=65\/ ∀f∈l,∃c,f=ofCond c)->0<=e->e<=256->
   ∃g:Uh,EvI (λn=>F_fq n l (d:Int) (F_e n)) ({steps:=a,conds:=e},(i:Int)) (bif okR r d a e then Ctl.cont g else Ctl.done (g,false))/\(okR r d a e=true->g={steps:=a+fSs r,conds:=e+fCs r}):=by
  intro r
  induction r with
  |nil=>
   intro i a e y L _ _ _ _ _;refine⟨{steps:=a,conds:=e},Ej ?_,λ_=>by simp[fSs,fCs]⟩;unfold F_fq;simp only[QJ y L,Vp];exact Qa _
  |cons f r B=>
   intro i a e y L W g1 z g2 T;obtain⟨s,E⟩:=Qv (by omega) y;have aa:fZ f<=fZs l:=by
    have:∀(l:List Uj),f∈l->fZ f<=fZs l:=by
     intro l
     induction l with
     |nil=>intro h;cases h
     |cons x l F=>
      intro h;rw[Qg2];rcases X6.1 h with rfl|h
      .omega
      .have:=F h;omega
    exact this l s.mem
   obtain⟨g,p,t⟩:=Qh3 (R:=F_e) j s (P f s.mem) (λN X a e k1 k2 k3 Q O k6 w k7 k8=>F (fZs N) (by omega) N X a e (XT _) k2 k3 Q O k6 w k7 k8) W g1 (z.imp id λh=>h f s.mem) g2 T;rw[Qkt];cases q:okF f d a e with
   |false=>
    rw[q]at p;exact⟨g,Ej p,λh=>by cases h⟩
   |true=>
    rw[q]at p;obtain rfl:=t q;have hb:=by
     unfold okF at q;simp only[XW,Vq]at q;exact q.2
    obtain⟨c2,u1,V⟩:=B (i+1) (a+fS f) (e+fC f) E (by have:=s.lt';omega) (by omega) (by omega) (.inl (by omega)) (by omega) (by omega);refine⟨c2,Ex p u1,λh=>?_⟩;rw[V (by simpa using h),Qg3,Qg5];congr 1<;>omega
 obtain⟨g,p,t⟩:=loop l 0 a e rfl (XU _) Y h1 u h2 h3;refine⟨g,?_,t⟩;refine Ea (v:=false) ?_ (Qt (Ea p.ev ?_))
 .rw[Qx (show(0:Int)<(l.length:Int)by omega),Qy (show¬(16:Int)<(d:Int)by omega)];exact Qa _
 .cases okR l d a e<;>exact Qa _
mutual
def vaC:Cond->Bool
 |⟨k,v,n,ps⟩=>bif k==1 then inR 1 3 v&&(inR 0 10000 n&&((ps.length:Int)==0))else
   bif k==4 then((v==0)&&(n==0))&&(((ps.length:Int)==1)&&vaCs ps)else
   bif (k==2)||(k==3)then((v==0)&&(n==0))&&((decide (0<(ps.length:Int))&&decide ((ps.length:Int)<=16))&&vaCs ps)else false
def vaCs:List Cond->Bool
 |[]=>true
 |c::r=>vaC c&&vaCs r
end
theorem Qkd(c:Cond):vaC c=bif c.Kind==1 then inR 1 3 c.Var&&(inR 0 10000 c.N&&((c.Parts.length:Int)==0))else
   bif c.Kind==4 then((c.Var==0)&&(c.N==0))&&(((c.Parts.length:Int)==1)&&vaCs c.Parts)else
   bif (c.Kind==2)||(c.Kind==3)then((c.Var==0)&&(c.N==0))&&((decide (0<(c.Parts.length:Int))&&decide ((c.Parts.length:Int)<=16))&&vaCs c.Parts)else false:=by cases c;rfl
theorem QfP:∀l:List Cond,vaCs l=l.all vaC
 |[]=>rfl
 |c::r=>by rw[vaCs,List.all_cons,QfP r]
mutual
def vaS:Step->Bool
 |⟨k,b,c,t,e⟩=>bif k==1 then inR 1 5 b&&(zeroC c&&(((t.length:Int)==0)&&((e.length:Int)==0)))else
   bif k==2 then(b==0)&&(vaC c&&(decide (0<(t.length:Int))&&(vaSs t&&vaSs e)))else false
def vaSs:List Step->Bool
 |[]=>true
 |s::r=>vaS s&&vaSs r
end
theorem Qkc(s:Step):vaS s=bif s.Kind==1 then inR 1 5 s.By&&(zeroC s.Cond&&(((s.Then.length:Int)==0)&&((s.Else.length:Int)==0)))else
   bif s.Kind==2 then(s.By==0)&&(vaC s.Cond&&(decide (0<(s.Then.length:Int))&&(vaSs s.Then&&vaSs s.Else)))else false:=by cases s;rfl
theorem QfO:∀l:List Step,vaSs l=l.all vaS
 |[]=>rfl
 |c::r=>by rw[vaSs,List.all_cons,QfO r]
def fV:Uj->Bool
 |.ctyping_step x=>vaS x.Step
 |.ctyping_cond x=>vaC x.Cond
theorem Qh8(l:List Cond):(l.map ofCond).any (λf=> !fV f)= !vaCs l:=by
 rw[QfP,List.not_all_eq_any_not,List.any_map];rfl
theorem Qct(l:List Step):(l.map ofStep).any (λf=> !fV f)= !vaSs l:=by
 rw[QfO,List.not_all_eq_any_not,List.any_map];rfl
theorem Qfz{R:Nat->List Uj->Option Bool}(c:Cond)(i:Cond.wf c)(h:Ev (λn=>R n (c.Parts.map ofCond)) (!vaCs c.Parts)):
  Ev (λn=>F_ey (R n) n {Cond:=c}) (vaC c):=by
 rw[Qkd];refine Ea (Ei λ_=>Qa _) (Qah (λ_=>?_) (λl=>?_))
 .exact Ea (Ea (QH _ _ _) (Ei λ_=>Ea (QH _ _ _) (Ei λ_=>Qa _))) (Qa _)
 .have fin:∀b,Ev (λn=>(bif b then(F_aa n {Cond:=c}).bind λd=>(R n d).bind λf=>some (!f)else some false).bind λa=>some a) (b&&vaCs c.Parts):=by
   intro b;refine Ea ((Ei λ_=>Ea (QcN c i) (Ea h (Qa _)))) ((Qa _).eq (by simp))
  cases k:(c.Kind==4)with
  |true=>
   cases g:((c.Var==0)&&(c.N==0))with
   |true=>
    grind
   |false=>
    simp_all
  |false=>
   cases j:((c.Kind==2)||(c.Kind==3))with
   |true=>
    have e:Ev (λn=>(bif (c.Kind==2)then some (c.Kind==2)else some (c.Kind==3))) true:=by
     refine EA ?_
     grind
    cases g:((c.Var==0)&&(c.N==0))with
    |true=>
     grind
    |false=>
     refine Ea (Ea e (Qa _)) ((fin _).eq (by simp))
   |false=>
    have e:Ev (λn=>(bif (c.Kind==2)then some (c.Kind==2)else some (c.Kind==3))) false:=by
     refine EA ?_
     grind
    grind
theorem QhX:∀(m:Nat) (l:List Uj),fZs l<=m->l.length<=2097152->(∀f∈l,fwf f)->Ev (λn=>F_y n l) (l.any λf=> !fV f):=by
 intro m
 induction m using Nat.strongRecOn with
 |_ m q=>
 intro l H F u;refine Yy ?_;show Ev (λn=>B_y (F_y n) n l) _;refine Ev.contains l _ (λn f=>F_hq (F_y n) n f) (by omega) λf r=>?_;have w:fZ f<=fZs l:=by
  have:∀(l:List Uj),f∈l->fZ f<=fZs l:=by
   intro l
   induction l with
   |nil=>simp
   |cons x l q=>
    intro h;rw[Qg2]
    grind
  grind
 refine Ea (v:=fV f) ?_ (Qa _);have a:∀c:Cond,Cond.wf c->cNs c.Parts<fZ f->Ev (λn=>F_y n (c.Parts.map ofCond)) (!vaCs c.Parts):=by
  intro c j i;rw[<- Qh8];obtain⟨G,z⟩:=Jc j;refine q (fZs (c.Parts.map ofCond)) (by rw[Qex];omega) _ (XT _) (by simp;omega) ?_;intro g d;obtain⟨y,e,rfl⟩:=Xe.1 d;exact z y e
 cases f with
 |ctyping_cond x=>
  obtain⟨c⟩:=x;have j:Cond.wf c:=u _ r;exact Qfz c j (a c j (by show cNs c.Parts<cN c;rw[QbS];omega))
 |ctyping_step x=>
  obtain⟨s⟩:=x;have i:Step.wf s:=u _ r;obtain⟨t,⟨B,k⟩,⟨E,p⟩⟩:=Ja i;show Ev _ (vaS s);rw[Qkc];refine Qah (λ_=>?_) (λL=>Qah (λ_=>?_) λ_=>Qa _)
  .refine Ea (Ea (QH _ _ _) (Ei λ_=>?_)) (Qa _);simp only[QfB];refine Ei λ_=>Ea (Qbp s i) ((Qa _).eq ?_);unfold stepParts;rw[XY];simp only[Vx,XW,X3,X2];omega
  .refine Ea (Ei λ_=>?_) (Qa _);refine Ea (Qfz s.Cond t (a s.Cond t (by show _<sZ s;rw[Qfj,QbS];omega))) (Ei λ_=>Ei λ_=>?_);refine Ea (Qbp s i) (Ea (q (fZs (stepParts s)) ?_ _ (XT _) (by unfold stepParts;simp;omega) ?_) ((Qa _).eq ?_))
   .have:fZs (stepParts s)<sZ s:=by
     unfold stepParts;rw[Qew,QbN,QbN,Qfj];omega
    have J:fZ (Uj.ctyping_step {Step:=s})=sZ s:=rfl;omega
   .intro g d;rcases VC.1 d with d|d
    .obtain⟨y,e,rfl⟩:=Xe.1 d;exact k y e
    .obtain⟨y,e,rfl⟩:=Xe.1 d;exact p y e
   .unfold stepParts;rw[List.any_append,Qct,Qct];simp
def goodT(l:List Step):Bool:=sDs 0 l&&(decide (sNs l<=64)&&decide (sCs l<=256))
def tiesE(l:List Step):Int:=bif goodT l then(bif l.isEmpty|| !vaSs l then 71 else 0)else 2
theorem Qku(l:List Step):okL (l.map ofStep) 0 0 0=goodT l:=by
 rw[XY,QfX _ _ _ _ (by omega) (by omega), <- QcK,Qa9,Qba];unfold goodT
 grind
theorem Qmz(l:List Step)(k:l.length<=1048576)(j:∀x∈l,Step.wf x):Ev (λn=>F_ew n l) (tiesE l):=by
 refine Ea (QeD l (by omega)) (Ea ?_ (Qa _));have a:∀f∈l.map ofStep,fwf f:=by
  intro g h;obtain⟨y,i,rfl⟩:=Xe.1 h;exact j y i
 obtain⟨m,d,p⟩:=Qk9 _ (l.map ofStep) 0 0 0 (XT _) (by simp;omega) a (by omega) (by omega) (by omega) (.inl (by omega)) (by omega) (by omega);rw[Qku]at d;have p3:=d.shift;refine Ea p3 ?_;unfold tiesE;cases goodT l with
 |false=>exact Qa _
 |true=>
  have e:(((l.map ofStep).length:Int)==0)=l.isEmpty:=by
   cases l<;>simp;omega
  rw[e];refine Ea (Qh λ_=>Ea (QhX _ _ (XT _) (by simp;omega) a) (Qa _)) ?_
  grind[Qct,Qa]
def condB(d:Nat):Int:=256*(18-(d:Int))+1000
theorem Qcf:∀(m:Nat) (c:Cond) (d:Nat),cN c<=m->d<=17->Cond.wf c->∃v:Int,Ev (λn=>F_i n c (d:Int)) v/\0<=v/\v<=condB d/\
  (d<=16/\cD (d+1) c=true/\cN c<=256->v=cN c)/\(¬(d<=16/\cD (d+1) c=true/\cN c<=256)->256<v):=by
 intro m
 induction m using Nat.strongRecOn with
 |_ m F=>
 intro c d hm hd hw;obtain⟨T,H⟩:=Jc hw;have G:∀{P:Int->Prop},(∃v:Int,Ev (λn=>B_i (F_i n) n c (d:Int)) v/\P v)->∃v:Int,Ev (λn=>F_i n c (d:Int)) v/\P v:=by
  rintro P ⟨v,j,e⟩;exact⟨v,Yy j,e⟩
 refine G ?_;unfold B_i;by_cases q:d<=16
 .rw[Qy (show¬(16:Int)<(d:Int)by omega)];have ed:i64.wrap ((d:Int)+1)=((d+1:Nat):Int):=QU (by omega);have loop:∀(r:List Cond) (i:Nat) (a:Int),c.Parts.drop i=r->i<=c.Parts.length->0<=a->a<=condB d->
    ∃v:Int,EvI (λn=>F_go n c (d:Int) (F_i n)) (a,(i:Int)) v/\0<=v/\v<=condB d/\
     (cDs (d+1) r=true/\a+cNs r<=256->v=a+cNs r)/\(¬(cDs (d+1) r=true/\a+cNs r<=256)->256<v):=by
   intro r
   induction r with
   |nil=>
    intro i a t N u j;refine⟨a,Ej ?_,u,j,λ_=>by simp[cNs],λh=>?_⟩
    .unfold F_go;simp only[QJ t N,Vp,XJ];exact Qa _
    .simp[cDs,cNs]at h;omega
   |cons x r B=>
    intro i a t N u j;obtain⟨g,E⟩:=Qv (by omega) t;have hx:cN x<cN c:=by
     have:∀l:List Cond,x∈l->cN x<=cNs l:=by
      intro l
      induction l with
      |nil=>intro h;cases h
      |cons y l F=>
       intro h;rw[cNs];rcases X6.1 h with rfl|h
       .omega
       .have:=F h;omega
     have:=this _ g.mem;rw[QbS c];omega
    by_cases f:a<=256
    .obtain⟨v,s,M,L,k,O⟩:=F (cN x) (by omega) x (d+1) (XT _) (by omega) (H x g.mem);have hB:condB (d+1)+256=condB d:=by unfold condB;omega
     have R:condB d<=6000:=by unfold condB;omega
     have W:i64.wrap (a+v)=a+v:=Qq (by omega) (by omega);obtain⟨w,Y,q2,Q,V,J⟩:=B (i+1) (a+v) E (by have:=g.lt';omega) (by omega) (by omega);refine⟨w,Ex ?_ Y,q2,Q,?_,?_⟩
     .unfold F_go;simp only[g.lt,Vo,Qx f,XJ,g.ix,g.nx,ed];refine Ea s ?_;rw[W];exact Qa _
     .rintro⟨e,z⟩;simp only[cDs,XW,Vq]at e;rw[cNs]at z⊢;have:=k ⟨e.1,e.2.1,by omega⟩;subst this;rw[V ⟨e.2.2,by omega⟩];omega
     .intro X;by_cases p:d+1<=16/\cD (d+1+1) x=true/\cN x<=256
      .have:=k p;subst this;refine J λe=>X ⟨?_,?_⟩
       .simp only[cDs,XW,Vq];exact⟨p.1,p.2.1,e.1⟩
       .rw[cNs];omega
      .have:=O p;exact J λe=>by omega
    .refine⟨a,Ej ?_,u,j,λh=>?_,λ_=>by omega⟩
     .unfold F_go;simp only[g.lt,Vo,Qy f,XJ,Vp];exact Qa _
     .omega
  obtain⟨v,s,M,L,k,O⟩:=loop c.Parts 0 1 rfl (XU _) (by omega) (by unfold condB;omega);refine⟨v,Qt (Ea s.ev (Qa _)),M,L,?_,?_⟩
  .rintro⟨_,e,z⟩;rw[QiQ]at e;rw[QbS]at z⊢;rw[k ⟨e,by omega⟩];omega
  grind[QiQ,QbS]
 .rw[Qx (show(16:Int)<(d:Int)by omega)];refine⟨1000,QaP (Qa _),by omega,by unfold condB;omega,λh=>absurd h.1 q,λ_=>by omega⟩
def sizeB:Nat->Int
 |0=>10000
 |k+1=>3*sizeB k
theorem Qcx:∀k,10000<=sizeB k
 |0=>Int.le_refl _
 |k+1=>by have:=Qcx k;simp[sizeB];omega
theorem Qkm{k:Nat}(h:k<=17):sizeB k<=1291401630000:=by
 have:∀j,j<=17->sizeB j<=1291401630000:=by decide+kernel
 grind
def goodL(d:Nat)(l:List Step):Prop:=sDs d l=true/\sNs l<=64/\sCs l<=256
theorem QiG:∀(m:Nat) (l:List Step) (d:Nat),sZs l<=m->d<=17->l.length<=1048576->(∀x∈l,Step.wf x)->∃a b:Int,Ev (λn=>F_m n l (d:Int)) (a,b)/\0<=a/\0<=b/\a<=sizeB (17-d)/\b<=sizeB (17-d)/\
  (goodL d l->a=sNs l/\b=sCs l)/\(¬goodL d l->64<a\/256<b):=by
 intro m
 induction m using Nat.strongRecOn with
 |_ m F=>
 intro l d hm hd hl hw;have W:∀{P:Int->Int->Prop},(∃a b:Int,Ev (λn=>B_m (F_m n) n l (d:Int)) (a,b)/\P a b)->∃a b:Int,Ev (λn=>F_m n l (d:Int)) (a,b)/\P a b:=by
  rintro P ⟨a,b,p,j⟩;exact⟨a,b,Yy p,j⟩
 refine W ?_;unfold B_m;by_cases u:0<l.length/\ ¬d<=16
 .rw[Qx (show(0:Int)<(l.length:Int)by omega),Qx (show(16:Int)<(d:Int)by omega)];have:=Qcx (17-d);refine⟨1000,1000,Ea (Qa _) (QaP (Qa _)),by omega,by omega,by omega,by omega,λh=>?_,λ_=>by omega⟩;exfalso;cases l with
  |nil=>simp at u
  |cons x r=>
   have:=h.1;simp only[sDs,XW,Vq]at this;omega
 .have t:Ev (λn:Nat=>((bif decide (0<(l.length:Int))then some (decide (16<(d:Int)))else some false):Option Bool)) false:=by
   grind[Qa]
  have ed:i64.wrap ((d:Int)+1)=((d+1:Nat):Int):=QU (by omega);have loop:∀(r:List Step) (i:Nat) (a b:Int),l.drop i=r->i<=l.length->0<=a->0<=b->a<=sizeB (17-d)->b<=sizeB (17-d)->
    ∃a' b':Int,EvI (λn=>F_fv n l (d:Int) (F_m n)) (a,b,(i:Int)) (a',b')/\0<=a'/\0<=b'/\a'<=sizeB (17-d)/\b'<=sizeB (17-d)/\
     (sDs d r=true/\a+sNs r<=64/\b+sCs r<=256->a'=a+sNs r/\b'=b+sCs r)/\(¬(sDs d r=true/\a+sNs r<=64/\b+sCs r<=256)->64<a'\/256<b'):=by
   intro r
   induction r with
   |nil=>
    intro i a b J hi t p j h3;refine⟨a,b,Ej ?_,t,p,j,h3,λ_=>by simp[sNs,sCs],λh=>?_⟩
    .unfold F_fv;simp only[QJ J hi,Vp,XJ];exact Qa _
    .simp[sDs,sNs,sCs]at h;omega
   |cons s r af=>
    intro i a b J hi t p j h3;obtain⟨g,ag⟩:=Qv (by omega) J;have ai:=g.lt';have w:d<=16:=by
     omega
    have ah:sZ s<=sZs l:=by
     have:∀l:List Step,s∈l->sZ s<=sZs l:=by
      intro l
      induction l with
      |nil=>intro h;cases h
      |cons y l F=>
       intro h;rw[sZs];rcases X6.1 h with rfl|h
       .omega
       .have:=F h;omega
     exact this _ g.mem
    by_cases e:a<=64/\b<=256
    .obtain⟨wc,⟨ac,ae⟩,⟨O,L⟩⟩:=Ja (hw s g.mem);have ak:=Qfj s;obtain⟨B,f,T,p2,p3,p4,p5,G,M⟩:=F (sZs s.Then) (by omega) s.Then (d+1) (XT _) (by omega) ac ae;obtain⟨y1,y2,q1,q2,q3,q4,q5,q6,q7⟩:=F (sZs s.Else) (by omega) s.Else (d+1) (XT _) (by omega) O L;have hB:sizeB (17-d)=3*sizeB (17-(d+1)):=by
      rw[show 17-d=(17-(d+1))+1 by omega];rfl
     have N:=Qcx (17-(d+1));have al:=Qkm (k:=17-d) (by omega);have hc:∃z:Int,0<=z/\z<=5608/\Ev (λn=>((bif (!zeroC s.Cond)then(idx l (i:Int)).bind λaa=>(F_i n aa.Cond 0).bind λV=>some (i64.wrap ((i64.wrap ((i64.wrap (b+f))+y2))+V))else some (i64.wrap ((i64.wrap (b+f))+y2))):Option Int)) (b+f+y2+z)/\
       ((zeroC s.Cond||cD 1 s.Cond)=true/\(bif zeroC s.Cond then 0 else cN s.Cond)<=256->z=((bif zeroC s.Cond then 0 else cN s.Cond:Nat):Int))/\(¬((zeroC s.Cond||cD 1 s.Cond)=true/\(bif zeroC s.Cond then 0 else cN s.Cond)<=256)->256<z):=by
      have e1:i64.wrap (b+f)=b+f:=Qq (by omega) (by omega);have e2:i64.wrap (b+f+y2)=b+f+y2:=Qq (by omega) (by omega);cases hz:zeroC s.Cond with
      |true=>
       refine⟨0,by omega,by omega,?_,λ_=>by simp,λh=>absurd ⟨rfl,by simp⟩ h⟩;simp only[Xg,Vp,e1,e2];exact(Qa _).eq (by omega)
      |false=>
       obtain⟨v,u1,u2,u3,u4,u5⟩:=Qcf _ s.Cond 0 (XT _) (by omega) wc;have ad:v<=5608:=by unfold condB at u3;omega
       have e3:i64.wrap (b+f+y2+v)=b+f+y2+v:=Qq (by omega) (by omega);refine⟨v,u2,ad,?_,λh=>?_,λh=>?_⟩
       .simp only[Xh,Vo,g.ix,XJ,e1,e2];refine Ea u1 ?_;rw[e3];exact Qa _
       .simp only[Bool.false_or,Vp]at h⊢;exact u4 ⟨by omega,h.1,h.2⟩
       .simp only[Bool.false_or,Vp]at h;exact u5 λq=>h ⟨q.2.1,q.2.2⟩
     obtain⟨z,z0,z1,z2,z3,z4⟩:=hc;have e4:i64.wrap (a+1)=a+1:=Qq (by omega) (by omega);have e5:i64.wrap (a+1+B)=a+1+B:=Qq (by omega) (by omega);have e6:i64.wrap (a+1+B+y1)=a+1+B+y1:=Qq (by omega) (by omega);obtain⟨w1,w2,v1,v2,v3,v4,v5,v6,E⟩:=af (i+1) (a+1+B+y1) (b+f+y2+z) ag (by omega) (by omega) (by omega) (by omega) (by omega);refine⟨w1,w2,Ex ?_ v1,v2,v3,v4,v5,?_,?_⟩
     .unfold F_fv;simp only[g.lt,Vo,Qx e.1,Qx e.2,XJ,g.ix,g.nx,ed,QeH];refine Ea T (Ea q1 ?_);simp only[g.ix,XJ]at z2;refine Ea z2 ?_;rw[e4,e5,e6];exact Qa _
     .rintro⟨g1,g2,g3⟩;simp only[sDs,XW,Vq,QgC]at g1;obtain⟨aj,⟨R,ab,H⟩,Q⟩:=g1;rw[sNs,Qfk]at g2⊢;rw[sCs,Qeb]at g3⊢;obtain⟨k1,k2⟩:=G ⟨ab,by omega,by omega⟩;obtain⟨k3,k4⟩:=q6 ⟨H,by omega,by omega⟩;have k5:=z3 ⟨R,by omega⟩;obtain⟨k6,k7⟩:=v6 ⟨Q,by omega,by omega⟩;constructor<;>omega
     .intro hn;by_cases b1:goodL (d+1) s.Then
      .obtain⟨k1,k2⟩:=G b1;by_cases X:goodL (d+1) s.Else
       .obtain⟨k3,k4⟩:=q6 X;by_cases Y:(zeroC s.Cond||cD 1 s.Cond)=true/\(bif zeroC s.Cond then 0 else cN s.Cond)<=256
        .have k5:=z3 Y;refine E λq=>hn ⟨?_,?_,?_⟩
         .simp only[sDs,XW,Vq,QgC];exact⟨w,⟨Y.1,b1.1,X.1⟩,q.1⟩
         .rw[sNs,Qfk];omega
         .rw[sCs,Qeb];omega
        .have:=z4 Y;exact E λq=>by omega
       .have:=q7 X;exact E λq=>by omega
      .have:=M b1;exact E λq=>by omega
    .refine⟨a,b,Ej ?_,t,p,j,h3,λh=>?_,λ_=>?_⟩
     .unfold F_fv;have:Ev (λn:Nat=>((bif decide ((i:Int)<(l.length:Int))then(bif decide (a<=64)then some (decide (b<=256))else some false)else some false):Option Bool)) false:=by
       rw[g.lt];by_cases q:a<=64
       .rw[Qx q,Qy (show¬b<=256 from λz=>e ⟨q,z⟩)];exact Qa _
       .rw[Qy q];exact Qa _
      exact Ea this (Qt (Qa _))
     iterate 2 omega
  have N:=Qcx (17-d);obtain⟨a,b,T,p2,p3,p4,p5,G,M⟩:=loop l 0 0 0 rfl (XU _) (by omega) (by omega) (by omega) (by omega);refine⟨a,b,Ea t (Qt (Ea T.ev (Qa _))),p2,p3,p4,p5,λh=>?_,λh=>?_⟩
  .obtain⟨k1,k2⟩:=G ⟨h.1,by have:=h.2.1;omega,by have:=h.2.2;omega⟩;constructor<;>omega
  .exact M λq=>h ⟨q.1,by omega,by omega⟩
theorem Qhb:∀(m:Nat) (c:Cond),cN c<=m->Cond.wf c->Ev (λn=>F_v n c) (vaC c):=by
 intro m
 induction m using Nat.strongRecOn with
 |_ m q=>
 intro c w u;obtain⟨t,f⟩:=Jc u;refine Yy ?_;show Ev (λn=>B_v (F_v n) n c) _;rw[Qkd];have d:∀x∈c.Parts,cN x<cN c:=by
  intro x d;have:∀l:List Cond,x∈l->cN x<=cNs l:=by
   intro l
   induction l with
   |nil=>simp
   |cons y l q=>
    intro h;rw[cNs]
    grind
  have:=this _ d;rw[QbS c];omega
 have loop:Ev (λn=>iter (F_fc n c (F_v n)) n 0) (bif c.Parts.all vaC then Ctl.cont ()else Ctl.done false):=by
  refine Q9 c.Parts vaC _ _ (by omega) (λi x a=>?_) ?_
  .unfold F_fc;simp only[a.lt,Vo,a.ix,XJ,a.nx];refine Ea (q (cN x) (by have:=d x a.mem;omega) x (XT _) (f x a.mem)) ?_;cases vaC x<;>exact Qa _
  simp_all[F_fc,Qa]
 have fin:Ev (λn=>((bif (c.Var != 0)then some true else some (c.N != 0)):Option Bool).bind λg=>(bif g then some false else(iter (F_fc n c (F_v n)) n 0).bind λk=>match k with|.cont sb48=>(some true)|.done sb48=>some sb48)) (((c.Var==0)&&(c.N==0))&&vaCs c.Parts):=by
  refine Ea (v:= !((c.Var==0)&&(c.N==0))) (EA ?_) ?_
  .grind
  .cases((c.Var==0)&&(c.N==0))with
   |false=>exact Qa _
   |true=>
    refine Qt (Ea loop ?_)
    grind[QfP,Qa]
 refine Qah (λ_=>?_) (λz=>?_)
 .refine Ea (v:=_) ((Ei λ_=>Ei λ_=>Ei λ_=>Ei λ_=>Qa _).eq ?_) (Qa _);unfold inR
  grind
 .have e:Ev (λn:Nat=>((bif (c.Kind==2)then some (c.Kind==2)else some (c.Kind==3)):Option Bool)) ((c.Kind==2)||(c.Kind==3)):=EA (by rw[Qlr]);refine Ea e ?_;cases j:((c.Kind==2)||(c.Kind==3))with
  |true=>
   have r:(c.Kind==4)=false:=by
    rw[VL];simp only[Bool.or_eq_true,Vx]at j;simp only[Vx,ne_eq];omega
   rw[r];have s:(bif decide ((c.Parts.length:Int)<1)then some true else some (decide (16<(c.Parts.length:Int))))=some (!(decide (0<(c.Parts.length:Int))&&decide ((c.Parts.length:Int)<=16))):=by
    rw[QiR];congr 1;rw[XY];simp only[Bool.or_eq_true,Vq,Bool.not_eq_true',Bool.and_eq_false_iff,decide_eq_false_iff_not];omega
   rw[s];cases p:(decide (0<(c.Parts.length:Int))&&decide ((c.Parts.length:Int)<=16))with
   |false=>
    refine Ea (Qa _) ((Qa _).eq (by simp))
   |true=>
    refine Ea (Qa _) (fin.eq (by simp))
  |false=>
   simp only[Vp];cases r:(c.Kind==4)with
   |true=>
    simp only[Vo];cases p:((c.Parts.length:Int)==1)with
    |false=>
     refine Ea (v:=Ctl.done false) (EA ?_) ((Qa _).eq (by simp));simp only[bne,p,Xh,Vo]
    |true=>
     refine Ea (v:=Ctl.cont ()) (EA ?_) (fin.eq (by simp));simp only[bne,p,Xg,Vp]
   |false=>
    refine Ea (Qa _) (Qa _)
theorem QhS(c:Cond)(a:Cond.wf c)(g:cD 1 c=true)(e:cN c<=256):Ev (λn=>F_db n c) (bif vaC c then 0 else 71):=by
 obtain⟨v,f,_,_,d,_⟩:=Qcf _ c 0 (XT _) (by omega) a;have:=d ⟨by omega,g,e⟩;refine Ea f ?_;rw[Qy (show¬256<v by omega)];refine Qt (Ea (Qhb _ c (XT _) a) ?_);cases vaC c<;>exact Qa _
theorem Qi2{c:Cond}(h:zeroC c=true):cD 1 c=true/\cN c<=256:=by
 unfold zeroC at h;simp only[XW,Vx]at h;have:c.Parts=[]:=(by simp_all);rw[QiQ,QbS,this];exact⟨rfl,by simp[cNs]⟩
theorem Qg9:∀(m:Nat) (l:List Step) (d:Nat),sZs l<=m->l.length<=1048576->(∀x∈l,Step.wf x)->sDs d l=true->sCs l<=256->Ev (λn=>F_g n l) (vaSs l):=by
 intro m
 induction m using Nat.strongRecOn with
 |_ m z=>
 intro l d hm X T F hc;refine Yy ?_;show Ev (λn=>B_g (F_g n) n l) _;unfold B_g;have k:∀s∈l,sZ s<=sZs l/\sDp (d+1) s=true/\sC s<=sCs l:=by
  intro s;have:∀l:List Step,s∈l->sDs d l=true->sZ s<=sZs l/\sDp (d+1) s=true/\sC s<=sCs l:=by
   intro l
   induction l with
   |nil=>simp
   |cons y l z=>
    intro h F;simp only[sDs,XW]at F;rw[sZs,sCs]
    grind
  grind
 rw[QfO];have loop:Ev (λn=>iter (F_im n l (F_g n)) n 0) (bif l.all vaS then Ctl.cont ()else Ctl.done false):=by
  refine Q9 l vaS _ _ (by omega) (λi s r=>?_) ?_
  .obtain⟨m1,t,Y⟩:=k s r.mem;obtain⟨Q,⟨B,u⟩,⟨E,w⟩⟩:=Ja (T s r.mem);have V:=Qfj s;have p:=Qeb s;rw[QgC]at t;simp only[XW]at t;obtain⟨G,P,W⟩:=t;have f:cD 1 s.Cond=true/\cN s.Cond<=256:=by
    cases H:zeroC s.Cond with
    |true=>exact Qi2 H
    |false=>
     rw[H]at G p;simp only[Vp]at p;exact⟨by simpa using G,by omega⟩
   unfold F_im;simp only[r.lt,Vo,r.ix,XJ,r.nx,QeH];rw[Qkc];cases h1:(s.Kind==1)with
   |true=>
    simp only[Vo];have e:Ev (λn:Nat=>((bif decide (s.By<1)then some true else(bif decide (5<s.By)then some true else(bif (!zeroC s.Cond)then some true else(bif ((s.Then.length:Int) != 0)then some true else some ((s.Else.length:Int) != 0))))):Option Bool)) (!(inR 1 5 s.By&&(zeroC s.Cond&&(((s.Then.length:Int)==0)&&((s.Else.length:Int)==0))))):=by
     refine(Qh λ_=>Qh λ_=>Qh λ_=>Qh λ_=>Qa _).eq ?_;unfold inR;cases zeroC s.Cond with
     |false=>simp
     |true=>
      rw[XY];simp only[Bool.or_eq_true,Vq,Bool.not_eq_true',Bool.and_eq_false_iff,decide_eq_false_iff_not,bne_iff_ne,ne_eq,Vy,Xg,Vz,Xi,false_or];omega
    cases j:(inR 1 5 s.By&&(zeroC s.Cond&&(((s.Then.length:Int)==0)&&((s.Else.length:Int)==0))))with
    |true=>rw[j]at e;exact Ea (Ea e (Qa _)) (Qa _)
    |false=>rw[j]at e;exact Ea (Ea e (Qa _)) (Qa _)
   |false=>
    simp only[Vp];cases h2:(s.Kind==2)with
    |true=>
     simp only[Vo];have e:Ev (λn=>((bif (s.By != 0)then some true else(F_db n s.Cond).bind λq=>(bif (q != 0)then some true else(bif ((s.Then.length:Int)==0)then some true else(F_g n s.Then).bind λg=>(bif (!g)then some true else(F_g n s.Else).bind λa=>some (!a))))):Option Bool)) (!((s.By==0)&&(vaC s.Cond&&(decide (0<(s.Then.length:Int))&&(vaSs s.Then&&vaSs s.Else))))):=by
      have L:=z (sZs s.Then) (by omega) s.Then (d+1) (XT _) B u P (by omega);have J:=z (sZs s.Else) (by omega) s.Else (d+1) (XT _) E w W (by omega);have M:Ev (λn=>(F_g n s.Else).bind λa=>some (!a)) (!vaSs s.Else):=Ea J (Qa _);have N:Ev (λn=>(F_g n s.Then).bind λg=>(bif (!g)then some true else(F_g n s.Else).bind λa=>some (!a))) (!vaSs s.Then|| !vaSs s.Else):=Ea L (Qh λ_=>M);refine(Qh λ_=>Ea (QhS s.Cond Q f.1 f.2) (Qh λ_=>Qh λ_=>N)).eq ?_;have O:((bif vaC s.Cond then(0:Int)else 71) != 0)= !vaC s.Cond:=by cases vaC s.Cond<;>rfl
      have R:((s.Then.length:Int)==0)= !decide (0<(s.Then.length:Int)):=by
       rw[XY];simp
      rw[O,R];simp only[Bool.not_and,bne]
     cases j:((s.By==0)&&(vaC s.Cond&&(decide (0<(s.Then.length:Int))&&(vaSs s.Then&&vaSs s.Else))))with
     |true=>rw[j]at e;exact Ea (Ea e (Qa _)) (Qa _)
     |false=>rw[j]at e;exact Ea (Ea e (Qa _)) (Qa _)
    |false=>exact Ea (Qa _) (Qa _)
  simp_all[F_im,Qa]
 refine Ea loop ?_;cases l.all vaS<;>exact Qa _
theorem QhR(l:List Step)(g:l.length<=1048576)(i:∀x∈l,Step.wf x):Ev (λn=>F_fg n l) (tiesE l):=by
 obtain⟨a,b,r,w,t,_,_,j,q⟩:=QiG _ l 0 (XT _) (by omega) g i;refine Ea r ?_;have m:goodT l=true↔goodL 0 l:=by
  unfold goodT goodL;simp
 unfold tiesE;cases f:goodT l with
 |false=>
  have:=q (λh=>by grind);have e:(bif decide (64<a)then some true else some (decide (256<b)))=some true:=by
   grind
  exact Ea (EA e) (Qa _)
 |true=>
  have d:=m.1 f;obtain⟨s,u⟩:=j d;have y:=d.2.1;have k:=d.2.2;have e:(bif decide (64<a)then some true else some (decide (256<b)))=some false:=by
   grind
  refine Ea (EA e) (Qt ?_);have p:((l.length:Int)==0)=l.isEmpty:=by
   cases l<;>simp;omega
  rw[p];refine Ea (Qh λ_=>Ea (Qg9 _ l 0 (XT _) g i d.1 k) (Qa _)) ?_
  grind[Qa]
mutual
def hP:Part->Nat
 |⟨_,_,ps⟩=>bif ps.isEmpty then 0 else 1+hPs ps
def hPs:List Part->Nat
 |[]=>0
 |p::r=>max (hP p) (hPs r)
end
theorem QmU(p:Part):hP p=bif p.Parts.isEmpty then 0 else 1+hPs p.Parts:=by cases p;rfl
theorem QiB{p:Part}:∀{l:List Part},p∈l->hP p<=hPs l
 |q::r,h=>by
  simp[hPs];rcases X6.1 h with rfl|h
  .omega
  .have:=QiB h;omega
theorem QgN{α:Type}(l:List α):((l.length:Int)==0)=l.isEmpty:=by
 cases l<;>simp;omega
theorem QaJ:∀l:List Part,l.length<=szPs l
 |[]=>XT _
 |p::r=>by have:=QaJ r;rw[szPs,YD,X0];omega
theorem Qdy:∀(m:Nat) (l:List Part) (k:Nat),szPs l<=m->k<=17->l.length<=1048576->(∀x∈l,Part.wf x)->Ev (λn=>F_l n l (k:Int)) ((min (hPs l) k:Nat):Int):=by
 intro m
 induction m using Nat.strongRecOn with
 |_ m u=>
 intro l k H G F z;refine Yy ?_;show Ev (λn=>B_l (F_l n) n l (k:Int)) _;unfold B_l;have loop:∀(r:List Part) (i:Nat) (a:Nat),l.drop i=r->i<=l.length->a<=k->EvI (λn=>F_dd n l (k:Int) (F_l n)) ((a:Int),(i:Int)) ((max a (min (hPs r) k):Nat):Int):=by
  intro r
  induction r with
  |nil=>
   intro i a g h d;refine Ej ?_;unfold F_dd;simp only[QJ g h,Vp,XJ];refine(Qa _).eq ?_;simp[hPs]
  |cons p r e=>
   intro i a g h y;obtain⟨d,f⟩:=Qv (by omega) g;obtain⟨s,q⟩:=Yc (z p d.mem);by_cases t:0<k
   .have j:i64.wrap ((k:Int)-1)=((k-1:Nat):Int):=by rw[Qq (by omega) (by omega)];omega
    have B:=YS d.mem;rw[YD]at B;have step:Ev (λn=>F_dd n l (k:Int) (F_l n) ((a:Int),(i:Int))) (.cont (((max a (min (hP p) k):Nat):Int),((i+1:Nat):Int))):=by
     unfold F_dd;simp only[d.lt,Vo,Qx (show(0:Int)<(k:Int)by omega),XJ,d.ix,d.nx,j,bne,QgN];rw[QmU];cases E:p.Parts.isEmpty with
     |true=>
      simp_all[Qa]
     |false=>
      simp only[Xh,Vo,Vp];refine Ea (Ea (u (szPs p.Parts) (by omega) p.Parts (k-1) (XT _) (by omega) s q) (Qa _)) ((Qa _).eq ?_);have w:i64.wrap (1+((min (hPs p.Parts) (k-1):Nat):Int))=((1+min (hPs p.Parts) (k-1):Nat):Int):=by rw[Qq (by omega) (by omega)];omega
      rw[w];congr 2;split<;>omega
    refine(Ex step (e (i+1) _ f (by have:=d.lt';omega) (by omega))).eq ?_;rw[hPs];omega
   simp_all[Ej,F_dd,Qa]
 refine Ea ((loop l 0 0 rfl (XU _) (XU _)).ev) ((Qa _).eq ?_);omega
theorem Qdz:∀(m:Nat) (l:List Part),szPs l<=m->l.length<=1048576->(∀x∈l,Part.wf x)->Ev (λn=>F_r n l) ((min (szPs l) 257:Nat):Int):=by
 intro m
 induction m using Nat.strongRecOn with
 |_ m w=>
 intro l F t B;refine Yy ?_;show Ev (λn=>B_r (F_r n) n l) _;have loop:∀(r:List Part) (i:Nat) (a:Nat),l.drop i=r->i<=l.length->a<=1048576->∃b:Nat,EvI (λn=>F_hh n l (F_r n)) ((a:Int),(i:Int)) (b:Int)/\min b 257=min (a+(szPs r-r.length)) 257:=by
  intro r
  induction r with
  |nil=>
   intro i a g j _;refine⟨a,Ej ?_,by simp[szPs]⟩;unfold F_hh;simp only[QJ g j,Vp,XJ];exact Qa _
  |cons p r e=>
   intro i a g j y;obtain⟨d,f⟩:=Qv (by omega) g;obtain⟨u,s⟩:=Yc (B p d.mem);have E:=YS d.mem;rw[YD]at E;have z:=QaJ r;by_cases k:a<=256
   .obtain⟨b,h,q⟩:=e (i+1) (a+min (szPs p.Parts) 257) f (by have:=d.lt';omega) (by omega);refine⟨b,Ex ?_ h,?_⟩
    .unfold F_hh;simp only[d.lt,Vo,Qx (show(a:Int)<=256 by omega),XJ,d.ix,d.nx];refine Ea (w (szPs p.Parts) (by omega) p.Parts (XT _) u s) ((Qa _).eq ?_);rw[Qq (by omega) (by omega)];congr 2
     all_goals omega
    .rw[q,szPs,YD,X0];omega
   .refine⟨a,Ej ?_,by omega⟩;unfold F_hh;simp only[d.lt,Vo,Qy (show¬(a:Int)<=256 by omega),XJ,Vp];exact Qa _
 obtain⟨b,h,q⟩:=loop l 0 l.length rfl (XU _) t;refine Ea h.ev ((Qa _).eq ?_);have:=QaJ l;omega
theorem Qk8:∀(m:Nat) (l:List Part) (k:Nat),szPs l<=m->hPs l<=k->k<=17->szPs l<=256->(∀x∈l,Part.wf x)->Ev (λn=>F_s n l (k:Int)) ((hPs l:Int),(szPs l:Int)):=by
 intro m
 induction m using Nat.strongRecOn with
 |_ m J=>
 intro l k R P s e O;have t:=QaJ l;refine Yy ?_;show Ev (λn=>B_s (F_s n) n l (k:Int)) _;unfold B_s;have loop:∀(r:List Part) (i:Nat) (a b:Nat),l.drop i=r->i<=l.length->a<=17->b+(szPs r-r.length)<=256->EvI (λn=>F_gt n l (k:Int) (F_s n)) ((a:Int),(b:Int),(i:Int)) (((max a (hPs r):Nat):Int),((b+(szPs r-r.length):Nat):Int)):=by
  intro r
  induction r with
  |nil=>
   intro i a b f u _ _;refine Ej ?_;unfold F_gt;simp only[QJ f u,Vp,XJ]
   grind[Qa,hPs,szPs]
  |cons p r g=>
   intro i a b f u z q;obtain⟨d,h⟩:=Qv (by omega) f;obtain⟨Q,L⟩:=Yc (O p d.mem);have F:=YS d.mem;have j:=QiB d.mem;rw[YD]at F;have E:=QaJ r;rw[szPs,YD,X0]at q;have step:Ev (λn=>F_gt n l (k:Int) (F_s n) ((a:Int),(b:Int),(i:Int))) (.cont (((max a (hP p):Nat):Int),((b+szPs p.Parts:Nat):Int),((i+1:Nat):Int))):=by
    unfold F_gt;simp only[d.lt,Vo,d.ix,XJ,d.nx,QgN];rw[QmU]at j⊢;cases w:p.Parts.isEmpty with
    |true=>
     have y:p.Parts=[]:=by simpa using w
     simp only[Vo,XJ];rw[y];simp only[szPs,Xx,Nat.max_zero];exact Qa _
    |false=>
     rw[w]at j;simp only[Vp]at j⊢;have B:0<k:=by omega
     have G:i64.wrap ((k:Int)-1)=((k-1:Nat):Int):=by rw[Qq (by omega) (by omega)];omega
     have N:((k:Int)==0)=false:=beq_false_of_ne (by omega);rw[N,Qy (show¬(256:Int)<(b:Int)by omega),G];simp only[Vp,XJ];refine Ea (Ea (J (szPs p.Parts) (by omega) p.Parts (k-1) (XT _) (by omega) (by omega) (by omega) L) (Qa _)) ((Qa _).eq ?_);have M:i64.wrap ((hPs p.Parts:Int)+1)=((hPs p.Parts+1:Nat):Int):=QU (by omega);have H:i64.wrap ((b:Int)+(szPs p.Parts:Int))=((b+szPs p.Parts:Nat):Int):=by rw[Qq (by omega) (by omega)];omega
     simp only[M,H];congr 2;split<;>omega
   refine(Ex step (g (i+1) _ _ h (by have:=d.lt';omega) (by omega) (by omega))).eq ?_;rw[hPs,szPs,YD,X0];congr 1<;>omega
 refine Ea ((loop l 0 0 l.length rfl (XU _) (by omega) (by omega)).ev) ((Qa _).eq ?_)
 grind
def repS:Nat->List Int->List Int->List Int
 |0,out,_=>out
 |k+1,out,lap=>if 256<out.length then out else repS k (out++lap) lap
mutual
def lapS:Part->List Int
 |⟨m,laps,ps⟩=>bif decide (0<laps)then expS [] ps else[m]
def expS:List Int->List Part->List Int
 |out,[]=>out
 |out,p::r=>expS (repS (p.Laps.toNat+(bif decide (0<p.Laps)then 0 else 1)) out (lapS p)) r
end
theorem QaA(p:Part):lapS p=bif decide (0<p.Laps)then expS [] p.Parts else[p.Mat]:=by cases p;rfl
theorem QcC{k:Nat}{a d:List Int}(h:256<a.length):repS k a d=a:=by
 cases k with
 |zero=>rfl
 |succ k=>rw[repS,Vs h]
theorem QcL:∀(l:List Part) {out:List Int},256<out.length->expS out l=out
 |[],out,h=>by rw[expS]
 |p::r,out,h=>by rw[expS,QcC h];exact QcL r h
theorem QcB:∀(k:Nat) (out lap:List Int),(repS k out lap).length<=max out.length (256+lap.length)
 |0,out,lap=>by rw[repS];omega
 |k+1,out,lap=>by
  rw[repS];split
  .omega
  .have:=QcB k (out++lap) lap
   grind
theorem QeC:∀(m:Nat) (l:List Part) (a:List Int),szPs l<=m->(expS a l).length<=max a.length (256+257*szPs l):=by
 intro m
 induction m using Nat.strongRecOn with
 |_ m i=>
 intro l;have e:∀p∈l,szPs l<=m->(lapS p).length<=257*szP p:=by
  intro p f s;have n:=YS f;rw[QaA,YD]at*;cases decide (0<p.Laps)with
  |true=>
   have:=i (szPs p.Parts) (by omega) p.Parts [] (XT _)
   grind
  |false=>simp;omega
 have h:∀(r:List Part) (a:List Int),(∀p∈r,(lapS p).length<=257*szP p)->(expS a r).length<=max a.length (256+257*szPs r):=by
  intro r
  induction r with
  |nil=>intro a _;rw[expS];omega
  |cons p r d=>
   intro a g;rw[expS,szPs];have k:=d (repS (p.Laps.toNat+(bif decide (0<p.Laps)then 0 else 1)) a (lapS p)) λq j=>g q (by simp[j])
   grind[QcB]
 grind
theorem QgR(p:Part):(lapS p).length<=257*szP p:=by
 rw[QaA,YD];cases decide (0<p.Laps)with
 |true=>
  have:=QeC _ p.Parts [] (XT _)
  grind
 |false=>simp;omega
theorem Qjv(R:Int):∀(m:Nat) (l:List Part),szPs l<=m->szPs l<=256->l.length<=1048576->(∀x∈l,Part.wf x)->partsS R l=true->Ev (λn=>F_u n l) (expS [] l):=by
 intro m
 induction m using Nat.strongRecOn with
 |_ m X=>
 intro l hm G hl hw O;rw[Y1,Xs]at O;refine Yy ?_;show Ev (λn=>B_u (F_u n) n l) _;unfold B_u;have inner:∀(p:Part) (e:List Int) (g:p.Laps=0\/0<p.Laps/\p.Laps<=64) (F:e.length<=100000) (j:Nat) (k:Nat) (a:List Int),j+k=p.Laps.toNat+(bif decide (0<p.Laps)then 0 else 1)->a.length<=200000->
   ∃d:Ctl (List Int) (Ctl ((List Int)×Int) (Ctl (List Int) (List Int))),EvI (λn=>F_fa n p e) (a,(j:Int)) d/\
    (d=.cont (repS k a e)\/(256<(repS k a e).length/\d=.done (.done (.done (repS k a e))))):=by
  intro p e g F j k
  induction k generalizing j with
  |zero=>
   intro a B _;refine⟨_,Ej (b:=.cont a) ?_,.inl rfl⟩;unfold F_fa;have:¬((j:Int)<if p.Laps<1 then 1 else p.Laps):=by
    grind
   rw[Qy this];exact Qa _
  |succ k N=>
   intro a B z;have u:((j:Int)<if p.Laps<1 then 1 else p.Laps):=by
    rcases g with h|⟨h,h'⟩
    .rw[h]at B⊢;simp at B⊢;omega
    .rw[Qx h]at B;simp at B;rw[Vr (by omega)];omega
   by_cases s:256<a.length
   .refine⟨_,Ej (b:=.done (.done (.done a))) ?_,.inr ⟨by rw[QcC s];exact s,by rw[QcC s]⟩⟩;unfold F_fa;rw[Qx u,Qx (show(256:Int)<(a.length:Int)by omega)];exact Qa _
   .obtain⟨d,t,w⟩:=N (j+1) (a++e) (by omega) (by rw[X3];omega);refine⟨d,Ex ?_ t,by rw[repS,Vr s];exact w⟩;unfold F_fa;rw[Qx u,Qy (show¬(256:Int)<(a.length:Int)by omega)];refine QaP (Qt (Qu (QaN a e (by omega)) ?_));rw[QU (by omega)];exact Qa _
 have loop:∀(r:List Part) (i:Nat) (a:List Int),l.drop i=r->i<=l.length->a.length<=100000->
   ∃d:Ctl (List Int) (List Int),EvI (λn=>F_gq n l (F_u n)) (a,(i:Int)) d/\(d=.cont (expS a r)\/d=.done (expS a r)):=by
  intro r
  induction r with
  |nil=>
   intro i a H Q _;refine⟨.cont a,Ej ?_,.inl (by rw[expS])⟩;unfold F_gq;simp only[QJ H Q,Vp];exact Qa _
  |cons p r J=>
   intro i a H Q z;obtain⟨f,L⟩:=Qv (by omega) H;have u:=f.lt';have T:=YS f.mem;obtain⟨W,w2⟩:=Yc (hw p f.mem);have g:=O p f.mem;rw[Qa4]at g;have q:p.Laps=0\/0<p.Laps/\p.Laps<=64:=by
    cases P:(p.Laps==0)with
    |true=>exact .inl (by simpa using P)
    |false=>
     rw[P]at g;simp only[Vp,inR,XW,Vq]at g;exact .inr ⟨by omega,by omega⟩
   have V:=QgR p;have s:Ev (λn=>((bif decide (0<p.Laps)then(F_u n p.Parts).bind λM=>some M else some [p.Mat]):Option (List Int))) (lapS p):=by
    rw[QaA];refine Qah (λh=>?_) (λ_=>Qa _);rw[YD]at T;refine Ea (X (szPs p.Parts) (by omega) p.Parts (XT _) (by omega) W w2 ?_) (Qa _);have:(p.Laps==0)=false:=by
     simp only[Vq]at h;exact beq_false_of_ne (by omega)
    rw[this]at g;simp only[Vp,XW]at g;exact g.2.2.2
   obtain⟨d,t,w⟩:=inner p (lapS p) q (by omega) 0 _ a (Xw _) (by omega);rw[expS];rcases w with rfl|⟨y,rfl⟩
   .obtain⟨E,Y,q2⟩:=J (i+1) (repS (p.Laps.toNat+(bif decide (0<p.Laps)then 0 else 1)) a (lapS p)) L (by omega) (by
     have:=QcB (p.Laps.toNat+(bif decide (0<p.Laps)then 0 else 1)) a (lapS p);omega)
    refine⟨E,Ex ?_ Y,q2⟩;unfold F_gq;simp only[f.lt,Vo,f.ix,XJ,f.nx];exact Ea s (Ea t.ev (Qa _))
   .refine⟨.done (repS (p.Laps.toNat+(bif decide (0<p.Laps)then 0 else 1)) a (lapS p)),Ej ?_,.inr (by rw[QcL r y])⟩;unfold F_gq;simp only[f.lt,Vo,f.ix,XJ,f.nx];exact Ea s (Ea t.ev (Qa _))
 obtain⟨d,t,w⟩:=loop l 0 [] rfl (XU _) (by simp);rcases w with rfl|rfl
 iterate 2 exact Ea t.ev (Qa _)
theorem Qf8(M:Int):∀(m:Nat) (l:List Part),szPs l<=m->szPs l<=256->l.length<=1048576->(∀x∈l,Part.wf x)->partsS M l=true->Ev (λn=>F_x n l) (expS [] l):=by
 intro m
 induction m using Nat.strongRecOn with
 |_ m P=>
 intro l X t W V F;rw[Y1,Xs]at F;refine Yy ?_;show Ev (λn=>B_x (F_x n) n l) _;unfold B_x;have inner:∀(p:Part) (i:Nat) (e:At l i p) (J:List Int) (f:List Int) (g:0<p.Laps/\p.Laps<=64) (s:f.length<=100000) (j:Nat) (k:Nat) (a:List Int),j+k=p.Laps.toNat->a.length<=200000->
   EvI (λn=>F_fo n l (J,(i:Int)) f) (a,(j:Int)) (repS k a f):=by
  intro p i e J f g s j k
  induction k generalizing j with
  |zero=>
   intro a T _;refine Ej ?_;unfold F_fo;simp only[e.ix,XJ];rw[Qy (show¬(j:Int)<p.Laps by omega)];exact Qa _
  |succ k B=>
   intro a T q;by_cases h:256<a.length
   .refine Ej ?_;rw[QcC h];unfold F_fo;simp only[e.ix,XJ];rw[Qx (show(j:Int)<p.Laps by omega),Qy (show¬(a.length:Int)<=256 by omega)];exact Qa _
   .rw[repS,Vr h];refine Ex ?_ (B (j+1) (a++f) (by omega) (by rw[X3];omega));unfold F_fo;simp only[e.ix,XJ];rw[Qx (show(j:Int)<p.Laps by omega),Qx (show(a.length:Int)<=256 by omega)];simp only[Vo,XJ];refine Qu (QaN a f (by omega)) ?_;rw[QU (by omega)];exact Qa _
 have loop:∀(r:List Part) (i:Nat) (a:List Int),l.drop i=r->i<=l.length->a.length<=100000->
   EvI (λn=>F_fi n l (F_x n)) (a,(i:Int)) (expS a r):=by
  intro r
  induction r with
  |nil=>
   intro i a u H _;refine Ej ?_;rw[expS];unfold F_fi;simp only[QJ u H,Vp,XJ];exact Qa _
  |cons p r y=>
   intro i a u H q;obtain⟨e,z⟩:=Qv (by omega) u;have R:=e.lt';have N:=YS e.mem;by_cases h:256<a.length
   .rw[QcL _ h];refine Ej ?_;unfold F_fi;simp only[e.lt,Vo,Qy (show¬(a.length:Int)<=256 by omega),XJ,Vp];exact Qa _
   obtain⟨O,Q⟩:=Yc (V p e.mem);have g:=F p e.mem;rw[Qa4]at g;have w:=QgR p;rw[expS];refine Ex ?_ (y (i+1) _ z (by omega) (by
    have:=QcB (p.Laps.toNat+(bif decide (0<p.Laps)then 0 else 1)) a (lapS p);omega))
   unfold F_fi;simp only[e.lt,Vo,Qx (show(a.length:Int)<=256 by omega),XJ,e.ix,e.nx];cases G:(p.Laps==0)with
   |true=>
    have L:p.Laps=0:=by simpa using G
    simp only[Vo];refine Ea (Qu (QaN a [p.Mat] (by simp;omega)) (Qa _)) ((Qa _).eq ?_);rw[QaA,L];simp[repS,h]
   |false=>
    rw[G]at g;simp only[Vp,XW,inR,Vq]at g;have d:0<p.Laps/\p.Laps<=64:=⟨by omega,by omega⟩;simp only[Vp];rw[YD]at N;refine Ea (Ea (P (szPs p.Parts) (by omega) p.Parts (XT _) (by omega) O Q g.2.2.2) (Ea ?_ (Qa _))) (Qa _);have E:=QaA p;rw[Qx d.1,Vo]at E;have:=(inner p i e a (expS [] p.Parts) d (by rw[<- E];rw[YD]at w;omega) 0 p.Laps.toNat a (by omega) (by omega)).ev;rw[<- E]at this⊢;rw[Qx d.1];exact this
 exact Ea (loop l 0 [] rfl (XU _) (by simp)).ev (Qa _)
def kindAt(c:Course)(m:Int):Int:=((c.Mats[m.toNat]?).map (·.Kind)).getD 0
def hasLeg(c:Course)(a b:Int):Bool:=c.Legs.any λl=>(l.From==a)&&(l.To==b)
def rokS(c:Course)(len:Nat):Nat->Int->List Int->Bool
 |_,_,[]=>true
 |i,prev,m::r=>((kindAt c m==1)==decide (i=0))&&(((kindAt c m==3)==decide (i+1=len))&&((decide (i=0)||hasLeg c prev m)&&rokS c len (i+1) m r))
def routeR(c:Course)(d:Distance)(r:List Int):Bool:=
 (decide (2<=r.length)&&decide (r.length<=256))&&(rokS c r.length 0 0 r&&((bif decide (0<=d.Extra)then !((r.count d.Extra:Int)==0)&&((kindAt c d.Extra==2)&&hasLeg c d.Extra d.Extra)else true)&&d.Cutoffs.all λx=>decide (x.Lap<=(r.count x.Mat:Int))))
def routeS(c:Course)(d:Distance):Bool:=routeR c d (expS [] d.Route)
def cntM(l:List Int):List (Int×Int):=l.foldl (λm k=>Q2 m k (QA m k 0+1)) []
theorem QjC(l:List Int)(k:Int):cntM (l++[k])=Q2 (cntM l) k (QA (cntM l) k 0+1):=by unfold cntM;simp
theorem QeR(l:List Int)(k:Int):QA (cntM l) k 0=(l.count k:Int):=by
 have a:∀(l:List Int) (m:List (Int×Int)),QA (l.foldl (λm k=>Q2 m k (QA m k 0+1)) m) k 0=QA m k 0+l.count k:=by
  intro l
  induction l with
  |nil=>simp
  |cons x l d=>
   grind[Qej]
 grind[cntM,Qjh]
theorem QhK(d:Int):∀(m:Nat) (l:List Part) (a:List Int),szPs l<=m->partsS d l=true->(∀x∈a,0<=x/\x<=d)->∀x∈expS a l,0<=x/\x<=d:=by
 intro m
 induction m using Nat.strongRecOn with
 |_ m s=>
 intro l;have rep:∀(k:Nat) (a e:List Int),(∀x∈a,0<=x/\x<=d)->(∀x∈e,0<=x/\x<=d)->∀x∈repS k a e,0<=x/\x<=d:=by
  intro k
  induction k with
  |zero=>intro a e w _;exact w
  |succ k q=>
   grind[repS]
 have t:∀(r:List Part) (a:List Int),szPs r<=m->partsS d r=true->(∀x∈a,0<=x/\x<=d)->∀x∈expS a r,0<=x/\x<=d:=by
  intro r
  induction r with
  |nil=>intro a _ _ h;exact h
  |cons p r g=>
   intro a y n h;rw[szPs,YD]at y;rw[partsS,XW]at n;obtain⟨f,u⟩:=n;refine g _ (by omega) u (rep _ _ _ h ?_);rw[QaA];rw[Qa4]at f;cases i:(p.Laps==0)with
   |true=>
    have e0:=by simpa using i
    rw[i,Vo,XW]at f;have:=f.1;unfold inR at this;simp[XW,Vq]at this;rw[e0];intro x j;simp at j;subst j;exact this
   |false=>
    rw[i]at f;simp[Vp,XW,inR,Vq]at f;rw[Qx (show 0<p.Laps by omega),Vo];exact s (szPs p.Parts) (by omega) p.Parts [] (XT _) f.2.2.2 (by simp)
 grind
theorem QcF{c:Course}{m:Int}(d:0<=m)(e:m<=(c.Mats.length:Int)-1):∃x:Mat,idx c.Mats m=some x/\x.Kind=kindAt c m:=by
 obtain⟨k,rfl⟩:∃k:Nat,m=k:=⟨m.toNat,by omega⟩;have a:k<c.Mats.length:=by omega
 simp_all[Qo,kindAt]
theorem QgO(c:Course)(a b:Int):QA (Yg legKey true c.Legs) {from_:=a,to_:=b} false=hasLeg c a b:=by
 rw[Qdu];by_cases h:{from_:=a,to_:=b}∈c.Legs.map legKey
 .rw[Vs h];obtain⟨l,d,e⟩:=Xe.1 h;obtain⟨f,g⟩:=ends_eq.1 e;exact(Xt.2 ⟨l,d,by simp[f,g]⟩).symm
 .rw[Vr h]
  symm
  rw[VL];intro q;obtain⟨l,d,e⟩:=Xt.1 q;simp[XW,Vx]at e
  grind[legKey]
theorem Qlg(c:Course)(w:CourseOk c)(a b:Int):∃v:Int,Ev (λn=>F_bc n c a b) v/\decide (v<0)= !hasLeg c a b:=by
 have q:c.Legs.length<=4611686018427387904:=by have:=w.legs;omega
 have step:∀i x,At c.Legs i x->Ev (λn=>F_hr n c a b i) (bif (x.From==a)&&(x.To==b)then .done (.done i)else .cont (i+1)):=by
  intro i x e;unfold F_hr;simp only[e.lt,e.ix,e.nx];refine Ea (Ei λ_=>Qa _) ?_
  grind[Qa]
 have loop:∀(r:List Leg) (i:Nat),c.Legs.drop i=r->i<=c.Legs.length->∃d:Ctl Unit Int,EvI (λn=>F_hr n c a b) i d/\((r.any λl=>(l.From==a)&&(l.To==b))=true->∃j:Nat,d=.done j)/\((r.any λl=>(l.From==a)&&(l.To==b))=false->d=.cont ()):=by
  intro r
  induction r with
  |nil=>
   intro i m p;refine⟨.cont (),Ej ?_,λh=>(by simp at h),λ_=>rfl⟩
   grind[F_hr,QJ,Qa]
  |cons x r t=>
   intro i m p;obtain⟨e,g⟩:=Qv q m;have s:=step i x e;rw[List.any_cons];cases h:((x.From==a)&&(x.To==b))with
   |true=>
    rw[h]at s;exact⟨.done i,Ej s,λ_=>⟨i,rfl⟩,λh=>by simp at h⟩
   |false=>
    rw[h]at s;obtain⟨d,f,k⟩:=t (i+1) g (by have:=e.lt';omega);exact⟨d,Ex s f,by simpa using k⟩
 obtain⟨d,f,k,u⟩:=loop c.Legs 0 rfl (XU _);unfold hasLeg;cases h:c.Legs.any λl=>(l.From==a)&&(l.To==b)with
 |true=>
  obtain⟨j,rfl⟩:=k h;exact⟨j,Ea f.ev (Qa _),by simp⟩
 |false=>
  obtain rfl:=u h;exact⟨-1,Ea f.ev (Qa _),by simp⟩
theorem Qhg(l:List Int)(k:Int)(s:l.length<=1048576):Ev (λn=>F_bm n l k) (l.count k:Int):=by
 have loop:∀(r:List Int) (i:Nat) (a:Nat),l.drop i=r->i<=l.length->a<=i->EvI (λn=>F_gk n l k) (a,i) (a+r.count k):=by
  intro r
  induction r with
  |nil=>
   grind[EvI.done,F_gk,QJ,Qa]
  |cons x r f=>
   intro i a j q p;obtain⟨d,e⟩:=Qv (by omega) j;have m:=d.lt';have g:i64.wrap (a+1)=a+1:=QU (by omega);rw[List.count_cons];cases h:(x==k)with
   |true=>
    refine(Ex ?_ (f (i+1) (a+1) e (by omega) (by omega))).eq ?_
    .unfold F_gk;simp only[d.lt,d.ix,XJ,d.nx,h,g];exact Qa _
    grind
   |false=>
    refine(Ex ?_ (f (i+1) a e (by omega) (by omega))).eq ?_
    .unfold F_gk;simp only[d.lt,d.ix,XJ,d.nx,h];exact Qa _
    .simp
 exact Ea ((loop l 0 0 rfl (XU _) (XT _)).ev) ((Qa _).eq (by omega))
structure NumOk (c:Course):Prop where
 kinds:∀m∈c.Mats,1<=m.Kind/\m.Kind<=3
 dist:∀d∈c.Distances,-1<=d.Extra/\d.Extra<=(c.Mats.length:Int)-1/\partsS ((c.Mats.length:Int)-1) d.Route=true
theorem Qhu{c:Course}(h:numbersS c=true):NumOk c:=by
 unfold numbersS at h;simp[XW,Xs]at h;refine⟨λm a=>?_,λd e=>?_⟩
 .grind[inR]
 simp_all[distS,inR]
theorem Qji{c:Course}(q:NumOk c){m:Int}(g:0<=m)(f:m<=(c.Mats.length:Int)-1):1<=kindAt c m/\kindAt c m<=3:=by
 obtain⟨x,a,d⟩:=QcF g f;have:=by
  obtain⟨_,e⟩:=Qbn a;exact VG e
 rw[<- d];exact q.kinds x this
theorem QkS{c:Course}(q:NumOk c){d:Distance}(hd:d∈c.Distances):∀x∈expS [] d.Route,0<=x/\x<=(c.Mats.length:Int)-1:=
 QhK _ _ d.Route [] (XT _) (q.dist d hd).2.2 (by simp)
theorem QgG(c:Course)(len i:Nat)(prev m:Int)(r:List Int):rokS c len i prev (m::r)=(((kindAt c m==1)==decide (i=0))&&(((kindAt c m==3)==decide (i+1=len))&&((decide (i=0)||hasLeg c prev m)&&rokS c len (i+1) m r))):=rfl
theorem Qix(i:Nat):((i:Int)==0)=decide (i=0):=by
 grind
theorem Qfa(c:Course)(r:List Int)(z:2<=r.length)(R:r.length<=256)(J:∀x∈r,0<=x/\x<=(c.Mats.length:Int)-1):
  Ev (λn=>iter (F_ej n c (Yg legKey true c.Legs) r) n ([],0)) (bif rokS c r.length 0 0 r then .cont (cntM r)else .done false):=by
 have loop:∀(t:List Int) (i:Nat) (d:Int),r.drop i=t->i<=r.length->(0<i->At r (i-1) d)->EvI (λn=>F_ej n c (Yg legKey true c.Legs) r) (cntM (r.take i),(i:Int)) (bif rokS c r.length i d t then .cont (cntM r)else .done false):=by
  intro t
  induction t with
  |nil=>
   intro i d q u _;refine Ej ?_;unfold F_ej;simp only[QJ q u,Vp,rokS,Vo]
   simp_all[VH,Qa]
  |cons m t H=>
   intro i d q u M;obtain⟨e,g⟩:=Qv (by omega) q;have N:=e.lt';obtain⟨B,Q⟩:=J m e.mem;obtain⟨x,E,P⟩:=QcF B Q;have O:i64.wrap ((r.length:Int)-1)=((r.length-1:Nat):Int):=by rw[Qq (by omega) (by omega)];omega
   have F:((i:Int)==((r.length-1:Nat):Int))=decide (i+1=r.length):=by grind
   have G:Ev (λn:Nat=>((bif ((x.Kind==1) != ((i:Int)==0))then some true else(bif ((x.Kind==3) != ((i:Int)==(i64.wrap ((r.length:Int)-1))))then some true else(bif decide (0<(i:Int))then(idx r (i64.wrap ((i:Int)-1))).bind λp=>(some (QA (Yg legKey true c.Legs) ({from_:=p,to_:=m:Ui}) false)).bind λj=>some (!j)else some false))):Option Bool))
     (!(((kindAt c m==1)==decide (i=0))&&(((kindAt c m==3)==decide (i+1=r.length))&&(decide (i=0)||hasLeg c d m)))):=by
    rw[P,O,F,Qix];refine Ew (Qh λ_=>Qh λ_=>Qah (v:= !hasLeg c d m) (w:=false) (λh=>?_) λ_=>Qa _) ?_
    .have k:0<i:=by simpa using h
     have L:i64.wrap ((i:Int)-1)=((i-1:Nat):Int):=by rw[Qq (by omega) (by omega)];omega
     rw[L,(M k).ix];simp only[XJ,QgO];exact Qa _
    grind
   have f:i64.wrap (QA (cntM (r.take i)) m 0+1)=QA (cntM (r.take i)) m 0+1:=by
    rw[QeR];have:(r.take i).count m<=i:=by have:=List.count_le_length (a:=m) (l:=r.take i);simp at this;omega
    exact Qq (by omega) (by omega)
   have step:Ev (λn=>F_ej n c (Yg legKey true c.Legs) r (cntM (r.take i),(i:Int))) (bif ((kindAt c m==1)==decide (i=0))&&(((kindAt c m==3)==decide (i+1=r.length))&&(decide (i=0)||hasLeg c d m))then .cont (cntM (r.take (i+1)),((i+1:Nat):Int))else .done (.done false)):=by
    unfold F_ej;simp only[e.lt,Vo,e.ix,XJ,e.nx,E];refine Ea G ?_;rw[f, <- QjC, <- e.take];cases(((kindAt c m==1)==decide (i=0))&&(((kindAt c m==3)==decide (i+1=r.length))&&(decide (i=0)||hasLeg c d m)))<;>exact Qa _
   have y:rokS c r.length i d (m::t)=((((kindAt c m==1)==decide (i=0))&&(((kindAt c m==3)==decide (i+1=r.length))&&(decide (i=0)||hasLeg c d m)))&&rokS c r.length (i+1) m t):=by rw[QgG];simp only[Bool.and_assoc]
   rw[y];cases s:(((kindAt c m==1)==decide (i=0))&&(((kindAt c m==3)==decide (i+1=r.length))&&(decide (i=0)||hasLeg c d m)))with
   |false=>
    rw[s]at step;exact Ej step
   |true=>
    rw[s]at step;rw[Vz];exact Ex step (H (i+1) m g (by omega) (λ_=>by simpa using e))
 exact(loop r 0 0 rfl (XU _) (by omega)).ev
theorem QhW(c:Course)(w:CourseOk c)(q:NumOk c)(d:Distance)(e:d∈c.Distances)(t:∀x∈d.Route,Part.wf x)(y:szPs d.Route<=256):
  Ev (λn=>F_dx n c d (Yg legKey true c.Legs)) (routeS c d):=by
 have j:=QaJ d.Route;have k:=QkS q e;have a:=QeC _ d.Route [] (XT _);unfold F_dx routeS;refine Ea (Qjv _ _ d.Route (XT _) y (by omega) t (q.dist d e).2.2) ?_;generalize expS [] d.Route=r at k a⊢;unfold routeR;have e3:=by
  have:r.length<=1048576:=by simp at a;omega
  exact QaI this
 rw[e3];have l:(decide ((r.length:Int)-1<1)||decide (256<=(r.length:Int)-1))= !(decide (2<=r.length)&&decide (r.length<=256)):=by
  grind
 refine Ea (Ew (Qh λ_=>Qa _) l) ?_;cases i:(decide (2<=r.length)&&decide (r.length<=256))with
 |false=>exact Qa _
 |true=>
  simp[XW,Vq]at i;refine Qt (Ea (Qfa c r i.1 i.2 k) ?_);cases rokS c r.length 0 0 r with
  |false=>exact Qa _
  |true=>
   have p:Ev (λn=>(bif decide (0<=d.Extra)then(some (QA (cntM r) d.Extra 0)).bind λg=>(bif (g==0)then some true else(idx c.Mats d.Extra).bind λf=>(bif (f.Kind != 2)then some true else(some (QA (Yg legKey true c.Legs) ({from_:=d.Extra,to_:=d.Extra:Ui}) false)).bind λh=>some (!h)))else some false))
     (!(bif decide (0<=d.Extra)then !((r.count d.Extra:Int)==0)&&((kindAt c d.Extra==2)&&hasLeg c d.Extra d.Extra)else true)):=by
    rw[QeR];cases u:decide (0<=d.Extra)with
    |false=>exact Qa _
    |true=>
     obtain⟨x,m,s⟩:=QcF (by simpa using u) (q.dist d e).2.1;simp only[XJ,m,QgO,s];refine Ew (Qh λ_=>Qh λ_=>Qa _) ?_;rw[bne];cases((r.count d.Extra:Int)==0)<;>cases(kindAt c d.Extra==2)<;>cases hasLeg c d.Extra d.Extra<;>rfl
   refine Ea p ?_;cases(bif decide (0<=d.Extra)then !((r.count d.Extra:Int)==0)&&((kindAt c d.Extra==2)&&hasLeg c d.Extra d.Extra)else true)with
   |false=>exact Qa _
   |true=>
    refine Qt (Ea ?_ (Qa _));refine Jg d.Cutoffs _ (λn x=>F_es n x (cntM r)) (by have:=w.cut d e;omega) λx _=>?_;unfold F_es;rw[QeR];exact Qa _
theorem QeI(c:Course)(w:CourseOk c)(q:NumOk c)(r:List Int)(J:2<=r.length)(X:r.length<=256)(O:∀x∈r,0<=x/\x<=(c.Mats.length:Int)-1):
  Ev (λn=>iter (F_ei n c r) n 0) (bif rokS c r.length 0 0 r then .cont ()else .done false):=by
 have loop:∀(t:List Int) (i:Nat) (a:Int),r.drop i=t->i<=r.length->(0<i->At r (i-1) a)->EvI (λn=>F_ei n c r) (i:Int) (bif rokS c r.length i a t then .cont ()else .done false):=by
  intro t
  induction t with
  |nil=>
   intro i a p z _;refine Ej ?_;unfold F_ei;simp only[QJ p z,Vp,rokS,Vo];exact Qa _
  |cons m t N=>
   intro i a p z Q;obtain⟨f,j⟩:=Qv (by omega) p;have R:=f.lt';obtain⟨y,B⟩:=O m f.mem;obtain⟨x,L,V⟩:=QcF y B;have W:=Qji q y B;have T:i64.wrap ((r.length:Int)-1)=((r.length-1:Nat):Int):=by rw[Qq (by omega) (by omega)];omega
   have M:((i:Int)==((r.length-1:Nat):Int))=decide (i+1=r.length):=by grind
   have step:Ev (λn=>F_ei n c r (i:Int)) (bif ((kindAt c m==1)==decide (i=0))&&(((kindAt c m==3)==decide (i+1=r.length))&&(decide (i=0)||hasLeg c a m))then .cont ((i+1:Nat):Int)else .done (.done false)):=by
    unfold F_ei;simp only[f.lt,Vo,f.ix,XJ,f.nx,L,V,T,M,Qix];refine Ea (v:=if i=0 then 1 else if i+1=r.length then 3 else 2) (EA ?_) ?_
    .by_cases e:i=0
     .simp[e]
     .by_cases h:i+1=r.length
      iterate 2 simp[e,h]
    refine Ea (v:= !(((kindAt c m==1)==decide (i=0))&&(((kindAt c m==3)==decide (i+1=r.length))&&(decide (i=0)||hasLeg c a m)))) ?_ ?_
    .have E:Ev (λn:Nat=>(bif decide (0<(i:Int))then(idx r (i64.wrap ((i:Int)-1))).bind λs=>(F_bc n c s m).bind λl=>some (decide (l<0))else some false:Option Bool)) (!(decide (i=0)||hasLeg c a m)):=by
      by_cases e:i=0
      .subst e;exact Qa _
      .have P:i64.wrap ((i:Int)-1)=((i-1:Nat):Int):=by rw[Qq (by omega) (by omega)];omega
       obtain⟨v,G,F⟩:=Qlg c w a m;rw[Qx (show(0:Int)<(i:Int)by omega),P,(Q (by omega)).ix,Qy e];exact Ea G ((Qa _).eq (by rw[F];rfl))
     refine Ew (Qh λ_=>E) ?_;have k:(kindAt c m != if i=0 then 1 else if i+1=r.length then 3 else 2)= !(((kindAt c m==1)==decide (i=0))&&((kindAt c m==3)==decide (i+1=r.length))):=by
      have d:kindAt c m=1\/kindAt c m=2\/kindAt c m=3:=by omega
      by_cases e:i=0
      .rcases d with g|g|g<;>simp[g,e,show¬1=r.length by omega]
      .by_cases h:i+1=r.length
       .rcases d with g|g|g<;>simp[g,e,h]
       .rcases d with g|g|g<;>simp[g,e,h]
     rw[k];cases((kindAt c m==1)==decide (i=0))<;>cases((kindAt c m==3)==decide (i+1=r.length))<;>cases(decide (i=0)||hasLeg c a m)<;>rfl
    grind[Qa]
   have H:rokS c r.length i a (m::t)=((((kindAt c m==1)==decide (i=0))&&(((kindAt c m==3)==decide (i+1=r.length))&&(decide (i=0)||hasLeg c a m)))&&rokS c r.length (i+1) m t):=by rw[QgG];simp only[Bool.and_assoc]
   rw[H];cases u:(((kindAt c m==1)==decide (i=0))&&(((kindAt c m==3)==decide (i+1=r.length))&&(decide (i=0)||hasLeg c a m)))with
   |false=>
    rw[u]at step;exact Ej step
   |true=>
    rw[u]at step;rw[Vz];exact Ex step (N (i+1) m j (by omega) (λ_=>by simpa using f))
 exact(loop r 0 0 rfl (XU _) (by omega)).ev
theorem Qha(c:Course)(w:CourseOk c)(q:NumOk c)(d:Distance)(a:d∈c.Distances)(y:∀x∈d.Route,Part.wf x)(G:szPs d.Route<=256):
  Ev (λn=>F_dl n c d) (routeS c d):=by
 have m:=QaJ d.Route;have p:=QkS q a;have j:=QeC _ d.Route [] (XT _);unfold F_dl routeS;refine Ea (Qf8 _ _ d.Route (XT _) G (by omega) y (q.dist d a).2.2) ?_;generalize expS [] d.Route=r at p j⊢;unfold routeR;have s:(decide ((r.length:Int)<2)||decide (256<(r.length:Int)))= !(decide (2<=r.length)&&decide (r.length<=256)):=by
  grind
 refine Ea (Ew (Qh λ_=>Qa _) s) ?_;cases h:(decide (2<=r.length)&&decide (r.length<=256))with
 |false=>exact Qa _
 |true=>
  simp only[XW,Vq]at h;refine Qt (Ea (QeI c w q r h.1 h.2 p) ?_);cases rokS c r.length 0 0 r with
  |false=>exact Qa _
  |true=>
   have t:Ev (λn:Nat=>(bif (d.Extra != (-1))then(idx c.Mats d.Extra).bind λf=>(bif (f.Kind != 2)then some true else(F_bm n r d.Extra).bind λg=>(bif (g==0)then some true else(F_bc n c d.Extra d.Extra).bind λe=>some (decide (e<0))))else some false))
     (!(bif decide (0<=d.Extra)then !((r.count d.Extra:Int)==0)&&((kindAt c d.Extra==2)&&hasLeg c d.Extra d.Extra)else true)):=by
    have k:=q.dist d a;have H:(d.Extra != (-1))=decide (0<=d.Extra):=by rw[XY];simp;omega
    rw[H];cases F:decide (0<=d.Extra)with
    |false=>exact Qa _
    |true=>
     obtain⟨x,u,E⟩:=QcF (by simpa using F) k.2.1;obtain⟨v,B,z⟩:=Qlg c w d.Extra d.Extra;simp only[XJ,u,E];refine Ew (Qh λ_=>Ea (Qhg r _ (by omega)) (Qh λ_=>Ea B (Qa _))) ?_;rw[bne,z];cases((r.count d.Extra:Int)==0)<;>cases(kindAt c d.Extra==2)<;>cases hasLeg c d.Extra d.Extra<;>rfl
   refine Ea t ?_;cases(bif decide (0<=d.Extra)then !((r.count d.Extra:Int)==0)&&((kindAt c d.Extra==2)&&hasLeg c d.Extra d.Extra)else true)with
   |false=>exact Qa _
   |true=>
    refine Qt (Ea (Q9 d.Cutoffs (λx=>decide (x.Lap<=r.count x.Mat)) (Ctl.done false) (Ctl.cont ()) (by have:=w.cut d a;omega) (λi x l=>?_) ?_) ?_)
    .unfold F_kk;simp only[l.lt,l.ix,XJ,l.nx];refine Ea (Qhg r _ (by omega)) ?_;have:decide (r.count x.Mat<x.Lap)= !decide (x.Lap<=r.count x.Mat):=by rw[XY];simp
     rw[this];cases decide (x.Lap<=r.count x.Mat)<;>exact Qa _
    .unfold F_kk;simp only[Qao];exact Qa _
    .cases(d.Cutoffs.all λx=>decide (x.Lap<=r.count x.Mat))<;>exact Qa _
theorem Qdo{a b:Nat}(h:a+b<=4611686018427387904):i64.wrap ((a:Int)+(b:Int))=((a+b:Nat):Int):=by
 rw[Qq (by omega) (by omega)];omega
def lensC(c:Course):Nat:=c.Mats.length+c.Legs.length+c.Distances.length+c.Waves.length+c.Offences.length+c.Categories.length+c.Prizes.length
def fewD(d:Distance):Prop:=d.Cutoffs.length<=200/\szPs d.Route<=200/\hPs d.Route<=16
structure FewOk (c:Course):Prop where
 lens:lensC c<=200
 name:c.Name.length<=100
 dist:∀d∈c.Distances,fewD d
 ties:c.Ties.length<=200
theorem Qgc(c:Course)(w:CourseOk c)(q:PartsOk c)(L:c.Ties.length<=1048576)(hw:∀x∈c.Ties,Step.wf x):∃b,Ev (λn=>F_bx n c) b/\(b=true->FewOk c):=by
 have hm:=w.mats;have hg:=w.legs;have hd:=w.dist;have G:=w.wave;have ho:=w.off;have hc:=w.cat;have hp:=w.prize;have loop:∀(t:List Distance) (i s:Nat),c.Distances.drop i=t->i<=c.Distances.length->∃f:Ctl Int Bool,EvI (λn=>F_en n c) ((s:Int),(i:Int)) f/\(f=.done false\/ ∃v:Nat,f=.cont (v:Int)/\(v<=200->s<=v/\ ∀d∈t,fewD d)):=by
  intro t
  induction t with
  |nil=>
   intro i s B J;refine⟨.cont (s:Int),Ej ?_,Or.inr ⟨s,rfl,λ_=>⟨XT _,by simp⟩⟩⟩;unfold F_en;simp only[QJ B J,Vp,XJ];exact Qa _
  |cons d t V=>
   intro i s B J;obtain⟨j,r⟩:=Qv (by omega) B;have Y:=j.lt';by_cases Q:s<=200
   .have g:=q.len d j.mem;have m:=q.wf d j.mem;have F:=w.cut d j.mem;have y:=Qdz _ d.Route (XT _) g m;have H:=Qdy _ d.Route 17 (XT _) (XT _) g m;have T:i64.wrap ((s:Int)+(d.Cutoffs.length:Int))=((s+d.Cutoffs.length:Nat):Int):=Qdo (by omega);have e2:i64.wrap (((s+d.Cutoffs.length:Nat):Int)+((min (szPs d.Route) 257:Nat):Int))=((s+d.Cutoffs.length+min (szPs d.Route) 257:Nat):Int):=Qdo (by omega);have step:Ev (λn=>F_en n c ((s:Int),(i:Int))) (bif decide ((16:Int)<((min (hPs d.Route) 17:Nat):Int))then .done (.done false)else .cont (((s+d.Cutoffs.length+min (szPs d.Route) 257:Nat):Int),((i+1:Nat):Int))):=by
     unfold F_en;simp only[j.lt,Vo,j.ix,XJ,j.nx,Qx (show(s:Int)<=200 by omega)];refine Ea y (Ea H ?_);rw[T,e2];cases decide ((16:Int)<((min (hPs d.Route) 17:Nat):Int))<;>exact Qa _
    by_cases W:hPs d.Route<=16
    .rw[Qy (show¬(16:Int)<((min (hPs d.Route) 17:Nat):Int)by omega)]at step;obtain⟨f,p,k⟩:=V (i+1) (s+d.Cutoffs.length+min (szPs d.Route) 257) r (by omega);refine⟨f,Ex step p,?_⟩;rcases k with k|⟨v,k,E⟩
     .exact Or.inl k
     .refine Or.inr ⟨v,k,λG=>?_⟩;obtain⟨M,u⟩:=E G;refine⟨by omega,λx z=>?_⟩;rcases X6.1 z with rfl|z
      .exact⟨by omega,by omega,W⟩
      .exact u x z
    .rw[Qx (show(16:Int)<((min (hPs d.Route) 17:Nat):Int)by omega)]at step;exact⟨.done false,Ej step,Or.inl rfl⟩
   .refine⟨.cont (s:Int),Ej ?_,Or.inr ⟨s,rfl,λh=>absurd h Q⟩⟩;unfold F_en;simp only[j.lt,Vo,Qy (show¬(s:Int)<=200 by omega),XJ,Vp];exact Qa _
 obtain⟨f,p,k⟩:=loop c.Distances 0 (lensC c) rfl (XU _);have e:i64.wrap ((i64.wrap ((i64.wrap ((i64.wrap ((i64.wrap ((i64.wrap ((c.Mats.length:Int)+(c.Legs.length:Int)))+(c.Distances.length:Int)))+(c.Waves.length:Int)))+(c.Offences.length:Int)))+(c.Categories.length:Int)))+(c.Prizes.length:Int))=(lensC c:Int):=by
  have h1:c.Mats.length+c.Legs.length<=4611686018427387904:=by omega
  have X:c.Mats.length+c.Legs.length+c.Distances.length<=4611686018427387904:=by omega
  have R:c.Mats.length+c.Legs.length+c.Distances.length+c.Waves.length<=4611686018427387904:=by omega
  have O:c.Mats.length+c.Legs.length+c.Distances.length+c.Waves.length+c.Offences.length<=4611686018427387904:=by omega
  have P:c.Mats.length+c.Legs.length+c.Distances.length+c.Waves.length+c.Offences.length+c.Categories.length<=4611686018427387904:=by omega
  have N:c.Mats.length+c.Legs.length+c.Distances.length+c.Waves.length+c.Offences.length+c.Categories.length+c.Prizes.length<=4611686018427387904:=by omega
  rw[Qdo h1,Qdo X,Qdo R,Qdo O,Qdo P,Qdo N];rfl
 unfold F_bx;rw[e];rcases k with rfl|⟨v,rfl,E⟩
 .exact⟨false,Ea p.ev (Qa _),λh=>by cases h⟩
 .obtain⟨a,b,y,H,p3,_,_,_,_⟩:=QiG _ c.Ties 0 (XT _) (by omega) L hw;have l:Ev (λn=>F_dt n c.Ties) (decide ((c.Ties.length:Int)<=20)&&(decide (a<=80)&&decide (b<=300))):=by
   unfold F_dt;exact Ea y (Ea (Ei λ_=>Ei λ_=>Qa _) (Qa _))
  refine⟨decide ((v:Int)<=200)&&(decide ((c.Name.length:Int)<=100)&&(decide ((c.Ties.length:Int)<=20)&&(decide (a<=80)&&decide (b<=300)))),Ea p.ev (Ea (Ei λ_=>Ei λ_=>Ea l (Qa _)) (Qa _)),λh=>?_⟩;simp only[XW,Vq]at h;obtain⟨M,u⟩:=E (by omega);exact⟨by omega,by omega,u,by omega⟩
def fitsS(c:Course):Bool:=
 !(decide (40<(c.Mats.length:Int))||(decide (512<(c.Legs.length:Int))||(decide (8<(c.Distances.length:Int))||(decide (32<(c.Waves.length:Int))||(decide (32<(c.Offences.length:Int))||(decide (32<(c.Categories.length:Int))||decide (32<(c.Prizes.length:Int))))))))
  &&c.Distances.all λd=> !decide (64<(d.Cutoffs.length:Int))
theorem Qmy(c:Course)(w:CourseOk c)(q:PartsOk c)(k:FewOk c):Ev (λn=>F_dr n c) (fitsS c):=by
 unfold F_dr fitsS;refine Ea (Qh λ_=>Qh λ_=>Qh λ_=>Qh λ_=>Qh λ_=>Qh λ_=>Qa _) ?_;cases(decide (40<(c.Mats.length:Int))||(decide (512<(c.Legs.length:Int))||(decide (8<(c.Distances.length:Int))||(decide (32<(c.Waves.length:Int))||(decide (32<(c.Offences.length:Int))||(decide (32<(c.Categories.length:Int))||decide (32<(c.Prizes.length:Int))))))))with
 |true=>exact Qa _
 |false=>
  refine Qt (Ea (Q9 c.Distances (λd=> !decide (64<(d.Cutoffs.length:Int))) (Ctl.done false) (Ctl.cont ()) (by have:=w.dist;omega) (λi x a=>?_) ?_) ?_)
  .obtain⟨e,f,g⟩:=k.dist x a.mem;unfold F_kq;simp only[a.lt,a.ix,XJ,a.nx];refine Ea (Qk8 _ x.Route 17 (XT _) (by omega) (XT _) (by omega) (q.wf x a.mem)) ?_
   grind[Qa]
  .simp_all[F_kq,Qa]
  .cases(c.Distances.all λd=> !decide (64<(d.Cutoffs.length:Int)))<;>exact Qa _
theorem Qjw(c:Course)(w:CourseOk c)(q:PartsOk c)(k:FewOk c):Ev (λn=>F_cw n c) (fitsS c):=by
 unfold F_cw fitsS;refine Ea (Qh λ_=>Qh λ_=>Qh λ_=>Qh λ_=>Qh λ_=>Qh λ_=>Qa _) ?_;cases(decide (40<(c.Mats.length:Int))||(decide (512<(c.Legs.length:Int))||(decide (8<(c.Distances.length:Int))||(decide (32<(c.Waves.length:Int))||(decide (32<(c.Offences.length:Int))||(decide (32<(c.Categories.length:Int))||decide (32<(c.Prizes.length:Int))))))))with
 |true=>exact Qa _
 |false=>
  refine Qt (Ea (Q9 c.Distances (λd=> !decide (64<(d.Cutoffs.length:Int))) (Ctl.done false) (Ctl.cont ()) (by have:=w.dist;omega) (λi x e=>?_) ?_) ?_)
  .obtain⟨h,g,j⟩:=k.dist x e.mem;have a:=q.len x e.mem;have f:=q.wf x e.mem;unfold F_kl;simp only[e.lt,e.ix,XJ,e.nx];refine Ea (Qh λ_=>Ea (Qdy _ x.Route 17 (XT _) (XT _) a f) (Qh λ_=>Ea (Qdz _ x.Route (XT _) a f) (Qa _))) ?_
   grind[Qa]
  .simp_all[F_kl,Qa]
  .cases(c.Distances.all λd=> !decide (64<(d.Cutoffs.length:Int)))<;>exact Qa _
def courseE(c:Course):Int:=
 bif fitsS c then bif namesS c then bif numbersS c then bif tiesE c.Ties==0 then bif c.Distances.all (routeS c)then 0 else 72 else tiesE c.Ties else 71 else 70 else 2
theorem Qjy(c:Course)(w:CourseOk c)(q:PartsOk c)(k:FewOk c)(g:c.Ties.length<=1048576)(e:∀x∈c.Ties,Step.wf x):Ev (λn=>F_d n c) (courseE c):=by
 unfold F_d courseE;refine Ea (Qmy c w q k) ?_;cases fitsS c with
 |false=>exact Qa _
 |true=>
 refine Qt (Ea (Qk3 c w) ?_);cases namesS c with
 |false=>exact Qa _
 |true=>
 refine Qt (Ea (QhV c w q) ?_);cases f:numbersS c with
 |false=>exact Qa _
 |true=>
 refine Qt (Ea (Qmz c.Ties g e) ?_);rw[bne];cases(tiesE c.Ties==0)with
 |false=>exact Qa _
 |true=>
 have h:Ev (λn=>iter (F_ic n c) n ([],0)) (Yg legKey true c.Legs):=by
  refine Qbv c.Legs legKey true (by have:=w.legs;omega) (λi x m a=>?_) (λm=>?_)
  .unfold F_ic;simp only[a.lt,a.ix,a.nx];exact Qa _
  simp_all[F_ic,Qa]
 refine Qt (Ea h ?_);have a:Ev (λn=>F_hb n c.Distances c (Yg legKey true c.Legs)) (c.Distances.all (routeS c)):=by
  refine Jg c.Distances _ (λn x=>F_gx n x c (Yg legKey true c.Legs)) (by have:=w.dist;omega) λx d=>?_;exact Ea (QhW c w (Qhu f) x d (q.wf x d) (by have:=(k.dist x d).2.1;omega)) (Qa _)
 refine Ea a ?_
 grind[Qa]
theorem Qf9(c:Course)(w:CourseOk c)(q:PartsOk c)(k:FewOk c)(h:c.Ties.length<=1048576)(g:∀x∈c.Ties,Step.wf x):Ev (λn=>F_c n c) (courseE c):=by
 have a:=k.lens;unfold lensC at a;have e:Short c:=⟨by omega,by omega,by omega,by omega,by omega⟩;unfold F_c courseE;refine Ea (Qjw c w q k) ?_;cases fitsS c with
 |false=>exact Qa _
 |true=>
 refine Qt (Ea (Qhc c w e) ?_);cases namesS c with
 |false=>exact Qa _
 |true=>
 refine Qt (Ea (Qf7 c w q) ?_);cases f:numbersS c with
 |false=>exact Qa _
 |true=>
 refine Qt (Ea (QhR c.Ties h g) ?_);rw[bne];cases(tiesE c.Ties==0)with
 |false=>exact Qa _
 |true=>
 refine Qt (Ea (Q9 c.Distances (routeS c) (Ctl.done 72) (Ctl.cont ()) (by omega) (λi x d=>?_) ?_) ?_)
 .unfold F_ky;simp only[d.lt,d.ix,XJ,d.nx];refine Ea (Qha c w (Qhu f) x d.mem (q.wf x d.mem) (by have:=(k.dist x d.mem).2.1;omega)) ?_;cases routeS c x<;>exact Qa _
 .simp_all[F_ky,Qa]
 grind[Qa]
theorem QdO{α:Type}(l:List α){a b:Nat}(h:a<=b)(d:b<=l.length):slc l (a:Int) (b:Int)=some ((l.take b).drop a):=by
 grind[slc]
theorem Qm4{α:Type}(l:List α){b:Nat}(a:b<=l.length):slc l 0 (b:Int)=some (l.take b):=by
 have:=QdO l (XU b) a
 grind
theorem Qkl{α:Type}(l:List α){a:Nat}(d:a<=l.length):slc l (a:Int) (l.length:Int)=some (l.drop a):=by
 simp_all[QdO]
theorem QmF{α:Type}(l m:List α)(h:l.length+m.length<=4294967296):app l m=some (l++m):=by
 unfold app;rw[XS (by exact h)];rfl
def firstI{α:Type}(q:α->Bool):List α->Nat->Int
 |[],_=> -1
 |x::l,i=>bif q x then(i:Int)else firstI q l (i+1)
theorem Ev.first{α:Type}{step:Nat->Int->Option (Ctl Int (Ctl Unit Int))}(l:List α)(q:α->Bool)(g:l.length<=4611686018427387904)
  (p:∀i x,At l i x->Ev (λn=>step n (i:Int)) (bif q x then .done (.done (i:Int))else .cont ((i+1:Nat):Int)))(f:Ev (λn=>step n (l.length:Int)) (.done (.cont ()))):
  Ev (λn=>(Go.Sw.iter (step n) n 0).bind λb=>match b with|.cont _=>some (-1)|.done v=>some v) (firstI q l 0):=by
 have loop:∀(r:List α) (i:Nat),l.drop i=r->i<=l.length->∃a:Ctl Unit Int,EvI step i a/\(match a with|.cont _=>some (-1)|.done v=>some v)=some (firstI q r i):=by
  intro r
  induction r with
  |nil=>
   intro i d e;have:i=l.length:=by have:=Xq.1 d;omega
   subst this;exact⟨.cont (),Ej f,rfl⟩
  |cons x r u=>
   intro i d e;obtain⟨k,j⟩:=Qv g d;have s:=p i x k;unfold firstI;cases h:q x with
   |true=>
    rw[h]at s;exact⟨_,Ej s,rfl⟩
   |false=>
    grind[EvI.cont]
 obtain⟨a,t,m⟩:=loop l 0 rfl (XU _);exact Ea t.ev (EA m)
theorem QbM{α:Type}(q:α->Bool):∀(l:List α) (i:Nat),(firstI q l i= -1/\l.all (λx=> !q x)=true)\/ ∃j x,firstI q l i=((i+j:Nat):Int)/\l[j]?=some x/\q x=true/\(l.take j).all (λx=> !q x)=true
 |[],_=>.inl ⟨rfl,rfl⟩
 |x::l,i=>by
  unfold firstI;cases h:q x with
  |true=>exact .inr ⟨0,x,rfl,rfl,h,rfl⟩
  |false=>
   rcases QbM q l (i+1)with⟨h1,h2⟩|⟨j,y,h1,h2,h3,h4⟩
   .grind
   .refine .inr ⟨j+1,y,by grind,h2,h3,by simp[h,h4]⟩
set_option maxRecDepth 4000
def cmpI(a b:Int):Int:=bif decide (a<b)then-1 else bif decide (b<a)then 1 else 0
theorem QiL(n:Nat)(a b:Int):F_h n a b=some (cmpI a b):=by
 unfold F_h F_cc cmpI
 grind
def orL:List Int->Int
 |[]=>0
 |x::r=>bif x != 0 then x else orL r
theorem ev_or(l:List Int)(k:l.length<=1000):Ev (λn=>F_bb n l) (orL l):=by
 have loop:∀(r:List Int) (i:Nat),l.drop i=r->i<=l.length->EvI (λn=>F_au n l) i (bif orL r==0 then Ctl.cont ()else Ctl.done (orL r)):=by
  intro r
  induction r with
  |nil=>
   intro i f g;refine Ej ?_;unfold F_au;simp only[QJ f g];exact Qa _
  |cons x r h=>
   intro i f g;obtain⟨a,d⟩:=Qv (by omega) f;have j:=a.lt';unfold orL;cases q:(x != 0)with
   |true=>
    have e:(x==0)=false:=by grind
    simp[Vo,e];refine Ej ?_;unfold F_au;simp only[a.lt,a.ix,XJ,q];exact Qa _
   |false=>
    refine Ex ?_ (h (i+1) d (by omega));unfold F_au;simp only[a.lt,a.ix,XJ,q,a.nx];exact Qa _
 refine Ea (loop l 0 rfl (XU _)).ev ?_
 grind[Qa]
theorem QaL{β:Type}(m:List (Int×β))(k:Int):Y2 m k=(Y3 m k).isSome:=by
 unfold Y2 Y3
 grind
theorem Qge{a b:Int}:cmpI a b<0↔a<b:=by
 grind[cmpI]
theorem Qbe{a b:Int}:cmpI a b=0↔a=b:=by
 grind[cmpI]
set_option maxRecDepth 4000
section
variable {α:Type} {c d:α->α->Int}
end
theorem QdH{c:Course}(h:Course.wf c):CourseOk c:=by
 obtain⟨i,⟨j,m⟩,⟨p,s⟩,⟨l,d⟩,⟨n,g⟩,⟨k,e⟩,⟨q,r⟩,⟨f,t⟩,_⟩:=h;exact⟨i,j,λx a=>(m x a).1,p,l,λx a=>(d x a).1,λx a=>(d x a).2.2.2.1.1,n,λx a=>(g x a).1,k,λx a=>(e x a).1,q,λx a=>(r x a).1,f⟩
theorem QeU{c:Course}(h:Course.wf c):PartsOk c:=by
 obtain⟨_,_,_,⟨f,e⟩,_⟩:=h;exact⟨λd a=>(e d a).2.1.1,λd a=>(e d a).2.1.2⟩
theorem Qir{c:Course}(h:Course.wf c):c.Ties.length<=1048576/\ ∀x∈c.Ties,Step.wf x:=by
 obtain⟨_,_,_,_,_,_,_,_,a,_⟩:=h;exact a
theorem QcP(p:Nat->Bool):∀k,(∀i,i<k->p i=true)\/ ∃j,j<k/\p j=false/\ ∀i,i<j->p i=true
 |0=>.inl λi h=>absurd h (Nat.not_lt_zero _)
 |k+1=>by
  rcases QcP p k with h|⟨j,h1,h2,h3⟩
  .cases q:p k with
   |true=>exact .inl λi hi=>(Nat.lt_succ_iff_lt_or_eq.1 hi).elim (h i) λe=>e▸q
   |false=>exact .inr ⟨k,Xn _,q,h⟩
  .exact .inr ⟨j,by omega,h2,h3⟩
theorem Qjb{p:Nat->Bool}{k:Nat}:(List.range k).all p=true↔ ∀i,i<k->p i=true:=by simp[Xs]
theorem Jw{B:Type}{step:Nat->Int->Option (Ctl Int B)}(k:Nat)(p:Nat->Bool)(f b:B)
  (d:∀i,i<k->Ev (λn=>step n (i:Int)) (bif p i then .cont ((i+1:Nat):Int)else .done f))(l:Ev (λn=>step n (k:Int)) (.done b)):
  Ev (λn=>Go.Sw.iter (step n) n 0) (bif (List.range k).all p then b else f):=by
 rcases QcP p k with h|⟨j,g,e,m⟩
 .rw[Qjb.2 h];exact Ev.iter (λi=>(i:Int)) k rfl (λi a=>(d i a).eq (by rw[h i a];rfl)) l
 .have:(List.range k).all p=false:=by
   rw[VL];intro q;rw[Qjb.1 q j g]at e;cases e
  rw[this];exact Ev.iter (λi=>(i:Int)) j rfl (λi a=>(d i (by omega)).eq (by rw[m i a];rfl)) ((d j g).eq (by rw[e];rfl))
theorem atN{α:Type}{l:List α}{i:Nat}(hl:l.length<=1048576)(hi:i<l.length):At l i l[i]:=Y9 (by omega) (XK hi)
theorem QaT{n:Nat}(h:n<=1048576):i64.wrap ((n:Int)+1)=((n+1:Nat):Int):=QU (by omega)
def segLt(x y:Segment):Bool:=decide (x.Mat<y.Mat)||((x.Mat==y.Mat)&&decide (x.Epoch<y.Epoch))
def cmpSeg(x y:Segment):Int:=orL [cmpI x.Mat y.Mat,cmpI x.Epoch y.Epoch]
theorem QjD(x y:Segment):decide (0<=cmpSeg x y)= !segLt x y:=by
 unfold cmpSeg segLt orL orL orL cmpI;by_cases a:x.Mat<y.Mat
 .simp[a]
 .by_cases d:y.Mat<x.Mat
  .have:¬x.Mat=y.Mat:=by omega
   simp[a,d,this]
  .have:x.Mat=y.Mat:=by omega
   by_cases e:x.Epoch<y.Epoch
   .simp[a,d,this,e]
   .by_cases f:y.Epoch<x.Epoch
    iterate 2 simp[a,d,this,e,f]
theorem Qlb(a b:Int):Ev (λn=>F_h n a b) (cmpI a b):=QlM (Qa _) λn=>QiL n a b
theorem Qg6(x y:Segment):Ev (λn=>F_by n x y) (cmpSeg x y):=by
 unfold F_by F_ff;exact Ea (Ea (Qlb _ _) (Ea (Qlb _ _) (Ea (ev_or _ (by simp)) (Qa _)))) (Qa _)
def timeB(x:Int):Bool:=inR (-1099511627776) 1099511627776 x
theorem Qbb(x:Int):Ev (λn=>F_o n x) (timeB x):=by
 unfold F_o timeB inR;exact Ea (Ei λ_=>Qa _) (Qa _)
def prevSeg(c:Clocks)(i:Nat)(x:Segment):Bool:=decide (0<(i:Int))&& !(match c.Segments[i-1]? with|some y=>segLt y x|none=>true)
def segBad(c:Clocks)(i:Nat)(x:Segment):Bool:=decide (x.Mat<0)||(decide (40<=x.Mat)||(decide (x.Epoch<0)||(decide (255<x.Epoch)||(!timeB x.Anchor||prevSeg c i x))))
def segsB(c:Clocks):Bool:=(List.range c.Segments.length).all λi=>match c.Segments[i]? with|some x=> !segBad c i x|none=>true
theorem QgS{α:Type}{l:List α}{i:Nat}{y:α}(d:l.length<=1048576)(hi:0<i)(a:i<=l.length)(h:l[i-1]?=some y):idx l (i64.wrap ((i:Int)-1))=some y:=by
 rw[Qq (by omega) (by omega),show((i:Int)-1)=((i-1:Nat):Int)by omega];exact Qo h
theorem Qmo(c:Clocks)(g:c.Segments.length<=1048576):Ev (λn=>iter (F_ih n c) n 0) (bif segsB c then Ctl.cont ()else Ctl.done 160):=by
 unfold segsB;refine Jw c.Segments.length _ _ _ (λi k=>?_) ?_
 .have a:=atN g k;unfold F_ih;simp only[a.lt,Vo,a.ix,XJ,a.nx,a.get];have:Ev (λn=>((bif decide ((c.Segments[i]).Mat<0)then some true else(bif decide (40<=(c.Segments[i]).Mat)then some true else(bif decide ((c.Segments[i]).Epoch<0)then some true else(bif decide (255<(c.Segments[i]).Epoch)then some true else(F_o n (c.Segments[i]).Anchor).bind λe=>(bif (!e)then some true else(bif decide (0<(i:Int))then(idx c.Segments (i64.wrap ((i:Int)-1))).bind λd=>(F_by n d (c.Segments[i])).bind λf=>some (decide (0<=f))else some false)))))):Option Bool)) (segBad c i (c.Segments[i])):=by
   unfold segBad;refine Qh λ_=>Qh λ_=>Qh λ_=>Qh λ_=>Ea (Qbb _) (Qh λ_=>?_);unfold prevSeg;refine Ei λh=>?_;have l:0<i:=by have:=Vu h;omega
   have j:i-1<c.Segments.length:=by omega
   rw[QgS g l (by omega) (XK j),XK j];simp only[XJ];exact Ea (Qg6 _ _) ((Qa _).eq (QjD _ _))
  refine Ea this ?_;cases segBad c i (c.Segments[i])<;>exact Qa _
 .unfold F_ih;simp only[Qao,Vp];exact Qa _
def farBad(x:Int):Bool:=decide (x< -2199023255552)||decide (2199023255552<x)
theorem Qju(l:List Int)(a:l.length<=1048576):Ev (λn=>F_ca n l) (l.any farBad):=by
 unfold F_ca F_he;refine Ev.contains l farBad (λn x=>F_cy n x) (by omega) λx _=>?_;unfold F_cy farBad;exact Ea (Qh λ_=>Qa _) (Qa _)
def rowB(c:Clocks)(i:Nat)(r:List Int):Bool:= !(((r.length:Int) != ((c.Segments.length+1:Nat):Int))||((r[i]?.getD 1 != 0)||r.any farBad))
def rowsB(c:Clocks):Bool:=(List.range c.Far.length).all λi=>match c.Far[i]? with|some r=>rowB c i r|none=>true
theorem Qmq(c:Clocks)(m:c.Segments.length<=1048576)(l:c.Far.length<=1048576)(k:∀r∈c.Far,r.length<=1048576)(p:c.Far.length=c.Segments.length+1):
  Ev (λn=>iter (F_ip n c) n 0) (bif rowsB c then Ctl.cont ()else Ctl.done 160):=by
 unfold rowsB;refine Jw c.Far.length _ _ _ (λi j=>?_) ?_
 .have e:=atN l j;unfold F_ip;simp only[e.lt,Vo,e.ix,XJ,e.nx,e.get,QaT m];have:Ev (λn=>((bif (((c.Far[i]).length:Int) != ((c.Segments.length+1:Nat):Int))then some true else(idx (c.Far[i]) (i:Int)).bind λf=>(bif (f != 0)then some true else(F_ca n (c.Far[i])).bind λd=>some d)):Option Bool)) (!rowB c i (c.Far[i])):=by
   unfold rowB;rw[Bool.not_not];refine Qh λh=>?_;have g:(c.Far[i]).length=c.Segments.length+1:=by
    have:((c.Far[i]).length:Int)=((c.Segments.length+1:Nat):Int):=by simpa[bne]using h
    omega
   have a:i<(c.Far[i]).length:=by omega
   rw[Qo (XK a),XK a];simp only[XJ,Option.getD_some];exact Qh λ_=>Ea (Qju _ (k _ e.mem)) (Qa _)
  refine Ea this ?_;cases rowB c i (c.Far[i])<;>exact Qa _
 .unfold F_ip;simp only[Qao,Vp];exact Qa _
def farG(c:Clocks)(i j:Nat):Int:=((c.Far[i]?.getD [])[j]?).getD 0
structure Dims (c:Clocks):Prop where
 segs:c.Segments.length<=511
 far:c.Far.length=c.Segments.length+1
 row:∀i,i<c.Far.length->(c.Far[i]?.getD []).length=c.Segments.length+1
theorem Dims.get{c:Clocks}(d:Dims c){i j:Nat}(hi:i<c.Segments.length+1)(f:j<c.Segments.length+1):c.Far[i]?=some (c.Far[i]?.getD [])/\(c.Far[i]?.getD [])[j]?=some (farG c i j):=by
 have a:i<c.Far.length:=by rw[d.far];exact hi
 have e:=d.row i a;refine⟨by rw[XK a];rfl,?_⟩;unfold farG;have:j<(c.Far[i]?.getD []).length:=by omega
 rw[XK this];rfl
def triB(c:Clocks):Bool:=(List.range (c.Segments.length+1)).all λi=>(List.range (c.Segments.length+1)).all λj=>(List.range (c.Segments.length+1)).all λk=> !decide (i64.wrap (farG c i j+farG c j k)<farG c i k)
theorem ltN{a b:Nat}(h:a<b):decide ((a:Int)<(b:Int))=true:=Vt (by omega)
theorem geN{a b:Nat}(h:b<=a):decide ((a:Int)<(b:Int))=false:=Vw (by omega)
theorem Qny(c:Clocks)(d:Dims c):Ev (λn=>iter (F_id n c) n 0) (bif triB c then Ctl.cont ()else Ctl.done 160):=by
 have s:=d.segs;unfold triB;refine Jw (c.Segments.length+1) _ _ _ (λi a=>?_) ?_
 .unfold F_id;have g:=(d.get a a).1;have l:=d.row i (by rw[d.far];exact a);simp only[QaT (show c.Segments.length<=1048576 by omega),ltN a,Vo,Qo g,XJ,QaT (show i<=1048576 by omega)];refine Ea (Jw (c.Segments.length+1) (λj=>(List.range (c.Segments.length+1)).all λk=> !decide (i64.wrap (farG c i j+farG c j k)<farG c i k)) (Ctl.done (Ctl.done (Ctl.done 160))) (Ctl.cont ()) (λj e=>?_) ?_) ?_
  .unfold F_kz;have m:=(d.get a e).2;have r:=(d.get e e).1;have f:=d.row j (by rw[d.far];exact e);simp only[l,ltN e,Vo,Qo m,Qo r,XJ,QaT (show j<=1048576 by omega)];refine Ea (Jw (c.Segments.length+1) (λk=> !decide (i64.wrap (farG c i j+farG c j k)<farG c i k)) (Ctl.done (Ctl.done (Ctl.done (Ctl.done (Ctl.done 160))))) (Ctl.cont ()) (λk h=>?_) ?_) ?_
   .unfold F_kx;have q:=(d.get e h).2;have p:=(d.get a h).2;simp only[f,ltN h,Vo,Qo q,Qo g,Qo p,XJ,QaT (show k<=1048576 by omega)];cases decide (i64.wrap (farG c i j+farG c j k)<farG c i k)<;>exact Qa _
   .unfold F_kx;simp only[f,geN (XT _),Vp];exact Qa _
   .cases(List.range (c.Segments.length+1)).all λk=> !decide (i64.wrap (farG c i j+farG c j k)<farG c i k)<;>exact Qa _
  .unfold F_kz;simp only[l,geN (XT _),Vp];exact Qa _
  .cases(List.range (c.Segments.length+1)).all λj=>(List.range (c.Segments.length+1)).all λk=> !decide (i64.wrap (farG c i j+farG c j k)<farG c i k)<;>exact Qa _
 .unfold F_id;simp only[QaT (show c.Segments.length<=1048576 by omega),geN (XT _),Vp];exact Qa _
def clkB(c:Clocks):Bool:= !(decide (511<(c.Segments.length:Int))||((c.Far.length:Int) != ((c.Segments.length+1:Nat):Int)))&&(segsB c&&(rowsB c&&triB c))
structure ClkW (c:Clocks):Prop where
 segs:c.Segments.length<=1048576
 far:c.Far.length<=1048576
 row:∀r∈c.Far,r.length<=1048576
theorem Qgd{c:Clocks}(g:¬511<(c.Segments.length:Int))(d:c.Far.length=c.Segments.length+1)(f:rowsB c=true):Dims c:=by
 refine⟨by omega,d,λi a=>?_⟩;have:=Qjb.1 f i a;rw[XK a]at this⊢;simp only[rowB,Bool.not_eq_true',XX]at this;have e:((c.Far[i]).length:Int)=((c.Segments.length+1:Nat):Int):=by simpa[bne]using this.1
 simp only[Option.getD_some];omega
theorem Qlc(c:Clocks)(w:ClkW c):Ev (λn=>F_ay n c) (bif clkB c then 0 else 160):=by
 unfold F_ay clkB;simp only[QaT w.segs];refine Ea (Qh λ_=>Qa _) ?_;cases a:(decide (511<(c.Segments.length:Int))||((c.Far.length:Int) != ((c.Segments.length+1:Nat):Int)))with
 |true=>exact Qa _
 |false=>
  simp only[Xh,Vz,XX,decide_eq_false_iff_not]at a⊢;have d:c.Far.length=c.Segments.length+1:=by
   have:(c.Far.length:Int)=((c.Segments.length+1:Nat):Int):=by simpa[bne]using a.2
   omega
  refine Qt (Ea (Qmo c w.segs) ?_);cases segsB c with
  |false=>exact Qa _
  |true=>
   refine Ea (Qmq c w.segs w.far w.row d) ?_;cases e:rowsB c with
   |false=>exact Qa _
   |true=>
    refine Ea (Qny c (Qgd a.1 d e)) ?_;cases triB c<;>exact Qa _
theorem Qb6{c:Clocks}(h:clkB c=true):Dims c:=by
 simp only[clkB,XW,Bool.not_eq_true',XX,decide_eq_false_iff_not]at h;have a:c.Far.length=c.Segments.length+1:=by
  have:(c.Far.length:Int)=((c.Segments.length+1:Nat):Int):=by simpa[bne]using h.1.2
  omega
 exact Qgd h.1.1 a h.2.2.1
set_option maxRecDepth 10000
structure CrsOk (c:Course):Prop where
 mats:c.Mats.length<=40
 res:0<=c.Faults.Residual/\c.Faults.Residual<=4294967296
 drift:0<=c.Faults.Drift/\c.Faults.Drift<=100000
def driftV(x k:Int):Int:=Int.tdiv ((if x<0-x then 0-x else x)*k+1000000-1) 1000000
theorem QbP{x k:Int}(i: -2199023255552<=x/\x<=2199023255552)(d:0<=k/\k<=100000):0<=driftV x k/\driftV x k<=274877906944/\0<=(if x<0-x then 0-x else x)*k/\(if x<0-x then 0-x else x)*k<=219902325555200000:=by
 generalize ha:(if x<0-x then 0-x else x)=a;have f:0<=a:=by rw[<- ha];split<;>omega
 have h:a<=2199023255552:=by rw[<- ha];split<;>omega
 have j:0<=a*k:=Int.mul_nonneg f d.1;have g:a*k<=2199023255552*100000:=Int.le_trans (Int.mul_le_mul_of_nonneg_right h d.1) (Int.mul_le_mul_of_nonneg_left d.2 (by decide));have e:(2199023255552:Int)*100000=219902325555200000:=by decide
 rw[e]at g;unfold driftV;rw[ha,Int.tdiv_eq_ediv_of_nonneg (by omega)];omega
theorem Qk7{x k:Int}(d: -2199023255552<=x/\x<=2199023255552)(h:0<=k/\k<=100000):Ev (λn=>F_dq n x k) (driftV x k,0):=by
 obtain⟨j,l,m,p⟩:=QbP d h;unfold F_dq;refine Ea (v:=false) ?_ ?_
 .rw[Qy (show¬(x< -2199023255552)by omega),Qy (show¬(2199023255552<x)by omega),Qy (show¬(k<0)by omega),Qy (show¬(100000<k)by omega)];exact Qa _
 .have g:i64.wrap (0-x)=0-x:=Qq (by omega) (by omega);have f:=Qq (n:=(if x<0-x then 0-x else x)*k) (by omega) (by omega);have e:=Qq (n:=(if x<0-x then 0-x else x)*k+1000000) (by omega) (by omega);have i:=Qq (n:=(if x<0-x then 0-x else x)*k+1000000-1) (by omega) (by omega);have a:=Qq (n:=driftV x k) (by omega) (by omega);refine Qt ?_;rw[g,f,e,i];unfold driftV at a⊢;rw[a];exact Qa _
def devV(c:Course)(k:Int)(s:Segment)(loc:Int):Span:=
 bif k != 1 then⟨0-driftV (loc-s.Anchor) c.Faults.Drift,c.Faults.Residual+driftV (loc-s.Anchor) c.Faults.Drift⟩else⟨0,c.Faults.Residual⟩
def isT(x:Int):Prop:= -1099511627776<=x/\x<=1099511627776
theorem Qln{c:Course}(d:CrsOk c)(k:Int){s:Segment}{a:Int}(f:isT s.Anchor)(e:isT a): -274877906944<=(devV c k s a).Lo/\(devV c k s a).Lo<=0/\0<=(devV c k s a).Hi/\(devV c k s a).Hi<=279172874240:=by
 obtain⟨h,j⟩:=d.res;obtain⟨g,i,_,_⟩:=QbP (x:=a-s.Anchor) (by unfold isT at f e;omega) d.drift;unfold devV;cases k != 1 with
 |true=>simp only[Vo];omega
 |false=>simp only[Vp];omega
theorem QhZ{c:Course}(d:CrsOk c){i:Nat}{m:Mat}(j:c.Mats[i]?=some m){s:Segment}(h:s.Mat=(i:Int)){a:Int}(g:isT s.Anchor)(f:isT a):Ev (λn=>F_z n c s a) (devV c m.Kind s a):=by
 obtain⟨l,q⟩:=d.res;have e: -2199023255552<=a-s.Anchor/\a-s.Anchor<=2199023255552:=by unfold isT at g f;omega
 obtain⟨k,p,_,_⟩:=QbP e d.drift;unfold F_z devV;simp only[h,Qo j,XJ];cases m.Kind != 1 with
 |false=>exact Qa _
 |true=>
  simp only[Vo];refine Ea (v:=⟨0-driftV (a-s.Anchor) c.Faults.Drift,c.Faults.Residual+driftV (a-s.Anchor) c.Faults.Drift⟩) ?_ (Qa _);rw[Qq (n:=a-s.Anchor) (by omega) (by omega)];refine Ea (Qk7 e d.drift) ?_;rw[Qq (n:=0-driftV (a-s.Anchor) c.Faults.Drift) (by omega) (by omega),Qq (n:=c.Faults.Residual+driftV (a-s.Anchor) c.Faults.Drift) (by omega) (by omega)];exact Qa _
def matB(c:Course)(x:Int):Bool:=decide (0<=x)&&decide (x<(c.Mats.length:Int))
theorem QeM(c:Course)(x:Int):Ev (λn=>F_aw n c x) (matB c x):=by
 unfold F_aw matB;exact Ea (Ei λ_=>Qa _) (Qa _)
theorem Qkx{c:Course}{x:Int}(h:matB c x=true):∃i m,x=((i:Nat):Int)/\c.Mats[i]?=some m:=by
 unfold matB at h;simp only[XW,Vq]at h;exact⟨x.toNat,c.Mats[x.toNat]'(by omega),by omega,XK _⟩
def nb(v lo hi:Int):Bool:= !(decide (v<lo))&& !(decide (hi<v))
theorem QhL(v lo hi:Int):nb v lo hi=true↔lo<=v/\v<=hi:=by
 simp_all[nb]
theorem QkF(n:Nat)(v a b:Int):F_aq n v a b=some (nb v a b):=by
 unfold F_aq nb;have d:decide (a<=v)= !decide (v<a):=by grind
 have e:decide (v<=b)= !decide (b<v):=by grind
 rw[d,e]
 grind
theorem Qks(n:Nat)(v:Int):F_ck n v=some (nb v 0 255):=by unfold F_ck;rw[QkF];rfl
theorem Ql5(n:Nat)(v:Int):F_cg n v=some (nb v 0 1048576):=by unfold F_cg;rw[QkF];rfl
theorem Ql4(n:Nat)(v:Int):F_aj n v=some (nb v (-1099511627776) 1099511627776):=by unfold F_aj;rw[QkF];rfl
def cmpPl(x y:Uc):Int:=orL [cmpI x.chip y.chip,cmpI x.mat y.mat,cmpI x.epoch y.epoch]
def ltPl(x y:Uc):Prop:=x.chip<y.chip\/(x.chip=y.chip/\(x.mat<y.mat\/(x.mat=y.mat/\x.epoch<y.epoch)))
theorem or3(n:Nat)(a b d:Int):F_bb (n+4) [a,b,d]=some (orL [a,b,d]):=by
 unfold F_bb;have e:F_au (n+4) [a,b,d] 0=bif a != 0 then some (.done (.done a))else some (.cont 1):=rfl
 have g:F_au (n+4) [a,b,d] 1=bif b != 0 then some (.done (.done b))else some (.cont 2):=rfl
 have f:F_au (n+4) [a,b,d] 2=bif d != 0 then some (.done (.done d))else some (.cont 3):=rfl
 have h:F_au (n+4) [a,b,d] 3=some (.done (.cont ())):=rfl;unfold orL orL orL orL;rw[iter,e];cases q:(a != 0)with
 |true=>rfl
 |false=>
  simp only[Vp];rw[iter,g];cases i:(b != 0)with
  |true=>rfl
  |false=>
   simp only[Vp];rw[iter,f];cases j:(d != 0)with
   |true=>rfl
   |false=>
    simp only[Vp];rw[iter,h];rfl
theorem QgJ(n:Nat):(λx y=>F_cl (n+4) x y)=λx y=>some (cmpPl x y):=by
 funext x y
 unfold F_cl cmpPl;simp only[QiL,XJ,or3]
theorem Qlo(x y:Uc):cmpPl x y<0↔ltPl x y:=by
 unfold cmpPl orL orL orL orL ltPl;have e:∀a b:Int,(cmpI a b != 0)= !decide (a=b):=λa b=>by
  rw[XY];simp[Qbe]
 rw[e,e,e];by_cases d:x.chip=y.chip
 .by_cases f:x.mat=y.mat
  .by_cases g:x.epoch=y.epoch
   .simp[d,f,g]
   .simp only[d,f,g,decide_true,decide_false,Xg,Xh,Vo,Vp,Qge,true_and,false_and,or_false];omega
  .simp only[d,f,decide_true,decide_false,Xg,Xh,Vo,Vp,Qge,true_and,false_and,or_false];omega
 .simp only[d,decide_false,Xh,Vo,Qge,true_and,false_and,or_false]
theorem Qh4(x y:Uc):cmpPl x y=0↔x=y:=by
 unfold cmpPl orL orL orL orL;have e:∀a b:Int,(cmpI a b != 0)= !decide (a=b):=λa b=>by
  rw[XY];simp[Qbe]
 rw[e,e,e];by_cases d:x.chip=y.chip
 .by_cases f:x.mat=y.mat
  .by_cases g:x.epoch=y.epoch
   .simp only[d,f,g,decide_true,Xg,Vp,true_iff];cases x;cases y;simp_all
   .simp only[d,f,g,decide_true,decide_false,Xg,Xh,Vo,Vp,Qbe];exact⟨λz=>z.elim,λz=>g (by rw[z])⟩
  .simp only[d,f,decide_true,decide_false,Xg,Xh,Vo,Vp,Qbe];exact⟨λz=>z.elim,λz=>f (by rw[z])⟩
 .simp only[d,decide_false,Xh,Vo,Qbe];exact⟨λz=>z.elim,λz=>d (by rw[z])⟩
def plH(h:Hit):Uc:=⟨h.Chip,h.Mat,h.Epoch⟩
def wrongH(c:Course)(h:Hit):Bool:=decide (h.Mat<0)||(decide ((c.Mats.length:Int)<=h.Mat)||(!nb h.Epoch 0 255||(!nb h.Chip 0 1048576||(!nb h.First (-1099511627776) 1099511627776||(!nb h.Last (-1099511627776) 1099511627776||decide (h.Last<h.First))))))
def folB(W:Int)(a b:Hit):Bool:=decide (cmpPl (plH a) (plH b)<0)||(decide (cmpPl (plH a) (plH b)=0)&&decide (W<i64.wrap (b.First-a.Last)))
def okAt(c:Course)(x:List Hit)(i:Nat):Bool:=match x[i]? with
 |none=>true
 |some h=> !wrongH c h&&((i==0)||(match x[i-1]? with
  |none=>true
  |some p=>folB c.Faults.Window p h))
def chkFrom(ok:Nat->Bool):Nat->Nat->Bool
 |0,_=>true
 |d+1,i=>ok i&&chkFrom ok d (i+1)
def checkH(c:Course)(x:List Hit):Bool:=chkFrom (okAt c x) x.length 0
theorem QcO(c:Course)(x:List Hit)(y:x.length<=1000000)(step:Nat->Int->Option (Ctl Int (Ctl Unit Int)))
  (s:∀i h,At x i h->(∀p,0<i->x[i-1]?=some p->Ev (λn=>step n (i:Int)) (bif wrongH c h then Ctl.done (Ctl.done 170)else bif folB c.Faults.Window p h then Ctl.cont ((i+1:Nat):Int)else Ctl.done (Ctl.done 170)))/\(i=0->Ev (λn=>step n (i:Int)) (bif wrongH c h then .done (.done 170)else .cont ((i+1:Nat):Int))))
  (t:Ev (λn=>step n (x.length:Int)) (.done (.cont ()))):Ev (λn=>iter (step n) n 0) (bif checkH c x then Ctl.cont ()else Ctl.done 170):=by
 have:=Qc1 (step:=step) (s0:=(0:Int)) (λi=>(i:Int)) x.length (λi=>(bif chkFrom (okAt c x) (x.length-i) i then Ctl.cont ()else Ctl.done 170:Ctl Unit Int)) rfl (λi q=>?_) ?_
 .exact this
 .have j:=Y9 (x:=x[i]) (show x.length<=4611686018427387904 by omega) (XK q);generalize x[i]=h at j;obtain⟨r,u⟩:=s i h j;have m:x.length-i=(x.length-(i+1))+1:=by omega
  have f:okAt c x i=(!wrongH c h&&((i==0)||(match x[i-1]? with|none=>true|some p=>folB c.Faults.Window p h))):=by
   unfold okAt;rw[j.get]
  have g:chkFrom (okAt c x) (x.length-i) i=(okAt c x i&&chkFrom (okAt c x) (x.length-(i+1)) (i+1)):=by rw[m];rfl
  rw[g,f];by_cases k:i=0
  .have a:=u k;cases d:wrongH c h with
   |true=>rw[d]at a;exact .inr (a.eq (by simp))
   |false=>rw[d]at a;exact .inl ⟨a,by simp[k]⟩
  .have l:x[i-1]?=some x[i-1]:=XK (by omega);have a:=r _ (by omega) l;rw[l];have w:(i==0)=false:=by simpa using k
   rw[w];cases d:wrongH c h with
   |true=>rw[d]at a;exact .inr (a.eq (by simp))
   |false=>
    rw[d]at a;cases e:folB c.Faults.Window x[i-1] h with
    |true=>rw[e]at a;exact .inl ⟨a,by simp[e]⟩
    |false=>rw[e]at a;exact .inr (a.eq (by simp[e]))
 .rw[Nat.sub_self];exact t
theorem Qhf(p q:Uc):Ev (λn=>F_cl n p q) (cmpPl p q):=by
 refine⟨4,λn a=>?_⟩;obtain⟨k,rfl⟩:∃k,n=k+4:=⟨n-4,by omega⟩;exact congrFun (congrFun (QgJ k) p) q
theorem Qme(n:Nat)(v:Int):F_ah n v=some (nb v (-1099511627776) 1099511627776):=by
 unfold F_ah;by_cases a:(-1099511627776)<=v
 .rw[Qx a];simp only[Vo,XJ,Option.some.injEq];rw[XY,QhL,Vq];omega
 .rw[Qy a];simp only[Vp,XJ,Option.some.injEq]
  symm
  rw[VL];intro z;rw[QhL]at z;omega
theorem Qjt{e:Int}(c:Course)(x:List Hit)(t:x.length<=1000000)(he:Ev (λn=>F_d n c) e):Ev (λn=>F_dj n c x) (bif e != 0 then e else bif checkH c x then 0 else 170):=by
 unfold F_dj;refine Ea he ?_;cases(e != 0)with
 |true=>exact Qa _
 |false=>
  simp only[Vp];refine Ea (QcO c x t _ (λi h a=>?_) ?_) ?_
  .have l:Ev (λn=>((bif decide (h.Mat<0)then some true else(bif decide ((c.Mats.length:Int)<=h.Mat)then some true else(bif decide (h.Epoch<0)then some true else(bif decide (255<h.Epoch)then some true else(bif decide (h.Chip<0)then some true else(bif decide (1048576<h.Chip)then some true else(F_ah n h.First).bind λj=>(bif (!j)then some true else(F_ah n h.Last).bind λf=>(bif (!f)then some true else some (decide (h.Last<h.First)))))))))):Option Bool)) (wrongH c h):=by
    have e:wrongH c h=(decide (h.Mat<0)||(decide ((c.Mats.length:Int)<=h.Mat)||(decide (h.Epoch<0)||(decide (255<h.Epoch)||(decide (h.Chip<0)||(decide (1048576<h.Chip)||(!nb h.First (-1099511627776) 1099511627776||(!nb h.Last (-1099511627776) 1099511627776||decide (h.Last<h.First))))))))):=by
     unfold wrongH;have s:∀v lo d:Int,(!nb v lo d)=(decide (v<lo)||decide (d<v)):=λv lo d=>by unfold nb;simp
     rw[s h.Epoch,s h.Chip,Bool.or_assoc,Bool.or_assoc]
    rw[e];refine Qh λ_=>Qh λ_=>Qh λ_=>Qh λ_=>Qh λ_=>Qh λ_=>?_;simp only[Qme,XJ];exact Qh λ_=>Qh λ_=>Qa _
   refine⟨λp d u=>?_,λd=>?_⟩
   .have m:((i:Int)==0)=false:=by rw[Vy];omega
    have k:i64.wrap ((i:Int)-1)=((i-1:Nat):Int):=by
     have:=a.lt';rw[Qq (by omega) (by omega)];omega
    unfold F_ki;simp only[a.lt,Vo,a.ix,XJ,a.nx,m,Vp,k,Qo u];cases r:wrongH c h with
    |true=>
     refine Ea (v:=(Ctl.done (Ctl.done (Ctl.done 170)):Ctl Unit (Ctl Int (Ctl Unit Int)))) (Ea l ?_) (Qa _);rw[r];exact Qa _
    |false=>
     refine Ea (v:=(bif folB c.Faults.Window p h then Ctl.cont ()else Ctl.done (Ctl.done (Ctl.done 170)):Ctl Unit (Ctl Int (Ctl Unit Int)))) (Ea l ?_) ?_
     .rw[r];simp only[Vp];refine Ea (Qhf _ _) ?_;show Ev (λn=>((bif decide (0<cmpPl (plH p) (plH h))then some (decide (0<cmpPl (plH p) (plH h)))else(bif (cmpPl (plH p) (plH h)==0)then some (decide ((i64.wrap (h.First-p.Last))<=c.Faults.Window))else some false)):Option Bool).bind λg=>((bif g then some (Ctl.done (Ctl.done (Ctl.done 170)))else some (Ctl.cont ())):Option (Ctl Unit (Ctl Int (Ctl Unit Int))))) _;unfold folB;rcases Int.lt_trichotomy (cmpPl (plH p) (plH h)) 0 with q|q|q
      .rw[Qy (show¬0<cmpPl (plH p) (plH h)by omega),Qx q,show(cmpPl (plH p) (plH h)==0)=false by rw[Vy];omega];exact Qa _
      .rw[q];by_cases z:c.Faults.Window<i64.wrap (h.First-p.Last)
       .rw[Qx z,Qy (show¬i64.wrap (h.First-p.Last)<=c.Faults.Window by omega)];exact Qa _
       .rw[Qy z,Qx (show i64.wrap (h.First-p.Last)<=c.Faults.Window by omega)];exact Qa _
      .rw[Qx q,Qy (show¬cmpPl (plH p) (plH h)<0 by omega),Qy (show¬cmpPl (plH p) (plH h)=0 by omega)];exact Qa _
     .cases folB c.Faults.Window p h<;>exact Qa _
   .subst d;unfold F_ki;have w:(((0:Nat):Int)==0)=true:=rfl;simp only[a.lt,Vo,a.ix,XJ,a.nx,w];refine Ea (v:=(bif wrongH c h then Ctl.done (Ctl.done (Ctl.done 170))else Ctl.cont ():Ctl Unit (Ctl Int (Ctl Unit Int)))) (Ea l ?_) ?_
    .cases wrongH c h<;>exact Qa _
    .cases wrongH c h<;>exact Qa _
  .unfold F_ki;simp only[Qao,Vp];exact Qa _
  .cases checkH c x<;>exact Qa _
theorem Qmi(n:Nat)(a b:Hit)(W:Int):F_dn n a b W=some (folB W a b):=by
 unfold F_dn folB bne;have i:=Qlo (plH a) (plH b);have d:=Qh4 (plH a) (plH b);have h:plH a=plH b↔a.Chip=b.Chip/\a.Mat=b.Mat/\a.Epoch=b.Epoch:=by
  unfold plH;simp only[Uc.mk.injEq]
 rw[h]at d;unfold ltPl at i;change _↔a.Chip<b.Chip\/(a.Chip=b.Chip/\(a.Mat<b.Mat\/(a.Mat=b.Mat/\a.Epoch<b.Epoch)))at i;by_cases g:a.Chip=b.Chip
 .rw[Vx.2 g];simp only[Xg,Vp];by_cases e:a.Mat=b.Mat
  .rw[Vx.2 e];simp only[Xg,Vp];by_cases f:a.Epoch=b.Epoch
   .rw[Vx.2 f];have z:=d.2 ⟨g,e,f⟩;rw[z];simp
   .rw[Vy.2 f];have:¬cmpPl (plH a) (plH b)=0:=λz=>f (d.1 z).2.2;rw[Qy this];simp only[Xh,Vo,Bool.false_and,Bool.or_false,Option.some.injEq,decide_eq_decide];omega
  .rw[Vy.2 e];have:¬cmpPl (plH a) (plH b)=0:=λz=>e (d.1 z).2.1;rw[Qy this];simp only[Xh,Vo,Bool.false_and,Bool.or_false,Option.some.injEq,decide_eq_decide];omega
 .rw[Vy.2 g];have:¬cmpPl (plH a) (plH b)=0:=λz=>g (d.1 z).1;rw[Qy this];simp only[Xh,Vo,Bool.false_and,Bool.or_false,Option.some.injEq,decide_eq_decide];omega
theorem Qjq{e:Int}(c:Course)(x:List Hit)(q:x.length<=1000000)(he:Ev (λn=>F_c n c) e):Ev (λn=>F_co n c x) (bif e != 0 then e else bif checkH c x then 0 else 170):=by
 unfold F_co;refine Ea he ?_;cases(e != 0)with
 |true=>exact Qa _
 |false=>
  simp only[Vp];refine Ea (QcO c x q _ (λi h a=>?_) ?_) ?_
  .have m:Ev (λn=>((bif decide (h.Mat<0)then some true else(bif decide ((c.Mats.length:Int)<=h.Mat)then some true else(F_ck n h.Epoch).bind λd=>(bif (!d)then some true else(F_cg n h.Chip).bind λj=>(bif (!j)then some true else(F_aj n h.First).bind λk=>(bif (!k)then some true else(F_aj n h.Last).bind λf=>(bif (!f)then some true else some (decide (h.Last<h.First)))))))):Option Bool)) (wrongH c h):=by
    unfold wrongH;refine Qh λ_=>Qh λ_=>?_;simp only[Qks,Ql5,Ql4,XJ];exact Qh λ_=>Qh λ_=>Qh λ_=>Qh λ_=>Qa _
   refine⟨λp l r=>?_,λl=>?_⟩
   .have g:i64.wrap ((i:Int)-1)=((i-1:Nat):Int):=by
     have:=a.lt';rw[Qq (by omega) (by omega)];omega
    unfold F_ji;simp only[a.lt,Vo,a.ix,XJ,a.nx,Qx (show(0:Int)<(i:Int)by omega),g,Qo r,Qmi];refine Ea m ?_;cases s:wrongH c h with
    |true=>exact Qa _
    |false=>
     simp only[Vp];cases folB c.Faults.Window p h<;>exact Qa _
   .subst l;unfold F_ji;have t:decide ((0:Int)<((0:Nat):Int))=false:=rfl;simp only[a.lt,Vo,a.ix,XJ,a.nx,t,Vp];refine Ea m ?_;cases s:wrongH c h<;>exact Qa _
  .unfold F_ji;simp only[Qao,Vp];exact Qa _
  .cases checkH c x<;>exact Qa _
theorem Qho(c:Course)(a:Course.wf c):∃b,Ev (λn=>F_bx n c) b/\(b=true->FewOk c/\Ev (λn=>F_d n c) (courseE c)):=by
 have w:=QdH a;have q:=QeU a;obtain⟨f,d⟩:=Qir a;obtain⟨b,g,fb⟩:=Qgc c w q f d;exact⟨b,g,λe=>⟨fb e,Qjy c w q (fb e) f d⟩⟩
mutual
def flP:Part->List Int
 |⟨m,laps,ps⟩=>bif laps==0 then[m]else(List.replicate laps.toNat (flPs ps)).flatten
def flPs:List Part->List Int
 |[]=>[]
 |p::r=>flP p++flPs r
end
theorem Qdh(p:Part):flP p=bif p.Laps==0 then[p.Mat]else(List.replicate p.Laps.toNat (flPs p.Parts)).flatten:=by cases p;rfl
theorem Qa8(p:Part)(r:List Part):flPs (p::r)=flP p++flPs r:=by rw[flPs]
theorem QgH:∀(k:Nat) (out lap:List Int),(repS k out lap).length<=256->repS k out lap=out++(List.replicate k lap).flatten
 |0,out,lap,_=>by simp[repS]
 |k+1,out,lap,h=>by
  rw[repS]at h⊢;by_cases hb:256<out.length
  .rw[Vs hb]at h;omega
  .rw[Vr hb]at h⊢;rw[QgH k _ _ h,Xl,Vl,Vi]
theorem Qf2{d:Int}{p:Part}(h:partS d p=true):p.Laps=0\/(1<=p.Laps/\p.Laps<=64/\partsS d p.Parts=true):=by
 rw[Qa4]at h;cases a:(p.Laps==0)with
 |true=>exact .inl (by simpa using a)
 |false=>
  rw[a]at h;simp only[Vp,XW,inR,Vq]at h;exact .inr ⟨h.1.1,h.1.2,h.2.2.2⟩
theorem QkT(u:Int):∀(m:Nat) (l:List Part) (e:List Int),szPs l<=m->partsS u l=true->(expS e l).length<=256->expS e l=e++flPs l:=by
 intro m
 induction m using Nat.strongRecOn with
 |_ m w=>
 intro l
 induction l with
 |nil=>intro e _ _ _;rw[expS,flPs,Vg]
 |cons p r j=>
  intro e x q k;rw[Y1,List.all_cons,XW, <- Y1]at q;have i:szP p+szPs r<=m:=by rw[szPs]at x;omega
  rw[expS]at k⊢;by_cases g:256<(repS (p.Laps.toNat+(bif decide (0<p.Laps)then 0 else 1)) e (lapS p)).length
  .rw[QcL r g]at k;omega
  .have t:=QgH _ _ _ (Nat.le_of_not_lt g);rw[j _ (by omega) q.2 k,t,Qa8,Vi];congr 2;rcases Qf2 q.1 with s|⟨a,b,d⟩
   .have h:decide (0<p.Laps)=false:=Qy (by omega);have n:(p.Laps==0)=true:=by simp[s]
    rw[QaA,Qdh,h,n,s];simp
   .have h:decide (0<p.Laps)=true:=Qx (by omega);have n:(p.Laps==0)=false:=beq_false_of_ne (by omega);have f:(lapS p).length<=256:=by
     rw[t,h]at g;simp only[Vo,Xx]at g;have:p.Laps.toNat=(p.Laps.toNat-1)+1:=by omega
     rw[this,Xl,Vl]at g;simp only[X3]at g;omega
    rw[QaA,h,Vo]at f;rw[YD]at i;have:=w (szPs p.Parts) (by omega) p.Parts [] (XT _) d f;rw[QaA,Qdh,h,n,Vo,Vo,Vp,Xx,this,Vh]
theorem Qmk(G:Int):∀(m:Nat) (l:List Part) (e:List Int),szPs l<=m->partsS G l=true->l.length<=1048576->(∀x∈l,Part.wf x)->e.length+(flPs l).length<=256->Ev (λn=>F_p n l e) (e++flPs l):=by
 intro m
 induction m using Nat.strongRecOn with
 |_ m O=>
 intro l e X B M W J;rw[Y1,Xs]at B;refine Yy ?_;show Ev (λn=>B_p (F_p n) n l e) _;unfold B_p;have inner:∀(p:Part) (w:List Int),0<=p.Laps->p.Laps<=64->(∀o:List Int,o.length+w.length<=256->Ev (λn=>F_p n p.Parts o) (o++w))->∀(k j:Nat) (o:List Int),j+k=p.Laps.toNat->o.length+(List.replicate k w).flatten.length<=256->
   EvI (λn=>F_fp n (F_p n) p) (o,(j:Int)) (o++(List.replicate k w).flatten):=by
  intro p w E H h k
  induction k with
  |zero=>
   intro j o V _;refine Ej ?_;unfold F_fp;simp only[Qy (show¬((j:Int)<p.Laps)by omega),Vp,List.replicate_zero,List.flatten_nil,Vg];exact Qa _
  |succ k z=>
   intro j o V g;rw[Xl,Vl]at g⊢;simp only[X3]at g;refine(Ex ?_ (z (j+1) (o++w) (by omega) (by rw[X3];omega))).eq (by rw[Vi]);unfold F_fp;simp only[Qx (show(j:Int)<p.Laps by omega),Vo];refine Ea (h o (by omega)) ?_;rw[QU (by omega)];exact Qa _
 have loop:∀(r:List Part) (i:Nat) (o:List Int),l.drop i=r->i<=l.length->o.length+(flPs r).length<=256->EvI (λn=>F_jj n l (F_p n)) (o,(i:Int)) (o++flPs r):=by
  intro r
  induction r with
  |nil=>
   intro i o h F _;refine Ej ?_;unfold F_jj;simp only[QJ h F,Vp,flPs,Vg];exact Qa _
  |cons p r t=>
   intro i o h F g;obtain⟨f,u⟩:=Qv (by omega) h;have T:=f.lt';rw[Qa8,X3]at g;have L:=YS f.mem;rw[YD]at L;obtain⟨N,Q⟩:=Yc (W p f.mem);have R:=B p f.mem;refine(Ex ?_ (t (i+1) (o++flP p) u (by omega) (by rw[X3];omega))).eq (by rw[Qa8,Vi]);unfold F_jj;simp only[f.lt,Vo,f.ix,XJ,f.nx];rcases Qf2 R with E|⟨a,b,d⟩
   .have q:(p.Laps==0)=true:=by simp[E]
    have s:flP p=[p.Mat]:=by rw[Qdh,q];rfl
    rw[s]at g⊢;refine Ea (v:=o++[p.Mat]) ?_ ?_
    .rw[q];refine QaP ?_;rw[QmF _ _ (by simp;omega)];exact Qa _
    .refine Ea (v:=o++[p.Mat]) ((Ej ?_).ev) (Qa _);unfold F_fp;simp only[Qy (show¬((0:Int)<p.Laps)by omega),Vp];exact Qa _
   .have q:(p.Laps==0)=false:=beq_false_of_ne (by omega);have s:flP p=(List.replicate p.Laps.toNat (flPs p.Parts)).flatten:=by rw[Qdh,q];rfl
    rw[s]at g⊢;refine Ea (v:=o) ?_ ?_
    .rw[q];exact Qa _
    .refine Ea ((inner p (flPs p.Parts) (by omega) b (λP y=>O (szPs p.Parts) (by omega) p.Parts P (XT _) d N Q y) p.Laps.toNat 0 o (by omega) (by omega)).ev) (Qa _)
 exact Ea ((loop l 0 e (by simp) (XU _) J).ev) (Qa _)
structure Good (c:Course):Prop where
 parts:∀d∈c.Distances,partsS ((c.Mats.length:Int)-1) d.Route=true
 route:∀d∈c.Distances,2<=(expS [] d.Route).length/\(expS [] d.Route).length<=256
 len:∀d∈c.Distances,d.Route.length<=1048576
 wf:∀d∈c.Distances,∀x∈d.Route,Part.wf x
 legs:c.Legs.length<=512
theorem Good.exp{c:Course}(g:Good c){d:Distance}(a:d∈c.Distances):expS [] d.Route=flPs d.Route:=by
 have:=QkT _ _ d.Route [] (XT _) (g.parts d a) (g.route d a).2
 rwa [Vh]at this
theorem QdA{c:Course}(g:Good c){d:Distance}(a:d∈c.Distances):Ev (λn=>F_cq n d.Route) (flPs d.Route):=by
 unfold F_cq;have h:=(g.route d a).2;rw[g.exp a]at h;refine Ea ((Qmk _ _ d.Route [] (XT _) (g.parts d a) (g.len d a) (g.wf d a) (by simpa using h)).eq (Vh _)) (Qa _)
theorem Qgb{c:Course}(he:Ev (λn=>F_d n c) 0){i:Nat}{d:Distance}(a:c.Distances[i]?=some d):Ev (λn=>F_br n c (i:Int)) (d,0):=by
 unfold F_br;refine Ea he ?_;have e:=(XL.1 a).1;refine Qt (Ea (v:=false) ?_ ?_)
 .rw[Qy (show¬((i:Int)<0)by omega),Qy (show¬((c.Distances.length:Int)<=(i:Int))by omega)];exact Qa _
 .simp only[Vp,Qo a,XJ];exact Qa _
theorem Qmw(c:Course)(a:c.Legs.length<=512):∃m,Ev (λn=>Go.Sw.iter (F_jr n c) n (([]:List (Ub×Leg)),0)) m:=by
 refine⟨_,QaC c.Legs (λ(m:List (Ub×Leg)) x=>Q2 m ({from_:=x.From,to_:=x.To:Ub}) x) [] (λm i=>(m,(i:Int))) (λm=>m) (by omega) rfl (λi x m ha _=>?_) ?_⟩
 .unfold F_jr;simp only[ha.lt,Vo,ha.ix,XJ,ha.nx];exact Qa _
 .unfold F_jr;simp only[Qao,Vp];exact Qa _
theorem Qj5{α:Type}{step:Nat->Int->Option (Ctl Int (Ctl Unit Int))}(l:List α)(q:α->Bool)(z:l.length<=1048576)
  (w:∀i x,At l i x->Ev (λn=>step n (i:Int)) (bif q x then .done (.done (i:Int))else .cont ((i+1:Nat):Int)))(s:Ev (λn=>step n (l.length:Int)) (.done (.cont ()))):
  (∃i x,At l i x/\l.find? q=some x/\Ev (λn=>Go.Sw.iter (step n) n 0) (.done (i:Int)))\/l.find? q=none/\Ev (λn=>Go.Sw.iter (step n) n 0) (.cont ()):=by
 have g:∀(r:List α) (i:Nat),l.drop i=r->i<=l.length->(∃j x,At l j x/\r.find? q=some x/\EvI step (i:Int) (.done (j:Int)))\/r.find? q=none/\EvI step (i:Int) (.cont ()):=by
  intro r
  induction r with
  |nil=>
   intro i k p;have:i=l.length:=by have:=Xq.1 k;omega
   subst this;exact .inr ⟨rfl,Ej s⟩
  |cons x r u=>
   intro i k p;obtain⟨m,f⟩:=Qv (by omega) k;have t:=m.lt';have h:=w i x m;rw[List.find?_cons];cases e:q x with
   |true=>rw[e]at h;exact .inl ⟨i,x,m,rfl,Ej h⟩
   |false=>
    rw[e]at h;rcases u (i+1) f (by omega)with⟨j,y,a,b,d⟩|⟨a,b⟩
    .exact .inl ⟨j,y,a,b,Ex h d⟩
    .exact .inr ⟨a,Ex h b⟩
 rcases g l 0 (by simp) (XU _)with⟨j,x,a,b,d⟩|⟨a,b⟩
 .exact .inl ⟨j,x,a,b,d.ev⟩
 .exact .inr ⟨a,b.ev⟩
theorem Qmg{c:Course}(w:CourseOk c)(q:PartsOk c)(h:courseE c=0):Good c:=by
 unfold courseE at h;cases e:fitsS c with
 |false=>rw[e]at h;cases h
 |true=>
  rw[e]at h;cases k:namesS c with
  |false=>rw[k]at h;cases h
  |true=>
   rw[k]at h;cases f:numbersS c with
   |false=>rw[f]at h;cases h
   |true=>
    rw[f]at h;simp only[Vo]at h;have i:c.Distances.all (routeS c)=true:=by
     cases g:(tiesE c.Ties==0)with
     |false=>
      rw[g,Vp]at h;rw[Vy]at g;exact absurd h g
     |true=>
      rw[g,Vo]at h;cases i:c.Distances.all (routeS c)with
      |true=>rfl
      |false=>rw[i]at h;cases h
    unfold numbersS at f;simp only[XW]at f;obtain⟨_,_,_,j,_⟩:=f;unfold fitsS at e;simp only[XW,Bool.not_eq_true',XX,decide_eq_false_iff_not]at e;rw[Xs]at i j;refine⟨λd a=>?_,λd a=>?_,q.len,q.wf,?_⟩
    .have:=j d a;unfold distS at this;simp only[XW]at this;exact this.2.2.1
    .have:=i d a;unfold routeS routeR at this;simp only[XW,Vq]at this;exact this.1
    .have:=e.1.2.1;omega
theorem Ql1:∀j:Fin 257,(decide (0<(u64.wrap ((u64.wrap ((u64.wrap ((Yl .u64 (u64.wrap ([(0:Int)].length:Int)) 32)*(Yl .u64 (u64.wrap ((j:Nat):Int)) 32)))+(Yl .u64 (u64.wrap ((u64.wrap ((Yl .u64 (u64.wrap ([(0:Int)].length:Int)) 32)*(Ym .u64 (u64.wrap ((j:Nat):Int)) 4294967295)))+(Yl .u64 (u64.wrap ((Ym .u64 (u64.wrap ([(0:Int)].length:Int)) 4294967295)*(Ym .u64 (u64.wrap ((j:Nat):Int)) 4294967295))) 32))) 32)))+(Yl .u64 (u64.wrap ((Ym .u64 (u64.wrap ((u64.wrap ((Yl .u64 (u64.wrap ([(0:Int)].length:Int)) 32)*(Ym .u64 (u64.wrap ((j:Nat):Int)) 4294967295)))+(Yl .u64 (u64.wrap ((Ym .u64 (u64.wrap ([(0:Int)].length:Int)) 4294967295)*(Ym .u64 (u64.wrap ((j:Nat):Int)) 4294967295))) 32))) 4294967295)+(u64.wrap ((Ym .u64 (u64.wrap ([(0:Int)].length:Int)) 4294967295)*(Yl .u64 (u64.wrap ((j:Nat):Int)) 32))))) 32)))))=false:=by decide+kernel
theorem Qkq:∀j:Fin 257,(decide (9223372036854775807<(u64.wrap ((u64.wrap ([(0:Int)].length:Int))*(u64.wrap ((j:Nat):Int))))))=false:=by decide+kernel
theorem Ql2:∀j:Fin 257,(i64.wrap (u64.wrap ((u64.wrap ([(0:Int)].length:Int))*(u64.wrap ((j:Nat):Int)))))=((j:Nat):Int):=by decide+kernel
theorem Qkr(x:Int)(K:Nat)(p:K<=256):∀(m j:Nat),1<=j->j<=K->K-j<=m->EvI (λn=>F_gr n) (List.replicate j x++List.replicate (K-j) 0,(j:Int)) (List.replicate K x):=by
 intro m
 induction m with
 |zero=>
  intro j l g k;obtain rfl:j=K:=by omega
  refine Ej ?_;unfold F_gr;rw[Nat.sub_self,List.replicate_zero,Vg];simp only[List.length_replicate,Qy (show¬((j:Int)<(j:Int))by omega),Vp];exact Qa _
 |succ m h=>
  intro j l g k;by_cases i:j=K
  .subst i;refine Ej ?_;unfold F_gr;rw[Nat.sub_self,List.replicate_zero,Vg];simp only[List.length_replicate,Qy (show¬((j:Int)<(j:Int))by omega),Vp];exact Qa _
  .have e:(List.replicate j x++List.replicate (K-j) (0:Int)).length=K:=by simp;omega
   refine Ex ?_ (h (j+min j (K-j)) (by omega) (by omega) (by omega));unfold F_gr;simp only;generalize hL:List.replicate j x++List.replicate (K-j) (0:Int)=L at e;have a:L.take j=List.replicate j x:=by rw[<- hL,List.take_left' (by simp)]
   have f:L.drop j=List.replicate (K-j) 0:=by rw[<- hL,List.drop_left' (by simp)]
   rw[Qx (by omega),Vo,Qkl L (by omega),XJ,Qm4 L (by omega),XJ];unfold cpy;simp only[XJ,Int.toNat_natCast,e,a];have d:L.take j++(List.replicate j x).take (K-j)++L.drop (j+min (List.replicate j x).length (K-j))=List.replicate (j+min j (K-j)) x++List.replicate (K-(j+min j (K-j))) 0:=by
    rw[<- List.drop_drop,a,f,List.length_replicate,List.take_replicate,List.drop_replicate,List.replicate_append_replicate];rw[Nat.min_comm (K-j) j,Nat.sub_sub]
   rw[a]at d;rw[d];have w:i64.wrap ((j:Int)+((min (List.replicate j x).length (K-j):Nat):Int))=((j+min j (K-j):Nat):Int):=by
    rw[List.length_replicate,Qq (by omega) (by omega)];omega
   rw[w];exact Qa _
theorem YZ{α:Type}{c:Bool}{f g:Nat->Option α}{v:α}(h:c=false)(q:Ev g v):Ev (λn=>bif c then f n else g n) v:=by subst h;exact q
theorem Qjx(x:Int)(k:Nat)(d:1<=k)(f:k<=256):Ev (λn=>F_bp n [x] (k:Int)) (List.replicate k x):=by
 have a:=Ql1 ⟨k,by omega⟩;have h:=Qkq ⟨k,by omega⟩;have g:=Ql2 ⟨k,by omega⟩;unfold F_bp;refine Ea (v:=()) (by rw[Qy (show¬((k:Int)<0)by omega)];exact Qa _) (Ea (v:=()) (Qa _) (Ea (v:=false) ?_ (Ea (v:=()) (Qa _) ?_)))
 .exact YZ a (EA (congrArg some h))
 .refine Ea (v:=List.replicate k 0) (EA ((congrArg (λz=>mk z (0:Int)) g).trans ?_)) ?_
  .show mk (k:Int) 0=_;unfold mk;rw[Qx (by omega),Qx (by omega)];rfl
  .refine Ea (v:=List.replicate 1 x++List.replicate (k-1) 0) (EA ?_) ?_
   .unfold cpy;simp only[List.length_replicate,Int.toNat_natCast,List.length_singleton];obtain⟨m,rfl⟩:∃m,k=m+1:=⟨k-1,by omega⟩;simp
   .have e:((min [x].length (List.replicate k (0:Int)).length:Nat):Int)=((1:Nat):Int):=by simp;omega
    rw[e];exact Ea ((Qkr x k f k 1 (XT _) d (by omega)).ev) (Qa _)
set_option maxRecDepth 10000
theorem Qdi(c:Course)(x:Int):Ev (λn=>F_az n c x) (matB c x):=by
 unfold F_az matB;exact Ea (Ei λ_=>Qa _) (Qa _)
theorem Qbq(x:Int):Ev (λn=>F_k n x) (timeB x):=by
 unfold F_k timeB inR;exact Ea (Ei λ_=>Qa _) (Qa _)
theorem Qhd{x k:Int}(d: -2199023255552<=x/\x<=2199023255552)(g:0<=k/\k<=100000):Ev (λn=>F_da n x k) (driftV x k,0):=by
 obtain⟨i,j,l,m⟩:=QbP d g;unfold F_da;refine Ea (v:=false) ?_ ?_
 .rw[Qy (show¬(x< -2199023255552)by omega),Qy (show¬(2199023255552<x)by omega),Qy (show¬(k<0)by omega),Qy (show¬(100000<k)by omega)];exact Qa _
 refine Qt (Ea (v:=if x<0-x then 0-x else x) ?_ ?_)
 .by_cases h:x<0
  .rw[Qx h,Vs (by omega),Qq (by omega) (by omega)];exact Qa _
  .rw[Qy h,Vr (by omega)];exact Qa _
 unfold driftV;generalize(if x<0-x then 0-x else x)*k=a at*;have e:Int.tdiv a 1000000=a/1000000:=Int.tdiv_eq_ediv_of_nonneg (by omega);have f:Int.tdiv (a+1000000-1) 1000000=(a+1000000-1)/1000000:=Int.tdiv_eq_ediv_of_nonneg (by omega);rw[Qq (n:=a) (by omega) (by omega),e,f,Qq (n:=a/1000000) (by omega) (by omega),Qq (n:=a/1000000*1000000) (by omega) (by omega),Qq (n:=a/1000000+1) (by omega) (by omega)];refine Ea (v:=(a+1000000-1)/1000000) ?_ (Qa _);by_cases h:a/1000000*1000000<a
 .rw[Qx h];exact Ew (Qa _) (by omega)
 .rw[Qy h];exact Ew (Qa _) (by omega)
theorem Qdj{c:Course}(d:CrsOk c){i:Nat}{m:Mat}(k:c.Mats[i]?=some m){s:Segment}(j:s.Mat=(i:Int)){a:Int}(g:isT s.Anchor)(f:isT a):Ev (λn=>F_ad n c s a) (devV c m.Kind s a):=by
 obtain⟨p,r⟩:=d.res;have e: -2199023255552<=a-s.Anchor/\a-s.Anchor<=2199023255552:=by unfold isT at g f;omega
 obtain⟨l,q,_,_⟩:=QbP e d.drift;unfold F_ad F_ag devV;simp only[j,Qo k,XJ];by_cases h:m.Kind=1
 .simp only[h,bne_self_eq_false,Vp,beq_self_eq_true,Vo];exact Qa _
 .rw[show(m.Kind==1)=false by simpa using h,show(m.Kind != 1)=true by simpa using h];simp only[Vp,Vo];rw[Qq (n:=a-s.Anchor) (by omega) (by omega)];refine Ea (Qhd e d.drift) ?_;rw[Qq (n:=0-driftV (a-s.Anchor) c.Faults.Drift) (by omega) (by omega),Qq (n:=c.Faults.Residual+driftV (a-s.Anchor) c.Faults.Drift) (by omega) (by omega)];exact Qa _
theorem leN{a b:Nat}(h:a<b+1):decide ((a:Int)<=(b:Int))=true:=Vt (by omega)
theorem Qkv(b:Nat):decide (((b+1:Nat):Int)<=(b:Int))=false:=Vw (by omega)
theorem QkV(x:Int):Ev (λn=>F_k n x) (timeB x):=by
 unfold F_k timeB inR;exact Ea (Ei λ_=>Qa _) (Qa _)
theorem QkZ(x y:Segment):Ev (λn=>F_ct n x y) (segLt x y):=by
 unfold F_ct segLt;exact Ea (Qh λ_=>Ei λ_=>Qa _) (Qa _)
theorem QkW(c:Clocks)(d:c.Segments.length<=1048576):Ev (λn=>iter (F_jn n c) n 0) (bif segsB c then Ctl.cont ()else Ctl.done 160):=by
 unfold segsB;refine Jw c.Segments.length _ _ _ (λi f=>?_) ?_
 .have a:=atN d f;unfold F_jn;simp only[a.lt,Vo,a.ix,XJ,a.nx,a.get];refine Ea (v:=segBad c i (c.Segments[i])) ?_ ?_
  .unfold segBad;refine Qh λ_=>Qh λ_=>Qh λ_=>Qh λ_=>Ea (QkV _) (Qh λ_=>?_);unfold prevSeg;refine Ei λh=>?_;have g:0<i:=by have:=Vu h;omega
   have e:i-1<c.Segments.length:=by omega
   rw[QgS d g (by omega) (XK e),XK e];simp only[XJ];exact Ea (QkZ _ _) (Qa _)
  .cases segBad c i (c.Segments[i])<;>exact Qa _
 .unfold F_jn;simp only[Qao,Vp];exact Qa _
theorem QjH(l:List Int)(q:Int->Bool):(List.range l.length).all (λu=> !q ((l[u]?).getD 0))= !l.any q:=by
 rw[XY,Qjb,Bool.not_eq_true',VL];constructor
 .intro h e;obtain⟨x,d,f⟩:=Xt.1 e;obtain⟨i,a,g⟩:=List.mem_iff_getElem.1 d;have:=h i a;rw[XK a,g]at this;simp[f]at this
 .intro h i a;rw[XK a];cases z:q ((some l[i]).getD 0)with
  |false=>rfl
  |true=>exact(h (Xt.2 ⟨l[i],Vd a,z⟩)).elim
theorem QkX(c:Clocks)(t:c.Segments.length<=1048576)(q:∀r∈c.Far,r.length<=1048576)(p:c.Far.length=c.Segments.length+1):
  Ev (λn=>iter (F_io n c) n 0) (bif rowsB c then Ctl.cont ()else Ctl.done 160):=by
 unfold rowsB;rw[p];refine Jw (c.Segments.length+1) _ _ _ (λi m=>?_) ?_
 .have e:i<c.Far.length:=by omega
  have j:=XK e;unfold F_io;simp only[leN m,Vo,Qo j,j,XJ,QaT t,QaT (show i<=1048576 by omega)];have k:(c.Far[i]).length<=1048576:=q _ (Vd e);refine Ea (v:=((c.Far[i]).length:Int) != ((c.Segments.length+1:Nat):Int)||((c.Far[i])[i]?.getD 1 != 0)) ?_ ?_
  .refine Qh λh=>?_;have a:(c.Far[i]).length=c.Segments.length+1:=by
    have:((c.Far[i]).length:Int)=((c.Segments.length+1:Nat):Int):=by simpa[bne]using h
    omega
   have d:i<(c.Far[i]).length:=by omega
   rw[Qo (XK d),XK d];exact Qa _
  .unfold rowB;cases s:(((c.Far[i]).length:Int) != ((c.Segments.length+1:Nat):Int))with
   |true=>exact Qa _
   |false=>
    have a:(c.Far[i]).length=c.Segments.length+1:=by
     have:((c.Far[i]).length:Int)=((c.Segments.length+1:Nat):Int):=by simpa[bne]using s
     omega
    simp only[Bool.false_or];cases(c.Far[i])[i]?.getD 1 != 0 with
    |true=>exact Qa _
    |false=>
     simp only[Bool.false_or,Vp];rw[<- QjH,a];refine Ea (Jw (c.Segments.length+1) (λu=> !farBad (((c.Far[i])[u]?).getD 0)) (Ctl.done (Ctl.done (Ctl.done 160))) (Ctl.cont ()) (λu l=>?_) ?_) ?_
     .have g:u<(c.Far[i]).length:=by omega
      have f:=XK g;unfold F_ks;simp only[leN l,Vo,Qo j,Qo f,f,XJ,Option.getD_some,QaT (show u<=1048576 by omega)];refine Ea (v:=farBad (c.Far[i])[u]) (by unfold farBad;exact Qh λ_=>Qa _) ?_;cases farBad (c.Far[i])[u]<;>exact Qa _
     .unfold F_ks;simp only[Qkv,Vp];exact Qa _
     .cases(List.range (c.Segments.length+1)).all λu=> !farBad (((c.Far[i])[u]?).getD 0)<;>exact Qa _
 .unfold F_io;simp only[Qkv,Vp];exact Qa _
theorem Qmp(c:Clocks)(d:Dims c):Ev (λn=>iter (F_it n c) n 0) (bif triB c then Ctl.cont ()else Ctl.done 160):=by
 have q:=d.segs;unfold triB;refine Jw (c.Segments.length+1) _ _ _ (λi a=>?_) ?_
 .unfold F_it;have g:=(d.get a a).1;simp only[leN a,Vo,QaT (show i<=1048576 by omega)];refine Ea (Jw (c.Segments.length+1) (λj=>(List.range (c.Segments.length+1)).all λk=> !decide (i64.wrap (farG c i j+farG c j k)<farG c i k)) (Ctl.done (Ctl.done (Ctl.done 160))) (Ctl.cont ()) (λj e=>?_) ?_) ?_
  .unfold F_kp;have h:=(d.get a e).2;have p:=(d.get e e).1;simp only[leN e,Vo,QaT (show j<=1048576 by omega)];refine Ea (Jw (c.Segments.length+1) (λk=> !decide (i64.wrap (farG c i j+farG c j k)<farG c i k)) (Ctl.done (Ctl.done (Ctl.done (Ctl.done (Ctl.done 160))))) (Ctl.cont ()) (λk f=>?_) ?_) ?_
   .unfold F_kw;have m:=(d.get e f).2;have l:=(d.get a f).2;simp only[leN f,Vo,Qo g,Qo h,Qo p,Qo m,Qo l,XJ,QaT (show k<=1048576 by omega)];cases decide (i64.wrap (farG c i j+farG c j k)<farG c i k)<;>exact Qa _
   .unfold F_kw;simp only[Qkv,Vp];exact Qa _
   .cases(List.range (c.Segments.length+1)).all λk=> !decide (i64.wrap (farG c i j+farG c j k)<farG c i k)<;>exact Qa _
  .unfold F_kp;simp only[Qkv,Vp];exact Qa _
  .cases(List.range (c.Segments.length+1)).all λj=>(List.range (c.Segments.length+1)).all λk=> !decide (i64.wrap (farG c i j+farG c j k)<farG c i k)<;>exact Qa _
 .unfold F_it;simp only[Qkv,Vp];exact Qa _
theorem QiH(c:Clocks)(w:ClkW c):Ev (λn=>F_bf n c) (bif clkB c then 0 else 160):=by
 unfold F_bf clkB;simp only[QaT w.segs];refine Ea (Qh λ_=>Qa _) ?_;cases a:(decide (511<(c.Segments.length:Int))||((c.Far.length:Int) != ((c.Segments.length+1:Nat):Int)))with
 |true=>exact Qa _
 |false=>
  simp only[Xh,Vz,XX,decide_eq_false_iff_not]at a⊢;have d:c.Far.length=c.Segments.length+1:=by
   have:(c.Far.length:Int)=((c.Segments.length+1:Nat):Int):=by simpa[bne]using a.2
   omega
  refine Qt (Ea (QkW c w.segs) ?_);cases segsB c with
  |false=>exact Qa _
  |true=>
   refine Ea (QkX c w.segs w.row d) ?_;cases e:rowsB c with
   |false=>exact Qa _
   |true=>
    refine Ea (Qmp c (Qgd a.1 d e)) ?_;cases triB c<;>exact Qa _
set_option maxRecDepth 10000
theorem Y6{c:Course}(h:courseE c=0):fitsS c=true/\numbersS c=true/\ ∀d∈c.Distances,routeS c d=true:=by
 unfold courseE at h;cases f:fitsS c with
 |false=>rw[f]at h;cases h
 |true=>
  rw[f]at h;cases g:namesS c with
  |false=>rw[g]at h;cases h
  |true=>
   rw[g]at h;cases i:numbersS c with
   |false=>rw[i]at h;cases h
   |true=>
    rw[i]at h;simp only[Vo]at h;cases a:(tiesE c.Ties==0)with
    |false=>
     rw[a,Vp]at h;rw[Vy]at a;exact absurd h a
    |true=>
     rw[a,Vo]at h;cases e:c.Distances.all (routeS c)with
     |true=>exact⟨rfl,rfl,Xs.1 e⟩
     |false=>rw[e]at h;cases h
theorem QeP{c:Course}(h:courseE c=0):CrsOk c:=by
 obtain⟨d,a,_⟩:=Y6 h;unfold fitsS at d;unfold numbersS lastS inR at a;simp only[XW,Bool.not_eq_true',XX,decide_eq_false_iff_not,Vq]at d a;refine⟨?_,?_,?_⟩
 .have:=d.1;omega
 .exact a.2.2.2.2.2.2.2.2.2.2.1.2
 .exact a.2.2.2.2.2.2.2.2.2.2.2.1
theorem YY{α:Type}{c:Bool}{f g:Nat->Option α}{v:α}(h:c=true)(q:Ev f v):Ev (λn=>bif c then f n else g n) v:=by subst h;exact q
def lastB(l:List Int)(x:Int):Nat->Nat
 |0=>0
 |j+1=>bif (l[j+1]? ==some x)then j+1 else lastB l x j
theorem QgP(l:List Int)(x:Int):∀j,lastB l x j<=j
 |0=>XT _
 |j+1=>by
  unfold lastB;have:=QgP l x j;cases(l[j+1]? ==some x)<;>simp<;>omega
def routeV(d:Distance)(k:Nat):List Int:=(flPs d.Route).take (lastB (flPs d.Route) d.Extra ((flPs d.Route).length-1)+1)++List.replicate k d.Extra++(flPs d.Route).drop (lastB (flPs d.Route) d.Extra ((flPs d.Route).length-1)+1)
def routeO(c:Course)(i k:Int):List Int×Int:=
 bif decide (i<0)then([],90)else match c.Distances[i.toNat]? with
 |none=>([],90)
 |some d=>bif decide (k<0)||(decide (0<k)&&decide (d.Extra<0))then([],90)else bif decide (256-((flPs d.Route).length:Int)<k)then([],2)else(routeV d k.toNat,0)
theorem QfD(d:Distance)(e:Int)(l:List Int)(a:l.length<=256):∀(m:Nat),m<l.length->EvI (λn=>F_hf n (d,e) l) (m:Int) ((lastB l d.Extra m:Nat):Int)
 |0,h=>by
  refine Ej ?_;unfold F_hf lastB;exact Qa _
 |m+1,h=>by
  have hx:l[m+1]?=some (l[m+1]'(h)):=XK h;unfold lastB;rw[hx];cases hq:((l[m+1]'(h)) != d.Extra)with
  |true=>
   have e1:(some (l[m+1]'(h))==some d.Extra)=false:=by simp at hq⊢;exact hq
   rw[e1,Vp];refine Ex ?_ (QfD d e l a m (by omega));unfold F_hf;rw[Qx (show(0:Int)<((m+1:Nat):Int)by omega),Vo,Qo hx,XJ,hq,XJ,Vo,Qq (n:=((m+1:Nat):Int)-1) (by omega) (by omega),show((m+1:Nat):Int)-1=(m:Int)by omega];exact Qa _
  |false=>
   have e1:(some (l[m+1]'(h))==some d.Extra)=true:=by simp at hq⊢;exact hq
   rw[e1,Vo];refine Ej ?_;unfold F_hf;rw[Qx (show(0:Int)<((m+1:Nat):Int)by omega),Vo,Qo hx,XJ,hq,XJ,Vp];exact Qa _
theorem Qlf{c:Course}(g:Good c)(he:Ev (λn=>F_d n c) 0)(i k:Int):Ev (λn=>F_bv n c i k) (routeO c i k):=by
 unfold routeO;by_cases p:i<0
 .rw[Qx p,Vo];unfold F_bv F_cf;refine Ea (v:=((90:Int),([]:List Int))) (Ea (v:=U_course_build.c0 90) ?_ (Qa _)) (Qa _);refine Ea (v:=(Uo,90)) ?_ (YY rfl (Qa _));unfold F_br;refine Ea he (Qt (Ea (v:=true) ?_ (Qa _)));rw[Qx p];exact Qa _
 rw[Qy p,Vp];obtain⟨j,rfl⟩:∃j:Nat,i=(j:Int):=⟨i.toNat,by omega⟩;rw[Int.toNat_natCast];cases e:c.Distances[j]? with
 |none=>
  have x:c.Distances.length<=j:=List.getElem?_eq_none_iff.1 e;unfold F_bv F_cf;refine Ea (v:=((90:Int),([]:List Int))) (Ea (v:=U_course_build.c0 90) ?_ (Qa _)) (Qa _);refine Ea (v:=(Uo,90)) ?_ (YY rfl (Qa _));unfold F_br;refine Ea he (Qt (Ea (v:=true) ?_ (Qa _)));rw[Qy (show¬(j:Int)<0 by omega),Vp,Qx (show(c.Distances.length:Int)<=(j:Int)by omega)];exact Qa _
 |some d=>
  simp only;have l:=VG e;have h:=(g.route d l);rw[g.exp l]at h;have w:i64.wrap (256-((flPs d.Route).length:Int))=256-((flPs d.Route).length:Int):=Qq (by omega) (by omega);unfold F_bv F_cf;cases f:(decide (k<0)||(decide (0<k)&&decide (d.Extra<0)))with
  |true=>
   refine Ea (v:=((90:Int),([]:List Int))) (Ea (v:=U_course_build.c1 ()) (Ea (Qgb he e) (Qt (Ea (v:=true) ?_ (Qa _)))) (Qa _)) (Qa _);exact Ew (Qh λ_=>Ei λ_=>Qa _) f
  |false=>
   have r:=f;simp only[XX,decide_eq_false_iff_not,Bool.and_eq_false_iff]at r;cases s:decide (256-((flPs d.Route).length:Int)<k)with
   |true=>
    refine Ea (v:=((2:Int),flPs d.Route)) (Ea (v:=U_course_build.c2 (flPs d.Route)) (Ea (Qgb he e) (Qt (Ea (v:=false) ?_ (Qt (Ea (QdA g l) ?_))))) (Qa _)) (Qa _)
    .exact Ew (Qh λ_=>Ei λ_=>Qa _) f
    .simp only[w,s,Vo];exact Qa _
   |false=>
    have z:=Vv s;obtain⟨a,rfl⟩:∃a:Nat,k=(a:Int):=⟨k.toNat,by omega⟩;obtain⟨m,q⟩:=Qmw c g.legs;rw[Int.toNat_natCast];refine Ea (v:=(0,routeV d a)) (Ea (v:=U_course_build.c3 (routeV d a,m)) (Ea (Qgb he e) (Qt (Ea (v:=false) ?_ (Qt (Ea (QdA g l) ?_))))) (Qa _)) (Qa _)
    .exact Ew (Qh λ_=>Ei λ_=>Qa _) f
    .simp only[w,s,Vp];refine Ea (v:=routeV d a) ?_ (Ea q (Qa _));by_cases y:a=0
     .subst y;refine YZ (Qy (show¬(0:Int)<((0:Nat):Int)by omega)) ((Qa _).eq ?_);unfold routeV;simp
     .refine YY (Qx (show(0:Int)<(a:Int)by omega)) ?_;have u:=QfD d 0 (flPs d.Route) h.2 ((flPs d.Route).length-1) (by omega);have t:=QgP (flPs d.Route) d.Extra ((flPs d.Route).length-1);rw[Qq (n:=((flPs d.Route).length:Int)-1) (by omega) (by omega),show((flPs d.Route).length:Int)-1=(((flPs d.Route).length-1:Nat):Int)by omega];refine Ea u.ev (Ea (Qjx d.Extra a (by omega) (by omega)) (Ea (EA ?_) (Qa _)));unfold routeV;generalize lastB (flPs d.Route) d.Extra ((flPs d.Route).length-1)=b at t;rw[Qq (n:=(b:Int)+1) (by omega) (by omega)];unfold QkE;rw[Qx (show 0<=(b:Int)+1 by omega),Qx (show(b:Int)+1<=((flPs d.Route).length:Int)by omega),List.length_replicate,show Nat.blt 0 a=true from by simp;omega,XS (show(flPs d.Route).length+a<=Ys by unfold Ys;omega),show((b:Int)+1).toNat=b+1 by omega];rfl
theorem Qb0{c:Course}(g:Good c){i k:Int}(h:(routeO c i k).2=0):∃(j:Nat) (d:Distance) (a:Nat),i=(j:Int)/\k=(a:Int)/\c.Distances[j]?=some d/\(0<a->0<=d.Extra)/\(flPs d.Route).length+a<=256/\(routeO c i k).1=routeV d a:=by
 unfold routeO at h⊢;by_cases m:i<0
 .rw[Qx m]at h;cases h
 rw[Qy m,Vp]at h⊢;cases f:c.Distances[i.toNat]? with
 |none=>rw[f]at h;cases h
 |some d=>
  rw[f]at h;simp only at h⊢;cases e:(decide (k<0)||(decide (0<k)&&decide (d.Extra<0)))with
  |true=>rw[e]at h;cases h
  |false=>
   rw[e]at h;cases l:decide (256-((flPs d.Route).length:Int)<k)with
   |true=>rw[l]at h;cases h
   |false=>
    simp only[XX,decide_eq_false_iff_not,Bool.and_eq_false_iff]at e l;exact⟨i.toNat,d,k.toNat,by omega,by omega,f,λ_=>by omega,by omega,rfl⟩
def Adj(c:Course):List Int->Prop
 |a::b::r=>hasLeg c a b=true/\Adj c (b::r)
 |_=>True
theorem Qe5{c:Course}{len:Nat}:∀{r:List Int} {i:Nat} {p:Int},rokS c len i p r=true->Adj c r/\(i≠0->∀m q,r=m::q->hasLeg c p m=true)
 |[],_,_,_=>⟨trivial,λ_ m q e=>by cases e⟩
 |m::r,i,p,h=>by
  unfold rokS at h;simp only[XW,Bool.or_eq_true,Vq]at h;obtain⟨_,_,h1,h2⟩:=h;obtain⟨a1,a2⟩:=Qe5 h2;refine⟨?_,λhi m' q e=>?_⟩
  .cases r with
   |nil=>trivial
   |cons b r=>exact⟨a2 (by omega) b r rfl,a1⟩
  .cases e;exact h1.resolve_left hi
theorem QhC{c:Course}:∀{r:List Int} (k:Nat),Adj c r->Adj c (r.drop k)
 |r,0,h=>by simpa using h
 |[],k+1,_=>by simp[Adj]
 |[a],k+1,_=>by simp[Adj]
 |a::b::r,k+1,h=>by
  rw[List.drop_succ_cons];exact QhC k h.2
theorem Adj.append{c:Course}:∀{p:List Int} {x:Int} {q:List Int},Adj c (p++[x])->Adj c (x::q)->Adj c (p++x::q)
 |[],x,q,_,h=>h
 |[a],x,q,h1,h2=>⟨h1.1,h2⟩
 |a::b::r,x,q,h1,h2=>⟨h1.1,Adj.append (p:=b::r) h1.2 h2⟩
theorem Qi1{c:Course}{x:Int}(h:hasLeg c x x=true){q:List Int}(hq:Adj c (x::q)):∀k,Adj c (x::(List.replicate k x++q))
 |0=>hq
 |k+1=>⟨h,Qi1 h hq k⟩
theorem Adj.at{c:Course}:∀{r:List Int} {i:Nat} {a b:Int},Adj c r->r[i]?=some a->r[i+1]?=some b->hasLeg c a b=true
 |[],_,_,_,_,h,_=>by simp at h
 |[x],i,_,_,_,_,h=>by simp at h
 |x::y::r,0,a,b,h,h1,h2=>by simp at h1 h2;subst h1;subst h2;exact h.1
 |x::y::r,i+1,a,b,h,h1,h2=>Adj.at (r:=y::r) h.2 (by simpa using h1) (by simpa using h2)
theorem QgQ(l:List Int)(x:Int):∀m,m<l.length->(∃i,i<=m/\0<i/\l[i]?=some x)->l[lastB l x m]?=some x
 |0,h,⟨i,h1,h2,_⟩=>by omega
 |m+1,h,⟨i,h1,h2,h3⟩=>by
  unfold lastB;cases e:(l[m+1]? ==some x)with
  |true=>simp at e;simpa using e
  |false=>
   simp only[Vp];refine QgQ l x m (by omega) ⟨i,?_,h2,h3⟩;rcases VB m i with q|q
   .have:i=m+1:=by omega
    subst this;rw[h3]at e;simp at e
   .exact q
theorem Qfl{c:Course}(g:Good c)(T:courseE c=0){d:Distance}(J:d∈c.Distances)(k:Nat)(Q:0<k->0<=d.Extra):Adj c (routeV d k):=by
 have h:=(Y6 T).2.2 d J;unfold routeS routeR at h;rw[g.exp J]at h;simp only[XW,Vq]at h;obtain⟨⟨X,L⟩,s,E,_⟩:=h;have w:=(Qe5 s).1;unfold routeV;by_cases V:k=0
 .subst V;simpa using w
 have O:=Q (by omega);rw[Qx O,Vo]at E;simp only[XW,Bool.not_eq_true',Vy,ne_eq]at E;obtain⟨M,H,W⟩:=E;have n:d.Extra∈flPs d.Route:=by
  by_cases u:d.Extra∈flPs d.Route
  .exact u
  .rw[List.count_eq_zero_of_not_mem u]at M;exact absurd rfl M
 obtain⟨i,F,l⟩:=List.getElem_of_mem n;have B:0<i:=by
  rcases Nat.eq_zero_or_pos i with q|q
  .subst q;cases z:flPs d.Route with
   |nil=>rw[z]at F;simp at F
   |cons m r=>
    rw[z]at s;unfold rokS at s;simp only[XW,Vx,decide_true,Bool.true_eq]at s;have u:m=d.Extra:=by rw[<- l];simp[z]
    rw[<- u]at H;rw[Vx]at H;have:=s.1;rw[H]at this;simp at this
  .exact q
 have j:=QgQ (flPs d.Route) d.Extra ((flPs d.Route).length-1) (by omega) ⟨i,by omega,B,by rw[XK F,l]⟩;generalize hb:lastB (flPs d.Route) d.Extra ((flPs d.Route).length-1)=b at j;have G:b<(flPs d.Route).length:=(XL.1 j).1;have f:(flPs d.Route).drop b=d.Extra::(flPs d.Route).drop (b+1):=by
  rw[Xp G,(XL.1 j).2]
 have a:(flPs d.Route).take (b+1)=(flPs d.Route).take b++[d.Extra]:=by
  rw[List.take_add_one,j];rfl
 have t:∀{p q:List Int},Adj c (p++q)->Adj c p:=by
  intro p
  induction p with
  |nil=>intro q _;trivial
  |cons x p R=>
   intro q h;cases p with
   |nil=>trivial
   |cons y p=>exact⟨h.1,R h.2⟩
 have P:Adj c ((flPs d.Route).take b++[d.Extra]):=by
  rw[<- a];have e:(flPs d.Route)=(flPs d.Route).take (b+1)++(flPs d.Route).drop (b+1):=(Xz _ _).symm;rw[e]at w;exact t w
 have N:Adj c (d.Extra::(flPs d.Route).drop (b+1)):=by rw[<- f];exact QhC b w
 rw[a,Vi,Vi,List.singleton_append];exact Adj.append P (Qi1 W N k)
set_option maxRecDepth 10000
theorem timeI{x:Int}:timeB x=true↔isT x:=by
 unfold timeB inR isT;rw[XW,Vq,Vq]
def segIx(k:Clocks)(h:Hit):Int:=firstI (λx:Segment=>({mat:=x.Mat,epoch:=x.Epoch:Ue})=={mat:=h.Mat,epoch:=h.Epoch}) k.Segments 0
def spanV(c:Course)(s:Segment)(h:Hit):Span:={Lo:=i64.wrap (h.First+(devV c (kindAt c h.Mat) s h.First).Lo),Hi:=i64.wrap (h.Last+(devV c (kindAt c h.Mat) s h.Last).Hi)}
def timeV(c:Course)(k:Clocks)(h:Hit):Option Ud:=
 bif kindAt c h.Mat==1 then some {segment:= -1,span:=spanV c {Mat:=h.Mat,Epoch:=h.Epoch,Anchor:=0} h}else
  bif decide (segIx k h<0)then none else(k.Segments[(segIx k h).toNat]?).map λs=>{segment:=segIx k h,span:=spanV c s h}
def timesV(c:Course)(k:Clocks):List Hit->Option (List Ud)
 |[]=>some []
 |h::r=>(timeV c k h).bind λx=>(timesV c k r).map λl=>x::l
theorem QbE(c:Course)(k:Clocks)(h:Hit)(r:List Hit):timesV c k (h::r)=(timeV c k h).bind λx=>(timesV c k r).map λl=>x::l:=rfl
theorem QeE(k:Clocks)(h:Hit)(d:k.Segments.length<=1048576):Ev (λn=>F_di n k.Segments h) (segIx k h):=by
 unfold F_di;refine Ev.first k.Segments _ (by omega) (λi x a=>?_) ?_
 .unfold F_km;simp only[a.lt,Vo,a.ix,XJ,a.nx];unfold F_ho;simp only[XJ];cases(({mat:=x.Mat,epoch:=x.Epoch:Ue})=={mat:=h.Mat,epoch:=h.Epoch})<;>exact Qa _
 .unfold F_km;simp only[Qao,Vp];exact Qa _
theorem Qa3{k:Clocks}{h:Hit}(q:¬segIx k h<0):∃(j:Nat) (s:Segment),segIx k h=(j:Int)/\k.Segments[j]?=some s/\s.Mat=h.Mat/\s.Epoch=h.Epoch:=by
 rcases QbM (λx:Segment=>({mat:=x.Mat,epoch:=x.Epoch:Ue})=={mat:=h.Mat,epoch:=h.Epoch}) k.Segments 0 with⟨a,_⟩|⟨j,s,a,e,d,_⟩
 .unfold segIx at q;rw[a]at q;omega
 .refine⟨j,s,by unfold segIx;rw[a];simp,e,?_⟩;rw[Vx]at d;simpa using d
structure HitOk (c:Course) (h:Hit):Prop where
 mat:∃(i:Nat) (m:Mat),h.Mat=(i:Int)/\c.Mats[i]?=some m
 fi:isT h.First
 la:isT h.Last
 le:h.First<=h.Last
theorem QlK{c:Course}{h:Hit}(q:wrongH c h=false):HitOk c h:=by
 unfold wrongH at q;simp only[XX,decide_eq_false_iff_not,Bool.not_eq_false',QhL]at q;obtain⟨g,f,_,_,a,d,e⟩:=q;exact⟨⟨h.Mat.toNat,c.Mats[h.Mat.toNat]'(by omega),by omega,XK _⟩,a,d,by omega⟩
theorem QiO{p:Nat->Bool}:∀{m i:Nat},chkFrom p m i=true->∀j,i<=j->j<i+m->p j=true
 |0,i,_,j,h1,h2=>by omega
 |m+1,i,h,j,h1,h2=>by
  unfold chkFrom at h;rw[XW]at h;rcases Nat.eq_or_lt_of_le h1 with rfl|q
  .exact h.1
  .exact QiO h.2 j q (by omega)
theorem Qf4{c:Course}{x:List Hit}(h:checkH c x=true):∀y∈x,HitOk c y:=by
 intro y d;obtain⟨i,a,rfl⟩:=List.getElem_of_mem d;have:=QiO h i (XU _) (by omega);unfold okAt at this;rw[XK a]at this;simp only[XW,Bool.not_eq_true']at this;exact QlK this.1
theorem Qlh{c:Course}(h:CrsOk c)(he:Ev (λn=>F_d n c) 0){s:Segment}{i:Nat}{m:Mat}(f:s.Mat=(i:Int))(e:c.Mats[i]?=some m)(g:isT s.Anchor){a:Int}(d:isT a):
  Ev (λn=>F_am n c s a) (devV c m.Kind s a,0):=by
 have j:matB c s.Mat=true:=by
  have:=(XL.1 e).1;unfold matB;rw[f,Qx (by omega),Qx (by omega)];rfl
 unfold F_am;refine Ea he (Qt (Ea (v:=false) (Ea (QeM c _) ?_) (Qt (Ea (QhZ h e f g d) (Qa _)))));rw[j];refine Qt (Ea (Qbb a) ?_);rw[timeI.2 d];refine Qt (Ea (Qbb s.Anchor) ?_);rw[timeI.2 g];exact Qa _
structure ClkOk (k:Clocks):Prop where
 dims:Dims k
 ev:Ev (λn=>F_ay n k) 0
 anc:∀s∈k.Segments,isT s.Anchor
theorem QhA{k:Clocks}(w:ClkW k)(h:clkB k=true):ClkOk k:=by
 have e:=Qlc k w;rw[h]at e;refine⟨Qb6 h,e,λs f=>?_⟩;unfold clkB at h;simp only[XW]at h;have a:=h.2.1;unfold segsB at a;obtain⟨i,d,rfl⟩:=List.getElem_of_mem f;have:=Qjb.1 a i d;rw[XK d]at this;unfold segBad at this;simp only[Bool.not_eq_true',XX,Bool.not_eq_false']at this;exact timeI.1 this.2.2.2.2.1
theorem Qma{c:Course}{h:Hit}{i:Nat}{m:Mat}(d:h.Mat=(i:Int))(a:c.Mats[i]?=some m):kindAt c h.Mat=m.Kind:=by
 unfold kindAt;rw[d,Int.toNat_natCast,a];rfl
theorem QkU{c:Course}{k:Clocks}(O:CrsOk c)(he:Ev (λn=>F_d n c) 0)(M:ClkOk k)(x:List Hit)(V:∀y∈x,HitOk c y)(hl:x.length<=1000):
  Ev (λn=>iter (F_as n c k x) n ([],0)) (match timesV c k x with|some l=>Ctl.cont l|none=>Ctl.done (U_match_prepare.c0 170)):=by
 have hs:=M.dims.segs;have H:∀(r:List Hit) (a:List Ud) (i:Nat),x.drop i=r->i<=x.length->a.length<=i->EvI (λn=>F_as n c k x) (a,(i:Int)) (match timesV c k r with|some l=>Ctl.cont (a++l)|none=>Ctl.done (U_match_prepare.c0 170)):=by
  intro r
  induction r with
  |nil=>
   intro a i E N d;refine Ej ?_;unfold F_as;simp only[QJ E N,Vp];refine(Qa _).eq ?_;simp[timesV]
  |cons h r W=>
   intro a i E N aa;obtain⟨d,F⟩:=Qv (by omega) E;have X:=d.lt';obtain⟨⟨j,m,q,u⟩,Y,Q,f3⟩:=V h d.mem;have z:=Qma q u;have step:∀(g:Int×Segment),g.2.Mat=(j:Int)->isT g.2.Anchor->
     Ev (λn=>(F_am n c g.2 h.First).bind λB=>(F_am n c g.2 h.Last).bind λG=>(app a [{segment:=g.1,span:={Lo:=i64.wrap (h.First+B.1.Lo),Hi:=i64.wrap (h.Last+G.1.Hi):Span}:Ud}]).bind λL=>some (Ctl.cont (L,((i+1:Nat):Int)):Ctl (List Ud×Int) (Ctl (List Ud) U_match_prepare)))
      (Ctl.cont (a++[{segment:=g.1,span:=spanV c g.2 h}],((i+1:Nat):Int))):=by
    intro g w t;refine Ea (Qlh O he w u t Y) (Ea (Qlh O he w u t Q) (Ea (EA (QbT (by omega))) ((Qa _).eq ?_)));unfold spanV;rw[z]
   have p:∀(y:Ud),timeV c k h=some y->Ev (λn=>F_as n c k x (a,(i:Int))) (Ctl.cont (a++[y],((i+1:Nat):Int)))->EvI (λn=>F_as n c k x) (a,(i:Int)) (match timesV c k (h::r)with|some l=>Ctl.cont (a++l)|none=>Ctl.done (U_match_prepare.c0 170)):=by
    intro y T J;refine Ex J ((W (a++[y]) (i+1) F (by omega) (by simp;omega)).eq ?_);rw[QbE,T];cases timesV c k r with
    |none=>rfl
    |some l=>simp
   cases f:(kindAt c h.Mat==1)with
   |true=>
    refine p {segment:= -1,span:=spanV c {Mat:=h.Mat,Epoch:=h.Epoch,Anchor:=0} h} (by unfold timeV;rw[f];rfl) ?_;unfold F_as;simp only[d.lt,Vo,d.ix,XJ,d.nx];refine Ea (QeE k h (by omega)) ?_;simp only[q,Qo u,XJ];rw[z]at f;refine Ea (v:=Ctl.cont (-1,{Mat:=h.Mat,Epoch:=h.Epoch,Anchor:=0})) (by rw[f,q];exact Qa _) ?_;exact step (-1,{Mat:=h.Mat,Epoch:=h.Epoch,Anchor:=0}) q (by show isT 0;unfold isT;omega)
   |false=>
    by_cases e:segIx k h<0
    .have P:timeV c k h=none:=by unfold timeV;rw[f,Qx e];rfl
     refine Ej ?_;unfold F_as;rw[QbE,P];simp only[d.lt,Vo,d.ix,XJ,d.nx];refine Ea (QeE k h (by omega)) ?_;simp only[q,Qo u,XJ];rw[z]at f;refine Ea (v:=Ctl.done (.done (.done (U_match_prepare.c0 170)))) (by rw[f,Qx e];exact Qa _) ?_;exact Qa _
    .obtain⟨jj,s,w,t,R,g4⟩:=Qa3 e;refine p {segment:=segIx k h,span:=spanV c s h} (by unfold timeV;rw[f,Qy e,w,Int.toNat_natCast,t];rfl) ?_;unfold F_as;simp only[d.lt,Vo,d.ix,XJ,d.nx];refine Ea (QeE k h (by omega)) ?_;simp only[q,Qo u,XJ];rw[z]at f;refine Ea (v:=Ctl.cont (segIx k h,s)) (by rw[f,Qy e,w];simp only[Vp,Qo t,XJ];exact Qa _) ?_;exact step (segIx k h,s) (R.trans q) (M.anc s (VG t))
 have:=(H x [] 0 rfl (XU _) (XT _)).ev;simpa using this
theorem QbD{c:Course}{k:Clocks}:∀{x:List Hit} {l:List Ud},timesV c k x=some l->l.length=x.length/\ ∀(i:Nat) (h:Hit),x[i]?=some h->∃t,l[i]?=some t/\timeV c k h=some t
 |[],l,h=>by
  unfold timesV at h;cases h;exact⟨rfl,λi h q=>by simp at q⟩
 |y::x,l,h=>by
  unfold timesV at h;cases e:timeV c k y with
  |none=>rw[e]at h;cases h
  |some t=>
   rw[e]at h;cases e2:timesV c k x with
   |none=>rw[e2]at h;cases h
   |some l2=>
    rw[e2]at h;cases h;obtain⟨p1,p2⟩:=QbD e2;refine⟨by simp[p1],λi h q=>?_⟩;cases i with
    |zero=>simp at q;subst q;exact⟨t,rfl,e⟩
    |succ i=>exact p2 i h (by simpa using q)
theorem Qkf{c:Course}{k:Clocks}{h:Hit}{t:Ud}(q:timeV c k h=some t):t.segment= -1\/ ∃(j:Nat) (s:Segment),t.segment=(j:Int)/\k.Segments[j]?=some s/\s.Mat=h.Mat:=by
 unfold timeV at q;cases e:(kindAt c h.Mat==1)with
 |true=>rw[e]at q;cases q;exact .inl rfl
 |false=>
  rw[e]at q;by_cases a:segIx k h<0
  .rw[Qx a]at q;cases q
  .rw[Qy a]at q;obtain⟨j,s,f,d,g,_⟩:=Qa3 a;rw[f,Int.toNat_natCast,d]at q;cases q;exact .inr ⟨j,s,rfl,d,g⟩
def hndS(a:List (Int×Ud)×Int)(h:Hand):List (Int×Ud)×Int:=
 bif !(Y2 a.1 h.Position)then(Q2 a.1 h.Position {segment:= -1,span:={Lo:=h.Lo,Hi:=h.Hi}},if a.2<h.Position then h.Position else a.2)else a
def hndV(l:List Hand):List (Int×Ud)×Int:=l.foldl hndS ([],-1)
theorem Qk5(l:List Hand)(d:l.length<=1048576):Ev (λn=>iter (F_ju n l) n ([],(-1),0)) (hndV l):=by
 refine QaC l hndS ([],-1) (λa i=>(a.1,a.2,(i:Int))) (λa=>a) (by omega) rfl (λi x a ha _=>?_) ?_
 .unfold F_ju hndS;simp only[ha.lt,Vo,ha.ix,XJ,ha.nx];cases(!(Y2 a.1 x.Position))<;>exact Qa _
 .unfold F_ju;simp only[Qao,Vp];exact Qa _
theorem QiA:∀(l:List Hand) (a:List (Int×Ud)×Int) (p:Int),Y3 (l.foldl hndS a).1 p=(match Y3 a.1 p with|some x=>some x|none=>(l.find? λh=>h.Position==p).map λh=>{segment:= -1,span:={Lo:=h.Lo,Hi:=h.Hi}})
 |[],a,p=>by cases h:Y3 a.1 p<;>simp[h]
 |x::l,a,p=>by
  rw[XD,QiA l (hndS a x) p];unfold hndS;rw[QaL];cases hx:Y3 a.1 x.Position with
  |some y=>
   simp only[Option.isSome_some,Xg,Vp];cases hp:Y3 a.1 p with
   |some z=>rfl
   |none=>
    have hne:(x.Position==p)=false:=by rw[Vy];intro e;rw[e,hp]at hx;cases hx
    rw[List.find?_cons,hne]
  |none=>
   simp only[Option.isSome_none,Xh,Vo,Qb3];by_cases e:p=x.Position
   .subst e;rw[Vs rfl,hx,List.find?_cons,beq_self_eq_true];rfl
   .rw[Vr e];cases hp:Y3 a.1 p with
    |some z=>rfl
    |none=>
     have hne:(x.Position==p)=false:=by rw[Vy];exact λq=>e q.symm
     rw[List.find?_cons,hne]
theorem Qiz:∀(l:List Hand) (a:List (Int×Ud)×Int) (P:Int),(∀q,Y2 a.1 q=true->q<=a.2)->((l.foldl hndS a).2<=P↔a.2<=P/\ ∀h∈l,h.Position<=P)
 |[],a,P,_=>by simp
 |x::l,a,P,ha=>by
  rw[XD,Qiz l (hndS a x) P ?_]
  .unfold hndS;cases e:Y2 a.1 x.Position with
   |true=>
    have:=ha _ e;simp only[Xg,Vp,X6,forall_eq_or_imp];constructor
    .rintro⟨h1,h2⟩;exact⟨h1,by omega,h2⟩
    .rintro⟨h1,_,h2⟩;exact⟨h1,h2⟩
   |false=>
    simp only[Xh,Vo,X6,forall_eq_or_imp];constructor
    .rintro⟨h1,h2⟩;split at h1<;>exact⟨by omega,by omega,h2⟩
    .rintro⟨h1,h3,h2⟩;refine⟨?_,h2⟩;split<;>omega
  .intro q hq;unfold hndS at hq⊢;cases e:Y2 a.1 x.Position with
   |true=>
    rw[e]at hq;exact ha q hq
   |false=>
    rw[e]at hq;simp only[Xh,Vo]at hq⊢;rw[QaL,Qb3]at hq;by_cases z:q=x.Position
    .subst z;split<;>omega
    .rw[Vr z, <- QaL]at hq;have:=ha q hq;split<;>omega
theorem QcJ(l:List Hand)(p:Int):Y3 (hndV l).1 p=(l.find? λh=>h.Position==p).map λh=>{segment:= -1,span:={Lo:=h.Lo,Hi:=h.Hi}}:=by
 unfold hndV;rw[QiA];rfl
theorem QkG(l:List Hand)(P:Int):(hndV l).2<=P↔ -1<=P/\ ∀h∈l,h.Position<=P:=Qiz l _ P (λq h=>by cases h)
def legV(c:Course)(a b:Int):Leg:=(c.Legs.find? λl=>(l.From==a)&&(l.To==b)).getD {From:=0,To:=0,Min:=0,Max:=0}
def nextS(c:Course)(s:Span)(a b:Int):Span:={Lo:=i64.wrap (s.Lo+(legV c a b).Min),Hi:=i64.wrap (s.Hi+(legV c a b).Max)}
def sumsF(c:Course):Span->Int->List Int->List Span
 |_,_,[]=>[]
 |s,a,b::r=>nextS c s a b::sumsF c (nextS c s a b) b r
def sumsV(c:Course):List Int->List Span
 |[]=>[]
 |a::r=>{Lo:=0,Hi:=0}::sumsF c {Lo:=0,Hi:=0} a r
theorem Qcj(c:Course)(s:Span)(a b:Int)(r:List Int):sumsF c s a (b::r)=nextS c s a b::sumsF c (nextS c s a b) b r:=rfl
theorem Qff(c:Course):∀(r:List Int) (s:Span) (a:Int),(sumsF c s a r).length=r.length
 |[],_,_=>rfl
 |b::r,s,a=>by unfold sumsF;simp[Qff c r]
theorem YE(c:Course)(r:List Int):(sumsV c r).length=r.length:=by
 cases r with
 |nil=>rfl
 |cons a r=>unfold sumsV;simp[Qff]
theorem QnA{c:Course}(B:c.Legs.length<=512){k:Clocks}{r:List Int}{s:List Span}{x:List Hit}{t:List Ud}{hi:Int}{m:List (Int×Ud)}{i:Nat}{a b:Int}(u:r[i]?=some a)(z:i<=100000)(hg:hasLeg c a b=true):
  ∃j l,Ev (λn=>F_eq n c.Legs ((i+1:Nat):Int) b c k r s x t hi m c k) ((j:Nat):Int)/\c.Legs[j]?=some l/\l=legV c a b:=by
 have w:∀j y,At c.Legs j y->Ev (λn=>F_fn n c.Legs ((i+1:Nat):Int) b c k r s x t hi m c k (j:Int)) (bif (y.From==a)&&(y.To==b)then .done (.done (j:Int))else .cont ((j+1:Nat):Int)):=by
  intro j y d;unfold F_fn;simp only[d.lt,Vo,d.ix,XJ,d.nx];refine Ea (v:=(y.From==a)&&(y.To==b)) ?_ ?_
  .unfold F_gi;rw[show i64.wrap (((i+1:Nat):Int)-1)=(i:Int)by rw[Qq (by omega) (by omega)];omega,Qo u,XJ];exact Ea (Ei λ_=>Qa _) (Qa _)
  .cases((y.From==a)&&(y.To==b))<;>exact Qa _
 have h:Ev (λn=>F_fn n c.Legs ((i+1:Nat):Int) b c k r s x t hi m c k (c.Legs.length:Int)) (.done (.cont ())):=by
  unfold F_fn;simp only[Qao,Vp];exact Qa _
 rcases Qj5 c.Legs (λl=>(l.From==a)&&(l.To==b)) (by omega) w h with⟨j,y,e,f,q⟩|⟨e,f⟩
 .refine⟨j,y,?_,e.get,?_⟩
  .unfold F_eq;exact Ea q (Qa _)
  .unfold legV;rw[f];rfl
 .unfold hasLeg at hg;obtain⟨y,g,p⟩:=Xt.1 hg;have:=List.find?_eq_none.1 e y g;exact absurd p this
theorem Qmm{c:Course}(H:c.Legs.length<=512){k:Clocks}{r:List Int}{x:List Hit}{t:List Ud}{g:List (Int×Ud)×Int}(Q:r.length<=256)(P:Adj c r):
  Ev (λn=>iter (F_ci n c k x (r,0) t g) n ([],{Lo:=0,Hi:=0:Span},0)) (sumsV c r):=by
 have u:∀(q:List Int) (i:Nat) (a:Int) (s:Span) (o:List Span),r[i]?=some a->r.drop (i+1)=q->o.length=i+1->EvI (λn=>F_ci n c k x (r,0) t g) (o,s,((i+1:Nat):Int)) (o++sumsF c s a q):=by
  intro q
  induction q with
  |nil=>
   intro i a s o h p F;have:=(XL.1 h).1;refine Ej ?_;unfold F_ci;simp only[QJ p (by omega),Vp];refine(Qa _).eq ?_;simp[sumsF]
  |cons b q J=>
   intro i a s o h p F;obtain⟨f,w⟩:=Qv (by omega) p;have O:=f.lt';obtain⟨j,l,L,M,N⟩:=QnA (c:=c) (k:=k) (s:=o) (x:=x) (t:=t) (hi:=g.2) (m:=g.1) H h (by omega) (P.at h f.get);refine Ex ?_ ((J (i+1) b (nextS c s a b) (o++[nextS c s a b]) f.get w (by simp[F])).eq (by rw[Qcj];simp));unfold F_ci;simp only[f.lt,Vo,f.ix,XJ,f.nx];refine Ea (v:=nextS c s a b) ?_ (Ea (EA (QbT (by omega))) (Qa _));refine YY (Qx (show(0:Int)<((i+1:Nat):Int)by omega)) (Ea L ?_);simp only[Qo M,XJ];unfold nextS;rw[<- N];exact Qa _
 cases d:r with
 |nil=>
  subst d;refine(Ej ?_).ev;unfold F_ci;exact Qa _
 |cons a q=>
  have E:r[0]?=some a:=by rw[d];rfl
  have G:r.drop (0+1)=q:=by rw[d];rfl
  have:=u q 0 a {Lo:=0,Hi:=0} [{Lo:=0,Hi:=0}] E G rfl;have e:At r 0 a:=Y9 (by omega) E;rw[<- d];refine(Ex (s':=([{Lo:=0,Hi:=0}],{Lo:=0,Hi:=0},((0+1:Nat):Int))) ?_ (this.eq ?_)).ev
  .unfold F_ci;have y:=e.lt;have B:=e.ix;have z:=e.nx;simp only[Int.natCast_zero,Int.ofNat_zero]at y B z;simp only[y,Vo,B,XJ,z];refine Ea (v:={Lo:=0,Hi:=0}) (YZ (Qy (show¬(0:Int)<0 by omega)) (Qa _)) (Ea (EA (QbT (by simp))) (Qa _))
  .rw[d];rfl
def handW(h:Hand):Bool:=decide (h.Hi<h.Lo)||(!timeB h.Lo||(!timeB h.Hi||decide (h.Position<0)))
theorem Qhh(x:Int):Ev (λn=>F_bt n x) (timeB x):=by
 unfold F_bt timeB inR;exact Ea (Ei λ_=>Qa _) (Qa _)
theorem Qk6(h:Hand):Ev (λn=>F_ce n h) (handW h):=by
 unfold F_ce handW;refine Ea (Qh λ_=>Ea (Qhh _) (Qh λ_=>Ea (Qhh _) (Qh λ_=>Qa _))) (Qa _)
def argW(c:Course)(s:Starter)(l:List Hand):Bool:=decide (s.Distance<0)||(decide ((c.Distances.length:Int)<=s.Distance)||(decide (s.Wave<0)||(decide ((c.Waves.length:Int)<=s.Wave)||l.any handW)))
def prepV(c:Course)(k:Clocks)(s:Starter)(e:Int)(x:List Hit)(l:List Hand):U_match_prepare:=
 bif !clkB k then .c0 160 else bif argW c s l then .c0 1 else bif (routeO c s.Distance e).2 != 0 then .c0 (routeO c s.Distance e).2 else bif !checkH c x then .c0 170 else
  match timesV c k x with
  |none=>.c0 170
  |some t=>.c1 ((routeO c s.Distance e).1,sumsV c (routeO c s.Distance e).1,t,(hndV l).1,(hndV l).2)
theorem QhU{c:Course}(g:Good c)(i:courseE c=0)(he:Ev (λn=>F_d n c) 0){k:Clocks}(p:ClkW k)(s:Starter)(e:Int)(x:List Hit)(q:x.length<=1000)(l:List Hand)(J:l.length<=1048576):
  Ev (λn=>F_ac n c k s e x l) (prepV c k s e x l):=by
 unfold F_ac prepV;refine Ea he (Qt (Ea (Qlc k p) ?_));cases z:clkB k with
 |false=>exact Qa _
 |true=>
 refine Qt (Ea (v:=argW c s l) ?_ ?_)
 .unfold argW;refine Qh λ_=>Qh λ_=>Qh λ_=>Qh λ_=>Ea ?_ (Qa _);exact Ev.contains l handW (λn y=>F_ce n y) (by omega) λy _=>Qk6 y
 cases argW c s l with
 |true=>exact Qa _
 |false=>
 refine Qt (Ea (Qlf g he s.Distance e) ?_);cases F:((routeO c s.Distance e).2 != 0)with
 |true=>exact Qa _
 |false=>
 have a:(routeO c s.Distance e).2=0:=by simpa[bne]using F
 refine Qt (Ea (Qjt c x (by omega) he) ?_);cases B:checkH c x with
 |false=>exact Qa _
 |true=>
 refine Qt (Ea (QkU (QeP i) he (QhA p z) x (Qf4 B) q) ?_);cases timesV c k x with
 |none=>exact Qa _
 |some t=>
 obtain⟨j,d,u,H,M,w,r,L,m⟩:=Qb0 g a;have E:=VG w;have h:(routeO c s.Distance e).1.length<=256:=by
  rw[m];unfold routeV;simp only[X3,Xy,List.length_drop,List.length_replicate];omega
 have f:Adj c (routeO c s.Distance e).1:=by rw[m];exact Qfl g i E u r
 refine Ea (Qk5 l (by omega)) ?_;have G:routeO c s.Distance e=((routeO c s.Distance e).1,0):=Prod.ext rfl a;rw[G];exact Ea (Qmm g.legs h f) (Qa _)
set_option maxRecDepth 10000
structure Task where
 c:Course
 k:Clocks
 r:List Int
 s:List Span
 H:List Hit
 T:List Ud
 m:List (Int×Ud)
 hi:Int
abbrev zX:Ud:={segment:=0,span:={Lo:=0,Hi:=0}}
def Task.seg(t:Task)(x:Ud):Prop:=∃j:Nat,x.segment+1=(j:Int)/\j<t.k.Segments.length+1
structure TaskOk (t:Task):Prop where
 ty:Ev (λn=>F_d n t.c) 0
 crs:CrsOk t.c
 clk:ClkOk t.k
 sl:t.s.length=t.r.length
 rl:t.r.length<=256
 tl:t.T.length=t.H.length
 hl:t.H.length<=1000
 hit:∀(i:Nat) (h:Hit),t.H[i]?=some h->HitOk t.c h
 sg:∀x∈t.T,t.seg x
 hs:∀p x,Y3 t.m p=some x->t.seg x
 mi:0<=t.c.Faults.Misses
def knownV(t:Task)(p h:Int):Ud×Bool:=bif Y2 t.m p||decide (h<0)then(QA t.m p zX,Y2 t.m p)else((t.T[h.toNat]?).getD zX,true)
def hitI(t:Task)(h:Int):Prop:=h<0\/h.toNat<t.H.length
theorem Qad{α:Type}{l:List α}{h:Int}(d:0<=h)(a:h.toNat<l.length):∃x,l[h.toNat]?=some x/\idx l h=some x:=by
 refine⟨l[h.toNat]'(a),XK a,?_⟩;have:=Qo (l:=l) (i:=h.toNat) (XK a)
 rwa [Int.toNat_of_nonneg d]at this
theorem Qk4{t:Task}(ok:TaskOk t)(p h:Int)(e:hitI t h):Ev (λn=>F_ak n p h t.c t.k t.r t.s t.H t.T t.hi t.m t.c t.k) (knownV t p h):=by
 unfold F_ak knownV;refine Ea (Qa _) (Ea (Qh λ_=>Qa _) ?_);refine Qah (λ_=>Qa _) λq=>?_;rw[XX,decide_eq_false_iff_not]at q;obtain⟨x,d,a⟩:=Qad (l:=t.T) (h:=h) (by omega) (by have:=ok.tl;rcases e with z|z<;>omega);rw[a,d];exact Qa _
theorem Qb4{t:Task}(ok:TaskOk t){p h:Int}(f:hitI t h)(q:(knownV t p h).2=true):t.seg (knownV t p h).1:=by
 unfold knownV at q⊢;cases e:(Y2 t.m p||decide (h<0))with
 |true=>
  rw[e]at q;simp only[Vo]at q⊢;rw[QaL]at q;obtain⟨x,a⟩:=Option.isSome_iff_exists.1 q;unfold QA;rw[a];exact ok.hs p x a
 |false=>
  simp only[Vp];rw[XX,decide_eq_false_iff_not]at e;obtain⟨x,d,g⟩:=Qad (l:=t.T) (h:=h) (by omega) (by have:=ok.tl;rcases f with z|z<;>omega);rw[d];exact ok.sg x (VG d)
def meetV(d w:Span):Bool:=decide ((if d.Lo<w.Lo then w.Lo else d.Lo)<=(if w.Hi<d.Hi then w.Hi else d.Hi))
def trueV(c:Course)(k:Clocks)(g:Int)(a b:Int):Span:=
 bif decide (g<0)then {Lo:=a,Hi:=i64.wrap (b+c.Faults.Residual)}else match k.Segments[g.toNat]? with
 |none=>{Lo:=0,Hi:=0}
 |some s=>bif !matB c s.Mat then {Lo:=0,Hi:=0}else
  {Lo:=i64.wrap (i64.wrap (a+(devV c (kindAt c s.Mat) s a).Lo)-farG k (g.toNat+1) 0),Hi:=i64.wrap (i64.wrap (b+(devV c (kindAt c s.Mat) s b).Hi)+farG k 0 (g.toNat+1))}
theorem Qml{t:Task}(ok:TaskOk t){x:Ud}(R:t.seg x){a b:Int}(L:isT a)(H:isT b)(Q:a<=b):∃e,Ev (λn=>F_bn n t.c t.k x.segment {Lo:=a,Hi:=b}) (trueV t.c t.k x.segment a b,e):=by
 obtain⟨j,j1,X⟩:=R;have Y:=ok.clk.dims.segs;have start:∀{v:Span×Int},Ev (λn=>(bif decide (x.segment<0)then some ({Lo:=a,Hi:=i64.wrap (b+t.c.Faults.Residual):Span},0)else(idx t.k.Segments x.segment).bind λf=>(F_aw n t.c f.Mat).bind λq=>(bif (!q)then some ({Lo:=0,Hi:=0:Span},1)else(F_z n t.c f a).bind λB=>(idx t.k.Far (i64.wrap (x.segment+1))).bind λu=>(idx u 0).bind λE=>(F_z n t.c f b).bind λF=>(idx t.k.Far 0).bind λg=>(idx g (i64.wrap (x.segment+1))).bind λy=>some ({Lo:=i64.wrap ((i64.wrap (a+B.Lo))-E),Hi:=i64.wrap ((i64.wrap (b+F.Hi))+y):Span},0)):Option (Span×Int))) v->Ev (λn=>F_bn n t.c t.k x.segment {Lo:=a,Hi:=b}) v:=by
  intro v O;unfold F_bn;refine Ea ok.ty (Qt (Ea ok.clk.ev (Qt (Ea (v:=false) ?_ (Qt O)))));simp only[Qy (show¬x.segment< -1 by omega),Qy (show¬(t.k.Segments.length:Int)<=x.segment by omega),Vp];refine Ea (Qbb a) ?_;rw[timeI.2 L];refine Qt (Ea (Qbb b) ?_);rw[timeI.2 H];refine Qt ?_;rw[Qy (by show¬b<a;omega)];exact Qa _
 unfold trueV;by_cases d:x.segment<0
 .rw[Qx d];exact⟨_,start (YY (Qx d) (Qa _))⟩
 rw[Qy d];simp only[Vp];obtain⟨s,M,J⟩:=Qad (l:=t.k.Segments) (h:=x.segment) (by omega) (by omega);rw[M];simp only;cases z:matB t.c s.Mat with
 |false=>exact⟨_,start (YZ (Qy d) (Qu J (Ea ((QeM t.c s.Mat).eq z) (YY rfl (Qa _)))))⟩
 |true=>
  obtain⟨i,m,r,p⟩:=Qkx z;have N:kindAt t.c s.Mat=m.Kind:=by unfold kindAt;rw[r,Int.toNat_natCast,p];rfl
  have G:=ok.clk.anc s (VG M);obtain⟨V,W⟩:=ok.clk.dims.get (i:=x.segment.toNat+1) (j:=0) (by omega) (by omega);obtain⟨P,T⟩:=ok.clk.dims.get (i:=0) (j:=x.segment.toNat+1) (by omega) (by omega);have w:i64.wrap (x.segment+1)=((x.segment.toNat+1:Nat):Int):=by rw[Qq (by omega) (by omega)];omega
  refine⟨0,start (YZ (Qy d) (Qu J (Ea ((QeM t.c s.Mat).eq z) (YZ rfl (Ea (QhZ ok.crs p r G L) (Qu (v:=t.k.Far[x.segment.toNat+1]?.getD []) (by rw[w];exact Qo V) (Qu (v:=farG t.k (x.segment.toNat+1) 0) (Qo (i:=0) W) (Ea (QhZ ok.crs p r G H) (Qu (v:=t.k.Far[0]?.getD []) (Qo (i:=0) P) (Qu (v:=farG t.k 0 (x.segment.toNat+1)) (by rw[w];exact Qo T) ?_))))))))))⟩;rw[N];exact Qa _
def agreeV(t:Task)(h p:Int):Bool:=bif !(Y2 t.m p)then true else match t.H[h.toNat]?,t.T[h.toNat]? with
 |some y,some x=>meetV (trueV t.c t.k x.segment y.First y.Last) (QA t.m p zX).span
 |_,_=>true
theorem Qle{t:Task}(ok:TaskOk t){h p:Int}(f:0<=h)(g:h.toNat<t.H.length):Ev (λn=>F_et n h p t.c t.k t.c t.k t.r t.s t.H t.T t.hi t.m) (agreeV t h p):=by
 unfold F_et agreeV;refine Ea (Qa _) ?_;cases Y2 t.m p with
 |false=>exact Qa _
 |true=>
  obtain⟨y,y1,y2⟩:=Qad (l:=t.H) f g;obtain⟨x,d,i⟩:=Qad (l:=t.T) f (by rw[ok.tl];exact g);have a:=ok.hit _ _ y1;rw[y2,i,y1,d];refine Qt ?_;simp only[XJ];obtain⟨e,j⟩:=Qml ok (ok.sg x (VG d)) a.fi a.la a.le;refine Ea j ?_;unfold F_bs;exact Qa _
def needV(t:Task)(i j:Int):Span:=
 let a:=(t.s[i.toNat]?).getD {Lo:=0,Hi:=0}
 let b:=(t.s[j.toNat]?).getD {Lo:=0,Hi:=0}
 {Lo:=if i64.wrap (b.Lo-a.Lo)<2199023255552 then i64.wrap (b.Lo-a.Lo)else 2199023255552,Hi:=if i64.wrap (b.Hi-a.Hi)<2199023255552 then i64.wrap (b.Hi-a.Hi)else 2199023255552}
theorem Qmv{t:Task}(ok:TaskOk t){i j:Int}(f:0<=i)(h:i.toNat<t.r.length)(g:0<=j)(q:j.toNat<t.r.length):Ev (λn=>F_an n i j t.c t.k t.r t.s t.H t.T t.hi t.m t.c t.k) (needV t i j):=by
 obtain⟨a,u,e⟩:=Qad (l:=t.s) f (by rw[ok.sl];exact h);obtain⟨b,d,p⟩:=Qad (l:=t.s) g (by rw[ok.sl];exact q);unfold F_an needV;rw[e,p,u,d];exact Qa _
def distV(t:Task)(a b:Ud):Span:=
 bif (i64.wrap (a.segment+1)) != (i64.wrap (b.segment+1))then
  {Lo:=i64.wrap (i64.wrap (b.span.Lo-a.span.Hi)-farG t.k (b.segment+1).toNat (a.segment+1).toNat),Hi:=i64.wrap (i64.wrap (b.span.Hi-a.span.Lo)+farG t.k (a.segment+1).toNat (b.segment+1).toNat)}
 else {Lo:=i64.wrap (b.span.Lo-a.span.Hi),Hi:=i64.wrap (b.span.Hi-a.span.Lo)}
def followsV(t:Task)(a:Ud)(i:Int)(b:Ud)(j:Int):Bool:=meetV (distV t a b) (needV t i j)
theorem QhY{t:Task}(ok:TaskOk t){a b:Ud}{i j:Int}(z:t.seg a)(w:t.seg b)(p:0<=i)(u:i.toNat<t.r.length)(q:0<=j)(B:j.toNat<t.r.length):
  Ev (λn=>F_bd n a i b j t.c t.k t.r t.s t.H t.T t.hi t.m t.c t.k) (followsV t a i b j):=by
 obtain⟨x,f,d⟩:=z;obtain⟨y,y1,y2⟩:=w;have E:=ok.clk.dims.segs;unfold F_bd followsV;refine Ea (v:=distV t a b) ?_ (Ea (Qmv ok p u q B) ?_)
 .unfold distV;rw[f,y1,Qq (n:=(x:Int)) (by omega) (by omega),Qq (n:=(y:Int)) (by omega) (by omega)];refine Qah (λ_=>?_) λ_=>Qa _;obtain⟨e,g⟩:=ok.clk.dims.get (i:=y) (j:=x) y2 d;obtain⟨h,l⟩:=ok.clk.dims.get (i:=x) (j:=y) d y2;rw[Qo e,XJ,Qo g,XJ,Qo h,XJ,Qo l,XJ,Int.toNat_natCast,Int.toNat_natCast];exact Qa _
 .unfold F_bs;exact Qa _
structure StOk (t:Task) (s:Uf):Prop where
 la:s.last<(t.r.length:Int)
 wh:0<=s.last->t.seg s.when
 r0:0<=s.row
 r1:s.row<=1000
def stopV(t:Task)(s:Uf)(p h:Int):Bool:=(decide (0<=h)&& !agreeV t h p)||(decide (0<=s.last)&& !followsV t s.when s.last (knownV t p h).1 p)
def stepV(t:Task)(s:Uf)(p h:Int):Uf×Bool:=
 bif !(knownV t p h).2 then({s with row:=s.row+1},decide (s.row+1<=t.c.Faults.Misses))else bif stopV t s p h then(s,false)else({last:=p,when:=(knownV t p h).1,row:=0},true)
theorem Qmn{t:Task}(ok:TaskOk t){s:Uf}(e:StOk t s){p h:Int}(i:0<=p)(u:p.toNat<t.r.length)(g:hitI t h):
  Ev (λn=>F_ar n s p h t.c t.k t.r t.s t.H t.T t.hi t.m t.c t.k) (stepV t s p h):=by
 have r0:=e.r0;have r1:=e.r1;unfold F_ar stepV;refine Ea (Qk4 ok p h g) ?_;rw[Qq (n:=s.row+1) (by omega) (by omega)];cases l:(knownV t p h).2 with
 |false=>exact Qa _
 |true=>
  have j:=Qb4 ok g l;refine Qt (Ea (v:=stopV t s p h) ?_ ?_)
  .have d:Ev (λn=>(bif decide (0<=s.last)then(F_bd n s.when s.last (knownV t p h).1 p t.c t.k t.r t.s t.H t.T t.hi t.m t.c t.k).bind λf=>some (!f)else some false:Option Bool)) (decide (0<=s.last)&& !followsV t s.when s.last (knownV t p h).1 p):=by
    refine Ei λq=>?_;have q:=Vu q;exact Ea (QhY ok (e.wh q) j q (by have:=e.la;omega) i u) (Qa _)
   unfold stopV;by_cases a:0<=h
   .rw[Qx a,Vz];have w:h.toNat<t.H.length:=by rcases g with z|z<;>omega
    refine Ea (Qle ok a w) ?_;exact Qh λ_=>d
   .rw[Qy a,Bool.false_and,Bool.false_or];exact d
  .cases stopV t s p h<;>exact Qa _
theorem QlY{t:Task}(ok:TaskOk t){s:Uf}(a:StOk t s){p h:Int}(f:p<(t.r.length:Int))(e:hitI t h)(g:s.row<1000):StOk t (stepV t s p h).1:=by
 have r0:=a.r0;unfold stepV;cases d:(knownV t p h).2 with
 |false=>exact⟨a.la,a.wh,by show 0<=s.row+1;omega,by show s.row+1<=1000;omega⟩
 |true=>
  simp only[Xg,Vp];cases stopV t s p h with
  |true=>exact a
  |false=>exact⟨f,λ_=>Qb4 ok e d,by show(0:Int)<=0;omega,by show(0:Int)<=1000;omega⟩
def badV(t:Task)(W:Way)(u:List (Int×Bool))(i:Nat)(h:Int):Bool:=
 decide (h<0)||(decide ((t.H.length:Int)<=h)||((((t.H[h.toNat]?).map (·.Mat)).getD 0 != (t.r[i]?).getD 0)||(QA u h false||decide (W.Last<(i:Int)))))
def admL(t:Task)(W:Way):List Int->Nat->List (Int×Bool)->Uf->Bool
 |[],_,_,_=>true
 |h::r,i,u,s=>
  bif (h != -1)&&badV t W u i h then false else
  bif decide (W.Last<(i:Int))then admL t W r (i+1) (bif h != -1 then Q2 u h true else u) s else
  bif !(stepV t s (i:Int) h).2 then false else admL t W r (i+1) (bif h != -1 then Q2 u h true else u) (stepV t s (i:Int) h).1
theorem QfI(t:Task)(W:Way)(h:Int)(r:List Int)(i:Nat)(u:List (Int×Bool))(s:Uf):admL t W (h::r) i u s=
  bif (h != -1)&&badV t W u i h then false else
  bif decide (W.Last<(i:Int))then admL t W r (i+1) (bif h != -1 then Q2 u h true else u) s else
  bif !(stepV t s (i:Int) h).2 then false else admL t W r (i+1) (bif h != -1 then Q2 u h true else u) (stepV t s (i:Int) h).1:=rfl
def inV(l:List Int)(x:Int):Bool:=decide (0<=firstI (λy=>x==y) l 0)
def strL(W:Way):List Hit->Nat->Int->Int
 |[],_,a=>a
 |_::r,i,a=>strL W r (i+1) (bif !inV W.Hits (i:Int)then i64.wrap (a+1)else a)
theorem QfA(W:Way)(H:List Hit)(p:W.Hits.length<=1048576)(q:H.length<=1048576):Ev (λn=>F_ap n H W) (strL W H 0 0):=by
 have f:∀(r:List Hit) (i:Nat) (a:Int),H.drop i=r->i<=H.length->EvI (λn=>F_jx n H W) (a,(i:Int)) (strL W r i a):=by
  intro r
  induction r with
  |nil=>
   intro i a g k;refine Ej ?_;unfold F_jx;simp only[QJ g k,Vp];exact Qa _
  |cons y r m=>
   intro i a g k;obtain⟨h,e⟩:=Qv (by omega) g;have l:=h.lt';refine Ex ?_ (m (i+1) _ e (by omega));unfold F_jx;simp only[h.lt,Vo,h.nx];refine Ea (v:=inV W.Hits (i:Int)) ?_ ?_
   .unfold F_fs inV;refine Ea (v:=firstI (λy=>(i:Int)==y) W.Hits 0) ?_ (Qa _);unfold F_fw;refine Ev.first W.Hits _ (by omega) (λj x d=>?_) ?_
    .unfold F_ko;simp only[d.lt,Vo,d.ix,XJ,d.nx];cases((i:Int)==x)<;>exact Qa _
    .unfold F_ko;simp only[Qao,Vp];exact Qa _
   .cases inV W.Hits (i:Int)<;>exact Qa _
 unfold F_ap;exact Ea (f H 0 0 rfl (XU _)).ev (Qa _)
def admB(t:Task)(W:Way):Bool:=((W.Hits.length:Int) != (t.r.length:Int))||(decide (W.Last< -1)||(decide ((t.r.length:Int)<=W.Last)||(decide (W.Last<t.hi)||decide (t.c.Faults.Strays<strL W t.H 0 0))))
def s0V:Uf:={z_match_state with last:=(-1)}
def admV(t:Task)(W:Way):Bool:=bif admB t W then false else admL t W W.Hits 0 [] s0V
theorem s0_ok{t:Task}:StOk t s0V:=⟨by show(-1:Int)<_;omega,λh=>by have:(0:Int)<= -1:=h;omega,by show(0:Int)<=0;omega,by show(0:Int)<=1000;omega⟩
theorem Qes{t:Task}{W:Way}{u:List (Int×Bool)}{i:Nat}{h:Int}(q:((h != -1)&&badV t W u i h)=false):hitI t h/\(h= -1\/(0<=h/\badV t W u i h=false)):=by
 rw[Bool.and_eq_false_iff]at q;rcases q with q|q
 .have:h= -1:=by simpa[bne]using q
  exact⟨.inl (by omega),.inl this⟩
 .have a:=q;unfold badV at a;simp only[XX,decide_eq_false_iff_not]at a;exact⟨.inr (by omega),.inr ⟨by omega,q⟩⟩
theorem QnC{t:Task}(ok:TaskOk t)(W:Way)(X:W.Hits.length<=1048576):Ev (λn=>F_ba n W t.c t.k t.r t.s t.H t.T t.hi t.m t.c t.k) (admV t W):=by
 unfold F_ba admV;refine Ea (v:=admB t W) ?_ ?_
 .unfold admB;exact Qh λ_=>Qh λ_=>Qh λ_=>Qh λ_=>Ea (QfA W t.H X (by have:=ok.hl;omega)) (Qa _)
 cases J:admB t W with
 |true=>exact Qa _
 |false=>
 unfold admB at J;simp only[XX,decide_eq_false_iff_not]at J;obtain⟨f,b1,b2,b3,_⟩:=J;have f:W.Hits.length=t.r.length:=by have:=f;simp[bne]at this;omega
 have rl:=ok.rl;have M:∀(r:List Int) (i:Nat) (u:List (Int×Bool)) (s:Uf),W.Hits.drop i=r->i<=W.Hits.length->StOk t s->s.row<=(i:Int)->EvI (λn=>F_cm n W t.c t.k t.r t.s t.H t.T t.hi t.m t.c t.k) (u,s,(i:Int)) (bif admL t W r i u s then Ctl.cont ()else Ctl.done false):=by
  intro r
  induction r with
  |nil=>
   intro i u s L hi F _;refine Ej ?_;unfold F_cm admL;simp only[QJ L hi,Vp];exact Qa _
  |cons h r Q=>
   intro i u s L hi F N;obtain⟨d,x⟩:=Qv (by omega) L;have Y:=d.lt';rw[QfI];have q:t.r[i]?=some (t.r[i]'(by omega)):=XK (by omega);have a:Ev (λn=>((bif (h != (-1))then((bif decide (h<0)then some true else(bif decide ((t.H.length:Int)<=h)then some true else(idx t.H h).bind λw=>(idx t.r (i:Int)).bind λg=>(bif (w.Mat != g)then some true else(some (QA u h false)).bind λG=>(bif G then some true else some (decide (W.Last<(i:Int))))))):Option Bool).bind λz=>(bif z then some (.done (.done (.done (.done false))))else(some (Q2 u h true)).bind λj=>some (.cont j))else some (.cont u)):Option (Ctl (List (Int×Bool)) (Ctl ((List (Int×Bool))×Uf) (Ctl ((List (Int×Bool))×Uf×Int) (Ctl Unit Bool))))))
     (bif (h != -1)&&badV t W u i h then .done (.done (.done (.done false)))else .cont (bif h != -1 then Q2 u h true else u)):=by
    cases hn:(h != -1)with
    |false=>exact Qa _
    |true=>
     refine QaP (Ea (v:=badV t W u i h) ?_ ?_)
     .unfold badV;refine Qh λR=>Qh λV=>?_;have R:=Vv R;have V:=Vv V;obtain⟨y,y1,y2⟩:=Qad (l:=t.H) (h:=h) (by omega) (by omega);rw[y2,y1,XJ,Qo q,XJ,q];exact Qh λ_=>Ea (Qa _) (Qh λ_=>Qa _)
     .cases badV t W u i h<;>exact Qa _
   cases e:((h != -1)&&badV t W u i h)with
   |true=>
    rw[e]at a;refine Ej ?_;unfold F_cm;simp only[d.lt,Vo,d.ix,XJ,d.nx];exact Ea (Ea a (Qa _)) (Qa _)
   |false=>
    rw[e]at a;obtain⟨O,_⟩:=Qes e;simp only[Vp]at a⊢;by_cases E:W.Last<(i:Int)
    .rw[Qx E,Vo];refine Ex ?_ (Q (i+1) _ s x (by omega) F (by omega));unfold F_cm;simp only[d.lt,Vo,d.ix,XJ,d.nx];exact Ea (v:=Ctl.cont (_,_)) (Ea a (YY (Qx E) (Qa _))) (Qa _)
    .rw[Qy E,Vp];have P:=Qmn ok F (p:=(i:Int)) (h:=h) (by omega) (by omega) O;cases B:(stepV t s (i:Int) h).2 with
     |false=>
      refine Ej ?_;unfold F_cm;simp only[d.lt,Vo,d.ix,XJ,d.nx];refine Ea (v:=Ctl.done (.done (.done false))) (Ea a (YZ (Qy E) (Ea P (v:=(stepV t s (i:Int) h)) ?_))) (Qa _);rw[B];exact Qa _
     |true=>
      simp only[Xg,Vp];refine Ex ?_ (Q (i+1) _ _ x (by omega) (QlY ok F (by omega) O (by omega)) ?_)
      .unfold F_cm;simp only[d.lt,Vo,d.ix,XJ,d.nx];refine Ea (v:=Ctl.cont (_,(stepV t s (i:Int) h).1)) (Ea a (YZ (Qy E) (Ea P (v:=(stepV t s (i:Int) h)) ?_))) (Qa _);rw[B];exact Qa _
      .have r0:=F.r0;unfold stepV;cases(knownV t (i:Int) h).2 with
       |false=>show s.row+1<=_;omega
       |true=>
        simp only[Xg,Vp];cases stopV t s (i:Int) h with
        |true=>show s.row<=_;omega
        |false=>show(0:Int)<=_;omega
 refine Qt ?_;unfold F_ch;simp only[XJ];refine Ea (M W.Hits 0 [] s0V rfl (XU _) s0_ok (by show(0:Int)<=_;omega)).ev ?_;cases admL t W W.Hits 0 [] s0V<;>exact Qa _
set_option maxRecDepth 10000
theorem Qms(L:Int):∀(m:Nat) (l:List Part),szPs l<=m->partsS L l=true->l.length<=1048576->(∀x∈l,Part.wf x)->(flPs l).length<=256->Ev (λn=>F_w n l) (flPs l):=by
 intro m
 induction m using Nat.strongRecOn with
 |_ m T=>
 intro l hm F Q hw O;rw[Y1,Xs]at F;refine Yy ?_;show Ev (λn=>B_w (F_w n) n l) _;unfold B_w;have inner:∀(p:Part) (i:Nat) (e:At l i p) (J w:List Int),0<=p.Laps->p.Laps<=64->w.length<=256->∀(k j:Nat) (o:List Int),j+k=p.Laps.toNat->o.length+(List.replicate k w).flatten.length<=256->
   EvI (λn=>F_gp n l (J,(i:Int)) w) (o,(j:Int)) (o++(List.replicate k w).flatten):=by
  intro p i e J w G N M k
  induction k with
  |zero=>
   intro j o Y _;refine Ej ?_;unfold F_gp;simp only[e.ix,XJ,Qy (show¬((j:Int)<p.Laps)by omega),Vp,List.replicate_zero,List.flatten_nil,Vg];exact Qa _
  |succ k z=>
   intro j o Y f;by_cases y:w.length=0
   .have y:w=[]:=VI.1 y;subst y;refine Ej ?_;unfold F_gp;simp only[e.ix,XJ,Qx (show(j:Int)<p.Laps by omega),Vo,Qy (show¬((0:Int)<(([]:List Int).length:Int))by simp),Vp];exact(Qa _).eq (by simp)
   .rw[Xl,Vl]at f⊢;simp only[X3]at f;refine(Ex ?_ (z (j+1) (o++w) (by omega) (by rw[X3];omega))).eq (by rw[Vi]);unfold F_gp;simp only[e.ix,XJ,Qx (show(j:Int)<p.Laps by omega),Vo,Qx (show(0:Int)<(w.length:Int)by omega),Qx (show(o.length:Int)<=300 by omega)];refine Qu (QaN o w (by omega)) ?_;rw[QU (by omega)];exact Qa _
 have loop:∀(r:List Part) (i:Nat) (o:List Int),l.drop i=r->i<=l.length->o.length+(flPs r).length<=256->EvI (λn=>F_hv n l (F_w n)) (o,(i:Int)) (o++flPs r):=by
  intro r
  induction r with
  |nil=>
   intro i o q H _;refine Ej ?_;unfold F_hv;simp only[QJ q H,Vp,flPs,Vg];exact Qa _
  |cons p r t=>
   intro i o q H f;obtain⟨e,u⟩:=Qv (by omega) q;have X:=e.lt';rw[Qa8,X3]at f;have P:=YS e.mem;rw[YD]at P;obtain⟨R,V⟩:=Yc (hw p e.mem);have W:=F p e.mem;refine(Ex ?_ (t (i+1) (o++flP p) u (by omega) (by rw[X3];omega))).eq (by rw[Qa8,Vi]);unfold F_hv;simp only[e.lt,Vo,e.ix,XJ,e.nx];rcases Qf2 W with G|⟨a,b,d⟩
   .have g:(p.Laps==0)=true:=by simp[G]
    have s:flP p=[p.Mat]:=by rw[Qdh,g];rfl
    rw[s]at f⊢;refine Ea (v:=o++[p.Mat]) ?_ (Qa _);rw[g];exact QaP (Ea (EA (QbT (by omega))) (Qa _))
   .have g:(p.Laps==0)=false:=beq_false_of_ne (by omega);have s:flP p=(List.replicate p.Laps.toNat (flPs p.Parts)).flatten:=by rw[Qdh,g];rfl
    rw[s]at f⊢;have E:(flPs p.Parts).length<=256:=by
     obtain⟨B,h⟩:∃B,p.Laps.toNat=B+1:=⟨p.Laps.toNat-1,by omega⟩;rw[h,Xl,Vl,X3]at f;omega
    refine Ea (v:=o++(List.replicate p.Laps.toNat (flPs p.Parts)).flatten) ?_ (Qa _);rw[g];exact Qt (Ea (T (szPs p.Parts) (by omega) p.Parts (XT _) d R V E) (Ea ((inner p i e o (flPs p.Parts) (by omega) b E p.Laps.toNat 0 o (by omega) (by omega)).ev) (Qa _)))
 exact Ea ((loop l 0 [] (by simp) (XU _) (by simpa using O)).ev.eq (Vh _)) (Qa _)
theorem Qfs(l:List Int)(x:Int){j:Nat}(f:0<j)(d:l[j]?=some x):∀m,j<=m->(∀p,j<p->p<=m->l[p]? ≠some x)->lastB l x m=j
 |0,h,_=>by omega
 |m+1,h,h2=>by
  unfold lastB;rcases Nat.eq_or_lt_of_le h with e|q
  .rw[<- e,d];simp
  .have:=h2 (m+1) q (XT _);have e:(l[m+1]? ==some x)=false:=by rw[Vy];exact this
   rw[e,Vp];exact Qfs l x f d m (by omega) λp a b=>h2 p a (by omega)
theorem Qmx(l:List Int)(x:Int)(N:l.length<=1048576):∃b:Int,Ev (λn=>F_ea n l x) b/\((b= -1/\ ∀p:Nat,l[p]? ≠some x)\/ ∃q:Nat,q<l.length/\b=(q:Int)/\l[q]?=some x/\ ∀p:Nat,q<p->l[p]? ≠some x):=by
 have G:∀(r:List Int) (i:Nat) (b:Int),l.drop i=r->i<=l.length->((b= -1/\ ∀p:Nat,p<i->l[p]? ≠some x)\/ ∃q:Nat,q<i/\b=(q:Int)/\l[q]?=some x/\ ∀p:Nat,q<p->p<i->l[p]? ≠some x)->
   ∃h:Int,EvI (λn=>F_jv n l x) (b,(i:Int)) h/\((h= -1/\ ∀p:Nat,l[p]? ≠some x)\/ ∃q:Nat,q<l.length/\h=(q:Int)/\l[q]?=some x/\ ∀p:Nat,q<p->l[p]? ≠some x):=by
  intro r
  induction r with
  |nil=>
   intro i b m H s;have J:l.length<=i:=Xq.1 m;have g:∀p:Nat,i<=p->l[p]? ≠some x:=λp F=>by rw[XO (by omega)];exact nofun
   refine⟨b,Ej ?_,?_⟩
   .unfold F_jv;simp only[QJ m H,Vp];exact Qa _
   .rcases s with⟨k,d⟩|⟨q,k,d,B,w⟩
    .exact .inl ⟨k,λp=>(VB p i).elim (d p) (g p)⟩
    .exact .inr ⟨q,by omega,d,B,λp a=>(VB p i).elim (w p a) (g p)⟩
  |cons y r L=>
   intro i b m H s;obtain⟨f,E⟩:=Qv (by omega) m;have M:=f.lt';obtain⟨h,u,t⟩:=L (i+1) (bif y==x then(i:Int)else b) E (by omega) (by
    cases e:(y==x)with
    |true=>
     rw[Vx]at e;subst e;exact .inr ⟨i,by omega,rfl,f.get,λp a c=>by omega⟩
    |false=>
     rw[Vy]at e;have j:l[i]? ≠some x:=by rw[f.get];intro q;cases q;exact e rfl
     rcases s with⟨k,d⟩|⟨q,k,d,B,w⟩
     .exact .inl ⟨k,λp F=>(VB p i).elim (d p) λz=>(show i=p by omega)▸j⟩
     .exact .inr ⟨q,by omega,d,B,λp a F=>(VB p i).elim (w p a) λz=>(show i=p by omega)▸j⟩)
   refine⟨h,Ex ?_ u,t⟩;unfold F_jv;simp only[f.lt,Vo,f.ix,XJ,f.nx];cases(y==x)<;>exact Qa _
 obtain⟨b,u,t⟩:=G l 0 (-1) rfl (XU _) (.inl ⟨rfl,λp F=>by omega⟩);refine⟨b,?_,t⟩;unfold F_ea;exact Ea u.ev (Qa _)
theorem QkR{c:Course}(g:Good c)(w:courseE c=0){d:Distance}(u:d∈c.Distances)(hE:0<=d.Extra):∃i,0<i/\(flPs d.Route)[i]?=some d.Extra:=by
 have h:=(Y6 w).2.2 d u;unfold routeS routeR at h;rw[g.exp u]at h;simp only[XW,Vq]at h;obtain⟨⟨x,t⟩,f,l,_⟩:=h;rw[Qx hE,Vo]at l;simp only[XW,Bool.not_eq_true',Vy,ne_eq]at l;obtain⟨s,p,y⟩:=l;have a:d.Extra∈flPs d.Route:=by
  by_cases j:d.Extra∈flPs d.Route
  .exact j
  .rw[List.count_eq_zero_of_not_mem j]at s;exact absurd rfl s
 obtain⟨i,k,e⟩:=List.getElem_of_mem a;refine⟨i,?_,by rw[XK k,e]⟩;rcases Nat.eq_zero_or_pos i with q|q
 .subst q;cases n:flPs d.Route with
  |nil=>rw[n]at k;simp at k
  |cons m r=>
   rw[n]at f;unfold rokS at f;simp only[XW,Vx,decide_true,Bool.true_eq]at f;have j:m=d.Extra:=by rw[<- e];simp[n]
   rw[<- j]at p;rw[Vx]at p;have:=f.1;rw[p]at this;simp at this
 .exact q
theorem QkQ{c:Course}(a:courseE c=0){d:Distance}(e:d∈c.Distances): -1<=d.Extra:=by
 have h:=(Y6 a).2.1;unfold numbersS at h;simp only[XW]at h;obtain⟨_,_,_,h,_⟩:=h;have:=Xs.1 h d e;unfold distS inR at this;simp only[XW,Vq]at this;exact this.2.1.1
theorem Qb5{c:Course}(hg:courseE c=0->Good c)(he:Ev (λn=>F_c n c) (courseE c))(i k:Int):Ev (λn=>F_ab n c i k) (bif courseE c != 0 then([],courseE c)else routeO c i k):=by
 unfold F_ab;cases w:(courseE c != 0)with
 |true=>
  refine Ea (v:=courseE c) ?_ (YY w (Qa _));unfold F_cb;exact Ea he (YY w (Qa _))
 |false=>
 have e:courseE c=0:=by simpa[bne]using w
 have g:=hg e;rw[e]at he;simp only[Vp];unfold routeO;have chk:∀b:Bool,(decide (i<0)||decide ((c.Distances.length:Int)<=i))=b->Ev (λn=>F_cb n c i) (bif b then 90 else 0):=by
  intro b t;unfold F_cb;refine Ea he (Qt (Ea (v:=b) (Ew (Qh λ_=>Qa _) t) ?_));cases b<;>exact Qa _
 by_cases s:i<0
 .rw[Qx s,Vo];exact Ea (chk true (by rw[Qx s];rfl)) (Qa _)
 rw[Qy s,Vp];cases l:c.Distances[i.toNat]? with
 |none=>
  have:=List.getElem?_eq_none_iff.1 l;exact Ea (chk true (by rw[Qx (show(c.Distances.length:Int)<=i by omega),Bool.or_true])) (Qa _)
 |some d=>
  have Y:=(XL.1 l).1;have f:=VG l;have H:=QkQ e f;have h:=(g.route d f).2;rw[g.exp f]at h;refine Ea (chk false (by rw[Qy s,Qy (show¬(c.Distances.length:Int)<=i by omega)];rfl)) (Qt ?_);have u:idx c.Distances i=some d:=by
   have:=Qo l
   rwa [Int.toNat_of_nonneg (by omega)]at this
  refine Qu u ?_;simp only;have R:decide (d.Extra<0)=(d.Extra== -1):=by
   by_cases z:d.Extra<0
   .rw[Qx z];symm;rw[Vx];omega
   .rw[Qy z];symm;rw[Vy];omega
  refine Ea (v:=decide (k<0)||(decide (0<k)&&decide (d.Extra<0))) ?_ ?_
  .rw[R];exact Qh λ_=>Ei λ_=>Qa _
  cases t:(decide (k<0)||(decide (0<k)&&decide (d.Extra<0)))with
  |true=>exact Qa _
  |false=>
   simp only[XX,decide_eq_false_iff_not,Bool.and_eq_false_iff]at t;refine Qt (Ea (Qms _ _ d.Route (XT _) (g.parts d f) (g.len d f) (g.wf d f) h) ?_);refine Ea (v:=decide (256-((flPs d.Route).length:Int)<k)) ?_ ?_
   .by_cases r:256<k
    .rw[Qx r,Qx (show 256-((flPs d.Route).length:Int)<k by omega)];exact Qa _
    .rw[Qy r,Qq (by omega) (by omega)];refine(Qa _).eq ?_;by_cases z:256-((flPs d.Route).length:Int)<k
     .rw[Qx z,Qx (by omega)]
     .rw[Qy z,Qy (by omega)]
   cases r:decide (256-((flPs d.Route).length:Int)<k)with
   |true=>exact Qa _
   |false=>
    have N:=Vv r;simp only[Vp];by_cases F:k=0
    .subst F;refine(Qa _).eq ?_;simp[routeV]
    .have G:(k==0)=false:=beq_false_of_ne F;rw[G];refine Qt ?_;have O:0<=d.Extra:=by omega
     obtain⟨b,M,Q⟩:=Qmx (flPs d.Route) d.Extra (by omega);obtain⟨y,J,B⟩:=QkR g e f O;rcases Q with⟨_,W⟩|⟨q,q1,X,L,E⟩
     .exact absurd B (W y)
     have T:0<q:=by
      rcases Nat.eq_zero_or_pos q with z|z
      .subst z;exact absurd B (E y J)
      .exact z
     have x:=Qfs (flPs d.Route) d.Extra T L ((flPs d.Route).length-1) (by omega) λp a _=>E p a;refine Ea M ?_;rw[X,QU (by omega)];have P:slc (flPs d.Route) 0 ((q+1:Nat):Int)=some ((flPs d.Route).take (q+1)):=by
      have:=QdO (flPs d.Route) (a:=0) (b:=q+1) (by omega) (by omega);simpa using this
     have s2:slc (flPs d.Route) ((q+1:Nat):Int) ((flPs d.Route).length:Int)=some ((flPs d.Route).drop (q+1)):=by
      have:=QdO (flPs d.Route) (a:=q+1) (b:=(flPs d.Route).length) (by omega) (by omega);simpa using this
     refine Qu P ?_;refine Qu (QaN [] _ (by simp;omega)) ?_;rw[Vh];have lp:∀(m j:Nat),j+m=k.toNat->EvI (λn=>F_ib n k d) ((flPs d.Route).take (q+1)++List.replicate j d.Extra,(j:Int)) ((flPs d.Route).take (q+1)++List.replicate k.toNat d.Extra):=by
      intro m
      induction m with
      |zero=>
       intro j hj;have:j=k.toNat:=by omega
       subst this;refine Ej ?_;unfold F_ib;simp only[Qy (show¬((k.toNat:Nat):Int)<k by omega),Vp];exact Qa _
      |succ m V=>
       intro j hj;refine Ex ?_ (V (j+1) (by omega));unfold F_ib;simp only[Qx (show(j:Int)<k by omega),Vo];refine Qu (QbT (by simp;omega)) ?_;rw[QU (by omega),Vi, <- List.replicate_succ'];exact Qa _
     refine Ea ((lp k.toNat 0 (by omega)).ev.eq rfl |> λh=>by simpa using h) ?_;refine Qu s2 ?_;refine Qu (QaN _ _ (by simp;omega)) ((Qa _).eq ?_);unfold routeV;rw[x]
theorem Qhi(k:Clocks)(w:ClkW k):∃b,Ev (λn=>F_ec n k) b/\(b=true->k.Segments.length<=8):=by
 unfold F_ec;cases a:(decide (8<(k.Segments.length:Int))||decide (10<(k.Far.length:Int)))with
 |true=>exact⟨false,Ea (v:=true) (Ew (Qh λ_=>Qa _) a) (Qa _),nofun⟩
 |false=>
  have e:=a;simp only[XX,decide_eq_false_iff_not]at e;refine⟨bif k.Far.all (λr=> !decide (12<(r.length:Int)))then true else false,Ea (v:=false) (Ew (Qh λ_=>Qa _) a) (Qt (Ea (Q9 k.Far (λr=> !decide (12<(r.length:Int))) (Ctl.done false) (Ctl.cont ()) (by have:=w.far;omega) (λi x d=>?_) ?_) ?_)),λ_=>by omega⟩
  .unfold F_kr;simp only[d.lt,Vo,d.ix,XJ,d.nx];cases decide (12<(x.length:Int))<;>exact Qa _
  .unfold F_kr;simp only[Qao,Vp];exact Qa _
  .cases k.Far.all (λr=> !decide (12<(r.length:Int)))<;>exact Qa _
theorem Qil{k:Clocks}(h:Clocks.wf k):ClkW k:=⟨h.1.1,h.2.1.1,λr hr=>(h.2.1.2 r hr).1⟩
structure FewI (a:stopwatchlaw19_Input):Prop where
 few:FewOk a.C
 ty:Ev (λn=>F_d n a.C) (courseE a.C)
 ref:Ev (λn=>F_c n a.C) (courseE a.C)
 good:courseE a.C=0->Good a.C
 clk:ClkW a.K
 segs:a.K.Segments.length<=8
 mats:a.C.Mats.length<=8
 hits:a.Hits.length<=4
 hands:a.Hands.length<=6
theorem QnB(a:stopwatchlaw19_Input)(w:stopwatchlaw19_Input.wf a):∃b,Ev (λn=>F_ao n a) b/\(b=true->FewI a):=by
 have q:=QdH w.1;have l:=QeU w.1;obtain⟨z,s⟩:=Qir w.1;have r:=Qil w.2.1;obtain⟨E,g,F⟩:=Qho a.C w.1;obtain⟨x,f,B⟩:=Qhi a.K r;unfold F_ao F_eb;cases e:(!E||(decide (8<(a.C.Mats.length:Int))||(!x||(decide (4<(a.Hits.length:Int))||decide (6<(a.Hands.length:Int))))))with
 |true=>exact⟨false,Ea (Ea (v:=true) (Ew (Ea g (Qh λ_=>Qh λ_=>Ea f (Qh λ_=>Qh λ_=>Qa _))) e) (Qa _)) (Qa _),nofun⟩
 |false=>
  have d:=e;simp only[XX,decide_eq_false_iff_not,Bool.not_eq_false']at d;obtain⟨u,J,y,G,H⟩:=d;obtain⟨i,t⟩:=F u;have k:=Qf9 a.C q l i z s;have m:courseE a.C=0->Good a.C:=λh=>Qmg q l h;have all:FewI a:=⟨i,t,k,m,r,B y,by omega,by omega,by omega⟩;cases j:(decide (a.S.Distance<0)||decide ((a.C.Distances.length:Int)<=a.S.Distance))with
  |true=>exact⟨true,Ea (Ea (v:=false) (Ew (Ea g (Qh λ_=>Qh λ_=>Ea f (Qh λ_=>Qh λ_=>Qa _))) e) (Qt (Ea (v:=true) (Ew (Qh λ_=>Qa _) j) (Qa _)))) (Qa _),λ_=>all⟩
  |false=>
   have p:=Qb5 m k a.S.Distance a.Extra;generalize(bif courseE a.C != 0 then([],courseE a.C)else routeO a.C a.S.Distance a.Extra)=R at p;exact⟨R.2 != 0||decide ((R.1.length:Int)<=8),Ea (Ea (v:=false) (Ew (Ea g (Qh λ_=>Qh λ_=>Ea f (Qh λ_=>Qh λ_=>Qa _))) e) (Qt (Ea (v:=false) (Ew (Qh λ_=>Qa _) j) (Qt (Ea p (Ea (Qh λ_=>Qa _) (Qa _))))))) (Qa _),λ_=>all⟩
def taskV(c:Course)(k:Clocks)(s:Starter)(e:Int)(x:List Hit)(l:List Hand)(t:List Ud):Task:=
 {c:=c,k:=k,r:=(routeO c s.Distance e).1,s:=sumsV c (routeO c s.Distance e).1,H:=x,T:=t,m:=(hndV l).1,hi:=(hndV l).2}
def taskE(c:Course)(k:Clocks)(s:Starter)(e:Int)(x:List Hit)(l:List Hand):Int ⊕ Task:=
 bif courseE c != 0 then .inl (courseE c)else bif !clkB k then .inl 160 else bif argW c s l then .inl 1 else bif (routeO c s.Distance e).2 != 0 then .inl (routeO c s.Distance e).2 else bif !checkH c x then .inl 170 else
  match timesV c k x with
  |none=>.inl 170
  |some t=>.inr (taskV c k s e x l t)
def prepU:Int ⊕ Task->U_match_prepare
 |.inl e=>.c0 e
 |.inr t=>.c1 (t.r,t.s,t.T,t.m,t.hi)
theorem Qmu{c:Course}(f:Ev (λn=>F_d n c) (courseE c))(h:courseE c=0->Good c){k:Clocks}(j:ClkW k)(s:Starter)(e:Int)(x:List Hit)(g:x.length<=1000)(l:List Hand)(i:l.length<=1048576):
  Ev (λn=>F_ac n c k s e x l) (prepU (taskE c k s e x l)):=by
 unfold taskE;cases d:(courseE c != 0)with
 |true=>
  unfold F_ac;exact Ea f (YY d (Qa _))
 |false=>
  have a:courseE c=0:=by simpa[bne]using d
  refine(QhU (h a) a (a▸f) j s e x g l i).eq ?_;unfold prepV;cases clkB k with
  |false=>rfl
  |true=>
  cases argW c s l with
  |true=>rfl
  |false=>
  cases((routeO c s.Distance e).2 != 0)with
  |true=>rfl
  |false=>
  cases checkH c x with
  |false=>rfl
  |true=>cases timesV c k x<;>rfl
structure TaskIs (c:Course) (k:Clocks) (s:Starter) (e:Int) (x:List Hit) (l:List Hand) (t:Task):Prop where
 ok:TaskOk t
 cE:courseE c=0
 clk:clkB k=true
 arg:argW c s l=false
 rt:(routeO c s.Distance e).2=0
 hit:checkH c x=true
 is:t=taskV c k s e x l t.T
 tm:timesV c k x=some t.T
theorem QfS{c:Course}(Q:Ev (λn=>F_d n c) (courseE c))(P:courseE c=0->Good c){k:Clocks}(kw:ClkW k){s:Starter}{e:Int}{x:List Hit}(V:x.length<=1000){l:List Hand}{t:Task}(h:taskE c k s e x l=.inr t):TaskIs c k s e x l t:=by
 unfold taskE at h;cases F:(courseE c != 0)with
 |true=>rw[F]at h;cases h
 |false=>
 rw[F,Vp]at h;have a:courseE c=0:=by simpa[bne]using F
 cases r:clkB k with
 |false=>rw[r]at h;cases h
 |true=>
 rw[r]at h;cases H:argW c s l with
 |true=>rw[H]at h;cases h
 |false=>
 rw[H]at h;cases B:((routeO c s.Distance e).2 != 0)with
 |true=>rw[B]at h;cases h
 |false=>
 have q:(routeO c s.Distance e).2=0:=by simpa[bne]using B
 rw[B]at h;cases u:checkH c x with
 |false=>rw[u]at h;cases h
 |true=>
 rw[u]at h;cases f:timesV c k x with
 |none=>rw[f]at h;cases h
 |some T=>
 rw[f]at h;cases h;have g:=P a;obtain⟨j,d,k',r1,r2,r3,r4,r5,X⟩:=Qb0 g q;have w:(routeO c s.Distance e).1.length<=256:=by
  rw[X];unfold routeV;simp only[X3,Xy,List.length_drop,List.length_replicate];omega
 obtain⟨T1,T2⟩:=QbD f;have O:=QhA kw r;refine⟨⟨a▸Q,QeP a,O,YE _ _,w,T1,V,λi y m=>Qf4 u y (VG m),λy m=>?_,λp y m=>?_,?_⟩,a,r,H,q,u,rfl,f⟩
 .obtain⟨i,L,R⟩:=List.getElem_of_mem m;have E:i<x.length:=by have:i<T.length:=L;omega
  obtain⟨W,N,Y⟩:=T2 i _ (XK E);have e2:W=y:=by
   have:T[i]?=some y:=by rw[<- R];exact XK L
   rw[this]at N;cases N;rfl
  subst e2;rcases Qkf Y with z|⟨M,s',z1,z2,_⟩
  .exact⟨0,by omega,by omega⟩
  .have:=(XL.1 z2).1;exact⟨M+1,by omega,by show M+1<k.Segments.length+1;omega⟩
 .have:=QcJ l p;rw[show Y3 (hndV l).1 p=some y from m]at this;cases J:l.find? (λh=>h.Position==p)with
  |none=>rw[J]at this;cases this
  |some h'=>
   rw[J]at this;cases this;exact⟨0,rfl,by omega⟩
 .have G:=(Y6 a).2.1;unfold numbersS lastS inR at G;simp only[XW,Vq]at G;exact G.2.2.2.2.2.2.2.2.2.1.1.1
theorem Qgw{c:Course}{k:Clocks}{s:Starter}{e:Int}{x:List Hit}{l:List Hand}{v:Int}(h:taskE c k s e x l=.inl v):v≠0:=by
 unfold taskE at h;cases d:(courseE c != 0)with
 |true=>rw[d]at h;cases h;simpa[bne]using d
 |false=>
 rw[d,Vp]at h;cases g:clkB k with
 |false=>rw[g]at h;cases h;decide
 |true=>
 rw[g]at h;cases j:argW c s l with
 |true=>rw[j]at h;cases h;decide
 |false=>
 rw[j]at h;cases f:((routeO c s.Distance e).2 != 0)with
 |true=>rw[f]at h;cases h;simpa[bne]using f
 |false=>
 rw[f]at h;cases i:checkH c x with
 |false=>rw[i]at h;cases h;decide
 |true=>
 rw[i]at h;cases a:timesV c k x with
 |none=>rw[a]at h;cases h;decide
 |some T=>rw[a]at h;cases h
def chkV(c:Course)(k:Clocks)(s:Starter)(e:Int)(x:List Hit)(l:List Hand)(W:Way):Int:=
 match taskE c k s e x l with
 |.inl v=>v
 |.inr t=>bif admV t W then 0 else 190
theorem Qli{c:Course}(g:Ev (λn=>F_d n c) (courseE c))(d:courseE c=0->Good c){k:Clocks}(h:ClkW k)(s:Starter)(e:Int)(x:List Hit)(a:x.length<=1000)(l:List Hand)(p:l.length<=1048576)(W:Way)(j:W.Hits.length<=1048576):
  Ev (λn=>F_bq n c k s e x l W) (chkV c k s e x l W):=by
 unfold F_bq chkV;refine Ea (Qmu g d h s e x a l p) ?_;cases f:taskE c k s e x l with
 |inl v=>
  have:=Qgw f;exact YY (by simpa[bne]using this) (Qa _)
 |inr t=>
  have i:=QfS g d h a f;have q:t.c=c:=by rw[i.is];rfl
  have u:t.k=k:=by rw[i.is];rfl
  have w:t.H=x:=by rw[i.is];rfl
  have:=QnC i.ok W j;rw[q,u,w]at this;show Ev (λn=>(F_ba n W c k t.r t.s x t.T t.hi t.m c k).bind λy=>(bif (!y)then some 190 else some 0)) _;refine Ea this ?_;simp only;cases admV t W<;>exact Qa _
set_option maxRecDepth 10000
theorem Qm5:F_gl 300=some true:=by kernel_rfl
theorem Qld{a:stopwatchlaw19_Input}(f:FewI a){W:Way}(d:W.Hits.length<=1048576):Ev (λn=>F_dz n a W) (chkV a.C a.K a.S a.Extra a.Hits a.Hands W):=by
 unfold F_dz;exact Ea (Qli f.ty f.good f.clk _ _ _ (by have:=f.hits;omega) _ (by have:=f.hands;omega) W d) (Qa _)
set_option maxRecDepth 10000
structure LegOk (x:Leg):Prop where
 lo:0<=x.Min
 le:x.Min<=x.Max
 hi:x.Max<=68719476736
theorem QhN{c:Course}(k:courseE c=0){a b:Int}(h:hasLeg c a b=true):LegOk (legV c a b)/\(c.Legs.find? λl=>(l.From==a)&&(l.To==b))=some (legV c a b)/\(c.Legs.map legKey).Nodup:=by
 have d:=(Y6 k).2.1;unfold numbersS at d;simp only[XW,Vq]at d;obtain⟨_,j,g,_⟩:=d;unfold legV;cases e:c.Legs.find? λl=>(l.From==a)&&(l.To==b)with
 |none=>
  unfold hasLeg at h;obtain⟨y,f,i⟩:=Xt.1 h;exact absurd i (List.find?_eq_none.1 e y f)
 |some y=>
  have:=Xs.1 j y (List.mem_of_find?_eq_some e);unfold legS inR at this;simp only[XW,Vq]at this;exact⟨⟨this.2.1.1.1,this.2.2,this.2.1.2.2⟩,rfl,g⟩
theorem Qfg(c:Course):∀(r:List Int) (s:Span) (a:Int) (i:Nat) (x y:Int) (u:Span),(a::r)[i]?=some x->(a::r)[i+1]?=some y->(s::sumsF c s a r)[i]?=some u->(s::sumsF c s a r)[i+1]?=some (nextS c u x y)
 |[],s,a,i,x,y,u,_,h2,_=>by simp at h2
 |b::r,s,a,0,x,y,u,h1,h2,h3=>by
  simp at h1 h2 h3;subst h1;subst h2;subst h3;rw[Qcj];rfl
 |b::r,s,a,i+1,x,y,u,h1,h2,h3=>by
  rw[Qcj]at h3⊢;exact Qfg c r (nextS c s a b) b i x y u (by simpa using h1) (by simpa using h2) (by simpa using h3)
theorem Qgx(c:Course)(r:List Int)(i:Nat)(x y:Int)(u:Span)(d:r[i]?=some x)(e:r[i+1]?=some y)(f:(sumsV c r)[i]?=some u):(sumsV c r)[i+1]?=some (nextS c u x y):=by
 cases r with
 |nil=>simp at d
 |cons a r=>exact Qfg c r _ a i x y u d e f
theorem QdN{c:Course}(f:courseE c=0){r:List Int}(g:Adj c r)(l:r.length<=256):∀(i:Nat) (u:Span),(sumsV c r)[i]?=some u->0<=u.Lo/\u.Lo<=u.Hi/\u.Hi<=(i:Int)*68719476736
 |0,u,h=>by
  cases r with
  |nil=>simp[sumsV]at h
  |cons a r=>
   have:u={Lo:=0,Hi:=0}:=by simpa[sumsV]using h.symm
   subst this;exact⟨Int.le_refl _,Int.le_refl _,by show(0:Int)<=_;omega⟩
 |i+1,v,h=>by
  have d:=(XL.1 h).1;rw[YE]at d;have k:r[i]?=some (r[i]'(by omega)):=XK (by omega);have e:r[i+1]?=some (r[i+1]'(d)):=XK d;have j:(sumsV c r)[i]?=some ((sumsV c r)[i]'(by rw[YE];omega)):=XK _;obtain⟨p,n,m⟩:=QdN f g l i _ j;rw[Qgx c r i _ _ _ k e j]at h;cases h;have L:=(QhN f (g.at k e)).1;have s:=L.lo;have q:=L.le;have t:=L.hi;generalize(sumsV c r)[i]'(by rw[YE];omega)=u at p n m;unfold nextS;rw[Qq (by omega) (by omega),Qq (by omega) (by omega)];show 0<=u.Lo+_/\u.Lo+_<=u.Hi+_/\u.Hi+_<=_;rw[show((i+1:Nat):Int)*68719476736=(i:Int)*68719476736+68719476736 by omega];omega
theorem Qfd{c:Course}(e:courseE c=0){r:List Int}(f:Adj c r)(h:r.length<=256){i:Nat}{x y:Int}{u:Span}(a:r[i]?=some x)(d:r[i+1]?=some y)(g:(sumsV c r)[i]?=some u):
  (sumsV c r)[i+1]?=some {Lo:=u.Lo+(legV c x y).Min,Hi:=u.Hi+(legV c x y).Max}:=by
 have j:=(XL.1 a).1;rw[Qgx c r i x y u a d g];obtain⟨q,p,m⟩:=QdN e f h i u g;have L:=(QhN e (f.at a d)).1;have l:=L.lo;have k:=L.le;have n:=L.hi;unfold nextS;rw[Qq (by omega) (by omega),Qq (by omega) (by omega)]
theorem Qfe{c:Course}(hc:courseE c=0){r:List Int}(ha:Adj c r)(hl:r.length<=256){i:Nat}{u:Span}(h:(sumsV c r)[i]?=some u):∀(d:Nat) (v:Span),(sumsV c r)[i+d]?=some v->0<=v.Lo-u.Lo/\v.Lo-u.Lo<=v.Hi-u.Hi/\v.Hi-u.Hi<=(d:Int)*68719476736
 |0,v,hv=>by
  rw[Xx,h]at hv;cases hv;omega
 |d+1,v,hv=>by
  have hlt:=(XL.1 hv).1;rw[YE]at hlt;have h1:r[i+d]?=some (r[i+d]'(by omega)):=XK (by omega);have h2:r[i+d+1]?=some (r[i+d+1]'(by omega)):=XK (by omega);have h3:(sumsV c r)[i+d]?=some ((sumsV c r)[i+d]'(by rw[YE];omega)):=XK _;obtain⟨p1,p2,p3⟩:=Qfe hc ha hl h d _ h3;have:=Qfd hc ha hl h1 h2 h3;rw[show i+(d+1)=i+d+1 by omega,this]at hv;cases hv;have L:=(QhN hc (ha.at h1 h2)).1;have l1:=L.lo;have l2:=L.le;have l3:=L.hi;generalize(sumsV c r)[i+d]'(by rw[YE];omega)=w at p1 p2 p3;show 0<=w.Lo+_-u.Lo/\w.Lo+_-u.Lo<=w.Hi+_-u.Hi/\w.Hi+_-u.Hi<=_;rw[show((d+1:Nat):Int)*68719476736=(d:Int)*68719476736+68719476736 by omega];omega
set_option maxRecDepth 10000
structure SpanOk (x:Span):Prop where
 a: -4398046511104<=x.Lo
 b:x.Lo<=x.Hi
 c:x.Hi<=4398046511104
theorem Qit{c:Course}(d:CrsOk c){s:Segment}(e:isT s.Anchor){h:Hit}(a:HitOk c h):SpanOk (spanV c s h):=by
 have k:=Qln d (kindAt c h.Mat) e a.fi;have m:=Qln d (kindAt c h.Mat) e a.la;have j:=a.fi;have g:=a.la;have l:=a.le;unfold isT at j g;have i:i64.wrap (h.First+(devV c (kindAt c h.Mat) s h.First).Lo)=h.First+(devV c (kindAt c h.Mat) s h.First).Lo:=Qq (by omega) (by omega);have f:i64.wrap (h.Last+(devV c (kindAt c h.Mat) s h.Last).Hi)=h.Last+(devV c (kindAt c h.Mat) s h.Last).Hi:=Qq (by omega) (by omega);unfold spanV;rw[i,f];refine⟨?_,?_,?_⟩
 .show _<=h.First+_;omega
 .show h.First+_<=h.Last+_;omega
 .show h.Last+_<=_;omega
theorem Qi4{c:Course}(e:CrsOk c){k:Clocks}(l:ClkOk k){h:Hit}(g:HitOk c h){t:Ud}(q:timeV c k h=some t):SpanOk t.span:=by
 unfold timeV at q;cases f:(kindAt c h.Mat==1)with
 |true=>rw[f]at q;cases q;exact Qit e (by show isT 0;unfold isT;omega) g
 |false=>
  rw[f]at q;by_cases a:segIx k h<0
  .rw[Qx a]at q;cases q
  .rw[Qy a]at q;obtain⟨j,s,i,d,m,_⟩:=Qa3 a;rw[i,Int.toNat_natCast,d]at q;cases q;exact Qit e (l.anc s (VG d)) g
section
variable {c:Course} {k:Clocks} {s:Starter} {e:Int} {x:List Hit} {l:List Hand} {t:Task}
theorem Qem(a:TaskIs c k s e x l t){p h:Int}(F:hitI t h)(q:(knownV t p h).2=true):SpanOk (knownV t p h).1.span:=by
 have ok:=a.ok;have f:t.c=c:=by rw[a.is];rfl
 have B:t.H=x:=by rw[a.is];rfl
 have i:t.k=k:=by rw[a.is];rfl
 have J:t.m=(hndV l).1:=by rw[a.is];rfl
 unfold knownV at q⊢;cases e:(Y2 t.m p||decide (h<0))with
 |true=>
  rw[e]at q;simp only[Vo]at q⊢;rw[QaL]at q;obtain⟨y,d⟩:=Option.isSome_iff_exists.1 q;unfold QA;rw[d];rw[J,QcJ]at d;cases n:l.find? (λh=>h.Position==p)with
  |none=>rw[n]at d;cases d
  |some g=>
   rw[n]at d;cases d;have r:=a.arg;unfold argW at r;simp only[XX]at r;have w:=List.any_eq_false.1 r.2.2.2.2 g (List.mem_of_find?_eq_some n);unfold handW timeB inR at w;simp only[Bool.or_eq_true,Vq,Bool.not_eq_true',Bool.and_eq_false_iff,decide_eq_false_iff_not,not_or,Decidable.not_not]at w;exact⟨by show _<=g.Lo;omega,by show g.Lo<=g.Hi;omega,by show g.Hi<=_;omega⟩
 |false=>
  simp only[Vp];rw[XX,decide_eq_false_iff_not]at e;have j:h.toNat<t.H.length:=by rcases F with z|z<;>omega
  obtain⟨y,u,L⟩:=Qad (l:=t.H) (h:=h) (by omega) j;obtain⟨_,T2⟩:=QbD a.tm;rw[B]at u;obtain⟨z,G,E⟩:=T2 _ _ u;rw[G];exact Qi4 (by rw[<- f];exact ok.crs) (by rw[<- i];exact ok.clk) (by have:=ok.hit h.toNat y (by rw[B];exact u);rwa [f]at this) E
end
def kv(t:Task)(W:Way)(i:Nat):Ud×Bool:=knownV t (i:Int) ((W.Hits[i]?).getD (-1))
def InvK(t:Task)(W:Way)(i:Nat)(s:Uf):Prop:=(s.last= -1/\ ∀j,j<i->(kv t W j).2=false)\/ ∃a:Nat,a<i/\s.last=(a:Int)/\(kv t W a).2=true/\s.when=(kv t W a).1/\ ∀j,a<j->j<i->(kv t W j).2=false
theorem inv0(t:Task)(W:Way):InvK t W 0 s0V:=.inl ⟨rfl,λj h=>by omega⟩
set_option maxRecDepth 10000
theorem QiI(k:Clocks)(h:Hit)(B:k.Segments.length<=1048576):Ev (λn=>F_bu n k.Segments h.Mat h.Epoch) (segIx k h+1):=by
 have p:∀(r:List Segment) (i:Nat),k.Segments.drop i=r->i<=k.Segments.length->∃d:Ctl Unit Int,EvI (λn=>F_fj n k.Segments h.Mat h.Epoch) (i:Int) d/\(match d with|.cont _=>some 0|.done v=>some v)=some (firstI (λx:Segment=>({mat:=x.Mat,epoch:=x.Epoch:Ue})=={mat:=h.Mat,epoch:=h.Epoch}) r i+1):=by
  intro r
  induction r with
  |nil=>
   intro i m t;refine⟨.cont (),Ej ?_,rfl⟩;unfold F_fj;simp only[QJ m t,Vp];exact Qa _
  |cons y r w=>
   intro i m t;obtain⟨g,l⟩:=Qv (by omega) m;have z:=g.lt';unfold firstI;have eq:(({mat:=y.Mat,epoch:=y.Epoch:Ue})=={mat:=h.Mat,epoch:=h.Epoch})=((y.Mat==h.Mat)&&(y.Epoch==h.Epoch)):=by
    rw[XY];simp
   rw[eq];have a:Ev (λn=>((idx k.Segments (i:Int)).bind λq=>(bif (q.Mat==h.Mat)then(idx k.Segments (i:Int)).bind λj=>some (j.Epoch==h.Epoch)else some false):Option Bool)) ((y.Mat==h.Mat)&&(y.Epoch==h.Epoch)):=by
    simp only[g.ix,XJ];exact Ei λ_=>Qa _
   cases e:((y.Mat==h.Mat)&&(y.Epoch==h.Epoch))with
   |true=>
    rw[e]at a;refine⟨.done ((i:Int)+1),Ej ?_,rfl⟩;unfold F_fj;simp only[g.lt,Vo];refine Ea a (QaP ?_);rw[Qq (n:=(i:Int)+1) (by omega) (by omega)];exact Qa _
   |false=>
    rw[e]at a;obtain⟨d,s,f⟩:=w (i+1) l (by omega);refine⟨d,Ex ?_ s,f⟩;unfold F_fj;simp only[g.lt,Vo,g.nx];exact Ea a (Qt (Qa _))
 obtain⟨d,s,f⟩:=p k.Segments 0 rfl (XU _);unfold F_bu segIx;refine Ea s.ev ?_;cases d with
 |cont u=>
  have f:=XZ f;exact(Qa _).eq f
 |done v=>
  have f:=XZ f;exact(Qa _).eq f
theorem QiJ{c:Course}{h:Hit}(e:HitOk c h):Ev (λn=>F_ag n c h.Mat) (kindAt c h.Mat==1):=by
 obtain⟨i,m,d,a⟩:=e.mat;unfold F_ag kindAt;rw[d,Qo a,Int.toNat_natCast,a];exact Qa _
def noSeg(c:Course)(k:Clocks)(h:Hit):Bool:= !(kindAt c h.Mat==1)&&decide (segIx k h<0)
theorem Qi5(c:Course)(k:Clocks)(h:Hit):(timeV c k h).isNone=noSeg c k h:=by
 unfold timeV noSeg;cases(kindAt c h.Mat==1)with
 |true=>rfl
 |false=>
  by_cases a:segIx k h<0
  .rw[Qx a];rfl
  .rw[Qy a];obtain⟨j,s,d,e,f,_⟩:=Qa3 a;rw[d,Int.toNat_natCast,e];rfl
theorem Qd4(c:Course)(k:Clocks):∀x:List Hit,(timesV c k x).isNone=x.any (noSeg c k)
 |[]=>rfl
 |h::r=>by
  rw[QbE,List.any_cons, <- Qi5, <- Qd4 c k r];cases timeV c k h with
  |none=>rfl
  |some t=>cases timesV c k r<;>rfl
def errV(q:Int ⊕ Task):Int:=match q with|.inl v=>v|.inr _=>0
theorem Qk1{c:Course}(a:Ev (λn=>F_c n c) (courseE c))(G:courseE c=0->Good c){k:Clocks}(E:ClkW k)(s:Starter)(e:Int)(x:List Hit)(J:x.length<=1000)(l:List Hand)(L:l.length<=1048576):
  Ev (λn=>F_cs n c k s e x l) (errV (taskE c k s e x l)):=by
 unfold F_cs taskE;cases p:(courseE c != 0)with
 |true=>
  refine Ea a (Ea (v:=courseE c) (YZ ?_ (Qa _)) (YY p (Qa _)));rw[Vy];simpa[bne]using p
 |false=>
 have f:courseE c=0:=by simpa[bne]using p
 refine Ea a ?_;rw[f];refine Ea (QaP (Ea (QiH k E) (Qa _))) ?_;cases M:clkB k with
 |false=>exact Qa _
 |true=>
 refine Qt ?_;simp only[bne_self_eq_false,Xg,Vp];have H:argW c s l=((decide (s.Distance<0)||(decide ((c.Distances.length:Int)<=s.Distance)||(decide (s.Wave<0)||decide ((c.Waves.length:Int)<=s.Wave))))||l.any handW):=by
  unfold argW;simp only[Bool.or_assoc]
 rw[H];cases u:(decide (s.Distance<0)||(decide ((c.Distances.length:Int)<=s.Distance)||(decide (s.Wave<0)||decide ((c.Waves.length:Int)<=s.Wave))))with
 |true=>exact Ea (v:=true) (Ew (Qh λ_=>Qh λ_=>Qh λ_=>Qa _) u) (Qa _)
 |false=>
 refine Ea (v:=false) (Ew (Qh λ_=>Qh λ_=>Qh λ_=>Qa _) u) (Qt ?_);have g:Ev (λn=>iter (F_kg n l) n 0) (bif l.all (λh=> !handW h)then Ctl.cont ()else Ctl.done 1):=by
  refine Q9 l (λh=> !handW h) (Ctl.done 1) (Ctl.cont ()) (by omega) (λi y d=>?_) ?_
  .unfold F_kg;simp only[d.lt,Vo,d.ix,XJ,d.nx];have w:∀z:Int,Ev (λn=>F_bi n z) (timeB z):=by
    intro z;unfold F_bi timeB inR;exact Ea (Ei λ_=>Qa _) (Qa _)
   refine Ea (v:=handW y) ?_ ?_
   .unfold handW;exact Qh λ_=>Ea (w _) (Qh λ_=>Ea (w _) (Qh λ_=>Qa _))
   .cases handW y<;>exact Qa _
  .unfold F_kg;simp only[Qao,Vp];exact Qa _
 refine Ea g ?_;rw[show l.all (λh=> !handW h)= !l.any handW from(List.not_any_eq_all_not ..).symm];cases d:l.any handW with
 |true=>exact Qa _
 |false=>
 simp only[Xh,Vo,Bool.or_false,Vp];have B:=Qb5 G a s.Distance e;rw[f]at B;refine Ea B ?_;simp only[bne_self_eq_false,Vp];cases r:((routeO c s.Distance e).2 != 0)with
 |true=>
  refine Ea (v:=(routeO c s.Distance e).2) (YZ ?_ (Qa _)) (YY r (Qa _));rw[Vy];simpa[bne]using r
 |false=>
 have q:(routeO c s.Distance e).2=0:=by simpa[bne]using r
 refine Ea (YY (by rw[q];rfl) (Ea (Qjq c x (by omega) a) (Qa _))) ?_;rw[f];simp only[bne_self_eq_false,Vp];cases F:checkH c x with
 |false=>exact Qa _
 |true=>
 refine Qt ?_;have m:Ev (λn=>iter (F_jh n c k x) n 0) (bif x.all (λh=> !noSeg c k h)then Ctl.cont ()else Ctl.done 170):=by
  refine Q9 x (λh=> !noSeg c k h) (Ctl.done 170) (Ctl.cont ()) (by omega) (λi y d=>?_) ?_
  .unfold F_jh;simp only[d.lt,Vo,d.ix,XJ,d.nx];refine Ea (v:=noSeg c k y) ?_ ?_
   .refine Ea (QiJ (Qf4 F y d.mem)) ?_;unfold noSeg;refine Ei λ_=>Ea (QiI k y E.segs) ((Qa _).eq ?_);rcases QbM (λx:Segment=>({mat:=x.Mat,epoch:=x.Epoch:Ue})=={mat:=y.Mat,epoch:=y.Epoch}) k.Segments 0 with⟨t,_⟩|⟨j,N,t,_⟩
    .have:segIx k y= -1:=t;rw[this];rfl
    .have:segIx k y=(j:Int):=by unfold segIx;rw[t];simp
     rw[this,Qy (show¬(j:Int)<0 by omega)];rw[Vy];omega
   .cases noSeg c k y<;>exact Qa _
  .unfold F_jh;simp only[Qao,Vp];exact Qa _
 refine Ea m ?_;rw[show x.all (λh=> !noSeg c k h)= !x.any (noSeg c k)from(List.not_any_eq_all_not ..).symm, <- Qd4];cases timesV c k x with
 |none=>exact Qa _
 |some T=>exact Qa _
theorem Qg8(I:stopwatchref19_input)(m:I.hands.length<=1048576)(p:Int):Ev (λn=>F_bo n I p) (match I.hands.find? (λh=>h.Position==p)with|some h=>(h,true)|none=>(Uq,false)):=by
 have f:∀(r:List Hand) (i:Nat),I.hands.drop i=r->i<=I.hands.length->EvI (λn=>F_gd n I p) (i:Int) (match r.find? (λh=>h.Position==p)with|some h=>Ctl.done (h,true)|none=>Ctl.cont ()):=by
  intro r
  induction r with
  |nil=>
   intro i g j;refine Ej ?_;unfold F_gd;simp only[QJ g j,Vp];exact Qa _
  |cons y r l=>
   intro i g j;obtain⟨a,d⟩:=Qv (by omega) g;have k:=a.lt';rw[List.find?_cons];cases e:(y.Position==p)with
   |true=>
    refine Ej ?_;unfold F_gd;simp only[a.lt,Vo,a.ix,XJ,e];exact Qa _
   |false=>
    refine Ex ?_ (l (i+1) d (by omega));unfold F_gd;simp only[a.lt,Vo,a.ix,XJ,e,Vp,a.nx];exact Qa _
 unfold F_bo;refine Ea (f I.hands 0 rfl (XU _)).ev ?_;cases I.hands.find? (λh=>h.Position==p)<;>exact Qa _
theorem QeG(I:stopwatchref19_input)(g:I.k.Segments.length<=1048576){h:Hit}(i:HitOk I.c h){t:Ud}(q:timeV I.c I.k h=some t):Ev (λn=>F_n n I h) t.segment:=by
 unfold F_n;refine Ea (QiJ i) ?_;unfold timeV at q;cases e:(kindAt I.c h.Mat==1)with
 |true=>rw[e]at q;cases q;exact Qa _
 |false=>
  rw[e]at q;refine Qt (Ea (QiI I.k h g) ?_);by_cases a:segIx I.k h<0
  .rw[Qx a]at q;cases q
  .rw[Qy a]at q;obtain⟨j,s,d,f,l,_⟩:=Qa3 a;have m:=(XL.1 f).1;rw[d,Int.toNat_natCast,f]at q;cases q;rw[d];refine(Qa _).eq ?_;rw[Qq (by omega) (by omega)];show(j:Int)+1-1=(j:Int);omega
theorem QiK{c:Course}(d:Ev (λn=>F_c n c) (courseE c))(f:courseE c=0){i:Nat}{m:Mat}(j:c.Mats[i]?=some m){s:Segment}(h:s.Mat=(i:Int)){a:Int}(g:isT s.Anchor)(e:isT a):Ev (λn=>F_bk n c s a) (devV c m.Kind s a,0):=by
 unfold F_bk;rw[f]at d;have k:=(XL.1 j).1;refine Ea d (Qt (Ea (v:=false) ?_ (Qt (Ea (Qdj (QeP f) j h g e) (Qa _)))));refine Ea (Qdi c s.Mat) ?_;rw[show matB c s.Mat=true by unfold matB;rw[h,Qx (show(0:Int)<=(i:Int)by omega),Qx (show(i:Int)<(c.Mats.length:Int)by omega)];rfl];refine Qt (Ea (Qbq a) ?_);rw[timeI.2 e];refine Qt (Ea (Qbq s.Anchor) ?_);rw[timeI.2 g];exact Qa _
theorem Qjp(I:stopwatchref19_input)(d:Ev (λn=>F_c n I.c) (courseE I.c))(x:courseE I.c=0)(w:ClkOk I.k){h:Hit}(f:HitOk I.c h){t:Ud}(q:timeV I.c I.k h=some t):Ev (λn=>F_bw n I h) t.span:=by
 have J:=w.dims.segs;have seg:=QeG I (by omega) f q;obtain⟨i,m,p,g⟩:=f.mat;have B:kindAt I.c h.Mat=m.Kind:=by unfold kindAt;rw[p,Int.toNat_natCast,g];rfl
 have fin:∀s:Segment,s.Mat=h.Mat->isT s.Anchor->t.span=spanV I.c s h->Ev (λn=>((bif decide (0<=t.segment)then(F_n n I h).bind λE=>(idx I.k.Segments E).bind λr=>some r else some ({Mat:=h.Mat,Epoch:=h.Epoch,Anchor:=0:Segment})):Option Segment)) s->Ev (λn=>F_bw n I h) t.span:=by
  intro s u y H z;unfold F_bw;refine Ea seg (Ea z (Ea (QiK d x g (u.trans p) y f.fi) (Ea (QiK d x g (u.trans p) y f.la) ((Qa _).eq ?_))));rw[H];unfold spanV;rw[B]
 have L:=q;unfold timeV at q;cases e:(kindAt I.c h.Mat==1)with
 |true=>
  rw[e]at q;cases q;exact fin {Mat:=h.Mat,Epoch:=h.Epoch,Anchor:=0} rfl (by show isT 0;unfold isT;omega) rfl (YZ rfl (Qa _))
 |false=>
  rw[e]at q;by_cases a:segIx I.k h<0
  .rw[Qx a]at q;cases q
  .rw[Qy a]at q;obtain⟨j,s,F,l,G,_⟩:=Qa3 a;rw[F,Int.toNat_natCast,l]at q;cases q;refine fin s G (w.anc s (VG l)) (by show spanV I.c s h=_;rfl) (YY (Qx (show(0:Int)<=(j:Int)by omega)) (Ea seg ?_));show Ev (λn=>(idx I.k.Segments (j:Int)).bind λr=>some r) s;rw[Qo l];exact Qa _
set_option maxRecDepth 10000
theorem Qjm{a:stopwatchlaw19_Input}(w:stopwatchlaw19_Input.wf a)(f:FewI a)(d:Ev (λn=>F_ao n a) true)(q:courseE a.C=0)(u:0<=a.S.Distance)(x:a.S.Distance<(a.C.Distances.length:Int))(r:(routeO a.C a.S.Distance a.Extra).2=0):(routeO a.C a.S.Distance a.Extra).1.length<=8:=by
 obtain⟨s,g,_⟩:=Qho a.C w.1;obtain⟨l,i,_⟩:=Qhi a.K f.clk;have k:∃v,Ev (λn=>F_ao n a) v/\(v=true->(routeO a.C a.S.Distance a.Extra).1.length<=8):=by
  unfold F_ao F_eb;cases d:(!s||(decide (8<(a.C.Mats.length:Int))||(!l||(decide (4<(a.Hits.length:Int))||decide (6<(a.Hands.length:Int))))))with
  |true=>exact⟨false,Ea (Ea (v:=true) (Ew (Ea g (Qh λ_=>Qh λ_=>Ea i (Qh λ_=>Qh λ_=>Qa _))) d) (Qa _)) (Qa _),nofun⟩
  |false=>
   have m:(decide (a.S.Distance<0)||decide ((a.C.Distances.length:Int)<=a.S.Distance))=false:=by
    rw[Qy (show¬a.S.Distance<0 by omega),Qy (show¬(a.C.Distances.length:Int)<=a.S.Distance by omega)];rfl
   have e:=Qb5 f.good f.ref a.S.Distance a.Extra;rw[q]at e;simp only[bne_self_eq_false,Vp]at e;refine⟨(routeO a.C a.S.Distance a.Extra).2 != 0||decide (((routeO a.C a.S.Distance a.Extra).1.length:Int)<=8),Ea (Ea (v:=false) (Ew (Ea g (Qh λ_=>Qh λ_=>Ea i (Qh λ_=>Qh λ_=>Qa _))) d) (Qt (Ea (v:=false) (Ew (Qh λ_=>Qa _) m) (Qt (Ea e (Ea (Qh λ_=>Qa _) (Qa _))))))) (Qa _),λh=>?_⟩;rw[r]at h;have h:=Vu (p:=((routeO a.C a.S.Distance a.Extra).1.length:Int)<=8) (by simpa using h);omega
 obtain⟨v,j,t⟩:=k;exact t (QmQ j d)
theorem Qnx{k:Clocks}(h:clkB k=true){i j:Nat}(hi:i<k.Segments.length+1)(m:j<k.Segments.length+1):farG k i i=0/\ -2199023255552<=farG k i j/\farG k i j<=2199023255552:=by
 have d:=Qb6 h;simp only[clkB,XW]at h;have a:=Qjb.1 h.2.2.1 i (by have:=d.far;omega);obtain⟨f,g⟩:=d.get hi m;obtain⟨_,l⟩:=d.get hi hi;rw[f]at a;simp only[rowB,Bool.not_eq_true',XX]at a;obtain⟨_,e,n⟩:=a;rw[l]at e;have b:=List.any_eq_false.1 n (farG k i j) (VG g);unfold farBad at b;simp only[Bool.or_eq_true,Vq,not_or]at b;refine⟨by simpa[bne]using e,by omega,by omega⟩
theorem QmD{t:Task}(d:clkB t.k=true){a b:Ud}{e f:Nat}(i:a.segment+1=(e:Int))(g:e<t.k.Segments.length+1)(j:b.segment+1=(f:Int))(q:f<t.k.Segments.length+1)(y1: -4398046511104<=a.span.Lo)(y2:a.span.Lo<=a.span.Hi)(s:a.span.Hi<=4398046511104)(p: -4398046511104<=b.span.Lo)(u:b.span.Lo<=b.span.Hi)(m:b.span.Hi<=4398046511104):
  distV t a b={Lo:=i64.wrap (i64.wrap (b.span.Lo-a.span.Hi)-farG t.k f e),Hi:=i64.wrap (i64.wrap (b.span.Hi-a.span.Lo)+farG t.k e f)}:=by
 have r:=(Qb6 d).segs;unfold distV;rw[i,j,Qq (n:=(e:Int)) (by omega) (by omega),Qq (n:=(f:Int)) (by omega) (by omega),Int.toNat_natCast,Int.toNat_natCast];by_cases h:e=f
 .subst h;rw[(Qnx d g g).1,bne_self_eq_false,Vp,Qq (n:=b.span.Lo-a.span.Hi) (by omega) (by omega),Qq (n:=b.span.Hi-a.span.Lo) (by omega) (by omega),Qq (by omega) (by omega),Qq (by omega) (by omega),Int.sub_zero,Int.add_zero]
 .have l:((e:Int) != (f:Int))=true:=by simp[bne];omega
  rw[l];rfl
section
variable {c:Course} {k:Clocks} {s:Starter} {e:Int} {x:List Hit} {l:List Hand} {t:Task}
theorem Qcw(a:TaskIs c k s e x l t)(h:courseE c=0->Good c):Adj c t.r:=by
 have g:=h a.cE;obtain⟨j,d,f,p,u,m,i,q,n⟩:=Qb0 g a.rt;have:t.r=routeV d f:=by rw[a.is];exact n
 rw[this];exact Qfl g a.cE (VG m) f i
theorem Qiw(a:TaskIs c k s e x l t)(g:courseE c=0->Good c)(B:t.r.length<=8){i j:Nat}(y:i<=j)(F:j<t.r.length):∃u v,(sumsV c t.r)[i]?=some u/\(sumsV c t.r)[j]?=some v/\needV t i j={Lo:=v.Lo-u.Lo,Hi:=v.Hi-u.Hi}/\0<=v.Lo-u.Lo/\v.Lo-u.Lo<=v.Hi-u.Hi/\v.Hi-u.Hi<=549755813888:=by
 have w:t.s=sumsV c t.r:=by rw[a.is];rfl
 have d:(sumsV c t.r)[i]?=some ((sumsV c t.r)[i]'(by rw[YE];omega)):=XK _;have f:(sumsV c t.r)[j]?=some ((sumsV c t.r)[j]'(by rw[YE];omega)):=XK _;have m:=Qfe a.cE (Qcw a g) (by omega) d (j-i) _ (by rw[show i+(j-i)=j by omega];exact f);have h:=QdN a.cE (Qcw a g) (by omega) _ _ d;have z:=QdN a.cE (Qcw a g) (by omega) _ _ f;refine⟨_,_,d,f,?_⟩;unfold needV;rw[w,Int.toNat_natCast,Int.toNat_natCast,d,f];simp only[Option.getD_some];generalize(sumsV c t.r)[i]'(by rw[YE];omega)=u at m h;generalize(sumsV c t.r)[j]'(by rw[YE];omega)=v at m z;have E:((j-i:Nat):Int)*68719476736<=549755813888:=by
  have:((j-i:Nat):Int)<=8:=by omega
  omega
 have q:(i:Int)*68719476736<=549755813888:=by omega
 have p:(j:Int)*68719476736<=549755813888:=by omega
 rw[Qq (n:=v.Lo-u.Lo) (by omega) (by omega),Qq (n:=v.Hi-u.Hi) (by omega) (by omega),Vs (by omega),Vs (by omega)];exact⟨rfl,by omega,by omega,by omega⟩
end
set_option maxRecDepth 10000
theorem Qmr{c:Course}(x:c.Legs.length<=512){a b:Int}(hg:hasLeg c a b=true):Ev (λn=>F_cd n c a b) (legV c a b):=by
 have m:∀(r:List Leg) (i:Nat),c.Legs.drop i=r->i<=c.Legs.length->EvI (λn=>F_gs n c a b) (i:Int) (match r.find? (λl=>(l.From==a)&&(l.To==b))with|some l=>Ctl.done l|none=>Ctl.cont ()):=by
  intro r
  induction r with
  |nil=>
   intro i k q;refine Ej ?_;unfold F_gs;simp only[QJ k q,Vp];exact Qa _
  |cons y r u=>
   intro i k q;obtain⟨f,j⟩:=Qv (by omega) k;have w:=f.lt';have d:Ev (λn=>((idx c.Legs (i:Int)).bind λh=>(bif (h.From==a)then(idx c.Legs (i:Int)).bind λp=>some (p.To==b)else some false):Option Bool)) ((y.From==a)&&(y.To==b)):=by
    simp only[f.ix,XJ];exact Ei λ_=>Qa _
   rw[List.find?_cons];cases e:((y.From==a)&&(y.To==b))with
   |true=>
    rw[e]at d;refine Ej ?_;unfold F_gs;simp only[f.lt,Vo];refine Ea d (QaP ?_);rw[f.ix];exact Qa _
   |false=>
    rw[e]at d;refine Ex ?_ (u (i+1) j (by omega));unfold F_gs;simp only[f.lt,Vo,f.nx];exact Ea d (Qt (Qa _))
 unfold F_cd;have g:=(m c.Legs 0 rfl (XU _)).ev;unfold legV;cases e:c.Legs.find? (λl=>(l.From==a)&&(l.To==b))with
 |none=>
  unfold hasLeg at hg;obtain⟨y,s,t⟩:=Xt.1 hg;exact absurd t (List.find?_eq_none.1 e y s)
 |some y=>
  rw[e]at g;exact Ea g (Qa _)
section
variable {c:Course} {k:Clocks} {s:Starter} {e:Int} {x:List Hit} {l:List Hand} {t:Task}
theorem Qhe(f:TaskIs c k s e x l t)(g:courseE c=0->Good c)(G:t.r.length<=8){a b:Nat}(B:a<=b)(P:b<t.r.length):Ev (λn=>F_de n c t.r (a:Int) (b:Int)) (needV t a b):=by
 obtain⟨u,v,M,Y,O,q4,q5,q6⟩:=Qiw f g G B P;rw[O];have d:=Qcw f g;have lp:∀(m i:Nat),i+m=b->a<=i->∀w:Span,(sumsV c t.r)[i]?=some w->EvI (λn=>F_kd n c t.r (b:Int)) ({Lo:=w.Lo-u.Lo,Hi:=w.Hi-u.Hi},(i:Int)) {Lo:=v.Lo-u.Lo,Hi:=v.Hi-u.Hi}:=by
  intro m
  induction m with
  |zero=>
   intro i V _ w p;have:i=b:=by omega
   subst this;rw[Y]at p;cases p;refine Ej ?_;unfold F_kd;simp only[Qy (show¬(i:Int)<(i:Int)by omega),Vp];exact Qa _
  |succ m W=>
   intro i V R w p;have q:t.r[i]?=some (t.r[i]'(by omega)):=XK (by omega);have h:t.r[i+1]?=some (t.r[i+1]'(by omega)):=XK (by omega);have F:=d.at q h;have L:=Qfd f.cE d (by omega) q h p;obtain⟨u',w',J,H,_,y,E,z⟩:=Qiw f g G (i:=a) (j:=i+1) (by omega) (by omega);rw[M]at J;cases J;rw[L]at H;cases H;refine Ex ?_ (W (i+1) (by omega) (by omega) _ L);unfold F_kd;simp only[Qx (show(i:Int)<(b:Int)by omega),Vo];generalize(t.r[i]'(by omega))=y1 at q F y E z;generalize(t.r[i+1]'(by omega))=y2 at h F y E z;rw[QU (by omega)];refine Qu (Qo q) (Qu (Qo h) ?_);refine Ea (Qmr (g f.cE).legs F) ((Qa _).eq ?_);have N:0<=w.Lo+(legV c y1 y2).Min-u.Lo:=y;have Q:w.Lo+(legV c y1 y2).Min-u.Lo<=w.Hi+(legV c y1 y2).Max-u.Hi:=E;have X:w.Hi+(legV c y1 y2).Max-u.Hi<=549755813888:=z;have T:i64.wrap (w.Lo-u.Lo+(legV c y1 y2).Min)=w.Lo+(legV c y1 y2).Min-u.Lo:=by rw[Qq (by omega) (by omega)];omega
   have e2:i64.wrap (w.Hi-u.Hi+(legV c y1 y2).Max)=w.Hi+(legV c y1 y2).Max-u.Hi:=by rw[Qq (by omega) (by omega)];omega
   show Ctl.cont (({Lo:=if i64.wrap (w.Lo-u.Lo+(legV c y1 y2).Min)<2199023255552 then i64.wrap (w.Lo-u.Lo+(legV c y1 y2).Min)else 2199023255552,Hi:=if i64.wrap (w.Hi-u.Hi+(legV c y1 y2).Max)<2199023255552 then i64.wrap (w.Hi-u.Hi+(legV c y1 y2).Max)else 2199023255552}:Span),((i+1:Nat):Int))=_;rw[T,e2,Vs (by omega),Vs (by omega)]
 unfold F_de;have:=lp (b-a) a (by omega) (XT _) u M;rw[Int.sub_self,Int.sub_self]at this;exact Ea this.ev (Qa _)
def betV(t:Task)(i j:Nat):Span:=needV t ((if j<i then j else i:Nat):Int) ((if i<j then j else i:Nat):Int)
def betR(t:Task)(i:Nat):List Span:=(List.range t.r.length).map (betV t i)
def betM(t:Task):List (List Span):=(List.range t.r.length).map (betR t)
theorem Qg7(g:TaskIs c k s e x l t)(q:Ev (λn=>F_c n c) (courseE c))(w:courseE c=0->Good c)(E:t.r.length<=8):Ev (λn=>F_cx n c k s e x l) (t.r,betM t):=by
 have d:=Qb5 w q s.Distance e;rw[g.cE]at d;simp only[bne_self_eq_false,Vp]at d;have er:routeO c s.Distance e=(t.r,0):=Prod.ext (by rw[g.is];rfl) g.rt;rw[er]at d;have bt:∀i j:Nat,i<t.r.length->j<t.r.length->Ev (λn=>F_el n c s.Distance e (if(j:Int)<(i:Int)then(j:Int)else(i:Int)) (if(i:Int)<(j:Int)then(j:Int)else(i:Int))) (betV t i j,0):=by
  intro i j f z;have B:(if(j:Int)<(i:Int)then(j:Int)else(i:Int))=((if j<i then j else i:Nat):Int):=by split<;>split<;>omega
  have F:(if(i:Int)<(j:Int)then(j:Int)else(i:Int))=((if i<j then j else i:Nat):Int):=by split<;>split<;>omega
  rw[B,F];have u:(if j<i then j else i)<=(if i<j then j else i):=by split<;>split<;>omega
  have y:(if i<j then j else i)<t.r.length:=by split<;>omega
  unfold F_el betV;generalize(if j<i then j else i)=a at u;generalize(if i<j then j else i)=b at u y;refine Ea d (Qt (Ea (v:=false) (YZ (Qy (by omega)) (YZ (Qy (by omega)) ((Qa _).eq (Qy (by show¬(t.r.length:Int)<=(b:Int);omega))))) (Qt (Ea (Qhe g w E u y) (Qa _)))))
 have row:∀(o:List (List Span)) (i:Nat),i<t.r.length->Ev (λn=>iter (F_hj n c s e (t.r,0) (o,(i:Int))) n (([]:List Span),0)) (betR t i):=by
  intro o i f;have h:∀(m j:Nat),j+m=t.r.length->EvI (λn=>F_hj n c s e (t.r,0) (o,(i:Int))) ((List.range j).map (betV t i),(j:Int)) (betR t i):=by
   intro m
   induction m with
   |zero=>
    intro j z;have:j=t.r.length:=by omega
    subst this;refine Ej ?_;unfold F_hj;simp only[Qao,Vp];exact Qa _
   |succ m p=>
    intro j z;refine Ex ?_ (p (j+1) (by omega));unfold F_hj;simp only[Qx (show(j:Int)<(t.r.length:Int)by omega),Vo];refine Ea (bt i j f (by omega)) (Qu (QbT (by simp;omega)) ?_);rw[QU (by omega),Xu,Xf];exact Qa _
  exact(h t.r.length 0 (by omega)).ev
 have all:∀(m i:Nat),i+m=t.r.length->EvI (λn=>F_iy n c s e (t.r,0)) ((List.range i).map (betR t),(i:Int)) (betM t):=by
  intro m
  induction m with
  |zero=>
   intro i f;have:i=t.r.length:=by omega
   subst this;refine Ej ?_;unfold F_iy;simp only[Qao,Vp];exact Qa _
  |succ m p=>
   intro i f;refine Ex ?_ (p (i+1) (by omega));unfold F_iy;simp only[Qx (show(i:Int)<(t.r.length:Int)by omega),Vo];refine Ea (row _ i (by omega)) (Qu (QbT (by simp;omega)) ?_);rw[QU (by omega),Xu,Xf];exact Qa _
 unfold F_cx;exact Ea d (Ea (all t.r.length 0 (by omega)).ev (Qa _))
theorem QmE(t:Task){i j:Nat}(hi:i<t.r.length)(a:j<t.r.length):idx (betM t) (i:Int)=some (betR t i)/\idx (betR t i) (j:Int)=some (betV t i j):=by
 refine⟨Qo ?_,Qo ?_⟩
 .unfold betM;simp[hi]
 .unfold betR;simp[a]
def inpV(t:Task)(l:List Hand):stopwatchref19_input:={c:=t.c,k:=t.k,hits:=t.H,hands:=l,route:=t.r,between:=betM t}
theorem QcM(a:TaskIs c k s e x l t)(p:Ev (λn=>F_c n c) (courseE c))(G:l.length<=1048576){W:Way}(g:∀h∈W.Hits,hitI t h){i:Nat}(hi:i<W.Hits.length):
  Ev (λn=>F_av n (inpV t l) W (i:Int)) (bif (kv t W i).2 then((kv t W i).1.segment,(kv t W i).1.span,true)else(-1,{Lo:=0,Hi:=0},false)):=by
 have ok:=a.ok;have d:t.c=c:=by rw[a.is];rfl
 have N:t.H=x:=by rw[a.is];rfl
 have j:t.k=k:=by rw[a.is];rfl
 have L:t.m=(hndV l).1:=by rw[a.is];rfl
 have q:W.Hits[i]?=some (W.Hits[i]'hi):=XK hi;have B:=g _ (Vd hi);unfold kv;rw[q,Option.getD_some];generalize W.Hits[i]'(hi)=h at q B;unfold F_av;have f:=Qg8 (inpV t l) G (i:Int);rw[show(inpV t l).hands=l from rfl]at f;have M:Y3 t.m (i:Int)=(l.find? λh=>h.Position==(i:Int)).map λh=>{segment:= -1,span:={Lo:=h.Lo,Hi:=h.Hi}}:=by rw[L];exact QcJ l _
 unfold knownV QA;rw[QaL,M];cases E:l.find? (λh=>h.Position==(i:Int))with
 |some O=>
  rw[E]at f;exact Ea f (Qa _)
 |none=>
  rw[E]at f;refine Ea f ?_;simp only[Xk,Option.isSome_none,Bool.false_or,Vp,Qo q,XJ];by_cases F:h<0
  .rw[Qx F];exact Qa _
  .rw[Qy F];have r:h.toNat<t.H.length:=by rcases B with z|z<;>omega
   obtain⟨y,y1,y2⟩:=Qad (l:=t.H) (h:=h) (by omega) r;obtain⟨_,T2⟩:=QbD a.tm;obtain⟨z,J,u⟩:=T2 _ _ (by rw[<- N];exact y1);rw[J];simp only[Vp,Vo,Option.getD_some];have w:HitOk t.c y:=ok.hit _ _ y1;rw[<- d, <- j]at u;refine Qu y2 (Ea (QeG (inpV t l) (by have:=ok.clk.dims.segs;show t.k.Segments.length<=_;omega) w u) (Ea (Qjp (inpV t l) (by show Ev (λn=>F_c n t.c) (courseE t.c);rw[d];exact p) (by show courseE t.c=0;rw[d];exact a.cE) ok.clk w u) (Qa _)))
end
set_option maxRecDepth 10000
def shpL(t:Task)(W:Way):List Int->Nat->List (Int×Bool)->Bool
 |[],_,_=>true
 |h::r,i,u=>bif (h != -1)&&badV t W u i h then false else shpL t W r (i+1) (bif h != -1 then Q2 u h true else u)
def stpL(t:Task)(W:Way):List Int->Nat->Uf->Bool
 |[],_,_=>true
 |h::r,i,s=>bif decide (W.Last<(i:Int))then true else bif !(stepV t s (i:Int) h).2 then false else stpL t W r (i+1) (stepV t s (i:Int) h).1
theorem Qd8(t:Task)(W:Way)(h:Int)(r:List Int)(i:Nat)(u:List (Int×Bool)):shpL t W (h::r) i u=bif (h != -1)&&badV t W u i h then false else shpL t W r (i+1) (bif h != -1 then Q2 u h true else u):=rfl
theorem Qd5(t:Task)(W:Way)(h:Int)(r:List Int)(i:Nat)(s:Uf):stpL t W (h::r) i s=bif decide (W.Last<(i:Int))then true else bif !(stepV t s (i:Int) h).2 then false else stpL t W r (i+1) (stepV t s (i:Int) h).1:=rfl
theorem QlX(t:Task)(W:Way):∀(r:List Int) (i:Nat) (s:Uf),W.Last<(i:Int)->stpL t W r i s=true
 |[],_,_,_=>rfl
 |h::r,i,s,q=>by rw[Qd5,Qx q,Vo]
theorem Qgi(t:Task)(W:Way):∀(r:List Int) (i:Nat) (u:List (Int×Bool)) (s:Uf),admL t W r i u s=(shpL t W r i u&&stpL t W r i s)
 |[],_,_,_=>rfl
 |h::r,i,u,s=>by
  rw[QfI,Qd8,Qd5];cases((h != -1)&&badV t W u i h)with
  |true=>rfl
  |false=>
  simp only[Vp];by_cases hL:W.Last<(i:Int)
  .rw[Qx hL,Vo,Vo,Qgi t W r,QlX t W r (i+1) s (by omega)]
  .rw[Qy hL,Vp,Vp];cases(stepV t s (i:Int) h).2 with
   |false=>simp
   |true=>
    simp only[Xg,Vp];exact Qgi t W r _ _ _
theorem Qnz(l:List Int)(x:Int)(m:l.length<=1048576):Ev (λn=>F_eu n l x) (inV l x):=by
 have f:∀(r:List Int) (i:Nat),l.drop i=r->i<=l.length->EvI (λn=>F_gv n l x) (i:Int) (bif decide (0<=firstI (λy=>x==y) r i)then Ctl.done true else Ctl.cont ()):=by
  intro r
  induction r with
  |nil=>
   intro i g h;refine Ej ?_;unfold F_gv;simp only[QJ g h,Vp];exact Qa _
  |cons y r k=>
   intro i g h;obtain⟨a,d⟩:=Qv (by omega) g;have j:=a.lt';unfold firstI;have eq:(y==x)=(x==y):=by rw[XY,Vx,Vx];exact eq_comm
   cases e:(x==y)with
   |true=>
    refine Ej ?_;unfold F_gv;simp only[a.lt,Vo,a.ix,XJ,eq,e,Qx (show(0:Int)<=(i:Int)by omega)];exact Qa _
   |false=>
    refine Ex ?_ (k (i+1) d (by omega));unfold F_gv;simp only[a.lt,Vo,a.ix,XJ,eq,e,Vp,a.nx];exact Qa _
 unfold F_eu inV;refine Ea (f l 0 rfl (XU _)).ev ?_;cases decide (0<=firstI (λy=>x==y) l 0)<;>exact Qa _
theorem QeF(W:Way)(H:List Hit)(j:W.Hits.length<=1048576)(m:H.length<=1048576):Ev (λn=>F_bj n H W) (strL W H 0 0):=by
 have e:∀(r:List Hit) (i:Nat) (a:Int),H.drop i=r->i<=H.length->EvI (λn=>F_jw n H W) (a,(i:Int)) (strL W r i a):=by
  intro r
  induction r with
  |nil=>
   intro i a f h;refine Ej ?_;unfold F_jw;simp only[QJ f h,Vp];exact Qa _
  |cons y r l=>
   intro i a f h;obtain⟨g,d⟩:=Qv (by omega) f;have k:=g.lt';refine Ex ?_ (l (i+1) _ d (by omega));unfold F_jw;simp only[g.lt,Vo,g.nx];refine Ea (Qnz W.Hits (i:Int) j) ?_;cases inV W.Hits (i:Int)<;>exact Qa _
 unfold F_bj;exact Ea (e H 0 0 rfl (XU _)).ev (Qa _)
def shapeV(t:Task)(W:Way):Bool:=bif (((W.Hits.length:Int) != (t.r.length:Int))||(decide (W.Last< -1)||decide ((t.r.length:Int)<=W.Last)))then false else bif shpL t W W.Hits 0 []then !decide (W.Last<t.hi)else false
theorem QnG(W:Way)(i:Nat)(hi:i<W.Hits.length)(l:W.Hits.length<=1048576)(h:Int):Ev (λn=>iter (F_do n W (i:Int) h) n 0) (bif (W.Hits.take i).any (λy=>y==h)then Ctl.done (.done (.done (.done false)))else Ctl.cont ()):=by
 have a:∀(m j:Nat),j+m=i->EvI (λn=>F_do n W (i:Int) h) (j:Int) (bif ((W.Hits.take i).drop j).any (λy=>y==h)then Ctl.done (.done (.done (.done false)))else Ctl.cont ()):=by
  intro m
  induction m with
  |zero=>
   intro j k;have:j=i:=by omega
   subst this;refine Ej ?_;unfold F_do;rw[List.drop_eq_nil_of_le (by simp;omega)];simp only[Qy (show¬(j:Int)<(j:Int)by omega),Vp];exact Qa _
  |succ m g=>
   intro j k;have d:W.Hits[j]?=some (W.Hits[j]'(by omega)):=XK (by omega);have f:(W.Hits.take i).drop j=(W.Hits[j]'(by omega))::(W.Hits.take i).drop (j+1):=by
    rw[Xp (by simp;omega)];simp
   rw[f,List.any_cons];cases e:((W.Hits[j]'(by omega))==h)with
   |true=>
    refine Ej ?_;unfold F_do;simp only[Qx (show(j:Int)<(i:Int)by omega),Vo,Qo d,XJ,e,Bool.true_or];exact Qa _
   |false=>
    refine Ex ?_ (g (j+1) (by omega));unfold F_do;simp only[Qx (show(j:Int)<(i:Int)by omega),Vo,Qo d,XJ,e,Vp];rw[QU (by omega)];exact Qa _
 have:=a i 0 (by omega);simpa using this.ev
theorem Qjo{t:Task}{l:List Hand}(ok:TaskOk t)(O:t.hi=(hndV l).2)(hl:l.length<=1048576){W:Way}(hW:W.Hits.length<=1048576):Ev (λn=>F_em n (inpV t l) W) (shapeV t W):=by
 have rl:=ok.rl;unfold F_em shapeV;refine Ea (v:=(((W.Hits.length:Int) != (t.r.length:Int))||(decide (W.Last< -1)||decide ((t.r.length:Int)<=W.Last)))) (Qh λ_=>Qh λ_=>Qa _) ?_;cases R:(((W.Hits.length:Int) != (t.r.length:Int))||(decide (W.Last< -1)||decide ((t.r.length:Int)<=W.Last)))with
 |true=>exact Qa _
 |false=>
 simp only[XX,decide_eq_false_iff_not]at R;obtain⟨f,b1,b2⟩:=R;have f:W.Hits.length=t.r.length:=by have:=f;simp[bne]at this;omega
 simp only[Vp];have N:∀(r:List Int) (i:Nat) (u:List (Int×Bool)),W.Hits.drop i=r->i<=W.Hits.length->(∀q,0<=q->QA u q false=(W.Hits.take i).any (λy=>y==q))->EvI (λn=>F_cj n (inpV t l) W) (i:Int) (bif shpL t W r i u then Ctl.cont ()else Ctl.done false):=by
  intro r
  induction r with
  |nil=>
   intro i u J hi _;have Y:W.Hits.length<=i:=Xq.1 J;refine Ej ?_;unfold F_cj;rw[Qy (show¬(i:Int)<((inpV t l).route.length:Int)by show¬(i:Int)<(t.r.length:Int);omega)];exact Qa _
  |cons h r T=>
   intro i u J hi G;obtain⟨a,x⟩:=Qv (by omega) J;have aa:=a.lt';have s:t.r[i]?=some (t.r[i]'(by omega)):=XK (by omega);have w:∀q,(W.Hits.take (i+1)).any (λy=>y==q)=((W.Hits.take i).any (λy=>y==q)||(h==q)):=by
    intro q;rw[List.take_add_one,a.get];simp
   have B:(decide ((i:Int)<((inpV t l).route.length:Int)))=true:=Qx (by show(i:Int)<(t.r.length:Int);omega);rw[Qd8];by_cases k:h= -1
   .subst k;refine Ex ?_ (T (i+1) u x (by omega) (λq M=>by rw[w,G q M,show((-1:Int)==q)=false from beq_false_of_ne (by omega),Bool.or_false]));unfold F_cj;rw[B];simp only[Vo,a.ix,XJ,a.nx];exact Ea (v:=Ctl.cont ()) (Qa _) (Qa _)
   .have hn:(h != -1)=true:=by simpa[bne]using k
    have j:(h== -1)=false:=beq_false_of_ne k;rw[hn,Vz];simp only[Vo];have d:Ev (λn=>(bif decide (h<0)then some true else(bif decide (((inpV t l).hits.length:Int)<=h)then some true else(idx (inpV t l).hits h).bind λm=>(idx (inpV t l).route (i:Int)).bind λp=>(bif (m.Mat != p)then some true else some (decide (W.Last<(i:Int))))):Option Bool)) (decide (h<0)||(decide ((t.H.length:Int)<=h)||((((t.H[h.toNat]?).map (·.Mat)).getD 0 != (t.r[i]?).getD 0)||decide (W.Last<(i:Int))))):=by
     refine Qh λV=>Qh λX=>?_;have V:=Vv V;have X:¬(t.H.length:Int)<=h:=Vv X;obtain⟨y,y1,y2⟩:=Qad (l:=t.H) (h:=h) (by omega) (by omega);rw[y1,s];refine Qu y2 (Qu (Qo s) ?_);exact Qh λ_=>Qa _
    have split:badV t W u i h=((decide (h<0)||(decide ((t.H.length:Int)<=h)||((((t.H[h.toNat]?).map (·.Mat)).getD 0 != (t.r[i]?).getD 0)||decide (W.Last<(i:Int)))))||QA u h false):=by
     unfold badV;cases decide (h<0)<;>cases decide ((t.H.length:Int)<=h)<;>cases(((t.H[h.toNat]?).map (·.Mat)).getD 0 != (t.r[i]?).getD 0)<;>cases decide (W.Last<(i:Int))<;>cases QA u h false<;>rfl
    rw[split];cases F:(decide (h<0)||(decide ((t.H.length:Int)<=h)||((((t.H[h.toNat]?).map (·.Mat)).getD 0 != (t.r[i]?).getD 0)||decide (W.Last<(i:Int)))))with
    |true=>
     rw[F]at d;refine Ej ?_;unfold F_cj;rw[B];simp only[Vo,a.ix,XJ,j,Vp];exact Ea (v:=Ctl.done (.done (.done false))) (Ea d (QaP (Qa _))) (Qa _)
    |false=>
     rw[F]at d;simp only[XX,decide_eq_false_iff_not]at F;have h0:0<=h:=by omega
     rw[Bool.false_or,G h h0];have E:=QnG W i (by omega) hW h;cases P:(W.Hits.take i).any (λy=>y==h)with
     |true=>
      rw[P,Vo]at E;refine Ej ?_;unfold F_cj;rw[B];simp only[Vo,a.ix,XJ,j,Vp];exact Ea (v:=Ctl.done (.done (.done false))) (Ea d (Qt (Ea E (Qa _)))) (Qa _)
     |false=>
      rw[P,Vp]at E;refine Ex ?_ (T (i+1) (Q2 u h true) x (by omega) (λq M=>?_))
      .unfold F_cj;rw[B];simp only[Vo,a.ix,XJ,j,Vp,a.nx];exact Ea (v:=Ctl.cont ()) (Ea d (Qt (Ea E (Qa _)))) (Qa _)
      .rw[w, <- G q M];unfold QA;rw[Qb3];by_cases e:q=h
       .subst e;simp
       .rw[Vr e,show(h==q)=false from beq_false_of_ne λz=>e z.symm,Bool.or_false]
 have g:=(N W.Hits 0 [] rfl (XU _) (λq _=>rfl)).ev;cases Q:shpL t W W.Hits 0 []with
 |false=>
  rw[Q]at g;exact Ea g (Qa _)
 |true=>
  rw[Q]at g;refine Ea g ?_;have hands:Ev (λn=>iter (F_iz n (inpV t l) W) n 0) (bif l.all (λh=> !decide (W.Last<h.Position))then Ctl.cont ()else Ctl.done false):=by
   refine Q9 l (λh=> !decide (W.Last<h.Position)) (Ctl.done false) (Ctl.cont ()) (by omega) (λi y a=>?_) ?_
   .unfold F_iz;rw[show(inpV t l).hands=l from rfl];simp only[a.lt,Vo,a.ix,XJ,a.nx];cases decide (W.Last<y.Position)<;>exact Qa _
   .unfold F_iz;rw[show(inpV t l).hands=l from rfl];simp only[Qao,Vp];exact Qa _
  have eh:l.all (λh=> !decide (W.Last<h.Position))= !decide (W.Last<t.hi):=by
   rw[XY,Xs];simp only[Bool.not_eq_true',decide_eq_false_iff_not];rw[O];have:=QkG l W.Last;constructor
   .intro h;have:=this.2 ⟨by omega,λy L=>by have:=h y L;omega⟩;omega
   .intro h y L;have:=(this.1 (by omega)).2 y L;omega
  rw[eh]at hands;refine Ea hands ?_;cases decide (W.Last<t.hi)<;>exact Qa _
set_option maxRecDepth 10000
section
variable {c:Course} {k:Clocks} {s:Starter} {e:Int} {x:List Hit} {l:List Hand} {t:Task}
theorem Qk0(g:TaskIs c k s e x l t)(q:Ev (λn=>F_c n c) (courseE c))(kw:ClkW k){y:Ud}(hx:t.seg y){a b:Int}(T:isT a)(Q:isT b)(aa:a<=b):∃er,Ev (λn=>F_ax n t.c t.k y.segment {Lo:=a,Hi:=b}) (trueV t.c t.k y.segment a b,er):=by
 have ok:=g.ok;have B:t.c=c:=by rw[g.is];rfl
 have E:t.k=k:=by rw[g.is];rfl
 obtain⟨j,j1,j2⟩:=hx;have hs:=ok.clk.dims.segs;have start:∀{v:Span×Int},Ev (λn=>(bif (y.segment==(-1))then some ({Lo:=a,Hi:=i64.wrap (b+t.c.Faults.Residual):Span},0)else(idx t.k.Segments y.segment).bind λf=>(F_az n t.c f.Mat).bind λH=>(bif (!H)then some ({Lo:=0,Hi:=0:Span},1)else(F_ad n t.c f a).bind λL=>(idx t.k.Far (i64.wrap (y.segment+1))).bind λG=>(idx G 0).bind λM=>(F_ad n t.c f b).bind λO=>(idx t.k.Far 0).bind λF=>(idx F (i64.wrap (y.segment+1))).bind λN=>some ({Lo:=i64.wrap ((i64.wrap (a+L.Lo))-M),Hi:=i64.wrap ((i64.wrap (b+O.Hi))+N):Span},0)):Option (Span×Int))) v->Ev (λn=>F_ax n t.c t.k y.segment {Lo:=a,Hi:=b}) v:=by
  intro v X;have rf:Ev (λn=>F_c n t.c) 0:=by rw[B];rw[g.cE]at q;exact q
  have ck:Ev (λn=>F_bf n t.k) 0:=by
   have:=QiH k kw;rw[g.clk]at this;rw[E];exact this
  unfold F_ax;refine Ea rf (Ea (v:=0) (QaP (Ea ck (Qa _))) (Qt (Ea (v:=false) ?_ (Qt X))));refine YZ (Qy (by omega)) (YZ (Qy (by omega)) (Ea (Qbq a) ?_));rw[timeI.2 T];refine Qt (Ea (Qbq b) ?_);rw[timeI.2 Q];exact Qt ((Qa _).eq (Qy (by show¬b<a;omega)))
 unfold trueV;by_cases d:y.segment<0
 .rw[Qx d];exact⟨_,start (YY (by rw[Vx];omega) (Qa _))⟩
 rw[Qy d];simp only[Vp];have r:(y.segment== -1)=false:=beq_false_of_ne (by omega);obtain⟨p,V,R⟩:=Qad (l:=t.k.Segments) (h:=y.segment) (by omega) (by omega);rw[V];simp only;cases J:matB t.c p.Mat with
 |false=>exact⟨_,start (YZ r (Qu R (Ea ((Qdi t.c p.Mat).eq J) (YY rfl (Qa _)))))⟩
 |true=>
  obtain⟨i,m,z,u⟩:=Qkx J;have W:kindAt t.c p.Mat=m.Kind:=by unfold kindAt;rw[z,Int.toNat_natCast,u];rfl
  have P:=ok.clk.anc p (VG V);obtain⟨g1,g2⟩:=ok.clk.dims.get (i:=y.segment.toNat+1) (j:=0) (by omega) (by omega);obtain⟨Y,g4⟩:=ok.clk.dims.get (i:=0) (j:=y.segment.toNat+1) (by omega) (by omega);have w:i64.wrap (y.segment+1)=((y.segment.toNat+1:Nat):Int):=by rw[Qq (by omega) (by omega)];omega
  refine⟨0,start (YZ r (Qu R (Ea ((Qdi t.c p.Mat).eq J) (YZ rfl (Ea (Qdj ok.crs u z P T) (Qu (v:=t.k.Far[y.segment.toNat+1]?.getD []) (by rw[w];exact Qo g1) (Qu (v:=farG t.k (y.segment.toNat+1) 0) (Qo (i:=0) g2) (Ea (Qdj ok.crs u z P Q) (Qu (v:=t.k.Far[0]?.getD []) (Qo (i:=0) Y) (Qu (v:=farG t.k 0 (y.segment.toNat+1)) (by rw[w];exact Qo g4) ?_))))))))))⟩;rw[W];exact Qa _
theorem QkY(u:TaskIs c k s e x l t)(Q:Ev (λn=>F_c n c) (courseE c))(gd:courseE c=0->Good c)(kw:ClkW k)(h8:t.r.length<=8)(hl:l.length<=1048576){W:Way}(hits:∀h∈W.Hits,hitI t h)(ax:W.Hits.length=t.r.length)(a0:W.Last<(t.r.length:Int)):
  ∀(r:List Int) (i:Nat) (d:Uf),W.Hits.drop i=r->i<=W.Hits.length->InvK t W i d->0<=d.row->d.row<=(i:Int)->EvI (λn=>F_at n (inpV t l) W) (d.row,d.last,(i:Int)) (bif stpL t W r i d then Ctl.cont ()else Ctl.done false):=by
 have ok:=u.ok;have aq:t.c=c:=by rw[u.is];rfl
 have ac:t.k=k:=by rw[u.is];rfl
 have hH:t.H=x:=by rw[u.is];rfl
 have hm:t.m=(hndV l).1:=by rw[u.is];rfl
 have O:clkB t.k=true:=by rw[ac];exact u.clk
 have dm:=Qb6 O;have ay:=dm.segs;have hI:∀i:Nat,hitI t ((W.Hits[i]?).getD (-1)):=by
  intro i;cases e:W.Hits[i]? with
  |none=>exact .inl (by show(-1:Int)<0;omega)
  |some y=>exact hits y (VG e)
 intro r
 induction r with
 |nil=>
  intro i d hr hi _ _ _;have az:W.Hits.length<=i:=Xq.1 hr;refine Ej ?_;unfold F_at;simp only[Qy (show¬(i:Int)<=W.Last by omega),Vp];exact Qa _
 |cons h r ih=>
  intro i d hr hi hK h0 a2;obtain⟨R,an⟩:=Qv (by omega) hr;have ar:=R.lt';rw[Qd5];by_cases hL:W.Last<(i:Int)
  .rw[Qx hL];refine Ej ?_;unfold F_at;simp only[Qy (show¬(i:Int)<=W.Last by omega),Vp];exact Qa _
  rw[Qy hL,Vp];have ah:kv t W i=knownV t (i:Int) h:=by unfold kv;rw[R.get];rfl
  have N:=QcM u Q hl hits (i:=i) ar;have go:decide ((i:Int)<=W.Last)=true:=Qx (by omega);unfold stepV;rw[<- ah];cases V:(kv t W i).2 with
  |false=>
   rw[V]at N;simp only[Vp]at N;simp only[Xh,Vo];have w:i64.wrap (d.row+1)=d.row+1:=Qq (by omega) (by omega);by_cases hM:d.row+1<=t.c.Faults.Misses
   .rw[Qx hM];simp only[Xg,Vp];refine Ex ?_ (ih (i+1) {d with row:=d.row+1} an (by omega) ?_ (by show 0<=d.row+1;omega) (by show d.row+1<=_;omega))
    .unfold F_at;simp only[go,Vo];refine Ea (v:=Ctl.cont (d.row+1,d.last)) (Ea N (YY rfl ?_)) ?_
     .rw[w];exact YZ (Qy (by show¬t.c.Faults.Misses<d.row+1;omega)) (Qa _)
     .simp only[R.nx];exact Qa _
    .rcases hK with⟨i1,X⟩|⟨F,i1,X,i3,i4,i5⟩
     .exact .inl ⟨i1,λj hj=>(VB j i).elim (X j) λz=>(show i=j by omega)▸V⟩
     .exact .inr ⟨F,by omega,X,i3,i4,λj h1 hj=>(VB j i).elim (i5 j h1) λz=>(show i=j by omega)▸V⟩
   .rw[Qy hM];simp only[Xh,Vo,Vp];refine Ej ?_;unfold F_at;simp only[go,Vo];refine Ea (v:=Ctl.done (.done (.done false))) (Ea N (YY rfl ?_)) (Qa _);rw[w];exact YY (Qx (by show t.c.Faults.Misses<d.row+1;omega)) (Qa _)
  |true=>
   rw[V]at N;simp only[Vo]at N;simp only[Xg,Vp];obtain⟨z1,z2,z3⟩:=Qem u (hI i) V;obtain⟨jb,eb,lb⟩:=Qb4 ok (hI i) V;have q:Ev (λn=>((bif decide (0<=d.last)then(F_av n (inpV t l) W d.last).bind λf=>(idx (inpV t l).k.Far (i64.wrap ((kv t W i).1.segment+1))).bind λaf=>(idx af (i64.wrap (f.1+1))).bind λG=>(idx (inpV t l).k.Far (i64.wrap (f.1+1))).bind λai=>(idx ai (i64.wrap ((kv t W i).1.segment+1))).bind λB=>(idx (inpV t l).between d.last).bind λad=>(idx ad (i:Int)).bind λg=>(F_bl n ({Lo:=i64.wrap ((i64.wrap ((kv t W i).1.span.Lo-f.2.1.Hi))-G),Hi:=i64.wrap ((i64.wrap ((kv t W i).1.span.Hi-f.2.1.Lo))+B):Span}) ({Lo:=g.Lo,Hi:=g.Hi:Span})).bind λaw=>(bif (!(decide ((if(i64.wrap ((i64.wrap ((kv t W i).1.span.Lo-f.2.1.Hi))-G))<g.Lo then g.Lo else(i64.wrap ((i64.wrap ((kv t W i).1.span.Lo-f.2.1.Hi))-G)))<=(if g.Hi<(i64.wrap ((i64.wrap ((kv t W i).1.span.Hi-f.2.1.Lo))+B))then g.Hi else(i64.wrap ((i64.wrap ((kv t W i).1.span.Hi-f.2.1.Lo))+B))))))then some (.done (.done (.done (.done false))))else some (.cont ()))else some (.cont ())):Option (Ctl Unit (Ctl (Int×Int) (Ctl (Int×Int×Int) (Ctl Unit Bool))))))
     (bif decide (0<=d.last)&& !followsV t d.when d.last (kv t W i).1 (i:Int)then .done (.done (.done (.done false)))else .cont ()):=by
    rcases hK with⟨i1,X⟩|⟨F,i1,X,i3,i4,i5⟩
    .rw[i1];exact Qa _
    .rw[X,i4,Qx (show(0:Int)<=(F:Int)by omega),Vz];obtain⟨y1,y2,y3⟩:=Qem u (hI F) i3;obtain⟨ja,ea,la⟩:=Qb4 ok (hI F) i3;have ca:=QcM u Q hl hits (i:=F) (by omega);rw[i3]at ca;simp only[Vo]at ca;change (kv t W F).1.segment+1=(ja:Int)at ea;change (kv t W i).1.segment+1=(jb:Int)at eb;have D:=QmD O (a:=(kv t W F).1) (b:=(kv t W i).1) ea la eb lb y1 y2 y3 z1 z2 z3;have bv:betV t F i=needV t (F:Int) (i:Int):=by
      unfold betV;rw[Vr (by omega),Vs i1]
     obtain⟨b1,b2⟩:=QmE t (i:=F) (j:=i) (by omega) (by omega);obtain⟨g1,g2⟩:=dm.get lb la;obtain⟨g3,g4⟩:=dm.get la lb;unfold followsV;rw[D, <- bv];refine QaP (Ea ca ?_);rw[ea,eb,Qq (n:=(ja:Int)) (by omega) (by omega),Qq (n:=(jb:Int)) (by omega) (by omega)];refine Qu (Qo g1) (Qu (Qo g2) (Qu (Qo g3) (Qu (Qo g4) (Qu b1 (Qu b2 ?_)))));refine Ea (v:=()) (Qa _) ?_;unfold meetV;refine Qah (λ_=>Qa _) λ_=>Qa _
   have T:=Qg8 (inpV t l) hl (i:Int);rw[show(inpV t l).hands=l from rfl]at T;have gm:Y3 t.m (i:Int)=(l.find? λh=>h.Position==(i:Int)).map λh=>{segment:= -1,span:={Lo:=h.Lo,Hi:=h.Hi}}:=by rw[hm];exact QcJ l _
   have au:∀L:Hand×Bool,(match l.find? (λh=>h.Position==(i:Int))with|some h=>(h,true)|none=>(Uq,false))=L->∃E,Ev (λn=>(bif L.2 then(idx W.Hits (i:Int)).bind λab=>some (decide (0<=ab))else some false:Option Bool)) E/\Ev (λn=>((bif E then(idx W.Hits (i:Int)).bind λak=>(idx (inpV t l).hits ak).bind λJ=>(F_n n (inpV t l) J).bind λae=>(F_ax n (inpV t l).c (inpV t l).k ae ({Lo:=J.First,Hi:=J.Last:Span})).bind λp=>(F_bl n ({Lo:=p.1.Lo,Hi:=p.1.Hi:Span}) ({Lo:=L.1.Lo,Hi:=L.1.Hi:Span})).bind λav=>(bif (!(decide ((if p.1.Lo<L.1.Lo then L.1.Lo else p.1.Lo)<=(if L.1.Hi<p.1.Hi then L.1.Hi else p.1.Hi))))then some (.done (.done (.done (.done false))))else some (.cont ()))else some (.cont ())):Option (Ctl Unit (Ctl (Int×Int) (Ctl (Int×Int×Int) (Ctl Unit Bool))))))
     (bif decide (0<=h)&& !agreeV t h (i:Int)then .done (.done (.done (.done false)))else .cont ()):=by
    intro L M;unfold agreeV;unfold QA;rw[QaL,gm];cases hf:l.find? (λh=>h.Position==(i:Int))with
    |none=>
     rw[hf]at M;subst M;refine⟨false,Qa _,(Qa _).eq ?_⟩;simp
    |some h'=>
     rw[hf]at M;subst M;refine⟨decide (0<=h),QaP (Qu R.ix (Qa _)),?_⟩;by_cases P:0<=h
     .rw[Qx P,Vz];have am:=hI i;rw[R.get,Option.getD_some]at am;have al:h.toNat<t.H.length:=by rcases am with z|z<;>omega
      obtain⟨y,y1,y2⟩:=Qad (l:=t.H) P al;obtain⟨_,T2⟩:=QbD u.tm;obtain⟨z,ao,aj⟩:=T2 _ _ (by rw[<- hH];exact y1);rw[y1,ao];rw[<- aq, <- ac]at aj;have hy:=ok.hit _ _ y1;have sg:=QeG (inpV t l) (by show t.k.Segments.length<=_;omega) hy aj;obtain⟨er,tr⟩:=Qk0 u Q kw (ok.sg z (VG ao)) hy.fi hy.la hy.le;refine QaP (Qu R.ix (Qu y2 (Ea sg (Ea tr (Ea (v:=()) (Qa _) ?_)))));simp only[Xj,Option.isSome_some,Xg,Vp,Option.getD_some];unfold meetV;exact Qah (λ_=>Qa _) λ_=>Qa _
     .rw[Qy P];exact Qa _
   have aa:stopV t d (i:Int) h=((decide (0<=h)&& !agreeV t h (i:Int))||(decide (0<=d.last)&& !followsV t d.when d.last (kv t W i).1 (i:Int))):=by
    unfold stopV;rw[<- ah]
   rw[aa];cases eA:(decide (0<=d.last)&& !followsV t d.when d.last (kv t W i).1 (i:Int))with
   |true=>
    rw[eA]at q;simp only[Vo]at q;simp only[Bool.or_true,Vo,Xh,Vp];refine Ej ?_;unfold F_at;simp only[go,Vo];refine Ea (v:=Ctl.done (.done (.done false))) (Ea N (YZ rfl (Ea q (Qa _)))) (Qa _)
   |false=>
    rw[eA]at q;simp only[Vp]at q;rw[Bool.or_false];obtain⟨E,a1,Y⟩:=au _ rfl;cases eB:(decide (0<=h)&& !agreeV t h (i:Int))with
    |true=>
     rw[eB]at Y;simp only[Vo]at Y;simp only[Vo,Xh,Vp];refine Ej ?_;unfold F_at;simp only[go,Vo];refine Ea (v:=Ctl.done (.done (.done false))) (Ea N (YZ rfl (Ea q (Ea T (Ea a1 (Ea Y (Qa _))))))) (Qa _)
    |false=>
     rw[eB]at Y;simp only[Vp]at Y;simp only[Vp,Xg];refine Ex ?_ (ih (i+1) {last:=(i:Int),when:=(kv t W i).1,row:=0} an (by omega) (.inr ⟨i,by omega,rfl,V,rfl,λj h1 h2=>by omega⟩) (by show(0:Int)<=0;omega) (by show(0:Int)<=_;omega));unfold F_at;simp only[go,Vo];refine Ea (v:=Ctl.cont (0,(i:Int))) (Ea N (YZ rfl (Ea q (Ea T (Ea a1 (Ea Y (Qa _))))))) ?_;simp only[R.nx];exact Qa _
theorem Qmt(B:TaskIs c k s e x l t)(p:Ev (λn=>F_c n c) (courseE c))(N:courseE c=0->Good c)(P:ClkW k)(G:t.r.length<=8)(hl:l.length<=1048576){W:Way}(F:W.Hits.length<=1048576):Ev (λn=>F_cz n (inpV t l) W) (admV t W):=by
 have ok:=B.ok;have z:t.hi=(hndV l).2:=by rw[B.is];rfl
 have L:=Qjo ok z hl F;have M:=QeF W t.H F (by have:=ok.hl;omega);unfold F_cz;have O:admV t W=bif !shapeV t W||decide (t.c.Faults.Strays<strL W t.H 0 0)then false else stpL t W W.Hits 0 s0V:=by
  unfold admV admB shapeV;rw[Qgi];cases((W.Hits.length:Int) != (t.r.length:Int))<;>cases decide (W.Last< -1)<;>cases decide ((t.r.length:Int)<=W.Last)<;>cases decide (W.Last<t.hi)<;>cases decide (t.c.Faults.Strays<strL W t.H 0 0)<;>cases shpL t W W.Hits 0 []<;>rfl
 rw[O];refine Ea (v:= !shapeV t W||decide (t.c.Faults.Strays<strL W t.H 0 0)) ?_ ?_
 .refine Ea L ?_;exact Qh λ_=>Ea M (Qa _)
 cases f:(!shapeV t W||decide (t.c.Faults.Strays<strL W t.H 0 0))with
 |true=>exact Qa _
 |false=>
 simp only[XX,Bool.not_eq_false']at f;obtain⟨d,_⟩:=f;unfold shapeV at d;cases m:(((W.Hits.length:Int) != (t.r.length:Int))||(decide (W.Last< -1)||decide ((t.r.length:Int)<=W.Last)))with
 |true=>rw[m]at d;cases d
 |false=>
 rw[m,Vp]at d;simp only[XX,decide_eq_false_iff_not]at m;obtain⟨a,Q,R⟩:=m;have a:W.Hits.length=t.r.length:=by have:=a;simp[bne]at this;omega
 have j:∀h∈W.Hits,hitI t h:=by
  cases E:shpL t W W.Hits 0 []with
  |false=>rw[E]at d;cases d
  |true=>
  have w:∀(r:List Int) (i:Nat) (u:List (Int×Bool)),shpL t W r i u=true->∀h∈r,hitI t h:=by
   intro r
   induction r with
   |nil=>intro i u _ h g;cases g
   |cons y r J=>
    intro i u q h g;rw[Qd8]at q;cases f:((y != -1)&&badV t W u i y)with
    |true=>rw[f]at q;cases q
    |false=>
     rw[f,Vp]at q;rcases X6.1 g with rfl|g
     .exact(Qes f).1
     .exact J _ _ q h g
  exact w _ _ _ E
 have lp:=(QkY B p N P G hl j a (by omega) W.Hits 0 s0V rfl (XU _) (inv0 t W) (by show(0:Int)<=0;omega) (by show(0:Int)<=0;omega)).ev;refine Qt (Ea lp ?_);cases stpL t W W.Hits 0 s0V<;>exact Qa _
theorem QhT(y:Ev (λn=>F_d n c) (courseE c))(a:Ev (λn=>F_c n c) (courseE c))(f:courseE c=0->Good c)(i:ClkW k)(j:x.length<=1000)(p:l.length<=1048576)(m:∀t,taskE c k s e x l=.inr t->t.r.length<=8){W:Way}(q:W.Hits.length<=1048576):Ev (λn=>F_cr n c k s e x l W) (chkV c k s e x l W):=by
 unfold F_cr chkV;refine Ea (Qk1 a f i s e x j l p) ?_;cases g:taskE c k s e x l with
 |inl v=>
  have:=Qgw g;exact YY (by simpa[errV,bne]using this) (Qa _)
 |inr t=>
  have d:=QfS y f i j g;have w:t.c=c:=by rw[d.is];rfl
  have z:t.k=k:=by rw[d.is];rfl
  have u:t.H=x:=by rw[d.is];rfl
  have h:=Qmt d a f i (m t g) p q;unfold inpV at h;rw[w,z,u]at h;refine Qt (Ea (Qg7 d a f (m t g)) (Ea h ?_));show Ev _ (bif admV t W then(0:Int)else 190);cases admV t W with
  |true=>exact YZ rfl (Qa _)
  |false=>exact YY rfl (Qa _)
end
end Go.Sw
