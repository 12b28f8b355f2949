/- The plain laws that a law needs, with no program in sight. -/
import Derived.Test.YthdhdobclejckaaGreatW19Ha
set_option linter.unusedVariables false
set_option linter.unusedSimpArgs false
namespace Go.Sw
open List(map)
open Int(toNat)
open Go.IntKind(i64 u64 u8)
def inR(lo hi x:Int):Bool:=decide (lo<=x)&&decide (x<=hi)
theorem Qfg(lo hi:Int)(l:List Int)(a:l.length<=4611686018427387904):Ev (λn=>F_a n lo hi l) (l.all (inR lo hi)):=by
 have h:Ev (λn=>F_do n l lo hi) (l.any λx=> !inR lo hi x):=by
  refine Ev.contains l _ (λn x=>F_gf n x lo hi) a λx _=>?_;refine Ea ((Qk λh=>Qa _).eq ?_) (Qa _);unfold inR
  grind
 refine Ea h ((Qa _).eq ?_)
 grind
def okN(c:Nat):Bool:=(decide (97<=c)&&decide (c<=122))||(decide (48<=c)&&decide (c<=57))||decide (c=95)
def okAN(c:Nat):Bool:=decide (97<=c)&&decide (c<=122)
def okC(c:UInt8):Bool:=okN c.toNat
def okA(c:UInt8):Bool:=okAN c.toNat
def kwL:List (List UInt8):=[[99,111,117,114,115,101],[109,97,116,115],[115,116,97,114,116],[112,97,115,115],[101,110,100],[108,101,103],[116,111],[100,105,115,116,97,110,99,101],[103,117,110],[99,104,105,112],[115,108,111,116],[108,97,112,115],[108,97,112],[99,117,116,111,102,102],[101,120,116,114,97],[119,97,118,101],[111,102,102,101,110,99,101],[111,117,116],[99,97,116,101,103,111,114,121],[112,114,105,122,101],[97,108,108],[116,105,101,115],[105,102],[101,108,115,101],[97,110,100],[111,114],[110,111,116],[111,108,100,101,114],[121,111,117,110,103,101,114],[98,105,98],[100,114,97,119],[102,105,101,108,100],[115,104,111,114,116],[102,97,117,108,116,115],[109,105,115,115,101,115],[115,116,114,97,121,115],[119,105,110,100,111,119],[114,101,115,105,100,117,97,108],[100,114,105,102,116],[112,114,111,116,101,115,116],[102,101,101],[100,101,97,100,108,105,110,101]]
theorem QkK(c d:Bool):(bif c then some c else some d)=some (c||d):=by grind
theorem Qik(c d:Bool):(bif c then some true else some d)=some (c||d):=by grind
theorem QeR(n:Nat)(s:List UInt8):F_df n s=some (kwL.contains s):=by
 unfold F_df;simp only[QkK,Qik,XI];simp only[kwL,List.contains_cons,List.contains_nil,Bool.or_assoc]
def kwsOf:List UInt8->List (List UInt8)
 |[]=>[]
 |b::l=>(bif b==32&& !(l.dropWhile λc=>c != 32).isEmpty then[l.takeWhile λc=>c != 32]else[])++kwsOf l
theorem Qdh:∀(l s:List UInt8),(∀c∈s,c≠32)->(s++[32]).isPrefixOf l=((l.takeWhile λc=>c != 32)==s&& !(l.dropWhile λc=>c != 32).isEmpty)
 |[],s,h=>by simp
 |b::l,[],h=>by
  by_cases e:b=32
  .subst e;simp
  .have e1:=by simpa using e
   have a:(32==b)=false:=by grind
   simp[List.isPrefixOf,e1,a]
 |b::l,c::s,h=>by
  have f:=h c (by simp);have d:=Qdh l s (by grind)
  grind[List.takeWhile_cons,List.dropWhile_cons]
theorem contains_cons(b:UInt8)(l t:List UInt8)(a:t≠[]):Lib.contains (b::l) t=(t.isPrefixOf (b::l)||Lib.contains l t):=by
 unfold Lib.contains;rw[show Lib.index (b::l) t=if t.isPrefixOf (b::l)then 0 else if Lib.index l t== -1 then-1 else Lib.index l t+1 from rfl]
 grind
theorem QbG(s:List UInt8)(h:∀c∈s,c≠32):∀l,Lib.contains l (32::(s++[32]))=(kwsOf l).contains s
 |[]=>by rfl
 |b::l=>by
  rw[contains_cons b l _ (by simp),QbG s h l];simp only[kwsOf,List.isPrefixOf,Qdh l s h]
  grind
def wordsL:List UInt8:=[32,99,111,117,114,115,101,32,109,97,116,115,32,115,116,97,114,116,32,112,97,115,115,32,101,110,100,32,108,101,103,32,116,111,32,100,105,115,116,97,110,99,101,32,103,117,110,32,99,104,105,112,32,115,108,111,116,32,108,97,112,115,32,108,97,112,32,99,117,116,111,102,102,32,101,120,116,114,97,32,119,97,118,101,32,111,102,102,101,110,99,101,32,111,117,116,32,99,97,116,101,103,111,114,121,32,112,114,105,122,101,32,97,108,108,32,116,105,101,115,32,105,102,32,101,108,115,101,32,97,110,100,32,111,114,32,110,111,116,32,111,108,100,101,114,32,121,111,117,110,103,101,114,32,98,105,98,32,100,114,97,119,32,102,105,101,108,100,32,115,104,111,114,116,32,102,97,117,108,116,115,32,109,105,115,115,101,115,32,115,116,114,97,121,115,32,119,105,110,100,111,119,32,114,101,115,105,100,117,97,108,32,100,114,105,102,116,32,112,114,111,116,101,115,116,32,102,101,101,32,100,101,97,100,108,105,110,101,32]
theorem QmH:kwsOf wordsL=kwL:=by decide+kernel
def classTab:List Int:=(List.range 256).map λi=>if 97<=i/\i<=122\/65<=i/\i<=90 then 2 else if 48<=i/\i<=57 then 3 else if i∈[123,125,40,41,91,93,59,44,61,60,62]then 4 else if i∈[32,9,10,13]then 1 else 0
theorem Qhz:Ev F_dj classTab:=by
 unfold F_dj;refine Ea (QbW (step:=F_es 0) 40 (b:=(iter (F_es 0) 40 (List.replicate 256 0,97)).getD []) (by decide+kernel)) ?_;refine Ea (QbW (step:=F_gh 0) 40 (b:=(iter (F_gh 0) 40 ((iter (F_es 0) 40 (List.replicate 256 0,97)).getD [],48)).getD []) (by decide+kernel)) ?_;generalize hb:(iter (F_gh 0) 40 ((iter (F_es 0) 40 (List.replicate 256 0,97)).getD [],48)).getD []=b2;refine Ea (QbW (step:=F_in 0) 40 (b:=(iter (F_in 0) 40 (b2,0)).getD []) (by subst hb;decide+kernel)) ?_;refine Ea (QbW (step:=F_jb 0) 40 (b:=classTab) (by subst hb;decide+kernel)) ?_;exact EA (by decide+kernel)
theorem Qi8:((List.range 256).all λi=> !okN i||decide (classTab[i]?=some (if okAN i then 2 else if i=95 then 0 else 3)))=true:=by decide+kernel
theorem QkJ{c:UInt8}(h:okC c=true):Qec 256 classTab (c.toNat:Int)=some (if okA c then 2 else if c.toNat=95 then 0 else 3):=by
 have a:=Xs.1 Qi8 c.toNat (List.mem_range.2 c.toNat_lt);unfold okC at h;rw[h]at a;simp[Xg,Bool.false_or,Vo]at a;unfold Qec;rw[show Nat.beq classTab.length 256=true by decide+kernel,Vm,Qu a];rfl
def goodS(s:List UInt8):Bool:=decide (1<=s.length)&&decide (s.length<=24)&&(s.head?).any okA&&s.all okC
def isNameS(s:List UInt8):Bool:=goodS s&& !kwL.contains s
theorem QiV(s:List UInt8)(h:goodS s=true):Ev (λn=>F_dd n s) true:=by
 unfold goodS at h;simp only[XV,Vo,Xs]at h;obtain⟨⟨⟨d,j⟩,k⟩,f⟩:=h;unfold F_dd;refine Ea Qhz ?_;refine Qx (v:=List.replicate 256 0) (by decide+kernel) ?_;refine Qx (v:=classTab) (by decide+kernel) ?_;refine Ea (v:=Ctl.cont ()) (Ev.iter (λi=>(i:Int)) s.length rfl (λi e=>?_) ?_) ?_
 .have a:=Y5 (x:=s[i]) (by omega) (XJ e);have g:=f _ a.mem;unfold F_ja;simp only[a.lt,Vm,a.ix,XI,QkJ g,a.nx];cases i with
  |zero=>
   have:okA s[0]=true:=by
    cases s with
    |nil=>simp at d
    |cons c r=>grind
   simp[this];exact Qa _
  |succ i=>
   grind[Qa]
 .simp_all[F_ja,Qa]
 .refine EA ?_;cases s with
  |nil=>simp at d
  |cons c r=>rfl
theorem QiO{s:List UInt8}(h:goodS s=true):∀c∈s,c≠32:=by
 unfold goodS at h;simp[XV,Xs]at h;rintro c a rfl;exact absurd (h.2 _ a) (by decide)
theorem Qj8{s:List UInt8}(h:goodS s=true):s.length<=24:=by
 simp_all[goodS]
theorem QhA(s:List UInt8)(h:goodS s=true):Ev (λn=>F_fv n s) (kwL.contains s):=by
 refine Ea (Ea (QiV s h) (Qdx ?_)) (Qa _);have a:=Qj8 h;refine Qx (by unfold cat;rw[XR (by simp;omega)];rfl) (Qx (by unfold cat;rw[XR (by simp;omega)];rfl) ?_);refine Qx ?_ (Qa _);show Qee wordsL ([32]++s++[32])=some (kwL.contains s);unfold Qee;rw[show Nat.blt wordsL.length 4294967281=true by decide+kernel,Vm]
 grind[QbG,QiO,QmH]
theorem ch_lt(c:UInt8)(k:Nat):decide ((c.toNat:Int)<(k:Int))=decide (c.toNat<k):=by
 simp
theorem badC(c:UInt8):(bif decide ((c.toNat:Int)<97)then(bif decide ((c.toNat:Int)<48)then some ((c.toNat:Int) != 95)else(bif decide (57<(c.toNat:Int))then some ((c.toNat:Int) != 95)else some false))else(bif decide (122<(c.toNat:Int))then(bif decide ((c.toNat:Int)<48)then some ((c.toNat:Int) != 95)else(bif decide (57<(c.toNat:Int))then some ((c.toNat:Int) != 95)else some false))else some false))=some (!okC c):=by
 unfold okC okN;generalize c.toNat=k;have e:((k:Int) != 95)= !decide (k=95):=by
  grind
 grind
theorem Qe8(n:Nat)(s:List UInt8):(bif decide ((s.length:Int)<1)then some true else(bif decide (24<(s.length:Int))then some true else(idx s 0).bind λx10=>(bif decide ((x10.toNat:Int)<97)then some true else(idx s 0).bind λx12=>some (decide (122<(x12.toNat:Int))))))=some (!(decide (1<=s.length)&&decide (s.length<=24)&&(s.head?).any okA)):=by
 cases s with
 |nil=>rfl
 |cons c r=>
  by_cases h:(c::r).length<=24
  .rw[QH (show¬24<((c::r).length:Int)by omega),Vn];have f:idx (c::r) 0=some c:=rfl;simp[f,XI];simp[XZ]at h;have a:r.length<=23:=by omega
   simp[List.head?_cons,Option.any_some,okA,okAN];rw[show(97:Int)=(97:Nat)from rfl,ch_lt];by_cases d:c.toNat<97
   .grind
   .have e:97<=c.toNat:=by omega
    simp[d,e,a];by_cases q:c.toNat<=122
    iterate 2 grind
  grind
theorem Qfj(s:List UInt8)(h:s.length<=1048576):Ev (λn=>F_f n s) (isNameS s):=by
 refine Ea (EA (Qe8 0 s)) ?_;unfold isNameS;cases g:(decide (1<=s.length)&&decide (s.length<=24)&&(s.head?).any okA)with
 |false=>
  have:goodS s=false:=by unfold goodS;rw[g];rfl
  rw[this];exact Qa _
 |true=>
  have f:goodS s=s.all okC:=by unfold goodS;rw[g];rfl
  refine Ea (YW s (λc=> !okC c) (λi=>(i:Int)) (Ctl.done false) (Ctl.cont ()) (by omega) rfl (λi x a d=>?_) (λi x a d=>?_) ?_) ?_
  .unfold F_hs;simp only[a.lt,a.ix,XI,badC,d,a.nx];exact Qa _
  .unfold F_hs;simp only[a.lt,a.ix,XI,badC,d];exact Qa _
  .simp_all[F_hs,Qa]
  .rw[f];have e:s.any (λc=> !okC c)= !s.all okC:=by grind
   rw[e];cases q:s.all okC with
   |true=>
    exact Ea (QhA s (f.trans q)) (Qa _)
   |false=>
    exact Qa _
theorem Qbk(s:List UInt8)(j:s.length<=1048576):Ev (λn=>F_bm n s) (isNameS s):=by
 refine Ea (EA (Qe8 0 s)) ?_;unfold isNameS;cases a:(decide (1<=s.length)&&decide (s.length<=24)&&(s.head?).any okA)with
 |false=>
  have:goodS s=false:=by unfold goodS;rw[a];rfl
  rw[this];exact Qa _
 |true=>
  have f:goodS s=s.all okC:=by unfold goodS;rw[a];rfl
  cases s with
  |nil=>simp at a
  |cons c r=>
   have h:okC c=true:=by
    simp_all[okA,okC,okN,okAN]
   have hr:=by
    simp[XV,Vo,XZ]at a;omega
   have k:∀(i:Nat) (x:UInt8),At r i x->decide (((i+1:Nat):Int)<(c::r).length)=true/\idx (c::r) (i+1:Nat)=some x/\i64.wrap ((i+1:Nat)+1)=i+1+1:=by
    intro i x d;have:=d.lt';exact⟨Vr (by simp;omega),Qu (by simpa using d.get),Yd (by omega)⟩
   refine Ea (YW r (λc=> !okC c) (λi=>((i+1:Nat):Int)) (Ctl.done false) (Ctl.cont ()) (by omega) rfl (λi x d g=>?_) (λi x d g=>?_) ?_) ?_
   iterate 2 grind[F_gu,badC,Qa]
   .unfold F_gu;rw[QH (by simp),Vn];exact Qa _
   .rw[f];have e:r.any (λc=> !okC c)= !(c::r).all okC:=by rw[List.all_cons,h,Vv,List.not_all_eq_any_not]
    rw[e];cases q:(c::r).all okC with
    |true=>
     exact Ea (EA (QeR 0 _)) (Qa _)
    |false=>
     exact Qa _
def diffS:List (List UInt8)->List (List UInt8)->Bool
 |_,[]=>true
 |seen,x::r=>isNameS x&& !seen.contains x&&diffS (seen++[x]) r
theorem Qez(l:List (List UInt8))(i:Nat)(x:List UInt8)(h:At l i x):diffS (l.take i) (l.drop i)=(isNameS x&& !(l.take i).contains x&&diffS (l.take (i+1)) (l.drop (i+1))):=by
 rw[h.drop,h.take];rfl
theorem QbE{α:Type}(l:List α)(a:α->List UInt8)(g:Nat->α->Option Unit)(hg:∀n x,g n x=some ())(p:l.length<=1048576)(m:∀x∈l,(a x).length<=1048576):
  Ev (λn=>((iter (λs:(List (List UInt8×Bool))×Int=>bif decide (s.2<(l.length:Int))then(idx l s.2).bind λx35=>(g n x35).bind λr36=>((F_f n (a x35)).bind λr42=>(bif (!r42)then some true else(some (QA s.1 (a x35) false)).bind λv44=>some v44):Option Bool).bind λb40=>(bif b40 then some (.done (.done false))else(some (QY s.1 (a x35) true)).bind λm46=>some (.cont (m46,i64.wrap (s.2+1))))else some (.done (.cont ()))) n ([],0):Option (Ctl Unit Bool)).bind λb28=>
   match b28 with
   |.cont _=>some true
   |.done s=>some s:Option Bool)) (diffS [] (l.map a)):=by
 have f:l.length<=4611686018427387904:=by omega
 have j:(l.map a).length<=4611686018427387904:=by grind
 have h:=Qbn (B:=Ctl Unit Bool) l (step:=λn s=>bif decide (s.2<(l.length:Int))then(idx l s.2).bind λx35=>(g n x35).bind λr36=>((F_f n (a x35)).bind λr42=>(bif (!r42)then some true else(some (QA s.1 (a x35) false)).bind λv44=>some v44)).bind λb40=>(bif b40 then some (.done (.done false))else(some (QY s.1 (a x35) true)).bind λm46=>some (.cont (m46,i64.wrap (s.2+1))))else some (.done (.cont ())))
  (λi=>(QW a true (l.take i),i)) (λi=>bif diffS ((l.map a).take i) ((l.map a).drop i)then .cont ()else .done false) f rfl (λi x e=>?_) ?_
 .refine Ea h ?_
  grind[Qa]
 .have ha2:=Y5 j (by rw[Xo,e.get];rfl);simp only[Qez _ _ _ ha2];have d:Ev (λn=>(F_f n (a x)).bind λr42=>(bif (!r42)then some true else(some (QA (QW a true (l.take i)) (a x) false)).bind λv44=>some v44)) (!(isNameS (a x)&& !((l.map a).take i).contains (a x))):=by
   refine Ea (Qfj (a x) (m x e.mem)) ?_;cases isNameS (a x)with
   |false=>exact Qa _
   |true=>
    simp_all[Qa,Qdj]
  cases k:(isNameS (a x)&& !((l.map a).take i).contains (a x))with
  |true=>
   rw[k]at d;refine .inl ⟨?_,by simp⟩;simp only[e.lt,e.ix,XI,hg];refine Ea d ?_;simp[e.nx];rw[e.take,QfD];exact Qa _
  |false=>
   rw[k]at d;refine .inr ?_;simp only[e.lt,e.ix,XI,hg];refine Ea d ?_;exact Qa _
 .simp[Qa6];rw[show(l.map a).drop l.length=[]by simp];exact Qa _
theorem Qcf{α:Type}{l:List α}{x:α}(h:l.length<=140737488):app l [x]=some (l++[x]):=QlU l x (by omega)
theorem QdB(l:List (List UInt8))(s:l.length<=1048576)(f:∀x∈l,x.length<=1048576):Ev (λn=>F_p n l) (diffS [] l):=by
 have k:l.length<=4611686018427387904:=by omega
 refine Ea (Qbn l (λi=>(i:Int)) (λi=>bif diffS (l.take i) (l.drop i)then .cont ()else .done false) k rfl (λi x a=>?_) ?_) ?_
 .simp only[Qez _ _ _ a];unfold F_ix;simp only[a.lt,a.ix,XI];cases m:isNameS x with
  |false=>
   exact .inr (Ea ((Qbk x (f x a.mem)).eq m) (Qa _))
  |true=>
   have r:=a.lt';have inner:Ev (λn=>iter (F_ed n l i) n 0) (bif (l.take i).contains x then Ctl.done (Ctl.done (Ctl.done false))else Ctl.cont ()):=by
    have e:(l.take i).contains x=(l.take i).any λy=>y==x:=by
     grind
    rw[e];have p:(l.take i).length=i:=by simp;omega
    refine YW (l.take i) (λy=>y==x) (λi=>(i:Int)) _ _ (by omega) rfl (λj y d h=>?_) (λj y d h=>?_) ?_
    .have g:=d.lt';have hjg:=by
      have:=d.get;rw[List.getElem?_take]at this;split at this
      .exact this
      .cases this
     unfold F_ed;rw[Qz (show(j:Int)<i by omega)];simp only[Qu hjg,a.ix,XI,h,d.nx];exact Qa _
    .have g:=d.lt';have hjg:=by
      have:=d.get;rw[List.getElem?_take]at this;split at this
      .exact this
      .cases this
     unfold F_ed;rw[Qz (show j<(i:Int)by omega)];simp only[Qu hjg,a.ix,XI,h];exact Qa _
    grind[F_ed,Qa]
   cases q:(l.take i).contains x with
   |true=>
    rw[q]at inner;exact .inr (Ea ((Qbk x (f x a.mem)).eq m) (Qq (Ea inner (Qa _))))
   |false=>
    rw[q]at inner;refine .inl ⟨Ea ((Qbk x (f x a.mem)).eq m) (Qq (Ea inner ?_)),by simp⟩;simp only[a.nx];exact Qa _
 .unfold F_ix;simp only[Qa6,Xr];exact Qa _
 grind[Qa]
theorem Qac{α β:Type}(l:List α)(f:α->β)(k:l.length<=140737488):Ev (λn=>iter (λs:(List β)×Int=>bif decide (s.2<(l.length:Int))then(idx l s.2).bind λx15=>(app s.1 [f x15]).bind λl16=>some (Ctl.cont (l16,i64.wrap (s.2+1)))else some (Ctl.done s.1)) n (([]:List β),(0:Int))) (l.map f):=by
 have e:∀l:List α,l.foldl (λa x=>a++[f x]) []=l.map f:=by
  intro l;have h:∀(l:List α) (a:List β),l.foldl (λa x=>a++[f x]) a=a++l.map f:=by
   intro l
   induction l with
   |nil=>simp
   |cons x l j=>grind
  grind
 rw[<- e l];refine Jr l (λa x=>a++[f x]) [] (λa i=>(a,(i:Int))) (λa=>a) (by omega) rfl (λi x a g d=>?_) ?_
 .rw[e]at d;have:a.length<=140737488:=by grind
  simp only[g.lt,g.ix,Qcf this,g.nx];exact Qa _
 .simp[Qa6];exact Qa _
def namesS(c:Course):Bool:=isNameS c.Name&&(diffS [] (c.Mats.map (·.Name))&&(diffS [] (c.Distances.map (·.Name))&&(diffS [] (c.Waves.map (·.Name))&&(diffS [] (c.Offences.map (·.Name))&&diffS [] (c.Categories.map (·.Name))))))
structure CourseOk (c:Course):Prop where
 name:c.Name.length<=1048576
 mats:c.Mats.length<=1048576
 matsN:∀x∈c.Mats,x.Name.length<=1048576
 legs:c.Legs.length<=1048576
 dist:c.Distances.length<=1048576
 distN:∀x∈c.Distances,x.Name.length<=1048576
 cut:∀x∈c.Distances,x.Cutoffs.length<=1048576
 wave:c.Waves.length<=1048576
 waveN:∀x∈c.Waves,x.Name.length<=1048576
 off:c.Offences.length<=1048576
 offN:∀x∈c.Offences,x.Name.length<=1048576
 cat:c.Categories.length<=1048576
 catN:∀x∈c.Categories,x.Name.length<=1048576
 prize:c.Prizes.length<=1048576
theorem Qkn(c:Course)(w:CourseOk c):Ev (λn=>F_ea n c) (namesS c):=by
 refine Ea (Ea (Qfj c.Name w.name) (Ei λ_=>?_)) (Qa _);have e:Ev (λn=>F_fl n c.Mats) (diffS [] (c.Mats.map (·.Name))):=by exact QbE c.Mats (·.Name) F_fn (λ_ _=>rfl) w.mats w.matsN
 have a:Ev (λn=>F_fu n c.Distances) (diffS [] (c.Distances.map (·.Name))):=by exact QbE c.Distances (·.Name) F_fh (λ_ _=>rfl) w.dist w.distN
 have d:Ev (λn=>F_ej n c.Waves) (diffS [] (c.Waves.map (·.Name))):=by exact QbE c.Waves (·.Name) F_dt (λ_ _=>rfl) w.wave w.waveN
 have f:Ev (λn=>F_fk n c.Offences) (diffS [] (c.Offences.map (·.Name))):=by exact QbE c.Offences (·.Name) F_dw (λ_ _=>rfl) w.off w.offN
 have g:Ev (λn=>F_dx n c.Categories) (diffS [] (c.Categories.map (·.Name))):=by exact QbE c.Categories (·.Name) F_dv (λ_ _=>rfl) w.cat w.catN
 refine Ea e (Ei λ_=>(Ea a (Ei λ_=>?_)));refine Ea d (Ei λ_=>?_);exact Ea f (Ei (by grind))
structure Short (c:Course):Prop where
 mats:c.Mats.length<=140737488
 dist:c.Distances.length<=140737488
 wave:c.Waves.length<=140737488
 off:c.Offences.length<=140737488
 cat:c.Categories.length<=140737488
theorem QgM(c:Course)(w:CourseOk c)(s:Short c):Ev (λn=>F_fx n c) (namesS c):=by
 refine Ea (Qac c.Mats (·.Name) s.mats) (Ea (Qac c.Distances (·.Name) s.dist) ?_);refine Ea (Qac c.Waves (·.Name) s.wave) (Ea (Qac c.Offences (·.Name) s.off) ?_);refine Ea (Qac c.Categories (·.Name) s.cat) (Ea ?_ (Qa _));refine Ea (Qbk c.Name w.name) (Ei λ_=>?_);have mk:∀{α:Type} (l:List α) (nm:α->List UInt8),l.length<=1048576->(∀x∈l,(nm x).length<=1048576)->Ev (λn=>F_p n (l.map nm)) (diffS [] (l.map nm)):=by
  simp_all[QdB]
 refine Ea (mk c.Mats (·.Name) w.mats w.matsN) (Ei λ_=>(Ea (mk c.Distances (·.Name) w.dist w.distN) (Ei λ_=>?_)));refine Ea (mk c.Waves (·.Name) w.wave w.waveN) (Ei λ_=>(Ea (mk c.Offences (·.Name) w.off w.offN) (Ei λ_=>?_)));exact Ea (mk c.Categories (·.Name) w.cat w.catN) (Qa _)
theorem QaD{n:Nat}(h:n<=1048576):i64.wrap ((n:Int)-1)=(n:Int)-1:=Qy (by omega) (by omega)
theorem Jn(x lo hi:Int):Ev (λn=>F_b n x lo hi) (inR lo hi x):=by
 exact Ea (Ei λ_=>Qa _) (Qa _)
theorem Qev(c:Course)(w:CourseOk c)(x:Int):Ev (λn=>F_g n c x) (inR 0 ((c.Mats.length:Int)-1) x):=by
 unfold F_g;rw[QaD w.mats];exact Ea (Jn _ _ _) (Qa _)
mutual
def szP:Part->Nat
 |⟨_,_,ps⟩=>1+szPs ps
def szPs:List Part->Nat
 |[]=>0
 |p::r=>szP p+szPs r
end
theorem YB(p:Part):szP p=1+szPs p.Parts:=by cases p;rfl
theorem YQ{p:Part}:∀{l:List Part},p∈l->szP p<=szPs l
 |q::r,h=>by
  simp[szPs];rcases X5.1 h with rfl|h
  .omega
  .have:=YQ h;omega
mutual
def partS(k:Int):Part->Bool
 |⟨m,laps,ps⟩=>bif laps==0 then inR 0 k m&&((ps.length:Int)==0)else inR 1 64 laps&&((m==0)&&(decide (0<(ps.length:Int))&&partsS k ps))
def partsS(k:Int):List Part->Bool
 |[]=>true
 |p::r=>partS k p&&partsS k r
end
theorem QaY(k:Int)(p:Part):partS k p=bif p.Laps==0 then inR 0 k p.Mat&&((p.Parts.length:Int)==0)else inR 1 64 p.Laps&&((p.Mat==0)&&(decide (0<(p.Parts.length:Int))&&partsS k p.Parts)):=by cases p;rfl
theorem YY(k:Int):∀l:List Part,partsS k l=l.all (partS k)
 |[]=>rfl
 |p::r=>by simp[partsS,List.all_cons,YY k r]
theorem Ya{p:Part}(h:Part.wf p):p.Parts.length<=1048576/\ ∀x∈p.Parts,Part.wf x:=by
 cases p
 grind[Part.wf,QcK]
theorem QF(lo hi x:Int):Ev (λn=>F_a n lo hi [x]) (inR lo hi x):=(Qfg lo hi [x] (by simp)).eq (by simp)
theorem QaG(lo hi x y:Int):Ev (λn=>F_a n lo hi [x,y]) (inR lo hi x&&inR lo hi y):=(Qfg lo hi [x,y] (by simp)).eq (by simp)
theorem Qkm(k:Int):∀(m:Nat) (l:List Part),szPs l<=m->l.length<=1048576->(∀x∈l,Part.wf x)->Ev (λn=>F_ab n l k) (partsS k l):=by
 intro m
 induction m with
 |zero=>
  intro l d g e;cases l with
  |nil=>
   refine Yx ?_;exact Jd [] (partS k) (λn x=>F_by (F_ab n) n x k) (by simp) (by simp)
  |cons p r=>
   simp only[szPs,YB]at d;omega
 |succ m j=>
  intro l d g e;refine Yx ?_;rw[YY];refine Jd l (partS k) (λn x=>F_by (F_ab n) n x k) (by omega) λp a=>?_;rw[QaY];have f:=YQ a;rw[YB]at f;obtain⟨i,h⟩:=Ya (e p a);refine QaJ (λ_=>?_) (λ_=>?_)
  .exact Ea (Ea (QF _ _ _) (Ei λ_=>Qa _)) (Qa _)
  .exact Ea (Ea (QF _ _ _) (Ei λ_=>Ei λ_=>Ei (by grind))) (Qa _)
theorem QiU(c:Course)(w:CourseOk c):∀(m:Nat) (l:List Part),szPs l<=m->l.length<=1048576->(∀x∈l,Part.wf x)->Ev (λn=>F_s n c l) (partsS ((c.Mats.length:Int)-1) l):=by
 intro m
 induction m with
 |zero=>
  intro l e j f;cases l with
  |nil=>
   refine Yx ?_;show Ev (λn=>B_s (F_s n) n c []) _;exact⟨1,λn u=>by obtain⟨k,rfl⟩:∃k,n=k+1:=⟨n-1,by omega⟩;rfl⟩
  |cons p r=>
   simp only[szPs,YB]at e;omega
 |succ m s=>
  intro l e j f;refine Yx ?_;show Ev (λn=>B_s (F_s n) n c l) _;rw[YY];have step:∀(i:Nat) (x:Part),At l i x->Ev (λn=>F_hv n c l (F_s n) i) (bif partS (c.Mats.length-1) x then .cont (i+1)else .done (.done false)):=by
   intro i x a;unfold F_hv;simp only[a.lt,a.ix,XI,a.nx];have h:=YQ a.mem;rw[YB]at h;obtain⟨q,g⟩:=Ya (f x a.mem);refine Ea (Ei λ_=>Ea (Qev c w _) (Ei λ_=>Qa _)) (Ea (Ea (Jn _ _ _) (Ei λ_=>Ei λ_=>Ei λ_=>Ea (s x.Parts (by omega) q g) (Qa _))) ?_);rw[QaY];cases t:(x.Laps==0)with
   |true=>
    have e0:=by simpa using t
    have:inR 1 64 x.Laps=false:=by rw[e0];rfl
    grind[Qa]
   |false=>
    generalize(inR 1 64 x.Laps&&((x.Mat==0)&&(decide (0<(x.Parts.length:Int))&&partsS (c.Mats.length-1) x.Parts)))=b;cases b<;>exact Qa _
  refine Ea (YW l (λx=> !partS (c.Mats.length-1) x) (λi=>(i:Int)) (Ctl.done false) (Ctl.cont ()) (by omega) rfl (λi x a d=>?_) (λi x a d=>?_) ?_) ?_
  .refine(step i x a).eq ?_;have:=by simpa using d
   rw[this];rfl
  .refine(step i x a).eq ?_;have:=by simpa using d
   rw[this];rfl
  .unfold F_hv;simp[Qa6];exact Qa _
  grind[Qa]
def legS(k:Int)(l:Leg):Bool:=(inR 0 k l.From&&inR 0 k l.To)&&((inR 0 68719476736 l.Min&&inR 0 68719476736 l.Max)&&decide (l.Min<=l.Max))
def cutS(k:Int)(x:Cutoff):Bool:=inR 0 k x.Mat&&(decide (1<=x.Lap)&&inR 0 1099511627776 x.Limit)
def distS(k:Int)(d:Distance):Bool:=inR 1 3 d.Timing&&(inR (-1) k d.Extra&&(partsS k d.Route&&d.Cutoffs.all (cutS k)))
def offS(o:Offence):Bool:=bif o.Out then(o.Time==0)&&(o.Laps==0)else bif o.Laps != 0 then(o.Time==0)&&inR 1 64 o.Laps else inR 0 68719476736 o.Time
def catS(x:Category):Bool:=(inR 0 120 x.From&&inR 0 120 x.To)&&decide (x.From<=x.To)
def prizeS(c:Course)(p:Prize):Bool:=inR 0 ((c.Distances.length:Int)-1) p.Distance&&(inR (-1) ((c.Categories.length:Int)-1) p.Category&&(inR 1 4000 p.Rank&&inR 1 1125899906842624 p.Amount))
def lastS(c:Course):Bool:=(inR 0 16 c.Faults.Misses&&inR 0 16 c.Faults.Strays)&&((inR 0 4294967296 c.Faults.Window&&inR 0 4294967296 c.Faults.Residual)&&(inR 0 100000 c.Faults.Drift&&(inR 0 1125899906842624 c.Fee&&inR 0 1099511627776 c.Deadline)))
def legKey(l:Leg):Ui:={from_:=l.From,to_:=l.To}
def prizeKey(p:Prize):Uk:={distance:=p.Distance,category:=p.Category,rank:=p.Rank}
def numbersS(c:Course):Bool:=
 let k:=(c.Mats.length:Int)-1
 c.Mats.all (λm=>inR 1 3 m.Kind)&&(c.Legs.all (legS k)&&(decide ((c.Legs.map legKey).Nodup)&&(c.Distances.all (distS k)&&(c.Waves.all (λw=>inR 0 1099511627776 w.Gun)&&(c.Offences.all offS&&(c.Categories.all catS&&(c.Prizes.all (prizeS c)&&(decide ((c.Prizes.map prizeKey).Nodup)&&lastS c))))))))
structure PartsOk (c:Course):Prop where
 len:∀d∈c.Distances,d.Route.length<=1048576
 wf:∀d∈c.Distances,∀x∈d.Route,Part.wf x
theorem QfO(l:List Leg)(d:l.length<=1048576):Ev (λn=>F_ds n l) (decide ((l.map legKey).Nodup)):=by
 refine Ea (Qbo l legKey true (by omega) (λi x m a=>?_) (λm=>?_)) ((Qa _).eq ?_)
 .unfold F_ir F_fb;simp only[a.lt,a.ix,a.nx];exact Qa _
 .simp_all[F_ir,Qa]
 .rw[XX];simp[Vt,Vo]
  grind[QaV]
theorem Qeu(l:List Prize)(d:l.length<=1048576):Ev (λn=>F_ek n l) (decide ((l.map prizeKey).Nodup)):=by
 refine Ea (Qbo l prizeKey true (by omega) (λi x m a=>?_) (λm=>?_)) ((Qa _).eq ?_)
 .unfold F_it F_fg;simp only[a.lt,a.ix,a.nx];exact Qa _
 .simp_all[F_it,Qa]
 .rw[XX];simp[Vt,Vo]
  grind[QaV]
theorem Qhu(c:Course)(w:CourseOk c)(q:PartsOk c):Ev (λn=>F_cl n c) (numbersS c):=by
 unfold F_cl numbersS;rw[QaD w.mats];refine Ea (v:=_) ?_ (Qa _);have g:Ev (λn=>F_co n c.Mats) (c.Mats.all λm=>inR 1 3 m.Kind):=by
  unfold F_co F_gb F_ef;refine Jd c.Mats _ (λn x=>F_br n x) (by have:=w.mats;omega) λx a=>?_;unfold F_br;exact Ea (QF _ _ _) (Qa _)
 have d:Ev (λn=>F_dh n c.Legs ((c.Mats.length:Int)-1)) (c.Legs.all (legS ((c.Mats.length:Int)-1))):=by
  unfold F_dh F_dy F_eu;refine Jd c.Legs _ (λn x=>F_da n x _) (by have:=w.legs;omega) λx a=>?_;unfold F_da;exact Ea (Ea (QaG _ _ _ _) (Ei λ_=>Ea (QaG _ _ _ _) (Ei λ_=>Qa _))) (Qa _)
 have j:Ev (λn=>F_bw n c.Distances ((c.Mats.length:Int)-1)) (c.Distances.all (distS ((c.Mats.length:Int)-1))):=by
  unfold F_bw F_em F_ev;refine Jd c.Distances _ (λn x=>F_bt n x _) (by have:=w.dist;omega) λx a=>?_;unfold F_bt;have k:Ev (λn=>F_db n x.Cutoffs ((c.Mats.length:Int)-1)) (x.Cutoffs.all (cutS ((c.Mats.length:Int)-1))):=by
   unfold F_db F_fs F_fj;refine Jd x.Cutoffs _ (λn x=>F_bz n x _) (by have:=w.cut x a;omega) λy l=>?_;unfold F_bz;exact Ea (Ea (QF _ _ _) (Ei λ_=>Ei λ_=>Ea (QF _ _ _) (Qa _))) (Qa _)
  exact Ea (Ea (QF _ _ _) (Ei λ_=>Ea (QF _ _ _) (Ei λ_=>Ea (Qkm _ _ x.Route (XS _) (q.len x a) (q.wf x a)) (Ei λ_=>Ea k (Qa _))))) (Qa _)
 have h:Ev (λn=>F_bu n c.Waves) (c.Waves.all λw=>inR 0 1099511627776 w.Gun):=by
  unfold F_bu F_ee F_gd;refine Jd c.Waves _ (λn x=>F_di n x) (by have:=w.wave;omega) λx a=>?_;unfold F_di;exact Ea (QF _ _ _) (Qa _)
 have f:Ev (λn=>F_cm n c.Offences) (c.Offences.all offS):=by
  unfold F_cm F_ga F_fy;refine Jd c.Offences _ (λn x=>F_ce n x) (by have:=w.off;omega) λx a=>?_;unfold F_ce offS;refine QaJ (λ_=>Ea (Ei λ_=>Qa _) (Qa _)) λ_=>QaJ (λ_=>Ea (Ei λ_=>Ea (QF _ _ _) (Qa _)) (Qa _)) λ_=>Ea (QF _ _ _) (Qa _)
 have e:Ev (λn=>F_cx n c.Categories) (c.Categories.all catS):=by
  unfold F_cx F_ey F_ff;refine Jd c.Categories _ (λn x=>F_cz n x) (by have:=w.cat;omega) λx a=>?_;unfold F_cz;exact Ea (Ea (QaG _ _ _ _) (Ei λ_=>Qa _)) (Qa _)
 have i:Ev (λn=>F_cu n c.Prizes c) (c.Prizes.all (prizeS c)):=by
  unfold F_cu F_en F_fi;refine Jd c.Prizes _ (λn x=>F_ci n x c) (by have:=w.prize;omega) λx a=>?_;unfold F_ci;rw[QaD w.dist,QaD w.cat];exact Ea (Ea (QF _ _ _) (Ei λ_=>Ea (QF _ _ _) (Ei λ_=>Ea (QF _ _ _) (Ei λ_=>Ea (QF _ _ _) (Qa _))))) (Qa _)
 refine Ea g (Ei λ_=>Ea d (Ei λ_=>Ea (QfO _ w.legs) (Ei λ_=>Ea j (Ei λ_=>Ea h (Ei λ_=>Ea f (Ei λ_=>Ea e (Ei λ_=>Ea i (Ei λ_=>Ea (Qeu _ w.prize) (Ei λ_=>?_)))))))));exact Ea (QaG _ _ _ _) (Ei λ_=>Ea (QaG _ _ _ _) (Ei λ_=>Ea (QF _ _ _) (Ei λ_=>Ea (QF _ _ _) (Ei λ_=>Ea (QF _ _ _) (Qa _)))))
theorem ends_eq{a b a' d:Int}:(({from_:=a,to_:=b}:Ui)={from_:=a',to_:=d})↔a=a'/\b=d:=by simp
theorem Qet(c:Course)(w:CourseOk c)(d:Distance)(k:d.Route.length<=1048576)(h:∀x∈d.Route,Part.wf x)(l:d.Cutoffs.length<=1048576):Ev (λn=>F_ei n c d) (distS ((c.Mats.length:Int)-1) d):=by
 have step:∀(i:Nat) (x:Cutoff),At d.Cutoffs i x->Ev (λn=>F_gq n c d i) (bif cutS (c.Mats.length-1) x then .cont (i+1)else .done (.done false)):=by
  intro i x a;unfold F_gq;simp only[a.lt,a.ix,XI,a.nx];have:Ev (λn=>(F_g n c x.Mat).bind λg=>(bif (!g)then some true else(bif decide (x.Lap<1)then some true else(F_b n x.Limit 0 1099511627776).bind λf=>some (!f)))) (!cutS (c.Mats.length-1) x):=by
   refine Ea (Qev c w _) (Ew (Qk λ_=>Qk λ_=>Ea (Jn _ _ _) (Qa _)) ?_)
   grind[cutS]
  refine Ea this ?_
  grind[Qa]
 refine Ea (YW d.Cutoffs (λx=> !cutS (c.Mats.length-1) x) (λi=>(i:Int)) (Ctl.done false) (Ctl.cont ()) (by omega) rfl (λi x a j=>?_) (λi x a j=>?_) ?_) ?_
 .grind
 .grind
 .simp_all[F_gq,Qa]
 .have e:d.Cutoffs.any (λx=> !cutS (c.Mats.length-1) x)= !d.Cutoffs.all (cutS (c.Mats.length-1)):=by grind
  rw[e];unfold distS;have m:inR (-1) (c.Mats.length-1) d.Extra=((d.Extra== -1)||inR 0 (c.Mats.length-1) d.Extra):=by
   unfold inR
   grind
  cases d.Cutoffs.all (cutS (c.Mats.length-1))with
  |false=>
   simp[Bool.and_false];exact Qa _
  |true=>
   simp only[Bool.and_true];refine Ea (Ea (Jn _ _ _) ((Ei λ_=>Ea (QiU c w _ d.Route (XS _) k h) (Ei λ_=>Qk λ_=>Ea (Qev c w _) (Qa _))).eq ?_)) (Qa _)
   grind
theorem Yr{α B:Type}{step:Nat->Int->Option (Ctl Int B)}(l:List α)(ok:α->Bool)(a b:B)(f:l.length<=4611686018427387904)
  (j:∀i x,At l i x->Ev (λn=>step n (i:Int)) (bif ok x then .cont ((i+1:Nat):Int)else .done a))(d:Ev (λn=>step n (l.length:Int)) (.done b)):
  Ev (λn=>Go.Sw.iter (step n) n 0) (bif l.all ok then b else a):=by
 have e:(bif l.all ok then b else a)=bif l.any (λx=> !ok x)then a else b:=by
  grind
 rw[e];refine YW l (λx=> !ok x) (λi=>(i:Int)) a b f rfl (λi x h g=>?_) (λi x h g=>?_) d
 .grind
 grind
theorem QfL(c:Course)(w:CourseOk c)(q:PartsOk c):Ev (λn=>F_bv n c) (numbersS c):=by
 unfold F_bv numbersS;have G:Ev (λn=>iter (F_hz n c) n 0) (bif c.Mats.all (λm=>inR 1 3 m.Kind)then Ctl.cont ()else Ctl.done false):=by
  refine Yr c.Mats _ _ _ (by have:=w.mats;omega) (λi x a=>?_) ?_
  .unfold F_hz;simp only[a.lt,Vm,a.ix,XI,a.nx];refine Ea (Jn _ _ _) ?_;cases inR 1 3 x.Kind<;>exact Qa _
  simp_all[F_hz,Qa]
 have J:Ev (λn=>iter (F_cc n c) n 0) (bif c.Legs.all (legS ((c.Mats.length:Int)-1))&&decide ((c.Legs.map legKey).Nodup)then Ctl.cont ()else Ctl.done false):=by
  have first:∀x:Leg,Ev (λn=>((F_g n c x.From).bind λB=>(bif (!B)then some true else(F_g n c x.To).bind λp=>(bif (!p)then some true else(bif decide (x.Min<0)then some true else(bif decide (x.Max<x.Min)then some true else some (decide (68719476736<x.Max)))))):Option Bool)) (!legS ((c.Mats.length:Int)-1) x):=by
   intro x;refine Ea (Qev c w _) (Ew (Qk λ_=>Ea (Qev c w _) (Qk λ_=>Qk λ_=>Qk λ_=>Qa _)) ?_);unfold legS inR
   grind
  have inner:∀(i:Nat) (x:Leg),At c.Legs i x->Ev (λn=>iter (F_ew n c (i:Int) x) n 0) (bif ((c.Legs.take i).map legKey).contains (legKey x)then Ctl.done (Ctl.done (Ctl.done false))else Ctl.cont ()):=by
   intro i x a;have F:=a.lt';refine Qg6 c.Legs i legKey (legKey x) _ _ (by have:=w.legs;omega) (by omega) (λj y E k g=>?_) (λj y E k g=>?_) ?_
   .unfold F_ew;rw[Qz (show(j:Int)<(i:Int)by omega)];simp only[Vm,k.ix,XI,k.nx];have h:¬(y.From=x.From/\y.To=x.To):=by simpa[legKey]using g
    refine Ea (Ei λ_=>Qa _) ?_;have e:((y.From==x.From)&&(y.To==x.To))=false:=by
     grind
    rw[e];exact Qa _
   .unfold F_ew;rw[Qz (show(j:Int)<(i:Int)by omega)];simp only[Vm,k.ix,XI,k.nx]
    simp_all[legKey,Qa]
   grind[F_ew,Qa]
  refine Qk7 c.Legs (legS ((c.Mats.length:Int)-1)) legKey _ _ (by have:=w.legs;omega) (λi x a d g=>?_) (λi x a d=>?_) (λi x a d g=>?_) ?_
  .unfold F_cc;simp only[a.lt,Vm,a.ix,XI,a.nx];have f:=first x;rw[d]at f
   have l:=inner i x a;rw[g]at l;exact Ea f (Qq (Ea l (Qa _)))
  .unfold F_cc;simp only[a.lt,Vm,a.ix,XI,a.nx];have f:=first x;rw[d]at f
   exact Ea f (Qa _)
  .unfold F_cc;simp only[a.lt,Vm,a.ix,XI,a.nx];have f:=first x;rw[d]at f
   have l:=inner i x a;rw[g]at l;exact Ea f (Qq (Ea l (Qa _)))
  simp_all[F_cc,Qa]
 have N:Ev (λn=>iter (F_gg n c) n 0) (bif c.Distances.all (distS ((c.Mats.length:Int)-1))then Ctl.cont ()else Ctl.done false):=by
  refine Yr c.Distances _ _ _ (by have:=w.dist;omega) (λi x a=>?_) ?_
  .unfold F_gg;simp only[a.lt,Vm,a.ix,XI,a.nx];refine Ea (Qet c w x (q.len x a.mem) (q.wf x a.mem) (w.cut x a.mem)) ?_;cases distS ((c.Mats.length:Int)-1) x<;>exact Qa _
  .unfold F_gg;simp only[Qa6,Vn];exact Qa _
 have M:Ev (λn=>iter (F_hr n c) n 0) (bif c.Waves.all (λw=>inR 0 1099511627776 w.Gun)then Ctl.cont ()else Ctl.done false):=by
  refine Yr c.Waves _ _ _ (by have:=w.wave;omega) (λi x a=>?_) ?_
  .unfold F_hr;simp only[a.lt,Vm,a.ix,XI,a.nx];refine Ea (Jn _ _ _) ?_;cases inR 0 1099511627776 x.Gun<;>exact Qa _
  .unfold F_hr;simp only[Qa6,Vn];exact Qa _
 have O:Ev (λn=>iter (F_ht n c) n 0) (bif c.Offences.all offS then Ctl.cont ()else Ctl.done false):=by
  refine Yr c.Offences _ _ _ (by have:=w.off;omega) (λi x a=>?_) ?_
  .unfold F_ht;simp only[a.lt,Vm,a.ix,XI,a.nx];refine Ea (Ea (Jn _ _ _) (Ei λ_=>Ei λ_=>Qa _)) ?_;refine Ea (Ei λ_=>Ea (Jn _ _ _) (Ei λ_=>Qa _)) ?_;refine Ea (Ei λ_=>Ei λ_=>Qa _) ?_;refine Ea (Ei λ_=>Ei λ_=>Qa _) ?_;have e:offS x= !(!(inR 0 68719476736 x.Time&&((x.Laps==0)&& !x.Out))&&(!((x.Time==0)&&(inR 1 64 x.Laps&& !x.Out))&& !((x.Time==0)&&((x.Laps==0)&&x.Out)))):=by
    unfold offS inR;cases x.Out with
    |true=>
     rw[XX];simp
    |false=>
     by_cases h:x.Laps=0
     iterate 2 rw[XX];simp[h]
   rw[e];generalize(!(inR 0 68719476736 x.Time&&((x.Laps==0)&& !x.Out))&&(!((x.Time==0)&&(inR 1 64 x.Laps&& !x.Out))&& !((x.Time==0)&&((x.Laps==0)&&x.Out))))=b;cases b<;>exact Qa _
  .unfold F_ht;simp only[Qa6,Vn];exact Qa _
 have L:Ev (λn=>iter (F_hj n c) n 0) (bif c.Categories.all catS then Ctl.cont ()else Ctl.done false):=by
  refine Yr c.Categories _ _ _ (by have:=w.cat;omega) (λi x a=>?_) ?_
  .unfold F_hj;simp only[a.lt,Vm,a.ix,XI,a.nx];refine Ea (Qk λ_=>Qk λ_=>Qa _) ?_;have e:(decide (x.From<0)||(decide (x.To<x.From)||decide (120<x.To)))= !catS x:=by
    unfold catS inR;rw[XX];simp;omega
   rw[e];cases catS x<;>exact Qa _
  .unfold F_hj;simp only[Qa6,Vn];exact Qa _
 have H:Ev (λn=>iter (F_cp n c) n 0) (bif c.Prizes.all (prizeS c)&&decide ((c.Prizes.map prizeKey).Nodup)then Ctl.cont ()else Ctl.done false):=by
  have first:∀x:Prize,Ev (λn=>((F_b n x.Distance 0 (i64.wrap ((c.Distances.length:Int)-1))).bind λr=>(bif (!r)then some true else(F_b n x.Category (-1) (i64.wrap ((c.Categories.length:Int)-1))).bind λu=>(bif (!u)then some true else(F_b n x.Rank 1 4000).bind λs=>(bif (!s)then some true else(F_b n x.Amount 1 1125899906842624).bind λt=>some (!t)))):Option Bool)) (!prizeS c x):=by
   intro x;rw[QaD w.dist,QaD w.cat];refine Ea (Jn _ _ _) (Ew (Qk λ_=>Ea (Jn _ _ _) (Qk λ_=>Ea (Jn _ _ _) (Qk λ_=>Ea (Jn _ _ _) (Qa _)))) ?_);unfold prizeS;simp only[Bool.not_and]
  have inner:∀(i:Nat) (x:Prize),At c.Prizes i x->Ev (λn=>iter (F_fd n c (i:Int) x) n 0) (bif ((c.Prizes.take i).map prizeKey).contains (prizeKey x)then Ctl.done (Ctl.done (Ctl.done false))else Ctl.cont ()):=by
   intro i x a;have F:=a.lt';refine Qg6 c.Prizes i prizeKey (prizeKey x) _ _ (by have:=w.prize;omega) (by omega) (λj y E k g=>?_) (λj y E k g=>?_) ?_
   .unfold F_fd;rw[Qz (show(j:Int)<(i:Int)by omega)];simp only[Vm,k.ix,XI,k.nx];have h:¬(y.Distance=x.Distance/\y.Category=x.Category/\y.Rank=x.Rank):=by simpa[prizeKey]using g
    refine Ea (Ei λ_=>Ei λ_=>Qa _) ?_;have e:((y.Distance==x.Distance)&&((y.Category==x.Category)&&(y.Rank==x.Rank)))=false:=by
     rw[VH];intro z;exact h (by simpa using z)
    rw[e];exact Qa _
   .unfold F_fd;rw[Qz (show(j:Int)<(i:Int)by omega)];simp only[Vm,k.ix,XI,k.nx];have h:(y.Distance=x.Distance/\y.Category=x.Category/\y.Rank=x.Rank):=by simpa[prizeKey]using g
    refine Ea (Ei λ_=>Ei λ_=>Qa _) ?_;have e:((y.Distance==x.Distance)&&((y.Category==x.Category)&&(y.Rank==x.Rank)))=true:=by simpa using h
    rw[e];exact Qa _
   .unfold F_fd;rw[QH (show¬(i:Int)<(i:Int)by omega)];exact Qa _
  refine Qk7 c.Prizes (prizeS c) prizeKey _ _ (by have:=w.prize;omega) (λi x a d g=>?_) (λi x a d=>?_) (λi x a d g=>?_) ?_
  .unfold F_cp;simp only[a.lt,Vm,a.ix,XI,a.nx];have f:=first x;rw[d]at f
   have l:=inner i x a;rw[g]at l;exact Ea f (Qq (Ea l (Qa _)))
  .unfold F_cp;simp only[a.lt,Vm,a.ix,XI,a.nx];have f:=first x;rw[d]at f
   exact Ea f (Qa _)
  .unfold F_cp;simp only[a.lt,Vm,a.ix,XI,a.nx];have f:=first x;rw[d]at f
   have l:=inner i x a;rw[g]at l;exact Ea f (Qq (Ea l (Qa _)))
  .unfold F_cp;simp only[Qa6,Vn];exact Qa _
 refine Ea G ?_;cases c.Mats.all (λm=>inR 1 3 m.Kind)with
 |false=>exact Qa _
 |true=>
 refine Ea J ?_;simp only[Vv];rw[<- Bool.and_assoc];cases(c.Legs.all (legS ((c.Mats.length:Int)-1))&&decide ((c.Legs.map legKey).Nodup))with
 |false=>exact Qa _
 |true=>
 refine Ea N ?_;simp only[Vv];cases c.Distances.all (distS ((c.Mats.length:Int)-1))with
 |false=>exact Qa _
 |true=>
 refine Ea M ?_;simp only[Vv];cases c.Waves.all (λw=>inR 0 1099511627776 w.Gun)with
 |false=>exact Qa _
 |true=>
 refine Ea O ?_;simp only[Vv];cases c.Offences.all offS with
 |false=>exact Qa _
 |true=>
 refine Ea L ?_;simp only[Vv];cases c.Categories.all catS with
 |false=>exact Qa _
 |true=>
 refine Ea H ?_;simp only[Vv];rw[<- Bool.and_assoc];cases(c.Prizes.all (prizeS c)&&decide ((c.Prizes.map prizeKey).Nodup))with
 |false=>exact Qa _
 |true=>
 simp only[Vv];refine Ea (v:=lastS c) ?_ (Qa _);refine Ea (Jn _ _ _) ((Ei λ_=>Ea (Jn _ _ _) (Ei λ_=>Ea (Jn _ _ _) (Ei λ_=>Ea (Jn _ _ _) (Ei λ_=>Ea (Jn _ _ _) (Ei λ_=>Ea (Jn _ _ _) (Ei λ_=>Ea (Jn _ _ _) (Qa _))))))).eq ?_);unfold lastS;simp only[Bool.and_assoc]
mutual
def cN:Cond->Nat
 |⟨_,_,_,ps⟩=>1+cNs ps
def cNs:List Cond->Nat
 |[]=>0
 |c::r=>cN c+cNs r
end
theorem QbH(c:Cond):cN c=1+cNs c.Parts:=by cases c;rfl
mutual
def cD:Nat->Cond->Bool
 |d,⟨_,_,_,ps⟩=>cDs d ps
def cDs:Nat->List Cond->Bool
 |_,[]=>true
 |d,c::r=>decide (d<=16)&&(cD (d+1) c&&cDs d r)
end
theorem Qij(d:Nat)(c:Cond):cD d c=cDs d c.Parts:=by cases c;rfl
def zeroC(c:Cond):Bool:=(c.Kind==0)&&((c.Var==0)&&((c.N==0)&&((c.Parts.length:Int)==0)))
mutual
def sNp:Step->Nat
 |⟨_,_,_,t,e⟩=>1+sNs t+sNs e
def sNs:List Step->Nat
 |[]=>0
 |s::r=>sNp s+sNs r
end
theorem Qe1(s:Step):sNp s=1+sNs s.Then+sNs s.Else:=by cases s;rfl
mutual
def sC:Step->Nat
 |⟨_,_,c,t,e⟩=>(bif zeroC c then 0 else cN c)+sCs t+sCs e
def sCs:List Step->Nat
 |[]=>0
 |s::r=>sC s+sCs r
end
theorem QdX(s:Step):sC s=(bif zeroC s.Cond then 0 else cN s.Cond)+sCs s.Then+sCs s.Else:=by cases s;rfl
mutual
def sDp:Nat->Step->Bool
 |d,⟨_,_,c,t,e⟩=>(zeroC c||cD 1 c)&&(sDs d t&&sDs d e)
def sDs:Nat->List Step->Bool
 |_,[]=>true
 |d,s::r=>decide (d<=16)&&(sDp (d+1) s&&sDs d r)
end
theorem Qgf(d:Nat)(s:Step):sDp d s=((zeroC s.Cond||cD 1 s.Cond)&&(sDs d s.Then&&sDs d s.Else)):=by cases s;rfl
mutual
def sZ:Step->Nat
 |⟨_,_,c,t,e⟩=>2+cN c+sZs t+sZs e
def sZs:List Step->Nat
 |[]=>0
 |s::r=>sZ s+sZs r
end
theorem Qe0(s:Step):sZ s=2+cN s.Cond+sZs s.Then+sZs s.Else:=by cases s;rfl
def fS:Uj->Nat
 |.ctyping_step x=>sNp x.Step
 |.ctyping_cond _=>0
def fC:Uj->Nat
 |.ctyping_step x=>sC x.Step
 |.ctyping_cond x=>cN x.Cond
def fD(d:Nat):Uj->Bool
 |.ctyping_step x=>sDp d x.Step
 |.ctyping_cond x=>cD d x.Cond
def fZ:Uj->Nat
 |.ctyping_step x=>sZ x.Step
 |.ctyping_cond x=>cN x.Cond
def fSs(l:List Uj):Nat:=(l.map fS).sum
def fCs(l:List Uj):Nat:=(l.map fC).sum
def fZs(l:List Uj):Nat:=(l.map fZ).sum
def fwf:Uj->Prop
 |.ctyping_step x=>Step.wf x.Step
 |.ctyping_cond x=>Cond.wf x.Cond
def ofStep(s:Step):Uj:=.ctyping_step {Step:=s}
def ofCond(c:Cond):Uj:=.ctyping_cond {Cond:=c}
theorem Qa3:∀l:List Step,fSs (l.map ofStep)=sNs l
 |[]=>rfl
 |s::r=>by
  have:=Qa3 r;simp[fSs,Vh,List.sum_cons]at this⊢;rw[this];rfl
theorem Qa4:∀l:List Step,fCs (l.map ofStep)=sCs l
 |[]=>rfl
 |s::r=>by
  have:=Qa4 r;simp[fCs,Vh,List.sum_cons]at this⊢;rw[this];rfl
theorem QbD:∀l:List Step,fZs (l.map ofStep)=sZs l
 |[]=>rfl
 |s::r=>by
  have:=QbD r;simp[fZs,Vh,List.sum_cons]at this⊢;rw[this];rfl
theorem Qel:∀l:List Cond,fSs (l.map ofCond)=0
 |[]=>rfl
 |s::r=>by
  have:=Qel r;simp only[fSs,Vh,List.sum_cons]at this⊢;rw[this];rfl
theorem Qen:∀l:List Cond,fCs (l.map ofCond)=cNs l
 |[]=>rfl
 |s::r=>by
  have:=Qen r;simp[fCs,Vh,List.sum_cons]at this⊢;rw[this];rfl
theorem Qej:∀l:List Cond,fZs (l.map ofCond)=cNs l
 |[]=>rfl
 |s::r=>by
  have:=Qej r;simp[fZs,Vh,List.sum_cons]at this⊢;rw[this];rfl
theorem Qcz(d:Nat):∀l:List Step,sDs d l=((l.map ofStep).isEmpty||(decide (d<=16)&&(l.map ofStep).all (fD (d+1))))
 |[]=>rfl
 |s::r=>by
  rw[sDs,Qcz d r];simp[Vh,List.all_cons];rw[show fD (d+1) (ofStep s)=sDp (d+1) s from rfl]
  grind
theorem QgG(d:Nat):∀l:List Cond,cDs d l=((l.map ofCond).isEmpty||(decide (d<=16)&&(l.map ofCond).all (fD (d+1))))
 |[]=>rfl
 |s::r=>by
  rw[cDs,QgG d r];simp[Vh,List.all_cons];rw[show fD (d+1) (ofCond s)=cD (d+1) s from rfl]
  grind
theorem Y9{c:Cond}(h:Cond.wf c):c.Parts.length<=1048576/\ ∀x∈c.Parts,Cond.wf x:=by
 cases c
 grind[Cond.wf,QcS]
theorem Y7{s:Step}(h:Step.wf s):Cond.wf s.Cond/\(s.Then.length<=1048576/\ ∀x∈s.Then,Step.wf x)/\(s.Else.length<=1048576/\ ∀x∈s.Else,Step.wf x):=by
 cases s
 grind[Step.wf,QcG]
theorem Qfi(n:Nat)(c:Cond):F_af n {Cond:=c}=some (zeroC c):=by
 unfold F_af zeroC
 grind
theorem Qer(n:Nat)(c:Cond):F_aw n c=some (zeroC c):=by
 unfold F_aw zeroC
 grind
theorem Qep(l:List Step)(a:l.length<=140737488):Ev (λn=>F_ap n l) (l.map ofStep):=by
 exact Ea (Qac l ofStep a) (Qa _)
theorem Qkv(l:List Cond)(a:l.length<=140737488):Ev (λn=>F_ft n l) (l.map ofCond):=by
 exact Ea (Qac l ofCond a) (Qa _)
def stepParts(s:Step):List Uj:=s.Then.map ofStep++s.Else.map ofStep
theorem Qbj(s:Step)(h:Step.wf s):Ev (λn=>F_aa n {Step:=s}) (stepParts s):=by
 obtain⟨_,⟨d,_⟩,⟨a,_⟩⟩:=Y7 h;refine Ea (Qep s.Then (by omega)) (Ea (Qep s.Else (by omega)) (Qx (Y6 _ _ (by simp;omega)) (Qa _)))
theorem QcB(c:Cond)(h:Cond.wf c):Ev (λn=>F_x n {Cond:=c}) (c.Parts.map ofCond):=by
 obtain⟨a,_⟩:=Y9 h;exact Ea (Qkv c.Parts (by omega)) (Qa _)
def okL(l:List Uj)(d:Nat)(st co:Int):Bool:=l.isEmpty||(decide (d<=16)&&(l.all (fD (d+1))&&(decide (st+fSs l<=64)&&decide (co+fCs l<=256))))
def okR(l:List Uj)(d:Nat)(st co:Int):Bool:=l.isEmpty||(l.all (fD (d+1))&&(decide (st+fSs l<=64)&&decide (co+fCs l<=256)))
def okF(f:Uj)(d:Nat)(st co:Int):Bool:=fD (d+1) f&&(decide (st+fS f<=64)&&decide (co+fC f<=256))
theorem QgF(f:Uj)(l:List Uj):fSs (f::l)=fS f+fSs l:=rfl
theorem QgH(f:Uj)(l:List Uj):fCs (f::l)=fC f+fCs l:=rfl
theorem QgE(f:Uj)(l:List Uj):fZs (f::l)=fZ f+fZs l:=rfl
theorem Qek(l m:List Uj):fSs (l++m)=fSs l+fSs m:=by simp[fSs]
theorem Qem(l m:List Uj):fCs (l++m)=fCs l+fCs m:=by simp[fCs]
theorem Qei(l m:List Uj):fZs (l++m)=fZs l+fZs m:=by simp[fZs]
theorem QjW(f:Uj)(r:List Uj)(d:Nat)(e a:Int):okR (f::r) d e a=(okF f d e a&&okR r d (e+fS f) (a+fC f)):=by
 unfold okR okF;rw[QgF,QgH];cases r with
 |nil=>simp[fSs,fCs]
 |cons g r=>
  grind
theorem QfC(l:List Uj)(d:Nat)(e a:Int)(h:e<=64)(g:a<=256):okL l d e a=true↔(l.isEmpty||(decide (d<=16)&&l.all (fD (d+1))))=true/\e+fSs l<=64/\a+fCs l<=256:=by
 unfold okL;cases l with
 |nil=>simp[fSs,fCs,h,g]
 |cons f r=>
  grind
theorem QdT(s:Step)(d:Nat):((stepParts s).isEmpty||(decide (d<=16)&&(stepParts s).all (fD (d+1))))=(sDs d s.Then&&sDs d s.Else):=by
 rw[Qcz,Qcz];unfold stepParts;rw[List.all_append];cases e:s.Then<;>cases a:s.Else<;>simp<;>(grind)
def Cnt(R:Nat->List Uj->Int->Uh->Option (Uh×Bool))(l:List Uj)(d:Nat)(st co:Int):Prop:=
 ∃c':Uh,Ev (λn=>R n l (d:Int) {steps:=st,conds:=co}) (c',okL l d st co)/\(okL l d st co=true->c'={steps:=st+fSs l,conds:=co+fCs l})
theorem QhC{R:Nat->List Uj->Int->Uh->Option (Uh×Bool)}{l:List Uj}{d:Nat}(hd:d<=16){i:Nat}{f:Uj}(P:At l i f)(hw:fwf f)
  (J:∀l' d' a e,fZs l'<fZ f->l'.length<=2097152->(∀f∈l',fwf f)->d'<=17->0<=a->a<=66->(a<=65\/ ∀f∈l',∃c,f=ofCond c)->0<=e->e<=256->Cnt R l' d' a e){a e:Int}(h0:0<=a)(ae:a<=66)(w:a<=65\/ ∃c,f=ofCond c)(h2:0<=e)(h3:e<=256):
  ∃c':Uh,Ev (λn=>F_fa n l (d:Int) (R n) ({steps:=a,conds:=e},(i:Int))) (bif okF f d a e then .cont (c',((i+1:Nat):Int))else .done (.done (c',false)))/\(okF f d a e=true->c'={steps:=a+fS f,conds:=e+fC f}):=by
 unfold F_fa;simp only[P.lt,Vm,P.ix,XI,P.nx];have ed:i64.wrap ((d:Int)+1)=((d+1:Nat):Int):=Yd (by omega);cases f with
 |ctyping_step x=>
  obtain⟨s⟩:=x;have h1:a<=65:=by
   rcases w with h|⟨c,h⟩
   .exact h
   .cases h
  have k:Step.wf s:=hw;obtain⟨wc,⟨ac,aa⟩,⟨ad,N⟩⟩:=Y7 k;have Q:i64.wrap (a+1)=a+1:=Qy (by omega) (by omega);simp only[Uj.elim,Qfi,XI,Q];have hc:∃t:Uh,Ev (λn=>((bif (!zeroC s.Cond)then(R n [Uj.ctyping_cond {Cond:=s.Cond}] 0 {steps:=a+1,conds:=e}).bind λm=>some (m.1,(!m.2))else some ({steps:=a+1,conds:=e},false)):Option (Uh×Bool))) (t, !(zeroC s.Cond||(cD 1 s.Cond&&(decide (a+1<=64)&&decide (e+cN s.Cond<=256)))))/\
    ((zeroC s.Cond||(cD 1 s.Cond&&(decide (a+1<=64)&&decide (e+cN s.Cond<=256))))=true->t={steps:=a+1,conds:=e+((bif zeroC s.Cond then 0 else cN s.Cond:Nat):Int)}):=by
   cases E:zeroC s.Cond with
   |true=>
    simp_all[Qa]
   |false=>
    obtain⟨t,p,F⟩:=J [ofCond s.Cond] 0 (a+1) e (by simp only[fZs,Vh,Vi,List.sum_cons,List.sum_nil];show cN s.Cond+0<sZ s;rw[Qe0];omega) (by simp) (by intro g j;simp only[Vw]at j;subst j;exact wc) (by omega) (by omega) (by omega) (.inr (by intro g j;simp only[Vw]at j;exact⟨_,j⟩)) h2 h3;have ek:okL [ofCond s.Cond] 0 (a+1) e=(cD 1 s.Cond&&(decide (a+1<=64)&&decide (e+cN s.Cond<=256))):=by
     unfold okL;simp only[List.isEmpty_cons,Bool.false_or,List.all_cons,List.all_nil,Bool.and_true,fSs,fCs,Vh,Vi,List.sum_cons,List.sum_nil];rw[show fD (0+1) (ofCond s.Cond)=cD 1 s.Cond from rfl,show fS (ofCond s.Cond)=0 from rfl,show fC (ofCond s.Cond)=cN s.Cond from rfl];simp
    rw[ek]at p F;refine⟨t,Ea p (Qa _),λh=>?_⟩;rw[F h];simp[fSs,fCs,show fS (ofCond s.Cond)=0 from rfl,show fC (ofCond s.Cond)=cN s.Cond from rfl]
  obtain⟨t,p,F⟩:=hc;generalize hb:(zeroC s.Cond||(cD 1 s.Cond&&(decide (a+1<=64)&&decide (e+cN s.Cond<=256))))=b at p F;have T:okF (Uj.ctyping_step {Step:=s}) d a e=(sDp (d+1) s&&(decide (a+sNp s<=64)&&decide (e+sC s<=256))):=rfl;rw[T];cases b with
  |false=>
   have:(sDp (d+1) s&&(decide (a+sNp s<=64)&&decide (e+sC s<=256)))=false:=by
    rw[VH];intro hh;simp only[XV,Vo,Qgf,Qe1,QdX]at hh;obtain⟨⟨L,_⟩,z2,z3⟩:=hh;cases E:zeroC s.Cond with
    |true=>rw[E]at hb;cases hb
    |false=>
     rw[E]at hb L z3;simp only[Bool.false_or]at hb L;rw[L]at hb;simp only[Vn]at z3;rw[Qz (show a+1<=64 by omega),Qz (show e+(cN s.Cond:Int)<=256 by omega)]at hb;cases hb
   rw[this];exact⟨t,Ea p (Qa _),λh=>by cases h⟩
  |true=>
   obtain rfl:=F rfl;by_cases q:64<a+1
   .have:(sDp (d+1) s&&(decide (a+sNp s<=64)&&decide (e+sC s<=256)))=false:=by
     rw[QH (show¬a+(sNp s:Int)<=64 by rw[Qe1];omega)];simp
    rw[this];refine⟨{steps:=a+1,conds:=e+((bif zeroC s.Cond then 0 else cN s.Cond:Nat):Int)},Ea p ?_,λh=>by cases h⟩;simp only[Xg,Vn];refine Ea (v:=(_,true)) ?_ (Qa _);rw[Qz q];exact Qa _
   by_cases G:256<e+((bif zeroC s.Cond then 0 else cN s.Cond:Nat):Int)
   .have:(sDp (d+1) s&&(decide (a+sNp s<=64)&&decide (e+sC s<=256)))=false:=by
     rw[QH (show¬e+(sC s:Int)<=256 by rw[QdX];omega)];simp
    rw[this];refine⟨{steps:=a+1,conds:=e+((bif zeroC s.Cond then 0 else cN s.Cond:Nat):Int)},Ea p ?_,λh=>by cases h⟩;simp only[Xg,Vn];refine Ea (v:=(_,true)) ?_ (Qa _);rw[QH q,Qz G];exact Qa _
   obtain⟨H,B,z⟩:=J (stepParts s) (d+1) (a+1) (e+((bif zeroC s.Cond then 0 else cN s.Cond:Nat):Int)) (by
     unfold stepParts;rw[Qei,QbD,QbD];show _<sZ s;rw[Qe0];omega) (by unfold stepParts;simp;omega) (by
     intro g j;unfold stepParts at j;rcases Vy.1 j with j|j
     .obtain⟨y,u,rfl⟩:=Xe.1 j;exact aa y u
     .obtain⟨y,u,rfl⟩:=Xe.1 j;exact N y u) (by omega) (by omega) (by omega) (.inl (by omega)) (by omega) (by omega)
   have M:okL (stepParts s) (d+1) (a+1) (e+((bif zeroC s.Cond then 0 else cN s.Cond:Nat):Int))=(sDp (d+1) s&&(decide (a+sNp s<=64)&&decide (e+sC s<=256))):=by
    rw[XX,QfC _ _ _ _ (by omega) (by omega),QdT];simp only[XV,Vo,Qgf,Qe1,QdX];have O:fSs (stepParts s)=sNs s.Then+sNs s.Else:=by unfold stepParts;rw[Qek,Qa3,Qa3]
    have W:fCs (stepParts s)=sCs s.Then+sCs s.Else:=by unfold stepParts;rw[Qem,Qa4,Qa4]
    rw[O,W];have X:(zeroC s.Cond||cD 1 s.Cond)=true:=by
     cases E:zeroC s.Cond with
     |true=>rfl
     |false=>
      rw[E]at hb;simp only[Bool.false_or,XV]at hb;rw[hb.1];rfl
    constructor
    .rintro⟨r,V,Y⟩;exact⟨⟨X,r⟩,by omega,by omega⟩
    .rintro⟨⟨_,r⟩,V,Y⟩;exact⟨r,by omega,by omega⟩
   rw[M]at B z;refine⟨H,Ea p ?_,λh=>?_⟩
   .simp only[Xg,Vn];refine Ea (v:=(H, !(sDp (d+1) s&&(decide (a+sNp s<=64)&&decide (e+sC s<=256))))) ?_ ?_
    .rw[QH q,QH G,ed];exact Ea (Qbj s k) (Ea B (Qa _))
    .cases(sDp (d+1) s&&(decide (a+sNp s<=64)&&decide (e+sC s<=256)))<;>exact Qa _
   .rw[z h];have O:fSs (stepParts s)=sNs s.Then+sNs s.Else:=by unfold stepParts;rw[Qek,Qa3,Qa3]
    have W:fCs (stepParts s)=sCs s.Then+sCs s.Else:=by unfold stepParts;rw[Qem,Qa4,Qa4]
    rw[O,W,show fS (Uj.ctyping_step {Step:=s})=sNp s from rfl,show fC (Uj.ctyping_step {Step:=s})=sC s from rfl,Qe1,QdX];congr 1<;>omega
 |ctyping_cond x=>
  obtain⟨c⟩:=x;have k:Cond.wf c:=hw;obtain⟨af,ab⟩:=Y9 k;have Q:i64.wrap (e+1)=e+1:=Qy (by omega) (by omega);simp only[Uj.elim,Q];have T:okF (Uj.ctyping_cond {Cond:=c}) d a e=(cD (d+1) c&&(decide (a<=64)&&decide (e+cN c<=256))):=by
   show(cD (d+1) c&&(decide (a+((0:Nat):Int)<=64)&&decide (e+cN c<=256)))=_;rw[show a+((0:Nat):Int)=a by omega]
  rw[T];by_cases q:64<a
  .have:(cD (d+1) c&&(decide (a<=64)&&decide (e+cN c<=256)))=false:=by
    rw[QH (show¬a<=64 by omega)];simp
   rw[this];refine⟨{steps:=a,conds:=e+1},?_,λh=>by cases h⟩;refine Ea (v:=(_,true)) ?_ (Qa _);rw[Qz q];exact Qa _
  by_cases G:256<e+1
  .have:(cD (d+1) c&&(decide (a<=64)&&decide (e+cN c<=256)))=false:=by
    rw[QH (show¬e+(cN c:Int)<=256 by rw[QbH];omega)];simp
   rw[this];refine⟨{steps:=a,conds:=e+1},?_,λh=>by cases h⟩;refine Ea (v:=(_,true)) ?_ (Qa _);rw[QH q,Qz G];exact Qa _
  obtain⟨H,B,z⟩:=J (c.Parts.map ofCond) (d+1) a (e+1) (by
    rw[Qej];show _<cN c;rw[QbH];omega) (by simp;omega) (by
    intro g j;obtain⟨y,u,rfl⟩:=Xe.1 j;exact ab y u) (by omega) (by omega) (by omega) (.inl (by omega)) (by omega) (by omega)
  have M:okL (c.Parts.map ofCond) (d+1) a (e+1)=(cD (d+1) c&&(decide (a<=64)&&decide (e+cN c<=256))):=by
   rw[XX,QfC _ _ _ _ (by omega) (by omega), <- QgG,Qel,Qen];simp only[XV,Vo,Qij,QbH];constructor
   iterate 2 rintro⟨r,V,Y⟩;exact⟨r,by omega,by omega⟩
  rw[M]at B z;refine⟨H,?_,λh=>?_⟩
  .refine Ea (v:=(H, !(cD (d+1) c&&(decide (a<=64)&&decide (e+cN c<=256))))) ?_ ?_
   .rw[QH q,QH G,ed];exact Ea (QcB c k) (Ea B (Qa _))
   .cases(cD (d+1) c&&(decide (a<=64)&&decide (e+cN c<=256)))<;>exact Qa _
  .rw[z h,Qel,Qen,show fS (Uj.ctyping_cond {Cond:=c})=0 from rfl,show fC (Uj.ctyping_cond {Cond:=c})=cN c from rfl,QbH];congr 1;omega
theorem Qku:∀(m:Nat) (l:List Uj) (d:Nat) (a e:Int),fZs l<=m->l.length<=2097152->(∀f∈l,fwf f)->d<=17->0<=a->a<=66->(a<=65\/ ∀f∈l,∃c,f=ofCond c)->0<=e->e<=256->Cnt F_d l d a e:=by
 intro m
 induction m using Nat.strongRecOn with
 |_ m u=>
 intro l d a e hm hl hw hd h0 T G X O;unfold Cnt;have B:∀c:Uh,(∃g:Uh,Ev (λn=>B_d (F_d n) n l (d:Int) c) (g,okL l d a e)/\(okL l d a e=true->g={steps:=a+fSs l,conds:=e+fCs l}))->∃g:Uh,Ev (λn=>F_d n l (d:Int) c) (g,okL l d a e)/\(okL l d a e=true->g={steps:=a+fSs l,conds:=e+fCs l}):=by
  rintro c ⟨g,q1,q2⟩;exact⟨g,Yx q1,q2⟩
 refine B _ ?_;unfold B_d;cases j:l with
 |nil=>
  refine⟨{steps:=a,conds:=e},?_,λ_=>by simp[fSs,fCs]⟩;refine Ea (v:=Ctl.cont {steps:=a,conds:=e}) (EvI.ev (Ej ?_)) (Qa _);exact Qa _
 |cons f0 r0=>
 rw[<- j];have H:l.isEmpty=false:=by rw[j];rfl
 have N:0<l.length:=by rw[j];simp
 by_cases k:d<=16
 rotate_left
 .have:okL l d a e=false:=by unfold okL;rw[H,QH k];rfl
  rw[this];refine⟨{steps:=a,conds:=e},?_,λh=>by cases h⟩;rw[Qz (show(0:Int)<(l.length:Int)by omega),Qz (show(16:Int)<(d:Int)by omega)];exact Ea (Qa _) (Qa _)
 have E:okL l d a e=okR l d a e:=by unfold okL okR;rw[Qz k,Vv]
 rw[E];have loop:∀(r:List Uj) (i:Nat) (a e:Int),l.drop i=r->i<=l.length->0<=a->a<=66->(a<=65\/ ∀f∈l,∃c,f=ofCond c)->0<=e->e<=256->
   ∃g:Uh,EvI (λn=>F_fa n l (d:Int) (F_d n)) ({steps:=a,conds:=e},(i:Int)) (bif okR r d a e then Ctl.cont g else Ctl.done (g,false))/\(okR r d a e=true->g={steps:=a+fSs r,conds:=e+fCs r}):=by
  intro r
  induction r with
  |nil=>
   intro i a e J L _ _ _ _ _;refine⟨{steps:=a,conds:=e},Ej ?_,λ_=>by simp[fSs,fCs]⟩;unfold F_fa;simp only[QT J L,Vn];exact Qa _
  |cons f r F=>
   intro i a e J L g0 Q y g2 P;obtain⟨s,z⟩:=Qt (by omega) J;have aa:fZ f<=fZs l:=by
    have:∀(l:List Uj),f∈l->fZ f<=fZs l:=by
     intro l
     induction l with
     |nil=>intro h;cases h
     |cons x l u=>
      intro h;rw[QgE];rcases X5.1 h with rfl|h
      .omega
      .have:=u h;omega
    exact this l s.mem
   obtain⟨g,p,t⟩:=QhC (R:=F_d) k s (hw f s.mem) (λM Y a e k1 W k3 k4 k5 k6 w k7 k8=>u (fZs M) (by omega) M Y a e (XS _) W k3 k4 k5 k6 w k7 k8) g0 Q (y.imp id λh=>h f s.mem) g2 P;rw[QjW];cases q:okF f d a e with
   |false=>
    rw[q]at p;exact⟨g,Ej p,λh=>by cases h⟩
   |true=>
    rw[q]at p;obtain rfl:=t q;have hb:=by
     unfold okF at q;simp only[XV,Vo]at q;exact q.2
    obtain⟨c2,u1,V⟩:=F (i+1) (a+fS f) (e+fC f) z (by have:=s.lt';omega) (by omega) (by omega) (.inl (by omega)) (by omega) (by omega);refine⟨c2,Ex p u1,λh=>?_⟩;rw[V (by simpa using h),QgF,QgH];congr 1<;>omega
 obtain⟨g,p,t⟩:=loop l 0 a e rfl (XT _) h0 T G X O;refine⟨g,?_,t⟩;refine Ea (v:=false) ?_ (Qq (Ea p.ev ?_))
 .rw[Qz (show(0:Int)<(l.length:Int)by omega),QH (show¬(16:Int)<(d:Int)by omega)];exact Qa _
 .cases okR l d a e<;>exact Qa _
mutual
def vaC:Cond->Bool
 |⟨k,v,n,ps⟩=>bif k==1 then inR 1 3 v&&(inR 0 10000 n&&((ps.length:Int)==0))else
   bif k==4 then((v==0)&&(n==0))&&(((ps.length:Int)==1)&&vaCs ps)else
   bif (k==2)||(k==3)then((v==0)&&(n==0))&&((decide (0<(ps.length:Int))&&decide ((ps.length:Int)<=16))&&vaCs ps)else false
def vaCs:List Cond->Bool
 |[]=>true
 |c::r=>vaC c&&vaCs r
end
theorem QjG(c:Cond):vaC c=bif c.Kind==1 then inR 1 3 c.Var&&(inR 0 10000 c.N&&((c.Parts.length:Int)==0))else
   bif c.Kind==4 then((c.Var==0)&&(c.N==0))&&(((c.Parts.length:Int)==1)&&vaCs c.Parts)else
   bif (c.Kind==2)||(c.Kind==3)then((c.Var==0)&&(c.N==0))&&((decide (0<(c.Parts.length:Int))&&decide ((c.Parts.length:Int)<=16))&&vaCs c.Parts)else false:=by cases c;rfl
theorem Qfv:∀l:List Cond,vaCs l=l.all vaC
 |[]=>rfl
 |c::r=>by rw[vaCs,List.all_cons,Qfv r]
mutual
def vaS:Step->Bool
 |⟨k,b,c,t,e⟩=>bif k==1 then inR 1 5 b&&(zeroC c&&(((t.length:Int)==0)&&((e.length:Int)==0)))else
   bif k==2 then(b==0)&&(vaC c&&(decide (0<(t.length:Int))&&(vaSs t&&vaSs e)))else false
def vaSs:List Step->Bool
 |[]=>true
 |s::r=>vaS s&&vaSs r
end
theorem QjF(s:Step):vaS s=bif s.Kind==1 then inR 1 5 s.By&&(zeroC s.Cond&&(((s.Then.length:Int)==0)&&((s.Else.length:Int)==0)))else
   bif s.Kind==2 then(s.By==0)&&(vaC s.Cond&&(decide (0<(s.Then.length:Int))&&(vaSs s.Then&&vaSs s.Else)))else false:=by cases s;rfl
theorem Qfu:∀l:List Step,vaSs l=l.all vaS
 |[]=>rfl
 |c::r=>by rw[vaSs,List.all_cons,Qfu r]
def fV:Uj->Bool
 |.ctyping_step x=>vaS x.Step
 |.ctyping_cond x=>vaC x.Cond
theorem QhG(l:List Cond):(l.map ofCond).any (λf=> !fV f)= !vaCs l:=by
 rw[Qfv,List.not_all_eq_any_not,List.any_map];rfl
theorem Qcg(l:List Step):(l.map ofStep).any (λf=> !fV f)= !vaSs l:=by
 rw[Qfu,List.not_all_eq_any_not,List.any_map];rfl
theorem Qfh{R:Nat->List Uj->Option Bool}(c:Cond)(j:Cond.wf c)(i:Ev (λn=>R n (c.Parts.map ofCond)) (!vaCs c.Parts)):
  Ev (λn=>F_eo (R n) n {Cond:=c}) (vaC c):=by
 rw[QjG];refine Ea (Ei λ_=>Qa _) (QaJ (λ_=>?_) (λk=>?_))
 .exact Ea (Ea (QF _ _ _) (Ei λ_=>Ea (QF _ _ _) (Ei λ_=>Qa _))) (Qa _)
 .have fin:∀b,Ev (λn=>(bif b then(F_x n {Cond:=c}).bind λa=>(R n a).bind λf=>some (!f)else some false).bind λd=>some d) (b&&vaCs c.Parts):=by
   intro b;refine Ea ((Ei λ_=>Ea (QcB c j) (Ea i (Qa _)))) ((Qa _).eq (by simp))
  cases l:(c.Kind==4)with
  |true=>
   cases g:((c.Var==0)&&(c.N==0))with
   |true=>
    grind
   |false=>
    simp_all
  |false=>
   cases h:((c.Kind==2)||(c.Kind==3))with
   |true=>
    have e:Ev (λn=>(bif (c.Kind==2)then some (c.Kind==2)else some (c.Kind==3))) true:=by
     refine EA ?_
     grind
    cases g:((c.Var==0)&&(c.N==0))with
    |true=>
     grind
    |false=>
     refine Ea (Ea e (Qa _)) ((fin _).eq (by simp))
   |false=>
    have e:Ev (λn=>(bif (c.Kind==2)then some (c.Kind==2)else some (c.Kind==3))) false:=by
     refine EA ?_
     grind
    grind
theorem Qhw:∀(m:Nat) (l:List Uj),fZs l<=m->l.length<=2097152->(∀f∈l,fwf f)->Ev (λn=>F_w n l) (l.any λf=> !fV f):=by
 intro m
 induction m using Nat.strongRecOn with
 |_ m k=>
 intro l J L u;refine Yx ?_;show Ev (λn=>B_w (F_w n) n l) _;refine Ev.contains l _ (λn f=>F_fw (F_w n) n f) (by omega) λf r=>?_;have E:fZ f<=fZs l:=by
  have:∀(l:List Uj),f∈l->fZ f<=fZs l:=by
   intro l
   induction l with
   |nil=>simp
   |cons x l k=>
    intro h;rw[QgE]
    grind
  grind
 refine Ea (v:=fV f) ?_ (Qa _);have a:∀c:Cond,Cond.wf c->cNs c.Parts<fZ f->Ev (λn=>F_w n (c.Parts.map ofCond)) (!vaCs c.Parts):=by
  intro c j i;rw[<- QhG];obtain⟨H,z⟩:=Y9 j;refine k (fZs (c.Parts.map ofCond)) (by rw[Qej];omega) _ (XS _) (by simp;omega) ?_;intro g d;obtain⟨y,e,rfl⟩:=Xe.1 d;exact z y e
 cases f with
 |ctyping_cond x=>
  obtain⟨c⟩:=x;have j:Cond.wf c:=u _ r;exact Qfh c j (a c j (by show cNs c.Parts<cN c;rw[QbH];omega))
 |ctyping_step x=>
  obtain⟨s⟩:=x;have i:Step.wf s:=u _ r;obtain⟨t,⟨w,q⟩,⟨B,p⟩⟩:=Y7 i;show Ev _ (vaS s);rw[QjF];refine QaJ (λ_=>?_) (λF=>QaJ (λ_=>?_) λ_=>Qa _)
  .refine Ea (Ea (QF _ _ _) (Ei λ_=>?_)) (Qa _);simp only[Qfi];refine Ei λ_=>Ea (Qbj s i) ((Qa _).eq ?_);unfold stepParts;rw[XX];simp only[Vt,XV,X2,X0];omega
  .refine Ea (Ei λ_=>?_) (Qa _);refine Ea (Qfh s.Cond t (a s.Cond t (by show _<sZ s;rw[Qe0,QbH];omega))) (Ei λ_=>Ei λ_=>?_);refine Ea (Qbj s i) (Ea (k (fZs (stepParts s)) ?_ _ (XS _) (by unfold stepParts;simp;omega) ?_) ((Qa _).eq ?_))
   .have:fZs (stepParts s)<sZ s:=by
     unfold stepParts;rw[Qei,QbD,QbD,Qe0];omega
    have G:fZ (Uj.ctyping_step {Step:=s})=sZ s:=rfl;omega
   .intro g d;rcases Vy.1 d with d|d
    .obtain⟨y,e,rfl⟩:=Xe.1 d;exact q y e
    .obtain⟨y,e,rfl⟩:=Xe.1 d;exact p y e
   .unfold stepParts;rw[List.any_append,Qcg,Qcg];simp
def goodT(l:List Step):Bool:=sDs 0 l&&(decide (sNs l<=64)&&decide (sCs l<=256))
def tiesE(l:List Step):Int:=bif goodT l then(bif l.isEmpty|| !vaSs l then 71 else 0)else 2
theorem QjX(l:List Step):okL (l.map ofStep) 0 0 0=goodT l:=by
 rw[XX,QfC _ _ _ _ (by omega) (by omega), <- Qcz,Qa3,Qa4];unfold goodT
 grind
theorem QlP(l:List Step)(p:l.length<=1048576)(j:∀x∈l,Step.wf x):Ev (λn=>F_dr n l) (tiesE l):=by
 refine Ea (Qep l (by omega)) (Ea ?_ (Qa _));have a:∀f∈l.map ofStep,fwf f:=by
  intro g i;obtain⟨y,h,rfl⟩:=Xe.1 i;exact j y h
 obtain⟨m,d,k⟩:=Qku _ (l.map ofStep) 0 0 0 (XS _) (by simp;omega) a (by omega) (by omega) (by omega) (.inl (by omega)) (by omega) (by omega);rw[QjX]at d;have p3:=d.shift;refine Ea p3 ?_;unfold tiesE;cases goodT l with
 |false=>exact Qa _
 |true=>
  have e:(((l.map ofStep).length:Int)==0)=l.isEmpty:=by
   cases l<;>simp;omega
  rw[e];refine Ea (Qk λ_=>Ea (Qhw _ _ (XS _) (by simp;omega) a) (Qa _)) ?_
  grind[Qcg,Qa]
def condB(d:Nat):Int:=256*(18-(d:Int))+1000
theorem Qb0:∀(m:Nat) (c:Cond) (d:Nat),cN c<=m->d<=17->Cond.wf c->∃v:Int,Ev (λn=>F_h n c (d:Int)) v/\0<=v/\v<=condB d/\
  (d<=16/\cD (d+1) c=true/\cN c<=256->v=cN c)/\(¬(d<=16/\cD (d+1) c=true/\cN c<=256)->256<v):=by
 intro m
 induction m using Nat.strongRecOn with
 |_ m t=>
 intro c d hm hd hw;obtain⟨aa,H⟩:=Y9 hw;have B:∀{P:Int->Prop},(∃v:Int,Ev (λn=>B_h (F_h n) n c (d:Int)) v/\P v)->∃v:Int,Ev (λn=>F_h n c (d:Int)) v/\P v:=by
  rintro P ⟨v,j,e⟩;exact⟨v,Yx j,e⟩
 refine B ?_;unfold B_h;by_cases s:d<=16
 .rw[QH (show¬(16:Int)<(d:Int)by omega)];have V:i64.wrap ((d:Int)+1)=((d+1:Nat):Int):=Yd (by omega);have loop:∀(r:List Cond) (i:Nat) (a:Int),c.Parts.drop i=r->i<=c.Parts.length->0<=a->a<=condB d->
    ∃v:Int,EvI (λn=>F_ez n c (d:Int) (F_h n)) (a,(i:Int)) v/\0<=v/\v<=condB d/\
     (cDs (d+1) r=true/\a+cNs r<=256->v=a+cNs r)/\(¬(cDs (d+1) r=true/\a+cNs r<=256)->256<v):=by
   intro r
   induction r with
   |nil=>
    intro i a G L F j;refine⟨a,Ej ?_,F,j,λ_=>by simp[cNs],λh=>?_⟩
    .unfold F_ez;simp only[QT G L,Vn,XI];exact Qa _
    .simp[cDs,cNs]at h;omega
   |cons x r E=>
    intro i a G L F j;obtain⟨g,z⟩:=Qt (by omega) G;have hx:cN x<cN c:=by
     have:∀l:List Cond,x∈l->cN x<=cNs l:=by
      intro l
      induction l with
      |nil=>intro h;cases h
      |cons y l t=>
       intro h;rw[cNs];rcases X5.1 h with rfl|h
       .omega
       .have:=t h;omega
     have:=this _ g.mem;rw[QbH c];omega
    by_cases f:a<=256
    .obtain⟨v,u,J,N,k,O⟩:=t (cN x) (by omega) x (d+1) (XS _) (by omega) (H x g.mem);have hB:condB (d+1)+256=condB d:=by unfold condB;omega
     have T:condB d<=6000:=by unfold condB;omega
     have W:i64.wrap (a+v)=a+v:=Qy (by omega) (by omega);obtain⟨w,q1,X,Y,R,M⟩:=E (i+1) (a+v) z (by have:=g.lt';omega) (by omega) (by omega);refine⟨w,Ex ?_ q1,X,Y,?_,?_⟩
     .unfold F_ez;simp only[g.lt,Vm,Qz f,XI,g.ix,g.nx,V];refine Ea u ?_;rw[W];exact Qa _
     .rintro⟨e,q⟩;simp only[cDs,XV,Vo]at e;rw[cNs]at q⊢;have:=k ⟨e.1,e.2.1,by omega⟩;subst this;rw[R ⟨e.2.2,by omega⟩];omega
     .intro Q;by_cases p:d+1<=16/\cD (d+1+1) x=true/\cN x<=256
      .have:=k p;subst this;refine M λe=>Q ⟨?_,?_⟩
       .simp only[cDs,XV,Vo];exact⟨p.1,p.2.1,e.1⟩
       .rw[cNs];omega
      .have:=O p;exact M λe=>by omega
    .refine⟨a,Ej ?_,F,j,λh=>?_,λ_=>by omega⟩
     .unfold F_ez;simp only[g.lt,Vm,QH f,XI,Vn];exact Qa _
     .omega
  obtain⟨v,u,J,N,k,O⟩:=loop c.Parts 0 1 rfl (XT _) (by omega) (by unfold condB;omega);refine⟨v,Qq (Ea u.ev (Qa _)),J,N,?_,?_⟩
  .rintro⟨_,e,q⟩;rw[Qij]at e;rw[QbH]at q⊢;rw[k ⟨e,by omega⟩];omega
  grind[Qij,QbH]
 .rw[Qz (show(16:Int)<(d:Int)by omega)];refine⟨1000,Qdx (Qa _),by omega,by unfold condB;omega,λh=>absurd h.1 s,λ_=>by omega⟩
def sizeB:Nat->Int
 |0=>10000
 |k+1=>3*sizeB k
theorem Qcn:∀k,10000<=sizeB k
 |0=>Int.le_refl _
 |k+1=>by have:=Qcn k;simp[sizeB];omega
theorem QjQ{k:Nat}(h:k<=17):sizeB k<=1291401630000:=by
 have:∀j,j<=17->sizeB j<=1291401630000:=by decide+kernel
 grind
def goodL(d:Nat)(l:List Step):Prop:=sDs d l=true/\sNs l<=64/\sCs l<=256
theorem Qic:∀(m:Nat) (l:List Step) (d:Nat),sZs l<=m->d<=17->l.length<=1048576->(∀x∈l,Step.wf x)->∃a b:Int,Ev (λn=>F_k n l (d:Int)) (a,b)/\0<=a/\0<=b/\a<=sizeB (17-d)/\b<=sizeB (17-d)/\
  (goodL d l->a=sNs l/\b=sCs l)/\(¬goodL d l->64<a\/256<b):=by
 intro m
 induction m using Nat.strongRecOn with
 |_ m G=>
 intro l d hm hd hl hw;have J:∀{P:Int->Int->Prop},(∃a b:Int,Ev (λn=>B_k (F_k n) n l (d:Int)) (a,b)/\P a b)->∃a b:Int,Ev (λn=>F_k n l (d:Int)) (a,b)/\P a b:=by
  rintro P ⟨a,b,j,w⟩;exact⟨a,b,Yx j,w⟩
 refine J ?_;unfold B_k;by_cases p:0<l.length/\ ¬d<=16
 .rw[Qz (show(0:Int)<(l.length:Int)by omega),Qz (show(16:Int)<(d:Int)by omega)];have:=Qcn (17-d);refine⟨1000,1000,Ea (Qa _) (Qdx (Qa _)),by omega,by omega,by omega,by omega,λh=>?_,λ_=>by omega⟩;exfalso;cases l with
  |nil=>simp at p
  |cons x r=>
   have:=h.1;simp only[sDs,XV,Vo]at this;omega
 .have B:Ev (λn:Nat=>((bif decide (0<(l.length:Int))then some (decide (16<(d:Int)))else some false):Option Bool)) false:=by
   grind[Qa]
  have ed:i64.wrap ((d:Int)+1)=((d+1:Nat):Int):=Yd (by omega);have loop:∀(r:List Step) (i:Nat) (a b:Int),l.drop i=r->i<=l.length->0<=a->0<=b->a<=sizeB (17-d)->b<=sizeB (17-d)->
    ∃a' b':Int,EvI (λn=>F_ec n l (d:Int) (F_k n)) (a,b,(i:Int)) (a',b')/\0<=a'/\0<=b'/\a'<=sizeB (17-d)/\b'<=sizeB (17-d)/\
     (sDs d r=true/\a+sNs r<=64/\b+sCs r<=256->a'=a+sNs r/\b'=b+sCs r)/\(¬(sDs d r=true/\a+sNs r<=64/\b+sCs r<=256)->64<a'\/256<b'):=by
   intro r
   induction r with
   |nil=>
    intro i a b hr hi B j w N;refine⟨a,b,Ej ?_,B,j,w,N,λ_=>by simp[sNs,sCs],λh=>?_⟩
    .unfold F_ec;simp only[QT hr hi,Vn,XI];exact Qa _
    .simp[sDs,sNs,sCs]at h;omega
   |cons s r L=>
    intro i a b hr hi B j w N;obtain⟨g,R⟩:=Qt (by omega) hr;have aj:=g.lt';have u:d<=16:=by
     omega
    have ag:sZ s<=sZs l:=by
     have:∀l:List Step,s∈l->sZ s<=sZs l:=by
      intro l
      induction l with
      |nil=>intro h;cases h
      |cons y l G=>
       intro h;rw[sZs];rcases X5.1 h with rfl|h
       .omega
       .have:=G h;omega
     exact this _ g.mem
    by_cases e:a<=64/\b<=256
    .obtain⟨wc,⟨ad,ac⟩,⟨ae,aa⟩⟩:=Y7 (hw s g.mem);have ah:=Qe0 s;obtain⟨t,f,p1,p2,p3,p4,p5,E,V⟩:=G (sZs s.Then) (by omega) s.Then (d+1) (XS _) (by omega) ad ac;obtain⟨y1,y2,q1,q2,q3,q4,q5,q6,q7⟩:=G (sZs s.Else) (by omega) s.Else (d+1) (XS _) (by omega) ae aa;have hB:sizeB (17-d)=3*sizeB (17-(d+1)):=by
      rw[show 17-d=(17-(d+1))+1 by omega];rfl
     have ab:=Qcn (17-(d+1));have af:=QjQ (k:=17-d) (by omega);have hc:∃z:Int,0<=z/\z<=5608/\Ev (λn=>((bif (!zeroC s.Cond)then(idx l (i:Int)).bind λY=>(F_h n Y.Cond 0).bind λH=>some (i64.wrap ((i64.wrap ((i64.wrap (b+f))+y2))+H))else some (i64.wrap ((i64.wrap (b+f))+y2))):Option Int)) (b+f+y2+z)/\
       ((zeroC s.Cond||cD 1 s.Cond)=true/\(bif zeroC s.Cond then 0 else cN s.Cond)<=256->z=((bif zeroC s.Cond then 0 else cN s.Cond:Nat):Int))/\(¬((zeroC s.Cond||cD 1 s.Cond)=true/\(bif zeroC s.Cond then 0 else cN s.Cond)<=256)->256<z):=by
      have e1:i64.wrap (b+f)=b+f:=Qy (by omega) (by omega);have e2:i64.wrap (b+f+y2)=b+f+y2:=Qy (by omega) (by omega);cases hz:zeroC s.Cond with
      |true=>
       refine⟨0,by omega,by omega,?_,λ_=>by simp,λh=>absurd ⟨rfl,by simp⟩ h⟩;simp only[Xg,Vn,e1,e2];exact(Qa _).eq (by omega)
      |false=>
       obtain⟨v,u1,u2,u3,u4,u5⟩:=Qb0 _ s.Cond 0 (XS _) (by omega) wc;have X:v<=5608:=by unfold condB at u3;omega
       have e3:i64.wrap (b+f+y2+v)=b+f+y2+v:=Qy (by omega) (by omega);refine⟨v,u2,X,?_,λh=>?_,λh=>?_⟩
       .simp only[Xh,Vm,g.ix,XI,e1,e2];refine Ea u1 ?_;rw[e3];exact Qa _
       .simp only[Bool.false_or,Vn]at h⊢;exact u4 ⟨by omega,h.1,h.2⟩
       .simp only[Bool.false_or,Vn]at h;exact u5 λq=>h ⟨q.2.1,q.2.2⟩
     obtain⟨z,z0,z1,z2,z3,z4⟩:=hc;have e4:i64.wrap (a+1)=a+1:=Qy (by omega) (by omega);have e5:i64.wrap (a+1+t)=a+1+t:=Qy (by omega) (by omega);have e6:i64.wrap (a+1+t+y1)=a+1+t+y1:=Qy (by omega) (by omega);obtain⟨w1,w2,v1,v2,v3,v4,v5,v6,F⟩:=L (i+1) (a+1+t+y1) (b+f+y2+z) R (by omega) (by omega) (by omega) (by omega) (by omega);refine⟨w1,w2,Ex ?_ v1,v2,v3,v4,v5,?_,?_⟩
     .unfold F_ec;simp only[g.lt,Vm,Qz e.1,Qz e.2,XI,g.ix,g.nx,ed,Qer];refine Ea p1 (Ea q1 ?_);simp only[g.ix,XI]at z2;refine Ea z2 ?_;rw[e4,e5,e6];exact Qa _
     .rintro⟨g1,g2,g3⟩;simp only[sDs,XV,Vo,Qgf]at g1;obtain⟨ai,⟨O,T,M⟩,Q⟩:=g1;rw[sNs,Qe1]at g2⊢;rw[sCs,QdX]at g3⊢;obtain⟨k1,k2⟩:=E ⟨T,by omega,by omega⟩;obtain⟨k3,k4⟩:=q6 ⟨M,by omega,by omega⟩;have k5:=z3 ⟨O,by omega⟩;obtain⟨k6,k7⟩:=v6 ⟨Q,by omega,by omega⟩;constructor<;>omega
     .intro hn;by_cases b1:goodL (d+1) s.Then
      .obtain⟨k1,k2⟩:=E b1;by_cases b2:goodL (d+1) s.Else
       .obtain⟨k3,k4⟩:=q6 b2;by_cases W:(zeroC s.Cond||cD 1 s.Cond)=true/\(bif zeroC s.Cond then 0 else cN s.Cond)<=256
        .have k5:=z3 W;refine F λq=>hn ⟨?_,?_,?_⟩
         .simp only[sDs,XV,Vo,Qgf];exact⟨u,⟨W.1,b1.1,b2.1⟩,q.1⟩
         .rw[sNs,Qe1];omega
         .rw[sCs,QdX];omega
        .have:=z4 W;exact F λq=>by omega
       .have:=q7 b2;exact F λq=>by omega
      .have:=V b1;exact F λq=>by omega
    .refine⟨a,b,Ej ?_,B,j,w,N,λh=>?_,λ_=>?_⟩
     .unfold F_ec;have:Ev (λn:Nat=>((bif decide ((i:Int)<(l.length:Int))then(bif decide (a<=64)then some (decide (b<=256))else some false)else some false):Option Bool)) false:=by
       rw[g.lt];by_cases q:a<=64
       .rw[Qz q,QH (show¬b<=256 from λz=>e ⟨q,z⟩)];exact Qa _
       .rw[QH q];exact Qa _
      exact Ea this (Qq (Qa _))
     iterate 2 omega
  have ab:=Qcn (17-d);obtain⟨a,b,p1,p2,p3,p4,p5,E,V⟩:=loop l 0 0 0 rfl (XT _) (by omega) (by omega) (by omega) (by omega);refine⟨a,b,Ea B (Qq (Ea p1.ev (Qa _))),p2,p3,p4,p5,λh=>?_,λh=>?_⟩
  .obtain⟨k1,k2⟩:=E ⟨h.1,by have:=h.2.1;omega,by have:=h.2.2;omega⟩;constructor<;>omega
  .exact V λq=>h ⟨q.1,by omega,by omega⟩
theorem QgL:∀(m:Nat) (c:Cond),cN c<=m->Cond.wf c->Ev (λn=>F_t n c) (vaC c):=by
 intro m
 induction m using Nat.strongRecOn with
 |_ m r=>
 intro c z t;obtain⟨u,k⟩:=Y9 t;refine Yx ?_;show Ev (λn=>B_t (F_t n) n c) _;rw[QjG];have g:∀x∈c.Parts,cN x<cN c:=by
  intro x g;have:∀l:List Cond,x∈l->cN x<=cNs l:=by
   intro l
   induction l with
   |nil=>simp
   |cons y l r=>
    intro h;rw[cNs]
    grind
  have:=this _ g;rw[QbH c];omega
 have loop:Ev (λn=>iter (F_ep n c (F_t n)) n 0) (bif c.Parts.all vaC then Ctl.cont ()else Ctl.done false):=by
  refine Yr c.Parts vaC _ _ (by omega) (λi x a=>?_) ?_
  .unfold F_ep;simp only[a.lt,Vm,a.ix,XI,a.nx];refine Ea (r (cN x) (by have:=g x a.mem;omega) x (XS _) (k x a.mem)) ?_;cases vaC x<;>exact Qa _
  simp_all[F_ep,Qa]
 have fin:Ev (λn=>((bif (c.Var != 0)then some true else some (c.N != 0)):Option Bool).bind λd=>(bif d then some false else(iter (F_ep n c (F_t n)) n 0).bind λj=>match j with|.cont sb48=>(some true)|.done sb48=>some sb48)) (((c.Var==0)&&(c.N==0))&&vaCs c.Parts):=by
  refine Ea (v:= !((c.Var==0)&&(c.N==0))) (EA ?_) ?_
  .grind
  .cases((c.Var==0)&&(c.N==0))with
   |false=>exact Qa _
   |true=>
    refine Qq (Ea loop ?_)
    grind[Qfv,Qa]
 refine QaJ (λ_=>?_) (λw=>?_)
 .refine Ea (v:=_) ((Ei λ_=>Ei λ_=>Ei λ_=>Ei λ_=>Qa _).eq ?_) (Qa _);unfold inR
  grind
 .have e:Ev (λn:Nat=>((bif (c.Kind==2)then some (c.Kind==2)else some (c.Kind==3)):Option Bool)) ((c.Kind==2)||(c.Kind==3)):=EA (by rw[QkK]);refine Ea e ?_;cases f:((c.Kind==2)||(c.Kind==3))with
  |true=>
   have q:(c.Kind==4)=false:=by
    rw[VH];simp only[Bool.or_eq_true,Vt]at f;simp only[Vt,ne_eq];omega
   rw[q];have s:(bif decide ((c.Parts.length:Int)<1)then some true else some (decide (16<(c.Parts.length:Int))))=some (!(decide (0<(c.Parts.length:Int))&&decide ((c.Parts.length:Int)<=16))):=by
    rw[Qik];congr 1;rw[XX];simp only[Bool.or_eq_true,Vo,Bool.not_eq_true',Bool.and_eq_false_iff,decide_eq_false_iff_not];omega
   rw[s];cases p:(decide (0<(c.Parts.length:Int))&&decide ((c.Parts.length:Int)<=16))with
   |false=>
    refine Ea (Qa _) ((Qa _).eq (by simp))
   |true=>
    refine Ea (Qa _) (fin.eq (by simp))
  |false=>
   simp only[Vn];cases q:(c.Kind==4)with
   |true=>
    simp only[Vm];cases p:((c.Parts.length:Int)==1)with
    |false=>
     refine Ea (v:=Ctl.done false) (EA ?_) ((Qa _).eq (by simp));simp only[bne,p,Xh,Vm]
    |true=>
     refine Ea (v:=Ctl.cont ()) (EA ?_) (fin.eq (by simp));simp only[bne,p,Xg,Vn]
   |false=>
    refine Ea (Qa _) (Qa _)
theorem Qhs(c:Cond)(a:Cond.wf c)(f:cD 1 c=true)(d:cN c<=256):Ev (λn=>F_cr n c) (bif vaC c then 0 else 71):=by
 obtain⟨v,g,_,_,e,_⟩:=Qb0 _ c 0 (XS _) (by omega) a;have:=e ⟨by omega,f,d⟩;refine Ea g ?_;rw[QH (show¬256<v by omega)];refine Qq (Ea (QgL _ c (XS _) a) ?_);cases vaC c<;>exact Qa _
theorem Qiw{c:Cond}(h:zeroC c=true):cD 1 c=true/\cN c<=256:=by
 unfold zeroC at h;simp only[XV,Vt]at h;have:c.Parts=[]:=(by simp_all);rw[Qij,QbH,this];exact⟨rfl,by simp[cNs]⟩
theorem QgJ:∀(m:Nat) (l:List Step) (d:Nat),sZs l<=m->l.length<=1048576->(∀x∈l,Step.wf x)->sDs d l=true->sCs l<=256->Ev (λn=>F_e n l) (vaSs l):=by
 intro m
 induction m using Nat.strongRecOn with
 |_ m t=>
 intro l d hm hl T F hc;refine Yx ?_;show Ev (λn=>B_e (F_e n) n l) _;unfold B_e;have p:∀s∈l,sZ s<=sZs l/\sDp (d+1) s=true/\sC s<=sCs l:=by
  intro s;have:∀l:List Step,s∈l->sDs d l=true->sZ s<=sZs l/\sDp (d+1) s=true/\sC s<=sCs l:=by
   intro l
   induction l with
   |nil=>simp
   |cons y l t=>
    intro h F;simp only[sDs,XV]at F;rw[sZs,sCs]
    grind
  grind
 rw[Qfu];have loop:Ev (λn=>iter (F_ic n l (F_e n)) n 0) (bif l.all vaS then Ctl.cont ()else Ctl.done false):=by
  refine Yr l vaS _ _ (by omega) (λi s k=>?_) ?_
  .obtain⟨m1,B,X⟩:=p s k.mem;obtain⟨R,⟨u,E⟩,⟨w,z⟩⟩:=Y7 (T s k.mem);have W:=Qe0 s;have r:=QdX s;rw[Qgf]at B;simp only[XV]at B;obtain⟨H,P,V⟩:=B;have f:cD 1 s.Cond=true/\cN s.Cond<=256:=by
    cases G:zeroC s.Cond with
    |true=>exact Qiw G
    |false=>
     rw[G]at H r;simp only[Vn]at r;exact⟨by simpa using H,by omega⟩
   unfold F_ic;simp only[k.lt,Vm,k.ix,XI,k.nx,Qer];rw[QjF];cases Y:(s.Kind==1)with
   |true=>
    simp only[Vm];have e:Ev (λn:Nat=>((bif decide (s.By<1)then some true else(bif decide (5<s.By)then some true else(bif (!zeroC s.Cond)then some true else(bif ((s.Then.length:Int) != 0)then some true else some ((s.Else.length:Int) != 0))))):Option Bool)) (!(inR 1 5 s.By&&(zeroC s.Cond&&(((s.Then.length:Int)==0)&&((s.Else.length:Int)==0))))):=by
     refine(Qk λ_=>Qk λ_=>Qk λ_=>Qk λ_=>Qa _).eq ?_;unfold inR;cases zeroC s.Cond with
     |false=>simp
     |true=>
      rw[XX];simp only[Bool.or_eq_true,Vo,Bool.not_eq_true',Bool.and_eq_false_iff,decide_eq_false_iff_not,bne_iff_ne,ne_eq,Vu,Xg,Vv,Xi,false_or];omega
    cases j:(inR 1 5 s.By&&(zeroC s.Cond&&(((s.Then.length:Int)==0)&&((s.Else.length:Int)==0))))with
    |true=>rw[j]at e;exact Ea (Ea e (Qa _)) (Qa _)
    |false=>rw[j]at e;exact Ea (Ea e (Qa _)) (Qa _)
   |false=>
    simp only[Vn];cases h2:(s.Kind==2)with
    |true=>
     simp only[Vm];have e:Ev (λn=>((bif (s.By != 0)then some true else(F_cr n s.Cond).bind λq=>(bif (q != 0)then some true else(bif ((s.Then.length:Int)==0)then some true else(F_e n s.Then).bind λg=>(bif (!g)then some true else(F_e n s.Else).bind λa=>some (!a))))):Option Bool)) (!((s.By==0)&&(vaC s.Cond&&(decide (0<(s.Then.length:Int))&&(vaSs s.Then&&vaSs s.Else))))):=by
      have L:=t (sZs s.Then) (by omega) s.Then (d+1) (XS _) u E P (by omega);have M:=t (sZs s.Else) (by omega) s.Else (d+1) (XS _) w z V (by omega);have J:Ev (λn=>(F_e n s.Else).bind λa=>some (!a)) (!vaSs s.Else):=Ea M (Qa _);have O:Ev (λn=>(F_e n s.Then).bind λg=>(bif (!g)then some true else(F_e n s.Else).bind λa=>some (!a))) (!vaSs s.Then|| !vaSs s.Else):=Ea L (Qk λ_=>J);refine(Qk λ_=>Ea (Qhs s.Cond R f.1 f.2) (Qk λ_=>Qk λ_=>O)).eq ?_;have Q:((bif vaC s.Cond then(0:Int)else 71) != 0)= !vaC s.Cond:=by cases vaC s.Cond<;>rfl
      have N:((s.Then.length:Int)==0)= !decide (0<(s.Then.length:Int)):=by
       rw[XX];simp
      rw[Q,N];simp only[Bool.not_and,bne]
     cases j:((s.By==0)&&(vaC s.Cond&&(decide (0<(s.Then.length:Int))&&(vaSs s.Then&&vaSs s.Else))))with
     |true=>rw[j]at e;exact Ea (Ea e (Qa _)) (Qa _)
     |false=>rw[j]at e;exact Ea (Ea e (Qa _)) (Qa _)
    |false=>exact Ea (Qa _) (Qa _)
  simp_all[F_ic,Qa]
 refine Ea loop ?_;cases l.all vaS<;>exact Qa _
theorem Qhr(l:List Step)(i:l.length<=1048576)(g:∀x∈l,Step.wf x):Ev (λn=>F_fm n l) (tiesE l):=by
 obtain⟨a,b,r,t,y,_,_,m,p⟩:=Qic _ l 0 (XS _) (by omega) i g;refine Ea r ?_;have k:goodT l=true↔goodL 0 l:=by
  unfold goodT goodL;simp
 unfold tiesE;cases f:goodT l with
 |false=>
  have:=p (λh=>by grind);have e:(bif decide (64<a)then some true else some (decide (256<b)))=some true:=by
   grind
  exact Ea (EA e) (Qa _)
 |true=>
  have d:=k.1 f;obtain⟨w,u⟩:=m d;have s:=d.2.1;have j:=d.2.2;have e:(bif decide (64<a)then some true else some (decide (256<b)))=some false:=by
   grind
  refine Ea (EA e) (Qq ?_);have q:((l.length:Int)==0)=l.isEmpty:=by
   cases l<;>simp;omega
  rw[q];refine Ea (Qk λ_=>Ea (QgJ _ l 0 (XS _) i g d.1 j) (Qa _)) ?_
  grind[Qa]
mutual
def hP:Part->Nat
 |⟨_,_,ps⟩=>bif ps.isEmpty then 0 else 1+hPs ps
def hPs:List Part->Nat
 |[]=>0
 |p::r=>max (hP p) (hPs r)
end
theorem Ql8(p:Part):hP p=bif p.Parts.isEmpty then 0 else 1+hPs p.Parts:=by cases p;rfl
theorem Qh7{p:Part}:∀{l:List Part},p∈l->hP p<=hPs l
 |q::r,h=>by
  simp[hPs];rcases X5.1 h with rfl|h
  .omega
  .have:=Qh7 h;omega
theorem Qgp{α:Type}(l:List α):((l.length:Int)==0)=l.isEmpty:=by
 cases l<;>simp;omega
theorem QaE:∀l:List Part,l.length<=szPs l
 |[]=>XS _
 |p::r=>by have:=QaE r;rw[szPs,YB,XZ];omega
theorem Qdo:∀(m:Nat) (l:List Part) (k:Nat),szPs l<=m->k<=17->l.length<=1048576->(∀x∈l,Part.wf x)->Ev (λn=>F_l n l (k:Int)) ((min (hPs l) k:Nat):Int):=by
 intro m
 induction m using Nat.strongRecOn with
 |_ m z=>
 intro l k G F H t;refine Yx ?_;show Ev (λn=>B_l (F_l n) n l (k:Int)) _;unfold B_l;have loop:∀(r:List Part) (i:Nat) (a:Nat),l.drop i=r->i<=l.length->a<=k->EvI (λn=>F_bq n l (k:Int) (F_l n)) ((a:Int),(i:Int)) ((max a (min (hPs r) k):Nat):Int):=by
  intro r
  induction r with
  |nil=>
   intro i a e h d;refine Ej ?_;unfold F_bq;simp only[QT e h,Vn,XI];refine(Qa _).eq ?_;simp[hPs]
  |cons p r f=>
   intro i a e h q;obtain⟨d,g⟩:=Qt (by omega) e;obtain⟨y,j⟩:=Ya (t p d.mem);by_cases w:0<k
   .have u:i64.wrap ((k:Int)-1)=((k-1:Nat):Int):=by rw[Qy (by omega) (by omega)];omega
    have B:=YQ d.mem;rw[YB]at B;have step:Ev (λn=>F_bq n l (k:Int) (F_l n) ((a:Int),(i:Int))) (.cont (((max a (min (hP p) k):Nat):Int),((i+1:Nat):Int))):=by
     unfold F_bq;simp only[d.lt,Vm,Qz (show(0:Int)<(k:Int)by omega),XI,d.ix,d.nx,u,bne,Qgp];rw[Ql8];cases E:p.Parts.isEmpty with
     |true=>
      simp_all[Qa]
     |false=>
      simp only[Xh,Vm,Vn];refine Ea (Ea (z (szPs p.Parts) (by omega) p.Parts (k-1) (XS _) (by omega) y j) (Qa _)) ((Qa _).eq ?_);have s:i64.wrap (1+((min (hPs p.Parts) (k-1):Nat):Int))=((1+min (hPs p.Parts) (k-1):Nat):Int):=by rw[Qy (by omega) (by omega)];omega
      rw[s];congr 2;split<;>omega
    refine(Ex step (f (i+1) _ g (by have:=d.lt';omega) (by omega))).eq ?_;rw[hPs];omega
   simp_all[Ej,F_bq,Qa]
 refine Ea ((loop l 0 0 rfl (XT _) (XT _)).ev) ((Qa _).eq ?_);omega
theorem Qdp:∀(m:Nat) (l:List Part),szPs l<=m->l.length<=1048576->(∀x∈l,Part.wf x)->Ev (λn=>F_q n l) ((min (szPs l) 257:Nat):Int):=by
 intro m
 induction m using Nat.strongRecOn with
 |_ m B=>
 intro l F y w;refine Yx ?_;show Ev (λn=>B_q (F_q n) n l) _;have loop:∀(r:List Part) (i:Nat) (a:Nat),l.drop i=r->i<=l.length->a<=1048576->∃b:Nat,EvI (λn=>F_dm n l (F_q n)) ((a:Int),(i:Int)) (b:Int)/\min b 257=min (a+(szPs r-r.length)) 257:=by
  intro r
  induction r with
  |nil=>
   intro i a e j _;refine⟨a,Ej ?_,by simp[szPs]⟩;unfold F_dm;simp only[QT e j,Vn,XI];exact Qa _
  |cons p r f=>
   intro i a e j t;obtain⟨d,g⟩:=Qt (by omega) e;obtain⟨z,s⟩:=Ya (w p d.mem);have E:=YQ d.mem;rw[YB]at E;have u:=QaE r;by_cases q:a<=256
   .obtain⟨b,h,k⟩:=f (i+1) (a+min (szPs p.Parts) 257) g (by have:=d.lt';omega) (by omega);refine⟨b,Ex ?_ h,?_⟩
    .unfold F_dm;simp only[d.lt,Vm,Qz (show(a:Int)<=256 by omega),XI,d.ix,d.nx];refine Ea (B (szPs p.Parts) (by omega) p.Parts (XS _) z s) ((Qa _).eq ?_);rw[Qy (by omega) (by omega)];congr 2
     all_goals omega
    .rw[k,szPs,YB,XZ];omega
   .refine⟨a,Ej ?_,by omega⟩;unfold F_dm;simp only[d.lt,Vm,QH (show¬(a:Int)<=256 by omega),XI,Vn];exact Qa _
 obtain⟨b,h,k⟩:=loop l 0 l.length rfl (XT _) y;refine Ea h.ev ((Qa _).eq ?_);have:=QaE l;omega
theorem Qkt:∀(m:Nat) (l:List Part) (k:Nat),szPs l<=m->hPs l<=k->k<=17->szPs l<=256->(∀x∈l,Part.wf x)->Ev (λn=>F_r n l (k:Int)) ((hPs l:Int),(szPs l:Int)):=by
 intro m
 induction m using Nat.strongRecOn with
 |_ m y=>
 intro l k R P s j O;have u:=QaE l;refine Yx ?_;show Ev (λn=>B_r (F_r n) n l (k:Int)) _;unfold B_r;have loop:∀(r:List Part) (i:Nat) (a b:Nat),l.drop i=r->i<=l.length->a<=17->b+(szPs r-r.length)<=256->EvI (λn=>F_fp n l (k:Int) (F_r n)) ((a:Int),(b:Int),(i:Int)) (((max a (hPs r):Nat):Int),((b+(szPs r-r.length):Nat):Int)):=by
  intro r
  induction r with
  |nil=>
   intro i a b q t _ _;refine Ej ?_;unfold F_fp;simp only[QT q t,Vn,XI]
   grind[Qa,hPs,szPs]
  |cons p r g=>
   intro i a b q t M f;obtain⟨d,e⟩:=Qt (by omega) q;obtain⟨Q,B⟩:=Ya (O p d.mem);have z:=YQ d.mem;have h:=Qh7 d.mem;rw[YB]at z;have F:=QaE r;rw[szPs,YB,XZ]at f;have step:Ev (λn=>F_fp n l (k:Int) (F_r n) ((a:Int),(b:Int),(i:Int))) (.cont (((max a (hP p):Nat):Int),((b+szPs p.Parts:Nat):Int),((i+1:Nat):Int))):=by
    unfold F_fp;simp only[d.lt,Vm,d.ix,XI,d.nx,Qgp];rw[Ql8]at h⊢;cases w:p.Parts.isEmpty with
    |true=>
     have N:p.Parts=[]:=by simpa using w
     simp only[Vm,XI];rw[N];simp only[szPs,Xw,Nat.max_zero];exact Qa _
    |false=>
     rw[w]at h;simp only[Vn]at h⊢;have J:0<k:=by omega
     have H:i64.wrap ((k:Int)-1)=((k-1:Nat):Int):=by rw[Qy (by omega) (by omega)];omega
     have G:((k:Int)==0)=false:=beq_false_of_ne (by omega);rw[G,QH (show¬(256:Int)<(b:Int)by omega),H];simp only[Vn,XI];refine Ea (Ea (y (szPs p.Parts) (by omega) p.Parts (k-1) (XS _) (by omega) (by omega) (by omega) B) (Qa _)) ((Qa _).eq ?_);have L:i64.wrap ((hPs p.Parts:Int)+1)=((hPs p.Parts+1:Nat):Int):=Yd (by omega);have E:i64.wrap ((b:Int)+(szPs p.Parts:Int))=((b+szPs p.Parts:Nat):Int):=by rw[Qy (by omega) (by omega)];omega
     simp only[L,E];congr 2;split<;>omega
   refine(Ex step (g (i+1) _ _ e (by have:=d.lt';omega) (by omega) (by omega))).eq ?_;rw[hPs,szPs,YB,XZ];congr 1<;>omega
 refine Ea ((loop l 0 0 l.length rfl (XT _) (by omega) (by omega)).ev) ((Qa _).eq ?_)
 grind
def repS:Nat->List Int->List Int->List Int
 |0,out,_=>out
 |k+1,out,lap=>if 256<out.length then out else repS k (out++lap) lap
mutual
def lapS:Part->List Int
 |⟨m,laps,ps⟩=>bif decide (0<laps)then expS [] ps else[m]
def expS:List Int->List Part->List Int
 |out,[]=>out
 |out,p::r=>expS (repS (p.Laps.toNat+(bif decide (0<p.Laps)then 0 else 1)) out (lapS p)) r
end
theorem Qaw(p:Part):lapS p=bif decide (0<p.Laps)then expS [] p.Parts else[p.Mat]:=by cases p;rfl
theorem Qcs{k:Nat}{a d:List Int}(h:256<a.length):repS k a d=a:=by
 cases k with
 |zero=>rfl
 |succ k=>rw[repS,Vq h]
theorem QcA:∀(l:List Part) {out:List Int},256<out.length->expS out l=out
 |[],out,h=>by rw[expS]
 |p::r,out,h=>by rw[expS,Qcs h];exact QcA r h
theorem Qcr:∀(k:Nat) (out lap:List Int),(repS k out lap).length<=max out.length (256+lap.length)
 |0,out,lap=>by rw[repS];omega
 |k+1,out,lap=>by
  rw[repS];split
  .omega
  .have:=Qcr k (out++lap) lap
   grind
theorem Qeo:∀(m:Nat) (l:List Part) (a:List Int),szPs l<=m->(expS a l).length<=max a.length (256+257*szPs l):=by
 intro m
 induction m using Nat.strongRecOn with
 |_ m j=>
 intro l;have e:∀p∈l,szPs l<=m->(lapS p).length<=257*szP p:=by
  intro p f n;have s:=YQ f;rw[Qaw,YB]at*;cases decide (0<p.Laps)with
  |true=>
   have:=j (szPs p.Parts) (by omega) p.Parts [] (XS _)
   grind
  |false=>simp;omega
 have g:∀(r:List Part) (a:List Int),(∀p∈r,(lapS p).length<=257*szP p)->(expS a r).length<=max a.length (256+257*szPs r):=by
  intro r
  induction r with
  |nil=>intro a _;rw[expS];omega
  |cons p r d=>
   intro a i;rw[expS,szPs];have k:=d (repS (p.Laps.toNat+(bif decide (0<p.Laps)then 0 else 1)) a (lapS p)) λq h=>i q (by simp[h])
   grind[Qcr]
 grind
theorem Qgt(p:Part):(lapS p).length<=257*szP p:=by
 rw[Qaw,YB];cases decide (0<p.Laps)with
 |true=>
  have:=Qeo _ p.Parts [] (XS _)
  grind
 |false=>simp;omega
theorem QiY(X:Int):∀(m:Nat) (l:List Part),szPs l<=m->szPs l<=256->l.length<=1048576->(∀x∈l,Part.wf x)->partsS X l=true->Ev (λn=>F_o n l) (expS [] l):=by
 intro m
 induction m using Nat.strongRecOn with
 |_ m T=>
 intro l hm L hl hw Q;rw[YY,Xs]at Q;refine Yx ?_;show Ev (λn=>B_o (F_o n) n l) _;unfold B_o;have inner:∀(p:Part) (e:List Int) (g:p.Laps=0\/0<p.Laps/\p.Laps<=64) (z:e.length<=100000) (j:Nat) (k:Nat) (a:List Int),j+k=p.Laps.toNat+(bif decide (0<p.Laps)then 0 else 1)->a.length<=200000->
   ∃d:Ctl (List Int) (Ctl ((List Int)×Int) (Ctl (List Int) (List Int))),EvI (λn=>F_fc n p e) (a,(j:Int)) d/\
    (d=.cont (repS k a e)\/(256<(repS k a e).length/\d=.done (.done (.done (repS k a e))))):=by
  intro p e g z j k
  induction k generalizing j with
  |zero=>
   intro a B _;refine⟨_,Ej (b:=.cont a) ?_,.inl rfl⟩;unfold F_fc;have:¬((j:Int)<if p.Laps<1 then 1 else p.Laps):=by
    grind
   rw[QH this];exact Qa _
  |succ k G=>
   intro a B E;have u:((j:Int)<if p.Laps<1 then 1 else p.Laps):=by
    rcases g with h|⟨h,h'⟩
    .rw[h]at B⊢;simp at B⊢;omega
    .rw[Qz h]at B;simp at B;rw[Vp (by omega)];omega
   by_cases s:256<a.length
   .refine⟨_,Ej (b:=.done (.done (.done a))) ?_,.inr ⟨by rw[Qcs s];exact s,by rw[Qcs s]⟩⟩;unfold F_fc;rw[Qz u,Qz (show(256:Int)<(a.length:Int)by omega)];exact Qa _
   .obtain⟨d,q,w⟩:=G (j+1) (a++e) (by omega) (by rw[X2];omega);refine⟨d,Ex ?_ q,by rw[repS,Vp s];exact w⟩;unfold F_fc;rw[Qz u,QH (show¬(256:Int)<(a.length:Int)by omega)];refine Qdx (Qq (Qx (Y6 a e (by omega)) ?_));rw[Yd (by omega)];exact Qa _
 have loop:∀(r:List Part) (i:Nat) (a:List Int),l.drop i=r->i<=l.length->a.length<=100000->
   ∃d:Ctl (List Int) (List Int),EvI (λn=>F_fz n l (F_o n)) (a,(i:Int)) d/\(d=.cont (expS a r)\/d=.done (expS a r)):=by
  intro r
  induction r with
  |nil=>
   intro i a N O _;refine⟨.cont a,Ej ?_,.inl (by rw[expS])⟩;unfold F_fz;simp only[QT N O,Vn];exact Qa _
  |cons p r J=>
   intro i a N O E;obtain⟨f,H⟩:=Qt (by omega) N;have u:=f.lt';have V:=YQ f.mem;obtain⟨Y,W⟩:=Ya (hw p f.mem);have g:=Q p f.mem;rw[QaY]at g;have t:p.Laps=0\/0<p.Laps/\p.Laps<=64:=by
    cases P:(p.Laps==0)with
    |true=>exact .inl (by simpa using P)
    |false=>
     rw[P]at g;simp only[Vn,inR,XV,Vo]at g;exact .inr ⟨by omega,by omega⟩
   have R:=Qgt p;have s:Ev (λn=>((bif decide (0<p.Laps)then(F_o n p.Parts).bind λM=>some M else some [p.Mat]):Option (List Int))) (lapS p):=by
    rw[Qaw];refine QaJ (λh=>?_) (λ_=>Qa _);rw[YB]at V;refine Ea (T (szPs p.Parts) (by omega) p.Parts (XS _) (by omega) Y W ?_) (Qa _);have:(p.Laps==0)=false:=by
     simp only[Vo]at h;exact beq_false_of_ne (by omega)
    rw[this]at g;simp only[Vn,XV]at g;exact g.2.2.2
   obtain⟨d,q,w⟩:=inner p (lapS p) t (by omega) 0 _ a (Xv _) (by omega);rw[expS];rcases w with rfl|⟨y,rfl⟩
   .obtain⟨F,q1,q2⟩:=J (i+1) (repS (p.Laps.toNat+(bif decide (0<p.Laps)then 0 else 1)) a (lapS p)) H (by omega) (by
     have:=Qcr (p.Laps.toNat+(bif decide (0<p.Laps)then 0 else 1)) a (lapS p);omega)
    refine⟨F,Ex ?_ q1,q2⟩;unfold F_fz;simp only[f.lt,Vm,f.ix,XI,f.nx];exact Ea s (Ea q.ev (Qa _))
   .refine⟨.done (repS (p.Laps.toNat+(bif decide (0<p.Laps)then 0 else 1)) a (lapS p)),Ej ?_,.inr (by rw[QcA r y])⟩;unfold F_fz;simp only[f.lt,Vm,f.ix,XI,f.nx];exact Ea s (Ea q.ev (Qa _))
 obtain⟨d,q,w⟩:=loop l 0 [] rfl (XT _) (by simp);rcases w with rfl|rfl
 iterate 2 exact Ea q.ev (Qa _)
theorem QfM(O:Int):∀(m:Nat) (l:List Part),szPs l<=m->szPs l<=256->l.length<=1048576->(∀x∈l,Part.wf x)->partsS O l=true->Ev (λn=>F_u n l) (expS [] l):=by
 intro m
 induction m using Nat.strongRecOn with
 |_ m L=>
 intro l W B X V J;rw[YY,Xs]at J;refine Yx ?_;show Ev (λn=>B_u (F_u n) n l) _;unfold B_u;have inner:∀(p:Part) (i:Nat) (e:At l i p) (H:List Int) (f:List Int) (g:0<p.Laps/\p.Laps<=64) (q:f.length<=100000) (j:Nat) (k:Nat) (a:List Int),j+k=p.Laps.toNat->a.length<=200000->
   EvI (λn=>F_fo n l (H,(i:Int)) f) (a,(j:Int)) (repS k a f):=by
  intro p i e H f g q j k
  induction k generalizing j with
  |zero=>
   intro a Q _;refine Ej ?_;unfold F_fo;simp only[e.ix,XI];rw[QH (show¬(j:Int)<p.Laps by omega)];exact Qa _
  |succ k u=>
   intro a Q s;by_cases h:256<a.length
   .refine Ej ?_;rw[Qcs h];unfold F_fo;simp only[e.ix,XI];rw[Qz (show(j:Int)<p.Laps by omega),QH (show¬(a.length:Int)<=256 by omega)];exact Qa _
   .rw[repS,Vp h];refine Ex ?_ (u (j+1) (a++f) (by omega) (by rw[X2];omega));unfold F_fo;simp only[e.ix,XI];rw[Qz (show(j:Int)<p.Laps by omega),Qz (show(a.length:Int)<=256 by omega)];simp only[Vm,XI];refine Qx (Y6 a f (by omega)) ?_;rw[Yd (by omega)];exact Qa _
 have loop:∀(r:List Part) (i:Nat) (a:List Int),l.drop i=r->i<=l.length->a.length<=100000->
   EvI (λn=>F_fq n l (F_u n)) (a,(i:Int)) (expS a r):=by
  intro r
  induction r with
  |nil=>
   intro i a E F _;refine Ej ?_;rw[expS];unfold F_fq;simp only[QT E F,Vn,XI];exact Qa _
  |cons p r z=>
   intro i a E F s;obtain⟨e,y⟩:=Qt (by omega) E;have R:=e.lt';have M:=YQ e.mem;by_cases h:256<a.length
   .rw[QcA _ h];refine Ej ?_;unfold F_fq;simp only[e.lt,Vm,QH (show¬(a.length:Int)<=256 by omega),XI,Vn];exact Qa _
   obtain⟨P,N⟩:=Ya (V p e.mem);have g:=J p e.mem;rw[QaY]at g;have w:=Qgt p;rw[expS];refine Ex ?_ (z (i+1) _ y (by omega) (by
    have:=Qcr (p.Laps.toNat+(bif decide (0<p.Laps)then 0 else 1)) a (lapS p);omega))
   unfold F_fq;simp only[e.lt,Vm,Qz (show(a.length:Int)<=256 by omega),XI,e.ix,e.nx];cases G:(p.Laps==0)with
   |true=>
    have T:p.Laps=0:=by simpa using G
    simp only[Vm];refine Ea (Qx (Y6 a [p.Mat] (by simp;omega)) (Qa _)) ((Qa _).eq ?_);rw[Qaw,T];simp[repS,h]
   |false=>
    rw[G]at g;simp only[Vn,XV,inR,Vo]at g;have d:0<p.Laps/\p.Laps<=64:=⟨by omega,by omega⟩;simp only[Vn];rw[YB]at M;refine Ea (Ea (L (szPs p.Parts) (by omega) p.Parts (XS _) (by omega) P N g.2.2.2) (Ea ?_ (Qa _))) (Qa _);have t:=Qaw p;rw[Qz d.1,Vm]at t;have:=(inner p i e a (expS [] p.Parts) d (by rw[<- t];rw[YB]at w;omega) 0 p.Laps.toNat a (by omega) (by omega)).ev;rw[<- t]at this⊢;rw[Qz d.1];exact this
 exact Ea (loop l 0 [] rfl (XT _) (by simp)).ev (Qa _)
def kindAt(c:Course)(m:Int):Int:=((c.Mats[m.toNat]?).map (·.Kind)).getD 0
def hasLeg(c:Course)(a b:Int):Bool:=c.Legs.any λl=>(l.From==a)&&(l.To==b)
def rokS(c:Course)(len:Nat):Nat->Int->List Int->Bool
 |_,_,[]=>true
 |i,prev,m::r=>((kindAt c m==1)==decide (i=0))&&(((kindAt c m==3)==decide (i+1=len))&&((decide (i=0)||hasLeg c prev m)&&rokS c len (i+1) m r))
def routeR(c:Course)(d:Distance)(r:List Int):Bool:=
 (decide (2<=r.length)&&decide (r.length<=256))&&(rokS c r.length 0 0 r&&((bif decide (0<=d.Extra)then !((r.count d.Extra:Int)==0)&&((kindAt c d.Extra==2)&&hasLeg c d.Extra d.Extra)else true)&&d.Cutoffs.all λx=>decide (x.Lap<=(r.count x.Mat:Int))))
def routeS(c:Course)(d:Distance):Bool:=routeR c d (expS [] d.Route)
def cntM(l:List Int):List (Int×Int):=l.foldl (λm k=>QY m k (QA m k 0+1)) []
theorem Qi5(l:List Int)(k:Int):cntM (l++[k])=QY (cntM l) k (QA (cntM l) k 0+1):=by unfold cntM;simp
theorem QeB(l:List Int)(k:Int):QA (cntM l) k 0=(l.count k:Int):=by
 have a:∀(l:List Int) (m:List (Int×Int)),QA (l.foldl (λm k=>QY m k (QA m k 0+1)) m) k 0=QA m k 0+l.count k:=by
  intro l
  induction l with
  |nil=>simp
  |cons x l d=>
   grind[Qd5]
 grind[cntM,QiL]
theorem Qhk(d:Int):∀(m:Nat) (l:List Part) (a:List Int),szPs l<=m->partsS d l=true->(∀x∈a,0<=x/\x<=d)->∀x∈expS a l,0<=x/\x<=d:=by
 intro m
 induction m using Nat.strongRecOn with
 |_ m w=>
 intro l;have rep:∀(k:Nat) (a e:List Int),(∀x∈a,0<=x/\x<=d)->(∀x∈e,0<=x/\x<=d)->∀x∈repS k a e,0<=x/\x<=d:=by
  intro k
  induction k with
  |zero=>intro a e t _;exact t
  |succ k q=>
   grind[repS]
 have s:∀(r:List Part) (a:List Int),szPs r<=m->partsS d r=true->(∀x∈a,0<=x/\x<=d)->∀x∈expS a r,0<=x/\x<=d:=by
  intro r
  induction r with
  |nil=>intro a _ _ h;exact h
  |cons p r i=>
   intro a u j h;rw[szPs,YB]at u;rw[partsS,XV]at j;obtain⟨f,y⟩:=j;refine i _ (by omega) y (rep _ _ _ h ?_);rw[Qaw];rw[QaY]at f;cases g:(p.Laps==0)with
   |true=>
    have e0:=by simpa using g
    rw[g,Vm,XV]at f;have:=f.1;unfold inR at this;simp[XV,Vo]at this;rw[e0];intro x n;simp at n;subst n;exact this
   |false=>
    rw[g]at f;simp[Vn,XV,inR,Vo]at f;rw[Qz (show 0<p.Laps by omega),Vm];exact w (szPs p.Parts) (by omega) p.Parts [] (XS _) f.2.2.2 (by simp)
 grind
theorem Qcv{c:Course}{m:Int}(e:0<=m)(d:m<=(c.Mats.length:Int)-1):∃x:Mat,idx c.Mats m=some x/\x.Kind=kindAt c m:=by
 obtain⟨k,rfl⟩:∃k:Nat,m=k:=⟨m.toNat,by omega⟩;have a:k<c.Mats.length:=by omega
 simp_all[Qu,kindAt]
theorem Qgq(c:Course)(a b:Int):QA (QW legKey true c.Legs) {from_:=a,to_:=b} false=hasLeg c a b:=by
 rw[Qdj];by_cases h:{from_:=a,to_:=b}∈c.Legs.map legKey
 .rw[Vq h];obtain⟨l,d,e⟩:=Xe.1 h;obtain⟨g,f⟩:=ends_eq.1 e;exact(Xt.2 ⟨l,d,by simp[g,f]⟩).symm
 .rw[Vp h]
  symm
  rw[VH];intro q;obtain⟨l,d,e⟩:=Xt.1 q;simp[XV,Vt]at e
  grind[legKey]
theorem QkA(c:Course)(w:CourseOk c)(a b:Int):∃v:Int,Ev (λn=>F_al n c a b) v/\decide (v<0)= !hasLeg c a b:=by
 have q:c.Legs.length<=4611686018427387904:=by have:=w.legs;omega
 have step:∀i x,At c.Legs i x->Ev (λn=>F_eb n c a b i) (bif (x.From==a)&&(x.To==b)then .done (.done i)else .cont (i+1)):=by
  intro i x e;unfold F_eb;simp only[e.lt,e.ix,e.nx];refine Ea (Ei λ_=>Qa _) ?_
  grind[Qa]
 have loop:∀(r:List Leg) (i:Nat),c.Legs.drop i=r->i<=c.Legs.length->∃d:Ctl Unit Int,EvI (λn=>F_eb n c a b) i d/\((r.any λl=>(l.From==a)&&(l.To==b))=true->∃j:Nat,d=.done j)/\((r.any λl=>(l.From==a)&&(l.To==b))=false->d=.cont ()):=by
  intro r
  induction r with
  |nil=>
   intro i m p;refine⟨.cont (),Ej ?_,λh=>(by simp at h),λ_=>rfl⟩
   grind[F_eb,QT,Qa]
  |cons x r u=>
   intro i m p;obtain⟨e,k⟩:=Qt q m;have s:=step i x e;rw[List.any_cons];cases h:((x.From==a)&&(x.To==b))with
   |true=>
    rw[h]at s;exact⟨.done i,Ej s,λ_=>⟨i,rfl⟩,λh=>by simp at h⟩
   |false=>
    rw[h]at s;obtain⟨d,f,g⟩:=u (i+1) k (by have:=e.lt';omega);exact⟨d,Ex s f,by simpa using g⟩
 obtain⟨d,f,g,t⟩:=loop c.Legs 0 rfl (XT _);unfold hasLeg;cases h:c.Legs.any λl=>(l.From==a)&&(l.To==b)with
 |true=>
  obtain⟨j,rfl⟩:=g h;exact⟨j,Ea f.ev (Qa _),by simp⟩
 |false=>
  obtain rfl:=t h;exact⟨-1,Ea f.ev (Qa _),by simp⟩
theorem QgO(l:List Int)(k:Int)(s:l.length<=1048576):Ev (λn=>F_bc n l k) (l.count k:Int):=by
 have loop:∀(r:List Int) (i:Nat) (a:Nat),l.drop i=r->i<=l.length->a<=i->EvI (λn=>F_et n l k) (a,i) (a+r.count k):=by
  intro r
  induction r with
  |nil=>
   grind[EvI.done,F_et,QT,Qa]
  |cons x r f=>
   intro i a p q m;obtain⟨d,e⟩:=Qt (by omega) p;have g:=d.lt';have j:i64.wrap (a+1)=a+1:=Yd (by omega);rw[List.count_cons];cases h:(x==k)with
   |true=>
    refine(Ex ?_ (f (i+1) (a+1) e (by omega) (by omega))).eq ?_
    .unfold F_et;simp only[d.lt,d.ix,XI,d.nx,h,j];exact Qa _
    grind
   |false=>
    refine(Ex ?_ (f (i+1) a e (by omega) (by omega))).eq ?_
    .unfold F_et;simp only[d.lt,d.ix,XI,d.nx,h];exact Qa _
    .simp
 exact Ea ((loop l 0 0 rfl (XT _) (XS _)).ev) ((Qa _).eq (by omega))
structure NumOk (c:Course):Prop where
 kinds:∀m∈c.Mats,1<=m.Kind/\m.Kind<=3
 dist:∀d∈c.Distances,-1<=d.Extra/\d.Extra<=(c.Mats.length:Int)-1/\partsS ((c.Mats.length:Int)-1) d.Route=true
theorem Qg3{c:Course}(h:numbersS c=true):NumOk c:=by
 unfold numbersS at h;simp[XV,Xs]at h;refine⟨λm a=>?_,λd e=>?_⟩
 .grind[inR]
 simp_all[distS,inR]
theorem QiM{c:Course}(q:NumOk c){m:Int}(d:0<=m)(f:m<=(c.Mats.length:Int)-1):1<=kindAt c m/\kindAt c m<=3:=by
 obtain⟨x,a,g⟩:=Qcv d f;have:=by
  obtain⟨_,e⟩:=Qbh a;exact VC e
 rw[<- g];exact q.kinds x this
theorem Qkj{c:Course}(q:NumOk c){d:Distance}(hd:d∈c.Distances):∀x∈expS [] d.Route,0<=x/\x<=(c.Mats.length:Int)-1:=
 Qhk _ _ d.Route [] (XS _) (q.dist d hd).2.2 (by simp)
theorem Qgj(c:Course)(len i:Nat)(prev m:Int)(r:List Int):rokS c len i prev (m::r)=(((kindAt c m==1)==decide (i=0))&&(((kindAt c m==3)==decide (i+1=len))&&((decide (i=0)||hasLeg c prev m)&&rokS c len (i+1) m r))):=rfl
theorem Qh2(i:Nat):((i:Int)==0)=decide (i=0):=by
 grind
theorem QeT(c:Course)(r:List Int)(G:2<=r.length)(R:r.length<=256)(N:∀x∈r,0<=x/\x<=(c.Mats.length:Int)-1):
  Ev (λn=>iter (F_bs n c (QW legKey true c.Legs) r) n ([],0)) (bif rokS c r.length 0 0 r then .cont (cntM r)else .done false):=by
 have loop:∀(t:List Int) (i:Nat) (d:Int),r.drop i=t->i<=r.length->(0<i->At r (i-1) d)->EvI (λn=>F_bs n c (QW legKey true c.Legs) r) (cntM (r.take i),(i:Int)) (bif rokS c r.length i d t then .cont (cntM r)else .done false):=by
  intro t
  induction t with
  |nil=>
   intro i d j s _;refine Ej ?_;unfold F_bs;simp only[QT j s,Vn,rokS,Vm]
   simp_all[VD,Qa]
  |cons m t z=>
   intro i d j s B;obtain⟨e,k⟩:=Qt (by omega) j;have Q:=e.lt';obtain⟨O,y⟩:=N m e.mem;obtain⟨x,L,H⟩:=Qcv O y;have M:i64.wrap ((r.length:Int)-1)=((r.length-1:Nat):Int):=by rw[Qy (by omega) (by omega)];omega
   have E:((i:Int)==((r.length-1:Nat):Int))=decide (i+1=r.length):=by grind
   have P:Ev (λn:Nat=>((bif ((x.Kind==1) != ((i:Int)==0))then some true else(bif ((x.Kind==3) != ((i:Int)==(i64.wrap ((r.length:Int)-1))))then some true else(bif decide (0<(i:Int))then(idx r (i64.wrap ((i:Int)-1))).bind λp=>(some (QA (QW legKey true c.Legs) ({from_:=p,to_:=m:Ui}) false)).bind λq=>some (!q)else some false))):Option Bool))
     (!(((kindAt c m==1)==decide (i=0))&&(((kindAt c m==3)==decide (i+1=r.length))&&(decide (i=0)||hasLeg c d m)))):=by
    rw[H,M,E,Qh2];refine Ew (Qk λ_=>Qk λ_=>QaJ (v:= !hasLeg c d m) (w:=false) (λh=>?_) λ_=>Qa _) ?_
    .have g:0<i:=by simpa using h
     have J:i64.wrap ((i:Int)-1)=((i-1:Nat):Int):=by rw[Qy (by omega) (by omega)];omega
     rw[J,(B g).ix];simp only[XI,Qgq];exact Qa _
    grind
   have f:i64.wrap (QA (cntM (r.take i)) m 0+1)=QA (cntM (r.take i)) m 0+1:=by
    rw[QeB];have:(r.take i).count m<=i:=by have:=List.count_le_length (a:=m) (l:=r.take i);simp at this;omega
    exact Qy (by omega) (by omega)
   have step:Ev (λn=>F_bs n c (QW legKey true c.Legs) r (cntM (r.take i),(i:Int))) (bif ((kindAt c m==1)==decide (i=0))&&(((kindAt c m==3)==decide (i+1=r.length))&&(decide (i=0)||hasLeg c d m))then .cont (cntM (r.take (i+1)),((i+1:Nat):Int))else .done (.done false)):=by
    unfold F_bs;simp only[e.lt,Vm,e.ix,XI,e.nx,L];refine Ea P ?_;rw[f, <- Qi5, <- e.take];cases(((kindAt c m==1)==decide (i=0))&&(((kindAt c m==3)==decide (i+1=r.length))&&(decide (i=0)||hasLeg c d m)))<;>exact Qa _
   have F:rokS c r.length i d (m::t)=((((kindAt c m==1)==decide (i=0))&&(((kindAt c m==3)==decide (i+1=r.length))&&(decide (i=0)||hasLeg c d m)))&&rokS c r.length (i+1) m t):=by rw[Qgj];simp only[Bool.and_assoc]
   rw[F];cases u:(((kindAt c m==1)==decide (i=0))&&(((kindAt c m==3)==decide (i+1=r.length))&&(decide (i=0)||hasLeg c d m)))with
   |false=>
    rw[u]at step;exact Ej step
   |true=>
    rw[u]at step;rw[Vv];exact Ex step (z (i+1) m k (by omega) (λ_=>by simpa using e))
 exact(loop r 0 0 rfl (XT _) (by omega)).ev
theorem Qhv(c:Course)(w:CourseOk c)(q:NumOk c)(d:Distance)(e:d∈c.Distances)(t:∀x∈d.Route,Part.wf x)(l:szPs d.Route<=256):
  Ev (λn=>F_bx n c d (QW legKey true c.Legs)) (routeS c d):=by
 have j:=QaE d.Route;have k:=Qkj q e;have a:=Qeo _ d.Route [] (XS _);unfold F_bx routeS;refine Ea (QiY _ _ d.Route (XS _) l (by omega) t (q.dist d e).2.2) ?_;generalize expS [] d.Route=r at k a⊢;unfold routeR;have e3:=by
  have:r.length<=1048576:=by simp at a;omega
  exact QaD this
 rw[e3];have m:(decide ((r.length:Int)-1<1)||decide (256<=(r.length:Int)-1))= !(decide (2<=r.length)&&decide (r.length<=256)):=by
  grind
 refine Ea (Ew (Qk λ_=>Qa _) m) ?_;cases g:(decide (2<=r.length)&&decide (r.length<=256))with
 |false=>exact Qa _
 |true=>
  simp[XV,Vo]at g;refine Qq (Ea (QeT c r g.1 g.2 k) ?_);cases rokS c r.length 0 0 r with
  |false=>exact Qa _
  |true=>
   have u:Ev (λn=>(bif decide (0<=d.Extra)then(some (QA (cntM r) d.Extra 0)).bind λh=>(bif (h==0)then some true else(idx c.Mats d.Extra).bind λf=>(bif (f.Kind != 2)then some true else(some (QA (QW legKey true c.Legs) ({from_:=d.Extra,to_:=d.Extra:Ui}) false)).bind λi=>some (!i)))else some false))
     (!(bif decide (0<=d.Extra)then !((r.count d.Extra:Int)==0)&&((kindAt c d.Extra==2)&&hasLeg c d.Extra d.Extra)else true)):=by
    rw[QeB];cases y:decide (0<=d.Extra)with
    |false=>exact Qa _
    |true=>
     obtain⟨x,s,p⟩:=Qcv (by simpa using y) (q.dist d e).2.1;simp only[XI,s,Qgq,p];refine Ew (Qk λ_=>Qk λ_=>Qa _) ?_;rw[bne];cases((r.count d.Extra:Int)==0)<;>cases(kindAt c d.Extra==2)<;>cases hasLeg c d.Extra d.Extra<;>rfl
   refine Ea u ?_;cases(bif decide (0<=d.Extra)then !((r.count d.Extra:Int)==0)&&((kindAt c d.Extra==2)&&hasLeg c d.Extra d.Extra)else true)with
   |false=>exact Qa _
   |true=>
    refine Qq (Ea ?_ (Qa _));refine Jd d.Cutoffs _ (λn x=>F_cv n x (cntM r)) (by have:=w.cut d e;omega) λx _=>?_;unfold F_cv;rw[QeB];exact Qa _
theorem Qes(c:Course)(w:CourseOk c)(q:NumOk c)(r:List Int)(M:2<=r.length)(X:r.length<=256)(R:∀x∈r,0<=x/\x<=(c.Mats.length:Int)-1):
  Ev (λn=>iter (F_ch n c r) n 0) (bif rokS c r.length 0 0 r then .cont ()else .done false):=by
 have loop:∀(t:List Int) (i:Nat) (a:Int),r.drop i=t->i<=r.length->(0<i->At r (i-1) a)->EvI (λn=>F_ch n c r) (i:Int) (bif rokS c r.length i a t then .cont ()else .done false):=by
  intro t
  induction t with
  |nil=>
   intro i a j y _;refine Ej ?_;unfold F_ch;simp only[QT j y,Vn,rokS,Vm];exact Qa _
  |cons m t F=>
   intro i a j y H;obtain⟨f,k⟩:=Qt (by omega) j;have V:=f.lt';obtain⟨z,u⟩:=R m f.mem;obtain⟨x,P,N⟩:=Qcv z u;have W:=QiM q z u;have Q:i64.wrap ((r.length:Int)-1)=((r.length-1:Nat):Int):=by rw[Qy (by omega) (by omega)];omega
   have J:((i:Int)==((r.length-1:Nat):Int))=decide (i+1=r.length):=by grind
   have step:Ev (λn=>F_ch n c r (i:Int)) (bif ((kindAt c m==1)==decide (i=0))&&(((kindAt c m==3)==decide (i+1=r.length))&&(decide (i=0)||hasLeg c a m))then .cont ((i+1:Nat):Int)else .done (.done false)):=by
    unfold F_ch;simp only[f.lt,Vm,f.ix,XI,f.nx,P,N,Q,J,Qh2];refine Ea (v:=if i=0 then 1 else if i+1=r.length then 3 else 2) (EA ?_) ?_
    .by_cases e:i=0
     .simp[e]
     .by_cases h:i+1=r.length
      iterate 2 simp[e,h]
    refine Ea (v:= !(((kindAt c m==1)==decide (i=0))&&(((kindAt c m==3)==decide (i+1=r.length))&&(decide (i=0)||hasLeg c a m)))) ?_ ?_
    .have T:Ev (λn:Nat=>(bif decide (0<(i:Int))then(idx r (i64.wrap ((i:Int)-1))).bind λl=>(F_al n c l m).bind λs=>some (decide (s<0))else some false:Option Bool)) (!(decide (i=0)||hasLeg c a m)):=by
      by_cases e:i=0
      .subst e;exact Qa _
      .have O:i64.wrap ((i:Int)-1)=((i-1:Nat):Int):=by rw[Qy (by omega) (by omega)];omega
       obtain⟨v,G,E⟩:=QkA c w a m;rw[Qz (show(0:Int)<(i:Int)by omega),O,(H (by omega)).ix,QH e];exact Ea G ((Qa _).eq (by rw[E];rfl))
     refine Ew (Qk λ_=>T) ?_;have p:(kindAt c m != if i=0 then 1 else if i+1=r.length then 3 else 2)= !(((kindAt c m==1)==decide (i=0))&&((kindAt c m==3)==decide (i+1=r.length))):=by
      have d:kindAt c m=1\/kindAt c m=2\/kindAt c m=3:=by omega
      by_cases e:i=0
      .rcases d with g|g|g<;>simp[g,e,show¬1=r.length by omega]
      .by_cases h:i+1=r.length
       .rcases d with g|g|g<;>simp[g,e,h]
       .rcases d with g|g|g<;>simp[g,e,h]
     rw[p];cases((kindAt c m==1)==decide (i=0))<;>cases((kindAt c m==3)==decide (i+1=r.length))<;>cases(decide (i=0)||hasLeg c a m)<;>rfl
    grind[Qa]
   have L:rokS c r.length i a (m::t)=((((kindAt c m==1)==decide (i=0))&&(((kindAt c m==3)==decide (i+1=r.length))&&(decide (i=0)||hasLeg c a m)))&&rokS c r.length (i+1) m t):=by rw[Qgj];simp only[Bool.and_assoc]
   rw[L];cases B:(((kindAt c m==1)==decide (i=0))&&(((kindAt c m==3)==decide (i+1=r.length))&&(decide (i=0)||hasLeg c a m)))with
   |false=>
    rw[B]at step;exact Ej step
   |true=>
    rw[B]at step;rw[Vv];exact Ex step (F (i+1) m k (by omega) (λ_=>by simpa using f))
 exact(loop r 0 0 rfl (XT _) (by omega)).ev
theorem QgK(c:Course)(w:CourseOk c)(q:NumOk c)(d:Distance)(a:d∈c.Distances)(G:∀x∈d.Route,Part.wf x)(u:szPs d.Route<=256):
  Ev (λn=>F_dg n c d) (routeS c d):=by
 have p:=QaE d.Route;have m:=Qkj q a;have f:=Qeo _ d.Route [] (XS _);unfold F_dg routeS;refine Ea (QfM _ _ d.Route (XS _) u (by omega) G (q.dist d a).2.2) ?_;generalize expS [] d.Route=r at m f⊢;unfold routeR;have B:(decide ((r.length:Int)<2)||decide (256<(r.length:Int)))= !(decide (2<=r.length)&&decide (r.length<=256)):=by
  grind
 refine Ea (Ew (Qk λ_=>Qa _) B) ?_;cases e:(decide (2<=r.length)&&decide (r.length<=256))with
 |false=>exact Qa _
 |true=>
  simp only[XV,Vo]at e;refine Qq (Ea (Qes c w q r e.1 e.2 m) ?_);cases rokS c r.length 0 0 r with
  |false=>exact Qa _
  |true=>
   have H:Ev (λn:Nat=>(bif (d.Extra != (-1))then(idx c.Mats d.Extra).bind λj=>(bif (j.Kind != 2)then some true else(F_bc n r d.Extra).bind λg=>(bif (g==0)then some true else(F_al n c d.Extra d.Extra).bind λh=>some (decide (h<0))))else some false))
     (!(bif decide (0<=d.Extra)then !((r.count d.Extra:Int)==0)&&((kindAt c d.Extra==2)&&hasLeg c d.Extra d.Extra)else true)):=by
    have l:=q.dist d a;have E:(d.Extra != (-1))=decide (0<=d.Extra):=by rw[XX];simp;omega
    rw[E];cases t:decide (0<=d.Extra)with
    |false=>exact Qa _
    |true=>
     obtain⟨x,F,z⟩:=Qcv (by simpa using t) l.2.1;obtain⟨v,y,s⟩:=QkA c w d.Extra d.Extra;simp only[XI,F,z];refine Ew (Qk λ_=>Ea (QgO r _ (by omega)) (Qk λ_=>Ea y (Qa _))) ?_;rw[bne,s];cases((r.count d.Extra:Int)==0)<;>cases(kindAt c d.Extra==2)<;>cases hasLeg c d.Extra d.Extra<;>rfl
   refine Ea H ?_;cases(bif decide (0<=d.Extra)then !((r.count d.Extra:Int)==0)&&((kindAt c d.Extra==2)&&hasLeg c d.Extra d.Extra)else true)with
   |false=>exact Qa _
   |true=>
    refine Qq (Ea (Yr d.Cutoffs (λx=>decide (x.Lap<=r.count x.Mat)) (Ctl.done false) (Ctl.cont ()) (by have:=w.cut d a;omega) (λi x k=>?_) ?_) ?_)
    .unfold F_iw;simp only[k.lt,k.ix,XI,k.nx];refine Ea (QgO r _ (by omega)) ?_;have:decide (r.count x.Mat<x.Lap)= !decide (x.Lap<=r.count x.Mat):=by rw[XX];simp
     rw[this];cases decide (x.Lap<=r.count x.Mat)<;>exact Qa _
    .unfold F_iw;simp only[Qa6];exact Qa _
    .cases(d.Cutoffs.all λx=>decide (x.Lap<=r.count x.Mat))<;>exact Qa _
theorem Qdd{a b:Nat}(h:a+b<=4611686018427387904):i64.wrap ((a:Int)+(b:Int))=((a+b:Nat):Int):=by
 rw[Qy (by omega) (by omega)];omega
def lensC(c:Course):Nat:=c.Mats.length+c.Legs.length+c.Distances.length+c.Waves.length+c.Offences.length+c.Categories.length+c.Prizes.length
def fewD(d:Distance):Prop:=d.Cutoffs.length<=200/\szPs d.Route<=200/\hPs d.Route<=16
structure FewOk (c:Course):Prop where
 lens:lensC c<=200
 name:c.Name.length<=100
 dist:∀d∈c.Distances,fewD d
 ties:c.Ties.length<=200
theorem QfR(c:Course)(w:CourseOk c)(q:PartsOk c)(W:c.Ties.length<=1048576)(hw:∀x∈c.Ties,Step.wf x):∃b,Ev (λn=>F_bl n c) b/\(b=true->FewOk c):=by
 have hm:=w.mats;have hg:=w.legs;have hd:=w.dist;have J:=w.wave;have ho:=w.off;have hc:=w.cat;have hp:=w.prize;have loop:∀(t:List Distance) (i s:Nat),c.Distances.drop i=t->i<=c.Distances.length->∃f:Ctl Int Bool,EvI (λn=>F_ca n c) ((s:Int),(i:Int)) f/\(f=.done false\/ ∃v:Nat,f=.cont (v:Int)/\(v<=200->s<=v/\ ∀d∈t,fewD d)):=by
  intro t
  induction t with
  |nil=>
   intro i s r G;refine⟨.cont (s:Int),Ej ?_,Or.inr ⟨s,rfl,λ_=>⟨XS _,by simp⟩⟩⟩;unfold F_ca;simp only[QT r G,Vn,XI];exact Qa _
  |cons d t N=>
   intro i s r G;obtain⟨j,y⟩:=Qt (by omega) r;have aa:=j.lt';by_cases O:s<=200
   .have g:=q.len d j.mem;have m:=q.wf d j.mem;have H:=w.cut d j.mem;have u:=Qdp _ d.Route (XS _) g m;have F:=Qdo _ d.Route 17 (XS _) (XS _) g m;have R:i64.wrap ((s:Int)+(d.Cutoffs.length:Int))=((s+d.Cutoffs.length:Nat):Int):=Qdd (by omega);have Q:i64.wrap (((s+d.Cutoffs.length:Nat):Int)+((min (szPs d.Route) 257:Nat):Int))=((s+d.Cutoffs.length+min (szPs d.Route) 257:Nat):Int):=Qdd (by omega);have step:Ev (λn=>F_ca n c ((s:Int),(i:Int))) (bif decide ((16:Int)<((min (hPs d.Route) 17:Nat):Int))then .done (.done false)else .cont (((s+d.Cutoffs.length+min (szPs d.Route) 257:Nat):Int),((i+1:Nat):Int))):=by
     unfold F_ca;simp only[j.lt,Vm,j.ix,XI,j.nx,Qz (show(s:Int)<=200 by omega)];refine Ea u (Ea F ?_);rw[R,Q];cases decide ((16:Int)<((min (hPs d.Route) 17:Nat):Int))<;>exact Qa _
    by_cases V:hPs d.Route<=16
    .rw[QH (show¬(16:Int)<((min (hPs d.Route) 17:Nat):Int)by omega)]at step;obtain⟨f,p,k⟩:=N (i+1) (s+d.Cutoffs.length+min (szPs d.Route) 257) y (by omega);refine⟨f,Ex step p,?_⟩;rcases k with k|⟨v,k,E⟩
     .exact Or.inl k
     .refine Or.inr ⟨v,k,λJ=>?_⟩;obtain⟨k4,z⟩:=E J;refine⟨by omega,λx B=>?_⟩;rcases X5.1 B with rfl|B
      .exact⟨by omega,by omega,V⟩
      .exact z x B
    .rw[Qz (show(16:Int)<((min (hPs d.Route) 17:Nat):Int)by omega)]at step;exact⟨.done false,Ej step,Or.inl rfl⟩
   .refine⟨.cont (s:Int),Ej ?_,Or.inr ⟨s,rfl,λh=>absurd h O⟩⟩;unfold F_ca;simp only[j.lt,Vm,QH (show¬(s:Int)<=200 by omega),XI,Vn];exact Qa _
 obtain⟨f,p,k⟩:=loop c.Distances 0 (lensC c) rfl (XT _);have e:i64.wrap ((i64.wrap ((i64.wrap ((i64.wrap ((i64.wrap ((i64.wrap ((c.Mats.length:Int)+(c.Legs.length:Int)))+(c.Distances.length:Int)))+(c.Waves.length:Int)))+(c.Offences.length:Int)))+(c.Categories.length:Int)))+(c.Prizes.length:Int))=(lensC c:Int):=by
  have M:c.Mats.length+c.Legs.length<=4611686018427387904:=by omega
  have P:c.Mats.length+c.Legs.length+c.Distances.length<=4611686018427387904:=by omega
  have L:c.Mats.length+c.Legs.length+c.Distances.length+c.Waves.length<=4611686018427387904:=by omega
  have X:c.Mats.length+c.Legs.length+c.Distances.length+c.Waves.length+c.Offences.length<=4611686018427387904:=by omega
  have T:c.Mats.length+c.Legs.length+c.Distances.length+c.Waves.length+c.Offences.length+c.Categories.length<=4611686018427387904:=by omega
  have Y:c.Mats.length+c.Legs.length+c.Distances.length+c.Waves.length+c.Offences.length+c.Categories.length+c.Prizes.length<=4611686018427387904:=by omega
  rw[Qdd M,Qdd P,Qdd L,Qdd X,Qdd T,Qdd Y];rfl
 unfold F_bl;rw[e];rcases k with rfl|⟨v,rfl,E⟩
 .exact⟨false,Ea p.ev (Qa _),λh=>by cases h⟩
 .obtain⟨a,b,u,F,p3,_,_,_,_⟩:=Qic _ c.Ties 0 (XS _) (by omega) W hw;have l:Ev (λn=>F_cq n c.Ties) (decide ((c.Ties.length:Int)<=20)&&(decide (a<=80)&&decide (b<=300))):=by
   unfold F_cq;exact Ea u (Ea (Ei λ_=>Ei λ_=>Qa _) (Qa _))
  refine⟨decide ((v:Int)<=200)&&(decide ((c.Name.length:Int)<=100)&&(decide ((c.Ties.length:Int)<=20)&&(decide (a<=80)&&decide (b<=300)))),Ea p.ev (Ea (Ei λ_=>Ei λ_=>Ea l (Qa _)) (Qa _)),λh=>?_⟩;simp only[XV,Vo]at h;obtain⟨k4,z⟩:=E (by omega);exact⟨by omega,by omega,z,by omega⟩
def fitsS(c:Course):Bool:=
 !(decide (40<(c.Mats.length:Int))||(decide (512<(c.Legs.length:Int))||(decide (8<(c.Distances.length:Int))||(decide (32<(c.Waves.length:Int))||(decide (32<(c.Offences.length:Int))||(decide (32<(c.Categories.length:Int))||decide (32<(c.Prizes.length:Int))))))))
  &&c.Distances.all λd=> !decide (64<(d.Cutoffs.length:Int))
theorem QlO(c:Course)(w:CourseOk c)(q:PartsOk c)(k:FewOk c):Ev (λn=>F_ck n c) (fitsS c):=by
 unfold F_ck fitsS;refine Ea (Qk λ_=>Qk λ_=>Qk λ_=>Qk λ_=>Qk λ_=>Qk λ_=>Qa _) ?_;cases(decide (40<(c.Mats.length:Int))||(decide (512<(c.Legs.length:Int))||(decide (8<(c.Distances.length:Int))||(decide (32<(c.Waves.length:Int))||(decide (32<(c.Offences.length:Int))||(decide (32<(c.Categories.length:Int))||decide (32<(c.Prizes.length:Int))))))))with
 |true=>exact Qa _
 |false=>
  refine Qq (Ea (Yr c.Distances (λd=> !decide (64<(d.Cutoffs.length:Int))) (Ctl.done false) (Ctl.cont ()) (by have:=w.dist;omega) (λi x a=>?_) ?_) ?_)
  .obtain⟨e,f,g⟩:=k.dist x a.mem;unfold F_iy;simp only[a.lt,a.ix,XI,a.nx];refine Ea (Qkt _ x.Route 17 (XS _) (by omega) (XS _) (by omega) (q.wf x a.mem)) ?_
   grind[Qa]
  .simp_all[F_iy,Qa]
  .cases(c.Distances.all λd=> !decide (64<(d.Cutoffs.length:Int)))<;>exact Qa _
theorem QiZ(c:Course)(w:CourseOk c)(q:PartsOk c)(k:FewOk c):Ev (λn=>F_cn n c) (fitsS c):=by
 unfold F_cn fitsS;refine Ea (Qk λ_=>Qk λ_=>Qk λ_=>Qk λ_=>Qk λ_=>Qk λ_=>Qa _) ?_;cases(decide (40<(c.Mats.length:Int))||(decide (512<(c.Legs.length:Int))||(decide (8<(c.Distances.length:Int))||(decide (32<(c.Waves.length:Int))||(decide (32<(c.Offences.length:Int))||(decide (32<(c.Categories.length:Int))||decide (32<(c.Prizes.length:Int))))))))with
 |true=>exact Qa _
 |false=>
  refine Qq (Ea (Yr c.Distances (λd=> !decide (64<(d.Cutoffs.length:Int))) (Ctl.done false) (Ctl.cont ()) (by have:=w.dist;omega) (λi x e=>?_) ?_) ?_)
  .obtain⟨j,g,h⟩:=k.dist x e.mem;have a:=q.len x e.mem;have f:=q.wf x e.mem;unfold F_is;simp only[e.lt,e.ix,XI,e.nx];refine Ea (Qk λ_=>Ea (Qdo _ x.Route 17 (XS _) (XS _) a f) (Qk λ_=>Ea (Qdp _ x.Route (XS _) a f) (Qa _))) ?_
   grind[Qa]
  .simp_all[F_is,Qa]
  .cases(c.Distances.all λd=> !decide (64<(d.Cutoffs.length:Int)))<;>exact Qa _
def courseE(c:Course):Int:=
 bif fitsS c then bif namesS c then bif numbersS c then bif tiesE c.Ties==0 then bif c.Distances.all (routeS c)then 0 else 72 else tiesE c.Ties else 71 else 70 else 2
theorem Qi1(c:Course)(w:CourseOk c)(q:PartsOk c)(k:FewOk c)(g:c.Ties.length<=1048576)(f:∀x∈c.Ties,Step.wf x):Ev (λn=>F_c n c) (courseE c):=by
 unfold F_c courseE;refine Ea (QlO c w q k) ?_;cases fitsS c with
 |false=>exact Qa _
 |true=>
 refine Qq (Ea (Qkn c w) ?_);cases namesS c with
 |false=>exact Qa _
 |true=>
 refine Qq (Ea (Qhu c w q) ?_);cases e:numbersS c with
 |false=>exact Qa _
 |true=>
 refine Qq (Ea (QlP c.Ties g f) ?_);rw[bne];cases(tiesE c.Ties==0)with
 |false=>exact Qa _
 |true=>
 have h:Ev (λn=>iter (F_gz n c) n ([],0)) (QW legKey true c.Legs):=by
  refine Qbo c.Legs legKey true (by have:=w.legs;omega) (λi x m a=>?_) (λm=>?_)
  .unfold F_gz;simp only[a.lt,a.ix,a.nx];exact Qa _
  simp_all[F_gz,Qa]
 refine Qq (Ea h ?_);have a:Ev (λn=>F_dz n c.Distances c (QW legKey true c.Legs)) (c.Distances.all (routeS c)):=by
  refine Jd c.Distances _ (λn x=>F_gc n x c (QW legKey true c.Legs)) (by have:=w.dist;omega) λx d=>?_;exact Ea (Qhv c w (Qg3 e) x d (q.wf x d) (by have:=(k.dist x d).2.1;omega)) (Qa _)
 refine Ea a ?_
 grind[Qa]
theorem QfN(c:Course)(w:CourseOk c)(q:PartsOk c)(k:FewOk c)(h:c.Ties.length<=1048576)(f:∀x∈c.Ties,Step.wf x):Ev (λn=>F_av n c) (courseE c):=by
 have a:=k.lens;unfold lensC at a;have g:Short c:=⟨by omega,by omega,by omega,by omega,by omega⟩;unfold F_av courseE;refine Ea (QiZ c w q k) ?_;cases fitsS c with
 |false=>exact Qa _
 |true=>
 refine Qq (Ea (QgM c w g) ?_);cases namesS c with
 |false=>exact Qa _
 |true=>
 refine Qq (Ea (QfL c w q) ?_);cases e:numbersS c with
 |false=>exact Qa _
 |true=>
 refine Qq (Ea (Qhr c.Ties h f) ?_);rw[bne];cases(tiesE c.Ties==0)with
 |false=>exact Qa _
 |true=>
 refine Qq (Ea (Yr c.Distances (routeS c) (Ctl.done 72) (Ctl.cont ()) (by omega) (λi x d=>?_) ?_) ?_)
 .unfold F_iq;simp only[d.lt,d.ix,XI,d.nx];refine Ea (QgK c w (Qg3 e) x d.mem (q.wf x d.mem) (by have:=(k.dist x d.mem).2.1;omega)) ?_;cases routeS c x<;>exact Qa _
 .simp_all[F_iq,Qa]
 grind[Qa]
theorem QbQ{α:Type}(l:List α){a b:Nat}(h:a<=b)(d:b<=l.length):slc l (a:Int) (b:Int)=some ((l.take b).drop a):=by
 grind[slc]
theorem Qmj{α:Type}(l:List α){b:Nat}(a:b<=l.length):slc l 0 (b:Int)=some (l.take b):=by
 have:=QbQ l (XT b) a
 grind
theorem QjP{α:Type}(l:List α){a:Nat}(d:a<=l.length):slc l (a:Int) (l.length:Int)=some (l.drop a):=by
 simp_all[QbQ]
theorem QlT{α:Type}(l m:List α)(h:l.length+m.length<=4294967296):app l m=some (l++m):=by
 unfold app;rw[XR (by exact h)];rfl
def firstI{α:Type}(q:α->Bool):List α->Nat->Int
 |[],_=> -1
 |x::l,i=>bif q x then(i:Int)else firstI q l (i+1)
theorem Ev.first{α:Type}{step:Nat->Int->Option (Ctl Int (Ctl Unit Int))}(l:List α)(q:α->Bool)(m:l.length<=4611686018427387904)
  (f:∀i x,At l i x->Ev (λn=>step n (i:Int)) (bif q x then .done (.done (i:Int))else .cont ((i+1:Nat):Int)))(k:Ev (λn=>step n (l.length:Int)) (.done (.cont ()))):
  Ev (λn=>(Go.Sw.iter (step n) n 0).bind λb=>match b with|.cont _=>some (-1)|.done v=>some v) (firstI q l 0):=by
 have loop:∀(r:List α) (i:Nat),l.drop i=r->i<=l.length->∃a:Ctl Unit Int,EvI step i a/\(match a with|.cont _=>some (-1)|.done v=>some v)=some (firstI q r i):=by
  intro r
  induction r with
  |nil=>
   intro i d e;have:i=l.length:=by have:=Xq.1 d;omega
   subst this;exact⟨.cont (),Ej k,rfl⟩
  |cons x r u=>
   intro i d e;obtain⟨g,p⟩:=Qt m d;have s:=f i x g;unfold firstI;cases h:q x with
   |true=>
    rw[h]at s;exact⟨_,Ej s,rfl⟩
   |false=>
    grind[EvI.cont]
 obtain⟨a,t,j⟩:=loop l 0 rfl (XT _);exact Ea t.ev (EA j)
theorem Qdm{α:Type}(q:α->Bool):∀(l:List α) (i:Nat),(firstI q l i= -1/\l.all (λx=> !q x)=true)\/ ∃j x,firstI q l i=((i+j:Nat):Int)/\l[j]?=some x/\q x=true/\(l.take j).all (λx=> !q x)=true
 |[],_=>.inl ⟨rfl,rfl⟩
 |x::l,i=>by
  unfold firstI;cases h:q x with
  |true=>exact .inr ⟨0,x,rfl,rfl,h,rfl⟩
  |false=>
   rcases Qdm q l (i+1)with⟨h1,h2⟩|⟨j,y,h1,h2,h3,h4⟩
   .grind
   .refine .inr ⟨j+1,y,by grind,h2,h3,by simp[h,h4]⟩
set_option maxRecDepth 4000
def cmpI(a b:Int):Int:=bif decide (a<b)then-1 else bif decide (b<a)then 1 else 0
theorem Qid(n:Nat)(a b:Int):F_i n a b=some (cmpI a b):=by
 unfold F_i F_bi cmpI
 grind
def orL:List Int->Int
 |[]=>0
 |x::r=>bif x != 0 then x else orL r
theorem ev_or(l:List Int)(k:l.length<=1000):Ev (λn=>F_aq n l) (orL l):=by
 have loop:∀(r:List Int) (i:Nat),l.drop i=r->i<=l.length->EvI (λn=>F_am n l) i (bif orL r==0 then Ctl.cont ()else Ctl.done (orL r)):=by
  intro r
  induction r with
  |nil=>
   intro i f g;refine Ej ?_;unfold F_am;simp only[QT f g];exact Qa _
  |cons x r j=>
   intro i f g;obtain⟨a,d⟩:=Qt (by omega) f;have h:=a.lt';unfold orL;cases q:(x != 0)with
   |true=>
    have e:(x==0)=false:=by grind
    simp[Vm,e];refine Ej ?_;unfold F_am;simp only[a.lt,a.ix,XI,q];exact Qa _
   |false=>
    refine Ex ?_ (j (i+1) d (by omega));unfold F_am;simp only[a.lt,a.ix,XI,q,a.nx];exact Qa _
 refine Ea (loop l 0 rfl (XT _)).ev ?_
 grind[Qa]
theorem Qaj{β:Type}(m:List (Int×β))(k:Int):YO m k=(YH m k).isSome:=by
 unfold YO YH
 grind
set_option maxRecDepth 4000
section
variable {α:Type} {c d:α->α->Int}
end
theorem Qdy{c:Course}(h:Course.wf c):CourseOk c:=by
 obtain⟨j,⟨e,l⟩,⟨g,t⟩,⟨q,d⟩,⟨r,k⟩,⟨i,n⟩,⟨f,m⟩,⟨p,s⟩,_⟩:=h;exact⟨j,e,λx a=>(l x a).1,g,q,λx a=>(d x a).1,λx a=>(d x a).2.2.2.1.1,r,λx a=>(k x a).1,i,λx a=>(n x a).1,f,λx a=>(m x a).1,p⟩
theorem QeF{c:Course}(h:Course.wf c):PartsOk c:=by
 obtain⟨_,_,_,⟨f,e⟩,_⟩:=h;exact⟨λd a=>(e d a).2.1.1,λd a=>(e d a).2.1.2⟩
theorem QhY{c:Course}(h:Course.wf c):c.Ties.length<=1048576/\ ∀x∈c.Ties,Step.wf x:=by
 obtain⟨_,_,_,_,_,_,_,_,a,_⟩:=h;exact a
theorem QcC(p:Nat->Bool):∀k,(∀i,i<k->p i=true)\/ ∃j,j<k/\p j=false/\ ∀i,i<j->p i=true
 |0=>.inl λi h=>absurd h (Nat.not_lt_zero _)
 |k+1=>by
  rcases QcC p k with h|⟨j,h1,h2,h3⟩
  .cases q:p k with
   |true=>exact .inl λi hi=>(Nat.lt_succ_iff_lt_or_eq.1 hi).elim (h i) λe=>e▸q
   |false=>exact .inr ⟨k,Xn _,q,h⟩
  .exact .inr ⟨j,by omega,h2,h3⟩
theorem Qm6{p:Nat->Bool}{k:Nat}:(List.range k).all p=true↔ ∀i,i<k->p i=true:=by simp[Xs]
theorem QcQ{B:Type}{step:Nat->Int->Option (Ctl Int B)}(k:Nat)(p:Nat->Bool)(f b:B)
  (e:∀i,i<k->Ev (λn=>step n (i:Int)) (bif p i then .cont ((i+1:Nat):Int)else .done f))(l:Ev (λn=>step n (k:Int)) (.done b)):
  Ev (λn=>Go.Sw.iter (step n) n 0) (bif (List.range k).all p then b else f):=by
 rcases QcC p k with h|⟨j,g,d,m⟩
 .rw[Qm6.2 h];exact Ev.iter (λi=>(i:Int)) k rfl (λi a=>(e i a).eq (by rw[h i a];rfl)) l
 .have:(List.range k).all p=false:=by
   rw[VH];intro q;rw[Qm6.1 q j g]at d;cases d
  rw[this];exact Ev.iter (λi=>(i:Int)) j rfl (λi a=>(e i (by omega)).eq (by rw[m i a];rfl)) ((e j g).eq (by rw[d];rfl))
theorem atN{α:Type}{l:List α}{i:Nat}(hl:l.length<=1048576)(hi:i<l.length):At l i l[i]:=Y5 (by omega) (XJ hi)
theorem QdQ{n:Nat}(h:n<=1048576):i64.wrap ((n:Int)+1)=((n+1:Nat):Int):=Yd (by omega)
def segLt(x y:Segment):Bool:=decide (x.Mat<y.Mat)||((x.Mat==y.Mat)&&decide (x.Epoch<y.Epoch))
def cmpSeg(x y:Segment):Int:=orL [cmpI x.Mat y.Mat,cmpI x.Epoch y.Epoch]
theorem Qi6(x y:Segment):decide (0<=cmpSeg x y)= !segLt x y:=by
 unfold cmpSeg segLt orL orL orL cmpI;by_cases a:x.Mat<y.Mat
 .simp[a]
 .by_cases d:y.Mat<x.Mat
  .have:¬x.Mat=y.Mat:=by omega
   simp[a,d,this]
  .have:x.Mat=y.Mat:=by omega
   by_cases e:x.Epoch<y.Epoch
   .simp[a,d,this,e]
   .by_cases f:y.Epoch<x.Epoch
    iterate 2 simp[a,d,this,e,f]
theorem Qkw(a b:Int):Ev (λn=>F_i n a b) (cmpI a b):=Qk6 (Qa _) λn=>Qid n a b
theorem QgI(x y:Segment):Ev (λn=>F_bh n x y) (cmpSeg x y):=by
 unfold F_bh F_dq;exact Ea (Ea (Qkw _ _) (Ea (Qkw _ _) (Ea (ev_or _ (by simp)) (Qa _)))) (Qa _)
def timeB(x:Int):Bool:=inR (-1099511627776) 1099511627776 x
theorem Qa5(x:Int):Ev (λn=>F_m n x) (timeB x):=by
 unfold F_m timeB inR;exact Ea (Ei λ_=>Qa _) (Qa _)
def prevSeg(c:Clocks)(i:Nat)(x:Segment):Bool:=decide (0<(i:Int))&& !(match c.Segments[i-1]? with|some y=>segLt y x|none=>true)
def segBad(c:Clocks)(i:Nat)(x:Segment):Bool:=decide (x.Mat<0)||(decide (40<=x.Mat)||(decide (x.Epoch<0)||(decide (255<x.Epoch)||(!timeB x.Anchor||prevSeg c i x))))
def segsB(c:Clocks):Bool:=(List.range c.Segments.length).all λi=>match c.Segments[i]? with|some x=> !segBad c i x|none=>true
theorem Qj7{α:Type}{l:List α}{i:Nat}{y:α}(d:l.length<=1048576)(hi:0<i)(a:i<=l.length)(h:l[i-1]?=some y):idx l (i64.wrap ((i:Int)-1))=some y:=by
 rw[Qy (by omega) (by omega),show((i:Int)-1)=((i-1:Nat):Int)by omega];exact Qu h
theorem QlG(c:Clocks)(j:c.Segments.length<=1048576):Ev (λn=>iter (F_hl n c) n 0) (bif segsB c then Ctl.cont ()else Ctl.done 160):=by
 unfold segsB;refine QcQ c.Segments.length _ _ _ (λi k=>?_) ?_
 .have a:=atN j k;unfold F_hl;simp only[a.lt,Vm,a.ix,XI,a.nx,a.get];have:Ev (λn=>((bif decide ((c.Segments[i]).Mat<0)then some true else(bif decide (40<=(c.Segments[i]).Mat)then some true else(bif decide ((c.Segments[i]).Epoch<0)then some true else(bif decide (255<(c.Segments[i]).Epoch)then some true else(F_m n (c.Segments[i]).Anchor).bind λf=>(bif (!f)then some true else(bif decide (0<(i:Int))then(idx c.Segments (i64.wrap ((i:Int)-1))).bind λd=>(F_bh n d (c.Segments[i])).bind λe=>some (decide (0<=e))else some false)))))):Option Bool)) (segBad c i (c.Segments[i])):=by
   unfold segBad;refine Qk λ_=>Qk λ_=>Qk λ_=>Qk λ_=>Ea (Qa5 _) (Qk λ_=>?_);unfold prevSeg;refine Ei λh=>?_;have l:0<i:=by have:=of_decide_eq_true h;omega
   have g:i-1<c.Segments.length:=by omega
   rw[Qj7 j l (by omega) (XJ g),XJ g];simp only[XI];exact Ea (QgI _ _) ((Qa _).eq (Qi6 _ _))
  refine Ea this ?_;cases segBad c i (c.Segments[i])<;>exact Qa _
 .unfold F_hl;simp only[Qa6,Vn];exact Qa _
def farBad(x:Int):Bool:=decide (x< -2199023255552)||decide (2199023255552<x)
theorem QiX(l:List Int)(a:l.length<=1048576):Ev (λn=>F_be n l) (l.any farBad):=by
 unfold F_be F_eq;refine Ev.contains l farBad (λn x=>F_cy n x) (by omega) λx _=>?_;unfold F_cy farBad;exact Ea (Qk λ_=>Qa _) (Qa _)
def rowB(c:Clocks)(i:Nat)(r:List Int):Bool:= !(((r.length:Int) != ((c.Segments.length+1:Nat):Int))||((r[i]?.getD 1 != 0)||r.any farBad))
def rowsB(c:Clocks):Bool:=(List.range c.Far.length).all λi=>match c.Far[i]? with|some r=>rowB c i r|none=>true
theorem QlH(c:Clocks)(l:c.Segments.length<=1048576)(m:c.Far.length<=1048576)(j:∀r∈c.Far,r.length<=1048576)(p:c.Far.length=c.Segments.length+1):
  Ev (λn=>iter (F_gs n c) n 0) (bif rowsB c then Ctl.cont ()else Ctl.done 160):=by
 unfold rowsB;refine QcQ c.Far.length _ _ _ (λi k=>?_) ?_
 .have d:=atN m k;unfold F_gs;simp only[d.lt,Vm,d.ix,XI,d.nx,d.get,QdQ l];have:Ev (λn=>((bif (((c.Far[i]).length:Int) != ((c.Segments.length+1:Nat):Int))then some true else(idx (c.Far[i]) (i:Int)).bind λe=>(bif (e != 0)then some true else(F_be n (c.Far[i])).bind λf=>some f)):Option Bool)) (!rowB c i (c.Far[i])):=by
   unfold rowB;rw[Bool.not_not];refine Qk λh=>?_;have g:(c.Far[i]).length=c.Segments.length+1:=by
    have:((c.Far[i]).length:Int)=((c.Segments.length+1:Nat):Int):=by simpa[bne]using h
    omega
   have a:i<(c.Far[i]).length:=by omega
   rw[Qu (XJ a),XJ a];simp only[XI,Option.getD_some];exact Qk λ_=>Ea (QiX _ (j _ d.mem)) (Qa _)
  refine Ea this ?_;cases rowB c i (c.Far[i])<;>exact Qa _
 .unfold F_gs;simp only[Qa6,Vn];exact Qa _
def farG(c:Clocks)(i j:Nat):Int:=((c.Far[i]?.getD [])[j]?).getD 0
structure Dims (c:Clocks):Prop where
 segs:c.Segments.length<=511
 far:c.Far.length=c.Segments.length+1
 row:∀i,i<c.Far.length->(c.Far[i]?.getD []).length=c.Segments.length+1
theorem Dims.get{c:Clocks}(d:Dims c){i j:Nat}(hi:i<c.Segments.length+1)(f:j<c.Segments.length+1):c.Far[i]?=some (c.Far[i]?.getD [])/\(c.Far[i]?.getD [])[j]?=some (farG c i j):=by
 have a:i<c.Far.length:=by rw[d.far];exact hi
 have e:=d.row i a;refine⟨by rw[XJ a];rfl,?_⟩;unfold farG;have:j<(c.Far[i]?.getD []).length:=by omega
 rw[XJ this];rfl
def triB(c:Clocks):Bool:=(List.range (c.Segments.length+1)).all λi=>(List.range (c.Segments.length+1)).all λj=>(List.range (c.Segments.length+1)).all λk=> !decide (i64.wrap (farG c i j+farG c j k)<farG c i k)
theorem ltN{a b:Nat}(h:a<b):decide ((a:Int)<(b:Int))=true:=Vr (by omega)
theorem geN{a b:Nat}(h:b<=a):decide ((a:Int)<(b:Int))=false:=decide_eq_false (by omega)
theorem QmN(c:Clocks)(d:Dims c):Ev (λn=>iter (F_hw n c) n 0) (bif triB c then Ctl.cont ()else Ctl.done 160):=by
 have s:=d.segs;unfold triB;refine QcQ (c.Segments.length+1) _ _ _ (λi a=>?_) ?_
 .unfold F_hw;have g:=(d.get a a).1;have l:=d.row i (by rw[d.far];exact a);simp only[QdQ (show c.Segments.length<=1048576 by omega),ltN a,Vm,Qu g,XI,QdQ (show i<=1048576 by omega)];refine Ea (QcQ (c.Segments.length+1) (λj=>(List.range (c.Segments.length+1)).all λk=> !decide (i64.wrap (farG c i j+farG c j k)<farG c i k)) (Ctl.done (Ctl.done (Ctl.done 160))) (Ctl.cont ()) (λj e=>?_) ?_) ?_
  .unfold F_ip;have q:=(d.get a e).2;have r:=(d.get e e).1;have f:=d.row j (by rw[d.far];exact e);simp only[l,ltN e,Vm,Qu q,Qu r,XI,QdQ (show j<=1048576 by omega)];refine Ea (QcQ (c.Segments.length+1) (λk=> !decide (i64.wrap (farG c i j+farG c j k)<farG c i k)) (Ctl.done (Ctl.done (Ctl.done (Ctl.done (Ctl.done 160))))) (Ctl.cont ()) (λk h=>?_) ?_) ?_
   .unfold F_iv;have p:=(d.get e h).2;have m:=(d.get a h).2;simp only[f,ltN h,Vm,Qu p,Qu g,Qu m,XI,QdQ (show k<=1048576 by omega)];cases decide (i64.wrap (farG c i j+farG c j k)<farG c i k)<;>exact Qa _
   .unfold F_iv;simp only[f,geN (XS _),Vn];exact Qa _
   .cases(List.range (c.Segments.length+1)).all λk=> !decide (i64.wrap (farG c i j+farG c j k)<farG c i k)<;>exact Qa _
  .unfold F_ip;simp only[l,geN (XS _),Vn];exact Qa _
  .cases(List.range (c.Segments.length+1)).all λj=>(List.range (c.Segments.length+1)).all λk=> !decide (i64.wrap (farG c i j+farG c j k)<farG c i k)<;>exact Qa _
 .unfold F_hw;simp only[QdQ (show c.Segments.length<=1048576 by omega),geN (XS _),Vn];exact Qa _
def clkB(c:Clocks):Bool:= !(decide (511<(c.Segments.length:Int))||((c.Far.length:Int) != ((c.Segments.length+1:Nat):Int)))&&(segsB c&&(rowsB c&&triB c))
structure ClkW (c:Clocks):Prop where
 segs:c.Segments.length<=1048576
 far:c.Far.length<=1048576
 row:∀r∈c.Far,r.length<=1048576
theorem Qig{c:Clocks}(g:¬511<(c.Segments.length:Int))(d:c.Far.length=c.Segments.length+1)(f:rowsB c=true):Dims c:=by
 refine⟨by omega,d,λi a=>?_⟩;have:=Qm6.1 f i a;rw[XJ a]at this⊢;simp only[rowB,Bool.not_eq_true',XW]at this;have e:((c.Far[i]).length:Int)=((c.Segments.length+1:Nat):Int):=by simpa[bne]using this.1
 simp only[Option.getD_some];omega
theorem Qkx(c:Clocks)(w:ClkW c):Ev (λn=>F_ar n c) (bif clkB c then 0 else 160):=by
 unfold F_ar clkB;simp only[QdQ w.segs];refine Ea (Qk λ_=>Qa _) ?_;cases a:(decide (511<(c.Segments.length:Int))||((c.Far.length:Int) != ((c.Segments.length+1:Nat):Int)))with
 |true=>exact Qa _
 |false=>
  simp only[Xh,Vv,XW,decide_eq_false_iff_not]at a⊢;have d:c.Far.length=c.Segments.length+1:=by
   have:(c.Far.length:Int)=((c.Segments.length+1:Nat):Int):=by simpa[bne]using a.2
   omega
  refine Qq (Ea (QlG c w.segs) ?_);cases segsB c with
  |false=>exact Qa _
  |true=>
   refine Ea (QlH c w.segs w.far w.row d) ?_;cases e:rowsB c with
   |false=>exact Qa _
   |true=>
    refine Ea (QmN c (Qig a.1 d e)) ?_;cases triB c<;>exact Qa _
theorem Qi7{c:Clocks}(h:clkB c=true):Dims c:=by
 simp only[clkB,XV,Bool.not_eq_true',XW,decide_eq_false_iff_not]at h;have a:c.Far.length=c.Segments.length+1:=by
  have:(c.Far.length:Int)=((c.Segments.length+1:Nat):Int):=by simpa[bne]using h.1.2
  omega
 exact Qig h.1.1 a h.2.2.1
set_option maxRecDepth 10000
structure CrsOk (c:Course):Prop where
 mats:c.Mats.length<=40
 res:0<=c.Faults.Residual/\c.Faults.Residual<=4294967296
 drift:0<=c.Faults.Drift/\c.Faults.Drift<=100000
def driftV(x k:Int):Int:=Int.tdiv ((if x<0-x then 0-x else x)*k+1000000-1) 1000000
theorem QgS{x k:Int}(i: -2199023255552<=x/\x<=2199023255552)(d:0<=k/\k<=100000):0<=driftV x k/\driftV x k<=274877906944/\0<=(if x<0-x then 0-x else x)*k/\(if x<0-x then 0-x else x)*k<=219902325555200000:=by
 generalize ha:(if x<0-x then 0-x else x)=a;have g:0<=a:=by rw[<- ha];split<;>omega
 have f:a<=2199023255552:=by rw[<- ha];split<;>omega
 have j:0<=a*k:=Int.mul_nonneg g d.1;have h:a*k<=2199023255552*100000:=Int.le_trans (Int.mul_le_mul_of_nonneg_right f d.1) (Int.mul_le_mul_of_nonneg_left d.2 (by decide));have e:(2199023255552:Int)*100000=219902325555200000:=by decide
 rw[e]at h;unfold driftV;rw[ha,Int.tdiv_eq_ediv_of_nonneg (by omega)];omega
theorem Qks{x k:Int}(h: -2199023255552<=x/\x<=2199023255552)(g:0<=k/\k<=100000):Ev (λn=>F_cf n x k) (driftV x k,0):=by
 obtain⟨j,l,p,m⟩:=QgS h g;unfold F_cf;refine Ea (v:=false) ?_ ?_
 .rw[QH (show¬(x< -2199023255552)by omega),QH (show¬(2199023255552<x)by omega),QH (show¬(k<0)by omega),QH (show¬(100000<k)by omega)];exact Qa _
 .have f:i64.wrap (0-x)=0-x:=Qy (by omega) (by omega);have i:=Qy (n:=(if x<0-x then 0-x else x)*k) (by omega) (by omega);have d:=Qy (n:=(if x<0-x then 0-x else x)*k+1000000) (by omega) (by omega);have e:=Qy (n:=(if x<0-x then 0-x else x)*k+1000000-1) (by omega) (by omega);have a:=Qy (n:=driftV x k) (by omega) (by omega);refine Qq ?_;rw[f,i,d,e];unfold driftV at a⊢;rw[a];exact Qa _
def devV(c:Course)(k:Int)(s:Segment)(loc:Int):Span:=
 bif k != 1 then⟨0-driftV (loc-s.Anchor) c.Faults.Drift,c.Faults.Residual+driftV (loc-s.Anchor) c.Faults.Drift⟩else⟨0,c.Faults.Residual⟩
def isT(x:Int):Prop:= -1099511627776<=x/\x<=1099511627776
theorem Qhy{c:Course}(d:CrsOk c){i:Nat}{m:Mat}(g:c.Mats[i]?=some m){s:Segment}(j:s.Mat=(i:Int)){a:Int}(f:isT s.Anchor)(h:isT a):Ev (λn=>F_y n c s a) (devV c m.Kind s a):=by
 obtain⟨l,k⟩:=d.res;have e: -2199023255552<=a-s.Anchor/\a-s.Anchor<=2199023255552:=by unfold isT at f h;omega
 obtain⟨q,p,_,_⟩:=QgS e d.drift;unfold F_y devV;simp only[j,Qu g,XI];cases m.Kind != 1 with
 |false=>exact Qa _
 |true=>
  simp only[Vm];refine Ea (v:=⟨0-driftV (a-s.Anchor) c.Faults.Drift,c.Faults.Residual+driftV (a-s.Anchor) c.Faults.Drift⟩) ?_ (Qa _);rw[Qy (n:=a-s.Anchor) (by omega) (by omega)];refine Ea (Qks e d.drift) ?_;rw[Qy (n:=0-driftV (a-s.Anchor) c.Faults.Drift) (by omega) (by omega),Qy (n:=c.Faults.Residual+driftV (a-s.Anchor) c.Faults.Drift) (by omega) (by omega)];exact Qa _
def matB(c:Course)(x:Int):Bool:=decide (0<=x)&&decide (x<(c.Mats.length:Int))
theorem Qew(c:Course)(x:Int):Ev (λn=>F_ao n c x) (matB c x):=by
 unfold F_ao matB;exact Ea (Ei λ_=>Qa _) (Qa _)
theorem QmF{c:Course}{x:Int}(h:matB c x=true):∃i m,x=((i:Nat):Int)/\c.Mats[i]?=some m:=by
 unfold matB at h;simp only[XV,Vo]at h;exact⟨x.toNat,c.Mats[x.toNat]'(by omega),by omega,XJ _⟩
def nb(v lo hi:Int):Bool:= !(decide (v<lo))&& !(decide (hi<v))
theorem Qhl(v lo hi:Int):nb v lo hi=true↔lo<=v/\v<=hi:=by
 simp_all[nb]
def cmpPl(x y:Uc):Int:=orL [cmpI x.chip y.chip,cmpI x.mat y.mat,cmpI x.epoch y.epoch]
theorem or3(n:Nat)(a b d:Int):F_aq (n+4) [a,b,d]=some (orL [a,b,d]):=by
 unfold F_aq;have f:F_am (n+4) [a,b,d] 0=bif a != 0 then some (.done (.done a))else some (.cont 1):=rfl
 have e:F_am (n+4) [a,b,d] 1=bif b != 0 then some (.done (.done b))else some (.cont 2):=rfl
 have h:F_am (n+4) [a,b,d] 2=bif d != 0 then some (.done (.done d))else some (.cont 3):=rfl
 have g:F_am (n+4) [a,b,d] 3=some (.done (.cont ())):=rfl;unfold orL orL orL orL;rw[iter,f];cases q:(a != 0)with
 |true=>rfl
 |false=>
  simp only[Vn];rw[iter,e];cases i:(b != 0)with
  |true=>rfl
  |false=>
   simp only[Vn];rw[iter,h];cases j:(d != 0)with
   |true=>rfl
   |false=>
    simp only[Vn];rw[iter,g];rfl
theorem Qgm(n:Nat):(λx y=>F_bf (n+4) x y)=λx y=>some (cmpPl x y):=by
 funext x y
 unfold F_bf cmpPl;simp only[Qid,XI,or3]
def plH(h:Hit):Uc:=⟨h.Chip,h.Mat,h.Epoch⟩
def wrongH(c:Course)(h:Hit):Bool:=decide (h.Mat<0)||(decide ((c.Mats.length:Int)<=h.Mat)||(!nb h.Epoch 0 255||(!nb h.Chip 0 1048576||(!nb h.First (-1099511627776) 1099511627776||(!nb h.Last (-1099511627776) 1099511627776||decide (h.Last<h.First))))))
def folB(W:Int)(a b:Hit):Bool:=decide (cmpPl (plH a) (plH b)<0)||(decide (cmpPl (plH a) (plH b)=0)&&decide (W<i64.wrap (b.First-a.Last)))
def okAt(c:Course)(x:List Hit)(i:Nat):Bool:=match x[i]? with
 |none=>true
 |some h=> !wrongH c h&&((i==0)||(match x[i-1]? with
  |none=>true
  |some p=>folB c.Faults.Window p h))
def chkFrom(ok:Nat->Bool):Nat->Nat->Bool
 |0,_=>true
 |d+1,i=>ok i&&chkFrom ok d (i+1)
def checkH(c:Course)(x:List Hit):Bool:=chkFrom (okAt c x) x.length 0
theorem QfQ(c:Course)(x:List Hit)(y:x.length<=1000000)(step:Nat->Int->Option (Ctl Int (Ctl Unit Int)))
  (r:∀i h,At x i h->(∀p,0<i->x[i-1]?=some p->Ev (λn=>step n (i:Int)) (bif wrongH c h then Ctl.done (Ctl.done 170)else bif folB c.Faults.Window p h then Ctl.cont ((i+1:Nat):Int)else Ctl.done (Ctl.done 170)))/\(i=0->Ev (λn=>step n (i:Int)) (bif wrongH c h then .done (.done 170)else .cont ((i+1:Nat):Int))))
  (t:Ev (λn=>step n (x.length:Int)) (.done (.cont ()))):Ev (λn=>iter (step n) n 0) (bif checkH c x then Ctl.cont ()else Ctl.done 170):=by
 have:=QcP (step:=step) (s0:=(0:Int)) (λi=>(i:Int)) x.length (λi=>(bif chkFrom (okAt c x) (x.length-i) i then Ctl.cont ()else Ctl.done 170:Ctl Unit Int)) rfl (λi q=>?_) ?_
 .exact this
 .have f:=Y5 (x:=x[i]) (show x.length<=4611686018427387904 by omega) (XJ q);generalize x[i]=h at f;obtain⟨s,m⟩:=r i h f;have u:x.length-i=(x.length-(i+1))+1:=by omega
  have j:okAt c x i=(!wrongH c h&&((i==0)||(match x[i-1]? with|none=>true|some p=>folB c.Faults.Window p h))):=by
   unfold okAt;rw[f.get]
  have g:chkFrom (okAt c x) (x.length-i) i=(okAt c x i&&chkFrom (okAt c x) (x.length-(i+1)) (i+1)):=by rw[u];rfl
  rw[g,j];by_cases k:i=0
  .have a:=m k;cases d:wrongH c h with
   |true=>rw[d]at a;exact .inr (a.eq (by simp))
   |false=>rw[d]at a;exact .inl ⟨a,by simp[k]⟩
  .have l:x[i-1]?=some x[i-1]:=XJ (by omega);have a:=s _ (by omega) l;rw[l];have w:(i==0)=false:=by simpa using k
   rw[w];cases d:wrongH c h with
   |true=>rw[d]at a;exact .inr (a.eq (by simp))
   |false=>
    rw[d]at a;cases e:folB c.Faults.Window x[i-1] h with
    |true=>rw[e]at a;exact .inl ⟨a,by simp[e]⟩
    |false=>rw[e]at a;exact .inr (a.eq (by simp[e]))
 .rw[Nat.sub_self];exact t
theorem QgN(p q:Uc):Ev (λn=>F_bf n p q) (cmpPl p q):=by
 refine⟨4,λn a=>?_⟩;obtain⟨k,rfl⟩:∃k,n=k+4:=⟨n-4,by omega⟩;exact congrFun (congrFun (Qgm k) p) q
theorem Qlx(n:Nat)(v:Int):F_ae n v=some (nb v (-1099511627776) 1099511627776):=by
 unfold F_ae;by_cases a:(-1099511627776)<=v
 .rw[Qz a];simp only[Vm,XI,Option.some.injEq];rw[XX,Qhl,Vo];omega
 .rw[QH a];simp only[Vn,XI,Option.some.injEq]
  symm
  rw[VH];intro z;rw[Qhl]at z;omega
theorem QiW{e:Int}(c:Course)(x:List Hit)(u:x.length<=1000000)(he:Ev (λn=>F_c n c) e):Ev (λn=>F_cg n c x) (bif e != 0 then e else bif checkH c x then 0 else 170):=by
 unfold F_cg;refine Ea he ?_;cases(e != 0)with
 |true=>exact Qa _
 |false=>
  simp only[Vn];refine Ea (QfQ c x u _ (λi h a=>?_) ?_) ?_
  .have m:Ev (λn=>((bif decide (h.Mat<0)then some true else(bif decide ((c.Mats.length:Int)<=h.Mat)then some true else(bif decide (h.Epoch<0)then some true else(bif decide (255<h.Epoch)then some true else(bif decide (h.Chip<0)then some true else(bif decide (1048576<h.Chip)then some true else(F_ae n h.First).bind λj=>(bif (!j)then some true else(F_ae n h.Last).bind λg=>(bif (!g)then some true else some (decide (h.Last<h.First)))))))))):Option Bool)) (wrongH c h):=by
    have e:wrongH c h=(decide (h.Mat<0)||(decide ((c.Mats.length:Int)<=h.Mat)||(decide (h.Epoch<0)||(decide (255<h.Epoch)||(decide (h.Chip<0)||(decide (1048576<h.Chip)||(!nb h.First (-1099511627776) 1099511627776||(!nb h.Last (-1099511627776) 1099511627776||decide (h.Last<h.First))))))))):=by
     unfold wrongH;have r:∀v lo d:Int,(!nb v lo d)=(decide (v<lo)||decide (d<v)):=λv lo d=>by unfold nb;simp
     rw[r h.Epoch,r h.Chip,Bool.or_assoc,Bool.or_assoc]
    rw[e];refine Qk λ_=>Qk λ_=>Qk λ_=>Qk λ_=>Qk λ_=>Qk λ_=>?_;simp only[Qlx,XI];exact Qk λ_=>Qk λ_=>Qa _
   refine⟨λp d t=>?_,λd=>?_⟩
   .have k:((i:Int)==0)=false:=by rw[Vu];omega
    have l:i64.wrap ((i:Int)-1)=((i-1:Nat):Int):=by
     have:=a.lt';rw[Qy (by omega) (by omega)];omega
    unfold F_gp;simp only[a.lt,Vm,a.ix,XI,a.nx,k,Vn,l,Qu t];cases s:wrongH c h with
    |true=>
     refine Ea (v:=(Ctl.done (Ctl.done (Ctl.done 170)):Ctl Unit (Ctl Int (Ctl Unit Int)))) (Ea m ?_) (Qa _);rw[s];exact Qa _
    |false=>
     refine Ea (v:=(bif folB c.Faults.Window p h then Ctl.cont ()else Ctl.done (Ctl.done (Ctl.done 170)):Ctl Unit (Ctl Int (Ctl Unit Int)))) (Ea m ?_) ?_
     .rw[s];simp only[Vn];refine Ea (QgN _ _) ?_;show Ev (λn=>((bif decide (0<cmpPl (plH p) (plH h))then some (decide (0<cmpPl (plH p) (plH h)))else(bif (cmpPl (plH p) (plH h)==0)then some (decide ((i64.wrap (h.First-p.Last))<=c.Faults.Window))else some false)):Option Bool).bind λf=>((bif f then some (Ctl.done (Ctl.done (Ctl.done 170)))else some (Ctl.cont ())):Option (Ctl Unit (Ctl Int (Ctl Unit Int))))) _;unfold folB;rcases Int.lt_trichotomy (cmpPl (plH p) (plH h)) 0 with q|q|q
      .rw[QH (show¬0<cmpPl (plH p) (plH h)by omega),Qz q,show(cmpPl (plH p) (plH h)==0)=false by rw[Vu];omega];exact Qa _
      .rw[q];by_cases z:c.Faults.Window<i64.wrap (h.First-p.Last)
       .rw[Qz z,QH (show¬i64.wrap (h.First-p.Last)<=c.Faults.Window by omega)];exact Qa _
       .rw[QH z,Qz (show i64.wrap (h.First-p.Last)<=c.Faults.Window by omega)];exact Qa _
      .rw[Qz q,QH (show¬cmpPl (plH p) (plH h)<0 by omega),QH (show¬cmpPl (plH p) (plH h)=0 by omega)];exact Qa _
     .cases folB c.Faults.Window p h<;>exact Qa _
   .subst d;unfold F_gp;have w:(((0:Nat):Int)==0)=true:=rfl;simp only[a.lt,Vm,a.ix,XI,a.nx,w];refine Ea (v:=(bif wrongH c h then Ctl.done (Ctl.done (Ctl.done 170))else Ctl.cont ():Ctl Unit (Ctl Int (Ctl Unit Int)))) (Ea m ?_) ?_
    .cases wrongH c h<;>exact Qa _
    .cases wrongH c h<;>exact Qa _
  .unfold F_gp;simp only[Qa6,Vn];exact Qa _
  .cases checkH c x<;>exact Qa _
theorem QkH(c:Course)(a:Course.wf c):∃b,Ev (λn=>F_bl n c) b/\(b=true->FewOk c/\Ev (λn=>F_c n c) (courseE c)):=by
 have w:=Qdy a;have q:=QeF a;obtain⟨e,d⟩:=QhY a;obtain⟨b,g,fb⟩:=QfR c w q e d;exact⟨b,g,λf=>⟨fb f,Qi1 c w q (fb f) e d⟩⟩
mutual
def flP:Part->List Int
 |⟨m,laps,ps⟩=>bif laps==0 then[m]else(List.replicate laps.toNat (flPs ps)).flatten
def flPs:List Part->List Int
 |[]=>[]
 |p::r=>flP p++flPs r
end
theorem Qc7(p:Part):flP p=bif p.Laps==0 then[p.Mat]else(List.replicate p.Laps.toNat (flPs p.Parts)).flatten:=by cases p;rfl
theorem Qa2(p:Part)(r:List Part):flPs (p::r)=flP p++flPs r:=by rw[flPs]
theorem Qgk:∀(k:Nat) (out lap:List Int),(repS k out lap).length<=256->repS k out lap=out++(List.replicate k lap).flatten
 |0,out,lap,_=>by simp[repS]
 |k+1,out,lap,h=>by
  rw[repS]at h⊢;by_cases hb:256<out.length
  .rw[Vq hb]at h;omega
  .rw[Vp hb]at h⊢;rw[Qgk k _ _ h,Xl,Vj,Vg]
theorem QfH{d:Int}{p:Part}(h:partS d p=true):p.Laps=0\/(1<=p.Laps/\p.Laps<=64/\partsS d p.Parts=true):=by
 rw[QaY]at h;cases a:(p.Laps==0)with
 |true=>exact .inl (by simpa using a)
 |false=>
  rw[a]at h;simp only[Vn,XV,inR,Vo]at h;exact .inr ⟨h.1.1,h.1.2,h.2.2.2⟩
theorem Qkk(w:Int):∀(m:Nat) (l:List Part) (e:List Int),szPs l<=m->partsS w l=true->(expS e l).length<=256->expS e l=e++flPs l:=by
 intro m
 induction m using Nat.strongRecOn with
 |_ m x=>
 intro l
 induction l with
 |nil=>intro e _ _ _;rw[expS,flPs,Ve]
 |cons p r k=>
  intro e u n q;rw[YY,List.all_cons,XV, <- YY]at n;have i:szP p+szPs r<=m:=by rw[szPs]at u;omega
  rw[expS]at q⊢;by_cases g:256<(repS (p.Laps.toNat+(bif decide (0<p.Laps)then 0 else 1)) e (lapS p)).length
  .rw[QcA r g]at q;omega
  .have s:=Qgk _ _ _ (Nat.le_of_not_lt g);rw[k _ (by omega) n.2 q,s,Qa2,Vg];congr 2;rcases QfH n.1 with t|⟨a,b,d⟩
   .have h:decide (0<p.Laps)=false:=QH (by omega);have j:(p.Laps==0)=true:=by simp[t]
    rw[Qaw,Qc7,h,j,t];simp
   .have h:decide (0<p.Laps)=true:=Qz (by omega);have j:(p.Laps==0)=false:=beq_false_of_ne (by omega);have f:(lapS p).length<=256:=by
     rw[s,h]at g;simp only[Vm,Xw]at g;have:p.Laps.toNat=(p.Laps.toNat-1)+1:=by omega
     rw[this,Xl,Vj]at g;simp only[X2]at g;omega
    rw[Qaw,h,Vm]at f;rw[YB]at i;have:=x (szPs p.Parts) (by omega) p.Parts [] (XS _) d f;rw[Qaw,Qc7,h,j,Vm,Vm,Vn,Xw,this,Vf]
theorem QlC(P:Int):∀(m:Nat) (l:List Part) (e:List Int),szPs l<=m->partsS P l=true->l.length<=1048576->(∀x∈l,Part.wf x)->e.length+(flPs l).length<=256->Ev (λn=>F_n n l e) (e++flPs l):=by
 intro m
 induction m using Nat.strongRecOn with
 |_ m H=>
 intro l e X F G W M;rw[YY,Xs]at F;refine Yx ?_;show Ev (λn=>B_n (F_n n) n l e) _;unfold B_n;have inner:∀(p:Part) (w:List Int),0<=p.Laps->p.Laps<=64->(∀o:List Int,o.length+w.length<=256->Ev (λn=>F_n n p.Parts o) (o++w))->∀(k j:Nat) (o:List Int),j+k=p.Laps.toNat->o.length+(List.replicate k w).flatten.length<=256->
   EvI (λn=>F_dp n (F_n n) p) (o,(j:Int)) (o++(List.replicate k w).flatten):=by
  intro p w E L q k
  induction k with
  |zero=>
   intro j o R _;refine Ej ?_;unfold F_dp;simp only[QH (show¬((j:Int)<p.Laps)by omega),Vn,List.replicate_zero,List.flatten_nil,Ve];exact Qa _
  |succ k s=>
   intro j o R g;rw[Xl,Vj]at g⊢;simp only[X2]at g;refine(Ex ?_ (s (j+1) (o++w) (by omega) (by rw[X2];omega))).eq (by rw[Vg]);unfold F_dp;simp only[Qz (show(j:Int)<p.Laps by omega),Vm];refine Ea (q o (by omega)) ?_;rw[Yd (by omega)];exact Qa _
 have loop:∀(r:List Part) (i:Nat) (o:List Int),l.drop i=r->i<=l.length->o.length+(flPs r).length<=256->EvI (λn=>F_id n l (F_n n)) (o,(i:Int)) (o++flPs r):=by
  intro r
  induction r with
  |nil=>
   intro i o q B _;refine Ej ?_;unfold F_id;simp only[QT q B,Vn,flPs,Ve];exact Qa _
  |cons p r y=>
   intro i o q B g;obtain⟨f,u⟩:=Qt (by omega) q;have V:=f.lt';rw[Qa2,X2]at g;have J:=YQ f.mem;rw[YB]at J;obtain⟨Q,N⟩:=Ya (W p f.mem);have O:=F p f.mem;refine(Ex ?_ (y (i+1) (o++flP p) u (by omega) (by rw[X2];omega))).eq (by rw[Qa2,Vg]);unfold F_id;simp only[f.lt,Vm,f.ix,XI,f.nx];rcases QfH O with E|⟨a,b,d⟩
   .have h:(p.Laps==0)=true:=by simp[E]
    have t:flP p=[p.Mat]:=by rw[Qc7,h];rfl
    rw[t]at g⊢;refine Ea (v:=o++[p.Mat]) ?_ ?_
    .rw[h];refine Qdx ?_;rw[QlT _ _ (by simp;omega)];exact Qa _
    .refine Ea (v:=o++[p.Mat]) ((Ej ?_).ev) (Qa _);unfold F_dp;simp only[QH (show¬((0:Int)<p.Laps)by omega),Vn];exact Qa _
   .have h:(p.Laps==0)=false:=beq_false_of_ne (by omega);have t:flP p=(List.replicate p.Laps.toNat (flPs p.Parts)).flatten:=by rw[Qc7,h];rfl
    rw[t]at g⊢;refine Ea (v:=o) ?_ ?_
    .rw[h];exact Qa _
    .refine Ea ((inner p (flPs p.Parts) (by omega) b (λT z=>H (szPs p.Parts) (by omega) p.Parts T (XS _) d Q N z) p.Laps.toNat 0 o (by omega) (by omega)).ev) (Qa _)
 exact Ea ((loop l 0 e (by simp) (XT _) M).ev) (Qa _)
structure Good (c:Course):Prop where
 parts:∀d∈c.Distances,partsS ((c.Mats.length:Int)-1) d.Route=true
 route:∀d∈c.Distances,2<=(expS [] d.Route).length/\(expS [] d.Route).length<=256
 len:∀d∈c.Distances,d.Route.length<=1048576
 wf:∀d∈c.Distances,∀x∈d.Route,Part.wf x
 legs:c.Legs.length<=512
theorem Good.exp{c:Course}(g:Good c){d:Distance}(a:d∈c.Distances):expS [] d.Route=flPs d.Route:=by
 have:=Qkk _ _ d.Route [] (XS _) (g.parts d a) (g.route d a).2
 rwa [Vf]at this
theorem Qdq{c:Course}(g:Good c){d:Distance}(a:d∈c.Distances):Ev (λn=>F_cw n d.Route) (flPs d.Route):=by
 unfold F_cw;have h:=(g.route d a).2;rw[g.exp a]at h;refine Ea ((QlC _ _ d.Route [] (XS _) (g.parts d a) (g.len d a) (g.wf d a) (by simpa using h)).eq (Vf _)) (Qa _)
theorem QfP{c:Course}(he:Ev (λn=>F_c n c) 0){i:Nat}{d:Distance}(a:c.Distances[i]?=some d):Ev (λn=>F_bd n c (i:Int)) (d,0):=by
 unfold F_bd;refine Ea he ?_;have e:=(XK.1 a).1;refine Qq (Ea (v:=false) ?_ ?_)
 .rw[QH (show¬((i:Int)<0)by omega),QH (show¬((c.Distances.length:Int)<=(i:Int))by omega)];exact Qa _
 .simp only[Vn,Qu a,XI];exact Qa _
theorem QlL(c:Course)(a:c.Legs.length<=512):∃m,Ev (λn=>Go.Sw.iter (F_hg n c) n (([]:List (Ub×Leg)),0)) m:=by
 refine⟨_,Jr c.Legs (λ(m:List (Ub×Leg)) x=>QY m ({from_:=x.From,to_:=x.To:Ub}) x) [] (λm i=>(m,(i:Int))) (λm=>m) (by omega) rfl (λi x m ha _=>?_) ?_⟩
 .unfold F_hg;simp only[ha.lt,Vm,ha.ix,XI,ha.nx];exact Qa _
 .unfold F_hg;simp only[Qa6,Vn];exact Qa _
theorem Qjy{α:Type}{step:Nat->Int->Option (Ctl Int (Ctl Unit Int))}(l:List α)(q:α->Bool)(z:l.length<=1048576)
  (s:∀i x,At l i x->Ev (λn=>step n (i:Int)) (bif q x then .done (.done (i:Int))else .cont ((i+1:Nat):Int)))(u:Ev (λn=>step n (l.length:Int)) (.done (.cont ()))):
  (∃i x,At l i x/\l.find? q=some x/\Ev (λn=>Go.Sw.iter (step n) n 0) (.done (i:Int)))\/l.find? q=none/\Ev (λn=>Go.Sw.iter (step n) n 0) (.cont ()):=by
 have f:∀(r:List α) (i:Nat),l.drop i=r->i<=l.length->(∃j x,At l j x/\r.find? q=some x/\EvI step (i:Int) (.done (j:Int)))\/r.find? q=none/\EvI step (i:Int) (.cont ()):=by
  intro r
  induction r with
  |nil=>
   intro i m p;have:i=l.length:=by have:=Xq.1 m;omega
   subst this;exact .inr ⟨rfl,Ej u⟩
  |cons x r w=>
   intro i m p;obtain⟨g,k⟩:=Qt (by omega) m;have t:=g.lt';have h:=s i x g;rw[List.find?_cons];cases e:q x with
   |true=>rw[e]at h;exact .inl ⟨i,x,g,rfl,Ej h⟩
   |false=>
    rw[e]at h;rcases w (i+1) k (by omega)with⟨j,y,a,b,d⟩|⟨a,b⟩
    .exact .inl ⟨j,y,a,b,Ex h d⟩
    .exact .inr ⟨a,Ex h b⟩
 rcases f l 0 (by simp) (XT _)with⟨j,x,a,b,d⟩|⟨a,b⟩
 .exact .inl ⟨j,x,a,b,d.ev⟩
 .exact .inr ⟨a,b.ev⟩
theorem Qlz{c:Course}(w:CourseOk c)(q:PartsOk c)(h:courseE c=0):Good c:=by
 unfold courseE at h;cases f:fitsS c with
 |false=>rw[f]at h;cases h
 |true=>
  rw[f]at h;cases j:namesS c with
  |false=>rw[j]at h;cases h
  |true=>
   rw[j]at h;cases e:numbersS c with
   |false=>rw[e]at h;cases h
   |true=>
    rw[e]at h;simp only[Vm]at h;have i:c.Distances.all (routeS c)=true:=by
     cases g:(tiesE c.Ties==0)with
     |false=>
      rw[g,Vn]at h;rw[Vu]at g;exact absurd h g
     |true=>
      rw[g,Vm]at h;cases i:c.Distances.all (routeS c)with
      |true=>rfl
      |false=>rw[i]at h;cases h
    unfold numbersS at e;simp only[XV]at e;obtain⟨_,_,_,k,_⟩:=e;unfold fitsS at f;simp only[XV,Bool.not_eq_true',XW,decide_eq_false_iff_not]at f;rw[Xs]at i k;refine⟨λd a=>?_,λd a=>?_,q.len,q.wf,?_⟩
    .have:=k d a;unfold distS at this;simp only[XV]at this;exact this.2.2.1
    .have:=i d a;unfold routeS routeR at this;simp only[XV,Vo]at this;exact this.1
    .have:=f.1.2.1;omega
theorem Qlm:∀j:Fin 257,(decide (0<(u64.wrap ((u64.wrap ((u64.wrap ((Yh .u64 (u64.wrap ([(0:Int)].length:Int)) 32)*(Yh .u64 (u64.wrap ((j:Nat):Int)) 32)))+(Yh .u64 (u64.wrap ((u64.wrap ((Yh .u64 (u64.wrap ([(0:Int)].length:Int)) 32)*(Yi .u64 (u64.wrap ((j:Nat):Int)) 4294967295)))+(Yh .u64 (u64.wrap ((Yi .u64 (u64.wrap ([(0:Int)].length:Int)) 4294967295)*(Yi .u64 (u64.wrap ((j:Nat):Int)) 4294967295))) 32))) 32)))+(Yh .u64 (u64.wrap ((Yi .u64 (u64.wrap ((u64.wrap ((Yh .u64 (u64.wrap ([(0:Int)].length:Int)) 32)*(Yi .u64 (u64.wrap ((j:Nat):Int)) 4294967295)))+(Yh .u64 (u64.wrap ((Yi .u64 (u64.wrap ([(0:Int)].length:Int)) 4294967295)*(Yi .u64 (u64.wrap ((j:Nat):Int)) 4294967295))) 32))) 4294967295)+(u64.wrap ((Yi .u64 (u64.wrap ([(0:Int)].length:Int)) 4294967295)*(Yh .u64 (u64.wrap ((j:Nat):Int)) 32))))) 32)))))=false:=by decide+kernel
theorem QjU:∀j:Fin 257,(decide (9223372036854775807<(u64.wrap ((u64.wrap ([(0:Int)].length:Int))*(u64.wrap ((j:Nat):Int))))))=false:=by decide+kernel
theorem Qln:∀j:Fin 257,(i64.wrap (u64.wrap ((u64.wrap ([(0:Int)].length:Int))*(u64.wrap ((j:Nat):Int)))))=((j:Nat):Int):=by decide+kernel
theorem QjV(x:Int)(K:Nat)(p:K<=256):∀(m j:Nat),1<=j->j<=K->K-j<=m->EvI (λn=>F_eg n) (List.replicate j x++List.replicate (K-j) 0,(j:Int)) (List.replicate K x):=by
 intro m
 induction m with
 |zero=>
  intro j i f g;obtain rfl:j=K:=by omega
  refine Ej ?_;unfold F_eg;rw[Nat.sub_self,List.replicate_zero,Ve];simp only[List.length_replicate,QH (show¬((j:Int)<(j:Int))by omega),Vn];exact Qa _
 |succ m l=>
  intro j i f g;by_cases h:j=K
  .subst h;refine Ej ?_;unfold F_eg;rw[Nat.sub_self,List.replicate_zero,Ve];simp only[List.length_replicate,QH (show¬((j:Int)<(j:Int))by omega),Vn];exact Qa _
  .have d:(List.replicate j x++List.replicate (K-j) (0:Int)).length=K:=by simp;omega
   refine Ex ?_ (l (j+min j (K-j)) (by omega) (by omega) (by omega));unfold F_eg;simp only;generalize hL:List.replicate j x++List.replicate (K-j) (0:Int)=L at d;have a:L.take j=List.replicate j x:=by rw[<- hL,List.take_left' (by simp)]
   have k:L.drop j=List.replicate (K-j) 0:=by rw[<- hL,List.drop_left' (by simp)]
   rw[Qz (by omega),Vm,QjP L (by omega),XI,Qmj L (by omega),XI];unfold cpy;simp only[XI,Int.toNat_natCast,d,a];have e:L.take j++(List.replicate j x).take (K-j)++L.drop (j+min (List.replicate j x).length (K-j))=List.replicate (j+min j (K-j)) x++List.replicate (K-(j+min j (K-j))) 0:=by
    rw[<- List.drop_drop,a,k,List.length_replicate,List.take_replicate,List.drop_replicate,List.replicate_append_replicate];rw[Nat.min_comm (K-j) j,Nat.sub_sub]
   rw[a]at e;rw[e];have w:i64.wrap ((j:Int)+((min (List.replicate j x).length (K-j):Nat):Int))=((j+min j (K-j):Nat):Int):=by
    rw[List.length_replicate,Qy (by omega) (by omega)];omega
   rw[w];exact Qa _
theorem QaQ{α:Type}{c:Bool}{f g:Nat->Option α}{v:α}(h:c=false)(q:Ev g v):Ev (λn=>bif c then f n else g n) v:=by subst h;exact q
theorem Qi0(x:Int)(k:Nat)(f:1<=k)(g:k<=256):Ev (λn=>F_ba n [x] (k:Int)) (List.replicate k x):=by
 have a:=Qlm ⟨k,by omega⟩;have d:=QjU ⟨k,by omega⟩;have h:=Qln ⟨k,by omega⟩;unfold F_ba;refine Ea (v:=()) (by rw[QH (show¬((k:Int)<0)by omega)];exact Qa _) (Ea (v:=()) (Qa _) (Ea (v:=false) ?_ (Ea (v:=()) (Qa _) ?_)))
 .exact QaQ a (EA (congrArg some d))
 .refine Ea (v:=List.replicate k 0) (EA ((congrArg (λz=>mk z (0:Int)) h).trans ?_)) ?_
  .show mk (k:Int) 0=_;unfold mk;rw[Qz (by omega),Qz (by omega)];rfl
  .refine Ea (v:=List.replicate 1 x++List.replicate (k-1) 0) (EA ?_) ?_
   .unfold cpy;simp only[List.length_replicate,Int.toNat_natCast,List.length_singleton];obtain⟨m,rfl⟩:∃m,k=m+1:=⟨k-1,by omega⟩;simp
   .have e:((min [x].length (List.replicate k (0:Int)).length:Nat):Int)=((1:Nat):Int):=by simp;omega
    rw[e];exact Ea ((QjV x k g k 1 (XS _) f (by omega)).ev) (Qa _)
set_option maxRecDepth 10000
theorem Jo{c:Course}(h:courseE c=0):fitsS c=true/\numbersS c=true/\ ∀d∈c.Distances,routeS c d=true:=by
 unfold courseE at h;cases g:fitsS c with
 |false=>rw[g]at h;cases h
 |true=>
  rw[g]at h;cases e:namesS c with
  |false=>rw[e]at h;cases h
  |true=>
   rw[e]at h;cases f:numbersS c with
   |false=>rw[f]at h;cases h
   |true=>
    rw[f]at h;simp only[Vm]at h;cases a:(tiesE c.Ties==0)with
    |false=>
     rw[a,Vn]at h;rw[Vu]at a;exact absurd h a
    |true=>
     rw[a,Vm]at h;cases i:c.Distances.all (routeS c)with
     |true=>exact⟨rfl,rfl,Xs.1 i⟩
     |false=>rw[i]at h;cases h
theorem QgV{c:Course}(h:courseE c=0):CrsOk c:=by
 obtain⟨d,a,_⟩:=Jo h;unfold fitsS at d;unfold numbersS lastS inR at a;simp only[XV,Bool.not_eq_true',XW,decide_eq_false_iff_not,Vo]at d a;refine⟨?_,?_,?_⟩
 .have:=d.1;omega
 .exact a.2.2.2.2.2.2.2.2.2.2.1.2
 .exact a.2.2.2.2.2.2.2.2.2.2.2.1
theorem QaI{α:Type}{c:Bool}{f g:Nat->Option α}{v:α}(h:c=true)(q:Ev f v):Ev (λn=>bif c then f n else g n) v:=by subst h;exact q
def lastB(l:List Int)(x:Int):Nat->Nat
 |0=>0
 |j+1=>bif (l[j+1]? ==some x)then j+1 else lastB l x j
theorem Qgr(l:List Int)(x:Int):∀j,lastB l x j<=j
 |0=>XS _
 |j+1=>by
  unfold lastB;have:=Qgr l x j;cases(l[j+1]? ==some x)<;>simp<;>omega
def routeV(d:Distance)(k:Nat):List Int:=(flPs d.Route).take (lastB (flPs d.Route) d.Extra ((flPs d.Route).length-1)+1)++List.replicate k d.Extra++(flPs d.Route).drop (lastB (flPs d.Route) d.Extra ((flPs d.Route).length-1)+1)
def routeO(c:Course)(i k:Int):List Int×Int:=
 bif decide (i<0)then([],90)else match c.Distances[i.toNat]? with
 |none=>([],90)
 |some d=>bif decide (k<0)||(decide (0<k)&&decide (d.Extra<0))then([],90)else bif decide (256-((flPs d.Route).length:Int)<k)then([],2)else(routeV d k.toNat,0)
theorem Qfk(d:Distance)(e:Int)(l:List Int)(a:l.length<=256):∀(m:Nat),m<l.length->EvI (λn=>F_fe n (d,e) l) (m:Int) ((lastB l d.Extra m:Nat):Int)
 |0,h=>by
  refine Ej ?_;unfold F_fe lastB;exact Qa _
 |m+1,h=>by
  have hx:l[m+1]?=some (l[m+1]'(h)):=XJ h;unfold lastB;rw[hx];cases hq:((l[m+1]'(h)) != d.Extra)with
  |true=>
   have e1:(some (l[m+1]'(h))==some d.Extra)=false:=by simp at hq⊢;exact hq
   rw[e1,Vn];refine Ex ?_ (Qfk d e l a m (by omega));unfold F_fe;rw[Qz (show(0:Int)<((m+1:Nat):Int)by omega),Vm,Qu hx,XI,hq,XI,Vm,Qy (n:=((m+1:Nat):Int)-1) (by omega) (by omega),show((m+1:Nat):Int)-1=(m:Int)by omega];exact Qa _
  |false=>
   have e1:(some (l[m+1]'(h))==some d.Extra)=true:=by simp at hq⊢;exact hq
   rw[e1,Vm];refine Ej ?_;unfold F_fe;rw[Qz (show(0:Int)<((m+1:Nat):Int)by omega),Vm,Qu hx,XI,hq,XI,Vn];exact Qa _
theorem Qkz{c:Course}(g:Good c)(he:Ev (λn=>F_c n c) 0)(i k:Int):Ev (λn=>F_at n c i k) (routeO c i k):=by
 unfold routeO;by_cases p:i<0
 .rw[Qz p,Vm];unfold F_at F_bj;refine Ea (v:=((90:Int),([]:List Int))) (Ea (v:=U_course_build.c0 90) ?_ (Qa _)) (Qa _);refine Ea (v:=(Uo,90)) ?_ (QaI rfl (Qa _));unfold F_bd;refine Ea he (Qq (Ea (v:=true) ?_ (Qa _)));rw[Qz p];exact Qa _
 rw[QH p,Vn];obtain⟨j,rfl⟩:∃j:Nat,i=(j:Int):=⟨i.toNat,by omega⟩;rw[Int.toNat_natCast];cases e:c.Distances[j]? with
 |none=>
  have x:c.Distances.length<=j:=List.getElem?_eq_none_iff.1 e;unfold F_at F_bj;refine Ea (v:=((90:Int),([]:List Int))) (Ea (v:=U_course_build.c0 90) ?_ (Qa _)) (Qa _);refine Ea (v:=(Uo,90)) ?_ (QaI rfl (Qa _));unfold F_bd;refine Ea he (Qq (Ea (v:=true) ?_ (Qa _)));rw[QH (show¬(j:Int)<0 by omega),Vn,Qz (show(c.Distances.length:Int)<=(j:Int)by omega)];exact Qa _
 |some d=>
  simp only;have f:=VC e;have h:=(g.route d f);rw[g.exp f]at h;have w:i64.wrap (256-((flPs d.Route).length:Int))=256-((flPs d.Route).length:Int):=Qy (by omega) (by omega);unfold F_at F_bj;cases l:(decide (k<0)||(decide (0<k)&&decide (d.Extra<0)))with
  |true=>
   refine Ea (v:=((90:Int),([]:List Int))) (Ea (v:=U_course_build.c1 ()) (Ea (QfP he e) (Qq (Ea (v:=true) ?_ (Qa _)))) (Qa _)) (Qa _);exact Ew (Qk λ_=>Ei λ_=>Qa _) l
  |false=>
   have q:=l;simp only[XW,decide_eq_false_iff_not,Bool.and_eq_false_iff]at q;cases r:decide (256-((flPs d.Route).length:Int)<k)with
   |true=>
    refine Ea (v:=((2:Int),flPs d.Route)) (Ea (v:=U_course_build.c2 (flPs d.Route)) (Ea (QfP he e) (Qq (Ea (v:=false) ?_ (Qq (Ea (Qdq g f) ?_))))) (Qa _)) (Qa _)
    .exact Ew (Qk λ_=>Ei λ_=>Qa _) l
    .simp only[w,r,Vm];exact Qa _
   |false=>
    have z:=Vs r;obtain⟨a,rfl⟩:∃a:Nat,k=(a:Int):=⟨k.toNat,by omega⟩;obtain⟨m,t⟩:=QlL c g.legs;rw[Int.toNat_natCast];refine Ea (v:=(0,routeV d a)) (Ea (v:=U_course_build.c3 (routeV d a,m)) (Ea (QfP he e) (Qq (Ea (v:=false) ?_ (Qq (Ea (Qdq g f) ?_))))) (Qa _)) (Qa _)
    .exact Ew (Qk λ_=>Ei λ_=>Qa _) l
    .simp only[w,r,Vn];refine Ea (v:=routeV d a) ?_ (Ea t (Qa _));by_cases y:a=0
     .subst y;refine QaQ (QH (show¬(0:Int)<((0:Nat):Int)by omega)) ((Qa _).eq ?_);unfold routeV;simp
     .refine QaI (Qz (show(0:Int)<(a:Int)by omega)) ?_;have u:=Qfk d 0 (flPs d.Route) h.2 ((flPs d.Route).length-1) (by omega);have s:=Qgr (flPs d.Route) d.Extra ((flPs d.Route).length-1);rw[Qy (n:=((flPs d.Route).length:Int)-1) (by omega) (by omega),show((flPs d.Route).length:Int)-1=(((flPs d.Route).length-1:Nat):Int)by omega];refine Ea u.ev (Ea (Qi0 d.Extra a (by omega) (by omega)) (Ea (EA ?_) (Qa _)));unfold routeV;generalize lastB (flPs d.Route) d.Extra ((flPs d.Route).length-1)=b at s;rw[Qy (n:=(b:Int)+1) (by omega) (by omega)];unfold Qj6;rw[Qz (show 0<=(b:Int)+1 by omega),Qz (show(b:Int)+1<=((flPs d.Route).length:Int)by omega),List.length_replicate,show Nat.blt 0 a=true from by simp;omega,XR (show(flPs d.Route).length+a<=Yo by unfold Yo;omega),show((b:Int)+1).toNat=b+1 by omega];rfl
theorem Qe2{c:Course}(g:Good c){i k:Int}(h:(routeO c i k).2=0):∃(j:Nat) (d:Distance) (a:Nat),i=(j:Int)/\k=(a:Int)/\c.Distances[j]?=some d/\(0<a->0<=d.Extra)/\(flPs d.Route).length+a<=256/\(routeO c i k).1=routeV d a:=by
 unfold routeO at h⊢;by_cases l:i<0
 .rw[Qz l]at h;cases h
 rw[QH l,Vn]at h⊢;cases e:c.Distances[i.toNat]? with
 |none=>rw[e]at h;cases h
 |some d=>
  rw[e]at h;simp only at h⊢;cases f:(decide (k<0)||(decide (0<k)&&decide (d.Extra<0)))with
  |true=>rw[f]at h;cases h
  |false=>
   rw[f]at h;cases m:decide (256-((flPs d.Route).length:Int)<k)with
   |true=>rw[m]at h;cases h
   |false=>
    simp only[XW,decide_eq_false_iff_not,Bool.and_eq_false_iff]at f m;exact⟨i.toNat,d,k.toNat,by omega,by omega,e,λ_=>by omega,by omega,rfl⟩
def Adj(c:Course):List Int->Prop
 |a::b::r=>hasLeg c a b=true/\Adj c (b::r)
 |_=>True
theorem QeO{c:Course}{len:Nat}:∀{r:List Int} {i:Nat} {p:Int},rokS c len i p r=true->Adj c r/\(i≠0->∀m q,r=m::q->hasLeg c p m=true)
 |[],_,_,_=>⟨trivial,λ_ m q e=>by cases e⟩
 |m::r,i,p,h=>by
  unfold rokS at h;simp only[XV,Bool.or_eq_true,Vo]at h;obtain⟨_,_,h1,h2⟩:=h;obtain⟨a1,a2⟩:=QeO h2;refine⟨?_,λhi m' q e=>?_⟩
  .cases r with
   |nil=>trivial
   |cons b r=>exact⟨a2 (by omega) b r rfl,a1⟩
  .cases e;exact h1.resolve_left hi
theorem Qhb{c:Course}:∀{r:List Int} (k:Nat),Adj c r->Adj c (r.drop k)
 |r,0,h=>by simpa using h
 |[],k+1,_=>by simp[Adj]
 |[a],k+1,_=>by simp[Adj]
 |a::b::r,k+1,h=>by
  rw[List.drop_succ_cons];exact Qhb k h.2
theorem Adj.append{c:Course}:∀{p:List Int} {x:Int} {q:List Int},Adj c (p++[x])->Adj c (x::q)->Adj c (p++x::q)
 |[],x,q,_,h=>h
 |[a],x,q,h1,h2=>⟨h1.1,h2⟩
 |a::b::r,x,q,h1,h2=>⟨h1.1,Adj.append (p:=b::r) h1.2 h2⟩
theorem Qiv{c:Course}{x:Int}(h:hasLeg c x x=true){q:List Int}(hq:Adj c (x::q)):∀k,Adj c (x::(List.replicate k x++q))
 |0=>hq
 |k+1=>⟨h,Qiv h hq k⟩
theorem Adj.at{c:Course}:∀{r:List Int} {i:Nat} {a b:Int},Adj c r->r[i]?=some a->r[i+1]?=some b->hasLeg c a b=true
 |[],_,_,_,_,h,_=>by simp at h
 |[x],i,_,_,_,_,h=>by simp at h
 |x::y::r,0,a,b,h,h1,h2=>by simp at h1 h2;subst h1;subst h2;exact h.1
 |x::y::r,i+1,a,b,h,h1,h2=>Adj.at (r:=y::r) h.2 (by simpa using h1) (by simpa using h2)
theorem Qgs(l:List Int)(x:Int):∀m,m<l.length->(∃i,i<=m/\0<i/\l[i]?=some x)->l[lastB l x m]?=some x
 |0,h,⟨i,h1,h2,_⟩=>by omega
 |m+1,h,⟨i,h1,h2,h3⟩=>by
  unfold lastB;cases e:(l[m+1]? ==some x)with
  |true=>simp at e;simpa using e
  |false=>
   simp only[Vn];refine Qgs l x m (by omega) ⟨i,?_,h2,h3⟩;rcases Vx m i with q|q
   .have:i=m+1:=by omega
    subst this;rw[h3]at e;simp at e
   .exact q
theorem QiC{c:Course}(g:Good c)(V:courseE c=0){d:Distance}(L:d∈c.Distances)(k:Nat)(W:0<k->0<=d.Extra):Adj c (routeV d k):=by
 have h:=(Jo V).2.2 d L;unfold routeS routeR at h;rw[g.exp L]at h;simp only[XV,Vo]at h;obtain⟨⟨X,J⟩,s,H,_⟩:=h;have u:=(QeO s).1;unfold routeV;by_cases Q:k=0
 .subst Q;simpa using u
 have N:=W (by omega);rw[Qz N,Vm]at H;simp only[XV,Bool.not_eq_true',Vu,ne_eq]at H;obtain⟨M,E,R⟩:=H;have n:d.Extra∈flPs d.Route:=by
  by_cases w:d.Extra∈flPs d.Route
  .exact w
  .rw[List.count_eq_zero_of_not_mem w]at M;exact absurd rfl M
 obtain⟨i,B,l⟩:=List.getElem_of_mem n;have z:0<i:=by
  rcases Nat.eq_zero_or_pos i with q|q
  .subst q;cases G:flPs d.Route with
   |nil=>rw[G]at B;simp at B
   |cons m r=>
    rw[G]at s;unfold rokS at s;simp only[XV,Vt,decide_true,Bool.true_eq]at s;have w:m=d.Extra:=by rw[<- l];simp[G]
    rw[<- w]at E;rw[Vt]at E;have:=s.1;rw[E]at this;simp at this
  .exact q
 have f:=Qgs (flPs d.Route) d.Extra ((flPs d.Route).length-1) (by omega) ⟨i,by omega,z,by rw[XJ B,l]⟩;generalize hb:lastB (flPs d.Route) d.Extra ((flPs d.Route).length-1)=b at f;have F:b<(flPs d.Route).length:=(XK.1 f).1;have j:(flPs d.Route).drop b=d.Extra::(flPs d.Route).drop (b+1):=by
  rw[Xp F,(XK.1 f).2]
 have a:(flPs d.Route).take (b+1)=(flPs d.Route).take b++[d.Extra]:=by
  rw[List.take_add_one,f];rfl
 have t:∀{p q:List Int},Adj c (p++q)->Adj c p:=by
  intro p
  induction p with
  |nil=>intro q _;trivial
  |cons x p P=>
   intro q h;cases p with
   |nil=>trivial
   |cons y p=>exact⟨h.1,P h.2⟩
 have T:Adj c ((flPs d.Route).take b++[d.Extra]):=by
  rw[<- a];have e:(flPs d.Route)=(flPs d.Route).take (b+1)++(flPs d.Route).drop (b+1):=(Xy _ _).symm;rw[e]at u;exact t u
 have O:Adj c (d.Extra::(flPs d.Route).drop (b+1)):=by rw[<- j];exact Qhb b u
 rw[a,Vg,Vg,List.singleton_append];exact Adj.append T (Qiv R O k)
set_option maxRecDepth 10000
theorem timeI{x:Int}:timeB x=true↔isT x:=by
 unfold timeB inR isT;rw[XV,Vo,Vo]
def segIx(k:Clocks)(h:Hit):Int:=firstI (λx:Segment=>({mat:=x.Mat,epoch:=x.Epoch:Ue})=={mat:=h.Mat,epoch:=h.Epoch}) k.Segments 0
def spanV(c:Course)(s:Segment)(h:Hit):Span:={Lo:=i64.wrap (h.First+(devV c (kindAt c h.Mat) s h.First).Lo),Hi:=i64.wrap (h.Last+(devV c (kindAt c h.Mat) s h.Last).Hi)}
def timeV(c:Course)(k:Clocks)(h:Hit):Option Ud:=
 bif kindAt c h.Mat==1 then some {segment:= -1,span:=spanV c {Mat:=h.Mat,Epoch:=h.Epoch,Anchor:=0} h}else
  bif decide (segIx k h<0)then none else(k.Segments[(segIx k h).toNat]?).map λs=>{segment:=segIx k h,span:=spanV c s h}
def timesV(c:Course)(k:Clocks):List Hit->Option (List Ud)
 |[]=>some []
 |h::r=>(timeV c k h).bind λx=>(timesV c k r).map λl=>x::l
theorem Qde(c:Course)(k:Clocks)(h:Hit)(r:List Hit):timesV c k (h::r)=(timeV c k h).bind λx=>(timesV c k r).map λl=>x::l:=rfl
theorem Qeq(k:Clocks)(h:Hit)(d:k.Segments.length<=1048576):Ev (λn=>F_cj n k.Segments h) (segIx k h):=by
 unfold F_cj;refine Ev.first k.Segments _ (by omega) (λi x a=>?_) ?_
 .unfold F_iz;simp only[a.lt,Vm,a.ix,XI,a.nx];unfold F_ex;simp only[XI];cases(({mat:=x.Mat,epoch:=x.Epoch:Ue})=={mat:=h.Mat,epoch:=h.Epoch})<;>exact Qa _
 .unfold F_iz;simp only[Qa6,Vn];exact Qa _
theorem Qgd{k:Clocks}{h:Hit}(q:¬segIx k h<0):∃(j:Nat) (s:Segment),segIx k h=(j:Int)/\k.Segments[j]?=some s/\s.Mat=h.Mat/\s.Epoch=h.Epoch:=by
 rcases Qdm (λx:Segment=>({mat:=x.Mat,epoch:=x.Epoch:Ue})=={mat:=h.Mat,epoch:=h.Epoch}) k.Segments 0 with⟨a,_⟩|⟨j,s,a,e,d,_⟩
 .unfold segIx at q;rw[a]at q;omega
 .refine⟨j,s,by unfold segIx;rw[a];simp,e,?_⟩;rw[Vt]at d;simpa using d
structure HitOk (c:Course) (h:Hit):Prop where
 mat:∃(i:Nat) (m:Mat),h.Mat=(i:Int)/\c.Mats[i]?=some m
 fi:isT h.First
 la:isT h.Last
 le:h.First<=h.Last
theorem Qk4{c:Course}{h:Hit}(q:wrongH c h=false):HitOk c h:=by
 unfold wrongH at q;simp only[XW,decide_eq_false_iff_not,Bool.not_eq_false',Qhl]at q;obtain⟨g,f,_,_,a,d,e⟩:=q;exact⟨⟨h.Mat.toNat,c.Mats[h.Mat.toNat]'(by omega),by omega,XJ _⟩,a,d,by omega⟩
theorem Qih{p:Nat->Bool}:∀{m i:Nat},chkFrom p m i=true->∀j,i<=j->j<i+m->p j=true
 |0,i,_,j,h1,h2=>by omega
 |m+1,i,h,j,h1,h2=>by
  unfold chkFrom at h;rw[XV]at h;rcases Nat.eq_or_lt_of_le h1 with rfl|q
  .exact h.1
  .exact Qih h.2 j q (by omega)
theorem Qh6{c:Course}{x:List Hit}(h:checkH c x=true):∀y∈x,HitOk c y:=by
 intro y a;obtain⟨i,d,rfl⟩:=List.getElem_of_mem a;have:=Qih h i (XT _) (by omega);unfold okAt at this;rw[XJ d]at this;simp only[XV,Bool.not_eq_true']at this;exact Qk4 this.1
theorem QkB{c:Course}(j:CrsOk c)(he:Ev (λn=>F_c n c) 0){s:Segment}{i:Nat}{m:Mat}(f:s.Mat=(i:Int))(d:c.Mats[i]?=some m)(g:isT s.Anchor){a:Int}(e:isT a):
  Ev (λn=>F_ah n c s a) (devV c m.Kind s a,0):=by
 have h:matB c s.Mat=true:=by
  have:=(XK.1 d).1;unfold matB;rw[f,Qz (by omega),Qz (by omega)];rfl
 unfold F_ah;refine Ea he (Qq (Ea (v:=false) (Ea (Qew c _) ?_) (Qq (Ea (Qhy j d f g e) (Qa _)))));rw[h];refine Qq (Ea (Qa5 a) ?_);rw[timeI.2 e];refine Qq (Ea (Qa5 s.Anchor) ?_);rw[timeI.2 g];exact Qa _
structure ClkOk (k:Clocks):Prop where
 dims:Dims k
 ev:Ev (λn=>F_ar n k) 0
 anc:∀s∈k.Segments,isT s.Anchor
theorem Qg9{k:Clocks}(w:ClkW k)(h:clkB k=true):ClkOk k:=by
 have e:=Qkx k w;rw[h]at e;refine⟨Qi7 h,e,λs f=>?_⟩;unfold clkB at h;simp only[XV]at h;have a:=h.2.1;unfold segsB at a;obtain⟨i,d,rfl⟩:=List.getElem_of_mem f;have:=Qm6.1 a i d;rw[XJ d]at this;unfold segBad at this;simp only[Bool.not_eq_true',XW,Bool.not_eq_false']at this;exact timeI.1 this.2.2.2.2.1
theorem Qlt{c:Course}{h:Hit}{i:Nat}{m:Mat}(d:h.Mat=(i:Int))(a:c.Mats[i]?=some m):kindAt c h.Mat=m.Kind:=by
 unfold kindAt;rw[d,Int.toNat_natCast,a];rfl
theorem Qkl{c:Course}{k:Clocks}(O:CrsOk c)(he:Ev (λn=>F_c n c) 0)(N:ClkOk k)(x:List Hit)(hx:∀y∈x,HitOk c y)(hl:x.length<=1000):
  Ev (λn=>iter (F_aj n c k x) n ([],0)) (match timesV c k x with|some l=>Ctl.cont l|none=>Ctl.done (U_match_prepare.c0 170)):=by
 have hs:=N.dims.segs;have B:∀(r:List Hit) (a:List Ud) (i:Nat),x.drop i=r->i<=x.length->a.length<=i->EvI (λn=>F_aj n c k x) (a,(i:Int)) (match timesV c k r with|some l=>Ctl.cont (a++l)|none=>Ctl.done (U_match_prepare.c0 170)):=by
  intro r
  induction r with
  |nil=>
   intro a i G M d;refine Ej ?_;unfold F_aj;simp only[QT G M,Vn];refine(Qa _).eq ?_;simp[timesV]
  |cons h r T=>
   intro a i G M Q;obtain⟨d,E⟩:=Qt (by omega) G;have Y:=d.lt';obtain⟨⟨j,m,q,t⟩,W,X,f3⟩:=hx h d.mem;have z:=Qlt q t;have step:∀(p:Int×Segment),p.2.Mat=(j:Int)->isT p.2.Anchor->
     Ev (λn=>(F_ah n c p.2 h.First).bind λL=>(F_ah n c p.2 h.Last).bind λF=>(app a [{segment:=p.1,span:={Lo:=i64.wrap (h.First+L.1.Lo),Hi:=i64.wrap (h.Last+F.1.Hi):Span}:Ud}]).bind λH=>some (Ctl.cont (H,((i+1:Nat):Int)):Ctl (List Ud×Int) (Ctl (List Ud) U_match_prepare)))
      (Ctl.cont (a++[{segment:=p.1,span:=spanV c p.2 h}],((i+1:Nat):Int))):=by
    intro p w u;refine Ea (QkB O he w t u W) (Ea (QkB O he w t u X) (Ea (EA (Qcf (by omega))) ((Qa _).eq ?_)));unfold spanV;rw[z]
   have g:∀(y:Ud),timeV c k h=some y->Ev (λn=>F_aj n c k x (a,(i:Int))) (Ctl.cont (a++[y],((i+1:Nat):Int)))->EvI (λn=>F_aj n c k x) (a,(i:Int)) (match timesV c k (h::r)with|some l=>Ctl.cont (a++l)|none=>Ctl.done (U_match_prepare.c0 170)):=by
    intro y P J;refine Ex J ((T (a++[y]) (i+1) E (by omega) (by simp;omega)).eq ?_);rw[Qde,P];cases timesV c k r with
    |none=>rfl
    |some l=>simp
   cases f:(kindAt c h.Mat==1)with
   |true=>
    refine g {segment:= -1,span:=spanV c {Mat:=h.Mat,Epoch:=h.Epoch,Anchor:=0} h} (by unfold timeV;rw[f];rfl) ?_;unfold F_aj;simp only[d.lt,Vm,d.ix,XI,d.nx];refine Ea (Qeq k h (by omega)) ?_;simp only[q,Qu t,XI];rw[z]at f;refine Ea (v:=Ctl.cont (-1,{Mat:=h.Mat,Epoch:=h.Epoch,Anchor:=0})) (by rw[f,q];exact Qa _) ?_;exact step (-1,{Mat:=h.Mat,Epoch:=h.Epoch,Anchor:=0}) q (by show isT 0;unfold isT;omega)
   |false=>
    by_cases e:segIx k h<0
    .have V:timeV c k h=none:=by unfold timeV;rw[f,Qz e];rfl
     refine Ej ?_;unfold F_aj;rw[Qde,V];simp only[d.lt,Vm,d.ix,XI,d.nx];refine Ea (Qeq k h (by omega)) ?_;simp only[q,Qu t,XI];rw[z]at f;refine Ea (v:=Ctl.done (.done (.done (U_match_prepare.c0 170)))) (by rw[f,Qz e];exact Qa _) ?_;exact Qa _
    .obtain⟨jj,s,w,u,R,g4⟩:=Qgd e;refine g {segment:=segIx k h,span:=spanV c s h} (by unfold timeV;rw[f,QH e,w,Int.toNat_natCast,u];rfl) ?_;unfold F_aj;simp only[d.lt,Vm,d.ix,XI,d.nx];refine Ea (Qeq k h (by omega)) ?_;simp only[q,Qu t,XI];rw[z]at f;refine Ea (v:=Ctl.cont (segIx k h,s)) (by rw[f,QH e,w];simp only[Vn,Qu u,XI];exact Qa _) ?_;exact step (segIx k h,s) (R.trans q) (N.anc s (VC u))
 have:=(B x [] 0 rfl (XT _) (XS _)).ev;simpa using this
theorem Qf8{c:Course}{k:Clocks}:∀{x:List Hit} {l:List Ud},timesV c k x=some l->l.length=x.length/\ ∀(i:Nat) (h:Hit),x[i]?=some h->∃t,l[i]?=some t/\timeV c k h=some t
 |[],l,h=>by
  unfold timesV at h;cases h;exact⟨rfl,λi h q=>by simp at q⟩
 |y::x,l,h=>by
  unfold timesV at h;cases e:timeV c k y with
  |none=>rw[e]at h;cases h
  |some t=>
   rw[e]at h;cases e2:timesV c k x with
   |none=>rw[e2]at h;cases h
   |some l2=>
    rw[e2]at h;cases h;obtain⟨p1,p2⟩:=Qf8 e2;refine⟨by simp[p1],λi h q=>?_⟩;cases i with
    |zero=>simp at q;subst q;exact⟨t,rfl,e⟩
    |succ i=>exact p2 i h (by simpa using q)
theorem QjI{c:Course}{k:Clocks}{h:Hit}{t:Ud}(q:timeV c k h=some t):t.segment= -1\/ ∃(j:Nat) (s:Segment),t.segment=(j:Int)/\k.Segments[j]?=some s/\s.Mat=h.Mat:=by
 unfold timeV at q;cases d:(kindAt c h.Mat==1)with
 |true=>rw[d]at q;cases q;exact .inl rfl
 |false=>
  rw[d]at q;by_cases a:segIx k h<0
  .rw[Qz a]at q;cases q
  .rw[QH a]at q;obtain⟨j,s,g,e,f,_⟩:=Qgd a;rw[g,Int.toNat_natCast,e]at q;cases q;exact .inr ⟨j,s,rfl,e,f⟩
def hndS(a:List (Int×Ud)×Int)(h:Hand):List (Int×Ud)×Int:=
 bif !(YO a.1 h.Position)then(QY a.1 h.Position {segment:= -1,span:={Lo:=h.Lo,Hi:=h.Hi}},if a.2<h.Position then h.Position else a.2)else a
def hndV(l:List Hand):List (Int×Ud)×Int:=l.foldl hndS ([],-1)
theorem Qkp(l:List Hand)(d:l.length<=1048576):Ev (λn=>iter (F_ia n l) n ([],(-1),0)) (hndV l):=by
 refine Jr l hndS ([],-1) (λa i=>(a.1,a.2,(i:Int))) (λa=>a) (by omega) rfl (λi x a ha _=>?_) ?_
 .unfold F_ia hndS;simp only[ha.lt,Vm,ha.ix,XI,ha.nx];cases(!(YO a.1 x.Position))<;>exact Qa _
 .unfold F_ia;simp only[Qa6,Vn];exact Qa _
theorem Qh5:∀(l:List Hand) (a:List (Int×Ud)×Int) (p:Int),YH (l.foldl hndS a).1 p=(match YH a.1 p with|some x=>some x|none=>(l.find? λh=>h.Position==p).map λh=>{segment:= -1,span:={Lo:=h.Lo,Hi:=h.Hi}})
 |[],a,p=>by cases h:YH a.1 p<;>simp[h]
 |x::l,a,p=>by
  rw[XC,Qh5 l (hndS a x) p];unfold hndS;rw[Qaj];cases hx:YH a.1 x.Position with
  |some y=>
   simp only[Option.isSome_some,Xg,Vn];cases hp:YH a.1 p with
   |some z=>rfl
   |none=>
    have hne:(x.Position==p)=false:=by rw[Vu];intro e;rw[e,hp]at hx;cases hx
    rw[List.find?_cons,hne]
  |none=>
   simp only[Option.isSome_none,Xh,Vm,Qc2];by_cases e:p=x.Position
   .subst e;rw[Vq rfl,hx,List.find?_cons,beq_self_eq_true];rfl
   .rw[Vp e];cases hp:YH a.1 p with
    |some z=>rfl
    |none=>
     have hne:(x.Position==p)=false:=by rw[Vu];exact λq=>e q.symm
     rw[List.find?_cons,hne]
theorem Qh4:∀(l:List Hand) (a:List (Int×Ud)×Int) (P:Int),(∀q,YO a.1 q=true->q<=a.2)->((l.foldl hndS a).2<=P↔a.2<=P/\ ∀h∈l,h.Position<=P)
 |[],a,P,_=>by simp
 |x::l,a,P,ha=>by
  rw[XC,Qh4 l (hndS a x) P ?_]
  .unfold hndS;cases e:YO a.1 x.Position with
   |true=>
    have:=ha _ e;simp only[Xg,Vn,X5,forall_eq_or_imp];constructor
    .rintro⟨h1,h2⟩;exact⟨h1,by omega,h2⟩
    .rintro⟨h1,_,h2⟩;exact⟨h1,h2⟩
   |false=>
    simp only[Xh,Vm,X5,forall_eq_or_imp];constructor
    .rintro⟨h1,h2⟩;split at h1<;>exact⟨by omega,by omega,h2⟩
    .rintro⟨h1,h3,h2⟩;refine⟨?_,h2⟩;split<;>omega
  .intro q hq;unfold hndS at hq⊢;cases e:YO a.1 x.Position with
   |true=>
    rw[e]at hq;exact ha q hq
   |false=>
    rw[e]at hq;simp only[Xh,Vm]at hq⊢;rw[Qaj,Qc2]at hq;by_cases z:q=x.Position
    .subst z;split<;>omega
    .rw[Vp z, <- Qaj]at hq;have:=ha q hq;split<;>omega
theorem Qed(l:List Hand)(p:Int):YH (hndV l).1 p=(l.find? λh=>h.Position==p).map λh=>{segment:= -1,span:={Lo:=h.Lo,Hi:=h.Hi}}:=by
 unfold hndV;rw[Qh5];rfl
theorem Qgu(l:List Hand)(P:Int):(hndV l).2<=P↔ -1<=P/\ ∀h∈l,h.Position<=P:=Qh4 l _ P (λq h=>by cases h)
def legV(c:Course)(a b:Int):Leg:=(c.Legs.find? λl=>(l.From==a)&&(l.To==b)).getD {From:=0,To:=0,Min:=0,Max:=0}
def nextS(c:Course)(s:Span)(a b:Int):Span:={Lo:=i64.wrap (s.Lo+(legV c a b).Min),Hi:=i64.wrap (s.Hi+(legV c a b).Max)}
def sumsF(c:Course):Span->Int->List Int->List Span
 |_,_,[]=>[]
 |s,a,b::r=>nextS c s a b::sumsF c (nextS c s a b) b r
def sumsV(c:Course):List Int->List Span
 |[]=>[]
 |a::r=>{Lo:=0,Hi:=0}::sumsF c {Lo:=0,Hi:=0} a r
theorem Qhd(c:Course)(s:Span)(a b:Int)(r:List Int):sumsF c s a (b::r)=nextS c s a b::sumsF c (nextS c s a b) b r:=rfl
theorem QeW(c:Course):∀(r:List Int) (s:Span) (a:Int),(sumsF c s a r).length=r.length
 |[],_,_=>rfl
 |b::r,s,a=>by unfold sumsF;simp[QeW c r]
theorem Qiy(c:Course)(r:List Int):(sumsV c r).length=r.length:=by
 cases r with
 |nil=>rfl
 |cons a r=>unfold sumsV;simp[QeW]
theorem QmO{c:Course}(B:c.Legs.length<=512){k:Clocks}{r:List Int}{s:List Span}{x:List Hit}{t:List Ud}{hi:Int}{m:List (Int×Ud)}{i:Nat}{a b:Int}(q:r[i]?=some a)(h:i<=100000)(hg:hasLeg c a b=true):
  ∃j l,Ev (λn=>F_de n c.Legs ((i+1:Nat):Int) b c k r s x t hi m c k) ((j:Nat):Int)/\c.Legs[j]?=some l/\l=legV c a b:=by
 have z:∀j y,At c.Legs j y->Ev (λn=>F_du n c.Legs ((i+1:Nat):Int) b c k r s x t hi m c k (j:Int)) (bif (y.From==a)&&(y.To==b)then .done (.done (j:Int))else .cont ((j+1:Nat):Int)):=by
  intro j y d;unfold F_du;simp only[d.lt,Vm,d.ix,XI,d.nx];refine Ea (v:=(y.From==a)&&(y.To==b)) ?_ ?_
  .unfold F_el;rw[show i64.wrap (((i+1:Nat):Int)-1)=(i:Int)by rw[Qy (by omega) (by omega)];omega,Qu q,XI];exact Ea (Ei λ_=>Qa _) (Qa _)
  .cases((y.From==a)&&(y.To==b))<;>exact Qa _
 have w:Ev (λn=>F_du n c.Legs ((i+1:Nat):Int) b c k r s x t hi m c k (c.Legs.length:Int)) (.done (.cont ())):=by
  unfold F_du;simp only[Qa6,Vn];exact Qa _
 rcases Qjy c.Legs (λl=>(l.From==a)&&(l.To==b)) (by omega) z w with⟨j,y,e,f,g⟩|⟨e,f⟩
 .refine⟨j,y,?_,e.get,?_⟩
  .unfold F_de;exact Ea g (Qa _)
  .unfold legV;rw[f];rfl
 .unfold hasLeg at hg;obtain⟨y,p,u⟩:=Xt.1 hg;have:=List.find?_eq_none.1 e y p;exact absurd u this
theorem QlE{c:Course}(L:c.Legs.length<=512){k:Clocks}{r:List Int}{x:List Hit}{t:List Ud}{h:List (Int×Ud)×Int}(Q:r.length<=256)(O:Adj c r):
  Ev (λn=>iter (F_bn n c k x (r,0) t h) n ([],{Lo:=0,Hi:=0:Span},0)) (sumsV c r):=by
 have p:∀(q:List Int) (i:Nat) (a:Int) (s:Span) (o:List Span),r[i]?=some a->r.drop (i+1)=q->o.length=i+1->EvI (λn=>F_bn n c k x (r,0) t h) (o,s,((i+1:Nat):Int)) (o++sumsF c s a q):=by
  intro q
  induction q with
  |nil=>
   intro i a s o g u y;have:=(XK.1 g).1;refine Ej ?_;unfold F_bn;simp only[QT u (by omega),Vn];refine(Qa _).eq ?_;simp[sumsF]
  |cons b q M=>
   intro i a s o g u y;obtain⟨f,w⟩:=Qt (by omega) u;have N:=f.lt';obtain⟨j,l,H,P,G⟩:=QmO (c:=c) (k:=k) (s:=o) (x:=x) (t:=t) (hi:=h.2) (m:=h.1) L g (by omega) (O.at g f.get);refine Ex ?_ ((M (i+1) b (nextS c s a b) (o++[nextS c s a b]) f.get w (by simp[y])).eq (by rw[Qhd];simp));unfold F_bn;simp only[f.lt,Vm,f.ix,XI,f.nx];refine Ea (v:=nextS c s a b) ?_ (Ea (EA (Qcf (by omega))) (Qa _));refine QaI (Qz (show(0:Int)<((i+1:Nat):Int)by omega)) (Ea H ?_);simp only[Qu P,XI];unfold nextS;rw[<- G];exact Qa _
 cases d:r with
 |nil=>
  subst d;refine(Ej ?_).ev;unfold F_bn;exact Qa _
 |cons a q=>
  have z:r[0]?=some a:=by rw[d];rfl
  have J:r.drop (0+1)=q:=by rw[d];rfl
  have:=p q 0 a {Lo:=0,Hi:=0} [{Lo:=0,Hi:=0}] z J rfl;have e:At r 0 a:=Y5 (by omega) z;rw[<- d];refine(Ex (s':=([{Lo:=0,Hi:=0}],{Lo:=0,Hi:=0},((0+1:Nat):Int))) ?_ (this.eq ?_)).ev
  .unfold F_bn;have E:=e.lt;have B:=e.ix;have F:=e.nx;simp only[Int.natCast_zero,Int.ofNat_zero]at E B F;simp only[E,Vm,B,XI,F];refine Ea (v:={Lo:=0,Hi:=0}) (QaQ (QH (show¬(0:Int)<0 by omega)) (Qa _)) (Ea (EA (Qcf (by simp))) (Qa _))
  .rw[d];rfl
def handW(h:Hand):Bool:=decide (h.Hi<h.Lo)||(!timeB h.Lo||(!timeB h.Hi||decide (h.Position<0)))
theorem QgP(x:Int):Ev (λn=>F_bb n x) (timeB x):=by
 unfold F_bb timeB inR;exact Ea (Ei λ_=>Qa _) (Qa _)
theorem Qkq(h:Hand):Ev (λn=>F_bg n h) (handW h):=by
 unfold F_bg handW;refine Ea (Qk λ_=>Ea (QgP _) (Qk λ_=>Ea (QgP _) (Qk λ_=>Qa _))) (Qa _)
def argW(c:Course)(s:Starter)(l:List Hand):Bool:=decide (s.Distance<0)||(decide ((c.Distances.length:Int)<=s.Distance)||(decide (s.Wave<0)||(decide ((c.Waves.length:Int)<=s.Wave)||l.any handW)))
def prepV(c:Course)(k:Clocks)(s:Starter)(e:Int)(x:List Hit)(l:List Hand):U_match_prepare:=
 bif !clkB k then .c0 160 else bif argW c s l then .c0 1 else bif (routeO c s.Distance e).2 != 0 then .c0 (routeO c s.Distance e).2 else bif !checkH c x then .c0 170 else
  match timesV c k x with
  |none=>.c0 170
  |some t=>.c1 ((routeO c s.Distance e).1,sumsV c (routeO c s.Distance e).1,t,(hndV l).1,(hndV l).2)
theorem Qht{c:Course}(g:Good c)(p:courseE c=0)(he:Ev (λn=>F_c n c) 0){k:Clocks}(m:ClkW k)(s:Starter)(e:Int)(x:List Hit)(w:x.length<=1000)(l:List Hand)(J:l.length<=1048576):
  Ev (λn=>F_z n c k s e x l) (prepV c k s e x l):=by
 unfold F_z prepV;refine Ea he (Qq (Ea (Qkx k m) ?_));cases q:clkB k with
 |false=>exact Qa _
 |true=>
 refine Qq (Ea (v:=argW c s l) ?_ ?_)
 .unfold argW;refine Qk λ_=>Qk λ_=>Qk λ_=>Qk λ_=>Ea ?_ (Qa _);exact Ev.contains l handW (λn y=>F_bg n y) (by omega) λy _=>Qkq y
 cases argW c s l with
 |true=>exact Qa _
 |false=>
 refine Qq (Ea (Qkz g he s.Distance e) ?_);cases z:((routeO c s.Distance e).2 != 0)with
 |true=>exact Qa _
 |false=>
 have a:(routeO c s.Distance e).2=0:=by simpa[bne]using z
 refine Qq (Ea (QiW c x (by omega) he) ?_);cases r:checkH c x with
 |false=>exact Qa _
 |true=>
 refine Qq (Ea (Qkl (QgV p) he (Qg9 m q) x (Qh6 r) w) ?_);cases timesV c k x with
 |none=>exact Qa _
 |some t=>
 obtain⟨j,d,E,H,L,G,F,M,i⟩:=Qe2 g a;have u:=VC G;have h:(routeO c s.Distance e).1.length<=256:=by
  rw[i];unfold routeV;simp only[X2,Xx,List.length_drop,List.length_replicate];omega
 have f:Adj c (routeO c s.Distance e).1:=by rw[i];exact QiC g p u E F
 refine Ea (Qkp l (by omega)) ?_;have B:routeO c s.Distance e=((routeO c s.Distance e).1,0):=Prod.ext rfl a;rw[B];exact Ea (QlE g.legs h f) (Qa _)
set_option maxRecDepth 10000
structure Task where
 c:Course
 k:Clocks
 r:List Int
 s:List Span
 H:List Hit
 T:List Ud
 m:List (Int×Ud)
 hi:Int
abbrev zX:Ud:={segment:=0,span:={Lo:=0,Hi:=0}}
def Task.seg(t:Task)(x:Ud):Prop:=∃j:Nat,x.segment+1=(j:Int)/\j<t.k.Segments.length+1
structure TaskOk (t:Task):Prop where
 ty:Ev (λn=>F_c n t.c) 0
 crs:CrsOk t.c
 clk:ClkOk t.k
 sl:t.s.length=t.r.length
 rl:t.r.length<=256
 tl:t.T.length=t.H.length
 hl:t.H.length<=1000
 hit:∀(i:Nat) (h:Hit),t.H[i]?=some h->HitOk t.c h
 sg:∀x∈t.T,t.seg x
 hs:∀p x,YH t.m p=some x->t.seg x
 mi:0<=t.c.Faults.Misses
def knownV(t:Task)(p h:Int):Ud×Bool:=bif YO t.m p||decide (h<0)then(QA t.m p zX,YO t.m p)else((t.T[h.toNat]?).getD zX,true)
def hitI(t:Task)(h:Int):Prop:=h<0\/h.toNat<t.H.length
theorem QbI{α:Type}{l:List α}{h:Int}(d:0<=h)(a:h.toNat<l.length):∃x,l[h.toNat]?=some x/\idx l h=some x:=by
 refine⟨l[h.toNat]'(a),XJ a,?_⟩;have:=Qu (l:=l) (i:=h.toNat) (XJ a)
 rwa [Int.toNat_of_nonneg d]at this
theorem Qko{t:Task}(ok:TaskOk t)(p h:Int)(e:hitI t h):Ev (λn=>F_ad n p h t.c t.k t.r t.s t.H t.T t.hi t.m t.c t.k) (knownV t p h):=by
 unfold F_ad knownV;refine Ea (Qa _) (Ea (Qk λ_=>Qa _) ?_);refine QaJ (λ_=>Qa _) λq=>?_;rw[XW,decide_eq_false_iff_not]at q;obtain⟨x,d,a⟩:=QbI (l:=t.T) (h:=h) (by omega) (by have:=ok.tl;rcases e with z|z<;>omega);rw[a,d];exact Qa _
theorem Qfa{t:Task}(ok:TaskOk t){p h:Int}(f:hitI t h)(q:(knownV t p h).2=true):t.seg (knownV t p h).1:=by
 unfold knownV at q⊢;cases e:(YO t.m p||decide (h<0))with
 |true=>
  rw[e]at q;simp only[Vm]at q⊢;rw[Qaj]at q;obtain⟨x,d⟩:=Option.isSome_iff_exists.1 q;unfold QA;rw[d];exact ok.hs p x d
 |false=>
  simp only[Vn];rw[XW,decide_eq_false_iff_not]at e;obtain⟨x,a,g⟩:=QbI (l:=t.T) (h:=h) (by omega) (by have:=ok.tl;rcases f with z|z<;>omega);rw[a];exact ok.sg x (VC a)
def meetV(d w:Span):Bool:=decide ((if d.Lo<w.Lo then w.Lo else d.Lo)<=(if w.Hi<d.Hi then w.Hi else d.Hi))
def trueV(c:Course)(k:Clocks)(g:Int)(a b:Int):Span:=
 bif decide (g<0)then {Lo:=a,Hi:=i64.wrap (b+c.Faults.Residual)}else match k.Segments[g.toNat]? with
 |none=>{Lo:=0,Hi:=0}
 |some s=>bif !matB c s.Mat then {Lo:=0,Hi:=0}else
  {Lo:=i64.wrap (i64.wrap (a+(devV c (kindAt c s.Mat) s a).Lo)-farG k (g.toNat+1) 0),Hi:=i64.wrap (i64.wrap (b+(devV c (kindAt c s.Mat) s b).Hi)+farG k 0 (g.toNat+1))}
theorem QlD{t:Task}(ok:TaskOk t){x:Ud}(V:t.seg x){a b:Int}(L:isT a)(H:isT b)(P:a<=b):∃e,Ev (λn=>F_au n t.c t.k x.segment {Lo:=a,Hi:=b}) (trueV t.c t.k x.segment a b,e):=by
 obtain⟨j,j1,X⟩:=V;have Y:=ok.clk.dims.segs;have start:∀{v:Span×Int},Ev (λn=>(bif decide (x.segment<0)then some ({Lo:=a,Hi:=i64.wrap (b+t.c.Faults.Residual):Span},0)else(idx t.k.Segments x.segment).bind λf=>(F_ao n t.c f.Mat).bind λp=>(bif (!p)then some ({Lo:=0,Hi:=0:Span},1)else(F_y n t.c f a).bind λu=>(idx t.k.Far (i64.wrap (x.segment+1))).bind λz=>(idx z 0).bind λg=>(F_y n t.c f b).bind λq=>(idx t.k.Far 0).bind λr=>(idx r (i64.wrap (x.segment+1))).bind λF=>some ({Lo:=i64.wrap ((i64.wrap (a+u.Lo))-g),Hi:=i64.wrap ((i64.wrap (b+q.Hi))+F):Span},0)):Option (Span×Int))) v->Ev (λn=>F_au n t.c t.k x.segment {Lo:=a,Hi:=b}) v:=by
  intro v R;unfold F_au;refine Ea ok.ty (Qq (Ea ok.clk.ev (Qq (Ea (v:=false) ?_ (Qq R)))));simp only[QH (show¬x.segment< -1 by omega),QH (show¬(t.k.Segments.length:Int)<=x.segment by omega),Vn];refine Ea (Qa5 a) ?_;rw[timeI.2 L];refine Qq (Ea (Qa5 b) ?_);rw[timeI.2 H];refine Qq ?_;rw[QH (by show¬b<a;omega)];exact Qa _
 unfold trueV;by_cases d:x.segment<0
 .rw[Qz d];exact⟨_,start (QaI (Qz d) (Qa _))⟩
 rw[QH d];simp only[Vn];obtain⟨s,G,J⟩:=QbI (l:=t.k.Segments) (h:=x.segment) (by omega) (by omega);rw[G];simp only;cases B:matB t.c s.Mat with
 |false=>exact⟨_,start (QaQ (QH d) (Qx J (Ea ((Qew t.c s.Mat).eq B) (QaI rfl (Qa _)))))⟩
 |true=>
  obtain⟨i,m,E,y⟩:=QmF B;have W:kindAt t.c s.Mat=m.Kind:=by unfold kindAt;rw[E,Int.toNat_natCast,y];rfl
  have M:=ok.clk.anc s (VC G);obtain⟨O,T⟩:=ok.clk.dims.get (i:=x.segment.toNat+1) (j:=0) (by omega) (by omega);obtain⟨N,Q⟩:=ok.clk.dims.get (i:=0) (j:=x.segment.toNat+1) (by omega) (by omega);have w:i64.wrap (x.segment+1)=((x.segment.toNat+1:Nat):Int):=by rw[Qy (by omega) (by omega)];omega
  refine⟨0,start (QaQ (QH d) (Qx J (Ea ((Qew t.c s.Mat).eq B) (QaQ rfl (Ea (Qhy ok.crs y E M L) (Qx (v:=t.k.Far[x.segment.toNat+1]?.getD []) (by rw[w];exact Qu O) (Qx (v:=farG t.k (x.segment.toNat+1) 0) (Qu (i:=0) T) (Ea (Qhy ok.crs y E M H) (Qx (v:=t.k.Far[0]?.getD []) (Qu (i:=0) N) (Qx (v:=farG t.k 0 (x.segment.toNat+1)) (by rw[w];exact Qu Q) ?_))))))))))⟩;rw[W];exact Qa _
def agreeV(t:Task)(h p:Int):Bool:=bif !(YO t.m p)then true else match t.H[h.toNat]?,t.T[h.toNat]? with
 |some y,some x=>meetV (trueV t.c t.k x.segment y.First y.Last) (QA t.m p zX).span
 |_,_=>true
theorem Qky{t:Task}(ok:TaskOk t){h p:Int}(f:0<=h)(d:h.toNat<t.H.length):Ev (λn=>F_cs n h p t.c t.k t.c t.k t.r t.s t.H t.T t.hi t.m) (agreeV t h p):=by
 unfold F_cs agreeV;refine Ea (Qa _) ?_;cases YO t.m p with
 |false=>exact Qa _
 |true=>
  obtain⟨y,y1,y2⟩:=QbI (l:=t.H) f d;obtain⟨x,g,i⟩:=QbI (l:=t.T) f (by rw[ok.tl];exact d);have a:=ok.hit _ _ y1;rw[y2,i,y1,g];refine Qq ?_;simp only[XI];obtain⟨e,j⟩:=QlD ok (ok.sg x (VC g)) a.fi a.la a.le;refine Ea j ?_;unfold F_as;exact Qa _
def needV(t:Task)(i j:Int):Span:=
 let a:=(t.s[i.toNat]?).getD {Lo:=0,Hi:=0}
 let b:=(t.s[j.toNat]?).getD {Lo:=0,Hi:=0}
 {Lo:=if i64.wrap (b.Lo-a.Lo)<2199023255552 then i64.wrap (b.Lo-a.Lo)else 2199023255552,Hi:=if i64.wrap (b.Hi-a.Hi)<2199023255552 then i64.wrap (b.Hi-a.Hi)else 2199023255552}
theorem QlK{t:Task}(ok:TaskOk t){i j:Int}(e:0<=i)(d:i.toNat<t.r.length)(u:0<=j)(h:j.toNat<t.r.length):Ev (λn=>F_ac n i j t.c t.k t.r t.s t.H t.T t.hi t.m t.c t.k) (needV t i j):=by
 obtain⟨a,f,g⟩:=QbI (l:=t.s) e (by rw[ok.sl];exact d);obtain⟨b,p,q⟩:=QbI (l:=t.s) u (by rw[ok.sl];exact h);unfold F_ac needV;rw[g,q,f,p];exact Qa _
def distV(t:Task)(a b:Ud):Span:=
 bif (i64.wrap (a.segment+1)) != (i64.wrap (b.segment+1))then
  {Lo:=i64.wrap (i64.wrap (b.span.Lo-a.span.Hi)-farG t.k (b.segment+1).toNat (a.segment+1).toNat),Hi:=i64.wrap (i64.wrap (b.span.Hi-a.span.Lo)+farG t.k (a.segment+1).toNat (b.segment+1).toNat)}
 else {Lo:=i64.wrap (b.span.Lo-a.span.Hi),Hi:=i64.wrap (b.span.Hi-a.span.Lo)}
def followsV(t:Task)(a:Ud)(i:Int)(b:Ud)(j:Int):Bool:=meetV (distV t a b) (needV t i j)
theorem Qhx{t:Task}(ok:TaskOk t){a b:Ud}{i j:Int}(z:t.seg a)(l:t.seg b)(g:0<=i)(e:i.toNat<t.r.length)(h:0<=j)(w:j.toNat<t.r.length):
  Ev (λn=>F_an n a i b j t.c t.k t.r t.s t.H t.T t.hi t.m t.c t.k) (followsV t a i b j):=by
 obtain⟨x,B,d⟩:=z;obtain⟨y,y1,y2⟩:=l;have E:=ok.clk.dims.segs;unfold F_an followsV;refine Ea (v:=distV t a b) ?_ (Ea (QlK ok g e h w) ?_)
 .unfold distV;rw[B,y1,Qy (n:=(x:Int)) (by omega) (by omega),Qy (n:=(y:Int)) (by omega) (by omega)];refine QaJ (λ_=>?_) λ_=>Qa _;obtain⟨q,u⟩:=ok.clk.dims.get (i:=y) (j:=x) y2 d;obtain⟨p,f⟩:=ok.clk.dims.get (i:=x) (j:=y) d y2;rw[Qu q,XI,Qu u,XI,Qu p,XI,Qu f,XI,Int.toNat_natCast,Int.toNat_natCast];exact Qa _
 .unfold F_as;exact Qa _
structure StOk (t:Task) (s:Uf):Prop where
 la:s.last<(t.r.length:Int)
 wh:0<=s.last->t.seg s.when
 r0:0<=s.row
 r1:s.row<=1000
def stopV(t:Task)(s:Uf)(p h:Int):Bool:=(decide (0<=h)&& !agreeV t h p)||(decide (0<=s.last)&& !followsV t s.when s.last (knownV t p h).1 p)
def stepV(t:Task)(s:Uf)(p h:Int):Uf×Bool:=
 bif !(knownV t p h).2 then({s with row:=s.row+1},decide (s.row+1<=t.c.Faults.Misses))else bif stopV t s p h then(s,false)else({last:=p,when:=(knownV t p h).1,row:=0},true)
theorem QlF{t:Task}(ok:TaskOk t){s:Uf}(e:StOk t s){p h:Int}(j:0<=p)(u:p.toNat<t.r.length)(f:hitI t h):
  Ev (λn=>F_ai n s p h t.c t.k t.r t.s t.H t.T t.hi t.m t.c t.k) (stepV t s p h):=by
 have r0:=e.r0;have r1:=e.r1;unfold F_ai stepV;refine Ea (Qko ok p h f) ?_;rw[Qy (n:=s.row+1) (by omega) (by omega)];cases l:(knownV t p h).2 with
 |false=>exact Qa _
 |true=>
  have w:=Qfa ok f l;refine Qq (Ea (v:=stopV t s p h) ?_ ?_)
  .have d:Ev (λn=>(bif decide (0<=s.last)then(F_an n s.when s.last (knownV t p h).1 p t.c t.k t.r t.s t.H t.T t.hi t.m t.c t.k).bind λg=>some (!g)else some false:Option Bool)) (decide (0<=s.last)&& !followsV t s.when s.last (knownV t p h).1 p):=by
    refine Ei λq=>?_;have q:=of_decide_eq_true q;exact Ea (Qhx ok (e.wh q) w q (by have:=e.la;omega) j u) (Qa _)
   unfold stopV;by_cases a:0<=h
   .rw[Qz a,Vv];have i:h.toNat<t.H.length:=by rcases f with z|z<;>omega
    refine Ea (Qky ok a i) ?_;exact Qk λ_=>d
   .rw[QH a,Bool.false_and,Bool.false_or];exact d
  .cases stopV t s p h<;>exact Qa _
theorem Qlj{t:Task}(ok:TaskOk t){s:Uf}(a:StOk t s){p h:Int}(f:p<(t.r.length:Int))(d:hitI t h)(g:s.row<1000):StOk t (stepV t s p h).1:=by
 have r0:=a.r0;unfold stepV;cases e:(knownV t p h).2 with
 |false=>exact⟨a.la,a.wh,by show 0<=s.row+1;omega,by show s.row+1<=1000;omega⟩
 |true=>
  simp only[Xg,Vn];cases stopV t s p h with
  |true=>exact a
  |false=>exact⟨f,λ_=>Qfa ok d e,by show(0:Int)<=0;omega,by show(0:Int)<=1000;omega⟩
def badV(t:Task)(W:Way)(u:List (Int×Bool))(i:Nat)(h:Int):Bool:=
 decide (h<0)||(decide ((t.H.length:Int)<=h)||((((t.H[h.toNat]?).map (·.Mat)).getD 0 != (t.r[i]?).getD 0)||(QA u h false||decide (W.Last<(i:Int)))))
def admL(t:Task)(W:Way):List Int->Nat->List (Int×Bool)->Uf->Bool
 |[],_,_,_=>true
 |h::r,i,u,s=>
  bif (h != -1)&&badV t W u i h then false else
  bif decide (W.Last<(i:Int))then admL t W r (i+1) (bif h != -1 then QY u h true else u) s else
  bif !(stepV t s (i:Int) h).2 then false else admL t W r (i+1) (bif h != -1 then QY u h true else u) (stepV t s (i:Int) h).1
theorem Qc8(t:Task)(W:Way)(h:Int)(r:List Int)(i:Nat)(u:List (Int×Bool))(s:Uf):admL t W (h::r) i u s=
  bif (h != -1)&&badV t W u i h then false else
  bif decide (W.Last<(i:Int))then admL t W r (i+1) (bif h != -1 then QY u h true else u) s else
  bif !(stepV t s (i:Int) h).2 then false else admL t W r (i+1) (bif h != -1 then QY u h true else u) (stepV t s (i:Int) h).1:=rfl
def inV(l:List Int)(x:Int):Bool:=decide (0<=firstI (λy=>x==y) l 0)
def strL(W:Way):List Hit->Nat->Int->Int
 |[],_,a=>a
 |_::r,i,a=>strL W r (i+1) (bif !inV W.Hits (i:Int)then i64.wrap (a+1)else a)
theorem QiS(W:Way)(H:List Hit)(p:W.Hits.length<=1048576)(q:H.length<=1048576):Ev (λn=>F_ax n H W) (strL W H 0 0):=by
 have d:∀(r:List Hit) (i:Nat) (a:Int),H.drop i=r->i<=H.length->EvI (λn=>F_ig n H W) (a,(i:Int)) (strL W r i a):=by
  intro r
  induction r with
  |nil=>
   intro i a h k;refine Ej ?_;unfold F_ig;simp only[QT h k,Vn];exact Qa _
  |cons y r m=>
   intro i a h k;obtain⟨e,f⟩:=Qt (by omega) h;have l:=e.lt';refine Ex ?_ (m (i+1) _ f (by omega));unfold F_ig;simp only[e.lt,Vm,e.nx];refine Ea (v:=inV W.Hits (i:Int)) ?_ ?_
   .unfold F_dn inV;refine Ea (v:=firstI (λy=>(i:Int)==y) W.Hits 0) ?_ (Qa _);unfold F_fr;refine Ev.first W.Hits _ (by omega) (λj x g=>?_) ?_
    .unfold F_iu;simp only[g.lt,Vm,g.ix,XI,g.nx];cases((i:Int)==x)<;>exact Qa _
    .unfold F_iu;simp only[Qa6,Vn];exact Qa _
   .cases inV W.Hits (i:Int)<;>exact Qa _
 unfold F_ax;exact Ea (d H 0 0 rfl (XT _)).ev (Qa _)
def admB(t:Task)(W:Way):Bool:=((W.Hits.length:Int) != (t.r.length:Int))||(decide (W.Last< -1)||(decide ((t.r.length:Int)<=W.Last)||(decide (W.Last<t.hi)||decide (t.c.Faults.Strays<strL W t.H 0 0))))
def s0V:Uf:={z_match_state with last:=(-1)}
def admV(t:Task)(W:Way):Bool:=bif admB t W then false else admL t W W.Hits 0 [] s0V
theorem s0_ok{t:Task}:StOk t s0V:=⟨by show(-1:Int)<_;omega,λh=>by have:(0:Int)<= -1:=h;omega,by show(0:Int)<=0;omega,by show(0:Int)<=1000;omega⟩
theorem Qho{t:Task}{W:Way}{u:List (Int×Bool)}{i:Nat}{h:Int}(q:((h != -1)&&badV t W u i h)=false):hitI t h/\(h= -1\/(0<=h/\badV t W u i h=false)):=by
 rw[Bool.and_eq_false_iff]at q;rcases q with q|q
 .have:h= -1:=by simpa[bne]using q
  exact⟨.inl (by omega),.inl this⟩
 .have a:=q;unfold badV at a;simp only[XW,decide_eq_false_iff_not]at a;exact⟨.inr (by omega),.inr ⟨by omega,q⟩⟩
theorem QmQ{t:Task}(ok:TaskOk t)(W:Way)(X:W.Hits.length<=1048576):Ev (λn=>F_ak n W t.c t.k t.r t.s t.H t.T t.hi t.m t.c t.k) (admV t W):=by
 unfold F_ak admV;refine Ea (v:=admB t W) ?_ ?_
 .unfold admB;exact Qk λ_=>Qk λ_=>Qk λ_=>Qk λ_=>Ea (QiS W t.H X (by have:=ok.hl;omega)) (Qa _)
 cases L:admB t W with
 |true=>exact Qa _
 |false=>
 unfold admB at L;simp only[XW,decide_eq_false_iff_not]at L;obtain⟨f,b1,b2,b3,_⟩:=L;have f:W.Hits.length=t.r.length:=by have:=f;simp[bne]at this;omega
 have rl:=ok.rl;have J:∀(r:List Int) (i:Nat) (u:List (Int×Bool)) (s:Uf),W.Hits.drop i=r->i<=W.Hits.length->StOk t s->s.row<=(i:Int)->EvI (λn=>F_bk n W t.c t.k t.r t.s t.H t.T t.hi t.m t.c t.k) (u,s,(i:Int)) (bif admL t W r i u s then Ctl.cont ()else Ctl.done false):=by
  intro r
  induction r with
  |nil=>
   intro i u s M hi G _;refine Ej ?_;unfold F_bk admL;simp only[QT M hi,Vn];exact Qa _
  |cons h r O=>
   intro i u s M hi G N;obtain⟨d,z⟩:=Qt (by omega) M;have Y:=d.lt';rw[Qc8];have g:t.r[i]?=some (t.r[i]'(by omega)):=XJ (by omega);have a:Ev (λn=>((bif (h != (-1))then((bif decide (h<0)then some true else(bif decide ((t.H.length:Int)<=h)then some true else(idx t.H h).bind λB=>(idx t.r (i:Int)).bind λF=>(bif (B.Mat != F)then some true else(some (QA u h false)).bind λE=>(bif E then some true else some (decide (W.Last<(i:Int))))))):Option Bool).bind λq=>(bif q then some (.done (.done (.done (.done false))))else(some (QY u h true)).bind λw=>some (.cont w))else some (.cont u)):Option (Ctl (List (Int×Bool)) (Ctl ((List (Int×Bool))×Uf) (Ctl ((List (Int×Bool))×Uf×Int) (Ctl Unit Bool))))))
     (bif (h != -1)&&badV t W u i h then .done (.done (.done (.done false)))else .cont (bif h != -1 then QY u h true else u)):=by
    cases hn:(h != -1)with
    |false=>exact Qa _
    |true=>
     refine Qdx (Ea (v:=badV t W u i h) ?_ ?_)
     .unfold badV;refine Qk λR=>Qk λQ=>?_;have R:=Vs R;have Q:=Vs Q;obtain⟨y,y1,y2⟩:=QbI (l:=t.H) (h:=h) (by omega) (by omega);rw[y2,y1,XI,Qu g,XI,g];exact Qk λ_=>Ea (Qa _) (Qk λ_=>Qa _)
     .cases badV t W u i h<;>exact Qa _
   cases e:((h != -1)&&badV t W u i h)with
   |true=>
    rw[e]at a;refine Ej ?_;unfold F_bk;simp only[d.lt,Vm,d.ix,XI,d.nx];exact Ea (Ea a (Qa _)) (Qa _)
   |false=>
    rw[e]at a;obtain⟨P,_⟩:=Qho e;simp only[Vn]at a⊢;by_cases j:W.Last<(i:Int)
    .rw[Qz j,Vm];refine Ex ?_ (O (i+1) _ s z (by omega) G (by omega));unfold F_bk;simp only[d.lt,Vm,d.ix,XI,d.nx];exact Ea (v:=Ctl.cont (_,_)) (Ea a (QaI (Qz j) (Qa _))) (Qa _)
    .rw[QH j,Vn];have V:=QlF ok G (p:=(i:Int)) (h:=h) (by omega) (by omega) P;cases x:(stepV t s (i:Int) h).2 with
     |false=>
      refine Ej ?_;unfold F_bk;simp only[d.lt,Vm,d.ix,XI,d.nx];refine Ea (v:=Ctl.done (.done (.done false))) (Ea a (QaQ (QH j) (Ea V (v:=(stepV t s (i:Int) h)) ?_))) (Qa _);rw[x];exact Qa _
     |true=>
      simp only[Xg,Vn];refine Ex ?_ (O (i+1) _ _ z (by omega) (Qlj ok G (by omega) P (by omega)) ?_)
      .unfold F_bk;simp only[d.lt,Vm,d.ix,XI,d.nx];refine Ea (v:=Ctl.cont (_,(stepV t s (i:Int) h).1)) (Ea a (QaQ (QH j) (Ea V (v:=(stepV t s (i:Int) h)) ?_))) (Qa _);rw[x];exact Qa _
      .have r0:=G.r0;unfold stepV;cases(knownV t (i:Int) h).2 with
       |false=>show s.row+1<=_;omega
       |true=>
        simp only[Xg,Vn];cases stopV t s (i:Int) h with
        |true=>show s.row<=_;omega
        |false=>show(0:Int)<=_;omega
 refine Qq ?_;unfold F_bp;simp only[XI];refine Ea (J W.Hits 0 [] s0V rfl (XT _) s0_ok (by show(0:Int)<=_;omega)).ev ?_;cases admL t W W.Hits 0 [] s0V<;>exact Qa _
set_option maxRecDepth 10000
theorem QlI(T:Int):∀(m:Nat) (l:List Part),szPs l<=m->partsS T l=true->l.length<=1048576->(∀x∈l,Part.wf x)->(flPs l).length<=256->Ev (λn=>F_v n l) (flPs l):=by
 intro m
 induction m using Nat.strongRecOn with
 |_ m M=>
 intro l hm H L hw P;rw[YY,Xs]at H;refine Yx ?_;show Ev (λn=>B_v (F_v n) n l) _;unfold B_v;have inner:∀(p:Part) (i:Nat) (e:At l i p) (G w:List Int),0<=p.Laps->p.Laps<=64->w.length<=256->∀(k j:Nat) (o:List Int),j+k=p.Laps.toNat->o.length+(List.replicate k w).flatten.length<=256->
   EvI (λn=>F_dl n l (G,(i:Int)) w) (o,(j:Int)) (o++(List.replicate k w).flatten):=by
  intro p i e G w F O X k
  induction k with
  |zero=>
   intro j o W _;refine Ej ?_;unfold F_dl;simp only[e.ix,XI,QH (show¬((j:Int)<p.Laps)by omega),Vn,List.replicate_zero,List.flatten_nil,Ve];exact Qa _
  |succ k h=>
   intro j o W f;by_cases s:w.length=0
   .have s:w=[]:=VE.1 s;subst s;refine Ej ?_;unfold F_dl;simp only[e.ix,XI,Qz (show(j:Int)<p.Laps by omega),Vm,QH (show¬((0:Int)<(([]:List Int).length:Int))by simp),Vn];exact(Qa _).eq (by simp)
   .rw[Xl,Vj]at f⊢;simp only[X2]at f;refine(Ex ?_ (h (j+1) (o++w) (by omega) (by rw[X2];omega))).eq (by rw[Vg]);unfold F_dl;simp only[e.ix,XI,Qz (show(j:Int)<p.Laps by omega),Vm,Qz (show(0:Int)<(w.length:Int)by omega),Qz (show(o.length:Int)<=300 by omega)];refine Qx (Y6 o w (by omega)) ?_;rw[Yd (by omega)];exact Qa _
 have loop:∀(r:List Part) (i:Nat) (o:List Int),l.drop i=r->i<=l.length->o.length+(flPs r).length<=256->EvI (λn=>F_hk n l (F_v n)) (o,(i:Int)) (o++flPs r):=by
  intro r
  induction r with
  |nil=>
   intro i o z E _;refine Ej ?_;unfold F_hk;simp only[QT z E,Vn,flPs,Ve];exact Qa _
  |cons p r u=>
   intro i o z E f;obtain⟨e,t⟩:=Qt (by omega) z;have Y:=e.lt';rw[Qa2,X2]at f;have N:=YQ e.mem;rw[YB]at N;obtain⟨V,Q⟩:=Ya (hw p e.mem);have R:=H p e.mem;refine(Ex ?_ (u (i+1) (o++flP p) t (by omega) (by rw[X2];omega))).eq (by rw[Qa2,Vg]);unfold F_hk;simp only[e.lt,Vm,e.ix,XI,e.nx];rcases QfH R with F|⟨a,b,d⟩
   .have g:(p.Laps==0)=true:=by simp[F]
    have q:flP p=[p.Mat]:=by rw[Qc7,g];rfl
    rw[q]at f⊢;refine Ea (v:=o++[p.Mat]) ?_ (Qa _);rw[g];exact Qdx (Ea (EA (Qcf (by omega))) (Qa _))
   .have g:(p.Laps==0)=false:=beq_false_of_ne (by omega);have q:flP p=(List.replicate p.Laps.toNat (flPs p.Parts)).flatten:=by rw[Qc7,g];rfl
    rw[q]at f⊢;have B:(flPs p.Parts).length<=256:=by
     obtain⟨J,y⟩:∃J,p.Laps.toNat=J+1:=⟨p.Laps.toNat-1,by omega⟩;rw[y,Xl,Vj,X2]at f;omega
    refine Ea (v:=o++(List.replicate p.Laps.toNat (flPs p.Parts)).flatten) ?_ (Qa _);rw[g];exact Qq (Ea (M (szPs p.Parts) (by omega) p.Parts (XS _) d V Q B) (Ea ((inner p i e o (flPs p.Parts) (by omega) b B p.Laps.toNat 0 o (by omega) (by omega)).ev) (Qa _)))
 exact Ea ((loop l 0 [] (by simp) (XT _) (by simpa using P)).ev.eq (Vf _)) (Qa _)
theorem Qe9(l:List Int)(x:Int){j:Nat}(f:0<j)(d:l[j]?=some x):∀m,j<=m->(∀p,j<p->p<=m->l[p]? ≠some x)->lastB l x m=j
 |0,h,_=>by omega
 |m+1,h,h2=>by
  unfold lastB;rcases Nat.eq_or_lt_of_le h with e|q
  .rw[<- e,d];simp
  .have:=h2 (m+1) q (XS _);have e:(l[m+1]? ==some x)=false:=by rw[Vu];exact this
   rw[e,Vn];exact Qe9 l x f d m (by omega) λp a b=>h2 p a (by omega)
theorem QlM(l:List Int)(x:Int)(N:l.length<=1048576):∃b:Int,Ev (λn=>F_ct n l x) b/\((b= -1/\ ∀p:Nat,l[p]? ≠some x)\/ ∃q:Nat,q<l.length/\b=(q:Int)/\l[q]?=some x/\ ∀p:Nat,q<p->l[p]? ≠some x):=by
 have t:∀(r:List Int) (i:Nat) (b:Int),l.drop i=r->i<=l.length->((b= -1/\ ∀p:Nat,p<i->l[p]? ≠some x)\/ ∃q:Nat,q<i/\b=(q:Int)/\l[q]?=some x/\ ∀p:Nat,q<p->p<i->l[p]? ≠some x)->
   ∃j:Int,EvI (λn=>F_ho n l x) (b,(i:Int)) j/\((j= -1/\ ∀p:Nat,l[p]? ≠some x)\/ ∃q:Nat,q<l.length/\j=(q:Int)/\l[q]?=some x/\ ∀p:Nat,q<p->l[p]? ≠some x):=by
  intro r
  induction r with
  |nil=>
   intro i b m H B;have L:l.length<=i:=Xq.1 m;have k:∀p:Nat,i<=p->l[p]? ≠some x:=λp E=>by rw[XN (by omega)];exact nofun
   refine⟨b,Ej ?_,?_⟩
   .unfold F_ho;simp only[QT m H,Vn];exact Qa _
   .rcases B with⟨g,d⟩|⟨q,g,d,s,G⟩
    .exact .inl ⟨g,λp=>(Vx p i).elim (d p) (k p)⟩
    .exact .inr ⟨q,by omega,d,s,λp a=>(Vx p i).elim (G p a) (k p)⟩
  |cons y r J=>
   intro i b m H B;obtain⟨f,F⟩:=Qt (by omega) m;have M:=f.lt';obtain⟨j,w,u⟩:=J (i+1) (bif y==x then(i:Int)else b) F (by omega) (by
    cases e:(y==x)with
    |true=>
     rw[Vt]at e;subst e;exact .inr ⟨i,by omega,rfl,f.get,λp a c=>by omega⟩
    |false=>
     rw[Vu]at e;have h:l[i]? ≠some x:=by rw[f.get];intro q;cases q;exact e rfl
     rcases B with⟨g,d⟩|⟨q,g,d,s,G⟩
     .exact .inl ⟨g,λp E=>(Vx p i).elim (d p) λz=>(show i=p by omega)▸h⟩
     .exact .inr ⟨q,by omega,d,s,λp a E=>(Vx p i).elim (G p a) λz=>(show i=p by omega)▸h⟩)
   refine⟨j,Ex ?_ w,u⟩;unfold F_ho;simp only[f.lt,Vm,f.ix,XI,f.nx];cases(y==x)<;>exact Qa _
 obtain⟨b,w,u⟩:=t l 0 (-1) rfl (XT _) (.inl ⟨rfl,λp E=>by omega⟩);refine⟨b,?_,u⟩;unfold F_ct;exact Ea w.ev (Qa _)
theorem Qki{c:Course}(g:Good c)(w:courseE c=0){d:Distance}(t:d∈c.Distances)(hE:0<=d.Extra):∃i,0<i/\(flPs d.Route)[i]?=some d.Extra:=by
 have h:=(Jo w).2.2 d t;unfold routeS routeR at h;rw[g.exp t]at h;simp only[XV,Vo]at h;obtain⟨⟨x,s⟩,f,n,_⟩:=h;rw[Qz hE,Vm]at n;simp only[XV,Bool.not_eq_true',Vu,ne_eq]at n;obtain⟨u,l,y⟩:=n;have e:d.Extra∈flPs d.Route:=by
  by_cases j:d.Extra∈flPs d.Route
  .exact j
  .rw[List.count_eq_zero_of_not_mem j]at u;exact absurd rfl u
 obtain⟨i,k,a⟩:=List.getElem_of_mem e;refine⟨i,?_,by rw[XJ k,a]⟩;rcases Nat.eq_zero_or_pos i with q|q
 .subst q;cases p:flPs d.Route with
  |nil=>rw[p]at k;simp at k
  |cons m r=>
   rw[p]at f;unfold rokS at f;simp only[XV,Vt,decide_true,Bool.true_eq]at f;have j:m=d.Extra:=by rw[<- a];simp[p]
   rw[<- j]at l;rw[Vt]at l;have:=f.1;rw[l]at this;simp at this
 .exact q
theorem Qkh{c:Course}(e:courseE c=0){d:Distance}(a:d∈c.Distances): -1<=d.Extra:=by
 have h:=(Jo e).2.1;unfold numbersS at h;simp only[XV]at h;obtain⟨_,_,_,h,_⟩:=h;have:=Xs.1 h d a;unfold distS inR at this;simp only[XV,Vo]at this;exact this.2.1.1
theorem QiT{c:Course}(hg:courseE c=0->Good c)(he:Ev (λn=>F_av n c) (courseE c))(i k:Int):Ev (λn=>F_dc n c i k) (bif courseE c != 0 then([],courseE c)else routeO c i k):=by
 unfold F_dc;cases w:(courseE c != 0)with
 |true=>
  refine Ea (v:=courseE c) ?_ (QaI w (Qa _));unfold F_bo;exact Ea he (QaI w (Qa _))
 |false=>
 have e:courseE c=0:=by simpa[bne]using w
 have g:=hg e;rw[e]at he;simp only[Vn];unfold routeO;have chk:∀b:Bool,(decide (i<0)||decide ((c.Distances.length:Int)<=i))=b->Ev (λn=>F_bo n c i) (bif b then 90 else 0):=by
  intro b t;unfold F_bo;refine Ea he (Qq (Ea (v:=b) (Ew (Qk λ_=>Qa _) t) ?_));cases b<;>exact Qa _
 by_cases s:i<0
 .rw[Qz s,Vm];exact Ea (chk true (by rw[Qz s];rfl)) (Qa _)
 rw[QH s,Vn];cases r:c.Distances[i.toNat]? with
 |none=>
  have:=List.getElem?_eq_none_iff.1 r;exact Ea (chk true (by rw[Qz (show(c.Distances.length:Int)<=i by omega),Bool.or_true])) (Qa _)
 |some d=>
  have aa:=(XK.1 r).1;have f:=VC r;have L:=Qkh e f;have h:=(g.route d f).2;rw[g.exp f]at h;refine Ea (chk false (by rw[QH s,QH (show¬(c.Distances.length:Int)<=i by omega)];rfl)) (Qq ?_);have u:idx c.Distances i=some d:=by
   have:=Qu r
   rwa [Int.toNat_of_nonneg (by omega)]at this
  refine Qx u ?_;simp only;have P:decide (d.Extra<0)=(d.Extra== -1):=by
   by_cases z:d.Extra<0
   .rw[Qz z];symm;rw[Vt];omega
   .rw[QH z];symm;rw[Vu];omega
  refine Ea (v:=decide (k<0)||(decide (0<k)&&decide (d.Extra<0))) ?_ ?_
  .rw[P];exact Qk λ_=>Ei λ_=>Qa _
  cases t:(decide (k<0)||(decide (0<k)&&decide (d.Extra<0)))with
  |true=>exact Qa _
  |false=>
   simp only[XW,decide_eq_false_iff_not,Bool.and_eq_false_iff]at t;refine Qq (Ea (QlI _ _ d.Route (XS _) (g.parts d f) (g.len d f) (g.wf d f) h) ?_);refine Ea (v:=decide (256-((flPs d.Route).length:Int)<k)) ?_ ?_
   .by_cases l:256<k
    .rw[Qz l,Qz (show 256-((flPs d.Route).length:Int)<k by omega)];exact Qa _
    .rw[QH l,Qy (by omega) (by omega)];refine(Qa _).eq ?_;by_cases z:256-((flPs d.Route).length:Int)<k
     .rw[Qz z,Qz (by omega)]
     .rw[QH z,QH (by omega)]
   cases l:decide (256-((flPs d.Route).length:Int)<k)with
   |true=>exact Qa _
   |false=>
    have X:=Vs l;simp only[Vn];by_cases B:k=0
    .subst B;refine(Qa _).eq ?_;simp[routeV]
    .have R:(k==0)=false:=beq_false_of_ne B;rw[R];refine Qq ?_;have J:0<=d.Extra:=by omega
     obtain⟨b,O,G⟩:=QlM (flPs d.Route) d.Extra (by omega);obtain⟨F,H,y⟩:=Qki g e f J;rcases G with⟨_,N⟩|⟨q,q1,T,W,E⟩
     .exact absurd y (N F)
     have q0:0<q:=by
      rcases Nat.eq_zero_or_pos q with z|z
      .subst z;exact absurd y (E F H)
      .exact z
     have x:=Qe9 (flPs d.Route) d.Extra q0 W ((flPs d.Route).length-1) (by omega) λp a _=>E p a;refine Ea O ?_;rw[T,Yd (by omega)];have Y:slc (flPs d.Route) 0 ((q+1:Nat):Int)=some ((flPs d.Route).take (q+1)):=by
      have:=QbQ (flPs d.Route) (a:=0) (b:=q+1) (by omega) (by omega);simpa using this
     have Q:slc (flPs d.Route) ((q+1:Nat):Int) ((flPs d.Route).length:Int)=some ((flPs d.Route).drop (q+1)):=by
      have:=QbQ (flPs d.Route) (a:=q+1) (b:=(flPs d.Route).length) (by omega) (by omega);simpa using this
     refine Qx Y ?_;refine Qx (Y6 [] _ (by simp;omega)) ?_;rw[Vf];have lp:∀(m j:Nat),j+m=k.toNat->EvI (λn=>F_hx n k d) ((flPs d.Route).take (q+1)++List.replicate j d.Extra,(j:Int)) ((flPs d.Route).take (q+1)++List.replicate k.toNat d.Extra):=by
      intro m
      induction m with
      |zero=>
       intro j V;have:j=k.toNat:=by omega
       subst this;refine Ej ?_;unfold F_hx;simp only[QH (show¬((k.toNat:Nat):Int)<k by omega),Vn];exact Qa _
      |succ m M=>
       intro j V;refine Ex ?_ (M (j+1) (by omega));unfold F_hx;simp only[Qz (show(j:Int)<k by omega),Vm];refine Qx (Qcf (by simp;omega)) ?_;rw[Yd (by omega),Vg, <- List.replicate_succ'];exact Qa _
     refine Ea ((lp k.toNat 0 (by omega)).ev.eq rfl |> λh=>by simpa using h) ?_;refine Qx Q ?_;refine Qx (Y6 _ _ (by simp;omega)) ((Qa _).eq ?_);unfold routeV;rw[x]
theorem Qkr(k:Clocks)(w:ClkW k):∃b,Ev (λn=>F_dk n k) b/\(b=true->k.Segments.length<=8):=by
 unfold F_dk;cases a:(decide (8<(k.Segments.length:Int))||decide (10<(k.Far.length:Int)))with
 |true=>exact⟨false,Ea (v:=true) (Ew (Qk λ_=>Qa _) a) (Qa _),nofun⟩
 |false=>
  have e:=a;simp only[XW,decide_eq_false_iff_not]at e;refine⟨bif k.Far.all (λr=> !decide (12<(r.length:Int)))then true else false,Ea (v:=false) (Ew (Qk λ_=>Qa _) a) (Qq (Ea (Yr k.Far (λr=> !decide (12<(r.length:Int))) (Ctl.done false) (Ctl.cont ()) (by have:=w.far;omega) (λi x d=>?_) ?_) ?_)),λ_=>by omega⟩
  .unfold F_io;simp only[d.lt,Vm,d.ix,XI,d.nx];cases decide (12<(x.length:Int))<;>exact Qa _
  .unfold F_io;simp only[Qa6,Vn];exact Qa _
  .cases k.Far.all (λr=> !decide (12<(r.length:Int)))<;>exact Qa _
theorem QhS{k:Clocks}(h:Clocks.wf k):ClkW k:=⟨h.1.1,h.2.1.1,λr hr=>(h.2.1.2 r hr).1⟩
structure FewI (a:stopwatchlaw19_Input):Prop where
 few:FewOk a.C
 ty:Ev (λn=>F_c n a.C) (courseE a.C)
 ref:Ev (λn=>F_av n a.C) (courseE a.C)
 good:courseE a.C=0->Good a.C
 clk:ClkW a.K
 segs:a.K.Segments.length<=8
 mats:a.C.Mats.length<=8
 hits:a.Hits.length<=4
 hands:a.Hands.length<=6
theorem QmP(a:stopwatchlaw19_Input)(w:stopwatchlaw19_Input.wf a):∃b,Ev (λn=>F_cb n a) b/\(b=true->FewI a):=by
 have r:=Qdy w.1;have q:=QeF w.1;obtain⟨B,x⟩:=QhY w.1;have j:=QhS w.2.1;obtain⟨u,g,t⟩:=QkH a.C w.1;obtain⟨z,f,E⟩:=Qkr a.K j;unfold F_cb F_er;cases e:(!u||(decide (8<(a.C.Mats.length:Int))||(!z||(decide (4<(a.Hits.length:Int))||decide (6<(a.Hands.length:Int))))))with
 |true=>exact⟨false,Ea (Ea (v:=true) (Ew (Ea g (Qk λ_=>Qk λ_=>Ea f (Qk λ_=>Qk λ_=>Qa _))) e) (Qa _)) (Qa _),nofun⟩
 |false=>
  have d:=e;simp only[XW,decide_eq_false_iff_not,Bool.not_eq_false']at d;obtain⟨F,J,y,H,G⟩:=d;obtain⟨m,s⟩:=t F;have l:=QfN a.C r q m B x;have p:courseE a.C=0->Good a.C:=λh=>Qlz r q h;have all:FewI a:=⟨m,s,l,p,j,E y,by omega,by omega,by omega⟩;cases k:(decide (a.S.Distance<0)||decide ((a.C.Distances.length:Int)<=a.S.Distance))with
  |true=>exact⟨true,Ea (Ea (v:=false) (Ew (Ea g (Qk λ_=>Qk λ_=>Ea f (Qk λ_=>Qk λ_=>Qa _))) e) (Qq (Ea (v:=true) (Ew (Qk λ_=>Qa _) k) (Qa _)))) (Qa _),λ_=>all⟩
  |false=>
   have i:=QiT p l a.S.Distance a.Extra;generalize(bif courseE a.C != 0 then([],courseE a.C)else routeO a.C a.S.Distance a.Extra)=R at i;exact⟨R.2 != 0||decide ((R.1.length:Int)<=8),Ea (Ea (v:=false) (Ew (Ea g (Qk λ_=>Qk λ_=>Ea f (Qk λ_=>Qk λ_=>Qa _))) e) (Qq (Ea (v:=false) (Ew (Qk λ_=>Qa _) k) (Qq (Ea i (Ea (Qk λ_=>Qa _) (Qa _))))))) (Qa _),λ_=>all⟩
def taskV(c:Course)(k:Clocks)(s:Starter)(e:Int)(x:List Hit)(l:List Hand)(t:List Ud):Task:=
 {c:=c,k:=k,r:=(routeO c s.Distance e).1,s:=sumsV c (routeO c s.Distance e).1,H:=x,T:=t,m:=(hndV l).1,hi:=(hndV l).2}
def taskE(c:Course)(k:Clocks)(s:Starter)(e:Int)(x:List Hit)(l:List Hand):Int ⊕ Task:=
 bif courseE c != 0 then .inl (courseE c)else bif !clkB k then .inl 160 else bif argW c s l then .inl 1 else bif (routeO c s.Distance e).2 != 0 then .inl (routeO c s.Distance e).2 else bif !checkH c x then .inl 170 else
  match timesV c k x with
  |none=>.inl 170
  |some t=>.inr (taskV c k s e x l t)
def prepU:Int ⊕ Task->U_match_prepare
 |.inl e=>.c0 e
 |.inr t=>.c1 (t.r,t.s,t.T,t.m,t.hi)
theorem QlJ{c:Course}(d:Ev (λn=>F_c n c) (courseE c))(i:courseE c=0->Good c){k:Clocks}(g:ClkW k)(s:Starter)(e:Int)(x:List Hit)(j:x.length<=1000)(l:List Hand)(h:l.length<=1048576):
  Ev (λn=>F_z n c k s e x l) (prepU (taskE c k s e x l)):=by
 unfold taskE;cases f:(courseE c != 0)with
 |true=>
  unfold F_z;exact Ea d (QaI f (Qa _))
 |false=>
  have a:courseE c=0:=by simpa[bne]using f
  refine(Qht (i a) a (a▸d) g s e x j l h).eq ?_;unfold prepV;cases clkB k with
  |false=>rfl
  |true=>
  cases argW c s l with
  |true=>rfl
  |false=>
  cases((routeO c s.Distance e).2 != 0)with
  |true=>rfl
  |false=>
  cases checkH c x with
  |false=>rfl
  |true=>cases timesV c k x<;>rfl
structure TaskIs (c:Course) (k:Clocks) (s:Starter) (e:Int) (x:List Hit) (l:List Hand) (t:Task):Prop where
 ok:TaskOk t
 cE:courseE c=0
 clk:clkB k=true
 arg:argW c s l=false
 rt:(routeO c s.Distance e).2=0
 hit:checkH c x=true
 is:t=taskV c k s e x l t.T
 tm:timesV c k x=some t.T
theorem Qlh{c:Course}(Q:Ev (λn=>F_c n c) (courseE c))(gd:courseE c=0->Good c){k:Clocks}(P:ClkW k){s:Starter}{e:Int}{x:List Hit}(hx:x.length<=1000){l:List Hand}{t:Task}(h:taskE c k s e x l=.inr t):TaskIs c k s e x l t:=by
 unfold taskE at h;cases H:(courseE c != 0)with
 |true=>rw[H]at h;cases h
 |false=>
 rw[H,Vn]at h;have a:courseE c=0:=by simpa[bne]using H
 cases r:clkB k with
 |false=>rw[r]at h;cases h
 |true=>
 rw[r]at h;cases F:argW c s l with
 |true=>rw[F]at h;cases h
 |false=>
 rw[F]at h;cases G:((routeO c s.Distance e).2 != 0)with
 |true=>rw[G]at h;cases h
 |false=>
 have q:(routeO c s.Distance e).2=0:=by simpa[bne]using G
 rw[G]at h;cases u:checkH c x with
 |false=>rw[u]at h;cases h
 |true=>
 rw[u]at h;cases f:timesV c k x with
 |none=>rw[f]at h;cases h
 |some T=>
 rw[f]at h;cases h;have g:=gd a;obtain⟨j,d,k',r1,r2,r3,r4,r5,O⟩:=Qe2 g q;have E:(routeO c s.Distance e).1.length<=256:=by
  rw[O];unfold routeV;simp only[X2,Xx,List.length_drop,List.length_replicate];omega
 obtain⟨T1,T2⟩:=Qf8 f;have X:=Qg9 P r;refine⟨⟨a▸Q,QgV a,X,Qiy _ _,E,T1,hx,λi y m=>Qh6 u y (VC m),λy m=>?_,λp y m=>?_,?_⟩,a,r,F,q,u,rfl,f⟩
 .obtain⟨i,M,Y⟩:=List.getElem_of_mem m;have w:i<x.length:=by have:i<T.length:=M;omega
  obtain⟨V,J,g2⟩:=T2 i _ (XJ w);have W:V=y:=by
   have:T[i]?=some y:=by rw[<- Y];exact XJ M
   rw[this]at J;cases J;rfl
  subst W;rcases QjI g2 with z|⟨L,s',z1,R,_⟩
  .exact⟨0,by omega,by omega⟩
  .have:=(XK.1 R).1;exact⟨L+1,by omega,by show L+1<k.Segments.length+1;omega⟩
 .have:=Qed l p;rw[show YH (hndV l).1 p=some y from m]at this;cases N:l.find? (λh=>h.Position==p)with
  |none=>rw[N]at this;cases this
  |some h'=>
   rw[N]at this;cases this;exact⟨0,rfl,by omega⟩
 .have B:=(Jo a).2.1;unfold numbersS lastS inR at B;simp only[XV,Vo]at B;exact B.2.2.2.2.2.2.2.2.2.1.1.1
theorem QjJ{c:Course}{k:Clocks}{s:Starter}{e:Int}{x:List Hit}{l:List Hand}{v:Int}(h:taskE c k s e x l=.inl v):v≠0:=by
 unfold taskE at h;cases f:(courseE c != 0)with
 |true=>rw[f]at h;cases h;simpa[bne]using f
 |false=>
 rw[f,Vn]at h;cases g:clkB k with
 |false=>rw[g]at h;cases h;decide
 |true=>
 rw[g]at h;cases j:argW c s l with
 |true=>rw[j]at h;cases h;decide
 |false=>
 rw[j]at h;cases d:((routeO c s.Distance e).2 != 0)with
 |true=>rw[d]at h;cases h;simpa[bne]using d
 |false=>
 rw[d]at h;cases i:checkH c x with
 |false=>rw[i]at h;cases h;decide
 |true=>
 rw[i]at h;cases a:timesV c k x with
 |none=>rw[a]at h;cases h;decide
 |some T=>rw[a]at h;cases h
def chkV(c:Course)(k:Clocks)(s:Starter)(e:Int)(x:List Hit)(l:List Hand)(W:Way):Int:=
 match taskE c k s e x l with
 |.inl v=>v
 |.inr t=>bif admV t W then 0 else 190
theorem QkC{c:Course}(d:Ev (λn=>F_c n c) (courseE c))(h:courseE c=0->Good c){k:Clocks}(a:ClkW k)(s:Starter)(e:Int)(x:List Hit)(g:x.length<=1000)(l:List Hand)(u:l.length<=1048576)(W:Way)(j:W.Hits.length<=1048576):
  Ev (λn=>F_ay n c k s e x l W) (chkV c k s e x l W):=by
 unfold F_ay chkV;refine Ea (QlJ d h a s e x g l u) ?_;cases f:taskE c k s e x l with
 |inl v=>
  have:=QjJ f;exact QaI (by simpa[bne]using this) (Qa _)
 |inr t=>
  have i:=Qlh d h a g f;have w:t.c=c:=by rw[i.is];rfl
  have q:t.k=k:=by rw[i.is];rfl
  have y:t.H=x:=by rw[i.is];rfl
  have:=QmQ i.ok W j;rw[w,q,y]at this;show Ev (λn=>(F_ak n W c k t.r t.s x t.T t.hi t.m c k).bind λp=>(bif (!p)then some 190 else some 0)) _;refine Ea this ?_;simp only;cases admV t W<;>exact Qa _
set_option maxRecDepth 10000
theorem Qmk:F_eh 300=some true:=by kernel_rfl
theorem Qex{a:stopwatchlaw19_Input}(f:FewI a){W:Way}(d:W.Hits.length<=1048576):Ev (λn=>F_j n a W) (chkV a.C a.K a.S a.Extra a.Hits a.Hands W):=by
 unfold F_j;exact Ea (QkC f.ty f.good f.clk _ _ _ (by have:=f.hits;omega) _ (by have:=f.hands;omega) W d) (Qa _)
end Go.Sw
