/- The plain laws that a law needs, with no program in sight. -/
import Derived.Test.YtgjcbknjiemdgaaGreatDoorW16Ex
set_option linter.unusedVariables false
set_option linter.unusedSimpArgs false
namespace Go.Sw
def inR(lo hi x:Int):Bool:=decide (lo<=x)&&decide (x<=hi)
theorem Qf7(lo hi:Int)(l:List Int)(a:l.length<=4611686018427387904):Ev (λn=>F_a n lo hi l) (l.all (inR lo hi)):=by
 have h:Ev (λn=>F_bi n l lo hi) (l.any λx=> !inR lo hi x):=by
  unfold F_bi F_fi;refine Ev.contains l _ (λn x=>F_av n x lo hi) a λx _=>?_;unfold F_av;refine Ea (v:= !inR lo hi x) ?_ (Qa _);refine(Eu λh=>Qa _).eq ?_;unfold inR;rw[XY];simp
 unfold F_a;refine Ea h ((Qa _).eq ?_);rw[List.not_any_eq_all_not];simp
def okN(c:Nat):Bool:=(decide (97<=c)&&decide (c<=122))||(decide (48<=c)&&decide (c<=57))||decide (c=95)
def okAN(c:Nat):Bool:=decide (97<=c)&&decide (c<=122)
def okC(c:UInt8):Bool:=okN c.toNat
def okA(c:UInt8):Bool:=okAN c.toNat
def kwL:List (List UInt8):=[[99,111,117,114,115,101],[109,97,116,115],[115,116,97,114,116],[112,97,115,115],[101,110,100],[108,101,103],[116,111],[100,105,115,116,97,110,99,101],[103,117,110],[99,104,105,112],[115,108,111,116],[108,97,112,115],[108,97,112],[99,117,116,111,102,102],[101,120,116,114,97],[119,97,118,101],[111,102,102,101,110,99,101],[111,117,116],[99,97,116,101,103,111,114,121],[112,114,105,122,101],[97,108,108],[116,105,101,115],[105,102],[101,108,115,101],[97,110,100],[111,114],[110,111,116],[111,108,100,101,114],[121,111,117,110,103,101,114],[98,105,98],[100,114,97,119],[102,105,101,108,100],[115,104,111,114,116],[102,97,117,108,116,115],[109,105,115,115,101,115],[115,116,114,97,121,115],[119,105,110,100,111,119],[114,101,115,105,100,117,97,108],[100,114,105,102,116],[112,114,111,116,101,115,116],[102,101,101],[100,101,97,100,108,105,110,101]]
theorem QmC(c d:Bool):(bif c then some c else some d)=some (c||d):=by cases c<;>rfl
def kwsOf:List UInt8->List (List UInt8)
 |[]=>[]
 |b::l=>(bif b==32&& !(l.dropWhile λc=>c != 32).isEmpty then[l.takeWhile λc=>c != 32]else[])++kwsOf l
theorem QdJ:∀(l s:List UInt8),(∀c∈s,c≠32)->(s++[32]).isPrefixOf l=((l.takeWhile λc=>c != 32)==s&& !(l.dropWhile λc=>c != 32).isEmpty)
 |[],s,h=>by cases s<;>simp
 |b::l,[],h=>by
  by_cases e:b=32
  .subst e;simp[List.isPrefixOf]
  .have e1:(b != 32)=true:=by simpa using e
   have j:(32==b)=false:=by simpa using λq=>e q.symm
   simp[List.isPrefixOf,List.takeWhile_cons,e1,j]
 |b::l,c::s,h=>by
  have g:=h c (by simp);have k:=QdJ l s λd a=>h d (by simp[a]);by_cases e:b=32
  .subst e;have:(c==32)=false:=by simpa using g
   simp[List.isPrefixOf,this]
  .have e1:(b != 32)=true:=by simpa using e
   simp only[VK,List.isPrefixOf,List.takeWhile_cons,List.dropWhile_cons,e1,if_true,k,List.cons_beq_cons];by_cases q:c=b
   .subst q;simp
   .have f:(c==b)=false:=by simpa using q
    have i:(b==c)=false:=by simpa using λz=>q z.symm
    simp[f,i]
theorem contains_cons(b:UInt8)(l t:List UInt8)(d:t≠[]):Lib.contains (b::l) t=(t.isPrefixOf (b::l)||Lib.contains l t):=by
 unfold Lib.contains;rw[show Lib.index (b::l) t=if t.isPrefixOf (b::l)then 0 else if Lib.index l t== -1 then-1 else Lib.index l t+1 from rfl];cases h:t.isPrefixOf (b::l)with
 |true=>simp
 |false=>
  have:=Lib.index_ge l t;by_cases q:Lib.index l t= -1
  .simp[q]
  .have a:(Lib.index l t== -1)=false:=by simpa using q
   simp only[a,Bool.false_or];rw[XY];simp;omega
theorem QbL(s:List UInt8)(h:∀c∈s,c≠32):∀l,Lib.contains l (32::(s++[32]))=(kwsOf l).contains s
 |[]=>by simp[Lib.contains,Lib.index,kwsOf]
 |b::l=>by
  rw[contains_cons b l _ (by simp),QbL s h l];simp only[kwsOf,List.isPrefixOf,QdJ l s h];by_cases e:b=32
  .subst e;cases q: !(l.dropWhile λc=>c != 32).isEmpty with
   |true=>
    simp only[q,beq_self_eq_true,VA,Bool.and_true,Vp,VK,Vh,List.contains_cons];congr 1;rw[XY];simp only[Vy];exact⟨λh=>h.symm,λh=>h.symm⟩
   |false=>simp[q]
  .have e1:(b==32)=false:=by simpa using e
   have a:(32==b)=false:=by simpa using λq=>e q.symm
   simp[e1,a]
def wordsL:List UInt8:=[32,99,111,117,114,115,101,32,109,97,116,115,32,115,116,97,114,116,32,112,97,115,115,32,101,110,100,32,108,101,103,32,116,111,32,100,105,115,116,97,110,99,101,32,103,117,110,32,99,104,105,112,32,115,108,111,116,32,108,97,112,115,32,108,97,112,32,99,117,116,111,102,102,32,101,120,116,114,97,32,119,97,118,101,32,111,102,102,101,110,99,101,32,111,117,116,32,99,97,116,101,103,111,114,121,32,112,114,105,122,101,32,97,108,108,32,116,105,101,115,32,105,102,32,101,108,115,101,32,97,110,100,32,111,114,32,110,111,116,32,111,108,100,101,114,32,121,111,117,110,103,101,114,32,98,105,98,32,100,114,97,119,32,102,105,101,108,100,32,115,104,111,114,116,32,102,97,117,108,116,115,32,109,105,115,115,101,115,32,115,116,114,97,121,115,32,119,105,110,100,111,119,32,114,101,115,105,100,117,97,108,32,100,114,105,102,116,32,112,114,111,116,101,115,116,32,102,101,101,32,100,101,97,100,108,105,110,101,32]
theorem Qo5:kwsOf wordsL=kwL:=by decide+kernel
def classTab:List Int:=(List.range 256).map λi=>if 97<=i/\i<=122\/65<=i/\i<=90 then 2 else if 48<=i/\i<=57 then 3 else if i∈[123,125,40,41,91,93,59,44,61,60,62]then 4 else if i∈[32,9,10,13]then 1 else 0
theorem QiY:Ev F_cv classTab:=by
 unfold F_cv;refine Ea (Qb4 (step:=F_ev 0) 40 (b:=(iter (F_ev 0) 40 (List.replicate 256 0,97)).getD []) (by decide+kernel)) ?_;refine Ea (Qb4 (step:=F_gm 0) 40 (b:=(iter (F_gm 0) 40 ((iter (F_ev 0) 40 (List.replicate 256 0,97)).getD [],48)).getD []) (by decide+kernel)) ?_;generalize hb:(iter (F_gm 0) 40 ((iter (F_ev 0) 40 (List.replicate 256 0,97)).getD [],48)).getD []=b2;refine Ea (Qb4 (step:=F_hm 0) 40 (b:=(iter (F_hm 0) 40 (b2,0)).getD []) (by subst hb;decide+kernel)) ?_;refine Ea (Qb4 (step:=F_hz 0) 40 (b:=classTab) (by subst hb;decide+kernel)) ?_;exact Ez (by decide+kernel)
theorem QkH:((List.range 256).all λi=> !okN i||decide (classTab[i]?=some (if okAN i then 2 else if i=95 then 0 else 3)))=true:=by decide+kernel
theorem QmA{c:UInt8}(h:okC c=true):Qd8 256 classTab (c.toNat:Int)=some (if okA c then 2 else if c.toNat=95 then 0 else 3):=by
 have a:=Xs.1 QkH c.toNat (List.mem_range.2 c.toNat_lt);unfold okC at h;rw[h]at a;simp only[Xg,Bool.false_or,Vr]at a;unfold Qd8;rw[show Nat.beq classTab.length 256=true by decide+kernel,Vp,Ql a];rfl
def goodS(s:List UInt8):Bool:=decide (1<=s.length)&&decide (s.length<=24)&&(s.head?).any okA&&s.all okC
def isNameS(s:List UInt8):Bool:=goodS s&& !kwL.contains s
theorem Qku(s:List UInt8)(h:goodS s=true):Ev (λn=>F_dd n s) true:=by
 unfold goodS at h;simp only[XW,Vr,Xs]at h;obtain⟨⟨⟨b,k⟩,g⟩,e⟩:=h;unfold F_dd;refine Ea QiY ?_;refine QaP (v:=List.replicate 256 0) (by decide+kernel) ?_;refine QaP (v:=classTab) (by decide+kernel) ?_;refine Ea (v:=Ctl.cont ()) (Ev.iter (λi=>(i:Int)) s.length rfl (λi j=>?_) ?_) ?_
 .have a:=Jb (x:=s[i]) (by omega) (XK j);have f:=e _ a.mem;unfold F_hy;simp only[a.lt,Vp,a.ix,XJ,QmA f,a.nx];cases i with
  |zero=>
   have:okA s[0]=true:=by
    cases s with
    |nil=>simp at b
    |cons c r=>simpa using g
   simp[this];exact Qa _
  |succ i=>
   by_cases q:okA s[i+1]=true
   .simp[q];exact Qa _
   .by_cases d:s[i+1].toNat=95
    .simp[q,d];exact Qa _
    .simp[q,d];exact Qa _
 .unfold F_hy;simp only[Qco,Vq];exact Qa _
 .refine Ez ?_;cases s with
  |nil=>simp at b
  |cons c r=>rfl
theorem Qkq{s:List UInt8}(h:goodS s=true):∀c∈s,c≠32:=by
 unfold goodS at h;simp only[XW,Xs]at h;rintro c a rfl;exact absurd (h.2 _ a) (by decide)
theorem Ql1{s:List UInt8}(h:goodS s=true):s.length<=24:=by
 unfold goodS at h;simp only[XW,Vr]at h;exact h.1.1.2
theorem Qi0(s:List UInt8)(h:goodS s=true):Ev (λn=>F_bq n s) (kwL.contains s):=by
 unfold F_bq;refine Ea (v:=kwL.contains s) ?_ (Qa _);refine Ea (Qku s h) (Qj5 ?_);have a:=Ql1 h;refine QaP (v:=[32]++s) (by unfold cat;rw[XS (by simp;omega)];rfl) ?_;refine QaP (v:=[32]++s++[32]) (by unfold cat;rw[XS (by simp;omega)];rfl) ?_;refine QaP (v:=kwL.contains s) ?_ (Qa _);show QeZ wordsL ([32]++s++[32])=some (kwL.contains s);unfold QeZ;rw[show Nat.blt wordsL.length 4294967281=true by decide+kernel,Vp];rw[show[32]++s++[32]=32::(s++[32])by simp,QbL s (Qkq h),Qo5]
theorem ch_lt(c:UInt8)(k:Nat):decide ((c.toNat:Int)<(k:Int))=decide (c.toNat<k):=by
 rw[XY];simp
theorem badC(c:UInt8):(bif decide ((c.toNat:Int)<97)then(bif decide ((c.toNat:Int)<48)then some ((c.toNat:Int) != 95)else(bif decide (57<(c.toNat:Int))then some ((c.toNat:Int) != 95)else some false))else(bif decide (122<(c.toNat:Int))then(bif decide ((c.toNat:Int)<48)then some ((c.toNat:Int) != 95)else(bif decide (57<(c.toNat:Int))then some ((c.toNat:Int) != 95)else some false))else some false))=some (!okC c):=by
 unfold okC okN;generalize c.toNat=k;have e:((k:Int) != 95)= !decide (k=95):=by
  by_cases h:k=95
  .subst h;rfl
  .rw[Vx h];simp;omega
 rw[e];by_cases g:k<48
 .rw[QO (show(k:Int)<97 by omega),QO (show(k:Int)<48 by omega)];have a:¬97<=k:=by omega
  have f:¬48<=k:=by omega
  simp[a,f]
 .rw[QG (show¬(k:Int)<48 by omega)];by_cases b:k<=57
  .rw[QO (show(k:Int)<97 by omega),QG (show¬57<(k:Int)by omega)];have a:48<=k:=by omega
   simp[a,b]
  .rw[QO (show 57<(k:Int)by omega)];by_cases i:k<97
   .rw[QO (show(k:Int)<97 by omega)];have a:¬97<=k:=by omega
    simp[a,b]
   .rw[QG (show¬(k:Int)<97 by omega)];by_cases d:k<=122
    .rw[QG (show¬122<(k:Int)by omega)];have a:97<=k:=by omega
     simp[a,d]
    .rw[QO (show 122<(k:Int)by omega)];simp[b,d]
theorem Qkk(n:Nat)(s:List UInt8):(bif decide ((s.length:Int)<1)then some true else(bif decide (24<(s.length:Int))then some true else(idx s 0).bind λx10=>(bif decide ((x10.toNat:Int)<97)then some true else(idx s 0).bind λx12=>some (decide (122<(x12.toNat:Int))))))=some (!(decide (1<=s.length)&&decide (s.length<=24)&&(s.head?).any okA)):=by
 cases s with
 |nil=>rfl
 |cons c r=>
  rw[QG (show¬((c::r).length:Int)<1 by simp;omega),Vq];by_cases h:(c::r).length<=24
  .rw[QG (show¬24<((c::r).length:Int)by omega),Vq];have e:idx (c::r) 0=some c:=rfl;simp only[e,XJ];simp only[X0]at h;have a:r.length<=23:=by omega
   simp only[List.head?_cons,Option.any_some,okA,okAN];rw[show(97:Int)=((97:Nat):Int)from rfl,ch_lt];by_cases b:c.toNat<97
   .have:¬97<=c.toNat:=by omega
    simp[b,this]
   .have d:97<=c.toNat:=by omega
    simp[b,d,a];by_cases q:c.toNat<=122
    .rw[QG (show¬122<(c.toNat:Int)by omega),QO q];rfl
    .rw[QO (show 122<(c.toNat:Int)by omega),QG q];rfl
  .rw[QO (show 24<((c::r).length:Int)by omega),Vp];simp only[X0]at h;have a:¬r.length<=23:=by omega
   simp[a]
theorem Qga(s:List UInt8)(g:s.length<=1048576):Ev (λn=>F_d n s) (isNameS s):=by
 unfold F_d;refine Ea (Ez (Qkk 0 s)) ?_;unfold isNameS;cases d:(decide (1<=s.length)&&decide (s.length<=24)&&(s.head?).any okA)with
 |false=>
  simp only[Xh,Vp];have:goodS s=false:=by unfold goodS;rw[d];rfl
  rw[this];exact Qa _
 |true=>
  simp only[Xg,Vq];have f:goodS s=s.all okC:=by unfold goodS;rw[d];rfl
  refine Ea (QbQ s (λc=> !okC c) (λi=>(i:Int)) (Ctl.done false) (Ctl.cont ()) (by omega) rfl (λi x a b=>?_) (λi x a b=>?_) ?_) ?_
  .unfold F_gr;simp only[a.lt,Vp,a.ix,XJ,badC,b,Vq,a.nx];exact Qa _
  .unfold F_gr;simp only[a.lt,Vp,a.ix,XJ,badC,b];exact Qa _
  .unfold F_gr;simp only[Qco,Vq];exact Qa _
  .rw[f];have e:s.any (λc=> !okC c)= !s.all okC:=by rw[List.not_all_eq_any_not]
   rw[e];cases q:s.all okC with
   |true=>
    simp only[Xg,Vq,VA];exact Ea (Qi0 s (f.trans q)) (Qa _)
   |false=>
    simp only[Xh,Vp,Bool.false_and];exact Qa _
def diffS:List (List UInt8)->List (List UInt8)->Bool
 |_,[]=>true
 |seen,x::r=>isNameS x&& !seen.contains x&&diffS (seen++[x]) r
theorem Qi2(l:List (List UInt8))(i:Nat)(x:List UInt8)(h:At l i x):diffS (l.take i) (l.drop i)=(isNameS x&& !(l.take i).contains x&&diffS (l.take (i+1)) (l.drop (i+1))):=by
 rw[h.drop,h.take];rfl
theorem QbK{α:Type}(l:List α)(a:α->List UInt8)(g:Nat->α->Option Unit)(hg:∀n x,g n x=some ())(q:l.length<=1048576)(p:∀x∈l,(a x).length<=1048576):
  Ev (λn=>((iter (λs:(List (List UInt8×Bool))×Int=>bif decide (s.2<(l.length:Int))then(idx l s.2).bind λx35=>(g n x35).bind λr36=>((F_d n (a x35)).bind λr42=>(bif (!r42)then some true else(some (QP s.1 (a x35) false)).bind λv44=>some v44):Option Bool).bind λb40=>(bif b40 then some (.done (.done false))else(some (Yj s.1 (a x35) true)).bind λm46=>some (.cont (m46,IntKind.i64.wrap (s.2+1))))else some (.done (.cont ()))) n ([],0):Option (Ctl Unit Bool)).bind λb28=>
   match b28 with
   |.cont _=>some true
   |.done s=>some s:Option Bool)) (diffS [] (l.map a)):=by
 have e:l.length<=4611686018427387904:=by omega
 have k:(l.map a).length<=4611686018427387904:=by simpa using e
 have j:=Qhj (B:=Ctl Unit Bool) l (step:=λn s=>bif decide (s.2<(l.length:Int))then(idx l s.2).bind λx35=>(g n x35).bind λr36=>((F_d n (a x35)).bind λr42=>(bif (!r42)then some true else(some (QP s.1 (a x35) false)).bind λv44=>some v44):Option Bool).bind λb40=>(bif b40 then some (.done (.done false))else(some (Yj s.1 (a x35) true)).bind λm46=>some (.cont (m46,IntKind.i64.wrap (s.2+1))))else some (.done (.cont ())))
  (s0:=(([]:List (List UInt8×Bool)),(0:Int))) (λi=>(Ye a true (l.take i),(i:Int))) (λi=>bif diffS ((l.map a).take i) ((l.map a).drop i)then .cont ()else .done false) e rfl (λi x d=>?_) ?_
 .refine Ea j ?_;simp only[List.take_zero,List.drop_zero];cases diffS [] (l.map a)<;>exact Qa _
 .have f:At (l.map a) i (a x):=Jb k (by rw[Xo,d.get];rfl);simp only[Qi2 _ _ _ f];have b:Ev (λn=>((F_d n (a x)).bind λr42=>(bif (!r42)then some true else(some (QP (Ye a true (l.take i)) (a x) false)).bind λv44=>some v44):Option Bool)) (!(isNameS (a x)&& !((l.map a).take i).contains (a x))):=by
   refine Ea (Qga (a x) (p x d.mem)) ?_;cases isNameS (a x)with
   |false=>exact Qa _
   |true=>
    refine Q7 ((Qa _).eq ?_);rw[QdL,List.map_take];by_cases h:a x∈(l.map a).take i
    .rw[Vt h];simp[h]
    .rw[Vs h];simp[h]
  cases m:(isNameS (a x)&& !((l.map a).take i).contains (a x))with
  |true=>
   rw[m]at b;refine .inl ⟨?_,by simp⟩;simp only[d.lt,Vp,d.ix,XJ,hg];refine Ea b ?_;simp only[Xg,Vq,XJ,d.nx];rw[d.take,QgL];exact Qa _
  |false=>
   rw[m]at b;refine .inr ?_;simp only[d.lt,Vp,d.ix,XJ,hg];refine Ea b ?_;simp only[Xh,Vp,Bool.false_and,Vq];exact Qa _
 .simp only[Qco,Vq];rw[show(l.map a).drop l.length=[]by apply List.drop_eq_nil_of_le;simp];exact Qa _
theorem Qpl{α:Type}{l:List α}{x:α}(h:l.length<=140737488):app l [x]=some (l++[x]):=Qbp l x (by omega)
theorem Qgb{α β:Type}(l:List α)(f:α->β)(j:l.length<=140737488):Ev (λn=>iter (λs:(List β)×Int=>bif decide (s.2<(l.length:Int))then(idx l s.2).bind λx15=>(app s.1 [f x15]).bind λl16=>some (Ctl.cont (l16,IntKind.i64.wrap (s.2+1)))else some (Ctl.done s.1)) n (([]:List β),(0:Int))) (l.map f):=by
 have e:∀l:List α,l.foldl (λ(a:List β) x=>a++[f x]) []=l.map f:=by
  intro l;have g:∀(l:List α) (a:List β),l.foldl (λ(a:List β) x=>a++[f x]) a=a++l.map f:=by
   intro l
   induction l with
   |nil=>intro a;simp
   |cons x l h=>intro a;rw[XD,h];simp
  simpa using g l []
 rw[<- e l];refine QaC l (λ(a:List β) x=>a++[f x]) [] (λa i=>(a,(i:Int))) (λa=>a) (by omega) rfl (λi x a d b=>?_) ?_
 .rw[e]at b;have:a.length<=140737488:=by rw[b];simp;omega
  simp only[d.lt,Vp,d.ix,XJ,Qpl this,d.nx];exact Qa _
 .simp only[Qco,Vq];exact Qa _
def namesS(c:Course):Bool:=isNameS c.Name&&(diffS [] (c.Mats.map (·.Name))&&(diffS [] (c.Distances.map (·.Name))&&(diffS [] (c.Waves.map (·.Name))&&(diffS [] (c.Offences.map (·.Name))&&diffS [] (c.Categories.map (·.Name))))))
structure CourseOk (c:Course):Prop where
 name:c.Name.length<=1048576
 mats:c.Mats.length<=1048576
 matsN:∀x∈c.Mats,x.Name.length<=1048576
 legs:c.Legs.length<=1048576
 dist:c.Distances.length<=1048576
 distN:∀x∈c.Distances,x.Name.length<=1048576
 cut:∀x∈c.Distances,x.Cutoffs.length<=1048576
 wave:c.Waves.length<=1048576
 waveN:∀x∈c.Waves,x.Name.length<=1048576
 off:c.Offences.length<=1048576
 offN:∀x∈c.Offences,x.Name.length<=1048576
 cat:c.Categories.length<=1048576
 catN:∀x∈c.Categories,x.Name.length<=1048576
 prize:c.Prizes.length<=1048576
theorem Qmh(c:Course)(w:CourseOk c):Ev (λn=>F_bj n c) (namesS c):=by
 unfold F_bj namesS;refine Ea (v:=_) ?_ (Qa _);refine Ea (Qga c.Name w.name) (Ei λ_=>?_);have b:Ev (λn=>F_bf n c.Mats) (diffS [] (c.Mats.map (·.Name))):=by unfold F_bf;exact QbK c.Mats (·.Name) F_en (λ_ _=>rfl) w.mats w.matsN
 have f:Ev (λn=>F_ck n c.Distances) (diffS [] (c.Distances.map (·.Name))):=by unfold F_ck;exact QbK c.Distances (·.Name) F_fs (λ_ _=>rfl) w.dist w.distN
 have d:Ev (λn=>F_co n c.Waves) (diffS [] (c.Waves.map (·.Name))):=by unfold F_co;exact QbK c.Waves (·.Name) F_fk (λ_ _=>rfl) w.wave w.waveN
 have a:Ev (λn=>F_cf n c.Offences) (diffS [] (c.Offences.map (·.Name))):=by unfold F_cf;exact QbK c.Offences (·.Name) F_dw (λ_ _=>rfl) w.off w.offN
 have e:Ev (λn=>F_bm n c.Categories) (diffS [] (c.Categories.map (·.Name))):=by unfold F_bm;exact QbK c.Categories (·.Name) F_ga (λ_ _=>rfl) w.cat w.catN
 refine Ea b (Ei λ_=>?_);refine Ea f (Ei λ_=>?_);refine Ea d (Ei λ_=>?_);refine Ea a (Ei λ_=>?_);exact Ea e (Qa _)
theorem Qcw{n:Nat}(h:n<=1048576):IntKind.i64.wrap ((n:Int)-1)=(n:Int)-1:=Qo (by omega) (by omega)
mutual
def szP:Part->Nat
 |⟨_,_,ps⟩=>1+szPs ps
def szPs:List Part->Nat
 |[]=>0
 |p::r=>szP p+szPs r
end
theorem Qad(p:Part):szP p=1+szPs p.Parts:=by cases p;rfl
theorem QaF{p:Part}:∀{l:List Part},p∈l->szP p<=szPs l
 |q::r,h=>by
  simp only[szPs];rcases X6.1 h with rfl|h
  .omega
  .have:=QaF h;omega
mutual
def partS(k:Int):Part->Bool
 |⟨m,laps,ps⟩=>bif laps==0 then inR 0 k m&&((ps.length:Int)==0)else inR 1 64 laps&&((m==0)&&(decide (0<(ps.length:Int))&&partsS k ps))
def partsS(k:Int):List Part->Bool
 |[]=>true
 |p::r=>partS k p&&partsS k r
end
theorem QeM(k:Int)(p:Part):partS k p=bif p.Laps==0 then inR 0 k p.Mat&&((p.Parts.length:Int)==0)else inR 1 64 p.Laps&&((p.Mat==0)&&(decide (0<(p.Parts.length:Int))&&partsS k p.Parts)):=by cases p;rfl
theorem Qdf(k:Int):∀l:List Part,partsS k l=l.all (partS k)
 |[]=>rfl
 |p::r=>by simp only[partsS,List.all_cons,Qdf k r]
theorem Y1{p:Part}(h:Part.wf p):p.Parts.length<=1048576/\ ∀x∈p.Parts,Part.wf x:=by
 cases p;simp only[Part.wf,QcY]at h;exact h.2.2.1
theorem QE(lo hi x:Int):Ev (λn=>F_a n lo hi [x]) (inR lo hi x):=(Qf7 lo hi [x] (by simp)).eq (by simp)
theorem QaJ(lo hi x y:Int):Ev (λn=>F_a n lo hi [x,y]) (inR lo hi x&&inR lo hi y):=(Qf7 lo hi [x,y] (by simp)).eq (by simp)
theorem Qmg(k:Int):∀(m:Nat) (l:List Part),szPs l<=m->l.length<=1048576->(∀x∈l,Part.wf x)->Ev (λn=>F_e n l k) (partsS k l):=by
 intro m
 induction m with
 |zero=>
  intro l d f b;cases l with
  |nil=>
   refine Y4 ?_;show Ev (λn=>B_e (F_e n) n [] k) _;unfold B_e F_cj F_ct;exact Y5 [] (partS k) (λn x=>F_aw (F_e n) n x k) (by simp) (by simp)
  |cons p r=>
   exfalso;simp only[szPs,Qad]at d;omega
 |succ m g=>
  intro l d f b;refine Y4 ?_;show Ev (λn=>B_e (F_e n) n l k) _;unfold B_e F_cj F_ct;rw[Qdf];refine Y5 l (partS k) (λn x=>F_aw (F_e n) n x k) (by omega) λp a=>?_;unfold F_aw;rw[QeM];have e:=QaF a;rw[Qad]at e;obtain⟨w1,w2⟩:=Y1 (b p a);refine QbR (λ_=>?_) (λ_=>?_)
  .exact Ea (Ea (QE _ _ _) (Ei λ_=>Qa _)) (Qa _)
  .exact Ea (Ea (QE _ _ _) (Ei λ_=>Ei λ_=>Ei λ_=>Ea (g p.Parts (by omega) w1 w2) (Qa _))) (Qa _)
def legS(k:Int)(l:Leg):Bool:=(inR 0 k l.From&&inR 0 k l.To)&&((inR 0 68719476736 l.Min&&inR 0 68719476736 l.Max)&&decide (l.Min<=l.Max))
def cutS(k:Int)(x:Cutoff):Bool:=inR 0 k x.Mat&&(decide (1<=x.Lap)&&inR 0 1099511627776 x.Limit)
def distS(k:Int)(d:Distance):Bool:=inR 1 3 d.Timing&&(inR (-1) k d.Extra&&(partsS k d.Route&&d.Cutoffs.all (cutS k)))
def offS(o:Offence):Bool:=bif o.Out then(o.Time==0)&&(o.Laps==0)else bif o.Laps != 0 then(o.Time==0)&&inR 1 64 o.Laps else inR 0 68719476736 o.Time
def catS(x:Category):Bool:=(inR 0 120 x.From&&inR 0 120 x.To)&&decide (x.From<=x.To)
def prizeS(c:Course)(p:Prize):Bool:=inR 0 ((c.Distances.length:Int)-1) p.Distance&&(inR (-1) ((c.Categories.length:Int)-1) p.Category&&(inR 1 4000 p.Rank&&inR 1 1125899906842624 p.Amount))
def lastS(c:Course):Bool:=(inR 0 16 c.Faults.Misses&&inR 0 16 c.Faults.Strays)&&((inR 0 4294967296 c.Faults.Window&&inR 0 4294967296 c.Faults.Residual)&&(inR 0 100000 c.Faults.Drift&&(inR 0 1125899906842624 c.Fee&&inR 0 1099511627776 c.Deadline)))
def legKey(l:Leg):Ue:={from_:=l.From,to_:=l.To}
def prizeKey(p:Prize):Ug:={distance:=p.Distance,category:=p.Category,rank:=p.Rank}
def numbersS(c:Course):Bool:=
 let k:=(c.Mats.length:Int)-1
 c.Mats.all (λm=>inR 1 3 m.Kind)&&(c.Legs.all (legS k)&&(decide ((c.Legs.map legKey).Nodup)&&(c.Distances.all (distS k)&&(c.Waves.all (λw=>inR 0 1099511627776 w.Gun)&&(c.Offences.all offS&&(c.Categories.all catS&&(c.Prizes.all (prizeS c)&&(decide ((c.Prizes.map prizeKey).Nodup)&&lastS c))))))))
structure PartsOk (c:Course):Prop where
 len:∀d∈c.Distances,d.Route.length<=1048576
 wf:∀d∈c.Distances,∀x∈d.Route,Part.wf x
theorem QgW(l:List Leg)(b:l.length<=1048576):Ev (λn=>F_cw n l) (decide ((l.map legKey).Nodup)):=by
 unfold F_cw;refine Ea (Qbt l legKey true (by omega) (λi x m a=>?_) (λm=>?_)) ((Qa _).eq ?_)
 .unfold F_ho F_ex;simp only[a.lt,Vp,a.ix,XJ,a.nx];exact Qa _
 .unfold F_ho;simp only[Qco,Vq];exact Qa _
 .rw[XY];simp only[Vy,Vr];have:=Qca legKey true l;rw[<- this.2];omega
theorem Qfc(l:List Prize)(b:l.length<=1048576):Ev (λn=>F_bl n l) (decide ((l.map prizeKey).Nodup)):=by
 unfold F_bl;refine Ea (Qbt l prizeKey true (by omega) (λi x m a=>?_) (λm=>?_)) ((Qa _).eq ?_)
 .unfold F_hr F_dp;simp only[a.lt,Vp,a.ix,XJ,a.nx];exact Qa _
 .unfold F_hr;simp only[Qco,Vq];exact Qa _
 .rw[XY];simp only[Vy,Vr];have:=Qca prizeKey true l;rw[<- this.2];omega
theorem QiU(c:Course)(w:CourseOk c)(q:PartsOk c):Ev (λn=>F_cg n c) (numbersS c):=by
 unfold F_cg numbersS;rw[Qcw w.mats];refine Ea (v:=_) ?_ (Qa _);have e:Ev (λn=>F_de n c.Mats) (c.Mats.all λm=>inR 1 3 m.Kind):=by
  unfold F_de F_fz F_fe;refine Y5 c.Mats _ (λn x=>F_bt n x) (by have:=w.mats;omega) λx a=>?_;unfold F_bt;exact Ea (QE _ _ _) (Qa _)
 have j:Ev (λn=>F_bn n c.Legs ((c.Mats.length:Int)-1)) (c.Legs.all (legS ((c.Mats.length:Int)-1))):=by
  unfold F_bn F_ej F_ds;refine Y5 c.Legs _ (λn x=>F_cm n x _) (by have:=w.legs;omega) λx a=>?_;unfold F_cm;exact Ea (Ea (QaJ _ _ _ _) (Ei λ_=>Ea (QaJ _ _ _ _) (Ei λ_=>Qa _))) (Qa _)
 have d:Ev (λn=>F_dh n c.Distances ((c.Mats.length:Int)-1)) (c.Distances.all (distS ((c.Mats.length:Int)-1))):=by
  unfold F_dh F_eq F_es;refine Y5 c.Distances _ (λn x=>F_cb n x _) (by have:=w.dist;omega) λx a=>?_;unfold F_cb;have f:Ev (λn=>F_cy n x.Cutoffs ((c.Mats.length:Int)-1)) (x.Cutoffs.all (cutS ((c.Mats.length:Int)-1))):=by
   unfold F_cy F_fh F_ek;refine Y5 x.Cutoffs _ (λn x=>F_br n x _) (by have:=w.cut x a;omega) λy k=>?_;unfold F_br;exact Ea (Ea (QE _ _ _) (Ei λ_=>Ei λ_=>Ea (QE _ _ _) (Qa _))) (Qa _)
  exact Ea (Ea (QE _ _ _) (Ei λ_=>Ea (QE _ _ _) (Ei λ_=>Ea (Qmg _ _ x.Route (XT _) (q.len x a) (q.wf x a)) (Ei λ_=>Ea f (Qa _))))) (Qa _)
 have g:Ev (λn=>F_ch n c.Waves) (c.Waves.all λw=>inR 0 1099511627776 w.Gun):=by
  unfold F_ch F_dq F_dr;refine Y5 c.Waves _ (λn x=>F_df n x) (by have:=w.wave;omega) λx a=>?_;unfold F_df;exact Ea (QE _ _ _) (Qa _)
 have h:Ev (λn=>F_bz n c.Offences) (c.Offences.all offS):=by
  unfold F_bz F_gh F_fx;refine Y5 c.Offences _ (λn x=>F_ce n x) (by have:=w.off;omega) λx a=>?_;unfold F_ce offS;refine QbR (λ_=>Ea (Ei λ_=>Qa _) (Qa _)) λ_=>QbR (λ_=>Ea (Ei λ_=>Ea (QE _ _ _) (Qa _)) (Qa _)) λ_=>Ea (QE _ _ _) (Qa _)
 have b:Ev (λn=>F_bh n c.Categories) (c.Categories.all catS):=by
  unfold F_bh F_fc F_dy;refine Y5 c.Categories _ (λn x=>F_da n x) (by have:=w.cat;omega) λx a=>?_;unfold F_da;exact Ea (Ea (QaJ _ _ _ _) (Ei λ_=>Qa _)) (Qa _)
 have i:Ev (λn=>F_dk n c.Prizes c) (c.Prizes.all (prizeS c)):=by
  unfold F_dk F_fp F_gj;refine Y5 c.Prizes _ (λn x=>F_bg n x c) (by have:=w.prize;omega) λx a=>?_;unfold F_bg;rw[Qcw w.dist,Qcw w.cat];exact Ea (Ea (QE _ _ _) (Ei λ_=>Ea (QE _ _ _) (Ei λ_=>Ea (QE _ _ _) (Ei λ_=>Ea (QE _ _ _) (Qa _))))) (Qa _)
 refine Ea e (Ei λ_=>Ea j (Ei λ_=>Ea (QgW _ w.legs) (Ei λ_=>Ea d (Ei λ_=>Ea g (Ei λ_=>Ea h (Ei λ_=>Ea b (Ei λ_=>Ea i (Ei λ_=>Ea (Qfc _ w.prize) (Ei λ_=>?_)))))))));exact Ea (QaJ _ _ _ _) (Ei λ_=>Ea (QaJ _ _ _ _) (Ei λ_=>Ea (QE _ _ _) (Ei λ_=>Ea (QE _ _ _) (Ei λ_=>Ea (QE _ _ _) (Qa _)))))
theorem ends_eq{a b a' d:Int}:(({from_:=a,to_:=b}:Ue)={from_:=a',to_:=d})↔a=a'/\b=d:=by simp
theorem Qk7{α B:Type}{step:Nat->Int->Option (Ctl Int B)}(l:List α)(ok:α->Bool)(a b:B)(j:l.length<=4611686018427387904)
  (g:∀i x,At l i x->Ev (λn=>step n (i:Int)) (bif ok x then .cont ((i+1:Nat):Int)else .done a))(k:Ev (λn=>step n (l.length:Int)) (.done b)):
  Ev (λn=>Go.Sw.iter (step n) n 0) (bif l.all ok then b else a):=by
 have e:(bif l.all ok then b else a)=bif l.any (λx=> !ok x)then a else b:=by
  rw[<- List.not_all_eq_any_not];cases l.all ok<;>rfl
 rw[e];refine QbQ l (λx=> !ok x) (λi=>(i:Int)) a b j rfl (λi x d f=>?_) (λi x d f=>?_) k
 .have h:ok x=true:=by simpa using f
  have:=g i x d
  rwa [h]at this
 .have h:ok x=false:=by simpa using f
  have:=g i x d
  rwa [h]at this
mutual
def cN:Cond->Nat
 |⟨_,_,_,ps⟩=>1+cNs ps
def cNs:List Cond->Nat
 |[]=>0
 |c::r=>cN c+cNs r
end
theorem QcN(c:Cond):cN c=1+cNs c.Parts:=by cases c;rfl
mutual
def cD:Nat->Cond->Bool
 |d,⟨_,_,_,ps⟩=>cDs d ps
def cDs:Nat->List Cond->Bool
 |_,[]=>true
 |d,c::r=>decide (d<=16)&&(cD (d+1) c&&cDs d r)
end
theorem QmB(d:Nat)(c:Cond):cD d c=cDs d c.Parts:=by cases c;rfl
def zeroC(c:Cond):Bool:=(c.Kind==0)&&((c.Var==0)&&((c.N==0)&&((c.Parts.length:Int)==0)))
mutual
def sNp:Step->Nat
 |⟨_,_,_,t,e⟩=>1+sNs t+sNs e
def sNs:List Step->Nat
 |[]=>0
 |s::r=>sNp s+sNs r
end
theorem QfU(s:Step):sNp s=1+sNs s.Then+sNs s.Else:=by cases s;rfl
mutual
def sC:Step->Nat
 |⟨_,_,c,t,e⟩=>(bif zeroC c then 0 else cN c)+sCs t+sCs e
def sCs:List Step->Nat
 |[]=>0
 |s::r=>sC s+sCs r
end
theorem QfV(s:Step):sC s=(bif zeroC s.Cond then 0 else cN s.Cond)+sCs s.Then+sCs s.Else:=by cases s;rfl
mutual
def sDp:Nat->Step->Bool
 |d,⟨_,_,c,t,e⟩=>(zeroC c||cD 1 c)&&(sDs d t&&sDs d e)
def sDs:Nat->List Step->Bool
 |_,[]=>true
 |d,s::r=>decide (d<=16)&&(sDp (d+1) s&&sDs d r)
end
theorem Qju(d:Nat)(s:Step):sDp d s=((zeroC s.Cond||cD 1 s.Cond)&&(sDs d s.Then&&sDs d s.Else)):=by cases s;rfl
mutual
def sZ:Step->Nat
 |⟨_,_,c,t,e⟩=>2+cN c+sZs t+sZs e
def sZs:List Step->Nat
 |[]=>0
 |s::r=>sZ s+sZs r
end
theorem Qht(s:Step):sZ s=2+cN s.Cond+sZs s.Then+sZs s.Else:=by cases s;rfl
def fS:Uf->Nat
 |.ctyping_step x=>sNp x.Step
 |.ctyping_cond _=>0
def fC:Uf->Nat
 |.ctyping_step x=>sC x.Step
 |.ctyping_cond x=>cN x.Cond
def fD(d:Nat):Uf->Bool
 |.ctyping_step x=>sDp d x.Step
 |.ctyping_cond x=>cD d x.Cond
def fZ:Uf->Nat
 |.ctyping_step x=>sZ x.Step
 |.ctyping_cond x=>cN x.Cond
def fSs(l:List Uf):Nat:=(l.map fS).sum
def fCs(l:List Uf):Nat:=(l.map fC).sum
def fZs(l:List Uf):Nat:=(l.map fZ).sum
def fwf:Uf->Prop
 |.ctyping_step x=>Step.wf x.Step
 |.ctyping_cond x=>Cond.wf x.Cond
def ofStep(s:Step):Uf:=.ctyping_step {Step:=s}
def ofCond(c:Cond):Uf:=.ctyping_cond {Cond:=c}
theorem Qa7:∀l:List Step,fSs (l.map ofStep)=sNs l
 |[]=>rfl
 |s::r=>by
  have:=Qa7 r;simp only[fSs,Vj,List.sum_cons]at this⊢;rw[this];rfl
theorem Qa8:∀l:List Step,fCs (l.map ofStep)=sCs l
 |[]=>rfl
 |s::r=>by
  have:=Qa8 r;simp only[fCs,Vj,List.sum_cons]at this⊢;rw[this];rfl
theorem QbJ:∀l:List Step,fZs (l.map ofStep)=sZs l
 |[]=>rfl
 |s::r=>by
  have:=QbJ r;simp only[fZs,Vj,List.sum_cons]at this⊢;rw[this];rfl
theorem Qe8:∀l:List Cond,fSs (l.map ofCond)=0
 |[]=>rfl
 |s::r=>by
  have:=Qe8 r;simp only[fSs,Vj,List.sum_cons]at this⊢;rw[this];rfl
theorem Qfa:∀l:List Cond,fCs (l.map ofCond)=cNs l
 |[]=>rfl
 |s::r=>by
  have:=Qfa r;simp only[fCs,Vj,List.sum_cons]at this⊢;rw[this];rfl
theorem Qe6:∀l:List Cond,fZs (l.map ofCond)=cNs l
 |[]=>rfl
 |s::r=>by
  have:=Qe6 r;simp only[fZs,Vj,List.sum_cons]at this⊢;rw[this];rfl
theorem QcH(d:Nat):∀l:List Step,sDs d l=((l.map ofStep).isEmpty||(decide (d<=16)&&(l.map ofStep).all (fD (d+1))))
 |[]=>rfl
 |s::r=>by
  rw[sDs,QcH d r];simp only[Vj,List.isEmpty_cons,Bool.false_or,List.all_cons];rw[show fD (d+1) (ofStep s)=sDp (d+1) s from rfl];cases r with
  |nil=>simp
  |cons x r=>
   simp only[Vj,List.isEmpty_cons,Bool.false_or,List.all_cons];cases decide (d<=16)<;>simp
theorem QhT(d:Nat):∀l:List Cond,cDs d l=((l.map ofCond).isEmpty||(decide (d<=16)&&(l.map ofCond).all (fD (d+1))))
 |[]=>rfl
 |s::r=>by
  rw[cDs,QhT d r];simp only[Vj,List.isEmpty_cons,Bool.false_or,List.all_cons];rw[show fD (d+1) (ofCond s)=cD (d+1) s from rfl];cases r with
  |nil=>simp
  |cons x r=>
   simp only[Vj,List.isEmpty_cons,Bool.false_or,List.all_cons];cases decide (d<=16)<;>simp
theorem Qaj{c:Cond}(h:Cond.wf c):c.Parts.length<=1048576/\ ∀x∈c.Parts,Cond.wf x:=by
 cases c;simp only[Cond.wf,Qc3]at h;exact h.2.2.2.1
theorem Qai{s:Step}(h:Step.wf s):Cond.wf s.Cond/\(s.Then.length<=1048576/\ ∀x∈s.Then,Step.wf x)/\(s.Else.length<=1048576/\ ∀x∈s.Else,Step.wf x):=by
 cases s;simp only[Step.wf,QcU]at h;exact⟨h.2.2.1,h.2.2.2.1,h.2.2.2.2.1⟩
theorem Qf9(n:Nat)(c:Cond):F_ah n {Cond:=c}=some (zeroC c):=by
 unfold F_ah zeroC;cases(c.Kind==0)<;>cases(c.Var==0)<;>cases(c.N==0)<;>rfl
theorem QiT(n:Nat)(c:Cond):F_dc n c=some (zeroC c):=by
 unfold F_dc zeroC;cases(c.Kind==0)<;>cases(c.Var==0)<;>cases(c.N==0)<;>rfl
theorem Qfb(l:List Step)(a:l.length<=140737488):Ev (λn=>F_ai n l) (l.map ofStep):=by
 unfold F_ai;exact Ea (Qgb l ofStep a) (Qa _)
theorem Qml(l:List Cond)(a:l.length<=140737488):Ev (λn=>F_by n l) (l.map ofCond):=by
 unfold F_by;exact Ea (Qgb l ofCond a) (Qa _)
def stepParts(s:Step):List Uf:=s.Then.map ofStep++s.Else.map ofStep
theorem Qbm(s:Step)(h:Step.wf s):Ev (λn=>F_x n {Step:=s}) (stepParts s):=by
 obtain⟨_,⟨a,_⟩,⟨b,_⟩⟩:=Qai h;unfold F_x stepParts;refine Ea (Qfb s.Then (by omega)) (Ea (Qfb s.Else (by omega)) (QaP (Qie _ _ (by simp;omega)) (Qa _)))
theorem QcJ(c:Cond)(h:Cond.wf c):Ev (λn=>F_u n {Cond:=c}) (c.Parts.map ofCond):=by
 obtain⟨a,_⟩:=Qaj h;unfold F_u;exact Ea (Qml c.Parts (by omega)) (Qa _)
def okL(l:List Uf)(d:Nat)(st co:Int):Bool:=l.isEmpty||(decide (d<=16)&&(l.all (fD (d+1))&&(decide (st+fSs l<=64)&&decide (co+fCs l<=256))))
def okR(l:List Uf)(d:Nat)(st co:Int):Bool:=l.isEmpty||(l.all (fD (d+1))&&(decide (st+fSs l<=64)&&decide (co+fCs l<=256)))
def okF(f:Uf)(d:Nat)(st co:Int):Bool:=fD (d+1) f&&(decide (st+fS f<=64)&&decide (co+fC f<=256))
theorem QhS(f:Uf)(l:List Uf):fSs (f::l)=fS f+fSs l:=rfl
theorem QhU(f:Uf)(l:List Uf):fCs (f::l)=fC f+fCs l:=rfl
theorem QhR(f:Uf)(l:List Uf):fZs (f::l)=fZ f+fZs l:=rfl
theorem Qe7(l m:List Uf):fSs (l++m)=fSs l+fSs m:=by simp[fSs]
theorem Qe9(l m:List Uf):fCs (l++m)=fCs l+fCs m:=by simp[fCs]
theorem Qe5(l m:List Uf):fZs (l++m)=fZs l+fZs m:=by simp[fZs]
theorem QlL(f:Uf)(r:List Uf)(d:Nat)(b h:Int):okR (f::r) d b h=(okF f d b h&&okR r d (b+fS f) (h+fC f)):=by
 unfold okR okF;rw[QhS,QhU];cases r with
 |nil=>simp[fSs,fCs]
 |cons g r=>
  rw[XY];simp only[List.isEmpty_cons,Bool.false_or,List.all_cons,XW,Vr];rw[show((fS f+fSs (g::r):Nat):Int)=(fS f:Int)+(fSs (g::r):Int)by omega,show((fC f+fCs (g::r):Nat):Int)=(fC f:Int)+(fCs (g::r):Int)by omega];constructor
  .rintro⟨⟨a,e⟩,i,j⟩;exact⟨⟨a,by omega,by omega⟩,e,by omega,by omega⟩
  .rintro⟨⟨a,_,_⟩,e,i,j⟩;exact⟨⟨a,e⟩,by omega,by omega⟩
theorem QgH(l:List Uf)(d:Nat)(g h:Int)(i:g<=64)(j:h<=256):okL l d g h=true↔(l.isEmpty||(decide (d<=16)&&l.all (fD (d+1))))=true/\g+fSs l<=64/\h+fCs l<=256:=by
 unfold okL;cases l with
 |nil=>simp[fSs,fCs,i,j]
 |cons f r=>
  simp only[List.isEmpty_cons,Bool.false_or,XW,Vr];constructor
  .rintro⟨a,b,c,e⟩;exact⟨⟨a,b⟩,c,e⟩
  .rintro⟨⟨a,b⟩,c,e⟩;exact⟨a,b,c,e⟩
theorem Qey(s:Step)(d:Nat):((stepParts s).isEmpty||(decide (d<=16)&&(stepParts s).all (fD (d+1))))=(sDs d s.Then&&sDs d s.Else):=by
 rw[QcH,QcH];unfold stepParts;rw[List.all_append];cases a:s.Then<;>cases b:s.Else<;>simp<;>(cases decide (d<=16)<;>simp)
def Cnt(R:Nat->List Uf->Int->Ud->Option (Ud×Bool))(l:List Uf)(d:Nat)(st co:Int):Prop:=
 ∃c':Ud,Ev (λn=>R n l (d:Int) {steps:=st,conds:=co}) (c',okL l d st co)/\(okL l d st co=true->c'={steps:=st+fSs l,conds:=co+fCs l})
theorem Qi3{R:Nat->List Uf->Int->Ud->Option (Ud×Bool)}{l:List Uf}{d:Nat}(hd:d<=16){i:Nat}{f:Uf}(W:At l i f)(hw:fwf f)
  (ih:∀l' d' a e,fZs l'<fZ f->l'.length<=2097152->(∀f∈l',fwf f)->d'<=17->0<=a->a<=66->(a<=65\/ ∀f∈l',∃c,f=ofCond c)->0<=e->e<=256->Cnt R l' d' a e){a e:Int}(h0:0<=a)(ad:a<=66)(u:a<=65\/ ∃c,f=ofCond c)(h2:0<=e)(h3:e<=256):
  ∃c':Ud,Ev (λn=>F_gk n l (d:Int) (R n) ({steps:=a,conds:=e},(i:Int))) (bif okF f d a e then .cont (c',((i+1:Nat):Int))else .done (.done (c',false)))/\(okF f d a e=true->c'={steps:=a+fS f,conds:=e+fC f}):=by
 unfold F_gk;simp only[W.lt,Vp,W.ix,XJ,W.nx];have ed:IntKind.i64.wrap ((d:Int)+1)=((d+1:Nat):Int):=QC (by omega);cases f with
 |ctyping_step x=>
  obtain⟨s⟩:=x;have h1:a<=65:=by
   rcases u with h|⟨c,h⟩
   .exact h
   .cases h
  have k:Step.wf s:=hw;obtain⟨wc,⟨ab,T⟩,⟨aa,V⟩⟩:=Qai k;have L:IntKind.i64.wrap (a+1)=a+1:=Qo (by omega) (by omega);simp only[Uf.elim,Qf9,XJ,L];have hc:∃t:Ud,Ev (λn=>((bif (!zeroC s.Cond)then(R n [Uf.ctyping_cond {Cond:=s.Cond}] 0 {steps:=a+1,conds:=e}).bind λm=>some (m.1,(!m.2))else some ({steps:=a+1,conds:=e},false)):Option (Ud×Bool))) (t, !(zeroC s.Cond||(cD 1 s.Cond&&(decide (a+1<=64)&&decide (e+cN s.Cond<=256)))))/\
    ((zeroC s.Cond||(cD 1 s.Cond&&(decide (a+1<=64)&&decide (e+cN s.Cond<=256))))=true->t={steps:=a+1,conds:=e+((bif zeroC s.Cond then 0 else cN s.Cond:Nat):Int)}):=by
   cases F:zeroC s.Cond with
   |true=>
    refine⟨{steps:=a+1,conds:=e},?_,λ_=>?_⟩
    .exact Qa _
    .simp
   |false=>
    obtain⟨t,p,E⟩:=ih [ofCond s.Cond] 0 (a+1) e (by simp only[fZs,Vj,Vk,List.sum_cons,List.sum_nil];show cN s.Cond+0<sZ s;rw[Qht];omega) (by simp) (by intro g j;simp only[VB]at j;subst j;exact wc) (by omega) (by omega) (by omega) (.inr (by intro g j;simp only[VB]at j;exact⟨_,j⟩)) h2 h3;have ek:okL [ofCond s.Cond] 0 (a+1) e=(cD 1 s.Cond&&(decide (a+1<=64)&&decide (e+cN s.Cond<=256))):=by
     unfold okL;simp only[List.isEmpty_cons,Bool.false_or,List.all_cons,List.all_nil,Bool.and_true,fSs,fCs,Vj,Vk,List.sum_cons,List.sum_nil];rw[show fD (0+1) (ofCond s.Cond)=cD 1 s.Cond from rfl,show fS (ofCond s.Cond)=0 from rfl,show fC (ofCond s.Cond)=cN s.Cond from rfl];simp
    rw[ek]at p E;refine⟨t,Ea p (Qa _),λh=>?_⟩;rw[E h];simp[fSs,fCs,show fS (ofCond s.Cond)=0 from rfl,show fC (ofCond s.Cond)=cN s.Cond from rfl]
  obtain⟨t,p,E⟩:=hc;generalize hb:(zeroC s.Cond||(cD 1 s.Cond&&(decide (a+1<=64)&&decide (e+cN s.Cond<=256))))=b at p E;have X:okF (Uf.ctyping_step {Step:=s}) d a e=(sDp (d+1) s&&(decide (a+sNp s<=64)&&decide (e+sC s<=256))):=rfl;rw[X];cases b with
  |false=>
   have:(sDp (d+1) s&&(decide (a+sNp s<=64)&&decide (e+sC s<=256)))=false:=by
    rw[VM];intro hh;simp only[XW,Vr,Qju,QfU,QfV]at hh;obtain⟨⟨J,_⟩,z2,z3⟩:=hh;cases F:zeroC s.Cond with
    |true=>rw[F]at hb;cases hb
    |false=>
     rw[F]at hb J z3;simp only[Bool.false_or]at hb J;rw[J]at hb;simp only[Vq]at z3;rw[QO (show a+1<=64 by omega),QO (show e+(cN s.Cond:Int)<=256 by omega)]at hb;cases hb
   rw[this];exact⟨t,Ea p (Qa _),λh=>by cases h⟩
  |true=>
   obtain rfl:=E rfl;by_cases r:64<a+1
   .have:(sDp (d+1) s&&(decide (a+sNp s<=64)&&decide (e+sC s<=256)))=false:=by
     rw[QG (show¬a+(sNp s:Int)<=64 by rw[QfU];omega)];simp
    rw[this];refine⟨{steps:=a+1,conds:=e+((bif zeroC s.Cond then 0 else cN s.Cond:Nat):Int)},Ea p ?_,λh=>by cases h⟩;simp only[Xg,Vq];refine Ea (v:=(_,true)) ?_ (Qa _);rw[QO r];exact Qa _
   by_cases G:256<e+((bif zeroC s.Cond then 0 else cN s.Cond:Nat):Int)
   .have:(sDp (d+1) s&&(decide (a+sNp s<=64)&&decide (e+sC s<=256)))=false:=by
     rw[QG (show¬e+(sC s:Int)<=256 by rw[QfV];omega)];simp
    rw[this];refine⟨{steps:=a+1,conds:=e+((bif zeroC s.Cond then 0 else cN s.Cond:Nat):Int)},Ea p ?_,λh=>by cases h⟩;simp only[Xg,Vq];refine Ea (v:=(_,true)) ?_ (Qa _);rw[QG r,QO G];exact Qa _
   obtain⟨H,w,z⟩:=ih (stepParts s) (d+1) (a+1) (e+((bif zeroC s.Cond then 0 else cN s.Cond:Nat):Int)) (by
     unfold stepParts;rw[Qe5,QbJ,QbJ];show _<sZ s;rw[Qht];omega) (by unfold stepParts;simp;omega) (by
     intro g j;unfold stepParts at j;rcases VD.1 j with j|j
     .obtain⟨y,B,rfl⟩:=Xe.1 j;exact T y B
     .obtain⟨y,B,rfl⟩:=Xe.1 j;exact V y B) (by omega) (by omega) (by omega) (.inl (by omega)) (by omega) (by omega)
   have eL:okL (stepParts s) (d+1) (a+1) (e+((bif zeroC s.Cond then 0 else cN s.Cond:Nat):Int))=(sDp (d+1) s&&(decide (a+sNp s<=64)&&decide (e+sC s<=256))):=by
    rw[XY,QgH _ _ _ _ (by omega) (by omega),Qey];simp only[XW,Vr,Qju,QfU,QfV];have N:fSs (stepParts s)=sNs s.Then+sNs s.Else:=by unfold stepParts;rw[Qe7,Qa7,Qa7]
    have M:fCs (stepParts s)=sCs s.Then+sCs s.Else:=by unfold stepParts;rw[Qe9,Qa8,Qa8]
    rw[N,M];have Y:(zeroC s.Cond||cD 1 s.Cond)=true:=by
     cases F:zeroC s.Cond with
     |true=>rfl
     |false=>
      rw[F]at hb;simp only[Bool.false_or,XW]at hb;rw[hb.1];rfl
    constructor
    .rintro⟨q,P,Q⟩;exact⟨⟨Y,q⟩,by omega,by omega⟩
    .rintro⟨⟨_,q⟩,P,Q⟩;exact⟨q,by omega,by omega⟩
   rw[eL]at w z;refine⟨H,Ea p ?_,λh=>?_⟩
   .simp only[Xg,Vq];refine Ea (v:=(H, !(sDp (d+1) s&&(decide (a+sNp s<=64)&&decide (e+sC s<=256))))) ?_ ?_
    .rw[QG r,QG G,ed];exact Ea (Qbm s k) (Ea w (Qa _))
    .cases(sDp (d+1) s&&(decide (a+sNp s<=64)&&decide (e+sC s<=256)))<;>exact Qa _
   .rw[z h];have N:fSs (stepParts s)=sNs s.Then+sNs s.Else:=by unfold stepParts;rw[Qe7,Qa7,Qa7]
    have M:fCs (stepParts s)=sCs s.Then+sCs s.Else:=by unfold stepParts;rw[Qe9,Qa8,Qa8]
    rw[N,M,show fS (Uf.ctyping_step {Step:=s})=sNp s from rfl,show fC (Uf.ctyping_step {Step:=s})=sC s from rfl,QfU,QfV];congr 1<;>omega
 |ctyping_cond x=>
  obtain⟨c⟩:=x;have k:Cond.wf c:=hw;obtain⟨ac,O⟩:=Qaj k;have L:IntKind.i64.wrap (e+1)=e+1:=Qo (by omega) (by omega);simp only[Uf.elim,L];have X:okF (Uf.ctyping_cond {Cond:=c}) d a e=(cD (d+1) c&&(decide (a<=64)&&decide (e+cN c<=256))):=by
   show(cD (d+1) c&&(decide (a+((0:Nat):Int)<=64)&&decide (e+cN c<=256)))=_;rw[show a+((0:Nat):Int)=a by omega]
  rw[X];by_cases r:64<a
  .have:(cD (d+1) c&&(decide (a<=64)&&decide (e+cN c<=256)))=false:=by
    rw[QG (show¬a<=64 by omega)];simp
   rw[this];refine⟨{steps:=a,conds:=e+1},?_,λh=>by cases h⟩;refine Ea (v:=(_,true)) ?_ (Qa _);rw[QO r];exact Qa _
  by_cases G:256<e+1
  .have:(cD (d+1) c&&(decide (a<=64)&&decide (e+cN c<=256)))=false:=by
    rw[QG (show¬e+(cN c:Int)<=256 by rw[QcN];omega)];simp
   rw[this];refine⟨{steps:=a,conds:=e+1},?_,λh=>by cases h⟩;refine Ea (v:=(_,true)) ?_ (Qa _);rw[QG r,QO G];exact Qa _
  obtain⟨H,w,z⟩:=ih (c.Parts.map ofCond) (d+1) a (e+1) (by
    rw[Qe6];show _<cN c;rw[QcN];omega) (by simp;omega) (by
    intro g j;obtain⟨y,B,rfl⟩:=Xe.1 j;exact O y B) (by omega) (by omega) (by omega) (.inl (by omega)) (by omega) (by omega)
  have eL:okL (c.Parts.map ofCond) (d+1) a (e+1)=(cD (d+1) c&&(decide (a<=64)&&decide (e+cN c<=256))):=by
   rw[XY,QgH _ _ _ _ (by omega) (by omega), <- QhT,Qe8,Qfa];simp only[XW,Vr,QmB,QcN];constructor
   .rintro⟨q,P,Q⟩;exact⟨q,by omega,by omega⟩
   .rintro⟨q,P,Q⟩;exact⟨q,by omega,by omega⟩
  rw[eL]at w z;refine⟨H,?_,λh=>?_⟩
  .refine Ea (v:=(H, !(cD (d+1) c&&(decide (a<=64)&&decide (e+cN c<=256))))) ?_ ?_
   .rw[QG r,QG G,ed];exact Ea (QcJ c k) (Ea w (Qa _))
   .cases(cD (d+1) c&&(decide (a<=64)&&decide (e+cN c<=256)))<;>exact Qa _
  .rw[z h,Qe8,Qfa,show fS (Uf.ctyping_cond {Cond:=c})=0 from rfl,show fC (Uf.ctyping_cond {Cond:=c})=cN c from rfl,QcN];congr 1;omega
theorem Qmk:∀(m:Nat) (l:List Uf) (d:Nat) (a b:Int),fZs l<=m->l.length<=2097152->(∀f∈l,fwf f)->d<=17->0<=a->a<=66->(a<=65\/ ∀f∈l,∃c,f=ofCond c)->0<=b->b<=256->Cnt F_c l d a b:=by
 intro m
 induction m using Nat.strongRecOn with
 |_ m H=>
 intro l d a b hm hl hw hd T Y F V h3;unfold Cnt;have E:∀c:Ud,(∃e:Ud,Ev (λn=>B_c (F_c n) n l (d:Int) c) (e,okL l d a b)/\(okL l d a b=true->e={steps:=a+fSs l,conds:=b+fCs l}))->∃e:Ud,Ev (λn=>F_c n l (d:Int) c) (e,okL l d a b)/\(okL l d a b=true->e={steps:=a+fSs l,conds:=b+fCs l}):=by
  rintro c ⟨e,q1,q2⟩;exact⟨e,Y4 q1,q2⟩
 refine E _ ?_;unfold B_c;cases j:l with
 |nil=>
  refine⟨{steps:=a,conds:=b},?_,λ_=>by simp[fSs,fCs]⟩;refine Ea (v:=false) (Qa _) (Q7 ?_);refine Ea (v:=Ctl.cont {steps:=a,conds:=b}) (EvI.ev (Ej ?_)) (Qa _);exact Qa _
 |cons f0 r0=>
 rw[<- j];have B:l.isEmpty=false:=by rw[j];rfl
 have L:0<l.length:=by rw[j];simp
 by_cases g:d<=16
 rotate_left
 .have:okL l d a b=false:=by unfold okL;rw[B,QG g];rfl
  rw[this];refine⟨{steps:=a,conds:=b},?_,λh=>by cases h⟩;rw[QO (show(0:Int)<(l.length:Int)by omega),QO (show(16:Int)<(d:Int)by omega)];exact Ea (Qa _) (Qa _)
 have u:okL l d a b=okR l d a b:=by unfold okL okR;rw[QO g,VA]
 rw[u];have loop:∀(r:List Uf) (i:Nat) (a b:Int),l.drop i=r->i<=l.length->0<=a->a<=66->(a<=65\/ ∀f∈l,∃c,f=ofCond c)->0<=b->b<=256->
   ∃e:Ud,EvI (λn=>F_gk n l (d:Int) (F_c n)) ({steps:=a,conds:=b},(i:Int)) (bif okR r d a b then Ctl.cont e else Ctl.done (e,false))/\(okR r d a b=true->e={steps:=a+fSs r,conds:=b+fCs r}):=by
  intro r
  induction r with
  |nil=>
   intro i a b w M _ _ _ _ _;refine⟨{steps:=a,conds:=b},Ej ?_,λ_=>by simp[fSs,fCs]⟩;unfold F_gk;simp only[Yx w M,Vq];exact Qa _
  |cons f r z=>
   intro i a b w M P g1 G g2 X;obtain⟨q,y⟩:=QN (by omega) w;have aa:fZ f<=fZs l:=by
    have:∀(l:List Uf),f∈l->fZ f<=fZs l:=by
     intro l
     induction l with
     |nil=>intro h;cases h
     |cons x l H=>
      intro h;rw[QhR];rcases X6.1 h with rfl|h
      .omega
      .have:=H h;omega
    exact this l q.mem
   obtain⟨e,k,s⟩:=Qi3 (R:=F_c) g q (hw f q.mem) (λJ d' a b k1 N k3 k4 k5 Q t k7 O=>H (fZs J) (by omega) J d' a b (XT _) N k3 k4 k5 Q t k7 O) P g1 (G.imp id λh=>h f q.mem) g2 X;rw[QlL];cases p:okF f d a b with
   |false=>
    rw[p]at k;exact⟨e,Ej k,λh=>by cases h⟩
   |true=>
    rw[p]at k;obtain rfl:=s p;have hb:a+fS f<=64/\b+fC f<=256:=by
     unfold okF at p;simp only[XW,Vr]at p;exact p.2
    obtain⟨c2,u1,W⟩:=z (i+1) (a+fS f) (b+fC f) y (by have:=q.lt';omega) (by omega) (by omega) (.inl (by omega)) (by omega) (by omega);refine⟨c2,Ew k u1,λh=>?_⟩;rw[W (by simpa using h),QhS,QhU];congr 1<;>omega
 obtain⟨e,k,s⟩:=loop l 0 a b rfl (XU _) T Y F V h3;refine⟨e,?_,s⟩;refine Ea (v:=false) ?_ (Q7 (Ea k.ev ?_))
 .rw[QO (show(0:Int)<(l.length:Int)by omega),QG (show¬(16:Int)<(d:Int)by omega)];exact Qa _
 .cases okR l d a b<;>exact Qa _
mutual
def vaC:Cond->Bool
 |⟨k,v,n,ps⟩=>bif k==1 then inR 1 3 v&&(inR 0 10000 n&&((ps.length:Int)==0))else
   bif k==4 then((v==0)&&(n==0))&&(((ps.length:Int)==1)&&vaCs ps)else
   bif (k==2)||(k==3)then((v==0)&&(n==0))&&((decide (0<(ps.length:Int))&&decide ((ps.length:Int)<=16))&&vaCs ps)else false
def vaCs:List Cond->Bool
 |[]=>true
 |c::r=>vaC c&&vaCs r
end
theorem Qoq(c:Cond):vaC c=bif c.Kind==1 then inR 1 3 c.Var&&(inR 0 10000 c.N&&((c.Parts.length:Int)==0))else
   bif c.Kind==4 then((c.Var==0)&&(c.N==0))&&(((c.Parts.length:Int)==1)&&vaCs c.Parts)else
   bif (c.Kind==2)||(c.Kind==3)then((c.Var==0)&&(c.N==0))&&((decide (0<(c.Parts.length:Int))&&decide ((c.Parts.length:Int)<=16))&&vaCs c.Parts)else false:=by cases c;rfl
theorem Qjm:∀l:List Cond,vaCs l=l.all vaC
 |[]=>rfl
 |c::r=>by rw[vaCs,List.all_cons,Qjm r]
mutual
def vaS:Step->Bool
 |⟨k,b,c,t,e⟩=>bif k==1 then inR 1 5 b&&(zeroC c&&(((t.length:Int)==0)&&((e.length:Int)==0)))else
   bif k==2 then(b==0)&&(vaC c&&(decide (0<(t.length:Int))&&(vaSs t&&vaSs e)))else false
def vaSs:List Step->Bool
 |[]=>true
 |s::r=>vaS s&&vaSs r
end
theorem Qop(s:Step):vaS s=bif s.Kind==1 then inR 1 5 s.By&&(zeroC s.Cond&&(((s.Then.length:Int)==0)&&((s.Else.length:Int)==0)))else
   bif s.Kind==2 then(s.By==0)&&(vaC s.Cond&&(decide (0<(s.Then.length:Int))&&(vaSs s.Then&&vaSs s.Else)))else false:=by cases s;rfl
theorem Qjl:∀l:List Step,vaSs l=l.all vaS
 |[]=>rfl
 |c::r=>by rw[vaSs,List.all_cons,Qjl r]
def fV:Uf->Bool
 |.ctyping_step x=>vaS x.Step
 |.ctyping_cond x=>vaC x.Cond
theorem Qi9(l:List Cond):(l.map ofCond).any (λf=> !fV f)= !vaCs l:=by
 rw[Qjm,List.not_all_eq_any_not,List.any_map];rfl
theorem Qcq(l:List Step):(l.map ofStep).any (λf=> !fV f)= !vaSs l:=by
 rw[Qjl,List.not_all_eq_any_not,List.any_map];rfl
theorem Qf8{R:Nat->List Uf->Option Bool}(c:Cond)(i:Cond.wf c)(j:Ev (λn=>R n (c.Parts.map ofCond)) (!vaCs c.Parts)):
  Ev (λn=>F_cq (R n) n {Cond:=c}) (vaC c):=by
 unfold F_cq;rw[Qoq];refine Ea (v:=(c.Var==0)&&(c.N==0)) (Ei λ_=>Qa _) ?_;refine QbR (λ_=>?_) (λl=>?_)
 .exact Ea (Ea (QE _ _ _) (Ei λ_=>Ea (QE _ _ _) (Ei λ_=>Qa _))) (Qa _)
 .have fin:∀b:Bool,Ev (λn=>((bif b then(F_u n {Cond:=c}).bind λd=>(R n d).bind λf=>some (!f)else some false):Option Bool).bind λg=>some g) (b&&vaCs c.Parts):=by
   intro b;refine Ea ((Ei λ_=>Ea (QcJ c i) (Ea j (Qa _)))) ((Qa _).eq (by simp))
  cases k:(c.Kind==4)with
  |true=>
   simp only[Vp];cases h:((c.Var==0)&&(c.N==0))with
   |true=>
    refine Ea (v:=Ctl.cont ((c.Parts.length:Int)==1)) (Qa _) ((fin _).eq (by simp))
   |false=>
    refine Ea (v:=Ctl.cont false) (Qa _) ((fin _).eq (by simp))
  |false=>
   simp only[Vq];cases a:((c.Kind==2)||(c.Kind==3))with
   |true=>
    simp only[Vp];have e:Ev (λn:Nat=>((bif (c.Kind==2)then some (c.Kind==2)else some (c.Kind==3)):Option Bool)) true:=by
     refine Ez ?_;rw[QmC,a]
    cases h:((c.Var==0)&&(c.N==0))with
    |true=>
     cases m:decide (0<(c.Parts.length:Int))with
     |true=>
      refine Ea (v:=Ctl.cont (decide ((c.Parts.length:Int)<=16))) (Ea e (Qa _)) ((fin _).eq (by simp))
     |false=>
      refine Ea (v:=Ctl.cont false) (Ea e (Qa _)) ((fin _).eq (by simp))
    |false=>
     refine Ea (v:=Ctl.cont false) (Ea e (Qa _)) ((fin _).eq (by simp))
   |false=>
    have e:Ev (λn:Nat=>((bif (c.Kind==2)then some (c.Kind==2)else some (c.Kind==3)):Option Bool)) false:=by
     refine Ez ?_;rw[QmC,a]
    refine Ea (v:=Ctl.done false) (Ea e (Qa _)) (Qa _)
theorem QiW:∀(m:Nat) (l:List Uf),fZs l<=m->l.length<=2097152->(∀f∈l,fwf f)->Ev (λn=>F_h n l) (l.any λf=> !fV f):=by
 intro m
 induction m using Nat.strongRecOn with
 |_ m j=>
 intro l G E t;refine Y4 ?_;show Ev (λn=>B_h (F_h n) n l) _;unfold B_h F_fv;refine Ev.contains l _ (λn f=>F_dg (F_h n) n f) (by omega) λf k=>?_;have z:fZ f<=fZs l:=by
  have:∀(l:List Uf),f∈l->fZ f<=fZs l:=by
   intro l
   induction l with
   |nil=>intro h;cases h
   |cons x l j=>
    intro h;rw[QhR];rcases X6.1 h with rfl|h
    .omega
    .have:=j h;omega
  exact this l k
 unfold F_dg;refine Ea (v:=fV f) ?_ (Qa _);have a:∀c:Cond,Cond.wf c->cNs c.Parts<fZ f->Ev (λn=>F_h n (c.Parts.map ofCond)) (!vaCs c.Parts):=by
  intro c i e;rw[<- Qi9];obtain⟨w1,w2⟩:=Qaj i;refine j (fZs (c.Parts.map ofCond)) (by rw[Qe6];omega) _ (XT _) (by simp;omega) ?_;intro g b;obtain⟨y,d,rfl⟩:=Xe.1 b;exact w2 y d
 cases f with
 |ctyping_cond x=>
  obtain⟨c⟩:=x;have i:Cond.wf c:=t _ k;exact Qf8 (R:=F_h) c i (a c i (by show cNs c.Parts<cN c;rw[QcN];omega))
 |ctyping_step x=>
  obtain⟨s⟩:=x;have e:Step.wf s:=t _ k;obtain⟨r,⟨w,p⟩,⟨u,q⟩⟩:=Qai e;unfold F_fo;show Ev _ (vaS s);rw[Qop];simp only[Uf.elim];refine QbR (λ_=>?_) (λB=>QbR (λ_=>?_) λ_=>Qa _)
  .refine Ea (Ea (QE _ _ _) (Ei λ_=>?_)) (Qa _);simp only[Qf9,XJ];refine Ei λ_=>Ea (Qbm s e) ((Qa _).eq ?_);unfold stepParts;rw[XY];simp only[Vy,XW,X3,X2];omega
  .refine Ea (Ei λ_=>?_) (Qa _);refine Ea (Qf8 (R:=F_h) s.Cond r (a s.Cond r (by show _<sZ s;rw[Qht,QcN];omega))) (Ei λ_=>Ei λ_=>?_);refine Ea (Qbm s e) (Ea (j (fZs (stepParts s)) ?_ _ (XT _) (by unfold stepParts;simp;omega) ?_) ((Qa _).eq ?_))
   .have:fZs (stepParts s)<sZ s:=by
     unfold stepParts;rw[Qe5,QbJ,QbJ,Qht];omega
    have F:fZ (Uf.ctyping_step {Step:=s})=sZ s:=rfl;omega
   .intro g b;unfold stepParts at b;rcases VD.1 b with b|b
    .obtain⟨y,d,rfl⟩:=Xe.1 b;exact p y d
    .obtain⟨y,d,rfl⟩:=Xe.1 b;exact q y d
   .unfold stepParts;rw[List.any_append,Qcq,Qcq];simp
def goodT(l:List Step):Bool:=sDs 0 l&&(decide (sNs l<=64)&&decide (sCs l<=256))
def tiesE(l:List Step):Int:=bif goodT l then(bif l.isEmpty|| !vaSs l then 71 else 0)else 2
theorem QlM(l:List Step):okL (l.map ofStep) 0 0 0=goodT l:=by
 rw[XY,QgH _ _ _ _ (by omega) (by omega), <- QcH,Qa7,Qa8];unfold goodT;simp only[XW,Vr];constructor
 .rintro⟨a,b,c⟩;exact⟨a,by omega,by omega⟩
 .rintro⟨a,b,c⟩;exact⟨a,by omega,by omega⟩
theorem QnK(l:List Step)(p:l.length<=1048576)(k:∀x∈l,Step.wf x):Ev (λn=>F_cp n l) (tiesE l):=by
 unfold F_cp;refine Ea (Qfb l (by omega)) (Ea (v:=tiesE l) ?_ (Qa _));have a:∀f∈l.map ofStep,fwf f:=by
  intro g h;obtain⟨y,j,rfl⟩:=Xe.1 h;exact k y j
 obtain⟨i,b,m⟩:=Qmk _ (l.map ofStep) 0 0 0 (XT _) (by simp;omega) a (by omega) (by omega) (by omega) (.inl (by omega)) (by omega) (by omega);rw[QlM]at b;unfold F_dt;have d:Ev (λn=>F_fy n (l.map ofStep) 0 {steps:=0,conds:=0}) (i,goodT l):=b.shift;refine Ea d ?_;unfold tiesE;cases goodT l with
 |false=>exact Qa _
 |true=>
  simp only[Xg,Vq,Vp];have e:(((l.map ofStep).length:Int)==0)=l.isEmpty:=by
   cases l<;>simp;omega
  rw[e];refine Ea (Eu λ_=>Ea (QiW _ _ (XT _) (by simp;omega) a) (Qa _)) ?_;rw[Qcq];cases(l.isEmpty|| !vaSs l)<;>exact Qa _
def condB(d:Nat):Int:=256*(18-(d:Int))+1000
theorem QfK:∀(m:Nat) (c:Cond) (d:Nat),cN c<=m->d<=17->Cond.wf c->∃v:Int,Ev (λn=>F_l n c (d:Int)) v/\0<=v/\v<=condB d/\
  (d<=16/\cD (d+1) c=true/\cN c<=256->v=cN c)/\(¬(d<=16/\cD (d+1) c=true/\cN c<=256)->256<v):=by
 intro m
 induction m using Nat.strongRecOn with
 |_ m J=>
 intro c d hm hd V;obtain⟨Q,B⟩:=Qaj V;have H:∀{P:Int->Prop},(∃v:Int,Ev (λn=>B_l (F_l n) n c (d:Int)) v/\P v)->∃v:Int,Ev (λn=>F_l n c (d:Int)) v/\P v:=by
  rintro P ⟨v,g,b⟩;exact⟨v,Y4 g,b⟩
 refine H ?_;unfold B_l;by_cases j:d<=16
 .rw[QG (show¬(16:Int)<(d:Int)by omega)];have Y:IntKind.i64.wrap ((d:Int)+1)=((d+1:Nat):Int):=QC (by omega);have loop:∀(r:List Cond) (i:Nat) (a:Int),c.Parts.drop i=r->i<=c.Parts.length->0<=a->a<=condB d->
    ∃v:Int,EvI (λn=>F_fa n c (d:Int) (F_l n)) (a,(i:Int)) v/\0<=v/\v<=condB d/\
     (cDs (d+1) r=true/\a+cNs r<=256->v=a+cNs r)/\(¬(cDs (d+1) r=true/\a+cNs r<=256)->256<v):=by
   intro r
   induction r with
   |nil=>
    intro i a t M s g;refine⟨a,Ej ?_,s,g,λ_=>by simp[cNs],λh=>?_⟩
    .unfold F_fa;simp only[Yx t M,Vq,XJ];exact Qa _
    .simp[cDs,cNs]at h;omega
   |cons x r z=>
    intro i a t M s g;obtain⟨f,u⟩:=QN (by omega) t;have hx:cN x<cN c:=by
     have:∀l:List Cond,x∈l->cN x<=cNs l:=by
      intro l
      induction l with
      |nil=>intro h;cases h
      |cons y l J=>
       intro h;rw[cNs];rcases X6.1 h with rfl|h
       .omega
       .have:=J h;omega
     have:=this _ f.mem;rw[QcN c];omega
    by_cases e:a<=256
    .obtain⟨v,q,L,N,k,F⟩:=J (cN x) (by omega) x (d+1) (XT _) (by omega) (B x f.mem);have hB:condB (d+1)+256=condB d:=by unfold condB;omega
     have T:condB d<=6000:=by unfold condB;omega
     have R:IntKind.i64.wrap (a+v)=a+v:=Qo (by omega) (by omega);obtain⟨w,q1,X,q3,W,O⟩:=z (i+1) (a+v) u (by have:=f.lt';omega) (by omega) (by omega);refine⟨w,Ew ?_ q1,X,q3,?_,?_⟩
     .unfold F_fa;simp only[f.lt,Vp,QO e,XJ,f.ix,f.nx,Y];refine Ea q ?_;rw[R];exact Qa _
     .rintro⟨b,E⟩;simp only[cDs,XW,Vr]at b;rw[cNs]at E⊢;have:=k ⟨b.1,b.2.1,by omega⟩;subst this;rw[W ⟨b.2.2,by omega⟩];omega
     .intro G;by_cases p:d+1<=16/\cD (d+1+1) x=true/\cN x<=256
      .have:=k p;subst this;refine O λb=>G ⟨?_,?_⟩
       .simp only[cDs,XW,Vr];exact⟨p.1,p.2.1,b.1⟩
       .rw[cNs];omega
      .have:=F p;exact O λb=>by omega
    .refine⟨a,Ej ?_,s,g,λh=>?_,λ_=>by omega⟩
     .unfold F_fa;simp only[f.lt,Vp,QG e,XJ,Vq];exact Qa _
     .omega
  obtain⟨v,q,L,N,k,F⟩:=loop c.Parts 0 1 rfl (XU _) (by omega) (by unfold condB;omega);refine⟨v,Q7 (Ea q.ev (Qa _)),L,N,?_,?_⟩
  .rintro⟨_,b,E⟩;rw[QmB]at b;rw[QcN]at E⊢;rw[k ⟨b,by omega⟩];omega
  .intro G;refine F λh=>G ⟨j,by rw[QmB];exact h.1,by rw[QcN];omega⟩
 .rw[QO (show(16:Int)<(d:Int)by omega)];refine⟨1000,Qj5 (Qa _),by omega,by unfold condB;omega,λh=>absurd h.1 j,λ_=>by omega⟩
def sizeB:Nat->Int
 |0=>10000
 |k+1=>3*sizeB k
theorem Qcx:∀k,10000<=sizeB k
 |0=>Int.le_refl _
 |k+1=>by have:=Qcx k;simp only[sizeB];omega
theorem Qln{k:Nat}(h:k<=17):sizeB k<=1291401630000:=by
 have:∀j,j<=17->sizeB j<=1291401630000:=by decide+kernel
 exact this k h
def goodL(d:Nat)(l:List Step):Prop:=sDs d l=true/\sNs l<=64/\sCs l<=256
theorem QnF:∀(m:Nat) (l:List Step) (d:Nat),sZs l<=m->d<=17->l.length<=1048576->(∀x∈l,Step.wf x)->∃a b:Int,Ev (λn=>F_n n l (d:Int)) (a,b)/\0<=a/\0<=b/\a<=sizeB (17-d)/\b<=sizeB (17-d)/\
  (goodL d l->a=sNs l/\b=sCs l)/\(¬goodL d l->64<a\/256<b):=by
 intro m
 induction m using Nat.strongRecOn with
 |_ m E=>
 intro l d hm hd hl hw;have T:∀{P:Int->Int->Prop},(∃a b:Int,Ev (λn=>B_n (F_n n) n l (d:Int)) (a,b)/\P a b)->∃a b:Int,Ev (λn=>F_n n l (d:Int)) (a,b)/\P a b:=by
  rintro P ⟨a,b,p,w⟩;exact⟨a,b,Y4 p,w⟩
 refine T ?_;unfold B_n;by_cases e:0<l.length/\ ¬d<=16
 .rw[QO (show(0:Int)<(l.length:Int)by omega),QO (show(16:Int)<(d:Int)by omega)];have:=Qcx (17-d);refine⟨1000,1000,Ea (Qa _) (Qj5 (Qa _)),by omega,by omega,by omega,by omega,λh=>?_,λ_=>by omega⟩;exfalso;cases l with
  |nil=>simp at e
  |cons x r=>
   have:=h.1;simp only[sDs,XW,Vr]at this;exact e.2 this.1
 .have B:Ev (λn:Nat=>((bif decide (0<(l.length:Int))then some (decide (16<(d:Int)))else some false):Option Bool)) false:=by
   by_cases hp:0<l.length
   .have:d<=16:=by
     rcases VC 16 d with q|q
     .exact absurd ⟨hp,by omega⟩ e
     .exact q
    rw[QO (show(0:Int)<(l.length:Int)by omega),QG (show¬(16:Int)<(d:Int)by omega)];exact Qa _
   .rw[QG (show¬(0:Int)<(l.length:Int)by omega)];exact Qa _
  have ed:IntKind.i64.wrap ((d:Int)+1)=((d+1:Nat):Int):=QC (by omega);have loop:∀(r:List Step) (i:Nat) (a b:Int),l.drop i=r->i<=l.length->0<=a->0<=b->a<=sizeB (17-d)->b<=sizeB (17-d)->
    ∃a' b':Int,EvI (λn=>F_gc n l (d:Int) (F_n n)) (a,b,(i:Int)) (a',b')/\0<=a'/\0<=b'/\a'<=sizeB (17-d)/\b'<=sizeB (17-d)/\
     (sDs d r=true/\a+sNs r<=64/\b+sCs r<=256->a'=a+sNs r/\b'=b+sCs r)/\(¬(sDs d r=true/\a+sNs r<=64/\b+sCs r<=256)->64<a'\/256<b'):=by
   intro r
   induction r with
   |nil=>
    intro i a b Y hi B p w L;refine⟨a,b,Ej ?_,B,p,w,L,λ_=>by simp[sNs,sCs],λh=>?_⟩
    .unfold F_gc;simp only[Yx Y hi,Vq,XJ];exact Qa _
    .simp[sDs,sNs,sCs]at h;omega
   |cons s r O=>
    intro i a b Y hi B p w L;obtain⟨j,ae⟩:=QN (by omega) Y;have ai:=j.lt';have u:d<=16:=by
     rcases VC 16 d with q|q
     .exact absurd ⟨by omega,by omega⟩ e
     .exact q
    have ag:sZ s<=sZs l:=by
     have:∀l:List Step,s∈l->sZ s<=sZs l:=by
      intro l
      induction l with
      |nil=>intro h;cases h
      |cons y l E=>
       intro h;rw[sZs];rcases X6.1 h with rfl|h
       .omega
       .have:=E h;omega
     exact this _ j.mem
    by_cases f:a<=64/\b<=256
    .obtain⟨wc,⟨ad,M⟩,⟨V,R⟩⟩:=Qai (hw s j.mem);have ak:=Qht s;obtain⟨t,g,H,p2,p3,p4,p5,G,X⟩:=E (sZs s.Then) (by omega) s.Then (d+1) (XT _) (by omega) ad M;obtain⟨y1,y2,q1,q2,q3,q4,q5,q6,q7⟩:=E (sZs s.Else) (by omega) s.Else (d+1) (XT _) (by omega) V R;have hB:sizeB (17-d)=3*sizeB (17-(d+1)):=by
      rw[show 17-d=(17-(d+1))+1 by omega];rfl
     have W:=Qcx (17-(d+1));have ah:=Qln (k:=17-d) (by omega);have hc:∃z:Int,0<=z/\z<=5608/\Ev (λn=>((bif (!zeroC s.Cond)then(idx l (i:Int)).bind λac=>(F_l n ac.Cond 0).bind λab=>some (IntKind.i64.wrap ((IntKind.i64.wrap ((IntKind.i64.wrap (b+g))+y2))+ab))else some (IntKind.i64.wrap ((IntKind.i64.wrap (b+g))+y2))):Option Int)) (b+g+y2+z)/\
       ((zeroC s.Cond||cD 1 s.Cond)=true/\(bif zeroC s.Cond then 0 else cN s.Cond)<=256->z=((bif zeroC s.Cond then 0 else cN s.Cond:Nat):Int))/\(¬((zeroC s.Cond||cD 1 s.Cond)=true/\(bif zeroC s.Cond then 0 else cN s.Cond)<=256)->256<z):=by
      have e1:IntKind.i64.wrap (b+g)=b+g:=Qo (by omega) (by omega);have e2:IntKind.i64.wrap (b+g+y2)=b+g+y2:=Qo (by omega) (by omega);cases hz:zeroC s.Cond with
      |true=>
       refine⟨0,by omega,by omega,?_,λ_=>by simp,λh=>absurd ⟨rfl,by simp⟩ h⟩;simp only[Xg,Vq,e1,e2];exact(Qa _).eq (by omega)
      |false=>
       obtain⟨v,u1,u2,u3,u4,u5⟩:=QfK _ s.Cond 0 (XT _) (by omega) wc;have N:v<=5608:=by unfold condB at u3;omega
       have e3:IntKind.i64.wrap (b+g+y2+v)=b+g+y2+v:=Qo (by omega) (by omega);refine⟨v,u2,N,?_,λh=>?_,λh=>?_⟩
       .simp only[Xh,Vp,j.ix,XJ,e1,e2];refine Ea u1 ?_;rw[e3];exact Qa _
       .simp only[Bool.false_or,Vq]at h⊢;exact u4 ⟨by omega,h.1,h.2⟩
       .simp only[Bool.false_or,Vq]at h;exact u5 λq=>h ⟨q.2.1,q.2.2⟩
     obtain⟨z,z0,z1,z2,z3,z4⟩:=hc;have e4:IntKind.i64.wrap (a+1)=a+1:=Qo (by omega) (by omega);have e5:IntKind.i64.wrap (a+1+t)=a+1+t:=Qo (by omega) (by omega);have e6:IntKind.i64.wrap (a+1+t+y1)=a+1+t+y1:=Qo (by omega) (by omega);obtain⟨w1,w2,v1,v2,v3,v4,v5,v6,F⟩:=O (i+1) (a+1+t+y1) (b+g+y2+z) ae (by omega) (by omega) (by omega) (by omega) (by omega);refine⟨w1,w2,Ew ?_ v1,v2,v3,v4,v5,?_,?_⟩
     .unfold F_gc;simp only[j.lt,Vp,QO f.1,QO f.2,XJ,j.ix,j.nx,ed,QiT];refine Ea H (Ea q1 ?_);simp only[j.ix,XJ]at z2;refine Ea z2 ?_;rw[e4,e5,e6];exact Qa _
     .rintro⟨g1,g2,g3⟩;simp only[sDs,XW,Vr,Qju]at g1;obtain⟨aj,⟨J,aa,Q⟩,af⟩:=g1;rw[sNs,QfU]at g2⊢;rw[sCs,QfV]at g3⊢;obtain⟨k1,k2⟩:=G ⟨aa,by omega,by omega⟩;obtain⟨k3,k4⟩:=q6 ⟨Q,by omega,by omega⟩;have k5:=z3 ⟨J,by omega⟩;obtain⟨k6,k7⟩:=v6 ⟨af,by omega,by omega⟩;constructor<;>omega
     .intro hn;by_cases b1:goodL (d+1) s.Then
      .obtain⟨k1,k2⟩:=G b1;by_cases b2:goodL (d+1) s.Else
       .obtain⟨k3,k4⟩:=q6 b2;by_cases b3:(zeroC s.Cond||cD 1 s.Cond)=true/\(bif zeroC s.Cond then 0 else cN s.Cond)<=256
        .have k5:=z3 b3;refine F λq=>hn ⟨?_,?_,?_⟩
         .simp only[sDs,XW,Vr,Qju];exact⟨u,⟨b3.1,b1.1,b2.1⟩,q.1⟩
         .rw[sNs,QfU];omega
         .rw[sCs,QfV];omega
        .have:=z4 b3;exact F λq=>by omega
       .have:=q7 b2;exact F λq=>by omega
      .have:=X b1;exact F λq=>by omega
    .refine⟨a,b,Ej ?_,B,p,w,L,λh=>?_,λ_=>?_⟩
     .unfold F_gc;have:Ev (λn:Nat=>((bif decide ((i:Int)<(l.length:Int))then(bif decide (a<=64)then some (decide (b<=256))else some false)else some false):Option Bool)) false:=by
       rw[j.lt];by_cases q:a<=64
       .rw[QO q,QG (show¬b<=256 from λz=>f ⟨q,z⟩)];exact Qa _
       .rw[QG q];exact Qa _
      exact Ea this (Q7 (Qa _))
     .omega
     .omega
  have W:=Qcx (17-d);obtain⟨a,b,H,p2,p3,p4,p5,G,X⟩:=loop l 0 0 0 rfl (XU _) (by omega) (by omega) (by omega) (by omega);refine⟨a,b,Ea B (Q7 (Ea H.ev (Qa _))),p2,p3,p4,p5,λh=>?_,λh=>?_⟩
  .obtain⟨k1,k2⟩:=G ⟨h.1,by have:=h.2.1;omega,by have:=h.2.2;omega⟩;constructor<;>omega
  .exact X λq=>h ⟨q.1,by omega,by omega⟩
mutual
def hP:Part->Nat
 |⟨_,_,ps⟩=>bif ps.isEmpty then 0 else 1+hPs ps
def hPs:List Part->Nat
 |[]=>0
 |p::r=>max (hP p) (hPs r)
end
theorem Qoe(p:Part):hP p=bif p.Parts.isEmpty then 0 else 1+hPs p.Parts:=by cases p;rfl
theorem QjJ{p:Part}:∀{l:List Part},p∈l->hP p<=hPs l
 |q::r,h=>by
  simp only[hPs];rcases X6.1 h with rfl|h
  .omega
  .have:=QjJ h;omega
theorem QhB{α:Type}(l:List α):((l.length:Int)==0)=l.isEmpty:=by
 cases l<;>simp;omega
theorem Qa3:∀l:List Part,l.length<=szPs l
 |[]=>XT _
 |p::r=>by have:=Qa3 r;rw[szPs,Qad,X0];omega
theorem QhY:∀(m:Nat) (l:List Part) (k:Nat),szPs l<=m->k<=17->l.length<=1048576->(∀x∈l,Part.wf x)->Ev (λn=>F_s n l (k:Int)) ((min (hPs l) k:Nat):Int):=by
 intro m
 induction m using Nat.strongRecOn with
 |_ m w=>
 intro l k F E B j;refine Y4 ?_;show Ev (λn=>B_s (F_s n) n l (k:Int)) _;unfold B_s;have loop:∀(r:List Part) (i:Nat) (a:Nat),l.drop i=r->i<=l.length->a<=k->EvI (λn=>F_cl n l (k:Int) (F_s n)) ((a:Int),(i:Int)) ((max a (min (hPs r) k):Nat):Int):=by
  intro r
  induction r with
  |nil=>
   intro i a d g b;refine Ej ?_;unfold F_cl;simp only[Yx d g,Vq,XJ];refine(Qa _).eq ?_;simp[hPs]
  |cons p r f=>
   intro i a d g y;obtain⟨b,e⟩:=QN (by omega) d;obtain⟨w1,w2⟩:=Y1 (j p b.mem);by_cases q:0<k
   .have t:IntKind.i64.wrap ((k:Int)-1)=((k-1:Nat):Int):=by rw[Qo (by omega) (by omega)];omega
    have h:=QaF b.mem;rw[Qad]at h;have step:Ev (λn=>F_cl n l (k:Int) (F_s n) ((a:Int),(i:Int))) (.cont (((max a (min (hP p) k):Nat):Int),((i+1:Nat):Int))):=by
     unfold F_cl;simp only[b.lt,Vp,QO (show(0:Int)<(k:Int)by omega),XJ,b.ix,b.nx,t,bne,QhB];rw[Qoe];cases z:p.Parts.isEmpty with
     |true=>
      simp only[Xg,Vq,XJ,Vp,Nat.zero_min,Nat.max_zero];exact Qa _
     |false=>
      simp only[Xh,Vp,Vq];refine Ea (Ea (w (szPs p.Parts) (by omega) p.Parts (k-1) (XT _) (by omega) w1 w2) (Qa _)) ((Qa _).eq ?_);have u:IntKind.i64.wrap (1+((min (hPs p.Parts) (k-1):Nat):Int))=((1+min (hPs p.Parts) (k-1):Nat):Int):=by rw[Qo (by omega) (by omega)];omega
      rw[u];congr 2;split<;>omega
    refine(Ew step (f (i+1) _ e (by have:=b.lt';omega) (by omega))).eq ?_;rw[hPs];omega
   .have:k=0:=by omega
    subst this;refine Ej ?_;unfold F_cl;simp only[b.lt,Vp,QG (show¬(0:Int)<((0:Nat):Int)by omega),XJ,Vq];have s:max a (min (hPs (p::r)) 0)=a:=by omega
    rw[s];exact Qa _
 refine Ea ((loop l 0 0 rfl (XU _) (XU _)).ev) ((Qa _).eq ?_);omega
theorem QhZ:∀(m:Nat) (l:List Part),szPs l<=m->l.length<=1048576->(∀x∈l,Part.wf x)->Ev (λn=>F_t n l) ((min (szPs l) 257:Nat):Int):=by
 intro m
 induction m using Nat.strongRecOn with
 |_ m t=>
 intro l B u w;refine Y4 ?_;show Ev (λn=>B_t (F_t n) n l) _;unfold B_t;have loop:∀(r:List Part) (i:Nat) (a:Nat),l.drop i=r->i<=l.length->a<=1048576->∃b:Nat,EvI (λn=>F_dz n l (F_t n)) ((a:Int),(i:Int)) (b:Int)/\min b 257=min (a+(szPs r-r.length)) 257:=by
  intro r
  induction r with
  |nil=>
   intro i a e q _;refine⟨a,Ej ?_,by simp[szPs]⟩;unfold F_dz;simp only[Yx e q,Vq,XJ];exact Qa _
  |cons p r h=>
   intro i a e q z;obtain⟨d,f⟩:=QN (by omega) e;obtain⟨w1,w2⟩:=Y1 (w p d.mem);have s:=QaF d.mem;rw[Qad]at s;have y:=Qa3 r;by_cases j:a<=256
   .obtain⟨b,g,k⟩:=h (i+1) (a+min (szPs p.Parts) 257) f (by have:=d.lt';omega) (by omega);refine⟨b,Ew ?_ g,?_⟩
    .unfold F_dz;simp only[d.lt,Vp,QO (show(a:Int)<=256 by omega),XJ,d.ix,d.nx];refine Ea (t (szPs p.Parts) (by omega) p.Parts (XT _) w1 w2) ((Qa _).eq ?_);rw[Qo (by omega) (by omega)];congr 2
     all_goals omega
    .rw[k,szPs,Qad,X0];omega
   .refine⟨a,Ej ?_,by omega⟩;unfold F_dz;simp only[d.lt,Vp,QG (show¬(a:Int)<=256 by omega),XJ,Vq];exact Qa _
 obtain⟨b,g,k⟩:=loop l 0 l.length rfl (XU _) u;refine Ea g.ev ((Qa _).eq ?_);have:=Qa3 l;split<;>omega
theorem Qmj:∀(m:Nat) (l:List Part) (k:Nat),szPs l<=m->hPs l<=k->k<=17->szPs l<=256->(∀x∈l,Part.wf x)->Ev (λn=>F_q n l (k:Int)) ((hPs l:Int),(szPs l:Int)):=by
 intro m
 induction m using Nat.strongRecOn with
 |_ m N=>
 intro l k O P s j G;have u:=Qa3 l;refine Y4 ?_;show Ev (λn=>B_q (F_q n) n l (k:Int)) _;unfold B_q;have loop:∀(r:List Part) (i:Nat) (a b:Nat),l.drop i=r->i<=l.length->a<=17->b+(szPs r-r.length)<=256->EvI (λn=>F_gb n l (k:Int) (F_q n)) ((a:Int),(b:Int),(i:Int)) (((max a (hPs r):Nat):Int),((b+(szPs r-r.length):Nat):Int)):=by
  intro r
  induction r with
  |nil=>
   intro i a b e w _ _;refine Ej ?_;unfold F_gb;simp only[Yx e w,Vq,XJ];refine(Qa _).eq ?_;simp[hPs,szPs]
  |cons p r g=>
   intro i a b e w J h;obtain⟨d,f⟩:=QN (by omega) e;obtain⟨w1,w2⟩:=Y1 (G p d.mem);have F:=QaF d.mem;have q:=QjJ d.mem;rw[Qad]at F;have H:=Qa3 r;rw[szPs,Qad,X0]at h;have step:Ev (λn=>F_gb n l (k:Int) (F_q n) ((a:Int),(b:Int),(i:Int))) (.cont (((max a (hP p):Nat):Int),((b+szPs p.Parts:Nat):Int),((i+1:Nat):Int))):=by
    unfold F_gb;simp only[d.lt,Vp,d.ix,XJ,d.nx,QhB];rw[Qoe]at q⊢;cases t:p.Parts.isEmpty with
    |true=>
     have L:p.Parts=[]:=by simpa using t
     simp only[Vp,XJ];rw[L];simp only[szPs,Xw,Nat.max_zero];exact Qa _
    |false=>
     rw[t]at q;simp only[Vq]at q⊢;have y:0<k:=by omega
     have z:IntKind.i64.wrap ((k:Int)-1)=((k-1:Nat):Int):=by rw[Qo (by omega) (by omega)];omega
     have E:((k:Int)==0)=false:=beq_false_of_ne (by omega);rw[E,QG (show¬(256:Int)<(b:Int)by omega),z];simp only[Vq,XJ];refine Ea (Ea (N (szPs p.Parts) (by omega) p.Parts (k-1) (XT _) (by omega) (by omega) (by omega) w2) (Qa _)) ((Qa _).eq ?_);have B:IntKind.i64.wrap ((hPs p.Parts:Int)+1)=((hPs p.Parts+1:Nat):Int):=QC (by omega);have M:IntKind.i64.wrap ((b:Int)+(szPs p.Parts:Int))=((b+szPs p.Parts:Nat):Int):=by rw[Qo (by omega) (by omega)];omega
     simp only[B,M];congr 2;split<;>omega
   refine(Ew step (g (i+1) _ _ f (by have:=d.lt';omega) (by omega) (by omega))).eq ?_;rw[hPs,szPs,Qad,X0];congr 1<;>omega
 refine Ea ((loop l 0 0 l.length rfl (XU _) (by omega) (by omega)).ev) ((Qa _).eq ?_);congr 1<;>omega
def repS:Nat->List Int->List Int->List Int
 |0,out,_=>out
 |k+1,out,lap=>if 256<out.length then out else repS k (out++lap) lap
mutual
def lapS:Part->List Int
 |⟨m,laps,ps⟩=>bif decide (0<laps)then expS [] ps else[m]
def expS:List Int->List Part->List Int
 |out,[]=>out
 |out,p::r=>expS (repS (p.Laps.toNat+(bif decide (0<p.Laps)then 0 else 1)) out (lapS p)) r
end
theorem Qej(p:Part):lapS p=bif decide (0<p.Laps)then expS [] p.Parts else[p.Mat]:=by cases p;rfl
theorem QeK{k:Nat}{a b:List Int}(h:256<a.length):repS k a b=a:=by
 cases k with
 |zero=>rfl
 |succ k=>rw[repS,Vt h]
theorem QhW:∀(l:List Part) {out:List Int},256<out.length->expS out l=out
 |[],out,h=>by rw[expS]
 |p::r,out,h=>by rw[expS,QeK h];exact QhW r h
theorem QeJ:∀(k:Nat) (out lap:List Int),(repS k out lap).length<=max out.length (256+lap.length)
 |0,out,lap=>by rw[repS];omega
 |k+1,out,lap=>by
  rw[repS];split
  .omega
  .have:=QeJ k (out++lap) lap;rw[X3]at this;omega
theorem QhV:∀(m:Nat) (l:List Part) (a:List Int),szPs l<=m->(expS a l).length<=max a.length (256+257*szPs l):=by
 intro m
 induction m using Nat.strongRecOn with
 |_ m j=>
 intro l;have b:∀p∈l,szPs l<=m->(lapS p).length<=257*szP p:=by
  intro p d h;have k:=QaF d;rw[Qej,Qad]at*;cases decide (0<p.Laps)with
  |true=>
   have:=j (szPs p.Parts) (by omega) p.Parts [] (XT _);simp only[Vp,List.length_nil]at this⊢;omega
  |false=>simp;omega
 have f:∀(r:List Part) (a:List Int),(∀p∈r,(lapS p).length<=257*szP p)->(expS a r).length<=max a.length (256+257*szPs r):=by
  intro r
  induction r with
  |nil=>intro a _;rw[expS];omega
  |cons p r e=>
   intro a g;rw[expS,szPs];have n:=e (repS (p.Laps.toNat+(bif decide (0<p.Laps)then 0 else 1)) a (lapS p)) λq i=>g q (by simp[i]);have t:=QeJ (p.Laps.toNat+(bif decide (0<p.Laps)then 0 else 1)) a (lapS p);have s:=g p (by simp);omega
 intro a h;exact f l a λp d=>b p d h
theorem QlT(p:Part):(lapS p).length<=257*szP p:=by
 rw[Qej,Qad];cases decide (0<p.Laps)with
 |true=>
  have:=QhV _ p.Parts [] (XT _);simp only[Vp,List.length_nil]at this⊢;omega
 |false=>simp;omega
theorem Qkx(X:Int):∀(m:Nat) (l:List Part),szPs l<=m->szPs l<=256->l.length<=1048576->(∀x∈l,Part.wf x)->partsS X l=true->Ev (λn=>F_r n l) (expS [] l):=by
 intro m
 induction m using Nat.strongRecOn with
 |_ m ih=>
 intro l hm M hl W P;rw[Qdf,Xs]at P;refine Y4 ?_;show Ev (λn=>B_r (F_r n) n l) _;unfold B_r;have inner:∀(p:Part) (e:List Int) (g:p.Laps=0\/0<p.Laps/\p.Laps<=64) (B:e.length<=100000) (j:Nat) (k:Nat) (a:List Int),j+k=p.Laps.toNat+(bif decide (0<p.Laps)then 0 else 1)->a.length<=200000->
   ∃d:Ctl (List Int) (Ctl ((List Int)×Int) (Ctl (List Int) (List Int))),EvI (λn=>F_ef n p e) (a,(j:Int)) d/\
    (d=.cont (repS k a e)\/(256<(repS k a e).length/\d=.done (.done (.done (repS k a e))))):=by
  intro p e g B j k
  induction k generalizing j with
  |zero=>
   intro a f _;refine⟨_,Ej (b:=.cont a) ?_,.inl rfl⟩;unfold F_ef;have:¬((j:Int)<if p.Laps<1 then 1 else p.Laps):=by
    rcases g with h|⟨h,R⟩
    .rw[h]at f⊢;simp at f⊢;omega
    .rw[QO h]at f;simp at f;rw[Vs (by omega)];omega
   rw[QG this];exact Qa _
  |succ k J=>
   intro a f F;have u:((j:Int)<if p.Laps<1 then 1 else p.Laps):=by
    rcases g with h|⟨h,R⟩
    .rw[h]at f⊢;simp at f⊢;omega
    .rw[QO h]at f;simp at f;rw[Vs (by omega)];omega
   have Q:j<=64:=by
    rcases g with h|⟨h,R⟩
    .rw[h]at f;simp at f;omega
    .rw[QO h]at f;simp at f;omega
   by_cases w:256<a.length
   .refine⟨_,Ej (b:=.done (.done (.done a))) ?_,.inr ⟨by rw[QeK w];exact w,by rw[QeK w]⟩⟩;unfold F_ef;rw[QO u,QO (show(256:Int)<(a.length:Int)by omega)];exact Qa _
   .obtain⟨d,t,y⟩:=J (j+1) (a++e) (by omega) (by rw[X3];omega);refine⟨d,Ew ?_ t,by rw[repS,Vs w];exact y⟩;unfold F_ef;rw[QO u,QG (show¬(256:Int)<(a.length:Int)by omega)];refine Qj5 (Q7 (QaP (Qie a e (by omega)) ?_));rw[QC (by omega)];exact Qa _
 have loop:∀(r:List Part) (i:Nat) (a:List Int),l.drop i=r->i<=l.length->a.length<=100000->
   ∃d:Ctl (List Int) (List Int),EvI (λn=>F_er n l (F_r n)) (a,(i:Int)) d/\(d=.cont (expS a r)\/d=.done (expS a r)):=by
  intro r
  induction r with
  |nil=>
   intro i a G T _;refine⟨.cont a,Ej ?_,.inl (by rw[expS])⟩;unfold F_er;simp only[Yx G T,Vq];exact Qa _
  |cons p r L=>
   intro i a G T F;obtain⟨q,H⟩:=QN (by omega) G;have u:=q.lt';have V:=QaF q.mem;obtain⟨w1,w2⟩:=Y1 (W p q.mem);have g:=P p q.mem;rw[QeM]at g;have s:p.Laps=0\/0<p.Laps/\p.Laps<=64:=by
    cases O:(p.Laps==0)with
    |true=>exact .inl (by simpa using O)
    |false=>
     rw[O]at g;simp only[Vq,inR,XW,Vr]at g;exact .inr ⟨by omega,by omega⟩
   have aa:=QlT p;have w:Ev (λn=>((bif decide (0<p.Laps)then(F_r n p.Parts).bind λN=>some N else some [p.Mat]):Option (List Int))) (lapS p):=by
    rw[Qej];refine QbR (λh=>?_) (λ_=>Qa _);rw[Qad]at V;refine Ea (ih (szPs p.Parts) (by omega) p.Parts (XT _) (by omega) w1 w2 ?_) (Qa _);have:(p.Laps==0)=false:=by
     simp only[Vr]at h;exact beq_false_of_ne (by omega)
    rw[this]at g;simp only[Vq,XW]at g;exact g.2.2.2
   obtain⟨d,t,y⟩:=inner p (lapS p) s (by omega) 0 _ a (Xv _) (by omega);rw[expS];rcases y with rfl|⟨z,rfl⟩
   .obtain⟨E,q1,Y⟩:=L (i+1) (repS (p.Laps.toNat+(bif decide (0<p.Laps)then 0 else 1)) a (lapS p)) H (by omega) (by
     have:=QeJ (p.Laps.toNat+(bif decide (0<p.Laps)then 0 else 1)) a (lapS p);omega)
    refine⟨E,Ew ?_ q1,Y⟩;unfold F_er;simp only[q.lt,Vp,q.ix,XJ,q.nx];exact Ea w (Ea t.ev (Qa _))
   .refine⟨.done (repS (p.Laps.toNat+(bif decide (0<p.Laps)then 0 else 1)) a (lapS p)),Ej ?_,.inr (by rw[QhW r z])⟩;unfold F_er;simp only[q.lt,Vp,q.ix,XJ,q.nx];exact Ea w (Ea t.ev (Qa _))
 obtain⟨d,t,y⟩:=loop l 0 [] rfl (XU _) (by simp);rcases y with rfl|rfl
 .exact Ea t.ev (Qa _)
 .exact Ea t.ev (Qa _)
def kindAt(c:Course)(m:Int):Int:=((c.Mats[m.toNat]?).map (·.Kind)).getD 0
def hasLeg(c:Course)(a b:Int):Bool:=c.Legs.any λl=>(l.From==a)&&(l.To==b)
def rokS(c:Course)(len:Nat):Nat->Int->List Int->Bool
 |_,_,[]=>true
 |i,prev,m::r=>((kindAt c m==1)==decide (i=0))&&(((kindAt c m==3)==decide (i+1=len))&&((decide (i=0)||hasLeg c prev m)&&rokS c len (i+1) m r))
def routeR(c:Course)(d:Distance)(r:List Int):Bool:=
 (decide (2<=r.length)&&decide (r.length<=256))&&(rokS c r.length 0 0 r&&((bif decide (0<=d.Extra)then !((r.count d.Extra:Int)==0)&&((kindAt c d.Extra==2)&&hasLeg c d.Extra d.Extra)else true)&&d.Cutoffs.all λx=>decide (x.Lap<=(r.count x.Mat:Int))))
def routeS(c:Course)(d:Distance):Bool:=routeR c d (expS [] d.Route)
def cntM(l:List Int):List (Int×Int):=l.foldl (λm k=>Yj m k (QP m k 0+1)) []
theorem QkG(l:List Int)(k:Int):cntM (l++[k])=Yj (cntM l) k (QP (cntM l) k 0+1):=by unfold cntM;rw[List.foldl_append];rfl
theorem Qfk(l:List Int)(k:Int):QP (cntM l) k 0=(l.count k:Int):=by
 have a:∀(l:List Int) (m:List (Int×Int)),QP (l.foldl (λm k=>Yj m k (QP m k 0+1)) m) k 0=QP m k 0+(l.count k:Int):=by
  intro l
  induction l with
  |nil=>intro m;simp
  |cons x l b=>
   intro m;rw[XD,b,QeR,List.count_cons];by_cases h:k=x
   .subst h;simp;omega
   .have:(x==k)=false:=beq_false_of_ne λe=>h e.symm;simp[h,this]
 have:=a l [];simpa[cntM,Qkm]using this
theorem QiJ(b:Int):∀(m:Nat) (l:List Part) (a:List Int),szPs l<=m->partsS b l=true->(∀x∈a,0<=x/\x<=b)->∀x∈expS a l,0<=x/\x<=b:=by
 intro m
 induction m using Nat.strongRecOn with
 |_ m B=>
 intro l;have q:∀(k:Nat) (a d:List Int),(∀x∈a,0<=x/\x<=b)->(∀x∈d,0<=x/\x<=b)->∀x∈repS k a d,0<=x/\x<=b:=by
  intro k
  induction k with
  |zero=>intro a d g _;rw[repS];exact g
  |succ k j=>
   intro a d g w;rw[repS];split
   .exact g
   .refine j _ _ ?_ w;intro x i;rcases VD.1 i with h|h
    .exact g x h
    .exact w x h
 have u:∀(r:List Part) (a:List Int),szPs r<=m->partsS b r=true->(∀x∈a,0<=x/\x<=b)->∀x∈expS a r,0<=x/\x<=b:=by
  intro r
  induction r with
  |nil=>intro a _ _ h;rw[expS];exact h
  |cons p r n=>
   intro a t f h;rw[szPs,Qad]at t;rw[partsS,XW]at f;obtain⟨e,y⟩:=f;rw[expS];refine n _ (by omega) y (q _ _ _ h ?_);rw[Qej];rw[QeM]at e;cases s:(p.Laps==0)with
   |true=>
    have z:p.Laps=0:=by simpa using s
    rw[s,Vp,XW]at e;have:=e.1;unfold inR at this;simp only[XW,Vr]at this;rw[z];intro x i;simp at i;subst i;exact this
   |false=>
    rw[s]at e;simp only[Vq,XW,inR,Vr]at e;rw[QO (show 0<p.Laps by omega),Vp];exact B (szPs p.Parts) (by omega) p.Parts [] (XT _) e.2.2.2 (by simp)
 exact λa t f h=>u l a t f h
theorem QjD{c:Course}{m:Int}(d:0<=m)(b:m<=(c.Mats.length:Int)-1):∃x:Mat,idx c.Mats m=some x/\x.Kind=kindAt c m:=by
 obtain⟨k,rfl⟩:∃k:Nat,m=(k:Int):=⟨m.toNat,by omega⟩;have a:k<c.Mats.length:=by omega
 refine⟨c.Mats[k],Ql (XK a),?_⟩;unfold kindAt;rw[Int.toNat_natCast,XK a];rfl
theorem QhC(c:Course)(a b:Int):QP (Ye legKey true c.Legs) {from_:=a,to_:=b} false=hasLeg c a b:=by
 rw[QdL];unfold hasLeg;by_cases h:({from_:=a,to_:=b}:Ue)∈c.Legs.map legKey
 .rw[Vt h];obtain⟨l,d,e⟩:=Xe.1 h;unfold legKey at e;obtain⟨g,f⟩:=ends_eq.1 e;exact(Xt.2 ⟨l,d,by simp[g,f]⟩).symm
 .rw[Vs h]
  symm
  rw[VM];intro q;obtain⟨l,d,e⟩:=Xt.1 q;simp only[XW,Vy]at e;exact h (Xe.2 ⟨l,d,by unfold legKey;rw[e.1,e.2]⟩)
structure NumOk (c:Course):Prop where
 kinds:∀m∈c.Mats,1<=m.Kind/\m.Kind<=3
 dist:∀d∈c.Distances,-1<=d.Extra/\d.Extra<=(c.Mats.length:Int)-1/\partsS ((c.Mats.length:Int)-1) d.Route=true
theorem QmZ{c:Course}(h:numbersS c=true):NumOk c:=by
 unfold numbersS at h;simp only[XW,Xs]at h;refine⟨λm f=>?_,λd e=>?_⟩
 .have:=h.1 m f;unfold inR at this;simpa using this
 .have:=h.2.2.2.1 d e;unfold distS at this;simp only[XW]at this;obtain⟨_,a,b,_⟩:=this;unfold inR at a;simp only[XW,Vr]at a;exact⟨a.1,a.2,b⟩
theorem Qpb{c:Course}(q:NumOk c){d:Distance}(hd:d∈c.Distances):∀x∈expS [] d.Route,0<=x/\x<=(c.Mats.length:Int)-1:=
 QiJ _ _ d.Route [] (XT _) (q.dist d hd).2.2 (by simp)
theorem Qlu(c:Course)(len i:Nat)(prev m:Int)(r:List Int):rokS c len i prev (m::r)=(((kindAt c m==1)==decide (i=0))&&(((kindAt c m==3)==decide (i+1=len))&&((decide (i=0)||hasLeg c prev m)&&rokS c len (i+1) m r))):=rfl
theorem Qnu(i:Nat):((i:Int)==0)=decide (i=0):=by
 rw[XY];simp
theorem QfI(c:Course)(r:List Int)(J:2<=r.length)(R:r.length<=256)(G:∀x∈r,0<=x/\x<=(c.Mats.length:Int)-1):
  Ev (λn=>iter (F_be n c (Ye legKey true c.Legs) r) n ([],0)) (bif rokS c r.length 0 0 r then .cont (cntM r)else .done false):=by
 have loop:∀(t:List Int) (i:Nat) (b:Int),r.drop i=t->i<=r.length->(0<i->At r (i-1) b)->EvI (λn=>F_be n c (Ye legKey true c.Legs) r) (cntM (r.take i),(i:Int)) (bif rokS c r.length i b t then .cont (cntM r)else .done false):=by
  intro t
  induction t with
  |nil=>
   intro i b f s _;refine Ej ?_;unfold F_be;simp only[Yx f s,Vq,rokS,Vp];have:r.length<=i:=by simpa using f
   rw[VI this];exact Qa _
  |cons m t Q=>
   intro i b f s L;obtain⟨d,j⟩:=QN (by omega) f;have N:=d.lt';obtain⟨F,H⟩:=G m d.mem;obtain⟨x,u,E⟩:=QjD F H;have z:IntKind.i64.wrap ((r.length:Int)-1)=((r.length-1:Nat):Int):=by rw[Qo (by omega) (by omega)];omega
   have P:((i:Int)==((r.length-1:Nat):Int))=decide (i+1=r.length):=by rw[XY];simp;omega
   have y:Ev (λn:Nat=>((bif ((x.Kind==1) != ((i:Int)==0))then some true else(bif ((x.Kind==3) != ((i:Int)==(IntKind.i64.wrap ((r.length:Int)-1))))then some true else(bif decide (0<(i:Int))then(idx r (IntKind.i64.wrap ((i:Int)-1))).bind λg=>(some (QP (Ye legKey true c.Legs) ({from_:=g,to_:=m:Ue}) false)).bind λp=>some (!p)else some false))):Option Bool))
     (!(((kindAt c m==1)==decide (i=0))&&(((kindAt c m==3)==decide (i+1=r.length))&&(decide (i=0)||hasLeg c b m)))):=by
    rw[E,z,P,Qnu];refine Ev.eq (Eu λ_=>Eu λ_=>QbR (v:= !hasLeg c b m) (w:=false) (λh=>?_) λ_=>Qa _) ?_
    .have k:0<i:=by simpa using h
     have M:IntKind.i64.wrap ((i:Int)-1)=((i-1:Nat):Int):=by rw[Qo (by omega) (by omega)];omega
     rw[M,(L k).ix];simp only[XJ,QhC];exact Qa _
    .have B:decide (0<(i:Int))= !decide (i=0):=by rw[XY];simp;omega
     rw[B];cases(kindAt c m==1)<;>cases decide (i=0)<;>cases(kindAt c m==3)<;>cases decide (i+1=r.length)<;>cases hasLeg c b m<;>rfl
   have e:IntKind.i64.wrap (QP (cntM (r.take i)) m 0+1)=QP (cntM (r.take i)) m 0+1:=by
    rw[Qfk];have:(r.take i).count m<=i:=by have:=List.count_le_length (a:=m) (l:=r.take i);simp at this;omega
    exact Qo (by omega) (by omega)
   have step:Ev (λn=>F_be n c (Ye legKey true c.Legs) r (cntM (r.take i),(i:Int))) (bif ((kindAt c m==1)==decide (i=0))&&(((kindAt c m==3)==decide (i+1=r.length))&&(decide (i=0)||hasLeg c b m))then .cont (cntM (r.take (i+1)),((i+1:Nat):Int))else .done (.done false)):=by
    unfold F_be;simp only[d.lt,Vp,d.ix,XJ,d.nx,u];refine Ea y ?_;rw[e, <- QkG, <- d.take];cases(((kindAt c m==1)==decide (i=0))&&(((kindAt c m==3)==decide (i+1=r.length))&&(decide (i=0)||hasLeg c b m)))<;>exact Qa _
   have O:rokS c r.length i b (m::t)=((((kindAt c m==1)==decide (i=0))&&(((kindAt c m==3)==decide (i+1=r.length))&&(decide (i=0)||hasLeg c b m)))&&rokS c r.length (i+1) m t):=by rw[Qlu];simp only[Bool.and_assoc]
   rw[O];cases q:(((kindAt c m==1)==decide (i=0))&&(((kindAt c m==3)==decide (i+1=r.length))&&(decide (i=0)||hasLeg c b m)))with
   |false=>
    rw[q]at step;exact Ej step
   |true=>
    rw[q]at step;rw[VA];exact Ew step (Q (i+1) m j (by omega) (λ_=>by simpa using d))
 exact(loop r 0 0 rfl (XU _) (by omega)).ev
theorem QiV(c:Course)(w:CourseOk c)(q:NumOk c)(d:Distance)(b:d∈c.Distances)(k:∀x∈d.Route,Part.wf x)(l:szPs d.Route<=256):
  Ev (λn=>F_cc n c d (Ye legKey true c.Legs)) (routeS c d):=by
 have i:=Qa3 d.Route;have j:=Qpb q b;have a:=QhV _ d.Route [] (XT _);unfold F_cc routeS;refine Ea (Qkx _ _ d.Route (XT _) l (by omega) k (q.dist d b).2.2) ?_;generalize expS [] d.Route=r at j a⊢;unfold routeR;have t:IntKind.i64.wrap ((r.length:Int)-1)=(r.length:Int)-1:=by
  have:r.length<=1048576:=by simp at a;omega
  exact Qcw this
 rw[t];have p:(decide ((r.length:Int)-1<1)||decide (256<=(r.length:Int)-1))= !(decide (2<=r.length)&&decide (r.length<=256)):=by
  rw[XY];simp;omega
 refine Ea (Ev.eq (Eu λ_=>Qa _) p) ?_;cases h:(decide (2<=r.length)&&decide (r.length<=256))with
 |false=>exact Qa _
 |true=>
  simp only[XW,Vr]at h;rw[VA];refine Q7 (Ea (QfI c r h.1 h.2 j) ?_);cases rokS c r.length 0 0 r with
  |false=>exact Qa _
  |true=>
   simp only[Vp,VA];have y:Ev (λn:Nat=>((bif decide (0<=d.Extra)then(some (QP (cntM r) d.Extra 0)).bind λg=>(bif (g==0)then some true else(idx c.Mats d.Extra).bind λe=>(bif (e.Kind != 2)then some true else(some (QP (Ye legKey true c.Legs) ({from_:=d.Extra,to_:=d.Extra:Ue}) false)).bind λf=>some (!f)))else some false):Option Bool))
     (!(bif decide (0<=d.Extra)then !((r.count d.Extra:Int)==0)&&((kindAt c d.Extra==2)&&hasLeg c d.Extra d.Extra)else true)):=by
    rw[Qfk];cases z:decide (0<=d.Extra)with
    |false=>exact Qa _
    |true=>
     obtain⟨x,s,u⟩:=QjD (c:=c) (m:=d.Extra) (by simpa using z) (q.dist d b).2.1;simp only[Vp,XJ,s,QhC,u];refine Ev.eq (Eu λ_=>Eu λ_=>Qa _) ?_;rw[bne];cases((r.count d.Extra:Int)==0)<;>cases(kindAt c d.Extra==2)<;>cases hasLeg c d.Extra d.Extra<;>rfl
   refine Ea y ?_;cases(bif decide (0<=d.Extra)then !((r.count d.Extra:Int)==0)&&((kindAt c d.Extra==2)&&hasLeg c d.Extra d.Extra)else true)with
   |false=>exact Qa _
   |true=>
    rw[VA];refine Q7 (Ea ?_ (Qa _));unfold F_dx F_el F_eu;refine Y5 d.Cutoffs _ (λn x=>F_cu n x (cntM r)) (by have:=w.cut d b;omega) λx _=>?_;unfold F_cu;rw[Qfk];exact Qa _
theorem QdE{a b:Nat}(h:a+b<=4611686018427387904):IntKind.i64.wrap ((a:Int)+(b:Int))=((a+b:Nat):Int):=by
 rw[Qo (by omega) (by omega)];omega
def lensC(c:Course):Nat:=c.Mats.length+c.Legs.length+c.Distances.length+c.Waves.length+c.Offences.length+c.Categories.length+c.Prizes.length
def fewD(d:Distance):Prop:=d.Cutoffs.length<=200/\szPs d.Route<=200/\hPs d.Route<=16
structure FewOk (c:Course):Prop where
 lens:lensC c<=200
 name:c.Name.length<=100
 dist:∀d∈c.Distances,fewD d
 ties:c.Ties.length<=200
theorem QgZ(c:Course)(w:CourseOk c)(q:PartsOk c)(T:c.Ties.length<=1048576)(X:∀x∈c.Ties,Step.wf x):∃b,Ev (λn=>F_cr n c) b/\(b=true->FewOk c):=by
 have hm:=w.mats;have hg:=w.legs;have hd:=w.dist;have G:=w.wave;have ho:=w.off;have hc:=w.cat;have hp:=w.prize;have loop:∀(t:List Distance) (i s:Nat),c.Distances.drop i=t->i<=c.Distances.length->∃f:Ctl Int Bool,EvI (λn=>F_bp n c) ((s:Int),(i:Int)) f/\(f=.done false\/ ∃v:Nat,f=.cont (v:Int)/\(v<=200->s<=v/\ ∀d∈t,fewD d)):=by
  intro t
  induction t with
  |nil=>
   intro i s u J;refine⟨.cont (s:Int),Ej ?_,Or.inr ⟨s,rfl,λ_=>⟨XT _,by simp⟩⟩⟩;unfold F_bp;simp only[Yx u J,Vq,XJ];exact Qa _
  |cons d t ih=>
   intro i s u J;obtain⟨g,z⟩:=QN (by omega) u;have aa:=g.lt';by_cases O:s<=200
   .have j:=q.len d g.mem;have l:=q.wf d g.mem;have H:=w.cut d g.mem;have r:=QhZ _ d.Route (XT _) j l;have F:=QhY _ d.Route 17 (XT _) (XT _) j l;have L:IntKind.i64.wrap ((s:Int)+(d.Cutoffs.length:Int))=((s+d.Cutoffs.length:Nat):Int):=QdE (by omega);have M:IntKind.i64.wrap (((s+d.Cutoffs.length:Nat):Int)+((min (szPs d.Route) 257:Nat):Int))=((s+d.Cutoffs.length+min (szPs d.Route) 257:Nat):Int):=QdE (by omega);have step:Ev (λn=>F_bp n c ((s:Int),(i:Int))) (bif decide ((16:Int)<((min (hPs d.Route) 17:Nat):Int))then .done (.done false)else .cont (((s+d.Cutoffs.length+min (szPs d.Route) 257:Nat):Int),((i+1:Nat):Int))):=by
     unfold F_bp;simp only[g.lt,Vp,g.ix,XJ,g.nx,QO (show(s:Int)<=200 by omega)];refine Ea r (Ea F ?_);rw[L,M];cases decide ((16:Int)<((min (hPs d.Route) 17:Nat):Int))<;>exact Qa _
    by_cases hh:hPs d.Route<=16
    .rw[QG (show¬(16:Int)<((min (hPs d.Route) 17:Nat):Int)by omega)]at step;obtain⟨f,p,k⟩:=ih (i+1) (s+d.Cutoffs.length+min (szPs d.Route) 257) z (by omega);refine⟨f,Ew step p,?_⟩;rcases k with k|⟨v,k,B⟩
     .exact Or.inl k
     .refine Or.inr ⟨v,k,λG=>?_⟩;obtain⟨Y,y⟩:=B G;refine⟨by omega,λx E=>?_⟩;rcases X6.1 E with rfl|E
      .exact⟨by omega,by omega,hh⟩
      .exact y x E
    .rw[QO (show(16:Int)<((min (hPs d.Route) 17:Nat):Int)by omega)]at step;exact⟨.done false,Ej step,Or.inl rfl⟩
   .refine⟨.cont (s:Int),Ej ?_,Or.inr ⟨s,rfl,λh=>absurd h O⟩⟩;unfold F_bp;simp only[g.lt,Vp,QG (show¬(s:Int)<=200 by omega),XJ,Vq];exact Qa _
 obtain⟨f,p,k⟩:=loop c.Distances 0 (lensC c) rfl (XU _);have e:IntKind.i64.wrap ((IntKind.i64.wrap ((IntKind.i64.wrap ((IntKind.i64.wrap ((IntKind.i64.wrap ((IntKind.i64.wrap ((c.Mats.length:Int)+(c.Legs.length:Int)))+(c.Distances.length:Int)))+(c.Waves.length:Int)))+(c.Offences.length:Int)))+(c.Categories.length:Int)))+(c.Prizes.length:Int))=(lensC c:Int):=by
  have Q:c.Mats.length+c.Legs.length<=4611686018427387904:=by omega
  have N:c.Mats.length+c.Legs.length+c.Distances.length<=4611686018427387904:=by omega
  have R:c.Mats.length+c.Legs.length+c.Distances.length+c.Waves.length<=4611686018427387904:=by omega
  have P:c.Mats.length+c.Legs.length+c.Distances.length+c.Waves.length+c.Offences.length<=4611686018427387904:=by omega
  have V:c.Mats.length+c.Legs.length+c.Distances.length+c.Waves.length+c.Offences.length+c.Categories.length<=4611686018427387904:=by omega
  have W:c.Mats.length+c.Legs.length+c.Distances.length+c.Waves.length+c.Offences.length+c.Categories.length+c.Prizes.length<=4611686018427387904:=by omega
  rw[QdE Q,QdE N,QdE R,QdE P,QdE V,QdE W];rfl
 unfold F_cr;rw[e];rcases k with rfl|⟨v,rfl,B⟩
 .exact⟨false,Ea p.ev (Qa _),λh=>by cases h⟩
 .obtain⟨a,b,r,F,p3,_,_,_,_⟩:=QnF _ c.Ties 0 (XT _) (by omega) T X;have m:Ev (λn=>F_bx n c.Ties) (decide ((c.Ties.length:Int)<=20)&&(decide (a<=80)&&decide (b<=300))):=by
   unfold F_bx;exact Ea r (Ea (Ei λ_=>Ei λ_=>Qa _) (Qa _))
  refine⟨decide ((v:Int)<=200)&&(decide ((c.Name.length:Int)<=100)&&(decide ((c.Ties.length:Int)<=20)&&(decide (a<=80)&&decide (b<=300)))),Ea p.ev (Ea (Ei λ_=>Ei λ_=>Ea m (Qa _)) (Qa _)),λh=>?_⟩;simp only[XW,Vr]at h;obtain⟨Y,y⟩:=B (by omega);exact⟨by omega,by omega,y,by omega⟩
def fitsS(c:Course):Bool:=
 !(decide (40<(c.Mats.length:Int))||(decide (512<(c.Legs.length:Int))||(decide (8<(c.Distances.length:Int))||(decide (32<(c.Waves.length:Int))||(decide (32<(c.Offences.length:Int))||(decide (32<(c.Categories.length:Int))||decide (32<(c.Prizes.length:Int))))))))
  &&c.Distances.all λd=> !decide (64<(d.Cutoffs.length:Int))
theorem QnI(c:Course)(w:CourseOk c)(q:PartsOk c)(k:FewOk c):Ev (λn=>F_bu n c) (fitsS c):=by
 unfold F_bu fitsS;refine Ea (Eu λ_=>Eu λ_=>Eu λ_=>Eu λ_=>Eu λ_=>Eu λ_=>Qa _) ?_;cases(decide (40<(c.Mats.length:Int))||(decide (512<(c.Legs.length:Int))||(decide (8<(c.Distances.length:Int))||(decide (32<(c.Waves.length:Int))||(decide (32<(c.Offences.length:Int))||(decide (32<(c.Categories.length:Int))||decide (32<(c.Prizes.length:Int))))))))with
 |true=>exact Qa _
 |false=>
  rw[Xh,VA];refine Q7 (Ea (Qk7 c.Distances (λd=> !decide (64<(d.Cutoffs.length:Int))) (Ctl.done false) (Ctl.cont ()) (by have:=w.dist;omega) (λi x a=>?_) ?_) ?_)
  .obtain⟨f,e,b⟩:=k.dist x a.mem;unfold F_hx;simp only[a.lt,Vp,a.ix,XJ,a.nx];refine Ea (Qmj _ x.Route 17 (XT _) (by omega) (XT _) (by omega) (q.wf x a.mem)) ?_;refine Ea (Eu λ_=>Eu λ_=>Qa _) ?_;simp only[QG (show¬(16:Int)<(hPs x.Route:Int)by omega),QG (show¬(256:Int)<(szPs x.Route:Int)by omega),Bool.or_false];cases decide (64<(x.Cutoffs.length:Int))<;>exact Qa _
  .unfold F_hx;simp only[Qco,Vq];exact Qa _
  .cases(c.Distances.all λd=> !decide (64<(d.Cutoffs.length:Int)))<;>exact Qa _
def courseE(c:Course):Int:=
 bif fitsS c then bif namesS c then bif numbersS c then bif tiesE c.Ties==0 then bif c.Distances.all (routeS c)then 0 else 72 else tiesE c.Ties else 71 else 70 else 2
theorem Qkz(c:Course)(w:CourseOk c)(q:PartsOk c)(k:FewOk c)(e:c.Ties.length<=1048576)(f:∀x∈c.Ties,Step.wf x):Ev (λn=>F_j n c) (courseE c):=by
 unfold F_j courseE;refine Ea (QnI c w q k) ?_;cases fitsS c with
 |false=>exact Qa _
 |true=>
 refine Q7 (Ea (Qmh c w) ?_);cases namesS c with
 |false=>exact Qa _
 |true=>
 refine Q7 (Ea (QiU c w q) ?_);cases g:numbersS c with
 |false=>exact Qa _
 |true=>
 refine Q7 (Ea (QnK c.Ties e f) ?_);rw[bne];cases(tiesE c.Ties==0)with
 |false=>exact Qa _
 |true=>
 have d:Ev (λn=>iter (F_hf n c) n ([],0)) (Ye legKey true c.Legs):=by
  refine Qbt c.Legs legKey true (by have:=w.legs;omega) (λi x m a=>?_) (λm=>?_)
  .unfold F_hf;simp only[a.lt,Vp,a.ix,XJ,a.nx];exact Qa _
  .unfold F_hf;simp only[Qco,Vq];exact Qa _
 refine Q7 (Ea d ?_);have a:Ev (λn=>F_cz n c.Distances c (Ye legKey true c.Legs)) (c.Distances.all (routeS c)):=by
  unfold F_cz F_dn F_et;refine Y5 c.Distances _ (λn x=>F_dj n x c (Ye legKey true c.Legs)) (by have:=w.dist;omega) λx b=>?_;unfold F_dj;exact Ea (QiV c w (QmZ g) x b (q.wf x b) (by have:=(k.dist x b).2.1;omega)) (Qa _)
 refine Ea a ?_;cases c.Distances.all (routeS c)<;>exact Qa _
theorem Qjs{α:Type}(l:List α){a b:Nat}(h:a<=b)(d:b<=l.length):slc l (a:Int) (b:Int)=some ((l.take b).drop a):=by
 unfold slc;rw[QO (show(0:Int)<=(a:Int)by omega),QO (show(a:Int)<=(b:Int)by omega),QO (show(b:Int)<=(l.length:Int)by omega)];simp
theorem Qiy{α:Type}(l:List α){b:Nat}(a:b<=l.length):slc l 0 (b:Int)=some (l.take b):=by
 have:=Qjs l (XU b) a;simpa using this
theorem Qhr{α:Type}(l:List α){a:Nat}(b:a<=l.length):slc l (a:Int) (l.length:Int)=some (l.drop a):=by
 have:=Qjs l b (XT _);simpa using this
theorem QcP{α:Type}(l m:List α)(h:l.length+m.length<=4294967296):app l m=some (l++m):=by
 unfold app;rw[XS (by unfold Q9;exact h)];rfl
theorem QaG{α:Type}(l:List α){i:Nat}(x:α)(h:i<l.length):QaX l (i:Int) x=some (l.set i x):=by
 unfold QaX;rw[QO (show(0:Int)<=(i:Int)by omega),QO (show(i:Int)<(l.length:Int)by omega)];simp
def firstI{α:Type}(q:α->Bool):List α->Nat->Int
 |[],_=> -1
 |x::l,i=>bif q x then(i:Int)else firstI q l (i+1)
theorem Ev.first{α:Type}{step:Nat->Int->Option (Ctl Int (Ctl Unit Int))}(l:List α)(q:α->Bool)(p:l.length<=4611686018427387904)
  (k:∀i x,At l i x->Ev (λn=>step n (i:Int)) (bif q x then .done (.done (i:Int))else .cont ((i+1:Nat):Int)))(m:Ev (λn=>step n (l.length:Int)) (.done (.cont ()))):
  Ev (λn=>(Go.Sw.iter (step n) n 0).bind λb=>match b with|.cont _=>some (-1)|.done v=>some v) (firstI q l 0):=by
 have loop:∀(r:List α) (i:Nat),l.drop i=r->i<=l.length->∃a:Ctl Unit Int,EvI step (i:Int) a/\(match a with|.cont _=>some (-1)|.done v=>some v)=some (firstI q r i):=by
  intro r
  induction r with
  |nil=>
   intro i d t;have:i=l.length:=by have:=Xq.1 d;omega
   subst this;exact⟨.cont (),Ej m,rfl⟩
  |cons x r u=>
   intro i d t;obtain⟨j,e⟩:=QN p d;have s:=k i x j;unfold firstI;cases h:q x with
   |true=>
    rw[h]at s;exact⟨_,Ej s,rfl⟩
   |false=>
    rw[h]at s;obtain⟨a,f,g⟩:=u (i+1) e (by have:=j.lt';omega);exact⟨a,Ew s f,g⟩
 obtain⟨a,f,g⟩:=loop l 0 rfl (XU _);exact Ea f.ev (Ez g)
theorem QdQ{α:Type}(q:α->Bool):∀(l:List α) (i:Nat),(firstI q l i= -1/\l.all (λx=> !q x)=true)\/ ∃j x,firstI q l i=((i+j:Nat):Int)/\l[j]?=some x/\q x=true/\(l.take j).all (λx=> !q x)=true
 |[],_=>.inl ⟨rfl,rfl⟩
 |x::l,i=>by
  unfold firstI;cases h:q x with
  |true=>exact .inr ⟨0,x,rfl,rfl,h,rfl⟩
  |false=>
   rcases QdQ q l (i+1)with⟨h1,h2⟩|⟨j,y,h1,h2,h3,h4⟩
   .exact .inl ⟨h1,by simp[h,h2]⟩
   .refine .inr ⟨j+1,y,by rw[Vq,h1];congr 1;omega,h2,h3,by simp[h,h4]⟩
theorem Qe1{α:Type}{p:α->Bool}{l:List α}(h:l.all p=true):l.filter p=l:=List.filter_eq_self.2 (Xs.1 h)
theorem Qk6{α:Type}{first:Nat->Option Int}{step:Nat->List α×Int×Int->Option (Ctl (List α×Int×Int) (List α×Int))}(l0:List α)(q:α->Bool)(hl:l0.length<=1048576)
  (O:Ev first (firstI q l0 0))
  (P:∀(l:List α) (i j:Nat) x y,l.length<=1048576->At l j x->l[i]?=some y->x∈l0->i<=j->Ev (λn=>step n (l,(i:Int),(j:Int))) (.cont (bif q x then l else l.set i x,(bif q x then(i:Int)else((i+1:Nat):Int)),((j+1:Nat):Int))))
  (V:∀(l:List α) (i:Int),Ev (λn=>step n (l,i,(l.length:Int))) (.done (l,i))):
  Ev (λn=>(first n).bind λr1=>bif r1== -1 then some l0 else(Go.Sw.iter (step n) n (l0,r1,IntKind.i64.wrap (r1+1))).bind λb=>(slc b.1 0 b.2).bind λx=>some x) (l0.filter λx=> !q x):=by
 refine Ea O ?_;rcases QdQ q l0 0 with⟨G,E⟩|⟨t,T,G,E,R,Q⟩
 .rw[G,Qe1 E];exact Qa _
 .have N:=(XL.1 E).1;rw[Xv]at G;rw[G];have Y:(((t:Nat):Int)== -1)=false:=by simp
  rw[Y,QC (by omega)];have loop:∀(r l:List α) (i j:Nat),l0.drop j=r->j<=l0.length->i<j->l.length=l0.length->l.drop j=l0.drop j->l.take i=(l0.take j).filter (λx=> !q x)->∃e:List α,∃g:Nat,EvI step (l,(i:Int),(j:Int)) (e,(g:Int))/\g<=e.length/\e.take g=l0.filter λx=> !q x:=by
   intro r
   induction r with
   |nil=>
    intro l i j F W J a w d;have:j=l.length:=by have:=Xq.1 F;omega
    subst this;refine⟨l,i,Ej (V l _),by omega,?_⟩;rw[d,a,X9]
   |cons x r M=>
    intro l i j F W J a w d;have H:l.drop j=x::r:=by rw[w,F]
    obtain⟨L,u⟩:=QN (by omega) H;obtain⟨k,f⟩:=QN (by omega) F;have X:=L.lt';have s:=P l i j x l[i] (by omega) L (XK (by omega)) k.mem (by omega);cases h:q x with
    |true=>
     rw[h]at s;obtain⟨e,g,p,m,B⟩:=M l i (j+1) f (by omega) (by omega) a (by rw[u,f]) (by rw[k.take,List.filter_append,d];simp[h]);exact⟨e,g,Ew s p,m,B⟩
    |false=>
     rw[h]at s;obtain⟨e,g,p,m,B⟩:=M (l.set i x) (i+1) (j+1) f (by omega) (by omega) (by simpa using a) (by rw[List.drop_set_of_lt (by omega),u,f])
      (by
       rw[k.take,List.filter_append, <- d];have:i<(l.set i x).length:=by simp;omega
       rw[List.take_add_one,XK this];simp[h,List.take_set_of_le])
     exact⟨e,g,Ew s p,m,B⟩
  have z:l0.take (t+1)=l0.take t++[T]:=by rw[List.take_add_one,E];rfl
  obtain⟨e,g,p,m,B⟩:=loop _ l0 t (t+1) rfl (by omega) (by omega) rfl rfl (by rw[z,List.filter_append,Qe1 Q];simp[R]);refine Q7 (Ea p.ev ?_);rw[<- B];exact Ez (by simp[Qiy e m])
theorem QaO{ι α:Type}{F:Nat->ι->Option α}{V:ι->α}:∀(L:List ι),(∀p∈L,Ev (λn=>F n p) (V p))->∃N,∀n,N<=n->∀p∈L,F n p=some (V p)
 |[],_=>⟨0,λ_ _ p hp=>by cases hp⟩
 |x::L,h=>by
  obtain⟨N,hN⟩:=QaO L λp hp=>h p (by simp[hp]);obtain⟨M,hM⟩:=h x (by simp);refine⟨N+M,λn hn p hp=>?_⟩;rcases X6.1 hp with rfl|hp
  .exact hM n (by omega)
  .exact hN n (by omega) p hp
theorem Ev.anyP{E R:Type}[DecidableEq R]{k:Nat->List E->Option R}{l:List E}{r:R}(h:∀p,p.Perm l->Ev (λn=>k n p) r):Ev (λn=>Go.Sw.anyP (k n) l) r:=by
 obtain⟨N,d⟩:=QaO (F:=λn p=>k n p) (V:=λ_=>r) (QbH l) λp a=>h p (Qcj l p a);exact⟨N,λn b=>QnT λp a=>d n b p (Qde l p a)⟩
theorem Ev.isNil{α R:Type}[DecidableEq R]{l:List α}{x y:Nat->Option R}{v:R}(b:l=[]->Ev x v)(a:Ev y v):Ev (λn=>Go.Sw.isNil l (x n) (y n)) v:=by
 unfold Go.Sw.isNil;cases q:l.isEmpty with
 |false=>exact a
 |true=>
  obtain⟨N,d⟩:=b (List.isEmpty_iff.1 q);obtain⟨M,e⟩:=a;exact⟨N+M,λn f=>by dsimp only;rw[d n (by omega),e n (by omega)];simp⟩
set_option maxRecDepth 4000
def openU(f:Fact):U_facts_open_rxk:=
 bif f.Kind==1 then .c0 ()else bif f.Kind==2 then .c1 ()else bif f.Kind==3 then .c2 ()else bif f.Kind==4 then .c3 ()else bif f.Kind==5 then .c4 ()else bif f.Kind==6 then .c5 ()
 else bif f.Kind==7 then .c6 ()else bif f.Kind==8 then .c7 ()else bif f.Kind==9 then .c8 ()else bif f.Kind==10 then
  (bif (f.Ruling.Kind==1)||(f.Ruling.Kind==2)then .c9 (0,0,0,0,0,0)else bif f.Ruling.Kind==3 then .c9 (1,9999,0,255,1,1099511627776)else bif f.Ruling.Kind==4 then .c9 (1,9999,0,255,1,64)else .c9 (1,9999,0,255,0,0))
 else bif f.Kind==11 then .c10 ()else bif f.Kind==12 then .c11 ()else bif f.Kind==13 then .c12 ()else .c13 ()
theorem Qjz(n:Nat)(f:Fact)(b:Int):F_au n f b=some (openU f):=by
 unfold F_au openU;cases(f.Kind==1)with
 |true=>rfl
 |false=>
 cases(f.Kind==2)with
 |true=>rfl
 |false=>
 cases(f.Kind==3)with
 |true=>rfl
 |false=>
 cases(f.Kind==4)with
 |true=>rfl
 |false=>
 cases(f.Kind==5)with
 |true=>rfl
 |false=>
 cases(f.Kind==6)with
 |true=>rfl
 |false=>
 cases(f.Kind==7)with
 |true=>rfl
 |false=>
 cases(f.Kind==8)with
 |true=>rfl
 |false=>
 cases(f.Kind==9)with
 |true=>rfl
 |false=>
 cases(f.Kind==10)with
 |true=>
  cases(f.Ruling.Kind==1)with
  |true=>rfl
  |false=>
  cases(f.Ruling.Kind==2)with
  |true=>rfl
  |false=>
  cases(f.Ruling.Kind==3)with
  |true=>rfl
  |false=>
  cases(f.Ruling.Kind==4)with
  |true=>rfl
  |false=>rfl
 |false=>
 cases(f.Kind==11)with
 |true=>rfl
 |false=>
 cases(f.Kind==12)with
 |true=>rfl
 |false=>
 cases(f.Kind==13)with
 |true=>rfl
 |false=>rfl
def headL:List Ent:=[⟨false,3,1,13⟩,⟨false,0,0,31⟩,⟨false,1,1,1048576⟩,⟨false,2,0,1099511627776⟩]
def bodyL:U_facts_open_rxk->List Ent
 |.c0 _=>[⟨false,4,1,9999⟩,⟨false,5,0,7⟩,⟨false,6,0,31⟩,⟨false,7,(-1099511627776),1099511627776⟩,⟨false,8,0,120⟩,⟨false,9,0,1048576⟩,⟨false,10,0,9999⟩,⟨false,11,0,1048576⟩]
 |.c1 _=>[⟨false,12,0,39⟩,⟨false,13,0,255⟩,⟨false,14,0,1048576⟩,⟨false,15,(-1099511627776),1099511627776⟩]
 |.c2 _=>[⟨false,16,0,39⟩,⟨false,17,0,255⟩,⟨false,18,(-1099511627776),1099511627776⟩,⟨false,19,(-1099511627776),1099511627776⟩,⟨false,20,0,1099511627776⟩]
 |.c3 _=>[⟨false,21,0,39⟩,⟨false,22,0,255⟩,⟨false,23,(-1099511627776),1099511627776⟩,⟨false,24,0,39⟩,⟨false,25,0,255⟩,⟨false,26,(-1099511627776),1099511627776⟩,⟨false,27,(-1099511627776),1099511627776⟩,⟨false,28,(-1099511627776),1099511627776⟩]
 |.c4 _=>[⟨false,29,1,9999⟩,⟨false,30,0,255⟩,⟨false,31,(-1099511627776),1099511627776⟩,⟨false,32,(-1099511627776),1099511627776⟩]
 |.c5 _=>[⟨false,33,0,39⟩,⟨false,34,0,255⟩,⟨false,35,(-1099511627776),1099511627776⟩,⟨false,36,(-1099511627776),1099511627776⟩]
 |.c6 _=>[⟨false,37,1,9999⟩,⟨false,38,1,9999⟩]
 |.c7 _=>[⟨false,39,1,1048576⟩,⟨false,40,1,9999⟩,⟨false,41,0,31⟩,⟨false,42,0,255⟩]
 |.c8 _=>[⟨false,43,1,1048576⟩,⟨false,44,0,9999⟩,⟨false,45,0,1125899906842624⟩,⟨false,46,0,1⟩]
 |.c9 x=>[⟨false,47,1,1048576⟩,⟨false,48,1,2⟩,⟨false,49,1,5⟩,⟨false,50,x.1,x.2.1⟩,⟨false,51,x.2.2.1,x.2.2.2.1⟩,⟨false,52,x.2.2.2.2.1,x.2.2.2.2.2⟩]
 |.c10 _=>[⟨false,53,1,1048576⟩,⟨true,0,0,1⟩]
 |.c11 _=>[]
 |.c12 _=>[⟨false,55,0,31⟩,⟨false,56,1,1048576⟩]
 |.c13 _=>[]
def fineU(f:Fact):U_facts_open_rxk->Bool
 |.c3 _=>decide (f.Sync.Min<=f.Sync.Max)
 |.c4 _=>decide (f.Hand.Lo<=f.Hand.Hi)
 |.c5 _=>decide (f.Silence.Lo<=f.Silence.Hi)
 |.c6 _=>decide (f.Pair.A<f.Pair.B)
 |.c13 _=>false
 |_=>true
def entsS(f:Fact):List Ent:=headL++bodyL (openU f)
def goodE(e:Ent):Bool:=bif e.fl then e.off==0 else decide (e.off<57)&& !(e.off==54)
theorem QkC(f:Fact):∀e∈entsS f,goodE e=true:=by
 have h:∀u:U_facts_open_rxk,(headL++bodyL u).all goodE=true:=by intro u;cases u<;>rfl
 exact Xs.1 (h (openU f))
theorem Qfg(f:Fact):(entsS f).length<=12:=by
 have h:∀u:U_facts_open_rxk,(headL++bodyL u).length<=12:=by intro u;cases u<;>exact XR rfl
 exact h (openU f)
def isI:Option A->Bool
 |some (.int .i64 _)=>true
 |_=>false
theorem Qo7{x:Option A}(h:isI x=true):∃v,x=some (.int .i64 v):=by
 unfold isI at h;split at h
 .exact⟨_,rfl⟩
 .cases h
theorem Ql2{f:Fact}{b:Int}{e:Ent}(h:goodE e=true):∃v,QfH (Fact.c f) b e=some v:=by
 unfold goodE at h;unfold QfH;cases a:e.fl with
 |true=>
  rw[a]at h;simp only[Vp]at h⊢;rw[h];exact⟨b,rfl⟩
 |false=>
  rw[a]at h;simp only[Vq,XW,Vr,Bool.not_eq_true']at h⊢;have all:(List.range 57).all (λo=>(o==54)||isI (Fact.c f)[o]?)=true:=by rfl
  have:=Xs.1 all e.off (List.mem_range.2 h.1);rw[h.2,Bool.false_or]at this;obtain⟨v,d⟩:=Qo7 this;rw[d];exact⟨v,rfl⟩
theorem Qlx{x:Fact}{s v:Int}{e:Ent}(h:goodE e=true):∃q,QiG Fact.put x s e v=some q:=by
 unfold goodE at h;unfold QiG;cases a:e.fl with
 |true=>
  rw[a]at h;simp only[Vp]at h⊢;rw[h];exact⟨_,rfl⟩
 |false=>
  rw[a]at h;simp only[Vq,XW,Vr,Bool.not_eq_true']at h⊢;have all:(List.range 57).all (λo=>(o==54)||(Fact.put x o v).isSome)=true:=by rfl
  have:=Xs.1 all e.off (List.mem_range.2 h.1);rw[h.2,Bool.false_or]at this;obtain⟨y,b⟩:=Option.isSome_iff_exists.1 this;rw[b];exact⟨_,rfl⟩
def getV(f:Fact)(b:Int)(e:Ent):Int:=(QfH (Fact.c f) b e).getD 0
def putV(x:Fact)(s:Int)(e:Ent)(v:Int):Fact×Int:=(QiG Fact.put x s e v).getD (x,s)
theorem Ql3{f:Fact}{b:Int}{e:Ent}(h:goodE e=true):QfH (Fact.c f) b e=some (getV f b e):=by
 obtain⟨v,a⟩:=Ql2 (f:=f) (b:=b) h;unfold getV;rw[a];rfl
theorem QoG{x:Fact}{s v:Int}{e:Ent}(h:goodE e=true):QiG Fact.put x s e v=some (putV x s e v):=by
 obtain⟨q,a⟩:=Qlx (x:=x) (s:=s) (v:=v) h;unfold putV;rw[a];rfl
def inE(f:Fact)(b:Int)(e:Ent):Bool:= !(decide (getV f b e<e.lo))&& !(decide (e.hi<getV f b e))
def numR(f:Fact)(b:Int):List Ent->List Int×Fact×Int->Ctl (List Int×Fact×Int) (List Int×Bool)
 |[],a=>.cont a
 |e::r,a=>bif inE f b e then numR f b r (a.1++[getV f b e],putV a.2.1 a.2.2 e (getV f b e))else .done ([],false)
theorem Qg7{α:Type}(l m:List α)(h:l.length+m.length<=1000):app l m=some (l++m):=by
 unfold app;have:Nat.ble (l.length+m.length) Q9=true:=XS (XV h (by decide));rw[this];rfl
theorem Qnt(f:Fact)(b:Int)(E:List Ent)(hE:∀e∈E,goodE e=true)(u:E.length<=12):∀(r:List Ent) (i:Nat) (a:List Int×Fact×Int),E.drop i=r->i<=E.length->a.1.length=i->
  EvI (λn=>F_eb n f b E E) (a.1,a.2.1,a.2.2,(i:Int)) (numR f b r a):=by
 intro r
 induction r with
 |nil=>
  intro i a j p g;refine Ej ?_;unfold F_eb;simp only[Yx j p,Vq];exact Qa _
 |cons e r s=>
  intro i a j p m;obtain⟨g,k⟩:=QN (by omega) j;have l:=hE e g.mem;have t:=g.lt';unfold numR;cases d:inE f b e with
  |true=>
   have h:=d;unfold inE at h;simp only[XW,Bool.not_eq_true']at h;refine Ew ?_ (s (i+1) (a.1++[getV f b e],putV a.2.1 a.2.2 e (getV f b e)) k (by omega) (by simp[m]));unfold F_eb;simp only[g.lt,Vp,g.ix,XJ,g.nx,Ql3 l,h.1,h.2,Vq,QoG l];rw[Qg7 a.1 [getV f b e] (by simp;omega)];exact Qa _
  |false=>
   refine Ej ?_;unfold F_eb;simp only[g.lt,Vp,g.ix,XJ,Ql3 l];unfold inE at d;cases q:decide (getV f b e<e.lo)with
   |true=>exact Qa _
   |false=>
    rw[q]at d;simp only[Xh,VA,Bool.not_eq_false']at d;simp only[Vq,d,Vp];exact Qa _
def suspB(f:Fact):Int:=bif f.Appeal.Suspends then 1 else 0
def restS(f:Fact):Fact:={Ul with Ruling:={Ur with Kind:=f.Ruling.Kind:Ruling},Kind:=f.Kind:Fact}
def lastF(f x:Fact)(s:Int):Fact:=
 let y:Fact:=bif f.Kind != 10 then {x with Ruling:={x.Ruling with Kind:=0:Ruling}:Fact}else x
 {y with Appeal:={Case:=y.Appeal.Case,Suspends:=s==1:Appeal}:Fact}
def numF(f:Fact):List Int×Bool:=bif fineU f (openU f)then(match numR f (suspB f) (entsS f) ([],restS f,0)with
  |.cont a=>(a.1,lastF f a.2.1 a.2.2==f)
  |.done r=>r)else([],false)
theorem QkF(n:Nat)(f:Fact):F_bk n ({Ul with Ruling:={Ur with Kind:=f.Ruling.Kind:Ruling}:Fact}) 0 f=some (entsS f):=by
 have a:openU ({({Ul with Ruling:={Ur with Kind:=f.Ruling.Kind:Ruling}:Fact})with Kind:=f.Kind:Fact})=openU f:=rfl;unfold F_bk entsS;rw[Qjz];simp only[XJ];rw[a];unfold F_at;generalize openU f=u;cases u<;>(simp only[XJ];unfold bodyL;exact congrArg (Option.bind · _) (Qg7 _ _ (by simp)))
theorem QjQ(f:Fact):Ev (λn=>F_as n f) (numF f):=by
 unfold F_as;refine Ea (v:=suspB f) ?_ ?_
 .unfold suspB;cases f.Appeal.Suspends<;>exact Qa _
 refine Ea (v:=bif fineU f (openU f)then .cont (bodyL (openU f))else .done ([],false)) ?_ ?_
 .simp only[Qjz,XJ];unfold F_b F_do F_fu F_dm F_dv;generalize openU f=u;cases u with
  |c3=>unfold fineU;cases decide (f.Sync.Min<=f.Sync.Max)<;>exact Qa _
  |c4=>unfold fineU;cases decide (f.Hand.Lo<=f.Hand.Hi)<;>exact Qa _
  |c5=>unfold fineU;cases decide (f.Silence.Lo<=f.Silence.Hi)<;>exact Qa _
  |c6=>unfold fineU;cases decide (f.Pair.A<f.Pair.B)<;>exact Qa _
  |_=>exact Qa _
 unfold numF;cases fineU f (openU f)with
 |false=>exact Qa _
 |true=>
  simp only[Vp];have e:app headL (bodyL (openU f))=some (entsS f):=Qg7 _ _ (by have:=Qfg f;unfold entsS at this;rw[X3]at this;omega);unfold F_at;simp only[XJ];refine Ea (Ez e) ?_;refine Ea (Ez (QkF 0 f)) ?_;refine Ea (Qnt f (suspB f) (entsS f) (QkC f) (Qfg f) (entsS f) 0 ([],restS f,0) rfl (XU _) rfl).ev ?_;cases numR f (suspB f) (entsS f) ([],restS f,0)with
  |done r=>exact Qa _
  |cont a=>
   simp only;refine Ea (v:=bif f.Kind != 10 then {a.2.1 with Ruling:={a.2.1.Ruling with Kind:=0:Ruling}:Fact}else a.2.1) ?_ (Qa _);cases(f.Kind != 10)<;>exact Qa _
def validS(f:Fact):Bool:=(numF f).2
theorem QfJ(f:Fact):Ev (λn=>F_bo n f) (bif validS f then 0 else 120):=by
 unfold F_bo;refine Ea (QjQ f) ?_;unfold validS;cases(numF f).2<;>exact Qa _
theorem Qiu{f:Fact}(h:validS f=true):(f.Kind==0)=false:=by
 cases q:(f.Kind==0)with
 |false=>rfl
 |true=>
  have b:f.Kind=0:=by simpa using q
  have a:openU f=.c13 ():=by unfold openU;rw[b];rfl
  unfold validS numF at h;rw[a]at h;cases h
set_option maxRecDepth 4000
def numN(v:Nat):List Int:=if h:128<=v then orI .u8 (IntKind.u8.wrap (v:Int)) 128::numN (v/128)else[IntKind.u8.wrap (v:Int)]
termination_by v
decreasing_by omega
theorem QeQ{v:Nat}(h:128<=v):numN v=orI .u8 (IntKind.u8.wrap (v:Int)) 128::numN (v/128):=by
 rw[numN,dif_pos h]
theorem QaI{v:Nat}(h:¬128<=v):numN v=[IntKind.u8.wrap (v:Int)]:=by
 rw[numN,dif_neg h]
theorem shr7(v:Nat):QX .u64 (v:Int) 7=((v/128:Nat):Int):=by
 show Int.fdiv (v:Int) (2^7)=_;rw[Int.fdiv_eq_ediv_of_nonneg _ (by decide)];omega
theorem QlP:∀(k v:Nat),v<128^(k+1)->(numN v).length<=k+1:=by
 intro k
 induction k with
 |zero=>
  intro v a;rw[QaI (by omega)];simp
 |succ k b=>
  intro v a;by_cases h:128<=v
  .rw[QeQ h,X0];have:=b (v/128) (by rw[Nat.div_lt_iff_lt_mul (by decide)];rw[Nat.pow_succ]at a;exact a);omega
  .rw[QaI h];simp
theorem QgI:∀(k v:Nat) (l:List Int),v<128^(k+1)->l.length+k<4294967296->∃(l':List Int) (a:Nat),EvI (λn=>F_ew n) (l,(v:Int)) (l',(a:Int))/\l'++[IntKind.u8.wrap (a:Int)]=l++numN v/\l'.length<=l.length+k:=by
 intro k
 induction k with
 |zero=>
  intro v l b g;refine⟨l,v,Ej ?_,by rw[QaI (by omega)],XT _⟩;unfold F_ew;simp only[QG (show¬(128:Int)<=(v:Int)by omega),Vq];exact Qa _
 |succ k i=>
  intro v l b g;by_cases h:128<=v
  .obtain⟨l',a,e,f,d⟩:=i (v/128) (l++[orI .u8 (IntKind.u8.wrap (v:Int)) 128]) (by rw[Nat.div_lt_iff_lt_mul (by decide)];rw[Nat.pow_succ]at b;exact b) (by simp;omega);refine⟨l',a,Ew ?_ e,?_,?_⟩
   .unfold F_ew;simp only[QO (show(128:Int)<=(v:Int)by omega),Vp,shr7];rw[Qbp l _ (by omega)];exact Qa _
   .rw[f,QeQ h];simp
   .simp at d;omega
  .refine⟨l,v,Ej ?_,by rw[QaI h],by omega⟩;unfold F_ew;simp only[QG (show¬(128:Int)<=(v:Int)by omega),Vq];exact Qa _
theorem Qfd(v:Nat)(l:List Int)(a:v<18446744073709551616)(h:l.length<=1000000):Ev (λn=>F_ab n l (v:Int)) (l++numN v):=by
 obtain⟨d,f,b,e,g⟩:=QgI 9 v l (Vf a (by decide)) (by omega);unfold F_ab;refine Ea b.ev ?_;simp only;rw[Qbp d _ (by omega),e];exact Qa _
theorem QeO{v:Nat}(hv:v<18446744073709551616):(numN v).length<=10:=QlP 9 v (Vf hv (by decide))
def zigI(x:Int):Int:=Qes .u64 (QeA .u64 (IntKind.u64.wrap x) 1) (IntKind.u64.wrap (QX .i64 x 63))
theorem wrapU(x:Int):0<=IntKind.u64.wrap x/\IntKind.u64.wrap x<18446744073709551616:=by
 have e:IntKind.u64.wrap x=x%18446744073709551616:=by
  unfold IntKind.wrap;rfl
 rw[e];omega
theorem Qgx(x:Int):∃z:Nat,zigI x=(z:Int)/\z<18446744073709551616:=by
 have h:=wrapU ((BitVec.ofInt IntKind.u64.bits (QeA .u64 (IntKind.u64.wrap x) 1)^^^BitVec.ofInt IntKind.u64.bits (IntKind.u64.wrap (QX .i64 x 63))).toNat);refine⟨(zigI x).toNat,?_,?_⟩
 .unfold zigI Qes;omega
 .unfold zigI Qes;omega
def oneB(x:Int):List Int:=1::numN (zigI x).toNat
theorem Qhy(x:Int):(oneB x).length<=11:=by
 obtain⟨z,a,b⟩:=Qgx x;unfold oneB;rw[a];have:=QeO b;simp;omega
theorem QhX(l:List Int)(x:Int)(e:l.length<=100000):Ev (λn=>F_an n l ({Kind:=1,N:=x,S:=[],L:=[]:Value})) (l++oneB x):=by
 unfold F_an F_bb;rw[Qbp l 1 (by omega)];simp only[XJ];obtain⟨z,b,d⟩:=Qgx x;have a:=b;unfold zigI at a;rw[a];refine Ea (Qfd z (l++[1]) d (by simp;omega)) ((Qa _).eq ?_);unfold oneB;rw[b];simp
def mkV(x:Int):Value:={Kind:=1,N:=x,S:=[],L:=[]:Value}
def listV(l:List Int):Value:={Kind:=3,N:=0,S:=[],L:=l.map mkV:Value}
theorem QiR(x:Int):Ev (λn=>F_g n (mkV x)) (0,true):=by
 refine Y4 ?_;show Ev (λn=>B_g (F_g n) n (mkV x)) _;unfold B_g mkV;simp only;cases(x==0)with
 |true=>exact Qa _
 |false=>exact Qa _
theorem QhK(l:List Int)(f:l.length<=1000):Ev (λn=>F_g n (listV l)) (1,true):=by
 refine Y4 ?_;show Ev (λn=>B_g (F_g n) n (listV l)) _;unfold B_g listV;simp only;refine Ea (v:=[false,(((l.map mkV).length:Int)==0),(((l.map mkV).length:Int)==0),true]) (Qa _) ?_;refine Ea (v:=false) (Qa _) ?_;refine Ea (v:=(Ctl.cont (0:Int):Ctl Int (Int×Bool))) ?_ (Qa _);refine Ev.iter (λi=>((0:Int),(i:Int))) (l.map mkV).length rfl (λi d=>?_) ?_
 .have a:=Jb (x:=(l.map mkV)[i]) (show(l.map mkV).length<=4611686018427387904 by rw[X2];omega) (XK d);have e:∃y,(l.map mkV)[i]=mkV y:=by
   rw[List.getElem_map];exact⟨_,rfl⟩
  obtain⟨y,b⟩:=e;unfold F_ht;simp only[a.lt,Vp,a.ix,XJ,a.nx];rw[b];exact Ea (QiR y) (Qa _)
 .unfold F_ht;simp only[Qco,Vq];exact Qa _
def listB(l:List Int):List Int:=[3]++numN l.length++(l.map oneB).flatten
theorem QgU(l:List Int)(z:l.length<=1000):Ev (λn=>F_cs n (listV l)) (listB l):=by
 unfold F_cs;have p:app ([]:List Int) [3]=some [3]:=rfl;rw[p];simp only[XJ];have r:IntKind.u64.wrap (((listV l).L.length:Int))=((l.length:Nat):Int):=by
  have:IntKind.u64.wrap (((listV l).L.length:Int))=(((listV l).L.length:Int))%18446744073709551616:=by unfold IntKind.wrap;rfl
  rw[this];unfold listV;rw[X2];omega
 rw[r];have w:=QeO (show l.length<18446744073709551616 by omega);refine Ea (Qfd l.length [3] (by omega) (by simp)) ?_;refine Ea (v:=listB l) ?_ (Qa _);have k:∀m:List Int,(m.map oneB).flatten.length<=11*m.length:=by
  intro m
  induction m with
  |nil=>simp
  |cons x m e=>
   have:=Qhy x;simp only[Vj,Vl,X3,X0];omega
 have h:=QaC (step:=λn=>F_gn n (listV l)) (l.map mkV) (λ(a:List Int) (v:Value)=>a++oneB v.N) ([3]++numN l.length) (λa i=>(a,(i:Int))) (λa=>a) (by rw[X2];omega) rfl (λi x a d t=>?_) ?_
 .refine Ev.eq h ?_;have:∀(m:List Int) (a:List Int),(m.map mkV).foldl (λ(a:List Int) (v:Value)=>a++oneB v.N) a=a++(m.map oneB).flatten:=by
   intro m
   induction m with
   |nil=>intro a;simp
   |cons x m e=>intro a;simp only[Vj,XD,Vl];rw[e];simp[mkV]
  rw[this];rfl
 .have s:∃y,x=mkV y:=by
   obtain⟨y,_,u⟩:=Xe.1 d.mem;exact⟨y,u.symm⟩
  obtain⟨y,rfl⟩:=s;have g:a.length<=100000:=by
   have:∀(m:List Int) (a:List Int),((m.map mkV).foldl (λ(a:List Int) (v:Value)=>a++oneB v.N) a).length<=a.length+11*m.length:=by
    intro m
    induction m with
    |nil=>intro a;simp
    |cons x m e=>
     intro a;simp only[Vj,XD,X0];have q:=e (a++oneB (mkV x).N);have j:=Qhy (mkV x).N;rw[X3]at q;omega
   have j:=this (l.take i) ([3]++numN l.length);rw[List.map_take, <- t,X3,Xy]at j;simp at j;omega
  unfold F_gn;have b:decide ((i:Int)<((listV l).L.length:Int))=true:=d.lt;have f:idx (listV l).L (i:Int)=some (mkV y):=d.ix;simp only[b,Vp,f,XJ,d.nx];refine Ea (QhX a y g) ?_;exact Qa _
 .unfold F_gn;have b:decide (((l.map mkV).length:Int)<((listV l).L.length:Int))=false:=Qco _;simp only[b,Vq];exact Qa _
theorem QlO{f:Fact}{b:Int}:∀(r:List Ent) (a c:List Int×Fact×Int),numR f b r a=.cont c->c.1.length=a.1.length+r.length:=by
 intro r
 induction r with
 |nil=>intro a c h;cases h;rfl
 |cons e r d=>
  intro a c h;unfold numR at h;cases q:inE f b e with
  |false=>rw[q]at h;cases h
  |true=>
   rw[q]at h;have:=d _ _ h;simp at this;rw[this,X0];omega
theorem QlQ(f:Fact):(numF f).1.length<=12:=by
 unfold numF;cases fineU f (openU f)with
 |false=>simp
 |true=>
  simp only[Vp];cases h:numR f (suspB f) (entsS f) ([],restS f,0)with
  |cont a=>
   have:=QlO _ _ _ h;have:=Qfg f;simp at*;omega
  |done r=>
   have:∀(E:List Ent) (a:List Int×Fact×Int),numR f (suspB f) E a=.done r->r=([],false):=by
    intro E
    induction E with
    |nil=>intro a h;cases h
    |cons e E ih=>
     intro a h;unfold numR at h;cases q:inE f (suspB f) e with
     |false=>rw[q]at h;cases h;rfl
     |true=>rw[q]at h;exact ih _ h
   rw[this _ _ h];simp
def encF(f:Fact):List Int×Int:=bif validS f then(listB (numF f).1,0)else([],120)
theorem Qgc(f:Fact):Ev (λn=>F_aq n f) (encF f):=by
 unfold F_aq;refine Ea (QjQ f) ?_;have l:=QlQ f;unfold encF validS;generalize numF f=r at*;cases h:r.2 with
 |false=>exact Qa _
 |true=>
  simp only[Xg,Vq,Vp];refine Ea (v:=r.1.map mkV) ?_ ?_
  .refine Ev.eq (QaC r.1 (λ(a:List Value) (x:Int)=>a++[mkV x]) [] (λa i=>(a,(i:Int))) (λa=>a) (by omega) rfl (λi x a b k=>?_) ?_) ?_
   .unfold F_hp;simp only[b.lt,Vp,b.ix,XJ,b.nx];have g:a.length<=12:=by
     have:∀(m:List Int) (a:List Value),(m.foldl (λ(a:List Value) (x:Int)=>a++[mkV x]) a).length=a.length+m.length:=by
      intro m
      induction m with
      |nil=>intro a;simp
      |cons x m d=>intro a;simp only[XD,X0];rw[d];simp;omega
     rw[k,this,Xy];simp;omega
    have e:=Qbp a (mkV x) (by omega);unfold mkV at e;rw[e];exact Qa _
   .unfold F_hp;simp only[Qco,Vq];exact Qa _
   .have:∀(m:List Int) (a:List Value),m.foldl (λ(a:List Value) (x:Int)=>a++[mkV x]) a=a++m.map mkV:=by
     intro m
     induction m with
     |nil=>intro a;simp
     |cons x m d=>intro a;simp only[XD,Vj];rw[d];simp
    rw[this];rfl
  refine Ea (v:=(listB r.1,0)) ?_ (Qa _);have j:=QhK r.1 (by omega);unfold F_fl F_fd;have e:({Kind:=3,N:=0,S:=[],L:=r.1.map mkV:Value})=listV r.1:=rfl;rw[e];refine Ea (v:=0) (Ea j (Qa _)) ?_;unfold F_ez;exact Ea (QgU r.1 (by omega)) (Qa _)
def cmpI(a b:Int):Int:=bif decide (a<b)then-1 else bif decide (b<a)then 1 else 0
theorem QjR(n:Nat)(a b:Int):F_k n a b=some (cmpI a b):=by
 unfold F_k F_bd cmpI;simp only[XJ,bne_self_eq_false,Vq];cases decide (a<b)with
 |true=>rfl
 |false=>cases decide (b<a)<;>rfl
def orL:List Int->Int
 |[]=>0
 |x::r=>bif x != 0 then x else orL r
theorem Qog(l:List Int)(k:l.length<=1000):Ev (λn=>F_ar n l) (orL l):=by
 unfold F_ar;have loop:∀(r:List Int) (i:Nat),l.drop i=r->i<=l.length->EvI (λn=>F_ep n l) (i:Int) (bif orL r==0 then Ctl.cont ()else Ctl.done (orL r)):=by
  intro r
  induction r with
  |nil=>
   intro i b f;refine Ej ?_;unfold F_ep;simp only[Yx b f,Vq];exact Qa _
  |cons x r g=>
   intro i b f;obtain⟨a,d⟩:=QN (by omega) b;have j:=a.lt';unfold orL;cases q:(x != 0)with
   |true=>
    have e:(x==0)=false:=by simpa[bne]using q
    simp only[Vp,e,Vq];refine Ej ?_;unfold F_ep;simp only[a.lt,Vp,a.ix,XJ,q];exact Qa _
   |false=>
    simp only[Vq];refine Ew ?_ (g (i+1) d (by omega));unfold F_ep;simp only[a.lt,Vp,a.ix,XJ,q,Vq,a.nx];exact Qa _
 refine Ea (loop l 0 rfl (XU _)).ev ?_;cases h:(orL l==0)with
 |true=>
  have e:orL l=0:=by simpa using h
  rw[e];exact Qa _
 |false=>exact Qa _
def cmpF(f g:Fact):Int:=bif orL [cmpI f.At g.At,cmpI f.Crew g.Crew,cmpI f.No g.No] != 0 then orL [cmpI f.At g.At,cmpI f.Crew g.Crew,cmpI f.No g.No]else cmpB (encF f).1 (encF g).1
theorem QiX(f g:Fact):Ev (λn=>F_bw n f g) (cmpF f g):=by
 unfold F_bw cmpF;simp only[QjR,XJ];refine Ea (Qog _ (by simp)) ?_;cases(orL [cmpI f.At g.At,cmpI f.Crew g.Crew,cmpI f.No g.No] != 0)with
 |true=>exact Qa _
 |false=>
  simp only[Vq];refine Ea (Qgc f) (Ea (Qgc g) ?_);exact Qa _
theorem QnC{n:Nat}(h:n<=1048576):Nat.ble n Q9=true:=XS (XV h (by decide))
theorem Qpw{a b:Int}:cmpI a b=0↔a=b:=by
 unfold cmpI;by_cases h:a<b
 .rw[Vu h];simp;omega
 .rw[Vx h];by_cases d:b<a
  .rw[Vu d];simp;omega
  .rw[Vx d];simp;omega
set_option maxRecDepth 4000
theorem Qns(f:Fact)(b:Int):∀(E:List Ent) (a:List Int×Fact×Int),numR f b E a=bif E.all (inE f b)then .cont (a.1++E.map (getV f b),E.foldl (λp e=>putV p.1 p.2 e (getV f b e)) a.2)else .done ([],false):=by
 intro E
 induction E with
 |nil=>intro a;simp[numR]
 |cons e E ih=>
  intro a;unfold numR;rw[List.all_cons];cases h:inE f b e with
  |false=>rfl
  |true=>
   simp only[Vp,VA,Vj,XD];rw[ih];simp
def onlyS(f:Fact):Fact:={Crew:=f.Crew,No:=f.No,At:=f.At,Kind:=f.Kind,Starter:=(bif f.Kind==1 then f.Starter else Ul.Starter),Read:=(bif f.Kind==2 then f.Read else Ul.Read),Beacon:=(bif f.Kind==3 then f.Beacon else Ul.Beacon),Sync:=(bif f.Kind==4 then f.Sync else Ul.Sync),Hand:=(bif f.Kind==5 then f.Hand else Ul.Hand),Silence:=(bif f.Kind==6 then f.Silence else Ul.Silence),Pair:=(bif f.Kind==7 then f.Pair else Ul.Pair),Report:=(bif f.Kind==8 then f.Report else Ul.Report),Protest:=(bif f.Kind==9 then f.Protest else Ul.Protest),Ruling:=(bif f.Kind==10 then f.Ruling else Ul.Ruling),Appeal:=(bif f.Kind==11 then f.Appeal else Ul.Appeal),Void:=(bif f.Kind==13 then f.Void else Ul.Void):Fact}
def numsS(f:Fact):List Int:=[f.Kind,f.Crew,f.No,f.At]++(
 bif f.Kind==1 then[f.Starter.Bib,f.Starter.Distance,f.Starter.Wave,f.Starter.Slot,f.Starter.Age,f.Starter.Chip,f.Starter.Team,f.Starter.Lot]
 else bif f.Kind==2 then[f.Read.Mat,f.Read.Epoch,f.Read.Chip,f.Read.Local]
 else bif f.Kind==3 then[f.Beacon.Mat,f.Beacon.Epoch,f.Beacon.Local,f.Beacon.True,f.Beacon.Err]
 else bif f.Kind==4 then[f.Sync.MatA,f.Sync.EpochA,f.Sync.LocalA,f.Sync.MatB,f.Sync.EpochB,f.Sync.LocalB,f.Sync.Min,f.Sync.Max]
 else bif f.Kind==5 then[f.Hand.Bib,f.Hand.Position,f.Hand.Lo,f.Hand.Hi]
 else bif f.Kind==6 then[f.Silence.Mat,f.Silence.Epoch,f.Silence.Lo,f.Silence.Hi]
 else bif f.Kind==7 then[f.Pair.A,f.Pair.B]
 else bif f.Kind==8 then[f.Report.Case,f.Report.Bib,f.Report.Offence,f.Report.Position]
 else bif f.Kind==9 then[f.Protest.Case,f.Protest.By,f.Protest.Fee,f.Protest.Form]
 else bif f.Kind==10 then[f.Ruling.Case,f.Ruling.Instance,f.Ruling.Kind,f.Ruling.Bib,f.Ruling.Position,f.Ruling.Amount]
 else bif f.Kind==11 then[f.Appeal.Case,suspB f]
 else bif f.Kind==13 then[f.Void.Crew,f.Void.No]else[])
theorem kinds(f:Fact):f.Kind=1\/f.Kind=2\/f.Kind=3\/f.Kind=4\/f.Kind=5\/f.Kind=6\/f.Kind=7\/f.Kind=8\/f.Kind=9\/f.Kind=10\/f.Kind=11\/f.Kind=12\/f.Kind=13\/openU f=.c13 ():=by
 by_cases i:f.Kind=1; · exact .inl i
 by_cases p:f.Kind=2; · exact .inr (.inl p)
 by_cases j:f.Kind=3; · exact .inr (.inr (.inl j))
 by_cases h:f.Kind=4; · exact .inr (.inr (.inr (.inl h)))
 by_cases k:f.Kind=5; · exact .inr (.inr (.inr (.inr (.inl k))))
 by_cases l:f.Kind=6; · exact .inr (.inr (.inr (.inr (.inr (.inl l)))))
 by_cases g:f.Kind=7; · exact .inr (.inr (.inr (.inr (.inr (.inr (.inl g))))))
 by_cases m:f.Kind=8; · exact .inr (.inr (.inr (.inr (.inr (.inr (.inr (.inl m)))))))
 by_cases n:f.Kind=9; · exact .inr (.inr (.inr (.inr (.inr (.inr (.inr (.inr (.inl n))))))))
 by_cases a:f.Kind=10; · exact .inr (.inr (.inr (.inr (.inr (.inr (.inr (.inr (.inr (.inl a)))))))))
 by_cases e:f.Kind=11; · exact .inr (.inr (.inr (.inr (.inr (.inr (.inr (.inr (.inr (.inr (.inl e))))))))))
 by_cases d:f.Kind=12; · exact .inr (.inr (.inr (.inr (.inr (.inr (.inr (.inr (.inr (.inr (.inr (.inl d)))))))))))
 by_cases b:f.Kind=13; · exact .inr (.inr (.inr (.inr (.inr (.inr (.inr (.inr (.inr (.inr (.inr (.inr (.inl b))))))))))))
 refine .inr (.inr (.inr (.inr (.inr (.inr (.inr (.inr (.inr (.inr (.inr (.inr (.inr ?_))))))))))));unfold openU;simp only[Vz.2 i,Vz.2 p,Vz.2 j,Vz.2 h,Vz.2 k,Vz.2 l,Vz.2 g,Vz.2 m,Vz.2 n,Vz.2 a,Vz.2 e,Vz.2 d,Vz.2 b,Vq]
def copyS(f:Fact):Fact×Int:=(entsS f).foldl (λp e=>putV p.1 p.2 e (getV f (suspB f) e)) (restS f,0)
theorem QgJ(f:Fact):numF f=bif fineU f (openU f)then(bif (entsS f).all (inE f (suspB f))then((entsS f).map (getV f (suspB f)),lastF f (copyS f).1 (copyS f).2==f)else([],false))else([],false):=by
 unfold numF;rw[Qns];cases fineU f (openU f)with
 |false=>rfl
 |true=>
  simp only[Vp];cases(entsS f).all (inE f (suspB f))with
  |false=>rfl
  |true=>simp only[Vp,Vh];rfl
theorem Qdo(f:Fact)(h:¬openU f=.c13 ()):lastF f (copyS f).1 (copyS f).2=onlyS f/\(entsS f).map (getV f (suspB f))=numsS f:=by
 rcases kinds f with k|k|k|k|k|k|k|k|k|k|k|k|k|k
 case inr.inr.inr.inr.inr.inr.inr.inr.inr.inr.inl=>
  obtain⟨Cr,No,At,Ki,S,R,B,Sy,Ha,Si,Pa,Re,Pr,Ru,⟨Ca,Su⟩,Vo⟩:=f;simp only at k;subst k;cases Su<;>exact⟨by kernel_rfl,by kernel_rfl⟩
 case inr.inr.inr.inr.inr.inr.inr.inr.inr.inl=>
  obtain⟨Cr,No,At,Ki,S,R,B,Sy,Ha,Si,Pa,Re,Pr,⟨d,i,a,g,b,e⟩,Ap,Vo⟩:=f;simp only at k;subst k;have:∃x,openU ⟨Cr,No,At,10,S,R,B,Sy,Ha,Si,Pa,Re,Pr,⟨d,i,a,g,b,e⟩,Ap,Vo⟩=.c9 x:=by
   unfold openU;show∃x,(bif (a==1)||(a==2)then U_facts_open_rxk.c9 (0,0,0,0,0,0)else bif a==3 then .c9 (1,9999,0,255,1,1099511627776)else bif a==4 then .c9 (1,9999,0,255,1,64)else .c9 (1,9999,0,255,0,0))=.c9 x;cases((a==1)||(a==2))with
   |true=>exact⟨_,rfl⟩
   |false=>
    cases(a==3)with
    |true=>exact⟨_,rfl⟩
    |false=>cases(a==4)<;>exact⟨_,rfl⟩
  obtain⟨x,j⟩:=this;unfold copyS entsS;rw[j];exact⟨by kernel_rfl,by kernel_rfl⟩
 case inr.inr.inr.inr.inr.inr.inr.inr.inr.inr.inr.inr.inr=>exact absurd k h
 all_goals
  obtain⟨Cr,No,At,Ki,S,R,B,Sy,Ha,Si,Pa,Re,Pr,Ru,Ap,Vo⟩:=f;simp only at k;subst k;exact⟨by kernel_rfl,by kernel_rfl⟩
def contS(f:Fact):Bool:=fineU f (openU f)&&(bodyL (openU f)).all (inE f (suspB f))
def headS(f:Fact):Bool:=headL.all (inE f (suspB f))
theorem Qc6(f:Fact):validS f=(headS f&&contS f&&(onlyS f==f)):=by
 unfold validS contS headS;rw[QgJ];by_cases h:openU f=.c13 ()
 .have:fineU f (openU f)=false:=by rw[h];rfl
  rw[this];simp
 .obtain⟨a,b⟩:=Qdo f h;rw[a];unfold entsS;rw[List.all_append];cases fineU f (openU f)with
  |false=>simp
  |true=>
   cases headL.all (inE f (suspB f))with
   |false=>rfl
   |true=>cases(bodyL (openU f)).all (inE f (suspB f))<;>rfl
theorem Qit{f:Fact}(h:validS f=true):(numF f).1=numsS f:=by
 have g:=h;unfold validS at h;rw[QgJ]at h⊢;by_cases q:openU f=.c13 ()
 .have:fineU f (openU f)=false:=by rw[q];rfl
  rw[this]at h;cases h
 .obtain⟨e,d⟩:=Qdo f q;cases a:fineU f (openU f)with
  |false=>rw[a]at h;cases h
  |true=>
   rw[a]at h;cases b:(entsS f).all (inE f (suspB f))with
   |false=>rw[b]at h;cases h
   |true=>exact d
theorem Qeu{f:Fact}(h:validS f=true):onlyS f=f:=by
 rw[Qc6]at h;simp only[XW,Vy]at h;exact h.2
theorem QlN{f g:Fact}(a:validS f=true)(hg:validS g=true)(h:numsS f=numsS g):f=g:=by
 have n:=Qeu a;have d:=Qeu hg;rw[<- n, <- d];unfold numsS at h;have j:f.Kind=g.Kind:=by
  simp only[VK,List.cons.injEq]at h;exact h.1
 have nk:=Qiu a;rcases kinds f with k|k|k|k|k|k|k|k|k|k|k|k|k|k
 case inr.inr.inr.inr.inr.inr.inr.inr.inr.inr.inr.inr.inr=>
  rw[Qc6]at a;unfold contS at a;rw[k]at a;simp[fineU]at a
 all_goals
  have m:=j.symm.trans k;clear a hg j nk n d;obtain⟨Cr,No,At,Ki,⟨s1,s2,s3,s4,s5,s6,s7,s8⟩,⟨q,ai,Y,al⟩,⟨b1,b2,b3,b4,b5⟩,⟨y1,y2,y3,y4,y5,y6,y7,y8⟩,⟨h1,h2,h3,h4⟩,⟨i1,i2,i3,i4⟩,⟨p1,p2⟩,⟨u1,u2,u3,u4⟩,⟨o1,o2,o3,o4⟩,⟨r1,r2,r3,r4,r5,r6⟩,⟨a1,a2⟩,⟨v1,v2⟩⟩:=f;obtain⟨Cr',No',At',Ki',⟨a0,ax,t,az,an,R,M,ar⟩,⟨i,l,p,e⟩,⟨a3,B,aw,ae,V⟩,⟨O,au,ad,aj,x,ay,u,am⟩,⟨P,w,ak,ah⟩,⟨J,ag,av,y⟩,⟨ab,z⟩,⟨H,F,G,N⟩,⟨L,ac,ao,E⟩,⟨aq,s,T,r,X,aa⟩,⟨af,b⟩,⟨W,Q⟩⟩:=g;simp only at k m;subst k;subst m
  first
   |(simp[suspB]at h;simp[onlyS,h];done)
   |(cases a2<;>cases b<;>simp[suspB]at h<;>simp[onlyS,h])
set_option maxRecDepth 4000
theorem Qgz(x:Int):IntKind.u64.wrap x=x%18446744073709551616:=by unfold IntKind.wrap;rfl
theorem Qir(x:Int):IntKind.u8.wrap x=x%256:=by unfold IntKind.wrap;rfl
theorem or8(a b:Int):orI .u8 a b=(((BitVec.ofInt 8 a|||BitVec.ofInt 8 b).toNat:Nat):Int)%256:=by unfold orI;exact Qir _
theorem Qn2(a b:Int):Qes .u64 a b=(((BitVec.ofInt 64 a^^^BitVec.ofInt 64 b).toNat:Nat):Int)%18446744073709551616:=by unfold Qes;exact Qgz _
theorem or128(v:Nat):orI .u8 (IntKind.u8.wrap (v:Int)) 128=((v%128+128:Nat):Int):=by
 have a:∀m:Fin 256,((BitVec.ofNat 8 m.val|||128#8).toNat)=m.val%128+128:=by decide
 have d:v%256<256:=Nat.mod_lt _ (by decide);have k:(BitVec.ofNat 8 (v%256)|||128#8).toNat=v%256%128+128:=a ⟨v%256,d⟩;have e:BitVec.ofInt 8 ((v:Int)%256)=BitVec.ofNat 8 (v%256):=by
  have:((v:Int)%256)=((v%256:Nat):Int):=by omega
  rw[this];exact BitVec.ofInt_natCast 8 (v%256)
 have b:BitVec.ofInt 8 128=128#8:=by rfl
 rw[or8,Qir,e,b,k];omega
theorem Qdj(v:Nat):numN v=if 128<=v then((v%128+128:Nat):Int)::numN (v/128)else[(v:Int)]:=by
 by_cases h:128<=v
 .rw[QeQ h,Vt h,or128]
 .rw[QaI h,Vs h,Qir];congr 1;omega
theorem Qhz:∀(v w:Nat) (a b:List Int),numN v++a=numN w++b->v=w/\a=b:=by
 intro v
 induction v using Nat.strongRecOn with
 |_ v f=>
 intro w a b h;rw[Qdj v,Qdj w]at h;by_cases e:128<=v
 .rw[Vt e]at h;by_cases d:128<=w
  .rw[Vt d]at h;simp only[VK,List.cons.injEq]at h;obtain⟨i,g⟩:=f (v/128) (by omega) (w/128) a b h.2;exact⟨by omega,g⟩
  .rw[Vs d]at h;simp only[VK,List.cons.injEq]at h;omega
 .rw[Vs e]at h;by_cases d:128<=w
  .rw[Vt d]at h;simp only[VK,List.cons.injEq]at h;omega
  .rw[Vs d]at h;simp only[VK,List.cons.injEq,Vh]at h;exact⟨by omega,h.2⟩
theorem QeP:∀(v:Nat),∀x∈numN v,0<=x/\x<256:=by
 intro v
 induction v using Nat.strongRecOn with
 |_ v d=>
 intro x a;rw[Qdj v]at a;by_cases b:128<=v
 .rw[Vt b]at a;rcases X6.1 a with rfl|a
  .omega
  .exact d (v/128) (by omega) x a
 .rw[Vs b]at a;rcases X6.1 a with rfl|a
  .omega
  .cases a
theorem Qgw{x:Int}(f:0<=x)(e:x<9223372036854775808):zigI x=2*x:=by
 unfold zigI QeA;have a:QX .i64 x 63=0:=by
  show Int.fdiv x (2^63)=0;rw[Int.fdiv_eq_ediv_of_nonneg _ (by decide)];omega
 have d:(2:Int)^(min (1:Int).toNat IntKind.u64.bits)=2:=by decide
 rw[a,d,Qn2];simp only[Qgz];have b:BitVec.ofInt 64 ((0:Int)%18446744073709551616)=0#64:=by rfl
 rw[b,BitVec.xor_zero,BitVec.toNat_ofInt];omega
theorem Qgy{x:Int}(f:x<0)(e: -9223372036854775808<=x):zigI x= -2*x-1:=by
 unfold zigI QeA;have a:QX .i64 x 63= -1:=by
  show Int.fdiv x (2^63)= -1;rw[Int.fdiv_eq_ediv_of_nonneg _ (by decide)];omega
 have d:(2:Int)^(min (1:Int).toNat IntKind.u64.bits)=2:=by decide
 rw[a,d,Qn2];simp only[Qgz];have b:BitVec.ofInt 64 ((-1:Int)%18446744073709551616)=BitVec.allOnes 64:=by decide
 rw[b,BitVec.xor_allOnes,BitVec.toNat_not,BitVec.toNat_ofInt];omega
def in63(x:Int):Prop:= -9223372036854775808<=x/\x<9223372036854775808
theorem Qng{x y:Int}(e:in63 x)(f:in63 y)(h:zigI x=zigI y):x=y:=by
 obtain⟨a,b⟩:=e;obtain⟨c,d⟩:=f;by_cases p:0<=x
 .rw[Qgw p b]at h;by_cases q:0<=y
  .rw[Qgw q d]at h;omega
  .rw[Qgy (by omega) c]at h;omega
 .rw[Qgy (by omega) a]at h;by_cases q:0<=y
  .rw[Qgw q d]at h;omega
  .rw[Qgy (by omega) c]at h;omega
theorem Qhx:∀(l m:List Int),l.length=m.length->(∀x∈l,in63 x)->(∀x∈m,in63 x)->(l.map oneB).flatten=(m.map oneB).flatten->l=m
 |[],[],_,_,_,_=>rfl
 |x::l,y::m,hl,h1,h2,h=>by
  simp only[Vj,Vl,oneB,VK,List.cons.injEq,true_and]at h;obtain⟨e1,e2⟩:=Qhz _ _ _ _ h;obtain⟨z,p1,p2⟩:=Qgx x;obtain⟨z',q1,q2⟩:=Qgx y;rw[p1,q1]at e1;have:x=y:=Qng (h1 x (by simp)) (h2 y (by simp)) (by rw[p1,q1]at*;simp only[Int.toNat_natCast]at e1;omega);rw[this,Qhx l m (by simpa using hl) (λz hz=>h1 z (by simp[hz])) (λz hz=>h2 z (by simp[hz])) e2]
theorem Qkn{l m:List Int}(d:∀x∈l,in63 x)(e:∀x∈m,in63 x)(h:listB l=listB m):l=m:=by
 unfold listB at h;rw[Vi,Vi]at h;simp only[VK,Vh,List.cons.injEq,true_and]at h;obtain⟨b,a⟩:=Qhz _ _ _ _ h;exact Qhx l m b d e a
theorem QdM(l:List Int):∀x∈listB l,0<=x/\x<256:=by
 intro x a;unfold listB at a;simp only[VD,VB,List.mem_flatten,Xe]at a;rcases a with(rfl|a)|⟨m,⟨y,_,rfl⟩,a⟩
 .omega
 .exact QeP _ x a
 .unfold oneB at a;rcases X6.1 a with rfl|a
  .omega
  .exact QeP _ x a
structure CmpOK {α:Type} (c:α->α->Int):Prop where
 swap:∀x y,c y x= -c x y
 trans:∀x y z,c x y<0->c y z<0->c x z<0
 eqt:∀x y z,c x y=0->c x z=c y z
section
variable {α:Type} {c d:α->α->Int}
theorem CmpOK.refl(h:CmpOK c)(x:α):c x x=0:=by have:=h.swap x x;omega
theorem CmpOK.eqr(h:CmpOK c){x y:α}(z:α)(e:c x y=0):c z x=c z y:=by
 rw[h.swap x z,h.swap y z,h.eqt x y z e]
theorem Qb5(h:CmpOK c)(k:CmpOK d):CmpOK λx y=>bif c x y != 0 then c x y else d x y:=by
 refine⟨λx y=>?_,λx y z=>?_,λx y z=>?_⟩
 .show(bif c y x != 0 then c y x else d y x)= -(bif c x y != 0 then c x y else d x y);have e:=h.swap x y;by_cases q:c x y=0
  .have f:c y x=0:=by omega
   rw[q,f];exact k.swap x y
  .have f:¬c y x=0:=by omega
   rw[bne_iff_ne.2 q,bne_iff_ne.2 f];exact e
 .show(bif c x y != 0 then c x y else d x y)<0->(bif c y z != 0 then c y z else d y z)<0->(bif c x z != 0 then c x z else d x z)<0;by_cases q:c x y=0
  .have e:=h.eqt x y z q;rw[q,e];by_cases f:c y z=0
   .rw[f];exact k.trans x y z
   .rw[bne_iff_ne.2 f];intro _ b;exact b
  .rw[bne_iff_ne.2 q];by_cases f:c y z=0
   .have e:=h.eqr x f;rw[f, <- e,bne_iff_ne.2 q];intro a _;exact a
   .rw[bne_iff_ne.2 f];intro a b;have:=h.trans x y z a b;rw[bne_iff_ne.2 (show¬c x z=0 by omega)];exact this
 .show(bif c x y != 0 then c x y else d x y)=0->(bif c x z != 0 then c x z else d x z)=(bif c y z != 0 then c y z else d y z);by_cases q:c x y=0
  .rw[q,h.eqt x y z q];intro e;have e:d x y=0:=e;rw[k.eqt x y z e]
  .rw[bne_iff_ne.2 q];intro e;exact absurd e q
theorem CmpOK.on{β:Type}(h:CmpOK c)(f:β->α):CmpOK λx y=>c (f x) (f y):=
 ⟨λx y=>h.swap _ _,λx y z=>h.trans _ _ _,λx y z=>h.eqt _ _ _⟩
end
theorem cmpI_ok:CmpOK cmpI:=by
 have e:∀a b,cmpI a b=if a<b then-1 else if b<a then 1 else 0:=by
  intro a b;unfold cmpI;by_cases h:a<b
  .rw[Vu h,Vt h];rfl
  .rw[Vx h,Vs h];by_cases d:b<a
   .rw[Vu d,Vt d];rfl
   .rw[Vx d,Vs d];rfl
 refine⟨λx y=>?_,λx y z=>?_,λx y z=>?_⟩
 .rw[e,e];split<;>split<;>omega
 .rw[e,e,e];intro a b;have f:x<y:=by
   by_cases q:x<y
   .exact q
   .rw[Vs q]at a;split at a<;>omega
  have d:y<z:=by
   by_cases q:y<z
   .exact q
   .rw[Vs q]at b;split at b<;>omega
  rw[Vt (by omega)];omega
 .rw[e x y];intro h;have:x=y:=by
   by_cases q:x<y
   .rw[Vt q]at h;omega
   .rw[Vs q]at h;split at h<;>omega
  rw[this]
theorem cb_ok:CmpOK Lib.compareBytes:=by
 have j:∀x y:List UInt8,Lib.compareBytes y x= -Lib.compareBytes x y:=by
  intro x
  induction x with
  |nil=>intro y;cases y<;>simp[Lib.compareBytes]
  |cons a x f=>
   intro y;cases y with
   |nil=>simp[Lib.compareBytes]
   |cons b y=>
    unfold Lib.compareBytes;by_cases h:a<b
    .have l:¬b<a:=by rw[UInt8.lt_iff_toNat_lt]at*;omega
     rw[Vt h,Vs l,Vt h];rfl
    .rw[Vs h];by_cases i:b<a
     .rw[Vt i,Vs h,Vt i]
     .rw[Vs i,Vs i,Vs h];exact f y
 have eq:∀x y:List UInt8,Lib.compareBytes x y=0->x=y:=by
  intro x
  induction x with
  |nil=>intro y h;cases y with
   |nil=>rfl
   |cons b y=>simp[Lib.compareBytes]at h
  |cons a x f=>
   intro y h;cases y with
   |nil=>simp[Lib.compareBytes]at h
   |cons b y=>
    unfold Lib.compareBytes at h;by_cases q:a<b
    .rw[Vt q]at h;omega
    .rw[Vs q]at h;by_cases e:b<a
     .rw[Vt e]at h;omega
     .rw[Vs e]at h;have:a=b:=by
       rw[UInt8.lt_iff_toNat_lt]at q e;exact UInt8.toNat_inj.1 (by omega)
      rw[this,f y h]
 refine⟨j,?_,λx y z h=>by rw[eq x y h]⟩;intro x
 induction x with
 |nil=>
  intro y z h k;cases y with
  |nil=>simp[Lib.compareBytes]at h
  |cons b y=>cases z with
   |nil=>simp[Lib.compareBytes]at k
   |cons d z=>simp[Lib.compareBytes]
 |cons a x f=>
  intro y z h k;cases y with
  |nil=>simp[Lib.compareBytes]at h
  |cons b y=>
   cases z with
   |nil=>simp[Lib.compareBytes]at k
   |cons d z=>
    unfold Lib.compareBytes at h k⊢;simp only[UInt8.lt_iff_toNat_lt]at*;by_cases q:a.toNat<b.toNat
    .by_cases r:b.toNat<d.toNat
     .rw[Vt (by omega)];omega
     .rw[Vs r]at k;by_cases g:d.toNat<b.toNat
      .rw[Vt g]at k;omega
      .rw[Vt (by omega)];omega
    .rw[Vs q]at h;by_cases e:b.toNat<a.toNat
     .rw[Vt e]at h;omega
     .rw[Vs e]at h;by_cases r:b.toNat<d.toNat
      .rw[Vt (by omega)];omega
      .rw[Vs r]at k;by_cases g:d.toNat<b.toNat
       .rw[Vt g]at k;omega
       .rw[Vs g]at k;rw[Vs (by omega),Vs (by omega)];exact f y z h k
theorem Qok:∀{x y:List UInt8},Lib.compareBytes x y=0->x=y
 |[],[],_=>rfl
 |[],_::_,h=>by simp[Lib.compareBytes]at h
 |_::_,[],h=>by simp[Lib.compareBytes]at h
 |a::x,b::y,h=>by
  unfold Lib.compareBytes at h;by_cases q:a<b
  .rw[Vt q]at h;omega
  .rw[Vs q]at h;by_cases q2:b<a
   .rw[Vt q2]at h;omega
   .rw[Vs q2]at h;have:a=b:=by
     rw[UInt8.lt_iff_toNat_lt]at q q2;exact UInt8.toNat_inj.1 (by omega)
    rw[this,Qok h]
theorem Qgl:∀{l m:List Int},(∀x∈l,0<=x/\x<256)->(∀x∈m,0<=x/\x<256)->l.map Qbn=m.map Qbn->l=m
 |[],[],_,_,_=>rfl
 |[],_::_,_,_,h=>by simp at h
 |_::_,[],_,_,h=>by simp at h
 |x::l,y::m,h1,h2,h=>by
  simp only[Vj,List.cons.injEq]at h;have a1:=h1 x (by simp);have a2:=h2 y (by simp);have e:=congrArg UInt8.toNat h.1;unfold Qbn at e;rw[UInt8.toNat_ofNat',UInt8.toNat_ofNat']at e;have:x=y:=by omega
  rw[this,Qgl (λz a=>h1 z (by simp[a])) (λz a=>h2 z (by simp[a])) h.2]
theorem Qia(f g:Fact):cmpF f g=bif cmpI f.At g.At != 0 then cmpI f.At g.At else bif cmpI f.Crew g.Crew != 0 then cmpI f.Crew g.Crew else bif cmpI f.No g.No != 0 then cmpI f.No g.No else cmpB (encF f).1 (encF g).1:=by
 unfold cmpF orL orL orL orL;generalize cmpI f.At g.At=a;generalize cmpI f.Crew g.Crew=b;generalize cmpI f.No g.No=d;cases e:(a != 0)with
 |true=>simp only[Vp,e]
 |false=>
  simp only[Vq];cases i:(b != 0)with
  |true=>simp only[Vp,i]
  |false=>
   simp only[Vq];cases h:(d != 0)with
   |true=>simp only[Vp,h]
   |false=>rfl
theorem QjV:CmpOK cmpF:=by
 have h:=Qb5 (cmpI_ok.on λf:Fact=>f.At) (Qb5 (cmpI_ok.on λf:Fact=>f.Crew) (Qb5 (cmpI_ok.on λf:Fact=>f.No) (cb_ok.on λf:Fact=>(encF f).1.map Qbn)));have e:cmpF=λf g=>bif cmpI f.At g.At != 0 then cmpI f.At g.At else bif cmpI f.Crew g.Crew != 0 then cmpI f.Crew g.Crew else bif cmpI f.No g.No != 0 then cmpI f.No g.No else cmpB (encF f).1 (encF g).1:=by
  funext f g;exact Qia f g
 rw[e];exact h
def wideE(e:Ent):Bool:=decide (-1125899906842624<=e.lo)&&decide (e.hi<=1125899906842624)
theorem QkB(f:Fact):(entsS f).all wideE=true:=by
 unfold entsS;rw[List.all_append,XW];refine⟨rfl,?_⟩;rcases kinds f with k|k|k|k|k|k|k|k|k|k|k|k|k|k
 case inr.inr.inr.inr.inr.inr.inr.inr.inr.inl=>
  unfold openU;rw[k];show(bodyL (bif (f.Ruling.Kind==1)||(f.Ruling.Kind==2)then .c9 (0,0,0,0,0,0)else bif f.Ruling.Kind==3 then .c9 (1,9999,0,255,1,1099511627776)else bif f.Ruling.Kind==4 then .c9 (1,9999,0,255,1,64)else .c9 (1,9999,0,255,0,0))).all wideE=true;cases((f.Ruling.Kind==1)||(f.Ruling.Kind==2))with
  |true=>rfl
  |false=>
   cases(f.Ruling.Kind==3)with
   |true=>rfl
   |false=>cases(f.Ruling.Kind==4)<;>rfl
 case inr.inr.inr.inr.inr.inr.inr.inr.inr.inr.inr.inr.inr=>rw[k];rfl
 all_goals
  unfold openU;rw[k];rfl
theorem QeN{f:Fact}(h:validS f=true):∀x∈numsS f,in63 x:=by
 have k:=h;unfold validS at h;rw[QgJ]at h;by_cases q:openU f=.c13 ()
 .rw[q]at h;cases h
 .rw[<- (Qdo f q).2];cases a:fineU f (openU f)with
  |false=>rw[a]at h;cases h
  |true=>
   rw[a]at h;cases b:(entsS f).all (inE f (suspB f))with
   |false=>rw[b]at h;cases h
   |true=>
    intro x j;obtain⟨e,d,rfl⟩:=Xe.1 j;have g:=Xs.1 b e d;have i:=Xs.1 (QkB f) e d;unfold inE at g;unfold wideE at i;simp only[XW,Bool.not_eq_true',decide_eq_false_iff_not,Vr]at g i;unfold in63;omega
theorem Qge{f:Fact}(h:validS f=true):encF f=(listB (numsS f),0):=by
 unfold encF;rw[h,Qit h];rfl
theorem Qg3{f g:Fact}(i:validS f=true)(hg:validS g=true)(h:cmpF f g=0):f=g:=by
 rw[Qia]at h;have z:cmpB (encF f).1 (encF g).1=0:=by
  cases a:(cmpI f.At g.At != 0)with
  |true=>rw[a]at h;exact absurd h (bne_iff_ne.1 a)
  |false=>
   rw[a]at h;cases d:(cmpI f.Crew g.Crew != 0)with
   |true=>rw[d]at h;exact absurd h (bne_iff_ne.1 d)
   |false=>
    rw[d]at h;cases b:(cmpI f.No g.No != 0)with
    |true=>rw[b]at h;exact absurd h (bne_iff_ne.1 b)
    |false=>rw[b]at h;exact h
 rw[Qge i,Qge hg]at z;have e:=Qgl (QdM _) (QdM _) (Qok z);exact QlN i hg (Qkn (QeN i) (QeN hg) e)
set_option maxRecDepth 4000
theorem Qex{α:Type}{R:α->α->Prop}(d:∀x,¬R x x)(i:∀x y z,R x y->R y z->R x z):∀{l m:List α},l.Pairwise R->m.Pairwise R->(∀x,x∈l↔x∈m)->l=m
 |[],[],_,_,_=>rfl
 |[],b::m,_,_,h=>by have:=(h b).2 (by simp);cases this
 |a::l,[],_,_,h=>by have:=(h a).1 (by simp);cases this
 |a::l,b::m,hl,hm,h=>by
  rw[Xc]at hl hm;have e:a=b:=by
   rcases X6.1 ((h a).1 (by simp))with e|f
   .exact e
   .rcases X6.1 ((h b).2 (by simp))with e|j
    .exact e.symm
    .exact absurd (i _ _ _ (hl.1 b j) (hm.1 a f)) (d a)
  subst e;congr 1;refine Qex d i hl.2 hm.2 λx=>?_;constructor
  .intro g;rcases X6.1 ((h x).1 (X5 _ g))with e|f
   .subst e;exact absurd (hl.1 x g) (d x)
   .exact f
  .intro g;rcases X6.1 ((h x).2 (X5 _ g))with e|f
   .subst e;exact absurd (hm.1 x g) (d x)
   .exact f
def insC(x:Fact):List Fact->List Fact
 |[]=>[x]
 |y::r=>bif decide (cmpF y x<0)then y::insC x r else bif y==x then y::r else x::y::r
def canonS(l:List Fact):List Fact:=l.foldl (λa x=>bif validS x then insC x a else a) []
def ltF(a b:Fact):Prop:=cmpF a b<0
theorem Qnv(x:Fact):¬ltF x x:=by unfold ltF;have:=QjV.refl x;omega
theorem QiM(x y z:Fact):ltF x y->ltF y z->ltF x z:=QjV.trans x y z
theorem QcF(x:Fact):∀(l:List Fact) (z:Fact),z∈insC x l↔z=x\/z∈l
 |[],z=>by simp[insC]
 |y::r,z=>by
  unfold insC;cases decide (cmpF y x<0)with
  |true=>
   simp only[Vp,X6,QcF x r z];constructor
   .rintro(h|h|h)<;>simp[h]
   .rintro(h|h|h)<;>simp[h]
  |false=>
   simp only[Vq];cases h:(y==x)with
   |true=>
    have:y=x:=by simpa using h
    subst this;simp
   |false=>simp
def CanonOK(l:List Fact):Prop:=l.Pairwise ltF/\ ∀f∈l,validS f=true
theorem QjG{x:Fact}(a:validS x=true):∀{l:List Fact},CanonOK l->CanonOK (insC x l)
 |[],_=>⟨by simp[insC],by simp[insC,a]⟩
 |y::r,h=>by
  obtain⟨h1,h2⟩:=h;rw[Xc]at h1;have hr:CanonOK r:=⟨h1.2,λf hf=>h2 f (by simp[hf])⟩;have ih:=QjG a hr;refine⟨?_,λf hf=>?_⟩
  .unfold insC;cases q:decide (cmpF y x<0)with
   |true=>
    simp only[Vp,Xc];refine⟨λz hz=>?_,ih.1⟩;rcases(QcF x r z).1 hz with rfl|hz
    .show cmpF y z<0;exact Vv q
    .exact h1.1 z hz
   |false=>
    simp only[Vq];cases q2:(y==x)with
    |true=>simp only[Vp,Xc];exact h1
    |false=>
     simp only[Vq,Xc];have lt:ltF x y:=by
      have b:=Vw q;have d:¬cmpF y x=0:=λe=>by
       have:=Qg3 (h2 y (by simp)) a e;rw[this]at q2;simp at q2
      have:=QjV.swap x y;unfold ltF;omega
     refine⟨λz hz=>?_,h1⟩;rcases X6.1 hz with rfl|hz
     .exact lt
     .exact QiM _ _ _ lt (h1.1 z hz)
  .rcases(QcF x (y::r) f).1 hf with rfl|hf
   .exact a
   .exact h2 f hf
theorem Qgk(l:List Fact):CanonOK (canonS l)/\ ∀f,f∈canonS l↔f∈l/\validS f=true:=by
 have g:∀(r a:List Fact),CanonOK a->CanonOK (r.foldl (λa x=>bif validS x then insC x a else a) a)/\ ∀f,f∈r.foldl (λa x=>bif validS x then insC x a else a) a↔f∈a\/(f∈r/\validS f=true):=by
  intro r
  induction r with
  |nil=>intro a h;exact⟨h,λf=>by simp⟩
  |cons x r i=>
   intro a h;rw[XD];cases q:validS x with
   |false=>
    obtain⟨d,e⟩:=i a h;refine⟨d,λf=>?_⟩;rw[Vq,e f,X6];constructor
    .rintro(a|⟨a,b⟩)
     .exact .inl a
     .exact .inr ⟨.inr a,b⟩
    .rintro(a|⟨rfl|a,b⟩)
     .exact .inl a
     .rw[q]at b;cases b
     .exact .inr ⟨a,b⟩
   |true=>
    obtain⟨d,e⟩:=i (insC x a) (QjG q h);refine⟨d,λf=>?_⟩;rw[Vp,e f,QcF,X6];constructor
    .rintro((rfl|a)|⟨a,b⟩)
     .exact .inr ⟨.inl rfl,q⟩
     .exact .inl a
     .exact .inr ⟨.inr a,b⟩
    .rintro(a|⟨rfl|a,b⟩)
     .exact .inl (.inr a)
     .exact .inl (.inl rfl)
     .exact .inr ⟨a,b⟩
 obtain⟨d,e⟩:=g l [] ⟨by simp,by simp⟩;exact⟨d,λf=>by rw[canonS,e f];simp⟩
set_option maxRecDepth 4000
def nb(v lo hi:Int):Bool:= !(decide (v<lo))&& !(decide (hi<v))
theorem QiK(v lo hi:Int):nb v lo hi=true↔lo<=v/\v<=hi:=by
 unfold nb;simp only[XW,Bool.not_eq_true',decide_eq_false_iff_not];omega
def contR(f:Fact):Bool:=
 bif f.Kind==1 then true&&(nb f.Starter.Bib 1 9999&&(nb f.Starter.Distance 0 7&&(nb f.Starter.Wave 0 31&&(nb f.Starter.Slot (-1099511627776) 1099511627776&&(nb f.Starter.Age 0 120&&(nb f.Starter.Chip 0 1048576&&(nb f.Starter.Team 0 9999&&(nb f.Starter.Lot 0 1048576&&true))))))))
 else bif f.Kind==2 then true&&(nb f.Read.Mat 0 39&&(nb f.Read.Epoch 0 255&&(nb f.Read.Chip 0 1048576&&(nb f.Read.Local (-1099511627776) 1099511627776&&true))))
 else bif f.Kind==3 then true&&(nb f.Beacon.Mat 0 39&&(nb f.Beacon.Epoch 0 255&&(nb f.Beacon.Local (-1099511627776) 1099511627776&&(nb f.Beacon.True (-1099511627776) 1099511627776&&(nb f.Beacon.Err 0 1099511627776&&true)))))
 else bif f.Kind==4 then decide (f.Sync.Min<=f.Sync.Max)&&(nb f.Sync.MatA 0 39&&(nb f.Sync.EpochA 0 255&&(nb f.Sync.LocalA (-1099511627776) 1099511627776&&(nb f.Sync.MatB 0 39&&(nb f.Sync.EpochB 0 255&&(nb f.Sync.LocalB (-1099511627776) 1099511627776&&(nb f.Sync.Min (-1099511627776) 1099511627776&&(nb f.Sync.Max (-1099511627776) 1099511627776&&true))))))))
 else bif f.Kind==5 then decide (f.Hand.Lo<=f.Hand.Hi)&&(nb f.Hand.Bib 1 9999&&(nb f.Hand.Position 0 255&&(nb f.Hand.Lo (-1099511627776) 1099511627776&&(nb f.Hand.Hi (-1099511627776) 1099511627776&&true))))
 else bif f.Kind==6 then decide (f.Silence.Lo<=f.Silence.Hi)&&(nb f.Silence.Mat 0 39&&(nb f.Silence.Epoch 0 255&&(nb f.Silence.Lo (-1099511627776) 1099511627776&&(nb f.Silence.Hi (-1099511627776) 1099511627776&&true))))
 else bif f.Kind==7 then decide (f.Pair.A<f.Pair.B)&&(nb f.Pair.A 1 9999&&(nb f.Pair.B 1 9999&&true))
 else bif f.Kind==8 then true&&(nb f.Report.Case 1 1048576&&(nb f.Report.Bib 1 9999&&(nb f.Report.Offence 0 31&&(nb f.Report.Position 0 255&&true))))
 else bif f.Kind==9 then true&&(nb f.Protest.Case 1 1048576&&(nb f.Protest.By 0 9999&&(nb f.Protest.Fee 0 1125899906842624&&(nb f.Protest.Form 0 1&&true))))
 else bif f.Kind==10 then true&&(nb f.Ruling.Case 1 1048576&&(nb f.Ruling.Instance 1 2&&(nb f.Ruling.Kind 1 5&&(bif (f.Ruling.Kind==1)||(f.Ruling.Kind==2)then nb f.Ruling.Bib 0 0&&(nb f.Ruling.Position 0 0&&(nb f.Ruling.Amount 0 0&&true))else bif f.Ruling.Kind==3 then nb f.Ruling.Bib 1 9999&&(nb f.Ruling.Position 0 255&&(nb f.Ruling.Amount 1 1099511627776&&true))else bif f.Ruling.Kind==4 then nb f.Ruling.Bib 1 9999&&(nb f.Ruling.Position 0 255&&(nb f.Ruling.Amount 1 64&&true))else nb f.Ruling.Bib 1 9999&&(nb f.Ruling.Position 0 255&&(nb f.Ruling.Amount 0 0&&true))))))
 else bif f.Kind==11 then true&&(nb f.Appeal.Case 1 1048576&&(nb (suspB f) 0 1&&true))
 else bif f.Kind==12 then true&&true
 else bif f.Kind==13 then true&&(nb f.Void.Crew 0 31&&(nb f.Void.No 1 1048576&&true))
 else false
theorem Qnx(f:Fact):(f.Kind=1\/f.Kind=2\/f.Kind=3\/f.Kind=4\/f.Kind=5\/f.Kind=6\/f.Kind=7\/f.Kind=8\/f.Kind=9\/f.Kind=10\/f.Kind=11\/f.Kind=12\/f.Kind=13)\/((f.Kind==1)=false/\(f.Kind==2)=false/\(f.Kind==3)=false/\(f.Kind==4)=false/\(f.Kind==5)=false/\(f.Kind==6)=false/\(f.Kind==7)=false/\(f.Kind==8)=false/\(f.Kind==9)=false/\(f.Kind==10)=false/\(f.Kind==11)=false/\(f.Kind==12)=false/\(f.Kind==13)=false):=by
 by_cases h:1<=f.Kind/\f.Kind<=13
 .left;omega
 .right;simp only[Vz,ne_eq];omega
theorem Qmz(f:Fact):contS f=contR f:=by
 rcases Qnx f with k|⟨q,p,y,u,t,s,x,r,w,j,g,i,h⟩
 .rcases k with k|k|k|k|k|k|k|k|k|k|k|k|k
  case inr.inr.inr.inr.inr.inr.inr.inr.inr.inl=>
   obtain⟨Cr,No,At,Ki,S,R,B,Sy,Ha,Si,Pa,Re,Pr,⟨n,l,a,e,d,b⟩,Ap,Vo⟩:=f;simp only at k;subst k;have m:openU ⟨Cr,No,At,10,S,R,B,Sy,Ha,Si,Pa,Re,Pr,⟨n,l,a,e,d,b⟩,Ap,Vo⟩=(bif (a==1)||(a==2)then U_facts_open_rxk.c9 (0,0,0,0,0,0)else bif a==3 then .c9 (1,9999,0,255,1,1099511627776)else bif a==4 then .c9 (1,9999,0,255,1,64)else .c9 (1,9999,0,255,0,0)):=rfl;have z:contR ⟨Cr,No,At,10,S,R,B,Sy,Ha,Si,Pa,Re,Pr,⟨n,l,a,e,d,b⟩,Ap,Vo⟩=(true&&(nb n 1 1048576&&(nb l 1 2&&(nb a 1 5&&(bif (a==1)||(a==2)then nb e 0 0&&(nb d 0 0&&(nb b 0 0&&true))else bif a==3 then nb e 1 9999&&(nb d 0 255&&(nb b 1 1099511627776&&true))else bif a==4 then nb e 1 9999&&(nb d 0 255&&(nb b 1 64&&true))else nb e 1 9999&&(nb d 0 255&&(nb b 0 0&&true))))))):=rfl;rw[z];unfold contS;rw[m];cases((a==1)||(a==2))with
   |true=>rfl
   |false=>
    cases(a==3)with
    |true=>rfl
    |false=>cases(a==4)<;>rfl
  case inr.inr.inr.inr.inr.inr.inr.inr.inr.inr.inl=>
   obtain⟨Cr,No,At,Ki,S,R,B,Sy,Ha,Si,Pa,Re,Pr,Ru,⟨Ca,Su⟩,Vo⟩:=f;simp only at k;subst k;cases Su<;>rfl
  all_goals
   obtain⟨Cr,No,At,Ki,S,R,B,Sy,Ha,Si,Pa,Re,Pr,Ru,Ap,Vo⟩:=f;simp only at k;subst k;rfl
 .have m:openU f=.c13 ():=by unfold openU;rw[q,p,y,u,t,s,x,r,w,j,g,i,h];rfl
  unfold contS contR;rw[m,q,p,y,u,t,s,x,r,w,j,g,i,h];rfl
theorem QhF(x:Fact):∀l:List Fact,(insC x l).length<=l.length+1
 |[]=>by simp[insC]
 |y::r=>by
  unfold insC;have:=QhF x r;cases decide (cmpF y x<0)with
  |true=>simp only[Vp,X0];omega
  |false=>cases(y==x)<;>simp
theorem Qip{c:Course}(h:Course.wf c):CourseOk c:=by
 obtain⟨j,⟨p,d⟩,⟨k,r⟩,⟨i,b⟩,⟨l,q⟩,⟨m,g⟩,⟨e,f⟩,⟨n,s⟩,_⟩:=h;exact⟨j,p,λx a=>(d x a).1,k,i,λx a=>(b x a).1,λx a=>(b x a).2.2.2.1.1,l,λx a=>(q x a).1,m,λx a=>(g x a).1,e,λx a=>(f x a).1,n⟩
theorem Qjc{c:Course}(h:Course.wf c):PartsOk c:=by
 obtain⟨_,_,_,⟨e,b⟩,_⟩:=h;exact⟨λd a=>(b d a).2.1.1,λd a=>(b d a).2.1.2⟩
theorem Qnl{c:Course}(h:Course.wf c):c.Ties.length<=1048576/\ ∀x∈c.Ties,Step.wf x:=by
 obtain⟨_,_,_,_,_,_,_,_,a,_⟩:=h;exact a
theorem Qfl(l:List Fact):(canonS l).length<=l.length:=by
 have:∀(m a:List Fact),(m.foldl (λa x=>bif validS x then insC x a else a) a).length<=a.length+m.length:=by
  intro m
  induction m with
  |nil=>intro a;simp
  |cons x m b=>
   intro a;rw[XD,X0];have d:=b (bif validS x then insC x a else a);have e:(bif validS x then insC x a else a).length<=a.length+1:=by
    cases validS x with
    |true=>exact QhF x a
    |false=>simp
   omega
 have:=this l [];simpa[canonS]using this
section
variable {α β:Type}
theorem Qkp{l:List α}[DecidableEq (List α)](b:l.length<=1048576):isNil l (some ([]:List α)) ((app ([]:List α) l).bind λx=>some x)=some l:=by
 have:app ([]:List α) l=some l:=by rw[QcP _ _ (by simp;omega)];rfl
 unfold isNil;cases l with
 |nil=>rw[this];simp
 |cons a l=>rw[this];rfl
theorem Qm3{F:Nat->α->α->Option β}{V:α->α->β}(l:List α)(h:∀x∈l,∀y∈l,Ev (λn=>F n x y) (V x y)):∃N,∀n,N<=n->∀x∈l,∀y∈l,F n x y=some (V x y):=by
 obtain⟨N,e⟩:=QaO (F:=λn (p:α×α)=>F n p.1 p.2) (V:=λp=>V p.1 p.2) (l.flatMap λx=>l.map λy=>(x,y)) (by
  intro p a;rw[List.mem_flatMap]at a;obtain⟨x,d,a⟩:=a;obtain⟨y,b,rfl⟩:=Xe.1 a;exact h x d y b)
 exact⟨N,λn f x d y b=>e n f (x,y) (List.mem_flatMap.2 ⟨x,d,Xe.2 ⟨y,b,rfl⟩⟩)⟩
def ltC(c:α->α->Int)(x y:α):Bool:=decide (c x y<0)
theorem QbV{c:α->α->Int}(d:CmpOK c)(l:List α):Qfo (ltC c) l:=by
 refine⟨λx _=>?_,λx _ y _ z _ f g=>?_,λx _ y _ z _ f g=>?_⟩
 .have:=d.refl x;exact Vx (by omega)
 .have f:=Vv f;have g:=Vv g;exact Vu (d.trans x y z f g)
 .have f:=Vw f;have g:=Vw g;refine Vx λh=>?_;have a:=d.swap x y;have b:=d.swap y z;by_cases e:c x y=0
  .rw[d.eqt x y z e]at h;exact g h
  .by_cases i:c y z=0
   .rw[<- d.eqr x i]at h;exact f h
   .have j:=d.trans z y x (by omega) (by omega);have:=d.swap x z;omega
theorem Qj6[DecidableEq α]{cf:Nat->α->α->Option Int}{l:List α}{c:α->α->Int}(w:l.length<=1048576)(u:∀x∈l,∀y∈l,Ev (λn=>cf n x y) (c x y))(a:CmpOK c)(k:∀x∈l,∀y∈l,c x y=0->x=y):
  Ev (λn=>QbC (cf n) l) (QaT (ltC c) l):=by
 obtain⟨N,s⟩:=Qm3 l u;refine⟨N,λn t=>?_⟩;have h:=s n t;have m:=Qlm (cf:=cf n) (XR (QnC w)) c h (λx _=>by have:=a.refl x;omega) (λx _ y _ z _=>a.trans x y z) (λx d y b z r f g=>by
   have:=(QbV a l).ntrans x d y b z r (Vx f) (Vx g);exact Vw this) (λx d y b f g=>k x d y b (by have:=a.swap x y;omega))
 show QbC (cf n) l=some (QaT (ltC c) l);rw[m];congr 1;obtain⟨_,_,p,_,_⟩:=Qez m;have e:∀x∈l,∀y∈l,ltO (cf n) x y=ltC c x y:=λx d y b=>by unfold ltO ltC;rw[h x d y b]
 refine Qbh (lt:=ltC c) ((QK _ l).trans (QK _ l).symm) (λx d y b f g=>?_) ?_ (Yv (QbV a l))
 .have i:=(QK _ l).mem_iff.1 d;have j:=(QK _ l).mem_iff.1 b;have f:=Vw f;have g:=Vw g;exact k x i y j (by have:=a.swap x y;omega)
 .refine List.Pairwise.imp_of_mem (λ{x y} d b q=>?_) (Yv p);have i:=(QK _ l).mem_iff.1 d;have j:=(QK _ l).mem_iff.1 b;rw[<- e y j x i];exact q
end
def ddA(p:Fact):List Fact->List Fact
 |[]=>[]
 |x::r=>bif x==p then ddA x r else x::ddA x r
def dd:List Fact->List Fact
 |[]=>[]
 |x::r=>x::ddA x r
theorem Qmx{x p:Fact}{r:List Fact}(q:(x==p)=true):ddA p (x::r)=ddA x r:=by
 show(bif x==p then ddA x r else x::ddA x r)=_;rw[q];rfl
theorem Qmw{x p:Fact}{r:List Fact}(q:(x==p)=false):ddA p (x::r)=x::ddA x r:=by
 show(bif x==p then ddA x r else x::ddA x r)=_;rw[q];rfl
theorem Qmv:∀(r:List Fact) (p:Fact),(∀x∈r,¬cmpF x p<0)->r.Pairwise (λa b=>¬cmpF b a<0)->(∀x∈p::r,validS x=true)->(ddA p r).Pairwise ltF/\(∀x∈ddA p r,ltF p x)/\ ∀x,x∈p::ddA p r↔x∈p::r
 |[],p,_,_,_=>⟨List.Pairwise.nil,(λ_ h=>by cases h),λ_=>Iff.rfl⟩
 |y::r,p,h1,h2,h3=>by
  rw[Xc]at h2;obtain⟨i1,i2,i3⟩:=Qmv r y h2.1 h2.2 λx hx=>h3 x (by simp only[X6]at hx⊢;exact .inr hx);have hy:=h1 y (by simp);unfold ddA;cases q:y==p with
  |true=>
   have e:y=p:=by simpa using q
   subst e;refine⟨i1,i2,λx=>?_⟩;rw[Vp,i3 x];simp
  |false=>
   have f:¬cmpF y p=0:=λe=>by simp[Qg3 (h3 y (by simp)) (h3 p (by simp)) e]at q
   have d:ltF p y:=by
    have:=QjV.swap y p;unfold ltF;omega
   simp only[Vq];refine⟨Xc.2 ⟨i2,i1⟩,λx hx=>?_,λx=>?_⟩
   .rcases X6.1 hx with rfl|hx
    .exact d
    .exact QiM _ _ _ d (i2 x hx)
   .rw[X6,i3 x,X6 (a:=x) (b:=p)]
theorem dd_ok{S:List Fact}(h:S.Pairwise λa b=>¬cmpF b a<0)(g:∀x∈S,validS x=true):(dd S).Pairwise ltF/\ ∀x,x∈dd S↔x∈S:=by
 cases S with
 |nil=>exact⟨List.Pairwise.nil,λ_=>Iff.rfl⟩
 |cons a r=>
  rw[Xc]at h;obtain⟨d,f,e⟩:=Qmv r a h.1 h.2 g;exact⟨Xc.2 ⟨f,d⟩,e⟩
theorem QgV(x y:Fact):Ev (λn=>F_az n x y) ():=Qa _
theorem QjI{l:List Fact}{a j:Nat}{x:Fact}(h:l[a+j]?=some x){m:Int}(d:m=(l.length:Int)):Qby l (a:Int) m (j:Int)=some x:=by
 have b:=(XL.1 h).1;unfold Qby;rw[Vu (show(0:Int)<=(a:Int)by omega),Vu (show(0:Int)<=(j:Int)by omega),Vu (show(a:Int)+(j:Int)<m by omega)];rw[show(a:Int)+(j:Int)=((a+j:Nat):Int)by omega];exact Ql h
theorem Qg2{α:Type}{l r:List α}{i:Nat}{x:α}(h:l.drop i=x::r):l[i]?=some x/\l.drop (i+1)=r/\i<l.length:=by
 have a:l[i]?=some x:=by
  have:=congrArg (λl=>l[0]?) h;simpa using this
 refine⟨a,?_,(XL.1 a).1⟩;have:=Xp (XL.1 a).1;rw[h]at this;exact(List.cons.inj this).2.symm
theorem Qh2(a:List Fact)(J:a.length<=1048576)(b:Nat):∀(r s:List Fact) (i j:Nat) (p:Fact),s.length=a.length->s.drop (b+(j+1))=r->s[b+j]?=some p->i<b+(j+1)->b+(j+1)<=s.length->
  ∃(s':List Fact) (d:Nat),EvI (λn=>F_gl n a (b:Int)) (s,(i:Int),((j+1:Nat):Int)) (s',(d:Int))/\d<=s'.length/\s'.take d=s.take i++ddA p r:=by
 intro r
 induction r with
 |nil=>
  intro s i j p e f z G H;refine⟨s,i,Ej ?_,by omega,by simp[ddA]⟩;have:=Xq.1 f;unfold F_gl;rw[QG (show¬(((j+1:Nat):Int)<((Int.toNat (a.length:Int)-Int.toNat (b:Int):Nat):Int))by omega)];exact Qa _
 |cons x r B=>
  intro s i j p e f z G H;obtain⟨m,y,E⟩:=Qg2 f;have t:=QjI m (show(a.length:Int)=(s.length:Int)by rw[e]);have w:=QjI z (show(a.length:Int)=(s.length:Int)by rw[e]);have w1:IntKind.i64.wrap (((j+1:Nat):Int)-1)=(j:Int):=by rw[Qo (by omega) (by omega)];omega
  have w2:IntKind.i64.wrap (((j+1:Nat):Int)+1)=((j+1+1:Nat):Int):=QC (by omega);have u:decide (((j+1:Nat):Int)<((Int.toNat (a.length:Int)-Int.toNat (b:Int):Nat):Int))=true:=Vu (by omega);have k:i<s.length:=by omega
  cases q:x==p with
  |true=>
   obtain⟨s',d,h,l,g⟩:=B s i (j+1) x e (by rw[show b+(j+1+1)=b+(j+1)+1 by omega];exact y) m (by omega) (by omega);refine⟨s',d,Ew ?_ h,l,by rw[g,Qmx q]⟩;unfold F_gl;simp only[u,Vp,t,w1,w,XJ];refine Ea (QgV x p) ?_;rw[q];simp only[Xg,Vq,XJ,w2];exact Qa _
  |false=>
   have F:(s.set i x).length=a.length:=by rw[X4];exact e
   obtain⟨s',d,h,l,g⟩:=B (s.set i x) (i+1) (j+1) x F (by rw[show b+(j+1+1)=b+(j+1)+1 by omega,List.drop_set_of_lt (by omega)];exact y) (by rw[XP (by omega)];exact m) (by omega) (by rw[X4];omega);have w3:IntKind.i64.wrap ((i:Int)+1)=((i+1:Nat):Int):=QC (by omega);refine⟨s',d,Ew ?_ h,l,?_⟩
   .unfold F_gl;simp only[u,Vp,t,w1,w,XJ];refine Ea (QgV x p) ?_;rw[q];simp only[Xh,Vp,XJ,w2,Ql (XK k),QaG s x k,w3];exact Qa _
   .rw[g,List.take_add_one,Xa k,List.take_set_of_le (XT _)];rw[Qmw q];simp
theorem Qh3(a:List Fact)(w:a.length<=1048576):∀(r:List Fact) (k:Nat) (p:Fact),a.drop (k+1)=r->a[k]?=some p->k+1<=a.length->∃b:Ctl Unit (List Fact),EvI (λn=>F_em n a) ((k+1:Nat):Int) b/\((b=.cont ()/\ddA p r=r)\/b=.done (a.take (k+1)++ddA p r)):=by
 intro r
 induction r with
 |nil=>
  intro k p i l u;refine⟨.cont (),Ej ?_,.inl ⟨rfl,rfl⟩⟩;have:=Xq.1 i;unfold F_em;rw[QG (show¬(((k+1:Nat):Int)<(a.length:Int))by omega)];exact Qa _
 |cons x r t=>
  intro k p i l u;obtain⟨g,m,f⟩:=Qg2 i;have w1:IntKind.i64.wrap (((k+1:Nat):Int)-1)=(k:Int):=by rw[Qo (by omega) (by omega)];omega
  have w2:IntKind.i64.wrap (((k+1:Nat):Int)+1)=((k+1+1:Nat):Int):=QC (by omega);have s:decide (((k+1:Nat):Int)<(a.length:Int))=true:=Vu (by omega);cases q:x==p with
  |true=>
   obtain⟨y,z,j,d,h⟩:=Qh2 a w (k+1) r a (k+1) 0 x rfl m g (by omega) (by omega);refine⟨.done (a.take (k+1)++ddA p (x::r)),Ej ?_,.inr rfl⟩;unfold F_em;simp only[s,Vp,Ql g,w1,Ql l,XJ];refine Ea (QgV x p) ?_;rw[q];simp only[Vp,Qhr a (Nat.le_of_lt f),XJ];refine Ea j.ev ?_;simp only[Qiy y d,XJ];rw[h];rw[Qmx q];exact Qa _
  |false=>
   obtain⟨b,j,d⟩:=t (k+1) x m g f;have e:=Qmw (r:=r) q;refine⟨b,Ew ?_ j,?_⟩
   .unfold F_em;simp only[s,Vp,Ql g,w1,Ql l,XJ];refine Ea (QgV x p) ?_;rw[q];simp only[Vq,w2];exact Qa _
   .rcases d with⟨d,h⟩|d
    .exact .inl ⟨d,by rw[e,h]⟩
    .refine .inr ?_;rw[d,e,List.take_add_one,g];simp
theorem Qh1(a:List Fact)(d:a.length<=1048576):Ev (λn=>F_ca n a) (dd a):=by
 unfold F_ca
 match a,d with
 |[],_=>exact Qa _
 |[x],_=>exact Qa _
 |x::y::r,d=>
  rw[QG (show¬(((x::y::r).length:Int)<2)by simp;omega)];refine Q7 ?_;obtain⟨b,f,e⟩:=Qh3 (x::y::r) d (y::r) 0 x rfl rfl (by simp);refine Ea f.ev ?_;rcases e with⟨rfl,g⟩|rfl
  .show Ev (λn=>some (x::y::r)) (x::ddA x (y::r));rw[g];exact Qa _
  .exact Qa _
section
variable {S T B:Type} {step:Nat->S->Option (List T×Ctl S B)} {s s':S} {b:B} {xs ys:List T}
def EvL(step:Nat->S->Option (List T×Ctl S B))(s:S)(ys:List T)(b:B):Prop:=∃N,∀n k,N<=n->N<=k->QbI (step n) k s=some (ys,b)
theorem EvL.done(h:Ev (λn=>step n s) (ys,.done b)):EvL step s ys b:=by
 obtain⟨N,h⟩:=h;refine⟨N+1,λn k d f=>?_⟩;obtain⟨a,rfl⟩:∃a,k=a+1:=⟨k-1,by omega⟩;have e:step n s=some (ys,.done b):=h n (by omega);unfold QbI;rw[e];rfl
theorem EvL.cont(h:Ev (λn=>step n s) (xs,.cont s'))(q:EvL step s' ys b):EvL step s (xs++ys) b:=by
 obtain⟨N,h⟩:=h;obtain⟨M,q⟩:=q;refine⟨max N M+1,λn k d f=>?_⟩;obtain⟨a,rfl⟩:∃a,k=a+1:=⟨k-1,by omega⟩;have e:step n s=some (xs,.cont s'):=h n (by omega);unfold QbI;rw[e];show(QbI (step n) a s').bind _=_;rw[q n a (by omega) (by omega)];rfl
theorem EvL.ev(h:EvL step s ys b):Ev (λn=>QbI (step n) n s) (ys,b):=by
 obtain⟨N,h⟩:=h;exact⟨N,λn a=>h n n a a⟩
end
section
variable {U T R:Type}
theorem Qb3{step:Nat->U->T->Option (Ctl U R)}(g:U->T->U)(I:U->Nat->Prop):∀(l:List T) (u:U),I u l.length->(∀x∈l,∀u k,I u (k+1)->Ev (λn=>step n u x) (.cont (g u x))/\I (g u x) k)->Ev (λn=>runL (step n) l u) (.cont (l.foldl g u))/\I (l.foldl g u) 0
 |[],u,h,_=>⟨Qa _,h⟩
 |x::l,u,h,q=>by
  obtain⟨h1,h2⟩:=q x (by simp) u l.length h;obtain⟨r1,r2⟩:=Qb3 g I l (g u x) h2 λy hy=>q y (by simp[hy]);exact⟨Ea h1 r1,r2⟩
end
def ofK(k:Int)(f:Fact):Bool:=(f.Kind==k)&&validS f
def cntS(l:List Fact)(k:Int):List Fact:=(canonS l).filter λf=>f.Kind==k
theorem Qh0(f:Fact)(k:Int):Ev (λn=>F_ao n f k) (!ofK k f):=by
 unfold F_ao ofK;refine Ea (v:= !((f.Kind==k)&&validS f)) ?_ (Qa _);cases q:f.Kind==k with
 |false=>simp only[bne,q,Xh,Vp,Bool.false_and];exact Qa _
 |true=>
  simp only[bne,q,Xg,Vq,VA];refine Ea (QfJ f) ?_;cases validS f<;>exact Qa _
theorem QnJ(l:List Fact)(k:Int)(f:l.length<=1048576):Ev (λn=>F_di n l k) (l.filter (ofK k)):=by
 unfold F_di F_gd;refine Ev.eq (Qk6 l (λg=> !ofK k g) f (Ev.first l _ (by omega) (λi x a=>?_) ?_) (λb i j x y e a d p m=>?_) λb i=>?_) (by simp)
 .unfold F_hv;simp only[a.lt,Vp,a.ix,XJ,a.nx];refine Ea (Qh0 x k) ?_;cases ofK k x<;>exact Qa _
 .unfold F_hv;simp only[Qco,Vq];exact Qa _
 .have h:=(XL.1 d).1;unfold F_hs;simp only[a.lt,Vp,a.ix,XJ,a.nx];refine Ea (Qh0 x k) ?_;cases ofK k x with
  |false=>exact Qa _
  |true=>
   simp only[Xg,Xh,Vp,Vq,Ql d,QaG b x h,XJ,QC (show i<9223372036854775807 by omega)];exact Qa _
 .unfold F_hs;simp only[Qco,Vq];exact Qa _
theorem Qkt(r:List Fact)(k:r.length<=1048576):Ev (λn=>ap (QbI (F_eh n r) n 0) λ_=>some ([],())) (r,()):=by
 have loop:∀(q:List Fact) (i:Nat),r.drop i=q->i<=r.length->EvL (λn=>F_eh n r) (i:Int) q ():=by
  intro q
  induction q with
  |nil=>
   intro i b e;refine EvL.done ?_;unfold F_eh;simp only[Yx b e,Vq];exact Qa _
  |cons f q g=>
   intro i b e;obtain⟨a,d⟩:=QN (by omega) b;have j:=a.lt';refine EvL.cont (xs:=[f]) ?_ (g (i+1) d (by omega));unfold F_eh;simp only[a.lt,Vp,a.ix,XJ,a.nx];exact Qa _
 have h:=(loop r 0 rfl (XU _)).ev;unfold ap;refine Ea h ?_;exact Ev.eq (Qa _) (by simp)
theorem QcM(l:List Fact)(k:Int):(cntS l k).length<=l.length:=XV (List.length_filter_le ..) (Qfl l)
theorem QaK(l:List Fact)(k:Int)(g:l.length<=1048576):Ev (λn=>F_o n l k) (cntS l k,()):=by
 unfold F_o F_fb;simp only[Qkp g,XJ];refine Ea (QnJ l k g) ?_;have p:=QK (ltC cmpF) (l.filter (ofK k));have i:∀f∈l.filter (ofK k),validS f=true:=λf z=>by
  have:=(Xd.1 z).2;unfold ofK at this;rw[XW]at this;exact this.2
 have d:=XV (List.length_filter_le (ofK k) l) g;refine Ea (Qj6 d (λx _ y _=>QiX x y) QjV λx j y u e=>Qg3 (i x j) (i y u) e) ?_;refine Ea (Qh1 _ (by rw[p.length_eq];exact d)) ?_;have s:(QaT (ltC cmpF) (l.filter (ofK k))).Pairwise λa b=>¬cmpF b a<0:=List.Pairwise.imp (λq=>Vw q) (Yv (QbV QjV _));obtain⟨m,r⟩:=dd_ok s λx j=>i x (p.mem_iff.1 j);obtain⟨t,w⟩:=Qgk l;have e:dd (QaT (ltC cmpF) (l.filter (ofK k)))=cntS l k:=Qex Qnv QiM m (t.1.filter _) λf=>by
  rw[r,p.mem_iff];simp only[cntS,Xd,w,ofK,XW];exact⟨λh=>⟨⟨h.1,h.2.2⟩,h.2.1⟩,λh=>⟨h.1.1,h.2,h.1.2⟩⟩
 rw[e];exact Qkt _ (XV (QcM l k) g)
theorem QcQ(p:Nat->Bool):∀k,(∀i,i<k->p i=true)\/ ∃j,j<k/\p j=false/\ ∀i,i<j->p i=true
 |0=>.inl λi h=>absurd h (Xm _)
 |k+1=>by
  rcases QcQ p k with h|⟨j,h1,h2,h3⟩
  .cases q:p k with
   |true=>exact .inl λi hi=>(Nat.lt_succ_iff_lt_or_eq.1 hi).elim (h i) λe=>e▸q
   |false=>exact .inr ⟨k,Xn _,q,h⟩
  .exact .inr ⟨j,by omega,h2,h3⟩
theorem Qpv{p:Nat->Bool}{k:Nat}:(List.range k).all p=true↔ ∀i,i<k->p i=true:=by simp[Xs]
theorem Qc1{B:Type}{step:Nat->Int->Option (Ctl Int B)}(k:Nat)(p:Nat->Bool)(g b:B)
  (d:∀i,i<k->Ev (λn=>step n (i:Int)) (bif p i then .cont ((i+1:Nat):Int)else .done g))(m:Ev (λn=>step n (k:Int)) (.done b)):
  Ev (λn=>Go.Sw.iter (step n) n 0) (bif (List.range k).all p then b else g):=by
 rcases QcQ p k with h|⟨j,f,e,l⟩
 .rw[Qpv.2 h];exact Ev.iter (λi=>(i:Int)) k rfl (λi a=>(d i a).eq (by rw[h i a];rfl)) m
 .have:(List.range k).all p=false:=by
   rw[VM];intro q;rw[Qpv.1 q j f]at e;cases e
  rw[this];exact Ev.iter (λi=>(i:Int)) j rfl (λi a=>(d i (by omega)).eq (by rw[l i a];rfl)) ((d j f).eq (by rw[e];rfl))
theorem atN{α:Type}{l:List α}{i:Nat}(hl:l.length<=1048576)(hi:i<l.length):At l i l[i]:=Jb (by omega) (XK hi)
theorem Qet{n:Nat}(h:n<=1048576):IntKind.i64.wrap ((n:Int)+1)=((n+1:Nat):Int):=QC (by omega)
def segLt(x y:Segment):Bool:=decide (x.Mat<y.Mat)||((x.Mat==y.Mat)&&decide (x.Epoch<y.Epoch))
def cmpSeg(x y:Segment):Int:=orL [cmpI x.Mat y.Mat,cmpI x.Epoch y.Epoch]
theorem Qgh(x y:Segment):decide (0<=cmpSeg x y)= !segLt x y:=by
 unfold cmpSeg segLt orL orL orL cmpI;by_cases a:x.Mat<y.Mat
 .simp[a]
 .by_cases b:y.Mat<x.Mat
  .have:¬x.Mat=y.Mat:=by omega
   simp[a,b,this]
  .have:x.Mat=y.Mat:=by omega
   by_cases d:x.Epoch<y.Epoch
   .simp[a,b,this,d]
   .by_cases e:y.Epoch<x.Epoch
    .simp[a,b,this,d,e]
    .simp[a,b,this,d,e]
theorem Qmm(a b:Int):Ev (λn=>F_k n a b) (cmpI a b):=Qm4 (Qa _) λn=>QjR n a b
theorem QdT(x y:Segment):Ev (λn=>F_af n x y) (cmpSeg x y):=by
 unfold F_af F_eg;exact Ea (Ea (Qmm _ _) (Ea (Qmm _ _) (Ea (Qog _ (by simp)) (Qa _)))) (Qa _)
def timeB(x:Int):Bool:=inR (-1099511627776) 1099511627776 x
theorem Qkv(x:Int):Ev (λn=>F_m n x) (timeB x):=by
 unfold F_m timeB inR;exact Ea (Ei λ_=>Qa _) (Qa _)
def prevSeg(c:Clocks)(i:Nat)(x:Segment):Bool:=decide (0<(i:Int))&& !(match c.Segments[i-1]? with|some y=>segLt y x|none=>true)
def segBad(c:Clocks)(i:Nat)(x:Segment):Bool:=decide (x.Mat<0)||(decide (40<=x.Mat)||(decide (x.Epoch<0)||(decide (255<x.Epoch)||(!timeB x.Anchor||prevSeg c i x))))
def segsB(c:Clocks):Bool:=(List.range c.Segments.length).all λi=>match c.Segments[i]? with|some x=> !segBad c i x|none=>true
theorem QlZ{α:Type}{l:List α}{i:Nat}{y:α}(b:l.length<=1048576)(hi:0<i)(a:i<=l.length)(h:l[i-1]?=some y):idx l (IntKind.i64.wrap ((i:Int)-1))=some y:=by
 rw[Qo (by omega) (by omega),show((i:Int)-1)=((i-1:Nat):Int)by omega];exact Ql h
theorem QnG(c:Clocks)(g:c.Segments.length<=1048576):Ev (λn=>iter (F_hh n c) n 0) (bif segsB c then Ctl.cont ()else Ctl.done 160):=by
 unfold segsB;refine Qc1 c.Segments.length _ _ _ (λi j=>?_) ?_
 .have a:=atN g j;unfold F_hh;simp only[a.lt,Vp,a.ix,XJ,a.nx,a.get];have:Ev (λn=>((bif decide ((c.Segments[i]).Mat<0)then some true else(bif decide (40<=(c.Segments[i]).Mat)then some true else(bif decide ((c.Segments[i]).Epoch<0)then some true else(bif decide (255<(c.Segments[i]).Epoch)then some true else(F_m n (c.Segments[i]).Anchor).bind λe=>(bif (!e)then some true else(bif decide (0<(i:Int))then(idx c.Segments (IntKind.i64.wrap ((i:Int)-1))).bind λb=>(F_af n b (c.Segments[i])).bind λd=>some (decide (0<=d))else some false)))))):Option Bool)) (segBad c i (c.Segments[i])):=by
   unfold segBad;refine Eu λ_=>Eu λ_=>Eu λ_=>Eu λ_=>Ea (Qkv _) (Eu λ_=>?_);unfold prevSeg;refine Ei λh=>?_;have k:0<i:=by have:=Vv h;omega
   have f:i-1<c.Segments.length:=by omega
   rw[QlZ g k (by omega) (XK f),XK f];simp only[XJ];exact Ea (QdT _ _) ((Qa _).eq (Qgh _ _))
  refine Ea this ?_;cases segBad c i (c.Segments[i])<;>exact Qa _
 .unfold F_hh;simp only[Qco,Vq];exact Qa _
def farBad(x:Int):Bool:=decide (x< -2199023255552)||decide (2199023255552<x)
theorem Qkw(l:List Int)(a:l.length<=1048576):Ev (λn=>F_bc n l) (l.any farBad):=by
 unfold F_bc F_ff;refine Ev.contains l farBad (λn x=>F_ba n x) (by omega) λx _=>?_;unfold F_ba farBad;exact Ea (Eu λ_=>Qa _) (Qa _)
def rowB(c:Clocks)(i:Nat)(r:List Int):Bool:= !(((r.length:Int) != ((c.Segments.length+1:Nat):Int))||((r[i]?.getD 1 != 0)||r.any farBad))
def rowsB(c:Clocks):Bool:=(List.range c.Far.length).all λi=>match c.Far[i]? with|some r=>rowB c i r|none=>true
theorem QnH(c:Clocks)(l:c.Segments.length<=1048576)(g:c.Far.length<=1048576)(j:∀r∈c.Far,r.length<=1048576)(m:c.Far.length=c.Segments.length+1):
  Ev (λn=>iter (F_gq n c) n 0) (bif rowsB c then Ctl.cont ()else Ctl.done 160):=by
 unfold rowsB;refine Qc1 c.Far.length _ _ _ (λi k=>?_) ?_
 .have a:=atN g k;unfold F_gq;simp only[a.lt,Vp,a.ix,XJ,a.nx,a.get,Qet l];have:Ev (λn=>((bif (((c.Far[i]).length:Int) != ((c.Segments.length+1:Nat):Int))then some true else(idx (c.Far[i]) (i:Int)).bind λe=>(bif (e != 0)then some true else(F_bc n (c.Far[i])).bind λb=>some b)):Option Bool)) (!rowB c i (c.Far[i])):=by
   unfold rowB;rw[Bool.not_not];refine Eu λh=>?_;have f:(c.Far[i]).length=c.Segments.length+1:=by
    have:((c.Far[i]).length:Int)=((c.Segments.length+1:Nat):Int):=by simpa[bne]using h
    omega
   have d:i<(c.Far[i]).length:=by omega
   rw[Ql (XK d),XK d];simp only[XJ,Option.getD_some];exact Eu λ_=>Ea (Qkw _ (j _ a.mem)) (Qa _)
  refine Ea this ?_;cases rowB c i (c.Far[i])<;>exact Qa _
 .unfold F_gq;simp only[Qco,Vq];exact Qa _
def farG(c:Clocks)(i j:Nat):Int:=((c.Far[i]?.getD [])[j]?).getD 0
structure Dims (c:Clocks):Prop where
 segs:c.Segments.length<=511
 far:c.Far.length=c.Segments.length+1
 row:∀i,i<c.Far.length->(c.Far[i]?.getD []).length=c.Segments.length+1
theorem Dims.get{c:Clocks}(d:Dims c){i j:Nat}(hi:i<c.Segments.length+1)(b:j<c.Segments.length+1):c.Far[i]?=some (c.Far[i]?.getD [])/\(c.Far[i]?.getD [])[j]?=some (farG c i j):=by
 have a:i<c.Far.length:=by rw[d.far];exact hi
 have e:=d.row i a;refine⟨by rw[XK a];rfl,?_⟩;unfold farG;have:j<(c.Far[i]?.getD []).length:=by omega
 rw[XK this];rfl
def triB(c:Clocks):Bool:=(List.range (c.Segments.length+1)).all λi=>(List.range (c.Segments.length+1)).all λj=>(List.range (c.Segments.length+1)).all λk=> !decide (IntKind.i64.wrap (farG c i j+farG c j k)<farG c i k)
theorem ltN{a b:Nat}(h:a<b):decide ((a:Int)<(b:Int))=true:=Vu (by omega)
theorem geN{a b:Nat}(h:b<=a):decide ((a:Int)<(b:Int))=false:=Vx (by omega)
theorem Qpc(c:Clocks)(d:Dims c):Ev (λn=>iter (F_hk n c) n 0) (bif triB c then Ctl.cont ()else Ctl.done 160):=by
 have r:=d.segs;unfold triB;refine Qc1 (c.Segments.length+1) _ _ _ (λi b=>?_) ?_
 .unfold F_hk;have g:=(d.get b b).1;have h:=d.row i (by rw[d.far];exact b);simp only[Qet (show c.Segments.length<=1048576 by omega),ltN b,Vp,Ql g,XJ,Qet (show i<=1048576 by omega)];refine Ea (Qc1 (c.Segments.length+1) (λj=>(List.range (c.Segments.length+1)).all λk=> !decide (IntKind.i64.wrap (farG c i j+farG c j k)<farG c i k)) (Ctl.done (Ctl.done (Ctl.done 160))) (Ctl.cont ()) (λj a=>?_) ?_) ?_
  .unfold F_hq;have m:=(d.get b a).2;have q:=(d.get a a).1;have e:=d.row j (by rw[d.far];exact a);simp only[h,ltN a,Vp,Ql m,Ql q,XJ,Qet (show j<=1048576 by omega)];refine Ea (Qc1 (c.Segments.length+1) (λk=> !decide (IntKind.i64.wrap (farG c i j+farG c j k)<farG c i k)) (Ctl.done (Ctl.done (Ctl.done (Ctl.done (Ctl.done 160))))) (Ctl.cont ()) (λk f=>?_) ?_) ?_
   .unfold F_hw;have l:=(d.get a f).2;have p:=(d.get b f).2;simp only[e,ltN f,Vp,Ql l,Ql g,Ql p,XJ,Qet (show k<=1048576 by omega)];cases decide (IntKind.i64.wrap (farG c i j+farG c j k)<farG c i k)<;>exact Qa _
   .unfold F_hw;simp only[e,geN (XT _),Vq];exact Qa _
   .cases(List.range (c.Segments.length+1)).all λk=> !decide (IntKind.i64.wrap (farG c i j+farG c j k)<farG c i k)<;>exact Qa _
  .unfold F_hq;simp only[h,geN (XT _),Vq];exact Qa _
  .cases(List.range (c.Segments.length+1)).all λj=>(List.range (c.Segments.length+1)).all λk=> !decide (IntKind.i64.wrap (farG c i j+farG c j k)<farG c i k)<;>exact Qa _
 .unfold F_hk;simp only[Qet (show c.Segments.length<=1048576 by omega),geN (XT _),Vq];exact Qa _
def clkB(c:Clocks):Bool:= !(decide (511<(c.Segments.length:Int))||((c.Far.length:Int) != ((c.Segments.length+1:Nat):Int)))&&(segsB c&&(rowsB c&&triB c))
structure ClkW (c:Clocks):Prop where
 segs:c.Segments.length<=1048576
 far:c.Far.length<=1048576
 row:∀r∈c.Far,r.length<=1048576
theorem QjT{c:Clocks}(f:¬511<(c.Segments.length:Int))(d:c.Far.length=c.Segments.length+1)(b:rowsB c=true):Dims c:=by
 refine⟨by omega,d,λi a=>?_⟩;have:=Qpv.1 b i a;rw[XK a]at this⊢;simp only[rowB,Bool.not_eq_true',XX]at this;have e:((c.Far[i]).length:Int)=((c.Segments.length+1:Nat):Int):=by simpa[bne]using this.1
 simp only[Option.getD_some];omega
theorem Qpe(c:Clocks)(w:ClkW c):Ev (λn=>F_v n c) (bif clkB c then 0 else 160):=by
 unfold F_v clkB;simp only[Qet w.segs];refine Ea (Eu λ_=>Qa _) ?_;cases a:(decide (511<(c.Segments.length:Int))||((c.Far.length:Int) != ((c.Segments.length+1:Nat):Int)))with
 |true=>exact Qa _
 |false=>
  simp only[Xh,VA,XX,decide_eq_false_iff_not]at a⊢;have b:c.Far.length=c.Segments.length+1:=by
   have:(c.Far.length:Int)=((c.Segments.length+1:Nat):Int):=by simpa[bne]using a.2
   omega
  refine Q7 (Ea (QnG c w.segs) ?_);cases segsB c with
  |false=>exact Qa _
  |true=>
   refine Ea (QnH c w.segs w.far w.row b) ?_;cases d:rowsB c with
   |false=>exact Qa _
   |true=>
    refine Ea (Qpc c (QjT a.1 b d)) ?_;cases triB c<;>exact Qa _
structure Gr where
 F:Nat->Nat
 T:Nat->Nat
 W:Nat->Int
 E:Nat
structure Bs where
 far:Nat->Int
 edge:Nat->Nat
def bN:Int:=1152921504606846976
def bup{β:Type}(f:Nat->β)(k:Nat)(v:β):Nat->β:=λj=>if j=k then v else f j
def brel(g:Gr)(s:Bs)(i:Nat):Bs:=
 if s.far (g.F i)=bN\/s.far (g.T i)<=s.far (g.F i)+g.W i then s else⟨bup s.far (g.T i) (s.far (g.F i)+g.W i),bup s.edge (g.T i) i⟩
def bst(g:Gr)(s:Bs):Nat->Bs
 |0=>s
 |t+1=>brel g (bst g s t) (t%g.E)
theorem YD{β:Type}(f:Nat->β)(k:Nat)(v:β):bup f k v k=v:=Vt rfl
theorem QbM{β:Type}(f:Nat->β){k j:Nat}(v:β)(h:j≠k):bup f k v j=f j:=Vs h
theorem YH(g:Gr)(s:Bs)(i:Nat):
  (brel g s i=s/\(s.far (g.F i)=bN\/s.far (g.T i)<=s.far (g.F i)+g.W i))\/
  (s.far (g.F i)≠bN/\s.far (g.F i)+g.W i<s.far (g.T i)/\brel g s i=⟨bup s.far (g.T i) (s.far (g.F i)+g.W i),bup s.edge (g.T i) i⟩):=by
 unfold brel;by_cases h:s.far (g.F i)=bN\/s.far (g.T i)<=s.far (g.F i)+g.W i
 .exact .inl ⟨Vt h,h⟩
 .exact .inr ⟨λq=>h (.inl q),by omega,Vs h⟩
theorem QnQ(g:Gr)(s:Bs)(i v:Nat):(brel g s i).far v<=s.far v:=by
 rcases YH g s i with⟨h,_⟩|⟨_,a,h⟩
 .rw[h];exact Int.le_refl _
 .rw[h];by_cases q:v=g.T i
  .subst q;simp only[YD];omega
  .simp only[QbM _ _ q];exact Int.le_refl _
theorem Qfm(g:Gr)(s:Bs)(v t:Nat):∀k,(bst g s (t+k)).far v<=(bst g s t).far v
 |0=>Int.le_refl _
 |k+1=>Int.le_trans (QnQ g _ _ v) (Qfm g s v t k)
def bch(g:Gr)(s:Bs)(v t:Nat):Prop:=(bst g s (t+1)).far v≠(bst g s t).far v
theorem Ji(g:Gr)(s:Bs)(t:Nat):bst g s (t+1)=brel g (bst g s t) (t%g.E):=rfl
theorem QaB{g:Gr}{s:Bs}{v t:Nat}(h:bch g s v t):v=g.T (t%g.E)/\(bst g s t).far (g.F (t%g.E))≠bN/\
  (bst g s t).far (g.F (t%g.E))+g.W (t%g.E)<(bst g s t).far v/\bst g s (t+1)=⟨bup (bst g s t).far v ((bst g s t).far (g.F (t%g.E))+g.W (t%g.E)),bup (bst g s t).edge v (t%g.E)⟩:=by
 unfold bch at h;rw[Ji]at h⊢;rcases YH g (bst g s t) (t%g.E)with⟨q,_⟩|⟨d,b,a⟩
 .rw[q]at h;exact absurd rfl h
 .by_cases e:v=g.T (t%g.E)
  .subst e;exact⟨rfl,d,b,a⟩
  .rw[a]at h;exact absurd (QbM _ _ e) h
theorem QmE{g:Gr}{s:Bs}{v t:Nat}(h:bch g s v t):(bst g s (t+1)).edge v=t%g.E:=by
 rw[(QaB h).2.2.2];exact YD _ _ _
theorem Qg6{g:Gr}{s:Bs}{v t:Nat}(h:¬bch g s v t):(bst g s (t+1)).far v=(bst g s t).far v/\(bst g s (t+1)).edge v=(bst g s t).edge v:=by
 have a:(bst g s (t+1)).far v=(bst g s t).far v:=Classical.not_not.1 h;refine⟨a,?_⟩;rw[Ji]at a⊢;rcases YH g (bst g s t) (t%g.E)with⟨q,_⟩|⟨f,d,b⟩
 .rw[q]
 .rw[b]at a⊢;by_cases e:v=g.T (t%g.E)
  .subst e;simp only[YD]at a;omega
  .exact QbM _ _ e
theorem Qbb{g:Gr}{s:Bs}{v t:Nat}:∀k,(∀j,j<k->¬bch g s v (t+j))->(bst g s (t+k)).far v=(bst g s t).far v/\(bst g s (t+k)).edge v=(bst g s t).edge v
 |0,_=>⟨rfl,rfl⟩
 |k+1,h=>by
  have a:=Qg6 (h k (Xn k));have b:=Qbb k λj hj=>h j (by omega);exact⟨a.1.trans b.1,a.2.trans b.2⟩
theorem QmD{g:Gr}{s:Bs}{v t:Nat}(hE:0<g.E)(he:g.E<=t)(h:bch g s v t):∃j,j<g.E/\bch g s (g.F (t%g.E)) (t-g.E+j):=by
 obtain⟨e,f,p,-⟩:=QaB h;refine Classical.byContradiction λq=>?_;have k:=(Qbb (t:=t-g.E) g.E λj i c=>q ⟨j,i,c⟩).1;rw[show t-g.E+g.E=t by omega]at k;have m:(t-g.E)%g.E=t%g.E:=by
  conv=>rhs;rw[show t=(t-g.E)+g.E by omega,Nat.add_mod_right]
 have d:=Qfm g s v (t-g.E+1) (g.E-1);rw[show t-g.E+1+(g.E-1)=t by omega]at d;have n:(bst g s (t-g.E+1)).far v<=(bst g s (t-g.E)).far (g.F (t%g.E))+g.W (t%g.E):=by
  rw[Ji,m,e];rcases YH g (bst g s (t-g.E)) (t%g.E)with⟨b,a⟩|⟨b,a,l⟩
  .rw[b];rcases a with a|a
   .rw[<- k]at a;exact absurd a f
   .exact a
  .rw[l];simp only[YD];exact Int.le_refl _
 omega
structure Lst (g:Gr) (s:Bs) (v t τ:Nat):Prop where
 lt:τ<t
 ch:bch g s v τ
 no:∀j,τ<j->j<t->¬bch g s v j
theorem Qjg{g:Gr}{s:Bs}{v:Nat}:∀{t τ:Nat},τ<t->bch g s v τ->∃τ',τ<=τ'/\Lst g s v t τ'
 |0,_,h,_=>absurd h (Xm _)
 |t+1,τ,h,c=>by
  by_cases q:bch g s v t
  .exact⟨t,by omega,⟨by omega,q,λj h1 h2=>by omega⟩⟩
  .rcases VC τ t with k|k
   .obtain⟨τ',h1,h2⟩:=Qjg k c;exact⟨τ',h1,⟨Nat.lt_succ_of_lt h2.lt,h2.ch,λj a b=>by
     rcases VC j t with e|e
     .exact h2.no j a e
     .rwa [show j=t by omega]⟩⟩
   .rw[show τ=t by omega]at c;exact absurd c q
theorem Lst.edge{g:Gr}{s:Bs}{v t τ:Nat}(h:Lst g s v t τ):(bst g s t).edge v=τ%g.E:=by
 have k:=(Qbb (t:=τ+1) (t-(τ+1)) λj a=>h.no (τ+1+j) (by omega) (by omega)).2;have:=h.lt;rw[show τ+1+(t-(τ+1))=t by omega]at k;rw[k,(QaB h.ch).2.2.2];exact YD _ _ _
def bp(g:Gr)(s:Bs)(v:Nat):Nat:=g.F (s.edge v)
theorem Lst.pred{g:Gr}{s:Bs}{v t τ:Nat}(hE:0<g.E)(h:Lst g s v t τ)(he:g.E<=τ):∃τ',τ-g.E<=τ'/\Lst g s (bp g (bst g s t) v) t τ':=by
 unfold bp;rw[h.edge];obtain⟨j,d,c⟩:=QmD hE he h.ch;have:=h.lt;obtain⟨τ',b,a⟩:=Qjg (t:=t) (by omega) c;exact⟨τ',by omega,a⟩
def bpk(g:Gr)(s:Bs):Nat->Nat->Nat
 |v,0=>v
 |v,k+1=>bp g s (bpk g s v k)
theorem Lst.back{g:Gr}{s:Bs}{v t:Nat}(hE:0<g.E):∀k {τ:Nat},Lst g s v t τ->k*g.E<=τ->∃τ',τ-k*g.E<=τ'/\Lst g s (bpk g (bst g s t) v k) t τ'
 |0,τ,h,_=>⟨τ,by omega,h⟩
 |k+1,τ,h,hk=>by
  rw[Xl]at hk;obtain⟨τ1,h1,h2⟩:=Lst.back hE k h (by omega);obtain⟨τ2,h3,h4⟩:=h2.pred hE (by omega);refine⟨τ2,?_,h4⟩;rw[Xl];omega
theorem Lst.low{g:Gr}{s:Bs}{v t τ:Nat}(h:Lst g s v t τ):(bst g s t).far (bp g (bst g s t) v)+g.W ((bst g s t).edge v)<=(bst g s t).far v:=by
 have k:=(Qbb (t:=τ+1) (t-(τ+1)) λj e=>h.no (τ+1+j) (by omega) (by omega)).1;have lt:=h.lt;rw[show τ+1+(t-(τ+1))=t by omega]at k;obtain⟨b,d,f,a⟩:=QaB h.ch;unfold bp;rw[h.edge,k,a];simp only[YD];have:=Qfm g s (g.F (τ%g.E)) τ (t-τ);rw[show τ+(t-τ)=t by omega]at this;omega
def bsum(g:Gr)(s:Bs)(v:Nat):Nat->Int
 |0=>0
 |k+1=>bsum g s v k+g.W (s.edge (bpk g s v k))
theorem QjW{g:Gr}{s:Bs}(φ:Nat->Int)(v:Nat):∀k,(∀j,j<k->g.W (s.edge (bpk g s v j))<=φ (bpk g s v j)-φ (bpk g s v (j+1)))->
  bsum g s v k<=φ v-φ (bpk g s v k)/\ ∀j,j<k->g.W (s.edge (bpk g s v j))<φ (bpk g s v j)-φ (bpk g s v (j+1))->bsum g s v k<φ v-φ (bpk g s v k)
 |0,_=>⟨by simp[bsum,bpk],λj hj=>absurd hj (Xm _)⟩
 |k+1,h=>by
  obtain⟨a,b⟩:=QjW φ v k λj hj=>h j (by omega);have c:=h k (by omega);unfold bsum;refine⟨by omega,λj hj q=>?_⟩;rcases VC j k with e|e
  .have:=b j e q;omega
  .rw[show j=k by omega]at q;omega
theorem Qib{g:Gr}{s s':Bs}{v:Nat}:∀k,(∀j,j<k->s'.edge (bpk g s v j)=s.edge (bpk g s v j))->bpk g s' v k=bpk g s v k/\bsum g s' v k=bsum g s v k
 |0,_=>⟨rfl,rfl⟩
 |k+1,h=>by
  obtain⟨a,b⟩:=Qib k λj hj=>h j (by omega);unfold bpk bp bsum;rw[a,b,h k (by omega)];exact⟨rfl,rfl⟩
theorem Qi6{g:Gr}{s:Bs}:∀(t:Nat) {v k:Nat},0<k->bpk g (bst g s t) v k=v->(∀j,j<k->∃τ,Lst g s (bpk g (bst g s t) v j) t τ)->bsum g (bst g s t) v k<0
 |0,v,k,h0,_,h=>by obtain⟨τ,q⟩:=h 0 h0;exact absurd q.lt (Xm _)
 |t+1,v,k,h0,hk,h=>by
  by_cases q:∃j,j<k/\bch g s (bpk g (bst g s (t+1)) v j) t
  .obtain⟨j,hj,c⟩:=q;obtain⟨e1,e2,e3,e4⟩:=QaB c;have ed:=QmE c;have key:∀i,i<k->g.W ((bst g s (t+1)).edge (bpk g (bst g s (t+1)) v i))<=(bst g s t).far (bpk g (bst g s (t+1)) v i)-(bst g s t).far (bpk g (bst g s (t+1)) v (i+1)):=by
    intro i l;by_cases z:bpk g (bst g s (t+1)) v i=bpk g (bst g s (t+1)) v j
    .have:bpk g (bst g s (t+1)) v (i+1)=g.F (t%g.E):=by
      show bp g _ _=_;unfold bp;rw[z,ed]
     rw[this,z,ed];omega
    .obtain⟨τ,hτ⟩:=h i l;have d:¬bch g s (bpk g (bst g s (t+1)) v i) t:=λr=>z ((QaB r).1.trans e1.symm);have p:Lst g s (bpk g (bst g s (t+1)) v i) t τ:=⟨by
      have:=hτ.lt;rcases VC τ t with e|e
      .exact e
      .rw[show τ=t by omega]at hτ;exact absurd hτ.ch d,hτ.ch,λj a b=>hτ.no j a (by omega)⟩
     have:=p.low;have u:=(Qg6 d).2;show g.W _<=_-(bst g s t).far (bp g _ _);unfold bp at this⊢;rw[u];omega
   have n:=(QjW (g:=g) (s:=bst g s (t+1)) (bst g s t).far v k key).2 j hj (by
    show g.W _<_-(bst g s t).far (bp g _ _);unfold bp;rw[ed];omega)
   rw[hk]at n;omega
  .have d:∀j,j<k->¬bch g s (bpk g (bst g s (t+1)) v j) t:=λj hj c=>q ⟨j,hj,c⟩;have m:=Qib (g:=g) (s:=bst g s (t+1)) (s':=bst g s t) (v:=v);have f:=λi (l:i<=k)=>m i λj hj=>(Qg6 (d j (by omega))).2.symm;rw[<- (f k (XT _)).2];refine Qi6 t h0 ((f k (XT _)).1.trans hk) λj hj=>?_;rw[(f j (by omega)).1];obtain⟨τ,hτ⟩:=h j hj;exact⟨τ,by
    have:=hτ.lt;rcases VC τ t with e|e
    .exact e
    .rw[show τ=t by omega]at hτ;exact absurd hτ.ch (d j hj),hτ.ch,λi a b=>hτ.no i a (by omega)⟩
theorem QlJ:∀(n:Nat) (f:Nat->Nat),(∀i,i<=n->f i<n)->∃i j,i<j/\j<=n/\f i=f j
 |0,f,h=>absurd (h 0 (XT _)) (Xm _)
 |n+1,f,h=>by
  by_cases q:∃i,i<=n/\f i=f (n+1)
  .obtain⟨i,h1,h2⟩:=q;exact⟨i,n+1,by omega,by omega,h2⟩
  .have q':∀i,i<=n->f i≠f (n+1):=λi h1 h2=>q ⟨i,h1,h2⟩;obtain⟨i,j,h1,h2,h3⟩:=QlJ n (λi=>if f i=n then f (n+1)else f i) (λi hi=>by
    have a:=h i (by omega);have b:=h (n+1) (by omega);have c:=q' i hi;show(if _ then _ else _)<n;split<;>omega)
   refine⟨i,j,h1,by omega,?_⟩;have c:=q' i (by omega);have d:=q' j (by omega);split at h3<;>split at h3<;>omega
theorem QcO(g:Gr)(s:Bs)(v a:Nat):∀b,bpk g s v (a+b)=bpk g s (bpk g s v a) b
 |0=>rfl
 |b+1=>by show bp g s (bpk g s v (a+b))=_;rw[QcO g s v a b];rfl
theorem QnR{g:Gr}{s:Bs}{v i d:Nat}(h:bpk g s v (i+d)=bpk g s v i)(m:Nat):bpk g s v (i+m+d)=bpk g s v (i+m):=by
 rw[show i+m+d=(i+d)+m by omega,QcO,h, <- QcO]
theorem Qol{g:Gr}{s:Bs}{n v t τ:Nat}(hE:0<g.E)(u:∀i,g.F i<n)(w:v<n)(h:Lst g s v t τ)(hτ:(n-1)*g.E<=τ):
  ∃k,0<k/\k<=n/\bpk g (bst g s t) (bpk g (bst g s t) v n) k=bpk g (bst g s t) v n/\ ∀j,∃τ',Lst g s (bpk g (bst g s t) (bpk g (bst g s t) v n) j) t τ':=by
 have all:∀j,j<n->∃τ',Lst g s (bpk g (bst g s t) v j) t τ':=λj B=>by
  have:j*g.E<=(n-1)*g.E:=XC _ (by omega);obtain⟨τ',_,q⟩:=h.back hE j (by omega);exact⟨τ',q⟩
 obtain⟨i,j,z,G,x⟩:=QlJ n (λj=>bpk g (bst g s t) v j) (λj _=>by
  cases j with
  |zero=>exact w
  |succ j=>exact u _)
 have l:=λm=>QnR (g:=g) (s:=bst g s t) (v:=v) (i:=i) (d:=j-i) (by rw[show i+(j-i)=j by omega];exact x.symm) m;refine⟨j-i,by omega,by omega,?_,λm=>?_⟩
 .rw[<- QcO];have:=l (n-i)
  rwa [show i+(n-i)=n by omega]at this
 .rw[<- QcO];have p:∀r,∃f,f<n/\bpk g (bst g s t) v (i+r)=bpk g (bst g s t) v f:=by
   intro r
   induction r using Nat.strongRecOn with
   |ind r y=>
    rcases VC (i+r) n with e|e
    .exact⟨i+r,e,rfl⟩
    .obtain⟨f,a,b⟩:=y (r-(j-i)) (by omega);refine⟨f,a,?_⟩;have:=l (r-(j-i));rw[show i+(r-(j-i))+(j-i)=i+r by omega]at this;rw[this,b]
  obtain⟨f,a,b⟩:=p (n+m-i);rw[show i+(n+m-i)=n+m by omega]at b;rw[b];exact all f a
theorem QkJ{g:Gr}{s:Bs}{t:Nat}(h:∀j v,j<g.E->¬bch g s v (t+j))(b:t%g.E=0):∀i,i<g.E->(bst g s t).far (g.F i)=bN\/(bst g s t).far (g.T i)<=(bst g s t).far (g.F i)+g.W i:=by
 intro i a;have k:=λv=>(Qbb (g:=g) (s:=s) (v:=v) (t:=t) i λj l=>h j v (by omega)).1;have e:(t+i)%g.E=i:=by rw[Nat.add_mod,b,Xv,Nat.mod_mod,Nat.mod_eq_of_lt a]
 rcases YH g (bst g s (t+i)) i with⟨_,q⟩|⟨f,m,d⟩
 .rwa [k,k]at q
 .have:=h i (g.T i) a;unfold bch at this;rw[Ji,e,d]at this;simp only[YD]at this;omega
theorem QnP{g:Gr}{s:Bs}{M:Int}(d:∀i,-M<=g.W i/\g.W i<=M)(j:∀v,s.far v=bN\/s.far v=0)(t:Nat)(v:Nat):(bst g s t).far v=bN\/(-(M*t)<=(bst g s t).far v/\(bst g s t).far v<=M*t):=by
 induction t generalizing v with
 |zero=>
      rcases j v with q|q
      .exact .inl q
      .have:(bst g s 0).far v=0:=q;exact .inr (by simp[this])
 |succ t b=>
  have l:0<=M:=by have:=d 0;omega
  have e:M*((t+1:Nat):Int)=M*t+M:=by rw[Int.natCast_succ,Int.mul_add,Int.mul_one]
  rw[Ji];rcases YH g (bst g s t) (t%g.E)with⟨q,_⟩|⟨f,k,h⟩
  .rw[q];rcases b v with a|a
   .exact .inl a
   .exact .inr (by omega)
  .rw[h];by_cases z:v=g.T (t%g.E)
   .subst z;simp only[YD];have:=d (t%g.E);rcases b (g.F (t%g.E))with a|a
    .exact absurd a f
    .exact .inr (by omega)
   .simp only[QbM _ _ z];rcases b v with a|a
    .exact .inl a
    .exact .inr (by omega)
theorem QnO{g:Gr}{s:Bs}{φ:Nat->Int}(hE:0<g.E){c:Int}(hφ:∀i,i<g.E->φ (g.T i)<=φ (g.F i)+g.W i)(d:∀v,s.far v=bN\/φ v-c<=s.far v)(t v:Nat):(bst g s t).far v=bN\/φ v-c<=(bst g s t).far v:=by
 induction t generalizing v with
 |zero=>exact d v
 |succ t b=>
  rw[Ji];rcases YH g (bst g s t) (t%g.E)with⟨q,_⟩|⟨f,h,e⟩
  .rw[q];exact b v
  .rw[e];by_cases z:v=g.T (t%g.E)
   .subst z;simp only[YD];have:=hφ (t%g.E) (Nat.mod_lt _ hE);rcases b (g.F (t%g.E))with a|a
    .exact absurd a f
    .exact .inr (by omega)
   .simp only[QbM _ _ z];exact b v
inductive Wk (g:Gr) (a:Nat):Nat->Int->Prop
 |nil:Wk g a a 0
 |cons {v:Nat} {d:Int} (h:Wk g a v d) (i:Nat) (hi:i<g.E) (hv:v=g.F i):Wk g a (g.T i) (d+g.W i)
theorem Qpk{g:Gr}{s:Bs}{a:Nat}(hE:0<g.E)(d:∀v,s.far v=bN\/Wk g a v (s.far v))(t v:Nat):(bst g s t).far v=bN\/Wk g a v ((bst g s t).far v):=by
 induction t generalizing v with
 |zero=>exact d v
 |succ t b=>
  rw[Ji];rcases YH g (bst g s t) (t%g.E)with⟨q,_⟩|⟨f,h,e⟩
  .rw[q];exact b v
  .rw[e];by_cases z:v=g.T (t%g.E)
   .subst z;simp only[YD];rcases b (g.F (t%g.E))with a|a
    .exact absurd a f
    .exact .inr (.cons a _ (Nat.mod_lt _ hE) rfl)
   .simp only[QbM _ _ z];exact b v
theorem Wk.le{g:Gr}{a v:Nat}{d:Int}(h:Wk g a v d){f:Nat->Int}(e:∀i,i<g.E->f (g.T i)<=f (g.F i)+g.W i):f v<=f a+d:=by
 induction h with
 |nil=>omega
 |cons h i b j k=>have:=e i b;subst j;omega
set_option maxRecDepth 10000
def grOf(es:List Edge):Gr:=⟨λi=>match es[i]? with|some x=>x.From.toNat|none=>0,λi=>match es[i]? with|some x=>x.To.toNat|none=>0,λi=>match es[i]? with|some x=>x.W|none=>0,es.length⟩
structure EdgOk (n:Nat) (x:Edge):Prop where
 f0:0<=x.From
 f1:x.From<(n:Int)
 t0:0<=x.To
 t1:x.To<(n:Int)
 w0: -35184372088832<=x.W
 w1:x.W<=35184372088832
structure SysOk (n:Nat) (es:List Edge):Prop where
 n0:1<=n
 n1:n<=64
 e1:es.length<=256
 ok:∀x∈es,EdgOk n x
theorem QhG{es:List Edge}{i:Nat}{x:Edge}(h:es[i]?=some x):(grOf es).F i=x.From.toNat/\(grOf es).T i=x.To.toNat/\(grOf es).W i=x.W:=by
 simp[grOf,h]
theorem Ql0{n:Nat}{es:List Edge}(h:SysOk n es)(i:Nat):(grOf es).F i<n:=by
 have:=h.n0;show(match es[i]? with|some x=>x.From.toNat|none=>0)<n;cases q:es[i]? with
 |none=>exact this
 |some x=>obtain⟨d,e,a,b,_,_⟩:=h.ok x (VH q);simp only;omega
theorem gr_T{n:Nat}{es:List Edge}(h:SysOk n es)(i:Nat):(grOf es).T i<n:=by
 have:=h.n0;show(match es[i]? with|some x=>x.To.toNat|none=>0)<n;cases q:es[i]? with
 |none=>exact this
 |some x=>obtain⟨d,e,a,b,_,_⟩:=h.ok x (VH q);simp only;omega
theorem gr_W{n:Nat}{es:List Edge}(h:SysOk n es)(i:Nat): -35184372088832<=(grOf es).W i/\(grOf es).W i<=35184372088832:=by
 show-35184372088832<=(match es[i]? with|some x=>x.W|none=>0)/\(match es[i]? with|some x=>x.W|none=>0)<=35184372088832;cases q:es[i]? with
 |none=>simp
 |some x=>have:=h.ok x (VH q);exact⟨this.w0,this.w1⟩
theorem Qdr{n:Nat}{es:List Edge}(h:SysOk n es):Ev (λm=>F_am m ⟨(n:Int),es⟩) 0:=by
 have s:=h.n0;have l:=h.n1;have u:=h.e1;unfold F_am;refine Ea (v:=false) ?_ ?_
 .simp only[QG (show¬((n:Int)<1)by omega),QG (show¬(512<(n:Int))by omega),QG (show¬(8192<(es.length:Int))by omega),Vq];exact Qa _
 refine Q7 ?_;have loop:∀(q:List Edge) (i:Nat),es.drop i=q->i<=es.length->EvI (λm=>F_hb m ⟨(n:Int),es⟩) (i:Int) (Ctl.cont ()):=by
  intro q
  induction q with
  |nil=>
   intro i b e;refine Ej ?_;unfold F_hb;simp only[Yx b e,Vq];exact Qa _
  |cons x q f=>
   intro i b e;obtain⟨a,d⟩:=QN (by omega) b;have g:=a.lt';refine Ew ?_ (f (i+1) d (by omega));obtain⟨j,r,p,t,k,w1⟩:=h.ok x a.mem;unfold F_hb;simp only[a.lt,Vp,a.ix,XJ,a.nx];refine Ea (v:=false) ?_ (Qa _);rw[QG (show¬((if x.To<x.From then x.To else x.From)<0)by split<;>omega),Vq,QG (show¬((n:Int)<=(if x.From<x.To then x.To else x.From))by split<;>omega),Vq,QG (show¬(x.W< -35184372088832)by omega),Vq,QG (show¬(35184372088832<x.W)by omega)];exact Qa _
 exact Ea (loop es 0 rfl (XU _)).ev (Qa _)
structure RepB (l0:List Int) (lo n:Nat) (l ed:List Int) (s:Bs):Prop where
 len:l.length=l0.length
 far:∀v,v<n->l[lo+v]?=some (s.far v)
 out:∀j,j<lo\/lo+n<=j->l[j]?=l0[j]?
 eln:ed.length=n
 edge:∀v,v<n->ed[v]?=some ((s.edge v:Nat):Int)
theorem QeY{l:List Int}{lo i:Nat}{x:Int}(h:l[lo+i]?=some x){m:Int}(a:((lo+i:Nat):Int)<m):Qby l (lo:Int) m (i:Int)=some x:=by
 unfold Qby;rw[Vu (show(0:Int)<=(lo:Int)by omega),Vu (show(0:Int)<=(i:Int)by omega),Vu (show(lo:Int)+(i:Int)<m by omega)];rw[show(lo:Int)+(i:Int)=((lo+i:Nat):Int)by omega];exact Ql h
theorem Qmf{n:Nat}{es:List Edge}(h:SysOk n es){l0 l a:List Int}{lo:Nat}{s:Bs}(r:RepB l0 lo n l a s)(Q:∀v,v<n-> -1152921504606846976<=s.far v/\s.far v<=1152921504606846976){i:Nat}(hi:i<es.length):
  ∃l' ed',RepB l0 lo n l' ed' (brel (grOf es) s i)/\ ∃b:Bool,(b=true↔ ¬(s.far ((grOf es).F i)=bN\/s.far ((grOf es).T i)<=s.far ((grOf es).F i)+(grOf es).W i))/\
   Ev (λm=>F_db m (i:Int) (n:Int) es l (lo:Int) ((lo+n:Nat):Int) a) (l',ed',b):=by
 have p:=XK hi;generalize es[i]=x at p;obtain⟨V,Y,X,t1,w0,w1⟩:=h.ok x (VH p);obtain⟨gF,gT,O⟩:=QhG p;have N:x.From=((x.From.toNat:Nat):Int):=by omega
 have u:x.To=((x.To.toNat:Nat):Int):=by omega
 have B:x.From.toNat<n:=by omega
 have t:x.To.toNat<n:=by omega
 have M:=r.far _ B;have E:=r.far _ t;have y:=QeY M (m:=((lo+n:Nat):Int)) (by omega);have z:=QeY E (m:=((lo+n:Nat):Int)) (by omega);rw[<- N]at y;rw[<- u]at z;have bF:=Q _ B;have R:IntKind.i64.wrap (s.far x.From.toNat+x.W)=s.far x.From.toNat+x.W:=Qo (by omega) (by omega);unfold F_db;simp only[Ql p,XJ,y,z,R];unfold brel;rw[gF,gT,O];by_cases f:s.far x.From.toNat=bN
 .refine⟨l,a,by rw[Vt (.inl f)];exact r,false,by simp[f],?_⟩;rw[show(s.far x.From.toNat==1152921504606846976)=true by rw[f];rfl];exact Qa _
 .have d:(s.far x.From.toNat==1152921504606846976)=false:=by simpa[bN]using f
  by_cases k:s.far x.To.toNat<=s.far x.From.toNat+x.W
  .refine⟨l,a,by rw[Vt (.inr k)];exact r,false,by simp[k],?_⟩;rw[d,QO k];exact Qa _
  .have G:¬(s.far x.From.toNat=bN\/s.far x.To.toNat<=s.far x.From.toNat+x.W):=λq=>q.elim f k;have g:lo+x.To.toNat<l.length:=(XL.1 E).1;refine⟨l.set (lo+x.To.toNat) (s.far x.From.toNat+x.W),a.set x.To.toNat (i:Int),?_,true,by simp[G],?_⟩
   .rw[Vs G];refine⟨by rw[X4];exact r.len,λv w=>?_,λj P=>?_,by rw[X4];exact r.eln,λv w=>?_⟩
    .by_cases e:v=x.To.toNat
     .subst e;rw[Xa g];simp only[YD]
     .rw[XP (by omega)];simp only[QbM _ _ e];exact r.far v w
    .rw[XP (by omega)];exact r.out j P
    .by_cases e:v=x.To.toNat
     .subst e;rw[Xa (by rw[r.eln];exact t)];simp only[YD]
     .rw[XP (by omega)];simp only[QbM _ _ e];exact r.edge v w
   .rw[d,QG k];have L:QaX l ((lo:Int)+x.To) (s.far x.From.toNat+x.W)=some (l.set (lo+x.To.toNat) (s.far x.From.toNat+x.W)):=by
     rw[show(lo:Int)+x.To=((lo+x.To.toNat:Nat):Int)by omega];exact QaG l _ g
    have J:idx a x.To=some ((s.edge x.To.toNat:Nat):Int):=by rw[u];exact Ql (r.edge _ t)
    have H:QaX a x.To (i:Int)=some (a.set x.To.toNat (i:Int)):=by rw[u];exact QaG a _ (by rw[r.eln];exact t)
    simp only[Vq,L,J,H,XJ];exact Qa _
def Ini(s:Bs):Prop:=∀v,s.far v=bN\/s.far v=0
theorem Qgm{n:Nat}{es:List Edge}(h:SysOk n es){s:Bs}(b:Ini s){t:Nat}(a:t<=n*es.length)(v:Nat): -1152921504606846976<=(bst (grOf es) s t).far v/\(bst (grOf es) s t).far v<=1152921504606846976:=by
 have d:t<=16384:=XV a (XV (Nat.mul_le_mul h.n1 h.e1) (by decide));rcases QnP (M:=35184372088832) (gr_W h) b t v with q|q
 .rw[q];decide
 .omega
theorem Qdb{E k i:Nat}(hi:i<E):(k*E+i)%E=i:=by rw[Nat.add_comm,Nat.add_mul_mod_self_right,Nat.mod_eq_of_lt hi]
theorem Qme{n:Nat}{es:List Edge}(h:SysOk n es){l0:List Int}{lo:Nat}{s:Bs}(L:Ini s){k:Nat}(V:k<n):
  ∀(m i:Nat) (l f:List Int) (a:Int),i+m=es.length->RepB l0 lo n l f (bst (grOf es) s (k*es.length+i))->
  ((a= -1/\ ∀j v,j<i->¬bch (grOf es) s v (k*es.length+j))\/ ∃v τ,a=((v:Nat):Int)/\v<n/\k*es.length<=τ/\τ<k*es.length+i/\bch (grOf es) s v τ)->
  ∃l' ed' last',RepB l0 lo n l' ed' (bst (grOf es) s ((k+1)*es.length))/\EvI (λm=>F_fw m (n:Int) es (lo:Int) ((lo+n:Nat):Int)) (l,f,a,(i:Int)) (l',ed',last')/\
   ((last'= -1/\ ∀j v,j<es.length->¬bch (grOf es) s v (k*es.length+j))\/ ∃v τ,last'=((v:Nat):Int)/\v<n/\k*es.length<=τ/\τ<(k+1)*es.length/\bch (grOf es) s v τ):=by
 intro m;have e1:(k+1)*es.length=k*es.length+es.length:=by rw[XA,Nat.one_mul]
 induction m with
 |zero=>
  intro i l f a J r q;obtain rfl:i=es.length:=by omega
  rw[e1];refine⟨l,f,a,r,Ej ?_,q⟩;unfold F_fw;simp only[QG (show¬((es.length:Int)<(es.length:Int))by omega),Vq];exact Qa _
 |succ m ih=>
  intro i l f a J r q;have d:i<es.length:=by omega
  have hE:=h.e1;have M:k*es.length+i<=n*es.length:=XV (by rw[e1];omega:k*es.length+i<=(k+1)*es.length) (XC _ V);obtain⟨l',ed',r',b,W,R⟩:=Qmf h r (λv _=>Qgm h L M v) d;have Q:RepB l0 lo n l' ed' (bst (grOf es) s (k*es.length+(i+1))):=by
   rw[<- Nat.add_assoc,Ji,show(grOf es).E=es.length from rfl,Qdb d];exact r'
  have hT:=gr_T h i;have F:b=true↔bch (grOf es) s ((grOf es).T i) (k*es.length+i):=by
   rw[W];unfold bch;rw[Ji,show(grOf es).E=es.length from rfl,Qdb d];rcases YH (grOf es) (bst (grOf es) s (k*es.length+i)) i with⟨t,G⟩|⟨t,G,X⟩
   .rw[t];exact⟨λc=>absurd G c,λc=>absurd rfl c⟩
   .rw[X];simp only[YD];exact⟨λ_=>by omega,λ_ c=>c.elim t (by omega)⟩
  have H:b=false->∀v,¬bch (grOf es) s v (k*es.length+i):=λg v c=>by
   have:=(QaB c).1;rw[show(grOf es).E=es.length from rfl,Qdb d]at this;subst this;rw[F.2 c]at g;cases g
  have p:=XK d;generalize es[i]=x at p;obtain⟨_,gT,_⟩:=QhG p;obtain⟨f0,f1,t0,t1,_,_⟩:=h.ok x (VH p);have u:Ev (λm=>F_fw m (n:Int) es (lo:Int) ((lo+n:Nat):Int) (l,f,a,(i:Int))) (.cont (l',ed',(bif b then x.To else a),((i+1:Nat):Int))):=by
   unfold F_fw;simp only[QO (show(i:Int)<(es.length:Int)by omega),Vp,QC (show i<9223372036854775807 by omega)];refine Ea R ?_;refine Ea (v:=bif b then x.To else a) ?_ (Qa _);cases b
   .exact Qa _
   .simp only[Vp,Ql p,XJ];exact Qa _
  obtain⟨N,y,e,P,g2,O⟩:=ih (i+1) l' ed' (bif b then x.To else a) (by omega) Q (by
   cases b with
   |false=>
    simp only[Vq];rcases q with⟨B,w⟩|⟨v,τ,B,w,q3,q4,Y⟩
    .refine .inl ⟨B,λj v hj c=>?_⟩;rcases VC j i with z|z
     .exact w j v z c
     .obtain rfl:j=i:=by omega
      exact H rfl v c
    .exact .inr ⟨v,τ,B,w,q3,by omega,Y⟩
   |true=>
    simp only[Vp];refine .inr ⟨x.To.toNat,k*es.length+i,by omega,by omega,by omega,by omega,?_⟩;rw[<- gT];exact F.1 rfl)
  exact⟨N,y,e,P,Ew u g2,O⟩
def Hold(es:List Edge)(s:Bs):Prop:=∀i,i<es.length->s.far ((grOf es).F i)=bN\/s.far ((grOf es).T i)<=s.far ((grOf es).F i)+(grOf es).W i
theorem Qmd{n:Nat}{es:List Edge}(h:SysOk n es){l0 l a:List Int}{lo:Nat}{s:Bs}(M:Ini s)(r:RepB l0 lo n l a s):
  ∃l' ed' last T,RepB l0 lo n l' ed' (bst (grOf es) s T)/\T<=n*es.length/\Ev (λm=>F_aj m (n:Int) es l (lo:Int) ((lo+n:Nat):Int) a) (l',ed',last)/\
   ((last= -1/\Hold es (bst (grOf es) s T))\/ ∃v τ,last=((v:Nat):Int)/\v<n/\T=n*es.length/\(n-1)*es.length<=τ/\Lst (grOf es) s v T τ):=by
 have h1:=h.n0;have h2:=h.n1;have loop:∀(m k:Nat) (l a:List Int) (last:Int),k+m=n->RepB l0 lo n l a (bst (grOf es) s (k*es.length))->
   (0<k->∃v τ,last=((v:Nat):Int)/\v<n/\(k-1)*es.length<=τ/\τ<k*es.length/\bch (grOf es) s v τ)->
   ∃b:Ctl (List Int×List Int×Int) (List Int×List Int×Int),EvI (λm=>F_fq m (n:Int) es (lo:Int) ((lo+n:Nat):Int)) (l,a,last,(k:Int)) b/\
    ((∃l' ed' T,b=.done (l',ed',-1)/\RepB l0 lo n l' ed' (bst (grOf es) s T)/\T<=n*es.length/\Hold es (bst (grOf es) s T))\/
     ∃l' ed' v τ,b=.cont (l',ed',((v:Nat):Int))/\RepB l0 lo n l' ed' (bst (grOf es) s (n*es.length))/\v<n/\(n-1)*es.length<=τ/\τ<n*es.length/\bch (grOf es) s v τ):=by
  intro m
  induction m with
  |zero=>
   intro k l a last R r q;obtain rfl:k=n:=by omega
   obtain⟨v,τ,rfl,V,J,Q,X⟩:=q (by omega);refine⟨.cont (l,a,(v:Int)),Ej ?_,.inr ⟨l,a,v,τ,rfl,r,V,J,Q,X⟩⟩;unfold F_fq;simp only[QG (show¬((k:Int)<(k:Int))by omega),Vq];exact Qa _
  |succ m ih=>
   intro k l a last R r q;obtain⟨u,d,y,F,G,p⟩:=Qme h M (k:=k) (l0:=l0) (lo:=lo) (by omega) es.length 0 l a (-1) (by omega) r (.inl ⟨rfl,λj v e=>absurd e (Xm _)⟩);rcases p with⟨rfl,p⟩|⟨v,τ,rfl,w1,w2,w3,N⟩
   .refine⟨.done (u,d,-1),Ej ?_,.inl ⟨u,d,(k+1)*es.length,rfl,F,XC _ (by omega),λi Y=>?_⟩⟩
    .unfold F_fq;simp only[QO (show(k:Int)<(n:Int)by omega),Vp];refine Ea G.ev ?_;exact Qa _
    .have W:=QkJ (g:=grOf es) (s:=s) (t:=k*es.length) (λj v e=>p j v e) (by show(k*es.length)%es.length=0;exact Nat.mul_mod_left _ _) i Y;have E:=λv=>(Qbb (g:=grOf es) (s:=s) (v:=v) (t:=k*es.length) es.length λj e=>p j v e).1;rw[XA,Nat.one_mul,E,E];exact W
   .obtain⟨b,f,w⟩:=ih (k+1) u d (v:Int) (by omega) F (λ_=>⟨v,τ,rfl,w1,w2,w3,N⟩);refine⟨b,Ew ?_ f,w⟩;unfold F_fq;simp only[QO (show(k:Int)<(n:Int)by omega),Vp,QC (show k<9223372036854775807 by omega)];refine Ea G.ev ?_;simp only[QG (show¬((v:Int)<0)by omega),Vq];exact Qa _
 obtain⟨b,f,w⟩:=loop n 0 l a 0 (by omega) (by rw[Nat.zero_mul];exact r) (λh=>absurd h (Nat.lt_irrefl _));unfold F_aj;rcases w with⟨l',ed',T,rfl,x,B,z⟩|⟨l',ed',v,τ,rfl,x,B,z,P,L⟩
 .exact⟨l',ed',-1,T,x,B,Ea f.ev (Qa _),.inl ⟨rfl,z⟩⟩
 .obtain⟨τ',H,O⟩:=Qjg (t:=n*es.length) P L;exact⟨l',ed',(v:Int),n*es.length,x,XT _,Ea f.ev (Qa _),.inr ⟨v,τ',rfl,B,rfl,XV z H,O⟩⟩
set_option maxRecDepth 10000
def PotB(es:List Edge)(φ:Nat->Int):Prop:=∀i,i<es.length->φ ((grOf es).T i)<=φ ((grOf es).F i)+(grOf es).W i
def wSum(es:List Edge)(l:List Int):Int:=(l.map λc=>(grOf es).W c.toNat).sum
theorem Qlh{a b:List Int}(h:a.Perm b):a.sum=b.sum:=by
 induction h with
 |nil=>rfl
 |cons x _ ih=>simp[ih]
 |swap x y l=>simp only[List.sum_cons];omega
 |trans _ _ h1 h2=>exact h1.trans h2
theorem Qka(es:List Edge){a b:List Int}(h:a.Perm b):wSum es a=wSum es b:=Qlh (h.map _)
theorem Qle(es:List Edge)(a b:List Int):wSum es (a++b)=wSum es a+wSum es b:=by simp[wSum]
theorem QiZ(l0:List Int)(y:l0.length<=1048576):∃r:List Int,r.Perm l0/\Ev (λm=>F_bv m l0) r:=by
 have loop:∀(m i j:Nat) (l:List Int),l.length=l0.length->l.Perm l0->j<=l0.length->j-i<=m->∃r:List Int,r.Perm l0/\EvI (λm=>F_ey m) (l,(i:Int),(j:Int)-1) r:=by
  intro m
  induction m with
  |zero=>
   intro i j l g b t k;refine⟨l,b,Ej ?_⟩;unfold F_ey;simp only[QG (show¬((i:Int)<(j:Int)-1)by omega),Vq];exact Qa _
  |succ m x=>
   intro i j l g b t k;by_cases q:i+1<j
   .have f:i<l.length:=by omega
    have a:j-1<l.length:=by omega
    obtain⟨r,d,e⟩:=x (i+1) (j-1) ((l.set i l[j-1]).set (j-1) l[i]) (by simp[g]) ((List.set_set_perm f a).trans b) (by omega) (by omega);refine⟨r,d,Ew ?_ e⟩;unfold F_ey;have p:(j:Int)-1=((j-1:Nat):Int):=by omega
    have n:=Ql (XK f);have w:=Ql (XK a);have u:idx (l.set i l[j-1]) ((j-1:Nat):Int)=some l[j-1]:=by
     refine Ql ?_;rw[XP (by omega)];exact XK a
    have s:=QaG l l[j-1] f;have h:=QaG (l.set i l[j-1]) l[i] (i:=j-1) (by rw[X4];exact a);simp only[p,QO (show(i:Int)<((j-1:Nat):Int)by omega),Vp,n,w,s,u,h,XJ,QC (show i<9223372036854775807 by omega),Qo (show-9223372036854775808<=((j-1:Nat):Int)-1 by omega) (by omega)];exact Qa _
   .refine⟨l,b,Ej ?_⟩;unfold F_ey;simp only[QG (show¬((i:Int)<(j:Int)-1)by omega),Vq];exact Qa _
 obtain⟨r,d,e⟩:=loop l0.length 0 l0.length l0 rfl (List.Perm.refl _) (XT _) (by omega);refine⟨r,d,?_⟩;unfold F_bv;rw[Qo (by omega) (by omega)];exact Ea e.ev (Qa _)
theorem QlR{α:Type}(n:Nat)(z:α)(h:n<=4294967296):mk (n:Int) z=some (List.replicate n z):=by
 unfold mk;rw[QO (by omega),QO (by omega)];simp
theorem Qlb(n:Nat)(x:Int)(f:Nat->Int)(lo:Nat)(l:List Int)(hl:∀v,v<n->l[lo+v]?=some (f v)):RepB l lo n l (List.replicate n 0) ⟨f,λ_=>0⟩:=
 ⟨rfl,hl,λ_ _=>rfl,by simp,λv hv=>by simp[List.getElem?_replicate,hv]⟩
theorem Qdq{n:Nat}{es:List Edge}(h:SysOk n es):
  (∃φ,PotB es φ)/\Ev (λm=>F_ak m ⟨(n:Int),es⟩) []\/
  (¬ ∃φ,PotB es φ)/\ ∃cyc,cyc≠[]/\cyc.length<=n/\(∀c∈cyc,∃j,j<es.length/\c=((j:Nat):Int))/\wSum es cyc<0/\Ev (λm=>F_ak m ⟨(n:Int),es⟩) cyc:=by
 have h0:=h.n0;have h1:=h.n1;have hE:=h.e1;have hm:=QlR n (0:Int) (by omega)
 let s:Bs:=⟨λ_=>0,λ_=>0⟩
 have r0:RepB (List.replicate n 0) 0 n (List.replicate n 0) (List.replicate n 0) s:=Qlb n 0 _ 0 _ λv hv=>by simp[List.getElem?_replicate,hv]
 have aa:Ini s:=λv=>.inr rfl;obtain⟨l',N,ad,T,g1,g2,g3,g4⟩:=Qmd h aa r0;have hl:((List.replicate n (0:Int)).length:Int)=((0+n:Nat):Int):=by simp
 rcases g4 with⟨rfl,g4⟩|⟨v,τ,rfl,w1,rfl,w2,w3⟩
 .refine .inl ⟨⟨(bst (grOf es) s T).far,λi hi=>?_⟩,?_⟩
  .rcases g4 i hi with q|q
   .have:=Qfm (grOf es) s ((grOf es).F i) 0 T;rw[Xv,q]at this;exact absurd (show bN<=(0:Int)from this) (by decide)
   .exact q
  .unfold F_ak;simp only[hm,XJ,hl];refine Ea g3 ?_;exact Qa _
 .have L:0<es.length:=by
   rcases Nat.eq_zero_or_pos es.length with e|e
   .have:=w3.lt;rw[e,Xx]at this;omega
   .exact e
  have M:0<(grOf es).E:=L;generalize hS:bst (grOf es) s (n*es.length)=S at g1;obtain⟨k,k0,k1,Q,G⟩:=Qol (g:=grOf es) M (Ql0 h) w1 w3 w2;rw[hS]at Q G;have O:∀j,j<n->∃τ',Lst (grOf es) s (bpk (grOf es) S v j) (n*es.length) τ':=λj hj=>by
   have:j*es.length<=(n-1)*es.length:=XC _ (by omega);obtain⟨τ',_,q⟩:=w3.back M j (XV this w2);rw[hS]at q;exact⟨τ',q⟩
  have d:∀u τ',Lst (grOf es) s u (n*es.length) τ'->S.edge u<es.length:=λu τ' q=>by
   have:=q.edge;rw[hS]at this;rw[this];exact Nat.mod_lt _ L
  have r:∀u,u<n->∀j,bpk (grOf es) S u j<n:=λu P j=>by
   cases j with
   |zero=>exact P
   |succ j=>exact Ql0 h _
  have l:∀u,S.edge u<es.length->∃x:Edge,es[S.edge u]?=some x/\x.From=((bp (grOf es) S u:Nat):Int):=λu P=>by
   refine⟨es[S.edge u],XK P,?_⟩;obtain⟨q,_,_⟩:=QhG (XK P);have:=h.ok _ (Vd P);unfold bp;rw[q];have:=this.f0;omega
  have w:∀(m i:Nat),i+m=n->EvI (λq=>F_gz q ⟨(n:Int),es⟩ (l',N,(v:Int))) (((bpk (grOf es) S v i:Nat):Int),(i:Int)) ((bpk (grOf es) S v n:Nat):Int):=by
   intro m
   induction m with
   |zero=>
    intro i hi;obtain rfl:i=n:=by omega
    refine Ej ?_;unfold F_gz;simp only[QG (show¬((i:Int)<(i:Int))by omega),Vq];exact Qa _
   |succ m H=>
    intro i hi;refine Ew ?_ (H (i+1) (by omega));obtain⟨τ',q⟩:=O i (by omega);have e1:=Ql (g1.edge _ (r v w1 i));obtain⟨x,X,R⟩:=l _ (d _ _ q);unfold F_gz;simp only[QO (show(i:Int)<(n:Int)by omega),Vp,e1,XJ,Ql X,R,QC (show i<9223372036854775807 by omega)];exact Qa _
  generalize hp:bpk (grOf es) S v n=p at w Q G;have Y:p<n:=by rw[<- hp];exact r v w1 n
  let cl:Nat->List Int:=λj=>(List.range j).map λi=>((S.edge (bpk (grOf es) S p i):Nat):Int)
  have f:∀j,cl (j+1)=cl j++[((S.edge (bpk (grOf es) S p j):Nat):Int)]:=λj=>by simp[cl,Xu]
  have B:∀(m j:Nat),j+m=k->j<k->(∀i,0<i->i<=j->bpk (grOf es) S p i≠p)->∃t,0<t/\t<=n/\bpk (grOf es) S p t=p/\EvI (λq=>F_hg q ⟨(n:Int),es⟩ (l',N,(v:Int)) ((p:Nat):Int)) (cl j,((bpk (grOf es) S p j:Nat):Int)) (cl t):=by
   intro m
   induction m with
   |zero=>intro j a b;omega
   |succ m H=>
    intro j a b c;obtain⟨τ',q⟩:=G j;have e1:=Ql (g1.edge _ (r p Y j));obtain⟨x,X,R⟩:=l _ (d _ _ q);have ea:app (cl j) [((S.edge (bpk (grOf es) S p j):Nat):Int)]=some (cl (j+1)):=by
     rw[f];exact QcP _ _ (by simp[cl];omega)
    have e2:((bp (grOf es) S (bpk (grOf es) S p j):Nat):Int)=((bpk (grOf es) S p (j+1):Nat):Int):=rfl;by_cases z:bpk (grOf es) S p (j+1)=p
    .refine⟨j+1,by omega,by omega,z,Ej ?_⟩;unfold F_hg;simp only[e1,XJ,ea,Ql X,R,e2,z,BEq.rfl,Vp];exact Qa _
    .have ac:j+1<k:=by
      rcases VC (j+1) k with y|y
      .exact y
      .rw[show k=j+1 by omega]at Q;exact absurd Q z
     obtain⟨t,y1,y2,V,y4⟩:=H (j+1) (by omega) ac (λi i1 i2=>by
      rcases VC i (j+1)with y|y
      .exact c i i1 (by omega)
      .rwa [show i=j+1 by omega])
     refine⟨t,y1,y2,V,Ew ?_ y4⟩;unfold F_hg;have zb:(((bpk (grOf es) S p (j+1):Nat):Int)==(p:Int))=false:=Vz.2 λe=>z (by omega);simp only[e1,XJ,ea,Ql X,R,e2,zb,Vq];exact Qa _
  obtain⟨t,y1,y2,V,y4⟩:=B k 0 (by omega) k0 (λi a b=>by omega);have neg:bsum (grOf es) S p t<0:=by
   have:=Qi6 (g:=grOf es) (s:=s) (n*es.length) (v:=p) (k:=t) y1 (by rw[hS];exact V) (λj _=>by rw[hS];exact G j)
   rwa [hS]at this
  have J:∀j,wSum es (cl j)=bsum (grOf es) S p j:=by
   intro j
   induction j with
   |zero=>rfl
   |succ j H=>rw[f,Qle,H];simp[wSum,bsum]
  obtain⟨W,rp,re⟩:=QiZ (cl t) (by simp[cl];omega);have rl:W.length=t:=by rw[rp.length_eq];simp[cl]
  refine .inr ⟨?_,W,?_,by omega,λc hc=>?_,by rw[Qka es rp,J];exact neg,?_⟩
  .rintro⟨φ,hφ⟩;have low:∀j,φ p-φ (bpk (grOf es) S p j)<=bsum (grOf es) S p j:=by
    intro j
    induction j with
    |zero=>simp[bsum,bpk]
    |succ j H=>
     obtain⟨τ',q⟩:=G j;have ab:=d _ _ q;have a:=hφ _ ab;have hT:=(QaB q.ch).1;have he:=q.edge;rw[hS]at he;rw[<- he]at hT;rw[<- hT]at a;have e3:bpk (grOf es) S p (j+1)=(grOf es).F (S.edge (bpk (grOf es) S p j)):=rfl;unfold bsum;rw[e3];omega
   have:=low t;rw[V]at this;omega
  .intro e;rw[e]at rl;simp at rl;omega
  .have:=rp.mem_iff.1 hc;obtain⟨i,_,rfl⟩:=Xe.1 this;obtain⟨τ',q⟩:=G i;exact⟨_,d _ _ q,rfl⟩
  .unfold F_ak;simp only[hm,XJ,hl];refine Ea g3 ?_;simp only[QG (show¬((v:Int)<0)by omega),Vq];refine Ea (w n 0 (by omega)).ev ?_;refine Ea y4.ev ?_;refine Ea (v:=W) ?_ (Qa _);unfold QhE;refine Ea re ?_;rw[show Nat.beq (cl t).length W.length=true by rw[rp.length_eq];exact VF _];exact Qa _
set_option maxRecDepth 10000
theorem Qnn:∀k:Fin 65,(decide (0<(IntKind.u64.wrap ((IntKind.u64.wrap ((IntKind.u64.wrap ((QX .u64 (IntKind.u64.wrap ([(0:Int)].length:Int)) 32)*(QX .u64 (IntKind.u64.wrap (((k:Nat)*(k:Nat):Nat):Int)) 32)))+(QX .u64 (IntKind.u64.wrap ((IntKind.u64.wrap ((QX .u64 (IntKind.u64.wrap ([(0:Int)].length:Int)) 32)*(Yi .u64 (IntKind.u64.wrap (((k:Nat)*(k:Nat):Nat):Int)) 4294967295)))+(QX .u64 (IntKind.u64.wrap ((Yi .u64 (IntKind.u64.wrap ([(0:Int)].length:Int)) 4294967295)*(Yi .u64 (IntKind.u64.wrap (((k:Nat)*(k:Nat):Nat):Int)) 4294967295))) 32))) 32)))+(QX .u64 (IntKind.u64.wrap ((Yi .u64 (IntKind.u64.wrap ((IntKind.u64.wrap ((QX .u64 (IntKind.u64.wrap ([(0:Int)].length:Int)) 32)*(Yi .u64 (IntKind.u64.wrap (((k:Nat)*(k:Nat):Nat):Int)) 4294967295)))+(QX .u64 (IntKind.u64.wrap ((Yi .u64 (IntKind.u64.wrap ([(0:Int)].length:Int)) 4294967295)*(Yi .u64 (IntKind.u64.wrap (((k:Nat)*(k:Nat):Nat):Int)) 4294967295))) 32))) 4294967295)+(IntKind.u64.wrap ((Yi .u64 (IntKind.u64.wrap ([(0:Int)].length:Int)) 4294967295)*(QX .u64 (IntKind.u64.wrap (((k:Nat)*(k:Nat):Nat):Int)) 32))))) 32)))))=false:=by decide+kernel
theorem Qlv:∀k:Fin 65,(decide (9223372036854775807<(IntKind.u64.wrap ((IntKind.u64.wrap ([(0:Int)].length:Int))*(IntKind.u64.wrap (((k:Nat)*(k:Nat):Nat):Int))))))=false:=by decide+kernel
theorem Qno:∀k:Fin 65,(IntKind.i64.wrap (IntKind.u64.wrap ((IntKind.u64.wrap ([(0:Int)].length:Int))*(IntKind.u64.wrap (((k:Nat)*(k:Nat):Nat):Int)))))=(((k:Nat)*(k:Nat):Nat):Int):=by decide+kernel
theorem Qlw(x:Int)(K:Nat)(l:K<=4096):∀(m j:Nat),1<=j->j<=K->K-j<=m->EvI (λn=>F_ei n) (List.replicate j x++List.replicate (K-j) 0,(j:Int)) (List.replicate K x):=by
 intro m
 induction m with
 |zero=>
  intro j f k g;obtain rfl:j=K:=by omega
  refine Ej ?_;unfold F_ei;rw[Nat.sub_self,List.replicate_zero,Vg];simp only[List.length_replicate,QG (show¬((j:Int)<(j:Int))by omega),Vq];exact Qa _
 |succ m i=>
  intro j f k g;by_cases h:j=K
  .subst h;refine Ej ?_;unfold F_ei;rw[Nat.sub_self,List.replicate_zero,Vg];simp only[List.length_replicate,QG (show¬((j:Int)<(j:Int))by omega),Vq];exact Qa _
  .have d:(List.replicate j x++List.replicate (K-j) (0:Int)).length=K:=by simp;omega
   refine Ew ?_ (i (j+min j (K-j)) (by omega) (by omega) (by omega));unfold F_ei;simp only;generalize hL:List.replicate j x++List.replicate (K-j) (0:Int)=L at d;have a:L.take j=List.replicate j x:=by rw[<- hL,List.take_left' (by simp)]
   have e:L.drop j=List.replicate (K-j) 0:=by rw[<- hL,List.drop_left' (by simp)]
   rw[QO (by omega),Vp,Qhr L (by omega),XJ,Qiy L (by omega),XJ];unfold cpy;simp only[XJ,Int.toNat_natCast,d,a];have b:L.take j++(List.replicate j x).take (K-j)++L.drop (j+min (List.replicate j x).length (K-j))=List.replicate (j+min j (K-j)) x++List.replicate (K-(j+min j (K-j))) 0:=by
    rw[<- List.drop_drop,a,e,List.length_replicate,List.take_replicate,List.drop_replicate,List.replicate_append_replicate];rw[Nat.min_comm (K-j) j,Nat.sub_sub]
   rw[a]at b;rw[b];have w:IntKind.i64.wrap ((j:Int)+((min (List.replicate j x).length (K-j):Nat):Int))=((j+min j (K-j):Nat):Int):=by
    rw[List.length_replicate,Qo (by omega) (by omega)];omega
   rw[w];exact Qa _
theorem Ev.bf{α:Type}{c:Bool}{f g:Nat->Option α}{v:α}(h:c=false)(q:Ev g v):Ev (λn=>bif c then f n else g n) v:=by subst h;exact q
theorem Qky(x:Int)(k:Nat)(i:1<=k)(m:Nat)(g:m<=64)(f:k=m*m):Ev (λn=>F_cn n [x] (k:Int)) (List.replicate k x):=by
 have a:=Qnn ⟨m,by omega⟩;have d:=Qlv ⟨m,by omega⟩;have b:=Qno ⟨m,by omega⟩;have h:k<=4096:=by rw[f];exact Nat.mul_le_mul g g
 simp only[<- f]at a d b;unfold F_cn;refine Ea (v:=()) (by rw[QG (show¬((k:Int)<0)by omega)];exact Qa _) (Ea (v:=()) (Qa _) (Ea (v:=false) ?_ (Ea (v:=()) (Qa _) ?_)))
 .exact Ev.bf a (Ez (congrArg some d))
 .refine Ea (v:=List.replicate k 0) (Ez ((congrArg (λz=>mk z (0:Int)) b).trans ?_)) ?_
  .show mk (k:Int) 0=_;unfold mk;rw[QO (by omega),QO (by omega)];rfl
  .refine Ea (v:=List.replicate 1 x++List.replicate (k-1) 0) (Ez ?_) ?_
   .unfold cpy;simp only[List.length_replicate,Int.toNat_natCast,List.length_singleton];obtain⟨u,rfl⟩:∃u,k=u+1:=⟨k-1,by omega⟩;simp
   .have e:((min [x].length (List.replicate k (0:Int)).length:Nat):Int)=((1:Nat):Int):=by simp;omega
    rw[e];exact Ea ((Qlw x k h k 1 (XT _) i (by omega)).ev) (Qa _)
structure DRow (es:List Edge) (n j:Nat) (d:Nat->Int):Prop where
 zero:d j=0
 wk:∀v,d v=bN\/Wk (grOf es) j v (d v)
 hold:∀i,i<es.length->d ((grOf es).F i)=bN\/d ((grOf es).T i)<=d ((grOf es).F i)+(grOf es).W i
 low:∀v,v<n-> -1152921504606846976<=d v/\d v<=1152921504606846976
theorem row_d{n:Nat}{es:List Edge}(h:SysOk n es){φ:Nat->Int}(hφ:PotB es φ){l0 l M:List Int}{lo j:Nat}(X:j<n)(r:RepB l0 lo n l M ⟨λv=>if v=j then 0 else bN,λ_=>0⟩):
  ∃l' ed' last d,l'.length=l0.length/\(∀v,v<n->l'[lo+v]?=some (d v))/\(∀i,i<lo\/lo+n<=i->l'[i]?=l0[i]?)/\DRow es n j d/\Ev (λm=>F_aj m (n:Int) es l (lo:Int) ((lo+n:Nat):Int) M) (l',ed',last):=by
 have V:=h.n0;have W:=h.n1;generalize hs:(⟨λv=>if v=j then 0 else bN,λ_=>0⟩:Bs)=s at r;have b:s.far j=0:=by rw[<- hs];exact Vt rfl
 have f:∀v,v≠j->s.far v=bN:=λv Q=>by rw[<- hs];exact Vs Q
 have t:Ini s:=λv=>by
  by_cases e:v=j
  .subst e;exact .inr b
  .exact .inl (f v e)
 obtain⟨l',ed',last,T,y,H,P,B⟩:=Qmd h t r;rcases B with⟨rfl,B⟩|⟨v,τ,rfl,w1,rfl,w2,w3⟩
 .refine⟨l',ed',-1,(bst (grOf es) s T).far,y.len,y.far,y.out,⟨?_,λv=>?_,B,λv _=>Qgm h t H v⟩,P⟩
  .have a:=Qfm (grOf es) s j 0 T;rw[Xv]at a;have J:(bst (grOf es) s T).far j<=0:=by rw[<- b];exact a
   rcases Nat.eq_zero_or_pos es.length with e|e
   .have:T=0:=by rw[e,Xx]at H;omega
    subst this;exact b
   .rcases QnO (g:=grOf es) (s:=s) (φ:=φ) e (c:=φ j) hφ (λv=>by
     by_cases z:v=j
     .subst z;exact .inr (by rw[b];omega)
     .exact .inl (f v z)) T j with q|q
    .rw[q]at J;exact absurd J (by decide)
    .omega
  .rcases Nat.eq_zero_or_pos es.length with e|e
   .have:T=0:=by rw[e,Xx]at H;omega
    subst this;by_cases z:v=j
    .subst z;exact .inr (by show Wk _ _ _ (s.far v);rw[b];exact .nil)
    .exact .inl (f v z)
   .exact Qpk e (λv=>by
     by_cases z:v=j
     .subst z;exact .inr (by rw[b];exact .nil)
     .exact .inl (f v z)) T v
 .exfalso;have u:0<es.length:=by
   rcases Nat.eq_zero_or_pos es.length with e|e
   .have:=w3.lt;rw[e,Xx]at this;omega
   .exact e
  obtain⟨k,O,R,w,x⟩:=Qol (g:=grOf es) u (Ql0 h) w1 w3 w2;generalize hS:bst (grOf es) s (n*es.length)=S at w x;generalize bpk (grOf es) S v n=p at w x;have neg:=Qi6 (g:=grOf es) (s:=s) (n*es.length) (v:=p) (k:=k) O (by rw[hS];exact w) (λj _=>by rw[hS];exact x j);rw[hS]at neg;have low:∀j,φ p-φ (bpk (grOf es) S p j)<=bsum (grOf es) S p j:=by
   intro j
   induction j with
   |zero=>simp[bsum,bpk]
   |succ j Y=>
    obtain⟨τ',q⟩:=x j;have G:=q.edge;rw[hS]at G;have E:S.edge (bpk (grOf es) S p j)<es.length:=by rw[G];exact Nat.mod_lt _ u
    have a:=hφ _ E;have L:=(QaB q.ch).1;rw[<- G]at L;rw[<- L]at a;have N:bpk (grOf es) S p (j+1)=(grOf es).F (S.edge (bpk (grOf es) S p j)):=rfl;unfold bsum;rw[N];omega
  have:=low k;rw[w]at this;omega
structure FarOk (es:List Edge) (n:Nat) (far:List (List Int)) (D:Nat->Nat->Int):Prop where
 len:far.length=n
 row:∀j,j<n->∃r,far[j]?=some r/\r.length=n/\ ∀v,v<n->r[v]?=some (D j v)
 d:∀j,j<n->DRow es n j (D j)
theorem QgX{n:Nat}{es:List Edge}(h:SysOk n es){φ:Nat->Int}(hφ:PotB es φ):∃far D,FarOk es n far D/\Ev (λm=>F_cx m ⟨(n:Int),es⟩) far:=by
 have z:=h.n0;have t:=h.n1;have X:n*n<=4096:=Nat.mul_le_mul t t;have loop:∀(m i:Nat) (l:List Int) (D:Nat->Nat->Int),i+m=n->l.length=n*n->(∀j,j<i->(∀v,v<n->l[j*n+v]?=some (D j v))/\DRow es n j (D j))->(∀x,i*n<=x->x<n*n->l[x]?=some bN)->
   ∃(f:List Int) (D':Nat->Nat->Int),EvI (λm=>F_hj m ⟨(n:Int),es⟩) (l,(i:Int),i) (f,n)/\f.length=n*n/\ ∀j,j<n->(∀v,v<n->f[j*n+v]?=some (D' j v))/\DRow es n j (D' j):=by
  intro m
  induction m with
  |zero=>
   intro i l D hi hl hd _;obtain rfl:i=n:=by omega
   refine⟨l,D,Ej ?_,hl,hd⟩;unfold F_hj;simp only[QG (show¬((i:Int)<(i:Int))by omega),Vq];exact Qa _
  |succ m ih=>
   intro i l D hi hl hd hN;have p:i<n:=by omega
   have T:i*n+n<=n*n:=by
    have:=XC n (show i+1<=n from p)
    rwa [XA,Nat.one_mul]at this
   have q:i*n+i<n*n:=by omega
   let s:Bs:=⟨λv=>if v=i then 0 else bN,λ_=>0⟩
   have r:RepB l (i*n) n (l.set (i*n+i) 0) (List.replicate n 0) s:=by
    refine⟨by simp,λv k=>?_,λj g=>?_,by simp,λv k=>by simp[List.getElem?_replicate,k,s]⟩
    .by_cases e:v=i
     .subst e;rw[Xa (by omega)];simp[s]
     .rw[XP (by omega),hN _ (by omega) (by omega)];simp[s,e]
    .rw[XP (by omega)]
   obtain⟨f,L,y,d,E,q2,F,V,q5⟩:=row_d h hφ p r;obtain⟨M,D2,H,O,z3⟩:=ih (i+1) f (λj=>if j=i then d else D j) (by omega) (by rw[E,hl]) (λj g=>by
    by_cases e:j=i
    .subst e;simp only[Vt];exact⟨q2,V⟩
    .simp only[Vs e];obtain⟨a,b⟩:=hd j (by omega);refine⟨λv k=>?_,b⟩;have:j*n+n<=i*n:=by
      have:=XC n (show j+1<=i by omega)
      rwa [XA,Nat.one_mul]at this
     rw[F _ (.inl (by omega))];exact a v k) (λx w u=>by
    rw[XA,Nat.one_mul]at w;rw[F _ (.inr (by omega))];exact hN x (by omega) u)
   refine⟨M,D2,Ew ?_ H,O,z3⟩;have w1:IntKind.i64.wrap ((i:Int)*(n:Int))=((i*n:Nat):Int):=by
    rw[show(i:Int)*(n:Int)=((i*n:Nat):Int)by push_cast;rfl];exact Qo (by omega) (by omega)
   have w2:IntKind.i64.wrap (((i+1:Nat):Int)*(n:Int))=((i*n+n:Nat):Int):=by
    rw[show((i+1:Nat):Int)*(n:Int)=((i*n+n:Nat):Int)by push_cast;rw[Int.add_mul,Int.one_mul]];exact Qo (by omega) (by omega)
   have w3:=QC (show i<9223372036854775807 by omega);have Q:slc l ((i*n:Nat):Int) ((i*n+n:Nat):Int)=some ((l.take (i*n+n)).drop (i*n)):=by
    unfold slc;simp only[QO (show(0:Int)<=((i*n:Nat):Int)by omega),QO (show((i*n:Nat):Int)<=((i*n+n:Nat):Int)by omega),QO (show((i*n+n:Nat):Int)<=(l.length:Int)by omega)];rfl
   have N:Qby l ((i*n:Nat):Int) ((i*n+n:Nat):Int) (i:Int)=some bN:=QeY (hN _ (by omega) q) (by omega);have c3:QaX l (((i*n:Nat):Int)+(i:Int)) 0=some (l.set (i*n+i) 0):=by
    rw[show((i*n:Nat):Int)+(i:Int)=((i*n+i:Nat):Int)by omega];exact QaG l 0 (by omega)
   have P:winC ((i*n:Nat):Int) ((i*n+n:Nat):Int) (n:Int) i f (l.set (i*n+i) 0)=some ():=by
    unfold winC;have J:((0+((i*n:Nat):Int).toNat)==i*((n:Int)).toNat)=true:=Vy.2 (by rw[Int.toNat_natCast,Int.toNat_natCast,Xv]);have G:((((i*n+n:Nat):Int).toNat-((i*n:Nat):Int).toNat)==((n:Int)).toNat)=true:=Vy.2 (by rw[Int.toNat_natCast,Int.toNat_natCast,Int.toNat_natCast];omega);have a3:decide (i+1<=Q9)=true:=Vu (XV (by omega:i+1<=1048576) (by decide));have Y:(f.length==(l.set (i*n+i) 0).length)=true:=by simp[E]
    rw[J,G,a3,Y];rfl
   unfold F_hj;simp only[QO (show(i:Int)<(n:Int)by omega),Vp,w3,w1,w2,Q,N,c3,QlR n (0:Int) (by omega),XJ];refine Ea q5 ?_;simp only[P,XJ];exact Qa _
 obtain⟨f,D,R,g2,B⟩:=loop n 0 (List.replicate (n*n) bN) (λ_ _=>0) (by omega) (by simp) (λj g=>absurd g (Xm _)) (λx _ w=>by simp[List.getElem?_replicate,w]);refine⟨Qho f n n,D,⟨by simp[Qho],λj g=>?_,λj g=>(B j g).2⟩,?_⟩
 .have T:j*n+n<=n*n:=by
   have:=XC n (show j+1<=n from g)
   rwa [XA,Nat.one_mul]at this
  refine⟨(f.drop (j*n)).take n,by simp[Qho,Xo,List.getElem?_range,g],by simp;omega,λv k=>?_⟩;rw[List.getElem?_take_of_lt k,List.getElem?_drop];exact(B j g).1 v k
 .unfold F_cx;have W:IntKind.i64.wrap ((n:Int)*(n:Int))=((n*n:Nat):Int):=by
   rw[show(n:Int)*(n:Int)=((n*n:Nat):Int)by push_cast;rfl];exact Qo (by omega) (by omega)
  simp only[W];refine Ea (Qky bN (n*n) (Nat.mul_pos z z) n t rfl) ?_;refine Ea R.ev ?_;unfold winE;rw[Int.toNat_natCast,QO (by rw[g2];exact XT _)];exact Qa _
theorem Qpf{n:Nat}{es:List Edge}(h:SysOk n es):
  (∃φ far D,PotB es φ/\FarOk es n far D/\Ev (λm=>F_ad m ⟨(n:Int),es⟩) (far,[],0))\/
  ((¬ ∃φ,PotB es φ)/\ ∃cyc,cyc≠[]/\cyc.length<=n/\(∀c∈cyc,∃j,j<es.length/\c=((j:Nat):Int))/\wSum es cyc<0/\Ev (λm=>F_ad m ⟨(n:Int),es⟩) ([],cyc,151)):=by
 unfold F_ad;rcases Qdq h with⟨⟨φ,hφ⟩,e⟩|⟨f,cyc,a,k,i,d,e⟩
 .obtain⟨far,D,g,b⟩:=QgX h hφ;refine .inl ⟨φ,far,D,hφ,g,Ea (Qdr h) ?_⟩;refine Q7 (Ea e ?_);exact Ea b (Qa _)
 .refine .inr ⟨f,cyc,a,k,i,d,Ea (Qdr h) ?_⟩;refine Q7 (Ea e ?_);have:0<cyc.length:=List.length_pos_iff.2 a;rw[QO (show(0:Int)<(cyc.length:Int)by omega)];exact Qa _
set_option maxRecDepth 10000
theorem Qbz{f:Fact}(h:validS f=true):headS f=true/\contR f=true/\onlyS f=f:=by
 rw[Qc6,XW,XW,Qmz,Vy]at h;exact⟨h.1.1,h.1.2,h.2⟩
theorem Qis{f:Fact}(h:validS f=true)(k:f.Kind=2):0<=f.Read.Epoch/\f.Read.Epoch<=255:=by
 obtain⟨_,a,_⟩:=Qbz h;unfold contR at a;rw[k]at a;have b:(true&&(nb f.Read.Mat 0 39&&(nb f.Read.Epoch 0 255&&(nb f.Read.Chip 0 1048576&&(nb f.Read.Local (-1099511627776) 1099511627776&&true)))))=true:=a;simp only[XW,QiK]at b;exact b.2.2.1
structure BeaOk (b:Beacon):Prop where
 ep:0<=b.Epoch/\b.Epoch<=255
 lo: -1099511627776<=b.Local/\b.Local<=1099511627776
 tr: -1099511627776<=b.True/\b.True<=1099511627776
 er:0<=b.Err/\b.Err<=1099511627776
theorem Qas{f:Fact}(h:validS f=true)(k:f.Kind=3):BeaOk f.Beacon:=by
 obtain⟨_,b,_⟩:=Qbz h;unfold contR at b;rw[k]at b;have a:(true&&(nb f.Beacon.Mat 0 39&&(nb f.Beacon.Epoch 0 255&&(nb f.Beacon.Local (-1099511627776) 1099511627776&&(nb f.Beacon.True (-1099511627776) 1099511627776&&(nb f.Beacon.Err 0 1099511627776&&true))))))=true:=b;simp only[XW,QiK]at a;exact⟨a.2.2.1,a.2.2.2.1,a.2.2.2.2.1,a.2.2.2.2.2.1⟩
structure SynOk (b:Sync):Prop where
 ea:0<=b.EpochA/\b.EpochA<=255
 la: -1099511627776<=b.LocalA/\b.LocalA<=1099511627776
 eb:0<=b.EpochB/\b.EpochB<=255
 lb: -1099511627776<=b.LocalB/\b.LocalB<=1099511627776
 mi: -1099511627776<=b.Min/\b.Min<=1099511627776
 ma: -1099511627776<=b.Max/\b.Max<=1099511627776
theorem Qcg{f:Fact}(h:validS f=true)(k:f.Kind=4):SynOk f.Sync:=by
 obtain⟨_,b,_⟩:=Qbz h;unfold contR at b;rw[k]at b;have a:(decide (f.Sync.Min<=f.Sync.Max)&&(nb f.Sync.MatA 0 39&&(nb f.Sync.EpochA 0 255&&(nb f.Sync.LocalA (-1099511627776) 1099511627776&&(nb f.Sync.MatB 0 39&&(nb f.Sync.EpochB 0 255&&(nb f.Sync.LocalB (-1099511627776) 1099511627776&&(nb f.Sync.Min (-1099511627776) 1099511627776&&(nb f.Sync.Max (-1099511627776) 1099511627776&&true)))))))))=true:=b;simp only[XW,QiK]at a;exact⟨a.2.2.1,a.2.2.2.1,a.2.2.2.2.2.1,a.2.2.2.2.2.2.1,a.2.2.2.2.2.2.2.1,a.2.2.2.2.2.2.2.2.1⟩
theorem QaV{l:List Fact}{k:Int}{f:Fact}(h:f∈cntS l k):f∈l/\validS f=true/\f.Kind=k:=by
 unfold cntS at h;rw[Xd,(Qgk l).2]at h;exact⟨h.1.1,h.1.2,by simpa using h.2⟩
structure CrsOk (c:Course):Prop where
 mats:c.Mats.length<=40
 res:0<=c.Faults.Residual/\c.Faults.Residual<=4294967296
 drift:0<=c.Faults.Drift/\c.Faults.Drift<=100000
def driftV(x k:Int):Int:=Int.tdiv ((if x<0-x then 0-x else x)*k+1000000-1) 1000000
theorem Qfi{x k:Int}(h: -2199023255552<=x/\x<=2199023255552)(b:0<=k/\k<=100000):0<=driftV x k/\driftV x k<=274877906944/\0<=(if x<0-x then 0-x else x)*k/\(if x<0-x then 0-x else x)*k<=219902325555200000:=by
 generalize ha:(if x<0-x then 0-x else x)=a;have f:0<=a:=by rw[<- ha];split<;>omega
 have d:a<=2199023255552:=by rw[<- ha];split<;>omega
 have i:0<=a*k:=Int.mul_nonneg f b.1;have g:a*k<=2199023255552*100000:=Int.le_trans (Int.mul_le_mul_of_nonneg_right d b.1) (Int.mul_le_mul_of_nonneg_left b.2 (by decide));have e:(2199023255552:Int)*100000=219902325555200000:=by decide
 rw[e]at g;unfold driftV;rw[ha,Int.tdiv_eq_ediv_of_nonneg (by omega)];omega
theorem Qmi{x k:Int}(e: -2199023255552<=x/\x<=2199023255552)(d:0<=k/\k<=100000):Ev (λn=>F_bs n x k) (driftV x k,0):=by
 obtain⟨h,f,i,g⟩:=Qfi e d;unfold F_bs;refine Ea (v:=false) ?_ ?_
 .rw[QG (show¬(x< -2199023255552)by omega),QG (show¬(2199023255552<x)by omega),QG (show¬(k<0)by omega),QG (show¬(100000<k)by omega)];exact Qa _
 .have b:IntKind.i64.wrap (0-x)=0-x:=Qo (by omega) (by omega);have w1:=Qo (n:=(if x<0-x then 0-x else x)*k) (by omega) (by omega);have w2:=Qo (n:=(if x<0-x then 0-x else x)*k+1000000) (by omega) (by omega);have w3:=Qo (n:=(if x<0-x then 0-x else x)*k+1000000-1) (by omega) (by omega);have a:=Qo (n:=driftV x k) (by omega) (by omega);refine Q7 ?_;rw[b,w1,w2,w3];unfold driftV at a⊢;rw[a];exact Qa _
def devV(c:Course)(k:Int)(s:Segment)(loc:Int):Span:=
 bif k != 1 then⟨0-driftV (loc-s.Anchor) c.Faults.Drift,c.Faults.Residual+driftV (loc-s.Anchor) c.Faults.Drift⟩else⟨0,c.Faults.Residual⟩
def isT(x:Int):Prop:= -1099511627776<=x/\x<=1099511627776
theorem Qpg{c:Course}(b:CrsOk c)(k:Int){s:Segment}{a:Int}(d:isT s.Anchor)(e:isT a): -274877906944<=(devV c k s a).Lo/\(devV c k s a).Lo<=0/\0<=(devV c k s a).Hi/\(devV c k s a).Hi<=279172874240:=by
 obtain⟨h,i⟩:=b.res;obtain⟨g,f,_,_⟩:=Qfi (x:=a-s.Anchor) (by unfold isT at d e;omega) b.drift;unfold devV;cases k != 1 with
 |true=>simp only[Vp];omega
 |false=>simp only[Vq];omega
theorem Qpd{c:Course}(b:CrsOk c){i:Nat}{m:Mat}(h:c.Mats[i]?=some m){s:Segment}(e:s.Mat=(i:Int)){a:Int}(f:isT s.Anchor)(g:isT a):Ev (λn=>F_aa n c s a) (devV c m.Kind s a):=by
 obtain⟨l,p⟩:=b.res;have d: -2199023255552<=a-s.Anchor/\a-s.Anchor<=2199023255552:=by unfold isT at f g;omega
 obtain⟨k,j,_,_⟩:=Qfi d b.drift;unfold F_aa devV;simp only[e,Ql h,XJ];cases m.Kind != 1 with
 |false=>exact Qa _
 |true=>
  simp only[Vp];refine Ea (v:=⟨0-driftV (a-s.Anchor) c.Faults.Drift,c.Faults.Residual+driftV (a-s.Anchor) c.Faults.Drift⟩) ?_ (Qa _);rw[Qo (n:=a-s.Anchor) (by omega) (by omega)];refine Ea (Qmi d b.drift) ?_;rw[Qo (n:=0-driftV (a-s.Anchor) c.Faults.Drift) (by omega) (by omega),Qo (n:=c.Faults.Residual+driftV (a-s.Anchor) c.Faults.Drift) (by omega) (by omega)];exact Qa _
def matB(c:Course)(x:Int):Bool:=decide (0<=x)&&decide (x<(c.Mats.length:Int))
theorem QcI(c:Course)(x:Int):Ev (λn=>F_i n c x) (matB c x):=by
 unfold F_i matB;exact Ea (Ei λ_=>Qa _) (Qa _)
theorem QiL{c:Course}{x:Int}(h:matB c x=true):∃i m,x=((i:Nat):Int)/\c.Mats[i]?=some m:=by
 unfold matB at h;simp only[XW,Vr]at h;exact⟨x.toNat,c.Mats[x.toNat]'(by omega),by omega,XK _⟩
def okPl(c:Course)(x:Int):Bool:=matB c x&&(match c.Mats[x.toNat]? with|some m=>m.Kind != 1|none=>false)
abbrev Met:=List (Ua×Bool)
abbrev Anc:=List (Ua×Int)
def meetV(c:Course)(m:Met)(x e:Int):Met:=bif okPl c x then Yj m ⟨x,e⟩ true else m
theorem Qel(c:Course)(m:Met)(x e:Int):Ev (λn=>F_w n x e c m) (meetV c m x e):=by
 unfold F_w meetV;refine Ea (v:=okPl c x) ?_ ?_
 .unfold okPl;refine Ea (QcI c x) ?_;cases q:matB c x with
  |false=>exact Qa _
  |true=>
   obtain⟨i,m,rfl,a⟩:=QiL q;simp only[Vp,Ql a,XJ,VA,Int.toNat_natCast,a];exact Qa _
 .cases okPl c x<;>exact Qa _
def metX(c:Course)(m:Met)(f:Fact):Met:=meetV c m f.Read.Mat f.Read.Epoch
def metY(c:Course)(m:Met)(f:Fact):Met:=meetV c (meetV c m f.Sync.MatA f.Sync.EpochA) f.Sync.MatB f.Sync.EpochB
def metB(c:Course)(a:Met×Anc)(f:Fact):Met×Anc:=(meetV c a.1 f.Beacon.Mat f.Beacon.Epoch,bif !Qb7 a.2 (⟨f.Beacon.Mat,f.Beacon.Epoch⟩:Ua)then Yj a.2 ⟨f.Beacon.Mat,f.Beacon.Epoch⟩ f.Beacon.Local else a.2)
def metA(c:Course)(l:List Fact):Met×Anc:=(cntS l 3).foldl (metB c) ((cntS l 4).foldl (metY c) ((cntS l 2).foldl (metX c) []),[])
structure MetOk (c:Course) (k:Nat) (m:Met):Prop where
 nodup:(m.map (·.1)).Nodup
 ok:∀p∈m.map (·.1),okPl c p.mat=true/\0<=p.epoch/\p.epoch<=255
 len:m.length<=k
theorem QiO{α β:Type}[DecidableEq α](m:List (α×β))(k:α)(v:β)(h:(m.map (·.1)).Nodup):((Yj m k v).map (·.1)).Nodup/\(∀p∈(Yj m k v).map (·.1),p=k\/p∈m.map (·.1))/\(Yj m k v).length<=m.length+1:=by
 have e:=Qf1 m k v;have f:=congrArg List.length e;rw[X2]at f;rw[e];by_cases q:k∈m.map (·.1)
 .rw[Vt q]at f⊢;exact⟨h,λp d=>.inr d,by rw[f,X2];omega⟩
 .rw[Vs q]at f⊢;refine⟨?_,λp d=>?_,by rw[f];simp⟩
  .rw[List.nodup_append];refine⟨h,by simp,λa i b g=>?_⟩;rw[VB]at g;rintro rfl;exact q (g▸i)
  .rcases VD.1 d with d|d
   .exact .inr d
   .exact .inl (by simpa using d)
theorem Qei{c:Course}{k:Nat}{m:Met}(h:MetOk c k m)(x:Int){e:Int}(he:0<=e/\e<=255):MetOk c (k+1) (meetV c m x e):=by
 unfold meetV;cases q:okPl c x with
 |false=>exact⟨h.nodup,h.ok,by have:=h.len;simp only[Vq];omega⟩
 |true=>
  simp only[Vp];obtain⟨d,b,f⟩:=QiO m (⟨x,e⟩:Ua) true h.nodup;refine⟨d,λp a=>?_,by have:=h.len;omega⟩;rcases b p a with rfl|a
  .exact⟨q,he⟩
  .exact h.ok p a
def AncOk(m:Anc):Prop:=∀p v,Qag m p=some v->isT v
theorem QcG{α β:Type}(g:β->α->β)(I:β->Nat->Prop)(w:Nat):∀(l:List α) (b:β) (k:Nat),I b k->(∀x∈l,∀b k,I b k->I (g b x) (k+w))->I (l.foldl g b) (k+w*l.length)
 |[],b,k,h,_=>by simpa using h
 |x::l,b,k,h,q=>by
  have:=QcG g I w l (g b x) (k+w) (q x (by simp) b k h) λy hy=>q y (by simp[hy]);rw[X0,Nat.mul_add,Nat.mul_one,Nat.add_comm (w*l.length), <- Nat.add_assoc];exact this
theorem Qeh(c:Course)(l:List Fact):MetOk c ((cntS l 2).length+2*(cntS l 4).length+(cntS l 3).length) (metA c l).1/\AncOk (metA c l).2:=by
 have n:MetOk c (0+1*(cntS l 2).length) ((cntS l 2).foldl (metX c) []):=QcG (metX c) (λm k=>MetOk c k m) 1 _ _ _ ⟨by simp,(λp b=>by simp at b),by simp⟩ λf i m k h=>by
  obtain⟨_,d,g⟩:=QaV i;exact Qei h _ (Qis d g)
 have q:=QcG (metY c) (λm k=>MetOk c k m) 2 (cntS l 4) _ _ n λf i m k h=>by
  obtain⟨_,d,g⟩:=QaV i;have s:=Qcg d g;exact Qei (Qei h _ s.ea) _ s.eb
 have j:=QcG (metB c) (λa k=>MetOk c k a.1/\AncOk a.2) 1 (cntS l 3) (_,[]) _ ⟨q,(λp v h=>by simp[Qag]at h)⟩ λf i a k h=>by
  obtain⟨_,d,g⟩:=QaV i;have s:=Qas d g;refine⟨Qei h.1 _ s.ep,?_⟩;show AncOk (bif !Qb7 a.2 _ then Yj a.2 _ _ else a.2);cases Qb7 a.2 (⟨f.Beacon.Mat,f.Beacon.Epoch⟩:Ua)with
  |true=>exact h.2
  |false=>
   simp only[Xh,Vp];intro p v b;rw[Qdl]at b;split at b
   .cases b;exact s.lo
   .exact h.2 p v b
 have e:0+1*(cntS l 2).length+2*(cntS l 4).length+1*(cntS l 3).length=(cntS l 2).length+2*(cntS l 4).length+(cntS l 3).length:=by omega
 rw[e]at j;exact j
theorem QjU(l:List Fact):(cntS l 2).length+2*(cntS l 4).length+(cntS l 3).length<=2*l.length:=by
 have a:∀m:List Fact,(m.filter λf=>f.Kind==2).length+2*(m.filter λf=>f.Kind==4).length+(m.filter λf=>f.Kind==3).length<=2*m.length:=by
  intro m
  induction m with
  |nil=>simp
  |cons f m g=>
   simp only[List.filter_cons,X0];by_cases b:f.Kind=2
   .simp[b];omega
   .by_cases d:f.Kind=4
    .simp[d];omega
    .by_cases e:f.Kind=3
     .simp[e];omega
     .simp[b,e,d];omega
 have:=a (canonS l);have h:=Qfl l;unfold cntS;omega
def segOf(a:Anc)(p:Ua×Bool):Segment:=⟨p.1.mat,p.1.epoch,QP a p.1 0⟩
def segV(c:Course)(l:List Fact):List Segment:=QaT (ltC cmpSeg) ((metA c l).1.map (segOf (metA c l).2))
set_option maxRecDepth 10000
theorem QbX:CmpOK cmpSeg:=by
 have h:=Qb5 (cmpI_ok.on λx:Segment=>x.Mat) (cmpI_ok.on λx:Segment=>x.Epoch);have e:cmpSeg=λx y:Segment=>bif cmpI x.Mat y.Mat != 0 then cmpI x.Mat y.Mat else cmpI x.Epoch y.Epoch:=by
  funext x y
  show(bif cmpI x.Mat y.Mat != 0 then cmpI x.Mat y.Mat else(bif cmpI x.Epoch y.Epoch != 0 then cmpI x.Epoch y.Epoch else 0))=_;cases q:cmpI x.Epoch y.Epoch != 0 with
  |true=>rfl
  |false=>
   have:cmpI x.Epoch y.Epoch=0:=by simpa using q
   rw[this];rfl
 rw[e];exact h
theorem QdX{x y:Segment}(h:cmpSeg x y=0):x.Mat=y.Mat/\x.Epoch=y.Epoch:=by
 unfold cmpSeg orL at h;cases q:cmpI x.Mat y.Mat != 0 with
 |true=>rw[q]at h;simp only[Vp]at h;rw[h]at q;cases q
 |false=>
  rw[q]at h;have d:cmpI x.Mat y.Mat=0:=by simpa using q
  simp only[Vq,orL]at h;cases a:cmpI x.Epoch y.Epoch != 0 with
  |true=>rw[a]at h;simp only[Vp]at h;rw[h]at a;cases a
  |false=>
   have b:cmpI x.Epoch y.Epoch=0:=by simpa using a
   exact⟨Qpw.1 d,Qpw.1 b⟩
theorem QfT{a:Anc}{p q:Ua×Bool}(h:cmpSeg (segOf a p) (segOf a q)=0):segOf a p=segOf a q:=by
 obtain⟨b,d⟩:=QdX h;have e:p.1=q.1:=by
  obtain⟨⟨i,k⟩,g⟩:=p;obtain⟨⟨l,j⟩,f⟩:=q;simp only[segOf]at b d;simp only[b,d]
 unfold segOf;rw[e]
theorem Qfe(n:Nat)(m:Met×Anc):∀(p:Met) (s:List Segment),s.length+p.length<=1048576->Qd6 (F_gi n m) (F_hi n) s p=some (s++p.map (segOf m.2))
 |[],s,h=>by unfold Qd6 F_hi;simp
 |e::p,s,h=>by
  rw[X0]at h;have h1:F_gi n m s e=some (.cont (s++[segOf m.2 e])):=by
   unfold F_gi;simp only[XJ];rw[Qbp _ _ (by omega)];rfl
  unfold Qd6;rw[h1];show Qd6 _ _ (s++[segOf m.2 e]) p=_;rw[Qfe n m p _ (by simp;omega)];simp
theorem Qlr{m:Met×Anc}{p:Met}(h:p.Perm m.1):QaT (ltC cmpSeg) (p.map (segOf m.2))=QaT (ltC cmpSeg) (m.1.map (segOf m.2)):=by
 refine Qbh (lt:=ltC cmpSeg) ((QK _ _).trans ((h.map _).trans (QK _ _).symm)) (λx f y g d e=>?_) (Yv (QbV QbX _)) (Yv (QbV QbX _));have d:=Vw d;have e:=Vw e;obtain⟨a,_,rfl⟩:=Xe.1 ((QK _ _).mem_iff.1 f);obtain⟨b,_,rfl⟩:=Xe.1 ((QK _ _).mem_iff.1 g);refine QfT ?_;have:=QbX.swap (segOf m.2 a) (segOf m.2 b);omega
theorem QgY{c:Course}{l:List Fact}{e:Int}(he:Ev (λn=>F_j n c) e)(a:e≠0):Ev (λn=>F_z n c l) ([],e):=by
 unfold F_z;refine Ea he ?_;rw[show(e != 0)=true by simpa using a];exact Qa _
theorem QdU{c:Course}{l:List Fact}(he:Ev (λn=>F_j n c) 0)(s:l.length<=100):Ev (λn=>F_z n c l) (segV c l,0):=by
 obtain⟨g,_⟩:=Qeh c l;have q:=QjU l;have j:(metA c l).1.length<=200:=XV g.len (by omega);unfold F_z;refine Ea he (Q7 ?_);simp only[F_p,XJ];refine Ea (QaK l 2 (by omega)) ?_;refine Ea (Qb3 (metX c) (λ_ _=>True) (cntS l 2) [] trivial λf _ m k _=>⟨?_,trivial⟩).1 ?_
 .unfold F_ia;exact Ea (Qel c m _ _) (Qa _)
 refine Ea (QaK l 4 (by omega)) ?_;refine Ea (Qb3 (metY c) (λ_ _=>True) (cntS l 4) _ trivial λf _ m k _=>⟨?_,trivial⟩).1 ?_
 .unfold F_ib;exact Ea (Qel c m _ _) (Ea (Qel c _ _ _) (Qa _))
 refine Ea (QaK l 3 (by omega)) ?_;refine Ea (Qb3 (metB c) (λ_ _=>True) (cntS l 3) (_,[]) trivial λf _ a k _=>⟨?_,trivial⟩).1 ?_
 .unfold F_ic metB;refine Ea (Qel c a.1 _ _) ?_;simp only[XJ];cases Qb7 a.2 (⟨f.Beacon.Mat,f.Beacon.Epoch⟩:Ua)<;>exact Qa _
 show Ev (λn=>bif decide (511<((metA c l).1.length:Int))then some ([],2)else anyP (λp=>(Qd6 (F_gi n (metA c l)) (F_hi n) [] p).bind λb=>(QbC (λx y=>F_af n x y) b).bind λl=>some (l,0)) (metA c l).1) (segV c l,0);rw[QG (show¬(511<((metA c l).1.length:Int))by omega)];refine Q7 (Ev.anyP λp d=>?_);have r:=d.length_eq;simp only[Qfe _ (metA c l) p [] (by simp;omega),Vh,XJ];refine Ea (Qj6 (by rw[X2];omega) (λx _ y _=>QdT x y) QbX λx i y h e=>?_) ?_
 .obtain⟨a,_,rfl⟩:=Xe.1 i;obtain⟨b,_,rfl⟩:=Xe.1 h;exact QfT e
 .rw[Qlr d];exact Qa _
structure SegOk (c:Course) (s:Segment):Prop where
 pl:okPl c s.Mat=true
 ep:0<=s.Epoch/\s.Epoch<=255
 an:isT s.Anchor
theorem QiB{c:Course}{l:List Fact}{s:Segment}(h:s∈segV c l):SegOk c s:=by
 obtain⟨e,a⟩:=Qeh c l;obtain⟨p,b,rfl⟩:=Xe.1 ((QK _ _).mem_iff.1 h);obtain⟨d,f⟩:=e.ok p.1 (Xe.2 ⟨p,b,rfl⟩);refine⟨d,f,?_⟩;show isT (QP (metA c l).2 p.1 0);unfold QP;cases q:Qag (metA c l).2 p.1 with
 |none=>exact⟨by decide,by decide⟩
 |some v=>exact a _ _ q
theorem Qeb(c:Course)(l:List Fact):(segV c l).length<=2*l.length:=by
 obtain⟨a,_⟩:=Qeh c l;have h:(segV c l).length=(metA c l).1.length:=by
  unfold segV;rw[(QK _ _).length_eq,X2]
 have:=QjU l;have:=a.len;omega
theorem Qos(c:Course)(l:List Fact):(segV c l).Pairwise λx y=>cmpSeg x y<0:=by
 obtain⟨d,_⟩:=Qeh c l;have s:(segV c l).Pairwise λx y=>ltC cmpSeg y x=false:=Yv (QbV QbX _);have nd:((segV c l).map λs=>(⟨s.Mat,s.Epoch⟩:Ua)).Nodup:=by
  have p:=(QK (ltC cmpSeg) ((metA c l).1.map (segOf (metA c l).2))).map λs:Segment=>(⟨s.Mat,s.Epoch⟩:Ua);refine p.nodup_iff.2 ?_;rw[List.map_map];exact d.nodup
 unfold List.Nodup at nd;rw[List.pairwise_map]at nd;refine List.Pairwise.imp₂ (λx y a f=>?_) s nd;have a:=Vw a;have g:=QbX.swap x y;refine Classical.byContradiction λq=>f ?_;obtain⟨b,e⟩:=QdX (x:=x) (y:=y) (by omega);rw[b,e]
def place(s:Segment):Ua:=⟨s.Mat,s.Epoch⟩
def varG:List Segment->Nat->Anc->Anc
 |[],_,m=>m
 |x::r,i,m=>varG r (i+1) (Yj m (place x) ((i+1:Nat):Int))
def baseG:List Segment->Nat->List Edge
 |[],_=>[]
 |_::r,i=>⟨0,((i+1:Nat):Int),1099511627776⟩::⟨((i+1:Nat):Int),0,1099511627776⟩::baseG r (i+1)
def varV(S:List Segment):Anc:=varG S 0 []
def VarOk(S:List Segment)(k:Nat)(m:Anc):Prop:=∀p v,Qag m p=some v->∃j s,v=((j+1:Nat):Int)/\j<k/\S[j]?=some s/\place s=p
theorem Qjk(S:List Segment):∀(r:List Segment) (i:Nat) (m:Anc),S.drop i=r->i<=S.length->VarOk S i m->VarOk S S.length (varG r i m)
 |[],i,m,h,hi,q=>λp v hp=>by
  obtain⟨j,s,a,b,d⟩:=q p v hp;exact⟨j,s,a,by omega,d⟩
 |x::r,i,m,h,hi,q=>by
  obtain⟨hx,hr,hlt⟩:=Qg2 h;refine Qjk S r (i+1) _ hr hlt λp v hp=>?_;rw[Qdl]at hp;split at hp
  .rename_i e;cases hp;exact⟨i,x,rfl,by omega,hx,e.symm⟩
  .obtain⟨j,s,a,b,d⟩:=q p v hp;exact⟨j,s,a,by omega,d⟩
theorem Qnk(S:List Segment):VarOk S S.length (varV S):=Qjk S S 0 [] rfl (XU _) λp v h=>by simp[Qag]at h
theorem Qdt:∀(r:List Segment) (i:Nat),(baseG r i).length=2*r.length
 |[],_=>rfl
 |_::r,i=>by simp only[baseG,X0,Qdt r];omega
theorem Qgn:∀(r:List Segment) (i j:Nat),j<r.length->(⟨0,((i+j+1:Nat):Int),1099511627776⟩:Edge)∈baseG r i/\(⟨((i+j+1:Nat):Int),0,1099511627776⟩:Edge)∈baseG r i
 |_::r,i,0,_=>by simp[baseG]
 |_::r,i,j+1,h=>by
  obtain⟨a,b⟩:=Qgn r (i+1) j (by simpa using h);rw[show i+1+j+1=i+(j+1)+1 by omega]at a b;exact⟨X5 _ (X5 _ a),X5 _ (X5 _ b)⟩
theorem Qid:∀(r:List Segment) (i n:Nat),i+r.length<n->∀x∈baseG r i,EdgOk n x
 |[],_,_,_,x,h=>by cases h
 |_::r,i,n,hn,x,h=>by
  simp only[X0]at hn;simp only[baseG,X6]at h;rcases h with rfl|rfl|h
  .exact⟨by simp,by simp;omega,by simp;omega,by simp;omega,by simp,by simp⟩
  .exact⟨by simp;omega,by simp;omega,by simp,by simp;omega,by simp,by simp⟩
  .exact Qid r (i+1) n (by omega) x h
theorem QjP(r1:List Segment×Int)(hl:r1.1.length<=1000):∀(r:List Segment) (i:Nat) (m:Anc) (es:List Edge),r1.1.drop i=r->i<=r1.1.length->es.length<=2*i->
  EvI (λn=>F_gy n r1) (m,es,(i:Int)) (varG r i m,es++baseG r i)
 |[],i,m,es,h,hi,he=>by
  refine Ej ?_;unfold F_gy;simp only[Yx h hi,Vq,varG,baseG,Vg];exact Qa _
 |x::r,i,m,es,h,hi,he=>by
  obtain⟨ha,hr⟩:=QN (by omega) h;have hlt:=ha.lt';have q:=QjP r1 hl r (i+1) (Yj m (place x) ((i+1:Nat):Int)) (es++[⟨0,((i+1:Nat):Int),1099511627776⟩,⟨((i+1:Nat):Int),0,1099511627776⟩]) hr (by omega) (by simp;omega);rw[Vi]at q;refine Ew ?_ q;unfold F_gy F_ae;simp only[ha.lt,Vp,ha.ix,XJ,ha.nx];rw[show IntKind.i64.wrap (0- -1099511627776)=1099511627776 by decide,QcP _ _ (by simp;omega)];exact Qa _
def segAt(S:List Segment)(v mat ep:Int):Segment:=bif decide (0<v)then(S[(v-1).toNat]?).getD ⟨mat,ep,0⟩else⟨mat,ep,0⟩
def kindM(c:Course)(x:Int):Int:=match c.Mats[x.toNat]? with|some m=>m.Kind|none=>0
def repV(c:Course)(S:List Segment)(mat ep loc:Int):Int×Span:=
 let v:=QP (varV S) (⟨mat,ep⟩:Ua) 0
 let y:=segAt S v mat ep
 (v,⟨loc+(devV c (kindM c y.Mat) y loc).Lo,loc+(devV c (kindM c y.Mat) y loc).Hi⟩)
theorem Qdc{c:Course}(p:CrsOk c){S:List Segment}(H:∀s∈S,SegOk c s)(O:S.length<=1000){a ep b:Int}(y:matB c a=true)(d:isT b):
  Ev (λn=>F_ag n a ep b S c (varV S)) (repV c S a ep b)/\(0<=(repV c S a ep b).1/\(repV c S a ep b).1<=(S.length:Int))/\
  (-1374389534720<=(repV c S a ep b).2.Lo/\(repV c S a ep b).2.Lo<=1099511627776)/\(-1099511627776<=(repV c S a ep b).2.Hi/\(repV c S a ep b).2.Hi<=1378684502016):=by
 have F:=Qnk S;generalize hv:QP (varV S) (⟨a,ep⟩:Ua) 0=v;have h:(0<=v/\v<=(S.length:Int))/\(bif decide (0<v)then(idx S (IntKind.i64.wrap (v-1))).bind λx=>some x else some (⟨a,ep,0⟩:Segment))=some (segAt S v a ep)/\isT (segAt S v a ep).Anchor/\ ∃i m,(segAt S v a ep).Mat=((i:Nat):Int)/\c.Mats[i]?=some m:=by
  unfold QP at hv;cases q:Qag (varV S) (⟨a,ep⟩:Ua)with
  |none=>
   rw[q]at hv;have:v=0:=hv.symm;subst this;obtain⟨i,m,z,t⟩:=QiL y;exact⟨⟨by decide,by omega⟩,rfl,⟨show(-1099511627776:Int)<=0 by decide,show(0:Int)<=1099511627776 by decide⟩,i,m,z,t⟩
  |some w=>
   rw[q]at hv;have:w=v:=hv;subst this;obtain⟨j,s,rfl,t,f,M⟩:=F _ _ q;have r:=H s (VH f);have e:segAt S ((j+1:Nat):Int) a ep=s:=by
    unfold segAt;rw[QO (by omega),Vp,show(((j+1:Nat):Int)-1).toNat=j by omega,f];rfl
   rw[e];refine⟨⟨by omega,by omega⟩,?_,r.an,QiL (by have:=r.pl;unfold okPl at this;rw[XW]at this;exact this.1)⟩;rw[QO (by omega),Vp,Qo (by omega) (by omega),show((j+1:Nat):Int)-1=(j:Int)by omega,Ql f];rfl
 obtain⟨B,E,u,i,m,l,k⟩:=h;have G:kindM c (segAt S v a ep).Mat=m.Kind:=by unfold kindM;rw[l,Int.toNat_natCast,k]
 have e:repV c S a ep b=(v,⟨b+(devV c m.Kind (segAt S v a ep) b).Lo,b+(devV c m.Kind (segAt S v a ep) b).Hi⟩):=by
  unfold repV;simp only[hv,G]
 obtain⟨J,N,L,P⟩:=Qpg p m.Kind u d;have g:=d;unfold isT at g;rw[e];refine⟨?_,B,⟨by simp only;omega,by simp only;omega⟩,⟨by simp only;omega,by simp only;omega⟩⟩;unfold F_ag;simp only[hv,XJ];rw[E];refine Ea (Qa _) (Ea (Qpd p k l u d) ?_);rw[Qo (by omega) (by omega),Qo (by omega) (by omega)];exact Qa _
def newB(c:Course)(S:List Segment)(b:Beacon):List Edge:=
 bif matB c b.Mat then[⟨0,(repV c S b.Mat b.Epoch b.Local).1,b.True+b.Err-(repV c S b.Mat b.Epoch b.Local).2.Lo⟩,⟨(repV c S b.Mat b.Epoch b.Local).1,0,0-(b.True-b.Err-(repV c S b.Mat b.Epoch b.Local).2.Hi)⟩]else[]
def newS(c:Course)(S:List Segment)(y:Sync):List Edge:=
 bif matB c y.MatA&&matB c y.MatB then[⟨(repV c S y.MatA y.EpochA y.LocalA).1,(repV c S y.MatB y.EpochB y.LocalB).1,y.Max-(repV c S y.MatB y.EpochB y.LocalB).2.Lo+(repV c S y.MatA y.EpochA y.LocalA).2.Hi⟩,
  ⟨(repV c S y.MatB y.EpochB y.LocalB).1,(repV c S y.MatA y.EpochA y.LocalA).1,0-(y.Min-(repV c S y.MatB y.EpochB y.LocalB).2.Hi+(repV c S y.MatA y.EpochA y.LocalA).2.Lo)⟩]else[]
def edgesV(c:Course)(S:List Segment)(l:List Fact):List Edge:=baseG S 0++((cntS l 3).flatMap (λf=>newB c S f.Beacon)++(cntS l 4).flatMap (λf=>newS c S f.Sync))
theorem QgK{c:Course}(g:CrsOk c){S:List Segment}(e:∀s∈S,SegOk c s)(f:S.length<=1000){b:Beacon}(a:BeaOk b):(∀x∈newB c S b,EdgOk (S.length+1) x)/\(newB c S b).length<=2:=by
 unfold newB;cases q:matB c b.Mat with
 |false=>exact⟨(λx h=>by cases h),by simp⟩
 |true=>
  obtain⟨_,⟨v0,l⟩,⟨i,j⟩,t,m⟩:=Qdc g e f (ep:=b.Epoch) q a.lo;obtain⟨n,r⟩:=a.tr;obtain⟨k,p⟩:=a.er;refine⟨λx d=>?_,by simp⟩;simp only[Vp,X6,List.not_mem_nil,or_false]at d;rcases d with rfl|rfl
  .exact⟨Int.le_refl _,by simp only;omega,v0,by simp only;omega,by simp only;omega,by simp only;omega⟩
  .exact⟨v0,by simp only;omega,Int.le_refl _,by simp only;omega,by simp only;omega,by simp only;omega⟩
theorem QjB{c:Course}(d:CrsOk c){S:List Segment}(e:∀s∈S,SegOk c s)(f:S.length<=1000){y:Sync}(a:SynOk y):(∀x∈newS c S y,EdgOk (S.length+1) x)/\(newS c S y).length<=2:=by
 unfold newS;cases q:matB c y.MatA&&matB c y.MatB with
 |false=>exact⟨(λx h=>by cases h),by simp⟩
 |true=>
  rw[XW]at q;obtain⟨_,⟨v0,l⟩,⟨i,j⟩,t,B⟩:=Qdc d e f (ep:=y.EpochA) q.1 a.la;obtain⟨_,⟨b,k⟩,⟨w,p⟩,u,E⟩:=Qdc d e f (ep:=y.EpochB) q.2 a.lb;obtain⟨n,r⟩:=a.mi;obtain⟨z,m⟩:=a.ma;refine⟨λx g=>?_,by simp⟩;simp only[Vp,X6,List.not_mem_nil,or_false]at g;rcases g with rfl|rfl
  .exact⟨v0,by simp only;omega,b,by simp only;omega,by simp only;omega,by simp only;omega⟩
  .exact⟨b,by simp only;omega,v0,by simp only;omega,by simp only;omega,by simp only;omega⟩
theorem Qcm{α β:Type}(f:α->List β):∀(l:List α) (a:List β),l.foldl (λa x=>a++f x) a=a++l.flatMap f
 |[],a=>by simp
 |x::l,a=>by rw[XD,Qcm f l];simp
theorem Qdp{α β:Type}{f:α->List β}{l:List α}(h:∀x∈l,(f x).length<=2):(l.flatMap f).length<=2*l.length:=by
 induction l with
 |nil=>simp
 |cons x l a=>
  have:=h x (by simp);have:=a λy b=>h y (by simp[b]);simp only[List.flatMap_cons,X3,X0];omega
theorem QcK{c:Course}(q:CrsOk c)(l:List Fact)(u:l.length<=15):SysOk ((segV c l).length+1) (edgesV c (segV c l) l):=by
 have t:=Qeb c l;have n:(segV c l).length<=1000:=by omega
 have p:∀s∈segV c l,SegOk c s:=λs h=>QiB h;have w:=QcM l 3;have r:=QcM l 4;have m:∀f∈cntS l 3,(∀x∈newB c (segV c l) f.Beacon,EdgOk ((segV c l).length+1) x)/\(newB c (segV c l) f.Beacon).length<=2:=λf e=>by
  obtain⟨_,g,i⟩:=QaV e;exact QgK q p n (Qas g i)
 have k:∀f∈cntS l 4,(∀x∈newS c (segV c l) f.Sync,EdgOk ((segV c l).length+1) x)/\(newS c (segV c l) f.Sync).length<=2:=λf e=>by
  obtain⟨_,g,i⟩:=QaV e;exact QjB q p n (Qcg g i)
 refine⟨by omega,by omega,?_,λx j=>?_⟩
 .have a:=Qdp (f:=λf:Fact=>newB c (segV c l) f.Beacon) λf e=>(m f e).2;have b:=Qdp (f:=λf:Fact=>newS c (segV c l) f.Sync) λf e=>(k f e).2;have d:=Qdt (segV c l) 0;unfold edgesV;simp only[X3];omega
 .unfold edgesV at j;simp only[VD,List.mem_flatMap]at j;rcases j with h|⟨f,e,h⟩|⟨f,e,h⟩
  .exact Qid _ 0 _ (by omega) x h
  .exact(m f e).1 x h
  .exact(k f e).1 x h
theorem Qff{c:Course}{l:List Fact}{e:Int}(he:Ev (λn=>F_j n c) e)(a:e≠0):Ev (λn=>F_y n c l) (0,[],e):=by
 unfold F_y;refine Ea (QgY he a) ?_;rw[show(e != 0)=true by simpa using a];exact Qa _
theorem Qds{c:Course}(e:CrsOk c){l:List Fact}(he:Ev (λn=>F_j n c) 0)(H:l.length<=15):Ev (λn=>F_y n c l) ((((segV c l).length+1:Nat):Int),edgesV c (segV c l) l,0):=by
 have T:=Qeb c l;have d:(segV c l).length<=1000:=by omega
 have i:∀s∈segV c l,SegOk c s:=λs h=>QiB h;have c3:=QcM l 3;have Y:=QcM l 4;have X:=(QcK e l H).e1;unfold F_y;refine Ea (QdU he (by omega)) (Q7 ?_);have y:=(QjP (segV c l,0) d (segV c l) 0 [] [] rfl (XU _) (by simp)).ev;refine Ea y ?_;simp only[F_p,XJ,Vh];refine Ea (QaK l 3 (by omega)) ?_;have O:(baseG (segV c l) 0).length<=1000:=by rw[Qdt];omega
 obtain⟨N,r⟩:=Qb3 (step:=λn=>F_hn n c (segV c l,0) (varG (segV c l) 0 [],baseG (segV c l) 0)) (λb (f:Fact)=>b++newB c (segV c l) f.Beacon) (λb k=>b.length+2*k<=2000) (cntS l 3) (baseG (segV c l) 0) (by show(baseG (segV c l) 0).length+2*(cntS l 3).length<=2000;omega) λf j b k t=>by
  obtain⟨_,m,g⟩:=QaV j;have a:=Qas m g;obtain⟨_,F⟩:=QgK e i d a;refine⟨?_,by simp only[X3];omega⟩;unfold F_hn newB;refine Ea (QcI c _) ?_;cases q:matB c f.Beacon.Mat with
  |false=>simp only[Vq,Vg];exact Qa _
  |true=>
   obtain⟨p,⟨v0,L⟩,⟨w,u⟩,B,G⟩:=Qdc e i d (ep:=f.Beacon.Epoch) q a.lo;obtain⟨x,z⟩:=a.tr;obtain⟨M,e1⟩:=a.er;simp only[Vp];refine Ea (Ea p (Ea ?_ (Qa _))) (Qa _);unfold F_ae;rw[Qo (n:=f.Beacon.True-f.Beacon.Err) (by omega) (by omega),Qo (n:=f.Beacon.True+f.Beacon.Err) (by omega) (by omega),Qo (n:=f.Beacon.True-f.Beacon.Err-_) (by omega) (by omega),Qo (n:=f.Beacon.True+f.Beacon.Err-_) (by omega) (by omega),Qo (n:=0-_) (by omega) (by omega),QcP _ _ (by simp;omega)];exact Qa _
 refine Ea N ?_;rw[Qcm]at r⊢;refine Ea (QaK l 4 (by omega)) ?_;have P:=Qdp (l:=cntS l 3) (f:=λf:Fact=>newB c (segV c l) f.Beacon) λf j=>by
  obtain⟨_,m,t⟩:=QaV j;exact(QgK e i d (Qas m t)).2
 generalize hE1:baseG (segV c l) 0++(cntS l 3).flatMap (λf=>newB c (segV c l) f.Beacon)=E1;have u:E1.length<=1100:=by rw[<- hE1,X3];omega
 obtain⟨J,E⟩:=Qb3 (step:=λn=>F_hu n c (segV c l,0) (varG (segV c l) 0 [],baseG (segV c l) 0)) (λb (f:Fact)=>b++newS c (segV c l) f.Sync) (λb k=>b.length+2*k<=2000) (cntS l 4) E1 (by show E1.length+2*(cntS l 4).length<=2000;omega) λf j b k t=>by
  obtain⟨_,m,g⟩:=QaV j;have a:=Qcg m g;obtain⟨_,F⟩:=QjB e i d a;refine⟨?_,by simp only[X3];omega⟩;unfold F_hu newS;refine Ea (v:=matB c f.Sync.MatA&&matB c f.Sync.MatB) ?_ ?_
  .refine Ea (QcI c _) ?_;cases matB c f.Sync.MatA with
   |false=>exact Qa _
   |true=>exact Ea (QcI c _) (Qa _)
  cases q:matB c f.Sync.MatA&&matB c f.Sync.MatB with
  |false=>simp only[Vq,Vg];exact Qa _
  |true=>
   rw[XW]at q;obtain⟨p,⟨v0,L⟩,⟨w,u⟩,B,G⟩:=Qdc e i d (ep:=f.Sync.EpochA) q.1 a.la;obtain⟨rf,⟨R,Q⟩,⟨W,l3⟩,V,h3⟩:=Qdc e i d (ep:=f.Sync.EpochB) q.2 a.lb;obtain⟨x,z⟩:=a.mi;obtain⟨M,e1⟩:=a.ma;simp only[Vp];refine Ea (Ea p (Ea rf (Ea ?_ (Qa _)))) (Qa _);unfold F_ae;rw[Qo (n:=f.Sync.Min-_) (by omega) (by omega),Qo (n:=f.Sync.Max-_) (by omega) (by omega),Qo (n:=f.Sync.Min-_+_) (by omega) (by omega),Qo (n:=f.Sync.Max-_+_) (by omega) (by omega),Qo (n:=0-_) (by omega) (by omega),QcP _ _ (by simp;omega)];exact Qa _
 refine Ea J ?_;rw[Qcm, <- hE1,Vi];show Ev (λn=>bif decide (8192<((edgesV c (segV c l) l).length:Int))then some (0,[],2)else some (IntKind.i64.wrap (((segV c l).length:Int)+1),edgesV c (segV c l) l,0)) _;rw[QG (show¬(8192<((edgesV c (segV c l) l).length:Int))by omega),QC (by omega)];exact Qa _
set_option maxRecDepth 10000
theorem Qph{c:Course}(h:courseE c=0):CrsOk c:=by
 unfold courseE at h;cases a:fitsS c with
 |false=>rw[a]at h;cases h
 |true=>
  rw[a,Vp]at h;cases d:namesS c with
  |false=>rw[d]at h;cases h
  |true=>
   rw[d,Vp]at h;cases b:numbersS c with
   |false=>rw[b]at h;cases h
   |true=>
    simp only[numbersS,lastS,inR,XW,Vr]at b;simp only[fitsS,XW,Bool.not_eq_true',XX,decide_eq_false_iff_not]at a;have l:=b.2.2.2.2.2.2.2.2.2;exact⟨by omega,by omega,by omega⟩
theorem QkA{c:Course}{l:List Fact}{e:Int}(he:Ev (λn=>F_j n c) e)(a:e≠0):Ev (λn=>F_f n c l) ([],[],e):=by
 unfold F_f;refine Ea (Qff he a) ?_;simp only[show(e != 0)=true by simpa using a];exact Qa _
theorem Qmn{c:Course}(b:CrsOk c){l:List Fact}(he:Ev (λn=>F_j n c) 0)(d:l.length<=15):
  (∃φ far D,PotB (edgesV c (segV c l) l) φ/\FarOk (edgesV c (segV c l) l) ((segV c l).length+1) far D/\Ev (λn=>F_f n c l) (segV c l,far,0)/\Ev (λm=>F_ad m ⟨(((segV c l).length+1:Nat):Int),edgesV c (segV c l) l⟩) (far,[],0))\/
  ((¬ ∃φ,PotB (edgesV c (segV c l) l) φ)/\Ev (λn=>F_f n c l) ([],[],160)):=by
 unfold F_f;have s:=Qds b he d;rcases Qpf (QcK b l d)with⟨φ,far,D,e,h,a⟩|⟨f,g,_,_,_,_,a⟩
 .refine .inl ⟨φ,far,D,e,h,Ea s (Q7 (Ea a (Q7 (Ea (QdU he (by omega)) (Qa _))))),a⟩
 .exact .inr ⟨f,Ea s (Q7 (Ea a (Qa _)))⟩
theorem Qot:F_fj 300=some true:=by kernel_rfl
set_option maxRecDepth 10000
theorem Qg1{es:List Edge}{x:Edge}(h:x∈es):∃i,i<es.length/\(grOf es).F i=x.From.toNat/\(grOf es).T i=x.To.toNat/\(grOf es).W i=x.W:=by
 obtain⟨i,a,e⟩:=List.getElem_of_mem h;exact⟨i,a,QhG (by rw[XK a,e])⟩
theorem Qnz{es:List Edge}{i:Nat}(h:i<es.length):∃x∈es,(grOf es).F i=x.From.toNat/\(grOf es).T i=x.To.toNat/\(grOf es).W i=x.W:=
 ⟨es[i],Vd h,QhG (XK h)⟩
def BaseIn(es:List Edge)(n:Nat):Prop:=∀v,0<v->v<n->(⟨0,(v:Int),1099511627776⟩:Edge)∈es/\(⟨(v:Int),0,1099511627776⟩:Edge)∈es
theorem QjX(c:Course)(S:List Segment)(l:List Fact):BaseIn (edgesV c S l) (S.length+1):=λv h0 hv=>by
 obtain⟨a,b⟩:=Qgn S 0 (v-1) (by omega);rw[show 0+(v-1)+1=v by omega]at a b;exact⟨List.mem_append_left _ a,List.mem_append_left _ b⟩
structure Full (es:List Edge) (n:Nat) (D:Nat->Nat->Int):Prop where
 zero:∀j,j<n->D j j=0
 le:∀j v,j<n->v<n->D j v<=2199023255552
 hold:∀j i,j<n->i<es.length->D j ((grOf es).T i)<=D j ((grOf es).F i)+(grOf es).W i
 wk:∀j v,j<n->v<n->Wk (grOf es) j v (D j v)
theorem QjK{es:List Edge}{n:Nat}(h:SysOk n es)(s:BaseIn es n){l:List (List Int)}{D:Nat->Nat->Int}(f:FarOk es n l D):Full es n D:=by
 have le:∀j v,j<n->v<n->D j v<=2199023255552/\D j v≠bN:=by
  intro j v a b;have d:=f.d j a;have z:=d.zero;have k:D j 0<=1099511627776:=by
   rcases Nat.eq_zero_or_pos j with e|e
   .subst e;omega
   .obtain⟨i,g,m,r,p⟩:=Qg1 (s j e a).2;have:=d.hold i g;rw[m,r,p]at this;simp only[Int.toNat_natCast,Int.toNat_zero]at this;rcases this with q|q
    .rw[q]at z;exact absurd z (by decide)
    .omega
  rcases Nat.eq_zero_or_pos v with e|e
  .subst e;exact⟨by omega,λq=>by rw[q]at k;exact absurd k (by decide)⟩
  .obtain⟨i,g,m,r,p⟩:=Qg1 (s v e b).1;have:=d.hold i g;rw[m,r,p]at this;simp only[Int.toNat_natCast,Int.toNat_zero]at this;rcases this with q|q
   .rw[q]at k;exact absurd k (by decide)
   .exact⟨by omega,λt=>by rw[t]at q;exact absurd (Int.le_trans q (show D j 0+1099511627776<=2199023255552 by omega)) (by decide)⟩
 refine⟨λj a=>(f.d j a).zero,λj v a b=>(le j v a b).1,λj i a g=>?_,λj v a b=>?_⟩
 .rcases(f.d j a).hold i g with q|q
  .exact absurd q (le j _ a (Ql0 h i)).2
  .exact q
 .rcases(f.d j a).wk v with q|q
  .exact absurd q (le j v a b).2
  .exact q
theorem Full.tri{es:List Edge}{n:Nat}{D:Nat->Nat->Int}(h:Full es n D){i j v:Nat}(hi:i<n)(hj:j<n)(hv:v<n):D i v<=D i j+D j v:=(h.wk j v hj hv).le λk hk=>h.hold i k hi hk
theorem Full.ge{es:List Edge}{n:Nat}{D:Nat->Nat->Int}(h:Full es n D){i j:Nat}(hi:i<n)(b:j<n): -2199023255552<=D i j:=by
 have a:=h.tri hi b hi;rw[h.zero i hi]at a;have:=h.le j i b hi;omega
theorem Full.sol{es:List Edge}{n:Nat}{D:Nat->Nat->Int}(h:Full es n D){φ:Nat->Int}(p:PotB es φ){i j:Nat}(hi:i<n)(a:j<n):φ j-φ i<=D i j:=by
 have:=(h.wk i j hi a).le (f:=φ) p;omega
set_option maxRecDepth 10000
def wideB(x:Int):Bool:=decide (x< -1152921504606846976)||decide (1152921504606846976<x)
def valG(l:List Int)(v:Nat):Int:=(l[v]?).getD 0
def brkB(l:List Int)(x:Edge):Bool:=decide (valG l x.From.toNat+x.W<valG l x.To.toNat)
def holdB(es:List Edge)(n:Nat)(l:List Int):Bool:=bif ((l.length:Int) != (n:Int))||((valG l 0 != 0)||l.any wideB)then false else !es.any (brkB l)
theorem Qh4{n:Nat}{es:List Edge}(h:SysOk n es)(l:List Int):Ev (λm=>F_ap m ⟨(n:Int),es⟩ l) (holdB es n l,0):=by
 have B:=h.n0;have u:=h.n1;have E:=h.e1;unfold F_ap holdB;refine Ea (Qdr h) (Q7 ?_);by_cases b:l.length=n
 .have a:((l.length:Int) != (n:Int))=false:=by simp[b]
  have d:idx l 0=some (valG l 0):=by
   have:0<l.length:=by omega
   show idx l ((0:Nat):Int)=_;rw[Ql (XK this)];unfold valG;rw[XK this];rfl
  refine Ea (v:=((l.length:Int) != (n:Int))||((valG l 0 != 0)||l.any wideB)) (Eu λ_=>?_) ?_
  .rw[d];simp only[XJ];refine Eu λ_=>Ea ?_ (Qa _);unfold F_fm F_ft;refine Ev.contains l wideB (λn x=>F_ax n x) (by omega) λx _=>?_;unfold F_ax wideB;exact Ea (Eu λ_=>Qa _) (Qa _)
  .cases q:((l.length:Int) != (n:Int))||((valG l 0 != 0)||l.any wideB)with
   |true=>exact Qa _
   |false=>
    simp only[XX]at q;have k:=q.2.2;have f:∀v,-1152921504606846976<=valG l v/\valG l v<=1152921504606846976:=λv=>by
     unfold valG;cases z:l[v]? with
     |none=>exact⟨by decide,by decide⟩
     |some y=>
      have:=List.any_eq_false.1 k y (VH z);simp only[wideB,Bool.or_eq_true,Vr]at this;simp only[Option.getD_some];omega
    refine Q7 (Ea (v:=es.any (brkB l)) ?_ (Qa _));unfold F_eo F_du;refine Ev.contains es (brkB l) (λn x=>F_ay n x l) (by omega) λx r=>?_;obtain⟨g,j,i,p,t,w1⟩:=h.ok x r;have ix:∀v:Int,0<=v->v<(n:Int)->idx l v=some (valG l v.toNat):=λv v0 w=>by
     have:v.toNat<l.length:=by omega
     conv=>lhs;rw[show v=((v.toNat:Nat):Int)by omega]
     rw[Ql (XK this)];unfold valG;rw[XK this];rfl
    have s:=f x.From.toNat;unfold F_ay brkB;simp only[ix x.To i p,ix x.From g j,XJ];rw[Qo (by omega) (by omega)];exact Qa _
 .have a:((l.length:Int) != (n:Int))=true:=bne_iff_ne.2 λe=>b (by omega);rw[a];exact Ea (v:=true) (Qa _) (Qa _)
theorem hold_iff{n:Nat}{es:List Edge}{l:List Int}:holdB es n l=true↔l.length=n/\valG l 0=0/\(∀y∈l,-1152921504606846976<=y/\y<=1152921504606846976)/\PotB es (valG l):=by
 unfold holdB;cases q:((l.length:Int) != (n:Int))||((valG l 0 != 0)||l.any wideB)with
 |true=>
  refine⟨(λh=>by cases h),λ⟨a,b,c,_⟩=>?_⟩;simp only[Bool.or_eq_true,bne_iff_ne,ne_eq,Xt]at q;rcases q with q|q|⟨y,f,q⟩
  .omega
  .exact absurd b q
  .have:=c y f;simp only[wideB,Bool.or_eq_true,Vr]at q;omega
 |false=>
  simp only[XX,bne_eq_false_iff_eq]at q;simp only[Vq,Bool.not_eq_true',List.any_eq_false,brkB,Vr];constructor
  .intro h;refine⟨by omega,q.2.1,λy f=>?_,λi g=>?_⟩
   .have:=List.any_eq_false.1 q.2.2 y f;simp only[wideB,Bool.or_eq_true,Vr]at this;omega
   .obtain⟨x,k,d,j,e⟩:=Qnz g;have:=h x k;rw[d,j,e];omega
  .rintro⟨_,_,_,h⟩ x k;obtain⟨i,g,d,j,e⟩:=Qg1 k;have:=h i g;rw[d,j,e]at this;omega
theorem Qls{x y:Segment}(h:cmpSeg x y<0):segLt x y=true:=by
 have e:=Qgh x y;rw[QG (show¬(0<=cmpSeg x y)by omega)]at e;have:segLt x y= !(!segLt x y):=by simp
 rw[this, <- e];rfl
theorem QnD{n:Nat}{es:List Edge}{a:List (List Int)}{D:Nat->Nat->Int}(f:FarOk es n a D){r:List Int}(h:r∈a):∃j,j<n/\a[j]?=some r/\r.length=n/\ ∀v,v<n->r[v]?=some (D j v):=by
 obtain⟨j,d,e⟩:=List.getElem_of_mem h;have b:j<n:=by rw[<- f.len];exact d
 obtain⟨l,g,k,i⟩:=f.row j b;rw[XK d,e]at g;cases g;exact⟨j,b,by rw[XK d,e],k,i⟩
theorem Qpi{c:Course}(H:CrsOk c){l:List Fact}(O:l.length<=15){g:List (List Int)}{D:Nat->Nat->Int}(f:FarOk (edgesV c (segV c l) l) ((segV c l).length+1) g D):Ev (λn=>F_v n ⟨segV c l,g⟩) 0:=by
 have F:=QjK (QcK H l O) (QjX c (segV c l) l) f;have X:=Qeb c l;have fl:=f.len;have w:ClkW ⟨segV c l,g⟩:=⟨by show(segV c l).length<=1048576;omega,by show g.length<=1048576;omega,λr N=>by obtain⟨_,_,_,h,_⟩:=QnD f N;omega⟩;have q:rowsB ⟨segV c l,g⟩=true:=by
  refine Qpv.2 λi s=>?_;have d:i<(segV c l).length+1:=by rw[<- fl];exact s
  obtain⟨r,G,P,u⟩:=f.row i d;show(match g[i]? with|some r=>rowB _ i r|none=>true)=true;rw[G];simp only[rowB,Bool.not_eq_true',XX];refine⟨by simp[P],by rw[u i d,F.zero i d];rfl,List.any_eq_false.2 λy V=>?_⟩;obtain⟨k,B,rfl⟩:=List.getElem_of_mem V;have e:=u k (by omega);rw[XK B,Option.some.injEq]at e;rw[e];have a:=F.le i k d (by omega);have b:=F.ge d (j:=k) (by omega);simp only[farBad,Bool.or_eq_true,Vr];omega
 have dm:=QjT (c:=⟨segV c l,g⟩) (by show¬511<((segV c l).length:Int);omega) fl q;have E:clkB ⟨segV c l,g⟩=true:=by
  unfold clkB;rw[q];have J:decide (511<((segV c l).length:Int))=false:=QG (by omega);have M:((g.length:Int) != (((segV c l).length+1:Nat):Int))=false:=by simp[fl]
  simp only[J,M,Bool.or_self,Xh,VA];rw[XW];constructor
  .refine Qpv.2 λi s=>?_;have d:i<(segV c l).length:=s;show(match(segV c l)[i]? with|some x=> !segBad _ i x|none=>true)=true;rw[XK d];have z:=QiB (c:=c) (Vd d);have pl:=z.pl;unfold okPl matB at pl;simp only[XW,Vr]at pl;have L:=H.mats;have an:=z.an;unfold isT at an;have T:timeB ((segV c l)[i]).Anchor=true:=by
    unfold timeB inR;rw[QO an.1,QO an.2];rfl
   have R:prevSeg ⟨segV c l,g⟩ i (segV c l)[i]=false:=by
    unfold prevSeg;by_cases h0:0<i
    .show(_&& !(match(segV c l)[i-1]? with|some y=>segLt y _|none=>true))=false;rw[XK (show i-1<(segV c l).length by omega)];simp only;rw[Qls (VE.1 (Qos c l) (i-1) i (by omega) d (by omega))];simp
    .rw[QG (show¬(0<(i:Int))by omega)];rfl
   simp only[segBad,T,R,Xg,Bool.or_false,Bool.not_eq_true',XX,decide_eq_false_iff_not];have ep:=z.ep;exact⟨by omega,by omega,by omega,by omega⟩
  .refine Qpv.2 λi s=>Qpv.2 λj Q=>Qpv.2 λk B=>?_;have get:∀{a b:Nat},a<(segV c l).length+1->b<(segV c l).length+1->farG ⟨segV c l,g⟩ a b=D a b:=λ{a b} ha hb=>by
    obtain⟨r,G,_,u⟩:=f.row a ha;unfold farG;simp only[G,Option.getD_some,u b hb]
   have d:i<(segV c l).length+1:=s;have m:j<(segV c l).length+1:=Q;have p:k<(segV c l).length+1:=B;rw[get d m,get m p,get d p];have t:=F.tri d m p;have Y:=F.le i j d m;have W:=F.le j k m p;have a3:=F.ge d m;have a4:=F.ge m p;rw[Qo (by omega) (by omega),QG (by omega)];rfl
 have:=Qpe _ w;rw[E]at this;exact this
end Go.Sw
