/- The plain laws that a law needs, with no program in sight. -/
import Derived.Test.YtgjcbknjiemdgaaGreatDoorW16Mo
set_option linter.unusedVariables false
set_option linter.unusedSimpArgs false
namespace Go.Sw
def inR(lo hi x:Int):Bool:=decide (lo<=x)&&decide (x<=hi)
theorem Qf3(lo hi:Int)(l:List Int)(a:l.length<=4611686018427387904):Ev (λn=>F_a n lo hi l) (l.all (inR lo hi)):=by
 have h:Ev (λn=>F_bx n l lo hi) (l.any λx=> !inR lo hi x):=by
  unfold F_bx F_fl;refine Ev.contains l _ (λn x=>F_at n x lo hi) a λx _=>?_;unfold F_at;refine Ea (v:= !inR lo hi x) ?_ (Qa _);refine(Eu λh=>Qa _).eq ?_;unfold inR;rw[XX];simp
 unfold F_a;refine Ea h ((Qa _).eq ?_);rw[List.not_any_eq_all_not];simp
def okN(c:Nat):Bool:=(decide (97<=c)&&decide (c<=122))||(decide (48<=c)&&decide (c<=57))||decide (c=95)
def okAN(c:Nat):Bool:=decide (97<=c)&&decide (c<=122)
def okC(c:UInt8):Bool:=okN c.toNat
def okA(c:UInt8):Bool:=okAN c.toNat
def kwL:List (List UInt8):=[[99,111,117,114,115,101],[109,97,116,115],[115,116,97,114,116],[112,97,115,115],[101,110,100],[108,101,103],[116,111],[100,105,115,116,97,110,99,101],[103,117,110],[99,104,105,112],[115,108,111,116],[108,97,112,115],[108,97,112],[99,117,116,111,102,102],[101,120,116,114,97],[119,97,118,101],[111,102,102,101,110,99,101],[111,117,116],[99,97,116,101,103,111,114,121],[112,114,105,122,101],[97,108,108],[116,105,101,115],[105,102],[101,108,115,101],[97,110,100],[111,114],[110,111,116],[111,108,100,101,114],[121,111,117,110,103,101,114],[98,105,98],[100,114,97,119],[102,105,101,108,100],[115,104,111,114,116],[102,97,117,108,116,115],[109,105,115,115,101,115],[115,116,114,97,121,115],[119,105,110,100,111,119],[114,101,115,105,100,117,97,108],[100,114,105,102,116],[112,114,111,116,101,115,116],[102,101,101],[100,101,97,100,108,105,110,101]]
theorem Qmt(c d:Bool):(bif c then some c else some d)=some (c||d):=by cases c<;>rfl
def kwsOf:List UInt8->List (List UInt8)
 |[]=>[]
 |b::l=>(bif b==32&& !(l.dropWhile λc=>c != 32).isEmpty then[l.takeWhile λc=>c != 32]else[])++kwsOf l
theorem QdL:∀(l s:List UInt8),(∀c∈s,c≠32)->(s++[32]).isPrefixOf l=((l.takeWhile λc=>c != 32)==s&& !(l.dropWhile λc=>c != 32).isEmpty)
 |[],s,h=>by cases s<;>simp
 |b::l,[],h=>by
  by_cases e:b=32
  .subst e;simp[List.isPrefixOf]
  .have e1:(b != 32)=true:=by simpa using e
   have f:(32==b)=false:=by simpa using λq=>e q.symm
   simp[List.isPrefixOf,List.takeWhile_cons,e1,f]
 |b::l,c::s,h=>by
  have j:=h c (by simp);have i:=QdL l s λd a=>h d (by simp[a]);by_cases e:b=32
  .subst e;have:(c==32)=false:=by simpa using j
   simp[List.isPrefixOf,this]
  .have e1:(b != 32)=true:=by simpa using e
   simp only[VJ,List.isPrefixOf,List.takeWhile_cons,List.dropWhile_cons,e1,if_true,i,List.cons_beq_cons];by_cases q:c=b
   .subst q;simp
   .have k:(c==b)=false:=by simpa using q
    have g:(b==c)=false:=by simpa using λz=>q z.symm
    simp[k,g]
theorem contains_cons(b:UInt8)(l t:List UInt8)(d:t≠[]):Lib.contains (b::l) t=(t.isPrefixOf (b::l)||Lib.contains l t):=by
 unfold Lib.contains;rw[show Lib.index (b::l) t=if t.isPrefixOf (b::l)then 0 else if Lib.index l t== -1 then-1 else Lib.index l t+1 from rfl];cases h:t.isPrefixOf (b::l)with
 |true=>simp
 |false=>
  have:=Lib.index_ge l t;by_cases q:Lib.index l t= -1
  .simp[q]
  .have a:(Lib.index l t== -1)=false:=by simpa using q
   simp only[a,Bool.false_or];rw[XX];simp;omega
theorem QbO(s:List UInt8)(h:∀c∈s,c≠32):∀l,Lib.contains l (32::(s++[32]))=(kwsOf l).contains s
 |[]=>by simp[Lib.contains,Lib.index,kwsOf]
 |b::l=>by
  rw[contains_cons b l _ (by simp),QbO s h l];simp only[kwsOf,List.isPrefixOf,QdL l s h];by_cases e:b=32
  .subst e;cases q: !(l.dropWhile λc=>c != 32).isEmpty with
   |true=>
    simp only[q,beq_self_eq_true,Vz,Bool.and_true,Vn,VJ,Vg,List.contains_cons];congr 1;rw[XX];simp only[Vx];exact⟨λh=>h.symm,λh=>h.symm⟩
   |false=>simp[q]
  .have e1:(b==32)=false:=by simpa using e
   have a:(32==b)=false:=by simpa using λq=>e q.symm
   simp[e1,a]
def wordsL:List UInt8:=[32,99,111,117,114,115,101,32,109,97,116,115,32,115,116,97,114,116,32,112,97,115,115,32,101,110,100,32,108,101,103,32,116,111,32,100,105,115,116,97,110,99,101,32,103,117,110,32,99,104,105,112,32,115,108,111,116,32,108,97,112,115,32,108,97,112,32,99,117,116,111,102,102,32,101,120,116,114,97,32,119,97,118,101,32,111,102,102,101,110,99,101,32,111,117,116,32,99,97,116,101,103,111,114,121,32,112,114,105,122,101,32,97,108,108,32,116,105,101,115,32,105,102,32,101,108,115,101,32,97,110,100,32,111,114,32,110,111,116,32,111,108,100,101,114,32,121,111,117,110,103,101,114,32,98,105,98,32,100,114,97,119,32,102,105,101,108,100,32,115,104,111,114,116,32,102,97,117,108,116,115,32,109,105,115,115,101,115,32,115,116,114,97,121,115,32,119,105,110,100,111,119,32,114,101,115,105,100,117,97,108,32,100,114,105,102,116,32,112,114,111,116,101,115,116,32,102,101,101,32,100,101,97,100,108,105,110,101,32]
theorem QoT:kwsOf wordsL=kwL:=by decide+kernel
def classTab:List Int:=(List.range 256).map λi=>if 97<=i/\i<=122\/65<=i/\i<=90 then 2 else if 48<=i/\i<=57 then 3 else if i∈[123,125,40,41,91,93,59,44,61,60,62]then 4 else if i∈[32,9,10,13]then 1 else 0
theorem QiS:Ev F_cu classTab:=by
 unfold F_cu;refine Ea (Qb6 (step:=F_fe 0) 40 (b:=(iter (F_fe 0) 40 (List.replicate 256 0,97)).getD []) (by decide+kernel)) ?_;refine Ea (Qb6 (step:=F_gg 0) 40 (b:=(iter (F_gg 0) 40 ((iter (F_fe 0) 40 (List.replicate 256 0,97)).getD [],48)).getD []) (by decide+kernel)) ?_;generalize hb:(iter (F_gg 0) 40 ((iter (F_fe 0) 40 (List.replicate 256 0,97)).getD [],48)).getD []=b2;refine Ea (Qb6 (step:=F_hi 0) 40 (b:=(iter (F_hi 0) 40 (b2,0)).getD []) (by subst hb;decide+kernel)) ?_;refine Ea (Qb6 (step:=F_hl 0) 40 (b:=classTab) (by subst hb;decide+kernel)) ?_;exact Ez (by decide+kernel)
theorem QkB:((List.range 256).all λi=> !okN i||decide (classTab[i]?=some (if okAN i then 2 else if i=95 then 0 else 3)))=true:=by decide+kernel
theorem Qmr{c:UInt8}(h:okC c=true):Qd8 256 classTab (c.toNat:Int)=some (if okA c then 2 else if c.toNat=95 then 0 else 3):=by
 have a:=Xs.1 QkB c.toNat (List.mem_range.2 c.toNat_lt);unfold okC at h;rw[h]at a;simp only[Xg,Bool.false_or,Vq]at a;unfold Qd8;rw[show Nat.beq classTab.length 256=true by decide+kernel,Vn,QJ a];rfl
def goodS(s:List UInt8):Bool:=decide (1<=s.length)&&decide (s.length<=24)&&(s.head?).any okA&&s.all okC
def isNameS(s:List UInt8):Bool:=goodS s&& !kwL.contains s
theorem Qkp(s:List UInt8)(h:goodS s=true):Ev (λn=>F_cb n s) true:=by
 unfold goodS at h;simp only[XW,Vq,Xs]at h;obtain⟨⟨⟨b,k⟩,f⟩,g⟩:=h;unfold F_cb;refine Ea QiS ?_;refine QaQ (v:=List.replicate 256 0) (by decide+kernel) ?_;refine QaQ (v:=classTab) (by decide+kernel) ?_;refine Ea (v:=Ctl.cont ()) (Ev.iter (λi=>(i:Int)) s.length rfl (λi e=>?_) ?_) ?_
 .have a:=Jl (x:=s[i]) (by omega) (XK e);have j:=g _ a.mem;unfold F_he;simp only[a.lt,Vn,a.ix,XJ,Qmr j,a.nx];cases i with
  |zero=>
   have:okA s[0]=true:=by
    cases s with
    |nil=>simp at b
    |cons c r=>simpa using f
   simp[this];exact Qa _
  |succ i=>
   by_cases q:okA s[i+1]=true
   .simp[q];exact Qa _
   .by_cases d:s[i+1].toNat=95
    .simp[q,d];exact Qa _
    .simp[q,d];exact Qa _
 .unfold F_he;simp only[Qdr,Vp];exact Qa _
 .refine Ez ?_;cases s with
  |nil=>simp at b
  |cons c r=>rfl
theorem Qkl{s:List UInt8}(h:goodS s=true):∀c∈s,c≠32:=by
 unfold goodS at h;simp only[XW,Xs]at h;rintro c a rfl;exact absurd (h.2 _ a) (by decide)
theorem QlS{s:List UInt8}(h:goodS s=true):s.length<=24:=by
 unfold goodS at h;simp only[XW,Vq]at h;exact h.1.1.2
theorem QiU(s:List UInt8)(h:goodS s=true):Ev (λn=>F_bh n s) (kwL.contains s):=by
 unfold F_bh;refine Ea (v:=kwL.contains s) ?_ (Qa _);refine Ea (Qkp s h) (Qj0 ?_);have a:=QlS h;refine QaQ (v:=[32]++s) (by unfold cat;rw[XS (by simp;omega)];rfl) ?_;refine QaQ (v:=[32]++s++[32]) (by unfold cat;rw[XS (by simp;omega)];rfl) ?_;refine QaQ (v:=kwL.contains s) ?_ (Qa _);show QeY wordsL ([32]++s++[32])=some (kwL.contains s);unfold QeY;rw[show Nat.blt wordsL.length 4294967281=true by decide+kernel,Vn];rw[show[32]++s++[32]=32::(s++[32])by simp,QbO s (Qkl h),QoT]
theorem ch_lt(c:UInt8)(k:Nat):decide ((c.toNat:Int)<(k:Int))=decide (c.toNat<k):=by
 rw[XX];simp
theorem badC(c:UInt8):(bif decide ((c.toNat:Int)<97)then(bif decide ((c.toNat:Int)<48)then some ((c.toNat:Int) != 95)else(bif decide (57<(c.toNat:Int))then some ((c.toNat:Int) != 95)else some false))else(bif decide (122<(c.toNat:Int))then(bif decide ((c.toNat:Int)<48)then some ((c.toNat:Int) != 95)else(bif decide (57<(c.toNat:Int))then some ((c.toNat:Int) != 95)else some false))else some false))=some (!okC c):=by
 unfold okC okN;generalize c.toNat=k;have e:((k:Int) != 95)= !decide (k=95):=by
  by_cases h:k=95
  .subst h;rfl
  .rw[Vw h];simp;omega
 rw[e];by_cases g:k<48
 .rw[QS (show(k:Int)<97 by omega),QS (show(k:Int)<48 by omega)];have a:¬97<=k:=by omega
  have f:¬48<=k:=by omega
  simp[a,f]
 .rw[QK (show¬(k:Int)<48 by omega)];by_cases b:k<=57
  .rw[QS (show(k:Int)<97 by omega),QK (show¬57<(k:Int)by omega)];have a:48<=k:=by omega
   simp[a,b]
  .rw[QS (show 57<(k:Int)by omega)];by_cases i:k<97
   .rw[QS (show(k:Int)<97 by omega)];have a:¬97<=k:=by omega
    simp[a,b]
   .rw[QK (show¬(k:Int)<97 by omega)];by_cases d:k<=122
    .rw[QK (show¬122<(k:Int)by omega)];have a:97<=k:=by omega
     simp[a,d]
    .rw[QS (show 122<(k:Int)by omega)];simp[b,d]
theorem Qkf(n:Nat)(s:List UInt8):(bif decide ((s.length:Int)<1)then some true else(bif decide (24<(s.length:Int))then some true else(idx s 0).bind λx10=>(bif decide ((x10.toNat:Int)<97)then some true else(idx s 0).bind λx12=>some (decide (122<(x12.toNat:Int))))))=some (!(decide (1<=s.length)&&decide (s.length<=24)&&(s.head?).any okA)):=by
 cases s with
 |nil=>rfl
 |cons c r=>
  rw[QK (show¬((c::r).length:Int)<1 by simp;omega),Vp];by_cases h:(c::r).length<=24
  .rw[QK (show¬24<((c::r).length:Int)by omega),Vp];have e:idx (c::r) 0=some c:=rfl;simp only[e,XJ];simp only[XZ]at h;have a:r.length<=23:=by omega
   simp only[List.head?_cons,Option.any_some,okA,okAN];rw[show(97:Int)=((97:Nat):Int)from rfl,ch_lt];by_cases b:c.toNat<97
   .have:¬97<=c.toNat:=by omega
    simp[b,this]
   .have d:97<=c.toNat:=by omega
    simp[b,d,a];by_cases q:c.toNat<=122
    .rw[QK (show¬122<(c.toNat:Int)by omega),QS q];rfl
    .rw[QS (show 122<(c.toNat:Int)by omega),QK q];rfl
  .rw[QS (show 24<((c::r).length:Int)by omega),Vn];simp only[XZ]at h;have a:¬r.length<=23:=by omega
   simp[a]
theorem Qf6(s:List UInt8)(g:s.length<=1048576):Ev (λn=>F_d n s) (isNameS s):=by
 unfold F_d;refine Ea (Ez (Qkf 0 s)) ?_;unfold isNameS;cases f:(decide (1<=s.length)&&decide (s.length<=24)&&(s.head?).any okA)with
 |false=>
  simp only[Xh,Vn];have:goodS s=false:=by unfold goodS;rw[f];rfl
  rw[this];exact Qa _
 |true=>
  simp only[Xg,Vp];have d:goodS s=s.all okC:=by unfold goodS;rw[f];rfl
  refine Ea (QbT s (λc=> !okC c) (λi=>(i:Int)) (Ctl.done false) (Ctl.cont ()) (by omega) rfl (λi x a b=>?_) (λi x a b=>?_) ?_) ?_
  .unfold F_go;simp only[a.lt,Vn,a.ix,XJ,badC,b,Vp,a.nx];exact Qa _
  .unfold F_go;simp only[a.lt,Vn,a.ix,XJ,badC,b];exact Qa _
  .unfold F_go;simp only[Qdr,Vp];exact Qa _
  .rw[d];have e:s.any (λc=> !okC c)= !s.all okC:=by rw[List.not_all_eq_any_not]
   rw[e];cases q:s.all okC with
   |true=>
    simp only[Xg,Vp,Vz];exact Ea (QiU s (d.trans q)) (Qa _)
   |false=>
    simp only[Xh,Vn,Bool.false_and];exact Qa _
def diffS:List (List UInt8)->List (List UInt8)->Bool
 |_,[]=>true
 |seen,x::r=>isNameS x&& !seen.contains x&&diffS (seen++[x]) r
theorem QiW(l:List (List UInt8))(i:Nat)(x:List UInt8)(h:At l i x):diffS (l.take i) (l.drop i)=(isNameS x&& !(l.take i).contains x&&diffS (l.take (i+1)) (l.drop (i+1))):=by
 rw[h.drop,h.take];rfl
theorem QbN{α:Type}(l:List α)(a:α->List UInt8)(g:Nat->α->Option Unit)(hg:∀n x,g n x=some ())(q:l.length<=1048576)(p:∀x∈l,(a x).length<=1048576):
  Ev (λn=>((iter (λs:(List (List UInt8×Bool))×Int=>bif decide (s.2<(l.length:Int))then(idx l s.2).bind λx35=>(g n x35).bind λr36=>((F_d n (a x35)).bind λr42=>(bif (!r42)then some true else(some (QN s.1 (a x35) false)).bind λv44=>some v44):Option Bool).bind λb40=>(bif b40 then some (.done (.done false))else(some (Yj s.1 (a x35) true)).bind λm46=>some (.cont (m46,IntKind.i64.wrap (s.2+1))))else some (.done (.cont ()))) n ([],0):Option (Ctl Unit Bool)).bind λb28=>
   match b28 with
   |.cont _=>some true
   |.done s=>some s:Option Bool)) (diffS [] (l.map a)):=by
 have e:l.length<=4611686018427387904:=by omega
 have f:(l.map a).length<=4611686018427387904:=by simpa using e
 have k:=Qhc (B:=Ctl Unit Bool) l (step:=λn s=>bif decide (s.2<(l.length:Int))then(idx l s.2).bind λx35=>(g n x35).bind λr36=>((F_d n (a x35)).bind λr42=>(bif (!r42)then some true else(some (QN s.1 (a x35) false)).bind λv44=>some v44):Option Bool).bind λb40=>(bif b40 then some (.done (.done false))else(some (Yj s.1 (a x35) true)).bind λm46=>some (.cont (m46,IntKind.i64.wrap (s.2+1))))else some (.done (.cont ())))
  (s0:=(([]:List (List UInt8×Bool)),(0:Int))) (λi=>(Yd a true (l.take i),(i:Int))) (λi=>bif diffS ((l.map a).take i) ((l.map a).drop i)then .cont ()else .done false) e rfl (λi x d=>?_) ?_
 .refine Ea k ?_;simp only[List.take_zero,List.drop_zero];cases diffS [] (l.map a)<;>exact Qa _
 .have j:At (l.map a) i (a x):=Jl f (by rw[Xo,d.get];rfl);simp only[QiW _ _ _ j];have b:Ev (λn=>((F_d n (a x)).bind λr42=>(bif (!r42)then some true else(some (QN (Yd a true (l.take i)) (a x) false)).bind λv44=>some v44):Option Bool)) (!(isNameS (a x)&& !((l.map a).take i).contains (a x))):=by
   refine Ea (Qf6 (a x) (p x d.mem)) ?_;cases isNameS (a x)with
   |false=>exact Qa _
   |true=>
    refine Yk ((Qa _).eq ?_);rw[QdN,List.map_take];by_cases h:a x∈(l.map a).take i
    .rw[Vs h];simp[h]
    .rw[Vr h];simp[h]
  cases m:(isNameS (a x)&& !((l.map a).take i).contains (a x))with
  |true=>
   rw[m]at b;refine .inl ⟨?_,by simp⟩;simp only[d.lt,Vn,d.ix,XJ,hg];refine Ea b ?_;simp only[Xg,Vp,XJ,d.nx];rw[d.take,QgF];exact Qa _
  |false=>
   rw[m]at b;refine .inr ?_;simp only[d.lt,Vn,d.ix,XJ,hg];refine Ea b ?_;simp only[Xh,Vn,Bool.false_and,Vp];exact Qa _
 .simp only[Qdr,Vp];rw[show(l.map a).drop l.length=[]by apply List.drop_eq_nil_of_le;simp];exact Qa _
theorem Qo7{α:Type}{l:List α}{x:α}(h:l.length<=140737488):app l [x]=some (l++[x]):=Qb1 l x (by omega)
theorem Qf7{α β:Type}(l:List α)(f:α->β)(j:l.length<=140737488):Ev (λn=>iter (λs:(List β)×Int=>bif decide (s.2<(l.length:Int))then(idx l s.2).bind λx15=>(app s.1 [f x15]).bind λl16=>some (Ctl.cont (l16,IntKind.i64.wrap (s.2+1)))else some (Ctl.done s.1)) n (([]:List β),(0:Int))) (l.map f):=by
 have e:∀l:List α,l.foldl (λ(a:List β) x=>a++[f x]) []=l.map f:=by
  intro l;have d:∀(l:List α) (a:List β),l.foldl (λ(a:List β) x=>a++[f x]) a=a++l.map f:=by
   intro l
   induction l with
   |nil=>intro a;simp
   |cons x l h=>intro a;rw[XD,h];simp
  simpa using d l []
 rw[<- e l];refine QaD l (λ(a:List β) x=>a++[f x]) [] (λa i=>(a,(i:Int))) (λa=>a) (by omega) rfl (λi x a g b=>?_) ?_
 .rw[e]at b;have:a.length<=140737488:=by rw[b];simp;omega
  simp only[g.lt,Vn,g.ix,XJ,Qo7 this,g.nx];exact Qa _
 .simp only[Qdr,Vp];exact Qa _
def namesS(c:Course):Bool:=isNameS c.Name&&(diffS [] (c.Mats.map (·.Name))&&(diffS [] (c.Distances.map (·.Name))&&(diffS [] (c.Waves.map (·.Name))&&(diffS [] (c.Offences.map (·.Name))&&diffS [] (c.Categories.map (·.Name))))))
structure CourseOk (c:Course):Prop where
 name:c.Name.length<=1048576
 mats:c.Mats.length<=1048576
 matsN:∀x∈c.Mats,x.Name.length<=1048576
 legs:c.Legs.length<=1048576
 dist:c.Distances.length<=1048576
 distN:∀x∈c.Distances,x.Name.length<=1048576
 cut:∀x∈c.Distances,x.Cutoffs.length<=1048576
 wave:c.Waves.length<=1048576
 waveN:∀x∈c.Waves,x.Name.length<=1048576
 off:c.Offences.length<=1048576
 offN:∀x∈c.Offences,x.Name.length<=1048576
 cat:c.Categories.length<=1048576
 catN:∀x∈c.Categories,x.Name.length<=1048576
 prize:c.Prizes.length<=1048576
theorem Ql9(c:Course)(w:CourseOk c):Ev (λn=>F_cx n c) (namesS c):=by
 unfold F_cx namesS;refine Ea (v:=_) ?_ (Qa _);refine Ea (Qf6 c.Name w.name) (Ei λ_=>?_);have a:Ev (λn=>F_ay n c.Mats) (diffS [] (c.Mats.map (·.Name))):=by unfold F_ay;exact QbN c.Mats (·.Name) F_fr (λ_ _=>rfl) w.mats w.matsN
 have f:Ev (λn=>F_cj n c.Distances) (diffS [] (c.Distances.map (·.Name))):=by unfold F_cj;exact QbN c.Distances (·.Name) F_ed (λ_ _=>rfl) w.dist w.distN
 have d:Ev (λn=>F_ct n c.Waves) (diffS [] (c.Waves.map (·.Name))):=by unfold F_ct;exact QbN c.Waves (·.Name) F_et (λ_ _=>rfl) w.wave w.waveN
 have e:Ev (λn=>F_ch n c.Offences) (diffS [] (c.Offences.map (·.Name))):=by unfold F_ch;exact QbN c.Offences (·.Name) F_fh (λ_ _=>rfl) w.off w.offN
 have b:Ev (λn=>F_ci n c.Categories) (diffS [] (c.Categories.map (·.Name))):=by unfold F_ci;exact QbN c.Categories (·.Name) F_dp (λ_ _=>rfl) w.cat w.catN
 refine Ea a (Ei λ_=>?_);refine Ea f (Ei λ_=>?_);refine Ea d (Ei λ_=>?_);refine Ea e (Ei λ_=>?_);exact Ea b (Qa _)
theorem Qcw{n:Nat}(h:n<=1048576):IntKind.i64.wrap ((n:Int)-1)=(n:Int)-1:=Qp (by omega) (by omega)
mutual
def szP:Part->Nat
 |⟨_,_,ps⟩=>1+szPs ps
def szPs:List Part->Nat
 |[]=>0
 |p::r=>szP p+szPs r
end
theorem Qad(p:Part):szP p=1+szPs p.Parts:=by cases p;rfl
theorem QaG{p:Part}:∀{l:List Part},p∈l->szP p<=szPs l
 |q::r,h=>by
  simp only[szPs];rcases X5.1 h with rfl|h
  .omega
  .have:=QaG h;omega
mutual
def partS(k:Int):Part->Bool
 |⟨m,laps,ps⟩=>bif laps==0 then inR 0 k m&&((ps.length:Int)==0)else inR 1 64 laps&&((m==0)&&(decide (0<(ps.length:Int))&&partsS k ps))
def partsS(k:Int):List Part->Bool
 |[]=>true
 |p::r=>partS k p&&partsS k r
end
theorem QeL(k:Int)(p:Part):partS k p=bif p.Laps==0 then inR 0 k p.Mat&&((p.Parts.length:Int)==0)else inR 1 64 p.Laps&&((p.Mat==0)&&(decide (0<(p.Parts.length:Int))&&partsS k p.Parts)):=by cases p;rfl
theorem Qdf(k:Int):∀l:List Part,partsS k l=l.all (partS k)
 |[]=>rfl
 |p::r=>by simp only[partsS,List.all_cons,Qdf k r]
theorem Y1{p:Part}(h:Part.wf p):p.Parts.length<=1048576/\ ∀x∈p.Parts,Part.wf x:=by
 cases p;simp only[Part.wf,QcZ]at h;exact h.2.2.1
theorem QB(lo hi x:Int):Ev (λn=>F_a n lo hi [x]) (inR lo hi x):=(Qf3 lo hi [x] (by simp)).eq (by simp)
theorem QaK(lo hi x y:Int):Ev (λn=>F_a n lo hi [x,y]) (inR lo hi x&&inR lo hi y):=(Qf3 lo hi [x,y] (by simp)).eq (by simp)
theorem Ql8(k:Int):∀(m:Nat) (l:List Part),szPs l<=m->l.length<=1048576->(∀x∈l,Part.wf x)->Ev (λn=>F_e n l k) (partsS k l):=by
 intro m
 induction m with
 |zero=>
  intro l d g a;cases l with
  |nil=>
   refine Y4 ?_;show Ev (λn=>B_e (F_e n) n [] k) _;unfold B_e F_bb F_db;exact Y5 [] (partS k) (λn x=>F_aw (F_e n) n x k) (by simp) (by simp)
  |cons p r=>
   exfalso;simp only[szPs,Qad]at d;omega
 |succ m f=>
  intro l d g a;refine Y4 ?_;show Ev (λn=>B_e (F_e n) n l k) _;unfold B_e F_bb F_db;rw[Qdf];refine Y5 l (partS k) (λn x=>F_aw (F_e n) n x k) (by omega) λp b=>?_;unfold F_aw;rw[QeL];have e:=QaG b;rw[Qad]at e;obtain⟨w1,w2⟩:=Y1 (a p b);refine QbU (λ_=>?_) (λ_=>?_)
  .exact Ea (Ea (QB _ _ _) (Ei λ_=>Qa _)) (Qa _)
  .exact Ea (Ea (QB _ _ _) (Ei λ_=>Ei λ_=>Ei λ_=>Ea (f p.Parts (by omega) w1 w2) (Qa _))) (Qa _)
def legS(k:Int)(l:Leg):Bool:=(inR 0 k l.From&&inR 0 k l.To)&&((inR 0 68719476736 l.Min&&inR 0 68719476736 l.Max)&&decide (l.Min<=l.Max))
def cutS(k:Int)(x:Cutoff):Bool:=inR 0 k x.Mat&&(decide (1<=x.Lap)&&inR 0 1099511627776 x.Limit)
def distS(k:Int)(d:Distance):Bool:=inR 1 3 d.Timing&&(inR (-1) k d.Extra&&(partsS k d.Route&&d.Cutoffs.all (cutS k)))
def offS(o:Offence):Bool:=bif o.Out then(o.Time==0)&&(o.Laps==0)else bif o.Laps != 0 then(o.Time==0)&&inR 1 64 o.Laps else inR 0 68719476736 o.Time
def catS(x:Category):Bool:=(inR 0 120 x.From&&inR 0 120 x.To)&&decide (x.From<=x.To)
def prizeS(c:Course)(p:Prize):Bool:=inR 0 ((c.Distances.length:Int)-1) p.Distance&&(inR (-1) ((c.Categories.length:Int)-1) p.Category&&(inR 1 4000 p.Rank&&inR 1 1125899906842624 p.Amount))
def lastS(c:Course):Bool:=(inR 0 16 c.Faults.Misses&&inR 0 16 c.Faults.Strays)&&((inR 0 4294967296 c.Faults.Window&&inR 0 4294967296 c.Faults.Residual)&&(inR 0 100000 c.Faults.Drift&&(inR 0 1125899906842624 c.Fee&&inR 0 1099511627776 c.Deadline)))
def legKey(l:Leg):Ue:={from_:=l.From,to_:=l.To}
def prizeKey(p:Prize):Ug:={distance:=p.Distance,category:=p.Category,rank:=p.Rank}
def numbersS(c:Course):Bool:=
 let k:=(c.Mats.length:Int)-1
 c.Mats.all (λm=>inR 1 3 m.Kind)&&(c.Legs.all (legS k)&&(decide ((c.Legs.map legKey).Nodup)&&(c.Distances.all (distS k)&&(c.Waves.all (λw=>inR 0 1099511627776 w.Gun)&&(c.Offences.all offS&&(c.Categories.all catS&&(c.Prizes.all (prizeS c)&&(decide ((c.Prizes.map prizeKey).Nodup)&&lastS c))))))))
structure PartsOk (c:Course):Prop where
 len:∀d∈c.Distances,d.Route.length<=1048576
 wf:∀d∈c.Distances,∀x∈d.Route,Part.wf x
theorem QgR(l:List Leg)(b:l.length<=1048576):Ev (λn=>F_dc n l) (decide ((l.map legKey).Nodup)):=by
 unfold F_dc;refine Ea (Qbv l legKey true (by omega) (λi x m a=>?_) (λm=>?_)) ((Qa _).eq ?_)
 .unfold F_gy F_dh;simp only[a.lt,Vn,a.ix,XJ,a.nx];exact Qa _
 .unfold F_gy;simp only[Qdr,Vp];exact Qa _
 .rw[XX];simp only[Vx,Vq];have:=Qcc legKey true l;rw[<- this.2];omega
theorem Qfb(l:List Prize)(b:l.length<=1048576):Ev (λn=>F_bk n l) (decide ((l.map prizeKey).Nodup)):=by
 unfold F_bk;refine Ea (Qbv l prizeKey true (by omega) (λi x m a=>?_) (λm=>?_)) ((Qa _).eq ?_)
 .unfold F_hb F_eg;simp only[a.lt,Vn,a.ix,XJ,a.nx];exact Qa _
 .unfold F_hb;simp only[Qdr,Vp];exact Qa _
 .rw[XX];simp only[Vx,Vq];have:=Qcc prizeKey true l;rw[<- this.2];omega
theorem QiO(c:Course)(w:CourseOk c)(q:PartsOk c):Ev (λn=>F_bs n c) (numbersS c):=by
 unfold F_bs numbersS;rw[Qcw w.mats];refine Ea (v:=_) ?_ (Qa _);have b:Ev (λn=>F_bz n c.Mats) (c.Mats.all λm=>inR 1 3 m.Kind):=by
  unfold F_bz F_dw F_dv;refine Y5 c.Mats _ (λn x=>F_bd n x) (by have:=w.mats;omega) λx a=>?_;unfold F_bd;exact Ea (QB _ _ _) (Qa _)
 have f:Ev (λn=>F_cr n c.Legs ((c.Mats.length:Int)-1)) (c.Legs.all (legS ((c.Mats.length:Int)-1))):=by
  unfold F_cr F_ek F_ds;refine Y5 c.Legs _ (λn x=>F_cm n x _) (by have:=w.legs;omega) λx a=>?_;unfold F_cm;exact Ea (Ea (QaK _ _ _ _) (Ei λ_=>Ea (QaK _ _ _ _) (Ei λ_=>Qa _))) (Qa _)
 have e:Ev (λn=>F_bp n c.Distances ((c.Mats.length:Int)-1)) (c.Distances.all (distS ((c.Mats.length:Int)-1))):=by
  unfold F_bp F_fz F_fa;refine Y5 c.Distances _ (λn x=>F_cn n x _) (by have:=w.dist;omega) λx a=>?_;unfold F_cn;have h:Ev (λn=>F_br n x.Cutoffs ((c.Mats.length:Int)-1)) (x.Cutoffs.all (cutS ((c.Mats.length:Int)-1))):=by
   unfold F_br F_eq F_dl;refine Y5 x.Cutoffs _ (λn x=>F_cs n x _) (by have:=w.cut x a;omega) λy k=>?_;unfold F_cs;exact Ea (Ea (QB _ _ _) (Ei λ_=>Ei λ_=>Ea (QB _ _ _) (Qa _))) (Qa _)
  exact Ea (Ea (QB _ _ _) (Ei λ_=>Ea (QB _ _ _) (Ei λ_=>Ea (Ql8 _ _ x.Route (XT _) (q.len x a) (q.wf x a)) (Ei λ_=>Ea h (Qa _))))) (Qa _)
 have d:Ev (λn=>F_az n c.Waves) (c.Waves.all λw=>inR 0 1099511627776 w.Gun):=by
  unfold F_az F_ea F_ee;refine Y5 c.Waves _ (λn x=>F_bl n x) (by have:=w.wave;omega) λx a=>?_;unfold F_bl;exact Ea (QB _ _ _) (Qa _)
 have j:Ev (λn=>F_by n c.Offences) (c.Offences.all offS):=by
  unfold F_by F_en F_eb;refine Y5 c.Offences _ (λn x=>F_bf n x) (by have:=w.off;omega) λx a=>?_;unfold F_bf offS;refine QbU (λ_=>Ea (Ei λ_=>Qa _) (Qa _)) λ_=>QbU (λ_=>Ea (Ei λ_=>Ea (QB _ _ _) (Qa _)) (Qa _)) λ_=>Ea (QB _ _ _) (Qa _)
 have g:Ev (λn=>F_bt n c.Categories) (c.Categories.all catS):=by
  unfold F_bt F_fk F_ez;refine Y5 c.Categories _ (λn x=>F_ba n x) (by have:=w.cat;omega) λx a=>?_;unfold F_ba;exact Ea (Ea (QaK _ _ _ _) (Ei λ_=>Qa _)) (Qa _)
 have i:Ev (λn=>F_cy n c.Prizes c) (c.Prizes.all (prizeS c)):=by
  unfold F_cy F_fn F_ec;refine Y5 c.Prizes _ (λn x=>F_bv n x c) (by have:=w.prize;omega) λx a=>?_;unfold F_bv;rw[Qcw w.dist,Qcw w.cat];exact Ea (Ea (QB _ _ _) (Ei λ_=>Ea (QB _ _ _) (Ei λ_=>Ea (QB _ _ _) (Ei λ_=>Ea (QB _ _ _) (Qa _))))) (Qa _)
 refine Ea b (Ei λ_=>Ea f (Ei λ_=>Ea (QgR _ w.legs) (Ei λ_=>Ea e (Ei λ_=>Ea d (Ei λ_=>Ea j (Ei λ_=>Ea g (Ei λ_=>Ea i (Ei λ_=>Ea (Qfb _ w.prize) (Ei λ_=>?_)))))))));exact Ea (QaK _ _ _ _) (Ei λ_=>Ea (QaK _ _ _ _) (Ei λ_=>Ea (QB _ _ _) (Ei λ_=>Ea (QB _ _ _) (Ei λ_=>Ea (QB _ _ _) (Qa _)))))
theorem ends_eq{a b a' d:Int}:(({from_:=a,to_:=b}:Ue)={from_:=a',to_:=d})↔a=a'/\b=d:=by simp
theorem Qk1{α B:Type}{step:Nat->Int->Option (Ctl Int B)}(l:List α)(ok:α->Bool)(a b:B)(j:l.length<=4611686018427387904)
  (g:∀i x,At l i x->Ev (λn=>step n (i:Int)) (bif ok x then .cont ((i+1:Nat):Int)else .done a))(k:Ev (λn=>step n (l.length:Int)) (.done b)):
  Ev (λn=>Go.Sw.iter (step n) n 0) (bif l.all ok then b else a):=by
 have e:(bif l.all ok then b else a)=bif l.any (λx=> !ok x)then a else b:=by
  rw[<- List.not_all_eq_any_not];cases l.all ok<;>rfl
 rw[e];refine QbT l (λx=> !ok x) (λi=>(i:Int)) a b j rfl (λi x d f=>?_) (λi x d f=>?_) k
 .have h:ok x=true:=by simpa using f
  have:=g i x d
  rwa [h]at this
 .have h:ok x=false:=by simpa using f
  have:=g i x d
  rwa [h]at this
mutual
def cN:Cond->Nat
 |⟨_,_,_,ps⟩=>1+cNs ps
def cNs:List Cond->Nat
 |[]=>0
 |c::r=>cN c+cNs r
end
theorem QcP(c:Cond):cN c=1+cNs c.Parts:=by cases c;rfl
mutual
def cD:Nat->Cond->Bool
 |d,⟨_,_,_,ps⟩=>cDs d ps
def cDs:Nat->List Cond->Bool
 |_,[]=>true
 |d,c::r=>decide (d<=16)&&(cD (d+1) c&&cDs d r)
end
theorem Qms(d:Nat)(c:Cond):cD d c=cDs d c.Parts:=by cases c;rfl
def zeroC(c:Cond):Bool:=(c.Kind==0)&&((c.Var==0)&&((c.N==0)&&((c.Parts.length:Int)==0)))
mutual
def sNp:Step->Nat
 |⟨_,_,_,t,e⟩=>1+sNs t+sNs e
def sNs:List Step->Nat
 |[]=>0
 |s::r=>sNp s+sNs r
end
theorem QfR(s:Step):sNp s=1+sNs s.Then+sNs s.Else:=by cases s;rfl
mutual
def sC:Step->Nat
 |⟨_,_,c,t,e⟩=>(bif zeroC c then 0 else cN c)+sCs t+sCs e
def sCs:List Step->Nat
 |[]=>0
 |s::r=>sC s+sCs r
end
theorem QfS(s:Step):sC s=(bif zeroC s.Cond then 0 else cN s.Cond)+sCs s.Then+sCs s.Else:=by cases s;rfl
mutual
def sDp:Nat->Step->Bool
 |d,⟨_,_,c,t,e⟩=>(zeroC c||cD 1 c)&&(sDs d t&&sDs d e)
def sDs:Nat->List Step->Bool
 |_,[]=>true
 |d,s::r=>decide (d<=16)&&(sDp (d+1) s&&sDs d r)
end
theorem Qjn(d:Nat)(s:Step):sDp d s=((zeroC s.Cond||cD 1 s.Cond)&&(sDs d s.Then&&sDs d s.Else)):=by cases s;rfl
mutual
def sZ:Step->Nat
 |⟨_,_,c,t,e⟩=>2+cN c+sZs t+sZs e
def sZs:List Step->Nat
 |[]=>0
 |s::r=>sZ s+sZs r
end
theorem Qhn(s:Step):sZ s=2+cN s.Cond+sZs s.Then+sZs s.Else:=by cases s;rfl
def fS:Uf->Nat
 |.ctyping_step x=>sNp x.Step
 |.ctyping_cond _=>0
def fC:Uf->Nat
 |.ctyping_step x=>sC x.Step
 |.ctyping_cond x=>cN x.Cond
def fD(d:Nat):Uf->Bool
 |.ctyping_step x=>sDp d x.Step
 |.ctyping_cond x=>cD d x.Cond
def fZ:Uf->Nat
 |.ctyping_step x=>sZ x.Step
 |.ctyping_cond x=>cN x.Cond
def fSs(l:List Uf):Nat:=(l.map fS).sum
def fCs(l:List Uf):Nat:=(l.map fC).sum
def fZs(l:List Uf):Nat:=(l.map fZ).sum
def fwf:Uf->Prop
 |.ctyping_step x=>Step.wf x.Step
 |.ctyping_cond x=>Cond.wf x.Cond
def ofStep(s:Step):Uf:=.ctyping_step {Step:=s}
def ofCond(c:Cond):Uf:=.ctyping_cond {Cond:=c}
theorem Qa9:∀l:List Step,fSs (l.map ofStep)=sNs l
 |[]=>rfl
 |s::r=>by
  have:=Qa9 r;simp only[fSs,Vi,List.sum_cons]at this⊢;rw[this];rfl
theorem Qba:∀l:List Step,fCs (l.map ofStep)=sCs l
 |[]=>rfl
 |s::r=>by
  have:=Qba r;simp only[fCs,Vi,List.sum_cons]at this⊢;rw[this];rfl
theorem QbM:∀l:List Step,fZs (l.map ofStep)=sZs l
 |[]=>rfl
 |s::r=>by
  have:=QbM r;simp only[fZs,Vi,List.sum_cons]at this⊢;rw[this];rfl
theorem Qe7:∀l:List Cond,fSs (l.map ofCond)=0
 |[]=>rfl
 |s::r=>by
  have:=Qe7 r;simp only[fSs,Vi,List.sum_cons]at this⊢;rw[this];rfl
theorem Qe9:∀l:List Cond,fCs (l.map ofCond)=cNs l
 |[]=>rfl
 |s::r=>by
  have:=Qe9 r;simp only[fCs,Vi,List.sum_cons]at this⊢;rw[this];rfl
theorem Qe5:∀l:List Cond,fZs (l.map ofCond)=cNs l
 |[]=>rfl
 |s::r=>by
  have:=Qe5 r;simp only[fZs,Vi,List.sum_cons]at this⊢;rw[this];rfl
theorem QcI(d:Nat):∀l:List Step,sDs d l=((l.map ofStep).isEmpty||(decide (d<=16)&&(l.map ofStep).all (fD (d+1))))
 |[]=>rfl
 |s::r=>by
  rw[sDs,QcI d r];simp only[Vi,List.isEmpty_cons,Bool.false_or,List.all_cons];rw[show fD (d+1) (ofStep s)=sDp (d+1) s from rfl];cases r with
  |nil=>simp
  |cons x r=>
   simp only[Vi,List.isEmpty_cons,Bool.false_or,List.all_cons];cases decide (d<=16)<;>simp
theorem QhO(d:Nat):∀l:List Cond,cDs d l=((l.map ofCond).isEmpty||(decide (d<=16)&&(l.map ofCond).all (fD (d+1))))
 |[]=>rfl
 |s::r=>by
  rw[cDs,QhO d r];simp only[Vi,List.isEmpty_cons,Bool.false_or,List.all_cons];rw[show fD (d+1) (ofCond s)=cD (d+1) s from rfl];cases r with
  |nil=>simp
  |cons x r=>
   simp only[Vi,List.isEmpty_cons,Bool.false_or,List.all_cons];cases decide (d<=16)<;>simp
theorem Qaj{c:Cond}(h:Cond.wf c):c.Parts.length<=1048576/\ ∀x∈c.Parts,Cond.wf x:=by
 cases c;simp only[Cond.wf,Qc3]at h;exact h.2.2.2.1
theorem Qai{s:Step}(h:Step.wf s):Cond.wf s.Cond/\(s.Then.length<=1048576/\ ∀x∈s.Then,Step.wf x)/\(s.Else.length<=1048576/\ ∀x∈s.Else,Step.wf x):=by
 cases s;simp only[Step.wf,QcV]at h;exact⟨h.2.2.1,h.2.2.2.1,h.2.2.2.2.1⟩
theorem Qf5(n:Nat)(c:Cond):F_ac n {Cond:=c}=some (zeroC c):=by
 unfold F_ac zeroC;cases(c.Kind==0)<;>cases(c.Var==0)<;>cases(c.N==0)<;>rfl
theorem QiN(n:Nat)(c:Cond):F_co n c=some (zeroC c):=by
 unfold F_co zeroC;cases(c.Kind==0)<;>cases(c.Var==0)<;>cases(c.N==0)<;>rfl
theorem Qfa(l:List Step)(a:l.length<=140737488):Ev (λn=>F_ad n l) (l.map ofStep):=by
 unfold F_ad;exact Ea (Qf7 l ofStep a) (Qa _)
theorem Qmd(l:List Cond)(a:l.length<=140737488):Ev (λn=>F_bn n l) (l.map ofCond):=by
 unfold F_bn;exact Ea (Qf7 l ofCond a) (Qa _)
def stepParts(s:Step):List Uf:=s.Then.map ofStep++s.Else.map ofStep
theorem Qbo(s:Step)(h:Step.wf s):Ev (λn=>F_v n {Step:=s}) (stepParts s):=by
 obtain⟨_,⟨a,_⟩,⟨b,_⟩⟩:=Qai h;unfold F_v stepParts;refine Ea (Qfa s.Then (by omega)) (Ea (Qfa s.Else (by omega)) (QaQ (Qia _ _ (by simp;omega)) (Qa _)))
theorem QcK(c:Cond)(h:Cond.wf c):Ev (λn=>F_t n {Cond:=c}) (c.Parts.map ofCond):=by
 obtain⟨a,_⟩:=Qaj h;unfold F_t;exact Ea (Qmd c.Parts (by omega)) (Qa _)
def okL(l:List Uf)(d:Nat)(st co:Int):Bool:=l.isEmpty||(decide (d<=16)&&(l.all (fD (d+1))&&(decide (st+fSs l<=64)&&decide (co+fCs l<=256))))
def okR(l:List Uf)(d:Nat)(st co:Int):Bool:=l.isEmpty||(l.all (fD (d+1))&&(decide (st+fSs l<=64)&&decide (co+fCs l<=256)))
def okF(f:Uf)(d:Nat)(st co:Int):Bool:=fD (d+1) f&&(decide (st+fS f<=64)&&decide (co+fC f<=256))
theorem QhN(f:Uf)(l:List Uf):fSs (f::l)=fS f+fSs l:=rfl
theorem QhP(f:Uf)(l:List Uf):fCs (f::l)=fC f+fCs l:=rfl
theorem QhM(f:Uf)(l:List Uf):fZs (f::l)=fZ f+fZs l:=rfl
theorem Qe6(l m:List Uf):fSs (l++m)=fSs l+fSs m:=by simp[fSs]
theorem Qe8(l m:List Uf):fCs (l++m)=fCs l+fCs m:=by simp[fCs]
theorem Qe4(l m:List Uf):fZs (l++m)=fZs l+fZs m:=by simp[fZs]
theorem QlE(f:Uf)(r:List Uf)(d:Nat)(h b:Int):okR (f::r) d h b=(okF f d h b&&okR r d (h+fS f) (b+fC f)):=by
 unfold okR okF;rw[QhN,QhP];cases r with
 |nil=>simp[fSs,fCs]
 |cons g r=>
  rw[XX];simp only[List.isEmpty_cons,Bool.false_or,List.all_cons,XW,Vq];rw[show((fS f+fSs (g::r):Nat):Int)=(fS f:Int)+(fSs (g::r):Int)by omega,show((fC f+fCs (g::r):Nat):Int)=(fC f:Int)+(fCs (g::r):Int)by omega];constructor
  .rintro⟨⟨a,e⟩,i,j⟩;exact⟨⟨a,by omega,by omega⟩,e,by omega,by omega⟩
  .rintro⟨⟨a,_,_⟩,e,i,j⟩;exact⟨⟨a,e⟩,by omega,by omega⟩
theorem QgB(l:List Uf)(d:Nat)(h g:Int)(i:h<=64)(j:g<=256):okL l d h g=true↔(l.isEmpty||(decide (d<=16)&&l.all (fD (d+1))))=true/\h+fSs l<=64/\g+fCs l<=256:=by
 unfold okL;cases l with
 |nil=>simp[fSs,fCs,i,j]
 |cons f r=>
  simp only[List.isEmpty_cons,Bool.false_or,XW,Vq];constructor
  .rintro⟨a,b,c,e⟩;exact⟨⟨a,b⟩,c,e⟩
  .rintro⟨⟨a,b⟩,c,e⟩;exact⟨a,b,c,e⟩
theorem Qew(s:Step)(d:Nat):((stepParts s).isEmpty||(decide (d<=16)&&(stepParts s).all (fD (d+1))))=(sDs d s.Then&&sDs d s.Else):=by
 rw[QcI,QcI];unfold stepParts;rw[List.all_append];cases a:s.Then<;>cases b:s.Else<;>simp<;>(cases decide (d<=16)<;>simp)
def Cnt(R:Nat->List Uf->Int->Ud->Option (Ud×Bool))(l:List Uf)(d:Nat)(st co:Int):Prop:=
 ∃c':Ud,Ev (λn=>R n l (d:Int) {steps:=st,conds:=co}) (c',okL l d st co)/\(okL l d st co=true->c'={steps:=st+fSs l,conds:=co+fCs l})
theorem QiX{R:Nat->List Uf->Int->Ud->Option (Ud×Bool)}{l:List Uf}{d:Nat}(hd:d<=16){i:Nat}{f:Uf}(L:At l i f)(hw:fwf f)
  (Y:∀l' d' a e,fZs l'<fZ f->l'.length<=2097152->(∀f∈l',fwf f)->d'<=17->0<=a->a<=66->(a<=65\/ ∀f∈l',∃c,f=ofCond c)->0<=e->e<=256->Cnt R l' d' a e){a e:Int}(h0:0<=a)(ad:a<=66)(u:a<=65\/ ∃c,f=ofCond c)(h2:0<=e)(h3:e<=256):
  ∃c':Ud,Ev (λn=>F_dj n l (d:Int) (R n) ({steps:=a,conds:=e},(i:Int))) (bif okF f d a e then .cont (c',((i+1:Nat):Int))else .done (.done (c',false)))/\(okF f d a e=true->c'={steps:=a+fS f,conds:=e+fC f}):=by
 unfold F_dj;simp only[L.lt,Vn,L.ix,XJ,L.nx];have ed:IntKind.i64.wrap ((d:Int)+1)=((d+1:Nat):Int):=QO (by omega);cases f with
 |ctyping_step x=>
  obtain⟨s⟩:=x;have h1:a<=65:=by
   rcases u with h|⟨c,h⟩
   .exact h
   .cases h
  have k:Step.wf s:=hw;obtain⟨wc,⟨ab,Q⟩,⟨ae,N⟩⟩:=Qai k;have X:IntKind.i64.wrap (a+1)=a+1:=Qp (by omega) (by omega);simp only[Uf.elim,Qf5,XJ,X];have hc:∃t:Ud,Ev (λn=>((bif (!zeroC s.Cond)then(R n [Uf.ctyping_cond {Cond:=s.Cond}] 0 {steps:=a+1,conds:=e}).bind λp=>some (p.1,(!p.2))else some ({steps:=a+1,conds:=e},false)):Option (Ud×Bool))) (t, !(zeroC s.Cond||(cD 1 s.Cond&&(decide (a+1<=64)&&decide (e+cN s.Cond<=256)))))/\
    ((zeroC s.Cond||(cD 1 s.Cond&&(decide (a+1<=64)&&decide (e+cN s.Cond<=256))))=true->t={steps:=a+1,conds:=e+((bif zeroC s.Cond then 0 else cN s.Cond:Nat):Int)}):=by
   cases F:zeroC s.Cond with
   |true=>
    refine⟨{steps:=a+1,conds:=e},?_,λ_=>?_⟩
    .exact Qa _
    .simp
   |false=>
    obtain⟨t,m,G⟩:=Y [ofCond s.Cond] 0 (a+1) e (by simp only[fZs,Vi,Vj,List.sum_cons,List.sum_nil];show cN s.Cond+0<sZ s;rw[Qhn];omega) (by simp) (by intro g j;simp only[VA]at j;subst j;exact wc) (by omega) (by omega) (by omega) (.inr (by intro g j;simp only[VA]at j;exact⟨_,j⟩)) h2 h3;have ek:okL [ofCond s.Cond] 0 (a+1) e=(cD 1 s.Cond&&(decide (a+1<=64)&&decide (e+cN s.Cond<=256))):=by
     unfold okL;simp only[List.isEmpty_cons,Bool.false_or,List.all_cons,List.all_nil,Bool.and_true,fSs,fCs,Vi,Vj,List.sum_cons,List.sum_nil];rw[show fD (0+1) (ofCond s.Cond)=cD 1 s.Cond from rfl,show fS (ofCond s.Cond)=0 from rfl,show fC (ofCond s.Cond)=cN s.Cond from rfl];simp
    rw[ek]at m G;refine⟨t,Ea m (Qa _),λh=>?_⟩;rw[G h];simp[fSs,fCs,show fS (ofCond s.Cond)=0 from rfl,show fC (ofCond s.Cond)=cN s.Cond from rfl]
  obtain⟨t,m,G⟩:=hc;generalize hb:(zeroC s.Cond||(cD 1 s.Cond&&(decide (a+1<=64)&&decide (e+cN s.Cond<=256))))=b at m G;have O:okF (Uf.ctyping_step {Step:=s}) d a e=(sDp (d+1) s&&(decide (a+sNp s<=64)&&decide (e+sC s<=256))):=rfl;rw[O];cases b with
  |false=>
   have:(sDp (d+1) s&&(decide (a+sNp s<=64)&&decide (e+sC s<=256)))=false:=by
    rw[VL];intro hh;simp only[XW,Vq,Qjn,QfR,QfS]at hh;obtain⟨⟨W,_⟩,z2,z3⟩:=hh;cases F:zeroC s.Cond with
    |true=>rw[F]at hb;cases hb
    |false=>
     rw[F]at hb W z3;simp only[Bool.false_or]at hb W;rw[W]at hb;simp only[Vp]at z3;rw[QS (show a+1<=64 by omega),QS (show e+(cN s.Cond:Int)<=256 by omega)]at hb;cases hb
   rw[this];exact⟨t,Ea m (Qa _),λh=>by cases h⟩
  |true=>
   obtain rfl:=G rfl;by_cases r:64<a+1
   .have:(sDp (d+1) s&&(decide (a+sNp s<=64)&&decide (e+sC s<=256)))=false:=by
     rw[QK (show¬a+(sNp s:Int)<=64 by rw[QfR];omega)];simp
    rw[this];refine⟨{steps:=a+1,conds:=e+((bif zeroC s.Cond then 0 else cN s.Cond:Nat):Int)},Ea m ?_,λh=>by cases h⟩;simp only[Xg,Vp];refine Ea (v:=(_,true)) ?_ (Qa _);rw[QS r];exact Qa _
   by_cases z:256<e+((bif zeroC s.Cond then 0 else cN s.Cond:Nat):Int)
   .have:(sDp (d+1) s&&(decide (a+sNp s<=64)&&decide (e+sC s<=256)))=false:=by
     rw[QK (show¬e+(sC s:Int)<=256 by rw[QfS];omega)];simp
    rw[this];refine⟨{steps:=a+1,conds:=e+((bif zeroC s.Cond then 0 else cN s.Cond:Nat):Int)},Ea m ?_,λh=>by cases h⟩;simp only[Xg,Vp];refine Ea (v:=(_,true)) ?_ (Qa _);rw[QK r,QS z];exact Qa _
   obtain⟨B,H,w⟩:=Y (stepParts s) (d+1) (a+1) (e+((bif zeroC s.Cond then 0 else cN s.Cond:Nat):Int)) (by
     unfold stepParts;rw[Qe4,QbM,QbM];show _<sZ s;rw[Qhn];omega) (by unfold stepParts;simp;omega) (by
     intro g j;unfold stepParts at j;rcases VC.1 j with j|j
     .obtain⟨y,E,rfl⟩:=Xe.1 j;exact Q y E
     .obtain⟨y,E,rfl⟩:=Xe.1 j;exact N y E) (by omega) (by omega) (by omega) (.inl (by omega)) (by omega) (by omega)
   have P:okL (stepParts s) (d+1) (a+1) (e+((bif zeroC s.Cond then 0 else cN s.Cond:Nat):Int))=(sDp (d+1) s&&(decide (a+sNp s<=64)&&decide (e+sC s<=256))):=by
    rw[XX,QgB _ _ _ _ (by omega) (by omega),Qew];simp only[XW,Vq,Qjn,QfR,QfS];have V:fSs (stepParts s)=sNs s.Then+sNs s.Else:=by unfold stepParts;rw[Qe6,Qa9,Qa9]
    have e3:fCs (stepParts s)=sCs s.Then+sCs s.Else:=by unfold stepParts;rw[Qe8,Qba,Qba]
    rw[V,e3];have aa:(zeroC s.Cond||cD 1 s.Cond)=true:=by
     cases F:zeroC s.Cond with
     |true=>rfl
     |false=>
      rw[F]at hb;simp only[Bool.false_or,XW]at hb;rw[hb.1];rfl
    constructor
    .rintro⟨q,T,M⟩;exact⟨⟨aa,q⟩,by omega,by omega⟩
    .rintro⟨⟨_,q⟩,T,M⟩;exact⟨q,by omega,by omega⟩
   rw[P]at H w;refine⟨B,Ea m ?_,λh=>?_⟩
   .simp only[Xg,Vp];refine Ea (v:=(B, !(sDp (d+1) s&&(decide (a+sNp s<=64)&&decide (e+sC s<=256))))) ?_ ?_
    .rw[QK r,QK z,ed];exact Ea (Qbo s k) (Ea H (Qa _))
    .cases(sDp (d+1) s&&(decide (a+sNp s<=64)&&decide (e+sC s<=256)))<;>exact Qa _
   .rw[w h];have V:fSs (stepParts s)=sNs s.Then+sNs s.Else:=by unfold stepParts;rw[Qe6,Qa9,Qa9]
    have e3:fCs (stepParts s)=sCs s.Then+sCs s.Else:=by unfold stepParts;rw[Qe8,Qba,Qba]
    rw[V,e3,show fS (Uf.ctyping_step {Step:=s})=sNp s from rfl,show fC (Uf.ctyping_step {Step:=s})=sC s from rfl,QfR,QfS];congr 1<;>omega
 |ctyping_cond x=>
  obtain⟨c⟩:=x;have k:Cond.wf c:=hw;obtain⟨ac,J⟩:=Qaj k;have X:IntKind.i64.wrap (e+1)=e+1:=Qp (by omega) (by omega);simp only[Uf.elim,X];have O:okF (Uf.ctyping_cond {Cond:=c}) d a e=(cD (d+1) c&&(decide (a<=64)&&decide (e+cN c<=256))):=by
   show(cD (d+1) c&&(decide (a+((0:Nat):Int)<=64)&&decide (e+cN c<=256)))=_;rw[show a+((0:Nat):Int)=a by omega]
  rw[O];by_cases r:64<a
  .have:(cD (d+1) c&&(decide (a<=64)&&decide (e+cN c<=256)))=false:=by
    rw[QK (show¬a<=64 by omega)];simp
   rw[this];refine⟨{steps:=a,conds:=e+1},?_,λh=>by cases h⟩;refine Ea (v:=(_,true)) ?_ (Qa _);rw[QS r];exact Qa _
  by_cases z:256<e+1
  .have:(cD (d+1) c&&(decide (a<=64)&&decide (e+cN c<=256)))=false:=by
    rw[QK (show¬e+(cN c:Int)<=256 by rw[QcP];omega)];simp
   rw[this];refine⟨{steps:=a,conds:=e+1},?_,λh=>by cases h⟩;refine Ea (v:=(_,true)) ?_ (Qa _);rw[QK r,QS z];exact Qa _
  obtain⟨B,H,w⟩:=Y (c.Parts.map ofCond) (d+1) a (e+1) (by
    rw[Qe5];show _<cN c;rw[QcP];omega) (by simp;omega) (by
    intro g j;obtain⟨y,E,rfl⟩:=Xe.1 j;exact J y E) (by omega) (by omega) (by omega) (.inl (by omega)) (by omega) (by omega)
  have P:okL (c.Parts.map ofCond) (d+1) a (e+1)=(cD (d+1) c&&(decide (a<=64)&&decide (e+cN c<=256))):=by
   rw[XX,QgB _ _ _ _ (by omega) (by omega), <- QhO,Qe7,Qe9];simp only[XW,Vq,Qms,QcP];constructor
   .rintro⟨q,T,M⟩;exact⟨q,by omega,by omega⟩
   .rintro⟨q,T,M⟩;exact⟨q,by omega,by omega⟩
  rw[P]at H w;refine⟨B,?_,λh=>?_⟩
  .refine Ea (v:=(B, !(cD (d+1) c&&(decide (a<=64)&&decide (e+cN c<=256))))) ?_ ?_
   .rw[QK r,QK z,ed];exact Ea (QcK c k) (Ea H (Qa _))
   .cases(cD (d+1) c&&(decide (a<=64)&&decide (e+cN c<=256)))<;>exact Qa _
  .rw[w h,Qe7,Qe9,show fS (Uf.ctyping_cond {Cond:=c})=0 from rfl,show fC (Uf.ctyping_cond {Cond:=c})=cN c from rfl,QcP];congr 1;omega
theorem Qmc:∀(m:Nat) (l:List Uf) (d:Nat) (a b:Int),fZs l<=m->l.length<=2097152->(∀f∈l,fwf f)->d<=17->0<=a->a<=66->(a<=65\/ ∀f∈l,∃c,f=ofCond c)->0<=b->b<=256->Cnt F_c l d a b:=by
 intro m
 induction m using Nat.strongRecOn with
 |_ m H=>
 intro l d a b hm hl Y hd h0 X B h2 h3;unfold Cnt;have z:∀c:Ud,(∃e:Ud,Ev (λn=>B_c (F_c n) n l (d:Int) c) (e,okL l d a b)/\(okL l d a b=true->e={steps:=a+fSs l,conds:=b+fCs l}))->∃e:Ud,Ev (λn=>F_c n l (d:Int) c) (e,okL l d a b)/\(okL l d a b=true->e={steps:=a+fSs l,conds:=b+fCs l}):=by
  rintro c ⟨e,W,q2⟩;exact⟨e,Y4 W,q2⟩
 refine z _ ?_;unfold B_c;cases g:l with
 |nil=>
  refine⟨{steps:=a,conds:=b},?_,λ_=>by simp[fSs,fCs]⟩;refine Ea (v:=false) (Qa _) (Yk ?_);refine Ea (v:=Ctl.cont {steps:=a,conds:=b}) (EvI.ev (Ej ?_)) (Qa _);exact Qa _
 |cons f0 r0=>
 rw[<- g];have y:l.isEmpty=false:=by rw[g];rfl
 have M:0<l.length:=by rw[g];simp
 by_cases j:d<=16
 rotate_left
 .have:okL l d a b=false:=by unfold okL;rw[y,QK j];rfl
  rw[this];refine⟨{steps:=a,conds:=b},?_,λh=>by cases h⟩;rw[QS (show(0:Int)<(l.length:Int)by omega),QS (show(16:Int)<(d:Int)by omega)];exact Ea (Qa _) (Qa _)
 have F:okL l d a b=okR l d a b:=by unfold okL okR;rw[QS j,Vz]
 rw[F];have loop:∀(r:List Uf) (i:Nat) (a b:Int),l.drop i=r->i<=l.length->0<=a->a<=66->(a<=65\/ ∀f∈l,∃c,f=ofCond c)->0<=b->b<=256->
   ∃e:Ud,EvI (λn=>F_dj n l (d:Int) (F_c n)) ({steps:=a,conds:=b},(i:Int)) (bif okR r d a b then Ctl.cont e else Ctl.done (e,false))/\(okR r d a b=true->e={steps:=a+fSs r,conds:=b+fCs r}):=by
  intro r
  induction r with
  |nil=>
   intro i a b t J _ _ _ _ _;refine⟨{steps:=a,conds:=b},Ej ?_,λ_=>by simp[fSs,fCs]⟩;unfold F_dj;simp only[Yo t J,Vp];exact Qa _
  |cons f r G=>
   intro i a b t J g0 g1 w O g3;obtain⟨q,u⟩:=QG (by omega) t;have aa:fZ f<=fZs l:=by
    have:∀(l:List Uf),f∈l->fZ f<=fZs l:=by
     intro l
     induction l with
     |nil=>intro h;cases h
     |cons x l H=>
      intro h;rw[QhM];rcases X5.1 h with rfl|h
      .omega
      .have:=H h;omega
    exact this l q.mem
   obtain⟨e,p,s⟩:=QiX (R:=F_c) j q (Y f q.mem) (λL d' a b k1 T k3 k4 V k6 E k7 P=>H (fZs L) (by omega) L d' a b (XT _) T k3 k4 V k6 E k7 P) g0 g1 (w.imp id λh=>h f q.mem) O g3;rw[QlE];cases k:okF f d a b with
   |false=>
    rw[k]at p;exact⟨e,Ej p,λh=>by cases h⟩
   |true=>
    rw[k]at p;obtain rfl:=s k;have hb:a+fS f<=64/\b+fC f<=256:=by
     unfold okF at k;simp only[XW,Vq]at k;exact k.2
    obtain⟨c2,N,Q⟩:=G (i+1) (a+fS f) (b+fC f) u (by have:=q.lt';omega) (by omega) (by omega) (.inl (by omega)) (by omega) (by omega);refine⟨c2,Ew p N,λh=>?_⟩;rw[Q (by simpa using h),QhN,QhP];congr 1<;>omega
 obtain⟨e,p,s⟩:=loop l 0 a b rfl (XU _) h0 X B h2 h3;refine⟨e,?_,s⟩;refine Ea (v:=false) ?_ (Yk (Ea p.ev ?_))
 .rw[QS (show(0:Int)<(l.length:Int)by omega),QK (show¬(16:Int)<(d:Int)by omega)];exact Qa _
 .cases okR l d a b<;>exact Qa _
mutual
def vaC:Cond->Bool
 |⟨k,v,n,ps⟩=>bif k==1 then inR 1 3 v&&(inR 0 10000 n&&((ps.length:Int)==0))else
   bif k==4 then((v==0)&&(n==0))&&(((ps.length:Int)==1)&&vaCs ps)else
   bif (k==2)||(k==3)then((v==0)&&(n==0))&&((decide (0<(ps.length:Int))&&decide ((ps.length:Int)<=16))&&vaCs ps)else false
def vaCs:List Cond->Bool
 |[]=>true
 |c::r=>vaC c&&vaCs r
end
theorem Qog(c:Cond):vaC c=bif c.Kind==1 then inR 1 3 c.Var&&(inR 0 10000 c.N&&((c.Parts.length:Int)==0))else
   bif c.Kind==4 then((c.Var==0)&&(c.N==0))&&(((c.Parts.length:Int)==1)&&vaCs c.Parts)else
   bif (c.Kind==2)||(c.Kind==3)then((c.Var==0)&&(c.N==0))&&((decide (0<(c.Parts.length:Int))&&decide ((c.Parts.length:Int)<=16))&&vaCs c.Parts)else false:=by cases c;rfl
theorem Qjf:∀l:List Cond,vaCs l=l.all vaC
 |[]=>rfl
 |c::r=>by rw[vaCs,List.all_cons,Qjf r]
mutual
def vaS:Step->Bool
 |⟨k,b,c,t,e⟩=>bif k==1 then inR 1 5 b&&(zeroC c&&(((t.length:Int)==0)&&((e.length:Int)==0)))else
   bif k==2 then(b==0)&&(vaC c&&(decide (0<(t.length:Int))&&(vaSs t&&vaSs e)))else false
def vaSs:List Step->Bool
 |[]=>true
 |s::r=>vaS s&&vaSs r
end
theorem Qof(s:Step):vaS s=bif s.Kind==1 then inR 1 5 s.By&&(zeroC s.Cond&&(((s.Then.length:Int)==0)&&((s.Else.length:Int)==0)))else
   bif s.Kind==2 then(s.By==0)&&(vaC s.Cond&&(decide (0<(s.Then.length:Int))&&(vaSs s.Then&&vaSs s.Else)))else false:=by cases s;rfl
theorem Qje:∀l:List Step,vaSs l=l.all vaS
 |[]=>rfl
 |c::r=>by rw[vaSs,List.all_cons,Qje r]
def fV:Uf->Bool
 |.ctyping_step x=>vaS x.Step
 |.ctyping_cond x=>vaC x.Cond
theorem Qi2(l:List Cond):(l.map ofCond).any (λf=> !fV f)= !vaCs l:=by
 rw[Qjf,List.not_all_eq_any_not,List.any_map];rfl
theorem Qcr(l:List Step):(l.map ofStep).any (λf=> !fV f)= !vaSs l:=by
 rw[Qje,List.not_all_eq_any_not,List.any_map];rfl
theorem Qf4{R:Nat->List Uf->Option Bool}(c:Cond)(h:Cond.wf c)(j:Ev (λn=>R n (c.Parts.map ofCond)) (!vaCs c.Parts)):
  Ev (λn=>F_ck (R n) n {Cond:=c}) (vaC c):=by
 unfold F_ck;rw[Qog];refine Ea (v:=(c.Var==0)&&(c.N==0)) (Ei λ_=>Qa _) ?_;refine QbU (λ_=>?_) (λk=>?_)
 .exact Ea (Ea (QB _ _ _) (Ei λ_=>Ea (QB _ _ _) (Ei λ_=>Qa _))) (Qa _)
 .have fin:∀b:Bool,Ev (λn=>((bif b then(F_t n {Cond:=c}).bind λg=>(R n g).bind λd=>some (!d)else some false):Option Bool).bind λf=>some f) (b&&vaCs c.Parts):=by
   intro b;refine Ea ((Ei λ_=>Ea (QcK c h) (Ea j (Qa _)))) ((Qa _).eq (by simp))
  cases l:(c.Kind==4)with
  |true=>
   simp only[Vn];cases i:((c.Var==0)&&(c.N==0))with
   |true=>
    refine Ea (v:=Ctl.cont ((c.Parts.length:Int)==1)) (Qa _) ((fin _).eq (by simp))
   |false=>
    refine Ea (v:=Ctl.cont false) (Qa _) ((fin _).eq (by simp))
  |false=>
   simp only[Vp];cases a:((c.Kind==2)||(c.Kind==3))with
   |true=>
    simp only[Vn];have e:Ev (λn:Nat=>((bif (c.Kind==2)then some (c.Kind==2)else some (c.Kind==3)):Option Bool)) true:=by
     refine Ez ?_;rw[Qmt,a]
    cases i:((c.Var==0)&&(c.N==0))with
    |true=>
     cases m:decide (0<(c.Parts.length:Int))with
     |true=>
      refine Ea (v:=Ctl.cont (decide ((c.Parts.length:Int)<=16))) (Ea e (Qa _)) ((fin _).eq (by simp))
     |false=>
      refine Ea (v:=Ctl.cont false) (Ea e (Qa _)) ((fin _).eq (by simp))
    |false=>
     refine Ea (v:=Ctl.cont false) (Ea e (Qa _)) ((fin _).eq (by simp))
   |false=>
    have e:Ev (λn:Nat=>((bif (c.Kind==2)then some (c.Kind==2)else some (c.Kind==3)):Option Bool)) false:=by
     refine Ez ?_;rw[Qmt,a]
    refine Ea (v:=Ctl.done false) (Ea e (Qa _)) (Qa _)
theorem QiQ:∀(m:Nat) (l:List Uf),fZs l<=m->l.length<=2097152->(∀f∈l,fwf f)->Ev (λn=>F_g n l) (l.any λf=> !fV f):=by
 intro m
 induction m using Nat.strongRecOn with
 |_ m e=>
 intro l F G r;refine Y4 ?_;show Ev (λn=>B_g (F_g n) n l) _;unfold B_g F_gb;refine Ev.contains l _ (λn f=>F_cp (F_g n) n f) (by omega) λf p=>?_;have z:fZ f<=fZs l:=by
  have:∀(l:List Uf),f∈l->fZ f<=fZs l:=by
   intro l
   induction l with
   |nil=>intro h;cases h
   |cons x l e=>
    intro h;rw[QhM];rcases X5.1 h with rfl|h
    .omega
    .have:=e h;omega
  exact this l p
 unfold F_cp;refine Ea (v:=fV f) ?_ (Qa _);have a:∀c:Cond,Cond.wf c->cNs c.Parts<fZ f->Ev (λn=>F_g n (c.Parts.map ofCond)) (!vaCs c.Parts):=by
  intro c i j;rw[<- Qi2];obtain⟨w1,w2⟩:=Qaj i;refine e (fZs (c.Parts.map ofCond)) (by rw[Qe5];omega) _ (XT _) (by simp;omega) ?_;intro g b;obtain⟨y,d,rfl⟩:=Xe.1 b;exact w2 y d
 cases f with
 |ctyping_cond x=>
  obtain⟨c⟩:=x;have i:Cond.wf c:=r _ p;exact Qf4 (R:=F_g) c i (a c i (by show cNs c.Parts<cN c;rw[QcP];omega))
 |ctyping_step x=>
  obtain⟨s⟩:=x;have j:Step.wf s:=r _ p;obtain⟨t,⟨u,k⟩,⟨w,q⟩⟩:=Qai j;unfold F_de;show Ev _ (vaS s);rw[Qof];simp only[Uf.elim];refine QbU (λ_=>?_) (λB=>QbU (λ_=>?_) λ_=>Qa _)
  .refine Ea (Ea (QB _ _ _) (Ei λ_=>?_)) (Qa _);simp only[Qf5,XJ];refine Ei λ_=>Ea (Qbo s j) ((Qa _).eq ?_);unfold stepParts;rw[XX];simp only[Vx,XW,X2,X0];omega
  .refine Ea (Ei λ_=>?_) (Qa _);refine Ea (Qf4 (R:=F_g) s.Cond t (a s.Cond t (by show _<sZ s;rw[Qhn,QcP];omega))) (Ei λ_=>Ei λ_=>?_);refine Ea (Qbo s j) (Ea (e (fZs (stepParts s)) ?_ _ (XT _) (by unfold stepParts;simp;omega) ?_) ((Qa _).eq ?_))
   .have:fZs (stepParts s)<sZ s:=by
     unfold stepParts;rw[Qe4,QbM,QbM,Qhn];omega
    have E:fZ (Uf.ctyping_step {Step:=s})=sZ s:=rfl;omega
   .intro g b;unfold stepParts at b;rcases VC.1 b with b|b
    .obtain⟨y,d,rfl⟩:=Xe.1 b;exact k y d
    .obtain⟨y,d,rfl⟩:=Xe.1 b;exact q y d
   .unfold stepParts;rw[List.any_append,Qcr,Qcr];simp
def goodT(l:List Step):Bool:=sDs 0 l&&(decide (sNs l<=64)&&decide (sCs l<=256))
def tiesE(l:List Step):Int:=bif goodT l then(bif l.isEmpty|| !vaSs l then 71 else 0)else 2
theorem QlF(l:List Step):okL (l.map ofStep) 0 0 0=goodT l:=by
 rw[XX,QgB _ _ _ _ (by omega) (by omega), <- QcI,Qa9,Qba];unfold goodT;simp only[XW,Vq];constructor
 .rintro⟨a,b,c⟩;exact⟨a,by omega,by omega⟩
 .rintro⟨a,b,c⟩;exact⟨a,by omega,by omega⟩
theorem Qnw(l:List Step)(p:l.length<=1048576)(d:∀x∈l,Step.wf x):Ev (λn=>F_bq n l) (tiesE l):=by
 unfold F_bq;refine Ea (Qfa l (by omega)) (Ea (v:=tiesE l) ?_ (Qa _));have b:∀f∈l.map ofStep,fwf f:=by
  intro g j;obtain⟨y,i,rfl⟩:=Xe.1 j;exact d y i
 obtain⟨k,a,m⟩:=Qmc _ (l.map ofStep) 0 0 0 (XT _) (by simp;omega) b (by omega) (by omega) (by omega) (.inl (by omega)) (by omega) (by omega);rw[QlF]at a;unfold F_fp;have h:Ev (λn=>F_du n (l.map ofStep) 0 {steps:=0,conds:=0}) (k,goodT l):=a.shift;refine Ea h ?_;unfold tiesE;cases goodT l with
 |false=>exact Qa _
 |true=>
  simp only[Xg,Vp,Vn];have e:(((l.map ofStep).length:Int)==0)=l.isEmpty:=by
   cases l<;>simp;omega
  rw[e];refine Ea (Eu λ_=>Ea (QiQ _ _ (XT _) (by simp;omega) b) (Qa _)) ?_;rw[Qcr];cases(l.isEmpty|| !vaSs l)<;>exact Qa _
def condB(d:Nat):Int:=256*(18-(d:Int))+1000
theorem QfH:∀(m:Nat) (c:Cond) (d:Nat),cN c<=m->d<=17->Cond.wf c->∃v:Int,Ev (λn=>F_k n c (d:Int)) v/\0<=v/\v<=condB d/\
  (d<=16/\cD (d+1) c=true/\cN c<=256->v=cN c)/\(¬(d<=16/\cD (d+1) c=true/\cN c<=256)->256<v):=by
 intro m
 induction m using Nat.strongRecOn with
 |_ m G=>
 intro c d hm hd W;obtain⟨V,q⟩:=Qaj W;have u:∀{P:Int->Prop},(∃v:Int,Ev (λn=>B_k (F_k n) n c (d:Int)) v/\P v)->∃v:Int,Ev (λn=>F_k n c (d:Int)) v/\P v:=by
  rintro P ⟨v,g,b⟩;exact⟨v,Y4 g,b⟩
 refine u ?_;unfold B_k;by_cases j:d<=16
 .rw[QK (show¬(16:Int)<(d:Int)by omega)];have ed:IntKind.i64.wrap ((d:Int)+1)=((d+1:Nat):Int):=QO (by omega);have loop:∀(r:List Cond) (i:Nat) (a:Int),c.Parts.drop i=r->i<=c.Parts.length->0<=a->a<=condB d->
    ∃v:Int,EvI (λn=>F_ga n c (d:Int) (F_k n)) (a,(i:Int)) v/\0<=v/\v<=condB d/\
     (cDs (d+1) r=true/\a+cNs r<=256->v=a+cNs r)/\(¬(cDs (d+1) r=true/\a+cNs r<=256)->256<v):=by
   intro r
   induction r with
   |nil=>
    intro i a s N J g;refine⟨a,Ej ?_,J,g,λ_=>by simp[cNs],λh=>?_⟩
    .unfold F_ga;simp only[Yo s N,Vp,XJ];exact Qa _
    .simp[cDs,cNs]at h;omega
   |cons x r F=>
    intro i a s N J g;obtain⟨f,t⟩:=QG (by omega) s;have hx:cN x<cN c:=by
     have:∀l:List Cond,x∈l->cN x<=cNs l:=by
      intro l
      induction l with
      |nil=>intro h;cases h
      |cons y l G=>
       intro h;rw[cNs];rcases X5.1 h with rfl|h
       .omega
       .have:=G h;omega
     have:=this _ f.mem;rw[QcP c];omega
    by_cases e:a<=256
    .obtain⟨v,H,M,L,k,z⟩:=G (cN x) (by omega) x (d+1) (XT _) (by omega) (q x f.mem);have hB:condB (d+1)+256=condB d:=by unfold condB;omega
     have Q:condB d<=6000:=by unfold condB;omega
     have Y:IntKind.i64.wrap (a+v)=a+v:=Qp (by omega) (by omega);obtain⟨w,T,q2,R,X,O⟩:=F (i+1) (a+v) t (by have:=f.lt';omega) (by omega) (by omega);refine⟨w,Ew ?_ T,q2,R,?_,?_⟩
     .unfold F_ga;simp only[f.lt,Vn,QS e,XJ,f.ix,f.nx,ed];refine Ea H ?_;rw[Y];exact Qa _
     .rintro⟨b,E⟩;simp only[cDs,XW,Vq]at b;rw[cNs]at E⊢;have:=k ⟨b.1,b.2.1,by omega⟩;subst this;rw[X ⟨b.2.2,by omega⟩];omega
     .intro B;by_cases p:d+1<=16/\cD (d+1+1) x=true/\cN x<=256
      .have:=k p;subst this;refine O λb=>B ⟨?_,?_⟩
       .simp only[cDs,XW,Vq];exact⟨p.1,p.2.1,b.1⟩
       .rw[cNs];omega
      .have:=z p;exact O λb=>by omega
    .refine⟨a,Ej ?_,J,g,λh=>?_,λ_=>by omega⟩
     .unfold F_ga;simp only[f.lt,Vn,QK e,XJ,Vp];exact Qa _
     .omega
  obtain⟨v,H,M,L,k,z⟩:=loop c.Parts 0 1 rfl (XU _) (by omega) (by unfold condB;omega);refine⟨v,Yk (Ea H.ev (Qa _)),M,L,?_,?_⟩
  .rintro⟨_,b,E⟩;rw[Qms]at b;rw[QcP]at E⊢;rw[k ⟨b,by omega⟩];omega
  .intro B;refine z λh=>B ⟨j,by rw[Qms];exact h.1,by rw[QcP];omega⟩
 .rw[QS (show(16:Int)<(d:Int)by omega)];refine⟨1000,Qj0 (Qa _),by omega,by unfold condB;omega,λh=>absurd h.1 j,λ_=>by omega⟩
def sizeB:Nat->Int
 |0=>10000
 |k+1=>3*sizeB k
theorem Qcx:∀k,10000<=sizeB k
 |0=>Int.le_refl _
 |k+1=>by have:=Qcx k;simp only[sizeB];omega
theorem Qlh{k:Nat}(h:k<=17):sizeB k<=1291401630000:=by
 have:∀j,j<=17->sizeB j<=1291401630000:=by decide+kernel
 exact this k h
def goodL(d:Nat)(l:List Step):Prop:=sDs d l=true/\sNs l<=64/\sCs l<=256
theorem Qnt:∀(m:Nat) (l:List Step) (d:Nat),sZs l<=m->d<=17->l.length<=1048576->(∀x∈l,Step.wf x)->∃a b:Int,Ev (λn=>F_m n l (d:Int)) (a,b)/\0<=a/\0<=b/\a<=sizeB (17-d)/\b<=sizeB (17-d)/\
  (goodL d l->a=sNs l/\b=sCs l)/\(¬goodL d l->64<a\/256<b):=by
 intro m
 induction m using Nat.strongRecOn with
 |_ m E=>
 intro l d hm hd hl hw;have Q:∀{P:Int->Int->Prop},(∃a b:Int,Ev (λn=>B_m (F_m n) n l (d:Int)) (a,b)/\P a b)->∃a b:Int,Ev (λn=>F_m n l (d:Int)) (a,b)/\P a b:=by
  rintro P ⟨a,b,t,B⟩;exact⟨a,b,Y4 t,B⟩
 refine Q ?_;unfold B_m;by_cases e:0<l.length/\ ¬d<=16
 .rw[QS (show(0:Int)<(l.length:Int)by omega),QS (show(16:Int)<(d:Int)by omega)];have:=Qcx (17-d);refine⟨1000,1000,Ea (Qa _) (Qj0 (Qa _)),by omega,by omega,by omega,by omega,λh=>?_,λ_=>by omega⟩;exfalso;cases l with
  |nil=>simp at e
  |cons x r=>
   have:=h.1;simp only[sDs,XW,Vq]at this;exact e.2 this.1
 .have p:Ev (λn:Nat=>((bif decide (0<(l.length:Int))then some (decide (16<(d:Int)))else some false):Option Bool)) false:=by
   by_cases hp:0<l.length
   .have:d<=16:=by
     rcases VB 16 d with q|q
     .exact absurd ⟨hp,by omega⟩ e
     .exact q
    rw[QS (show(0:Int)<(l.length:Int)by omega),QK (show¬(16:Int)<(d:Int)by omega)];exact Qa _
   .rw[QK (show¬(0:Int)<(l.length:Int)by omega)];exact Qa _
  have ed:IntKind.i64.wrap ((d:Int)+1)=((d+1:Nat):Int):=QO (by omega);have loop:∀(r:List Step) (i:Nat) (a b:Int),l.drop i=r->i<=l.length->0<=a->0<=b->a<=sizeB (17-d)->b<=sizeB (17-d)->
    ∃a' b':Int,EvI (λn=>F_dt n l (d:Int) (F_m n)) (a,b,(i:Int)) (a',b')/\0<=a'/\0<=b'/\a'<=sizeB (17-d)/\b'<=sizeB (17-d)/\
     (sDs d r=true/\a+sNs r<=64/\b+sCs r<=256->a'=a+sNs r/\b'=b+sCs r)/\(¬(sDs d r=true/\a+sNs r<=64/\b+sCs r<=256)->64<a'\/256<b'):=by
   intro r
   induction r with
   |nil=>
    intro i a b J hi p t B H;refine⟨a,b,Ej ?_,p,t,B,H,λ_=>by simp[sNs,sCs],λh=>?_⟩
    .unfold F_dt;simp only[Yo J hi,Vp,XJ];exact Qa _
    .simp[sDs,sNs,sCs]at h;omega
   |cons s r aa=>
    intro i a b J hi p t B H;obtain⟨j,W⟩:=QG (by omega) J;have aj:=j.lt';have w:d<=16:=by
     rcases VB 16 d with q|q
     .exact absurd ⟨by omega,by omega⟩ e
     .exact q
    have ah:sZ s<=sZs l:=by
     have:∀l:List Step,s∈l->sZ s<=sZs l:=by
      intro l
      induction l with
      |nil=>intro h;cases h
      |cons y l E=>
       intro h;rw[sZs];rcases X5.1 h with rfl|h
       .omega
       .have:=E h;omega
     exact this _ j.mem
    by_cases f:a<=64/\b<=256
    .obtain⟨wc,⟨ac,O⟩,⟨af,ad⟩⟩:=Qai (hw s j.mem);have ai:=Qhn s;obtain⟨u,g,p1,p2,p3,p4,p5,G,p7⟩:=E (sZs s.Then) (by omega) s.Then (d+1) (XT _) (by omega) ac O;obtain⟨y1,y2,q1,q2,q3,q4,q5,q6,q7⟩:=E (sZs s.Else) (by omega) s.Else (d+1) (XT _) (by omega) af ad;have hB:sizeB (17-d)=3*sizeB (17-(d+1)):=by
      rw[show 17-d=(17-(d+1))+1 by omega];rfl
     have ae:=Qcx (17-(d+1));have ag:=Qlh (k:=17-d) (by omega);have hc:∃z:Int,0<=z/\z<=5608/\Ev (λn=>((bif (!zeroC s.Cond)then(idx l (i:Int)).bind λL=>(F_k n L.Cond 0).bind λR=>some (IntKind.i64.wrap ((IntKind.i64.wrap ((IntKind.i64.wrap (b+g))+y2))+R))else some (IntKind.i64.wrap ((IntKind.i64.wrap (b+g))+y2))):Option Int)) (b+g+y2+z)/\
       ((zeroC s.Cond||cD 1 s.Cond)=true/\(bif zeroC s.Cond then 0 else cN s.Cond)<=256->z=((bif zeroC s.Cond then 0 else cN s.Cond:Nat):Int))/\(¬((zeroC s.Cond||cD 1 s.Cond)=true/\(bif zeroC s.Cond then 0 else cN s.Cond)<=256)->256<z):=by
      have e1:IntKind.i64.wrap (b+g)=b+g:=Qp (by omega) (by omega);have e2:IntKind.i64.wrap (b+g+y2)=b+g+y2:=Qp (by omega) (by omega);cases hz:zeroC s.Cond with
      |true=>
       refine⟨0,by omega,by omega,?_,λ_=>by simp,λh=>absurd ⟨rfl,by simp⟩ h⟩;simp only[Xg,Vp,e1,e2];exact(Qa _).eq (by omega)
      |false=>
       obtain⟨v,u1,u2,u3,u4,u5⟩:=QfH _ s.Cond 0 (XT _) (by omega) wc;have T:v<=5608:=by unfold condB at u3;omega
       have e3:IntKind.i64.wrap (b+g+y2+v)=b+g+y2+v:=Qp (by omega) (by omega);refine⟨v,u2,T,?_,λh=>?_,λh=>?_⟩
       .simp only[Xh,Vn,j.ix,XJ,e1,e2];refine Ea u1 ?_;rw[e3];exact Qa _
       .simp only[Bool.false_or,Vp]at h⊢;exact u4 ⟨by omega,h.1,h.2⟩
       .simp only[Bool.false_or,Vp]at h;exact u5 λq=>h ⟨q.2.1,q.2.2⟩
     obtain⟨z,z0,z1,z2,z3,z4⟩:=hc;have e4:IntKind.i64.wrap (a+1)=a+1:=Qp (by omega) (by omega);have e5:IntKind.i64.wrap (a+1+u)=a+1+u:=Qp (by omega) (by omega);have e6:IntKind.i64.wrap (a+1+u+y1)=a+1+u+y1:=Qp (by omega) (by omega);obtain⟨w1,w2,v1,v2,v3,v4,v5,v6,F⟩:=aa (i+1) (a+1+u+y1) (b+g+y2+z) W (by omega) (by omega) (by omega) (by omega) (by omega);refine⟨w1,w2,Ew ?_ v1,v2,v3,v4,v5,?_,?_⟩
     .unfold F_dt;simp only[j.lt,Vn,QS f.1,QS f.2,XJ,j.ix,j.nx,ed,QiN];refine Ea p1 (Ea q1 ?_);simp only[j.ix,XJ]at z2;refine Ea z2 ?_;rw[e4,e5,e6];exact Qa _
     .rintro⟨g1,g2,g3⟩;simp only[sDs,XW,Vq,Qjn]at g1;obtain⟨ak,⟨V,X,Y⟩,ab⟩:=g1;rw[sNs,QfR]at g2⊢;rw[sCs,QfS]at g3⊢;obtain⟨k1,k2⟩:=G ⟨X,by omega,by omega⟩;obtain⟨k3,k4⟩:=q6 ⟨Y,by omega,by omega⟩;have k5:=z3 ⟨V,by omega⟩;obtain⟨k6,k7⟩:=v6 ⟨ab,by omega,by omega⟩;constructor<;>omega
     .intro hn;by_cases b1:goodL (d+1) s.Then
      .obtain⟨k1,k2⟩:=G b1;by_cases N:goodL (d+1) s.Else
       .obtain⟨k3,k4⟩:=q6 N;by_cases M:(zeroC s.Cond||cD 1 s.Cond)=true/\(bif zeroC s.Cond then 0 else cN s.Cond)<=256
        .have k5:=z3 M;refine F λq=>hn ⟨?_,?_,?_⟩
         .simp only[sDs,XW,Vq,Qjn];exact⟨w,⟨M.1,b1.1,N.1⟩,q.1⟩
         .rw[sNs,QfR];omega
         .rw[sCs,QfS];omega
        .have:=z4 M;exact F λq=>by omega
       .have:=q7 N;exact F λq=>by omega
      .have:=p7 b1;exact F λq=>by omega
    .refine⟨a,b,Ej ?_,p,t,B,H,λh=>?_,λ_=>?_⟩
     .unfold F_dt;have:Ev (λn:Nat=>((bif decide ((i:Int)<(l.length:Int))then(bif decide (a<=64)then some (decide (b<=256))else some false)else some false):Option Bool)) false:=by
       rw[j.lt];by_cases q:a<=64
       .rw[QS q,QK (show¬b<=256 from λz=>f ⟨q,z⟩)];exact Qa _
       .rw[QK q];exact Qa _
      exact Ea this (Yk (Qa _))
     .omega
     .omega
  have ae:=Qcx (17-d);obtain⟨a,b,p1,p2,p3,p4,p5,G,p7⟩:=loop l 0 0 0 rfl (XU _) (by omega) (by omega) (by omega) (by omega);refine⟨a,b,Ea p (Yk (Ea p1.ev (Qa _))),p2,p3,p4,p5,λh=>?_,λh=>?_⟩
  .obtain⟨k1,k2⟩:=G ⟨h.1,by have:=h.2.1;omega,by have:=h.2.2;omega⟩;constructor<;>omega
  .exact p7 λq=>h ⟨q.1,by omega,by omega⟩
mutual
def hP:Part->Nat
 |⟨_,_,ps⟩=>bif ps.isEmpty then 0 else 1+hPs ps
def hPs:List Part->Nat
 |[]=>0
 |p::r=>max (hP p) (hPs r)
end
theorem Qn3(p:Part):hP p=bif p.Parts.isEmpty then 0 else 1+hPs p.Parts:=by cases p;rfl
theorem QjD{p:Part}:∀{l:List Part},p∈l->hP p<=hPs l
 |q::r,h=>by
  simp only[hPs];rcases X5.1 h with rfl|h
  .omega
  .have:=QjD h;omega
theorem Qhw{α:Type}(l:List α):((l.length:Int)==0)=l.isEmpty:=by
 cases l<;>simp;omega
theorem Qa5:∀l:List Part,l.length<=szPs l
 |[]=>XT _
 |p::r=>by have:=Qa5 r;rw[szPs,Qad,XZ];omega
theorem QhU:∀(m:Nat) (l:List Part) (k:Nat),szPs l<=m->k<=17->l.length<=1048576->(∀x∈l,Part.wf x)->Ev (λn=>F_s n l (k:Int)) ((min (hPs l) k:Nat):Int):=by
 intro m
 induction m using Nat.strongRecOn with
 |_ m t=>
 intro l k B E F j;refine Y4 ?_;show Ev (λn=>B_s (F_s n) n l (k:Int)) _;unfold B_s;have loop:∀(r:List Part) (i:Nat) (a:Nat),l.drop i=r->i<=l.length->a<=k->EvI (λn=>F_cc n l (k:Int) (F_s n)) ((a:Int),(i:Int)) ((max a (min (hPs r) k):Nat):Int):=by
  intro r
  induction r with
  |nil=>
   intro i a d g b;refine Ej ?_;unfold F_cc;simp only[Yo d g,Vp,XJ];refine(Qa _).eq ?_;simp[hPs]
  |cons p r e=>
   intro i a d g w;obtain⟨b,f⟩:=QG (by omega) d;obtain⟨w1,w2⟩:=Y1 (j p b.mem);by_cases h:0<k
   .have q:IntKind.i64.wrap ((k:Int)-1)=((k-1:Nat):Int):=by rw[Qp (by omega) (by omega)];omega
    have y:=QaG b.mem;rw[Qad]at y;have step:Ev (λn=>F_cc n l (k:Int) (F_s n) ((a:Int),(i:Int))) (.cont (((max a (min (hP p) k):Nat):Int),((i+1:Nat):Int))):=by
     unfold F_cc;simp only[b.lt,Vn,QS (show(0:Int)<(k:Int)by omega),XJ,b.ix,b.nx,q,bne,Qhw];rw[Qn3];cases z:p.Parts.isEmpty with
     |true=>
      simp only[Xg,Vp,XJ,Vn,Nat.zero_min,Nat.max_zero];exact Qa _
     |false=>
      simp only[Xh,Vn,Vp];refine Ea (Ea (t (szPs p.Parts) (by omega) p.Parts (k-1) (XT _) (by omega) w1 w2) (Qa _)) ((Qa _).eq ?_);have s:IntKind.i64.wrap (1+((min (hPs p.Parts) (k-1):Nat):Int))=((1+min (hPs p.Parts) (k-1):Nat):Int):=by rw[Qp (by omega) (by omega)];omega
      rw[s];congr 2;split<;>omega
    refine(Ew step (e (i+1) _ f (by have:=b.lt';omega) (by omega))).eq ?_;rw[hPs];omega
   .have:k=0:=by omega
    subst this;refine Ej ?_;unfold F_cc;simp only[b.lt,Vn,QK (show¬(0:Int)<((0:Nat):Int)by omega),XJ,Vp];have u:max a (min (hPs (p::r)) 0)=a:=by omega
    rw[u];exact Qa _
 refine Ea ((loop l 0 0 rfl (XU _) (XU _)).ev) ((Qa _).eq ?_);omega
theorem QhV:∀(m:Nat) (l:List Part),szPs l<=m->l.length<=1048576->(∀x∈l,Part.wf x)->Ev (λn=>F_u n l) ((min (szPs l) 257:Nat):Int):=by
 intro m
 induction m using Nat.strongRecOn with
 |_ m u=>
 intro l B y s;refine Y4 ?_;show Ev (λn=>B_u (F_u n) n l) _;unfold B_u;have loop:∀(r:List Part) (i:Nat) (a:Nat),l.drop i=r->i<=l.length->a<=1048576->∃b:Nat,EvI (λn=>F_eu n l (F_u n)) ((a:Int),(i:Int)) (b:Int)/\min b 257=min (a+(szPs r-r.length)) 257:=by
  intro r
  induction r with
  |nil=>
   intro i a e k _;refine⟨a,Ej ?_,by simp[szPs]⟩;unfold F_eu;simp only[Yo e k,Vp,XJ];exact Qa _
  |cons p r f=>
   intro i a e k w;obtain⟨d,h⟩:=QG (by omega) e;obtain⟨w1,w2⟩:=Y1 (s p d.mem);have z:=QaG d.mem;rw[Qad]at z;have t:=Qa5 r;by_cases j:a<=256
   .obtain⟨b,g,q⟩:=f (i+1) (a+min (szPs p.Parts) 257) h (by have:=d.lt';omega) (by omega);refine⟨b,Ew ?_ g,?_⟩
    .unfold F_eu;simp only[d.lt,Vn,QS (show(a:Int)<=256 by omega),XJ,d.ix,d.nx];refine Ea (u (szPs p.Parts) (by omega) p.Parts (XT _) w1 w2) ((Qa _).eq ?_);rw[Qp (by omega) (by omega)];congr 2
     all_goals omega
    .rw[q,szPs,Qad,XZ];omega
   .refine⟨a,Ej ?_,by omega⟩;unfold F_eu;simp only[d.lt,Vn,QK (show¬(a:Int)<=256 by omega),XJ,Vp];exact Qa _
 obtain⟨b,g,q⟩:=loop l 0 l.length rfl (XU _) y;refine Ea g.ev ((Qa _).eq ?_);have:=Qa5 l;split<;>omega
theorem Qmb:∀(m:Nat) (l:List Part) (k:Nat),szPs l<=m->hPs l<=k->k<=17->szPs l<=256->(∀x∈l,Part.wf x)->Ev (λn=>F_p n l (k:Int)) ((hPs l:Int),(szPs l:Int)):=by
 intro m
 induction m using Nat.strongRecOn with
 |_ m L=>
 intro l k P O u h F;have t:=Qa5 l;refine Y4 ?_;show Ev (λn=>B_p (F_p n) n l (k:Int)) _;unfold B_p;have loop:∀(r:List Part) (i:Nat) (a b:Nat),l.drop i=r->i<=l.length->a<=17->b+(szPs r-r.length)<=256->EvI (λn=>F_fy n l (k:Int) (F_p n)) ((a:Int),(b:Int),(i:Int)) (((max a (hPs r):Nat):Int),((b+(szPs r-r.length):Nat):Int)):=by
  intro r
  induction r with
  |nil=>
   intro i a b f s _ _;refine Ej ?_;unfold F_fy;simp only[Yo f s,Vp,XJ];refine(Qa _).eq ?_;simp[hPs,szPs]
  |cons p r j=>
   intro i a b f s z e;obtain⟨d,g⟩:=QG (by omega) f;obtain⟨w1,w2⟩:=Y1 (F p d.mem);have H:=QaG d.mem;have q:=QjD d.mem;rw[Qad]at H;have B:=Qa5 r;rw[szPs,Qad,XZ]at e;have step:Ev (λn=>F_fy n l (k:Int) (F_p n) ((a:Int),(b:Int),(i:Int))) (.cont (((max a (hP p):Nat):Int),((b+szPs p.Parts:Nat):Int),((i+1:Nat):Int))):=by
    unfold F_fy;simp only[d.lt,Vn,d.ix,XJ,d.nx,Qhw];rw[Qn3]at q⊢;cases w:p.Parts.isEmpty with
    |true=>
     have E:p.Parts=[]:=by simpa using w
     simp only[Vn,XJ];rw[E];simp only[szPs,Xw,Nat.max_zero];exact Qa _
    |false=>
     rw[w]at q;simp only[Vp]at q⊢;have N:0<k:=by omega
     have J:IntKind.i64.wrap ((k:Int)-1)=((k-1:Nat):Int):=by rw[Qp (by omega) (by omega)];omega
     have G:((k:Int)==0)=false:=beq_false_of_ne (by omega);rw[G,QK (show¬(256:Int)<(b:Int)by omega),J];simp only[Vp,XJ];refine Ea (Ea (L (szPs p.Parts) (by omega) p.Parts (k-1) (XT _) (by omega) (by omega) (by omega) w2) (Qa _)) ((Qa _).eq ?_);have M:IntKind.i64.wrap ((hPs p.Parts:Int)+1)=((hPs p.Parts+1:Nat):Int):=QO (by omega);have y:IntKind.i64.wrap ((b:Int)+(szPs p.Parts:Int))=((b+szPs p.Parts:Nat):Int):=by rw[Qp (by omega) (by omega)];omega
     simp only[M,y];congr 2;split<;>omega
   refine(Ew step (j (i+1) _ _ g (by have:=d.lt';omega) (by omega) (by omega))).eq ?_;rw[hPs,szPs,Qad,XZ];congr 1<;>omega
 refine Ea ((loop l 0 0 l.length rfl (XU _) (by omega) (by omega)).ev) ((Qa _).eq ?_);congr 1<;>omega
def repS:Nat->List Int->List Int->List Int
 |0,out,_=>out
 |k+1,out,lap=>if 256<out.length then out else repS k (out++lap) lap
mutual
def lapS:Part->List Int
 |⟨m,laps,ps⟩=>bif decide (0<laps)then expS [] ps else[m]
def expS:List Int->List Part->List Int
 |out,[]=>out
 |out,p::r=>expS (repS (p.Laps.toNat+(bif decide (0<p.Laps)then 0 else 1)) out (lapS p)) r
end
theorem Qeh(p:Part):lapS p=bif decide (0<p.Laps)then expS [] p.Parts else[p.Mat]:=by cases p;rfl
theorem QeI{k:Nat}{a b:List Int}(h:256<a.length):repS k a b=a:=by
 cases k with
 |zero=>rfl
 |succ k=>rw[repS,Vs h]
theorem QhR:∀(l:List Part) {out:List Int},256<out.length->expS out l=out
 |[],out,h=>by rw[expS]
 |p::r,out,h=>by rw[expS,QeI h];exact QhR r h
theorem QeH:∀(k:Nat) (out lap:List Int),(repS k out lap).length<=max out.length (256+lap.length)
 |0,out,lap=>by rw[repS];omega
 |k+1,out,lap=>by
  rw[repS];split
  .omega
  .have:=QeH k (out++lap) lap;rw[X2]at this;omega
theorem QhQ:∀(m:Nat) (l:List Part) (a:List Int),szPs l<=m->(expS a l).length<=max a.length (256+257*szPs l):=by
 intro m
 induction m using Nat.strongRecOn with
 |_ m j=>
 intro l;have b:∀p∈l,szPs l<=m->(lapS p).length<=257*szP p:=by
  intro p e g;have t:=QaG e;rw[Qeh,Qad]at*;cases decide (0<p.Laps)with
  |true=>
   have:=j (szPs p.Parts) (by omega) p.Parts [] (XT _);simp only[Vn,List.length_nil]at this⊢;omega
  |false=>simp;omega
 have d:∀(r:List Part) (a:List Int),(∀p∈r,(lapS p).length<=257*szP p)->(expS a r).length<=max a.length (256+257*szPs r):=by
  intro r
  induction r with
  |nil=>intro a _;rw[expS];omega
  |cons p r f=>
   intro a h;rw[expS,szPs];have k:=f (repS (p.Laps.toNat+(bif decide (0<p.Laps)then 0 else 1)) a (lapS p)) λq i=>h q (by simp[i]);have s:=QeH (p.Laps.toNat+(bif decide (0<p.Laps)then 0 else 1)) a (lapS p);have n:=h p (by simp);omega
 intro a g;exact d l a λp e=>b p e g
theorem QlM(p:Part):(lapS p).length<=257*szP p:=by
 rw[Qeh,Qad];cases decide (0<p.Laps)with
 |true=>
  have:=QhQ _ p.Parts [] (XT _);simp only[Vn,List.length_nil]at this⊢;omega
 |false=>simp;omega
theorem Qkq(Y:Int):∀(m:Nat) (l:List Part),szPs l<=m->szPs l<=256->l.length<=1048576->(∀x∈l,Part.wf x)->partsS Y l=true->Ev (λn=>F_o n l) (expS [] l):=by
 intro m
 induction m using Nat.strongRecOn with
 |_ m ih=>
 intro l hm L hl X P;rw[Qdf,Xs]at P;refine Y4 ?_;show Ev (λn=>B_o (F_o n) n l) _;unfold B_o;have inner:∀(p:Part) (e:List Int) (g:p.Laps=0\/0<p.Laps/\p.Laps<=64) (z:e.length<=100000) (j:Nat) (k:Nat) (a:List Int),j+k=p.Laps.toNat+(bif decide (0<p.Laps)then 0 else 1)->a.length<=200000->
   ∃d:Ctl (List Int) (Ctl ((List Int)×Int) (Ctl (List Int) (List Int))),EvI (λn=>F_fb n p e) (a,(j:Int)) d/\
    (d=.cont (repS k a e)\/(256<(repS k a e).length/\d=.done (.done (.done (repS k a e))))):=by
  intro p e g z j k
  induction k generalizing j with
  |zero=>
   intro a f _;refine⟨_,Ej (b:=.cont a) ?_,.inl rfl⟩;unfold F_fb;have:¬((j:Int)<if p.Laps<1 then 1 else p.Laps):=by
    rcases g with h|⟨h,T⟩
    .rw[h]at f⊢;simp at f⊢;omega
    .rw[QS h]at f;simp at f;rw[Vr (by omega)];omega
   rw[QK this];exact Qa _
  |succ k J=>
   intro a f B;have s:((j:Int)<if p.Laps<1 then 1 else p.Laps):=by
    rcases g with h|⟨h,T⟩
    .rw[h]at f⊢;simp at f⊢;omega
    .rw[QS h]at f;simp at f;rw[Vr (by omega)];omega
   have Q:j<=64:=by
    rcases g with h|⟨h,T⟩
    .rw[h]at f;simp at f;omega
    .rw[QS h]at f;simp at f;omega
   by_cases t:256<a.length
   .refine⟨_,Ej (b:=.done (.done (.done a))) ?_,.inr ⟨by rw[QeI t];exact t,by rw[QeI t]⟩⟩;unfold F_fb;rw[QS s,QS (show(256:Int)<(a.length:Int)by omega)];exact Qa _
   .obtain⟨d,w,y⟩:=J (j+1) (a++e) (by omega) (by rw[X2];omega);refine⟨d,Ew ?_ w,by rw[repS,Vr t];exact y⟩;unfold F_fb;rw[QS s,QK (show¬(256:Int)<(a.length:Int)by omega)];refine Qj0 (Yk (QaQ (Qia a e (by omega)) ?_));rw[QO (by omega)];exact Qa _
 have loop:∀(r:List Part) (i:Nat) (a:List Int),l.drop i=r->i<=l.length->a.length<=100000->
   ∃d:Ctl (List Int) (List Int),EvI (λn=>F_fm n l (F_o n)) (a,(i:Int)) d/\(d=.cont (expS a r)\/d=.done (expS a r)):=by
  intro r
  induction r with
  |nil=>
   intro i a G O _;refine⟨.cont a,Ej ?_,.inl (by rw[expS])⟩;unfold F_fm;simp only[Yo G O,Vp];exact Qa _
  |cons p r M=>
   intro i a G O B;obtain⟨q,H⟩:=QG (by omega) G;have s:=q.lt';have hs:=QaG q.mem;obtain⟨w1,w2⟩:=Y1 (X p q.mem);have g:=P p q.mem;rw[QeL]at g;have u:p.Laps=0\/0<p.Laps/\p.Laps<=64:=by
    cases R:(p.Laps==0)with
    |true=>exact .inl (by simpa using R)
    |false=>
     rw[R]at g;simp only[Vp,inR,XW,Vq]at g;exact .inr ⟨by omega,by omega⟩
   have V:=QlM p;have t:Ev (λn=>((bif decide (0<p.Laps)then(F_o n p.Parts).bind λN=>some N else some [p.Mat]):Option (List Int))) (lapS p):=by
    rw[Qeh];refine QbU (λh=>?_) (λ_=>Qa _);rw[Qad]at hs;refine Ea (ih (szPs p.Parts) (by omega) p.Parts (XT _) (by omega) w1 w2 ?_) (Qa _);have:(p.Laps==0)=false:=by
     simp only[Vq]at h;exact beq_false_of_ne (by omega)
    rw[this]at g;simp only[Vp,XW]at g;exact g.2.2.2
   obtain⟨d,w,y⟩:=inner p (lapS p) u (by omega) 0 _ a (Xv _) (by omega);rw[expS];rcases y with rfl|⟨F,rfl⟩
   .obtain⟨E,W,q2⟩:=M (i+1) (repS (p.Laps.toNat+(bif decide (0<p.Laps)then 0 else 1)) a (lapS p)) H (by omega) (by
     have:=QeH (p.Laps.toNat+(bif decide (0<p.Laps)then 0 else 1)) a (lapS p);omega)
    refine⟨E,Ew ?_ W,q2⟩;unfold F_fm;simp only[q.lt,Vn,q.ix,XJ,q.nx];exact Ea t (Ea w.ev (Qa _))
   .refine⟨.done (repS (p.Laps.toNat+(bif decide (0<p.Laps)then 0 else 1)) a (lapS p)),Ej ?_,.inr (by rw[QhR r F])⟩;unfold F_fm;simp only[q.lt,Vn,q.ix,XJ,q.nx];exact Ea t (Ea w.ev (Qa _))
 obtain⟨d,w,y⟩:=loop l 0 [] rfl (XU _) (by simp);rcases y with rfl|rfl
 .exact Ea w.ev (Qa _)
 .exact Ea w.ev (Qa _)
def kindAt(c:Course)(m:Int):Int:=((c.Mats[m.toNat]?).map (·.Kind)).getD 0
def hasLeg(c:Course)(a b:Int):Bool:=c.Legs.any λl=>(l.From==a)&&(l.To==b)
def rokS(c:Course)(len:Nat):Nat->Int->List Int->Bool
 |_,_,[]=>true
 |i,prev,m::r=>((kindAt c m==1)==decide (i=0))&&(((kindAt c m==3)==decide (i+1=len))&&((decide (i=0)||hasLeg c prev m)&&rokS c len (i+1) m r))
def routeR(c:Course)(d:Distance)(r:List Int):Bool:=
 (decide (2<=r.length)&&decide (r.length<=256))&&(rokS c r.length 0 0 r&&((bif decide (0<=d.Extra)then !((r.count d.Extra:Int)==0)&&((kindAt c d.Extra==2)&&hasLeg c d.Extra d.Extra)else true)&&d.Cutoffs.all λx=>decide (x.Lap<=(r.count x.Mat:Int))))
def routeS(c:Course)(d:Distance):Bool:=routeR c d (expS [] d.Route)
def cntM(l:List Int):List (Int×Int):=l.foldl (λm k=>Yj m k (QN m k 0+1)) []
theorem QkA(l:List Int)(k:Int):cntM (l++[k])=Yj (cntM l) k (QN (cntM l) k 0+1):=by unfold cntM;rw[List.foldl_append];rfl
theorem Qfi(l:List Int)(k:Int):QN (cntM l) k 0=(l.count k:Int):=by
 have a:∀(l:List Int) (m:List (Int×Int)),QN (l.foldl (λm k=>Yj m k (QN m k 0+1)) m) k 0=QN m k 0+(l.count k:Int):=by
  intro l
  induction l with
  |nil=>intro m;simp
  |cons x l b=>
   intro m;rw[XD,b,QeQ,List.count_cons];by_cases h:k=x
   .subst h;simp;omega
   .have:(x==k)=false:=beq_false_of_ne λe=>h e.symm;simp[h,this]
 have:=a l [];simpa[cntM,Qkh]using this
theorem QiC(b:Int):∀(m:Nat) (l:List Part) (a:List Int),szPs l<=m->partsS b l=true->(∀x∈a,0<=x/\x<=b)->∀x∈expS a l,0<=x/\x<=b:=by
 intro m
 induction m using Nat.strongRecOn with
 |_ m y=>
 intro l;have j:∀(k:Nat) (a d:List Int),(∀x∈a,0<=x/\x<=b)->(∀x∈d,0<=x/\x<=b)->∀x∈repS k a d,0<=x/\x<=b:=by
  intro k
  induction k with
  |zero=>intro a d f _;rw[repS];exact f
  |succ k t=>
   intro a d f w;rw[repS];split
   .exact f
   .refine t _ _ ?_ w;intro x g;rcases VC.1 g with h|h
    .exact f x h
    .exact w x h
 have n:∀(r:List Part) (a:List Int),szPs r<=m->partsS b r=true->(∀x∈a,0<=x/\x<=b)->∀x∈expS a r,0<=x/\x<=b:=by
  intro r
  induction r with
  |nil=>intro a _ _ h;rw[expS];exact h
  |cons p r s=>
   intro a q i h;rw[szPs,Qad]at q;rw[partsS,XW]at i;obtain⟨e,B⟩:=i;rw[expS];refine s _ (by omega) B (j _ _ _ h ?_);rw[Qeh];rw[QeL]at e;cases u:(p.Laps==0)with
   |true=>
    have z:p.Laps=0:=by simpa using u
    rw[u,Vn,XW]at e;have:=e.1;unfold inR at this;simp only[XW,Vq]at this;rw[z];intro x g;simp at g;subst g;exact this
   |false=>
    rw[u]at e;simp only[Vp,XW,inR,Vq]at e;rw[QS (show 0<p.Laps by omega),Vn];exact y (szPs p.Parts) (by omega) p.Parts [] (XT _) e.2.2.2 (by simp)
 exact λa q i h=>n l a q i h
theorem Qjw{c:Course}{m:Int}(d:0<=m)(b:m<=(c.Mats.length:Int)-1):∃x:Mat,idx c.Mats m=some x/\x.Kind=kindAt c m:=by
 obtain⟨k,rfl⟩:∃k:Nat,m=(k:Int):=⟨m.toNat,by omega⟩;have a:k<c.Mats.length:=by omega
 refine⟨c.Mats[k],QJ (XK a),?_⟩;unfold kindAt;rw[Int.toNat_natCast,XK a];rfl
theorem Qhx(c:Course)(a b:Int):QN (Yd legKey true c.Legs) {from_:=a,to_:=b} false=hasLeg c a b:=by
 rw[QdN];unfold hasLeg;by_cases h:({from_:=a,to_:=b}:Ue)∈c.Legs.map legKey
 .rw[Vs h];obtain⟨l,d,e⟩:=Xe.1 h;unfold legKey at e;obtain⟨g,f⟩:=ends_eq.1 e;exact(Xt.2 ⟨l,d,by simp[g,f]⟩).symm
 .rw[Vr h]
  symm
  rw[VL];intro q;obtain⟨l,d,e⟩:=Xt.1 q;simp only[XW,Vx]at e;exact h (Xe.2 ⟨l,d,by unfold legKey;rw[e.1,e.2]⟩)
structure NumOk (c:Course):Prop where
 kinds:∀m∈c.Mats,1<=m.Kind/\m.Kind<=3
 dist:∀d∈c.Distances,-1<=d.Extra/\d.Extra<=(c.Mats.length:Int)-1/\partsS ((c.Mats.length:Int)-1) d.Route=true
theorem QmQ{c:Course}(h:numbersS c=true):NumOk c:=by
 unfold numbersS at h;simp only[XW,Xs]at h;refine⟨λm e=>?_,λd b=>?_⟩
 .have:=h.1 m e;unfold inR at this;simpa using this
 .have:=h.2.2.2.1 d b;unfold distS at this;simp only[XW]at this;obtain⟨_,a,f,_⟩:=this;unfold inR at a;simp only[XW,Vq]at a;exact⟨a.1,a.2,f⟩
theorem QoZ{c:Course}(q:NumOk c){d:Distance}(hd:d∈c.Distances):∀x∈expS [] d.Route,0<=x/\x<=(c.Mats.length:Int)-1:=
 QiC _ _ d.Route [] (XT _) (q.dist d hd).2.2 (by simp)
theorem Qlo(c:Course)(len i:Nat)(prev m:Int)(r:List Int):rokS c len i prev (m::r)=(((kindAt c m==1)==decide (i=0))&&(((kindAt c m==3)==decide (i+1=len))&&((decide (i=0)||hasLeg c prev m)&&rokS c len (i+1) m r))):=rfl
theorem Qnk(i:Nat):((i:Int)==0)=decide (i=0):=by
 rw[XX];simp
theorem QfF(c:Course)(r:List Int)(B:2<=r.length)(R:r.length<=256)(H:∀x∈r,0<=x/\x<=(c.Mats.length:Int)-1):
  Ev (λn=>iter (F_bo n c (Yd legKey true c.Legs) r) n ([],0)) (bif rokS c r.length 0 0 r then .cont (cntM r)else .done false):=by
 have loop:∀(t:List Int) (i:Nat) (b:Int),r.drop i=t->i<=r.length->(0<i->At r (i-1) b)->EvI (λn=>F_bo n c (Yd legKey true c.Legs) r) (cntM (r.take i),(i:Int)) (bif rokS c r.length i b t then .cont (cntM r)else .done false):=by
  intro t
  induction t with
  |nil=>
   intro i b f q _;refine Ej ?_;unfold F_bo;simp only[Yo f q,Vp,rokS,Vn];have:r.length<=i:=by simpa using f
   rw[VH this];exact Qa _
  |cons m t O=>
   intro i b f q M;obtain⟨d,k⟩:=QG (by omega) f;have y:=d.lt';obtain⟨P,E⟩:=H m d.mem;obtain⟨x,N,J⟩:=Qjw P E;have Q:IntKind.i64.wrap ((r.length:Int)-1)=((r.length-1:Nat):Int):=by rw[Qp (by omega) (by omega)];omega
   have u:((i:Int)==((r.length-1:Nat):Int))=decide (i+1=r.length):=by rw[XX];simp;omega
   have L:Ev (λn:Nat=>((bif ((x.Kind==1) != ((i:Int)==0))then some true else(bif ((x.Kind==3) != ((i:Int)==(IntKind.i64.wrap ((r.length:Int)-1))))then some true else(bif decide (0<(i:Int))then(idx r (IntKind.i64.wrap ((i:Int)-1))).bind λj=>(some (QN (Yd legKey true c.Legs) ({from_:=j,to_:=m:Ue}) false)).bind λg=>some (!g)else some false))):Option Bool))
     (!(((kindAt c m==1)==decide (i=0))&&(((kindAt c m==3)==decide (i+1=r.length))&&(decide (i=0)||hasLeg c b m)))):=by
    rw[J,Q,u,Qnk];refine Ev.eq (Eu λ_=>Eu λ_=>QbU (v:= !hasLeg c b m) (w:=false) (λh=>?_) λ_=>Qa _) ?_
    .have p:0<i:=by simpa using h
     have z:IntKind.i64.wrap ((i:Int)-1)=((i-1:Nat):Int):=by rw[Qp (by omega) (by omega)];omega
     rw[z,(M p).ix];simp only[XJ,Qhx];exact Qa _
    .have F:decide (0<(i:Int))= !decide (i=0):=by rw[XX];simp;omega
     rw[F];cases(kindAt c m==1)<;>cases decide (i=0)<;>cases(kindAt c m==3)<;>cases decide (i+1=r.length)<;>cases hasLeg c b m<;>rfl
   have e:IntKind.i64.wrap (QN (cntM (r.take i)) m 0+1)=QN (cntM (r.take i)) m 0+1:=by
    rw[Qfi];have:(r.take i).count m<=i:=by have:=List.count_le_length (a:=m) (l:=r.take i);simp at this;omega
    exact Qp (by omega) (by omega)
   have step:Ev (λn=>F_bo n c (Yd legKey true c.Legs) r (cntM (r.take i),(i:Int))) (bif ((kindAt c m==1)==decide (i=0))&&(((kindAt c m==3)==decide (i+1=r.length))&&(decide (i=0)||hasLeg c b m))then .cont (cntM (r.take (i+1)),((i+1:Nat):Int))else .done (.done false)):=by
    unfold F_bo;simp only[d.lt,Vn,d.ix,XJ,d.nx,N];refine Ea L ?_;rw[e, <- QkA, <- d.take];cases(((kindAt c m==1)==decide (i=0))&&(((kindAt c m==3)==decide (i+1=r.length))&&(decide (i=0)||hasLeg c b m)))<;>exact Qa _
   have G:rokS c r.length i b (m::t)=((((kindAt c m==1)==decide (i=0))&&(((kindAt c m==3)==decide (i+1=r.length))&&(decide (i=0)||hasLeg c b m)))&&rokS c r.length (i+1) m t):=by rw[Qlo];simp only[Bool.and_assoc]
   rw[G];cases s:(((kindAt c m==1)==decide (i=0))&&(((kindAt c m==3)==decide (i+1=r.length))&&(decide (i=0)||hasLeg c b m)))with
   |false=>
    rw[s]at step;exact Ej step
   |true=>
    rw[s]at step;rw[Vz];exact Ew step (O (i+1) m k (by omega) (λ_=>by simpa using d))
 exact(loop r 0 0 rfl (XU _) (by omega)).ev
theorem QiP(c:Course)(w:CourseOk c)(q:NumOk c)(d:Distance)(b:d∈c.Distances)(l:∀x∈d.Route,Part.wf x)(z:szPs d.Route<=256):
  Ev (λn=>F_ce n c d (Yd legKey true c.Legs)) (routeS c d):=by
 have j:=Qa5 d.Route;have i:=QoZ q b;have a:=QhQ _ d.Route [] (XT _);unfold F_ce routeS;refine Ea (Qkq _ _ d.Route (XT _) z (by omega) l (q.dist d b).2.2) ?_;generalize expS [] d.Route=r at i a⊢;unfold routeR;have t:IntKind.i64.wrap ((r.length:Int)-1)=(r.length:Int)-1:=by
  have:r.length<=1048576:=by simp at a;omega
  exact Qcw this
 rw[t];have y:(decide ((r.length:Int)-1<1)||decide (256<=(r.length:Int)-1))= !(decide (2<=r.length)&&decide (r.length<=256)):=by
  rw[XX];simp;omega
 refine Ea (Ev.eq (Eu λ_=>Qa _) y) ?_;cases g:(decide (2<=r.length)&&decide (r.length<=256))with
 |false=>exact Qa _
 |true=>
  simp only[XW,Vq]at g;rw[Vz];refine Yk (Ea (QfF c r g.1 g.2 i) ?_);cases rokS c r.length 0 0 r with
  |false=>exact Qa _
  |true=>
   simp only[Vn,Vz];have k:Ev (λn:Nat=>((bif decide (0<=d.Extra)then(some (QN (cntM r) d.Extra 0)).bind λe=>(bif (e==0)then some true else(idx c.Mats d.Extra).bind λf=>(bif (f.Kind != 2)then some true else(some (QN (Yd legKey true c.Legs) ({from_:=d.Extra,to_:=d.Extra:Ue}) false)).bind λh=>some (!h)))else some false):Option Bool))
     (!(bif decide (0<=d.Extra)then !((r.count d.Extra:Int)==0)&&((kindAt c d.Extra==2)&&hasLeg c d.Extra d.Extra)else true)):=by
    rw[Qfi];cases u:decide (0<=d.Extra)with
    |false=>exact Qa _
    |true=>
     obtain⟨x,p,s⟩:=Qjw (c:=c) (m:=d.Extra) (by simpa using u) (q.dist d b).2.1;simp only[Vn,XJ,p,Qhx,s];refine Ev.eq (Eu λ_=>Eu λ_=>Qa _) ?_;rw[bne];cases((r.count d.Extra:Int)==0)<;>cases(kindAt c d.Extra==2)<;>cases hasLeg c d.Extra d.Extra<;>rfl
   refine Ea k ?_;cases(bif decide (0<=d.Extra)then !((r.count d.Extra:Int)==0)&&((kindAt c d.Extra==2)&&hasLeg c d.Extra d.Extra)else true)with
   |false=>exact Qa _
   |true=>
    rw[Vz];refine Yk (Ea ?_ (Qa _));unfold F_el F_dk F_do;refine Y5 d.Cutoffs _ (λn x=>F_cl n x (cntM r)) (by have:=w.cut d b;omega) λx _=>?_;unfold F_cl;rw[Qfi];exact Qa _
theorem QdG{a b:Nat}(h:a+b<=4611686018427387904):IntKind.i64.wrap ((a:Int)+(b:Int))=((a+b:Nat):Int):=by
 rw[Qp (by omega) (by omega)];omega
def lensC(c:Course):Nat:=c.Mats.length+c.Legs.length+c.Distances.length+c.Waves.length+c.Offences.length+c.Categories.length+c.Prizes.length
def fewD(d:Distance):Prop:=d.Cutoffs.length<=200/\szPs d.Route<=200/\hPs d.Route<=16
structure FewOk (c:Course):Prop where
 lens:lensC c<=200
 name:c.Name.length<=100
 dist:∀d∈c.Distances,fewD d
 ties:c.Ties.length<=200
theorem QgT(c:Course)(w:CourseOk c)(q:PartsOk c)(R:c.Ties.length<=1048576)(P:∀x∈c.Ties,Step.wf x):∃b,Ev (λn=>F_cz n c) b/\(b=true->FewOk c):=by
 have hm:=w.mats;have hg:=w.legs;have hd:=w.dist;have J:=w.wave;have ho:=w.off;have hc:=w.cat;have hp:=w.prize;have loop:∀(t:List Distance) (i s:Nat),c.Distances.drop i=t->i<=c.Distances.length->∃f:Ctl Int Bool,EvI (λn=>F_bi n c) ((s:Int),(i:Int)) f/\(f=.done false\/ ∃v:Nat,f=.cont (v:Int)/\(v<=200->s<=v/\ ∀d∈t,fewD d)):=by
  intro t
  induction t with
  |nil=>
   intro i s r H;refine⟨.cont (s:Int),Ej ?_,Or.inr ⟨s,rfl,λ_=>⟨XT _,by simp⟩⟩⟩;unfold F_bi;simp only[Yo r H,Vp,XJ];exact Qa _
  |cons d t ih=>
   intro i s r H;obtain⟨g,y⟩:=QG (by omega) r;have L:=g.lt';by_cases T:s<=200
   .have j:=q.len d g.mem;have m:=q.wf d g.mem;have F:=w.cut d g.mem;have E:=QhV _ d.Route (XT _) j m;have G:=QhU _ d.Route 17 (XT _) (XT _) j m;have Y:IntKind.i64.wrap ((s:Int)+(d.Cutoffs.length:Int))=((s+d.Cutoffs.length:Nat):Int):=QdG (by omega);have Q:IntKind.i64.wrap (((s+d.Cutoffs.length:Nat):Int)+((min (szPs d.Route) 257:Nat):Int))=((s+d.Cutoffs.length+min (szPs d.Route) 257:Nat):Int):=QdG (by omega);have step:Ev (λn=>F_bi n c ((s:Int),(i:Int))) (bif decide ((16:Int)<((min (hPs d.Route) 17:Nat):Int))then .done (.done false)else .cont (((s+d.Cutoffs.length+min (szPs d.Route) 257:Nat):Int),((i+1:Nat):Int))):=by
     unfold F_bi;simp only[g.lt,Vn,g.ix,XJ,g.nx,QS (show(s:Int)<=200 by omega)];refine Ea E (Ea G ?_);rw[Y,Q];cases decide ((16:Int)<((min (hPs d.Route) 17:Nat):Int))<;>exact Qa _
    by_cases hh:hPs d.Route<=16
    .rw[QK (show¬(16:Int)<((min (hPs d.Route) 17:Nat):Int)by omega)]at step;obtain⟨f,p,k⟩:=ih (i+1) (s+d.Cutoffs.length+min (szPs d.Route) 257) y (by omega);refine⟨f,Ew step p,?_⟩;rcases k with k|⟨v,k,B⟩
     .exact Or.inl k
     .refine Or.inr ⟨v,k,λJ=>?_⟩;obtain⟨k4,u⟩:=B J;refine⟨by omega,λx z=>?_⟩;rcases X5.1 z with rfl|z
      .exact⟨by omega,by omega,hh⟩
      .exact u x z
    .rw[QS (show(16:Int)<((min (hPs d.Route) 17:Nat):Int)by omega)]at step;exact⟨.done false,Ej step,Or.inl rfl⟩
   .refine⟨.cont (s:Int),Ej ?_,Or.inr ⟨s,rfl,λh=>absurd h T⟩⟩;unfold F_bi;simp only[g.lt,Vn,QK (show¬(s:Int)<=200 by omega),XJ,Vp];exact Qa _
 obtain⟨f,p,k⟩:=loop c.Distances 0 (lensC c) rfl (XU _);have e:IntKind.i64.wrap ((IntKind.i64.wrap ((IntKind.i64.wrap ((IntKind.i64.wrap ((IntKind.i64.wrap ((IntKind.i64.wrap ((c.Mats.length:Int)+(c.Legs.length:Int)))+(c.Distances.length:Int)))+(c.Waves.length:Int)))+(c.Offences.length:Int)))+(c.Categories.length:Int)))+(c.Prizes.length:Int))=(lensC c:Int):=by
  have N:c.Mats.length+c.Legs.length<=4611686018427387904:=by omega
  have X:c.Mats.length+c.Legs.length+c.Distances.length<=4611686018427387904:=by omega
  have V:c.Mats.length+c.Legs.length+c.Distances.length+c.Waves.length<=4611686018427387904:=by omega
  have W:c.Mats.length+c.Legs.length+c.Distances.length+c.Waves.length+c.Offences.length<=4611686018427387904:=by omega
  have O:c.Mats.length+c.Legs.length+c.Distances.length+c.Waves.length+c.Offences.length+c.Categories.length<=4611686018427387904:=by omega
  have M:c.Mats.length+c.Legs.length+c.Distances.length+c.Waves.length+c.Offences.length+c.Categories.length+c.Prizes.length<=4611686018427387904:=by omega
  rw[QdG N,QdG X,QdG V,QdG W,QdG O,QdG M];rfl
 unfold F_cz;rw[e];rcases k with rfl|⟨v,rfl,B⟩
 .exact⟨false,Ea p.ev (Qa _),λh=>by cases h⟩
 .obtain⟨a,b,E,G,p3,_,_,_,_⟩:=Qnt _ c.Ties 0 (XT _) (by omega) R P;have l:Ev (λn=>F_da n c.Ties) (decide ((c.Ties.length:Int)<=20)&&(decide (a<=80)&&decide (b<=300))):=by
   unfold F_da;exact Ea E (Ea (Ei λ_=>Ei λ_=>Qa _) (Qa _))
  refine⟨decide ((v:Int)<=200)&&(decide ((c.Name.length:Int)<=100)&&(decide ((c.Ties.length:Int)<=20)&&(decide (a<=80)&&decide (b<=300)))),Ea p.ev (Ea (Ei λ_=>Ei λ_=>Ea l (Qa _)) (Qa _)),λh=>?_⟩;simp only[XW,Vq]at h;obtain⟨k4,u⟩:=B (by omega);exact⟨by omega,by omega,u,by omega⟩
def fitsS(c:Course):Bool:=
 !(decide (40<(c.Mats.length:Int))||(decide (512<(c.Legs.length:Int))||(decide (8<(c.Distances.length:Int))||(decide (32<(c.Waves.length:Int))||(decide (32<(c.Offences.length:Int))||(decide (32<(c.Categories.length:Int))||decide (32<(c.Prizes.length:Int))))))))
  &&c.Distances.all λd=> !decide (64<(d.Cutoffs.length:Int))
theorem Qnu(c:Course)(w:CourseOk c)(q:PartsOk c)(k:FewOk c):Ev (λn=>F_cg n c) (fitsS c):=by
 unfold F_cg fitsS;refine Ea (Eu λ_=>Eu λ_=>Eu λ_=>Eu λ_=>Eu λ_=>Eu λ_=>Qa _) ?_;cases(decide (40<(c.Mats.length:Int))||(decide (512<(c.Legs.length:Int))||(decide (8<(c.Distances.length:Int))||(decide (32<(c.Waves.length:Int))||(decide (32<(c.Offences.length:Int))||(decide (32<(c.Categories.length:Int))||decide (32<(c.Prizes.length:Int))))))))with
 |true=>exact Qa _
 |false=>
  rw[Xh,Vz];refine Yk (Ea (Qk1 c.Distances (λd=> !decide (64<(d.Cutoffs.length:Int))) (Ctl.done false) (Ctl.cont ()) (by have:=w.dist;omega) (λi x a=>?_) ?_) ?_)
  .obtain⟨e,b,f⟩:=k.dist x a.mem;unfold F_hd;simp only[a.lt,Vn,a.ix,XJ,a.nx];refine Ea (Qmb _ x.Route 17 (XT _) (by omega) (XT _) (by omega) (q.wf x a.mem)) ?_;refine Ea (Eu λ_=>Eu λ_=>Qa _) ?_;simp only[QK (show¬(16:Int)<(hPs x.Route:Int)by omega),QK (show¬(256:Int)<(szPs x.Route:Int)by omega),Bool.or_false];cases decide (64<(x.Cutoffs.length:Int))<;>exact Qa _
  .unfold F_hd;simp only[Qdr,Vp];exact Qa _
  .cases(c.Distances.all λd=> !decide (64<(d.Cutoffs.length:Int)))<;>exact Qa _
def courseE(c:Course):Int:=
 bif fitsS c then bif namesS c then bif numbersS c then bif tiesE c.Ties==0 then bif c.Distances.all (routeS c)then 0 else 72 else tiesE c.Ties else 71 else 70 else 2
theorem Qkt(c:Course)(w:CourseOk c)(q:PartsOk c)(k:FewOk c)(f:c.Ties.length<=1048576)(e:∀x∈c.Ties,Step.wf x):Ev (λn=>F_n n c) (courseE c):=by
 unfold F_n courseE;refine Ea (Qnu c w q k) ?_;cases fitsS c with
 |false=>exact Qa _
 |true=>
 refine Yk (Ea (Ql9 c w) ?_);cases namesS c with
 |false=>exact Qa _
 |true=>
 refine Yk (Ea (QiO c w q) ?_);cases d:numbersS c with
 |false=>exact Qa _
 |true=>
 refine Yk (Ea (Qnw c.Ties f e) ?_);rw[bne];cases(tiesE c.Ties==0)with
 |false=>exact Qa _
 |true=>
 have g:Ev (λn=>iter (F_gx n c) n ([],0)) (Yd legKey true c.Legs):=by
  refine Qbv c.Legs legKey true (by have:=w.legs;omega) (λi x m a=>?_) (λm=>?_)
  .unfold F_gx;simp only[a.lt,Vn,a.ix,XJ,a.nx];exact Qa _
  .unfold F_gx;simp only[Qdr,Vp];exact Qa _
 refine Yk (Ea g ?_);have a:Ev (λn=>F_cd n c.Distances c (Yd legKey true c.Legs)) (c.Distances.all (routeS c)):=by
  unfold F_cd F_dg F_fx;refine Y5 c.Distances _ (λn x=>F_bu n x c (Yd legKey true c.Legs)) (by have:=w.dist;omega) λx b=>?_;unfold F_bu;exact Ea (QiP c w (QmQ d) x b (q.wf x b) (by have:=(k.dist x b).2.1;omega)) (Qa _)
 refine Ea a ?_;cases c.Distances.all (routeS c)<;>exact Qa _
theorem Qjl{α:Type}(l:List α){a b:Nat}(h:a<=b)(d:b<=l.length):slc l (a:Int) (b:Int)=some ((l.take b).drop a):=by
 unfold slc;rw[QS (show(0:Int)<=(a:Int)by omega),QS (show(a:Int)<=(b:Int)by omega),QS (show(b:Int)<=(l.length:Int)by omega)];simp
theorem Qit{α:Type}(l:List α){b:Nat}(a:b<=l.length):slc l 0 (b:Int)=some (l.take b):=by
 have:=Qjl l (XU b) a;simpa using this
theorem Qhl{α:Type}(l:List α){a:Nat}(b:a<=l.length):slc l (a:Int) (l.length:Int)=some (l.drop a):=by
 have:=Qjl l b (XT _);simpa using this
theorem QcR{α:Type}(l m:List α)(h:l.length+m.length<=4294967296):app l m=some (l++m):=by
 unfold app;rw[XS (by unfold Q3;exact h)];rfl
theorem QaH{α:Type}(l:List α){i:Nat}(x:α)(h:i<l.length):QaZ l (i:Int) x=some (l.set i x):=by
 unfold QaZ;rw[QS (show(0:Int)<=(i:Int)by omega),QS (show(i:Int)<(l.length:Int)by omega)];simp
def firstI{α:Type}(q:α->Bool):List α->Nat->Int
 |[],_=> -1
 |x::l,i=>bif q x then(i:Int)else firstI q l (i+1)
theorem Ev.first{α:Type}{step:Nat->Int->Option (Ctl Int (Ctl Unit Int))}(l:List α)(q:α->Bool)(t:l.length<=4611686018427387904)
  (u:∀i x,At l i x->Ev (λn=>step n (i:Int)) (bif q x then .done (.done (i:Int))else .cont ((i+1:Nat):Int)))(m:Ev (λn=>step n (l.length:Int)) (.done (.cont ()))):
  Ev (λn=>(Go.Sw.iter (step n) n 0).bind λb=>match b with|.cont _=>some (-1)|.done v=>some v) (firstI q l 0):=by
 have loop:∀(r:List α) (i:Nat),l.drop i=r->i<=l.length->∃a:Ctl Unit Int,EvI step (i:Int) a/\(match a with|.cont _=>some (-1)|.done v=>some v)=some (firstI q r i):=by
  intro r
  induction r with
  |nil=>
   intro i d k;have:i=l.length:=by have:=Xq.1 d;omega
   subst this;exact⟨.cont (),Ej m,rfl⟩
  |cons x r p=>
   intro i d k;obtain⟨j,g⟩:=QG t d;have s:=u i x j;unfold firstI;cases h:q x with
   |true=>
    rw[h]at s;exact⟨_,Ej s,rfl⟩
   |false=>
    rw[h]at s;obtain⟨a,f,e⟩:=p (i+1) g (by have:=j.lt';omega);exact⟨a,Ew s f,e⟩
 obtain⟨a,f,e⟩:=loop l 0 rfl (XU _);exact Ea f.ev (Ez e)
theorem QdS{α:Type}(q:α->Bool):∀(l:List α) (i:Nat),(firstI q l i= -1/\l.all (λx=> !q x)=true)\/ ∃j x,firstI q l i=((i+j:Nat):Int)/\l[j]?=some x/\q x=true/\(l.take j).all (λx=> !q x)=true
 |[],_=>.inl ⟨rfl,rfl⟩
 |x::l,i=>by
  unfold firstI;cases h:q x with
  |true=>exact .inr ⟨0,x,rfl,rfl,h,rfl⟩
  |false=>
   rcases QdS q l (i+1)with⟨h1,h2⟩|⟨j,y,h1,h2,h3,h4⟩
   .exact .inl ⟨h1,by simp[h,h2]⟩
   .refine .inr ⟨j+1,y,by rw[Vp,h1];congr 1;omega,h2,h3,by simp[h,h4]⟩
theorem Qe0{α:Type}{p:α->Bool}{l:List α}(h:l.all p=true):l.filter p=l:=List.filter_eq_self.2 (Xs.1 h)
theorem Qk0{α:Type}{first:Nat->Option Int}{step:Nat->List α×Int×Int->Option (Ctl (List α×Int×Int) (List α×Int))}(l0:List α)(q:α->Bool)(hl:l0.length<=1048576)
  (N:Ev first (firstI q l0 0))
  (V:∀(l:List α) (i j:Nat) x y,l.length<=1048576->At l j x->l[i]?=some y->x∈l0->i<=j->Ev (λn=>step n (l,(i:Int),(j:Int))) (.cont (bif q x then l else l.set i x,(bif q x then(i:Int)else((i+1:Nat):Int)),((j+1:Nat):Int))))
  (Q:∀(l:List α) (i:Int),Ev (λn=>step n (l,i,(l.length:Int))) (.done (l,i))):
  Ev (λn=>(first n).bind λr1=>bif r1== -1 then some l0 else(Go.Sw.iter (step n) n (l0,r1,IntKind.i64.wrap (r1+1))).bind λb=>(slc b.1 0 b.2).bind λx=>some x) (l0.filter λx=> !q x):=by
 refine Ea N ?_;rcases QdS q l0 0 with⟨F,G⟩|⟨B,P,F,G,W,X⟩
 .rw[F,Qe0 G];exact Qa _
 .have T:=(XL.1 G).1;rw[Xv]at F;rw[F];have R:(((B:Nat):Int)== -1)=false:=by simp
  rw[R,QO (by omega)];have loop:∀(r l:List α) (i j:Nat),l0.drop j=r->j<=l0.length->i<j->l.length=l0.length->l.drop j=l0.drop j->l.take i=(l0.take j).filter (λx=> !q x)->∃d:List α,∃g:Nat,EvI step (l,(i:Int),(j:Int)) (d,(g:Int))/\g<=d.length/\d.take g=l0.filter λx=> !q x:=by
   intro r
   induction r with
   |nil=>
    intro l i j E Y J a t f;have:j=l.length:=by have:=Xq.1 E;omega
    subst this;refine⟨l,i,Ej (Q l _),by omega,?_⟩;rw[f,a,X8]
   |cons x r M=>
    intro l i j E Y J a t f;have H:l.drop j=x::r:=by rw[t,E]
    obtain⟨L,p⟩:=QG (by omega) H;obtain⟨k,e⟩:=QG (by omega) E;have O:=L.lt';have s:=V l i j x l[i] (by omega) L (XK (by omega)) k.mem (by omega);cases h:q x with
    |true=>
     rw[h]at s;obtain⟨d,g,w,m,u⟩:=M l i (j+1) e (by omega) (by omega) a (by rw[p,e]) (by rw[k.take,List.filter_append,f];simp[h]);exact⟨d,g,Ew s w,m,u⟩
    |false=>
     rw[h]at s;obtain⟨d,g,w,m,u⟩:=M (l.set i x) (i+1) (j+1) e (by omega) (by omega) (by simpa using a) (by rw[List.drop_set_of_lt (by omega),p,e])
      (by
       rw[k.take,List.filter_append, <- f];have:i<(l.set i x).length:=by simp;omega
       rw[List.take_add_one,XK this];simp[h,List.take_set_of_le])
     exact⟨d,g,Ew s w,m,u⟩
  have z:l0.take (B+1)=l0.take B++[P]:=by rw[List.take_add_one,G];rfl
  obtain⟨d,g,w,m,u⟩:=loop _ l0 B (B+1) rfl (by omega) (by omega) rfl rfl (by rw[z,List.filter_append,Qe0 X];simp[W]);refine Yk (Ea w.ev ?_);rw[<- u];exact Ez (by simp[Qit d m])
theorem QaP{ι α:Type}{F:Nat->ι->Option α}{V:ι->α}:∀(L:List ι),(∀p∈L,Ev (λn=>F n p) (V p))->∃N,∀n,N<=n->∀p∈L,F n p=some (V p)
 |[],_=>⟨0,λ_ _ p hp=>by cases hp⟩
 |x::L,h=>by
  obtain⟨N,hN⟩:=QaP L λp hp=>h p (by simp[hp]);obtain⟨M,hM⟩:=h x (by simp);refine⟨N+M,λn hn p hp=>?_⟩;rcases X5.1 hp with rfl|hp
  .exact hM n (by omega)
  .exact hN n (by omega) p hp
theorem Ev.anyP{E R:Type}[DecidableEq R]{k:Nat->List E->Option R}{l:List E}{r:R}(h:∀p,p.Perm l->Ev (λn=>k n p) r):Ev (λn=>Go.Sw.anyP (k n) l) r:=by
 obtain⟨N,b⟩:=QaP (F:=λn p=>k n p) (V:=λ_=>r) (QbK l) λp a=>h p (Qcl l p a);exact⟨N,λn d=>QnF λp a=>b n d p (Qde l p a)⟩
theorem Ev.isNil{α R:Type}[DecidableEq R]{l:List α}{x y:Nat->Option R}{v:R}(d:l=[]->Ev x v)(a:Ev y v):Ev (λn=>Go.Sw.isNil l (x n) (y n)) v:=by
 unfold Go.Sw.isNil;cases q:l.isEmpty with
 |false=>exact a
 |true=>
  obtain⟨N,b⟩:=d (List.isEmpty_iff.1 q);obtain⟨M,e⟩:=a;exact⟨N+M,λn f=>by dsimp only;rw[b n (by omega),e n (by omega)];simp⟩
set_option maxRecDepth 4000
def openU(f:Fact):U_facts_open_rxk:=
 bif f.Kind==1 then .c0 ()else bif f.Kind==2 then .c1 ()else bif f.Kind==3 then .c2 ()else bif f.Kind==4 then .c3 ()else bif f.Kind==5 then .c4 ()else bif f.Kind==6 then .c5 ()
 else bif f.Kind==7 then .c6 ()else bif f.Kind==8 then .c7 ()else bif f.Kind==9 then .c8 ()else bif f.Kind==10 then
  (bif (f.Ruling.Kind==1)||(f.Ruling.Kind==2)then .c9 (0,0,0,0,0,0)else bif f.Ruling.Kind==3 then .c9 (1,9999,0,255,1,1099511627776)else bif f.Ruling.Kind==4 then .c9 (1,9999,0,255,1,64)else .c9 (1,9999,0,255,0,0))
 else bif f.Kind==11 then .c10 ()else bif f.Kind==12 then .c11 ()else bif f.Kind==13 then .c12 ()else .c13 ()
theorem Qjs(n:Nat)(f:Fact)(b:Int):F_al n f b=some (openU f):=by
 unfold F_al openU;cases(f.Kind==1)with
 |true=>rfl
 |false=>
 cases(f.Kind==2)with
 |true=>rfl
 |false=>
 cases(f.Kind==3)with
 |true=>rfl
 |false=>
 cases(f.Kind==4)with
 |true=>rfl
 |false=>
 cases(f.Kind==5)with
 |true=>rfl
 |false=>
 cases(f.Kind==6)with
 |true=>rfl
 |false=>
 cases(f.Kind==7)with
 |true=>rfl
 |false=>
 cases(f.Kind==8)with
 |true=>rfl
 |false=>
 cases(f.Kind==9)with
 |true=>rfl
 |false=>
 cases(f.Kind==10)with
 |true=>
  cases(f.Ruling.Kind==1)with
  |true=>rfl
  |false=>
  cases(f.Ruling.Kind==2)with
  |true=>rfl
  |false=>
  cases(f.Ruling.Kind==3)with
  |true=>rfl
  |false=>
  cases(f.Ruling.Kind==4)with
  |true=>rfl
  |false=>rfl
 |false=>
 cases(f.Kind==11)with
 |true=>rfl
 |false=>
 cases(f.Kind==12)with
 |true=>rfl
 |false=>
 cases(f.Kind==13)with
 |true=>rfl
 |false=>rfl
def headL:List Ent:=[⟨false,3,1,13⟩,⟨false,0,0,31⟩,⟨false,1,1,1048576⟩,⟨false,2,0,1099511627776⟩]
def bodyL:U_facts_open_rxk->List Ent
 |.c0 _=>[⟨false,4,1,9999⟩,⟨false,5,0,7⟩,⟨false,6,0,31⟩,⟨false,7,(-1099511627776),1099511627776⟩,⟨false,8,0,120⟩,⟨false,9,0,1048576⟩,⟨false,10,0,9999⟩,⟨false,11,0,1048576⟩]
 |.c1 _=>[⟨false,12,0,39⟩,⟨false,13,0,255⟩,⟨false,14,0,1048576⟩,⟨false,15,(-1099511627776),1099511627776⟩]
 |.c2 _=>[⟨false,16,0,39⟩,⟨false,17,0,255⟩,⟨false,18,(-1099511627776),1099511627776⟩,⟨false,19,(-1099511627776),1099511627776⟩,⟨false,20,0,1099511627776⟩]
 |.c3 _=>[⟨false,21,0,39⟩,⟨false,22,0,255⟩,⟨false,23,(-1099511627776),1099511627776⟩,⟨false,24,0,39⟩,⟨false,25,0,255⟩,⟨false,26,(-1099511627776),1099511627776⟩,⟨false,27,(-1099511627776),1099511627776⟩,⟨false,28,(-1099511627776),1099511627776⟩]
 |.c4 _=>[⟨false,29,1,9999⟩,⟨false,30,0,255⟩,⟨false,31,(-1099511627776),1099511627776⟩,⟨false,32,(-1099511627776),1099511627776⟩]
 |.c5 _=>[⟨false,33,0,39⟩,⟨false,34,0,255⟩,⟨false,35,(-1099511627776),1099511627776⟩,⟨false,36,(-1099511627776),1099511627776⟩]
 |.c6 _=>[⟨false,37,1,9999⟩,⟨false,38,1,9999⟩]
 |.c7 _=>[⟨false,39,1,1048576⟩,⟨false,40,1,9999⟩,⟨false,41,0,31⟩,⟨false,42,0,255⟩]
 |.c8 _=>[⟨false,43,1,1048576⟩,⟨false,44,0,9999⟩,⟨false,45,0,1125899906842624⟩,⟨false,46,0,1⟩]
 |.c9 x=>[⟨false,47,1,1048576⟩,⟨false,48,1,2⟩,⟨false,49,1,5⟩,⟨false,50,x.1,x.2.1⟩,⟨false,51,x.2.2.1,x.2.2.2.1⟩,⟨false,52,x.2.2.2.2.1,x.2.2.2.2.2⟩]
 |.c10 _=>[⟨false,53,1,1048576⟩,⟨true,0,0,1⟩]
 |.c11 _=>[]
 |.c12 _=>[⟨false,55,0,31⟩,⟨false,56,1,1048576⟩]
 |.c13 _=>[]
def fineU(f:Fact):U_facts_open_rxk->Bool
 |.c3 _=>decide (f.Sync.Min<=f.Sync.Max)
 |.c4 _=>decide (f.Hand.Lo<=f.Hand.Hi)
 |.c5 _=>decide (f.Silence.Lo<=f.Silence.Hi)
 |.c6 _=>decide (f.Pair.A<f.Pair.B)
 |.c13 _=>false
 |_=>true
def entsS(f:Fact):List Ent:=headL++bodyL (openU f)
def goodE(e:Ent):Bool:=bif e.fl then e.off==0 else decide (e.off<57)&& !(e.off==54)
theorem Qkv(f:Fact):∀e∈entsS f,goodE e=true:=by
 have h:∀u:U_facts_open_rxk,(headL++bodyL u).all goodE=true:=by intro u;cases u<;>rfl
 exact Xs.1 (h (openU f))
theorem Qfe(f:Fact):(entsS f).length<=12:=by
 have h:∀u:U_facts_open_rxk,(headL++bodyL u).length<=12:=by intro u;cases u<;>exact XR rfl
 exact h (openU f)
def isI:Option A->Bool
 |some (.int .i64 _)=>true
 |_=>false
theorem QoV{x:Option A}(h:isI x=true):∃v,x=some (.int .i64 v):=by
 unfold isI at h;split at h
 .exact⟨_,rfl⟩
 .cases h
theorem QlT{f:Fact}{b:Int}{e:Ent}(h:goodE e=true):∃v,QfE (Fact.c f) b e=some v:=by
 unfold goodE at h;unfold QfE;cases a:e.fl with
 |true=>
  rw[a]at h;simp only[Vn]at h⊢;rw[h];exact⟨b,rfl⟩
 |false=>
  rw[a]at h;simp only[Vp,XW,Vq,Bool.not_eq_true']at h⊢;have all:(List.range 57).all (λo=>(o==54)||isI (Fact.c f)[o]?)=true:=by rfl
  have:=Xs.1 all e.off (List.mem_range.2 h.1);rw[h.2,Bool.false_or]at this;obtain⟨v,d⟩:=QoV this;rw[d];exact⟨v,rfl⟩
theorem Qlr{x:Fact}{s v:Int}{e:Ent}(h:goodE e=true):∃q,Qiz Fact.put x s e v=some q:=by
 unfold goodE at h;unfold Qiz;cases a:e.fl with
 |true=>
  rw[a]at h;simp only[Vn]at h⊢;rw[h];exact⟨_,rfl⟩
 |false=>
  rw[a]at h;simp only[Vp,XW,Vq,Bool.not_eq_true']at h⊢;have all:(List.range 57).all (λo=>(o==54)||(Fact.put x o v).isSome)=true:=by rfl
  have:=Xs.1 all e.off (List.mem_range.2 h.1);rw[h.2,Bool.false_or]at this;obtain⟨y,b⟩:=Option.isSome_iff_exists.1 this;rw[b];exact⟨_,rfl⟩
def getV(f:Fact)(b:Int)(e:Ent):Int:=(QfE (Fact.c f) b e).getD 0
def putV(x:Fact)(s:Int)(e:Ent)(v:Int):Fact×Int:=(Qiz Fact.put x s e v).getD (x,s)
theorem QlU{f:Fact}{b:Int}{e:Ent}(h:goodE e=true):QfE (Fact.c f) b e=some (getV f b e):=by
 obtain⟨v,a⟩:=QlT (f:=f) (b:=b) h;unfold getV;rw[a];rfl
theorem Qou{x:Fact}{s v:Int}{e:Ent}(h:goodE e=true):Qiz Fact.put x s e v=some (putV x s e v):=by
 obtain⟨q,a⟩:=Qlr (x:=x) (s:=s) (v:=v) h;unfold putV;rw[a];rfl
def inE(f:Fact)(b:Int)(e:Ent):Bool:= !(decide (getV f b e<e.lo))&& !(decide (e.hi<getV f b e))
def numR(f:Fact)(b:Int):List Ent->List Int×Fact×Int->Ctl (List Int×Fact×Int) (List Int×Bool)
 |[],a=>.cont a
 |e::r,a=>bif inE f b e then numR f b r (a.1++[getV f b e],putV a.2.1 a.2.2 e (getV f b e))else .done ([],false)
theorem Qg0{α:Type}(l m:List α)(h:l.length+m.length<=1000):app l m=some (l++m):=by
 unfold app;have:Nat.ble (l.length+m.length) Q3=true:=XS (XV h (by decide));rw[this];rfl
theorem Qnj(f:Fact)(b:Int)(E:List Ent)(hE:∀e∈E,goodE e=true)(u:E.length<=12):∀(r:List Ent) (i:Nat) (a:List Int×Fact×Int),E.drop i=r->i<=E.length->a.1.length=i->
  EvI (λn=>F_df n f b E E) (a.1,a.2.1,a.2.2,(i:Int)) (numR f b r a):=by
 intro r
 induction r with
 |nil=>
  intro i a j p g;refine Ej ?_;unfold F_df;simp only[Yo j p,Vp];exact Qa _
 |cons e r t=>
  intro i a j p k;obtain⟨g,m⟩:=QG (by omega) j;have l:=hE e g.mem;have s:=g.lt';unfold numR;cases d:inE f b e with
  |true=>
   have h:=d;unfold inE at h;simp only[XW,Bool.not_eq_true']at h;refine Ew ?_ (t (i+1) (a.1++[getV f b e],putV a.2.1 a.2.2 e (getV f b e)) m (by omega) (by simp[k]));unfold F_df;simp only[g.lt,Vn,g.ix,XJ,g.nx,QlU l,h.1,h.2,Vp,Qou l];rw[Qg0 a.1 [getV f b e] (by simp;omega)];exact Qa _
  |false=>
   refine Ej ?_;unfold F_df;simp only[g.lt,Vn,g.ix,XJ,QlU l];unfold inE at d;cases q:decide (getV f b e<e.lo)with
   |true=>exact Qa _
   |false=>
    rw[q]at d;simp only[Xh,Vz,Bool.not_eq_false']at d;simp only[Vp,d,Vn];exact Qa _
def suspB(f:Fact):Int:=bif f.Appeal.Suspends then 1 else 0
def restS(f:Fact):Fact:={Ul with Ruling:={Ur with Kind:=f.Ruling.Kind:Ruling},Kind:=f.Kind:Fact}
def lastF(f x:Fact)(s:Int):Fact:=
 let y:Fact:=bif f.Kind != 10 then {x with Ruling:={x.Ruling with Kind:=0:Ruling}:Fact}else x
 {y with Appeal:={Case:=y.Appeal.Case,Suspends:=s==1:Appeal}:Fact}
def numF(f:Fact):List Int×Bool:=bif fineU f (openU f)then(match numR f (suspB f) (entsS f) ([],restS f,0)with
  |.cont a=>(a.1,lastF f a.2.1 a.2.2==f)
  |.done r=>r)else([],false)
theorem Qkz(n:Nat)(f:Fact):F_cw n ({Ul with Ruling:={Ur with Kind:=f.Ruling.Kind:Ruling}:Fact}) 0 f=some (entsS f):=by
 have a:openU ({({Ul with Ruling:={Ur with Kind:=f.Ruling.Kind:Ruling}:Fact})with Kind:=f.Kind:Fact})=openU f:=rfl;unfold F_cw entsS;rw[Qjs];simp only[XJ];rw[a];unfold F_ar;generalize openU f=u;cases u<;>(simp only[XJ];unfold bodyL;exact congrArg (Option.bind · _) (Qg0 _ _ (by simp)))
theorem QjK(f:Fact):Ev (λn=>F_am n f) (numF f):=by
 unfold F_am;refine Ea (v:=suspB f) ?_ ?_
 .unfold suspB;cases f.Appeal.Suspends<;>exact Qa _
 refine Ea (v:=bif fineU f (openU f)then .cont (bodyL (openU f))else .done ([],false)) ?_ ?_
 .simp only[Qjs,XJ];unfold F_b F_di F_dn F_ev F_ew;generalize openU f=u;cases u with
  |c3=>unfold fineU;cases decide (f.Sync.Min<=f.Sync.Max)<;>exact Qa _
  |c4=>unfold fineU;cases decide (f.Hand.Lo<=f.Hand.Hi)<;>exact Qa _
  |c5=>unfold fineU;cases decide (f.Silence.Lo<=f.Silence.Hi)<;>exact Qa _
  |c6=>unfold fineU;cases decide (f.Pair.A<f.Pair.B)<;>exact Qa _
  |_=>exact Qa _
 unfold numF;cases fineU f (openU f)with
 |false=>exact Qa _
 |true=>
  simp only[Vn];have e:app headL (bodyL (openU f))=some (entsS f):=Qg0 _ _ (by have:=Qfe f;unfold entsS at this;rw[X2]at this;omega);unfold F_ar;simp only[XJ];refine Ea (Ez e) ?_;refine Ea (Ez (Qkz 0 f)) ?_;refine Ea (Qnj f (suspB f) (entsS f) (Qkv f) (Qfe f) (entsS f) 0 ([],restS f,0) rfl (XU _) rfl).ev ?_;cases numR f (suspB f) (entsS f) ([],restS f,0)with
  |done r=>exact Qa _
  |cont a=>
   simp only;refine Ea (v:=bif f.Kind != 10 then {a.2.1 with Ruling:={a.2.1.Ruling with Kind:=0:Ruling}:Fact}else a.2.1) ?_ (Qa _);cases(f.Kind != 10)<;>exact Qa _
def validS(f:Fact):Bool:=(numF f).2
theorem QfG(f:Fact):Ev (λn=>F_cq n f) (bif validS f then 0 else 120):=by
 unfold F_cq;refine Ea (QjK f) ?_;unfold validS;cases(numF f).2<;>exact Qa _
theorem Qip{f:Fact}(h:validS f=true):(f.Kind==0)=false:=by
 cases q:(f.Kind==0)with
 |false=>rfl
 |true=>
  have b:f.Kind=0:=by simpa using q
  have a:openU f=.c13 ():=by unfold openU;rw[b];rfl
  unfold validS numF at h;rw[a]at h;cases h
set_option maxRecDepth 4000
def numN(v:Nat):List Int:=if h:128<=v then orI .u8 (IntKind.u8.wrap (v:Int)) 128::numN (v/128)else[IntKind.u8.wrap (v:Int)]
termination_by v
decreasing_by omega
theorem QeP{v:Nat}(h:128<=v):numN v=orI .u8 (IntKind.u8.wrap (v:Int)) 128::numN (v/128):=by
 rw[numN,dif_pos h]
theorem QaJ{v:Nat}(h:¬128<=v):numN v=[IntKind.u8.wrap (v:Int)]:=by
 rw[numN,dif_neg h]
theorem shr7(v:Nat):QV .u64 (v:Int) 7=((v/128:Nat):Int):=by
 show Int.fdiv (v:Int) (2^7)=_;rw[Int.fdiv_eq_ediv_of_nonneg _ (by decide)];omega
theorem QlI:∀(k v:Nat),v<128^(k+1)->(numN v).length<=k+1:=by
 intro k
 induction k with
 |zero=>
  intro v a;rw[QaJ (by omega)];simp
 |succ k b=>
  intro v a;by_cases h:128<=v
  .rw[QeP h,XZ];have:=b (v/128) (by rw[Nat.div_lt_iff_lt_mul (by decide)];rw[Nat.pow_succ]at a;exact a);omega
  .rw[QaJ h];simp
theorem QgC:∀(k v:Nat) (l:List Int),v<128^(k+1)->l.length+k<4294967296->∃(l':List Int) (a:Nat),EvI (λn=>F_fs n) (l,(v:Int)) (l',(a:Int))/\l'++[IntKind.u8.wrap (a:Int)]=l++numN v/\l'.length<=l.length+k:=by
 intro k
 induction k with
 |zero=>
  intro v l b i;refine⟨l,v,Ej ?_,by rw[QaJ (by omega)],XT _⟩;unfold F_fs;simp only[QK (show¬(128:Int)<=(v:Int)by omega),Vp];exact Qa _
 |succ k f=>
  intro v l b i;by_cases h:128<=v
  .obtain⟨l',a,g,e,d⟩:=f (v/128) (l++[orI .u8 (IntKind.u8.wrap (v:Int)) 128]) (by rw[Nat.div_lt_iff_lt_mul (by decide)];rw[Nat.pow_succ]at b;exact b) (by simp;omega);refine⟨l',a,Ew ?_ g,?_,?_⟩
   .unfold F_fs;simp only[QS (show(128:Int)<=(v:Int)by omega),Vn,shr7];rw[Qb1 l _ (by omega)];exact Qa _
   .rw[e,QeP h];simp
   .simp at d;omega
  .refine⟨l,v,Ej ?_,by rw[QaJ h],by omega⟩;unfold F_fs;simp only[QK (show¬(128:Int)<=(v:Int)by omega),Vp];exact Qa _
theorem Qfc(v:Nat)(l:List Int)(b:v<18446744073709551616)(h:l.length<=1000000):Ev (λn=>F_z n l (v:Int)) (l++numN v):=by
 obtain⟨e,f,d,a,g⟩:=QgC 9 v l (Ve b (by decide)) (by omega);unfold F_z;refine Ea d.ev ?_;simp only;rw[Qb1 e _ (by omega),a];exact Qa _
theorem QeN{v:Nat}(hv:v<18446744073709551616):(numN v).length<=10:=QlI 9 v (Ve hv (by decide))
def zigI(x:Int):Int:=Qer .u64 (Qey .u64 (IntKind.u64.wrap x) 1) (IntKind.u64.wrap (QV .i64 x 63))
theorem wrapU(x:Int):0<=IntKind.u64.wrap x/\IntKind.u64.wrap x<18446744073709551616:=by
 have e:IntKind.u64.wrap x=x%18446744073709551616:=by
  unfold IntKind.wrap;rfl
 rw[e];omega
theorem Qgq(x:Int):∃z:Nat,zigI x=(z:Int)/\z<18446744073709551616:=by
 have h:=wrapU ((BitVec.ofInt IntKind.u64.bits (Qey .u64 (IntKind.u64.wrap x) 1)^^^BitVec.ofInt IntKind.u64.bits (IntKind.u64.wrap (QV .i64 x 63))).toNat);refine⟨(zigI x).toNat,?_,?_⟩
 .unfold zigI Qer;omega
 .unfold zigI Qer;omega
def oneB(x:Int):List Int:=1::numN (zigI x).toNat
theorem Qhs(x:Int):(oneB x).length<=11:=by
 obtain⟨z,a,b⟩:=Qgq x;unfold oneB;rw[a];have:=QeN b;simp;omega
theorem QhS(l:List Int)(x:Int)(e:l.length<=100000):Ev (λn=>F_as n l ({Kind:=1,N:=x,S:=[],L:=[]:Value})) (l++oneB x):=by
 unfold F_as F_au;rw[Qb1 l 1 (by omega)];simp only[XJ];obtain⟨z,b,d⟩:=Qgq x;have a:=b;unfold zigI at a;rw[a];refine Ea (Qfc z (l++[1]) d (by simp;omega)) ((Qa _).eq ?_);unfold oneB;rw[b];simp
def mkV(x:Int):Value:={Kind:=1,N:=x,S:=[],L:=[]:Value}
def listV(l:List Int):Value:={Kind:=3,N:=0,S:=[],L:=l.map mkV:Value}
theorem QiK(x:Int):Ev (λn=>F_j n (mkV x)) (0,true):=by
 refine Y4 ?_;show Ev (λn=>B_j (F_j n) n (mkV x)) _;unfold B_j mkV;simp only;cases(x==0)with
 |true=>exact Qa _
 |false=>exact Qa _
theorem QhF(l:List Int)(f:l.length<=1000):Ev (λn=>F_j n (listV l)) (1,true):=by
 refine Y4 ?_;show Ev (λn=>B_j (F_j n) n (listV l)) _;unfold B_j listV;simp only;refine Ea (v:=[false,(((l.map mkV).length:Int)==0),(((l.map mkV).length:Int)==0),true]) (Qa _) ?_;refine Ea (v:=false) (Qa _) ?_;refine Ea (v:=(Ctl.cont (0:Int):Ctl Int (Int×Bool))) ?_ (Qa _);refine Ev.iter (λi=>((0:Int),(i:Int))) (l.map mkV).length rfl (λi d=>?_) ?_
 .have a:=Jl (x:=(l.map mkV)[i]) (show(l.map mkV).length<=4611686018427387904 by rw[X0];omega) (XK d);have e:∃y,(l.map mkV)[i]=mkV y:=by
   rw[List.getElem_map];exact⟨_,rfl⟩
  obtain⟨y,b⟩:=e;unfold F_hh;simp only[a.lt,Vn,a.ix,XJ,a.nx];rw[b];exact Ea (QiK y) (Qa _)
 .unfold F_hh;simp only[Qdr,Vp];exact Qa _
def listB(l:List Int):List Int:=[3]++numN l.length++(l.map oneB).flatten
theorem QgP(l:List Int)(z:l.length<=1000):Ev (λn=>F_bc n (listV l)) (listB l):=by
 unfold F_bc;have w:app ([]:List Int) [3]=some [3]:=rfl;rw[w];simp only[XJ];have t:IntKind.u64.wrap (((listV l).L.length:Int))=((l.length:Nat):Int):=by
  have:IntKind.u64.wrap (((listV l).L.length:Int))=(((listV l).L.length:Int))%18446744073709551616:=by unfold IntKind.wrap;rfl
  rw[this];unfold listV;rw[X0];omega
 rw[t];have r:=QeN (show l.length<18446744073709551616 by omega);refine Ea (Qfc l.length [3] (by omega) (by simp)) ?_;refine Ea (v:=listB l) ?_ (Qa _);have k:∀m:List Int,(m.map oneB).flatten.length<=11*m.length:=by
  intro m
  induction m with
  |nil=>simp
  |cons x m d=>
   have:=Qhs x;simp only[Vi,Vk,X2,XZ];omega
 have h:=QaD (step:=λn=>F_gd n (listV l)) (l.map mkV) (λ(a:List Int) (v:Value)=>a++oneB v.N) ([3]++numN l.length) (λa i=>(a,(i:Int))) (λa=>a) (by rw[X0];omega) rfl (λi x a e q=>?_) ?_
 .refine Ev.eq h ?_;have:∀(m:List Int) (a:List Int),(m.map mkV).foldl (λ(a:List Int) (v:Value)=>a++oneB v.N) a=a++(m.map oneB).flatten:=by
   intro m
   induction m with
   |nil=>intro a;simp
   |cons x m d=>intro a;simp only[Vi,XD,Vk];rw[d];simp[mkV]
  rw[this];rfl
 .have s:∃y,x=mkV y:=by
   obtain⟨y,_,u⟩:=Xe.1 e.mem;exact⟨y,u.symm⟩
  obtain⟨y,rfl⟩:=s;have g:a.length<=100000:=by
   have:∀(m:List Int) (a:List Int),((m.map mkV).foldl (λ(a:List Int) (v:Value)=>a++oneB v.N) a).length<=a.length+11*m.length:=by
    intro m
    induction m with
    |nil=>intro a;simp
    |cons x m d=>
     intro a;simp only[Vi,XD,XZ];have p:=d (a++oneB (mkV x).N);have f:=Qhs (mkV x).N;rw[X2]at p;omega
   have f:=this (l.take i) ([3]++numN l.length);rw[List.map_take, <- q,X2,Xy]at f;simp at f;omega
  unfold F_gd;have b:decide ((i:Int)<((listV l).L.length:Int))=true:=e.lt;have j:idx (listV l).L (i:Int)=some (mkV y):=e.ix;simp only[b,Vn,j,XJ,e.nx];refine Ea (QhS a y g) ?_;exact Qa _
 .unfold F_gd;have b:decide (((l.map mkV).length:Int)<((listV l).L.length:Int))=false:=Qdr _;simp only[b,Vp];exact Qa _
theorem QlH{f:Fact}{b:Int}:∀(r:List Ent) (a c:List Int×Fact×Int),numR f b r a=.cont c->c.1.length=a.1.length+r.length:=by
 intro r
 induction r with
 |nil=>intro a c h;cases h;rfl
 |cons e r d=>
  intro a c h;unfold numR at h;cases q:inE f b e with
  |false=>rw[q]at h;cases h
  |true=>
   rw[q]at h;have:=d _ _ h;simp at this;rw[this,XZ];omega
theorem QlJ(f:Fact):(numF f).1.length<=12:=by
 unfold numF;cases fineU f (openU f)with
 |false=>simp
 |true=>
  simp only[Vn];cases h:numR f (suspB f) (entsS f) ([],restS f,0)with
  |cont a=>
   have:=QlH _ _ _ h;have:=Qfe f;simp at*;omega
  |done r=>
   have:∀(E:List Ent) (a:List Int×Fact×Int),numR f (suspB f) E a=.done r->r=([],false):=by
    intro E
    induction E with
    |nil=>intro a h;cases h
    |cons e E ih=>
     intro a h;unfold numR at h;cases q:inE f (suspB f) e with
     |false=>rw[q]at h;cases h;rfl
     |true=>rw[q]at h;exact ih _ h
   rw[this _ _ h];simp
def encF(f:Fact):List Int×Int:=bif validS f then(listB (numF f).1,0)else([],120)
theorem Qf8(f:Fact):Ev (λn=>F_ah n f) (encF f):=by
 unfold F_ah;refine Ea (QjK f) ?_;have l:=QlJ f;unfold encF validS;generalize numF f=r at*;cases h:r.2 with
 |false=>exact Qa _
 |true=>
  simp only[Xg,Vp,Vn];refine Ea (v:=r.1.map mkV) ?_ ?_
  .refine Ev.eq (QaD r.1 (λ(a:List Value) (x:Int)=>a++[mkV x]) [] (λa i=>(a,(i:Int))) (λa=>a) (by omega) rfl (λi x a d g=>?_) ?_) ?_
   .unfold F_hg;simp only[d.lt,Vn,d.ix,XJ,d.nx];have j:a.length<=12:=by
     have:∀(m:List Int) (a:List Value),(m.foldl (λ(a:List Value) (x:Int)=>a++[mkV x]) a).length=a.length+m.length:=by
      intro m
      induction m with
      |nil=>intro a;simp
      |cons x m b=>intro a;simp only[XD,XZ];rw[b];simp;omega
     rw[g,this,Xy];simp;omega
    have e:=Qb1 a (mkV x) (by omega);unfold mkV at e;rw[e];exact Qa _
   .unfold F_hg;simp only[Qdr,Vp];exact Qa _
   .have:∀(m:List Int) (a:List Value),m.foldl (λ(a:List Value) (x:Int)=>a++[mkV x]) a=a++m.map mkV:=by
     intro m
     induction m with
     |nil=>intro a;simp
     |cons x m b=>intro a;simp only[XD,Vi];rw[b];simp
    rw[this];rfl
  refine Ea (v:=(listB r.1,0)) ?_ (Qa _);have k:=QhF r.1 (by omega);unfold F_ei F_fc;have e:({Kind:=3,N:=0,S:=[],L:=r.1.map mkV:Value})=listV r.1:=rfl;rw[e];refine Ea (v:=0) (Ea k (Qa _)) ?_;unfold F_es;exact Ea (QgP r.1 (by omega)) (Qa _)
def cmpI(a b:Int):Int:=bif decide (a<b)then-1 else bif decide (b<a)then 1 else 0
theorem QjL(n:Nat)(a b:Int):F_l n a b=some (cmpI a b):=by
 unfold F_l F_av cmpI;simp only[XJ,bne_self_eq_false,Vp];cases decide (a<b)with
 |true=>rfl
 |false=>cases decide (b<a)<;>rfl
def orL:List Int->Int
 |[]=>0
 |x::r=>bif x != 0 then x else orL r
theorem Qn5(l:List Int)(k:l.length<=1000):Ev (λn=>F_ai n l) (orL l):=by
 unfold F_ai;have loop:∀(r:List Int) (i:Nat),l.drop i=r->i<=l.length->EvI (λn=>F_fg n l) (i:Int) (bif orL r==0 then Ctl.cont ()else Ctl.done (orL r)):=by
  intro r
  induction r with
  |nil=>
   intro i b f;refine Ej ?_;unfold F_fg;simp only[Yo b f,Vp];exact Qa _
  |cons x r j=>
   intro i b f;obtain⟨a,d⟩:=QG (by omega) b;have g:=a.lt';unfold orL;cases q:(x != 0)with
   |true=>
    have e:(x==0)=false:=by simpa[bne]using q
    simp only[Vn,e,Vp];refine Ej ?_;unfold F_fg;simp only[a.lt,Vn,a.ix,XJ,q];exact Qa _
   |false=>
    simp only[Vp];refine Ew ?_ (j (i+1) d (by omega));unfold F_fg;simp only[a.lt,Vn,a.ix,XJ,q,Vp,a.nx];exact Qa _
 refine Ea (loop l 0 rfl (XU _)).ev ?_;cases h:(orL l==0)with
 |true=>
  have e:orL l=0:=by simpa using h
  rw[e];exact Qa _
 |false=>exact Qa _
def cmpF(f g:Fact):Int:=bif orL [cmpI f.At g.At,cmpI f.Crew g.Crew,cmpI f.No g.No] != 0 then orL [cmpI f.At g.At,cmpI f.Crew g.Crew,cmpI f.No g.No]else cmpB (encF f).1 (encF g).1
theorem QiR(f g:Fact):Ev (λn=>F_cv n f g) (cmpF f g):=by
 unfold F_cv cmpF;simp only[QjL,XJ];refine Ea (Qn5 _ (by simp)) ?_;cases(orL [cmpI f.At g.At,cmpI f.Crew g.Crew,cmpI f.No g.No] != 0)with
 |true=>exact Qa _
 |false=>
  simp only[Vp];refine Ea (Qf8 f) (Ea (Qf8 g) ?_);exact Qa _
def okS(c:Course)(f:Fact):Bool:=(f.Kind==1)&&(validS f&&(!decide ((c.Distances.length:Int)<=f.Starter.Distance)&& !decide ((c.Waves.length:Int)<=f.Starter.Wave)))
theorem Qnr{n:Nat}(h:n<=1048576):Nat.ble n Q3=true:=XS (XV h (by decide))
theorem Qph{a b:Int}:cmpI a b=0↔a=b:=by
 unfold cmpI;by_cases h:a<b
 .rw[Vt h];simp;omega
 .rw[Vw h];by_cases d:b<a
  .rw[Vt d];simp;omega
  .rw[Vw d];simp;omega
set_option maxRecDepth 4000
theorem Qni(f:Fact)(b:Int):∀(E:List Ent) (a:List Int×Fact×Int),numR f b E a=bif E.all (inE f b)then .cont (a.1++E.map (getV f b),E.foldl (λp e=>putV p.1 p.2 e (getV f b e)) a.2)else .done ([],false):=by
 intro E
 induction E with
 |nil=>intro a;simp[numR]
 |cons e E ih=>
  intro a;unfold numR;rw[List.all_cons];cases h:inE f b e with
  |false=>rfl
  |true=>
   simp only[Vn,Vz,Vi,XD];rw[ih];simp
def onlyS(f:Fact):Fact:={Crew:=f.Crew,No:=f.No,At:=f.At,Kind:=f.Kind,Starter:=(bif f.Kind==1 then f.Starter else Ul.Starter),Read:=(bif f.Kind==2 then f.Read else Ul.Read),Beacon:=(bif f.Kind==3 then f.Beacon else Ul.Beacon),Sync:=(bif f.Kind==4 then f.Sync else Ul.Sync),Hand:=(bif f.Kind==5 then f.Hand else Ul.Hand),Silence:=(bif f.Kind==6 then f.Silence else Ul.Silence),Pair:=(bif f.Kind==7 then f.Pair else Ul.Pair),Report:=(bif f.Kind==8 then f.Report else Ul.Report),Protest:=(bif f.Kind==9 then f.Protest else Ul.Protest),Ruling:=(bif f.Kind==10 then f.Ruling else Ul.Ruling),Appeal:=(bif f.Kind==11 then f.Appeal else Ul.Appeal),Void:=(bif f.Kind==13 then f.Void else Ul.Void):Fact}
def numsS(f:Fact):List Int:=[f.Kind,f.Crew,f.No,f.At]++(
 bif f.Kind==1 then[f.Starter.Bib,f.Starter.Distance,f.Starter.Wave,f.Starter.Slot,f.Starter.Age,f.Starter.Chip,f.Starter.Team,f.Starter.Lot]
 else bif f.Kind==2 then[f.Read.Mat,f.Read.Epoch,f.Read.Chip,f.Read.Local]
 else bif f.Kind==3 then[f.Beacon.Mat,f.Beacon.Epoch,f.Beacon.Local,f.Beacon.True,f.Beacon.Err]
 else bif f.Kind==4 then[f.Sync.MatA,f.Sync.EpochA,f.Sync.LocalA,f.Sync.MatB,f.Sync.EpochB,f.Sync.LocalB,f.Sync.Min,f.Sync.Max]
 else bif f.Kind==5 then[f.Hand.Bib,f.Hand.Position,f.Hand.Lo,f.Hand.Hi]
 else bif f.Kind==6 then[f.Silence.Mat,f.Silence.Epoch,f.Silence.Lo,f.Silence.Hi]
 else bif f.Kind==7 then[f.Pair.A,f.Pair.B]
 else bif f.Kind==8 then[f.Report.Case,f.Report.Bib,f.Report.Offence,f.Report.Position]
 else bif f.Kind==9 then[f.Protest.Case,f.Protest.By,f.Protest.Fee,f.Protest.Form]
 else bif f.Kind==10 then[f.Ruling.Case,f.Ruling.Instance,f.Ruling.Kind,f.Ruling.Bib,f.Ruling.Position,f.Ruling.Amount]
 else bif f.Kind==11 then[f.Appeal.Case,suspB f]
 else bif f.Kind==13 then[f.Void.Crew,f.Void.No]else[])
theorem kinds(f:Fact):f.Kind=1\/f.Kind=2\/f.Kind=3\/f.Kind=4\/f.Kind=5\/f.Kind=6\/f.Kind=7\/f.Kind=8\/f.Kind=9\/f.Kind=10\/f.Kind=11\/f.Kind=12\/f.Kind=13\/openU f=.c13 ():=by
 by_cases g:f.Kind=1; · exact .inl g
 by_cases k:f.Kind=2; · exact .inr (.inl k)
 by_cases i:f.Kind=3; · exact .inr (.inr (.inl i))
 by_cases j:f.Kind=4; · exact .inr (.inr (.inr (.inl j)))
 by_cases h:f.Kind=5; · exact .inr (.inr (.inr (.inr (.inl h))))
 by_cases p:f.Kind=6; · exact .inr (.inr (.inr (.inr (.inr (.inl p)))))
 by_cases l:f.Kind=7; · exact .inr (.inr (.inr (.inr (.inr (.inr (.inl l))))))
 by_cases n:f.Kind=8; · exact .inr (.inr (.inr (.inr (.inr (.inr (.inr (.inl n)))))))
 by_cases m:f.Kind=9; · exact .inr (.inr (.inr (.inr (.inr (.inr (.inr (.inr (.inl m))))))))
 by_cases b:f.Kind=10; · exact .inr (.inr (.inr (.inr (.inr (.inr (.inr (.inr (.inr (.inl b)))))))))
 by_cases d:f.Kind=11; · exact .inr (.inr (.inr (.inr (.inr (.inr (.inr (.inr (.inr (.inr (.inl d))))))))))
 by_cases a:f.Kind=12; · exact .inr (.inr (.inr (.inr (.inr (.inr (.inr (.inr (.inr (.inr (.inr (.inl a)))))))))))
 by_cases e:f.Kind=13; · exact .inr (.inr (.inr (.inr (.inr (.inr (.inr (.inr (.inr (.inr (.inr (.inr (.inl e))))))))))))
 refine .inr (.inr (.inr (.inr (.inr (.inr (.inr (.inr (.inr (.inr (.inr (.inr (.inr ?_))))))))))));unfold openU;simp only[Vy.2 g,Vy.2 k,Vy.2 i,Vy.2 j,Vy.2 h,Vy.2 p,Vy.2 l,Vy.2 n,Vy.2 m,Vy.2 b,Vy.2 d,Vy.2 a,Vy.2 e,Vp]
def copyS(f:Fact):Fact×Int:=(entsS f).foldl (λp e=>putV p.1 p.2 e (getV f (suspB f) e)) (restS f,0)
theorem QgD(f:Fact):numF f=bif fineU f (openU f)then(bif (entsS f).all (inE f (suspB f))then((entsS f).map (getV f (suspB f)),lastF f (copyS f).1 (copyS f).2==f)else([],false))else([],false):=by
 unfold numF;rw[Qni];cases fineU f (openU f)with
 |false=>rfl
 |true=>
  simp only[Vn];cases(entsS f).all (inE f (suspB f))with
  |false=>rfl
  |true=>simp only[Vn,Vg];rfl
theorem Qdo(f:Fact)(h:¬openU f=.c13 ()):lastF f (copyS f).1 (copyS f).2=onlyS f/\(entsS f).map (getV f (suspB f))=numsS f:=by
 rcases kinds f with k|k|k|k|k|k|k|k|k|k|k|k|k|k
 case inr.inr.inr.inr.inr.inr.inr.inr.inr.inr.inl=>
  obtain⟨Cr,No,At,Ki,S,R,B,Sy,Ha,Si,Pa,Re,Pr,Ru,⟨Ca,Su⟩,Vo⟩:=f;simp only at k;subst k;cases Su<;>exact⟨by kernel_rfl,by kernel_rfl⟩
 case inr.inr.inr.inr.inr.inr.inr.inr.inr.inl=>
  obtain⟨Cr,No,At,Ki,S,R,B,Sy,Ha,Si,Pa,Re,Pr,⟨g,j,a,e,d,i⟩,Ap,Vo⟩:=f;simp only at k;subst k;have:∃x,openU ⟨Cr,No,At,10,S,R,B,Sy,Ha,Si,Pa,Re,Pr,⟨g,j,a,e,d,i⟩,Ap,Vo⟩=.c9 x:=by
   unfold openU;show∃x,(bif (a==1)||(a==2)then U_facts_open_rxk.c9 (0,0,0,0,0,0)else bif a==3 then .c9 (1,9999,0,255,1,1099511627776)else bif a==4 then .c9 (1,9999,0,255,1,64)else .c9 (1,9999,0,255,0,0))=.c9 x;cases((a==1)||(a==2))with
   |true=>exact⟨_,rfl⟩
   |false=>
    cases(a==3)with
    |true=>exact⟨_,rfl⟩
    |false=>cases(a==4)<;>exact⟨_,rfl⟩
  obtain⟨x,b⟩:=this;unfold copyS entsS;rw[b];exact⟨by kernel_rfl,by kernel_rfl⟩
 case inr.inr.inr.inr.inr.inr.inr.inr.inr.inr.inr.inr.inr=>exact absurd k h
 all_goals
  obtain⟨Cr,No,At,Ki,S,R,B,Sy,Ha,Si,Pa,Re,Pr,Ru,Ap,Vo⟩:=f;simp only at k;subst k;exact⟨by kernel_rfl,by kernel_rfl⟩
def contS(f:Fact):Bool:=fineU f (openU f)&&(bodyL (openU f)).all (inE f (suspB f))
def headS(f:Fact):Bool:=headL.all (inE f (suspB f))
theorem Qc6(f:Fact):validS f=(headS f&&contS f&&(onlyS f==f)):=by
 unfold validS contS headS;rw[QgD];by_cases h:openU f=.c13 ()
 .have:fineU f (openU f)=false:=by rw[h];rfl
  rw[this];simp
 .obtain⟨a,b⟩:=Qdo f h;rw[a];unfold entsS;rw[List.all_append];cases fineU f (openU f)with
  |false=>simp
  |true=>
   cases headL.all (inE f (suspB f))with
   |false=>rfl
   |true=>cases(bodyL (openU f)).all (inE f (suspB f))<;>rfl
theorem Qio{f:Fact}(h:validS f=true):(numF f).1=numsS f:=by
 have g:=h;unfold validS at h;rw[QgD]at h⊢;by_cases q:openU f=.c13 ()
 .have:fineU f (openU f)=false:=by rw[q];rfl
  rw[this]at h;cases h
 .obtain⟨e,d⟩:=Qdo f q;cases a:fineU f (openU f)with
  |false=>rw[a]at h;cases h
  |true=>
   rw[a]at h;cases b:(entsS f).all (inE f (suspB f))with
   |false=>rw[b]at h;cases h
   |true=>exact d
theorem Qes{f:Fact}(h:validS f=true):onlyS f=f:=by
 rw[Qc6]at h;simp only[XW,Vx]at h;exact h.2
theorem QlG{f g:Fact}(a:validS f=true)(hg:validS g=true)(h:numsS f=numsS g):f=g:=by
 have j:=Qes a;have l:=Qes hg;rw[<- j, <- l];unfold numsS at h;have d:f.Kind=g.Kind:=by
  simp only[VJ,List.cons.injEq]at h;exact h.1
 have nk:=Qip a;rcases kinds f with k|k|k|k|k|k|k|k|k|k|k|k|k|k
 case inr.inr.inr.inr.inr.inr.inr.inr.inr.inr.inr.inr.inr=>
  rw[Qc6]at a;unfold contS at a;rw[k]at a;simp[fineU]at a
 all_goals
  have e:=d.symm.trans k;clear a hg d nk j l;obtain⟨Cr,No,At,Ki,⟨s1,s2,s3,s4,s5,s6,s7,s8⟩,⟨W,w,q,ac⟩,⟨b1,b2,b3,b4,b5⟩,⟨y1,y2,y3,y4,y5,y6,y7,y8⟩,⟨h1,h2,h3,h4⟩,⟨i1,i2,i3,i4⟩,⟨p1,p2⟩,⟨u1,u2,u3,u4⟩,⟨o1,o2,o3,o4⟩,⟨r1,r2,r3,r4,r5,r6⟩,⟨a1,V⟩,⟨v1,v2⟩⟩:=f;obtain⟨Cr',No',At',Ki',⟨af,ax,J,x,H,N,am,ai⟩,⟨m,p,n,i⟩,⟨aw,ad,al,a4,ah⟩,⟨au,F,a0,Q,s,aj,an,L⟩,⟨T,ae,B,z⟩,⟨ao,M,ak,ar⟩,⟨E,av⟩,⟨y,X,aa,Y⟩,⟨ag,az,a3,t⟩,⟨u,ab,P,r,aq,R⟩,⟨G,b⟩,⟨O,ay⟩⟩:=g;simp only at k e;subst k;subst e
  first
   |(simp[suspB]at h;simp[onlyS,h];done)
   |(cases V<;>cases b<;>simp[suspB]at h<;>simp[onlyS,h])
set_option maxRecDepth 4000
theorem Qgs(x:Int):IntKind.u64.wrap x=x%18446744073709551616:=by unfold IntKind.wrap;rfl
theorem Qim(x:Int):IntKind.u8.wrap x=x%256:=by unfold IntKind.wrap;rfl
theorem or8(a b:Int):orI .u8 a b=(((BitVec.ofInt 8 a|||BitVec.ofInt 8 b).toNat:Nat):Int)%256:=by unfold orI;exact Qim _
theorem QnQ(a b:Int):Qer .u64 a b=(((BitVec.ofInt 64 a^^^BitVec.ofInt 64 b).toNat:Nat):Int)%18446744073709551616:=by unfold Qer;exact Qgs _
theorem or128(v:Nat):orI .u8 (IntKind.u8.wrap (v:Int)) 128=((v%128+128:Nat):Int):=by
 have a:∀m:Fin 256,((BitVec.ofNat 8 m.val|||128#8).toNat)=m.val%128+128:=by decide
 have d:v%256<256:=Nat.mod_lt _ (by decide);have k:(BitVec.ofNat 8 (v%256)|||128#8).toNat=v%256%128+128:=a ⟨v%256,d⟩;have e:BitVec.ofInt 8 ((v:Int)%256)=BitVec.ofNat 8 (v%256):=by
  have:((v:Int)%256)=((v%256:Nat):Int):=by omega
  rw[this];exact BitVec.ofInt_natCast 8 (v%256)
 have b:BitVec.ofInt 8 128=128#8:=by rfl
 rw[or8,Qim,e,b,k];omega
theorem Qdj(v:Nat):numN v=if 128<=v then((v%128+128:Nat):Int)::numN (v/128)else[(v:Int)]:=by
 by_cases h:128<=v
 .rw[QeP h,Vs h,or128]
 .rw[QaJ h,Vr h,Qim];congr 1;omega
theorem Qhu:∀(v w:Nat) (a b:List Int),numN v++a=numN w++b->v=w/\a=b:=by
 intro v
 induction v using Nat.strongRecOn with
 |_ v g=>
 intro w a b h;rw[Qdj v,Qdj w]at h;by_cases e:128<=v
 .rw[Vs e]at h;by_cases d:128<=w
  .rw[Vs d]at h;simp only[VJ,List.cons.injEq]at h;obtain⟨i,f⟩:=g (v/128) (by omega) (w/128) a b h.2;exact⟨by omega,f⟩
  .rw[Vr d]at h;simp only[VJ,List.cons.injEq]at h;omega
 .rw[Vr e]at h;by_cases d:128<=w
  .rw[Vs d]at h;simp only[VJ,List.cons.injEq]at h;omega
  .rw[Vr d]at h;simp only[VJ,List.cons.injEq,Vg]at h;exact⟨by omega,h.2⟩
theorem QeO:∀(v:Nat),∀x∈numN v,0<=x/\x<256:=by
 intro v
 induction v using Nat.strongRecOn with
 |_ v d=>
 intro x a;rw[Qdj v]at a;by_cases b:128<=v
 .rw[Vs b]at a;rcases X5.1 a with rfl|a
  .omega
  .exact d (v/128) (by omega) x a
 .rw[Vr b]at a;rcases X5.1 a with rfl|a
  .omega
  .cases a
theorem Qgp{x:Int}(f:0<=x)(e:x<9223372036854775808):zigI x=2*x:=by
 unfold zigI Qey;have d:QV .i64 x 63=0:=by
  show Int.fdiv x (2^63)=0;rw[Int.fdiv_eq_ediv_of_nonneg _ (by decide)];omega
 have a:(2:Int)^(min (1:Int).toNat IntKind.u64.bits)=2:=by decide
 rw[d,a,QnQ];simp only[Qgs];have b:BitVec.ofInt 64 ((0:Int)%18446744073709551616)=0#64:=by rfl
 rw[b,BitVec.xor_zero,BitVec.toNat_ofInt];omega
theorem Qgr{x:Int}(f:x<0)(e: -9223372036854775808<=x):zigI x= -2*x-1:=by
 unfold zigI Qey;have d:QV .i64 x 63= -1:=by
  show Int.fdiv x (2^63)= -1;rw[Int.fdiv_eq_ediv_of_nonneg _ (by decide)];omega
 have a:(2:Int)^(min (1:Int).toNat IntKind.u64.bits)=2:=by decide
 rw[d,a,QnQ];simp only[Qgs];have b:BitVec.ofInt 64 ((-1:Int)%18446744073709551616)=BitVec.allOnes 64:=by decide
 rw[b,BitVec.xor_allOnes,BitVec.toNat_not,BitVec.toNat_ofInt];omega
def in63(x:Int):Prop:= -9223372036854775808<=x/\x<9223372036854775808
theorem Qm6{x y:Int}(f:in63 x)(e:in63 y)(h:zigI x=zigI y):x=y:=by
 obtain⟨a,b⟩:=f;obtain⟨c,d⟩:=e;by_cases p:0<=x
 .rw[Qgp p b]at h;by_cases q:0<=y
  .rw[Qgp q d]at h;omega
  .rw[Qgr (by omega) c]at h;omega
 .rw[Qgr (by omega) a]at h;by_cases q:0<=y
  .rw[Qgp q d]at h;omega
  .rw[Qgr (by omega) c]at h;omega
theorem Qhr:∀(l m:List Int),l.length=m.length->(∀x∈l,in63 x)->(∀x∈m,in63 x)->(l.map oneB).flatten=(m.map oneB).flatten->l=m
 |[],[],_,_,_,_=>rfl
 |x::l,y::m,hl,h1,h2,h=>by
  simp only[Vi,Vk,oneB,VJ,List.cons.injEq,true_and]at h;obtain⟨e1,e2⟩:=Qhu _ _ _ _ h;obtain⟨z,p1,p2⟩:=Qgq x;obtain⟨z',q1,q2⟩:=Qgq y;rw[p1,q1]at e1;have:x=y:=Qm6 (h1 x (by simp)) (h2 y (by simp)) (by rw[p1,q1]at*;simp only[Int.toNat_natCast]at e1;omega);rw[this,Qhr l m (by simpa using hl) (λz hz=>h1 z (by simp[hz])) (λz hz=>h2 z (by simp[hz])) e2]
theorem Qki{l m:List Int}(b:∀x∈l,in63 x)(d:∀x∈m,in63 x)(h:listB l=listB m):l=m:=by
 unfold listB at h;rw[Vh,Vh]at h;simp only[VJ,Vg,List.cons.injEq,true_and]at h;obtain⟨e,a⟩:=Qhu _ _ _ _ h;exact Qhr l m e b d a
theorem QdO(l:List Int):∀x∈listB l,0<=x/\x<256:=by
 intro x a;unfold listB at a;simp only[VC,VA,List.mem_flatten,Xe]at a;rcases a with(rfl|a)|⟨m,⟨y,_,rfl⟩,a⟩
 .omega
 .exact QeO _ x a
 .unfold oneB at a;rcases X5.1 a with rfl|a
  .omega
  .exact QeO _ x a
structure CmpOK {α:Type} (c:α->α->Int):Prop where
 swap:∀x y,c y x= -c x y
 trans:∀x y z,c x y<0->c y z<0->c x z<0
 eqt:∀x y z,c x y=0->c x z=c y z
section
variable {α:Type} {c d:α->α->Int}
theorem CmpOK.refl(h:CmpOK c)(x:α):c x x=0:=by have:=h.swap x x;omega
theorem CmpOK.eqr(h:CmpOK c){x y:α}(z:α)(e:c x y=0):c z x=c z y:=by
 rw[h.swap x z,h.swap y z,h.eqt x y z e]
theorem Qb7(h:CmpOK c)(k:CmpOK d):CmpOK λx y=>bif c x y != 0 then c x y else d x y:=by
 refine⟨λx y=>?_,λx y z=>?_,λx y z=>?_⟩
 .show(bif c y x != 0 then c y x else d y x)= -(bif c x y != 0 then c x y else d x y);have e:=h.swap x y;by_cases q:c x y=0
  .have f:c y x=0:=by omega
   rw[q,f];exact k.swap x y
  .have f:¬c y x=0:=by omega
   rw[bne_iff_ne.2 q,bne_iff_ne.2 f];exact e
 .show(bif c x y != 0 then c x y else d x y)<0->(bif c y z != 0 then c y z else d y z)<0->(bif c x z != 0 then c x z else d x z)<0;by_cases q:c x y=0
  .have e:=h.eqt x y z q;rw[q,e];by_cases f:c y z=0
   .rw[f];exact k.trans x y z
   .rw[bne_iff_ne.2 f];intro _ b;exact b
  .rw[bne_iff_ne.2 q];by_cases f:c y z=0
   .have e:=h.eqr x f;rw[f, <- e,bne_iff_ne.2 q];intro a _;exact a
   .rw[bne_iff_ne.2 f];intro a b;have:=h.trans x y z a b;rw[bne_iff_ne.2 (show¬c x z=0 by omega)];exact this
 .show(bif c x y != 0 then c x y else d x y)=0->(bif c x z != 0 then c x z else d x z)=(bif c y z != 0 then c y z else d y z);by_cases q:c x y=0
  .rw[q,h.eqt x y z q];intro e;have e:d x y=0:=e;rw[k.eqt x y z e]
  .rw[bne_iff_ne.2 q];intro e;exact absurd e q
theorem CmpOK.on{β:Type}(h:CmpOK c)(f:β->α):CmpOK λx y=>c (f x) (f y):=
 ⟨λx y=>h.swap _ _,λx y z=>h.trans _ _ _,λx y z=>h.eqt _ _ _⟩
end
theorem cmpI_ok:CmpOK cmpI:=by
 have e:∀a b,cmpI a b=if a<b then-1 else if b<a then 1 else 0:=by
  intro a b;unfold cmpI;by_cases h:a<b
  .rw[Vt h,Vs h];rfl
  .rw[Vw h,Vr h];by_cases d:b<a
   .rw[Vt d,Vs d];rfl
   .rw[Vw d,Vr d];rfl
 refine⟨λx y=>?_,λx y z=>?_,λx y z=>?_⟩
 .rw[e,e];split<;>split<;>omega
 .rw[e,e,e];intro a b;have f:x<y:=by
   by_cases q:x<y
   .exact q
   .rw[Vr q]at a;split at a<;>omega
  have d:y<z:=by
   by_cases q:y<z
   .exact q
   .rw[Vr q]at b;split at b<;>omega
  rw[Vs (by omega)];omega
 .rw[e x y];intro h;have:x=y:=by
   by_cases q:x<y
   .rw[Vs q]at h;omega
   .rw[Vr q]at h;split at h<;>omega
  rw[this]
theorem cb_ok:CmpOK Lib.compareBytes:=by
 have j:∀x y:List UInt8,Lib.compareBytes y x= -Lib.compareBytes x y:=by
  intro x
  induction x with
  |nil=>intro y;cases y<;>simp[Lib.compareBytes]
  |cons a x f=>
   intro y;cases y with
   |nil=>simp[Lib.compareBytes]
   |cons b y=>
    unfold Lib.compareBytes;by_cases h:a<b
    .have l:¬b<a:=by rw[UInt8.lt_iff_toNat_lt]at*;omega
     rw[Vs h,Vr l,Vs h];rfl
    .rw[Vr h];by_cases g:b<a
     .rw[Vs g,Vr h,Vs g]
     .rw[Vr g,Vr g,Vr h];exact f y
 have eq:∀x y:List UInt8,Lib.compareBytes x y=0->x=y:=by
  intro x
  induction x with
  |nil=>intro y h;cases y with
   |nil=>rfl
   |cons b y=>simp[Lib.compareBytes]at h
  |cons a x f=>
   intro y h;cases y with
   |nil=>simp[Lib.compareBytes]at h
   |cons b y=>
    unfold Lib.compareBytes at h;by_cases q:a<b
    .rw[Vs q]at h;omega
    .rw[Vr q]at h;by_cases e:b<a
     .rw[Vs e]at h;omega
     .rw[Vr e]at h;have:a=b:=by
       rw[UInt8.lt_iff_toNat_lt]at q e;exact UInt8.toNat_inj.1 (by omega)
      rw[this,f y h]
 refine⟨j,?_,λx y z h=>by rw[eq x y h]⟩;intro x
 induction x with
 |nil=>
  intro y z h k;cases y with
  |nil=>simp[Lib.compareBytes]at h
  |cons b y=>cases z with
   |nil=>simp[Lib.compareBytes]at k
   |cons d z=>simp[Lib.compareBytes]
 |cons a x f=>
  intro y z h k;cases y with
  |nil=>simp[Lib.compareBytes]at h
  |cons b y=>
   cases z with
   |nil=>simp[Lib.compareBytes]at k
   |cons d z=>
    unfold Lib.compareBytes at h k⊢;simp only[UInt8.lt_iff_toNat_lt]at*;by_cases q:a.toNat<b.toNat
    .by_cases r:b.toNat<d.toNat
     .rw[Vs (by omega)];omega
     .rw[Vr r]at k;by_cases i:d.toNat<b.toNat
      .rw[Vs i]at k;omega
      .rw[Vs (by omega)];omega
    .rw[Vr q]at h;by_cases e:b.toNat<a.toNat
     .rw[Vs e]at h;omega
     .rw[Vr e]at h;by_cases r:b.toNat<d.toNat
      .rw[Vs (by omega)];omega
      .rw[Vr r]at k;by_cases i:d.toNat<b.toNat
       .rw[Vs i]at k;omega
       .rw[Vr i]at k;rw[Vr (by omega),Vr (by omega)];exact f y z h k
theorem Qn9:∀{x y:List UInt8},Lib.compareBytes x y=0->x=y
 |[],[],_=>rfl
 |[],_::_,h=>by simp[Lib.compareBytes]at h
 |_::_,[],h=>by simp[Lib.compareBytes]at h
 |a::x,b::y,h=>by
  unfold Lib.compareBytes at h;by_cases q:a<b
  .rw[Vs q]at h;omega
  .rw[Vr q]at h;by_cases q2:b<a
   .rw[Vs q2]at h;omega
   .rw[Vr q2]at h;have:a=b:=by
     rw[UInt8.lt_iff_toNat_lt]at q q2;exact UInt8.toNat_inj.1 (by omega)
    rw[this,Qn9 h]
theorem Qgf:∀{l m:List Int},(∀x∈l,0<=x/\x<256)->(∀x∈m,0<=x/\x<256)->l.map Qbp=m.map Qbp->l=m
 |[],[],_,_,_=>rfl
 |[],_::_,_,_,h=>by simp at h
 |_::_,[],_,_,h=>by simp at h
 |x::l,y::m,h1,h2,h=>by
  simp only[Vi,List.cons.injEq]at h;have a1:=h1 x (by simp);have a2:=h2 y (by simp);have e:=congrArg UInt8.toNat h.1;unfold Qbp at e;rw[UInt8.toNat_ofNat',UInt8.toNat_ofNat']at e;have:x=y:=by omega
  rw[this,Qgf (λz a=>h1 z (by simp[a])) (λz a=>h2 z (by simp[a])) h.2]
theorem Qh6(f g:Fact):cmpF f g=bif cmpI f.At g.At != 0 then cmpI f.At g.At else bif cmpI f.Crew g.Crew != 0 then cmpI f.Crew g.Crew else bif cmpI f.No g.No != 0 then cmpI f.No g.No else cmpB (encF f).1 (encF g).1:=by
 unfold cmpF orL orL orL orL;generalize cmpI f.At g.At=a;generalize cmpI f.Crew g.Crew=b;generalize cmpI f.No g.No=d;cases e:(a != 0)with
 |true=>simp only[Vn,e]
 |false=>
  simp only[Vp];cases h:(b != 0)with
  |true=>simp only[Vn,h]
  |false=>
   simp only[Vp];cases i:(d != 0)with
   |true=>simp only[Vn,i]
   |false=>rfl
theorem QjO:CmpOK cmpF:=by
 have h:=Qb7 (cmpI_ok.on λf:Fact=>f.At) (Qb7 (cmpI_ok.on λf:Fact=>f.Crew) (Qb7 (cmpI_ok.on λf:Fact=>f.No) (cb_ok.on λf:Fact=>(encF f).1.map Qbp)));have e:cmpF=λf g=>bif cmpI f.At g.At != 0 then cmpI f.At g.At else bif cmpI f.Crew g.Crew != 0 then cmpI f.Crew g.Crew else bif cmpI f.No g.No != 0 then cmpI f.No g.No else cmpB (encF f).1 (encF g).1:=by
  funext f g;exact Qh6 f g
 rw[e];exact h
def wideE(e:Ent):Bool:=decide (-1125899906842624<=e.lo)&&decide (e.hi<=1125899906842624)
theorem Qku(f:Fact):(entsS f).all wideE=true:=by
 unfold entsS;rw[List.all_append,XW];refine⟨rfl,?_⟩;rcases kinds f with k|k|k|k|k|k|k|k|k|k|k|k|k|k
 case inr.inr.inr.inr.inr.inr.inr.inr.inr.inl=>
  unfold openU;rw[k];show(bodyL (bif (f.Ruling.Kind==1)||(f.Ruling.Kind==2)then .c9 (0,0,0,0,0,0)else bif f.Ruling.Kind==3 then .c9 (1,9999,0,255,1,1099511627776)else bif f.Ruling.Kind==4 then .c9 (1,9999,0,255,1,64)else .c9 (1,9999,0,255,0,0))).all wideE=true;cases((f.Ruling.Kind==1)||(f.Ruling.Kind==2))with
  |true=>rfl
  |false=>
   cases(f.Ruling.Kind==3)with
   |true=>rfl
   |false=>cases(f.Ruling.Kind==4)<;>rfl
 case inr.inr.inr.inr.inr.inr.inr.inr.inr.inr.inr.inr.inr=>rw[k];rfl
 all_goals
  unfold openU;rw[k];rfl
theorem QeM{f:Fact}(h:validS f=true):∀x∈numsS f,in63 x:=by
 have k:=h;unfold validS at h;rw[QgD]at h;by_cases q:openU f=.c13 ()
 .rw[q]at h;cases h
 .rw[<- (Qdo f q).2];cases a:fineU f (openU f)with
  |false=>rw[a]at h;cases h
  |true=>
   rw[a]at h;cases b:(entsS f).all (inE f (suspB f))with
   |false=>rw[b]at h;cases h
   |true=>
    intro x j;obtain⟨e,g,rfl⟩:=Xe.1 j;have d:=Xs.1 b e g;have i:=Xs.1 (Qku f) e g;unfold inE at d;unfold wideE at i;simp only[XW,Bool.not_eq_true',decide_eq_false_iff_not,Vq]at d i;unfold in63;omega
theorem Qgb{f:Fact}(h:validS f=true):encF f=(listB (numsS f),0):=by
 unfold encF;rw[h,Qio h];rfl
theorem QgW{f g:Fact}(d:validS f=true)(hg:validS g=true)(h:cmpF f g=0):f=g:=by
 rw[Qh6]at h;have z:cmpB (encF f).1 (encF g).1=0:=by
  cases a:(cmpI f.At g.At != 0)with
  |true=>rw[a]at h;exact absurd h (bne_iff_ne.1 a)
  |false=>
   rw[a]at h;cases b:(cmpI f.Crew g.Crew != 0)with
   |true=>rw[b]at h;exact absurd h (bne_iff_ne.1 b)
   |false=>
    rw[b]at h;cases i:(cmpI f.No g.No != 0)with
    |true=>rw[i]at h;exact absurd h (bne_iff_ne.1 i)
    |false=>rw[i]at h;exact h
 rw[Qgb d,Qgb hg]at z;have e:=Qgf (QdO _) (QdO _) (Qn9 z);exact QlG d hg (Qki (QeM d) (QeM hg) e)
set_option maxRecDepth 4000
theorem Qev{α:Type}{R:α->α->Prop}(d:∀x,¬R x x)(i:∀x y z,R x y->R y z->R x z):∀{l m:List α},l.Pairwise R->m.Pairwise R->(∀x,x∈l↔x∈m)->l=m
 |[],[],_,_,_=>rfl
 |[],b::m,_,_,h=>by have:=(h b).2 (by simp);cases this
 |a::l,[],_,_,h=>by have:=(h a).1 (by simp);cases this
 |a::l,b::m,hl,hm,h=>by
  rw[Xc]at hl hm;have e:a=b:=by
   rcases X5.1 ((h a).1 (by simp))with e|f
   .exact e
   .rcases X5.1 ((h b).2 (by simp))with e|j
    .exact e.symm
    .exact absurd (i _ _ _ (hl.1 b j) (hm.1 a f)) (d a)
  subst e;congr 1;refine Qev d i hl.2 hm.2 λx=>?_;constructor
  .intro g;rcases X5.1 ((h x).1 (X4 _ g))with e|f
   .subst e;exact absurd (hl.1 x g) (d x)
   .exact f
  .intro g;rcases X5.1 ((h x).2 (X4 _ g))with e|f
   .subst e;exact absurd (hm.1 x g) (d x)
   .exact f
def insC(x:Fact):List Fact->List Fact
 |[]=>[x]
 |y::r=>bif decide (cmpF y x<0)then y::insC x r else bif y==x then y::r else x::y::r
def canonS(l:List Fact):List Fact:=l.foldl (λa x=>bif validS x then insC x a else a) []
def ltF(a b:Fact):Prop:=cmpF a b<0
theorem Qnl(x:Fact):¬ltF x x:=by unfold ltF;have:=QjO.refl x;omega
theorem QiF(x y z:Fact):ltF x y->ltF y z->ltF x z:=QjO.trans x y z
theorem QcG(x:Fact):∀(l:List Fact) (z:Fact),z∈insC x l↔z=x\/z∈l
 |[],z=>by simp[insC]
 |y::r,z=>by
  unfold insC;cases decide (cmpF y x<0)with
  |true=>
   simp only[Vn,X5,QcG x r z];constructor
   .rintro(h|h|h)<;>simp[h]
   .rintro(h|h|h)<;>simp[h]
  |false=>
   simp only[Vp];cases h:(y==x)with
   |true=>
    have:y=x:=by simpa using h
    subst this;simp
   |false=>simp
def CanonOK(l:List Fact):Prop:=l.Pairwise ltF/\ ∀f∈l,validS f=true
theorem QjA{x:Fact}(a:validS x=true):∀{l:List Fact},CanonOK l->CanonOK (insC x l)
 |[],_=>⟨by simp[insC],by simp[insC,a]⟩
 |y::r,h=>by
  obtain⟨h1,h2⟩:=h;rw[Xc]at h1;have hr:CanonOK r:=⟨h1.2,λf hf=>h2 f (by simp[hf])⟩;have ih:=QjA a hr;refine⟨?_,λf hf=>?_⟩
  .unfold insC;cases q:decide (cmpF y x<0)with
   |true=>
    simp only[Vn,Xc];refine⟨λz hz=>?_,ih.1⟩;rcases(QcG x r z).1 hz with rfl|hz
    .show cmpF y z<0;exact Vu q
    .exact h1.1 z hz
   |false=>
    simp only[Vp];cases q2:(y==x)with
    |true=>simp only[Vn,Xc];exact h1
    |false=>
     simp only[Vp,Xc];have lt:ltF x y:=by
      have d:=Vv q;have b:¬cmpF y x=0:=λe=>by
       have:=QgW (h2 y (by simp)) a e;rw[this]at q2;simp at q2
      have:=QjO.swap x y;unfold ltF;omega
     refine⟨λz hz=>?_,h1⟩;rcases X5.1 hz with rfl|hz
     .exact lt
     .exact QiF _ _ _ lt (h1.1 z hz)
  .rcases(QcG x (y::r) f).1 hf with rfl|hf
   .exact a
   .exact h2 f hf
theorem Qdt(l:List Fact):CanonOK (canonS l)/\ ∀f,f∈canonS l↔f∈l/\validS f=true:=by
 have g:∀(r a:List Fact),CanonOK a->CanonOK (r.foldl (λa x=>bif validS x then insC x a else a) a)/\ ∀f,f∈r.foldl (λa x=>bif validS x then insC x a else a) a↔f∈a\/(f∈r/\validS f=true):=by
  intro r
  induction r with
  |nil=>intro a h;exact⟨h,λf=>by simp⟩
  |cons x r i=>
   intro a h;rw[XD];cases q:validS x with
   |false=>
    obtain⟨e,d⟩:=i a h;refine⟨e,λf=>?_⟩;rw[Vp,d f,X5];constructor
    .rintro(a|⟨a,b⟩)
     .exact .inl a
     .exact .inr ⟨.inr a,b⟩
    .rintro(a|⟨rfl|a,b⟩)
     .exact .inl a
     .rw[q]at b;cases b
     .exact .inr ⟨a,b⟩
   |true=>
    obtain⟨e,d⟩:=i (insC x a) (QjA q h);refine⟨e,λf=>?_⟩;rw[Vn,d f,QcG,X5];constructor
    .rintro((rfl|a)|⟨a,b⟩)
     .exact .inr ⟨.inl rfl,q⟩
     .exact .inl a
     .exact .inr ⟨.inr a,b⟩
    .rintro(a|⟨rfl|a,b⟩)
     .exact .inl (.inr a)
     .exact .inl (.inl rfl)
     .exact .inr ⟨a,b⟩
 obtain⟨e,d⟩:=g l [] ⟨by simp,by simp⟩;exact⟨e,λf=>by rw[canonS,d f];simp⟩
def FirstIs(c:Course)(l:List Fact)(f:Fact):Prop:=f∈l/\okS c f=true/\ ∀g∈l,okS c g=true->g.Starter.Bib=f.Starter.Bib->¬cmpF g f<0
theorem QbZ{c:Course}{f:Fact}(h:okS c f=true):validS f=true:=by
 unfold okS at h;simp only[XW]at h;exact h.2.1
theorem QnN{c:Course}{l m:List Fact}(h:∀f,validS f=true->(f∈l↔f∈m)){f:Fact}:FirstIs c l f↔FirstIs c m f:=by
 unfold FirstIs;constructor
 .rintro⟨a,b,d⟩;exact⟨(h f (QbZ b)).1 a,b,λg i e j=>d g ((h g (QbZ e)).2 i) e j⟩
 .rintro⟨a,b,d⟩;exact⟨(h f (QbZ b)).2 a,b,λg i e j=>d g ((h g (QbZ e)).1 i) e j⟩
set_option maxRecDepth 4000
def nb(v lo hi:Int):Bool:= !(decide (v<lo))&& !(decide (hi<v))
theorem QiD(v lo hi:Int):nb v lo hi=true↔lo<=v/\v<=hi:=by
 unfold nb;simp only[XW,Bool.not_eq_true',decide_eq_false_iff_not];omega
def contR(f:Fact):Bool:=
 bif f.Kind==1 then true&&(nb f.Starter.Bib 1 9999&&(nb f.Starter.Distance 0 7&&(nb f.Starter.Wave 0 31&&(nb f.Starter.Slot (-1099511627776) 1099511627776&&(nb f.Starter.Age 0 120&&(nb f.Starter.Chip 0 1048576&&(nb f.Starter.Team 0 9999&&(nb f.Starter.Lot 0 1048576&&true))))))))
 else bif f.Kind==2 then true&&(nb f.Read.Mat 0 39&&(nb f.Read.Epoch 0 255&&(nb f.Read.Chip 0 1048576&&(nb f.Read.Local (-1099511627776) 1099511627776&&true))))
 else bif f.Kind==3 then true&&(nb f.Beacon.Mat 0 39&&(nb f.Beacon.Epoch 0 255&&(nb f.Beacon.Local (-1099511627776) 1099511627776&&(nb f.Beacon.True (-1099511627776) 1099511627776&&(nb f.Beacon.Err 0 1099511627776&&true)))))
 else bif f.Kind==4 then decide (f.Sync.Min<=f.Sync.Max)&&(nb f.Sync.MatA 0 39&&(nb f.Sync.EpochA 0 255&&(nb f.Sync.LocalA (-1099511627776) 1099511627776&&(nb f.Sync.MatB 0 39&&(nb f.Sync.EpochB 0 255&&(nb f.Sync.LocalB (-1099511627776) 1099511627776&&(nb f.Sync.Min (-1099511627776) 1099511627776&&(nb f.Sync.Max (-1099511627776) 1099511627776&&true))))))))
 else bif f.Kind==5 then decide (f.Hand.Lo<=f.Hand.Hi)&&(nb f.Hand.Bib 1 9999&&(nb f.Hand.Position 0 255&&(nb f.Hand.Lo (-1099511627776) 1099511627776&&(nb f.Hand.Hi (-1099511627776) 1099511627776&&true))))
 else bif f.Kind==6 then decide (f.Silence.Lo<=f.Silence.Hi)&&(nb f.Silence.Mat 0 39&&(nb f.Silence.Epoch 0 255&&(nb f.Silence.Lo (-1099511627776) 1099511627776&&(nb f.Silence.Hi (-1099511627776) 1099511627776&&true))))
 else bif f.Kind==7 then decide (f.Pair.A<f.Pair.B)&&(nb f.Pair.A 1 9999&&(nb f.Pair.B 1 9999&&true))
 else bif f.Kind==8 then true&&(nb f.Report.Case 1 1048576&&(nb f.Report.Bib 1 9999&&(nb f.Report.Offence 0 31&&(nb f.Report.Position 0 255&&true))))
 else bif f.Kind==9 then true&&(nb f.Protest.Case 1 1048576&&(nb f.Protest.By 0 9999&&(nb f.Protest.Fee 0 1125899906842624&&(nb f.Protest.Form 0 1&&true))))
 else bif f.Kind==10 then true&&(nb f.Ruling.Case 1 1048576&&(nb f.Ruling.Instance 1 2&&(nb f.Ruling.Kind 1 5&&(bif (f.Ruling.Kind==1)||(f.Ruling.Kind==2)then nb f.Ruling.Bib 0 0&&(nb f.Ruling.Position 0 0&&(nb f.Ruling.Amount 0 0&&true))else bif f.Ruling.Kind==3 then nb f.Ruling.Bib 1 9999&&(nb f.Ruling.Position 0 255&&(nb f.Ruling.Amount 1 1099511627776&&true))else bif f.Ruling.Kind==4 then nb f.Ruling.Bib 1 9999&&(nb f.Ruling.Position 0 255&&(nb f.Ruling.Amount 1 64&&true))else nb f.Ruling.Bib 1 9999&&(nb f.Ruling.Position 0 255&&(nb f.Ruling.Amount 0 0&&true))))))
 else bif f.Kind==11 then true&&(nb f.Appeal.Case 1 1048576&&(nb (suspB f) 0 1&&true))
 else bif f.Kind==12 then true&&true
 else bif f.Kind==13 then true&&(nb f.Void.Crew 0 31&&(nb f.Void.No 1 1048576&&true))
 else false
theorem Qnn(f:Fact):(f.Kind=1\/f.Kind=2\/f.Kind=3\/f.Kind=4\/f.Kind=5\/f.Kind=6\/f.Kind=7\/f.Kind=8\/f.Kind=9\/f.Kind=10\/f.Kind=11\/f.Kind=12\/f.Kind=13)\/((f.Kind==1)=false/\(f.Kind==2)=false/\(f.Kind==3)=false/\(f.Kind==4)=false/\(f.Kind==5)=false/\(f.Kind==6)=false/\(f.Kind==7)=false/\(f.Kind==8)=false/\(f.Kind==9)=false/\(f.Kind==10)=false/\(f.Kind==11)=false/\(f.Kind==12)=false/\(f.Kind==13)=false):=by
 by_cases h:1<=f.Kind/\f.Kind<=13
 .left;omega
 .right;simp only[Vy,ne_eq];omega
theorem Qmq(f:Fact):contS f=contR f:=by
 rcases Qnn f with k|⟨w,q,t,y,r,x,u,p,s,g,j,i,h⟩
 .rcases k with k|k|k|k|k|k|k|k|k|k|k|k|k
  case inr.inr.inr.inr.inr.inr.inr.inr.inr.inl=>
   obtain⟨Cr,No,At,Ki,S,R,B,Sy,Ha,Si,Pa,Re,Pr,⟨m,l,a,d,b,e⟩,Ap,Vo⟩:=f;simp only at k;subst k;have n:openU ⟨Cr,No,At,10,S,R,B,Sy,Ha,Si,Pa,Re,Pr,⟨m,l,a,d,b,e⟩,Ap,Vo⟩=(bif (a==1)||(a==2)then U_facts_open_rxk.c9 (0,0,0,0,0,0)else bif a==3 then .c9 (1,9999,0,255,1,1099511627776)else bif a==4 then .c9 (1,9999,0,255,1,64)else .c9 (1,9999,0,255,0,0)):=rfl;have z:contR ⟨Cr,No,At,10,S,R,B,Sy,Ha,Si,Pa,Re,Pr,⟨m,l,a,d,b,e⟩,Ap,Vo⟩=(true&&(nb m 1 1048576&&(nb l 1 2&&(nb a 1 5&&(bif (a==1)||(a==2)then nb d 0 0&&(nb b 0 0&&(nb e 0 0&&true))else bif a==3 then nb d 1 9999&&(nb b 0 255&&(nb e 1 1099511627776&&true))else bif a==4 then nb d 1 9999&&(nb b 0 255&&(nb e 1 64&&true))else nb d 1 9999&&(nb b 0 255&&(nb e 0 0&&true))))))):=rfl;rw[z];unfold contS;rw[n];cases((a==1)||(a==2))with
   |true=>rfl
   |false=>
    cases(a==3)with
    |true=>rfl
    |false=>cases(a==4)<;>rfl
  case inr.inr.inr.inr.inr.inr.inr.inr.inr.inr.inl=>
   obtain⟨Cr,No,At,Ki,S,R,B,Sy,Ha,Si,Pa,Re,Pr,Ru,⟨Ca,Su⟩,Vo⟩:=f;simp only at k;subst k;cases Su<;>rfl
  all_goals
   obtain⟨Cr,No,At,Ki,S,R,B,Sy,Ha,Si,Pa,Re,Pr,Ru,Ap,Vo⟩:=f;simp only at k;subst k;rfl
 .have n:openU f=.c13 ():=by unfold openU;rw[w,q,t,y,r,x,u,p,s,g,j,i,h];rfl
  unfold contS contR;rw[n,w,q,t,y,r,x,u,p,s,g,j,i,h];rfl
theorem QhA(x:Fact):∀l:List Fact,(insC x l).length<=l.length+1
 |[]=>by simp[insC]
 |y::r=>by
  unfold insC;have:=QhA x r;cases decide (cmpF y x<0)with
  |true=>simp only[Vn,XZ];omega
  |false=>cases(y==x)<;>simp
theorem QjR{α:Type}(l m:List α)(h:l.length+m.length<=4000000):app l m=some (l++m):=by
 unfold app;have:Nat.ble (l.length+m.length) Q3=true:=XS (XV h (by decide));rw[this];rfl
theorem QnO{α:Type}[DecidableEq α](l m:List α)(step:Nat->Int->Option (Ctl Int (Ctl Unit Bool)))(z:l.length<=4611686018427387904)
  (k:∀n s,step n s=(bif decide (s<(l.length:Int))then(idx l s).bind λx=>(idx m s).bind λy=>(bif (x != y)then some (.done (.done false))else some (.cont (IntKind.i64.wrap (s+1))))else some (.done (.cont ())))):
  Ev (λn=>(bif ((l.length:Int) != (m.length:Int))then some false else(Go.Sw.iter (step n) n 0:Option (Ctl Unit Bool)).bind λb11=>match b11 with|.cont sb11=>(some true)|.done sb11=>some sb11)) (decide (l=m)):=by
 by_cases b:l.length=m.length
 .rw[show((l.length:Int) != (m.length:Int))=false by rw[b];simp];simp only[Vp];have loop:∀(r d:List α) (i:Nat),l.drop i=r->m.drop i=d->i<=l.length->EvI step (i:Int) (bif decide (r=d)then Ctl.cont ()else Ctl.done false):=by
   intro r
   induction r with
   |nil=>
    intro d i h a p;have t:l.length<=i:=Xq.1 h;have:d=[]:=by rw[<- a];exact Xq.2 (by omega)
    subst this;refine Ej ?_;refine Qc2 (Qa _) λn=>?_;rw[k,Yo h p];simp
   |cons x r w=>
    intro d i h a p;obtain⟨f,j⟩:=QG z h;have u:=f.lt';cases d with
    |nil=>
     have t:m.length<=i:=Xq.1 a;omega
    |cons y d=>
     obtain⟨q,g⟩:=QG (by omega) a;by_cases e:x=y
     .subst e;refine Ew ?_ ((w d (i+1) j g (by omega)).eq ?_)
      .refine Qc2 (Qa _) λn=>?_;rw[k,f.lt,f.ix,q.ix,Vn,XJ,XJ,f.nx];simp
      .congr 1;simp
     .refine Ej ?_;refine Qc2 (Qa _) λn=>?_;rw[k,f.lt,f.ix,q.ix,Vn,XJ,XJ,bne_iff_ne.2 e];simp[e]
  refine Ea (loop l m 0 rfl rfl (XU _)).ev ?_;cases decide (l=m)<;>exact Qa _
 .rw[show((l.length:Int) != (m.length:Int))=true by rw[bne_iff_ne];omega];refine(Qa _).eq ?_;rw[QK λe=>b (by rw[e])]
theorem Qik{c:Course}(h:Course.wf c):CourseOk c:=by
 obtain⟨d,⟨j,n⟩,⟨f,r⟩,⟨i,b⟩,⟨e,k⟩,⟨q,m⟩,⟨l,g⟩,⟨p,s⟩,_⟩:=h;exact⟨d,j,λx a=>(n x a).1,f,i,λx a=>(b x a).1,λx a=>(b x a).2.2.2.1.1,e,λx a=>(k x a).1,q,λx a=>(m x a).1,l,λx a=>(g x a).1,p⟩
theorem Qi5{c:Course}(h:Course.wf c):PartsOk c:=by
 obtain⟨_,_,_,⟨e,b⟩,_⟩:=h;exact⟨λd a=>(b d a).2.1.1,λd a=>(b d a).2.1.2⟩
theorem Qnb{c:Course}(h:Course.wf c):c.Ties.length<=1048576/\ ∀x∈c.Ties,Step.wf x:=by
 obtain⟨_,_,_,_,_,_,_,_,a,_⟩:=h;exact a
theorem Qfj(l:List Fact):(canonS l).length<=l.length:=by
 have:∀(m a:List Fact),(m.foldl (λa x=>bif validS x then insC x a else a) a).length<=a.length+m.length:=by
  intro m
  induction m with
  |nil=>intro a;simp
  |cons x m b=>
   intro a;rw[XD,XZ];have d:=b (bif validS x then insC x a else a);have e:(bif validS x then insC x a else a).length<=a.length+1:=by
    cases validS x with
    |true=>exact QhA x a
    |false=>simp
   omega
 have:=this l [];simpa[canonS]using this
section
variable {α β:Type}
theorem Qkk{l:List α}[DecidableEq (List α)](b:l.length<=1048576):isNil l (some ([]:List α)) ((app ([]:List α) l).bind λx=>some x)=some l:=by
 have:app ([]:List α) l=some l:=by rw[QcR _ _ (by simp;omega)];rfl
 unfold isNil;cases l with
 |nil=>rw[this];simp
 |cons a l=>rw[this];rfl
theorem QmU{F:Nat->α->α->Option β}{V:α->α->β}(l:List α)(h:∀x∈l,∀y∈l,Ev (λn=>F n x y) (V x y)):∃N,∀n,N<=n->∀x∈l,∀y∈l,F n x y=some (V x y):=by
 obtain⟨N,e⟩:=QaP (F:=λn (p:α×α)=>F n p.1 p.2) (V:=λp=>V p.1 p.2) (l.flatMap λx=>l.map λy=>(x,y)) (by
  intro p a;rw[List.mem_flatMap]at a;obtain⟨x,b,a⟩:=a;obtain⟨y,d,rfl⟩:=Xe.1 a;exact h x b y d)
 exact⟨N,λn f x b y d=>e n f (x,y) (List.mem_flatMap.2 ⟨x,b,Xe.2 ⟨y,d,rfl⟩⟩)⟩
def ltC(c:α->α->Int)(x y:α):Bool:=decide (c x y<0)
theorem QcF{c:α->α->Int}(d:CmpOK c)(l:List α):Qfl (ltC c) l:=by
 refine⟨λx _=>?_,λx _ y _ z _ f g=>?_,λx _ y _ z _ f g=>?_⟩
 .have:=d.refl x;exact Vw (by omega)
 .have f:=Vu f;have g:=Vu g;exact Vt (d.trans x y z f g)
 .have f:=Vv f;have g:=Vv g;refine Vw λh=>?_;have a:=d.swap x y;have b:=d.swap y z;by_cases e:c x y=0
  .rw[d.eqt x y z e]at h;exact g h
  .by_cases i:c y z=0
   .rw[<- d.eqr x i]at h;exact f h
   .have j:=d.trans z y x (by omega) (by omega);have:=d.swap x z;omega
theorem Qj1[DecidableEq α]{cf:Nat->α->α->Option Int}{l:List α}{c:α->α->Int}(s:l.length<=1048576)(u:∀x∈l,∀y∈l,Ev (λn=>cf n x y) (c x y))(a:CmpOK c)(m:∀x∈l,∀y∈l,c x y=0->x=y):
  Ev (λn=>QbF (cf n) l) (QaU (ltC c) l):=by
 obtain⟨N,p⟩:=QmU l u;refine⟨N,λn r=>?_⟩;have h:=p n r;have k:=Qlg (cf:=cf n) (XR (Qnr s)) c h (λx _=>by have:=a.refl x;omega) (λx _ y _ z _=>a.trans x y z) (λx b y d z t f g=>by
   have:=(QcF a l).ntrans x b y d z t (Vw f) (Vw g);exact Vv this) (λx b y d f g=>m x b y d (by have:=a.swap x y;omega))
 show QbF (cf n) l=some (QaU (ltC c) l);rw[k];congr 1;obtain⟨_,_,w,_,_⟩:=Qex k;have e:∀x∈l,∀y∈l,ltO (cf n) x y=ltC c x y:=λx b y d=>by unfold ltO ltC;rw[h x b y d]
 refine Qbj (lt:=ltC c) ((QM _ l).trans (QM _ l).symm) (λx b y d f g=>?_) ?_ (YH (QcF a l))
 .have i:=(QM _ l).mem_iff.1 b;have j:=(QM _ l).mem_iff.1 d;have f:=Vv f;have g:=Vv g;exact m x i y j (by have:=a.swap x y;omega)
 .refine List.Pairwise.imp_of_mem (λ{x y} b d q=>?_) (YH w);have i:=(QM _ l).mem_iff.1 b;have j:=(QM _ l).mem_iff.1 d;rw[<- e y j x i];exact q
end
def ddA(p:Fact):List Fact->List Fact
 |[]=>[]
 |x::r=>bif x==p then ddA x r else x::ddA x r
def dd:List Fact->List Fact
 |[]=>[]
 |x::r=>x::ddA x r
theorem Qmo{x p:Fact}{r:List Fact}(q:(x==p)=true):ddA p (x::r)=ddA x r:=by
 show(bif x==p then ddA x r else x::ddA x r)=_;rw[q];rfl
theorem Qmn{x p:Fact}{r:List Fact}(q:(x==p)=false):ddA p (x::r)=x::ddA x r:=by
 show(bif x==p then ddA x r else x::ddA x r)=_;rw[q];rfl
theorem Qmm:∀(r:List Fact) (p:Fact),(∀x∈r,¬cmpF x p<0)->r.Pairwise (λa b=>¬cmpF b a<0)->(∀x∈p::r,validS x=true)->(ddA p r).Pairwise ltF/\(∀x∈ddA p r,ltF p x)/\ ∀x,x∈p::ddA p r↔x∈p::r
 |[],p,_,_,_=>⟨List.Pairwise.nil,(λ_ h=>by cases h),λ_=>Iff.rfl⟩
 |y::r,p,h1,h2,h3=>by
  rw[Xc]at h2;obtain⟨i1,i2,i3⟩:=Qmm r y h2.1 h2.2 λx hx=>h3 x (by simp only[X5]at hx⊢;exact .inr hx);have hy:=h1 y (by simp);unfold ddA;cases q:y==p with
  |true=>
   have e:y=p:=by simpa using q
   subst e;refine⟨i1,i2,λx=>?_⟩;rw[Vn,i3 x];simp
  |false=>
   have f:¬cmpF y p=0:=λe=>by simp[QgW (h3 y (by simp)) (h3 p (by simp)) e]at q
   have d:ltF p y:=by
    have:=QjO.swap y p;unfold ltF;omega
   simp only[Vp];refine⟨Xc.2 ⟨i2,i1⟩,λx hx=>?_,λx=>?_⟩
   .rcases X5.1 hx with rfl|hx
    .exact d
    .exact QiF _ _ _ d (i2 x hx)
   .rw[X5,i3 x,X5 (a:=x) (b:=p)]
theorem dd_ok{S:List Fact}(h:S.Pairwise λa b=>¬cmpF b a<0)(f:∀x∈S,validS x=true):(dd S).Pairwise ltF/\ ∀x,x∈dd S↔x∈S:=by
 cases S with
 |nil=>exact⟨List.Pairwise.nil,λ_=>Iff.rfl⟩
 |cons a r=>
  rw[Xc]at h;obtain⟨d,e,g⟩:=Qmm r a h.1 h.2 f;exact⟨Xc.2 ⟨e,d⟩,g⟩
theorem QgQ(x y:Fact):Ev (λn=>F_ax n x y) ():=Qa _
theorem QjC{l:List Fact}{a j:Nat}{x:Fact}(h:l[a+j]?=some x){m:Int}(d:m=(l.length:Int)):QbC l (a:Int) m (j:Int)=some x:=by
 have b:=(XL.1 h).1;unfold QbC;rw[Vt (show(0:Int)<=(a:Int)by omega),Vt (show(0:Int)<=(j:Int)by omega),Vt (show(a:Int)+(j:Int)<m by omega)];rw[show(a:Int)+(j:Int)=((a+j:Nat):Int)by omega];exact QJ h
theorem QgV{α:Type}{l r:List α}{i:Nat}{x:α}(h:l.drop i=x::r):l[i]?=some x/\l.drop (i+1)=r/\i<l.length:=by
 have a:l[i]?=some x:=by
  have:=congrArg (λl=>l[0]?) h;simpa using this
 refine⟨a,?_,(XL.1 a).1⟩;have:=Xp (XL.1 a).1;rw[h]at this;exact(List.cons.inj this).2.symm
theorem QhY(a:List Fact)(J:a.length<=1048576)(b:Nat):∀(r s:List Fact) (i j:Nat) (p:Fact),s.length=a.length->s.drop (b+(j+1))=r->s[b+j]?=some p->i<b+(j+1)->b+(j+1)<=s.length->
  ∃(s':List Fact) (d:Nat),EvI (λn=>F_fo n a (b:Int)) (s,(i:Int),((j+1:Nat):Int)) (s',(d:Int))/\d<=s'.length/\s'.take d=s.take i++ddA p r:=by
 intro r
 induction r with
 |nil=>
  intro s i j p e l w H E;refine⟨s,i,Ej ?_,by omega,by simp[ddA]⟩;have:=Xq.1 l;unfold F_fo;rw[QK (show¬(((j+1:Nat):Int)<((Int.toNat (a.length:Int)-Int.toNat (b:Int):Nat):Int))by omega)];exact Qa _
 |cons x r z=>
  intro s i j p e l w H E;obtain⟨f,u,F⟩:=QgV l;have y:=QjC f (show(a.length:Int)=(s.length:Int)by rw[e]);have t:=QjC w (show(a.length:Int)=(s.length:Int)by rw[e]);have w1:IntKind.i64.wrap (((j+1:Nat):Int)-1)=(j:Int):=by rw[Qp (by omega) (by omega)];omega
  have w2:IntKind.i64.wrap (((j+1:Nat):Int)+1)=((j+1+1:Nat):Int):=QO (by omega);have B:decide (((j+1:Nat):Int)<((Int.toNat (a.length:Int)-Int.toNat (b:Int):Nat):Int))=true:=Vt (by omega);have k:i<s.length:=by omega
  cases q:x==p with
  |true=>
   obtain⟨s',d,m,h,g⟩:=z s i (j+1) x e (by rw[show b+(j+1+1)=b+(j+1)+1 by omega];exact u) f (by omega) (by omega);refine⟨s',d,Ew ?_ m,h,by rw[g,Qmo q]⟩;unfold F_fo;simp only[B,Vn,y,w1,t,XJ];refine Ea (QgQ x p) ?_;rw[q];simp only[Xg,Vp,XJ,w2];exact Qa _
  |false=>
   have G:(s.set i x).length=a.length:=by rw[X3];exact e
   obtain⟨s',d,m,h,g⟩:=z (s.set i x) (i+1) (j+1) x G (by rw[show b+(j+1+1)=b+(j+1)+1 by omega,List.drop_set_of_lt (by omega)];exact u) (by rw[XP (by omega)];exact f) (by omega) (by rw[X3];omega);have w3:IntKind.i64.wrap ((i:Int)+1)=((i+1:Nat):Int):=QO (by omega);refine⟨s',d,Ew ?_ m,h,?_⟩
   .unfold F_fo;simp only[B,Vn,y,w1,t,XJ];refine Ea (QgQ x p) ?_;rw[q];simp only[Xh,Vn,XJ,w2,QJ (XK k),QaH s x k,w3];exact Qa _
   .rw[g,List.take_add_one,Xa k,List.take_set_of_le (XT _)];rw[Qmn q];simp
theorem QhZ(a:List Fact)(y:a.length<=1048576):∀(r:List Fact) (k:Nat) (p:Fact),a.drop (k+1)=r->a[k]?=some p->k+1<=a.length->∃b:Ctl Unit (List Fact),EvI (λn=>F_ft n a) ((k+1:Nat):Int) b/\((b=.cont ()/\ddA p r=r)\/b=.done (a.take (k+1)++ddA p r)):=by
 intro r
 induction r with
 |nil=>
  intro k p h j t;refine⟨.cont (),Ej ?_,.inl ⟨rfl,rfl⟩⟩;have:=Xq.1 h;unfold F_ft;rw[QK (show¬(((k+1:Nat):Int)<(a.length:Int))by omega)];exact Qa _
 |cons x r u=>
  intro k p h j t;obtain⟨f,s,g⟩:=QgV h;have w1:IntKind.i64.wrap (((k+1:Nat):Int)-1)=(k:Int):=by rw[Qp (by omega) (by omega)];omega
  have w2:IntKind.i64.wrap (((k+1:Nat):Int)+1)=((k+1+1:Nat):Int):=QO (by omega);have m:decide (((k+1:Nat):Int)<(a.length:Int))=true:=Vt (by omega);cases q:x==p with
  |true=>
   obtain⟨w,z,l,d,i⟩:=QhY a y (k+1) r a (k+1) 0 x rfl s f (by omega) (by omega);refine⟨.done (a.take (k+1)++ddA p (x::r)),Ej ?_,.inr rfl⟩;unfold F_ft;simp only[m,Vn,QJ f,w1,QJ j,XJ];refine Ea (QgQ x p) ?_;rw[q];simp only[Vn,Qhl a (Nat.le_of_lt g),XJ];refine Ea l.ev ?_;simp only[Qit w d,XJ];rw[i];rw[Qmo q];exact Qa _
  |false=>
   obtain⟨b,l,d⟩:=u (k+1) x s f g;have e:=Qmn (r:=r) q;refine⟨b,Ew ?_ l,?_⟩
   .unfold F_ft;simp only[m,Vn,QJ f,w1,QJ j,XJ];refine Ea (QgQ x p) ?_;rw[q];simp only[Vp,w2];exact Qa _
   .rcases d with⟨d,i⟩|d
    .exact .inl ⟨d,by rw[e,i]⟩
    .refine .inr ?_;rw[d,e,List.take_add_one,f];simp
theorem QhX(a:List Fact)(d:a.length<=1048576):Ev (λn=>F_bm n a) (dd a):=by
 unfold F_bm
 match a,d with
 |[],_=>exact Qa _
 |[x],_=>exact Qa _
 |x::y::r,d=>
  rw[QK (show¬(((x::y::r).length:Int)<2)by simp;omega)];refine Yk ?_;obtain⟨b,f,g⟩:=QhZ (x::y::r) d (y::r) 0 x rfl rfl (by simp);refine Ea f.ev ?_;rcases g with⟨rfl,e⟩|rfl
  .show Ev (λn=>some (x::y::r)) (x::ddA x (y::r));rw[e];exact Qa _
  .exact Qa _
section
variable {S T B:Type} {step:Nat->S->Option (List T×Ctl S B)} {s s':S} {b:B} {xs ys:List T}
def EvL(step:Nat->S->Option (List T×Ctl S B))(s:S)(ys:List T)(b:B):Prop:=∃N,∀n k,N<=n->N<=k->QbL (step n) k s=some (ys,b)
theorem EvL.done(h:Ev (λn=>step n s) (ys,.done b)):EvL step s ys b:=by
 obtain⟨N,h⟩:=h;refine⟨N+1,λn k d f=>?_⟩;obtain⟨a,rfl⟩:∃a,k=a+1:=⟨k-1,by omega⟩;have e:step n s=some (ys,.done b):=h n (by omega);unfold QbL;rw[e];rfl
theorem EvL.cont(h:Ev (λn=>step n s) (xs,.cont s'))(q:EvL step s' ys b):EvL step s (xs++ys) b:=by
 obtain⟨N,h⟩:=h;obtain⟨M,q⟩:=q;refine⟨max N M+1,λn k d f=>?_⟩;obtain⟨a,rfl⟩:∃a,k=a+1:=⟨k-1,by omega⟩;have e:step n s=some (xs,.cont s'):=h n (by omega);unfold QbL;rw[e];show(QbL (step n) a s').bind _=_;rw[q n a (by omega) (by omega)];rfl
theorem EvL.ev(h:EvL step s ys b):Ev (λn=>QbL (step n) n s) (ys,b):=by
 obtain⟨N,h⟩:=h;exact⟨N,λn a=>h n n a a⟩
end
section
variable {U T R:Type}
theorem Qb5{step:Nat->U->T->Option (Ctl U R)}(g:U->T->U)(I:U->Nat->Prop):∀(l:List T) (u:U),I u l.length->(∀x∈l,∀u k,I u (k+1)->Ev (λn=>step n u x) (.cont (g u x))/\I (g u x) k)->Ev (λn=>runL (step n) l u) (.cont (l.foldl g u))/\I (l.foldl g u) 0
 |[],u,h,_=>⟨Qa _,h⟩
 |x::l,u,h,q=>by
  obtain⟨h1,h2⟩:=q x (by simp) u l.length h;obtain⟨r1,r2⟩:=Qb5 g I l (g u x) h2 λy hy=>q y (by simp[hy]);exact⟨Ea h1 r1,r2⟩
end
def ofK(k:Int)(f:Fact):Bool:=(f.Kind==k)&&validS f
def cntS(l:List Fact)(k:Int):List Fact:=(canonS l).filter λf=>f.Kind==k
theorem QhW(f:Fact)(k:Int):Ev (λn=>F_ak n f k) (!ofK k f):=by
 unfold F_ak ofK;refine Ea (v:= !((f.Kind==k)&&validS f)) ?_ (Qa _);cases q:f.Kind==k with
 |false=>simp only[bne,q,Xh,Vn,Bool.false_and];exact Qa _
 |true=>
  simp only[bne,q,Xg,Vp,Vz];refine Ea (QfG f) ?_;cases validS f<;>exact Qa _
theorem Qnv(l:List Fact)(k:Int)(m:l.length<=1048576):Ev (λn=>F_dd n l k) (l.filter (ofK k)):=by
 unfold F_dd F_ef;refine Ev.eq (Qk0 l (λg=> !ofK k g) m (Ev.first l _ (by omega) (λi x a=>?_) ?_) (λd i j x y h a b p f=>?_) λd i=>?_) (by simp)
 .unfold F_gz;simp only[a.lt,Vn,a.ix,XJ,a.nx];refine Ea (QhW x k) ?_;cases ofK k x<;>exact Qa _
 .unfold F_gz;simp only[Qdr,Vp];exact Qa _
 .have e:=(XL.1 b).1;unfold F_ha;simp only[a.lt,Vn,a.ix,XJ,a.nx];refine Ea (QhW x k) ?_;cases ofK k x with
  |false=>exact Qa _
  |true=>
   simp only[Xg,Xh,Vn,Vp,QJ b,QaH d x e,XJ,QO (show i<9223372036854775807 by omega)];exact Qa _
 .unfold F_ha;simp only[Qdr,Vp];exact Qa _
theorem Qko(r:List Fact)(k:r.length<=1048576):Ev (λn=>ap (QbL (F_fw n r) n 0) λ_=>some ([],())) (r,()):=by
 have loop:∀(q:List Fact) (i:Nat),r.drop i=q->i<=r.length->EvL (λn=>F_fw n r) (i:Int) q ():=by
  intro q
  induction q with
  |nil=>
   intro i b e;refine EvL.done ?_;unfold F_fw;simp only[Yo b e,Vp];exact Qa _
  |cons f q j=>
   intro i b e;obtain⟨a,d⟩:=QG (by omega) b;have g:=a.lt';refine EvL.cont (xs:=[f]) ?_ (j (i+1) d (by omega));unfold F_fw;simp only[a.lt,Vn,a.ix,XJ,a.nx];exact Qa _
 have h:=(loop r 0 rfl (XU _)).ev;unfold ap;refine Ea h ?_;exact Ev.eq (Qa _) (by simp)
theorem QcO(l:List Fact)(k:Int):(cntS l k).length<=l.length:=XV (List.length_filter_le ..) (Qfj l)
theorem QaL(l:List Fact)(k:Int)(g:l.length<=1048576):Ev (λn=>F_q n l k) (cntS l k,()):=by
 unfold F_q F_dx;simp only[Qkk g,XJ];refine Ea (Qnv l k g) ?_;have p:=QM (ltC cmpF) (l.filter (ofK k));have j:∀f∈l.filter (ofK k),validS f=true:=λf r=>by
  have:=(Xd.1 r).2;unfold ofK at this;rw[XW]at this;exact this.2
 have d:=XV (List.length_filter_le (ofK k) l) g;refine Ea (Qj1 d (λx _ y _=>QiR x y) QjO λx i y u e=>QgW (j x i) (j y u) e) ?_;refine Ea (QhX _ (by rw[p.length_eq];exact d)) ?_;have s:(QaU (ltC cmpF) (l.filter (ofK k))).Pairwise λa b=>¬cmpF b a<0:=List.Pairwise.imp (λq=>Vv q) (YH (QcF QjO _));obtain⟨m,t⟩:=dd_ok s λx i=>j x (p.mem_iff.1 i);obtain⟨z,w⟩:=Qdt l;have e:dd (QaU (ltC cmpF) (l.filter (ofK k)))=cntS l k:=Qev Qnl QiF m (z.1.filter _) λf=>by
  rw[t,p.mem_iff];simp only[cntS,Xd,w,ofK,XW];exact⟨λh=>⟨⟨h.1,h.2.2⟩,h.2.1⟩,λh=>⟨h.1.1,h.2,h.1.2⟩⟩
 rw[e];exact Qko _ (XV (QcO l k) g)
def cmpSeg(x y:Segment):Int:=orL [cmpI x.Mat y.Mat,cmpI x.Epoch y.Epoch]
theorem Qme(a b:Int):Ev (λn=>F_l n a b) (cmpI a b):=Qc2 (Qa _) λn=>QjL n a b
theorem QhT(x y:Segment):Ev (λn=>F_ag n x y) (cmpSeg x y):=by
 unfold F_ag F_ey;exact Ea (Ea (Qme _ _) (Ea (Qme _ _) (Ea (Qn5 _ (by simp)) (Qa _)))) (Qa _)
def farG(c:Clocks)(i j:Nat):Int:=((c.Far[i]?.getD [])[j]?).getD 0
structure Dims (c:Clocks):Prop where
 segs:c.Segments.length<=511
 far:c.Far.length=c.Segments.length+1
 row:∀i,i<c.Far.length->(c.Far[i]?.getD []).length=c.Segments.length+1
theorem Dims.get{c:Clocks}(d:Dims c){i j:Nat}(hi:i<c.Segments.length+1)(b:j<c.Segments.length+1):c.Far[i]?=some (c.Far[i]?.getD [])/\(c.Far[i]?.getD [])[j]?=some (farG c i j):=by
 have a:i<c.Far.length:=by rw[d.far];exact hi
 have e:=d.row i a;refine⟨by rw[XK a];rfl,?_⟩;unfold farG;have:j<(c.Far[i]?.getD []).length:=by omega
 rw[XK this];rfl
structure Gr where
 F:Nat->Nat
 T:Nat->Nat
 W:Nat->Int
 E:Nat
structure Bs where
 far:Nat->Int
 edge:Nat->Nat
def bN:Int:=1152921504606846976
def bup{β:Type}(f:Nat->β)(k:Nat)(v:β):Nat->β:=λj=>if j=k then v else f j
def brel(g:Gr)(s:Bs)(i:Nat):Bs:=
 if s.far (g.F i)=bN\/s.far (g.T i)<=s.far (g.F i)+g.W i then s else⟨bup s.far (g.T i) (s.far (g.F i)+g.W i),bup s.edge (g.T i) i⟩
def bst(g:Gr)(s:Bs):Nat->Bs
 |0=>s
 |t+1=>brel g (bst g s t) (t%g.E)
theorem YD{β:Type}(f:Nat->β)(k:Nat)(v:β):bup f k v k=v:=Vs rfl
theorem QbP{β:Type}(f:Nat->β){k j:Nat}(v:β)(h:j≠k):bup f k v j=f j:=Vr h
theorem YJ(g:Gr)(s:Bs)(i:Nat):
  (brel g s i=s/\(s.far (g.F i)=bN\/s.far (g.T i)<=s.far (g.F i)+g.W i))\/
  (s.far (g.F i)≠bN/\s.far (g.F i)+g.W i<s.far (g.T i)/\brel g s i=⟨bup s.far (g.T i) (s.far (g.F i)+g.W i),bup s.edge (g.T i) i⟩):=by
 unfold brel;by_cases h:s.far (g.F i)=bN\/s.far (g.T i)<=s.far (g.F i)+g.W i
 .exact .inl ⟨Vs h,h⟩
 .exact .inr ⟨λq=>h (.inl q),by omega,Vr h⟩
theorem QnC(g:Gr)(s:Bs)(i v:Nat):(brel g s i).far v<=s.far v:=by
 rcases YJ g s i with⟨h,_⟩|⟨_,a,h⟩
 .rw[h];exact Int.le_refl _
 .rw[h];by_cases q:v=g.T i
  .subst q;simp only[YD];omega
  .simp only[QbP _ _ q];exact Int.le_refl _
theorem Qfk(g:Gr)(s:Bs)(v t:Nat):∀k,(bst g s (t+k)).far v<=(bst g s t).far v
 |0=>Int.le_refl _
 |k+1=>Int.le_trans (QnC g _ _ v) (Qfk g s v t k)
def bch(g:Gr)(s:Bs)(v t:Nat):Prop:=(bst g s (t+1)).far v≠(bst g s t).far v
theorem Jh(g:Gr)(s:Bs)(t:Nat):bst g s (t+1)=brel g (bst g s t) (t%g.E):=rfl
theorem QaC{g:Gr}{s:Bs}{v t:Nat}(h:bch g s v t):v=g.T (t%g.E)/\(bst g s t).far (g.F (t%g.E))≠bN/\
  (bst g s t).far (g.F (t%g.E))+g.W (t%g.E)<(bst g s t).far v/\bst g s (t+1)=⟨bup (bst g s t).far v ((bst g s t).far (g.F (t%g.E))+g.W (t%g.E)),bup (bst g s t).edge v (t%g.E)⟩:=by
 unfold bch at h;rw[Jh]at h⊢;rcases YJ g (bst g s t) (t%g.E)with⟨q,_⟩|⟨d,b,a⟩
 .rw[q]at h;exact absurd rfl h
 .by_cases e:v=g.T (t%g.E)
  .subst e;exact⟨rfl,d,b,a⟩
  .rw[a]at h;exact absurd (QbP _ _ e) h
theorem Qmv{g:Gr}{s:Bs}{v t:Nat}(h:bch g s v t):(bst g s (t+1)).edge v=t%g.E:=by
 rw[(QaC h).2.2.2];exact YD _ _ _
theorem QgZ{g:Gr}{s:Bs}{v t:Nat}(h:¬bch g s v t):(bst g s (t+1)).far v=(bst g s t).far v/\(bst g s (t+1)).edge v=(bst g s t).edge v:=by
 have a:(bst g s (t+1)).far v=(bst g s t).far v:=Classical.not_not.1 h;refine⟨a,?_⟩;rw[Jh]at a⊢;rcases YJ g (bst g s t) (t%g.E)with⟨q,_⟩|⟨f,d,b⟩
 .rw[q]
 .rw[b]at a⊢;by_cases e:v=g.T (t%g.E)
  .subst e;simp only[YD]at a;omega
  .exact QbP _ _ e
theorem Qbd{g:Gr}{s:Bs}{v t:Nat}:∀k,(∀j,j<k->¬bch g s v (t+j))->(bst g s (t+k)).far v=(bst g s t).far v/\(bst g s (t+k)).edge v=(bst g s t).edge v
 |0,_=>⟨rfl,rfl⟩
 |k+1,h=>by
  have a:=QgZ (h k (Xn k));have b:=Qbd k λj hj=>h j (by omega);exact⟨a.1.trans b.1,a.2.trans b.2⟩
theorem Qmu{g:Gr}{s:Bs}{v t:Nat}(hE:0<g.E)(he:g.E<=t)(h:bch g s v t):∃j,j<g.E/\bch g s (g.F (t%g.E)) (t-g.E+j):=by
 obtain⟨f,d,n,-⟩:=QaC h;refine Classical.byContradiction λq=>?_;have k:=(Qbd (t:=t-g.E) g.E λj i c=>q ⟨j,i,c⟩).1;rw[show t-g.E+g.E=t by omega]at k;have l:(t-g.E)%g.E=t%g.E:=by
  conv=>rhs;rw[show t=(t-g.E)+g.E by omega,Nat.add_mod_right]
 have e:=Qfk g s v (t-g.E+1) (g.E-1);rw[show t-g.E+1+(g.E-1)=t by omega]at e;have p:(bst g s (t-g.E+1)).far v<=(bst g s (t-g.E)).far (g.F (t%g.E))+g.W (t%g.E):=by
  rw[Jh,l,f];rcases YJ g (bst g s (t-g.E)) (t%g.E)with⟨b,a⟩|⟨b,a,m⟩
  .rw[b];rcases a with a|a
   .rw[<- k]at a;exact absurd a d
   .exact a
  .rw[m];simp only[YD];exact Int.le_refl _
 omega
structure Lst (g:Gr) (s:Bs) (v t τ:Nat):Prop where
 lt:τ<t
 ch:bch g s v τ
 no:∀j,τ<j->j<t->¬bch g s v j
theorem Qi9{g:Gr}{s:Bs}{v:Nat}:∀{t τ:Nat},τ<t->bch g s v τ->∃τ',τ<=τ'/\Lst g s v t τ'
 |0,_,h,_=>absurd h (Xm _)
 |t+1,τ,h,c=>by
  by_cases q:bch g s v t
  .exact⟨t,by omega,⟨by omega,q,λj h1 h2=>by omega⟩⟩
  .rcases VB τ t with k|k
   .obtain⟨τ',h1,h2⟩:=Qi9 k c;exact⟨τ',h1,⟨Nat.lt_succ_of_lt h2.lt,h2.ch,λj a b=>by
     rcases VB j t with e|e
     .exact h2.no j a e
     .rwa [show j=t by omega]⟩⟩
   .rw[show τ=t by omega]at c;exact absurd c q
theorem Lst.edge{g:Gr}{s:Bs}{v t τ:Nat}(h:Lst g s v t τ):(bst g s t).edge v=τ%g.E:=by
 have k:=(Qbd (t:=τ+1) (t-(τ+1)) λj a=>h.no (τ+1+j) (by omega) (by omega)).2;have:=h.lt;rw[show τ+1+(t-(τ+1))=t by omega]at k;rw[k,(QaC h.ch).2.2.2];exact YD _ _ _
def bp(g:Gr)(s:Bs)(v:Nat):Nat:=g.F (s.edge v)
theorem Lst.pred{g:Gr}{s:Bs}{v t τ:Nat}(hE:0<g.E)(h:Lst g s v t τ)(he:g.E<=τ):∃τ',τ-g.E<=τ'/\Lst g s (bp g (bst g s t) v) t τ':=by
 unfold bp;rw[h.edge];obtain⟨j,b,c⟩:=Qmu hE he h.ch;have:=h.lt;obtain⟨τ',d,a⟩:=Qi9 (t:=t) (by omega) c;exact⟨τ',by omega,a⟩
def bpk(g:Gr)(s:Bs):Nat->Nat->Nat
 |v,0=>v
 |v,k+1=>bp g s (bpk g s v k)
theorem Lst.back{g:Gr}{s:Bs}{v t:Nat}(hE:0<g.E):∀k {τ:Nat},Lst g s v t τ->k*g.E<=τ->∃τ',τ-k*g.E<=τ'/\Lst g s (bpk g (bst g s t) v k) t τ'
 |0,τ,h,_=>⟨τ,by omega,h⟩
 |k+1,τ,h,hk=>by
  rw[Xl]at hk;obtain⟨τ1,h1,h2⟩:=Lst.back hE k h (by omega);obtain⟨τ2,h3,h4⟩:=h2.pred hE (by omega);refine⟨τ2,?_,h4⟩;rw[Xl];omega
theorem Lst.low{g:Gr}{s:Bs}{v t τ:Nat}(h:Lst g s v t τ):(bst g s t).far (bp g (bst g s t) v)+g.W ((bst g s t).edge v)<=(bst g s t).far v:=by
 have k:=(Qbd (t:=τ+1) (t-(τ+1)) λj f=>h.no (τ+1+j) (by omega) (by omega)).1;have lt:=h.lt;rw[show τ+1+(t-(τ+1))=t by omega]at k;obtain⟨e,b,d,a⟩:=QaC h.ch;unfold bp;rw[h.edge,k,a];simp only[YD];have:=Qfk g s (g.F (τ%g.E)) τ (t-τ);rw[show τ+(t-τ)=t by omega]at this;omega
def bsum(g:Gr)(s:Bs)(v:Nat):Nat->Int
 |0=>0
 |k+1=>bsum g s v k+g.W (s.edge (bpk g s v k))
theorem QjP{g:Gr}{s:Bs}(φ:Nat->Int)(v:Nat):∀k,(∀j,j<k->g.W (s.edge (bpk g s v j))<=φ (bpk g s v j)-φ (bpk g s v (j+1)))->
  bsum g s v k<=φ v-φ (bpk g s v k)/\ ∀j,j<k->g.W (s.edge (bpk g s v j))<φ (bpk g s v j)-φ (bpk g s v (j+1))->bsum g s v k<φ v-φ (bpk g s v k)
 |0,_=>⟨by simp[bsum,bpk],λj hj=>absurd hj (Xm _)⟩
 |k+1,h=>by
  obtain⟨a,b⟩:=QjP φ v k λj hj=>h j (by omega);have c:=h k (by omega);unfold bsum;refine⟨by omega,λj hj q=>?_⟩;rcases VB j k with e|e
  .have:=b j e q;omega
  .rw[show j=k by omega]at q;omega
theorem Qh7{g:Gr}{s s':Bs}{v:Nat}:∀k,(∀j,j<k->s'.edge (bpk g s v j)=s.edge (bpk g s v j))->bpk g s' v k=bpk g s v k/\bsum g s' v k=bsum g s v k
 |0,_=>⟨rfl,rfl⟩
 |k+1,h=>by
  obtain⟨a,b⟩:=Qh7 k λj hj=>h j (by omega);unfold bpk bp bsum;rw[a,b,h k (by omega)];exact⟨rfl,rfl⟩
theorem QiZ{g:Gr}{s:Bs}:∀(t:Nat) {v k:Nat},0<k->bpk g (bst g s t) v k=v->(∀j,j<k->∃τ,Lst g s (bpk g (bst g s t) v j) t τ)->bsum g (bst g s t) v k<0
 |0,v,k,h0,_,h=>by obtain⟨τ,q⟩:=h 0 h0;exact absurd q.lt (Xm _)
 |t+1,v,k,h0,hk,h=>by
  by_cases q:∃j,j<k/\bch g s (bpk g (bst g s (t+1)) v j) t
  .obtain⟨j,hj,c⟩:=q;obtain⟨e1,e2,e3,e4⟩:=QaC c;have ed:=Qmv c;have key:∀i,i<k->g.W ((bst g s (t+1)).edge (bpk g (bst g s (t+1)) v i))<=(bst g s t).far (bpk g (bst g s (t+1)) v i)-(bst g s t).far (bpk g (bst g s (t+1)) v (i+1)):=by
    intro i l;by_cases z:bpk g (bst g s (t+1)) v i=bpk g (bst g s (t+1)) v j
    .have:bpk g (bst g s (t+1)) v (i+1)=g.F (t%g.E):=by
      show bp g _ _=_;unfold bp;rw[z,ed]
     rw[this,z,ed];omega
    .obtain⟨τ,hτ⟩:=h i l;have d:¬bch g s (bpk g (bst g s (t+1)) v i) t:=λu=>z ((QaC u).1.trans e1.symm);have r:Lst g s (bpk g (bst g s (t+1)) v i) t τ:=⟨by
      have:=hτ.lt;rcases VB τ t with e|e
      .exact e
      .rw[show τ=t by omega]at hτ;exact absurd hτ.ch d,hτ.ch,λj a b=>hτ.no j a (by omega)⟩
     have:=r.low;have p:=(QgZ d).2;show g.W _<=_-(bst g s t).far (bp g _ _);unfold bp at this⊢;rw[p];omega
   have n:=(QjP (g:=g) (s:=bst g s (t+1)) (bst g s t).far v k key).2 j hj (by
    show g.W _<_-(bst g s t).far (bp g _ _);unfold bp;rw[ed];omega)
   rw[hk]at n;omega
  .have d:∀j,j<k->¬bch g s (bpk g (bst g s (t+1)) v j) t:=λj hj c=>q ⟨j,hj,c⟩;have m:=Qh7 (g:=g) (s:=bst g s (t+1)) (s':=bst g s t) (v:=v);have f:=λi (l:i<=k)=>m i λj hj=>(QgZ (d j (by omega))).2.symm;rw[<- (f k (XT _)).2];refine QiZ t h0 ((f k (XT _)).1.trans hk) λj hj=>?_;rw[(f j (by omega)).1];obtain⟨τ,hτ⟩:=h j hj;exact⟨τ,by
    have:=hτ.lt;rcases VB τ t with e|e
    .exact e
    .rw[show τ=t by omega]at hτ;exact absurd hτ.ch (d j hj),hτ.ch,λi a b=>hτ.no i a (by omega)⟩
theorem QlD:∀(n:Nat) (f:Nat->Nat),(∀i,i<=n->f i<n)->∃i j,i<j/\j<=n/\f i=f j
 |0,f,h=>absurd (h 0 (XT _)) (Xm _)
 |n+1,f,h=>by
  by_cases q:∃i,i<=n/\f i=f (n+1)
  .obtain⟨i,h1,h2⟩:=q;exact⟨i,n+1,by omega,by omega,h2⟩
  .have q':∀i,i<=n->f i≠f (n+1):=λi h1 h2=>q ⟨i,h1,h2⟩;obtain⟨i,j,h1,h2,h3⟩:=QlD n (λi=>if f i=n then f (n+1)else f i) (λi hi=>by
    have a:=h i (by omega);have b:=h (n+1) (by omega);have c:=q' i hi;show(if _ then _ else _)<n;split<;>omega)
   refine⟨i,j,h1,by omega,?_⟩;have c:=q' i (by omega);have d:=q' j (by omega);split at h3<;>split at h3<;>omega
theorem QcQ(g:Gr)(s:Bs)(v a:Nat):∀b,bpk g s v (a+b)=bpk g s (bpk g s v a) b
 |0=>rfl
 |b+1=>by show bp g s (bpk g s v (a+b))=_;rw[QcQ g s v a b];rfl
theorem QnD{g:Gr}{s:Bs}{v i d:Nat}(h:bpk g s v (i+d)=bpk g s v i)(m:Nat):bpk g s v (i+m+d)=bpk g s v (i+m):=by
 rw[show i+m+d=(i+d)+m by omega,QcQ,h, <- QcQ]
theorem Qoa{g:Gr}{s:Bs}{n v t τ:Nat}(hE:0<g.E)(y:∀i,g.F i<n)(w:v<n)(h:Lst g s v t τ)(hτ:(n-1)*g.E<=τ):
  ∃k,0<k/\k<=n/\bpk g (bst g s t) (bpk g (bst g s t) v n) k=bpk g (bst g s t) v n/\ ∀j,∃τ',Lst g s (bpk g (bst g s t) (bpk g (bst g s t) v n) j) t τ':=by
 have all:∀j,j<n->∃τ',Lst g s (bpk g (bst g s t) v j) t τ':=λj G=>by
  have:j*g.E<=(n-1)*g.E:=XC _ (by omega);obtain⟨τ',_,q⟩:=h.back hE j (by omega);exact⟨τ',q⟩
 obtain⟨i,j,z,B,u⟩:=QlD n (λj=>bpk g (bst g s t) v j) (λj _=>by
  cases j with
  |zero=>exact w
  |succ j=>exact y _)
 have l:=λm=>QnD (g:=g) (s:=bst g s t) (v:=v) (i:=i) (d:=j-i) (by rw[show i+(j-i)=j by omega];exact u.symm) m;refine⟨j-i,by omega,by omega,?_,λm=>?_⟩
 .rw[<- QcQ];have:=l (n-i)
  rwa [show i+(n-i)=n by omega]at this
 .rw[<- QcQ];have p:∀r,∃f,f<n/\bpk g (bst g s t) v (i+r)=bpk g (bst g s t) v f:=by
   intro r
   induction r using Nat.strongRecOn with
   |ind r x=>
    rcases VB (i+r) n with e|e
    .exact⟨i+r,e,rfl⟩
    .obtain⟨f,a,b⟩:=x (r-(j-i)) (by omega);refine⟨f,a,?_⟩;have:=l (r-(j-i));rw[show i+(r-(j-i))+(j-i)=i+r by omega]at this;rw[this,b]
  obtain⟨f,a,b⟩:=p (n+m-i);rw[show i+(n+m-i)=n+m by omega]at b;rw[b];exact all f a
theorem QkD{g:Gr}{s:Bs}{t:Nat}(h:∀j v,j<g.E->¬bch g s v (t+j))(b:t%g.E=0):∀i,i<g.E->(bst g s t).far (g.F i)=bN\/(bst g s t).far (g.T i)<=(bst g s t).far (g.F i)+g.W i:=by
 intro i a;have k:=λv=>(Qbd (g:=g) (s:=s) (v:=v) (t:=t) i λj m=>h j v (by omega)).1;have d:(t+i)%g.E=i:=by rw[Nat.add_mod,b,Xv,Nat.mod_mod,Nat.mod_eq_of_lt a]
 rcases YJ g (bst g s (t+i)) i with⟨_,q⟩|⟨f,l,e⟩
 .rwa [k,k]at q
 .have:=h i (g.T i) a;unfold bch at this;rw[Jh,d,e]at this;simp only[YD]at this;omega
theorem QnB{g:Gr}{s:Bs}{M:Int}(d:∀i,-M<=g.W i/\g.W i<=M)(h:∀v,s.far v=bN\/s.far v=0)(t:Nat)(v:Nat):(bst g s t).far v=bN\/(-(M*t)<=(bst g s t).far v/\(bst g s t).far v<=M*t):=by
 induction t generalizing v with
 |zero=>
      rcases h v with q|q
      .exact .inl q
      .have:(bst g s 0).far v=0:=q;exact .inr (by simp[this])
 |succ t b=>
  have k:0<=M:=by have:=d 0;omega
  have e:M*((t+1:Nat):Int)=M*t+M:=by rw[Int.natCast_succ,Int.mul_add,Int.mul_one]
  rw[Jh];rcases YJ g (bst g s t) (t%g.E)with⟨q,_⟩|⟨j,l,f⟩
  .rw[q];rcases b v with a|a
   .exact .inl a
   .exact .inr (by omega)
  .rw[f];by_cases z:v=g.T (t%g.E)
   .subst z;simp only[YD];have:=d (t%g.E);rcases b (g.F (t%g.E))with a|a
    .exact absurd a j
    .exact .inr (by omega)
   .simp only[QbP _ _ z];rcases b v with a|a
    .exact .inl a
    .exact .inr (by omega)
theorem QnA{g:Gr}{s:Bs}{φ:Nat->Int}(hE:0<g.E){c:Int}(hφ:∀i,i<g.E->φ (g.T i)<=φ (g.F i)+g.W i)(e:∀v,s.far v=bN\/φ v-c<=s.far v)(t v:Nat):(bst g s t).far v=bN\/φ v-c<=(bst g s t).far v:=by
 induction t generalizing v with
 |zero=>exact e v
 |succ t b=>
  rw[Jh];rcases YJ g (bst g s t) (t%g.E)with⟨q,_⟩|⟨f,h,d⟩
  .rw[q];exact b v
  .rw[d];by_cases z:v=g.T (t%g.E)
   .subst z;simp only[YD];have:=hφ (t%g.E) (Nat.mod_lt _ hE);rcases b (g.F (t%g.E))with a|a
    .exact absurd a f
    .exact .inr (by omega)
   .simp only[QbP _ _ z];exact b v
inductive Wk (g:Gr) (a:Nat):Nat->Int->Prop
 |nil:Wk g a a 0
 |cons {v:Nat} {d:Int} (h:Wk g a v d) (i:Nat) (hi:i<g.E) (hv:v=g.F i):Wk g a (g.T i) (d+g.W i)
theorem Qo6{g:Gr}{s:Bs}{a:Nat}(hE:0<g.E)(e:∀v,s.far v=bN\/Wk g a v (s.far v))(t v:Nat):(bst g s t).far v=bN\/Wk g a v ((bst g s t).far v):=by
 induction t generalizing v with
 |zero=>exact e v
 |succ t b=>
  rw[Jh];rcases YJ g (bst g s t) (t%g.E)with⟨q,_⟩|⟨f,h,d⟩
  .rw[q];exact b v
  .rw[d];by_cases z:v=g.T (t%g.E)
   .subst z;simp only[YD];rcases b (g.F (t%g.E))with a|a
    .exact absurd a f
    .exact .inr (.cons a _ (Nat.mod_lt _ hE) rfl)
   .simp only[QbP _ _ z];exact b v
theorem Wk.le{g:Gr}{a v:Nat}{d:Int}(h:Wk g a v d){f:Nat->Int}(b:∀i,i<g.E->f (g.T i)<=f (g.F i)+g.W i):f v<=f a+d:=by
 induction h with
 |nil=>omega
 |cons h i e j k=>have:=b i e;subst j;omega
set_option maxRecDepth 10000
def grOf(es:List Edge):Gr:=⟨λi=>match es[i]? with|some x=>x.From.toNat|none=>0,λi=>match es[i]? with|some x=>x.To.toNat|none=>0,λi=>match es[i]? with|some x=>x.W|none=>0,es.length⟩
structure EdgOk (n:Nat) (x:Edge):Prop where
 f0:0<=x.From
 f1:x.From<(n:Int)
 t0:0<=x.To
 t1:x.To<(n:Int)
 w0: -35184372088832<=x.W
 w1:x.W<=35184372088832
structure SysOk (n:Nat) (es:List Edge):Prop where
 n0:1<=n
 n1:n<=64
 e1:es.length<=256
 ok:∀x∈es,EdgOk n x
theorem QhB{es:List Edge}{i:Nat}{x:Edge}(h:es[i]?=some x):(grOf es).F i=x.From.toNat/\(grOf es).T i=x.To.toNat/\(grOf es).W i=x.W:=by
 simp[grOf,h]
theorem gr_F{n:Nat}{es:List Edge}(h:SysOk n es)(i:Nat):(grOf es).F i<n:=by
 have:=h.n0;show(match es[i]? with|some x=>x.From.toNat|none=>0)<n;cases q:es[i]? with
 |none=>exact this
 |some x=>obtain⟨d,b,a,e,_,_⟩:=h.ok x (VG q);simp only;omega
theorem gr_T{n:Nat}{es:List Edge}(h:SysOk n es)(i:Nat):(grOf es).T i<n:=by
 have:=h.n0;show(match es[i]? with|some x=>x.To.toNat|none=>0)<n;cases q:es[i]? with
 |none=>exact this
 |some x=>obtain⟨d,b,a,e,_,_⟩:=h.ok x (VG q);simp only;omega
theorem gr_W{n:Nat}{es:List Edge}(h:SysOk n es)(i:Nat): -35184372088832<=(grOf es).W i/\(grOf es).W i<=35184372088832:=by
 show-35184372088832<=(match es[i]? with|some x=>x.W|none=>0)/\(match es[i]? with|some x=>x.W|none=>0)<=35184372088832;cases q:es[i]? with
 |none=>simp
 |some x=>have:=h.ok x (VG q);exact⟨this.w0,this.w1⟩
theorem Qf9{n:Nat}{es:List Edge}(h:SysOk n es):Ev (λm=>F_bj m ⟨(n:Int),es⟩) 0:=by
 have t:=h.n0;have j:=h.n1;have r:=h.e1;unfold F_bj;refine Ea (v:=false) ?_ ?_
 .simp only[QK (show¬((n:Int)<1)by omega),QK (show¬(512<(n:Int))by omega),QK (show¬(8192<(es.length:Int))by omega),Vp];exact Qa _
 refine Yk ?_;have loop:∀(q:List Edge) (i:Nat),es.drop i=q->i<=es.length->EvI (λm=>F_gf m ⟨(n:Int),es⟩) (i:Int) (Ctl.cont ()):=by
  intro q
  induction q with
  |nil=>
   intro i b e;refine Ej ?_;unfold F_gf;simp only[Yo b e,Vp];exact Qa _
  |cons x q g=>
   intro i b e;obtain⟨a,d⟩:=QG (by omega) b;have f:=a.lt';refine Ew ?_ (g (i+1) d (by omega));obtain⟨p,k,s,l,u,w1⟩:=h.ok x a.mem;unfold F_gf;simp only[a.lt,Vn,a.ix,XJ,a.nx];refine Ea (v:=false) ?_ (Qa _);rw[QK (show¬((if x.To<x.From then x.To else x.From)<0)by split<;>omega),Vp,QK (show¬((n:Int)<=(if x.From<x.To then x.To else x.From))by split<;>omega),Vp,QK (show¬(x.W< -35184372088832)by omega),Vp,QK (show¬(35184372088832<x.W)by omega)];exact Qa _
 exact Ea (loop es 0 rfl (XU _)).ev (Qa _)
structure RepB (l0:List Int) (lo n:Nat) (l ed:List Int) (s:Bs):Prop where
 len:l.length=l0.length
 far:∀v,v<n->l[lo+v]?=some (s.far v)
 out:∀j,j<lo\/lo+n<=j->l[j]?=l0[j]?
 eln:ed.length=n
 edge:∀v,v<n->ed[v]?=some ((s.edge v:Nat):Int)
theorem QeX{l:List Int}{lo i:Nat}{x:Int}(h:l[lo+i]?=some x){m:Int}(a:((lo+i:Nat):Int)<m):QbC l (lo:Int) m (i:Int)=some x:=by
 unfold QbC;rw[Vt (show(0:Int)<=(lo:Int)by omega),Vt (show(0:Int)<=(i:Int)by omega),Vt (show(lo:Int)+(i:Int)<m by omega)];rw[show(lo:Int)+(i:Int)=((lo+i:Nat):Int)by omega];exact QJ h
theorem Ql7{n:Nat}{es:List Edge}(h:SysOk n es){l0 l a:List Int}{lo:Nat}{s:Bs}(r:RepB l0 lo n l a s)(H:∀v,v<n-> -1152921504606846976<=s.far v/\s.far v<=1152921504606846976){i:Nat}(hi:i<es.length):
  ∃l' ed',RepB l0 lo n l' ed' (brel (grOf es) s i)/\ ∃b:Bool,(b=true↔ ¬(s.far ((grOf es).F i)=bN\/s.far ((grOf es).T i)<=s.far ((grOf es).F i)+(grOf es).W i))/\
   Ev (λm=>F_be m (i:Int) (n:Int) es l (lo:Int) ((lo+n:Nat):Int) a) (l',ed',b):=by
 have t:=XK hi;generalize es[i]=x at t;obtain⟨f0,Y,t0,V,X,w1⟩:=h.ok x (VG t);obtain⟨gF,gT,R⟩:=QhB t;have L:x.From=((x.From.toNat:Nat):Int):=by omega
 have w:x.To=((x.To.toNat:Nat):Int):=by omega
 have E:x.From.toNat<n:=by omega
 have p:x.To.toNat<n:=by omega
 have J:=r.far _ E;have G:=r.far _ p;have z:=QeX J (m:=((lo+n:Nat):Int)) (by omega);have B:=QeX G (m:=((lo+n:Nat):Int)) (by omega);rw[<- L]at z;rw[<- w]at B;have bF:=H _ E;have P:IntKind.i64.wrap (s.far x.From.toNat+x.W)=s.far x.From.toNat+x.W:=Qp (by omega) (by omega);unfold F_be;simp only[QJ t,XJ,z,B,P];unfold brel;rw[gF,gT,R];by_cases k:s.far x.From.toNat=bN
 .refine⟨l,a,by rw[Vs (.inl k)];exact r,false,by simp[k],?_⟩;rw[show(s.far x.From.toNat==1152921504606846976)=true by rw[k];rfl];exact Qa _
 .have d:(s.far x.From.toNat==1152921504606846976)=false:=by simpa[bN]using k
  by_cases g:s.far x.To.toNat<=s.far x.From.toNat+x.W
  .refine⟨l,a,by rw[Vs (.inr g)];exact r,false,by simp[g],?_⟩;rw[d,QS g];exact Qa _
  .have y:¬(s.far x.From.toNat=bN\/s.far x.To.toNat<=s.far x.From.toNat+x.W):=λq=>q.elim k g;have f:lo+x.To.toNat<l.length:=(XL.1 G).1;refine⟨l.set (lo+x.To.toNat) (s.far x.From.toNat+x.W),a.set x.To.toNat (i:Int),?_,true,by simp[y],?_⟩
   .rw[Vr y];refine⟨by rw[X3];exact r.len,λv u=>?_,λj Q=>?_,by rw[X3];exact r.eln,λv u=>?_⟩
    .by_cases e:v=x.To.toNat
     .subst e;rw[Xa f];simp only[YD]
     .rw[XP (by omega)];simp only[QbP _ _ e];exact r.far v u
    .rw[XP (by omega)];exact r.out j Q
    .by_cases e:v=x.To.toNat
     .subst e;rw[Xa (by rw[r.eln];exact p)];simp only[YD]
     .rw[XP (by omega)];simp only[QbP _ _ e];exact r.edge v u
   .rw[d,QK g];have O:QaZ l ((lo:Int)+x.To) (s.far x.From.toNat+x.W)=some (l.set (lo+x.To.toNat) (s.far x.From.toNat+x.W)):=by
     rw[show(lo:Int)+x.To=((lo+x.To.toNat:Nat):Int)by omega];exact QaH l _ f
    have M:idx a x.To=some ((s.edge x.To.toNat:Nat):Int):=by rw[w];exact QJ (r.edge _ p)
    have N:QaZ a x.To (i:Int)=some (a.set x.To.toNat (i:Int)):=by rw[w];exact QaH a _ (by rw[r.eln];exact p)
    simp only[Vp,O,M,N,XJ];exact Qa _
def Ini(s:Bs):Prop:=∀v,s.far v=bN\/s.far v=0
theorem Qgg{n:Nat}{es:List Edge}(h:SysOk n es){s:Bs}(a:Ini s){t:Nat}(d:t<=n*es.length)(v:Nat): -1152921504606846976<=(bst (grOf es) s t).far v/\(bst (grOf es) s t).far v<=1152921504606846976:=by
 have b:t<=16384:=XV d (XV (Nat.mul_le_mul h.n1 h.e1) (by decide));rcases QnB (M:=35184372088832) (gr_W h) a t v with q|q
 .rw[q];decide
 .omega
theorem Qdb{E k i:Nat}(hi:i<E):(k*E+i)%E=i:=by rw[Nat.add_comm,Nat.add_mul_mod_self_right,Nat.mod_eq_of_lt hi]
theorem Ql6{n:Nat}{es:List Edge}(h:SysOk n es){l0:List Int}{lo:Nat}{s:Bs}(h0:Ini s){k:Nat}(M:k<n):
  ∀(m i:Nat) (l f:List Int) (a:Int),i+m=es.length->RepB l0 lo n l f (bst (grOf es) s (k*es.length+i))->
  ((a= -1/\ ∀j v,j<i->¬bch (grOf es) s v (k*es.length+j))\/ ∃v τ,a=((v:Nat):Int)/\v<n/\k*es.length<=τ/\τ<k*es.length+i/\bch (grOf es) s v τ)->
  ∃l' ed' last',RepB l0 lo n l' ed' (bst (grOf es) s ((k+1)*es.length))/\EvI (λm=>F_ex m (n:Int) es (lo:Int) ((lo+n:Nat):Int)) (l,f,a,(i:Int)) (l',ed',last')/\
   ((last'= -1/\ ∀j v,j<es.length->¬bch (grOf es) s v (k*es.length+j))\/ ∃v τ,last'=((v:Nat):Int)/\v<n/\k*es.length<=τ/\τ<(k+1)*es.length/\bch (grOf es) s v τ):=by
 intro m;have e1:(k+1)*es.length=k*es.length+es.length:=by rw[XA,Nat.one_mul]
 induction m with
 |zero=>
  intro i l f a O r q;obtain rfl:i=es.length:=by omega
  rw[e1];refine⟨l,f,a,r,Ej ?_,q⟩;unfold F_ex;simp only[QK (show¬((es.length:Int)<(es.length:Int))by omega),Vp];exact Qa _
 |succ m ih=>
  intro i l f a O r q;have d:i<es.length:=by omega
  have hE:=h.e1;have N:k*es.length+i<=n*es.length:=XV (by rw[e1];omega:k*es.length+i<=(k+1)*es.length) (XC _ M);obtain⟨l',ed',Y,b,L,Q⟩:=Ql7 h r (λv _=>Qgg h h0 N v) d;have R:RepB l0 lo n l' ed' (bst (grOf es) s (k*es.length+(i+1))):=by
   rw[<- Nat.add_assoc,Jh,show(grOf es).E=es.length from rfl,Qdb d];exact Y
  have hT:=gr_T h i;have G:b=true↔bch (grOf es) s ((grOf es).T i) (k*es.length+i):=by
   rw[L];unfold bch;rw[Jh,show(grOf es).E=es.length from rfl,Qdb d];rcases YJ (grOf es) (bst (grOf es) s (k*es.length+i)) i with⟨y,F⟩|⟨y,F,H⟩
   .rw[y];exact⟨λc=>absurd F c,λc=>absurd rfl c⟩
   .rw[H];simp only[YD];exact⟨λ_=>by omega,λ_ c=>c.elim y (by omega)⟩
  have W:b=false->∀v,¬bch (grOf es) s v (k*es.length+i):=λg v c=>by
   have:=(QaC c).1;rw[show(grOf es).E=es.length from rfl,Qdb d]at this;subst this;rw[G.2 c]at g;cases g
  have p:=XK d;generalize es[i]=x at p;obtain⟨_,gT,_⟩:=QhB p;obtain⟨f0,f1,t0,t1,_,_⟩:=h.ok x (VG p);have u:Ev (λm=>F_ex m (n:Int) es (lo:Int) ((lo+n:Nat):Int) (l,f,a,(i:Int))) (.cont (l',ed',(bif b then x.To else a),((i+1:Nat):Int))):=by
   unfold F_ex;simp only[QS (show(i:Int)<(es.length:Int)by omega),Vn,QO (show i<9223372036854775807 by omega)];refine Ea Q ?_;refine Ea (v:=bif b then x.To else a) ?_ (Qa _);cases b
   .exact Qa _
   .simp only[Vn,QJ p,XJ];exact Qa _
  obtain⟨P,t,e,g1,J,X⟩:=ih (i+1) l' ed' (bif b then x.To else a) (by omega) R (by
   cases b with
   |false=>
    simp only[Vp];rcases q with⟨w,B⟩|⟨v,τ,w,B,V,q4,q5⟩
    .refine .inl ⟨w,λj v hj c=>?_⟩;rcases VB j i with z|z
     .exact B j v z c
     .obtain rfl:j=i:=by omega
      exact W rfl v c
    .exact .inr ⟨v,τ,w,B,V,by omega,q5⟩
   |true=>
    simp only[Vn];refine .inr ⟨x.To.toNat,k*es.length+i,by omega,by omega,by omega,by omega,?_⟩;rw[<- gT];exact G.1 rfl)
  exact⟨P,t,e,g1,Ew u J,X⟩
def Hold(es:List Edge)(s:Bs):Prop:=∀i,i<es.length->s.far ((grOf es).F i)=bN\/s.far ((grOf es).T i)<=s.far ((grOf es).F i)+(grOf es).W i
theorem Ql5{n:Nat}{es:List Edge}(h:SysOk n es){l0 l a:List Int}{lo:Nat}{s:Bs}(Y:Ini s)(r:RepB l0 lo n l a s):
  ∃l' ed' last T,RepB l0 lo n l' ed' (bst (grOf es) s T)/\T<=n*es.length/\Ev (λm=>F_af m (n:Int) es l (lo:Int) ((lo+n:Nat):Int) a) (l',ed',last)/\
   ((last= -1/\Hold es (bst (grOf es) s T))\/ ∃v τ,last=((v:Nat):Int)/\v<n/\T=n*es.length/\(n-1)*es.length<=τ/\Lst (grOf es) s v T τ):=by
 have h1:=h.n0;have h2:=h.n1;have loop:∀(m k:Nat) (l a:List Int) (last:Int),k+m=n->RepB l0 lo n l a (bst (grOf es) s (k*es.length))->
   (0<k->∃v τ,last=((v:Nat):Int)/\v<n/\(k-1)*es.length<=τ/\τ<k*es.length/\bch (grOf es) s v τ)->
   ∃b:Ctl (List Int×List Int×Int) (List Int×List Int×Int),EvI (λm=>F_fq m (n:Int) es (lo:Int) ((lo+n:Nat):Int)) (l,a,last,(k:Int)) b/\
    ((∃l' ed' T,b=.done (l',ed',-1)/\RepB l0 lo n l' ed' (bst (grOf es) s T)/\T<=n*es.length/\Hold es (bst (grOf es) s T))\/
     ∃l' ed' v τ,b=.cont (l',ed',((v:Nat):Int))/\RepB l0 lo n l' ed' (bst (grOf es) s (n*es.length))/\v<n/\(n-1)*es.length<=τ/\τ<n*es.length/\bch (grOf es) s v τ):=by
  intro m
  induction m with
  |zero=>
   intro k l a last H r q;obtain rfl:k=n:=by omega
   obtain⟨v,τ,rfl,X,O,P,q5⟩:=q (by omega);refine⟨.cont (l,a,(v:Int)),Ej ?_,.inr ⟨l,a,v,τ,rfl,r,X,O,P,q5⟩⟩;unfold F_fq;simp only[QK (show¬((k:Int)<(k:Int))by omega),Vp];exact Qa _
  |succ m W=>
   intro k l a last H r q;obtain⟨w,d,y,G,E,f⟩:=Ql6 h Y (k:=k) (l0:=l0) (lo:=lo) (by omega) es.length 0 l a (-1) (by omega) r (.inl ⟨rfl,λj v e=>absurd e (Xm _)⟩);rcases f with⟨rfl,f⟩|⟨v,τ,rfl,w1,w2,w3,V⟩
   .refine⟨.done (w,d,-1),Ej ?_,.inl ⟨w,d,(k+1)*es.length,rfl,G,XC _ (by omega),λi L=>?_⟩⟩
    .unfold F_fq;simp only[QS (show(k:Int)<(n:Int)by omega),Vn];refine Ea E.ev ?_;exact Qa _
    .have M:=QkD (g:=grOf es) (s:=s) (t:=k*es.length) (λj v e=>f j v e) (by show(k*es.length)%es.length=0;exact Nat.mul_mod_left _ _) i L;have F:=λv=>(Qbd (g:=grOf es) (s:=s) (v:=v) (t:=k*es.length) es.length λj e=>f j v e).1;rw[XA,Nat.one_mul,F,F];exact M
   .obtain⟨b,p,x⟩:=W (k+1) w d (v:Int) (by omega) G (λ_=>⟨v,τ,rfl,w1,w2,w3,V⟩);refine⟨b,Ew ?_ p,x⟩;unfold F_fq;simp only[QS (show(k:Int)<(n:Int)by omega),Vn,QO (show k<9223372036854775807 by omega)];refine Ea E.ev ?_;simp only[QK (show¬((v:Int)<0)by omega),Vp];exact Qa _
 obtain⟨b,p,x⟩:=loop n 0 l a 0 (by omega) (by rw[Nat.zero_mul];exact r) (λh=>absurd h (Nat.lt_irrefl _));unfold F_af;rcases x with⟨l',ed',T,rfl,B,z,u⟩|⟨l',ed',v,τ,rfl,B,z,u,J,R⟩
 .exact⟨l',ed',-1,T,B,z,Ea p.ev (Qa _),.inl ⟨rfl,u⟩⟩
 .obtain⟨τ',Q,N⟩:=Qi9 (t:=n*es.length) J R;exact⟨l',ed',(v:Int),n*es.length,B,XT _,Ea p.ev (Qa _),.inr ⟨v,τ',rfl,z,rfl,XV u Q,N⟩⟩
set_option maxRecDepth 10000
def PotB(es:List Edge)(φ:Nat->Int):Prop:=∀i,i<es.length->φ ((grOf es).T i)<=φ ((grOf es).F i)+(grOf es).W i
def wSum(es:List Edge)(l:List Int):Int:=(l.map λc=>(grOf es).W c.toNat).sum
theorem Qlb{a b:List Int}(h:a.Perm b):a.sum=b.sum:=by
 induction h with
 |nil=>rfl
 |cons x _ ih=>simp[ih]
 |swap x y l=>simp only[List.sum_cons];omega
 |trans _ _ h1 h2=>exact h1.trans h2
theorem Qj4(es:List Edge){a b:List Int}(h:a.Perm b):wSum es a=wSum es b:=Qlb (h.map _)
theorem Qk8(es:List Edge)(a b:List Int):wSum es (a++b)=wSum es a+wSum es b:=by simp[wSum]
theorem QiT(l0:List Int)(y:l0.length<=1048576):∃r:List Int,r.Perm l0/\Ev (λm=>F_bg m l0) r:=by
 have loop:∀(m i j:Nat) (l:List Int),l.length=l0.length->l.Perm l0->j<=l0.length->j-i<=m->∃r:List Int,r.Perm l0/\EvI (λm=>F_dm m) (l,(i:Int),(j:Int)-1) r:=by
  intro m
  induction m with
  |zero=>
   intro i j l g a n p;refine⟨l,a,Ej ?_⟩;unfold F_dm;simp only[QK (show¬((i:Int)<(j:Int)-1)by omega),Vp];exact Qa _
  |succ m u=>
   intro i j l g a n p;by_cases q:i+1<j
   .have d:i<l.length:=by omega
    have b:j-1<l.length:=by omega
    obtain⟨r,e,f⟩:=u (i+1) (j-1) ((l.set i l[j-1]).set (j-1) l[i]) (by simp[g]) ((List.set_set_perm d b).trans a) (by omega) (by omega);refine⟨r,e,Ew ?_ f⟩;unfold F_dm;have w:(j:Int)-1=((j-1:Nat):Int):=by omega
    have s:=QJ (XK d);have t:=QJ (XK b);have x:idx (l.set i l[j-1]) ((j-1:Nat):Int)=some l[j-1]:=by
     refine QJ ?_;rw[XP (by omega)];exact XK b
    have k:=QaH l l[j-1] d;have h:=QaH (l.set i l[j-1]) l[i] (i:=j-1) (by rw[X3];exact b);simp only[w,QS (show(i:Int)<((j-1:Nat):Int)by omega),Vn,s,t,k,x,h,XJ,QO (show i<9223372036854775807 by omega),Qp (show-9223372036854775808<=((j-1:Nat):Int)-1 by omega) (by omega)];exact Qa _
   .refine⟨l,a,Ej ?_⟩;unfold F_dm;simp only[QK (show¬((i:Int)<(j:Int)-1)by omega),Vp];exact Qa _
 obtain⟨r,e,f⟩:=loop l0.length 0 l0.length l0 rfl (List.Perm.refl _) (XT _) (by omega);refine⟨r,e,?_⟩;unfold F_bg;rw[Qp (by omega) (by omega)];exact Ea f.ev (Qa _)
theorem QlK{α:Type}(n:Nat)(z:α)(h:n<=4294967296):mk (n:Int) z=some (List.replicate n z):=by
 unfold mk;rw[QS (by omega),QS (by omega)];simp
theorem Qk5(n:Nat)(x:Int)(f:Nat->Int)(lo:Nat)(l:List Int)(hl:∀v,v<n->l[lo+v]?=some (f v)):RepB l lo n l (List.replicate n 0) ⟨f,λ_=>0⟩:=
 ⟨rfl,hl,λ_ _=>rfl,by simp,λv hv=>by simp[List.getElem?_replicate,hv]⟩
theorem Qdq{n:Nat}{es:List Edge}(h:SysOk n es):
  (∃φ,PotB es φ)/\Ev (λm=>F_aq m ⟨(n:Int),es⟩) []\/
  (¬ ∃φ,PotB es φ)/\ ∃cyc,cyc≠[]/\cyc.length<=n/\(∀c∈cyc,∃j,j<es.length/\c=((j:Nat):Int))/\wSum es cyc<0/\Ev (λm=>F_aq m ⟨(n:Int),es⟩) cyc:=by
 have h0:=h.n0;have h1:=h.n1;have hE:=h.e1;have hm:=QlK n (0:Int) (by omega)
 let s:Bs:=⟨λ_=>0,λ_=>0⟩
 have r0:RepB (List.replicate n 0) 0 n (List.replicate n 0) (List.replicate n 0) s:=Qk5 n 0 _ 0 _ λv hv=>by simp[List.getElem?_replicate,hv]
 have ab:Ini s:=λv=>.inr rfl;obtain⟨l',M,ad,T,g1,g2,g3,g4⟩:=Ql5 h ab r0;have hl:((List.replicate n (0:Int)).length:Int)=((0+n:Nat):Int):=by simp
 rcases g4 with⟨rfl,g4⟩|⟨v,τ,rfl,w1,rfl,w2,w3⟩
 .refine .inl ⟨⟨(bst (grOf es) s T).far,λi hi=>?_⟩,?_⟩
  .rcases g4 i hi with q|q
   .have:=Qfk (grOf es) s ((grOf es).F i) 0 T;rw[Xv,q]at this;exact absurd (show bN<=(0:Int)from this) (by decide)
   .exact q
  .unfold F_aq;simp only[hm,XJ,hl];refine Ea g3 ?_;exact Qa _
 .have J:0<es.length:=by
   rcases Nat.eq_zero_or_pos es.length with e|e
   .have:=w3.lt;rw[e,Xx]at this;omega
   .exact e
  have N:0<(grOf es).E:=J;generalize hS:bst (grOf es) s (n*es.length)=S at g1;obtain⟨k,k0,k1,R,G⟩:=Qoa (g:=grOf es) N (gr_F h) w1 w3 w2;rw[hS]at R G;have L:∀j,j<n->∃τ',Lst (grOf es) s (bpk (grOf es) S v j) (n*es.length) τ':=λj hj=>by
   have:j*es.length<=(n-1)*es.length:=XC _ (by omega);obtain⟨τ',_,q⟩:=w3.back N j (XV this w2);rw[hS]at q;exact⟨τ',q⟩
  have d:∀u τ',Lst (grOf es) s u (n*es.length) τ'->S.edge u<es.length:=λu τ' q=>by
   have:=q.edge;rw[hS]at this;rw[this];exact Nat.mod_lt _ J
  have r:∀u,u<n->∀j,bpk (grOf es) S u j<n:=λu P j=>by
   cases j with
   |zero=>exact P
   |succ j=>exact gr_F h _
  have f:∀u,S.edge u<es.length->∃x:Edge,es[S.edge u]?=some x/\x.From=((bp (grOf es) S u:Nat):Int):=λu P=>by
   refine⟨es[S.edge u],XK P,?_⟩;obtain⟨q,_,_⟩:=QhB (XK P);have:=h.ok _ (Vc P);unfold bp;rw[q];have:=this.f0;omega
  have w:∀(m i:Nat),i+m=n->EvI (λq=>F_gn q ⟨(n:Int),es⟩ (l',M,(v:Int))) (((bpk (grOf es) S v i:Nat):Int),(i:Int)) ((bpk (grOf es) S v n:Nat):Int):=by
   intro m
   induction m with
   |zero=>
    intro i hi;obtain rfl:i=n:=by omega
    refine Ej ?_;unfold F_gn;simp only[QK (show¬((i:Int)<(i:Int))by omega),Vp];exact Qa _
   |succ m H=>
    intro i hi;refine Ew ?_ (H (i+1) (by omega));obtain⟨τ',q⟩:=L i (by omega);have e1:=QJ (g1.edge _ (r v w1 i));obtain⟨x,Q,W⟩:=f _ (d _ _ q);unfold F_gn;simp only[QS (show(i:Int)<(n:Int)by omega),Vn,e1,XJ,QJ Q,W,QO (show i<9223372036854775807 by omega)];exact Qa _
  generalize hp:bpk (grOf es) S v n=p at w R G;have ac:p<n:=by rw[<- hp];exact r v w1 n
  let cl:Nat->List Int:=λj=>(List.range j).map λi=>((S.edge (bpk (grOf es) S p i):Nat):Int)
  have l:∀j,cl (j+1)=cl j++[((S.edge (bpk (grOf es) S p j):Nat):Int)]:=λj=>by simp[cl,Xu]
  have B:∀(m j:Nat),j+m=k->j<k->(∀i,0<i->i<=j->bpk (grOf es) S p i≠p)->∃t,0<t/\t<=n/\bpk (grOf es) S p t=p/\EvI (λq=>F_gj q ⟨(n:Int),es⟩ (l',M,(v:Int)) ((p:Nat):Int)) (cl j,((bpk (grOf es) S p j:Nat):Int)) (cl t):=by
   intro m
   induction m with
   |zero=>intro j a b;omega
   |succ m H=>
    intro j a b c;obtain⟨τ',q⟩:=G j;have e1:=QJ (g1.edge _ (r p ac j));obtain⟨x,Q,W⟩:=f _ (d _ _ q);have ea:app (cl j) [((S.edge (bpk (grOf es) S p j):Nat):Int)]=some (cl (j+1)):=by
     rw[l];exact QcR _ _ (by simp[cl];omega)
    have e2:((bp (grOf es) S (bpk (grOf es) S p j):Nat):Int)=((bpk (grOf es) S p (j+1):Nat):Int):=rfl;by_cases z:bpk (grOf es) S p (j+1)=p
    .refine⟨j+1,by omega,by omega,z,Ej ?_⟩;unfold F_gj;simp only[e1,XJ,ea,QJ Q,W,e2,z,BEq.rfl,Vn];exact Qa _
    .have aa:j+1<k:=by
      rcases VB (j+1) k with y|y
      .exact y
      .rw[show k=j+1 by omega]at R;exact absurd R z
     obtain⟨t,y1,y2,X,y4⟩:=H (j+1) (by omega) aa (λi i1 i2=>by
      rcases VB i (j+1)with y|y
      .exact c i i1 (by omega)
      .rwa [show i=j+1 by omega])
     refine⟨t,y1,y2,X,Ew ?_ y4⟩;unfold F_gj;have zb:(((bpk (grOf es) S p (j+1):Nat):Int)==(p:Int))=false:=Vy.2 λe=>z (by omega);simp only[e1,XJ,ea,QJ Q,W,e2,zb,Vp];exact Qa _
  obtain⟨t,y1,y2,X,y4⟩:=B k 0 (by omega) k0 (λi a b=>by omega);have neg:bsum (grOf es) S p t<0:=by
   have:=QiZ (g:=grOf es) (s:=s) (n*es.length) (v:=p) (k:=t) y1 (by rw[hS];exact X) (λj _=>by rw[hS];exact G j)
   rwa [hS]at this
  have O:∀j,wSum es (cl j)=bsum (grOf es) S p j:=by
   intro j
   induction j with
   |zero=>rfl
   |succ j H=>rw[l,Qk8,H];simp[wSum,bsum]
  obtain⟨V,rp,re⟩:=QiT (cl t) (by simp[cl];omega);have rl:V.length=t:=by rw[rp.length_eq];simp[cl]
  refine .inr ⟨?_,V,?_,by omega,λc hc=>?_,by rw[Qj4 es rp,O];exact neg,?_⟩
  .rintro⟨φ,hφ⟩;have low:∀j,φ p-φ (bpk (grOf es) S p j)<=bsum (grOf es) S p j:=by
    intro j
    induction j with
    |zero=>simp[bsum,bpk]
    |succ j H=>
     obtain⟨τ',q⟩:=G j;have Y:=d _ _ q;have a:=hφ _ Y;have hT:=(QaC q.ch).1;have he:=q.edge;rw[hS]at he;rw[<- he]at hT;rw[<- hT]at a;have e3:bpk (grOf es) S p (j+1)=(grOf es).F (S.edge (bpk (grOf es) S p j)):=rfl;unfold bsum;rw[e3];omega
   have:=low t;rw[X]at this;omega
  .intro e;rw[e]at rl;simp at rl;omega
  .have:=rp.mem_iff.1 hc;obtain⟨i,_,rfl⟩:=Xe.1 this;obtain⟨τ',q⟩:=G i;exact⟨_,d _ _ q,rfl⟩
  .unfold F_aq;simp only[hm,XJ,hl];refine Ea g3 ?_;simp only[QK (show¬((v:Int)<0)by omega),Vp];refine Ea (w n 0 (by omega)).ev ?_;refine Ea y4.ev ?_;refine Ea (v:=V) ?_ (Qa _);unfold Qhz;refine Ea re ?_;rw[show Nat.beq (cl t).length V.length=true by rw[rp.length_eq];exact VE _];exact Qa _
set_option maxRecDepth 10000
theorem Qnd:∀k:Fin 65,(decide (0<(IntKind.u64.wrap ((IntKind.u64.wrap ((IntKind.u64.wrap ((QV .u64 (IntKind.u64.wrap ([(0:Int)].length:Int)) 32)*(QV .u64 (IntKind.u64.wrap (((k:Nat)*(k:Nat):Nat):Int)) 32)))+(QV .u64 (IntKind.u64.wrap ((IntKind.u64.wrap ((QV .u64 (IntKind.u64.wrap ([(0:Int)].length:Int)) 32)*(Yh .u64 (IntKind.u64.wrap (((k:Nat)*(k:Nat):Nat):Int)) 4294967295)))+(QV .u64 (IntKind.u64.wrap ((Yh .u64 (IntKind.u64.wrap ([(0:Int)].length:Int)) 4294967295)*(Yh .u64 (IntKind.u64.wrap (((k:Nat)*(k:Nat):Nat):Int)) 4294967295))) 32))) 32)))+(QV .u64 (IntKind.u64.wrap ((Yh .u64 (IntKind.u64.wrap ((IntKind.u64.wrap ((QV .u64 (IntKind.u64.wrap ([(0:Int)].length:Int)) 32)*(Yh .u64 (IntKind.u64.wrap (((k:Nat)*(k:Nat):Nat):Int)) 4294967295)))+(QV .u64 (IntKind.u64.wrap ((Yh .u64 (IntKind.u64.wrap ([(0:Int)].length:Int)) 4294967295)*(Yh .u64 (IntKind.u64.wrap (((k:Nat)*(k:Nat):Nat):Int)) 4294967295))) 32))) 4294967295)+(IntKind.u64.wrap ((Yh .u64 (IntKind.u64.wrap ([(0:Int)].length:Int)) 4294967295)*(QV .u64 (IntKind.u64.wrap (((k:Nat)*(k:Nat):Nat):Int)) 32))))) 32)))))=false:=by decide+kernel
theorem Qlp:∀k:Fin 65,(decide (9223372036854775807<(IntKind.u64.wrap ((IntKind.u64.wrap ([(0:Int)].length:Int))*(IntKind.u64.wrap (((k:Nat)*(k:Nat):Nat):Int))))))=false:=by decide+kernel
theorem Qne:∀k:Fin 65,(IntKind.i64.wrap (IntKind.u64.wrap ((IntKind.u64.wrap ([(0:Int)].length:Int))*(IntKind.u64.wrap (((k:Nat)*(k:Nat):Nat):Int)))))=(((k:Nat)*(k:Nat):Nat):Int):=by decide+kernel
theorem Qlq(x:Int)(K:Nat)(l:K<=4096):∀(m j:Nat),1<=j->j<=K->K-j<=m->EvI (λn=>F_ej n) (List.replicate j x++List.replicate (K-j) 0,(j:Int)) (List.replicate K x):=by
 intro m
 induction m with
 |zero=>
  intro j e g f;obtain rfl:j=K:=by omega
  refine Ej ?_;unfold F_ej;rw[Nat.sub_self,List.replicate_zero,Vf];simp only[List.length_replicate,QK (show¬((j:Int)<(j:Int))by omega),Vp];exact Qa _
 |succ m i=>
  intro j e g f;by_cases k:j=K
  .subst k;refine Ej ?_;unfold F_ej;rw[Nat.sub_self,List.replicate_zero,Vf];simp only[List.length_replicate,QK (show¬((j:Int)<(j:Int))by omega),Vp];exact Qa _
  .have d:(List.replicate j x++List.replicate (K-j) (0:Int)).length=K:=by simp;omega
   refine Ew ?_ (i (j+min j (K-j)) (by omega) (by omega) (by omega));unfold F_ej;simp only;generalize hL:List.replicate j x++List.replicate (K-j) (0:Int)=L at d;have a:L.take j=List.replicate j x:=by rw[<- hL,List.take_left' (by simp)]
   have h:L.drop j=List.replicate (K-j) 0:=by rw[<- hL,List.drop_left' (by simp)]
   rw[QS (by omega),Vn,Qhl L (by omega),XJ,Qit L (by omega),XJ];unfold cpy;simp only[XJ,Int.toNat_natCast,d,a];have b:L.take j++(List.replicate j x).take (K-j)++L.drop (j+min (List.replicate j x).length (K-j))=List.replicate (j+min j (K-j)) x++List.replicate (K-(j+min j (K-j))) 0:=by
    rw[<- List.drop_drop,a,h,List.length_replicate,List.take_replicate,List.drop_replicate,List.replicate_append_replicate];rw[Nat.min_comm (K-j) j,Nat.sub_sub]
   rw[a]at b;rw[b];have w:IntKind.i64.wrap ((j:Int)+((min (List.replicate j x).length (K-j):Nat):Int))=((j+min j (K-j):Nat):Int):=by
    rw[List.length_replicate,Qp (by omega) (by omega)];omega
   rw[w];exact Qa _
theorem Ev.bf{α:Type}{c:Bool}{f g:Nat->Option α}{v:α}(h:c=false)(q:Ev g v):Ev (λn=>bif c then f n else g n) v:=by subst h;exact q
theorem Qks(x:Int)(k:Nat)(i:1<=k)(m:Nat)(g:m<=64)(b:k=m*m):Ev (λn=>F_ca n [x] (k:Int)) (List.replicate k x):=by
 have f:=Qnd ⟨m,by omega⟩;have a:=Qlp ⟨m,by omega⟩;have d:=Qne ⟨m,by omega⟩;have h:k<=4096:=by rw[b];exact Nat.mul_le_mul g g
 simp only[<- b]at f a d;unfold F_ca;refine Ea (v:=()) (by rw[QK (show¬((k:Int)<0)by omega)];exact Qa _) (Ea (v:=()) (Qa _) (Ea (v:=false) ?_ (Ea (v:=()) (Qa _) ?_)))
 .exact Ev.bf f (Ez (congrArg some a))
 .refine Ea (v:=List.replicate k 0) (Ez ((congrArg (λz=>mk z (0:Int)) d).trans ?_)) ?_
  .show mk (k:Int) 0=_;unfold mk;rw[QS (by omega),QS (by omega)];rfl
  .refine Ea (v:=List.replicate 1 x++List.replicate (k-1) 0) (Ez ?_) ?_
   .unfold cpy;simp only[List.length_replicate,Int.toNat_natCast,List.length_singleton];obtain⟨u,rfl⟩:∃u,k=u+1:=⟨k-1,by omega⟩;simp
   .have e:((min [x].length (List.replicate k (0:Int)).length:Nat):Int)=((1:Nat):Int):=by simp;omega
    rw[e];exact Ea ((Qlq x k h k 1 (XT _) i (by omega)).ev) (Qa _)
structure DRow (es:List Edge) (n j:Nat) (d:Nat->Int):Prop where
 zero:d j=0
 wk:∀v,d v=bN\/Wk (grOf es) j v (d v)
 hold:∀i,i<es.length->d ((grOf es).F i)=bN\/d ((grOf es).T i)<=d ((grOf es).F i)+(grOf es).W i
 low:∀v,v<n-> -1152921504606846976<=d v/\d v<=1152921504606846976
theorem row_d{n:Nat}{es:List Edge}(h:SysOk n es){φ:Nat->Int}(hφ:PotB es φ){l0 l M:List Int}{lo j:Nat}(Y:j<n)(r:RepB l0 lo n l M ⟨λv=>if v=j then 0 else bN,λ_=>0⟩):
  ∃l' ed' last d,l'.length=l0.length/\(∀v,v<n->l'[lo+v]?=some (d v))/\(∀i,i<lo\/lo+n<=i->l'[i]?=l0[i]?)/\DRow es n j d/\Ev (λm=>F_af m (n:Int) es l (lo:Int) ((lo+n:Nat):Int) M) (l',ed',last):=by
 have X:=h.n0;have R:=h.n1;generalize hs:(⟨λv=>if v=j then 0 else bN,λ_=>0⟩:Bs)=s at r;have b:s.far j=0:=by rw[<- hs];exact Vs rfl
 have f:∀v,v≠j->s.far v=bN:=λv O=>by rw[<- hs];exact Vr O
 have u:Ini s:=λv=>by
  by_cases e:v=j
  .subst e;exact .inr b
  .exact .inl (f v e)
 obtain⟨l',ed',last,T,G,B,P,H⟩:=Ql5 h u r;rcases H with⟨rfl,H⟩|⟨v,τ,rfl,w1,rfl,w2,w3⟩
 .refine⟨l',ed',-1,(bst (grOf es) s T).far,G.len,G.far,G.out,⟨?_,λv=>?_,H,λv _=>Qgg h u B v⟩,P⟩
  .have a:=Qfk (grOf es) s j 0 T;rw[Xv]at a;have L:(bst (grOf es) s T).far j<=0:=by rw[<- b];exact a
   rcases Nat.eq_zero_or_pos es.length with e|e
   .have:T=0:=by rw[e,Xx]at B;omega
    subst this;exact b
   .rcases QnA (g:=grOf es) (s:=s) (φ:=φ) e (c:=φ j) hφ (λv=>by
     by_cases z:v=j
     .subst z;exact .inr (by rw[b];omega)
     .exact .inl (f v z)) T j with q|q
    .rw[q]at L;exact absurd L (by decide)
    .omega
  .rcases Nat.eq_zero_or_pos es.length with e|e
   .have:T=0:=by rw[e,Xx]at B;omega
    subst this;by_cases z:v=j
    .subst z;exact .inr (by show Wk _ _ _ (s.far v);rw[b];exact .nil)
    .exact .inl (f v z)
   .exact Qo6 e (λv=>by
     by_cases z:v=j
     .subst z;exact .inr (by rw[b];exact .nil)
     .exact .inl (f v z)) T v
 .exfalso;have t:0<es.length:=by
   rcases Nat.eq_zero_or_pos es.length with e|e
   .have:=w3.lt;rw[e,Xx]at this;omega
   .exact e
  obtain⟨k,N,V,w,x⟩:=Qoa (g:=grOf es) t (gr_F h) w1 w3 w2;generalize hS:bst (grOf es) s (n*es.length)=S at w x;generalize bpk (grOf es) S v n=p at w x;have neg:=QiZ (g:=grOf es) (s:=s) (n*es.length) (v:=p) (k:=k) N (by rw[hS];exact w) (λj _=>by rw[hS];exact x j);rw[hS]at neg;have low:∀j,φ p-φ (bpk (grOf es) S p j)<=bsum (grOf es) S p j:=by
   intro j
   induction j with
   |zero=>simp[bsum,bpk]
   |succ j W=>
    obtain⟨τ',q⟩:=x j;have E:=q.edge;rw[hS]at E;have y:S.edge (bpk (grOf es) S p j)<es.length:=by rw[E];exact Nat.mod_lt _ t
    have a:=hφ _ y;have J:=(QaC q.ch).1;rw[<- E]at J;rw[<- J]at a;have Q:bpk (grOf es) S p (j+1)=(grOf es).F (S.edge (bpk (grOf es) S p j)):=rfl;unfold bsum;rw[Q];omega
  have:=low k;rw[w]at this;omega
structure FarOk (es:List Edge) (n:Nat) (far:List (List Int)) (D:Nat->Nat->Int):Prop where
 len:far.length=n
 row:∀j,j<n->∃r,far[j]?=some r/\r.length=n/\ ∀v,v<n->r[v]?=some (D j v)
 d:∀j,j<n->DRow es n j (D j)
theorem QgS{n:Nat}{es:List Edge}(h:SysOk n es){φ:Nat->Int}(hφ:PotB es φ):∃far D,FarOk es n far D/\Ev (λm=>F_bw m ⟨(n:Int),es⟩) far:=by
 have F:=h.n0;have t:=h.n1;have V:n*n<=4096:=Nat.mul_le_mul t t;have loop:∀(m i:Nat) (l:List Int) (D:Nat->Nat->Int),i+m=n->l.length=n*n->(∀j,j<i->(∀v,v<n->l[j*n+v]?=some (D j v))/\DRow es n j (D j))->(∀x,i*n<=x->x<n*n->l[x]?=some bN)->
   ∃(f:List Int) (D':Nat->Nat->Int),EvI (λm=>F_gm m ⟨(n:Int),es⟩) (l,(i:Int),i) (f,n)/\f.length=n*n/\ ∀j,j<n->(∀v,v<n->f[j*n+v]?=some (D' j v))/\DRow es n j (D' j):=by
  intro m
  induction m with
  |zero=>
   intro i l D hi hl hd _;obtain rfl:i=n:=by omega
   refine⟨l,D,Ej ?_,hl,hd⟩;unfold F_gm;simp only[QK (show¬((i:Int)<(i:Int))by omega),Vp];exact Qa _
  |succ m ih=>
   intro i l D hi hl hd hN;have p:i<n:=by omega
   have R:i*n+n<=n*n:=by
    have:=XC n (show i+1<=n from p)
    rwa [XA,Nat.one_mul]at this
   have u:i*n+i<n*n:=by omega
   let s:Bs:=⟨λv=>if v=i then 0 else bN,λ_=>0⟩
   have r:RepB l (i*n) n (l.set (i*n+i) 0) (List.replicate n 0) s:=by
    refine⟨by simp,λv k=>?_,λj g=>?_,by simp,λv k=>by simp[List.getElem?_replicate,k,s]⟩
    .by_cases e:v=i
     .subst e;rw[Xa (by omega)];simp[s]
     .rw[XP (by omega),hN _ (by omega) (by omega)];simp[s,e]
    .rw[XP (by omega)]
   obtain⟨f,W,y,d,z,q2,B,Y,q5⟩:=row_d h hφ p r;obtain⟨Q,D2,z1,T,H⟩:=ih (i+1) f (λj=>if j=i then d else D j) (by omega) (by rw[z,hl]) (λj g=>by
    by_cases e:j=i
    .subst e;simp only[Vs];exact⟨q2,Y⟩
    .simp only[Vr e];obtain⟨a,b⟩:=hd j (by omega);refine⟨λv k=>?_,b⟩;have:j*n+n<=i*n:=by
      have:=XC n (show j+1<=i by omega)
      rwa [XA,Nat.one_mul]at this
     rw[B _ (.inl (by omega))];exact a v k) (λx w q=>by
    rw[XA,Nat.one_mul]at w;rw[B _ (.inr (by omega))];exact hN x (by omega) q)
   refine⟨Q,D2,Ew ?_ z1,T,H⟩;have w1:IntKind.i64.wrap ((i:Int)*(n:Int))=((i*n:Nat):Int):=by
    rw[show(i:Int)*(n:Int)=((i*n:Nat):Int)by push_cast;rfl];exact Qp (by omega) (by omega)
   have w2:IntKind.i64.wrap (((i+1:Nat):Int)*(n:Int))=((i*n+n:Nat):Int):=by
    rw[show((i+1:Nat):Int)*(n:Int)=((i*n+n:Nat):Int)by push_cast;rw[Int.add_mul,Int.one_mul]];exact Qp (by omega) (by omega)
   have w3:=QO (show i<9223372036854775807 by omega);have c1:slc l ((i*n:Nat):Int) ((i*n+n:Nat):Int)=some ((l.take (i*n+n)).drop (i*n)):=by
    unfold slc;simp only[QS (show(0:Int)<=((i*n:Nat):Int)by omega),QS (show((i*n:Nat):Int)<=((i*n+n:Nat):Int)by omega),QS (show((i*n+n:Nat):Int)<=(l.length:Int)by omega)];rfl
   have c2:QbC l ((i*n:Nat):Int) ((i*n+n:Nat):Int) (i:Int)=some bN:=QeX (hN _ (by omega) u) (by omega);have M:QaZ l (((i*n:Nat):Int)+(i:Int)) 0=some (l.set (i*n+i) 0):=by
    rw[show((i*n:Nat):Int)+(i:Int)=((i*n+i:Nat):Int)by omega];exact QaH l 0 (by omega)
   have O:winC ((i*n:Nat):Int) ((i*n+n:Nat):Int) (n:Int) i f (l.set (i*n+i) 0)=some ():=by
    unfold winC;have P:((0+((i*n:Nat):Int).toNat)==i*((n:Int)).toNat)=true:=Vx.2 (by rw[Int.toNat_natCast,Int.toNat_natCast,Xv]);have X:((((i*n+n:Nat):Int).toNat-((i*n:Nat):Int).toNat)==((n:Int)).toNat)=true:=Vx.2 (by rw[Int.toNat_natCast,Int.toNat_natCast,Int.toNat_natCast];omega);have G:decide (i+1<=Q3)=true:=Vt (XV (by omega:i+1<=1048576) (by decide));have J:(f.length==(l.set (i*n+i) 0).length)=true:=by simp[z]
    rw[P,X,G,J];rfl
   unfold F_gm;simp only[QS (show(i:Int)<(n:Int)by omega),Vn,w3,w1,w2,c1,c2,M,QlK n (0:Int) (by omega),XJ];refine Ea q5 ?_;simp only[O,XJ];exact Qa _
 obtain⟨f,D,g1,L,E⟩:=loop n 0 (List.replicate (n*n) bN) (λ_ _=>0) (by omega) (by simp) (λj g=>absurd g (Xm _)) (λx _ w=>by simp[List.getElem?_replicate,w]);refine⟨Qhi f n n,D,⟨by simp[Qhi],λj g=>?_,λj g=>(E j g).2⟩,?_⟩
 .have R:j*n+n<=n*n:=by
   have:=XC n (show j+1<=n from g)
   rwa [XA,Nat.one_mul]at this
  refine⟨(f.drop (j*n)).take n,by simp[Qhi,Xo,List.getElem?_range,g],by simp;omega,λv k=>?_⟩;rw[List.getElem?_take_of_lt k,List.getElem?_drop];exact(E j g).1 v k
 .unfold F_bw;have N:IntKind.i64.wrap ((n:Int)*(n:Int))=((n*n:Nat):Int):=by
   rw[show(n:Int)*(n:Int)=((n*n:Nat):Int)by push_cast;rfl];exact Qp (by omega) (by omega)
  simp only[N];refine Ea (Qks bN (n*n) (Nat.mul_pos F F) n t rfl) ?_;refine Ea g1.ev ?_;unfold winE;rw[Int.toNat_natCast,QS (by rw[L];exact XT _)];exact Qa _
theorem Qo1{n:Nat}{es:List Edge}(h:SysOk n es):
  (∃φ far D,PotB es φ/\FarOk es n far D/\Ev (λm=>F_ap m ⟨(n:Int),es⟩) (far,[],0))\/
  ((¬ ∃φ,PotB es φ)/\ ∃cyc,cyc≠[]/\cyc.length<=n/\(∀c∈cyc,∃j,j<es.length/\c=((j:Nat):Int))/\wSum es cyc<0/\Ev (λm=>F_ap m ⟨(n:Int),es⟩) ([],cyc,151)):=by
 unfold F_ap;rcases Qdq h with⟨⟨φ,hφ⟩,e⟩|⟨i,cyc,a,g,f,d,e⟩
 .obtain⟨far,D,b,k⟩:=QgS h hφ;refine .inl ⟨φ,far,D,hφ,b,Ea (Qf9 h) ?_⟩;refine Yk (Ea e ?_);exact Ea k (Qa _)
 .refine .inr ⟨i,cyc,a,g,f,d,Ea (Qf9 h) ?_⟩;refine Yk (Ea e ?_);have:0<cyc.length:=List.length_pos_iff.2 a;rw[QS (show(0:Int)<(cyc.length:Int)by omega)];exact Qa _
set_option maxRecDepth 10000
theorem QbD{f:Fact}(h:validS f=true):headS f=true/\contR f=true/\onlyS f=f:=by
 rw[Qc6,XW,XW,Qmq,Vx]at h;exact⟨h.1.1,h.1.2,h.2⟩
theorem Qin{f:Fact}(h:validS f=true)(k:f.Kind=2):0<=f.Read.Epoch/\f.Read.Epoch<=255:=by
 obtain⟨_,a,_⟩:=QbD h;unfold contR at a;rw[k]at a;have b:(true&&(nb f.Read.Mat 0 39&&(nb f.Read.Epoch 0 255&&(nb f.Read.Chip 0 1048576&&(nb f.Read.Local (-1099511627776) 1099511627776&&true)))))=true:=a;simp only[XW,QiD]at b;exact b.2.2.1
structure BeaOk (b:Beacon):Prop where
 ep:0<=b.Epoch/\b.Epoch<=255
 lo: -1099511627776<=b.Local/\b.Local<=1099511627776
 tr: -1099511627776<=b.True/\b.True<=1099511627776
 er:0<=b.Err/\b.Err<=1099511627776
theorem Qas{f:Fact}(h:validS f=true)(k:f.Kind=3):BeaOk f.Beacon:=by
 obtain⟨_,b,_⟩:=QbD h;unfold contR at b;rw[k]at b;have a:(true&&(nb f.Beacon.Mat 0 39&&(nb f.Beacon.Epoch 0 255&&(nb f.Beacon.Local (-1099511627776) 1099511627776&&(nb f.Beacon.True (-1099511627776) 1099511627776&&(nb f.Beacon.Err 0 1099511627776&&true))))))=true:=b;simp only[XW,QiD]at a;exact⟨a.2.2.1,a.2.2.2.1,a.2.2.2.2.1,a.2.2.2.2.2.1⟩
structure SynOk (b:Sync):Prop where
 ea:0<=b.EpochA/\b.EpochA<=255
 la: -1099511627776<=b.LocalA/\b.LocalA<=1099511627776
 eb:0<=b.EpochB/\b.EpochB<=255
 lb: -1099511627776<=b.LocalB/\b.LocalB<=1099511627776
 mi: -1099511627776<=b.Min/\b.Min<=1099511627776
 ma: -1099511627776<=b.Max/\b.Max<=1099511627776
theorem Qci{f:Fact}(h:validS f=true)(k:f.Kind=4):SynOk f.Sync:=by
 obtain⟨_,b,_⟩:=QbD h;unfold contR at b;rw[k]at b;have a:(decide (f.Sync.Min<=f.Sync.Max)&&(nb f.Sync.MatA 0 39&&(nb f.Sync.EpochA 0 255&&(nb f.Sync.LocalA (-1099511627776) 1099511627776&&(nb f.Sync.MatB 0 39&&(nb f.Sync.EpochB 0 255&&(nb f.Sync.LocalB (-1099511627776) 1099511627776&&(nb f.Sync.Min (-1099511627776) 1099511627776&&(nb f.Sync.Max (-1099511627776) 1099511627776&&true)))))))))=true:=b;simp only[XW,QiD]at a;exact⟨a.2.2.1,a.2.2.2.1,a.2.2.2.2.2.1,a.2.2.2.2.2.2.1,a.2.2.2.2.2.2.2.1,a.2.2.2.2.2.2.2.2.1⟩
theorem QaB{l:List Fact}{k:Int}{f:Fact}(h:f∈cntS l k):f∈l/\validS f=true/\f.Kind=k:=by
 unfold cntS at h;rw[Xd,(Qdt l).2]at h;exact⟨h.1.1,h.1.2,by simpa using h.2⟩
structure CrsOk (c:Course):Prop where
 mats:c.Mats.length<=40
 res:0<=c.Faults.Residual/\c.Faults.Residual<=4294967296
 drift:0<=c.Faults.Drift/\c.Faults.Drift<=100000
def driftV(x k:Int):Int:=Int.tdiv ((if x<0-x then 0-x else x)*k+1000000-1) 1000000
theorem Qfg{x k:Int}(h: -2199023255552<=x/\x<=2199023255552)(b:0<=k/\k<=100000):0<=driftV x k/\driftV x k<=274877906944/\0<=(if x<0-x then 0-x else x)*k/\(if x<0-x then 0-x else x)*k<=219902325555200000:=by
 generalize ha:(if x<0-x then 0-x else x)=a;have g:0<=a:=by rw[<- ha];split<;>omega
 have d:a<=2199023255552:=by rw[<- ha];split<;>omega
 have i:0<=a*k:=Int.mul_nonneg g b.1;have f:a*k<=2199023255552*100000:=Int.le_trans (Int.mul_le_mul_of_nonneg_right d b.1) (Int.mul_le_mul_of_nonneg_left b.2 (by decide));have e:(2199023255552:Int)*100000=219902325555200000:=by decide
 rw[e]at f;unfold driftV;rw[ha,Int.tdiv_eq_ediv_of_nonneg (by omega)];omega
theorem Qma{x k:Int}(b: -2199023255552<=x/\x<=2199023255552)(d:0<=k/\k<=100000):Ev (λn=>F_cf n x k) (driftV x k,0):=by
 obtain⟨i,f,h,g⟩:=Qfg b d;unfold F_cf;refine Ea (v:=false) ?_ ?_
 .rw[QK (show¬(x< -2199023255552)by omega),QK (show¬(2199023255552<x)by omega),QK (show¬(k<0)by omega),QK (show¬(100000<k)by omega)];exact Qa _
 .have e:IntKind.i64.wrap (0-x)=0-x:=Qp (by omega) (by omega);have w1:=Qp (n:=(if x<0-x then 0-x else x)*k) (by omega) (by omega);have w2:=Qp (n:=(if x<0-x then 0-x else x)*k+1000000) (by omega) (by omega);have w3:=Qp (n:=(if x<0-x then 0-x else x)*k+1000000-1) (by omega) (by omega);have a:=Qp (n:=driftV x k) (by omega) (by omega);refine Yk ?_;rw[e,w1,w2,w3];unfold driftV at a⊢;rw[a];exact Qa _
def devV(c:Course)(k:Int)(s:Segment)(loc:Int):Span:=
 bif k != 1 then⟨0-driftV (loc-s.Anchor) c.Faults.Drift,c.Faults.Residual+driftV (loc-s.Anchor) c.Faults.Drift⟩else⟨0,c.Faults.Residual⟩
def isT(x:Int):Prop:= -1099511627776<=x/\x<=1099511627776
theorem Qo3{c:Course}(b:CrsOk c)(k:Int){s:Segment}{a:Int}(d:isT s.Anchor)(e:isT a): -274877906944<=(devV c k s a).Lo/\(devV c k s a).Lo<=0/\0<=(devV c k s a).Hi/\(devV c k s a).Hi<=279172874240:=by
 obtain⟨g,h⟩:=b.res;obtain⟨i,f,_,_⟩:=Qfg (x:=a-s.Anchor) (by unfold isT at d e;omega) b.drift;unfold devV;cases k != 1 with
 |true=>simp only[Vn];omega
 |false=>simp only[Vp];omega
theorem Qo0{c:Course}(b:CrsOk c){i:Nat}{m:Mat}(f:c.Mats[i]?=some m){s:Segment}(h:s.Mat=(i:Int)){a:Int}(e:isT s.Anchor)(g:isT a):Ev (λn=>F_y n c s a) (devV c m.Kind s a):=by
 obtain⟨k,l⟩:=b.res;have d: -2199023255552<=a-s.Anchor/\a-s.Anchor<=2199023255552:=by unfold isT at e g;omega
 obtain⟨p,j,_,_⟩:=Qfg d b.drift;unfold F_y devV;simp only[h,QJ f,XJ];cases m.Kind != 1 with
 |false=>exact Qa _
 |true=>
  simp only[Vn];refine Ea (v:=⟨0-driftV (a-s.Anchor) c.Faults.Drift,c.Faults.Residual+driftV (a-s.Anchor) c.Faults.Drift⟩) ?_ (Qa _);rw[Qp (n:=a-s.Anchor) (by omega) (by omega)];refine Ea (Qma d b.drift) ?_;rw[Qp (n:=0-driftV (a-s.Anchor) c.Faults.Drift) (by omega) (by omega),Qp (n:=c.Faults.Residual+driftV (a-s.Anchor) c.Faults.Drift) (by omega) (by omega)];exact Qa _
def matB(c:Course)(x:Int):Bool:=decide (0<=x)&&decide (x<(c.Mats.length:Int))
theorem QcJ(c:Course)(x:Int):Ev (λn=>F_h n c x) (matB c x):=by
 unfold F_h matB;exact Ea (Ei λ_=>Qa _) (Qa _)
theorem QiE{c:Course}{x:Int}(h:matB c x=true):∃i m,x=((i:Nat):Int)/\c.Mats[i]?=some m:=by
 unfold matB at h;simp only[XW,Vq]at h;exact⟨x.toNat,c.Mats[x.toNat]'(by omega),by omega,XK _⟩
def okPl(c:Course)(x:Int):Bool:=matB c x&&(match c.Mats[x.toNat]? with|some m=>m.Kind != 1|none=>false)
abbrev Met:=List (Ua×Bool)
abbrev Anc:=List (Ua×Int)
def meetV(c:Course)(m:Met)(x e:Int):Met:=bif okPl c x then Yj m ⟨x,e⟩ true else m
theorem Qej(c:Course)(m:Met)(x e:Int):Ev (λn=>F_w n x e c m) (meetV c m x e):=by
 unfold F_w meetV;refine Ea (v:=okPl c x) ?_ ?_
 .unfold okPl;refine Ea (QcJ c x) ?_;cases q:matB c x with
  |false=>exact Qa _
  |true=>
   obtain⟨i,m,rfl,a⟩:=QiE q;simp only[Vn,QJ a,XJ,Vz,Int.toNat_natCast,a];exact Qa _
 .cases okPl c x<;>exact Qa _
def metX(c:Course)(m:Met)(f:Fact):Met:=meetV c m f.Read.Mat f.Read.Epoch
def metY(c:Course)(m:Met)(f:Fact):Met:=meetV c (meetV c m f.Sync.MatA f.Sync.EpochA) f.Sync.MatB f.Sync.EpochB
def metB(c:Course)(a:Met×Anc)(f:Fact):Met×Anc:=(meetV c a.1 f.Beacon.Mat f.Beacon.Epoch,bif !Qb9 a.2 (⟨f.Beacon.Mat,f.Beacon.Epoch⟩:Ua)then Yj a.2 ⟨f.Beacon.Mat,f.Beacon.Epoch⟩ f.Beacon.Local else a.2)
def metA(c:Course)(l:List Fact):Met×Anc:=(cntS l 3).foldl (metB c) ((cntS l 4).foldl (metY c) ((cntS l 2).foldl (metX c) []),[])
structure MetOk (c:Course) (k:Nat) (m:Met):Prop where
 nodup:(m.map (·.1)).Nodup
 ok:∀p∈m.map (·.1),okPl c p.mat=true/\0<=p.epoch/\p.epoch<=255
 len:m.length<=k
theorem QiH{α β:Type}[DecidableEq α](m:List (α×β))(k:α)(v:β)(h:(m.map (·.1)).Nodup):((Yj m k v).map (·.1)).Nodup/\(∀p∈(Yj m k v).map (·.1),p=k\/p∈m.map (·.1))/\(Yj m k v).length<=m.length+1:=by
 have e:=QfX m k v;have f:=congrArg List.length e;rw[X0]at f;rw[e];by_cases q:k∈m.map (·.1)
 .rw[Vs q]at f⊢;exact⟨h,λp d=>.inr d,by rw[f,X0];omega⟩
 .rw[Vr q]at f⊢;refine⟨?_,λp d=>?_,by rw[f];simp⟩
  .rw[List.nodup_append];refine⟨h,by simp,λa i b g=>?_⟩;rw[VA]at g;rintro rfl;exact q (g▸i)
  .rcases VC.1 d with d|d
   .exact .inr d
   .exact .inl (by simpa using d)
theorem Qeg{c:Course}{k:Nat}{m:Met}(h:MetOk c k m)(x:Int){e:Int}(he:0<=e/\e<=255):MetOk c (k+1) (meetV c m x e):=by
 unfold meetV;cases q:okPl c x with
 |false=>exact⟨h.nodup,h.ok,by have:=h.len;simp only[Vp];omega⟩
 |true=>
  simp only[Vn];obtain⟨b,d,f⟩:=QiH m (⟨x,e⟩:Ua) true h.nodup;refine⟨b,λp a=>?_,by have:=h.len;omega⟩;rcases d p a with rfl|a
  .exact⟨q,he⟩
  .exact h.ok p a
def AncOk(m:Anc):Prop:=∀p v,Qag m p=some v->isT v
theorem QcH{α β:Type}(g:β->α->β)(I:β->Nat->Prop)(w:Nat):∀(l:List α) (b:β) (k:Nat),I b k->(∀x∈l,∀b k,I b k->I (g b x) (k+w))->I (l.foldl g b) (k+w*l.length)
 |[],b,k,h,_=>by simpa using h
 |x::l,b,k,h,q=>by
  have:=QcH g I w l (g b x) (k+w) (q x (by simp) b k h) λy hy=>q y (by simp[hy]);rw[XZ,Nat.mul_add,Nat.mul_one,Nat.add_comm (w*l.length), <- Nat.add_assoc];exact this
theorem QgG(c:Course)(l:List Fact):MetOk c ((cntS l 2).length+2*(cntS l 4).length+(cntS l 3).length) (metA c l).1/\AncOk (metA c l).2:=by
 have n:MetOk c (0+1*(cntS l 2).length) ((cntS l 2).foldl (metX c) []):=QcH (metX c) (λm k=>MetOk c k m) 1 _ _ _ ⟨by simp,(λp b=>by simp at b),by simp⟩ λf d m k h=>by
  obtain⟨_,g,i⟩:=QaB d;exact Qeg h _ (Qin g i)
 have q:=QcH (metY c) (λm k=>MetOk c k m) 2 (cntS l 4) _ _ n λf d m k h=>by
  obtain⟨_,g,i⟩:=QaB d;have s:=Qci g i;exact Qeg (Qeg h _ s.ea) _ s.eb
 have j:=QcH (metB c) (λa k=>MetOk c k a.1/\AncOk a.2) 1 (cntS l 3) (_,[]) _ ⟨q,(λp v h=>by simp[Qag]at h)⟩ λf d a k h=>by
  obtain⟨_,g,i⟩:=QaB d;have s:=Qas g i;refine⟨Qeg h.1 _ s.ep,?_⟩;show AncOk (bif !Qb9 a.2 _ then Yj a.2 _ _ else a.2);cases Qb9 a.2 (⟨f.Beacon.Mat,f.Beacon.Epoch⟩:Ua)with
  |true=>exact h.2
  |false=>
   simp only[Xh,Vn];intro p v b;rw[Qdl]at b;split at b
   .cases b;exact s.lo
   .exact h.2 p v b
 have e:0+1*(cntS l 2).length+2*(cntS l 4).length+1*(cntS l 3).length=(cntS l 2).length+2*(cntS l 4).length+(cntS l 3).length:=by omega
 rw[e]at j;exact j
theorem QjN(l:List Fact):(cntS l 2).length+2*(cntS l 4).length+(cntS l 3).length<=2*l.length:=by
 have a:∀m:List Fact,(m.filter λf=>f.Kind==2).length+2*(m.filter λf=>f.Kind==4).length+(m.filter λf=>f.Kind==3).length<=2*m.length:=by
  intro m
  induction m with
  |nil=>simp
  |cons f m g=>
   simp only[List.filter_cons,XZ];by_cases e:f.Kind=2
   .simp[e];omega
   .by_cases d:f.Kind=4
    .simp[d];omega
    .by_cases b:f.Kind=3
     .simp[b];omega
     .simp[e,b,d];omega
 have:=a (canonS l);have h:=Qfj l;unfold cntS;omega
def segOf(a:Anc)(p:Ua×Bool):Segment:=⟨p.1.mat,p.1.epoch,QN a p.1 0⟩
def segV(c:Course)(l:List Fact):List Segment:=QaU (ltC cmpSeg) ((metA c l).1.map (segOf (metA c l).2))
set_option maxRecDepth 10000
theorem Qds:CmpOK cmpSeg:=by
 have h:=Qb7 (cmpI_ok.on λx:Segment=>x.Mat) (cmpI_ok.on λx:Segment=>x.Epoch);have e:cmpSeg=λx y:Segment=>bif cmpI x.Mat y.Mat != 0 then cmpI x.Mat y.Mat else cmpI x.Epoch y.Epoch:=by
  funext x y
  show(bif cmpI x.Mat y.Mat != 0 then cmpI x.Mat y.Mat else(bif cmpI x.Epoch y.Epoch != 0 then cmpI x.Epoch y.Epoch else 0))=_;cases q:cmpI x.Epoch y.Epoch != 0 with
  |true=>rfl
  |false=>
   have:cmpI x.Epoch y.Epoch=0:=by simpa using q
   rw[this];rfl
 rw[e];exact h
theorem Qh4{x y:Segment}(h:cmpSeg x y=0):x.Mat=y.Mat/\x.Epoch=y.Epoch:=by
 unfold cmpSeg orL at h;cases q:cmpI x.Mat y.Mat != 0 with
 |true=>rw[q]at h;simp only[Vn]at h;rw[h]at q;cases q
 |false=>
  rw[q]at h;have d:cmpI x.Mat y.Mat=0:=by simpa using q
  simp only[Vp,orL]at h;cases a:cmpI x.Epoch y.Epoch != 0 with
  |true=>rw[a]at h;simp only[Vn]at h;rw[h]at a;cases a
  |false=>
   have b:cmpI x.Epoch y.Epoch=0:=by simpa using a
   exact⟨Qph.1 d,Qph.1 b⟩
theorem QfQ{a:Anc}{p q:Ua×Bool}(h:cmpSeg (segOf a p) (segOf a q)=0):segOf a p=segOf a q:=by
 obtain⟨b,d⟩:=Qh4 h;have e:p.1=q.1:=by
  obtain⟨⟨g,f⟩,i⟩:=p;obtain⟨⟨l,j⟩,k⟩:=q;simp only[segOf]at b d;simp only[b,d]
 unfold segOf;rw[e]
theorem Qfd(n:Nat)(m:Met×Anc):∀(p:Met) (s:List Segment),s.length+p.length<=1048576->Qd6 (F_eo n m) (F_gh n) s p=some (s++p.map (segOf m.2))
 |[],s,h=>by unfold Qd6 F_gh;simp
 |e::p,s,h=>by
  rw[XZ]at h;have h1:F_eo n m s e=some (.cont (s++[segOf m.2 e])):=by
   unfold F_eo;simp only[XJ];rw[Qb1 _ _ (by omega)];rfl
  unfold Qd6;rw[h1];show Qd6 _ _ (s++[segOf m.2 e]) p=_;rw[Qfd n m p _ (by simp;omega)];simp
theorem Qll{m:Met×Anc}{p:Met}(h:p.Perm m.1):QaU (ltC cmpSeg) (p.map (segOf m.2))=QaU (ltC cmpSeg) (m.1.map (segOf m.2)):=by
 refine Qbj (lt:=ltC cmpSeg) ((QM _ _).trans ((h.map _).trans (QM _ _).symm)) (λx g y f d e=>?_) (YH (QcF Qds _)) (YH (QcF Qds _));have d:=Vv d;have e:=Vv e;obtain⟨a,_,rfl⟩:=Xe.1 ((QM _ _).mem_iff.1 g);obtain⟨b,_,rfl⟩:=Xe.1 ((QM _ _).mem_iff.1 f);refine QfQ ?_;have:=Qds.swap (segOf m.2 a) (segOf m.2 b);omega
theorem QcL{c:Course}{l:List Fact}{e:Int}(he:Ev (λn=>F_n n c) e)(a:e≠0):Ev (λn=>F_i n c l) ([],e):=by
 unfold F_i;refine Ea he ?_;rw[show(e != 0)=true by simpa using a];exact Qa _
theorem QaW{c:Course}{l:List Fact}(he:Ev (λn=>F_n n c) 0)(r:l.length<=100):Ev (λn=>F_i n c l) (segV c l,0):=by
 obtain⟨i,_⟩:=QgG c l;have s:=QjN l;have j:(metA c l).1.length<=200:=XV i.len (by omega);unfold F_i;refine Ea he (Yk ?_);simp only[F_r,XJ];refine Ea (QaL l 2 (by omega)) ?_;refine Ea (Qb5 (metX c) (λ_ _=>True) (cntS l 2) [] trivial λf _ m k _=>⟨?_,trivial⟩).1 ?_
 .unfold F_hk;exact Ea (Qej c m _ _) (Qa _)
 refine Ea (QaL l 4 (by omega)) ?_;refine Ea (Qb5 (metY c) (λ_ _=>True) (cntS l 4) _ trivial λf _ m k _=>⟨?_,trivial⟩).1 ?_
 .unfold F_hn;exact Ea (Qej c m _ _) (Ea (Qej c _ _ _) (Qa _))
 refine Ea (QaL l 3 (by omega)) ?_;refine Ea (Qb5 (metB c) (λ_ _=>True) (cntS l 3) (_,[]) trivial λf _ a k _=>⟨?_,trivial⟩).1 ?_
 .unfold F_hm metB;refine Ea (Qej c a.1 _ _) ?_;simp only[XJ];cases Qb9 a.2 (⟨f.Beacon.Mat,f.Beacon.Epoch⟩:Ua)<;>exact Qa _
 show Ev (λn=>bif decide (511<((metA c l).1.length:Int))then some ([],2)else anyP (λp=>(Qd6 (F_eo n (metA c l)) (F_gh n) [] p).bind λb=>(QbF (λx y=>F_ag n x y) b).bind λl=>some (l,0)) (metA c l).1) (segV c l,0);rw[QK (show¬(511<((metA c l).1.length:Int))by omega)];refine Yk (Ev.anyP λp d=>?_);have q:=d.length_eq;simp only[Qfd _ (metA c l) p [] (by simp;omega),Vg,XJ];refine Ea (Qj1 (by rw[X0];omega) (λx _ y _=>QhT x y) Qds λx g y h e=>?_) ?_
 .obtain⟨a,_,rfl⟩:=Xe.1 g;obtain⟨b,_,rfl⟩:=Xe.1 h;exact QfQ e
 .rw[Qll d];exact Qa _
structure SegOk (c:Course) (s:Segment):Prop where
 pl:okPl c s.Mat=true
 ep:0<=s.Epoch/\s.Epoch<=255
 an:isT s.Anchor
theorem Qlm{c:Course}{l:List Fact}{s:Segment}(h:s∈segV c l):SegOk c s:=by
 obtain⟨f,e⟩:=QgG c l;obtain⟨p,b,rfl⟩:=Xe.1 ((QM _ _).mem_iff.1 h);obtain⟨a,d⟩:=f.ok p.1 (Xe.2 ⟨p,b,rfl⟩);refine⟨a,d,?_⟩;show isT (QN (metA c l).2 p.1 0);unfold QN;cases q:Qag (metA c l).2 p.1 with
 |none=>exact⟨by decide,by decide⟩
 |some v=>exact e _ _ q
theorem Qgw(c:Course)(l:List Fact):(segV c l).length<=2*l.length:=by
 obtain⟨a,_⟩:=QgG c l;have h:(segV c l).length=(metA c l).1.length:=by
  unfold segV;rw[(QM _ _).length_eq,X0]
 have:=QjN l;have:=a.len;omega
def place(s:Segment):Ua:=⟨s.Mat,s.Epoch⟩
def varG:List Segment->Nat->Anc->Anc
 |[],_,m=>m
 |x::r,i,m=>varG r (i+1) (Yj m (place x) ((i+1:Nat):Int))
def baseG:List Segment->Nat->List Edge
 |[],_=>[]
 |_::r,i=>⟨0,((i+1:Nat):Int),1099511627776⟩::⟨((i+1:Nat):Int),0,1099511627776⟩::baseG r (i+1)
def varV(S:List Segment):Anc:=varG S 0 []
def VarOk(S:List Segment)(k:Nat)(m:Anc):Prop:=∀p v,Qag m p=some v->∃j s,v=((j+1:Nat):Int)/\j<k/\S[j]?=some s/\place s=p
theorem Qjd(S:List Segment):∀(r:List Segment) (i:Nat) (m:Anc),S.drop i=r->i<=S.length->VarOk S i m->VarOk S S.length (varG r i m)
 |[],i,m,h,hi,q=>λp v hp=>by
  obtain⟨j,s,a,b,d⟩:=q p v hp;exact⟨j,s,a,by omega,d⟩
 |x::r,i,m,h,hi,q=>by
  obtain⟨hx,hr,hlt⟩:=QgV h;refine Qjd S r (i+1) _ hr hlt λp v hp=>?_;rw[Qdl]at hp;split at hp
  .rename_i e;cases hp;exact⟨i,x,rfl,by omega,hx,e.symm⟩
  .obtain⟨j,s,a,b,d⟩:=q p v hp;exact⟨j,s,a,by omega,d⟩
theorem Qna(S:List Segment):VarOk S S.length (varV S):=Qjd S S 0 [] rfl (XU _) λp v h=>by simp[Qag]at h
theorem Qdu:∀(r:List Segment) (i:Nat),(baseG r i).length=2*r.length
 |[],_=>rfl
 |_::r,i=>by simp only[baseG,XZ,Qdu r];omega
theorem Qgh:∀(r:List Segment) (i j:Nat),j<r.length->(⟨0,((i+j+1:Nat):Int),1099511627776⟩:Edge)∈baseG r i/\(⟨((i+j+1:Nat):Int),0,1099511627776⟩:Edge)∈baseG r i
 |_::r,i,0,_=>by simp[baseG]
 |_::r,i,j+1,h=>by
  obtain⟨a,b⟩:=Qgh r (i+1) j (by simpa using h);rw[show i+1+j+1=i+(j+1)+1 by omega]at a b;exact⟨X4 _ (X4 _ a),X4 _ (X4 _ b)⟩
theorem Qh9:∀(r:List Segment) (i n:Nat),i+r.length<n->∀x∈baseG r i,EdgOk n x
 |[],_,_,_,x,h=>by cases h
 |_::r,i,n,hn,x,h=>by
  simp only[XZ]at hn;simp only[baseG,X5]at h;rcases h with rfl|rfl|h
  .exact⟨by simp,by simp;omega,by simp;omega,by simp;omega,by simp,by simp⟩
  .exact⟨by simp;omega,by simp;omega,by simp,by simp;omega,by simp,by simp⟩
  .exact Qh9 r (i+1) n (by omega) x h
theorem QjJ(r1:List Segment×Int)(hl:r1.1.length<=1000):∀(r:List Segment) (i:Nat) (m:Anc) (es:List Edge),r1.1.drop i=r->i<=r1.1.length->es.length<=2*i->
  EvI (λn=>F_gp n r1) (m,es,(i:Int)) (varG r i m,es++baseG r i)
 |[],i,m,es,h,hi,he=>by
  refine Ej ?_;unfold F_gp;simp only[Yo h hi,Vp,varG,baseG,Vf];exact Qa _
 |x::r,i,m,es,h,hi,he=>by
  obtain⟨ha,hr⟩:=QG (by omega) h;have hlt:=ha.lt';have q:=QjJ r1 hl r (i+1) (Yj m (place x) ((i+1:Nat):Int)) (es++[⟨0,((i+1:Nat):Int),1099511627776⟩,⟨((i+1:Nat):Int),0,1099511627776⟩]) hr (by omega) (by simp;omega);rw[Vh]at q;refine Ew ?_ q;unfold F_gp F_aa;simp only[ha.lt,Vn,ha.ix,XJ,ha.nx];rw[show IntKind.i64.wrap (0- -1099511627776)=1099511627776 by decide,QcR _ _ (by simp;omega)];exact Qa _
def segAt(S:List Segment)(v mat ep:Int):Segment:=bif decide (0<v)then(S[(v-1).toNat]?).getD ⟨mat,ep,0⟩else⟨mat,ep,0⟩
def kindM(c:Course)(x:Int):Int:=match c.Mats[x.toNat]? with|some m=>m.Kind|none=>0
def repV(c:Course)(S:List Segment)(mat ep loc:Int):Int×Span:=
 let v:=QN (varV S) (⟨mat,ep⟩:Ua) 0
 let y:=segAt S v mat ep
 (v,⟨loc+(devV c (kindM c y.Mat) y loc).Lo,loc+(devV c (kindM c y.Mat) y loc).Hi⟩)
theorem Qdc{c:Course}(p:CrsOk c){S:List Segment}(E:∀s∈S,SegOk c s)(O:S.length<=1000){a ep b:Int}(F:matB c a=true)(d:isT b):
  Ev (λn=>F_ae n a ep b S c (varV S)) (repV c S a ep b)/\(0<=(repV c S a ep b).1/\(repV c S a ep b).1<=(S.length:Int))/\
  (-1374389534720<=(repV c S a ep b).2.Lo/\(repV c S a ep b).2.Lo<=1099511627776)/\(-1099511627776<=(repV c S a ep b).2.Hi/\(repV c S a ep b).2.Hi<=1378684502016):=by
 have y:=Qna S;generalize hv:QN (varV S) (⟨a,ep⟩:Ua) 0=v;have g:(0<=v/\v<=(S.length:Int))/\(bif decide (0<v)then(idx S (IntKind.i64.wrap (v-1))).bind λx=>some x else some (⟨a,ep,0⟩:Segment))=some (segAt S v a ep)/\isT (segAt S v a ep).Anchor/\ ∃i m,(segAt S v a ep).Mat=((i:Nat):Int)/\c.Mats[i]?=some m:=by
  unfold QN at hv;cases q:Qag (varV S) (⟨a,ep⟩:Ua)with
  |none=>
   rw[q]at hv;have:v=0:=hv.symm;subst this;obtain⟨i,m,z,t⟩:=QiE F;exact⟨⟨by decide,by omega⟩,rfl,⟨show(-1099511627776:Int)<=0 by decide,show(0:Int)<=1099511627776 by decide⟩,i,m,z,t⟩
  |some w=>
   rw[q]at hv;have:w=v:=hv;subst this;obtain⟨j,s,rfl,t,h,P⟩:=y _ _ q;have u:=E s (VG h);have e:segAt S ((j+1:Nat):Int) a ep=s:=by
    unfold segAt;rw[QS (by omega),Vn,show(((j+1:Nat):Int)-1).toNat=j by omega,h];rfl
   rw[e];refine⟨⟨by omega,by omega⟩,?_,u.an,QiE (by have:=u.pl;unfold okPl at this;rw[XW]at this;exact this.1)⟩;rw[QS (by omega),Vn,Qp (by omega) (by omega),show((j+1:Nat):Int)-1=(j:Int)by omega,QJ h];rfl
 obtain⟨G,H,l,i,m,r,k⟩:=g;have B:kindM c (segAt S v a ep).Mat=m.Kind:=by unfold kindM;rw[r,Int.toNat_natCast,k]
 have e:repV c S a ep b=(v,⟨b+(devV c m.Kind (segAt S v a ep) b).Lo,b+(devV c m.Kind (segAt S v a ep) b).Hi⟩):=by
  unfold repV;simp only[hv,B]
 obtain⟨J,L,N,M⟩:=Qo3 p m.Kind l d;have f:=d;unfold isT at f;rw[e];refine⟨?_,G,⟨by simp only;omega,by simp only;omega⟩,⟨by simp only;omega,by simp only;omega⟩⟩;unfold F_ae;simp only[hv,XJ];rw[H];refine Ea (Qa _) (Ea (Qo0 p k r l d) ?_);rw[Qp (by omega) (by omega),Qp (by omega) (by omega)];exact Qa _
def newB(c:Course)(S:List Segment)(b:Beacon):List Edge:=
 bif matB c b.Mat then[⟨0,(repV c S b.Mat b.Epoch b.Local).1,b.True+b.Err-(repV c S b.Mat b.Epoch b.Local).2.Lo⟩,⟨(repV c S b.Mat b.Epoch b.Local).1,0,0-(b.True-b.Err-(repV c S b.Mat b.Epoch b.Local).2.Hi)⟩]else[]
def newS(c:Course)(S:List Segment)(y:Sync):List Edge:=
 bif matB c y.MatA&&matB c y.MatB then[⟨(repV c S y.MatA y.EpochA y.LocalA).1,(repV c S y.MatB y.EpochB y.LocalB).1,y.Max-(repV c S y.MatB y.EpochB y.LocalB).2.Lo+(repV c S y.MatA y.EpochA y.LocalA).2.Hi⟩,
  ⟨(repV c S y.MatB y.EpochB y.LocalB).1,(repV c S y.MatA y.EpochA y.LocalA).1,0-(y.Min-(repV c S y.MatB y.EpochB y.LocalB).2.Hi+(repV c S y.MatA y.EpochA y.LocalA).2.Lo)⟩]else[]
def edgesV(c:Course)(S:List Segment)(l:List Fact):List Edge:=baseG S 0++((cntS l 3).flatMap (λf=>newB c S f.Beacon)++(cntS l 4).flatMap (λf=>newS c S f.Sync))
theorem QgE{c:Course}(f:CrsOk c){S:List Segment}(e:∀s∈S,SegOk c s)(g:S.length<=1000){b:Beacon}(a:BeaOk b):(∀x∈newB c S b,EdgOk (S.length+1) x)/\(newB c S b).length<=2:=by
 unfold newB;cases q:matB c b.Mat with
 |false=>exact⟨(λx h=>by cases h),by simp⟩
 |true=>
  obtain⟨_,⟨v0,p⟩,⟨k,j⟩,r,i⟩:=Qdc f e g (ep:=b.Epoch) q a.lo;obtain⟨n,l⟩:=a.tr;obtain⟨t,m⟩:=a.er;refine⟨λx d=>?_,by simp⟩;simp only[Vn,X5,List.not_mem_nil,or_false]at d;rcases d with rfl|rfl
  .exact⟨Int.le_refl _,by simp only;omega,v0,by simp only;omega,by simp only;omega,by simp only;omega⟩
  .exact⟨v0,by simp only;omega,Int.le_refl _,by simp only;omega,by simp only;omega,by simp only;omega⟩
theorem Qju{c:Course}(e:CrsOk c){S:List Segment}(d:∀s∈S,SegOk c s)(g:S.length<=1000){y:Sync}(a:SynOk y):(∀x∈newS c S y,EdgOk (S.length+1) x)/\(newS c S y).length<=2:=by
 unfold newS;cases q:matB c y.MatA&&matB c y.MatB with
 |false=>exact⟨(λx h=>by cases h),by simp⟩
 |true=>
  rw[XW]at q;obtain⟨_,⟨v0,l⟩,⟨n,m⟩,B,i⟩:=Qdc e d g (ep:=y.EpochA) q.1 a.la;obtain⟨_,⟨f,w⟩,⟨t,k⟩,r,p⟩:=Qdc e d g (ep:=y.EpochB) q.2 a.lb;obtain⟨z,j⟩:=a.mi;obtain⟨E,u⟩:=a.ma;refine⟨λx b=>?_,by simp⟩;simp only[Vn,X5,List.not_mem_nil,or_false]at b;rcases b with rfl|rfl
  .exact⟨v0,by simp only;omega,f,by simp only;omega,by simp only;omega,by simp only;omega⟩
  .exact⟨f,by simp only;omega,v0,by simp only;omega,by simp only;omega,by simp only;omega⟩
theorem Qco{α β:Type}(f:α->List β):∀(l:List α) (a:List β),l.foldl (λa x=>a++f x) a=a++l.flatMap f
 |[],a=>by simp
 |x::l,a=>by rw[XD,Qco f l];simp
theorem Qdp{α β:Type}{f:α->List β}{l:List α}(h:∀x∈l,(f x).length<=2):(l.flatMap f).length<=2*l.length:=by
 induction l with
 |nil=>simp
 |cons x l a=>
  have:=h x (by simp);have:=a λy b=>h y (by simp[b]);simp only[List.flatMap_cons,X2,XZ];omega
theorem QcM{c:Course}(n:CrsOk c)(l:List Fact)(w:l.length<=15):SysOk ((segV c l).length+1) (edgesV c (segV c l) l):=by
 have t:=Qgw c l;have k:(segV c l).length<=1000:=by omega
 have m:∀s∈segV c l,SegOk c s:=λs h=>Qlm h;have u:=QcO l 3;have r:=QcO l 4;have q:∀f∈cntS l 3,(∀x∈newB c (segV c l) f.Beacon,EdgOk ((segV c l).length+1) x)/\(newB c (segV c l) f.Beacon).length<=2:=λf e=>by
  obtain⟨_,i,j⟩:=QaB e;exact QgE n m k (Qas i j)
 have p:∀f∈cntS l 4,(∀x∈newS c (segV c l) f.Sync,EdgOk ((segV c l).length+1) x)/\(newS c (segV c l) f.Sync).length<=2:=λf e=>by
  obtain⟨_,i,j⟩:=QaB e;exact Qju n m k (Qci i j)
 refine⟨by omega,by omega,?_,λx g=>?_⟩
 .have a:=Qdp (f:=λf:Fact=>newB c (segV c l) f.Beacon) λf e=>(q f e).2;have b:=Qdp (f:=λf:Fact=>newS c (segV c l) f.Sync) λf e=>(p f e).2;have d:=Qdu (segV c l) 0;unfold edgesV;simp only[X2];omega
 .unfold edgesV at g;simp only[VC,List.mem_flatMap]at g;rcases g with h|⟨f,e,h⟩|⟨f,e,h⟩
  .exact Qh9 _ 0 _ (by omega) x h
  .exact(q f e).1 x h
  .exact(p f e).1 x h
theorem Qkr{c:Course}(d:CrsOk c){l:List Fact}(he:Ev (λn=>F_n n c) 0)(H:l.length<=15):Ev (λn=>F_aj n c l) ((((segV c l).length+1:Nat):Int),edgesV c (segV c l) l,0):=by
 have s1:=Qgw c l;have g:(segV c l).length<=1000:=by omega
 have i:∀s∈segV c l,SegOk c s:=λs h=>Qlm h;have O:=QcO l 3;have Q:=QcO l 4;have P:=(QcM d l H).e1;unfold F_aj;refine Ea (QaW he (by omega)) (Yk ?_);have J:=(QjJ (segV c l,0) g (segV c l) 0 [] [] rfl (XU _) (by simp)).ev;refine Ea J ?_;simp only[F_r,XJ,Vg];refine Ea (QaL l 3 (by omega)) ?_;have V:(baseG (segV c l) 0).length<=1000:=by rw[Qdu];omega
 obtain⟨L,t⟩:=Qb5 (step:=λn=>F_hf n c (segV c l,0) (varG (segV c l) 0 [],baseG (segV c l) 0)) (λb (f:Fact)=>b++newB c (segV c l) f.Beacon) (λb k=>b.length+2*k<=2000) (cntS l 3) (baseG (segV c l) 0) (by show(baseG (segV c l) 0).length+2*(cntS l 3).length<=2000;omega) λf j b k p=>by
  obtain⟨_,m,e⟩:=QaB j;have a:=Qas m e;obtain⟨_,B⟩:=QgE d i g a;refine⟨?_,by simp only[X2];omega⟩;unfold F_hf newB;refine Ea (QcJ c _) ?_;cases q:matB c f.Beacon.Mat with
  |false=>simp only[Vp,Vf];exact Qa _
  |true=>
   obtain⟨r,⟨v0,x⟩,⟨z,u⟩,N,G⟩:=Qdc d i g (ep:=f.Beacon.Epoch) q a.lo;obtain⟨M,w⟩:=a.tr;obtain⟨E,e1⟩:=a.er;simp only[Vn];refine Ea (Ea r (Ea ?_ (Qa _))) (Qa _);unfold F_aa;rw[Qp (n:=f.Beacon.True-f.Beacon.Err) (by omega) (by omega),Qp (n:=f.Beacon.True+f.Beacon.Err) (by omega) (by omega),Qp (n:=f.Beacon.True-f.Beacon.Err-_) (by omega) (by omega),Qp (n:=f.Beacon.True+f.Beacon.Err-_) (by omega) (by omega),Qp (n:=0-_) (by omega) (by omega),QcR _ _ (by simp;omega)];exact Qa _
 refine Ea L ?_;rw[Qco]at t⊢;refine Ea (QaL l 4 (by omega)) ?_;have X:=Qdp (l:=cntS l 3) (f:=λf:Fact=>newB c (segV c l) f.Beacon) λf j=>by
  obtain⟨_,m,p⟩:=QaB j;exact(QgE d i g (Qas m p)).2
 generalize hE1:baseG (segV c l) 0++(cntS l 3).flatMap (λf=>newB c (segV c l) f.Beacon)=E1;have u:E1.length<=1100:=by rw[<- hE1,X2];omega
 obtain⟨F,y⟩:=Qb5 (step:=λn=>F_hc n c (segV c l,0) (varG (segV c l) 0 [],baseG (segV c l) 0)) (λb (f:Fact)=>b++newS c (segV c l) f.Sync) (λb k=>b.length+2*k<=2000) (cntS l 4) E1 (by show E1.length+2*(cntS l 4).length<=2000;omega) λf j b k p=>by
  obtain⟨_,m,e⟩:=QaB j;have a:=Qci m e;obtain⟨_,B⟩:=Qju d i g a;refine⟨?_,by simp only[X2];omega⟩;unfold F_hc newS;refine Ea (v:=matB c f.Sync.MatA&&matB c f.Sync.MatB) ?_ ?_
  .refine Ea (QcJ c _) ?_;cases matB c f.Sync.MatA with
   |false=>exact Qa _
   |true=>exact Ea (QcJ c _) (Qa _)
  cases q:matB c f.Sync.MatA&&matB c f.Sync.MatB with
  |false=>simp only[Vp,Vf];exact Qa _
  |true=>
   rw[XW]at q;obtain⟨r,⟨v0,x⟩,⟨z,u⟩,N,G⟩:=Qdc d i g (ep:=f.Sync.EpochA) q.1 a.la;obtain⟨rf,⟨Y,T⟩,⟨R,W⟩,h2,h3⟩:=Qdc d i g (ep:=f.Sync.EpochB) q.2 a.lb;obtain⟨M,w⟩:=a.mi;obtain⟨E,e1⟩:=a.ma;simp only[Vn];refine Ea (Ea r (Ea rf (Ea ?_ (Qa _)))) (Qa _);unfold F_aa;rw[Qp (n:=f.Sync.Min-_) (by omega) (by omega),Qp (n:=f.Sync.Max-_) (by omega) (by omega),Qp (n:=f.Sync.Min-_+_) (by omega) (by omega),Qp (n:=f.Sync.Max-_+_) (by omega) (by omega),Qp (n:=0-_) (by omega) (by omega),QcR _ _ (by simp;omega)];exact Qa _
 refine Ea F ?_;rw[Qco, <- hE1,Vh];show Ev (λn=>bif decide (8192<((edgesV c (segV c l) l).length:Int))then some (0,[],2)else some (IntKind.i64.wrap (((segV c l).length:Int)+1),edgesV c (segV c l) l,0)) _;rw[QK (show¬(8192<((edgesV c (segV c l) l).length:Int))by omega),QO (by omega)];exact Qa _
set_option maxRecDepth 10000
theorem Qo4{c:Course}(h:courseE c=0):CrsOk c:=by
 unfold courseE at h;cases b:fitsS c with
 |false=>rw[b]at h;cases h
 |true=>
  rw[b,Vn]at h;cases d:namesS c with
  |false=>rw[d]at h;cases h
  |true=>
   rw[d,Vn]at h;cases a:numbersS c with
   |false=>rw[a]at h;cases h
   |true=>
    simp only[numbersS,lastS,inR,XW,Vq]at a;simp only[fitsS,XW,Bool.not_eq_true',Bool.or_eq_false_iff,decide_eq_false_iff_not]at b;have l:=a.2.2.2.2.2.2.2.2.2;exact⟨by omega,by omega,by omega⟩
theorem Qh0{c:Course}(b:CrsOk c){l:List Fact}(he:Ev (λn=>F_n n c) 0)(d:l.length<=15):
  (∃φ far D,PotB (edgesV c (segV c l) l) φ/\FarOk (edgesV c (segV c l) l) ((segV c l).length+1) far D/\Ev (λn=>F_f n c l) (segV c l,far,0)/\Ev (λm=>F_ap m ⟨(((segV c l).length+1:Nat):Int),edgesV c (segV c l) l⟩) (far,[],0))\/
  ((¬ ∃φ,PotB (edgesV c (segV c l) l) φ)/\Ev (λn=>F_f n c l) ([],[],160)):=by
 unfold F_f;have s:=Qkr b he d;rcases Qo1 (QcM b l d)with⟨φ,far,D,e,f,a⟩|⟨h,g,_,_,_,_,a⟩
 .refine .inl ⟨φ,far,D,e,f,Ea s (Yk (Ea a (Yk (Ea (QaW he (by omega)) (Qa _))))),a⟩
 .exact .inr ⟨h,Ea s (Yk (Ea a (Qa _)))⟩
theorem QiM(l m:List Segment)(hl:l.length<=1048576):Ev (λn=>F_dy n l m) (decide (l=m)):=QnO l m (λn=>F_hj n l m) (by omega) λn s=>rfl
theorem Qoh:F_gc 300=some true:=by kernel_rfl
set_option maxRecDepth 10000
theorem Qek{es:List Edge}{x:Edge}(h:x∈es):∃i,i<es.length/\(grOf es).F i=x.From.toNat/\(grOf es).T i=x.To.toNat/\(grOf es).W i=x.W:=by
 obtain⟨i,a,e⟩:=List.getElem_of_mem h;exact⟨i,a,QhB (by rw[XK a,e])⟩
theorem Qjz{es:List Edge}{i:Nat}(h:i<es.length):∃x∈es,(grOf es).F i=x.From.toNat/\(grOf es).T i=x.To.toNat/\(grOf es).W i=x.W:=
 ⟨es[i],Vc h,QhB (XK h)⟩
theorem Wk.sub{es b:List Edge}(h:∀x∈es,x∈b){a v:Nat}{d:Int}(w:Wk (grOf es) a v d):Wk (grOf b) a v d:=by
 induction w with
 |nil=>exact .nil
 |cons w i g m p=>
  obtain⟨x,k,l,n,r⟩:=Qjz (es:=es) g;obtain⟨j,q,e,s,f⟩:=Qek (h x k);rw[n,r, <- s, <- f];exact .cons p j q (by rw[m,l,e])
theorem PotB.sub{es es':List Edge}(h:∀x∈es,x∈es'){φ:Nat->Int}(p:PotB es' φ):PotB es φ:=λi hi=>by
 obtain⟨x,hx,e1,e2,e3⟩:=Qjz hi;obtain⟨j,hj,f1,f2,f3⟩:=Qek (h x hx);have:=p j hj
 rwa [f1,f2,f3, <- e1, <- e2, <- e3]at this
def BaseIn(es:List Edge)(n:Nat):Prop:=∀v,0<v->v<n->(⟨0,(v:Int),1099511627776⟩:Edge)∈es/\(⟨(v:Int),0,1099511627776⟩:Edge)∈es
theorem QjQ(c:Course)(S:List Segment)(l:List Fact):BaseIn (edgesV c S l) (S.length+1):=λv h0 hv=>by
 obtain⟨a,b⟩:=Qgh S 0 (v-1) (by omega);rw[show 0+(v-1)+1=v by omega]at a b;exact⟨List.mem_append_left _ a,List.mem_append_left _ b⟩
structure Full (es:List Edge) (n:Nat) (D:Nat->Nat->Int):Prop where
 zero:∀j,j<n->D j j=0
 le:∀j v,j<n->v<n->D j v<=2199023255552
 hold:∀j i,j<n->i<es.length->D j ((grOf es).T i)<=D j ((grOf es).F i)+(grOf es).W i
 wk:∀j v,j<n->v<n->Wk (grOf es) j v (D j v)
theorem QjE{es:List Edge}{n:Nat}(h:SysOk n es)(s:BaseIn es n){l:List (List Int)}{D:Nat->Nat->Int}(f:FarOk es n l D):Full es n D:=by
 have le:∀j v,j<n->v<n->D j v<=2199023255552/\D j v≠bN:=by
  intro j v a g;have d:=f.d j a;have z:=d.zero;have k:D j 0<=1099511627776:=by
   rcases Nat.eq_zero_or_pos j with e|e
   .subst e;omega
   .obtain⟨i,b,m,p,r⟩:=Qek (s j e a).2;have:=d.hold i b;rw[m,p,r]at this;simp only[Int.toNat_natCast,Int.toNat_zero]at this;rcases this with q|q
    .rw[q]at z;exact absurd z (by decide)
    .omega
  rcases Nat.eq_zero_or_pos v with e|e
  .subst e;exact⟨by omega,λq=>by rw[q]at k;exact absurd k (by decide)⟩
  .obtain⟨i,b,m,p,r⟩:=Qek (s v e g).1;have:=d.hold i b;rw[m,p,r]at this;simp only[Int.toNat_natCast,Int.toNat_zero]at this;rcases this with q|q
   .rw[q]at k;exact absurd k (by decide)
   .exact⟨by omega,λt=>by rw[t]at q;exact absurd (Int.le_trans q (show D j 0+1099511627776<=2199023255552 by omega)) (by decide)⟩
 refine⟨λj a=>(f.d j a).zero,λj v a g=>(le j v a g).1,λj i a b=>?_,λj v a g=>?_⟩
 .rcases(f.d j a).hold i b with q|q
  .exact absurd q (le j _ a (gr_F h i)).2
  .exact q
 .rcases(f.d j a).wk v with q|q
  .exact absurd q (le j v a g).2
  .exact q
set_option maxRecDepth 10000
end Go.Sw
