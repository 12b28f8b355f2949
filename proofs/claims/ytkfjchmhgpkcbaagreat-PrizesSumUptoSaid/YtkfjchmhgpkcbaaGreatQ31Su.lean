/- The plain laws that a law needs, with no program in sight. -/
import Derived.Test.YtkfjchmhgpkcbaaGreatW31Su
set_option linter.unusedVariables false
set_option linter.unusedSimpArgs false
namespace Go.Sw
def inR(lo hi x:Int):Bool:=decide (lo<=x)&&decide (x<=hi)
theorem Qfx(lo a:Int)(l:List Int)(b:l.length<=4611686018427387904):Ev (λn=>F_a n lo a l) (l.all (inR lo a)):=by
 have h:Ev (λn=>F_cf n l lo a) (l.any λx=> !inR lo a x):=by
  unfold F_cf F_gs;refine Ev.contains l _ (λn x=>F_aq n x lo a) b λx _=>?_;unfold F_aq;refine Ea (v:= !inR lo a x) ?_ (Qa _);refine(Qi λh=>Qa _).eq ?_;unfold inR;rw[X6];simp
 unfold F_a;refine Ea h ((Qa _).eq ?_);rw[List.not_any_eq_all_not];simp
def okN(c:Nat):Bool:=(decide (97<=c)&&decide (c<=122))||(decide (48<=c)&&decide (c<=57))||decide (c=95)
def okAN(c:Nat):Bool:=decide (97<=c)&&decide (c<=122)
def okC(c:UInt8):Bool:=okN c.toNat
def okA(c:UInt8):Bool:=okAN c.toNat
def kwL:List (List UInt8):=[[99,111,117,114,115,101],[109,97,116,115],[115,116,97,114,116],[112,97,115,115],[101,110,100],[108,101,103],[116,111],[100,105,115,116,97,110,99,101],[103,117,110],[99,104,105,112],[115,108,111,116],[108,97,112,115],[108,97,112],[99,117,116,111,102,102],[101,120,116,114,97],[119,97,118,101],[111,102,102,101,110,99,101],[111,117,116],[99,97,116,101,103,111,114,121],[112,114,105,122,101],[97,108,108],[116,105,101,115],[105,102],[101,108,115,101],[97,110,100],[111,114],[110,111,116],[111,108,100,101,114],[121,111,117,110,103,101,114],[98,105,98],[100,114,97,119],[102,105,101,108,100],[115,104,111,114,116],[102,97,117,108,116,115],[109,105,115,115,101,115],[115,116,114,97,121,115],[119,105,110,100,111,119],[114,101,115,105,100,117,97,108],[100,114,105,102,116],[112,114,111,116,101,115,116],[102,101,101],[100,101,97,100,108,105,110,101]]
theorem Qmp(c d:Bool):(bif c then some c else some d)=some (c||d):=by cases c<;>rfl
def kwsOf:List UInt8->List (List UInt8)
 |[]=>[]
 |b::l=>(bif b==32&& !(l.dropWhile λc=>c != 32).isEmpty then[l.takeWhile λc=>c != 32]else[])++kwsOf l
theorem Qdh:∀(l s:List UInt8),(∀c∈s,c≠32)->(s++[32]).isPrefixOf l=((l.takeWhile λc=>c != 32)==s&& !(l.dropWhile λc=>c != 32).isEmpty)
 |[],s,h=>by cases s<;>simp
 |b::l,[],h=>by
  by_cases e:b=32
  .subst e;simp[List.isPrefixOf]
  .have e1:(b != 32)=true:=by simpa using e
   have j:(32==b)=false:=by simpa using λq=>e q.symm
   simp[List.isPrefixOf,List.takeWhile_cons,e1,j]
 |b::l,c::s,h=>by
  have a:=h c (by simp);have i:=Qdh l s λd f=>h d (by simp[f]);by_cases e:b=32
  .subst e;have:(c==32)=false:=by simpa using a
   simp[List.isPrefixOf,this]
  .have e1:(b != 32)=true:=by simpa using e
   simp only[List.cons_append,List.isPrefixOf,List.takeWhile_cons,List.dropWhile_cons,e1,if_true,i,List.cons_beq_cons];by_cases q:c=b
   .subst q;simp
   .have g:(c==b)=false:=by simpa using q
    have k:(b==c)=false:=by simpa using λz=>q z.symm
    simp[g,k]
theorem contains_cons(b:UInt8)(l t:List UInt8)(d:t≠[]):Lib.contains (b::l) t=(t.isPrefixOf (b::l)||Lib.contains l t):=by
 unfold Lib.contains;rw[show Lib.index (b::l) t=if t.isPrefixOf (b::l)then 0 else if Lib.index l t== -1 then-1 else Lib.index l t+1 from rfl];cases h:t.isPrefixOf (b::l)with
 |true=>simp
 |false=>
  have:=Lib.index_ge l t;by_cases q:Lib.index l t= -1
  .simp[q]
  .have a:(Lib.index l t== -1)=false:=by simpa using q
   simp only[a,Bool.false_or];rw[X6];simp;omega
theorem QbC(s:List UInt8)(h:∀c∈s,c≠32):∀l,Lib.contains l (32::(s++[32]))=(kwsOf l).contains s
 |[]=>by simp[Lib.contains,Lib.index,kwsOf]
 |b::l=>by
  rw[contains_cons b l _ (by simp),QbC s h l];simp only[kwsOf,List.isPrefixOf,Qdh l s h];by_cases e:b=32
  .subst e;cases q: !(l.dropWhile λc=>c != 32).isEmpty with
   |true=>
    simp only[q,beq_self_eq_true,Bool.true_and,Bool.and_true,cond_true,List.cons_append,Vp,List.contains_cons];congr 1;rw[X6];simp only[beq_iff_eq];exact⟨λh=>h.symm,λh=>h.symm⟩
   |false=>simp[q]
  .have e1:(b==32)=false:=by simpa using e
   have a:(32==b)=false:=by simpa using λq=>e q.symm
   simp[e1,a]
def wordsL:List UInt8:=[32,99,111,117,114,115,101,32,109,97,116,115,32,115,116,97,114,116,32,112,97,115,115,32,101,110,100,32,108,101,103,32,116,111,32,100,105,115,116,97,110,99,101,32,103,117,110,32,99,104,105,112,32,115,108,111,116,32,108,97,112,115,32,108,97,112,32,99,117,116,111,102,102,32,101,120,116,114,97,32,119,97,118,101,32,111,102,102,101,110,99,101,32,111,117,116,32,99,97,116,101,103,111,114,121,32,112,114,105,122,101,32,97,108,108,32,116,105,101,115,32,105,102,32,101,108,115,101,32,97,110,100,32,111,114,32,110,111,116,32,111,108,100,101,114,32,121,111,117,110,103,101,114,32,98,105,98,32,100,114,97,119,32,102,105,101,108,100,32,115,104,111,114,116,32,102,97,117,108,116,115,32,109,105,115,115,101,115,32,115,116,114,97,121,115,32,119,105,110,100,111,119,32,114,101,115,105,100,117,97,108,32,100,114,105,102,116,32,112,114,111,116,101,115,116,32,102,101,101,32,100,101,97,100,108,105,110,101,32]
theorem QoJ:kwsOf wordsL=kwL:=by decide+kernel
def classTab:List Int:=(List.range 256).map λi=>if 97<=i/\i<=122\/65<=i/\i<=90 then 2 else if 48<=i/\i<=57 then 3 else if i∈[123,125,40,41,91,93,59,44,61,60,62]then 4 else if i∈[32,9,10,13]then 1 else 0
theorem Qik:Ev F_dt classTab:=by
 unfold F_dt;refine Ea (Qa4 (step:=F_fj 0) 40 (b:=(iter (F_fj 0) 40 (List.replicate 256 0,97)).getD []) (by decide+kernel)) ?_;refine Ea (Qa4 (step:=F_ii 0) 40 (b:=(iter (F_ii 0) 40 ((iter (F_fj 0) 40 (List.replicate 256 0,97)).getD [],48)).getD []) (by decide+kernel)) ?_;generalize hb:(iter (F_ii 0) 40 ((iter (F_fj 0) 40 (List.replicate 256 0,97)).getD [],48)).getD []=b2;refine Ea (Qa4 (step:=F_kc 0) 40 (b:=(iter (F_kc 0) 40 (b2,0)).getD []) (by subst hb;decide+kernel)) ?_;refine Ea (Qa4 (step:=F_kl 0) 40 (b:=classTab) (by subst hb;decide+kernel)) ?_;exact Ez (by decide+kernel)
theorem Qki:((List.range 256).all λi=> !okN i||decide (classTab[i]?=some (if okAN i then 2 else if i=95 then 0 else 3)))=true:=by decide+kernel
theorem Qmo{c:UInt8}(h:okC c=true):Qb5 256 classTab (c.toNat:Int)=some (if okA c then 2 else if c.toNat=95 then 0 else 3):=by
 have a:=Xw.1 Qki c.toNat (List.mem_range.2 c.toNat_lt);unfold okC at h;rw[h]at a;simp only[Xh,Bool.false_or,decide_eq_true_eq]at a;unfold Qb5;rw[show Nat.beq classTab.length 256=true by decide+kernel,cond_true,Qq a];rfl
def goodS(s:List UInt8):Bool:=decide (1<=s.length)&&decide (s.length<=24)&&(s.head?).any okA&&s.all okC
def isNameS(s:List UInt8):Bool:=goodS s&& !kwL.contains s
theorem Qj3(s:List UInt8)(h:goodS s=true):Ev (λn=>F_cs n s) true:=by
 unfold goodS at h;simp only[X4,decide_eq_true_eq,Xw]at h;obtain⟨⟨⟨b,k⟩,j⟩,e⟩:=h;unfold F_cs;refine Ea Qik ?_;refine QaH (v:=List.replicate 256 0) (by decide+kernel) ?_;refine QaH (v:=classTab) (by decide+kernel) ?_;refine Ea (v:=Ctl.cont ()) (Ew (λi=>(i:Int)) s.length rfl (λi g=>?_) ?_) ?_
 .have a:=Jp (x:=s[i]) (by omega) (XR g);have f:=e _ a.mem;unfold F_kf;simp only[a.lt,cond_true,a.ix,XQ,Qmo f,a.nx];cases i with
  |zero=>
   have:okA s[0]=true:=by
    cases s with
    |nil=>simp at b
    |cons c r=>simpa using j
   simp[this];exact Qa _
  |succ i=>
   by_cases q:okA s[i+1]=true
   .simp[q];exact Qa _
   .by_cases d:s[i+1].toNat=95
    .simp[q,d];exact Qa _
    .simp[q,d];exact Qa _
 .unfold F_kf;simp only[YR,cond_false];exact Qa _
 .refine Ez ?_;cases s with
  |nil=>simp at b
  |cons c r=>rfl
theorem QjX{s:List UInt8}(h:goodS s=true):∀c∈s,c≠32:=by
 unfold goodS at h;simp only[X4,Xw]at h;rintro c a rfl;exact absurd (h.2 _ a) (by decide)
theorem QlO{s:List UInt8}(h:goodS s=true):s.length<=24:=by
 unfold goodS at h;simp only[X4,decide_eq_true_eq]at h;exact h.1.1.2
theorem Qin(s:List UInt8)(h:goodS s=true):Ev (λn=>F_cw n s) (kwL.contains s):=by
 unfold F_cw;refine Ea (v:=kwL.contains s) ?_ (Qa _);refine Ea (Qj3 s h) (QhV ?_);have a:=QlO h;refine QaH (v:=[32]++s) (by unfold cat;rw[XZ (by simp;omega)];rfl) ?_;refine QaH (v:=[32]++s++[32]) (by unfold cat;rw[XZ (by simp;omega)];rfl) ?_;refine QaH (v:=kwL.contains s) ?_ (Qa _);show Qep wordsL ([32]++s++[32])=some (kwL.contains s);unfold Qep;rw[show Nat.blt wordsL.length 4294967281=true by decide+kernel,cond_true];rw[show[32]++s++[32]=32::(s++[32])by simp,QbC s (QjX h),QoJ]
theorem ch_lt(c:UInt8)(k:Nat):decide ((c.toNat:Int)<(k:Int))=decide (c.toNat<k):=by
 rw[X6];simp
theorem badC(c:UInt8):(bif decide ((c.toNat:Int)<97)then(bif decide ((c.toNat:Int)<48)then some ((c.toNat:Int) != 95)else(bif decide (57<(c.toNat:Int))then some ((c.toNat:Int) != 95)else some false))else(bif decide (122<(c.toNat:Int))then(bif decide ((c.toNat:Int)<48)then some ((c.toNat:Int) != 95)else(bif decide (57<(c.toNat:Int))then some ((c.toNat:Int) != 95)else some false))else some false))=some (!okC c):=by
 unfold okC okN;generalize c.toNat=k;have e:((k:Int) != 95)= !decide (k=95):=by
  by_cases h:k=95
  .subst h;rfl
  .rw[decide_eq_false h];simp;omega
 rw[e];by_cases g:k<48
 .rw[Yh (show(k:Int)<97 by omega),Yh (show(k:Int)<48 by omega)];have a:¬97<=k:=by omega
  have f:¬48<=k:=by omega
  simp[a,f]
 .rw[Q4 (show¬(k:Int)<48 by omega)];by_cases b:k<=57
  .rw[Yh (show(k:Int)<97 by omega),Q4 (show¬57<(k:Int)by omega)];have a:48<=k:=by omega
   simp[a,b]
  .rw[Yh (show 57<(k:Int)by omega)];by_cases i:k<97
   .rw[Yh (show(k:Int)<97 by omega)];have a:¬97<=k:=by omega
    simp[a,b]
   .rw[Q4 (show¬(k:Int)<97 by omega)];by_cases d:k<=122
    .rw[Q4 (show¬122<(k:Int)by omega)];have a:97<=k:=by omega
     simp[a,d]
    .rw[Yh (show 122<(k:Int)by omega)];simp[b,d]
theorem QjR(n:Nat)(s:List UInt8):(bif decide ((s.length:Int)<1)then some true else(bif decide (24<(s.length:Int))then some true else(idx s 0).bind λx10=>(bif decide ((x10.toNat:Int)<97)then some true else(idx s 0).bind λx12=>some (decide (122<(x12.toNat:Int))))))=some (!(decide (1<=s.length)&&decide (s.length<=24)&&(s.head?).any okA)):=by
 cases s with
 |nil=>rfl
 |cons c r=>
  rw[Q4 (show¬((c::r).length:Int)<1 by simp;omega),cond_false];by_cases h:(c::r).length<=24
  .rw[Q4 (show¬24<((c::r).length:Int)by omega),cond_false];have d:idx (c::r) 0=some c:=rfl;simp only[d,XQ];simp only[X8]at h;have a:r.length<=23:=by omega
   simp only[List.head?_cons,Option.any_some,okA,okAN];rw[show(97:Int)=((97:Nat):Int)from rfl,ch_lt];by_cases b:c.toNat<97
   .have:¬97<=c.toNat:=by omega
    simp[b,this]
   .have e:97<=c.toNat:=by omega
    simp[b,e,a];by_cases q:c.toNat<=122
    .rw[Q4 (show¬122<(c.toNat:Int)by omega),Yh q];rfl
    .rw[Yh (show 122<(c.toNat:Int)by omega),Q4 q];rfl
  .rw[Yh (show 24<((c::r).length:Int)by omega),cond_true];simp only[X8]at h;have a:¬r.length<=23:=by omega
   simp[a]
theorem QfB(s:List UInt8)(g:s.length<=1048576):Ev (λn=>F_d n s) (isNameS s):=by
 unfold F_d;refine Ea (Ez (QjR 0 s)) ?_;unfold isNameS;cases d:(decide (1<=s.length)&&decide (s.length<=24)&&(s.head?).any okA)with
 |false=>
  simp only[Xi,cond_true];have:goodS s=false:=by unfold goodS;rw[d];rfl
  rw[this];exact Qa _
 |true=>
  simp only[Xh,cond_false];have f:goodS s=s.all okC:=by unfold goodS;rw[d];rfl
  refine Ea (QbG s (λc=> !okC c) (λi=>(i:Int)) (Ctl.done false) (Ctl.cont ()) (by omega) rfl (λi x a b=>?_) (λi x a b=>?_) ?_) ?_
  .unfold F_ij;simp only[a.lt,cond_true,a.ix,XQ,badC,b,cond_false,a.nx];exact Qa _
  .unfold F_ij;simp only[a.lt,cond_true,a.ix,XQ,badC,b];exact Qa _
  .unfold F_ij;simp only[YR,cond_false];exact Qa _
  .rw[f];have e:s.any (λc=> !okC c)= !s.all okC:=by rw[List.not_all_eq_any_not]
   rw[e];cases q:s.all okC with
   |true=>
    simp only[Xh,cond_false,Bool.true_and];exact Ea (Qin s (f.trans q)) (Qa _)
   |false=>
    simp only[Xi,cond_true,Bool.false_and];exact Qa _
def diffS:List (List UInt8)->List (List UInt8)->Bool
 |_,[]=>true
 |seen,x::r=>isNameS x&& !seen.contains x&&diffS (seen++[x]) r
theorem Qio(l:List (List UInt8))(i:Nat)(x:List UInt8)(h:At l i x):diffS (l.take i) (l.drop i)=(isNameS x&& !(l.take i).contains x&&diffS (l.take (i+1)) (l.drop (i+1))):=by
 rw[h.drop,h.take];rfl
theorem QbB{α:Type}(l:List α)(a:α->List UInt8)(g:Nat->α->Option Unit)(hg:∀n x,g n x=some ())(q:l.length<=1048576)(p:∀x∈l,(a x).length<=1048576):
  Ev (λn=>((iter (λs:(List (List UInt8×Bool))×Int=>bif decide (s.2<(l.length:Int))then(idx l s.2).bind λx35=>(g n x35).bind λr36=>((F_d n (a x35)).bind λr42=>(bif (!r42)then some true else(some (QF s.1 (a x35) false)).bind λv44=>some v44):Option Bool).bind λb40=>(bif b40 then some (.done (.done false))else(some (QW s.1 (a x35) true)).bind λm46=>some (.cont (m46,IntKind.i64.wrap (s.2+1))))else some (.done (.cont ()))) n ([],0):Option (Ctl Unit Bool)).bind λb28=>
   match b28 with
   |.cont _=>some true
   |.done s=>some s:Option Bool)) (diffS [] (l.map a)):=by
 have e:l.length<=4611686018427387904:=by omega
 have k:(l.map a).length<=4611686018427387904:=by simpa using e
 have j:=QgB (B:=Ctl Unit Bool) l (step:=λn s=>bif decide (s.2<(l.length:Int))then(idx l s.2).bind λx35=>(g n x35).bind λr36=>((F_d n (a x35)).bind λr42=>(bif (!r42)then some true else(some (QF s.1 (a x35) false)).bind λv44=>some v44):Option Bool).bind λb40=>(bif b40 then some (.done (.done false))else(some (QW s.1 (a x35) true)).bind λm46=>some (.cont (m46,IntKind.i64.wrap (s.2+1))))else some (.done (.cont ())))
  (s0:=(([]:List (List UInt8×Bool)),(0:Int))) (λi=>(Yd a true (l.take i),(i:Int))) (λi=>bif diffS ((l.map a).take i) ((l.map a).drop i)then .cont ()else .done false) e rfl (λi x d=>?_) ?_
 .refine Ea j ?_;simp only[List.take_zero,List.drop_zero];cases diffS [] (l.map a)<;>exact Qa _
 .have f:At (l.map a) i (a x):=Jp k (by rw[Xr,d.get];rfl);simp only[Qio _ _ _ f];have b:Ev (λn=>((F_d n (a x)).bind λr42=>(bif (!r42)then some true else(some (QF (Yd a true (l.take i)) (a x) false)).bind λv44=>some v44):Option Bool)) (!(isNameS (a x)&& !((l.map a).take i).contains (a x))):=by
   refine Ea (QfB (a x) (p x d.mem)) ?_;cases isNameS (a x)with
   |false=>exact Qa _
   |true=>
    refine Ym ((Qa _).eq ?_);rw[Qdj,List.map_take];by_cases h:a x∈(l.map a).take i
    .rw[if_pos h];simp[h]
    .rw[if_neg h];simp[h]
  cases m:(isNameS (a x)&& !((l.map a).take i).contains (a x))with
  |true=>
   rw[m]at b;refine .inl ⟨?_,by simp⟩;simp only[d.lt,cond_true,d.ix,XQ,hg];refine Ea b ?_;simp only[Xh,cond_false,XQ,d.nx];rw[d.take,Qf6];exact Qa _
  |false=>
   rw[m]at b;refine .inr ?_;simp only[d.lt,cond_true,d.ix,XQ,hg];refine Ea b ?_;simp only[Xi,cond_true,Bool.false_and,cond_false];exact Qa _
 .simp only[YR,cond_false];rw[show(l.map a).drop l.length=[]by apply List.drop_eq_nil_of_le;simp];exact Qa _
theorem Qbc{α:Type}{l:List α}{x:α}(h:l.length<=140737488):app l [x]=some (l++[x]):=QnD l x (by omega)
theorem QfC{α β:Type}(l:List α)(f:α->β)(j:l.length<=140737488):Ev (λn=>iter (λs:(List β)×Int=>bif decide (s.2<(l.length:Int))then(idx l s.2).bind λx15=>(app s.1 [f x15]).bind λl16=>some (Ctl.cont (l16,IntKind.i64.wrap (s.2+1)))else some (Ctl.done s.1)) n (([]:List β),(0:Int))) (l.map f):=by
 have e:∀l:List α,l.foldl (λ(a:List β) x=>a++[f x]) []=l.map f:=by
  intro l;have g:∀(l:List α) (a:List β),l.foldl (λ(a:List β) x=>a++[f x]) a=a++l.map f:=by
   intro l
   induction l with
   |nil=>intro a;simp
   |cons x l h=>intro a;rw[XK,h];simp
  simpa using g l []
 rw[<- e l];refine Qbh l (λ(a:List β) x=>a++[f x]) [] (λa i=>(a,(i:Int))) (λa=>a) (by omega) rfl (λi x a d b=>?_) ?_
 .rw[e]at b;have:a.length<=140737488:=by rw[b];simp;omega
  simp only[d.lt,cond_true,d.ix,XQ,Qbc this,d.nx];exact Qa _
 .simp only[YR,cond_false];exact Qa _
def namesS(c:Course):Bool:=isNameS c.Name&&(diffS [] (c.Mats.map (·.Name))&&(diffS [] (c.Distances.map (·.Name))&&(diffS [] (c.Waves.map (·.Name))&&(diffS [] (c.Offences.map (·.Name))&&diffS [] (c.Categories.map (·.Name))))))
structure CourseOk (c:Course):Prop where
 name:c.Name.length<=1048576
 mats:c.Mats.length<=1048576
 matsN:∀x∈c.Mats,x.Name.length<=1048576
 legs:c.Legs.length<=1048576
 dist:c.Distances.length<=1048576
 distN:∀x∈c.Distances,x.Name.length<=1048576
 cut:∀x∈c.Distances,x.Cutoffs.length<=1048576
 wave:c.Waves.length<=1048576
 waveN:∀x∈c.Waves,x.Name.length<=1048576
 off:c.Offences.length<=1048576
 offN:∀x∈c.Offences,x.Name.length<=1048576
 cat:c.Categories.length<=1048576
 catN:∀x∈c.Categories,x.Name.length<=1048576
 prize:c.Prizes.length<=1048576
theorem Ql7(c:Course)(w:CourseOk c):Ev (λn=>F_dv n c) (namesS c):=by
 unfold F_dv namesS;refine Ea (v:=_) ?_ (Qa _);refine Ea (QfB c.Name w.name) (Ei λ_=>?_);have e:Ev (λn=>F_cp n c.Mats) (diffS [] (c.Mats.map (·.Name))):=by unfold F_cp;exact QbB c.Mats (·.Name) F_fe (λ_ _=>rfl) w.mats w.matsN
 have d:Ev (λn=>F_bh n c.Distances) (diffS [] (c.Distances.map (·.Name))):=by unfold F_bh;exact QbB c.Distances (·.Name) F_gk (λ_ _=>rfl) w.dist w.distN
 have f:Ev (λn=>F_bp n c.Waves) (diffS [] (c.Waves.map (·.Name))):=by unfold F_bp;exact QbB c.Waves (·.Name) F_ek (λ_ _=>rfl) w.wave w.waveN
 have a:Ev (λn=>F_ct n c.Offences) (diffS [] (c.Offences.map (·.Name))):=by unfold F_ct;exact QbB c.Offences (·.Name) F_eh (λ_ _=>rfl) w.off w.offN
 have b:Ev (λn=>F_ee n c.Categories) (diffS [] (c.Categories.map (·.Name))):=by unfold F_ee;exact QbB c.Categories (·.Name) F_ex (λ_ _=>rfl) w.cat w.catN
 refine Ea e (Ei λ_=>?_);refine Ea d (Ei λ_=>?_);refine Ea f (Ei λ_=>?_);refine Ea a (Ei λ_=>?_);exact Ea b (Qa _)
theorem Qce{n:Nat}(h:n<=1048576):IntKind.i64.wrap ((n:Int)-1)=(n:Int)-1:=QO (by omega) (by omega)
mutual
def szP:Part->Nat
 |⟨_,_,ps⟩=>1+szPs ps
def szPs:List Part->Nat
 |[]=>0
 |p::r=>szP p+szPs r
end
theorem Qab(p:Part):szP p=1+szPs p.Parts:=by cases p;rfl
theorem QaQ{p:Part}:∀{l:List Part},p∈l->szP p<=szPs l
 |q::r,h=>by
  simp only[szPs];rcases Ve.1 h with rfl|h
  .omega
  .have:=QaQ h;omega
mutual
def partS(k:Int):Part->Bool
 |⟨m,laps,ps⟩=>bif laps==0 then inR 0 k m&&((ps.length:Int)==0)else inR 1 64 laps&&((m==0)&&(decide (0<(ps.length:Int))&&partsS k ps))
def partsS(k:Int):List Part->Bool
 |[]=>true
 |p::r=>partS k p&&partsS k r
end
theorem Qec(k:Int)(p:Part):partS k p=bif p.Laps==0 then inR 0 k p.Mat&&((p.Parts.length:Int)==0)else inR 1 64 p.Laps&&((p.Mat==0)&&(decide (0<(p.Parts.length:Int))&&partsS k p.Parts)):=by cases p;rfl
theorem QcY(k:Int):∀l:List Part,partsS k l=l.all (partS k)
 |[]=>rfl
 |p::r=>by simp only[partsS,List.all_cons,QcY k r]
theorem Y4{p:Part}(h:Part.wf p):p.Parts.length<=1048576/\ ∀x∈p.Parts,Part.wf x:=by
 cases p;simp only[Part.wf,QcK]at h;exact h.2.2.1
theorem QG(lo hi x:Int):Ev (λn=>F_a n lo hi [x]) (inR lo hi x):=(Qfx lo hi [x] (by simp)).eq (by simp)
theorem QaC(lo hi x y:Int):Ev (λn=>F_a n lo hi [x,y]) (inR lo hi x&&inR lo hi y):=(Qfx lo hi [x,y] (by simp)).eq (by simp)
theorem Ql4(k:Int):∀(m:Nat) (l:List Part),szPs l<=m->l.length<=1048576->(∀x∈l,Part.wf x)->Ev (λn=>F_f n l k) (partsS k l):=by
 intro m
 induction m with
 |zero=>
  intro l a e b;cases l with
  |nil=>
   refine Y0 ?_;show Ev (λn=>B_f (F_f n) n [] k) _;unfold B_f F_bo F_db;exact Y9 [] (partS k) (λn x=>F_at (F_f n) n x k) (by simp) (by simp)
  |cons p r=>
   exfalso;simp only[szPs,Qab]at a;omega
 |succ m h=>
  intro l a e b;refine Y0 ?_;show Ev (λn=>B_f (F_f n) n l k) _;unfold B_f F_bo F_db;rw[QcY];refine Y9 l (partS k) (λn x=>F_at (F_f n) n x k) (by omega) λp d=>?_;unfold F_at;rw[Qec];have g:=QaQ d;rw[Qab]at g;obtain⟨f,i⟩:=Y4 (b p d);refine YN (λ_=>?_) (λ_=>?_)
  .exact Ea (Ea (QG _ _ _) (Ei λ_=>Qa _)) (Qa _)
  .exact Ea (Ea (QG _ _ _) (Ei λ_=>Ei λ_=>Ei λ_=>Ea (h p.Parts (by omega) f i) (Qa _))) (Qa _)
def legS(k:Int)(l:Leg):Bool:=(inR 0 k l.From&&inR 0 k l.To)&&((inR 0 68719476736 l.Min&&inR 0 68719476736 l.Max)&&decide (l.Min<=l.Max))
def cutS(k:Int)(x:Cutoff):Bool:=inR 0 k x.Mat&&(decide (1<=x.Lap)&&inR 0 1099511627776 x.Limit)
def distS(k:Int)(d:Distance):Bool:=inR 1 3 d.Timing&&(inR (-1) k d.Extra&&(partsS k d.Route&&d.Cutoffs.all (cutS k)))
def offS(o:Offence):Bool:=bif o.Out then(o.Time==0)&&(o.Laps==0)else bif o.Laps != 0 then(o.Time==0)&&inR 1 64 o.Laps else inR 0 68719476736 o.Time
def catS(x:Category):Bool:=(inR 0 120 x.From&&inR 0 120 x.To)&&decide (x.From<=x.To)
def prizeS(c:Course)(p:Prize):Bool:=inR 0 ((c.Distances.length:Int)-1) p.Distance&&(inR (-1) ((c.Categories.length:Int)-1) p.Category&&(inR 1 4000 p.Rank&&inR 1 1125899906842624 p.Amount))
def lastS(c:Course):Bool:=(inR 0 16 c.Faults.Misses&&inR 0 16 c.Faults.Strays)&&((inR 0 4294967296 c.Faults.Window&&inR 0 4294967296 c.Faults.Residual)&&(inR 0 100000 c.Faults.Drift&&(inR 0 1125899906842624 c.Fee&&inR 0 1099511627776 c.Deadline)))
def legKey(l:Leg):typing_ends:={from_:=l.From,to_:=l.To}
def prizeKey(p:Prize):typing_place:={distance:=p.Distance,category:=p.Category,rank:=p.Rank}
def numbersS(c:Course):Bool:=
 let k:=(c.Mats.length:Int)-1
 c.Mats.all (λm=>inR 1 3 m.Kind)&&(c.Legs.all (legS k)&&(decide ((c.Legs.map legKey).Nodup)&&(c.Distances.all (distS k)&&(c.Waves.all (λw=>inR 0 1099511627776 w.Gun)&&(c.Offences.all offS&&(c.Categories.all catS&&(c.Prizes.all (prizeS c)&&(decide ((c.Prizes.map prizeKey).Nodup)&&lastS c))))))))
structure PartsOk (c:Course):Prop where
 len:∀d∈c.Distances,d.Route.length<=1048576
 wf:∀d∈c.Distances,∀x∈d.Route,Part.wf x
theorem Qgl(l:List Leg)(b:l.length<=1048576):Ev (λn=>F_be n l) (decide ((l.map legKey).Nodup)):=by
 unfold F_be;refine Ea (Qbi l legKey true (by omega) (λi x m a=>?_) (λm=>?_)) ((Qa _).eq ?_)
 .unfold F_ka F_gl;simp only[a.lt,cond_true,a.ix,XQ,a.nx];exact Qa _
 .unfold F_ka;simp only[YR,cond_false];exact Qa _
 .rw[X6];simp only[beq_iff_eq,decide_eq_true_eq];have:=QbR legKey true l;rw[<- this.2];omega
theorem QeC(l:List Prize)(b:l.length<=1048576):Ev (λn=>F_de n l) (decide ((l.map prizeKey).Nodup)):=by
 unfold F_de;refine Ea (Qbi l prizeKey true (by omega) (λi x m a=>?_) (λm=>?_)) ((Qa _).eq ?_)
 .unfold F_ke F_gn;simp only[a.lt,cond_true,a.ix,XQ,a.nx];exact Qa _
 .unfold F_ke;simp only[YR,cond_false];exact Qa _
 .rw[X6];simp only[beq_iff_eq,decide_eq_true_eq];have:=QbR prizeKey true l;rw[<- this.2];omega
theorem Qig(c:Course)(w:CourseOk c)(q:PartsOk c):Ev (λn=>F_du n c) (numbersS c):=by
 unfold F_du numbersS;rw[Qce w.mats];refine Ea (v:=_) ?_ (Qa _);have i:Ev (λn=>F_cz n c.Mats) (c.Mats.all λm=>inR 1 3 m.Kind):=by
  unfold F_cz F_hh F_ey;refine Y9 c.Mats _ (λn x=>F_dq n x) (by have:=w.mats;omega) λx a=>?_;unfold F_dq;exact Ea (QG _ _ _) (Qa _)
 have g:Ev (λn=>F_cb n c.Legs ((c.Mats.length:Int)-1)) (c.Legs.all (legS ((c.Mats.length:Int)-1))):=by
  unfold F_cb F_gx F_gf;refine Y9 c.Legs _ (λn x=>F_ed n x _) (by have:=w.legs;omega) λx a=>?_;unfold F_ed;exact Ea (Ea (QaC _ _ _ _) (Ei λ_=>Ea (QaC _ _ _ _) (Ei λ_=>Qa _))) (Qa _)
 have b:Ev (λn=>F_bw n c.Distances ((c.Mats.length:Int)-1)) (c.Distances.all (distS ((c.Mats.length:Int)-1))):=by
  unfold F_bw F_gz F_gr;refine Y9 c.Distances _ (λn x=>F_cl n x _) (by have:=w.dist;omega) λx a=>?_;unfold F_cl;have e:Ev (λn=>F_bz n x.Cutoffs ((c.Mats.length:Int)-1)) (x.Cutoffs.all (cutS ((c.Mats.length:Int)-1))):=by
   unfold F_bz F_eo F_fb;refine Y9 x.Cutoffs _ (λn x=>F_dn n x _) (by have:=w.cut x a;omega) λy k=>?_;unfold F_dn;exact Ea (Ea (QG _ _ _) (Ei λ_=>Ei λ_=>Ea (QG _ _ _) (Qa _))) (Qa _)
  exact Ea (Ea (QG _ _ _) (Ei λ_=>Ea (QG _ _ _) (Ei λ_=>Ea (Ql4 _ _ x.Route (X0 _) (q.len x a) (q.wf x a)) (Ei λ_=>Ea e (Qa _))))) (Qa _)
 have f:Ev (λn=>F_cr n c.Waves) (c.Waves.all λw=>inR 0 1099511627776 w.Gun):=by
  unfold F_cr F_go F_gq;refine Y9 c.Waves _ (λn x=>F_di n x) (by have:=w.wave;omega) λx a=>?_;unfold F_di;exact Ea (QG _ _ _) (Qa _)
 have j:Ev (λn=>F_bn n c.Offences) (c.Offences.all offS):=by
  unfold F_bn F_fl F_eg;refine Y9 c.Offences _ (λn x=>F_dg n x) (by have:=w.off;omega) λx a=>?_;unfold F_dg offS;refine YN (λ_=>Ea (Ei λ_=>Qa _) (Qa _)) λ_=>YN (λ_=>Ea (Ei λ_=>Ea (QG _ _ _) (Qa _)) (Qa _)) λ_=>Ea (QG _ _ _) (Qa _)
 have h:Ev (λn=>F_da n c.Categories) (c.Categories.all catS):=by
  unfold F_da F_fp F_fz;refine Y9 c.Categories _ (λn x=>F_cg n x) (by have:=w.cat;omega) λx a=>?_;unfold F_cg;exact Ea (Ea (QaC _ _ _ _) (Ei λ_=>Qa _)) (Qa _)
 have d:Ev (λn=>F_bs n c.Prizes c) (c.Prizes.all (prizeS c)):=by
  unfold F_bs F_gg F_gb;refine Y9 c.Prizes _ (λn x=>F_cn n x c) (by have:=w.prize;omega) λx a=>?_;unfold F_cn;rw[Qce w.dist,Qce w.cat];exact Ea (Ea (QG _ _ _) (Ei λ_=>Ea (QG _ _ _) (Ei λ_=>Ea (QG _ _ _) (Ei λ_=>Ea (QG _ _ _) (Qa _))))) (Qa _)
 refine Ea i (Ei λ_=>Ea g (Ei λ_=>Ea (Qgl _ w.legs) (Ei λ_=>Ea b (Ei λ_=>Ea f (Ei λ_=>Ea j (Ei λ_=>Ea h (Ei λ_=>Ea d (Ei λ_=>Ea (QeC _ w.prize) (Ei λ_=>?_)))))))));exact Ea (QaC _ _ _ _) (Ei λ_=>Ea (QaC _ _ _ _) (Ei λ_=>Ea (QG _ _ _) (Ei λ_=>Ea (QG _ _ _) (Ei λ_=>Ea (QG _ _ _) (Qa _)))))
theorem ends_eq{a b a' d:Int}:(({from_:=a,to_:=b}:typing_ends)={from_:=a',to_:=d})↔a=a'/\b=d:=by simp
theorem Yv{α B:Type}{step:Nat->Int->Option (Ctl Int B)}(l:List α)(ok:α->Bool)(a b:B)(j:l.length<=4611686018427387904)
  (g:∀i x,At l i x->Ev (λn=>step n (i:Int)) (bif ok x then .cont ((i+1:Nat):Int)else .done a))(k:Ev (λn=>step n (l.length:Int)) (.done b)):
  Ev (λn=>Go.Sw.iter (step n) n 0) (bif l.all ok then b else a):=by
 have e:(bif l.all ok then b else a)=bif l.any (λx=> !ok x)then a else b:=by
  rw[<- List.not_all_eq_any_not];cases l.all ok<;>rfl
 rw[e];refine QbG l (λx=> !ok x) (λi=>(i:Int)) a b j rfl (λi x d f=>?_) (λi x d f=>?_) k
 .have h:ok x=true:=by simpa using f
  have:=g i x d
  rwa [h]at this
 .have h:ok x=false:=by simpa using f
  have:=g i x d
  rwa [h]at this
mutual
def cN:Cond->Nat
 |⟨_,_,_,ps⟩=>1+cNs ps
def cNs:List Cond->Nat
 |[]=>0
 |c::r=>cN c+cNs r
end
theorem QfL(c:Cond):cN c=1+cNs c.Parts:=by cases c;rfl
mutual
def cD:Nat->Cond->Bool
 |d,⟨_,_,_,ps⟩=>cDs d ps
def cDs:Nat->List Cond->Bool
 |_,[]=>true
 |d,c::r=>decide (d<=16)&&(cD (d+1) c&&cDs d r)
end
theorem cD_eq(d:Nat)(c:Cond):cD d c=cDs d c.Parts:=by cases c;rfl
def zeroC(c:Cond):Bool:=(c.Kind==0)&&((c.Var==0)&&((c.N==0)&&((c.Parts.length:Int)==0)))
mutual
def sNp:Step->Nat
 |⟨_,_,_,t,e⟩=>1+sNs t+sNs e
def sNs:List Step->Nat
 |[]=>0
 |s::r=>sNp s+sNs r
end
theorem QiV(s:Step):sNp s=1+sNs s.Then+sNs s.Else:=by cases s;rfl
mutual
def sC:Step->Nat
 |⟨_,_,c,t,e⟩=>(bif zeroC c then 0 else cN c)+sCs t+sCs e
def sCs:List Step->Nat
 |[]=>0
 |s::r=>sC s+sCs r
end
theorem QiW(s:Step):sC s=(bif zeroC s.Cond then 0 else cN s.Cond)+sCs s.Then+sCs s.Else:=by cases s;rfl
mutual
def sDp:Nat->Step->Bool
 |d,⟨_,_,c,t,e⟩=>(zeroC c||cD 1 c)&&(sDs d t&&sDs d e)
def sDs:Nat->List Step->Bool
 |_,[]=>true
 |d,s::r=>decide (d<=16)&&(sDp (d+1) s&&sDs d r)
end
theorem QnU(d:Nat)(s:Step):sDp d s=((zeroC s.Cond||cD 1 s.Cond)&&(sDs d s.Then&&sDs d s.Else)):=by cases s;rfl
mutual
def sZ:Step->Nat
 |⟨_,_,c,t,e⟩=>2+cN c+sZs t+sZs e
def sZs:List Step->Nat
 |[]=>0
 |s::r=>sZ s+sZs r
end
theorem QiU(s:Step):sZ s=2+cN s.Cond+sZs s.Then+sZs s.Else:=by cases s;rfl
def fS:typing_form->Nat
 |.ctyping_step x=>sNp x.Step
 |.ctyping_cond _=>0
def fC:typing_form->Nat
 |.ctyping_step x=>sC x.Step
 |.ctyping_cond x=>cN x.Cond
def fD(d:Nat):typing_form->Bool
 |.ctyping_step x=>sDp d x.Step
 |.ctyping_cond x=>cD d x.Cond
def fZ:typing_form->Nat
 |.ctyping_step x=>sZ x.Step
 |.ctyping_cond x=>cN x.Cond
def fSs(l:List typing_form):Nat:=(l.map fS).sum
def fCs(l:List typing_form):Nat:=(l.map fC).sum
def fZs(l:List typing_form):Nat:=(l.map fZ).sum
def fwf:typing_form->Prop
 |.ctyping_step x=>Step.wf x.Step
 |.ctyping_cond x=>Cond.wf x.Cond
def ofStep(s:Step):typing_form:=.ctyping_step {Step:=s}
def ofCond(c:Cond):typing_form:=.ctyping_cond {Cond:=c}
theorem QaX:∀l:List Step,fSs (l.map ofStep)=sNs l
 |[]=>rfl
 |s::r=>by
  have:=QaX r;simp only[fSs,Vr,List.sum_cons]at this⊢;rw[this];rfl
theorem QaY:∀l:List Step,fCs (l.map ofStep)=sCs l
 |[]=>rfl
 |s::r=>by
  have:=QaY r;simp only[fCs,Vr,List.sum_cons]at this⊢;rw[this];rfl
theorem QbA:∀l:List Step,fZs (l.map ofStep)=sZs l
 |[]=>rfl
 |s::r=>by
  have:=QbA r;simp only[fZs,Vr,List.sum_cons]at this⊢;rw[this];rfl
theorem Qex:∀l:List Cond,fSs (l.map ofCond)=0
 |[]=>rfl
 |s::r=>by
  have:=Qex r;simp only[fSs,Vr,List.sum_cons]at this⊢;rw[this];rfl
theorem Qez:∀l:List Cond,fCs (l.map ofCond)=cNs l
 |[]=>rfl
 |s::r=>by
  have:=Qez r;simp only[fCs,Vr,List.sum_cons]at this⊢;rw[this];rfl
theorem Qev:∀l:List Cond,fZs (l.map ofCond)=cNs l
 |[]=>rfl
 |s::r=>by
  have:=Qev r;simp only[fZs,Vr,List.sum_cons]at this⊢;rw[this];rfl
theorem Qcw(d:Nat):∀l:List Step,sDs d l=((l.map ofStep).isEmpty||(decide (d<=16)&&(l.map ofStep).all (fD (d+1))))
 |[]=>rfl
 |s::r=>by
  rw[sDs,Qcw d r];simp only[Vr,List.isEmpty_cons,Bool.false_or,List.all_cons];rw[show fD (d+1) (ofStep s)=sDp (d+1) s from rfl];cases r with
  |nil=>simp
  |cons x r=>
   simp only[Vr,List.isEmpty_cons,Bool.false_or,List.all_cons];cases decide (d<=16)<;>simp
theorem Qhk(d:Nat):∀l:List Cond,cDs d l=((l.map ofCond).isEmpty||(decide (d<=16)&&(l.map ofCond).all (fD (d+1))))
 |[]=>rfl
 |s::r=>by
  rw[cDs,Qhk d r];simp only[Vr,List.isEmpty_cons,Bool.false_or,List.all_cons];rw[show fD (d+1) (ofCond s)=cD (d+1) s from rfl];cases r with
  |nil=>simp
  |cons x r=>
   simp only[Vr,List.isEmpty_cons,Bool.false_or,List.all_cons];cases decide (d<=16)<;>simp
theorem Qah{c:Cond}(h:Cond.wf c):c.Parts.length<=1048576/\ ∀x∈c.Parts,Cond.wf x:=by
 cases c;simp only[Cond.wf,QcQ]at h;exact h.2.2.2.1
theorem Qag{s:Step}(h:Step.wf s):Cond.wf s.Cond/\(s.Then.length<=1048576/\ ∀x∈s.Then,Step.wf x)/\(s.Else.length<=1048576/\ ∀x∈s.Else,Step.wf x):=by
 cases s;simp only[Step.wf,QcD]at h;exact⟨h.2.2.1,h.2.2.2.1,h.2.2.2.2.1⟩
theorem QfA(n:Nat)(c:Cond):F_v n {Cond:=c}=some (zeroC c):=by
 unfold F_v zeroC;cases(c.Kind==0)<;>cases(c.Var==0)<;>cases(c.N==0)<;>rfl
theorem QeA(l:List Step)(a:l.length<=140737488):Ev (λn=>F_s n l) (l.map ofStep):=by
 unfold F_s;exact Ea (QfC l ofStep a) (Qa _)
theorem Qmb(l:List Cond)(a:l.length<=140737488):Ev (λn=>F_df n l) (l.map ofCond):=by
 unfold F_df;exact Ea (QfC l ofCond a) (Qa _)
def stepParts(s:Step):List typing_form:=s.Then.map ofStep++s.Else.map ofStep
theorem Qba(s:Step)(h:Step.wf s):Ev (λn=>F_o n {Step:=s}) (stepParts s):=by
 obtain⟨_,⟨b,_⟩,⟨a,_⟩⟩:=Qag h;unfold F_o stepParts;refine Ea (QeA s.Then (by omega)) (Ea (QeA s.Else (by omega)) (QaH (QhH _ _ (by simp;omega)) (Qa _)))
theorem Qcy(c:Cond)(h:Cond.wf c):Ev (λn=>F_m n {Cond:=c}) (c.Parts.map ofCond):=by
 obtain⟨a,_⟩:=Qah h;unfold F_m;exact Ea (Qmb c.Parts (by omega)) (Qa _)
def okL(l:List typing_form)(d:Nat)(st co:Int):Bool:=l.isEmpty||(decide (d<=16)&&(l.all (fD (d+1))&&(decide (st+fSs l<=64)&&decide (co+fCs l<=256))))
def okR(l:List typing_form)(d:Nat)(st co:Int):Bool:=l.isEmpty||(l.all (fD (d+1))&&(decide (st+fSs l<=64)&&decide (co+fCs l<=256)))
def okF(f:typing_form)(d:Nat)(st co:Int):Bool:=fD (d+1) f&&(decide (st+fS f<=64)&&decide (co+fC f<=256))
theorem Qhj(f:typing_form)(l:List typing_form):fSs (f::l)=fS f+fSs l:=rfl
theorem Qhl(f:typing_form)(l:List typing_form):fCs (f::l)=fC f+fCs l:=rfl
theorem Qhi(f:typing_form)(l:List typing_form):fZs (f::l)=fZ f+fZs l:=rfl
theorem Qew(l m:List typing_form):fSs (l++m)=fSs l+fSs m:=by simp[fSs]
theorem Qey(l m:List typing_form):fCs (l++m)=fCs l+fCs m:=by simp[fCs]
theorem Qeu(l m:List typing_form):fZs (l++m)=fZs l+fZs m:=by simp[fZs]
theorem QlA(f:typing_form)(r:List typing_form)(d:Nat)(e a:Int):okR (f::r) d e a=(okF f d e a&&okR r d (e+fS f) (a+fC f)):=by
 unfold okR okF;rw[Qhj,Qhl];cases r with
 |nil=>simp[fSs,fCs]
 |cons g r=>
  rw[X6];simp only[List.isEmpty_cons,Bool.false_or,List.all_cons,X4,decide_eq_true_eq];rw[show((fS f+fSs (g::r):Nat):Int)=(fS f:Int)+(fSs (g::r):Int)by omega,show((fC f+fCs (g::r):Nat):Int)=(fC f:Int)+(fCs (g::r):Int)by omega];constructor
  .rintro⟨⟨h,b⟩,j,i⟩;exact⟨⟨h,by omega,by omega⟩,b,by omega,by omega⟩
  .rintro⟨⟨h,_,_⟩,b,j,i⟩;exact⟨⟨h,b⟩,by omega,by omega⟩
theorem Qf4(l:List typing_form)(d:Nat)(h g:Int)(j:h<=64)(i:g<=256):okL l d h g=true↔(l.isEmpty||(decide (d<=16)&&l.all (fD (d+1))))=true/\h+fSs l<=64/\g+fCs l<=256:=by
 unfold okL;cases l with
 |nil=>simp[fSs,fCs,j,i]
 |cons f r=>
  simp only[List.isEmpty_cons,Bool.false_or,X4,decide_eq_true_eq];constructor
  .rintro⟨a,b,c,e⟩;exact⟨⟨a,b⟩,c,e⟩
  .rintro⟨⟨a,b⟩,c,e⟩;exact⟨a,b,c,e⟩
theorem QdV(s:Step)(d:Nat):((stepParts s).isEmpty||(decide (d<=16)&&(stepParts s).all (fD (d+1))))=(sDs d s.Then&&sDs d s.Else):=by
 rw[Qcw,Qcw];unfold stepParts;rw[List.all_append];cases b:s.Then<;>cases a:s.Else<;>simp<;>(cases decide (d<=16)<;>simp)
def Cnt(R:Nat->List typing_form->Int->typing_count->Option (typing_count×Bool))(l:List typing_form)(d:Nat)(st co:Int):Prop:=
 ∃c':typing_count,Ev (λn=>R n l (d:Int) {steps:=st,conds:=co}) (c',okL l d st co)/\(okL l d st co=true->c'={steps:=st+fSs l,conds:=co+fCs l})
theorem Qip{R:Nat->List typing_form->Int->typing_count->Option (typing_count×Bool)}{l:List typing_form}{d:Nat}(hd:d<=16){i:Nat}{f:typing_form}(L:At l i f)(hw:fwf f)
  (T:∀l' d' a e,fZs l'<fZ f->l'.length<=2097152->(∀f∈l',fwf f)->d'<=17->0<=a->a<=66->(a<=65\/ ∀f∈l',∃c,f=ofCond c)->0<=e->e<=256->Cnt R l' d' a e){a e:Int}(h0:0<=a)(ab:a<=66)(G:a<=65\/ ∃c,f=ofCond c)(h2:0<=e)(h3:e<=256):
  ∃c':typing_count,Ev (λn=>F_fc n l (d:Int) (R n) ({steps:=a,conds:=e},(i:Int))) (bif okF f d a e then .cont (c',((i+1:Nat):Int))else .done (.done (c',false)))/\(okF f d a e=true->c'={steps:=a+fS f,conds:=e+fC f}):=by
 unfold F_fc;simp only[L.lt,cond_true,L.ix,XQ,L.nx];have ed:IntKind.i64.wrap ((d:Int)+1)=((d+1:Nat):Int):=Qay (by omega);cases f with
 |ctyping_step x=>
  obtain⟨s⟩:=x;have h1:a<=65:=by
   rcases G with h|⟨c,h⟩
   .exact h
   .cases h
  have k:Step.wf s:=hw;obtain⟨wc,⟨ae,P⟩,⟨ad,Y⟩⟩:=Qag k;have Q:IntKind.i64.wrap (a+1)=a+1:=QO (by omega) (by omega);simp only[typing_form.elim,QfA,XQ,Q];have hc:∃t:typing_count,Ev (λn=>((bif (!zeroC s.Cond)then(R n [typing_form.ctyping_cond {Cond:=s.Cond}] 0 {steps:=a+1,conds:=e}).bind λm=>some (m.1,(!m.2))else some ({steps:=a+1,conds:=e},false)):Option (typing_count×Bool))) (t, !(zeroC s.Cond||(cD 1 s.Cond&&(decide (a+1<=64)&&decide (e+cN s.Cond<=256)))))/\
    ((zeroC s.Cond||(cD 1 s.Cond&&(decide (a+1<=64)&&decide (e+cN s.Cond<=256))))=true->t={steps:=a+1,conds:=e+((bif zeroC s.Cond then 0 else cN s.Cond:Nat):Int)}):=by
   cases z:zeroC s.Cond with
   |true=>
    refine⟨{steps:=a+1,conds:=e},?_,λ_=>?_⟩
    .exact Qa _
    .simp
   |false=>
    obtain⟨t,p,H⟩:=T [ofCond s.Cond] 0 (a+1) e (by simp only[fZs,Vr,Vs,List.sum_cons,List.sum_nil];show cN s.Cond+0<sZ s;rw[QiU];omega) (by simp) (by intro g j;simp only[List.mem_singleton]at j;subst j;exact wc) (by omega) (by omega) (by omega) (.inr (by intro g j;simp only[List.mem_singleton]at j;exact⟨_,j⟩)) h2 h3;have ek:okL [ofCond s.Cond] 0 (a+1) e=(cD 1 s.Cond&&(decide (a+1<=64)&&decide (e+cN s.Cond<=256))):=by
     unfold okL;simp only[List.isEmpty_cons,Bool.false_or,List.all_cons,List.all_nil,Bool.and_true,fSs,fCs,Vr,Vs,List.sum_cons,List.sum_nil];rw[show fD (0+1) (ofCond s.Cond)=cD 1 s.Cond from rfl,show fS (ofCond s.Cond)=0 from rfl,show fC (ofCond s.Cond)=cN s.Cond from rfl];simp
    rw[ek]at p H;refine⟨t,Ea p (Qa _),λh=>?_⟩;rw[H h];simp[fSs,fCs,show fS (ofCond s.Cond)=0 from rfl,show fC (ofCond s.Cond)=cN s.Cond from rfl]
  obtain⟨t,p,H⟩:=hc;generalize hb:(zeroC s.Cond||(cD 1 s.Cond&&(decide (a+1<=64)&&decide (e+cN s.Cond<=256))))=b at p H;have W:okF (typing_form.ctyping_step {Step:=s}) d a e=(sDp (d+1) s&&(decide (a+sNp s<=64)&&decide (e+sC s<=256))):=rfl;rw[W];cases b with
  |false=>
   have:(sDp (d+1) s&&(decide (a+sNp s<=64)&&decide (e+sC s<=256)))=false:=by
    rw[Bool.eq_false_iff];intro hh;simp only[X4,decide_eq_true_eq,QnU,QiV,QiW]at hh;obtain⟨⟨M,_⟩,z2,z3⟩:=hh;cases z:zeroC s.Cond with
    |true=>rw[z]at hb;cases hb
    |false=>
     rw[z]at hb M z3;simp only[Bool.false_or]at hb M;rw[M]at hb;simp only[cond_false]at z3;rw[Yh (show a+1<=64 by omega),Yh (show e+(cN s.Cond:Int)<=256 by omega)]at hb;cases hb
   rw[this];exact⟨t,Ea p (Qa _),λh=>by cases h⟩
  |true=>
   obtain rfl:=H rfl;by_cases r:64<a+1
   .have:(sDp (d+1) s&&(decide (a+sNp s<=64)&&decide (e+sC s<=256)))=false:=by
     rw[Q4 (show¬a+(sNp s:Int)<=64 by rw[QiV];omega)];simp
    rw[this];refine⟨{steps:=a+1,conds:=e+((bif zeroC s.Cond then 0 else cN s.Cond:Nat):Int)},Ea p ?_,λh=>by cases h⟩;simp only[Xh,cond_false];refine Ea (v:=(_,true)) ?_ (Qa _);rw[Yh r];exact Qa _
   by_cases F:256<e+((bif zeroC s.Cond then 0 else cN s.Cond:Nat):Int)
   .have:(sDp (d+1) s&&(decide (a+sNp s<=64)&&decide (e+sC s<=256)))=false:=by
     rw[Q4 (show¬e+(sC s:Int)<=256 by rw[QiW];omega)];simp
    rw[this];refine⟨{steps:=a+1,conds:=e+((bif zeroC s.Cond then 0 else cN s.Cond:Nat):Int)},Ea p ?_,λh=>by cases h⟩;simp only[Xh,cond_false];refine Ea (v:=(_,true)) ?_ (Qa _);rw[Q4 r,Yh F];exact Qa _
   obtain⟨u,w,B⟩:=T (stepParts s) (d+1) (a+1) (e+((bif zeroC s.Cond then 0 else cN s.Cond:Nat):Int)) (by
     unfold stepParts;rw[Qeu,QbA,QbA];show _<sZ s;rw[QiU];omega) (by unfold stepParts;simp;omega) (by
     intro g j;unfold stepParts at j;rcases List.mem_append.1 j with j|j
     .obtain⟨y,E,rfl⟩:=Xf.1 j;exact P y E
     .obtain⟨y,E,rfl⟩:=Xf.1 j;exact Y y E) (by omega) (by omega) (by omega) (.inl (by omega)) (by omega) (by omega)
   have N:okL (stepParts s) (d+1) (a+1) (e+((bif zeroC s.Cond then 0 else cN s.Cond:Nat):Int))=(sDp (d+1) s&&(decide (a+sNp s<=64)&&decide (e+sC s<=256))):=by
    rw[X6,Qf4 _ _ _ _ (by omega) (by omega),QdV];simp only[X4,decide_eq_true_eq,QnU,QiV,QiW];have e2:fSs (stepParts s)=sNs s.Then+sNs s.Else:=by unfold stepParts;rw[Qew,QaX,QaX]
    have O:fCs (stepParts s)=sCs s.Then+sCs s.Else:=by unfold stepParts;rw[Qey,QaY,QaY]
    rw[e2,O];have aa:(zeroC s.Cond||cD 1 s.Cond)=true:=by
     cases z:zeroC s.Cond with
     |true=>rfl
     |false=>
      rw[z]at hb;simp only[Bool.false_or,X4]at hb;rw[hb.1];rfl
    constructor
    .rintro⟨q,X,V⟩;exact⟨⟨aa,q⟩,by omega,by omega⟩
    .rintro⟨⟨_,q⟩,X,V⟩;exact⟨q,by omega,by omega⟩
   rw[N]at w B;refine⟨u,Ea p ?_,λh=>?_⟩
   .simp only[Xh,cond_false];refine Ea (v:=(u, !(sDp (d+1) s&&(decide (a+sNp s<=64)&&decide (e+sC s<=256))))) ?_ ?_
    .rw[Q4 r,Q4 F,ed];exact Ea (Qba s k) (Ea w (Qa _))
    .cases(sDp (d+1) s&&(decide (a+sNp s<=64)&&decide (e+sC s<=256)))<;>exact Qa _
   .rw[B h];have e2:fSs (stepParts s)=sNs s.Then+sNs s.Else:=by unfold stepParts;rw[Qew,QaX,QaX]
    have O:fCs (stepParts s)=sCs s.Then+sCs s.Else:=by unfold stepParts;rw[Qey,QaY,QaY]
    rw[e2,O,show fS (typing_form.ctyping_step {Step:=s})=sNp s from rfl,show fC (typing_form.ctyping_step {Step:=s})=sC s from rfl,QiV,QiW];congr 1<;>omega
 |ctyping_cond x=>
  obtain⟨c⟩:=x;have k:Cond.wf c:=hw;obtain⟨ac,J⟩:=Qah k;have Q:IntKind.i64.wrap (e+1)=e+1:=QO (by omega) (by omega);simp only[typing_form.elim,Q];have W:okF (typing_form.ctyping_cond {Cond:=c}) d a e=(cD (d+1) c&&(decide (a<=64)&&decide (e+cN c<=256))):=by
   show(cD (d+1) c&&(decide (a+((0:Nat):Int)<=64)&&decide (e+cN c<=256)))=_;rw[show a+((0:Nat):Int)=a by omega]
  rw[W];by_cases r:64<a
  .have:(cD (d+1) c&&(decide (a<=64)&&decide (e+cN c<=256)))=false:=by
    rw[Q4 (show¬a<=64 by omega)];simp
   rw[this];refine⟨{steps:=a,conds:=e+1},?_,λh=>by cases h⟩;refine Ea (v:=(_,true)) ?_ (Qa _);rw[Yh r];exact Qa _
  by_cases F:256<e+1
  .have:(cD (d+1) c&&(decide (a<=64)&&decide (e+cN c<=256)))=false:=by
    rw[Q4 (show¬e+(cN c:Int)<=256 by rw[QfL];omega)];simp
   rw[this];refine⟨{steps:=a,conds:=e+1},?_,λh=>by cases h⟩;refine Ea (v:=(_,true)) ?_ (Qa _);rw[Q4 r,Yh F];exact Qa _
  obtain⟨u,w,B⟩:=T (c.Parts.map ofCond) (d+1) a (e+1) (by
    rw[Qev];show _<cN c;rw[QfL];omega) (by simp;omega) (by
    intro g j;obtain⟨y,E,rfl⟩:=Xf.1 j;exact J y E) (by omega) (by omega) (by omega) (.inl (by omega)) (by omega) (by omega)
  have N:okL (c.Parts.map ofCond) (d+1) a (e+1)=(cD (d+1) c&&(decide (a<=64)&&decide (e+cN c<=256))):=by
   rw[X6,Qf4 _ _ _ _ (by omega) (by omega), <- Qhk,Qex,Qez];simp only[X4,decide_eq_true_eq,cD_eq,QfL];constructor
   .rintro⟨q,X,V⟩;exact⟨q,by omega,by omega⟩
   .rintro⟨q,X,V⟩;exact⟨q,by omega,by omega⟩
  rw[N]at w B;refine⟨u,?_,λh=>?_⟩
  .refine Ea (v:=(u, !(cD (d+1) c&&(decide (a<=64)&&decide (e+cN c<=256))))) ?_ ?_
   .rw[Q4 r,Q4 F,ed];exact Ea (Qcy c k) (Ea w (Qa _))
   .cases(cD (d+1) c&&(decide (a<=64)&&decide (e+cN c<=256)))<;>exact Qa _
  .rw[B h,Qex,Qez,show fS (typing_form.ctyping_cond {Cond:=c})=0 from rfl,show fC (typing_form.ctyping_cond {Cond:=c})=cN c from rfl,QfL];congr 1;omega
theorem Qma:∀(m:Nat) (l:List typing_form) (d:Nat) (a b:Int),fZs l<=m->l.length<=2097152->(∀f∈l,fwf f)->d<=17->0<=a->a<=66->(a<=65\/ ∀f∈l,∃c,f=ofCond c)->0<=b->b<=256->Cnt F_c l d a b:=by
 intro m
 induction m using Nat.strongRecOn with
 |_ m y=>
 intro l d a b hm hl O hd Q h1 B P T;unfold Cnt;have u:∀c:typing_count,(∃e:typing_count,Ev (λn=>B_c (F_c n) n l (d:Int) c) (e,okL l d a b)/\(okL l d a b=true->e={steps:=a+fSs l,conds:=b+fCs l}))->∃e:typing_count,Ev (λn=>F_c n l (d:Int) c) (e,okL l d a b)/\(okL l d a b=true->e={steps:=a+fSs l,conds:=b+fCs l}):=by
  rintro c ⟨e,Y,q2⟩;exact⟨e,Y0 Y,q2⟩
 refine u _ ?_;unfold B_c;cases j:l with
 |nil=>
  refine⟨{steps:=a,conds:=b},?_,λ_=>by simp[fSs,fCs]⟩;refine Ea (v:=false) (Qa _) (Ym ?_);refine Ea (v:=Ctl.cont {steps:=a,conds:=b}) (EvI.ev (Ej ?_)) (Qa _);exact Qa _
 |cons f0 r0=>
 rw[<- j];have F:l.isEmpty=false:=by rw[j];rfl
 have L:0<l.length:=by rw[j];simp
 by_cases g:d<=16
 rotate_left
 .have:okL l d a b=false:=by unfold okL;rw[F,Q4 g];rfl
  rw[this];refine⟨{steps:=a,conds:=b},?_,λh=>by cases h⟩;rw[Yh (show(0:Int)<(l.length:Int)by omega),Yh (show(16:Int)<(d:Int)by omega)];exact Ea (Qa _) (Qa _)
 have G:okL l d a b=okR l d a b:=by unfold okL okR;rw[Yh g,Bool.true_and]
 rw[G];have loop:∀(r:List typing_form) (i:Nat) (a b:Int),l.drop i=r->i<=l.length->0<=a->a<=66->(a<=65\/ ∀f∈l,∃c,f=ofCond c)->0<=b->b<=256->
   ∃e:typing_count,EvI (λn=>F_fc n l (d:Int) (F_c n)) ({steps:=a,conds:=b},(i:Int)) (bif okR r d a b then Ctl.cont e else Ctl.done (e,false))/\(okR r d a b=true->e={steps:=a+fSs r,conds:=b+fCs r}):=by
  intro r
  induction r with
  |nil=>
   intro i a b E J _ _ _ _ _;refine⟨{steps:=a,conds:=b},Ej ?_,λ_=>by simp[fSs,fCs]⟩;unfold F_fc;simp only[YG E J,cond_false];exact Qa _
  |cons f r z=>
   intro i a b E J g0 g1 w g2 g3;obtain⟨q,H⟩:=QT (by omega) E;have aa:fZ f<=fZs l:=by
    have:∀(l:List typing_form),f∈l->fZ f<=fZs l:=by
     intro l
     induction l with
     |nil=>intro h;cases h
     |cons x l y=>
      intro h;rw[Qhi];rcases Ve.1 h with rfl|h
      .omega
      .have:=y h;omega
    exact this l q.mem
   obtain⟨e,p,s⟩:=Qip (R:=F_c) g q (O f q.mem) (λM d' a b k1 N k3 k4 k5 k6 t X k8=>y (fZs M) (by omega) M d' a b (X0 _) N k3 k4 k5 k6 t X k8) g0 g1 (w.imp id λh=>h f q.mem) g2 g3;rw[QlA];cases k:okF f d a b with
   |false=>
    rw[k]at p;exact⟨e,Ej p,λh=>by cases h⟩
   |true=>
    rw[k]at p;obtain rfl:=s k;have hb:a+fS f<=64/\b+fC f<=256:=by
     unfold okF at k;simp only[X4,decide_eq_true_eq]at k;exact k.2
    obtain⟨W,V,u2⟩:=z (i+1) (a+fS f) (b+fC f) H (by have:=q.lt';omega) (by omega) (by omega) (.inl (by omega)) (by omega) (by omega);refine⟨W,Eu p V,λh=>?_⟩;rw[u2 (by simpa using h),Qhj,Qhl];congr 1<;>omega
 obtain⟨e,p,s⟩:=loop l 0 a b rfl (X2 _) Q h1 B P T;refine⟨e,?_,s⟩;refine Ea (v:=false) ?_ (Ym (Ea p.ev ?_))
 .rw[Yh (show(0:Int)<(l.length:Int)by omega),Q4 (show¬(16:Int)<(d:Int)by omega)];exact Qa _
 .cases okR l d a b<;>exact Qa _
mutual
def vaC:Cond->Bool
 |⟨k,v,n,ps⟩=>bif k==1 then inR 1 3 v&&(inR 0 10000 n&&((ps.length:Int)==0))else
   bif k==4 then((v==0)&&(n==0))&&(((ps.length:Int)==1)&&vaCs ps)else
   bif (k==2)||(k==3)then((v==0)&&(n==0))&&((decide (0<(ps.length:Int))&&decide ((ps.length:Int)<=16))&&vaCs ps)else false
def vaCs:List Cond->Bool
 |[]=>true
 |c::r=>vaC c&&vaCs r
end
theorem Qoe(c:Cond):vaC c=bif c.Kind==1 then inR 1 3 c.Var&&(inR 0 10000 c.N&&((c.Parts.length:Int)==0))else
   bif c.Kind==4 then((c.Var==0)&&(c.N==0))&&(((c.Parts.length:Int)==1)&&vaCs c.Parts)else
   bif (c.Kind==2)||(c.Kind==3)then((c.Var==0)&&(c.N==0))&&((decide (0<(c.Parts.length:Int))&&decide ((c.Parts.length:Int)<=16))&&vaCs c.Parts)else false:=by cases c;rfl
theorem QiM:∀l:List Cond,vaCs l=l.all vaC
 |[]=>rfl
 |c::r=>by rw[vaCs,List.all_cons,QiM r]
mutual
def vaS:Step->Bool
 |⟨k,b,c,t,e⟩=>bif k==1 then inR 1 5 b&&(zeroC c&&(((t.length:Int)==0)&&((e.length:Int)==0)))else
   bif k==2 then(b==0)&&(vaC c&&(decide (0<(t.length:Int))&&(vaSs t&&vaSs e)))else false
def vaSs:List Step->Bool
 |[]=>true
 |s::r=>vaS s&&vaSs r
end
theorem Qod(s:Step):vaS s=bif s.Kind==1 then inR 1 5 s.By&&(zeroC s.Cond&&(((s.Then.length:Int)==0)&&((s.Else.length:Int)==0)))else
   bif s.Kind==2 then(s.By==0)&&(vaC s.Cond&&(decide (0<(s.Then.length:Int))&&(vaSs s.Then&&vaSs s.Else)))else false:=by cases s;rfl
theorem QiL:∀l:List Step,vaSs l=l.all vaS
 |[]=>rfl
 |c::r=>by rw[vaSs,List.all_cons,QiL r]
def fV:typing_form->Bool
 |.ctyping_step x=>vaS x.Step
 |.ctyping_cond x=>vaC x.Cond
theorem Qiu(l:List Cond):(l.map ofCond).any (λf=> !fV f)= !vaCs l:=by
 rw[QiM,List.not_all_eq_any_not,List.any_map];rfl
theorem Qb9(l:List Step):(l.map ofStep).any (λf=> !fV f)= !vaSs l:=by
 rw[QiL,List.not_all_eq_any_not,List.any_map];rfl
theorem Qfy{R:Nat->List typing_form->Option Bool}(c:Cond)(h:Cond.wf c)(i:Ev (λn=>R n (c.Parts.map ofCond)) (!vaCs c.Parts)):
  Ev (λn=>F_ci (R n) n {Cond:=c}) (vaC c):=by
 unfold F_ci;rw[Qoe];refine Ea (v:=(c.Var==0)&&(c.N==0)) (Ei λ_=>Qa _) ?_;refine YN (λ_=>?_) (λl=>?_)
 .exact Ea (Ea (QG _ _ _) (Ei λ_=>Ea (QG _ _ _) (Ei λ_=>Qa _))) (Qa _)
 .have fin:∀b:Bool,Ev (λn=>((bif b then(F_m n {Cond:=c}).bind λg=>(R n g).bind λf=>some (!f)else some false):Option Bool).bind λd=>some d) (b&&vaCs c.Parts):=by
   intro b;refine Ea ((Ei λ_=>Ea (Qcy c h) (Ea i (Qa _)))) ((Qa _).eq (by simp))
  cases k:(c.Kind==4)with
  |true=>
   simp only[cond_true];cases j:((c.Var==0)&&(c.N==0))with
   |true=>
    refine Ea (v:=Ctl.cont ((c.Parts.length:Int)==1)) (Qa _) ((fin _).eq (by simp))
   |false=>
    refine Ea (v:=Ctl.cont false) (Qa _) ((fin _).eq (by simp))
  |false=>
   simp only[cond_false];cases a:((c.Kind==2)||(c.Kind==3))with
   |true=>
    simp only[cond_true];have e:Ev (λn:Nat=>((bif (c.Kind==2)then some (c.Kind==2)else some (c.Kind==3)):Option Bool)) true:=by
     refine Ez ?_;rw[Qmp,a]
    cases j:((c.Var==0)&&(c.N==0))with
    |true=>
     cases m:decide (0<(c.Parts.length:Int))with
     |true=>
      refine Ea (v:=Ctl.cont (decide ((c.Parts.length:Int)<=16))) (Ea e (Qa _)) ((fin _).eq (by simp))
     |false=>
      refine Ea (v:=Ctl.cont false) (Ea e (Qa _)) ((fin _).eq (by simp))
    |false=>
     refine Ea (v:=Ctl.cont false) (Ea e (Qa _)) ((fin _).eq (by simp))
   |false=>
    have e:Ev (λn:Nat=>((bif (c.Kind==2)then some (c.Kind==2)else some (c.Kind==3)):Option Bool)) false:=by
     refine Ez ?_;rw[Qmp,a]
    refine Ea (v:=Ctl.done false) (Ea e (Qa _)) (Qa _)
theorem Qij:∀(m:Nat) (l:List typing_form),fZs l<=m->l.length<=2097152->(∀f∈l,fwf f)->Ev (λn=>F_i n l) (l.any λf=> !fV f):=by
 intro m
 induction m using Nat.strongRecOn with
 |_ m e=>
 intro l H F r;refine Y0 ?_;show Ev (λn=>B_i (F_i n) n l) _;unfold B_i F_hi;refine Ev.contains l _ (λn f=>F_ds (F_i n) n f) (by omega) λf k=>?_;have z:fZ f<=fZs l:=by
  have:∀(l:List typing_form),f∈l->fZ f<=fZs l:=by
   intro l
   induction l with
   |nil=>intro h;cases h
   |cons x l e=>
    intro h;rw[Qhi];rcases Ve.1 h with rfl|h
    .omega
    .have:=e h;omega
  exact this l k
 unfold F_ds;refine Ea (v:=fV f) ?_ (Qa _);have a:∀c:Cond,Cond.wf c->cNs c.Parts<fZ f->Ev (λn=>F_i n (c.Parts.map ofCond)) (!vaCs c.Parts):=by
  intro c j i;rw[<- Qiu];obtain⟨G,u⟩:=Qah j;refine e (fZs (c.Parts.map ofCond)) (by rw[Qev];omega) _ (X0 _) (by simp;omega) ?_;intro g b;obtain⟨y,d,rfl⟩:=Xf.1 b;exact u y d
 cases f with
 |ctyping_cond x=>
  obtain⟨c⟩:=x;have j:Cond.wf c:=r _ k;exact Qfy (R:=F_i) c j (a c j (by show cNs c.Parts<cN c;rw[QfL];omega))
 |ctyping_step x=>
  obtain⟨s⟩:=x;have i:Step.wf s:=r _ k;obtain⟨t,⟨B,p⟩,⟨w,q⟩⟩:=Qag i;unfold F_fd;show Ev _ (vaS s);rw[Qod];simp only[typing_form.elim];refine YN (λ_=>?_) (λJ=>YN (λ_=>?_) λ_=>Qa _)
  .refine Ea (Ea (QG _ _ _) (Ei λ_=>?_)) (Qa _);simp only[QfA,XQ];refine Ei λ_=>Ea (Qba s i) ((Qa _).eq ?_);unfold stepParts;rw[X6];simp only[beq_iff_eq,X4,Va,X9];omega
  .refine Ea (Ei λ_=>?_) (Qa _);refine Ea (Qfy (R:=F_i) s.Cond t (a s.Cond t (by show _<sZ s;rw[QiU,QfL];omega))) (Ei λ_=>Ei λ_=>?_);refine Ea (Qba s i) (Ea (e (fZs (stepParts s)) ?_ _ (X0 _) (by unfold stepParts;simp;omega) ?_) ((Qa _).eq ?_))
   .have:fZs (stepParts s)<sZ s:=by
     unfold stepParts;rw[Qeu,QbA,QbA,QiU];omega
    have E:fZ (typing_form.ctyping_step {Step:=s})=sZ s:=rfl;omega
   .intro g b;unfold stepParts at b;rcases List.mem_append.1 b with b|b
    .obtain⟨y,d,rfl⟩:=Xf.1 b;exact p y d
    .obtain⟨y,d,rfl⟩:=Xf.1 b;exact q y d
   .unfold stepParts;rw[List.any_append,Qb9,Qb9];simp
def goodT(l:List Step):Bool:=sDs 0 l&&(decide (sNs l<=64)&&decide (sCs l<=256))
def tiesE(l:List Step):Int:=bif goodT l then(bif l.isEmpty|| !vaSs l then 71 else 0)else 2
theorem QlB(l:List Step):okL (l.map ofStep) 0 0 0=goodT l:=by
 rw[X6,Qf4 _ _ _ _ (by omega) (by omega), <- Qcw,QaX,QaY];unfold goodT;simp only[X4,decide_eq_true_eq];constructor
 .rintro⟨a,b,c⟩;exact⟨a,by omega,by omega⟩
 .rintro⟨a,b,c⟩;exact⟨a,by omega,by omega⟩
theorem Qnw(l:List Step)(m:l.length<=1048576)(h:∀x∈l,Step.wf x):Ev (λn=>F_by n l) (tiesE l):=by
 unfold F_by;refine Ea (QeA l (by omega)) (Ea (v:=tiesE l) ?_ (Qa _));have a:∀f∈l.map ofStep,fwf f:=by
  intro g k;obtain⟨y,j,rfl⟩:=Xf.1 k;exact h y j
 obtain⟨i,b,p⟩:=Qma _ (l.map ofStep) 0 0 0 (X0 _) (by simp;omega) a (by omega) (by omega) (by omega) (.inl (by omega)) (by omega) (by omega);rw[QlB]at b;unfold F_he;have d:Ev (λn=>F_hd n (l.map ofStep) 0 {steps:=0,conds:=0}) (i,goodT l):=b.shift;refine Ea d ?_;unfold tiesE;cases goodT l with
 |false=>exact Qa _
 |true=>
  simp only[Xh,cond_false,cond_true];have e:(((l.map ofStep).length:Int)==0)=l.isEmpty:=by
   cases l<;>simp;omega
  rw[e];refine Ea (Qi λ_=>Ea (Qij _ _ (X0 _) (by simp;omega) a) (Qa _)) ?_;rw[Qb9];cases(l.isEmpty|| !vaSs l)<;>exact Qa _
mutual
def hP:Part->Nat
 |⟨_,_,ps⟩=>bif ps.isEmpty then 0 else 1+hPs ps
def hPs:List Part->Nat
 |[]=>0
 |p::r=>max (hP p) (hPs r)
end
theorem Qn6(p:Part):hP p=bif p.Parts.isEmpty then 0 else 1+hPs p.Parts:=by cases p;rfl
theorem Qi7{p:Part}:∀{l:List Part},p∈l->hP p<=hPs l
 |q::r,h=>by
  simp only[hPs];rcases Ve.1 h with rfl|h
  .omega
  .have:=Qi7 h;omega
theorem QaV{α:Type}(l:List α):((l.length:Int)==0)=l.isEmpty:=by
 cases l<;>simp;omega
theorem Qai:∀l:List Part,l.length<=szPs l
 |[]=>X0 _
 |p::r=>by have:=Qai r;rw[szPs,Qab,X8];omega
theorem Ql9:∀(m:Nat) (l:List Part) (k:Nat),szPs l<=m->hPs l<=k->k<=17->szPs l<=256->(∀x∈l,Part.wf x)->Ev (λn=>F_b n l (k:Int)) ((hPs l:Int),(szPs l:Int)):=by
 intro m
 induction m using Nat.strongRecOn with
 |_ m H=>
 intro l k R P s j z;have w:=Qai l;refine Y0 ?_;show Ev (λn=>B_b (F_b n) n l (k:Int)) _;unfold B_b;have loop:∀(r:List Part) (i:Nat) (a b:Nat),l.drop i=r->i<=l.length->a<=17->b+(szPs r-r.length)<=256->EvI (λn=>F_y n l (k:Int) (F_b n)) ((a:Int),(b:Int),(i:Int)) (((max a (hPs r):Nat):Int),((b+(szPs r-r.length):Nat):Int)):=by
  intro r
  induction r with
  |nil=>
   intro i a b h t _ _;refine Ej ?_;unfold F_y;simp only[YG h t,cond_false,XQ];refine(Qa _).eq ?_;simp[hPs,szPs]
  |cons p r f=>
   intro i a b h t L g;obtain⟨d,q⟩:=QT (by omega) h;obtain⟨Q,B⟩:=Y4 (z p d.mem);have J:=QaQ d.mem;have e:=Qi7 d.mem;rw[Qab]at J;have E:=Qai r;rw[szPs,Qab,X8]at g;have step:Ev (λn=>F_y n l (k:Int) (F_b n) ((a:Int),(b:Int),(i:Int))) (.cont (((max a (hP p):Nat):Int),((b+szPs p.Parts:Nat):Int),((i+1:Nat):Int))):=by
    unfold F_y;simp only[d.lt,cond_true,d.ix,XQ,d.nx,QaV];rw[Qn6]at e⊢;cases u:p.Parts.isEmpty with
    |true=>
     have N:p.Parts=[]:=by simpa using u
     simp only[cond_true,XQ];rw[N];simp only[szPs,XC,Nat.max_zero];exact Qa _
    |false=>
     rw[u]at e;simp only[cond_false]at e⊢;have y:0<k:=by omega
     have G:IntKind.i64.wrap ((k:Int)-1)=((k-1:Nat):Int):=by rw[QO (by omega) (by omega)];omega
     have O:((k:Int)==0)=false:=beq_false_of_ne (by omega);rw[O,Q4 (show¬(256:Int)<(b:Int)by omega),G];simp only[cond_false,XQ];refine Ea (Ea (H (szPs p.Parts) (by omega) p.Parts (k-1) (X0 _) (by omega) (by omega) (by omega) B) (Qa _)) ((Qa _).eq ?_);have F:IntKind.i64.wrap ((hPs p.Parts:Int)+1)=((hPs p.Parts+1:Nat):Int):=Qay (by omega);have M:IntKind.i64.wrap ((b:Int)+(szPs p.Parts:Int))=((b+szPs p.Parts:Nat):Int):=by rw[QO (by omega) (by omega)];omega
     simp only[F,M];congr 2;split<;>omega
   refine(Eu step (f (i+1) _ _ q (by have:=d.lt';omega) (by omega) (by omega))).eq ?_;rw[hPs,szPs,Qab,X8];congr 1<;>omega
 refine Ea ((loop l 0 0 l.length rfl (X2 _) (by omega) (by omega)).ev) ((Qa _).eq ?_);congr 1<;>omega
def repS:Nat->List Int->List Int->List Int
 |0,out,_=>out
 |k+1,out,lap=>if 256<out.length then out else repS k (out++lap) lap
mutual
def lapS:Part->List Int
 |⟨m,laps,ps⟩=>bif decide (0<laps)then expS [] ps else[m]
def expS:List Int->List Part->List Int
 |out,[]=>out
 |out,p::r=>expS (repS (p.Laps.toNat+(bif decide (0<p.Laps)then 0 else 1)) out (lapS p)) r
end
theorem QdF(p:Part):lapS p=bif decide (0<p.Laps)then expS [] p.Parts else[p.Mat]:=by cases p;rfl
theorem Qd9{k:Nat}{a b:List Int}(h:256<a.length):repS k a b=a:=by
 cases k with
 |zero=>rfl
 |succ k=>rw[repS,if_pos h]
theorem Qhn:∀(l:List Part) {out:List Int},256<out.length->expS out l=out
 |[],out,h=>by rw[expS]
 |p::r,out,h=>by rw[expS,Qd9 h];exact Qhn r h
theorem Qd8:∀(k:Nat) (out lap:List Int),(repS k out lap).length<=max out.length (256+lap.length)
 |0,out,lap=>by rw[repS];omega
 |k+1,out,lap=>by
  rw[repS];split
  .omega
  .have:=Qd8 k (out++lap) lap;rw[Va]at this;omega
theorem Qhm:∀(m:Nat) (l:List Part) (a:List Int),szPs l<=m->(expS a l).length<=max a.length (256+257*szPs l):=by
 intro m
 induction m using Nat.strongRecOn with
 |_ m i=>
 intro l;have b:∀p∈l,szPs l<=m->(lapS p).length<=257*szP p:=by
  intro p d g;have s:=QaQ d;rw[QdF,Qab]at*;cases decide (0<p.Laps)with
  |true=>
   have:=i (szPs p.Parts) (by omega) p.Parts [] (X0 _);simp only[cond_true,List.length_nil]at this⊢;omega
  |false=>simp;omega
 have e:∀(r:List Part) (a:List Int),(∀p∈r,(lapS p).length<=257*szP p)->(expS a r).length<=max a.length (256+257*szPs r):=by
  intro r
  induction r with
  |nil=>intro a _;rw[expS];omega
  |cons p r f=>
   intro a h;rw[expS,szPs];have n:=f (repS (p.Laps.toNat+(bif decide (0<p.Laps)then 0 else 1)) a (lapS p)) λq j=>h q (by simp[j]);have k:=Qd8 (p.Laps.toNat+(bif decide (0<p.Laps)then 0 else 1)) a (lapS p);have t:=h p (by simp);omega
 intro a g;exact e l a λp d=>b p d g
theorem QlF(p:Part):(lapS p).length<=257*szP p:=by
 rw[QdF,Qab];cases decide (0<p.Laps)with
 |true=>
  have:=Qhm _ p.Parts [] (X0 _);simp only[cond_true,List.length_nil]at this⊢;omega
 |false=>simp;omega
theorem Qj8(W:Int):∀(m:Nat) (l:List Part),szPs l<=m->szPs l<=256->l.length<=1048576->(∀x∈l,Part.wf x)->partsS W l=true->Ev (λn=>F_k n l) (expS [] l):=by
 intro m
 induction m using Nat.strongRecOn with
 |_ m ih=>
 intro l hm M hl V T;rw[QcY,Xw]at T;refine Y0 ?_;show Ev (λn=>B_k (F_k n) n l) _;unfold B_k;have inner:∀(p:Part) (e:List Int) (g:p.Laps=0\/0<p.Laps/\p.Laps<=64) (B:e.length<=100000) (j:Nat) (k:Nat) (a:List Int),j+k=p.Laps.toNat+(bif decide (0<p.Laps)then 0 else 1)->a.length<=200000->
   ∃d:Ctl (List Int) (Ctl ((List Int)×Int) (Ctl (List Int) (List Int))),EvI (λn=>F_eq n p e) (a,(j:Int)) d/\
    (d=.cont (repS k a e)\/(256<(repS k a e).length/\d=.done (.done (.done (repS k a e))))):=by
  intro p e g B j k
  induction k generalizing j with
  |zero=>
   intro a f _;refine⟨_,Ej (b:=.cont a) ?_,.inl rfl⟩;unfold F_eq;have:¬((j:Int)<if p.Laps<1 then 1 else p.Laps):=by
    rcases g with h|⟨h,Q⟩
    .rw[h]at f⊢;simp at f⊢;omega
    .rw[Yh h]at f;simp at f;rw[if_neg (by omega)];omega
   rw[Q4 this];exact Qa _
  |succ k J=>
   intro a f E;have t:((j:Int)<if p.Laps<1 then 1 else p.Laps):=by
    rcases g with h|⟨h,Q⟩
    .rw[h]at f⊢;simp at f⊢;omega
    .rw[Yh h]at f;simp at f;rw[if_neg (by omega)];omega
   have P:j<=64:=by
    rcases g with h|⟨h,Q⟩
    .rw[h]at f;simp at f;omega
    .rw[Yh h]at f;simp at f;omega
   by_cases u:256<a.length
   .refine⟨_,Ej (b:=.done (.done (.done a))) ?_,.inr ⟨by rw[Qd9 u];exact u,by rw[Qd9 u]⟩⟩;unfold F_eq;rw[Yh t,Yh (show(256:Int)<(a.length:Int)by omega)];exact Qa _
   .obtain⟨d,s,y⟩:=J (j+1) (a++e) (by omega) (by rw[Va];omega);refine⟨d,Eu ?_ s,by rw[repS,if_neg u];exact y⟩;unfold F_eq;rw[Yh t,Q4 (show¬(256:Int)<(a.length:Int)by omega)];refine QhV (Ym (QaH (QhH a e (by omega)) ?_));rw[Qay (by omega)];exact Qa _
 have loop:∀(r:List Part) (i:Nat) (a:List Int),l.drop i=r->i<=l.length->a.length<=100000->
   ∃d:Ctl (List Int) (List Int),EvI (λn=>F_ha n l (F_k n)) (a,(i:Int)) d/\(d=.cont (expS a r)\/d=.done (expS a r)):=by
  intro r
  induction r with
  |nil=>
   intro i a L R _;refine⟨.cont a,Ej ?_,.inl (by rw[expS])⟩;unfold F_ha;simp only[YG L R,cond_false];exact Qa _
  |cons p r H=>
   intro i a L R E;obtain⟨q,N⟩:=QT (by omega) L;have t:=q.lt';have hs:=QaQ q.mem;obtain⟨Y,X⟩:=Y4 (V p q.mem);have g:=T p q.mem;rw[Qec]at g;have w:p.Laps=0\/0<p.Laps/\p.Laps<=64:=by
    cases O:(p.Laps==0)with
    |true=>exact .inl (by simpa using O)
    |false=>
     rw[O]at g;simp only[cond_false,inR,X4,decide_eq_true_eq]at g;exact .inr ⟨by omega,by omega⟩
   have aa:=QlF p;have u:Ev (λn=>((bif decide (0<p.Laps)then(F_k n p.Parts).bind λG=>some G else some [p.Mat]):Option (List Int))) (lapS p):=by
    rw[QdF];refine YN (λh=>?_) (λ_=>Qa _);rw[Qab]at hs;refine Ea (ih (szPs p.Parts) (by omega) p.Parts (X0 _) (by omega) Y X ?_) (Qa _);have:(p.Laps==0)=false:=by
     simp only[decide_eq_true_eq]at h;exact beq_false_of_ne (by omega)
    rw[this]at g;simp only[cond_false,X4]at g;exact g.2.2.2
   obtain⟨d,s,y⟩:=inner p (lapS p) w (by omega) 0 _ a (XB _) (by omega);rw[expS];rcases y with rfl|⟨F,rfl⟩
   .obtain⟨z,q1,q2⟩:=H (i+1) (repS (p.Laps.toNat+(bif decide (0<p.Laps)then 0 else 1)) a (lapS p)) N (by omega) (by
     have:=Qd8 (p.Laps.toNat+(bif decide (0<p.Laps)then 0 else 1)) a (lapS p);omega)
    refine⟨z,Eu ?_ q1,q2⟩;unfold F_ha;simp only[q.lt,cond_true,q.ix,XQ,q.nx];exact Ea u (Ea s.ev (Qa _))
   .refine⟨.done (repS (p.Laps.toNat+(bif decide (0<p.Laps)then 0 else 1)) a (lapS p)),Ej ?_,.inr (by rw[Qhn r F])⟩;unfold F_ha;simp only[q.lt,cond_true,q.ix,XQ,q.nx];exact Ea u (Ea s.ev (Qa _))
 obtain⟨d,s,y⟩:=loop l 0 [] rfl (X2 _) (by simp);rcases y with rfl|rfl
 .exact Ea s.ev (Qa _)
 .exact Ea s.ev (Qa _)
def kindAt(c:Course)(m:Int):Int:=((c.Mats[m.toNat]?).map (·.Kind)).getD 0
def hasLeg(c:Course)(a b:Int):Bool:=c.Legs.any λl=>(l.From==a)&&(l.To==b)
def rokS(c:Course)(len:Nat):Nat->Int->List Int->Bool
 |_,_,[]=>true
 |i,prev,m::r=>((kindAt c m==1)==decide (i=0))&&(((kindAt c m==3)==decide (i+1=len))&&((decide (i=0)||hasLeg c prev m)&&rokS c len (i+1) m r))
def routeR(c:Course)(d:Distance)(r:List Int):Bool:=
 (decide (2<=r.length)&&decide (r.length<=256))&&(rokS c r.length 0 0 r&&((bif decide (0<=d.Extra)then !((r.count d.Extra:Int)==0)&&((kindAt c d.Extra==2)&&hasLeg c d.Extra d.Extra)else true)&&d.Cutoffs.all λx=>decide (x.Lap<=(r.count x.Mat:Int))))
def routeS(c:Course)(d:Distance):Bool:=routeR c d (expS [] d.Route)
def cntM(l:List Int):List (Int×Int):=l.foldl (λm k=>QW m k (QF m k 0+1)) []
theorem Qke(l:List Int)(k:Int):cntM (l++[k])=QW (cntM l) k (QF (cntM l) k 0+1):=by unfold cntM;rw[XJ];rfl
theorem QeH(l:List Int)(k:Int):QF (cntM l) k 0=(l.count k:Int):=by
 have a:∀(l:List Int) (m:List (Int×Int)),QF (l.foldl (λm k=>QW m k (QF m k 0+1)) m) k 0=QF m k 0+(l.count k:Int):=by
  intro l
  induction l with
  |nil=>intro m;simp
  |cons x l b=>
   intro m;rw[XK,b,Qb1,List.count_cons];by_cases h:k=x
   .subst h;simp;omega
   .have:(x==k)=false:=beq_false_of_ne λe=>h e.symm;simp[h,this]
 have:=a l [];simpa[cntM,QjT]using this
theorem Qh6(d:Int):∀(m:Nat) (l:List Part) (a:List Int),szPs l<=m->partsS d l=true->(∀x∈a,0<=x/\x<=d)->∀x∈expS a l,0<=x/\x<=d:=by
 intro m
 induction m using Nat.strongRecOn with
 |_ m B=>
 intro l;have t:∀(k:Nat) (a b:List Int),(∀x∈a,0<=x/\x<=d)->(∀x∈b,0<=x/\x<=d)->∀x∈repS k a b,0<=x/\x<=d:=by
  intro k
  induction k with
  |zero=>intro a b g _;rw[repS];exact g
  |succ k n=>
   intro a b g w;rw[repS];split
   .exact g
   .refine n _ _ ?_ w;intro x f;rcases List.mem_append.1 f with h|h
    .exact g x h
    .exact w x h
 have s:∀(r:List Part) (a:List Int),szPs r<=m->partsS d r=true->(∀x∈a,0<=x/\x<=d)->∀x∈expS a r,0<=x/\x<=d:=by
  intro r
  induction r with
  |nil=>intro a _ _ h;rw[expS];exact h
  |cons p r u=>
   intro a j i h;rw[szPs,Qab]at j;rw[partsS,X4]at i;obtain⟨e,y⟩:=i;rw[expS];refine u _ (by omega) y (t _ _ _ h ?_);rw[QdF];rw[Qec]at e;cases q:(p.Laps==0)with
   |true=>
    have z:p.Laps=0:=by simpa using q
    rw[q,cond_true,X4]at e;have:=e.1;unfold inR at this;simp only[X4,decide_eq_true_eq]at this;rw[z];intro x f;simp at f;subst f;exact this
   |false=>
    rw[q]at e;simp only[cond_false,X4,inR,decide_eq_true_eq]at e;rw[Yh (show 0<p.Laps by omega),cond_true];exact B (szPs p.Parts) (by omega) p.Parts [] (X0 _) e.2.2.2 (by simp)
 exact λa j i h=>s l a j i h
theorem Qi3{c:Course}{m:Int}(h0:0<=m)(b:m<=(c.Mats.length:Int)-1):∃x:Mat,idx c.Mats m=some x/\x.Kind=kindAt c m:=by
 obtain⟨k,rfl⟩:∃k:Nat,m=(k:Int):=⟨m.toNat,by omega⟩;have a:k<c.Mats.length:=by omega
 refine⟨c.Mats[k],Qq (XR a),?_⟩;unfold kindAt;rw[Int.toNat_natCast,XR a];rfl
theorem Qg2(c:Course)(a b:Int):QF (Yd legKey true c.Legs) {from_:=a,to_:=b} false=hasLeg c a b:=by
 rw[Qdj];unfold hasLeg;by_cases h:({from_:=a,to_:=b}:typing_ends)∈c.Legs.map legKey
 .rw[if_pos h];obtain⟨l,d,e⟩:=Xf.1 h;unfold legKey at e;obtain⟨f,g⟩:=ends_eq.1 e;exact(Xx.2 ⟨l,d,by simp[f,g]⟩).symm
 .rw[if_neg h]
  symm
  rw[Bool.eq_false_iff];intro q;obtain⟨l,d,e⟩:=Xx.1 q;simp only[X4,beq_iff_eq]at e;exact h (Xf.2 ⟨l,d,by unfold legKey;rw[e.1,e.2]⟩)
structure NumOk (c:Course):Prop where
 kinds:∀m∈c.Mats,1<=m.Kind/\m.Kind<=3
 dist:∀d∈c.Distances,-1<=d.Extra/\d.Extra<=(c.Mats.length:Int)-1/\partsS ((c.Mats.length:Int)-1) d.Route=true
theorem QmI{c:Course}(h:numbersS c=true):NumOk c:=by
 unfold numbersS at h;simp only[X4,Xw]at h;refine⟨λm b=>?_,λd e=>?_⟩
 .have:=h.1 m b;unfold inR at this;simpa using this
 .have:=h.2.2.2.1 d e;unfold distS at this;simp only[X4]at this;obtain⟨_,a,f,_⟩:=this;unfold inR at a;simp only[X4,decide_eq_true_eq]at a;exact⟨a.1,a.2,f⟩
theorem QoQ{c:Course}(q:NumOk c){d:Distance}(hd:d∈c.Distances):∀x∈expS [] d.Route,0<=x/\x<=(c.Mats.length:Int)-1:=
 Qh6 _ _ d.Route [] (X0 _) (q.dist d hd).2.2 (by simp)
theorem Qk8(c:Course)(len i:Nat)(prev m:Int)(r:List Int):rokS c len i prev (m::r)=(((kindAt c m==1)==decide (i=0))&&(((kindAt c m==3)==decide (i+1=len))&&((decide (i=0)||hasLeg c prev m)&&rokS c len (i+1) m r))):=rfl
theorem Qm7(i:Nat):((i:Int)==0)=decide (i=0):=by
 rw[X6];simp
theorem Qe8(c:Course)(r:List Int)(z:2<=r.length)(R:r.length<=256)(L:∀x∈r,0<=x/\x<=(c.Mats.length:Int)-1):
  Ev (λn=>iter (F_cq n c (Yd legKey true c.Legs) r) n ([],0)) (bif rokS c r.length 0 0 r then .cont (cntM r)else .done false):=by
 have loop:∀(t:List Int) (i:Nat) (b:Int),r.drop i=t->i<=r.length->(0<i->At r (i-1) b)->EvI (λn=>F_cq n c (Yd legKey true c.Legs) r) (cntM (r.take i),(i:Int)) (bif rokS c r.length i b t then .cont (cntM r)else .done false):=by
  intro t
  induction t with
  |nil=>
   intro i b f q _;refine Ej ?_;unfold F_cq;simp only[YG f q,cond_false,rokS,cond_true];have:r.length<=i:=by simpa using f
   rw[List.take_of_length_le this];exact Qa _
  |cons m t J=>
   intro i b f q F;obtain⟨d,g⟩:=QT (by omega) f;have G:=d.lt';obtain⟨y,P⟩:=L m d.mem;obtain⟨x,E,Q⟩:=Qi3 y P;have B:IntKind.i64.wrap ((r.length:Int)-1)=((r.length-1:Nat):Int):=by rw[QO (by omega) (by omega)];omega
   have N:((i:Int)==((r.length-1:Nat):Int))=decide (i+1=r.length):=by rw[X6];simp;omega
   have M:Ev (λn:Nat=>((bif ((x.Kind==1) != ((i:Int)==0))then some true else(bif ((x.Kind==3) != ((i:Int)==(IntKind.i64.wrap ((r.length:Int)-1))))then some true else(bif decide (0<(i:Int))then(idx r (IntKind.i64.wrap ((i:Int)-1))).bind λp=>(some (QF (Yd legKey true c.Legs) ({from_:=p,to_:=m:typing_ends}) false)).bind λj=>some (!j)else some false))):Option Bool))
     (!(((kindAt c m==1)==decide (i=0))&&(((kindAt c m==3)==decide (i+1=r.length))&&(decide (i=0)||hasLeg c b m)))):=by
    rw[Q,B,N,Qm7];refine Ev.eq (Qi λ_=>Qi λ_=>YN (v:= !hasLeg c b m) (w:=false) (λh=>?_) λ_=>Qa _) ?_
    .have k:0<i:=by simpa using h
     have H:IntKind.i64.wrap ((i:Int)-1)=((i-1:Nat):Int):=by rw[QO (by omega) (by omega)];omega
     rw[H,(F k).ix];simp only[XQ,Qg2];exact Qa _
    .have O:decide (0<(i:Int))= !decide (i=0):=by rw[X6];simp;omega
     rw[O];cases(kindAt c m==1)<;>cases decide (i=0)<;>cases(kindAt c m==3)<;>cases decide (i+1=r.length)<;>cases hasLeg c b m<;>rfl
   have e:IntKind.i64.wrap (QF (cntM (r.take i)) m 0+1)=QF (cntM (r.take i)) m 0+1:=by
    rw[QeH];have:(r.take i).count m<=i:=by have:=List.count_le_length (a:=m) (l:=r.take i);simp at this;omega
    exact QO (by omega) (by omega)
   have step:Ev (λn=>F_cq n c (Yd legKey true c.Legs) r (cntM (r.take i),(i:Int))) (bif ((kindAt c m==1)==decide (i=0))&&(((kindAt c m==3)==decide (i+1=r.length))&&(decide (i=0)||hasLeg c b m))then .cont (cntM (r.take (i+1)),((i+1:Nat):Int))else .done (.done false)):=by
    unfold F_cq;simp only[d.lt,cond_true,d.ix,XQ,d.nx,E];refine Ea M ?_;rw[e, <- Qke, <- d.take];cases(((kindAt c m==1)==decide (i=0))&&(((kindAt c m==3)==decide (i+1=r.length))&&(decide (i=0)||hasLeg c b m)))<;>exact Qa _
   have u:rokS c r.length i b (m::t)=((((kindAt c m==1)==decide (i=0))&&(((kindAt c m==3)==decide (i+1=r.length))&&(decide (i=0)||hasLeg c b m)))&&rokS c r.length (i+1) m t):=by rw[Qk8];simp only[Bool.and_assoc]
   rw[u];cases s:(((kindAt c m==1)==decide (i=0))&&(((kindAt c m==3)==decide (i+1=r.length))&&(decide (i=0)||hasLeg c b m)))with
   |false=>
    rw[s]at step;exact Ej step
   |true=>
    rw[s]at step;rw[Bool.true_and];exact Eu step (J (i+1) m g (by omega) (λ_=>by simpa using d))
 exact(loop r 0 0 rfl (X2 _) (by omega)).ev
theorem Qii(c:Course)(w:CourseOk c)(q:NumOk c)(d:Distance)(b:d∈c.Distances)(k:∀x∈d.Route,Part.wf x)(z:szPs d.Route<=256):
  Ev (λn=>F_do n c d (Yd legKey true c.Legs)) (routeS c d):=by
 have j:=Qai d.Route;have i:=QoQ q b;have a:=Qhm _ d.Route [] (X0 _);unfold F_do routeS;refine Ea (Qj8 _ _ d.Route (X0 _) z (by omega) k (q.dist d b).2.2) ?_;generalize expS [] d.Route=r at i a⊢;unfold routeR;have s:IntKind.i64.wrap ((r.length:Int)-1)=(r.length:Int)-1:=by
  have:r.length<=1048576:=by simp at a;omega
  exact Qce this
 rw[s];have p:(decide ((r.length:Int)-1<1)||decide (256<=(r.length:Int)-1))= !(decide (2<=r.length)&&decide (r.length<=256)):=by
  rw[X6];simp;omega
 refine Ea (Ev.eq (Qi λ_=>Qa _) p) ?_;cases g:(decide (2<=r.length)&&decide (r.length<=256))with
 |false=>exact Qa _
 |true=>
  simp only[X4,decide_eq_true_eq]at g;rw[Bool.true_and];refine Ym (Ea (Qe8 c r g.1 g.2 i) ?_);cases rokS c r.length 0 0 r with
  |false=>exact Qa _
  |true=>
   simp only[cond_true,Bool.true_and];have l:Ev (λn:Nat=>((bif decide (0<=d.Extra)then(some (QF (cntM r) d.Extra 0)).bind λf=>(bif (f==0)then some true else(idx c.Mats d.Extra).bind λh=>(bif (h.Kind != 2)then some true else(some (QF (Yd legKey true c.Legs) ({from_:=d.Extra,to_:=d.Extra:typing_ends}) false)).bind λe=>some (!e)))else some false):Option Bool))
     (!(bif decide (0<=d.Extra)then !((r.count d.Extra:Int)==0)&&((kindAt c d.Extra==2)&&hasLeg c d.Extra d.Extra)else true)):=by
    rw[QeH];cases y:decide (0<=d.Extra)with
    |false=>exact Qa _
    |true=>
     obtain⟨x,t,u⟩:=Qi3 (c:=c) (m:=d.Extra) (by simpa using y) (q.dist d b).2.1;simp only[cond_true,XQ,t,Qg2,u];refine Ev.eq (Qi λ_=>Qi λ_=>Qa _) ?_;rw[bne];cases((r.count d.Extra:Int)==0)<;>cases(kindAt c d.Extra==2)<;>cases hasLeg c d.Extra d.Extra<;>rfl
   refine Ea l ?_;cases(bif decide (0<=d.Extra)then !((r.count d.Extra:Int)==0)&&((kindAt c d.Extra==2)&&hasLeg c d.Extra d.Extra)else true)with
   |false=>exact Qa _
   |true=>
    rw[Bool.true_and];refine Ym (Ea ?_ (Qa _));unfold F_fx F_gh F_er;refine Y9 d.Cutoffs _ (λn x=>F_cy n x (cntM r)) (by have:=w.cut d b;omega) λx _=>?_;unfold F_cy;rw[QeH];exact Qa _
def lensC(c:Course):Nat:=c.Mats.length+c.Legs.length+c.Distances.length+c.Waves.length+c.Offences.length+c.Categories.length+c.Prizes.length
def fewD(d:Distance):Prop:=d.Cutoffs.length<=200/\szPs d.Route<=200/\hPs d.Route<=16
structure FewOk (c:Course):Prop where
 lens:lensC c<=200
 name:c.Name.length<=100
 dist:∀d∈c.Distances,fewD d
 ties:c.Ties.length<=200
def fitsS(c:Course):Bool:=
 !(decide (40<(c.Mats.length:Int))||(decide (512<(c.Legs.length:Int))||(decide (8<(c.Distances.length:Int))||(decide (32<(c.Waves.length:Int))||(decide (32<(c.Offences.length:Int))||(decide (32<(c.Categories.length:Int))||decide (32<(c.Prizes.length:Int))))))))
  &&c.Distances.all λd=> !decide (64<(d.Cutoffs.length:Int))
theorem Qnt(c:Course)(w:CourseOk c)(q:PartsOk c)(k:FewOk c):Ev (λn=>F_ac n c) (fitsS c):=by
 unfold F_ac fitsS;refine Ea (Qi λ_=>Qi λ_=>Qi λ_=>Qi λ_=>Qi λ_=>Qi λ_=>Qa _) ?_;cases(decide (40<(c.Mats.length:Int))||(decide (512<(c.Legs.length:Int))||(decide (8<(c.Distances.length:Int))||(decide (32<(c.Waves.length:Int))||(decide (32<(c.Offences.length:Int))||(decide (32<(c.Categories.length:Int))||decide (32<(c.Prizes.length:Int))))))))with
 |true=>exact Qa _
 |false=>
  rw[Xi,Bool.true_and];refine Ym (Ea (Yv c.Distances (λd=> !decide (64<(d.Cutoffs.length:Int))) (Ctl.done false) (Ctl.cont ()) (by have:=w.dist;omega) (λi x a=>?_) ?_) ?_)
  .obtain⟨f,e,b⟩:=k.dist x a.mem;unfold F_fh;simp only[a.lt,cond_true,a.ix,XQ,a.nx];refine Ea (Ql9 _ x.Route 17 (X0 _) (by omega) (X0 _) (by omega) (q.wf x a.mem)) ?_;refine Ea (Qi λ_=>Qi λ_=>Qa _) ?_;simp only[Q4 (show¬(16:Int)<(hPs x.Route:Int)by omega),Q4 (show¬(256:Int)<(szPs x.Route:Int)by omega),Bool.or_false];cases decide (64<(x.Cutoffs.length:Int))<;>exact Qa _
  .unfold F_fh;simp only[YR,cond_false];exact Qa _
  .cases(c.Distances.all λd=> !decide (64<(d.Cutoffs.length:Int)))<;>exact Qa _
def courseE(c:Course):Int:=
 bif fitsS c then bif namesS c then bif numbersS c then bif tiesE c.Ties==0 then bif c.Distances.all (routeS c)then 0 else 72 else tiesE c.Ties else 71 else 70 else 2
theorem QfE(c:Course)(w:CourseOk c)(q:PartsOk c)(k:FewOk c)(e:c.Ties.length<=1048576)(g:∀x∈c.Ties,Step.wf x):Ev (λn=>F_l n c) (courseE c):=by
 unfold F_l courseE;refine Ea (Qnt c w q k) ?_;cases fitsS c with
 |false=>exact Qa _
 |true=>
 refine Ym (Ea (Ql7 c w) ?_);cases namesS c with
 |false=>exact Qa _
 |true=>
 refine Ym (Ea (Qig c w q) ?_);cases d:numbersS c with
 |false=>exact Qa _
 |true=>
 refine Ym (Ea (Qnw c.Ties e g) ?_);rw[bne];cases(tiesE c.Ties==0)with
 |false=>exact Qa _
 |true=>
 have f:Ev (λn=>iter (F_jf n c) n ([],0)) (Yd legKey true c.Legs):=by
  refine Qbi c.Legs legKey true (by have:=w.legs;omega) (λi x m a=>?_) (λm=>?_)
  .unfold F_jf;simp only[a.lt,cond_true,a.ix,XQ,a.nx];exact Qa _
  .unfold F_jf;simp only[YR,cond_false];exact Qa _
 refine Ym (Ea f ?_);have a:Ev (λn=>F_bv n c.Distances c (Yd legKey true c.Legs)) (c.Distances.all (routeS c)):=by
  unfold F_bv F_gi F_hb;refine Y9 c.Distances _ (λn x=>F_bk n x c (Yd legKey true c.Legs)) (by have:=w.dist;omega) λx b=>?_;unfold F_bk;exact Ea (Qii c w (QmI d) x b (q.wf x b) (by have:=(k.dist x b).2.1;omega)) (Qa _)
 refine Ea a ?_;cases c.Distances.all (routeS c)<;>exact Qa _
theorem Qfc{α:Type}{lt:α->α->Prop}(d:∀a b,lt a b->¬lt b a):∀{l m:List α},l.Pairwise lt->m.Pairwise lt->(∀x,x∈l↔x∈m)->l=m:=by
 intro l
 induction l with
 |nil=>
  intro m _ _ h;cases m with
  |nil=>rfl
  |cons y m=>exact absurd ((h y).2 (by simp)) (by simp)
 |cons x l s=>
  intro m p n h;cases m with
  |nil=>exact absurd ((h x).1 (by simp)) (by simp)
  |cons y m=>
   obtain⟨j,r⟩:=Xc.1 p;obtain⟨g,q⟩:=Xc.1 n;have i:x=y:=by
    rcases Ve.1 ((h x).1 (by simp))with e|e
    .exact e
    .rcases Ve.1 ((h y).2 (by simp))with k|k
     .exact k.symm
     .exact absurd (g x e) (d _ _ (j y k))
   subst i;rw[s r q λz=>?_];constructor
   .intro f;rcases Ve.1 ((h z).1 (by simp[f]))with e|e
    .subst e;exact absurd (j z f) (d _ _ (j z f))
    .exact e
   .intro f;rcases Ve.1 ((h z).2 (by simp[f]))with e|e
    .subst e;exact absurd (g z f) (d _ _ (g z f))
    .exact e
theorem QdK{α:Type}(l m:List α)(h:l.length+m.length<=4294967296):app l m=some (l++m):=by
 unfold app;rw[XZ (by unfold QR;exact h)];rfl
theorem QgN(l:List Int)(h:l.length<=4294967296):sortI l=some (QaB ltI l):=by
 unfold sortI;rw[XZ (by unfold QR;exact h)];rfl
def firstI{α:Type}(q:α->Bool):List α->Nat->Int
 |[],_=> -1
 |x::l,i=>bif q x then(i:Int)else firstI q l (i+1)
theorem Ev.first{α:Type}{step:Nat->Int->Option (Ctl Int (Ctl Unit Int))}(l:List α)(q:α->Bool)(k:l.length<=4611686018427387904)
  (p:∀i x,At l i x->Ev (λn=>step n (i:Int)) (bif q x then .done (.done (i:Int))else .cont ((i+1:Nat):Int)))(m:Ev (λn=>step n (l.length:Int)) (.done (.cont ()))):
  Ev (λn=>(Go.Sw.iter (step n) n 0).bind λb=>match b with|.cont _=>some (-1)|.done v=>some v) (firstI q l 0):=by
 have loop:∀(r:List α) (i:Nat),l.drop i=r->i<=l.length->∃a:Ctl Unit Int,EvI step (i:Int) a/\(match a with|.cont _=>some (-1)|.done v=>some v)=some (firstI q r i):=by
  intro r
  induction r with
  |nil=>
   intro i d u;have:i=l.length:=by have:=Xu.1 d;omega
   subst this;exact⟨.cont (),Ej m,rfl⟩
  |cons x r t=>
   intro i d u;obtain⟨j,f⟩:=QT k d;have s:=p i x j;unfold firstI;cases h:q x with
   |true=>
    rw[h]at s;exact⟨_,Ej s,rfl⟩
   |false=>
    rw[h]at s;obtain⟨a,e,g⟩:=t (i+1) f (by have:=j.lt';omega);exact⟨a,Eu s e,g⟩
 obtain⟨a,e,g⟩:=loop l 0 rfl (X2 _);exact Ea e.ev (Ez g)
theorem QbH{ι α:Type}{F:Nat->ι->Option α}{V:ι->α}:∀(L:List ι),(∀p∈L,Ev (λn=>F n p) (V p))->∃N,∀n,N<=n->∀p∈L,F n p=some (V p)
 |[],_=>⟨0,λ_ _ p hp=>by cases hp⟩
 |x::L,h=>by
  obtain⟨N,hN⟩:=QbH L λp hp=>h p (by simp[hp]);obtain⟨M,hM⟩:=h x (by simp);refine⟨N+M,λn hn p hp=>?_⟩;rcases Ve.1 hp with rfl|hp
  .exact hM n (by omega)
  .exact hN n (by omega) p hp
theorem Ev.anyP{E R:Type}[DecidableEq R]{k:Nat->List E->Option R}{l:List E}{r:R}(h:∀p,p.Perm l->Ev (λn=>k n p) r):Ev (λn=>Go.Sw.anyP (k n) l) r:=by
 obtain⟨N,d⟩:=QbH (F:=λn p=>k n p) (V:=λ_=>r) (Qby l) λp a=>h p (QbZ l p a);exact⟨N,λn b=>QnG λp a=>d n b p (QcX l p a)⟩
theorem Ev.isNil{α R:Type}[DecidableEq R]{l:List α}{x y:Nat->Option R}{v:R}(b:l=[]->Ev x v)(a:Ev y v):Ev (λn=>Go.Sw.isNil l (x n) (y n)) v:=by
 unfold Go.Sw.isNil;cases q:l.isEmpty with
 |false=>exact a
 |true=>
  obtain⟨N,d⟩:=b (List.isEmpty_iff.1 q);obtain⟨M,e⟩:=a;exact⟨N+M,λn f=>by dsimp only;rw[d n (by omega),e n (by omega)];simp⟩
theorem Qj9:∀(k:Nat) (l:List Part),k<=17->szPs l<=256->(∀x∈l,Part.wf x)->∃s:Nat,s<=szPs l/\Ev (λn=>F_b n l (k:Int)) (((min (hPs l) k:Nat):Int),(s:Int)):=by
 intro k
 induction k using Nat.strongRecOn with
 |_ k M=>
 intro l u m E;have B:=Qai l;have loop:∀(r:List Part) (i a b:Nat),l.drop i=r->i<=l.length->a<=17->b+(szPs r-r.length)<=256->∃s:Nat,s<=b+(szPs r-r.length)/\EvI (λn=>F_y n l (k:Int) (F_b n)) ((a:Int),(b:Int),(i:Int)) (((max a (min (hPs r) k):Nat):Int),(s:Int)):=by
  intro r
  induction r with
  |nil=>
   intro i a b j w _ _;refine⟨b,by omega,Ej ?_⟩;unfold F_y;simp only[YG j w,cond_false,XQ];refine(Qa _).eq ?_;simp[hPs]
  |cons p r g=>
   intro i a b j w N h;obtain⟨d,q⟩:=QT (by omega) j;obtain⟨R,F⟩:=Y4 (E p d.mem);have y:=QaQ d.mem;rw[Qab]at y;have H:=Qai r;rw[szPs,Qab,X8]at h⊢;have step:∃t:Nat,t<=szPs p.Parts/\Ev (λn=>F_y n l (k:Int) (F_b n) ((a:Int),(b:Int),(i:Int))) (.cont (((max a (min (hP p) k):Nat):Int),((b+t:Nat):Int),((i+1:Nat):Int))):=by
    unfold F_y;simp only[d.lt,cond_true,d.ix,XQ,d.nx,QaV];rw[Qn6];cases T:p.Parts.isEmpty with
    |true=>
     refine⟨0,X2 _,?_⟩;simp only[cond_true,XQ,Nat.zero_min,Nat.max_zero,XC];exact Qa _
    |false=>
     simp only[cond_false];by_cases e:k=0
     .subst e;refine⟨0,X2 _,?_⟩;simp only[Nat.min_zero,Nat.max_zero,XC];exact Qa _
     .obtain⟨t,z,f⟩:=M (k-1) (by omega) p.Parts (by omega) (by omega) F;refine⟨t,z,?_⟩;have L:IntKind.i64.wrap ((k:Int)-1)=((k-1:Nat):Int):=by rw[QO (by omega) (by omega)];omega
      have Q:((k:Int)==0)=false:=beq_false_of_ne (by omega);rw[Q,Q4 (show¬(256:Int)<(b:Int)by omega),L];simp only[cond_false,XQ];refine Ea (Ea f (Qa _)) ((Qa _).eq ?_);have J:IntKind.i64.wrap (((min (hPs p.Parts) (k-1):Nat):Int)+1)=((min (hPs p.Parts) (k-1)+1:Nat):Int):=Qay (by omega);have O:IntKind.i64.wrap ((b:Int)+(t:Int))=((b+t:Nat):Int):=by rw[QO (by omega) (by omega)];omega
      simp only[J,O];congr 2;split<;>omega
   obtain⟨t,z,f⟩:=step;obtain⟨s,P,G⟩:=g (i+1) (max a (min (hP p) k)) (b+t) q (by have:=d.lt';omega) (by omega) (by omega);refine⟨s,by omega,(Eu f G).eq ?_⟩;rw[hPs];congr 1;omega
 obtain⟨s,y,p⟩:=loop l 0 0 l.length rfl (X2 _) (by omega) (by omega);refine⟨s,by omega,Y0 ?_⟩;show Ev (λn=>B_b (F_b n) n l (k:Int)) _;unfold B_b;refine Ea p.ev ((Qa _).eq ?_);rw[Nat.zero_max]
structure FewL (c:Course):Prop where
 lens:lensC c<=200
 name:c.Name.length<=100
 dist:∀d∈c.Distances,d.Cutoffs.length<=12/\szPs d.Route<=24
 ties:c.Ties.length<=200
def fitsG(c:Course):Bool:=
 !(decide (40<(c.Mats.length:Int))||(decide (512<(c.Legs.length:Int))||(decide (8<(c.Distances.length:Int))||(decide (32<(c.Waves.length:Int))||(decide (32<(c.Offences.length:Int))||(decide (32<(c.Categories.length:Int))||decide (32<(c.Prizes.length:Int))))))))
  &&c.Distances.all λd=> !(decide (64<(d.Cutoffs.length:Int))||decide (16<hPs d.Route))
theorem Qhu(c:Course)(w:CourseOk c)(q:PartsOk c)(k:FewL c):Ev (λn=>F_ac n c) (fitsG c):=by
 unfold F_ac fitsG;refine Ea (Qi λ_=>Qi λ_=>Qi λ_=>Qi λ_=>Qi λ_=>Qi λ_=>Qa _) ?_;cases(decide (40<(c.Mats.length:Int))||(decide (512<(c.Legs.length:Int))||(decide (8<(c.Distances.length:Int))||(decide (32<(c.Waves.length:Int))||(decide (32<(c.Offences.length:Int))||(decide (32<(c.Categories.length:Int))||decide (32<(c.Prizes.length:Int))))))))with
 |true=>exact Qa _
 |false=>
  rw[Xi,Bool.true_and];refine Ym (Ea (Yv c.Distances (λd=> !(decide (64<(d.Cutoffs.length:Int))||decide (16<hPs d.Route))) (Ctl.done false) (Ctl.cont ()) (by have:=w.dist;omega) (λi x a=>?_) ?_) ?_)
  .obtain⟨g,f⟩:=k.dist x a.mem;unfold F_fh;simp only[a.lt,cond_true,a.ix,XQ,a.nx];obtain⟨s,b,p⟩:=Qj9 17 x.Route (X0 _) (by omega) (q.wf x a.mem);refine Ea p ?_;refine Ea (Qi λ_=>Qi λ_=>Qa _) ?_;simp only[Q4 (show¬(256:Int)<(s:Int)by omega),Bool.or_false];have e:decide ((16:Int)<((min (hPs x.Route) 17:Nat):Int))=decide (16<hPs x.Route):=by
    rw[decide_eq_decide];omega
   rw[e];cases(decide (64<(x.Cutoffs.length:Int))||decide (16<hPs x.Route))<;>exact Qa _
  .unfold F_fh;simp only[YR,cond_false];exact Qa _
  .cases c.Distances.all (λd=> !(decide (64<(d.Cutoffs.length:Int))||decide (16<hPs d.Route)))<;>exact Qa _
theorem Qgo(c:Course)(w:CourseOk c)(q:PartsOk c)(k:FewL c)(h:c.Ties.length<=1048576)(i:∀x∈c.Ties,Step.wf x):∃e,Ev (λn=>F_l n c) e:=by
 by_cases f:∀d∈c.Distances,hPs d.Route<=16
 .exact⟨_,QfE c w q ⟨k.lens,k.name,λd a=>⟨by have:=(k.dist d a).1;omega,by have:=(k.dist d a).2;omega,f d a⟩,k.ties⟩ h i⟩
 .refine⟨2,?_⟩;unfold F_l;refine Ea (Qhu c w q k) ?_;have:fitsG c=false:=by
   unfold fitsG;rw[Bool.and_eq_false_iff];right;rw[List.all_eq_false];have:=Classical.not_forall.1 f;obtain⟨d,a⟩:=this;have b:d∈c.Distances/\ ¬hPs d.Route<=16:=by
    refine Classical.byContradiction λz=>a λg=>Classical.byContradiction λy=>z ⟨g,y⟩
   refine⟨d,b.1,?_⟩;have:decide (16<hPs d.Route)=true:=decide_eq_true (by omega);rw[this];simp
  rw[this];exact Qa _
theorem Qh0:∀(k:Nat) (l:List Part),k<=21->l.length<=1048576->(∀x∈l,Part.wf x)->∃v:Nat,v<=1048576+500*(k+1)/\(v<500->szPs l<=v)/\Ev (λn=>F_h n l ((21-k:Nat):Int)) (v:Int):=by
 intro k
 induction k with
 |zero=>
  intro l _ t s;refine⟨500,by omega,by omega,Y0 ?_⟩;show Ev (λn=>B_h (F_h n) n l ((21-0:Nat):Int)) _;unfold B_h;exact Qa _
 |succ k F=>
  intro l M t s;have loop:∀(r:List Part) (i a:Nat),l.drop i=r->i<=l.length->a<=1048576+500*(k+1+1)->∃v:Nat,v<=1048576+500*(k+1+1)/\a<=v/\(v<500->a+(szPs r-r.length)<=v)/\EvI (λn=>F_en n l ((21-(k+1):Nat):Int) (F_h n)) ((a:Int),(i:Int)) (v:Int):=by
   intro r
   induction r with
   |nil=>
    intro i a j w g;refine⟨a,g,X0 _,λ_=>by simp[szPs],Ej ?_⟩;unfold F_en;simp only[YG j w,cond_false,XQ];exact Qa _
   |cons p r f=>
    intro i a j w g;obtain⟨b,q⟩:=QT (by omega) j;obtain⟨B,z⟩:=Y4 (s p b.mem);by_cases H:a<500
    .obtain⟨u,N,G,y⟩:=F p.Parts (by omega) B z;have E:IntKind.i64.wrap (((21-(k+1):Nat):Int)+1)=((21-k:Nat):Int):=by rw[QO (by omega) (by omega)];omega
     have L:IntKind.i64.wrap ((a:Int)+(u:Int))=((a+u:Nat):Int):=by rw[QO (by omega) (by omega)];omega
     obtain⟨v,h,J,e,m⟩:=f (i+1) (a+u) q (by have:=b.lt';omega) (by omega);refine⟨v,h,by omega,λd=>?_,Eu ?_ m⟩
     .have:=e d;have:=G (by omega);have:=Qai r;rw[szPs,Qab,X8];omega
     .unfold F_en;simp only[b.lt,cond_true,b.ix,XQ,b.nx,Yh (show(a:Int)<500 by omega),E];refine Ea y ?_;rw[L];exact Qa _
    .refine⟨a,g,X0 _,λd=>absurd d H,Ej ?_⟩;unfold F_en;simp only[b.lt,cond_true,XQ,Q4 (show¬(a:Int)<500 by omega),cond_false];exact Qa _
  obtain⟨v,h,J,e,m⟩:=loop l 0 l.length rfl (X2 _) (X3 t (Nat.le_add_right _ _));have:=Qai l;refine⟨v,h,λd=>by have:=e d;omega,Y0 ?_⟩;show Ev (λn=>B_h (F_h n) n l ((21-(k+1):Nat):Int)) _;unfold B_h;rw[Q4 (show¬(20:Int)<((21-(k+1):Nat):Int)by omega)];exact Ym (Ea m.ev (Qa _))
theorem QhA:∀(k:Nat) (l:List Cond),k<=21->l.length<=1048576->(∀x∈l,Cond.wf x)->∃v:Nat,v<=1048576+500*(k+1)/\Ev (λn=>F_j n l ((21-k:Nat):Int)) (v:Int):=by
 intro k
 induction k with
 |zero=>
  intro l _ q s;refine⟨500,by omega,Y0 ?_⟩;show Ev (λn=>B_j (F_j n) n l ((21-0:Nat):Int)) _;unfold B_j;exact Qa _
 |succ k B=>
  intro l F q s;have loop:∀(r:List Cond) (i a:Nat),l.drop i=r->i<=l.length->a<=1048576+500*(k+1+1)->∃v:Nat,v<=1048576+500*(k+1+1)/\EvI (λn=>F_gd n l ((21-(k+1):Nat):Int) (F_j n)) ((a:Int),(i:Int)) (v:Int):=by
   intro r
   induction r with
   |nil=>
    intro i a h t f;refine⟨a,f,Ej ?_⟩;unfold F_gd;simp only[YG h t,cond_false,XQ];exact Qa _
   |cons p r j=>
    intro i a h t f;obtain⟨b,m⟩:=QT (by omega) h;have d:=Qah (s p b.mem);by_cases E:a<500
    .obtain⟨u,G,y⟩:=B p.Parts (by omega) d.1 d.2;have z:IntKind.i64.wrap (((21-(k+1):Nat):Int)+1)=((21-k:Nat):Int):=by rw[QO (by omega) (by omega)];omega
     have w:IntKind.i64.wrap ((a:Int)+(u:Int))=((a+u:Nat):Int):=by rw[QO (by omega) (by omega)];omega
     obtain⟨v,g,e⟩:=j (i+1) (a+u) m (by have:=b.lt';omega) (by omega);refine⟨v,g,Eu ?_ e⟩;unfold F_gd;simp only[b.lt,cond_true,b.ix,XQ,b.nx,Yh (show(a:Int)<500 by omega),z];refine Ea y ?_;rw[w];exact Qa _
    .refine⟨a,f,Ej ?_⟩;unfold F_gd;simp only[b.lt,cond_true,XQ,Q4 (show¬(a:Int)<500 by omega),cond_false];exact Qa _
  obtain⟨v,g,e⟩:=loop l 0 l.length rfl (X2 _) (X3 q (Nat.le_add_right _ _));refine⟨v,g,Y0 ?_⟩;show Ev (λn=>B_j (F_j n) n l ((21-(k+1):Nat):Int)) _;unfold B_j;rw[Q4 (show¬(20:Int)<((21-(k+1):Nat):Int)by omega)];exact Ym (Ea e.ev (Qa _))
def Cs:Nat->Nat
 |0=>500
 |k+1=>4194304+2*Cs k
theorem Qob:∀k,k<22->Cs k<=1125899906842624:=by decide
theorem QgL:∀(k:Nat) (l:List Step),k<=21->l.length<=1048576->(∀x∈l,Step.wf x)->∃v:Nat,v<=Cs k/\(v<500->l.length<=v)/\Ev (λn=>F_g n l ((21-k:Nat):Int)) (v:Int):=by
 intro k
 induction k with
 |zero=>
  intro l _ G m;refine⟨500,X0 _,by omega,Y0 ?_⟩;show Ev (λn=>B_g (F_g n) n l ((21-0:Nat):Int)) _;unfold B_g;exact Qa _
 |succ k t=>
  intro l T G m;have P:=Qob k (by omega);have H:=Qob (k+1) (by omega);have J:Cs (k+1)=4194304+2*Cs k:=rfl;have loop:∀(r:List Step) (i a:Nat),l.drop i=r->i<=l.length->a<=Cs (k+1)->∃v:Nat,v<=Cs (k+1)/\a<=v/\EvI (λn=>F_fv n l ((21-(k+1):Nat):Int) (F_g n)) ((a:Int),(i:Int)) (v:Int):=by
   intro r
   induction r with
   |nil=>
    intro i a g s e;refine⟨a,e,X0 _,Ej ?_⟩;unfold F_fv;simp only[YG g s,cond_false,XQ];exact Qa _
   |cons p r d=>
    intro i a g s e;obtain⟨b,j⟩:=QT (by omega) g;obtain⟨O,z,q⟩:=Qag (m p b.mem);by_cases W:a<500
    .obtain⟨u,V,F⟩:=QhA 21 [p.Cond] (X0 _) (by simp) (by simpa using O);obtain⟨x,R,_,B⟩:=t p.Then (by omega) z.1 z.2;obtain⟨y,y1,_,E⟩:=t p.Else (by omega) q.1 q.2;have M:IntKind.i64.wrap (((21-(k+1):Nat):Int)+1)=((21-k:Nat):Int):=by rw[QO (by omega) (by omega)];omega
     have Q:IntKind.i64.wrap ((a:Int)+(u:Int))=((a+u:Nat):Int):=by rw[QO (by omega) (by omega)];omega
     have L:IntKind.i64.wrap (((a+u:Nat):Int)+(x:Int))=((a+u+x:Nat):Int):=by rw[QO (by omega) (by omega)];omega
     have N:IntKind.i64.wrap (((a+u+x:Nat):Int)+(y:Int))=((a+u+x+y:Nat):Int):=by rw[QO (by omega) (by omega)];omega
     obtain⟨v,f,w,h⟩:=d (i+1) (a+u+x+y) j (by have:=b.lt';omega) (by omega);refine⟨v,f,by omega,Eu ?_ h⟩;unfold F_fv;simp only[b.lt,cond_true,b.ix,XQ,b.nx,Yh (show(a:Int)<500 by omega),M];refine Ea F (Ea B (Ea E ?_));rw[Q,L,N];exact Qa _
    .refine⟨a,e,X0 _,Ej ?_⟩;unfold F_fv;simp only[b.lt,cond_true,XQ,Q4 (show¬(a:Int)<500 by omega),cond_false];exact Qa _
  obtain⟨v,f,w,h⟩:=loop l 0 l.length rfl (X2 _) (by omega);refine⟨v,f,λ_=>w,Y0 ?_⟩;show Ev (λn=>B_g (F_g n) n l ((21-(k+1):Nat):Int)) _;unfold B_g;rw[Q4 (show¬(20:Int)<((21-(k+1):Nat):Int)by omega)];exact Ym (Ea h.ev (Qa _))
theorem QjZ(c:Course)(w:CourseOk c)(q:PartsOk c)(G:c.Ties.length<=1048576)(F:∀x∈c.Ties,Step.wf x):∃b,Ev (λn=>F_z n c) b/\(b=true->FewL c):=by
 have W:=w.dist;have Q:=w.mats;have loop:∀(r:List Distance) (i:Nat),c.Distances.drop i=r->i<=c.Distances.length->∃a:Ctl Unit Bool,EvI (λn=>F_fu n c) (i:Int) a/\(a=.done false\/(a=.cont ()/\ ∀d∈r,d.Cutoffs.length<=12/\szPs d.Route<=24)):=by
  intro r
  induction r with
  |nil=>
   intro i s B;refine⟨.cont (),Ej ?_,.inr ⟨rfl,λd h=>by cases h⟩⟩;unfold F_fu;simp only[YG s B,cond_false];exact Qa _
  |cons d r p=>
   intro i s B;obtain⟨e,z⟩:=QT (by omega) s;obtain⟨v,J,u,k⟩:=Qh0 21 d.Route (X0 _) (q.len d e.mem) (q.wf d e.mem);have step:Ev (λn=>F_fu n c (i:Int)) (bif (decide ((24:Int)<(v:Int))||(decide (12<(d.Cutoffs.length:Int))||decide (60<(d.Name.length:Int))))then .done (.done false)else .cont ((i+1:Nat):Int)):=by
    unfold F_fu;simp only[e.lt,cond_true,e.ix,XQ,e.nx];refine Ea (v:=decide ((24:Int)<(v:Int))||(decide (12<(d.Cutoffs.length:Int))||decide (60<(d.Name.length:Int)))) (Ea k (Qi λ_=>Qi λ_=>Qa _)) ?_;cases(decide ((24:Int)<(v:Int))||(decide (12<(d.Cutoffs.length:Int))||decide (60<(d.Name.length:Int))))<;>exact Qa _
   cases f:(decide ((24:Int)<(v:Int))||(decide (12<(d.Cutoffs.length:Int))||decide (60<(d.Name.length:Int))))with
   |true=>
    rw[f]at step;exact⟨.done false,Ej step,.inl rfl⟩
   |false=>
    rw[f]at step;obtain⟨a,j,g⟩:=p (i+1) z (by have:=e.lt';omega);refine⟨a,Eu step j,?_⟩;rcases g with g|⟨g,t⟩
    .exact .inl g
    .refine .inr ⟨g,λx y=>?_⟩;rcases Ve.1 y with rfl|y
     .simp only[X5,decide_eq_false_iff_not]at f;have:=u (by omega);exact⟨by omega,by omega⟩
     .exact t x y
 obtain⟨a,j,g⟩:=loop c.Distances 0 rfl (X2 _);rcases g with rfl|⟨rfl,t⟩
 .refine⟨false,?_,λh=>by cases h⟩;unfold F_z;exact Ea j.ev (Qa _)
 .have H:∃a:Ctl Unit Bool,Ev (λn=>iter (F_hn n c) n (0:Int)) a/\(a=.done false\/a=.cont ()):=by
   refine⟨_,Yv c.Mats (λm=> !decide (60<(m.Name.length:Int))) (Ctl.done false) (Ctl.cont ()) (by omega) (λi x e=>?_) ?_,?_⟩
   .unfold F_hn;simp only[e.lt,cond_true,e.ix,XQ,e.nx];cases decide (60<(x.Name.length:Int))<;>exact Qa _
   .unfold F_hn;simp only[YR,cond_false];exact Qa _
   .cases c.Mats.all (λm=> !decide (60<(m.Name.length:Int)))with
    |true=>exact .inr rfl
    |false=>exact .inl rfl
  obtain⟨E,l,L⟩:=H;rcases L with rfl|rfl
  .refine⟨false,?_,λh=>by cases h⟩;unfold F_z;exact Ea j.ev (Ea l (Qa _))
  .obtain⟨v,J,u,k⟩:=QgL 21 c.Ties (X0 _) G F;cases f:(decide (12<(c.Mats.length:Int))||(decide (30<(c.Legs.length:Int))||(decide (4<(c.Distances.length:Int))||(decide (6<(c.Waves.length:Int))||(decide (6<(c.Offences.length:Int))||(decide (6<(c.Categories.length:Int))||(decide (6<(c.Prizes.length:Int))||decide (60<(c.Name.length:Int)))))))))with
   |true=>
    refine⟨false,?_,λh=>by cases h⟩;unfold F_z;refine Ea j.ev (Ea l (Ea (v:=true) (Ev.eq (Qi λ_=>Qi λ_=>Qi λ_=>Qi λ_=>Qi λ_=>Qi λ_=>Qi λ_=>Qa _) f) (Qa _)))
   |false=>
    refine⟨decide ((v:Int)<=100),?_,λh=>?_⟩
    .unfold F_z;refine Ea j.ev (Ea l (Ea (v:=false) (Ev.eq (Qi λ_=>Qi λ_=>Qi λ_=>Qi λ_=>Qi λ_=>Qi λ_=>Qi λ_=>Qa _) f) (Ea k (Qa _))))
    .have h:=of_decide_eq_true h;have:=u (by omega);simp only[X5,decide_eq_false_iff_not]at f;obtain⟨M,R,O,V,P,T,X,N⟩:=f;exact⟨by unfold lensC;omega,by omega,t,by omega⟩
set_option maxRecDepth 4000
def cmpI(a b:Int):Int:=bif decide (a<b)then-1 else bif decide (b<a)then 1 else 0
theorem Qjj(n:Nat)(a b:Int):F_e n a b=some (cmpI a b):=by
 unfold F_e F_az cmpI;simp only[XQ,bne_self_eq_false,cond_false];cases decide (a<b)with
 |true=>rfl
 |false=>cases decide (b<a)<;>rfl
def orL:List Int->Int
 |[]=>0
 |x::r=>bif x != 0 then x else orL r
theorem Qn7(l:List Int)(k:l.length<=1000):Ev (λn=>F_n n l) (orL l):=by
 unfold F_n;have loop:∀(r:List Int) (i:Nat),l.drop i=r->i<=l.length->EvI (λn=>F_ao n l) (i:Int) (bif orL r==0 then Ctl.cont ()else Ctl.done (orL r)):=by
  intro r
  induction r with
  |nil=>
   intro i b f;refine Ej ?_;unfold F_ao;simp only[YG b f,cond_false];exact Qa _
  |cons x r g=>
   intro i b f;obtain⟨a,d⟩:=QT (by omega) b;have j:=a.lt';unfold orL;cases q:(x != 0)with
   |true=>
    have e:(x==0)=false:=by simpa[bne]using q
    simp only[cond_true,e,cond_false];refine Ej ?_;unfold F_ao;simp only[a.lt,cond_true,a.ix,XQ,q];exact Qa _
   |false=>
    simp only[cond_false];refine Eu ?_ (g (i+1) d (by omega));unfold F_ao;simp only[a.lt,cond_true,a.ix,XQ,q,cond_false,a.nx];exact Qa _
 refine Ea (loop l 0 rfl (X2 _)).ev ?_;cases h:(orL l==0)with
 |true=>
  have e:orL l=0:=by simpa using h
  rw[e];exact Qa _
 |false=>exact Qa _
theorem QlD{β:Type}(m:List (Int×β))(k:Int):Qe6 m k=(YK m k).isSome:=by
 unfold Qe6 YK;rw[Option.isSome_map]
 induction m with
 |nil=>rfl
 |cons p m a=>
  rw[List.any_cons,List.find?_cons,a];cases decide (p.1=k)<;>rfl
theorem Qg0{β:Type}(m:List (Int×β))(k:Int):k∈m.map Prod.fst↔ ∃v,YK m k=some v:=by
 have h:=QlD m k;rw[<- Option.isSome_iff_exists, <- h];unfold Qe6;simp only[Xx,decide_eq_true_eq,Xf]
theorem QgZ{β:Type}(m:List (Int×β))(k:Int)(v:β):(QW m k v).length<=m.length+1:=by
 have:=congrArg List.length (QbJ m k v);rw[X9]at this;rw[this];split<;>simp
theorem Qef{β:Type}{m:List (Int×β)}(k:Int)(v:β)(h:(m.map Prod.fst).Nodup):((QW m k v).map Prod.fst).Nodup:=by
 have e:=QbJ m k v;have i:(QW m k v).map Prod.fst=if k∈m.map Prod.fst then m.map Prod.fst else m.map Prod.fst++[k]:=e
 rw[i];split
 .exact h
 .rename_i f;rw[List.nodup_append];refine⟨h,by simp,λa g b d=>?_⟩;rw[List.mem_singleton]at d;rintro rfl;exact f (d▸g)
theorem Qfq{l m:List Int}(h:l.Perm m):QaB ltI l=QaB ltI m:=
 QaA ((QK ltI l).trans (h.trans (QK ltI m).symm)) (λx _ y _ a b=>by simp[ltI]at*;omega) (Yy (Qcr l)) (Yy (Qcr m))
theorem Qjd{n:Nat}(h:n<=1048576):Nat.ble n QR=true:=XZ (X3 h (by decide))
theorem or2(n:Nat)(a b:Int):F_n (n+3) [a,b]=some (orL [a,b]):=by
 unfold F_n;have d:F_ao (n+3) [a,b] 0=bif a != 0 then some (.done (.done a))else some (.cont 1):=rfl
 have f:F_ao (n+3) [a,b] 1=bif b != 0 then some (.done (.done b))else some (.cont 2):=rfl
 have e:F_ao (n+3) [a,b] 2=some (.done (.cont ())):=rfl;unfold orL orL orL;rw[iter,d];cases q:(a != 0)with
 |true=>rfl
 |false=>
  simp only[cond_false];rw[iter,f];cases g:(b != 0)with
  |true=>rfl
  |false=>
   simp only[cond_false];rw[iter,e];rfl
set_option maxRecDepth 4000
section
variable {α:Type}{c d:α->α->Int}
end
theorem QhY{c:Course}(h:Course.wf c):CourseOk c:=by
 obtain⟨l,⟨j,g⟩,⟨p,s⟩,⟨d,b⟩,⟨f,m⟩,⟨q,n⟩,⟨k,i⟩,⟨e,r⟩,_⟩:=h;exact⟨l,j,λx a=>(g x a).1,p,d,λx a=>(b x a).1,λx a=>(b x a).2.2.2.1.1,f,λx a=>(m x a).1,q,λx a=>(n x a).1,k,λx a=>(i x a).1,e⟩
theorem QiC{c:Course}(h:Course.wf c):PartsOk c:=by
 obtain⟨_,_,_,⟨e,b⟩,_⟩:=h;exact⟨λd a=>(b d a).2.1.1,λd a=>(b d a).2.1.2⟩
theorem QmW{c:Course}(h:Course.wf c):c.Ties.length<=1048576/\ ∀x∈c.Ties,Step.wf x:=by
 obtain⟨_,_,_,_,_,_,_,_,a,_⟩:=h;exact a
def EvL{S T B:Type}(step:Nat->S->Option (List T×Ctl S B))(s:S)(r:List T×B):Prop:=∃N,∀n k,N<=n->N<=k->Qbm (step n) k s=some r
theorem EvL.done{S T B:Type}{step:Nat->S->Option (List T×Ctl S B)}{s:S}{z:List T}{b:B}(h:Ev (λn=>step n s) (z,.done b)):EvL step s (z,b):=by
 obtain⟨N,h⟩:=h;refine⟨N+1,λn k a d=>?_⟩;obtain⟨j,rfl⟩:∃j,k=j+1:=⟨k-1,by omega⟩;simp only[Qbm,h n (by omega),XQ]
theorem EvL.cont{S T B:Type}{step:Nat->S->Option (List T×Ctl S B)}{s s':S}{z a:List T}{b:B}(h:Ev (λn=>step n s) (z,.cont s'))(q:EvL step s' (a,b)):EvL step s (z++a,b):=by
 obtain⟨N,h⟩:=h;obtain⟨M,q⟩:=q;refine⟨max N M+1,λn k d e=>?_⟩;obtain⟨j,rfl⟩:∃j,k=j+1:=⟨k-1,by omega⟩;simp only[Qbm,h n (by omega),XQ,q n j (by omega) (by omega)]
theorem EvL.ev{S T B:Type}{step:Nat->S->Option (List T×Ctl S B)}{s:S}{r:List T×B}(h:EvL step s r):Ev (λn=>Qbm (step n) n s) r:=by
 obtain⟨N,h⟩:=h;exact⟨N,λn a=>h n n a a⟩
theorem EvL.eq{S T B:Type}{step:Nat->S->Option (List T×Ctl S B)}{s:S}{r r':List T×B}(h:EvL step s r)(e:r=r'):EvL step s r':=e▸h
theorem Qbd(p:Nat->Bool):∀k,(∀i,i<k->p i=true)\/ ∃j,j<k/\p j=false/\ ∀i,i<j->p i=true
 |0=>.inl λi h=>absurd h (Xo _)
 |k+1=>by
  rcases Qbd p k with h|⟨j,h1,h2,h3⟩
  .cases q:p k with
   |true=>exact .inl λi hi=>(Xq.1 hi).elim (h i) λe=>e▸q
   |false=>exact .inr ⟨k,Xp _,q,h⟩
  .exact .inr ⟨j,by omega,h2,h3⟩
theorem QjK{p:Nat->Bool}{k:Nat}:(List.range k).all p=true↔ ∀i,i<k->p i=true:=by simp[Xw]
theorem Yf{B:Type}{step:Nat->Int->Option (Ctl Int B)}(k:Nat)(p:Nat->Bool)(f b:B)
  (d:∀i,i<k->Ev (λn=>step n (i:Int)) (bif p i then .cont ((i+1:Nat):Int)else .done f))(l:Ev (λn=>step n (k:Int)) (.done b)):
  Ev (λn=>Go.Sw.iter (step n) n 0) (bif (List.range k).all p then b else f):=by
 rcases Qbd p k with h|⟨j,g,e,m⟩
 .rw[QjK.2 h];exact Ew (λi=>(i:Int)) k rfl (λi a=>(d i a).eq (by rw[h i a];rfl)) l
 .have:(List.range k).all p=false:=by
   rw[Bool.eq_false_iff];intro q;rw[QjK.1 q j g]at e;cases e
  rw[this];exact Ew (λi=>(i:Int)) j rfl (λi a=>(d i (by omega)).eq (by rw[m i a];rfl)) ((d j g).eq (by rw[e];rfl))
theorem atN{α:Type}{l:List α}{i:Nat}(hl:l.length<=1048576)(hi:i<l.length):At l i l[i]:=Jp (by omega) (XR hi)
theorem Q5{n:Nat}(h:n<=1048576):IntKind.i64.wrap ((n:Int)+1)=((n+1:Nat):Int):=Qay (by omega)
def segLt(x y:Segment):Bool:=decide (x.Mat<y.Mat)||((x.Mat==y.Mat)&&decide (x.Epoch<y.Epoch))
def cmpSeg(x y:Segment):Int:=orL [cmpI x.Mat y.Mat,cmpI x.Epoch y.Epoch]
theorem Qkf(x y:Segment):decide (0<=cmpSeg x y)= !segLt x y:=by
 unfold cmpSeg segLt orL orL orL cmpI;by_cases a:x.Mat<y.Mat
 .simp[a]
 .by_cases b:y.Mat<x.Mat
  .have:¬x.Mat=y.Mat:=by omega
   simp[a,b,this]
  .have:x.Mat=y.Mat:=by omega
   by_cases d:x.Epoch<y.Epoch
   .simp[a,b,this,d]
   .by_cases e:y.Epoch<x.Epoch
    .simp[a,b,this,d,e]
    .simp[a,b,this,d,e]
theorem QeD(a b:Int):Ev (λn=>F_e n a b) (cmpI a b):=QhW (Qa _) λn=>Qjj n a b
theorem Qhp(x y:Segment):Ev (λn=>F_ba n x y) (cmpSeg x y):=by
 unfold F_ba F_et;exact Ea (Ea (QeD _ _) (Ea (QeD _ _) (Ea (Qn7 _ (by simp)) (Qa _)))) (Qa _)
def timeB(x:Int):Bool:=inR (-1099511627776) 1099511627776 x
theorem Qj4(x:Int):Ev (λn=>F_ax n x) (timeB x):=by
 unfold F_ax timeB inR;exact Ea (Ei λ_=>Qa _) (Qa _)
def prevSeg(c:Clocks)(i:Nat)(x:Segment):Bool:=decide (0<(i:Int))&& !(match c.Segments[i-1]? with|some y=>segLt y x|none=>true)
def segBad(c:Clocks)(i:Nat)(x:Segment):Bool:=decide (x.Mat<0)||(decide (40<=x.Mat)||(decide (x.Epoch<0)||(decide (255<x.Epoch)||(!timeB x.Anchor||prevSeg c i x))))
def segsB(c:Clocks):Bool:=(List.range c.Segments.length).all λi=>match c.Segments[i]? with|some x=> !segBad c i x|none=>true
theorem Qct{α:Type}{l:List α}{i:Nat}{y:α}(d:l.length<=1048576)(b:0<i)(a:i<=l.length)(h:l[i-1]?=some y):idx l (IntKind.i64.wrap ((i:Int)-1))=some y:=by
 rw[QO (by omega) (by omega),show((i:Int)-1)=((i-1:Nat):Int)by omega];exact Qq h
theorem Qnm(c:Clocks)(f:c.Segments.length<=1048576):Ev (λn=>iter (F_hq n c) n 0) (bif segsB c then Ctl.cont ()else Ctl.done 160):=by
 unfold segsB;refine Yf c.Segments.length _ _ _ (λi k=>?_) ?_
 .have a:=atN f k;unfold F_hq;simp only[a.lt,cond_true,a.ix,XQ,a.nx,a.get];have:Ev (λn=>((bif decide ((c.Segments[i]).Mat<0)then some true else(bif decide (40<=(c.Segments[i]).Mat)then some true else(bif decide ((c.Segments[i]).Epoch<0)then some true else(bif decide (255<(c.Segments[i]).Epoch)then some true else(F_ax n (c.Segments[i]).Anchor).bind λd=>(bif (!d)then some true else(bif decide (0<(i:Int))then(idx c.Segments (IntKind.i64.wrap ((i:Int)-1))).bind λe=>(F_ba n e (c.Segments[i])).bind λb=>some (decide (0<=b))else some false)))))):Option Bool)) (segBad c i (c.Segments[i])):=by
   unfold segBad;refine Qi λ_=>Qi λ_=>Qi λ_=>Qi λ_=>Ea (Qj4 _) (Qi λ_=>?_);unfold prevSeg;refine Ei λh=>?_;have j:0<i:=by have:=of_decide_eq_true h;omega
   have g:i-1<c.Segments.length:=by omega
   rw[Qct f j (by omega) (XR g),XR g];simp only[XQ];exact Ea (Qhp _ _) ((Qa _).eq (Qkf _ _))
  refine Ea this ?_;cases segBad c i (c.Segments[i])<;>exact Qa _
 .unfold F_hq;simp only[YR,cond_false];exact Qa _
def farBad(x:Int):Bool:=decide (x< -2199023255552)||decide (2199023255552<x)
theorem Qj7(l:List Int)(a:l.length<=1048576):Ev (λn=>F_bb n l) (l.any farBad):=by
 unfold F_bb F_fo;refine Ev.contains l farBad (λn x=>F_ay n x) (by omega) λx _=>?_;unfold F_ay farBad;exact Ea (Qi λ_=>Qa _) (Qa _)
def rowB(c:Clocks)(i:Nat)(r:List Int):Bool:= !(((r.length:Int) != ((c.Segments.length+1:Nat):Int))||((r[i]?.getD 1 != 0)||r.any farBad))
def rowsB(c:Clocks):Bool:=(List.range c.Far.length).all λi=>match c.Far[i]? with|some r=>rowB c i r|none=>true
theorem Qnp(c:Clocks)(h0:c.Segments.length<=1048576)(j:c.Far.length<=1048576)(g:∀r∈c.Far,r.length<=1048576)(l:c.Far.length=c.Segments.length+1):
  Ev (λn=>iter (F_it n c) n 0) (bif rowsB c then Ctl.cont ()else Ctl.done 160):=by
 unfold rowsB;refine Yf c.Far.length _ _ _ (λi k=>?_) ?_
 .have a:=atN j k;unfold F_it;simp only[a.lt,cond_true,a.ix,XQ,a.nx,a.get,Q5 h0];have:Ev (λn=>((bif (((c.Far[i]).length:Int) != ((c.Segments.length+1:Nat):Int))then some true else(idx (c.Far[i]) (i:Int)).bind λe=>(bif (e != 0)then some true else(F_bb n (c.Far[i])).bind λb=>some b)):Option Bool)) (!rowB c i (c.Far[i])):=by
   unfold rowB;rw[Bool.not_not];refine Qi λh=>?_;have f:(c.Far[i]).length=c.Segments.length+1:=by
    have:((c.Far[i]).length:Int)=((c.Segments.length+1:Nat):Int):=by simpa[bne]using h
    omega
   have d:i<(c.Far[i]).length:=by omega
   rw[Qq (XR d),XR d];simp only[XQ,Option.getD_some];exact Qi λ_=>Ea (Qj7 _ (g _ a.mem)) (Qa _)
  refine Ea this ?_;cases rowB c i (c.Far[i])<;>exact Qa _
 .unfold F_it;simp only[YR,cond_false];exact Qa _
def farG(c:Clocks)(i j:Nat):Int:=((c.Far[i]?.getD [])[j]?).getD 0
structure Dims (c:Clocks):Prop where
 segs:c.Segments.length<=511
 far:c.Far.length=c.Segments.length+1
 row:∀i,i<c.Far.length->(c.Far[i]?.getD []).length=c.Segments.length+1
theorem Dims.get{c:Clocks}(d:Dims c){i j:Nat}(b:i<c.Segments.length+1)(e:j<c.Segments.length+1):c.Far[i]?=some (c.Far[i]?.getD [])/\(c.Far[i]?.getD [])[j]?=some (farG c i j):=by
 have a:i<c.Far.length:=by rw[d.far];exact b
 have f:=d.row i a;refine⟨by rw[XR a];rfl,?_⟩;unfold farG;have:j<(c.Far[i]?.getD []).length:=by omega
 rw[XR this];rfl
def triB(c:Clocks):Bool:=(List.range (c.Segments.length+1)).all λi=>(List.range (c.Segments.length+1)).all λj=>(List.range (c.Segments.length+1)).all λk=> !decide (IntKind.i64.wrap (farG c i j+farG c j k)<farG c i k)
theorem ltN{a b:Nat}(h:a<b):decide ((a:Int)<(b:Int))=true:=decide_eq_true (by omega)
theorem geN{a b:Nat}(h:b<=a):decide ((a:Int)<(b:Int))=false:=decide_eq_false (by omega)
theorem QoR(c:Clocks)(d:Dims c):Ev (λn=>iter (F_ih n c) n 0) (bif triB c then Ctl.cont ()else Ctl.done 160):=by
 have r:=d.segs;unfold triB;refine Yf (c.Segments.length+1) _ _ _ (λi b=>?_) ?_
 .unfold F_ih;have g:=(d.get b b).1;have h:=d.row i (by rw[d.far];exact b);simp only[Q5 (show c.Segments.length<=1048576 by omega),ltN b,cond_true,Qq g,XQ,Q5 (show i<=1048576 by omega)];refine Ea (Yf (c.Segments.length+1) (λj=>(List.range (c.Segments.length+1)).all λk=> !decide (IntKind.i64.wrap (farG c i j+farG c j k)<farG c i k)) (Ctl.done (Ctl.done (Ctl.done 160))) (Ctl.cont ()) (λj a=>?_) ?_) ?_
  .unfold F_jt;have m:=(d.get b a).2;have q:=(d.get a a).1;have e:=d.row j (by rw[d.far];exact a);simp only[h,ltN a,cond_true,Qq m,Qq q,XQ,Q5 (show j<=1048576 by omega)];refine Ea (Yf (c.Segments.length+1) (λk=> !decide (IntKind.i64.wrap (farG c i j+farG c j k)<farG c i k)) (Ctl.done (Ctl.done (Ctl.done (Ctl.done (Ctl.done 160))))) (Ctl.cont ()) (λk f=>?_) ?_) ?_
   .unfold F_kj;have l:=(d.get a f).2;have p:=(d.get b f).2;simp only[e,ltN f,cond_true,Qq l,Qq g,Qq p,XQ,Q5 (show k<=1048576 by omega)];cases decide (IntKind.i64.wrap (farG c i j+farG c j k)<farG c i k)<;>exact Qa _
   .unfold F_kj;simp only[e,geN (X0 _),cond_false];exact Qa _
   .cases(List.range (c.Segments.length+1)).all λk=> !decide (IntKind.i64.wrap (farG c i j+farG c j k)<farG c i k)<;>exact Qa _
  .unfold F_jt;simp only[h,geN (X0 _),cond_false];exact Qa _
  .cases(List.range (c.Segments.length+1)).all λj=>(List.range (c.Segments.length+1)).all λk=> !decide (IntKind.i64.wrap (farG c i j+farG c j k)<farG c i k)<;>exact Qa _
 .unfold F_ih;simp only[Q5 (show c.Segments.length<=1048576 by omega),geN (X0 _),cond_false];exact Qa _
def clkB(c:Clocks):Bool:= !(decide (511<(c.Segments.length:Int))||((c.Far.length:Int) != ((c.Segments.length+1:Nat):Int)))&&(segsB c&&(rowsB c&&triB c))
structure ClkW (c:Clocks):Prop where
 segs:c.Segments.length<=1048576
 far:c.Far.length<=1048576
 row:∀r∈c.Far,r.length<=1048576
theorem Qgn{c:Clocks}(f:¬511<(c.Segments.length:Int))(d:c.Far.length=c.Segments.length+1)(b:rowsB c=true):Dims c:=by
 refine⟨by omega,d,λi a=>?_⟩;have:=QjK.1 b i a;rw[XR a]at this⊢;simp only[rowB,Bool.not_eq_true',X5]at this;have e:((c.Far[i]).length:Int)=((c.Segments.length+1:Nat):Int):=by simpa[bne]using this.1
 simp only[Option.getD_some];omega
theorem Qmc(c:Clocks)(w:ClkW c):Ev (λn=>F_af n c) (bif clkB c then 0 else 160):=by
 unfold F_af clkB;simp only[Q5 w.segs];refine Ea (Qi λ_=>Qa _) ?_;cases a:(decide (511<(c.Segments.length:Int))||((c.Far.length:Int) != ((c.Segments.length+1:Nat):Int)))with
 |true=>exact Qa _
 |false=>
  simp only[Xi,Bool.true_and,X5,decide_eq_false_iff_not]at a⊢;have b:c.Far.length=c.Segments.length+1:=by
   have:(c.Far.length:Int)=((c.Segments.length+1:Nat):Int):=by simpa[bne]using a.2
   omega
  refine Ym (Ea (Qnm c w.segs) ?_);cases segsB c with
  |false=>exact Qa _
  |true=>
   refine Ea (Qnp c w.segs w.far w.row b) ?_;cases d:rowsB c with
   |false=>exact Qa _
   |true=>
    refine Ea (QoR c (Qgn a.1 b d)) ?_;cases triB c<;>exact Qa _
theorem Qkh{c:Clocks}(h:clkB c=true):Dims c:=by
 simp only[clkB,X4,Bool.not_eq_true',X5,decide_eq_false_iff_not]at h;have a:c.Far.length=c.Segments.length+1:=by
  have:(c.Far.length:Int)=((c.Segments.length+1:Nat):Int):=by simpa[bne]using h.1.2
  omega
 exact Qgn h.1.1 a h.2.2.1
theorem QgD{S B:Type}{step:Nat->S->Option (Ctl S B)}{s0:S}(a:Nat->S)(k:Nat)(p:Nat->Bool)(l b:B)(h0:a 0=s0)
  (e:∀i,i<k->(∀j,j<i->p j=true)->Ev (λn=>step n (a i)) (bif p i then .cont (a (i+1))else .done l))(r:(∀j,j<k->p j=true)->Ev (λn=>step n (a k)) (.done b)):
  Ev (λn=>Go.Sw.iter (step n) n s0) (bif (List.range k).all p then b else l):=by
 rcases Qbd p k with h|⟨j,m,f,g⟩
 .rw[QjK.2 h];exact Ew a k h0 (λi d=>(e i d λj s=>h j (by omega)).eq (by rw[h i d];rfl)) (r h)
 .have:(List.range k).all p=false:=by
   rw[Bool.eq_false_iff];intro q;rw[QjK.1 q j m]at f;cases f
  rw[this];exact Ew a j h0 (λi d=>(e i (by omega) λj s=>g j (by omega)).eq (by rw[g i d];rfl)) ((e j m g).eq (by rw[f];rfl))
structure FewF (f:Field):Prop where
 runs:f.Runners.length<=6
 pairs:f.Pairs.length<=3
 segs:f.Clocks.Segments.length<=4
 far:f.Clocks.Far.length<=6
 row:∀r∈f.Clocks.Far,r.length<=8
 keys:∀r∈f.Runners,r.Keys.length<=5
 wlds:∀r∈f.Runners,r.Worlds.length<=4
 outs:∀r∈f.Runners,∀w∈r.Worlds,w.length<=4
theorem FewF.clk{f:Field}(h:FewF f):ClkW f.Clocks:=⟨by have:=h.segs;omega,by have:=h.far;omega,λr hr=>by have:=h.row r hr;omega⟩
def fineO(c:Clocks)(x:Outcome):Bool:=decide (-1<=x.Seg)&&(decide (x.Seg<(c.Segments.length:Int))&&(decide (-288230376151711744<=x.Lo)&&(decide (x.Lo<=x.Hi)&&decide (x.Hi<=288230376151711744))))
def outB(c:Clocks)(x:Outcome):Bool:=bif x.Out then x==({Out:=true,Seg:=(-1),Lo:=0,Hi:=0:Outcome})else fineO c x
theorem Qhs(c:Clocks)(w:ClkW c)(h:clkB c=true)(x:Outcome):Ev (λn=>F_ea n c x) (bif outB c x then 0 else 230):=by
 unfold F_ea;refine Ea (Qmc c w) ?_;rw[h];refine Ym (Ea (v:=fineO c x) (Ei λ_=>Ei λ_=>Ei λ_=>Ei λ_=>Qa _) ?_);refine Ea (v:=outB c x) ?_ ?_
 .unfold outB F_gw;exact YN (λ_=>Ea (Qa _) (Qa _)) (λ_=>Qa _)
 .cases outB c x<;>exact Qa _
def pairBad(p last:Pair):Bool:=decide (p.A<1)||(decide (p.B<=p.A)||(decide (9999<p.B)||(decide (p.A<last.A)||((p.A==last.A)&&decide (p.B<=last.B)))))
def lastP(f:Field):Nat->Pair
 |0=>{A:=0,B:=0}
 |j+1=>(f.Pairs[j]?).getD {A:=0,B:=0}
def pairsB(f:Field):Bool:=(List.range f.Pairs.length).all λi=> !pairBad (lastP f (i+1)) (lastP f i)
theorem Qj6(f:Field)(b:f.Pairs.length<=1048576):Ev (λn=>iter (F_je n f) n ({A:=0,B:=0:Pair},0)) (bif pairsB f then Ctl.cont ()else Ctl.done 240):=by
 unfold pairsB;refine QgD (λi=>(lastP f i,(i:Int))) f.Pairs.length _ _ _ rfl (λi hi _=>?_) (λ_=>?_)
 .have a:=atN b hi;have e:lastP f (i+1)=f.Pairs[i]:=by show(f.Pairs[i]?).getD _=_;rw[XR hi];rfl
  unfold F_je;simp only[a.lt,cond_true,a.ix,XQ,a.nx,e];refine Ea (v:=pairBad f.Pairs[i] (lastP f i)) ?_ ?_
  .unfold pairBad;exact Qi λ_=>Qi λ_=>Qi λ_=>Qi λ_=>Ei λ_=>Qa _
  .cases pairBad f.Pairs[i] (lastP f i)<;>exact Qa _
 .unfold F_je;simp only[YR,cond_false];exact Qa _
theorem Qka(l:List (List Outcome))(j:l.length<=1048576)(k:l.flatten.length<=1048576):Ev (λn=>F_dm n l) l.flatten:=by
 have b:∀i,((l.take i).flatten).length<=l.flatten.length:=by
  intro i
  conv=>rhs;rw[<- XF i l]
  rw[Xv,Va];omega
 have a:∀i x,At l i x->(l.take (i+1)).flatten=(l.take i).flatten++x:=by
  intro i x d;rw[d.take,Xv];simp
 unfold F_dm;refine Ea (v:=(l.flatten.length:Int)) ?_ (Ea (v:=[]) ?_ (Ea (v:=l.flatten) ?_ (Qa _)))
 .refine(Ew (λi=>((((l.take i).flatten).length:Int),(i:Int))) l.length rfl (λi h=>?_) ?_)
  .have d:=atN j h;have f:=b (i+1);rw[a i _ d,Va]at f;have e:IntKind.i64.wrap ((((l.take i).flatten).length:Int)+((l[i]).length:Int))=((((l.take i).flatten).length+(l[i]).length:Nat):Int):=by rw[QO (by omega) (by omega)];omega
   unfold F_jl;simp only[d.lt,cond_true,d.ix,XQ,d.nx,e,Q4 (show¬((((l.take i).flatten).length+(l[i]).length:Nat):Int)<0 by omega),cond_false];rw[a i _ d,Va];exact Qa _
  .unfold F_jl;simp only[YR,cond_false,Vh];exact Qa _
 .unfold F_ge;simp only[Q4 (show¬(l.flatten.length:Int)<0 by omega),cond_false,XQ,Int.sub_zero];have e:IntKind.i64.wrap (l.flatten.length:Int)=(l.flatten.length:Int):=QO (by omega) (by omega);rw[e];by_cases g:0<(l.flatten.length:Int)
  .rw[Yh g];have:room (l.flatten.length:Int)=some l.flatten.length:=by
    unfold room;rw[Yh g,Yh (show(l.flatten.length:Int)<=4294967296 by omega)];rfl
   rw[this];exact Qa _
  .rw[Q4 g];exact Qa _
 .refine(Ew (λi=>((l.take i).flatten,(i:Int))) l.length rfl (λi h=>?_) ?_)
  .have d:=atN j h;have f:=b (i+1);rw[a i _ d,Va]at f;unfold F_kd;simp only[d.lt,cond_true,d.ix,XQ,d.nx,QdK _ _ (show((l.take i).flatten).length+(l[i]).length<=4294967296 by omega)];rw[a i _ d];exact Qa _
  .unfold F_kd;simp only[YR,cond_false,Vh];exact Qa _
def lastB(f:Field):Nat->Int
 |0=>0
 |j+1=>((f.Runners[j]?).map (·.Bib)).getD 0
def keys0(f:Field):Nat:=((f.Runners[0]?).map (·.Keys.length)).getD 0
def runBad(f:Field)(last:Int)(r:Runner):Bool:=decide (r.Bib<=last)||(decide (9999<r.Bib)||(((r.Keys.length:Int) != (keys0 f:Int))||((r.Worlds.length:Int) != ((f.Pairs.length+1:Nat):Int))))
def runB(f:Field)(i:Nat):Bool:=match f.Runners[i]? with
 |some r=> !runBad f (lastB f i) r&&r.Worlds.flatten.all (outB f.Clocks)
 |none=>true
def runsB(f:Field):Bool:=(List.range f.Runners.length).all (runB f)
theorem Qne{l:List (List Outcome)}(h:∀w∈l,w.length<=4):l.flatten.length<=4*l.length:=by
 induction l with
 |nil=>simp
 |cons w r a=>
  have e:=h w (Vc ..);have d:=a λx b=>h x (Vd _ b);rw[Vt,Va,X8];omega
theorem Qnn(f:Field)(k:FewF f)(h:clkB f.Clocks=true):Ev (λn=>iter (F_is n f) n (0,0)) (bif runsB f then Ctl.cont ()else Ctl.done 240):=by
 have p:=k.runs;have r:=k.pairs;unfold runsB;refine QgD (λi=>(lastB f i,(i:Int))) f.Runners.length _ _ _ rfl (λi hi _=>?_) (λ_=>?_)
 .have a:=atN (by omega) hi;have e:lastB f (i+1)=(f.Runners[i]).Bib:=by show((f.Runners[i]?).map (·.Bib)).getD 0=_;rw[XR hi];rfl
  have l:0<f.Runners.length:=by omega
  have g:idx f.Runners 0=some f.Runners[0]:=Qq (i:=0) (XR l);have b:keys0 f=(f.Runners[0]).Keys.length:=by unfold keys0;rw[XR l];rfl
  unfold F_is runB;rw[a.get];simp only[a.lt,cond_true,a.ix,XQ,a.nx,g,Q5 (show f.Pairs.length<=1048576 by omega)];refine Ea (v:=runBad f (lastB f i) f.Runners[i]) ?_ ?_
  .unfold runBad;rw[b];exact Qi λ_=>Qi λ_=>Qi λ_=>Qa _
  .cases runBad f (lastB f i) f.Runners[i]with
   |true=>exact Qa _
   |false=>
    have q:=k.wlds _ a.mem;have m:=Qne (k.outs _ a.mem);simp only[cond_false,Xi,Bool.true_and];refine Ea (Qka _ (by omega) (by omega)) ?_;refine Ea (Yv (f.Runners[i]).Worlds.flatten (outB f.Clocks) (Ctl.done (Ctl.done (Ctl.done 240))) (Ctl.cont ()) (by omega) (λj x d=>?_) ?_) ?_
    .unfold F_jv;simp only[d.lt,cond_true,d.ix,XQ,d.nx];refine Ea (Qhs _ k.clk h x) ?_;cases outB f.Clocks x<;>exact Qa _
    .unfold F_jv;simp only[YR,cond_false];exact Qa _
    .cases(f.Runners[i]).Worlds.flatten.all (outB f.Clocks)with
     |false=>exact Qa _
     |true=>simp only[cond_true, <- e];exact Qa _
 .unfold F_is;simp only[YR,cond_false];exact Qa _
def wld(r:Runner)(w:Nat):List Outcome:=(r.Worlds[w]?).getD []
def openW(f:Field)(w:Nat):Bool:= !(f.Runners.any λr=>(wld r w).isEmpty)
def possB(f:Field):Bool:=(List.range (f.Pairs.length+1)).any (openW f)
def WldOk(f:Field):Prop:=∀r∈f.Runners,r.Worlds.length=f.Pairs.length+1
theorem QdR{f:Field}(h:WldOk f){r:Runner}(a:r∈f.Runners){w:Nat}(b:w<f.Pairs.length+1):idx r.Worlds (w:Int)=some (wld r w):=by
 have:w<r.Worlds.length:=by rw[h r a];exact b
 unfold wld;rw[Qq (XR this),XR this];rfl
theorem Qih(f:Field)(k:FewF f)(h:WldOk f){w:Nat}(a:w<f.Pairs.length+1):Ev (λn=>F_dw n f.Runners (w:Int)) (f.Runners.any λr=>(wld r w).isEmpty):=by
 have d:=k.runs;unfold F_dw F_fa;refine Ev.contains f.Runners (λr=>(wld r w).isEmpty) (λn x=>F_av n x (w:Int)) (by omega) λx b=>?_;unfold F_av;rw[QdR h b a];exact Ea (Qa _) ((Qa _).eq (QaV _))
theorem QdL{α:Type}(l:List α)(p:α->Bool):(l.all λx=> !p x)= !l.any p:=by rw[List.not_any_eq_all_not]
theorem Ql8(f:Field)(k:FewF f)(h:WldOk f):Ev (λn=>F_bi n f) (possB f):=by
 have b:=k.pairs;unfold F_bi;have:Ev (λn=>iter (F_iz n f) n 0) (bif (List.range (f.Pairs.length+1)).all (λi=> !openW f i)then Ctl.cont ()else Ctl.done true):=by
  refine Yf (f.Pairs.length+1) _ _ _ (λi a=>?_) ?_
  .unfold F_iz;simp only[Q5 (show f.Pairs.length<=1048576 by omega),ltN a,cond_true,Q5 (show i<=1048576 by omega)];refine Ea (Qih f k h a) ?_;unfold openW;cases f.Runners.any λr=>(wld r i).isEmpty<;>exact Qa _
  .unfold F_iz;simp only[Q5 (show f.Pairs.length<=1048576 by omega),geN (X0 _),cond_false];exact Qa _
 refine Ea this ?_;unfold possB;rw[QdL];cases(List.range (f.Pairs.length+1)).any (openW f)<;>exact Qa _
def fieldB(f:Field):Bool:=(clkB f.Clocks&& !(decide (16<(f.Pairs.length:Int))||(decide ((f.Runners.length:Int)<1)||decide (4000<(f.Runners.length:Int)))))&&(pairsB f&&(runsB f&&possB f))
theorem Qd1{f:Field}(h:runsB f=true):WldOk f:=by
 intro r b;obtain⟨i,a,e⟩:=List.mem_iff_getElem.1 b;have:=QjK.1 h i a;unfold runB at this;rw[XR a,e]at this;simp only[runBad,X4,Bool.not_eq_true',X5]at this;have q:(r.Worlds.length:Int)=((f.Pairs.length+1:Nat):Int):=by simpa[bne]using this.1.2.2.2
 omega
theorem Qhv(f:Field)(k:FewF f):Ev (λn=>F_q n f) (bif fieldB f then 0 else 240):=by
 unfold F_q fieldB;refine Ea (v:= !(clkB f.Clocks&& !(decide (16<(f.Pairs.length:Int))||(decide ((f.Runners.length:Int)<1)||decide (4000<(f.Runners.length:Int)))))) ?_ ?_
 .refine Ea (Qmc _ k.clk) ?_;cases clkB f.Clocks with
  |false=>exact Qa _
  |true=>
   simp only[Bool.true_and,Bool.not_not];exact Ym (Qi λ_=>Qi λ_=>Qa _)
 .cases a:clkB f.Clocks&& !(decide (16<(f.Pairs.length:Int))||(decide ((f.Runners.length:Int)<1)||decide (4000<(f.Runners.length:Int))))with
  |false=>exact Qa _
  |true=>
   have b:clkB f.Clocks=true:=by simp only[X4]at a;exact a.1
   simp only[Xh,cond_false,Bool.true_and];refine Ea (Qj6 f (by have:=k.pairs;omega)) ?_;cases pairsB f with
   |false=>exact Qa _
   |true=>
    refine Ea (Qnn f k b) ?_;cases d:runsB f with
    |false=>exact Qa _
    |true=>
     refine Ea (Ql8 f k (Qd1 d)) ?_;cases possB f<;>exact Qa _
structure FieldOk (f:Field):Prop where
 few:FewF f
 dims:Dims f.Clocks
 wlds:WldOk f
 outs:∀r∈f.Runners,∀w x,x∈wld r w->outB f.Clocks x=true
 ok:fieldB f=true
theorem QmZ{f:Field}(h:runsB f=true){r:Runner}(b:r∈f.Runners):r.Worlds.flatten.all (outB f.Clocks)=true:=by
 obtain⟨i,a,e⟩:=List.mem_iff_getElem.1 b;have:=QjK.1 h i a;unfold runB at this;rw[XR a,e]at this;simp only[X4]at this;exact this.2
theorem Qe3{f:Field}(k:FewF f)(h:fieldB f=true):FieldOk f:=by
 have d:=h;simp only[fieldB,X4]at d;obtain⟨⟨g,_⟩,_,b,_⟩:=d;refine⟨k,Qkh g,Qd1 b,λr e w x a=>?_,h⟩;refine Xw.1 (QmZ b e) x ?_;unfold wld at a;cases q:r.Worlds[w]? with
 |none=>rw[q]at a;cases a
 |some l=>rw[q]at a;exact List.mem_flatten.2 ⟨l,List.mem_of_getElem? q,a⟩
theorem QmU{f:Field}(o:FieldOk f){r:Runner}(a:r∈f.Runners)(w:Nat):(wld r w).length<=4:=by
 unfold wld;cases q:r.Worlds[w]? with
 |none=>simp
 |some l=>exact o.few.outs r a l (List.mem_of_getElem? q)
def cmpL:List Int->List Int->Int
 |[],[]=>0
 |[],_::_=> -1
 |_::_,[]=>1
 |x::a,y::b=>bif cmpI x y != 0 then cmpI x y else cmpL a b
theorem Qnv(a b:List Int)(w:a.length<=1048576)(B:b.length<=1048576):Ev (λn=>F_u n a b) (cmpL a b):=by
 unfold F_u;have g:∀(r:List Int) (i:Nat),a.drop i=r->i<=a.length->i<=b.length->∃d:Ctl Unit Int,EvI (λn=>F_dx n a b) (i:Int) d/\(match d with|.cont _=>(bif decide ((a.length:Int)<(b.length:Int))then(-1:Int)else 0)|.done v=>v)=cmpL r (b.drop i):=by
  intro r
  induction r with
  |nil=>
   intro i h p l;refine⟨.cont (),Ej ?_,?_⟩
   .unfold F_dx;simp only[YG h p,cond_false];exact Qa _
   .have e:i=a.length:=by have:=Xu.1 h;omega
    cases q:b.drop i with
    |nil=>
     have:=Xu.1 q;simp only[Q4 (show¬(a.length:Int)<(b.length:Int)by omega),cond_false,cmpL]
    |cons y s=>
     have:i<b.length:=by
      rcases Nat.lt_or_ge i b.length with z|z
      .exact z
      .rw[Xt z]at q;cases q
     simp only[Yh (show(a.length:Int)<(b.length:Int)by omega),cond_true,cmpL]
  |cons x r u=>
   intro i h p l;obtain⟨e,t⟩:=QT (by omega) h;by_cases k:b.length<=i
   .refine⟨.done 1,Ej ?_,?_⟩
    .unfold F_dx;simp only[e.lt,cond_true,e.ix,XQ,Yh (show(b.length:Int)<=(i:Int)by omega)];exact Qa _
    .rw[Xt k];rfl
   .have f:i<b.length:=by omega
    rw[Xs f];cases q:(cmpI x b[i] != 0)with
    |true=>
     refine⟨.done (cmpI x b[i]),Ej ?_,?_⟩
     .unfold F_dx;simp only[e.lt,cond_true,e.ix,XQ,Q4 (show¬(b.length:Int)<=(i:Int)by omega),cond_false,Qq (XR f)];refine Ea (QeD _ _) ?_;rw[q];exact Qa _
     .simp only[cmpL,q,cond_true]
    |false=>
     obtain⟨d,m,j⟩:=u (i+1) t (by have:=e.lt';omega) (by omega);refine⟨d,Eu ?_ m,?_⟩
     .unfold F_dx;simp only[e.lt,cond_true,e.ix,XQ,Q4 (show¬(b.length:Int)<=(i:Int)by omega),cond_false,Qq (XR f),e.nx];refine Ea (QeD _ _) ?_;rw[q];exact Qa _
     .simp only[cmpL,q,cond_false];exact j
 obtain⟨d,m,j⟩:=g a 0 rfl (X2 _) (X2 _);rw[List.drop_zero]at j;refine Ea m.ev ?_;rw[<- j];cases d with
 |done v=>exact Qa _
 |cont _=>exact YN (λ_=>Qa _) (λ_=>Qa _)
def sg(x:Outcome):Nat:=(x.Seg+1).toNat
theorem sg_ok{c:Clocks}{x:Outcome}(b:c.Segments.length<=511)(h:outB c x=true)(a:x.Out=false):sg x<c.Segments.length+1/\IntKind.i64.wrap (x.Seg+1)=(sg x:Int):=by
 unfold outB at h;rw[a]at h;simp only[cond_false,fineO,X4,decide_eq_true_eq]at h;obtain⟨e,d,_⟩:=h;unfold sg;rw[QO (by omega) (by omega)];omega
def keysF(f:Field)(k:Nat):List Int:=((f.Runners[k]?).map (·.Keys)).getD []
theorem Qi6{f:Field}{k:Nat}(a:k<f.Runners.length):idx f.Runners (k:Int)=some f.Runners[k]/\keysF f k=(f.Runners[k]).Keys:=by
 unfold keysF;exact⟨Qq (XR a),by rw[XR a];rfl⟩
theorem Qg3{f:Field}(o:FieldOk f){k:Nat}(a:k<f.Runners.length):(f.Runners[k]).Keys.length<=1048576:=by have:=o.few.keys _ (Vl a);omega
def wldF(f:Field)(k w:Nat):List Outcome:=((f.Runners[k]?).map (wld · w)).getD []
theorem QmV{f:Field}{k:Nat}(a:k<f.Runners.length)(w:Nat):wldF f k w=wld f.Runners[k] w:=by
 unfold wldF;rw[XR a];rfl
theorem QfV{f:Field}(o:FieldOk f){k w:Nat}(a:k<f.Runners.length)(b:w<f.Pairs.length+1):idx f.Runners (k:Int)=some f.Runners[k]/\idx (f.Runners[k]).Worlds (w:Int)=some (wldF f k w)/\(wldF f k w).length<=4/\ ∀y∈wldF f k w,outB f.Clocks y=true:=by
 rw[QmV a];exact⟨Qq (XR a),QdR o.wlds (Vl a) b,QmU o (Vl a) w,λy d=>o.outs _ (Vl a) w y d⟩
def cntR(p:Nat->Bool)(k:Nat):Nat:=((List.range k).filter p).length
theorem Yt(p:Nat->Bool)(k:Nat):cntR p (k+1)=cntR p k+(bif p k then 1 else 0):=by
 unfold cntR;rw[Xz,List.filter_append,Va];cases h:p k<;>simp[h]
theorem QnA(p:Nat->Bool)(k:Nat):cntR p k<=k:=by
 unfold cntR;exact X3 (List.length_filter_le ..) (by simp)
theorem Qc6{β:Type}(g:β->Nat->β)(b:β)(k:Nat):(List.range (k+1)).foldl g b=g ((List.range k).foldl g b) k:=by rw[Xz,XJ];rfl
def bibF(f:Field)(i:Nat):Int:=((f.Runners[i]?).map (·.Bib)).getD 0
theorem QnQ{α β:Type}{step:Nat->List β×Int->Option (Ctl (List β×Int) (List β))}(l:List α)(g:α->β)(d:l.length<=1048576)
  (e:∀i x acc,At l i x->acc.length<=i->Ev (λn=>step n (acc,(i:Int))) (.cont (acc++[g x],((i+1:Nat):Int))))(f:∀acc,Ev (λn=>step n (acc,(l.length:Int))) (.done acc)):
  Ev (λn=>Go.Sw.iter (step n) n ([],0)) (l.map g):=by
 refine Ew (λi=>((l.take i).map g,(i:Int))) l.length (by simp) (λi b=>?_) ((f _).eq (by rw[Vh]));have a:=atN d b;refine(e i _ _ a (by simp;omega)).eq ?_;rw[a.take,Xg];rfl
theorem QhU{α T:Type}{step:Nat->Int->Option (List T×Ctl Int Unit)}(l:List α)(g:α->T)(k:l.length<=1048576)
  (j:∀i x,At l i x->Ev (λn=>step n (i:Int)) ([g x],.cont ((i+1:Nat):Int)))(e:Ev (λn=>step n (l.length:Int)) ([],.done ())):EvL step 0 (l.map g,()):=by
 have loop:∀(r:List α) (i:Nat),l.drop i=r->i<=l.length->EvL step (i:Int) (r.map g,()):=by
  intro r
  induction r with
  |nil=>
   intro i a h;have:i=l.length:=by have:=Xu.1 a;omega
   subst this;exact EvL.done e
  |cons x r f=>
   intro i a h;obtain⟨d,b⟩:=QT (by omega) a;exact EvL.cont (j i x d) (f (i+1) b (by have:=d.lt';omega))
 exact loop l 0 rfl (X2 _)
abbrev MapI:=List (Int×Int)
def amtS(d k:Int)(m:MapI)(p:Prize):MapI:=bif (p.Distance==d)&&(p.Category==k)then QW m p.Rank p.Amount else m
def amtF(c:Course)(d k:Int):MapI:=c.Prizes.foldl (amtS d k) []
theorem Qil(c:Course)(d k:Int)(a:c.Prizes.length<=1048576):Ev (λn=>F_aj n c d k) (amtF c d k):=by
 unfold F_aj;refine Ea (Qbh (step:=λn=>F_iq n c d k) c.Prizes (amtS d k) [] (λm i=>(m,(i:Int))) (λm=>m) (by omega) rfl (λi x m ha _=>?_) ?_) (Qa _)
 .unfold F_iq;simp only[ha.lt,cond_true,ha.ix,XQ,ha.nx];refine Ea (v:=(x.Distance==d)&&(x.Category==k)) (Ei λ_=>Qa _) ?_;unfold amtS;cases(x.Distance==d)&&(x.Category==k)<;>exact Qa _
 .unfold F_iq;simp only[YR,cond_false];exact Qa _
def keysS(m:MapI):List Int:=QaB ltI (m.map Prod.fst)
theorem Qfp(m:MapI):(keysS m).length=m.length:=by unfold keysS;rw[(QK _ _).length_eq,X9]
theorem Qie(m:MapI)(b:m.length<=1048576):Ev (λn=>F_co n m) (keysS m):=by
 unfold F_co Qkk;have d:Nat.ble (List.map Prod.fst m).length QR=true:=Qjd (by rw[X9];exact b);rw[d];refine QhV (Ev.anyP λp a=>?_);have:p.length=m.length:=by rw[a.length_eq,X9]
 rw[QgN p (by omega),Qfq a];exact Qa _
def ordP(m:MapI):List (Int×Int):=(keysS m).map λk=>(k,QF m k 0)
theorem Qif(m:MapI)(b:m.length<=1048576):Ev (λn=>F_ae n m) (ordP m,()):=by
 unfold F_ae F_ff;simp only[XQ];refine Ea (Qie m b) ?_;have h:=Qfp m;refine Ea (QhU (step:=λn=>F_hz n m (keysS m)) (keysS m) (λk=>(k,QF m k 0)) (by omega) (λi x a=>?_) ?_).ev ((Qa _).eq ?_)
 .unfold F_hz;simp only[a.lt,cond_true,a.ix,XQ,a.nx];exact Qa _
 .unfold F_hz;simp only[YR,cond_false];exact Qa _
 .unfold ordP;simp
theorem Qly(m:MapI):(ordP m).length=m.length:=by unfold ordP;rw[X9,Qfp]
def checkV(e:Int)(c:Course)(f:Field)(d k:Int):Int:=
 bif e != 0 then e else bif decide (d<0)||(decide ((c.Distances.length:Int)<=d)||(decide (k< -1)||decide ((c.Categories.length:Int)<=k)))then 310 else bif fieldB f then 0 else 240
theorem Qj2(c:Course)(f:Field)(d k e:Int)(he:Ev (λn=>F_l n c) e)(a:FewF f):Ev (λn=>F_ah n c f d k) (checkV e c f d k):=by
 unfold F_ah checkV;refine Ea he ?_;refine YN (λ_=>Qa _) λ_=>?_;refine Ea (v:=decide (d<0)||(decide ((c.Distances.length:Int)<=d)||(decide (k< -1)||decide ((c.Categories.length:Int)<=k)))) (Qi λ_=>Qi λ_=>Qi λ_=>Qa _) ?_;refine YN (λ_=>Qa _) λ_=>?_;refine Ea (Qhv f a) ?_;cases fieldB f<;>exact Qa _
theorem QhE{e:Int}{c:Course}{f:Field}{d k:Int}(h:(checkV e c f d k != 0)=false):fieldB f=true:=by
 unfold checkV at h;cases q:(e != 0)with
 |true=>rw[q]at h;simp only[cond_true]at h;rw[q]at h;cases h
 |false=>
  rw[q]at h;cases a:(decide (d<0)||(decide ((c.Distances.length:Int)<=d)||(decide (k< -1)||decide ((c.Categories.length:Int)<=k))))with
  |true=>rw[a]at h;simp at h
  |false=>
   rw[a]at h;cases b:fieldB f with
   |true=>rfl
   |false=>rw[b]at h;simp at h
def payP(m:MapI):List Payment:=(ordP m).map λp=>{Bib:=p.1,Amount:=p.2}
theorem Qhr(m:MapI)(b:m.length<=1048576):Ev (λn=>F_ak n m) (payP m):=by
 unfold F_ak F_bc;simp only[XQ];refine Ea (Qif m b) ?_;have a:∀(l:List (Int×Int)) (s:List Payment),s.length+l.length<=1048576->Ev (λn=>Qcj (F_ir n) l s) (.cont (s++l.map λp=>({Bib:=p.1,Amount:=p.2}:Payment))):=by
  intro l
  induction l with
  |nil=>intro s _;exact(Qa _).eq (by simp)
  |cons x l d=>
   intro s h;rw[X8]at h;have step:Ev (λn=>F_ir n s x) (.cont (s++[({Bib:=x.1,Amount:=x.2}:Payment)])):=by
    unfold F_ir;rw[Qbc (by omega)];exact Qa _
   refine Ea step ((d _ (by simp;omega)).eq ?_);simp
 refine Ea (a (ordP m) [] (by rw[Qly];simpa using b)) ((Qa _).eq ?_);simp[payP]
theorem few25(f:Field)(w:Field.wf f):∃b,Ev (λn=>F_dc n f) b/\(b=true->FewF f):=by
 obtain⟨⟨⟨F,_⟩,⟨p,s⟩,_⟩,⟨G,_⟩,⟨B,k⟩,_⟩:=w;have d:∀r∈f.Runners,r.Keys.length<=1048576/\r.Worlds.length<=1048576/\ ∀x∈r.Worlds,x.length<=1048576:=λr a=>⟨(k r a).2.1.1,(k r a).2.2.1.1,λx m=>((k r a).2.2.1.2 x m).1⟩;have M:Runner->Bool:=λr=>true
 let okR:Runner->Bool:=λr=> !(decide (5<(r.Keys.length:Int))||decide (4<(r.Worlds.length:Int)))&&r.Worlds.all λx=> !decide (4<(x.length:Int))
 have z:Ev (λn=>iter (F_if n f) n 0) (bif f.Runners.all okR then Ctl.cont ()else Ctl.done false):=by
  refine Yv f.Runners okR _ _ (by omega) (λi x e=>?_) ?_
  .obtain⟨L,E,P⟩:=d x e.mem;unfold F_if;simp only[e.lt,cond_true,e.ix,XQ,e.nx];refine Ea (v:=decide (5<(x.Keys.length:Int))||decide (4<(x.Worlds.length:Int))) (Qi λ_=>Qa _) ?_;show Ev _ (bif !(decide (5<(x.Keys.length:Int))||decide (4<(x.Worlds.length:Int)))&&x.Worlds.all (λx=> !decide (4<(x.length:Int)))then _ else _);cases decide (5<(x.Keys.length:Int))||decide (4<(x.Worlds.length:Int))with
   |true=>exact Qa _
   |false=>
    simp only[cond_false,Xi,Bool.true_and];refine Ea (Yv x.Worlds (λx=> !decide (4<(x.length:Int))) (Ctl.done (Ctl.done (Ctl.done false))) (Ctl.cont ()) (by omega) (λj y l=>?_) ?_) ?_
    .unfold F_ju;simp only[l.lt,cond_true,l.ix,XQ,l.nx];cases decide (4<(y.length:Int))<;>exact Qa _
    .unfold F_ju;simp only[YR,cond_false];exact Qa _
    .cases x.Worlds.all λx=> !decide (4<(x.length:Int))<;>exact Qa _
  .unfold F_if;simp only[YR,cond_false];exact Qa _
 have t:Ev (λn=>iter (F_in n f) n 0) (bif f.Clocks.Far.all (λx=> !decide (8<(x.length:Int)))then Ctl.cont ()else Ctl.done false):=by
  refine Yv f.Clocks.Far _ _ _ (by omega) (λi x e=>?_) ?_
  .unfold F_in;simp only[e.lt,cond_true,e.ix,XQ,e.nx];cases decide (8<(x.length:Int))<;>exact Qa _
  .unfold F_in;simp only[YR,cond_false];exact Qa _
 refine⟨f.Runners.all okR&&(f.Clocks.Far.all (λx=> !decide (8<(x.length:Int)))&&(decide ((f.Runners.length:Int)<=6)&&(decide ((f.Pairs.length:Int)<=3)&&(decide ((f.Clocks.Segments.length:Int)<=4)&&decide ((f.Clocks.Far.length:Int)<=6))))),?_,λh=>?_⟩
 .unfold F_dc;refine Ea z ?_;cases f.Runners.all okR with
  |false=>exact Qa _
  |true=>
   refine Ea t ?_;cases f.Clocks.Far.all (λx=> !decide (8<(x.length:Int)))with
   |false=>exact Qa _
   |true=>exact Ea (Ei λ_=>Ei λ_=>Ei λ_=>Qa _) (Qa _)
 .simp only[X4,decide_eq_true_eq]at h;obtain⟨u,q,H,J,O,N⟩:=h;have g:∀r∈f.Runners,r.Keys.length<=5/\r.Worlds.length<=4/\ ∀x∈r.Worlds,x.length<=4:=by
   intro r a;have:=Xw.1 u r a;simp only[okR,X4,Bool.not_eq_true',X5,decide_eq_false_iff_not]at this;refine⟨by omega,by omega,λx m=>?_⟩;have:=Xw.1 this.2 x m;simp only[Bool.not_eq_true',decide_eq_false_iff_not]at this;omega
  refine⟨by omega,by omega,by omega,by omega,λr a=>?_,λr a=>(g r a).1,λr a=>(g r a).2.1,λr a=>(g r a).2.2⟩;have:=Xw.1 q r a;simp only[Bool.not_eq_true',decide_eq_false_iff_not]at this;omega
theorem QoY{f:Field}(h:runsB f=true){i:Nat}(a:i<f.Runners.length):lastB f i<(f.Runners[i]).Bib:=by
 have:=QjK.1 h i a;unfold runB at this;rw[XR a]at this;simp only[runBad,X4,Bool.not_eq_true',X5,decide_eq_false_iff_not]at this;omega
theorem QeK{f:Field}(h:runsB f=true):∀(j i:Nat) (b:i<f.Runners.length) (a:j<f.Runners.length),i<j->(f.Runners[i]).Bib<(f.Runners[j]).Bib
 |0,i,b,a,hij=>by omega
 |j+1,i,b,a,hij=>by
  have h1:=QoY h a;have e:lastB f (j+1)=(f.Runners[j]).Bib:=by
   show((f.Runners[j]?).map (·.Bib)).getD 0=_;rw[XR (by omega)];rfl
  rw[e]at h1;by_cases q:i=j
  .subst q;exact h1
  .have:=QeK h j i b (by omega) (by omega);omega
theorem FieldOk.runs{f:Field}(o:FieldOk f):runsB f=true:=by
 have:=o.ok;simp only[fieldB,X4]at this;exact this.2.2.1
theorem QnC{f:Field}(o:FieldOk f){i j:Nat}(b:i<f.Runners.length)(a:j<f.Runners.length)(e:(f.Runners[i]).Bib=(f.Runners[j]).Bib):i=j:=by
 rcases Nat.lt_trichotomy i j with q|q|q
 .have:=QeK o.runs j i b a q;omega
 .exact q
 .have:=QeK o.runs i j a b q;omega
theorem QdJ{f:Field}{i:Nat}(a:i<f.Runners.length):bibF f i=(f.Runners[i]).Bib:=by unfold bibF;rw[XR a];rfl
def matchP(d k r:Int)(p:Prize):Bool:=(p.Distance==d)&&((p.Category==k)&&(p.Rank==r))
def amountS(c:Course)(d k r:Int):Int:=((c.Prizes.find? (matchP d k r)).map (·.Amount)).getD 0
theorem Qgh(c:Course)(d k r:Int)(h:c.Prizes.length<=1048576):Ev (λn=>F_dd n c d k r) (amountS c d k r):=by
 unfold F_dd;have loop:∀(t:List Prize) (i:Nat),c.Prizes.drop i=t->i<=c.Prizes.length->EvI (λn=>F_gc n c d k r) (i:Int) (match t.find? (matchP d k r)with|some p=>Ctl.done p.Amount|none=>Ctl.cont ()):=by
  intro t
  induction t with
  |nil=>
   intro i e f;refine Ej ?_;unfold F_gc;simp only[YG e f,cond_false];exact Qa _
  |cons p t g=>
   intro i e f;obtain⟨a,b⟩:=QT (by omega) e;have step:Ev (λn=>F_gc n c d k r (i:Int)) (bif matchP d k r p then .done (.done p.Amount)else .cont ((i+1:Nat):Int)):=by
    unfold F_gc;simp only[a.lt,cond_true,a.ix,XQ,a.nx];refine Ea (v:=matchP d k r p) (Ei λ_=>Ei λ_=>Qa _) ?_;cases matchP d k r p<;>exact Qa _
   rw[List.find?_cons];cases q:matchP d k r p with
   |true=>rw[q]at step;exact Ej step
   |false=>rw[q]at step;exact Eu step (g (i+1) b (by have:=a.lt';omega))
 refine Ea (loop c.Prizes 0 rfl (X2 _)).ev ?_;unfold amountS;cases c.Prizes.find? (matchP d k r)<;>exact Qa _
theorem Qjs(d k r:Int):∀(l:List Prize) (m:MapI),YK (l.foldl (amtS d k) m) r=match(l.filter (matchP d k r)).getLast? with|some p=>some p.Amount|none=>YK m r
 |[],m=>rfl
 |p::l,m=>by
  rw[XK,Qjs d k r l];have e:YK (amtS d k m p) r=if matchP d k r p=true then some p.Amount else YK m r:=by
   unfold amtS matchP;cases f:p.Distance==d with
   |false=>simp
   |true=>
    cases b:p.Category==k with
    |false=>simp
    |true=>
     simp only[Bool.true_and,cond_true];rw[Qc2];by_cases q:r=p.Rank
     .simp[q]
     .have:(p.Rank==r)=false:=beq_false_of_ne λz=>q z.symm;simp[q,this]
  rw[e,Xd];by_cases q:matchP d k r p=true
  .rw[if_pos q,if_pos q];cases h:l.filter (matchP d k r)with
   |nil=>rfl
   |cons a t=>rw[List.getLast?_cons_cons];cases z:(a::t).getLast? with
    |none=>simp at z
    |some y=>rfl
  .rw[if_neg q,if_neg q]
theorem QjO{c:Course}(h:(c.Prizes.map prizeKey).Nodup)(d k r:Int):(c.Prizes.filter (matchP d k r)).length<=1:=by
 have f:((c.Prizes.filter (matchP d k r)).map prizeKey).Nodup:=(List.filter_sublist.map prizeKey).nodup h;have e:∀p∈c.Prizes.filter (matchP d k r),prizeKey p={distance:=d,category:=k,rank:=r}:=by
  intro p i;have:=(Xe.1 i).2;simp only[matchP,X4,beq_iff_eq]at this;unfold prizeKey;rw[this.1,this.2.1,this.2.2]
 match hq:c.Prizes.filter (matchP d k r),f,e with
 |[],_,_=>simp
 |[a],_,_=>simp
 |a::b::t,f,e=>
  have g:=e a (by simp);have j:=e b (by simp);simp only[Vr,List.nodup_cons]at f;exact(f.1 (by rw[g,j];simp)).elim
structure PrizesOk (c:Course):Prop where
 keys:(c.Prizes.map prizeKey).Nodup
 pos:∀p∈c.Prizes,1<=p.Amount
theorem QhL{c:Course}(h:courseE c=0):PrizesOk c:=by
 have d:numbersS c=true:=by
  unfold courseE at h;cases a:fitsS c with
  |false=>rw[a]at h;simp at h
  |true=>
   cases b:namesS c with
   |false=>rw[a,b]at h;simp at h
   |true=>
    cases f:numbersS c with
    |true=>rfl
    |false=>rw[a,b,f]at h;simp at h
 unfold numbersS at d;simp only[X4,decide_eq_true_eq,Xw]at d;obtain⟨_,_,_,_,_,_,_,a,b,_⟩:=d;refine⟨b,λp e=>?_⟩;have:=a p e;simp only[prizeS,inR,X4,decide_eq_true_eq]at this;omega
theorem Qo2{c:Course}(o:PrizesOk c)(d k r:Int):YK (amtF c d k) r=(c.Prizes.find? (matchP d k r)).map (·.Amount):=by
 unfold amtF;rw[Qjs, <- List.head?_filter];have:=QjO o.keys d k r
 match h:c.Prizes.filter (matchP d k r),this with
 |[],_=>rfl
 |[a],_=>rfl
 |a::b::t,z=>exact absurd z (by simp)
theorem QnH{c:Course}(o:PrizesOk c)(d k r:Int):QF (amtF c d k) r 0=amountS c d k r:=by
 have e:QF (amtF c d k) r 0=(YK (amtF c d k) r).getD 0:=by unfold QF;cases YK (amtF c d k) r<;>rfl
 rw[e,Qo2 o];rfl
theorem Qhz(c:Course)(w:CourseOk c)(q:PartsOk c)(k:FewL c)(g:c.Ties.length<=1048576)(h:∀x∈c.Ties,Step.wf x){e:Int}(he:Ev (λn=>F_l n c) e)(h0:(e != 0)=false):courseE c=0:=by
 have b:e=0:=by simpa[bne]using h0
 subst b;cases a:fitsG c with
 |false=>
  have:Ev (λn=>F_l n c) 2:=by
   unfold F_l;refine Ea (Qhu c w q k) ?_;rw[a];exact Qa _
  have:=he.uniq this;cases this
 |true=>
  unfold fitsG at a;simp only[X4,Xw,Bool.not_eq_true',X5,decide_eq_false_iff_not]at a;have ff:FewOk c:=⟨k.lens,k.name,λd f=>⟨by have:=(k.dist d f).1;omega,by have:=(k.dist d f).2;omega,by have:=(a.2 d f).2;omega⟩,k.ties⟩;exact(he.uniq (QfE c w q ff g h)).symm
theorem leN{a b:Nat}(h:a<b+1):decide ((a:Int)<=(b:Int))=true:=decide_eq_true (by omega)
theorem QjQ(b:Nat):decide (((b+1:Nat):Int)<=(b:Int))=false:=decide_eq_false (by omega)
theorem QlX(x:Int):Ev (λn=>F_bu n x) (timeB x):=by
 unfold F_bu timeB inR;exact Ea (Ei λ_=>Qa _) (Qa _)
theorem Ql2(x y:Segment):Ev (λn=>F_bl n x y) (segLt x y):=by
 unfold F_bl segLt;exact Ea (Qi λ_=>Ei λ_=>Qa _) (Qa _)
theorem QlY(c:Clocks)(b:c.Segments.length<=1048576):Ev (λn=>iter (F_im n c) n 0) (bif segsB c then Ctl.cont ()else Ctl.done 160):=by
 unfold segsB;refine Yf c.Segments.length _ _ _ (λi f=>?_) ?_
 .have a:=atN b f;unfold F_im;simp only[a.lt,cond_true,a.ix,XQ,a.nx,a.get];refine Ea (v:=segBad c i (c.Segments[i])) ?_ ?_
  .unfold segBad;refine Qi λ_=>Qi λ_=>Qi λ_=>Qi λ_=>Ea (QlX _) (Qi λ_=>?_);unfold prevSeg;refine Ei λh=>?_;have e:0<i:=by have:=of_decide_eq_true h;omega
   have d:i-1<c.Segments.length:=by omega
   rw[Qct b e (by omega) (XR d),XR d];simp only[XQ];exact Ea (Ql2 _ _) (Qa _)
  .cases segBad c i (c.Segments[i])<;>exact Qa _
 .unfold F_im;simp only[YR,cond_false];exact Qa _
theorem Qkl(l:List Int)(q:Int->Bool):(List.range l.length).all (λu=> !q ((l[u]?).getD 0))= !l.any q:=by
 rw[X6,QjK,Bool.not_eq_true',Bool.eq_false_iff];constructor
 .intro h e;obtain⟨x,d,b⟩:=Xx.1 e;obtain⟨i,a,f⟩:=List.mem_iff_getElem.1 d;have:=h i a;rw[XR a,f]at this;simp[b]at this
 .intro h i a;rw[XR a];cases z:q ((some l[i]).getD 0)with
  |false=>rfl
  |true=>exact(h (Xx.2 ⟨l[i],Vl a,z⟩)).elim
theorem Ql0(c:Clocks)(h0:c.Segments.length<=1048576)(p:∀r∈c.Far,r.length<=1048576)(l:c.Far.length=c.Segments.length+1):
  Ev (λn=>iter (F_ht n c) n 0) (bif rowsB c then Ctl.cont ()else Ctl.done 160):=by
 unfold rowsB;rw[l];refine Yf (c.Segments.length+1) _ _ _ (λi q=>?_) ?_
 .have b:i<c.Far.length:=by omega
  have g:=XR b;unfold F_ht;simp only[leN q,cond_true,Qq g,g,XQ,Q5 h0,Q5 (show i<=1048576 by omega)];have j:(c.Far[i]).length<=1048576:=p _ (Vl b);refine Ea (v:=((c.Far[i]).length:Int) != ((c.Segments.length+1:Nat):Int)||((c.Far[i])[i]?.getD 1 != 0)) ?_ ?_
  .refine Qi λh=>?_;have a:(c.Far[i]).length=c.Segments.length+1:=by
    have:((c.Far[i]).length:Int)=((c.Segments.length+1:Nat):Int):=by simpa[bne]using h
    omega
   have d:i<(c.Far[i]).length:=by omega
   rw[Qq (XR d),XR d];exact Qa _
  .unfold rowB;cases k:(((c.Far[i]).length:Int) != ((c.Segments.length+1:Nat):Int))with
   |true=>exact Qa _
   |false=>
    have a:(c.Far[i]).length=c.Segments.length+1:=by
     have:((c.Far[i]).length:Int)=((c.Segments.length+1:Nat):Int):=by simpa[bne]using k
     omega
    simp only[Bool.false_or];cases(c.Far[i])[i]?.getD 1 != 0 with
    |true=>exact Qa _
    |false=>
     simp only[Bool.false_or,cond_false];rw[<- Qkl,a];refine Ea (Yf (c.Segments.length+1) (λu=> !farBad (((c.Far[i])[u]?).getD 0)) (Ctl.done (Ctl.done (Ctl.done 160))) (Ctl.cont ()) (λu m=>?_) ?_) ?_
     .have f:u<(c.Far[i]).length:=by omega
      have e:=XR f;unfold F_jy;simp only[leN m,cond_true,Qq g,Qq e,e,XQ,Option.getD_some,Q5 (show u<=1048576 by omega)];refine Ea (v:=farBad (c.Far[i])[u]) (by unfold farBad;exact Qi λ_=>Qa _) ?_;cases farBad (c.Far[i])[u]<;>exact Qa _
     .unfold F_jy;simp only[QjQ,cond_false];exact Qa _
     .cases(List.range (c.Segments.length+1)).all λu=> !farBad (((c.Far[i])[u]?).getD 0)<;>exact Qa _
 .unfold F_ht;simp only[QjQ,cond_false];exact Qa _
theorem Qno(c:Clocks)(d:Dims c):Ev (λn=>iter (F_hp n c) n 0) (bif triB c then Ctl.cont ()else Ctl.done 160):=by
 have p:=d.segs;unfold triB;refine Yf (c.Segments.length+1) _ _ _ (λi b=>?_) ?_
 .unfold F_hp;have g:=(d.get b b).1;simp only[leN b,cond_true,Q5 (show i<=1048576 by omega)];refine Ea (Yf (c.Segments.length+1) (λj=>(List.range (c.Segments.length+1)).all λk=> !decide (IntKind.i64.wrap (farG c i j+farG c j k)<farG c i k)) (Ctl.done (Ctl.done (Ctl.done 160))) (Ctl.cont ()) (λj a=>?_) ?_) ?_
  .unfold F_ji;have h:=(d.get b a).2;have m:=(d.get a a).1;simp only[leN a,cond_true,Q5 (show j<=1048576 by omega)];refine Ea (Yf (c.Segments.length+1) (λk=> !decide (IntKind.i64.wrap (farG c i j+farG c j k)<farG c i k)) (Ctl.done (Ctl.done (Ctl.done (Ctl.done (Ctl.done 160))))) (Ctl.cont ()) (λk e=>?_) ?_) ?_
   .unfold F_jr;have f:=(d.get a e).2;have l:=(d.get b e).2;simp only[leN e,cond_true,Qq g,Qq h,Qq m,Qq f,Qq l,XQ,Q5 (show k<=1048576 by omega)];cases decide (IntKind.i64.wrap (farG c i j+farG c j k)<farG c i k)<;>exact Qa _
   .unfold F_jr;simp only[QjQ,cond_false];exact Qa _
   .cases(List.range (c.Segments.length+1)).all λk=> !decide (IntKind.i64.wrap (farG c i j+farG c j k)<farG c i k)<;>exact Qa _
  .unfold F_ji;simp only[QjQ,cond_false];exact Qa _
  .cases(List.range (c.Segments.length+1)).all λj=>(List.range (c.Segments.length+1)).all λk=> !decide (IntKind.i64.wrap (farG c i j+farG c j k)<farG c i k)<;>exact Qa _
 .unfold F_hp;simp only[QjQ,cond_false];exact Qa _
theorem Qjf(c:Clocks)(w:ClkW c):Ev (λn=>F_aa n c) (bif clkB c then 0 else 160):=by
 unfold F_aa clkB;simp only[Q5 w.segs];refine Ea (Qi λ_=>Qa _) ?_;cases a:(decide (511<(c.Segments.length:Int))||((c.Far.length:Int) != ((c.Segments.length+1:Nat):Int)))with
 |true=>exact Qa _
 |false=>
  simp only[Xi,Bool.true_and,X5,decide_eq_false_iff_not]at a⊢;have b:c.Far.length=c.Segments.length+1:=by
   have:(c.Far.length:Int)=((c.Segments.length+1:Nat):Int):=by simpa[bne]using a.2
   omega
  refine Ym (Ea (QlY c w.segs) ?_);cases segsB c with
  |false=>exact Qa _
  |true=>
   refine Ea (Ql0 c w.segs w.row b) ?_;cases d:rowsB c with
   |false=>exact Qa _
   |true=>
    refine Ea (Qno c (Qgn a.1 b d)) ?_;cases triB c<;>exact Qa _
theorem Qm5(c:Clocks)(x:Outcome):outB c x= !(bif x.Out then((x.Seg != (-1))||((x.Lo != 0)||(x.Hi != 0)))else(decide (x.Seg<(-1))||(decide ((c.Segments.length:Int)<=x.Seg)||(decide (x.Lo<(-288230376151711744))||(decide (x.Hi<x.Lo)||decide (288230376151711744<x.Hi)))))):=by
 obtain⟨o,s,l,h⟩:=x;unfold outB;cases o with
 |true=>
  simp only[cond_true];rw[X6];simp[bne]
 |false=>
  simp only[cond_false,fineO];rw[X6];simp
theorem Qgg(c:Clocks)(w:ClkW c)(h:clkB c=true)(x:Outcome):Ev (λn=>F_bq n c x) (bif outB c x then 0 else 230):=by
 unfold F_bq;refine Ea (Qjf c w) ?_;rw[h];refine Ym (Ea (v:= !outB c x) ?_ ?_)
 .rw[Qm5,Bool.not_not];cases a:x.Out with
  |true=>
   simp only[cond_true,Xh,cond_false];exact Qi λ_=>Qi λ_=>(Qi λ_=>Qa _).eq (Bool.or_false _)
  |false=>
   simp only[cond_false,Xi,cond_true];exact Qi λ_=>Qi λ_=>Qi λ_=>Qi λ_=>Qa _
 .cases outB c x<;>exact Qa _
theorem Qfs{α:Type}{l:List α}{i:Nat}(hl:l.length<=1048576)(hi:i<l.length):idx l (IntKind.i64.wrap (((i+1:Nat):Int)-1))=some l[i]:=
 Qct hl (Nat.succ_pos i) (by omega) (XR hi)
theorem Qj1(f:Field)(d:f.Pairs.length<=1048576):Ev (λn=>iter (F_ig n f) n 0) (bif pairsB f then Ctl.cont ()else Ctl.done 240):=by
 unfold pairsB;refine Yf f.Pairs.length _ _ _ (λi g=>?_) ?_
 .have b:=atN d g;have e:lastP f (i+1)=f.Pairs[i]:=by show(f.Pairs[i]?).getD _=_;rw[XR g];rfl
  unfold F_ig;simp only[b.lt,cond_true,b.ix,XQ,b.nx,e];refine Ea (v:=decide ((f.Pairs[i]).A<1)||(decide ((f.Pairs[i]).B<=(f.Pairs[i]).A)||decide (9999<(f.Pairs[i]).B))) (Qi λ_=>Qi λ_=>Qa _) ?_;have a:pairBad f.Pairs[i] (lastP f i)=((decide ((f.Pairs[i]).A<1)||(decide ((f.Pairs[i]).B<=(f.Pairs[i]).A)||decide (9999<(f.Pairs[i]).B)))||(decide ((f.Pairs[i]).A<(lastP f i).A)||(((f.Pairs[i]).A==(lastP f i).A)&&decide ((f.Pairs[i]).B<=(lastP f i).B)))):=by
   unfold pairBad;simp only[Bool.or_assoc]
  rw[a];cases l:(decide ((f.Pairs[i]).A<1)||(decide ((f.Pairs[i]).B<=(f.Pairs[i]).A)||decide (9999<(f.Pairs[i]).B)))with
  |true=>exact Qa _
  |false=>
   simp only[X5,decide_eq_false_iff_not]at l;simp only[cond_false,Bool.false_or];refine Ea (v:=decide ((f.Pairs[i]).A<(lastP f i).A)||(((f.Pairs[i]).A==(lastP f i).A)&&decide ((f.Pairs[i]).B<=(lastP f i).B))) ?_ ?_
   .cases i with
    |zero=>
     have m:(decide ((f.Pairs[0]).A<(lastP f 0).A)||(((f.Pairs[0]).A==(lastP f 0).A)&&decide ((f.Pairs[0]).B<=(lastP f 0).B)))=false:=by
      have k:((f.Pairs[0]).A==(0:Int))=false:=beq_false_of_ne (by omega);show(decide ((f.Pairs[0]).A<0)||(((f.Pairs[0]).A==0)&&_))=false;rw[k,Q4 (show¬(f.Pairs[0]).A<0 by omega)];rfl
     rw[m];exact Qa _
    |succ j=>
     have p:lastP f (j+1)=f.Pairs[j]:=by show(f.Pairs[j]?).getD _=_;rw[XR (by omega)];rfl
     rw[p,Qfs d (by omega)];simp only[Yh (show 0<((j+1:Nat):Int)by omega),cond_true,XQ];have h:((f.Pairs[j+1]).A==(f.Pairs[j]).A)=((f.Pairs[j]).A==(f.Pairs[j+1]).A):=by rw[X6];simp only[beq_iff_eq];exact⟨Eq.symm,Eq.symm⟩
     rw[h];exact Qi λ_=>Ei λ_=>Qa _
   .cases decide ((f.Pairs[i]).A<(lastP f i).A)||(((f.Pairs[i]).A==(lastP f i).A)&&decide ((f.Pairs[i]).B<=(lastP f i).B))<;>exact Qa _
 .unfold F_ig;simp only[YR,cond_false];exact Qa _
theorem Qnr(x:Int):Ev (λn=>F_dl n x) (inR 1 9999 x):=by
 unfold F_dl F_ep inR;exact Ea (Ea (Ei λ_=>Qa _) (Qa _)) (Qa _)
theorem QlZ(f:Field)(k:FewF f)(h:clkB f.Clocks=true):Ev (λn=>iter (F_hw n f) n 0) (bif runsB f then Ctl.cont ()else Ctl.done 240):=by
 have P:=k.runs;have O:=k.pairs;unfold runsB;refine QgD (λi=>(i:Int)) f.Runners.length _ _ _ rfl (λi F a=>?_) (λ_=>?_)
 .have d:=atN (by omega) F;have u:0<f.Runners.length:=by omega
  have t:idx f.Runners 0=some f.Runners[0]:=Qq (i:=0) (XR u);have p:keys0 f=(f.Runners[0]).Keys.length:=by unfold keys0;rw[XR u];rfl
  unfold F_hw runB;rw[d.get];simp only[d.lt,cond_true,d.ix,XQ,d.nx,t,Q5 (show f.Pairs.length<=1048576 by omega)];refine Ea (v:=runBad f (lastB f i) f.Runners[i]) ?_ ?_
  .have q:0<=lastB f i:=by
    cases i with
    |zero=>exact Int.le_refl _
    |succ j=>
     have B:lastB f (j+1)=(f.Runners[j]).Bib:=by show((f.Runners[j]?).map (·.Bib)).getD 0=_;rw[XR (by omega)];rfl
     have L:∀m,m<=j->∀(l:m<f.Runners.length),1<=(f.Runners[m]).Bib:=by
      intro m
      induction m with
      |zero=>
       intro _ l;have:=a 0 (by omega);unfold runB at this;rw[XR l]at this;simp only[runBad,X4,Bool.not_eq_true',X5,decide_eq_false_iff_not]at this;have z:lastB f 0=0:=rfl;omega
      |succ m G=>
       intro M l;have E:=G (by omega) (by omega);have:=a (m+1) (by omega);unfold runB at this;rw[XR l]at this;simp only[runBad,X4,Bool.not_eq_true',X5,decide_eq_false_iff_not]at this;have z:lastB f (m+1)=(f.Runners[m]).Bib:=by show((f.Runners[m]?).map (·.Bib)).getD 0=_;rw[XR (by omega)];rfl
       omega
     have:=L j (X0 _) (by omega);omega
   have g:runBad f (lastB f i) f.Runners[i]=(!inR 1 9999 (f.Runners[i]).Bib||((decide (0<(i:Int))&&decide ((f.Runners[i]).Bib<=lastB f i))||((((f.Runners[i]).Keys.length:Int) != ((f.Runners[0]).Keys.length:Int))||(((f.Runners[i]).Worlds.length:Int) != ((f.Pairs.length+1:Nat):Int))))):=by
    unfold runBad inR;rw[p];generalize((((f.Runners[i]).Keys.length:Int) != ((f.Runners[0]).Keys.length:Int))||(((f.Runners[i]).Worlds.length:Int) != ((f.Pairs.length+1:Nat):Int)))=z;cases i with
    |zero=>
     have J:lastB f 0=0:=rfl;rw[J];cases z with
     |true=>simp
     |false=>
      rw[X6];simp;omega
    |succ j=>
     have E:decide (0<((j+1:Nat):Int))=true:=Yh (by omega);rw[E];cases z with
     |true=>simp
     |false=>
      rw[X6];simp;omega
   rw[g];refine Ea (Qnr _) (Qi λ_=>?_);cases i with
   |zero=>
    have s:decide ((0:Int)<((0:Nat):Int))=false:=rfl;simp only[s,cond_false,Bool.false_and,Bool.false_or];exact Qi λ_=>Qa _
   |succ j=>
    have B:lastB f (j+1)=(f.Runners[j]).Bib:=by show((f.Runners[j]?).map (·.Bib)).getD 0=_;rw[XR (by omega)];rfl
    rw[B,Qfs (by omega) (by omega)];simp only[Yh (show 0<((j+1:Nat):Int)by omega),cond_true,XQ,Bool.true_and];exact Qi λ_=>Qi λ_=>Qa _
  .cases runBad f (lastB f i) f.Runners[i]with
   |true=>exact Qa _
   |false=>
    have N:=k.wlds _ d.mem;have H:=k.outs _ d.mem;simp only[cond_false,Xi,Bool.true_and];have b:(f.Runners[i]).Worlds.flatten.all (outB f.Clocks)=(f.Runners[i]).Worlds.all λw=>w.all (outB f.Clocks):=by rw[List.all_flatten]
    rw[b];refine Ea (Yv (f.Runners[i]).Worlds (λw=>w.all (outB f.Clocks)) (Ctl.done (Ctl.done (Ctl.done 240))) (Ctl.cont ()) (by omega) (λj x e=>?_) ?_) ?_
    .unfold F_js;simp only[e.lt,cond_true,e.nx];refine Ea (Yv x (outB f.Clocks) (Ctl.done (Ctl.done (Ctl.done (Ctl.done (Ctl.done 240))))) (Ctl.cont ()) (by have:=H x e.mem;omega) (λm y r=>?_) ?_) ?_
     .unfold F_kg;simp only[e.ix,XQ,r.lt,cond_true,r.ix,r.nx];refine Ea (Qgg _ k.clk h y) ?_;cases outB f.Clocks y<;>exact Qa _
     .unfold F_kg;simp only[e.ix,XQ,YR,cond_false];exact Qa _
     .cases x.all (outB f.Clocks)<;>exact Qa _
    .unfold F_js;simp only[YR,cond_false];exact Qa _
    .cases(f.Runners[i]).Worlds.all λw=>w.all (outB f.Clocks)<;>exact Qa _
 .unfold F_hw;simp only[YR,cond_false];exact Qa _
theorem Qgi(f:Field)(k:FewF f)(h:WldOk f){w:Nat}(b:w<f.Pairs.length+1):Ev (λn=>F_dr n f (w:Int)) (openW f w):=by
 have d:=k.runs;unfold F_dr;refine Ea (Yv f.Runners (λr=> !(wld r w).isEmpty) (Ctl.done false) (Ctl.cont ()) (by omega) (λi x a=>?_) ?_) ?_
 .unfold F_kb;have e:=h x a.mem;simp only[a.lt,cond_true,a.ix,XQ,a.nx,Q4 (show¬(w:Int)<0 by omega),cond_false,Q4 (show¬(x.Worlds.length:Int)<=(w:Int)by omega),QdR h a.mem b,QaV];cases(wld x w).isEmpty<;>exact Qa _
 .unfold F_kb;simp only[YR,cond_false];exact Qa _
 .unfold openW;rw[<- QdL];cases f.Runners.all λr=> !(wld r w).isEmpty<;>exact Qa _
theorem Ql1(f:Field)(k:FewF f)(h:WldOk f):Ev (λn=>F_dh n f) (possB f):=by
 have b:=k.pairs;unfold F_dh;have:Ev (λn=>iter (F_hu n f) n 0) (bif (List.range (f.Pairs.length+1)).all (λi=> !openW f i)then Ctl.cont ()else Ctl.done true):=by
  refine Yf (f.Pairs.length+1) _ _ _ (λi a=>?_) ?_
  .unfold F_hu;simp only[leN a,cond_true,Q5 (show i<=1048576 by omega)];refine Ea (Qgi f k h a) ?_;cases openW f i<;>exact Qa _
  .unfold F_hu;simp only[QjQ,cond_false];exact Qa _
 refine Ea this ?_;unfold possB;rw[QdL];cases(List.range (f.Pairs.length+1)).any (openW f)<;>exact Qa _
theorem Qfz(f:Field)(k:FewF f):Ev (λn=>F_dp n f) (bif fieldB f then 0 else 240):=by
 unfold F_dp fieldB;refine Ea (v:= !(clkB f.Clocks&& !(decide (16<(f.Pairs.length:Int))||(decide ((f.Runners.length:Int)<1)||decide (4000<(f.Runners.length:Int)))))) ?_ ?_
 .refine Ea (Qjf _ k.clk) ?_;cases clkB f.Clocks with
  |false=>exact Qa _
  |true=>
   simp only[Bool.true_and,Bool.not_not];exact Ym (Qi λ_=>Qi λ_=>Qa _)
 .cases a:clkB f.Clocks&& !(decide (16<(f.Pairs.length:Int))||(decide ((f.Runners.length:Int)<1)||decide (4000<(f.Runners.length:Int))))with
  |false=>exact Qa _
  |true=>
   have b:clkB f.Clocks=true:=by simp only[X4]at a;exact a.1
   simp only[Xh,cond_false,Bool.true_and];refine Ea (Qj1 f (by have:=k.pairs;omega)) ?_;cases pairsB f with
   |false=>exact Qa _
   |true=>
    refine Ea (QlZ f k b) ?_;cases d:runsB f with
    |false=>exact Qa _
    |true=>
     refine Ea (Ql1 f k (Qd1 d)) ?_;cases possB f<;>exact Qa _
theorem Qbb(f:Field)(k:FewF f)(h:WldOk f){w:Nat}(b:w<f.Pairs.length+1):Ev (λn=>F_ar n f (w:Int)) (openW f w):=by
 have d:=k.runs;unfold F_ar;refine Ea (v:=false) ?_ (Ym (Ea (Yv f.Runners (λr=> !(wld r w).isEmpty) (Ctl.done false) (Ctl.cont ()) (by omega) (λi x a=>?_) ?_) ?_))
 .rw[Q4 (show¬(w:Int)<0 by omega),Q4 (show¬(f.Pairs.length:Int)<(w:Int)by omega)];exact Qa _
 .unfold F_ki;have e:=h x a.mem;simp only[a.lt,cond_true,a.ix,XQ,a.nx,Q4 (show¬(x.Worlds.length:Int)<=(w:Int)by omega),cond_false,QdR h a.mem b,QaV];cases(wld x w).isEmpty<;>exact Qa _
 .unfold F_ki;simp only[YR,cond_false];exact Qa _
 .unfold openW;rw[<- QdL];cases f.Runners.all λr=> !(wld r w).isEmpty<;>exact Qa _
theorem Qgf{c:Clocks}(d:Dims c)(h:rowsB c=true){i j:Nat}(e:i<c.Segments.length+1)(g:j<c.Segments.length+1): -2199023255552<=farG c i j/\farG c i j<=2199023255552:=by
 have a:i<c.Far.length:=by rw[d.far];exact e
 obtain⟨k,l⟩:=d.get e g;have:=QjK.1 h i a;rw[k]at this;simp only[rowB,Bool.not_eq_true',X5]at this;have b:=this.2.2;have f:farG c i j∈(c.Far[i]?.getD []):=List.mem_of_getElem? l;have:farBad (farG c i j)=false:=by
  cases z:farBad (farG c i j)with
  |false=>rfl
  |true=>rw[Xx.2 ⟨_,f,z⟩]at b;cases b
 simp only[farBad,X5,decide_eq_false_iff_not]at this;omega
theorem FieldOk.rows{f:Field}(o:FieldOk f):rowsB f.Clocks=true:=by
 have:=o.ok;simp only[fieldB,clkB,X4]at this;exact this.1.1.2.2.1
theorem QlH{m:MapI}(h:(m.map Prod.fst).Nodup):(keysS m).Nodup:=((QK ltI _).nodup_iff).2 h
def insP(p:Payment):List Payment->List Payment
 |[]=>[p]
 |q::l=>bif decide (q.Bib<p.Bib)then q::insP p l else p::q::l
def posP(p:Payment):List Payment->Nat
 |[]=>0
 |q::l=>bif decide (q.Bib<p.Bib)then posP p l+1 else 0
theorem Qi1(p:Payment):∀l,posP p l<=l.length
 |[]=>X0 _
 |q::l=>by
  unfold posP;have:=Qi1 p l;cases decide (q.Bib<p.Bib)<;>simp;omega
theorem Qg7(p:Payment):∀l,l.take (posP p l)++p::l.drop (posP p l)=insP p l
 |[]=>rfl
 |q::l=>by
  unfold posP insP;cases decide (q.Bib<p.Bib)with
  |false=>rfl
  |true=>simp only[cond_true,List.take_succ_cons,List.drop_succ_cons,List.cons_append,Qg7 p l]
theorem Qbz(p x:Payment):∀l,x∈insP p l↔x=p\/x∈l
 |[]=>by simp[insP]
 |q::l=>by
  unfold insP;have:=Qbz p x l;cases decide (q.Bib<p.Bib)with
  |false=>simp
  |true=>
   simp only[cond_true,Ve,this];constructor
   .rintro(h|h|h)
    .exact .inr (.inl h)
    .exact .inl h
    .exact .inr (.inr h)
   .rintro(h|h|h)
    .exact .inr (.inl h)
    .exact .inl h
    .exact .inr (.inr h)
theorem QlM(p:Payment)(l:List Payment):(insP p l).length=l.length+1:=by
 rw[<- Qg7];simp;have:=Qi1 p l;omega
def ltB(p q:Payment):Prop:=p.Bib<q.Bib
theorem Qdm(p:Payment):∀l,l.Pairwise ltB->(∀q∈l,q.Bib≠p.Bib)->(insP p l).Pairwise ltB
 |[],_,_=>by simp[insP]
 |q::l,h,hn=>by
  unfold insP;have h1:=Xc.1 h;have hne:=hn q (Vc ..);by_cases hq:q.Bib<p.Bib
  .rw[Yh hq];refine Xc.2 ⟨λx hx=>?_,Qdm p l h1.2 λy hy=>hn y (Vd _ hy)⟩;rcases(Qbz p x l).1 hx with rfl|hx
   .exact hq
   .exact h1.1 x hx
  .rw[Q4 hq];refine Xc.2 ⟨λx hx=>?_,h⟩;rcases Ve.1 hx with rfl|hx
   .show p.Bib<x.Bib;omega
   .have:q.Bib<x.Bib:=h1.1 x hx;show p.Bib<x.Bib;omega
def offG(h:History)(j:Nat):Int:=((0::h.Offsets)[j]?).getD 0
def wN(h:History):Nat:=h.World.toNat
def xG(h:History)(i:Nat):Int:=((h.Choices[i]?).map (·.X)).getD 0
def oiG(h:History)(i:Nat):Int:=((h.Choices[i]?).map (·.Outcome)).getD 0
def z_Oc:Outcome:={Out:=true,Seg:=(-1),Lo:=0,Hi:=0}
def outG(f:Field)(h:History)(i:Nat):Outcome:=((wldF f i (wN h))[(oiG h i).toNat]?).getD z_Oc
def netG(f:Field)(h:History)(i:Nat):Int:=xG h i+offG h (sg (outG f h i))
def fitX(x:Outcome)(v:Int):Bool:=bif x.Out then v==0 else decide (x.Lo<=v)&&decide (v<=x.Hi)
structure Adm (f:Field) (h:History):Prop where
 w0:0<=h.World
 wlt:wN h<f.Pairs.length+1
 opn:openW f (wN h)=true
 ol:h.Offsets.length=f.Clocks.Segments.length
 cl:h.Choices.length=f.Runners.length
 off:∀a b,a<f.Clocks.Segments.length+1->b<f.Clocks.Segments.length+1->offG h b-offG h a<=farG f.Clocks a b
 ch:∀i,i<f.Runners.length->0<=oiG h i/\(oiG h i).toNat<(wldF f i (wN h)).length/\fitX (outG f h i) (xG h i)=true
def frontG(f:Field)(h:History)(i k:Nat):Bool:= !(outG f h k).Out&&(decide (netG f h k<netG f h i)||((netG f h k==netG f h i)&&decide (cmpL (keysF f k) (keysF f i)<0)))
def rankG(f:Field)(h:History)(i:Nat):Nat:=bif (outG f h i).Out then 0 else 1+cntR (frontG f h i) f.Runners.length
theorem Qc8{p q:Nat->Bool}:∀{k:Nat},(∀i,i<k->p i=true->q i=true)->cntR p k<=cntR q k
 |0,_=>by simp[cntR]
 |k+1,h=>by
  have:=Qc8 (k:=k) λi hi=>h i (by omega);have h2:=h k (by omega);rw[Yt,Yt];cases hp:p k with
  |false=>cases q k<;>simp<;>omega
  |true=>rw[h2 hp];simp;omega
theorem Qkg(a:Int):cmpI a a=0:=by
 unfold cmpI;rw[decide_eq_false (show¬a<a by omega)];rfl
theorem Qc9:∀l,cmpL l l=0
 |[]=>rfl
 |x::l=>by
  unfold cmpL;rw[Qkg];exact Qc9 l
theorem Qlx{f:Field}{h:History}(a:Adm f h){i:Nat}(d:i<f.Runners.length):(wldF f i (wN h))[(oiG h i).toNat]?=some (outG f h i):=by
 obtain⟨g,b,e⟩:=a.ch i d;unfold outG;rw[XR b];rfl
theorem Qf3{f:Field}(o:FieldOk f){h:History}(a:Adm f h){i:Nat}(b:i<f.Runners.length):outB f.Clocks (outG f h i)=true:=by
 obtain⟨e,j,g,d⟩:=QfV o b a.wlt;exact d _ (List.mem_of_getElem? (Qlx a b))
theorem Qit{c:Clocks}(b:c.Segments.length<=511){x:Outcome}(h:outB c x=true)(a:x.Out=false):sg x<c.Segments.length+1/\ -288230376151711744<=x.Lo/\x.Lo<=x.Hi/\x.Hi<=288230376151711744:=by
 refine⟨(sg_ok b h a).1,?_⟩;unfold outB at h;rw[a]at h;simp only[cond_false,fineO,X4,decide_eq_true_eq]at h;omega
theorem Qnf{x:Outcome}{v:Int}(h:fitX x v=true)(a:x.Out=false):x.Lo<=v/\v<=x.Hi:=by
 unfold fitX at h;rw[a]at h;simpa using h
theorem QgT{f:Field}{h:History}{i:Nat}(d:i<f.Runners.length):rankG f h i<=f.Runners.length:=by
 unfold rankG;cases(outG f h i).Out with
 |true=>exact X2 _
 |false=>
  simp only[cond_false];have a:∀k,cntR (frontG f h i) k+(if i<k then 1 else 0)<=k:=by
   intro k
   induction k with
   |zero=>simp[cntR]
   |succ k b=>
    rw[Yt];by_cases e:k=i
    .subst e;have:frontG f h k k=false:=by unfold frontG;rw[Qc9];simp
     rw[this];simp at b⊢;omega
    .cases frontG f h i k<;>simp<;>split at b<;>split<;>omega
  have:=a f.Runners.length;rw[if_pos d]at this;omega
def admO(c:Clocks)(h:History):Bool:=(List.range (c.Segments.length+1)).all λi=>(List.range (c.Segments.length+1)).all λj=>decide (offG h j-offG h i<=farG c i j)
theorem QeM{c:Clocks}{h:History}(a:admO c h=true){i j:Nat}(d:i<c.Segments.length+1)(b:j<c.Segments.length+1):offG h j-offG h i<=farG c i j:=by
 have:=QjK.1 (QjK.1 a i d) j b;simpa using this
theorem Qf5(h:History){j:Nat}(b:j<h.Offsets.length+1):idx (0::h.Offsets) (j:Int)=some (offG h j):=by
 have a:j<(0::h.Offsets).length:=by simpa using b
 unfold offG;rw[XR a];exact Qq (XR a)
theorem QnI{c:Clocks}(d:Dims c)(r:rowsB c=true){h:History}(g:h.Offsets.length=c.Segments.length)(a:admO c h=true):∀x∈(0:Int)::h.Offsets,-2199023255552<=x/\x<=2199023255552:=by
 intro x i;obtain⟨j,f,e⟩:=List.mem_iff_getElem.1 i;have b:j<c.Segments.length+1:=by simpa[g]using f
 have ex:offG h j=x:=by unfold offG;rw[XR f,e];rfl
 have m:offG h 0=0:=rfl;have p:=QeM a (Nat.succ_pos _) b;have l:=QeM a b (Nat.succ_pos _);have n:=Qgf d r (Nat.succ_pos _) b;have k:=Qgf d r b (Nat.succ_pos _);omega
theorem Qjv{c:Clocks}{h:History}(b:∀x∈(0:Int)::h.Offsets,-1125899906842624<=x/\x<=1125899906842624){i j:Nat}(e:i<h.Offsets.length+1)(d:j<h.Offsets.length+1):
  decide (farG c i j<IntKind.i64.wrap (offG h j-offG h i))= !decide (offG h j-offG h i<=farG c i j):=by
 have mem:∀k,k<h.Offsets.length+1->offG h k∈(0:Int)::h.Offsets:=by
  intro k f;have a:k<((0:Int)::h.Offsets).length:=by simpa using f
  unfold offG;rw[XR a];exact Vl a
 have g:=b _ (mem i e);have l:=b _ (mem j d);rw[QO (by omega) (by omega), <- decide_not,decide_eq_decide];omega
def wideB(b x:Int):Bool:=decide (x< -b)||decide (b<x)
theorem QiJ{b:Int}{l:List Int}(h:l.any (wideB b)=false):∀x∈l,-b<=x/\x<=b:=by
 intro x a;cases q:wideB b x with
 |true=>rw[Xx.2 ⟨x,a,q⟩]at h;cases h
 |false=>
  simp only[wideB,X5,decide_eq_false_iff_not]at q;omega
theorem QgJ{c:Clocks}(d:Dims c)(r:rowsB c=true){h:History}(e:h.Offsets.length=c.Segments.length){b:Int}(i:2199023255552<=b)(f:((0:Int)::h.Offsets).any (wideB b)=true):admO c h=false:=by
 cases a:admO c h with
 |false=>rfl
 |true=>
  obtain⟨x,g,q⟩:=Xx.1 f;have:=QnI d r e a x g;simp only[wideB,Bool.or_eq_true,decide_eq_true_eq]at q;omega
theorem Qim(c:Clocks)(d:Dims c)(r:rowsB c=true)(h:History)(p:h.Offsets.length=c.Segments.length):Ev (λn=>F_cc n c h.Offsets) (admO c h):=by
 have t:=d.segs;unfold F_cc;refine Ea (v:=(0:Int)::h.Offsets) (Ez (QdK [0] h.Offsets (by simp only[X8,List.length_nil];omega))) ?_;refine Ea (v:=((0:Int)::h.Offsets).any (wideB 2199023255552)) ?_ ?_
 .unfold F_hf F_em;refine Ev.contains _ (wideB 2199023255552) (λn x=>F_as n x) (by simp only[X8];omega) λx _=>?_;unfold F_as wideB;exact Ea (Qi λ_=>Qa _) (Qa _)
 .cases l:((0:Int)::h.Offsets).any (wideB 2199023255552)with
  |true=>rw[QgJ d r p (Int.le_refl _) l];exact Qa _
  |false=>
   have q:∀x∈(0:Int)::h.Offsets,-1125899906842624<=x/\x<=1125899906842624:=λx s=>by have:=QiJ l x s;omega
   have e:admO c h=(List.range c.Far.length).all λi=>(List.range (c.Segments.length+1)).all λj=>decide (offG h j-offG h i<=farG c i j):=by unfold admO;rw[d.far]
   rw[e];refine Ym (Ea (Yf c.Far.length (λi=>(List.range (c.Segments.length+1)).all λj=>decide (offG h j-offG h i<=farG c i j)) (Ctl.done false) (Ctl.cont ()) (λi k=>?_) ?_) ?_)
   .have b:i<c.Segments.length+1:=by rw[<- d.far];exact k
    have g:=(d.get b b).1;unfold F_jx;simp only[ltN k,cond_true,Qq g,XQ,Q5 (show i<=1048576 by omega)];have a:=d.row i k;refine Ea (v:=bif (List.range (c.Segments.length+1)).all λj=>decide (offG h j-offG h i<=farG c i j)then Ctl.cont ()else Ctl.done (Ctl.done (Ctl.done false))) ?_ ?_
    .have:=Yf (step:=λn=>F_id n (0::h.Offsets) (i:Int) (c.Far[i]?.getD [])) (c.Far[i]?.getD []).length (λj=>decide (offG h j-offG h i<=farG c i j)) (Ctl.done (Ctl.done (Ctl.done false))) (Ctl.cont ()) (λj m=>?_) ?_
     .rw[a]at this;exact this
     .have f:j<c.Segments.length+1:=by rw[<- a];exact m
      unfold F_id;simp only[ltN m,cond_true,Qq (d.get b f).2,Qf5 h (show j<h.Offsets.length+1 by omega),Qf5 h (show i<h.Offsets.length+1 by omega),XQ,Q5 (show j<=1048576 by omega),Qjv q (show i<h.Offsets.length+1 by omega) (show j<h.Offsets.length+1 by omega)];cases decide (offG h j-offG h i<=farG c i j)<;>exact Qa _
     .unfold F_id;simp only[geN (X0 _),cond_false];exact Qa _
    .cases(List.range (c.Segments.length+1)).all λj=>decide (offG h j-offG h i<=farG c i j)<;>exact Qa _
   .unfold F_jx;simp only[geN (X0 _),cond_false];exact Qa _
   .cases(List.range c.Far.length).all λi=>(List.range (c.Segments.length+1)).all λj=>decide (offG h j-offG h i<=farG c i j)<;>exact Qa _
theorem Qgp{h:History}{i:Nat}(a:i<h.Choices.length):idx h.Choices (i:Int)=some h.Choices[i]/\(h.Choices[i]).Outcome=oiG h i/\(h.Choices[i]).X=xG h i:=by
 unfold oiG xG;rw[XR a];exact⟨Qq (XR a),rfl,rfl⟩
def chB(f:Field)(h:History)(i:Nat):Bool:= !(decide (oiG h i<0)||decide (((wldF f i (wN h)).length:Int)<=oiG h i))&&fitX (outG f h i) (xG h i)
structure InW (f:Field) (h:History):Prop where
 w0:h.World=((wN h:Nat):Int)
 wlt:wN h<f.Pairs.length+1
 cl:h.Choices.length=f.Runners.length
theorem QkO{f:Field}(o:FieldOk f){h:History}(q:InW f h){i:Nat}(b:i<f.Runners.length)(n:Nat):F_ag n ({f:=f,h:=h:history_view}) (i:Int)=some (wldF f i (wN h)):=by
 obtain⟨a,d,_,_⟩:=QfV o b q.wlt;unfold F_ag;simp only[a,XQ,q.w0,d]
theorem Qlu{f:Field}{h:History}{i:Nat}(b:(decide (oiG h i<0)||decide (((wldF f i (wN h)).length:Int)<=oiG h i))=false):idx (wldF f i (wN h)) (oiG h i)=some (outG f h i):=by
 simp only[X5,decide_eq_false_iff_not]at b;have e:oiG h i=(((oiG h i).toNat:Nat):Int):=by omega
 have a:(oiG h i).toNat<(wldF f i (wN h)).length:=by omega
 unfold outG;rw[e,Qq (XR a)];simp only[Int.toNat_natCast,XR a,Option.getD_some]
theorem QnT{f:Field}(o:FieldOk f){h:History}(q:InW f h){i:Nat}(a:i<f.Runners.length)(b:(decide (oiG h i<0)||decide (((wldF f i (wN h)).length:Int)<=oiG h i))=false)(n:Nat):F_an n ({f:=f,h:=h:history_view}) (i:Int)=some (outG f h i):=by
 have d:i<h.Choices.length:=by rw[q.cl];exact a
 obtain⟨g,e,j⟩:=Qgp d;unfold F_an;simp only[QkO o q a,XQ,g,e,Qlu b]
theorem QoP(x:Outcome)(v:Int):(decide (v<(bif x.Out then({x with Lo:=0,Hi:=0:Outcome})else x).Lo)||decide ((bif x.Out then({x with Lo:=0,Hi:=0:Outcome})else x).Hi<v))= !fitX x v:=by
 unfold fitX;cases x.Out with
 |true=>
  simp only[cond_true];rw[X6];simp<;>omega
 |false=>
  simp only[cond_false];rw[X6];simp<;>omega
theorem Ql5{f:Field}(o:FieldOk f){h:History}(q:InW f h):Ev (λn=>iter (F_iw n f h) n 0) (bif (List.range f.Runners.length).all (chB f h)then Ctl.cont ()else Ctl.done ({f:=f,h:=h:history_view},260)):=by
 have k:=o.few.runs;rw[<- q.cl];refine Yf h.Choices.length _ _ _ (λi b=>?_) ?_
 .have a:i<f.Runners.length:=by rw[<- q.cl];exact b
  obtain⟨j,e,g⟩:=Qgp b;unfold F_iw;simp only[ltN b,cond_true,j,XQ,Q5 (show i<=1048576 by omega),e,g,QkO o q a];refine Ea (v:=decide (oiG h i<0)||decide (((wldF f i (wN h)).length:Int)<=oiG h i)) (Qi λ_=>Qa _) ?_;unfold chB;cases d:decide (oiG h i<0)||decide (((wldF f i (wN h)).length:Int)<=oiG h i)with
  |true=>exact Qa _
  |false=>
   simp only[cond_false,Xi,Bool.true_and,QnT o q a d,XQ];refine Ea (v:=bif (outG f h i).Out then({outG f h i with Lo:=0,Hi:=0:Outcome})else outG f h i) (YN (λ_=>Qa _) (λ_=>Qa _)) ?_;refine Ea (v:= !fitX (outG f h i) (xG h i)) ((Qi λ_=>Qa _).eq (QoP _ _)) ?_;cases fitX (outG f h i) (xG h i)<;>exact Qa _
 .unfold F_iw;simp only[geN (X0 _),cond_false];exact Qa _
def admB(f:Field)(h:History):Bool:=
 !(decide (h.World<0)||(decide ((f.Pairs.length:Int)<h.World)||(!openW f (wN h)||(((h.Offsets.length:Int) != (f.Clocks.Segments.length:Int))||(((h.Choices.length:Int) != (f.Runners.length:Int))|| !admO f.Clocks h)))))&&(List.range f.Runners.length).all (chB f h)
theorem QiK{h:History}(h0:decide (h.World<0)=false):h.World=((wN h:Nat):Int):=by
 have:=of_decide_eq_false h0;unfold wN;omega
theorem Qc1{a b:Nat}(h:((a:Int) != (b:Int))=false):a=b:=by
 have:(a:Int)=(b:Int):=by simpa[bne]using h
 omega
theorem QiH{f:Field}{h:History}(a:admB f h=true):Adm f h:=by
 unfold admB at a;simp only[X4,Bool.not_eq_true',X5,Bool.not_eq_false']at a;obtain⟨⟨m,l,p,d,g,q⟩,k⟩:=a;have e:=QiK m;refine⟨by omega,?_,p,Qc1 d,Qc1 g,λi j b n=>QeM q b n,λi b=>?_⟩
 .have:=of_decide_eq_false l;omega
 .have:=QjK.1 k i b;unfold chB at this;simp only[X4,Bool.not_eq_true',X5,decide_eq_false_iff_not]at this;refine⟨by omega,by omega,this.2⟩
theorem Adm.inw{f:Field}{h:History}(a:Adm f h):InW f h:=⟨by have:=a.w0;unfold wN;omega,a.wlt,a.cl⟩
theorem Ql3(f:Field)(o:FieldOk f){w:Nat}(a:w<f.Pairs.length+1):Ev (λn=>F_ca n f (w:Int)) (openW f w):=by
 have d:=o.few.runs;unfold F_ca;refine Ea (v:=f.Runners.any λr=>(wld r w).isEmpty) ?_ (Qa _);unfold F_gj F_ga;refine Ev.contains f.Runners (λr=>(wld r w).isEmpty) (λn x=>F_aw n x (w:Int)) (by omega) λx b=>?_;unfold F_aw;rw[QdR o.wlds b a];exact(Qa _).eq (QaV _)
theorem Qgk{f:Field}(o:FieldOk f)(h:History):Ev (λn=>F_w n f h) (({f:=f,h:=h:history_view}),bif admB f h then 0 else 260):=by
 unfold F_w;refine Ea (v:=0) ((Qhv f o.few).eq (by rw[o.ok];rfl)) ?_;refine Ym ?_;unfold admB;generalize hA:(decide (h.World<0)||(decide ((f.Pairs.length:Int)<h.World)||(!openW f (wN h)||(((h.Offsets.length:Int) != (f.Clocks.Segments.length:Int))||(((h.Choices.length:Int) != (f.Runners.length:Int))|| !admO f.Clocks h)))))=A;refine Ea (v:=A) ?_ ?_
 .rw[<- hA];refine Qi λb=>Qi λa=>?_;have e:=QiK b;have i:wN h<f.Pairs.length+1:=by have:=of_decide_eq_false a;omega
  rw[e];refine Ea (Ql3 f o i) (Qi λ_=>Qi λd=>Qi λg=>?_);exact Ea (Qim f.Clocks o.dims o.rows h (Qc1 d)) (Qa _)
 .cases A with
  |true=>exact Qa _
  |false=>
   simp only[X5]at hA;obtain⟨b,a,j,d,g,k⟩:=hA;have e:=QiK b;refine Ym (Ea (Ql5 o ⟨e,by have:=of_decide_eq_false a;omega,Qc1 g⟩) ?_);cases(List.range f.Runners.length).all (chB f h)<;>exact Qa _
theorem Qj5{f:Field}(o:FieldOk f)(h:History):Ev (λn=>F_ec n f h) (bif admB f h then 0 else 260):=by
 unfold F_ec;exact Ea (Qgk o h) (Qa _)
theorem QoW{f:Field}{h:History}(a:Adm f h){i:Nat}(b:i<f.Runners.length):(decide (oiG h i<0)||decide (((wldF f i (wN h)).length:Int)<=oiG h i))=false:=by
 obtain⟨e,d,_⟩:=a.ch i b;rw[X5];exact⟨decide_eq_false (by omega),decide_eq_false (by omega)⟩
theorem x_bds{f:Field}(o:FieldOk f){h:History}(a:Adm f h){i:Nat}(d:i<f.Runners.length)(b:(outG f h i).Out=false): -288230376151711744<=xG h i/\xG h i<=288230376151711744:=by
 obtain⟨j,k,g,e⟩:=Qit o.dims.segs (Qf3 o a d) b;have:=Qnf (a.ch i d).2.2 b;omega
theorem Qm6{f:Field}(o:FieldOk f){h:History}(a:Adm f h){j:Nat}(b:j<f.Clocks.Segments.length+1): -2199023255552<=offG h j/\offG h j<=2199023255552:=by
 have k:=a.off _ _ (Nat.succ_pos _) b;have e:=a.off _ _ b (Nat.succ_pos _);have i:=Qgf o.dims o.rows (Nat.succ_pos _) b;have d:=Qgf o.dims o.rows b (Nat.succ_pos _);have g:offG h 0=0:=rfl;omega
theorem QlC{f:Field}(o:FieldOk f){h:History}(a:Adm f h){i:Nat}(b:i<f.Runners.length)(d:(outG f h i).Out=false):IntKind.i64.wrap (xG h i+offG h (sg (outG f h i)))=netG f h i:=by
 have g:=x_bds o a b d;have e:=Qm6 o a (Qit o.dims.segs (Qf3 o a b) d).1;exact QO (by omega) (by omega)
theorem QmX{f:Field}(o:FieldOk f){h:History}(a:Adm f h){i:Nat}(j:i<f.Runners.length)(g:(outG f h i).Out=false):(outG f h i).Seg<0/\offG h (sg (outG f h i))=0\/0<=(outG f h i).Seg/\idx h.Offsets (outG f h i).Seg=some (offG h (sg (outG f h i))):=by
 have d:=Qf3 o a j;have k:=(Qit o.dims.segs d g).1;unfold outB at d;rw[g]at d;simp only[cond_false,fineO,X4,decide_eq_true_eq]at d;unfold sg at k⊢;by_cases q:(outG f h i).Seg<0
 .left;refine⟨q,?_⟩;rw[show((outG f h i).Seg+1).toNat=0 by omega];rfl
 .right;obtain⟨s,e⟩:∃s:Nat,(outG f h i).Seg=(s:Int):=⟨(outG f h i).Seg.toNat,by omega⟩;have b:s<h.Offsets.length:=by rw[a.ol];omega
  refine⟨by omega,?_⟩;rw[e,show((s:Int)+1).toNat=s+1 by omega];unfold offG;rw[XM,XR b];exact Qq (XR b)
def netV(f:Field)(h:History)(i:Nat):Int×Bool:=bif (outG f h i).Out then(0,false)else(netG f h i,true)
theorem Ql6{f:Field}(o:FieldOk f){h:History}(a:Adm f h){i:Nat}(b:i<f.Runners.length):Ev (λn=>F_ad n ({f:=f,h:=h:history_view}) (i:Int)) (netV f h i):=by
 have q:=a.inw;obtain⟨k,l,j⟩:=Qgp (show i<h.Choices.length by rw[q.cl];exact b);unfold F_ad netV;simp only[QnT o q b (QoW a b),XQ];refine YN (λ_=>Qa _) λg=>?_;simp only[k,XQ,j];refine Ea (v:=netG f h i) ?_ (Qa _);rcases QmX o a b g with⟨e,d⟩|⟨e,d⟩
 .rw[Q4 (show¬0<=(outG f h i).Seg by omega)];refine(Qa _).eq ?_;unfold netG;rw[d,Int.add_zero]
 .rw[Yh e,d];exact(Qa _).eq (QlC o a b g)
abbrev PrI:=history_pair_int__int_
def timesL(f:Field)(h:History)(m:Nat):List PrI:=((List.range m).filter λk=> !(outG f h k).Out).map λ(k:Nat)=>({first:=(k:Int),second:=netG f h k}:PrI)
theorem Qdd(f:Field)(h:History)(m:Nat):timesL f h (m+1)=timesL f h m++(bif !(outG f h m).Out then[({first:=(m:Int),second:=netG f h m}:PrI)]else[]):=by
 unfold timesL;rw[Xz,List.filter_append,Xg];cases q:(outG f h m).Out<;>simp[q]
theorem Qa5(f:Field)(h:History)(m:Nat):(timesL f h m).length<=m:=by
 unfold timesL;rw[X9];exact X3 (List.length_filter_le ..) (by simp)
theorem Qho{f:Field}(o:FieldOk f){h:History}(a:Adm f h):Ev (λn=>F_am n ({f:=f,h:=h:history_view})) (timesL f h f.Runners.length):=by
 have d:=o.few.runs;unfold F_am;refine Ea ?_ (Qa _);refine Ew (λm=>(timesL f h m,(m:Int))) f.Runners.length rfl (λm b=>?_) ?_
 .have e:=Qa5 f h m;unfold F_kh;simp only[ltN b,cond_true,Q5 (show m<=1048576 by omega)];refine Ea (Ql6 o a b) ?_;rw[Qdd];unfold netV;cases(outG f h m).Out with
  |true=>exact(Qa _).eq (by simp)
  |false=>
   simp only[cond_false,cond_true,Xi,Qbc (show(timesL f h m).length<=140737488 by omega),XQ];exact Qa _
 .unfold F_kh;simp only[geN (X0 _),cond_false];exact Qa _
def cmpT(f:Field)(p q:PrI):Int:=orL [cmpI p.second q.second,cmpL (keysF f p.first.toNat) (keysF f q.first.toNat)]
theorem Qji{f:Field}(o:FieldOk f){i j:Nat}(b:i<f.Runners.length)(a:j<f.Runners.length)(h:History)(s t:Int):Ev (λn=>F_x n ({f:=f,h:=h:history_view}) ({first:=(i:Int),second:=s:PrI}) ({first:=(j:Int),second:=t:PrI})) (cmpT f ({first:=(i:Int),second:=s:PrI}) ({first:=(j:Int),second:=t:PrI})):=by
 obtain⟨e,k⟩:=Qi6 b;obtain⟨d,g⟩:=Qi6 a;unfold F_x cmpT;refine Ea (QeD _ _) ?_;simp only[e,d,XQ,Int.toNat_natCast,k,g];refine Ea (Qnv _ _ (Qg3 o b) (Qg3 o a)) ?_;exact Ea (Qn7 _ (by simp)) (Qa _)
theorem Qlz(a b u:Int):decide (orL [cmpI a b,u]<0)=(decide (a<b)||((a==b)&&decide (u<0))):=by
 have e:orL [cmpI a b,u]=bif cmpI a b != 0 then cmpI a b else u:=by
  unfold orL orL orL;cases d:(u != 0)with
  |true=>rfl
  |false=>
   have:u=0:=by simpa[bne]using d
   rw[this];rfl
 rw[e];unfold cmpI;rcases Int.lt_trichotomy a b with q|q|q
 .simp[q]
 .subst q;simp
 .have g:¬a<b:=by omega
  have f:¬a=b:=by omega
  simp[q,g,f]
theorem Qiq(f:Field)(h:History)(i k:Nat):decide (cmpT f ({first:=(k:Int),second:=netG f h k:PrI}) ({first:=(i:Int),second:=netG f h i:PrI})<0)=(decide (netG f h k<netG f h i)||((netG f h k==netG f h i)&&decide (cmpL (keysF f k) (keysF f i)<0))):=Qlz _ _ _
theorem Qdr(f:Field)(h:History)(i:Nat):∀m,((timesL f h m).filter λp=>decide (cmpT f p ({first:=(i:Int),second:=netG f h i:PrI})<0)).length=cntR (frontG f h i) m
 |0=>rfl
 |m+1=>by
  rw[Qdd,List.filter_append,Va,Qdr f h i m,Yt];unfold frontG;rw[<- Qiq];cases(outG f h m).Out with
  |true=>rfl
  |false=>
   simp only[Xi,cond_true,Bool.true_and,Xd,List.filter_nil];cases decide (cmpT f ({first:=(m:Int),second:=netG f h m:PrI}) ({first:=(i:Int),second:=netG f h i:PrI})<0)<;>rfl
theorem Qfb{f:Field}{h:History}{m:Nat}{p:PrI}(a:p∈timesL f h m):∃k,k<m/\p={first:=(k:Int),second:=netG f h k}:=by
 unfold timesL at a;obtain⟨k,b,e⟩:=Xf.1 a;exact⟨k,by simpa using(Xe.1 b).1,e.symm⟩
theorem Qht{f:Field}(o:FieldOk f){h:History}(d:admB f h=true){i:Nat}(g:i<f.Runners.length):Ev (λn=>F_ai n f h (i:Int)) (((rankG f h i:Nat):Int),0):=by
 have a:=QiH d;have u:=o.few.runs;unfold F_ai F_ft;refine Ea (v:=(({f:=f,h:=h:history_view}),0)) (Ea (Qgk o h) ?_) ?_
 .rw[d];simp only[cond_true,beq_self_eq_true,Q4 (show¬(i:Int)<0 by omega),cond_false,Q4 (show¬(f.Runners.length:Int)<=(i:Int)by omega),XQ];exact Qa _
 .simp only[bne_self_eq_false,cond_false];refine Ea (Ql6 o a g) ?_;unfold netV rankG;cases w:(outG f h i).Out with
  |true=>exact Qa _
  |false=>
   simp only[cond_false,Xh];refine Ea (Qho o a) ?_;have t:=Qa5 f h f.Runners.length;have s:=Qdr f h i f.Runners.length;have l:=QnA (frontG f h i) f.Runners.length;refine Ea (v:=((cntR (frontG f h i) f.Runners.length:Nat):Int)) ?_ ((Qa _).eq ?_)
   .rw[<- s];refine Ew (λj=>((((((timesL f h f.Runners.length).take j).filter λp=>decide (cmpT f p ({first:=(i:Int),second:=netG f h i:PrI})<0)).length:Nat):Int),(j:Int))) (timesL f h f.Runners.length).length rfl (λj r=>?_) ?_
    .have b:=atN (by omega) r;unfold F_jp;simp only[b.lt,cond_true,b.ix,XQ,b.nx];obtain⟨k,m,e⟩:=Qfb b.mem;rw[b.take,List.filter_append,Va,e];refine Ea (Qji o m g h _ _) ?_;have q:(((timesL f h f.Runners.length).take j).filter λp=>decide (cmpT f p ({first:=(i:Int),second:=netG f h i:PrI})<0)).length<=j:=X3 (List.length_filter_le ..) (by simp;omega);simp only[Xd,List.filter_nil];cases decide (cmpT f ({first:=(k:Int),second:=netG f h k:PrI}) ({first:=(i:Int),second:=netG f h i:PrI})<0)with
     |true=>
      refine(Qa _).eq ?_;rw[Q5 (by omega)];rfl
     |false=>exact Qa _
    .unfold F_jp;simp only[geN (X0 _),cond_false,Vh];exact Qa _
   .rw[Q5 (by omega),Nat.add_comm]
theorem Qng(x:Outcome)(v:Int):(bif x.Out then((v != 0)||(bif !x.Out then decide (v<x.Lo)||decide (x.Hi<v)else false))else(bif !x.Out then decide (v<x.Lo)||decide (x.Hi<v)else false))= !fitX x v:=by
 unfold fitX;cases x.Out with
 |true=>simp[bne]
 |false=>
  simp only[cond_false,Xi,cond_true];rw[X6];simp<;>omega
theorem Qnq{f:Field}(o:FieldOk f)(h:History):Ev (λn=>F_bg n f h) (admB f h):=by
 have O:=o.few.runs;have N:=o.dims.segs;unfold F_bg;by_cases t:h.World<0\/(f.Pairs.length:Int)<h.World
 .have w:admB f h=false:=by
   unfold admB;have:(decide (h.World<0)||(decide ((f.Pairs.length:Int)<h.World)||(!openW f (wN h)||(((h.Offsets.length:Int) != (f.Clocks.Segments.length:Int))||(((h.Choices.length:Int) != (f.Runners.length:Int))|| !admO f.Clocks h)))))=true:=by
    rcases t with q|q<;>simp[q]
   rw[this];rfl
  rw[w];refine Ea (v:=true) (Ea (v:=false) ?_ (Qa _)) (Qa _);unfold F_ar;refine Ea (v:=true) ((Qi λ_=>Qa _).eq ?_) (Qa _);rcases t with q|q<;>simp[q]
 .have u:decide (h.World<0)=false:=decide_eq_false (by omega);have y:decide ((f.Pairs.length:Int)<h.World)=false:=decide_eq_false (by omega);have e:=QiK u;have b:wN h<f.Pairs.length+1:=by omega
  unfold admB;rw[u,y];simp only[Bool.false_or];cases k:openW f (wN h)with
  |false=>
   refine Ea (v:=true) (Ea (v:=false) ?_ (Qa _)) (Qa _);rw[e];exact(Qbb f o.few o.wlds b).eq k
  |true=>
   cases B:((h.Offsets.length:Int) != (f.Clocks.Segments.length:Int))with
   |true=>
    refine Ea (v:=true) (Ea (v:=true) ?_ (Qa _)) (Qa _);rw[e];exact(Qbb f o.few o.wlds b).eq k
   |false=>
    cases J:((h.Choices.length:Int) != (f.Runners.length:Int))with
    |true=>
     refine Ea (v:=true) (Ea (v:=true) ?_ (Qa _)) (Qa _);rw[e];exact(Qbb f o.few o.wlds b).eq k
    |false=>
     have s:=Qc1 B;have q:InW f h:=⟨e,b,Qc1 J⟩;refine Ea (v:=false) (Ea (v:=true) ?_ (Qa _)) ?_
     .rw[e];exact(Qbb f o.few o.wlds b).eq k
     refine Ym ?_;refine Ea (v:=(0:Int)::h.Offsets) (Ez (QdK [0] h.Offsets (by simp only[X8,List.length_nil];omega))) ?_;refine Ea (Yv ((0:Int)::h.Offsets) (λx=> !wideB 1125899906842624 x) (Ctl.done false) (Ctl.cont ()) (by simp only[X8];omega) (λi x m=>?_) ?_) ?_
     .unfold F_jz;simp only[m.lt,cond_true,m.ix,XQ,m.nx];refine Ea (v:=wideB 1125899906842624 x) (by unfold wideB;exact Qi λ_=>Qa _) ?_;cases wideB 1125899906842624 x<;>exact Qa _
     .unfold F_jz;simp only[YR,cond_false];exact Qa _
     have p:(((0:Int)::h.Offsets).all λx=> !wideB 1125899906842624 x)= !((0:Int)::h.Offsets).any (wideB 1125899906842624):=by rw[List.not_any_eq_all_not]
     rw[p];cases g:((0:Int)::h.Offsets).any (wideB 1125899906842624)with
     |true=>
      rw[QgJ o.dims o.rows s (by omega) g];exact Qa _
     |false=>
      have H:=QiJ g;simp only[Xi,cond_true,Xh,Bool.false_or,Bool.or_false,Bool.not_not];have a:((0:Int)::h.Offsets).length=f.Clocks.Segments.length+1:=by simp[s]
      refine Ea (v:=bif admO f.Clocks h then Ctl.cont ()else Ctl.done false) ?_ ?_
      .unfold admO;rw[<- a];refine Yf _ _ _ _ (λi d=>?_) ?_
       .rw[a]at d;unfold F_jh;simp only[ltN (show i<((0:Int)::h.Offsets).length by rw[a];exact d),cond_true,Q5 (show i<=1048576 by omega)];refine Ea (Yf ((0:Int)::h.Offsets).length (λj=>decide (offG h j-offG h i<=farG f.Clocks i j)) (Ctl.done (Ctl.done (Ctl.done false))) (Ctl.cont ()) (λj l=>?_) ?_) ?_
        .rw[a]at l;unfold F_jm;simp only[ltN (show j<((0:Int)::h.Offsets).length by rw[a];exact l),cond_true,Qq (o.dims.get d l).1,Qq (o.dims.get d l).2,Qf5 h (show j<h.Offsets.length+1 by omega),Qf5 h (show i<h.Offsets.length+1 by omega),XQ,Q5 (show j<=1048576 by omega),Qjv H (show i<h.Offsets.length+1 by omega) (show j<h.Offsets.length+1 by omega)];cases decide (offG h j-offG h i<=farG f.Clocks i j)<;>exact Qa _
        .unfold F_jm;simp only[geN (X0 _),cond_false];exact Qa _
        .cases(List.range ((0:Int)::h.Offsets).length).all λj=>decide (offG h j-offG h i<=farG f.Clocks i j)<;>exact Qa _
       .unfold F_jh;simp only[geN (X0 _),cond_false];exact Qa _
      .cases admO f.Clocks h with
       |false=>exact Qa _
       |true=>
        simp only[cond_true,Bool.true_and];refine Ea (v:=bif (List.range f.Runners.length).all (chB f h)then Ctl.cont ()else Ctl.done false) ?_ ?_
        .rw[<- q.cl];refine Yf h.Choices.length _ _ _ (λi d=>?_) ?_
         .have r:i<f.Runners.length:=by rw[<- q.cl];exact d
          obtain⟨F,E,z⟩:=Qgp d;obtain⟨M,G,_,_⟩:=QfV o r q.wlt;unfold F_jk;rw[q.w0];simp only[ltN d,cond_true,M,G,F,XQ,Q5 (show i<=1048576 by omega),E,z];refine Ea (v:=decide (oiG h i<0)||decide (((wldF f i (wN h)).length:Int)<=oiG h i)) (Qi λ_=>Qa _) ?_;unfold chB;cases L:decide (oiG h i<0)||decide (((wldF f i (wN h)).length:Int)<=oiG h i)with
          |true=>exact Qa _
          |false=>
           simp only[cond_false,Xi,Bool.true_and,Qlu L,XQ];refine Ea (v:= !fitX (outG f h i) (xG h i)) ((YN (λ_=>Qi λ_=>YN (λ_=>Qi λ_=>Qa _) (λ_=>Qa _)) (λ_=>YN (λ_=>Qi λ_=>Qa _) (λ_=>Qa _))).eq (Qng _ _)) ?_;cases fitX (outG f h i) (xG h i)<;>exact Qa _
         .unfold F_jk;simp only[geN (X0 _),cond_false];exact Qa _
        .cases(List.range f.Runners.length).all (chB f h)<;>exact Qa _
theorem QeB{f:Field}(o:FieldOk f)(h:History):Ev (λn=>F_au n f h) (bif admB f h then 0 else 260):=by
 unfold F_au;refine Ea (v:=0) ((Qfz f o.few).eq (by rw[o.ok];rfl)) ?_;refine Ym ?_;refine Ea (Qnq o h) ?_;cases admB f h<;>exact Qa _
def badA(x:Int):Bool:=decide (1125899906842624<x)||decide (x<(-1125899906842624))
def sumV:Int->List Int->Ctl Int (Int×Int)
 |n,[]=>.cont n
 |n,x::l=>bif badA x||badA (IntKind.i64.wrap (n+x))then .done (0,300)else sumV (IntKind.i64.wrap (n+x)) l
def sumP(l:List Int):Int×Int:=match sumV 0 l with
 |.cont n=>(n,0)
 |.done r=>r
theorem Qnl{step:Nat->Int×Int->Option (Ctl (Int×Int) (Ctl Int (Int×Int)))}(l:List Int)(m:l.length<=1048576)
  (j:∀i x n,At l i x->Ev (λk=>step k (n,(i:Int))) (bif badA x||badA (IntKind.i64.wrap (n+x))then .done (.done (0,300))else .cont (IntKind.i64.wrap (n+x),((i+1:Nat):Int))))
  (e:∀n,Ev (λk=>step k (n,(l.length:Int))) (.done (.cont n))):Ev (λk=>Go.Sw.iter (step k) k (0,0)) (sumV 0 l):=by
 have loop:∀(r:List Int) (i:Nat) (n:Int),l.drop i=r->i<=l.length->EvI step (n,(i:Int)) (sumV n r):=by
  intro r
  induction r with
  |nil=>
   intro i n b h;have:i=l.length:=by have:=Xu.1 b;omega
   subst this;exact Ej (e n)
  |cons x r g=>
   intro i n b h;obtain⟨d,f⟩:=QT (by omega) b;have a:=j i x n d;unfold sumV;cases q:badA x||badA (IntKind.i64.wrap (n+x))with
   |true=>rw[q]at a;exact Ej a
   |false=>rw[q]at a;exact Eu a (g (i+1) _ f d.lt')
 exact(loop l 0 0 rfl (X2 _)).ev
theorem Qc7(x:Int):Ev (λn=>F_p n x) (bif badA x then 300 else 0):=by
 unfold F_p;refine Ea (v:=badA x) (by unfold badA;exact Qi λ_=>Qa _) ?_;cases badA x<;>exact Qa _
theorem Qn5(b:Bool):((bif b then(300:Int)else 0) != 0)=b:=by cases b<;>rfl
theorem Qgm(l:List Int)(b:l.length<=1048576):Ev (λn=>F_r n l) (sumP l):=by
 unfold F_r;refine Ea (Qnl (step:=λn=>F_hv n l) l b (λi x n a=>?_) λn=>?_) ?_
 .unfold F_hv;simp only[a.lt,cond_true,a.ix,XQ,a.nx];refine Ea (v:=badA x||badA (IntKind.i64.wrap (n+x))) (Ea (Qc7 x) ?_) ?_
  .rw[Qn5];refine Qi λ_=>Ea (Qc7 _) ?_;rw[Qn5];exact Qa _
  .cases badA x||badA (IntKind.i64.wrap (n+x))<;>exact Qa _
 .unfold F_hv;simp only[YR,cond_false];exact Qa _
 .unfold sumP;cases sumV 0 l<;>exact Qa _
theorem QoS{m:Nat}(b:1<=m)(a:m<=6):Ev (λn=>F_cd n [1] (m:Int)) (List.replicate m 1):=by
 have e:m=1\/m=2\/m=3\/m=4\/m=5\/m=6:=by omega
 unfold F_cd;rcases e with rfl|rfl|rfl|rfl|rfl|rfl
 all_goals
  refine Ea (v:=()) (Ez rfl) (Ea (v:=()) (by unfold F_ew F_fr;exact Qa _) (Ea (v:=false) (Ez rfl) (Ea (v:=()) (Ez rfl) (Ea (Ez rfl) (Ea (Ez rfl) (Ea ?_ (Qa _)))))));exact QhW (Qa4 (step:=F_kk 0) 5 rfl) λn=>rfl
theorem Qk2(A:List Int)(z x:Int)(B:List Int){i:Nat}(a:A.length=i):Qbs (A++z::B) (i:Int) x=some (A++x::B):=by
 subst a;unfold Qbs;have b:(decide (0<=(A.length:Int))&&decide ((A.length:Int)<((A++z::B).length:Int)))=true:=by
  rw[X4];refine⟨decide_eq_true (by omega),decide_eq_true ?_⟩;rw[Va,X8];omega
 rw[b];simp
theorem Qnc(A:List Int)(z:Int)(B:List Int){i:Nat}(a:A.length=i):idx (A++z::B) (i:Int)=some z:=by
 subst a;exact Qq (by simp)
def outT(m q t:Nat):List Int:=(List.range m).map λi=>(q:Int)+(if i<t then 1 else 0)
def splN(A m:Nat):List Int:=outT m (A/m) (A%m)
theorem Y3(m q t:Nat):(outT m q t).length=m:=by unfold outT;simp
theorem Qi2{m i:Nat}(hi:i<m):idx (List.replicate m (1:Int)) (i:Int)=some 1:=Qq (by simp[hi])
theorem Qns{step:Nat->Int×Int->Option (Ctl (Int×Int) (Ctl Int ((List Int)×Int)))}{m:Nat}(hm:m<=6)
  (hs:∀i,i<m->Ev (λk=>step k ((i:Int),(i:Int))) (.cont (IntKind.i64.wrap ((i:Int)+1),IntKind.i64.wrap ((i:Int)+1))))(hd:Ev (λk=>step k ((m:Int),(m:Int))) (.done (.cont (m:Int)))):
  Ev (λk=>Go.Sw.iter (step k) k (0,0)) (Ctl.cont (m:Int)):=
 Ew (λi=>((i:Int),(i:Int))) m rfl (λi hi=>(hs i hi).eq (by rw[Q5 (by omega)])) hd
theorem EvL.upto{T:Type}{step:Nat->Int->Option (List T×Ctl Int Unit)}(m:Nat)(g:Nat->T)(a:∀i,i<m->Ev (λn=>step n (i:Int)) ([g i],.cont ((i+1:Nat):Int)))(b:Ev (λn=>step n (m:Int)) ([],.done ())):
  EvL step 0 ((List.range m).map g,()):=by
 have loop:∀(k i:Nat),i+k=m->EvL step (i:Int) ((List.range' i k).map g,()):=by
  intro k
  induction k with
  |zero=>
   intro i e;obtain rfl:i=m:=by omega
   exact EvL.done b
  |succ k d=>
   intro i e;refine(EvL.cont (a i (by omega)) (d (i+1) (by omega))).eq ?_;rw[List.range'_succ];rfl
 have:=loop m 0 (by omega)
 rwa [<- List.range_eq_range']at this
def partG(q r:Int)(i:Nat):money_part:={index:=(i:Int),cents:=q,rest:=r}
def cmpM(x y:money_part):Int:=orL [cmpI y.rest x.rest,cmpI x.index y.index]
theorem YM(q r:Int)(i j:Nat):cmpM (partG q r i) (partG q r j)<0↔i<j:=by
 unfold cmpM partG orL orL orL cmpI;simp only[Int.lt_irrefl,decide_false,cond_false,bne_self_eq_false];by_cases a:(i:Int)<j
 .simp[a];omega
 .by_cases b:(j:Int)<i
  .simp[a,b];omega
  .have:i=j:=by omega
   subst this;simp
theorem QfD(n:Nat)(x y:money_part):F_t (n+3) x y=some (cmpM x y):=by
 unfold F_t cmpM;simp only[Qjj,XQ,or2]
theorem QlW(q r:Int){m:Nat}(t:m<=6):Ev (λn=>Qcf (λx y=>F_t n x y) ((List.range m).map (partG q r))) ((List.range m).map (partG q r)):=by
 refine⟨3,λn s=>?_⟩;obtain⟨k,rfl⟩:∃k,n=k+3:=⟨n-3,by omega⟩;have mem:∀x∈(List.range m).map (partG q r),∃i,x=partG q r i:=by
  intro x a;obtain⟨i,_,e⟩:=Xf.1 a;exact⟨i,e.symm⟩
 have d:((List.range m).map (partG q r)).length<=QR:=by
  have:QR=4294967296:=rfl;rw[X9,Xy];omega
 have e:=Qk0 (cf:=λx y=>F_t (k+3) x y) d cmpM (λx _ y _=>QfD k x y)
  (λx a=>by obtain⟨i,rfl⟩:=mem x a;rw[YM];omega)
  (λx a y b z f=>by obtain⟨i,rfl⟩:=mem x a;obtain⟨j,rfl⟩:=mem y b;obtain⟨l,rfl⟩:=mem z f;rw[YM,YM,YM];omega)
  (λx a y b z f=>by obtain⟨i,rfl⟩:=mem x a;obtain⟨j,rfl⟩:=mem y b;obtain⟨l,rfl⟩:=mem z f;rw[YM,YM,YM];omega)
  (λx a y b=>by
   obtain⟨i,rfl⟩:=mem x a;obtain⟨j,rfl⟩:=mem y b;rw[YM,YM];intro w u;have:i=j:=by omega
   rw[this])
 show Qcf (λx y=>F_t (k+3) x y) ((List.range m).map (partG q r))=some ((List.range m).map (partG q r));rw[e];obtain⟨_,_,p,g,_⟩:=QdW e;refine congrArg some (QaA (QK _ _) (λx a y b=>g x ((QK _ _).mem_iff.1 a) y ((QK _ _).mem_iff.1 b)) (Yy p) ?_);refine List.Pairwise.map (partG q r) (λi j h=>?_) (List.pairwise_lt_range (n:=m));show(match F_t (k+3) (partG q r j) (partG q r i)with|some c=>decide (c<0)|none=>false)=false;rw[QfD];have:¬cmpM (partG q r j) (partG q r i)<0:=by rw[YM];omega
 exact decide_eq_false this
theorem Qmd(A m:Nat)(O:1<=m)(y:m<=6)(N:A<=1125899906842624):Ev (λn=>F_bd n (A:Int) (List.replicate m 1)) (splN A m,0):=by
 have e:=Nat.div_add_mod A m;have B:A/m<=A:=Nat.div_le_self _ _;have f:A%m<m:=Nat.mod_lt _ (by omega);have a:(List.replicate m (1:Int)).length=m:=by simp
 have w:Int.tdiv (A:Int) (m:Int)=((A/m:Nat):Int):=rfl;have z:Int.tmod (A:Int) (m:Int)=((A%m:Nat):Int):=rfl;unfold splN;generalize A/m=Q at e B w⊢;generalize A%m=R at e f z⊢;have j:badA (A:Int)=false:=by
  unfold badA;rw[decide_eq_false (by omega),decide_eq_false (by omega)];rfl
 unfold F_bd;refine Ea (v:=0) ((Qc7 _).eq (by rw[j];rfl)) ?_;refine Ym ?_;rw[a,Q4 (show¬(256:Int)<(m:Int)by omega)];refine Ym (Ea (v:=Ctl.cont (m:Int)) (Qns y (λi b=>?_) ?_) ?_)
 .unfold F_jq;simp only[a,ltN b,cond_true,Qi2 b,XQ];exact Ea (v:=false) (Qa _) (Qa _)
 .unfold F_jq;simp only[a,geN (X0 _),cond_false];exact Qa _
 have t:((m:Int)==0)=false:=beq_false_of_ne (by omega);have G:IntKind.i64.wrap (1*(A:Int))=(A:Int):=by rw[Int.one_mul];exact QO (by omega) (by omega)
 have q:IntKind.i64.wrap ((A:Int)*1)=(A:Int):=by rw[Int.mul_one];exact QO (by omega) (by omega)
 simp only[t,cond_false,Q4 (show¬(A:Int)<0 by omega),XQ,G];unfold F_ez F_fi;simp only[XQ];have s:nz (m:Int)=some ():=by unfold nz;rw[t];rfl
 refine Ea (v:=((List.range m).map (partG (Q:Int) (R:Int)),())) ?_ ?_
 .refine Ea (EvL.upto (step:=λn=>F_hs n (List.replicate m 1) (A:Int) (m:Int)) m (partG (Q:Int) (R:Int)) (λi b=>?_) ?_).ev ((Qa _).eq (by simp))
  .unfold F_hs;simp only[a,ltN b,cond_true,Qi2 b,XQ,s,q,Q5 (show i<=1048576 by omega)];refine(Qa _).eq ?_;rw[w,z,QO (by omega) (by omega)];rfl
  .unfold F_hs;simp only[a,geN (X0 _),cond_false];exact Qa _
 have run:∀(k i:Nat),i+k=m->Ev (λn=>Qcj (F_ie n) ((List.range' i k).map (partG (Q:Int) (R:Int))) ((A:Int)-((i*Q:Nat):Int),(List.range i).map (partG (Q:Int) (R:Int)))) (Ctl.cont ((R:Int),(List.range m).map (partG (Q:Int) (R:Int)))):=by
  intro k
  induction k with
  |zero=>
   intro i b;obtain rfl:i=m:=by omega
   refine(Qa _).eq ?_;rw[show(A:Int)-((i*Q:Nat):Int)=(R:Int)by omega]
  |succ k E=>
   intro i b;have L:(i+1)*Q<=m*Q:=XI _ (by omega);have M:(i+1)*Q=i*Q+Q:=Xn _ _;rw[List.range'_succ,Vr];have step:Ev (λn=>F_ie n ((A:Int)-((i*Q:Nat):Int),(List.range i).map (partG (Q:Int) (R:Int))) (partG (Q:Int) (R:Int) i)) (Ctl.cont ((A:Int)-(((i+1)*Q:Nat):Int),(List.range (i+1)).map (partG (Q:Int) (R:Int)))):=by
    unfold F_ie;rw[Qbc (by simp;omega)];refine(Qa _).eq ?_;rw[Xz,Xg];have:IntKind.i64.wrap ((A:Int)-((i*Q:Nat):Int)-(Q:Int))=(A:Int)-(((i+1)*Q:Nat):Int):=by
     rw[QO (by omega) (by omega)];omega
    simp only[partG]at this⊢;rw[this];rfl
   exact Ea step (E (i+1) (by omega))
 refine Ea (v:=Ctl.cont ((R:Int),(List.range m).map (partG (Q:Int) (R:Int)))) ?_ ?_
 .have:=run m 0 (by omega);rw[<- List.range_eq_range']at this;simpa using this
 refine Ea (QlW _ _ y) ?_;have u:((List.range m).map (partG (Q:Int) (R:Int))).length=m:=by simp
 refine Ea (v:=outT m Q R++List.replicate (256-m) 0) ?_ ?_
 .refine Ew (λi=>(outT i Q R++List.replicate (256-i) 0,(i:Int))) m rfl (λi b=>?_) ?_
  .have H:idx ((List.range m).map (partG (Q:Int) (R:Int))) (i:Int)=some (partG (Q:Int) (R:Int) i):=Qq (by simp[b]);have er:List.replicate (256-i) (0:Int)=0::List.replicate (256-(i+1)) 0:=by
    rw[show 256-i=(256-(i+1))+1 by omega,Xm]
   have F:∀x:Int,Nat.beq (outT i Q R++x::List.replicate (256-(i+1)) 0).length 256=true:=by
    intro x;have:(outT i Q R++x::List.replicate (256-(i+1)) 0).length=256:=by
     rw[Va,Y3,X8,List.length_replicate];omega
    rw[this];rfl
   have p:IntKind.i64.wrap (1*(Q:Int))=(Q:Int):=by rw[Int.one_mul];exact QO (by omega) (by omega)
   have J:outT (i+1) Q R=outT i Q R++[(Q:Int)+(if i<R then 1 else 0)]:=by
    unfold outT;rw[Xz,Xg];rfl
   unfold F_jo Qb5;rw[er];simp only[u,ltN b,cond_true,H,XQ,partG,F,Qnc _ _ _ (Y3 i _ _),Qk2 _ _ _ _ (Y3 i _ _),p,Q5 (show i<=1048576 by omega)];rw[J,Vq];by_cases g:i<R
   .rw[Yh (show((i:Int)<(R:Int))by omega),if_pos g];refine(Qa _).eq ?_;rw[QO (by omega) (by omega)];rfl
   .rw[Q4 (show¬((i:Int)<(R:Int))by omega),if_neg g];refine(Qa _).eq ?_;rw[Int.add_zero];rfl
  .unfold F_jo;simp only[u,geN (X0 _),cond_false];exact Qa _
 have d:(outT m Q R++List.replicate (256-m) (0:Int)).length=256:=by
  rw[Va,Y3,List.length_replicate];omega
 refine Ea (v:=outT m Q R++List.replicate (256-m) 0) (Ez (by unfold arr;rw[d];rfl)) ?_;refine Ea (v:=outT m Q R) (Ez ?_) ?_
 .unfold slc;rw[d,Yh (show(0:Int)<=0 by omega),Yh (show(0:Int)<=(m:Int)by omega),Yh (show(m:Int)<=((256:Nat):Int)by omega)];simp only[Bool.and_self,cond_true,Int.toNat_natCast];rw[Vf (by rw[Y3];exact X0 _),List.take_of_length_le (by rw[Y3];exact X0 _)];rfl
 .refine Ea (v:=outT m Q R) ?_ (Qa _);unfold F_fm isNil;have r:(outT m Q R).isEmpty=false:=by
   cases h:outT m Q R with
   |nil=>have:=Y3 m Q R;rw[h]at this;simp at this;omega
   |cons x l=>rfl
  rw[r];refine Ym (Ea (Ez (QdK [] _ (by rw[Y3];simp;omega))) (Qa _))
theorem Qof:F_gu 300=some true:=by kernel_rfl
def rkN(j:Nat):Int:=((j+1:Nat):Int)
theorem Qm9{m:MapI}(h:(m.map Prod.fst).Nodup):(keysS m).Pairwise (· < ·):=by
 have e:(keysS m).Pairwise (· <= ·):=(Yy (Qcr _)).imp λ{a b} h=>by simp[ltI]at h;exact h
 have d:(keysS m).Pairwise (· ≠ ·):=QlH h;exact(e.and d).imp λ{a b} z=>by have:=z.1;have:=z.2;omega
abbrev MapL:=List (Int×List Int)
def lift(G:MapL):List (Int×Option (List Int)):=G.map λp=>(p.1,some p.2)
theorem Qfn(k:Int):∀G:MapL,YK (lift G) k=(YK G k).map some
 |[]=>rfl
 |p::G=>by
  have e:lift (p::G)=(p.1,some p.2)::lift G:=rfl;rw[e,YX,YX,Qfn k G];by_cases q:p.1=k<;>simp[q]
theorem Qh7(G:MapL)(k:Int):QgV (lift G) k=some (QF G k [],Qaq (lift G) k):=by
 unfold QgV QjP QF;rw[Qfn];cases YK G k<;>rfl
theorem Qla(G:MapL)(k:Int)(v:List Int):QW (Qaq (lift G) k) k (some v)=lift (QW G k v):=by
 have a:((Qaq (lift G) k).any λp=>decide (p.1=k))=G.any λp=>decide (p.1=k):=by
  unfold Qaq lift;rw[List.map_map,List.any_map];refine congrArg (λq=>G.any q) (funext λp=>?_);by_cases e:p.1=k<;>simp[e]
 unfold QW;rw[a];cases h:G.any λp=>decide (p.1=k)with
 |true=>
  simp only[cond_true];unfold Qaq lift;rw[List.map_map,List.map_map,List.map_map];refine List.map_congr_left λp _=>?_;by_cases e:p.1=k<;>simp[e]
 |false=>
  have e:Qaq (lift G) k=lift G:=by
   unfold Qaq lift;rw[List.map_map];refine List.map_congr_left λp b=>?_;have:¬p.1=k:=λq=>by rw[Xx.2 ⟨p,b,by simp[q]⟩]at h;cases h
   simp[this]
  rw[e];unfold lift;simp
theorem Qee:∀G:MapL,Qcp (lift G)=some G
 |[]=>rfl
 |p::G=>by
  have e:lift (p::G)=(p.1,some p.2)::lift G:=rfl;rw[e];unfold Qcp;rw[Qee G];rfl
def grpS(f:Field)(h:History)(G:MapL)(i:Nat):MapL:=bif decide (0<((rankG f h i:Nat):Int))then QW G (rankG f h i:Nat) (QF G (rankG f h i:Nat) []++[bibF f i])else G
def grpM(f:Field)(h:History)(m:Nat):MapL:=(List.range m).foldl (grpS f h) []
def inG(f:Field)(h:History)(k:Int)(i:Nat):Bool:=((rankG f h i:Nat):Int)==k
def grpL(f:Field)(h:History)(m:Nat)(k:Int):List Int:=((List.range m).filter (inG f h k)).map (bibF f)
theorem Qft(f:Field)(h:History)(m:Nat)(k:Int):grpL f h (m+1) k=grpL f h m k++(bif inG f h k m then[bibF f m]else[]):=by
 unfold grpL;rw[Xz,List.filter_append,Xg];cases q:inG f h k m<;>simp[q]
theorem Qeq(f:Field)(h:History)(m:Nat)(k:Int):(grpL f h m k).length<=m:=by
 unfold grpL;rw[X9];exact X3 (List.length_filter_le ..) (by simp)
theorem QaW(f:Field)(h:History)(m:Nat):grpM f h (m+1)=grpS f h (grpM f h m) m:=Qc6 _ _ _
theorem Qgc(f:Field)(h:History){k:Int}(hk:0<k):∀m,QF (grpM f h m) k []=grpL f h m k
 |0=>rfl
 |m+1=>by
  have ih:=Qgc f h hk m;rw[QaW,Qft];unfold grpS inG;by_cases h0:0<((rankG f h m:Nat):Int)
  .rw[Yh h0];simp only[cond_true];rw[Qb1];by_cases e:k=((rankG f h m:Nat):Int)
   .rw[if_pos e, <- e,ih,beq_self_eq_true];rfl
   .have:(((rankG f h m:Nat):Int)==k)=false:=beq_false_of_ne λq=>e q.symm;rw[if_neg e,ih,this];simp
  .rw[Q4 h0];have:(((rankG f h m:Nat):Int)==k)=false:=beq_false_of_ne (by omega);simp only[cond_false,this,Vo];exact ih
theorem Qc5(f:Field)(h:History):∀m,((grpM f h m).map Prod.fst).Nodup
 |0=>List.nodup_nil
 |m+1=>by
  rw[QaW];unfold grpS;cases decide (0<((rankG f h m:Nat):Int))with
  |true=>exact Qef _ _ (Qc5 f h m)
  |false=>exact Qc5 f h m
theorem Qi8(f:Field)(h:History):∀m,(grpM f h m).length<=m
 |0=>X0 _
 |m+1=>by
  rw[QaW];have:=Qi8 f h m;unfold grpS;cases decide (0<((rankG f h m:Nat):Int))with
  |true=>exact X3 (QgZ _ _ _) (by omega)
  |false=>exact X3 this (by omega)
theorem Qi9(f:Field)(h:History)(k:Int):∀m,k∈(grpM f h m).map Prod.fst↔0<k/\grpL f h m k≠[]
 |0=>by simp[grpM,grpL]
 |m+1=>by
  have ih:=Qi9 f h k m;rw[QaW,Qft];unfold grpS inG;by_cases h0:0<((rankG f h m:Nat):Int)
  .rw[Yh h0];simp only[cond_true];have e:(QW (grpM f h m) ((rankG f h m:Nat):Int) (QF (grpM f h m) ((rankG f h m:Nat):Int) []++[bibF f m])).map Prod.fst=_:=QbJ _ _ _;rw[e];by_cases q:k=((rankG f h m:Nat):Int)
   .have:(((rankG f h m:Nat):Int)==k)=true:=by rw[q];simp
    rw[this];have a:k∈(if((rankG f h m:Nat):Int)∈(grpM f h m).map (·.1)then(grpM f h m).map (·.1)else(grpM f h m).map (·.1)++[((rankG f h m:Nat):Int)]):=by
     rw[<- q];split
     .assumption
     .simp
    exact⟨λ_=>⟨by omega,by simp⟩,λ_=>a⟩
   .have:(((rankG f h m:Nat):Int)==k)=false:=beq_false_of_ne λz=>q z.symm;rw[this];simp only[cond_false,Vo];rw[<- ih];split
    .exact Iff.rfl
    .rw[List.mem_append];exact⟨λz=>z.elim id λz=>(q (by simpa using z)).elim,.inl⟩
  .rw[Q4 h0];by_cases q:0<k
   .have:(((rankG f h m:Nat):Int)==k)=false:=beq_false_of_ne (by omega);rw[this];simp only[cond_false,Vo];exact ih
   .simp only[cond_false];rw[ih];exact⟨λz=>(q z.1).elim,λz=>(q z.1).elim⟩
def keysL(G:MapL):List Int:=QaB ltI (G.map Prod.fst)
theorem QjV(G:MapL):(keysL G).length=G.length:=by unfold keysL;rw[(QK _ _).length_eq,X9]
theorem Qgj(G:MapL)(e:G.length<=1048576):Ev (λn=>F_bt n G) ((keysL G).map (λk=>(k,QF G k [])),()):=by
 have h:=QjV G;unfold F_bt F_hl;simp only[XQ];refine Ea (v:=keysL G) ?_ ?_
 .unfold F_el Qkk;have d:Nat.ble (List.map Prod.fst G).length QR=true:=Qjd (by rw[X9];exact e);rw[d];refine QhV (Ev.anyP λp b=>?_);have:p.length=G.length:=by rw[b.length_eq,X9]
  rw[QgN p (by omega),Qfq b];exact Qa _
 refine Ea (QhU (step:=λn=>F_hr n G (keysL G)) (keysL G) (λk=>(k,QF G k [])) (by omega) (λi x a=>?_) ?_).ev ((Qa _).eq ?_)
 .unfold F_hr;simp only[a.lt,cond_true,a.ix,XQ,a.nx];exact Qa _
 .unfold F_hr;simp only[YR,cond_false];exact Qa _
 .simp
def ksG(f:Field)(h:History)(n:Nat):List Int:=((List.range n).map rkN).filter λk=> !(grpL f h n k).isEmpty
theorem Qna{f:Field}{h:History}:keysL (grpM f h f.Runners.length)=ksG f h f.Runners.length:=by
 refine Qfc (lt:=λa b:Int=>a<b) (λa b h=>by omega) ?_ ?_ λx=>?_
 .have n:(keysL (grpM f h f.Runners.length)).Pairwise (· <= ·):=(Yy (Qcr _)).imp λ{a b} h=>by simp[ltI]at h;exact h
  have d:(keysL (grpM f h f.Runners.length)).Pairwise (· ≠ ·):=((QK ltI _).nodup_iff).2 (Qc5 f h _);exact n.imp₂ (λa b p q=>by omega) d
 .unfold ksG;refine List.Pairwise.sublist List.filter_sublist ?_;exact List.Pairwise.map rkN (λa b h=>by unfold rkN;omega) List.pairwise_lt_range
 .have e:x∈keysL (grpM f h f.Runners.length)↔x∈(grpM f h f.Runners.length).map Prod.fst:=(QK ltI _).mem_iff;rw[e,Qi9];unfold ksG;rw[Xe];simp only[Xf,List.mem_range,Bool.not_eq_true',List.isEmpty_eq_false_iff];constructor
  .rintro⟨n,d⟩;refine⟨?_,d⟩;obtain⟨b,m⟩:=List.exists_mem_of_ne_nil _ d;unfold grpL at m;obtain⟨i,r,_⟩:=Xf.1 m;obtain⟨l,g⟩:=Xe.1 r;have k:i<f.Runners.length:=by simpa using l
   have:=QgT (h:=h) k;have t:((rankG f h i:Nat):Int)=x:=by simpa[inG]using g
   exact⟨(x-1).toNat,by omega,by unfold rkN;omega⟩
  .rintro⟨⟨j,s,rfl⟩,d⟩;exact⟨by unfold rkN;omega,d⟩
def prz(c:Course)(d q:Int)(k:Int)(m:Nat):List Int:=(List.range m).map λ(i:Nat)=>amountS c d q (k+(i:Int))
theorem Qcl(c:Course)(d q k:Int)(m:Nat):prz c d q k (m+1)=prz c d q k m++[amountS c d q (k+(m:Int))]:=by unfold prz;rw[Xz,Xg];rfl
theorem Qcm(c:Course)(d q k:Int)(m:Nat):(prz c d q k m).length=m:=by unfold prz;simp
def zipP:List Int->List Int->List Payment
 |b::g,p::ps=>bif decide (0<p)then {Bib:=b,Amount:=p}::zipP g ps else zipP g ps
 |_,_=>[]
theorem QcS(b:Int)(g:List Int)(p:Int)(ps:List Int):zipP (b::g) (p::ps)=bif decide (0<p)then {Bib:=b,Amount:=p}::zipP g ps else zipP g ps:=rfl
def msetP(m:MapI)(p:Payment):MapI:=QW m p.Bib p.Amount
def insQ(l:List Payment)(p:Payment):List Payment:=insP p l
def srtP(l:List Payment):List Payment:=l.foldl insQ []
theorem QkS:∀(l:List Int) (n:Int),0<=n->n<=1125899906842624->(∀x∈l,0<=x)->(∃s:Nat,sumV n l=.cont (s:Int)/\s<=1125899906842624/\(s:Int)=n+l.sum)\/sumV n l=.done (0,300)
 |[],n,h0,h1,_=>.inl ⟨n.toNat,by unfold sumV;rw[Int.toNat_of_nonneg h0],by omega,by simp;omega⟩
 |x::l,n,h0,h1,h2=>by
  have hx:=h2 x (by simp);unfold sumV;cases q:badA x||badA (IntKind.i64.wrap (n+x))with
  |true=>exact .inr rfl
  |false=>
   simp only[X5,badA,decide_eq_false_iff_not]at q;obtain⟨⟨q1,q2⟩,q3,q4⟩:=q;rw[QO (by omega) (by omega)]at q3 q4⊢;simp only[cond_false];rcases QkS l (n+x) (by omega) (by omega) (λy hy=>h2 y (Vd _ hy))with⟨s,e1,e2,e3⟩|e
   .exact .inl ⟨s,e1,e2,by rw[List.sum_cons];omega⟩
   .exact .inr e
theorem Qiv{c:Course}(o:PrizesOk c)(d q r:Int):0<=amountS c d q r:=by
 unfold amountS;cases h:c.Prizes.find? (matchP d q r)with
 |none=>exact Int.le_refl _
 |some p=>
  have:=o.pos p (List.mem_of_find?_eq_some h);simp;omega
def grpPay(c:Course)(d q:Int)(f:Field)(h:History)(k:Int):Option (List Payment):=
 bif (sumP (prz c d q k (grpL f h f.Runners.length k).length)).2 != 0 then none else
  some (zipP (grpL f h f.Runners.length k) (splN (sumP (prz c d q k (grpL f h f.Runners.length k).length)).1.toNat (grpL f h f.Runners.length k).length))
theorem Qf2{c:Course}(o:PrizesOk c)(d q k:Int)(m:Nat):(∃s:Nat,sumP (prz c d q k m)=((s:Int),0)/\s<=1125899906842624/\(s:Int)=(prz c d q k m).sum)\/sumP (prz c d q k m)=(0,300):=by
 have f:∀x∈prz c d q k m,0<=x:=by
  intro x a;unfold prz at a;obtain⟨i,_,rfl⟩:=Xf.1 a;exact Qiv o _ _ _
 unfold sumP;rcases QkS (prz c d q k m) 0 (Int.le_refl _) (by omega) f with⟨s,b,g,h⟩|e
 .exact .inl ⟨s,by rw[b],g,by omega⟩
 .exact .inr (by rw[e])
theorem Qnk{r1:Int×List Int}{r2:List Int×Int}(t:r1.2.length=r2.1.length)(u:r1.2.length<=6)(f:MapI):Ev (λn=>iter (F_ej n r1 r2) n (f,0)) ((zipP r1.2 r2.1).foldl msetP f):=by
 have loop:∀(g a:List Int) (i:Nat) (m:MapI),r1.2.drop i=g->r2.1.drop i=a->i<=r2.1.length->EvI (λn=>F_ej n r1 r2) (m,(i:Int)) ((zipP g a).foldl msetP m):=by
  intro g a
  induction a generalizing g with
  |nil=>
   intro i m l h q;refine Ej ?_;unfold F_ej;simp only[YG h q,cond_false];refine(Qa _).eq ?_;cases g<;>rfl
  |cons p a s=>
   intro i m l h q;obtain⟨d,k⟩:=QT (by omega) h;have j:=d.lt';cases g with
   |nil=>have:=Xu.1 l;omega
   |cons b g=>
    obtain⟨r,e⟩:=QT (by omega) l;refine Eu (s':=((bif decide (0<p)then QW m b p else m),((i+1:Nat):Int))) ?_ ((s g (i+1) _ e k j).eq ?_)
    .unfold F_ej;simp only[d.lt,cond_true,d.ix,XQ,d.nx,r.ix];refine Ea (v:=bif decide (0<p)then QW m b p else m) (YN (λ_=>Qa _) (λ_=>Qa _)) (Qa _)
    .rw[QcS];cases decide (0<p)<;>rfl
 exact(loop r1.2 r2.1 0 f rfl rfl (X2 _)).ev
theorem QgH:∀(g ps:List Int),(zipP g ps).length<=g.length
 |[],_=>by simp[zipP]
 |b::g,[]=>by simp[zipP]
 |b::g,p::ps=>by
  have:=QgH g ps;unfold zipP;cases decide (0<p)<;>simp<;>omega
theorem Qg5:∀(l a:List Payment),(l.foldl insQ a).length=a.length+l.length
 |[],a=>by simp
 |p::l,a=>by
  rw[XK,Qg5 l];unfold insQ;rw[QlM,X8];omega
def inPL(c:Course)(d q:Int)(f:Field)(h:History):List Int->List Payment->Option (List Payment)
 |[],acc=>some acc
 |k::ks,acc=>match grpPay c d q f h k with
  |none=>none
  |some l=>inPL c d q f h ks (acc++l)
theorem Qcu{f:Field}{h:History}{k:Int}(b:k∈ksG f h f.Runners.length):1<=(grpL f h f.Runners.length k).length/\1<=k/\k<=(f.Runners.length:Int):=by
 unfold ksG at b;obtain⟨g,d⟩:=Xe.1 b;obtain⟨j,a,rfl⟩:=Xf.1 g;have a:=List.mem_range.1 a;refine⟨?_,by unfold rkN;omega,by unfold rkN;omega⟩;cases e:grpL f h f.Runners.length (rkN j)with
 |nil=>rw[e]at d;cases d
 |cons x l=>simp
theorem Qhq(c:Course)(g:PrizesOk c)(d q:Int){f:Field}(o:FieldOk f)(h:History):∀(b:List Int) (a:List Payment),(∀k∈b,k∈ksG f h f.Runners.length)->
  Ev (λn=>Qcj (F_dz n (amtF c d q)) (b.map λk=>(k,grpL f h f.Runners.length k)) (a.foldl msetP [])) (match inPL c d q f h b a with|none=>.done ([],300)|some l=>.cont (l.foldl msetP []))
 |[],a,_=>Qa _
 |k::b,a,hks=>by
  have hr:=o.few.runs;obtain⟨g1,g2,g3⟩:=Qcu (hks k (by simp));have g4:=Qeq f h f.Runners.length k;have hprz:Ev (λn=>iter (F_il n (amtF c d q) (k,grpL f h f.Runners.length k)) n ([],0)) (prz c d q k (grpL f h f.Runners.length k).length):=by
   refine Ew (λi=>(prz c d q k i,(i:Int))) (grpL f h f.Runners.length k).length rfl (λi j=>?_) ?_
   .unfold F_il;simp only[ltN j,cond_true,XQ,Q5 (show i<=1048576 by omega),Qbc (show(prz c d q k i).length<=140737488 by rw[Qcm];omega)];refine(Qa _).eq ?_;rw[QO (n:=k+(i:Int)) (by omega) (by omega),QnH g,Qcl]
   .unfold F_il;simp only[geN (X0 _),cond_false];exact Qa _
  rw[Vr];unfold inPL grpPay;rcases Qf2 g d q k (grpL f h f.Runners.length k).length with⟨s,e,m,_⟩|e
  .have step:Ev (λn=>F_dz n (amtF c d q) (a.foldl msetP []) (k,grpL f h f.Runners.length k)) (.cont ((a++zipP (grpL f h f.Runners.length k) (splN s (grpL f h f.Runners.length k).length)).foldl msetP [])):=by
    unfold F_dz;refine Ea hprz (Ea ((Qgm _ (by rw[Qcm];omega)).eq e) ?_);simp only[bne_self_eq_false,cond_false];refine Ea (QoS g1 (by omega)) (Ea (Qmd s _ g1 (by omega) m) ?_);simp only[bne_self_eq_false,cond_false];refine Ea (Qnk (r1:=(k,grpL f h f.Runners.length k)) (r2:=(splN s (grpL f h f.Runners.length k).length,0)) (by unfold splN;rw[Y3]) (by simp only;omega) _) ?_;rw[XJ];exact Qa _
   rw[e];simp only[bne_self_eq_false,cond_false,Int.toNat_natCast];exact Ea step (Qhq c g d q o h b _ λx p=>hks x (Vd _ p))
  .have step:Ev (λn=>F_dz n (amtF c d q) (a.foldl msetP []) (k,grpL f h f.Runners.length k)) (.done ([],300)):=by
    unfold F_dz;refine Ea hprz (Ea ((Qgm _ (by rw[Qcm];omega)).eq e) ?_);exact Qa _
   rw[e];exact Ea step (Qa _)
structure SameP (m:MapI) (l:List Payment):Prop where
 nd:(m.map Prod.fst).Nodup
 st:l.Pairwise ltB
 get:∀b v,YK m b=some v↔({Bib:=b,Amount:=v}:Payment)∈l
theorem Qk4{m:MapI}{l:List Payment}(s:SameP m l)(p:Payment)(a:∀x∈l,x.Bib≠p.Bib):SameP (msetP m p) (insQ l p):=by
 refine⟨Qef _ _ s.nd,Qdm p l s.st a,λb v=>?_⟩;unfold msetP insQ;rw[Qc2,Qbz];by_cases e:b=p.Bib
 .subst e;rw[if_pos rfl];constructor
  .intro h;left;rw[<- X7 h]
  .rintro(h|h)
   .rw[<- h]
   .exact(a _ h rfl).elim
 .rw[if_neg e,s.get];constructor
  .exact .inr
  .rintro(h|h)
   .exact(e (by rw[<- h])).elim
   .exact h
theorem Qd0:∀(L:List Payment) (m:MapI) (l:List Payment),SameP m l->(L.map (·.Bib)).Nodup->(∀x∈l,∀p∈L,x.Bib≠p.Bib)->SameP (L.foldl msetP m) (L.foldl insQ l)
 |[],m,l,s,_,_=>s
 |p::L,m,l,s,hn,hd=>by
  rw[Vr,List.nodup_cons]at hn;refine Qd0 L _ _ (Qk4 s p λx hx=>hd x hx p (by simp)) hn.2 λx hx q hq=>?_;unfold insQ at hx;rcases(Qbz p x l).1 hx with rfl|hx
  .intro e;exact hn.1 (Xf.2 ⟨q,hq,e.symm⟩)
  .exact hd x hx q (Vd _ hq)
theorem QoC{m:MapI}{l:List Payment}(s:SameP m l):payP m=l:=by
 refine Qfc (lt:=ltB) (λa b h=>by unfold ltB at*;omega) ?_ s.st λp=>?_
 .unfold payP ordP;rw[List.map_map];exact List.Pairwise.map _ (λa b h=>h) (Qm9 s.nd)
 .have e:∀b v,YK m b=some v->QF m b 0=v:=by intro b v h;unfold QF;rw[h];rfl
  unfold payP ordP;simp only[Xf];constructor
  .rintro⟨_,⟨b,f,rfl⟩,rfl⟩;obtain⟨v,d⟩:=(Qg0 m b).1 ((QK ltI _).mem_iff.1 f);have:=(s.get b v).1 d;rw[e b v d];exact this
  .intro g;have d:=(s.get p.Bib p.Amount).2 g;exact⟨(p.Bib,p.Amount),⟨p.Bib,(QK ltI _).mem_iff.2 ((Qg0 m _).2 ⟨_,d⟩),by rw[e _ _ d]⟩,rfl⟩
theorem Qlt{L:List Payment}(h:(L.map (·.Bib)).Nodup):payP (L.foldl msetP [])=srtP L:=
 QoC (Qd0 L [] [] ⟨List.nodup_nil,List.Pairwise.nil,λb v=>⟨(λh=>by cases h),λh=>by cases h⟩⟩ h λx hx=>by cases hx)
theorem Qfe(p:Payment):∀(L l:List Payment),p∈L.foldl insQ l↔p∈L\/p∈l
 |[],l=>by simp
 |q::L,l=>by
  rw[XK,Qfe p L];unfold insQ;rw[Qbz,Ve];constructor
  .rintro(h|h|h)
   .exact .inl (.inr h)
   .exact .inl (.inl h)
   .exact .inr h
  .rintro((h|h)|h)
   .exact .inr (.inl h)
   .exact .inl h
   .exact .inr (.inr h)
theorem QdQ:∀(g ps:List Int),((zipP g ps).map (·.Bib)).Sublist g
 |[],ps=>by simp[zipP]
 |b::g,[]=>by simp[zipP]
 |b::g,p::ps=>by
  have:=QdQ g ps;unfold zipP;cases decide (0<p)with
  |true=>exact this.cons_cons b
  |false=>exact this.cons b
theorem Qcv{f:Field}{h:History}{k b:Int}(a:b∈grpL f h f.Runners.length k):∃i,i<f.Runners.length/\((rankG f h i:Nat):Int)=k/\bibF f i=b:=by
 unfold grpL at a;obtain⟨i,g,e⟩:=Xf.1 a;obtain⟨j,d⟩:=Xe.1 g;exact⟨i,by simpa using j,by simpa[inG]using d,e⟩
theorem QhG{f:Field}(o:FieldOk f){i j:Nat}(b:i<f.Runners.length)(a:j<f.Runners.length)(e:bibF f i=bibF f j):i=j:=by
 rw[QdJ b,QdJ a]at e;exact QnC o b a e
theorem Qc0{α β:Type}{g:α->β}:∀{l:List α},(∀x∈l,∀y∈l,g x=g y->x=y)->l.Nodup->(l.map g).Nodup
 |[],_,_=>List.nodup_nil
 |x::l,h,hn=>by
  rw[List.nodup_cons]at hn;rw[Vr,List.nodup_cons];refine⟨λhm=>?_,Qc0 (λa ha b hb=>h a (Vd _ ha) b (Vd _ hb)) hn.2⟩;obtain⟨y,hy,e⟩:=Xf.1 hm;have:=h y (Vd _ hy) x (Vc ..) e;subst this;exact hn.1 hy
theorem Qia{f:Field}(o:FieldOk f)(h:History)(k:Int):(grpL f h f.Runners.length k).Nodup:=by
 unfold grpL;refine Qc0 (λx b y a e=>?_) (List.nodup_range.sublist List.filter_sublist);exact QhG o (by simpa using(Xe.1 b).1) (by simpa using(Xe.1 a).1) e
theorem Qb4(c:Course)(d q:Int){f:Field}(o:FieldOk f)(h:History):∀(r:List Int) (acc L:List Payment),r.Nodup->(acc.map (·.Bib)).Nodup->(∀p∈acc,∀k∈r,p.Bib∉grpL f h f.Runners.length k)->inPL c d q f h r acc=some L->(L.map (·.Bib)).Nodup
 |[],acc,L,_,ha,_,e=>by
  obtain rfl:=X7 e;exact ha
 |k::r,acc,L,hk,ha,hd,e=>by
  unfold inPL at e;rw[List.nodup_cons]at hk;cases hg:grpPay c d q f h k with
  |none=>rw[hg]at e;cases e
  |some l=>
   rw[hg]at e;have hl:∃ps,l=zipP (grpL f h f.Runners.length k) ps:=by
    unfold grpPay at hg;cases z:((sumP (prz c d q k (grpL f h f.Runners.length k).length)).2 != 0)with
    |true=>rw[z]at hg;cases hg
    |false=>rw[z]at hg;exact⟨_,(X7 hg).symm⟩
   obtain⟨ps,rfl⟩:=hl;have g:=QdQ (grpL f h f.Runners.length k) ps;refine Qb4 c d q o h r _ L hk.2 ?_ ?_ e
   .rw[Xg];refine List.nodup_append.2 ⟨ha,(Qia o h k).sublist g,?_⟩;intro a s b t w;subst w;obtain⟨p,m,rfl⟩:=Xf.1 s;exact hd p m k (by simp) (g.subset t)
   .intro p m E n;rcases List.mem_append.1 m with m|m
    .exact hd p m E (Vd _ n)
    .intro u;obtain⟨i,H,x,G⟩:=Qcv (g.subset (Xf.2 ⟨p,m,rfl⟩));obtain⟨j,F,B,y⟩:=Qcv u;have:=QhG o H F (G.trans y.symm);subst this;exact hk.1 (by rw[<- x,B];exact n)
theorem Qfo(f:Field)(h:History)(n:Nat):(ksG f h n).Nodup:=by
 unfold ksG;refine List.Nodup.sublist List.filter_sublist (Qc0 (λx _ y _ e=>?_) List.nodup_range);unfold rkN at e;omega
def inV(e:Int)(c:Course)(f:Field)(d q:Int)(h:History):List Payment×Int:=
 bif checkV e c f d q != 0 then([],checkV e c f d q)else bif !admB f h then([],260)else match inPL c d q f h (ksG f h f.Runners.length) []with
  |none=>([],300)
  |some L=>(srtP L,0)
theorem Qeo(c:Course)(d q:Int){f:Field}(h:History):∀(a:List Int) (acc L:List Payment),inPL c d q f h a acc=some L->L.length<=acc.length+a.length*f.Runners.length
 |[],acc,L,e=>by obtain rfl:=X7 e;simp
 |k::a,acc,L,e=>by
  unfold inPL at e;cases hg:grpPay c d q f h k with
  |none=>rw[hg]at e;cases e
  |some l=>
   rw[hg]at e;have hl:l.length<=f.Runners.length:=by
    unfold grpPay at hg;cases z:((sumP (prz c d q k (grpL f h f.Runners.length k).length)).2 != 0)with
    |true=>rw[z]at hg;cases hg
    |false=>
     rw[z]at hg;obtain rfl:=X7 hg;exact X3 (QgH _ _) (Qeq ..)
   have:=Qeo c d q h a _ L e;rw[Va]at this;rw[X8,Xn];omega
theorem Qi4(f:Field)(h:History)(n:Nat):(ksG f h n).length<=n:=by
 unfold ksG;exact X3 (List.length_filter_le ..) (by simp)
theorem Qfm:∀(L:List Payment) (m:MapI),(L.foldl msetP m).length<=m.length+L.length
 |[],m=>by simp
 |p::L,m=>by
  have h1:=Qfm L (msetP m p);have h2:(msetP m p).length<=m.length+1:=QgZ _ _ _;rw[XK,X8];omega
theorem QeJ{e:Int}{c:Course}{f:Field}{d k:Int}(a:(checkV e c f d k != 0)=false):(e != 0)=false:=by
 unfold checkV at a;cases z:(e != 0)with
 |false=>rfl
 |true=>rw[z]at a;simp only[cond_true]at a;rw[z]at a;exact a
theorem ev_In(c:Course)(f:Field)(d q e:Int)(h:History)(he:Ev (λn=>F_l n c) e)(i:FewF f)(l:c.Prizes.length<=1048576)(g:(e != 0)=false->PrizesOk c):Ev (λn=>F_ab n c f d q h) (inV e c f d q h):=by
 have t:=i.runs;unfold F_ab inV;refine Ea (Qj2 c f d q e he i) ?_;cases a:(checkV e c f d q != 0)with
 |true=>exact Qa _
 |false=>
  have o:=Qe3 i (QhE a);have g:=g (QeJ a);refine Ym (Ea (Qj5 o h) ?_);cases s:admB f h with
  |false=>exact Qa _
  |true=>
   simp only[cond_true,bne_self_eq_false,cond_false,Xh];refine Ea (v:=Ctl.cont (lift (grpM f h f.Runners.length))) ?_ ?_
   .refine Ew (λm=>(lift (grpM f h m),(m:Int))) f.Runners.length rfl (λm b=>?_) ?_
    .have B:=Qeq f h m ((rankG f h m:Nat):Int);unfold F_jw;simp only[ltN b,cond_true,Qq (XR b),XQ,Q5 (show m<=1048576 by omega)];refine Ea (Qht o s b) ?_;simp only[bne_self_eq_false,cond_false,Qh7,XQ];refine Ea (v:=lift (grpM f h (m+1))) ?_ (Qa _);rw[QaW];unfold grpS;by_cases j:0<((rankG f h m:Nat):Int)
     .rw[Yh j,Qgc f h j,QdJ b];simp only[cond_true,Qbc (show(grpL f h m ((rankG f h m:Nat):Int)).length<=140737488 by omega),XQ,Qla];exact Qa _
     .rw[Q4 j];exact Qa _
    .unfold F_jw;simp only[geN (X0 _),cond_false];exact Qa _
   .refine Ea (Qil c d q l) ?_;unfold F_fn;simp only[XQ,Qee];have x:=Qi8 f h f.Runners.length;refine Ea (Qgj _ (by omega)) ?_;rw[Qna];have u:(ksG f h f.Runners.length).map (λk=>(k,QF (grpM f h f.Runners.length) k []))=(ksG f h f.Runners.length).map λk=>(k,grpL f h f.Runners.length k):=
     List.map_congr_left λk a=>by rw[Qgc f h (by have:=(Qcu a).2.1;omega)]
    simp only[u];refine Ea (Qhq c g d q o h (ksG f h f.Runners.length) [] λk a=>a) ?_;cases r:inPL c d q f h (ksG f h f.Runners.length) []with
    |none=>exact Qa _
    |some L=>
     have w:=Qeo c d q h _ _ L r;have E:=Qi4 f h f.Runners.length;have y:=Qfm L [];have z:(ksG f h f.Runners.length).length*f.Runners.length<=6*6:=Nat.mul_le_mul (by omega) t;simp only[List.length_nil]at w y;refine Ea (Qhr _ (by omega)) ?_;rw[Qlt (Qb4 c d q o h _ [] L (Qfo ..) List.nodup_nil (λp l=>by cases l) r)];exact Qa _
theorem Qcx(h:History):Ev (λn=>F_cu n h) (decide ((h.Offsets.length:Int)<=20)&&decide ((h.Choices.length:Int)<=20)):=by
 unfold F_cu;exact Ea (Ei λ_=>Qa _) (Qa _)
end Go.Sw
