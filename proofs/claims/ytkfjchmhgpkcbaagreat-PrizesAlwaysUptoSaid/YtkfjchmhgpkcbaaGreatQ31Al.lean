/- The plain laws that a law needs, with no program in sight. -/
import Derived.Test.YtkfjchmhgpkcbaaGreatW31Al
set_option linter.unusedVariables false
set_option linter.unusedSimpArgs false
namespace Go.Sw
def inR(lo hi x:Int):Bool:=decide (lo<=x)&&decide (x<=hi)
theorem QfK(lo a:Int)(l:List Int)(b:l.length<=4611686018427387904):Ev (λn=>F_a n lo a l) (l.all (inR lo a)):=by
 have h:Ev (λn=>F_em n l lo a) (l.any λx=> !inR lo a x):=by
  unfold F_em F_hh;refine Ev.contains l _ (λn x=>F_bb n x lo a) b λx _=>?_;unfold F_bb;refine Ea (v:= !inR lo a x) ?_ (Qa _);refine(Qi λh=>Qa _).eq ?_;unfold inR;rw[X6];simp
 unfold F_a;refine Ea h ((Qa _).eq ?_);rw[List.not_any_eq_all_not];simp
def okN(c:Nat):Bool:=(decide (97<=c)&&decide (c<=122))||(decide (48<=c)&&decide (c<=57))||decide (c=95)
def okAN(c:Nat):Bool:=decide (97<=c)&&decide (c<=122)
def okC(c:UInt8):Bool:=okN c.toNat
def okA(c:UInt8):Bool:=okAN c.toNat
def kwL:List (List UInt8):=[[99,111,117,114,115,101],[109,97,116,115],[115,116,97,114,116],[112,97,115,115],[101,110,100],[108,101,103],[116,111],[100,105,115,116,97,110,99,101],[103,117,110],[99,104,105,112],[115,108,111,116],[108,97,112,115],[108,97,112],[99,117,116,111,102,102],[101,120,116,114,97],[119,97,118,101],[111,102,102,101,110,99,101],[111,117,116],[99,97,116,101,103,111,114,121],[112,114,105,122,101],[97,108,108],[116,105,101,115],[105,102],[101,108,115,101],[97,110,100],[111,114],[110,111,116],[111,108,100,101,114],[121,111,117,110,103,101,114],[98,105,98],[100,114,97,119],[102,105,101,108,100],[115,104,111,114,116],[102,97,117,108,116,115],[109,105,115,115,101,115],[115,116,114,97,121,115],[119,105,110,100,111,119],[114,101,115,105,100,117,97,108],[100,114,105,102,116],[112,114,111,116,101,115,116],[102,101,101],[100,101,97,100,108,105,110,101]]
theorem QmI(c d:Bool):(bif c then some c else some d)=some (c||d):=by cases c<;>rfl
def kwsOf:List UInt8->List (List UInt8)
 |[]=>[]
 |b::l=>(bif b==32&& !(l.dropWhile λc=>c != 32).isEmpty then[l.takeWhile λc=>c != 32]else[])++kwsOf l
theorem Qdr:∀(l s:List UInt8),(∀c∈s,c≠32)->(s++[32]).isPrefixOf l=((l.takeWhile λc=>c != 32)==s&& !(l.dropWhile λc=>c != 32).isEmpty)
 |[],s,h=>by cases s<;>simp
 |b::l,[],h=>by
  by_cases e:b=32
  .subst e;simp[List.isPrefixOf]
  .have e1:(b != 32)=true:=by simpa using e
   have j:(32==b)=false:=by simpa using λq=>e q.symm
   simp[List.isPrefixOf,List.takeWhile_cons,e1,j]
 |b::l,c::s,h=>by
  have f:=h c (by simp);have a:=Qdr l s λd i=>h d (by simp[i]);by_cases e:b=32
  .subst e;have:(c==32)=false:=by simpa using f
   simp[List.isPrefixOf,this]
  .have e1:(b != 32)=true:=by simpa using e
   simp only[List.cons_append,List.isPrefixOf,List.takeWhile_cons,List.dropWhile_cons,e1,if_true,a,List.cons_beq_cons];by_cases q:c=b
   .subst q;simp
   .have g:(c==b)=false:=by simpa using q
    have k:(b==c)=false:=by simpa using λz=>q z.symm
    simp[g,k]
theorem contains_cons(b:UInt8)(l t:List UInt8)(d:t≠[]):Lib.contains (b::l) t=(t.isPrefixOf (b::l)||Lib.contains l t):=by
 unfold Lib.contains;rw[show Lib.index (b::l) t=if t.isPrefixOf (b::l)then 0 else if Lib.index l t== -1 then-1 else Lib.index l t+1 from rfl];cases h:t.isPrefixOf (b::l)with
 |true=>simp
 |false=>
  have:=Lib.index_ge l t;by_cases q:Lib.index l t= -1
  .simp[q]
  .have a:(Lib.index l t== -1)=false:=by simpa using q
   simp only[a,Bool.false_or];rw[X6];simp;omega
theorem QbJ(s:List UInt8)(h:∀c∈s,c≠32):∀l,Lib.contains l (32::(s++[32]))=(kwsOf l).contains s
 |[]=>by simp[Lib.contains,Lib.index,kwsOf]
 |b::l=>by
  rw[contains_cons b l _ (by simp),QbJ s h l];simp only[kwsOf,List.isPrefixOf,Qdr l s h];by_cases e:b=32
  .subst e;cases q: !(l.dropWhile λc=>c != 32).isEmpty with
   |true=>
    simp only[q,beq_self_eq_true,Bool.true_and,Bool.and_true,cond_true,List.cons_append,Vp,List.contains_cons];congr 1;rw[X6];simp only[beq_iff_eq];exact⟨λh=>h.symm,λh=>h.symm⟩
   |false=>simp[q]
  .have e1:(b==32)=false:=by simpa using e
   have a:(32==b)=false:=by simpa using λq=>e q.symm
   simp[e1,a]
def wordsL:List UInt8:=[32,99,111,117,114,115,101,32,109,97,116,115,32,115,116,97,114,116,32,112,97,115,115,32,101,110,100,32,108,101,103,32,116,111,32,100,105,115,116,97,110,99,101,32,103,117,110,32,99,104,105,112,32,115,108,111,116,32,108,97,112,115,32,108,97,112,32,99,117,116,111,102,102,32,101,120,116,114,97,32,119,97,118,101,32,111,102,102,101,110,99,101,32,111,117,116,32,99,97,116,101,103,111,114,121,32,112,114,105,122,101,32,97,108,108,32,116,105,101,115,32,105,102,32,101,108,115,101,32,97,110,100,32,111,114,32,110,111,116,32,111,108,100,101,114,32,121,111,117,110,103,101,114,32,98,105,98,32,100,114,97,119,32,102,105,101,108,100,32,115,104,111,114,116,32,102,97,117,108,116,115,32,109,105,115,115,101,115,32,115,116,114,97,121,115,32,119,105,110,100,111,119,32,114,101,115,105,100,117,97,108,32,100,114,105,102,116,32,112,114,111,116,101,115,116,32,102,101,101,32,100,101,97,100,108,105,110,101,32]
theorem Qo7:kwsOf wordsL=kwL:=by decide+kernel
def classTab:List Int:=(List.range 256).map λi=>if 97<=i/\i<=122\/65<=i/\i<=90 then 2 else if 48<=i/\i<=57 then 3 else if i∈[123,125,40,41,91,93,59,44,61,60,62]then 4 else if i∈[32,9,10,13]then 1 else 0
theorem Qis:Ev F_ce classTab:=by
 unfold F_ce;refine Ea (QaE (step:=F_gl 0) 40 (b:=(iter (F_gl 0) 40 (List.replicate 256 0,97)).getD []) (by decide+kernel)) ?_;refine Ea (QaE (step:=F_ig 0) 40 (b:=(iter (F_ig 0) 40 ((iter (F_gl 0) 40 (List.replicate 256 0,97)).getD [],48)).getD []) (by decide+kernel)) ?_;generalize hb:(iter (F_ig 0) 40 ((iter (F_gl 0) 40 (List.replicate 256 0,97)).getD [],48)).getD []=b2;refine Ea (QaE (step:=F_kp 0) 40 (b:=(iter (F_kp 0) 40 (b2,0)).getD []) (by subst hb;decide+kernel)) ?_;refine Ea (QaE (step:=F_ks 0) 40 (b:=classTab) (by subst hb;decide+kernel)) ?_;exact Ez (by decide+kernel)
theorem Qkv:((List.range 256).all λi=> !okN i||decide (classTab[i]?=some (if okAN i then 2 else if i=95 then 0 else 3)))=true:=by decide+kernel
theorem QmF{c:UInt8}(h:okC c=true):Qce 256 classTab (c.toNat:Int)=some (if okA c then 2 else if c.toNat=95 then 0 else 3):=by
 have a:=Xw.1 Qkv c.toNat (List.mem_range.2 c.toNat_lt);unfold okC at h;rw[h]at a;simp only[Xh,Bool.false_or,decide_eq_true_eq]at a;unfold Qce;rw[show Nat.beq classTab.length 256=true by decide+kernel,cond_true,Qm a];rfl
def goodS(s:List UInt8):Bool:=decide (1<=s.length)&&decide (s.length<=24)&&(s.head?).any okA&&s.all okC
def isNameS(s:List UInt8):Bool:=goodS s&& !kwL.contains s
theorem Qkb(s:List UInt8)(h:goodS s=true):Ev (λn=>F_dh n s) true:=by
 unfold goodS at h;simp only[X4,decide_eq_true_eq,Xw]at h;obtain⟨⟨⟨b,k⟩,g⟩,f⟩:=h;unfold F_dh;refine Ea Qis ?_;refine QaN (v:=List.replicate 256 0) (by decide+kernel) ?_;refine QaN (v:=classTab) (by decide+kernel) ?_;refine Ea (v:=Ctl.cont ()) (Ew (λi=>(i:Int)) s.length rfl (λi e=>?_) ?_) ?_
 .have a:=Jl (x:=s[i]) (by omega) (XR e);have j:=f _ a.mem;unfold F_jy;simp only[a.lt,cond_true,a.ix,XQ,QmF j,a.nx];cases i with
  |zero=>
   have:okA s[0]=true:=by
    cases s with
    |nil=>simp at b
    |cons c r=>simpa using g
   simp[this];exact Qa _
  |succ i=>
   by_cases q:okA s[i+1]=true
   .simp[q];exact Qa _
   .by_cases d:s[i+1].toNat=95
    .simp[q,d];exact Qa _
    .simp[q,d];exact Qa _
 .unfold F_jy;simp only[YD,cond_false];exact Qa _
 .refine Ez ?_;cases s with
  |nil=>simp at b
  |cons c r=>rfl
theorem Qj7{s:List UInt8}(h:goodS s=true):∀c∈s,c≠32:=by
 unfold goodS at h;simp only[X4,Xw]at h;rintro c a rfl;exact absurd (h.2 _ a) (by decide)
theorem QlZ{s:List UInt8}(h:goodS s=true):s.length<=24:=by
 unfold goodS at h;simp only[X4,decide_eq_true_eq]at h;exact h.1.1.2
theorem Qiw(s:List UInt8)(h:goodS s=true):Ev (λn=>F_cg n s) (kwL.contains s):=by
 unfold F_cg;refine Ea (v:=kwL.contains s) ?_ (Qa _);refine Ea (Qkb s h) (QjK ?_);have a:=QlZ h;refine QaN (v:=[32]++s) (by unfold cat;rw[XZ (by simp;omega)];rfl) ?_;refine QaN (v:=[32]++s++[32]) (by unfold cat;rw[XZ (by simp;omega)];rfl) ?_;refine QaN (v:=kwL.contains s) ?_ (Qa _);show Qez wordsL ([32]++s++[32])=some (kwL.contains s);unfold Qez;rw[show Nat.blt wordsL.length 4294967281=true by decide+kernel,cond_true];rw[show[32]++s++[32]=32::(s++[32])by simp,QbJ s (Qj7 h),Qo7]
theorem ch_lt(c:UInt8)(k:Nat):decide ((c.toNat:Int)<(k:Int))=decide (c.toNat<k):=by
 rw[X6];simp
theorem badC(c:UInt8):(bif decide ((c.toNat:Int)<97)then(bif decide ((c.toNat:Int)<48)then some ((c.toNat:Int) != 95)else(bif decide (57<(c.toNat:Int))then some ((c.toNat:Int) != 95)else some false))else(bif decide (122<(c.toNat:Int))then(bif decide ((c.toNat:Int)<48)then some ((c.toNat:Int) != 95)else(bif decide (57<(c.toNat:Int))then some ((c.toNat:Int) != 95)else some false))else some false))=some (!okC c):=by
 unfold okC okN;generalize c.toNat=k;have e:((k:Int) != 95)= !decide (k=95):=by
  by_cases h:k=95
  .subst h;rfl
  .rw[decide_eq_false h];simp;omega
 rw[e];by_cases i:k<48
 .rw[Yp (show(k:Int)<97 by omega),Yp (show(k:Int)<48 by omega)];have a:¬97<=k:=by omega
  have f:¬48<=k:=by omega
  simp[a,f]
 .rw[Q3 (show¬(k:Int)<48 by omega)];by_cases b:k<=57
  .rw[Yp (show(k:Int)<97 by omega),Q3 (show¬57<(k:Int)by omega)];have a:48<=k:=by omega
   simp[a,b]
  .rw[Yp (show 57<(k:Int)by omega)];by_cases g:k<97
   .rw[Yp (show(k:Int)<97 by omega)];have a:¬97<=k:=by omega
    simp[a,b]
   .rw[Q3 (show¬(k:Int)<97 by omega)];by_cases d:k<=122
    .rw[Q3 (show¬122<(k:Int)by omega)];have a:97<=k:=by omega
     simp[a,d]
    .rw[Yp (show 122<(k:Int)by omega)];simp[b,d]
theorem Qj1(n:Nat)(s:List UInt8):(bif decide ((s.length:Int)<1)then some true else(bif decide (24<(s.length:Int))then some true else(idx s 0).bind λx10=>(bif decide ((x10.toNat:Int)<97)then some true else(idx s 0).bind λx12=>some (decide (122<(x12.toNat:Int))))))=some (!(decide (1<=s.length)&&decide (s.length<=24)&&(s.head?).any okA)):=by
 cases s with
 |nil=>rfl
 |cons c r=>
  rw[Q3 (show¬((c::r).length:Int)<1 by simp;omega),cond_false];by_cases h:(c::r).length<=24
  .rw[Q3 (show¬24<((c::r).length:Int)by omega),cond_false];have d:idx (c::r) 0=some c:=rfl;simp only[d,XQ];simp only[X8]at h;have a:r.length<=23:=by omega
   simp only[List.head?_cons,Option.any_some,okA,okAN];rw[show(97:Int)=((97:Nat):Int)from rfl,ch_lt];by_cases b:c.toNat<97
   .have:¬97<=c.toNat:=by omega
    simp[b,this]
   .have e:97<=c.toNat:=by omega
    simp[b,e,a];by_cases q:c.toNat<=122
    .rw[Q3 (show¬122<(c.toNat:Int)by omega),Yp q];rfl
    .rw[Yp (show 122<(c.toNat:Int)by omega),Q3 q];rfl
  .rw[Yp (show 24<((c::r).length:Int)by omega),cond_true];simp only[X8]at h;have a:¬r.length<=23:=by omega
   simp[a]
theorem QfR(s:List UInt8)(g:s.length<=1048576):Ev (λn=>F_c n s) (isNameS s):=by
 unfold F_c;refine Ea (Ez (Qj1 0 s)) ?_;unfold isNameS;cases f:(decide (1<=s.length)&&decide (s.length<=24)&&(s.head?).any okA)with
 |false=>
  simp only[Xi,cond_true];have:goodS s=false:=by unfold goodS;rw[f];rfl
  rw[this];exact Qa _
 |true=>
  simp only[Xh,cond_false];have d:goodS s=s.all okC:=by unfold goodS;rw[f];rfl
  refine Ea (QbN s (λc=> !okC c) (λi=>(i:Int)) (Ctl.done false) (Ctl.cont ()) (by omega) rfl (λi x a b=>?_) (λi x a b=>?_) ?_) ?_
  .unfold F_jh;simp only[a.lt,cond_true,a.ix,XQ,badC,b,cond_false,a.nx];exact Qa _
  .unfold F_jh;simp only[a.lt,cond_true,a.ix,XQ,badC,b];exact Qa _
  .unfold F_jh;simp only[YD,cond_false];exact Qa _
  .rw[d];have e:s.any (λc=> !okC c)= !s.all okC:=by rw[List.not_all_eq_any_not]
   rw[e];cases q:s.all okC with
   |true=>
    simp only[Xh,cond_false,Bool.true_and];exact Ea (Qiw s (d.trans q)) (Qa _)
   |false=>
    simp only[Xi,cond_true,Bool.false_and];exact Qa _
def diffS:List (List UInt8)->List (List UInt8)->Bool
 |_,[]=>true
 |seen,x::r=>isNameS x&& !seen.contains x&&diffS (seen++[x]) r
theorem Qiz(l:List (List UInt8))(i:Nat)(x:List UInt8)(h:At l i x):diffS (l.take i) (l.drop i)=(isNameS x&& !(l.take i).contains x&&diffS (l.take (i+1)) (l.drop (i+1))):=by
 rw[h.drop,h.take];rfl
theorem QbI{α:Type}(l:List α)(a:α->List UInt8)(g:Nat->α->Option Unit)(hg:∀n x,g n x=some ())(q:l.length<=1048576)(p:∀x∈l,(a x).length<=1048576):
  Ev (λn=>((iter (λs:(List (List UInt8×Bool))×Int=>bif decide (s.2<(l.length:Int))then(idx l s.2).bind λx35=>(g n x35).bind λr36=>((F_c n (a x35)).bind λr42=>(bif (!r42)then some true else(some (Qx s.1 (a x35) false)).bind λv44=>some v44):Option Bool).bind λb40=>(bif b40 then some (.done (.done false))else(some (QR s.1 (a x35) true)).bind λm46=>some (.cont (m46,IntKind.i64.wrap (s.2+1))))else some (.done (.cont ()))) n ([],0):Option (Ctl Unit Bool)).bind λb28=>
   match b28 with
   |.cont _=>some true
   |.done s=>some s:Option Bool)) (diffS [] (l.map a)):=by
 have e:l.length<=4611686018427387904:=by omega
 have j:(l.map a).length<=4611686018427387904:=by simpa using e
 have f:=QgO (B:=Ctl Unit Bool) l (step:=λn s=>bif decide (s.2<(l.length:Int))then(idx l s.2).bind λx35=>(g n x35).bind λr36=>((F_c n (a x35)).bind λr42=>(bif (!r42)then some true else(some (Qx s.1 (a x35) false)).bind λv44=>some v44):Option Bool).bind λb40=>(bif b40 then some (.done (.done false))else(some (QR s.1 (a x35) true)).bind λm46=>some (.cont (m46,IntKind.i64.wrap (s.2+1))))else some (.done (.cont ())))
  (s0:=(([]:List (List UInt8×Bool)),(0:Int))) (λi=>(Yd a true (l.take i),(i:Int))) (λi=>bif diffS ((l.map a).take i) ((l.map a).drop i)then .cont ()else .done false) e rfl (λi x d=>?_) ?_
 .refine Ea f ?_;simp only[List.take_zero,List.drop_zero];cases diffS [] (l.map a)<;>exact Qa _
 .have k:At (l.map a) i (a x):=Jl j (by rw[Xr,d.get];rfl);simp only[Qiz _ _ _ k];have b:Ev (λn=>((F_c n (a x)).bind λr42=>(bif (!r42)then some true else(some (Qx (Yd a true (l.take i)) (a x) false)).bind λv44=>some v44):Option Bool)) (!(isNameS (a x)&& !((l.map a).take i).contains (a x))):=by
   refine Ea (QfR (a x) (p x d.mem)) ?_;cases isNameS (a x)with
   |false=>exact Qa _
   |true=>
    refine Q6 ((Qa _).eq ?_);rw[Qdt,List.map_take];by_cases h:a x∈(l.map a).take i
    .rw[if_pos h];simp[h]
    .rw[if_neg h];simp[h]
  cases m:(isNameS (a x)&& !((l.map a).take i).contains (a x))with
  |true=>
   rw[m]at b;refine .inl ⟨?_,by simp⟩;simp only[d.lt,cond_true,d.ix,XQ,hg];refine Ea b ?_;simp only[Xh,cond_false,XQ,d.nx];rw[d.take,Qgl];exact Qa _
  |false=>
   rw[m]at b;refine .inr ?_;simp only[d.lt,cond_true,d.ix,XQ,hg];refine Ea b ?_;simp only[Xi,cond_true,Bool.false_and,cond_false];exact Qa _
 .simp only[YD,cond_false];rw[show(l.map a).drop l.length=[]by apply List.drop_eq_nil_of_le;simp];exact Qa _
theorem QaV{α:Type}{l:List α}{x:α}(h:l.length<=140737488):app l [x]=some (l++[x]):=QnY l x (by omega)
theorem QfS{α β:Type}(l:List α)(f:α->β)(j:l.length<=140737488):Ev (λn=>iter (λs:(List β)×Int=>bif decide (s.2<(l.length:Int))then(idx l s.2).bind λx15=>(app s.1 [f x15]).bind λl16=>some (Ctl.cont (l16,IntKind.i64.wrap (s.2+1)))else some (Ctl.done s.1)) n (([]:List β),(0:Int))) (l.map f):=by
 have e:∀l:List α,l.foldl (λ(a:List β) x=>a++[f x]) []=l.map f:=by
  intro l;have d:∀(l:List α) (a:List β),l.foldl (λ(a:List β) x=>a++[f x]) a=a++l.map f:=by
   intro l
   induction l with
   |nil=>intro a;simp
   |cons x l h=>intro a;rw[XK,h];simp
  simpa using d l []
 rw[<- e l];refine Qbp l (λ(a:List β) x=>a++[f x]) [] (λa i=>(a,(i:Int))) (λa=>a) (by omega) rfl (λi x a g b=>?_) ?_
 .rw[e]at b;have:a.length<=140737488:=by rw[b];simp;omega
  simp only[g.lt,cond_true,g.ix,XQ,QaV this,g.nx];exact Qa _
 .simp only[YD,cond_false];exact Qa _
def namesS(c:Course):Bool:=isNameS c.Name&&(diffS [] (c.Mats.map (·.Name))&&(diffS [] (c.Distances.map (·.Name))&&(diffS [] (c.Waves.map (·.Name))&&(diffS [] (c.Offences.map (·.Name))&&diffS [] (c.Categories.map (·.Name))))))
structure CourseOk (c:Course):Prop where
 name:c.Name.length<=1048576
 mats:c.Mats.length<=1048576
 matsN:∀x∈c.Mats,x.Name.length<=1048576
 legs:c.Legs.length<=1048576
 dist:c.Distances.length<=1048576
 distN:∀x∈c.Distances,x.Name.length<=1048576
 cut:∀x∈c.Distances,x.Cutoffs.length<=1048576
 wave:c.Waves.length<=1048576
 waveN:∀x∈c.Waves,x.Name.length<=1048576
 off:c.Offences.length<=1048576
 offN:∀x∈c.Offences,x.Name.length<=1048576
 cat:c.Categories.length<=1048576
 catN:∀x∈c.Categories,x.Name.length<=1048576
 prize:c.Prizes.length<=1048576
theorem Qmm(c:Course)(w:CourseOk c):Ev (λn=>F_ee n c) (namesS c):=by
 unfold F_ee namesS;refine Ea (v:=_) ?_ (Qa _);refine Ea (QfR c.Name w.name) (Ei λ_=>?_);have d:Ev (λn=>F_ct n c.Mats) (diffS [] (c.Mats.map (·.Name))):=by unfold F_ct;exact QbI c.Mats (·.Name) F_go (λ_ _=>rfl) w.mats w.matsN
 have f:Ev (λn=>F_dj n c.Distances) (diffS [] (c.Distances.map (·.Name))):=by unfold F_dj;exact QbI c.Distances (·.Name) F_he (λ_ _=>rfl) w.dist w.distN
 have b:Ev (λn=>F_dx n c.Waves) (diffS [] (c.Waves.map (·.Name))):=by unfold F_dx;exact QbI c.Waves (·.Name) F_hc (λ_ _=>rfl) w.wave w.waveN
 have a:Ev (λn=>F_cz n c.Offences) (diffS [] (c.Offences.map (·.Name))):=by unfold F_cz;exact QbI c.Offences (·.Name) F_fa (λ_ _=>rfl) w.off w.offN
 have e:Ev (λn=>F_bv n c.Categories) (diffS [] (c.Categories.map (·.Name))):=by unfold F_bv;exact QbI c.Categories (·.Name) F_fi (λ_ _=>rfl) w.cat w.catN
 refine Ea d (Ei λ_=>?_);refine Ea f (Ei λ_=>?_);refine Ea b (Ei λ_=>?_);refine Ea a (Ei λ_=>?_);exact Ea e (Qa _)
theorem Qcn{n:Nat}(h:n<=1048576):IntKind.i64.wrap ((n:Int)-1)=(n:Int)-1:=QJ (by omega) (by omega)
mutual
def szP:Part->Nat
 |⟨_,_,ps⟩=>1+szPs ps
def szPs:List Part->Nat
 |[]=>0
 |p::r=>szP p+szPs r
end
theorem Qac(p:Part):szP p=1+szPs p.Parts:=by cases p;rfl
theorem QaY{p:Part}:∀{l:List Part},p∈l->szP p<=szPs l
 |q::r,h=>by
  simp only[szPs];rcases Ve.1 h with rfl|h
  .omega
  .have:=QaY h;omega
mutual
def partS(k:Int):Part->Bool
 |⟨m,laps,ps⟩=>bif laps==0 then inR 0 k m&&((ps.length:Int)==0)else inR 1 64 laps&&((m==0)&&(decide (0<(ps.length:Int))&&partsS k ps))
def partsS(k:Int):List Part->Bool
 |[]=>true
 |p::r=>partS k p&&partsS k r
end
theorem Qel(k:Int)(p:Part):partS k p=bif p.Laps==0 then inR 0 k p.Mat&&((p.Parts.length:Int)==0)else inR 1 64 p.Laps&&((p.Mat==0)&&(decide (0<(p.Parts.length:Int))&&partsS k p.Parts)):=by cases p;rfl
theorem Qc6(k:Int):∀l:List Part,partsS k l=l.all (partS k)
 |[]=>rfl
 |p::r=>by simp only[partsS,List.all_cons,Qc6 k r]
theorem Y2{p:Part}(h:Part.wf p):p.Parts.length<=1048576/\ ∀x∈p.Parts,Part.wf x:=by
 cases p;simp only[Part.wf,QcR]at h;exact h.2.2.1
theorem QE(lo hi x:Int):Ev (λn=>F_a n lo hi [x]) (inR lo hi x):=(QfK lo hi [x] (by simp)).eq (by simp)
theorem QaI(lo hi x y:Int):Ev (λn=>F_a n lo hi [x,y]) (inR lo hi x&&inR lo hi y):=(QfK lo hi [x,y] (by simp)).eq (by simp)
theorem Qmj(k:Int):∀(m:Nat) (l:List Part),szPs l<=m->l.length<=1048576->(∀x∈l,Part.wf x)->Ev (λn=>F_f n l k) (partsS k l):=by
 intro m
 induction m with
 |zero=>
  intro l a f d;cases l with
  |nil=>
   refine YX ?_;show Ev (λn=>B_f (F_f n) n [] k) _;unfold B_f F_by F_cu;exact Y6 [] (partS k) (λn x=>F_az (F_f n) n x k) (by simp) (by simp)
  |cons p r=>
   exfalso;simp only[szPs,Qac]at a;omega
 |succ m h=>
  intro l a f d;refine YX ?_;show Ev (λn=>B_f (F_f n) n l k) _;unfold B_f F_by F_cu;rw[Qc6];refine Y6 l (partS k) (λn x=>F_az (F_f n) n x k) (by omega) λp b=>?_;unfold F_az;rw[Qel];have g:=QaY b;rw[Qac]at g;obtain⟨i,e⟩:=Y2 (d p b);refine Ym (λ_=>?_) (λ_=>?_)
  .exact Ea (Ea (QE _ _ _) (Ei λ_=>Qa _)) (Qa _)
  .exact Ea (Ea (QE _ _ _) (Ei λ_=>Ei λ_=>Ei λ_=>Ea (h p.Parts (by omega) i e) (Qa _))) (Qa _)
def legS(k:Int)(l:Leg):Bool:=(inR 0 k l.From&&inR 0 k l.To)&&((inR 0 68719476736 l.Min&&inR 0 68719476736 l.Max)&&decide (l.Min<=l.Max))
def cutS(k:Int)(x:Cutoff):Bool:=inR 0 k x.Mat&&(decide (1<=x.Lap)&&inR 0 1099511627776 x.Limit)
def distS(k:Int)(d:Distance):Bool:=inR 1 3 d.Timing&&(inR (-1) k d.Extra&&(partsS k d.Route&&d.Cutoffs.all (cutS k)))
def offS(o:Offence):Bool:=bif o.Out then(o.Time==0)&&(o.Laps==0)else bif o.Laps != 0 then(o.Time==0)&&inR 1 64 o.Laps else inR 0 68719476736 o.Time
def catS(x:Category):Bool:=(inR 0 120 x.From&&inR 0 120 x.To)&&decide (x.From<=x.To)
def prizeS(c:Course)(p:Prize):Bool:=inR 0 ((c.Distances.length:Int)-1) p.Distance&&(inR (-1) ((c.Categories.length:Int)-1) p.Category&&(inR 1 4000 p.Rank&&inR 1 1125899906842624 p.Amount))
def lastS(c:Course):Bool:=(inR 0 16 c.Faults.Misses&&inR 0 16 c.Faults.Strays)&&((inR 0 4294967296 c.Faults.Window&&inR 0 4294967296 c.Faults.Residual)&&(inR 0 100000 c.Faults.Drift&&(inR 0 1125899906842624 c.Fee&&inR 0 1099511627776 c.Deadline)))
def legKey(l:Leg):typing_ends:={from_:=l.From,to_:=l.To}
def prizeKey(p:Prize):typing_place:={distance:=p.Distance,category:=p.Category,rank:=p.Rank}
def numbersS(c:Course):Bool:=
 let k:=(c.Mats.length:Int)-1
 c.Mats.all (λm=>inR 1 3 m.Kind)&&(c.Legs.all (legS k)&&(decide ((c.Legs.map legKey).Nodup)&&(c.Distances.all (distS k)&&(c.Waves.all (λw=>inR 0 1099511627776 w.Gun)&&(c.Offences.all offS&&(c.Categories.all catS&&(c.Prizes.all (prizeS c)&&(decide ((c.Prizes.map prizeKey).Nodup)&&lastS c))))))))
structure PartsOk (c:Course):Prop where
 len:∀d∈c.Distances,d.Route.length<=1048576
 wf:∀d∈c.Distances,∀x∈d.Route,Part.wf x
theorem Qgy(l:List Leg)(b:l.length<=1048576):Ev (λn=>F_dm n l) (decide ((l.map legKey).Nodup)):=by
 unfold F_dm;refine Ea (Qbq l legKey true (by omega) (λi x m a=>?_) (λm=>?_)) ((Qa _).eq ?_)
 .unfold F_ki F_gm;simp only[a.lt,cond_true,a.ix,XQ,a.nx];exact Qa _
 .unfold F_ki;simp only[YD,cond_false];exact Qa _
 .rw[X6];simp only[beq_iff_eq,decide_eq_true_eq];have:=Qb0 legKey true l;rw[<- this.2];omega
theorem QeP(l:List Prize)(b:l.length<=1048576):Ev (λn=>F_cp n l) (decide ((l.map prizeKey).Nodup)):=by
 unfold F_cp;refine Ea (Qbq l prizeKey true (by omega) (λi x m a=>?_) (λm=>?_)) ((Qa _).eq ?_)
 .unfold F_jz F_gc;simp only[a.lt,cond_true,a.ix,XQ,a.nx];exact Qa _
 .unfold F_jz;simp only[YD,cond_false];exact Qa _
 .rw[X6];simp only[beq_iff_eq,decide_eq_true_eq];have:=Qb0 prizeKey true l;rw[<- this.2];omega
theorem Qio(c:Course)(w:CourseOk c)(q:PartsOk c):Ev (λn=>F_bo n c) (numbersS c):=by
 unfold F_bo numbersS;rw[Qcn w.mats];refine Ea (v:=_) ?_ (Qa _);have d:Ev (λn=>F_cs n c.Mats) (c.Mats.all λm=>inR 1 3 m.Kind):=by
  unfold F_cs F_es F_gw;refine Y6 c.Mats _ (λn x=>F_cj n x) (by have:=w.mats;omega) λx a=>?_;unfold F_cj;exact Ea (QE _ _ _) (Qa _)
 have j:Ev (λn=>F_dg n c.Legs ((c.Mats.length:Int)-1)) (c.Legs.all (legS ((c.Mats.length:Int)-1))):=by
  unfold F_dg F_hk F_gh;refine Y6 c.Legs _ (λn x=>F_ec n x _) (by have:=w.legs;omega) λx a=>?_;unfold F_ec;exact Ea (Ea (QaI _ _ _ _) (Ei λ_=>Ea (QaI _ _ _ _) (Ei λ_=>Qa _))) (Qa _)
 have b:Ev (λn=>F_bw n c.Distances ((c.Mats.length:Int)-1)) (c.Distances.all (distS ((c.Mats.length:Int)-1))):=by
  unfold F_bw F_fp F_gi;refine Y6 c.Distances _ (λn x=>F_cn n x _) (by have:=w.dist;omega) λx a=>?_;unfold F_cn;have e:Ev (λn=>F_br n x.Cutoffs ((c.Mats.length:Int)-1)) (x.Cutoffs.all (cutS ((c.Mats.length:Int)-1))):=by
   unfold F_br F_ew F_et;refine Y6 x.Cutoffs _ (λn x=>F_dw n x _) (by have:=w.cut x a;omega) λy k=>?_;unfold F_dw;exact Ea (Ea (QE _ _ _) (Ei λ_=>Ei λ_=>Ea (QE _ _ _) (Qa _))) (Qa _)
  exact Ea (Ea (QE _ _ _) (Ei λ_=>Ea (QE _ _ _) (Ei λ_=>Ea (Qmj _ _ x.Route (X0 _) (q.len x a) (q.wf x a)) (Ei λ_=>Ea e (Qa _))))) (Qa _)
 have i:Ev (λn=>F_bx n c.Waves) (c.Waves.all λw=>inR 0 1099511627776 w.Gun):=by
  unfold F_bx F_fj F_ge;refine Y6 c.Waves _ (λn x=>F_bu n x) (by have:=w.wave;omega) λx a=>?_;unfold F_bu;exact Ea (QE _ _ _) (Qa _)
 have f:Ev (λn=>F_bt n c.Offences) (c.Offences.all offS):=by
  unfold F_bt F_ez F_ht;refine Y6 c.Offences _ (λn x=>F_dt n x) (by have:=w.off;omega) λx a=>?_;unfold F_dt offS;refine Ym (λ_=>Ea (Ei λ_=>Qa _) (Qa _)) λ_=>Ym (λ_=>Ea (Ei λ_=>Ea (QE _ _ _) (Qa _)) (Qa _)) λ_=>Ea (QE _ _ _) (Qa _)
 have g:Ev (λn=>F_ej n c.Categories) (c.Categories.all catS):=by
  unfold F_ej F_fo F_gj;refine Y6 c.Categories _ (λn x=>F_cm n x) (by have:=w.cat;omega) λx a=>?_;unfold F_cm;exact Ea (Ea (QaI _ _ _ _) (Ei λ_=>Qa _)) (Qa _)
 have h:Ev (λn=>F_eg n c.Prizes c) (c.Prizes.all (prizeS c)):=by
  unfold F_eg F_hq F_hl;refine Y6 c.Prizes _ (λn x=>F_ed n x c) (by have:=w.prize;omega) λx a=>?_;unfold F_ed;rw[Qcn w.dist,Qcn w.cat];exact Ea (Ea (QE _ _ _) (Ei λ_=>Ea (QE _ _ _) (Ei λ_=>Ea (QE _ _ _) (Ei λ_=>Ea (QE _ _ _) (Qa _))))) (Qa _)
 refine Ea d (Ei λ_=>Ea j (Ei λ_=>Ea (Qgy _ w.legs) (Ei λ_=>Ea b (Ei λ_=>Ea i (Ei λ_=>Ea f (Ei λ_=>Ea g (Ei λ_=>Ea h (Ei λ_=>Ea (QeP _ w.prize) (Ei λ_=>?_)))))))));exact Ea (QaI _ _ _ _) (Ei λ_=>Ea (QaI _ _ _ _) (Ei λ_=>Ea (QE _ _ _) (Ei λ_=>Ea (QE _ _ _) (Ei λ_=>Ea (QE _ _ _) (Qa _)))))
theorem ends_eq{a b a' d:Int}:(({from_:=a,to_:=b}:typing_ends)={from_:=a',to_:=d})↔a=a'/\b=d:=by simp
theorem Yg{α B:Type}{step:Nat->Int->Option (Ctl Int B)}(l:List α)(ok:α->Bool)(a b:B)(k:l.length<=4611686018427387904)
  (g:∀i x,At l i x->Ev (λn=>step n (i:Int)) (bif ok x then .cont ((i+1:Nat):Int)else .done a))(j:Ev (λn=>step n (l.length:Int)) (.done b)):
  Ev (λn=>Go.Sw.iter (step n) n 0) (bif l.all ok then b else a):=by
 have e:(bif l.all ok then b else a)=bif l.any (λx=> !ok x)then a else b:=by
  rw[<- List.not_all_eq_any_not];cases l.all ok<;>rfl
 rw[e];refine QbN l (λx=> !ok x) (λi=>(i:Int)) a b k rfl (λi x f d=>?_) (λi x f d=>?_) j
 .have h:ok x=true:=by simpa using d
  have:=g i x f
  rwa [h]at this
 .have h:ok x=false:=by simpa using d
  have:=g i x f
  rwa [h]at this
mutual
def cN:Cond->Nat
 |⟨_,_,_,ps⟩=>1+cNs ps
def cNs:List Cond->Nat
 |[]=>0
 |c::r=>cN c+cNs r
end
theorem Qf1(c:Cond):cN c=1+cNs c.Parts:=by cases c;rfl
mutual
def cD:Nat->Cond->Bool
 |d,⟨_,_,_,ps⟩=>cDs d ps
def cDs:Nat->List Cond->Bool
 |_,[]=>true
 |d,c::r=>decide (d<=16)&&(cD (d+1) c&&cDs d r)
end
theorem cD_eq(d:Nat)(c:Cond):cD d c=cDs d c.Parts:=by cases c;rfl
def zeroC(c:Cond):Bool:=(c.Kind==0)&&((c.Var==0)&&((c.N==0)&&((c.Parts.length:Int)==0)))
mutual
def sNp:Step->Nat
 |⟨_,_,_,t,e⟩=>1+sNs t+sNs e
def sNs:List Step->Nat
 |[]=>0
 |s::r=>sNp s+sNs r
end
theorem Qi4(s:Step):sNp s=1+sNs s.Then+sNs s.Else:=by cases s;rfl
mutual
def sC:Step->Nat
 |⟨_,_,c,t,e⟩=>(bif zeroC c then 0 else cN c)+sCs t+sCs e
def sCs:List Step->Nat
 |[]=>0
 |s::r=>sC s+sCs r
end
theorem Qi5(s:Step):sC s=(bif zeroC s.Cond then 0 else cN s.Cond)+sCs s.Then+sCs s.Else:=by cases s;rfl
mutual
def sDp:Nat->Step->Bool
 |d,⟨_,_,c,t,e⟩=>(zeroC c||cD 1 c)&&(sDs d t&&sDs d e)
def sDs:Nat->List Step->Bool
 |_,[]=>true
 |d,s::r=>decide (d<=16)&&(sDp (d+1) s&&sDs d r)
end
theorem Qog(d:Nat)(s:Step):sDp d s=((zeroC s.Cond||cD 1 s.Cond)&&(sDs d s.Then&&sDs d s.Else)):=by cases s;rfl
mutual
def sZ:Step->Nat
 |⟨_,_,c,t,e⟩=>2+cN c+sZs t+sZs e
def sZs:List Step->Nat
 |[]=>0
 |s::r=>sZ s+sZs r
end
theorem Qi3(s:Step):sZ s=2+cN s.Cond+sZs s.Then+sZs s.Else:=by cases s;rfl
def fS:typing_form->Nat
 |.ctyping_step x=>sNp x.Step
 |.ctyping_cond _=>0
def fC:typing_form->Nat
 |.ctyping_step x=>sC x.Step
 |.ctyping_cond x=>cN x.Cond
def fD(d:Nat):typing_form->Bool
 |.ctyping_step x=>sDp d x.Step
 |.ctyping_cond x=>cD d x.Cond
def fZ:typing_form->Nat
 |.ctyping_step x=>sZ x.Step
 |.ctyping_cond x=>cN x.Cond
def fSs(l:List typing_form):Nat:=(l.map fS).sum
def fCs(l:List typing_form):Nat:=(l.map fC).sum
def fZs(l:List typing_form):Nat:=(l.map fZ).sum
def fwf:typing_form->Prop
 |.ctyping_step x=>Step.wf x.Step
 |.ctyping_cond x=>Cond.wf x.Cond
def ofStep(s:Step):typing_form:=.ctyping_step {Step:=s}
def ofCond(c:Cond):typing_form:=.ctyping_cond {Cond:=c}
theorem Qa6:∀l:List Step,fSs (l.map ofStep)=sNs l
 |[]=>rfl
 |s::r=>by
  have:=Qa6 r;simp only[fSs,Vr,List.sum_cons]at this⊢;rw[this];rfl
theorem Qa7:∀l:List Step,fCs (l.map ofStep)=sCs l
 |[]=>rfl
 |s::r=>by
  have:=Qa7 r;simp only[fCs,Vr,List.sum_cons]at this⊢;rw[this];rfl
theorem QbH:∀l:List Step,fZs (l.map ofStep)=sZs l
 |[]=>rfl
 |s::r=>by
  have:=QbH r;simp only[fZs,Vr,List.sum_cons]at this⊢;rw[this];rfl
theorem QeJ:∀l:List Cond,fSs (l.map ofCond)=0
 |[]=>rfl
 |s::r=>by
  have:=QeJ r;simp only[fSs,Vr,List.sum_cons]at this⊢;rw[this];rfl
theorem QeL:∀l:List Cond,fCs (l.map ofCond)=cNs l
 |[]=>rfl
 |s::r=>by
  have:=QeL r;simp only[fCs,Vr,List.sum_cons]at this⊢;rw[this];rfl
theorem QeH:∀l:List Cond,fZs (l.map ofCond)=cNs l
 |[]=>rfl
 |s::r=>by
  have:=QeH r;simp only[fZs,Vr,List.sum_cons]at this⊢;rw[this];rfl
theorem QcD(d:Nat):∀l:List Step,sDs d l=((l.map ofStep).isEmpty||(decide (d<=16)&&(l.map ofStep).all (fD (d+1))))
 |[]=>rfl
 |s::r=>by
  rw[sDs,QcD d r];simp only[Vr,List.isEmpty_cons,Bool.false_or,List.all_cons];rw[show fD (d+1) (ofStep s)=sDp (d+1) s from rfl];cases r with
  |nil=>simp
  |cons x r=>
   simp only[Vr,List.isEmpty_cons,Bool.false_or,List.all_cons];cases decide (d<=16)<;>simp
theorem Qhv(d:Nat):∀l:List Cond,cDs d l=((l.map ofCond).isEmpty||(decide (d<=16)&&(l.map ofCond).all (fD (d+1))))
 |[]=>rfl
 |s::r=>by
  rw[cDs,Qhv d r];simp only[Vr,List.isEmpty_cons,Bool.false_or,List.all_cons];rw[show fD (d+1) (ofCond s)=cD (d+1) s from rfl];cases r with
  |nil=>simp
  |cons x r=>
   simp only[Vr,List.isEmpty_cons,Bool.false_or,List.all_cons];cases decide (d<=16)<;>simp
theorem Qaj{c:Cond}(h:Cond.wf c):c.Parts.length<=1048576/\ ∀x∈c.Parts,Cond.wf x:=by
 cases c;simp only[Cond.wf,QcY]at h;exact h.2.2.2.1
theorem Qai{s:Step}(h:Step.wf s):Cond.wf s.Cond/\(s.Then.length<=1048576/\ ∀x∈s.Then,Step.wf x)/\(s.Else.length<=1048576/\ ∀x∈s.Else,Step.wf x):=by
 cases s;simp only[Step.wf,QcK]at h;exact⟨h.2.2.1,h.2.2.2.1,h.2.2.2.2.1⟩
theorem QfQ(n:Nat)(c:Cond):F_s n {Cond:=c}=some (zeroC c):=by
 unfold F_s zeroC;cases(c.Kind==0)<;>cases(c.Var==0)<;>cases(c.N==0)<;>rfl
theorem QeM(l:List Step)(a:l.length<=140737488):Ev (λn=>F_q n l) (l.map ofStep):=by
 unfold F_q;exact Ea (QfS l ofStep a) (Qa _)
theorem Qmr(l:List Cond)(a:l.length<=140737488):Ev (λn=>F_df n l) (l.map ofCond):=by
 unfold F_df;exact Ea (QfS l ofCond a) (Qa _)
def stepParts(s:Step):List typing_form:=s.Then.map ofStep++s.Else.map ofStep
theorem Qbj(s:Step)(h:Step.wf s):Ev (λn=>F_o n {Step:=s}) (stepParts s):=by
 obtain⟨_,⟨b,_⟩,⟨a,_⟩⟩:=Qai h;unfold F_o stepParts;refine Ea (QeM s.Then (by omega)) (Ea (QeM s.Else (by omega)) (QaN (QhS _ _ (by simp;omega)) (Qa _)))
theorem QcF(c:Cond)(h:Cond.wf c):Ev (λn=>F_m n {Cond:=c}) (c.Parts.map ofCond):=by
 obtain⟨a,_⟩:=Qaj h;unfold F_m;exact Ea (Qmr c.Parts (by omega)) (Qa _)
def okL(l:List typing_form)(d:Nat)(st co:Int):Bool:=l.isEmpty||(decide (d<=16)&&(l.all (fD (d+1))&&(decide (st+fSs l<=64)&&decide (co+fCs l<=256))))
def okR(l:List typing_form)(d:Nat)(st co:Int):Bool:=l.isEmpty||(l.all (fD (d+1))&&(decide (st+fSs l<=64)&&decide (co+fCs l<=256)))
def okF(f:typing_form)(d:Nat)(st co:Int):Bool:=fD (d+1) f&&(decide (st+fS f<=64)&&decide (co+fC f<=256))
theorem Qhu(f:typing_form)(l:List typing_form):fSs (f::l)=fS f+fSs l:=rfl
theorem Qhw(f:typing_form)(l:List typing_form):fCs (f::l)=fC f+fCs l:=rfl
theorem Qht(f:typing_form)(l:List typing_form):fZs (f::l)=fZ f+fZs l:=rfl
theorem QeI(l m:List typing_form):fSs (l++m)=fSs l+fSs m:=by simp[fSs]
theorem QeK(l m:List typing_form):fCs (l++m)=fCs l+fCs m:=by simp[fCs]
theorem QeG(l m:List typing_form):fZs (l++m)=fZs l+fZs m:=by simp[fZs]
theorem QlL(f:typing_form)(r:List typing_form)(d:Nat)(a h:Int):okR (f::r) d a h=(okF f d a h&&okR r d (a+fS f) (h+fC f)):=by
 unfold okR okF;rw[Qhu,Qhw];cases r with
 |nil=>simp[fSs,fCs]
 |cons g r=>
  rw[X6];simp only[List.isEmpty_cons,Bool.false_or,List.all_cons,X4,decide_eq_true_eq];rw[show((fS f+fSs (g::r):Nat):Int)=(fS f:Int)+(fSs (g::r):Int)by omega,show((fC f+fCs (g::r):Nat):Int)=(fC f:Int)+(fCs (g::r):Int)by omega];constructor
  .rintro⟨⟨e,b⟩,j,i⟩;exact⟨⟨e,by omega,by omega⟩,b,by omega,by omega⟩
  .rintro⟨⟨e,_,_⟩,b,j,i⟩;exact⟨⟨e,b⟩,by omega,by omega⟩
theorem Qgj(l:List typing_form)(d:Nat)(g h:Int)(j:g<=64)(i:h<=256):okL l d g h=true↔(l.isEmpty||(decide (d<=16)&&l.all (fD (d+1))))=true/\g+fSs l<=64/\h+fCs l<=256:=by
 unfold okL;cases l with
 |nil=>simp[fSs,fCs,j,i]
 |cons f r=>
  simp only[List.isEmpty_cons,Bool.false_or,X4,decide_eq_true_eq];constructor
  .rintro⟨a,b,c,e⟩;exact⟨⟨a,b⟩,c,e⟩
  .rintro⟨⟨a,b⟩,c,e⟩;exact⟨a,b,c,e⟩
theorem Qd5(s:Step)(d:Nat):((stepParts s).isEmpty||(decide (d<=16)&&(stepParts s).all (fD (d+1))))=(sDs d s.Then&&sDs d s.Else):=by
 rw[QcD,QcD];unfold stepParts;rw[List.all_append];cases b:s.Then<;>cases a:s.Else<;>simp<;>(cases decide (d<=16)<;>simp)
def Cnt(R:Nat->List typing_form->Int->typing_count->Option (typing_count×Bool))(l:List typing_form)(d:Nat)(st co:Int):Prop:=
 ∃c':typing_count,Ev (λn=>R n l (d:Int) {steps:=st,conds:=co}) (c',okL l d st co)/\(okL l d st co=true->c'={steps:=st+fSs l,conds:=co+fCs l})
theorem QiA{R:Nat->List typing_form->Int->typing_count->Option (typing_count×Bool)}{l:List typing_form}{d:Nat}(hd:d<=16){i:Nat}{f:typing_form}(V:At l i f)(hw:fwf f)
  (ih:∀l' d' a e,fZs l'<fZ f->l'.length<=2097152->(∀f∈l',fwf f)->d'<=17->0<=a->a<=66->(a<=65\/ ∀f∈l',∃c,f=ofCond c)->0<=e->e<=256->Cnt R l' d' a e){a e:Int}(h0:0<=a)(aa:a<=66)(E:a<=65\/ ∃c,f=ofCond c)(h2:0<=e)(h3:e<=256):
  ∃c':typing_count,Ev (λn=>F_gy n l (d:Int) (R n) ({steps:=a,conds:=e},(i:Int))) (bif okF f d a e then .cont (c',((i+1:Nat):Int))else .done (.done (c',false)))/\(okF f d a e=true->c'={steps:=a+fS f,conds:=e+fC f}):=by
 unfold F_gy;simp only[V.lt,cond_true,V.ix,XQ,V.nx];have ed:IntKind.i64.wrap ((d:Int)+1)=((d+1:Nat):Int):=QaB (by omega);cases f with
 |ctyping_step x=>
  obtain⟨s⟩:=x;have h1:a<=65:=by
   rcases E with h|⟨c,h⟩
   .exact h
   .cases h
  have k:Step.wf s:=hw;obtain⟨wc,⟨ab,O⟩,⟨ac,N⟩⟩:=Qai k;have W:IntKind.i64.wrap (a+1)=a+1:=QJ (by omega) (by omega);simp only[typing_form.elim,QfQ,XQ,W];have hc:∃t:typing_count,Ev (λn=>((bif (!zeroC s.Cond)then(R n [typing_form.ctyping_cond {Cond:=s.Cond}] 0 {steps:=a+1,conds:=e}).bind λp=>some (p.1,(!p.2))else some ({steps:=a+1,conds:=e},false)):Option (typing_count×Bool))) (t, !(zeroC s.Cond||(cD 1 s.Cond&&(decide (a+1<=64)&&decide (e+cN s.Cond<=256)))))/\
    ((zeroC s.Cond||(cD 1 s.Cond&&(decide (a+1<=64)&&decide (e+cN s.Cond<=256))))=true->t={steps:=a+1,conds:=e+((bif zeroC s.Cond then 0 else cN s.Cond:Nat):Int)}):=by
   cases H:zeroC s.Cond with
   |true=>
    refine⟨{steps:=a+1,conds:=e},?_,λ_=>?_⟩
    .exact Qa _
    .simp
   |false=>
    obtain⟨t,m,z⟩:=ih [ofCond s.Cond] 0 (a+1) e (by simp only[fZs,Vr,Vs,List.sum_cons,List.sum_nil];show cN s.Cond+0<sZ s;rw[Qi3];omega) (by simp) (by intro g j;simp only[List.mem_singleton]at j;subst j;exact wc) (by omega) (by omega) (by omega) (.inr (by intro g j;simp only[List.mem_singleton]at j;exact⟨_,j⟩)) h2 h3;have ek:okL [ofCond s.Cond] 0 (a+1) e=(cD 1 s.Cond&&(decide (a+1<=64)&&decide (e+cN s.Cond<=256))):=by
     unfold okL;simp only[List.isEmpty_cons,Bool.false_or,List.all_cons,List.all_nil,Bool.and_true,fSs,fCs,Vr,Vs,List.sum_cons,List.sum_nil];rw[show fD (0+1) (ofCond s.Cond)=cD 1 s.Cond from rfl,show fS (ofCond s.Cond)=0 from rfl,show fC (ofCond s.Cond)=cN s.Cond from rfl];simp
    rw[ek]at m z;refine⟨t,Ea m (Qa _),λh=>?_⟩;rw[z h];simp[fSs,fCs,show fS (ofCond s.Cond)=0 from rfl,show fC (ofCond s.Cond)=cN s.Cond from rfl]
  obtain⟨t,m,z⟩:=hc;generalize hb:(zeroC s.Cond||(cD 1 s.Cond&&(decide (a+1<=64)&&decide (e+cN s.Cond<=256))))=b at m z;have T:okF (typing_form.ctyping_step {Step:=s}) d a e=(sDp (d+1) s&&(decide (a+sNp s<=64)&&decide (e+sC s<=256))):=rfl;rw[T];cases b with
  |false=>
   have:(sDp (d+1) s&&(decide (a+sNp s<=64)&&decide (e+sC s<=256)))=false:=by
    rw[Bool.eq_false_iff];intro hh;simp only[X4,decide_eq_true_eq,Qog,Qi4,Qi5]at hh;obtain⟨⟨J,_⟩,z2,z3⟩:=hh;cases H:zeroC s.Cond with
    |true=>rw[H]at hb;cases hb
    |false=>
     rw[H]at hb J z3;simp only[Bool.false_or]at hb J;rw[J]at hb;simp only[cond_false]at z3;rw[Yp (show a+1<=64 by omega),Yp (show e+(cN s.Cond:Int)<=256 by omega)]at hb;cases hb
   rw[this];exact⟨t,Ea m (Qa _),λh=>by cases h⟩
  |true=>
   obtain rfl:=z rfl;by_cases r:64<a+1
   .have:(sDp (d+1) s&&(decide (a+sNp s<=64)&&decide (e+sC s<=256)))=false:=by
     rw[Q3 (show¬a+(sNp s:Int)<=64 by rw[Qi4];omega)];simp
    rw[this];refine⟨{steps:=a+1,conds:=e+((bif zeroC s.Cond then 0 else cN s.Cond:Nat):Int)},Ea m ?_,λh=>by cases h⟩;simp only[Xh,cond_false];refine Ea (v:=(_,true)) ?_ (Qa _);rw[Yp r];exact Qa _
   by_cases u:256<e+((bif zeroC s.Cond then 0 else cN s.Cond:Nat):Int)
   .have:(sDp (d+1) s&&(decide (a+sNp s<=64)&&decide (e+sC s<=256)))=false:=by
     rw[Q3 (show¬e+(sC s:Int)<=256 by rw[Qi5];omega)];simp
    rw[this];refine⟨{steps:=a+1,conds:=e+((bif zeroC s.Cond then 0 else cN s.Cond:Nat):Int)},Ea m ?_,λh=>by cases h⟩;simp only[Xh,cond_false];refine Ea (v:=(_,true)) ?_ (Qa _);rw[Q3 r,Yp u];exact Qa _
   obtain⟨B,F,G⟩:=ih (stepParts s) (d+1) (a+1) (e+((bif zeroC s.Cond then 0 else cN s.Cond:Nat):Int)) (by
     unfold stepParts;rw[QeG,QbH,QbH];show _<sZ s;rw[Qi3];omega) (by unfold stepParts;simp;omega) (by
     intro g j;unfold stepParts at j;rcases List.mem_append.1 j with j|j
     .obtain⟨y,w,rfl⟩:=Xf.1 j;exact O y w
     .obtain⟨y,w,rfl⟩:=Xf.1 j;exact N y w) (by omega) (by omega) (by omega) (.inl (by omega)) (by omega) (by omega)
   have X:okL (stepParts s) (d+1) (a+1) (e+((bif zeroC s.Cond then 0 else cN s.Cond:Nat):Int))=(sDp (d+1) s&&(decide (a+sNp s<=64)&&decide (e+sC s<=256))):=by
    rw[X6,Qgj _ _ _ _ (by omega) (by omega),Qd5];simp only[X4,decide_eq_true_eq,Qog,Qi4,Qi5];have Y:fSs (stepParts s)=sNs s.Then+sNs s.Else:=by unfold stepParts;rw[QeI,Qa6,Qa6]
    have e3:fCs (stepParts s)=sCs s.Then+sCs s.Else:=by unfold stepParts;rw[QeK,Qa7,Qa7]
    rw[Y,e3];have P:(zeroC s.Cond||cD 1 s.Cond)=true:=by
     cases H:zeroC s.Cond with
     |true=>rfl
     |false=>
      rw[H]at hb;simp only[Bool.false_or,X4]at hb;rw[hb.1];rfl
    constructor
    .rintro⟨q,M,L⟩;exact⟨⟨P,q⟩,by omega,by omega⟩
    .rintro⟨⟨_,q⟩,M,L⟩;exact⟨q,by omega,by omega⟩
   rw[X]at F G;refine⟨B,Ea m ?_,λh=>?_⟩
   .simp only[Xh,cond_false];refine Ea (v:=(B, !(sDp (d+1) s&&(decide (a+sNp s<=64)&&decide (e+sC s<=256))))) ?_ ?_
    .rw[Q3 r,Q3 u,ed];exact Ea (Qbj s k) (Ea F (Qa _))
    .cases(sDp (d+1) s&&(decide (a+sNp s<=64)&&decide (e+sC s<=256)))<;>exact Qa _
   .rw[G h];have Y:fSs (stepParts s)=sNs s.Then+sNs s.Else:=by unfold stepParts;rw[QeI,Qa6,Qa6]
    have e3:fCs (stepParts s)=sCs s.Then+sCs s.Else:=by unfold stepParts;rw[QeK,Qa7,Qa7]
    rw[Y,e3,show fS (typing_form.ctyping_step {Step:=s})=sNp s from rfl,show fC (typing_form.ctyping_step {Step:=s})=sC s from rfl,Qi4,Qi5];congr 1<;>omega
 |ctyping_cond x=>
  obtain⟨c⟩:=x;have k:Cond.wf c:=hw;obtain⟨ad,Q⟩:=Qaj k;have W:IntKind.i64.wrap (e+1)=e+1:=QJ (by omega) (by omega);simp only[typing_form.elim,W];have T:okF (typing_form.ctyping_cond {Cond:=c}) d a e=(cD (d+1) c&&(decide (a<=64)&&decide (e+cN c<=256))):=by
   show(cD (d+1) c&&(decide (a+((0:Nat):Int)<=64)&&decide (e+cN c<=256)))=_;rw[show a+((0:Nat):Int)=a by omega]
  rw[T];by_cases r:64<a
  .have:(cD (d+1) c&&(decide (a<=64)&&decide (e+cN c<=256)))=false:=by
    rw[Q3 (show¬a<=64 by omega)];simp
   rw[this];refine⟨{steps:=a,conds:=e+1},?_,λh=>by cases h⟩;refine Ea (v:=(_,true)) ?_ (Qa _);rw[Yp r];exact Qa _
  by_cases u:256<e+1
  .have:(cD (d+1) c&&(decide (a<=64)&&decide (e+cN c<=256)))=false:=by
    rw[Q3 (show¬e+(cN c:Int)<=256 by rw[Qf1];omega)];simp
   rw[this];refine⟨{steps:=a,conds:=e+1},?_,λh=>by cases h⟩;refine Ea (v:=(_,true)) ?_ (Qa _);rw[Q3 r,Yp u];exact Qa _
  obtain⟨B,F,G⟩:=ih (c.Parts.map ofCond) (d+1) a (e+1) (by
    rw[QeH];show _<cN c;rw[Qf1];omega) (by simp;omega) (by
    intro g j;obtain⟨y,w,rfl⟩:=Xf.1 j;exact Q y w) (by omega) (by omega) (by omega) (.inl (by omega)) (by omega) (by omega)
  have X:okL (c.Parts.map ofCond) (d+1) a (e+1)=(cD (d+1) c&&(decide (a<=64)&&decide (e+cN c<=256))):=by
   rw[X6,Qgj _ _ _ _ (by omega) (by omega), <- Qhv,QeJ,QeL];simp only[X4,decide_eq_true_eq,cD_eq,Qf1];constructor
   .rintro⟨q,M,L⟩;exact⟨q,by omega,by omega⟩
   .rintro⟨q,M,L⟩;exact⟨q,by omega,by omega⟩
  rw[X]at F G;refine⟨B,?_,λh=>?_⟩
  .refine Ea (v:=(B, !(cD (d+1) c&&(decide (a<=64)&&decide (e+cN c<=256))))) ?_ ?_
   .rw[Q3 r,Q3 u,ed];exact Ea (QcF c k) (Ea F (Qa _))
   .cases(cD (d+1) c&&(decide (a<=64)&&decide (e+cN c<=256)))<;>exact Qa _
  .rw[G h,QeJ,QeL,show fS (typing_form.ctyping_cond {Cond:=c})=0 from rfl,show fC (typing_form.ctyping_cond {Cond:=c})=cN c from rfl,Qf1];congr 1;omega
theorem Qmq:∀(m:Nat) (l:List typing_form) (d:Nat) (a b:Int),fZs l<=m->l.length<=2097152->(∀f∈l,fwf f)->d<=17->0<=a->a<=66->(a<=65\/ ∀f∈l,∃c,f=ofCond c)->0<=b->b<=256->Cnt F_d l d a b:=by
 intro m
 induction m using Nat.strongRecOn with
 |_ m F=>
 intro l d a b hm hl T hd h0 h1 t Q N;unfold Cnt;have w:∀c:typing_count,(∃e:typing_count,Ev (λn=>B_d (F_d n) n l (d:Int) c) (e,okL l d a b)/\(okL l d a b=true->e={steps:=a+fSs l,conds:=b+fCs l}))->∃e:typing_count,Ev (λn=>F_d n l (d:Int) c) (e,okL l d a b)/\(okL l d a b=true->e={steps:=a+fSs l,conds:=b+fCs l}):=by
  rintro c ⟨e,q1,W⟩;exact⟨e,YX q1,W⟩
 refine w _ ?_;unfold B_d;cases g:l with
 |nil=>
  refine⟨{steps:=a,conds:=b},?_,λ_=>by simp[fSs,fCs]⟩;refine Ea (v:=false) (Qa _) (Q6 ?_);refine Ea (v:=Ctl.cont {steps:=a,conds:=b}) (EvI.ev (Ej ?_)) (Qa _);exact Qa _
 |cons f0 r0=>
 rw[<- g];have u:l.isEmpty=false:=by rw[g];rfl
 have L:0<l.length:=by rw[g];simp
 by_cases j:d<=16
 rotate_left
 .have:okL l d a b=false:=by unfold okL;rw[u,Q3 j];rfl
  rw[this];refine⟨{steps:=a,conds:=b},?_,λh=>by cases h⟩;rw[Yp (show(0:Int)<(l.length:Int)by omega),Yp (show(16:Int)<(d:Int)by omega)];exact Ea (Qa _) (Qa _)
 have s:okL l d a b=okR l d a b:=by unfold okL okR;rw[Yp j,Bool.true_and]
 rw[s];have loop:∀(r:List typing_form) (i:Nat) (a b:Int),l.drop i=r->i<=l.length->0<=a->a<=66->(a<=65\/ ∀f∈l,∃c,f=ofCond c)->0<=b->b<=256->
   ∃e:typing_count,EvI (λn=>F_gy n l (d:Int) (F_d n)) ({steps:=a,conds:=b},(i:Int)) (bif okR r d a b then Ctl.cont e else Ctl.done (e,false))/\(okR r d a b=true->e={steps:=a+fSs r,conds:=b+fCs r}):=by
  intro r
  induction r with
  |nil=>
   intro i a b y M _ _ _ _ _;refine⟨{steps:=a,conds:=b},Ej ?_,λ_=>by simp[fSs,fCs]⟩;unfold F_gy;simp only[YK y M,cond_false];exact Qa _
  |cons f r B=>
   intro i a b y M g0 g1 G P g3;obtain⟨q,H⟩:=QT (by omega) y;have aa:fZ f<=fZs l:=by
    have:∀(l:List typing_form),f∈l->fZ f<=fZs l:=by
     intro l
     induction l with
     |nil=>intro h;cases h
     |cons x l F=>
      intro h;rw[Qht];rcases Ve.1 h with rfl|h
      .omega
      .have:=F h;omega
    exact this l q.mem
   obtain⟨e,p,E⟩:=QiA (R:=F_d) j q (T f q.mem) (λJ d' a b k1 Y k3 k4 V k6 z O k8=>F (fZs J) (by omega) J d' a b (X0 _) Y k3 k4 V k6 z O k8) g0 g1 (G.imp id λh=>h f q.mem) P g3;rw[QlL];cases k:okF f d a b with
   |false=>
    rw[k]at p;exact⟨e,Ej p,λh=>by cases h⟩
   |true=>
    rw[k]at p;obtain rfl:=E k;have hb:a+fS f<=64/\b+fC f<=256:=by
     unfold okF at k;simp only[X4,decide_eq_true_eq]at k;exact k.2
    obtain⟨c2,X,u2⟩:=B (i+1) (a+fS f) (b+fC f) H (by have:=q.lt';omega) (by omega) (by omega) (.inl (by omega)) (by omega) (by omega);refine⟨c2,Eu p X,λh=>?_⟩;rw[u2 (by simpa using h),Qhu,Qhw];congr 1<;>omega
 obtain⟨e,p,E⟩:=loop l 0 a b rfl (X2 _) h0 h1 t Q N;refine⟨e,?_,E⟩;refine Ea (v:=false) ?_ (Q6 (Ea p.ev ?_))
 .rw[Yp (show(0:Int)<(l.length:Int)by omega),Q3 (show¬(16:Int)<(d:Int)by omega)];exact Qa _
 .cases okR l d a b<;>exact Qa _
mutual
def vaC:Cond->Bool
 |⟨k,v,n,ps⟩=>bif k==1 then inR 1 3 v&&(inR 0 10000 n&&((ps.length:Int)==0))else
   bif k==4 then((v==0)&&(n==0))&&(((ps.length:Int)==1)&&vaCs ps)else
   bif (k==2)||(k==3)then((v==0)&&(n==0))&&((decide (0<(ps.length:Int))&&decide ((ps.length:Int)<=16))&&vaCs ps)else false
def vaCs:List Cond->Bool
 |[]=>true
 |c::r=>vaC c&&vaCs r
end
theorem QoA(c:Cond):vaC c=bif c.Kind==1 then inR 1 3 c.Var&&(inR 0 10000 c.N&&((c.Parts.length:Int)==0))else
   bif c.Kind==4 then((c.Var==0)&&(c.N==0))&&(((c.Parts.length:Int)==1)&&vaCs c.Parts)else
   bif (c.Kind==2)||(c.Kind==3)then((c.Var==0)&&(c.N==0))&&((decide (0<(c.Parts.length:Int))&&decide ((c.Parts.length:Int)<=16))&&vaCs c.Parts)else false:=by cases c;rfl
theorem QiW:∀l:List Cond,vaCs l=l.all vaC
 |[]=>rfl
 |c::r=>by rw[vaCs,List.all_cons,QiW r]
mutual
def vaS:Step->Bool
 |⟨k,b,c,t,e⟩=>bif k==1 then inR 1 5 b&&(zeroC c&&(((t.length:Int)==0)&&((e.length:Int)==0)))else
   bif k==2 then(b==0)&&(vaC c&&(decide (0<(t.length:Int))&&(vaSs t&&vaSs e)))else false
def vaSs:List Step->Bool
 |[]=>true
 |s::r=>vaS s&&vaSs r
end
theorem Qoz(s:Step):vaS s=bif s.Kind==1 then inR 1 5 s.By&&(zeroC s.Cond&&(((s.Then.length:Int)==0)&&((s.Else.length:Int)==0)))else
   bif s.Kind==2 then(s.By==0)&&(vaC s.Cond&&(decide (0<(s.Then.length:Int))&&(vaSs s.Then&&vaSs s.Else)))else false:=by cases s;rfl
theorem QiV:∀l:List Step,vaSs l=l.all vaS
 |[]=>rfl
 |c::r=>by rw[vaSs,List.all_cons,QiV r]
def fV:typing_form->Bool
 |.ctyping_step x=>vaS x.Step
 |.ctyping_cond x=>vaC x.Cond
theorem QiE(l:List Cond):(l.map ofCond).any (λf=> !fV f)= !vaCs l:=by
 rw[QiW,List.not_all_eq_any_not,List.any_map];rfl
theorem Qch(l:List Step):(l.map ofStep).any (λf=> !fV f)= !vaSs l:=by
 rw[QiV,List.not_all_eq_any_not,List.any_map];rfl
theorem QfL{R:Nat->List typing_form->Option Bool}(c:Cond)(j:Cond.wf c)(h:Ev (λn=>R n (c.Parts.map ofCond)) (!vaCs c.Parts)):
  Ev (λn=>F_dy (R n) n {Cond:=c}) (vaC c):=by
 unfold F_dy;rw[QoA];refine Ea (v:=(c.Var==0)&&(c.N==0)) (Ei λ_=>Qa _) ?_;refine Ym (λ_=>?_) (λl=>?_)
 .exact Ea (Ea (QE _ _ _) (Ei λ_=>Ea (QE _ _ _) (Ei λ_=>Qa _))) (Qa _)
 .have fin:∀b:Bool,Ev (λn=>((bif b then(F_m n {Cond:=c}).bind λf=>(R n f).bind λg=>some (!g)else some false):Option Bool).bind λd=>some d) (b&&vaCs c.Parts):=by
   intro b;refine Ea ((Ei λ_=>Ea (QcF c j) (Ea h (Qa _)))) ((Qa _).eq (by simp))
  cases k:(c.Kind==4)with
  |true=>
   simp only[cond_true];cases i:((c.Var==0)&&(c.N==0))with
   |true=>
    refine Ea (v:=Ctl.cont ((c.Parts.length:Int)==1)) (Qa _) ((fin _).eq (by simp))
   |false=>
    refine Ea (v:=Ctl.cont false) (Qa _) ((fin _).eq (by simp))
  |false=>
   simp only[cond_false];cases a:((c.Kind==2)||(c.Kind==3))with
   |true=>
    simp only[cond_true];have e:Ev (λn:Nat=>((bif (c.Kind==2)then some (c.Kind==2)else some (c.Kind==3)):Option Bool)) true:=by
     refine Ez ?_;rw[QmI,a]
    cases i:((c.Var==0)&&(c.N==0))with
    |true=>
     cases m:decide (0<(c.Parts.length:Int))with
     |true=>
      refine Ea (v:=Ctl.cont (decide ((c.Parts.length:Int)<=16))) (Ea e (Qa _)) ((fin _).eq (by simp))
     |false=>
      refine Ea (v:=Ctl.cont false) (Ea e (Qa _)) ((fin _).eq (by simp))
    |false=>
     refine Ea (v:=Ctl.cont false) (Ea e (Qa _)) ((fin _).eq (by simp))
   |false=>
    have e:Ev (λn:Nat=>((bif (c.Kind==2)then some (c.Kind==2)else some (c.Kind==3)):Option Bool)) false:=by
     refine Ez ?_;rw[QmI,a]
    refine Ea (v:=Ctl.done false) (Ea e (Qa _)) (Qa _)
theorem Qir:∀(m:Nat) (l:List typing_form),fZs l<=m->l.length<=2097152->(∀f∈l,fwf f)->Ev (λn=>F_i n l) (l.any λf=> !fV f):=by
 intro m
 induction m using Nat.strongRecOn with
 |_ m j=>
 intro l H J r;refine YX ?_;show Ev (λn=>B_i (F_i n) n l) _;unfold B_i F_fm;refine Ev.contains l _ (λn f=>F_eo (F_i n) n f) (by omega) λf q=>?_;have B:fZ f<=fZs l:=by
  have:∀(l:List typing_form),f∈l->fZ f<=fZs l:=by
   intro l
   induction l with
   |nil=>intro h;cases h
   |cons x l j=>
    intro h;rw[Qht];rcases Ve.1 h with rfl|h
    .omega
    .have:=j h;omega
  exact this l q
 unfold F_eo;refine Ea (v:=fV f) ?_ (Qa _);have a:∀c:Cond,Cond.wf c->cNs c.Parts<fZ f->Ev (λn=>F_i n (c.Parts.map ofCond)) (!vaCs c.Parts):=by
  intro c e i;rw[<- QiE];obtain⟨F,u⟩:=Qaj e;refine j (fZs (c.Parts.map ofCond)) (by rw[QeH];omega) _ (X0 _) (by simp;omega) ?_;intro g b;obtain⟨y,d,rfl⟩:=Xf.1 b;exact u y d
 cases f with
 |ctyping_cond x=>
  obtain⟨c⟩:=x;have e:Cond.wf c:=r _ q;exact QfL (R:=F_i) c e (a c e (by show cNs c.Parts<cN c;rw[Qf1];omega))
 |ctyping_step x=>
  obtain⟨s⟩:=x;have i:Step.wf s:=r _ q;obtain⟨t,⟨w,p⟩,⟨z,k⟩⟩:=Qai i;unfold F_gr;show Ev _ (vaS s);rw[Qoz];simp only[typing_form.elim];refine Ym (λ_=>?_) (λG=>Ym (λ_=>?_) λ_=>Qa _)
  .refine Ea (Ea (QE _ _ _) (Ei λ_=>?_)) (Qa _);simp only[QfQ,XQ];refine Ei λ_=>Ea (Qbj s i) ((Qa _).eq ?_);unfold stepParts;rw[X6];simp only[beq_iff_eq,X4,Va,X9];omega
  .refine Ea (Ei λ_=>?_) (Qa _);refine Ea (QfL (R:=F_i) s.Cond t (a s.Cond t (by show _<sZ s;rw[Qi3,Qf1];omega))) (Ei λ_=>Ei λ_=>?_);refine Ea (Qbj s i) (Ea (j (fZs (stepParts s)) ?_ _ (X0 _) (by unfold stepParts;simp;omega) ?_) ((Qa _).eq ?_))
   .have:fZs (stepParts s)<sZ s:=by
     unfold stepParts;rw[QeG,QbH,QbH,Qi3];omega
    have E:fZ (typing_form.ctyping_step {Step:=s})=sZ s:=rfl;omega
   .intro g b;unfold stepParts at b;rcases List.mem_append.1 b with b|b
    .obtain⟨y,d,rfl⟩:=Xf.1 b;exact p y d
    .obtain⟨y,d,rfl⟩:=Xf.1 b;exact k y d
   .unfold stepParts;rw[List.any_append,Qch,Qch];simp
def goodT(l:List Step):Bool:=sDs 0 l&&(decide (sNs l<=64)&&decide (sCs l<=256))
def tiesE(l:List Step):Int:=bif goodT l then(bif l.isEmpty|| !vaSs l then 71 else 0)else 2
theorem QlM(l:List Step):okL (l.map ofStep) 0 0 0=goodT l:=by
 rw[X6,Qgj _ _ _ _ (by omega) (by omega), <- QcD,Qa6,Qa7];unfold goodT;simp only[X4,decide_eq_true_eq];constructor
 .rintro⟨a,b,c⟩;exact⟨a,by omega,by omega⟩
 .rintro⟨a,b,c⟩;exact⟨a,by omega,by omega⟩
theorem QnR(l:List Step)(m:l.length<=1048576)(j:∀x∈l,Step.wf x):Ev (λn=>F_cv n l) (tiesE l):=by
 unfold F_cv;refine Ea (QeM l (by omega)) (Ea (v:=tiesE l) ?_ (Qa _));have b:∀f∈l.map ofStep,fwf f:=by
  intro g d;obtain⟨y,h,rfl⟩:=Xf.1 d;exact j y h
 obtain⟨k,a,p⟩:=Qmq _ (l.map ofStep) 0 0 0 (X0 _) (by simp;omega) b (by omega) (by omega) (by omega) (.inl (by omega)) (by omega) (by omega);rw[QlM]at a;unfold F_gk;have i:Ev (λn=>F_fv n (l.map ofStep) 0 {steps:=0,conds:=0}) (k,goodT l):=a.shift;refine Ea i ?_;unfold tiesE;cases goodT l with
 |false=>exact Qa _
 |true=>
  simp only[Xh,cond_false,cond_true];have e:(((l.map ofStep).length:Int)==0)=l.isEmpty:=by
   cases l<;>simp;omega
  rw[e];refine Ea (Qi λ_=>Ea (Qir _ _ (X0 _) (by simp;omega) b) (Qa _)) ?_;rw[Qch];cases(l.isEmpty|| !vaSs l)<;>exact Qa _
mutual
def hP:Part->Nat
 |⟨_,_,ps⟩=>bif ps.isEmpty then 0 else 1+hPs ps
def hPs:List Part->Nat
 |[]=>0
 |p::r=>max (hP p) (hPs r)
end
theorem Qor(p:Part):hP p=bif p.Parts.isEmpty then 0 else 1+hPs p.Parts:=by cases p;rfl
theorem Qjf{p:Part}:∀{l:List Part},p∈l->hP p<=hPs l
 |q::r,h=>by
  simp only[hPs];rcases Ve.1 h with rfl|h
  .omega
  .have:=Qjf h;omega
theorem QaG{α:Type}(l:List α):((l.length:Int)==0)=l.isEmpty:=by
 cases l<;>simp;omega
theorem Qak:∀l:List Part,l.length<=szPs l
 |[]=>X0 _
 |p::r=>by have:=Qak r;rw[szPs,Qac,X8];omega
theorem Qmp:∀(m:Nat) (l:List Part) (k:Nat),szPs l<=m->hPs l<=k->k<=17->szPs l<=256->(∀x∈l,Part.wf x)->Ev (λn=>F_b n l (k:Int)) ((hPs l:Int),(szPs l:Int)):=by
 intro m
 induction m using Nat.strongRecOn with
 |_ m N=>
 intro l k R P w f z;have u:=Qak l;refine YX ?_;show Ev (λn=>B_b (F_b n) n l (k:Int)) _;unfold B_b;have loop:∀(r:List Part) (i:Nat) (a b:Nat),l.drop i=r->i<=l.length->a<=17->b+(szPs r-r.length)<=256->EvI (λn=>F_aa n l (k:Int) (F_b n)) ((a:Int),(b:Int),(i:Int)) (((max a (hPs r):Nat):Int),((b+(szPs r-r.length):Nat):Int)):=by
  intro r
  induction r with
  |nil=>
   intro i a b g t _ _;refine Ej ?_;unfold F_aa;simp only[YK g t,cond_false,XQ];refine(Qa _).eq ?_;simp[hPs,szPs]
  |cons p r h=>
   intro i a b g t J j;obtain⟨d,q⟩:=QT (by omega) g;obtain⟨Q,E⟩:=Y2 (z p d.mem);have G:=QaY d.mem;have e:=Qjf d.mem;rw[Qac]at G;have H:=Qak r;rw[szPs,Qac,X8]at j;have step:Ev (λn=>F_aa n l (k:Int) (F_b n) ((a:Int),(b:Int),(i:Int))) (.cont (((max a (hP p):Nat):Int),((b+szPs p.Parts:Nat):Int),((i+1:Nat):Int))):=by
    unfold F_aa;simp only[d.lt,cond_true,d.ix,XQ,d.nx,QaG];rw[Qor]at e⊢;cases s:p.Parts.isEmpty with
    |true=>
     have y:p.Parts=[]:=by simpa using s
     simp only[cond_true,XQ];rw[y];simp only[szPs,XC,Nat.max_zero];exact Qa _
    |false=>
     rw[s]at e;simp only[cond_false]at e⊢;have F:0<k:=by omega
     have L:IntKind.i64.wrap ((k:Int)-1)=((k-1:Nat):Int):=by rw[QJ (by omega) (by omega)];omega
     have M:((k:Int)==0)=false:=beq_false_of_ne (by omega);rw[M,Q3 (show¬(256:Int)<(b:Int)by omega),L];simp only[cond_false,XQ];refine Ea (Ea (N (szPs p.Parts) (by omega) p.Parts (k-1) (X0 _) (by omega) (by omega) (by omega) E) (Qa _)) ((Qa _).eq ?_);have O:IntKind.i64.wrap ((hPs p.Parts:Int)+1)=((hPs p.Parts+1:Nat):Int):=QaB (by omega);have B:IntKind.i64.wrap ((b:Int)+(szPs p.Parts:Int))=((b+szPs p.Parts:Nat):Int):=by rw[QJ (by omega) (by omega)];omega
     simp only[O,B];congr 2;split<;>omega
   refine(Eu step (h (i+1) _ _ q (by have:=d.lt';omega) (by omega) (by omega))).eq ?_;rw[hPs,szPs,Qac,X8];congr 1<;>omega
 refine Ea ((loop l 0 0 l.length rfl (X2 _) (by omega) (by omega)).ev) ((Qa _).eq ?_);congr 1<;>omega
def repS:Nat->List Int->List Int->List Int
 |0,out,_=>out
 |k+1,out,lap=>if 256<out.length then out else repS k (out++lap) lap
mutual
def lapS:Part->List Int
 |⟨m,laps,ps⟩=>bif decide (0<laps)then expS [] ps else[m]
def expS:List Int->List Part->List Int
 |out,[]=>out
 |out,p::r=>expS (repS (p.Laps.toNat+(bif decide (0<p.Laps)then 0 else 1)) out (lapS p)) r
end
theorem QdQ(p:Part):lapS p=bif decide (0<p.Laps)then expS [] p.Parts else[p.Mat]:=by cases p;rfl
theorem Qej{k:Nat}{a b:List Int}(h:256<a.length):repS k a b=a:=by
 cases k with
 |zero=>rfl
 |succ k=>rw[repS,if_pos h]
theorem Qhy:∀(l:List Part) {out:List Int},256<out.length->expS out l=out
 |[],out,h=>by rw[expS]
 |p::r,out,h=>by rw[expS,Qej h];exact Qhy r h
theorem Qei:∀(k:Nat) (out lap:List Int),(repS k out lap).length<=max out.length (256+lap.length)
 |0,out,lap=>by rw[repS];omega
 |k+1,out,lap=>by
  rw[repS];split
  .omega
  .have:=Qei k (out++lap) lap;rw[Va]at this;omega
theorem Qhx:∀(m:Nat) (l:List Part) (a:List Int),szPs l<=m->(expS a l).length<=max a.length (256+257*szPs l):=by
 intro m
 induction m using Nat.strongRecOn with
 |_ m i=>
 intro l;have b:∀p∈l,szPs l<=m->(lapS p).length<=257*szP p:=by
  intro p e g;have k:=QaY e;rw[QdQ,Qac]at*;cases decide (0<p.Laps)with
  |true=>
   have:=i (szPs p.Parts) (by omega) p.Parts [] (X0 _);simp only[cond_true,List.length_nil]at this⊢;omega
  |false=>simp;omega
 have d:∀(r:List Part) (a:List Int),(∀p∈r,(lapS p).length<=257*szP p)->(expS a r).length<=max a.length (256+257*szPs r):=by
  intro r
  induction r with
  |nil=>intro a _;rw[expS];omega
  |cons p r f=>
   intro a h;rw[expS,szPs];have n:=f (repS (p.Laps.toNat+(bif decide (0<p.Laps)then 0 else 1)) a (lapS p)) λq j=>h q (by simp[j]);have t:=Qei (p.Laps.toNat+(bif decide (0<p.Laps)then 0 else 1)) a (lapS p);have s:=h p (by simp);omega
 intro a g;exact d l a λp e=>b p e g
theorem QlS(p:Part):(lapS p).length<=257*szP p:=by
 rw[QdQ,Qac];cases decide (0<p.Laps)with
 |true=>
  have:=Qhx _ p.Parts [] (X0 _);simp only[cond_true,List.length_nil]at this⊢;omega
 |false=>simp;omega
theorem Qkg(kk:Int):∀(m:Nat) (l:List Part),szPs l<=m->szPs l<=256->l.length<=1048576->(∀x∈l,Part.wf x)->partsS kk l=true->Ev (λn=>F_l n l) (expS [] l):=by
 intro m
 induction m using Nat.strongRecOn with
 |_ m ih=>
 intro l hm G hl V O;rw[Qc6,Xw]at O;refine YX ?_;show Ev (λn=>B_l (F_l n) n l) _;unfold B_l;have inner:∀(p:Part) (e:List Int) (g:p.Laps=0\/0<p.Laps/\p.Laps<=64) (E:e.length<=100000) (j:Nat) (k:Nat) (a:List Int),j+k=p.Laps.toNat+(bif decide (0<p.Laps)then 0 else 1)->a.length<=200000->
   ∃d:Ctl (List Int) (Ctl ((List Int)×Int) (Ctl (List Int) (List Int))),EvI (λn=>F_hi n p e) (a,(j:Int)) d/\
    (d=.cont (repS k a e)\/(256<(repS k a e).length/\d=.done (.done (.done (repS k a e))))):=by
  intro p e g E j k
  induction k generalizing j with
  |zero=>
   intro a f _;refine⟨_,Ej (b:=.cont a) ?_,.inl rfl⟩;unfold F_hi;have:¬((j:Int)<if p.Laps<1 then 1 else p.Laps):=by
    rcases g with h|⟨h,R⟩
    .rw[h]at f⊢;simp at f⊢;omega
    .rw[Yp h]at f;simp at f;rw[if_neg (by omega)];omega
   rw[Q3 this];exact Qa _
  |succ k M=>
   intro a f F;have w:((j:Int)<if p.Laps<1 then 1 else p.Laps):=by
    rcases g with h|⟨h,R⟩
    .rw[h]at f⊢;simp at f⊢;omega
    .rw[Yp h]at f;simp at f;rw[if_neg (by omega)];omega
   have Q:j<=64:=by
    rcases g with h|⟨h,R⟩
    .rw[h]at f;simp at f;omega
    .rw[Yp h]at f;simp at f;omega
   by_cases s:256<a.length
   .refine⟨_,Ej (b:=.done (.done (.done a))) ?_,.inr ⟨by rw[Qej s];exact s,by rw[Qej s]⟩⟩;unfold F_hi;rw[Yp w,Yp (show(256:Int)<(a.length:Int)by omega)];exact Qa _
   .obtain⟨d,u,B⟩:=M (j+1) (a++e) (by omega) (by rw[Va];omega);refine⟨d,Eu ?_ u,by rw[repS,if_neg s];exact B⟩;unfold F_hi;rw[Yp w,Q3 (show¬(256:Int)<(a.length:Int)by omega)];refine QjK (Q6 (QaN (QhS a e (by omega)) ?_));rw[QaB (by omega)];exact Qa _
 have loop:∀(r:List Part) (i:Nat) (a:List Int),l.drop i=r->i<=l.length->a.length<=100000->
   ∃d:Ctl (List Int) (List Int),EvI (λn=>F_hf n l (F_l n)) (a,(i:Int)) d/\(d=.cont (expS a r)\/d=.done (expS a r)):=by
  intro r
  induction r with
  |nil=>
   intro i a H P _;refine⟨.cont a,Ej ?_,.inl (by rw[expS])⟩;unfold F_hf;simp only[YK H P,cond_false];exact Qa _
  |cons p r J=>
   intro i a H P F;obtain⟨q,N⟩:=QT (by omega) H;have w:=q.lt';have hs:=QaY q.mem;obtain⟨w1,X⟩:=Y2 (V p q.mem);have g:=O p q.mem;rw[Qel]at g;have t:p.Laps=0\/0<p.Laps/\p.Laps<=64:=by
    cases T:(p.Laps==0)with
    |true=>exact .inl (by simpa using T)
    |false=>
     rw[T]at g;simp only[cond_false,inR,X4,decide_eq_true_eq]at g;exact .inr ⟨by omega,by omega⟩
   have aa:=QlS p;have s:Ev (λn=>((bif decide (0<p.Laps)then(F_l n p.Parts).bind λL=>some L else some [p.Mat]):Option (List Int))) (lapS p):=by
    rw[QdQ];refine Ym (λh=>?_) (λ_=>Qa _);rw[Qac]at hs;refine Ea (ih (szPs p.Parts) (by omega) p.Parts (X0 _) (by omega) w1 X ?_) (Qa _);have:(p.Laps==0)=false:=by
     simp only[decide_eq_true_eq]at h;exact beq_false_of_ne (by omega)
    rw[this]at g;simp only[cond_false,X4]at g;exact g.2.2.2
   obtain⟨d,u,B⟩:=inner p (lapS p) t (by omega) 0 _ a (XB _) (by omega);rw[expS];rcases B with rfl|⟨z,rfl⟩
   .obtain⟨y,Y,W⟩:=J (i+1) (repS (p.Laps.toNat+(bif decide (0<p.Laps)then 0 else 1)) a (lapS p)) N (by omega) (by
     have:=Qei (p.Laps.toNat+(bif decide (0<p.Laps)then 0 else 1)) a (lapS p);omega)
    refine⟨y,Eu ?_ Y,W⟩;unfold F_hf;simp only[q.lt,cond_true,q.ix,XQ,q.nx];exact Ea s (Ea u.ev (Qa _))
   .refine⟨.done (repS (p.Laps.toNat+(bif decide (0<p.Laps)then 0 else 1)) a (lapS p)),Ej ?_,.inr (by rw[Qhy r z])⟩;unfold F_hf;simp only[q.lt,cond_true,q.ix,XQ,q.nx];exact Ea s (Ea u.ev (Qa _))
 obtain⟨d,u,B⟩:=loop l 0 [] rfl (X2 _) (by simp);rcases B with rfl|rfl
 .exact Ea u.ev (Qa _)
 .exact Ea u.ev (Qa _)
def kindAt(c:Course)(m:Int):Int:=((c.Mats[m.toNat]?).map (·.Kind)).getD 0
def hasLeg(c:Course)(a b:Int):Bool:=c.Legs.any λl=>(l.From==a)&&(l.To==b)
def rokS(c:Course)(len:Nat):Nat->Int->List Int->Bool
 |_,_,[]=>true
 |i,prev,m::r=>((kindAt c m==1)==decide (i=0))&&(((kindAt c m==3)==decide (i+1=len))&&((decide (i=0)||hasLeg c prev m)&&rokS c len (i+1) m r))
def routeR(c:Course)(d:Distance)(r:List Int):Bool:=
 (decide (2<=r.length)&&decide (r.length<=256))&&(rokS c r.length 0 0 r&&((bif decide (0<=d.Extra)then !((r.count d.Extra:Int)==0)&&((kindAt c d.Extra==2)&&hasLeg c d.Extra d.Extra)else true)&&d.Cutoffs.all λx=>decide (x.Lap<=(r.count x.Mat:Int))))
def routeS(c:Course)(d:Distance):Bool:=routeR c d (expS [] d.Route)
def cntM(l:List Int):List (Int×Int):=l.foldl (λm k=>QR m k (Qx m k 0+1)) []
theorem Qkr(l:List Int)(k:Int):cntM (l++[k])=QR (cntM l) k (Qx (cntM l) k 0+1):=by unfold cntM;rw[XJ];rfl
theorem QeW(l:List Int)(k:Int):Qx (cntM l) k 0=(l.count k:Int):=by
 have a:∀(l:List Int) (m:List (Int×Int)),Qx (l.foldl (λm k=>QR m k (Qx m k 0+1)) m) k 0=Qx m k 0+(l.count k:Int):=by
  intro l
  induction l with
  |nil=>intro m;simp
  |cons x l b=>
   intro m;rw[XK,b,Qcb,List.count_cons];by_cases h:k=x
   .subst h;simp;omega
   .have:(x==k)=false:=beq_false_of_ne λe=>h e.symm;simp[h,this]
 have:=a l [];simpa[cntM,Qj3]using this
theorem Qih(b:Int):∀(m:Nat) (l:List Part) (a:List Int),szPs l<=m->partsS b l=true->(∀x∈a,0<=x/\x<=b)->∀x∈expS a l,0<=x/\x<=b:=by
 intro m
 induction m using Nat.strongRecOn with
 |_ m y=>
 intro l;have t:∀(k:Nat) (a d:List Int),(∀x∈a,0<=x/\x<=b)->(∀x∈d,0<=x/\x<=b)->∀x∈repS k a d,0<=x/\x<=b:=by
  intro k
  induction k with
  |zero=>intro a d f _;rw[repS];exact f
  |succ k u=>
   intro a d f w;rw[repS];split
   .exact f
   .refine u _ _ ?_ w;intro x i;rcases List.mem_append.1 i with h|h
    .exact f x h
    .exact w x h
 have n:∀(r:List Part) (a:List Int),szPs r<=m->partsS b r=true->(∀x∈a,0<=x/\x<=b)->∀x∈expS a r,0<=x/\x<=b:=by
  intro r
  induction r with
  |nil=>intro a _ _ h;rw[expS];exact h
  |cons p r q=>
   intro a j g h;rw[szPs,Qac]at j;rw[partsS,X4]at g;obtain⟨e,B⟩:=g;rw[expS];refine q _ (by omega) B (t _ _ _ h ?_);rw[QdQ];rw[Qel]at e;cases s:(p.Laps==0)with
   |true=>
    have z:p.Laps=0:=by simpa using s
    rw[s,cond_true,X4]at e;have:=e.1;unfold inR at this;simp only[X4,decide_eq_true_eq]at this;rw[z];intro x i;simp at i;subst i;exact this
   |false=>
    rw[s]at e;simp only[cond_false,X4,inR,decide_eq_true_eq]at e;rw[Yp (show 0<p.Laps by omega),cond_true];exact y (szPs p.Parts) (by omega) p.Parts [] (X0 _) e.2.2.2 (by simp)
 exact λa j g h=>n l a j g h
theorem Qjc{c:Course}{m:Int}(h0:0<=m)(b:m<=(c.Mats.length:Int)-1):∃x:Mat,idx c.Mats m=some x/\x.Kind=kindAt c m:=by
 obtain⟨k,rfl⟩:∃k:Nat,m=(k:Int):=⟨m.toNat,by omega⟩;have a:k<c.Mats.length:=by omega
 refine⟨c.Mats[k],Qm (XR a),?_⟩;unfold kindAt;rw[Int.toNat_natCast,XR a];rfl
theorem Qhd(c:Course)(a b:Int):Qx (Yd legKey true c.Legs) {from_:=a,to_:=b} false=hasLeg c a b:=by
 rw[Qdt];unfold hasLeg;by_cases h:({from_:=a,to_:=b}:typing_ends)∈c.Legs.map legKey
 .rw[if_pos h];obtain⟨l,d,e⟩:=Xf.1 h;unfold legKey at e;obtain⟨g,f⟩:=ends_eq.1 e;exact(Xx.2 ⟨l,d,by simp[g,f]⟩).symm
 .rw[if_neg h]
  symm
  rw[Bool.eq_false_iff];intro q;obtain⟨l,d,e⟩:=Xx.1 q;simp only[X4,beq_iff_eq]at e;exact h (Xf.2 ⟨l,d,by unfold legKey;rw[e.1,e.2]⟩)
structure NumOk (c:Course):Prop where
 kinds:∀m∈c.Mats,1<=m.Kind/\m.Kind<=3
 dist:∀d∈c.Distances,-1<=d.Extra/\d.Extra<=(c.Mats.length:Int)-1/\partsS ((c.Mats.length:Int)-1) d.Route=true
theorem Qm3{c:Course}(h:numbersS c=true):NumOk c:=by
 unfold numbersS at h;simp only[X4,Xw]at h;refine⟨λm b=>?_,λd f=>?_⟩
 .have:=h.1 m b;unfold inR at this;simpa using this
 .have:=h.2.2.2.1 d f;unfold distS at this;simp only[X4]at this;obtain⟨_,a,e,_⟩:=this;unfold inR at a;simp only[X4,decide_eq_true_eq]at a;exact⟨a.1,a.2,e⟩
theorem Qpd{c:Course}(q:NumOk c){d:Distance}(hd:d∈c.Distances):∀x∈expS [] d.Route,0<=x/\x<=(c.Mats.length:Int)-1:=
 Qih _ _ d.Route [] (X0 _) (q.dist d hd).2.2 (by simp)
theorem Qll(c:Course)(len i:Nat)(prev m:Int)(r:List Int):rokS c len i prev (m::r)=(((kindAt c m==1)==decide (i=0))&&(((kindAt c m==3)==decide (i+1=len))&&((decide (i=0)||hasLeg c prev m)&&rokS c len (i+1) m r))):=rfl
theorem Qnu(i:Nat):((i:Int)==0)=decide (i=0):=by
 rw[X6];simp
theorem Qfn(c:Course)(r:List Int)(F:2<=r.length)(R:r.length<=256)(L:∀x∈r,0<=x/\x<=(c.Mats.length:Int)-1):
  Ev (λn=>iter (F_bs n c (Yd legKey true c.Legs) r) n ([],0)) (bif rokS c r.length 0 0 r then .cont (cntM r)else .done false):=by
 have loop:∀(t:List Int) (i:Nat) (b:Int),r.drop i=t->i<=r.length->(0<i->At r (i-1) b)->EvI (λn=>F_bs n c (Yd legKey true c.Legs) r) (cntM (r.take i),(i:Int)) (bif rokS c r.length i b t then .cont (cntM r)else .done false):=by
  intro t
  induction t with
  |nil=>
   intro i b f s _;refine Ej ?_;unfold F_bs;simp only[YK f s,cond_false,rokS,cond_true];have:r.length<=i:=by simpa using f
   rw[List.take_of_length_le this];exact Qa _
  |cons m t M=>
   intro i b f s z;obtain⟨d,p⟩:=QT (by omega) f;have O:=d.lt';obtain⟨N,G⟩:=L m d.mem;obtain⟨x,H,J⟩:=Qjc N G;have Q:IntKind.i64.wrap ((r.length:Int)-1)=((r.length-1:Nat):Int):=by rw[QJ (by omega) (by omega)];omega
   have B:((i:Int)==((r.length-1:Nat):Int))=decide (i+1=r.length):=by rw[X6];simp;omega
   have u:Ev (λn:Nat=>((bif ((x.Kind==1) != ((i:Int)==0))then some true else(bif ((x.Kind==3) != ((i:Int)==(IntKind.i64.wrap ((r.length:Int)-1))))then some true else(bif decide (0<(i:Int))then(idx r (IntKind.i64.wrap ((i:Int)-1))).bind λk=>(some (Qx (Yd legKey true c.Legs) ({from_:=k,to_:=m:typing_ends}) false)).bind λg=>some (!g)else some false))):Option Bool))
     (!(((kindAt c m==1)==decide (i=0))&&(((kindAt c m==3)==decide (i+1=r.length))&&(decide (i=0)||hasLeg c b m)))):=by
    rw[J,Q,B,Qnu];refine Ev.eq (Qi λ_=>Qi λ_=>Ym (v:= !hasLeg c b m) (w:=false) (λh=>?_) λ_=>Qa _) ?_
    .have j:0<i:=by simpa using h
     have y:IntKind.i64.wrap ((i:Int)-1)=((i-1:Nat):Int):=by rw[QJ (by omega) (by omega)];omega
     rw[y,(z j).ix];simp only[XQ,Qhd];exact Qa _
    .have P:decide (0<(i:Int))= !decide (i=0):=by rw[X6];simp;omega
     rw[P];cases(kindAt c m==1)<;>cases decide (i=0)<;>cases(kindAt c m==3)<;>cases decide (i+1=r.length)<;>cases hasLeg c b m<;>rfl
   have e:IntKind.i64.wrap (Qx (cntM (r.take i)) m 0+1)=Qx (cntM (r.take i)) m 0+1:=by
    rw[QeW];have:(r.take i).count m<=i:=by have:=List.count_le_length (a:=m) (l:=r.take i);simp at this;omega
    exact QJ (by omega) (by omega)
   have step:Ev (λn=>F_bs n c (Yd legKey true c.Legs) r (cntM (r.take i),(i:Int))) (bif ((kindAt c m==1)==decide (i=0))&&(((kindAt c m==3)==decide (i+1=r.length))&&(decide (i=0)||hasLeg c b m))then .cont (cntM (r.take (i+1)),((i+1:Nat):Int))else .done (.done false)):=by
    unfold F_bs;simp only[d.lt,cond_true,d.ix,XQ,d.nx,H];refine Ea u ?_;rw[e, <- Qkr, <- d.take];cases(((kindAt c m==1)==decide (i=0))&&(((kindAt c m==3)==decide (i+1=r.length))&&(decide (i=0)||hasLeg c b m)))<;>exact Qa _
   have E:rokS c r.length i b (m::t)=((((kindAt c m==1)==decide (i=0))&&(((kindAt c m==3)==decide (i+1=r.length))&&(decide (i=0)||hasLeg c b m)))&&rokS c r.length (i+1) m t):=by rw[Qll];simp only[Bool.and_assoc]
   rw[E];cases q:(((kindAt c m==1)==decide (i=0))&&(((kindAt c m==3)==decide (i+1=r.length))&&(decide (i=0)||hasLeg c b m)))with
   |false=>
    rw[q]at step;exact Ej step
   |true=>
    rw[q]at step;rw[Bool.true_and];exact Eu step (M (i+1) m p (by omega) (λ_=>by simpa using d))
 exact(loop r 0 0 rfl (X2 _) (by omega)).ev
theorem Qiq(c:Course)(w:CourseOk c)(q:NumOk c)(d:Distance)(b:d∈c.Distances)(t:∀x∈d.Route,Part.wf x)(k:szPs d.Route<=256):
  Ev (λn=>F_dq n c d (Yd legKey true c.Legs)) (routeS c d):=by
 have j:=Qak d.Route;have i:=Qpd q b;have a:=Qhx _ d.Route [] (X0 _);unfold F_dq routeS;refine Ea (Qkg _ _ d.Route (X0 _) k (by omega) t (q.dist d b).2.2) ?_;generalize expS [] d.Route=r at i a⊢;unfold routeR;have s:IntKind.i64.wrap ((r.length:Int)-1)=(r.length:Int)-1:=by
  have:r.length<=1048576:=by simp at a;omega
  exact Qcn this
 rw[s];have l:(decide ((r.length:Int)-1<1)||decide (256<=(r.length:Int)-1))= !(decide (2<=r.length)&&decide (r.length<=256)):=by
  rw[X6];simp;omega
 refine Ea (Ev.eq (Qi λ_=>Qa _) l) ?_;cases g:(decide (2<=r.length)&&decide (r.length<=256))with
 |false=>exact Qa _
 |true=>
  simp only[X4,decide_eq_true_eq]at g;rw[Bool.true_and];refine Q6 (Ea (Qfn c r g.1 g.2 i) ?_);cases rokS c r.length 0 0 r with
  |false=>exact Qa _
  |true=>
   simp only[cond_true,Bool.true_and];have u:Ev (λn:Nat=>((bif decide (0<=d.Extra)then(some (Qx (cntM r) d.Extra 0)).bind λe=>(bif (e==0)then some true else(idx c.Mats d.Extra).bind λh=>(bif (h.Kind != 2)then some true else(some (Qx (Yd legKey true c.Legs) ({from_:=d.Extra,to_:=d.Extra:typing_ends}) false)).bind λf=>some (!f)))else some false):Option Bool))
     (!(bif decide (0<=d.Extra)then !((r.count d.Extra:Int)==0)&&((kindAt c d.Extra==2)&&hasLeg c d.Extra d.Extra)else true)):=by
    rw[QeW];cases y:decide (0<=d.Extra)with
    |false=>exact Qa _
    |true=>
     obtain⟨x,p,z⟩:=Qjc (c:=c) (m:=d.Extra) (by simpa using y) (q.dist d b).2.1;simp only[cond_true,XQ,p,Qhd,z];refine Ev.eq (Qi λ_=>Qi λ_=>Qa _) ?_;rw[bne];cases((r.count d.Extra:Int)==0)<;>cases(kindAt c d.Extra==2)<;>cases hasLeg c d.Extra d.Extra<;>rfl
   refine Ea u ?_;cases(bif decide (0<=d.Extra)then !((r.count d.Extra:Int)==0)&&((kindAt c d.Extra==2)&&hasLeg c d.Extra d.Extra)else true)with
   |false=>exact Qa _
   |true=>
    rw[Bool.true_and];refine Q6 (Ea ?_ (Qa _));unfold F_gs F_gp F_ft;refine Y6 d.Cutoffs _ (λn x=>F_cb n x (cntM r)) (by have:=w.cut d b;omega) λx _=>?_;unfold F_cb;rw[QeW];exact Qa _
def lensC(c:Course):Nat:=c.Mats.length+c.Legs.length+c.Distances.length+c.Waves.length+c.Offences.length+c.Categories.length+c.Prizes.length
def fewD(d:Distance):Prop:=d.Cutoffs.length<=200/\szPs d.Route<=200/\hPs d.Route<=16
structure FewOk (c:Course):Prop where
 lens:lensC c<=200
 name:c.Name.length<=100
 dist:∀d∈c.Distances,fewD d
 ties:c.Ties.length<=200
def fitsS(c:Course):Bool:=
 !(decide (40<(c.Mats.length:Int))||(decide (512<(c.Legs.length:Int))||(decide (8<(c.Distances.length:Int))||(decide (32<(c.Waves.length:Int))||(decide (32<(c.Offences.length:Int))||(decide (32<(c.Categories.length:Int))||decide (32<(c.Prizes.length:Int))))))))
  &&c.Distances.all λd=> !decide (64<(d.Cutoffs.length:Int))
theorem QnP(c:Course)(w:CourseOk c)(q:PartsOk c)(k:FewOk c):Ev (λn=>F_ad n c) (fitsS c):=by
 unfold F_ad fitsS;refine Ea (Qi λ_=>Qi λ_=>Qi λ_=>Qi λ_=>Qi λ_=>Qi λ_=>Qa _) ?_;cases(decide (40<(c.Mats.length:Int))||(decide (512<(c.Legs.length:Int))||(decide (8<(c.Distances.length:Int))||(decide (32<(c.Waves.length:Int))||(decide (32<(c.Offences.length:Int))||(decide (32<(c.Categories.length:Int))||decide (32<(c.Prizes.length:Int))))))))with
 |true=>exact Qa _
 |false=>
  rw[Xi,Bool.true_and];refine Q6 (Ea (Yg c.Distances (λd=> !decide (64<(d.Cutoffs.length:Int))) (Ctl.done false) (Ctl.cont ()) (by have:=w.dist;omega) (λi x a=>?_) ?_) ?_)
  .obtain⟨f,b,e⟩:=k.dist x a.mem;unfold F_hn;simp only[a.lt,cond_true,a.ix,XQ,a.nx];refine Ea (Qmp _ x.Route 17 (X0 _) (by omega) (X0 _) (by omega) (q.wf x a.mem)) ?_;refine Ea (Qi λ_=>Qi λ_=>Qa _) ?_;simp only[Q3 (show¬(16:Int)<(hPs x.Route:Int)by omega),Q3 (show¬(256:Int)<(szPs x.Route:Int)by omega),Bool.or_false];cases decide (64<(x.Cutoffs.length:Int))<;>exact Qa _
  .unfold F_hn;simp only[YD,cond_false];exact Qa _
  .cases(c.Distances.all λd=> !decide (64<(d.Cutoffs.length:Int)))<;>exact Qa _
def courseE(c:Course):Int:=
 bif fitsS c then bif namesS c then bif numbersS c then bif tiesE c.Ties==0 then bif c.Distances.all (routeS c)then 0 else 72 else tiesE c.Ties else 71 else 70 else 2
theorem QfU(c:Course)(w:CourseOk c)(q:PartsOk c)(k:FewOk c)(f:c.Ties.length<=1048576)(d:∀x∈c.Ties,Step.wf x):Ev (λn=>F_k n c) (courseE c):=by
 unfold F_k courseE;refine Ea (QnP c w q k) ?_;cases fitsS c with
 |false=>exact Qa _
 |true=>
 refine Q6 (Ea (Qmm c w) ?_);cases namesS c with
 |false=>exact Qa _
 |true=>
 refine Q6 (Ea (Qio c w q) ?_);cases g:numbersS c with
 |false=>exact Qa _
 |true=>
 refine Q6 (Ea (QnR c.Ties f d) ?_);rw[bne];cases(tiesE c.Ties==0)with
 |false=>exact Qa _
 |true=>
 have e:Ev (λn=>iter (F_ib n c) n ([],0)) (Yd legKey true c.Legs):=by
  refine Qbq c.Legs legKey true (by have:=w.legs;omega) (λi x m a=>?_) (λm=>?_)
  .unfold F_ib;simp only[a.lt,cond_true,a.ix,XQ,a.nx];exact Qa _
  .unfold F_ib;simp only[YD,cond_false];exact Qa _
 refine Q6 (Ea e ?_);have a:Ev (λn=>F_di n c.Distances c (Yd legKey true c.Legs)) (c.Distances.all (routeS c)):=by
  unfold F_di F_fy F_ey;refine Y6 c.Distances _ (λn x=>F_ek n x c (Yd legKey true c.Legs)) (by have:=w.dist;omega) λx b=>?_;unfold F_ek;exact Ea (Qiq c w (Qm3 g) x b (q.wf x b) (by have:=(k.dist x b).2.1;omega)) (Qa _)
 refine Ea a ?_;cases c.Distances.all (routeS c)<;>exact Qa _
theorem Qfr{α:Type}{lt:α->α->Prop}(d:∀a b,lt a b->¬lt b a):∀{l m:List α},l.Pairwise lt->m.Pairwise lt->(∀x,x∈l↔x∈m)->l=m:=by
 intro l
 induction l with
 |nil=>
  intro m _ _ h;cases m with
  |nil=>rfl
  |cons y m=>exact absurd ((h y).2 (by simp)) (by simp)
 |cons x l s=>
  intro m q n h;cases m with
  |nil=>exact absurd ((h x).1 (by simp)) (by simp)
  |cons y m=>
   obtain⟨g,r⟩:=Xc.1 q;obtain⟨i,p⟩:=Xc.1 n;have j:x=y:=by
    rcases Ve.1 ((h x).1 (by simp))with e|e
    .exact e
    .rcases Ve.1 ((h y).2 (by simp))with k|k
     .exact k.symm
     .exact absurd (i x e) (d _ _ (g y k))
   subst j;rw[s r p λz=>?_];constructor
   .intro f;rcases Ve.1 ((h z).1 (by simp[f]))with e|e
    .subst e;exact absurd (g z f) (d _ _ (g z f))
    .exact e
   .intro f;rcases Ve.1 ((h z).2 (by simp[f]))with e|e
    .subst e;exact absurd (i z f) (d _ _ (i z f))
    .exact e
theorem QdW{α:Type}(l m:List α)(h:l.length+m.length<=4294967296):app l m=some (l++m):=by
 unfold app;rw[XZ (by unfold QO;exact h)];rfl
theorem QgZ(l:List Int)(h:l.length<=4294967296):sortI l=some (QaH ltI l):=by
 unfold sortI;rw[XZ (by unfold QO;exact h)];rfl
def firstI{α:Type}(q:α->Bool):List α->Nat->Int
 |[],_=> -1
 |x::l,i=>bif q x then(i:Int)else firstI q l (i+1)
theorem Ev.first{α:Type}{step:Nat->Int->Option (Ctl Int (Ctl Unit Int))}(l:List α)(q:α->Bool)(m:l.length<=4611686018427387904)
  (p:∀i x,At l i x->Ev (λn=>step n (i:Int)) (bif q x then .done (.done (i:Int))else .cont ((i+1:Nat):Int)))(u:Ev (λn=>step n (l.length:Int)) (.done (.cont ()))):
  Ev (λn=>(Go.Sw.iter (step n) n 0).bind λb=>match b with|.cont _=>some (-1)|.done v=>some v) (firstI q l 0):=by
 have loop:∀(r:List α) (i:Nat),l.drop i=r->i<=l.length->∃a:Ctl Unit Int,EvI step (i:Int) a/\(match a with|.cont _=>some (-1)|.done v=>some v)=some (firstI q r i):=by
  intro r
  induction r with
  |nil=>
   intro i e k;have:i=l.length:=by have:=Xu.1 e;omega
   subst this;exact⟨.cont (),Ej u,rfl⟩
  |cons x r t=>
   intro i e k;obtain⟨j,g⟩:=QT m e;have s:=p i x j;unfold firstI;cases h:q x with
   |true=>
    rw[h]at s;exact⟨_,Ej s,rfl⟩
   |false=>
    rw[h]at s;obtain⟨a,d,f⟩:=t (i+1) g (by have:=j.lt';omega);exact⟨a,Eu s d,f⟩
 obtain⟨a,d,f⟩:=loop l 0 rfl (X2 _);exact Ea d.ev (Ez f)
theorem QbO{ι α:Type}{F:Nat->ι->Option α}{V:ι->α}:∀(L:List ι),(∀p∈L,Ev (λn=>F n p) (V p))->∃N,∀n,N<=n->∀p∈L,F n p=some (V p)
 |[],_=>⟨0,λ_ _ p hp=>by cases hp⟩
 |x::L,h=>by
  obtain⟨N,hN⟩:=QbO L λp hp=>h p (by simp[hp]);obtain⟨M,hM⟩:=h x (by simp);refine⟨N+M,λn hn p hp=>?_⟩;rcases Ve.1 hp with rfl|hp
  .exact hM n (by omega)
  .exact hN n (by omega) p hp
theorem Ev.anyP{E R:Type}[DecidableEq R]{k:Nat->List E->Option R}{l:List E}{r:R}(h:∀p,p.Perm l->Ev (λn=>k n p) r):Ev (λn=>Go.Sw.anyP (k n) l) r:=by
 obtain⟨N,d⟩:=QbO (F:=λn p=>k n p) (V:=λ_=>r) (QbF l) λp a=>h p (Qb9 l p a);exact⟨N,λn b=>Qn1 λp a=>d n b p (Qc5 l p a)⟩
theorem Ev.isNil{α R:Type}[DecidableEq R]{l:List α}{x y:Nat->Option R}{v:R}(d:l=[]->Ev x v)(a:Ev y v):Ev (λn=>Go.Sw.isNil l (x n) (y n)) v:=by
 unfold Go.Sw.isNil;cases q:l.isEmpty with
 |false=>exact a
 |true=>
  obtain⟨N,b⟩:=d (List.isEmpty_iff.1 q);obtain⟨M,e⟩:=a;exact⟨N+M,λn f=>by dsimp only;rw[b n (by omega),e n (by omega)];simp⟩
theorem Qkk:∀(k:Nat) (l:List Part),k<=17->szPs l<=256->(∀x∈l,Part.wf x)->∃s:Nat,s<=szPs l/\Ev (λn=>F_b n l (k:Int)) (((min (hPs l) k:Nat):Int),(s:Int)):=by
 intro k
 induction k using Nat.strongRecOn with
 |_ k P=>
 intro l B e E;have y:=Qak l;have loop:∀(r:List Part) (i a b:Nat),l.drop i=r->i<=l.length->a<=17->b+(szPs r-r.length)<=256->∃s:Nat,s<=b+(szPs r-r.length)/\EvI (λn=>F_aa n l (k:Int) (F_b n)) ((a:Int),(b:Int),(i:Int)) (((max a (min (hPs r) k):Nat):Int),(s:Int)):=by
  intro r
  induction r with
  |nil=>
   intro i a b g u _ _;refine⟨b,by omega,Ej ?_⟩;unfold F_aa;simp only[YK g u,cond_false,XQ];refine(Qa _).eq ?_;simp[hPs]
  |cons p r j=>
   intro i a b g u L m;obtain⟨d,q⟩:=QT (by omega) g;obtain⟨T,G⟩:=Y2 (E p d.mem);have w:=QaY d.mem;rw[Qac]at w;have J:=Qak r;rw[szPs,Qac,X8]at m⊢;have step:∃t:Nat,t<=szPs p.Parts/\Ev (λn=>F_aa n l (k:Int) (F_b n) ((a:Int),(b:Int),(i:Int))) (.cont (((max a (min (hP p) k):Nat):Int),((b+t:Nat):Int),((i+1:Nat):Int))):=by
    unfold F_aa;simp only[d.lt,cond_true,d.ix,XQ,d.nx,QaG];rw[Qor];cases R:p.Parts.isEmpty with
    |true=>
     refine⟨0,X2 _,?_⟩;simp only[cond_true,XQ,Nat.zero_min,Nat.max_zero,XC];exact Qa _
    |false=>
     simp only[cond_false];by_cases f:k=0
     .subst f;refine⟨0,X2 _,?_⟩;simp only[Nat.min_zero,Nat.max_zero,XC];exact Qa _
     .obtain⟨t,z,h⟩:=P (k-1) (by omega) p.Parts (by omega) (by omega) G;refine⟨t,z,?_⟩;have M:IntKind.i64.wrap ((k:Int)-1)=((k-1:Nat):Int):=by rw[QJ (by omega) (by omega)];omega
      have O:((k:Int)==0)=false:=beq_false_of_ne (by omega);rw[O,Q3 (show¬(256:Int)<(b:Int)by omega),M];simp only[cond_false,XQ];refine Ea (Ea h (Qa _)) ((Qa _).eq ?_);have Q:IntKind.i64.wrap (((min (hPs p.Parts) (k-1):Nat):Int)+1)=((min (hPs p.Parts) (k-1)+1:Nat):Int):=QaB (by omega);have H:IntKind.i64.wrap ((b:Int)+(t:Int))=((b+t:Nat):Int):=by rw[QJ (by omega) (by omega)];omega
      simp only[Q,H];congr 2;split<;>omega
   obtain⟨t,z,h⟩:=step;obtain⟨s,F,N⟩:=j (i+1) (max a (min (hP p) k)) (b+t) q (by have:=d.lt';omega) (by omega) (by omega);refine⟨s,by omega,(Eu h N).eq ?_⟩;rw[hPs];congr 1;omega
 obtain⟨s,w,p⟩:=loop l 0 0 l.length rfl (X2 _) (by omega) (by omega);refine⟨s,by omega,YX ?_⟩;show Ev (λn=>B_b (F_b n) n l (k:Int)) _;unfold B_b;refine Ea p.ev ((Qa _).eq ?_);rw[Nat.zero_max]
structure FewL (c:Course):Prop where
 lens:lensC c<=200
 name:c.Name.length<=100
 dist:∀d∈c.Distances,d.Cutoffs.length<=12/\szPs d.Route<=24
 ties:c.Ties.length<=200
def fitsG(c:Course):Bool:=
 !(decide (40<(c.Mats.length:Int))||(decide (512<(c.Legs.length:Int))||(decide (8<(c.Distances.length:Int))||(decide (32<(c.Waves.length:Int))||(decide (32<(c.Offences.length:Int))||(decide (32<(c.Categories.length:Int))||decide (32<(c.Prizes.length:Int))))))))
  &&c.Distances.all λd=> !(decide (64<(d.Cutoffs.length:Int))||decide (16<hPs d.Route))
theorem QhE(c:Course)(w:CourseOk c)(q:PartsOk c)(k:FewL c):Ev (λn=>F_ad n c) (fitsG c):=by
 unfold F_ad fitsG;refine Ea (Qi λ_=>Qi λ_=>Qi λ_=>Qi λ_=>Qi λ_=>Qi λ_=>Qa _) ?_;cases(decide (40<(c.Mats.length:Int))||(decide (512<(c.Legs.length:Int))||(decide (8<(c.Distances.length:Int))||(decide (32<(c.Waves.length:Int))||(decide (32<(c.Offences.length:Int))||(decide (32<(c.Categories.length:Int))||decide (32<(c.Prizes.length:Int))))))))with
 |true=>exact Qa _
 |false=>
  rw[Xi,Bool.true_and];refine Q6 (Ea (Yg c.Distances (λd=> !(decide (64<(d.Cutoffs.length:Int))||decide (16<hPs d.Route))) (Ctl.done false) (Ctl.cont ()) (by have:=w.dist;omega) (λi x a=>?_) ?_) ?_)
  .obtain⟨g,b⟩:=k.dist x a.mem;unfold F_hn;simp only[a.lt,cond_true,a.ix,XQ,a.nx];obtain⟨s,f,p⟩:=Qkk 17 x.Route (X0 _) (by omega) (q.wf x a.mem);refine Ea p ?_;refine Ea (Qi λ_=>Qi λ_=>Qa _) ?_;simp only[Q3 (show¬(256:Int)<(s:Int)by omega),Bool.or_false];have e:decide ((16:Int)<((min (hPs x.Route) 17:Nat):Int))=decide (16<hPs x.Route):=by
    rw[decide_eq_decide];omega
   rw[e];cases(decide (64<(x.Cutoffs.length:Int))||decide (16<hPs x.Route))<;>exact Qa _
  .unfold F_hn;simp only[YD,cond_false];exact Qa _
  .cases c.Distances.all (λd=> !(decide (64<(d.Cutoffs.length:Int))||decide (16<hPs d.Route)))<;>exact Qa _
theorem QgB(c:Course)(w:CourseOk c)(q:PartsOk c)(k:FewL c)(i:c.Ties.length<=1048576)(h:∀x∈c.Ties,Step.wf x):∃e,Ev (λn=>F_k n c) e:=by
 by_cases f:∀d∈c.Distances,hPs d.Route<=16
 .exact⟨_,QfU c w q ⟨k.lens,k.name,λd a=>⟨by have:=(k.dist d a).1;omega,by have:=(k.dist d a).2;omega,f d a⟩,k.ties⟩ i h⟩
 .refine⟨2,?_⟩;unfold F_k;refine Ea (QhE c w q k) ?_;have:fitsG c=false:=by
   unfold fitsG;rw[Bool.and_eq_false_iff];right;rw[List.all_eq_false];have:=Classical.not_forall.1 f;obtain⟨d,a⟩:=this;have b:d∈c.Distances/\ ¬hPs d.Route<=16:=by
    refine Classical.byContradiction λz=>a λg=>Classical.byContradiction λy=>z ⟨g,y⟩
   refine⟨d,b.1,?_⟩;have:decide (16<hPs d.Route)=true:=decide_eq_true (by omega);rw[this];simp
  rw[this];exact Qa _
theorem Qia:∀(k:Nat) (l:List Part),k<=21->l.length<=1048576->(∀x∈l,Part.wf x)->∃v:Nat,v<=1048576+500*(k+1)/\(v<500->szPs l<=v)/\Ev (λn=>F_j n l ((21-k:Nat):Int)) (v:Int):=by
 intro k
 induction k with
 |zero=>
  intro l _ w s;refine⟨500,by omega,by omega,YX ?_⟩;show Ev (λn=>B_j (F_j n) n l ((21-0:Nat):Int)) _;unfold B_j;exact Qa _
 |succ k J=>
  intro l N w s;have loop:∀(r:List Part) (i a:Nat),l.drop i=r->i<=l.length->a<=1048576+500*(k+1+1)->∃v:Nat,v<=1048576+500*(k+1+1)/\a<=v/\(v<500->a+(szPs r-r.length)<=v)/\EvI (λn=>F_eu n l ((21-(k+1):Nat):Int) (F_j n)) ((a:Int),(i:Int)) (v:Int):=by
   intro r
   induction r with
   |nil=>
    intro i a g t f;refine⟨a,f,X0 _,λ_=>by simp[szPs],Ej ?_⟩;unfold F_eu;simp only[YK g t,cond_false,XQ];exact Qa _
   |cons p r h=>
    intro i a g t f;obtain⟨b,q⟩:=QT (by omega) g;obtain⟨E,z⟩:=Y2 (s p b.mem);by_cases y:a<500
    .obtain⟨u,M,L,B⟩:=J p.Parts (by omega) E z;have F:IntKind.i64.wrap (((21-(k+1):Nat):Int)+1)=((21-k:Nat):Int):=by rw[QJ (by omega) (by omega)];omega
     have G:IntKind.i64.wrap ((a:Int)+(u:Int))=((a+u:Nat):Int):=by rw[QJ (by omega) (by omega)];omega
     obtain⟨v,e,H,j,m⟩:=h (i+1) (a+u) q (by have:=b.lt';omega) (by omega);refine⟨v,e,by omega,λd=>?_,Eu ?_ m⟩
     .have:=j d;have:=L (by omega);have:=Qak r;rw[szPs,Qac,X8];omega
     .unfold F_eu;simp only[b.lt,cond_true,b.ix,XQ,b.nx,Yp (show(a:Int)<500 by omega),F];refine Ea B ?_;rw[G];exact Qa _
    .refine⟨a,f,X0 _,λd=>absurd d y,Ej ?_⟩;unfold F_eu;simp only[b.lt,cond_true,XQ,Q3 (show¬(a:Int)<500 by omega),cond_false];exact Qa _
  obtain⟨v,e,H,j,m⟩:=loop l 0 l.length rfl (X2 _) (X3 w (Nat.le_add_right _ _));have:=Qak l;refine⟨v,e,λd=>by have:=j d;omega,YX ?_⟩;show Ev (λn=>B_j (F_j n) n l ((21-(k+1):Nat):Int)) _;unfold B_j;rw[Q3 (show¬(20:Int)<((21-(k+1):Nat):Int)by omega)];exact Q6 (Ea m.ev (Qa _))
theorem QhO:∀(k:Nat) (l:List Cond),k<=21->l.length<=1048576->(∀x∈l,Cond.wf x)->∃v:Nat,v<=1048576+500*(k+1)/\Ev (λn=>F_h n l ((21-k:Nat):Int)) (v:Int):=by
 intro k
 induction k with
 |zero=>
  intro l _ s t;refine⟨500,by omega,YX ?_⟩;show Ev (λn=>B_h (F_h n) n l ((21-0:Nat):Int)) _;unfold B_h;exact Qa _
 |succ k w=>
  intro l E s t;have loop:∀(r:List Cond) (i a:Nat),l.drop i=r->i<=l.length->a<=1048576+500*(k+1+1)->∃v:Nat,v<=1048576+500*(k+1+1)/\EvI (λn=>F_ff n l ((21-(k+1):Nat):Int) (F_h n)) ((a:Int),(i:Int)) (v:Int):=by
   intro r
   induction r with
   |nil=>
    intro i a h q m;refine⟨a,m,Ej ?_⟩;unfold F_ff;simp only[YK h q,cond_false,XQ];exact Qa _
   |cons p r f=>
    intro i a h q m;obtain⟨b,j⟩:=QT (by omega) h;have d:=Qaj (t p b.mem);by_cases F:a<500
    .obtain⟨u,G,y⟩:=w p.Parts (by omega) d.1 d.2;have z:IntKind.i64.wrap (((21-(k+1):Nat):Int)+1)=((21-k:Nat):Int):=by rw[QJ (by omega) (by omega)];omega
     have B:IntKind.i64.wrap ((a:Int)+(u:Int))=((a+u:Nat):Int):=by rw[QJ (by omega) (by omega)];omega
     obtain⟨v,g,e⟩:=f (i+1) (a+u) j (by have:=b.lt';omega) (by omega);refine⟨v,g,Eu ?_ e⟩;unfold F_ff;simp only[b.lt,cond_true,b.ix,XQ,b.nx,Yp (show(a:Int)<500 by omega),z];refine Ea y ?_;rw[B];exact Qa _
    .refine⟨a,m,Ej ?_⟩;unfold F_ff;simp only[b.lt,cond_true,XQ,Q3 (show¬(a:Int)<500 by omega),cond_false];exact Qa _
  obtain⟨v,g,e⟩:=loop l 0 l.length rfl (X2 _) (X3 s (Nat.le_add_right _ _));refine⟨v,g,YX ?_⟩;show Ev (λn=>B_h (F_h n) n l ((21-(k+1):Nat):Int)) _;unfold B_h;rw[Q3 (show¬(20:Int)<((21-(k+1):Nat):Int)by omega)];exact Q6 (Ea e.ev (Qa _))
def Cs:Nat->Nat
 |0=>500
 |k+1=>4194304+2*Cs k
theorem Qox:∀k,k<22->Cs k<=1125899906842624:=by decide
theorem QgX:∀(k:Nat) (l:List Step),k<=21->l.length<=1048576->(∀x∈l,Step.wf x)->∃v:Nat,v<=Cs k/\(v<500->l.length<=v)/\Ev (λn=>F_g n l ((21-k:Nat):Int)) (v:Int):=by
 intro k
 induction k with
 |zero=>
  intro l _ N m;refine⟨500,X0 _,by omega,YX ?_⟩;show Ev (λn=>B_g (F_g n) n l ((21-0:Nat):Int)) _;unfold B_g;exact Qa _
 |succ k z=>
  intro l W N m;have G:=Qox k (by omega);have J:=Qox (k+1) (by omega);have H:Cs (k+1)=4194304+2*Cs k:=rfl;have loop:∀(r:List Step) (i a:Nat),l.drop i=r->i<=l.length->a<=Cs (k+1)->∃v:Nat,v<=Cs (k+1)/\a<=v/\EvI (λn=>F_hb n l ((21-(k+1):Nat):Int) (F_g n)) ((a:Int),(i:Int)) (v:Int):=by
   intro r
   induction r with
   |nil=>
    intro i a f q e;refine⟨a,e,X0 _,Ej ?_⟩;unfold F_hb;simp only[YK f q,cond_false,XQ];exact Qa _
   |cons p r g=>
    intro i a f q e;obtain⟨b,j⟩:=QT (by omega) f;obtain⟨B,s,t⟩:=Qai (m p b.mem);by_cases T:a<500
    .obtain⟨u,V,F⟩:=QhO 21 [p.Cond] (X0 _) (by simp) (by simpa using B);obtain⟨x,R,_,P⟩:=z p.Then (by omega) s.1 s.2;obtain⟨y,y1,_,Q⟩:=z p.Else (by omega) t.1 t.2;have L:IntKind.i64.wrap (((21-(k+1):Nat):Int)+1)=((21-k:Nat):Int):=by rw[QJ (by omega) (by omega)];omega
     have M:IntKind.i64.wrap ((a:Int)+(u:Int))=((a+u:Nat):Int):=by rw[QJ (by omega) (by omega)];omega
     have O:IntKind.i64.wrap (((a+u:Nat):Int)+(x:Int))=((a+u+x:Nat):Int):=by rw[QJ (by omega) (by omega)];omega
     have E:IntKind.i64.wrap (((a+u+x:Nat):Int)+(y:Int))=((a+u+x+y:Nat):Int):=by rw[QJ (by omega) (by omega)];omega
     obtain⟨v,d,w,h⟩:=g (i+1) (a+u+x+y) j (by have:=b.lt';omega) (by omega);refine⟨v,d,by omega,Eu ?_ h⟩;unfold F_hb;simp only[b.lt,cond_true,b.ix,XQ,b.nx,Yp (show(a:Int)<500 by omega),L];refine Ea F (Ea P (Ea Q ?_));rw[M,O,E];exact Qa _
    .refine⟨a,e,X0 _,Ej ?_⟩;unfold F_hb;simp only[b.lt,cond_true,XQ,Q3 (show¬(a:Int)<500 by omega),cond_false];exact Qa _
  obtain⟨v,d,w,h⟩:=loop l 0 l.length rfl (X2 _) (by omega);refine⟨v,d,λ_=>w,YX ?_⟩;show Ev (λn=>B_g (F_g n) n l ((21-(k+1):Nat):Int)) _;unfold B_g;rw[Q3 (show¬(20:Int)<((21-(k+1):Nat):Int)by omega)];exact Q6 (Ea h.ev (Qa _))
theorem Qj9(c:Course)(w:CourseOk c)(q:PartsOk c)(L:c.Ties.length<=1048576)(G:∀x∈c.Ties,Step.wf x):∃b,Ev (λn=>F_z n c) b/\(b=true->FewL c):=by
 have T:=w.dist;have V:=w.mats;have loop:∀(r:List Distance) (i:Nat),c.Distances.drop i=r->i<=c.Distances.length->∃a:Ctl Unit Bool,EvI (λn=>F_fn n c) (i:Int) a/\(a=.done false\/(a=.cont ()/\ ∀d∈r,d.Cutoffs.length<=12/\szPs d.Route<=24)):=by
  intro r
  induction r with
  |nil=>
   intro i p E;refine⟨.cont (),Ej ?_,.inr ⟨rfl,λd h=>by cases h⟩⟩;unfold F_fn;simp only[YK p E,cond_false];exact Qa _
  |cons d r s=>
   intro i p E;obtain⟨e,z⟩:=QT (by omega) p;obtain⟨v,F,y,u⟩:=Qia 21 d.Route (X0 _) (q.len d e.mem) (q.wf d e.mem);have step:Ev (λn=>F_fn n c (i:Int)) (bif (decide ((24:Int)<(v:Int))||(decide (12<(d.Cutoffs.length:Int))||decide (60<(d.Name.length:Int))))then .done (.done false)else .cont ((i+1:Nat):Int)):=by
    unfold F_fn;simp only[e.lt,cond_true,e.ix,XQ,e.nx];refine Ea (v:=decide ((24:Int)<(v:Int))||(decide (12<(d.Cutoffs.length:Int))||decide (60<(d.Name.length:Int)))) (Ea u (Qi λ_=>Qi λ_=>Qa _)) ?_;cases(decide ((24:Int)<(v:Int))||(decide (12<(d.Cutoffs.length:Int))||decide (60<(d.Name.length:Int))))<;>exact Qa _
   cases f:(decide ((24:Int)<(v:Int))||(decide (12<(d.Cutoffs.length:Int))||decide (60<(d.Name.length:Int))))with
   |true=>
    rw[f]at step;exact⟨.done false,Ej step,.inl rfl⟩
   |false=>
    rw[f]at step;obtain⟨a,j,g⟩:=s (i+1) z (by have:=e.lt';omega);refine⟨a,Eu step j,?_⟩;rcases g with g|⟨g,k⟩
    .exact .inl g
    .refine .inr ⟨g,λx t=>?_⟩;rcases Ve.1 t with rfl|t
     .simp only[X5,decide_eq_false_iff_not]at f;have:=y (by omega);exact⟨by omega,by omega⟩
     .exact k x t
 obtain⟨a,j,g⟩:=loop c.Distances 0 rfl (X2 _);rcases g with rfl|⟨rfl,k⟩
 .refine⟨false,?_,λh=>by cases h⟩;unfold F_z;exact Ea j.ev (Qa _)
 .have J:∃a:Ctl Unit Bool,Ev (λn=>iter (F_ip n c) n (0:Int)) a/\(a=.done false\/a=.cont ()):=by
   refine⟨_,Yg c.Mats (λm=> !decide (60<(m.Name.length:Int))) (Ctl.done false) (Ctl.cont ()) (by omega) (λi x e=>?_) ?_,?_⟩
   .unfold F_ip;simp only[e.lt,cond_true,e.ix,XQ,e.nx];cases decide (60<(x.Name.length:Int))<;>exact Qa _
   .unfold F_ip;simp only[YD,cond_false];exact Qa _
   .cases c.Mats.all (λm=> !decide (60<(m.Name.length:Int)))with
    |true=>exact .inr rfl
    |false=>exact .inl rfl
  obtain⟨B,l,H⟩:=J;rcases H with rfl|rfl
  .refine⟨false,?_,λh=>by cases h⟩;unfold F_z;exact Ea j.ev (Ea l (Qa _))
  .obtain⟨v,F,y,u⟩:=QgX 21 c.Ties (X0 _) L G;cases f:(decide (12<(c.Mats.length:Int))||(decide (30<(c.Legs.length:Int))||(decide (4<(c.Distances.length:Int))||(decide (6<(c.Waves.length:Int))||(decide (6<(c.Offences.length:Int))||(decide (6<(c.Categories.length:Int))||(decide (6<(c.Prizes.length:Int))||decide (60<(c.Name.length:Int)))))))))with
   |true=>
    refine⟨false,?_,λh=>by cases h⟩;unfold F_z;refine Ea j.ev (Ea l (Ea (v:=true) (Ev.eq (Qi λ_=>Qi λ_=>Qi λ_=>Qi λ_=>Qi λ_=>Qi λ_=>Qi λ_=>Qa _) f) (Qa _)))
   |false=>
    refine⟨decide ((v:Int)<=100),?_,λh=>?_⟩
    .unfold F_z;refine Ea j.ev (Ea l (Ea (v:=false) (Ev.eq (Qi λ_=>Qi λ_=>Qi λ_=>Qi λ_=>Qi λ_=>Qi λ_=>Qi λ_=>Qa _) f) (Ea u (Qa _))))
    .have h:=of_decide_eq_true h;have:=y (by omega);simp only[X5,decide_eq_false_iff_not]at f;obtain⟨N,M,P,W,X,R,O,Q⟩:=f;exact⟨by unfold lensC;omega,by omega,k,by omega⟩
set_option maxRecDepth 4000
def cmpI(a b:Int):Int:=bif decide (a<b)then-1 else bif decide (b<a)then 1 else 0
theorem Qjp(n:Nat)(a b:Int):F_e n a b=some (cmpI a b):=by
 unfold F_e F_bd cmpI;simp only[XQ,bne_self_eq_false,cond_false];cases decide (a<b)with
 |true=>rfl
 |false=>cases decide (b<a)<;>rfl
def orL:List Int->Int
 |[]=>0
 |x::r=>bif x != 0 then x else orL r
theorem Qos(l:List Int)(k:l.length<=1000):Ev (λn=>F_n n l) (orL l):=by
 unfold F_n;have loop:∀(r:List Int) (i:Nat),l.drop i=r->i<=l.length->EvI (λn=>F_at n l) (i:Int) (bif orL r==0 then Ctl.cont ()else Ctl.done (orL r)):=by
  intro r
  induction r with
  |nil=>
   intro i b f;refine Ej ?_;unfold F_at;simp only[YK b f,cond_false];exact Qa _
  |cons x r g=>
   intro i b f;obtain⟨a,d⟩:=QT (by omega) b;have j:=a.lt';unfold orL;cases q:(x != 0)with
   |true=>
    have e:(x==0)=false:=by simpa[bne]using q
    simp only[cond_true,e,cond_false];refine Ej ?_;unfold F_at;simp only[a.lt,cond_true,a.ix,XQ,q];exact Qa _
   |false=>
    simp only[cond_false];refine Eu ?_ (g (i+1) d (by omega));unfold F_at;simp only[a.lt,cond_true,a.ix,XQ,q,cond_false,a.nx];exact Qa _
 refine Ea (loop l 0 rfl (X2 _)).ev ?_;cases h:(orL l==0)with
 |true=>
  have e:orL l=0:=by simpa using h
  rw[e];exact Qa _
 |false=>exact Qa _
theorem QlQ{β:Type}(m:List (Int×β))(k:Int):Qfl m k=(YI m k).isSome:=by
 unfold Qfl YI;rw[Option.isSome_map]
 induction m with
 |nil=>rfl
 |cons p m a=>
  rw[List.any_cons,List.find?_cons,a];cases decide (p.1=k)<;>rfl
theorem Qcy{β:Type}(m:List (Int×β))(k:Int):k∈m.map Prod.fst↔ ∃v,YI m k=some v:=by
 have h:=QlQ m k;rw[<- Option.isSome_iff_exists, <- h];unfold Qfl;simp only[Xx,decide_eq_true_eq,Xf]
theorem Qcx{β:Type}(m:List (Int×β))(k:Int)(v:β):(QR m k v).length<=m.length+1:=by
 have:=congrArg List.length (QbQ m k v);rw[X9]at this;rw[this];split<;>simp
theorem Qeo{β:Type}{m:List (Int×β)}(k:Int)(v:β)(h:(m.map Prod.fst).Nodup):((QR m k v).map Prod.fst).Nodup:=by
 have e:=QbQ m k v;have i:(QR m k v).map Prod.fst=if k∈m.map Prod.fst then m.map Prod.fst else m.map Prod.fst++[k]:=e
 rw[i];split
 .exact h
 .rename_i f;rw[List.nodup_append];refine⟨h,by simp,λa g b d=>?_⟩;rw[List.mem_singleton]at d;rintro rfl;exact f (d▸g)
theorem QfE{l m:List Int}(h:l.Perm m):QaH ltI l=QaH ltI m:=
 QaF ((QD ltI l).trans (h.trans (QD ltI m).symm)) (λx _ y _ a b=>by simp[ltI]at*;omega) (Yx (QcA l)) (Yx (QcA m))
theorem Qjl{n:Nat}(h:n<=1048576):Nat.ble n QO=true:=XZ (X3 h (by decide))
theorem or2(n:Nat)(a b:Int):F_n (n+3) [a,b]=some (orL [a,b]):=by
 unfold F_n;have f:F_at (n+3) [a,b] 0=bif a != 0 then some (.done (.done a))else some (.cont 1):=rfl
 have d:F_at (n+3) [a,b] 1=bif b != 0 then some (.done (.done b))else some (.cont 2):=rfl
 have e:F_at (n+3) [a,b] 2=some (.done (.cont ())):=rfl;unfold orL orL orL;rw[iter,f];cases q:(a != 0)with
 |true=>rfl
 |false=>
  simp only[cond_false];rw[iter,d];cases g:(b != 0)with
  |true=>rfl
  |false=>
   simp only[cond_false];rw[iter,e];rfl
set_option maxRecDepth 4000
section
variable {α:Type}{c d:α->α->Int}
end
theorem Qh7{c:Course}(h:Course.wf c):CourseOk c:=by
 obtain⟨g,⟨p,d⟩,⟨f,s⟩,⟨e,b⟩,⟨m,q⟩,⟨j,l⟩,⟨k,i⟩,⟨n,r⟩,_⟩:=h;exact⟨g,p,λx a=>(d x a).1,f,e,λx a=>(b x a).1,λx a=>(b x a).2.2.2.1.1,m,λx a=>(q x a).1,j,λx a=>(l x a).1,k,λx a=>(i x a).1,n⟩
theorem QiM{c:Course}(h:Course.wf c):PartsOk c:=by
 obtain⟨_,_,_,⟨e,b⟩,_⟩:=h;exact⟨λd a=>(b d a).2.1.1,λd a=>(b d a).2.1.2⟩
theorem Qni{c:Course}(h:Course.wf c):c.Ties.length<=1048576/\ ∀x∈c.Ties,Step.wf x:=by
 obtain⟨_,_,_,_,_,_,_,_,a,_⟩:=h;exact a
def EvL{S T B:Type}(step:Nat->S->Option (List T×Ctl S B))(s:S)(r:List T×B):Prop:=∃N,∀n k,N<=n->N<=k->Qbu (step n) k s=some r
theorem EvL.done{S T B:Type}{step:Nat->S->Option (List T×Ctl S B)}{s:S}{z:List T}{b:B}(h:Ev (λn=>step n s) (z,.done b)):EvL step s (z,b):=by
 obtain⟨N,h⟩:=h;refine⟨N+1,λn k d a=>?_⟩;obtain⟨j,rfl⟩:∃j,k=j+1:=⟨k-1,by omega⟩;simp only[Qbu,h n (by omega),XQ]
theorem EvL.cont{S T B:Type}{step:Nat->S->Option (List T×Ctl S B)}{s s':S}{z a:List T}{b:B}(h:Ev (λn=>step n s) (z,.cont s'))(q:EvL step s' (a,b)):EvL step s (z++a,b):=by
 obtain⟨N,h⟩:=h;obtain⟨M,q⟩:=q;refine⟨max N M+1,λn k e d=>?_⟩;obtain⟨j,rfl⟩:∃j,k=j+1:=⟨k-1,by omega⟩;simp only[Qbu,h n (by omega),XQ,q n j (by omega) (by omega)]
theorem EvL.ev{S T B:Type}{step:Nat->S->Option (List T×Ctl S B)}{s:S}{r:List T×B}(h:EvL step s r):Ev (λn=>Qbu (step n) n s) r:=by
 obtain⟨N,h⟩:=h;exact⟨N,λn a=>h n n a a⟩
theorem EvL.eq{S T B:Type}{step:Nat->S->Option (List T×Ctl S B)}{s:S}{r r':List T×B}(h:EvL step s r)(e:r=r'):EvL step s r':=e▸h
theorem QaA(p:Nat->Bool):∀k,(∀i,i<k->p i=true)\/ ∃j,j<k/\p j=false/\ ∀i,i<j->p i=true
 |0=>.inl λi h=>absurd h (Xo _)
 |k+1=>by
  rcases QaA p k with h|⟨j,h1,h2,h3⟩
  .cases q:p k with
   |true=>exact .inl λi hi=>(Xq.1 hi).elim (h i) λe=>e▸q
   |false=>exact .inr ⟨k,Xp _,q,h⟩
  .exact .inr ⟨j,by omega,h2,h3⟩
theorem QjU{p:Nat->Bool}{k:Nat}:(List.range k).all p=true↔ ∀i,i<k->p i=true:=by simp[Xw]
theorem Yf{B:Type}{step:Nat->Int->Option (Ctl Int B)}(k:Nat)(p:Nat->Bool)(g b:B)
  (e:∀i,i<k->Ev (λn=>step n (i:Int)) (bif p i then .cont ((i+1:Nat):Int)else .done g))(m:Ev (λn=>step n (k:Int)) (.done b)):
  Ev (λn=>Go.Sw.iter (step n) n 0) (bif (List.range k).all p then b else g):=by
 rcases QaA p k with h|⟨j,f,d,l⟩
 .rw[QjU.2 h];exact Ew (λi=>(i:Int)) k rfl (λi a=>(e i a).eq (by rw[h i a];rfl)) m
 .have:(List.range k).all p=false:=by
   rw[Bool.eq_false_iff];intro q;rw[QjU.1 q j f]at d;cases d
  rw[this];exact Ew (λi=>(i:Int)) j rfl (λi a=>(e i (by omega)).eq (by rw[l i a];rfl)) ((e j f).eq (by rw[d];rfl))
theorem atN{α:Type}{l:List α}{i:Nat}(hl:l.length<=1048576)(hi:i<l.length):At l i l[i]:=Jl (by omega) (XR hi)
theorem QZ{n:Nat}(h:n<=1048576):IntKind.i64.wrap ((n:Int)+1)=((n+1:Nat):Int):=QaB (by omega)
def segLt(x y:Segment):Bool:=decide (x.Mat<y.Mat)||((x.Mat==y.Mat)&&decide (x.Epoch<y.Epoch))
def cmpSeg(x y:Segment):Int:=orL [cmpI x.Mat y.Mat,cmpI x.Epoch y.Epoch]
theorem Qks(x y:Segment):decide (0<=cmpSeg x y)= !segLt x y:=by
 unfold cmpSeg segLt orL orL orL cmpI;by_cases a:x.Mat<y.Mat
 .simp[a]
 .by_cases b:y.Mat<x.Mat
  .have:¬x.Mat=y.Mat:=by omega
   simp[a,b,this]
  .have:x.Mat=y.Mat:=by omega
   by_cases d:x.Epoch<y.Epoch
   .simp[a,b,this,d]
   .by_cases e:y.Epoch<x.Epoch
    .simp[a,b,this,d,e]
    .simp[a,b,this,d,e]
theorem QeR(a b:Int):Ev (λn=>F_e n a b) (cmpI a b):=QcW (Qa _) λn=>Qjp n a b
theorem Qhz(x y:Segment):Ev (λn=>F_bg n x y) (cmpSeg x y):=by
 unfold F_bg F_fd;exact Ea (Ea (QeR _ _) (Ea (QeR _ _) (Ea (Qos _ (by simp)) (Qa _)))) (Qa _)
def timeB(x:Int):Bool:=inR (-1099511627776) 1099511627776 x
theorem Qkc(x:Int):Ev (λn=>F_bm n x) (timeB x):=by
 unfold F_bm timeB inR;exact Ea (Ei λ_=>Qa _) (Qa _)
def prevSeg(c:Clocks)(i:Nat)(x:Segment):Bool:=decide (0<(i:Int))&& !(match c.Segments[i-1]? with|some y=>segLt y x|none=>true)
def segBad(c:Clocks)(i:Nat)(x:Segment):Bool:=decide (x.Mat<0)||(decide (40<=x.Mat)||(decide (x.Epoch<0)||(decide (255<x.Epoch)||(!timeB x.Anchor||prevSeg c i x))))
def segsB(c:Clocks):Bool:=(List.range c.Segments.length).all λi=>match c.Segments[i]? with|some x=> !segBad c i x|none=>true
theorem Qey{α:Type}{l:List α}{i:Nat}{y:α}(d:l.length<=1048576)(b:0<i)(a:i<=l.length)(h:l[i-1]?=some y):idx l (IntKind.i64.wrap ((i:Int)-1))=some y:=by
 rw[QJ (by omega) (by omega),show((i:Int)-1)=((i-1:Nat):Int)by omega];exact Qm h
theorem QnI(c:Clocks)(f:c.Segments.length<=1048576):Ev (λn=>iter (F_hx n c) n 0) (bif segsB c then Ctl.cont ()else Ctl.done 160):=by
 unfold segsB;refine Yf c.Segments.length _ _ _ (λi j=>?_) ?_
 .have a:=atN f j;unfold F_hx;simp only[a.lt,cond_true,a.ix,XQ,a.nx,a.get];have:Ev (λn=>((bif decide ((c.Segments[i]).Mat<0)then some true else(bif decide (40<=(c.Segments[i]).Mat)then some true else(bif decide ((c.Segments[i]).Epoch<0)then some true else(bif decide (255<(c.Segments[i]).Epoch)then some true else(F_bm n (c.Segments[i]).Anchor).bind λb=>(bif (!b)then some true else(bif decide (0<(i:Int))then(idx c.Segments (IntKind.i64.wrap ((i:Int)-1))).bind λe=>(F_bg n e (c.Segments[i])).bind λd=>some (decide (0<=d))else some false)))))):Option Bool)) (segBad c i (c.Segments[i])):=by
   unfold segBad;refine Qi λ_=>Qi λ_=>Qi λ_=>Qi λ_=>Ea (Qkc _) (Qi λ_=>?_);unfold prevSeg;refine Ei λh=>?_;have k:0<i:=by have:=of_decide_eq_true h;omega
   have g:i-1<c.Segments.length:=by omega
   rw[Qey f k (by omega) (XR g),XR g];simp only[XQ];exact Ea (Qhz _ _) ((Qa _).eq (Qks _ _))
  refine Ea this ?_;cases segBad c i (c.Segments[i])<;>exact Qa _
 .unfold F_hx;simp only[YD,cond_false];exact Qa _
def farBad(x:Int):Bool:=decide (x< -2199023255552)||decide (2199023255552<x)
theorem Qkf(l:List Int)(a:l.length<=1048576):Ev (λn=>F_bl n l) (l.any farBad):=by
 unfold F_bl F_fw;refine Ev.contains l farBad (λn x=>F_ax n x) (by omega) λx _=>?_;unfold F_ax farBad;exact Ea (Qi λ_=>Qa _) (Qa _)
def rowB(c:Clocks)(i:Nat)(r:List Int):Bool:= !(((r.length:Int) != ((c.Segments.length+1:Nat):Int))||((r[i]?.getD 1 != 0)||r.any farBad))
def rowsB(c:Clocks):Bool:=(List.range c.Far.length).all λi=>match c.Far[i]? with|some r=>rowB c i r|none=>true
theorem QnL(c:Clocks)(h0:c.Segments.length<=1048576)(j:c.Far.length<=1048576)(k:∀r∈c.Far,r.length<=1048576)(l:c.Far.length=c.Segments.length+1):
  Ev (λn=>iter (F_ik n c) n 0) (bif rowsB c then Ctl.cont ()else Ctl.done 160):=by
 unfold rowsB;refine Yf c.Far.length _ _ _ (λi g=>?_) ?_
 .have a:=atN j g;unfold F_ik;simp only[a.lt,cond_true,a.ix,XQ,a.nx,a.get,QZ h0];have:Ev (λn=>((bif (((c.Far[i]).length:Int) != ((c.Segments.length+1:Nat):Int))then some true else(idx (c.Far[i]) (i:Int)).bind λe=>(bif (e != 0)then some true else(F_bl n (c.Far[i])).bind λb=>some b)):Option Bool)) (!rowB c i (c.Far[i])):=by
   unfold rowB;rw[Bool.not_not];refine Qi λh=>?_;have f:(c.Far[i]).length=c.Segments.length+1:=by
    have:((c.Far[i]).length:Int)=((c.Segments.length+1:Nat):Int):=by simpa[bne]using h
    omega
   have d:i<(c.Far[i]).length:=by omega
   rw[Qm (XR d),XR d];simp only[XQ,Option.getD_some];exact Qi λ_=>Ea (Qkf _ (k _ a.mem)) (Qa _)
  refine Ea this ?_;cases rowB c i (c.Far[i])<;>exact Qa _
 .unfold F_ik;simp only[YD,cond_false];exact Qa _
def farG(c:Clocks)(i j:Nat):Int:=((c.Far[i]?.getD [])[j]?).getD 0
structure Dims (c:Clocks):Prop where
 segs:c.Segments.length<=511
 far:c.Far.length=c.Segments.length+1
 row:∀i,i<c.Far.length->(c.Far[i]?.getD []).length=c.Segments.length+1
theorem Dims.get{c:Clocks}(d:Dims c){i j:Nat}(b:i<c.Segments.length+1)(e:j<c.Segments.length+1):c.Far[i]?=some (c.Far[i]?.getD [])/\(c.Far[i]?.getD [])[j]?=some (farG c i j):=by
 have a:i<c.Far.length:=by rw[d.far];exact b
 have f:=d.row i a;refine⟨by rw[XR a];rfl,?_⟩;unfold farG;have:j<(c.Far[i]?.getD []).length:=by omega
 rw[XR this];rfl
def triB(c:Clocks):Bool:=(List.range (c.Segments.length+1)).all λi=>(List.range (c.Segments.length+1)).all λj=>(List.range (c.Segments.length+1)).all λk=> !decide (IntKind.i64.wrap (farG c i j+farG c j k)<farG c i k)
theorem ltN{a b:Nat}(h:a<b):decide ((a:Int)<(b:Int))=true:=decide_eq_true (by omega)
theorem geN{a b:Nat}(h:b<=a):decide ((a:Int)<(b:Int))=false:=decide_eq_false (by omega)
theorem Qpe(c:Clocks)(d:Dims c):Ev (λn=>iter (F_if n c) n 0) (bif triB c then Ctl.cont ()else Ctl.done 160):=by
 have r:=d.segs;unfold triB;refine Yf (c.Segments.length+1) _ _ _ (λi a=>?_) ?_
 .unfold F_if;have g:=(d.get a a).1;have h:=d.row i (by rw[d.far];exact a);simp only[QZ (show c.Segments.length<=1048576 by omega),ltN a,cond_true,Qm g,XQ,QZ (show i<=1048576 by omega)];refine Ea (Yf (c.Segments.length+1) (λj=>(List.range (c.Segments.length+1)).all λk=> !decide (IntKind.i64.wrap (farG c i j+farG c j k)<farG c i k)) (Ctl.done (Ctl.done (Ctl.done 160))) (Ctl.cont ()) (λj b=>?_) ?_) ?_
  .unfold F_km;have p:=(d.get a b).2;have l:=(d.get b b).1;have e:=d.row j (by rw[d.far];exact b);simp only[h,ltN b,cond_true,Qm p,Qm l,XQ,QZ (show j<=1048576 by omega)];refine Ea (Yf (c.Segments.length+1) (λk=> !decide (IntKind.i64.wrap (farG c i j+farG c j k)<farG c i k)) (Ctl.done (Ctl.done (Ctl.done (Ctl.done (Ctl.done 160))))) (Ctl.cont ()) (λk f=>?_) ?_) ?_
   .unfold F_kc;have m:=(d.get b f).2;have q:=(d.get a f).2;simp only[e,ltN f,cond_true,Qm m,Qm g,Qm q,XQ,QZ (show k<=1048576 by omega)];cases decide (IntKind.i64.wrap (farG c i j+farG c j k)<farG c i k)<;>exact Qa _
   .unfold F_kc;simp only[e,geN (X0 _),cond_false];exact Qa _
   .cases(List.range (c.Segments.length+1)).all λk=> !decide (IntKind.i64.wrap (farG c i j+farG c j k)<farG c i k)<;>exact Qa _
  .unfold F_km;simp only[h,geN (X0 _),cond_false];exact Qa _
  .cases(List.range (c.Segments.length+1)).all λj=>(List.range (c.Segments.length+1)).all λk=> !decide (IntKind.i64.wrap (farG c i j+farG c j k)<farG c i k)<;>exact Qa _
 .unfold F_if;simp only[QZ (show c.Segments.length<=1048576 by omega),geN (X0 _),cond_false];exact Qa _
def clkB(c:Clocks):Bool:= !(decide (511<(c.Segments.length:Int))||((c.Far.length:Int) != ((c.Segments.length+1:Nat):Int)))&&(segsB c&&(rowsB c&&triB c))
structure ClkW (c:Clocks):Prop where
 segs:c.Segments.length<=1048576
 far:c.Far.length<=1048576
 row:∀r∈c.Far,r.length<=1048576
theorem QgA{c:Clocks}(f:¬511<(c.Segments.length:Int))(b:c.Far.length=c.Segments.length+1)(d:rowsB c=true):Dims c:=by
 refine⟨by omega,b,λi a=>?_⟩;have:=QjU.1 d i a;rw[XR a]at this⊢;simp only[rowB,Bool.not_eq_true',X5]at this;have e:((c.Far[i]).length:Int)=((c.Segments.length+1:Nat):Int):=by simpa[bne]using this.1
 simp only[Option.getD_some];omega
theorem Qms(c:Clocks)(w:ClkW c):Ev (λn=>F_av n c) (bif clkB c then 0 else 160):=by
 unfold F_av clkB;simp only[QZ w.segs];refine Ea (Qi λ_=>Qa _) ?_;cases a:(decide (511<(c.Segments.length:Int))||((c.Far.length:Int) != ((c.Segments.length+1:Nat):Int)))with
 |true=>exact Qa _
 |false=>
  simp only[Xi,Bool.true_and,X5,decide_eq_false_iff_not]at a⊢;have b:c.Far.length=c.Segments.length+1:=by
   have:(c.Far.length:Int)=((c.Segments.length+1:Nat):Int):=by simpa[bne]using a.2
   omega
  refine Q6 (Ea (QnI c w.segs) ?_);cases segsB c with
  |false=>exact Qa _
  |true=>
   refine Ea (QnL c w.segs w.far w.row b) ?_;cases d:rowsB c with
   |false=>exact Qa _
   |true=>
    refine Ea (Qpe c (QgA a.1 b d)) ?_;cases triB c<;>exact Qa _
theorem Qku{c:Clocks}(h:clkB c=true):Dims c:=by
 simp only[clkB,X4,Bool.not_eq_true',X5,decide_eq_false_iff_not]at h;have a:c.Far.length=c.Segments.length+1:=by
  have:(c.Far.length:Int)=((c.Segments.length+1:Nat):Int):=by simpa[bne]using h.1.2
  omega
 exact QgA h.1.1 a h.2.2.1
theorem QgQ{S B:Type}{step:Nat->S->Option (Ctl S B)}{s0:S}(a:Nat->S)(k:Nat)(p:Nat->Bool)(m b:B)(h0:a 0=s0)
  (f:∀i,i<k->(∀j,j<i->p j=true)->Ev (λn=>step n (a i)) (bif p i then .cont (a (i+1))else .done m))(s:(∀j,j<k->p j=true)->Ev (λn=>step n (a k)) (.done b)):
  Ev (λn=>Go.Sw.iter (step n) n s0) (bif (List.range k).all p then b else m):=by
 rcases QaA p k with h|⟨j,l,g,e⟩
 .rw[QjU.2 h];exact Ew a k h0 (λi d=>(f i d λj r=>h j (by omega)).eq (by rw[h i d];rfl)) (s h)
 .have:(List.range k).all p=false:=by
   rw[Bool.eq_false_iff];intro q;rw[QjU.1 q j l]at g;cases g
  rw[this];exact Ew a j h0 (λi d=>(f i (by omega) λj r=>e j (by omega)).eq (by rw[e i d];rfl)) ((f j l e).eq (by rw[g];rfl))
structure FewF (f:Field):Prop where
 runs:f.Runners.length<=6
 pairs:f.Pairs.length<=3
 segs:f.Clocks.Segments.length<=4
 far:f.Clocks.Far.length<=6
 row:∀r∈f.Clocks.Far,r.length<=8
 keys:∀r∈f.Runners,r.Keys.length<=5
 wlds:∀r∈f.Runners,r.Worlds.length<=4
 outs:∀r∈f.Runners,∀w∈r.Worlds,w.length<=4
theorem FewF.clk{f:Field}(h:FewF f):ClkW f.Clocks:=⟨by have:=h.segs;omega,by have:=h.far;omega,λr hr=>by have:=h.row r hr;omega⟩
def fineO(c:Clocks)(x:Outcome):Bool:=decide (-1<=x.Seg)&&(decide (x.Seg<(c.Segments.length:Int))&&(decide (-288230376151711744<=x.Lo)&&(decide (x.Lo<=x.Hi)&&decide (x.Hi<=288230376151711744))))
def outB(c:Clocks)(x:Outcome):Bool:=bif x.Out then x==({Out:=true,Seg:=(-1),Lo:=0,Hi:=0:Outcome})else fineO c x
theorem QhB(c:Clocks)(w:ClkW c)(h:clkB c=true)(x:Outcome):Ev (λn=>F_de n c x) (bif outB c x then 0 else 230):=by
 unfold F_de;refine Ea (Qms c w) ?_;rw[h];refine Q6 (Ea (v:=fineO c x) (Ei λ_=>Ei λ_=>Ei λ_=>Ei λ_=>Qa _) ?_);refine Ea (v:=outB c x) ?_ ?_
 .unfold outB F_gu;exact Ym (λ_=>Ea (Qa _) (Qa _)) (λ_=>Qa _)
 .cases outB c x<;>exact Qa _
def pairBad(p last:Pair):Bool:=decide (p.A<1)||(decide (p.B<=p.A)||(decide (9999<p.B)||(decide (p.A<last.A)||((p.A==last.A)&&decide (p.B<=last.B)))))
def lastP(f:Field):Nat->Pair
 |0=>{A:=0,B:=0}
 |j+1=>(f.Pairs[j]?).getD {A:=0,B:=0}
def pairsB(f:Field):Bool:=(List.range f.Pairs.length).all λi=> !pairBad (lastP f (i+1)) (lastP f i)
theorem Qke(f:Field)(b:f.Pairs.length<=1048576):Ev (λn=>iter (F_il n f) n ({A:=0,B:=0:Pair},0)) (bif pairsB f then Ctl.cont ()else Ctl.done 240):=by
 unfold pairsB;refine QgQ (λi=>(lastP f i,(i:Int))) f.Pairs.length _ _ _ rfl (λi hi _=>?_) (λ_=>?_)
 .have a:=atN b hi;have e:lastP f (i+1)=f.Pairs[i]:=by show(f.Pairs[i]?).getD _=_;rw[XR hi];rfl
  unfold F_il;simp only[a.lt,cond_true,a.ix,XQ,a.nx,e];refine Ea (v:=pairBad f.Pairs[i] (lastP f i)) ?_ ?_
  .unfold pairBad;exact Qi λ_=>Qi λ_=>Qi λ_=>Qi λ_=>Ei λ_=>Qa _
  .cases pairBad f.Pairs[i] (lastP f i)<;>exact Qa _
 .unfold F_il;simp only[YD,cond_false];exact Qa _
theorem Qkl(l:List (List Outcome))(j:l.length<=1048576)(k:l.flatten.length<=1048576):Ev (λn=>F_ca n l) l.flatten:=by
 have b:∀i,((l.take i).flatten).length<=l.flatten.length:=by
  intro i
  conv=>rhs;rw[<- XF i l]
  rw[Xv,Va];omega
 have a:∀i x,At l i x->(l.take (i+1)).flatten=(l.take i).flatten++x:=by
  intro i x d;rw[d.take,Xv];simp
 unfold F_ca;refine Ea (v:=(l.flatten.length:Int)) ?_ (Ea (v:=[]) ?_ (Ea (v:=l.flatten) ?_ (Qa _)))
 .refine(Ew (λi=>((((l.take i).flatten).length:Int),(i:Int))) l.length rfl (λi f=>?_) ?_)
  .have d:=atN j f;have h:=b (i+1);rw[a i _ d,Va]at h;have e:IntKind.i64.wrap ((((l.take i).flatten).length:Int)+((l[i]).length:Int))=((((l.take i).flatten).length+(l[i]).length:Nat):Int):=by rw[QJ (by omega) (by omega)];omega
   unfold F_jm;simp only[d.lt,cond_true,d.ix,XQ,d.nx,e,Q3 (show¬((((l.take i).flatten).length+(l[i]).length:Nat):Int)<0 by omega),cond_false];rw[a i _ d,Va];exact Qa _
  .unfold F_jm;simp only[YD,cond_false,Vh];exact Qa _
 .unfold F_hj;simp only[Q3 (show¬(l.flatten.length:Int)<0 by omega),cond_false,XQ,Int.sub_zero];have e:IntKind.i64.wrap (l.flatten.length:Int)=(l.flatten.length:Int):=QJ (by omega) (by omega);rw[e];by_cases g:0<(l.flatten.length:Int)
  .rw[Yp g];have:room (l.flatten.length:Int)=some l.flatten.length:=by
    unfold room;rw[Yp g,Yp (show(l.flatten.length:Int)<=4294967296 by omega)];rfl
   rw[this];exact Qa _
  .rw[Q3 g];exact Qa _
 .refine(Ew (λi=>((l.take i).flatten,(i:Int))) l.length rfl (λi f=>?_) ?_)
  .have d:=atN j f;have h:=b (i+1);rw[a i _ d,Va]at h;unfold F_kh;simp only[d.lt,cond_true,d.ix,XQ,d.nx,QdW _ _ (show((l.take i).flatten).length+(l[i]).length<=4294967296 by omega)];rw[a i _ d];exact Qa _
  .unfold F_kh;simp only[YD,cond_false,Vh];exact Qa _
def lastB(f:Field):Nat->Int
 |0=>0
 |j+1=>((f.Runners[j]?).map (·.Bib)).getD 0
def keys0(f:Field):Nat:=((f.Runners[0]?).map (·.Keys.length)).getD 0
def runBad(f:Field)(last:Int)(r:Runner):Bool:=decide (r.Bib<=last)||(decide (9999<r.Bib)||(((r.Keys.length:Int) != (keys0 f:Int))||((r.Worlds.length:Int) != ((f.Pairs.length+1:Nat):Int))))
def runB(f:Field)(i:Nat):Bool:=match f.Runners[i]? with
 |some r=> !runBad f (lastB f i) r&&r.Worlds.flatten.all (outB f.Clocks)
 |none=>true
def runsB(f:Field):Bool:=(List.range f.Runners.length).all (runB f)
theorem QnC{l:List (List Outcome)}(h:∀w∈l,w.length<=4):l.flatten.length<=4*l.length:=by
 induction l with
 |nil=>simp
 |cons w r b=>
  have e:=h w (Vc ..);have d:=b λx a=>h x (Vd _ a);rw[Vt,Va,X8];omega
theorem QnJ(f:Field)(k:FewF f)(h:clkB f.Clocks=true):Ev (λn=>iter (F_ii n f) n (0,0)) (bif runsB f then Ctl.cont ()else Ctl.done 240):=by
 have r:=k.runs;have p:=k.pairs;unfold runsB;refine QgQ (λi=>(lastB f i,(i:Int))) f.Runners.length _ _ _ rfl (λi hi _=>?_) (λ_=>?_)
 .have a:=atN (by omega) hi;have e:lastB f (i+1)=(f.Runners[i]).Bib:=by show((f.Runners[i]?).map (·.Bib)).getD 0=_;rw[XR hi];rfl
  have l:0<f.Runners.length:=by omega
  have d:idx f.Runners 0=some f.Runners[0]:=Qm (i:=0) (XR l);have b:keys0 f=(f.Runners[0]).Keys.length:=by unfold keys0;rw[XR l];rfl
  unfold F_ii runB;rw[a.get];simp only[a.lt,cond_true,a.ix,XQ,a.nx,d,QZ (show f.Pairs.length<=1048576 by omega)];refine Ea (v:=runBad f (lastB f i) f.Runners[i]) ?_ ?_
  .unfold runBad;rw[b];exact Qi λ_=>Qi λ_=>Qi λ_=>Qa _
  .cases runBad f (lastB f i) f.Runners[i]with
   |true=>exact Qa _
   |false=>
    have q:=k.wlds _ a.mem;have m:=QnC (k.outs _ a.mem);simp only[cond_false,Xi,Bool.true_and];refine Ea (Qkl _ (by omega) (by omega)) ?_;refine Ea (Yg (f.Runners[i]).Worlds.flatten (outB f.Clocks) (Ctl.done (Ctl.done (Ctl.done 240))) (Ctl.cont ()) (by omega) (λj x g=>?_) ?_) ?_
    .unfold F_kf;simp only[g.lt,cond_true,g.ix,XQ,g.nx];refine Ea (QhB _ k.clk h x) ?_;cases outB f.Clocks x<;>exact Qa _
    .unfold F_kf;simp only[YD,cond_false];exact Qa _
    .cases(f.Runners[i]).Worlds.flatten.all (outB f.Clocks)with
     |false=>exact Qa _
     |true=>simp only[cond_true, <- e];exact Qa _
 .unfold F_ii;simp only[YD,cond_false];exact Qa _
def wld(r:Runner)(w:Nat):List Outcome:=(r.Worlds[w]?).getD []
def openW(f:Field)(w:Nat):Bool:= !(f.Runners.any λr=>(wld r w).isEmpty)
def possB(f:Field):Bool:=(List.range (f.Pairs.length+1)).any (openW f)
def WldOk(f:Field):Prop:=∀r∈f.Runners,r.Worlds.length=f.Pairs.length+1
theorem Qc0{f:Field}(h:WldOk f){r:Runner}(b:r∈f.Runners){w:Nat}(a:w<f.Pairs.length+1):idx r.Worlds (w:Int)=some (wld r w):=by
 have:w<r.Worlds.length:=by rw[h r b];exact a
 unfold wld;rw[Qm (XR this),XR this];rfl
theorem Qip(f:Field)(k:FewF f)(h:WldOk f){w:Nat}(b:w<f.Pairs.length+1):Ev (λn=>F_du n f.Runners (w:Int)) (f.Runners.any λr=>(wld r w).isEmpty):=by
 have d:=k.runs;unfold F_du F_fk;refine Ev.contains f.Runners (λr=>(wld r w).isEmpty) (λn x=>F_bj n x (w:Int)) (by omega) λx a=>?_;unfold F_bj;rw[Qc0 h a b];exact Ea (Qa _) ((Qa _).eq (QaG _))
theorem QdX{α:Type}(l:List α)(p:α->Bool):(l.all λx=> !p x)= !l.any p:=by rw[List.not_any_eq_all_not]
theorem Qmo(f:Field)(k:FewF f)(h:WldOk f):Ev (λn=>F_ci n f) (possB f):=by
 have b:=k.pairs;unfold F_ci;have:Ev (λn=>iter (F_ix n f) n 0) (bif (List.range (f.Pairs.length+1)).all (λi=> !openW f i)then Ctl.cont ()else Ctl.done true):=by
  refine Yf (f.Pairs.length+1) _ _ _ (λi a=>?_) ?_
  .unfold F_ix;simp only[QZ (show f.Pairs.length<=1048576 by omega),ltN a,cond_true,QZ (show i<=1048576 by omega)];refine Ea (Qip f k h a) ?_;unfold openW;cases f.Runners.any λr=>(wld r i).isEmpty<;>exact Qa _
  .unfold F_ix;simp only[QZ (show f.Pairs.length<=1048576 by omega),geN (X0 _),cond_false];exact Qa _
 refine Ea this ?_;unfold possB;rw[QdX];cases(List.range (f.Pairs.length+1)).any (openW f)<;>exact Qa _
def fieldB(f:Field):Bool:=(clkB f.Clocks&& !(decide (16<(f.Pairs.length:Int))||(decide ((f.Runners.length:Int)<1)||decide (4000<(f.Runners.length:Int)))))&&(pairsB f&&(runsB f&&possB f))
theorem Qeb{f:Field}(h:runsB f=true):WldOk f:=by
 intro r b;obtain⟨i,a,e⟩:=List.mem_iff_getElem.1 b;have:=QjU.1 h i a;unfold runB at this;rw[XR a,e]at this;simp only[runBad,X4,Bool.not_eq_true',X5]at this;have q:(r.Worlds.length:Int)=((f.Pairs.length+1:Nat):Int):=by simpa[bne]using this.1.2.2.2
 omega
theorem QeQ(f:Field)(k:FewF f):Ev (λn=>F_y n f) (bif fieldB f then 0 else 240):=by
 unfold F_y fieldB;refine Ea (v:= !(clkB f.Clocks&& !(decide (16<(f.Pairs.length:Int))||(decide ((f.Runners.length:Int)<1)||decide (4000<(f.Runners.length:Int)))))) ?_ ?_
 .refine Ea (Qms _ k.clk) ?_;cases clkB f.Clocks with
  |false=>exact Qa _
  |true=>
   simp only[Bool.true_and,Bool.not_not];exact Q6 (Qi λ_=>Qi λ_=>Qa _)
 .cases a:clkB f.Clocks&& !(decide (16<(f.Pairs.length:Int))||(decide ((f.Runners.length:Int)<1)||decide (4000<(f.Runners.length:Int))))with
  |false=>exact Qa _
  |true=>
   have d:clkB f.Clocks=true:=by simp only[X4]at a;exact a.1
   simp only[Xh,cond_false,Bool.true_and];refine Ea (Qke f (by have:=k.pairs;omega)) ?_;cases pairsB f with
   |false=>exact Qa _
   |true=>
    refine Ea (QnJ f k d) ?_;cases b:runsB f with
    |false=>exact Qa _
    |true=>
     refine Ea (Qmo f k (Qeb b)) ?_;cases possB f<;>exact Qa _
structure FieldOk (f:Field):Prop where
 few:FewF f
 dims:Dims f.Clocks
 wlds:WldOk f
 outs:∀r∈f.Runners,∀w x,x∈wld r w->outB f.Clocks x=true
 ok:fieldB f=true
theorem Qnm{f:Field}(h:runsB f=true){r:Runner}(b:r∈f.Runners):r.Worlds.flatten.all (outB f.Clocks)=true:=by
 obtain⟨i,a,e⟩:=List.mem_iff_getElem.1 b;have:=QjU.1 h i a;unfold runB at this;rw[XR a,e]at this;simp only[X4]at this;exact this.2
theorem Qcm{f:Field}(k:FewF f)(h:fieldB f=true):FieldOk f:=by
 have d:=h;simp only[fieldB,X4]at d;obtain⟨⟨e,_⟩,_,b,_⟩:=d;refine⟨k,Qku e,Qeb b,λr g w x a=>?_,h⟩;refine Xw.1 (Qnm b g) x ?_;unfold wld at a;cases q:r.Worlds[w]? with
 |none=>rw[q]at a;cases a
 |some l=>rw[q]at a;exact List.mem_flatten.2 ⟨l,List.mem_of_getElem? q,a⟩
theorem Qng{f:Field}(o:FieldOk f){r:Runner}(a:r∈f.Runners)(w:Nat):(wld r w).length<=4:=by
 unfold wld;cases q:r.Worlds[w]? with
 |none=>simp
 |some l=>exact o.few.outs r a l (List.mem_of_getElem? q)
def worldsN(f:Field):List Nat:=(List.range (f.Pairs.length+1)).filter (openW f)
theorem QhC(f:Field)(k:FewF f)(h:WldOk f){w:Nat}(b:w<f.Pairs.length+1):Ev (λn=>F_el n f.Runners (w:Int)) (f.Runners.any λr=>(wld r w).isEmpty):=by
 have d:=k.runs;unfold F_el F_fh;refine Ev.contains f.Runners (λr=>(wld r w).isEmpty) (λn x=>F_bc n x (w:Int)) (by omega) λx a=>?_;unfold F_bc;rw[Qc0 h a b];exact Ea (Qa _) ((Qa _).eq (QaG _))
theorem Qdf(f:Field)(o:FieldOk f):Ev (λn=>F_v n f) ((worldsN f).map (λ(w:Nat)=>(w:Int)),()):=by
 have e:=o.few.pairs;unfold F_v;have loop:∀(m i:Nat),i+m=f.Pairs.length+1->EvL (λn=>F_fs n f) (i:Int) (((List.range' i m).filter (openW f)).map (λ(w:Nat)=>(w:Int)),()):=by
  intro m
  induction m with
  |zero=>
   intro i b;refine EvL.done ?_;unfold F_fs;simp only[QZ (show f.Pairs.length<=1048576 by omega),geN (show f.Pairs.length+1<=i by omega),cond_false];exact Qa _
  |succ m d=>
   intro i b;have a:i<f.Pairs.length+1:=by omega
   have step:Ev (λn=>F_fs n f (i:Int)) ((bif openW f i then[(i:Int)]else[]),Ctl.cont ((i+1:Nat):Int)):=by
    unfold F_fs;simp only[QZ (show f.Pairs.length<=1048576 by omega),ltN a,cond_true,QZ (show i<=1048576 by omega)];refine Ea (QhC f o.few o.wlds a) ?_;unfold openW;cases f.Runners.any λr=>(wld r i).isEmpty<;>exact Qa _
   refine(EvL.cont step (d (i+1) (by omega))).eq ?_;rw[List.range'_succ,Xd];cases openW f i<;>simp
 refine Ea (loop (f.Pairs.length+1) 0 (by omega)).ev ((Qa _).eq ?_);unfold worldsN;rw[List.range_eq_range'];simp
theorem Qb5{f:Field}{w:Nat}(h:w∈worldsN f):w<f.Pairs.length+1/\openW f w=true:=by
 unfold worldsN at h;have:=Xe.1 h;exact⟨by simpa using this.1,this.2⟩
theorem QdS{S T B:Type}{step:Nat->S->T->Option (Ctl S B)}(g:S->T->S):∀(l:List T) (s:S),(∀s,∀x∈l,Ev (λn=>step n s x) (.cont (g s x)))->Ev (λn=>Qbf (step n) l s) (.cont (l.foldl g s))
 |[],s,_=>Qa _
 |x::l,s,h=>Ea (h s x (Vc ..)) (QdS g l (g s x) λs y hy=>h s y (Vd _ hy))
def cmpL:List Int->List Int->Int
 |[],[]=>0
 |[],_::_=> -1
 |_::_,[]=>1
 |x::a,y::b=>bif cmpI x y != 0 then cmpI x y else cmpL a b
theorem Qgz(a b:List Int)(w:a.length<=1048576)(B:b.length<=1048576):Ev (λn=>F_t n a b) (cmpL a b):=by
 unfold F_t;have f:∀(r:List Int) (i:Nat),a.drop i=r->i<=a.length->i<=b.length->∃d:Ctl Unit Int,EvI (λn=>F_eb n a b) (i:Int) d/\(match d with|.cont _=>(bif decide ((a.length:Int)<(b.length:Int))then(-1:Int)else 0)|.done v=>v)=cmpL r (b.drop i):=by
  intro r
  induction r with
  |nil=>
   intro i j p l;refine⟨.cont (),Ej ?_,?_⟩
   .unfold F_eb;simp only[YK j p,cond_false];exact Qa _
   .have e:i=a.length:=by have:=Xu.1 j;omega
    cases q:b.drop i with
    |nil=>
     have:=Xu.1 q;simp only[Q3 (show¬(a.length:Int)<(b.length:Int)by omega),cond_false,cmpL]
    |cons y s=>
     have:i<b.length:=by
      rcases Nat.lt_or_ge i b.length with z|z
      .exact z
      .rw[Xt z]at q;cases q
     simp only[Yp (show(a.length:Int)<(b.length:Int)by omega),cond_true,cmpL]
  |cons x r t=>
   intro i j p l;obtain⟨e,u⟩:=QT (by omega) j;by_cases k:b.length<=i
   .refine⟨.done 1,Ej ?_,?_⟩
    .unfold F_eb;simp only[e.lt,cond_true,e.ix,XQ,Yp (show(b.length:Int)<=(i:Int)by omega)];exact Qa _
    .rw[Xt k];rfl
   .have g:i<b.length:=by omega
    rw[Xs g];cases q:(cmpI x b[i] != 0)with
    |true=>
     refine⟨.done (cmpI x b[i]),Ej ?_,?_⟩
     .unfold F_eb;simp only[e.lt,cond_true,e.ix,XQ,Q3 (show¬(b.length:Int)<=(i:Int)by omega),cond_false,Qm (XR g)];refine Ea (QeR _ _) ?_;rw[q];exact Qa _
     .simp only[cmpL,q,cond_true]
    |false=>
     obtain⟨d,m,h⟩:=t (i+1) u (by have:=e.lt';omega) (by omega);refine⟨d,Eu ?_ m,?_⟩
     .unfold F_eb;simp only[e.lt,cond_true,e.ix,XQ,Q3 (show¬(b.length:Int)<=(i:Int)by omega),cond_false,Qm (XR g),e.nx];refine Ea (QeR _ _) ?_;rw[q];exact Qa _
     .simp only[cmpL,q,cond_false];exact h
 obtain⟨d,m,h⟩:=f a 0 rfl (X2 _) (X2 _);rw[List.drop_zero]at h;refine Ea m.ev ?_;rw[<- h];cases d with
 |done v=>exact Qa _
 |cont _=>exact Ym (λ_=>Qa _) (λ_=>Qa _)
def sg(x:Outcome):Nat:=(x.Seg+1).toNat
theorem Qg0{c:Clocks}{x:Outcome}(d:c.Segments.length<=511)(h:outB c x=true)(a:x.Out=false):sg x<c.Segments.length+1/\IntKind.i64.wrap (x.Seg+1)=(sg x:Int):=by
 unfold outB at h;rw[a]at h;simp only[cond_false,fineO,X4,decide_eq_true_eq]at h;obtain⟨e,b,_⟩:=h;unfold sg;rw[QJ (by omega) (by omega)];omega
def gapD(best:Bool)(c:Clocks)(a b:Nat):Int:=bif best then farG c a b else IntKind.i64.wrap (0-farG c b a)
def keysF(f:Field)(k:Nat):List Int:=((f.Runners[k]?).map (·.Keys)).getD []
def diffD(best:Bool)(c:Clocks)(x y:Outcome):Int:=IntKind.i64.wrap (IntKind.i64.wrap ((bif best then y.Hi else y.Lo)+gapD best c (sg x) (sg y))-(bif best then x.Lo else x.Hi))
def aheadD(best:Bool)(f:Field)(i:Nat)(x:Outcome)(k:Nat)(y:Outcome):Bool:=
 bif y.Out then false else decide (diffD best f.Clocks x y<0)||((diffD best f.Clocks x y==0)&&decide (cmpL (keysF f k) (keysF f i)<0))
theorem QbT{f:Field}{k:Nat}(a:k<f.Runners.length):idx f.Runners (k:Int)=some f.Runners[k]/\keysF f k=(f.Runners[k]).Keys:=by
 unfold keysF;exact⟨Qm (XR a),by rw[XR a];rfl⟩
theorem Qa4{f:Field}(o:FieldOk f){k:Nat}(a:k<f.Runners.length):(f.Runners[k]).Keys.length<=1048576:=by have:=o.few.keys _ (Vl a);omega
theorem Qkn(f:Field)(o:FieldOk f){i k:Nat}(d:i<f.Runners.length)(h:k<f.Runners.length){x y:Outcome}(u:outB f.Clocks x=true)(a:x.Out=false)(p:outB f.Clocks y=true):
  Ev (λn=>F_cf n f (i:Int) x (k:Int) y) (aheadD true f i x k y):=by
 unfold F_cf aheadD;refine Ym (λ_=>Qa _) λb=>?_;have g:=o.dims.segs;obtain⟨m,w⟩:=Qg0 g u a;obtain⟨y1,y2⟩:=Qg0 g p b;obtain⟨s,q⟩:=o.dims.get m y1;have e:∀n,F_er n f.Clocks.Far (sg x:Int) (sg y:Int)=some (farG f.Clocks (sg x) (sg y)):=by
  intro n;unfold F_er;rw[Qm s,XQ,Qm q];rfl
 unfold F_as F_ak;simp only[XQ,w,y2,e];refine Ea (Qi λ_=>Ei λ_=>?_) (Qa _);obtain⟨r,j⟩:=QbT h;obtain⟨l,t⟩:=QbT d;simp only[r,l,XQ,j,t];exact Ea (Qgz _ _ (Qa4 o h) (Qa4 o d)) (Qa _)
theorem Qkm(f:Field)(o:FieldOk f){i k:Nat}(d:i<f.Runners.length)(h:k<f.Runners.length){x y:Outcome}(u:outB f.Clocks x=true)(a:x.Out=false)(p:outB f.Clocks y=true):
  Ev (λn=>F_cq n f (i:Int) x (k:Int) y) (aheadD false f i x k y):=by
 unfold F_cq aheadD;refine Ym (λ_=>Qa _) λb=>?_;have g:=o.dims.segs;obtain⟨m,w⟩:=Qg0 g u a;obtain⟨y1,y2⟩:=Qg0 g p b;obtain⟨s,q⟩:=o.dims.get y1 m;have e:∀n,F_cx n f.Clocks.Far (sg x:Int) (sg y:Int)=some (IntKind.i64.wrap (0-farG f.Clocks (sg y) (sg x))):=by
  intro n;unfold F_cx;rw[Qm s,XQ,Qm q];rfl
 unfold F_as F_ak;simp only[XQ,w,y2,e];refine Ea (Qi λ_=>Ei λ_=>?_) (Qa _);obtain⟨r,j⟩:=QbT h;obtain⟨l,t⟩:=QbT d;simp only[r,l,XQ,j,t];exact Ea (Qgz _ _ (Qa4 o h) (Qa4 o d)) (Qa _)
def wldF(f:Field)(k w:Nat):List Outcome:=((f.Runners[k]?).map (wld · w)).getD []
theorem Qnh{f:Field}{k:Nat}(a:k<f.Runners.length)(w:Nat):wldF f k w=wld f.Runners[k] w:=by
 unfold wldF;rw[XR a];rfl
def chooseR(best:Bool)(f:Field)(w i:Nat)(x:Outcome)(k:Nat):Bool:=bif best then(wldF f k w).all (aheadD true f i x k)else(wldF f k w).any (aheadD false f i x k)
theorem Ev.find{α R:Type}{step:Nat->Int->Option (Ctl Int (Ctl Unit R))}(l:List α)(q:α->Bool)(d:Nat->R)(b:l.length<=1048576)
  (k:∀i x,At l i x->Ev (λn=>step n (i:Int)) (bif q x then .done (.done (d i))else .cont ((i+1:Nat):Int)))(s:Ev (λn=>step n (l.length:Int)) (.done (.cont ()))):
  (l.any q=false/\Ev (λn=>Go.Sw.iter (step n) n 0) (Ctl.cont ()))\/(l.any q=true/\ ∃i,Ev (λn=>Go.Sw.iter (step n) n 0) (Ctl.done (d i))):=by
 let p:Nat->Bool:=λi=>match l[i]? with|some x=> !q x|none=>true
 have f:∀i x,At l i x->p i= !q x:=λi x r=>by show(match l[i]? with|some x=> !q x|none=>true)=_;rw[r.get]
 rcases QaA p l.length with h|⟨j,g,t,m⟩
 .refine .inl ⟨?_,?_⟩
  .rw[Bool.eq_false_iff];intro e;obtain⟨x,w,u⟩:=Xx.1 e;obtain⟨i,a,y⟩:=List.mem_iff_getElem.1 w;have:=f i _ (atN b a);rw[h i a,y,u]at this;cases this
  .refine Ew (λi=>(i:Int)) l.length rfl (λi a=>(k i _ (atN b a)).eq ?_) s;have:=f i _ (atN b a);rw[h i a]at this;have e:q l[i]=false:=by cases z:q l[i]<;>rw[z]at this<;>simp at this⊢
   rw[e];rfl
 .have e:q l[j]=true:=by
   have:=f j _ (atN b g);rw[t]at this;cases z:q l[j]<;>rw[z]at this<;>simp at this⊢
  refine .inr ⟨Xx.2 ⟨l[j],Vl g,e⟩,j,?_⟩;refine Ew (λi=>(i:Int)) j rfl (λi a=>(k i _ (atN b (by omega))).eq ?_) ((k j _ (atN b g)).eq (by rw[e];rfl));have:=f i _ (atN b (by omega));rw[m i a]at this;have e:q l[i]=false:=by cases z:q l[i]<;>rw[z]at this<;>simp at this⊢
  rw[e];rfl
theorem QaO{f:Field}(o:FieldOk f){k w:Nat}(a:k<f.Runners.length)(b:w<f.Pairs.length+1):idx f.Runners (k:Int)=some f.Runners[k]/\idx (f.Runners[k]).Worlds (w:Int)=some (wldF f k w)/\(wldF f k w).length<=4/\ ∀y∈wldF f k w,outB f.Clocks y=true:=by
 rw[Qnh a];exact⟨Qm (XR a),Qc0 o.wlds (Vl a) b,Qng o (Vl a) w,λy d=>o.outs _ (Vl a) w y d⟩
theorem Qiu(f:Field)(o:FieldOk f){i k w:Nat}(p:i<f.Runners.length)(m:k<f.Runners.length)(r:w<f.Pairs.length+1){x:Outcome}(t:outB f.Clocks x=true)(g:x.Out=false):
  ∃a,Ev (λn=>F_bk n f (w:Int) (i:Int) x (k:Int)) (a,chooseR true f w i x k):=by
 obtain⟨s,q,z,u⟩:=QaO o m r;have e:decide ((2:Int)<1)=false:=by decide
 have step:∀j y,At (wldF f k w) j y->Ev (λn=>F_gx n f (i:Int) x (k:Int) (wldF f k w) (j:Int)) (bif !aheadD true f i x k y then .done (.done ((j:Int),false))else .cont ((j+1:Nat):Int)):=by
  intro j y b;unfold F_gx;simp only[b.lt,cond_true,b.ix,XQ,b.nx,e];refine Ea (Qkn f o p m t g (u y b.mem)) ?_;cases aheadD true f i x k y<;>exact Qa _
 have fin:Ev (λn=>F_gx n f (i:Int) x (k:Int) (wldF f k w) ((wldF f k w).length:Int)) (.done (.cont ())):=by
  unfold F_gx;simp only[YD,cond_false];exact Qa _
 have l:chooseR true f w i x k= !((wldF f k w).any λy=> !aheadD true f i x k y):=by
  unfold chooseR;rw[cond_true, <- List.all_eq_not_any_not]
 unfold F_bk F_an;simp only[XQ,s,q];rcases Ev.find (wldF f k w) (λy=> !aheadD true f i x k y) (λj=>((j:Int),false)) (by omega) step fin with⟨d,h⟩|⟨d,j,h⟩
 .exact⟨0,Ea h ((Qa _).eq (by rw[l,d];rfl))⟩
 .exact⟨(j:Int),Ea h ((Qa _).eq (by rw[l,d];rfl))⟩
theorem Qit(f:Field)(o:FieldOk f){i k w:Nat}(p:i<f.Runners.length)(m:k<f.Runners.length)(r:w<f.Pairs.length+1){x:Outcome}(t:outB f.Clocks x=true)(g:x.Out=false):
  ∃a,Ev (λn=>F_bf n f (w:Int) (i:Int) x (k:Int)) (a,chooseR false f w i x k):=by
 obtain⟨s,q,z,u⟩:=QaO o m r;have e:decide ((1:Int)<2)=true:=by decide
 have step:∀j y,At (wldF f k w) j y->Ev (λn=>F_fl n f (i:Int) x (k:Int) (wldF f k w) (j:Int)) (bif aheadD false f i x k y then .done (.done ((j:Int),true))else .cont ((j+1:Nat):Int)):=by
  intro j y b;unfold F_fl;simp only[b.lt,cond_true,b.ix,XQ,b.nx,e];refine Ea (Qkm f o p m t g (u y b.mem)) ?_;cases aheadD false f i x k y<;>exact Qa _
 have fin:Ev (λn=>F_fl n f (i:Int) x (k:Int) (wldF f k w) ((wldF f k w).length:Int)) (.done (.cont ())):=by
  unfold F_fl;simp only[YD,cond_false];exact Qa _
 have l:chooseR false f w i x k=(wldF f k w).any λy=>aheadD false f i x k y:=rfl;unfold F_bf F_af;simp only[XQ,s,q];rcases Ev.find (wldF f k w) (λy=>aheadD false f i x k y) (λj=>((j:Int),true)) (by omega) step fin with⟨d,h⟩|⟨d,j,h⟩
 .exact⟨0,Ea h ((Qa _).eq (by rw[l,d];rfl))⟩
 .exact⟨(j:Int),Ea h ((Qa _).eq (by rw[l,d]))⟩
def cntR(p:Nat->Bool)(k:Nat):Nat:=((List.range k).filter p).length
theorem QaD(p:Nat->Bool)(k:Nat):cntR p (k+1)=cntR p k+(bif p k then 1 else 0):=by
 unfold cntR;rw[Xz,List.filter_append,Va];cases h:p k<;>simp[h]
theorem Qjw(p:Nat->Bool)(k:Nat):cntR p k<=k:=by
 unfold cntR;exact X3 (List.length_filter_le ..) (by simp)
def rivalP(best:Bool)(f:Field)(w i:Nat)(x:Outcome)(k:Nat):Bool:=bif Nat.beq k i then false else chooseR best f w i x k
def rankAt(best:Bool)(f:Field)(w i:Nat)(x:Outcome):Nat:=1+cntR (rivalP best f w i x) f.Runners.length
theorem QfO{step:Nat->Int×Int->Option (Ctl (Int×Int) Int)}{ch:Nat->Int->Option (Int×Bool)}(f:Field)(b:Bool)(w i:Nat)(x:Outcome)(r:f.Runners.length<=6)
  (j:∀n s,step n s=(bif decide (s.2<(f.Runners.length:Int))then((bif (s.2==(i:Int))then some s.1 else(ch n s.2).bind λr1187=>((bif r1187.2 then some (IntKind.i64.wrap (s.1+1))else some s.1):Option Int).bind λb1189=>some b1189):Option Int).bind λb1184=>some (.cont (b1184,IntKind.i64.wrap (s.2+1)))else some (.done s.1)))
  (d:∀k,k<f.Runners.length->k≠i->∃a,Ev (λn=>ch n (k:Int)) (a,chooseR b f w i x k)):
  Ev (λn=>Go.Sw.iter (step n) n (1,0)) ((rankAt b f w i x:Nat):Int):=by
 refine Ew (λk=>(((1+cntR (rivalP b f w i x) k:Nat):Int),(k:Int))) f.Runners.length (by simp[cntR]) (λk l=>?_) ?_
 .refine QcW ?_ λn=>j n _;have p:=Qjw (rivalP b f w i x) k;simp only[ltN l,cond_true,QZ (show k<=1048576 by omega),QaD];by_cases e:k=i
  .have g:((k:Int)==(i:Int))=true:=by rw[e];simp
   have h:rivalP b f w i x k=false:=by unfold rivalP;rw[e,Nat.beq_refl];rfl
   simp only[g,cond_true,XQ,h,cond_false,XC];exact Qa _
  .have g:((k:Int)==(i:Int))=false:=beq_false_of_ne (by omega);have h:rivalP b f w i x k=chooseR b f w i x k:=by
    unfold rivalP;have:Nat.beq k i=false:=by rw[Bool.eq_false_iff];intro q;exact e (XX q)
    rw[this];rfl
   obtain⟨a,m⟩:=d k l e;simp only[g,cond_false,h];refine Ea (Ea m (Ea (v:=((1+(cntR (rivalP b f w i x) k+bif chooseR b f w i x k then 1 else 0):Nat):Int)) ?_ (Qa _))) (Qa _);cases chooseR b f w i x k with
   |false=>exact Qa _
   |true=>
    refine(Qa _).eq ?_;rw[QZ (show 1+cntR (rivalP b f w i x) k<=1048576 by omega)];rfl
 .refine QcW ?_ λn=>j n _;simp only[geN (X0 _),cond_false];exact Qa _
theorem Qmh(f:Field)(o:FieldOk f){i w:Nat}(hi:i<f.Runners.length)(hw:w<f.Pairs.length+1){x:Outcome}(hx:outB f.Clocks x=true)(hxo:x.Out=false):
  Ev (λn=>Go.Sw.iter (F_im n f (i:Int) (w:Int) x) n (1,0)) ((rankAt true f w i x:Nat):Int):=
 QfO (step:=λn=>F_im n f (i:Int) (w:Int) x) (ch:=λn k=>F_bk n f (w:Int) (i:Int) x k) f true w i x o.few.runs (λn s=>by unfold F_im;rfl) λk hk _=>Qiu f o hi hk hw hx hxo
theorem Qmg(f:Field)(o:FieldOk f){i w:Nat}(hi:i<f.Runners.length)(hw:w<f.Pairs.length+1){x:Outcome}(hx:outB f.Clocks x=true)(hxo:x.Out=false):
  Ev (λn=>Go.Sw.iter (F_iu n f (i:Int) (w:Int) x) n (1,0)) ((rankAt false f w i x:Nat):Int):=
 QfO (step:=λn=>F_iu n f (i:Int) (w:Int) x) (ch:=λn k=>F_bf n f (w:Int) (i:Int) x k) f false w i x o.few.runs (λn s=>by unfold F_iu;rfl) λk hk _=>Qit f o hi hk hw hx hxo
abbrev PlB:=ranks_place×Bool
def pref(best:Bool)(n m:Int):Bool:=bif best then decide (n<m)else decide (m<n)
def stepO(best:Bool)(f:Field)(i w:Nat)(acc:PlB)(j:Nat):PlB:=match(wldF f i w)[j]? with
 |none=>acc
 |some x=>bif x.Out then acc else
   bif !acc.2||pref best ((rankAt best f w i x:Nat):Int) acc.1.rank then({world:=(w:Int),outcome:=(j:Int),rank:=((rankAt best f w i x:Nat):Int):ranks_place},true)else acc
def driveW(best:Bool)(f:Field)(i:Nat)(acc:PlB)(w:Nat):PlB:=(List.range (wldF f i w).length).foldl (stepO best f i w) acc
def driveP(best:Bool)(f:Field)(i:Nat):PlB:=(worldsN f).foldl (driveW best f i) (z_ranks_place,false)
theorem Qag{β:Type}(g:β->Nat->β)(b:β)(k:Nat):(List.range (k+1)).foldl g b=g ((List.range k).foldl g b) k:=by rw[Xz,XJ];rfl
theorem Qki(f:Field)(o:FieldOk f){i:Nat}(g:i<f.Runners.length):Ev (λn=>F_bi n f (i:Int)) (driveP true f i):=by
 have u:=o.few.runs;unfold F_bi F_p;simp only[XQ];refine Ea (Qdf f o) ?_;have b:Ev (λn=>Qbf (F_ie n f (i:Int)) ((worldsN f).map λ(w:Nat)=>(w:Int)) (z_ranks_place,false)) (.cont (driveP true f i)):=by
  have:=QdS (step:=λn=>F_ie n f (i:Int)) (λs (x:Int)=>driveW true f i s x.toNat) ((worldsN f).map λ(w:Nat)=>(w:Int)) (z_ranks_place,false) (λs x q=>?_)
  .refine this.eq ?_;rw[List.foldl_map];simp only[Int.toNat_natCast];rfl
  .obtain⟨w,m,rfl⟩:=Xf.1 q;obtain⟨a,_⟩:=Qb5 m;obtain⟨p,h,t,r⟩:=QaO o g a;unfold F_ie;simp only[p,h,XQ];refine Ea (v:=driveW true f i s w) ?_ (Qa _);refine Ew (λj=>(((List.range j).foldl (stepO true f i w) s).1,((List.range j).foldl (stepO true f i w) s).2,(j:Int))) (wldF f i w).length rfl (λj l=>?_) ?_
   .have d:=atN (by omega) l;unfold F_jv;simp only[d.lt,cond_true,d.ix,XQ,d.nx,Qag];generalize(List.range j).foldl (stepO true f i w) s=acc;have k:stepO true f i w acc j=bif ((wldF f i w)[j]).Out then acc else bif !acc.2||pref true ((rankAt true f w i (wldF f i w)[j]:Nat):Int) acc.1.rank then({world:=(w:Int),outcome:=(j:Int),rank:=((rankAt true f w i (wldF f i w)[j]:Nat):Int):ranks_place},true)else acc:=by
     unfold stepO;rw[d.get]
    rw[k];refine Ea (v:=bif ((wldF f i w)[j]).Out then acc else bif !acc.2||pref true ((rankAt true f w i (wldF f i w)[j]:Nat):Int) acc.1.rank then({world:=(w:Int),outcome:=(j:Int),rank:=((rankAt true f w i (wldF f i w)[j]:Nat):Int):ranks_place},true)else acc) ?_ (Qa _);refine Ym (λ_=>Qa _) λe=>?_;refine Ea (Qmh f o g a (r _ d.mem) e) ?_;refine Ea (v:= !acc.2||pref true ((rankAt true f w i (wldF f i w)[j]:Nat):Int) acc.1.rank) (Qi λ_=>by unfold F_an;exact Qa _) ?_;cases !acc.2||pref true ((rankAt true f w i (wldF f i w)[j]:Nat):Int) acc.1.rank<;>exact Qa _
   .unfold F_jv;simp only[YD,cond_false];exact Qa _
 refine Ea b (Qa _)
theorem Qkh(f:Field)(o:FieldOk f){i:Nat}(g:i<f.Runners.length):Ev (λn=>F_bh n f (i:Int)) (driveP false f i):=by
 have u:=o.few.runs;unfold F_bh F_p;simp only[XQ];refine Ea (Qdf f o) ?_;have b:Ev (λn=>Qbf (F_iv n f (i:Int)) ((worldsN f).map λ(w:Nat)=>(w:Int)) (z_ranks_place,false)) (.cont (driveP false f i)):=by
  have:=QdS (step:=λn=>F_iv n f (i:Int)) (λs (x:Int)=>driveW false f i s x.toNat) ((worldsN f).map λ(w:Nat)=>(w:Int)) (z_ranks_place,false) (λs x q=>?_)
  .refine this.eq ?_;rw[List.foldl_map];simp only[Int.toNat_natCast];rfl
  .obtain⟨w,m,rfl⟩:=Xf.1 q;obtain⟨a,_⟩:=Qb5 m;obtain⟨p,h,t,r⟩:=QaO o g a;unfold F_iv;simp only[p,h,XQ];refine Ea (v:=driveW false f i s w) ?_ (Qa _);refine Ew (λj=>(((List.range j).foldl (stepO false f i w) s).1,((List.range j).foldl (stepO false f i w) s).2,(j:Int))) (wldF f i w).length rfl (λj l=>?_) ?_
   .have d:=atN (by omega) l;unfold F_jp;simp only[d.lt,cond_true,d.ix,XQ,d.nx,Qag];generalize(List.range j).foldl (stepO false f i w) s=acc;have k:stepO false f i w acc j=bif ((wldF f i w)[j]).Out then acc else bif !acc.2||pref false ((rankAt false f w i (wldF f i w)[j]:Nat):Int) acc.1.rank then({world:=(w:Int),outcome:=(j:Int),rank:=((rankAt false f w i (wldF f i w)[j]:Nat):Int):ranks_place},true)else acc:=by
     unfold stepO;rw[d.get]
    rw[k];refine Ea (v:=bif ((wldF f i w)[j]).Out then acc else bif !acc.2||pref false ((rankAt false f w i (wldF f i w)[j]:Nat):Int) acc.1.rank then({world:=(w:Int),outcome:=(j:Int),rank:=((rankAt false f w i (wldF f i w)[j]:Nat):Int):ranks_place},true)else acc) ?_ (Qa _);refine Ym (λ_=>Qa _) λe=>?_;refine Ea (Qmg f o g a (r _ d.mem) e) ?_;refine Ea (v:= !acc.2||pref false ((rankAt false f w i (wldF f i w)[j]:Nat):Int) acc.1.rank) (Qi λ_=>by unfold F_af;exact Qa _) ?_;cases !acc.2||pref false ((rankAt false f w i (wldF f i w)[j]:Nat):Int) acc.1.rank<;>exact Qa _
   .unfold F_jp;simp only[YD,cond_false];exact Qa _
 refine Ea b (Qa _)
def outW(f:Field)(i w:Nat):Bool:=(wldF f i w).any λx=>x.Out
def bibF(f:Field)(i:Nat):Int:=((f.Runners[i]?).map (·.Bib)).getD 0
def rank0(f:Field)(i:Nat):Rank:={z_Rank with Bib:=bibF f i,Kind:=3,Out:=(worldsN f).any (outW f i)}
def ofP(f:Field)(i:Nat):Rank:=
 bif !(driveP true f i).2 then rank0 f i else
 bif ((driveP true f i).1.rank==(driveP false f i).1.rank)&& !(rank0 f i).Out then {rank0 f i with Kind:=1,Lo:=(driveP true f i).1.rank,Hi:=(driveP false f i).1.rank}else {rank0 f i with Kind:=2,Lo:=(driveP true f i).1.rank,Hi:=(driveP false f i).1.rank}
theorem ev_of(f:Field)(o:FieldOk f){i:Nat}(b:i<f.Runners.length):Ev (λn=>F_dr n f (i:Int)) (ofP f i):=by
 have t:bibF f i=(f.Runners[i]).Bib:=by unfold bibF;rw[XR b];rfl
 unfold F_dr F_p F_ch F_dn;simp only[Qm (XR b),XQ];refine Ea (Qdf f o) ?_;have d:Ev (λn=>Qbf (F_in n f (i:Int)) ((worldsN f).map λ(w:Nat)=>(w:Int)) ({z_Rank with Bib:=(f.Runners[i]).Bib,Kind:=3:Rank})) (.cont (rank0 f i)):=by
  have:=QdS (step:=λn=>F_in n f (i:Int)) (λs (x:Int)=>{s with Out:=s.Out||outW f i x.toNat:Rank}) ((worldsN f).map λ(w:Nat)=>(w:Int)) ({z_Rank with Bib:=(f.Runners[i]).Bib,Kind:=3:Rank}) (λs x j=>?_)
  .refine this.eq ?_;rw[List.foldl_map];simp only[Int.toNat_natCast];have h:∀(l:List Nat) (s:Rank),l.foldl (λs w=>{s with Out:=s.Out||outW f i w:Rank}) s={s with Out:=s.Out||l.any (outW f i)}:=by
    intro l
    induction l with
    |nil=>intro s;simp
    |cons a l k=>intro s;rw[XK,k,List.any_cons,Bool.or_assoc]
   rw[h];unfold rank0;rw[t];simp[z_Rank]
  .obtain⟨w,p,rfl⟩:=Xf.1 j;obtain⟨g,_⟩:=Qb5 p;obtain⟨r,m,u,y⟩:=QaO o b g;have e:Ev (λn=>F_dk n (wldF f i w)) (outW f i w):=by
    unfold F_dk F_ex outW;refine Ev.contains (wldF f i w) (λx=>x.Out) (λn x=>(F_cl n x).bind λ_=>some x.Out) (by omega) λx j=>?_;unfold F_cl;exact Qa _
   unfold F_in;simp only[r,m,XQ,Int.toNat_natCast];refine Ea (v:={s with Out:=s.Out||outW f i w:Rank}) ?_ (Qa _);cases q:s.Out with
   |true=>exact(Qa _).eq (by simp)
   |false=>exact Ea e ((Qa _).eq (by simp))
 refine Ea d ?_;refine Ea (Qki f o b) ?_;unfold ofP;refine Ym (λ_=>Qa _) λ_=>?_;refine Ea (Qkh f o b) ?_;refine Ea (v:=((driveP true f i).1.rank==(driveP false f i).1.rank)&& !(rank0 f i).Out) (Ei λ_=>Qa _) ?_;cases((driveP true f i).1.rank==(driveP false f i).1.rank)&& !(rank0 f i).Out<;>exact Qa _
def allP(f:Field):List Rank:=(List.range f.Runners.length).map (ofP f)
theorem Qmv(f:Field)(k:FewF f):Ev (λn=>F_ao n f) (bif fieldB f then(allP f,0)else([],240)):=by
 have d:=k.runs;unfold F_ao F_gf;refine Ea (v:=bif fieldB f then 0 else 240) (Ea (QeQ f k) ?_) ?_
 .cases fieldB f with
  |false=>exact Qa _
  |true=>
   refine Q6 (Ea (v:=Ctl.cont ()) ?_ (Qa _));refine QaE 1 ?_;rfl
 .cases b:fieldB f with
  |false=>exact Qa _
  |true=>
   have o:=Qcm k b;refine Q6 (Ea (v:=allP f) ?_ (Qa _));unfold allP;refine Ew (λi=>((List.range i).map (ofP f),(i:Int))) f.Runners.length rfl (λi a=>?_) ?_
   .unfold F_jq;simp only[ltN a,cond_true,QZ (show i<=1048576 by omega)];refine Ea (ev_of f o a) ?_;rw[QaV (by simp;omega)];refine(Qa _).eq ?_;rw[Xz,Xg];rfl
   .unfold F_jq;simp only[geN (X0 _),cond_false];exact Qa _
theorem QiR{α:Type}{step:Nat->List α×Int->Option (Ctl (List α×Int) (List α))}(l:List α)(q:α->Bool)(d:l.length<=1048576)
  (e:∀i x acc,At l i x->acc.length<=i->Ev (λn=>step n (acc,(i:Int))) (.cont ((bif q x then acc++[x]else acc),((i+1:Nat):Int))))(f:∀acc,Ev (λn=>step n (acc,(l.length:Int))) (.done acc)):
  Ev (λn=>Go.Sw.iter (step n) n ([],0)) (l.filter q):=by
 refine Ew (λi=>((l.take i).filter q,(i:Int))) l.length (by simp) (λi b=>?_) ((f _).eq (by rw[Vh]));have a:=atN d b;refine(e i _ _ a (X3 (List.length_filter_le ..) (by simp;omega))).eq ?_;rw[a.take,List.filter_append];cases h:q l[i]<;>simp[h]
theorem Qoc{α β:Type}{step:Nat->List β×Int->Option (Ctl (List β×Int) (List β))}(l:List α)(g:α->β)(d:l.length<=1048576)
  (e:∀i x acc,At l i x->acc.length<=i->Ev (λn=>step n (acc,(i:Int))) (.cont (acc++[g x],((i+1:Nat):Int))))(f:∀acc,Ev (λn=>step n (acc,(l.length:Int))) (.done acc)):
  Ev (λn=>Go.Sw.iter (step n) n ([],0)) (l.map g):=by
 refine Ew (λi=>((l.take i).map g,(i:Int))) l.length (by simp) (λi b=>?_) ((f _).eq (by rw[Vh]));have a:=atN d b;refine(e i _ _ a (by simp;omega)).eq ?_;rw[a.take,Xg];rfl
theorem Qh5{α T:Type}{step:Nat->Int->Option (List T×Ctl Int Unit)}(l:List α)(g:α->T)(k:l.length<=1048576)
  (f:∀i x,At l i x->Ev (λn=>step n (i:Int)) ([g x],.cont ((i+1:Nat):Int)))(j:Ev (λn=>step n (l.length:Int)) ([],.done ())):EvL step 0 (l.map g,()):=by
 have loop:∀(r:List α) (i:Nat),l.drop i=r->i<=l.length->EvL step (i:Int) (r.map g,()):=by
  intro r
  induction r with
  |nil=>
   intro i b e;have:i=l.length:=by have:=Xu.1 b;omega
   subst this;exact EvL.done j
  |cons x r h=>
   intro i b e;obtain⟨d,a⟩:=QT (by omega) b;exact EvL.cont (f i x d) (h (i+1) a (by have:=d.lt';omega))
 exact loop l 0 rfl (X2 _)
abbrev MapI:=List (Int×Int)
def amtS(d k:Int)(m:MapI)(p:Prize):MapI:=bif (p.Distance==d)&&(p.Category==k)then QR m p.Rank p.Amount else m
def amtF(c:Course)(d k:Int):MapI:=c.Prizes.foldl (amtS d k) []
theorem QjA(d k:Int):∀(l:List Prize) (m:MapI),(l.foldl (amtS d k) m).length<=m.length+l.length
 |[],m=>X0 _
 |p::l,m=>by
  have h:=QjA d k l (amtS d k m p);have h2:(amtS d k m p).length<=m.length+1:=by
   unfold amtS;cases(p.Distance==d)&&(p.Category==k)with
   |false=>simp
   |true=>exact Qcx m _ _
  rw[XK,X8];omega
theorem QeS(c:Course)(d k:Int)(a:c.Prizes.length<=1048576):Ev (λn=>F_aq n c d k) (amtF c d k):=by
 unfold F_aq;refine Ea (Qbp (step:=λn=>F_ia n c d k) c.Prizes (amtS d k) [] (λm i=>(m,(i:Int))) (λm=>m) (by omega) rfl (λi x m ha _=>?_) ?_) (Qa _)
 .unfold F_ia;simp only[ha.lt,cond_true,ha.ix,XQ,ha.nx];refine Ea (v:=(x.Distance==d)&&(x.Category==k)) (Ei λ_=>Qa _) ?_;unfold amtS;cases(x.Distance==d)&&(x.Category==k)<;>exact Qa _
 .unfold F_ia;simp only[YD,cond_false];exact Qa _
def keysS(m:MapI):List Int:=QaH ltI (m.map Prod.fst)
theorem QfD(m:MapI):(keysS m).length=m.length:=by unfold keysS;rw[(QD _ _).length_eq,X9]
theorem Qin(m:MapI)(b:m.length<=1048576):Ev (λn=>F_db n m) (keysS m):=by
 unfold F_db Qkz;have d:Nat.ble (List.map Prod.fst m).length QO=true:=Qjl (by rw[X9];exact b);rw[d];refine QjK (Ev.anyP λp a=>?_);have:p.length=m.length:=by rw[a.length_eq,X9]
 rw[QgZ p (by omega),QfE a];exact Qa _
def ordP(m:MapI):List (Int×Int):=(keysS m).map λk=>(k,Qx m k 0)
theorem QeO(m:MapI)(b:m.length<=1048576):Ev (λn=>F_aj n m) (ordP m,()):=by
 unfold F_aj F_fe;simp only[XQ];refine Ea (Qin m b) ?_;have h:=QfD m;refine Ea (Qh5 (step:=λn=>F_hw n m (keysS m)) (keysS m) (λk=>(k,Qx m k 0)) (by omega) (λi x a=>?_) ?_).ev ((Qa _).eq ?_)
 .unfold F_hw;simp only[a.lt,cond_true,a.ix,XQ,a.nx];exact Qa _
 .unfold F_hw;simp only[YD,cond_false];exact Qa _
 .unfold ordP;simp
def candB(k:Int)(r:Rank):Bool:=(r.Kind != 3)&&(decide (r.Lo<=k)&&decide (k<=r.Hi))
def candP(all:List Rank)(k:Int):List Rank:=all.filter (candB k)
theorem QhF(all:List Rank)(k:Int)(f:all.length<=1048576):Ev (λn=>F_am n all k) (candP all k):=by
 unfold F_am;refine Ea (QiR (step:=λn=>F_ic n all k) all (candB k) f (λi x a b d=>?_) λa=>?_) (Qa _)
 .have e:=b.lt';unfold F_ic;simp only[b.lt,cond_true,b.ix,XQ,b.nx,QaV (show a.length<=140737488 by omega)];refine Ea (v:=candB k x) (Ei λ_=>Ei λ_=>Qa _) ?_;cases candB k x<;>exact Qa _
 .unfold F_ic;simp only[YD,cond_false];exact Qa _
def divS(all:List Rank)(s:List Int×MapI)(x:Int×Int):List Int×MapI:=
 match candP all x.1 with
 |[]=>s
 |r::t=>bif t.isEmpty&&(r.Kind==1)then(s.1,QR s.2 r.Bib x.2)else(s.1++[x.1],s.2)
theorem QhK(all:List Rank)(s:List Int×MapI)(x:Int×Int):(divS all s x).1.length<=s.1.length+1/\(divS all s x).2.length<=s.2.length+1:=by
 unfold divS;cases candP all x.1 with
 |nil=>exact⟨by simp,by simp⟩
 |cons r t=>
  simp only;cases t.isEmpty&&(r.Kind==1)with
  |true=>exact⟨by simp,Qcx _ _ _⟩
  |false=>exact⟨by simp,by simp⟩
theorem Qjs(all:List Rank):∀(l:List (Int×Int)) (s:List Int×MapI),(l.foldl (divS all) s).1.length<=s.1.length+l.length/\(l.foldl (divS all) s).2.length<=s.2.length+l.length
 |[],s=>⟨X0 _,X0 _⟩
 |x::l,s=>by
  have h:=Qjs all l (divS all s x);have h2:=QhK all s x;rw[XK,X8];omega
def divF(all:List Rank)(m:MapI):List Int×MapI:=(ordP m).foldl (divS all) ([],[])
theorem Qct(m:MapI):(ordP m).length=m.length:=by unfold ordP;rw[X9,QfD]
theorem QhL(all:List Rank)(m:MapI):(divF all m).1.length<=m.length/\(divF all m).2.length<=m.length:=by
 have h:=Qjs all (ordP m) ([],[]);rw[Qct]at h;simpa[divF]using h
theorem QfM(all:List Rank)(e:Int)(a:all.length<=1048576):∀(l:List (Int×Int)) (s:List Int×MapI),s.1.length+l.length<=1048576->
  Ev (λn=>Qbf (F_it n (all,e)) l s) (.cont (l.foldl (divS all) s))
 |[],s,_=>Qa _
 |x::l,s,h=>by
  rw[X8]at h;have step:Ev (λn=>F_it n (all,e) s x) (.cont (divS all s x)):=by
   unfold F_it;refine Ea (QhF all x.1 a) ?_;unfold divS;cases g:candP all x.1 with
   |nil=>exact Qa _
   |cons r t=>
    have d:(((r::t).length:Int)==0)=false:=beq_false_of_ne (by rw[X8];omega);have b:(((r::t).length:Int)==1)=t.isEmpty:=by
     cases t with
     |nil=>rfl
     |cons y t=>exact beq_false_of_ne (by rw[X8,X8];omega)
    have f:idx (r::t) 0=some r:=Qm (i:=0) rfl;simp only[d,cond_false,b,f,XQ,QaV (show s.1.length<=140737488 by omega)];refine Ea (v:=bif t.isEmpty&&(r.Kind==1)then(s.1,QR s.2 r.Bib x.2)else(s.1++[x.1],s.2)) ?_ ?_
    .refine Ea (v:=t.isEmpty&&(r.Kind==1)) (Ei λ_=>Qa _) ?_;cases t.isEmpty&&(r.Kind==1)<;>exact Qa _
    .exact Qa _
  refine Ea step (QfM all e a l _ ?_);have:=(QhK all s x).1;omega
def checkV(e:Int)(c:Course)(f:Field)(d k:Int):Int:=
 bif e != 0 then e else bif decide (d<0)||(decide ((c.Distances.length:Int)<=d)||(decide (k< -1)||decide ((c.Categories.length:Int)<=k)))then 310 else bif fieldB f then 0 else 240
theorem QfP(c:Course)(f:Field)(d k e:Int)(he:Ev (λn=>F_k n c) e)(a:FewF f):Ev (λn=>F_al n c f d k) (checkV e c f d k):=by
 unfold F_al checkV;refine Ea he ?_;refine Ym (λ_=>Qa _) λ_=>?_;refine Ea (v:=decide (d<0)||(decide ((c.Distances.length:Int)<=d)||(decide (k< -1)||decide ((c.Categories.length:Int)<=k)))) (Qi λ_=>Qi λ_=>Qi λ_=>Qa _) ?_;refine Ym (λ_=>Qa _) λ_=>?_;refine Ea (QeQ f a) ?_;cases fieldB f<;>exact Qa _
theorem QdC{e:Int}{c:Course}{f:Field}{d k:Int}(h:(checkV e c f d k != 0)=false):fieldB f=true:=by
 unfold checkV at h;cases q:(e != 0)with
 |true=>rw[q]at h;simp only[cond_true]at h;rw[q]at h;cases h
 |false=>
  rw[q]at h;cases a:(decide (d<0)||(decide ((c.Distances.length:Int)<=d)||(decide (k< -1)||decide ((c.Categories.length:Int)<=k))))with
  |true=>rw[a]at h;simp at h
  |false=>
   rw[a]at h;cases b:fieldB f with
   |true=>rfl
   |false=>rw[b]at h;simp at h
def divV(e:Int)(c:Course)(f:Field)(d k:Int):U_prizes_divide:=
 bif checkV e c f d k != 0 then .c0 (checkV e c f d k)else .c2 ((divF (allP f) (amtF c d k)).2,(divF (allP f) (amtF c d k)).1)
theorem Qe0(c:Course)(d k:Int):(amtF c d k).length<=c.Prizes.length:=by have:=QjA d k c.Prizes [];simpa[amtF]using this
theorem QcG(f:Field):(allP f).length=f.Runners.length:=by simp[allP]
theorem Qkj(c:Course)(f:Field)(d k e:Int)(he:Ev (λn=>F_k n c) e)(a:FewF f)(g:c.Prizes.length<=1048576):Ev (λn=>F_ar n c f d k) (divV e c f d k):=by
 have i:=Qe0 c d k;unfold F_ar divV;refine Ea (QfP c f d k e he a) ?_;cases h:(checkV e c f d k != 0)with
 |true=>exact Qa _
 |false=>
  have b:=QdC h;refine Q6 (Ea (Qmv f a) ?_);rw[b];simp only[cond_true,bne_self_eq_false,cond_false];refine Ea (QeS c d k g) ?_;unfold F_ae;simp only[XQ];refine Ea (QeO _ (by omega)) ?_;refine Ea (QfM (allP f) 0 (by rw[QcG];have:=a.runs;omega) (ordP (amtF c d k)) ([],[]) (by rw[Qct];simp;omega)) ?_;exact Qa _
def payP(m:MapI):List Payment:=(ordP m).map λp=>{Bib:=p.1,Amount:=p.2}
theorem Qdz(m:MapI)(b:m.length<=1048576):Ev (λn=>F_au n m) (payP m):=by
 unfold F_au F_ae;simp only[XQ];refine Ea (QeO m b) ?_;have a:∀(l:List (Int×Int)) (s:List Payment),s.length+l.length<=1048576->Ev (λn=>Qbf (F_hy n) l s) (.cont (s++l.map λp=>({Bib:=p.1,Amount:=p.2}:Payment))):=by
  intro l
  induction l with
  |nil=>intro s _;exact(Qa _).eq (by simp)
  |cons x l d=>
   intro s h;rw[X8]at h;have step:Ev (λn=>F_hy n s x) (.cont (s++[({Bib:=x.1,Amount:=x.2}:Payment)])):=by
    unfold F_hy;rw[QaV (by omega)];exact Qa _
   refine Ea step ((d _ (by simp;omega)).eq ?_);simp
 refine Ea (a (ordP m) [] (by rw[Qct];simpa using b)) ((Qa _).eq ?_);simp[payP]
def certV(e:Int)(c:Course)(f:Field)(d k:Int):List Payment×Int:=bif checkV e c f d k != 0 then([],checkV e c f d k)else(payP (divF (allP f) (amtF c d k)).2,0)
theorem Qix(c:Course)(f:Field)(d k e:Int)(he:Ev (λn=>F_k n c) e)(a:FewF f)(b:c.Prizes.length<=1048576):Ev (λn=>F_w n c f d k) (certV e c f d k):=by
 have i:=Qe0 c d k;have g:=(QhL (allP f) (amtF c d k)).2;unfold F_w certV;refine Ea (Qkj c f d k e he a b) ?_;unfold divV;cases h:(checkV e c f d k != 0)with
 |true=>
  simp only[cond_true,h];exact Qa _
 |false=>
  simp only[cond_false];exact Ea (Qdz _ (by omega)) (Qa _)
theorem few25(f:Field)(w:Field.wf f):∃b,Ev (λn=>F_cd n f) b/\(b=true->FewF f):=by
 obtain⟨⟨⟨J,_⟩,⟨s,z⟩,_⟩,⟨N,_⟩,⟨L,m⟩,_⟩:=w;have d:∀r∈f.Runners,r.Keys.length<=1048576/\r.Worlds.length<=1048576/\ ∀x∈r.Worlds,x.length<=1048576:=λr a=>⟨(m r a).2.1.1,(m r a).2.2.1.1,λx l=>((m r a).2.2.1.2 x l).1⟩;have O:Runner->Bool:=λr=>true
 let okR:Runner->Bool:=λr=> !(decide (5<(r.Keys.length:Int))||decide (4<(r.Worlds.length:Int)))&&r.Worlds.all λx=> !decide (4<(x.length:Int))
 have u:Ev (λn=>iter (F_iz n f) n 0) (bif f.Runners.all okR then Ctl.cont ()else Ctl.done false):=by
  refine Yg f.Runners okR _ _ (by omega) (λi x e=>?_) ?_
  .obtain⟨M,H,P⟩:=d x e.mem;unfold F_iz;simp only[e.lt,cond_true,e.ix,XQ,e.nx];refine Ea (v:=decide (5<(x.Keys.length:Int))||decide (4<(x.Worlds.length:Int))) (Qi λ_=>Qa _) ?_;show Ev _ (bif !(decide (5<(x.Keys.length:Int))||decide (4<(x.Worlds.length:Int)))&&x.Worlds.all (λx=> !decide (4<(x.length:Int)))then _ else _);cases decide (5<(x.Keys.length:Int))||decide (4<(x.Worlds.length:Int))with
   |true=>exact Qa _
   |false=>
    simp only[cond_false,Xi,Bool.true_and];refine Ea (Yg x.Worlds (λx=> !decide (4<(x.length:Int))) (Ctl.done (Ctl.done (Ctl.done false))) (Ctl.cont ()) (by omega) (λj y g=>?_) ?_) ?_
    .unfold F_kq;simp only[g.lt,cond_true,g.ix,XQ,g.nx];cases decide (4<(y.length:Int))<;>exact Qa _
    .unfold F_kq;simp only[YD,cond_false];exact Qa _
    .cases x.Worlds.all λx=> !decide (4<(x.length:Int))<;>exact Qa _
  .unfold F_iz;simp only[YD,cond_false];exact Qa _
 have p:Ev (λn=>iter (F_id n f) n 0) (bif f.Clocks.Far.all (λx=> !decide (8<(x.length:Int)))then Ctl.cont ()else Ctl.done false):=by
  refine Yg f.Clocks.Far _ _ _ (by omega) (λi x e=>?_) ?_
  .unfold F_id;simp only[e.lt,cond_true,e.ix,XQ,e.nx];cases decide (8<(x.length:Int))<;>exact Qa _
  .unfold F_id;simp only[YD,cond_false];exact Qa _
 refine⟨f.Runners.all okR&&(f.Clocks.Far.all (λx=> !decide (8<(x.length:Int)))&&(decide ((f.Runners.length:Int)<=6)&&(decide ((f.Pairs.length:Int)<=3)&&(decide ((f.Clocks.Segments.length:Int)<=4)&&decide ((f.Clocks.Far.length:Int)<=6))))),?_,λh=>?_⟩
 .unfold F_cd;refine Ea u ?_;cases f.Runners.all okR with
  |false=>exact Qa _
  |true=>
   refine Ea p ?_;cases f.Clocks.Far.all (λx=> !decide (8<(x.length:Int)))with
   |false=>exact Qa _
   |true=>exact Ea (Ei λ_=>Ei λ_=>Ei λ_=>Qa _) (Qa _)
 .simp only[X4,decide_eq_true_eq]at h;obtain⟨t,q,E,B,G,F⟩:=h;have k:∀r∈f.Runners,r.Keys.length<=5/\r.Worlds.length<=4/\ ∀x∈r.Worlds,x.length<=4:=by
   intro r a;have:=Xw.1 t r a;simp only[okR,X4,Bool.not_eq_true',X5,decide_eq_false_iff_not]at this;refine⟨by omega,by omega,λx l=>?_⟩;have:=Xw.1 this.2 x l;simp only[Bool.not_eq_true',decide_eq_false_iff_not]at this;omega
  refine⟨by omega,by omega,by omega,by omega,λr a=>?_,λr a=>(k r a).1,λr a=>(k r a).2.1,λr a=>(k r a).2.2⟩;have:=Xw.1 q r a;simp only[Bool.not_eq_true',decide_eq_false_iff_not]at this;omega
theorem Qpk{f:Field}(h:runsB f=true){i:Nat}(a:i<f.Runners.length):lastB f i<(f.Runners[i]).Bib:=by
 have:=QjU.1 h i a;unfold runB at this;rw[XR a]at this;simp only[runBad,X4,Bool.not_eq_true',X5,decide_eq_false_iff_not]at this;omega
theorem QeZ{f:Field}(h:runsB f=true):∀(j i:Nat) (a:i<f.Runners.length) (b:j<f.Runners.length),i<j->(f.Runners[i]).Bib<(f.Runners[j]).Bib
 |0,i,a,b,hij=>by omega
 |j+1,i,a,b,hij=>by
  have h1:=Qpk h b;have e:lastB f (j+1)=(f.Runners[j]).Bib:=by
   show((f.Runners[j]?).map (·.Bib)).getD 0=_;rw[XR (by omega)];rfl
  rw[e]at h1;by_cases q:i=j
  .subst q;exact h1
  .have:=QeZ h j i a (by omega) (by omega);omega
theorem FieldOk.runs{f:Field}(o:FieldOk f):runsB f=true:=by
 have:=o.ok;simp only[fieldB,X4]at this;exact this.2.2.1
theorem QnX{f:Field}(o:FieldOk f){i j:Nat}(a:i<f.Runners.length)(b:j<f.Runners.length)(e:(f.Runners[i]).Bib=(f.Runners[j]).Bib):i=j:=by
 rcases Nat.lt_trichotomy i j with q|q|q
 .have:=QeZ o.runs j i a b q;omega
 .exact q
 .have:=QeZ o.runs i j b a q;omega
theorem QjT(a:Bool)(f:Field)(w i:Nat)(x:Outcome)(g:i<f.Runners.length):1<=rankAt a f w i x/\rankAt a f w i x<=f.Runners.length:=by
 unfold rankAt;have b:∀k,cntR (rivalP a f w i x) k+(if i<k then 1 else 0)<=k:=by
  intro k
  induction k with
  |zero=>simp[cntR]
  |succ k d=>
   rw[QaD];by_cases e:k=i
   .subst e;have:rivalP a f w k x k=false:=by unfold rivalP;rw[Nat.beq_refl];rfl
    rw[this];simp at d⊢;omega
   .cases rivalP a f w i x k<;>simp<;>split at d<;>split<;>omega
 have:=b f.Runners.length;rw[if_pos g]at this;omega
def PlaceOk(f:Field)(a:PlB):Prop:=a.2=true->1<=a.1.rank/\a.1.rank<=(f.Runners.length:Int)
theorem Qk8(a:Bool){f:Field}{i:Nat}(d:i<f.Runners.length)(w:Nat)(b:PlB)(j:Nat)(h:PlaceOk f b):PlaceOk f (stepO a f i w b j):=by
 unfold stepO;cases(wldF f i w)[j]? with
 |none=>exact h
 |some x=>
  simp only;cases x.Out with
  |true=>exact h
  |false=>
   simp only[cond_false];cases !b.2||pref a ((rankAt a f w i x:Nat):Int) b.1.rank with
   |false=>exact h
   |true=>
    intro _;have:=QjT a f w i x d;simp only[cond_true];omega
theorem Qgu{α:Type}{f:Field}(g:PlB->α->PlB)(hg:∀a x,PlaceOk f a->PlaceOk f (g a x)):∀(l:List α) (a:PlB),PlaceOk f a->PlaceOk f (l.foldl g a)
 |[],a,h=>h
 |x::l,a,h=>Qgu g hg l _ (hg a x h)
theorem QhI(best:Bool){f:Field}{i:Nat}(hi:i<f.Runners.length):PlaceOk f (driveP best f i):=
 Qgu _ (λa w h=>Qgu _ (λa j h=>Qk8 best hi w a j h) _ _ h) _ _ λh=>by cases h
theorem Qh9(k l:Bool)(f:Field)(i w:Nat)(g d:PlB)(j:Nat)(h:g.2=d.2):(stepO k f i w g j).2=(stepO l f i w d j).2:=by
 unfold stepO;cases(wldF f i w)[j]? with
 |none=>exact h
 |some x=>
  simp only;cases x.Out with
  |true=>exact h
  |false=>
   simp only[cond_false];have e:∀(b:Bool) (a:PlB),(bif !a.2||pref b ((rankAt b f w i x:Nat):Int) a.1.rank then(({world:=(w:Int),outcome:=(j:Int),rank:=((rankAt b f w i x:Nat):Int):ranks_place},true):PlB)else a).2=true:=by
    intro b a;cases q:a.2 with
    |false=>rfl
    |true=>cases pref b ((rankAt b f w i x:Nat):Int) a.1.rank<;>simp[q]
   rw[e k g,e l d]
theorem Qdd{α:Type}(g1 g2:PlB->α->PlB)(hg:∀a1 a2 x,a1.2=a2.2->(g1 a1 x).2=(g2 a2 x).2):∀(l:List α) (a1 a2:PlB),a1.2=a2.2->(l.foldl g1 a1).2=(l.foldl g2 a2).2
 |[],_,_,h=>h
 |x::l,a1,a2,h=>Qdd g1 g2 hg l _ _ (hg a1 a2 x h)
theorem Qiy(f:Field)(i:Nat):(driveP true f i).2=(driveP false f i).2:=
 Qdd (driveW true f i) (driveW false f i) (λa1 a2 w h=>Qdd (stepO true f i w) (stepO false f i w) (λa1 a2 j h=>Qh9 true false f i w a1 a2 j h) _ _ _ h) _ _ _ rfl
theorem QdO(f:Field)(i:Nat):(ofP f i).Bib=bibF f i:=by
 unfold ofP;cases !(driveP true f i).2 with
 |true=>rfl
 |false=>
  simp only[cond_false];cases((driveP true f i).1.rank==(driveP false f i).1.rank)&& !(rank0 f i).Out<;>rfl
theorem QlO{f:Field}{i:Nat}(a:i<f.Runners.length)(h:((ofP f i).Kind != 3)=true):1<=(ofP f i).Lo/\(ofP f i).Hi<=(f.Runners.length:Int)/\(((ofP f i).Kind==1)=true->(ofP f i).Lo=(ofP f i).Hi):=by
 have b:=QhI true a;have g:=QhI false a;have k:=Qiy f i;unfold PlaceOk at b g;unfold ofP at h⊢;cases q:(driveP true f i).2 with
 |false=>rw[q]at h;simp[rank0]at h
 |true=>
  have j:=b q;have d:=g (by rw[<- k];exact q);simp only[Xh,cond_false];cases z:((driveP true f i).1.rank==(driveP false f i).1.rank)&& !(rank0 f i).Out with
  |true=>
   simp only[cond_true];simp only[X4,beq_iff_eq]at z;exact⟨j.1,d.2,λ_=>z.1⟩
  |false=>
   simp only[cond_false];exact⟨j.1,d.2,λe=>by cases e⟩
theorem QdV{f:Field}{i:Nat}(a:i<f.Runners.length):bibF f i=(f.Runners[i]).Bib:=by unfold bibF;rw[XR a];rfl
theorem Qn3{f:Field}{r:Rank}(h:r∈allP f):∃i,i<f.Runners.length/\ofP f i=r:=by
 obtain⟨i,a,e⟩:=Xf.1 h;exact⟨i,by simpa using a,e⟩
def matchP(d k r:Int)(p:Prize):Bool:=(p.Distance==d)&&((p.Category==k)&&(p.Rank==r))
def amountS(c:Course)(d k r:Int):Int:=((c.Prizes.find? (matchP d k r)).map (·.Amount)).getD 0
theorem QjB(d k r:Int):∀(l:List Prize) (m:MapI),YI (l.foldl (amtS d k) m) r=match(l.filter (matchP d k r)).getLast? with|some p=>some p.Amount|none=>YI m r
 |[],m=>rfl
 |p::l,m=>by
  rw[XK,QjB d k r l];have e:YI (amtS d k m p) r=if matchP d k r p=true then some p.Amount else YI m r:=by
   unfold amtS matchP;cases f:p.Distance==d with
   |false=>simp
   |true=>
    cases b:p.Category==k with
    |false=>simp
    |true=>
     simp only[Bool.true_and,cond_true];rw[QbS];by_cases q:r=p.Rank
     .simp[q]
     .have:(p.Rank==r)=false:=beq_false_of_ne λz=>q z.symm;simp[q,this]
  rw[e,Xd];by_cases q:matchP d k r p=true
  .rw[if_pos q,if_pos q];cases h:l.filter (matchP d k r)with
   |nil=>rfl
   |cons a t=>rw[List.getLast?_cons_cons];cases z:(a::t).getLast? with
    |none=>simp at z
    |some y=>rfl
  .rw[if_neg q,if_neg q]
theorem QjY{c:Course}(h:(c.Prizes.map prizeKey).Nodup)(d k r:Int):(c.Prizes.filter (matchP d k r)).length<=1:=by
 have e:((c.Prizes.filter (matchP d k r)).map prizeKey).Nodup:=(List.filter_sublist.map prizeKey).nodup h;have f:∀p∈c.Prizes.filter (matchP d k r),prizeKey p={distance:=d,category:=k,rank:=r}:=by
  intro p g;have:=(Xe.1 g).2;simp only[matchP,X4,beq_iff_eq]at this;unfold prizeKey;rw[this.1,this.2.1,this.2.2]
 match hq:c.Prizes.filter (matchP d k r),e,f with
 |[],_,_=>simp
 |[a],_,_=>simp
 |a::b::t,e,f=>
  have i:=f a (by simp);have j:=f b (by simp);simp only[Vr,List.nodup_cons]at e;exact(e.1 (by rw[i,j];simp)).elim
structure PrizesOk (c:Course):Prop where
 keys:(c.Prizes.map prizeKey).Nodup
 pos:∀p∈c.Prizes,1<=p.Amount
theorem QhW{c:Course}(h:courseE c=0):PrizesOk c:=by
 have d:numbersS c=true:=by
  unfold courseE at h;cases a:fitsS c with
  |false=>rw[a]at h;simp at h
  |true=>
   cases b:namesS c with
   |false=>rw[a,b]at h;simp at h
   |true=>
    cases e:numbersS c with
    |true=>rfl
    |false=>rw[a,b,e]at h;simp at h
 unfold numbersS at d;simp only[X4,decide_eq_true_eq,Xw]at d;obtain⟨_,_,_,_,_,_,_,a,b,_⟩:=d;refine⟨b,λp f=>?_⟩;have:=a p f;simp only[prizeS,inR,X4,decide_eq_true_eq]at this;omega
theorem QmL{c:Course}(o:PrizesOk c)(d k r:Int):YI (amtF c d k) r=(c.Prizes.find? (matchP d k r)).map (·.Amount):=by
 unfold amtF;rw[QjB, <- List.head?_filter];have:=QjY o.keys d k r
 match h:c.Prizes.filter (matchP d k r),this with
 |[],_=>rfl
 |[a],_=>rfl
 |a::b::t,z=>exact absurd z (by simp)
theorem Qn2{c:Course}(o:PrizesOk c)(d k r:Int):r∈keysS (amtF c d k)↔0<amountS c d k r:=by
 have e:r∈keysS (amtF c d k)↔r∈(amtF c d k).map Prod.fst:=(QD ltI _).mem_iff;rw[e,Qcy,QmL o];unfold amountS;cases h:c.Prizes.find? (matchP d k r)with
 |none=>simp
 |some p=>
  have:=o.pos p (List.mem_of_find?_eq_some h);simp;omega
theorem Qjz{c:Course}(o:PrizesOk c)(d k r:Int):Qx (amtF c d k) r 0=amountS c d k r:=by
 have e:Qx (amtF c d k) r 0=(YI (amtF c d k) r).getD 0:=by unfold Qx;cases YI (amtF c d k) r<;>rfl
 rw[e,QmL o];rfl
theorem QhN(c:Course)(w:CourseOk c)(q:PartsOk c)(k:FewL c)(h:c.Ties.length<=1048576)(g:∀x∈c.Ties,Step.wf x){e:Int}(he:Ev (λn=>F_k n c) e)(h0:(e != 0)=false):courseE c=0:=by
 have b:e=0:=by simpa[bne]using h0
 subst b;cases a:fitsG c with
 |false=>
  have:Ev (λn=>F_k n c) 2:=by
   unfold F_k;refine Ea (QhE c w q k) ?_;rw[a];exact Qa _
  have:=he.uniq this;cases this
 |true=>
  unfold fitsG at a;simp only[X4,Xw,Bool.not_eq_true',X5,decide_eq_false_iff_not]at a;have ff:FewOk c:=⟨k.lens,k.name,λd f=>⟨by have:=(k.dist d f).1;omega,by have:=(k.dist d f).2;omega,by have:=(a.2 d f).2;omega⟩,k.ties⟩;exact(he.uniq (QfU c w q ff h g)).symm
theorem leN{a b:Nat}(h:a<b+1):decide ((a:Int)<=(b:Int))=true:=decide_eq_true (by omega)
theorem Qj0(b:Nat):decide (((b+1:Nat):Int)<=(b:Int))=false:=decide_eq_false (by omega)
theorem Qma(x:Int):Ev (λn=>F_eq n x) (timeB x):=by
 unfold F_eq timeB inR;exact Ea (Ei λ_=>Qa _) (Qa _)
theorem Qmf(x y:Segment):Ev (λn=>F_ei n x y) (segLt x y):=by
 unfold F_ei segLt;exact Ea (Qi λ_=>Ei λ_=>Qa _) (Qa _)
theorem Qmb(c:Clocks)(b:c.Segments.length<=1048576):Ev (λn=>iter (F_jd n c) n 0) (bif segsB c then Ctl.cont ()else Ctl.done 160):=by
 unfold segsB;refine Yf c.Segments.length _ _ _ (λi e=>?_) ?_
 .have a:=atN b e;unfold F_jd;simp only[a.lt,cond_true,a.ix,XQ,a.nx,a.get];refine Ea (v:=segBad c i (c.Segments[i])) ?_ ?_
  .unfold segBad;refine Qi λ_=>Qi λ_=>Qi λ_=>Qi λ_=>Ea (Qma _) (Qi λ_=>?_);unfold prevSeg;refine Ei λh=>?_;have f:0<i:=by have:=of_decide_eq_true h;omega
   have d:i-1<c.Segments.length:=by omega
   rw[Qey b f (by omega) (XR d),XR d];simp only[XQ];exact Ea (Qmf _ _) (Qa _)
  .cases segBad c i (c.Segments[i])<;>exact Qa _
 .unfold F_jd;simp only[YD,cond_false];exact Qa _
theorem QkA(l:List Int)(q:Int->Bool):(List.range l.length).all (λu=> !q ((l[u]?).getD 0))= !l.any q:=by
 rw[X6,QjU,Bool.not_eq_true',Bool.eq_false_iff];constructor
 .intro h e;obtain⟨x,b,d⟩:=Xx.1 e;obtain⟨i,a,f⟩:=List.mem_iff_getElem.1 b;have:=h i a;rw[XR a,f]at this;simp[d]at this
 .intro h i a;rw[XR a];cases z:q ((some l[i]).getD 0)with
  |false=>rfl
  |true=>exact(h (Xx.2 ⟨l[i],Vl a,z⟩)).elim
theorem Qmd(c:Clocks)(h0:c.Segments.length<=1048576)(p:∀r∈c.Far,r.length<=1048576)(m:c.Far.length=c.Segments.length+1):
  Ev (λn=>iter (F_ir n c) n 0) (bif rowsB c then Ctl.cont ()else Ctl.done 160):=by
 unfold rowsB;rw[m];refine Yf (c.Segments.length+1) _ _ _ (λi k=>?_) ?_
 .have d:i<c.Far.length:=by omega
  have g:=XR d;unfold F_ir;simp only[leN k,cond_true,Qm g,g,XQ,QZ h0,QZ (show i<=1048576 by omega)];have j:(c.Far[i]).length<=1048576:=p _ (Vl d);refine Ea (v:=((c.Far[i]).length:Int) != ((c.Segments.length+1:Nat):Int)||((c.Far[i])[i]?.getD 1 != 0)) ?_ ?_
  .refine Qi λh=>?_;have a:(c.Far[i]).length=c.Segments.length+1:=by
    have:((c.Far[i]).length:Int)=((c.Segments.length+1:Nat):Int):=by simpa[bne]using h
    omega
   have b:i<(c.Far[i]).length:=by omega
   rw[Qm (XR b),XR b];exact Qa _
  .unfold rowB;cases q:(((c.Far[i]).length:Int) != ((c.Segments.length+1:Nat):Int))with
   |true=>exact Qa _
   |false=>
    have a:(c.Far[i]).length=c.Segments.length+1:=by
     have:((c.Far[i]).length:Int)=((c.Segments.length+1:Nat):Int):=by simpa[bne]using q
     omega
    simp only[Bool.false_or];cases(c.Far[i])[i]?.getD 1 != 0 with
    |true=>exact Qa _
    |false=>
     simp only[Bool.false_or,cond_false];rw[<- QkA,a];refine Ea (Yf (c.Segments.length+1) (λu=> !farBad (((c.Far[i])[u]?).getD 0)) (Ctl.done (Ctl.done (Ctl.done 160))) (Ctl.cont ()) (λu l=>?_) ?_) ?_
     .have f:u<(c.Far[i]).length:=by omega
      have e:=XR f;unfold F_kl;simp only[leN l,cond_true,Qm g,Qm e,e,XQ,Option.getD_some,QZ (show u<=1048576 by omega)];refine Ea (v:=farBad (c.Far[i])[u]) (by unfold farBad;exact Qi λ_=>Qa _) ?_;cases farBad (c.Far[i])[u]<;>exact Qa _
     .unfold F_kl;simp only[Qj0,cond_false];exact Qa _
     .cases(List.range (c.Segments.length+1)).all λu=> !farBad (((c.Far[i])[u]?).getD 0)<;>exact Qa _
 .unfold F_ir;simp only[Qj0,cond_false];exact Qa _
theorem QnK(c:Clocks)(d:Dims c):Ev (λn=>iter (F_ij n c) n 0) (bif triB c then Ctl.cont ()else Ctl.done 160):=by
 have p:=d.segs;unfold triB;refine Yf (c.Segments.length+1) _ _ _ (λi a=>?_) ?_
 .unfold F_ij;have g:=(d.get a a).1;simp only[leN a,cond_true,QZ (show i<=1048576 by omega)];refine Ea (Yf (c.Segments.length+1) (λj=>(List.range (c.Segments.length+1)).all λk=> !decide (IntKind.i64.wrap (farG c i j+farG c j k)<farG c i k)) (Ctl.done (Ctl.done (Ctl.done 160))) (Ctl.cont ()) (λj b=>?_) ?_) ?_
  .unfold F_js;have l:=(d.get a b).2;have f:=(d.get b b).1;simp only[leN b,cond_true,QZ (show j<=1048576 by omega)];refine Ea (Yf (c.Segments.length+1) (λk=> !decide (IntKind.i64.wrap (farG c i j+farG c j k)<farG c i k)) (Ctl.done (Ctl.done (Ctl.done (Ctl.done (Ctl.done 160))))) (Ctl.cont ()) (λk e=>?_) ?_) ?_
   .unfold F_jw;have h:=(d.get b e).2;have m:=(d.get a e).2;simp only[leN e,cond_true,Qm g,Qm l,Qm f,Qm h,Qm m,XQ,QZ (show k<=1048576 by omega)];cases decide (IntKind.i64.wrap (farG c i j+farG c j k)<farG c i k)<;>exact Qa _
   .unfold F_jw;simp only[Qj0,cond_false];exact Qa _
   .cases(List.range (c.Segments.length+1)).all λk=> !decide (IntKind.i64.wrap (farG c i j+farG c j k)<farG c i k)<;>exact Qa _
  .unfold F_js;simp only[Qj0,cond_false];exact Qa _
  .cases(List.range (c.Segments.length+1)).all λj=>(List.range (c.Segments.length+1)).all λk=> !decide (IntKind.i64.wrap (farG c i j+farG c j k)<farG c i k)<;>exact Qa _
 .unfold F_ij;simp only[Qj0,cond_false];exact Qa _
theorem Qjn(c:Clocks)(w:ClkW c):Ev (λn=>F_aw n c) (bif clkB c then 0 else 160):=by
 unfold F_aw clkB;simp only[QZ w.segs];refine Ea (Qi λ_=>Qa _) ?_;cases a:(decide (511<(c.Segments.length:Int))||((c.Far.length:Int) != ((c.Segments.length+1:Nat):Int)))with
 |true=>exact Qa _
 |false=>
  simp only[Xi,Bool.true_and,X5,decide_eq_false_iff_not]at a⊢;have b:c.Far.length=c.Segments.length+1:=by
   have:(c.Far.length:Int)=((c.Segments.length+1:Nat):Int):=by simpa[bne]using a.2
   omega
  refine Q6 (Ea (Qmb c w.segs) ?_);cases segsB c with
  |false=>exact Qa _
  |true=>
   refine Ea (Qmd c w.segs w.row b) ?_;cases d:rowsB c with
   |false=>exact Qa _
   |true=>
    refine Ea (QnK c (QgA a.1 b d)) ?_;cases triB c<;>exact Qa _
theorem Qns(c:Clocks)(x:Outcome):outB c x= !(bif x.Out then((x.Seg != (-1))||((x.Lo != 0)||(x.Hi != 0)))else(decide (x.Seg<(-1))||(decide ((c.Segments.length:Int)<=x.Seg)||(decide (x.Lo<(-288230376151711744))||(decide (x.Hi<x.Lo)||decide (288230376151711744<x.Hi)))))):=by
 obtain⟨o,s,l,h⟩:=x;unfold outB;cases o with
 |true=>
  simp only[cond_true];rw[X6];simp[bne]
 |false=>
  simp only[cond_false,fineO];rw[X6];simp
theorem Qgv(c:Clocks)(w:ClkW c)(h:clkB c=true)(x:Outcome):Ev (λn=>F_dv n c x) (bif outB c x then 0 else 230):=by
 unfold F_dv;refine Ea (Qjn c w) ?_;rw[h];refine Q6 (Ea (v:= !outB c x) ?_ ?_)
 .rw[Qns,Bool.not_not];cases a:x.Out with
  |true=>
   simp only[cond_true,Xh,cond_false];exact Qi λ_=>Qi λ_=>(Qi λ_=>Qa _).eq (Bool.or_false _)
  |false=>
   simp only[cond_false,Xi,cond_true];exact Qi λ_=>Qi λ_=>Qi λ_=>Qi λ_=>Qa _
 .cases outB c x<;>exact Qa _
theorem QfF{α:Type}{l:List α}{i:Nat}(hl:l.length<=1048576)(hi:i<l.length):idx l (IntKind.i64.wrap (((i+1:Nat):Int)-1))=some l[i]:=
 Qey hl (Nat.succ_pos i) (by omega) (XR hi)
theorem Qka(f:Field)(g:f.Pairs.length<=1048576):Ev (λn=>iter (F_iy n f) n 0) (bif pairsB f then Ctl.cont ()else Ctl.done 240):=by
 unfold pairsB;refine Yf f.Pairs.length _ _ _ (λi d=>?_) ?_
 .have b:=atN g d;have e:lastP f (i+1)=f.Pairs[i]:=by show(f.Pairs[i]?).getD _=_;rw[XR d];rfl
  unfold F_iy;simp only[b.lt,cond_true,b.ix,XQ,b.nx,e];refine Ea (v:=decide ((f.Pairs[i]).A<1)||(decide ((f.Pairs[i]).B<=(f.Pairs[i]).A)||decide (9999<(f.Pairs[i]).B))) (Qi λ_=>Qi λ_=>Qa _) ?_;have a:pairBad f.Pairs[i] (lastP f i)=((decide ((f.Pairs[i]).A<1)||(decide ((f.Pairs[i]).B<=(f.Pairs[i]).A)||decide (9999<(f.Pairs[i]).B)))||(decide ((f.Pairs[i]).A<(lastP f i).A)||(((f.Pairs[i]).A==(lastP f i).A)&&decide ((f.Pairs[i]).B<=(lastP f i).B)))):=by
   unfold pairBad;simp only[Bool.or_assoc]
  rw[a];cases h:(decide ((f.Pairs[i]).A<1)||(decide ((f.Pairs[i]).B<=(f.Pairs[i]).A)||decide (9999<(f.Pairs[i]).B)))with
  |true=>exact Qa _
  |false=>
   simp only[X5,decide_eq_false_iff_not]at h;simp only[cond_false,Bool.false_or];refine Ea (v:=decide ((f.Pairs[i]).A<(lastP f i).A)||(((f.Pairs[i]).A==(lastP f i).A)&&decide ((f.Pairs[i]).B<=(lastP f i).B))) ?_ ?_
   .cases i with
    |zero=>
     have l:(decide ((f.Pairs[0]).A<(lastP f 0).A)||(((f.Pairs[0]).A==(lastP f 0).A)&&decide ((f.Pairs[0]).B<=(lastP f 0).B)))=false:=by
      have p:((f.Pairs[0]).A==(0:Int))=false:=beq_false_of_ne (by omega);show(decide ((f.Pairs[0]).A<0)||(((f.Pairs[0]).A==0)&&_))=false;rw[p,Q3 (show¬(f.Pairs[0]).A<0 by omega)];rfl
     rw[l];exact Qa _
    |succ j=>
     have m:lastP f (j+1)=f.Pairs[j]:=by show(f.Pairs[j]?).getD _=_;rw[XR (by omega)];rfl
     rw[m,QfF g (by omega)];simp only[Yp (show 0<((j+1:Nat):Int)by omega),cond_true,XQ];have k:((f.Pairs[j+1]).A==(f.Pairs[j]).A)=((f.Pairs[j]).A==(f.Pairs[j+1]).A):=by rw[X6];simp only[beq_iff_eq];exact⟨Eq.symm,Eq.symm⟩
     rw[k];exact Qi λ_=>Ei λ_=>Qa _
   .cases decide ((f.Pairs[i]).A<(lastP f i).A)||(((f.Pairs[i]).A==(lastP f i).A)&&decide ((f.Pairs[i]).B<=(lastP f i).B))<;>exact Qa _
 .unfold F_iy;simp only[YD,cond_false];exact Qa _
theorem QnN(x:Int):Ev (λn=>F_en n x) (inR 1 9999 x):=by
 unfold F_en F_hd inR;exact Ea (Ea (Ei λ_=>Qa _) (Qa _)) (Qa _)
theorem Qmc(f:Field)(k:FewF f)(h:clkB f.Clocks=true):Ev (λn=>iter (F_ih n f) n 0) (bif runsB f then Ctl.cont ()else Ctl.done 240):=by
 have P:=k.runs;have N:=k.pairs;unfold runsB;refine QgQ (λi=>(i:Int)) f.Runners.length _ _ _ rfl (λi J a=>?_) (λ_=>?_)
 .have d:=atN (by omega) J;have E:0<f.Runners.length:=by omega
  have r:idx f.Runners 0=some f.Runners[0]:=Qm (i:=0) (XR E);have s:keys0 f=(f.Runners[0]).Keys.length:=by unfold keys0;rw[XR E];rfl
  unfold F_ih runB;rw[d.get];simp only[d.lt,cond_true,d.ix,XQ,d.nx,r,QZ (show f.Pairs.length<=1048576 by omega)];refine Ea (v:=runBad f (lastB f i) f.Runners[i]) ?_ ?_
  .have t:0<=lastB f i:=by
    cases i with
    |zero=>exact Int.le_refl _
    |succ j=>
     have B:lastB f (j+1)=(f.Runners[j]).Bib:=by show((f.Runners[j]?).map (·.Bib)).getD 0=_;rw[XR (by omega)];rfl
     have M:∀m,m<=j->∀(l:m<f.Runners.length),1<=(f.Runners[m]).Bib:=by
      intro m
      induction m with
      |zero=>
       intro _ l;have:=a 0 (by omega);unfold runB at this;rw[XR l]at this;simp only[runBad,X4,Bool.not_eq_true',X5,decide_eq_false_iff_not]at this;have z:lastB f 0=0:=rfl;omega
      |succ m L=>
       intro G l;have u:=L (by omega) (by omega);have:=a (m+1) (by omega);unfold runB at this;rw[XR l]at this;simp only[runBad,X4,Bool.not_eq_true',X5,decide_eq_false_iff_not]at this;have z:lastB f (m+1)=(f.Runners[m]).Bib:=by show((f.Runners[m]?).map (·.Bib)).getD 0=_;rw[XR (by omega)];rfl
       omega
     have:=M j (X0 _) (by omega);omega
   have e:runBad f (lastB f i) f.Runners[i]=(!inR 1 9999 (f.Runners[i]).Bib||((decide (0<(i:Int))&&decide ((f.Runners[i]).Bib<=lastB f i))||((((f.Runners[i]).Keys.length:Int) != ((f.Runners[0]).Keys.length:Int))||(((f.Runners[i]).Worlds.length:Int) != ((f.Pairs.length+1:Nat):Int))))):=by
    unfold runBad inR;rw[s];generalize((((f.Runners[i]).Keys.length:Int) != ((f.Runners[0]).Keys.length:Int))||(((f.Runners[i]).Worlds.length:Int) != ((f.Pairs.length+1:Nat):Int)))=z;cases i with
    |zero=>
     have F:lastB f 0=0:=rfl;rw[F];cases z with
     |true=>simp
     |false=>
      rw[X6];simp;omega
    |succ j=>
     have u:decide (0<((j+1:Nat):Int))=true:=Yp (by omega);rw[u];cases z with
     |true=>simp
     |false=>
      rw[X6];simp;omega
   rw[e];refine Ea (QnN _) (Qi λ_=>?_);cases i with
   |zero=>
    have q:decide ((0:Int)<((0:Nat):Int))=false:=rfl;simp only[q,cond_false,Bool.false_and,Bool.false_or];exact Qi λ_=>Qa _
   |succ j=>
    have B:lastB f (j+1)=(f.Runners[j]).Bib:=by show((f.Runners[j]?).map (·.Bib)).getD 0=_;rw[XR (by omega)];rfl
    rw[B,QfF (by omega) (by omega)];simp only[Yp (show 0<((j+1:Nat):Int)by omega),cond_true,XQ,Bool.true_and];exact Qi λ_=>Qi λ_=>Qa _
  .cases runBad f (lastB f i) f.Runners[i]with
   |true=>exact Qa _
   |false=>
    have O:=k.wlds _ d.mem;have H:=k.outs _ d.mem;simp only[cond_false,Xi,Bool.true_and];have b:(f.Runners[i]).Worlds.flatten.all (outB f.Clocks)=(f.Runners[i]).Worlds.all λw=>w.all (outB f.Clocks):=by rw[List.all_flatten]
    rw[b];refine Ea (Yg (f.Runners[i]).Worlds (λw=>w.all (outB f.Clocks)) (Ctl.done (Ctl.done (Ctl.done 240))) (Ctl.cont ()) (by omega) (λj x g=>?_) ?_) ?_
    .unfold F_ke;simp only[g.lt,cond_true,g.nx];refine Ea (Yg x (outB f.Clocks) (Ctl.done (Ctl.done (Ctl.done (Ctl.done (Ctl.done 240))))) (Ctl.cont ()) (by have:=H x g.mem;omega) (λm y p=>?_) ?_) ?_
     .unfold F_kj;simp only[g.ix,XQ,p.lt,cond_true,p.ix,p.nx];refine Ea (Qgv _ k.clk h y) ?_;cases outB f.Clocks y<;>exact Qa _
     .unfold F_kj;simp only[g.ix,XQ,YD,cond_false];exact Qa _
     .cases x.all (outB f.Clocks)<;>exact Qa _
    .unfold F_ke;simp only[YD,cond_false];exact Qa _
    .cases(f.Runners[i]).Worlds.all λw=>w.all (outB f.Clocks)<;>exact Qa _
 .unfold F_ih;simp only[YD,cond_false];exact Qa _
theorem Qgw(f:Field)(k:FewF f)(h:WldOk f){w:Nat}(b:w<f.Pairs.length+1):Ev (λn=>F_ds n f (w:Int)) (openW f w):=by
 have e:=k.runs;unfold F_ds;refine Ea (Yg f.Runners (λr=> !(wld r w).isEmpty) (Ctl.done false) (Ctl.cont ()) (by omega) (λi x a=>?_) ?_) ?_
 .unfold F_jr;have d:=h x a.mem;simp only[a.lt,cond_true,a.ix,XQ,a.nx,Q3 (show¬(w:Int)<0 by omega),cond_false,Q3 (show¬(x.Worlds.length:Int)<=(w:Int)by omega),Qc0 h a.mem b,QaG];cases(wld x w).isEmpty<;>exact Qa _
 .unfold F_jr;simp only[YD,cond_false];exact Qa _
 .unfold openW;rw[<- QdX];cases f.Runners.all λr=> !(wld r w).isEmpty<;>exact Qa _
theorem Qme(f:Field)(k:FewF f)(h:WldOk f):Ev (λn=>F_dz n f) (possB f):=by
 have b:=k.pairs;unfold F_dz;have:Ev (λn=>iter (F_iw n f) n 0) (bif (List.range (f.Pairs.length+1)).all (λi=> !openW f i)then Ctl.cont ()else Ctl.done true):=by
  refine Yf (f.Pairs.length+1) _ _ _ (λi a=>?_) ?_
  .unfold F_iw;simp only[leN a,cond_true,QZ (show i<=1048576 by omega)];refine Ea (Qgw f k h a) ?_;cases openW f i<;>exact Qa _
  .unfold F_iw;simp only[Qj0,cond_false];exact Qa _
 refine Ea this ?_;unfold possB;rw[QdX];cases(List.range (f.Pairs.length+1)).any (openW f)<;>exact Qa _
theorem QfN(f:Field)(k:FewF f):Ev (λn=>F_dc n f) (bif fieldB f then 0 else 240):=by
 unfold F_dc fieldB;refine Ea (v:= !(clkB f.Clocks&& !(decide (16<(f.Pairs.length:Int))||(decide ((f.Runners.length:Int)<1)||decide (4000<(f.Runners.length:Int)))))) ?_ ?_
 .refine Ea (Qjn _ k.clk) ?_;cases clkB f.Clocks with
  |false=>exact Qa _
  |true=>
   simp only[Bool.true_and,Bool.not_not];exact Q6 (Qi λ_=>Qi λ_=>Qa _)
 .cases a:clkB f.Clocks&& !(decide (16<(f.Pairs.length:Int))||(decide ((f.Runners.length:Int)<1)||decide (4000<(f.Runners.length:Int))))with
  |false=>exact Qa _
  |true=>
   have d:clkB f.Clocks=true:=by simp only[X4]at a;exact a.1
   simp only[Xh,cond_false,Bool.true_and];refine Ea (Qka f (by have:=k.pairs;omega)) ?_;cases pairsB f with
   |false=>exact Qa _
   |true=>
    refine Ea (Qmc f k d) ?_;cases b:runsB f with
    |false=>exact Qa _
    |true=>
     refine Ea (Qme f k (Qeb b)) ?_;cases possB f<;>exact Qa _
theorem Qbk(f:Field)(k:FewF f)(h:WldOk f){w:Nat}(b:w<f.Pairs.length+1):Ev (λn=>F_ba n f (w:Int)) (openW f w):=by
 have e:=k.runs;unfold F_ba;refine Ea (v:=false) ?_ (Q6 (Ea (Yg f.Runners (λr=> !(wld r w).isEmpty) (Ctl.done false) (Ctl.cont ()) (by omega) (λi x a=>?_) ?_) ?_))
 .rw[Q3 (show¬(w:Int)<0 by omega),Q3 (show¬(f.Pairs.length:Int)<(w:Int)by omega)];exact Qa _
 .unfold F_ju;have d:=h x a.mem;simp only[a.lt,cond_true,a.ix,XQ,a.nx,Q3 (show¬(x.Worlds.length:Int)<=(w:Int)by omega),cond_false,Qc0 h a.mem b,QaG];cases(wld x w).isEmpty<;>exact Qa _
 .unfold F_ju;simp only[YD,cond_false];exact Qa _
 .unfold openW;rw[<- QdX];cases f.Runners.all λr=> !(wld r w).isEmpty<;>exact Qa _
theorem Qde{c:Clocks}(d:Dims c)(h:rowsB c=true){i j:Nat}(b:i<c.Segments.length+1)(k:j<c.Segments.length+1): -2199023255552<=farG c i j/\farG c i j<=2199023255552:=by
 have a:i<c.Far.length:=by rw[d.far];exact b
 obtain⟨l,g⟩:=d.get b k;have:=QjU.1 h i a;rw[l]at this;simp only[rowB,Bool.not_eq_true',X5]at this;have e:=this.2.2;have f:farG c i j∈(c.Far[i]?.getD []):=List.mem_of_getElem? g;have:farBad (farG c i j)=false:=by
  cases z:farBad (farG c i j)with
  |false=>rfl
  |true=>rw[Xx.2 ⟨_,f,z⟩]at e;cases e
 simp only[farBad,X5,decide_eq_false_iff_not]at this;omega
theorem FieldOk.rows{f:Field}(o:FieldOk f):rowsB f.Clocks=true:=by
 have:=o.ok;simp only[fieldB,clkB,X4]at this;exact this.1.1.2.2.1
theorem Qko(f:Field)(e:FewF f)(k:Int):Ev (λn=>F_x n f k) (bif fieldB f then bif decide (k<1)then([],310)else((candP (allP f) k).map (·.Bib),0)else([],240)):=by
 have j:=e.runs;have h:(candP (allP f) k).length<=6:=by
  have:(candP (allP f) k).length<=(allP f).length:=List.length_filter_le ..;rw[QcG]at this;omega
 unfold F_x;refine Ea (Qmv f e) ?_;cases g:fieldB f with
 |false=>exact Qa _
 |true=>
  simp only[cond_true,bne_self_eq_false,cond_false];refine Ym (λ_=>Qa _) λ_=>?_;refine Ea (QhF (allP f) k (by rw[QcG];omega)) ?_;refine Ea (Qoc (step:=λn=>F_hv n (candP (allP f) k)) (candP (allP f) k) (·.Bib) (by omega) (λi x a b d=>?_) λa=>?_) (Qa _)
  .have:=b.lt';unfold F_hv;simp only[b.lt,cond_true,b.ix,XQ,b.nx,QaV (show a.length<=140737488 by omega)];exact Qa _
  .unfold F_hv;simp only[YD,cond_false];exact Qa _
def soleR(all:List Rank)(x:Int):Option Rank:=match candP all x with
 |[r]=>bif r.Kind==1 then some r else none
 |_=>none
def openB(all:List Rank)(x:Int):Bool:= !(candP all x).isEmpty&&(soleR all x).isNone
theorem QnV(all:List Rank)(s:List Int×MapI)(x v:Int):divS all s (x,v)=match soleR all x with
  |some r=>(s.1,QR s.2 r.Bib v)
  |none=>bif openB all x then(s.1++[x],s.2)else s:=by
 unfold divS openB soleR;cases candP all x with
 |nil=>rfl
 |cons r t=>
  cases t with
  |nil=>cases q:(r.Kind==1)<;>simp[q]
  |cons y t=>simp
theorem Qjt(all:List Rank)(g:Int->Int)(b v:Int):∀(ks:List Int) (s:List Int×MapI),YI ((ks.map λk=>(k,g k)).foldl (divS all) s).2 b=some v->
  YI s.2 b=some v\/ ∃x∈ks,∃r,soleR all x=some r/\r.Bib=b/\v=g x
 |[],s,h=>.inl h
 |x::ks,s,h=>by
  rw[Vr,XK]at h;rcases Qjt all g b v ks _ h with q|⟨y,hy,q⟩
  .rw[QnV]at q;cases hr:soleR all x with
   |none=>
    rw[hr]at q;simp only at q;cases z:openB all x<;>rw[z]at q<;>exact .inl q
   |some r=>
    rw[hr]at q;simp only at q;rw[QbS]at q;by_cases e:b=r.Bib
    .rw[if_pos e]at q;exact .inr ⟨x,Vc ..,r,hr,e.symm,(X7 q).symm⟩
    .rw[if_neg e]at q;exact .inl q
  .exact .inr ⟨y,Vd _ hy,q⟩
theorem QmH{all:List Rank}{x:Int}{r:Rank}(h:r∈candP all x):r∈all/\(r.Kind != 3)=true/\r.Lo<=x/\x<=r.Hi:=by
 obtain⟨b,a⟩:=Xe.1 h;simp only[candB,X4,decide_eq_true_eq]at a;exact⟨b,a.1,a.2.1,a.2.2⟩
theorem Qnj{f:Field}{x:Int}{r:Rank}(h:soleR (allP f) x=some r):∃i,i<f.Runners.length/\ofP f i=r/\(r.Kind==1)=true/\r.Lo=x/\1<=x/\x<=(f.Runners.length:Int):=by
 unfold soleR at h
 match hc:candP (allP f) x,h with
 |[a],h=>
  simp only at h;cases q:(a.Kind==1)with
  |false=>rw[q]at h;cases h
  |true=>
   rw[q]at h;obtain rfl:a=r:=X7 h;obtain⟨g,k,m,l⟩:=QmH (show a∈candP (allP f) x by rw[hc];simp);obtain⟨i,d,e⟩:=Qn3 g;subst e;obtain⟨p,n,j⟩:=QlO d k;have:=j q;exact⟨i,d,rfl,q,by omega,by omega,by omega⟩
 |[],h=>cases h
 |a::b::t,h=>cases h
theorem QlU{m:MapI}(h:(m.map Prod.fst).Nodup):(keysS m).Nodup:=((QD ltI _).nodup_iff).2 h
def insP(p:Payment):List Payment->List Payment
 |[]=>[p]
 |q::l=>bif decide (q.Bib<p.Bib)then q::insP p l else p::q::l
def posP(p:Payment):List Payment->Nat
 |[]=>0
 |q::l=>bif decide (q.Bib<p.Bib)then posP p l+1 else 0
theorem Qja(p:Payment):∀l,posP p l<=l.length
 |[]=>X0 _
 |q::l=>by
  unfold posP;have:=Qja p l;cases decide (q.Bib<p.Bib)<;>simp;omega
theorem Qhf(p:Payment):∀l,l.take (posP p l)++p::l.drop (posP p l)=insP p l
 |[]=>rfl
 |q::l=>by
  unfold posP insP;cases decide (q.Bib<p.Bib)with
  |false=>rfl
  |true=>simp only[cond_true,List.take_succ_cons,List.drop_succ_cons,List.cons_append,Qhf p l]
theorem QbG(p x:Payment):∀l,x∈insP p l↔x=p\/x∈l
 |[]=>by simp[insP]
 |q::l=>by
  unfold insP;have:=QbG p x l;cases decide (q.Bib<p.Bib)with
  |false=>simp
  |true=>
   simp only[cond_true,Ve,this];constructor
   .rintro(h|h|h)
    .exact .inr (.inl h)
    .exact .inl h
    .exact .inr (.inr h)
   .rintro(h|h|h)
    .exact .inr (.inl h)
    .exact .inl h
    .exact .inr (.inr h)
theorem QlY(p:Payment)(l:List Payment):(insP p l).length=l.length+1:=by
 rw[<- Qhf];simp;have:=Qja p l;omega
def ltB(p q:Payment):Prop:=p.Bib<q.Bib
theorem Qdw(p:Payment):∀l,l.Pairwise ltB->(∀q∈l,q.Bib≠p.Bib)->(insP p l).Pairwise ltB
 |[],_,_=>by simp[insP]
 |q::l,h,hn=>by
  unfold insP;have h1:=Xc.1 h;have hne:=hn q (Vc ..);by_cases hq:q.Bib<p.Bib
  .rw[Yp hq];refine Xc.2 ⟨λx hx=>?_,Qdw p l h1.2 λy hy=>hn y (Vd _ hy)⟩;rcases(QbG p x l).1 hx with rfl|hx
   .exact hq
   .exact h1.1 x hx
  .rw[Q3 hq];refine Xc.2 ⟨λx hx=>?_,h⟩;rcases Ve.1 hx with rfl|hx
   .show p.Bib<x.Bib;omega
   .have:q.Bib<x.Bib:=h1.1 x hx;show p.Bib<x.Bib;omega
def offG(h:History)(j:Nat):Int:=((0::h.Offsets)[j]?).getD 0
def wN(h:History):Nat:=h.World.toNat
def xG(h:History)(i:Nat):Int:=((h.Choices[i]?).map (·.X)).getD 0
def oiG(h:History)(i:Nat):Int:=((h.Choices[i]?).map (·.Outcome)).getD 0
def z_Oc:Outcome:={Out:=true,Seg:=(-1),Lo:=0,Hi:=0}
def outG(f:Field)(h:History)(i:Nat):Outcome:=((wldF f i (wN h))[(oiG h i).toNat]?).getD z_Oc
def netG(f:Field)(h:History)(i:Nat):Int:=xG h i+offG h (sg (outG f h i))
def fitX(x:Outcome)(v:Int):Bool:=bif x.Out then v==0 else decide (x.Lo<=v)&&decide (v<=x.Hi)
structure Adm (f:Field) (h:History):Prop where
 w0:0<=h.World
 wlt:wN h<f.Pairs.length+1
 opn:openW f (wN h)=true
 ol:h.Offsets.length=f.Clocks.Segments.length
 cl:h.Choices.length=f.Runners.length
 off:∀a b,a<f.Clocks.Segments.length+1->b<f.Clocks.Segments.length+1->offG h b-offG h a<=farG f.Clocks a b
 ch:∀i,i<f.Runners.length->0<=oiG h i/\(oiG h i).toNat<(wldF f i (wN h)).length/\fitX (outG f h i) (xG h i)=true
def frontG(f:Field)(h:History)(i k:Nat):Bool:= !(outG f h k).Out&&(decide (netG f h k<netG f h i)||((netG f h k==netG f h i)&&decide (cmpL (keysF f k) (keysF f i)<0)))
def rankG(f:Field)(h:History)(i:Nat):Nat:=bif (outG f h i).Out then 0 else 1+cntR (frontG f h i) f.Runners.length
theorem Qdh{p q:Nat->Bool}:∀{k:Nat},(∀i,i<k->p i=true->q i=true)->cntR p k<=cntR q k
 |0,_=>by simp[cntR]
 |k+1,h=>by
  have:=Qdh (k:=k) λi hi=>h i (by omega);have h2:=h k (by omega);rw[QaD,QaD];cases hp:p k with
  |false=>cases q k<;>simp<;>omega
  |true=>rw[h2 hp];simp;omega
theorem Qkt(a:Int):cmpI a a=0:=by
 unfold cmpI;rw[decide_eq_false (show¬a<a by omega)];rfl
theorem Qdi:∀l,cmpL l l=0
 |[]=>rfl
 |x::l=>by
  unfold cmpL;rw[Qkt];exact Qdi l
theorem Qa0{f:Field}{h:History}(a:Adm f h){i:Nat}(b:i<f.Runners.length):(wldF f i (wN h))[(oiG h i).toNat]?=some (outG f h i):=by
 obtain⟨g,d,e⟩:=a.ch i b;unfold outG;rw[XR d];rfl
theorem Jh{f:Field}(o:FieldOk f){h:History}(a:Adm f h){i:Nat}(b:i<f.Runners.length):outB f.Clocks (outG f h i)=true:=by
 obtain⟨e,g,j,d⟩:=QaO o b a.wlt;exact d _ (List.mem_of_getElem? (Qa0 a b))
theorem Qbl{c:Clocks}(b:c.Segments.length<=511){x:Outcome}(h:outB c x=true)(a:x.Out=false):sg x<c.Segments.length+1/\ -288230376151711744<=x.Lo/\x.Lo<=x.Hi/\x.Hi<=288230376151711744:=by
 refine⟨(Qg0 b h a).1,?_⟩;unfold outB at h;rw[a]at h;simp only[cond_false,fineO,X4,decide_eq_true_eq]at h;omega
theorem Qov{f:Field}(o:FieldOk f){x y:Outcome}(h:outB f.Clocks x=true)(a:x.Out=false)(g:outB f.Clocks y=true)(b:y.Out=false):
  diffD true f.Clocks x y=y.Hi+farG f.Clocks (sg x) (sg y)-x.Lo/\diffD false f.Clocks x y=y.Lo-farG f.Clocks (sg y) (sg x)-x.Hi:=by
 have d:=o.dims.segs;obtain⟨e,i,l,j⟩:=Qbl d h a;obtain⟨y1,y2,p,q⟩:=Qbl d g b;have m:=Qde o.dims o.rows e y1;have k:=Qde o.dims o.rows y1 e;unfold diffD gapD;simp only[cond_true,cond_false];constructor
 .rw[QJ (n:=y.Hi+farG f.Clocks (sg x) (sg y)) (by omega) (by omega),QJ (by omega) (by omega)]
 .rw[QJ (n:=0-farG f.Clocks (sg y) (sg x)) (by omega) (by omega),QJ (n:=y.Lo+(0-farG f.Clocks (sg y) (sg x))) (by omega) (by omega),QJ (by omega) (by omega)];omega
theorem QcC{x:Outcome}{v:Int}(h:fitX x v=true)(a:x.Out=false):x.Lo<=v/\v<=x.Hi:=by
 unfold fitX at h;rw[a]at h;simpa using h
theorem Ql3{f:Field}(o:FieldOk f){h:History}(a:Adm f h){i k:Nat}(e:i<f.Runners.length)(j:k<f.Runners.length)(g:(outG f h i).Out=false)(d:aheadD true f i (outG f h i) k (outG f h k)=true):frontG f h i k=true:=by
 unfold aheadD at d;unfold frontG;cases b:(outG f h k).Out with
 |true=>rw[b]at d;cases d
 |false=>
  rw[b]at d;have l:=o.dims.segs;obtain⟨p,q,t,r⟩:=Qbl l (Jh o a e) g;obtain⟨y1,y2,u,w⟩:=Qbl l (Jh o a j) b;obtain⟨_,_,n⟩:=a.ch i e;obtain⟨_,_,m⟩:=a.ch k j;have n:=QcC n g;have m:=QcC m b;have s:=a.off _ _ p y1;rw[(Qov o (Jh o a e) g (Jh o a j) b).1]at d;simp only[cond_false,Bool.or_eq_true,X4,decide_eq_true_eq,beq_iff_eq,Xi,Bool.true_and]at d⊢;unfold netG;omega
theorem QlN{f:Field}(o:FieldOk f){h:History}(a:Adm f h){i k:Nat}(e:i<f.Runners.length)(j:k<f.Runners.length)(g:(outG f h i).Out=false)(d:frontG f h i k=true):aheadD false f i (outG f h i) k (outG f h k)=true:=by
 unfold aheadD;unfold frontG at d;cases b:(outG f h k).Out with
 |true=>rw[b]at d;cases d
 |false=>
  rw[b]at d;have l:=o.dims.segs;obtain⟨p,q,t,r⟩:=Qbl l (Jh o a e) g;obtain⟨y1,y2,u,w⟩:=Qbl l (Jh o a j) b;obtain⟨_,_,n⟩:=a.ch i e;obtain⟨_,_,m⟩:=a.ch k j;have n:=QcC n g;have m:=QcC m b;have s:=a.off _ _ y1 p;rw[(Qov o (Jh o a e) g (Jh o a j) b).2];simp only[cond_false,Bool.or_eq_true,X4,decide_eq_true_eq,beq_iff_eq,Xi,Bool.true_and]at d⊢;unfold netG at d;omega
theorem Qlm{f:Field}(o:FieldOk f){h:History}(a:Adm f h){i:Nat}(j:i<f.Runners.length)(g:(outG f h i).Out=false):rankAt true f (wN h) i (outG f h i)<=rankG f h i/\rankG f h i<=rankAt false f (wN h) i (outG f h i):=by
 have e:rankG f h i=1+cntR (frontG f h i) f.Runners.length:=by unfold rankG;rw[g];rfl
 unfold rankAt;rw[e];have m:cntR (rivalP true f (wN h) i (outG f h i)) f.Runners.length<=cntR (frontG f h i) f.Runners.length:=by
  refine Qdh λk d b=>?_;unfold rivalP chooseR at b;cases q:Nat.beq k i with
  |true=>rw[q]at b;cases b
  |false=>
   rw[q]at b;exact Ql3 o a j d g (Xw.1 b _ (List.mem_of_getElem? (Qa0 a d)))
 have l:cntR (frontG f h i) f.Runners.length<=cntR (rivalP false f (wN h) i (outG f h i)) f.Runners.length:=by
  refine Qdh λk d b=>?_;unfold rivalP chooseR;cases q:Nat.beq k i with
  |true=>
   obtain rfl:=XX q;unfold frontG at b;rw[Qdi]at b;simp at b
  |false=>exact Xx.2 ⟨_,List.mem_of_getElem? (Qa0 a d),QlN o a j d g b⟩
 omega
def HasP(best:Bool)(v:Int)(a:PlB):Prop:=a.2=true/\pref best v a.1.rank=false
theorem Qig{a:Bool}{v r s:Int}(h:pref a v s=false)(k:pref a r s=true):pref a v r=false:=by
 unfold pref at*;cases a<;>simp at* <;>omega
theorem Qhi{b:Bool}{f:Field}{i w:Nat}{v:Int}{a:PlB}(h:HasP b v a)(j:Nat):HasP b v (stepO b f i w a j):=by
 unfold stepO;cases(wldF f i w)[j]? with
 |none=>exact h
 |some x=>
  simp only;cases x.Out with
  |true=>exact h
  |false=>
   simp only[cond_false,h.1,Xh,Bool.false_or];cases q:pref b ((rankAt b f w i x:Nat):Int) a.1.rank with
   |false=>exact h
   |true=>exact⟨rfl,Qig h.2 q⟩
theorem QnA{b:Bool}{f:Field}{i w:Nat}{a:PlB}{j:Nat}{x:Outcome}(e:(wldF f i w)[j]?=some x)(g:x.Out=false):HasP b ((rankAt b f w i x:Nat):Int) (stepO b f i w a j):=by
 unfold stepO;rw[e];simp only[g,cond_false];cases d:a.2 with
 |false=>exact⟨rfl,by unfold pref;cases b<;>simp⟩
 |true=>
  simp only[Xh,Bool.false_or];cases q:pref b ((rankAt b f w i x:Nat):Int) a.1.rank with
  |false=>exact⟨d,q⟩
  |true=>exact⟨rfl,by unfold pref;cases b<;>simp⟩
theorem QcB{α:Type}{best:Bool}{v:Int}{g:PlB->α->PlB}(hk:∀a x,HasP best v a->HasP best v (g a x)):∀(l:List α) (a:PlB),(HasP best v a\/ ∃x∈l,∀a,HasP best v (g a x))->HasP best v (l.foldl g a)
 |[],a,h=>by
  rcases h with h|⟨x,hx,_⟩
  .exact h
  .cases hx
 |y::l,a,h=>by
  refine QcB hk l _ ?_;rcases h with h|⟨x,hx,q⟩
  .exact .inl (hk _ _ h)
  .rcases Ve.1 hx with rfl|hx
   .exact .inl (q a)
   .exact .inr ⟨x,hx,q⟩
theorem QfY(b:Bool){f:Field}{i w j:Nat}{x:Outcome}(g:w∈worldsN f)(e:(wldF f i w)[j]?=some x)(k:x.Out=false):HasP b ((rankAt b f w i x:Nat):Int) (driveP b f i):=by
 have d:j<(wldF f i w).length:=(XS.1 e).1;exact QcB (λa u h=>QcB (λa j h=>Qhi h j) _ _ (.inl h)) _ _ (.inr ⟨w,g,λa=>QcB (λa j h=>Qhi h j) _ _ (.inr ⟨j,by simpa using d,λa=>QnA e k⟩)⟩)
theorem Qo1{f:Field}{i:Nat}(h:(driveP true f i).2=true):((ofP f i).Kind != 3)=true/\(ofP f i).Lo=(driveP true f i).1.rank/\(ofP f i).Hi=(driveP false f i).1.rank:=by
 unfold ofP;rw[h];simp only[Xh,cond_false];cases((driveP true f i).1.rank==(driveP false f i).1.rank)&& !(rank0 f i).Out<;>exact⟨rfl,rfl,rfl⟩
theorem Qdj{f:Field}{h:History}(a:Adm f h):wN h∈worldsN f:=by
 unfold worldsN;exact Xe.2 ⟨by simpa using a.wlt,a.opn⟩
theorem QeY{f:Field}(o:FieldOk f){h:History}(a:Adm f h){i:Nat}(b:i<f.Runners.length)(d:(outG f h i).Out=false):candB ((rankG f h i:Nat):Int) (ofP f i)=true:=by
 obtain⟨n,q⟩:=Qlm o a b d;obtain⟨e,k⟩:=QfY true (Qdj a) (Qa0 a b) d;obtain⟨p,m⟩:=QfY false (Qdj a) (Qa0 a b) d;obtain⟨g,l,j⟩:=Qo1 e;unfold candB;rw[g,l,j];simp only[pref,cond_true,cond_false,decide_eq_false_iff_not]at k m;simp only[Bool.true_and,X4,decide_eq_true_eq];omega
theorem QnW{f:Field}{h:History}(a:Adm f h){i:Nat}(g:i<f.Runners.length)(b:((ofP f i).Kind==1)=true):(outG f h i).Out=false:=by
 have j:(rank0 f i).Out=false:=by
  unfold ofP at b;cases d:(driveP true f i).2 with
  |false=>rw[d]at b;cases b
  |true=>
   rw[d]at b;simp only[Xh,cond_false]at b;cases e:(rank0 f i).Out with
   |false=>rfl
   |true=>rw[e]at b;simp at b
 have d:outW f i (wN h)=false:=by
  cases q:outW f i (wN h)with
  |false=>rfl
  |true=>
   have:(rank0 f i).Out=true:=Xx.2 ⟨_,Qdj a,q⟩;rw[j]at this;cases this
 cases q:(outG f h i).Out with
 |false=>rfl
 |true=>
  have:outW f i (wN h)=true:=Xx.2 ⟨_,List.mem_of_getElem? (Qa0 a g),q⟩;rw[d]at this;cases this
theorem Qln{f:Field}{h:History}{i:Nat}(d:i<f.Runners.length):rankG f h i<=f.Runners.length:=by
 unfold rankG;cases(outG f h i).Out with
 |true=>exact X2 _
 |false=>
  simp only[cond_false];have a:∀k,cntR (frontG f h i) k+(if i<k then 1 else 0)<=k:=by
   intro k
   induction k with
   |zero=>simp[cntR]
   |succ k b=>
    rw[QaD];by_cases e:k=i
    .subst e;have:frontG f h k k=false:=by unfold frontG;rw[Qdi];simp
     rw[this];simp at b⊢;omega
    .cases frontG f h i k<;>simp<;>split at b<;>split<;>omega
  have:=a f.Runners.length;rw[if_pos d]at this;omega
def admO(c:Clocks)(h:History):Bool:=(List.range (c.Segments.length+1)).all λi=>(List.range (c.Segments.length+1)).all λj=>decide (offG h j-offG h i<=farG c i j)
theorem Qe2{c:Clocks}{h:History}(a:admO c h=true){i j:Nat}(b:i<c.Segments.length+1)(d:j<c.Segments.length+1):offG h j-offG h i<=farG c i j:=by
 have:=QjU.1 (QjU.1 a i b) j d;simpa using this
theorem Qgk(h:History){j:Nat}(b:j<h.Offsets.length+1):idx (0::h.Offsets) (j:Int)=some (offG h j):=by
 have a:j<(0::h.Offsets).length:=by simpa using b
 unfold offG;rw[XR a];exact Qm (XR a)
theorem Qn4{c:Clocks}(d:Dims c)(r:rowsB c=true){h:History}(i:h.Offsets.length=c.Segments.length)(a:admO c h=true):∀x∈(0:Int)::h.Offsets,-2199023255552<=x/\x<=2199023255552:=by
 intro x g;obtain⟨j,f,e⟩:=List.mem_iff_getElem.1 g;have b:j<c.Segments.length+1:=by simpa[i]using f
 have ex:offG h j=x:=by unfold offG;rw[XR f,e];rfl
 have m:offG h 0=0:=rfl;have k:=Qe2 a (Nat.succ_pos _) b;have p:=Qe2 a b (Nat.succ_pos _);have n:=Qde d r (Nat.succ_pos _) b;have l:=Qde d r b (Nat.succ_pos _);omega
theorem QjD{c:Clocks}{h:History}(b:∀x∈(0:Int)::h.Offsets,-1125899906842624<=x/\x<=1125899906842624){i j:Nat}(d:i<h.Offsets.length+1)(f:j<h.Offsets.length+1):
  decide (farG c i j<IntKind.i64.wrap (offG h j-offG h i))= !decide (offG h j-offG h i<=farG c i j):=by
 have mem:∀k,k<h.Offsets.length+1->offG h k∈(0:Int)::h.Offsets:=by
  intro k e;have a:k<((0:Int)::h.Offsets).length:=by simpa using e
  unfold offG;rw[XR a];exact Vl a
 have l:=b _ (mem i d);have g:=b _ (mem j f);rw[QJ (by omega) (by omega), <- decide_not,decide_eq_decide];omega
def wideB(b x:Int):Bool:=decide (x< -b)||decide (b<x)
theorem QiT{b:Int}{l:List Int}(h:l.any (wideB b)=false):∀x∈l,-b<=x/\x<=b:=by
 intro x a;cases q:wideB b x with
 |true=>rw[Xx.2 ⟨x,a,q⟩]at h;cases h
 |false=>
  simp only[wideB,X5,decide_eq_false_iff_not]at q;omega
theorem QgW{c:Clocks}(d:Dims c)(r:rowsB c=true){h:History}(g:h.Offsets.length=c.Segments.length){b:Int}(i:2199023255552<=b)(f:((0:Int)::h.Offsets).any (wideB b)=true):admO c h=false:=by
 cases a:admO c h with
 |false=>rfl
 |true=>
  obtain⟨x,e,q⟩:=Xx.1 f;have:=Qn4 d r g a x e;simp only[wideB,Bool.or_eq_true,decide_eq_true_eq]at q;omega
theorem Qiv(c:Clocks)(d:Dims c)(r:rowsB c=true)(h:History)(s:h.Offsets.length=c.Segments.length):Ev (λn=>F_dp n c h.Offsets) (admO c h):=by
 have t:=d.segs;unfold F_dp;refine Ea (v:=(0:Int)::h.Offsets) (Ez (QdW [0] h.Offsets (by simp only[X8,List.length_nil];omega))) ?_;refine Ea (v:=((0:Int)::h.Offsets).any (wideB 2199023255552)) ?_ ?_
 .unfold F_gb F_gv;refine Ev.contains _ (wideB 2199023255552) (λn x=>F_ay n x) (by simp only[X8];omega) λx _=>?_;unfold F_ay wideB;exact Ea (Qi λ_=>Qa _) (Qa _)
 .cases m:((0:Int)::h.Offsets).any (wideB 2199023255552)with
  |true=>rw[QgW d r s (Int.le_refl _) m];exact Qa _
  |false=>
   have q:∀x∈(0:Int)::h.Offsets,-1125899906842624<=x/\x<=1125899906842624:=λx p=>by have:=QiT m x p;omega
   have e:admO c h=(List.range c.Far.length).all λi=>(List.range (c.Segments.length+1)).all λj=>decide (offG h j-offG h i<=farG c i j):=by unfold admO;rw[d.far]
   rw[e];refine Q6 (Ea (Yf c.Far.length (λi=>(List.range (c.Segments.length+1)).all λj=>decide (offG h j-offG h i<=farG c i j)) (Ctl.done false) (Ctl.cont ()) (λi k=>?_) ?_) ?_)
   .have b:i<c.Segments.length+1:=by rw[<- d.far];exact k
    have g:=(d.get b b).1;unfold F_kd;simp only[ltN k,cond_true,Qm g,XQ,QZ (show i<=1048576 by omega)];have a:=d.row i k;refine Ea (v:=bif (List.range (c.Segments.length+1)).all λj=>decide (offG h j-offG h i<=farG c i j)then Ctl.cont ()else Ctl.done (Ctl.done (Ctl.done false))) ?_ ?_
    .have:=Yf (step:=λn=>F_ja n (0::h.Offsets) (i:Int) (c.Far[i]?.getD [])) (c.Far[i]?.getD []).length (λj=>decide (offG h j-offG h i<=farG c i j)) (Ctl.done (Ctl.done (Ctl.done false))) (Ctl.cont ()) (λj l=>?_) ?_
     .rw[a]at this;exact this
     .have f:j<c.Segments.length+1:=by rw[<- a];exact l
      unfold F_ja;simp only[ltN l,cond_true,Qm (d.get b f).2,Qgk h (show j<h.Offsets.length+1 by omega),Qgk h (show i<h.Offsets.length+1 by omega),XQ,QZ (show j<=1048576 by omega),QjD q (show i<h.Offsets.length+1 by omega) (show j<h.Offsets.length+1 by omega)];cases decide (offG h j-offG h i<=farG c i j)<;>exact Qa _
     .unfold F_ja;simp only[geN (X0 _),cond_false];exact Qa _
    .cases(List.range (c.Segments.length+1)).all λj=>decide (offG h j-offG h i<=farG c i j)<;>exact Qa _
   .unfold F_kd;simp only[geN (X0 _),cond_false];exact Qa _
   .cases(List.range c.Far.length).all λi=>(List.range (c.Segments.length+1)).all λj=>decide (offG h j-offG h i<=farG c i j)<;>exact Qa _
theorem QgC{h:History}{i:Nat}(a:i<h.Choices.length):idx h.Choices (i:Int)=some h.Choices[i]/\(h.Choices[i]).Outcome=oiG h i/\(h.Choices[i]).X=xG h i:=by
 unfold oiG xG;rw[XR a];exact⟨Qm (XR a),rfl,rfl⟩
def chB(f:Field)(h:History)(i:Nat):Bool:= !(decide (oiG h i<0)||decide (((wldF f i (wN h)).length:Int)<=oiG h i))&&fitX (outG f h i) (xG h i)
structure InW (f:Field) (h:History):Prop where
 w0:h.World=((wN h:Nat):Int)
 wlt:wN h<f.Pairs.length+1
 cl:h.Choices.length=f.Runners.length
theorem Qk2{f:Field}(o:FieldOk f){h:History}(q:InW f h){i:Nat}(b:i<f.Runners.length)(n:Nat):F_ab n ({f:=f,h:=h:history_view}) (i:Int)=some (wldF f i (wN h)):=by
 obtain⟨d,a,_,_⟩:=QaO o b q.wlt;unfold F_ab;simp only[d,XQ,q.w0,a]
theorem QlJ{f:Field}{h:History}{i:Nat}(b:(decide (oiG h i<0)||decide (((wldF f i (wN h)).length:Int)<=oiG h i))=false):idx (wldF f i (wN h)) (oiG h i)=some (outG f h i):=by
 simp only[X5,decide_eq_false_iff_not]at b;have e:oiG h i=(((oiG h i).toNat:Nat):Int):=by omega
 have a:(oiG h i).toNat<(wldF f i (wN h)).length:=by omega
 unfold outG;rw[e,Qm (XR a)];simp only[Int.toNat_natCast,XR a,Option.getD_some]
theorem Qof{f:Field}(o:FieldOk f){h:History}(q:InW f h){i:Nat}(a:i<f.Runners.length)(e:(decide (oiG h i<0)||decide (((wldF f i (wN h)).length:Int)<=oiG h i))=false)(n:Nat):F_ag n ({f:=f,h:=h:history_view}) (i:Int)=some (outG f h i):=by
 have b:i<h.Choices.length:=by rw[q.cl];exact a
 obtain⟨g,d,j⟩:=QgC b;unfold F_ag;simp only[Qk2 o q a,XQ,g,d,QlJ e]
theorem Qpc(x:Outcome)(v:Int):(decide (v<(bif x.Out then({x with Lo:=0,Hi:=0:Outcome})else x).Lo)||decide ((bif x.Out then({x with Lo:=0,Hi:=0:Outcome})else x).Hi<v))= !fitX x v:=by
 unfold fitX;cases x.Out with
 |true=>
  simp only[cond_true];rw[X6];simp<;>omega
 |false=>
  simp only[cond_false];rw[X6];simp<;>omega
theorem Qmk{f:Field}(o:FieldOk f){h:History}(q:InW f h):Ev (λn=>iter (F_jj n f h) n 0) (bif (List.range f.Runners.length).all (chB f h)then Ctl.cont ()else Ctl.done ({f:=f,h:=h:history_view},260)):=by
 have k:=o.few.runs;rw[<- q.cl];refine Yf h.Choices.length _ _ _ (λi b=>?_) ?_
 .have a:i<f.Runners.length:=by rw[<- q.cl];exact b
  obtain⟨e,g,d⟩:=QgC b;unfold F_jj;simp only[ltN b,cond_true,e,XQ,QZ (show i<=1048576 by omega),g,d,Qk2 o q a];refine Ea (v:=decide (oiG h i<0)||decide (((wldF f i (wN h)).length:Int)<=oiG h i)) (Qi λ_=>Qa _) ?_;unfold chB;cases j:decide (oiG h i<0)||decide (((wldF f i (wN h)).length:Int)<=oiG h i)with
  |true=>exact Qa _
  |false=>
   simp only[cond_false,Xi,Bool.true_and,Qof o q a j,XQ];refine Ea (v:=bif (outG f h i).Out then({outG f h i with Lo:=0,Hi:=0:Outcome})else outG f h i) (Ym (λ_=>Qa _) (λ_=>Qa _)) ?_;refine Ea (v:= !fitX (outG f h i) (xG h i)) ((Qi λ_=>Qa _).eq (Qpc _ _)) ?_;cases fitX (outG f h i) (xG h i)<;>exact Qa _
 .unfold F_jj;simp only[geN (X0 _),cond_false];exact Qa _
def admB(f:Field)(h:History):Bool:=
 !(decide (h.World<0)||(decide ((f.Pairs.length:Int)<h.World)||(!openW f (wN h)||(((h.Offsets.length:Int) != (f.Clocks.Segments.length:Int))||(((h.Choices.length:Int) != (f.Runners.length:Int))|| !admO f.Clocks h)))))&&(List.range f.Runners.length).all (chB f h)
theorem QiU{h:History}(h0:decide (h.World<0)=false):h.World=((wN h:Nat):Int):=by
 have:=of_decide_eq_false h0;unfold wN;omega
theorem Qc9{a b:Nat}(h:((a:Int) != (b:Int))=false):a=b:=by
 have:(a:Int)=(b:Int):=by simpa[bne]using h
 omega
theorem Qnf{f:Field}{h:History}(a:admB f h=true):Adm f h:=by
 unfold admB at a;simp only[X4,Bool.not_eq_true',X5,Bool.not_eq_false']at a;obtain⟨⟨k,q,g,d,p,l⟩,n⟩:=a;have e:=QiU k;refine⟨by omega,?_,g,Qc9 d,Qc9 p,λi j b m=>Qe2 l b m,λi b=>?_⟩
 .have:=of_decide_eq_false q;omega
 .have:=QjU.1 n i b;unfold chB at this;simp only[X4,Bool.not_eq_true',X5,decide_eq_false_iff_not]at this;refine⟨by omega,by omega,this.2⟩
theorem Adm.inw{f:Field}{h:History}(a:Adm f h):InW f h:=⟨by have:=a.w0;unfold wN;omega,a.wlt,a.cl⟩
theorem Qmi(f:Field)(o:FieldOk f){w:Nat}(b:w<f.Pairs.length+1):Ev (λn=>F_cc n f (w:Int)) (openW f w):=by
 have d:=o.few.runs;unfold F_cc;refine Ea (v:=f.Runners.any λr=>(wld r w).isEmpty) ?_ (Qa _);unfold F_gn F_hg;refine Ev.contains f.Runners (λr=>(wld r w).isEmpty) (λn x=>F_be n x (w:Int)) (by omega) λx a=>?_;unfold F_be;rw[Qc0 o.wlds a b];exact(Qa _).eq (QaG _)
theorem Qjo{f:Field}(o:FieldOk f)(h:History):Ev (λn=>F_ac n f h) (({f:=f,h:=h:history_view}),bif admB f h then 0 else 260):=by
 unfold F_ac;refine Ea (v:=0) ((QeQ f o.few).eq (by rw[o.ok];rfl)) ?_;refine Q6 ?_;unfold admB;generalize hA:(decide (h.World<0)||(decide ((f.Pairs.length:Int)<h.World)||(!openW f (wN h)||(((h.Offsets.length:Int) != (f.Clocks.Segments.length:Int))||(((h.Choices.length:Int) != (f.Runners.length:Int))|| !admO f.Clocks h)))))=A;refine Ea (v:=A) ?_ ?_
 .rw[<- hA];refine Qi λa=>Qi λb=>?_;have e:=QiU a;have i:wN h<f.Pairs.length+1:=by have:=of_decide_eq_false b;omega
  rw[e];refine Ea (Qmi f o i) (Qi λ_=>Qi λd=>Qi λg=>?_);exact Ea (Qiv f.Clocks o.dims o.rows h (Qc9 d)) (Qa _)
 .cases A with
  |true=>exact Qa _
  |false=>
   simp only[X5]at hA;obtain⟨a,b,j,d,g,k⟩:=hA;have e:=QiU a;refine Q6 (Ea (Qmk o ⟨e,by have:=of_decide_eq_false b;omega,Qc9 g⟩) ?_);cases(List.range f.Runners.length).all (chB f h)<;>exact Qa _
theorem Qkd{f:Field}(o:FieldOk f)(h:History):Ev (λn=>F_do n f h) (bif admB f h then 0 else 260):=by
 unfold F_do;exact Ea (Qjo o h) (Qa _)
theorem Qpi{f:Field}{h:History}(a:Adm f h){i:Nat}(b:i<f.Runners.length):(decide (oiG h i<0)||decide (((wldF f i (wN h)).length:Int)<=oiG h i))=false:=by
 obtain⟨e,d,_⟩:=a.ch i b;rw[X5];exact⟨decide_eq_false (by omega),decide_eq_false (by omega)⟩
theorem x_bds{f:Field}(o:FieldOk f){h:History}(a:Adm f h){i:Nat}(b:i<f.Runners.length)(d:(outG f h i).Out=false): -288230376151711744<=xG h i/\xG h i<=288230376151711744:=by
 obtain⟨g,k,e,j⟩:=Qbl o.dims.segs (Jh o a b) d;have:=QcC (a.ch i b).2.2 d;omega
theorem Qnt{f:Field}(o:FieldOk f){h:History}(a:Adm f h){j:Nat}(b:j<f.Clocks.Segments.length+1): -2199023255552<=offG h j/\offG h j<=2199023255552:=by
 have d:=a.off _ _ (Nat.succ_pos _) b;have k:=a.off _ _ b (Nat.succ_pos _);have i:=Qde o.dims o.rows (Nat.succ_pos _) b;have e:=Qde o.dims o.rows b (Nat.succ_pos _);have g:offG h 0=0:=rfl;omega
theorem QlP{f:Field}(o:FieldOk f){h:History}(a:Adm f h){i:Nat}(d:i<f.Runners.length)(b:(outG f h i).Out=false):IntKind.i64.wrap (xG h i+offG h (sg (outG f h i)))=netG f h i:=by
 have e:=x_bds o a d b;have g:=Qnt o a (Qbl o.dims.segs (Jh o a d) b).1;exact QJ (by omega) (by omega)
theorem Qnk{f:Field}(o:FieldOk f){h:History}(a:Adm f h){i:Nat}(j:i<f.Runners.length)(g:(outG f h i).Out=false):(outG f h i).Seg<0/\offG h (sg (outG f h i))=0\/0<=(outG f h i).Seg/\idx h.Offsets (outG f h i).Seg=some (offG h (sg (outG f h i))):=by
 have d:=Jh o a j;have k:=(Qbl o.dims.segs d g).1;unfold outB at d;rw[g]at d;simp only[cond_false,fineO,X4,decide_eq_true_eq]at d;unfold sg at k⊢;by_cases q:(outG f h i).Seg<0
 .left;refine⟨q,?_⟩;rw[show((outG f h i).Seg+1).toNat=0 by omega];rfl
 .right;obtain⟨s,e⟩:∃s:Nat,(outG f h i).Seg=(s:Int):=⟨(outG f h i).Seg.toNat,by omega⟩;have b:s<h.Offsets.length:=by rw[a.ol];omega
  refine⟨by omega,?_⟩;rw[e,show((s:Int)+1).toNat=s+1 by omega];unfold offG;rw[XM,XR b];exact Qm (XR b)
def netV(f:Field)(h:History)(i:Nat):Int×Bool:=bif (outG f h i).Out then(0,false)else(netG f h i,true)
theorem Qml{f:Field}(o:FieldOk f){h:History}(a:Adm f h){i:Nat}(b:i<f.Runners.length):Ev (λn=>F_ah n ({f:=f,h:=h:history_view}) (i:Int)) (netV f h i):=by
 have q:=a.inw;obtain⟨k,l,j⟩:=QgC (show i<h.Choices.length by rw[q.cl];exact b);unfold F_ah netV;simp only[Qof o q b (Qpi a b),XQ];refine Ym (λ_=>Qa _) λg=>?_;simp only[k,XQ,j];refine Ea (v:=netG f h i) ?_ (Qa _);rcases Qnk o a b g with⟨e,d⟩|⟨e,d⟩
 .rw[Q3 (show¬0<=(outG f h i).Seg by omega)];refine(Qa _).eq ?_;unfold netG;rw[d,Int.add_zero]
 .rw[Yp e,d];exact(Qa _).eq (QlP o a b g)
abbrev PrI:=history_pair_int__int_
def timesL(f:Field)(h:History)(m:Nat):List PrI:=((List.range m).filter λk=> !(outG f h k).Out).map λ(k:Nat)=>({first:=(k:Int),second:=netG f h k}:PrI)
theorem Qdn(f:Field)(h:History)(m:Nat):timesL f h (m+1)=timesL f h m++(bif !(outG f h m).Out then[({first:=(m:Int),second:=netG f h m}:PrI)]else[]):=by
 unfold timesL;rw[Xz,List.filter_append,Xg];cases q:(outG f h m).Out<;>simp[q]
theorem Qd4(f:Field)(h:History)(m:Nat):(timesL f h m).length<=m:=by
 unfold timesL;rw[X9];exact X3 (List.length_filter_le ..) (by simp)
theorem Ql8{f:Field}(o:FieldOk f){h:History}(a:Adm f h):Ev (λn=>F_ef n ({f:=f,h:=h:history_view})) (timesL f h f.Runners.length):=by
 have e:=o.few.runs;unfold F_ef;refine Ea ?_ (Qa _);refine Ew (λm=>(timesL f h m,(m:Int))) f.Runners.length rfl (λm b=>?_) ?_
 .have d:=Qd4 f h m;unfold F_ko;simp only[ltN b,cond_true,QZ (show m<=1048576 by omega)];refine Ea (Qml o a b) ?_;rw[Qdn];unfold netV;cases(outG f h m).Out with
  |true=>exact(Qa _).eq (by simp)
  |false=>
   simp only[cond_false,cond_true,Xi,QaV (show(timesL f h m).length<=140737488 by omega),XQ];exact Qa _
 .unfold F_ko;simp only[geN (X0 _),cond_false];exact Qa _
def cmpT(f:Field)(p q:PrI):Int:=orL [cmpI p.second q.second,cmpL (keysF f p.first.toNat) (keysF f q.first.toNat)]
theorem QnQ{f:Field}(o:FieldOk f){i j:Nat}(a:i<f.Runners.length)(b:j<f.Runners.length)(h:History)(s t:Int):Ev (λn=>F_bq n ({f:=f,h:=h:history_view}) ({first:=(i:Int),second:=s:PrI}) ({first:=(j:Int),second:=t:PrI})) (cmpT f ({first:=(i:Int),second:=s:PrI}) ({first:=(j:Int),second:=t:PrI})):=by
 obtain⟨k,d⟩:=QbT a;obtain⟨e,g⟩:=QbT b;unfold F_bq cmpT;refine Ea (QeR _ _) ?_;simp only[k,e,XQ,Int.toNat_natCast,d,g];refine Ea (Qgz _ _ (Qa4 o a) (Qa4 o b)) ?_;exact Ea (Qos _ (by simp)) (Qa _)
theorem QlK(a b u:Int):decide (orL [cmpI a b,u]<0)=(decide (a<b)||((a==b)&&decide (u<0))):=by
 have e:orL [cmpI a b,u]=bif cmpI a b != 0 then cmpI a b else u:=by
  unfold orL orL orL;cases g:(u != 0)with
  |true=>rfl
  |false=>
   have:u=0:=by simpa[bne]using g
   rw[this];rfl
 rw[e];unfold cmpI;rcases Int.lt_trichotomy a b with q|q|q
 .simp[q]
 .subst q;simp
 .have f:¬a<b:=by omega
  have d:¬a=b:=by omega
  simp[q,f,d]
theorem QiB(f:Field)(h:History)(i k:Nat):decide (cmpT f ({first:=(k:Int),second:=netG f h k:PrI}) ({first:=(i:Int),second:=netG f h i:PrI})<0)=(decide (netG f h k<netG f h i)||((netG f h k==netG f h i)&&decide (cmpL (keysF f k) (keysF f i)<0))):=QlK _ _ _
theorem QdB(f:Field)(h:History)(i:Nat):∀m,((timesL f h m).filter λp=>decide (cmpT f p ({first:=(i:Int),second:=netG f h i:PrI})<0)).length=cntR (frontG f h i) m
 |0=>rfl
 |m+1=>by
  rw[Qdn,List.filter_append,Va,QdB f h i m,QaD];unfold frontG;rw[<- QiB];cases(outG f h m).Out with
  |true=>rfl
  |false=>
   simp only[Xi,cond_true,Bool.true_and,Xd,List.filter_nil];cases decide (cmpT f ({first:=(m:Int),second:=netG f h m:PrI}) ({first:=(i:Int),second:=netG f h i:PrI})<0)<;>rfl
theorem QjP{f:Field}{h:History}{m:Nat}{p:PrI}(a:p∈timesL f h m):∃k,k<m/\p={first:=(k:Int),second:=netG f h k}:=by
 unfold timesL at a;obtain⟨k,b,e⟩:=Xf.1 a;exact⟨k,by simpa using(Xe.1 b).1,e.symm⟩
theorem QhD{f:Field}(o:FieldOk f){h:History}(g:admB f h=true){i:Nat}(d:i<f.Runners.length):Ev (λn=>F_ai n f h (i:Int)) (((rankG f h i:Nat):Int),0):=by
 have a:=Qnf g;have w:=o.few.runs;unfold F_ai F_gt;refine Ea (v:=(({f:=f,h:=h:history_view}),0)) (Ea (Qjo o h) ?_) ?_
 .rw[g];simp only[cond_true,beq_self_eq_true,Q3 (show¬(i:Int)<0 by omega),cond_false,Q3 (show¬(f.Runners.length:Int)<=(i:Int)by omega),XQ];exact Qa _
 .simp only[bne_self_eq_false,cond_false];refine Ea (Qml o a d) ?_;unfold netV rankG;cases u:(outG f h i).Out with
  |true=>exact Qa _
  |false=>
   simp only[cond_false,Xh];refine Ea (Ql8 o a) ?_;have t:=Qd4 f h f.Runners.length;have m:=QdB f h i f.Runners.length;have s:=Qjw (frontG f h i) f.Runners.length;refine Ea (v:=((cntR (frontG f h i) f.Runners.length:Nat):Int)) ?_ ((Qa _).eq ?_)
   .rw[<- m];refine Ew (λj=>((((((timesL f h f.Runners.length).take j).filter λp=>decide (cmpT f p ({first:=(i:Int),second:=netG f h i:PrI})<0)).length:Nat):Int),(j:Int))) (timesL f h f.Runners.length).length rfl (λj r=>?_) ?_
    .have b:=atN (by omega) r;unfold F_kg;simp only[b.lt,cond_true,b.ix,XQ,b.nx];obtain⟨k,q,e⟩:=QjP b.mem;rw[b.take,List.filter_append,Va,e];refine Ea (QnQ o q d h _ _) ?_;have l:(((timesL f h f.Runners.length).take j).filter λp=>decide (cmpT f p ({first:=(i:Int),second:=netG f h i:PrI})<0)).length<=j:=X3 (List.length_filter_le ..) (by simp;omega);simp only[Xd,List.filter_nil];cases decide (cmpT f ({first:=(k:Int),second:=netG f h k:PrI}) ({first:=(i:Int),second:=netG f h i:PrI})<0)with
     |true=>
      refine(Qa _).eq ?_;rw[QZ (by omega)];rfl
     |false=>exact Qa _
    .unfold F_kg;simp only[geN (X0 _),cond_false,Vh];exact Qa _
   .rw[QZ (by omega),Nat.add_comm]
theorem QnD(x:Outcome)(v:Int):(bif x.Out then((v != 0)||(bif !x.Out then decide (v<x.Lo)||decide (x.Hi<v)else false))else(bif !x.Out then decide (v<x.Lo)||decide (x.Hi<v)else false))= !fitX x v:=by
 unfold fitX;cases x.Out with
 |true=>simp[bne]
 |false=>
  simp only[cond_false,Xi,cond_true];rw[X6];simp<;>omega
theorem QnM{f:Field}(o:FieldOk f)(h:History):Ev (λn=>F_da n f h) (admB f h):=by
 have N:=o.few.runs;have O:=o.dims.segs;unfold F_da;by_cases s:h.World<0\/(f.Pairs.length:Int)<h.World
 .have L:admB f h=false:=by
   unfold admB;have:(decide (h.World<0)||(decide ((f.Pairs.length:Int)<h.World)||(!openW f (wN h)||(((h.Offsets.length:Int) != (f.Clocks.Segments.length:Int))||(((h.Choices.length:Int) != (f.Runners.length:Int))|| !admO f.Clocks h)))))=true:=by
    rcases s with q|q<;>simp[q]
   rw[this];rfl
  rw[L];refine Ea (v:=true) (Ea (v:=false) ?_ (Qa _)) (Qa _);unfold F_ba;refine Ea (v:=true) ((Qi λ_=>Qa _).eq ?_) (Qa _);rcases s with q|q<;>simp[q]
 .have u:decide (h.World<0)=false:=decide_eq_false (by omega);have B:decide ((f.Pairs.length:Int)<h.World)=false:=decide_eq_false (by omega);have e:=QiU u;have b:wN h<f.Pairs.length+1:=by omega
  unfold admB;rw[u,B];simp only[Bool.false_or];cases k:openW f (wN h)with
  |false=>
   refine Ea (v:=true) (Ea (v:=false) ?_ (Qa _)) (Qa _);rw[e];exact(Qbk f o.few o.wlds b).eq k
  |true=>
   cases w:((h.Offsets.length:Int) != (f.Clocks.Segments.length:Int))with
   |true=>
    refine Ea (v:=true) (Ea (v:=true) ?_ (Qa _)) (Qa _);rw[e];exact(Qbk f o.few o.wlds b).eq k
   |false=>
    cases z:((h.Choices.length:Int) != (f.Runners.length:Int))with
    |true=>
     refine Ea (v:=true) (Ea (v:=true) ?_ (Qa _)) (Qa _);rw[e];exact(Qbk f o.few o.wlds b).eq k
    |false=>
     have t:=Qc9 w;have q:InW f h:=⟨e,b,Qc9 z⟩;refine Ea (v:=false) (Ea (v:=true) ?_ (Qa _)) ?_
     .rw[e];exact(Qbk f o.few o.wlds b).eq k
     refine Q6 ?_;refine Ea (v:=(0:Int)::h.Offsets) (Ez (QdW [0] h.Offsets (by simp only[X8,List.length_nil];omega))) ?_;refine Ea (Yg ((0:Int)::h.Offsets) (λx=> !wideB 1125899906842624 x) (Ctl.done false) (Ctl.cont ()) (by simp only[X8];omega) (λi x m=>?_) ?_) ?_
     .unfold F_jo;simp only[m.lt,cond_true,m.ix,XQ,m.nx];refine Ea (v:=wideB 1125899906842624 x) (by unfold wideB;exact Qi λ_=>Qa _) ?_;cases wideB 1125899906842624 x<;>exact Qa _
     .unfold F_jo;simp only[YD,cond_false];exact Qa _
     have r:(((0:Int)::h.Offsets).all λx=> !wideB 1125899906842624 x)= !((0:Int)::h.Offsets).any (wideB 1125899906842624):=by rw[List.not_any_eq_all_not]
     rw[r];cases g:((0:Int)::h.Offsets).any (wideB 1125899906842624)with
     |true=>
      rw[QgW o.dims o.rows t (by omega) g];exact Qa _
     |false=>
      have F:=QiT g;simp only[Xi,cond_true,Xh,Bool.false_or,Bool.or_false,Bool.not_not];have a:((0:Int)::h.Offsets).length=f.Clocks.Segments.length+1:=by simp[t]
      refine Ea (v:=bif admO f.Clocks h then Ctl.cont ()else Ctl.done false) ?_ ?_
      .unfold admO;rw[<- a];refine Yf _ _ _ _ (λi d=>?_) ?_
       .rw[a]at d;unfold F_ka;simp only[ltN (show i<((0:Int)::h.Offsets).length by rw[a];exact d),cond_true,QZ (show i<=1048576 by omega)];refine Ea (Yf ((0:Int)::h.Offsets).length (λj=>decide (offG h j-offG h i<=farG f.Clocks i j)) (Ctl.done (Ctl.done (Ctl.done false))) (Ctl.cont ()) (λj l=>?_) ?_) ?_
        .rw[a]at l;unfold F_jx;simp only[ltN (show j<((0:Int)::h.Offsets).length by rw[a];exact l),cond_true,Qm (o.dims.get d l).1,Qm (o.dims.get d l).2,Qgk h (show j<h.Offsets.length+1 by omega),Qgk h (show i<h.Offsets.length+1 by omega),XQ,QZ (show j<=1048576 by omega),QjD F (show i<h.Offsets.length+1 by omega) (show j<h.Offsets.length+1 by omega)];cases decide (offG h j-offG h i<=farG f.Clocks i j)<;>exact Qa _
        .unfold F_jx;simp only[geN (X0 _),cond_false];exact Qa _
        .cases(List.range ((0:Int)::h.Offsets).length).all λj=>decide (offG h j-offG h i<=farG f.Clocks i j)<;>exact Qa _
       .unfold F_ka;simp only[geN (X0 _),cond_false];exact Qa _
      .cases admO f.Clocks h with
       |false=>exact Qa _
       |true=>
        simp only[cond_true,Bool.true_and];refine Ea (v:=bif (List.range f.Runners.length).all (chB f h)then Ctl.cont ()else Ctl.done false) ?_ ?_
        .rw[<- q.cl];refine Yf h.Choices.length _ _ _ (λi d=>?_) ?_
         .have p:i<f.Runners.length:=by rw[<- q.cl];exact d
          obtain⟨J,H,G⟩:=QgC d;obtain⟨M,y,_,_⟩:=QaO o p q.wlt;unfold F_kn;rw[q.w0];simp only[ltN d,cond_true,M,y,J,XQ,QZ (show i<=1048576 by omega),H,G];refine Ea (v:=decide (oiG h i<0)||decide (((wldF f i (wN h)).length:Int)<=oiG h i)) (Qi λ_=>Qa _) ?_;unfold chB;cases E:decide (oiG h i<0)||decide (((wldF f i (wN h)).length:Int)<=oiG h i)with
          |true=>exact Qa _
          |false=>
           simp only[cond_false,Xi,Bool.true_and,QlJ E,XQ];refine Ea (v:= !fitX (outG f h i) (xG h i)) ((Ym (λ_=>Qi λ_=>Ym (λ_=>Qi λ_=>Qa _) (λ_=>Qa _)) (λ_=>Ym (λ_=>Qi λ_=>Qa _) (λ_=>Qa _))).eq (QnD _ _)) ?_;cases fitX (outG f h i) (xG h i)<;>exact Qa _
         .unfold F_kn;simp only[geN (X0 _),cond_false];exact Qa _
        .cases(List.range f.Runners.length).all (chB f h)<;>exact Qa _
theorem QeN{f:Field}(o:FieldOk f)(h:History):Ev (λn=>F_bn n f h) (bif admB f h then 0 else 260):=by
 unfold F_bn;refine Ea (v:=0) ((QfN f o.few).eq (by rw[o.ok];rfl)) ?_;refine Q6 ?_;refine Ea (QnM o h) ?_;cases admB f h<;>exact Qa _
def badA(x:Int):Bool:=decide (1125899906842624<x)||decide (x<(-1125899906842624))
def sumV:Int->List Int->Ctl Int (Int×Int)
 |n,[]=>.cont n
 |n,x::l=>bif badA x||badA (IntKind.i64.wrap (n+x))then .done (0,300)else sumV (IntKind.i64.wrap (n+x)) l
def sumP(l:List Int):Int×Int:=match sumV 0 l with
 |.cont n=>(n,0)
 |.done r=>r
theorem QnH{step:Nat->Int×Int->Option (Ctl (Int×Int) (Ctl Int (Int×Int)))}(l:List Int)(m:l.length<=1048576)
  (g:∀i x n,At l i x->Ev (λk=>step k (n,(i:Int))) (bif badA x||badA (IntKind.i64.wrap (n+x))then .done (.done (0,300))else .cont (IntKind.i64.wrap (n+x),((i+1:Nat):Int))))
  (h:∀n,Ev (λk=>step k (n,(l.length:Int))) (.done (.cont n))):Ev (λk=>Go.Sw.iter (step k) k (0,0)) (sumV 0 l):=by
 have loop:∀(r:List Int) (i:Nat) (n:Int),l.drop i=r->i<=l.length->EvI step (n,(i:Int)) (sumV n r):=by
  intro r
  induction r with
  |nil=>
   intro i n b e;have:i=l.length:=by have:=Xu.1 b;omega
   subst this;exact Ej (h n)
  |cons x r f=>
   intro i n b e;obtain⟨d,j⟩:=QT (by omega) b;have a:=g i x n d;unfold sumV;cases q:badA x||badA (IntKind.i64.wrap (n+x))with
   |true=>rw[q]at a;exact Ej a
   |false=>rw[q]at a;exact Eu a (f (i+1) _ j d.lt')
 exact(loop l 0 0 rfl (X2 _)).ev
theorem Qdg(x:Int):Ev (λn=>F_u n x) (bif badA x then 300 else 0):=by
 unfold F_u;refine Ea (v:=badA x) (by unfold badA;exact Qi λ_=>Qa _) ?_;cases badA x<;>exact Qa _
theorem Qoq(b:Bool):((bif b then(300:Int)else 0) != 0)=b:=by cases b<;>rfl
theorem Qmt(l:List Int)(b:l.length<=1048576):Ev (λn=>F_cy n l) (sumP l):=by
 unfold F_cy;refine Ea (QnH (step:=λn=>F_jc n l) l b (λi x n a=>?_) λn=>?_) ?_
 .unfold F_jc;simp only[a.lt,cond_true,a.ix,XQ,a.nx];refine Ea (v:=badA x||badA (IntKind.i64.wrap (n+x))) (Ea (Qdg x) ?_) ?_
  .rw[Qoq];refine Qi λ_=>Ea (Qdg _) ?_;rw[Qoq];exact Qa _
  .cases badA x||badA (IntKind.i64.wrap (n+x))<;>exact Qa _
 .unfold F_jc;simp only[YD,cond_false];exact Qa _
 .unfold sumP;cases sumV 0 l<;>exact Qa _
theorem Qpf{m:Nat}(b:1<=m)(a:m<=6):Ev (λn=>F_eh n [1] (m:Int)) (List.replicate m 1):=by
 have e:m=1\/m=2\/m=3\/m=4\/m=5\/m=6:=by omega
 unfold F_eh;rcases e with rfl|rfl|rfl|rfl|rfl|rfl
 all_goals
  refine Ea (v:=()) (Ez rfl) (Ea (v:=()) (by unfold F_hu F_fz;exact Qa _) (Ea (v:=false) (Ez rfl) (Ea (v:=()) (Ez rfl) (Ea (Ez rfl) (Ea (Ez rfl) (Ea ?_ (Qa _)))))));exact QcW (QaE (step:=F_kr 0) 5 rfl) λn=>rfl
theorem Qlf(A:List Int)(z x:Int)(B:List Int){i:Nat}(a:A.length=i):Qd8 (A++z::B) (i:Int) x=some (A++x::B):=by
 subst a;unfold Qd8;have b:(decide (0<=(A.length:Int))&&decide ((A.length:Int)<((A++z::B).length:Int)))=true:=by
  rw[X4];refine⟨decide_eq_true (by omega),decide_eq_true ?_⟩;rw[Va,X8];omega
 rw[b];simp
theorem Qnz(A:List Int)(z:Int)(B:List Int){i:Nat}(a:A.length=i):idx (A++z::B) (i:Int)=some z:=by
 subst a;exact Qm (by simp)
def outT(m q t:Nat):List Int:=(List.range m).map λi=>(q:Int)+(if i<t then 1 else 0)
def splN(A m:Nat):List Int:=outT m (A/m) (A%m)
theorem Jg(m q t:Nat):(outT m q t).length=m:=by unfold outT;simp
theorem Qjb{m i:Nat}(hi:i<m):idx (List.replicate m (1:Int)) (i:Int)=some 1:=Qm (by simp[hi])
theorem QnO{step:Nat->Int×Int->Option (Ctl (Int×Int) (Ctl Int ((List Int)×Int)))}{m:Nat}(hm:m<=6)
  (hs:∀i,i<m->Ev (λk=>step k ((i:Int),(i:Int))) (.cont (IntKind.i64.wrap ((i:Int)+1),IntKind.i64.wrap ((i:Int)+1))))(hd:Ev (λk=>step k ((m:Int),(m:Int))) (.done (.cont (m:Int)))):
  Ev (λk=>Go.Sw.iter (step k) k (0,0)) (Ctl.cont (m:Int)):=
 Ew (λi=>((i:Int),(i:Int))) m rfl (λi hi=>(hs i hi).eq (by rw[QZ (by omega)])) hd
theorem EvL.upto{T:Type}{step:Nat->Int->Option (List T×Ctl Int Unit)}(m:Nat)(g:Nat->T)(b:∀i,i<m->Ev (λn=>step n (i:Int)) ([g i],.cont ((i+1:Nat):Int)))(e:Ev (λn=>step n (m:Int)) ([],.done ())):
  EvL step 0 ((List.range m).map g,()):=by
 have loop:∀(k i:Nat),i+k=m->EvL step (i:Int) ((List.range' i k).map g,()):=by
  intro k
  induction k with
  |zero=>
   intro i a;obtain rfl:i=m:=by omega
   exact EvL.done e
  |succ k d=>
   intro i a;refine(EvL.cont (b i (by omega)) (d (i+1) (by omega))).eq ?_;rw[List.range'_succ];rfl
 have:=loop m 0 (by omega)
 rwa [<- List.range_eq_range']at this
def partG(q r:Int)(i:Nat):money_part:={index:=(i:Int),cents:=q,rest:=r}
def cmpM(x y:money_part):Int:=orL [cmpI y.rest x.rest,cmpI x.index y.index]
theorem YM(q r:Int)(i j:Nat):cmpM (partG q r i) (partG q r j)<0↔i<j:=by
 unfold cmpM partG orL orL orL cmpI;simp only[Int.lt_irrefl,decide_false,cond_false,bne_self_eq_false];by_cases a:(i:Int)<j
 .simp[a];omega
 .by_cases b:(j:Int)<i
  .simp[a,b];omega
  .have:i=j:=by omega
   subst this;simp
theorem QfT(n:Nat)(x y:money_part):F_r (n+3) x y=some (cmpM x y):=by
 unfold F_r cmpM;simp only[Qjp,XQ,or2]
theorem Ql9(q r:Int){m:Nat}(s:m<=6):Ev (λn=>Qco (λx y=>F_r n x y) ((List.range m).map (partG q r))) ((List.range m).map (partG q r)):=by
 refine⟨3,λn w=>?_⟩;obtain⟨k,rfl⟩:∃k,n=k+3:=⟨n-3,by omega⟩;have mem:∀x∈(List.range m).map (partG q r),∃i,x=partG q r i:=by
  intro x a;obtain⟨i,_,e⟩:=Xf.1 a;exact⟨i,e.symm⟩
 have d:((List.range m).map (partG q r)).length<=QO:=by
  have:QO=4294967296:=rfl;rw[X9,Xy];omega
 have e:=Qld (cf:=λx y=>F_r (k+3) x y) d cmpM (λx _ y _=>QfT k x y)
  (λx a=>by obtain⟨i,rfl⟩:=mem x a;rw[YM];omega)
  (λx a y b z f=>by obtain⟨i,rfl⟩:=mem x a;obtain⟨j,rfl⟩:=mem y b;obtain⟨l,rfl⟩:=mem z f;rw[YM,YM,YM];omega)
  (λx a y b z f=>by obtain⟨i,rfl⟩:=mem x a;obtain⟨j,rfl⟩:=mem y b;obtain⟨l,rfl⟩:=mem z f;rw[YM,YM,YM];omega)
  (λx a y b=>by
   obtain⟨i,rfl⟩:=mem x a;obtain⟨j,rfl⟩:=mem y b;rw[YM,YM];intro t u;have:i=j:=by omega
   rw[this])
 show Qco (λx y=>F_r (k+3) x y) ((List.range m).map (partG q r))=some ((List.range m).map (partG q r));rw[e];obtain⟨_,_,p,g,_⟩:=Qd6 e;refine congrArg some (QaF (QD _ _) (λx a y b=>g x ((QD _ _).mem_iff.1 a) y ((QD _ _).mem_iff.1 b)) (Yx p) ?_);refine List.Pairwise.map (partG q r) (λi j h=>?_) (List.pairwise_lt_range (n:=m));show(match F_r (k+3) (partG q r j) (partG q r i)with|some c=>decide (c<0)|none=>false)=false;rw[QfT];have:¬cmpM (partG q r j) (partG q r i)<0:=by rw[YM];omega
 exact decide_eq_false this
theorem Qmu(A m:Nat)(N:1<=m)(u:m<=6)(O:A<=1125899906842624):Ev (λn=>F_co n (A:Int) (List.replicate m 1)) (splN A m,0):=by
 have f:=Nat.div_add_mod A m;have B:A/m<=A:=Nat.div_le_self _ _;have g:A%m<m:=Nat.mod_lt _ (by omega);have a:(List.replicate m (1:Int)).length=m:=by simp
 have w:Int.tdiv (A:Int) (m:Int)=((A/m:Nat):Int):=rfl;have y:Int.tmod (A:Int) (m:Int)=((A%m:Nat):Int):=rfl;unfold splN;generalize A/m=Q at f B w⊢;generalize A%m=R at f g y⊢;have e:badA (A:Int)=false:=by
  unfold badA;rw[decide_eq_false (by omega),decide_eq_false (by omega)];rfl
 unfold F_co;refine Ea (v:=0) ((Qdg _).eq (by rw[e];rfl)) ?_;refine Q6 ?_;rw[a,Q3 (show¬(256:Int)<(m:Int)by omega)];refine Q6 (Ea (v:=Ctl.cont (m:Int)) (QnO u (λi b=>?_) ?_) ?_)
 .unfold F_jt;simp only[a,ltN b,cond_true,Qjb b,XQ];exact Ea (v:=false) (Qa _) (Qa _)
 .unfold F_jt;simp only[a,geN (X0 _),cond_false];exact Qa _
 have z:((m:Int)==0)=false:=beq_false_of_ne (by omega);have J:IntKind.i64.wrap (1*(A:Int))=(A:Int):=by rw[Int.one_mul];exact QJ (by omega) (by omega)
 have r:IntKind.i64.wrap ((A:Int)*1)=(A:Int):=by rw[Int.mul_one];exact QJ (by omega) (by omega)
 simp only[z,cond_false,Q3 (show¬(A:Int)<0 by omega),XQ,J];unfold F_fr F_gd;simp only[XQ];have s:nz (m:Int)=some ():=by unfold nz;rw[z];rfl
 refine Ea (v:=((List.range m).map (partG (Q:Int) (R:Int)),())) ?_ ?_
 .refine Ea (EvL.upto (step:=λn=>F_is n (List.replicate m 1) (A:Int) (m:Int)) m (partG (Q:Int) (R:Int)) (λi b=>?_) ?_).ev ((Qa _).eq (by simp))
  .unfold F_is;simp only[a,ltN b,cond_true,Qjb b,XQ,s,r,QZ (show i<=1048576 by omega)];refine(Qa _).eq ?_;rw[w,y,QJ (by omega) (by omega)];rfl
  .unfold F_is;simp only[a,geN (X0 _),cond_false];exact Qa _
 have run:∀(k i:Nat),i+k=m->Ev (λn=>Qbf (F_hz n) ((List.range' i k).map (partG (Q:Int) (R:Int))) ((A:Int)-((i*Q:Nat):Int),(List.range i).map (partG (Q:Int) (R:Int)))) (Ctl.cont ((R:Int),(List.range m).map (partG (Q:Int) (R:Int)))):=by
  intro k
  induction k with
  |zero=>
   intro i b;obtain rfl:i=m:=by omega
   refine(Qa _).eq ?_;rw[show(A:Int)-((i*Q:Nat):Int)=(R:Int)by omega]
  |succ k H=>
   intro i b;have M:(i+1)*Q<=m*Q:=XI _ (by omega);have L:(i+1)*Q=i*Q+Q:=Xn _ _;rw[List.range'_succ,Vr];have step:Ev (λn=>F_hz n ((A:Int)-((i*Q:Nat):Int),(List.range i).map (partG (Q:Int) (R:Int))) (partG (Q:Int) (R:Int) i)) (Ctl.cont ((A:Int)-(((i+1)*Q:Nat):Int),(List.range (i+1)).map (partG (Q:Int) (R:Int)))):=by
    unfold F_hz;rw[QaV (by simp;omega)];refine(Qa _).eq ?_;rw[Xz,Xg];have:IntKind.i64.wrap ((A:Int)-((i*Q:Nat):Int)-(Q:Int))=(A:Int)-(((i+1)*Q:Nat):Int):=by
     rw[QJ (by omega) (by omega)];omega
    simp only[partG]at this⊢;rw[this];rfl
   exact Ea step (H (i+1) (by omega))
 refine Ea (v:=Ctl.cont ((R:Int),(List.range m).map (partG (Q:Int) (R:Int)))) ?_ ?_
 .have:=run m 0 (by omega);rw[<- List.range_eq_range']at this;simpa using this
 refine Ea (Ql9 _ _ u) ?_;have t:((List.range m).map (partG (Q:Int) (R:Int))).length=m:=by simp
 refine Ea (v:=outT m Q R++List.replicate (256-m) 0) ?_ ?_
 .refine Ew (λi=>(outT i Q R++List.replicate (256-i) 0,(i:Int))) m rfl (λi b=>?_) ?_
  .have F:idx ((List.range m).map (partG (Q:Int) (R:Int))) (i:Int)=some (partG (Q:Int) (R:Int) i):=Qm (by simp[b]);have er:List.replicate (256-i) (0:Int)=0::List.replicate (256-(i+1)) 0:=by
    rw[show 256-i=(256-(i+1))+1 by omega,Xm]
   have E:∀x:Int,Nat.beq (outT i Q R++x::List.replicate (256-(i+1)) 0).length 256=true:=by
    intro x;have:(outT i Q R++x::List.replicate (256-(i+1)) 0).length=256:=by
     rw[Va,Jg,X8,List.length_replicate];omega
    rw[this];rfl
   have q:IntKind.i64.wrap (1*(Q:Int))=(Q:Int):=by rw[Int.one_mul];exact QJ (by omega) (by omega)
   have G:outT (i+1) Q R=outT i Q R++[(Q:Int)+(if i<R then 1 else 0)]:=by
    unfold outT;rw[Xz,Xg];rfl
   unfold F_kk Qce;rw[er];simp only[t,ltN b,cond_true,F,XQ,partG,E,Qnz _ _ _ (Jg i _ _),Qlf _ _ _ _ (Jg i _ _),q,QZ (show i<=1048576 by omega)];rw[G,Vq];by_cases j:i<R
   .rw[Yp (show((i:Int)<(R:Int))by omega),if_pos j];refine(Qa _).eq ?_;rw[QJ (by omega) (by omega)];rfl
   .rw[Q3 (show¬((i:Int)<(R:Int))by omega),if_neg j];refine(Qa _).eq ?_;rw[Int.add_zero];rfl
  .unfold F_kk;simp only[t,geN (X0 _),cond_false];exact Qa _
 have d:(outT m Q R++List.replicate (256-m) (0:Int)).length=256:=by
  rw[Va,Jg,List.length_replicate];omega
 refine Ea (v:=outT m Q R++List.replicate (256-m) 0) (Ez (by unfold arr;rw[d];rfl)) ?_;refine Ea (v:=outT m Q R) (Ez ?_) ?_
 .unfold slc;rw[d,Yp (show(0:Int)<=0 by omega),Yp (show(0:Int)<=(m:Int)by omega),Yp (show(m:Int)<=((256:Nat):Int)by omega)];simp only[Bool.and_self,cond_true,Int.toNat_natCast];rw[Vf (by rw[Jg];exact X0 _),List.take_of_length_le (by rw[Jg];exact X0 _)];rfl
 .refine Ea (v:=outT m Q R) ?_ (Qa _);unfold F_gg isNil;have p:(outT m Q R).isEmpty=false:=by
   cases h:outT m Q R with
   |nil=>have:=Jg m Q R;rw[h]at this;simp at this;omega
   |cons x l=>rfl
  rw[p];refine Q6 (Ea (Ez (QdW [] _ (by rw[Jg];simp;omega))) (Qa _))
theorem QoB:F_fu 300=some true:=by kernel_rfl
def rkN(j:Nat):Int:=((j+1:Nat):Int)
theorem Qnw{m:MapI}(h:(m.map Prod.fst).Nodup):(keysS m).Pairwise (· < ·):=by
 have e:(keysS m).Pairwise (· <= ·):=(Yx (QcA _)).imp λ{a b} h=>by simp[ltI]at h;exact h
 have d:(keysS m).Pairwise (· ≠ ·):=QlU h;exact(e.and d).imp λ{a b} z=>by have:=z.1;have:=z.2;omega
abbrev MapL:=List (Int×List Int)
def lift(G:MapL):List (Int×Option (List Int)):=G.map λp=>(p.1,some p.2)
theorem QfC(k:Int):∀G:MapL,YI (lift G) k=(YI G k).map some
 |[]=>rfl
 |p::G=>by
  have e:lift (p::G)=(p.1,some p.2)::lift G:=rfl;rw[e,YU,YU,QfC k G];by_cases q:p.1=k<;>simp[q]
theorem Qii(G:MapL)(k:Int):Qg8 (lift G) k=some (Qx G k [],Qas (lift G) k):=by
 unfold Qg8 QjZ Qx;rw[QfC];cases YI G k<;>rfl
theorem Qlo(G:MapL)(k:Int)(v:List Int):QR (Qas (lift G) k) k (some v)=lift (QR G k v):=by
 have b:((Qas (lift G) k).any λp=>decide (p.1=k))=G.any λp=>decide (p.1=k):=by
  unfold Qas lift;rw[List.map_map,List.any_map];refine congrArg (λq=>G.any q) (funext λp=>?_);by_cases e:p.1=k<;>simp[e]
 unfold QR;rw[b];cases h:G.any λp=>decide (p.1=k)with
 |true=>
  simp only[cond_true];unfold Qas lift;rw[List.map_map,List.map_map,List.map_map];refine List.map_congr_left λp _=>?_;by_cases e:p.1=k<;>simp[e]
 |false=>
  have e:Qas (lift G) k=lift G:=by
   unfold Qas lift;rw[List.map_map];refine List.map_congr_left λp a=>?_;have:¬p.1=k:=λq=>by rw[Xx.2 ⟨p,a,by simp[q]⟩]at h;cases h
   simp[this]
  rw[e];unfold lift;simp
theorem Qen:∀G:MapL,Qcw (lift G)=some G
 |[]=>rfl
 |p::G=>by
  have e:lift (p::G)=(p.1,some p.2)::lift G:=rfl;rw[e];unfold Qcw;rw[Qen G];rfl
def grpS(f:Field)(h:History)(G:MapL)(i:Nat):MapL:=bif decide (0<((rankG f h i:Nat):Int))then QR G (rankG f h i:Nat) (Qx G (rankG f h i:Nat) []++[bibF f i])else G
def grpM(f:Field)(h:History)(m:Nat):MapL:=(List.range m).foldl (grpS f h) []
def inG(f:Field)(h:History)(k:Int)(i:Nat):Bool:=((rankG f h i:Nat):Int)==k
def grpL(f:Field)(h:History)(m:Nat)(k:Int):List Int:=((List.range m).filter (inG f h k)).map (bibF f)
theorem QfG(f:Field)(h:History)(m:Nat)(k:Int):grpL f h (m+1) k=grpL f h m k++(bif inG f h k m then[bibF f m]else[]):=by
 unfold grpL;rw[Xz,List.filter_append,Xg];cases q:inG f h k m<;>simp[q]
theorem QeC(f:Field)(h:History)(m:Nat)(k:Int):(grpL f h m k).length<=m:=by
 unfold grpL;rw[X9];exact X3 (List.length_filter_le ..) (by simp)
theorem Qa5(f:Field)(h:History)(m:Nat):grpM f h (m+1)=grpS f h (grpM f h m) m:=Qag _ _ _
theorem Qgr(f:Field)(h:History){k:Int}(hk:0<k):∀m,Qx (grpM f h m) k []=grpL f h m k
 |0=>rfl
 |m+1=>by
  have ih:=Qgr f h hk m;rw[Qa5,QfG];unfold grpS inG;by_cases h0:0<((rankG f h m:Nat):Int)
  .rw[Yp h0];simp only[cond_true];rw[Qcb];by_cases e:k=((rankG f h m:Nat):Int)
   .rw[if_pos e, <- e,ih,beq_self_eq_true];rfl
   .have:(((rankG f h m:Nat):Int)==k)=false:=beq_false_of_ne λq=>e q.symm;rw[if_neg e,ih,this];simp
  .rw[Q3 h0];have:(((rankG f h m:Nat):Int)==k)=false:=beq_false_of_ne (by omega);simp only[cond_false,this,Vo];exact ih
theorem Qdc(f:Field)(h:History):∀m,((grpM f h m).map Prod.fst).Nodup
 |0=>List.nodup_nil
 |m+1=>by
  rw[Qa5];unfold grpS;cases decide (0<((rankG f h m:Nat):Int))with
  |true=>exact Qeo _ _ (Qdc f h m)
  |false=>exact Qdc f h m
theorem Qjg(f:Field)(h:History):∀m,(grpM f h m).length<=m
 |0=>X0 _
 |m+1=>by
  rw[Qa5];have:=Qjg f h m;unfold grpS;cases decide (0<((rankG f h m:Nat):Int))with
  |true=>exact X3 (Qcx _ _ _) (by omega)
  |false=>exact X3 this (by omega)
theorem Qjh(f:Field)(h:History)(k:Int):∀m,k∈(grpM f h m).map Prod.fst↔0<k/\grpL f h m k≠[]
 |0=>by simp[grpM,grpL]
 |m+1=>by
  have ih:=Qjh f h k m;rw[Qa5,QfG];unfold grpS inG;by_cases h0:0<((rankG f h m:Nat):Int)
  .rw[Yp h0];simp only[cond_true];have e:(QR (grpM f h m) ((rankG f h m:Nat):Int) (Qx (grpM f h m) ((rankG f h m:Nat):Int) []++[bibF f m])).map Prod.fst=_:=QbQ _ _ _;rw[e];by_cases q:k=((rankG f h m:Nat):Int)
   .have:(((rankG f h m:Nat):Int)==k)=true:=by rw[q];simp
    rw[this];have a:k∈(if((rankG f h m:Nat):Int)∈(grpM f h m).map (·.1)then(grpM f h m).map (·.1)else(grpM f h m).map (·.1)++[((rankG f h m:Nat):Int)]):=by
     rw[<- q];split
     .assumption
     .simp
    exact⟨λ_=>⟨by omega,by simp⟩,λ_=>a⟩
   .have:(((rankG f h m:Nat):Int)==k)=false:=beq_false_of_ne λz=>q z.symm;rw[this];simp only[cond_false,Vo];rw[<- ih];split
    .exact Iff.rfl
    .rw[List.mem_append];exact⟨λz=>z.elim id λz=>(q (by simpa using z)).elim,.inl⟩
  .rw[Q3 h0];by_cases q:0<k
   .have:(((rankG f h m:Nat):Int)==k)=false:=beq_false_of_ne (by omega);rw[this];simp only[cond_false,Vo];exact ih
   .simp only[cond_false];rw[ih];exact⟨λz=>(q z.1).elim,λz=>(q z.1).elim⟩
def keysL(G:MapL):List Int:=QaH ltI (G.map Prod.fst)
theorem Qj6(G:MapL):(keysL G).length=G.length:=by unfold keysL;rw[(QD _ _).length_eq,X9]
theorem Qgx(G:MapL)(d:G.length<=1048576):Ev (λn=>F_dl n G) ((keysL G).map (λk=>(k,Qx G k [])),()):=by
 have h:=Qj6 G;unfold F_dl F_hr;simp only[XQ];refine Ea (v:=keysL G) ?_ ?_
 .unfold F_gz Qkz;have e:Nat.ble (List.map Prod.fst G).length QO=true:=Qjl (by rw[X9];exact d);rw[e];refine QjK (Ev.anyP λp b=>?_);have:p.length=G.length:=by rw[b.length_eq,X9]
  rw[QgZ p (by omega),QfE b];exact Qa _
 refine Ea (Qh5 (step:=λn=>F_jg n G (keysL G)) (keysL G) (λk=>(k,Qx G k [])) (by omega) (λi x a=>?_) ?_).ev ((Qa _).eq ?_)
 .unfold F_jg;simp only[a.lt,cond_true,a.ix,XQ,a.nx];exact Qa _
 .unfold F_jg;simp only[YD,cond_false];exact Qa _
 .simp
def ksG(f:Field)(h:History)(n:Nat):List Int:=((List.range n).map rkN).filter λk=> !(grpL f h n k).isEmpty
theorem Qnx{f:Field}{h:History}:keysL (grpM f h f.Runners.length)=ksG f h f.Runners.length:=by
 refine Qfr (lt:=λa b:Int=>a<b) (λa b h=>by omega) ?_ ?_ λx=>?_
 .have m:(keysL (grpM f h f.Runners.length)).Pairwise (· <= ·):=(Yx (QcA _)).imp λ{a b} h=>by simp[ltI]at h;exact h
  have d:(keysL (grpM f h f.Runners.length)).Pairwise (· ≠ ·):=((QD ltI _).nodup_iff).2 (Qdc f h _);exact m.imp₂ (λa b p q=>by omega) d
 .unfold ksG;refine List.Pairwise.sublist List.filter_sublist ?_;exact List.Pairwise.map rkN (λa b h=>by unfold rkN;omega) List.pairwise_lt_range
 .have e:x∈keysL (grpM f h f.Runners.length)↔x∈(grpM f h f.Runners.length).map Prod.fst:=(QD ltI _).mem_iff;rw[e,Qjh];unfold ksG;rw[Xe];simp only[Xf,List.mem_range,Bool.not_eq_true',List.isEmpty_eq_false_iff];constructor
  .rintro⟨m,d⟩;refine⟨?_,d⟩;obtain⟨b,n⟩:=List.exists_mem_of_ne_nil _ d;unfold grpL at n;obtain⟨i,r,_⟩:=Xf.1 n;obtain⟨g,l⟩:=Xe.1 r;have k:i<f.Runners.length:=by simpa using g
   have:=Qln (h:=h) k;have s:((rankG f h i:Nat):Int)=x:=by simpa[inG]using l
   exact⟨(x-1).toNat,by omega,by unfold rkN;omega⟩
  .rintro⟨⟨j,t,rfl⟩,d⟩;exact⟨by unfold rkN;omega,d⟩
def prz(c:Course)(d q:Int)(k:Int)(m:Nat):List Int:=(List.range m).map λ(i:Nat)=>amountS c d q (k+(i:Int))
theorem Qlp(c:Course)(d q k:Int)(m:Nat):prz c d q k (m+1)=prz c d q k m++[amountS c d q (k+(m:Int))]:=by unfold prz;rw[Xz,Xg];rfl
theorem Qgi(c:Course)(d q k:Int)(m:Nat):(prz c d q k m).length=m:=by unfold prz;simp
def zipP:List Int->List Int->List Payment
 |b::g,p::ps=>bif decide (0<p)then {Bib:=b,Amount:=p}::zipP g ps else zipP g ps
 |_,_=>[]
theorem Qfp(b:Int)(g:List Int)(p:Int)(ps:List Int):zipP (b::g) (p::ps)=bif decide (0<p)then {Bib:=b,Amount:=p}::zipP g ps else zipP g ps:=rfl
def msetP(m:MapI)(p:Payment):MapI:=QR m p.Bib p.Amount
def insQ(l:List Payment)(p:Payment):List Payment:=insP p l
def srtP(l:List Payment):List Payment:=l.foldl insQ []
theorem Qk6:∀(l:List Int) (n:Int),0<=n->n<=1125899906842624->(∀x∈l,0<=x)->(∃s:Nat,sumV n l=.cont (s:Int)/\s<=1125899906842624/\(s:Int)=n+l.sum)\/sumV n l=.done (0,300)
 |[],n,h0,h1,_=>.inl ⟨n.toNat,by unfold sumV;rw[Int.toNat_of_nonneg h0],by omega,by simp;omega⟩
 |x::l,n,h0,h1,h2=>by
  have hx:=h2 x (by simp);unfold sumV;cases q:badA x||badA (IntKind.i64.wrap (n+x))with
  |true=>exact .inr rfl
  |false=>
   simp only[X5,badA,decide_eq_false_iff_not]at q;obtain⟨⟨q1,q2⟩,q3,q4⟩:=q;rw[QJ (by omega) (by omega)]at q3 q4⊢;simp only[cond_false];rcases Qk6 l (n+x) (by omega) (by omega) (λy hy=>h2 y (Vd _ hy))with⟨s,e1,e2,e3⟩|e
   .exact .inl ⟨s,e1,e2,by rw[List.sum_cons];omega⟩
   .exact .inr e
theorem QiF{c:Course}(o:PrizesOk c)(d q r:Int):0<=amountS c d q r:=by
 unfold amountS;cases h:c.Prizes.find? (matchP d q r)with
 |none=>exact Int.le_refl _
 |some p=>
  have:=o.pos p (List.mem_of_find?_eq_some h);simp;omega
def grpPay(c:Course)(d q:Int)(f:Field)(h:History)(k:Int):Option (List Payment):=
 bif (sumP (prz c d q k (grpL f h f.Runners.length k).length)).2 != 0 then none else
  some (zipP (grpL f h f.Runners.length k) (splN (sumP (prz c d q k (grpL f h f.Runners.length k).length)).1.toNat (grpL f h f.Runners.length k).length))
theorem Qi9{c:Course}(o:PrizesOk c)(d q k:Int)(m:Nat):(∃s:Nat,sumP (prz c d q k m)=((s:Int),0)/\s<=1125899906842624/\(s:Int)=(prz c d q k m).sum)\/sumP (prz c d q k m)=(0,300):=by
 have b:∀x∈prz c d q k m,0<=x:=by
  intro x a;unfold prz at a;obtain⟨i,_,rfl⟩:=Xf.1 a;exact QiF o _ _ _
 unfold sumP;rcases Qk6 (prz c d q k m) 0 (Int.le_refl _) (by omega) b with⟨s,f,g,h⟩|e
 .exact .inl ⟨s,by rw[f],g,by omega⟩
 .exact .inr (by rw[e])
theorem QnG{r1:Int×List Int}{r2:List Int×Int}(t:r1.2.length=r2.1.length)(u:r1.2.length<=6)(e:MapI):Ev (λn=>iter (F_ga n r1 r2) n (e,0)) ((zipP r1.2 r2.1).foldl msetP e):=by
 have loop:∀(g a:List Int) (i:Nat) (m:MapI),r1.2.drop i=g->r2.1.drop i=a->i<=r2.1.length->EvI (λn=>F_ga n r1 r2) (m,(i:Int)) ((zipP g a).foldl msetP m):=by
  intro g a
  induction a generalizing g with
  |nil=>
   intro i m f h q;refine Ej ?_;unfold F_ga;simp only[YK h q,cond_false];refine(Qa _).eq ?_;cases g<;>rfl
  |cons p a r=>
   intro i m f h q;obtain⟨d,l⟩:=QT (by omega) h;have k:=d.lt';cases g with
   |nil=>have:=Xu.1 f;omega
   |cons b g=>
    obtain⟨s,j⟩:=QT (by omega) f;refine Eu (s':=((bif decide (0<p)then QR m b p else m),((i+1:Nat):Int))) ?_ ((r g (i+1) _ j l k).eq ?_)
    .unfold F_ga;simp only[d.lt,cond_true,d.ix,XQ,d.nx,s.ix];refine Ea (v:=bif decide (0<p)then QR m b p else m) (Ym (λ_=>Qa _) (λ_=>Qa _)) (Qa _)
    .rw[Qfp];cases decide (0<p)<;>rfl
 exact(loop r1.2 r2.1 0 e rfl rfl (X2 _)).ev
theorem QgU:∀(g ps:List Int),(zipP g ps).length<=g.length
 |[],_=>by simp[zipP]
 |b::g,[]=>by simp[zipP]
 |b::g,p::ps=>by
  have:=QgU g ps;unfold zipP;cases decide (0<p)<;>simp<;>omega
theorem Qhe:∀(l a:List Payment),(l.foldl insQ a).length=a.length+l.length
 |[],a=>by simp
 |p::l,a=>by
  rw[XK,Qhe l];unfold insQ;rw[QlY,X8];omega
def inPL(c:Course)(d q:Int)(f:Field)(h:History):List Int->List Payment->Option (List Payment)
 |[],acc=>some acc
 |k::ks,acc=>match grpPay c d q f h k with
  |none=>none
  |some l=>inPL c d q f h ks (acc++l)
theorem Qhj{f:Field}{h:History}{k:Int}(a:k∈ksG f h f.Runners.length):1<=(grpL f h f.Runners.length k).length/\1<=k/\k<=(f.Runners.length:Int):=by
 unfold ksG at a;obtain⟨g,d⟩:=Xe.1 a;obtain⟨j,b,rfl⟩:=Xf.1 g;have b:=List.mem_range.1 b;refine⟨?_,by unfold rkN;omega,by unfold rkN;omega⟩;cases e:grpL f h f.Runners.length (rkN j)with
 |nil=>rw[e]at d;cases d
 |cons x l=>simp
theorem QhA(c:Course)(g:PrizesOk c)(d q:Int){f:Field}(o:FieldOk f)(h:History):∀(e:List Int) (a:List Payment),(∀k∈e,k∈ksG f h f.Runners.length)->
  Ev (λn=>Qbf (F_cr n (amtF c d q)) (e.map λk=>(k,grpL f h f.Runners.length k)) (a.foldl msetP [])) (match inPL c d q f h e a with|none=>.done ([],300)|some l=>.cont (l.foldl msetP []))
 |[],a,_=>Qa _
 |k::e,a,hks=>by
  have hr:=o.few.runs;obtain⟨g1,g2,g3⟩:=Qhj (hks k (by simp));have g4:=QeC f h f.Runners.length k;have hprz:Ev (λn=>iter (F_ji n (amtF c d q) (k,grpL f h f.Runners.length k)) n ([],0)) (prz c d q k (grpL f h f.Runners.length k).length):=by
   refine Ew (λi=>(prz c d q k i,(i:Int))) (grpL f h f.Runners.length k).length rfl (λi j=>?_) ?_
   .unfold F_ji;simp only[ltN j,cond_true,XQ,QZ (show i<=1048576 by omega),QaV (show(prz c d q k i).length<=140737488 by rw[Qgi];omega)];refine(Qa _).eq ?_;rw[QJ (n:=k+(i:Int)) (by omega) (by omega),Qjz g,Qlp]
   .unfold F_ji;simp only[geN (X0 _),cond_false];exact Qa _
  rw[Vr];unfold inPL grpPay;rcases Qi9 g d q k (grpL f h f.Runners.length k).length with⟨s,b,p,_⟩|b
  .have step:Ev (λn=>F_cr n (amtF c d q) (a.foldl msetP []) (k,grpL f h f.Runners.length k)) (.cont ((a++zipP (grpL f h f.Runners.length k) (splN s (grpL f h f.Runners.length k).length)).foldl msetP [])):=by
    unfold F_cr;refine Ea hprz (Ea ((Qmt _ (by rw[Qgi];omega)).eq b) ?_);simp only[bne_self_eq_false,cond_false];refine Ea (Qpf g1 (by omega)) (Ea (Qmu s _ g1 (by omega) p) ?_);simp only[bne_self_eq_false,cond_false];refine Ea (QnG (r1:=(k,grpL f h f.Runners.length k)) (r2:=(splN s (grpL f h f.Runners.length k).length,0)) (by unfold splN;rw[Jg]) (by simp only;omega) _) ?_;rw[XJ];exact Qa _
   rw[b];simp only[bne_self_eq_false,cond_false,Int.toNat_natCast];exact Ea step (QhA c g d q o h e _ λx m=>hks x (Vd _ m))
  .have step:Ev (λn=>F_cr n (amtF c d q) (a.foldl msetP []) (k,grpL f h f.Runners.length k)) (.done ([],300)):=by
    unfold F_cr;refine Ea hprz (Ea ((Qmt _ (by rw[Qgi];omega)).eq b) ?_);exact Qa _
   rw[b];exact Ea step (Qa _)
structure SameP (m:MapI) (l:List Payment):Prop where
 nd:(m.map Prod.fst).Nodup
 st:l.Pairwise ltB
 get:∀b v,YI m b=some v↔({Bib:=b,Amount:=v}:Payment)∈l
theorem Qlh{m:MapI}{l:List Payment}(s:SameP m l)(p:Payment)(a:∀x∈l,x.Bib≠p.Bib):SameP (msetP m p) (insQ l p):=by
 refine⟨Qeo _ _ s.nd,Qdw p l s.st a,λb v=>?_⟩;unfold msetP insQ;rw[QbS,QbG];by_cases e:b=p.Bib
 .subst e;rw[if_pos rfl];constructor
  .intro h;left;rw[<- X7 h]
  .rintro(h|h)
   .rw[<- h]
   .exact(a _ h rfl).elim
 .rw[if_neg e,s.get];constructor
  .exact .inr
  .rintro(h|h)
   .exact(e (by rw[<- h])).elim
   .exact h
theorem Qg2:∀(L:List Payment) (m:MapI) (l:List Payment),SameP m l->(L.map (·.Bib)).Nodup->(∀x∈l,∀p∈L,x.Bib≠p.Bib)->SameP (L.foldl msetP m) (L.foldl insQ l)
 |[],m,l,s,_,_=>s
 |p::L,m,l,s,hn,hd=>by
  rw[Vr,List.nodup_cons]at hn;refine Qg2 L _ _ (Qlh s p λx hx=>hd x hx p (by simp)) hn.2 λx hx q hq=>?_;unfold insQ at hx;rcases(QbG p x l).1 hx with rfl|hx
  .intro e;exact hn.1 (Xf.2 ⟨q,hq,e.symm⟩)
  .exact hd x hx q (Vd _ hq)
theorem QoY{m:MapI}{l:List Payment}(s:SameP m l):payP m=l:=by
 refine Qfr (lt:=ltB) (λa b h=>by unfold ltB at*;omega) ?_ s.st λp=>?_
 .unfold payP ordP;rw[List.map_map];exact List.Pairwise.map _ (λa b h=>h) (Qnw s.nd)
 .have e:∀b v,YI m b=some v->Qx m b 0=v:=by intro b v h;unfold Qx;rw[h];rfl
  unfold payP ordP;simp only[Xf];constructor
  .rintro⟨_,⟨b,g,rfl⟩,rfl⟩;obtain⟨v,d⟩:=(Qcy m b).1 ((QD ltI _).mem_iff.1 g);have:=(s.get b v).1 d;rw[e b v d];exact this
  .intro f;have d:=(s.get p.Bib p.Amount).2 f;exact⟨(p.Bib,p.Amount),⟨p.Bib,(QD ltI _).mem_iff.2 ((Qcy m _).2 ⟨_,d⟩),by rw[e _ _ d]⟩,rfl⟩
theorem QlI{L:List Payment}(h:(L.map (·.Bib)).Nodup):payP (L.foldl msetP [])=srtP L:=
 QoY (Qg2 L [] [] ⟨List.nodup_nil,List.Pairwise.nil,λb v=>⟨(λh=>by cases h),λh=>by cases h⟩⟩ h λx hx=>by cases hx)
theorem Qft(p:Payment):∀(L l:List Payment),p∈L.foldl insQ l↔p∈L\/p∈l
 |[],l=>by simp
 |q::L,l=>by
  rw[XK,Qft p L];unfold insQ;rw[QbG,Ve];constructor
  .rintro(h|h|h)
   .exact .inl (.inr h)
   .exact .inl (.inl h)
   .exact .inr h
  .rintro((h|h)|h)
   .exact .inr (.inl h)
   .exact .inl h
   .exact .inr (.inr h)
theorem QgT:∀(g ps:List Int),((zipP g ps).map (·.Bib)).Sublist g
 |[],ps=>by simp[zipP]
 |b::g,[]=>by simp[zipP]
 |b::g,p::ps=>by
  have:=QgT g ps;unfold zipP;cases decide (0<p)with
  |true=>exact this.cons_cons b
  |false=>exact this.cons b
theorem QeB{f:Field}{h:History}{k b:Int}(a:b∈grpL f h f.Runners.length k):∃i,i<f.Runners.length/\((rankG f h i:Nat):Int)=k/\bibF f i=b:=by
 unfold grpL at a;obtain⟨i,d,e⟩:=Xf.1 a;obtain⟨j,g⟩:=Xe.1 d;exact⟨i,by simpa using j,by simpa[inG]using g,e⟩
theorem QhR{f:Field}(o:FieldOk f){i j:Nat}(a:i<f.Runners.length)(b:j<f.Runners.length)(e:bibF f i=bibF f j):i=j:=by
 rw[QdV a,QdV b]at e;exact QnX o a b e
theorem Qc8{α β:Type}{g:α->β}:∀{l:List α},(∀x∈l,∀y∈l,g x=g y->x=y)->l.Nodup->(l.map g).Nodup
 |[],_,_=>List.nodup_nil
 |x::l,h,hn=>by
  rw[List.nodup_cons]at hn;rw[Vr,List.nodup_cons];refine⟨λhm=>?_,Qc8 (λa ha b hb=>h a (Vd _ ha) b (Vd _ hb)) hn.2⟩;obtain⟨y,hy,e⟩:=Xf.1 hm;have:=h y (Vd _ hy) x (Vc ..) e;subst this;exact hn.1 hy
theorem QeA{f:Field}(o:FieldOk f)(h:History)(k:Int):(grpL f h f.Runners.length k).Nodup:=by
 unfold grpL;refine Qc8 (λx a y b e=>?_) (List.nodup_range.sublist List.filter_sublist);exact QhR o (by simpa using(Xe.1 a).1) (by simpa using(Xe.1 b).1) e
theorem Qew(c:Course)(d q:Int){f:Field}(o:FieldOk f)(h:History):∀(r:List Int) (acc L:List Payment),r.Nodup->(acc.map (·.Bib)).Nodup->(∀p∈acc,∀k∈r,p.Bib∉grpL f h f.Runners.length k)->inPL c d q f h r acc=some L->(L.map (·.Bib)).Nodup
 |[],acc,L,_,ha,_,e=>by
  obtain rfl:=X7 e;exact ha
 |k::r,acc,L,hk,ha,hd,e=>by
  unfold inPL at e;rw[List.nodup_cons]at hk;cases hg:grpPay c d q f h k with
  |none=>rw[hg]at e;cases e
  |some l=>
   rw[hg]at e;have hl:∃ps,l=zipP (grpL f h f.Runners.length k) ps:=by
    unfold grpPay at hg;cases z:((sumP (prz c d q k (grpL f h f.Runners.length k).length)).2 != 0)with
    |true=>rw[z]at hg;cases hg
    |false=>rw[z]at hg;exact⟨_,(X7 hg).symm⟩
   obtain⟨ps,rfl⟩:=hl;have g:=QgT (grpL f h f.Runners.length k) ps;refine Qew c d q o h r _ L hk.2 ?_ ?_ e
   .rw[Xg];refine List.nodup_append.2 ⟨ha,(QeA o h k).sublist g,?_⟩;intro a t b s y;subst y;obtain⟨p,m,rfl⟩:=Xf.1 t;exact hd p m k (by simp) (g.subset s)
   .intro p m w n;rcases List.mem_append.1 m with m|m
    .exact hd p m w (Vd _ n)
    .intro u;obtain⟨i,x,H,G⟩:=QeB (g.subset (Xf.2 ⟨p,m,rfl⟩));obtain⟨j,B,F,E⟩:=QeB u;have:=QhR o x B (G.trans E.symm);subst this;exact hk.1 (by rw[<- H,F];exact n)
theorem Qj4(f:Field)(h:History)(n:Nat):(ksG f h n).Nodup:=by
 unfold ksG;refine List.Nodup.sublist List.filter_sublist (Qc8 (λx _ y _ e=>?_) List.nodup_range);unfold rkN at e;omega
def inV(e:Int)(c:Course)(f:Field)(d q:Int)(h:History):List Payment×Int:=
 bif checkV e c f d q != 0 then([],checkV e c f d q)else bif !admB f h then([],260)else match inPL c d q f h (ksG f h f.Runners.length) []with
  |none=>([],300)
  |some L=>(srtP L,0)
theorem Qex(c:Course)(d q:Int){f:Field}(h:History):∀(a:List Int) (acc L:List Payment),inPL c d q f h a acc=some L->L.length<=acc.length+a.length*f.Runners.length
 |[],acc,L,e=>by obtain rfl:=X7 e;simp
 |k::a,acc,L,e=>by
  unfold inPL at e;cases hg:grpPay c d q f h k with
  |none=>rw[hg]at e;cases e
  |some l=>
   rw[hg]at e;have hl:l.length<=f.Runners.length:=by
    unfold grpPay at hg;cases z:((sumP (prz c d q k (grpL f h f.Runners.length k).length)).2 != 0)with
    |true=>rw[z]at hg;cases hg
    |false=>
     rw[z]at hg;obtain rfl:=X7 hg;exact X3 (QgU _ _) (QeC ..)
   have:=Qex c d q h a _ L e;rw[Va]at this;rw[X8,Xn];omega
theorem Qjd(f:Field)(h:History)(n:Nat):(ksG f h n).length<=n:=by
 unfold ksG;exact X3 (List.length_filter_le ..) (by simp)
theorem QfB:∀(L:List Payment) (m:MapI),(L.foldl msetP m).length<=m.length+L.length
 |[],m=>by simp
 |p::L,m=>by
  have h1:=QfB L (msetP m p);have h2:(msetP m p).length<=m.length+1:=Qcx _ _ _;rw[XK,X8];omega
theorem QeX{e:Int}{c:Course}{f:Field}{d k:Int}(a:(checkV e c f d k != 0)=false):(e != 0)=false:=by
 unfold checkV at a;cases z:(e != 0)with
 |false=>rfl
 |true=>rw[z]at a;simp only[cond_true]at a;rw[z]at a;exact a
theorem ev_In(c:Course)(f:Field)(d q e:Int)(h:History)(he:Ev (λn=>F_k n c) e)(j:FewF f)(i:c.Prizes.length<=1048576)(g:(e != 0)=false->PrizesOk c):Ev (λn=>F_ap n c f d q h) (inV e c f d q h):=by
 have y:=j.runs;unfold F_ap inV;refine Ea (QfP c f d q e he j) ?_;cases a:(checkV e c f d q != 0)with
 |true=>exact Qa _
 |false=>
  have o:=Qcm j (QdC a);have g:=g (QeX a);refine Q6 (Ea (Qkd o h) ?_);cases x:admB f h with
  |false=>exact Qa _
  |true=>
   simp only[cond_true,bne_self_eq_false,cond_false,Xh];refine Ea (v:=Ctl.cont (lift (grpM f h f.Runners.length))) ?_ ?_
   .refine Ew (λm=>(lift (grpM f h m),(m:Int))) f.Runners.length rfl (λm b=>?_) ?_
    .have B:=QeC f h m ((rankG f h m:Nat):Int);unfold F_kb;simp only[ltN b,cond_true,Qm (XR b),XQ,QZ (show m<=1048576 by omega)];refine Ea (QhD o x b) ?_;simp only[bne_self_eq_false,cond_false,Qii,XQ];refine Ea (v:=lift (grpM f h (m+1))) ?_ (Qa _);rw[Qa5];unfold grpS;by_cases l:0<((rankG f h m:Nat):Int)
     .rw[Yp l,Qgr f h l,QdV b];simp only[cond_true,QaV (show(grpL f h m ((rankG f h m:Nat):Int)).length<=140737488 by omega),XQ,Qlo];exact Qa _
     .rw[Q3 l];exact Qa _
    .unfold F_kb;simp only[geN (X0 _),cond_false];exact Qa _
   .refine Ea (QeS c d q i) ?_;unfold F_gq;simp only[XQ,Qen];have w:=Qjg f h f.Runners.length;refine Ea (Qgx _ (by omega)) ?_;rw[Qnx];have u:(ksG f h f.Runners.length).map (λk=>(k,Qx (grpM f h f.Runners.length) k []))=(ksG f h f.Runners.length).map λk=>(k,grpL f h f.Runners.length k):=
     List.map_congr_left λk a=>by rw[Qgr f h (by have:=(Qhj a).2.1;omega)]
    simp only[u];refine Ea (QhA c g d q o h (ksG f h f.Runners.length) [] λk a=>a) ?_;cases r:inPL c d q f h (ksG f h f.Runners.length) []with
    |none=>exact Qa _
    |some L=>
     have t:=Qex c d q h _ _ L r;have E:=Qjd f h f.Runners.length;have s:=QfB L [];have z:(ksG f h f.Runners.length).length*f.Runners.length<=6*6:=Nat.mul_le_mul (by omega) y;simp only[List.length_nil]at t s;refine Ea (Qdz _ (by omega)) ?_;rw[QlI (Qew c d q o h _ [] L (Qj4 ..) List.nodup_nil (λp i=>by cases i) r)];exact Qa _
theorem QcE(h:History):Ev (λn=>F_ck n h) (decide ((h.Offsets.length:Int)<=20)&&decide ((h.Choices.length:Int)<=20)):=by
 unfold F_ck;exact Ea (Ei λ_=>Qa _) (Qa _)
end Go.Sw
