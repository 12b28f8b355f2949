/- The plain laws that a law needs, with no program in sight. -/
import Derived.Test.YtckiejaapddafaaGreatDoorW22Ro
set_option linter.unusedVariables false
set_option linter.unusedSimpArgs false
namespace Go.Sw
def inR(lo hi x:Int):Bool:=decide (lo<=x)&&decide (x<=hi)
theorem QgO(lo hi:Int)(l:List Int)(hl:l.length<=4611686018427387904):Ev (λn=>F_a n lo hi l) (l.all (inR lo hi)):=by
 have h:Ev (λn=>F_cc n l lo hi) (l.any λx=> !inR lo hi x):=by
  unfold F_cc F_dn;refine Ev.contains l _ (λn x=>F_ap n x lo hi) hl λx _=>?_;unfold F_ap;refine Ea (v:= !inR lo hi x) ?_ (Qa _);refine(Eu λh=>Qa _).eq ?_;unfold inR;rw[X4];simp
 unfold F_a;refine Ea h ((Qa _).eq ?_);rw[List.not_any_eq_all_not];simp
def okN(c:Nat):Bool:=(decide (97<=c)&&decide (c<=122))||(decide (48<=c)&&decide (c<=57))||decide (c=95)
def okAN(c:Nat):Bool:=decide (97<=c)&&decide (c<=122)
def okC(c:UInt8):Bool:=okN c.toNat
def okA(c:UInt8):Bool:=okAN c.toNat
def kwL:List (List UInt8):=[[99,111,117,114,115,101],[109,97,116,115],[115,116,97,114,116],[112,97,115,115],[101,110,100],[108,101,103],[116,111],[100,105,115,116,97,110,99,101],[103,117,110],[99,104,105,112],[115,108,111,116],[108,97,112,115],[108,97,112],[99,117,116,111,102,102],[101,120,116,114,97],[119,97,118,101],[111,102,102,101,110,99,101],[111,117,116],[99,97,116,101,103,111,114,121],[112,114,105,122,101],[97,108,108],[116,105,101,115],[105,102],[101,108,115,101],[97,110,100],[111,114],[110,111,116],[111,108,100,101,114],[121,111,117,110,103,101,114],[98,105,98],[100,114,97,119],[102,105,101,108,100],[115,104,111,114,116],[102,97,117,108,116,115],[109,105,115,115,101,115],[115,116,114,97,121,115],[119,105,110,100,111,119],[114,101,115,105,100,117,97,108],[100,114,105,102,116],[112,114,111,116,101,115,116],[102,101,101],[100,101,97,100,108,105,110,101]]
theorem Qop(c d:Bool):(bif c then some c else some d)=some (c||d):=by cases c<;>rfl
def kwsOf:List UInt8->List (List UInt8)
 |[]=>[]
 |b::l=>(bif b==32&& !(l.dropWhile λc=>c != 32).isEmpty then[l.takeWhile λc=>c != 32]else[])++kwsOf l
theorem Qd5:∀(l s:List UInt8),(∀c∈s,c≠32)->(s++[32]).isPrefixOf l=((l.takeWhile λc=>c != 32)==s&& !(l.dropWhile λc=>c != 32).isEmpty)
 |[],s,h=>by cases s<;>simp
 |b::l,[],h=>by
  by_cases e:b=32
  .subst e;simp[List.isPrefixOf]
  .have e1:(b != 32)=true:=by simpa using e
   have k:(32==b)=false:=by simpa using λq=>e q.symm
   simp[List.isPrefixOf,List.takeWhile_cons,e1,k]
 |b::l,c::s,h=>by
  have f:=h c (by simp);have a:=Qd5 l s λd i=>h d (by simp[i]);by_cases e:b=32
  .subst e;have:(c==32)=false:=by simpa using f
   simp[List.isPrefixOf,this]
  .have e1:(b != 32)=true:=by simpa using e
   simp only[VQ,List.isPrefixOf,List.takeWhile_cons,List.dropWhile_cons,e1,if_true,a,List.cons_beq_cons];by_cases q:c=b
   .subst q;simp
   .have j:(c==b)=false:=by simpa using q
    have g:(b==c)=false:=by simpa using λz=>q z.symm
    simp[j,g]
theorem contains_cons(b:UInt8)(l t:List UInt8)(d:t≠[]):Lib.contains (b::l) t=(t.isPrefixOf (b::l)||Lib.contains l t):=by
 unfold Lib.contains;rw[show Lib.index (b::l) t=if t.isPrefixOf (b::l)then 0 else if Lib.index l t== -1 then-1 else Lib.index l t+1 from rfl];cases h:t.isPrefixOf (b::l)with
 |true=>simp
 |false=>
  have:=Lib.index_ge l t;by_cases q:Lib.index l t= -1
  .simp[q]
  .have a:(Lib.index l t== -1)=false:=by simpa using q
   simp only[a,Bool.false_or];rw[X4];simp;omega
theorem Qb6(s:List UInt8)(h:∀c∈s,c≠32):∀l,Lib.contains l (32::(s++[32]))=(kwsOf l).contains s
 |[]=>by simp[Lib.contains,Lib.index,kwsOf]
 |b::l=>by
  rw[contains_cons b l _ (by simp),Qb6 s h l];simp only[kwsOf,List.isPrefixOf,Qd5 l s h];by_cases e:b=32
  .subst e;cases q: !(l.dropWhile λc=>c != 32).isEmpty with
   |true=>
    simp only[q,beq_self_eq_true,VG,Bool.and_true,Vv,VQ,Vn,List.contains_cons];congr 1;rw[X4];simp only[VE];exact⟨λh=>h.symm,λh=>h.symm⟩
   |false=>simp[q]
  .have e1:(b==32)=false:=by simpa using e
   have a:(32==b)=false:=by simpa using λq=>e q.symm
   simp[e1,a]
def wordsL:List UInt8:=[32,99,111,117,114,115,101,32,109,97,116,115,32,115,116,97,114,116,32,112,97,115,115,32,101,110,100,32,108,101,103,32,116,111,32,100,105,115,116,97,110,99,101,32,103,117,110,32,99,104,105,112,32,115,108,111,116,32,108,97,112,115,32,108,97,112,32,99,117,116,111,102,102,32,101,120,116,114,97,32,119,97,118,101,32,111,102,102,101,110,99,101,32,111,117,116,32,99,97,116,101,103,111,114,121,32,112,114,105,122,101,32,97,108,108,32,116,105,101,115,32,105,102,32,101,108,115,101,32,97,110,100,32,111,114,32,110,111,116,32,111,108,100,101,114,32,121,111,117,110,103,101,114,32,98,105,98,32,100,114,97,119,32,102,105,101,108,100,32,115,104,111,114,116,32,102,97,117,108,116,115,32,109,105,115,115,101,115,32,115,116,114,97,121,115,32,119,105,110,100,111,119,32,114,101,115,105,100,117,97,108,32,100,114,105,102,116,32,112,114,111,116,101,115,116,32,102,101,101,32,100,101,97,100,108,105,110,101,32]
theorem QqL:kwsOf wordsL=kwL:=by decide+kernel
def classTab:List Int:=(List.range 256).map λi=>if 97<=i/\i<=122\/65<=i/\i<=90 then 2 else if 48<=i/\i<=57 then 3 else if i∈[123,125,40,41,91,93,59,44,61,60,62]then 4 else if i∈[32,9,10,13]then 1 else 0
theorem Qj6:Ev F_bx classTab:=by
 unfold F_bx;refine Ea (Qco (step:=F_fn 0) 40 (b:=(iter (F_fn 0) 40 (List.replicate 256 0,97)).getD []) (by decide+kernel)) ?_;refine Ea (Qco (step:=F_hh 0) 40 (b:=(iter (F_hh 0) 40 ((iter (F_fn 0) 40 (List.replicate 256 0,97)).getD [],48)).getD []) (by decide+kernel)) ?_;generalize hb:(iter (F_hh 0) 40 ((iter (F_fn 0) 40 (List.replicate 256 0,97)).getD [],48)).getD []=b2;refine Ea (Qco (step:=F_ib 0) 40 (b:=(iter (F_ib 0) 40 (b2,0)).getD []) (by subst hb;decide+kernel)) ?_;refine Ea (Qco (step:=F_ik 0) 40 (b:=classTab) (by subst hb;decide+kernel)) ?_;exact EA (by decide+kernel)
theorem Ql4:((List.range 256).all λi=> !okN i||decide (classTab[i]?=some (if okAN i then 2 else if i=95 then 0 else 3)))=true:=by decide+kernel
theorem Qom{c:UInt8}(h:okC c=true):Qes 256 classTab (c.toNat:Int)=some (if okA c then 2 else if c.toNat=95 then 0 else 3):=by
 have a:=Xv.1 Ql4 c.toNat (List.mem_range.2 c.toNat_lt);unfold okC at h;rw[h]at a;simp only[Xg,Bool.false_or,Vx]at a;unfold Qes;rw[show Nat.beq classTab.length 256=true by decide+kernel,Vv,YD a];rfl
def goodS(s:List UInt8):Bool:=decide (1<=s.length)&&decide (s.length<=24)&&(s.head?).any okA&&s.all okC
def isNameS(s:List UInt8):Bool:=goodS s&& !kwL.contains s
theorem QlT(s:List UInt8)(h:goodS s=true):Ev (λn=>F_bw n s) true:=by
 unfold goodS at h;simp only[X3,Vx,Xv]at h;obtain⟨⟨⟨d,k⟩,e⟩,g⟩:=h;unfold F_bw;refine Ea Qj6 ?_;refine QaY (v:=List.replicate 256 0) (by decide+kernel) ?_;refine QaY (v:=classTab) (by decide+kernel) ?_;refine Ea (v:=Ctl.cont ()) (Ev.iter (λi=>(i:Int)) s.length rfl (λi j=>?_) ?_) ?_
 .have a:=JJ (x:=s[i]) (by omega) (XQ j);have f:=g _ a.mem;unfold F_ie;simp only[a.lt,Vv,a.ix,XP,Qom f,a.nx];cases i with
  |zero=>
   have:okA s[0]=true:=by
    cases s with
    |nil=>simp at d
    |cons c r=>simpa using e
   simp[this];exact Qa _
  |succ i=>
   by_cases q:okA s[i+1]=true
   .simp[q];exact Qa _
   .by_cases b:s[i+1].toNat=95
    .simp[q,b];exact Qa _
    .simp[q,b];exact Qa _
 .unfold F_ie;simp only[QaH,Vw];exact Qa _
 .refine EA ?_;cases s with
  |nil=>simp at d
  |cons c r=>rfl
theorem QlN{s:List UInt8}(h:goodS s=true):∀c∈s,c≠32:=by
 unfold goodS at h;simp only[X3,Xv]at h;rintro c a rfl;exact absurd (h.2 _ a) (by decide)
theorem QnC{s:List UInt8}(h:goodS s=true):s.length<=24:=by
 unfold goodS at h;simp only[X3,Vx]at h;exact h.1.1.2
theorem Qj9(s:List UInt8)(h:goodS s=true):Ev (λn=>F_co n s) (kwL.contains s):=by
 unfold F_co;refine Ea (v:=kwL.contains s) ?_ (Qa _);refine Ea (QlT s h) (Qjs ?_);have a:=QnC h;refine QaY (v:=[32]++s) (by unfold cat;rw[XY (by simp;omega)];rfl) ?_;refine QaY (v:=[32]++s++[32]) (by unfold cat;rw[XY (by simp;omega)];rfl) ?_;refine QaY (v:=kwL.contains s) ?_ (Qa _);show Qfr wordsL ([32]++s++[32])=some (kwL.contains s);unfold Qfr;rw[show Nat.blt wordsL.length 4294967281=true by decide+kernel,Vv];rw[show[32]++s++[32]=32::(s++[32])by simp,Qb6 s (QlN h),QqL]
theorem ch_lt(c:UInt8)(k:Nat):decide ((c.toNat:Int)<(k:Int))=decide (c.toNat<k):=by
 rw[X4];simp
theorem badC(c:UInt8):(bif decide ((c.toNat:Int)<97)then(bif decide ((c.toNat:Int)<48)then some ((c.toNat:Int) != 95)else(bif decide (57<(c.toNat:Int))then some ((c.toNat:Int) != 95)else some false))else(bif decide (122<(c.toNat:Int))then(bif decide ((c.toNat:Int)<48)then some ((c.toNat:Int) != 95)else(bif decide (57<(c.toNat:Int))then some ((c.toNat:Int) != 95)else some false))else some false))=some (!okC c):=by
 unfold okC okN;generalize c.toNat=k;have e:((k:Int) != 95)= !decide (k=95):=by
  by_cases h:k=95
  .subst h;rfl
  .rw[VD h];simp;omega
 rw[e];by_cases i:k<48
 .rw[QZ (show(k:Int)<97 by omega),QZ (show(k:Int)<48 by omega)];have a:¬97<=k:=by omega
  have f:¬48<=k:=by omega
  simp[a,f]
 .rw[Q7 (show¬(k:Int)<48 by omega)];by_cases b:k<=57
  .rw[QZ (show(k:Int)<97 by omega),Q7 (show¬57<(k:Int)by omega)];have a:48<=k:=by omega
   simp[a,b]
  .rw[QZ (show 57<(k:Int)by omega)];by_cases g:k<97
   .rw[QZ (show(k:Int)<97 by omega)];have a:¬97<=k:=by omega
    simp[a,b]
   .rw[Q7 (show¬(k:Int)<97 by omega)];by_cases d:k<=122
    .rw[Q7 (show¬122<(k:Int)by omega)];have a:97<=k:=by omega
     simp[a,d]
    .rw[QZ (show 122<(k:Int)by omega)];simp[b,d]
theorem QlE(n:Nat)(s:List UInt8):(bif decide ((s.length:Int)<1)then some true else(bif decide (24<(s.length:Int))then some true else(idx s 0).bind λx10=>(bif decide ((x10.toNat:Int)<97)then some true else(idx s 0).bind λx12=>some (decide (122<(x12.toNat:Int))))))=some (!(decide (1<=s.length)&&decide (s.length<=24)&&(s.head?).any okA)):=by
 cases s with
 |nil=>rfl
 |cons c r=>
  rw[Q7 (show¬((c::r).length:Int)<1 by simp;omega),Vw];by_cases h:(c::r).length<=24
  .rw[Q7 (show¬24<((c::r).length:Int)by omega),Vw];have e:idx (c::r) 0=some c:=rfl;simp only[e,XP];simp only[X6]at h;have a:r.length<=23:=by omega
   simp only[List.head?_cons,Option.any_some,okA,okAN];rw[show(97:Int)=((97:Nat):Int)from rfl,ch_lt];by_cases b:c.toNat<97
   .have:¬97<=c.toNat:=by omega
    simp[b,this]
   .have d:97<=c.toNat:=by omega
    simp[b,d,a];by_cases q:c.toNat<=122
    .rw[Q7 (show¬122<(c.toNat:Int)by omega),QZ q];rfl
    .rw[QZ (show 122<(c.toNat:Int)by omega),Q7 q];rfl
  .rw[QZ (show 24<((c::r).length:Int)by omega),Vv];simp only[X6]at h;have a:¬r.length<=23:=by omega
   simp[a]
theorem QgT(s:List UInt8)(hl:s.length<=1048576):Ev (λn=>F_c n s) (isNameS s):=by
 unfold F_c;refine Ea (EA (QlE 0 s)) ?_;unfold isNameS;cases f:(decide (1<=s.length)&&decide (s.length<=24)&&(s.head?).any okA)with
 |false=>
  simp only[Xh,Vv];have:goodS s=false:=by unfold goodS;rw[f];rfl
  rw[this];exact Qa _
 |true=>
  simp only[Xg,Vw];have d:goodS s=s.all okC:=by unfold goodS;rw[f];rfl
  refine Ea (Qca s (λc=> !okC c) (λi=>(i:Int)) (Ctl.done false) (Ctl.cont ()) (by omega) rfl (λi x a b=>?_) (λi x a b=>?_) ?_) ?_
  .unfold F_hg;simp only[a.lt,Vv,a.ix,XP,badC,b,Vw,a.nx];exact Qa _
  .unfold F_hg;simp only[a.lt,Vv,a.ix,XP,badC,b];exact Qa _
  .unfold F_hg;simp only[QaH,Vw];exact Qa _
  .rw[d];have e:s.any (λc=> !okC c)= !s.all okC:=by rw[List.not_all_eq_any_not]
   rw[e];cases q:s.all okC with
   |true=>
    simp only[Xg,Vw,VG];exact Ea (Qj9 s (d.trans q)) (Qa _)
   |false=>
    simp only[Xh,Vv,Bool.false_and];exact Qa _
def diffS:List (List UInt8)->List (List UInt8)->Bool
 |_,[]=>true
 |seen,x::r=>isNameS x&& !seen.contains x&&diffS (seen++[x]) r
theorem Qkb(l:List (List UInt8))(i:Nat)(x:List UInt8)(h:At l i x):diffS (l.take i) (l.drop i)=(isNameS x&& !(l.take i).contains x&&diffS (l.take (i+1)) (l.drop (i+1))):=by
 rw[h.drop,h.take];rfl
theorem Qb4{α:Type}(l:List α)(a:α->List UInt8)(g:Nat->α->Option Unit)(hg:∀n x,g n x=some ())(hl:l.length<=1048576)(p:∀x∈l,(a x).length<=1048576):
  Ev (λn=>((iter (λs:(List (List UInt8×Bool))×Int=>bif decide (s.2<(l.length:Int))then(idx l s.2).bind λx35=>(g n x35).bind λr36=>((F_c n (a x35)).bind λr42=>(bif (!r42)then some true else(some (QI s.1 (a x35) false)).bind λv44=>some v44):Option Bool).bind λb40=>(bif b40 then some (.done (.done false))else(some (QE s.1 (a x35) true)).bind λm46=>some (.cont (m46,IntKind.i64.wrap (s.2+1))))else some (.done (.cont ()))) n ([],0):Option (Ctl Unit Bool)).bind λb28=>
   match b28 with
   |.cont _=>some true
   |.done s=>some s:Option Bool)) (diffS [] (l.map a)):=by
 have e:l.length<=4611686018427387904:=by omega
 have j:(l.map a).length<=4611686018427387904:=by simpa using e
 have f:=Qh1 (B:=Ctl Unit Bool) l (step:=λn s=>bif decide (s.2<(l.length:Int))then(idx l s.2).bind λx35=>(g n x35).bind λr36=>((F_c n (a x35)).bind λr42=>(bif (!r42)then some true else(some (QI s.1 (a x35) false)).bind λv44=>some v44):Option Bool).bind λb40=>(bif b40 then some (.done (.done false))else(some (QE s.1 (a x35) true)).bind λm46=>some (.cont (m46,IntKind.i64.wrap (s.2+1))))else some (.done (.cont ())))
  (s0:=(([]:List (List UInt8×Bool)),(0:Int))) (λi=>(Yi a true (l.take i),(i:Int))) (λi=>bif diffS ((l.map a).take i) ((l.map a).drop i)then .cont ()else .done false) e rfl (λi x d=>?_) ?_
 .refine Ea f ?_;simp only[List.take_zero,List.drop_zero];cases diffS [] (l.map a)<;>exact Qa _
 .have k:At (l.map a) i (a x):=JJ j (by rw[Xq,d.get];rfl);simp only[Qkb _ _ _ k];have b:Ev (λn=>((F_c n (a x)).bind λr42=>(bif (!r42)then some true else(some (QI (Yi a true (l.take i)) (a x) false)).bind λv44=>some v44):Option Bool)) (!(isNameS (a x)&& !((l.map a).take i).contains (a x))):=by
   refine Ea (QgT (a x) (p x d.mem)) ?_;cases isNameS (a x)with
   |false=>exact Qa _
   |true=>
    refine Jj ((Qa _).eq ?_);rw[QbY,List.map_take];by_cases h:a x∈(l.map a).take i
    .rw[Vz h];simp[h]
    .rw[Vy h];simp[h]
  cases m:(isNameS (a x)&& !((l.map a).take i).contains (a x))with
  |true=>
   rw[m]at b;refine .inl ⟨?_,by simp⟩;simp only[d.lt,Vv,d.ix,XP,hg];refine Ea b ?_;simp only[Xg,Vw,XP,d.nx];rw[d.take,Qc3];exact Qa _
  |false=>
   rw[m]at b;refine .inr ?_;simp only[d.lt,Vv,d.ix,XP,hg];refine Ea b ?_;simp only[Xh,Vv,Bool.false_and,Vw];exact Qa _
 .simp only[QaH,Vw];rw[show(l.map a).drop l.length=[]by apply List.drop_eq_nil_of_le;simp];exact Qa _
theorem Qq3{α:Type}{l:List α}{x:α}(h:l.length<=140737488):app l [x]=some (l++[x]):=QaI l x (by omega)
theorem QgU{α β:Type}(l:List α)(f:α->β)(hl:l.length<=140737488):Ev (λn=>iter (λs:(List β)×Int=>bif decide (s.2<(l.length:Int))then(idx l s.2).bind λx15=>(app s.1 [f x15]).bind λl16=>some (Ctl.cont (l16,IntKind.i64.wrap (s.2+1)))else some (Ctl.done s.1)) n (([]:List β),(0:Int))) (l.map f):=by
 have e:∀l:List α,l.foldl (λ(a:List β) x=>a++[f x]) []=l.map f:=by
  intro l;have d:∀(l:List α) (a:List β),l.foldl (λ(a:List β) x=>a++[f x]) a=a++l.map f:=by
   intro l
   induction l with
   |nil=>intro a;simp
   |cons x l h=>intro a;rw[XJ,h];simp
  simpa using d l []
 rw[<- e l];refine Q1 l (λ(a:List β) x=>a++[f x]) [] (λa i=>(a,(i:Int))) (λa=>a) (by omega) rfl (λi x a g b=>?_) ?_
 .rw[e]at b;have:a.length<=140737488:=by rw[b];simp;omega
  simp only[g.lt,Vv,g.ix,XP,Qq3 this,g.nx];exact Qa _
 .simp only[QaH,Vw];exact Qa _
def namesS(c:Course):Bool:=isNameS c.Name&&(diffS [] (c.Mats.map (·.Name))&&(diffS [] (c.Distances.map (·.Name))&&(diffS [] (c.Waves.map (·.Name))&&(diffS [] (c.Offences.map (·.Name))&&diffS [] (c.Categories.map (·.Name))))))
structure CourseOk (c:Course):Prop where
 name:c.Name.length<=1048576
 mats:c.Mats.length<=1048576
 matsN:∀x∈c.Mats,x.Name.length<=1048576
 legs:c.Legs.length<=1048576
 dist:c.Distances.length<=1048576
 distN:∀x∈c.Distances,x.Name.length<=1048576
 cut:∀x∈c.Distances,x.Cutoffs.length<=1048576
 wave:c.Waves.length<=1048576
 waveN:∀x∈c.Waves,x.Name.length<=1048576
 off:c.Offences.length<=1048576
 offN:∀x∈c.Offences,x.Name.length<=1048576
 cat:c.Categories.length<=1048576
 catN:∀x∈c.Categories,x.Name.length<=1048576
 prize:c.Prizes.length<=1048576
theorem QnT(c:Course)(w:CourseOk c):Ev (λn=>F_cz n c) (namesS c):=by
 unfold F_cz namesS;refine Ea (v:=_) ?_ (Qa _);refine Ea (QgT c.Name w.name) (Ei λ_=>?_);have e:Ev (λn=>F_dl n c.Mats) (diffS [] (c.Mats.map (·.Name))):=by unfold F_dl;exact Qb4 c.Mats (·.Name) F_ee (λ_ _=>rfl) w.mats w.matsN
 have f:Ev (λn=>F_cs n c.Distances) (diffS [] (c.Distances.map (·.Name))):=by unfold F_cs;exact Qb4 c.Distances (·.Name) F_dr (λ_ _=>rfl) w.dist w.distN
 have b:Ev (λn=>F_bg n c.Waves) (diffS [] (c.Waves.map (·.Name))):=by unfold F_bg;exact Qb4 c.Waves (·.Name) F_gc (λ_ _=>rfl) w.wave w.waveN
 have d:Ev (λn=>F_dm n c.Offences) (diffS [] (c.Offences.map (·.Name))):=by unfold F_dm;exact Qb4 c.Offences (·.Name) F_fw (λ_ _=>rfl) w.off w.offN
 have a:Ev (λn=>F_cq n c.Categories) (diffS [] (c.Categories.map (·.Name))):=by unfold F_cq;exact Qb4 c.Categories (·.Name) F_gi (λ_ _=>rfl) w.cat w.catN
 refine Ea e (Ei λ_=>?_);refine Ea f (Ei λ_=>?_);refine Ea b (Ei λ_=>?_);refine Ea d (Ei λ_=>?_);exact Ea a (Qa _)
theorem QcS{n:Nat}(h:n<=1048576):IntKind.i64.wrap ((n:Int)-1)=(n:Int)-1:=QW (by omega) (by omega)
mutual
def szP:Part->Nat
 |⟨_,_,ps⟩=>1+szPs ps
def szPs:List Part->Nat
 |[]=>0
 |p::r=>szP p+szPs r
end
theorem Jo(p:Part):szP p=1+szPs p.Parts:=by cases p;rfl
theorem Qam{p:Part}:∀{l:List Part},p∈l->szP p<=szPs l
 |q::r,h=>by
  simp only[szPs];rcases Vc.1 h with rfl|h
  .omega
  .have:=Qam h;omega
mutual
def partS(k:Int):Part->Bool
 |⟨m,laps,ps⟩=>bif laps==0 then inR 0 k m&&((ps.length:Int)==0)else inR 1 64 laps&&((m==0)&&(decide (0<(ps.length:Int))&&partsS k ps))
def partsS(k:Int):List Part->Bool
 |[]=>true
 |p::r=>partS k p&&partsS k r
end
theorem Qc0(k:Int)(p:Part):partS k p=bif p.Laps==0 then inR 0 k p.Mat&&((p.Parts.length:Int)==0)else inR 1 64 p.Laps&&((p.Mat==0)&&(decide (0<(p.Parts.length:Int))&&partsS k p.Parts)):=by cases p;rfl
theorem QaM(k:Int):∀l:List Part,partsS k l=l.all (partS k)
 |[]=>rfl
 |p::r=>by simp only[partsS,List.all_cons,QaM k r]
theorem YZ{p:Part}(h:Part.wf p):p.Parts.length<=1048576/\ ∀x∈p.Parts,Part.wf x:=by
 cases p;simp only[Part.wf,Qdp]at h;exact h.2.2.1
theorem QK(lo hi x:Int):Ev (λn=>F_a n lo hi [x]) (inR lo hi x):=(QgO lo hi [x] (by simp)).eq (by simp)
theorem QaS(lo hi x y:Int):Ev (λn=>F_a n lo hi [x,y]) (inR lo hi x&&inR lo hi y):=(QgO lo hi [x,y] (by simp)).eq (by simp)
theorem QnS(k:Int):∀(m:Nat) (l:List Part),szPs l<=m->l.length<=1048576->(∀x∈l,Part.wf x)->Ev (λn=>F_f n l k) (partsS k l):=by
 intro m
 induction m with
 |zero=>
  intro l a e b;cases l with
  |nil=>
   refine Ji ?_;show Ev (λn=>B_f (F_f n) n [] k) _;unfold B_f F_cm F_ay;exact Jl [] (partS k) (λn x=>F_ar (F_f n) n x k) (by simp) (by simp)
  |cons p r=>
   exfalso;simp only[szPs,Jo]at a;omega
 |succ m f=>
  intro l a e b;refine Ji ?_;show Ev (λn=>B_f (F_f n) n l k) _;unfold B_f F_cm F_ay;rw[QaM];refine Jl l (partS k) (λn x=>F_ar (F_f n) n x k) (by omega) λp d=>?_;unfold F_ar;rw[Qc0];have g:=Qam d;rw[Jo]at g;obtain⟨w1,w2⟩:=YZ (b p d);refine QbI (λ_=>?_) (λ_=>?_)
  .exact Ea (Ea (QK _ _ _) (Ei λ_=>Qa _)) (Qa _)
  .exact Ea (Ea (QK _ _ _) (Ei λ_=>Ei λ_=>Ei λ_=>Ea (f p.Parts (by omega) w1 w2) (Qa _))) (Qa _)
def legS(k:Int)(l:Leg):Bool:=(inR 0 k l.From&&inR 0 k l.To)&&((inR 0 68719476736 l.Min&&inR 0 68719476736 l.Max)&&decide (l.Min<=l.Max))
def cutS(k:Int)(x:Cutoff):Bool:=inR 0 k x.Mat&&(decide (1<=x.Lap)&&inR 0 1099511627776 x.Limit)
def distS(k:Int)(d:Distance):Bool:=inR 1 3 d.Timing&&(inR (-1) k d.Extra&&(partsS k d.Route&&d.Cutoffs.all (cutS k)))
def offS(o:Offence):Bool:=bif o.Out then(o.Time==0)&&(o.Laps==0)else bif o.Laps != 0 then(o.Time==0)&&inR 1 64 o.Laps else inR 0 68719476736 o.Time
def catS(x:Category):Bool:=(inR 0 120 x.From&&inR 0 120 x.To)&&decide (x.From<=x.To)
def prizeS(c:Course)(p:Prize):Bool:=inR 0 ((c.Distances.length:Int)-1) p.Distance&&(inR (-1) ((c.Categories.length:Int)-1) p.Category&&(inR 1 4000 p.Rank&&inR 1 1125899906842624 p.Amount))
def lastS(c:Course):Bool:=(inR 0 16 c.Faults.Misses&&inR 0 16 c.Faults.Strays)&&((inR 0 4294967296 c.Faults.Window&&inR 0 4294967296 c.Faults.Residual)&&(inR 0 100000 c.Faults.Drift&&(inR 0 1125899906842624 c.Fee&&inR 0 1099511627776 c.Deadline)))
def legKey(l:Leg):Uh:={from_:=l.From,to_:=l.To}
def prizeKey(p:Prize):Uj:={distance:=p.Distance,category:=p.Category,rank:=p.Rank}
def numbersS(c:Course):Bool:=
 let k:=(c.Mats.length:Int)-1
 c.Mats.all (λm=>inR 1 3 m.Kind)&&(c.Legs.all (legS k)&&(decide ((c.Legs.map legKey).Nodup)&&(c.Distances.all (distS k)&&(c.Waves.all (λw=>inR 0 1099511627776 w.Gun)&&(c.Offences.all offS&&(c.Categories.all catS&&(c.Prizes.all (prizeS c)&&(decide ((c.Prizes.map prizeKey).Nodup)&&lastS c))))))))
structure PartsOk (c:Course):Prop where
 len:∀d∈c.Distances,d.Route.length<=1048576
 wf:∀d∈c.Distances,∀x∈d.Route,Part.wf x
theorem QhM(l:List Leg)(hl:l.length<=1048576):Ev (λn=>F_be n l) (decide ((l.map legKey).Nodup)):=by
 unfold F_be;refine Ea (QbH l legKey true (by omega) (λi x m a=>?_) (λm=>?_)) ((Qa _).eq ?_)
 .unfold F_id F_fh;simp only[a.lt,Vv,a.ix,XP,a.nx];exact Qa _
 .unfold F_id;simp only[QaH,Vw];exact Qa _
 .rw[X4];simp only[VE,Vx];have:=Qcs legKey true l;rw[<- this.2];omega
theorem QfJ(l:List Prize)(hl:l.length<=1048576):Ev (λn=>F_bp n l) (decide ((l.map prizeKey).Nodup)):=by
 unfold F_bp;refine Ea (QbH l prizeKey true (by omega) (λi x m a=>?_) (λm=>?_)) ((Qa _).eq ?_)
 .unfold F_ic F_ed;simp only[a.lt,Vv,a.ix,XP,a.nx];exact Qa _
 .unfold F_ic;simp only[QaH,Vw];exact Qa _
 .rw[X4];simp only[VE,Vx];have:=Qcs prizeKey true l;rw[<- this.2];omega
theorem Qj2(c:Course)(w:CourseOk c)(q:PartsOk c):Ev (λn=>F_aw n c) (numbersS c):=by
 unfold F_aw numbersS;rw[QcS w.mats];refine Ea (v:=_) ?_ (Qa _);have i:Ev (λn=>F_dj n c.Mats) (c.Mats.all λm=>inR 1 3 m.Kind):=by
  unfold F_dj F_es F_go;refine Jl c.Mats _ (λn x=>F_bi n x) (by have:=w.mats;omega) λx a=>?_;unfold F_bi;exact Ea (QK _ _ _) (Qa _)
 have j:Ev (λn=>F_bl n c.Legs ((c.Mats.length:Int)-1)) (c.Legs.all (legS ((c.Mats.length:Int)-1))):=by
  unfold F_bl F_fe F_eb;refine Jl c.Legs _ (λn x=>F_bd n x _) (by have:=w.legs;omega) λx a=>?_;unfold F_bd;exact Ea (Ea (QaS _ _ _ _) (Ei λ_=>Ea (QaS _ _ _ _) (Ei λ_=>Qa _))) (Qa _)
 have f:Ev (λn=>F_bh n c.Distances ((c.Mats.length:Int)-1)) (c.Distances.all (distS ((c.Mats.length:Int)-1))):=by
  unfold F_bh F_gk F_du;refine Jl c.Distances _ (λn x=>F_da n x _) (by have:=w.dist;omega) λx a=>?_;unfold F_da;have g:Ev (λn=>F_bv n x.Cutoffs ((c.Mats.length:Int)-1)) (x.Cutoffs.all (cutS ((c.Mats.length:Int)-1))):=by
   unfold F_bv F_ef F_et;refine Jl x.Cutoffs _ (λn x=>F_bj n x _) (by have:=w.cut x a;omega) λy k=>?_;unfold F_bj;exact Ea (Ea (QK _ _ _) (Ei λ_=>Ei λ_=>Ea (QK _ _ _) (Qa _))) (Qa _)
  exact Ea (Ea (QK _ _ _) (Ei λ_=>Ea (QK _ _ _) (Ei λ_=>Ea (QnS _ _ x.Route (XZ _) (q.len x a) (q.wf x a)) (Ei λ_=>Ea g (Qa _))))) (Qa _)
 have e:Ev (λn=>F_cj n c.Waves) (c.Waves.all λw=>inR 0 1099511627776 w.Gun):=by
  unfold F_cj F_fa F_gl;refine Jl c.Waves _ (λn x=>F_bm n x) (by have:=w.wave;omega) λx a=>?_;unfold F_bm;exact Ea (QK _ _ _) (Qa _)
 have h:Ev (λn=>F_ca n c.Offences) (c.Offences.all offS):=by
  unfold F_ca F_ft F_em;refine Jl c.Offences _ (λn x=>F_bt n x) (by have:=w.off;omega) λx a=>?_;unfold F_bt offS;refine QbI (λ_=>Ea (Ei λ_=>Qa _) (Qa _)) λ_=>QbI (λ_=>Ea (Ei λ_=>Ea (QK _ _ _) (Qa _)) (Qa _)) λ_=>Ea (QK _ _ _) (Qa _)
 have d:Ev (λn=>F_by n c.Categories) (c.Categories.all catS):=by
  unfold F_by F_gs F_gf;refine Jl c.Categories _ (λn x=>F_bc n x) (by have:=w.cat;omega) λx a=>?_;unfold F_bc;exact Ea (Ea (QaS _ _ _ _) (Ei λ_=>Qa _)) (Qa _)
 have b:Ev (λn=>F_bz n c.Prizes c) (c.Prizes.all (prizeS c)):=by
  unfold F_bz F_dy F_eo;refine Jl c.Prizes _ (λn x=>F_cb n x c) (by have:=w.prize;omega) λx a=>?_;unfold F_cb;rw[QcS w.dist,QcS w.cat];exact Ea (Ea (QK _ _ _) (Ei λ_=>Ea (QK _ _ _) (Ei λ_=>Ea (QK _ _ _) (Ei λ_=>Ea (QK _ _ _) (Qa _))))) (Qa _)
 refine Ea i (Ei λ_=>Ea j (Ei λ_=>Ea (QhM _ w.legs) (Ei λ_=>Ea f (Ei λ_=>Ea e (Ei λ_=>Ea h (Ei λ_=>Ea d (Ei λ_=>Ea b (Ei λ_=>Ea (QfJ _ w.prize) (Ei λ_=>?_)))))))));exact Ea (QaS _ _ _ _) (Ei λ_=>Ea (QaS _ _ _ _) (Ei λ_=>Ea (QK _ _ _) (Ei λ_=>Ea (QK _ _ _) (Ei λ_=>Ea (QK _ _ _) (Qa _)))))
theorem ends_eq{a b a' d:Int}:(({from_:=a,to_:=b}:Uh)={from_:=a',to_:=d})↔a=a'/\b=d:=by simp
theorem QmB{α B:Type}{step:Nat->Int->Option (Ctl Int B)}(l:List α)(ok:α->Bool)(a b:B)(hl:l.length<=4611686018427387904)
  (g:∀i x,At l i x->Ev (λn=>step n (i:Int)) (bif ok x then .cont ((i+1:Nat):Int)else .done a))(j:Ev (λn=>step n (l.length:Int)) (.done b)):
  Ev (λn=>Go.Sw.iter (step n) n 0) (bif l.all ok then b else a):=by
 have e:(bif l.all ok then b else a)=bif l.any (λx=> !ok x)then a else b:=by
  rw[<- List.not_all_eq_any_not];cases l.all ok<;>rfl
 rw[e];refine Qca l (λx=> !ok x) (λi=>(i:Int)) a b hl rfl (λi x d f=>?_) (λi x d f=>?_) j
 .have h:ok x=true:=by simpa using f
  have:=g i x d
  rwa [h]at this
 .have h:ok x=false:=by simpa using f
  have:=g i x d
  rwa [h]at this
mutual
def cN:Cond->Nat
 |⟨_,_,_,ps⟩=>1+cNs ps
def cNs:List Cond->Nat
 |[]=>0
 |c::r=>cN c+cNs r
end
theorem Qdh(c:Cond):cN c=1+cNs c.Parts:=by cases c;rfl
mutual
def cD:Nat->Cond->Bool
 |d,⟨_,_,_,ps⟩=>cDs d ps
def cDs:Nat->List Cond->Bool
 |_,[]=>true
 |d,c::r=>decide (d<=16)&&(cD (d+1) c&&cDs d r)
end
theorem Qoo(d:Nat)(c:Cond):cD d c=cDs d c.Parts:=by cases c;rfl
def zeroC(c:Cond):Bool:=(c.Kind==0)&&((c.Var==0)&&((c.N==0)&&((c.Parts.length:Int)==0)))
mutual
def sNp:Step->Nat
 |⟨_,_,_,t,e⟩=>1+sNs t+sNs e
def sNs:List Step->Nat
 |[]=>0
 |s::r=>sNp s+sNs r
end
theorem Qgq(s:Step):sNp s=1+sNs s.Then+sNs s.Else:=by cases s;rfl
mutual
def sC:Step->Nat
 |⟨_,_,c,t,e⟩=>(bif zeroC c then 0 else cN c)+sCs t+sCs e
def sCs:List Step->Nat
 |[]=>0
 |s::r=>sC s+sCs r
end
theorem Qgr(s:Step):sC s=(bif zeroC s.Cond then 0 else cN s.Cond)+sCs s.Then+sCs s.Else:=by cases s;rfl
mutual
def sDp:Nat->Step->Bool
 |d,⟨_,_,c,t,e⟩=>(zeroC c||cD 1 c)&&(sDs d t&&sDs d e)
def sDs:Nat->List Step->Bool
 |_,[]=>true
 |d,s::r=>decide (d<=16)&&(sDp (d+1) s&&sDs d r)
end
theorem QkK(d:Nat)(s:Step):sDp d s=((zeroC s.Cond||cD 1 s.Cond)&&(sDs d s.Then&&sDs d s.Else)):=by cases s;rfl
mutual
def sZ:Step->Nat
 |⟨_,_,c,t,e⟩=>2+cN c+sZs t+sZs e
def sZs:List Step->Nat
 |[]=>0
 |s::r=>sZ s+sZs r
end
theorem Qif(s:Step):sZ s=2+cN s.Cond+sZs s.Then+sZs s.Else:=by cases s;rfl
def fS:Ui->Nat
 |.ctyping_step x=>sNp x.Step
 |.ctyping_cond _=>0
def fC:Ui->Nat
 |.ctyping_step x=>sC x.Step
 |.ctyping_cond x=>cN x.Cond
def fD(d:Nat):Ui->Bool
 |.ctyping_step x=>sDp d x.Step
 |.ctyping_cond x=>cD d x.Cond
def fZ:Ui->Nat
 |.ctyping_step x=>sZ x.Step
 |.ctyping_cond x=>cN x.Cond
def fSs(l:List Ui):Nat:=(l.map fS).sum
def fCs(l:List Ui):Nat:=(l.map fC).sum
def fZs(l:List Ui):Nat:=(l.map fZ).sum
def fwf:Ui->Prop
 |.ctyping_step x=>Step.wf x.Step
 |.ctyping_cond x=>Cond.wf x.Cond
def ofStep(s:Step):Ui:=.ctyping_step {Step:=s}
def ofCond(c:Cond):Ui:=.ctyping_cond {Cond:=c}
theorem Qbi:∀l:List Step,fSs (l.map ofStep)=sNs l
 |[]=>rfl
 |s::r=>by
  have:=Qbi r;simp only[fSs,Vq,List.sum_cons]at this⊢;rw[this];rfl
theorem Qbj:∀l:List Step,fCs (l.map ofStep)=sCs l
 |[]=>rfl
 |s::r=>by
  have:=Qbj r;simp only[fCs,Vq,List.sum_cons]at this⊢;rw[this];rfl
theorem Qb3:∀l:List Step,fZs (l.map ofStep)=sZs l
 |[]=>rfl
 |s::r=>by
  have:=Qb3 r;simp only[fZs,Vq,List.sum_cons]at this⊢;rw[this];rfl
theorem QfE:∀l:List Cond,fSs (l.map ofCond)=0
 |[]=>rfl
 |s::r=>by
  have:=QfE r;simp only[fSs,Vq,List.sum_cons]at this⊢;rw[this];rfl
theorem QfG:∀l:List Cond,fCs (l.map ofCond)=cNs l
 |[]=>rfl
 |s::r=>by
  have:=QfG r;simp only[fCs,Vq,List.sum_cons]at this⊢;rw[this];rfl
theorem QfC:∀l:List Cond,fZs (l.map ofCond)=cNs l
 |[]=>rfl
 |s::r=>by
  have:=QfC r;simp only[fZs,Vq,List.sum_cons]at this⊢;rw[this];rfl
theorem Qdb(d:Nat):∀l:List Step,sDs d l=((l.map ofStep).isEmpty||(decide (d<=16)&&(l.map ofStep).all (fD (d+1))))
 |[]=>rfl
 |s::r=>by
  rw[sDs,Qdb d r];simp only[Vq,List.isEmpty_cons,Bool.false_or,List.all_cons];rw[show fD (d+1) (ofStep s)=sDp (d+1) s from rfl];cases r with
  |nil=>simp
  |cons x r=>
   simp only[Vq,List.isEmpty_cons,Bool.false_or,List.all_cons];cases decide (d<=16)<;>simp
theorem QiS(d:Nat):∀l:List Cond,cDs d l=((l.map ofCond).isEmpty||(decide (d<=16)&&(l.map ofCond).all (fD (d+1))))
 |[]=>rfl
 |s::r=>by
  rw[cDs,QiS d r];simp only[Vq,List.isEmpty_cons,Bool.false_or,List.all_cons];rw[show fD (d+1) (ofCond s)=cD (d+1) s from rfl];cases r with
  |nil=>simp
  |cons x r=>
   simp only[Vq,List.isEmpty_cons,Bool.false_or,List.all_cons];cases decide (d<=16)<;>simp
theorem Qak{c:Cond}(h:Cond.wf c):c.Parts.length<=1048576/\ ∀x∈c.Parts,Cond.wf x:=by
 cases c;simp only[Cond.wf,Qds]at h;exact h.2.2.2.1
theorem Qaj{s:Step}(h:Step.wf s):Cond.wf s.Cond/\(s.Then.length<=1048576/\ ∀x∈s.Then,Step.wf x)/\(s.Else.length<=1048576/\ ∀x∈s.Else,Step.wf x):=by
 cases s;simp only[Step.wf,Qdj]at h;exact⟨h.2.2.1,h.2.2.2.1,h.2.2.2.2.1⟩
theorem QgS(n:Nat)(c:Cond):F_y n {Cond:=c}=some (zeroC c):=by
 unfold F_y zeroC;cases(c.Kind==0)<;>cases(c.Var==0)<;>cases(c.N==0)<;>rfl
theorem Qj1(n:Nat)(c:Cond):F_br n c=some (zeroC c):=by
 unfold F_br zeroC;cases(c.Kind==0)<;>cases(c.Var==0)<;>cases(c.N==0)<;>rfl
theorem QfI(l:List Step)(hl:l.length<=140737488):Ev (λn=>F_x n l) (l.map ofStep):=by
 unfold F_x;exact Ea (QgU l ofStep hl) (Qa _)
theorem Qn2(l:List Cond)(hl:l.length<=140737488):Ev (λn=>F_df n l) (l.map ofCond):=by
 unfold F_df;exact Ea (QgU l ofCond hl) (Qa _)
def stepParts(s:Step):List Ui:=s.Then.map ofStep++s.Else.map ofStep
theorem Qbx(s:Step)(h:Step.wf s):Ev (λn=>F_t n {Step:=s}) (stepParts s):=by
 obtain⟨_,⟨a,_⟩,⟨b,_⟩⟩:=Qaj h;unfold F_t stepParts;refine Ea (QfI s.Then (by omega)) (Ea (QfI s.Else (by omega)) (QaY (Qjb _ _ (by simp;omega)) (Qa _)))
theorem Qdc(c:Cond)(h:Cond.wf c):Ev (λn=>F_q n {Cond:=c}) (c.Parts.map ofCond):=by
 obtain⟨a,_⟩:=Qak h;unfold F_q;exact Ea (Qn2 c.Parts (by omega)) (Qa _)
def okL(l:List Ui)(d:Nat)(st co:Int):Bool:=l.isEmpty||(decide (d<=16)&&(l.all (fD (d+1))&&(decide (st+fSs l<=64)&&decide (co+fCs l<=256))))
def okR(l:List Ui)(d:Nat)(st co:Int):Bool:=l.isEmpty||(l.all (fD (d+1))&&(decide (st+fSs l<=64)&&decide (co+fCs l<=256)))
def okF(f:Ui)(d:Nat)(st co:Int):Bool:=fD (d+1) f&&(decide (st+fS f<=64)&&decide (co+fC f<=256))
theorem QiR(f:Ui)(l:List Ui):fSs (f::l)=fS f+fSs l:=rfl
theorem QiT(f:Ui)(l:List Ui):fCs (f::l)=fC f+fCs l:=rfl
theorem QiQ(f:Ui)(l:List Ui):fZs (f::l)=fZ f+fZs l:=rfl
theorem QfD(l m:List Ui):fSs (l++m)=fSs l+fSs m:=by simp[fSs]
theorem QfF(l m:List Ui):fCs (l++m)=fCs l+fCs m:=by simp[fCs]
theorem QfB(l m:List Ui):fZs (l++m)=fZs l+fZs m:=by simp[fZs]
theorem Qnk(f:Ui)(r:List Ui)(d:Nat)(e a:Int):okR (f::r) d e a=(okF f d e a&&okR r d (e+fS f) (a+fC f)):=by
 unfold okR okF;rw[QiR,QiT];cases r with
 |nil=>simp[fSs,fCs]
 |cons g r=>
  rw[X4];simp only[List.isEmpty_cons,Bool.false_or,List.all_cons,X3,Vx];rw[show((fS f+fSs (g::r):Nat):Int)=(fS f:Int)+(fSs (g::r):Int)by omega,show((fC f+fCs (g::r):Nat):Int)=(fC f:Int)+(fCs (g::r):Int)by omega];constructor
  .rintro⟨⟨b,h⟩,i,j⟩;exact⟨⟨b,by omega,by omega⟩,h,by omega,by omega⟩
  .rintro⟨⟨b,_,_⟩,h,i,j⟩;exact⟨⟨b,h⟩,by omega,by omega⟩
theorem Qhr(l:List Ui)(d:Nat)(h g:Int)(i:h<=64)(j:g<=256):okL l d h g=true↔(l.isEmpty||(decide (d<=16)&&l.all (fD (d+1))))=true/\h+fSs l<=64/\g+fCs l<=256:=by
 unfold okL;cases l with
 |nil=>simp[fSs,fCs,i,j]
 |cons f r=>
  simp only[List.isEmpty_cons,Bool.false_or,X3,Vx];constructor
  .rintro⟨a,b,c,e⟩;exact⟨⟨a,b⟩,c,e⟩
  .rintro⟨⟨a,b⟩,c,e⟩;exact⟨a,b,c,e⟩
theorem QeR(s:Step)(d:Nat):((stepParts s).isEmpty||(decide (d<=16)&&(stepParts s).all (fD (d+1))))=(sDs d s.Then&&sDs d s.Else):=by
 rw[Qdb,Qdb];unfold stepParts;rw[List.all_append];cases a:s.Then<;>cases b:s.Else<;>simp<;>(cases decide (d<=16)<;>simp)
def Cnt(R:Nat->List Ui->Int->Ug->Option (Ug×Bool))(l:List Ui)(d:Nat)(st co:Int):Prop:=
 ∃c':Ug,Ev (λn=>R n l (d:Int) {steps:=st,conds:=co}) (c',okL l d st co)/\(okL l d st co=true->c'={steps:=st+fSs l,conds:=co+fCs l})
theorem Qkd{R:Nat->List Ui->Int->Ug->Option (Ug×Bool)}{l:List Ui}{d:Nat}(hd:d<=16){i:Nat}{f:Ui}(ha:At l i f)(hw:fwf f)
  (Y:∀l' d' a e,fZs l'<fZ f->l'.length<=2097152->(∀f∈l',fwf f)->d'<=17->0<=a->a<=66->(a<=65\/ ∀f∈l',∃c,f=ofCond c)->0<=e->e<=256->Cnt R l' d' a e){a e:Int}(h0:0<=a)(aa:a<=66)(w:a<=65\/ ∃c,f=ofCond c)(h2:0<=e)(h3:e<=256):
  ∃c':Ug,Ev (λn=>F_gg n l (d:Int) (R n) ({steps:=a,conds:=e},(i:Int))) (bif okF f d a e then .cont (c',((i+1:Nat):Int))else .done (.done (c',false)))/\(okF f d a e=true->c'={steps:=a+fS f,conds:=e+fC f}):=by
 unfold F_gg;simp only[ha.lt,Vv,ha.ix,XP,ha.nx];have ed:IntKind.i64.wrap ((d:Int)+1)=((d+1:Nat):Int):=Yq (by omega);cases f with
 |ctyping_step x=>
  obtain⟨s⟩:=x;have h1:a<=65:=by
   rcases w with h|⟨c,h⟩
   .exact h
   .cases h
  have k:Step.wf s:=hw;obtain⟨wc,⟨ab,J⟩,⟨ac,Q⟩⟩:=Qaj k;have X:IntKind.i64.wrap (a+1)=a+1:=QW (by omega) (by omega);simp only[Ui.elim,QgS,XP,X];have hc:∃t:Ug,Ev (λn=>((bif (!zeroC s.Cond)then(R n [Ui.ctyping_cond {Cond:=s.Cond}] 0 {steps:=a+1,conds:=e}).bind λm=>some (m.1,(!m.2))else some ({steps:=a+1,conds:=e},false)):Option (Ug×Bool))) (t, !(zeroC s.Cond||(cD 1 s.Cond&&(decide (a+1<=64)&&decide (e+cN s.Cond<=256)))))/\
    ((zeroC s.Cond||(cD 1 s.Cond&&(decide (a+1<=64)&&decide (e+cN s.Cond<=256))))=true->t={steps:=a+1,conds:=e+((bif zeroC s.Cond then 0 else cN s.Cond:Nat):Int)}):=by
   cases E:zeroC s.Cond with
   |true=>
    refine⟨{steps:=a+1,conds:=e},?_,λ_=>?_⟩
    .exact Qa _
    .simp
   |false=>
    obtain⟨t,p,z⟩:=Y [ofCond s.Cond] 0 (a+1) e (by simp only[fZs,Vq,Vr,List.sum_cons,List.sum_nil];show cN s.Cond+0<sZ s;rw[Qif];omega) (by simp) (by intro g j;simp only[VH]at j;subst j;exact wc) (by omega) (by omega) (by omega) (.inr (by intro g j;simp only[VH]at j;exact⟨_,j⟩)) h2 h3;have ek:okL [ofCond s.Cond] 0 (a+1) e=(cD 1 s.Cond&&(decide (a+1<=64)&&decide (e+cN s.Cond<=256))):=by
     unfold okL;simp only[List.isEmpty_cons,Bool.false_or,List.all_cons,List.all_nil,Bool.and_true,fSs,fCs,Vq,Vr,List.sum_cons,List.sum_nil];rw[show fD (0+1) (ofCond s.Cond)=cD 1 s.Cond from rfl,show fS (ofCond s.Cond)=0 from rfl,show fC (ofCond s.Cond)=cN s.Cond from rfl];simp
    rw[ek]at p z;refine⟨t,Ea p (Qa _),λh=>?_⟩;rw[z h];simp[fSs,fCs,show fS (ofCond s.Cond)=0 from rfl,show fC (ofCond s.Cond)=cN s.Cond from rfl]
  obtain⟨t,p,z⟩:=hc;generalize hb:(zeroC s.Cond||(cD 1 s.Cond&&(decide (a+1<=64)&&decide (e+cN s.Cond<=256))))=b at p z;have L:okF (Ui.ctyping_step {Step:=s}) d a e=(sDp (d+1) s&&(decide (a+sNp s<=64)&&decide (e+sC s<=256))):=rfl;rw[L];cases b with
  |false=>
   have:(sDp (d+1) s&&(decide (a+sNp s<=64)&&decide (e+sC s<=256)))=false:=by
    rw[VT];intro hh;simp only[X3,Vx,QkK,Qgq,Qgr]at hh;obtain⟨⟨O,_⟩,z2,z3⟩:=hh;cases E:zeroC s.Cond with
    |true=>rw[E]at hb;cases hb
    |false=>
     rw[E]at hb O z3;simp only[Bool.false_or]at hb O;rw[O]at hb;simp only[Vw]at z3;rw[QZ (show a+1<=64 by omega),QZ (show e+(cN s.Cond:Int)<=256 by omega)]at hb;cases hb
   rw[this];exact⟨t,Ea p (Qa _),λh=>by cases h⟩
  |true=>
   obtain rfl:=z rfl;by_cases q:64<a+1
   .have:(sDp (d+1) s&&(decide (a+sNp s<=64)&&decide (e+sC s<=256)))=false:=by
     rw[Q7 (show¬a+(sNp s:Int)<=64 by rw[Qgq];omega)];simp
    rw[this];refine⟨{steps:=a+1,conds:=e+((bif zeroC s.Cond then 0 else cN s.Cond:Nat):Int)},Ea p ?_,λh=>by cases h⟩;simp only[Xg,Vw];refine Ea (v:=(_,true)) ?_ (Qa _);rw[QZ q];exact Qa _
   by_cases F:256<e+((bif zeroC s.Cond then 0 else cN s.Cond:Nat):Int)
   .have:(sDp (d+1) s&&(decide (a+sNp s<=64)&&decide (e+sC s<=256)))=false:=by
     rw[Q7 (show¬e+(sC s:Int)<=256 by rw[Qgr];omega)];simp
    rw[this];refine⟨{steps:=a+1,conds:=e+((bif zeroC s.Cond then 0 else cN s.Cond:Nat):Int)},Ea p ?_,λh=>by cases h⟩;simp only[Xg,Vw];refine Ea (v:=(_,true)) ?_ (Qa _);rw[Q7 q,QZ F];exact Qa _
   obtain⟨u,G,B⟩:=Y (stepParts s) (d+1) (a+1) (e+((bif zeroC s.Cond then 0 else cN s.Cond:Nat):Int)) (by
     unfold stepParts;rw[QfB,Qb3,Qb3];show _<sZ s;rw[Qif];omega) (by unfold stepParts;simp;omega) (by
     intro g j;unfold stepParts at j;rcases VJ.1 j with j|j
     .obtain⟨y,H,rfl⟩:=Xe.1 j;exact J y H
     .obtain⟨y,H,rfl⟩:=Xe.1 j;exact Q y H) (by omega) (by omega) (by omega) (.inl (by omega)) (by omega) (by omega)
   have T:okL (stepParts s) (d+1) (a+1) (e+((bif zeroC s.Cond then 0 else cN s.Cond:Nat):Int))=(sDp (d+1) s&&(decide (a+sNp s<=64)&&decide (e+sC s<=256))):=by
    rw[X4,Qhr _ _ _ _ (by omega) (by omega),QeR];simp only[X3,Vx,QkK,Qgq,Qgr];have P:fSs (stepParts s)=sNs s.Then+sNs s.Else:=by unfold stepParts;rw[QfD,Qbi,Qbi]
    have M:fCs (stepParts s)=sCs s.Then+sCs s.Else:=by unfold stepParts;rw[QfF,Qbj,Qbj]
    rw[P,M];have N:(zeroC s.Cond||cD 1 s.Cond)=true:=by
     cases E:zeroC s.Cond with
     |true=>rfl
     |false=>
      rw[E]at hb;simp only[Bool.false_or,X3]at hb;rw[hb.1];rfl
    constructor
    .rintro⟨r,h5,W⟩;exact⟨⟨N,r⟩,by omega,by omega⟩
    .rintro⟨⟨_,r⟩,h5,W⟩;exact⟨r,by omega,by omega⟩
   rw[T]at G B;refine⟨u,Ea p ?_,λh=>?_⟩
   .simp only[Xg,Vw];refine Ea (v:=(u, !(sDp (d+1) s&&(decide (a+sNp s<=64)&&decide (e+sC s<=256))))) ?_ ?_
    .rw[Q7 q,Q7 F,ed];exact Ea (Qbx s k) (Ea G (Qa _))
    .cases(sDp (d+1) s&&(decide (a+sNp s<=64)&&decide (e+sC s<=256)))<;>exact Qa _
   .rw[B h];have P:fSs (stepParts s)=sNs s.Then+sNs s.Else:=by unfold stepParts;rw[QfD,Qbi,Qbi]
    have M:fCs (stepParts s)=sCs s.Then+sCs s.Else:=by unfold stepParts;rw[QfF,Qbj,Qbj]
    rw[P,M,show fS (Ui.ctyping_step {Step:=s})=sNp s from rfl,show fC (Ui.ctyping_step {Step:=s})=sC s from rfl,Qgq,Qgr];congr 1<;>omega
 |ctyping_cond x=>
  obtain⟨c⟩:=x;have k:Cond.wf c:=hw;obtain⟨ae,V⟩:=Qak k;have X:IntKind.i64.wrap (e+1)=e+1:=QW (by omega) (by omega);simp only[Ui.elim,X];have L:okF (Ui.ctyping_cond {Cond:=c}) d a e=(cD (d+1) c&&(decide (a<=64)&&decide (e+cN c<=256))):=by
   show(cD (d+1) c&&(decide (a+((0:Nat):Int)<=64)&&decide (e+cN c<=256)))=_;rw[show a+((0:Nat):Int)=a by omega]
  rw[L];by_cases q:64<a
  .have:(cD (d+1) c&&(decide (a<=64)&&decide (e+cN c<=256)))=false:=by
    rw[Q7 (show¬a<=64 by omega)];simp
   rw[this];refine⟨{steps:=a,conds:=e+1},?_,λh=>by cases h⟩;refine Ea (v:=(_,true)) ?_ (Qa _);rw[QZ q];exact Qa _
  by_cases F:256<e+1
  .have:(cD (d+1) c&&(decide (a<=64)&&decide (e+cN c<=256)))=false:=by
    rw[Q7 (show¬e+(cN c:Int)<=256 by rw[Qdh];omega)];simp
   rw[this];refine⟨{steps:=a,conds:=e+1},?_,λh=>by cases h⟩;refine Ea (v:=(_,true)) ?_ (Qa _);rw[Q7 q,QZ F];exact Qa _
  obtain⟨u,G,B⟩:=Y (c.Parts.map ofCond) (d+1) a (e+1) (by
    rw[QfC];show _<cN c;rw[Qdh];omega) (by simp;omega) (by
    intro g j;obtain⟨y,H,rfl⟩:=Xe.1 j;exact V y H) (by omega) (by omega) (by omega) (.inl (by omega)) (by omega) (by omega)
  have T:okL (c.Parts.map ofCond) (d+1) a (e+1)=(cD (d+1) c&&(decide (a<=64)&&decide (e+cN c<=256))):=by
   rw[X4,Qhr _ _ _ _ (by omega) (by omega), <- QiS,QfE,QfG];simp only[X3,Vx,Qoo,Qdh];constructor
   .rintro⟨r,h5,W⟩;exact⟨r,by omega,by omega⟩
   .rintro⟨r,h5,W⟩;exact⟨r,by omega,by omega⟩
  rw[T]at G B;refine⟨u,?_,λh=>?_⟩
  .refine Ea (v:=(u, !(cD (d+1) c&&(decide (a<=64)&&decide (e+cN c<=256))))) ?_ ?_
   .rw[Q7 q,Q7 F,ed];exact Ea (Qdc c k) (Ea G (Qa _))
   .cases(cD (d+1) c&&(decide (a<=64)&&decide (e+cN c<=256)))<;>exact Qa _
  .rw[B h,QfE,QfG,show fS (Ui.ctyping_cond {Cond:=c})=0 from rfl,show fC (Ui.ctyping_cond {Cond:=c})=cN c from rfl,Qdh];congr 1;omega
theorem Qn1:∀(m:Nat) (l:List Ui) (d:Nat) (a b:Int),fZs l<=m->l.length<=2097152->(∀f∈l,fwf f)->d<=17->0<=a->a<=66->(a<=65\/ ∀f∈l,∃c,f=ofCond c)->0<=b->b<=256->Cnt F_d l d a b:=by
 intro m
 induction m using Nat.strongRecOn with
 |_ m E=>
 intro l d a b hm hl N hd h0 h1 w T h3;unfold Cnt;have s:∀c:Ug,(∃e:Ug,Ev (λn=>B_d (F_d n) n l (d:Int) c) (e,okL l d a b)/\(okL l d a b=true->e={steps:=a+fSs l,conds:=b+fCs l}))->∃e:Ug,Ev (λn=>F_d n l (d:Int) c) (e,okL l d a b)/\(okL l d a b=true->e={steps:=a+fSs l,conds:=b+fCs l}):=by
  rintro c ⟨e,q1,Y⟩;exact⟨e,Ji q1,Y⟩
 refine s _ ?_;unfold B_d;cases j:l with
 |nil=>
  refine⟨{steps:=a,conds:=b},?_,λ_=>by simp[fSs,fCs]⟩;refine Ea (v:=false) (Qa _) (Jj ?_);refine Ea (v:=Ctl.cont {steps:=a,conds:=b}) (EvI.ev (Ej ?_)) (Qa _);exact Qa _
 |cons f0 r0=>
 rw[<- j];have u:l.isEmpty=false:=by rw[j];rfl
 have J:0<l.length:=by rw[j];simp
 by_cases g:d<=16
 rotate_left
 .have:okL l d a b=false:=by unfold okL;rw[u,Q7 g];rfl
  rw[this];refine⟨{steps:=a,conds:=b},?_,λh=>by cases h⟩;rw[QZ (show(0:Int)<(l.length:Int)by omega),QZ (show(16:Int)<(d:Int)by omega)];exact Ea (Qa _) (Qa _)
 have G:okL l d a b=okR l d a b:=by unfold okL okR;rw[QZ g,VG]
 rw[G];have loop:∀(r:List Ui) (i:Nat) (a b:Int),l.drop i=r->i<=l.length->0<=a->a<=66->(a<=65\/ ∀f∈l,∃c,f=ofCond c)->0<=b->b<=256->
   ∃e:Ug,EvI (λn=>F_gg n l (d:Int) (F_d n)) ({steps:=a,conds:=b},(i:Int)) (bif okR r d a b then Ctl.cont e else Ctl.done (e,false))/\(okR r d a b=true->e={steps:=a+fSs r,conds:=b+fCs r}):=by
  intro r
  induction r with
  |nil=>
   intro i a b z L _ _ _ _ _;refine⟨{steps:=a,conds:=b},Ej ?_,λ_=>by simp[fSs,fCs]⟩;unfold F_gg;simp only[Yg z L,Vw];exact Qa _
  |cons f r B=>
   intro i a b z L P O F g2 g3;obtain⟨q,H⟩:=QN (by omega) z;have aa:fZ f<=fZs l:=by
    have:∀(l:List Ui),f∈l->fZ f<=fZs l:=by
     intro l
     induction l with
     |nil=>intro h;cases h
     |cons x l E=>
      intro h;rw[QiQ];rcases Vc.1 h with rfl|h
      .omega
      .have:=E h;omega
    exact this l q.mem
   obtain⟨e,k,y⟩:=Qkd (R:=F_d) g q (N f q.mem) (λM d' a b k1 k2 k3 W k5 k6 t Q k8=>E (fZs M) (by omega) M d' a b (XZ _) k2 k3 W k5 k6 t Q k8) P O (F.imp id λh=>h f q.mem) g2 g3;rw[Qnk];cases p:okF f d a b with
   |false=>
    rw[p]at k;exact⟨e,Ej k,λh=>by cases h⟩
   |true=>
    rw[p]at k;obtain rfl:=y p;have hb:a+fS f<=64/\b+fC f<=256:=by
     unfold okF at p;simp only[X3,Vx]at p;exact p.2
    obtain⟨c2,V,X⟩:=B (i+1) (a+fS f) (b+fC f) H (by have:=q.lt';omega) (by omega) (by omega) (.inl (by omega)) (by omega) (by omega);refine⟨c2,Ex k V,λh=>?_⟩;rw[X (by simpa using h),QiR,QiT];congr 1<;>omega
 obtain⟨e,k,y⟩:=loop l 0 a b rfl (X0 _) h0 h1 w T h3;refine⟨e,?_,y⟩;refine Ea (v:=false) ?_ (Jj (Ea k.ev ?_))
 .rw[QZ (show(0:Int)<(l.length:Int)by omega),Q7 (show¬(16:Int)<(d:Int)by omega)];exact Qa _
 .cases okR l d a b<;>exact Qa _
mutual
def vaC:Cond->Bool
 |⟨k,v,n,ps⟩=>bif k==1 then inR 1 3 v&&(inR 0 10000 n&&((ps.length:Int)==0))else
   bif k==4 then((v==0)&&(n==0))&&(((ps.length:Int)==1)&&vaCs ps)else
   bif (k==2)||(k==3)then((v==0)&&(n==0))&&((decide (0<(ps.length:Int))&&decide ((ps.length:Int)<=16))&&vaCs ps)else false
def vaCs:List Cond->Bool
 |[]=>true
 |c::r=>vaC c&&vaCs r
end
theorem Qqd(c:Cond):vaC c=bif c.Kind==1 then inR 1 3 c.Var&&(inR 0 10000 c.N&&((c.Parts.length:Int)==0))else
   bif c.Kind==4 then((c.Var==0)&&(c.N==0))&&(((c.Parts.length:Int)==1)&&vaCs c.Parts)else
   bif (c.Kind==2)||(c.Kind==3)then((c.Var==0)&&(c.N==0))&&((decide (0<(c.Parts.length:Int))&&decide ((c.Parts.length:Int)<=16))&&vaCs c.Parts)else false:=by cases c;rfl
theorem QkC:∀l:List Cond,vaCs l=l.all vaC
 |[]=>rfl
 |c::r=>by rw[vaCs,List.all_cons,QkC r]
mutual
def vaS:Step->Bool
 |⟨k,b,c,t,e⟩=>bif k==1 then inR 1 5 b&&(zeroC c&&(((t.length:Int)==0)&&((e.length:Int)==0)))else
   bif k==2 then(b==0)&&(vaC c&&(decide (0<(t.length:Int))&&(vaSs t&&vaSs e)))else false
def vaSs:List Step->Bool
 |[]=>true
 |s::r=>vaS s&&vaSs r
end
theorem Qqc(s:Step):vaS s=bif s.Kind==1 then inR 1 5 s.By&&(zeroC s.Cond&&(((s.Then.length:Int)==0)&&((s.Else.length:Int)==0)))else
   bif s.Kind==2 then(s.By==0)&&(vaC s.Cond&&(decide (0<(s.Then.length:Int))&&(vaSs s.Then&&vaSs s.Else)))else false:=by cases s;rfl
theorem QkB:∀l:List Step,vaSs l=l.all vaS
 |[]=>rfl
 |c::r=>by rw[vaSs,List.all_cons,QkB r]
def fV:Ui->Bool
 |.ctyping_step x=>vaS x.Step
 |.ctyping_cond x=>vaC x.Cond
theorem Qki(l:List Cond):(l.map ofCond).any (λf=> !fV f)= !vaCs l:=by
 rw[QkC,List.not_all_eq_any_not,List.any_map];rfl
theorem QcM(l:List Step):(l.map ofStep).any (λf=> !fV f)= !vaSs l:=by
 rw[QkB,List.not_all_eq_any_not,List.any_map];rfl
theorem QgP{R:Nat->List Ui->Option Bool}(c:Cond)(i:Cond.wf c)(h:Ev (λn=>R n (c.Parts.map ofCond)) (!vaCs c.Parts)):
  Ev (λn=>F_cv (R n) n {Cond:=c}) (vaC c):=by
 unfold F_cv;rw[Qqd];refine Ea (v:=(c.Var==0)&&(c.N==0)) (Ei λ_=>Qa _) ?_;refine QbI (λ_=>?_) (λm=>?_)
 .exact Ea (Ea (QK _ _ _) (Ei λ_=>Ea (QK _ _ _) (Ei λ_=>Qa _))) (Qa _)
 .have fin:∀b:Bool,Ev (λn=>((bif b then(F_q n {Cond:=c}).bind λf=>(R n f).bind λg=>some (!g)else some false):Option Bool).bind λd=>some d) (b&&vaCs c.Parts):=by
   intro b;refine Ea ((Ei λ_=>Ea (Qdc c i) (Ea h (Qa _)))) ((Qa _).eq (by simp))
  cases l:(c.Kind==4)with
  |true=>
   simp only[Vv];cases j:((c.Var==0)&&(c.N==0))with
   |true=>
    refine Ea (v:=Ctl.cont ((c.Parts.length:Int)==1)) (Qa _) ((fin _).eq (by simp))
   |false=>
    refine Ea (v:=Ctl.cont false) (Qa _) ((fin _).eq (by simp))
  |false=>
   simp only[Vw];cases a:((c.Kind==2)||(c.Kind==3))with
   |true=>
    simp only[Vv];have e:Ev (λn:Nat=>((bif (c.Kind==2)then some (c.Kind==2)else some (c.Kind==3)):Option Bool)) true:=by
     refine EA ?_;rw[Qop,a]
    cases j:((c.Var==0)&&(c.N==0))with
    |true=>
     cases k:decide (0<(c.Parts.length:Int))with
     |true=>
      refine Ea (v:=Ctl.cont (decide ((c.Parts.length:Int)<=16))) (Ea e (Qa _)) ((fin _).eq (by simp))
     |false=>
      refine Ea (v:=Ctl.cont false) (Ea e (Qa _)) ((fin _).eq (by simp))
    |false=>
     refine Ea (v:=Ctl.cont false) (Ea e (Qa _)) ((fin _).eq (by simp))
   |false=>
    have e:Ev (λn:Nat=>((bif (c.Kind==2)then some (c.Kind==2)else some (c.Kind==3)):Option Bool)) false:=by
     refine EA ?_;rw[Qop,a]
    refine Ea (v:=Ctl.done false) (Ea e (Qa _)) (Qa _)
theorem Qj4:∀(m:Nat) (l:List Ui),fZs l<=m->l.length<=2097152->(∀f∈l,fwf f)->Ev (λn=>F_g n l) (l.any λf=> !fV f):=by
 intro m
 induction m using Nat.strongRecOn with
 |_ m e=>
 intro l E B t;refine Ji ?_;show Ev (λn=>B_g (F_g n) n l) _;unfold B_g F_fc;refine Ev.contains l _ (λn f=>F_cx (F_g n) n f) (by omega) λf q=>?_;have z:fZ f<=fZs l:=by
  have:∀(l:List Ui),f∈l->fZ f<=fZs l:=by
   intro l
   induction l with
   |nil=>intro h;cases h
   |cons x l e=>
    intro h;rw[QiQ];rcases Vc.1 h with rfl|h
    .omega
    .have:=e h;omega
  exact this l q
 unfold F_cx;refine Ea (v:=fV f) ?_ (Qa _);have a:∀c:Cond,Cond.wf c->cNs c.Parts<fZ f->Ev (λn=>F_g n (c.Parts.map ofCond)) (!vaCs c.Parts):=by
  intro c j i;rw[<- Qki];obtain⟨w1,w2⟩:=Qak j;refine e (fZs (c.Parts.map ofCond)) (by rw[QfC];omega) _ (XZ _) (by simp;omega) ?_;intro g b;obtain⟨y,d,rfl⟩:=Xe.1 b;exact w2 y d
 cases f with
 |ctyping_cond x=>
  obtain⟨c⟩:=x;have j:Cond.wf c:=t _ q;exact QgP (R:=F_g) c j (a c j (by show cNs c.Parts<cN c;rw[Qdh];omega))
 |ctyping_step x=>
  obtain⟨s⟩:=x;have i:Step.wf s:=t _ q;obtain⟨r,⟨w,p⟩,⟨u,k⟩⟩:=Qaj i;unfold F_ga;show Ev _ (vaS s);rw[Qqc];simp only[Ui.elim];refine QbI (λ_=>?_) (λF=>QbI (λ_=>?_) λ_=>Qa _)
  .refine Ea (Ea (QK _ _ _) (Ei λ_=>?_)) (Qa _);simp only[QgS,XP];refine Ei λ_=>Ea (Qbx s i) ((Qa _).eq ?_);unfold stepParts;rw[X4];simp only[VE,X3,X8,X7];omega
  .refine Ea (Ei λ_=>?_) (Qa _);refine Ea (QgP (R:=F_g) s.Cond r (a s.Cond r (by show _<sZ s;rw[Qif,Qdh];omega))) (Ei λ_=>Ei λ_=>?_);refine Ea (Qbx s i) (Ea (e (fZs (stepParts s)) ?_ _ (XZ _) (by unfold stepParts;simp;omega) ?_) ((Qa _).eq ?_))
   .have:fZs (stepParts s)<sZ s:=by
     unfold stepParts;rw[QfB,Qb3,Qb3,Qif];omega
    have G:fZ (Ui.ctyping_step {Step:=s})=sZ s:=rfl;omega
   .intro g b;unfold stepParts at b;rcases VJ.1 b with b|b
    .obtain⟨y,d,rfl⟩:=Xe.1 b;exact p y d
    .obtain⟨y,d,rfl⟩:=Xe.1 b;exact k y d
   .unfold stepParts;rw[List.any_append,QcM,QcM];simp
def goodT(l:List Step):Bool:=sDs 0 l&&(decide (sNs l<=64)&&decide (sCs l<=256))
def tiesE(l:List Step):Int:=bif goodT l then(bif l.isEmpty|| !vaSs l then 71 else 0)else 2
theorem Qnl(l:List Step):okL (l.map ofStep) 0 0 0=goodT l:=by
 rw[X4,Qhr _ _ _ _ (by omega) (by omega), <- Qdb,Qbi,Qbj];unfold goodT;simp only[X3,Vx];constructor
 .rintro⟨a,b,c⟩;exact⟨a,by omega,by omega⟩
 .rintro⟨a,b,c⟩;exact⟨a,by omega,by omega⟩
theorem Qpx(l:List Step)(hl:l.length<=1048576)(d:∀x∈l,Step.wf x):Ev (λn=>F_ba n l) (tiesE l):=by
 unfold F_ba;refine Ea (QfI l (by omega)) (Ea (v:=tiesE l) ?_ (Qa _));have a:∀f∈l.map ofStep,fwf f:=by
  intro g k;obtain⟨y,j,rfl⟩:=Xe.1 k;exact d y j
 obtain⟨i,b,m⟩:=Qn1 _ (l.map ofStep) 0 0 0 (XZ _) (by simp;omega) a (by omega) (by omega) (by omega) (.inl (by omega)) (by omega) (by omega);rw[Qnl]at b;unfold F_gj;have h:Ev (λn=>F_fy n (l.map ofStep) 0 {steps:=0,conds:=0}) (i,goodT l):=b.shift;refine Ea h ?_;unfold tiesE;cases goodT l with
 |false=>exact Qa _
 |true=>
  simp only[Xg,Vw,Vv];have e:(((l.map ofStep).length:Int)==0)=l.isEmpty:=by
   cases l<;>simp;omega
  rw[e];refine Ea (Eu λ_=>Ea (Qj4 _ _ (XZ _) (by simp;omega) a) (Qa _)) ?_;rw[QcM];cases(l.isEmpty|| !vaSs l)<;>exact Qa _
def condB(d:Nat):Int:=256*(18-(d:Int))+1000
theorem Qgf:∀(m:Nat) (c:Cond) (d:Nat),cN c<=m->d<=17->Cond.wf c->∃v:Int,Ev (λn=>F_j n c (d:Int)) v/\0<=v/\v<=condB d/\
  (d<=16/\cD (d+1) c=true/\cN c<=256->v=cN c)/\(¬(d<=16/\cD (d+1) c=true/\cN c<=256)->256<v):=by
 intro m
 induction m using Nat.strongRecOn with
 |_ m F=>
 intro c d hm hd Q;obtain⟨aa,E⟩:=Qak Q;have q:∀{P:Int->Prop},(∃v:Int,Ev (λn=>B_j (F_j n) n c (d:Int)) v/\P v)->∃v:Int,Ev (λn=>F_j n c (d:Int)) v/\P v:=by
  rintro P ⟨v,j,b⟩;exact⟨v,Ji j,b⟩
 refine q ?_;unfold B_j;by_cases g:d<=16
 .rw[Q7 (show¬(16:Int)<(d:Int)by omega)];have V:IntKind.i64.wrap ((d:Int)+1)=((d+1:Nat):Int):=Yq (by omega);have loop:∀(r:List Cond) (i:Nat) (a:Int),c.Parts.drop i=r->i<=c.Parts.length->0<=a->a<=condB d->
    ∃v:Int,EvI (λn=>F_dz n c (d:Int) (F_j n)) (a,(i:Int)) v/\0<=v/\v<=condB d/\
     (cDs (d+1) r=true/\a+cNs r<=256->v=a+cNs r)/\(¬(cDs (d+1) r=true/\a+cNs r<=256)->256<v):=by
   intro r
   induction r with
   |nil=>
    intro i a t N u j;refine⟨a,Ej ?_,u,j,λ_=>by simp[cNs],λh=>?_⟩
    .unfold F_dz;simp only[Yg t N,Vw,XP];exact Qa _
    .simp[cDs,cNs]at h;omega
   |cons x r B=>
    intro i a t N u j;obtain⟨f,s⟩:=QN (by omega) t;have hx:cN x<cN c:=by
     have:∀l:List Cond,x∈l->cN x<=cNs l:=by
      intro l
      induction l with
      |nil=>intro h;cases h
      |cons y l F=>
       intro h;rw[cNs];rcases Vc.1 h with rfl|h
       .omega
       .have:=F h;omega
     have:=this _ f.mem;rw[Qdh c];omega
    by_cases e:a<=256
    .obtain⟨v,z,O,M,p,G⟩:=F (cN x) (by omega) x (d+1) (XZ _) (by omega) (E x f.mem);have hB:condB (d+1)+256=condB d:=by unfold condB;omega
     have T:condB d<=6000:=by unfold condB;omega
     have X:IntKind.i64.wrap (a+v)=a+v:=QW (by omega) (by omega);obtain⟨w,Y,W,R,q4,L⟩:=B (i+1) (a+v) s (by have:=f.lt';omega) (by omega) (by omega);refine⟨w,Ex ?_ Y,W,R,?_,?_⟩
     .unfold F_dz;simp only[f.lt,Vv,QZ e,XP,f.ix,f.nx,V];refine Ea z ?_;rw[X];exact Qa _
     .rintro⟨b,J⟩;simp only[cDs,X3,Vx]at b;rw[cNs]at J⊢;have:=p ⟨b.1,b.2.1,by omega⟩;subst this;rw[q4 ⟨b.2.2,by omega⟩];omega
     .intro H;by_cases k:d+1<=16/\cD (d+1+1) x=true/\cN x<=256
      .have:=p k;subst this;refine L λb=>H ⟨?_,?_⟩
       .simp only[cDs,X3,Vx];exact⟨k.1,k.2.1,b.1⟩
       .rw[cNs];omega
      .have:=G k;exact L λb=>by omega
    .refine⟨a,Ej ?_,u,j,λh=>?_,λ_=>by omega⟩
     .unfold F_dz;simp only[f.lt,Vv,Q7 e,XP,Vw];exact Qa _
     .omega
  obtain⟨v,z,O,M,p,G⟩:=loop c.Parts 0 1 rfl (X0 _) (by omega) (by unfold condB;omega);refine⟨v,Jj (Ea z.ev (Qa _)),O,M,?_,?_⟩
  .rintro⟨_,b,J⟩;rw[Qoo]at b;rw[Qdh]at J⊢;rw[p ⟨b,by omega⟩];omega
  .intro H;refine G λh=>H ⟨g,by rw[Qoo];exact h.1,by rw[Qdh];omega⟩
 .rw[QZ (show(16:Int)<(d:Int)by omega)];refine⟨1000,Qjs (Qa _),by omega,by unfold condB;omega,λh=>absurd h.1 g,λ_=>by omega⟩
def sizeB:Nat->Int
 |0=>10000
 |k+1=>3*sizeB k
theorem QcU:∀k,10000<=sizeB k
 |0=>Int.le_refl _
 |k+1=>by have:=QcU k;simp only[sizeB];omega
theorem QmU{k:Nat}(h:k<=17):sizeB k<=1291401630000:=by
 have:∀j,j<=17->sizeB j<=1291401630000:=by decide+kernel
 exact this k h
def goodL(d:Nat)(l:List Step):Prop:=sDs d l=true/\sNs l<=64/\sCs l<=256
theorem Qpv:∀(m:Nat) (l:List Step) (d:Nat),sZs l<=m->d<=17->l.length<=1048576->(∀x∈l,Step.wf x)->∃a b:Int,Ev (λn=>F_l n l (d:Int)) (a,b)/\0<=a/\0<=b/\a<=sizeB (17-d)/\b<=sizeB (17-d)/\
  (goodL d l->a=sNs l/\b=sCs l)/\(¬goodL d l->64<a\/256<b):=by
 intro m
 induction m using Nat.strongRecOn with
 |_ m G=>
 intro l d hm hd hl hw;have W:∀{P:Int->Int->Prop},(∃a b:Int,Ev (λn=>B_l (F_l n) n l (d:Int)) (a,b)/\P a b)->∃a b:Int,Ev (λn=>F_l n l (d:Int)) (a,b)/\P a b:=by
  rintro P ⟨a,b,p,t⟩;exact⟨a,b,Ji p,t⟩
 refine W ?_;unfold B_l;by_cases e:0<l.length/\ ¬d<=16
 .rw[QZ (show(0:Int)<(l.length:Int)by omega),QZ (show(16:Int)<(d:Int)by omega)];have:=QcU (17-d);refine⟨1000,1000,Ea (Qa _) (Qjs (Qa _)),by omega,by omega,by omega,by omega,λh=>?_,λ_=>by omega⟩;exfalso;cases l with
  |nil=>simp at e
  |cons x r=>
   have:=h.1;simp only[sDs,X3,Vx]at this;exact e.2 this.1
 .have B:Ev (λn:Nat=>((bif decide (0<(l.length:Int))then some (decide (16<(d:Int)))else some false):Option Bool)) false:=by
   by_cases hp:0<l.length
   .have:d<=16:=by
     rcases VI 16 d with q|q
     .exact absurd ⟨hp,by omega⟩ e
     .exact q
    rw[QZ (show(0:Int)<(l.length:Int)by omega),Q7 (show¬(16:Int)<(d:Int)by omega)];exact Qa _
   .rw[Q7 (show¬(0:Int)<(l.length:Int)by omega)];exact Qa _
  have ed:IntKind.i64.wrap ((d:Int)+1)=((d+1:Nat):Int):=Yq (by omega);have loop:∀(r:List Step) (i:Nat) (a b:Int),l.drop i=r->i<=l.length->0<=a->0<=b->a<=sizeB (17-d)->b<=sizeB (17-d)->
    ∃a' b':Int,EvI (λn=>F_ek n l (d:Int) (F_l n)) (a,b,(i:Int)) (a',b')/\0<=a'/\0<=b'/\a'<=sizeB (17-d)/\b'<=sizeB (17-d)/\
     (sDs d r=true/\a+sNs r<=64/\b+sCs r<=256->a'=a+sNs r/\b'=b+sCs r)/\(¬(sDs d r=true/\a+sNs r<=64/\b+sCs r<=256)->64<a'\/256<b'):=by
   intro r
   induction r with
   |nil=>
    intro i a b hr hi B p t h3;refine⟨a,b,Ej ?_,B,p,t,h3,λ_=>by simp[sNs,sCs],λh=>?_⟩
    .unfold F_ek;simp only[Yg hr hi,Vw,XP];exact Qa _
    .simp[sDs,sNs,sCs]at h;omega
   |cons s r ah=>
    intro i a b hr hi B p t h3;obtain⟨j,V⟩:=QN (by omega) hr;have ak:=j.lt';have u:d<=16:=by
     rcases VI 16 d with q|q
     .exact absurd ⟨by omega,by omega⟩ e
     .exact q
    have al:sZ s<=sZs l:=by
     have:∀l:List Step,s∈l->sZ s<=sZs l:=by
      intro l
      induction l with
      |nil=>intro h;cases h
      |cons y l G=>
       intro h;rw[sZs];rcases Vc.1 h with rfl|h
       .omega
       .have:=G h;omega
     exact this _ j.mem
    by_cases f:a<=64/\b<=256
    .obtain⟨wc,⟨R,ae⟩,⟨T,ab⟩⟩:=Qaj (hw s j.mem);have am:=Qif s;obtain⟨w,g,Q,p2,p3,p4,p5,F,H⟩:=G (sZs s.Then) (by omega) s.Then (d+1) (XZ _) (by omega) R ae;obtain⟨y1,y2,q1,q2,q3,q4,q5,q6,q7⟩:=G (sZs s.Else) (by omega) s.Else (d+1) (XZ _) (by omega) T ab;have hB:sizeB (17-d)=3*sizeB (17-(d+1)):=by
      rw[show 17-d=(17-(d+1))+1 by omega];rfl
     have N:=QcU (17-(d+1));have ai:=QmU (k:=17-d) (by omega);have hc:∃z:Int,0<=z/\z<=5608/\Ev (λn=>((bif (!zeroC s.Cond)then(idx l (i:Int)).bind λaa=>(F_j n aa.Cond 0).bind λO=>some (IntKind.i64.wrap ((IntKind.i64.wrap ((IntKind.i64.wrap (b+g))+y2))+O))else some (IntKind.i64.wrap ((IntKind.i64.wrap (b+g))+y2))):Option Int)) (b+g+y2+z)/\
       ((zeroC s.Cond||cD 1 s.Cond)=true/\(bif zeroC s.Cond then 0 else cN s.Cond)<=256->z=((bif zeroC s.Cond then 0 else cN s.Cond:Nat):Int))/\(¬((zeroC s.Cond||cD 1 s.Cond)=true/\(bif zeroC s.Cond then 0 else cN s.Cond)<=256)->256<z):=by
      have e1:IntKind.i64.wrap (b+g)=b+g:=QW (by omega) (by omega);have e2:IntKind.i64.wrap (b+g+y2)=b+g+y2:=QW (by omega) (by omega);cases hz:zeroC s.Cond with
      |true=>
       refine⟨0,by omega,by omega,?_,λ_=>by simp,λh=>absurd ⟨rfl,by simp⟩ h⟩;simp only[Xg,Vw,e1,e2];exact(Qa _).eq (by omega)
      |false=>
       obtain⟨v,u1,u2,u3,u4,u5⟩:=Qgf _ s.Cond 0 (XZ _) (by omega) wc;have ag:v<=5608:=by unfold condB at u3;omega
       have e3:IntKind.i64.wrap (b+g+y2+v)=b+g+y2+v:=QW (by omega) (by omega);refine⟨v,u2,ag,?_,λh=>?_,λh=>?_⟩
       .simp only[Xh,Vv,j.ix,XP,e1,e2];refine Ea u1 ?_;rw[e3];exact Qa _
       .simp only[Bool.false_or,Vw]at h⊢;exact u4 ⟨by omega,h.1,h.2⟩
       .simp only[Bool.false_or,Vw]at h;exact u5 λq=>h ⟨q.2.1,q.2.2⟩
     obtain⟨z,z0,z1,z2,z3,z4⟩:=hc;have e4:IntKind.i64.wrap (a+1)=a+1:=QW (by omega) (by omega);have e5:IntKind.i64.wrap (a+1+w)=a+1+w:=QW (by omega) (by omega);have e6:IntKind.i64.wrap (a+1+w+y1)=a+1+w+y1:=QW (by omega) (by omega);obtain⟨w1,w2,v1,v2,v3,v4,v5,v6,E⟩:=ah (i+1) (a+1+w+y1) (b+g+y2+z) V (by omega) (by omega) (by omega) (by omega) (by omega);refine⟨w1,w2,Ex ?_ v1,v2,v3,v4,v5,?_,?_⟩
     .unfold F_ek;simp only[j.lt,Vv,QZ f.1,QZ f.2,XP,j.ix,j.nx,ed,Qj1];refine Ea Q (Ea q1 ?_);simp only[j.ix,XP]at z2;refine Ea z2 ?_;rw[e4,e5,e6];exact Qa _
     .rintro⟨g1,g2,g3⟩;simp only[sDs,X3,Vx,QkK]at g1;obtain⟨aj,⟨J,af,Y⟩,ac⟩:=g1;rw[sNs,Qgq]at g2⊢;rw[sCs,Qgr]at g3⊢;obtain⟨k1,k2⟩:=F ⟨af,by omega,by omega⟩;obtain⟨k3,k4⟩:=q6 ⟨Y,by omega,by omega⟩;have k5:=z3 ⟨J,by omega⟩;obtain⟨k6,k7⟩:=v6 ⟨ac,by omega,by omega⟩;constructor<;>omega
     .intro hn;by_cases M:goodL (d+1) s.Then
      .obtain⟨k1,k2⟩:=F M;by_cases L:goodL (d+1) s.Else
       .obtain⟨k3,k4⟩:=q6 L;by_cases X:(zeroC s.Cond||cD 1 s.Cond)=true/\(bif zeroC s.Cond then 0 else cN s.Cond)<=256
        .have k5:=z3 X;refine E λq=>hn ⟨?_,?_,?_⟩
         .simp only[sDs,X3,Vx,QkK];exact⟨u,⟨X.1,M.1,L.1⟩,q.1⟩
         .rw[sNs,Qgq];omega
         .rw[sCs,Qgr];omega
        .have:=z4 X;exact E λq=>by omega
       .have:=q7 L;exact E λq=>by omega
      .have:=H M;exact E λq=>by omega
    .refine⟨a,b,Ej ?_,B,p,t,h3,λh=>?_,λ_=>?_⟩
     .unfold F_ek;have:Ev (λn:Nat=>((bif decide ((i:Int)<(l.length:Int))then(bif decide (a<=64)then some (decide (b<=256))else some false)else some false):Option Bool)) false:=by
       rw[j.lt];by_cases q:a<=64
       .rw[QZ q,Q7 (show¬b<=256 from λz=>f ⟨q,z⟩)];exact Qa _
       .rw[Q7 q];exact Qa _
      exact Ea this (Jj (Qa _))
     .omega
     .omega
  have N:=QcU (17-d);obtain⟨a,b,Q,p2,p3,p4,p5,F,H⟩:=loop l 0 0 0 rfl (X0 _) (by omega) (by omega) (by omega) (by omega);refine⟨a,b,Ea B (Jj (Ea Q.ev (Qa _))),p2,p3,p4,p5,λh=>?_,λh=>?_⟩
  .obtain⟨k1,k2⟩:=F ⟨h.1,by have:=h.2.1;omega,by have:=h.2.2;omega⟩;constructor<;>omega
  .exact H λq=>h ⟨q.1,by omega,by omega⟩
mutual
def hP:Part->Nat
 |⟨_,_,ps⟩=>bif ps.isEmpty then 0 else 1+hPs ps
def hPs:List Part->Nat
 |[]=>0
 |p::r=>max (hP p) (hPs r)
end
theorem QpZ(p:Part):hP p=bif p.Parts.isEmpty then 0 else 1+hPs p.Parts:=by cases p;rfl
theorem Qk0{p:Part}:∀{l:List Part},p∈l->hP p<=hPs l
 |q::r,h=>by
  simp only[hPs];rcases Vc.1 h with rfl|h
  .omega
  .have:=Qk0 h;omega
theorem Qix{α:Type}(l:List α):((l.length:Int)==0)=l.isEmpty:=by
 cases l<;>simp;omega
theorem Qbc:∀l:List Part,l.length<=szPs l
 |[]=>XZ _
 |p::r=>by have:=Qbc r;rw[szPs,Jo,X6];omega
theorem QiW:∀(m:Nat) (l:List Part) (k:Nat),szPs l<=m->k<=17->l.length<=1048576->(∀x∈l,Part.wf x)->Ev (λn=>F_m n l (k:Int)) ((min (hPs l) k:Nat):Int):=by
 intro m
 induction m using Nat.strongRecOn with
 |_ m h=>
 intro l k E B z t;refine Ji ?_;show Ev (λn=>B_m (F_m n) n l (k:Int)) _;unfold B_m;have loop:∀(r:List Part) (i:Nat) (a:Nat),l.drop i=r->i<=l.length->a<=k->EvI (λn=>F_dh n l (k:Int) (F_m n)) ((a:Int),(i:Int)) ((max a (min (hPs r) k):Nat):Int):=by
  intro r
  induction r with
  |nil=>
   intro i a d g b;refine Ej ?_;unfold F_dh;simp only[Yg d g,Vw,XP];refine(Qa _).eq ?_;simp[hPs]
  |cons p r e=>
   intro i a d g q;obtain⟨b,f⟩:=QN (by omega) d;obtain⟨w1,w2⟩:=YZ (t p b.mem);by_cases y:0<k
   .have u:IntKind.i64.wrap ((k:Int)-1)=((k-1:Nat):Int):=by rw[QW (by omega) (by omega)];omega
    have j:=Qam b.mem;rw[Jo]at j;have step:Ev (λn=>F_dh n l (k:Int) (F_m n) ((a:Int),(i:Int))) (.cont (((max a (min (hP p) k):Nat):Int),((i+1:Nat):Int))):=by
     unfold F_dh;simp only[b.lt,Vv,QZ (show(0:Int)<(k:Int)by omega),XP,b.ix,b.nx,u,bne,Qix];rw[QpZ];cases F:p.Parts.isEmpty with
     |true=>
      simp only[Xg,Vw,XP,Vv,Nat.zero_min,Nat.max_zero];exact Qa _
     |false=>
      simp only[Xh,Vv,Vw];refine Ea (Ea (h (szPs p.Parts) (by omega) p.Parts (k-1) (XZ _) (by omega) w1 w2) (Qa _)) ((Qa _).eq ?_);have w:IntKind.i64.wrap (1+((min (hPs p.Parts) (k-1):Nat):Int))=((1+min (hPs p.Parts) (k-1):Nat):Int):=by rw[QW (by omega) (by omega)];omega
      rw[w];congr 2;split<;>omega
    refine(Ex step (e (i+1) _ f (by have:=b.lt';omega) (by omega))).eq ?_;rw[hPs];omega
   .have:k=0:=by omega
    subst this;refine Ej ?_;unfold F_dh;simp only[b.lt,Vv,Q7 (show¬(0:Int)<((0:Nat):Int)by omega),XP,Vw];have s:max a (min (hPs (p::r)) 0)=a:=by omega
    rw[s];exact Qa _
 refine Ea ((loop l 0 0 rfl (X0 _) (X0 _)).ev) ((Qa _).eq ?_);omega
theorem QiX:∀(m:Nat) (l:List Part),szPs l<=m->l.length<=1048576->(∀x∈l,Part.wf x)->Ev (λn=>F_p n l) ((min (szPs l) 257:Nat):Int):=by
 intro m
 induction m using Nat.strongRecOn with
 |_ m t=>
 intro l B s w;refine Ji ?_;show Ev (λn=>B_p (F_p n) n l) _;unfold B_p;have loop:∀(r:List Part) (i:Nat) (a:Nat),l.drop i=r->i<=l.length->a<=1048576->∃b:Nat,EvI (λn=>F_fu n l (F_p n)) ((a:Int),(i:Int)) (b:Int)/\min b 257=min (a+(szPs r-r.length)) 257:=by
  intro r
  induction r with
  |nil=>
   intro i a e k _;refine⟨a,Ej ?_,by simp[szPs]⟩;unfold F_fu;simp only[Yg e k,Vw,XP];exact Qa _
  |cons p r g=>
   intro i a e k y;obtain⟨d,h⟩:=QN (by omega) e;obtain⟨w1,w2⟩:=YZ (w p d.mem);have u:=Qam d.mem;rw[Jo]at u;have z:=Qbc r;by_cases q:a<=256
   .obtain⟨b,f,j⟩:=g (i+1) (a+min (szPs p.Parts) 257) h (by have:=d.lt';omega) (by omega);refine⟨b,Ex ?_ f,?_⟩
    .unfold F_fu;simp only[d.lt,Vv,QZ (show(a:Int)<=256 by omega),XP,d.ix,d.nx];refine Ea (t (szPs p.Parts) (by omega) p.Parts (XZ _) w1 w2) ((Qa _).eq ?_);rw[QW (by omega) (by omega)];congr 2
     all_goals omega
    .rw[j,szPs,Jo,X6];omega
   .refine⟨a,Ej ?_,by omega⟩;unfold F_fu;simp only[d.lt,Vv,Q7 (show¬(a:Int)<=256 by omega),XP,Vw];exact Qa _
 obtain⟨b,f,j⟩:=loop l 0 l.length rfl (X0 _) s;refine Ea f.ev ((Qa _).eq ?_);have:=Qbc l;split<;>omega
theorem Qn0:∀(m:Nat) (l:List Part) (k:Nat),szPs l<=m->hPs l<=k->k<=17->szPs l<=256->(∀x∈l,Part.wf x)->Ev (λn=>F_n n l (k:Int)) ((hPs l:Int),(szPs l:Int)):=by
 intro m
 induction m using Nat.strongRecOn with
 |_ m M=>
 intro l k P O s f y;have w:=Qbc l;refine Ji ?_;show Ev (λn=>B_n (F_n n) n l (k:Int)) _;unfold B_n;have loop:∀(r:List Part) (i:Nat) (a b:Nat),l.drop i=r->i<=l.length->a<=17->b+(szPs r-r.length)<=256->EvI (λn=>F_er n l (k:Int) (F_n n)) ((a:Int),(b:Int),(i:Int)) (((max a (hPs r):Nat):Int),((b+(szPs r-r.length):Nat):Int)):=by
  intro r
  induction r with
  |nil=>
   intro i a b g t _ _;refine Ej ?_;unfold F_er;simp only[Yg g t,Vw,XP];refine(Qa _).eq ?_;simp[hPs,szPs]
  |cons p r h=>
   intro i a b g t H j;obtain⟨d,q⟩:=QN (by omega) g;obtain⟨w1,w2⟩:=YZ (y p d.mem);have F:=Qam d.mem;have e:=Qk0 d.mem;rw[Jo]at F;have L:=Qbc r;rw[szPs,Jo,X6]at j;have step:Ev (λn=>F_er n l (k:Int) (F_n n) ((a:Int),(b:Int),(i:Int))) (.cont (((max a (hP p):Nat):Int),((b+szPs p.Parts:Nat):Int),((i+1:Nat):Int))):=by
    unfold F_er;simp only[d.lt,Vv,d.ix,XP,d.nx,Qix];rw[QpZ]at e⊢;cases u:p.Parts.isEmpty with
    |true=>
     have N:p.Parts=[]:=by simpa using u
     simp only[Vv,XP];rw[N];simp only[szPs,XB,Nat.max_zero];exact Qa _
    |false=>
     rw[u]at e;simp only[Vw]at e⊢;have z:0<k:=by omega
     have G:IntKind.i64.wrap ((k:Int)-1)=((k-1:Nat):Int):=by rw[QW (by omega) (by omega)];omega
     have E:((k:Int)==0)=false:=beq_false_of_ne (by omega);rw[E,Q7 (show¬(256:Int)<(b:Int)by omega),G];simp only[Vw,XP];refine Ea (Ea (M (szPs p.Parts) (by omega) p.Parts (k-1) (XZ _) (by omega) (by omega) (by omega) w2) (Qa _)) ((Qa _).eq ?_);have B:IntKind.i64.wrap ((hPs p.Parts:Int)+1)=((hPs p.Parts+1:Nat):Int):=Yq (by omega);have J:IntKind.i64.wrap ((b:Int)+(szPs p.Parts:Int))=((b+szPs p.Parts:Nat):Int):=by rw[QW (by omega) (by omega)];omega
     simp only[B,J];congr 2;split<;>omega
   refine(Ex step (h (i+1) _ _ q (by have:=d.lt';omega) (by omega) (by omega))).eq ?_;rw[hPs,szPs,Jo,X6];congr 1<;>omega
 refine Ea ((loop l 0 0 l.length rfl (X0 _) (by omega) (by omega)).ev) ((Qa _).eq ?_);congr 1<;>omega
def repS:Nat->List Int->List Int->List Int
 |0,out,_=>out
 |k+1,out,lap=>if 256<out.length then out else repS k (out++lap) lap
mutual
def lapS:Part->List Int
 |⟨m,laps,ps⟩=>bif decide (0<laps)then expS [] ps else[m]
def expS:List Int->List Part->List Int
 |out,[]=>out
 |out,p::r=>expS (repS (p.Laps.toNat+(bif decide (0<p.Laps)then 0 else 1)) out (lapS p)) r
end
theorem Qbt(p:Part):lapS p=bif decide (0<p.Laps)then expS [] p.Parts else[p.Mat]:=by cases p;rfl
theorem Qe4{k:Nat}{a b:List Int}(h:256<a.length):repS k a b=a:=by
 cases k with
 |zero=>rfl
 |succ k=>rw[repS,Vz h]
theorem QfH:∀(l:List Part) {out:List Int},256<out.length->expS out l=out
 |[],out,h=>by rw[expS]
 |p::r,out,h=>by rw[expS,Qe4 h];exact QfH r h
theorem Qe3:∀(k:Nat) (out lap:List Int),(repS k out lap).length<=max out.length (256+lap.length)
 |0,out,lap=>by rw[repS];omega
 |k+1,out,lap=>by
  rw[repS];split
  .omega
  .have:=Qe3 k (out++lap) lap;rw[X8]at this;omega
theorem QiU:∀(m:Nat) (l:List Part) (a:List Int),szPs l<=m->(expS a l).length<=max a.length (256+257*szPs l):=by
 intro m
 induction m using Nat.strongRecOn with
 |_ m i=>
 intro l;have b:∀p∈l,szPs l<=m->(lapS p).length<=257*szP p:=by
  intro p f h;have k:=Qam f;rw[Qbt,Jo]at*;cases decide (0<p.Laps)with
  |true=>
   have:=i (szPs p.Parts) (by omega) p.Parts [] (XZ _);simp only[Vv,List.length_nil]at this⊢;omega
  |false=>simp;omega
 have d:∀(r:List Part) (a:List Int),(∀p∈r,(lapS p).length<=257*szP p)->(expS a r).length<=max a.length (256+257*szPs r):=by
  intro r
  induction r with
  |nil=>intro a _;rw[expS];omega
  |cons p r e=>
   intro a g;rw[expS,szPs];have s:=e (repS (p.Laps.toNat+(bif decide (0<p.Laps)then 0 else 1)) a (lapS p)) λq j=>g q (by simp[j]);have t:=Qe3 (p.Laps.toNat+(bif decide (0<p.Laps)then 0 else 1)) a (lapS p);have n:=g p (by simp);omega
 intro a h;exact d l a λp f=>b p f h
theorem Qnw(p:Part):(lapS p).length<=257*szP p:=by
 rw[Qbt,Jo];cases decide (0<p.Laps)with
 |true=>
  have:=QiU _ p.Parts [] (XZ _);simp only[Vv,List.length_nil]at this⊢;omega
 |false=>simp;omega
theorem QlV(V:Int):∀(m:Nat) (l:List Part),szPs l<=m->szPs l<=256->l.length<=1048576->(∀x∈l,Part.wf x)->partsS V l=true->Ev (λn=>F_k n l) (expS [] l):=by
 intro m
 induction m using Nat.strongRecOn with
 |_ m ih=>
 intro l hm G hl W R;rw[QaM,Xv]at R;refine Ji ?_;show Ev (λn=>B_k (F_k n) n l) _;unfold B_k;have inner:∀(p:Part) (e:List Int) (g:p.Laps=0\/0<p.Laps/\p.Laps<=64) (B:e.length<=100000) (j:Nat) (k:Nat) (a:List Int),j+k=p.Laps.toNat+(bif decide (0<p.Laps)then 0 else 1)->a.length<=200000->
   ∃d:Ctl (List Int) (Ctl ((List Int)×Int) (Ctl (List Int) (List Int))),EvI (λn=>F_fq n p e) (a,(j:Int)) d/\
    (d=.cont (repS k a e)\/(256<(repS k a e).length/\d=.done (.done (.done (repS k a e))))):=by
  intro p e g B j k
  induction k generalizing j with
  |zero=>
   intro a f _;refine⟨_,Ej (b:=.cont a) ?_,.inl rfl⟩;unfold F_fq;have:¬((j:Int)<if p.Laps<1 then 1 else p.Laps):=by
    rcases g with h|⟨h,Q⟩
    .rw[h]at f⊢;simp at f⊢;omega
    .rw[QZ h]at f;simp at f;rw[Vy (by omega)];omega
   rw[Q7 this];exact Qa _
  |succ k M=>
   intro a f y;have w:((j:Int)<if p.Laps<1 then 1 else p.Laps):=by
    rcases g with h|⟨h,Q⟩
    .rw[h]at f⊢;simp at f⊢;omega
    .rw[QZ h]at f;simp at f;rw[Vy (by omega)];omega
   have T:j<=64:=by
    rcases g with h|⟨h,Q⟩
    .rw[h]at f;simp at f;omega
    .rw[QZ h]at f;simp at f;omega
   by_cases t:256<a.length
   .refine⟨_,Ej (b:=.done (.done (.done a))) ?_,.inr ⟨by rw[Qe4 t];exact t,by rw[Qe4 t]⟩⟩;unfold F_fq;rw[QZ w,QZ (show(256:Int)<(a.length:Int)by omega)];exact Qa _
   .obtain⟨d,u,E⟩:=M (j+1) (a++e) (by omega) (by rw[X8];omega);refine⟨d,Ex ?_ u,by rw[repS,Vy t];exact E⟩;unfold F_fq;rw[QZ w,Q7 (show¬(256:Int)<(a.length:Int)by omega)];refine Qjs (Jj (QaY (Qjb a e (by omega)) ?_));rw[Yq (by omega)];exact Qa _
 have loop:∀(r:List Part) (i:Nat) (a:List Int),l.drop i=r->i<=l.length->a.length<=100000->
   ∃d:Ctl (List Int) (List Int),EvI (λn=>F_en n l (F_k n)) (a,(i:Int)) d/\(d=.cont (expS a r)\/d=.done (expS a r)):=by
  intro r
  induction r with
  |nil=>
   intro i a J O _;refine⟨.cont a,Ej ?_,.inl (by rw[expS])⟩;unfold F_en;simp only[Yg J O,Vw];exact Qa _
  |cons p r L=>
   intro i a J O y;obtain⟨q,N⟩:=QN (by omega) J;have w:=q.lt';have Y:=Qam q.mem;obtain⟨w1,w2⟩:=YZ (W p q.mem);have g:=R p q.mem;rw[Qc0]at g;have s:p.Laps=0\/0<p.Laps/\p.Laps<=64:=by
    cases P:(p.Laps==0)with
    |true=>exact .inl (by simpa using P)
    |false=>
     rw[P]at g;simp only[Vw,inR,X3,Vx]at g;exact .inr ⟨by omega,by omega⟩
   have aa:=Qnw p;have t:Ev (λn=>((bif decide (0<p.Laps)then(F_k n p.Parts).bind λH=>some H else some [p.Mat]):Option (List Int))) (lapS p):=by
    rw[Qbt];refine QbI (λh=>?_) (λ_=>Qa _);rw[Jo]at Y;refine Ea (ih (szPs p.Parts) (by omega) p.Parts (XZ _) (by omega) w1 w2 ?_) (Qa _);have:(p.Laps==0)=false:=by
     simp only[Vx]at h;exact beq_false_of_ne (by omega)
    rw[this]at g;simp only[Vw,X3]at g;exact g.2.2.2
   obtain⟨d,u,E⟩:=inner p (lapS p) s (by omega) 0 _ a (XA _) (by omega);rw[expS];rcases E with rfl|⟨z,rfl⟩
   .obtain⟨F,q1,X⟩:=L (i+1) (repS (p.Laps.toNat+(bif decide (0<p.Laps)then 0 else 1)) a (lapS p)) N (by omega) (by
     have:=Qe3 (p.Laps.toNat+(bif decide (0<p.Laps)then 0 else 1)) a (lapS p);omega)
    refine⟨F,Ex ?_ q1,X⟩;unfold F_en;simp only[q.lt,Vv,q.ix,XP,q.nx];exact Ea t (Ea u.ev (Qa _))
   .refine⟨.done (repS (p.Laps.toNat+(bif decide (0<p.Laps)then 0 else 1)) a (lapS p)),Ej ?_,.inr (by rw[QfH r z])⟩;unfold F_en;simp only[q.lt,Vv,q.ix,XP,q.nx];exact Ea t (Ea u.ev (Qa _))
 obtain⟨d,u,E⟩:=loop l 0 [] rfl (X0 _) (by simp);rcases E with rfl|rfl
 .exact Ea u.ev (Qa _)
 .exact Ea u.ev (Qa _)
def kindAt(c:Course)(m:Int):Int:=((c.Mats[m.toNat]?).map (·.Kind)).getD 0
def hasLeg(c:Course)(a b:Int):Bool:=c.Legs.any λl=>(l.From==a)&&(l.To==b)
def rokS(c:Course)(len:Nat):Nat->Int->List Int->Bool
 |_,_,[]=>true
 |i,prev,m::r=>((kindAt c m==1)==decide (i=0))&&(((kindAt c m==3)==decide (i+1=len))&&((decide (i=0)||hasLeg c prev m)&&rokS c len (i+1) m r))
def routeR(c:Course)(d:Distance)(r:List Int):Bool:=
 (decide (2<=r.length)&&decide (r.length<=256))&&(rokS c r.length 0 0 r&&((bif decide (0<=d.Extra)then !((r.count d.Extra:Int)==0)&&((kindAt c d.Extra==2)&&hasLeg c d.Extra d.Extra)else true)&&d.Cutoffs.all λx=>decide (x.Lap<=(r.count x.Mat:Int))))
def routeS(c:Course)(d:Distance):Bool:=routeR c d (expS [] d.Route)
def cntM(l:List Int):List (Int×Int):=l.foldl (λm k=>QE m k (QI m k 0+1)) []
theorem Ql3(l:List Int)(k:Int):cntM (l++[k])=QE (cntM l) k (QI (cntM l) k 0+1):=by unfold cntM;rw[XI];rfl
theorem QfP(l:List Int)(k:Int):QI (cntM l) k 0=(l.count k:Int):=by
 have a:∀(l:List Int) (m:List (Int×Int)),QI (l.foldl (λm k=>QE m k (QI m k 0+1)) m) k 0=QI m k 0+(l.count k:Int):=by
  intro l
  induction l with
  |nil=>intro m;simp
  |cons x l b=>
   intro m;rw[XJ,b,Qfc,List.count_cons];by_cases h:k=x
   .subst h;simp;omega
   .have:(x==k)=false:=beq_false_of_ne λe=>h e.symm;simp[h,this]
 have:=a l [];simpa[cntM,QlG]using this
theorem QjM(d:Int):∀(m:Nat) (l:List Part) (a:List Int),szPs l<=m->partsS d l=true->(∀x∈a,0<=x/\x<=d)->∀x∈expS a l,0<=x/\x<=d:=by
 intro m
 induction m using Nat.strongRecOn with
 |_ m y=>
 intro l;have u:∀(k:Nat) (a b:List Int),(∀x∈a,0<=x/\x<=d)->(∀x∈b,0<=x/\x<=d)->∀x∈repS k a b,0<=x/\x<=d:=by
  intro k
  induction k with
  |zero=>intro a b i _;rw[repS];exact i
  |succ k q=>
   intro a b i w;rw[repS];split
   .exact i
   .refine q _ _ ?_ w;intro x g;rcases VJ.1 g with h|h
    .exact i x h
    .exact w x h
 have n:∀(r:List Part) (a:List Int),szPs r<=m->partsS d r=true->(∀x∈a,0<=x/\x<=d)->∀x∈expS a r,0<=x/\x<=d:=by
  intro r
  induction r with
  |nil=>intro a _ _ h;rw[expS];exact h
  |cons p r t=>
   intro a s f h;rw[szPs,Jo]at s;rw[partsS,X3]at f;obtain⟨e,z⟩:=f;rw[expS];refine t _ (by omega) z (u _ _ _ h ?_);rw[Qbt];rw[Qc0]at e;cases j:(p.Laps==0)with
   |true=>
    have B:p.Laps=0:=by simpa using j
    rw[j,Vv,X3]at e;have:=e.1;unfold inR at this;simp only[X3,Vx]at this;rw[B];intro x g;simp at g;subst g;exact this
   |false=>
    rw[j]at e;simp only[Vw,X3,inR,Vx]at e;rw[QZ (show 0<p.Laps by omega),Vv];exact y (szPs p.Parts) (by omega) p.Parts [] (XZ _) e.2.2.2 (by simp)
 exact λa s f h=>n l a s f h
theorem QkT{c:Course}{m:Int}(h0:0<=m)(b:m<=(c.Mats.length:Int)-1):∃x:Mat,idx c.Mats m=some x/\x.Kind=kindAt c m:=by
 obtain⟨k,rfl⟩:∃k:Nat,m=(k:Int):=⟨m.toNat,by omega⟩;have a:k<c.Mats.length:=by omega
 refine⟨c.Mats[k],YD (XQ a),?_⟩;unfold kindAt;rw[Int.toNat_natCast,XQ a];rfl
theorem Qiy(c:Course)(a b:Int):QI (Yi legKey true c.Legs) {from_:=a,to_:=b} false=hasLeg c a b:=by
 rw[QbY];unfold hasLeg;by_cases h:({from_:=a,to_:=b}:Uh)∈c.Legs.map legKey
 .rw[Vz h];obtain⟨l,d,e⟩:=Xe.1 h;unfold legKey at e;obtain⟨f,g⟩:=ends_eq.1 e;exact(Xw.2 ⟨l,d,by simp[f,g]⟩).symm
 .rw[Vy h]
  symm
  rw[VT];intro q;obtain⟨l,d,e⟩:=Xw.1 q;simp only[X3,VE]at e;exact h (Xe.2 ⟨l,d,by unfold legKey;rw[e.1,e.2]⟩)
structure NumOk (c:Course):Prop where
 kinds:∀m∈c.Mats,1<=m.Kind/\m.Kind<=3
 dist:∀d∈c.Distances,-1<=d.Extra/\d.Extra<=(c.Mats.length:Int)-1/\partsS ((c.Mats.length:Int)-1) d.Route=true
theorem QoF{c:Course}(h:numbersS c=true):NumOk c:=by
 unfold numbersS at h;simp only[X3,Xv]at h;refine⟨λm e=>?_,λd f=>?_⟩
 .have:=h.1 m e;unfold inR at this;simpa using this
 .have:=h.2.2.2.1 d f;unfold distS at this;simp only[X3]at this;obtain⟨_,a,b,_⟩:=this;unfold inR at a;simp only[X3,Vx]at a;exact⟨a.1,a.2,b⟩
theorem QqU{c:Course}(q:NumOk c){d:Distance}(hd:d∈c.Distances):∀x∈expS [] d.Route,0<=x/\x<=(c.Mats.length:Int)-1:=
 QjM _ _ d.Route [] (XZ _) (q.dist d hd).2.2 (by simp)
theorem QmY(c:Course)(len i:Nat)(prev m:Int)(r:List Int):rokS c len i prev (m::r)=(((kindAt c m==1)==decide (i=0))&&(((kindAt c m==3)==decide (i+1=len))&&((decide (i=0)||hasLeg c prev m)&&rokS c len (i+1) m r))):=rfl
theorem Qo9(i:Nat):((i:Int)==0)=decide (i=0):=by
 rw[X4];simp
theorem Qge(c:Course)(r:List Int)(J:2<=r.length)(R:r.length<=256)(M:∀x∈r,0<=x/\x<=(c.Mats.length:Int)-1):
  Ev (λn=>iter (F_de n c (Yi legKey true c.Legs) r) n ([],0)) (bif rokS c r.length 0 0 r then .cont (cntM r)else .done false):=by
 have loop:∀(t:List Int) (i:Nat) (b:Int),r.drop i=t->i<=r.length->(0<i->At r (i-1) b)->EvI (λn=>F_de n c (Yi legKey true c.Legs) r) (cntM (r.take i),(i:Int)) (bif rokS c r.length i b t then .cont (cntM r)else .done false):=by
  intro t
  induction t with
  |nil=>
   intro i b f q _;refine Ej ?_;unfold F_de;simp only[Yg f q,Vw,rokS,Vv];have:r.length<=i:=by simpa using f
   rw[VO this];exact Qa _
  |cons m t L=>
   intro i b f q P;obtain⟨d,g⟩:=QN (by omega) f;have N:=d.lt';obtain⟨E,z⟩:=M m d.mem;obtain⟨x,G,B⟩:=QkT E z;have u:IntKind.i64.wrap ((r.length:Int)-1)=((r.length-1:Nat):Int):=by rw[QW (by omega) (by omega)];omega
   have H:((i:Int)==((r.length-1:Nat):Int))=decide (i+1=r.length):=by rw[X4];simp;omega
   have O:Ev (λn:Nat=>((bif ((x.Kind==1) != ((i:Int)==0))then some true else(bif ((x.Kind==3) != ((i:Int)==(IntKind.i64.wrap ((r.length:Int)-1))))then some true else(bif decide (0<(i:Int))then(idx r (IntKind.i64.wrap ((i:Int)-1))).bind λk=>(some (QI (Yi legKey true c.Legs) ({from_:=k,to_:=m:Uh}) false)).bind λj=>some (!j)else some false))):Option Bool))
     (!(((kindAt c m==1)==decide (i=0))&&(((kindAt c m==3)==decide (i+1=r.length))&&(decide (i=0)||hasLeg c b m)))):=by
    rw[B,u,H,Qo9];refine Ew (Eu λ_=>Eu λ_=>QbI (v:= !hasLeg c b m) (w:=false) (λh=>?_) λ_=>Qa _) ?_
    .have p:0<i:=by simpa using h
     have Q:IntKind.i64.wrap ((i:Int)-1)=((i-1:Nat):Int):=by rw[QW (by omega) (by omega)];omega
     rw[Q,(P p).ix];simp only[XP,Qiy];exact Qa _
    .have y:decide (0<(i:Int))= !decide (i=0):=by rw[X4];simp;omega
     rw[y];cases(kindAt c m==1)<;>cases decide (i=0)<;>cases(kindAt c m==3)<;>cases decide (i+1=r.length)<;>cases hasLeg c b m<;>rfl
   have e:IntKind.i64.wrap (QI (cntM (r.take i)) m 0+1)=QI (cntM (r.take i)) m 0+1:=by
    rw[QfP];have:(r.take i).count m<=i:=by have:=List.count_le_length (a:=m) (l:=r.take i);simp at this;omega
    exact QW (by omega) (by omega)
   have step:Ev (λn=>F_de n c (Yi legKey true c.Legs) r (cntM (r.take i),(i:Int))) (bif ((kindAt c m==1)==decide (i=0))&&(((kindAt c m==3)==decide (i+1=r.length))&&(decide (i=0)||hasLeg c b m))then .cont (cntM (r.take (i+1)),((i+1:Nat):Int))else .done (.done false)):=by
    unfold F_de;simp only[d.lt,Vv,d.ix,XP,d.nx,G];refine Ea O ?_;rw[e, <- Ql3, <- d.take];cases(((kindAt c m==1)==decide (i=0))&&(((kindAt c m==3)==decide (i+1=r.length))&&(decide (i=0)||hasLeg c b m)))<;>exact Qa _
   have F:rokS c r.length i b (m::t)=((((kindAt c m==1)==decide (i=0))&&(((kindAt c m==3)==decide (i+1=r.length))&&(decide (i=0)||hasLeg c b m)))&&rokS c r.length (i+1) m t):=by rw[QmY];simp only[Bool.and_assoc]
   rw[F];cases s:(((kindAt c m==1)==decide (i=0))&&(((kindAt c m==3)==decide (i+1=r.length))&&(decide (i=0)||hasLeg c b m)))with
   |false=>
    rw[s]at step;exact Ej step
   |true=>
    rw[s]at step;rw[VG];exact Ex step (L (i+1) m g (by omega) (λ_=>by simpa using d))
 exact(loop r 0 0 rfl (X0 _) (by omega)).ev
theorem Qj3(c:Course)(w:CourseOk c)(q:NumOk c)(d:Distance)(b:d∈c.Distances)(u:∀x∈d.Route,Part.wf x)(l:szPs d.Route<=256):
  Ev (λn=>F_az n c d (Yi legKey true c.Legs)) (routeS c d):=by
 have j:=Qbc d.Route;have i:=QqU q b;have a:=QiU _ d.Route [] (XZ _);unfold F_az routeS;refine Ea (QlV _ _ d.Route (XZ _) l (by omega) u (q.dist d b).2.2) ?_;generalize expS [] d.Route=r at i a⊢;unfold routeR;have k:IntKind.i64.wrap ((r.length:Int)-1)=(r.length:Int)-1:=by
  have:r.length<=1048576:=by simp at a;omega
  exact QcS this
 rw[k];have t:(decide ((r.length:Int)-1<1)||decide (256<=(r.length:Int)-1))= !(decide (2<=r.length)&&decide (r.length<=256)):=by
  rw[X4];simp;omega
 refine Ea (Ew (Eu λ_=>Qa _) t) ?_;cases f:(decide (2<=r.length)&&decide (r.length<=256))with
 |false=>exact Qa _
 |true=>
  simp only[X3,Vx]at f;rw[VG];refine Jj (Ea (Qge c r f.1 f.2 i) ?_);cases rokS c r.length 0 0 r with
  |false=>exact Qa _
  |true=>
   simp only[Vv,VG];have s:Ev (λn:Nat=>((bif decide (0<=d.Extra)then(some (QI (cntM r) d.Extra 0)).bind λg=>(bif (g==0)then some true else(idx c.Mats d.Extra).bind λe=>(bif (e.Kind != 2)then some true else(some (QI (Yi legKey true c.Legs) ({from_:=d.Extra,to_:=d.Extra:Uh}) false)).bind λh=>some (!h)))else some false):Option Bool))
     (!(bif decide (0<=d.Extra)then !((r.count d.Extra:Int)==0)&&((kindAt c d.Extra==2)&&hasLeg c d.Extra d.Extra)else true)):=by
    rw[QfP];cases p:decide (0<=d.Extra)with
    |false=>exact Qa _
    |true=>
     obtain⟨x,y,z⟩:=QkT (c:=c) (m:=d.Extra) (by simpa using p) (q.dist d b).2.1;simp only[Vv,XP,y,Qiy,z];refine Ew (Eu λ_=>Eu λ_=>Qa _) ?_;rw[bne];cases((r.count d.Extra:Int)==0)<;>cases(kindAt c d.Extra==2)<;>cases hasLeg c d.Extra d.Extra<;>rfl
   refine Ea s ?_;cases(bif decide (0<=d.Extra)then !((r.count d.Extra:Int)==0)&&((kindAt c d.Extra==2)&&hasLeg c d.Extra d.Extra)else true)with
   |false=>exact Qa _
   |true=>
    rw[VG];refine Jj (Ea ?_ (Qa _));unfold F_ew F_ei F_fz;refine Jl d.Cutoffs _ (λn x=>F_bf n x (cntM r)) (by have:=w.cut d b;omega) λx _=>?_;unfold F_bf;rw[QfP];exact Qa _
theorem QdZ{a b:Nat}(h:a+b<=4611686018427387904):IntKind.i64.wrap ((a:Int)+(b:Int))=((a+b:Nat):Int):=by
 rw[QW (by omega) (by omega)];omega
def lensC(c:Course):Nat:=c.Mats.length+c.Legs.length+c.Distances.length+c.Waves.length+c.Offences.length+c.Categories.length+c.Prizes.length
def fewD(d:Distance):Prop:=d.Cutoffs.length<=200/\szPs d.Route<=200/\hPs d.Route<=16
structure FewOk (c:Course):Prop where
 lens:lensC c<=200
 name:c.Name.length<=100
 dist:∀d∈c.Distances,fewD d
 ties:c.Ties.length<=200
theorem QhN(c:Course)(w:CourseOk c)(q:PartsOk c)(hl:c.Ties.length<=1048576)(M:∀x∈c.Ties,Step.wf x):∃b,Ev (λn=>F_aa n c) b/\(b=true->FewOk c):=by
 have hm:=w.mats;have hg:=w.legs;have hd:=w.dist;have H:=w.wave;have ho:=w.off;have hc:=w.cat;have hp:=w.prize;have loop:∀(t:List Distance) (i s:Nat),c.Distances.drop i=t->i<=c.Distances.length->∃f:Ctl Int Bool,EvI (λn=>F_bq n c) ((s:Int),(i:Int)) f/\(f=.done false\/ ∃v:Nat,f=.cont (v:Int)/\(v<=200->s<=v/\ ∀d∈t,fewD d)):=by
  intro t
  induction t with
  |nil=>
   intro i s u F;refine⟨.cont (s:Int),Ej ?_,Or.inr ⟨s,rfl,λ_=>⟨XZ _,by simp⟩⟩⟩;unfold F_bq;simp only[Yg u F,Vw,XP];exact Qa _
  |cons d t W=>
   intro i s u F;obtain⟨g,r⟩:=QN (by omega) u;have Y:=g.lt';by_cases R:s<=200
   .have j:=q.len d g.mem;have m:=q.wf d g.mem;have J:=w.cut d g.mem;have z:=QiX _ d.Route (XZ _) j m;have G:=QiW _ d.Route 17 (XZ _) (XZ _) j m;have V:IntKind.i64.wrap ((s:Int)+(d.Cutoffs.length:Int))=((s+d.Cutoffs.length:Nat):Int):=QdZ (by omega);have Q:IntKind.i64.wrap (((s+d.Cutoffs.length:Nat):Int)+((min (szPs d.Route) 257:Nat):Int))=((s+d.Cutoffs.length+min (szPs d.Route) 257:Nat):Int):=QdZ (by omega);have step:Ev (λn=>F_bq n c ((s:Int),(i:Int))) (bif decide ((16:Int)<((min (hPs d.Route) 17:Nat):Int))then .done (.done false)else .cont (((s+d.Cutoffs.length+min (szPs d.Route) 257:Nat):Int),((i+1:Nat):Int))):=by
     unfold F_bq;simp only[g.lt,Vv,g.ix,XP,g.nx,QZ (show(s:Int)<=200 by omega)];refine Ea z (Ea G ?_);rw[V,Q];cases decide ((16:Int)<((min (hPs d.Route) 17:Nat):Int))<;>exact Qa _
    by_cases L:hPs d.Route<=16
    .rw[Q7 (show¬(16:Int)<((min (hPs d.Route) 17:Nat):Int)by omega)]at step;obtain⟨f,p,k⟩:=W (i+1) (s+d.Cutoffs.length+min (szPs d.Route) 257) r (by omega);refine⟨f,Ex step p,?_⟩;rcases k with k|⟨v,k,y⟩
     .exact Or.inl k
     .refine Or.inr ⟨v,k,λH=>?_⟩;obtain⟨O,B⟩:=y H;refine⟨by omega,λx E=>?_⟩;rcases Vc.1 E with rfl|E
      .exact⟨by omega,by omega,L⟩
      .exact B x E
    .rw[QZ (show(16:Int)<((min (hPs d.Route) 17:Nat):Int)by omega)]at step;exact⟨.done false,Ej step,Or.inl rfl⟩
   .refine⟨.cont (s:Int),Ej ?_,Or.inr ⟨s,rfl,λh=>absurd h R⟩⟩;unfold F_bq;simp only[g.lt,Vv,Q7 (show¬(s:Int)<=200 by omega),XP,Vw];exact Qa _
 obtain⟨f,p,k⟩:=loop c.Distances 0 (lensC c) rfl (X0 _);have e:IntKind.i64.wrap ((IntKind.i64.wrap ((IntKind.i64.wrap ((IntKind.i64.wrap ((IntKind.i64.wrap ((IntKind.i64.wrap ((c.Mats.length:Int)+(c.Legs.length:Int)))+(c.Distances.length:Int)))+(c.Waves.length:Int)))+(c.Offences.length:Int)))+(c.Categories.length:Int)))+(c.Prizes.length:Int))=(lensC c:Int):=by
  have P:c.Mats.length+c.Legs.length<=4611686018427387904:=by omega
  have N:c.Mats.length+c.Legs.length+c.Distances.length<=4611686018427387904:=by omega
  have h3:c.Mats.length+c.Legs.length+c.Distances.length+c.Waves.length<=4611686018427387904:=by omega
  have h4:c.Mats.length+c.Legs.length+c.Distances.length+c.Waves.length+c.Offences.length<=4611686018427387904:=by omega
  have X:c.Mats.length+c.Legs.length+c.Distances.length+c.Waves.length+c.Offences.length+c.Categories.length<=4611686018427387904:=by omega
  have T:c.Mats.length+c.Legs.length+c.Distances.length+c.Waves.length+c.Offences.length+c.Categories.length+c.Prizes.length<=4611686018427387904:=by omega
  rw[QdZ P,QdZ N,QdZ h3,QdZ h4,QdZ X,QdZ T];rfl
 unfold F_aa;rw[e];rcases k with rfl|⟨v,rfl,y⟩
 .exact⟨false,Ea p.ev (Qa _),λh=>by cases h⟩
 .obtain⟨a,b,z,G,p3,_,_,_,_⟩:=Qpv _ c.Ties 0 (XZ _) (by omega) hl M;have l:Ev (λn=>F_bk n c.Ties) (decide ((c.Ties.length:Int)<=20)&&(decide (a<=80)&&decide (b<=300))):=by
   unfold F_bk;exact Ea z (Ea (Ei λ_=>Ei λ_=>Qa _) (Qa _))
  refine⟨decide ((v:Int)<=200)&&(decide ((c.Name.length:Int)<=100)&&(decide ((c.Ties.length:Int)<=20)&&(decide (a<=80)&&decide (b<=300)))),Ea p.ev (Ea (Ei λ_=>Ei λ_=>Ea l (Qa _)) (Qa _)),λh=>?_⟩;simp only[X3,Vx]at h;obtain⟨O,B⟩:=y (by omega);exact⟨by omega,by omega,B,by omega⟩
def fitsS(c:Course):Bool:=
 !(decide (40<(c.Mats.length:Int))||(decide (512<(c.Legs.length:Int))||(decide (8<(c.Distances.length:Int))||(decide (32<(c.Waves.length:Int))||(decide (32<(c.Offences.length:Int))||(decide (32<(c.Categories.length:Int))||decide (32<(c.Prizes.length:Int))))))))
  &&c.Distances.all λd=> !decide (64<(d.Cutoffs.length:Int))
theorem Qpw(c:Course)(w:CourseOk c)(q:PartsOk c)(k:FewOk c):Ev (λn=>F_ct n c) (fitsS c):=by
 unfold F_ct fitsS;refine Ea (Eu λ_=>Eu λ_=>Eu λ_=>Eu λ_=>Eu λ_=>Eu λ_=>Qa _) ?_;cases(decide (40<(c.Mats.length:Int))||(decide (512<(c.Legs.length:Int))||(decide (8<(c.Distances.length:Int))||(decide (32<(c.Waves.length:Int))||(decide (32<(c.Offences.length:Int))||(decide (32<(c.Categories.length:Int))||decide (32<(c.Prizes.length:Int))))))))with
 |true=>exact Qa _
 |false=>
  rw[Xh,VG];refine Jj (Ea (QmB c.Distances (λd=> !decide (64<(d.Cutoffs.length:Int))) (Ctl.done false) (Ctl.cont ()) (by have:=w.dist;omega) (λi x a=>?_) ?_) ?_)
  .obtain⟨f,e,b⟩:=k.dist x a.mem;unfold F_hw;simp only[a.lt,Vv,a.ix,XP,a.nx];refine Ea (Qn0 _ x.Route 17 (XZ _) (by omega) (XZ _) (by omega) (q.wf x a.mem)) ?_;refine Ea (Eu λ_=>Eu λ_=>Qa _) ?_;simp only[Q7 (show¬(16:Int)<(hPs x.Route:Int)by omega),Q7 (show¬(256:Int)<(szPs x.Route:Int)by omega),Bool.or_false];cases decide (64<(x.Cutoffs.length:Int))<;>exact Qa _
  .unfold F_hw;simp only[QaH,Vw];exact Qa _
  .cases(c.Distances.all λd=> !decide (64<(d.Cutoffs.length:Int)))<;>exact Qa _
def courseE(c:Course):Int:=
 bif fitsS c then bif namesS c then bif numbersS c then bif tiesE c.Ties==0 then bif c.Distances.all (routeS c)then 0 else 72 else tiesE c.Ties else 71 else 70 else 2
theorem QlX(c:Course)(w:CourseOk c)(q:PartsOk c)(k:FewOk c)(hl:c.Ties.length<=1048576)(d:∀x∈c.Ties,Step.wf x):Ev (λn=>F_e n c) (courseE c):=by
 unfold F_e courseE;refine Ea (Qpw c w q k) ?_;cases fitsS c with
 |false=>exact Qa _
 |true=>
 refine Jj (Ea (QnT c w) ?_);cases namesS c with
 |false=>exact Qa _
 |true=>
 refine Jj (Ea (Qj2 c w q) ?_);cases f:numbersS c with
 |false=>exact Qa _
 |true=>
 refine Jj (Ea (Qpx c.Ties hl d) ?_);rw[bne];cases(tiesE c.Ties==0)with
 |false=>exact Qa _
 |true=>
 have e:Ev (λn=>iter (F_hj n c) n ([],0)) (Yi legKey true c.Legs):=by
  refine QbH c.Legs legKey true (by have:=w.legs;omega) (λi x m a=>?_) (λm=>?_)
  .unfold F_hj;simp only[a.lt,Vv,a.ix,XP,a.nx];exact Qa _
  .unfold F_hj;simp only[QaH,Vw];exact Qa _
 refine Jj (Ea e ?_);have a:Ev (λn=>F_ax n c.Distances c (Yi legKey true c.Legs)) (c.Distances.all (routeS c)):=by
  unfold F_ax F_eg F_fk;refine Jl c.Distances _ (λn x=>F_di n x c (Yi legKey true c.Legs)) (by have:=w.dist;omega) λx b=>?_;unfold F_di;exact Ea (Qj3 c w (QoF f) x b (q.wf x b) (by have:=(k.dist x b).2.1;omega)) (Qa _)
 refine Ea a ?_;cases c.Distances.all (routeS c)<;>exact Qa _
theorem Qgl{α:Type}{lt:α->α->Prop}(d:∀a b,lt a b->¬lt b a):∀{l m:List α},l.Pairwise lt->m.Pairwise lt->(∀x,x∈l↔x∈m)->l=m:=by
 intro l
 induction l with
 |nil=>
  intro m _ _ h;cases m with
  |nil=>rfl
  |cons y m=>exact absurd ((h y).2 (by simp)) (by simp)
 |cons x l q=>
  intro m p r h;cases m with
  |nil=>exact absurd ((h x).1 (by simp)) (by simp)
  |cons y m=>
   obtain⟨i,s⟩:=Xc.1 p;obtain⟨g,n⟩:=Xc.1 r;have j:x=y:=by
    rcases Vc.1 ((h x).1 (by simp))with e|e
    .exact e
    .rcases Vc.1 ((h y).2 (by simp))with k|k
     .exact k.symm
     .exact absurd (g x e) (d _ _ (i y k))
   subst j;rw[q s n λz=>?_];constructor
   .intro f;rcases Vc.1 ((h z).1 (by simp[f]))with e|e
    .subst e;exact absurd (i z f) (d _ _ (i z f))
    .exact e
   .intro f;rcases Vc.1 ((h z).2 (by simp[f]))with e|e
    .subst e;exact absurd (g z f) (d _ _ (g z f))
    .exact e
theorem Qb5:∀(l:List Int) (p:Int),(∀x∈l,p<=x)->l.Pairwise (· <= ·)->(QaT p l).Pairwise (· < ·)/\(∀x∈QaT p l,p<x)/\ ∀x,x∈p::QaT p l↔x∈p::l
 |[],p,_,_=>⟨List.Pairwise.nil,by simp[QaT],by simp[QaT]⟩
 |y::l,p,h,hp=>by
  obtain⟨h1,h2⟩:=Xc.1 hp;unfold QaT;by_cases e:y=p
  .subst e;obtain⟨k1,k2,k3⟩:=Qb5 l y h1 h2;rw[beq_self_eq_true,Vv];refine⟨k1,k2,λx=>?_⟩;rw[k3 x];simp
  .have e':(y==p)=false:=by simpa using e
   rw[e',Vw];obtain⟨k1,k2,k3⟩:=Qb5 l y h1 h2;have b:=h y (by simp);refine⟨Xc.2 ⟨k2,k1⟩,λx a=>?_,λx=>?_⟩
   .rcases Vc.1 a with rfl|a
    .omega
    .have:=k2 x a;omega
   .rw[Vc,k3 x];simp
theorem Qkc(l:List Int):(Qi5 (Yn ltI l)).Pairwise (· < ·)/\ ∀x,x∈Qi5 (Yn ltI l)↔x∈l:=by
 have e:(Yn ltI l).Pairwise (· <= ·):=(QT (Qc5 l)).imp λ{a b} h=>by simp[ltI]at h;exact h
 have d:∀x,x∈Yn ltI l↔x∈l:=λx=>(Qn ltI l).mem_iff;generalize Yn ltI l=m at e d;cases m with
 |nil=>exact⟨List.Pairwise.nil,λx=>by rw[<- d x];rfl⟩
 |cons y m=>
  obtain⟨j,k⟩:=Xc.1 e;obtain⟨i,f,g⟩:=Qb5 m y j k;exact⟨Xc.2 ⟨f,i⟩,λx=>(g x).trans (d x)⟩
theorem QkI{α:Type}(l:List α){a b:Nat}(h:a<=b)(d:b<=l.length):slc l (a:Int) (b:Int)=some ((l.take b).drop a):=by
 unfold slc;rw[QZ (show(0:Int)<=(a:Int)by omega),QZ (show(a:Int)<=(b:Int)by omega),QZ (show(b:Int)<=(l.length:Int)by omega)];simp
theorem QmT{α:Type}(l:List α){b:Nat}(a:b<=l.length):slc l 0 (b:Int)=some (l.take b):=by
 have:=QkI l (X0 b) a;simpa using this
theorem Qib{α:Type}(l:List α){a:Nat}(b:a<=l.length):slc l (a:Int) (l.length:Int)=some (l.drop a):=by
 have:=QkI l b (XZ _);simpa using this
theorem QbA{α:Type}(l m:List α)(h:l.length+m.length<=4294967296):app l m=some (l++m):=by
 unfold app;rw[XY (by unfold Qt;exact h)];rfl
theorem Qid{α:Type}(l:List α){i:Nat}(x:α)(h:i<l.length):QbN l (i:Int) x=some (l.set i x):=by
 unfold QbN;rw[QZ (show(0:Int)<=(i:Int)by omega),QZ (show(i:Int)<(l.length:Int)by omega)];simp
def firstI{α:Type}(q:α->Bool):List α->Nat->Int
 |[],_=> -1
 |x::l,i=>bif q x then(i:Int)else firstI q l (i+1)
theorem Ev.first{α:Type}{step:Nat->Int->Option (Ctl Int (Ctl Unit Int))}(l:List α)(q:α->Bool)(hl:l.length<=4611686018427387904)
  (m:∀i x,At l i x->Ev (λn=>step n (i:Int)) (bif q x then .done (.done (i:Int))else .cont ((i+1:Nat):Int)))(t:Ev (λn=>step n (l.length:Int)) (.done (.cont ()))):
  Ev (λn=>(Go.Sw.iter (step n) n 0).bind λb=>match b with|.cont _=>some (-1)|.done v=>some v) (firstI q l 0):=by
 have loop:∀(r:List α) (i:Nat),l.drop i=r->i<=l.length->∃a:Ctl Unit Int,EvI step (i:Int) a/\(match a with|.cont _=>some (-1)|.done v=>some v)=some (firstI q r i):=by
  intro r
  induction r with
  |nil=>
   intro i e p;have:i=l.length:=by have:=Xs.1 e;omega
   subst this;exact⟨.cont (),Ej t,rfl⟩
  |cons x r k=>
   intro i e p;obtain⟨j,g⟩:=QN hl e;have s:=m i x j;unfold firstI;cases h:q x with
   |true=>
    rw[h]at s;exact⟨_,Ej s,rfl⟩
   |false=>
    rw[h]at s;obtain⟨a,f,d⟩:=k (i+1) g (by have:=j.lt';omega);exact⟨a,Ex s f,d⟩
 obtain⟨a,f,d⟩:=loop l 0 rfl (X0 _);exact Ea f.ev (EA d)
theorem QaX{ι α:Type}{F:Nat->ι->Option α}{V:ι->α}:∀(L:List ι),(∀p∈L,Ev (λn=>F n p) (V p))->∃N,∀n,N<=n->∀p∈L,F n p=some (V p)
 |[],_=>⟨0,λ_ _ p hp=>by cases hp⟩
 |x::L,h=>by
  obtain⟨N,hN⟩:=QaX L λp hp=>h p (by simp[hp]);obtain⟨M,hM⟩:=h x (by simp);refine⟨N+M,λn hn p hp=>?_⟩;rcases Vc.1 hp with rfl|hp
  .exact hM n (by omega)
  .exact hN n (by omega) p hp
theorem Ev.anyP{E R:Type}[DecidableEq R]{k:Nat->List E->Option R}{l:List E}{r:R}(h:∀p,p.Perm l->Ev (λn=>k n p) r):Ev (λn=>Go.Sw.anyP (k n) l) r:=by
 obtain⟨N,d⟩:=QaX (F:=λn p=>k n p) (V:=λ_=>r) (QbX l) λp a=>h p (QcE l p a);exact⟨N,λn b=>QhS λp a=>d n b p (QdB l p a)⟩
theorem Ev.isNil{α R:Type}[DecidableEq R]{l:List α}{x y:Nat->Option R}{v:R}(b:l=[]->Ev x v)(a:Ev y v):Ev (λn=>Go.Sw.isNil l (x n) (y n)) v:=by
 unfold Go.Sw.isNil;cases q:l.isEmpty with
 |false=>exact a
 |true=>
  obtain⟨N,d⟩:=b (List.isEmpty_iff.1 q);obtain⟨M,e⟩:=a;exact⟨N+M,λn f=>by dsimp only;rw[d n (by omega),e n (by omega)];simp⟩
set_option maxRecDepth 4000
def openU(f:Fact):U_facts_open_rxk:=
 bif f.Kind==1 then .c0 ()else bif f.Kind==2 then .c1 ()else bif f.Kind==3 then .c2 ()else bif f.Kind==4 then .c3 ()else bif f.Kind==5 then .c4 ()else bif f.Kind==6 then .c5 ()
 else bif f.Kind==7 then .c6 ()else bif f.Kind==8 then .c7 ()else bif f.Kind==9 then .c8 ()else bif f.Kind==10 then
  (bif (f.Ruling.Kind==1)||(f.Ruling.Kind==2)then .c9 (0,0,0,0,0,0)else bif f.Ruling.Kind==3 then .c9 (1,9999,0,255,1,1099511627776)else bif f.Ruling.Kind==4 then .c9 (1,9999,0,255,1,64)else .c9 (1,9999,0,255,0,0))
 else bif f.Kind==11 then .c10 ()else bif f.Kind==12 then .c11 ()else bif f.Kind==13 then .c12 ()else .c13 ()
theorem QkP(n:Nat)(f:Fact)(b:Int):F_am n f b=some (openU f):=by
 unfold F_am openU;cases(f.Kind==1)with
 |true=>rfl
 |false=>
 cases(f.Kind==2)with
 |true=>rfl
 |false=>
 cases(f.Kind==3)with
 |true=>rfl
 |false=>
 cases(f.Kind==4)with
 |true=>rfl
 |false=>
 cases(f.Kind==5)with
 |true=>rfl
 |false=>
 cases(f.Kind==6)with
 |true=>rfl
 |false=>
 cases(f.Kind==7)with
 |true=>rfl
 |false=>
 cases(f.Kind==8)with
 |true=>rfl
 |false=>
 cases(f.Kind==9)with
 |true=>rfl
 |false=>
 cases(f.Kind==10)with
 |true=>
  cases(f.Ruling.Kind==1)with
  |true=>rfl
  |false=>
  cases(f.Ruling.Kind==2)with
  |true=>rfl
  |false=>
  cases(f.Ruling.Kind==3)with
  |true=>rfl
  |false=>
  cases(f.Ruling.Kind==4)with
  |true=>rfl
  |false=>rfl
 |false=>
 cases(f.Kind==11)with
 |true=>rfl
 |false=>
 cases(f.Kind==12)with
 |true=>rfl
 |false=>
 cases(f.Kind==13)with
 |true=>rfl
 |false=>rfl
def headL:List Ent:=[⟨false,3,1,13⟩,⟨false,0,0,31⟩,⟨false,1,1,1048576⟩,⟨false,2,0,1099511627776⟩]
def bodyL:U_facts_open_rxk->List Ent
 |.c0 _=>[⟨false,4,1,9999⟩,⟨false,5,0,7⟩,⟨false,6,0,31⟩,⟨false,7,(-1099511627776),1099511627776⟩,⟨false,8,0,120⟩,⟨false,9,0,1048576⟩,⟨false,10,0,9999⟩,⟨false,11,0,1048576⟩]
 |.c1 _=>[⟨false,12,0,39⟩,⟨false,13,0,255⟩,⟨false,14,0,1048576⟩,⟨false,15,(-1099511627776),1099511627776⟩]
 |.c2 _=>[⟨false,16,0,39⟩,⟨false,17,0,255⟩,⟨false,18,(-1099511627776),1099511627776⟩,⟨false,19,(-1099511627776),1099511627776⟩,⟨false,20,0,1099511627776⟩]
 |.c3 _=>[⟨false,21,0,39⟩,⟨false,22,0,255⟩,⟨false,23,(-1099511627776),1099511627776⟩,⟨false,24,0,39⟩,⟨false,25,0,255⟩,⟨false,26,(-1099511627776),1099511627776⟩,⟨false,27,(-1099511627776),1099511627776⟩,⟨false,28,(-1099511627776),1099511627776⟩]
 |.c4 _=>[⟨false,29,1,9999⟩,⟨false,30,0,255⟩,⟨false,31,(-1099511627776),1099511627776⟩,⟨false,32,(-1099511627776),1099511627776⟩]
 |.c5 _=>[⟨false,33,0,39⟩,⟨false,34,0,255⟩,⟨false,35,(-1099511627776),1099511627776⟩,⟨false,36,(-1099511627776),1099511627776⟩]
 |.c6 _=>[⟨false,37,1,9999⟩,⟨false,38,1,9999⟩]
 |.c7 _=>[⟨false,39,1,1048576⟩,⟨false,40,1,9999⟩,⟨false,41,0,31⟩,⟨false,42,0,255⟩]
 |.c8 _=>[⟨false,43,1,1048576⟩,⟨false,44,0,9999⟩,⟨false,45,0,1125899906842624⟩,⟨false,46,0,1⟩]
 |.c9 x=>[⟨false,47,1,1048576⟩,⟨false,48,1,2⟩,⟨false,49,1,5⟩,⟨false,50,x.1,x.2.1⟩,⟨false,51,x.2.2.1,x.2.2.2.1⟩,⟨false,52,x.2.2.2.2.1,x.2.2.2.2.2⟩]
 |.c10 _=>[⟨false,53,1,1048576⟩,⟨true,0,0,1⟩]
 |.c11 _=>[]
 |.c12 _=>[⟨false,55,0,31⟩,⟨false,56,1,1048576⟩]
 |.c13 _=>[]
def fineU(f:Fact):U_facts_open_rxk->Bool
 |.c3 _=>decide (f.Sync.Min<=f.Sync.Max)
 |.c4 _=>decide (f.Hand.Lo<=f.Hand.Hi)
 |.c5 _=>decide (f.Silence.Lo<=f.Silence.Hi)
 |.c6 _=>decide (f.Pair.A<f.Pair.B)
 |.c13 _=>false
 |_=>true
def entsS(f:Fact):List Ent:=headL++bodyL (openU f)
def goodE(e:Ent):Bool:=bif e.fl then e.off==0 else decide (e.off<57)&& !(e.off==54)
theorem QlZ(f:Fact):∀e∈entsS f,goodE e=true:=by
 have h:∀u:U_facts_open_rxk,(headL++bodyL u).all goodE=true:=by intro u;cases u<;>rfl
 exact Xv.1 (h (openU f))
theorem QfM(f:Fact):(entsS f).length<=12:=by
 have h:∀u:U_facts_open_rxk,(headL++bodyL u).length<=12:=by intro u;cases u<;>exact XX rfl
 exact h (openU f)
def isI:Option A->Bool
 |some (.int .i64 _)=>true
 |_=>false
theorem QqN{x:Option A}(h:isI x=true):∃v,x=some (.int .i64 v):=by
 unfold isI at h;split at h
 .exact⟨_,rfl⟩
 .cases h
theorem QnE{f:Fact}{b:Int}{e:Ent}(h:goodE e=true):∃v,Qgd (Fact.c f) b e=some v:=by
 unfold goodE at h;unfold Qgd;cases a:e.fl with
 |true=>
  rw[a]at h;simp only[Vv]at h⊢;rw[h];exact⟨b,rfl⟩
 |false=>
  rw[a]at h;simp only[Vw,X3,Vx,Bool.not_eq_true']at h⊢;have all:(List.range 57).all (λo=>(o==54)||isI (Fact.c f)[o]?)=true:=by rfl
  have:=Xv.1 all e.off (List.mem_range.2 h.1);rw[h.2,Bool.false_or]at this;obtain⟨v,d⟩:=QqN this;rw[d];exact⟨v,rfl⟩
theorem Qm2{x:Fact}{s v:Int}{e:Ent}(h:goodE e=true):∃q,QjK Fact.put x s e v=some q:=by
 unfold goodE at h;unfold QjK;cases a:e.fl with
 |true=>
  rw[a]at h;simp only[Vv]at h⊢;rw[h];exact⟨_,rfl⟩
 |false=>
  rw[a]at h;simp only[Vw,X3,Vx,Bool.not_eq_true']at h⊢;have all:(List.range 57).all (λo=>(o==54)||(Fact.put x o v).isSome)=true:=by rfl
  have:=Xv.1 all e.off (List.mem_range.2 h.1);rw[h.2,Bool.false_or]at this;obtain⟨y,b⟩:=Option.isSome_iff_exists.1 this;rw[b];exact⟨_,rfl⟩
def getV(f:Fact)(b:Int)(e:Ent):Int:=(Qgd (Fact.c f) b e).getD 0
def putV(x:Fact)(s:Int)(e:Ent)(v:Int):Fact×Int:=(QjK Fact.put x s e v).getD (x,s)
theorem QnF{f:Fact}{b:Int}{e:Ent}(h:goodE e=true):Qgd (Fact.c f) b e=some (getV f b e):=by
 obtain⟨v,a⟩:=QnE (f:=f) (b:=b) h;unfold getV;rw[a];rfl
theorem Qqq{x:Fact}{s v:Int}{e:Ent}(h:goodE e=true):QjK Fact.put x s e v=some (putV x s e v):=by
 obtain⟨q,a⟩:=Qm2 (x:=x) (s:=s) (v:=v) h;unfold putV;rw[a];rfl
def inE(f:Fact)(b:Int)(e:Ent):Bool:= !(decide (getV f b e<e.lo))&& !(decide (e.hi<getV f b e))
def numR(f:Fact)(b:Int):List Ent->List Int×Fact×Int->Ctl (List Int×Fact×Int) (List Int×Bool)
 |[],a=>.cont a
 |e::r,a=>bif inE f b e then numR f b r (a.1++[getV f b e],putV a.2.1 a.2.2 e (getV f b e))else .done ([],false)
theorem QhR{α:Type}(l m:List α)(h:l.length+m.length<=1000):app l m=some (l++m):=by
 unfold app;have:Nat.ble (l.length+m.length) Qt=true:=XY (X2 h (by decide));rw[this];rfl
theorem Qo8(f:Fact)(b:Int)(E:List Ent)(hE:∀e∈E,goodE e=true)(hl:E.length<=12):∀(r:List Ent) (i:Nat) (a:List Int×Fact×Int),E.drop i=r->i<=E.length->a.1.length=i->
  EvI (λn=>F_fm n f b E E) (a.1,a.2.1,a.2.2,(i:Int)) (numR f b r a):=by
 intro r
 induction r with
 |nil=>
  intro i a j p g;refine Ej ?_;unfold F_fm;simp only[Yg j p,Vw];exact Qa _
 |cons e r q=>
  intro i a j p k;obtain⟨g,l⟩:=QN (by omega) j;have m:=hE e g.mem;have s:=g.lt';unfold numR;cases d:inE f b e with
  |true=>
   have h:=d;unfold inE at h;simp only[X3,Bool.not_eq_true']at h;refine Ex ?_ (q (i+1) (a.1++[getV f b e],putV a.2.1 a.2.2 e (getV f b e)) l (by omega) (by simp[k]));unfold F_fm;simp only[g.lt,Vv,g.ix,XP,g.nx,QnF m,h.1,h.2,Vw,Qqq m];rw[QhR a.1 [getV f b e] (by simp;omega)];exact Qa _
  |false=>
   refine Ej ?_;unfold F_fm;simp only[g.lt,Vv,g.ix,XP,QnF m];unfold inE at d;cases t:decide (getV f b e<e.lo)with
   |true=>exact Qa _
   |false=>
    rw[t]at d;simp only[Xh,VG,Bool.not_eq_false']at d;simp only[Vw,d,Vv];exact Qa _
def suspB(f:Fact):Int:=bif f.Appeal.Suspends then 1 else 0
def restS(f:Fact):Fact:={Up with Ruling:={Ux with Kind:=f.Ruling.Kind:Ruling},Kind:=f.Kind:Fact}
def lastF(f x:Fact)(s:Int):Fact:=
 let y:Fact:=bif f.Kind != 10 then {x with Ruling:={x.Ruling with Kind:=0:Ruling}:Fact}else x
 {y with Appeal:={Case:=y.Appeal.Case,Suspends:=s==1:Appeal}:Fact}
def numF(f:Fact):List Int×Bool:=bif fineU f (openU f)then(match numR f (suspB f) (entsS f) ([],restS f,0)with
  |.cont a=>(a.1,lastF f a.2.1 a.2.2==f)
  |.done r=>r)else([],false)
theorem Ql2(n:Nat)(f:Fact):F_cd n ({Up with Ruling:={Ux with Kind:=f.Ruling.Kind:Ruling}:Fact}) 0 f=some (entsS f):=by
 have a:openU ({({Up with Ruling:={Ux with Kind:=f.Ruling.Kind:Ruling}:Fact})with Kind:=f.Kind:Fact})=openU f:=rfl;unfold F_cd entsS;rw[QkP];simp only[XP];rw[a];unfold F_ah;generalize openU f=u;cases u<;>(simp only[XP];unfold bodyL;exact congrArg (Option.bind · _) (QhR _ _ (by simp)))
theorem Qk9(f:Fact):Ev (λn=>F_an n f) (numF f):=by
 unfold F_an;refine Ea (v:=suspB f) ?_ ?_
 .unfold suspB;cases f.Appeal.Suspends<;>exact Qa _
 refine Ea (v:=bif fineU f (openU f)then .cont (bodyL (openU f))else .done ([],false)) ?_ ?_
 .simp only[QkP,XP];unfold F_b F_gb F_fd F_gn F_gh;generalize openU f=u;cases u with
  |c3=>unfold fineU;cases decide (f.Sync.Min<=f.Sync.Max)<;>exact Qa _
  |c4=>unfold fineU;cases decide (f.Hand.Lo<=f.Hand.Hi)<;>exact Qa _
  |c5=>unfold fineU;cases decide (f.Silence.Lo<=f.Silence.Hi)<;>exact Qa _
  |c6=>unfold fineU;cases decide (f.Pair.A<f.Pair.B)<;>exact Qa _
  |_=>exact Qa _
 unfold numF;cases fineU f (openU f)with
 |false=>exact Qa _
 |true=>
  simp only[Vv];have e:app headL (bodyL (openU f))=some (entsS f):=QhR _ _ (by have:=QfM f;unfold entsS at this;rw[X8]at this;omega);unfold F_ah;simp only[XP];refine Ea (EA e) ?_;refine Ea (EA (Ql2 0 f)) ?_;refine Ea (Qo8 f (suspB f) (entsS f) (QlZ f) (QfM f) (entsS f) 0 ([],restS f,0) rfl (X0 _) rfl).ev ?_;cases numR f (suspB f) (entsS f) ([],restS f,0)with
  |done r=>exact Qa _
  |cont a=>
   simp only;refine Ea (v:=bif f.Kind != 10 then {a.2.1 with Ruling:={a.2.1.Ruling with Kind:=0:Ruling}:Fact}else a.2.1) ?_ (Qa _);cases(f.Kind != 10)<;>exact Qa _
def validS(f:Fact):Bool:=(numF f).2
theorem Qcw(f:Fact):Ev (λn=>F_ad n f) (bif validS f then 0 else 120):=by
 unfold F_ad;refine Ea (Qk9 f) ?_;unfold validS;cases(numF f).2<;>exact Qa _
theorem Qjz{f:Fact}(h:validS f=true):(f.Kind==0)=false:=by
 cases q:(f.Kind==0)with
 |false=>rfl
 |true=>
  have a:f.Kind=0:=by simpa using q
  have b:openU f=.c13 ():=by unfold openU;rw[a];rfl
  unfold validS numF at h;rw[b]at h;cases h
set_option maxRecDepth 4000
def numN(v:Nat):List Int:=if h:128<=v then orI .u8 (IntKind.u8.wrap (v:Int)) 128::numN (v/128)else[IntKind.u8.wrap (v:Int)]
termination_by v
decreasing_by omega
theorem Qfa{v:Nat}(h:128<=v):numN v=orI .u8 (IntKind.u8.wrap (v:Int)) 128::numN (v/128):=by
 rw[numN,dif_pos h]
theorem QaQ{v:Nat}(h:¬128<=v):numN v=[IntKind.u8.wrap (v:Int)]:=by
 rw[numN,dif_neg h]
theorem shr7(v:Nat):Q3 .u64 (v:Int) 7=((v/128:Nat):Int):=by
 show Int.fdiv (v:Int) (2^7)=_;rw[Int.fdiv_eq_ediv_of_nonneg _ (by decide)];omega
theorem Qnq:∀(k v:Nat),v<128^(k+1)->(numN v).length<=k+1:=by
 intro k
 induction k with
 |zero=>
  intro v a;rw[QaQ (by omega)];simp
 |succ k b=>
  intro v a;by_cases h:128<=v
  .rw[Qfa h,X6];have:=b (v/128) (by rw[Nat.div_lt_iff_lt_mul (by decide)];rw[Nat.pow_succ]at a;exact a);omega
  .rw[QaQ h];simp
theorem Qhs:∀(k v:Nat) (l:List Int),v<128^(k+1)->l.length+k<4294967296->∃(l':List Int) (a:Nat),EvI (λn=>F_dt n) (l,(v:Int)) (l',(a:Int))/\l'++[IntKind.u8.wrap (a:Int)]=l++numN v/\l'.length<=l.length+k:=by
 intro k
 induction k with
 |zero=>
  intro v l b d;refine⟨l,v,Ej ?_,by rw[QaQ (by omega)],XZ _⟩;unfold F_dt;simp only[Q7 (show¬(128:Int)<=(v:Int)by omega),Vw];exact Qa _
 |succ k f=>
  intro v l b d;by_cases h:128<=v
  .obtain⟨l',a,g,e,i⟩:=f (v/128) (l++[orI .u8 (IntKind.u8.wrap (v:Int)) 128]) (by rw[Nat.div_lt_iff_lt_mul (by decide)];rw[Nat.pow_succ]at b;exact b) (by simp;omega);refine⟨l',a,Ex ?_ g,?_,?_⟩
   .unfold F_dt;simp only[QZ (show(128:Int)<=(v:Int)by omega),Vv,shr7];rw[QaI l _ (by omega)];exact Qa _
   .rw[e,Qfa h];simp
   .simp at i;omega
  .refine⟨l,v,Ej ?_,by rw[QaQ h],by omega⟩;unfold F_dt;simp only[Q7 (show¬(128:Int)<=(v:Int)by omega),Vw];exact Qa _
theorem QfK(v:Nat)(l:List Int)(a:v<18446744073709551616)(hl:l.length<=1000000):Ev (λn=>F_s n l (v:Int)) (l++numN v):=by
 obtain⟨d,f,e,b,g⟩:=Qhs 9 v l (Vl a (by decide)) (by omega);unfold F_s;refine Ea e.ev ?_;simp only;rw[QaI d _ (by omega),b];exact Qa _
theorem Qe8{v:Nat}(hv:v<18446744073709551616):(numN v).length<=10:=Qnq 9 v (Vl hv (by decide))
def zigI(x:Int):Int:=QeM .u64 (QeU .u64 (IntKind.u64.wrap x) 1) (IntKind.u64.wrap (Q3 .i64 x 63))
theorem wrapU(x:Int):0<=IntKind.u64.wrap x/\IntKind.u64.wrap x<18446744073709551616:=by
 have e:IntKind.u64.wrap x=x%18446744073709551616:=by
  unfold IntKind.wrap;rfl
 rw[e];omega
theorem Qhf(x:Int):∃z:Nat,zigI x=(z:Int)/\z<18446744073709551616:=by
 have h:=wrapU ((BitVec.ofInt IntKind.u64.bits (QeU .u64 (IntKind.u64.wrap x) 1)^^^BitVec.ofInt IntKind.u64.bits (IntKind.u64.wrap (Q3 .i64 x 63))).toNat);refine⟨(zigI x).toNat,?_,?_⟩
 .unfold zigI QeM;omega
 .unfold zigI QeM;omega
def oneB(x:Int):List Int:=1::numN (zigI x).toNat
theorem Qip(x:Int):(oneB x).length<=11:=by
 obtain⟨z,a,b⟩:=Qhf x;unfold oneB;rw[a];have:=Qe8 b;simp;omega
theorem QiV(l:List Int)(x:Int)(hl:l.length<=100000):Ev (λn=>F_af n l ({Kind:=1,N:=x,S:=[],L:=[]:Value})) (l++oneB x):=by
 unfold F_af F_aq;rw[QaI l 1 (by omega)];simp only[XP];obtain⟨z,b,d⟩:=Qhf x;have a:=b;unfold zigI at a;rw[a];refine Ea (QfK z (l++[1]) d (by simp;omega)) ((Qa _).eq ?_);unfold oneB;rw[b];simp
def mkV(x:Int):Value:={Kind:=1,N:=x,S:=[],L:=[]:Value}
def listV(l:List Int):Value:={Kind:=3,N:=0,S:=[],L:=l.map mkV:Value}
theorem QjU(x:Int):Ev (λn=>F_h n (mkV x)) (0,true):=by
 refine Ji ?_;show Ev (λn=>B_h (F_h n) n (mkV x)) _;unfold B_h mkV;simp only;cases(x==0)with
 |true=>exact Qa _
 |false=>exact Qa _
theorem QiF(l:List Int)(hl:l.length<=1000):Ev (λn=>F_h n (listV l)) (1,true):=by
 refine Ji ?_;show Ev (λn=>B_h (F_h n) n (listV l)) _;unfold B_h listV;simp only;refine Ea (v:=[false,(((l.map mkV).length:Int)==0),(((l.map mkV).length:Int)==0),true]) (Qa _) ?_;refine Ea (v:=false) (Qa _) ?_;refine Ea (v:=(Ctl.cont (0:Int):Ctl Int (Int×Bool))) ?_ (Qa _);refine Ev.iter (λi=>((0:Int),(i:Int))) (l.map mkV).length rfl (λi e=>?_) ?_
 .have a:=JJ (x:=(l.map mkV)[i]) (show(l.map mkV).length<=4611686018427387904 by rw[X7];omega) (XQ e);have b:∃y,(l.map mkV)[i]=mkV y:=by
   rw[List.getElem_map];exact⟨_,rfl⟩
  obtain⟨y,d⟩:=b;unfold F_ia;simp only[a.lt,Vv,a.ix,XP,a.nx];rw[d];exact Ea (QjU y) (Qa _)
 .unfold F_ia;simp only[QaH,Vw];exact Qa _
def listB(l:List Int):List Int:=[3]++numN l.length++(l.map oneB).flatten
theorem QhK(l:List Int)(hl:l.length<=1000):Ev (λn=>F_av n (listV l)) (listB l):=by
 unfold F_av;have r:app ([]:List Int) [3]=some [3]:=rfl;rw[r];simp only[XP];have s:IntKind.u64.wrap (((listV l).L.length:Int))=((l.length:Nat):Int):=by
  have:IntKind.u64.wrap (((listV l).L.length:Int))=(((listV l).L.length:Int))%18446744073709551616:=by unfold IntKind.wrap;rfl
  rw[this];unfold listV;rw[X7];omega
 rw[s];have p:=Qe8 (show l.length<18446744073709551616 by omega);refine Ea (QfK l.length [3] (by omega) (by simp)) ?_;refine Ea (v:=listB l) ?_ (Qa _);have k:∀m:List Int,(m.map oneB).flatten.length<=11*m.length:=by
  intro m
  induction m with
  |nil=>simp
  |cons x m d=>
   have:=Qip x;simp only[Vq,Vs,X8,X6];omega
 have h:=Q1 (step:=λn=>F_hm n (listV l)) (l.map mkV) (λ(a:List Int) (v:Value)=>a++oneB v.N) ([3]++numN l.length) (λa i=>(a,(i:Int))) (λa=>a) (by rw[X7];omega) rfl (λi x a e u=>?_) ?_
 .refine Ew h ?_;have:∀(m:List Int) (a:List Int),(m.map mkV).foldl (λ(a:List Int) (v:Value)=>a++oneB v.N) a=a++(m.map oneB).flatten:=by
   intro m
   induction m with
   |nil=>intro a;simp
   |cons x m d=>intro a;simp only[Vq,XJ,Vs];rw[d];simp[mkV]
  rw[this];rfl
 .have q:∃y,x=mkV y:=by
   obtain⟨y,_,w⟩:=Xe.1 e.mem;exact⟨y,w.symm⟩
  obtain⟨y,rfl⟩:=q;have f:a.length<=100000:=by
   have:∀(m:List Int) (a:List Int),((m.map mkV).foldl (λ(a:List Int) (v:Value)=>a++oneB v.N) a).length<=a.length+11*m.length:=by
    intro m
    induction m with
    |nil=>intro a;simp
    |cons x m d=>
     intro a;simp only[Vq,XJ,X6];have t:=d (a++oneB (mkV x).N);have j:=Qip (mkV x).N;rw[X8]at t;omega
   have j:=this (l.take i) ([3]++numN l.length);rw[List.map_take, <- u,X8,XC]at j;simp at j;omega
  unfold F_hm;have b:decide ((i:Int)<((listV l).L.length:Int))=true:=e.lt;have g:idx (listV l).L (i:Int)=some (mkV y):=e.ix;simp only[b,Vv,g,XP,e.nx];refine Ea (QiV a y f) ?_;exact Qa _
 .unfold F_hm;have b:decide (((l.map mkV).length:Int)<((listV l).L.length:Int))=false:=QaH _;simp only[b,Vw];exact Qa _
theorem Qnp{f:Fact}{b:Int}:∀(r:List Ent) (a c:List Int×Fact×Int),numR f b r a=.cont c->c.1.length=a.1.length+r.length:=by
 intro r
 induction r with
 |nil=>intro a c h;cases h;rfl
 |cons e r d=>
  intro a c h;unfold numR at h;cases q:inE f b e with
  |false=>rw[q]at h;cases h
  |true=>
   rw[q]at h;have:=d _ _ h;simp at this;rw[this,X6];omega
theorem Qnr(f:Fact):(numF f).1.length<=12:=by
 unfold numF;cases fineU f (openU f)with
 |false=>simp
 |true=>
  simp only[Vv];cases h:numR f (suspB f) (entsS f) ([],restS f,0)with
  |cont a=>
   have:=Qnp _ _ _ h;have:=QfM f;simp at*;omega
  |done r=>
   have:∀(E:List Ent) (a:List Int×Fact×Int),numR f (suspB f) E a=.done r->r=([],false):=by
    intro E
    induction E with
    |nil=>intro a h;cases h
    |cons e E ih=>
     intro a h;unfold numR at h;cases q:inE f (suspB f) e with
     |false=>rw[q]at h;cases h;rfl
     |true=>rw[q]at h;exact ih _ h
   rw[this _ _ h];simp
def encF(f:Fact):List Int×Int:=bif validS f then(listB (numF f).1,0)else([],120)
theorem QgW(f:Fact):Ev (λn=>F_ab n f) (encF f):=by
 unfold F_ab;refine Ea (Qk9 f) ?_;have l:=Qnr f;unfold encF validS;generalize numF f=r at*;cases h:r.2 with
 |false=>exact Qa _
 |true=>
  simp only[Xg,Vw,Vv];refine Ea (v:=r.1.map mkV) ?_ ?_
  .refine Ew (Q1 r.1 (λ(a:List Value) (x:Int)=>a++[mkV x]) [] (λa i=>(a,(i:Int))) (λa=>a) (by omega) rfl (λi x a d k=>?_) ?_) ?_
   .unfold F_ij;simp only[d.lt,Vv,d.ix,XP,d.nx];have j:a.length<=12:=by
     have:∀(m:List Int) (a:List Value),(m.foldl (λ(a:List Value) (x:Int)=>a++[mkV x]) a).length=a.length+m.length:=by
      intro m
      induction m with
      |nil=>intro a;simp
      |cons x m b=>intro a;simp only[XJ,X6];rw[b];simp;omega
     rw[k,this,XC];simp;omega
    have e:=QaI a (mkV x) (by omega);unfold mkV at e;rw[e];exact Qa _
   .unfold F_ij;simp only[QaH,Vw];exact Qa _
   .have:∀(m:List Int) (a:List Value),m.foldl (λ(a:List Value) (x:Int)=>a++[mkV x]) a=a++m.map mkV:=by
     intro m
     induction m with
     |nil=>intro a;simp
     |cons x m b=>intro a;simp only[XJ,Vq];rw[b];simp
    rw[this];rfl
  refine Ea (v:=(listB r.1,0)) ?_ (Qa _);have g:=QiF r.1 (by omega);unfold F_eq F_ec;have e:({Kind:=3,N:=0,S:=[],L:=r.1.map mkV:Value})=listV r.1:=rfl;rw[e];refine Ea (v:=0) (Ea g (Qa _)) ?_;unfold F_ex;exact Ea (QhK r.1 (by omega)) (Qa _)
def cmpI(a b:Int):Int:=bif decide (a<b)then-1 else bif decide (b<a)then 1 else 0
theorem QeC(n:Nat)(a b:Int):F_o n a b=some (cmpI a b):=by
 unfold F_o F_as cmpI;simp only[XP,bne_self_eq_false,Vw];cases decide (a<b)with
 |true=>rfl
 |false=>cases decide (b<a)<;>rfl
def orL:List Int->Int
 |[]=>0
 |x::r=>bif x != 0 then x else orL r
theorem ev_or(l:List Int)(hl:l.length<=1000):Ev (λn=>F_bb n l) (orL l):=by
 unfold F_bb;have loop:∀(r:List Int) (i:Nat),l.drop i=r->i<=l.length->EvI (λn=>F_dw n l) (i:Int) (bif orL r==0 then Ctl.cont ()else Ctl.done (orL r)):=by
  intro r
  induction r with
  |nil=>
   intro i b f;refine Ej ?_;unfold F_dw;simp only[Yg b f,Vw];exact Qa _
  |cons x r g=>
   intro i b f;obtain⟨a,d⟩:=QN (by omega) b;have j:=a.lt';unfold orL;cases q:(x != 0)with
   |true=>
    have e:(x==0)=false:=by simpa[bne]using q
    simp only[Vv,e,Vw];refine Ej ?_;unfold F_dw;simp only[a.lt,Vv,a.ix,XP,q];exact Qa _
   |false=>
    simp only[Vw];refine Ex ?_ (g (i+1) d (by omega));unfold F_dw;simp only[a.lt,Vv,a.ix,XP,q,Vw,a.nx];exact Qa _
 refine Ea (loop l 0 rfl (X0 _)).ev ?_;cases h:(orL l==0)with
 |true=>
  have e:orL l=0:=by simpa using h
  rw[e];exact Qa _
 |false=>exact Qa _
def cmpF(f g:Fact):Int:=bif orL [cmpI f.At g.At,cmpI f.Crew g.Crew,cmpI f.No g.No] != 0 then orL [cmpI f.At g.At,cmpI f.Crew g.Crew,cmpI f.No g.No]else cmpB (encF f).1 (encF g).1
theorem QcK(f g:Fact):Ev (λn=>F_w n f g) (cmpF f g):=by
 unfold F_w cmpF;simp only[QeC,XP];refine Ea (ev_or _ (by simp)) ?_;cases(orL [cmpI f.At g.At,cmpI f.Crew g.Crew,cmpI f.No g.No] != 0)with
 |true=>exact Qa _
 |false=>
  simp only[Vw];refine Ea (QgW f) (Ea (QgW g) ?_);exact Qa _
def okS(c:Course)(f:Fact):Bool:=(f.Kind==1)&&(validS f&&(!decide ((c.Distances.length:Int)<=f.Starter.Distance)&& !decide ((c.Waves.length:Int)<=f.Starter.Wave)))
def stepS(c:Course)(m:List (Int×Fact))(f:Fact):List (Int×Fact):=
 bif okS c f then(bif !(Qab m f.Starter.Bib)||decide (cmpF f (QI m f.Starter.Bib Up)<0)then QE m f.Starter.Bib f else m)else m
def firstS(c:Course)(l:List Fact):List (Int×Fact):=l.foldl (stepS c) []
theorem QnX(c:Course)(l:List Fact)(hl:l.length<=1048576):Ev (λn=>iter (F_hd n c l) n ([],0)) (firstS c l):=by
 refine Q1 l (stepS c) [] (λa i=>(a,(i:Int))) (λa=>a) (by omega) rfl (λi x a ha _=>?_) ?_
 .unfold F_hd;simp only[ha.lt,Vv,ha.ix,XP,ha.nx];refine Ea (v:=stepS c a x) ?_ (Qa _);refine Ea (v:= !okS c x) ?_ ?_
  .unfold okS bne;cases(x.Kind==1)with
   |false=>exact Qa _
   |true=>
    refine Ea (Qcw x) ?_;cases validS x with
    |false=>exact Qa _
    |true=>
     simp only[Vv,VG];cases decide ((c.Distances.length:Int)<=x.Starter.Distance)with
     |true=>exact Qa _
     |false=>
      cases decide ((c.Waves.length:Int)<=x.Starter.Wave)<;>exact Qa _
  .unfold stepS;cases okS c x with
   |false=>exact Qa _
   |true=>
    simp only[Xg,Vw,Vv];refine Ea (v:= !(Qab a x.Starter.Bib)||decide (cmpF x (QI a x.Starter.Bib Up)<0)) (Eu λ_=>Ea (QcK _ _) (Qa _)) ?_;cases(!(Qab a x.Starter.Bib)||decide (cmpF x (QI a x.Starter.Bib Up)<0))<;>exact Qa _
 .unfold F_hd;simp only[QaH,Vw];exact Qa _
theorem Qiu{β:Type}(m:List (Int×β))(k:Int):Qab m k=(YF m k).isSome:=by
 unfold Qab YF;rw[Option.isSome_map]
 induction m with
 |nil=>rfl
 |cons p m a=>
  rw[List.any_cons,List.find?_cons,a];cases decide (p.1=k)<;>rfl
theorem Qfe{β:Type}(m:List (Int×β))(k:Int):k∈m.map Prod.fst↔ ∃v,YF m k=some v:=by
 have h:=Qiu m k;rw[<- Option.isSome_iff_exists, <- h];unfold Qab;simp only[Xw,Vx,Xe]
structure FirstOk (c:Course) (l:List Fact) (m:List (Int×Fact)):Prop where
 nodup:(m.map Prod.fst).Nodup
 ok:∀k f,YF m k=some f->f.Starter.Bib=k/\okS c f=true/\f∈l
 len:m.length<=l.length
theorem Qit{β:Type}(m:List (Int×β))(k:Int)(v:β):(QE m k v).length<=m.length+1:=by
 have:=congrArg List.length (QdG m k v);rw[X7]at this;rw[this];split<;>simp
theorem Qfb{β:Type}{m:List (Int×β)}(k:Int)(v:β)(h:(m.map Prod.fst).Nodup):((QE m k v).map Prod.fst).Nodup:=by
 have e:=QdG m k v;have g:(QE m k v).map Prod.fst=if k∈m.map Prod.fst then m.map Prod.fst else m.map Prod.fst++[k]:=e
 rw[g];split
 .exact h
 .rename_i f;rw[List.nodup_append];refine⟨h,by simp,λa i b d=>?_⟩;rw[VH]at d;rintro rfl;exact f (d▸i)
theorem QdN(c:Course)(l:List Fact):FirstOk c l (firstS c l):=by
 have j:∀(r:List Fact) (p:List Fact) (m:List (Int×Fact)),FirstOk c p m->FirstOk c (p++r) (r.foldl (stepS c) m):=by
  intro r
  induction r with
  |nil=>intro p m h;simpa using h
  |cons f r n=>
   intro p m h;have s:FirstOk c (p++[f]) (stepS c m f):=by
    have keep:FirstOk c (p++[f]) m:=⟨h.nodup,λk g i=>by obtain⟨a,b,d⟩:=h.ok k g i;exact⟨a,b,List.mem_append_left _ d⟩,by have:=h.len;simp;omega⟩;unfold stepS;cases q:okS c f with
    |false=>exact keep
    |true=>
     simp only[Vv];cases(!(Qab m f.Starter.Bib)||decide (cmpF f (QI m f.Starter.Bib Up)<0))with
     |false=>exact keep
     |true=>
      refine⟨Qfb _ _ h.nodup,λk g i=>?_,?_⟩
      .simp only[Vv]at i;rw[YM]at i;by_cases e:k=f.Starter.Bib
       .rw[Vz e]at i;cases i;exact⟨e.symm,q,by simp⟩
       .rw[Vy e]at i;exact keep.ok k g i
      .have:=Qit m f.Starter.Bib f;have:=h.len;simp only[Vv,X8,List.length_singleton];omega
   have:=n (p++[f]) _ s;simpa using this
 have:=j l [] [] ⟨by simp,(λk f h=>by cases h),XZ _⟩;simpa[firstS]using this
theorem QgE{l m:List Int}(h:l.Perm m):Yn ltI l=Yn ltI m:=
 Jp ((Qn ltI l).trans (h.trans (Qn ltI m).symm)) (λx _ y _ a b=>by simp[ltI]at*;omega) (QT (Qc5 l)) (QT (Qc5 m))
theorem Qci{n:Nat}(h:n<=1048576):Nat.ble n Qt=true:=XY (X2 h (by decide))
theorem Qly(n:Nat)(m:List (Int×Fact))(h:m.length<=1048576):F_ck n m=some (Yn ltI (m.map Prod.fst)):=by
 unfold F_ck Ql8;have a:(List.map Prod.fst m).length<=1048576:=by rw[X7];exact h
 rw[Qci a,Vv];refine QhS λp b=>?_;unfold sortI;rw[Qci (by rw[b.length_eq];exact a)];show some (Yn ltI p)=_;rw[QgE b]
def ordF(m:List (Int×Fact)):List Fact:=(Yn ltI (m.map Prod.fst)).map λk=>QI m k Up
theorem Qin(m:List (Int×Fact)):(ordF m).length=m.length:=by
 unfold ordF;rw[X7,(Qn _ _).length_eq,X7]
theorem Qj5(m:List (Int×Fact))(h:m.length<=1048576):Ev (λn=>F_ci n m) (ordF m):=by
 unfold F_ci F_gr;simp only[XP];refine Ea (v:=Yn ltI (m.map Prod.fst)) ⟨0,λn _=>Qly n m h⟩ ?_;have f:(Yn ltI (m.map Prod.fst)).length=m.length:=by rw[(Qn _ _).length_eq,X7]
 refine Ea (v:=ordF m) ?_ (Qa _);unfold ordF;generalize Yn ltI (m.map Prod.fst)=ks at f;have e:ks.map (λk=>QI m k Up)=ks.foldl (λ(a:List Fact) k=>a++[QI m k Up]) []:=by
  have:∀(r:List Int) (a:List Fact),r.foldl (λ(a:List Fact) k=>a++[QI m k Up]) a=a++r.map λk=>QI m k Up:=by
   intro r
   induction r with
   |nil=>intro a;simp
   |cons x r d=>intro a;simp only[XJ,Vq];rw[d];simp
  rw[this];rfl
 rw[e];refine Q1 ks (λ(a:List Fact) k=>a++[QI m k Up]) [] (λa i=>(a,(i:Int))) (λa=>a) (by omega) rfl (λi x a b j=>?_) ?_
 .unfold F_hy;simp only[b.lt,Vv,b.ix,XP,b.nx];have g:a.length=i:=by
   have:∀(r:List Int) (a:List Fact),(r.foldl (λ(a:List Fact) k=>a++[QI m k Up]) a).length=a.length+r.length:=by
    intro r
    induction r with
    |nil=>intro a;rfl
    |cons x r d=>intro a;simp only[XJ];rw[d];simp;omega
   rw[j,this,XC];have:=b.lt';simp;omega
  have:=b.lt';rw[QaI a _ (by omega)];exact Qa _
 .unfold F_hy;simp only[QaH,Vw];exact Qa _
def chipK(f:Fact):Int:=f.Starter.Chip
def startF(e:Int)(c:Course)(l:List Fact):List Starter×Int:=bif e != 0 then([],e)else
 bif decide (((ordF (firstS c l)).map chipK).Nodup)then((ordF (firstS c l)).map (·.Starter),0)else([],180)
theorem Qpt(L:List Fact)(hl:L.length<=1048576):Ev (λn=>iter (F_dc n L) n ([],[],0)) (bif decide ((L.map chipK).Nodup)then Ctl.cont (L.map (·.Starter))else Ctl.done ([],180)):=by
 have loop:∀(r:List Fact) (i:Nat),L.drop i=r->i<=L.length->EvI (λn=>F_dc n L) ((L.take i).map (·.Starter),Yi chipK true (L.take i),(i:Int))
   (bif Qke (λ_=>true) chipK ((L.take i).map chipK) r then Ctl.cont (L.map (·.Starter))else Ctl.done ([],180)):=by
  intro r
  induction r with
  |nil=>
   intro i d l;refine Ej ?_;have b:L.length<=i:=Xs.1 d;have e:L.take i=L:=VO b;unfold F_dc;simp only[Yg d l,Vw,e,Qke,Vv];exact Qa _
  |cons f r m=>
   intro i d l;obtain⟨a,j⟩:=QN (by omega) d;have p:=a.lt';have g:=QbY chipK true false (L.take i) (chipK f);simp only[Qke,VG];cases q:((L.take i).map chipK).contains (chipK f)with
   |true=>
    have h:chipK f∈(L.take i).map chipK:=by simpa using q
    rw[Vz h]at g;simp only[Xg,Bool.false_and,Vw];refine Ej ?_;unfold F_dc;simp only[a.lt,Vv,a.ix,XP];rw[show f.Starter.Chip=chipK f from rfl,g];exact Qa _
   |false=>
    have h:¬chipK f∈(L.take i).map chipK:=by
     intro z;have:((L.take i).map chipK).contains (chipK f)=true:=by simpa using z
     rw[q]at this;cases this
    rw[Vy h]at g;simp only[Xh,VG];have k:=m (i+1) j (by omega);rw[a.take,Qc3,Xf,Xf]at k;refine Ex ?_ k;unfold F_dc;simp only[a.lt,Vv,a.ix,XP,a.nx];rw[show f.Starter.Chip=chipK f from rfl,g];simp only[Vw];rw[QaI _ _ (by rw[X7,XC];omega)];exact Qa _
 refine Ew (loop L 0 rfl (X0 _)).ev ?_;have:=Qlg (λ_=>true) chipK L [] (by simp);simp only[List.take_zero,Vr];rw[this,Xv.2 (λ_ _=>rfl),VG,Vn]
theorem Qed(e:Int)(c:Course)(l:List Fact)(hl:l.length<=16)(he:Ev (λn=>F_e n c) e):Ev (λn=>F_ac n c l) (startF e c l):=by
 unfold F_ac startF;refine Ea he ?_;cases(e != 0)with
 |true=>exact Qa _
 |false=>
  simp only[Vw];refine Ea (QnX c l (by omega)) ?_;have h:=QdN c l;have a:=h.len;rw[Q7 (show¬(4000:Int)<((firstS c l).length:Int)by omega)];refine Jj (Ea (Qj5 _ (by omega)) ?_);refine Ea (Qpt _ (by rw[Qin];omega)) ?_;cases decide (((ordF (firstS c l)).map chipK).Nodup)<;>exact Qa _
theorem QpB{a b:Int}:cmpI a b<0↔a<b:=by
 unfold cmpI;by_cases h:a<b
 .rw[VA h];simp[h]
 .rw[VD h];by_cases d:b<a
  .rw[VA d];simp;omega
  .rw[VD d];simp;omega
theorem Qrb{a b:Int}:cmpI a b=0↔a=b:=by
 unfold cmpI;by_cases h:a<b
 .rw[VA h];simp;omega
 .rw[VD h];by_cases d:b<a
  .rw[VA d];simp;omega
  .rw[VD d];simp;omega
set_option maxRecDepth 4000
theorem Qo7(f:Fact)(b:Int):∀(E:List Ent) (a:List Int×Fact×Int),numR f b E a=bif E.all (inE f b)then .cont (a.1++E.map (getV f b),E.foldl (λp e=>putV p.1 p.2 e (getV f b e)) a.2)else .done ([],false):=by
 intro E
 induction E with
 |nil=>intro a;simp[numR]
 |cons e E ih=>
  intro a;unfold numR;rw[List.all_cons];cases h:inE f b e with
  |false=>rfl
  |true=>
   simp only[Vv,VG,Vq,XJ];rw[ih];simp
def onlyS(f:Fact):Fact:={Crew:=f.Crew,No:=f.No,At:=f.At,Kind:=f.Kind,Starter:=(bif f.Kind==1 then f.Starter else Up.Starter),Read:=(bif f.Kind==2 then f.Read else Up.Read),Beacon:=(bif f.Kind==3 then f.Beacon else Up.Beacon),Sync:=(bif f.Kind==4 then f.Sync else Up.Sync),Hand:=(bif f.Kind==5 then f.Hand else Up.Hand),Silence:=(bif f.Kind==6 then f.Silence else Up.Silence),Pair:=(bif f.Kind==7 then f.Pair else Up.Pair),Report:=(bif f.Kind==8 then f.Report else Up.Report),Protest:=(bif f.Kind==9 then f.Protest else Up.Protest),Ruling:=(bif f.Kind==10 then f.Ruling else Up.Ruling),Appeal:=(bif f.Kind==11 then f.Appeal else Up.Appeal),Void:=(bif f.Kind==13 then f.Void else Up.Void):Fact}
def numsS(f:Fact):List Int:=[f.Kind,f.Crew,f.No,f.At]++(
 bif f.Kind==1 then[f.Starter.Bib,f.Starter.Distance,f.Starter.Wave,f.Starter.Slot,f.Starter.Age,f.Starter.Chip,f.Starter.Team,f.Starter.Lot]
 else bif f.Kind==2 then[f.Read.Mat,f.Read.Epoch,f.Read.Chip,f.Read.Local]
 else bif f.Kind==3 then[f.Beacon.Mat,f.Beacon.Epoch,f.Beacon.Local,f.Beacon.True,f.Beacon.Err]
 else bif f.Kind==4 then[f.Sync.MatA,f.Sync.EpochA,f.Sync.LocalA,f.Sync.MatB,f.Sync.EpochB,f.Sync.LocalB,f.Sync.Min,f.Sync.Max]
 else bif f.Kind==5 then[f.Hand.Bib,f.Hand.Position,f.Hand.Lo,f.Hand.Hi]
 else bif f.Kind==6 then[f.Silence.Mat,f.Silence.Epoch,f.Silence.Lo,f.Silence.Hi]
 else bif f.Kind==7 then[f.Pair.A,f.Pair.B]
 else bif f.Kind==8 then[f.Report.Case,f.Report.Bib,f.Report.Offence,f.Report.Position]
 else bif f.Kind==9 then[f.Protest.Case,f.Protest.By,f.Protest.Fee,f.Protest.Form]
 else bif f.Kind==10 then[f.Ruling.Case,f.Ruling.Instance,f.Ruling.Kind,f.Ruling.Bib,f.Ruling.Position,f.Ruling.Amount]
 else bif f.Kind==11 then[f.Appeal.Case,suspB f]
 else bif f.Kind==13 then[f.Void.Crew,f.Void.No]else[])
theorem kinds(f:Fact):f.Kind=1\/f.Kind=2\/f.Kind=3\/f.Kind=4\/f.Kind=5\/f.Kind=6\/f.Kind=7\/f.Kind=8\/f.Kind=9\/f.Kind=10\/f.Kind=11\/f.Kind=12\/f.Kind=13\/openU f=.c13 ():=by
 by_cases n:f.Kind=1; · exact .inl n
 by_cases p:f.Kind=2; · exact .inr (.inl p)
 by_cases k:f.Kind=3; · exact .inr (.inr (.inl k))
 by_cases l:f.Kind=4; · exact .inr (.inr (.inr (.inl l)))
 by_cases j:f.Kind=5; · exact .inr (.inr (.inr (.inr (.inl j))))
 by_cases m:f.Kind=6; · exact .inr (.inr (.inr (.inr (.inr (.inl m)))))
 by_cases i:f.Kind=7; · exact .inr (.inr (.inr (.inr (.inr (.inr (.inl i))))))
 by_cases g:f.Kind=8; · exact .inr (.inr (.inr (.inr (.inr (.inr (.inr (.inl g)))))))
 by_cases h:f.Kind=9; · exact .inr (.inr (.inr (.inr (.inr (.inr (.inr (.inr (.inl h))))))))
 by_cases d:f.Kind=10; · exact .inr (.inr (.inr (.inr (.inr (.inr (.inr (.inr (.inr (.inl d)))))))))
 by_cases a:f.Kind=11; · exact .inr (.inr (.inr (.inr (.inr (.inr (.inr (.inr (.inr (.inr (.inl a))))))))))
 by_cases b:f.Kind=12; · exact .inr (.inr (.inr (.inr (.inr (.inr (.inr (.inr (.inr (.inr (.inr (.inl b)))))))))))
 by_cases e:f.Kind=13; · exact .inr (.inr (.inr (.inr (.inr (.inr (.inr (.inr (.inr (.inr (.inr (.inr (.inl e))))))))))))
 refine .inr (.inr (.inr (.inr (.inr (.inr (.inr (.inr (.inr (.inr (.inr (.inr (.inr ?_))))))))))));unfold openU;simp only[VF.2 n,VF.2 p,VF.2 k,VF.2 l,VF.2 j,VF.2 m,VF.2 i,VF.2 g,VF.2 h,VF.2 d,VF.2 a,VF.2 b,VF.2 e,Vw]
def copyS(f:Fact):Fact×Int:=(entsS f).foldl (λp e=>putV p.1 p.2 e (getV f (suspB f) e)) (restS f,0)
theorem Qht(f:Fact):numF f=bif fineU f (openU f)then(bif (entsS f).all (inE f (suspB f))then((entsS f).map (getV f (suspB f)),lastF f (copyS f).1 (copyS f).2==f)else([],false))else([],false):=by
 unfold numF;rw[Qo7];cases fineU f (openU f)with
 |false=>rfl
 |true=>
  simp only[Vv];cases(entsS f).all (inE f (suspB f))with
  |false=>rfl
  |true=>simp only[Vv,Vn];rfl
theorem QdJ(f:Fact)(h:¬openU f=.c13 ()):lastF f (copyS f).1 (copyS f).2=onlyS f/\(entsS f).map (getV f (suspB f))=numsS f:=by
 rcases kinds f with k|k|k|k|k|k|k|k|k|k|k|k|k|k
 case inr.inr.inr.inr.inr.inr.inr.inr.inr.inr.inl=>
  obtain⟨Cr,No,At,Ki,S,R,B,Sy,Ha,Si,Pa,Re,Pr,Ru,⟨Ca,Su⟩,Vo⟩:=f;simp only at k;subst k;cases Su<;>exact⟨by kernel_rfl,by kernel_rfl⟩
 case inr.inr.inr.inr.inr.inr.inr.inr.inr.inl=>
  obtain⟨Cr,No,At,Ki,S,R,B,Sy,Ha,Si,Pa,Re,Pr,⟨j,e,a,d,b,i⟩,Ap,Vo⟩:=f;simp only at k;subst k;have:∃x,openU ⟨Cr,No,At,10,S,R,B,Sy,Ha,Si,Pa,Re,Pr,⟨j,e,a,d,b,i⟩,Ap,Vo⟩=.c9 x:=by
   unfold openU;show∃x,(bif (a==1)||(a==2)then U_facts_open_rxk.c9 (0,0,0,0,0,0)else bif a==3 then .c9 (1,9999,0,255,1,1099511627776)else bif a==4 then .c9 (1,9999,0,255,1,64)else .c9 (1,9999,0,255,0,0))=.c9 x;cases((a==1)||(a==2))with
   |true=>exact⟨_,rfl⟩
   |false=>
    cases(a==3)with
    |true=>exact⟨_,rfl⟩
    |false=>cases(a==4)<;>exact⟨_,rfl⟩
  obtain⟨x,g⟩:=this;unfold copyS entsS;rw[g];exact⟨by kernel_rfl,by kernel_rfl⟩
 case inr.inr.inr.inr.inr.inr.inr.inr.inr.inr.inr.inr.inr=>exact absurd k h
 all_goals
  obtain⟨Cr,No,At,Ki,S,R,B,Sy,Ha,Si,Pa,Re,Pr,Ru,Ap,Vo⟩:=f;simp only at k;subst k;exact⟨by kernel_rfl,by kernel_rfl⟩
def contS(f:Fact):Bool:=fineU f (openU f)&&(bodyL (openU f)).all (inE f (suspB f))
def headS(f:Fact):Bool:=headL.all (inE f (suspB f))
theorem Qdv(f:Fact):validS f=(headS f&&contS f&&(onlyS f==f)):=by
 unfold validS contS headS;rw[Qht];by_cases h:openU f=.c13 ()
 .have:fineU f (openU f)=false:=by rw[h];rfl
  rw[this];simp
 .obtain⟨a,b⟩:=QdJ f h;rw[a];unfold entsS;rw[List.all_append];cases fineU f (openU f)with
  |false=>simp
  |true=>
   cases headL.all (inE f (suspB f))with
   |false=>rfl
   |true=>cases(bodyL (openU f)).all (inE f (suspB f))<;>rfl
theorem Qjy{f:Fact}(h:validS f=true):(numF f).1=numsS f:=by
 have g:=h;unfold validS at h;rw[Qht]at h⊢;by_cases q:openU f=.c13 ()
 .have:fineU f (openU f)=false:=by rw[q];rfl
  rw[this]at h;cases h
 .obtain⟨e,d⟩:=QdJ f q;cases a:fineU f (openU f)with
  |false=>rw[a]at h;cases h
  |true=>
   rw[a]at h;cases b:(entsS f).all (inE f (suspB f))with
   |false=>rw[b]at h;cases h
   |true=>exact d
theorem QeN{f:Fact}(h:validS f=true):onlyS f=f:=by
 rw[Qdv]at h;simp only[X3,VE]at h;exact h.2
theorem Qno{f g:Fact}(a:validS f=true)(hg:validS g=true)(h:numsS f=numsS g):f=g:=by
 have i:=QeN a;have d:=QeN hg;rw[<- i, <- d];unfold numsS at h;have e:f.Kind=g.Kind:=by
  simp only[VQ,List.cons.injEq]at h;exact h.1
 have Y:=Qjz a;rcases kinds f with k|k|k|k|k|k|k|k|k|k|k|k|k|k
 case inr.inr.inr.inr.inr.inr.inr.inr.inr.inr.inr.inr.inr=>
  rw[Qdv]at a;unfold contS at a;rw[k]at a;simp[fineU]at a
 all_goals
  have m:=e.symm.trans k;clear a hg e Y i d;obtain⟨Cr,No,At,Ki,⟨s1,s2,s3,s4,s5,s6,s7,s8⟩,⟨ak,B,x,E⟩,⟨b1,b2,b3,b4,b5⟩,⟨y1,y2,y3,y4,y5,y6,y7,y8⟩,⟨h1,h2,h3,h4⟩,⟨i1,i2,i3,i4⟩,⟨p1,p2⟩,⟨u1,u2,u3,u4⟩,⟨o1,o2,o3,o4⟩,⟨r1,r2,r3,r4,r5,r6⟩,⟨a1,P⟩,⟨v1,v2⟩⟩:=f;obtain⟨Cr',No',At',Ki',⟨ah,ay,au,ag,aw,ax,af,W⟩,⟨j,n,l,p⟩,⟨ar,ae,y,Q,a0⟩,⟨ab,a5,T,r,ai,a6,M,O⟩,⟨R,u,t,L⟩,⟨V,a4,J,w⟩,⟨z,a3⟩,⟨aj,az,av,ao⟩,⟨s,N,al,aq⟩,⟨ac,an,G,X,H,F⟩,⟨aa,b⟩,⟨q,am⟩⟩:=g;simp only at k m;subst k;subst m
  first
   |(simp[suspB]at h;simp[onlyS,h];done)
   |(cases P<;>cases b<;>simp[suspB]at h<;>simp[onlyS,h])
set_option maxRecDepth 4000
theorem Qhh(x:Int):IntKind.u64.wrap x=x%18446744073709551616:=by unfold IntKind.wrap;rfl
theorem Qju(x:Int):IntKind.u8.wrap x=x%256:=by unfold IntKind.wrap;rfl
theorem or8(a b:Int):orI .u8 a b=(((BitVec.ofInt 8 a|||BitVec.ofInt 8 b).toNat:Nat):Int)%256:=by unfold orI;exact Qju _
theorem QpQ(a b:Int):QeM .u64 a b=(((BitVec.ofInt 64 a^^^BitVec.ofInt 64 b).toNat:Nat):Int)%18446744073709551616:=by unfold QeM;exact Qhh _
theorem or128(v:Nat):orI .u8 (IntKind.u8.wrap (v:Int)) 128=((v%128+128:Nat):Int):=by
 have a:∀m:Fin 256,((BitVec.ofNat 8 m.val|||128#8).toNat)=m.val%128+128:=by decide
 have d:v%256<256:=Nat.mod_lt _ (by decide);have k:(BitVec.ofNat 8 (v%256)|||128#8).toNat=v%256%128+128:=a ⟨v%256,d⟩;have e:BitVec.ofInt 8 ((v:Int)%256)=BitVec.ofNat 8 (v%256):=by
  have:((v:Int)%256)=((v%256:Nat):Int):=by omega
  rw[this];exact BitVec.ofInt_natCast 8 (v%256)
 have b:BitVec.ofInt 8 128=128#8:=by rfl
 rw[or8,Qju,e,b,k];omega
theorem QdF(v:Nat):numN v=if 128<=v then((v%128+128:Nat):Int)::numN (v/128)else[(v:Int)]:=by
 by_cases h:128<=v
 .rw[Qfa h,Vz h,or128]
 .rw[QaQ h,Vy h,Qju];congr 1;omega
theorem Qis:∀(v w:Nat) (a b:List Int),numN v++a=numN w++b->v=w/\a=b:=by
 intro v
 induction v using Nat.strongRecOn with
 |_ v f=>
 intro w a b h;rw[QdF v,QdF w]at h;by_cases e:128<=v
 .rw[Vz e]at h;by_cases d:128<=w
  .rw[Vz d]at h;simp only[VQ,List.cons.injEq]at h;obtain⟨i,g⟩:=f (v/128) (by omega) (w/128) a b h.2;exact⟨by omega,g⟩
  .rw[Vy d]at h;simp only[VQ,List.cons.injEq]at h;omega
 .rw[Vy e]at h;by_cases d:128<=w
  .rw[Vz d]at h;simp only[VQ,List.cons.injEq]at h;omega
  .rw[Vy d]at h;simp only[VQ,List.cons.injEq,Vn]at h;exact⟨by omega,h.2⟩
theorem Qe9:∀(v:Nat),∀x∈numN v,0<=x/\x<256:=by
 intro v
 induction v using Nat.strongRecOn with
 |_ v d=>
 intro x a;rw[QdF v]at a;by_cases b:128<=v
 .rw[Vz b]at a;rcases Vc.1 a with rfl|a
  .omega
  .exact d (v/128) (by omega) x a
 .rw[Vy b]at a;rcases Vc.1 a with rfl|a
  .omega
  .cases a
theorem Qhe{x:Int}(h0:0<=x)(e:x<9223372036854775808):zigI x=2*x:=by
 unfold zigI QeU;have a:Q3 .i64 x 63=0:=by
  show Int.fdiv x (2^63)=0;rw[Int.fdiv_eq_ediv_of_nonneg _ (by decide)];omega
 have d:(2:Int)^(min (1:Int).toNat IntKind.u64.bits)=2:=by decide
 rw[a,d,QpQ];simp only[Qhh];have b:BitVec.ofInt 64 ((0:Int)%18446744073709551616)=0#64:=by rfl
 rw[b,BitVec.xor_zero,BitVec.toNat_ofInt];omega
theorem Qhg{x:Int}(h0:x<0)(e: -9223372036854775808<=x):zigI x= -2*x-1:=by
 unfold zigI QeU;have a:Q3 .i64 x 63= -1:=by
  show Int.fdiv x (2^63)= -1;rw[Int.fdiv_eq_ediv_of_nonneg _ (by decide)];omega
 have d:(2:Int)^(min (1:Int).toNat IntKind.u64.bits)=2:=by decide
 rw[a,d,QpQ];simp only[Qhh];have b:BitVec.ofInt 64 ((-1:Int)%18446744073709551616)=BitVec.allOnes 64:=by decide
 rw[b,BitVec.xor_allOnes,BitVec.toNat_not,BitVec.toNat_ofInt];omega
def in63(x:Int):Prop:= -9223372036854775808<=x/\x<9223372036854775808
theorem QoY{x y:Int}(e:in63 x)(f:in63 y)(h:zigI x=zigI y):x=y:=by
 obtain⟨a,b⟩:=e;obtain⟨c,d⟩:=f;by_cases p:0<=x
 .rw[Qhe p b]at h;by_cases q:0<=y
  .rw[Qhe q d]at h;omega
  .rw[Qhg (by omega) c]at h;omega
 .rw[Qhg (by omega) a]at h;by_cases q:0<=y
  .rw[Qhe q d]at h;omega
  .rw[Qhg (by omega) c]at h;omega
theorem Qio:∀(l m:List Int),l.length=m.length->(∀x∈l,in63 x)->(∀x∈m,in63 x)->(l.map oneB).flatten=(m.map oneB).flatten->l=m
 |[],[],_,_,_,_=>rfl
 |x::l,y::m,hl,h1,h2,h=>by
  simp only[Vq,Vs,oneB,VQ,List.cons.injEq,true_and]at h;obtain⟨e1,e2⟩:=Qis _ _ _ _ h;obtain⟨z,p1,p2⟩:=Qhf x;obtain⟨z',q1,q2⟩:=Qhf y;rw[p1,q1]at e1;have:x=y:=QoY (h1 x (by simp)) (h2 y (by simp)) (by rw[p1,q1]at*;simp only[Int.toNat_natCast]at e1;omega);rw[this,Qio l m (by simpa using hl) (λz hz=>h1 z (by simp[hz])) (λz hz=>h2 z (by simp[hz])) e2]
theorem QlH{l m:List Int}(a:∀x∈l,in63 x)(e:∀x∈m,in63 x)(h:listB l=listB m):l=m:=by
 unfold listB at h;rw[Vp,Vp]at h;simp only[VQ,Vn,List.cons.injEq,true_and]at h;obtain⟨b,d⟩:=Qis _ _ _ _ h;exact Qio l m b a e d
theorem Qd7(l:List Int):∀x∈listB l,0<=x/\x<256:=by
 intro x a;unfold listB at a;simp only[VJ,VH,List.mem_flatten,Xe]at a;rcases a with(rfl|a)|⟨m,⟨y,_,rfl⟩,a⟩
 .omega
 .exact Qe9 _ x a
 .unfold oneB at a;rcases Vc.1 a with rfl|a
  .omega
  .exact Qe9 _ x a
structure CmpOK {α:Type} (c:α->α->Int):Prop where
 swap:∀x y,c y x= -c x y
 trans:∀x y z,c x y<0->c y z<0->c x z<0
 eqt:∀x y z,c x y=0->c x z=c y z
section
variable {α:Type} {c d:α->α->Int}
theorem CmpOK.refl(h:CmpOK c)(x:α):c x x=0:=by have:=h.swap x x;omega
theorem CmpOK.eqr(h:CmpOK c){x y:α}(z:α)(e:c x y=0):c z x=c z y:=by
 rw[h.swap x z,h.swap y z,h.eqt x y z e]
theorem QdY(h:CmpOK c)(k:CmpOK d):CmpOK λx y=>bif c x y != 0 then c x y else d x y:=by
 refine⟨λx y=>?_,λx y z=>?_,λx y z=>?_⟩
 .show(bif c y x != 0 then c y x else d y x)= -(bif c x y != 0 then c x y else d x y);have e:=h.swap x y;by_cases q:c x y=0
  .have f:c y x=0:=by omega
   rw[q,f];exact k.swap x y
  .have f:¬c y x=0:=by omega
   rw[bne_iff_ne.2 q,bne_iff_ne.2 f];exact e
 .show(bif c x y != 0 then c x y else d x y)<0->(bif c y z != 0 then c y z else d y z)<0->(bif c x z != 0 then c x z else d x z)<0;by_cases q:c x y=0
  .have e:=h.eqt x y z q;rw[q,e];by_cases f:c y z=0
   .rw[f];exact k.trans x y z
   .rw[bne_iff_ne.2 f];intro _ b;exact b
  .rw[bne_iff_ne.2 q];by_cases f:c y z=0
   .have e:=h.eqr x f;rw[f, <- e,bne_iff_ne.2 q];intro a _;exact a
   .rw[bne_iff_ne.2 f];intro a b;have:=h.trans x y z a b;rw[bne_iff_ne.2 (show¬c x z=0 by omega)];exact this
 .show(bif c x y != 0 then c x y else d x y)=0->(bif c x z != 0 then c x z else d x z)=(bif c y z != 0 then c y z else d y z);by_cases q:c x y=0
  .rw[q,h.eqt x y z q];intro e;have e:d x y=0:=e;rw[k.eqt x y z e]
  .rw[bne_iff_ne.2 q];intro e;exact absurd e q
theorem CmpOK.on{β:Type}(h:CmpOK c)(f:β->α):CmpOK λx y=>c (f x) (f y):=
 ⟨λx y=>h.swap _ _,λx y z=>h.trans _ _ _,λx y z=>h.eqt _ _ _⟩
end
theorem cmpI_ok:CmpOK cmpI:=by
 have e:∀a b,cmpI a b=if a<b then-1 else if b<a then 1 else 0:=by
  intro a b;unfold cmpI;by_cases h:a<b
  .rw[VA h,Vz h];rfl
  .rw[VD h,Vy h];by_cases d:b<a
   .rw[VA d,Vz d];rfl
   .rw[VD d,Vy d];rfl
 refine⟨λx y=>?_,λx y z=>?_,λx y z=>?_⟩
 .rw[e,e];split<;>split<;>omega
 .rw[e,e,e];intro a b;have f:x<y:=by
   by_cases q:x<y
   .exact q
   .rw[Vy q]at a;split at a<;>omega
  have d:y<z:=by
   by_cases q:y<z
   .exact q
   .rw[Vy q]at b;split at b<;>omega
  rw[Vz (by omega)];omega
 .rw[e x y];intro h;have:x=y:=by
   by_cases q:x<y
   .rw[Vz q]at h;omega
   .rw[Vy q]at h;split at h<;>omega
  rw[this]
theorem cb_ok:CmpOK Lib.compareBytes:=by
 have j:∀x y:List UInt8,Lib.compareBytes y x= -Lib.compareBytes x y:=by
  intro x
  induction x with
  |nil=>intro y;cases y<;>simp[Lib.compareBytes]
  |cons a x f=>
   intro y;cases y with
   |nil=>simp[Lib.compareBytes]
   |cons b y=>
    unfold Lib.compareBytes;by_cases h:a<b
    .have l:¬b<a:=by rw[UInt8.lt_iff_toNat_lt]at*;omega
     rw[Vz h,Vy l,Vz h];rfl
    .rw[Vy h];by_cases i:b<a
     .rw[Vz i,Vy h,Vz i]
     .rw[Vy i,Vy i,Vy h];exact f y
 have eq:∀x y:List UInt8,Lib.compareBytes x y=0->x=y:=by
  intro x
  induction x with
  |nil=>intro y h;cases y with
   |nil=>rfl
   |cons b y=>simp[Lib.compareBytes]at h
  |cons a x f=>
   intro y h;cases y with
   |nil=>simp[Lib.compareBytes]at h
   |cons b y=>
    unfold Lib.compareBytes at h;by_cases q:a<b
    .rw[Vz q]at h;omega
    .rw[Vy q]at h;by_cases e:b<a
     .rw[Vz e]at h;omega
     .rw[Vy e]at h;have:a=b:=by
       rw[UInt8.lt_iff_toNat_lt]at q e;exact UInt8.toNat_inj.1 (by omega)
      rw[this,f y h]
 refine⟨j,?_,λx y z h=>by rw[eq x y h]⟩;intro x
 induction x with
 |nil=>
  intro y z h k;cases y with
  |nil=>simp[Lib.compareBytes]at h
  |cons b y=>cases z with
   |nil=>simp[Lib.compareBytes]at k
   |cons d z=>simp[Lib.compareBytes]
 |cons a x f=>
  intro y z h k;cases y with
  |nil=>simp[Lib.compareBytes]at h
  |cons b y=>
   cases z with
   |nil=>simp[Lib.compareBytes]at k
   |cons d z=>
    unfold Lib.compareBytes at h k⊢;simp only[UInt8.lt_iff_toNat_lt]at*;by_cases q:a.toNat<b.toNat
    .by_cases r:b.toNat<d.toNat
     .rw[Vz (by omega)];omega
     .rw[Vy r]at k;by_cases g:d.toNat<b.toNat
      .rw[Vz g]at k;omega
      .rw[Vz (by omega)];omega
    .rw[Vy q]at h;by_cases e:b.toNat<a.toNat
     .rw[Vz e]at h;omega
     .rw[Vy e]at h;by_cases r:b.toNat<d.toNat
      .rw[Vz (by omega)];omega
      .rw[Vy r]at k;by_cases g:d.toNat<b.toNat
       .rw[Vz g]at k;omega
       .rw[Vy g]at k;rw[Vy (by omega),Vy (by omega)];exact f y z h k
theorem Qp6:∀{x y:List UInt8},Lib.compareBytes x y=0->x=y
 |[],[],_=>rfl
 |[],_::_,h=>by simp[Lib.compareBytes]at h
 |_::_,[],h=>by simp[Lib.compareBytes]at h
 |a::x,b::y,h=>by
  unfold Lib.compareBytes at h;by_cases q:a<b
  .rw[Vz q]at h;omega
  .rw[Vy q]at h;by_cases q2:b<a
   .rw[Vz q2]at h;omega
   .rw[Vy q2]at h;have:a=b:=by
     rw[UInt8.lt_iff_toNat_lt]at q q2;exact UInt8.toNat_inj.1 (by omega)
    rw[this,Qp6 h]
theorem Qg2:∀{l m:List Int},(∀x∈l,0<=x/\x<256)->(∀x∈m,0<=x/\x<256)->l.map Qby=m.map Qby->l=m
 |[],[],_,_,_=>rfl
 |[],_::_,_,_,h=>by simp at h
 |_::_,[],_,_,h=>by simp at h
 |x::l,y::m,h1,h2,h=>by
  simp only[Vq,List.cons.injEq]at h;have a1:=h1 x (by simp);have a2:=h2 y (by simp);have e:=congrArg UInt8.toNat h.1;unfold Qby at e;rw[UInt8.toNat_ofNat',UInt8.toNat_ofNat']at e;have:x=y:=by omega
  rw[this,Qg2 (λz a=>h1 z (by simp[a])) (λz a=>h2 z (by simp[a])) h.2]
theorem Qi7(f g:Fact):cmpF f g=bif cmpI f.At g.At != 0 then cmpI f.At g.At else bif cmpI f.Crew g.Crew != 0 then cmpI f.Crew g.Crew else bif cmpI f.No g.No != 0 then cmpI f.No g.No else cmpB (encF f).1 (encF g).1:=by
 unfold cmpF orL orL orL orL;generalize cmpI f.At g.At=a;generalize cmpI f.Crew g.Crew=b;generalize cmpI f.No g.No=d;cases e:(a != 0)with
 |true=>simp only[Vv,e]
 |false=>
  simp only[Vw];cases i:(b != 0)with
  |true=>simp only[Vv,i]
  |false=>
   simp only[Vw];cases h:(d != 0)with
   |true=>simp only[Vv,h]
   |false=>rfl
theorem Qlf:CmpOK cmpF:=by
 have h:=QdY (cmpI_ok.on λf:Fact=>f.At) (QdY (cmpI_ok.on λf:Fact=>f.Crew) (QdY (cmpI_ok.on λf:Fact=>f.No) (cb_ok.on λf:Fact=>(encF f).1.map Qby)));have e:cmpF=λf g=>bif cmpI f.At g.At != 0 then cmpI f.At g.At else bif cmpI f.Crew g.Crew != 0 then cmpI f.Crew g.Crew else bif cmpI f.No g.No != 0 then cmpI f.No g.No else cmpB (encF f).1 (encF g).1:=by
  funext f g;exact Qi7 f g
 rw[e];exact h
def wideE(e:Ent):Bool:=decide (-1125899906842624<=e.lo)&&decide (e.hi<=1125899906842624)
theorem QlY(f:Fact):(entsS f).all wideE=true:=by
 unfold entsS;rw[List.all_append,X3];refine⟨rfl,?_⟩;rcases kinds f with k|k|k|k|k|k|k|k|k|k|k|k|k|k
 case inr.inr.inr.inr.inr.inr.inr.inr.inr.inl=>
  unfold openU;rw[k];show(bodyL (bif (f.Ruling.Kind==1)||(f.Ruling.Kind==2)then .c9 (0,0,0,0,0,0)else bif f.Ruling.Kind==3 then .c9 (1,9999,0,255,1,1099511627776)else bif f.Ruling.Kind==4 then .c9 (1,9999,0,255,1,64)else .c9 (1,9999,0,255,0,0))).all wideE=true;cases((f.Ruling.Kind==1)||(f.Ruling.Kind==2))with
  |true=>rfl
  |false=>
   cases(f.Ruling.Kind==3)with
   |true=>rfl
   |false=>cases(f.Ruling.Kind==4)<;>rfl
 case inr.inr.inr.inr.inr.inr.inr.inr.inr.inr.inr.inr.inr=>rw[k];rfl
 all_goals
  unfold openU;rw[k];rfl
theorem Qe7{f:Fact}(h:validS f=true):∀x∈numsS f,in63 x:=by
 have k:=h;unfold validS at h;rw[Qht]at h;by_cases q:openU f=.c13 ()
 .rw[q]at h;cases h
 .rw[<- (QdJ f q).2];cases a:fineU f (openU f)with
  |false=>rw[a]at h;cases h
  |true=>
   rw[a]at h;cases b:(entsS f).all (inE f (suspB f))with
   |false=>rw[b]at h;cases h
   |true=>
    intro x j;obtain⟨e,d,rfl⟩:=Xe.1 j;have g:=Xv.1 b e d;have i:=Xv.1 (QlY f) e d;unfold inE at g;unfold wideE at i;simp only[X3,Bool.not_eq_true',decide_eq_false_iff_not,Vx]at g i;unfold in63;omega
theorem QgY{f:Fact}(h:validS f=true):encF f=(listB (numsS f),0):=by
 unfold encF;rw[h,Qjy h];rfl
theorem QeF{f g:Fact}(d:validS f=true)(hg:validS g=true)(h:cmpF f g=0):f=g:=by
 rw[Qi7]at h;have z:cmpB (encF f).1 (encF g).1=0:=by
  cases a:(cmpI f.At g.At != 0)with
  |true=>rw[a]at h;exact absurd h (bne_iff_ne.1 a)
  |false=>
   rw[a]at h;cases i:(cmpI f.Crew g.Crew != 0)with
   |true=>rw[i]at h;exact absurd h (bne_iff_ne.1 i)
   |false=>
    rw[i]at h;cases b:(cmpI f.No g.No != 0)with
    |true=>rw[b]at h;exact absurd h (bne_iff_ne.1 b)
    |false=>rw[b]at h;exact h
 rw[QgY d,QgY hg]at z;have e:=Qg2 (Qd7 _) (Qd7 _) (Qp6 z);exact Qno d hg (QlH (Qe7 d) (Qe7 hg) e)
set_option maxRecDepth 4000
theorem QcA{α:Type}{R:α->α->Prop}(d:∀x,¬R x x)(i:∀x y z,R x y->R y z->R x z):∀{l m:List α},l.Pairwise R->m.Pairwise R->(∀x,x∈l↔x∈m)->l=m
 |[],[],_,_,_=>rfl
 |[],b::m,_,_,h=>by have:=(h b).2 (by simp);cases this
 |a::l,[],_,_,h=>by have:=(h a).1 (by simp);cases this
 |a::l,b::m,hl,hm,h=>by
  rw[Xc]at hl hm;have e:a=b:=by
   rcases Vc.1 ((h a).1 (by simp))with e|f
   .exact e
   .rcases Vc.1 ((h b).2 (by simp))with e|j
    .exact e.symm
    .exact absurd (i _ _ _ (hl.1 b j) (hm.1 a f)) (d a)
  subst e;congr 1;refine QcA d i hl.2 hm.2 λx=>?_;constructor
  .intro g;rcases Vc.1 ((h x).1 (Vb _ g))with e|f
   .subst e;exact absurd (hl.1 x g) (d x)
   .exact f
  .intro g;rcases Vc.1 ((h x).2 (Vb _ g))with e|f
   .subst e;exact absurd (hm.1 x g) (d x)
   .exact f
def insC(x:Fact):List Fact->List Fact
 |[]=>[x]
 |y::r=>bif decide (cmpF y x<0)then y::insC x r else bif y==x then y::r else x::y::r
def canonS(l:List Fact):List Fact:=l.foldl (λa x=>bif validS x then insC x a else a) []
def ltF(a b:Fact):Prop:=cmpF a b<0
theorem QkU(x:Fact):¬ltF x x:=by unfold ltF;have:=Qlf.refl x;omega
theorem Qhv(x y z:Fact):ltF x y->ltF y z->ltF x z:=Qlf.trans x y z
theorem Qc7(x:Fact):∀(l:List Fact) (z:Fact),z∈insC x l↔z=x\/z∈l
 |[],z=>by simp[insC]
 |y::r,z=>by
  unfold insC;cases decide (cmpF y x<0)with
  |true=>
   simp only[Vv,Vc,Qc7 x r z];constructor
   .rintro(h|h|h)<;>simp[h]
   .rintro(h|h|h)<;>simp[h]
  |false=>
   simp only[Vw];cases h:(y==x)with
   |true=>
    have:y=x:=by simpa using h
    subst this;simp
   |false=>simp
def CanonOK(l:List Fact):Prop:=l.Pairwise ltF/\ ∀f∈l,validS f=true
theorem QkX{x:Fact}(a:validS x=true):∀{l:List Fact},CanonOK l->CanonOK (insC x l)
 |[],_=>⟨by simp[insC],by simp[insC,a]⟩
 |y::r,h=>by
  obtain⟨h1,h2⟩:=h;rw[Xc]at h1;have hr:CanonOK r:=⟨h1.2,λf hf=>h2 f (by simp[hf])⟩;have ih:=QkX a hr;refine⟨?_,λf hf=>?_⟩
  .unfold insC;cases q:decide (cmpF y x<0)with
   |true=>
    simp only[Vv,Xc];refine⟨λz hz=>?_,ih.1⟩;rcases(Qc7 x r z).1 hz with rfl|hz
    .show cmpF y z<0;exact VB q
    .exact h1.1 z hz
   |false=>
    simp only[Vw];cases q2:(y==x)with
    |true=>simp only[Vv,Xc];exact h1
    |false=>
     simp only[Vw,Xc];have lt:ltF x y:=by
      have b:=VC q;have d:¬cmpF y x=0:=λe=>by
       have:=QeF (h2 y (by simp)) a e;rw[this]at q2;simp at q2
      have:=Qlf.swap x y;unfold ltF;omega
     refine⟨λz hz=>?_,h1⟩;rcases Vc.1 hz with rfl|hz
     .exact lt
     .exact Qhv _ _ _ lt (h1.1 z hz)
  .rcases(Qc7 x (y::r) f).1 hf with rfl|hf
   .exact a
   .exact h2 f hf
theorem QaO(l:List Fact):CanonOK (canonS l)/\ ∀f,f∈canonS l↔f∈l/\validS f=true:=by
 have g:∀(r a:List Fact),CanonOK a->CanonOK (r.foldl (λa x=>bif validS x then insC x a else a) a)/\ ∀f,f∈r.foldl (λa x=>bif validS x then insC x a else a) a↔f∈a\/(f∈r/\validS f=true):=by
  intro r
  induction r with
  |nil=>intro a h;exact⟨h,λf=>by simp⟩
  |cons x r i=>
   intro a h;rw[XJ];cases q:validS x with
   |false=>
    obtain⟨d,e⟩:=i a h;refine⟨d,λf=>?_⟩;rw[Vw,e f,Vc];constructor
    .rintro(a|⟨a,b⟩)
     .exact .inl a
     .exact .inr ⟨.inr a,b⟩
    .rintro(a|⟨rfl|a,b⟩)
     .exact .inl a
     .rw[q]at b;cases b
     .exact .inr ⟨a,b⟩
   |true=>
    obtain⟨d,e⟩:=i (insC x a) (QkX q h);refine⟨d,λf=>?_⟩;rw[Vv,e f,Qc7,Vc];constructor
    .rintro((rfl|a)|⟨a,b⟩)
     .exact .inr ⟨.inl rfl,q⟩
     .exact .inl a
     .exact .inr ⟨.inr a,b⟩
    .rintro(a|⟨rfl|a,b⟩)
     .exact .inl (.inr a)
     .exact .inl (.inl rfl)
     .exact .inr ⟨a,b⟩
 obtain⟨d,e⟩:=g l [] ⟨by simp,by simp⟩;exact⟨d,λf=>by rw[canonS,e f];simp⟩
theorem Qkg{l m:List Fact}(h:∀f,validS f=true->(f∈l↔f∈m)):canonS l=canonS m:=by
 obtain⟨a,e⟩:=QaO l;obtain⟨b,d⟩:=QaO m;refine QcA QkU Qhv a.1 b.1 λf=>?_;rw[e f,d f];constructor
 .rintro⟨x,y⟩;exact⟨(h f y).1 x,y⟩
 .rintro⟨x,y⟩;exact⟨(h f y).2 x,y⟩
def FirstIs(c:Course)(l:List Fact)(f:Fact):Prop:=f∈l/\okS c f=true/\ ∀g∈l,okS c g=true->g.Starter.Bib=f.Starter.Bib->¬cmpF g f<0
theorem QgA{c:Course}{f:Fact}(h:okS c f=true):validS f=true:=by
 unfold okS at h;simp only[X3]at h;exact h.2.1
theorem FirstIs.one{c:Course}{l:List Fact}{f g:Fact}(a:FirstIs c l f)(hg:FirstIs c l g)(e:f.Starter.Bib=g.Starter.Bib):f=g:=by
 have b:=a.2.2 g hg.1 hg.2.1 e.symm;have d:=hg.2.2 f a.1 a.2.1 e;have:=Qlf.swap f g;exact QeF (QgA a.2.1) (QgA hg.2.1) (by omega)
set_option maxRecDepth 4000
def nb(v lo hi:Int):Bool:= !(decide (v<lo))&& !(decide (hi<v))
theorem Qae(v lo hi:Int):nb v lo hi=true↔lo<=v/\v<=hi:=by
 unfold nb;simp only[X3,Bool.not_eq_true',decide_eq_false_iff_not];omega
def contR(f:Fact):Bool:=
 bif f.Kind==1 then true&&(nb f.Starter.Bib 1 9999&&(nb f.Starter.Distance 0 7&&(nb f.Starter.Wave 0 31&&(nb f.Starter.Slot (-1099511627776) 1099511627776&&(nb f.Starter.Age 0 120&&(nb f.Starter.Chip 0 1048576&&(nb f.Starter.Team 0 9999&&(nb f.Starter.Lot 0 1048576&&true))))))))
 else bif f.Kind==2 then true&&(nb f.Read.Mat 0 39&&(nb f.Read.Epoch 0 255&&(nb f.Read.Chip 0 1048576&&(nb f.Read.Local (-1099511627776) 1099511627776&&true))))
 else bif f.Kind==3 then true&&(nb f.Beacon.Mat 0 39&&(nb f.Beacon.Epoch 0 255&&(nb f.Beacon.Local (-1099511627776) 1099511627776&&(nb f.Beacon.True (-1099511627776) 1099511627776&&(nb f.Beacon.Err 0 1099511627776&&true)))))
 else bif f.Kind==4 then decide (f.Sync.Min<=f.Sync.Max)&&(nb f.Sync.MatA 0 39&&(nb f.Sync.EpochA 0 255&&(nb f.Sync.LocalA (-1099511627776) 1099511627776&&(nb f.Sync.MatB 0 39&&(nb f.Sync.EpochB 0 255&&(nb f.Sync.LocalB (-1099511627776) 1099511627776&&(nb f.Sync.Min (-1099511627776) 1099511627776&&(nb f.Sync.Max (-1099511627776) 1099511627776&&true))))))))
 else bif f.Kind==5 then decide (f.Hand.Lo<=f.Hand.Hi)&&(nb f.Hand.Bib 1 9999&&(nb f.Hand.Position 0 255&&(nb f.Hand.Lo (-1099511627776) 1099511627776&&(nb f.Hand.Hi (-1099511627776) 1099511627776&&true))))
 else bif f.Kind==6 then decide (f.Silence.Lo<=f.Silence.Hi)&&(nb f.Silence.Mat 0 39&&(nb f.Silence.Epoch 0 255&&(nb f.Silence.Lo (-1099511627776) 1099511627776&&(nb f.Silence.Hi (-1099511627776) 1099511627776&&true))))
 else bif f.Kind==7 then decide (f.Pair.A<f.Pair.B)&&(nb f.Pair.A 1 9999&&(nb f.Pair.B 1 9999&&true))
 else bif f.Kind==8 then true&&(nb f.Report.Case 1 1048576&&(nb f.Report.Bib 1 9999&&(nb f.Report.Offence 0 31&&(nb f.Report.Position 0 255&&true))))
 else bif f.Kind==9 then true&&(nb f.Protest.Case 1 1048576&&(nb f.Protest.By 0 9999&&(nb f.Protest.Fee 0 1125899906842624&&(nb f.Protest.Form 0 1&&true))))
 else bif f.Kind==10 then true&&(nb f.Ruling.Case 1 1048576&&(nb f.Ruling.Instance 1 2&&(nb f.Ruling.Kind 1 5&&(bif (f.Ruling.Kind==1)||(f.Ruling.Kind==2)then nb f.Ruling.Bib 0 0&&(nb f.Ruling.Position 0 0&&(nb f.Ruling.Amount 0 0&&true))else bif f.Ruling.Kind==3 then nb f.Ruling.Bib 1 9999&&(nb f.Ruling.Position 0 255&&(nb f.Ruling.Amount 1 1099511627776&&true))else bif f.Ruling.Kind==4 then nb f.Ruling.Bib 1 9999&&(nb f.Ruling.Position 0 255&&(nb f.Ruling.Amount 1 64&&true))else nb f.Ruling.Bib 1 9999&&(nb f.Ruling.Position 0 255&&(nb f.Ruling.Amount 0 0&&true))))))
 else bif f.Kind==11 then true&&(nb f.Appeal.Case 1 1048576&&(nb (suspB f) 0 1&&true))
 else bif f.Kind==12 then true&&true
 else bif f.Kind==13 then true&&(nb f.Void.Crew 0 31&&(nb f.Void.No 1 1048576&&true))
 else false
theorem Qpc(f:Fact):(f.Kind=1\/f.Kind=2\/f.Kind=3\/f.Kind=4\/f.Kind=5\/f.Kind=6\/f.Kind=7\/f.Kind=8\/f.Kind=9\/f.Kind=10\/f.Kind=11\/f.Kind=12\/f.Kind=13)\/((f.Kind==1)=false/\(f.Kind==2)=false/\(f.Kind==3)=false/\(f.Kind==4)=false/\(f.Kind==5)=false/\(f.Kind==6)=false/\(f.Kind==7)=false/\(f.Kind==8)=false/\(f.Kind==9)=false/\(f.Kind==10)=false/\(f.Kind==11)=false/\(f.Kind==12)=false/\(f.Kind==13)=false):=by
 by_cases h:1<=f.Kind/\f.Kind<=13
 .left;omega
 .right;simp only[VF,ne_eq];omega
theorem Qol(f:Fact):contS f=contR f:=by
 rcases Qpc f with k|⟨r,y,t,q,u,x,p,w,s,i,h,j,g⟩
 .rcases k with k|k|k|k|k|k|k|k|k|k|k|k|k
  case inr.inr.inr.inr.inr.inr.inr.inr.inr.inl=>
   obtain⟨Cr,No,At,Ki,S,R,B,Sy,Ha,Si,Pa,Re,Pr,⟨n,l,a,d,b,e⟩,Ap,Vo⟩:=f;simp only at k;subst k;have m:openU ⟨Cr,No,At,10,S,R,B,Sy,Ha,Si,Pa,Re,Pr,⟨n,l,a,d,b,e⟩,Ap,Vo⟩=(bif (a==1)||(a==2)then U_facts_open_rxk.c9 (0,0,0,0,0,0)else bif a==3 then .c9 (1,9999,0,255,1,1099511627776)else bif a==4 then .c9 (1,9999,0,255,1,64)else .c9 (1,9999,0,255,0,0)):=rfl;have z:contR ⟨Cr,No,At,10,S,R,B,Sy,Ha,Si,Pa,Re,Pr,⟨n,l,a,d,b,e⟩,Ap,Vo⟩=(true&&(nb n 1 1048576&&(nb l 1 2&&(nb a 1 5&&(bif (a==1)||(a==2)then nb d 0 0&&(nb b 0 0&&(nb e 0 0&&true))else bif a==3 then nb d 1 9999&&(nb b 0 255&&(nb e 1 1099511627776&&true))else bif a==4 then nb d 1 9999&&(nb b 0 255&&(nb e 1 64&&true))else nb d 1 9999&&(nb b 0 255&&(nb e 0 0&&true))))))):=rfl;rw[z];unfold contS;rw[m];cases((a==1)||(a==2))with
   |true=>rfl
   |false=>
    cases(a==3)with
    |true=>rfl
    |false=>cases(a==4)<;>rfl
  case inr.inr.inr.inr.inr.inr.inr.inr.inr.inr.inl=>
   obtain⟨Cr,No,At,Ki,S,R,B,Sy,Ha,Si,Pa,Re,Pr,Ru,⟨Ca,Su⟩,Vo⟩:=f;simp only at k;subst k;cases Su<;>rfl
  all_goals
   obtain⟨Cr,No,At,Ki,S,R,B,Sy,Ha,Si,Pa,Re,Pr,Ru,Ap,Vo⟩:=f;simp only at k;subst k;rfl
 .have m:openU f=.c13 ():=by unfold openU;rw[r,y,t,q,u,x,p,w,s,i,h,j,g];rfl
  unfold contS contR;rw[m,r,y,t,q,u,x,p,w,s,i,h,j,g];rfl
theorem QiB(x:Fact):∀l:List Fact,(insC x l).length<=l.length+1
 |[]=>by simp[insC]
 |y::r=>by
  unfold insC;have:=QiB x r;cases decide (cmpF y x<0)with
  |true=>simp only[Vv,X6];omega
  |false=>cases(y==x)<;>simp
theorem Qen{c:Course}(h:Course.wf c):CourseOk c:=by
 obtain⟨q,⟨p,d⟩,⟨k,r⟩,⟨l,b⟩,⟨g,m⟩,⟨n,f⟩,⟨i,j⟩,⟨e,s⟩,_⟩:=h;exact⟨q,p,λx a=>(d x a).1,k,l,λx a=>(b x a).1,λx a=>(b x a).2.2.2.1.1,g,λx a=>(m x a).1,n,λx a=>(f x a).1,i,λx a=>(j x a).1,e⟩
theorem QfZ{c:Course}(h:Course.wf c):PartsOk c:=by
 obtain⟨_,_,_,⟨e,b⟩,_⟩:=h;exact⟨λd a=>(b d a).2.1.1,λd a=>(b d a).2.1.2⟩
theorem Qo0{c:Course}(h:Course.wf c):c.Ties.length<=1048576/\ ∀x∈c.Ties,Step.wf x:=by
 obtain⟨_,_,_,_,_,_,_,_,a,_⟩:=h;exact a
theorem QeT(e:Int)(c:Course)(l:List Fact):(startF e c l).1.length<=l.length:=by
 unfold startF;cases(e != 0)with
 |true=>exact X0 _
 |false=>
  simp only[Vw];cases decide (((ordF (firstS c l)).map chipK).Nodup)with
  |false=>exact X0 _
  |true=>simp only[Vv];rw[X7,Qin];exact(QdN c l).len
theorem QfR(l:List Fact):(canonS l).length<=l.length:=by
 have:∀(m a:List Fact),(m.foldl (λa x=>bif validS x then insC x a else a) a).length<=a.length+m.length:=by
  intro m
  induction m with
  |nil=>intro a;simp
  |cons x m b=>
   intro a;rw[XJ,X6];have d:=b (bif validS x then insC x a else a);have e:(bif validS x then insC x a else a).length<=a.length+1:=by
    cases validS x with
    |true=>exact QiB x a
    |false=>simp
   omega
 have:=this l [];simpa[canonS]using this
def rulB(k i:Int)(f:Fact):Bool:=(f.Kind==10)&&((f.Ruling.Case==k)&&(f.Ruling.Instance==i))
def repB(k:Int)(f:Fact):Bool:=(f.Kind==8)&&(f.Report.Case==k)
def appB(k:Int)(f:Fact):Bool:=(f.Kind==11)&&(f.Appeal.Suspends&&(f.Appeal.Case==k))
def caseN(f:Fact):Option Int:=bif f.Kind==10 then some f.Ruling.Case else bif f.Kind==8 then some f.Report.Case else bif (f.Kind==11)&&f.Appeal.Suspends then some f.Appeal.Case else none
def fileOf(P:List Fact)(k:Int):Ue:=⟨k,P.filter (rulB k 0),P.filter (rulB k 1),P.filter (rulB k 2),(P.filter (repB k)).map (·.Report),P.any (appB k)⟩
theorem QaL{k i:Int}{f:Fact}(h:rulB k i f=true):caseN f=some k:=by
 unfold rulB at h;rw[X3,X3,VE (a:=f.Ruling.Case)]at h;unfold caseN;rw[h.1,Vv,h.2.1]
theorem Qgu{k:Int}{f:Fact}(h:repB k f=true):caseN f=some k:=by
 unfold repB at h;rw[X3,VE,VE]at h;unfold caseN;rw[h.1,h.2];rfl
theorem Qg3{k:Int}{f:Fact}(h:appB k f=true):caseN f=some k:=by
 unfold appB at h;rw[X3,X3,VE,VE]at h;unfold caseN;rw[h.1,h.2.1,h.2.2];rfl
theorem Qa6{α:Type}{p:α->Bool}{l:List α}(h:∀x∈l,p x=false):l.filter p=[]:=by
 rw[List.filter_eq_nil_iff];intro x a;rw[h x a];exact Bool.false_ne_true
theorem Qbb{b:Bool}(h:¬b=true):b=false:=by cases b with
 |true=>exact absurd rfl h
 |false=>rfl
theorem QjZ{P:List Fact}{k:Int}(h:∀f∈P,caseN f≠some k):fileOf P k=Qat k:=by
 unfold fileOf Qat;rw[Qa6 λf a=>Qbb λq=>h f a (QaL q),Qa6 λf a=>Qbb λq=>h f a (QaL q),Qa6 λf a=>Qbb λq=>h f a (QaL q),
  Qa6 λf a=>Qbb λq=>h f a (Qgu q),show P.any (appB k)=false from List.any_eq_false.2 λf a q=>h f a (Qg3 q)]
 rfl
theorem QA{α:Type}(p:α->Bool)(l:List α)(x:α):(l++[x]).filter p=bif p x then l.filter p++[x]else l.filter p:=by
 rw[List.filter_append];cases h:p x<;>simp[h]
theorem Qda{P:List Fact}{f:Fact}{k:Int}(h:caseN f≠some k):fileOf (P++[f]) k=fileOf P k:=by
 unfold fileOf;rw[QA,QA,QA,QA,Qbb λq=>h (QaL (i:=0) q),Qbb λq=>h (QaL (i:=1) q),Qbb λq=>h (QaL (i:=2) q),Qbb λq=>h (Qgu q),List.any_append,List.any_cons,List.any_nil,
  Qbb λq=>h (Qg3 q)]
 simp
structure FilesOf (P:List Fact) (fs:List Ue):Prop where
 num:(fs.map (·.number)).Nodup
 each:∀x∈fs,x=fileOf P x.number
 mem:∀k,k∈fs.map (·.number)↔ ∃f∈P,caseN f=some k
theorem FilesOf.nil:FilesOf [] []:=⟨List.nodup_nil,(λ_ h=>by cases h),λk=>by simp⟩
theorem FilesOf.skip{P:List Fact}{fs:List Ue}{f:Fact}(h:FilesOf P fs)(d:caseN f=none):FilesOf (P++[f]) fs:=by
 refine⟨h.num,λx e=>?_,λk=>?_⟩
 .rw[Qda (by rw[d];intro q;cases q)];exact h.each x e
 .rw[h.mem k];constructor
  .rintro⟨g,b,a⟩;exact⟨g,by simp[b],a⟩
  .rintro⟨g,b,a⟩;rcases VJ.1 b with q|q
   .exact⟨g,q,a⟩
   .rw[VH.1 q,d]at a;cases a
theorem FilesOf.put{P:List Fact}{fs:List Ue}{f:Fact}{k:Int}{g:Ue->Ue}(h:FilesOf P fs)(w:caseN f=some k)(B:∀x,(g x).number=x.number)(hg:g (fileOf P k)=fileOf (P++[f]) k):FilesOf (P++[f]) (Qbp (Qah fs k) k g):=by
 have p:∀x∈Qah fs k,x=fileOf P x.number:=by
  by_cases q:∃x∈fs,x.number=k
  .rw[Qc8 q];exact h.each
  .have i:∀x∈fs,x.number≠k:=λx d e=>q ⟨x,d,e⟩;rw[Qb2 i];intro x d;rcases VJ.1 d with z|z
   .exact h.each x z
   .rw[VH.1 z];refine(QjZ (k:=k) λa n e=>?_).symm;obtain⟨x,d,H⟩:=Xe.1 ((h.mem k).2 ⟨a,n,e⟩);exact i x d H
 have s:((Qah fs k).map (·.number)).Nodup:=by
  by_cases q:∃x∈fs,x.number=k
  .rw[Qc8 q];exact h.num
  .have i:∀x∈fs,x.number≠k:=λx d e=>q ⟨x,d,e⟩;rw[Qb2 i,Xf,List.nodup_append];refine⟨h.num,by simp,?_⟩;intro a n b F;obtain⟨x,d,rfl⟩:=Xe.1 n;have t:b=k:=by simpa[Qat]using F
   rw[t];exact i x d
 have r:∀j,j∈(Qah fs k).map (·.number)↔j=k\/j∈fs.map (·.number):=by
  intro j;by_cases q:∃x∈fs,x.number=k
  .rw[Qc8 q];constructor
   .exact .inr
   .rintro(rfl|z)
    .obtain⟨x,d,e⟩:=q;exact Xe.2 ⟨x,d,e⟩
    .exact z
  .rw[Qb2 λx d e=>q ⟨x,d,e⟩,Xf,VJ];simp only[Vq,Vr,VH,Qat];exact Or.comm
 have l:(Qbp (Qah fs k) k g).map (·.number)=(Qah fs k).map (·.number):=by
  unfold Qbp;rw[List.map_map];refine List.map_congr_left λx _=>?_;show(bif decide (x.number=k)then g x else x).number=x.number;cases decide (x.number=k)with
  |true=>exact B x
  |false=>rfl
 refine⟨by rw[l];exact s,λx d=>?_,λj=>?_⟩
 .obtain⟨y,G,rfl⟩:=Xe.1 d;have E:=p y G;cases q:decide (y.number=k)with
  |true=>
   have i:=VB q;show g y=fileOf _ (g y).number;rw[B,i, <- hg, <- i, <- E]
  |false=>
   have i:=VC q;show y=fileOf _ y.number;rw[Qda (by rw[w];intro z;cases z;exact i rfl)];exact E
 .rw[l,r,h.mem j];constructor
  .rintro(rfl|⟨a,u,m⟩)
   .exact⟨f,by simp,w⟩
   .exact⟨a,by simp[u],m⟩
  .rintro⟨a,u,m⟩;rcases VJ.1 u with z|z
   .exact .inr ⟨a,z,m⟩
   .rw[VH.1 z,w]at m;cases m;exact .inl rfl
theorem FilesOf.room{P:List Fact}{fs:List Ue}{k:Int}(h:FilesOf P fs)(hl:P.length<1048576):Qd3 (Qah fs k)=true:=by
 have b:∀n,n<=P.length->Nat.ble (n+1) Qt=true:=λn d=>Qci (by omega);have one:∀j,(λx:Ue=>Nat.ble (x.r0.length+1) Qt&&Nat.ble (x.r1.length+1) Qt&&Nat.ble (x.r2.length+1) Qt&&Nat.ble (x.reports.length+1) Qt) (fileOf P j)=true:=by
  intro j;simp only[fileOf,X7];rw[b _ (VU ..),b _ (VU ..),b _ (VU ..),b _ (VU ..)];rfl
 unfold Qd3;refine Xv.2 λx a=>?_;by_cases q:∃x∈fs,x.number=k
 .rw[Qc8 q]at a;rw[h.each x a];exact one _
 .rw[Qb2 λx a e=>q ⟨x,a,e⟩]at a;rcases VJ.1 a with z|z
  .rw[h.each x z];exact one _
  .rw[VH.1 z];simp only[Qat,List.length_nil];decide
theorem Qal{f:Fact}(h:validS f=true):headS f=true/\contR f=true/\onlyS f=f:=by
 rw[Qdv,X3,X3,Qol,VE]at h;exact⟨h.1.1,h.1.2,h.2⟩
theorem Qlw{f:Fact}(h:validS f=true)(k:f.Kind=10):(1<=f.Ruling.Case/\(f.Ruling.Instance=1\/f.Ruling.Instance=2))/\(0<=f.Ruling.Bib/\f.Ruling.Bib<=9999)/\f.Report=Up.Report:=by
 obtain⟨_,b,l⟩:=Qal h;have e:f.Report=(onlyS f).Report:=by rw[l]
 have m:(onlyS f).Report=bif f.Kind==8 then f.Report else Up.Report:=rfl
 rw[m,k]at e;refine⟨?_,?_,e⟩
 .unfold contR at b;rw[k]at b;have d:(true&&(nb f.Ruling.Case 1 1048576&&(nb f.Ruling.Instance 1 2&&(nb f.Ruling.Kind 1 5&&(bif (f.Ruling.Kind==1)||(f.Ruling.Kind==2)then nb f.Ruling.Bib 0 0&&(nb f.Ruling.Position 0 0&&(nb f.Ruling.Amount 0 0&&true))else bif f.Ruling.Kind==3 then nb f.Ruling.Bib 1 9999&&(nb f.Ruling.Position 0 255&&(nb f.Ruling.Amount 1 1099511627776&&true))else bif f.Ruling.Kind==4 then nb f.Ruling.Bib 1 9999&&(nb f.Ruling.Position 0 255&&(nb f.Ruling.Amount 1 64&&true))else nb f.Ruling.Bib 1 9999&&(nb f.Ruling.Position 0 255&&(nb f.Ruling.Amount 0 0&&true)))))))=true:=b;simp only[X3,Qae]at d;obtain⟨_,a,n,_⟩:=d;exact⟨a.1,by omega⟩
 .unfold contR at b;rw[k]at b;have d:(true&&(nb f.Ruling.Case 1 1048576&&(nb f.Ruling.Instance 1 2&&(nb f.Ruling.Kind 1 5&&(bif (f.Ruling.Kind==1)||(f.Ruling.Kind==2)then nb f.Ruling.Bib 0 0&&(nb f.Ruling.Position 0 0&&(nb f.Ruling.Amount 0 0&&true))else bif f.Ruling.Kind==3 then nb f.Ruling.Bib 1 9999&&(nb f.Ruling.Position 0 255&&(nb f.Ruling.Amount 1 1099511627776&&true))else bif f.Ruling.Kind==4 then nb f.Ruling.Bib 1 9999&&(nb f.Ruling.Position 0 255&&(nb f.Ruling.Amount 1 64&&true))else nb f.Ruling.Bib 1 9999&&(nb f.Ruling.Position 0 255&&(nb f.Ruling.Amount 0 0&&true)))))))=true:=b;simp only[X3]at d;obtain⟨_,_,_,_,a⟩:=d;cases i:((f.Ruling.Kind==1)||(f.Ruling.Kind==2))with
  |true=>rw[i]at a;simp only[Vv,X3,Qae]at a;omega
  |false=>
   rw[i,Vw]at a;cases g:(f.Ruling.Kind==3)with
   |true=>rw[g]at a;simp only[Vv,X3,Qae]at a;omega
   |false=>
    rw[g,Vw]at a;cases j:(f.Ruling.Kind==4)with
    |true=>rw[j]at a;simp only[Vv,X3,Qae]at a;omega
    |false=>rw[j]at a;simp only[Vw,X3,Qae]at a;omega
theorem Qcc{f:Fact}(k:f.Kind=10)(j:Int):rulB f.Ruling.Case j f=(f.Ruling.Instance==j):=by
 unfold rulB;rw[k];simp
theorem QhG{P:List Fact}{fs:List Ue}{f:Fact}(h:FilesOf P fs)(hl:P.length<1048576)(r:validS f=true):∃fs',filesStep fs f=some fs'/\FilesOf (P++[f]) fs':=by
 unfold filesStep;cases a:(f.Kind==10)with
 |true=>
  have k:f.Kind=10:=by simpa using a
  obtain⟨⟨_,e⟩,_⟩:=Qlw r k;have l:caseN f=some f.Ruling.Case:=by unfold caseN;rw[a];rfl
  have n:repB f.Ruling.Case f=false:=by unfold repB;rw[k];rfl
  have b:appB f.Ruling.Case f=false:=by unfold appB;rw[k];rfl
  simp only[Vv,h.room hl];unfold filesAdd;rcases e with e|e
  .refine⟨Qbp (Qah fs f.Ruling.Case) f.Ruling.Case λx=>{x with r1:=x.r1++[f]},by rw[e];rfl,h.put l (λx=>rfl) ?_⟩;unfold fileOf;rw[QA,QA,QA,QA,Qcc k,Qcc k,Qcc k,e,n,List.any_append,List.any_cons,List.any_nil,b];simp
  .refine⟨Qbp (Qah fs f.Ruling.Case) f.Ruling.Case λx=>{x with r2:=x.r2++[f]},by rw[e];rfl,h.put l (λx=>rfl) ?_⟩;unfold fileOf;rw[QA,QA,QA,QA,Qcc k,Qcc k,Qcc k,e,n,List.any_append,List.any_cons,List.any_nil,b];simp
 |false=>
  simp only[Vw];have g:∀j i,rulB j i f=false:=λj i=>by unfold rulB;rw[a];rfl
  cases m:(f.Kind==8)with
  |true=>
   have k:f.Kind=8:=by simpa using m
   have l:caseN f=some f.Report.Case:=by unfold caseN;rw[a,m];rfl
   have s:repB f.Report.Case f=true:=by unfold repB;rw[k];simp
   have b:appB f.Report.Case f=false:=by unfold appB;rw[k];rfl
   simp only[Vv,h.room hl];refine⟨Qbp (Qah fs f.Report.Case) f.Report.Case λx=>{x with reports:=x.reports++[f.Report]},rfl,h.put l (λx=>rfl) ?_⟩;unfold fileOf;rw[QA,QA,QA,QA,g,g,g,s,List.any_append,List.any_cons,List.any_nil,b];simp
  |false=>
   simp only[Vw];have n:∀j,repB j f=false:=λj=>by unfold repB;rw[m];rfl
   cases d:(f.Kind==11)with
   |true=>
    simp only[Vv];cases p:f.Appeal.Suspends with
    |true=>
     have l:caseN f=some f.Appeal.Case:=by unfold caseN;rw[a,m,d,p];rfl
     have q:appB f.Appeal.Case f=true:=by unfold appB;rw[d,p];simp
     refine⟨Qbp (Qah fs f.Appeal.Case) f.Appeal.Case λx=>{x with appeal:=true},rfl,h.put l (λx=>rfl) ?_⟩;unfold fileOf;rw[QA,QA,QA,QA,g,g,g,n,List.any_append,List.any_cons,List.any_nil,q];simp
    |false=>exact⟨_,rfl,h.skip (by unfold caseN;rw[a,m,d,p];rfl)⟩
   |false=>exact⟨_,rfl,h.skip (by unfold caseN;rw[a,m,d];rfl)⟩
def SameF(l m:List Fact):Prop:=∀f,validS f=true->(f∈l↔f∈m)
theorem SameF.symm{l m:List Fact}(h:SameF l m):SameF m l:=λf hf=>(h f hf).symm
theorem SameF.filter{l m:List Fact}(h:SameF l m)(p:Fact->Bool):SameF (l.filter p) (m.filter p):=λf hf=>by rw[Xd,Xd,h f hf]
def repStep(k:Int)(r f:Fact):Fact:=bif validS f&&repB k f then(bif (r.Kind==0)||decide (cmpF f r<0)then f else r)else r
structure RepOf (k:Int) (P:List Fact) (r:Fact):Prop where
 none:(r.Kind==0)=true->r=Up/\ ∀f∈P,validS f=true->repB k f=false
 some:(r.Kind==0)=false->r∈P/\validS r=true/\repB k r=true/\ ∀f∈P,validS f=true->repB k f=true->¬cmpF f r<0
theorem Qgt{k:Int}{f:Fact}(h:repB k f=true):(f.Kind==0)=false:=by
 unfold repB at h;rw[X3,VE]at h;rw[h.1];rfl
theorem RepOf.nil(k:Int):RepOf k [] Up:=⟨λ_=>⟨rfl,λ_ h=>by cases h⟩,λh=>by cases h⟩
theorem RepOf.step{k:Int}{P:List Fact}{r f:Fact}(h:RepOf k P r):RepOf k (P++[f]) (repStep k r f):=by
 unfold repStep;cases q:validS f&&repB k f with
 |false=>
  simp only[Vw];have n:¬(validS f=true/\repB k f=true):=λz=>by rw[z.1,z.2]at q;cases q
  refine⟨λz=>⟨(h.none z).1,λg l i=>?_⟩,λz=>?_⟩
  .rcases VJ.1 l with w|w
   .exact(h.none z).2 g w i
   .rw[VH.1 w]at i⊢;exact Qbb λy=>n ⟨i,y⟩
  .obtain⟨a,b,c,d⟩:=h.some z;refine⟨by simp[a],b,c,λg l i j=>?_⟩;rcases VJ.1 l with w|w
   .exact d g w i j
   .rw[VH.1 w]at i j;exact absurd ⟨i,j⟩ n
 |true=>
  rw[X3]at q;simp only[Vv];cases z:(r.Kind==0)with
  |true=>
   simp only[Bool.true_or,Vv];refine⟨λw=>(by rw[Qgt q.2]at w;cases w),λ_=>⟨by simp,q.1,q.2,λg l i j=>?_⟩⟩;rcases VJ.1 l with w|w
   .rw[(h.none z).2 g w i]at j;cases j
   .rw[VH.1 w];have:=Qlf.refl f;omega
  |false=>
   simp only[Bool.false_or];obtain⟨a,b,c,d⟩:=h.some z;cases y:decide (cmpF f r<0)with
   |true=>
    have m:=VB y;simp only[Vv];refine⟨λw=>(by rw[Qgt q.2]at w;cases w),λ_=>⟨by simp,q.1,q.2,λg l i j=>?_⟩⟩;rcases VJ.1 l with w|w
    .intro e;exact d g w i j (Qlf.trans _ _ _ e m)
    .rw[VH.1 w];have:=Qlf.refl f;omega
   |false=>
    have m:=VC y;simp only[Vw];refine⟨λw=>(by rw[z]at w;cases w),λ_=>⟨by simp[a],b,c,λg l i j=>?_⟩⟩;rcases VJ.1 l with w|w
    .exact d g w i j
    .rw[VH.1 w];exact m
section
variable {α β:Type}
theorem Qbw(q:α->Bool):∀(l a:List α),l.foldl (λa x=>bif q x then a++[x]else a) a=a++l.filter q
 |[],a=>by simp
 |x::l,a=>by
  rw[XJ,Qbw q l,List.filter_cons];cases h:q x<;>simp
theorem QkA{step:Nat->List α×Int->Option (Ctl (List α×Int) (List α))}(l:List α)(q:α->Bool)(hl:l.length<=1048576)
  (d:∀i x a,At l i x->a.length<=i->Ev (λn=>step n (a,(i:Int))) (.cont ((bif q x then a++[x]else a),((i+1:Nat):Int))))
  (f:∀a,Ev (λn=>step n (a,(l.length:Int))) (.done a)):Ev (λn=>Go.Sw.iter (step n) n ([],0)) (l.filter q):=by
 have e:l.filter q=l.foldl (λa x=>bif q x then a++[x]else a) []:=by rw[Qbw];rfl
 rw[e];refine Q1 l (λa x=>bif q x then a++[x]else a) [] (λa i=>(a,(i:Int))) (λa=>a) (by omega) rfl (λi x a g b=>d i x a g ?_) (f _);rw[b,Qbw,Vn];exact X2 (VU ..) (by rw[XC];omega)
theorem QgF{l:List α}[DecidableEq (List α)](hl:l.length<=1048576):isNil l (some ([]:List α)) ((app ([]:List α) l).bind λx=>some x)=some l:=by
 have:app ([]:List α) l=some l:=by rw[QbA _ _ (by simp;omega)];rfl
 unfold isNil;cases l with
 |nil=>rw[this];simp
 |cons a l=>rw[this];rfl
theorem QoL{F:Nat->α->α->Option β}{V:α->α->β}(l:List α)(h:∀x∈l,∀y∈l,Ev (λn=>F n x y) (V x y)):∃N,∀n,N<=n->∀x∈l,∀y∈l,F n x y=some (V x y):=by
 obtain⟨N,f⟩:=QaX (F:=λn (p:α×α)=>F n p.1 p.2) (V:=λp=>V p.1 p.2) (l.flatMap λx=>l.map λy=>(x,y)) (by
  intro p a;rw[List.mem_flatMap]at a;obtain⟨x,b,a⟩:=a;obtain⟨y,d,rfl⟩:=Xe.1 a;exact h x b y d)
 exact⟨N,λn e x b y d=>f n e (x,y) (List.mem_flatMap.2 ⟨x,b,Xe.2 ⟨y,d,rfl⟩⟩)⟩
def ltC(c:α->α->Int)(x y:α):Bool:=decide (c x y<0)
theorem Qcg{c:α->α->Int}(d:CmpOK c)(l:List α):Qej (ltC c) l:=by
 refine⟨λx _=>?_,λx _ y _ z _ f g=>?_,λx _ y _ z _ f g=>?_⟩
 .have:=d.refl x;exact VD (by omega)
 .have f:=VB f;have g:=VB g;exact VA (d.trans x y z f g)
 .have f:=VC f;have g:=VC g;refine VD λh=>?_;have a:=d.swap x y;have b:=d.swap y z;by_cases e:c x y=0
  .rw[d.eqt x y z e]at h;exact g h
  .by_cases i:c y z=0
   .rw[<- d.eqr x i]at h;exact f h
   .have j:=d.trans z y x (by omega) (by omega);have:=d.swap x z;omega
theorem Qlr[DecidableEq α]{cf:Nat->α->α->Option Int}{l:List α}{c:α->α->Int}(hl:l.length<=1048576)(u:∀x∈l,∀y∈l,Ev (λn=>cf n x y) (c x y))(a:CmpOK c)(k:∀x∈l,∀y∈l,c x y=0->x=y):
  Ev (λn=>QbQ (cf n) l) (Yn (ltC c) l):=by
 obtain⟨N,t⟩:=QoL l u;refine⟨N,λn s=>?_⟩;have h:=t n s;have m:=QmR (cf:=cf n) (XX (Qci hl)) c h (λx _=>by have:=a.refl x;omega) (λx _ y _ z _=>a.trans x y z) (λx b y d z r f g=>by
   have:=(Qcg a l).ntrans x b y d z r (VD f) (VD g);exact VC this) (λx b y d f g=>k x b y d (by have:=a.swap x y;omega))
 show QbQ (cf n) l=some (Yn (ltC c) l);rw[m];congr 1;obtain⟨_,_,p,_,_⟩:=QcT m;have e:∀x∈l,∀y∈l,ltO (cf n) x y=ltC c x y:=λx b y d=>by unfold ltO ltC;rw[h x b y d]
 refine Jp (lt:=ltC c) ((Qn _ l).trans (Qn _ l).symm) (λx b y d f g=>?_) ?_ (QT (Qcg a l))
 .have j:=(Qn _ l).mem_iff.1 b;have i:=(Qn _ l).mem_iff.1 d;have f:=VC f;have g:=VC g;exact k x j y i (by have:=a.swap x y;omega)
 .refine List.Pairwise.imp_of_mem (λ{x y} b d q=>?_) (QT p);have j:=(Qn _ l).mem_iff.1 b;have i:=(Qn _ l).mem_iff.1 d;rw[<- e y i x j];exact q
end
def ddA(p:Fact):List Fact->List Fact
 |[]=>[]
 |x::r=>bif cmpF x p==0 then ddA x r else x::ddA x r
def dd:List Fact->List Fact
 |[]=>[]
 |x::r=>x::ddA x r
theorem Qoh{x p:Fact}{r:List Fact}(q:(cmpF x p==0)=true):ddA p (x::r)=ddA x r:=by
 show(bif cmpF x p==0 then ddA x r else x::ddA x r)=_;rw[q];rfl
theorem Qog{x p:Fact}{r:List Fact}(q:(cmpF x p==0)=false):ddA p (x::r)=x::ddA x r:=by
 show(bif cmpF x p==0 then ddA x r else x::ddA x r)=_;rw[q];rfl
theorem Qof:∀(r:List Fact) (p:Fact),(∀x∈r,¬cmpF x p<0)->r.Pairwise (λa b=>¬cmpF b a<0)->(∀x∈p::r,validS x=true)->(ddA p r).Pairwise ltF/\(∀x∈ddA p r,ltF p x)/\ ∀x,x∈p::ddA p r↔x∈p::r
 |[],p,_,_,_=>⟨List.Pairwise.nil,(λ_ h=>by cases h),λ_=>Iff.rfl⟩
 |y::r,p,h1,h2,h3=>by
  rw[Xc]at h2;obtain⟨i1,i2,i3⟩:=Qof r y h2.1 h2.2 λx hx=>h3 x (by simp only[Vc]at hx⊢;exact .inr hx);have hy:=h1 y (by simp);unfold ddA;cases q:cmpF y p==0 with
  |true=>
   have q':cmpF y p=0:=by simpa using q
   have e:y=p:=QeF (h3 y (by simp)) (h3 p (by simp)) q';subst e;refine⟨i1,i2,λx=>?_⟩;rw[Vv,i3 x];simp
  |false=>
   have q':¬cmpF y p=0:=by simpa using q
   have d:ltF p y:=by
    have:=Qlf.swap y p;unfold ltF;omega
   simp only[Vw];refine⟨Xc.2 ⟨i2,i1⟩,λx hx=>?_,λx=>?_⟩
   .rcases Vc.1 hx with rfl|hx
    .exact d
    .exact Qhv _ _ _ d (i2 x hx)
   .rw[Vc,i3 x,Vc (a:=x) (b:=p)]
theorem dd_ok{S:List Fact}(h:S.Pairwise λa b=>¬cmpF b a<0)(f:∀x∈S,validS x=true):(dd S).Pairwise ltF/\ ∀x,x∈dd S↔x∈S:=by
 cases S with
 |nil=>exact⟨List.Pairwise.nil,λ_=>Iff.rfl⟩
 |cons a r=>
  rw[Xc]at h;obtain⟨d,g,e⟩:=Qof r a h.1 h.2 f;exact⟨Xc.2 ⟨g,d⟩,e⟩
theorem QhL(x y:Fact):Ev (λn=>F_ao n x y) (cmpF x y==0):=Ea (QcK x y) (Qa _)
theorem QkZ{l:List Fact}{a j:Nat}{x:Fact}(h:l[a+j]?=some x){m:Int}(d:m=(l.length:Int)):Qhz l (a:Int) m (j:Int)=some x:=by
 have b:=(XR.1 h).1;unfold Qhz;rw[VA (show(0:Int)<=(a:Int)by omega),VA (show(0:Int)<=(j:Int)by omega),VA (show(a:Int)+(j:Int)<m by omega)];rw[show(a:Int)+(j:Int)=((a+j:Nat):Int)by omega];exact YD h
theorem Qle{α:Type}{l r:List α}{i:Nat}{x:α}(h:l.drop i=x::r):l[i]?=some x/\l.drop (i+1)=r/\i<l.length:=by
 have a:l[i]?=some x:=by
  have:=congrArg (λl=>l[0]?) h;simpa using this
 refine⟨a,?_,(XR.1 a).1⟩;have:=Xr (XR.1 a).1;rw[h]at this;exact(List.cons.inj this).2.symm
theorem Qi0(a:List Fact)(hl:a.length<=1048576)(b:Nat):∀(r s:List Fact) (i j:Nat) (p:Fact),s.length=a.length->s.drop (b+(j+1))=r->s[b+j]?=some p->i<b+(j+1)->b+(j+1)<=s.length->
  ∃(s':List Fact) (d:Nat),EvI (λn=>F_ey n a (b:Int)) (s,(i:Int),((j+1:Nat):Int)) (s',(d:Int))/\d<=s'.length/\s'.take d=s.take i++ddA p r:=by
 intro r
 induction r with
 |nil=>
  intro s i j p e h y G F;refine⟨s,i,Ej ?_,by omega,by simp[ddA]⟩;have:=Xs.1 h;unfold F_ey;rw[Q7 (show¬(((j+1:Nat):Int)<((Int.toNat (a.length:Int)-Int.toNat (b:Int):Nat):Int))by omega)];exact Qa _
 |cons x r w=>
  intro s i j p e h y G F;obtain⟨l,t,H⟩:=Qle h;have u:=QkZ l (show(a.length:Int)=(s.length:Int)by rw[e]);have B:=QkZ y (show(a.length:Int)=(s.length:Int)by rw[e]);have w1:IntKind.i64.wrap (((j+1:Nat):Int)-1)=(j:Int):=by rw[QW (by omega) (by omega)];omega
  have w2:IntKind.i64.wrap (((j+1:Nat):Int)+1)=((j+1+1:Nat):Int):=Yq (by omega);have z:decide (((j+1:Nat):Int)<((Int.toNat (a.length:Int)-Int.toNat (b:Int):Nat):Int))=true:=VA (by omega);have m:i<s.length:=by omega
  cases q:cmpF x p==0 with
  |true=>
   obtain⟨s',d,g,f,k⟩:=w s i (j+1) x e (by rw[show b+(j+1+1)=b+(j+1)+1 by omega];exact t) l (by omega) (by omega);refine⟨s',d,Ex ?_ g,f,by rw[k,Qoh q]⟩;unfold F_ey;simp only[z,Vv,u,w1,B,XP];refine Ea (QhL x p) ?_;rw[q];simp only[Xg,Vw,XP,w2];exact Qa _
  |false=>
   have E:(s.set i x).length=a.length:=by rw[X9];exact e
   obtain⟨s',d,g,f,k⟩:=w (s.set i x) (i+1) (j+1) x E (by rw[show b+(j+1+1)=b+(j+1)+1 by omega,List.drop_set_of_lt (by omega)];exact t) (by rw[XV (by omega)];exact l) (by omega) (by rw[X9];omega);have w3:IntKind.i64.wrap ((i:Int)+1)=((i+1:Nat):Int):=Yq (by omega);refine⟨s',d,Ex ?_ g,f,?_⟩
   .unfold F_ey;simp only[z,Vv,u,w1,B,XP];refine Ea (QhL x p) ?_;rw[q];simp only[Xh,Vv,XP,w2,YD (XQ m),Qid s x m,w3];exact Qa _
   .rw[k,List.take_add_one,Xa m,List.take_set_of_le (XZ _)];rw[Qog q];simp
theorem Qi1(a:List Fact)(hl:a.length<=1048576):∀(r:List Fact) (k:Nat) (p:Fact),a.drop (k+1)=r->a[k]?=some p->k+1<=a.length->∃b:Ctl Unit (List Fact),EvI (λn=>F_gv n a) ((k+1:Nat):Int) b/\((b=.cont ()/\ddA p r=r)\/b=.done (a.take (k+1)++ddA p r)):=by
 intro r
 induction r with
 |nil=>
  intro k p j l u;refine⟨.cont (),Ej ?_,.inl ⟨rfl,rfl⟩⟩;have:=Xs.1 j;unfold F_gv;rw[Q7 (show¬(((k+1:Nat):Int)<(a.length:Int))by omega)];exact Qa _
 |cons x r t=>
  intro k p j l u;obtain⟨f,s,g⟩:=Qle j;have w1:IntKind.i64.wrap (((k+1:Nat):Int)-1)=(k:Int):=by rw[QW (by omega) (by omega)];omega
  have w2:IntKind.i64.wrap (((k+1:Nat):Int)+1)=((k+1+1:Nat):Int):=Yq (by omega);have m:decide (((k+1:Nat):Int)<(a.length:Int))=true:=VA (by omega);cases q:cmpF x p==0 with
  |true=>
   obtain⟨w,y,i,d,h⟩:=Qi0 a hl (k+1) r a (k+1) 0 x rfl s f (by omega) (by omega);refine⟨.done (a.take (k+1)++ddA p (x::r)),Ej ?_,.inr rfl⟩;unfold F_gv;simp only[m,Vv,YD f,w1,YD l,XP];refine Ea (QhL x p) ?_;rw[q];simp only[Vv,Qib a (Nat.le_of_lt g),XP];refine Ea i.ev ?_;simp only[QmT w d,XP];rw[h];rw[Qoh q];exact Qa _
  |false=>
   obtain⟨b,i,d⟩:=t (k+1) x s f g;have e:=Qog (r:=r) q;refine⟨b,Ex ?_ i,?_⟩
   .unfold F_gv;simp only[m,Vv,YD f,w1,YD l,XP];refine Ea (QhL x p) ?_;rw[q];simp only[Vw,w2];exact Qa _
   .rcases d with⟨d,h⟩|d
    .exact .inl ⟨d,by rw[e,h]⟩
    .refine .inr ?_;rw[d,e,List.take_add_one,f];simp
theorem QiY(a:List Fact)(hl:a.length<=1048576):Ev (λn=>F_ce n a) (dd a):=by
 unfold F_ce
 match a,hl with
 |[],_=>exact Qa _
 |[x],_=>exact Qa _
 |x::y::r,hl=>
  rw[Q7 (show¬(((x::y::r).length:Int)<2)by simp;omega)];refine Jj ?_;obtain⟨b,f,e⟩:=Qi1 (x::y::r) hl (y::r) 0 x rfl rfl (by simp);refine Ea f.ev ?_;rcases e with⟨rfl,d⟩|rfl
  .show Ev (λn=>some (x::y::r)) (x::ddA x (y::r));rw[d];exact Qa _
  .exact Qa _
theorem QlR(l:List Fact)(d:∀f∈l,validS f=true)(hl:l.length<=1048576):Ev (λn=>F_cf n l) (canonS l):=by
 unfold F_cf F_gt;simp only[QgF hl,XP];have p:=Qn (ltC cmpF) l;refine Ea (Qlr hl (λx _ y _=>QcK x y) Qlf λx g y r e=>QeF (d x g) (d y r) e) ?_;refine Ea (QiY _ (by rw[p.length_eq];exact hl)) ?_;have s:(Yn (ltC cmpF) l).Pairwise λa b=>¬cmpF b a<0:=List.Pairwise.imp (λq=>VC q) (QT (Qcg Qlf l));obtain⟨j,k⟩:=dd_ok s λx g=>d x (p.mem_iff.1 g);obtain⟨i,m⟩:=QaO l;refine Ew (Qa _) (QcA QkU Qhv j i.1 λf=>?_);rw[k,p.mem_iff,m];exact⟨λh=>⟨h,d f h⟩,λh=>h.1⟩
def cmpN(x y:Ue):Int:=cmpI x.number y.number
theorem QeE:CmpOK cmpN:=cmpI_ok.on λx:Ue=>x.number
def sortN(fs:List Ue):List Ue:=Yn (ltC cmpN) fs
theorem QkS{fs:List Ue}(h:(fs.map (·.number)).Nodup){x y:Ue}(f:x∈fs)(d:y∈fs)(e:x.number=y.number):x=y:=by
 induction fs with
 |nil=>cases f
 |cons a r g=>
  have b:a.number∉r.map (·.number)/\(r.map (·.number)).Nodup:=by rw[Vq,List.nodup_cons]at h;exact h
  rcases Vc.1 f with q|q
  .rcases Vc.1 d with z|z
   .rw[q,z]
   .exact absurd (Xe.2 ⟨y,z,by rw[<- e,q]⟩) b.1
  .rcases Vc.1 d with z|z
   .exact absurd (Xe.2 ⟨x,q,by rw[e,z]⟩) b.1
   .exact g b.2 q z
theorem Qlz{p q:List Ue}(h:p.Perm q)(e:(q.map (·.number)).Nodup):sortN p=sortN q:=by
 have f:(p.map (·.number)).Nodup:=(h.map _).nodup_iff.2 e;refine Jp (lt:=ltC cmpN) ((Qn _ p).trans (h.trans (Qn _ q).symm)) (λx d y g a b=>?_) (QT (Qcg QeE p)) (QT (Qcg QeE q));have a:=VC a;have b:=VC b;refine QkS f ((Qn _ p).mem_iff.1 d) ((Qn _ p).mem_iff.1 g) (Qrb.1 ?_);have:=QeE.swap x y;show cmpN x y=0;omega
def ltN(x y:Ue):Prop:=x.number<y.number
theorem Qh9{p:List Ue}(e:(p.map (·.number)).Nodup):(sortN p).Pairwise ltN:=by
 have b:((sortN p).map (·.number)).Nodup:=((Qn _ p).map _).nodup_iff.2 e;have s:=QT (Qcg QeE p);have a:(sortN p).Pairwise λx y=>x.number≠y.number:=by
  unfold List.Nodup at b;rw[List.pairwise_map]at b;exact b
 refine List.Pairwise.imp₂ (λx y d f=>?_) s a;have d:¬cmpI y.number x.number<0:=VC d;rw[QpB]at d;unfold ltN;omega
theorem QqV(x y:Ue):Ev (λn=>F_ak n x y) (cmpN x y==0):=by
 unfold F_ak F_ae;simp only[QeC,XP];exact Qa _
theorem QiZ(fs:List Ue)(hl:fs.length<=1048576)(a:fs.Pairwise ltN):Ev (λn=>F_dk n fs) ():=by
 unfold F_dk;cases q:decide ((fs.length:Int)<2)with
 |true=>exact Qa _
 |false=>
  refine Jj ?_;refine Ea (v:=()) ?_ (Qa _);have f:=VC q;refine Ev.iter (λi=>((i+1:Nat):Int)) (fs.length-1) rfl (λi g=>?_) ?_
  .have b:fs[i+1]?=some fs[i+1]:=XQ (by omega);have d:fs[i]?=some fs[i]:=XQ (by omega);have w1:IntKind.i64.wrap (((i+1:Nat):Int)-1)=(i:Int):=by rw[QW (by omega) (by omega)];omega
   have w2:IntKind.i64.wrap (((i+1:Nat):Int)+1)=((i+1+1:Nat):Int):=Yq (by omega);unfold F_ih;rw[VA (show(((i+1:Nat):Int)<(fs.length:Int))by omega)];simp only[Vv,YD b,w1,YD d,XP];refine Ea (QqV _ _) ?_;have lt:ltN fs[i] fs[i+1]:=VK.1 a i (i+1) (by omega) (by omega) (by omega);have e:(cmpN fs[i+1] fs[i]==0)=false:=by
    rw[VF];intro z;have h:fs[i+1].number=fs[i].number:=Qrb.1 z;unfold ltN at lt;omega
   rw[e];simp only[Vw,w2];exact Qa _
  .unfold F_ih;rw[Q7 (show¬(((fs.length-1+1:Nat):Int)<(fs.length:Int))by omega)];exact Qa _
theorem Qj0(fs:List Ue)(hl:fs.length<=1048576)(a:(fs.map (·.number)).Nodup):Ev (λn=>F_cr n fs) (sortN fs):=by
 unfold F_cr F_gu;simp only[QgF hl,XP];refine Ea (v:=sortN fs) (Qlr hl (λx _ y _=>?_) QeE λx b y d e=>QkS a b d (Qrb.1 e)) ?_
 .unfold F_ae;simp only[QeC,XP];exact Qa _
 .refine Ea (v:=()) (QiZ _ ?_ (Qh9 a)) (Qa _);unfold sortN;rw[(Qn _ fs).length_eq];exact hl
theorem Qft(fs:List Ue)(k:Int):(Qah fs k).length<=fs.length+1:=by
 unfold Qah;cases fs.any λx=>decide (x.number=k)<;>simp
theorem QeP(fs:List Ue)(k:Int)(g:Ue->Ue):(Qbp fs k g).length=fs.length:=by unfold Qbp;rw[X7]
theorem QpD{fs a:List Ue}{k i:Int}{f:Fact}(h:filesAdd fs k i f=some a):a.length=fs.length:=by
 unfold filesAdd at h;cases b:(i==0)<;>cases e:(i==1)<;>cases d:(i==2)<;>rw[b,e,d]at h<;>first|(cases h;done)|(cases h;rw[QeP])
theorem QmL{fs d:List Ue}{f:Fact}(h:filesStep fs f=some d):d.length<=fs.length+1:=by
 unfold filesStep at h;cases e:(f.Kind==10)with
 |true=>
  rw[e,Vv]at h;cases a:Qd3 (Qah fs f.Ruling.Case)with
  |true=>rw[a,Vv]at h;rw[QpD h];exact Qft _ _
  |false=>rw[a]at h;cases h
 |false=>
  rw[e,Vw]at h;cases a:(f.Kind==8)with
  |true=>
   rw[a,Vv]at h;cases b:Qd3 (Qah fs f.Report.Case)with
   |true=>rw[b,Vv]at h;cases h;rw[QeP];exact Qft _ _
   |false=>rw[b]at h;cases h
  |false=>
   rw[a,Vw]at h;cases b:(f.Kind==11)with
   |true=>
    rw[b,Vv]at h;cases g:f.Appeal.Suspends with
    |true=>rw[g,Vv]at h;cases h;rw[QeP];exact Qft _ _
    |false=>rw[g]at h;cases h;omega
   |false=>rw[b]at h;cases h;omega
theorem QlU(C:List Fact)(p:∀f∈C,validS f=true)(hl:C.length<=1048576):∃fs,Ev (λn=>Go.Sw.iter (filesL n C) n (([]:List Ue),0)) fs/\FilesOf C fs/\fs.length<=C.length:=by
 have loop:∀(r:List Fact) (i:Nat) (s:List Ue),C.drop i=r->i<=C.length->FilesOf (C.take i) s->s.length<=i->∃fs,EvI (λn=>filesL n C) (s,(i:Int)) fs/\FilesOf C fs/\fs.length<=C.length:=by
  intro r
  induction r with
  |nil=>
   intro i s b k d j;refine⟨s,Ej ?_,?_,by omega⟩
   .unfold filesL;simp only[Yg b k,Vw];exact Qa _
   .rw[VO (Xs.1 b)]at d;exact d
  |cons f r l=>
   intro i s b k d j;obtain⟨a,h⟩:=QN (by omega) b;have q:=a.lt';obtain⟨u,e,g⟩:=QhG d (by rw[XC];omega) (p f a.mem);rw[<- a.take]at g;obtain⟨fs,t,m⟩:=l (i+1) u h (by omega) g (by have:=QmL e;omega);refine⟨fs,Ex ?_ t,m⟩;unfold filesL;simp only[a.lt,Vv,a.ix,XP,e,a.nx];exact Qa _
 obtain⟨fs,e,g⟩:=loop C 0 [] rfl (X0 _) FilesOf.nil (XZ _);exact⟨fs,e.ev,g⟩
theorem QfL:∀(p:List (Int×Ue)) (s:List Ue) (n:Nat),s.length+p.length<=1048576->QeY (F_hl n) (F_ig n) s p=some (s++p.map Prod.snd)
 |[],s,n,_=>by unfold QeY F_ig;simp
 |e::p,s,n,h=>by
  rw[X6]at h;have h1:F_hl n s e=some (.cont (s++[e.2])):=by
   unfold F_hl;rw[QaI _ _ (by omega)];rfl
  unfold QeY;rw[h1];show QeY _ _ (s++[e.2]) p=_;rw[QfL p _ n (by simp;omega)];simp
theorem FilesOf.perm{C:List Fact}{fs gs:List Ue}(h:FilesOf C fs)(p:gs.Perm fs):FilesOf C gs:=
 ⟨(p.map _).nodup_iff.2 h.num,λx hx=>h.each x (p.mem_iff.1 hx),λk=>by rw[(p.map _).mem_iff];exact h.mem k⟩
theorem QnY(l:List Fact)(hl:l.length<=100):∃fs,Ev (λn=>F_z n l) fs/\FilesOf (canonS l) fs/\fs.Pairwise ltN/\fs.length<=(canonS l).length:=by
 have m:∀f∈l.filter validS,validS f=true:=λf g=>(Xd.1 g).2;have e:canonS (l.filter validS)=canonS l:=Qkg λf g=>by rw[Xd];simp[g]
 obtain⟨k,y⟩:=QaO l;have r:=QfR l;obtain⟨fs,u,d,s⟩:=QlU (canonS l) k.2 (by omega);refine⟨sortN fs,?_,d.perm (Qn _ fs),Qh9 d.num,by unfold sortN;rw[(Qn _ fs).length_eq];exact s⟩;unfold F_z;refine Ea (v:=l.filter validS) (QkA l validS (by omega) (λi x a b q=>?_) λa=>?_) ?_
 .have t:=b.lt';unfold F_hx;simp only[b.lt,Vv,b.ix,XP,b.nx];refine Ea (Qcw x) ?_;cases validS x with
  |true=>
   simp only[Vv];rw[QaI a x (by omega)];exact Qa _
  |false=>exact Qa _
 .unfold F_hx;simp only[QaH,Vw];exact Qa _
 refine Ea (v:=canonS l) ((QlR _ m (X2 (VU ..) (by omega))).eq e) ?_;refine Ea u ?_;refine Ev.anyP λp j=>?_;have z:p.length=fs.length:=by rw[j.length_eq];unfold Qet;rw[X7]
 have h:(p.map Prod.snd).Perm fs:=by
  have:=j.map Prod.snd;unfold Qet at this;rw[List.map_map]at this;have w:(fs.map (Prod.snd ∘ λx:Ue=>(x.number,x)))=fs:=by
   conv=>rhs;rw[<- List.map_id fs]
   rfl
  rw[w]at this;exact this
 simp only[QfL p [] _ (by simp;omega),Vn,XP];refine Ea (Qj0 _ (by rw[X7];omega) ((h.map _).nodup_iff.2 d.num)) ?_;rw[Qlz h d.num];exact Qa _
def numsC(C:List Fact):List Int:=Qi5 (Yn ltI (C.filterMap caseN))
theorem Qir(C:List Fact):(numsC C).Pairwise (· < ·)/\ ∀k,k∈numsC C↔ ∃f∈C,caseN f=some k:=by
 obtain⟨a,b⟩:=Qkc (C.filterMap caseN);refine⟨a,λk=>?_⟩;unfold numsC;rw[b,List.mem_filterMap]
def filesS(C:List Fact):List Ue:=(numsC C).map (fileOf C)
theorem QlP{C:List Fact}{fs:List Ue}(h:FilesOf C fs)(s:fs.Pairwise ltN):fs=filesS C:=by
 obtain⟨f,g⟩:=Qir C;have e:fs.map (·.number)=numsC C:=by
  refine Qgl (lt:=λa b:Int=>a<b) (λa b h=>by omega) ?_ f λk=>?_
  .rw[List.pairwise_map];exact s
  .rw[h.mem k,g k]
 unfold filesS;rw[<- e,List.map_map];have:∀x∈fs,(fileOf C ∘ λx:Ue=>x.number) x=x:=λx d=>(h.each x d).symm
 conv=>lhs;rw[<- List.map_id fs]
 exact List.map_congr_left λx d=>(this x d).symm
theorem QgV(l:List Fact)(hl:l.length<=100):Ev (λn=>F_z n l) (filesS (canonS l)):=by
 obtain⟨e,a,d,b,_⟩:=QnY l hl;rw[<- QlP d b];exact a
theorem QjY(C:List Fact):(filesS C).length<=C.length:=by
 unfold filesS numsC;rw[X7];have b:∀(l:List Int) (p:Int),(QaT p l).length<=l.length:=by
  intro l
  induction l with
  |nil=>intro p;exact XZ _
  |cons x r a=>
   intro p;unfold QaT;have:=a x;have:=a p;cases(x==p)<;>simp<;>omega
 have d:∀l:List Int,(Qi5 l).length<=l.length:=λl=>by
  cases l with
  |nil=>exact XZ _
  |cons x r=>unfold Qi5;simp only[X6];have:=b r x;omega
 refine X2 (d _) ?_;rw[(Qn _ _).length_eq];exact List.length_filterMap_le ..
def suspF(x:Ue):Bool:=x.appeal&&(!x.r1.isEmpty&&x.r2.isEmpty)
def forceF(x:Ue):Option Ruling:=bif suspF x then none else((x.r2++x.r1).head?).map (·.Ruling)
theorem QgL{C:List Fact}{k:Int}{f:Fact}(h:f∈(fileOf C k).r1\/f∈(fileOf C k).r2):f∈C/\f.Kind=10/\f.Ruling.Case=k:=by
 have one:∀i,f∈C.filter (rulB k i)->f∈C/\f.Kind=10/\f.Ruling.Case=k:=λi h=>by
  rw[Xd]at h;have q:=h.2;unfold rulB at q;simp only[X3,VE]at q;exact⟨h.1,q.1,q.2.1⟩
 rcases h with h|h
 .exact one _ h
 .exact one _ h
theorem QjW{C:List Fact}{k:Int}{g:Ruling}(h:forceF (fileOf C k)=some g):g.Case=k:=by
 unfold forceF at h;cases q:suspF (fileOf C k)with
 |true=>rw[q]at h;cases h
 |false=>
  rw[q,Vw,Option.map_eq_some_iff]at h;obtain⟨f,a,d⟩:=h;have b:=List.mem_of_head? a;rw[<- d];exact(QgL ((VJ.1 b).symm)).2.2
def keyF(x:Ue):Int×Option Ruling×List Report:=(x.number,forceF x,x.reports)
section
variable {α β:Type}
theorem Qfu(f:α->Option β):∀(l:List α) (a:List β),l.foldl (λa x=>a++(f x).toList) a=a++l.filterMap f
 |[],a=>by simp
 |x::l,a=>by
  rw[XJ,Qfu f l,List.filterMap_cons];cases f x<;>simp
theorem QoM{step:Nat->List β×Int->Option (Ctl (List β×Int) (List β))}(l:List α)(f:α->Option β)(hl:l.length<=1048576)
  (d:∀i x a,At l i x->a.length<=i->Ev (λn=>step n (a,(i:Int))) (.cont (a++(f x).toList,((i+1:Nat):Int))))
  (g:∀a,Ev (λn=>step n (a,(l.length:Int))) (.done a)):Ev (λn=>Go.Sw.iter (step n) n ([],0)) (l.filterMap f):=by
 have e:l.filterMap f=l.foldl (λa x=>a++(f x).toList) []:=by rw[Qfu];rfl
 rw[e];refine Q1 l (λa x=>a++(f x).toList) [] (λa i=>(a,(i:Int))) (λa=>a) (by omega) rfl (λi x a h b=>d i x a h ?_) (g _);rw[b,Qfu,Vn];exact X2 (List.length_filterMap_le ..) (by rw[XC];omega)
theorem Qch(l:List α):decide (0<(l.length:Int))= !l.isEmpty:=by
 cases l with
 |nil=>rfl
 |cons a l=>exact QZ (by simp only[X6];omega)
theorem Qnv(l:List α):((l.length:Int)==0)=l.isEmpty:=by
 cases l with
 |nil=>rfl
 |cons a l=>
  show _=false;simp only[X6,VF,ne_eq];omega
end
theorem Qok(c:Course)(a:Course.wf c):∃b,Ev (λn=>F_aa n c) b/\(b=true->FewOk c/\Ev (λn=>F_e n c) (courseE c)):=by
 have w:=Qen a;have q:=QfZ a;obtain⟨f,e⟩:=Qo0 a;obtain⟨b,g,fb⟩:=QhN c w q f e;exact⟨b,g,λd=>⟨fb d,QlX c w q (fb d) f e⟩⟩
abbrev KeyT:=Int×Option Ruling×List Report
def keysOf(l:List Fact):List KeyT:=(filesS (canonS l)).map keyF
structure KeysOk (K:List KeyT):Prop where
 inc:(K.map (·.1)).Pairwise (· < ·)
 rul:∀x∈K,∀g,x.2.1=some g->g.Case=x.1
 rep:∀x∈K,∀r,x.2.2.head? =some r->r.Case=x.1
theorem Qpd(l:List Fact):KeysOk (keysOf l):=by
 have a:∀x∈keysOf l,∃k,x=keyF (fileOf (canonS l) k):=λx a=>by
  unfold keysOf filesS at a;rw[List.map_map]at a;obtain⟨k,_,rfl⟩:=Xe.1 a;exact⟨k,rfl⟩
 refine⟨?_,λx h g i=>?_,λx h r b=>?_⟩
 .unfold keysOf filesS;rw[List.map_map,List.map_map];have:(((λx:KeyT=>x.1) ∘ keyF) ∘ fileOf (canonS l))=λk=>k:=rfl;rw[this,List.map_id'];exact(Qir _).1
 .obtain⟨k,rfl⟩:=a x h;exact QjW i
 .obtain⟨k,rfl⟩:=a x h;have d:=List.mem_of_head? b;obtain⟨f,e,rfl⟩:=Xe.1 (show r∈((canonS l).filter (repB k)).map (·.Report)from d);have:=(Xd.1 e).2;unfold repB at this;rw[X3,VE,VE]at this;exact this.2
theorem Qb0(l:List Fact):(keysOf l).length<=l.length:=by
 unfold keysOf;rw[X7];exact X2 (QjY _) (QfR l)
theorem Qj8(l:List Fact)(hl:l.length<=100):Ev (λn=>F_bs n l) ((keysOf l).filterMap λx=>x.2.2.head?):=by
 unfold F_bs;refine Ea (QgV l hl) ?_;have e:(keysOf l).filterMap (λx=>x.2.2.head?)=(filesS (canonS l)).filterMap λx=>x.reports.head? :=by
  unfold keysOf;rw[List.filterMap_map];rfl
 have f:(filesS (canonS l)).length<=100:=by have:=Qb0 l;unfold keysOf at this;rw[X7]at this;omega
 rw[e];generalize filesS (canonS l)=fs at f;refine Ea (QoM fs (λx=>x.reports.head?) (by omega) (λi x a b d=>?_) λa=>?_) (Qa _)
 .unfold F_hz;simp only[b.lt,Vv,b.ix,XP,b.nx,Qch];have:=b.lt';cases h:x.reports with
  |nil=>exact(Qa _).eq (by simp)
  |cons r j=>
   have g:idx (r::j) 0=some r:=rfl;simp only[List.isEmpty_cons,Xh,Vv,g,XP];rw[QbA _ _ (by simp;omega)];exact Qa _
 .unfold F_hz;simp only[QaH,Vw];exact Qa _
theorem QnW(x:Ue):Ev (λn=>F_bu n x) (match forceF x with|some g=>(g,true)|none=>(Ux,false)):=by
 have b:idx ([x.r0,x.r1,x.r2]:List (List Fact)) 1=some x.r1:=rfl;have d:idx ([x.r0,x.r1,x.r2]:List (List Fact)) 2=some x.r2:=rfl;unfold F_bu;refine Ea (v:=suspF x) ?_ ?_
 .unfold F_dp;simp only[b,d,XP,Qch,Qnv];refine Ea (v:=suspF x) ?_ (Qa _);unfold suspF;cases x.appeal<;>cases x.r1.isEmpty<;>exact Qa _
 unfold forceF;cases m:suspF x with
 |true=>exact Qa _
 |false=>
  simp only[Vw];have h:decide ((0:Int)<2)=true:=rfl;have e:decide ((0:Int)<1)=true:=rfl;have k:decide ((0:Int)<0)=false:=rfl;have w1:IntKind.i64.wrap (2-1)=1:=rfl;have l:IntKind.i64.wrap (1-1)=0:=rfl;refine Ea (v:=match(x.r2++x.r1).head? with|some f=>Ctl.done (f.Ruling,true)|none=>Ctl.cont ()) (EvI.ev ?_) ?_
  .cases j:x.r2 with
   |cons f r=>
    refine Ej ?_;have a:idx (f::r) 0=some f:=rfl;unfold F_cg;simp only[h,Vv,d,XP,Qch,j,List.isEmpty_cons,Xh,a];exact Qa _
   |nil=>
    refine Ex (s':=1) ?_ ?_
    .unfold F_cg;simp only[h,Vv,d,XP,Qch,j,List.isEmpty_nil,Xg,Vw,w1];exact Qa _
    rw[Vn];cases i:x.r1 with
    |cons f r=>
     refine Ej ?_;have a:idx (f::r) 0=some f:=rfl;unfold F_cg;simp only[e,Vv,b,XP,Qch,i,List.isEmpty_cons,Xh,a];exact Qa _
    |nil=>
     refine Ex (s':=0) ?_ (Ej ?_)
     .unfold F_cg;simp only[e,Vv,b,XP,Qch,i,List.isEmpty_nil,Xg,Vw,l];exact Qa _
     .unfold F_cg;simp only[k,Vw];exact Qa _
  .cases(x.r2++x.r1).head? <;>exact Qa _
theorem QqX(l:List Fact)(hl:l.length<=100):Ev (λn=>F_dd n l) ((keysOf l).filterMap λx=>x.2.1):=by
 unfold F_dd;refine Ea (QgV l hl) ?_;have e:(keysOf l).filterMap (λx=>x.2.1)=(filesS (canonS l)).filterMap forceF:=by
  unfold keysOf;rw[List.filterMap_map];rfl
 have f:(filesS (canonS l)).length<=100:=by have:=Qb0 l;unfold keysOf at this;rw[X7]at this;omega
 rw[e];generalize filesS (canonS l)=fs at f;refine Ea (QoM fs forceF (by omega) (λi x a b d=>?_) λa=>?_) (Qa _)
 .unfold F_ii;simp only[b.lt,Vv,b.ix,XP,b.nx];have:=b.lt';refine Ea (QnW x) ?_;cases h:forceF x with
  |none=>exact(Qa _).eq (by simp)
  |some g=>
   simp only[Vv];rw[QbA _ _ (by simp;omega)];exact Qa _
 .unfold F_ii;simp only[QaH,Vw];exact Qa _
section
variable {S T B:Type} {step:Nat->S->Option (List T×Ctl S B)} {s s':S} {b:B} {xs ys:List T}
def EvL(step:Nat->S->Option (List T×Ctl S B))(s:S)(ys:List T)(b:B):Prop:=∃N,∀n k,N<=n->N<=k->Qb1 (step n) k s=some (ys,b)
theorem EvL.done(h:Ev (λn=>step n s) (ys,.done b)):EvL step s ys b:=by
 obtain⟨N,h⟩:=h;refine⟨N+1,λn k d f=>?_⟩;obtain⟨a,rfl⟩:∃a,k=a+1:=⟨k-1,by omega⟩;have e:step n s=some (ys,.done b):=h n (by omega);unfold Qb1;rw[e];rfl
theorem EvL.cont(h:Ev (λn=>step n s) (xs,.cont s'))(q:EvL step s' ys b):EvL step s (xs++ys) b:=by
 obtain⟨N,h⟩:=h;obtain⟨M,q⟩:=q;refine⟨max N M+1,λn k d f=>?_⟩;obtain⟨a,rfl⟩:∃a,k=a+1:=⟨k-1,by omega⟩;have e:step n s=some (xs,.cont s'):=h n (by omega);unfold Qb1;rw[e];show(Qb1 (step n) a s').bind _=_;rw[q n a (by omega) (by omega)];rfl
theorem EvL.ev(h:EvL step s ys b):Ev (λn=>Qb1 (step n) n s) (ys,b):=by
 obtain⟨N,h⟩:=h;exact⟨N,λn a=>h n n a a⟩
end
def viaR(c:Course)(k:Int):Option Report->Option Ud
 |none=>none
 |some r=>bif decide (r.Offence<0)||decide ((c.Offences.length:Int)<=r.Offence)then none else
  (idx c.Offences r.Offence).map λo=>{number:=k,bib:=r.Bib,penalty:={Position:=r.Position,Time:=o.Time,Laps:=o.Laps,Out:=o.Out}}
def rulP(k:Int)(g:Ruling):Option Ud:=
 bif g.Kind==5 then some {number:=k,bib:=g.Bib,penalty:={Position:=g.Position,Time:=0,Laps:=0,Out:=true}}else
 bif g.Kind==4 then some {number:=k,bib:=g.Bib,penalty:={Position:=g.Position,Time:=0,Laps:=g.Amount,Out:=false}}else
 bif g.Kind==3 then some {number:=k,bib:=g.Bib,penalty:={Position:=g.Position,Time:=g.Amount,Laps:=0,Out:=false}}else none
def givenK(c:Course)(x:KeyT):Option Ud:=
 match x.2.1 with
 |some g=>bif (g.Kind==5)||((g.Kind==4)||(g.Kind==3))then rulP x.1 g else bif g.Kind==2 then none else viaR c x.1 x.2.2.head?
 |none=>viaR c x.1 x.2.2.head?
def lookK(K:List KeyT)(k:Int):Option KeyT:=K.find? λx=>x.1==k
theorem Qfh(x:KeyT)(K:List KeyT)(k:Int):lookK (x::K) k=if x.1=k then some x else lookK K k:=by
 unfold lookK;rw[List.find?_cons];by_cases h:x.1=k
 .rw[Vz h,h,beq_self_eq_true]
 .rw[Vy h,show(x.1==k)=false from VF.2 h]
theorem Qfg{K:List KeyT}{k:Int}(h:k∉K.map (·.1)):lookK K k=none:=by
 refine List.find?_eq_none.2 λx a q=>h ?_;rw[VE]at q;exact Xe.2 ⟨x,a,q⟩
theorem Qiw:∀{K:List KeyT},(K.map (·.1)).Nodup->∀{x:KeyT},x∈K->lookK K x.1=some x
 |[],_,x,h=>by cases h
 |y::K,hn,x,h=>by
  rw[Vq,List.nodup_cons]at hn;rw[Qfh];rcases Vc.1 h with rfl|h
  .rw[Vz rfl]
  .rw[Vy λq=>hn.1 (by rw[q];exact Xe.2 ⟨x,h,rfl⟩)];exact Qiw hn.2 h
theorem Qc9{β:Type}(key:β->Int)(f:KeyT->Option β):∀(K:List KeyT) (m:List (Int×β)),(K.map (·.1)).Nodup->(∀x∈K,∀y,f x=some y->key y=x.1)->∀k,
  YF ((K.filterMap f).foldl (λm y=>QE m (key y) y) m) k=match(lookK K k).bind f with|some v=>some v|none=>YF m k
 |[],m,_,_,k=>rfl
 |x::K,m,hn,hk,k=>by
  rw[Vq,List.nodup_cons]at hn;have hk':∀x∈K,∀y,f x=some y->key y=x.1:=λz hz=>hk z (by simp[hz]);rw[List.filterMap_cons,Qfh];cases hf:f x with
  |none=>
   simp only;rw[Qc9 key f K m hn.2 hk' k];by_cases e:x.1=k
   .rw[Vz e,Qfg (by rw[<- e];exact hn.1)];simp[hf]
   .rw[Vy e]
  |some y=>
   simp only[XJ];rw[Qc9 key f K _ hn.2 hk' k];have hy:=hk x (by simp) y hf;by_cases e:x.1=k
   .rw[Vz e,Qfg (by rw[<- e];exact hn.1)];simp only[Option.bind_none,XP,hf];rw[YM,Vz (by rw[hy,e])]
   .rw[Vy e];cases(lookK K k).bind f with
    |some v=>rfl
    |none=>
     simp only;rw[YM,Vy (by rw[hy];exact λq=>e q.symm)]
theorem QdK{β:Type}(a:β->Int):∀(L:List β) (m:List (Int×Bool)),(m.map Prod.fst).Nodup->(((L.foldl (λm y=>QE m (a y) true) m).map Prod.fst).Nodup/\(L.foldl (λm y=>QE m (a y) true) m).length<=m.length+L.length/\ ∀k,k∈(L.foldl (λm y=>QE m (a y) true) m).map Prod.fst↔k∈m.map Prod.fst\/k∈L.map a)
 |[],m,h=>⟨h,by simp,λk=>by simp⟩
 |y::L,m,h=>by
  rw[XJ];obtain⟨i1,i2,i3⟩:=QdK a L (QE m (a y) true) (Qfb _ _ h);refine⟨i1,?_,λk=>?_⟩
  .have:=Qit m (a y) true;simp only[X6];omega
  .rw[i3,Vq,Vc];have:k∈(QE m (a y) true).map Prod.fst↔k=a y\/k∈m.map Prod.fst:=by
    rw[Qfe,Qfe];constructor
    .rintro⟨v,b⟩;rw[YM]at b;by_cases z:k=a y
     .exact .inl z
     .rw[Vy z]at b;exact .inr ⟨v,b⟩
    .rintro(z|⟨v,b⟩)
     .exact⟨true,by rw[YM,Vz z]⟩
     .by_cases z:k=a y
      .exact⟨true,by rw[YM,Vz z]⟩
      .exact⟨v,by rw[YM,Vy z];exact b⟩
   rw[this];constructor
   .rintro((h|h)|h)
    .exact .inr (.inl h)
    .exact .inl h
    .exact .inr (.inr h)
   .rintro(h|h|h)
    .exact .inl (.inr h)
    .exact .inl (.inl h)
    .exact .inr h
def effM:List (Int×Uc):=QE (QE (QE [] 3 ⟨143⟩) 4 ⟨144⟩) 5 ⟨145⟩
theorem Qob(k:Int):YF effM k=if k=5 then some ⟨145⟩else if k=4 then some ⟨144⟩else if k=3 then some ⟨143⟩else none:=by
 unfold effM;rw[YM,YM,YM];rfl
theorem QgB{β:Type}(m:List (Int×β))(k:Int)(z:β):QI m k z=(YF m k).getD z:=rfl
section
variable {c:Course} {K:List KeyT} {m1:List (Int×Report)×List (Int×Bool)} {m2:List (Int×Ruling)×List (Int×Bool)} {S:List Int}
theorem QnV(y:∀k,YF m1.1 k=(lookK K k).bind λx=>x.2.2.head?)(E:∀k,YF m2.1 k=(lookK K k).bind λx=>x.2.1){i:Nat}{x:KeyT}(q:At S i x.1)(s:lookK K x.1=some x):
  Ev (λn=>F_eu n c m1 m2 effM S (i:Int)) ((givenK c x).toList,.cont ((i+1:Nat):Int)):=by
 unfold F_eu;simp only[q.lt,Vv,q.ix,XP,q.nx,QgB,Qiu,y,E,s,Qob];have h:∀(r:Option Report),Ev (λn=>((bif (!r.isSome)then some true else(bif decide ((r.getD Uw).Offence<0)then some true else some (decide ((c.Offences.length:Int)<=(r.getD Uw).Offence)))):Option Bool).bind λj=>(bif j then some ([],.cont ((i+1:Nat):Int))else(idx c.Offences (r.getD Uw).Offence).bind λd=>yl ({number:=x.1,bib:=(r.getD Uw).Bib,penalty:={Position:=(r.getD Uw).Position,Time:=d.Time,Laps:=d.Laps,Out:=d.Out:Penalty}:Ud}) (some ([],.cont ((i+1:Nat):Int)))))
   (((viaR c x.1 r).toList,.cont ((i+1:Nat):Int)):(List Ud)×Ctl Int Unit):=by
  intro r;cases r with
  |none=>exact Qa _
  |some r=>
   simp only[Option.isSome_some,Xg,Vw,Option.getD_some,viaR];cases w:decide (r.Offence<0)with
   |true=>exact Qa _
   |false=>
    cases u:decide ((c.Offences.length:Int)<=r.Offence)with
    |true=>exact Qa _
    |false=>
     simp only[Vw,XP,Bool.or_self];have a:=VC w;have b:=VC u;have:idx c.Offences r.Offence=some (c.Offences[r.Offence.toNat]'(by omega)):=by
      unfold idx;rw[QZ (by omega),Vv,XQ]
     rw[this];exact Qa _
 cases f:x.2.1 with
 |none=>
  have e:givenK c x=viaR c x.1 x.2.2.head? :=by unfold givenK;rw[f]
  rw[e];have t:¬Ux.Kind=5:=by decide
  have z:¬Ux.Kind=4:=by decide
  have B:¬Ux.Kind=3:=by decide
  simp only[f,Option.getD_none,Option.isSome_none,Vy t,Vy z,Vy B,Qff,XP,Vw];exact h _
 |some g=>
  simp only[XP,Option.isSome_some,Vv,f,Option.getD_some];by_cases p:g.Kind=5
  .have e:givenK c x=some {number:=x.1,bib:=g.Bib,penalty:={Position:=g.Position,Time:=0,Laps:=0,Out:=true}}:=by unfold givenK rulP;rw[f];simp[p]
   rw[e];simp only[p,if_true,Qff,XP,Vv];exact Qa _
  by_cases m:g.Kind=4
  .have e:givenK c x=some {number:=x.1,bib:=g.Bib,penalty:={Position:=g.Position,Time:=0,Laps:=g.Amount,Out:=false}}:=by unfold givenK rulP;rw[f];simp[m]
   rw[e];simp only[m,if_true,Qff,XP,Vv];exact Qa _
  by_cases l:g.Kind=3
  .have e:givenK c x=some {number:=x.1,bib:=g.Bib,penalty:={Position:=g.Position,Time:=g.Amount,Laps:=0,Out:=false}}:=by unfold givenK rulP;rw[f];simp[l]
   rw[e];simp only[l,if_true,Qff,XP,Vv];exact Qa _
  simp only[Vy p,Vy m,Vy l,Qff,XP];have e:givenK c x=bif g.Kind==2 then none else viaR c x.1 x.2.2.head? :=by
   unfold givenK;rw[f];simp only[VF.2 p,VF.2 m,VF.2 l,Bool.or_self,Vw]
  rw[e];cases(g.Kind==2)with
  |true=>exact Qa _
  |false=>
   simp only[Vw];exact h _
theorem Qlc(a:∀k,YF m1.1 k=(lookK K k).bind λx=>x.2.2.head?)(b:∀k,YF m2.1 k=(lookK K k).bind λx=>x.2.1)(d:S.length<=1000):∀(r:List KeyT) (i:Nat),S.drop i=r.map (·.1)->i<=S.length->(∀x∈r,lookK K x.1=some x)->
  EvL (λn=>F_eu n c m1 m2 effM S) (i:Int) (r.filterMap (givenK c)) ()
 |[],i,hd,hi,_=>by
  refine EvL.done ?_;unfold F_eu;simp only[Yg hd hi,Vw];exact Qa _
 |x::r,i,hd,hi,hx=>by
  rw[Vq]at hd;obtain⟨ha,hd'⟩:=QN (by omega) hd;have hlt:=ha.lt';have e:(x::r).filterMap (givenK c)=(givenK c x).toList++r.filterMap (givenK c):=by
   rw[List.filterMap_cons];cases givenK c x<;>rfl
  rw[e];exact EvL.cont (QnV a b ha (hx x (by simp))) (Qlc a b d r (i+1) hd' (by omega) λy f=>hx y (by simp[f]))
end
theorem QlM{l:List Int}(h:l.Pairwise (· < ·)):l.Nodup:=h.imp λh=>by omega
theorem QlJ{l:List Int}(h:l.Nodup):(Yn ltI l).Pairwise (· < ·):=by
 have nd:(Yn ltI l).Nodup:=(Qn _ _).nodup_iff.2 h;refine(List.Pairwise.and (QT (Qc5 l)) nd).imp λ{a b} q=>?_;have:=q.1;simp[ltI]at this;have:=q.2;omega
theorem QqW(c:Course)(l:List Fact)(hl:l.length<=100):Ev (λn=>F_dg n l c) ((keysOf l).filterMap (givenK c),()):=by
 have ok:=Qpd l;have nd:=QlM ok.inc;have T:=Qb0 l;unfold F_dg;refine Ea (Qj8 l hl) ?_;have O:((keysOf l).filterMap λx=>x.2.2.head?).length<=100:=X2 (List.length_filterMap_le ..) (by omega);have M:((keysOf l).filterMap λx=>x.2.1).length<=100:=X2 (List.length_filterMap_le ..) (by omega);have P:=Qc9 (λr:Report=>r.Case) (λx:KeyT=>x.2.2.head?) (keysOf l) [] nd ok.rep;have J:=Qc9 (λg:Ruling=>g.Case) (λx:KeyT=>x.2.1) (keysOf l) [] nd ok.rul;obtain⟨G,t,B⟩:=QdK (λr:Report=>r.Case) ((keysOf l).filterMap λx=>x.2.2.head?) [] (by simp);refine Ea (v:=(((keysOf l).filterMap λx=>x.2.2.head?).foldl (λm y=>QE m y.Case y) [],((keysOf l).filterMap λx=>x.2.2.head?).foldl (λm y=>QE m y.Case true) [])) ?_ ?_
 .generalize((keysOf l).filterMap λx=>x.2.2.head?)=R at O;have e:∀(R:List Report) (a:List (Int×Report)) (b:List (Int×Bool)),R.foldl (λ(m:List (Int×Report)×List (Int×Bool)) y=>(QE m.1 y.Case y,QE m.2 y.Case true)) (a,b)=(R.foldl (λm y=>QE m y.Case y) a,R.foldl (λm y=>QE m y.Case true) b):=by
   intro R
   induction R with
   |nil=>intro a b;rfl
   |cons y R ih=>intro a b;rw[XJ,ih];rfl
  rw[<- e];refine Q1 R (λ(m:List (Int×Report)×List (Int×Bool)) y=>(QE m.1 y.Case y,QE m.2 y.Case true)) ([],[]) (λm i=>(m.1,m.2,(i:Int))) (λm=>m) (by omega) rfl (λi x m ha _=>?_) ?_
  .unfold F_hv;simp only[ha.lt,Vv,ha.ix,XP,ha.nx];exact Qa _
  .unfold F_hv;simp only[QaH,Vw];exact Qa _
 refine Ea (QqX l hl) ?_;simp only;generalize hb:((keysOf l).filterMap λx=>x.2.2.head?).foldl (λm y=>QE m y.Case true) []=b0 at G t B;obtain⟨z,N,u⟩:=QdK (λg:Ruling=>g.Case) ((keysOf l).filterMap λx=>x.2.1) b0 G;refine Ea (v:=(((keysOf l).filterMap λx=>x.2.1).foldl (λm y=>QE m y.Case y) [],((keysOf l).filterMap λx=>x.2.1).foldl (λm y=>QE m y.Case true) b0)) ?_ ?_
 .generalize((keysOf l).filterMap λx=>x.2.1)=R at M;have e:∀(R:List Ruling) (a:List (Int×Ruling)) (b:List (Int×Bool)),R.foldl (λ(m:List (Int×Ruling)×List (Int×Bool)) y=>(QE m.1 y.Case y,QE m.2 y.Case true)) (a,b)=(R.foldl (λm y=>QE m y.Case y) a,R.foldl (λm y=>QE m y.Case true) b):=by
   intro R
   induction R with
   |nil=>intro a b;rfl
   |cons y R ih=>intro a b;rw[XJ,ih];rfl
  rw[<- e];refine Q1 R (λ(m:List (Int×Ruling)×List (Int×Bool)) y=>(QE m.1 y.Case y,QE m.2 y.Case true)) ([],b0) (λm i=>(m.1,m.2,(i:Int))) (λm=>m) (by omega) rfl (λi x m ha _=>?_) ?_
  .unfold F_if;simp only[ha.lt,Vv,ha.ix,XP,ha.nx];exact Qa _
  .unfold F_if;simp only[QaH,Vw];exact Qa _
 simp only;generalize hc:((keysOf l).filterMap λx=>x.2.1).foldl (λm y=>QE m y.Case true) b0=b1 at z N u;refine Ea (v:=effM) (Qa _) ?_;unfold F_gd;simp only[XP];have Q:b1.length<=200:=by simp only[List.length_nil]at t;omega
 refine Ea (v:=Yn ltI (b1.map Prod.fst)) ⟨0,λn _=>?_⟩ ?_
 .unfold F_gm Ql8;have w:(List.map Prod.fst b1).length<=1048576:=by rw[X7];omega
  rw[Qci w,Vv];refine QhS λp F=>?_;unfold sortI;rw[Qci (by rw[F.length_eq];exact w)];show some (Yn ltI p)=_;rw[QgE F]
 have e:Yn ltI (b1.map Prod.fst)=((keysOf l).filter λx=>x.2.1.isSome||x.2.2.head?.isSome).map (·.1):=by
  refine Qgl (lt:=λa b:Int=>a<b) (λa b h=>by omega) (QlJ z) ?_ λk=>?_
  .exact ok.inc.sublist ((List.filter_sublist).map _)
  .rw[(Qn _ _).mem_iff,u,B];simp only[Vr,List.not_mem_nil,false_or,Xe,List.mem_filterMap,Xd,Bool.or_eq_true];constructor
   .rintro(⟨r,⟨x,d,s⟩,rfl⟩|⟨g,⟨x,d,j⟩,rfl⟩)
    .exact⟨x,⟨d,.inr (by rw[s];rfl)⟩,(ok.rep x d r s).symm⟩
    .exact⟨x,⟨d,.inl (by rw[j];rfl)⟩,(ok.rul x d g j).symm⟩
   .rintro⟨x,⟨d,h|h⟩,rfl⟩
    .obtain⟨g,j⟩:=Option.isSome_iff_exists.1 h;exact .inr ⟨g,⟨x,d,j⟩,ok.rul x d g j⟩
    .obtain⟨r,s⟩:=Option.isSome_iff_exists.1 h;exact .inl ⟨r,⟨x,d,s⟩,ok.rep x d r s⟩
 have H:(Yn ltI (b1.map Prod.fst)).length<=1000:=by rw[(Qn _ _).length_eq,X7];omega
 have E:=Qlc (c:=c) (K:=keysOf l) (m1:=(((keysOf l).filterMap λx=>x.2.2.head?).foldl (λm y=>QE m y.Case y) [],b0)) (m2:=(((keysOf l).filterMap λx=>x.2.1).foldl (λm y=>QE m y.Case y) [],b1)) (S:=Yn ltI (b1.map Prod.fst))
  (λk=>by rw[P k];cases(lookK (keysOf l) k).bind λx=>x.2.2.head? <;>rfl) (λk=>by rw[J k];cases(lookK (keysOf l) k).bind λx=>x.2.1<;>rfl) H
  ((keysOf l).filter λx=>x.2.1.isSome||x.2.2.head?.isSome) 0 (by rw[List.drop_zero];exact e) (X0 _) (λx d=>Qiw nd (Xd.1 d).1)
 have L:((keysOf l).filter λx=>x.2.1.isSome||x.2.2.head?.isSome).filterMap (givenK c)=(keysOf l).filterMap (givenK c):=by
  rw[List.filterMap_filter];refine congrArg (λf=>(keysOf l).filterMap f) (funext λx=>?_);by_cases q:(x.2.1.isSome||x.2.2.head?.isSome)=true
  .rw[Vz q]
  .rw[Vy q];rw[Bool.not_eq_true,Bool.or_eq_false_iff,Option.isSome_eq_false_iff,Option.isSome_eq_false_iff,Option.isNone_iff_eq_none,Option.isNone_iff_eq_none]at q;unfold givenK;rw[q.1,q.2];rfl
 rw[L]at E;unfold ap;refine Ea E.ev ((Qa _).eq ?_);simp
def casesOf(c:Course)(l:List Fact)(b:Int):List Ud:=((keysOf l).filterMap (givenK c)).filter λx=>x.bib==b
def casesF(e:Int)(c:Course)(l:List Fact)(b:Int):List Int×List Penalty:=bif e != 0 then([],[])else((casesOf c l b).map (·.number),(casesOf c l b).map (·.penalty))
theorem QdO(b:Int)(n:Nat):∀(a:List Ud) (s:List Int×List Penalty),s.1.length+a.length<=1000->s.2.length+a.length<=1000->QcZ (F_hc n b) a s=some (.cont (s.1++(a.filter λx=>x.bib==b).map (·.number),s.2++(a.filter λx=>x.bib==b).map (·.penalty)))
 |[],s,_,_=>by simp[QcZ]
 |y::a,s,h1,h2=>by
  simp only[X6]at h1 h2;unfold QcZ;have e:F_hc n b s y=some (.cont (bif y.bib==b then(s.1++[y.number],s.2++[y.penalty])else s)):=by
   unfold F_hc;cases(y.bib==b)with
   |false=>rfl
   |true=>
    simp only[Vv];rw[QbA _ _ (by simp;omega)];simp only[XP];rw[QbA _ _ (by simp;omega)];rfl
  rw[e];show QcZ _ a _=_;rw[List.filter_cons];cases(y.bib==b)with
  |false=>exact QdO b n a s (by omega) (by omega)
  |true=>
   simp only[Vv,if_true];rw[QdO b n a _ (by simp;omega) (by simp;omega)];simp
theorem Qn6(e:Int)(c:Course)(l:List Fact)(b:Int)(hl:l.length<=100)(he:Ev (λn=>F_e n c) e):Ev (λn=>F_u n c l b) (casesF e c l b):=by
 unfold F_u casesF F_ge;refine Ea he ?_;cases(e != 0)with
 |true=>exact Qa _
 |false=>
  simp only[Vw,XP];refine Ea (QqW c l hl) ?_;have a:((keysOf l).filterMap (givenK c)).length<=100:=X2 (List.length_filterMap_le ..) (by have:=Qb0 l;omega);unfold casesOf;generalize(keysOf l).filterMap (givenK c)=ys at a;have:=λn=>QdO b n ys ([],[]) (by simp;omega) (by simp;omega);simp only[Vn]at this;simp only[this,XP];exact Qa _
set_option maxRecDepth 100000
theorem Qqe:F_ez 300=some true:=by kernel_rfl
theorem QnZ{c:Course}{b:Bool}(l:List Fact)(a:Ev (λn=>F_aa n c) b):Ev (λn=>F_db n c l) (b&&decide ((l.length:Int)<=14)):=by
 unfold F_db;refine Ea (v:=b&&decide ((l.length:Int)<=14)) (Ea a (Ei λ_=>Qa _)) (Qa _)
theorem QfQ(e:Int)(c:Course)(l:List Fact)(b:Int):(casesF e c l b).1.length<=l.length/\(casesF e c l b).2.length<=l.length:=by
 unfold casesF casesOf;cases(e != 0)with
 |true=>exact⟨X0 _,X0 _⟩
 |false=>
  simp only[Vw,X7];have a:=VU (λx:Ud=>x.bib==b) ((keysOf l).filterMap (givenK c));have f:=List.length_filterMap_le (givenK c) (keysOf l);have d:=Qb0 l;omega
def untS(p:Int)(s:Int×Int×Bool)(x:Penalty):Int×Int×Bool:=bif decide (x.Position<=p)then(IntKind.i64.wrap (s.1+x.Time),IntKind.i64.wrap (s.2.1+x.Laps),s.2.2||x.Out)else s
def untF(x:List Penalty)(p:Int):Int×Int×Bool:=x.foldl (untS p) (0,0,false)
theorem Qn4(x:List Penalty)(p:Int)(hl:x.length<=1048576):Ev (λn=>F_al n x p) (untF x p):=by
 unfold F_al;refine Ea (v:=untF x p) (Q1 x (untS p) (0,0,false) (λs i=>(s.1,s.2.1,s.2.2,(i:Int))) (λs=>s) (by omega) rfl (λi y s ha _=>?_) ?_) (Qa _)
 .unfold F_hu;simp only[ha.lt,Vv,ha.ix,XP,ha.nx];refine Ea (v:=untS p s y) ?_ (Qa _);unfold untS;cases decide (y.Position<=p)with
  |false=>exact Qa _
  |true=>cases s.2.2<;>exact Qa _
 .unfold F_hu;simp only[QaH,Vw];exact Qa _
def insBP(x:Penalty):List Penalty->List Penalty
 |[]=>[x]
 |y::r=>bif decide (x.Position<y.Position)then y::insBP x r else x::y::r
def putB(P:List Penalty)(x:Penalty):List Penalty:=(insBP x P.reverse).reverse
def sortB(l:List Penalty):List Penalty:=l.foldl putB []
theorem QgG(x:Penalty):∀r:List Penalty,(insBP x r).length=r.length+1
 |[]=>rfl
 |y::r=>by
  unfold insBP;cases decide (x.Position<y.Position)with
  |true=>simp[QgG x r]
  |false=>rfl
theorem QbW(P:List Penalty)(x:Penalty):(putB P x).length=P.length+1:=by unfold putB;rw[List.length_reverse,QgG,List.length_reverse]
theorem Qhl{α:Type}(P R:List α)(x y:α):QbN (P++x::R) (P.length:Int) y=some (P++y::R):=by
 rw[Qid _ _ (by simp)];simp
theorem QeB{α:Type}(P R:List α)(x:α):idx (P++x::R) (P.length:Int)=some x:=YD (by simp)
theorem QnU(x:Penalty):∀(Pr R:List Penalty),Pr.length<=1000->EvI (λn=>F_gp n 0) (Pr.reverse++x::R,(Pr.length:Int)) ((insBP x Pr).reverse++R)
 |[],R,_=>by
  refine Ej ?_;unfold F_gp;exact Ea (v:=false) (Qa _) (Qa _)
 |y::Pr,R,hl=>by
  simp only[X6]at hl;have e0:(y::Pr).reverse++x::R=Pr.reverse++y::x::R:=by simp
  have d:(y::Pr).reverse++x::R=(Pr.reverse++[y])++x::R:=by simp
  have e:((y::Pr).length:Int)=((Pr.reverse++[y]).length:Int):=by simp
  have f:idx (Pr.reverse++y::x::R) ((y::Pr).length:Int)=some x:=by rw[<- e0,d,e];exact QeB _ _ _
  have w1:IntKind.i64.wrap (((y::Pr).length:Int)-1)=(Pr.reverse.length:Int):=by rw[X6,List.length_reverse,QW (by omega) (by omega)];omega
  have g:idx (Pr.reverse++y::x::R) (Pr.reverse.length:Int)=some y:=QeB _ _ _;have j:QbN (Pr.reverse++y::x::R) ((y::Pr).length:Int) y=some (Pr.reverse++y::y::R):=by
   rw[<- e0,d,e,Qhl];simp
  have i:idx (Pr.reverse++y::y::R) (Pr.reverse.length:Int)=some y:=QeB _ _ _;have k:QbN (Pr.reverse++y::y::R) (Pr.reverse.length:Int) x=some (Pr.reverse++x::y::R):=Qhl _ _ _ _;have cmp:∀n,F_cw n x y=some (cmpI x.Position y.Position):=λn=>by
   unfold F_cw F_at;simp only[XP,QeC]
  have b:decide (cmpI x.Position y.Position<0)=decide (x.Position<y.Position):=by
   unfold cmpI;by_cases h:x.Position<y.Position
   .simp[h]
   .by_cases l:y.Position<x.Position<;>simp[h,l]
  rw[e0];cases q:decide (x.Position<y.Position)with
  |true=>
   have a:=QnU x Pr (y::R) (by omega);rw[show(Pr.length:Int)=(Pr.reverse.length:Int)by rw[List.length_reverse]]at a;refine(Ex ?_ a).eq ?_
   .unfold F_gp;simp only[f,w1,g,XP,cmp,b,q];refine Ea (v:=true) ?_ ?_
    .rw[QZ (show(0:Int)<((y::Pr).length:Int)by simp only[X6];omega)];exact Qa _
    .simp only[Vv,j,XP,i,k];exact Qa _
   .rw[show insBP x (y::Pr)=bif decide (x.Position<y.Position)then y::insBP x Pr else x::y::Pr from rfl,q];simp
  |false=>
   refine Ej (Ew (v:=.done (Pr.reverse++y::x::R)) ?_ ?_)
   .unfold F_gp;simp only[f,w1,g,XP,cmp,b,q];refine Ea (v:=false) ?_ (Qa _);rw[QZ (show(0:Int)<((y::Pr).length:Int)by simp only[X6];omega)];exact Qa _
   .rw[show insBP x (y::Pr)=bif decide (x.Position<y.Position)then y::insBP x Pr else x::y::Pr from rfl,q];simp
theorem QgQ:∀(R P:List Penalty),P.length+R.length<=1000->1<=P.length->EvI (λn=>F_ds n 0 ((P.length+R.length:Nat):Int)) (P++R,(P.length:Int)) (R.foldl putB P)
 |[],P,hl,h1=>by
  refine Ej ?_;unfold F_ds;simp only[Vm,List.length_nil,XB,QaH,Vw];exact Qa _
 |x::R,P,hl,h1=>by
  simp only[X6]at hl;have ih:=QgQ R (putB P x) (by rw[QbW];omega) (by rw[QbW];omega);have e:(putB P x).length+R.length=P.length+(x::R).length:=by rw[QbW];simp only[X6];omega
  rw[e]at ih;rw[XJ];refine Ex ?_ ih;unfold F_ds;have a:decide ((P.length:Int)<((P.length+(x::R).length:Nat):Int))=true:=QZ (by simp only[X6];omega);simp only[a,Vv];have h:=QnU x P.reverse R (by rw[List.length_reverse];omega);rw[List.reverse_reverse,List.length_reverse]at h;refine Ea h.ev ?_;have w:IntKind.i64.wrap ((P.length:Int)+1)=((putB P x).length:Int):=by rw[QbW,Yq (by omega)]
  rw[w];exact Qa _
theorem Qbd(l:List Penalty):(sortB l).length=l.length:=by
 have:∀(l P:List Penalty),(l.foldl putB P).length=P.length+l.length:=by
  intro l
  induction l with
  |nil=>intro P;rfl
  |cons x l a=>intro P;rw[XJ,a,QbW,X6];omega
 unfold sortB;rw[this,List.length_nil,XA]
theorem QjQ{α:Type}{l r:List α}{o:Option (List α)}(h:o=some r)(hl:l.length=r.length):Qc6 l o=some r:=by
 unfold Qc6;rw[h];show(bif Nat.beq l.length r.length then some r else none)=some r;rw[hl,VL];rfl
theorem Ev.keep{α:Type}{l r:List α}{o:Nat->Option (List α)}(h:Ev o r)(hl:l.length=r.length):Ev (λn=>Qc6 l (o n)) r:=by
 obtain⟨N,h⟩:=h;exact⟨N,λn a=>QjQ (h n a) hl⟩
theorem QlQ(l:List Penalty)(hl:l.length<=1000):∃u,Ev (λn=>F_au n l) (l,u):=by
 refine⟨(),?_⟩;unfold F_au;have d:∀(r:List Penalty) (i:Nat),l.drop i=r->i<=l.length->EvL (λn=>F_hr n l) (i:Int) r ():=by
  intro r
  induction r with
  |nil=>
   intro i b f;refine EvL.done ?_;unfold F_hr;simp only[Yg b f,Vw];exact Qa _
  |cons x r g=>
   intro i b f;obtain⟨a,e⟩:=QN (by omega) b;refine EvL.cont (xs:=[x]) ?_ (g (i+1) e (by have:=a.lt';omega));unfold F_hr;simp only[a.lt,Vv,a.ix,XP,a.nx];exact Qa _
 have h:=d l 0 (by simp) (X0 _);unfold ap;refine Ea h.ev ((Qa _).eq ?_);simp
theorem Qjc(n:Nat):∀(ys s:List Penalty),s.length+ys.length<=1000->QcZ (F_fr n) ys s=some (.cont (s++ys))
 |[],s,_=>by simp[QcZ]
 |y::ys,s,h=>by
  simp only[X6]at h;unfold QcZ F_fr;rw[QbA _ _ (by simp;omega)];show QcZ _ ys _=_;have:=Qjc n ys (s++[y]) (by simp;omega);unfold F_fr at this;rw[this];simp
theorem ev_by(l:List Penalty)(hl:l.length<20):Ev (λn=>F_cp n l) (sortB l):=by
 unfold F_cp F_dx F_el F_ep F_dv;simp only[XP];obtain⟨u,b⟩:=QlQ l (by omega);have a:Ev (λn=>((F_au n l).bind λy1=>(QcZ (F_fr n) y1.1 []:Option (Ctl (List Penalty) (List Penalty))).bind λD8=>match D8 with|.cont s14=>(some s14)|.done s14=>some s14)) l:=by
  refine Ea b ?_;have:=λn=>Qjc n l [] (by simp;omega);simp only[this,Vn,XP];exact Qa _
 refine Ea (Ea (Ea a (Qa _)) (Ea (Ev.keep ?_ (Qbd l).symm) (Qa _))) (Qa _);unfold F_ej F_fg F_ea;refine Ea (Ev.keep ?_ (Qbd l).symm) (Qa _);simp only[QZ (show(l.length:Int)<20 by omega),Vv];refine Ea (Ev.keep (Ea (v:=sortB l) ?_ (Qa _)) (Qbd l).symm) (Qa _);have w1:IntKind.i64.wrap (0+1)=1:=rfl;rw[w1];cases l with
 |nil=>
  refine(Ej ?_).ev;unfold F_ds;exact Qa _
 |cons x l=>
  have:=QgQ l [x] (by simp only[X6,List.length_nil]at*;omega) (by simp);have e:(((x::l).length:Nat):Int)=(([x].length+l.length:Nat):Int):=by simp only[X6,List.length_nil];omega
  rw[e];exact this.ev
def capF:Int->List Penalty->List Penalty
 |_,[]=>[]
 |room,p::r=>{p with Laps:=if room<p.Laps then room else p.Laps}::capF (IntKind.i64.wrap (room-(if room<p.Laps then room else p.Laps))) r
theorem Qi8:∀(room:Int) (l:List Penalty),(capF room l).length=l.length
 |_,[]=>rfl
 |room,p::r=>by rw[capF,X6,Qi8,X6]
theorem Qn3:∀(R P:List Penalty) (a:List Penalty) (room:Int),a.length=P.length+R.length->a.length<=1000->EvI (λn=>F_hi n a) (P++R,room,(P.length:Int)) (P++capF room R)
 |[],P,a,room,hx,hl=>by
  refine Ej ?_;unfold F_hi;have:a.length=P.length:=by simpa using hx
  simp only[this,QaH,Vw,capF];exact Qa _
 |p::R,P,a,room,hx,hl=>by
  simp only[X6]at hx;have b:=Qn3 R (P++[{p with Laps:=if room<p.Laps then room else p.Laps}]) a (IntKind.i64.wrap (room-(if room<p.Laps then room else p.Laps))) (by simp;omega) hl;have e:∀z:Penalty,(P++[z])++R=P++z::R:=λz=>by simp
  rw[e]at b;refine(Ex ?_ b).eq (by rw[capF];simp);unfold F_hi;simp only[QZ (show(P.length:Int)<(a.length:Int)by omega),Vv,QeB,XP,Qhl];have w:IntKind.i64.wrap ((P.length:Int)+1)=((P++[({p with Laps:=if room<p.Laps then room else p.Laps}:Penalty)]).length:Int):=by rw[Yq (by omega)];simp
  rw[w];exact Qa _
mutual
def flP:Part->List Int
 |⟨m,laps,ps⟩=>bif laps==0 then[m]else(List.replicate laps.toNat (flPs ps)).flatten
def flPs:List Part->List Int
 |[]=>[]
 |p::r=>flP p++flPs r
end
theorem QhF(p:Part):flP p=bif p.Laps==0 then[p.Mat]else(List.replicate p.Laps.toNat (flPs p.Parts)).flatten:=by cases p;rfl
theorem QdM(p:Part)(r:List Part):flPs (p::r)=flP p++flPs r:=by rw[flPs]
theorem Qil:∀(k:Nat) (out lap:List Int),(repS k out lap).length<=256->repS k out lap=out++(List.replicate k lap).flatten
 |0,out,lap,_=>by simp[repS]
 |k+1,out,lap,h=>by
  rw[repS]at h⊢;by_cases hb:256<out.length
  .rw[Vz hb]at h;omega
  .rw[Vy hb]at h⊢;rw[Qil k _ _ h,Xl,Vs,Vp]
theorem QkV{a:Int}{p:Part}(h:partS a p=true):p.Laps=0\/(1<=p.Laps/\p.Laps<=64/\partsS a p.Parts=true):=by
 rw[Qc0]at h;cases b:(p.Laps==0)with
 |true=>exact .inl (by simpa using b)
 |false=>
  rw[b]at h;simp only[Vw,X3,inR,Vx]at h;exact .inr ⟨h.1.1,h.1.2,h.2.2.2⟩
theorem QnR(x:Int):∀(m:Nat) (l:List Part) (e:List Int),szPs l<=m->partsS x l=true->(expS e l).length<=256->expS e l=e++flPs l:=by
 intro m
 induction m using Nat.strongRecOn with
 |_ m u=>
 intro l
 induction l with
 |nil=>intro e _ _ _;rw[expS,flPs,Vm]
 |cons p r n=>
  intro e w j i;rw[QaM,List.all_cons,X3, <- QaM]at j;have k:szP p+szPs r<=m:=by rw[szPs]at w;omega
  rw[expS]at i⊢;by_cases g:256<(repS (p.Laps.toNat+(bif decide (0<p.Laps)then 0 else 1)) e (lapS p)).length
  .rw[QfH r g]at i;omega
  .have t:=Qil _ _ _ (Nat.le_of_not_lt g);rw[n _ (by omega) j.2 i,t,QdM,Vp];congr 2;rcases QkV j.1 with s|⟨a,b,d⟩
   .have h:decide (0<p.Laps)=false:=Q7 (by omega);have q:(p.Laps==0)=true:=by simp[s]
    rw[Qbt,QhF,h,q,s];simp
   .have h:decide (0<p.Laps)=true:=QZ (by omega);have q:(p.Laps==0)=false:=beq_false_of_ne (by omega);have f:(lapS p).length<=256:=by
     rw[t,h]at g;simp only[Vv,XB]at g;have:p.Laps.toNat=(p.Laps.toNat-1)+1:=by omega
     rw[this,Xl,Vs]at g;simp only[X8]at g;omega
    rw[Qbt,h,Vv]at f;rw[Jo]at k;have:=u (szPs p.Parts) (by omega) p.Parts [] (XZ _) d f;rw[Qbt,QhF,h,q,Vv,Vv,Vw,XB,this,Vn]
theorem Qpu(G:Int):∀(m:Nat) (l:List Part) (e:List Int),szPs l<=m->partsS G l=true->l.length<=1048576->(∀x∈l,Part.wf x)->e.length+(flPs l).length<=256->Ev (λn=>F_i n l e) (e++flPs l):=by
 intro m
 induction m using Nat.strongRecOn with
 |_ m N=>
 intro l e V F Q H L;rw[QaM,Xv]at F;refine Ji ?_;show Ev (λn=>B_i (F_i n) n l e) _;unfold B_i;have inner:∀(p:Part) (w:List Int),0<=p.Laps->p.Laps<=64->(∀o:List Int,o.length+w.length<=256->Ev (λn=>F_i n p.Parts o) (o++w))->∀(k j:Nat) (o:List Int),j+k=p.Laps.toNat->o.length+(List.replicate k w).flatten.length<=256->
   EvI (λn=>F_eh n (F_i n) p) (o,(j:Int)) (o++(List.replicate k w).flatten):=by
  intro p w E P q k
  induction k with
  |zero=>
   intro j o R _;refine Ej ?_;unfold F_eh;simp only[Q7 (show¬((j:Int)<p.Laps)by omega),Vw,List.replicate_zero,List.flatten_nil,Vm];exact Qa _
  |succ k y=>
   intro j o R g;rw[Xl,Vs]at g⊢;simp only[X8]at g;refine(Ex ?_ (y (j+1) (o++w) (by omega) (by rw[X8];omega))).eq (by rw[Vp]);unfold F_eh;simp only[QZ (show(j:Int)<p.Laps by omega),Vv];refine Ea (q o (by omega)) ?_;rw[Yq (by omega)];exact Qa _
 have loop:∀(r:List Part) (i:Nat) (o:List Int),l.drop i=r->i<=l.length->o.length+(flPs r).length<=256->EvI (λn=>F_hn n l (F_i n)) (o,(i:Int)) (o++flPs r):=by
  intro r
  induction r with
  |nil=>
   intro i o q B _;refine Ej ?_;unfold F_hn;simp only[Yg q B,Vw,flPs,Vm];exact Qa _
  |cons p r u=>
   intro i o q B g;obtain⟨f,z⟩:=QN (by omega) q;have O:=f.lt';rw[QdM,X8]at g;have M:=Qam f.mem;rw[Jo]at M;obtain⟨w1,w2⟩:=YZ (H p f.mem);have T:=F p f.mem;refine(Ex ?_ (u (i+1) (o++flP p) z (by omega) (by rw[X8];omega))).eq (by rw[QdM,Vp]);unfold F_hn;simp only[f.lt,Vv,f.ix,XP,f.nx];rcases QkV T with E|⟨a,b,d⟩
   .have h:(p.Laps==0)=true:=by simp[E]
    have t:flP p=[p.Mat]:=by rw[QhF,h];rfl
    rw[t]at g⊢;refine Ea (v:=o++[p.Mat]) ?_ ?_
    .rw[h];refine Qjs ?_;rw[QbA _ _ (by simp;omega)];exact Qa _
    .refine Ea (v:=o++[p.Mat]) ((Ej ?_).ev) (Qa _);unfold F_eh;simp only[Q7 (show¬((0:Int)<p.Laps)by omega),Vw];exact Qa _
   .have h:(p.Laps==0)=false:=beq_false_of_ne (by omega);have t:flP p=(List.replicate p.Laps.toNat (flPs p.Parts)).flatten:=by rw[QhF,h];rfl
    rw[t]at g⊢;refine Ea (v:=o) ?_ ?_
    .rw[h];exact Qa _
    .refine Ea ((inner p (flPs p.Parts) (by omega) b (λJ s=>N (szPs p.Parts) (by omega) p.Parts J (XZ _) d w1 w2 s) p.Laps.toNat 0 o (by omega) (by omega)).ev) (Qa _)
 exact Ea ((loop l 0 e (by simp) (X0 _) L).ev) (Qa _)
structure Good (c:Course):Prop where
 parts:∀d∈c.Distances,partsS ((c.Mats.length:Int)-1) d.Route=true
 route:∀d∈c.Distances,2<=(expS [] d.Route).length/\(expS [] d.Route).length<=256
 len:∀d∈c.Distances,d.Route.length<=1048576
 wf:∀d∈c.Distances,∀x∈d.Route,Part.wf x
 legs:c.Legs.length<=512
theorem Good.exp{c:Course}(g:Good c){d:Distance}(a:d∈c.Distances):expS [] d.Route=flPs d.Route:=by
 have:=QnR _ _ d.Route [] (XZ _) (g.parts d a) (g.route d a).2
 rwa [Vn]at this
theorem Qee{c:Course}(g:Good c){d:Distance}(a:d∈c.Distances):Ev (λn=>F_cu n d.Route) (flPs d.Route):=by
 unfold F_cu;have h:=(g.route d a).2;rw[g.exp a]at h;refine Ea ((Qpu _ _ d.Route [] (XZ _) (g.parts d a) (g.len d a) (g.wf d a) (by simpa using h)).eq (Vn _)) (Qa _)
theorem Qlb{c:Course}(he:Ev (λn=>F_e n c) 0){i:Nat}{d:Distance}(a:c.Distances[i]?=some d):Ev (λn=>F_cy n c (i:Int)) (d,0):=by
 unfold F_cy;refine Ea he ?_;have b:=(XR.1 a).1;refine Jj (Ea (v:=false) ?_ ?_)
 .rw[Q7 (show¬((i:Int)<0)by omega),Q7 (show¬((c.Distances.length:Int)<=(i:Int))by omega)];exact Qa _
 .simp only[Vw,YD a,XP];exact Qa _
theorem Qla(c:Course)(hl:c.Legs.length<=512):∃m,Ev (λn=>Go.Sw.iter (F_hb n c) n (([]:List (Ua×Leg)),0)) m:=by
 refine⟨_,Q1 c.Legs (λ(m:List (Ua×Leg)) x=>QE m ({from_:=x.From,to_:=x.To:Ua}) x) [] (λm i=>(m,(i:Int))) (λm=>m) (by omega) rfl (λi x m ha _=>?_) ?_⟩
 .unfold F_hb;simp only[ha.lt,Vv,ha.ix,XP,ha.nx];exact Qa _
 .unfold F_hb;simp only[QaH,Vw];exact Qa _
theorem QgR{c:Course}(g:Good c)(he:Ev (λn=>F_e n c) 0){i:Nat}{d:Distance}(e:c.Distances[i]?=some d):Ev (λn=>F_v n c (i:Int) 0) (flPs d.Route,0):=by
 have a:=VN e;have h:=(g.route d a).2;rw[g.exp a]at h;unfold F_v F_ch;obtain⟨m,b⟩:=Qla c g.legs;refine Ea (v:=(0,flPs d.Route)) ?_ (by simp only[bne_self_eq_false,Vw];exact Qa _);refine Ea (v:=U_course_build.c3 (flPs d.Route,m)) ?_ (Qa _);refine Ea (Qlb he e) (Jj (Ea (v:=false) (Qa _) (Jj (Ea (Qee g a) ?_))));have w:IntKind.i64.wrap (256-((flPs d.Route).length:Int))=256-((flPs d.Route).length:Int):=QW (by omega) (by omega);simp only[w,Q7 (show¬(256-((flPs d.Route).length:Int)<0)by omega),Vw];refine Ea (v:=flPs d.Route) (Qa _) (Ea b (Qa _))
theorem QmA{α:Type}{step:Nat->Int->Option (Ctl Int (Ctl Unit Int))}(l:List α)(q:α->Bool)(hl:l.length<=1048576)
  (s:∀i x,At l i x->Ev (λn=>step n (i:Int)) (bif q x then .done (.done (i:Int))else .cont ((i+1:Nat):Int)))(w:Ev (λn=>step n (l.length:Int)) (.done (.cont ()))):
  (∃i x,At l i x/\l.find? q=some x/\Ev (λn=>Go.Sw.iter (step n) n 0) (.done (i:Int)))\/l.find? q=none/\Ev (λn=>Go.Sw.iter (step n) n 0) (.cont ()):=by
 have k:∀(r:List α) (i:Nat),l.drop i=r->i<=l.length->(∃j x,At l j x/\r.find? q=some x/\EvI step (i:Int) (.done (j:Int)))\/r.find? q=none/\EvI step (i:Int) (.cont ()):=by
  intro r
  induction r with
  |nil=>
   intro i f u;have:i=l.length:=by have:=Xs.1 f;omega
   subst this;exact .inr ⟨rfl,Ej w⟩
  |cons x r p=>
   intro i f u;obtain⟨g,m⟩:=QN (by omega) f;have t:=g.lt';have h:=s i x g;rw[List.find?_cons];cases e:q x with
   |true=>rw[e]at h;exact .inl ⟨i,x,g,rfl,Ej h⟩
   |false=>
    rw[e]at h;rcases p (i+1) m (by omega)with⟨j,y,a,b,d⟩|⟨a,b⟩
    .exact .inl ⟨j,y,a,b,Ex h d⟩
    .exact .inr ⟨a,Ex h b⟩
 rcases k l 0 (by simp) (X0 _)with⟨j,x,a,b,d⟩|⟨a,b⟩
 .exact .inl ⟨j,x,a,b,d.ev⟩
 .exact .inr ⟨a,b.ev⟩
theorem Qph{c:Course}(w:CourseOk c)(q:PartsOk c)(h:courseE c=0):Good c:=by
 unfold courseE at h;cases e:fitsS c with
 |false=>rw[e]at h;cases h
 |true=>
  rw[e]at h;cases i:namesS c with
  |false=>rw[i]at h;cases h
  |true=>
   rw[i]at h;cases b:numbersS c with
   |false=>rw[b]at h;cases h
   |true=>
    rw[b]at h;simp only[Vv]at h;have f:c.Distances.all (routeS c)=true:=by
     cases g:(tiesE c.Ties==0)with
     |false=>
      rw[g,Vw]at h;rw[VF]at g;exact absurd h g
     |true=>
      rw[g,Vv]at h;cases f:c.Distances.all (routeS c)with
      |true=>rfl
      |false=>rw[f]at h;cases h
    unfold numbersS at b;simp only[X3]at b;obtain⟨_,_,_,j,_⟩:=b;unfold fitsS at e;simp only[X3,Bool.not_eq_true',Bool.or_eq_false_iff,decide_eq_false_iff_not]at e;rw[Xv]at f j;refine⟨λd a=>?_,λd a=>?_,q.len,q.wf,?_⟩
    .have:=j d a;unfold distS at this;simp only[X3]at this;exact this.2.2.1
    .have:=f d a;unfold routeS routeR at this;simp only[X3,Vx]at this;exact this.1
    .have:=e.1.2.1;omega
theorem Qdx{e:Int}{c:Course}{l:List Fact}{s:Starter}(h:s∈(startF e c l).1):e=0/\ ∃f∈l,okS c f=true/\f.Starter=s:=by
 unfold startF at h;cases a:(e != 0)with
 |true=>rw[a]at h;cases h
 |false=>
  rw[a]at h;simp only[bne_eq_false_iff_eq]at a;cases g:decide (((ordF (firstS c l)).map chipK).Nodup)with
  |false=>rw[g]at h;cases h
  |true=>
   rw[g]at h;simp only[Vw,Vv]at h;obtain⟨f,i,rfl⟩:=Xe.1 h;unfold ordF at i;obtain⟨k,j,rfl⟩:=Xe.1 i;have b:=(Qn _ _).mem_iff.1 j;obtain⟨v,d⟩:=(Qfe _ _).1 b;have:=(QdN c l).ok k v d;refine⟨a,v,this.2.2,this.2.1,?_⟩;rw[QgB,d];rfl
theorem QeS{e:Int}{c:Course}{l:List Fact}{s:Starter}(h:s∈(startF e c l).1):0<=s.Distance/\s.Distance<(c.Distances.length:Int):=by
 obtain⟨_,f,_,a,rfl⟩:=Qdx h;unfold okS at a;simp only[X3,VE,Bool.not_eq_true',decide_eq_false_iff_not]at a;obtain⟨i,g,j,_⟩:=a;obtain⟨_,b,_⟩:=Qal g;unfold contR at b;rw[i]at b;have d:(true&&(nb f.Starter.Bib 1 9999&&(nb f.Starter.Distance 0 7&&(nb f.Starter.Wave 0 31&&(nb f.Starter.Slot (-1099511627776) 1099511627776&&(nb f.Starter.Age 0 120&&(nb f.Starter.Chip 0 1048576&&(nb f.Starter.Team 0 9999&&(nb f.Starter.Lot 0 1048576&&true)))))))))=true:=b;simp only[X3,Qae]at d;have:=d.2.2.1.1;omega
def roomF(c:Course)(s:Starter):Int:=match c.Distances[s.Distance.toNat]? with
 |some d=>bif decide (0<=d.Extra)then 256-((flPs d.Route).length:Int)else 0
 |none=>0
def ofF(e:Int)(c:Course)(l:List Fact)(b:Int):List Penalty:=bif (startF e c l).2 != 0 then[]else match(startF e c l).1.find? λs=>s.Bib==b with
 |none=>[]
 |some s=>capF (roomF c s) (sortB (casesF e c l b).2)
theorem QkR(e:Int)(c:Course)(l:List Fact)(b:Int):(ofF e c l b).length<=l.length:=by
 unfold ofF;cases((startF e c l).2 != 0)with
 |true=>exact X0 _
 |false=>
  simp only[Vw];cases(startF e c l).1.find? λs=>s.Bib==b with
  |none=>exact X0 _
  |some s=>
   simp only;rw[Qi8,Qbd];exact(QfQ e c l b).2
theorem Qp1(e:Int)(c:Course)(l:List Fact)(b:Int)(hl:l.length<=15)(he:Ev (λn=>F_e n c) e)(g:e=0->Good c):Ev (λn=>F_r n c l b) (ofF e c l b):=by
 unfold F_r ofF;refine Ea (Qed e c l (by omega) he) ?_;cases E:((startF e c l).2 != 0)with
 |true=>exact Qa _
 |false=>
  simp only[Vw];have t:=QeT e c l;have k:∀s∈(startF e c l).1,e=0/\0<=s.Distance/\s.Distance<(c.Distances.length:Int):=λs k=>⟨(Qdx k).1,QeS k⟩;generalize(startF e c l).1=S at t k;have w:=QmA (step:=λn=>F_hq n S b) S (λs=>s.Bib==b) (by omega) (λi x f=>by
    unfold F_hq;simp only[f.lt,Vv,f.ix,XP,f.nx];unfold F_fb;simp only[XP];cases(x.Bib==b)<;>exact Qa _) (by
    unfold F_hq;simp only[QaH,Vw];exact Qa _)
  rcases w with⟨i,s,f,p,h⟩|⟨p,h⟩
  .rw[p];simp only;refine Ea (v:=(i:Int)) (by unfold F_cn;exact Ea h (Qa _)) ?_;obtain⟨u,y,z⟩:=k s f.mem;subst u;have m:=g rfl;obtain⟨j,q⟩:∃j:Nat,s.Distance=(j:Int):=⟨s.Distance.toNat,by omega⟩;have a:c.Distances[j]?=some (c.Distances[j]'(by omega)):=XQ (by omega);generalize c.Distances[j]'(by omega)=d at a;have r:=(m.route d (VN a)).2;rw[m.exp (VN a)]at r;have er:roomF c s=bif decide (0<=d.Extra)then 256-((flPs d.Route).length:Int)else 0:=by
    unfold roomF;rw[q,Int.toNat_natCast,a]
   rw[er];simp only[Q7 (show¬((i:Int)<0)by omega),Vw,f.ix,XP,q,YD a];refine Ea (v:=bif decide (0<=d.Extra)then 256-((flPs d.Route).length:Int)else 0) ?_ ?_
   .refine QbI (λ_=>?_) λ_=>Qa _;refine Ea (QgR m he a) ?_;simp only[QW (n:=256-((flPs d.Route).length:Int)) (by omega) (by omega)];exact Qa _
   refine Ea (Qn6 0 c l b (by omega) he) ?_;have B:=(QfQ 0 c l b).2;generalize(bif decide (0<=d.Extra)then 256-((flPs d.Route).length:Int)else 0)=room;refine Ea (ev_by _ (by omega)) (Ea ?_ (Qa _));have:=Qn3 (sortB (casesF 0 c l b).2) [] (sortB (casesF 0 c l b).2) room (by simp) (by rw[Qbd];omega);exact this.ev
  .rw[p];simp only;refine Ea (v:= -1) (by unfold F_cn;exact Ea h (Qa _)) ?_;exact Qa _
theorem Qjw{f:Fact}(h:validS f=true)(k:f.Kind=10):(f.Ruling.Kind=3->1<=f.Ruling.Amount/\f.Ruling.Amount<=1099511627776)/\(f.Ruling.Kind=4->1<=f.Ruling.Amount/\f.Ruling.Amount<=64)/\(f.Ruling.Kind=5->f.Ruling.Amount=0):=by
 obtain⟨_,b,_⟩:=Qal h;unfold contR at b;rw[k]at b;have d:(true&&(nb f.Ruling.Case 1 1048576&&(nb f.Ruling.Instance 1 2&&(nb f.Ruling.Kind 1 5&&(bif (f.Ruling.Kind==1)||(f.Ruling.Kind==2)then nb f.Ruling.Bib 0 0&&(nb f.Ruling.Position 0 0&&(nb f.Ruling.Amount 0 0&&true))else bif f.Ruling.Kind==3 then nb f.Ruling.Bib 1 9999&&(nb f.Ruling.Position 0 255&&(nb f.Ruling.Amount 1 1099511627776&&true))else bif f.Ruling.Kind==4 then nb f.Ruling.Bib 1 9999&&(nb f.Ruling.Position 0 255&&(nb f.Ruling.Amount 1 64&&true))else nb f.Ruling.Bib 1 9999&&(nb f.Ruling.Position 0 255&&(nb f.Ruling.Amount 0 0&&true)))))))=true:=b;simp only[X3]at d;obtain⟨_,_,_,_,a⟩:=d;refine⟨λq=>?_,λq=>?_,λq=>?_⟩
 .rw[q]at a;have:(nb f.Ruling.Bib 1 9999&&(nb f.Ruling.Position 0 255&&(nb f.Ruling.Amount 1 1099511627776&&true)))=true:=a;simp only[X3,Qae]at this;exact this.2.2.1
 .rw[q]at a;have:(nb f.Ruling.Bib 1 9999&&(nb f.Ruling.Position 0 255&&(nb f.Ruling.Amount 1 64&&true)))=true:=a;simp only[X3,Qae]at this;exact this.2.2.1
 .rw[q]at a;have:(nb f.Ruling.Bib 1 9999&&(nb f.Ruling.Position 0 255&&(nb f.Ruling.Amount 0 0&&true)))=true:=a;simp only[X3,Qae]at this;omega
theorem QjV{l:List Fact}{x:KeyT}(d:x∈keysOf l){g:Ruling}(hg:x.2.1=some g):∃f∈l,validS f=true/\f.Kind=10/\f.Ruling=g:=by
 unfold keysOf filesS at d;rw[List.map_map]at d;obtain⟨k,_,rfl⟩:=Xe.1 d;have h:forceF (fileOf (canonS l) k)=some g:=hg;unfold forceF at h;cases q:suspF (fileOf (canonS l) k)with
 |true=>rw[q]at h;cases h
 |false=>
  rw[q,Vw,Option.map_eq_some_iff]at h;obtain⟨f,i,j⟩:=h;have e:=QgL ((VJ.1 (List.mem_of_head? i)).symm);obtain⟨a,b⟩:=((QaO l).2 f).1 e.1;exact⟨f,a,b,e.2.1,j⟩
theorem Qjx{f:Fact}(h:validS f=true)(k:f.Kind=8):0<=f.Report.Position/\f.Report.Position<=255:=by
 obtain⟨_,a,_⟩:=Qal h;unfold contR at a;rw[k]at a;have b:(true&&(nb f.Report.Case 1 1048576&&(nb f.Report.Bib 1 9999&&(nb f.Report.Offence 0 31&&(nb f.Report.Position 0 255&&true)))))=true:=a;simp only[X3,Qae]at b;exact b.2.2.2.2.1
theorem Qjv{f:Fact}(h:validS f=true)(k:f.Kind=10):(f.Ruling.Kind=3->0<=f.Ruling.Position/\f.Ruling.Position<=255)/\(f.Ruling.Kind=4->0<=f.Ruling.Position/\f.Ruling.Position<=255)/\(f.Ruling.Kind=5->0<=f.Ruling.Position/\f.Ruling.Position<=255):=by
 obtain⟨_,a,_⟩:=Qal h;unfold contR at a;rw[k]at a;refine⟨λq=>?_,λq=>?_,λq=>?_⟩
 .rw[q]at a;have:(true&&(nb f.Ruling.Case 1 1048576&&(nb f.Ruling.Instance 1 2&&(nb 3 1 5&&(nb f.Ruling.Bib 1 9999&&(nb f.Ruling.Position 0 255&&(nb f.Ruling.Amount 1 1099511627776&&true)))))))=true:=a;simp only[X3,Qae]at this;exact this.2.2.2.2.2.1
 .rw[q]at a;have:(true&&(nb f.Ruling.Case 1 1048576&&(nb f.Ruling.Instance 1 2&&(nb 4 1 5&&(nb f.Ruling.Bib 1 9999&&(nb f.Ruling.Position 0 255&&(nb f.Ruling.Amount 1 64&&true)))))))=true:=a;simp only[X3,Qae]at this;exact this.2.2.2.2.2.1
 .rw[q]at a;have:(true&&(nb f.Ruling.Case 1 1048576&&(nb f.Ruling.Instance 1 2&&(nb 5 1 5&&(nb f.Ruling.Bib 1 9999&&(nb f.Ruling.Position 0 255&&(nb f.Ruling.Amount 0 0&&true)))))))=true:=a;simp only[X3,Qae]at this;exact this.2.2.2.2.2.1
theorem Qm1{l:List Fact}{x:KeyT}(d:x∈keysOf l){r:Report}(g:x.2.2.head? =some r):∃f∈l,validS f=true/\f.Kind=8/\f.Report=r:=by
 unfold keysOf filesS at d;rw[List.map_map]at d;obtain⟨k,_,rfl⟩:=Xe.1 d;have h:(((canonS l).filter (repB k)).map (·.Report)).head? =some r:=g;obtain⟨f,j,rfl⟩:=Xe.1 (List.mem_of_head? h);obtain⟨i,e⟩:=Xd.1 j;obtain⟨a,b⟩:=((QaO l).2 f).1 i;unfold repB at e;simp only[X3,VE]at e;exact⟨f,a,b,e.1,rfl⟩
theorem Qnm{c:Course}(h:courseE c=0){o:Offence}(g:o∈c.Offences):0<=o.Laps/\o.Laps<=64:=by
 unfold courseE at h;cases f:fitsS c with
 |false=>rw[f]at h;cases h
 |true=>
  rw[f]at h;cases b:namesS c with
  |false=>rw[b]at h;cases h
  |true=>
   rw[b]at h;cases a:numbersS c with
   |false=>rw[a]at h;cases h
   |true=>
    unfold numbersS at a;simp only[X3]at a;have:=Xv.1 a.2.2.2.2.2.1 o g;unfold offS at this;cases e:o.Out with
    |true=>
     rw[e]at this;simp only[Vv,X3,VE]at this;omega
    |false=>
     rw[e]at this;simp only[Vw]at this;cases d:(o.Laps != 0)with
     |true=>
      rw[d]at this;simp only[Vv,X3,inR,Vx]at this;omega
     |false=>
      simp only[bne_eq_false_iff_eq]at d;omega
def okPen(p:Penalty):Prop:=0<=p.Laps/\p.Laps<=64/\0<=p.Position/\p.Position<=255
theorem QmH{c:Course}{l:List Fact}{x:KeyT}(i:x∈keysOf l)(he:courseE c=0){y:Ud}(h:viaR c x.1 x.2.2.head? =some y):okPen y.penalty:=by
 cases b:x.2.2.head? with
 |none=>rw[b]at h;cases h
 |some r=>
  obtain⟨f,_,e,g,rfl⟩:=Qm1 i b;rw[b]at h;simp only[viaR]at h;cases q:(decide (f.Report.Offence<0)||decide ((c.Offences.length:Int)<=f.Report.Offence))with
  |true=>rw[q]at h;cases h
  |false=>
   rw[q,Vw,Option.map_eq_some_iff]at h;obtain⟨o,a,rfl⟩:=h;have j:o∈c.Offences:=by
    unfold idx at a;cases d:decide (0<=f.Report.Offence)with
    |false=>rw[d]at a;cases a
    |true=>rw[d]at a;exact VN a
   have:=Qnm he j;have:=Qjx e g;unfold okPen;simp only;omega
theorem QnD{c:Course}{l:List Fact}{x:KeyT}(d:x∈keysOf l)(he:courseE c=0){y:Ud}(h:givenK c x=some y):okPen y.penalty:=by
 unfold givenK at h;cases i:x.2.1 with
 |none=>rw[i]at h;exact QmH d he h
 |some g=>
  rw[i]at h;simp only at h;obtain⟨f,_,j,k,rfl⟩:=QjV d i;obtain⟨u,r,t⟩:=Qjw j k;obtain⟨s,n,p⟩:=Qjv j k;cases q:(f.Ruling.Kind==5)||((f.Ruling.Kind==4)||(f.Ruling.Kind==3))with
  |false=>
   rw[q,Vw]at h;cases m:(f.Ruling.Kind==2)with
   |true=>rw[m]at h;cases h
   |false=>rw[m]at h;exact QmH d he h
  |true=>
   rw[q,Vv]at h;unfold rulP at h;by_cases e:f.Ruling.Kind=5
   .have:=p e;rw[e]at h;cases h;unfold okPen;simp only;omega
   .by_cases a:f.Ruling.Kind=4
    .have:=n a;have:=r a;rw[a]at h;cases h;unfold okPen;simp only;omega
    .by_cases b:f.Ruling.Kind=3
     .have:=s b;rw[b]at h;cases h;unfold okPen;simp only;omega
     .simp[e,a,b]at q
theorem Qon(c:Course)(l:List Fact)(b:Int):∀p∈(casesF (courseE c) c l b).2,okPen p:=by
 intro p a;unfold casesF at a;cases d:(courseE c != 0)with
 |true=>rw[d]at a;cases a
 |false=>
  rw[d]at a;simp only[bne_eq_false_iff_eq]at d;obtain⟨y,g,rfl⟩:=Xe.1 a;obtain⟨f,_⟩:=Xd.1 g;obtain⟨x,e,h⟩:=List.mem_filterMap.1 f;exact QnD e d h
theorem QcI(x:Penalty):∀r:List Penalty,(insBP x r).Perm (x::r)
 |[]=>List.Perm.refl _
 |y::r=>by
  rw[insBP];cases decide (x.Position<y.Position)with
  |true=>exact((QcI x r).cons y).trans (List.Perm.swap x y r)
  |false=>exact List.Perm.refl _
theorem Qfp(x:Penalty):∀{r:List Penalty},r.Pairwise (λa b=>b.Position<=a.Position)->(insBP x r).Pairwise (λa b=>b.Position<=a.Position)
 |[],_=>List.pairwise_singleton _ _
 |y::r,h=>by
  rw[Xc]at h;rw[insBP];cases q:decide (x.Position<y.Position)with
  |true=>
   simp only[Vx]at q;refine Xc.2 ⟨λz hz=>?_,Qfp x h.2⟩;rcases Vc.1 ((QcI x r).mem_iff.1 hz)with rfl|hz
   .omega
   .exact h.1 z hz
  |false=>
   simp only[decide_eq_false_iff_not]at q;refine Xc.2 ⟨λz hz=>?_,Xc.2 h⟩;rcases Vc.1 hz with rfl|hz
   .omega
   .have:=h.1 z hz;omega
theorem QmS(l:List Penalty):(sortB l).Perm l/\(sortB l).Pairwise (λa b=>a.Position<=b.Position):=by
 have d:∀(r P:List Penalty),P.Pairwise (λa b=>a.Position<=b.Position)->(r.foldl putB P).Perm (P++r)/\(r.foldl putB P).Pairwise (λa b=>a.Position<=b.Position):=by
  intro r
  induction r with
  |nil=>intro P h;exact⟨by simp,h⟩
  |cons x r e=>
   intro P h;rw[XJ];have i:(putB P x).Pairwise (λa b=>a.Position<=b.Position):=by
    unfold putB;rw[List.pairwise_reverse];exact Qfp x (List.pairwise_reverse.2 h)
   obtain⟨g,f⟩:=e _ i;refine⟨g.trans ?_,f⟩;have:(putB P x).Perm (P++[x]):=by
    unfold putB;refine(List.reverse_perm _).trans ((QcI x _).trans ?_);exact((List.reverse_perm P).cons x).trans (List.perm_append_singleton x P).symm
   exact(this.append_right r).trans (by rw[Vp];exact List.Perm.refl _)
 have:=d l [] List.Pairwise.nil;rw[Vn]at this;exact this
def lapsS(x:List Penalty):Int:=(x.map (·.Laps)).foldr (· + ·) 0
theorem Qag(p:Penalty)(r:List Penalty):lapsS (p::r)=p.Laps+lapsS r:=rfl
theorem Qlh:∀(r:List Penalty) (room:Int),0<=room->room<=256->(∀p∈r,okPen p)->(∀p∈capF room r,okPen p)/\0<=lapsS (capF room r)/\lapsS (capF room r)<=room/\(capF room r).map (·.Position)=r.map (·.Position)
 |[],room,h0,h1,_=>⟨λp hp=>(by cases hp),Int.le_refl _,h0,rfl⟩
 |p::r,room,h0,h1,h=>by
  have hp:=h p (Va ..);unfold okPen at hp;rw[capF];have hw:IntKind.i64.wrap (room-(if room<p.Laps then room else p.Laps))=room-(if room<p.Laps then room else p.Laps):=QW (by split<;>omega) (by split<;>omega);rw[hw];obtain⟨i1,i2,i3,i4⟩:=Qlh r (room-(if room<p.Laps then room else p.Laps)) (by split<;>omega) (by split<;>omega) λy hy=>h y (Vb _ hy);refine⟨λy hy=>?_,?_,?_,?_⟩
  .rcases Vc.1 hy with rfl|hy
   .unfold okPen;simp only;split<;>omega
   .exact i1 y hy
  .rw[Qag];simp only;split at i2<;>split<;>omega
  .rw[Qag];simp only;split at i3<;>split<;>omega
  .rw[Vq,Vq,i4]
theorem Qgk:∀(x:List Penalty),(∀p∈x,okPen p)->∀(s:Int×Int×Bool),0<=s.2.1->s.2.1+lapsS x<=1000000->(∀q,q∈x->0<=lapsS x)->(x.foldl (untS 256) s).2.1=s.2.1+lapsS x
 |[],_,s,_,_,_=>by simp[lapsS]
 |p::r,h,s,h0,h1,_=>by
  have hp:=h p (Va ..);unfold okPen at hp;have hr:0<=lapsS r:=by
   have f:∀(x:List Penalty),(∀p∈x,okPen p)->0<=lapsS x:=by
    intro x
    induction x with
    |nil=>intro _;exact Int.le_refl _
    |cons y x i=>
     intro g;have a:=g y (Va ..);have b:=i λz d=>g z (Vb _ d);unfold okPen at a;rw[Qag];omega
   exact f r λz d=>h z (Vb _ d)
  rw[Qag]at h1;rw[XJ,Qag];have e:untS 256 s p=(IntKind.i64.wrap (s.1+p.Time),s.2.1+p.Laps,s.2.2||p.Out):=by
   unfold untS;rw[QZ (by omega),Vv,QW (n:=s.2.1+p.Laps) (by omega) (by omega)]
  rw[e,Qgk r (λz d=>h z (Vb _ d)) _ (by simp only;omega) (by simp only;omega) (λ_ _=>hr)];simp only;omega
set_option maxRecDepth 10000
theorem Qo2:∀j:Fin 257,(decide (0<(IntKind.u64.wrap ((IntKind.u64.wrap ((IntKind.u64.wrap ((Q3 .u64 (IntKind.u64.wrap ([(0:Int)].length:Int)) 32)*(Q3 .u64 (IntKind.u64.wrap ((j:Nat):Int)) 32)))+(Q3 .u64 (IntKind.u64.wrap ((IntKind.u64.wrap ((Q3 .u64 (IntKind.u64.wrap ([(0:Int)].length:Int)) 32)*(Yy .u64 (IntKind.u64.wrap ((j:Nat):Int)) 4294967295)))+(Q3 .u64 (IntKind.u64.wrap ((Yy .u64 (IntKind.u64.wrap ([(0:Int)].length:Int)) 4294967295)*(Yy .u64 (IntKind.u64.wrap ((j:Nat):Int)) 4294967295))) 32))) 32)))+(Q3 .u64 (IntKind.u64.wrap ((Yy .u64 (IntKind.u64.wrap ((IntKind.u64.wrap ((Q3 .u64 (IntKind.u64.wrap ([(0:Int)].length:Int)) 32)*(Yy .u64 (IntKind.u64.wrap ((j:Nat):Int)) 4294967295)))+(Q3 .u64 (IntKind.u64.wrap ((Yy .u64 (IntKind.u64.wrap ([(0:Int)].length:Int)) 4294967295)*(Yy .u64 (IntKind.u64.wrap ((j:Nat):Int)) 4294967295))) 32))) 4294967295)+(IntKind.u64.wrap ((Yy .u64 (IntKind.u64.wrap ([(0:Int)].length:Int)) 4294967295)*(Q3 .u64 (IntKind.u64.wrap ((j:Nat):Int)) 32))))) 32)))))=false:=by decide+kernel
theorem QmZ:∀j:Fin 257,(decide (9223372036854775807<(IntKind.u64.wrap ((IntKind.u64.wrap ([(0:Int)].length:Int))*(IntKind.u64.wrap ((j:Nat):Int))))))=false:=by decide+kernel
theorem Qo3:∀j:Fin 257,(IntKind.i64.wrap (IntKind.u64.wrap ((IntKind.u64.wrap ([(0:Int)].length:Int))*(IntKind.u64.wrap ((j:Nat):Int)))))=((j:Nat):Int):=by decide+kernel
theorem Qm0(x:Int)(K:Nat)(l:K<=256):∀(m j:Nat),1<=j->j<=K->K-j<=m->EvI (λn=>F_do n) (List.replicate j x++List.replicate (K-j) 0,(j:Int)) (List.replicate K x):=by
 intro m
 induction m with
 |zero=>
  intro j i k f;obtain rfl:j=K:=by omega
  refine Ej ?_;unfold F_do;rw[Nat.sub_self,List.replicate_zero,Vm];simp only[List.length_replicate,Q7 (show¬((j:Int)<(j:Int))by omega),Vw];exact Qa _
 |succ m e=>
  intro j i k f;by_cases h:j=K
  .subst h;refine Ej ?_;unfold F_do;rw[Nat.sub_self,List.replicate_zero,Vm];simp only[List.length_replicate,Q7 (show¬((j:Int)<(j:Int))by omega),Vw];exact Qa _
  .have b:(List.replicate j x++List.replicate (K-j) (0:Int)).length=K:=by simp;omega
   refine Ex ?_ (e (j+min j (K-j)) (by omega) (by omega) (by omega));unfold F_do;simp only;generalize hL:List.replicate j x++List.replicate (K-j) (0:Int)=L at b;have a:L.take j=List.replicate j x:=by rw[<- hL,List.take_left' (by simp)]
   have g:L.drop j=List.replicate (K-j) 0:=by rw[<- hL,List.drop_left' (by simp)]
   rw[QZ (by omega),Vv,Qib L (by omega),XP,QmT L (by omega),XP];unfold cpy;simp only[XP,Int.toNat_natCast,b,a];have d:L.take j++(List.replicate j x).take (K-j)++L.drop (j+min (List.replicate j x).length (K-j))=List.replicate (j+min j (K-j)) x++List.replicate (K-(j+min j (K-j))) 0:=by
    rw[<- List.drop_drop,a,g,List.length_replicate,List.take_replicate,List.drop_replicate,List.replicate_append_replicate];rw[Nat.min_comm (K-j) j,Nat.sub_sub]
   rw[a]at d;rw[d];have w:IntKind.i64.wrap ((j:Int)+((min (List.replicate j x).length (K-j):Nat):Int))=((j+min j (K-j):Nat):Int):=by
    rw[List.length_replicate,QW (by omega) (by omega)];omega
   rw[w];exact Qa _
theorem Ev.bf{α:Type}{c:Bool}{f g:Nat->Option α}{v:α}(h:c=false)(q:Ev g v):Ev (λn=>bif c then f n else g n) v:=by subst h;exact q
theorem QlW(x:Int)(k:Nat)(h0:1<=k)(a:k<=256):Ev (λn=>F_bo n [x] (k:Int)) (List.replicate k x):=by
 have b:=Qo2 ⟨k,by omega⟩;have d:=QmZ ⟨k,by omega⟩;have f:=Qo3 ⟨k,by omega⟩;unfold F_bo;refine Ea (v:=()) (by rw[Q7 (show¬((k:Int)<0)by omega)];exact Qa _) (Ea (v:=()) (Qa _) (Ea (v:=false) ?_ (Ea (v:=()) (Qa _) ?_)))
 .exact Ev.bf b (EA (congrArg some d))
 .refine Ea (v:=List.replicate k 0) (EA ((congrArg (λz=>mk z (0:Int)) f).trans ?_)) ?_
  .show mk (k:Int) 0=_;unfold mk;rw[QZ (by omega),QZ (by omega)];rfl
  .refine Ea (v:=List.replicate 1 x++List.replicate (k-1) 0) (EA ?_) ?_
   .unfold cpy;simp only[List.length_replicate,Int.toNat_natCast,List.length_singleton];obtain⟨m,rfl⟩:∃m,k=m+1:=⟨k-1,by omega⟩;simp
   .have e:((min [x].length (List.replicate k (0:Int)).length:Nat):Int)=((1:Nat):Int):=by simp;omega
    rw[e];exact Ea ((Qm0 x k a k 1 (XZ _) h0 (by omega)).ev) (Qa _)
theorem Qj7(d:Distance)(e:Int)(l:List Int)(hl:l.length<=256):∀(m:Nat) (s:Int),s.toNat<=m-> -1<=s->s<(l.length:Int)->∃b:Int,-1<=b/\b<(l.length:Int)/\EvI (λn=>F_cl n (d,e) l) s b:=by
 intro m
 induction m with
 |zero=>
  intro s p a f;refine⟨s,a,f,Ej ?_⟩;unfold F_cl;rw[Q7 (by omega)];exact Qa _
 |succ m k=>
  intro s p a f;by_cases g:0<s
  .obtain⟨j,rfl⟩:∃j:Nat,s=(j:Int):=⟨s.toNat,by omega⟩;have i:l[j]?=some (l[j]'(by omega)):=XQ (by omega);cases h:(l[j]'(by omega) != d.Extra)with
   |true=>
    obtain⟨b,r,t,q⟩:=k ((j:Int)-1) (by omega) (by omega) (by omega);refine⟨b,r,t,Ex ?_ q⟩;unfold F_cl;rw[QZ g,Vv,YD i,XP,h,XP,Vv,QW (n:=(j:Int)-1) (by omega) (by omega)];exact Qa _
   |false=>
    refine⟨(j:Int),a,f,Ej ?_⟩;unfold F_cl;rw[QZ g,Vv,YD i,XP,h,XP,Vw];exact Qa _
  .refine⟨s,a,f,Ej ?_⟩;unfold F_cl;rw[Q7 g];exact Qa _
theorem QlS{c:Course}(g:Good c)(he:Ev (λn=>F_e n c) 0){i:Nat}{d:Distance}(f:c.Distances[i]?=some d)(k:Nat)(s:((flPs d.Route).length:Int)+k<=256)(l:0<k->0<=d.Extra):
  ∃r,Ev (λn=>F_v n c (i:Int) (k:Int)) (r,0):=by
 by_cases j:k=0
 .subst j;exact⟨_,QgR g he f⟩
 have a:=VN f;have h:=(g.route d a).2;rw[g.exp a]at h;obtain⟨m,e⟩:=Qla c g.legs;obtain⟨b,t,u,p⟩:=Qj7 d 0 (flPs d.Route) h 256 (((flPs d.Route).length:Int)-1) (by omega) (by omega) (by omega);have w:IntKind.i64.wrap (256-((flPs d.Route).length:Int))=256-((flPs d.Route).length:Int):=QW (by omega) (by omega);have q:QlL (flPs d.Route) (b+1) (List.replicate k d.Extra)=some ((flPs d.Route).take (b+1).toNat++List.replicate k d.Extra++(flPs d.Route).drop (b+1).toNat):=by
  unfold QlL;rw[QZ (show 0<=b+1 by omega),QZ (show b+1<=((flPs d.Route).length:Int)by omega),List.length_replicate,show Nat.blt 0 k=true from by simp;omega,XY (show(flPs d.Route).length+k<=Qt by unfold Qt;omega)];rfl
 refine⟨(flPs d.Route).take (b+1).toNat++List.replicate k d.Extra++(flPs d.Route).drop (b+1).toNat,?_⟩;unfold F_v F_ch;refine Ea (v:=(0,(flPs d.Route).take (b+1).toNat++List.replicate k d.Extra++(flPs d.Route).drop (b+1).toNat)) ?_ (by simp only[bne_self_eq_false,Vw];exact Qa _);refine Ea (v:=U_course_build.c3 ((flPs d.Route).take (b+1).toNat++List.replicate k d.Extra++(flPs d.Route).drop (b+1).toNat,m)) ?_ (Qa _);refine Ea (Qlb he f) (Jj (Ea (v:=false) ?_ (Jj (Ea (Qee g a) ?_))))
 .simp only[Q7 (show¬((k:Int)<0)by omega),QZ (show(0:Int)<(k:Int)by omega),Vv,Vw,Q7 (show¬(d.Extra<0)by have:=l (by omega);omega)];exact Qa _
 .simp only[w,Q7 (show¬(256-((flPs d.Route).length:Int)<(k:Int))by omega),Vw,QZ (show(0:Int)<(k:Int)by omega),Vv];refine Ea (Ea (v:=b) ?_ (Ea (QlW d.Extra k (by omega) (by omega)) (Ea (EA ?_) (Qa _)))) (Ea e (Qa _))
  .rw[QW (n:=((flPs d.Route).length:Int)-1) (by omega) (by omega)];exact p.ev
  .rw[QW (n:=b+1) (by omega) (by omega)];exact q
end Go.Sw
