/- The plain laws that a law needs, with no program in sight. -/
import Derived.Test.YtckiejaapddafaaGreatDoorW22Po
set_option linter.unusedVariables false
set_option linter.unusedSimpArgs false
namespace Go.Sw
def inR(lo hi x:Int):Bool:=decide (lo<=x)&&decide (x<=hi)
theorem Qgv(lo hi:Int)(l:List Int)(hl:l.length<=4611686018427387904):Ev (λn=>F_a n lo hi l) (l.all (inR lo hi)):=by
 have h:Ev (λn=>F_az n l lo hi) (l.any λx=> !inR lo hi x):=by
  unfold F_az F_fa;refine Ev.contains l _ (λn x=>F_ar n x lo hi) hl λx _=>?_;unfold F_ar;refine Ea (v:= !inR lo hi x) ?_ (Qa _);refine(Eu λh=>Qa _).eq ?_;unfold inR;rw[X3];simp
 unfold F_a;refine Ea h ((Qa _).eq ?_);rw[List.not_any_eq_all_not];simp
def okN(c:Nat):Bool:=(decide (97<=c)&&decide (c<=122))||(decide (48<=c)&&decide (c<=57))||decide (c=95)
def okAN(c:Nat):Bool:=decide (97<=c)&&decide (c<=122)
def okC(c:UInt8):Bool:=okN c.toNat
def okA(c:UInt8):Bool:=okAN c.toNat
def kwL:List (List UInt8):=[[99,111,117,114,115,101],[109,97,116,115],[115,116,97,114,116],[112,97,115,115],[101,110,100],[108,101,103],[116,111],[100,105,115,116,97,110,99,101],[103,117,110],[99,104,105,112],[115,108,111,116],[108,97,112,115],[108,97,112],[99,117,116,111,102,102],[101,120,116,114,97],[119,97,118,101],[111,102,102,101,110,99,101],[111,117,116],[99,97,116,101,103,111,114,121],[112,114,105,122,101],[97,108,108],[116,105,101,115],[105,102],[101,108,115,101],[97,110,100],[111,114],[110,111,116],[111,108,100,101,114],[121,111,117,110,103,101,114],[98,105,98],[100,114,97,119],[102,105,101,108,100],[115,104,111,114,116],[102,97,117,108,116,115],[109,105,115,115,101,115],[115,116,114,97,121,115],[119,105,110,100,111,119],[114,101,115,105,100,117,97,108],[100,114,105,102,116],[112,114,111,116,101,115,116],[102,101,101],[100,101,97,100,108,105,110,101]]
theorem Qny(c d:Bool):(bif c then some c else some d)=some (c||d):=by cases c<;>rfl
def kwsOf:List UInt8->List (List UInt8)
 |[]=>[]
 |b::l=>(bif b==32&& !(l.dropWhile λc=>c != 32).isEmpty then[l.takeWhile λc=>c != 32]else[])++kwsOf l
theorem QdZ:∀(l s:List UInt8),(∀c∈s,c≠32)->(s++[32]).isPrefixOf l=((l.takeWhile λc=>c != 32)==s&& !(l.dropWhile λc=>c != 32).isEmpty)
 |[],s,h=>by cases s<;>simp
 |b::l,[],h=>by
  by_cases e:b=32
  .subst e;simp[List.isPrefixOf]
  .have e1:(b != 32)=true:=by simpa using e
   have a:(32==b)=false:=by simpa using λq=>e q.symm
   simp[List.isPrefixOf,List.takeWhile_cons,e1,a]
 |b::l,c::s,h=>by
  have f:=h c (by simp);have g:=QdZ l s λd j=>h d (by simp[j]);by_cases e:b=32
  .subst e;have:(c==32)=false:=by simpa using f
   simp[List.isPrefixOf,this]
  .have e1:(b != 32)=true:=by simpa using e
   simp only[VO,List.isPrefixOf,List.takeWhile_cons,List.dropWhile_cons,e1,if_true,g,List.cons_beq_cons];by_cases q:c=b
   .subst q;simp
   .have k:(c==b)=false:=by simpa using q
    have i:(b==c)=false:=by simpa using λz=>q z.symm
    simp[k,i]
theorem contains_cons(b:UInt8)(l t:List UInt8)(d:t≠[]):Lib.contains (b::l) t=(t.isPrefixOf (b::l)||Lib.contains l t):=by
 unfold Lib.contains;rw[show Lib.index (b::l) t=if t.isPrefixOf (b::l)then 0 else if Lib.index l t== -1 then-1 else Lib.index l t+1 from rfl];cases h:t.isPrefixOf (b::l)with
 |true=>simp
 |false=>
  have:=Lib.index_ge l t;by_cases q:Lib.index l t= -1
  .simp[q]
  .have a:(Lib.index l t== -1)=false:=by simpa using q
   simp only[a,Bool.false_or];rw[X3];simp;omega
theorem Qb0(s:List UInt8)(h:∀c∈s,c≠32):∀l,Lib.contains l (32::(s++[32]))=(kwsOf l).contains s
 |[]=>by simp[Lib.contains,Lib.index,kwsOf]
 |b::l=>by
  rw[contains_cons b l _ (by simp),Qb0 s h l];simp only[kwsOf,List.isPrefixOf,QdZ l s h];by_cases e:b=32
  .subst e;cases q: !(l.dropWhile λc=>c != 32).isEmpty with
   |true=>
    simp only[q,beq_self_eq_true,VE,Bool.and_true,Vt,VO,Vl,List.contains_cons];congr 1;rw[X3];simp only[VC];exact⟨λh=>h.symm,λh=>h.symm⟩
   |false=>simp[q]
  .have e1:(b==32)=false:=by simpa using e
   have a:(32==b)=false:=by simpa using λq=>e q.symm
   simp[e1,a]
def wordsL:List UInt8:=[32,99,111,117,114,115,101,32,109,97,116,115,32,115,116,97,114,116,32,112,97,115,115,32,101,110,100,32,108,101,103,32,116,111,32,100,105,115,116,97,110,99,101,32,103,117,110,32,99,104,105,112,32,115,108,111,116,32,108,97,112,115,32,108,97,112,32,99,117,116,111,102,102,32,101,120,116,114,97,32,119,97,118,101,32,111,102,102,101,110,99,101,32,111,117,116,32,99,97,116,101,103,111,114,121,32,112,114,105,122,101,32,97,108,108,32,116,105,101,115,32,105,102,32,101,108,115,101,32,97,110,100,32,111,114,32,110,111,116,32,111,108,100,101,114,32,121,111,117,110,103,101,114,32,98,105,98,32,100,114,97,119,32,102,105,101,108,100,32,115,104,111,114,116,32,102,97,117,108,116,115,32,109,105,115,115,101,115,32,115,116,114,97,121,115,32,119,105,110,100,111,119,32,114,101,115,105,100,117,97,108,32,100,114,105,102,116,32,112,114,111,116,101,115,116,32,102,101,101,32,100,101,97,100,108,105,110,101,32]
theorem QpS:kwsOf wordsL=kwL:=by decide+kernel
def classTab:List Int:=(List.range 256).map λi=>if 97<=i/\i<=122\/65<=i/\i<=90 then 2 else if 48<=i/\i<=57 then 3 else if i∈[123,125,40,41,91,93,59,44,61,60,62]then 4 else if i∈[32,9,10,13]then 1 else 0
theorem QjH:Ev F_bp classTab:=by
 unfold F_bp;refine Ea (Qch (step:=F_dr 0) 40 (b:=(iter (F_dr 0) 40 (List.replicate 256 0,97)).getD []) (by decide+kernel)) ?_;refine Ea (Qch (step:=F_go 0) 40 (b:=(iter (F_go 0) 40 ((iter (F_dr 0) 40 (List.replicate 256 0,97)).getD [],48)).getD []) (by decide+kernel)) ?_;generalize hb:(iter (F_go 0) 40 ((iter (F_dr 0) 40 (List.replicate 256 0,97)).getD [],48)).getD []=b2;refine Ea (Qch (step:=F_ho 0) 40 (b:=(iter (F_ho 0) 40 (b2,0)).getD []) (by subst hb;decide+kernel)) ?_;refine Ea (Qch (step:=F_ia 0) 40 (b:=classTab) (by subst hb;decide+kernel)) ?_;exact Ez (by decide+kernel)
theorem Qlv:((List.range 256).all λi=> !okN i||decide (classTab[i]?=some (if okAN i then 2 else if i=95 then 0 else 3)))=true:=by decide+kernel
theorem Qnw{c:UInt8}(h:okC c=true):Qek 256 classTab (c.toNat:Int)=some (if okA c then 2 else if c.toNat=95 then 0 else 3):=by
 have a:=Xu.1 Qlv c.toNat (List.mem_range.2 c.toNat_lt);unfold okC at h;rw[h]at a;simp only[Xh,Bool.false_or,Vv]at a;unfold Qek;rw[show Nat.beq classTab.length 256=true by decide+kernel,Vt,YT a];rfl
def goodS(s:List UInt8):Bool:=decide (1<=s.length)&&decide (s.length<=24)&&(s.head?).any okA&&s.all okC
def isNameS(s:List UInt8):Bool:=goodS s&& !kwL.contains s
theorem Qll(s:List UInt8)(h:goodS s=true):Ev (λn=>F_bf n s) true:=by
 unfold goodS at h;simp only[X0,Vv,Xu]at h;obtain⟨⟨⟨b,k⟩,f⟩,g⟩:=h;unfold F_bf;refine Ea QjH ?_;refine QaU (v:=List.replicate 256 0) (by decide+kernel) ?_;refine QaU (v:=classTab) (by decide+kernel) ?_;refine Ea (v:=Ctl.cont ()) (Ev.iter (λi=>(i:Int)) s.length rfl (λi j=>?_) ?_) ?_
 .have a:=JG (x:=s[i]) (by omega) (XO j);have e:=g _ a.mem;unfold F_hs;simp only[a.lt,Vt,a.ix,XN,Qnw e,a.nx];cases i with
  |zero=>
   have:okA s[0]=true:=by
    cases s with
    |nil=>simp at b
    |cons c r=>simpa using f
   simp[this];exact Qa _
  |succ i=>
   by_cases q:okA s[i+1]=true
   .simp[q];exact Qa _
   .by_cases d:s[i+1].toNat=95
    .simp[q,d];exact Qa _
    .simp[q,d];exact Qa _
 .unfold F_hs;simp only[Qbi,Vu];exact Qa _
 .refine Ez ?_;cases s with
  |nil=>simp at b
  |cons c r=>rfl
theorem Qlf{s:List UInt8}(h:goodS s=true):∀c∈s,c≠32:=by
 unfold goodS at h;simp only[X0,Xu]at h;rintro c a rfl;exact absurd (h.2 _ a) (by decide)
theorem QmV{s:List UInt8}(h:goodS s=true):s.length<=24:=by
 unfold goodS at h;simp only[X0,Vv]at h;exact h.1.1.2
theorem QjJ(s:List UInt8)(h:goodS s=true):Ev (λn=>F_ax n s) (kwL.contains s):=by
 unfold F_ax;refine Ea (v:=kwL.contains s) ?_ (Qa _);refine Ea (Qll s h) (QkW ?_);have a:=QmV h;refine QaU (v:=[32]++s) (by unfold cat;rw[XW (by simp;omega)];rfl) ?_;refine QaU (v:=[32]++s++[32]) (by unfold cat;rw[XW (by simp;omega)];rfl) ?_;refine QaU (v:=kwL.contains s) ?_ (Qa _);show Qfc wordsL ([32]++s++[32])=some (kwL.contains s);unfold Qfc;rw[show Nat.blt wordsL.length 4294967281=true by decide+kernel,Vt];rw[show[32]++s++[32]=32::(s++[32])by simp,Qb0 s (Qlf h),QpS]
theorem ch_lt(c:UInt8)(k:Nat):decide ((c.toNat:Int)<(k:Int))=decide (c.toNat<k):=by
 rw[X3];simp
theorem badC(c:UInt8):(bif decide ((c.toNat:Int)<97)then(bif decide ((c.toNat:Int)<48)then some ((c.toNat:Int) != 95)else(bif decide (57<(c.toNat:Int))then some ((c.toNat:Int) != 95)else some false))else(bif decide (122<(c.toNat:Int))then(bif decide ((c.toNat:Int)<48)then some ((c.toNat:Int) != 95)else(bif decide (57<(c.toNat:Int))then some ((c.toNat:Int) != 95)else some false))else some false))=some (!okC c):=by
 unfold okC okN;generalize c.toNat=k;have e:((k:Int) != 95)= !decide (k=95):=by
  by_cases h:k=95
  .subst h;rfl
  .rw[VB h];simp;omega
 rw[e];by_cases g:k<48
 .rw[Ys (show(k:Int)<97 by omega),Ys (show(k:Int)<48 by omega)];have a:¬97<=k:=by omega
  have f:¬48<=k:=by omega
  simp[a,f]
 .rw[YK (show¬(k:Int)<48 by omega)];by_cases b:k<=57
  .rw[Ys (show(k:Int)<97 by omega),YK (show¬57<(k:Int)by omega)];have a:48<=k:=by omega
   simp[a,b]
  .rw[Ys (show 57<(k:Int)by omega)];by_cases i:k<97
   .rw[Ys (show(k:Int)<97 by omega)];have a:¬97<=k:=by omega
    simp[a,b]
   .rw[YK (show¬(k:Int)<97 by omega)];by_cases d:k<=122
    .rw[YK (show¬122<(k:Int)by omega)];have a:97<=k:=by omega
     simp[a,d]
    .rw[Ys (show 122<(k:Int)by omega)];simp[b,d]
theorem Qk7(n:Nat)(s:List UInt8):(bif decide ((s.length:Int)<1)then some true else(bif decide (24<(s.length:Int))then some true else(idx s 0).bind λx10=>(bif decide ((x10.toNat:Int)<97)then some true else(idx s 0).bind λx12=>some (decide (122<(x12.toNat:Int))))))=some (!(decide (1<=s.length)&&decide (s.length<=24)&&(s.head?).any okA)):=by
 cases s with
 |nil=>rfl
 |cons c r=>
  rw[YK (show¬((c::r).length:Int)<1 by simp;omega),Vu];by_cases h:(c::r).length<=24
  .rw[YK (show¬24<((c::r).length:Int)by omega),Vu];have e:idx (c::r) 0=some c:=rfl;simp only[e,XN];simp only[X5]at h;have a:r.length<=23:=by omega
   simp only[List.head?_cons,Option.any_some,okA,okAN];rw[show(97:Int)=((97:Nat):Int)from rfl,ch_lt];by_cases b:c.toNat<97
   .have:¬97<=c.toNat:=by omega
    simp[b,this]
   .have d:97<=c.toNat:=by omega
    simp[b,d,a];by_cases q:c.toNat<=122
    .rw[YK (show¬122<(c.toNat:Int)by omega),Ys q];rfl
    .rw[Ys (show 122<(c.toNat:Int)by omega),YK q];rfl
  .rw[Ys (show 24<((c::r).length:Int)by omega),Vt];simp only[X5]at h;have a:¬r.length<=23:=by omega
   simp[a]
theorem Qgy(s:List UInt8)(hl:s.length<=1048576):Ev (λn=>F_c n s) (isNameS s):=by
 unfold F_c;refine Ea (Ez (Qk7 0 s)) ?_;unfold isNameS;cases d:(decide (1<=s.length)&&decide (s.length<=24)&&(s.head?).any okA)with
 |false=>
  simp only[Xi,Vt];have:goodS s=false:=by unfold goodS;rw[d];rfl
  rw[this];exact Qa _
 |true=>
  simp only[Xh,Vu];have f:goodS s=s.all okC:=by unfold goodS;rw[d];rfl
  refine Ea (Qa3 s (λc=> !okC c) (λi=>(i:Int)) (Ctl.done false) (Ctl.cont ()) (by omega) rfl (λi x a b=>?_) (λi x a b=>?_) ?_) ?_
  .unfold F_gt;simp only[a.lt,Vt,a.ix,XN,badC,b,Vu,a.nx];exact Qa _
  .unfold F_gt;simp only[a.lt,Vt,a.ix,XN,badC,b];exact Qa _
  .unfold F_gt;simp only[Qbi,Vu];exact Qa _
  .rw[f];have e:s.any (λc=> !okC c)= !s.all okC:=by rw[List.not_all_eq_any_not]
   rw[e];cases q:s.all okC with
   |true=>
    simp only[Xh,Vu,VE];exact Ea (QjJ s (f.trans q)) (Qa _)
   |false=>
    simp only[Xi,Vt,Bool.false_and];exact Qa _
def diffS:List (List UInt8)->List (List UInt8)->Bool
 |_,[]=>true
 |seen,x::r=>isNameS x&& !seen.contains x&&diffS (seen++[x]) r
theorem QjK(l:List (List UInt8))(i:Nat)(x:List UInt8)(h:At l i x):diffS (l.take i) (l.drop i)=(isNameS x&& !(l.take i).contains x&&diffS (l.take (i+1)) (l.drop (i+1))):=by
 rw[h.drop,h.take];rfl
theorem QbY{α:Type}(l:List α)(a:α->List UInt8)(g:Nat->α->Option Unit)(hg:∀n x,g n x=some ())(hl:l.length<=1048576)(p:∀x∈l,(a x).length<=1048576):
  Ev (λn=>((iter (λs:(List (List UInt8×Bool))×Int=>bif decide (s.2<(l.length:Int))then(idx l s.2).bind λx35=>(g n x35).bind λr36=>((F_c n (a x35)).bind λr42=>(bif (!r42)then some true else(some (QV s.1 (a x35) false)).bind λv44=>some v44):Option Bool).bind λb40=>(bif b40 then some (.done (.done false))else(some (QH s.1 (a x35) true)).bind λm46=>some (.cont (m46,IntKind.i64.wrap (s.2+1))))else some (.done (.cont ()))) n ([],0):Option (Ctl Unit Bool)).bind λb28=>
   match b28 with
   |.cont _=>some true
   |.done s=>some s:Option Bool)) (diffS [] (l.map a)):=by
 have e:l.length<=4611686018427387904:=by omega
 have k:(l.map a).length<=4611686018427387904:=by simpa using e
 have j:=QhH (B:=Ctl Unit Bool) l (step:=λn s=>bif decide (s.2<(l.length:Int))then(idx l s.2).bind λx35=>(g n x35).bind λr36=>((F_c n (a x35)).bind λr42=>(bif (!r42)then some true else(some (QV s.1 (a x35) false)).bind λv44=>some v44):Option Bool).bind λb40=>(bif b40 then some (.done (.done false))else(some (QH s.1 (a x35) true)).bind λm46=>some (.cont (m46,IntKind.i64.wrap (s.2+1))))else some (.done (.cont ())))
  (s0:=(([]:List (List UInt8×Bool)),(0:Int))) (λi=>(Ym a true (l.take i),(i:Int))) (λi=>bif diffS ((l.map a).take i) ((l.map a).drop i)then .cont ()else .done false) e rfl (λi x d=>?_) ?_
 .refine Ea j ?_;simp only[List.take_zero,List.drop_zero];cases diffS [] (l.map a)<;>exact Qa _
 .have f:At (l.map a) i (a x):=JG k (by rw[Xq,d.get];rfl);simp only[QjK _ _ _ f];have b:Ev (λn=>((F_c n (a x)).bind λr42=>(bif (!r42)then some true else(some (QV (Ym a true (l.take i)) (a x) false)).bind λv44=>some v44):Option Bool)) (!(isNameS (a x)&& !((l.map a).take i).contains (a x))):=by
   refine Ea (Qgy (a x) (p x d.mem)) ?_;cases isNameS (a x)with
   |false=>exact Qa _
   |true=>
    refine Qax ((Qa _).eq ?_);rw[Qd1,List.map_take];by_cases h:a x∈(l.map a).take i
    .rw[Vx h];simp[h]
    .rw[Vw h];simp[h]
  cases m:(isNameS (a x)&& !((l.map a).take i).contains (a x))with
  |true=>
   rw[m]at b;refine .inl ⟨?_,by simp⟩;simp only[d.lt,Vt,d.ix,XN,hg];refine Ea b ?_;simp only[Xh,Vu,XN,d.nx];rw[d.take,Qha];exact Qa _
  |false=>
   rw[m]at b;refine .inr ?_;simp only[d.lt,Vt,d.ix,XN,hg];refine Ea b ?_;simp only[Xi,Vt,Bool.false_and,Vu];exact Qa _
 .simp only[Qbi,Vu];rw[show(l.map a).drop l.length=[]by apply List.drop_eq_nil_of_le;simp];exact Qa _
theorem Qqa{α:Type}{l:List α}{x:α}(h:l.length<=140737488):app l [x]=some (l++[x]):=Qbz l x (by omega)
theorem Qgz{α β:Type}(l:List α)(f:α->β)(hl:l.length<=140737488):Ev (λn=>iter (λs:(List β)×Int=>bif decide (s.2<(l.length:Int))then(idx l s.2).bind λx15=>(app s.1 [f x15]).bind λl16=>some (Ctl.cont (l16,IntKind.i64.wrap (s.2+1)))else some (Ctl.done s.1)) n (([]:List β),(0:Int))) (l.map f):=by
 have e:∀l:List α,l.foldl (λ(a:List β) x=>a++[f x]) []=l.map f:=by
  intro l;have g:∀(l:List α) (a:List β),l.foldl (λ(a:List β) x=>a++[f x]) a=a++l.map f:=by
   intro l
   induction l with
   |nil=>intro a;simp
   |cons x l h=>intro a;rw[XH,h];simp
  simpa using g l []
 rw[<- e l];refine Yt l (λ(a:List β) x=>a++[f x]) [] (λa i=>(a,(i:Int))) (λa=>a) (by omega) rfl (λi x a d b=>?_) ?_
 .rw[e]at b;have:a.length<=140737488:=by rw[b];simp;omega
  simp only[d.lt,Vt,d.ix,XN,Qqa this,d.nx];exact Qa _
 .simp only[Qbi,Vu];exact Qa _
def namesS(c:Course):Bool:=isNameS c.Name&&(diffS [] (c.Mats.map (·.Name))&&(diffS [] (c.Distances.map (·.Name))&&(diffS [] (c.Waves.map (·.Name))&&(diffS [] (c.Offences.map (·.Name))&&diffS [] (c.Categories.map (·.Name))))))
structure CourseOk (c:Course):Prop where
 name:c.Name.length<=1048576
 mats:c.Mats.length<=1048576
 matsN:∀x∈c.Mats,x.Name.length<=1048576
 legs:c.Legs.length<=1048576
 dist:c.Distances.length<=1048576
 distN:∀x∈c.Distances,x.Name.length<=1048576
 cut:∀x∈c.Distances,x.Cutoffs.length<=1048576
 wave:c.Waves.length<=1048576
 waveN:∀x∈c.Waves,x.Name.length<=1048576
 off:c.Offences.length<=1048576
 offN:∀x∈c.Offences,x.Name.length<=1048576
 cat:c.Categories.length<=1048576
 catN:∀x∈c.Categories,x.Name.length<=1048576
 prize:c.Prizes.length<=1048576
theorem Qna(c:Course)(w:CourseOk c):Ev (λn=>F_bk n c) (namesS c):=by
 unfold F_bk namesS;refine Ea (v:=_) ?_ (Qa _);refine Ea (Qgy c.Name w.name) (Ei λ_=>?_);have b:Ev (λn=>F_ct n c.Mats) (diffS [] (c.Mats.map (·.Name))):=by unfold F_ct;exact QbY c.Mats (·.Name) F_ee (λ_ _=>rfl) w.mats w.matsN
 have e:Ev (λn=>F_cm n c.Distances) (diffS [] (c.Distances.map (·.Name))):=by unfold F_cm;exact QbY c.Distances (·.Name) F_ew (λ_ _=>rfl) w.dist w.distN
 have d:Ev (λn=>F_bx n c.Waves) (diffS [] (c.Waves.map (·.Name))):=by unfold F_bx;exact QbY c.Waves (·.Name) F_eh (λ_ _=>rfl) w.wave w.waveN
 have f:Ev (λn=>F_bc n c.Offences) (diffS [] (c.Offences.map (·.Name))):=by unfold F_bc;exact QbY c.Offences (·.Name) F_ef (λ_ _=>rfl) w.off w.offN
 have a:Ev (λn=>F_ba n c.Categories) (diffS [] (c.Categories.map (·.Name))):=by unfold F_ba;exact QbY c.Categories (·.Name) F_ez (λ_ _=>rfl) w.cat w.catN
 refine Ea b (Ei λ_=>?_);refine Ea e (Ei λ_=>?_);refine Ea d (Ei λ_=>?_);refine Ea f (Ei λ_=>?_);exact Ea a (Qa _)
theorem QcL{n:Nat}(h:n<=1048576):IntKind.i64.wrap ((n:Int)-1)=(n:Int)-1:=Yw (by omega) (by omega)
mutual
def szP:Part->Nat
 |⟨_,_,ps⟩=>1+szPs ps
def szPs:List Part->Nat
 |[]=>0
 |p::r=>szP p+szPs r
end
theorem Qad(p:Part):szP p=1+szPs p.Parts:=by cases p;rfl
theorem QaJ{p:Part}:∀{l:List Part},p∈l->szP p<=szPs l
 |q::r,h=>by
  simp only[szPs];rcases Va.1 h with rfl|h
  .omega
  .have:=QaJ h;omega
mutual
def partS(k:Int):Part->Bool
 |⟨m,laps,ps⟩=>bif laps==0 then inR 0 k m&&((ps.length:Int)==0)else inR 1 64 laps&&((m==0)&&(decide (0<(ps.length:Int))&&partsS k ps))
def partsS(k:Int):List Part->Bool
 |[]=>true
 |p::r=>partS k p&&partsS k r
end
theorem QeW(k:Int)(p:Part):partS k p=bif p.Laps==0 then inR 0 k p.Mat&&((p.Parts.length:Int)==0)else inR 1 64 p.Laps&&((p.Mat==0)&&(decide (0<(p.Parts.length:Int))&&partsS k p.Parts)):=by cases p;rfl
theorem Qdv(k:Int):∀l:List Part,partsS k l=l.all (partS k)
 |[]=>rfl
 |p::r=>by simp only[partsS,List.all_cons,Qdv k r]
theorem Jg{p:Part}(h:Part.wf p):p.Parts.length<=1048576/\ ∀x∈p.Parts,Part.wf x:=by
 cases p;simp only[Part.wf,Qdh]at h;exact h.2.2.1
theorem QK(lo hi x:Int):Ev (λn=>F_a n lo hi [x]) (inR lo hi x):=(Qgv lo hi [x] (by simp)).eq (by simp)
theorem QaN(lo hi x y:Int):Ev (λn=>F_a n lo hi [x,y]) (inR lo hi x&&inR lo hi y):=(Qgv lo hi [x,y] (by simp)).eq (by simp)
theorem Qm9(k:Int):∀(m:Nat) (l:List Part),szPs l<=m->l.length<=1048576->(∀x∈l,Part.wf x)->Ev (λn=>F_e n l k) (partsS k l):=by
 intro m
 induction m with
 |zero=>
  intro l d g a;cases l with
  |nil=>
   refine Jj ?_;show Ev (λn=>B_e (F_e n) n [] k) _;unfold B_e F_bi F_au;exact Jk [] (partS k) (λn x=>F_an (F_e n) n x k) (by simp) (by simp)
  |cons p r=>
   exfalso;simp only[szPs,Qad]at d;omega
 |succ m f=>
  intro l d g a;refine Jj ?_;show Ev (λn=>B_e (F_e n) n l k) _;unfold B_e F_bi F_au;rw[Qdv];refine Jk l (partS k) (λn x=>F_an (F_e n) n x k) (by omega) λp b=>?_;unfold F_an;rw[QeW];have e:=QaJ b;rw[Qad]at e;obtain⟨w1,w2⟩:=Jg (a p b);refine Qb4 (λ_=>?_) (λ_=>?_)
  .exact Ea (Ea (QK _ _ _) (Ei λ_=>Qa _)) (Qa _)
  .exact Ea (Ea (QK _ _ _) (Ei λ_=>Ei λ_=>Ei λ_=>Ea (f p.Parts (by omega) w1 w2) (Qa _))) (Qa _)
def legS(k:Int)(l:Leg):Bool:=(inR 0 k l.From&&inR 0 k l.To)&&((inR 0 68719476736 l.Min&&inR 0 68719476736 l.Max)&&decide (l.Min<=l.Max))
def cutS(k:Int)(x:Cutoff):Bool:=inR 0 k x.Mat&&(decide (1<=x.Lap)&&inR 0 1099511627776 x.Limit)
def distS(k:Int)(d:Distance):Bool:=inR 1 3 d.Timing&&(inR (-1) k d.Extra&&(partsS k d.Route&&d.Cutoffs.all (cutS k)))
def offS(o:Offence):Bool:=bif o.Out then(o.Time==0)&&(o.Laps==0)else bif o.Laps != 0 then(o.Time==0)&&inR 1 64 o.Laps else inR 0 68719476736 o.Time
def catS(x:Category):Bool:=(inR 0 120 x.From&&inR 0 120 x.To)&&decide (x.From<=x.To)
def prizeS(c:Course)(p:Prize):Bool:=inR 0 ((c.Distances.length:Int)-1) p.Distance&&(inR (-1) ((c.Categories.length:Int)-1) p.Category&&(inR 1 4000 p.Rank&&inR 1 1125899906842624 p.Amount))
def lastS(c:Course):Bool:=(inR 0 16 c.Faults.Misses&&inR 0 16 c.Faults.Strays)&&((inR 0 4294967296 c.Faults.Window&&inR 0 4294967296 c.Faults.Residual)&&(inR 0 100000 c.Faults.Drift&&(inR 0 1125899906842624 c.Fee&&inR 0 1099511627776 c.Deadline)))
def legKey(l:Leg):Uh:={from_:=l.From,to_:=l.To}
def prizeKey(p:Prize):Uj:={distance:=p.Distance,category:=p.Category,rank:=p.Rank}
def numbersS(c:Course):Bool:=
 let k:=(c.Mats.length:Int)-1
 c.Mats.all (λm=>inR 1 3 m.Kind)&&(c.Legs.all (legS k)&&(decide ((c.Legs.map legKey).Nodup)&&(c.Distances.all (distS k)&&(c.Waves.all (λw=>inR 0 1099511627776 w.Gun)&&(c.Offences.all offS&&(c.Categories.all catS&&(c.Prizes.all (prizeS c)&&(decide ((c.Prizes.map prizeKey).Nodup)&&lastS c))))))))
structure PartsOk (c:Course):Prop where
 len:∀d∈c.Distances,d.Route.length<=1048576
 wf:∀d∈c.Distances,∀x∈d.Route,Part.wf x
theorem Qhr(l:List Leg)(hl:l.length<=1048576):Ev (λn=>F_ch n l) (decide ((l.map legKey).Nodup)):=by
 unfold F_ch;refine Ea (QbH l legKey true (by omega) (λi x m a=>?_) (λm=>?_)) ((Qa _).eq ?_)
 .unfold F_hp F_fh;simp only[a.lt,Vt,a.ix,XN,a.nx];exact Qa _
 .unfold F_hp;simp only[Qbi,Vu];exact Qa _
 .rw[X3];simp only[VC,Vv];have:=Qcl legKey true l;rw[<- this.2];omega
theorem Qfu(l:List Prize)(hl:l.length<=1048576):Ev (λn=>F_bt n l) (decide ((l.map prizeKey).Nodup)):=by
 unfold F_bt;refine Ea (QbH l prizeKey true (by omega) (λi x m a=>?_) (λm=>?_)) ((Qa _).eq ?_)
 .unfold F_hw F_fo;simp only[a.lt,Vt,a.ix,XN,a.nx];exact Qa _
 .unfold F_hw;simp only[Qbi,Vu];exact Qa _
 .rw[X3];simp only[VC,Vv];have:=Qcl prizeKey true l;rw[<- this.2];omega
theorem QjE(c:Course)(w:CourseOk c)(q:PartsOk c):Ev (λn=>F_be n c) (numbersS c):=by
 unfold F_be numbersS;rw[QcL w.mats];refine Ea (v:=_) ?_ (Qa _);have d:Ev (λn=>F_ck n c.Mats) (c.Mats.all λm=>inR 1 3 m.Kind):=by
  unfold F_ck F_eu F_fm;refine Jk c.Mats _ (λn x=>F_cr n x) (by have:=w.mats;omega) λx a=>?_;unfold F_cr;exact Ea (QK _ _ _) (Qa _)
 have g:Ev (λn=>F_bv n c.Legs ((c.Mats.length:Int)-1)) (c.Legs.all (legS ((c.Mats.length:Int)-1))):=by
  unfold F_bv F_da F_ey;refine Jk c.Legs _ (λn x=>F_av n x _) (by have:=w.legs;omega) λx a=>?_;unfold F_av;exact Ea (Ea (QaN _ _ _ _) (Ei λ_=>Ea (QaN _ _ _ _) (Ei λ_=>Qa _))) (Qa _)
 have i:Ev (λn=>F_cx n c.Distances ((c.Mats.length:Int)-1)) (c.Distances.all (distS ((c.Mats.length:Int)-1))):=by
  unfold F_cx F_dt F_ek;refine Jk c.Distances _ (λn x=>F_bh n x _) (by have:=w.dist;omega) λx a=>?_;unfold F_bh;have f:Ev (λn=>F_as n x.Cutoffs ((c.Mats.length:Int)-1)) (x.Cutoffs.all (cutS ((c.Mats.length:Int)-1))):=by
   unfold F_as F_dg F_de;refine Jk x.Cutoffs _ (λn x=>F_bm n x _) (by have:=w.cut x a;omega) λy k=>?_;unfold F_bm;exact Ea (Ea (QK _ _ _) (Ei λ_=>Ei λ_=>Ea (QK _ _ _) (Qa _))) (Qa _)
  exact Ea (Ea (QK _ _ _) (Ei λ_=>Ea (QK _ _ _) (Ei λ_=>Ea (Qm9 _ _ x.Route (XX _) (q.len x a) (q.wf x a)) (Ei λ_=>Ea f (Qa _))))) (Qa _)
 have b:Ev (λn=>F_cq n c.Waves) (c.Waves.all λw=>inR 0 1099511627776 w.Gun):=by
  unfold F_cq F_em F_fv;refine Jk c.Waves _ (λn x=>F_cg n x) (by have:=w.wave;omega) λx a=>?_;unfold F_cg;exact Ea (QK _ _ _) (Qa _)
 have j:Ev (λn=>F_bl n c.Offences) (c.Offences.all offS):=by
  unfold F_bl F_dq F_fq;refine Jk c.Offences _ (λn x=>F_cb n x) (by have:=w.off;omega) λx a=>?_;unfold F_cb offS;refine Qb4 (λ_=>Ea (Ei λ_=>Qa _) (Qa _)) λ_=>Qb4 (λ_=>Ea (Ei λ_=>Ea (QK _ _ _) (Qa _)) (Qa _)) λ_=>Ea (QK _ _ _) (Qa _)
 have h:Ev (λn=>F_by n c.Categories) (c.Categories.all catS):=by
  unfold F_by F_df F_dh;refine Jk c.Categories _ (λn x=>F_cl n x) (by have:=w.cat;omega) λx a=>?_;unfold F_cl;exact Ea (Ea (QaN _ _ _ _) (Ei λ_=>Qa _)) (Qa _)
 have e:Ev (λn=>F_aw n c.Prizes c) (c.Prizes.all (prizeS c)):=by
  unfold F_aw F_eb F_dw;refine Jk c.Prizes _ (λn x=>F_bb n x c) (by have:=w.prize;omega) λx a=>?_;unfold F_bb;rw[QcL w.dist,QcL w.cat];exact Ea (Ea (QK _ _ _) (Ei λ_=>Ea (QK _ _ _) (Ei λ_=>Ea (QK _ _ _) (Ei λ_=>Ea (QK _ _ _) (Qa _))))) (Qa _)
 refine Ea d (Ei λ_=>Ea g (Ei λ_=>Ea (Qhr _ w.legs) (Ei λ_=>Ea i (Ei λ_=>Ea b (Ei λ_=>Ea j (Ei λ_=>Ea h (Ei λ_=>Ea e (Ei λ_=>Ea (Qfu _ w.prize) (Ei λ_=>?_)))))))));exact Ea (QaN _ _ _ _) (Ei λ_=>Ea (QaN _ _ _ _) (Ei λ_=>Ea (QK _ _ _) (Ei λ_=>Ea (QK _ _ _) (Ei λ_=>Ea (QK _ _ _) (Qa _)))))
theorem ends_eq{a b a' d:Int}:(({from_:=a,to_:=b}:Uh)={from_:=a',to_:=d})↔a=a'/\b=d:=by simp
theorem Ql1{α B:Type}{step:Nat->Int->Option (Ctl Int B)}(l:List α)(ok:α->Bool)(a b:B)(hl:l.length<=4611686018427387904)
  (g:∀i x,At l i x->Ev (λn=>step n (i:Int)) (bif ok x then .cont ((i+1:Nat):Int)else .done a))(j:Ev (λn=>step n (l.length:Int)) (.done b)):
  Ev (λn=>Go.Sw.iter (step n) n 0) (bif l.all ok then b else a):=by
 have e:(bif l.all ok then b else a)=bif l.any (λx=> !ok x)then a else b:=by
  rw[<- List.not_all_eq_any_not];cases l.all ok<;>rfl
 rw[e];refine Qa3 l (λx=> !ok x) (λi=>(i:Int)) a b hl rfl (λi x d f=>?_) (λi x d f=>?_) j
 .have h:ok x=true:=by simpa using f
  have:=g i x d
  rwa [h]at this
 .have h:ok x=false:=by simpa using f
  have:=g i x d
  rwa [h]at this
mutual
def cN:Cond->Nat
 |⟨_,_,_,ps⟩=>1+cNs ps
def cNs:List Cond->Nat
 |[]=>0
 |c::r=>cN c+cNs r
end
theorem Qc8(c:Cond):cN c=1+cNs c.Parts:=by cases c;rfl
mutual
def cD:Nat->Cond->Bool
 |d,⟨_,_,_,ps⟩=>cDs d ps
def cDs:Nat->List Cond->Bool
 |_,[]=>true
 |d,c::r=>decide (d<=16)&&(cD (d+1) c&&cDs d r)
end
theorem Qnx(d:Nat)(c:Cond):cD d c=cDs d c.Parts:=by cases c;rfl
def zeroC(c:Cond):Bool:=(c.Kind==0)&&((c.Var==0)&&((c.N==0)&&((c.Parts.length:Int)==0)))
mutual
def sNp:Step->Nat
 |⟨_,_,_,t,e⟩=>1+sNs t+sNs e
def sNs:List Step->Nat
 |[]=>0
 |s::r=>sNp s+sNs r
end
theorem Qgc(s:Step):sNp s=1+sNs s.Then+sNs s.Else:=by cases s;rfl
mutual
def sC:Step->Nat
 |⟨_,_,c,t,e⟩=>(bif zeroC c then 0 else cN c)+sCs t+sCs e
def sCs:List Step->Nat
 |[]=>0
 |s::r=>sC s+sCs r
end
theorem Qgd(s:Step):sC s=(bif zeroC s.Cond then 0 else cN s.Cond)+sCs s.Then+sCs s.Else:=by cases s;rfl
mutual
def sDp:Nat->Step->Bool
 |d,⟨_,_,c,t,e⟩=>(zeroC c||cD 1 c)&&(sDs d t&&sDs d e)
def sDs:Nat->List Step->Bool
 |_,[]=>true
 |d,s::r=>decide (d<=16)&&(sDp (d+1) s&&sDs d r)
end
theorem Qkm(d:Nat)(s:Step):sDp d s=((zeroC s.Cond||cD 1 s.Cond)&&(sDs d s.Then&&sDs d s.Else)):=by cases s;rfl
mutual
def sZ:Step->Nat
 |⟨_,_,c,t,e⟩=>2+cN c+sZs t+sZs e
def sZs:List Step->Nat
 |[]=>0
 |s::r=>sZ s+sZs r
end
theorem QhW(s:Step):sZ s=2+cN s.Cond+sZs s.Then+sZs s.Else:=by cases s;rfl
def fS:Ui->Nat
 |.ctyping_step x=>sNp x.Step
 |.ctyping_cond _=>0
def fC:Ui->Nat
 |.ctyping_step x=>sC x.Step
 |.ctyping_cond x=>cN x.Cond
def fD(d:Nat):Ui->Bool
 |.ctyping_step x=>sDp d x.Step
 |.ctyping_cond x=>cD d x.Cond
def fZ:Ui->Nat
 |.ctyping_step x=>sZ x.Step
 |.ctyping_cond x=>cN x.Cond
def fSs(l:List Ui):Nat:=(l.map fS).sum
def fCs(l:List Ui):Nat:=(l.map fC).sum
def fZs(l:List Ui):Nat:=(l.map fZ).sum
def fwf:Ui->Prop
 |.ctyping_step x=>Step.wf x.Step
 |.ctyping_cond x=>Cond.wf x.Cond
def ofStep(s:Step):Ui:=.ctyping_step {Step:=s}
def ofCond(c:Cond):Ui:=.ctyping_cond {Cond:=c}
theorem Qbg:∀l:List Step,fSs (l.map ofStep)=sNs l
 |[]=>rfl
 |s::r=>by
  have:=Qbg r;simp only[fSs,Vn,List.sum_cons]at this⊢;rw[this];rfl
theorem Qbh:∀l:List Step,fCs (l.map ofStep)=sCs l
 |[]=>rfl
 |s::r=>by
  have:=Qbh r;simp only[fCs,Vn,List.sum_cons]at this⊢;rw[this];rfl
theorem QbX:∀l:List Step,fZs (l.map ofStep)=sZs l
 |[]=>rfl
 |s::r=>by
  have:=QbX r;simp only[fZs,Vn,List.sum_cons]at this⊢;rw[this];rfl
theorem Qfq:∀l:List Cond,fSs (l.map ofCond)=0
 |[]=>rfl
 |s::r=>by
  have:=Qfq r;simp only[fSs,Vn,List.sum_cons]at this⊢;rw[this];rfl
theorem Qfs:∀l:List Cond,fCs (l.map ofCond)=cNs l
 |[]=>rfl
 |s::r=>by
  have:=Qfs r;simp only[fCs,Vn,List.sum_cons]at this⊢;rw[this];rfl
theorem Qfo:∀l:List Cond,fZs (l.map ofCond)=cNs l
 |[]=>rfl
 |s::r=>by
  have:=Qfo r;simp only[fZs,Vn,List.sum_cons]at this⊢;rw[this];rfl
theorem Qc2(d:Nat):∀l:List Step,sDs d l=((l.map ofStep).isEmpty||(decide (d<=16)&&(l.map ofStep).all (fD (d+1))))
 |[]=>rfl
 |s::r=>by
  rw[sDs,Qc2 d r];simp only[Vn,List.isEmpty_cons,Bool.false_or,List.all_cons];rw[show fD (d+1) (ofStep s)=sDp (d+1) s from rfl];cases r with
  |nil=>simp
  |cons x r=>
   simp only[Vn,List.isEmpty_cons,Bool.false_or,List.all_cons];cases decide (d<=16)<;>simp
theorem Qiw(d:Nat):∀l:List Cond,cDs d l=((l.map ofCond).isEmpty||(decide (d<=16)&&(l.map ofCond).all (fD (d+1))))
 |[]=>rfl
 |s::r=>by
  rw[cDs,Qiw d r];simp only[Vn,List.isEmpty_cons,Bool.false_or,List.all_cons];rw[show fD (d+1) (ofCond s)=cD (d+1) s from rfl];cases r with
  |nil=>simp
  |cons x r=>
   simp only[Vn,List.isEmpty_cons,Bool.false_or,List.all_cons];cases decide (d<=16)<;>simp
theorem Qal{c:Cond}(h:Cond.wf c):c.Parts.length<=1048576/\ ∀x∈c.Parts,Cond.wf x:=by
 cases c;simp only[Cond.wf,Qdk]at h;exact h.2.2.2.1
theorem Qak{s:Step}(h:Step.wf s):Cond.wf s.Cond/\(s.Then.length<=1048576/\ ∀x∈s.Then,Step.wf x)/\(s.Else.length<=1048576/\ ∀x∈s.Else,Step.wf x):=by
 cases s;simp only[Step.wf,Qdb]at h;exact⟨h.2.2.1,h.2.2.2.1,h.2.2.2.2.1⟩
theorem Qgx(n:Nat)(c:Cond):F_u n {Cond:=c}=some (zeroC c):=by
 unfold F_u zeroC;cases(c.Kind==0)<;>cases(c.Var==0)<;>cases(c.N==0)<;>rfl
theorem QjD(n:Nat)(c:Cond):F_at n c=some (zeroC c):=by
 unfold F_at zeroC;cases(c.Kind==0)<;>cases(c.Var==0)<;>cases(c.N==0)<;>rfl
theorem Qft(l:List Step)(hl:l.length<=140737488):Ev (λn=>F_y n l) (l.map ofStep):=by
 unfold F_y;exact Ea (Qgz l ofStep hl) (Qa _)
theorem Qng(l:List Cond)(hl:l.length<=140737488):Ev (λn=>F_bs n l) (l.map ofCond):=by
 unfold F_bs;exact Ea (Qgz l ofCond hl) (Qa _)
def stepParts(s:Step):List Ui:=s.Then.map ofStep++s.Else.map ofStep
theorem Qbv(s:Step)(h:Step.wf s):Ev (λn=>F_s n {Step:=s}) (stepParts s):=by
 obtain⟨_,⟨a,_⟩,⟨b,_⟩⟩:=Qak h;unfold F_s stepParts;refine Ea (Qft s.Then (by omega)) (Ea (Qft s.Else (by omega)) (QaU (QiR _ _ (by simp;omega)) (Qa _)))
theorem Qc3(c:Cond)(h:Cond.wf c):Ev (λn=>F_o n {Cond:=c}) (c.Parts.map ofCond):=by
 obtain⟨a,_⟩:=Qal h;unfold F_o;exact Ea (Qng c.Parts (by omega)) (Qa _)
def okL(l:List Ui)(d:Nat)(st co:Int):Bool:=l.isEmpty||(decide (d<=16)&&(l.all (fD (d+1))&&(decide (st+fSs l<=64)&&decide (co+fCs l<=256))))
def okR(l:List Ui)(d:Nat)(st co:Int):Bool:=l.isEmpty||(l.all (fD (d+1))&&(decide (st+fSs l<=64)&&decide (co+fCs l<=256)))
def okF(f:Ui)(d:Nat)(st co:Int):Bool:=fD (d+1) f&&(decide (st+fS f<=64)&&decide (co+fC f<=256))
theorem Qiv(f:Ui)(l:List Ui):fSs (f::l)=fS f+fSs l:=rfl
theorem Qix(f:Ui)(l:List Ui):fCs (f::l)=fC f+fCs l:=rfl
theorem Qiu(f:Ui)(l:List Ui):fZs (f::l)=fZ f+fZs l:=rfl
theorem Qfp(l m:List Ui):fSs (l++m)=fSs l+fSs m:=by simp[fSs]
theorem Qfr(l m:List Ui):fCs (l++m)=fCs l+fCs m:=by simp[fCs]
theorem Qfn(l m:List Ui):fZs (l++m)=fZs l+fZs m:=by simp[fZs]
theorem QmF(f:Ui)(r:List Ui)(d:Nat)(e b:Int):okR (f::r) d e b=(okF f d e b&&okR r d (e+fS f) (b+fC f)):=by
 unfold okR okF;rw[Qiv,Qix];cases r with
 |nil=>simp[fSs,fCs]
 |cons g r=>
  rw[X3];simp only[List.isEmpty_cons,Bool.false_or,List.all_cons,X0,Vv];rw[show((fS f+fSs (g::r):Nat):Int)=(fS f:Int)+(fSs (g::r):Int)by omega,show((fC f+fCs (g::r):Nat):Int)=(fC f:Int)+(fCs (g::r):Int)by omega];constructor
  .rintro⟨⟨a,h⟩,j,i⟩;exact⟨⟨a,by omega,by omega⟩,h,by omega,by omega⟩
  .rintro⟨⟨a,_,_⟩,h,j,i⟩;exact⟨⟨a,h⟩,by omega,by omega⟩
theorem Qg7(l:List Ui)(d:Nat)(h g:Int)(i:h<=64)(j:g<=256):okL l d h g=true↔(l.isEmpty||(decide (d<=16)&&l.all (fD (d+1))))=true/\h+fSs l<=64/\g+fCs l<=256:=by
 unfold okL;cases l with
 |nil=>simp[fSs,fCs,i,j]
 |cons f r=>
  simp only[List.isEmpty_cons,Bool.false_or,X0,Vv];constructor
  .rintro⟨a,b,c,e⟩;exact⟨⟨a,b⟩,c,e⟩
  .rintro⟨⟨a,b⟩,c,e⟩;exact⟨a,b,c,e⟩
theorem QeI(s:Step)(d:Nat):((stepParts s).isEmpty||(decide (d<=16)&&(stepParts s).all (fD (d+1))))=(sDs d s.Then&&sDs d s.Else):=by
 rw[Qc2,Qc2];unfold stepParts;rw[List.all_append];cases a:s.Then<;>cases b:s.Else<;>simp<;>(cases decide (d<=16)<;>simp)
def Cnt(R:Nat->List Ui->Int->Ug->Option (Ug×Bool))(l:List Ui)(d:Nat)(st co:Int):Prop:=
 ∃c':Ug,Ev (λn=>R n l (d:Int) {steps:=st,conds:=co}) (c',okL l d st co)/\(okL l d st co=true->c'={steps:=st+fSs l,conds:=co+fCs l})
theorem QjM{R:Nat->List Ui->Int->Ug->Option (Ug×Bool)}{l:List Ui}{d:Nat}(hd:d<=16){i:Nat}{f:Ui}(O:At l i f)(hw:fwf f)
  (T:∀l' d' a e,fZs l'<fZ f->l'.length<=2097152->(∀f∈l',fwf f)->d'<=17->0<=a->a<=66->(a<=65\/ ∀f∈l',∃c,f=ofCond c)->0<=e->e<=256->Cnt R l' d' a e){a e:Int}(h0:0<=a)(ac:a<=66)(G:a<=65\/ ∃c,f=ofCond c)(h2:0<=e)(h3:e<=256):
  ∃c':Ug,Ev (λn=>F_fe n l (d:Int) (R n) ({steps:=a,conds:=e},(i:Int))) (bif okF f d a e then .cont (c',((i+1:Nat):Int))else .done (.done (c',false)))/\(okF f d a e=true->c'={steps:=a+fS f,conds:=e+fC f}):=by
 unfold F_fe;simp only[O.lt,Vt,O.ix,XN,O.nx];have ed:IntKind.i64.wrap ((d:Int)+1)=((d+1:Nat):Int):=YY (by omega);cases f with
 |ctyping_step x=>
  obtain⟨s⟩:=x;have h1:a<=65:=by
   rcases G with h|⟨c,h⟩
   .exact h
   .cases h
  have k:Step.wf s:=hw;obtain⟨wc,⟨ae,ab⟩,⟨af,J⟩⟩:=Qak k;have P:IntKind.i64.wrap (a+1)=a+1:=Yw (by omega) (by omega);simp only[Ui.elim,Qgx,XN,P];have hc:∃t:Ug,Ev (λn=>((bif (!zeroC s.Cond)then(R n [Ui.ctyping_cond {Cond:=s.Cond}] 0 {steps:=a+1,conds:=e}).bind λm=>some (m.1,(!m.2))else some ({steps:=a+1,conds:=e},false)):Option (Ug×Bool))) (t, !(zeroC s.Cond||(cD 1 s.Cond&&(decide (a+1<=64)&&decide (e+cN s.Cond<=256)))))/\
    ((zeroC s.Cond||(cD 1 s.Cond&&(decide (a+1<=64)&&decide (e+cN s.Cond<=256))))=true->t={steps:=a+1,conds:=e+((bif zeroC s.Cond then 0 else cN s.Cond:Nat):Int)}):=by
   cases E:zeroC s.Cond with
   |true=>
    refine⟨{steps:=a+1,conds:=e},?_,λ_=>?_⟩
    .exact Qa _
    .simp
   |false=>
    obtain⟨t,p,z⟩:=T [ofCond s.Cond] 0 (a+1) e (by simp only[fZs,Vn,Vp,List.sum_cons,List.sum_nil];show cN s.Cond+0<sZ s;rw[QhW];omega) (by simp) (by intro g j;simp only[VF]at j;subst j;exact wc) (by omega) (by omega) (by omega) (.inr (by intro g j;simp only[VF]at j;exact⟨_,j⟩)) h2 h3;have ek:okL [ofCond s.Cond] 0 (a+1) e=(cD 1 s.Cond&&(decide (a+1<=64)&&decide (e+cN s.Cond<=256))):=by
     unfold okL;simp only[List.isEmpty_cons,Bool.false_or,List.all_cons,List.all_nil,Bool.and_true,fSs,fCs,Vn,Vp,List.sum_cons,List.sum_nil];rw[show fD (0+1) (ofCond s.Cond)=cD 1 s.Cond from rfl,show fS (ofCond s.Cond)=0 from rfl,show fC (ofCond s.Cond)=cN s.Cond from rfl];simp
    rw[ek]at p z;refine⟨t,Ea p (Qa _),λh=>?_⟩;rw[z h];simp[fSs,fCs,show fS (ofCond s.Cond)=0 from rfl,show fC (ofCond s.Cond)=cN s.Cond from rfl]
  obtain⟨t,p,z⟩:=hc;generalize hb:(zeroC s.Cond||(cD 1 s.Cond&&(decide (a+1<=64)&&decide (e+cN s.Cond<=256))))=b at p z;have V:okF (Ui.ctyping_step {Step:=s}) d a e=(sDp (d+1) s&&(decide (a+sNp s<=64)&&decide (e+sC s<=256))):=rfl;rw[V];cases b with
  |false=>
   have:(sDp (d+1) s&&(decide (a+sNp s<=64)&&decide (e+sC s<=256)))=false:=by
    rw[VQ];intro hh;simp only[X0,Vv,Qkm,Qgc,Qgd]at hh;obtain⟨⟨X,_⟩,z2,z3⟩:=hh;cases E:zeroC s.Cond with
    |true=>rw[E]at hb;cases hb
    |false=>
     rw[E]at hb X z3;simp only[Bool.false_or]at hb X;rw[X]at hb;simp only[Vu]at z3;rw[Ys (show a+1<=64 by omega),Ys (show e+(cN s.Cond:Int)<=256 by omega)]at hb;cases hb
   rw[this];exact⟨t,Ea p (Qa _),λh=>by cases h⟩
  |true=>
   obtain rfl:=z rfl;by_cases r:64<a+1
   .have:(sDp (d+1) s&&(decide (a+sNp s<=64)&&decide (e+sC s<=256)))=false:=by
     rw[YK (show¬a+(sNp s:Int)<=64 by rw[Qgc];omega)];simp
    rw[this];refine⟨{steps:=a+1,conds:=e+((bif zeroC s.Cond then 0 else cN s.Cond:Nat):Int)},Ea p ?_,λh=>by cases h⟩;simp only[Xh,Vu];refine Ea (v:=(_,true)) ?_ (Qa _);rw[Ys r];exact Qa _
   by_cases H:256<e+((bif zeroC s.Cond then 0 else cN s.Cond:Nat):Int)
   .have:(sDp (d+1) s&&(decide (a+sNp s<=64)&&decide (e+sC s<=256)))=false:=by
     rw[YK (show¬e+(sC s:Int)<=256 by rw[Qgd];omega)];simp
    rw[this];refine⟨{steps:=a+1,conds:=e+((bif zeroC s.Cond then 0 else cN s.Cond:Nat):Int)},Ea p ?_,λh=>by cases h⟩;simp only[Xh,Vu];refine Ea (v:=(_,true)) ?_ (Qa _);rw[YK r,Ys H];exact Qa _
   obtain⟨F,B,w⟩:=T (stepParts s) (d+1) (a+1) (e+((bif zeroC s.Cond then 0 else cN s.Cond:Nat):Int)) (by
     unfold stepParts;rw[Qfn,QbX,QbX];show _<sZ s;rw[QhW];omega) (by unfold stepParts;simp;omega) (by
     intro g j;unfold stepParts at j;rcases VH.1 j with j|j
     .obtain⟨y,u,rfl⟩:=Xf.1 j;exact ab y u
     .obtain⟨y,u,rfl⟩:=Xf.1 j;exact J y u) (by omega) (by omega) (by omega) (.inl (by omega)) (by omega) (by omega)
   have Y:okL (stepParts s) (d+1) (a+1) (e+((bif zeroC s.Cond then 0 else cN s.Cond:Nat):Int))=(sDp (d+1) s&&(decide (a+sNp s<=64)&&decide (e+sC s<=256))):=by
    rw[X3,Qg7 _ _ _ _ (by omega) (by omega),QeI];simp only[X0,Vv,Qkm,Qgc,Qgd];have N:fSs (stepParts s)=sNs s.Then+sNs s.Else:=by unfold stepParts;rw[Qfp,Qbg,Qbg]
    have Q:fCs (stepParts s)=sCs s.Then+sCs s.Else:=by unfold stepParts;rw[Qfr,Qbh,Qbh]
    rw[N,Q];have L:(zeroC s.Cond||cD 1 s.Cond)=true:=by
     cases E:zeroC s.Cond with
     |true=>rfl
     |false=>
      rw[E]at hb;simp only[Bool.false_or,X0]at hb;rw[hb.1];rfl
    constructor
    .rintro⟨q,W,M⟩;exact⟨⟨L,q⟩,by omega,by omega⟩
    .rintro⟨⟨_,q⟩,W,M⟩;exact⟨q,by omega,by omega⟩
   rw[Y]at B w;refine⟨F,Ea p ?_,λh=>?_⟩
   .simp only[Xh,Vu];refine Ea (v:=(F, !(sDp (d+1) s&&(decide (a+sNp s<=64)&&decide (e+sC s<=256))))) ?_ ?_
    .rw[YK r,YK H,ed];exact Ea (Qbv s k) (Ea B (Qa _))
    .cases(sDp (d+1) s&&(decide (a+sNp s<=64)&&decide (e+sC s<=256)))<;>exact Qa _
   .rw[w h];have N:fSs (stepParts s)=sNs s.Then+sNs s.Else:=by unfold stepParts;rw[Qfp,Qbg,Qbg]
    have Q:fCs (stepParts s)=sCs s.Then+sCs s.Else:=by unfold stepParts;rw[Qfr,Qbh,Qbh]
    rw[N,Q,show fS (Ui.ctyping_step {Step:=s})=sNp s from rfl,show fC (Ui.ctyping_step {Step:=s})=sC s from rfl,Qgc,Qgd];congr 1<;>omega
 |ctyping_cond x=>
  obtain⟨c⟩:=x;have k:Cond.wf c:=hw;obtain⟨ag,aa⟩:=Qal k;have P:IntKind.i64.wrap (e+1)=e+1:=Yw (by omega) (by omega);simp only[Ui.elim,P];have V:okF (Ui.ctyping_cond {Cond:=c}) d a e=(cD (d+1) c&&(decide (a<=64)&&decide (e+cN c<=256))):=by
   show(cD (d+1) c&&(decide (a+((0:Nat):Int)<=64)&&decide (e+cN c<=256)))=_;rw[show a+((0:Nat):Int)=a by omega]
  rw[V];by_cases r:64<a
  .have:(cD (d+1) c&&(decide (a<=64)&&decide (e+cN c<=256)))=false:=by
    rw[YK (show¬a<=64 by omega)];simp
   rw[this];refine⟨{steps:=a,conds:=e+1},?_,λh=>by cases h⟩;refine Ea (v:=(_,true)) ?_ (Qa _);rw[Ys r];exact Qa _
  by_cases H:256<e+1
  .have:(cD (d+1) c&&(decide (a<=64)&&decide (e+cN c<=256)))=false:=by
    rw[YK (show¬e+(cN c:Int)<=256 by rw[Qc8];omega)];simp
   rw[this];refine⟨{steps:=a,conds:=e+1},?_,λh=>by cases h⟩;refine Ea (v:=(_,true)) ?_ (Qa _);rw[YK r,Ys H];exact Qa _
  obtain⟨F,B,w⟩:=T (c.Parts.map ofCond) (d+1) a (e+1) (by
    rw[Qfo];show _<cN c;rw[Qc8];omega) (by simp;omega) (by
    intro g j;obtain⟨y,u,rfl⟩:=Xf.1 j;exact aa y u) (by omega) (by omega) (by omega) (.inl (by omega)) (by omega) (by omega)
  have Y:okL (c.Parts.map ofCond) (d+1) a (e+1)=(cD (d+1) c&&(decide (a<=64)&&decide (e+cN c<=256))):=by
   rw[X3,Qg7 _ _ _ _ (by omega) (by omega), <- Qiw,Qfq,Qfs];simp only[X0,Vv,Qnx,Qc8];constructor
   .rintro⟨q,W,M⟩;exact⟨q,by omega,by omega⟩
   .rintro⟨q,W,M⟩;exact⟨q,by omega,by omega⟩
  rw[Y]at B w;refine⟨F,?_,λh=>?_⟩
  .refine Ea (v:=(F, !(cD (d+1) c&&(decide (a<=64)&&decide (e+cN c<=256))))) ?_ ?_
   .rw[YK r,YK H,ed];exact Ea (Qc3 c k) (Ea B (Qa _))
   .cases(cD (d+1) c&&(decide (a<=64)&&decide (e+cN c<=256)))<;>exact Qa _
  .rw[w h,Qfq,Qfs,show fS (Ui.ctyping_cond {Cond:=c})=0 from rfl,show fC (Ui.ctyping_cond {Cond:=c})=cN c from rfl,Qc8];congr 1;omega
theorem Qnf:∀(m:Nat) (l:List Ui) (d:Nat) (a b:Int),fZs l<=m->l.length<=2097152->(∀f∈l,fwf f)->d<=17->0<=a->a<=66->(a<=65\/ ∀f∈l,∃c,f=ofCond c)->0<=b->b<=256->Cnt F_d l d a b:=by
 intro m
 induction m using Nat.strongRecOn with
 |_ m B=>
 intro l d a b hm hl V hd h0 h1 t P h3;unfold Cnt;have y:∀c:Ug,(∃e:Ug,Ev (λn=>B_d (F_d n) n l (d:Int) c) (e,okL l d a b)/\(okL l d a b=true->e={steps:=a+fSs l,conds:=b+fCs l}))->∃e:Ug,Ev (λn=>F_d n l (d:Int) c) (e,okL l d a b)/\(okL l d a b=true->e={steps:=a+fSs l,conds:=b+fCs l}):=by
  rintro c ⟨e,T,Y⟩;exact⟨e,Jj T,Y⟩
 refine y _ ?_;unfold B_d;cases g:l with
 |nil=>
  refine⟨{steps:=a,conds:=b},?_,λ_=>by simp[fSs,fCs]⟩;refine Ea (v:=false) (Qa _) (Qax ?_);refine Ea (v:=Ctl.cont {steps:=a,conds:=b}) (EvI.ev (Ej ?_)) (Qa _);exact Qa _
 |cons f0 r0=>
 rw[<- g];have z:l.isEmpty=false:=by rw[g];rfl
 have M:0<l.length:=by rw[g];simp
 by_cases j:d<=16
 rotate_left
 .have:okL l d a b=false:=by unfold okL;rw[z,YK j];rfl
  rw[this];refine⟨{steps:=a,conds:=b},?_,λh=>by cases h⟩;rw[Ys (show(0:Int)<(l.length:Int)by omega),Ys (show(16:Int)<(d:Int)by omega)];exact Ea (Qa _) (Qa _)
 have F:okL l d a b=okR l d a b:=by unfold okL okR;rw[Ys j,VE]
 rw[F];have loop:∀(r:List Ui) (i:Nat) (a b:Int),l.drop i=r->i<=l.length->0<=a->a<=66->(a<=65\/ ∀f∈l,∃c,f=ofCond c)->0<=b->b<=256->
   ∃e:Ug,EvI (λn=>F_fe n l (d:Int) (F_d n)) ({steps:=a,conds:=b},(i:Int)) (bif okR r d a b then Ctl.cont e else Ctl.done (e,false))/\(okR r d a b=true->e={steps:=a+fSs r,conds:=b+fCs r}):=by
  intro r
  induction r with
  |nil=>
   intro i a b G L _ _ _ _ _;refine⟨{steps:=a,conds:=b},Ej ?_,λ_=>by simp[fSs,fCs]⟩;unfold F_fe;simp only[YM G L,Vu];exact Qa _
  |cons f r w=>
   intro i a b G L Q g1 u g2 g3;obtain⟨q,H⟩:=Q2 (by omega) G;have aa:fZ f<=fZs l:=by
    have:∀(l:List Ui),f∈l->fZ f<=fZs l:=by
     intro l
     induction l with
     |nil=>intro h;cases h
     |cons x l B=>
      intro h;rw[Qiu];rcases Va.1 h with rfl|h
      .omega
      .have:=B h;omega
    exact this l q.mem
   obtain⟨e,k,s⟩:=QjM (R:=F_d) j q (V f q.mem) (λJ X a b k1 W k3 k4 k5 k6 E O k8=>B (fZs J) (by omega) J X a b (XX _) W k3 k4 k5 k6 E O k8) Q g1 (u.imp id λh=>h f q.mem) g2 g3;rw[QmF];cases p:okF f d a b with
   |false=>
    rw[p]at k;exact⟨e,Ej k,λh=>by cases h⟩
   |true=>
    rw[p]at k;obtain rfl:=s p;have hb:a+fS f<=64/\b+fC f<=256:=by
     unfold okF at p;simp only[X0,Vv]at p;exact p.2
    obtain⟨N,u1,u2⟩:=w (i+1) (a+fS f) (b+fC f) H (by have:=q.lt';omega) (by omega) (by omega) (.inl (by omega)) (by omega) (by omega);refine⟨N,Ew k u1,λh=>?_⟩;rw[u2 (by simpa using h),Qiv,Qix];congr 1<;>omega
 obtain⟨e,k,s⟩:=loop l 0 a b rfl (XY _) h0 h1 t P h3;refine⟨e,?_,s⟩;refine Ea (v:=false) ?_ (Qax (Ea k.ev ?_))
 .rw[Ys (show(0:Int)<(l.length:Int)by omega),YK (show¬(16:Int)<(d:Int)by omega)];exact Qa _
 .cases okR l d a b<;>exact Qa _
mutual
def vaC:Cond->Bool
 |⟨k,v,n,ps⟩=>bif k==1 then inR 1 3 v&&(inR 0 10000 n&&((ps.length:Int)==0))else
   bif k==4 then((v==0)&&(n==0))&&(((ps.length:Int)==1)&&vaCs ps)else
   bif (k==2)||(k==3)then((v==0)&&(n==0))&&((decide (0<(ps.length:Int))&&decide ((ps.length:Int)<=16))&&vaCs ps)else false
def vaCs:List Cond->Bool
 |[]=>true
 |c::r=>vaC c&&vaCs r
end
theorem Qpk(c:Cond):vaC c=bif c.Kind==1 then inR 1 3 c.Var&&(inR 0 10000 c.N&&((c.Parts.length:Int)==0))else
   bif c.Kind==4 then((c.Var==0)&&(c.N==0))&&(((c.Parts.length:Int)==1)&&vaCs c.Parts)else
   bif (c.Kind==2)||(c.Kind==3)then((c.Var==0)&&(c.N==0))&&((decide (0<(c.Parts.length:Int))&&decide ((c.Parts.length:Int)<=16))&&vaCs c.Parts)else false:=by cases c;rfl
theorem Qke:∀l:List Cond,vaCs l=l.all vaC
 |[]=>rfl
 |c::r=>by rw[vaCs,List.all_cons,Qke r]
mutual
def vaS:Step->Bool
 |⟨k,b,c,t,e⟩=>bif k==1 then inR 1 5 b&&(zeroC c&&(((t.length:Int)==0)&&((e.length:Int)==0)))else
   bif k==2 then(b==0)&&(vaC c&&(decide (0<(t.length:Int))&&(vaSs t&&vaSs e)))else false
def vaSs:List Step->Bool
 |[]=>true
 |s::r=>vaS s&&vaSs r
end
theorem Qpj(s:Step):vaS s=bif s.Kind==1 then inR 1 5 s.By&&(zeroC s.Cond&&(((s.Then.length:Int)==0)&&((s.Else.length:Int)==0)))else
   bif s.Kind==2 then(s.By==0)&&(vaC s.Cond&&(decide (0<(s.Then.length:Int))&&(vaSs s.Then&&vaSs s.Else)))else false:=by cases s;rfl
theorem Qkd:∀l:List Step,vaSs l=l.all vaS
 |[]=>rfl
 |c::r=>by rw[vaSs,List.all_cons,Qkd r]
def fV:Ui->Bool
 |.ctyping_step x=>vaS x.Step
 |.ctyping_cond x=>vaC x.Cond
theorem QjS(l:List Cond):(l.map ofCond).any (λf=> !fV f)= !vaCs l:=by
 rw[Qke,List.not_all_eq_any_not,List.any_map];rfl
theorem QcF(l:List Step):(l.map ofStep).any (λf=> !fV f)= !vaSs l:=by
 rw[Qkd,List.not_all_eq_any_not,List.any_map];rfl
theorem Qgw{R:Nat->List Ui->Option Bool}(c:Cond)(h:Cond.wf c)(j:Ev (λn=>R n (c.Parts.map ofCond)) (!vaCs c.Parts)):
  Ev (λn=>F_cu (R n) n {Cond:=c}) (vaC c):=by
 unfold F_cu;rw[Qpk];refine Ea (v:=(c.Var==0)&&(c.N==0)) (Ei λ_=>Qa _) ?_;refine Qb4 (λ_=>?_) (λk=>?_)
 .exact Ea (Ea (QK _ _ _) (Ei λ_=>Ea (QK _ _ _) (Ei λ_=>Qa _))) (Qa _)
 .have fin:∀b:Bool,Ev (λn=>((bif b then(F_o n {Cond:=c}).bind λg=>(R n g).bind λf=>some (!f)else some false):Option Bool).bind λd=>some d) (b&&vaCs c.Parts):=by
   intro b;refine Ea ((Ei λ_=>Ea (Qc3 c h) (Ea j (Qa _)))) ((Qa _).eq (by simp))
  cases m:(c.Kind==4)with
  |true=>
   simp only[Vt];cases i:((c.Var==0)&&(c.N==0))with
   |true=>
    refine Ea (v:=Ctl.cont ((c.Parts.length:Int)==1)) (Qa _) ((fin _).eq (by simp))
   |false=>
    refine Ea (v:=Ctl.cont false) (Qa _) ((fin _).eq (by simp))
  |false=>
   simp only[Vu];cases a:((c.Kind==2)||(c.Kind==3))with
   |true=>
    simp only[Vt];have e:Ev (λn:Nat=>((bif (c.Kind==2)then some (c.Kind==2)else some (c.Kind==3)):Option Bool)) true:=by
     refine Ez ?_;rw[Qny,a]
    cases i:((c.Var==0)&&(c.N==0))with
    |true=>
     cases l:decide (0<(c.Parts.length:Int))with
     |true=>
      refine Ea (v:=Ctl.cont (decide ((c.Parts.length:Int)<=16))) (Ea e (Qa _)) ((fin _).eq (by simp))
     |false=>
      refine Ea (v:=Ctl.cont false) (Ea e (Qa _)) ((fin _).eq (by simp))
    |false=>
     refine Ea (v:=Ctl.cont false) (Ea e (Qa _)) ((fin _).eq (by simp))
   |false=>
    have e:Ev (λn:Nat=>((bif (c.Kind==2)then some (c.Kind==2)else some (c.Kind==3)):Option Bool)) false:=by
     refine Ez ?_;rw[Qny,a]
    refine Ea (v:=Ctl.done false) (Ea e (Qa _)) (Qa _)
theorem QjG:∀(m:Nat) (l:List Ui),fZs l<=m->l.length<=2097152->(∀f∈l,fwf f)->Ev (λn=>F_h n l) (l.any λf=> !fV f):=by
 intro m
 induction m using Nat.strongRecOn with
 |_ m i=>
 intro l E G r;refine Jj ?_;show Ev (λn=>B_h (F_h n) n l) _;unfold B_h F_ep;refine Ev.contains l _ (λn f=>F_co (F_h n) n f) (by omega) λf p=>?_;have z:fZ f<=fZs l:=by
  have:∀(l:List Ui),f∈l->fZ f<=fZs l:=by
   intro l
   induction l with
   |nil=>intro h;cases h
   |cons x l i=>
    intro h;rw[Qiu];rcases Va.1 h with rfl|h
    .omega
    .have:=i h;omega
  exact this l p
 unfold F_co;refine Ea (v:=fV f) ?_ (Qa _);have a:∀c:Cond,Cond.wf c->cNs c.Parts<fZ f->Ev (λn=>F_h n (c.Parts.map ofCond)) (!vaCs c.Parts):=by
  intro c e j;rw[<- QjS];obtain⟨w1,w2⟩:=Qal e;refine i (fZs (c.Parts.map ofCond)) (by rw[Qfo];omega) _ (XX _) (by simp;omega) ?_;intro g b;obtain⟨y,d,rfl⟩:=Xf.1 b;exact w2 y d
 cases f with
 |ctyping_cond x=>
  obtain⟨c⟩:=x;have e:Cond.wf c:=r _ p;exact Qgw (R:=F_h) c e (a c e (by show cNs c.Parts<cN c;rw[Qc8];omega))
 |ctyping_step x=>
  obtain⟨s⟩:=x;have j:Step.wf s:=r _ p;obtain⟨t,⟨w,k⟩,⟨u,q⟩⟩:=Qak j;unfold F_ds;show Ev _ (vaS s);rw[Qpj];simp only[Ui.elim];refine Qb4 (λ_=>?_) (λB=>Qb4 (λ_=>?_) λ_=>Qa _)
  .refine Ea (Ea (QK _ _ _) (Ei λ_=>?_)) (Qa _);simp only[Qgx,XN];refine Ei λ_=>Ea (Qbv s j) ((Qa _).eq ?_);unfold stepParts;rw[X3];simp only[VC,X0,X7,X6];omega
  .refine Ea (Ei λ_=>?_) (Qa _);refine Ea (Qgw (R:=F_h) s.Cond t (a s.Cond t (by show _<sZ s;rw[QhW,Qc8];omega))) (Ei λ_=>Ei λ_=>?_);refine Ea (Qbv s j) (Ea (i (fZs (stepParts s)) ?_ _ (XX _) (by unfold stepParts;simp;omega) ?_) ((Qa _).eq ?_))
   .have:fZs (stepParts s)<sZ s:=by
     unfold stepParts;rw[Qfn,QbX,QbX,QhW];omega
    have F:fZ (Ui.ctyping_step {Step:=s})=sZ s:=rfl;omega
   .intro g b;unfold stepParts at b;rcases VH.1 b with b|b
    .obtain⟨y,d,rfl⟩:=Xf.1 b;exact k y d
    .obtain⟨y,d,rfl⟩:=Xf.1 b;exact q y d
   .unfold stepParts;rw[List.any_append,QcF,QcF];simp
def goodT(l:List Step):Bool:=sDs 0 l&&(decide (sNs l<=64)&&decide (sCs l<=256))
def tiesE(l:List Step):Int:=bif goodT l then(bif l.isEmpty|| !vaSs l then 71 else 0)else 2
theorem QmG(l:List Step):okL (l.map ofStep) 0 0 0=goodT l:=by
 rw[X3,Qg7 _ _ _ _ (by omega) (by omega), <- Qc2,Qbg,Qbh];unfold goodT;simp only[X0,Vv];constructor
 .rintro⟨a,b,c⟩;exact⟨a,by omega,by omega⟩
 .rintro⟨a,b,c⟩;exact⟨a,by omega,by omega⟩
theorem QoC(l:List Step)(hl:l.length<=1048576)(h:∀x∈l,Step.wf x):Ev (λn=>F_bj n l) (tiesE l):=by
 unfold F_bj;refine Ea (Qft l (by omega)) (Ea (v:=tiesE l) ?_ (Qa _));have a:∀f∈l.map ofStep,fwf f:=by
  intro g j;obtain⟨y,i,rfl⟩:=Xf.1 j;exact h y i
 obtain⟨k,b,m⟩:=Qnf _ (l.map ofStep) 0 0 0 (XX _) (by simp;omega) a (by omega) (by omega) (by omega) (.inl (by omega)) (by omega) (by omega);rw[QmG]at b;unfold F_fs;have d:Ev (λn=>F_do n (l.map ofStep) 0 {steps:=0,conds:=0}) (k,goodT l):=b.shift;refine Ea d ?_;unfold tiesE;cases goodT l with
 |false=>exact Qa _
 |true=>
  simp only[Xh,Vu,Vt];have e:(((l.map ofStep).length:Int)==0)=l.isEmpty:=by
   cases l<;>simp;omega
  rw[e];refine Ea (Eu λ_=>Ea (QjG _ _ (XX _) (by simp;omega) a) (Qa _)) ?_;rw[QcF];cases(l.isEmpty|| !vaSs l)<;>exact Qa _
def condB(d:Nat):Int:=256*(18-(d:Int))+1000
theorem Qf2:∀(m:Nat) (c:Cond) (d:Nat),cN c<=m->d<=17->Cond.wf c->∃v:Int,Ev (λn=>F_i n c (d:Int)) v/\0<=v/\v<=condB d/\
  (d<=16/\cD (d+1) c=true/\cN c<=256->v=cN c)/\(¬(d<=16/\cD (d+1) c=true/\cN c<=256)->256<v):=by
 intro m
 induction m using Nat.strongRecOn with
 |_ m u=>
 intro c d hm hd V;obtain⟨aa,G⟩:=Qal V;have s:∀{P:Int->Prop},(∃v:Int,Ev (λn=>B_i (F_i n) n c (d:Int)) v/\P v)->∃v:Int,Ev (λn=>F_i n c (d:Int)) v/\P v:=by
  rintro P ⟨v,j,b⟩;exact⟨v,Jj j,b⟩
 refine s ?_;unfold B_i;by_cases g:d<=16
 .rw[YK (show¬(16:Int)<(d:Int)by omega)];have R:IntKind.i64.wrap ((d:Int)+1)=((d+1:Nat):Int):=YY (by omega);have loop:∀(r:List Cond) (i:Nat) (a:Int),c.Parts.drop i=r->i<=c.Parts.length->0<=a->a<=condB d->
    ∃v:Int,EvI (λn=>F_dc n c (d:Int) (F_i n)) (a,(i:Int)) v/\0<=v/\v<=condB d/\
     (cDs (d+1) r=true/\a+cNs r<=256->v=a+cNs r)/\(¬(cDs (d+1) r=true/\a+cNs r<=256)->256<v):=by
   intro r
   induction r with
   |nil=>
    intro i a E N B j;refine⟨a,Ej ?_,B,j,λ_=>by simp[cNs],λh=>?_⟩
    .unfold F_dc;simp only[YM E N,Vu,XN];exact Qa _
    .simp[cDs,cNs]at h;omega
   |cons x r q=>
    intro i a E N B j;obtain⟨f,H⟩:=Q2 (by omega) E;have hx:cN x<cN c:=by
     have:∀l:List Cond,x∈l->cN x<=cNs l:=by
      intro l
      induction l with
      |nil=>intro h;cases h
      |cons y l u=>
       intro h;rw[cNs];rcases Va.1 h with rfl|h
       .omega
       .have:=u h;omega
     have:=this _ f.mem;rw[Qc8 c];omega
    by_cases e:a<=256
    .obtain⟨v,z,L,O,p,t⟩:=u (cN x) (by omega) x (d+1) (XX _) (by omega) (G x f.mem);have hB:condB (d+1)+256=condB d:=by unfold condB;omega
     have T:condB d<=6000:=by unfold condB;omega
     have X:IntKind.i64.wrap (a+v)=a+v:=Yw (by omega) (by omega);obtain⟨w,q1,W,Q,Y,M⟩:=q (i+1) (a+v) H (by have:=f.lt';omega) (by omega) (by omega);refine⟨w,Ew ?_ q1,W,Q,?_,?_⟩
     .unfold F_dc;simp only[f.lt,Vt,Ys e,XN,f.ix,f.nx,R];refine Ea z ?_;rw[X];exact Qa _
     .rintro⟨b,F⟩;simp only[cDs,X0,Vv]at b;rw[cNs]at F⊢;have:=p ⟨b.1,b.2.1,by omega⟩;subst this;rw[Y ⟨b.2.2,by omega⟩];omega
     .intro J;by_cases k:d+1<=16/\cD (d+1+1) x=true/\cN x<=256
      .have:=p k;subst this;refine M λb=>J ⟨?_,?_⟩
       .simp only[cDs,X0,Vv];exact⟨k.1,k.2.1,b.1⟩
       .rw[cNs];omega
      .have:=t k;exact M λb=>by omega
    .refine⟨a,Ej ?_,B,j,λh=>?_,λ_=>by omega⟩
     .unfold F_dc;simp only[f.lt,Vt,YK e,XN,Vu];exact Qa _
     .omega
  obtain⟨v,z,L,O,p,t⟩:=loop c.Parts 0 1 rfl (XY _) (by omega) (by unfold condB;omega);refine⟨v,Qax (Ea z.ev (Qa _)),L,O,?_,?_⟩
  .rintro⟨_,b,F⟩;rw[Qnx]at b;rw[Qc8]at F⊢;rw[p ⟨b,by omega⟩];omega
  .intro J;refine t λh=>J ⟨g,by rw[Qnx];exact h.1,by rw[Qc8];omega⟩
 .rw[Ys (show(16:Int)<(d:Int)by omega)];refine⟨1000,QkW (Qa _),by omega,by unfold condB;omega,λh=>absurd h.1 g,λ_=>by omega⟩
def sizeB:Nat->Int
 |0=>10000
 |k+1=>3*sizeB k
theorem QcN:∀k,10000<=sizeB k
 |0=>Int.le_refl _
 |k+1=>by have:=QcN k;simp only[sizeB];omega
theorem Qmh{k:Nat}(h:k<=17):sizeB k<=1291401630000:=by
 have:∀j,j<=17->sizeB j<=1291401630000:=by decide+kernel
 exact this k h
def goodL(d:Nat)(l:List Step):Prop:=sDs d l=true/\sNs l<=64/\sCs l<=256
theorem QoA:∀(m:Nat) (l:List Step) (d:Nat),sZs l<=m->d<=17->l.length<=1048576->(∀x∈l,Step.wf x)->∃a b:Int,Ev (λn=>F_k n l (d:Int)) (a,b)/\0<=a/\0<=b/\a<=sizeB (17-d)/\b<=sizeB (17-d)/\
  (goodL d l->a=sNs l/\b=sCs l)/\(¬goodL d l->64<a\/256<b):=by
 intro m
 induction m using Nat.strongRecOn with
 |_ m E=>
 intro l d hm hd hl hw;have L:∀{P:Int->Int->Prop},(∃a b:Int,Ev (λn=>B_k (F_k n) n l (d:Int)) (a,b)/\P a b)->∃a b:Int,Ev (λn=>F_k n l (d:Int)) (a,b)/\P a b:=by
  rintro P ⟨a,b,w,p⟩;exact⟨a,b,Jj w,p⟩
 refine L ?_;unfold B_k;by_cases e:0<l.length/\ ¬d<=16
 .rw[Ys (show(0:Int)<(l.length:Int)by omega),Ys (show(16:Int)<(d:Int)by omega)];have:=QcN (17-d);refine⟨1000,1000,Ea (Qa _) (QkW (Qa _)),by omega,by omega,by omega,by omega,λh=>?_,λ_=>by omega⟩;exfalso;cases l with
  |nil=>simp at e
  |cons x r=>
   have:=h.1;simp only[sDs,X0,Vv]at this;exact e.2 this.1
 .have B:Ev (λn:Nat=>((bif decide (0<(l.length:Int))then some (decide (16<(d:Int)))else some false):Option Bool)) false:=by
   by_cases hp:0<l.length
   .have:d<=16:=by
     rcases VG 16 d with q|q
     .exact absurd ⟨hp,by omega⟩ e
     .exact q
    rw[Ys (show(0:Int)<(l.length:Int)by omega),YK (show¬(16:Int)<(d:Int)by omega)];exact Qa _
   .rw[YK (show¬(0:Int)<(l.length:Int)by omega)];exact Qa _
  have ed:IntKind.i64.wrap ((d:Int)+1)=((d+1:Nat):Int):=YY (by omega);have loop:∀(r:List Step) (i:Nat) (a b:Int),l.drop i=r->i<=l.length->0<=a->0<=b->a<=sizeB (17-d)->b<=sizeB (17-d)->
    ∃a' b':Int,EvI (λn=>F_fg n l (d:Int) (F_k n)) (a,b,(i:Int)) (a',b')/\0<=a'/\0<=b'/\a'<=sizeB (17-d)/\b'<=sizeB (17-d)/\
     (sDs d r=true/\a+sNs r<=64/\b+sCs r<=256->a'=a+sNs r/\b'=b+sCs r)/\(¬(sDs d r=true/\a+sNs r<=64/\b+sCs r<=256)->64<a'\/256<b'):=by
   intro r
   induction r with
   |nil=>
    intro i a b Y hi B w p h3;refine⟨a,b,Ej ?_,B,w,p,h3,λ_=>by simp[sNs,sCs],λh=>?_⟩
    .unfold F_fg;simp only[YM Y hi,Vu,XN];exact Qa _
    .simp[sDs,sNs,sCs]at h;omega
   |cons s r R=>
    intro i a b Y hi B w p h3;obtain⟨j,af⟩:=Q2 (by omega) Y;have ag:=j.lt';have t:d<=16:=by
     rcases VG 16 d with q|q
     .exact absurd ⟨by omega,by omega⟩ e
     .exact q
    have ai:sZ s<=sZs l:=by
     have:∀l:List Step,s∈l->sZ s<=sZs l:=by
      intro l
      induction l with
      |nil=>intro h;cases h
      |cons y l E=>
       intro h;rw[sZs];rcases Va.1 h with rfl|h
       .omega
       .have:=E h;omega
     exact this _ j.mem
    by_cases f:a<=64/\b<=256
    .obtain⟨wc,⟨M,V⟩,⟨O,W⟩⟩:=Qak (hw s j.mem);have ah:=QhW s;obtain⟨u,g,N,p2,p3,p4,p5,F,p7⟩:=E (sZs s.Then) (by omega) s.Then (d+1) (XX _) (by omega) M V;obtain⟨y1,y2,q1,q2,q3,q4,q5,q6,q7⟩:=E (sZs s.Else) (by omega) s.Else (d+1) (XX _) (by omega) O W;have hB:sizeB (17-d)=3*sizeB (17-(d+1)):=by
      rw[show 17-d=(17-(d+1))+1 by omega];rfl
     have T:=QcN (17-(d+1));have aj:=Qmh (k:=17-d) (by omega);have hc:∃z:Int,0<=z/\z<=5608/\Ev (λn=>((bif (!zeroC s.Cond)then(idx l (i:Int)).bind λX=>(F_i n X.Cond 0).bind λH=>some (IntKind.i64.wrap ((IntKind.i64.wrap ((IntKind.i64.wrap (b+g))+y2))+H))else some (IntKind.i64.wrap ((IntKind.i64.wrap (b+g))+y2))):Option Int)) (b+g+y2+z)/\
       ((zeroC s.Cond||cD 1 s.Cond)=true/\(bif zeroC s.Cond then 0 else cN s.Cond)<=256->z=((bif zeroC s.Cond then 0 else cN s.Cond:Nat):Int))/\(¬((zeroC s.Cond||cD 1 s.Cond)=true/\(bif zeroC s.Cond then 0 else cN s.Cond)<=256)->256<z):=by
      have e1:IntKind.i64.wrap (b+g)=b+g:=Yw (by omega) (by omega);have e2:IntKind.i64.wrap (b+g+y2)=b+g+y2:=Yw (by omega) (by omega);cases hz:zeroC s.Cond with
      |true=>
       refine⟨0,by omega,by omega,?_,λ_=>by simp,λh=>absurd ⟨rfl,by simp⟩ h⟩;simp only[Xh,Vu,e1,e2];exact(Qa _).eq (by omega)
      |false=>
       obtain⟨v,u1,u2,u3,u4,u5⟩:=Qf2 _ s.Cond 0 (XX _) (by omega) wc;have ab:v<=5608:=by unfold condB at u3;omega
       have e3:IntKind.i64.wrap (b+g+y2+v)=b+g+y2+v:=Yw (by omega) (by omega);refine⟨v,u2,ab,?_,λh=>?_,λh=>?_⟩
       .simp only[Xi,Vt,j.ix,XN,e1,e2];refine Ea u1 ?_;rw[e3];exact Qa _
       .simp only[Bool.false_or,Vu]at h⊢;exact u4 ⟨by omega,h.1,h.2⟩
       .simp only[Bool.false_or,Vu]at h;exact u5 λq=>h ⟨q.2.1,q.2.2⟩
     obtain⟨z,z0,z1,z2,z3,z4⟩:=hc;have e4:IntKind.i64.wrap (a+1)=a+1:=Yw (by omega) (by omega);have e5:IntKind.i64.wrap (a+1+u)=a+1+u:=Yw (by omega) (by omega);have e6:IntKind.i64.wrap (a+1+u+y1)=a+1+u+y1:=Yw (by omega) (by omega);obtain⟨w1,w2,v1,v2,v3,v4,v5,v6,G⟩:=R (i+1) (a+1+u+y1) (b+g+y2+z) af (by omega) (by omega) (by omega) (by omega) (by omega);refine⟨w1,w2,Ew ?_ v1,v2,v3,v4,v5,?_,?_⟩
     .unfold F_fg;simp only[j.lt,Vt,Ys f.1,Ys f.2,XN,j.ix,j.nx,ed,QjD];refine Ea N (Ea q1 ?_);simp only[j.ix,XN]at z2;refine Ea z2 ?_;rw[e4,e5,e6];exact Qa _
     .rintro⟨g1,g2,g3⟩;simp only[sDs,X0,Vv,Qkm]at g1;obtain⟨ak,⟨ac,ae,Q⟩,aa⟩:=g1;rw[sNs,Qgc]at g2⊢;rw[sCs,Qgd]at g3⊢;obtain⟨k1,k2⟩:=F ⟨ae,by omega,by omega⟩;obtain⟨k3,k4⟩:=q6 ⟨Q,by omega,by omega⟩;have k5:=z3 ⟨ac,by omega⟩;obtain⟨k6,k7⟩:=v6 ⟨aa,by omega,by omega⟩;constructor<;>omega
     .intro hn;by_cases b1:goodL (d+1) s.Then
      .obtain⟨k1,k2⟩:=F b1;by_cases b2:goodL (d+1) s.Else
       .obtain⟨k3,k4⟩:=q6 b2;by_cases J:(zeroC s.Cond||cD 1 s.Cond)=true/\(bif zeroC s.Cond then 0 else cN s.Cond)<=256
        .have k5:=z3 J;refine G λq=>hn ⟨?_,?_,?_⟩
         .simp only[sDs,X0,Vv,Qkm];exact⟨t,⟨J.1,b1.1,b2.1⟩,q.1⟩
         .rw[sNs,Qgc];omega
         .rw[sCs,Qgd];omega
        .have:=z4 J;exact G λq=>by omega
       .have:=q7 b2;exact G λq=>by omega
      .have:=p7 b1;exact G λq=>by omega
    .refine⟨a,b,Ej ?_,B,w,p,h3,λh=>?_,λ_=>?_⟩
     .unfold F_fg;have:Ev (λn:Nat=>((bif decide ((i:Int)<(l.length:Int))then(bif decide (a<=64)then some (decide (b<=256))else some false)else some false):Option Bool)) false:=by
       rw[j.lt];by_cases q:a<=64
       .rw[Ys q,YK (show¬b<=256 from λz=>f ⟨q,z⟩)];exact Qa _
       .rw[YK q];exact Qa _
      exact Ea this (Qax (Qa _))
     .omega
     .omega
  have T:=QcN (17-d);obtain⟨a,b,N,p2,p3,p4,p5,F,p7⟩:=loop l 0 0 0 rfl (XY _) (by omega) (by omega) (by omega) (by omega);refine⟨a,b,Ea B (Qax (Ea N.ev (Qa _))),p2,p3,p4,p5,λh=>?_,λh=>?_⟩
  .obtain⟨k1,k2⟩:=F ⟨h.1,by have:=h.2.1;omega,by have:=h.2.2;omega⟩;constructor<;>omega
  .exact p7 λq=>h ⟨q.1,by omega,by omega⟩
mutual
def hP:Part->Nat
 |⟨_,_,ps⟩=>bif ps.isEmpty then 0 else 1+hPs ps
def hPs:List Part->Nat
 |[]=>0
 |p::r=>max (hP p) (hPs r)
end
theorem Qo7(p:Part):hP p=bif p.Parts.isEmpty then 0 else 1+hPs p.Parts:=by cases p;rfl
theorem Qkz{p:Part}:∀{l:List Part},p∈l->hP p<=hPs l
 |q::r,h=>by
  simp only[hPs];rcases Va.1 h with rfl|h
  .omega
  .have:=Qkz h;omega
theorem Qib{α:Type}(l:List α):((l.length:Int)==0)=l.isEmpty:=by
 cases l<;>simp;omega
theorem Qa9:∀l:List Part,l.length<=szPs l
 |[]=>XX _
 |p::r=>by have:=Qa9 r;rw[szPs,Qad,X5];omega
theorem QiB:∀(m:Nat) (l:List Part) (k:Nat),szPs l<=m->k<=17->l.length<=1048576->(∀x∈l,Part.wf x)->Ev (λn=>F_l n l (k:Int)) ((min (hPs l) k:Nat):Int):=by
 intro m
 induction m using Nat.strongRecOn with
 |_ m s=>
 intro l k E z F j;refine Jj ?_;show Ev (λn=>B_l (F_l n) n l (k:Int)) _;unfold B_l;have loop:∀(r:List Part) (i:Nat) (a:Nat),l.drop i=r->i<=l.length->a<=k->EvI (λn=>F_cf n l (k:Int) (F_l n)) ((a:Int),(i:Int)) ((max a (min (hPs r) k):Nat):Int):=by
  intro r
  induction r with
  |nil=>
   intro i a e g b;refine Ej ?_;unfold F_cf;simp only[YM e g,Vu,XN];refine(Qa _).eq ?_;simp[hPs]
  |cons p r f=>
   intro i a e g u;obtain⟨b,d⟩:=Q2 (by omega) e;obtain⟨w1,w2⟩:=Jg (j p b.mem);by_cases t:0<k
   .have y:IntKind.i64.wrap ((k:Int)-1)=((k-1:Nat):Int):=by rw[Yw (by omega) (by omega)];omega
    have w:=QaJ b.mem;rw[Qad]at w;have step:Ev (λn=>F_cf n l (k:Int) (F_l n) ((a:Int),(i:Int))) (.cont (((max a (min (hP p) k):Nat):Int),((i+1:Nat):Int))):=by
     unfold F_cf;simp only[b.lt,Vt,Ys (show(0:Int)<(k:Int)by omega),XN,b.ix,b.nx,y,bne,Qib];rw[Qo7];cases B:p.Parts.isEmpty with
     |true=>
      simp only[Xh,Vu,XN,Vt,Nat.zero_min,Nat.max_zero];exact Qa _
     |false=>
      simp only[Xi,Vt,Vu];refine Ea (Ea (s (szPs p.Parts) (by omega) p.Parts (k-1) (XX _) (by omega) w1 w2) (Qa _)) ((Qa _).eq ?_);have h:IntKind.i64.wrap (1+((min (hPs p.Parts) (k-1):Nat):Int))=((1+min (hPs p.Parts) (k-1):Nat):Int):=by rw[Yw (by omega) (by omega)];omega
      rw[h];congr 2;split<;>omega
    refine(Ew step (f (i+1) _ d (by have:=b.lt';omega) (by omega))).eq ?_;rw[hPs];omega
   .have:k=0:=by omega
    subst this;refine Ej ?_;unfold F_cf;simp only[b.lt,Vt,YK (show¬(0:Int)<((0:Nat):Int)by omega),XN,Vu];have q:max a (min (hPs (p::r)) 0)=a:=by omega
    rw[q];exact Qa _
 refine Ea ((loop l 0 0 rfl (XY _) (XY _)).ev) ((Qa _).eq ?_);omega
theorem QiC:∀(m:Nat) (l:List Part),szPs l<=m->l.length<=1048576->(∀x∈l,Part.wf x)->Ev (λn=>F_q n l) ((min (szPs l) 257:Nat):Int):=by
 intro m
 induction m using Nat.strongRecOn with
 |_ m u=>
 intro l B z s;refine Jj ?_;show Ev (λn=>B_q (F_q n) n l) _;unfold B_q;have loop:∀(r:List Part) (i:Nat) (a:Nat),l.drop i=r->i<=l.length->a<=1048576->∃b:Nat,EvI (λn=>F_di n l (F_q n)) ((a:Int),(i:Int)) (b:Int)/\min b 257=min (a+(szPs r-r.length)) 257:=by
  intro r
  induction r with
  |nil=>
   intro i a f q _;refine⟨a,Ej ?_,by simp[szPs]⟩;unfold F_di;simp only[YM f q,Vu,XN];exact Qa _
  |cons p r h=>
   intro i a f q w;obtain⟨d,e⟩:=Q2 (by omega) f;obtain⟨w1,w2⟩:=Jg (s p d.mem);have y:=QaJ d.mem;rw[Qad]at y;have t:=Qa9 r;by_cases j:a<=256
   .obtain⟨b,g,k⟩:=h (i+1) (a+min (szPs p.Parts) 257) e (by have:=d.lt';omega) (by omega);refine⟨b,Ew ?_ g,?_⟩
    .unfold F_di;simp only[d.lt,Vt,Ys (show(a:Int)<=256 by omega),XN,d.ix,d.nx];refine Ea (u (szPs p.Parts) (by omega) p.Parts (XX _) w1 w2) ((Qa _).eq ?_);rw[Yw (by omega) (by omega)];congr 2
     all_goals omega
    .rw[k,szPs,Qad,X5];omega
   .refine⟨a,Ej ?_,by omega⟩;unfold F_di;simp only[d.lt,Vt,YK (show¬(a:Int)<=256 by omega),XN,Vu];exact Qa _
 obtain⟨b,g,k⟩:=loop l 0 l.length rfl (XY _) z;refine Ea g.ev ((Qa _).eq ?_);have:=Qa9 l;split<;>omega
theorem Qne:∀(m:Nat) (l:List Part) (k:Nat),szPs l<=m->hPs l<=k->k<=17->szPs l<=256->(∀x∈l,Part.wf x)->Ev (λn=>F_j n l (k:Int)) ((hPs l:Int),(szPs l:Int)):=by
 intro m
 induction m using Nat.strongRecOn with
 |_ m L=>
 intro l k O P w f B;have s:=Qa9 l;refine Jj ?_;show Ev (λn=>B_j (F_j n) n l (k:Int)) _;unfold B_j;have loop:∀(r:List Part) (i:Nat) (a b:Nat),l.drop i=r->i<=l.length->a<=17->b+(szPs r-r.length)<=256->EvI (λn=>F_ex n l (k:Int) (F_j n)) ((a:Int),(b:Int),(i:Int)) (((max a (hPs r):Nat):Int),((b+(szPs r-r.length):Nat):Int)):=by
  intro r
  induction r with
  |nil=>
   intro i a b h u _ _;refine Ej ?_;unfold F_ex;simp only[YM h u,Vu,XN];refine(Qa _).eq ?_;simp[hPs,szPs]
  |cons p r e=>
   intro i a b h u M g;obtain⟨d,q⟩:=Q2 (by omega) h;obtain⟨w1,w2⟩:=Jg (B p d.mem);have N:=QaJ d.mem;have j:=Qkz d.mem;rw[Qad]at N;have y:=Qa9 r;rw[szPs,Qad,X5]at g;have step:Ev (λn=>F_ex n l (k:Int) (F_j n) ((a:Int),(b:Int),(i:Int))) (.cont (((max a (hP p):Nat):Int),((b+szPs p.Parts:Nat):Int),((i+1:Nat):Int))):=by
    unfold F_ex;simp only[d.lt,Vt,d.ix,XN,d.nx,Qib];rw[Qo7]at j⊢;cases t:p.Parts.isEmpty with
    |true=>
     have E:p.Parts=[]:=by simpa using t
     simp only[Vt,XN];rw[E];simp only[szPs,Xz,Nat.max_zero];exact Qa _
    |false=>
     rw[t]at j;simp only[Vu]at j⊢;have F:0<k:=by omega
     have G:IntKind.i64.wrap ((k:Int)-1)=((k-1:Nat):Int):=by rw[Yw (by omega) (by omega)];omega
     have z:((k:Int)==0)=false:=beq_false_of_ne (by omega);rw[z,YK (show¬(256:Int)<(b:Int)by omega),G];simp only[Vu,XN];refine Ea (Ea (L (szPs p.Parts) (by omega) p.Parts (k-1) (XX _) (by omega) (by omega) (by omega) w2) (Qa _)) ((Qa _).eq ?_);have J:IntKind.i64.wrap ((hPs p.Parts:Int)+1)=((hPs p.Parts+1:Nat):Int):=YY (by omega);have H:IntKind.i64.wrap ((b:Int)+(szPs p.Parts:Int))=((b+szPs p.Parts:Nat):Int):=by rw[Yw (by omega) (by omega)];omega
     simp only[J,H];congr 2;split<;>omega
   refine(Ew step (e (i+1) _ _ q (by have:=d.lt';omega) (by omega) (by omega))).eq ?_;rw[hPs,szPs,Qad,X5];congr 1<;>omega
 refine Ea ((loop l 0 0 l.length rfl (XY _) (by omega) (by omega)).ev) ((Qa _).eq ?_);congr 1<;>omega
def repS:Nat->List Int->List Int->List Int
 |0,out,_=>out
 |k+1,out,lap=>if 256<out.length then out else repS k (out++lap) lap
mutual
def lapS:Part->List Int
 |⟨m,laps,ps⟩=>bif decide (0<laps)then expS [] ps else[m]
def expS:List Int->List Part->List Int
 |out,[]=>out
 |out,p::r=>expS (repS (p.Laps.toNat+(bif decide (0<p.Laps)then 0 else 1)) out (lapS p)) r
end
theorem Qes(p:Part):lapS p=bif decide (0<p.Laps)then expS [] p.Parts else[p.Mat]:=by cases p;rfl
theorem QeT{k:Nat}{a b:List Int}(h:256<a.length):repS k a b=a:=by
 cases k with
 |zero=>rfl
 |succ k=>rw[repS,Vx h]
theorem Qiz:∀(l:List Part) {out:List Int},256<out.length->expS out l=out
 |[],out,h=>by rw[expS]
 |p::r,out,h=>by rw[expS,QeT h];exact Qiz r h
theorem QeS:∀(k:Nat) (out lap:List Int),(repS k out lap).length<=max out.length (256+lap.length)
 |0,out,lap=>by rw[repS];omega
 |k+1,out,lap=>by
  rw[repS];split
  .omega
  .have:=QeS k (out++lap) lap;rw[X7]at this;omega
theorem Qiy:∀(m:Nat) (l:List Part) (a:List Int),szPs l<=m->(expS a l).length<=max a.length (256+257*szPs l):=by
 intro m
 induction m using Nat.strongRecOn with
 |_ m i=>
 intro l;have b:∀p∈l,szPs l<=m->(lapS p).length<=257*szP p:=by
  intro p d g;have t:=QaJ d;rw[Qes,Qad]at*;cases decide (0<p.Laps)with
  |true=>
   have:=i (szPs p.Parts) (by omega) p.Parts [] (XX _);simp only[Vt,List.length_nil]at this⊢;omega
  |false=>simp;omega
 have f:∀(r:List Part) (a:List Int),(∀p∈r,(lapS p).length<=257*szP p)->(expS a r).length<=max a.length (256+257*szPs r):=by
  intro r
  induction r with
  |nil=>intro a _;rw[expS];omega
  |cons p r e=>
   intro a h;rw[expS,szPs];have k:=e (repS (p.Laps.toNat+(bif decide (0<p.Laps)then 0 else 1)) a (lapS p)) λq j=>h q (by simp[j]);have s:=QeS (p.Laps.toNat+(bif decide (0<p.Laps)then 0 else 1)) a (lapS p);have n:=h p (by simp);omega
 intro a g;exact f l a λp d=>b p d g
theorem QmQ(p:Part):(lapS p).length<=257*szP p:=by
 rw[Qes,Qad];cases decide (0<p.Laps)with
 |true=>
  have:=Qiy _ p.Parts [] (XX _);simp only[Vt,List.length_nil]at this⊢;omega
 |false=>simp;omega
theorem Qln(kk:Int):∀(m:Nat) (l:List Part),szPs l<=m->szPs l<=256->l.length<=1048576->(∀x∈l,Part.wf x)->partsS kk l=true->Ev (λn=>F_m n l) (expS [] l):=by
 intro m
 induction m using Nat.strongRecOn with
 |_ m Y=>
 intro l hm J hl W R;rw[Qdv,Xu]at R;refine Jj ?_;show Ev (λn=>B_m (F_m n) n l) _;unfold B_m;have inner:∀(p:Part) (e:List Int) (g:p.Laps=0\/0<p.Laps/\p.Laps<=64) (E:e.length<=100000) (j:Nat) (k:Nat) (a:List Int),j+k=p.Laps.toNat+(bif decide (0<p.Laps)then 0 else 1)->a.length<=200000->
   ∃d:Ctl (List Int) (Ctl ((List Int)×Int) (Ctl (List Int) (List Int))),EvI (λn=>F_dz n p e) (a,(j:Int)) d/\
    (d=.cont (repS k a e)\/(256<(repS k a e).length/\d=.done (.done (.done (repS k a e))))):=by
  intro p e g E j k
  induction k generalizing j with
  |zero=>
   intro a f _;refine⟨_,Ej (b:=.cont a) ?_,.inl rfl⟩;unfold F_dz;have:¬((j:Int)<if p.Laps<1 then 1 else p.Laps):=by
    rcases g with h|⟨h,O⟩
    .rw[h]at f⊢;simp at f⊢;omega
    .rw[Ys h]at f;simp at f;rw[Vw (by omega)];omega
   rw[YK this];exact Qa _
  |succ k G=>
   intro a f z;have s:((j:Int)<if p.Laps<1 then 1 else p.Laps):=by
    rcases g with h|⟨h,O⟩
    .rw[h]at f⊢;simp at f⊢;omega
    .rw[Ys h]at f;simp at f;rw[Vw (by omega)];omega
   have Q:j<=64:=by
    rcases g with h|⟨h,O⟩
    .rw[h]at f;simp at f;omega
    .rw[Ys h]at f;simp at f;omega
   by_cases t:256<a.length
   .refine⟨_,Ej (b:=.done (.done (.done a))) ?_,.inr ⟨by rw[QeT t];exact t,by rw[QeT t]⟩⟩;unfold F_dz;rw[Ys s,Ys (show(256:Int)<(a.length:Int)by omega)];exact Qa _
   .obtain⟨d,u,B⟩:=G (j+1) (a++e) (by omega) (by rw[X7];omega);refine⟨d,Ew ?_ u,by rw[repS,Vw t];exact B⟩;unfold F_dz;rw[Ys s,YK (show¬(256:Int)<(a.length:Int)by omega)];refine QkW (Qax (QaU (QiR a e (by omega)) ?_));rw[YY (by omega)];exact Qa _
 have loop:∀(r:List Part) (i:Nat) (a:List Int),l.drop i=r->i<=l.length->a.length<=100000->
   ∃d:Ctl (List Int) (List Int),EvI (λn=>F_fp n l (F_m n)) (a,(i:Int)) d/\(d=.cont (expS a r)\/d=.done (expS a r)):=by
  intro r
  induction r with
  |nil=>
   intro i a M P _;refine⟨.cont a,Ej ?_,.inl (by rw[expS])⟩;unfold F_fp;simp only[YM M P,Vu];exact Qa _
  |cons p r H=>
   intro i a M P z;obtain⟨q,N⟩:=Q2 (by omega) M;have s:=q.lt';have hs:=QaJ q.mem;obtain⟨w1,w2⟩:=Jg (W p q.mem);have g:=R p q.mem;rw[QeW]at g;have w:p.Laps=0\/0<p.Laps/\p.Laps<=64:=by
    cases T:(p.Laps==0)with
    |true=>exact .inl (by simpa using T)
    |false=>
     rw[T]at g;simp only[Vu,inR,X0,Vv]at g;exact .inr ⟨by omega,by omega⟩
   have V:=QmQ p;have t:Ev (λn=>((bif decide (0<p.Laps)then(F_m n p.Parts).bind λL=>some L else some [p.Mat]):Option (List Int))) (lapS p):=by
    rw[Qes];refine Qb4 (λh=>?_) (λ_=>Qa _);rw[Qad]at hs;refine Ea (Y (szPs p.Parts) (by omega) p.Parts (XX _) (by omega) w1 w2 ?_) (Qa _);have:(p.Laps==0)=false:=by
     simp only[Vv]at h;exact beq_false_of_ne (by omega)
    rw[this]at g;simp only[Vu,X0]at g;exact g.2.2.2
   obtain⟨d,u,B⟩:=inner p (lapS p) w (by omega) 0 _ a (Xy _) (by omega);rw[expS];rcases B with rfl|⟨y,rfl⟩
   .obtain⟨F,q1,X⟩:=H (i+1) (repS (p.Laps.toNat+(bif decide (0<p.Laps)then 0 else 1)) a (lapS p)) N (by omega) (by
     have:=QeS (p.Laps.toNat+(bif decide (0<p.Laps)then 0 else 1)) a (lapS p);omega)
    refine⟨F,Ew ?_ q1,X⟩;unfold F_fp;simp only[q.lt,Vt,q.ix,XN,q.nx];exact Ea t (Ea u.ev (Qa _))
   .refine⟨.done (repS (p.Laps.toNat+(bif decide (0<p.Laps)then 0 else 1)) a (lapS p)),Ej ?_,.inr (by rw[Qiz r y])⟩;unfold F_fp;simp only[q.lt,Vt,q.ix,XN,q.nx];exact Ea t (Ea u.ev (Qa _))
 obtain⟨d,u,B⟩:=loop l 0 [] rfl (XY _) (by simp);rcases B with rfl|rfl
 .exact Ea u.ev (Qa _)
 .exact Ea u.ev (Qa _)
def kindAt(c:Course)(m:Int):Int:=((c.Mats[m.toNat]?).map (·.Kind)).getD 0
def hasLeg(c:Course)(a b:Int):Bool:=c.Legs.any λl=>(l.From==a)&&(l.To==b)
def rokS(c:Course)(len:Nat):Nat->Int->List Int->Bool
 |_,_,[]=>true
 |i,prev,m::r=>((kindAt c m==1)==decide (i=0))&&(((kindAt c m==3)==decide (i+1=len))&&((decide (i=0)||hasLeg c prev m)&&rokS c len (i+1) m r))
def routeR(c:Course)(d:Distance)(r:List Int):Bool:=
 (decide (2<=r.length)&&decide (r.length<=256))&&(rokS c r.length 0 0 r&&((bif decide (0<=d.Extra)then !((r.count d.Extra:Int)==0)&&((kindAt c d.Extra==2)&&hasLeg c d.Extra d.Extra)else true)&&d.Cutoffs.all λx=>decide (x.Lap<=(r.count x.Mat:Int))))
def routeS(c:Course)(d:Distance):Bool:=routeR c d (expS [] d.Route)
def cntM(l:List Int):List (Int×Int):=l.foldl (λm k=>QH m k (QV m k 0+1)) []
theorem Qlu(l:List Int)(k:Int):cntM (l++[k])=QH (cntM l) k (QV (cntM l) k 0+1):=by unfold cntM;rw[XG];rfl
theorem QfD(l:List Int)(k:Int):QV (cntM l) k 0=(l.count k:Int):=by
 have a:∀(l:List Int) (m:List (Int×Int)),QV (l.foldl (λm k=>QH m k (QV m k 0+1)) m) k 0=QV m k 0+(l.count k:Int):=by
  intro l
  induction l with
  |nil=>intro m;simp
  |cons x l b=>
   intro m;rw[XH,b,Qe1,List.count_cons];by_cases h:k=x
   .subst h;simp;omega
   .have:(x==k)=false:=beq_false_of_ne λe=>h e.symm;simp[h,this]
 have:=a l [];simpa[cntM,Qk9]using this
theorem Qjp(d:Int):∀(m:Nat) (l:List Part) (a:List Int),szPs l<=m->partsS d l=true->(∀x∈a,0<=x/\x<=d)->∀x∈expS a l,0<=x/\x<=d:=by
 intro m
 induction m using Nat.strongRecOn with
 |_ m z=>
 intro l;have n:∀(k:Nat) (a b:List Int),(∀x∈a,0<=x/\x<=d)->(∀x∈b,0<=x/\x<=d)->∀x∈repS k a b,0<=x/\x<=d:=by
  intro k
  induction k with
  |zero=>intro a b f _;rw[repS];exact f
  |succ k t=>
   intro a b f w;rw[repS];split
   .exact f
   .refine t _ _ ?_ w;intro x i;rcases VH.1 i with h|h
    .exact f x h
    .exact w x h
 have j:∀(r:List Part) (a:List Int),szPs r<=m->partsS d r=true->(∀x∈a,0<=x/\x<=d)->∀x∈expS a r,0<=x/\x<=d:=by
  intro r
  induction r with
  |nil=>intro a _ _ h;rw[expS];exact h
  |cons p r u=>
   intro a q g h;rw[szPs,Qad]at q;rw[partsS,X0]at g;obtain⟨e,B⟩:=g;rw[expS];refine u _ (by omega) B (n _ _ _ h ?_);rw[Qes];rw[QeW]at e;cases s:(p.Laps==0)with
   |true=>
    have y:p.Laps=0:=by simpa using s
    rw[s,Vt,X0]at e;have:=e.1;unfold inR at this;simp only[X0,Vv]at this;rw[y];intro x i;simp at i;subst i;exact this
   |false=>
    rw[s]at e;simp only[Vu,X0,inR,Vv]at e;rw[Ys (show 0<p.Laps by omega),Vt];exact z (szPs p.Parts) (by omega) p.Parts [] (XX _) e.2.2.2 (by simp)
 exact λa q g h=>j l a q g h
theorem Qku{c:Course}{m:Int}(h0:0<=m)(b:m<=(c.Mats.length:Int)-1):∃x:Mat,idx c.Mats m=some x/\x.Kind=kindAt c m:=by
 obtain⟨k,rfl⟩:∃k:Nat,m=(k:Int):=⟨m.toNat,by omega⟩;have a:k<c.Mats.length:=by omega
 refine⟨c.Mats[k],YT (XO a),?_⟩;unfold kindAt;rw[Int.toNat_natCast,XO a];rfl
theorem Qic(c:Course)(a b:Int):QV (Ym legKey true c.Legs) {from_:=a,to_:=b} false=hasLeg c a b:=by
 rw[Qd1];unfold hasLeg;by_cases h:({from_:=a,to_:=b}:Uh)∈c.Legs.map legKey
 .rw[Vx h];obtain⟨l,d,e⟩:=Xf.1 h;unfold legKey at e;obtain⟨g,f⟩:=ends_eq.1 e;exact(Xv.2 ⟨l,d,by simp[g,f]⟩).symm
 .rw[Vw h]
  symm
  rw[VQ];intro q;obtain⟨l,d,e⟩:=Xv.1 q;simp only[X0,VC]at e;exact h (Xf.2 ⟨l,d,by unfold legKey;rw[e.1,e.2]⟩)
structure NumOk (c:Course):Prop where
 kinds:∀m∈c.Mats,1<=m.Kind/\m.Kind<=3
 dist:∀d∈c.Distances,-1<=d.Extra/\d.Extra<=(c.Mats.length:Int)-1/\partsS ((c.Mats.length:Int)-1) d.Route=true
theorem QnR{c:Course}(h:numbersS c=true):NumOk c:=by
 unfold numbersS at h;simp only[X0,Xu]at h;refine⟨λm f=>?_,λd e=>?_⟩
 .have:=h.1 m f;unfold inR at this;simpa using this
 .have:=h.2.2.2.1 d e;unfold distS at this;simp only[X0]at this;obtain⟨_,a,b,_⟩:=this;unfold inR at a;simp only[X0,Vv]at a;exact⟨a.1,a.2,b⟩
theorem Qp0{c:Course}(q:NumOk c){d:Distance}(hd:d∈c.Distances):∀x∈expS [] d.Route,0<=x/\x<=(c.Mats.length:Int)-1:=
 Qjp _ _ d.Route [] (XX _) (q.dist d hd).2.2 (by simp)
theorem Qmm(c:Course)(len i:Nat)(prev m:Int)(r:List Int):rokS c len i prev (m::r)=(((kindAt c m==1)==decide (i=0))&&(((kindAt c m==3)==decide (i+1=len))&&((decide (i=0)||hasLeg c prev m)&&rokS c len (i+1) m r))):=rfl
theorem Qoj(i:Nat):((i:Int)==0)=decide (i=0):=by
 rw[X3];simp
theorem Qf1(c:Course)(r:List Int)(z:2<=r.length)(R:r.length<=256)(N:∀x∈r,0<=x/\x<=(c.Mats.length:Int)-1):
  Ev (λn=>iter (F_cy n c (Ym legKey true c.Legs) r) n ([],0)) (bif rokS c r.length 0 0 r then .cont (cntM r)else .done false):=by
 have loop:∀(t:List Int) (i:Nat) (b:Int),r.drop i=t->i<=r.length->(0<i->At r (i-1) b)->EvI (λn=>F_cy n c (Ym legKey true c.Legs) r) (cntM (r.take i),(i:Int)) (bif rokS c r.length i b t then .cont (cntM r)else .done false):=by
  intro t
  induction t with
  |nil=>
   intro i b f q _;refine Ej ?_;unfold F_cy;simp only[YM f q,Vu,rokS,Vt];have:r.length<=i:=by simpa using f
   rw[VM this];exact Qa _
  |cons m t M=>
   intro i b f q F;obtain⟨d,k⟩:=Q2 (by omega) f;have y:=d.lt';obtain⟨O,L⟩:=N m d.mem;obtain⟨x,G,E⟩:=Qku O L;have J:IntKind.i64.wrap ((r.length:Int)-1)=((r.length-1:Nat):Int):=by rw[Yw (by omega) (by omega)];omega
   have H:((i:Int)==((r.length-1:Nat):Int))=decide (i+1=r.length):=by rw[X3];simp;omega
   have u:Ev (λn:Nat=>((bif ((x.Kind==1) != ((i:Int)==0))then some true else(bif ((x.Kind==3) != ((i:Int)==(IntKind.i64.wrap ((r.length:Int)-1))))then some true else(bif decide (0<(i:Int))then(idx r (IntKind.i64.wrap ((i:Int)-1))).bind λj=>(some (QV (Ym legKey true c.Legs) ({from_:=j,to_:=m:Uh}) false)).bind λg=>some (!g)else some false))):Option Bool))
     (!(((kindAt c m==1)==decide (i=0))&&(((kindAt c m==3)==decide (i+1=r.length))&&(decide (i=0)||hasLeg c b m)))):=by
    rw[E,J,H,Qoj];refine Ev.eq (Eu λ_=>Eu λ_=>Qb4 (v:= !hasLeg c b m) (w:=false) (λh=>?_) λ_=>Qa _) ?_
    .have p:0<i:=by simpa using h
     have B:IntKind.i64.wrap ((i:Int)-1)=((i-1:Nat):Int):=by rw[Yw (by omega) (by omega)];omega
     rw[B,(F p).ix];simp only[XN,Qic];exact Qa _
    .have P:decide (0<(i:Int))= !decide (i=0):=by rw[X3];simp;omega
     rw[P];cases(kindAt c m==1)<;>cases decide (i=0)<;>cases(kindAt c m==3)<;>cases decide (i+1=r.length)<;>cases hasLeg c b m<;>rfl
   have e:IntKind.i64.wrap (QV (cntM (r.take i)) m 0+1)=QV (cntM (r.take i)) m 0+1:=by
    rw[QfD];have:(r.take i).count m<=i:=by have:=List.count_le_length (a:=m) (l:=r.take i);simp at this;omega
    exact Yw (by omega) (by omega)
   have step:Ev (λn=>F_cy n c (Ym legKey true c.Legs) r (cntM (r.take i),(i:Int))) (bif ((kindAt c m==1)==decide (i=0))&&(((kindAt c m==3)==decide (i+1=r.length))&&(decide (i=0)||hasLeg c b m))then .cont (cntM (r.take (i+1)),((i+1:Nat):Int))else .done (.done false)):=by
    unfold F_cy;simp only[d.lt,Vt,d.ix,XN,d.nx,G];refine Ea u ?_;rw[e, <- Qlu, <- d.take];cases(((kindAt c m==1)==decide (i=0))&&(((kindAt c m==3)==decide (i+1=r.length))&&(decide (i=0)||hasLeg c b m)))<;>exact Qa _
   have Q:rokS c r.length i b (m::t)=((((kindAt c m==1)==decide (i=0))&&(((kindAt c m==3)==decide (i+1=r.length))&&(decide (i=0)||hasLeg c b m)))&&rokS c r.length (i+1) m t):=by rw[Qmm];simp only[Bool.and_assoc]
   rw[Q];cases s:(((kindAt c m==1)==decide (i=0))&&(((kindAt c m==3)==decide (i+1=r.length))&&(decide (i=0)||hasLeg c b m)))with
   |false=>
    rw[s]at step;exact Ej step
   |true=>
    rw[s]at step;rw[VE];exact Ew step (M (i+1) m k (by omega) (λ_=>by simpa using d))
 exact(loop r 0 0 rfl (XY _) (by omega)).ev
theorem QjF(c:Course)(w:CourseOk c)(q:NumOk c)(d:Distance)(b:d∈c.Distances)(l:∀x∈d.Route,Part.wf x)(u:szPs d.Route<=256):
  Ev (λn=>F_cc n c d (Ym legKey true c.Legs)) (routeS c d):=by
 have j:=Qa9 d.Route;have i:=Qp0 q b;have a:=Qiy _ d.Route [] (XX _);unfold F_cc routeS;refine Ea (Qln _ _ d.Route (XX _) u (by omega) l (q.dist d b).2.2) ?_;generalize expS [] d.Route=r at i a⊢;unfold routeR;have y:IntKind.i64.wrap ((r.length:Int)-1)=(r.length:Int)-1:=by
  have:r.length<=1048576:=by simp at a;omega
  exact QcL this
 rw[y];have p:(decide ((r.length:Int)-1<1)||decide (256<=(r.length:Int)-1))= !(decide (2<=r.length)&&decide (r.length<=256)):=by
  rw[X3];simp;omega
 refine Ea (Ev.eq (Eu λ_=>Qa _) p) ?_;cases h:(decide (2<=r.length)&&decide (r.length<=256))with
 |false=>exact Qa _
 |true=>
  simp only[X0,Vv]at h;rw[VE];refine Qax (Ea (Qf1 c r h.1 h.2 i) ?_);cases rokS c r.length 0 0 r with
  |false=>exact Qa _
  |true=>
   simp only[Vt,VE];have z:Ev (λn:Nat=>((bif decide (0<=d.Extra)then(some (QV (cntM r) d.Extra 0)).bind λf=>(bif (f==0)then some true else(idx c.Mats d.Extra).bind λg=>(bif (g.Kind != 2)then some true else(some (QV (Ym legKey true c.Legs) ({from_:=d.Extra,to_:=d.Extra:Uh}) false)).bind λe=>some (!e)))else some false):Option Bool))
     (!(bif decide (0<=d.Extra)then !((r.count d.Extra:Int)==0)&&((kindAt c d.Extra==2)&&hasLeg c d.Extra d.Extra)else true)):=by
    rw[QfD];cases s:decide (0<=d.Extra)with
    |false=>exact Qa _
    |true=>
     obtain⟨x,t,k⟩:=Qku (c:=c) (m:=d.Extra) (by simpa using s) (q.dist d b).2.1;simp only[Vt,XN,t,Qic,k];refine Ev.eq (Eu λ_=>Eu λ_=>Qa _) ?_;rw[bne];cases((r.count d.Extra:Int)==0)<;>cases(kindAt c d.Extra==2)<;>cases hasLeg c d.Extra d.Extra<;>rfl
   refine Ea z ?_;cases(bif decide (0<=d.Extra)then !((r.count d.Extra:Int)==0)&&((kindAt c d.Extra==2)&&hasLeg c d.Extra d.Extra)else true)with
   |false=>exact Qa _
   |true=>
    rw[VE];refine Qax (Ea ?_ (Qa _));unfold F_ff F_ev F_du;refine Jk d.Cutoffs _ (λn x=>F_bn n x (cntM r)) (by have:=w.cut d b;omega) λx _=>?_;unfold F_bn;rw[QfD];exact Qa _
theorem QdS{a b:Nat}(h:a+b<=4611686018427387904):IntKind.i64.wrap ((a:Int)+(b:Int))=((a+b:Nat):Int):=by
 rw[Yw (by omega) (by omega)];omega
def lensC(c:Course):Nat:=c.Mats.length+c.Legs.length+c.Distances.length+c.Waves.length+c.Offences.length+c.Categories.length+c.Prizes.length
def fewD(d:Distance):Prop:=d.Cutoffs.length<=200/\szPs d.Route<=200/\hPs d.Route<=16
structure FewOk (c:Course):Prop where
 lens:lensC c<=200
 name:c.Name.length<=100
 dist:∀d∈c.Distances,fewD d
 ties:c.Ties.length<=200
theorem Qht(c:Course)(w:CourseOk c)(q:PartsOk c)(hl:c.Ties.length<=1048576)(P:∀x∈c.Ties,Step.wf x):∃b,Ev (λn=>F_aa n c) b/\(b=true->FewOk c):=by
 have hm:=w.mats;have hg:=w.legs;have hd:=w.dist;have J:=w.wave;have ho:=w.off;have hc:=w.cat;have hp:=w.prize;have loop:∀(t:List Distance) (i s:Nat),c.Distances.drop i=t->i<=c.Distances.length->∃f:Ctl Int Bool,EvI (λn=>F_bq n c) ((s:Int),(i:Int)) f/\(f=.done false\/ ∃v:Nat,f=.cont (v:Int)/\(v<=200->s<=v/\ ∀d∈t,fewD d)):=by
  intro t
  induction t with
  |nil=>
   intro i s r H;refine⟨.cont (s:Int),Ej ?_,Or.inr ⟨s,rfl,λ_=>⟨XX _,by simp⟩⟩⟩;unfold F_bq;simp only[YM r H,Vu,XN];exact Qa _
  |cons d t V=>
   intro i s r H;obtain⟨j,y⟩:=Q2 (by omega) r;have L:=j.lt';by_cases hs:s<=200
   .have g:=q.len d j.mem;have m:=q.wf d j.mem;have G:=w.cut d j.mem;have E:=QiC _ d.Route (XX _) g m;have F:=QiB _ d.Route 17 (XX _) (XX _) g m;have Q:IntKind.i64.wrap ((s:Int)+(d.Cutoffs.length:Int))=((s+d.Cutoffs.length:Nat):Int):=QdS (by omega);have O:IntKind.i64.wrap (((s+d.Cutoffs.length:Nat):Int)+((min (szPs d.Route) 257:Nat):Int))=((s+d.Cutoffs.length+min (szPs d.Route) 257:Nat):Int):=QdS (by omega);have step:Ev (λn=>F_bq n c ((s:Int),(i:Int))) (bif decide ((16:Int)<((min (hPs d.Route) 17:Nat):Int))then .done (.done false)else .cont (((s+d.Cutoffs.length+min (szPs d.Route) 257:Nat):Int),((i+1:Nat):Int))):=by
     unfold F_bq;simp only[j.lt,Vt,j.ix,XN,j.nx,Ys (show(s:Int)<=200 by omega)];refine Ea E (Ea F ?_);rw[Q,O];cases decide ((16:Int)<((min (hPs d.Route) 17:Nat):Int))<;>exact Qa _
    by_cases hh:hPs d.Route<=16
    .rw[YK (show¬(16:Int)<((min (hPs d.Route) 17:Nat):Int)by omega)]at step;obtain⟨f,p,k⟩:=V (i+1) (s+d.Cutoffs.length+min (szPs d.Route) 257) y (by omega);refine⟨f,Ew step p,?_⟩;rcases k with k|⟨v,k,z⟩
     .exact Or.inl k
     .refine Or.inr ⟨v,k,λJ=>?_⟩;obtain⟨W,B⟩:=z J;refine⟨by omega,λx u=>?_⟩;rcases Va.1 u with rfl|u
      .exact⟨by omega,by omega,hh⟩
      .exact B x u
    .rw[Ys (show(16:Int)<((min (hPs d.Route) 17:Nat):Int)by omega)]at step;exact⟨.done false,Ej step,Or.inl rfl⟩
   .refine⟨.cont (s:Int),Ej ?_,Or.inr ⟨s,rfl,λh=>absurd h hs⟩⟩;unfold F_bq;simp only[j.lt,Vt,YK (show¬(s:Int)<=200 by omega),XN,Vu];exact Qa _
 obtain⟨f,p,k⟩:=loop c.Distances 0 (lensC c) rfl (XY _);have e:IntKind.i64.wrap ((IntKind.i64.wrap ((IntKind.i64.wrap ((IntKind.i64.wrap ((IntKind.i64.wrap ((IntKind.i64.wrap ((c.Mats.length:Int)+(c.Legs.length:Int)))+(c.Distances.length:Int)))+(c.Waves.length:Int)))+(c.Offences.length:Int)))+(c.Categories.length:Int)))+(c.Prizes.length:Int))=(lensC c:Int):=by
  have T:c.Mats.length+c.Legs.length<=4611686018427387904:=by omega
  have M:c.Mats.length+c.Legs.length+c.Distances.length<=4611686018427387904:=by omega
  have Y:c.Mats.length+c.Legs.length+c.Distances.length+c.Waves.length<=4611686018427387904:=by omega
  have R:c.Mats.length+c.Legs.length+c.Distances.length+c.Waves.length+c.Offences.length<=4611686018427387904:=by omega
  have X:c.Mats.length+c.Legs.length+c.Distances.length+c.Waves.length+c.Offences.length+c.Categories.length<=4611686018427387904:=by omega
  have N:c.Mats.length+c.Legs.length+c.Distances.length+c.Waves.length+c.Offences.length+c.Categories.length+c.Prizes.length<=4611686018427387904:=by omega
  rw[QdS T,QdS M,QdS Y,QdS R,QdS X,QdS N];rfl
 unfold F_aa;rw[e];rcases k with rfl|⟨v,rfl,z⟩
 .exact⟨false,Ea p.ev (Qa _),λh=>by cases h⟩
 .obtain⟨a,b,E,F,p3,_,_,_,_⟩:=QoA _ c.Ties 0 (XX _) (by omega) hl P;have l:Ev (λn=>F_bg n c.Ties) (decide ((c.Ties.length:Int)<=20)&&(decide (a<=80)&&decide (b<=300))):=by
   unfold F_bg;exact Ea E (Ea (Ei λ_=>Ei λ_=>Qa _) (Qa _))
  refine⟨decide ((v:Int)<=200)&&(decide ((c.Name.length:Int)<=100)&&(decide ((c.Ties.length:Int)<=20)&&(decide (a<=80)&&decide (b<=300)))),Ea p.ev (Ea (Ei λ_=>Ei λ_=>Ea l (Qa _)) (Qa _)),λh=>?_⟩;simp only[X0,Vv]at h;obtain⟨W,B⟩:=z (by omega);exact⟨by omega,by omega,B,by omega⟩
def fitsS(c:Course):Bool:=
 !(decide (40<(c.Mats.length:Int))||(decide (512<(c.Legs.length:Int))||(decide (8<(c.Distances.length:Int))||(decide (32<(c.Waves.length:Int))||(decide (32<(c.Offences.length:Int))||(decide (32<(c.Categories.length:Int))||decide (32<(c.Prizes.length:Int))))))))
  &&c.Distances.all λd=> !decide (64<(d.Cutoffs.length:Int))
theorem QoB(c:Course)(w:CourseOk c)(q:PartsOk c)(k:FewOk c):Ev (λn=>F_cz n c) (fitsS c):=by
 unfold F_cz fitsS;refine Ea (Eu λ_=>Eu λ_=>Eu λ_=>Eu λ_=>Eu λ_=>Eu λ_=>Qa _) ?_;cases(decide (40<(c.Mats.length:Int))||(decide (512<(c.Legs.length:Int))||(decide (8<(c.Distances.length:Int))||(decide (32<(c.Waves.length:Int))||(decide (32<(c.Offences.length:Int))||(decide (32<(c.Categories.length:Int))||decide (32<(c.Prizes.length:Int))))))))with
 |true=>exact Qa _
 |false=>
  rw[Xi,VE];refine Qax (Ea (Ql1 c.Distances (λd=> !decide (64<(d.Cutoffs.length:Int))) (Ctl.done false) (Ctl.cont ()) (by have:=w.dist;omega) (λi x a=>?_) ?_) ?_)
  .obtain⟨e,b,f⟩:=k.dist x a.mem;unfold F_hu;simp only[a.lt,Vt,a.ix,XN,a.nx];refine Ea (Qne _ x.Route 17 (XX _) (by omega) (XX _) (by omega) (q.wf x a.mem)) ?_;refine Ea (Eu λ_=>Eu λ_=>Qa _) ?_;simp only[YK (show¬(16:Int)<(hPs x.Route:Int)by omega),YK (show¬(256:Int)<(szPs x.Route:Int)by omega),Bool.or_false];cases decide (64<(x.Cutoffs.length:Int))<;>exact Qa _
  .unfold F_hu;simp only[Qbi,Vu];exact Qa _
  .cases(c.Distances.all λd=> !decide (64<(d.Cutoffs.length:Int)))<;>exact Qa _
def courseE(c:Course):Int:=
 bif fitsS c then bif namesS c then bif numbersS c then bif tiesE c.Ties==0 then bif c.Distances.all (routeS c)then 0 else 72 else tiesE c.Ties else 71 else 70 else 2
theorem Qlo(c:Course)(w:CourseOk c)(q:PartsOk c)(k:FewOk c)(hl:c.Ties.length<=1048576)(e:∀x∈c.Ties,Step.wf x):Ev (λn=>F_r n c) (courseE c):=by
 unfold F_r courseE;refine Ea (QoB c w q k) ?_;cases fitsS c with
 |false=>exact Qa _
 |true=>
 refine Qax (Ea (Qna c w) ?_);cases namesS c with
 |false=>exact Qa _
 |true=>
 refine Qax (Ea (QjE c w q) ?_);cases f:numbersS c with
 |false=>exact Qa _
 |true=>
 refine Qax (Ea (QoC c.Ties hl e) ?_);rw[bne];cases(tiesE c.Ties==0)with
 |false=>exact Qa _
 |true=>
 have d:Ev (λn=>iter (F_hi n c) n ([],0)) (Ym legKey true c.Legs):=by
  refine QbH c.Legs legKey true (by have:=w.legs;omega) (λi x m a=>?_) (λm=>?_)
  .unfold F_hi;simp only[a.lt,Vt,a.ix,XN,a.nx];exact Qa _
  .unfold F_hi;simp only[Qbi,Vu];exact Qa _
 refine Qax (Ea d ?_);have a:Ev (λn=>F_ca n c.Distances c (Ym legKey true c.Legs)) (c.Distances.all (routeS c)):=by
  unfold F_ca F_db F_ft;refine Jk c.Distances _ (λn x=>F_cd n x c (Ym legKey true c.Legs)) (by have:=w.dist;omega) λx b=>?_;unfold F_cd;exact Ea (QjF c w (QnR f) x b (q.wf x b) (by have:=(k.dist x b).2.1;omega)) (Qa _)
 refine Ea a ?_;cases c.Distances.all (routeS c)<;>exact Qa _
theorem Qdp{α:Type}{lt:α->α->Prop}(d:∀a b,lt a b->¬lt b a):∀{l m:List α},l.Pairwise lt->m.Pairwise lt->(∀x,x∈l↔x∈m)->l=m:=by
 intro l
 induction l with
 |nil=>
  intro m _ _ h;cases m with
  |nil=>rfl
  |cons y m=>exact absurd ((h y).2 (by simp)) (by simp)
 |cons x l p=>
  intro m s q h;cases m with
  |nil=>exact absurd ((h x).1 (by simp)) (by simp)
  |cons y m=>
   obtain⟨g,n⟩:=Xc.1 s;obtain⟨k,r⟩:=Xc.1 q;have j:x=y:=by
    rcases Va.1 ((h x).1 (by simp))with e|e
    .exact e
    .rcases Va.1 ((h y).2 (by simp))with i|i
     .exact i.symm
     .exact absurd (k x e) (d _ _ (g y i))
   subst j;rw[p n r λz=>?_];constructor
   .intro f;rcases Va.1 ((h z).1 (by simp[f]))with e|e
    .subst e;exact absurd (g z f) (d _ _ (g z f))
    .exact e
   .intro f;rcases Va.1 ((h z).2 (by simp[f]))with e|e
    .subst e;exact absurd (k z f) (d _ _ (k z f))
    .exact e
theorem QbZ:∀(l:List Int) (p:Int),(∀x∈l,p<=x)->l.Pairwise (· <= ·)->(QaO p l).Pairwise (· < ·)/\(∀x∈QaO p l,p<x)/\ ∀x,x∈p::QaO p l↔x∈p::l
 |[],p,_,_=>⟨List.Pairwise.nil,by simp[QaO],by simp[QaO]⟩
 |y::l,p,h,hp=>by
  obtain⟨h1,h2⟩:=Xc.1 hp;unfold QaO;by_cases e:y=p
  .subst e;obtain⟨k1,k2,k3⟩:=QbZ l y h1 h2;rw[beq_self_eq_true,Vt];refine⟨k1,k2,λx=>?_⟩;rw[k3 x];simp
  .have e':(y==p)=false:=by simpa using e
   rw[e',Vu];obtain⟨k1,k2,k3⟩:=QbZ l y h1 h2;have b:=h y (by simp);refine⟨Xc.2 ⟨k2,k1⟩,λx a=>?_,λx=>?_⟩
   .rcases Va.1 a with rfl|a
    .omega
    .have:=k2 x a;omega
   .rw[Va,k3 x];simp
theorem QjL(l:List Int):(QiN (YF ltI l)).Pairwise (· < ·)/\ ∀x,x∈QiN (YF ltI l)↔x∈l:=by
 have e:(YF ltI l).Pairwise (· <= ·):=(QS (QcW l)).imp λ{a b} h=>by simp[ltI]at h;exact h
 have d:∀x,x∈YF ltI l↔x∈l:=λx=>(Qn ltI l).mem_iff;generalize YF ltI l=m at e d;cases m with
 |nil=>exact⟨List.Pairwise.nil,λx=>by rw[<- d x];rfl⟩
 |cons y m=>
  obtain⟨g,j⟩:=Xc.1 e;obtain⟨k,i,f⟩:=QbZ m y g j;exact⟨Xc.2 ⟨i,k⟩,λx=>(f x).trans (d x)⟩
theorem Qkk{α:Type}(l:List α){a b:Nat}(h:a<=b)(d:b<=l.length):slc l (a:Int) (b:Int)=some ((l.take b).drop a):=by
 unfold slc;rw[Ys (show(0:Int)<=(a:Int)by omega),Ys (show(a:Int)<=(b:Int)by omega),Ys (show(b:Int)<=(l.length:Int)by omega)];simp
theorem Qpl{α:Type}(l:List α){b:Nat}(a:b<=l.length):slc l 0 (b:Int)=some (l.take b):=by
 have:=Qkk l (XY b) a;simpa using this
theorem Qmg{α:Type}(l:List α){a:Nat}(b:a<=l.length):slc l (a:Int) (l.length:Int)=some (l.drop a):=by
 have:=Qkk l b (XX _);simpa using this
theorem Qby{α:Type}(l m:List α)(h:l.length+m.length<=4294967296):app l m=some (l++m):=by
 unfold app;rw[XW (by unfold Qy;exact h)];rfl
theorem Qmj{α:Type}(l:List α){i:Nat}(x:α)(h:i<l.length):Qct l (i:Int) x=some (l.set i x):=by
 unfold Qct;rw[Ys (show(0:Int)<=(i:Int)by omega),Ys (show(i:Int)<(l.length:Int)by omega)];simp
def firstI{α:Type}(q:α->Bool):List α->Nat->Int
 |[],_=> -1
 |x::l,i=>bif q x then(i:Int)else firstI q l (i+1)
theorem Ev.first{α:Type}{step:Nat->Int->Option (Ctl Int (Ctl Unit Int))}(l:List α)(q:α->Bool)(hl:l.length<=4611686018427387904)
  (m:∀i x,At l i x->Ev (λn=>step n (i:Int)) (bif q x then .done (.done (i:Int))else .cont ((i+1:Nat):Int)))(t:Ev (λn=>step n (l.length:Int)) (.done (.cont ()))):
  Ev (λn=>(Go.Sw.iter (step n) n 0).bind λb=>match b with|.cont _=>some (-1)|.done v=>some v) (firstI q l 0):=by
 have loop:∀(r:List α) (i:Nat),l.drop i=r->i<=l.length->∃a:Ctl Unit Int,EvI step (i:Int) a/\(match a with|.cont _=>some (-1)|.done v=>some v)=some (firstI q r i):=by
  intro r
  induction r with
  |nil=>
   intro i d p;have:i=l.length:=by have:=Xs.1 d;omega
   subst this;exact⟨.cont (),Ej t,rfl⟩
  |cons x r k=>
   intro i d p;obtain⟨j,g⟩:=Q2 hl d;have s:=m i x j;unfold firstI;cases h:q x with
   |true=>
    rw[h]at s;exact⟨_,Ej s,rfl⟩
   |false=>
    rw[h]at s;obtain⟨a,e,f⟩:=k (i+1) g (by have:=j.lt';omega);exact⟨a,Ew s e,f⟩
 obtain⟨a,e,f⟩:=loop l 0 rfl (XY _);exact Ea e.ev (Ez f)
theorem QaT{ι α:Type}{F:Nat->ι->Option α}{V:ι->α}:∀(L:List ι),(∀p∈L,Ev (λn=>F n p) (V p))->∃N,∀n,N<=n->∀p∈L,F n p=some (V p)
 |[],_=>⟨0,λ_ _ p hp=>by cases hp⟩
 |x::L,h=>by
  obtain⟨N,hN⟩:=QaT L λp hp=>h p (by simp[hp]);obtain⟨M,hM⟩:=h x (by simp);refine⟨N+M,λn hn p hp=>?_⟩;rcases Va.1 hp with rfl|hp
  .exact hM n (by omega)
  .exact hN n (by omega) p hp
theorem Ev.anyP{E R:Type}[DecidableEq R]{k:Nat->List E->Option R}{l:List E}{r:R}(h:∀p,p.Perm l->Ev (λn=>k n p) r):Ev (λn=>Go.Sw.anyP (k n) l) r:=by
 obtain⟨N,b⟩:=QaT (F:=λn p=>k n p) (V:=λ_=>r) (QbT l) λp a=>h p (Qcx l p a);exact⟨N,λn d=>QkN λp a=>b n d p (Qdu l p a)⟩
theorem Ev.isNil{α R:Type}[DecidableEq R]{l:List α}{x y:Nat->Option R}{v:R}(e:l=[]->Ev x v)(a:Ev y v):Ev (λn=>Go.Sw.isNil l (x n) (y n)) v:=by
 unfold Go.Sw.isNil;cases q:l.isEmpty with
 |false=>exact a
 |true=>
  obtain⟨N,b⟩:=e (List.isEmpty_iff.1 q);obtain⟨M,d⟩:=a;exact⟨N+M,λn f=>by dsimp only;rw[b n (by omega),d n (by omega)];simp⟩
set_option maxRecDepth 4000
def openU(f:Fact):U_facts_open_rxk:=
 bif f.Kind==1 then .c0 ()else bif f.Kind==2 then .c1 ()else bif f.Kind==3 then .c2 ()else bif f.Kind==4 then .c3 ()else bif f.Kind==5 then .c4 ()else bif f.Kind==6 then .c5 ()
 else bif f.Kind==7 then .c6 ()else bif f.Kind==8 then .c7 ()else bif f.Kind==9 then .c8 ()else bif f.Kind==10 then
  (bif (f.Ruling.Kind==1)||(f.Ruling.Kind==2)then .c9 (0,0,0,0,0,0)else bif f.Ruling.Kind==3 then .c9 (1,9999,0,255,1,1099511627776)else bif f.Ruling.Kind==4 then .c9 (1,9999,0,255,1,64)else .c9 (1,9999,0,255,0,0))
 else bif f.Kind==11 then .c10 ()else bif f.Kind==12 then .c11 ()else bif f.Kind==13 then .c12 ()else .c13 ()
theorem Qkr(n:Nat)(f:Fact)(b:Int):F_ai n f b=some (openU f):=by
 unfold F_ai openU;cases(f.Kind==1)with
 |true=>rfl
 |false=>
 cases(f.Kind==2)with
 |true=>rfl
 |false=>
 cases(f.Kind==3)with
 |true=>rfl
 |false=>
 cases(f.Kind==4)with
 |true=>rfl
 |false=>
 cases(f.Kind==5)with
 |true=>rfl
 |false=>
 cases(f.Kind==6)with
 |true=>rfl
 |false=>
 cases(f.Kind==7)with
 |true=>rfl
 |false=>
 cases(f.Kind==8)with
 |true=>rfl
 |false=>
 cases(f.Kind==9)with
 |true=>rfl
 |false=>
 cases(f.Kind==10)with
 |true=>
  cases(f.Ruling.Kind==1)with
  |true=>rfl
  |false=>
  cases(f.Ruling.Kind==2)with
  |true=>rfl
  |false=>
  cases(f.Ruling.Kind==3)with
  |true=>rfl
  |false=>
  cases(f.Ruling.Kind==4)with
  |true=>rfl
  |false=>rfl
 |false=>
 cases(f.Kind==11)with
 |true=>rfl
 |false=>
 cases(f.Kind==12)with
 |true=>rfl
 |false=>
 cases(f.Kind==13)with
 |true=>rfl
 |false=>rfl
def headL:List Ent:=[⟨false,3,1,13⟩,⟨false,0,0,31⟩,⟨false,1,1,1048576⟩,⟨false,2,0,1099511627776⟩]
def bodyL:U_facts_open_rxk->List Ent
 |.c0 _=>[⟨false,4,1,9999⟩,⟨false,5,0,7⟩,⟨false,6,0,31⟩,⟨false,7,(-1099511627776),1099511627776⟩,⟨false,8,0,120⟩,⟨false,9,0,1048576⟩,⟨false,10,0,9999⟩,⟨false,11,0,1048576⟩]
 |.c1 _=>[⟨false,12,0,39⟩,⟨false,13,0,255⟩,⟨false,14,0,1048576⟩,⟨false,15,(-1099511627776),1099511627776⟩]
 |.c2 _=>[⟨false,16,0,39⟩,⟨false,17,0,255⟩,⟨false,18,(-1099511627776),1099511627776⟩,⟨false,19,(-1099511627776),1099511627776⟩,⟨false,20,0,1099511627776⟩]
 |.c3 _=>[⟨false,21,0,39⟩,⟨false,22,0,255⟩,⟨false,23,(-1099511627776),1099511627776⟩,⟨false,24,0,39⟩,⟨false,25,0,255⟩,⟨false,26,(-1099511627776),1099511627776⟩,⟨false,27,(-1099511627776),1099511627776⟩,⟨false,28,(-1099511627776),1099511627776⟩]
 |.c4 _=>[⟨false,29,1,9999⟩,⟨false,30,0,255⟩,⟨false,31,(-1099511627776),1099511627776⟩,⟨false,32,(-1099511627776),1099511627776⟩]
 |.c5 _=>[⟨false,33,0,39⟩,⟨false,34,0,255⟩,⟨false,35,(-1099511627776),1099511627776⟩,⟨false,36,(-1099511627776),1099511627776⟩]
 |.c6 _=>[⟨false,37,1,9999⟩,⟨false,38,1,9999⟩]
 |.c7 _=>[⟨false,39,1,1048576⟩,⟨false,40,1,9999⟩,⟨false,41,0,31⟩,⟨false,42,0,255⟩]
 |.c8 _=>[⟨false,43,1,1048576⟩,⟨false,44,0,9999⟩,⟨false,45,0,1125899906842624⟩,⟨false,46,0,1⟩]
 |.c9 x=>[⟨false,47,1,1048576⟩,⟨false,48,1,2⟩,⟨false,49,1,5⟩,⟨false,50,x.1,x.2.1⟩,⟨false,51,x.2.2.1,x.2.2.2.1⟩,⟨false,52,x.2.2.2.2.1,x.2.2.2.2.2⟩]
 |.c10 _=>[⟨false,53,1,1048576⟩,⟨true,0,0,1⟩]
 |.c11 _=>[]
 |.c12 _=>[⟨false,55,0,31⟩,⟨false,56,1,1048576⟩]
 |.c13 _=>[]
def fineU(f:Fact):U_facts_open_rxk->Bool
 |.c3 _=>decide (f.Sync.Min<=f.Sync.Max)
 |.c4 _=>decide (f.Hand.Lo<=f.Hand.Hi)
 |.c5 _=>decide (f.Silence.Lo<=f.Silence.Hi)
 |.c6 _=>decide (f.Pair.A<f.Pair.B)
 |.c13 _=>false
 |_=>true
def entsS(f:Fact):List Ent:=headL++bodyL (openU f)
def goodE(e:Ent):Bool:=bif e.fl then e.off==0 else decide (e.off<57)&& !(e.off==54)
theorem Qlq(f:Fact):∀e∈entsS f,goodE e=true:=by
 have h:∀u:U_facts_open_rxk,(headL++bodyL u).all goodE=true:=by intro u;cases u<;>rfl
 exact Xu.1 (h (openU f))
theorem Qfz(f:Fact):(entsS f).length<=12:=by
 have h:∀u:U_facts_open_rxk,(headL++bodyL u).length<=12:=by intro u;cases u<;>exact XV rfl
 exact h (openU f)
def isI:Option A->Bool
 |some (.int .i64 _)=>true
 |_=>false
theorem QpU{x:Option A}(h:isI x=true):∃v,x=some (.int .i64 v):=by
 unfold isI at h;split at h
 .exact⟨_,rfl⟩
 .cases h
theorem QmW{f:Fact}{b:Int}{e:Ent}(h:goodE e=true):∃v,Qf0 (Fact.c f) b e=some v:=by
 unfold goodE at h;unfold Qf0;cases a:e.fl with
 |true=>
  rw[a]at h;simp only[Vt]at h⊢;rw[h];exact⟨b,rfl⟩
 |false=>
  rw[a]at h;simp only[Vu,X0,Vv,Bool.not_eq_true']at h⊢;have all:(List.range 57).all (λo=>(o==54)||isI (Fact.c f)[o]?)=true:=by rfl
  have:=Xu.1 all e.off (List.mem_range.2 h.1);rw[h.2,Bool.false_or]at this;obtain⟨v,d⟩:=QpU this;rw[d];exact⟨v,rfl⟩
theorem Qmn{x:Fact}{s v:Int}{e:Ent}(h:goodE e=true):∃q,Qjm Fact.put x s e v=some q:=by
 unfold goodE at h;unfold Qjm;cases a:e.fl with
 |true=>
  rw[a]at h;simp only[Vt]at h⊢;rw[h];exact⟨_,rfl⟩
 |false=>
  rw[a]at h;simp only[Vu,X0,Vv,Bool.not_eq_true']at h⊢;have all:(List.range 57).all (λo=>(o==54)||(Fact.put x o v).isSome)=true:=by rfl
  have:=Xu.1 all e.off (List.mem_range.2 h.1);rw[h.2,Bool.false_or]at this;obtain⟨y,b⟩:=Option.isSome_iff_exists.1 this;rw[b];exact⟨_,rfl⟩
def getV(f:Fact)(b:Int)(e:Ent):Int:=(Qf0 (Fact.c f) b e).getD 0
def putV(x:Fact)(s:Int)(e:Ent)(v:Int):Fact×Int:=(Qjm Fact.put x s e v).getD (x,s)
theorem QmX{f:Fact}{b:Int}{e:Ent}(h:goodE e=true):Qf0 (Fact.c f) b e=some (getV f b e):=by
 obtain⟨v,a⟩:=QmW (f:=f) (b:=b) h;unfold getV;rw[a];rfl
theorem Qpy{x:Fact}{s v:Int}{e:Ent}(h:goodE e=true):Qjm Fact.put x s e v=some (putV x s e v):=by
 obtain⟨q,a⟩:=Qmn (x:=x) (s:=s) (v:=v) h;unfold putV;rw[a];rfl
def inE(f:Fact)(b:Int)(e:Ent):Bool:= !(decide (getV f b e<e.lo))&& !(decide (e.hi<getV f b e))
def numR(f:Fact)(b:Int):List Ent->List Int×Fact×Int->Ctl (List Int×Fact×Int) (List Int×Bool)
 |[],a=>.cont a
 |e::r,a=>bif inE f b e then numR f b r (a.1++[getV f b e],putV a.2.1 a.2.2 e (getV f b e))else .done ([],false)
theorem Qhx{α:Type}(l m:List α)(h:l.length+m.length<=1000):app l m=some (l++m):=by
 unfold app;have:Nat.ble (l.length+m.length) Qy=true:=XW (XZ h (by decide));rw[this];rfl
theorem Qoi(f:Fact)(b:Int)(E:List Ent)(hE:∀e∈E,goodE e=true)(hl:E.length<=12):∀(r:List Ent) (i:Nat) (a:List Int×Fact×Int),E.drop i=r->i<=E.length->a.1.length=i->
  EvI (λn=>F_dl n f b E E) (a.1,a.2.1,a.2.2,(i:Int)) (numR f b r a):=by
 intro r
 induction r with
 |nil=>
  intro i a j p g;refine Ej ?_;unfold F_dl;simp only[YM j p,Vu];exact Qa _
 |cons e r t=>
  intro i a j p k;obtain⟨g,m⟩:=Q2 (by omega) j;have l:=hE e g.mem;have s:=g.lt';unfold numR;cases d:inE f b e with
  |true=>
   have h:=d;unfold inE at h;simp only[X0,Bool.not_eq_true']at h;refine Ew ?_ (t (i+1) (a.1++[getV f b e],putV a.2.1 a.2.2 e (getV f b e)) m (by omega) (by simp[k]));unfold F_dl;simp only[g.lt,Vt,g.ix,XN,g.nx,QmX l,h.1,h.2,Vu,Qpy l];rw[Qhx a.1 [getV f b e] (by simp;omega)];exact Qa _
  |false=>
   refine Ej ?_;unfold F_dl;simp only[g.lt,Vt,g.ix,XN,QmX l];unfold inE at d;cases q:decide (getV f b e<e.lo)with
   |true=>exact Qa _
   |false=>
    rw[q]at d;simp only[Xi,VE,Bool.not_eq_false']at d;simp only[Vu,d,Vt];exact Qa _
def suspB(f:Fact):Int:=bif f.Appeal.Suspends then 1 else 0
def restS(f:Fact):Fact:={Up with Ruling:={Ux with Kind:=f.Ruling.Kind:Ruling},Kind:=f.Kind:Fact}
def lastF(f x:Fact)(s:Int):Fact:=
 let y:Fact:=bif f.Kind != 10 then {x with Ruling:={x.Ruling with Kind:=0:Ruling}:Fact}else x
 {y with Appeal:={Case:=y.Appeal.Case,Suspends:=s==1:Appeal}:Fact}
def numF(f:Fact):List Int×Bool:=bif fineU f (openU f)then(match numR f (suspB f) (entsS f) ([],restS f,0)with
  |.cont a=>(a.1,lastF f a.2.1 a.2.2==f)
  |.done r=>r)else([],false)
theorem Qlt(n:Nat)(f:Fact):F_cn n ({Up with Ruling:={Ux with Kind:=f.Ruling.Kind:Ruling}:Fact}) 0 f=some (entsS f):=by
 have a:openU ({({Up with Ruling:={Ux with Kind:=f.Ruling.Kind:Ruling}:Fact})with Kind:=f.Kind:Fact})=openU f:=rfl;unfold F_cn entsS;rw[Qkr];simp only[XN];rw[a];unfold F_ab;generalize openU f=u;cases u<;>(simp only[XN];unfold bodyL;exact congrArg (Option.bind · _) (Qhx _ _ (by simp)))
theorem QkH(f:Fact):Ev (λn=>F_ac n f) (numF f):=by
 unfold F_ac;refine Ea (v:=suspB f) ?_ ?_
 .unfold suspB;cases f.Appeal.Suspends<;>exact Qa _
 refine Ea (v:=bif fineU f (openU f)then .cont (bodyL (openU f))else .done ([],false)) ?_ ?_
 .simp only[Qkr,XN];unfold F_b F_ei F_dx F_dm F_dj;generalize openU f=u;cases u with
  |c3=>unfold fineU;cases decide (f.Sync.Min<=f.Sync.Max)<;>exact Qa _
  |c4=>unfold fineU;cases decide (f.Hand.Lo<=f.Hand.Hi)<;>exact Qa _
  |c5=>unfold fineU;cases decide (f.Silence.Lo<=f.Silence.Hi)<;>exact Qa _
  |c6=>unfold fineU;cases decide (f.Pair.A<f.Pair.B)<;>exact Qa _
  |_=>exact Qa _
 unfold numF;cases fineU f (openU f)with
 |false=>exact Qa _
 |true=>
  simp only[Vt];have e:app headL (bodyL (openU f))=some (entsS f):=Qhx _ _ (by have:=Qfz f;unfold entsS at this;rw[X7]at this;omega);unfold F_ab;simp only[XN];refine Ea (Ez e) ?_;refine Ea (Ez (Qlt 0 f)) ?_;refine Ea (Qoi f (suspB f) (entsS f) (Qlq f) (Qfz f) (entsS f) 0 ([],restS f,0) rfl (XY _) rfl).ev ?_;cases numR f (suspB f) (entsS f) ([],restS f,0)with
  |done r=>exact Qa _
  |cont a=>
   simp only;refine Ea (v:=bif f.Kind != 10 then {a.2.1 with Ruling:={a.2.1.Ruling with Kind:=0:Ruling}:Fact}else a.2.1) ?_ (Qa _);cases(f.Kind != 10)<;>exact Qa _
def validS(f:Fact):Bool:=(numF f).2
theorem Qcp(f:Fact):Ev (λn=>F_w n f) (bif validS f then 0 else 120):=by
 unfold F_w;refine Ea (QkH f) ?_;unfold validS;cases(numF f).2<;>exact Qa _
theorem Qjc{f:Fact}(h:validS f=true):(f.Kind==0)=false:=by
 cases q:(f.Kind==0)with
 |false=>rfl
 |true=>
  have a:f.Kind=0:=by simpa using q
  have b:openU f=.c13 ():=by unfold openU;rw[a];rfl
  unfold validS numF at h;rw[b]at h;cases h
set_option maxRecDepth 4000
def numN(v:Nat):List Int:=if h:128<=v then orI .u8 (IntKind.u8.wrap (v:Int)) 128::numN (v/128)else[IntKind.u8.wrap (v:Int)]
termination_by v
decreasing_by omega
theorem Qe0{v:Nat}(h:128<=v):numN v=orI .u8 (IntKind.u8.wrap (v:Int)) 128::numN (v/128):=by
 rw[numN,dif_pos h]
theorem QaL{v:Nat}(h:¬128<=v):numN v=[IntKind.u8.wrap (v:Int)]:=by
 rw[numN,dif_neg h]
theorem shr7(v:Nat):Yg .u64 (v:Int) 7=((v/128:Nat):Int):=by
 show Int.fdiv (v:Int) (2^7)=_;rw[Int.fdiv_eq_ediv_of_nonneg _ (by decide)];omega
theorem QmJ:∀(k v:Nat),v<128^(k+1)->(numN v).length<=k+1:=by
 intro k
 induction k with
 |zero=>
  intro v a;rw[QaL (by omega)];simp
 |succ k b=>
  intro v a;by_cases h:128<=v
  .rw[Qe0 h,X5];have:=b (v/128) (by rw[Nat.div_lt_iff_lt_mul (by decide)];rw[Nat.pow_succ]at a;exact a);omega
  .rw[QaL h];simp
theorem Qg8:∀(k v:Nat) (l:List Int),v<128^(k+1)->l.length+k<4294967296->∃(l':List Int) (a:Nat),EvI (λn=>F_eo n) (l,(v:Int)) (l',(a:Int))/\l'++[IntKind.u8.wrap (a:Int)]=l++numN v/\l'.length<=l.length+k:=by
 intro k
 induction k with
 |zero=>
  intro v l b i;refine⟨l,v,Ej ?_,by rw[QaL (by omega)],XX _⟩;unfold F_eo;simp only[YK (show¬(128:Int)<=(v:Int)by omega),Vu];exact Qa _
 |succ k e=>
  intro v l b i;by_cases h:128<=v
  .obtain⟨l',a,f,g,d⟩:=e (v/128) (l++[orI .u8 (IntKind.u8.wrap (v:Int)) 128]) (by rw[Nat.div_lt_iff_lt_mul (by decide)];rw[Nat.pow_succ]at b;exact b) (by simp;omega);refine⟨l',a,Ew ?_ f,?_,?_⟩
   .unfold F_eo;simp only[Ys (show(128:Int)<=(v:Int)by omega),Vt,shr7];rw[Qbz l _ (by omega)];exact Qa _
   .rw[g,Qe0 h];simp
   .simp at d;omega
  .refine⟨l,v,Ej ?_,by rw[QaL h],by omega⟩;unfold F_eo;simp only[YK (show¬(128:Int)<=(v:Int)by omega),Vu];exact Qa _
theorem Qfv(v:Nat)(l:List Int)(d:v<18446744073709551616)(hl:l.length<=1000000):Ev (λn=>F_t n l (v:Int)) (l++numN v):=by
 obtain⟨a,g,b,e,f⟩:=Qg8 9 v l (Vj d (by decide)) (by omega);unfold F_t;refine Ea b.ev ?_;simp only;rw[Qbz a _ (by omega),e];exact Qa _
theorem QeY{v:Nat}(hv:v<18446744073709551616):(numN v).length<=10:=QmJ 9 v (Vj hv (by decide))
def zigI(x:Int):Int:=QeD .u64 (QeJ .u64 (IntKind.u64.wrap x) 1) (IntKind.u64.wrap (Yg .i64 x 63))
theorem wrapU(x:Int):0<=IntKind.u64.wrap x/\IntKind.u64.wrap x<18446744073709551616:=by
 have e:IntKind.u64.wrap x=x%18446744073709551616:=by
  unfold IntKind.wrap;rfl
 rw[e];omega
theorem QgV(x:Int):∃z:Nat,zigI x=(z:Int)/\z<18446744073709551616:=by
 have h:=wrapU ((BitVec.ofInt IntKind.u64.bits (QeJ .u64 (IntKind.u64.wrap x) 1)^^^BitVec.ofInt IntKind.u64.bits (IntKind.u64.wrap (Yg .i64 x 63))).toNat);refine⟨(zigI x).toNat,?_,?_⟩
 .unfold zigI QeD;omega
 .unfold zigI QeD;omega
def oneB(x:Int):List Int:=1::numN (zigI x).toNat
theorem Qh4(x:Int):(oneB x).length<=11:=by
 obtain⟨z,a,b⟩:=QgV x;unfold oneB;rw[a];have:=QeY b;simp;omega
theorem QiA(l:List Int)(x:Int)(hl:l.length<=100000):Ev (λn=>F_al n l ({Kind:=1,N:=x,S:=[],L:=[]:Value})) (l++oneB x):=by
 unfold F_al F_ao;rw[Qbz l 1 (by omega)];simp only[XN];obtain⟨z,b,d⟩:=QgV x;have a:=b;unfold zigI at a;rw[a];refine Ea (Qfv z (l++[1]) d (by simp;omega)) ((Qa _).eq ?_);unfold oneB;rw[b];simp
def mkV(x:Int):Value:={Kind:=1,N:=x,S:=[],L:=[]:Value}
def listV(l:List Int):Value:={Kind:=3,N:=0,S:=[],L:=l.map mkV:Value}
theorem Qjx(x:Int):Ev (λn=>F_f n (mkV x)) (0,true):=by
 refine Jj ?_;show Ev (λn=>B_f (F_f n) n (mkV x)) _;unfold B_f mkV;simp only;cases(x==0)with
 |true=>exact Qa _
 |false=>exact Qa _
theorem Qik(l:List Int)(hl:l.length<=1000):Ev (λn=>F_f n (listV l)) (1,true):=by
 refine Jj ?_;show Ev (λn=>B_f (F_f n) n (listV l)) _;unfold B_f listV;simp only;refine Ea (v:=[false,(((l.map mkV).length:Int)==0),(((l.map mkV).length:Int)==0),true]) (Qa _) ?_;refine Ea (v:=false) (Qa _) ?_;refine Ea (v:=(Ctl.cont (0:Int):Ctl Int (Int×Bool))) ?_ (Qa _);refine Ev.iter (λi=>((0:Int),(i:Int))) (l.map mkV).length rfl (λi e=>?_) ?_
 .have a:=JG (x:=(l.map mkV)[i]) (show(l.map mkV).length<=4611686018427387904 by rw[X6];omega) (XO e);have d:∃y,(l.map mkV)[i]=mkV y:=by
   rw[List.getElem_map];exact⟨_,rfl⟩
  obtain⟨y,b⟩:=d;unfold F_hy;simp only[a.lt,Vt,a.ix,XN,a.nx];rw[b];exact Ea (Qjx y) (Qa _)
 .unfold F_hy;simp only[Qbi,Vu];exact Qa _
def listB(l:List Int):List Int:=[3]++numN l.length++(l.map oneB).flatten
theorem Qhp(l:List Int)(hl:l.length<=1000):Ev (λn=>F_ci n (listV l)) (listB l):=by
 unfold F_ci;have q:app ([]:List Int) [3]=some [3]:=rfl;rw[q];simp only[XN];have s:IntKind.u64.wrap (((listV l).L.length:Int))=((l.length:Nat):Int):=by
  have:IntKind.u64.wrap (((listV l).L.length:Int))=(((listV l).L.length:Int))%18446744073709551616:=by unfold IntKind.wrap;rfl
  rw[this];unfold listV;rw[X6];omega
 rw[s];have t:=QeY (show l.length<18446744073709551616 by omega);refine Ea (Qfv l.length [3] (by omega) (by simp)) ?_;refine Ea (v:=listB l) ?_ (Qa _);have k:∀m:List Int,(m.map oneB).flatten.length<=11*m.length:=by
  intro m
  induction m with
  |nil=>simp
  |cons x m e=>
   have:=Qh4 x;simp only[Vn,Vq,X7,X5];omega
 have h:=Yt (step:=λn=>F_fw n (listV l)) (l.map mkV) (λ(a:List Int) (v:Value)=>a++oneB v.N) ([3]++numN l.length) (λa i=>(a,(i:Int))) (λa=>a) (by rw[X6];omega) rfl (λi x a d u=>?_) ?_
 .refine Ev.eq h ?_;have:∀(m:List Int) (a:List Int),(m.map mkV).foldl (λ(a:List Int) (v:Value)=>a++oneB v.N) a=a++(m.map oneB).flatten:=by
   intro m
   induction m with
   |nil=>intro a;simp
   |cons x m e=>intro a;simp only[Vn,XH,Vq];rw[e];simp[mkV]
  rw[this];rfl
 .have w:∃y,x=mkV y:=by
   obtain⟨y,_,r⟩:=Xf.1 d.mem;exact⟨y,r.symm⟩
  obtain⟨y,rfl⟩:=w;have j:a.length<=100000:=by
   have:∀(m:List Int) (a:List Int),((m.map mkV).foldl (λ(a:List Int) (v:Value)=>a++oneB v.N) a).length<=a.length+11*m.length:=by
    intro m
    induction m with
    |nil=>intro a;simp
    |cons x m e=>
     intro a;simp only[Vn,XH,X5];have p:=e (a++oneB (mkV x).N);have f:=Qh4 (mkV x).N;rw[X7]at p;omega
   have f:=this (l.take i) ([3]++numN l.length);rw[List.map_take, <- u,X7,XA]at f;simp at f;omega
  unfold F_fw;have b:decide ((i:Int)<((listV l).L.length:Int))=true:=d.lt;have g:idx (listV l).L (i:Int)=some (mkV y):=d.ix;simp only[b,Vt,g,XN,d.nx];refine Ea (QiA a y j) ?_;exact Qa _
 .unfold F_fw;have b:decide (((l.map mkV).length:Int)<((listV l).L.length:Int))=false:=Qbi _;simp only[b,Vu];exact Qa _
theorem QmI{f:Fact}{b:Int}:∀(r:List Ent) (a c:List Int×Fact×Int),numR f b r a=.cont c->c.1.length=a.1.length+r.length:=by
 intro r
 induction r with
 |nil=>intro a c h;cases h;rfl
 |cons e r d=>
  intro a c h;unfold numR at h;cases q:inE f b e with
  |false=>rw[q]at h;cases h
  |true=>
   rw[q]at h;have:=d _ _ h;simp at this;rw[this,X5];omega
theorem QmK(f:Fact):(numF f).1.length<=12:=by
 unfold numF;cases fineU f (openU f)with
 |false=>simp
 |true=>
  simp only[Vt];cases h:numR f (suspB f) (entsS f) ([],restS f,0)with
  |cont a=>
   have:=QmI _ _ _ h;have:=Qfz f;simp at*;omega
  |done r=>
   have:∀(E:List Ent) (a:List Int×Fact×Int),numR f (suspB f) E a=.done r->r=([],false):=by
    intro E
    induction E with
    |nil=>intro a h;cases h
    |cons e E ih=>
     intro a h;unfold numR at h;cases q:inE f (suspB f) e with
     |false=>rw[q]at h;cases h;rfl
     |true=>rw[q]at h;exact ih _ h
   rw[this _ _ h];simp
def encF(f:Fact):List Int×Int:=bif validS f then(listB (numF f).1,0)else([],120)
theorem QgA(f:Fact):Ev (λn=>F_aj n f) (encF f):=by
 unfold F_aj;refine Ea (QkH f) ?_;have l:=QmK f;unfold encF validS;generalize numF f=r at*;cases h:r.2 with
 |false=>exact Qa _
 |true=>
  simp only[Xh,Vu,Vt];refine Ea (v:=r.1.map mkV) ?_ ?_
  .refine Ev.eq (Yt r.1 (λ(a:List Value) (x:Int)=>a++[mkV x]) [] (λa i=>(a,(i:Int))) (λa=>a) (by omega) rfl (λi x a b j=>?_) ?_) ?_
   .unfold F_hz;simp only[b.lt,Vt,b.ix,XN,b.nx];have k:a.length<=12:=by
     have:∀(m:List Int) (a:List Value),(m.foldl (λ(a:List Value) (x:Int)=>a++[mkV x]) a).length=a.length+m.length:=by
      intro m
      induction m with
      |nil=>intro a;simp
      |cons x m d=>intro a;simp only[XH,X5];rw[d];simp;omega
     rw[j,this,XA];simp;omega
    have e:=Qbz a (mkV x) (by omega);unfold mkV at e;rw[e];exact Qa _
   .unfold F_hz;simp only[Qbi,Vu];exact Qa _
   .have:∀(m:List Int) (a:List Value),m.foldl (λ(a:List Value) (x:Int)=>a++[mkV x]) a=a++m.map mkV:=by
     intro m
     induction m with
     |nil=>intro a;simp
     |cons x m d=>intro a;simp only[XH,Vn];rw[d];simp
    rw[this];rfl
  refine Ea (v:=(listB r.1,0)) ?_ (Qa _);have g:=Qik r.1 (by omega);unfold F_dv F_fb;have e:({Kind:=3,N:=0,S:=[],L:=r.1.map mkV:Value})=listV r.1:=rfl;rw[e];refine Ea (v:=0) (Ea g (Qa _)) ?_;unfold F_fk;exact Ea (Qhp r.1 (by omega)) (Qa _)
def cmpI(a b:Int):Int:=bif decide (a<b)then-1 else bif decide (b<a)then 1 else 0
theorem Qhs(n:Nat)(a b:Int):F_n n a b=some (cmpI a b):=by
 unfold F_n F_aq cmpI;simp only[XN,bne_self_eq_false,Vu];cases decide (a<b)with
 |true=>rfl
 |false=>cases decide (b<a)<;>rfl
def orL:List Int->Int
 |[]=>0
 |x::r=>bif x != 0 then x else orL r
theorem ev_or(l:List Int)(hl:l.length<=1000):Ev (λn=>F_cp n l) (orL l):=by
 unfold F_cp;have loop:∀(r:List Int) (i:Nat),l.drop i=r->i<=l.length->EvI (λn=>F_dy n l) (i:Int) (bif orL r==0 then Ctl.cont ()else Ctl.done (orL r)):=by
  intro r
  induction r with
  |nil=>
   intro i b f;refine Ej ?_;unfold F_dy;simp only[YM b f,Vu];exact Qa _
  |cons x r j=>
   intro i b f;obtain⟨a,d⟩:=Q2 (by omega) b;have g:=a.lt';unfold orL;cases q:(x != 0)with
   |true=>
    have e:(x==0)=false:=by simpa[bne]using q
    simp only[Vt,e,Vu];refine Ej ?_;unfold F_dy;simp only[a.lt,Vt,a.ix,XN,q];exact Qa _
   |false=>
    simp only[Vu];refine Ew ?_ (j (i+1) d (by omega));unfold F_dy;simp only[a.lt,Vt,a.ix,XN,q,Vu,a.nx];exact Qa _
 refine Ea (loop l 0 rfl (XY _)).ev ?_;cases h:(orL l==0)with
 |true=>
  have e:orL l=0:=by simpa using h
  rw[e];exact Qa _
 |false=>exact Qa _
def cmpF(f g:Fact):Int:=bif orL [cmpI f.At g.At,cmpI f.Crew g.Crew,cmpI f.No g.No] != 0 then orL [cmpI f.At g.At,cmpI f.Crew g.Crew,cmpI f.No g.No]else cmpB (encF f).1 (encF g).1
theorem Qfw(f g:Fact):Ev (λn=>F_v n f g) (cmpF f g):=by
 unfold F_v cmpF;simp only[Qhs,XN];refine Ea (ev_or _ (by simp)) ?_;cases(orL [cmpI f.At g.At,cmpI f.Crew g.Crew,cmpI f.No g.No] != 0)with
 |true=>exact Qa _
 |false=>
  simp only[Vu];refine Ea (QgA f) (Ea (QgA g) ?_);exact Qa _
def okS(c:Course)(f:Fact):Bool:=(f.Kind==1)&&(validS f&&(!decide ((c.Distances.length:Int)<=f.Starter.Distance)&& !decide ((c.Waves.length:Int)<=f.Starter.Wave)))
theorem Qh8{β:Type}(m:List (Int×β))(k:Int):QaE m k=(YB m k).isSome:=by
 unfold QaE YB;rw[Option.isSome_map]
 induction m with
 |nil=>rfl
 |cons p m a=>
  rw[List.any_cons,List.find?_cons,a];cases decide (p.1=k)<;>rfl
theorem Qh9{β:Type}(m:List (Int×β))(k:Int):k∈m.map Prod.fst↔ ∃v,YB m k=some v:=by
 have h:=Qh8 m k;rw[<- Option.isSome_iff_exists, <- h];unfold QaE;simp only[Xv,Vv,Xf]
theorem QmL{β:Type}(m:List (Int×β))(k:Int)(v:β):(QH m k v).length<=m.length+1:=by
 have:=congrArg List.length (QdB m k v);rw[X6]at this;rw[this];split<;>simp
theorem Qjr{β:Type}{m:List (Int×β)}(k:Int)(v:β)(h:(m.map Prod.fst).Nodup):((QH m k v).map Prod.fst).Nodup:=by
 have e:=QdB m k v;have i:(QH m k v).map Prod.fst=if k∈m.map Prod.fst then m.map Prod.fst else m.map Prod.fst++[k]:=e
 rw[i];split
 .exact h
 .rename_i f;rw[List.nodup_append];refine⟨h,by simp,λa g b d=>?_⟩;rw[VF]at d;rintro rfl;exact f (d▸g)
theorem Qld{l m:List Int}(h:l.Perm m):YF ltI l=YF ltI m:=
 Jn ((Qn ltI l).trans (h.trans (Qn ltI m).symm)) (λx _ y _ a b=>by simp[ltI]at*;omega) (QS (QcW l)) (QS (QcW m))
theorem Qeu{n:Nat}(h:n<=1048576):Nat.ble n Qy=true:=XW (XZ h (by decide))
theorem QoG{a b:Int}:cmpI a b<0↔a<b:=by
 unfold cmpI;by_cases h:a<b
 .rw[Vy h];simp[h]
 .rw[VB h];by_cases d:b<a
  .rw[Vy d];simp;omega
  .rw[VB d];simp;omega
theorem Qqi{a b:Int}:cmpI a b=0↔a=b:=by
 unfold cmpI;by_cases h:a<b
 .rw[Vy h];simp;omega
 .rw[VB h];by_cases d:b<a
  .rw[Vy d];simp;omega
  .rw[VB d];simp;omega
set_option maxRecDepth 4000
theorem Qoh(f:Fact)(b:Int):∀(E:List Ent) (a:List Int×Fact×Int),numR f b E a=bif E.all (inE f b)then .cont (a.1++E.map (getV f b),E.foldl (λp e=>putV p.1 p.2 e (getV f b e)) a.2)else .done ([],false):=by
 intro E
 induction E with
 |nil=>intro a;simp[numR]
 |cons e E ih=>
  intro a;unfold numR;rw[List.all_cons];cases h:inE f b e with
  |false=>rfl
  |true=>
   simp only[Vt,VE,Vn,XH];rw[ih];simp
def onlyS(f:Fact):Fact:={Crew:=f.Crew,No:=f.No,At:=f.At,Kind:=f.Kind,Starter:=(bif f.Kind==1 then f.Starter else Up.Starter),Read:=(bif f.Kind==2 then f.Read else Up.Read),Beacon:=(bif f.Kind==3 then f.Beacon else Up.Beacon),Sync:=(bif f.Kind==4 then f.Sync else Up.Sync),Hand:=(bif f.Kind==5 then f.Hand else Up.Hand),Silence:=(bif f.Kind==6 then f.Silence else Up.Silence),Pair:=(bif f.Kind==7 then f.Pair else Up.Pair),Report:=(bif f.Kind==8 then f.Report else Up.Report),Protest:=(bif f.Kind==9 then f.Protest else Up.Protest),Ruling:=(bif f.Kind==10 then f.Ruling else Up.Ruling),Appeal:=(bif f.Kind==11 then f.Appeal else Up.Appeal),Void:=(bif f.Kind==13 then f.Void else Up.Void):Fact}
def numsS(f:Fact):List Int:=[f.Kind,f.Crew,f.No,f.At]++(
 bif f.Kind==1 then[f.Starter.Bib,f.Starter.Distance,f.Starter.Wave,f.Starter.Slot,f.Starter.Age,f.Starter.Chip,f.Starter.Team,f.Starter.Lot]
 else bif f.Kind==2 then[f.Read.Mat,f.Read.Epoch,f.Read.Chip,f.Read.Local]
 else bif f.Kind==3 then[f.Beacon.Mat,f.Beacon.Epoch,f.Beacon.Local,f.Beacon.True,f.Beacon.Err]
 else bif f.Kind==4 then[f.Sync.MatA,f.Sync.EpochA,f.Sync.LocalA,f.Sync.MatB,f.Sync.EpochB,f.Sync.LocalB,f.Sync.Min,f.Sync.Max]
 else bif f.Kind==5 then[f.Hand.Bib,f.Hand.Position,f.Hand.Lo,f.Hand.Hi]
 else bif f.Kind==6 then[f.Silence.Mat,f.Silence.Epoch,f.Silence.Lo,f.Silence.Hi]
 else bif f.Kind==7 then[f.Pair.A,f.Pair.B]
 else bif f.Kind==8 then[f.Report.Case,f.Report.Bib,f.Report.Offence,f.Report.Position]
 else bif f.Kind==9 then[f.Protest.Case,f.Protest.By,f.Protest.Fee,f.Protest.Form]
 else bif f.Kind==10 then[f.Ruling.Case,f.Ruling.Instance,f.Ruling.Kind,f.Ruling.Bib,f.Ruling.Position,f.Ruling.Amount]
 else bif f.Kind==11 then[f.Appeal.Case,suspB f]
 else bif f.Kind==13 then[f.Void.Crew,f.Void.No]else[])
theorem kinds(f:Fact):f.Kind=1\/f.Kind=2\/f.Kind=3\/f.Kind=4\/f.Kind=5\/f.Kind=6\/f.Kind=7\/f.Kind=8\/f.Kind=9\/f.Kind=10\/f.Kind=11\/f.Kind=12\/f.Kind=13\/openU f=.c13 ():=by
 by_cases h:f.Kind=1; · exact .inl h
 by_cases k:f.Kind=2; · exact .inr (.inl k)
 by_cases j:f.Kind=3; · exact .inr (.inr (.inl j))
 by_cases n:f.Kind=4; · exact .inr (.inr (.inr (.inl n)))
 by_cases g:f.Kind=5; · exact .inr (.inr (.inr (.inr (.inl g))))
 by_cases p:f.Kind=6; · exact .inr (.inr (.inr (.inr (.inr (.inl p)))))
 by_cases m:f.Kind=7; · exact .inr (.inr (.inr (.inr (.inr (.inr (.inl m))))))
 by_cases i:f.Kind=8; · exact .inr (.inr (.inr (.inr (.inr (.inr (.inr (.inl i)))))))
 by_cases l:f.Kind=9; · exact .inr (.inr (.inr (.inr (.inr (.inr (.inr (.inr (.inl l))))))))
 by_cases b:f.Kind=10; · exact .inr (.inr (.inr (.inr (.inr (.inr (.inr (.inr (.inr (.inl b)))))))))
 by_cases e:f.Kind=11; · exact .inr (.inr (.inr (.inr (.inr (.inr (.inr (.inr (.inr (.inr (.inl e))))))))))
 by_cases d:f.Kind=12; · exact .inr (.inr (.inr (.inr (.inr (.inr (.inr (.inr (.inr (.inr (.inr (.inl d)))))))))))
 by_cases a:f.Kind=13; · exact .inr (.inr (.inr (.inr (.inr (.inr (.inr (.inr (.inr (.inr (.inr (.inr (.inl a))))))))))))
 refine .inr (.inr (.inr (.inr (.inr (.inr (.inr (.inr (.inr (.inr (.inr (.inr (.inr ?_))))))))))));unfold openU;simp only[VD.2 h,VD.2 k,VD.2 j,VD.2 n,VD.2 g,VD.2 p,VD.2 m,VD.2 i,VD.2 l,VD.2 b,VD.2 e,VD.2 d,VD.2 a,Vu]
def copyS(f:Fact):Fact×Int:=(entsS f).foldl (λp e=>putV p.1 p.2 e (getV f (suspB f) e)) (restS f,0)
theorem Qg9(f:Fact):numF f=bif fineU f (openU f)then(bif (entsS f).all (inE f (suspB f))then((entsS f).map (getV f (suspB f)),lastF f (copyS f).1 (copyS f).2==f)else([],false))else([],false):=by
 unfold numF;rw[Qoh];cases fineU f (openU f)with
 |false=>rfl
 |true=>
  simp only[Vt];cases(entsS f).all (inE f (suspB f))with
  |false=>rfl
  |true=>simp only[Vt,Vl];rfl
theorem QdE(f:Fact)(h:¬openU f=.c13 ()):lastF f (copyS f).1 (copyS f).2=onlyS f/\(entsS f).map (getV f (suspB f))=numsS f:=by
 rcases kinds f with k|k|k|k|k|k|k|k|k|k|k|k|k|k
 case inr.inr.inr.inr.inr.inr.inr.inr.inr.inr.inl=>
  obtain⟨Cr,No,At,Ki,S,R,B,Sy,Ha,Si,Pa,Re,Pr,Ru,⟨Ca,Su⟩,Vo⟩:=f;simp only at k;subst k;cases Su<;>exact⟨by kernel_rfl,by kernel_rfl⟩
 case inr.inr.inr.inr.inr.inr.inr.inr.inr.inl=>
  obtain⟨Cr,No,At,Ki,S,R,B,Sy,Ha,Si,Pa,Re,Pr,⟨d,i,a,e,b,g⟩,Ap,Vo⟩:=f;simp only at k;subst k;have:∃x,openU ⟨Cr,No,At,10,S,R,B,Sy,Ha,Si,Pa,Re,Pr,⟨d,i,a,e,b,g⟩,Ap,Vo⟩=.c9 x:=by
   unfold openU;show∃x,(bif (a==1)||(a==2)then U_facts_open_rxk.c9 (0,0,0,0,0,0)else bif a==3 then .c9 (1,9999,0,255,1,1099511627776)else bif a==4 then .c9 (1,9999,0,255,1,64)else .c9 (1,9999,0,255,0,0))=.c9 x;cases((a==1)||(a==2))with
   |true=>exact⟨_,rfl⟩
   |false=>
    cases(a==3)with
    |true=>exact⟨_,rfl⟩
    |false=>cases(a==4)<;>exact⟨_,rfl⟩
  obtain⟨x,j⟩:=this;unfold copyS entsS;rw[j];exact⟨by kernel_rfl,by kernel_rfl⟩
 case inr.inr.inr.inr.inr.inr.inr.inr.inr.inr.inr.inr.inr=>exact absurd k h
 all_goals
  obtain⟨Cr,No,At,Ki,S,R,B,Sy,Ha,Si,Pa,Re,Pr,Ru,Ap,Vo⟩:=f;simp only at k;subst k;exact⟨by kernel_rfl,by kernel_rfl⟩
def contS(f:Fact):Bool:=fineU f (openU f)&&(bodyL (openU f)).all (inE f (suspB f))
def headS(f:Fact):Bool:=headL.all (inE f (suspB f))
theorem Qdn(f:Fact):validS f=(headS f&&contS f&&(onlyS f==f)):=by
 unfold validS contS headS;rw[Qg9];by_cases h:openU f=.c13 ()
 .have:fineU f (openU f)=false:=by rw[h];rfl
  rw[this];simp
 .obtain⟨a,b⟩:=QdE f h;rw[a];unfold entsS;rw[List.all_append];cases fineU f (openU f)with
  |false=>simp
  |true=>
   cases headL.all (inE f (suspB f))with
   |false=>rfl
   |true=>cases(bodyL (openU f)).all (inE f (suspB f))<;>rfl
theorem Qjb{f:Fact}(h:validS f=true):(numF f).1=numsS f:=by
 have g:=h;unfold validS at h;rw[Qg9]at h⊢;by_cases q:openU f=.c13 ()
 .have:fineU f (openU f)=false:=by rw[q];rfl
  rw[this]at h;cases h
 .obtain⟨e,d⟩:=QdE f q;cases a:fineU f (openU f)with
  |false=>rw[a]at h;cases h
  |true=>
   rw[a]at h;cases b:(entsS f).all (inE f (suspB f))with
   |false=>rw[b]at h;cases h
   |true=>exact d
theorem QeE{f:Fact}(h:validS f=true):onlyS f=f:=by
 rw[Qdn]at h;simp only[X0,VC]at h;exact h.2
theorem QmH{f g:Fact}(a:validS f=true)(hg:validS g=true)(h:numsS f=numsS g):f=g:=by
 have n:=QeE a;have e:=QeE hg;rw[<- n, <- e];unfold numsS at h;have m:f.Kind=g.Kind:=by
  simp only[VO,List.cons.injEq]at h;exact h.1
 have B:=Qjc a;rcases kinds f with k|k|k|k|k|k|k|k|k|k|k|k|k|k
 case inr.inr.inr.inr.inr.inr.inr.inr.inr.inr.inr.inr.inr=>
  rw[Qdn]at a;unfold contS at a;rw[k]at a;simp[fineU]at a
 all_goals
  have i:=m.symm.trans k;clear a hg m B n e;obtain⟨Cr,No,At,Ki,⟨s1,s2,s3,s4,s5,s6,s7,s8⟩,⟨ai,x,ab,ar⟩,⟨b1,b2,b3,b4,b5⟩,⟨y1,y2,y3,y4,y5,y6,y7,y8⟩,⟨h1,h2,h3,h4⟩,⟨i1,i2,i3,i4⟩,⟨p1,p2⟩,⟨u1,u2,u3,u4⟩,⟨o1,o2,o3,o4⟩,⟨r1,r2,r3,r4,r5,r6⟩,⟨a1,a2⟩,⟨v1,v2⟩⟩:=f;obtain⟨Cr',No',At',Ki',⟨V,ay,a5,ak,G,t,z,an⟩,⟨l,p,j,d⟩,⟨az,w,ax,T,R⟩,⟨au,a4,av,aw,u,a3,L,O⟩,⟨ae,r,J,Y⟩,⟨al,ah,af,H⟩,⟨X,E⟩,⟨am,aa,ao,M⟩,⟨y,aj,P,N⟩,⟨W,s,aq,Q,a0,q⟩,⟨ag,b⟩,⟨F,ac⟩⟩:=g;simp only at k i;subst k;subst i
  first
   |(simp[suspB]at h;simp[onlyS,h];done)
   |(cases a2<;>cases b<;>simp[suspB]at h<;>simp[onlyS,h])
set_option maxRecDepth 4000
theorem QgX(x:Int):IntKind.u64.wrap x=x%18446744073709551616:=by unfold IntKind.wrap;rfl
theorem Qi9(x:Int):IntKind.u8.wrap x=x%256:=by unfold IntKind.wrap;rfl
theorem or8(a b:Int):orI .u8 a b=(((BitVec.ofInt 8 a|||BitVec.ofInt 8 b).toNat:Nat):Int)%256:=by unfold orI;exact Qi9 _
theorem QoW(a b:Int):QeD .u64 a b=(((BitVec.ofInt 64 a^^^BitVec.ofInt 64 b).toNat:Nat):Int)%18446744073709551616:=by unfold QeD;exact QgX _
theorem or128(v:Nat):orI .u8 (IntKind.u8.wrap (v:Int)) 128=((v%128+128:Nat):Int):=by
 have a:∀m:Fin 256,((BitVec.ofNat 8 m.val|||128#8).toNat)=m.val%128+128:=by decide
 have d:v%256<256:=Nat.mod_lt _ (by decide);have k:(BitVec.ofNat 8 (v%256)|||128#8).toNat=v%256%128+128:=a ⟨v%256,d⟩;have e:BitVec.ofInt 8 ((v:Int)%256)=BitVec.ofNat 8 (v%256):=by
  have:((v:Int)%256)=((v%256:Nat):Int):=by omega
  rw[this];exact BitVec.ofInt_natCast 8 (v%256)
 have b:BitVec.ofInt 8 128=128#8:=by rfl
 rw[or8,Qi9,e,b,k];omega
theorem Qdz(v:Nat):numN v=if 128<=v then((v%128+128:Nat):Int)::numN (v/128)else[(v:Int)]:=by
 by_cases h:128<=v
 .rw[Qe0 h,Vx h,or128]
 .rw[QaL h,Vw h,Qi9];congr 1;omega
theorem Qh7:∀(v w:Nat) (a b:List Int),numN v++a=numN w++b->v=w/\a=b:=by
 intro v
 induction v using Nat.strongRecOn with
 |_ v f=>
 intro w a b h;rw[Qdz v,Qdz w]at h;by_cases e:128<=v
 .rw[Vx e]at h;by_cases d:128<=w
  .rw[Vx d]at h;simp only[VO,List.cons.injEq]at h;obtain⟨i,g⟩:=f (v/128) (by omega) (w/128) a b h.2;exact⟨by omega,g⟩
  .rw[Vw d]at h;simp only[VO,List.cons.injEq]at h;omega
 .rw[Vw e]at h;by_cases d:128<=w
  .rw[Vx d]at h;simp only[VO,List.cons.injEq]at h;omega
  .rw[Vw d]at h;simp only[VO,List.cons.injEq,Vl]at h;exact⟨by omega,h.2⟩
theorem QeZ:∀(v:Nat),∀x∈numN v,0<=x/\x<256:=by
 intro v
 induction v using Nat.strongRecOn with
 |_ v d=>
 intro x a;rw[Qdz v]at a;by_cases b:128<=v
 .rw[Vx b]at a;rcases Va.1 a with rfl|a
  .omega
  .exact d (v/128) (by omega) x a
 .rw[Vw b]at a;rcases Va.1 a with rfl|a
  .omega
  .cases a
theorem QgU{x:Int}(h0:0<=x)(e:x<9223372036854775808):zigI x=2*x:=by
 unfold zigI QeJ;have a:Yg .i64 x 63=0:=by
  show Int.fdiv x (2^63)=0;rw[Int.fdiv_eq_ediv_of_nonneg _ (by decide)];omega
 have b:(2:Int)^(min (1:Int).toNat IntKind.u64.bits)=2:=by decide
 rw[a,b,QoW];simp only[QgX];have d:BitVec.ofInt 64 ((0:Int)%18446744073709551616)=0#64:=by rfl
 rw[d,BitVec.xor_zero,BitVec.toNat_ofInt];omega
theorem QgW{x:Int}(h0:x<0)(e: -9223372036854775808<=x):zigI x= -2*x-1:=by
 unfold zigI QeJ;have a:Yg .i64 x 63= -1:=by
  show Int.fdiv x (2^63)= -1;rw[Int.fdiv_eq_ediv_of_nonneg _ (by decide)];omega
 have b:(2:Int)^(min (1:Int).toNat IntKind.u64.bits)=2:=by decide
 rw[a,b,QoW];simp only[QgX];have d:BitVec.ofInt 64 ((-1:Int)%18446744073709551616)=BitVec.allOnes 64:=by decide
 rw[d,BitVec.xor_allOnes,BitVec.toNat_not,BitVec.toNat_ofInt];omega
def in63(x:Int):Prop:= -9223372036854775808<=x/\x<9223372036854775808
theorem Qoa{x y:Int}(f:in63 x)(e:in63 y)(h:zigI x=zigI y):x=y:=by
 obtain⟨a,b⟩:=f;obtain⟨c,d⟩:=e;by_cases p:0<=x
 .rw[QgU p b]at h;by_cases q:0<=y
  .rw[QgU q d]at h;omega
  .rw[QgW (by omega) c]at h;omega
 .rw[QgW (by omega) a]at h;by_cases q:0<=y
  .rw[QgU q d]at h;omega
  .rw[QgW (by omega) c]at h;omega
theorem Qh3:∀(l m:List Int),l.length=m.length->(∀x∈l,in63 x)->(∀x∈m,in63 x)->(l.map oneB).flatten=(m.map oneB).flatten->l=m
 |[],[],_,_,_,_=>rfl
 |x::l,y::m,hl,h1,h2,h=>by
  simp only[Vn,Vq,oneB,VO,List.cons.injEq,true_and]at h;obtain⟨e1,e2⟩:=Qh7 _ _ _ _ h;obtain⟨z,p1,p2⟩:=QgV x;obtain⟨z',q1,q2⟩:=QgV y;rw[p1,q1]at e1;have:x=y:=Qoa (h1 x (by simp)) (h2 y (by simp)) (by rw[p1,q1]at*;simp only[Int.toNat_natCast]at e1;omega);rw[this,Qh3 l m (by simpa using hl) (λz hz=>h1 z (by simp[hz])) (λz hz=>h2 z (by simp[hz])) e2]
theorem Qlb{l m:List Int}(d:∀x∈l,in63 x)(e:∀x∈m,in63 x)(h:listB l=listB m):l=m:=by
 unfold listB at h;rw[Vm,Vm]at h;simp only[VO,Vl,List.cons.injEq,true_and]at h;obtain⟨a,b⟩:=Qh7 _ _ _ _ h;exact Qh3 l m a d e b
theorem Qd2(l:List Int):∀x∈listB l,0<=x/\x<256:=by
 intro x a;unfold listB at a;simp only[VH,VF,List.mem_flatten,Xf]at a;rcases a with(rfl|a)|⟨m,⟨y,_,rfl⟩,a⟩
 .omega
 .exact QeZ _ x a
 .unfold oneB at a;rcases Va.1 a with rfl|a
  .omega
  .exact QeZ _ x a
structure CmpOK {α:Type} (c:α->α->Int):Prop where
 swap:∀x y,c y x= -c x y
 trans:∀x y z,c x y<0->c y z<0->c x z<0
 eqt:∀x y z,c x y=0->c x z=c y z
section
variable {α:Type} {c d:α->α->Int}
theorem CmpOK.refl(h:CmpOK c)(x:α):c x x=0:=by have:=h.swap x x;omega
theorem CmpOK.eqr(h:CmpOK c){x y:α}(z:α)(e:c x y=0):c z x=c z y:=by
 rw[h.swap x z,h.swap y z,h.eqt x y z e]
theorem QdR(h:CmpOK c)(k:CmpOK d):CmpOK λx y=>bif c x y != 0 then c x y else d x y:=by
 refine⟨λx y=>?_,λx y z=>?_,λx y z=>?_⟩
 .show(bif c y x != 0 then c y x else d y x)= -(bif c x y != 0 then c x y else d x y);have e:=h.swap x y;by_cases q:c x y=0
  .have f:c y x=0:=by omega
   rw[q,f];exact k.swap x y
  .have f:¬c y x=0:=by omega
   rw[bne_iff_ne.2 q,bne_iff_ne.2 f];exact e
 .show(bif c x y != 0 then c x y else d x y)<0->(bif c y z != 0 then c y z else d y z)<0->(bif c x z != 0 then c x z else d x z)<0;by_cases q:c x y=0
  .have e:=h.eqt x y z q;rw[q,e];by_cases f:c y z=0
   .rw[f];exact k.trans x y z
   .rw[bne_iff_ne.2 f];intro _ b;exact b
  .rw[bne_iff_ne.2 q];by_cases f:c y z=0
   .have e:=h.eqr x f;rw[f, <- e,bne_iff_ne.2 q];intro a _;exact a
   .rw[bne_iff_ne.2 f];intro a b;have:=h.trans x y z a b;rw[bne_iff_ne.2 (show¬c x z=0 by omega)];exact this
 .show(bif c x y != 0 then c x y else d x y)=0->(bif c x z != 0 then c x z else d x z)=(bif c y z != 0 then c y z else d y z);by_cases q:c x y=0
  .rw[q,h.eqt x y z q];intro e;have e:d x y=0:=e;rw[k.eqt x y z e]
  .rw[bne_iff_ne.2 q];intro e;exact absurd e q
theorem CmpOK.on{β:Type}(h:CmpOK c)(f:β->α):CmpOK λx y=>c (f x) (f y):=
 ⟨λx y=>h.swap _ _,λx y z=>h.trans _ _ _,λx y z=>h.eqt _ _ _⟩
end
theorem cmpI_ok:CmpOK cmpI:=by
 have e:∀a b,cmpI a b=if a<b then-1 else if b<a then 1 else 0:=by
  intro a b;unfold cmpI;by_cases h:a<b
  .rw[Vy h,Vx h];rfl
  .rw[VB h,Vw h];by_cases d:b<a
   .rw[Vy d,Vx d];rfl
   .rw[VB d,Vw d];rfl
 refine⟨λx y=>?_,λx y z=>?_,λx y z=>?_⟩
 .rw[e,e];split<;>split<;>omega
 .rw[e,e,e];intro a b;have f:x<y:=by
   by_cases q:x<y
   .exact q
   .rw[Vw q]at a;split at a<;>omega
  have d:y<z:=by
   by_cases q:y<z
   .exact q
   .rw[Vw q]at b;split at b<;>omega
  rw[Vx (by omega)];omega
 .rw[e x y];intro h;have:x=y:=by
   by_cases q:x<y
   .rw[Vx q]at h;omega
   .rw[Vw q]at h;split at h<;>omega
  rw[this]
theorem cb_ok:CmpOK Lib.compareBytes:=by
 have l:∀x y:List UInt8,Lib.compareBytes y x= -Lib.compareBytes x y:=by
  intro x
  induction x with
  |nil=>intro y;cases y<;>simp[Lib.compareBytes]
  |cons a x f=>
   intro y;cases y with
   |nil=>simp[Lib.compareBytes]
   |cons b y=>
    unfold Lib.compareBytes;by_cases h:a<b
    .have j:¬b<a:=by rw[UInt8.lt_iff_toNat_lt]at*;omega
     rw[Vx h,Vw j,Vx h];rfl
    .rw[Vw h];by_cases g:b<a
     .rw[Vx g,Vw h,Vx g]
     .rw[Vw g,Vw g,Vw h];exact f y
 have eq:∀x y:List UInt8,Lib.compareBytes x y=0->x=y:=by
  intro x
  induction x with
  |nil=>intro y h;cases y with
   |nil=>rfl
   |cons b y=>simp[Lib.compareBytes]at h
  |cons a x f=>
   intro y h;cases y with
   |nil=>simp[Lib.compareBytes]at h
   |cons b y=>
    unfold Lib.compareBytes at h;by_cases q:a<b
    .rw[Vx q]at h;omega
    .rw[Vw q]at h;by_cases e:b<a
     .rw[Vx e]at h;omega
     .rw[Vw e]at h;have:a=b:=by
       rw[UInt8.lt_iff_toNat_lt]at q e;exact UInt8.toNat_inj.1 (by omega)
      rw[this,f y h]
 refine⟨l,?_,λx y z h=>by rw[eq x y h]⟩;intro x
 induction x with
 |nil=>
  intro y z h k;cases y with
  |nil=>simp[Lib.compareBytes]at h
  |cons b y=>cases z with
   |nil=>simp[Lib.compareBytes]at k
   |cons d z=>simp[Lib.compareBytes]
 |cons a x f=>
  intro y z h k;cases y with
  |nil=>simp[Lib.compareBytes]at h
  |cons b y=>
   cases z with
   |nil=>simp[Lib.compareBytes]at k
   |cons d z=>
    unfold Lib.compareBytes at h k⊢;simp only[UInt8.lt_iff_toNat_lt]at*;by_cases q:a.toNat<b.toNat
    .by_cases r:b.toNat<d.toNat
     .rw[Vx (by omega)];omega
     .rw[Vw r]at k;by_cases i:d.toNat<b.toNat
      .rw[Vx i]at k;omega
      .rw[Vx (by omega)];omega
    .rw[Vw q]at h;by_cases e:b.toNat<a.toNat
     .rw[Vx e]at h;omega
     .rw[Vw e]at h;by_cases r:b.toNat<d.toNat
      .rw[Vx (by omega)];omega
      .rw[Vw r]at k;by_cases i:d.toNat<b.toNat
       .rw[Vx i]at k;omega
       .rw[Vw i]at k;rw[Vw (by omega),Vw (by omega)];exact f y z h k
theorem Qpd:∀{x y:List UInt8},Lib.compareBytes x y=0->x=y
 |[],[],_=>rfl
 |[],_::_,h=>by simp[Lib.compareBytes]at h
 |_::_,[],h=>by simp[Lib.compareBytes]at h
 |a::x,b::y,h=>by
  unfold Lib.compareBytes at h;by_cases q:a<b
  .rw[Vx q]at h;omega
  .rw[Vw q]at h;by_cases q2:b<a
   .rw[Vx q2]at h;omega
   .rw[Vw q2]at h;have:a=b:=by
     rw[UInt8.lt_iff_toNat_lt]at q q2;exact UInt8.toNat_inj.1 (by omega)
    rw[this,Qpd h]
theorem QgG:∀{l m:List Int},(∀x∈l,0<=x/\x<256)->(∀x∈m,0<=x/\x<256)->l.map Qbw=m.map Qbw->l=m
 |[],[],_,_,_=>rfl
 |[],_::_,_,_,h=>by simp at h
 |_::_,[],_,_,h=>by simp at h
 |x::l,y::m,h1,h2,h=>by
  simp only[Vn,List.cons.injEq]at h;have a1:=h1 x (by simp);have a2:=h2 y (by simp);have e:=congrArg UInt8.toNat h.1;unfold Qbw at e;rw[UInt8.toNat_ofNat',UInt8.toNat_ofNat']at e;have:x=y:=by omega
  rw[this,QgG (λz a=>h1 z (by simp[a])) (λz a=>h2 z (by simp[a])) h.2]
theorem QiP(f g:Fact):cmpF f g=bif cmpI f.At g.At != 0 then cmpI f.At g.At else bif cmpI f.Crew g.Crew != 0 then cmpI f.Crew g.Crew else bif cmpI f.No g.No != 0 then cmpI f.No g.No else cmpB (encF f).1 (encF g).1:=by
 unfold cmpF orL orL orL orL;generalize cmpI f.At g.At=a;generalize cmpI f.Crew g.Crew=b;generalize cmpI f.No g.No=d;cases e:(a != 0)with
 |true=>simp only[Vt,e]
 |false=>
  simp only[Vu];cases i:(b != 0)with
  |true=>simp only[Vt,i]
  |false=>
   simp only[Vu];cases h:(d != 0)with
   |true=>simp only[Vt,h]
   |false=>rfl
theorem QkL:CmpOK cmpF:=by
 have h:=QdR (cmpI_ok.on λf:Fact=>f.At) (QdR (cmpI_ok.on λf:Fact=>f.Crew) (QdR (cmpI_ok.on λf:Fact=>f.No) (cb_ok.on λf:Fact=>(encF f).1.map Qbw)));have e:cmpF=λf g=>bif cmpI f.At g.At != 0 then cmpI f.At g.At else bif cmpI f.Crew g.Crew != 0 then cmpI f.Crew g.Crew else bif cmpI f.No g.No != 0 then cmpI f.No g.No else cmpB (encF f).1 (encF g).1:=by
  funext f g;exact QiP f g
 rw[e];exact h
def wideE(e:Ent):Bool:=decide (-1125899906842624<=e.lo)&&decide (e.hi<=1125899906842624)
theorem Qlp(f:Fact):(entsS f).all wideE=true:=by
 unfold entsS;rw[List.all_append,X0];refine⟨rfl,?_⟩;rcases kinds f with k|k|k|k|k|k|k|k|k|k|k|k|k|k
 case inr.inr.inr.inr.inr.inr.inr.inr.inr.inl=>
  unfold openU;rw[k];show(bodyL (bif (f.Ruling.Kind==1)||(f.Ruling.Kind==2)then .c9 (0,0,0,0,0,0)else bif f.Ruling.Kind==3 then .c9 (1,9999,0,255,1,1099511627776)else bif f.Ruling.Kind==4 then .c9 (1,9999,0,255,1,64)else .c9 (1,9999,0,255,0,0))).all wideE=true;cases((f.Ruling.Kind==1)||(f.Ruling.Kind==2))with
  |true=>rfl
  |false=>
   cases(f.Ruling.Kind==3)with
   |true=>rfl
   |false=>cases(f.Ruling.Kind==4)<;>rfl
 case inr.inr.inr.inr.inr.inr.inr.inr.inr.inr.inr.inr.inr=>rw[k];rfl
 all_goals
  unfold openU;rw[k];rfl
theorem QeX{f:Fact}(h:validS f=true):∀x∈numsS f,in63 x:=by
 have k:=h;unfold validS at h;rw[Qg9]at h;by_cases q:openU f=.c13 ()
 .rw[q]at h;cases h
 .rw[<- (QdE f q).2];cases a:fineU f (openU f)with
  |false=>rw[a]at h;cases h
  |true=>
   rw[a]at h;cases b:(entsS f).all (inE f (suspB f))with
   |false=>rw[b]at h;cases h
   |true=>
    intro x j;obtain⟨e,g,rfl⟩:=Xf.1 j;have d:=Xu.1 b e g;have i:=Xu.1 (Qlp f) e g;unfold inE at d;unfold wideE at i;simp only[X0,Bool.not_eq_true',decide_eq_false_iff_not,Vv]at d i;unfold in63;omega
theorem QgC{f:Fact}(h:validS f=true):encF f=(listB (numsS f),0):=by
 unfold encF;rw[h,Qjb h];rfl
theorem Qex{f g:Fact}(d:validS f=true)(hg:validS g=true)(h:cmpF f g=0):f=g:=by
 rw[QiP]at h;have z:cmpB (encF f).1 (encF g).1=0:=by
  cases b:(cmpI f.At g.At != 0)with
  |true=>rw[b]at h;exact absurd h (bne_iff_ne.1 b)
  |false=>
   rw[b]at h;cases i:(cmpI f.Crew g.Crew != 0)with
   |true=>rw[i]at h;exact absurd h (bne_iff_ne.1 i)
   |false=>
    rw[i]at h;cases a:(cmpI f.No g.No != 0)with
    |true=>rw[a]at h;exact absurd h (bne_iff_ne.1 a)
    |false=>rw[a]at h;exact h
 rw[QgC d,QgC hg]at z;have e:=QgG (Qd2 _) (Qd2 _) (Qpd z);exact QmH d hg (Qlb (QeX d) (QeX hg) e)
set_option maxRecDepth 4000
theorem Qbq{α:Type}{R:α->α->Prop}(d:∀x,¬R x x)(i:∀x y z,R x y->R y z->R x z):∀{l m:List α},l.Pairwise R->m.Pairwise R->(∀x,x∈l↔x∈m)->l=m
 |[],[],_,_,_=>rfl
 |[],b::m,_,_,h=>by have:=(h b).2 (by simp);cases this
 |a::l,[],_,_,h=>by have:=(h a).1 (by simp);cases this
 |a::l,b::m,hl,hm,h=>by
  rw[Xc]at hl hm;have e:a=b:=by
   rcases Va.1 ((h a).1 (by simp))with e|f
   .exact e
   .rcases Va.1 ((h b).2 (by simp))with e|j
    .exact e.symm
    .exact absurd (i _ _ _ (hl.1 b j) (hm.1 a f)) (d a)
  subst e;congr 1;refine Qbq d i hl.2 hm.2 λx=>?_;constructor
  .intro g;rcases Va.1 ((h x).1 (X9 _ g))with e|f
   .subst e;exact absurd (hl.1 x g) (d x)
   .exact f
  .intro g;rcases Va.1 ((h x).2 (X9 _ g))with e|f
   .subst e;exact absurd (hm.1 x g) (d x)
   .exact f
def insC(x:Fact):List Fact->List Fact
 |[]=>[x]
 |y::r=>bif decide (cmpF y x<0)then y::insC x r else bif y==x then y::r else x::y::r
def canonS(l:List Fact):List Fact:=l.foldl (λa x=>bif validS x then insC x a else a) []
def ltF(a b:Fact):Prop:=cmpF a b<0
theorem Qhc(x:Fact):¬ltF x x:=by unfold ltF;have:=QkL.refl x;omega
theorem Qe4(x y z:Fact):ltF x y->ltF y z->ltF x z:=QkL.trans x y z
theorem QcY(x:Fact):∀(l:List Fact) (z:Fact),z∈insC x l↔z=x\/z∈l
 |[],z=>by simp[insC]
 |y::r,z=>by
  unfold insC;cases decide (cmpF y x<0)with
  |true=>
   simp only[Vt,Va,QcY x r z];constructor
   .rintro(h|h|h)<;>simp[h]
   .rintro(h|h|h)<;>simp[h]
  |false=>
   simp only[Vu];cases h:(y==x)with
   |true=>
    have:y=x:=by simpa using h
    subst this;simp
   |false=>simp
def CanonOK(l:List Fact):Prop:=l.Pairwise ltF/\ ∀f∈l,validS f=true
theorem Qkw{x:Fact}(a:validS x=true):∀{l:List Fact},CanonOK l->CanonOK (insC x l)
 |[],_=>⟨by simp[insC],by simp[insC,a]⟩
 |y::r,h=>by
  obtain⟨h1,h2⟩:=h;rw[Xc]at h1;have hr:CanonOK r:=⟨h1.2,λf hf=>h2 f (by simp[hf])⟩;have ih:=Qkw a hr;refine⟨?_,λf hf=>?_⟩
  .unfold insC;cases q:decide (cmpF y x<0)with
   |true=>
    simp only[Vt,Xc];refine⟨λz hz=>?_,ih.1⟩;rcases(QcY x r z).1 hz with rfl|hz
    .show cmpF y z<0;exact Vz q
    .exact h1.1 z hz
   |false=>
    simp only[Vu];cases q2:(y==x)with
    |true=>simp only[Vt,Xc];exact h1
    |false=>
     simp only[Vu,Xc];have lt:ltF x y:=by
      have b:=VA q;have d:¬cmpF y x=0:=λe=>by
       have:=Qex (h2 y (by simp)) a e;rw[this]at q2;simp at q2
      have:=QkL.swap x y;unfold ltF;omega
     refine⟨λz hz=>?_,h1⟩;rcases Va.1 hz with rfl|hz
     .exact lt
     .exact Qe4 _ _ _ lt (h1.1 z hz)
  .rcases(QcY x (y::r) f).1 hf with rfl|hf
   .exact a
   .exact h2 f hf
theorem Jt(l:List Fact):CanonOK (canonS l)/\ ∀f,f∈canonS l↔f∈l/\validS f=true:=by
 have g:∀(r a:List Fact),CanonOK a->CanonOK (r.foldl (λa x=>bif validS x then insC x a else a) a)/\ ∀f,f∈r.foldl (λa x=>bif validS x then insC x a else a) a↔f∈a\/(f∈r/\validS f=true):=by
  intro r
  induction r with
  |nil=>intro a h;exact⟨h,λf=>by simp⟩
  |cons x r i=>
   intro a h;rw[XH];cases q:validS x with
   |false=>
    obtain⟨d,e⟩:=i a h;refine⟨d,λf=>?_⟩;rw[Vu,e f,Va];constructor
    .rintro(a|⟨a,b⟩)
     .exact .inl a
     .exact .inr ⟨.inr a,b⟩
    .rintro(a|⟨rfl|a,b⟩)
     .exact .inl a
     .rw[q]at b;cases b
     .exact .inr ⟨a,b⟩
   |true=>
    obtain⟨d,e⟩:=i (insC x a) (Qkw q h);refine⟨d,λf=>?_⟩;rw[Vt,e f,QcY,Va];constructor
    .rintro((rfl|a)|⟨a,b⟩)
     .exact .inr ⟨.inl rfl,q⟩
     .exact .inl a
     .exact .inr ⟨.inr a,b⟩
    .rintro(a|⟨rfl|a,b⟩)
     .exact .inl (.inr a)
     .exact .inl (.inl rfl)
     .exact .inr ⟨a,b⟩
 obtain⟨d,e⟩:=g l [] ⟨by simp,by simp⟩;exact⟨d,λf=>by rw[canonS,e f];simp⟩
theorem QjP{l m:List Fact}(h:∀f,validS f=true->(f∈l↔f∈m)):canonS l=canonS m:=by
 obtain⟨d,e⟩:=Jt l;obtain⟨a,b⟩:=Jt m;refine Qbq Qhc Qe4 d.1 a.1 λf=>?_;rw[e f,b f];constructor
 .rintro⟨x,y⟩;exact⟨(h f y).1 x,y⟩
 .rintro⟨x,y⟩;exact⟨(h f y).2 x,y⟩
def FirstIs(c:Course)(l:List Fact)(f:Fact):Prop:=f∈l/\okS c f=true/\ ∀g∈l,okS c g=true->g.Starter.Bib=f.Starter.Bib->¬cmpF g f<0
theorem Qgk{c:Course}{f:Fact}(h:okS c f=true):validS f=true:=by
 unfold okS at h;simp only[X0]at h;exact h.2.1
theorem FirstIs.one{c:Course}{l:List Fact}{f g:Fact}(a:FirstIs c l f)(hg:FirstIs c l g)(e:f.Starter.Bib=g.Starter.Bib):f=g:=by
 have b:=a.2.2 g hg.1 hg.2.1 e.symm;have d:=hg.2.2 f a.1 a.2.1 e;have:=QkL.swap f g;exact Qex (Qgk a.2.1) (Qgk hg.2.1) (by omega)
set_option maxRecDepth 4000
def nb(v lo hi:Int):Bool:= !(decide (v<lo))&& !(decide (hi<v))
theorem QdA(v lo hi:Int):nb v lo hi=true↔lo<=v/\v<=hi:=by
 unfold nb;simp only[X0,Bool.not_eq_true',decide_eq_false_iff_not];omega
def contR(f:Fact):Bool:=
 bif f.Kind==1 then true&&(nb f.Starter.Bib 1 9999&&(nb f.Starter.Distance 0 7&&(nb f.Starter.Wave 0 31&&(nb f.Starter.Slot (-1099511627776) 1099511627776&&(nb f.Starter.Age 0 120&&(nb f.Starter.Chip 0 1048576&&(nb f.Starter.Team 0 9999&&(nb f.Starter.Lot 0 1048576&&true))))))))
 else bif f.Kind==2 then true&&(nb f.Read.Mat 0 39&&(nb f.Read.Epoch 0 255&&(nb f.Read.Chip 0 1048576&&(nb f.Read.Local (-1099511627776) 1099511627776&&true))))
 else bif f.Kind==3 then true&&(nb f.Beacon.Mat 0 39&&(nb f.Beacon.Epoch 0 255&&(nb f.Beacon.Local (-1099511627776) 1099511627776&&(nb f.Beacon.True (-1099511627776) 1099511627776&&(nb f.Beacon.Err 0 1099511627776&&true)))))
 else bif f.Kind==4 then decide (f.Sync.Min<=f.Sync.Max)&&(nb f.Sync.MatA 0 39&&(nb f.Sync.EpochA 0 255&&(nb f.Sync.LocalA (-1099511627776) 1099511627776&&(nb f.Sync.MatB 0 39&&(nb f.Sync.EpochB 0 255&&(nb f.Sync.LocalB (-1099511627776) 1099511627776&&(nb f.Sync.Min (-1099511627776) 1099511627776&&(nb f.Sync.Max (-1099511627776) 1099511627776&&true))))))))
 else bif f.Kind==5 then decide (f.Hand.Lo<=f.Hand.Hi)&&(nb f.Hand.Bib 1 9999&&(nb f.Hand.Position 0 255&&(nb f.Hand.Lo (-1099511627776) 1099511627776&&(nb f.Hand.Hi (-1099511627776) 1099511627776&&true))))
 else bif f.Kind==6 then decide (f.Silence.Lo<=f.Silence.Hi)&&(nb f.Silence.Mat 0 39&&(nb f.Silence.Epoch 0 255&&(nb f.Silence.Lo (-1099511627776) 1099511627776&&(nb f.Silence.Hi (-1099511627776) 1099511627776&&true))))
 else bif f.Kind==7 then decide (f.Pair.A<f.Pair.B)&&(nb f.Pair.A 1 9999&&(nb f.Pair.B 1 9999&&true))
 else bif f.Kind==8 then true&&(nb f.Report.Case 1 1048576&&(nb f.Report.Bib 1 9999&&(nb f.Report.Offence 0 31&&(nb f.Report.Position 0 255&&true))))
 else bif f.Kind==9 then true&&(nb f.Protest.Case 1 1048576&&(nb f.Protest.By 0 9999&&(nb f.Protest.Fee 0 1125899906842624&&(nb f.Protest.Form 0 1&&true))))
 else bif f.Kind==10 then true&&(nb f.Ruling.Case 1 1048576&&(nb f.Ruling.Instance 1 2&&(nb f.Ruling.Kind 1 5&&(bif (f.Ruling.Kind==1)||(f.Ruling.Kind==2)then nb f.Ruling.Bib 0 0&&(nb f.Ruling.Position 0 0&&(nb f.Ruling.Amount 0 0&&true))else bif f.Ruling.Kind==3 then nb f.Ruling.Bib 1 9999&&(nb f.Ruling.Position 0 255&&(nb f.Ruling.Amount 1 1099511627776&&true))else bif f.Ruling.Kind==4 then nb f.Ruling.Bib 1 9999&&(nb f.Ruling.Position 0 255&&(nb f.Ruling.Amount 1 64&&true))else nb f.Ruling.Bib 1 9999&&(nb f.Ruling.Position 0 255&&(nb f.Ruling.Amount 0 0&&true))))))
 else bif f.Kind==11 then true&&(nb f.Appeal.Case 1 1048576&&(nb (suspB f) 0 1&&true))
 else bif f.Kind==12 then true&&true
 else bif f.Kind==13 then true&&(nb f.Void.Crew 0 31&&(nb f.Void.No 1 1048576&&true))
 else false
theorem Qol(f:Fact):(f.Kind=1\/f.Kind=2\/f.Kind=3\/f.Kind=4\/f.Kind=5\/f.Kind=6\/f.Kind=7\/f.Kind=8\/f.Kind=9\/f.Kind=10\/f.Kind=11\/f.Kind=12\/f.Kind=13)\/((f.Kind==1)=false/\(f.Kind==2)=false/\(f.Kind==3)=false/\(f.Kind==4)=false/\(f.Kind==5)=false/\(f.Kind==6)=false/\(f.Kind==7)=false/\(f.Kind==8)=false/\(f.Kind==9)=false/\(f.Kind==10)=false/\(f.Kind==11)=false/\(f.Kind==12)=false/\(f.Kind==13)=false):=by
 by_cases h:1<=f.Kind/\f.Kind<=13
 .left;omega
 .right;simp only[VD,ne_eq];omega
theorem Qnv(f:Fact):contS f=contR f:=by
 rcases Qol f with k|⟨x,q,r,w,t,y,p,s,u,i,j,g,h⟩
 .rcases k with k|k|k|k|k|k|k|k|k|k|k|k|k
  case inr.inr.inr.inr.inr.inr.inr.inr.inr.inl=>
   obtain⟨Cr,No,At,Ki,S,R,B,Sy,Ha,Si,Pa,Re,Pr,⟨l,n,a,e,b,d⟩,Ap,Vo⟩:=f;simp only at k;subst k;have m:openU ⟨Cr,No,At,10,S,R,B,Sy,Ha,Si,Pa,Re,Pr,⟨l,n,a,e,b,d⟩,Ap,Vo⟩=(bif (a==1)||(a==2)then U_facts_open_rxk.c9 (0,0,0,0,0,0)else bif a==3 then .c9 (1,9999,0,255,1,1099511627776)else bif a==4 then .c9 (1,9999,0,255,1,64)else .c9 (1,9999,0,255,0,0)):=rfl;have z:contR ⟨Cr,No,At,10,S,R,B,Sy,Ha,Si,Pa,Re,Pr,⟨l,n,a,e,b,d⟩,Ap,Vo⟩=(true&&(nb l 1 1048576&&(nb n 1 2&&(nb a 1 5&&(bif (a==1)||(a==2)then nb e 0 0&&(nb b 0 0&&(nb d 0 0&&true))else bif a==3 then nb e 1 9999&&(nb b 0 255&&(nb d 1 1099511627776&&true))else bif a==4 then nb e 1 9999&&(nb b 0 255&&(nb d 1 64&&true))else nb e 1 9999&&(nb b 0 255&&(nb d 0 0&&true))))))):=rfl;rw[z];unfold contS;rw[m];cases((a==1)||(a==2))with
   |true=>rfl
   |false=>
    cases(a==3)with
    |true=>rfl
    |false=>cases(a==4)<;>rfl
  case inr.inr.inr.inr.inr.inr.inr.inr.inr.inr.inl=>
   obtain⟨Cr,No,At,Ki,S,R,B,Sy,Ha,Si,Pa,Re,Pr,Ru,⟨Ca,Su⟩,Vo⟩:=f;simp only at k;subst k;cases Su<;>rfl
  all_goals
   obtain⟨Cr,No,At,Ki,S,R,B,Sy,Ha,Si,Pa,Re,Pr,Ru,Ap,Vo⟩:=f;simp only at k;subst k;rfl
 .have m:openU f=.c13 ():=by unfold openU;rw[x,q,r,w,t,y,p,s,u,i,j,g,h];rfl
  unfold contS contR;rw[m,x,q,r,w,t,y,p,s,u,i,j,g,h];rfl
theorem Qif(x:Fact):∀l:List Fact,(insC x l).length<=l.length+1
 |[]=>by simp[insC]
 |y::r=>by
  unfold insC;have:=Qif x r;cases decide (cmpF y x<0)with
  |true=>simp only[Vt,X5];omega
  |false=>cases(y==x)<;>simp
theorem Qi7{c:Course}(h:Course.wf c):CourseOk c:=by
 obtain⟨e,⟨m,i⟩,⟨k,r⟩,⟨p,b⟩,⟨d,g⟩,⟨q,j⟩,⟨n,l⟩,⟨f,s⟩,_⟩:=h;exact⟨e,m,λx a=>(i x a).1,k,p,λx a=>(b x a).1,λx a=>(b x a).2.2.2.1.1,d,λx a=>(g x a).1,q,λx a=>(j x a).1,n,λx a=>(l x a).1,f⟩
theorem QjZ{c:Course}(h:Course.wf c):PartsOk c:=by
 obtain⟨_,_,_,⟨e,b⟩,_⟩:=h;exact⟨λd a=>(b d a).2.1.1,λd a=>(b d a).2.1.2⟩
theorem Qoc{c:Course}(h:Course.wf c):c.Ties.length<=1048576/\ ∀x∈c.Ties,Step.wf x:=by
 obtain⟨_,_,_,_,_,_,_,_,a,_⟩:=h;exact a
theorem QfG(l:List Fact):(canonS l).length<=l.length:=by
 have:∀(m a:List Fact),(m.foldl (λa x=>bif validS x then insC x a else a) a).length<=a.length+m.length:=by
  intro m
  induction m with
  |nil=>intro a;simp
  |cons x m b=>
   intro a;rw[XH,X5];have d:=b (bif validS x then insC x a else a);have e:(bif validS x then insC x a else a).length<=a.length+1:=by
    cases validS x with
    |true=>exact Qif x a
    |false=>simp
   omega
 have:=this l [];simpa[canonS]using this
def rulB(k i:Int)(f:Fact):Bool:=(f.Kind==10)&&((f.Ruling.Case==k)&&(f.Ruling.Instance==i))
def repB(k:Int)(f:Fact):Bool:=(f.Kind==8)&&(f.Report.Case==k)
def appB(k:Int)(f:Fact):Bool:=(f.Kind==11)&&(f.Appeal.Suspends&&(f.Appeal.Case==k))
def caseN(f:Fact):Option Int:=bif f.Kind==10 then some f.Ruling.Case else bif f.Kind==8 then some f.Report.Case else bif (f.Kind==11)&&f.Appeal.Suspends then some f.Appeal.Case else none
def fileOf(P:List Fact)(k:Int):Ue:=⟨k,P.filter (rulB k 0),P.filter (rulB k 1),P.filter (rulB k 2),(P.filter (repB k)).map (·.Report),P.any (appB k)⟩
theorem Ja{k i:Int}{f:Fact}(h:rulB k i f=true):caseN f=some k:=by
 unfold rulB at h;rw[X0,X0,VC (a:=f.Ruling.Case)]at h;unfold caseN;rw[h.1,Vt,h.2.1]
theorem Qds{k:Int}{f:Fact}(h:repB k f=true):caseN f=some k:=by
 unfold repB at h;rw[X0,VC,VC]at h;unfold caseN;rw[h.1,h.2];rfl
theorem QdJ{k:Int}{f:Fact}(h:appB k f=true):caseN f=some k:=by
 unfold appB at h;rw[X0,X0,VC,VC]at h;unfold caseN;rw[h.1,h.2.1,h.2.2];rfl
theorem Qa2{α:Type}{p:α->Bool}{l:List α}(h:∀x∈l,p x=false):l.filter p=[]:=by
 rw[List.filter_eq_nil_iff];intro x a;rw[h x a];exact Bool.false_ne_true
theorem QaP{b:Bool}(h:¬b=true):b=false:=by cases b with
 |true=>exact absurd rfl h
 |false=>rfl
theorem QjB{P:List Fact}{k:Int}(h:∀f∈P,caseN f≠some k):fileOf P k=Qar k:=by
 unfold fileOf Qar;rw[Qa2 λf a=>QaP λq=>h f a (Ja q),Qa2 λf a=>QaP λq=>h f a (Ja q),Qa2 λf a=>QaP λq=>h f a (Ja q),
  Qa2 λf a=>QaP λq=>h f a (Qds q),show P.any (appB k)=false from List.any_eq_false.2 λf a q=>h f a (QdJ q)]
 rfl
theorem Qz{α:Type}(p:α->Bool)(l:List α)(x:α):(l++[x]).filter p=bif p x then l.filter p++[x]else l.filter p:=by
 rw[List.filter_append];cases h:p x<;>simp[h]
theorem Qc1{P:List Fact}{f:Fact}{k:Int}(h:caseN f≠some k):fileOf (P++[f]) k=fileOf P k:=by
 unfold fileOf;rw[Qz,Qz,Qz,Qz,QaP λq=>h (Ja (i:=0) q),QaP λq=>h (Ja (i:=1) q),QaP λq=>h (Ja (i:=2) q),QaP λq=>h (Qds q),List.any_append,List.any_cons,List.any_nil,
  QaP λq=>h (QdJ q)]
 simp
structure FilesOf (P:List Fact) (fs:List Ue):Prop where
 num:(fs.map (·.number)).Nodup
 each:∀x∈fs,x=fileOf P x.number
 mem:∀k,k∈fs.map (·.number)↔ ∃f∈P,caseN f=some k
theorem FilesOf.nil:FilesOf [] []:=⟨List.nodup_nil,(λ_ h=>by cases h),λk=>by simp⟩
theorem FilesOf.skip{P:List Fact}{fs:List Ue}{f:Fact}(h:FilesOf P fs)(d:caseN f=none):FilesOf (P++[f]) fs:=by
 refine⟨h.num,λx e=>?_,λk=>?_⟩
 .rw[Qc1 (by rw[d];intro q;cases q)];exact h.each x e
 .rw[h.mem k];constructor
  .rintro⟨g,b,a⟩;exact⟨g,by simp[b],a⟩
  .rintro⟨g,b,a⟩;rcases VH.1 b with q|q
   .exact⟨g,q,a⟩
   .rw[VF.1 q,d]at a;cases a
theorem FilesOf.put{P:List Fact}{fs:List Ue}{f:Fact}{k:Int}{g:Ue->Ue}(h:FilesOf P fs)(t:caseN f=some k)(B:∀x,(g x).number=x.number)(hg:g (fileOf P k)=fileOf (P++[f]) k):FilesOf (P++[f]) (Qbp (Qai fs k) k g):=by
 have u:∀x∈Qai fs k,x=fileOf P x.number:=by
  by_cases q:∃x∈fs,x.number=k
  .rw[QcZ q];exact h.each
  .have i:∀x∈fs,x.number≠k:=λx d e=>q ⟨x,d,e⟩;rw[QbW i];intro x d;rcases VH.1 d with z|z
   .exact h.each x z
   .rw[VF.1 z];refine(QjB (k:=k) λa r e=>?_).symm;obtain⟨x,d,F⟩:=Xf.1 ((h.mem k).2 ⟨a,r,e⟩);exact i x d F
 have n:((Qai fs k).map (·.number)).Nodup:=by
  by_cases q:∃x∈fs,x.number=k
  .rw[QcZ q];exact h.num
  .have i:∀x∈fs,x.number≠k:=λx d e=>q ⟨x,d,e⟩;rw[QbW i,Xg,List.nodup_append];refine⟨h.num,by simp,?_⟩;intro a r b H;obtain⟨x,d,rfl⟩:=Xf.1 r;have s:b=k:=by simpa[Qar]using H
   rw[s];exact i x d
 have w:∀j,j∈(Qai fs k).map (·.number)↔j=k\/j∈fs.map (·.number):=by
  intro j;by_cases q:∃x∈fs,x.number=k
  .rw[QcZ q];constructor
   .exact .inr
   .rintro(rfl|z)
    .obtain⟨x,d,e⟩:=q;exact Xf.2 ⟨x,d,e⟩
    .exact z
  .rw[QbW λx d e=>q ⟨x,d,e⟩,Xg,VH];simp only[Vn,Vp,VF,Qar];exact Or.comm
 have m:(Qbp (Qai fs k) k g).map (·.number)=(Qai fs k).map (·.number):=by
  unfold Qbp;rw[List.map_map];refine List.map_congr_left λx _=>?_;show(bif decide (x.number=k)then g x else x).number=x.number;cases decide (x.number=k)with
  |true=>exact B x
  |false=>rfl
 refine⟨by rw[m];exact n,λx d=>?_,λj=>?_⟩
 .obtain⟨y,G,rfl⟩:=Xf.1 d;have E:=u y G;cases q:decide (y.number=k)with
  |true=>
   have i:=Vz q;show g y=fileOf _ (g y).number;rw[B,i, <- hg, <- i, <- E]
  |false=>
   have i:=VA q;show y=fileOf _ y.number;rw[Qc1 (by rw[t];intro z;cases z;exact i rfl)];exact E
 .rw[m,w,h.mem j];constructor
  .rintro(rfl|⟨a,p,l⟩)
   .exact⟨f,by simp,t⟩
   .exact⟨a,by simp[p],l⟩
  .rintro⟨a,p,l⟩;rcases VH.1 p with z|z
   .exact .inr ⟨a,z,l⟩
   .rw[VF.1 z,t]at l;cases l;exact .inl rfl
theorem FilesOf.room{P:List Fact}{fs:List Ue}{k:Int}(h:FilesOf P fs)(hl:P.length<1048576):QdX (Qai fs k)=true:=by
 have b:∀n,n<=P.length->Nat.ble (n+1) Qy=true:=λn d=>Qeu (by omega);have one:∀j,(λx:Ue=>Nat.ble (x.r0.length+1) Qy&&Nat.ble (x.r1.length+1) Qy&&Nat.ble (x.r2.length+1) Qy&&Nat.ble (x.reports.length+1) Qy) (fileOf P j)=true:=by
  intro j;simp only[fileOf,X6];rw[b _ (VS ..),b _ (VS ..),b _ (VS ..),b _ (VS ..)];rfl
 unfold QdX;refine Xu.2 λx a=>?_;by_cases q:∃x∈fs,x.number=k
 .rw[QcZ q]at a;rw[h.each x a];exact one _
 .rw[QbW λx a e=>q ⟨x,a,e⟩]at a;rcases VH.1 a with z|z
  .rw[h.each x z];exact one _
  .rw[VF.1 z];simp only[Qar,List.length_nil];decide
theorem QdT{f:Fact}(h:validS f=true):headS f=true/\contR f=true/\onlyS f=f:=by
 rw[Qdn,X0,X0,Qnv,VC]at h;exact⟨h.1.1,h.1.2,h.2⟩
theorem Qk1{f:Fact}(h:validS f=true)(k:f.Kind=10):(1<=f.Ruling.Case/\(f.Ruling.Instance=1\/f.Ruling.Instance=2))/\(0<=f.Ruling.Bib/\f.Ruling.Bib<=9999)/\f.Report=Up.Report:=by
 obtain⟨_,b,m⟩:=QdT h;have e:f.Report=(onlyS f).Report:=by rw[m]
 have l:(onlyS f).Report=bif f.Kind==8 then f.Report else Up.Report:=rfl
 rw[l,k]at e;refine⟨?_,?_,e⟩
 .unfold contR at b;rw[k]at b;have d:(true&&(nb f.Ruling.Case 1 1048576&&(nb f.Ruling.Instance 1 2&&(nb f.Ruling.Kind 1 5&&(bif (f.Ruling.Kind==1)||(f.Ruling.Kind==2)then nb f.Ruling.Bib 0 0&&(nb f.Ruling.Position 0 0&&(nb f.Ruling.Amount 0 0&&true))else bif f.Ruling.Kind==3 then nb f.Ruling.Bib 1 9999&&(nb f.Ruling.Position 0 255&&(nb f.Ruling.Amount 1 1099511627776&&true))else bif f.Ruling.Kind==4 then nb f.Ruling.Bib 1 9999&&(nb f.Ruling.Position 0 255&&(nb f.Ruling.Amount 1 64&&true))else nb f.Ruling.Bib 1 9999&&(nb f.Ruling.Position 0 255&&(nb f.Ruling.Amount 0 0&&true)))))))=true:=b;simp only[X0,QdA]at d;obtain⟨_,a,n,_⟩:=d;exact⟨a.1,by omega⟩
 .unfold contR at b;rw[k]at b;have d:(true&&(nb f.Ruling.Case 1 1048576&&(nb f.Ruling.Instance 1 2&&(nb f.Ruling.Kind 1 5&&(bif (f.Ruling.Kind==1)||(f.Ruling.Kind==2)then nb f.Ruling.Bib 0 0&&(nb f.Ruling.Position 0 0&&(nb f.Ruling.Amount 0 0&&true))else bif f.Ruling.Kind==3 then nb f.Ruling.Bib 1 9999&&(nb f.Ruling.Position 0 255&&(nb f.Ruling.Amount 1 1099511627776&&true))else bif f.Ruling.Kind==4 then nb f.Ruling.Bib 1 9999&&(nb f.Ruling.Position 0 255&&(nb f.Ruling.Amount 1 64&&true))else nb f.Ruling.Bib 1 9999&&(nb f.Ruling.Position 0 255&&(nb f.Ruling.Amount 0 0&&true)))))))=true:=b;simp only[X0]at d;obtain⟨_,_,_,_,a⟩:=d;cases j:((f.Ruling.Kind==1)||(f.Ruling.Kind==2))with
  |true=>rw[j]at a;simp only[Vt,X0,QdA]at a;omega
  |false=>
   rw[j,Vu]at a;cases g:(f.Ruling.Kind==3)with
   |true=>rw[g]at a;simp only[Vt,X0,QdA]at a;omega
   |false=>
    rw[g,Vu]at a;cases i:(f.Ruling.Kind==4)with
    |true=>rw[i]at a;simp only[Vt,X0,QdA]at a;omega
    |false=>rw[i]at a;simp only[Vu,X0,QdA]at a;omega
theorem Qb6{f:Fact}(k:f.Kind=10)(j:Int):rulB f.Ruling.Case j f=(f.Ruling.Instance==j):=by
 unfold rulB;rw[k];simp
theorem Qhm{P:List Fact}{fs:List Ue}{f:Fact}(h:FilesOf P fs)(hl:P.length<1048576)(r:validS f=true):∃fs',filesStep fs f=some fs'/\FilesOf (P++[f]) fs':=by
 unfold filesStep;cases a:(f.Kind==10)with
 |true=>
  have k:f.Kind=10:=by simpa using a
  obtain⟨⟨_,e⟩,_⟩:=Qk1 r k;have l:caseN f=some f.Ruling.Case:=by unfold caseN;rw[a];rfl
  have n:repB f.Ruling.Case f=false:=by unfold repB;rw[k];rfl
  have b:appB f.Ruling.Case f=false:=by unfold appB;rw[k];rfl
  simp only[Vt,h.room hl];unfold filesAdd;rcases e with e|e
  .refine⟨Qbp (Qai fs f.Ruling.Case) f.Ruling.Case λx=>{x with r1:=x.r1++[f]},by rw[e];rfl,h.put l (λx=>rfl) ?_⟩;unfold fileOf;rw[Qz,Qz,Qz,Qz,Qb6 k,Qb6 k,Qb6 k,e,n,List.any_append,List.any_cons,List.any_nil,b];simp
  .refine⟨Qbp (Qai fs f.Ruling.Case) f.Ruling.Case λx=>{x with r2:=x.r2++[f]},by rw[e];rfl,h.put l (λx=>rfl) ?_⟩;unfold fileOf;rw[Qz,Qz,Qz,Qz,Qb6 k,Qb6 k,Qb6 k,e,n,List.any_append,List.any_cons,List.any_nil,b];simp
 |false=>
  simp only[Vu];have m:∀j i,rulB j i f=false:=λj i=>by unfold rulB;rw[a];rfl
  cases g:(f.Kind==8)with
  |true=>
   have k:f.Kind=8:=by simpa using g
   have l:caseN f=some f.Report.Case:=by unfold caseN;rw[a,g];rfl
   have s:repB f.Report.Case f=true:=by unfold repB;rw[k];simp
   have b:appB f.Report.Case f=false:=by unfold appB;rw[k];rfl
   simp only[Vt,h.room hl];refine⟨Qbp (Qai fs f.Report.Case) f.Report.Case λx=>{x with reports:=x.reports++[f.Report]},rfl,h.put l (λx=>rfl) ?_⟩;unfold fileOf;rw[Qz,Qz,Qz,Qz,m,m,m,s,List.any_append,List.any_cons,List.any_nil,b];simp
  |false=>
   simp only[Vu];have n:∀j,repB j f=false:=λj=>by unfold repB;rw[g];rfl
   cases d:(f.Kind==11)with
   |true=>
    simp only[Vt];cases p:f.Appeal.Suspends with
    |true=>
     have l:caseN f=some f.Appeal.Case:=by unfold caseN;rw[a,g,d,p];rfl
     have q:appB f.Appeal.Case f=true:=by unfold appB;rw[d,p];simp
     refine⟨Qbp (Qai fs f.Appeal.Case) f.Appeal.Case λx=>{x with appeal:=true},rfl,h.put l (λx=>rfl) ?_⟩;unfold fileOf;rw[Qz,Qz,Qz,Qz,m,m,m,n,List.any_append,List.any_cons,List.any_nil,q];simp
    |false=>exact⟨_,rfl,h.skip (by unfold caseN;rw[a,g,d,p];rfl)⟩
   |false=>exact⟨_,rfl,h.skip (by unfold caseN;rw[a,g,d];rfl)⟩
def SameF(l m:List Fact):Prop:=∀f,validS f=true->(f∈l↔f∈m)
theorem SameF.symm{l m:List Fact}(h:SameF l m):SameF m l:=λf hf=>(h f hf).symm
theorem SameF.filter{l m:List Fact}(h:SameF l m)(p:Fact->Bool):SameF (l.filter p) (m.filter p):=λf hf=>by rw[Xe,Xe,h f hf]
def repStep(k:Int)(r f:Fact):Fact:=bif validS f&&repB k f then(bif (r.Kind==0)||decide (cmpF f r<0)then f else r)else r
structure RepOf (k:Int) (P:List Fact) (r:Fact):Prop where
 none:(r.Kind==0)=true->r=Up/\ ∀f∈P,validS f=true->repB k f=false
 some:(r.Kind==0)=false->r∈P/\validS r=true/\repB k r=true/\ ∀f∈P,validS f=true->repB k f=true->¬cmpF f r<0
theorem Qge{k:Int}{f:Fact}(h:repB k f=true):(f.Kind==0)=false:=by
 unfold repB at h;rw[X0,VC]at h;rw[h.1];rfl
theorem RepOf.nil(k:Int):RepOf k [] Up:=⟨λ_=>⟨rfl,λ_ h=>by cases h⟩,λh=>by cases h⟩
theorem RepOf.step{k:Int}{P:List Fact}{r f:Fact}(h:RepOf k P r):RepOf k (P++[f]) (repStep k r f):=by
 unfold repStep;cases q:validS f&&repB k f with
 |false=>
  simp only[Vu];have n:¬(validS f=true/\repB k f=true):=λz=>by rw[z.1,z.2]at q;cases q
  refine⟨λz=>⟨(h.none z).1,λg l i=>?_⟩,λz=>?_⟩
  .rcases VH.1 l with w|w
   .exact(h.none z).2 g w i
   .rw[VF.1 w]at i⊢;exact QaP λy=>n ⟨i,y⟩
  .obtain⟨a,b,c,d⟩:=h.some z;refine⟨by simp[a],b,c,λg l i j=>?_⟩;rcases VH.1 l with w|w
   .exact d g w i j
   .rw[VF.1 w]at i j;exact absurd ⟨i,j⟩ n
 |true=>
  rw[X0]at q;simp only[Vt];cases z:(r.Kind==0)with
  |true=>
   simp only[Bool.true_or,Vt];refine⟨λw=>(by rw[Qge q.2]at w;cases w),λ_=>⟨by simp,q.1,q.2,λg l i j=>?_⟩⟩;rcases VH.1 l with w|w
   .rw[(h.none z).2 g w i]at j;cases j
   .rw[VF.1 w];have:=QkL.refl f;omega
  |false=>
   simp only[Bool.false_or];obtain⟨a,b,c,d⟩:=h.some z;cases y:decide (cmpF f r<0)with
   |true=>
    have m:=Vz y;simp only[Vt];refine⟨λw=>(by rw[Qge q.2]at w;cases w),λ_=>⟨by simp,q.1,q.2,λg l i j=>?_⟩⟩;rcases VH.1 l with w|w
    .intro e;exact d g w i j (QkL.trans _ _ _ e m)
    .rw[VF.1 w];have:=QkL.refl f;omega
   |false=>
    have m:=VA y;simp only[Vu];refine⟨λw=>(by rw[z]at w;cases w),λ_=>⟨by simp[a],b,c,λg l i j=>?_⟩⟩;rcases VH.1 l with w|w
    .exact d g w i j
    .rw[VF.1 w];exact m
section
variable {α β:Type}
theorem Qbu(q:α->Bool):∀(l a:List α),l.foldl (λa x=>bif q x then a++[x]else a) a=a++l.filter q
 |[],a=>by simp
 |x::l,a=>by
  rw[XH,Qbu q l,Xd];cases h:q x<;>simp
theorem Qkc{step:Nat->List α×Int->Option (Ctl (List α×Int) (List α))}(l:List α)(q:α->Bool)(hl:l.length<=1048576)
  (g:∀i x a,At l i x->a.length<=i->Ev (λn=>step n (a,(i:Int))) (.cont ((bif q x then a++[x]else a),((i+1:Nat):Int))))
  (d:∀a,Ev (λn=>step n (a,(l.length:Int))) (.done a)):Ev (λn=>Go.Sw.iter (step n) n ([],0)) (l.filter q):=by
 have e:l.filter q=l.foldl (λa x=>bif q x then a++[x]else a) []:=by rw[Qbu];rfl
 rw[e];refine Yt l (λa x=>bif q x then a++[x]else a) [] (λa i=>(a,(i:Int))) (λa=>a) (by omega) rfl (λi x a b f=>g i x a b ?_) (d _);rw[f,Qbu,Vl];exact XZ (VS ..) (by rw[XA];omega)
theorem Qgo{l:List α}[DecidableEq (List α)](hl:l.length<=1048576):isNil l (some ([]:List α)) ((app ([]:List α) l).bind λx=>some x)=some l:=by
 have:app ([]:List α) l=some l:=by rw[Qby _ _ (by simp;omega)];rfl
 unfold isNil;cases l with
 |nil=>rw[this];simp
 |cons a l=>rw[this];rfl
theorem QnX{F:Nat->α->α->Option β}{V:α->α->β}(l:List α)(h:∀x∈l,∀y∈l,Ev (λn=>F n x y) (V x y)):∃N,∀n,N<=n->∀x∈l,∀y∈l,F n x y=some (V x y):=by
 obtain⟨N,e⟩:=QaT (F:=λn (p:α×α)=>F n p.1 p.2) (V:=λp=>V p.1 p.2) (l.flatMap λx=>l.map λy=>(x,y)) (by
  intro p a;rw[List.mem_flatMap]at a;obtain⟨x,d,a⟩:=a;obtain⟨y,b,rfl⟩:=Xf.1 a;exact h x d y b)
 exact⟨N,λn f x d y b=>e n f (x,y) (List.mem_flatMap.2 ⟨x,d,Xf.2 ⟨y,b,rfl⟩⟩)⟩
def ltC(c:α->α->Int)(x y:α):Bool:=decide (c x y<0)
theorem Qb9{c:α->α->Int}(d:CmpOK c)(l:List α):Qec (ltC c) l:=by
 refine⟨λx _=>?_,λx _ y _ z _ f g=>?_,λx _ y _ z _ f g=>?_⟩
 .have:=d.refl x;exact VB (by omega)
 .have f:=Vz f;have g:=Vz g;exact Vy (d.trans x y z f g)
 .have f:=VA f;have g:=VA g;refine VB λh=>?_;have a:=d.swap x y;have b:=d.swap y z;by_cases e:c x y=0
  .rw[d.eqt x y z e]at h;exact g h
  .by_cases i:c y z=0
   .rw[<- d.eqr x i]at h;exact f h
   .have j:=d.trans z y x (by omega) (by omega);have:=d.swap x z;omega
theorem QkX[DecidableEq α]{cf:Nat->α->α->Option Int}{l:List α}{c:α->α->Int}(hl:l.length<=1048576)(p:∀x∈l,∀y∈l,Ev (λn=>cf n x y) (c x y))(a:CmpOK c)(k:∀x∈l,∀y∈l,c x y=0->x=y):
  Ev (λn=>QbN (cf n) l) (YF (ltC c) l):=by
 obtain⟨N,s⟩:=QnX l p;refine⟨N,λn t=>?_⟩;have h:=s n t;have m:=Qmf (cf:=cf n) (XV (Qeu hl)) c h (λx _=>by have:=a.refl x;omega) (λx _ y _ z _=>a.trans x y z) (λx b y d z u f g=>by
   have:=(Qb9 a l).ntrans x b y d z u (VB f) (VB g);exact VA this) (λx b y d f g=>k x b y d (by have:=a.swap x y;omega))
 show QbN (cf n) l=some (YF (ltC c) l);rw[m];congr 1;obtain⟨_,_,r,_,_⟩:=QcM m;have e:∀x∈l,∀y∈l,ltO (cf n) x y=ltC c x y:=λx b y d=>by unfold ltO ltC;rw[h x b y d]
 refine Jn (lt:=ltC c) ((Qn _ l).trans (Qn _ l).symm) (λx b y d f g=>?_) ?_ (QS (Qb9 a l))
 .have i:=(Qn _ l).mem_iff.1 b;have j:=(Qn _ l).mem_iff.1 d;have f:=VA f;have g:=VA g;exact k x i y j (by have:=a.swap x y;omega)
 .refine List.Pairwise.imp_of_mem (λ{x y} b d q=>?_) (QS r);have i:=(Qn _ l).mem_iff.1 b;have j:=(Qn _ l).mem_iff.1 d;rw[<- e y j x i];exact q
end
def ddA(p:Fact):List Fact->List Fact
 |[]=>[]
 |x::r=>bif cmpF x p==0 then ddA x r else x::ddA x r
def dd:List Fact->List Fact
 |[]=>[]
 |x::r=>x::ddA x r
theorem Qnr{x p:Fact}{r:List Fact}(q:(cmpF x p==0)=true):ddA p (x::r)=ddA x r:=by
 show(bif cmpF x p==0 then ddA x r else x::ddA x r)=_;rw[q];rfl
theorem Qnq{x p:Fact}{r:List Fact}(q:(cmpF x p==0)=false):ddA p (x::r)=x::ddA x r:=by
 show(bif cmpF x p==0 then ddA x r else x::ddA x r)=_;rw[q];rfl
theorem Qnp:∀(r:List Fact) (p:Fact),(∀x∈r,¬cmpF x p<0)->r.Pairwise (λa b=>¬cmpF b a<0)->(∀x∈p::r,validS x=true)->(ddA p r).Pairwise ltF/\(∀x∈ddA p r,ltF p x)/\ ∀x,x∈p::ddA p r↔x∈p::r
 |[],p,_,_,_=>⟨List.Pairwise.nil,(λ_ h=>by cases h),λ_=>Iff.rfl⟩
 |y::r,p,h1,h2,h3=>by
  rw[Xc]at h2;obtain⟨i1,i2,i3⟩:=Qnp r y h2.1 h2.2 λx hx=>h3 x (by simp only[Va]at hx⊢;exact .inr hx);have hy:=h1 y (by simp);unfold ddA;cases q:cmpF y p==0 with
  |true=>
   have q':cmpF y p=0:=by simpa using q
   have e:y=p:=Qex (h3 y (by simp)) (h3 p (by simp)) q';subst e;refine⟨i1,i2,λx=>?_⟩;rw[Vt,i3 x];simp
  |false=>
   have q':¬cmpF y p=0:=by simpa using q
   have d:ltF p y:=by
    have:=QkL.swap y p;unfold ltF;omega
   simp only[Vu];refine⟨Xc.2 ⟨i2,i1⟩,λx hx=>?_,λx=>?_⟩
   .rcases Va.1 hx with rfl|hx
    .exact d
    .exact Qe4 _ _ _ d (i2 x hx)
   .rw[Va,i3 x,Va (a:=x) (b:=p)]
theorem dd_ok{S:List Fact}(h:S.Pairwise λa b=>¬cmpF b a<0)(f:∀x∈S,validS x=true):(dd S).Pairwise ltF/\ ∀x,x∈dd S↔x∈S:=by
 cases S with
 |nil=>exact⟨List.Pairwise.nil,λ_=>Iff.rfl⟩
 |cons a r=>
  rw[Xc]at h;obtain⟨e,g,d⟩:=Qnp r a h.1 h.2 f;exact⟨Xc.2 ⟨g,e⟩,d⟩
theorem Qhq(x y:Fact):Ev (λn=>F_ap n x y) (cmpF x y==0):=Ea (Qfw x y) (Qa _)
theorem Qky{l:List Fact}{a j:Nat}{x:Fact}(h:l[a+j]?=some x){m:Int}(d:m=(l.length:Int)):Qhg l (a:Int) m (j:Int)=some x:=by
 have b:=(XP.1 h).1;unfold Qhg;rw[Vy (show(0:Int)<=(a:Int)by omega),Vy (show(0:Int)<=(j:Int)by omega),Vy (show(a:Int)+(j:Int)<m by omega)];rw[show(a:Int)+(j:Int)=((a+j:Nat):Int)by omega];exact YT h
theorem QkK{α:Type}{l r:List α}{i:Nat}{x:α}(h:l.drop i=x::r):l[i]?=some x/\l.drop (i+1)=r/\i<l.length:=by
 have a:l[i]?=some x:=by
  have:=congrArg (λl=>l[0]?) h;simpa using this
 refine⟨a,?_,(XP.1 a).1⟩;have:=Xr (XP.1 a).1;rw[h]at this;exact(List.cons.inj this).2.symm
theorem QiG(a:List Fact)(hl:a.length<=1048576)(b:Nat):∀(r s:List Fact) (i j:Nat) (p:Fact),s.length=a.length->s.drop (b+(j+1))=r->s[b+j]?=some p->i<b+(j+1)->b+(j+1)<=s.length->
  ∃(s':List Fact) (d:Nat),EvI (λn=>F_ea n a (b:Int)) (s,(i:Int),((j+1:Nat):Int)) (s',(d:Int))/\d<=s'.length/\s'.take d=s.take i++ddA p r:=by
 intro r
 induction r with
 |nil=>
  intro s i j p e h w H F;refine⟨s,i,Ej ?_,by omega,by simp[ddA]⟩;have:=Xs.1 h;unfold F_ea;rw[YK (show¬(((j+1:Nat):Int)<((Int.toNat (a.length:Int)-Int.toNat (b:Int):Nat):Int))by omega)];exact Qa _
 |cons x r t=>
  intro s i j p e h w H F;obtain⟨k,y,E⟩:=QkK h;have z:=Qky k (show(a.length:Int)=(s.length:Int)by rw[e]);have u:=Qky w (show(a.length:Int)=(s.length:Int)by rw[e]);have w1:IntKind.i64.wrap (((j+1:Nat):Int)-1)=(j:Int):=by rw[Yw (by omega) (by omega)];omega
  have w2:IntKind.i64.wrap (((j+1:Nat):Int)+1)=((j+1+1:Nat):Int):=YY (by omega);have B:decide (((j+1:Nat):Int)<((Int.toNat (a.length:Int)-Int.toNat (b:Int):Nat):Int))=true:=Vy (by omega);have l:i<s.length:=by omega
  cases q:cmpF x p==0 with
  |true=>
   obtain⟨s',d,g,m,f⟩:=t s i (j+1) x e (by rw[show b+(j+1+1)=b+(j+1)+1 by omega];exact y) k (by omega) (by omega);refine⟨s',d,Ew ?_ g,m,by rw[f,Qnr q]⟩;unfold F_ea;simp only[B,Vt,z,w1,u,XN];refine Ea (Qhq x p) ?_;rw[q];simp only[Xh,Vu,XN,w2];exact Qa _
  |false=>
   have G:(s.set i x).length=a.length:=by rw[X8];exact e
   obtain⟨s',d,g,m,f⟩:=t (s.set i x) (i+1) (j+1) x G (by rw[show b+(j+1+1)=b+(j+1)+1 by omega,List.drop_set_of_lt (by omega)];exact y) (by rw[XT (by omega)];exact k) (by omega) (by rw[X8];omega);have w3:IntKind.i64.wrap ((i:Int)+1)=((i+1:Nat):Int):=YY (by omega);refine⟨s',d,Ew ?_ g,m,?_⟩
   .unfold F_ea;simp only[B,Vt,z,w1,u,XN];refine Ea (Qhq x p) ?_;rw[q];simp only[Xi,Vt,XN,w2,YT (XO l),Qmj s x l,w3];exact Qa _
   .rw[f,List.take_add_one,Xa l,List.take_set_of_le (XX _)];rw[Qnq q];simp
theorem QiH(a:List Fact)(hl:a.length<=1048576):∀(r:List Fact) (k:Nat) (p:Fact),a.drop (k+1)=r->a[k]?=some p->k+1<=a.length->∃b:Ctl Unit (List Fact),EvI (λn=>F_eq n a) ((k+1:Nat):Int) b/\((b=.cont ()/\ddA p r=r)\/b=.done (a.take (k+1)++ddA p r)):=by
 intro r
 induction r with
 |nil=>
  intro k p i l u;refine⟨.cont (),Ej ?_,.inl ⟨rfl,rfl⟩⟩;have:=Xs.1 i;unfold F_eq;rw[YK (show¬(((k+1:Nat):Int)<(a.length:Int))by omega)];exact Qa _
 |cons x r t=>
  intro k p i l u;obtain⟨g,s,f⟩:=QkK i;have w1:IntKind.i64.wrap (((k+1:Nat):Int)-1)=(k:Int):=by rw[Yw (by omega) (by omega)];omega
  have w2:IntKind.i64.wrap (((k+1:Nat):Int)+1)=((k+1+1:Nat):Int):=YY (by omega);have m:decide (((k+1:Nat):Int)<(a.length:Int))=true:=Vy (by omega);cases q:cmpF x p==0 with
  |true=>
   obtain⟨w,y,j,d,h⟩:=QiG a hl (k+1) r a (k+1) 0 x rfl s g (by omega) (by omega);refine⟨.done (a.take (k+1)++ddA p (x::r)),Ej ?_,.inr rfl⟩;unfold F_eq;simp only[m,Vt,YT g,w1,YT l,XN];refine Ea (Qhq x p) ?_;rw[q];simp only[Vt,Qmg a (Nat.le_of_lt f),XN];refine Ea j.ev ?_;simp only[Qpl w d,XN];rw[h];rw[Qnr q];exact Qa _
  |false=>
   obtain⟨b,j,d⟩:=t (k+1) x s g f;have e:=Qnq (r:=r) q;refine⟨b,Ew ?_ j,?_⟩
   .unfold F_eq;simp only[m,Vt,YT g,w1,YT l,XN];refine Ea (Qhq x p) ?_;rw[q];simp only[Vu,w2];exact Qa _
   .rcases d with⟨d,h⟩|d
    .exact .inl ⟨d,by rw[e,h]⟩
    .refine .inr ?_;rw[d,e,List.take_add_one,g];simp
theorem QiE(a:List Fact)(hl:a.length<=1048576):Ev (λn=>F_bz n a) (dd a):=by
 unfold F_bz
 match a,hl with
 |[],_=>exact Qa _
 |[x],_=>exact Qa _
 |x::y::r,hl=>
  rw[YK (show¬(((x::y::r).length:Int)<2)by simp;omega)];refine Qax ?_;obtain⟨b,f,e⟩:=QiH (x::y::r) hl (y::r) 0 x rfl rfl (by simp);refine Ea f.ev ?_;rcases e with⟨rfl,d⟩|rfl
  .show Ev (λn=>some (x::y::r)) (x::ddA x (y::r));rw[d];exact Qa _
  .exact Qa _
theorem Qlk(l:List Fact)(d:∀f∈l,validS f=true)(hl:l.length<=1048576):Ev (λn=>F_ay n l) (canonS l):=by
 unfold F_ay F_fl;simp only[Qgo hl,XN];have p:=Qn (ltC cmpF) l;refine Ea (QkX hl (λx _ y _=>Qfw x y) QkL λx g y k e=>Qex (d x g) (d y k) e) ?_;refine Ea (QiE _ (by rw[p.length_eq];exact hl)) ?_;have s:(YF (ltC cmpF) l).Pairwise λa b=>¬cmpF b a<0:=List.Pairwise.imp (λq=>VA q) (QS (Qb9 QkL l));obtain⟨r,j⟩:=dd_ok s λx g=>d x (p.mem_iff.1 g);obtain⟨m,i⟩:=Jt l;refine Ev.eq (Qa _) (Qbq Qhc Qe4 r m.1 λf=>?_);rw[j,p.mem_iff,i];exact⟨λh=>⟨h,d f h⟩,λh=>h.1⟩
def cmpN(x y:Ue):Int:=cmpI x.number y.number
theorem Qew:CmpOK cmpN:=cmpI_ok.on λx:Ue=>x.number
def sortN(fs:List Ue):List Ue:=YF (ltC cmpN) fs
theorem Qkt{fs:List Ue}(h:(fs.map (·.number)).Nodup){x y:Ue}(f:x∈fs)(d:y∈fs)(e:x.number=y.number):x=y:=by
 induction fs with
 |nil=>cases f
 |cons a r g=>
  have b:a.number∉r.map (·.number)/\(r.map (·.number)).Nodup:=by rw[Vn,List.nodup_cons]at h;exact h
  rcases Va.1 f with q|q
  .rcases Va.1 d with z|z
   .rw[q,z]
   .exact absurd (Xf.2 ⟨y,z,by rw[<- e,q]⟩) b.1
  .rcases Va.1 d with z|z
   .exact absurd (Xf.2 ⟨x,q,by rw[e,z]⟩) b.1
   .exact g b.2 q z
theorem Qk2{p q:List Ue}(h:p.Perm q)(f:(q.map (·.number)).Nodup):sortN p=sortN q:=by
 have d:(p.map (·.number)).Nodup:=(h.map _).nodup_iff.2 f;refine Jn (lt:=ltC cmpN) ((Qn _ p).trans (h.trans (Qn _ q).symm)) (λx g y e a b=>?_) (QS (Qb9 Qew p)) (QS (Qb9 Qew q));have a:=VA a;have b:=VA b;refine Qkt d ((Qn _ p).mem_iff.1 g) ((Qn _ p).mem_iff.1 e) (Qqi.1 ?_);have:=Qew.swap x y;show cmpN x y=0;omega
def ltN(x y:Ue):Prop:=x.number<y.number
theorem QhS{p:List Ue}(e:(p.map (·.number)).Nodup):(sortN p).Pairwise ltN:=by
 have d:((sortN p).map (·.number)).Nodup:=((Qn _ p).map _).nodup_iff.2 e;have s:=QS (Qb9 Qew p);have a:(sortN p).Pairwise λx y=>x.number≠y.number:=by
  unfold List.Nodup at d;rw[List.pairwise_map]at d;exact d
 refine List.Pairwise.imp₂ (λx y b f=>?_) s a;have b:¬cmpI y.number x.number<0:=VA b;rw[QoG]at b;unfold ltN;omega
theorem Qp1(x y:Ue):Ev (λn=>F_am n x y) (cmpN x y==0):=by
 unfold F_am F_af;simp only[Qhs,XN];exact Qa _
theorem QiF(fs:List Ue)(hl:fs.length<=1048576)(d:fs.Pairwise ltN):Ev (λn=>F_bw n fs) ():=by
 unfold F_bw;cases q:decide ((fs.length:Int)<2)with
 |true=>exact Qa _
 |false=>
  refine Qax ?_;refine Ea (v:=()) ?_ (Qa _);have g:=VA q;refine Ev.iter (λi=>((i+1:Nat):Int)) (fs.length-1) rfl (λi h=>?_) ?_
  .have a:fs[i+1]?=some fs[i+1]:=XO (by omega);have b:fs[i]?=some fs[i]:=XO (by omega);have w1:IntKind.i64.wrap (((i+1:Nat):Int)-1)=(i:Int):=by rw[Yw (by omega) (by omega)];omega
   have w2:IntKind.i64.wrap (((i+1:Nat):Int)+1)=((i+1+1:Nat):Int):=YY (by omega);unfold F_hq;rw[Vy (show(((i+1:Nat):Int)<(fs.length:Int))by omega)];simp only[Vt,YT a,w1,YT b,XN];refine Ea (Qp1 _ _) ?_;have lt:ltN fs[i] fs[i+1]:=VI.1 d i (i+1) (by omega) (by omega) (by omega);have e:(cmpN fs[i+1] fs[i]==0)=false:=by
    rw[VD];intro z;have f:fs[i+1].number=fs[i].number:=Qqi.1 z;unfold ltN at lt;omega
   rw[e];simp only[Vu,w2];exact Qa _
  .unfold F_hq;rw[YK (show¬(((fs.length-1+1:Nat):Int)<(fs.length:Int))by omega)];exact Qa _
theorem QjC(fs:List Ue)(hl:fs.length<=1048576)(a:(fs.map (·.number)).Nodup):Ev (λn=>F_cs n fs) (sortN fs):=by
 unfold F_cs F_fn;simp only[Qgo hl,XN];refine Ea (v:=sortN fs) (QkX hl (λx _ y _=>?_) Qew λx d y b e=>Qkt a d b (Qqi.1 e)) ?_
 .unfold F_af;simp only[Qhs,XN];exact Qa _
 .refine Ea (v:=()) (QiF _ ?_ (QhS a)) (Qa _);unfold sortN;rw[(Qn _ fs).length_eq];exact hl
theorem Qfe(fs:List Ue)(k:Int):(Qai fs k).length<=fs.length+1:=by
 unfold Qai;cases fs.any λx=>decide (x.number=k)<;>simp
theorem QeG(fs:List Ue)(k:Int)(g:Ue->Ue):(Qbp fs k g).length=fs.length:=by unfold Qbp;rw[X6]
theorem QoI{fs a:List Ue}{k i:Int}{f:Fact}(h:filesAdd fs k i f=some a):a.length=fs.length:=by
 unfold filesAdd at h;cases d:(i==0)<;>cases e:(i==1)<;>cases b:(i==2)<;>rw[d,e,b]at h<;>first|(cases h;done)|(cases h;rw[QeG])
theorem Ql9{fs d:List Ue}{f:Fact}(h:filesStep fs f=some d):d.length<=fs.length+1:=by
 unfold filesStep at h;cases g:(f.Kind==10)with
 |true=>
  rw[g,Vt]at h;cases a:QdX (Qai fs f.Ruling.Case)with
  |true=>rw[a,Vt]at h;rw[QoI h];exact Qfe _ _
  |false=>rw[a]at h;cases h
 |false=>
  rw[g,Vu]at h;cases a:(f.Kind==8)with
  |true=>
   rw[a,Vt]at h;cases b:QdX (Qai fs f.Report.Case)with
   |true=>rw[b,Vt]at h;cases h;rw[QeG];exact Qfe _ _
   |false=>rw[b]at h;cases h
  |false=>
   rw[a,Vu]at h;cases b:(f.Kind==11)with
   |true=>
    rw[b,Vt]at h;cases e:f.Appeal.Suspends with
    |true=>rw[e,Vt]at h;cases h;rw[QeG];exact Qfe _ _
    |false=>rw[e]at h;cases h;omega
   |false=>rw[b]at h;cases h;omega
theorem Qlm(C:List Fact)(l:∀f∈C,validS f=true)(hl:C.length<=1048576):∃fs,Ev (λn=>Go.Sw.iter (filesL n C) n (([]:List Ue),0)) fs/\FilesOf C fs/\fs.length<=C.length:=by
 have loop:∀(r:List Fact) (i:Nat) (s:List Ue),C.drop i=r->i<=C.length->FilesOf (C.take i) s->s.length<=i->∃fs,EvI (λn=>filesL n C) (s,(i:Int)) fs/\FilesOf C fs/\fs.length<=C.length:=by
  intro r
  induction r with
  |nil=>
   intro i s d k g h;refine⟨s,Ej ?_,?_,by omega⟩
   .unfold filesL;simp only[YM d k,Vu];exact Qa _
   .rw[VM (Xs.1 d)]at g;exact g
  |cons f r q=>
   intro i s d k g h;obtain⟨a,j⟩:=Q2 (by omega) d;have p:=a.lt';obtain⟨t,b,e⟩:=Qhm g (by rw[XA];omega) (l f a.mem);rw[<- a.take]at e;obtain⟨fs,m,u⟩:=q (i+1) t j (by omega) e (by have:=Ql9 b;omega);refine⟨fs,Ew ?_ m,u⟩;unfold filesL;simp only[a.lt,Vt,a.ix,XN,b,a.nx];exact Qa _
 obtain⟨fs,b,e⟩:=loop C 0 [] rfl (XY _) FilesOf.nil (XX _);exact⟨fs,b.ev,e⟩
theorem Qfx:∀(p:List (Int×Ue)) (s:List Ue) (n:Nat),s.length+p.length<=1048576->QeN (F_hj n) (F_ht n) s p=some (s++p.map Prod.snd)
 |[],s,n,_=>by unfold QeN F_ht;simp
 |e::p,s,n,h=>by
  rw[X5]at h;have h1:F_hj n s e=some (.cont (s++[e.2])):=by
   unfold F_hj;rw[Qbz _ _ (by omega)];rfl
  unfold QeN;rw[h1];show QeN _ _ (s++[e.2]) p=_;rw[Qfx p _ n (by simp;omega)];simp
theorem FilesOf.perm{C:List Fact}{fs gs:List Ue}(h:FilesOf C fs)(p:gs.Perm fs):FilesOf C gs:=
 ⟨(p.map _).nodup_iff.2 h.num,λx hx=>h.each x (p.mem_iff.1 hx),λk=>by rw[(p.map _).mem_iff];exact h.mem k⟩
theorem Qnc(l:List Fact)(hl:l.length<=100):∃fs,Ev (λn=>F_p n l) fs/\FilesOf (canonS l) fs/\fs.Pairwise ltN/\fs.length<=(canonS l).length:=by
 have t:∀f∈l.filter validS,validS f=true:=λf g=>(Xe.1 g).2;have e:canonS (l.filter validS)=canonS l:=QjP λf g=>by rw[Xe];simp[g]
 obtain⟨u,y⟩:=Jt l;have q:=QfG l;obtain⟨fs,m,d,s⟩:=Qlm (canonS l) u.2 (by omega);refine⟨sortN fs,?_,d.perm (Qn _ fs),QhS d.num,by unfold sortN;rw[(Qn _ fs).length_eq];exact s⟩;unfold F_p;refine Ea (v:=l.filter validS) (Qkc l validS (by omega) (λi x a b w=>?_) λa=>?_) ?_
 .have r:=b.lt';unfold F_hl;simp only[b.lt,Vt,b.ix,XN,b.nx];refine Ea (Qcp x) ?_;cases validS x with
  |true=>
   simp only[Vt];rw[Qbz a x (by omega)];exact Qa _
  |false=>exact Qa _
 .unfold F_hl;simp only[Qbi,Vu];exact Qa _
 refine Ea (v:=canonS l) ((Qlk _ t (XZ (VS ..) (by omega))).eq e) ?_;refine Ea m ?_;refine Ev.anyP λp h=>?_;have z:p.length=fs.length:=by rw[h.length_eq];unfold Qel;rw[X6]
 have j:(p.map Prod.snd).Perm fs:=by
  have:=h.map Prod.snd;unfold Qel at this;rw[List.map_map]at this;have k:(fs.map (Prod.snd ∘ λx:Ue=>(x.number,x)))=fs:=by
   conv=>rhs;rw[<- List.map_id fs]
   rfl
  rw[k]at this;exact this
 simp only[Qfx p [] _ (by simp;omega),Vl,XN];refine Ea (QjC _ (by rw[X6];omega) ((j.map _).nodup_iff.2 d.num)) ?_;rw[Qk2 j d.num];exact Qa _
def numsC(C:List Fact):List Int:=QiN (YF ltI (C.filterMap caseN))
theorem QcU(C:List Fact):(numsC C).Pairwise (· < ·)/\ ∀k,k∈numsC C↔ ∃f∈C,caseN f=some k:=by
 obtain⟨a,b⟩:=QjL (C.filterMap caseN);refine⟨a,λk=>?_⟩;unfold numsC;rw[b,List.mem_filterMap]
def filesS(C:List Fact):List Ue:=(numsC C).map (fileOf C)
theorem Qli{C:List Fact}{fs:List Ue}(h:FilesOf C fs)(s:fs.Pairwise ltN):fs=filesS C:=by
 obtain⟨g,f⟩:=QcU C;have e:fs.map (·.number)=numsC C:=by
  refine Qdp (lt:=λa b:Int=>a<b) (λa b h=>by omega) ?_ g λk=>?_
  .rw[List.pairwise_map];exact s
  .rw[h.mem k,f k]
 unfold filesS;rw[<- e,List.map_map];have:∀x∈fs,(fileOf C ∘ λx:Ue=>x.number) x=x:=λx d=>(h.each x d).symm
 conv=>lhs;rw[<- List.map_id fs]
 exact List.map_congr_left λx d=>(this x d).symm
theorem Qcc(l:List Fact)(hl:l.length<=100):Ev (λn=>F_p n l) (filesS (canonS l)):=by
 obtain⟨e,a,d,b,_⟩:=Qnc l hl;rw[<- Qli d b];exact a
theorem QjA(C:List Fact):(filesS C).length<=C.length:=by
 unfold filesS numsC;rw[X6];have b:∀(l:List Int) (p:Int),(QaO p l).length<=l.length:=by
  intro l
  induction l with
  |nil=>intro p;exact XX _
  |cons x r a=>
   intro p;unfold QaO;have:=a x;have:=a p;cases(x==p)<;>simp<;>omega
 have d:∀l:List Int,(QiN l).length<=l.length:=λl=>by
  cases l with
  |nil=>exact XX _
  |cons x r=>unfold QiN;simp only[X5];have:=b r x;omega
 refine XZ (d _) ?_;rw[(Qn _ _).length_eq];exact List.length_filterMap_le ..
def suspF(x:Ue):Bool:=x.appeal&&(!x.r1.isEmpty&&x.r2.isEmpty)
def forceF(x:Ue):Option Ruling:=bif suspF x then none else((x.r2++x.r1).head?).map (·.Ruling)
theorem Qlj{C:List Fact}{k:Int}{f:Fact}(h:f∈(fileOf C k).r1\/f∈(fileOf C k).r2):f∈C/\f.Kind=10/\f.Ruling.Case=k:=by
 have one:∀i,f∈C.filter (rulB k i)->f∈C/\f.Kind=10/\f.Ruling.Case=k:=λi h=>by
  rw[Xe]at h;have q:=h.2;unfold rulB at q;simp only[X0,VC]at q;exact⟨h.1,q.1,q.2.1⟩
 rcases h with h|h
 .exact one _ h
 .exact one _ h
theorem Qjy{C:List Fact}{k:Int}{g:Ruling}(h:forceF (fileOf C k)=some g):g.Case=k:=by
 unfold forceF at h;cases q:suspF (fileOf C k)with
 |true=>rw[q]at h;cases h
 |false=>
  rw[q,Vu,Option.map_eq_some_iff]at h;obtain⟨f,a,d⟩:=h;have b:=List.mem_of_head? a;rw[<- d];exact(Qlj ((VH.1 b).symm)).2.2
def keyF(x:Ue):Int×Option Ruling×List Report:=(x.number,forceF x,x.reports)
theorem Qbl{l:List Fact}{f:Fact}(a:validS f=true)(g:Fact):g∈canonS (l++[f])↔g∈canonS l\/g=f:=by
 rw[(Jt _).2 g,(Jt _).2 g,VH,VF];constructor
 .rintro⟨h|h,v⟩
  .exact .inl ⟨h,v⟩
  .exact .inr h
 .rintro(⟨h,v⟩|rfl)
  .exact⟨.inl h,v⟩
  .exact⟨.inr rfl,a⟩
theorem QbA{l:List Fact}{f:Fact}(b:validS f=true){q:Fact->Bool}(a:q f=false):(canonS (l++[f])).filter q=(canonS l).filter q:=by
 refine Qbq Qhc Qe4 ((Jt _).1.1.filter _) ((Jt _).1.1.filter _) λg=>?_;rw[Xe,Xe,Qbl b];constructor
 .rintro⟨h|rfl,v⟩
  .exact⟨h,v⟩
  .rw[a]at v;cases v
 .rintro⟨h,v⟩;exact⟨.inl h,v⟩
theorem QoJ{l:List Fact}{f:Fact}(a:validS f=true){q:Fact->Bool}(b:q f=false):(canonS (l++[f])).any q=(canonS l).any q:=by
 rw[X3,Xv,Xv];constructor
 .rintro⟨g,h,v⟩;rcases(Qbl a g).1 h with h|rfl
  .exact⟨g,h,v⟩
  .rw[b]at v;cases v
 .rintro⟨g,h,v⟩;exact⟨g,(Qbl a g).2 (.inl h),v⟩
theorem Qlz{l:List Fact}{f:Fact}(a:validS f=true){k j:Int}(d:caseN f=some k)(e:j≠k):fileOf (canonS (l++[f])) j=fileOf (canonS l) j:=by
 have b:∀(p:Fact->Bool),(p f=true->caseN f=some j)->p f=false:=λp h=>QaP λq=>by
  have:=h q;rw[d,Option.some.injEq]at this;exact e this.symm
 unfold fileOf;rw[QbA a (b _ λq=>Ja q),QbA a (b _ λq=>Ja q),QbA a (b _ λq=>Ja q),QbA a (b _ λq=>Qds q),QoJ a (b _ λq=>QdJ q)]
theorem QnC{l:List Fact}{f:Fact}(m:validS f=true){k:Int}(n:caseN f=some k):(numsC (canonS (l++[f]))).filter (λj=> !(j==k))=(numsC (canonS l)).filter λj=> !(j==k):=by
 obtain⟨r,p⟩:=QcU (canonS (l++[f]));obtain⟨s,q⟩:=QcU (canonS l);refine Qdp (lt:=λa b:Int=>a<b) (λa b h=>by omega) (r.filter _) (s.filter _) λj=>?_;rw[Xe,Xe,p,q];constructor
 .rintro⟨⟨g,i,d⟩,e⟩;refine⟨?_,e⟩;rcases(Qbl m g).1 i with h|rfl
  .exact⟨g,h,d⟩
  .rw[n,Option.some.injEq]at d;subst d;simp at e
 .rintro⟨⟨g,i,d⟩,e⟩;exact⟨⟨g,(Qbl m g).2 (.inl i),d⟩,e⟩
theorem QlA{l:List Fact}{f:Fact}(b:validS f=true){k:Int}(a:caseN f=some k):(filesS (canonS (l++[f]))).filter (λx=> !(x.number==k))=(filesS (canonS l)).filter λx=> !(x.number==k):=by
 unfold filesS;rw[List.filter_map,List.filter_map];show List.map _ (List.filter (λj=> !(j==k)) _)=List.map _ (List.filter (λj=> !(j==k)) _);rw[QnC b a];refine List.map_congr_left λj d=>?_;have:=(Xe.1 d).2;refine Qlz b a ?_;rintro rfl;simp at this
section
variable {α β:Type}
theorem Qff(f:α->Option β):∀(l:List α) (a:List β),l.foldl (λa x=>a++(f x).toList) a=a++l.filterMap f
 |[],a=>by simp
 |x::l,a=>by
  rw[XH,Qff f l,List.filterMap_cons];cases f x<;>simp
theorem QnY{step:Nat->List β×Int->Option (Ctl (List β×Int) (List β))}(l:List α)(f:α->Option β)(hl:l.length<=1048576)
  (h:∀i x a,At l i x->a.length<=i->Ev (λn=>step n (a,(i:Int))) (.cont (a++(f x).toList,((i+1:Nat):Int))))
  (d:∀a,Ev (λn=>step n (a,(l.length:Int))) (.done a)):Ev (λn=>Go.Sw.iter (step n) n ([],0)) (l.filterMap f):=by
 have e:l.filterMap f=l.foldl (λa x=>a++(f x).toList) []:=by rw[Qff];rfl
 rw[e];refine Yt l (λa x=>a++(f x).toList) [] (λa i=>(a,(i:Int))) (λa=>a) (by omega) rfl (λi x a b g=>h i x a b ?_) (d _);rw[g,Qff,Vl];exact XZ (List.length_filterMap_le ..) (by rw[XA];omega)
theorem Qca(l:List α):decide (0<(l.length:Int))= !l.isEmpty:=by
 cases l with
 |nil=>rfl
 |cons a l=>exact Ys (by simp only[X5];omega)
theorem QmP(l:List α):((l.length:Int)==0)=l.isEmpty:=by
 cases l with
 |nil=>rfl
 |cons a l=>
  show _=false;simp only[X5,VD,ne_eq];omega
end
theorem Qnu(c:Course)(a:Course.wf c):∃b,Ev (λn=>F_aa n c) b/\(b=true->FewOk c/\Ev (λn=>F_r n c) (courseE c)):=by
 have w:=Qi7 a;have q:=QjZ a;obtain⟨d,e⟩:=Qoc a;obtain⟨b,g,fb⟩:=Qht c w q d e;exact⟨b,g,λf=>⟨fb f,Qlo c w q (fb f) d e⟩⟩
abbrev KeyT:=Int×Option Ruling×List Report
def keysOf(l:List Fact):List KeyT:=(filesS (canonS l)).map keyF
structure KeysOk (K:List KeyT):Prop where
 inc:(K.map (·.1)).Pairwise (· < ·)
 rul:∀x∈K,∀g,x.2.1=some g->g.Case=x.1
 rep:∀x∈K,∀r,x.2.2.head? =some r->r.Case=x.1
theorem Qhe(l:List Fact):KeysOk (keysOf l):=by
 have a:∀x∈keysOf l,∃k,x=keyF (fileOf (canonS l) k):=λx a=>by
  unfold keysOf filesS at a;rw[List.map_map]at a;obtain⟨k,_,rfl⟩:=Xf.1 a;exact⟨k,rfl⟩
 refine⟨?_,λx h g i=>?_,λx h r b=>?_⟩
 .unfold keysOf filesS;rw[List.map_map,List.map_map];have:(((λx:KeyT=>x.1) ∘ keyF) ∘ fileOf (canonS l))=λk=>k:=rfl;rw[this,List.map_id'];exact(QcU _).1
 .obtain⟨k,rfl⟩:=a x h;exact Qjy i
 .obtain⟨k,rfl⟩:=a x h;have d:=List.mem_of_head? b;obtain⟨f,e,rfl⟩:=Xf.1 (show r∈((canonS l).filter (repB k)).map (·.Report)from d);have:=(Xe.1 e).2;unfold repB at this;rw[X0,VC,VC]at this;exact this.2
theorem Qbf(l:List Fact):(keysOf l).length<=l.length:=by
 unfold keysOf;rw[X6];exact XZ (QjA _) (QfG l)
theorem QjI(l:List Fact)(hl:l.length<=100):Ev (λn=>F_cj n l) ((keysOf l).filterMap λx=>x.2.2.head?):=by
 unfold F_cj;refine Ea (Qcc l hl) ?_;have e:(keysOf l).filterMap (λx=>x.2.2.head?)=(filesS (canonS l)).filterMap λx=>x.reports.head? :=by
  unfold keysOf;rw[List.filterMap_map];rfl
 have j:(filesS (canonS l)).length<=100:=by have:=Qbf l;unfold keysOf at this;rw[X6]at this;omega
 rw[e];generalize filesS (canonS l)=fs at j;refine Ea (QnY fs (λx=>x.reports.head?) (by omega) (λi x a b f=>?_) λa=>?_) (Qa _)
 .unfold F_hv;simp only[b.lt,Vt,b.ix,XN,b.nx,Qca];have:=b.lt';cases h:x.reports with
  |nil=>exact(Qa _).eq (by simp)
  |cons r g=>
   have d:idx (r::g) 0=some r:=rfl;simp only[List.isEmpty_cons,Xi,Vt,d,XN];rw[Qby _ _ (by simp;omega)];exact Qa _
 .unfold F_hv;simp only[Qbi,Vu];exact Qa _
theorem QiD(x:Ue):Ev (λn=>F_z n x) (match forceF x with|some g=>(g,true)|none=>(Ux,false)):=by
 have a:idx ([x.r0,x.r1,x.r2]:List (List Fact)) 1=some x.r1:=rfl;have d:idx ([x.r0,x.r1,x.r2]:List (List Fact)) 2=some x.r2:=rfl;unfold F_z;refine Ea (v:=suspF x) ?_ ?_
 .unfold F_ec;simp only[a,d,XN,Qca,QmP];refine Ea (v:=suspF x) ?_ (Qa _);unfold suspF;cases x.appeal<;>cases x.r1.isEmpty<;>exact Qa _
 unfold forceF;cases m:suspF x with
 |true=>exact Qa _
 |false=>
  simp only[Vu];have e:decide ((0:Int)<2)=true:=rfl;have j:decide ((0:Int)<1)=true:=rfl;have k:decide ((0:Int)<0)=false:=rfl;have w1:IntKind.i64.wrap (2-1)=1:=rfl;have l:IntKind.i64.wrap (1-1)=0:=rfl;refine Ea (v:=match(x.r2++x.r1).head? with|some f=>Ctl.done (f.Ruling,true)|none=>Ctl.cont ()) (EvI.ev ?_) ?_
  .cases i:x.r2 with
   |cons f r=>
    refine Ej ?_;have b:idx (f::r) 0=some f:=rfl;unfold F_bd;simp only[e,Vt,d,XN,Qca,i,List.isEmpty_cons,Xi,b];exact Qa _
   |nil=>
    refine Ew (s':=1) ?_ ?_
    .unfold F_bd;simp only[e,Vt,d,XN,Qca,i,List.isEmpty_nil,Xh,Vu,w1];exact Qa _
    rw[Vl];cases h:x.r1 with
    |cons f r=>
     refine Ej ?_;have b:idx (f::r) 0=some f:=rfl;unfold F_bd;simp only[j,Vt,a,XN,Qca,h,List.isEmpty_cons,Xi,b];exact Qa _
    |nil=>
     refine Ew (s':=0) ?_ (Ej ?_)
     .unfold F_bd;simp only[j,Vt,a,XN,Qca,h,List.isEmpty_nil,Xh,Vu,l];exact Qa _
     .unfold F_bd;simp only[k,Vu];exact Qa _
  .cases(x.r2++x.r1).head? <;>exact Qa _
theorem Qp3(l:List Fact)(hl:l.length<=100):Ev (λn=>F_ce n l) ((keysOf l).filterMap λx=>x.2.1):=by
 unfold F_ce;refine Ea (Qcc l hl) ?_;have e:(keysOf l).filterMap (λx=>x.2.1)=(filesS (canonS l)).filterMap forceF:=by
  unfold keysOf;rw[List.filterMap_map];rfl
 have f:(filesS (canonS l)).length<=100:=by have:=Qbf l;unfold keysOf at this;rw[X6]at this;omega
 rw[e];generalize filesS (canonS l)=fs at f;refine Ea (QnY fs forceF (by omega) (λi x a b d=>?_) λa=>?_) (Qa _)
 .unfold F_hx;simp only[b.lt,Vt,b.ix,XN,b.nx];have:=b.lt';refine Ea (QiD x) ?_;cases h:forceF x with
  |none=>exact(Qa _).eq (by simp)
  |some g=>
   simp only[Vt];rw[Qby _ _ (by simp;omega)];exact Qa _
 .unfold F_hx;simp only[Qbi,Vu];exact Qa _
section
variable {S T B:Type} {step:Nat->S->Option (List T×Ctl S B)} {s s':S} {b:B} {xs ys:List T}
def EvL(step:Nat->S->Option (List T×Ctl S B))(s:S)(ys:List T)(b:B):Prop:=∃N,∀n k,N<=n->N<=k->QbV (step n) k s=some (ys,b)
theorem EvL.done(h:Ev (λn=>step n s) (ys,.done b)):EvL step s ys b:=by
 obtain⟨N,h⟩:=h;refine⟨N+1,λn k f d=>?_⟩;obtain⟨a,rfl⟩:∃a,k=a+1:=⟨k-1,by omega⟩;have e:step n s=some (ys,.done b):=h n (by omega);unfold QbV;rw[e];rfl
theorem EvL.cont(h:Ev (λn=>step n s) (xs,.cont s'))(q:EvL step s' ys b):EvL step s (xs++ys) b:=by
 obtain⟨N,h⟩:=h;obtain⟨M,q⟩:=q;refine⟨max N M+1,λn k f d=>?_⟩;obtain⟨a,rfl⟩:∃a,k=a+1:=⟨k-1,by omega⟩;have e:step n s=some (xs,.cont s'):=h n (by omega);unfold QbV;rw[e];show(QbV (step n) a s').bind _=_;rw[q n a (by omega) (by omega)];rfl
theorem EvL.ev(h:EvL step s ys b):Ev (λn=>QbV (step n) n s) (ys,b):=by
 obtain⟨N,h⟩:=h;exact⟨N,λn a=>h n n a a⟩
end
def viaR(c:Course)(k:Int):Option Report->Option Ud
 |none=>none
 |some r=>bif decide (r.Offence<0)||decide ((c.Offences.length:Int)<=r.Offence)then none else
  (idx c.Offences r.Offence).map λo=>{number:=k,bib:=r.Bib,penalty:={Position:=r.Position,Time:=o.Time,Laps:=o.Laps,Out:=o.Out}}
def rulP(k:Int)(g:Ruling):Option Ud:=
 bif g.Kind==5 then some {number:=k,bib:=g.Bib,penalty:={Position:=g.Position,Time:=0,Laps:=0,Out:=true}}else
 bif g.Kind==4 then some {number:=k,bib:=g.Bib,penalty:={Position:=g.Position,Time:=0,Laps:=g.Amount,Out:=false}}else
 bif g.Kind==3 then some {number:=k,bib:=g.Bib,penalty:={Position:=g.Position,Time:=g.Amount,Laps:=0,Out:=false}}else none
def givenK(c:Course)(x:KeyT):Option Ud:=
 match x.2.1 with
 |some g=>bif (g.Kind==5)||((g.Kind==4)||(g.Kind==3))then rulP x.1 g else bif g.Kind==2 then none else viaR c x.1 x.2.2.head?
 |none=>viaR c x.1 x.2.2.head?
def lookK(K:List KeyT)(k:Int):Option KeyT:=K.find? λx=>x.1==k
theorem Qe5(x:KeyT)(K:List KeyT)(k:Int):lookK (x::K) k=if x.1=k then some x else lookK K k:=by
 unfold lookK;rw[List.find?_cons];by_cases h:x.1=k
 .rw[Vx h,h,beq_self_eq_true]
 .rw[Vw h,show(x.1==k)=false from VD.2 h]
theorem QcB{K:List KeyT}{k:Int}(h:k∉K.map (·.1)):lookK K k=none:=by
 refine List.find?_eq_none.2 λx a q=>h ?_;rw[VC]at q;exact Xf.2 ⟨x,a,q⟩
theorem QcX:∀{K:List KeyT},(K.map (·.1)).Nodup->∀{x:KeyT},x∈K->lookK K x.1=some x
 |[],_,x,h=>by cases h
 |y::K,hn,x,h=>by
  rw[Vn,List.nodup_cons]at hn;rw[Qe5];rcases Va.1 h with rfl|h
  .rw[Vx rfl]
  .rw[Vw λq=>hn.1 (by rw[q];exact Xf.2 ⟨x,h,rfl⟩)];exact QcX hn.2 h
theorem Qc0{β:Type}(key:β->Int)(f:KeyT->Option β):∀(K:List KeyT) (m:List (Int×β)),(K.map (·.1)).Nodup->(∀x∈K,∀y,f x=some y->key y=x.1)->∀k,
  YB ((K.filterMap f).foldl (λm y=>QH m (key y) y) m) k=match(lookK K k).bind f with|some v=>some v|none=>YB m k
 |[],m,_,_,k=>rfl
 |x::K,m,hn,hk,k=>by
  rw[Vn,List.nodup_cons]at hn;have hk':∀x∈K,∀y,f x=some y->key y=x.1:=λz hz=>hk z (by simp[hz]);rw[List.filterMap_cons,Qe5];cases hf:f x with
  |none=>
   simp only;rw[Qc0 key f K m hn.2 hk' k];by_cases e:x.1=k
   .rw[Vx e,QcB (by rw[<- e];exact hn.1)];simp[hf]
   .rw[Vw e]
  |some y=>
   simp only[XH];rw[Qc0 key f K _ hn.2 hk' k];have hy:=hk x (by simp) y hf;by_cases e:x.1=k
   .rw[Vx e,QcB (by rw[<- e];exact hn.1)];simp only[Option.bind_none,XN,hf];rw[YZ,Vx (by rw[hy,e])]
   .rw[Vw e];cases(lookK K k).bind f with
    |some v=>rfl
    |none=>
     simp only;rw[YZ,Vw (by rw[hy];exact λq=>e q.symm)]
theorem QdF{β:Type}(a:β->Int):∀(L:List β) (m:List (Int×Bool)),(m.map Prod.fst).Nodup->(((L.foldl (λm y=>QH m (a y) true) m).map Prod.fst).Nodup/\(L.foldl (λm y=>QH m (a y) true) m).length<=m.length+L.length/\ ∀k,k∈(L.foldl (λm y=>QH m (a y) true) m).map Prod.fst↔k∈m.map Prod.fst\/k∈L.map a)
 |[],m,h=>⟨h,by simp,λk=>by simp⟩
 |y::L,m,h=>by
  rw[XH];obtain⟨i1,i2,i3⟩:=QdF a L (QH m (a y) true) (Qjr _ _ h);refine⟨i1,?_,λk=>?_⟩
  .have:=QmL m (a y) true;simp only[X5];omega
  .rw[i3,Vn,Va];have:k∈(QH m (a y) true).map Prod.fst↔k=a y\/k∈m.map Prod.fst:=by
    rw[Qh9,Qh9];constructor
    .rintro⟨v,b⟩;rw[YZ]at b;by_cases z:k=a y
     .exact .inl z
     .rw[Vw z]at b;exact .inr ⟨v,b⟩
    .rintro(z|⟨v,b⟩)
     .exact⟨true,by rw[YZ,Vx z]⟩
     .by_cases z:k=a y
      .exact⟨true,by rw[YZ,Vx z]⟩
      .exact⟨v,by rw[YZ,Vw z];exact b⟩
   rw[this];constructor
   .rintro((h|h)|h)
    .exact .inr (.inl h)
    .exact .inl h
    .exact .inr (.inr h)
   .rintro(h|h|h)
    .exact .inl (.inr h)
    .exact .inl (.inl h)
    .exact .inr h
def effM:List (Int×Uc):=QH (QH (QH [] 3 ⟨143⟩) 4 ⟨144⟩) 5 ⟨145⟩
theorem Qnl(k:Int):YB effM k=if k=5 then some ⟨145⟩else if k=4 then some ⟨144⟩else if k=3 then some ⟨143⟩else none:=by
 unfold effM;rw[YZ,YZ,YZ];rfl
theorem Qla{β:Type}(m:List (Int×β))(k:Int)(z:β):QV m k z=(YB m k).getD z:=rfl
section
variable {c:Course} {K:List KeyT} {m1:List (Int×Report)×List (Int×Bool)} {m2:List (Int×Ruling)×List (Int×Bool)} {S:List Int}
theorem Qnb(s:∀k,YB m1.1 k=(lookK K k).bind λx=>x.2.2.head?)(u:∀k,YB m2.1 k=(lookK K k).bind λx=>x.2.1){i:Nat}{x:KeyT}(q:At S i x.1)(B:lookK K x.1=some x):
  Ev (λn=>F_er n c m1 m2 effM S (i:Int)) ((givenK c x).toList,.cont ((i+1:Nat):Int)):=by
 unfold F_er;simp only[q.lt,Vt,q.ix,XN,q.nx,Qla,Qh8,s,u,B,Qnl];have h:∀(r:Option Report),Ev (λn=>((bif (!r.isSome)then some true else(bif decide ((r.getD Uw).Offence<0)then some true else some (decide ((c.Offences.length:Int)<=(r.getD Uw).Offence)))):Option Bool).bind λj=>(bif j then some ([],.cont ((i+1:Nat):Int))else(idx c.Offences (r.getD Uw).Offence).bind λd=>yl ({number:=x.1,bib:=(r.getD Uw).Bib,penalty:={Position:=(r.getD Uw).Position,Time:=d.Time,Laps:=d.Laps,Out:=d.Out:Penalty}:Ud}) (some ([],.cont ((i+1:Nat):Int)))))
   (((viaR c x.1 r).toList,.cont ((i+1:Nat):Int)):(List Ud)×Ctl Int Unit):=by
  intro r;cases r with
  |none=>exact Qa _
  |some r=>
   simp only[Option.isSome_some,Xh,Vu,Option.getD_some,viaR];cases E:decide (r.Offence<0)with
   |true=>exact Qa _
   |false=>
    cases t:decide ((c.Offences.length:Int)<=r.Offence)with
    |true=>exact Qa _
    |false=>
     simp only[Vu,XN,Bool.or_self];have a:=VA E;have b:=VA t;have:idx c.Offences r.Offence=some (c.Offences[r.Offence.toNat]'(by omega)):=by
      unfold idx;rw[Ys (by omega),Vt,XO]
     rw[this];exact Qa _
 cases f:x.2.1 with
 |none=>
  have e:givenK c x=viaR c x.1 x.2.2.head? :=by unfold givenK;rw[f]
  rw[e];have y:¬Ux.Kind=5:=by decide
  have w:¬Ux.Kind=4:=by decide
  have z:¬Ux.Kind=3:=by decide
  simp only[f,Option.getD_none,Option.isSome_none,Vw y,Vw w,Vw z,Qe3,XN,Vu];exact h _
 |some g=>
  simp only[XN,Option.isSome_some,Vt,f,Option.getD_some];by_cases m:g.Kind=5
  .have e:givenK c x=some {number:=x.1,bib:=g.Bib,penalty:={Position:=g.Position,Time:=0,Laps:=0,Out:=true}}:=by unfold givenK rulP;rw[f];simp[m]
   rw[e];simp only[m,if_true,Qe3,XN,Vt];exact Qa _
  by_cases p:g.Kind=4
  .have e:givenK c x=some {number:=x.1,bib:=g.Bib,penalty:={Position:=g.Position,Time:=0,Laps:=g.Amount,Out:=false}}:=by unfold givenK rulP;rw[f];simp[p]
   rw[e];simp only[p,if_true,Qe3,XN,Vt];exact Qa _
  by_cases l:g.Kind=3
  .have e:givenK c x=some {number:=x.1,bib:=g.Bib,penalty:={Position:=g.Position,Time:=g.Amount,Laps:=0,Out:=false}}:=by unfold givenK rulP;rw[f];simp[l]
   rw[e];simp only[l,if_true,Qe3,XN,Vt];exact Qa _
  simp only[Vw m,Vw p,Vw l,Qe3,XN];have e:givenK c x=bif g.Kind==2 then none else viaR c x.1 x.2.2.head? :=by
   unfold givenK;rw[f];simp only[VD.2 m,VD.2 p,VD.2 l,Bool.or_self,Vu]
  rw[e];cases(g.Kind==2)with
  |true=>exact Qa _
  |false=>
   simp only[Vu];exact h _
theorem QkI(a:∀k,YB m1.1 k=(lookK K k).bind λx=>x.2.2.head?)(b:∀k,YB m2.1 k=(lookK K k).bind λx=>x.2.1)(f:S.length<=1000):∀(r:List KeyT) (i:Nat),S.drop i=r.map (·.1)->i<=S.length->(∀x∈r,lookK K x.1=some x)->
  EvL (λn=>F_er n c m1 m2 effM S) (i:Int) (r.filterMap (givenK c)) ()
 |[],i,hd,hi,_=>by
  refine EvL.done ?_;unfold F_er;simp only[YM hd hi,Vu];exact Qa _
 |x::r,i,hd,hi,hx=>by
  rw[Vn]at hd;obtain⟨ha,hd'⟩:=Q2 (by omega) hd;have hlt:=ha.lt';have e:(x::r).filterMap (givenK c)=(givenK c x).toList++r.filterMap (givenK c):=by
   rw[List.filterMap_cons];cases givenK c x<;>rfl
  rw[e];exact EvL.cont (Qnb a b ha (hx x (by simp))) (QkI a b f r (i+1) hd' (by omega) λy d=>hx y (by simp[d]))
end
theorem QdG{l:List Int}(h:l.Pairwise (· < ·)):l.Nodup:=h.imp λh=>by omega
theorem Qle{l:List Int}(h:l.Nodup):(YF ltI l).Pairwise (· < ·):=by
 have nd:(YF ltI l).Nodup:=(Qn _ _).nodup_iff.2 h;refine(List.Pairwise.and (QS (QcW l)) nd).imp λ{a b} q=>?_;have:=q.1;simp[ltI]at this;have:=q.2;omega
theorem Qp2(c:Course)(l:List Fact)(hl:l.length<=100):Ev (λn=>F_cv n l c) ((keysOf l).filterMap (givenK c),()):=by
 have ok:=Qhe l;have nd:=QdG ok.inc;have T:=Qbf l;unfold F_cv;refine Ea (QjI l hl) ?_;have N:((keysOf l).filterMap λx=>x.2.2.head?).length<=100:=XZ (List.length_filterMap_le ..) (by omega);have L:((keysOf l).filterMap λx=>x.2.1).length<=100:=XZ (List.length_filterMap_le ..) (by omega);have P:=Qc0 (λr:Report=>r.Case) (λx:KeyT=>x.2.2.head?) (keysOf l) [] nd ok.rep;have M:=Qc0 (λg:Ruling=>g.Case) (λx:KeyT=>x.2.1) (keysOf l) [] nd ok.rul;obtain⟨F,u,G⟩:=QdF (λr:Report=>r.Case) ((keysOf l).filterMap λx=>x.2.2.head?) [] (by simp);refine Ea (v:=(((keysOf l).filterMap λx=>x.2.2.head?).foldl (λm y=>QH m y.Case y) [],((keysOf l).filterMap λx=>x.2.2.head?).foldl (λm y=>QH m y.Case true) [])) ?_ ?_
 .generalize((keysOf l).filterMap λx=>x.2.2.head?)=R at N;have e:∀(R:List Report) (a:List (Int×Report)) (b:List (Int×Bool)),R.foldl (λ(m:List (Int×Report)×List (Int×Bool)) y=>(QH m.1 y.Case y,QH m.2 y.Case true)) (a,b)=(R.foldl (λm y=>QH m y.Case y) a,R.foldl (λm y=>QH m y.Case true) b):=by
   intro R
   induction R with
   |nil=>intro a b;rfl
   |cons y R ih=>intro a b;rw[XH,ih];rfl
  rw[<- e];refine Yt R (λ(m:List (Int×Report)×List (Int×Bool)) y=>(QH m.1 y.Case y,QH m.2 y.Case true)) ([],[]) (λm i=>(m.1,m.2,(i:Int))) (λm=>m) (by omega) rfl (λi x m ha _=>?_) ?_
  .unfold F_hn;simp only[ha.lt,Vt,ha.ix,XN,ha.nx];exact Qa _
  .unfold F_hn;simp only[Qbi,Vu];exact Qa _
 refine Ea (Qp3 l hl) ?_;simp only;generalize hb:((keysOf l).filterMap λx=>x.2.2.head?).foldl (λm y=>QH m y.Case true) []=b0 at F u G;obtain⟨z,H,w⟩:=QdF (λg:Ruling=>g.Case) ((keysOf l).filterMap λx=>x.2.1) b0 F;refine Ea (v:=(((keysOf l).filterMap λx=>x.2.1).foldl (λm y=>QH m y.Case y) [],((keysOf l).filterMap λx=>x.2.1).foldl (λm y=>QH m y.Case true) b0)) ?_ ?_
 .generalize((keysOf l).filterMap λx=>x.2.1)=R at L;have e:∀(R:List Ruling) (a:List (Int×Ruling)) (b:List (Int×Bool)),R.foldl (λ(m:List (Int×Ruling)×List (Int×Bool)) y=>(QH m.1 y.Case y,QH m.2 y.Case true)) (a,b)=(R.foldl (λm y=>QH m y.Case y) a,R.foldl (λm y=>QH m y.Case true) b):=by
   intro R
   induction R with
   |nil=>intro a b;rfl
   |cons y R ih=>intro a b;rw[XH,ih];rfl
  rw[<- e];refine Yt R (λ(m:List (Int×Ruling)×List (Int×Bool)) y=>(QH m.1 y.Case y,QH m.2 y.Case true)) ([],b0) (λm i=>(m.1,m.2,(i:Int))) (λm=>m) (by omega) rfl (λi x m ha _=>?_) ?_
  .unfold F_hm;simp only[ha.lt,Vt,ha.ix,XN,ha.nx];exact Qa _
  .unfold F_hm;simp only[Qbi,Vu];exact Qa _
 simp only;generalize hc:((keysOf l).filterMap λx=>x.2.1).foldl (λm y=>QH m y.Case true) b0=b1 at z H w;refine Ea (v:=effM) (Qa _) ?_;unfold F_dn;simp only[XN];have Q:b1.length<=200:=by simp only[List.length_nil]at u;omega
 refine Ea (v:=YF ltI (b1.map Prod.fst)) ⟨0,λn _=>?_⟩ ?_
 .unfold F_dp QnB;have B:(List.map Prod.fst b1).length<=1048576:=by rw[X6];omega
  rw[Qeu B,Vt];refine QkN λp t=>?_;unfold sortI;rw[Qeu (by rw[t.length_eq];exact B)];show some (YF ltI p)=_;rw[Qld t]
 have e:YF ltI (b1.map Prod.fst)=((keysOf l).filter λx=>x.2.1.isSome||x.2.2.head?.isSome).map (·.1):=by
  refine Qdp (lt:=λa b:Int=>a<b) (λa b h=>by omega) (Qle z) ?_ λk=>?_
  .exact ok.inc.sublist ((List.filter_sublist).map _)
  .rw[(Qn _ _).mem_iff,w,G];simp only[Vp,List.not_mem_nil,false_or,Xf,List.mem_filterMap,Xe,Bool.or_eq_true];constructor
   .rintro(⟨r,⟨x,d,s⟩,rfl⟩|⟨g,⟨x,d,j⟩,rfl⟩)
    .exact⟨x,⟨d,.inr (by rw[s];rfl)⟩,(ok.rep x d r s).symm⟩
    .exact⟨x,⟨d,.inl (by rw[j];rfl)⟩,(ok.rul x d g j).symm⟩
   .rintro⟨x,⟨d,h|h⟩,rfl⟩
    .obtain⟨g,j⟩:=Option.isSome_iff_exists.1 h;exact .inr ⟨g,⟨x,d,j⟩,ok.rul x d g j⟩
    .obtain⟨r,s⟩:=Option.isSome_iff_exists.1 h;exact .inl ⟨r,⟨x,d,s⟩,ok.rep x d r s⟩
 have O:(YF ltI (b1.map Prod.fst)).length<=1000:=by rw[(Qn _ _).length_eq,X6];omega
 have E:=QkI (c:=c) (K:=keysOf l) (m1:=(((keysOf l).filterMap λx=>x.2.2.head?).foldl (λm y=>QH m y.Case y) [],b0)) (m2:=(((keysOf l).filterMap λx=>x.2.1).foldl (λm y=>QH m y.Case y) [],b1)) (S:=YF ltI (b1.map Prod.fst))
  (λk=>by rw[P k];cases(lookK (keysOf l) k).bind λx=>x.2.2.head? <;>rfl) (λk=>by rw[M k];cases(lookK (keysOf l) k).bind λx=>x.2.1<;>rfl) O
  ((keysOf l).filter λx=>x.2.1.isSome||x.2.2.head?.isSome) 0 (by rw[List.drop_zero];exact e) (XY _) (λx d=>QcX nd (Xe.1 d).1)
 have J:((keysOf l).filter λx=>x.2.1.isSome||x.2.2.head?.isSome).filterMap (givenK c)=(keysOf l).filterMap (givenK c):=by
  rw[List.filterMap_filter];refine congrArg (λf=>(keysOf l).filterMap f) (funext λx=>?_);by_cases q:(x.2.1.isSome||x.2.2.head?.isSome)=true
  .rw[Vx q]
  .rw[Vw q];rw[Bool.not_eq_true,X2,Option.isSome_eq_false_iff,Option.isSome_eq_false_iff,Option.isNone_iff_eq_none,Option.isNone_iff_eq_none]at q;unfold givenK;rw[q.1,q.2];rfl
 rw[J]at E;unfold ap;refine Ea E.ev ((Qa _).eq ?_);simp
def casesOf(c:Course)(l:List Fact)(b:Int):List Ud:=((keysOf l).filterMap (givenK c)).filter λx=>x.bib==b
def casesF(e:Int)(c:Course)(l:List Fact)(b:Int):List Int×List Penalty:=bif e != 0 then([],[])else((casesOf c l b).map (·.number),(casesOf c l b).map (·.penalty))
theorem QdH(b:Int)(n:Nat):∀(a:List Ud) (s:List Int×List Penalty),s.1.length+a.length<=1000->s.2.length+a.length<=1000->Qg2 (F_gf n b) a s=some (.cont (s.1++(a.filter λx=>x.bib==b).map (·.number),s.2++(a.filter λx=>x.bib==b).map (·.penalty)))
 |[],s,_,_=>by simp[Qg2]
 |y::a,s,h1,h2=>by
  simp only[X5]at h1 h2;unfold Qg2;have e:F_gf n b s y=some (.cont (bif y.bib==b then(s.1++[y.number],s.2++[y.penalty])else s)):=by
   unfold F_gf;cases(y.bib==b)with
   |false=>rfl
   |true=>
    simp only[Vt];rw[Qby _ _ (by simp;omega)];simp only[XN];rw[Qby _ _ (by simp;omega)];rfl
  rw[e];show Qg2 _ a _=_;rw[Xd];cases(y.bib==b)with
  |false=>exact QdH b n a s (by omega) (by omega)
  |true=>
   simp only[Vt,if_true];rw[QdH b n a _ (by simp;omega) (by simp;omega)];simp
theorem QiK(e:Int)(c:Course)(l:List Fact)(b:Int)(hl:l.length<=100)(he:Ev (λn=>F_r n c) e):Ev (λn=>F_g n c l b) (casesF e c l b):=by
 unfold F_g casesF F_eg;refine Ea he ?_;cases(e != 0)with
 |true=>exact Qa _
 |false=>
  simp only[Vu,XN];refine Ea (Qp2 c l hl) ?_;have a:((keysOf l).filterMap (givenK c)).length<=100:=XZ (List.length_filterMap_le ..) (by have:=Qbf l;omega);unfold casesOf;generalize(keysOf l).filterMap (givenK c)=ys at a;have:=λn=>QdH b n ys ([],[]) (by simp;omega) (by simp;omega);simp only[Vl]at this;simp only[this,XN];exact Qa _
set_option maxRecDepth 100000
theorem Qpm:F_et 300=some true:=by kernel_rfl
theorem Qnd{c:Course}{b:Bool}(l:List Fact)(a:Ev (λn=>F_aa n c) b):Ev (λn=>F_cw n c l) (b&&decide ((l.length:Int)<=14)):=by
 unfold F_cw;refine Ea (v:=b&&decide ((l.length:Int)<=14)) (Ea a (Ei λ_=>Qa _)) (Qa _)
theorem QjO(e:Int)(c:Course)(l:List Fact)(b:Int):(casesF e c l b).1.length<=l.length/\(casesF e c l b).2.length<=l.length:=by
 unfold casesF casesOf;cases(e != 0)with
 |true=>exact⟨XY _,XY _⟩
 |false=>
  simp only[Vu,X6];have a:=VS (λx:Ud=>x.bib==b) ((keysOf l).filterMap (givenK c));have f:=List.length_filterMap_le (givenK c) (keysOf l);have d:=Qbf l;omega
def untS(p:Int)(s:Int×Int×Bool)(x:Penalty):Int×Int×Bool:=bif decide (x.Position<=p)then(IntKind.i64.wrap (s.1+x.Time),IntKind.i64.wrap (s.2.1+x.Laps),s.2.2||x.Out)else s
def untF(x:List Penalty)(p:Int):Int×Int×Bool:=x.foldl (untS p) (0,0,false)
theorem QiI(x:List Penalty)(p:Int)(hl:x.length<=1048576):Ev (λn=>F_x n x p) (untF x p):=by
 unfold F_x;refine Ea (v:=untF x p) (Yt x (untS p) (0,0,false) (λs i=>(s.1,s.2.1,s.2.2,(i:Int))) (λs=>s) (by omega) rfl (λi y s ha _=>?_) ?_) (Qa _)
 .unfold F_hr;simp only[ha.lt,Vt,ha.ix,XN,ha.nx];refine Ea (v:=untS p s y) ?_ (Qa _);unfold untS;cases decide (y.Position<=p)with
  |false=>exact Qa _
  |true=>cases s.2.2<;>exact Qa _
 .unfold F_hr;simp only[Qbi,Vu];exact Qa _
theorem QhR(x:List Penalty)(p:Int):untF x p=untF (x.filter λy=>decide (y.Position<=p)) p:=by
 unfold untF;have:∀(x:List Penalty) (s:Int×Int×Bool),x.foldl (untS p) s=(x.filter λy=>decide (y.Position<=p)).foldl (untS p) s:=by
  intro x
  induction x with
  |nil=>intro s;rfl
  |cons y x a=>
   intro s;rw[XH,Xd,a];cases q:decide (y.Position<=p)with
   |true=>rw[Vx rfl,XH]
   |false=>
    rw[Vw Bool.false_ne_true];unfold untS;rw[q];rfl
 exact this x _
theorem Ql0{α:Type}{step:Nat->Int->Option (Ctl Int (Ctl Unit Int))}(l:List α)(q:α->Bool)(hl:l.length<=1048576)
  (u:∀i x,At l i x->Ev (λn=>step n (i:Int)) (bif q x then .done (.done (i:Int))else .cont ((i+1:Nat):Int)))(z:Ev (λn=>step n (l.length:Int)) (.done (.cont ()))):
  (∃i x,At l i x/\q x=true/\Ev (λn=>Go.Sw.iter (step n) n 0) (.done (i:Int)))\/(∀x∈l,q x=false)/\Ev (λn=>Go.Sw.iter (step n) n 0) (.cont ()):=by
 have p:∀(r:List α) (i:Nat),l.drop i=r->i<=l.length->(∃j x,At l j x/\q x=true/\EvI step (i:Int) (.done (j:Int)))\/(∀x∈r,q x=false)/\EvI step (i:Int) (.cont ()):=by
  intro r
  induction r with
  |nil=>
   intro i g w;have:i=l.length:=by have:=Xs.1 g;omega
   subst this;exact .inr ⟨(λ_ h=>by cases h),Ej z⟩
  |cons x r t=>
   intro i g w;obtain⟨f,m⟩:=Q2 (by omega) g;have s:=f.lt';have h:=u i x f;cases e:q x with
   |true=>rw[e]at h;exact .inl ⟨i,x,f,e,Ej h⟩
   |false=>
    rw[e]at h;rcases t (i+1) m (by omega)with⟨j,y,a,b,d⟩|⟨a,b⟩
    .exact .inl ⟨j,y,a,b,Ew h d⟩
    .refine .inr ⟨λy k=>?_,Ew h b⟩;rcases Va.1 k with rfl|k
     .exact e
     .exact a y k
 rcases p l 0 (by simp) (XY _)with⟨j,x,a,b,d⟩|⟨a,b⟩
 .exact .inl ⟨j,x,a,b,d.ev⟩
 .exact .inr ⟨a,b.ev⟩
def inForce(l:List Fact)(k:Int):Option Ruling:=(lookK (keysOf l) k).bind λx=>x.2.1
theorem QiJ(l:List Fact)(k:Int)(hl:l.length<=100):Ev (λn=>F_br n l k) (match inForce l k with|some g=>(g,true)|none=>(Ux,false)):=by
 unfold F_br F_dd;have r:(filesS (canonS l)).length<=100:=by have:=Qbf l;unfold keysOf at this;rw[X6]at this;omega
 have nd:=QdG (Qhe l).inc;have fin:∀x,forceF x=inForce l k->Ev (λn=>((F_p n l).bind λr1=>(F_ag n r1 k).bind λr2=>bif decide (0<=r2)then(idx r1 r2).bind λd=>some d else some {number:=k,r0:=[],r1:=[],r2:=[],reports:=[],appeal:=false})) x->
   Ev (λn=>(((F_p n l).bind λr1=>(F_ag n r1 k).bind λr2=>bif decide (0<=r2)then(idx r1 r2).bind λd=>some d else some {number:=k,r0:=[],r1:=[],r2:=[],reports:=[],appeal:=false})).bind λr1=>(F_z n r1).bind λr2=>some (r2.1,r2.2)) (match inForce l k with|some g=>(g,true)|none=>(Ux,false)):=by
  intro x b h;refine Ea h (Ea (QiD x) ?_);rw[b];cases inForce l k<;>exact Qa _
 have p:=Ql0 (step:=λn=>F_gl n (filesS (canonS l)) k) (filesS (canonS l)) (λx=>x.number==k) (by omega) (λi x a=>by
   unfold F_gl;simp only[a.lt,Vt,a.ix,XN,a.nx];unfold F_es;simp only[XN];cases(x.number==k)<;>exact Qa _) (by
   unfold F_gl;simp only[Qbi,Vu];exact Qa _)
 rcases p with⟨i,x,a,b,h⟩|⟨b,h⟩
 .rw[VC]at b;refine fin x ?_ (Ea (Qcc l hl) ?_)
  .unfold inForce;have j:keyF x∈keysOf l:=Xf.2 ⟨x,a.mem,rfl⟩;have:=QcX nd j;rw[show(keyF x).1=k from b]at this;rw[this];rfl
  .unfold F_ag;refine Ea (Ea h (Qa _)) ?_;rw[Ys (by omega:(0:Int)<=(i:Int)),Vt,a.ix];exact Qa _
 .refine fin {number:=k,r0:=[],r1:=[],r2:=[],reports:=[],appeal:=false} ?_ (Ea (Qcc l hl) ?_)
  .unfold inForce;rw[QcB]
   .rfl
   .intro q;obtain⟨y,m,e⟩:=Xf.1 q;obtain⟨z,f,rfl⟩:=Xf.1 m;have:=b z f;rw[VD]at this;exact this e
  .unfold F_ag;refine Ea (Ea h (Qa _)) ?_;exact Qa _
end Go.Sw
