/- The plain laws that a law needs, with no program in sight. -/
import Derived.Test.YtckiejaapddafaaGreatDoorW22St
set_option linter.unusedVariables false
set_option linter.unusedSimpArgs false
namespace Go.Sw
def inR(lo hi x:Int):Bool:=decide (lo<=x)&&decide (x<=hi)
theorem QgF(lo hi:Int)(l:List Int)(hl:l.length<=4611686018427387904):Ev (λn=>F_a n lo hi l) (l.all (inR lo hi)):=by
 have h:Ev (λn=>F_bl n l lo hi) (l.any λx=> !inR lo hi x):=by
  unfold F_bl F_ew;refine Ev.contains l _ (λn x=>F_al n x lo hi) hl λx _=>?_;unfold F_al;refine Ea (v:= !inR lo hi x) ?_ (Qa _);refine(Eu λh=>Qa _).eq ?_;unfold inR;rw[X3];simp
 unfold F_a;refine Ea h ((Qa _).eq ?_);rw[List.not_any_eq_all_not];simp
def okN(c:Nat):Bool:=(decide (97<=c)&&decide (c<=122))||(decide (48<=c)&&decide (c<=57))||decide (c=95)
def okAN(c:Nat):Bool:=decide (97<=c)&&decide (c<=122)
def okC(c:UInt8):Bool:=okN c.toNat
def okA(c:UInt8):Bool:=okAN c.toNat
def kwL:List (List UInt8):=[[99,111,117,114,115,101],[109,97,116,115],[115,116,97,114,116],[112,97,115,115],[101,110,100],[108,101,103],[116,111],[100,105,115,116,97,110,99,101],[103,117,110],[99,104,105,112],[115,108,111,116],[108,97,112,115],[108,97,112],[99,117,116,111,102,102],[101,120,116,114,97],[119,97,118,101],[111,102,102,101,110,99,101],[111,117,116],[99,97,116,101,103,111,114,121],[112,114,105,122,101],[97,108,108],[116,105,101,115],[105,102],[101,108,115,101],[97,110,100],[111,114],[110,111,116],[111,108,100,101,114],[121,111,117,110,103,101,114],[98,105,98],[100,114,97,119],[102,105,101,108,100],[115,104,111,114,116],[102,97,117,108,116,115],[109,105,115,115,101,115],[115,116,114,97,121,115],[119,105,110,100,111,119],[114,101,115,105,100,117,97,108],[100,114,105,102,116],[112,114,111,116,101,115,116],[102,101,101],[100,101,97,100,108,105,110,101]]
theorem QnX(c d:Bool):(bif c then some c else some d)=some (c||d):=by cases c<;>rfl
def kwsOf:List UInt8->List (List UInt8)
 |[]=>[]
 |b::l=>(bif b==32&& !(l.dropWhile λc=>c != 32).isEmpty then[l.takeWhile λc=>c != 32]else[])++kwsOf l
theorem Qd6:∀(l s:List UInt8),(∀c∈s,c≠32)->(s++[32]).isPrefixOf l=((l.takeWhile λc=>c != 32)==s&& !(l.dropWhile λc=>c != 32).isEmpty)
 |[],s,h=>by cases s<;>simp
 |b::l,[],h=>by
  by_cases e:b=32
  .subst e;simp[List.isPrefixOf]
  .have e1:(b != 32)=true:=by simpa using e
   have f:(32==b)=false:=by simpa using λq=>e q.symm
   simp[List.isPrefixOf,List.takeWhile_cons,e1,f]
 |b::l,c::s,h=>by
  have j:=h c (by simp);have i:=Qd6 l s λd g=>h d (by simp[g]);by_cases e:b=32
  .subst e;have:(c==32)=false:=by simpa using j
   simp[List.isPrefixOf,this]
  .have e1:(b != 32)=true:=by simpa using e
   simp only[VO,List.isPrefixOf,List.takeWhile_cons,List.dropWhile_cons,e1,if_true,i,List.cons_beq_cons];by_cases q:c=b
   .subst q;simp
   .have a:(c==b)=false:=by simpa using q
    have k:(b==c)=false:=by simpa using λz=>q z.symm
    simp[a,k]
theorem contains_cons(b:UInt8)(l t:List UInt8)(d:t≠[]):Lib.contains (b::l) t=(t.isPrefixOf (b::l)||Lib.contains l t):=by
 unfold Lib.contains;rw[show Lib.index (b::l) t=if t.isPrefixOf (b::l)then 0 else if Lib.index l t== -1 then-1 else Lib.index l t+1 from rfl];cases h:t.isPrefixOf (b::l)with
 |true=>simp
 |false=>
  have:=Lib.index_ge l t;by_cases q:Lib.index l t= -1
  .simp[q]
  .have a:(Lib.index l t== -1)=false:=by simpa using q
   simp only[a,Bool.false_or];rw[X3];simp;omega
theorem Qb4(s:List UInt8)(h:∀c∈s,c≠32):∀l,Lib.contains l (32::(s++[32]))=(kwsOf l).contains s
 |[]=>by simp[Lib.contains,Lib.index,kwsOf]
 |b::l=>by
  rw[contains_cons b l _ (by simp),Qb4 s h l];simp only[kwsOf,List.isPrefixOf,Qd6 l s h];by_cases e:b=32
  .subst e;cases q: !(l.dropWhile λc=>c != 32).isEmpty with
   |true=>
    simp only[q,beq_self_eq_true,VE,Bool.and_true,Vt,VO,Vl,List.contains_cons];congr 1;rw[X3];simp only[VC];exact⟨λh=>h.symm,λh=>h.symm⟩
   |false=>simp[q]
  .have e1:(b==32)=false:=by simpa using e
   have a:(32==b)=false:=by simpa using λq=>e q.symm
   simp[e1,a]
def wordsL:List UInt8:=[32,99,111,117,114,115,101,32,109,97,116,115,32,115,116,97,114,116,32,112,97,115,115,32,101,110,100,32,108,101,103,32,116,111,32,100,105,115,116,97,110,99,101,32,103,117,110,32,99,104,105,112,32,115,108,111,116,32,108,97,112,115,32,108,97,112,32,99,117,116,111,102,102,32,101,120,116,114,97,32,119,97,118,101,32,111,102,102,101,110,99,101,32,111,117,116,32,99,97,116,101,103,111,114,121,32,112,114,105,122,101,32,97,108,108,32,116,105,101,115,32,105,102,32,101,108,115,101,32,97,110,100,32,111,114,32,110,111,116,32,111,108,100,101,114,32,121,111,117,110,103,101,114,32,98,105,98,32,100,114,97,119,32,102,105,101,108,100,32,115,104,111,114,116,32,102,97,117,108,116,115,32,109,105,115,115,101,115,32,115,116,114,97,121,115,32,119,105,110,100,111,119,32,114,101,115,105,100,117,97,108,32,100,114,105,102,116,32,112,114,111,116,101,115,116,32,102,101,101,32,100,101,97,100,108,105,110,101,32]
theorem Qql:kwsOf wordsL=kwL:=by decide+kernel
def classTab:List Int:=(List.range 256).map λi=>if 97<=i/\i<=122\/65<=i/\i<=90 then 2 else if 48<=i/\i<=57 then 3 else if i∈[123,125,40,41,91,93,59,44,61,60,62]then 4 else if i∈[32,9,10,13]then 1 else 0
theorem Qj0:Ev F_cz classTab:=by
 unfold F_cz;refine Ea (Qco (step:=F_ep 0) 40 (b:=(iter (F_ep 0) 40 (List.replicate 256 0,97)).getD []) (by decide+kernel)) ?_;refine Ea (Qco (step:=F_hc 0) 40 (b:=(iter (F_hc 0) 40 ((iter (F_ep 0) 40 (List.replicate 256 0,97)).getD [],48)).getD []) (by decide+kernel)) ?_;generalize hb:(iter (F_hc 0) 40 ((iter (F_ep 0) 40 (List.replicate 256 0,97)).getD [],48)).getD []=b2;refine Ea (Qco (step:=F_hr 0) 40 (b:=(iter (F_hr 0) 40 (b2,0)).getD []) (by subst hb;decide+kernel)) ?_;refine Ea (Qco (step:=F_ih 0) 40 (b:=classTab) (by subst hb;decide+kernel)) ?_;exact EB (by decide+kernel)
theorem QlR:((List.range 256).all λi=> !okN i||decide (classTab[i]?=some (if okAN i then 2 else if i=95 then 0 else 3)))=true:=by decide+kernel
theorem QnV{c:UInt8}(h:okC c=true):Qer 256 classTab (c.toNat:Int)=some (if okA c then 2 else if c.toNat=95 then 0 else 3):=by
 have a:=Xu.1 QlR c.toNat (List.mem_range.2 c.toNat_lt);unfold okC at h;rw[h]at a;simp only[Xg,Bool.false_or,Vv]at a;unfold Qer;rw[show Nat.beq classTab.length 256=true by decide+kernel,Vt,YW a];rfl
def goodS(s:List UInt8):Bool:=decide (1<=s.length)&&decide (s.length<=24)&&(s.head?).any okA&&s.all okC
def isNameS(s:List UInt8):Bool:=goodS s&& !kwL.contains s
theorem QlH(s:List UInt8)(h:goodS s=true):Ev (λn=>F_cn n s) true:=by
 unfold goodS at h;simp only[X0,Vv,Xu]at h;obtain⟨⟨⟨b,k⟩,f⟩,e⟩:=h;unfold F_cn;refine Ea Qj0 ?_;refine QaU (v:=List.replicate 256 0) (by decide+kernel) ?_;refine QaU (v:=classTab) (by decide+kernel) ?_;refine Ea (v:=Ctl.cont ()) (Ev.iter (λi=>(i:Int)) s.length rfl (λi j=>?_) ?_) ?_
 .have a:=JI (x:=s[i]) (by omega) (XO j);have g:=e _ a.mem;unfold F_hv;simp only[a.lt,Vt,a.ix,XN,QnV g,a.nx];cases i with
  |zero=>
   have:okA s[0]=true:=by
    cases s with
    |nil=>simp at b
    |cons c r=>simpa using f
   simp[this];exact Qa _
  |succ i=>
   by_cases q:okA s[i+1]=true
   .simp[q];exact Qa _
   .by_cases d:s[i+1].toNat=95
    .simp[q,d];exact Qa _
    .simp[q,d];exact Qa _
 .unfold F_hv;simp only[QaO,Vu];exact Qa _
 .refine EB ?_;cases s with
  |nil=>simp at b
  |cons c r=>rfl
theorem Qlz{s:List UInt8}(h:goodS s=true):∀c∈s,c≠32:=by
 unfold goodS at h;simp only[X0,Xu]at h;rintro c a rfl;exact absurd (h.2 _ a) (by decide)
theorem Qnf{s:List UInt8}(h:goodS s=true):s.length<=24:=by
 unfold goodS at h;simp only[X0,Vv]at h;exact h.1.1.2
theorem Qj2(s:List UInt8)(h:goodS s=true):Ev (λn=>F_ay n s) (kwL.contains s):=by
 unfold F_ay;refine Ea (v:=kwL.contains s) ?_ (Qa _);refine Ea (QlH s h) (Qf0 ?_);have a:=Qnf h;refine QaU (v:=[32]++s) (by unfold cat;rw[XW (by simp;omega)];rfl) ?_;refine QaU (v:=[32]++s++[32]) (by unfold cat;rw[XW (by simp;omega)];rfl) ?_;refine QaU (v:=kwL.contains s) ?_ (Qa _);show Qfi wordsL ([32]++s++[32])=some (kwL.contains s);unfold Qfi;rw[show Nat.blt wordsL.length 4294967281=true by decide+kernel,Vt];rw[show[32]++s++[32]=32::(s++[32])by simp,Qb4 s (Qlz h),Qql]
theorem ch_lt(c:UInt8)(k:Nat):decide ((c.toNat:Int)<(k:Int))=decide (c.toNat<k):=by
 rw[X3];simp
theorem badC(c:UInt8):(bif decide ((c.toNat:Int)<97)then(bif decide ((c.toNat:Int)<48)then some ((c.toNat:Int) != 95)else(bif decide (57<(c.toNat:Int))then some ((c.toNat:Int) != 95)else some false))else(bif decide (122<(c.toNat:Int))then(bif decide ((c.toNat:Int)<48)then some ((c.toNat:Int) != 95)else(bif decide (57<(c.toNat:Int))then some ((c.toNat:Int) != 95)else some false))else some false))=some (!okC c):=by
 unfold okC okN;generalize c.toNat=k;have e:((k:Int) != 95)= !decide (k=95):=by
  by_cases h:k=95
  .subst h;rfl
  .rw[VB h];simp;omega
 rw[e];by_cases g:k<48
 .rw[Yc (show(k:Int)<97 by omega),Yc (show(k:Int)<48 by omega)];have a:¬97<=k:=by omega
  have f:¬48<=k:=by omega
  simp[a,f]
 .rw[Yx (show¬(k:Int)<48 by omega)];by_cases b:k<=57
  .rw[Yc (show(k:Int)<97 by omega),Yx (show¬57<(k:Int)by omega)];have a:48<=k:=by omega
   simp[a,b]
  .rw[Yc (show 57<(k:Int)by omega)];by_cases i:k<97
   .rw[Yc (show(k:Int)<97 by omega)];have a:¬97<=k:=by omega
    simp[a,b]
   .rw[Yx (show¬(k:Int)<97 by omega)];by_cases d:k<=122
    .rw[Yx (show¬122<(k:Int)by omega)];have a:97<=k:=by omega
     simp[a,d]
    .rw[Yc (show 122<(k:Int)by omega)];simp[b,d]
theorem Qls(n:Nat)(s:List UInt8):(bif decide ((s.length:Int)<1)then some true else(bif decide (24<(s.length:Int))then some true else(idx s 0).bind λx10=>(bif decide ((x10.toNat:Int)<97)then some true else(idx s 0).bind λx12=>some (decide (122<(x12.toNat:Int))))))=some (!(decide (1<=s.length)&&decide (s.length<=24)&&(s.head?).any okA)):=by
 cases s with
 |nil=>rfl
 |cons c r=>
  rw[Yx (show¬((c::r).length:Int)<1 by simp;omega),Vu];by_cases h:(c::r).length<=24
  .rw[Yx (show¬24<((c::r).length:Int)by omega),Vu];have e:idx (c::r) 0=some c:=rfl;simp only[e,XN];simp only[X5]at h;have a:r.length<=23:=by omega
   simp only[List.head?_cons,Option.any_some,okA,okAN];rw[show(97:Int)=((97:Nat):Int)from rfl,ch_lt];by_cases b:c.toNat<97
   .have:¬97<=c.toNat:=by omega
    simp[b,this]
   .have d:97<=c.toNat:=by omega
    simp[b,d,a];by_cases q:c.toNat<=122
    .rw[Yx (show¬122<(c.toNat:Int)by omega),Yc q];rfl
    .rw[Yc (show 122<(c.toNat:Int)by omega),Yx q];rfl
  .rw[Yc (show 24<((c::r).length:Int)by omega),Vt];simp only[X5]at h;have a:¬r.length<=23:=by omega
   simp[a]
theorem QgK(s:List UInt8)(hl:s.length<=1048576):Ev (λn=>F_d n s) (isNameS s):=by
 unfold F_d;refine Ea (EB (Qls 0 s)) ?_;unfold isNameS;cases d:(decide (1<=s.length)&&decide (s.length<=24)&&(s.head?).any okA)with
 |false=>
  simp only[Xh,Vt];have:goodS s=false:=by unfold goodS;rw[d];rfl
  rw[this];exact Qa _
 |true=>
  simp only[Xg,Vu];have f:goodS s=s.all okC:=by unfold goodS;rw[d];rfl
  refine Ea (Qb8 s (λc=> !okC c) (λi=>(i:Int)) (Ctl.done false) (Ctl.cont ()) (by omega) rfl (λi x a b=>?_) (λi x a b=>?_) ?_) ?_
  .unfold F_gs;simp only[a.lt,Vt,a.ix,XN,badC,b,Vu,a.nx];exact Qa _
  .unfold F_gs;simp only[a.lt,Vt,a.ix,XN,badC,b];exact Qa _
  .unfold F_gs;simp only[QaO,Vu];exact Qa _
  .rw[f];have e:s.any (λc=> !okC c)= !s.all okC:=by rw[List.not_all_eq_any_not]
   rw[e];cases q:s.all okC with
   |true=>
    simp only[Xg,Vu,VE];exact Ea (Qj2 s (f.trans q)) (Qa _)
   |false=>
    simp only[Xh,Vt,Bool.false_and];exact Qa _
def diffS:List (List UInt8)->List (List UInt8)->Bool
 |_,[]=>true
 |seen,x::r=>isNameS x&& !seen.contains x&&diffS (seen++[x]) r
theorem Qj4(l:List (List UInt8))(i:Nat)(x:List UInt8)(h:At l i x):diffS (l.take i) (l.drop i)=(isNameS x&& !(l.take i).contains x&&diffS (l.take (i+1)) (l.drop (i+1))):=by
 rw[h.drop,h.take];rfl
theorem Qb2{α:Type}(l:List α)(a:α->List UInt8)(g:Nat->α->Option Unit)(hg:∀n x,g n x=some ())(hl:l.length<=1048576)(p:∀x∈l,(a x).length<=1048576):
  Ev (λn=>((iter (λs:(List (List UInt8×Bool))×Int=>bif decide (s.2<(l.length:Int))then(idx l s.2).bind λx35=>(g n x35).bind λr36=>((F_d n (a x35)).bind λr42=>(bif (!r42)then some true else(some (Qx s.1 (a x35) false)).bind λv44=>some v44):Option Bool).bind λb40=>(bif b40 then some (.done (.done false))else(some (QG s.1 (a x35) true)).bind λm46=>some (.cont (m46,IntKind.i64.wrap (s.2+1))))else some (.done (.cont ()))) n ([],0):Option (Ctl Unit Bool)).bind λb28=>
   match b28 with
   |.cont _=>some true
   |.done s=>some s:Option Bool)) (diffS [] (l.map a)):=by
 have e:l.length<=4611686018427387904:=by omega
 have j:(l.map a).length<=4611686018427387904:=by simpa using e
 have k:=QhV (B:=Ctl Unit Bool) l (step:=λn s=>bif decide (s.2<(l.length:Int))then(idx l s.2).bind λx35=>(g n x35).bind λr36=>((F_d n (a x35)).bind λr42=>(bif (!r42)then some true else(some (Qx s.1 (a x35) false)).bind λv44=>some v44):Option Bool).bind λb40=>(bif b40 then some (.done (.done false))else(some (QG s.1 (a x35) true)).bind λm46=>some (.cont (m46,IntKind.i64.wrap (s.2+1))))else some (.done (.cont ())))
  (s0:=(([]:List (List UInt8×Bool)),(0:Int))) (λi=>(Yj a true (l.take i),(i:Int))) (λi=>bif diffS ((l.map a).take i) ((l.map a).drop i)then .cont ()else .done false) e rfl (λi x d=>?_) ?_
 .refine Ea k ?_;simp only[List.take_zero,List.drop_zero];cases diffS [] (l.map a)<;>exact Qa _
 .have f:At (l.map a) i (a x):=JI j (by rw[Xq,d.get];rfl);simp only[Qj4 _ _ _ f];have b:Ev (λn=>((F_d n (a x)).bind λr42=>(bif (!r42)then some true else(some (Qx (Yj a true (l.take i)) (a x) false)).bind λv44=>some v44):Option Bool)) (!(isNameS (a x)&& !((l.map a).take i).contains (a x))):=by
   refine Ea (QgK (a x) (p x d.mem)) ?_;cases isNameS (a x)with
   |false=>exact Qa _
   |true=>
    refine Jy ((Qa _).eq ?_);rw[QbW,List.map_take];by_cases h:a x∈(l.map a).take i
    .rw[Vx h];simp[h]
    .rw[Vw h];simp[h]
  cases m:(isNameS (a x)&& !((l.map a).take i).contains (a x))with
  |true=>
   rw[m]at b;refine .inl ⟨?_,by simp⟩;simp only[d.lt,Vt,d.ix,XN,hg];refine Ea b ?_;simp only[Xg,Vu,XN,d.nx];rw[d.take,Qc4];exact Qa _
  |false=>
   rw[m]at b;refine .inr ?_;simp only[d.lt,Vt,d.ix,XN,hg];refine Ea b ?_;simp only[Xh,Vt,Bool.false_and,Vu];exact Qa _
 .simp only[QaO,Vu];rw[show(l.map a).drop l.length=[]by apply List.drop_eq_nil_of_le;simp];exact Qa _
theorem QqC{α:Type}{l:List α}{x:α}(h:l.length<=140737488):app l [x]=some (l++[x]):=QaE l x (by omega)
theorem QgL{α β:Type}(l:List α)(f:α->β)(hl:l.length<=140737488):Ev (λn=>iter (λs:(List β)×Int=>bif decide (s.2<(l.length:Int))then(idx l s.2).bind λx15=>(app s.1 [f x15]).bind λl16=>some (Ctl.cont (l16,IntKind.i64.wrap (s.2+1)))else some (Ctl.done s.1)) n (([]:List β),(0:Int))) (l.map f):=by
 have e:∀l:List α,l.foldl (λ(a:List β) x=>a++[f x]) []=l.map f:=by
  intro l;have g:∀(l:List α) (a:List β),l.foldl (λ(a:List β) x=>a++[f x]) a=a++l.map f:=by
   intro l
   induction l with
   |nil=>intro a;simp
   |cons x l h=>intro a;rw[XH,h];simp
  simpa using g l []
 rw[<- e l];refine Q5 l (λ(a:List β) x=>a++[f x]) [] (λa i=>(a,(i:Int))) (λa=>a) (by omega) rfl (λi x a d b=>?_) ?_
 .rw[e]at b;have:a.length<=140737488:=by rw[b];simp;omega
  simp only[d.lt,Vt,d.ix,XN,QqC this,d.nx];exact Qa _
 .simp only[QaO,Vu];exact Qa _
def namesS(c:Course):Bool:=isNameS c.Name&&(diffS [] (c.Mats.map (·.Name))&&(diffS [] (c.Distances.map (·.Name))&&(diffS [] (c.Waves.map (·.Name))&&(diffS [] (c.Offences.map (·.Name))&&diffS [] (c.Categories.map (·.Name))))))
structure CourseOk (c:Course):Prop where
 name:c.Name.length<=1048576
 mats:c.Mats.length<=1048576
 matsN:∀x∈c.Mats,x.Name.length<=1048576
 legs:c.Legs.length<=1048576
 dist:c.Distances.length<=1048576
 distN:∀x∈c.Distances,x.Name.length<=1048576
 cut:∀x∈c.Distances,x.Cutoffs.length<=1048576
 wave:c.Waves.length<=1048576
 waveN:∀x∈c.Waves,x.Name.length<=1048576
 off:c.Offences.length<=1048576
 offN:∀x∈c.Offences,x.Name.length<=1048576
 cat:c.Categories.length<=1048576
 catN:∀x∈c.Categories,x.Name.length<=1048576
 prize:c.Prizes.length<=1048576
theorem Qnv(c:Course)(w:CourseOk c):Ev (λn=>F_av n c) (namesS c):=by
 unfold F_av namesS;refine Ea (v:=_) ?_ (Qa _);refine Ea (QgK c.Name w.name) (Ei λ_=>?_);have e:Ev (λn=>F_ba n c.Mats) (diffS [] (c.Mats.map (·.Name))):=by unfold F_ba;exact Qb2 c.Mats (·.Name) F_fj (λ_ _=>rfl) w.mats w.matsN
 have d:Ev (λn=>F_bu n c.Distances) (diffS [] (c.Distances.map (·.Name))):=by unfold F_bu;exact Qb2 c.Distances (·.Name) F_dy (λ_ _=>rfl) w.dist w.distN
 have f:Ev (λn=>F_ch n c.Waves) (diffS [] (c.Waves.map (·.Name))):=by unfold F_ch;exact Qb2 c.Waves (·.Name) F_fq (λ_ _=>rfl) w.wave w.waveN
 have b:Ev (λn=>F_bs n c.Offences) (diffS [] (c.Offences.map (·.Name))):=by unfold F_bs;exact Qb2 c.Offences (·.Name) F_er (λ_ _=>rfl) w.off w.offN
 have a:Ev (λn=>F_bg n c.Categories) (diffS [] (c.Categories.map (·.Name))):=by unfold F_bg;exact Qb2 c.Categories (·.Name) F_eh (λ_ _=>rfl) w.cat w.catN
 refine Ea e (Ei λ_=>?_);refine Ea d (Ei λ_=>?_);refine Ea f (Ei λ_=>?_);refine Ea b (Ei λ_=>?_);exact Ea a (Qa _)
theorem QcS{n:Nat}(h:n<=1048576):IntKind.i64.wrap ((n:Int)-1)=(n:Int)-1:=Yd (by omega) (by omega)
mutual
def szP:Part->Nat
 |⟨_,_,ps⟩=>1+szPs ps
def szPs:List Part->Nat
 |[]=>0
 |p::r=>szP p+szPs r
end
theorem Jo(p:Part):szP p=1+szPs p.Parts:=by cases p;rfl
theorem Qal{p:Part}:∀{l:List Part},p∈l->szP p<=szPs l
 |q::r,h=>by
  simp only[szPs];rcases Va.1 h with rfl|h
  .omega
  .have:=Qal h;omega
mutual
def partS(k:Int):Part->Bool
 |⟨m,laps,ps⟩=>bif laps==0 then inR 0 k m&&((ps.length:Int)==0)else inR 1 64 laps&&((m==0)&&(decide (0<(ps.length:Int))&&partsS k ps))
def partsS(k:Int):List Part->Bool
 |[]=>true
 |p::r=>partS k p&&partsS k r
end
theorem Qc0(k:Int)(p:Part):partS k p=bif p.Laps==0 then inR 0 k p.Mat&&((p.Parts.length:Int)==0)else inR 1 64 p.Laps&&((p.Mat==0)&&(decide (0<(p.Parts.length:Int))&&partsS k p.Parts)):=by cases p;rfl
theorem QaI(k:Int):∀l:List Part,partsS k l=l.all (partS k)
 |[]=>rfl
 |p::r=>by simp only[partsS,List.all_cons,QaI k r]
theorem Y2{p:Part}(h:Part.wf p):p.Parts.length<=1048576/\ ∀x∈p.Parts,Part.wf x:=by
 cases p;simp only[Part.wf,Qds]at h;exact h.2.2.1
theorem QJ(lo hi x:Int):Ev (λn=>F_a n lo hi [x]) (inR lo hi x):=(QgF lo hi [x] (by simp)).eq (by simp)
theorem QaN(lo hi x y:Int):Ev (λn=>F_a n lo hi [x,y]) (inR lo hi x&&inR lo hi y):=(QgF lo hi [x,y] (by simp)).eq (by simp)
theorem Qnu(k:Int):∀(m:Nat) (l:List Part),szPs l<=m->l.length<=1048576->(∀x∈l,Part.wf x)->Ev (λn=>F_e n l k) (partsS k l):=by
 intro m
 induction m with
 |zero=>
  intro l a e b;cases l with
  |nil=>
   refine Je ?_;show Ev (λn=>B_e (F_e n) n [] k) _;unfold B_e F_at F_ax;exact Jl [] (partS k) (λn x=>F_am (F_e n) n x k) (by simp) (by simp)
  |cons p r=>
   exfalso;simp only[szPs,Jo]at a;omega
 |succ m g=>
  intro l a e b;refine Je ?_;show Ev (λn=>B_e (F_e n) n l k) _;unfold B_e F_at F_ax;rw[QaI];refine Jl l (partS k) (λn x=>F_am (F_e n) n x k) (by omega) λp d=>?_;unfold F_am;rw[Qc0];have f:=Qal d;rw[Jo]at f;obtain⟨w1,w2⟩:=Y2 (b p d);refine QbH (λ_=>?_) (λ_=>?_)
  .exact Ea (Ea (QJ _ _ _) (Ei λ_=>Qa _)) (Qa _)
  .exact Ea (Ea (QJ _ _ _) (Ei λ_=>Ei λ_=>Ei λ_=>Ea (g p.Parts (by omega) w1 w2) (Qa _))) (Qa _)
def legS(k:Int)(l:Leg):Bool:=(inR 0 k l.From&&inR 0 k l.To)&&((inR 0 68719476736 l.Min&&inR 0 68719476736 l.Max)&&decide (l.Min<=l.Max))
def cutS(k:Int)(x:Cutoff):Bool:=inR 0 k x.Mat&&(decide (1<=x.Lap)&&inR 0 1099511627776 x.Limit)
def distS(k:Int)(d:Distance):Bool:=inR 1 3 d.Timing&&(inR (-1) k d.Extra&&(partsS k d.Route&&d.Cutoffs.all (cutS k)))
def offS(o:Offence):Bool:=bif o.Out then(o.Time==0)&&(o.Laps==0)else bif o.Laps != 0 then(o.Time==0)&&inR 1 64 o.Laps else inR 0 68719476736 o.Time
def catS(x:Category):Bool:=(inR 0 120 x.From&&inR 0 120 x.To)&&decide (x.From<=x.To)
def prizeS(c:Course)(p:Prize):Bool:=inR 0 ((c.Distances.length:Int)-1) p.Distance&&(inR (-1) ((c.Categories.length:Int)-1) p.Category&&(inR 1 4000 p.Rank&&inR 1 1125899906842624 p.Amount))
def lastS(c:Course):Bool:=(inR 0 16 c.Faults.Misses&&inR 0 16 c.Faults.Strays)&&((inR 0 4294967296 c.Faults.Window&&inR 0 4294967296 c.Faults.Residual)&&(inR 0 100000 c.Faults.Drift&&(inR 0 1125899906842624 c.Fee&&inR 0 1099511627776 c.Deadline)))
def legKey(l:Leg):Uh:={from_:=l.From,to_:=l.To}
def prizeKey(p:Prize):Uj:={distance:=p.Distance,category:=p.Category,rank:=p.Rank}
def numbersS(c:Course):Bool:=
 let k:=(c.Mats.length:Int)-1
 c.Mats.all (λm=>inR 1 3 m.Kind)&&(c.Legs.all (legS k)&&(decide ((c.Legs.map legKey).Nodup)&&(c.Distances.all (distS k)&&(c.Waves.all (λw=>inR 0 1099511627776 w.Gun)&&(c.Offences.all offS&&(c.Categories.all catS&&(c.Prizes.all (prizeS c)&&(decide ((c.Prizes.map prizeKey).Nodup)&&lastS c))))))))
structure PartsOk (c:Course):Prop where
 len:∀d∈c.Distances,d.Route.length<=1048576
 wf:∀d∈c.Distances,∀x∈d.Route,Part.wf x
theorem QhE(l:List Leg)(hl:l.length<=1048576):Ev (λn=>F_ck n l) (decide ((l.map legKey).Nodup)):=by
 unfold F_ck;refine Ea (QbG l legKey true (by omega) (λi x m a=>?_) (λm=>?_)) ((Qa _).eq ?_)
 .unfold F_hy F_fr;simp only[a.lt,Vt,a.ix,XN,a.nx];exact Qa _
 .unfold F_hy;simp only[QaO,Vu];exact Qa _
 .rw[X3];simp only[VC,Vv];have:=Qcs legKey true l;rw[<- this.2];omega
theorem QfA(l:List Prize)(hl:l.length<=1048576):Ev (λn=>F_cw n l) (decide ((l.map prizeKey).Nodup)):=by
 unfold F_cw;refine Ea (QbG l prizeKey true (by omega) (λi x m a=>?_) (λm=>?_)) ((Qa _).eq ?_)
 .unfold F_hx F_fn;simp only[a.lt,Vt,a.ix,XN,a.nx];exact Qa _
 .unfold F_hx;simp only[QaO,Vu];exact Qa _
 .rw[X3];simp only[VC,Vv];have:=Qcs prizeKey true l;rw[<- this.2];omega
theorem QjW(c:Course)(w:CourseOk c)(q:PartsOk c):Ev (λn=>F_bb n c) (numbersS c):=by
 unfold F_bb numbersS;rw[QcS w.mats];refine Ea (v:=_) ?_ (Qa _);have i:Ev (λn=>F_az n c.Mats) (c.Mats.all λm=>inR 1 3 m.Kind):=by
  unfold F_az F_ef F_du;refine Jl c.Mats _ (λn x=>F_bi n x) (by have:=w.mats;omega) λx a=>?_;unfold F_bi;exact Ea (QJ _ _ _) (Qa _)
 have h:Ev (λn=>F_bp n c.Legs ((c.Mats.length:Int)-1)) (c.Legs.all (legS ((c.Mats.length:Int)-1))):=by
  unfold F_bp F_gc F_dn;refine Jl c.Legs _ (λn x=>F_as n x _) (by have:=w.legs;omega) λx a=>?_;unfold F_as;exact Ea (Ea (QaN _ _ _ _) (Ei λ_=>Ea (QaN _ _ _ _) (Ei λ_=>Qa _))) (Qa _)
 have g:Ev (λn=>F_cm n c.Distances ((c.Mats.length:Int)-1)) (c.Distances.all (distS ((c.Mats.length:Int)-1))):=by
  unfold F_cm F_dz F_ej;refine Jl c.Distances _ (λn x=>F_cu n x _) (by have:=w.dist;omega) λx a=>?_;unfold F_cu;have j:Ev (λn=>F_dd n x.Cutoffs ((c.Mats.length:Int)-1)) (x.Cutoffs.all (cutS ((c.Mats.length:Int)-1))):=by
   unfold F_dd F_et F_fa;refine Jl x.Cutoffs _ (λn x=>F_co n x _) (by have:=w.cut x a;omega) λy k=>?_;unfold F_co;exact Ea (Ea (QJ _ _ _) (Ei λ_=>Ei λ_=>Ea (QJ _ _ _) (Qa _))) (Qa _)
  exact Ea (Ea (QJ _ _ _) (Ei λ_=>Ea (QJ _ _ _) (Ei λ_=>Ea (Qnu _ _ x.Route (XX _) (q.len x a) (q.wf x a)) (Ei λ_=>Ea j (Qa _))))) (Qa _)
 have d:Ev (λn=>F_bx n c.Waves) (c.Waves.all λw=>inR 0 1099511627776 w.Gun):=by
  unfold F_bx F_el F_gi;refine Jl c.Waves _ (λn x=>F_ct n x) (by have:=w.wave;omega) λx a=>?_;unfold F_ct;exact Ea (QJ _ _ _) (Qa _)
 have f:Ev (λn=>F_bj n c.Offences) (c.Offences.all offS):=by
  unfold F_bj F_ff F_gf;refine Jl c.Offences _ (λn x=>F_db n x) (by have:=w.off;omega) λx a=>?_;unfold F_db offS;refine QbH (λ_=>Ea (Ei λ_=>Qa _) (Qa _)) λ_=>QbH (λ_=>Ea (Ei λ_=>Ea (QJ _ _ _) (Qa _)) (Qa _)) λ_=>Ea (QJ _ _ _) (Qa _)
 have b:Ev (λn=>F_de n c.Categories) (c.Categories.all catS):=by
  unfold F_de F_fu F_eb;refine Jl c.Categories _ (λn x=>F_da n x) (by have:=w.cat;omega) λx a=>?_;unfold F_da;exact Ea (Ea (QaN _ _ _ _) (Ei λ_=>Qa _)) (Qa _)
 have e:Ev (λn=>F_bt n c.Prizes c) (c.Prizes.all (prizeS c)):=by
  unfold F_bt F_di F_fe;refine Jl c.Prizes _ (λn x=>F_df n x c) (by have:=w.prize;omega) λx a=>?_;unfold F_df;rw[QcS w.dist,QcS w.cat];exact Ea (Ea (QJ _ _ _) (Ei λ_=>Ea (QJ _ _ _) (Ei λ_=>Ea (QJ _ _ _) (Ei λ_=>Ea (QJ _ _ _) (Qa _))))) (Qa _)
 refine Ea i (Ei λ_=>Ea h (Ei λ_=>Ea (QhE _ w.legs) (Ei λ_=>Ea g (Ei λ_=>Ea d (Ei λ_=>Ea f (Ei λ_=>Ea b (Ei λ_=>Ea e (Ei λ_=>Ea (QfA _ w.prize) (Ei λ_=>?_)))))))));exact Ea (QaN _ _ _ _) (Ei λ_=>Ea (QaN _ _ _ _) (Ei λ_=>Ea (QJ _ _ _) (Ei λ_=>Ea (QJ _ _ _) (Ei λ_=>Ea (QJ _ _ _) (Qa _)))))
theorem ends_eq{a b a' d:Int}:(({from_:=a,to_:=b}:Uh)={from_:=a',to_:=d})↔a=a'/\b=d:=by simp
theorem Qmn{α B:Type}{step:Nat->Int->Option (Ctl Int B)}(l:List α)(ok:α->Bool)(a b:B)(hl:l.length<=4611686018427387904)
  (g:∀i x,At l i x->Ev (λn=>step n (i:Int)) (bif ok x then .cont ((i+1:Nat):Int)else .done a))(j:Ev (λn=>step n (l.length:Int)) (.done b)):
  Ev (λn=>Go.Sw.iter (step n) n 0) (bif l.all ok then b else a):=by
 have e:(bif l.all ok then b else a)=bif l.any (λx=> !ok x)then a else b:=by
  rw[<- List.not_all_eq_any_not];cases l.all ok<;>rfl
 rw[e];refine Qb8 l (λx=> !ok x) (λi=>(i:Int)) a b hl rfl (λi x f d=>?_) (λi x f d=>?_) j
 .have h:ok x=true:=by simpa using d
  have:=g i x f
  rwa [h]at this
 .have h:ok x=false:=by simpa using d
  have:=g i x f
  rwa [h]at this
mutual
def cN:Cond->Nat
 |⟨_,_,_,ps⟩=>1+cNs ps
def cNs:List Cond->Nat
 |[]=>0
 |c::r=>cN c+cNs r
end
theorem Qdj(c:Cond):cN c=1+cNs c.Parts:=by cases c;rfl
mutual
def cD:Nat->Cond->Bool
 |d,⟨_,_,_,ps⟩=>cDs d ps
def cDs:Nat->List Cond->Bool
 |_,[]=>true
 |d,c::r=>decide (d<=16)&&(cD (d+1) c&&cDs d r)
end
theorem QnW(d:Nat)(c:Cond):cD d c=cDs d c.Parts:=by cases c;rfl
def zeroC(c:Cond):Bool:=(c.Kind==0)&&((c.Var==0)&&((c.N==0)&&((c.Parts.length:Int)==0)))
mutual
def sNp:Step->Nat
 |⟨_,_,_,t,e⟩=>1+sNs t+sNs e
def sNs:List Step->Nat
 |[]=>0
 |s::r=>sNp s+sNs r
end
theorem Qgj(s:Step):sNp s=1+sNs s.Then+sNs s.Else:=by cases s;rfl
mutual
def sC:Step->Nat
 |⟨_,_,c,t,e⟩=>(bif zeroC c then 0 else cN c)+sCs t+sCs e
def sCs:List Step->Nat
 |[]=>0
 |s::r=>sC s+sCs r
end
theorem Qgk(s:Step):sC s=(bif zeroC s.Cond then 0 else cN s.Cond)+sCs s.Then+sCs s.Else:=by cases s;rfl
mutual
def sDp:Nat->Step->Bool
 |d,⟨_,_,c,t,e⟩=>(zeroC c||cD 1 c)&&(sDs d t&&sDs d e)
def sDs:Nat->List Step->Bool
 |_,[]=>true
 |d,s::r=>decide (d<=16)&&(sDp (d+1) s&&sDs d r)
end
theorem QkD(d:Nat)(s:Step):sDp d s=((zeroC s.Cond||cD 1 s.Cond)&&(sDs d s.Then&&sDs d s.Else)):=by cases s;rfl
mutual
def sZ:Step->Nat
 |⟨_,_,c,t,e⟩=>2+cN c+sZs t+sZs e
def sZs:List Step->Nat
 |[]=>0
 |s::r=>sZ s+sZs r
end
theorem Qia(s:Step):sZ s=2+cN s.Cond+sZs s.Then+sZs s.Else:=by cases s;rfl
def fS:Ui->Nat
 |.ctyping_step x=>sNp x.Step
 |.ctyping_cond _=>0
def fC:Ui->Nat
 |.ctyping_step x=>sC x.Step
 |.ctyping_cond x=>cN x.Cond
def fD(d:Nat):Ui->Bool
 |.ctyping_step x=>sDp d x.Step
 |.ctyping_cond x=>cD d x.Cond
def fZ:Ui->Nat
 |.ctyping_step x=>sZ x.Step
 |.ctyping_cond x=>cN x.Cond
def fSs(l:List Ui):Nat:=(l.map fS).sum
def fCs(l:List Ui):Nat:=(l.map fC).sum
def fZs(l:List Ui):Nat:=(l.map fZ).sum
def fwf:Ui->Prop
 |.ctyping_step x=>Step.wf x.Step
 |.ctyping_cond x=>Cond.wf x.Cond
def ofStep(s:Step):Ui:=.ctyping_step {Step:=s}
def ofCond(c:Cond):Ui:=.ctyping_cond {Cond:=c}
theorem Qbh:∀l:List Step,fSs (l.map ofStep)=sNs l
 |[]=>rfl
 |s::r=>by
  have:=Qbh r;simp only[fSs,Vn,List.sum_cons]at this⊢;rw[this];rfl
theorem Qbi:∀l:List Step,fCs (l.map ofStep)=sCs l
 |[]=>rfl
 |s::r=>by
  have:=Qbi r;simp only[fCs,Vn,List.sum_cons]at this⊢;rw[this];rfl
theorem Qb1:∀l:List Step,fZs (l.map ofStep)=sZs l
 |[]=>rfl
 |s::r=>by
  have:=Qb1 r;simp only[fZs,Vn,List.sum_cons]at this⊢;rw[this];rfl
theorem Qfv:∀l:List Cond,fSs (l.map ofCond)=0
 |[]=>rfl
 |s::r=>by
  have:=Qfv r;simp only[fSs,Vn,List.sum_cons]at this⊢;rw[this];rfl
theorem Qfx:∀l:List Cond,fCs (l.map ofCond)=cNs l
 |[]=>rfl
 |s::r=>by
  have:=Qfx r;simp only[fCs,Vn,List.sum_cons]at this⊢;rw[this];rfl
theorem Qft:∀l:List Cond,fZs (l.map ofCond)=cNs l
 |[]=>rfl
 |s::r=>by
  have:=Qft r;simp only[fZs,Vn,List.sum_cons]at this⊢;rw[this];rfl
theorem Qdc(d:Nat):∀l:List Step,sDs d l=((l.map ofStep).isEmpty||(decide (d<=16)&&(l.map ofStep).all (fD (d+1))))
 |[]=>rfl
 |s::r=>by
  rw[sDs,Qdc d r];simp only[Vn,List.isEmpty_cons,Bool.false_or,List.all_cons];rw[show fD (d+1) (ofStep s)=sDp (d+1) s from rfl];cases r with
  |nil=>simp
  |cons x r=>
   simp only[Vn,List.isEmpty_cons,Bool.false_or,List.all_cons];cases decide (d<=16)<;>simp
theorem QiN(d:Nat):∀l:List Cond,cDs d l=((l.map ofCond).isEmpty||(decide (d<=16)&&(l.map ofCond).all (fD (d+1))))
 |[]=>rfl
 |s::r=>by
  rw[cDs,QiN d r];simp only[Vn,List.isEmpty_cons,Bool.false_or,List.all_cons];rw[show fD (d+1) (ofCond s)=cD (d+1) s from rfl];cases r with
  |nil=>simp
  |cons x r=>
   simp only[Vn,List.isEmpty_cons,Bool.false_or,List.all_cons];cases decide (d<=16)<;>simp
theorem Qak{c:Cond}(h:Cond.wf c):c.Parts.length<=1048576/\ ∀x∈c.Parts,Cond.wf x:=by
 cases c;simp only[Cond.wf,Qdv]at h;exact h.2.2.2.1
theorem Qaj{s:Step}(h:Step.wf s):Cond.wf s.Cond/\(s.Then.length<=1048576/\ ∀x∈s.Then,Step.wf x)/\(s.Else.length<=1048576/\ ∀x∈s.Else,Step.wf x):=by
 cases s;simp only[Step.wf,Qdm]at h;exact⟨h.2.2.1,h.2.2.2.1,h.2.2.2.2.1⟩
theorem QgJ(n:Nat)(c:Cond):F_y n {Cond:=c}=some (zeroC c):=by
 unfold F_y zeroC;cases(c.Kind==0)<;>cases(c.Var==0)<;>cases(c.N==0)<;>rfl
theorem QjV(n:Nat)(c:Cond):F_cq n c=some (zeroC c):=by
 unfold F_cq zeroC;cases(c.Kind==0)<;>cases(c.Var==0)<;>cases(c.N==0)<;>rfl
theorem Qfz(l:List Step)(hl:l.length<=140737488):Ev (λn=>F_w n l) (l.map ofStep):=by
 unfold F_w;exact Ea (QgL l ofStep hl) (Qa _)
theorem QnE(l:List Cond)(hl:l.length<=140737488):Ev (λn=>F_br n l) (l.map ofCond):=by
 unfold F_br;exact Ea (QgL l ofCond hl) (Qa _)
def stepParts(s:Step):List Ui:=s.Then.map ofStep++s.Else.map ofStep
theorem Qbw(s:Step)(h:Step.wf s):Ev (λn=>F_u n {Step:=s}) (stepParts s):=by
 obtain⟨_,⟨b,_⟩,⟨a,_⟩⟩:=Qaj h;unfold F_u stepParts;refine Ea (Qfz s.Then (by omega)) (Ea (Qfz s.Else (by omega)) (QaU (Qi6 _ _ (by simp;omega)) (Qa _)))
theorem Qdd(c:Cond)(h:Cond.wf c):Ev (λn=>F_r n {Cond:=c}) (c.Parts.map ofCond):=by
 obtain⟨a,_⟩:=Qak h;unfold F_r;exact Ea (QnE c.Parts (by omega)) (Qa _)
def okL(l:List Ui)(d:Nat)(st co:Int):Bool:=l.isEmpty||(decide (d<=16)&&(l.all (fD (d+1))&&(decide (st+fSs l<=64)&&decide (co+fCs l<=256))))
def okR(l:List Ui)(d:Nat)(st co:Int):Bool:=l.isEmpty||(l.all (fD (d+1))&&(decide (st+fSs l<=64)&&decide (co+fCs l<=256)))
def okF(f:Ui)(d:Nat)(st co:Int):Bool:=fD (d+1) f&&(decide (st+fS f<=64)&&decide (co+fC f<=256))
theorem QiM(f:Ui)(l:List Ui):fSs (f::l)=fS f+fSs l:=rfl
theorem QiO(f:Ui)(l:List Ui):fCs (f::l)=fC f+fCs l:=rfl
theorem QiL(f:Ui)(l:List Ui):fZs (f::l)=fZ f+fZs l:=rfl
theorem Qfu(l m:List Ui):fSs (l++m)=fSs l+fSs m:=by simp[fSs]
theorem Qfw(l m:List Ui):fCs (l++m)=fCs l+fCs m:=by simp[fCs]
theorem Qfs(l m:List Ui):fZs (l++m)=fZs l+fZs m:=by simp[fZs]
theorem QmZ(f:Ui)(r:List Ui)(d:Nat)(a h:Int):okR (f::r) d a h=(okF f d a h&&okR r d (a+fS f) (h+fC f)):=by
 unfold okR okF;rw[QiM,QiO];cases r with
 |nil=>simp[fSs,fCs]
 |cons g r=>
  rw[X3];simp only[List.isEmpty_cons,Bool.false_or,List.all_cons,X0,Vv];rw[show((fS f+fSs (g::r):Nat):Int)=(fS f:Int)+(fSs (g::r):Int)by omega,show((fC f+fCs (g::r):Nat):Int)=(fC f:Int)+(fCs (g::r):Int)by omega];constructor
  .rintro⟨⟨e,b⟩,j,i⟩;exact⟨⟨e,by omega,by omega⟩,b,by omega,by omega⟩
  .rintro⟨⟨e,_,_⟩,b,j,i⟩;exact⟨⟨e,b⟩,by omega,by omega⟩
theorem Qhk(l:List Ui)(d:Nat)(h g:Int)(j:h<=64)(i:g<=256):okL l d h g=true↔(l.isEmpty||(decide (d<=16)&&l.all (fD (d+1))))=true/\h+fSs l<=64/\g+fCs l<=256:=by
 unfold okL;cases l with
 |nil=>simp[fSs,fCs,j,i]
 |cons f r=>
  simp only[List.isEmpty_cons,Bool.false_or,X0,Vv];constructor
  .rintro⟨a,b,c,e⟩;exact⟨⟨a,b⟩,c,e⟩
  .rintro⟨⟨a,b⟩,c,e⟩;exact⟨a,b,c,e⟩
theorem QeO(s:Step)(d:Nat):((stepParts s).isEmpty||(decide (d<=16)&&(stepParts s).all (fD (d+1))))=(sDs d s.Then&&sDs d s.Else):=by
 rw[Qdc,Qdc];unfold stepParts;rw[List.all_append];cases b:s.Then<;>cases a:s.Else<;>simp<;>(cases decide (d<=16)<;>simp)
def Cnt(R:Nat->List Ui->Int->Ug->Option (Ug×Bool))(l:List Ui)(d:Nat)(st co:Int):Prop:=
 ∃c':Ug,Ev (λn=>R n l (d:Int) {steps:=st,conds:=co}) (c',okL l d st co)/\(okL l d st co=true->c'={steps:=st+fSs l,conds:=co+fCs l})
theorem Qj6{R:Nat->List Ui->Int->Ug->Option (Ug×Bool)}{l:List Ui}{d:Nat}(hd:d<=16){i:Nat}{f:Ui}(O:At l i f)(hw:fwf f)
  (Y:∀l' d' a e,fZs l'<fZ f->l'.length<=2097152->(∀f∈l',fwf f)->d'<=17->0<=a->a<=66->(a<=65\/ ∀f∈l',∃c,f=ofCond c)->0<=e->e<=256->Cnt R l' d' a e){a e:Int}(h0:0<=a)(ae:a<=66)(B:a<=65\/ ∃c,f=ofCond c)(h2:0<=e)(h3:e<=256):
  ∃c':Ug,Ev (λn=>F_ea n l (d:Int) (R n) ({steps:=a,conds:=e},(i:Int))) (bif okF f d a e then .cont (c',((i+1:Nat):Int))else .done (.done (c',false)))/\(okF f d a e=true->c'={steps:=a+fS f,conds:=e+fC f}):=by
 unfold F_ea;simp only[O.lt,Vt,O.ix,XN,O.nx];have ed:IntKind.i64.wrap ((d:Int)+1)=((d+1:Nat):Int):=YA (by omega);cases f with
 |ctyping_step x=>
  obtain⟨s⟩:=x;have h1:a<=65:=by
   rcases B with h|⟨c,h⟩
   .exact h
   .cases h
  have k:Step.wf s:=hw;obtain⟨wc,⟨ab,V⟩,⟨ac,aa⟩⟩:=Qaj k;have M:IntKind.i64.wrap (a+1)=a+1:=Yd (by omega) (by omega);simp only[Ui.elim,QgJ,XN,M];have hc:∃t:Ug,Ev (λn=>((bif (!zeroC s.Cond)then(R n [Ui.ctyping_cond {Cond:=s.Cond}] 0 {steps:=a+1,conds:=e}).bind λm=>some (m.1,(!m.2))else some ({steps:=a+1,conds:=e},false)):Option (Ug×Bool))) (t, !(zeroC s.Cond||(cD 1 s.Cond&&(decide (a+1<=64)&&decide (e+cN s.Cond<=256)))))/\
    ((zeroC s.Cond||(cD 1 s.Cond&&(decide (a+1<=64)&&decide (e+cN s.Cond<=256))))=true->t={steps:=a+1,conds:=e+((bif zeroC s.Cond then 0 else cN s.Cond:Nat):Int)}):=by
   cases w:zeroC s.Cond with
   |true=>
    refine⟨{steps:=a+1,conds:=e},?_,λ_=>?_⟩
    .exact Qa _
    .simp
   |false=>
    obtain⟨t,p,H⟩:=Y [ofCond s.Cond] 0 (a+1) e (by simp only[fZs,Vn,Vp,List.sum_cons,List.sum_nil];show cN s.Cond+0<sZ s;rw[Qia];omega) (by simp) (by intro g j;simp only[VF]at j;subst j;exact wc) (by omega) (by omega) (by omega) (.inr (by intro g j;simp only[VF]at j;exact⟨_,j⟩)) h2 h3;have ek:okL [ofCond s.Cond] 0 (a+1) e=(cD 1 s.Cond&&(decide (a+1<=64)&&decide (e+cN s.Cond<=256))):=by
     unfold okL;simp only[List.isEmpty_cons,Bool.false_or,List.all_cons,List.all_nil,Bool.and_true,fSs,fCs,Vn,Vp,List.sum_cons,List.sum_nil];rw[show fD (0+1) (ofCond s.Cond)=cD 1 s.Cond from rfl,show fS (ofCond s.Cond)=0 from rfl,show fC (ofCond s.Cond)=cN s.Cond from rfl];simp
    rw[ek]at p H;refine⟨t,Ea p (Qa _),λh=>?_⟩;rw[H h];simp[fSs,fCs,show fS (ofCond s.Cond)=0 from rfl,show fC (ofCond s.Cond)=cN s.Cond from rfl]
  obtain⟨t,p,H⟩:=hc;generalize hb:(zeroC s.Cond||(cD 1 s.Cond&&(decide (a+1<=64)&&decide (e+cN s.Cond<=256))))=b at p H;have L:okF (Ui.ctyping_step {Step:=s}) d a e=(sDp (d+1) s&&(decide (a+sNp s<=64)&&decide (e+sC s<=256))):=rfl;rw[L];cases b with
  |false=>
   have:(sDp (d+1) s&&(decide (a+sNp s<=64)&&decide (e+sC s<=256)))=false:=by
    rw[VQ];intro hh;simp only[X0,Vv,QkD,Qgj,Qgk]at hh;obtain⟨⟨z1,_⟩,z2,z3⟩:=hh;cases w:zeroC s.Cond with
    |true=>rw[w]at hb;cases hb
    |false=>
     rw[w]at hb z1 z3;simp only[Bool.false_or]at hb z1;rw[z1]at hb;simp only[Vu]at z3;rw[Yc (show a+1<=64 by omega),Yc (show e+(cN s.Cond:Int)<=256 by omega)]at hb;cases hb
   rw[this];exact⟨t,Ea p (Qa _),λh=>by cases h⟩
  |true=>
   obtain rfl:=H rfl;by_cases r:64<a+1
   .have:(sDp (d+1) s&&(decide (a+sNp s<=64)&&decide (e+sC s<=256)))=false:=by
     rw[Yx (show¬a+(sNp s:Int)<=64 by rw[Qgj];omega)];simp
    rw[this];refine⟨{steps:=a+1,conds:=e+((bif zeroC s.Cond then 0 else cN s.Cond:Nat):Int)},Ea p ?_,λh=>by cases h⟩;simp only[Xg,Vu];refine Ea (v:=(_,true)) ?_ (Qa _);rw[Yc r];exact Qa _
   by_cases z:256<e+((bif zeroC s.Cond then 0 else cN s.Cond:Nat):Int)
   .have:(sDp (d+1) s&&(decide (a+sNp s<=64)&&decide (e+sC s<=256)))=false:=by
     rw[Yx (show¬e+(sC s:Int)<=256 by rw[Qgk];omega)];simp
    rw[this];refine⟨{steps:=a+1,conds:=e+((bif zeroC s.Cond then 0 else cN s.Cond:Nat):Int)},Ea p ?_,λh=>by cases h⟩;simp only[Xg,Vu];refine Ea (v:=(_,true)) ?_ (Qa _);rw[Yx r,Yc z];exact Qa _
   obtain⟨E,u,G⟩:=Y (stepParts s) (d+1) (a+1) (e+((bif zeroC s.Cond then 0 else cN s.Cond:Nat):Int)) (by
     unfold stepParts;rw[Qfs,Qb1,Qb1];show _<sZ s;rw[Qia];omega) (by unfold stepParts;simp;omega) (by
     intro g j;unfold stepParts at j;rcases VH.1 j with j|j
     .obtain⟨y,F,rfl⟩:=Xe.1 j;exact V y F
     .obtain⟨y,F,rfl⟩:=Xe.1 j;exact aa y F) (by omega) (by omega) (by omega) (.inl (by omega)) (by omega) (by omega)
   have Q:okL (stepParts s) (d+1) (a+1) (e+((bif zeroC s.Cond then 0 else cN s.Cond:Nat):Int))=(sDp (d+1) s&&(decide (a+sNp s<=64)&&decide (e+sC s<=256))):=by
    rw[X3,Qhk _ _ _ _ (by omega) (by omega),QeO];simp only[X0,Vv,QkD,Qgj,Qgk];have X:fSs (stepParts s)=sNs s.Then+sNs s.Else:=by unfold stepParts;rw[Qfu,Qbh,Qbh]
    have T:fCs (stepParts s)=sCs s.Then+sCs s.Else:=by unfold stepParts;rw[Qfw,Qbi,Qbi]
    rw[X,T];have P:(zeroC s.Cond||cD 1 s.Cond)=true:=by
     cases w:zeroC s.Cond with
     |true=>rfl
     |false=>
      rw[w]at hb;simp only[Bool.false_or,X0]at hb;rw[hb.1];rfl
    constructor
    .rintro⟨q,J,N⟩;exact⟨⟨P,q⟩,by omega,by omega⟩
    .rintro⟨⟨_,q⟩,J,N⟩;exact⟨q,by omega,by omega⟩
   rw[Q]at u G;refine⟨E,Ea p ?_,λh=>?_⟩
   .simp only[Xg,Vu];refine Ea (v:=(E, !(sDp (d+1) s&&(decide (a+sNp s<=64)&&decide (e+sC s<=256))))) ?_ ?_
    .rw[Yx r,Yx z,ed];exact Ea (Qbw s k) (Ea u (Qa _))
    .cases(sDp (d+1) s&&(decide (a+sNp s<=64)&&decide (e+sC s<=256)))<;>exact Qa _
   .rw[G h];have X:fSs (stepParts s)=sNs s.Then+sNs s.Else:=by unfold stepParts;rw[Qfu,Qbh,Qbh]
    have T:fCs (stepParts s)=sCs s.Then+sCs s.Else:=by unfold stepParts;rw[Qfw,Qbi,Qbi]
    rw[X,T,show fS (Ui.ctyping_step {Step:=s})=sNp s from rfl,show fC (Ui.ctyping_step {Step:=s})=sC s from rfl,Qgj,Qgk];congr 1<;>omega
 |ctyping_cond x=>
  obtain⟨c⟩:=x;have k:Cond.wf c:=hw;obtain⟨af,W⟩:=Qak k;have M:IntKind.i64.wrap (e+1)=e+1:=Yd (by omega) (by omega);simp only[Ui.elim,M];have L:okF (Ui.ctyping_cond {Cond:=c}) d a e=(cD (d+1) c&&(decide (a<=64)&&decide (e+cN c<=256))):=by
   show(cD (d+1) c&&(decide (a+((0:Nat):Int)<=64)&&decide (e+cN c<=256)))=_;rw[show a+((0:Nat):Int)=a by omega]
  rw[L];by_cases r:64<a
  .have:(cD (d+1) c&&(decide (a<=64)&&decide (e+cN c<=256)))=false:=by
    rw[Yx (show¬a<=64 by omega)];simp
   rw[this];refine⟨{steps:=a,conds:=e+1},?_,λh=>by cases h⟩;refine Ea (v:=(_,true)) ?_ (Qa _);rw[Yc r];exact Qa _
  by_cases z:256<e+1
  .have:(cD (d+1) c&&(decide (a<=64)&&decide (e+cN c<=256)))=false:=by
    rw[Yx (show¬e+(cN c:Int)<=256 by rw[Qdj];omega)];simp
   rw[this];refine⟨{steps:=a,conds:=e+1},?_,λh=>by cases h⟩;refine Ea (v:=(_,true)) ?_ (Qa _);rw[Yx r,Yc z];exact Qa _
  obtain⟨E,u,G⟩:=Y (c.Parts.map ofCond) (d+1) a (e+1) (by
    rw[Qft];show _<cN c;rw[Qdj];omega) (by simp;omega) (by
    intro g j;obtain⟨y,F,rfl⟩:=Xe.1 j;exact W y F) (by omega) (by omega) (by omega) (.inl (by omega)) (by omega) (by omega)
  have Q:okL (c.Parts.map ofCond) (d+1) a (e+1)=(cD (d+1) c&&(decide (a<=64)&&decide (e+cN c<=256))):=by
   rw[X3,Qhk _ _ _ _ (by omega) (by omega), <- QiN,Qfv,Qfx];simp only[X0,Vv,QnW,Qdj];constructor
   .rintro⟨q,J,N⟩;exact⟨q,by omega,by omega⟩
   .rintro⟨q,J,N⟩;exact⟨q,by omega,by omega⟩
  rw[Q]at u G;refine⟨E,?_,λh=>?_⟩
  .refine Ea (v:=(E, !(cD (d+1) c&&(decide (a<=64)&&decide (e+cN c<=256))))) ?_ ?_
   .rw[Yx r,Yx z,ed];exact Ea (Qdd c k) (Ea u (Qa _))
   .cases(cD (d+1) c&&(decide (a<=64)&&decide (e+cN c<=256)))<;>exact Qa _
  .rw[G h,Qfv,Qfx,show fS (Ui.ctyping_cond {Cond:=c})=0 from rfl,show fC (Ui.ctyping_cond {Cond:=c})=cN c from rfl,Qdj];congr 1;omega
theorem QnD:∀(m:Nat) (l:List Ui) (d:Nat) (a b:Int),fZs l<=m->l.length<=2097152->(∀f∈l,fwf f)->d<=17->0<=a->a<=66->(a<=65\/ ∀f∈l,∃c,f=ofCond c)->0<=b->b<=256->Cnt F_c l d a b:=by
 intro m
 induction m using Nat.strongRecOn with
 |_ m G=>
 intro l d a b hm hl Y hd h0 h1 s h2 h3;unfold Cnt;have u:∀c:Ug,(∃e:Ug,Ev (λn=>B_c (F_c n) n l (d:Int) c) (e,okL l d a b)/\(okL l d a b=true->e={steps:=a+fSs l,conds:=b+fCs l}))->∃e:Ug,Ev (λn=>F_c n l (d:Int) c) (e,okL l d a b)/\(okL l d a b=true->e={steps:=a+fSs l,conds:=b+fCs l}):=by
  rintro c ⟨e,q1,q2⟩;exact⟨e,Je q1,q2⟩
 refine u _ ?_;unfold B_c;cases j:l with
 |nil=>
  refine⟨{steps:=a,conds:=b},?_,λ_=>by simp[fSs,fCs]⟩;refine Ea (v:=false) (Qa _) (Jy ?_);refine Ea (v:=Ctl.cont {steps:=a,conds:=b}) (EvI.ev (Ej ?_)) (Qa _);exact Qa _
 |cons f0 r0=>
 rw[<- j];have H:l.isEmpty=false:=by rw[j];rfl
 have M:0<l.length:=by rw[j];simp
 by_cases g:d<=16
 rotate_left
 .have:okL l d a b=false:=by unfold okL;rw[H,Yx g];rfl
  rw[this];refine⟨{steps:=a,conds:=b},?_,λh=>by cases h⟩;rw[Yc (show(0:Int)<(l.length:Int)by omega),Yc (show(16:Int)<(d:Int)by omega)];exact Ea (Qa _) (Qa _)
 have t:okL l d a b=okR l d a b:=by unfold okL okR;rw[Yc g,VE]
 rw[t];have loop:∀(r:List Ui) (i:Nat) (a b:Int),l.drop i=r->i<=l.length->0<=a->a<=66->(a<=65\/ ∀f∈l,∃c,f=ofCond c)->0<=b->b<=256->
   ∃e:Ug,EvI (λn=>F_ea n l (d:Int) (F_c n)) ({steps:=a,conds:=b},(i:Int)) (bif okR r d a b then Ctl.cont e else Ctl.done (e,false))/\(okR r d a b=true->e={steps:=a+fSs r,conds:=b+fCs r}):=by
  intro r
  induction r with
  |nil=>
   intro i a b F L _ _ _ _ _;refine⟨{steps:=a,conds:=b},Ej ?_,λ_=>by simp[fSs,fCs]⟩;unfold F_ea;simp only[Ym F L,Vu];exact Qa _
  |cons f r E=>
   intro i a b F L g0 W w V g3;obtain⟨q,z⟩:=QK (by omega) F;have aa:fZ f<=fZs l:=by
    have:∀(l:List Ui),f∈l->fZ f<=fZs l:=by
     intro l
     induction l with
     |nil=>intro h;cases h
     |cons x l G=>
      intro h;rw[QiL];rcases Va.1 h with rfl|h
      .omega
      .have:=G h;omega
    exact this l q.mem
   obtain⟨e,p,B⟩:=Qj6 (R:=F_c) g q (Y f q.mem) (λJ N a b k1 k2 P Q O k6 y k7 k8=>G (fZs J) (by omega) J N a b (XX _) k2 P Q O k6 y k7 k8) g0 W (w.imp id λh=>h f q.mem) V g3;rw[QmZ];cases k:okF f d a b with
   |false=>
    rw[k]at p;exact⟨e,Ej p,λh=>by cases h⟩
   |true=>
    rw[k]at p;obtain rfl:=B k;have hb:a+fS f<=64/\b+fC f<=256:=by
     unfold okF at k;simp only[X0,Vv]at k;exact k.2
    obtain⟨T,X,u2⟩:=E (i+1) (a+fS f) (b+fC f) z (by have:=q.lt';omega) (by omega) (by omega) (.inl (by omega)) (by omega) (by omega);refine⟨T,Ex p X,λh=>?_⟩;rw[u2 (by simpa using h),QiM,QiO];congr 1<;>omega
 obtain⟨e,p,B⟩:=loop l 0 a b rfl (XY _) h0 h1 s h2 h3;refine⟨e,?_,B⟩;refine Ea (v:=false) ?_ (Jy (Ea p.ev ?_))
 .rw[Yc (show(0:Int)<(l.length:Int)by omega),Yx (show¬(16:Int)<(d:Int)by omega)];exact Qa _
 .cases okR l d a b<;>exact Qa _
mutual
def vaC:Cond->Bool
 |⟨k,v,n,ps⟩=>bif k==1 then inR 1 3 v&&(inR 0 10000 n&&((ps.length:Int)==0))else
   bif k==4 then((v==0)&&(n==0))&&(((ps.length:Int)==1)&&vaCs ps)else
   bif (k==2)||(k==3)then((v==0)&&(n==0))&&((decide (0<(ps.length:Int))&&decide ((ps.length:Int)<=16))&&vaCs ps)else false
def vaCs:List Cond->Bool
 |[]=>true
 |c::r=>vaC c&&vaCs r
end
theorem QpL(c:Cond):vaC c=bif c.Kind==1 then inR 1 3 c.Var&&(inR 0 10000 c.N&&((c.Parts.length:Int)==0))else
   bif c.Kind==4 then((c.Var==0)&&(c.N==0))&&(((c.Parts.length:Int)==1)&&vaCs c.Parts)else
   bif (c.Kind==2)||(c.Kind==3)then((c.Var==0)&&(c.N==0))&&((decide (0<(c.Parts.length:Int))&&decide ((c.Parts.length:Int)<=16))&&vaCs c.Parts)else false:=by cases c;rfl
theorem Qkv:∀l:List Cond,vaCs l=l.all vaC
 |[]=>rfl
 |c::r=>by rw[vaCs,List.all_cons,Qkv r]
mutual
def vaS:Step->Bool
 |⟨k,b,c,t,e⟩=>bif k==1 then inR 1 5 b&&(zeroC c&&(((t.length:Int)==0)&&((e.length:Int)==0)))else
   bif k==2 then(b==0)&&(vaC c&&(decide (0<(t.length:Int))&&(vaSs t&&vaSs e)))else false
def vaSs:List Step->Bool
 |[]=>true
 |s::r=>vaS s&&vaSs r
end
theorem QpK(s:Step):vaS s=bif s.Kind==1 then inR 1 5 s.By&&(zeroC s.Cond&&(((s.Then.length:Int)==0)&&((s.Else.length:Int)==0)))else
   bif s.Kind==2 then(s.By==0)&&(vaC s.Cond&&(decide (0<(s.Then.length:Int))&&(vaSs s.Then&&vaSs s.Else)))else false:=by cases s;rfl
theorem Qku:∀l:List Step,vaSs l=l.all vaS
 |[]=>rfl
 |c::r=>by rw[vaSs,List.all_cons,Qku r]
def fV:Ui->Bool
 |.ctyping_step x=>vaS x.Step
 |.ctyping_cond x=>vaC x.Cond
theorem Qkb(l:List Cond):(l.map ofCond).any (λf=> !fV f)= !vaCs l:=by
 rw[Qkv,List.not_all_eq_any_not,List.any_map];rfl
theorem QcM(l:List Step):(l.map ofStep).any (λf=> !fV f)= !vaSs l:=by
 rw[Qku,List.not_all_eq_any_not,List.any_map];rfl
theorem QgG{R:Nat->List Ui->Option Bool}(c:Cond)(h:Cond.wf c)(i:Ev (λn=>R n (c.Parts.map ofCond)) (!vaCs c.Parts)):
  Ev (λn=>F_bq (R n) n {Cond:=c}) (vaC c):=by
 unfold F_bq;rw[QpL];refine Ea (v:=(c.Var==0)&&(c.N==0)) (Ei λ_=>Qa _) ?_;refine QbH (λ_=>?_) (λm=>?_)
 .exact Ea (Ea (QJ _ _ _) (Ei λ_=>Ea (QJ _ _ _) (Ei λ_=>Qa _))) (Qa _)
 .have fin:∀b:Bool,Ev (λn=>((bif b then(F_r n {Cond:=c}).bind λd=>(R n d).bind λg=>some (!g)else some false):Option Bool).bind λf=>some f) (b&&vaCs c.Parts):=by
   intro b;refine Ea ((Ei λ_=>Ea (Qdd c h) (Ea i (Qa _)))) ((Qa _).eq (by simp))
  cases l:(c.Kind==4)with
  |true=>
   simp only[Vt];cases j:((c.Var==0)&&(c.N==0))with
   |true=>
    refine Ea (v:=Ctl.cont ((c.Parts.length:Int)==1)) (Qa _) ((fin _).eq (by simp))
   |false=>
    refine Ea (v:=Ctl.cont false) (Qa _) ((fin _).eq (by simp))
  |false=>
   simp only[Vu];cases a:((c.Kind==2)||(c.Kind==3))with
   |true=>
    simp only[Vt];have e:Ev (λn:Nat=>((bif (c.Kind==2)then some (c.Kind==2)else some (c.Kind==3)):Option Bool)) true:=by
     refine EB ?_;rw[QnX,a]
    cases j:((c.Var==0)&&(c.N==0))with
    |true=>
     cases k:decide (0<(c.Parts.length:Int))with
     |true=>
      refine Ea (v:=Ctl.cont (decide ((c.Parts.length:Int)<=16))) (Ea e (Qa _)) ((fin _).eq (by simp))
     |false=>
      refine Ea (v:=Ctl.cont false) (Ea e (Qa _)) ((fin _).eq (by simp))
    |false=>
     refine Ea (v:=Ctl.cont false) (Ea e (Qa _)) ((fin _).eq (by simp))
   |false=>
    have e:Ev (λn:Nat=>((bif (c.Kind==2)then some (c.Kind==2)else some (c.Kind==3)):Option Bool)) false:=by
     refine EB ?_;rw[QnX,a]
    refine Ea (v:=Ctl.done false) (Ea e (Qa _)) (Qa _)
theorem QjY:∀(m:Nat) (l:List Ui),fZs l<=m->l.length<=2097152->(∀f∈l,fwf f)->Ev (λn=>F_g n l) (l.any λf=> !fV f):=by
 intro m
 induction m using Nat.strongRecOn with
 |_ m i=>
 intro l B E r;refine Je ?_;show Ev (λn=>B_g (F_g n) n l) _;unfold B_g F_em;refine Ev.contains l _ (λn f=>F_aw (F_g n) n f) (by omega) λf k=>?_;have z:fZ f<=fZs l:=by
  have:∀(l:List Ui),f∈l->fZ f<=fZs l:=by
   intro l
   induction l with
   |nil=>intro h;cases h
   |cons x l i=>
    intro h;rw[QiL];rcases Va.1 h with rfl|h
    .omega
    .have:=i h;omega
  exact this l k
 unfold F_aw;refine Ea (v:=fV f) ?_ (Qa _);have a:∀c:Cond,Cond.wf c->cNs c.Parts<fZ f->Ev (λn=>F_g n (c.Parts.map ofCond)) (!vaCs c.Parts):=by
  intro c j e;rw[<- Qkb];obtain⟨w1,w2⟩:=Qak j;refine i (fZs (c.Parts.map ofCond)) (by rw[Qft];omega) _ (XX _) (by simp;omega) ?_;intro g b;obtain⟨y,d,rfl⟩:=Xe.1 b;exact w2 y d
 cases f with
 |ctyping_cond x=>
  obtain⟨c⟩:=x;have j:Cond.wf c:=r _ k;exact QgG (R:=F_g) c j (a c j (by show cNs c.Parts<cN c;rw[Qdj];omega))
 |ctyping_step x=>
  obtain⟨s⟩:=x;have e:Step.wf s:=r _ k;obtain⟨t,⟨u,p⟩,⟨w,q⟩⟩:=Qaj e;unfold F_gn;show Ev _ (vaS s);rw[QpK];simp only[Ui.elim];refine QbH (λ_=>?_) (λG=>QbH (λ_=>?_) λ_=>Qa _)
  .refine Ea (Ea (QJ _ _ _) (Ei λ_=>?_)) (Qa _);simp only[QgJ,XN];refine Ei λ_=>Ea (Qbw s e) ((Qa _).eq ?_);unfold stepParts;rw[X3];simp only[VC,X0,X7,X6];omega
  .refine Ea (Ei λ_=>?_) (Qa _);refine Ea (QgG (R:=F_g) s.Cond t (a s.Cond t (by show _<sZ s;rw[Qia,Qdj];omega))) (Ei λ_=>Ei λ_=>?_);refine Ea (Qbw s e) (Ea (i (fZs (stepParts s)) ?_ _ (XX _) (by unfold stepParts;simp;omega) ?_) ((Qa _).eq ?_))
   .have:fZs (stepParts s)<sZ s:=by
     unfold stepParts;rw[Qfs,Qb1,Qb1,Qia];omega
    have F:fZ (Ui.ctyping_step {Step:=s})=sZ s:=rfl;omega
   .intro g b;unfold stepParts at b;rcases VH.1 b with b|b
    .obtain⟨y,d,rfl⟩:=Xe.1 b;exact p y d
    .obtain⟨y,d,rfl⟩:=Xe.1 b;exact q y d
   .unfold stepParts;rw[List.any_append,QcM,QcM];simp
def goodT(l:List Step):Bool:=sDs 0 l&&(decide (sNs l<=64)&&decide (sCs l<=256))
def tiesE(l:List Step):Int:=bif goodT l then(bif l.isEmpty|| !vaSs l then 71 else 0)else 2
theorem Qm0(l:List Step):okL (l.map ofStep) 0 0 0=goodT l:=by
 rw[X3,Qhk _ _ _ _ (by omega) (by omega), <- Qdc,Qbh,Qbi];unfold goodT;simp only[X0,Vv];constructor
 .rintro⟨a,b,c⟩;exact⟨a,by omega,by omega⟩
 .rintro⟨a,b,c⟩;exact⟨a,by omega,by omega⟩
theorem Qo5(l:List Step)(hl:l.length<=1048576)(d:∀x∈l,Step.wf x):Ev (λn=>F_ci n l) (tiesE l):=by
 unfold F_ci;refine Ea (Qfz l (by omega)) (Ea (v:=tiesE l) ?_ (Qa _));have a:∀f∈l.map ofStep,fwf f:=by
  intro g j;obtain⟨y,i,rfl⟩:=Xe.1 j;exact d y i
 obtain⟨h,b,m⟩:=QnD _ (l.map ofStep) 0 0 0 (XX _) (by simp;omega) a (by omega) (by omega) (by omega) (.inl (by omega)) (by omega) (by omega);rw[Qm0]at b;unfold F_fd;have k:Ev (λn=>F_fg n (l.map ofStep) 0 {steps:=0,conds:=0}) (h,goodT l):=b.shift;refine Ea k ?_;unfold tiesE;cases goodT l with
 |false=>exact Qa _
 |true=>
  simp only[Xg,Vu,Vt];have e:(((l.map ofStep).length:Int)==0)=l.isEmpty:=by
   cases l<;>simp;omega
  rw[e];refine Ea (Eu λ_=>Ea (QjY _ _ (XX _) (by simp;omega) a) (Qa _)) ?_;rw[QcM];cases(l.isEmpty|| !vaSs l)<;>exact Qa _
def condB(d:Nat):Int:=256*(18-(d:Int))+1000
theorem Qf8:∀(m:Nat) (c:Cond) (d:Nat),cN c<=m->d<=17->Cond.wf c->∃v:Int,Ev (λn=>F_j n c (d:Int)) v/\0<=v/\v<=condB d/\
  (d<=16/\cD (d+1) c=true/\cN c<=256->v=cN c)/\(¬(d<=16/\cD (d+1) c=true/\cN c<=256)->256<v):=by
 intro m
 induction m using Nat.strongRecOn with
 |_ m G=>
 intro c d hm hd W;obtain⟨R,F⟩:=Qak W;have s:∀{P:Int->Prop},(∃v:Int,Ev (λn=>B_j (F_j n) n c (d:Int)) v/\P v)->∃v:Int,Ev (λn=>F_j n c (d:Int)) v/\P v:=by
  rintro P ⟨v,g,b⟩;exact⟨v,Je g,b⟩
 refine s ?_;unfold B_j;by_cases j:d<=16
 .rw[Yx (show¬(16:Int)<(d:Int)by omega)];have V:IntKind.i64.wrap ((d:Int)+1)=((d+1:Nat):Int):=YA (by omega);have loop:∀(r:List Cond) (i:Nat) (a:Int),c.Parts.drop i=r->i<=c.Parts.length->0<=a->a<=condB d->
    ∃v:Int,EvI (λn=>F_ex n c (d:Int) (F_j n)) (a,(i:Int)) v/\0<=v/\v<=condB d/\
     (cDs (d+1) r=true/\a+cNs r<=256->v=a+cNs r)/\(¬(cDs (d+1) r=true/\a+cNs r<=256)->256<v):=by
   intro r
   induction r with
   |nil=>
    intro i a H M B g;refine⟨a,Ej ?_,B,g,λ_=>by simp[cNs],λh=>?_⟩
    .unfold F_ex;simp only[Ym H M,Vu,XN];exact Qa _
    .simp[cDs,cNs]at h;omega
   |cons x r E=>
    intro i a H M B g;obtain⟨f,z⟩:=QK (by omega) H;have hx:cN x<cN c:=by
     have:∀l:List Cond,x∈l->cN x<=cNs l:=by
      intro l
      induction l with
      |nil=>intro h;cases h
      |cons y l G=>
       intro h;rw[cNs];rcases Va.1 h with rfl|h
       .omega
       .have:=G h;omega
     have:=this _ f.mem;rw[Qdj c];omega
    by_cases e:a<=256
    .obtain⟨v,J,O,N,p,q⟩:=G (cN x) (by omega) x (d+1) (XX _) (by omega) (F x f.mem);have hB:condB (d+1)+256=condB d:=by unfold condB;omega
     have aa:condB d<=6000:=by unfold condB;omega
     have T:IntKind.i64.wrap (a+v)=a+v:=Yd (by omega) (by omega);obtain⟨w,X,q2,Y,Q,L⟩:=E (i+1) (a+v) z (by have:=f.lt';omega) (by omega) (by omega);refine⟨w,Ex ?_ X,q2,Y,?_,?_⟩
     .unfold F_ex;simp only[f.lt,Vt,Yc e,XN,f.ix,f.nx,V];refine Ea J ?_;rw[T];exact Qa _
     .rintro⟨b,u⟩;simp only[cDs,X0,Vv]at b;rw[cNs]at u⊢;have:=p ⟨b.1,b.2.1,by omega⟩;subst this;rw[Q ⟨b.2.2,by omega⟩];omega
     .intro t;by_cases k:d+1<=16/\cD (d+1+1) x=true/\cN x<=256
      .have:=p k;subst this;refine L λb=>t ⟨?_,?_⟩
       .simp only[cDs,X0,Vv];exact⟨k.1,k.2.1,b.1⟩
       .rw[cNs];omega
      .have:=q k;exact L λb=>by omega
    .refine⟨a,Ej ?_,B,g,λh=>?_,λ_=>by omega⟩
     .unfold F_ex;simp only[f.lt,Vt,Yx e,XN,Vu];exact Qa _
     .omega
  obtain⟨v,J,O,N,p,q⟩:=loop c.Parts 0 1 rfl (XY _) (by omega) (by unfold condB;omega);refine⟨v,Jy (Ea J.ev (Qa _)),O,N,?_,?_⟩
  .rintro⟨_,b,u⟩;rw[QnW]at b;rw[Qdj]at u⊢;rw[p ⟨b,by omega⟩];omega
  .intro t;refine q λh=>t ⟨j,by rw[QnW];exact h.1,by rw[Qdj];omega⟩
 .rw[Yc (show(16:Int)<(d:Int)by omega)];refine⟨1000,Qf0 (Qa _),by omega,by unfold condB;omega,λh=>absurd h.1 j,λ_=>by omega⟩
def sizeB:Nat->Int
 |0=>10000
 |k+1=>3*sizeB k
theorem QcU:∀k,10000<=sizeB k
 |0=>Int.le_refl _
 |k+1=>by have:=QcU k;simp only[sizeB];omega
theorem QmD{k:Nat}(h:k<=17):sizeB k<=1291401630000:=by
 have:∀j,j<=17->sizeB j<=1291401630000:=by decide+kernel
 exact this k h
def goodL(d:Nat)(l:List Step):Prop:=sDs d l=true/\sNs l<=64/\sCs l<=256
theorem Qo1:∀(m:Nat) (l:List Step) (d:Nat),sZs l<=m->d<=17->l.length<=1048576->(∀x∈l,Step.wf x)->∃a b:Int,Ev (λn=>F_p n l (d:Int)) (a,b)/\0<=a/\0<=b/\a<=sizeB (17-d)/\b<=sizeB (17-d)/\
  (goodL d l->a=sNs l/\b=sCs l)/\(¬goodL d l->64<a\/256<b):=by
 intro m
 induction m using Nat.strongRecOn with
 |_ m F=>
 intro l d hm hd hl hw;have H:∀{P:Int->Int->Prop},(∃a b:Int,Ev (λn=>B_p (F_p n) n l (d:Int)) (a,b)/\P a b)->∃a b:Int,Ev (λn=>F_p n l (d:Int)) (a,b)/\P a b:=by
  rintro P ⟨a,b,u,B⟩;exact⟨a,b,Je u,B⟩
 refine H ?_;unfold B_p;by_cases e:0<l.length/\ ¬d<=16
 .rw[Yc (show(0:Int)<(l.length:Int)by omega),Yc (show(16:Int)<(d:Int)by omega)];have:=QcU (17-d);refine⟨1000,1000,Ea (Qa _) (Qf0 (Qa _)),by omega,by omega,by omega,by omega,λh=>?_,λ_=>by omega⟩;exfalso;cases l with
  |nil=>simp at e
  |cons x r=>
   have:=h.1;simp only[sDs,X0,Vv]at this;exact e.2 this.1
 .have w:Ev (λn:Nat=>((bif decide (0<(l.length:Int))then some (decide (16<(d:Int)))else some false):Option Bool)) false:=by
   by_cases hp:0<l.length
   .have:d<=16:=by
     rcases VG 16 d with q|q
     .exact absurd ⟨hp,by omega⟩ e
     .exact q
    rw[Yc (show(0:Int)<(l.length:Int)by omega),Yx (show¬(16:Int)<(d:Int)by omega)];exact Qa _
   .rw[Yx (show¬(0:Int)<(l.length:Int)by omega)];exact Qa _
  have ed:IntKind.i64.wrap ((d:Int)+1)=((d+1:Nat):Int):=YA (by omega);have loop:∀(r:List Step) (i:Nat) (a b:Int),l.drop i=r->i<=l.length->0<=a->0<=b->a<=sizeB (17-d)->b<=sizeB (17-d)->
    ∃a' b':Int,EvI (λn=>F_gg n l (d:Int) (F_p n)) (a,b,(i:Int)) (a',b')/\0<=a'/\0<=b'/\a'<=sizeB (17-d)/\b'<=sizeB (17-d)/\
     (sDs d r=true/\a+sNs r<=64/\b+sCs r<=256->a'=a+sNs r/\b'=b+sCs r)/\(¬(sDs d r=true/\a+sNs r<=64/\b+sCs r<=256)->64<a'\/256<b'):=by
   intro r
   induction r with
   |nil=>
    intro i a b N hi w u B M;refine⟨a,b,Ej ?_,w,u,B,M,λ_=>by simp[sNs,sCs],λh=>?_⟩
    .unfold F_gg;simp only[Ym N hi,Vu,XN];exact Qa _
    .simp[sDs,sNs,sCs]at h;omega
   |cons s r T=>
    intro i a b N hi w u B M;obtain⟨j,ac⟩:=QK (by omega) N;have am:=j.lt';have t:d<=16:=by
     rcases VG 16 d with q|q
     .exact absurd ⟨by omega,by omega⟩ e
     .exact q
    have ak:sZ s<=sZs l:=by
     have:∀l:List Step,s∈l->sZ s<=sZs l:=by
      intro l
      induction l with
      |nil=>intro h;cases h
      |cons y l F=>
       intro h;rw[sZs];rcases Va.1 h with rfl|h
       .omega
       .have:=F h;omega
     exact this _ j.mem
    by_cases f:a<=64/\b<=256
    .obtain⟨wc,⟨Q,ae⟩,⟨X,ah⟩⟩:=Qaj (hw s j.mem);have al:=Qia s;obtain⟨p,g,O,p2,p3,p4,p5,E,p7⟩:=F (sZs s.Then) (by omega) s.Then (d+1) (XX _) (by omega) Q ae;obtain⟨y1,y2,q1,q2,q3,q4,q5,q6,q7⟩:=F (sZs s.Else) (by omega) s.Else (d+1) (XX _) (by omega) X ah;have hB:sizeB (17-d)=3*sizeB (17-(d+1)):=by
      rw[show 17-d=(17-(d+1))+1 by omega];rfl
     have af:=QcU (17-(d+1));have aj:=QmD (k:=17-d) (by omega);have hc:∃z:Int,0<=z/\z<=5608/\Ev (λn=>((bif (!zeroC s.Cond)then(idx l (i:Int)).bind λab=>(F_j n ab.Cond 0).bind λW=>some (IntKind.i64.wrap ((IntKind.i64.wrap ((IntKind.i64.wrap (b+g))+y2))+W))else some (IntKind.i64.wrap ((IntKind.i64.wrap (b+g))+y2))):Option Int)) (b+g+y2+z)/\
       ((zeroC s.Cond||cD 1 s.Cond)=true/\(bif zeroC s.Cond then 0 else cN s.Cond)<=256->z=((bif zeroC s.Cond then 0 else cN s.Cond:Nat):Int))/\(¬((zeroC s.Cond||cD 1 s.Cond)=true/\(bif zeroC s.Cond then 0 else cN s.Cond)<=256)->256<z):=by
      have e1:IntKind.i64.wrap (b+g)=b+g:=Yd (by omega) (by omega);have e2:IntKind.i64.wrap (b+g+y2)=b+g+y2:=Yd (by omega) (by omega);cases hz:zeroC s.Cond with
      |true=>
       refine⟨0,by omega,by omega,?_,λ_=>by simp,λh=>absurd ⟨rfl,by simp⟩ h⟩;simp only[Xg,Vu,e1,e2];exact(Qa _).eq (by omega)
      |false=>
       obtain⟨v,u1,u2,u3,u4,u5⟩:=Qf8 _ s.Cond 0 (XX _) (by omega) wc;have R:v<=5608:=by unfold condB at u3;omega
       have e3:IntKind.i64.wrap (b+g+y2+v)=b+g+y2+v:=Yd (by omega) (by omega);refine⟨v,u2,R,?_,λh=>?_,λh=>?_⟩
       .simp only[Xh,Vt,j.ix,XN,e1,e2];refine Ea u1 ?_;rw[e3];exact Qa _
       .simp only[Bool.false_or,Vu]at h⊢;exact u4 ⟨by omega,h.1,h.2⟩
       .simp only[Bool.false_or,Vu]at h;exact u5 λq=>h ⟨q.2.1,q.2.2⟩
     obtain⟨z,z0,z1,z2,z3,z4⟩:=hc;have e4:IntKind.i64.wrap (a+1)=a+1:=Yd (by omega) (by omega);have e5:IntKind.i64.wrap (a+1+p)=a+1+p:=Yd (by omega) (by omega);have e6:IntKind.i64.wrap (a+1+p+y1)=a+1+p+y1:=Yd (by omega) (by omega);obtain⟨w1,w2,v1,v2,v3,v4,v5,v6,G⟩:=T (i+1) (a+1+p+y1) (b+g+y2+z) ac (by omega) (by omega) (by omega) (by omega) (by omega);refine⟨w1,w2,Ex ?_ v1,v2,v3,v4,v5,?_,?_⟩
     .unfold F_gg;simp only[j.lt,Vt,Yc f.1,Yc f.2,XN,j.ix,j.nx,ed,QjV];refine Ea O (Ea q1 ?_);simp only[j.ix,XN]at z2;refine Ea z2 ?_;rw[e4,e5,e6];exact Qa _
     .rintro⟨g1,g2,g3⟩;simp only[sDs,X0,Vv,QkD]at g1;obtain⟨ai,⟨aa,ag,L⟩,V⟩:=g1;rw[sNs,Qgj]at g2⊢;rw[sCs,Qgk]at g3⊢;obtain⟨k1,k2⟩:=E ⟨ag,by omega,by omega⟩;obtain⟨k3,k4⟩:=q6 ⟨L,by omega,by omega⟩;have k5:=z3 ⟨aa,by omega⟩;obtain⟨k6,k7⟩:=v6 ⟨V,by omega,by omega⟩;constructor<;>omega
     .intro hn;by_cases J:goodL (d+1) s.Then
      .obtain⟨k1,k2⟩:=E J;by_cases b2:goodL (d+1) s.Else
       .obtain⟨k3,k4⟩:=q6 b2;by_cases Y:(zeroC s.Cond||cD 1 s.Cond)=true/\(bif zeroC s.Cond then 0 else cN s.Cond)<=256
        .have k5:=z3 Y;refine G λq=>hn ⟨?_,?_,?_⟩
         .simp only[sDs,X0,Vv,QkD];exact⟨t,⟨Y.1,J.1,b2.1⟩,q.1⟩
         .rw[sNs,Qgj];omega
         .rw[sCs,Qgk];omega
        .have:=z4 Y;exact G λq=>by omega
       .have:=q7 b2;exact G λq=>by omega
      .have:=p7 J;exact G λq=>by omega
    .refine⟨a,b,Ej ?_,w,u,B,M,λh=>?_,λ_=>?_⟩
     .unfold F_gg;have:Ev (λn:Nat=>((bif decide ((i:Int)<(l.length:Int))then(bif decide (a<=64)then some (decide (b<=256))else some false)else some false):Option Bool)) false:=by
       rw[j.lt];by_cases q:a<=64
       .rw[Yc q,Yx (show¬b<=256 from λz=>f ⟨q,z⟩)];exact Qa _
       .rw[Yx q];exact Qa _
      exact Ea this (Jy (Qa _))
     .omega
     .omega
  have af:=QcU (17-d);obtain⟨a,b,O,p2,p3,p4,p5,E,p7⟩:=loop l 0 0 0 rfl (XY _) (by omega) (by omega) (by omega) (by omega);refine⟨a,b,Ea w (Jy (Ea O.ev (Qa _))),p2,p3,p4,p5,λh=>?_,λh=>?_⟩
  .obtain⟨k1,k2⟩:=E ⟨h.1,by have:=h.2.1;omega,by have:=h.2.2;omega⟩;constructor<;>omega
  .exact p7 λq=>h ⟨q.1,by omega,by omega⟩
mutual
def hP:Part->Nat
 |⟨_,_,ps⟩=>bif ps.isEmpty then 0 else 1+hPs ps
def hPs:List Part->Nat
 |[]=>0
 |p::r=>max (hP p) (hPs r)
end
theorem Qpx(p:Part):hP p=bif p.Parts.isEmpty then 0 else 1+hPs p.Parts:=by cases p;rfl
theorem QkS{p:Part}:∀{l:List Part},p∈l->hP p<=hPs l
 |q::r,h=>by
  simp only[hPs];rcases Va.1 h with rfl|h
  .omega
  .have:=QkS h;omega
theorem Qir{α:Type}(l:List α):((l.length:Int)==0)=l.isEmpty:=by
 cases l<;>simp;omega
theorem Qa9:∀l:List Part,l.length<=szPs l
 |[]=>XX _
 |p::r=>by have:=Qa9 r;rw[szPs,Jo,X5];omega
theorem QiS:∀(m:Nat) (l:List Part) (k:Nat),szPs l<=m->k<=17->l.length<=1048576->(∀x∈l,Part.wf x)->Ev (λn=>F_n n l (k:Int)) ((min (hPs l) k:Nat):Int):=by
 intro m
 induction m using Nat.strongRecOn with
 |_ m t=>
 intro l k z B E h;refine Je ?_;show Ev (λn=>B_n (F_n n) n l (k:Int)) _;unfold B_n;have loop:∀(r:List Part) (i:Nat) (a:Nat),l.drop i=r->i<=l.length->a<=k->EvI (λn=>F_cp n l (k:Int) (F_n n)) ((a:Int),(i:Int)) ((max a (min (hPs r) k):Nat):Int):=by
  intro r
  induction r with
  |nil=>
   intro i a f g b;refine Ej ?_;unfold F_cp;simp only[Ym f g,Vu,XN];refine(Qa _).eq ?_;simp[hPs]
  |cons p r e=>
   intro i a f g q;obtain⟨b,d⟩:=QK (by omega) f;obtain⟨w1,w2⟩:=Y2 (h p b.mem);by_cases u:0<k
   .have y:IntKind.i64.wrap ((k:Int)-1)=((k-1:Nat):Int):=by rw[Yd (by omega) (by omega)];omega
    have j:=Qal b.mem;rw[Jo]at j;have step:Ev (λn=>F_cp n l (k:Int) (F_n n) ((a:Int),(i:Int))) (.cont (((max a (min (hP p) k):Nat):Int),((i+1:Nat):Int))):=by
     unfold F_cp;simp only[b.lt,Vt,Yc (show(0:Int)<(k:Int)by omega),XN,b.ix,b.nx,y,bne,Qir];rw[Qpx];cases F:p.Parts.isEmpty with
     |true=>
      simp only[Xg,Vu,XN,Vt,Nat.zero_min,Nat.max_zero];exact Qa _
     |false=>
      simp only[Xh,Vt,Vu];refine Ea (Ea (t (szPs p.Parts) (by omega) p.Parts (k-1) (XX _) (by omega) w1 w2) (Qa _)) ((Qa _).eq ?_);have s:IntKind.i64.wrap (1+((min (hPs p.Parts) (k-1):Nat):Int))=((1+min (hPs p.Parts) (k-1):Nat):Int):=by rw[Yd (by omega) (by omega)];omega
      rw[s];congr 2;split<;>omega
    refine(Ex step (e (i+1) _ d (by have:=b.lt';omega) (by omega))).eq ?_;rw[hPs];omega
   .have:k=0:=by omega
    subst this;refine Ej ?_;unfold F_cp;simp only[b.lt,Vt,Yx (show¬(0:Int)<((0:Nat):Int)by omega),XN,Vu];have w:max a (min (hPs (p::r)) 0)=a:=by omega
    rw[w];exact Qa _
 refine Ea ((loop l 0 0 rfl (XY _) (XY _)).ev) ((Qa _).eq ?_);omega
theorem QiT:∀(m:Nat) (l:List Part),szPs l<=m->l.length<=1048576->(∀x∈l,Part.wf x)->Ev (λn=>F_t n l) ((min (szPs l) 257:Nat):Int):=by
 intro m
 induction m using Nat.strongRecOn with
 |_ m z=>
 intro l B t s;refine Je ?_;show Ev (λn=>B_t (F_t n) n l) _;unfold B_t;have loop:∀(r:List Part) (i:Nat) (a:Nat),l.drop i=r->i<=l.length->a<=1048576->∃b:Nat,EvI (λn=>F_ek n l (F_t n)) ((a:Int),(i:Int)) (b:Int)/\min b 257=min (a+(szPs r-r.length)) 257:=by
  intro r
  induction r with
  |nil=>
   intro i a g q _;refine⟨a,Ej ?_,by simp[szPs]⟩;unfold F_ek;simp only[Ym g q,Vu,XN];exact Qa _
  |cons p r f=>
   intro i a g q w;obtain⟨d,e⟩:=QK (by omega) g;obtain⟨w1,w2⟩:=Y2 (s p d.mem);have u:=Qal d.mem;rw[Jo]at u;have y:=Qa9 r;by_cases k:a<=256
   .obtain⟨b,h,j⟩:=f (i+1) (a+min (szPs p.Parts) 257) e (by have:=d.lt';omega) (by omega);refine⟨b,Ex ?_ h,?_⟩
    .unfold F_ek;simp only[d.lt,Vt,Yc (show(a:Int)<=256 by omega),XN,d.ix,d.nx];refine Ea (z (szPs p.Parts) (by omega) p.Parts (XX _) w1 w2) ((Qa _).eq ?_);rw[Yd (by omega) (by omega)];congr 2
     all_goals omega
    .rw[j,szPs,Jo,X5];omega
   .refine⟨a,Ej ?_,by omega⟩;unfold F_ek;simp only[d.lt,Vt,Yx (show¬(a:Int)<=256 by omega),XN,Vu];exact Qa _
 obtain⟨b,h,j⟩:=loop l 0 l.length rfl (XY _) t;refine Ea h.ev ((Qa _).eq ?_);have:=Qa9 l;split<;>omega
theorem QnC:∀(m:Nat) (l:List Part) (k:Nat),szPs l<=m->hPs l<=k->k<=17->szPs l<=256->(∀x∈l,Part.wf x)->Ev (λn=>F_o n l (k:Int)) ((hPs l:Int),(szPs l:Int)):=by
 intro m
 induction m using Nat.strongRecOn with
 |_ m N=>
 intro l k O P s e F;have t:=Qa9 l;refine Je ?_;show Ev (λn=>B_o (F_o n) n l (k:Int)) _;unfold B_o;have loop:∀(r:List Part) (i:Nat) (a b:Nat),l.drop i=r->i<=l.length->a<=17->b+(szPs r-r.length)<=256->EvI (λn=>F_ei n l (k:Int) (F_o n)) ((a:Int),(b:Int),(i:Int)) (((max a (hPs r):Nat):Int),((b+(szPs r-r.length):Nat):Int)):=by
  intro r
  induction r with
  |nil=>
   intro i a b q u _ _;refine Ej ?_;unfold F_ei;simp only[Ym q u,Vu,XN];refine(Qa _).eq ?_;simp[hPs,szPs]
  |cons p r j=>
   intro i a b q u y f;obtain⟨d,h⟩:=QK (by omega) q;obtain⟨w1,w2⟩:=Y2 (F p d.mem);have E:=Qal d.mem;have g:=QkS d.mem;rw[Jo]at E;have J:=Qa9 r;rw[szPs,Jo,X5]at f;have step:Ev (λn=>F_ei n l (k:Int) (F_o n) ((a:Int),(b:Int),(i:Int))) (.cont (((max a (hP p):Nat):Int),((b+szPs p.Parts:Nat):Int),((i+1:Nat):Int))):=by
    unfold F_ei;simp only[d.lt,Vt,d.ix,XN,d.nx,Qir];rw[Qpx]at g⊢;cases w:p.Parts.isEmpty with
    |true=>
     have G:p.Parts=[]:=by simpa using w
     simp only[Vt,XN];rw[G];simp only[szPs,Xz,Nat.max_zero];exact Qa _
    |false=>
     rw[w]at g;simp only[Vu]at g⊢;have L:0<k:=by omega
     have z:IntKind.i64.wrap ((k:Int)-1)=((k-1:Nat):Int):=by rw[Yd (by omega) (by omega)];omega
     have M:((k:Int)==0)=false:=beq_false_of_ne (by omega);rw[M,Yx (show¬(256:Int)<(b:Int)by omega),z];simp only[Vu,XN];refine Ea (Ea (N (szPs p.Parts) (by omega) p.Parts (k-1) (XX _) (by omega) (by omega) (by omega) w2) (Qa _)) ((Qa _).eq ?_);have H:IntKind.i64.wrap ((hPs p.Parts:Int)+1)=((hPs p.Parts+1:Nat):Int):=YA (by omega);have B:IntKind.i64.wrap ((b:Int)+(szPs p.Parts:Int))=((b+szPs p.Parts:Nat):Int):=by rw[Yd (by omega) (by omega)];omega
     simp only[H,B];congr 2;split<;>omega
   refine(Ex step (j (i+1) _ _ h (by have:=d.lt';omega) (by omega) (by omega))).eq ?_;rw[hPs,szPs,Jo,X5];congr 1<;>omega
 refine Ea ((loop l 0 0 l.length rfl (XY _) (by omega) (by omega)).ev) ((Qa _).eq ?_);congr 1<;>omega
def repS:Nat->List Int->List Int->List Int
 |0,out,_=>out
 |k+1,out,lap=>if 256<out.length then out else repS k (out++lap) lap
mutual
def lapS:Part->List Int
 |⟨m,laps,ps⟩=>bif decide (0<laps)then expS [] ps else[m]
def expS:List Int->List Part->List Int
 |out,[]=>out
 |out,p::r=>expS (repS (p.Laps.toNat+(bif decide (0<p.Laps)then 0 else 1)) out (lapS p)) r
end
theorem Qbt(p:Part):lapS p=bif decide (0<p.Laps)then expS [] p.Parts else[p.Mat]:=by cases p;rfl
theorem QeZ{k:Nat}{a b:List Int}(h:256<a.length):repS k a b=a:=by
 cases k with
 |zero=>rfl
 |succ k=>rw[repS,Vx h]
theorem Qfy:∀(l:List Part) {out:List Int},256<out.length->expS out l=out
 |[],out,h=>by rw[expS]
 |p::r,out,h=>by rw[expS,QeZ h];exact Qfy r h
theorem QeY:∀(k:Nat) (out lap:List Int),(repS k out lap).length<=max out.length (256+lap.length)
 |0,out,lap=>by rw[repS];omega
 |k+1,out,lap=>by
  rw[repS];split
  .omega
  .have:=QeY k (out++lap) lap;rw[X7]at this;omega
theorem QiP:∀(m:Nat) (l:List Part) (a:List Int),szPs l<=m->(expS a l).length<=max a.length (256+257*szPs l):=by
 intro m
 induction m using Nat.strongRecOn with
 |_ m j=>
 intro l;have b:∀p∈l,szPs l<=m->(lapS p).length<=257*szP p:=by
  intro p d g;have s:=Qal d;rw[Qbt,Jo]at*;cases decide (0<p.Laps)with
  |true=>
   have:=j (szPs p.Parts) (by omega) p.Parts [] (XX _);simp only[Vt,List.length_nil]at this⊢;omega
  |false=>simp;omega
 have f:∀(r:List Part) (a:List Int),(∀p∈r,(lapS p).length<=257*szP p)->(expS a r).length<=max a.length (256+257*szPs r):=by
  intro r
  induction r with
  |nil=>intro a _;rw[expS];omega
  |cons p r e=>
   intro a h;rw[expS,szPs];have n:=e (repS (p.Laps.toNat+(bif decide (0<p.Laps)then 0 else 1)) a (lapS p)) λq i=>h q (by simp[i]);have k:=QeY (p.Laps.toNat+(bif decide (0<p.Laps)then 0 else 1)) a (lapS p);have t:=h p (by simp);omega
 intro a g;exact f l a λp d=>b p d g
theorem Qna(p:Part):(lapS p).length<=257*szP p:=by
 rw[Qbt,Jo];cases decide (0<p.Laps)with
 |true=>
  have:=QiP _ p.Parts [] (XX _);simp only[Vt,List.length_nil]at this⊢;omega
 |false=>simp;omega
theorem QlJ(W:Int):∀(m:Nat) (l:List Part),szPs l<=m->szPs l<=256->l.length<=1048576->(∀x∈l,Part.wf x)->partsS W l=true->Ev (λn=>F_q n l) (expS [] l):=by
 intro m
 induction m using Nat.strongRecOn with
 |_ m ih=>
 intro l hm G hl X O;rw[QaI,Xu]at O;refine Je ?_;show Ev (λn=>B_q (F_q n) n l) _;unfold B_q;have inner:∀(p:Part) (e:List Int) (g:p.Laps=0\/0<p.Laps/\p.Laps<=64) (y:e.length<=100000) (j:Nat) (k:Nat) (a:List Int),j+k=p.Laps.toNat+(bif decide (0<p.Laps)then 0 else 1)->a.length<=200000->
   ∃d:Ctl (List Int) (Ctl ((List Int)×Int) (Ctl (List Int) (List Int))),EvI (λn=>F_fl n p e) (a,(j:Int)) d/\
    (d=.cont (repS k a e)\/(256<(repS k a e).length/\d=.done (.done (.done (repS k a e))))):=by
  intro p e g y j k
  induction k generalizing j with
  |zero=>
   intro a f _;refine⟨_,Ej (b:=.cont a) ?_,.inl rfl⟩;unfold F_fl;have:¬((j:Int)<if p.Laps<1 then 1 else p.Laps):=by
    rcases g with h|⟨h,P⟩
    .rw[h]at f⊢;simp at f⊢;omega
    .rw[Yc h]at f;simp at f;rw[Vw (by omega)];omega
   rw[Yx this];exact Qa _
  |succ k H=>
   intro a f B;have s:((j:Int)<if p.Laps<1 then 1 else p.Laps):=by
    rcases g with h|⟨h,P⟩
    .rw[h]at f⊢;simp at f⊢;omega
    .rw[Yc h]at f;simp at f;rw[Vw (by omega)];omega
   have T:j<=64:=by
    rcases g with h|⟨h,P⟩
    .rw[h]at f;simp at f;omega
    .rw[Yc h]at f;simp at f;omega
   by_cases u:256<a.length
   .refine⟨_,Ej (b:=.done (.done (.done a))) ?_,.inr ⟨by rw[QeZ u];exact u,by rw[QeZ u]⟩⟩;unfold F_fl;rw[Yc s,Yc (show(256:Int)<(a.length:Int)by omega)];exact Qa _
   .obtain⟨d,w,F⟩:=H (j+1) (a++e) (by omega) (by rw[X7];omega);refine⟨d,Ex ?_ w,by rw[repS,Vw u];exact F⟩;unfold F_fl;rw[Yc s,Yx (show¬(256:Int)<(a.length:Int)by omega)];refine Qf0 (Jy (QaU (Qi6 a e (by omega)) ?_));rw[YA (by omega)];exact Qa _
 have loop:∀(r:List Part) (i:Nat) (a:List Int),l.drop i=r->i<=l.length->a.length<=100000->
   ∃d:Ctl (List Int) (List Int),EvI (λn=>F_dx n l (F_q n)) (a,(i:Int)) d/\(d=.cont (expS a r)\/d=.done (expS a r)):=by
  intro r
  induction r with
  |nil=>
   intro i a N Q _;refine⟨.cont a,Ej ?_,.inl (by rw[expS])⟩;unfold F_dx;simp only[Ym N Q,Vu];exact Qa _
  |cons p r L=>
   intro i a N Q B;obtain⟨q,J⟩:=QK (by omega) N;have s:=q.lt';have V:=Qal q.mem;obtain⟨w1,w2⟩:=Y2 (X p q.mem);have g:=O p q.mem;rw[Qc0]at g;have t:p.Laps=0\/0<p.Laps/\p.Laps<=64:=by
    cases R:(p.Laps==0)with
    |true=>exact .inl (by simpa using R)
    |false=>
     rw[R]at g;simp only[Vu,inR,X0,Vv]at g;exact .inr ⟨by omega,by omega⟩
   have aa:=Qna p;have u:Ev (λn=>((bif decide (0<p.Laps)then(F_q n p.Parts).bind λM=>some M else some [p.Mat]):Option (List Int))) (lapS p):=by
    rw[Qbt];refine QbH (λh=>?_) (λ_=>Qa _);rw[Jo]at V;refine Ea (ih (szPs p.Parts) (by omega) p.Parts (XX _) (by omega) w1 w2 ?_) (Qa _);have:(p.Laps==0)=false:=by
     simp only[Vv]at h;exact beq_false_of_ne (by omega)
    rw[this]at g;simp only[Vu,X0]at g;exact g.2.2.2
   obtain⟨d,w,F⟩:=inner p (lapS p) t (by omega) 0 _ a (Xy _) (by omega);rw[expS];rcases F with rfl|⟨E,rfl⟩
   .obtain⟨z,Y,q2⟩:=L (i+1) (repS (p.Laps.toNat+(bif decide (0<p.Laps)then 0 else 1)) a (lapS p)) J (by omega) (by
     have:=QeY (p.Laps.toNat+(bif decide (0<p.Laps)then 0 else 1)) a (lapS p);omega)
    refine⟨z,Ex ?_ Y,q2⟩;unfold F_dx;simp only[q.lt,Vt,q.ix,XN,q.nx];exact Ea u (Ea w.ev (Qa _))
   .refine⟨.done (repS (p.Laps.toNat+(bif decide (0<p.Laps)then 0 else 1)) a (lapS p)),Ej ?_,.inr (by rw[Qfy r E])⟩;unfold F_dx;simp only[q.lt,Vt,q.ix,XN,q.nx];exact Ea u (Ea w.ev (Qa _))
 obtain⟨d,w,F⟩:=loop l 0 [] rfl (XY _) (by simp);rcases F with rfl|rfl
 .exact Ea w.ev (Qa _)
 .exact Ea w.ev (Qa _)
def kindAt(c:Course)(m:Int):Int:=((c.Mats[m.toNat]?).map (·.Kind)).getD 0
def hasLeg(c:Course)(a b:Int):Bool:=c.Legs.any λl=>(l.From==a)&&(l.To==b)
def rokS(c:Course)(len:Nat):Nat->Int->List Int->Bool
 |_,_,[]=>true
 |i,prev,m::r=>((kindAt c m==1)==decide (i=0))&&(((kindAt c m==3)==decide (i+1=len))&&((decide (i=0)||hasLeg c prev m)&&rokS c len (i+1) m r))
def routeR(c:Course)(d:Distance)(r:List Int):Bool:=
 (decide (2<=r.length)&&decide (r.length<=256))&&(rokS c r.length 0 0 r&&((bif decide (0<=d.Extra)then !((r.count d.Extra:Int)==0)&&((kindAt c d.Extra==2)&&hasLeg c d.Extra d.Extra)else true)&&d.Cutoffs.all λx=>decide (x.Lap<=(r.count x.Mat:Int))))
def routeS(c:Course)(d:Distance):Bool:=routeR c d (expS [] d.Route)
def cntM(l:List Int):List (Int×Int):=l.foldl (λm k=>QG m k (Qx m k 0+1)) []
theorem QlQ(l:List Int)(k:Int):cntM (l++[k])=QG (cntM l) k (Qx (cntM l) k 0+1):=by unfold cntM;rw[XG];rfl
theorem QfH(l:List Int)(k:Int):Qx (cntM l) k 0=(l.count k:Int):=by
 have a:∀(l:List Int) (m:List (Int×Int)),Qx (l.foldl (λm k=>QG m k (Qx m k 0+1)) m) k 0=Qx m k 0+(l.count k:Int):=by
  intro l
  induction l with
  |nil=>intro m;simp
  |cons x l b=>
   intro m;rw[XH,b,Qe7,List.count_cons];by_cases h:k=x
   .subst h;simp;omega
   .have:(x==k)=false:=beq_false_of_ne λe=>h e.symm;simp[h,this]
 have:=a l [];simpa[cntM,Qlu]using this
theorem QjH(b:Int):∀(m:Nat) (l:List Part) (a:List Int),szPs l<=m->partsS b l=true->(∀x∈a,0<=x/\x<=b)->∀x∈expS a l,0<=x/\x<=b:=by
 intro m
 induction m using Nat.strongRecOn with
 |_ m y=>
 intro l;have u:∀(k:Nat) (a d:List Int),(∀x∈a,0<=x/\x<=b)->(∀x∈d,0<=x/\x<=b)->∀x∈repS k a d,0<=x/\x<=b:=by
  intro k
  induction k with
  |zero=>intro a d i _;rw[repS];exact i
  |succ k s=>
   intro a d i w;rw[repS];split
   .exact i
   .refine s _ _ ?_ w;intro x g;rcases VH.1 g with h|h
    .exact i x h
    .exact w x h
 have t:∀(r:List Part) (a:List Int),szPs r<=m->partsS b r=true->(∀x∈a,0<=x/\x<=b)->∀x∈expS a r,0<=x/\x<=b:=by
  intro r
  induction r with
  |nil=>intro a _ _ h;rw[expS];exact h
  |cons p r q=>
   intro a j f h;rw[szPs,Jo]at j;rw[partsS,X0]at f;obtain⟨e,z⟩:=f;rw[expS];refine q _ (by omega) z (u _ _ _ h ?_);rw[Qbt];rw[Qc0]at e;cases n:(p.Laps==0)with
   |true=>
    have B:p.Laps=0:=by simpa using n
    rw[n,Vt,X0]at e;have:=e.1;unfold inR at this;simp only[X0,Vv]at this;rw[B];intro x g;simp at g;subst g;exact this
   |false=>
    rw[n]at e;simp only[Vu,X0,inR,Vv]at e;rw[Yc (show 0<p.Laps by omega),Vt];exact y (szPs p.Parts) (by omega) p.Parts [] (XX _) e.2.2.2 (by simp)
 exact λa j f h=>t l a j f h
theorem QkL{c:Course}{m:Int}(h0:0<=m)(b:m<=(c.Mats.length:Int)-1):∃x:Mat,idx c.Mats m=some x/\x.Kind=kindAt c m:=by
 obtain⟨k,rfl⟩:∃k:Nat,m=(k:Int):=⟨m.toNat,by omega⟩;have a:k<c.Mats.length:=by omega
 refine⟨c.Mats[k],YW (XO a),?_⟩;unfold kindAt;rw[Int.toNat_natCast,XO a];rfl
theorem Qis(c:Course)(a b:Int):Qx (Yj legKey true c.Legs) {from_:=a,to_:=b} false=hasLeg c a b:=by
 rw[QbW];unfold hasLeg;by_cases h:({from_:=a,to_:=b}:Uh)∈c.Legs.map legKey
 .rw[Vx h];obtain⟨l,d,e⟩:=Xe.1 h;unfold legKey at e;obtain⟨g,f⟩:=ends_eq.1 e;exact(Xv.2 ⟨l,d,by simp[g,f]⟩).symm
 .rw[Vw h]
  symm
  rw[VQ];intro q;obtain⟨l,d,e⟩:=Xv.1 q;simp only[X0,VC]at e;exact h (Xe.2 ⟨l,d,by unfold legKey;rw[e.1,e.2]⟩)
structure NumOk (c:Course):Prop where
 kinds:∀m∈c.Mats,1<=m.Kind/\m.Kind<=3
 dist:∀d∈c.Distances,-1<=d.Extra/\d.Extra<=(c.Mats.length:Int)-1/\partsS ((c.Mats.length:Int)-1) d.Route=true
theorem Qoc{c:Course}(h:numbersS c=true):NumOk c:=by
 unfold numbersS at h;simp only[X0,Xu]at h;refine⟨λm f=>?_,λd e=>?_⟩
 .have:=h.1 m f;unfold inR at this;simpa using this
 .have:=h.2.2.2.1 d e;unfold distS at this;simp only[X0]at this;obtain⟨_,a,b,_⟩:=this;unfold inR at a;simp only[X0,Vv]at a;exact⟨a.1,a.2,b⟩
theorem Qqt{c:Course}(q:NumOk c){d:Distance}(hd:d∈c.Distances):∀x∈expS [] d.Route,0<=x/\x<=(c.Mats.length:Int)-1:=
 QjH _ _ d.Route [] (XX _) (q.dist d hd).2.2 (by simp)
theorem QmG(c:Course)(len i:Nat)(prev m:Int)(r:List Int):rokS c len i prev (m::r)=(((kindAt c m==1)==decide (i=0))&&(((kindAt c m==3)==decide (i+1=len))&&((decide (i=0)||hasLeg c prev m)&&rokS c len (i+1) m r))):=rfl
theorem QoG(i:Nat):((i:Int)==0)=decide (i=0):=by
 rw[X3];simp
theorem Qf7(c:Course)(r:List Int)(P:2<=r.length)(R:r.length<=256)(E:∀x∈r,0<=x/\x<=(c.Mats.length:Int)-1):
  Ev (λn=>iter (F_bw n c (Yj legKey true c.Legs) r) n ([],0)) (bif rokS c r.length 0 0 r then .cont (cntM r)else .done false):=by
 have loop:∀(t:List Int) (i:Nat) (b:Int),r.drop i=t->i<=r.length->(0<i->At r (i-1) b)->EvI (λn=>F_bw n c (Yj legKey true c.Legs) r) (cntM (r.take i),(i:Int)) (bif rokS c r.length i b t then .cont (cntM r)else .done false):=by
  intro t
  induction t with
  |nil=>
   intro i b f s _;refine Ej ?_;unfold F_bw;simp only[Ym f s,Vu,rokS,Vt];have:r.length<=i:=by simpa using f
   rw[VM this];exact Qa _
  |cons m t O=>
   intro i b f s H;obtain⟨d,g⟩:=QK (by omega) f;have y:=d.lt';obtain⟨L,G⟩:=E m d.mem;obtain⟨x,z,N⟩:=QkL L G;have J:IntKind.i64.wrap ((r.length:Int)-1)=((r.length-1:Nat):Int):=by rw[Yd (by omega) (by omega)];omega
   have F:((i:Int)==((r.length-1:Nat):Int))=decide (i+1=r.length):=by rw[X3];simp;omega
   have Q:Ev (λn:Nat=>((bif ((x.Kind==1) != ((i:Int)==0))then some true else(bif ((x.Kind==3) != ((i:Int)==(IntKind.i64.wrap ((r.length:Int)-1))))then some true else(bif decide (0<(i:Int))then(idx r (IntKind.i64.wrap ((i:Int)-1))).bind λp=>(some (Qx (Yj legKey true c.Legs) ({from_:=p,to_:=m:Uh}) false)).bind λj=>some (!j)else some false))):Option Bool))
     (!(((kindAt c m==1)==decide (i=0))&&(((kindAt c m==3)==decide (i+1=r.length))&&(decide (i=0)||hasLeg c b m)))):=by
    rw[N,J,F,QoG];refine Ew (Eu λ_=>Eu λ_=>QbH (v:= !hasLeg c b m) (w:=false) (λh=>?_) λ_=>Qa _) ?_
    .have k:0<i:=by simpa using h
     have B:IntKind.i64.wrap ((i:Int)-1)=((i-1:Nat):Int):=by rw[Yd (by omega) (by omega)];omega
     rw[B,(H k).ix];simp only[XN,Qis];exact Qa _
    .have M:decide (0<(i:Int))= !decide (i=0):=by rw[X3];simp;omega
     rw[M];cases(kindAt c m==1)<;>cases decide (i=0)<;>cases(kindAt c m==3)<;>cases decide (i+1=r.length)<;>cases hasLeg c b m<;>rfl
   have e:IntKind.i64.wrap (Qx (cntM (r.take i)) m 0+1)=Qx (cntM (r.take i)) m 0+1:=by
    rw[QfH];have:(r.take i).count m<=i:=by have:=List.count_le_length (a:=m) (l:=r.take i);simp at this;omega
    exact Yd (by omega) (by omega)
   have step:Ev (λn=>F_bw n c (Yj legKey true c.Legs) r (cntM (r.take i),(i:Int))) (bif ((kindAt c m==1)==decide (i=0))&&(((kindAt c m==3)==decide (i+1=r.length))&&(decide (i=0)||hasLeg c b m))then .cont (cntM (r.take (i+1)),((i+1:Nat):Int))else .done (.done false)):=by
    unfold F_bw;simp only[d.lt,Vt,d.ix,XN,d.nx,z];refine Ea Q ?_;rw[e, <- QlQ, <- d.take];cases(((kindAt c m==1)==decide (i=0))&&(((kindAt c m==3)==decide (i+1=r.length))&&(decide (i=0)||hasLeg c b m)))<;>exact Qa _
   have u:rokS c r.length i b (m::t)=((((kindAt c m==1)==decide (i=0))&&(((kindAt c m==3)==decide (i+1=r.length))&&(decide (i=0)||hasLeg c b m)))&&rokS c r.length (i+1) m t):=by rw[QmG];simp only[Bool.and_assoc]
   rw[u];cases q:(((kindAt c m==1)==decide (i=0))&&(((kindAt c m==3)==decide (i+1=r.length))&&(decide (i=0)||hasLeg c b m)))with
   |false=>
    rw[q]at step;exact Ej step
   |true=>
    rw[q]at step;rw[VE];exact Ex step (O (i+1) m g (by omega) (λ_=>by simpa using d))
 exact(loop r 0 0 rfl (XY _) (by omega)).ev
theorem QjX(c:Course)(w:CourseOk c)(q:NumOk c)(d:Distance)(b:d∈c.Distances)(l:∀x∈d.Route,Part.wf x)(s:szPs d.Route<=256):
  Ev (λn=>F_dg n c d (Yj legKey true c.Legs)) (routeS c d):=by
 have j:=Qa9 d.Route;have i:=Qqt q b;have a:=QiP _ d.Route [] (XX _);unfold F_dg routeS;refine Ea (QlJ _ _ d.Route (XX _) s (by omega) l (q.dist d b).2.2) ?_;generalize expS [] d.Route=r at i a⊢;unfold routeR;have y:IntKind.i64.wrap ((r.length:Int)-1)=(r.length:Int)-1:=by
  have:r.length<=1048576:=by simp at a;omega
  exact QcS this
 rw[y];have u:(decide ((r.length:Int)-1<1)||decide (256<=(r.length:Int)-1))= !(decide (2<=r.length)&&decide (r.length<=256)):=by
  rw[X3];simp;omega
 refine Ea (Ew (Eu λ_=>Qa _) u) ?_;cases e:(decide (2<=r.length)&&decide (r.length<=256))with
 |false=>exact Qa _
 |true=>
  simp only[X0,Vv]at e;rw[VE];refine Jy (Ea (Qf7 c r e.1 e.2 i) ?_);cases rokS c r.length 0 0 r with
  |false=>exact Qa _
  |true=>
   simp only[Vt,VE];have p:Ev (λn:Nat=>((bif decide (0<=d.Extra)then(some (Qx (cntM r) d.Extra 0)).bind λf=>(bif (f==0)then some true else(idx c.Mats d.Extra).bind λh=>(bif (h.Kind != 2)then some true else(some (Qx (Yj legKey true c.Legs) ({from_:=d.Extra,to_:=d.Extra:Uh}) false)).bind λg=>some (!g)))else some false):Option Bool))
     (!(bif decide (0<=d.Extra)then !((r.count d.Extra:Int)==0)&&((kindAt c d.Extra==2)&&hasLeg c d.Extra d.Extra)else true)):=by
    rw[QfH];cases k:decide (0<=d.Extra)with
    |false=>exact Qa _
    |true=>
     obtain⟨x,z,t⟩:=QkL (c:=c) (m:=d.Extra) (by simpa using k) (q.dist d b).2.1;simp only[Vt,XN,z,Qis,t];refine Ew (Eu λ_=>Eu λ_=>Qa _) ?_;rw[bne];cases((r.count d.Extra:Int)==0)<;>cases(kindAt c d.Extra==2)<;>cases hasLeg c d.Extra d.Extra<;>rfl
   refine Ea p ?_;cases(bif decide (0<=d.Extra)then !((r.count d.Extra:Int)==0)&&((kindAt c d.Extra==2)&&hasLeg c d.Extra d.Extra)else true)with
   |false=>exact Qa _
   |true=>
    rw[VE];refine Jy (Ea ?_ (Qa _));unfold F_eg F_gj F_ge;refine Jl d.Cutoffs _ (λn x=>F_cf n x (cntM r)) (by have:=w.cut d b;omega) λx _=>?_;unfold F_cf;rw[QfH];exact Qa _
theorem QdZ{a b:Nat}(h:a+b<=4611686018427387904):IntKind.i64.wrap ((a:Int)+(b:Int))=((a+b:Nat):Int):=by
 rw[Yd (by omega) (by omega)];omega
def lensC(c:Course):Nat:=c.Mats.length+c.Legs.length+c.Distances.length+c.Waves.length+c.Offences.length+c.Categories.length+c.Prizes.length
def fewD(d:Distance):Prop:=d.Cutoffs.length<=200/\szPs d.Route<=200/\hPs d.Route<=16
structure FewOk (c:Course):Prop where
 lens:lensC c<=200
 name:c.Name.length<=100
 dist:∀d∈c.Distances,fewD d
 ties:c.Ties.length<=200
theorem QhF(c:Course)(w:CourseOk c)(q:PartsOk c)(hl:c.Ties.length<=1048576)(R:∀x∈c.Ties,Step.wf x):∃b,Ev (λn=>F_ae n c) b/\(b=true->FewOk c):=by
 have hm:=w.mats;have hg:=w.legs;have hd:=w.dist;have F:=w.wave;have ho:=w.off;have hc:=w.cat;have hp:=w.prize;have loop:∀(t:List Distance) (i s:Nat),c.Distances.drop i=t->i<=c.Distances.length->∃f:Ctl Int Bool,EvI (λn=>F_ce n c) ((s:Int),(i:Int)) f/\(f=.done false\/ ∃v:Nat,f=.cont (v:Int)/\(v<=200->s<=v/\ ∀d∈t,fewD d)):=by
  intro t
  induction t with
  |nil=>
   intro i s B G;refine⟨.cont (s:Int),Ej ?_,Or.inr ⟨s,rfl,λ_=>⟨XX _,by simp⟩⟩⟩;unfold F_ce;simp only[Ym B G,Vu,XN];exact Qa _
  |cons d t ih=>
   intro i s B G;obtain⟨g,z⟩:=QK (by omega) B;have N:=g.lt';by_cases Q:s<=200
   .have j:=q.len d g.mem;have l:=q.wf d g.mem;have H:=w.cut d g.mem;have E:=QiT _ d.Route (XX _) j l;have J:=QiS _ d.Route 17 (XX _) (XX _) j l;have O:IntKind.i64.wrap ((s:Int)+(d.Cutoffs.length:Int))=((s+d.Cutoffs.length:Nat):Int):=QdZ (by omega);have e2:IntKind.i64.wrap (((s+d.Cutoffs.length:Nat):Int)+((min (szPs d.Route) 257:Nat):Int))=((s+d.Cutoffs.length+min (szPs d.Route) 257:Nat):Int):=QdZ (by omega);have step:Ev (λn=>F_ce n c ((s:Int),(i:Int))) (bif decide ((16:Int)<((min (hPs d.Route) 17:Nat):Int))then .done (.done false)else .cont (((s+d.Cutoffs.length+min (szPs d.Route) 257:Nat):Int),((i+1:Nat):Int))):=by
     unfold F_ce;simp only[g.lt,Vt,g.ix,XN,g.nx,Yc (show(s:Int)<=200 by omega)];refine Ea E (Ea J ?_);rw[O,e2];cases decide ((16:Int)<((min (hPs d.Route) 17:Nat):Int))<;>exact Qa _
    by_cases T:hPs d.Route<=16
    .rw[Yx (show¬(16:Int)<((min (hPs d.Route) 17:Nat):Int)by omega)]at step;obtain⟨f,p,k⟩:=ih (i+1) (s+d.Cutoffs.length+min (szPs d.Route) 257) z (by omega);refine⟨f,Ex step p,?_⟩;rcases k with k|⟨v,k,u⟩
     .exact Or.inl k
     .refine Or.inr ⟨v,k,λF=>?_⟩;obtain⟨M,r⟩:=u F;refine⟨by omega,λx y=>?_⟩;rcases Va.1 y with rfl|y
      .exact⟨by omega,by omega,T⟩
      .exact r x y
    .rw[Yc (show(16:Int)<((min (hPs d.Route) 17:Nat):Int)by omega)]at step;exact⟨.done false,Ej step,Or.inl rfl⟩
   .refine⟨.cont (s:Int),Ej ?_,Or.inr ⟨s,rfl,λh=>absurd h Q⟩⟩;unfold F_ce;simp only[g.lt,Vt,Yx (show¬(s:Int)<=200 by omega),XN,Vu];exact Qa _
 obtain⟨f,p,k⟩:=loop c.Distances 0 (lensC c) rfl (XY _);have e:IntKind.i64.wrap ((IntKind.i64.wrap ((IntKind.i64.wrap ((IntKind.i64.wrap ((IntKind.i64.wrap ((IntKind.i64.wrap ((c.Mats.length:Int)+(c.Legs.length:Int)))+(c.Distances.length:Int)))+(c.Waves.length:Int)))+(c.Offences.length:Int)))+(c.Categories.length:Int)))+(c.Prizes.length:Int))=(lensC c:Int):=by
  have V:c.Mats.length+c.Legs.length<=4611686018427387904:=by omega
  have Y:c.Mats.length+c.Legs.length+c.Distances.length<=4611686018427387904:=by omega
  have W:c.Mats.length+c.Legs.length+c.Distances.length+c.Waves.length<=4611686018427387904:=by omega
  have X:c.Mats.length+c.Legs.length+c.Distances.length+c.Waves.length+c.Offences.length<=4611686018427387904:=by omega
  have L:c.Mats.length+c.Legs.length+c.Distances.length+c.Waves.length+c.Offences.length+c.Categories.length<=4611686018427387904:=by omega
  have P:c.Mats.length+c.Legs.length+c.Distances.length+c.Waves.length+c.Offences.length+c.Categories.length+c.Prizes.length<=4611686018427387904:=by omega
  rw[QdZ V,QdZ Y,QdZ W,QdZ X,QdZ L,QdZ P];rfl
 unfold F_ae;rw[e];rcases k with rfl|⟨v,rfl,u⟩
 .exact⟨false,Ea p.ev (Qa _),λh=>by cases h⟩
 .obtain⟨a,b,E,J,p3,_,_,_,_⟩:=Qo1 _ c.Ties 0 (XX _) (by omega) hl R;have m:Ev (λn=>F_bd n c.Ties) (decide ((c.Ties.length:Int)<=20)&&(decide (a<=80)&&decide (b<=300))):=by
   unfold F_bd;exact Ea E (Ea (Ei λ_=>Ei λ_=>Qa _) (Qa _))
  refine⟨decide ((v:Int)<=200)&&(decide ((c.Name.length:Int)<=100)&&(decide ((c.Ties.length:Int)<=20)&&(decide (a<=80)&&decide (b<=300)))),Ea p.ev (Ea (Ei λ_=>Ei λ_=>Ea m (Qa _)) (Qa _)),λh=>?_⟩;simp only[X0,Vv]at h;obtain⟨M,r⟩:=u (by omega);exact⟨by omega,by omega,r,by omega⟩
def fitsS(c:Course):Bool:=
 !(decide (40<(c.Mats.length:Int))||(decide (512<(c.Legs.length:Int))||(decide (8<(c.Distances.length:Int))||(decide (32<(c.Waves.length:Int))||(decide (32<(c.Offences.length:Int))||(decide (32<(c.Categories.length:Int))||decide (32<(c.Prizes.length:Int))))))))
  &&c.Distances.all λd=> !decide (64<(d.Cutoffs.length:Int))
theorem Qo3(c:Course)(w:CourseOk c)(q:PartsOk c)(k:FewOk c):Ev (λn=>F_bz n c) (fitsS c):=by
 unfold F_bz fitsS;refine Ea (Eu λ_=>Eu λ_=>Eu λ_=>Eu λ_=>Eu λ_=>Eu λ_=>Qa _) ?_;cases(decide (40<(c.Mats.length:Int))||(decide (512<(c.Legs.length:Int))||(decide (8<(c.Distances.length:Int))||(decide (32<(c.Waves.length:Int))||(decide (32<(c.Offences.length:Int))||(decide (32<(c.Categories.length:Int))||decide (32<(c.Prizes.length:Int))))))))with
 |true=>exact Qa _
 |false=>
  rw[Xh,VE];refine Jy (Ea (Qmn c.Distances (λd=> !decide (64<(d.Cutoffs.length:Int))) (Ctl.done false) (Ctl.cont ()) (by have:=w.dist;omega) (λi x a=>?_) ?_) ?_)
  .obtain⟨e,f,b⟩:=k.dist x a.mem;unfold F_id;simp only[a.lt,Vt,a.ix,XN,a.nx];refine Ea (QnC _ x.Route 17 (XX _) (by omega) (XX _) (by omega) (q.wf x a.mem)) ?_;refine Ea (Eu λ_=>Eu λ_=>Qa _) ?_;simp only[Yx (show¬(16:Int)<(hPs x.Route:Int)by omega),Yx (show¬(256:Int)<(szPs x.Route:Int)by omega),Bool.or_false];cases decide (64<(x.Cutoffs.length:Int))<;>exact Qa _
  .unfold F_id;simp only[QaO,Vu];exact Qa _
  .cases(c.Distances.all λd=> !decide (64<(d.Cutoffs.length:Int)))<;>exact Qa _
def courseE(c:Course):Int:=
 bif fitsS c then bif namesS c then bif numbersS c then bif tiesE c.Ties==0 then bif c.Distances.all (routeS c)then 0 else 72 else tiesE c.Ties else 71 else 70 else 2
theorem QlK(c:Course)(w:CourseOk c)(q:PartsOk c)(k:FewOk c)(hl:c.Ties.length<=1048576)(f:∀x∈c.Ties,Step.wf x):Ev (λn=>F_f n c) (courseE c):=by
 unfold F_f courseE;refine Ea (Qo3 c w q k) ?_;cases fitsS c with
 |false=>exact Qa _
 |true=>
 refine Jy (Ea (Qnv c w) ?_);cases namesS c with
 |false=>exact Qa _
 |true=>
 refine Jy (Ea (QjW c w q) ?_);cases e:numbersS c with
 |false=>exact Qa _
 |true=>
 refine Jy (Ea (Qo5 c.Ties hl f) ?_);rw[bne];cases(tiesE c.Ties==0)with
 |false=>exact Qa _
 |true=>
 have d:Ev (λn=>iter (F_hb n c) n ([],0)) (Yj legKey true c.Legs):=by
  refine QbG c.Legs legKey true (by have:=w.legs;omega) (λi x m a=>?_) (λm=>?_)
  .unfold F_hb;simp only[a.lt,Vt,a.ix,XN,a.nx];exact Qa _
  .unfold F_hb;simp only[QaO,Vu];exact Qa _
 refine Jy (Ea d ?_);have a:Ev (λn=>F_cv n c.Distances c (Yj legKey true c.Legs)) (c.Distances.all (routeS c)):=by
  unfold F_cv F_dt F_fy;refine Jl c.Distances _ (λn x=>F_bk n x c (Yj legKey true c.Legs)) (by have:=w.dist;omega) λx b=>?_;unfold F_bk;exact Ea (QjX c w (Qoc e) x b (q.wf x b) (by have:=(k.dist x b).2.1;omega)) (Qa _)
 refine Ea a ?_;cases c.Distances.all (routeS c)<;>exact Qa _
theorem Qgd{α:Type}{lt:α->α->Prop}(d:∀a b,lt a b->¬lt b a):∀{l m:List α},l.Pairwise lt->m.Pairwise lt->(∀x,x∈l↔x∈m)->l=m:=by
 intro l
 induction l with
 |nil=>
  intro m _ _ h;cases m with
  |nil=>rfl
  |cons y m=>exact absurd ((h y).2 (by simp)) (by simp)
 |cons x l s=>
  intro m q p h;cases m with
  |nil=>exact absurd ((h x).1 (by simp)) (by simp)
  |cons y m=>
   obtain⟨g,n⟩:=Xc.1 q;obtain⟨k,r⟩:=Xc.1 p;have j:x=y:=by
    rcases Va.1 ((h x).1 (by simp))with e|e
    .exact e
    .rcases Va.1 ((h y).2 (by simp))with i|i
     .exact i.symm
     .exact absurd (k x e) (d _ _ (g y i))
   subst j;rw[s n r λz=>?_];constructor
   .intro f;rcases Va.1 ((h z).1 (by simp[f]))with e|e
    .subst e;exact absurd (g z f) (d _ _ (g z f))
    .exact e
   .intro f;rcases Va.1 ((h z).2 (by simp[f]))with e|e
    .subst e;exact absurd (k z f) (d _ _ (k z f))
    .exact e
theorem Qb3:∀(l:List Int) (p:Int),(∀x∈l,p<=x)->l.Pairwise (· <= ·)->(QaP p l).Pairwise (· < ·)/\(∀x∈QaP p l,p<x)/\ ∀x,x∈p::QaP p l↔x∈p::l
 |[],p,_,_=>⟨List.Pairwise.nil,by simp[QaP],by simp[QaP]⟩
 |y::l,p,h,hp=>by
  obtain⟨h1,h2⟩:=Xc.1 hp;unfold QaP;by_cases e:y=p
  .subst e;obtain⟨k1,k2,k3⟩:=Qb3 l y h1 h2;rw[beq_self_eq_true,Vt];refine⟨k1,k2,λx=>?_⟩;rw[k3 x];simp
  .have e':(y==p)=false:=by simpa using e
   rw[e',Vu];obtain⟨k1,k2,k3⟩:=Qb3 l y h1 h2;have b:=h y (by simp);refine⟨Xc.2 ⟨k2,k1⟩,λx a=>?_,λx=>?_⟩
   .rcases Va.1 a with rfl|a
    .omega
    .have:=k2 x a;omega
   .rw[Va,k3 x];simp
theorem Qj5(l:List Int):(Qi1 (Ya ltI l)).Pairwise (· < ·)/\ ∀x,x∈Qi1 (Ya ltI l)↔x∈l:=by
 have e:(Ya ltI l).Pairwise (· <= ·):=(QP (Qcd l)).imp λ{a b} h=>by simp[ltI]at h;exact h
 have d:∀x,x∈Ya ltI l↔x∈l:=λx=>(Ql ltI l).mem_iff;generalize Ya ltI l=m at e d;cases m with
 |nil=>exact⟨List.Pairwise.nil,λx=>by rw[<- d x];rfl⟩
 |cons y m=>
  obtain⟨j,g⟩:=Xc.1 e;obtain⟨k,i,f⟩:=Qb3 m y j g;exact⟨Xc.2 ⟨i,k⟩,λx=>(f x).trans (d x)⟩
theorem QkB{α:Type}(l:List α){a b:Nat}(h:a<=b)(d:b<=l.length):slc l (a:Int) (b:Int)=some ((l.take b).drop a):=by
 unfold slc;rw[Yc (show(0:Int)<=(a:Int)by omega),Yc (show(a:Int)<=(b:Int)by omega),Yc (show(b:Int)<=(l.length:Int)by omega)];simp
theorem QmC{α:Type}(l:List α){b:Nat}(a:b<=l.length):slc l 0 (b:Int)=some (l.take b):=by
 have:=QkB l (XY b) a;simpa using this
theorem Qh6{α:Type}(l:List α){a:Nat}(b:a<=l.length):slc l (a:Int) (l.length:Int)=some (l.drop a):=by
 have:=QkB l b (XX _);simpa using this
theorem Qbz{α:Type}(l m:List α)(h:l.length+m.length<=4294967296):app l m=some (l++m):=by
 unfold app;rw[XW (by unfold Qy;exact h)];rfl
theorem Qh8{α:Type}(l:List α){i:Nat}(x:α)(h:i<l.length):QbL l (i:Int) x=some (l.set i x):=by
 unfold QbL;rw[Yc (show(0:Int)<=(i:Int)by omega),Yc (show(i:Int)<(l.length:Int)by omega)];simp
def firstI{α:Type}(q:α->Bool):List α->Nat->Int
 |[],_=> -1
 |x::l,i=>bif q x then(i:Int)else firstI q l (i+1)
theorem Ev.first{α:Type}{step:Nat->Int->Option (Ctl Int (Ctl Unit Int))}(l:List α)(q:α->Bool)(hl:l.length<=4611686018427387904)
  (m:∀i x,At l i x->Ev (λn=>step n (i:Int)) (bif q x then .done (.done (i:Int))else .cont ((i+1:Nat):Int)))(t:Ev (λn=>step n (l.length:Int)) (.done (.cont ()))):
  Ev (λn=>(Go.Sw.iter (step n) n 0).bind λb=>match b with|.cont _=>some (-1)|.done v=>some v) (firstI q l 0):=by
 have loop:∀(r:List α) (i:Nat),l.drop i=r->i<=l.length->∃a:Ctl Unit Int,EvI step (i:Int) a/\(match a with|.cont _=>some (-1)|.done v=>some v)=some (firstI q r i):=by
  intro r
  induction r with
  |nil=>
   intro i e k;have:i=l.length:=by have:=Xs.1 e;omega
   subst this;exact⟨.cont (),Ej t,rfl⟩
  |cons x r p=>
   intro i e k;obtain⟨j,g⟩:=QK hl e;have s:=m i x j;unfold firstI;cases h:q x with
   |true=>
    rw[h]at s;exact⟨_,Ej s,rfl⟩
   |false=>
    rw[h]at s;obtain⟨a,f,d⟩:=p (i+1) g (by have:=j.lt';omega);exact⟨a,Ex s f,d⟩
 obtain⟨a,f,d⟩:=loop l 0 rfl (XY _);exact Ea f.ev (EB d)
theorem QaT{ι α:Type}{F:Nat->ι->Option α}{V:ι->α}:∀(L:List ι),(∀p∈L,Ev (λn=>F n p) (V p))->∃N,∀n,N<=n->∀p∈L,F n p=some (V p)
 |[],_=>⟨0,λ_ _ p hp=>by cases hp⟩
 |x::L,h=>by
  obtain⟨N,hN⟩:=QaT L λp hp=>h p (by simp[hp]);obtain⟨M,hM⟩:=h x (by simp);refine⟨N+M,λn hn p hp=>?_⟩;rcases Va.1 hp with rfl|hp
  .exact hM n (by omega)
  .exact hN n (by omega) p hp
theorem Ev.anyP{E R:Type}[DecidableEq R]{k:Nat->List E->Option R}{l:List E}{r:R}(h:∀p,p.Perm l->Ev (λn=>k n p) r):Ev (λn=>Go.Sw.anyP (k n) l) r:=by
 obtain⟨N,d⟩:=QaT (F:=λn p=>k n p) (V:=λ_=>r) (QbV l) λp a=>h p (QcD l p a);exact⟨N,λn b=>QhL λp a=>d n b p (QdC l p a)⟩
theorem Ev.isNil{α R:Type}[DecidableEq R]{l:List α}{x y:Nat->Option R}{v:R}(d:l=[]->Ev x v)(a:Ev y v):Ev (λn=>Go.Sw.isNil l (x n) (y n)) v:=by
 unfold Go.Sw.isNil;cases q:l.isEmpty with
 |false=>exact a
 |true=>
  obtain⟨N,e⟩:=d (List.isEmpty_iff.1 q);obtain⟨M,b⟩:=a;exact⟨N+M,λn f=>by dsimp only;rw[e n (by omega),b n (by omega)];simp⟩
set_option maxRecDepth 4000
def openU(f:Fact):U_facts_open_rxk:=
 bif f.Kind==1 then .c0 ()else bif f.Kind==2 then .c1 ()else bif f.Kind==3 then .c2 ()else bif f.Kind==4 then .c3 ()else bif f.Kind==5 then .c4 ()else bif f.Kind==6 then .c5 ()
 else bif f.Kind==7 then .c6 ()else bif f.Kind==8 then .c7 ()else bif f.Kind==9 then .c8 ()else bif f.Kind==10 then
  (bif (f.Ruling.Kind==1)||(f.Ruling.Kind==2)then .c9 (0,0,0,0,0,0)else bif f.Ruling.Kind==3 then .c9 (1,9999,0,255,1,1099511627776)else bif f.Ruling.Kind==4 then .c9 (1,9999,0,255,1,64)else .c9 (1,9999,0,255,0,0))
 else bif f.Kind==11 then .c10 ()else bif f.Kind==12 then .c11 ()else bif f.Kind==13 then .c12 ()else .c13 ()
theorem QkI(n:Nat)(f:Fact)(b:Int):F_ac n f b=some (openU f):=by
 unfold F_ac openU;cases(f.Kind==1)with
 |true=>rfl
 |false=>
 cases(f.Kind==2)with
 |true=>rfl
 |false=>
 cases(f.Kind==3)with
 |true=>rfl
 |false=>
 cases(f.Kind==4)with
 |true=>rfl
 |false=>
 cases(f.Kind==5)with
 |true=>rfl
 |false=>
 cases(f.Kind==6)with
 |true=>rfl
 |false=>
 cases(f.Kind==7)with
 |true=>rfl
 |false=>
 cases(f.Kind==8)with
 |true=>rfl
 |false=>
 cases(f.Kind==9)with
 |true=>rfl
 |false=>
 cases(f.Kind==10)with
 |true=>
  cases(f.Ruling.Kind==1)with
  |true=>rfl
  |false=>
  cases(f.Ruling.Kind==2)with
  |true=>rfl
  |false=>
  cases(f.Ruling.Kind==3)with
  |true=>rfl
  |false=>
  cases(f.Ruling.Kind==4)with
  |true=>rfl
  |false=>rfl
 |false=>
 cases(f.Kind==11)with
 |true=>rfl
 |false=>
 cases(f.Kind==12)with
 |true=>rfl
 |false=>
 cases(f.Kind==13)with
 |true=>rfl
 |false=>rfl
def headL:List Ent:=[⟨false,3,1,13⟩,⟨false,0,0,31⟩,⟨false,1,1,1048576⟩,⟨false,2,0,1099511627776⟩]
def bodyL:U_facts_open_rxk->List Ent
 |.c0 _=>[⟨false,4,1,9999⟩,⟨false,5,0,7⟩,⟨false,6,0,31⟩,⟨false,7,(-1099511627776),1099511627776⟩,⟨false,8,0,120⟩,⟨false,9,0,1048576⟩,⟨false,10,0,9999⟩,⟨false,11,0,1048576⟩]
 |.c1 _=>[⟨false,12,0,39⟩,⟨false,13,0,255⟩,⟨false,14,0,1048576⟩,⟨false,15,(-1099511627776),1099511627776⟩]
 |.c2 _=>[⟨false,16,0,39⟩,⟨false,17,0,255⟩,⟨false,18,(-1099511627776),1099511627776⟩,⟨false,19,(-1099511627776),1099511627776⟩,⟨false,20,0,1099511627776⟩]
 |.c3 _=>[⟨false,21,0,39⟩,⟨false,22,0,255⟩,⟨false,23,(-1099511627776),1099511627776⟩,⟨false,24,0,39⟩,⟨false,25,0,255⟩,⟨false,26,(-1099511627776),1099511627776⟩,⟨false,27,(-1099511627776),1099511627776⟩,⟨false,28,(-1099511627776),1099511627776⟩]
 |.c4 _=>[⟨false,29,1,9999⟩,⟨false,30,0,255⟩,⟨false,31,(-1099511627776),1099511627776⟩,⟨false,32,(-1099511627776),1099511627776⟩]
 |.c5 _=>[⟨false,33,0,39⟩,⟨false,34,0,255⟩,⟨false,35,(-1099511627776),1099511627776⟩,⟨false,36,(-1099511627776),1099511627776⟩]
 |.c6 _=>[⟨false,37,1,9999⟩,⟨false,38,1,9999⟩]
 |.c7 _=>[⟨false,39,1,1048576⟩,⟨false,40,1,9999⟩,⟨false,41,0,31⟩,⟨false,42,0,255⟩]
 |.c8 _=>[⟨false,43,1,1048576⟩,⟨false,44,0,9999⟩,⟨false,45,0,1125899906842624⟩,⟨false,46,0,1⟩]
 |.c9 x=>[⟨false,47,1,1048576⟩,⟨false,48,1,2⟩,⟨false,49,1,5⟩,⟨false,50,x.1,x.2.1⟩,⟨false,51,x.2.2.1,x.2.2.2.1⟩,⟨false,52,x.2.2.2.2.1,x.2.2.2.2.2⟩]
 |.c10 _=>[⟨false,53,1,1048576⟩,⟨true,0,0,1⟩]
 |.c11 _=>[]
 |.c12 _=>[⟨false,55,0,31⟩,⟨false,56,1,1048576⟩]
 |.c13 _=>[]
def fineU(f:Fact):U_facts_open_rxk->Bool
 |.c3 _=>decide (f.Sync.Min<=f.Sync.Max)
 |.c4 _=>decide (f.Hand.Lo<=f.Hand.Hi)
 |.c5 _=>decide (f.Silence.Lo<=f.Silence.Hi)
 |.c6 _=>decide (f.Pair.A<f.Pair.B)
 |.c13 _=>false
 |_=>true
def entsS(f:Fact):List Ent:=headL++bodyL (openU f)
def goodE(e:Ent):Bool:=bif e.fl then e.off==0 else decide (e.off<57)&& !(e.off==54)
theorem QlM(f:Fact):∀e∈entsS f,goodE e=true:=by
 have h:∀u:U_facts_open_rxk,(headL++bodyL u).all goodE=true:=by intro u;cases u<;>rfl
 exact Xu.1 (h (openU f))
theorem QfE(f:Fact):(entsS f).length<=12:=by
 have h:∀u:U_facts_open_rxk,(headL++bodyL u).length<=12:=by intro u;cases u<;>exact XV rfl
 exact h (openU f)
def isI:Option A->Bool
 |some (.int .i64 _)=>true
 |_=>false
theorem Qqn{x:Option A}(h:isI x=true):∃v,x=some (.int .i64 v):=by
 unfold isI at h;split at h
 .exact⟨_,rfl⟩
 .cases h
theorem Qng{f:Fact}{b:Int}{e:Ent}(h:goodE e=true):∃v,Qf6 (Fact.c f) b e=some v:=by
 unfold goodE at h;unfold Qf6;cases a:e.fl with
 |true=>
  rw[a]at h;simp only[Vt]at h⊢;rw[h];exact⟨b,rfl⟩
 |false=>
  rw[a]at h;simp only[Vu,X0,Vv,Bool.not_eq_true']at h⊢;have all:(List.range 57).all (λo=>(o==54)||isI (Fact.c f)[o]?)=true:=by rfl
  have:=Xu.1 all e.off (List.mem_range.2 h.1);rw[h.2,Bool.false_or]at this;obtain⟨v,d⟩:=Qqn this;rw[d];exact⟨v,rfl⟩
theorem QmH{x:Fact}{s v:Int}{e:Ent}(h:goodE e=true):∃q,QjF Fact.put x s e v=some q:=by
 unfold goodE at h;unfold QjF;cases a:e.fl with
 |true=>
  rw[a]at h;simp only[Vt]at h⊢;rw[h];exact⟨_,rfl⟩
 |false=>
  rw[a]at h;simp only[Vu,X0,Vv,Bool.not_eq_true']at h⊢;have all:(List.range 57).all (λo=>(o==54)||(Fact.put x o v).isSome)=true:=by rfl
  have:=Xu.1 all e.off (List.mem_range.2 h.1);rw[h.2,Bool.false_or]at this;obtain⟨y,b⟩:=Option.isSome_iff_exists.1 this;rw[b];exact⟨_,rfl⟩
def getV(f:Fact)(b:Int)(e:Ent):Int:=(Qf6 (Fact.c f) b e).getD 0
def putV(x:Fact)(s:Int)(e:Ent)(v:Int):Fact×Int:=(QjF Fact.put x s e v).getD (x,s)
theorem Qnh{f:Fact}{b:Int}{e:Ent}(h:goodE e=true):Qf6 (Fact.c f) b e=some (getV f b e):=by
 obtain⟨v,a⟩:=Qng (f:=f) (b:=b) h;unfold getV;rw[a];rfl
theorem QpZ{x:Fact}{s v:Int}{e:Ent}(h:goodE e=true):QjF Fact.put x s e v=some (putV x s e v):=by
 obtain⟨q,a⟩:=QmH (x:=x) (s:=s) (v:=v) h;unfold putV;rw[a];rfl
def inE(f:Fact)(b:Int)(e:Ent):Bool:= !(decide (getV f b e<e.lo))&& !(decide (e.hi<getV f b e))
def numR(f:Fact)(b:Int):List Ent->List Int×Fact×Int->Ctl (List Int×Fact×Int) (List Int×Bool)
 |[],a=>.cont a
 |e::r,a=>bif inE f b e then numR f b r (a.1++[getV f b e],putV a.2.1 a.2.2 e (getV f b e))else .done ([],false)
theorem QhK{α:Type}(l m:List α)(h:l.length+m.length<=1000):app l m=some (l++m):=by
 unfold app;have:Nat.ble (l.length+m.length) Qy=true:=XW (XZ h (by decide));rw[this];rfl
theorem QoF(f:Fact)(b:Int)(E:List Ent)(hE:∀e∈E,goodE e=true)(hl:E.length<=12):∀(r:List Ent) (i:Nat) (a:List Int×Fact×Int),E.drop i=r->i<=E.length->a.1.length=i->
  EvI (λn=>F_dl n f b E E) (a.1,a.2.1,a.2.2,(i:Int)) (numR f b r a):=by
 intro r
 induction r with
 |nil=>
  intro i a l p g;refine Ej ?_;unfold F_dl;simp only[Ym l p,Vu];exact Qa _
 |cons e r t=>
  intro i a l p j;obtain⟨g,m⟩:=QK (by omega) l;have k:=hE e g.mem;have s:=g.lt';unfold numR;cases d:inE f b e with
  |true=>
   have h:=d;unfold inE at h;simp only[X0,Bool.not_eq_true']at h;refine Ex ?_ (t (i+1) (a.1++[getV f b e],putV a.2.1 a.2.2 e (getV f b e)) m (by omega) (by simp[j]));unfold F_dl;simp only[g.lt,Vt,g.ix,XN,g.nx,Qnh k,h.1,h.2,Vu,QpZ k];rw[QhK a.1 [getV f b e] (by simp;omega)];exact Qa _
  |false=>
   refine Ej ?_;unfold F_dl;simp only[g.lt,Vt,g.ix,XN,Qnh k];unfold inE at d;cases q:decide (getV f b e<e.lo)with
   |true=>exact Qa _
   |false=>
    rw[q]at d;simp only[Xh,VE,Bool.not_eq_false']at d;simp only[Vu,d,Vt];exact Qa _
def suspB(f:Fact):Int:=bif f.Appeal.Suspends then 1 else 0
def restS(f:Fact):Fact:={Up with Ruling:={Ux with Kind:=f.Ruling.Kind:Ruling},Kind:=f.Kind:Fact}
def lastF(f x:Fact)(s:Int):Fact:=
 let y:Fact:=bif f.Kind != 10 then {x with Ruling:={x.Ruling with Kind:=0:Ruling}:Fact}else x
 {y with Appeal:={Case:=y.Appeal.Case,Suspends:=s==1:Appeal}:Fact}
def numF(f:Fact):List Int×Bool:=bif fineU f (openU f)then(match numR f (suspB f) (entsS f) ([],restS f,0)with
  |.cont a=>(a.1,lastF f a.2.1 a.2.2==f)
  |.done r=>r)else([],false)
theorem QlP(n:Nat)(f:Fact):F_bo n ({Up with Ruling:={Ux with Kind:=f.Ruling.Kind:Ruling}:Fact}) 0 f=some (entsS f):=by
 have a:openU ({({Up with Ruling:={Ux with Kind:=f.Ruling.Kind:Ruling}:Fact})with Kind:=f.Kind:Fact})=openU f:=rfl;unfold F_bo entsS;rw[QkI];simp only[XN];rw[a];unfold F_ad;generalize openU f=u;cases u<;>(simp only[XN];unfold bodyL;exact congrArg (Option.bind · _) (QhK _ _ (by simp)))
theorem Qk0(f:Fact):Ev (λn=>F_ai n f) (numF f):=by
 unfold F_ai;refine Ea (v:=suspB f) ?_ ?_
 .unfold suspB;cases f.Appeal.Suspends<;>exact Qa _
 refine Ea (v:=bif fineU f (openU f)then .cont (bodyL (openU f))else .done ([],false)) ?_ ?_
 .simp only[QkI,XN];unfold F_b F_ed F_fc F_ga F_dr;generalize openU f=u;cases u with
  |c3=>unfold fineU;cases decide (f.Sync.Min<=f.Sync.Max)<;>exact Qa _
  |c4=>unfold fineU;cases decide (f.Hand.Lo<=f.Hand.Hi)<;>exact Qa _
  |c5=>unfold fineU;cases decide (f.Silence.Lo<=f.Silence.Hi)<;>exact Qa _
  |c6=>unfold fineU;cases decide (f.Pair.A<f.Pair.B)<;>exact Qa _
  |_=>exact Qa _
 unfold numF;cases fineU f (openU f)with
 |false=>exact Qa _
 |true=>
  simp only[Vt];have e:app headL (bodyL (openU f))=some (entsS f):=QhK _ _ (by have:=QfE f;unfold entsS at this;rw[X7]at this;omega);unfold F_ad;simp only[XN];refine Ea (EB e) ?_;refine Ea (EB (QlP 0 f)) ?_;refine Ea (QoF f (suspB f) (entsS f) (QlM f) (QfE f) (entsS f) 0 ([],restS f,0) rfl (XY _) rfl).ev ?_;cases numR f (suspB f) (entsS f) ([],restS f,0)with
  |done r=>exact Qa _
  |cont a=>
   simp only;refine Ea (v:=bif f.Kind != 10 then {a.2.1 with Ruling:={a.2.1.Ruling with Kind:=0:Ruling}:Fact}else a.2.1) ?_ (Qa _);cases(f.Kind != 10)<;>exact Qa _
def validS(f:Fact):Bool:=(numF f).2
theorem Qcw(f:Fact):Ev (λn=>F_ah n f) (bif validS f then 0 else 120):=by
 unfold F_ah;refine Ea (Qk0 f) ?_;unfold validS;cases(numF f).2<;>exact Qa _
theorem Qjr{f:Fact}(h:validS f=true):(f.Kind==0)=false:=by
 cases q:(f.Kind==0)with
 |false=>rfl
 |true=>
  have b:f.Kind=0:=by simpa using q
  have a:openU f=.c13 ():=by unfold openU;rw[b];rfl
  unfold validS numF at h;rw[a]at h;cases h
set_option maxRecDepth 4000
def numN(v:Nat):List Int:=if h:128<=v then orI .u8 (IntKind.u8.wrap (v:Int)) 128::numN (v/128)else[IntKind.u8.wrap (v:Int)]
termination_by v
decreasing_by omega
theorem Qe4{v:Nat}(h:128<=v):numN v=orI .u8 (IntKind.u8.wrap (v:Int)) 128::numN (v/128):=by
 rw[numN,dif_pos h]
theorem QaL{v:Nat}(h:¬128<=v):numN v=[IntKind.u8.wrap (v:Int)]:=by
 rw[numN,dif_neg h]
theorem shr7(v:Nat):Yi .u64 (v:Int) 7=((v/128:Nat):Int):=by
 show Int.fdiv (v:Int) (2^7)=_;rw[Int.fdiv_eq_ediv_of_nonneg _ (by decide)];omega
theorem Qm3:∀(k v:Nat),v<128^(k+1)->(numN v).length<=k+1:=by
 intro k
 induction k with
 |zero=>
  intro v a;rw[QaL (by omega)];simp
 |succ k b=>
  intro v a;by_cases h:128<=v
  .rw[Qe4 h,X5];have:=b (v/128) (by rw[Nat.div_lt_iff_lt_mul (by decide)];rw[Nat.pow_succ]at a;exact a);omega
  .rw[QaL h];simp
theorem Qhl:∀(k v:Nat) (l:List Int),v<128^(k+1)->l.length+k<4294967296->∃(l':List Int) (a:Nat),EvI (λn=>F_es n) (l,(v:Int)) (l',(a:Int))/\l'++[IntKind.u8.wrap (a:Int)]=l++numN v/\l'.length<=l.length+k:=by
 intro k
 induction k with
 |zero=>
  intro v l b e;refine⟨l,v,Ej ?_,by rw[QaL (by omega)],XX _⟩;unfold F_es;simp only[Yx (show¬(128:Int)<=(v:Int)by omega),Vu];exact Qa _
 |succ k f=>
  intro v l b e;by_cases h:128<=v
  .obtain⟨l',a,g,d,i⟩:=f (v/128) (l++[orI .u8 (IntKind.u8.wrap (v:Int)) 128]) (by rw[Nat.div_lt_iff_lt_mul (by decide)];rw[Nat.pow_succ]at b;exact b) (by simp;omega);refine⟨l',a,Ex ?_ g,?_,?_⟩
   .unfold F_es;simp only[Yc (show(128:Int)<=(v:Int)by omega),Vt,shr7];rw[QaE l _ (by omega)];exact Qa _
   .rw[d,Qe4 h];simp
   .simp at i;omega
  .refine⟨l,v,Ej ?_,by rw[QaL h],by omega⟩;unfold F_es;simp only[Yx (show¬(128:Int)<=(v:Int)by omega),Vu];exact Qa _
theorem QfB(v:Nat)(l:List Int)(d:v<18446744073709551616)(hl:l.length<=1000000):Ev (λn=>F_v n l (v:Int)) (l++numN v):=by
 obtain⟨b,f,e,a,g⟩:=Qhl 9 v l (Vj d (by decide)) (by omega);unfold F_v;refine Ea e.ev ?_;simp only;rw[QaE b _ (by omega),a];exact Qa _
theorem Qe2{v:Nat}(hv:v<18446744073709551616):(numN v).length<=10:=Qm3 9 v (Vj hv (by decide))
def zigI(x:Int):Int:=QeJ .u64 (QeP .u64 (IntKind.u64.wrap x) 1) (IntKind.u64.wrap (Yi .i64 x 63))
theorem wrapU(x:Int):0<=IntKind.u64.wrap x/\IntKind.u64.wrap x<18446744073709551616:=by
 have e:IntKind.u64.wrap x=x%18446744073709551616:=by
  unfold IntKind.wrap;rfl
 rw[e];omega
theorem Qg8(x:Int):∃z:Nat,zigI x=(z:Int)/\z<18446744073709551616:=by
 have h:=wrapU ((BitVec.ofInt IntKind.u64.bits (QeP .u64 (IntKind.u64.wrap x) 1)^^^BitVec.ofInt IntKind.u64.bits (IntKind.u64.wrap (Yi .i64 x 63))).toNat);refine⟨(zigI x).toNat,?_,?_⟩
 .unfold zigI QeJ;omega
 .unfold zigI QeJ;omega
def oneB(x:Int):List Int:=1::numN (zigI x).toNat
theorem Qik(x:Int):(oneB x).length<=11:=by
 obtain⟨z,b,a⟩:=Qg8 x;unfold oneB;rw[b];have:=Qe2 a;simp;omega
theorem QiQ(l:List Int)(x:Int)(hl:l.length<=100000):Ev (λn=>F_aj n l ({Kind:=1,N:=x,S:=[],L:=[]:Value})) (l++oneB x):=by
 unfold F_aj F_ar;rw[QaE l 1 (by omega)];simp only[XN];obtain⟨z,b,d⟩:=Qg8 x;have a:=b;unfold zigI at a;rw[a];refine Ea (QfB z (l++[1]) d (by simp;omega)) ((Qa _).eq ?_);unfold oneB;rw[b];simp
def mkV(x:Int):Value:={Kind:=1,N:=x,S:=[],L:=[]:Value}
def listV(l:List Int):Value:={Kind:=3,N:=0,S:=[],L:=l.map mkV:Value}
theorem QjP(x:Int):Ev (λn=>F_i n (mkV x)) (0,true):=by
 refine Je ?_;show Ev (λn=>B_i (F_i n) n (mkV x)) _;unfold B_i mkV;simp only;cases(x==0)with
 |true=>exact Qa _
 |false=>exact Qa _
theorem Qiz(l:List Int)(hl:l.length<=1000):Ev (λn=>F_i n (listV l)) (1,true):=by
 refine Je ?_;show Ev (λn=>B_i (F_i n) n (listV l)) _;unfold B_i listV;simp only;refine Ea (v:=[false,(((l.map mkV).length:Int)==0),(((l.map mkV).length:Int)==0),true]) (Qa _) ?_;refine Ea (v:=false) (Qa _) ?_;refine Ea (v:=(Ctl.cont (0:Int):Ctl Int (Int×Bool))) ?_ (Qa _);refine Ev.iter (λi=>((0:Int),(i:Int))) (l.map mkV).length rfl (λi e=>?_) ?_
 .have a:=JI (x:=(l.map mkV)[i]) (show(l.map mkV).length<=4611686018427387904 by rw[X6];omega) (XO e);have d:∃y,(l.map mkV)[i]=mkV y:=by
   rw[List.getElem_map];exact⟨_,rfl⟩
  obtain⟨y,b⟩:=d;unfold F_hu;simp only[a.lt,Vt,a.ix,XN,a.nx];rw[b];exact Ea (QjP y) (Qa _)
 .unfold F_hu;simp only[QaO,Vu];exact Qa _
def listB(l:List Int):List Int:=[3]++numN l.length++(l.map oneB).flatten
theorem QhC(l:List Int)(hl:l.length<=1000):Ev (λn=>F_bc n (listV l)) (listB l):=by
 unfold F_bc;have u:app ([]:List Int) [3]=some [3]:=rfl;rw[u];simp only[XN];have w:IntKind.u64.wrap (((listV l).L.length:Int))=((l.length:Nat):Int):=by
  have:IntKind.u64.wrap (((listV l).L.length:Int))=(((listV l).L.length:Int))%18446744073709551616:=by unfold IntKind.wrap;rfl
  rw[this];unfold listV;rw[X6];omega
 rw[w];have t:=Qe2 (show l.length<18446744073709551616 by omega);refine Ea (QfB l.length [3] (by omega) (by simp)) ?_;refine Ea (v:=listB l) ?_ (Qa _);have k:∀m:List Int,(m.map oneB).flatten.length<=11*m.length:=by
  intro m
  induction m with
  |nil=>simp
  |cons x m e=>
   have:=Qik x;simp only[Vn,Vq,X7,X5];omega
 have h:=Q5 (step:=λn=>F_gt n (listV l)) (l.map mkV) (λ(a:List Int) (v:Value)=>a++oneB v.N) ([3]++numN l.length) (λa i=>(a,(i:Int))) (λa=>a) (by rw[X6];omega) rfl (λi x a d p=>?_) ?_
 .refine Ew h ?_;have:∀(m:List Int) (a:List Int),(m.map mkV).foldl (λ(a:List Int) (v:Value)=>a++oneB v.N) a=a++(m.map oneB).flatten:=by
   intro m
   induction m with
   |nil=>intro a;simp
   |cons x m e=>intro a;simp only[Vn,XH,Vq];rw[e];simp[mkV]
  rw[this];rfl
 .have q:∃y,x=mkV y:=by
   obtain⟨y,_,s⟩:=Xe.1 d.mem;exact⟨y,s.symm⟩
  obtain⟨y,rfl⟩:=q;have f:a.length<=100000:=by
   have:∀(m:List Int) (a:List Int),((m.map mkV).foldl (λ(a:List Int) (v:Value)=>a++oneB v.N) a).length<=a.length+11*m.length:=by
    intro m
    induction m with
    |nil=>intro a;simp
    |cons x m e=>
     intro a;simp only[Vn,XH,X5];have r:=e (a++oneB (mkV x).N);have g:=Qik (mkV x).N;rw[X7]at r;omega
   have g:=this (l.take i) ([3]++numN l.length);rw[List.map_take, <- p,X7,XA]at g;simp at g;omega
  unfold F_gt;have b:decide ((i:Int)<((listV l).L.length:Int))=true:=d.lt;have j:idx (listV l).L (i:Int)=some (mkV y):=d.ix;simp only[b,Vt,j,XN,d.nx];refine Ea (QiQ a y f) ?_;exact Qa _
 .unfold F_gt;have b:decide (((l.map mkV).length:Int)<((listV l).L.length:Int))=false:=QaO _;simp only[b,Vu];exact Qa _
theorem Qm2{f:Fact}{b:Int}:∀(r:List Ent) (a c:List Int×Fact×Int),numR f b r a=.cont c->c.1.length=a.1.length+r.length:=by
 intro r
 induction r with
 |nil=>intro a c h;cases h;rfl
 |cons e r d=>
  intro a c h;unfold numR at h;cases q:inE f b e with
  |false=>rw[q]at h;cases h
  |true=>
   rw[q]at h;have:=d _ _ h;simp at this;rw[this,X5];omega
theorem Qm4(f:Fact):(numF f).1.length<=12:=by
 unfold numF;cases fineU f (openU f)with
 |false=>simp
 |true=>
  simp only[Vt];cases h:numR f (suspB f) (entsS f) ([],restS f,0)with
  |cont a=>
   have:=Qm2 _ _ _ h;have:=QfE f;simp at*;omega
  |done r=>
   have:∀(E:List Ent) (a:List Int×Fact×Int),numR f (suspB f) E a=.done r->r=([],false):=by
    intro E
    induction E with
    |nil=>intro a h;cases h
    |cons e E ih=>
     intro a h;unfold numR at h;cases q:inE f (suspB f) e with
     |false=>rw[q]at h;cases h;rfl
     |true=>rw[q]at h;exact ih _ h
   rw[this _ _ h];simp
def encF(f:Fact):List Int×Int:=bif validS f then(listB (numF f).1,0)else([],120)
theorem QgN(f:Fact):Ev (λn=>F_ag n f) (encF f):=by
 unfold F_ag;refine Ea (Qk0 f) ?_;have l:=Qm4 f;unfold encF validS;generalize numF f=r at*;cases h:r.2 with
 |false=>exact Qa _
 |true=>
  simp only[Xg,Vu,Vt];refine Ea (v:=r.1.map mkV) ?_ ?_
  .refine Ew (Q5 r.1 (λ(a:List Value) (x:Int)=>a++[mkV x]) [] (λa i=>(a,(i:Int))) (λa=>a) (by omega) rfl (λi x a b j=>?_) ?_) ?_
   .unfold F_ic;simp only[b.lt,Vt,b.ix,XN,b.nx];have k:a.length<=12:=by
     have:∀(m:List Int) (a:List Value),(m.foldl (λ(a:List Value) (x:Int)=>a++[mkV x]) a).length=a.length+m.length:=by
      intro m
      induction m with
      |nil=>intro a;simp
      |cons x m d=>intro a;simp only[XH,X5];rw[d];simp;omega
     rw[j,this,XA];simp;omega
    have e:=QaE a (mkV x) (by omega);unfold mkV at e;rw[e];exact Qa _
   .unfold F_ic;simp only[QaO,Vu];exact Qa _
   .have:∀(m:List Int) (a:List Value),m.foldl (λ(a:List Value) (x:Int)=>a++[mkV x]) a=a++m.map mkV:=by
     intro m
     induction m with
     |nil=>intro a;simp
     |cons x m d=>intro a;simp only[XH,Vn];rw[d];simp
    rw[this];rfl
  refine Ea (v:=(listB r.1,0)) ?_ (Qa _);have g:=Qiz r.1 (by omega);unfold F_gl F_dm;have e:({Kind:=3,N:=0,S:=[],L:=r.1.map mkV:Value})=listV r.1:=rfl;rw[e];refine Ea (v:=0) (Ea g (Qa _)) ?_;unfold F_fx;exact Ea (QhC r.1 (by omega)) (Qa _)
def cmpI(a b:Int):Int:=bif decide (a<b)then-1 else bif decide (b<a)then 1 else 0
theorem QeB(n:Nat)(a b:Int):F_l n a b=some (cmpI a b):=by
 unfold F_l F_an cmpI;simp only[XN,bne_self_eq_false,Vu];cases decide (a<b)with
 |true=>rfl
 |false=>cases decide (b<a)<;>rfl
def orL:List Int->Int
 |[]=>0
 |x::r=>bif x != 0 then x else orL r
theorem ev_or(l:List Int)(hl:l.length<=1000):Ev (λn=>F_dc n l) (orL l):=by
 unfold F_dc;have loop:∀(r:List Int) (i:Nat),l.drop i=r->i<=l.length->EvI (λn=>F_fw n l) (i:Int) (bif orL r==0 then Ctl.cont ()else Ctl.done (orL r)):=by
  intro r
  induction r with
  |nil=>
   intro i b f;refine Ej ?_;unfold F_fw;simp only[Ym b f,Vu];exact Qa _
  |cons x r j=>
   intro i b f;obtain⟨a,d⟩:=QK (by omega) b;have g:=a.lt';unfold orL;cases q:(x != 0)with
   |true=>
    have e:(x==0)=false:=by simpa[bne]using q
    simp only[Vt,e,Vu];refine Ej ?_;unfold F_fw;simp only[a.lt,Vt,a.ix,XN,q];exact Qa _
   |false=>
    simp only[Vu];refine Ex ?_ (j (i+1) d (by omega));unfold F_fw;simp only[a.lt,Vt,a.ix,XN,q,Vu,a.nx];exact Qa _
 refine Ea (loop l 0 rfl (XY _)).ev ?_;cases h:(orL l==0)with
 |true=>
  have e:orL l=0:=by simpa using h
  rw[e];exact Qa _
 |false=>exact Qa _
def cmpF(f g:Fact):Int:=bif orL [cmpI f.At g.At,cmpI f.Crew g.Crew,cmpI f.No g.No] != 0 then orL [cmpI f.At g.At,cmpI f.Crew g.Crew,cmpI f.No g.No]else cmpB (encF f).1 (encF g).1
theorem QcJ(f g:Fact):Ev (λn=>F_x n f g) (cmpF f g):=by
 unfold F_x cmpF;simp only[QeB,XN];refine Ea (ev_or _ (by simp)) ?_;cases(orL [cmpI f.At g.At,cmpI f.Crew g.Crew,cmpI f.No g.No] != 0)with
 |true=>exact Qa _
 |false=>
  simp only[Vu];refine Ea (QgN f) (Ea (QgN g) ?_);exact Qa _
def okS(c:Course)(f:Fact):Bool:=(f.Kind==1)&&(validS f&&(!decide ((c.Distances.length:Int)<=f.Starter.Distance)&& !decide ((c.Waves.length:Int)<=f.Starter.Wave)))
def stepS(c:Course)(m:List (Int×Fact))(f:Fact):List (Int×Fact):=
 bif okS c f then(bif !(Jq m f.Starter.Bib)||decide (cmpF f (Qx m f.Starter.Bib Up)<0)then QG m f.Starter.Bib f else m)else m
def firstS(c:Course)(l:List Fact):List (Int×Fact):=l.foldl (stepS c) []
theorem Qnz(c:Course)(l:List Fact)(hl:l.length<=1048576):Ev (λn=>iter (F_hp n c l) n ([],0)) (firstS c l):=by
 refine Q5 l (stepS c) [] (λa i=>(a,(i:Int))) (λa=>a) (by omega) rfl (λi x a ha _=>?_) ?_
 .unfold F_hp;simp only[ha.lt,Vt,ha.ix,XN,ha.nx];refine Ea (v:=stepS c a x) ?_ (Qa _);refine Ea (v:= !okS c x) ?_ ?_
  .unfold okS bne;cases(x.Kind==1)with
   |false=>exact Qa _
   |true=>
    refine Ea (Qcw x) ?_;cases validS x with
    |false=>exact Qa _
    |true=>
     simp only[Vt,VE];cases decide ((c.Distances.length:Int)<=x.Starter.Distance)with
     |true=>exact Qa _
     |false=>
      cases decide ((c.Waves.length:Int)<=x.Starter.Wave)<;>exact Qa _
  .unfold stepS;cases okS c x with
   |false=>exact Qa _
   |true=>
    simp only[Xg,Vu,Vt];refine Ea (v:= !(Jq a x.Starter.Bib)||decide (cmpF x (Qx a x.Starter.Bib Up)<0)) (Eu λ_=>Ea (QcJ _ _) (Qa _)) ?_;cases(!(Jq a x.Starter.Bib)||decide (cmpF x (Qx a x.Starter.Bib Up)<0))<;>exact Qa _
 .unfold F_hp;simp only[QaO,Vu];exact Qa _
theorem Qe6{β:Type}(m:List (Int×β))(k:Int):Jq m k=(Ye m k).isSome:=by
 unfold Jq Ye;rw[Option.isSome_map]
 induction m with
 |nil=>rfl
 |cons p m a=>
  rw[List.any_cons,List.find?_cons,a];cases decide (p.1=k)<;>rfl
theorem Qbg{β:Type}(m:List (Int×β))(k:Int):k∈m.map Prod.fst↔ ∃v,Ye m k=some v:=by
 have h:=Qe6 m k;rw[<- Option.isSome_iff_exists, <- h];unfold Jq;simp only[Xv,Vv,Xe]
structure FirstOk (c:Course) (l:List Fact) (m:List (Int×Fact)):Prop where
 nodup:(m.map Prod.fst).Nodup
 ok:∀k f,Ye m k=some f->f.Starter.Bib=k/\okS c f=true/\f∈l
 len:m.length<=l.length
theorem Qio{β:Type}(m:List (Int×β))(k:Int)(v:β):(QG m k v).length<=m.length+1:=by
 have:=congrArg List.length (QdI m k v);rw[X6]at this;rw[this];split<;>simp
theorem Qe5{β:Type}{m:List (Int×β)}(k:Int)(v:β)(h:(m.map Prod.fst).Nodup):((QG m k v).map Prod.fst).Nodup:=by
 have e:=QdI m k v;have g:(QG m k v).map Prod.fst=if k∈m.map Prod.fst then m.map Prod.fst else m.map Prod.fst++[k]:=e
 rw[g];split
 .exact h
 .rename_i i;rw[List.nodup_append];refine⟨h,by simp,λa f b d=>?_⟩;rw[VF]at d;rintro rfl;exact i (d▸f)
theorem Qcg(c:Course)(l:List Fact):FirstOk c l (firstS c l):=by
 have j:∀(r:List Fact) (p:List Fact) (m:List (Int×Fact)),FirstOk c p m->FirstOk c (p++r) (r.foldl (stepS c) m):=by
  intro r
  induction r with
  |nil=>intro p m h;simpa using h
  |cons f r s=>
   intro p m h;have n:FirstOk c (p++[f]) (stepS c m f):=by
    have keep:FirstOk c (p++[f]) m:=⟨h.nodup,λk g i=>by obtain⟨a,b,d⟩:=h.ok k g i;exact⟨a,b,List.mem_append_left _ d⟩,by have:=h.len;simp;omega⟩;unfold stepS;cases q:okS c f with
    |false=>exact keep
    |true=>
     simp only[Vt];cases(!(Jq m f.Starter.Bib)||decide (cmpF f (Qx m f.Starter.Bib Up)<0))with
     |false=>exact keep
     |true=>
      refine⟨Qe5 _ _ h.nodup,λk g i=>?_,?_⟩
      .simp only[Vt]at i;rw[YB]at i;by_cases e:k=f.Starter.Bib
       .rw[Vx e]at i;cases i;exact⟨e.symm,q,by simp⟩
       .rw[Vw e]at i;exact keep.ok k g i
      .have:=Qio m f.Starter.Bib f;have:=h.len;simp only[Vt,X7,List.length_singleton];omega
   have:=s (p++[f]) _ n;simpa using this
 have:=j l [] [] ⟨by simp,(λk f h=>by cases h),XX _⟩;simpa[firstS]using this
theorem Qgv{l m:List Int}(h:l.Perm m):Ya ltI l=Ya ltI m:=
 Jp ((Ql ltI l).trans (h.trans (Ql ltI m).symm)) (λx _ y _ a b=>by simp[ltI]at*;omega) (QP (Qcd l)) (QP (Qcd m))
theorem Qch{n:Nat}(h:n<=1048576):Nat.ble n Qy=true:=XW (XZ h (by decide))
theorem Qlm(n:Nat)(m:List (Int×Fact))(h:m.length<=1048576):F_cr n m=some (Ya ltI (m.map Prod.fst)):=by
 unfold F_cr QlV;have b:(List.map Prod.fst m).length<=1048576:=by rw[X6];exact h
 rw[Qch b,Vt];refine QhL λp a=>?_;unfold sortI;rw[Qch (by rw[a.length_eq];exact b)];show some (Ya ltI p)=_;rw[Qgv a]
def ordF(m:List (Int×Fact)):List Fact:=(Ya ltI (m.map Prod.fst)).map λk=>Qx m k Up
theorem Qii(m:List (Int×Fact)):(ordF m).length=m.length:=by
 unfold ordF;rw[X6,(Ql _ _).length_eq,X6]
theorem QjZ(m:List (Int×Fact))(h:m.length<=1048576):Ev (λn=>F_dh n m) (ordF m):=by
 unfold F_dh F_ey;simp only[XN];refine Ea (v:=Ya ltI (m.map Prod.fst)) ⟨0,λn _=>Qlm n m h⟩ ?_;have g:(Ya ltI (m.map Prod.fst)).length=m.length:=by rw[(Ql _ _).length_eq,X6]
 refine Ea (v:=ordF m) ?_ (Qa _);unfold ordF;generalize Ya ltI (m.map Prod.fst)=ks at g;have e:ks.map (λk=>Qx m k Up)=ks.foldl (λ(a:List Fact) k=>a++[Qx m k Up]) []:=by
  have:∀(r:List Int) (a:List Fact),r.foldl (λ(a:List Fact) k=>a++[Qx m k Up]) a=a++r.map λk=>Qx m k Up:=by
   intro r
   induction r with
   |nil=>intro a;simp
   |cons x r d=>intro a;simp only[XH,Vn];rw[d];simp
  rw[this];rfl
 rw[e];refine Q5 ks (λ(a:List Fact) k=>a++[Qx m k Up]) [] (λa i=>(a,(i:Int))) (λa=>a) (by omega) rfl (λi x a b f=>?_) ?_
 .unfold F_ht;simp only[b.lt,Vt,b.ix,XN,b.nx];have j:a.length=i:=by
   have:∀(r:List Int) (a:List Fact),(r.foldl (λ(a:List Fact) k=>a++[Qx m k Up]) a).length=a.length+r.length:=by
    intro r
    induction r with
    |nil=>intro a;rfl
    |cons x r d=>intro a;simp only[XH];rw[d];simp;omega
   rw[f,this,XA];have:=b.lt';simp;omega
  have:=b.lt';rw[QaE a _ (by omega)];exact Qa _
 .unfold F_ht;simp only[QaO,Vu];exact Qa _
def chipK(f:Fact):Int:=f.Starter.Chip
def startF(e:Int)(c:Course)(l:List Fact):List Starter×Int:=bif e != 0 then([],e)else
 bif decide (((ordF (firstS c l)).map chipK).Nodup)then((ordF (firstS c l)).map (·.Starter),0)else([],180)
theorem QoZ(L:List Fact)(hl:L.length<=1048576):Ev (λn=>iter (F_bh n L) n ([],[],0)) (bif decide ((L.map chipK).Nodup)then Ctl.cont (L.map (·.Starter))else Ctl.done ([],180)):=by
 have loop:∀(r:List Fact) (i:Nat),L.drop i=r->i<=L.length->EvI (λn=>F_bh n L) ((L.take i).map (·.Starter),Yj chipK true (L.take i),(i:Int))
   (bif Qj7 (λ_=>true) chipK ((L.take i).map chipK) r then Ctl.cont (L.map (·.Starter))else Ctl.done ([],180)):=by
  intro r
  induction r with
  |nil=>
   intro i g k;refine Ej ?_;have b:L.length<=i:=Xs.1 g;have e:L.take i=L:=VM b;unfold F_bh;simp only[Ym g k,Vu,e,Qj7,Vt];exact Qa _
  |cons f r p=>
   intro i g k;obtain⟨a,j⟩:=QK (by omega) g;have m:=a.lt';have d:=QbW chipK true false (L.take i) (chipK f);simp only[Qj7,VE];cases q:((L.take i).map chipK).contains (chipK f)with
   |true=>
    have h:chipK f∈(L.take i).map chipK:=by simpa using q
    rw[Vx h]at d;simp only[Xg,Bool.false_and,Vu];refine Ej ?_;unfold F_bh;simp only[a.lt,Vt,a.ix,XN];rw[show f.Starter.Chip=chipK f from rfl,d];exact Qa _
   |false=>
    have h:¬chipK f∈(L.take i).map chipK:=by
     intro z;have:((L.take i).map chipK).contains (chipK f)=true:=by simpa using z
     rw[q]at this;cases this
    rw[Vw h]at d;simp only[Xh,VE];have l:=p (i+1) j (by omega);rw[a.take,Qc4,Xf,Xf]at l;refine Ex ?_ l;unfold F_bh;simp only[a.lt,Vt,a.ix,XN,a.nx];rw[show f.Starter.Chip=chipK f from rfl,d];simp only[Vu];rw[QaE _ _ (by rw[X6,XA];omega)];exact Qa _
 refine Ew (loop L 0 rfl (XY _)).ev ?_;have:=Qk5 (λ_=>true) chipK L [] (by simp);simp only[List.take_zero,Vp];rw[this,Xu.2 (λ_ _=>rfl),VE,Vl]
theorem QiR(e:Int)(c:Course)(l:List Fact)(hl:l.length<=16)(he:Ev (λn=>F_f n c) e):Ev (λn=>F_by n c l) (startF e c l):=by
 unfold F_by startF;refine Ea he ?_;cases(e != 0)with
 |true=>exact Qa _
 |false=>
  simp only[Vu];refine Ea (Qnz c l (by omega)) ?_;have h:=Qcg c l;have a:=h.len;rw[Yx (show¬(4000:Int)<((firstS c l).length:Int)by omega)];refine Jy (Ea (QjZ _ (by omega)) ?_);refine Ea (QoZ _ (by rw[Qii];omega)) ?_;cases decide (((ordF (firstS c l)).map chipK).Nodup)<;>exact Qa _
theorem Qo9{a b:Int}:cmpI a b<0↔a<b:=by
 unfold cmpI;by_cases h:a<b
 .rw[Vy h];simp[h]
 .rw[VB h];by_cases d:b<a
  .rw[Vy d];simp;omega
  .rw[VB d];simp;omega
theorem QqK{a b:Int}:cmpI a b=0↔a=b:=by
 unfold cmpI;by_cases h:a<b
 .rw[Vy h];simp;omega
 .rw[VB h];by_cases d:b<a
  .rw[Vy d];simp;omega
  .rw[VB d];simp;omega
set_option maxRecDepth 4000
theorem QoE(f:Fact)(b:Int):∀(E:List Ent) (a:List Int×Fact×Int),numR f b E a=bif E.all (inE f b)then .cont (a.1++E.map (getV f b),E.foldl (λp e=>putV p.1 p.2 e (getV f b e)) a.2)else .done ([],false):=by
 intro E
 induction E with
 |nil=>intro a;simp[numR]
 |cons e E ih=>
  intro a;unfold numR;rw[List.all_cons];cases h:inE f b e with
  |false=>rfl
  |true=>
   simp only[Vt,VE,Vn,XH];rw[ih];simp
def onlyS(f:Fact):Fact:={Crew:=f.Crew,No:=f.No,At:=f.At,Kind:=f.Kind,Starter:=(bif f.Kind==1 then f.Starter else Up.Starter),Read:=(bif f.Kind==2 then f.Read else Up.Read),Beacon:=(bif f.Kind==3 then f.Beacon else Up.Beacon),Sync:=(bif f.Kind==4 then f.Sync else Up.Sync),Hand:=(bif f.Kind==5 then f.Hand else Up.Hand),Silence:=(bif f.Kind==6 then f.Silence else Up.Silence),Pair:=(bif f.Kind==7 then f.Pair else Up.Pair),Report:=(bif f.Kind==8 then f.Report else Up.Report),Protest:=(bif f.Kind==9 then f.Protest else Up.Protest),Ruling:=(bif f.Kind==10 then f.Ruling else Up.Ruling),Appeal:=(bif f.Kind==11 then f.Appeal else Up.Appeal),Void:=(bif f.Kind==13 then f.Void else Up.Void):Fact}
def numsS(f:Fact):List Int:=[f.Kind,f.Crew,f.No,f.At]++(
 bif f.Kind==1 then[f.Starter.Bib,f.Starter.Distance,f.Starter.Wave,f.Starter.Slot,f.Starter.Age,f.Starter.Chip,f.Starter.Team,f.Starter.Lot]
 else bif f.Kind==2 then[f.Read.Mat,f.Read.Epoch,f.Read.Chip,f.Read.Local]
 else bif f.Kind==3 then[f.Beacon.Mat,f.Beacon.Epoch,f.Beacon.Local,f.Beacon.True,f.Beacon.Err]
 else bif f.Kind==4 then[f.Sync.MatA,f.Sync.EpochA,f.Sync.LocalA,f.Sync.MatB,f.Sync.EpochB,f.Sync.LocalB,f.Sync.Min,f.Sync.Max]
 else bif f.Kind==5 then[f.Hand.Bib,f.Hand.Position,f.Hand.Lo,f.Hand.Hi]
 else bif f.Kind==6 then[f.Silence.Mat,f.Silence.Epoch,f.Silence.Lo,f.Silence.Hi]
 else bif f.Kind==7 then[f.Pair.A,f.Pair.B]
 else bif f.Kind==8 then[f.Report.Case,f.Report.Bib,f.Report.Offence,f.Report.Position]
 else bif f.Kind==9 then[f.Protest.Case,f.Protest.By,f.Protest.Fee,f.Protest.Form]
 else bif f.Kind==10 then[f.Ruling.Case,f.Ruling.Instance,f.Ruling.Kind,f.Ruling.Bib,f.Ruling.Position,f.Ruling.Amount]
 else bif f.Kind==11 then[f.Appeal.Case,suspB f]
 else bif f.Kind==13 then[f.Void.Crew,f.Void.No]else[])
theorem kinds(f:Fact):f.Kind=1\/f.Kind=2\/f.Kind=3\/f.Kind=4\/f.Kind=5\/f.Kind=6\/f.Kind=7\/f.Kind=8\/f.Kind=9\/f.Kind=10\/f.Kind=11\/f.Kind=12\/f.Kind=13\/openU f=.c13 ():=by
 by_cases m:f.Kind=1; · exact .inl m
 by_cases l:f.Kind=2; · exact .inr (.inl l)
 by_cases n:f.Kind=3; · exact .inr (.inr (.inl n))
 by_cases k:f.Kind=4; · exact .inr (.inr (.inr (.inl k)))
 by_cases h:f.Kind=5; · exact .inr (.inr (.inr (.inr (.inl h))))
 by_cases j:f.Kind=6; · exact .inr (.inr (.inr (.inr (.inr (.inl j)))))
 by_cases g:f.Kind=7; · exact .inr (.inr (.inr (.inr (.inr (.inr (.inl g))))))
 by_cases i:f.Kind=8; · exact .inr (.inr (.inr (.inr (.inr (.inr (.inr (.inl i)))))))
 by_cases p:f.Kind=9; · exact .inr (.inr (.inr (.inr (.inr (.inr (.inr (.inr (.inl p))))))))
 by_cases e:f.Kind=10; · exact .inr (.inr (.inr (.inr (.inr (.inr (.inr (.inr (.inr (.inl e)))))))))
 by_cases b:f.Kind=11; · exact .inr (.inr (.inr (.inr (.inr (.inr (.inr (.inr (.inr (.inr (.inl b))))))))))
 by_cases d:f.Kind=12; · exact .inr (.inr (.inr (.inr (.inr (.inr (.inr (.inr (.inr (.inr (.inr (.inl d)))))))))))
 by_cases a:f.Kind=13; · exact .inr (.inr (.inr (.inr (.inr (.inr (.inr (.inr (.inr (.inr (.inr (.inr (.inl a))))))))))))
 refine .inr (.inr (.inr (.inr (.inr (.inr (.inr (.inr (.inr (.inr (.inr (.inr (.inr ?_))))))))))));unfold openU;simp only[VD.2 m,VD.2 l,VD.2 n,VD.2 k,VD.2 h,VD.2 j,VD.2 g,VD.2 i,VD.2 p,VD.2 e,VD.2 b,VD.2 d,VD.2 a,Vu]
def copyS(f:Fact):Fact×Int:=(entsS f).foldl (λp e=>putV p.1 p.2 e (getV f (suspB f) e)) (restS f,0)
theorem Qhm(f:Fact):numF f=bif fineU f (openU f)then(bif (entsS f).all (inE f (suspB f))then((entsS f).map (getV f (suspB f)),lastF f (copyS f).1 (copyS f).2==f)else([],false))else([],false):=by
 unfold numF;rw[QoE];cases fineU f (openU f)with
 |false=>rfl
 |true=>
  simp only[Vt];cases(entsS f).all (inE f (suspB f))with
  |false=>rfl
  |true=>simp only[Vt,Vl];rfl
theorem QdL(f:Fact)(h:¬openU f=.c13 ()):lastF f (copyS f).1 (copyS f).2=onlyS f/\(entsS f).map (getV f (suspB f))=numsS f:=by
 rcases kinds f with k|k|k|k|k|k|k|k|k|k|k|k|k|k
 case inr.inr.inr.inr.inr.inr.inr.inr.inr.inr.inl=>
  obtain⟨Cr,No,At,Ki,S,R,B,Sy,Ha,Si,Pa,Re,Pr,Ru,⟨Ca,Su⟩,Vo⟩:=f;simp only at k;subst k;cases Su<;>exact⟨by kernel_rfl,by kernel_rfl⟩
 case inr.inr.inr.inr.inr.inr.inr.inr.inr.inl=>
  obtain⟨Cr,No,At,Ki,S,R,B,Sy,Ha,Si,Pa,Re,Pr,⟨e,j,a,b,g,i⟩,Ap,Vo⟩:=f;simp only at k;subst k;have:∃x,openU ⟨Cr,No,At,10,S,R,B,Sy,Ha,Si,Pa,Re,Pr,⟨e,j,a,b,g,i⟩,Ap,Vo⟩=.c9 x:=by
   unfold openU;show∃x,(bif (a==1)||(a==2)then U_facts_open_rxk.c9 (0,0,0,0,0,0)else bif a==3 then .c9 (1,9999,0,255,1,1099511627776)else bif a==4 then .c9 (1,9999,0,255,1,64)else .c9 (1,9999,0,255,0,0))=.c9 x;cases((a==1)||(a==2))with
   |true=>exact⟨_,rfl⟩
   |false=>
    cases(a==3)with
    |true=>exact⟨_,rfl⟩
    |false=>cases(a==4)<;>exact⟨_,rfl⟩
  obtain⟨x,d⟩:=this;unfold copyS entsS;rw[d];exact⟨by kernel_rfl,by kernel_rfl⟩
 case inr.inr.inr.inr.inr.inr.inr.inr.inr.inr.inr.inr.inr=>exact absurd k h
 all_goals
  obtain⟨Cr,No,At,Ki,S,R,B,Sy,Ha,Si,Pa,Re,Pr,Ru,Ap,Vo⟩:=f;simp only at k;subst k;exact⟨by kernel_rfl,by kernel_rfl⟩
def contS(f:Fact):Bool:=fineU f (openU f)&&(bodyL (openU f)).all (inE f (suspB f))
def headS(f:Fact):Bool:=headL.all (inE f (suspB f))
theorem Qdy(f:Fact):validS f=(headS f&&contS f&&(onlyS f==f)):=by
 unfold validS contS headS;rw[Qhm];by_cases h:openU f=.c13 ()
 .have:fineU f (openU f)=false:=by rw[h];rfl
  rw[this];simp
 .obtain⟨a,b⟩:=QdL f h;rw[a];unfold entsS;rw[List.all_append];cases fineU f (openU f)with
  |false=>simp
  |true=>
   cases headL.all (inE f (suspB f))with
   |false=>rfl
   |true=>cases(bodyL (openU f)).all (inE f (suspB f))<;>rfl
theorem Qjq{f:Fact}(h:validS f=true):(numF f).1=numsS f:=by
 have g:=h;unfold validS at h;rw[Qhm]at h⊢;by_cases q:openU f=.c13 ()
 .have:fineU f (openU f)=false:=by rw[q];rfl
  rw[this]at h;cases h
 .obtain⟨e,d⟩:=QdL f q;cases a:fineU f (openU f)with
  |false=>rw[a]at h;cases h
  |true=>
   rw[a]at h;cases b:(entsS f).all (inE f (suspB f))with
   |false=>rw[b]at h;cases h
   |true=>exact d
theorem QeK{f:Fact}(h:validS f=true):onlyS f=f:=by
 rw[Qdy]at h;simp only[X0,VC]at h;exact h.2
theorem Qm1{f g:Fact}(a:validS f=true)(hg:validS g=true)(h:numsS f=numsS g):f=g:=by
 have j:=QeK a;have l:=QeK hg;rw[<- j, <- l];unfold numsS at h;have e:f.Kind=g.Kind:=by
  simp only[VO,List.cons.injEq]at h;exact h.1
 have P:=Qjr a;rcases kinds f with k|k|k|k|k|k|k|k|k|k|k|k|k|k
 case inr.inr.inr.inr.inr.inr.inr.inr.inr.inr.inr.inr.inr=>
  rw[Qdy]at a;unfold contS at a;rw[k]at a;simp[fineU]at a
 all_goals
  have i:=e.symm.trans k;clear a hg e P j l;obtain⟨Cr,No,At,Ki,⟨s1,s2,s3,s4,s5,s6,s7,s8⟩,⟨w,ag,aq,q⟩,⟨b1,b2,b3,b4,b5⟩,⟨y1,y2,y3,y4,y5,y6,y7,y8⟩,⟨h1,h2,h3,h4⟩,⟨i1,i2,i3,i4⟩,⟨p1,p2⟩,⟨u1,u2,u3,u4⟩,⟨o1,o2,o3,o4⟩,⟨r1,r2,r3,r4,r5,r6⟩,⟨a1,a2⟩,⟨v1,v2⟩⟩:=f;obtain⟨Cr',No',At',Ki',⟨V,a4,Y,u,F,ax,a0,J⟩,⟨n,p,m,d⟩,⟨ai,X,t,ak,ao⟩,⟨x,am,ay,aa,E,av,az,ar⟩,⟨r,aw,Q,af⟩,⟨a5,ab,G,W⟩,⟨ae,N⟩,⟨B,a3,M,y⟩,⟨s,au,ac,T⟩,⟨aj,an,R,H,al,O⟩,⟨ah,b⟩,⟨z,L⟩⟩:=g;simp only at k i;subst k;subst i
  first
   |(simp[suspB]at h;simp[onlyS,h];done)
   |(cases a2<;>cases b<;>simp[suspB]at h<;>simp[onlyS,h])
set_option maxRecDepth 4000
theorem Qha(x:Int):IntKind.u64.wrap x=x%18446744073709551616:=by unfold IntKind.wrap;rfl
theorem Qjp(x:Int):IntKind.u8.wrap x=x%256:=by unfold IntKind.wrap;rfl
theorem or8(a b:Int):orI .u8 a b=(((BitVec.ofInt 8 a|||BitVec.ofInt 8 b).toNat:Nat):Int)%256:=by unfold orI;exact Qjp _
theorem Qpo(a b:Int):QeJ .u64 a b=(((BitVec.ofInt 64 a^^^BitVec.ofInt 64 b).toNat:Nat):Int)%18446744073709551616:=by unfold QeJ;exact Qha _
theorem or128(v:Nat):orI .u8 (IntKind.u8.wrap (v:Int)) 128=((v%128+128:Nat):Int):=by
 have a:∀m:Fin 256,((BitVec.ofNat 8 m.val|||128#8).toNat)=m.val%128+128:=by decide
 have d:v%256<256:=Nat.mod_lt _ (by decide);have k:(BitVec.ofNat 8 (v%256)|||128#8).toNat=v%256%128+128:=a ⟨v%256,d⟩;have e:BitVec.ofInt 8 ((v:Int)%256)=BitVec.ofNat 8 (v%256):=by
  have:((v:Int)%256)=((v%256:Nat):Int):=by omega
  rw[this];exact BitVec.ofInt_natCast 8 (v%256)
 have b:BitVec.ofInt 8 128=128#8:=by rfl
 rw[or8,Qjp,e,b,k];omega
theorem QdG(v:Nat):numN v=if 128<=v then((v%128+128:Nat):Int)::numN (v/128)else[(v:Int)]:=by
 by_cases h:128<=v
 .rw[Qe4 h,Vx h,or128]
 .rw[QaL h,Vw h,Qjp];congr 1;omega
theorem Qin:∀(v w:Nat) (a b:List Int),numN v++a=numN w++b->v=w/\a=b:=by
 intro v
 induction v using Nat.strongRecOn with
 |_ v g=>
 intro w a b h;rw[QdG v,QdG w]at h;by_cases e:128<=v
 .rw[Vx e]at h;by_cases d:128<=w
  .rw[Vx d]at h;simp only[VO,List.cons.injEq]at h;obtain⟨i,f⟩:=g (v/128) (by omega) (w/128) a b h.2;exact⟨by omega,f⟩
  .rw[Vw d]at h;simp only[VO,List.cons.injEq]at h;omega
 .rw[Vw e]at h;by_cases d:128<=w
  .rw[Vx d]at h;simp only[VO,List.cons.injEq]at h;omega
  .rw[Vw d]at h;simp only[VO,List.cons.injEq,Vl]at h;exact⟨by omega,h.2⟩
theorem Qe3:∀(v:Nat),∀x∈numN v,0<=x/\x<256:=by
 intro v
 induction v using Nat.strongRecOn with
 |_ v d=>
 intro x a;rw[QdG v]at a;by_cases b:128<=v
 .rw[Vx b]at a;rcases Va.1 a with rfl|a
  .omega
  .exact d (v/128) (by omega) x a
 .rw[Vw b]at a;rcases Va.1 a with rfl|a
  .omega
  .cases a
theorem Qg7{x:Int}(h0:0<=x)(e:x<9223372036854775808):zigI x=2*x:=by
 unfold zigI QeP;have d:Yi .i64 x 63=0:=by
  show Int.fdiv x (2^63)=0;rw[Int.fdiv_eq_ediv_of_nonneg _ (by decide)];omega
 have a:(2:Int)^(min (1:Int).toNat IntKind.u64.bits)=2:=by decide
 rw[d,a,Qpo];simp only[Qha];have b:BitVec.ofInt 64 ((0:Int)%18446744073709551616)=0#64:=by rfl
 rw[b,BitVec.xor_zero,BitVec.toNat_ofInt];omega
theorem Qg9{x:Int}(h0:x<0)(e: -9223372036854775808<=x):zigI x= -2*x-1:=by
 unfold zigI QeP;have d:Yi .i64 x 63= -1:=by
  show Int.fdiv x (2^63)= -1;rw[Int.fdiv_eq_ediv_of_nonneg _ (by decide)];omega
 have a:(2:Int)^(min (1:Int).toNat IntKind.u64.bits)=2:=by decide
 rw[d,a,Qpo];simp only[Qha];have b:BitVec.ofInt 64 ((-1:Int)%18446744073709551616)=BitVec.allOnes 64:=by decide
 rw[b,BitVec.xor_allOnes,BitVec.toNat_not,BitVec.toNat_ofInt];omega
def in63(x:Int):Prop:= -9223372036854775808<=x/\x<9223372036854775808
theorem Qow{x y:Int}(f:in63 x)(e:in63 y)(h:zigI x=zigI y):x=y:=by
 obtain⟨a,b⟩:=f;obtain⟨c,d⟩:=e;by_cases p:0<=x
 .rw[Qg7 p b]at h;by_cases q:0<=y
  .rw[Qg7 q d]at h;omega
  .rw[Qg9 (by omega) c]at h;omega
 .rw[Qg9 (by omega) a]at h;by_cases q:0<=y
  .rw[Qg7 q d]at h;omega
  .rw[Qg9 (by omega) c]at h;omega
theorem Qij:∀(l m:List Int),l.length=m.length->(∀x∈l,in63 x)->(∀x∈m,in63 x)->(l.map oneB).flatten=(m.map oneB).flatten->l=m
 |[],[],_,_,_,_=>rfl
 |x::l,y::m,hl,h1,h2,h=>by
  simp only[Vn,Vq,oneB,VO,List.cons.injEq,true_and]at h;obtain⟨e1,e2⟩:=Qin _ _ _ _ h;obtain⟨z,p1,p2⟩:=Qg8 x;obtain⟨z',q1,q2⟩:=Qg8 y;rw[p1,q1]at e1;have:x=y:=Qow (h1 x (by simp)) (h2 y (by simp)) (by rw[p1,q1]at*;simp only[Int.toNat_natCast]at e1;omega);rw[this,Qij l m (by simpa using hl) (λz hz=>h1 z (by simp[hz])) (λz hz=>h2 z (by simp[hz])) e2]
theorem Qlv{l m:List Int}(d:∀x∈l,in63 x)(a:∀x∈m,in63 x)(h:listB l=listB m):l=m:=by
 unfold listB at h;rw[Vm,Vm]at h;simp only[VO,Vl,List.cons.injEq,true_and]at h;obtain⟨e,b⟩:=Qin _ _ _ _ h;exact Qij l m e d a b
theorem Qd8(l:List Int):∀x∈listB l,0<=x/\x<256:=by
 intro x a;unfold listB at a;simp only[VH,VF,List.mem_flatten,Xe]at a;rcases a with(rfl|a)|⟨m,⟨y,_,rfl⟩,a⟩
 .omega
 .exact Qe3 _ x a
 .unfold oneB at a;rcases Va.1 a with rfl|a
  .omega
  .exact Qe3 _ x a
structure CmpOK {α:Type} (c:α->α->Int):Prop where
 swap:∀x y,c y x= -c x y
 trans:∀x y z,c x y<0->c y z<0->c x z<0
 eqt:∀x y z,c x y=0->c x z=c y z
section
variable {α:Type} {c d:α->α->Int}
theorem CmpOK.refl(h:CmpOK c)(x:α):c x x=0:=by have:=h.swap x x;omega
theorem CmpOK.eqr(h:CmpOK c){x y:α}(z:α)(e:c x y=0):c z x=c z y:=by
 rw[h.swap x z,h.swap y z,h.eqt x y z e]
theorem QdY(h:CmpOK c)(k:CmpOK d):CmpOK λx y=>bif c x y != 0 then c x y else d x y:=by
 refine⟨λx y=>?_,λx y z=>?_,λx y z=>?_⟩
 .show(bif c y x != 0 then c y x else d y x)= -(bif c x y != 0 then c x y else d x y);have e:=h.swap x y;by_cases q:c x y=0
  .have f:c y x=0:=by omega
   rw[q,f];exact k.swap x y
  .have f:¬c y x=0:=by omega
   rw[bne_iff_ne.2 q,bne_iff_ne.2 f];exact e
 .show(bif c x y != 0 then c x y else d x y)<0->(bif c y z != 0 then c y z else d y z)<0->(bif c x z != 0 then c x z else d x z)<0;by_cases q:c x y=0
  .have e:=h.eqt x y z q;rw[q,e];by_cases f:c y z=0
   .rw[f];exact k.trans x y z
   .rw[bne_iff_ne.2 f];intro _ b;exact b
  .rw[bne_iff_ne.2 q];by_cases f:c y z=0
   .have e:=h.eqr x f;rw[f, <- e,bne_iff_ne.2 q];intro a _;exact a
   .rw[bne_iff_ne.2 f];intro a b;have:=h.trans x y z a b;rw[bne_iff_ne.2 (show¬c x z=0 by omega)];exact this
 .show(bif c x y != 0 then c x y else d x y)=0->(bif c x z != 0 then c x z else d x z)=(bif c y z != 0 then c y z else d y z);by_cases q:c x y=0
  .rw[q,h.eqt x y z q];intro e;have e:d x y=0:=e;rw[k.eqt x y z e]
  .rw[bne_iff_ne.2 q];intro e;exact absurd e q
theorem CmpOK.on{β:Type}(h:CmpOK c)(f:β->α):CmpOK λx y=>c (f x) (f y):=
 ⟨λx y=>h.swap _ _,λx y z=>h.trans _ _ _,λx y z=>h.eqt _ _ _⟩
end
theorem cmpI_ok:CmpOK cmpI:=by
 have e:∀a b,cmpI a b=if a<b then-1 else if b<a then 1 else 0:=by
  intro a b;unfold cmpI;by_cases h:a<b
  .rw[Vy h,Vx h];rfl
  .rw[VB h,Vw h];by_cases d:b<a
   .rw[Vy d,Vx d];rfl
   .rw[VB d,Vw d];rfl
 refine⟨λx y=>?_,λx y z=>?_,λx y z=>?_⟩
 .rw[e,e];split<;>split<;>omega
 .rw[e,e,e];intro a b;have f:x<y:=by
   by_cases q:x<y
   .exact q
   .rw[Vw q]at a;split at a<;>omega
  have d:y<z:=by
   by_cases q:y<z
   .exact q
   .rw[Vw q]at b;split at b<;>omega
  rw[Vx (by omega)];omega
 .rw[e x y];intro h;have:x=y:=by
   by_cases q:x<y
   .rw[Vx q]at h;omega
   .rw[Vw q]at h;split at h<;>omega
  rw[this]
theorem cb_ok:CmpOK Lib.compareBytes:=by
 have l:∀x y:List UInt8,Lib.compareBytes y x= -Lib.compareBytes x y:=by
  intro x
  induction x with
  |nil=>intro y;cases y<;>simp[Lib.compareBytes]
  |cons a x f=>
   intro y;cases y with
   |nil=>simp[Lib.compareBytes]
   |cons b y=>
    unfold Lib.compareBytes;by_cases h:a<b
    .have j:¬b<a:=by rw[UInt8.lt_iff_toNat_lt]at*;omega
     rw[Vx h,Vw j,Vx h];rfl
    .rw[Vw h];by_cases g:b<a
     .rw[Vx g,Vw h,Vx g]
     .rw[Vw g,Vw g,Vw h];exact f y
 have eq:∀x y:List UInt8,Lib.compareBytes x y=0->x=y:=by
  intro x
  induction x with
  |nil=>intro y h;cases y with
   |nil=>rfl
   |cons b y=>simp[Lib.compareBytes]at h
  |cons a x f=>
   intro y h;cases y with
   |nil=>simp[Lib.compareBytes]at h
   |cons b y=>
    unfold Lib.compareBytes at h;by_cases q:a<b
    .rw[Vx q]at h;omega
    .rw[Vw q]at h;by_cases e:b<a
     .rw[Vx e]at h;omega
     .rw[Vw e]at h;have:a=b:=by
       rw[UInt8.lt_iff_toNat_lt]at q e;exact UInt8.toNat_inj.1 (by omega)
      rw[this,f y h]
 refine⟨l,?_,λx y z h=>by rw[eq x y h]⟩;intro x
 induction x with
 |nil=>
  intro y z h k;cases y with
  |nil=>simp[Lib.compareBytes]at h
  |cons b y=>cases z with
   |nil=>simp[Lib.compareBytes]at k
   |cons d z=>simp[Lib.compareBytes]
 |cons a x f=>
  intro y z h k;cases y with
  |nil=>simp[Lib.compareBytes]at h
  |cons b y=>
   cases z with
   |nil=>simp[Lib.compareBytes]at k
   |cons d z=>
    unfold Lib.compareBytes at h k⊢;simp only[UInt8.lt_iff_toNat_lt]at*;by_cases q:a.toNat<b.toNat
    .by_cases r:b.toNat<d.toNat
     .rw[Vx (by omega)];omega
     .rw[Vw r]at k;by_cases i:d.toNat<b.toNat
      .rw[Vx i]at k;omega
      .rw[Vx (by omega)];omega
    .rw[Vw q]at h;by_cases e:b.toNat<a.toNat
     .rw[Vx e]at h;omega
     .rw[Vw e]at h;by_cases r:b.toNat<d.toNat
      .rw[Vx (by omega)];omega
      .rw[Vw r]at k;by_cases i:d.toNat<b.toNat
       .rw[Vx i]at k;omega
       .rw[Vw i]at k;rw[Vw (by omega),Vw (by omega)];exact f y z h k
theorem QpE:∀{x y:List UInt8},Lib.compareBytes x y=0->x=y
 |[],[],_=>rfl
 |[],_::_,h=>by simp[Lib.compareBytes]at h
 |_::_,[],h=>by simp[Lib.compareBytes]at h
 |a::x,b::y,h=>by
  unfold Lib.compareBytes at h;by_cases q:a<b
  .rw[Vx q]at h;omega
  .rw[Vw q]at h;by_cases q2:b<a
   .rw[Vx q2]at h;omega
   .rw[Vw q2]at h;have:a=b:=by
     rw[UInt8.lt_iff_toNat_lt]at q q2;exact UInt8.toNat_inj.1 (by omega)
    rw[this,QpE h]
theorem QgT:∀{l m:List Int},(∀x∈l,0<=x/\x<256)->(∀x∈m,0<=x/\x<256)->l.map Qbx=m.map Qbx->l=m
 |[],[],_,_,_=>rfl
 |[],_::_,_,_,h=>by simp at h
 |_::_,[],_,_,h=>by simp at h
 |x::l,y::m,h1,h2,h=>by
  simp only[Vn,List.cons.injEq]at h;have a1:=h1 x (by simp);have a2:=h2 y (by simp);have e:=congrArg UInt8.toNat h.1;unfold Qbx at e;rw[UInt8.toNat_ofNat',UInt8.toNat_ofNat']at e;have:x=y:=by omega
  rw[this,QgT (λz a=>h1 z (by simp[a])) (λz a=>h2 z (by simp[a])) h.2]
theorem Qi3(f g:Fact):cmpF f g=bif cmpI f.At g.At != 0 then cmpI f.At g.At else bif cmpI f.Crew g.Crew != 0 then cmpI f.Crew g.Crew else bif cmpI f.No g.No != 0 then cmpI f.No g.No else cmpB (encF f).1 (encF g).1:=by
 unfold cmpF orL orL orL orL;generalize cmpI f.At g.At=a;generalize cmpI f.Crew g.Crew=b;generalize cmpI f.No g.No=d;cases i:(a != 0)with
 |true=>simp only[Vt,i]
 |false=>
  simp only[Vu];cases e:(b != 0)with
  |true=>simp only[Vt,e]
  |false=>
   simp only[Vu];cases h:(d != 0)with
   |true=>simp only[Vt,h]
   |false=>rfl
theorem Qk4:CmpOK cmpF:=by
 have h:=QdY (cmpI_ok.on λf:Fact=>f.At) (QdY (cmpI_ok.on λf:Fact=>f.Crew) (QdY (cmpI_ok.on λf:Fact=>f.No) (cb_ok.on λf:Fact=>(encF f).1.map Qbx)));have e:cmpF=λf g=>bif cmpI f.At g.At != 0 then cmpI f.At g.At else bif cmpI f.Crew g.Crew != 0 then cmpI f.Crew g.Crew else bif cmpI f.No g.No != 0 then cmpI f.No g.No else cmpB (encF f).1 (encF g).1:=by
  funext f g;exact Qi3 f g
 rw[e];exact h
def wideE(e:Ent):Bool:=decide (-1125899906842624<=e.lo)&&decide (e.hi<=1125899906842624)
theorem QlL(f:Fact):(entsS f).all wideE=true:=by
 unfold entsS;rw[List.all_append,X0];refine⟨rfl,?_⟩;rcases kinds f with k|k|k|k|k|k|k|k|k|k|k|k|k|k
 case inr.inr.inr.inr.inr.inr.inr.inr.inr.inl=>
  unfold openU;rw[k];show(bodyL (bif (f.Ruling.Kind==1)||(f.Ruling.Kind==2)then .c9 (0,0,0,0,0,0)else bif f.Ruling.Kind==3 then .c9 (1,9999,0,255,1,1099511627776)else bif f.Ruling.Kind==4 then .c9 (1,9999,0,255,1,64)else .c9 (1,9999,0,255,0,0))).all wideE=true;cases((f.Ruling.Kind==1)||(f.Ruling.Kind==2))with
  |true=>rfl
  |false=>
   cases(f.Ruling.Kind==3)with
   |true=>rfl
   |false=>cases(f.Ruling.Kind==4)<;>rfl
 case inr.inr.inr.inr.inr.inr.inr.inr.inr.inr.inr.inr.inr=>rw[k];rfl
 all_goals
  unfold openU;rw[k];rfl
theorem Qe1{f:Fact}(h:validS f=true):∀x∈numsS f,in63 x:=by
 have k:=h;unfold validS at h;rw[Qhm]at h;by_cases q:openU f=.c13 ()
 .rw[q]at h;cases h
 .rw[<- (QdL f q).2];cases a:fineU f (openU f)with
  |false=>rw[a]at h;cases h
  |true=>
   rw[a]at h;cases b:(entsS f).all (inE f (suspB f))with
   |false=>rw[b]at h;cases h
   |true=>
    intro x j;obtain⟨e,d,rfl⟩:=Xe.1 j;have i:=Xu.1 b e d;have g:=Xu.1 (QlL f) e d;unfold inE at i;unfold wideE at g;simp only[X0,Bool.not_eq_true',decide_eq_false_iff_not,Vv]at i g;unfold in63;omega
theorem QgP{f:Fact}(h:validS f=true):encF f=(listB (numsS f),0):=by
 unfold encF;rw[h,Qjq h];rfl
theorem Qdi{f g:Fact}(i:validS f=true)(hg:validS g=true)(h:cmpF f g=0):f=g:=by
 rw[Qi3]at h;have z:cmpB (encF f).1 (encF g).1=0:=by
  cases d:(cmpI f.At g.At != 0)with
  |true=>rw[d]at h;exact absurd h (bne_iff_ne.1 d)
  |false=>
   rw[d]at h;cases a:(cmpI f.Crew g.Crew != 0)with
   |true=>rw[a]at h;exact absurd h (bne_iff_ne.1 a)
   |false=>
    rw[a]at h;cases b:(cmpI f.No g.No != 0)with
    |true=>rw[b]at h;exact absurd h (bne_iff_ne.1 b)
    |false=>rw[b]at h;exact h
 rw[QgP i,QgP hg]at z;have e:=QgT (Qd8 _) (Qd8 _) (QpE z);exact Qm1 i hg (Qlv (Qe1 i) (Qe1 hg) e)
set_option maxRecDepth 4000
theorem Qbq{α:Type}{R:α->α->Prop}(d:∀x,¬R x x)(i:∀x y z,R x y->R y z->R x z):∀{l m:List α},l.Pairwise R->m.Pairwise R->(∀x,x∈l↔x∈m)->l=m
 |[],[],_,_,_=>rfl
 |[],b::m,_,_,h=>by have:=(h b).2 (by simp);cases this
 |a::l,[],_,_,h=>by have:=(h a).1 (by simp);cases this
 |a::l,b::m,hl,hm,h=>by
  rw[Xc]at hl hm;have e:a=b:=by
   rcases Va.1 ((h a).1 (by simp))with e|g
   .exact e
   .rcases Va.1 ((h b).2 (by simp))with e|j
    .exact e.symm
    .exact absurd (i _ _ _ (hl.1 b j) (hm.1 a g)) (d a)
  subst e;congr 1;refine Qbq d i hl.2 hm.2 λx=>?_;constructor
  .intro f;rcases Va.1 ((h x).1 (X9 _ f))with e|g
   .subst e;exact absurd (hl.1 x f) (d x)
   .exact g
  .intro f;rcases Va.1 ((h x).2 (X9 _ f))with e|g
   .subst e;exact absurd (hm.1 x f) (d x)
   .exact g
def insC(x:Fact):List Fact->List Fact
 |[]=>[x]
 |y::r=>bif decide (cmpF y x<0)then y::insC x r else bif y==x then y::r else x::y::r
def canonS(l:List Fact):List Fact:=l.foldl (λa x=>bif validS x then insC x a else a) []
def ltF(a b:Fact):Prop:=cmpF a b<0
theorem QkM(x:Fact):¬ltF x x:=by unfold ltF;have:=Qk4.refl x;omega
theorem Qho(x y z:Fact):ltF x y->ltF y z->ltF x z:=Qk4.trans x y z
theorem Qc7(x:Fact):∀(l:List Fact) (z:Fact),z∈insC x l↔z=x\/z∈l
 |[],z=>by simp[insC]
 |y::r,z=>by
  unfold insC;cases decide (cmpF y x<0)with
  |true=>
   simp only[Vt,Va,Qc7 x r z];constructor
   .rintro(h|h|h)<;>simp[h]
   .rintro(h|h|h)<;>simp[h]
  |false=>
   simp only[Vu];cases h:(y==x)with
   |true=>
    have:y=x:=by simpa using h
    subst this;simp
   |false=>simp
def CanonOK(l:List Fact):Prop:=l.Pairwise ltF/\ ∀f∈l,validS f=true
theorem QkP{x:Fact}(a:validS x=true):∀{l:List Fact},CanonOK l->CanonOK (insC x l)
 |[],_=>⟨by simp[insC],by simp[insC,a]⟩
 |y::r,h=>by
  obtain⟨h1,h2⟩:=h;rw[Xc]at h1;have hr:CanonOK r:=⟨h1.2,λf hf=>h2 f (by simp[hf])⟩;have ih:=QkP a hr;refine⟨?_,λf hf=>?_⟩
  .unfold insC;cases q:decide (cmpF y x<0)with
   |true=>
    simp only[Vt,Xc];refine⟨λz hz=>?_,ih.1⟩;rcases(Qc7 x r z).1 hz with rfl|hz
    .show cmpF y z<0;exact Vz q
    .exact h1.1 z hz
   |false=>
    simp only[Vu];cases q2:(y==x)with
    |true=>simp only[Vt,Xc];exact h1
    |false=>
     simp only[Vu,Xc];have lt:ltF x y:=by
      have b:=VA q;have d:¬cmpF y x=0:=λe=>by
       have:=Qdi (h2 y (by simp)) a e;rw[this]at q2;simp at q2
      have:=Qk4.swap x y;unfold ltF;omega
     refine⟨λz hz=>?_,h1⟩;rcases Va.1 hz with rfl|hz
     .exact lt
     .exact Qho _ _ _ lt (h1.1 z hz)
  .rcases(Qc7 x (y::r) f).1 hf with rfl|hf
   .exact a
   .exact h2 f hf
theorem Qcj(l:List Fact):CanonOK (canonS l)/\ ∀f,f∈canonS l↔f∈l/\validS f=true:=by
 have g:∀(r a:List Fact),CanonOK a->CanonOK (r.foldl (λa x=>bif validS x then insC x a else a) a)/\ ∀f,f∈r.foldl (λa x=>bif validS x then insC x a else a) a↔f∈a\/(f∈r/\validS f=true):=by
  intro r
  induction r with
  |nil=>intro a h;exact⟨h,λf=>by simp⟩
  |cons x r i=>
   intro a h;rw[XH];cases q:validS x with
   |false=>
    obtain⟨e,d⟩:=i a h;refine⟨e,λf=>?_⟩;rw[Vu,d f,Va];constructor
    .rintro(a|⟨a,b⟩)
     .exact .inl a
     .exact .inr ⟨.inr a,b⟩
    .rintro(a|⟨rfl|a,b⟩)
     .exact .inl a
     .rw[q]at b;cases b
     .exact .inr ⟨a,b⟩
   |true=>
    obtain⟨e,d⟩:=i (insC x a) (QkP q h);refine⟨e,λf=>?_⟩;rw[Vt,d f,Qc7,Va];constructor
    .rintro((rfl|a)|⟨a,b⟩)
     .exact .inr ⟨.inl rfl,q⟩
     .exact .inl a
     .exact .inr ⟨.inr a,b⟩
    .rintro(a|⟨rfl|a,b⟩)
     .exact .inl (.inr a)
     .exact .inl (.inl rfl)
     .exact .inr ⟨a,b⟩
 obtain⟨e,d⟩:=g l [] ⟨by simp,by simp⟩;exact⟨e,λf=>by rw[canonS,d f];simp⟩
theorem QfI{l m:List Fact}(h:∀f,validS f=true->(f∈l↔f∈m)):canonS l=canonS m:=by
 obtain⟨b,a⟩:=Qcj l;obtain⟨d,e⟩:=Qcj m;refine Qbq QkM Qho b.1 d.1 λf=>?_;rw[a f,e f];constructor
 .rintro⟨x,y⟩;exact⟨(h f y).1 x,y⟩
 .rintro⟨x,y⟩;exact⟨(h f y).2 x,y⟩
def FirstIs(c:Course)(l:List Fact)(f:Fact):Prop:=f∈l/\okS c f=true/\ ∀g∈l,okS c g=true->g.Starter.Bib=f.Starter.Bib->¬cmpF g f<0
theorem Qhy{c:Course}{l:List Fact}{j:Fact}(z:j∈l)(h0:okS c j=true):∃f,f∈l/\okS c f=true/\(f.Starter.Bib=j.Starter.Bib/\ ∀g∈l,okS c g=true->g.Starter.Bib=f.Starter.Bib->¬cmpF g f<0):=by
 have fin:∀(s:List Fact),(∃g∈s,okS c g=true/\g.Starter.Bib=j.Starter.Bib)->∃f∈s,okS c f=true/\f.Starter.Bib=j.Starter.Bib/\ ∀g∈s,okS c g=true->g.Starter.Bib=j.Starter.Bib->¬cmpF g f<0:=by
  intro s
  induction s with
  |nil=>rintro⟨g,e,_⟩;cases e
  |cons y s r=>
   intro q;by_cases n:okS c y=true/\y.Starter.Bib=j.Starter.Bib
   .by_cases x:∃g∈s,okS c g=true/\g.Starter.Bib=j.Starter.Bib
    .obtain⟨f,t,w,p,m⟩:=r x;by_cases u:cmpF y f<0
     .refine⟨y,by simp,n.1,n.2,?_⟩;intro g e i h;rcases Va.1 e with rfl|e
      .have:=Qk4.refl g;omega
      .intro k;exact m g e i h (Qk4.trans _ _ _ k u)
     .refine⟨f,by simp[t],w,p,?_⟩;intro g e i h;rcases Va.1 e with rfl|e
      .exact u
      .exact m g e i h
    .refine⟨y,by simp,n.1,n.2,?_⟩;intro g e i h;rcases Va.1 e with rfl|e
     .have:=Qk4.refl g;omega
     .exact absurd ⟨g,e,i,h⟩ x
   .have x:∃g∈s,okS c g=true/\g.Starter.Bib=j.Starter.Bib:=by
     obtain⟨g,e,i,h⟩:=q;rcases Va.1 e with rfl|e
     .exact absurd ⟨i,h⟩ n
     .exact⟨g,e,i,h⟩
    obtain⟨f,t,w,p,m⟩:=r x;refine⟨f,by simp[t],w,p,?_⟩;intro g e i h;rcases Va.1 e with rfl|e
    .exact absurd ⟨i,h⟩ n
    .exact m g e i h
 obtain⟨f,t,w,p,m⟩:=fin l ⟨j,z,h0,rfl⟩;exact⟨f,t,w,p,λg a b d=>m g a b (d.trans p)⟩
theorem Ju{c:Course}{f:Fact}(h:okS c f=true):validS f=true:=by
 unfold okS at h;simp only[X0]at h;exact h.2.1
theorem FirstIs.one{c:Course}{l:List Fact}{f g:Fact}(a:FirstIs c l f)(hg:FirstIs c l g)(e:f.Starter.Bib=g.Starter.Bib):f=g:=by
 have d:=a.2.2 g hg.1 hg.2.1 e.symm;have b:=hg.2.2 f a.1 a.2.1 e;have:=Qk4.swap f g;exact Qdi (Ju a.2.1) (Ju hg.2.1) (by omega)
theorem QdO(c:Course)(l:List Fact):∀b f,Ye (firstS c l) b=some f↔f.Starter.Bib=b/\FirstIs c l f:=by
 have L:∀(r p:List Fact) (m:List (Int×Fact)),(∀b f,Ye m b=some f↔f.Starter.Bib=b/\FirstIs c p f)->∀b f,Ye (r.foldl (stepS c) m) b=some f↔f.Starter.Bib=b/\FirstIs c (p++r) f:=by
  intro r
  induction r with
  |nil=>intro p m h b f;rw[List.foldl_nil,Vk];exact h b f
  |cons x r W=>
   intro p m h;have T:∀b f,Ye (stepS c m x) b=some f↔f.Starter.Bib=b/\FirstIs c (p++[x]) f:=by
    intro b f;unfold stepS;cases q:okS c x with
    |false=>
     simp only[Vu];rw[h b f];unfold FirstIs;simp only[VH,VF];constructor
     .rintro⟨a,i,s,t⟩;refine⟨a,.inl i,s,?_⟩;rintro g (d|rfl) j n
      .exact t g d j n
      .rw[q]at j;cases j
     .rintro⟨a,i|i,s,t⟩
      .exact⟨a,i,s,λg d j n=>t g (.inl d) j n⟩
      .subst i;rw[q]at s;cases s
    |true=>
     simp only[Vt];have E:Jq m x.Starter.Bib=(Ye m x.Starter.Bib).isSome:=Qe6 m _;cases e:Ye m x.Starter.Bib with
     |none=>
      rw[e]at E;have B:Jq m x.Starter.Bib=false:=by simpa using E
      rw[B];simp only[Xh,Bool.true_or,Vt];rw[YB];have N:∀g∈p,okS c g=true->g.Starter.Bib=x.Starter.Bib->False:=by
       intro g d j n;have:∃f,FirstIs c p f/\f.Starter.Bib=x.Starter.Bib:=by
        obtain⟨f,G,J,P⟩:=Qhy d j;exact⟨f,⟨G,J,P.2⟩,P.1.trans n⟩
       obtain⟨f,G,J⟩:=this;have:=(h x.Starter.Bib f).2 ⟨J,G⟩;rw[e]at this;cases this
      by_cases w:b=x.Starter.Bib
      .subst w;rw[Vx rfl];constructor
       .rintro⟨⟩;refine⟨rfl,by simp,q,?_⟩;intro g d M F;rcases VH.1 d with d|d
        .exact(N g d M F).elim
        .rw[VF]at d;subst d;have:=Qk4.refl g;omega
       .rintro⟨j,n,H,O⟩;rcases VH.1 n with d|d
        .exact(N f d H j).elim
        .rw[VF]at d;rw[d]
      .rw[Vw w,h b f];unfold FirstIs;simp only[VH,VF];constructor
       .rintro⟨a,i,s,t⟩;refine⟨a,.inl i,s,?_⟩;rintro g (d|rfl) j n
        .exact t g d j n
        .exact absurd (a.symm.trans n.symm) w
       .rintro⟨a,i|i,s,t⟩
        .exact⟨a,i,s,λg d j n=>t g (.inl d) j n⟩
        .subst i;exact absurd a.symm w
     |some y=>
      rw[e]at E;have B:Jq m x.Starter.Bib=true:=by simpa using E
      have u:=(h x.Starter.Bib y).1 e;have V:Qx m x.Starter.Bib Up=y:=by unfold Qx;rw[e];rfl
      rw[B,V];simp only[Xg,Bool.false_or];cases lt:decide (cmpF x y<0)with
      |true=>
       have lt':=Vz lt;simp only[Vt];rw[YB];by_cases w:b=x.Starter.Bib
       .subst w;rw[Vx rfl];constructor
        .rintro⟨⟩;refine⟨rfl,by simp,q,?_⟩;intro g d M F;rcases VH.1 d with d|d
         .intro k;exact u.2.2.2 g d M (F.trans u.1.symm) (Qk4.trans _ _ _ k lt')
         .rw[VF]at d;subst d;have:=Qk4.refl g;omega
        .rintro⟨j,n,H,O⟩;rcases VH.1 n with d|d
         .exfalso;have k:=u.2.2.2 f d H (j.trans u.1.symm);have Y:=O x (by simp) q j.symm;have Q:=Qk4.swap x f;have X:=Qk4.swap y f;have R:cmpF f x<=0:=by omega
          rcases Int.lt_or_eq_of_le R with z|z
          .exact k (Qk4.trans _ _ _ z lt')
          .have:=Qk4.eqt f x y z;omega
         .rw[VF]at d;rw[d]
       .rw[Vw w,h b f];unfold FirstIs;simp only[VH,VF];constructor
        .rintro⟨a,i,s,t⟩;refine⟨a,.inl i,s,?_⟩;rintro g (d|rfl) j n
         .exact t g d j n
         .exact absurd (a.symm.trans n.symm) w
        .rintro⟨a,i|i,s,t⟩
         .exact⟨a,i,s,λg d j n=>t g (.inl d) j n⟩
         .subst i;exact absurd a.symm w
      |false=>
       have lt':=VA lt;simp only[Vu];rw[h b f];unfold FirstIs;simp only[VH,VF];constructor
       .rintro⟨a,i,s,t⟩;refine⟨a,.inl i,s,?_⟩;rintro g (d|rfl) j n
        .exact t g d j n
        .have:f=y:=FirstIs.one ⟨i,s,t⟩ u.2 (n.symm.trans u.1.symm);rw[this];exact lt'
       .rintro⟨a,i|i,s,t⟩
        .exact⟨a,i,s,λg d j n=>t g (.inl d) j n⟩
        .subst i;have k:=t y (.inl u.2.1) u.2.2.1 u.1;have Q:=Qk4.swap f y;have:f=y:=Qdi (Ju s) (Ju u.2.2.1) (by omega);subst this;exact⟨a,u.2⟩
   have:=W (p++[x]) _ T;rw[XH];intro b f;rw[this b f,Vm];rfl
 have:=L l [] [] (λb f=>by
  constructor
  .intro h;cases h
  .rintro⟨_,h,_⟩;cases h)
 intro b f;have:=this b f;rw[Vl]at this;exact this
theorem Qm6{m:List (Int×Fact)}{f:Fact}(h:∀b f,Ye m b=some f->f.Starter.Bib=b):f∈ordF m↔Ye m f.Starter.Bib=some f:=by
 unfold ordF;rw[Xe];constructor
 .rintro⟨k,e,rfl⟩;obtain⟨v,a⟩:=(Qbg m k).1 ((Ql ltI _).mem_iff.1 e);have:Qx m k Up=v:=by unfold Qx;rw[a];rfl
  rw[this,h k v a];exact a
 .intro d;refine⟨f.Starter.Bib,(Ql ltI _).mem_iff.2 ((Qbg m _).2 ⟨f,d⟩),?_⟩;unfold Qx;rw[d];rfl
def ltS(f g:Fact):Prop:=f.Starter.Bib<g.Starter.Bib
theorem Qih{m:List (Int×Fact)}(q:(m.map Prod.fst).Nodup)(h:∀b f,Ye m b=some f->f.Starter.Bib=b):(ordF m).Pairwise ltS:=by
 unfold ordF;rw[List.pairwise_map];have p:=QP (Qcd (m.map Prod.fst));have j:=Ql ltI (m.map Prod.fst);have e:=j.symm.nodup q;have d:∀k∈Ya ltI (m.map Prod.fst),(Qx m k Up).Starter.Bib=k:=by
  intro k d;obtain⟨v,i⟩:=(Qbg m k).1 (j.mem_iff.1 d);have:Qx m k Up=v:=by unfold Qx;rw[i];rfl
  rw[this];exact h k v i
 generalize Ya ltI (m.map Prod.fst)=ks at*;have g:ks.Pairwise λa b=>a<b:=by
  refine List.Pairwise.imp₂ ?_ p e;intro a b n l;simp[ltI]at n;have:a≠b:=l;omega
 refine List.Pairwise.imp_of_mem (λ{a b} ha hb hab=>?_) g;show(Qx m a Up).Starter.Bib<(Qx m b Up).Starter.Bib;rw[d a ha,d b hb];exact hab
theorem QgA(c:Course)(l:List Fact)(f:Fact):f∈ordF (firstS c l)↔FirstIs c l f:=by
 rw[Qm6 λb f h=>((QdO c l b f).1 h).1,QdO];exact⟨λh=>h.2,λh=>⟨rfl,h⟩⟩
theorem Qda(c:Course)(l:List Fact):(ordF (firstS c l)).Pairwise ltS:=Qih (Qcg c l).nodup λb f h=>((QdO c l b f).1 h).1
theorem QoH(x:Fact):¬ltS x x:=by unfold ltS;omega
theorem Qqi(x y z:Fact):ltS x y->ltS y z->ltS x z:=by unfold ltS;omega
theorem QhU{c:Course}{l m:List Fact}(h:∀f,validS f=true->(f∈l↔f∈m)){f:Fact}:FirstIs c l f↔FirstIs c m f:=by
 unfold FirstIs;constructor
 .rintro⟨a,b,d⟩;exact⟨(h f (Ju b)).1 a,b,λg j e i=>d g ((h g (Ju e)).2 j) e i⟩
 .rintro⟨a,b,d⟩;exact⟨(h f (Ju b)).2 a,b,λg j e i=>d g ((h g (Ju e)).1 j) e i⟩
theorem QiE{c:Course}{l m:List Fact}(h:∀f,validS f=true->(f∈l↔f∈m)):ordF (firstS c l)=ordF (firstS c m):=
 Qbq QoH Qqi (Qda c l) (Qda c m) λf=>by rw[QgA,QgA,QhU h]
theorem Qh3{e:Int}{c:Course}{l m:List Fact}(h:∀f,validS f=true->(f∈l↔f∈m)):startF e c l=startF e c m:=by
 unfold startF;rw[QiE h]
set_option maxRecDepth 4000
def nb(v lo hi:Int):Bool:= !(decide (v<lo))&& !(decide (hi<v))
theorem QdH(v lo hi:Int):nb v lo hi=true↔lo<=v/\v<=hi:=by
 unfold nb;simp only[X0,Bool.not_eq_true',decide_eq_false_iff_not];omega
def contR(f:Fact):Bool:=
 bif f.Kind==1 then true&&(nb f.Starter.Bib 1 9999&&(nb f.Starter.Distance 0 7&&(nb f.Starter.Wave 0 31&&(nb f.Starter.Slot (-1099511627776) 1099511627776&&(nb f.Starter.Age 0 120&&(nb f.Starter.Chip 0 1048576&&(nb f.Starter.Team 0 9999&&(nb f.Starter.Lot 0 1048576&&true))))))))
 else bif f.Kind==2 then true&&(nb f.Read.Mat 0 39&&(nb f.Read.Epoch 0 255&&(nb f.Read.Chip 0 1048576&&(nb f.Read.Local (-1099511627776) 1099511627776&&true))))
 else bif f.Kind==3 then true&&(nb f.Beacon.Mat 0 39&&(nb f.Beacon.Epoch 0 255&&(nb f.Beacon.Local (-1099511627776) 1099511627776&&(nb f.Beacon.True (-1099511627776) 1099511627776&&(nb f.Beacon.Err 0 1099511627776&&true)))))
 else bif f.Kind==4 then decide (f.Sync.Min<=f.Sync.Max)&&(nb f.Sync.MatA 0 39&&(nb f.Sync.EpochA 0 255&&(nb f.Sync.LocalA (-1099511627776) 1099511627776&&(nb f.Sync.MatB 0 39&&(nb f.Sync.EpochB 0 255&&(nb f.Sync.LocalB (-1099511627776) 1099511627776&&(nb f.Sync.Min (-1099511627776) 1099511627776&&(nb f.Sync.Max (-1099511627776) 1099511627776&&true))))))))
 else bif f.Kind==5 then decide (f.Hand.Lo<=f.Hand.Hi)&&(nb f.Hand.Bib 1 9999&&(nb f.Hand.Position 0 255&&(nb f.Hand.Lo (-1099511627776) 1099511627776&&(nb f.Hand.Hi (-1099511627776) 1099511627776&&true))))
 else bif f.Kind==6 then decide (f.Silence.Lo<=f.Silence.Hi)&&(nb f.Silence.Mat 0 39&&(nb f.Silence.Epoch 0 255&&(nb f.Silence.Lo (-1099511627776) 1099511627776&&(nb f.Silence.Hi (-1099511627776) 1099511627776&&true))))
 else bif f.Kind==7 then decide (f.Pair.A<f.Pair.B)&&(nb f.Pair.A 1 9999&&(nb f.Pair.B 1 9999&&true))
 else bif f.Kind==8 then true&&(nb f.Report.Case 1 1048576&&(nb f.Report.Bib 1 9999&&(nb f.Report.Offence 0 31&&(nb f.Report.Position 0 255&&true))))
 else bif f.Kind==9 then true&&(nb f.Protest.Case 1 1048576&&(nb f.Protest.By 0 9999&&(nb f.Protest.Fee 0 1125899906842624&&(nb f.Protest.Form 0 1&&true))))
 else bif f.Kind==10 then true&&(nb f.Ruling.Case 1 1048576&&(nb f.Ruling.Instance 1 2&&(nb f.Ruling.Kind 1 5&&(bif (f.Ruling.Kind==1)||(f.Ruling.Kind==2)then nb f.Ruling.Bib 0 0&&(nb f.Ruling.Position 0 0&&(nb f.Ruling.Amount 0 0&&true))else bif f.Ruling.Kind==3 then nb f.Ruling.Bib 1 9999&&(nb f.Ruling.Position 0 255&&(nb f.Ruling.Amount 1 1099511627776&&true))else bif f.Ruling.Kind==4 then nb f.Ruling.Bib 1 9999&&(nb f.Ruling.Position 0 255&&(nb f.Ruling.Amount 1 64&&true))else nb f.Ruling.Bib 1 9999&&(nb f.Ruling.Position 0 255&&(nb f.Ruling.Amount 0 0&&true))))))
 else bif f.Kind==11 then true&&(nb f.Appeal.Case 1 1048576&&(nb (suspB f) 0 1&&true))
 else bif f.Kind==12 then true&&true
 else bif f.Kind==13 then true&&(nb f.Void.Crew 0 31&&(nb f.Void.No 1 1048576&&true))
 else false
theorem QoJ(f:Fact):(f.Kind=1\/f.Kind=2\/f.Kind=3\/f.Kind=4\/f.Kind=5\/f.Kind=6\/f.Kind=7\/f.Kind=8\/f.Kind=9\/f.Kind=10\/f.Kind=11\/f.Kind=12\/f.Kind=13)\/((f.Kind==1)=false/\(f.Kind==2)=false/\(f.Kind==3)=false/\(f.Kind==4)=false/\(f.Kind==5)=false/\(f.Kind==6)=false/\(f.Kind==7)=false/\(f.Kind==8)=false/\(f.Kind==9)=false/\(f.Kind==10)=false/\(f.Kind==11)=false/\(f.Kind==12)=false/\(f.Kind==13)=false):=by
 by_cases h:1<=f.Kind/\f.Kind<=13
 .left;omega
 .right;simp only[VD,ne_eq];omega
theorem QnU(f:Fact):contS f=contR f:=by
 rcases QoJ f with k|⟨w,t,p,r,q,y,x,u,s,i,j,h,g⟩
 .rcases k with k|k|k|k|k|k|k|k|k|k|k|k|k
  case inr.inr.inr.inr.inr.inr.inr.inr.inr.inl=>
   obtain⟨Cr,No,At,Ki,S,R,B,Sy,Ha,Si,Pa,Re,Pr,⟨l,m,a,e,d,b⟩,Ap,Vo⟩:=f;simp only at k;subst k;have n:openU ⟨Cr,No,At,10,S,R,B,Sy,Ha,Si,Pa,Re,Pr,⟨l,m,a,e,d,b⟩,Ap,Vo⟩=(bif (a==1)||(a==2)then U_facts_open_rxk.c9 (0,0,0,0,0,0)else bif a==3 then .c9 (1,9999,0,255,1,1099511627776)else bif a==4 then .c9 (1,9999,0,255,1,64)else .c9 (1,9999,0,255,0,0)):=rfl;have z:contR ⟨Cr,No,At,10,S,R,B,Sy,Ha,Si,Pa,Re,Pr,⟨l,m,a,e,d,b⟩,Ap,Vo⟩=(true&&(nb l 1 1048576&&(nb m 1 2&&(nb a 1 5&&(bif (a==1)||(a==2)then nb e 0 0&&(nb d 0 0&&(nb b 0 0&&true))else bif a==3 then nb e 1 9999&&(nb d 0 255&&(nb b 1 1099511627776&&true))else bif a==4 then nb e 1 9999&&(nb d 0 255&&(nb b 1 64&&true))else nb e 1 9999&&(nb d 0 255&&(nb b 0 0&&true))))))):=rfl;rw[z];unfold contS;rw[n];cases((a==1)||(a==2))with
   |true=>rfl
   |false=>
    cases(a==3)with
    |true=>rfl
    |false=>cases(a==4)<;>rfl
  case inr.inr.inr.inr.inr.inr.inr.inr.inr.inr.inl=>
   obtain⟨Cr,No,At,Ki,S,R,B,Sy,Ha,Si,Pa,Re,Pr,Ru,⟨Ca,Su⟩,Vo⟩:=f;simp only at k;subst k;cases Su<;>rfl
  all_goals
   obtain⟨Cr,No,At,Ki,S,R,B,Sy,Ha,Si,Pa,Re,Pr,Ru,Ap,Vo⟩:=f;simp only at k;subst k;rfl
 .have n:openU f=.c13 ():=by unfold openU;rw[w,t,p,r,q,y,x,u,s,i,j,h,g];rfl
  unfold contS contR;rw[n,w,t,p,r,q,y,x,u,s,i,j,h,g];rfl
theorem Qiv(x:Fact):∀l:List Fact,(insC x l).length<=l.length+1
 |[]=>by simp[insC]
 |y::r=>by
  unfold insC;have:=Qiv x r;cases decide (cmpF y x<0)with
  |true=>simp only[Vt,X5];omega
  |false=>cases(y==x)<;>simp
theorem QhJ{α:Type}(l m:List α)(h:l.length+m.length<=4000000):app l m=some (l++m):=by
 unfold app;have:Nat.ble (l.length+m.length) Qy=true:=XW (XZ h (by decide));rw[this];rfl
theorem Qlh{α:Type}[DecidableEq α](l m:List α)(step:Nat->Int->Option (Ctl Int (Ctl Unit Bool)))(hl:l.length<=4611686018427387904)
  (j:∀n s,step n s=(bif decide (s<(l.length:Int))then(idx l s).bind λx=>(idx m s).bind λy=>(bif (x != y)then some (.done (.done false))else some (.cont (IntKind.i64.wrap (s+1))))else some (.done (.cont ())))):
  Ev (λn=>(bif ((l.length:Int) != (m.length:Int))then some false else(Go.Sw.iter (step n) n 0:Option (Ctl Unit Bool)).bind λb11=>match b11 with|.cont sb11=>(some true)|.done sb11=>some sb11)) (decide (l=m)):=by
 by_cases d:l.length=m.length
 .rw[show((l.length:Int) != (m.length:Int))=false by rw[d];simp];simp only[Vu];have loop:∀(r b:List α) (i:Nat),l.drop i=r->m.drop i=b->i<=l.length->EvI step (i:Int) (bif decide (r=b)then Ctl.cont ()else Ctl.done false):=by
   intro r
   induction r with
   |nil=>
    intro b i h a q;have t:l.length<=i:=Xs.1 h;have:b=[]:=by rw[<- a];exact Xs.2 (by omega)
    subst this;refine Ej ?_;refine Qf1 (Qa _) λn=>?_;rw[j,Ym h q];simp
   |cons x r w=>
    intro b i h a q;obtain⟨f,k⟩:=QK hl h;have u:=f.lt';cases b with
    |nil=>
     have t:m.length<=i:=Xs.1 a;omega
    |cons y b=>
     obtain⟨p,g⟩:=QK (by omega) a;by_cases e:x=y
     .subst e;refine Ex ?_ ((w b (i+1) k g (by omega)).eq ?_)
      .refine Qf1 (Qa _) λn=>?_;rw[j,f.lt,f.ix,p.ix,Vt,XN,XN,f.nx];simp
      .congr 1;simp
     .refine Ej ?_;refine Qf1 (Qa _) λn=>?_;rw[j,f.lt,f.ix,p.ix,Vt,XN,XN,bne_iff_ne.2 e];simp[e]
  refine Ea (loop l m 0 rfl rfl (XY _)).ev ?_;cases decide (l=m)<;>exact Qa _
 .rw[show((l.length:Int) != (m.length:Int))=true by rw[bne_iff_ne];omega];refine(Qa _).eq ?_;rw[Yx λe=>d (by rw[e])]
theorem Qem{c:Course}(h:Course.wf c):CourseOk c:=by
 obtain⟨m,⟨k,l⟩,⟨q,r⟩,⟨i,b⟩,⟨e,j⟩,⟨g,p⟩,⟨d,n⟩,⟨f,s⟩,_⟩:=h;exact⟨m,k,λx a=>(l x a).1,q,i,λx a=>(b x a).1,λx a=>(b x a).2.2.2.1.1,e,λx a=>(j x a).1,g,λx a=>(p x a).1,d,λx a=>(n x a).1,f⟩
theorem QfQ{c:Course}(h:Course.wf c):PartsOk c:=by
 obtain⟨_,_,_,⟨e,b⟩,_⟩:=h;exact⟨λd a=>(b d a).2.1.1,λd a=>(b d a).2.1.2⟩
theorem Qoy{c:Course}(h:Course.wf c):c.Ties.length<=1048576/\ ∀x∈c.Ties,Step.wf x:=by
 obtain⟨_,_,_,_,_,_,_,_,a,_⟩:=h;exact a
theorem Qju(e:Int)(c:Course)(l:List Fact):(startF e c l).1.length<=l.length:=by
 unfold startF;cases(e != 0)with
 |true=>exact XY _
 |false=>
  simp only[Vu];cases decide (((ordF (firstS c l)).map chipK).Nodup)with
  |false=>exact XY _
  |true=>simp only[Vt];rw[X6,Qii];exact(Qcg c l).len
theorem QfJ(l:List Fact):(canonS l).length<=l.length:=by
 have:∀(m a:List Fact),(m.foldl (λa x=>bif validS x then insC x a else a) a).length<=a.length+m.length:=by
  intro m
  induction m with
  |nil=>intro a;simp
  |cons x m b=>
   intro a;rw[XH,X5];have e:=b (bif validS x then insC x a else a);have d:(bif validS x then insC x a else a).length<=a.length+1:=by
    cases validS x with
    |true=>exact Qiv x a
    |false=>simp
   omega
 have:=this l [];simpa[canonS]using this
def rulB(k i:Int)(f:Fact):Bool:=(f.Kind==10)&&((f.Ruling.Case==k)&&(f.Ruling.Instance==i))
def repB(k:Int)(f:Fact):Bool:=(f.Kind==8)&&(f.Report.Case==k)
def appB(k:Int)(f:Fact):Bool:=(f.Kind==11)&&(f.Appeal.Suspends&&(f.Appeal.Case==k))
def caseN(f:Fact):Option Int:=bif f.Kind==10 then some f.Ruling.Case else bif f.Kind==8 then some f.Report.Case else bif (f.Kind==11)&&f.Appeal.Suspends then some f.Appeal.Case else none
def fileOf(P:List Fact)(k:Int):Ue:=⟨k,P.filter (rulB k 0),P.filter (rulB k 1),P.filter (rulB k 2),(P.filter (repB k)).map (·.Report),P.any (appB k)⟩
theorem QaH{k i:Int}{f:Fact}(h:rulB k i f=true):caseN f=some k:=by
 unfold rulB at h;rw[X0,X0,VC (a:=f.Ruling.Case)]at h;unfold caseN;rw[h.1,Vt,h.2.1]
theorem Qgm{k:Int}{f:Fact}(h:repB k f=true):caseN f=some k:=by
 unfold repB at h;rw[X0,VC,VC]at h;unfold caseN;rw[h.1,h.2];rfl
theorem QgU{k:Int}{f:Fact}(h:appB k f=true):caseN f=some k:=by
 unfold appB at h;rw[X0,X0,VC,VC]at h;unfold caseN;rw[h.1,h.2.1,h.2.2];rfl
theorem Qa2{α:Type}{p:α->Bool}{l:List α}(h:∀x∈l,p x=false):l.filter p=[]:=by
 rw[List.filter_eq_nil_iff];intro x a;rw[h x a];exact Bool.false_ne_true
theorem Qa7{b:Bool}(h:¬b=true):b=false:=by cases b with
 |true=>exact absurd rfl h
 |false=>rfl
theorem QjT{P:List Fact}{k:Int}(h:∀f∈P,caseN f≠some k):fileOf P k=Qar k:=by
 unfold fileOf Qar;rw[Qa2 λf a=>Qa7 λq=>h f a (QaH q),Qa2 λf a=>Qa7 λq=>h f a (QaH q),Qa2 λf a=>Qa7 λq=>h f a (QaH q),
  Qa2 λf a=>Qa7 λq=>h f a (Qgm q),show P.any (appB k)=false from List.any_eq_false.2 λf a q=>h f a (QgU q)]
 rfl
theorem QC{α:Type}(p:α->Bool)(l:List α)(x:α):(l++[x]).filter p=bif p x then l.filter p++[x]else l.filter p:=by
 rw[List.filter_append];cases h:p x<;>simp[h]
theorem Qdb{P:List Fact}{f:Fact}{k:Int}(h:caseN f≠some k):fileOf (P++[f]) k=fileOf P k:=by
 unfold fileOf;rw[QC,QC,QC,QC,Qa7 λq=>h (QaH (i:=0) q),Qa7 λq=>h (QaH (i:=1) q),Qa7 λq=>h (QaH (i:=2) q),Qa7 λq=>h (Qgm q),List.any_append,List.any_cons,List.any_nil,
  Qa7 λq=>h (QgU q)]
 simp
structure FilesOf (P:List Fact) (fs:List Ue):Prop where
 num:(fs.map (·.number)).Nodup
 each:∀x∈fs,x=fileOf P x.number
 mem:∀k,k∈fs.map (·.number)↔ ∃f∈P,caseN f=some k
theorem FilesOf.nil:FilesOf [] []:=⟨List.nodup_nil,(λ_ h=>by cases h),λk=>by simp⟩
theorem FilesOf.skip{P:List Fact}{fs:List Ue}{f:Fact}(h:FilesOf P fs)(d:caseN f=none):FilesOf (P++[f]) fs:=by
 refine⟨h.num,λx e=>?_,λk=>?_⟩
 .rw[Qdb (by rw[d];intro q;cases q)];exact h.each x e
 .rw[h.mem k];constructor
  .rintro⟨g,b,a⟩;exact⟨g,by simp[b],a⟩
  .rintro⟨g,b,a⟩;rcases VH.1 b with q|q
   .exact⟨g,q,a⟩
   .rw[VF.1 q,d]at a;cases a
theorem FilesOf.put{P:List Fact}{fs:List Ue}{f:Fact}{k:Int}{g:Ue->Ue}(h:FilesOf P fs)(n:caseN f=some k)(B:∀x,(g x).number=x.number)(hg:g (fileOf P k)=fileOf (P++[f]) k):FilesOf (P++[f]) (Qbp (Qah fs k) k g):=by
 have w:∀x∈Qah fs k,x=fileOf P x.number:=by
  by_cases q:∃x∈fs,x.number=k
  .rw[Qc8 q];exact h.each
  .have i:∀x∈fs,x.number≠k:=λx d e=>q ⟨x,d,e⟩;rw[Qb0 i];intro x d;rcases VH.1 d with z|z
   .exact h.each x z
   .rw[VF.1 z];refine(QjT (k:=k) λa r e=>?_).symm;obtain⟨x,d,H⟩:=Xe.1 ((h.mem k).2 ⟨a,r,e⟩);exact i x d H
 have u:((Qah fs k).map (·.number)).Nodup:=by
  by_cases q:∃x∈fs,x.number=k
  .rw[Qc8 q];exact h.num
  .have i:∀x∈fs,x.number≠k:=λx d e=>q ⟨x,d,e⟩;rw[Qb0 i,Xf,List.nodup_append];refine⟨h.num,by simp,?_⟩;intro a r b F;obtain⟨x,d,rfl⟩:=Xe.1 r;have t:b=k:=by simpa[Qar]using F
   rw[t];exact i x d
 have s:∀j,j∈(Qah fs k).map (·.number)↔j=k\/j∈fs.map (·.number):=by
  intro j;by_cases q:∃x∈fs,x.number=k
  .rw[Qc8 q];constructor
   .exact .inr
   .rintro(rfl|z)
    .obtain⟨x,d,e⟩:=q;exact Xe.2 ⟨x,d,e⟩
    .exact z
  .rw[Qb0 λx d e=>q ⟨x,d,e⟩,Xf,VH];simp only[Vn,Vp,VF,Qar];exact Or.comm
 have m:(Qbp (Qah fs k) k g).map (·.number)=(Qah fs k).map (·.number):=by
  unfold Qbp;rw[List.map_map];refine List.map_congr_left λx _=>?_;show(bif decide (x.number=k)then g x else x).number=x.number;cases decide (x.number=k)with
  |true=>exact B x
  |false=>rfl
 refine⟨by rw[m];exact u,λx d=>?_,λj=>?_⟩
 .obtain⟨y,G,rfl⟩:=Xe.1 d;have E:=w y G;cases q:decide (y.number=k)with
  |true=>
   have i:=Vz q;show g y=fileOf _ (g y).number;rw[B,i, <- hg, <- i, <- E]
  |false=>
   have i:=VA q;show y=fileOf _ y.number;rw[Qdb (by rw[n];intro z;cases z;exact i rfl)];exact E
 .rw[m,s,h.mem j];constructor
  .rintro(rfl|⟨a,p,l⟩)
   .exact⟨f,by simp,n⟩
   .exact⟨a,by simp[p],l⟩
  .rintro⟨a,p,l⟩;rcases VH.1 p with z|z
   .exact .inr ⟨a,z,l⟩
   .rw[VF.1 z,n]at l;cases l;exact .inl rfl
theorem FilesOf.room{P:List Fact}{fs:List Ue}{k:Int}(h:FilesOf P fs)(hl:P.length<1048576):Qd4 (Qah fs k)=true:=by
 have b:∀n,n<=P.length->Nat.ble (n+1) Qy=true:=λn d=>Qch (by omega);have one:∀j,(λx:Ue=>Nat.ble (x.r0.length+1) Qy&&Nat.ble (x.r1.length+1) Qy&&Nat.ble (x.r2.length+1) Qy&&Nat.ble (x.reports.length+1) Qy) (fileOf P j)=true:=by
  intro j;simp only[fileOf,X6];rw[b _ (VS ..),b _ (VS ..),b _ (VS ..),b _ (VS ..)];rfl
 unfold Qd4;refine Xu.2 λx a=>?_;by_cases q:∃x∈fs,x.number=k
 .rw[Qc8 q]at a;rw[h.each x a];exact one _
 .rw[Qb0 λx a e=>q ⟨x,a,e⟩]at a;rcases VH.1 a with z|z
  .rw[h.each x z];exact one _
  .rw[VF.1 z];simp only[Qar,List.length_nil];decide
theorem Qd0{f:Fact}(h:validS f=true):headS f=true/\contR f=true/\onlyS f=f:=by
 rw[Qdy,X0,X0,QnU,VC]at h;exact⟨h.1.1,h.1.2,h.2⟩
theorem Qll{f:Fact}(h:validS f=true)(k:f.Kind=10):(1<=f.Ruling.Case/\(f.Ruling.Instance=1\/f.Ruling.Instance=2))/\(0<=f.Ruling.Bib/\f.Ruling.Bib<=9999)/\f.Report=Up.Report:=by
 obtain⟨_,b,m⟩:=Qd0 h;have e:f.Report=(onlyS f).Report:=by rw[m]
 have l:(onlyS f).Report=bif f.Kind==8 then f.Report else Up.Report:=rfl
 rw[l,k]at e;refine⟨?_,?_,e⟩
 .unfold contR at b;rw[k]at b;have d:(true&&(nb f.Ruling.Case 1 1048576&&(nb f.Ruling.Instance 1 2&&(nb f.Ruling.Kind 1 5&&(bif (f.Ruling.Kind==1)||(f.Ruling.Kind==2)then nb f.Ruling.Bib 0 0&&(nb f.Ruling.Position 0 0&&(nb f.Ruling.Amount 0 0&&true))else bif f.Ruling.Kind==3 then nb f.Ruling.Bib 1 9999&&(nb f.Ruling.Position 0 255&&(nb f.Ruling.Amount 1 1099511627776&&true))else bif f.Ruling.Kind==4 then nb f.Ruling.Bib 1 9999&&(nb f.Ruling.Position 0 255&&(nb f.Ruling.Amount 1 64&&true))else nb f.Ruling.Bib 1 9999&&(nb f.Ruling.Position 0 255&&(nb f.Ruling.Amount 0 0&&true)))))))=true:=b;simp only[X0,QdH]at d;obtain⟨_,a,n,_⟩:=d;exact⟨a.1,by omega⟩
 .unfold contR at b;rw[k]at b;have d:(true&&(nb f.Ruling.Case 1 1048576&&(nb f.Ruling.Instance 1 2&&(nb f.Ruling.Kind 1 5&&(bif (f.Ruling.Kind==1)||(f.Ruling.Kind==2)then nb f.Ruling.Bib 0 0&&(nb f.Ruling.Position 0 0&&(nb f.Ruling.Amount 0 0&&true))else bif f.Ruling.Kind==3 then nb f.Ruling.Bib 1 9999&&(nb f.Ruling.Position 0 255&&(nb f.Ruling.Amount 1 1099511627776&&true))else bif f.Ruling.Kind==4 then nb f.Ruling.Bib 1 9999&&(nb f.Ruling.Position 0 255&&(nb f.Ruling.Amount 1 64&&true))else nb f.Ruling.Bib 1 9999&&(nb f.Ruling.Position 0 255&&(nb f.Ruling.Amount 0 0&&true)))))))=true:=b;simp only[X0]at d;obtain⟨_,_,_,_,a⟩:=d;cases g:((f.Ruling.Kind==1)||(f.Ruling.Kind==2))with
  |true=>rw[g]at a;simp only[Vt,X0,QdH]at a;omega
  |false=>
   rw[g,Vu]at a;cases j:(f.Ruling.Kind==3)with
   |true=>rw[j]at a;simp only[Vt,X0,QdH]at a;omega
   |false=>
    rw[j,Vu]at a;cases i:(f.Ruling.Kind==4)with
    |true=>rw[i]at a;simp only[Vt,X0,QdH]at a;omega
    |false=>rw[i]at a;simp only[Vu,X0,QdH]at a;omega
theorem Qca{f:Fact}(k:f.Kind=10)(j:Int):rulB f.Ruling.Case j f=(f.Ruling.Instance==j):=by
 unfold rulB;rw[k];simp
theorem Qhz{P:List Fact}{fs:List Ue}{f:Fact}(h:FilesOf P fs)(hl:P.length<1048576)(r:validS f=true):∃fs',filesStep fs f=some fs'/\FilesOf (P++[f]) fs':=by
 unfold filesStep;cases a:(f.Kind==10)with
 |true=>
  have k:f.Kind=10:=by simpa using a
  obtain⟨⟨_,e⟩,_⟩:=Qll r k;have m:caseN f=some f.Ruling.Case:=by unfold caseN;rw[a];rfl
  have n:repB f.Ruling.Case f=false:=by unfold repB;rw[k];rfl
  have d:appB f.Ruling.Case f=false:=by unfold appB;rw[k];rfl
  simp only[Vt,h.room hl];unfold filesAdd;rcases e with e|e
  .refine⟨Qbp (Qah fs f.Ruling.Case) f.Ruling.Case λx=>{x with r1:=x.r1++[f]},by rw[e];rfl,h.put m (λx=>rfl) ?_⟩;unfold fileOf;rw[QC,QC,QC,QC,Qca k,Qca k,Qca k,e,n,List.any_append,List.any_cons,List.any_nil,d];simp
  .refine⟨Qbp (Qah fs f.Ruling.Case) f.Ruling.Case λx=>{x with r2:=x.r2++[f]},by rw[e];rfl,h.put m (λx=>rfl) ?_⟩;unfold fileOf;rw[QC,QC,QC,QC,Qca k,Qca k,Qca k,e,n,List.any_append,List.any_cons,List.any_nil,d];simp
 |false=>
  simp only[Vu];have l:∀j i,rulB j i f=false:=λj i=>by unfold rulB;rw[a];rfl
  cases g:(f.Kind==8)with
  |true=>
   have k:f.Kind=8:=by simpa using g
   have m:caseN f=some f.Report.Case:=by unfold caseN;rw[a,g];rfl
   have s:repB f.Report.Case f=true:=by unfold repB;rw[k];simp
   have d:appB f.Report.Case f=false:=by unfold appB;rw[k];rfl
   simp only[Vt,h.room hl];refine⟨Qbp (Qah fs f.Report.Case) f.Report.Case λx=>{x with reports:=x.reports++[f.Report]},rfl,h.put m (λx=>rfl) ?_⟩;unfold fileOf;rw[QC,QC,QC,QC,l,l,l,s,List.any_append,List.any_cons,List.any_nil,d];simp
  |false=>
   simp only[Vu];have n:∀j,repB j f=false:=λj=>by unfold repB;rw[g];rfl
   cases b:(f.Kind==11)with
   |true=>
    simp only[Vt];cases p:f.Appeal.Suspends with
    |true=>
     have m:caseN f=some f.Appeal.Case:=by unfold caseN;rw[a,g,b,p];rfl
     have q:appB f.Appeal.Case f=true:=by unfold appB;rw[b,p];simp
     refine⟨Qbp (Qah fs f.Appeal.Case) f.Appeal.Case λx=>{x with appeal:=true},rfl,h.put m (λx=>rfl) ?_⟩;unfold fileOf;rw[QC,QC,QC,QC,l,l,l,n,List.any_append,List.any_cons,List.any_nil,q];simp
    |false=>exact⟨_,rfl,h.skip (by unfold caseN;rw[a,g,b,p];rfl)⟩
   |false=>exact⟨_,rfl,h.skip (by unfold caseN;rw[a,g,b];rfl)⟩
def SameF(l m:List Fact):Prop:=∀f,validS f=true->(f∈l↔f∈m)
theorem SameF.symm{l m:List Fact}(h:SameF l m):SameF m l:=λf hf=>(h f hf).symm
theorem SameF.filter{l m:List Fact}(h:SameF l m)(p:Fact->Bool):SameF (l.filter p) (m.filter p):=λf hf=>by rw[Xd,Xd,h f hf]
def repStep(k:Int)(r f:Fact):Fact:=bif validS f&&repB k f then(bif (r.Kind==0)||decide (cmpF f r<0)then f else r)else r
structure RepOf (k:Int) (P:List Fact) (r:Fact):Prop where
 none:(r.Kind==0)=true->r=Up/\ ∀f∈P,validS f=true->repB k f=false
 some:(r.Kind==0)=false->r∈P/\validS r=true/\repB k r=true/\ ∀f∈P,validS f=true->repB k f=true->¬cmpF f r<0
theorem Qgl{k:Int}{f:Fact}(h:repB k f=true):(f.Kind==0)=false:=by
 unfold repB at h;rw[X0,VC]at h;rw[h.1];rfl
theorem RepOf.nil(k:Int):RepOf k [] Up:=⟨λ_=>⟨rfl,λ_ h=>by cases h⟩,λh=>by cases h⟩
theorem RepOf.step{k:Int}{P:List Fact}{r f:Fact}(h:RepOf k P r):RepOf k (P++[f]) (repStep k r f):=by
 unfold repStep;cases q:validS f&&repB k f with
 |false=>
  simp only[Vu];have n:¬(validS f=true/\repB k f=true):=λz=>by rw[z.1,z.2]at q;cases q
  refine⟨λz=>⟨(h.none z).1,λg l i=>?_⟩,λz=>?_⟩
  .rcases VH.1 l with w|w
   .exact(h.none z).2 g w i
   .rw[VF.1 w]at i⊢;exact Qa7 λy=>n ⟨i,y⟩
  .obtain⟨a,b,c,d⟩:=h.some z;refine⟨by simp[a],b,c,λg l i j=>?_⟩;rcases VH.1 l with w|w
   .exact d g w i j
   .rw[VF.1 w]at i j;exact absurd ⟨i,j⟩ n
 |true=>
  rw[X0]at q;simp only[Vt];cases z:(r.Kind==0)with
  |true=>
   simp only[Bool.true_or,Vt];refine⟨λw=>(by rw[Qgl q.2]at w;cases w),λ_=>⟨by simp,q.1,q.2,λg l i j=>?_⟩⟩;rcases VH.1 l with w|w
   .rw[(h.none z).2 g w i]at j;cases j
   .rw[VF.1 w];have:=Qk4.refl f;omega
  |false=>
   simp only[Bool.false_or];obtain⟨a,b,c,d⟩:=h.some z;cases y:decide (cmpF f r<0)with
   |true=>
    have m:=Vz y;simp only[Vt];refine⟨λw=>(by rw[Qgl q.2]at w;cases w),λ_=>⟨by simp,q.1,q.2,λg l i j=>?_⟩⟩;rcases VH.1 l with w|w
    .intro e;exact d g w i j (Qk4.trans _ _ _ e m)
    .rw[VF.1 w];have:=Qk4.refl f;omega
   |false=>
    have m:=VA y;simp only[Vu];refine⟨λw=>(by rw[z]at w;cases w),λ_=>⟨by simp[a],b,c,λg l i j=>?_⟩⟩;rcases VH.1 l with w|w
    .exact d g w i j
    .rw[VF.1 w];exact m
section
variable {α β:Type}
theorem Qbv(q:α->Bool):∀(l a:List α),l.foldl (λa x=>bif q x then a++[x]else a) a=a++l.filter q
 |[],a=>by simp
 |x::l,a=>by
  rw[XH,Qbv q l,List.filter_cons];cases h:q x<;>simp
theorem Qkt{step:Nat->List α×Int->Option (Ctl (List α×Int) (List α))}(l:List α)(q:α->Bool)(hl:l.length<=1048576)
  (f:∀i x a,At l i x->a.length<=i->Ev (λn=>step n (a,(i:Int))) (.cont ((bif q x then a++[x]else a),((i+1:Nat):Int))))
  (d:∀a,Ev (λn=>step n (a,(l.length:Int))) (.done a)):Ev (λn=>Go.Sw.iter (step n) n ([],0)) (l.filter q):=by
 have e:l.filter q=l.foldl (λa x=>bif q x then a++[x]else a) []:=by rw[Qbv];rfl
 rw[e];refine Q5 l (λa x=>bif q x then a++[x]else a) [] (λa i=>(a,(i:Int))) (λa=>a) (by omega) rfl (λi x a b g=>f i x a b ?_) (d _);rw[g,Qbv,Vl];exact XZ (VS ..) (by rw[XA];omega)
theorem Qgw{l:List α}[DecidableEq (List α)](hl:l.length<=1048576):isNil l (some ([]:List α)) ((app ([]:List α) l).bind λx=>some x)=some l:=by
 have:app ([]:List α) l=some l:=by rw[Qbz _ _ (by simp;omega)];rfl
 unfold isNil;cases l with
 |nil=>rw[this];simp
 |cons a l=>rw[this];rfl
theorem Qoi{F:Nat->α->α->Option β}{V:α->α->β}(l:List α)(h:∀x∈l,∀y∈l,Ev (λn=>F n x y) (V x y)):∃N,∀n,N<=n->∀x∈l,∀y∈l,F n x y=some (V x y):=by
 obtain⟨N,e⟩:=QaT (F:=λn (p:α×α)=>F n p.1 p.2) (V:=λp=>V p.1 p.2) (l.flatMap λx=>l.map λy=>(x,y)) (by
  intro p a;rw[List.mem_flatMap]at a;obtain⟨x,b,a⟩:=a;obtain⟨y,d,rfl⟩:=Xe.1 a;exact h x b y d)
 exact⟨N,λn f x b y d=>e n f (x,y) (List.mem_flatMap.2 ⟨x,b,Xe.2 ⟨y,d,rfl⟩⟩)⟩
def ltC(c:α->α->Int)(x y:α):Bool:=decide (c x y<0)
theorem Qce{c:α->α->Int}(d:CmpOK c)(l:List α):Qei (ltC c) l:=by
 refine⟨λx _=>?_,λx _ y _ z _ g f=>?_,λx _ y _ z _ g f=>?_⟩
 .have:=d.refl x;exact VB (by omega)
 .have g:=Vz g;have f:=Vz f;exact Vy (d.trans x y z g f)
 .have g:=VA g;have f:=VA f;refine VB λh=>?_;have a:=d.swap x y;have b:=d.swap y z;by_cases e:c x y=0
  .rw[d.eqt x y z e]at h;exact f h
  .by_cases i:c y z=0
   .rw[<- d.eqr x i]at h;exact g h
   .have j:=d.trans z y x (by omega) (by omega);have:=d.swap x z;omega
theorem Qlg[DecidableEq α]{cf:Nat->α->α->Option Int}{l:List α}{c:α->α->Int}(hl:l.length<=1048576)(u:∀x∈l,∀y∈l,Ev (λn=>cf n x y) (c x y))(a:CmpOK c)(k:∀x∈l,∀y∈l,c x y=0->x=y):
  Ev (λn=>QbO (cf n) l) (Ya (ltC c) l):=by
 obtain⟨N,r⟩:=Qoi l u;refine⟨N,λn t=>?_⟩;have h:=r n t;have m:=QmB (cf:=cf n) (XV (Qch hl)) c h (λx _=>by have:=a.refl x;omega) (λx _ y _ z _=>a.trans x y z) (λx b y d z p g f=>by
   have:=(Qce a l).ntrans x b y d z p (VB g) (VB f);exact VA this) (λx b y d g f=>k x b y d (by have:=a.swap x y;omega))
 show QbO (cf n) l=some (Ya (ltC c) l);rw[m];congr 1;obtain⟨_,_,s,_,_⟩:=QcT m;have e:∀x∈l,∀y∈l,ltO (cf n) x y=ltC c x y:=λx b y d=>by unfold ltO ltC;rw[h x b y d]
 refine Jp (lt:=ltC c) ((Ql _ l).trans (Ql _ l).symm) (λx b y d g f=>?_) ?_ (QP (Qce a l))
 .have i:=(Ql _ l).mem_iff.1 b;have j:=(Ql _ l).mem_iff.1 d;have g:=VA g;have f:=VA f;exact k x i y j (by have:=a.swap x y;omega)
 .refine List.Pairwise.imp_of_mem (λ{x y} b d q=>?_) (QP s);have i:=(Ql _ l).mem_iff.1 b;have j:=(Ql _ l).mem_iff.1 d;rw[<- e y j x i];exact q
end
def ddA(p:Fact):List Fact->List Fact
 |[]=>[]
 |x::r=>bif cmpF x p==0 then ddA x r else x::ddA x r
def dd:List Fact->List Fact
 |[]=>[]
 |x::r=>x::ddA x r
theorem QnQ{x p:Fact}{r:List Fact}(q:(cmpF x p==0)=true):ddA p (x::r)=ddA x r:=by
 show(bif cmpF x p==0 then ddA x r else x::ddA x r)=_;rw[q];rfl
theorem QnP{x p:Fact}{r:List Fact}(q:(cmpF x p==0)=false):ddA p (x::r)=x::ddA x r:=by
 show(bif cmpF x p==0 then ddA x r else x::ddA x r)=_;rw[q];rfl
theorem QnO:∀(r:List Fact) (p:Fact),(∀x∈r,¬cmpF x p<0)->r.Pairwise (λa b=>¬cmpF b a<0)->(∀x∈p::r,validS x=true)->(ddA p r).Pairwise ltF/\(∀x∈ddA p r,ltF p x)/\ ∀x,x∈p::ddA p r↔x∈p::r
 |[],p,_,_,_=>⟨List.Pairwise.nil,(λ_ h=>by cases h),λ_=>Iff.rfl⟩
 |y::r,p,h1,h2,h3=>by
  rw[Xc]at h2;obtain⟨i1,i2,i3⟩:=QnO r y h2.1 h2.2 λx hx=>h3 x (by simp only[Va]at hx⊢;exact .inr hx);have hy:=h1 y (by simp);unfold ddA;cases q:cmpF y p==0 with
  |true=>
   have q':cmpF y p=0:=by simpa using q
   have e:y=p:=Qdi (h3 y (by simp)) (h3 p (by simp)) q';subst e;refine⟨i1,i2,λx=>?_⟩;rw[Vt,i3 x];simp
  |false=>
   have q':¬cmpF y p=0:=by simpa using q
   have d:ltF p y:=by
    have:=Qk4.swap y p;unfold ltF;omega
   simp only[Vu];refine⟨Xc.2 ⟨i2,i1⟩,λx hx=>?_,λx=>?_⟩
   .rcases Va.1 hx with rfl|hx
    .exact d
    .exact Qho _ _ _ d (i2 x hx)
   .rw[Va,i3 x,Va (a:=x) (b:=p)]
theorem dd_ok{S:List Fact}(h:S.Pairwise λa b=>¬cmpF b a<0)(g:∀x∈S,validS x=true):(dd S).Pairwise ltF/\ ∀x,x∈dd S↔x∈S:=by
 cases S with
 |nil=>exact⟨List.Pairwise.nil,λ_=>Iff.rfl⟩
 |cons a r=>
  rw[Xc]at h;obtain⟨f,d,e⟩:=QnO r a h.1 h.2 g;exact⟨Xc.2 ⟨d,f⟩,e⟩
theorem QhD(x y:Fact):Ev (λn=>F_ao n x y) (cmpF x y==0):=Ea (QcJ x y) (Qa _)
theorem QkR{l:List Fact}{a j:Nat}{x:Fact}(h:l[a+j]?=some x){m:Int}(d:m=(l.length:Int)):Qhr l (a:Int) m (j:Int)=some x:=by
 have b:=(XP.1 h).1;unfold Qhr;rw[Vy (show(0:Int)<=(a:Int)by omega),Vy (show(0:Int)<=(j:Int)by omega),Vy (show(a:Int)+(j:Int)<m by omega)];rw[show(a:Int)+(j:Int)=((a+j:Nat):Int)by omega];exact YW h
theorem Qk3{α:Type}{l r:List α}{i:Nat}{x:α}(h:l.drop i=x::r):l[i]?=some x/\l.drop (i+1)=r/\i<l.length:=by
 have a:l[i]?=some x:=by
  have:=congrArg (λl=>l[0]?) h;simpa using this
 refine⟨a,?_,(XP.1 a).1⟩;have:=Xr (XP.1 a).1;rw[h]at this;exact(List.cons.inj this).2.symm
theorem QiX(a:List Fact)(hl:a.length<=1048576)(b:Nat):∀(r s:List Fact) (i j:Nat) (p:Fact),s.length=a.length->s.drop (b+(j+1))=r->s[b+j]?=some p->i<b+(j+1)->b+(j+1)<=s.length->
  ∃(s':List Fact) (d:Nat),EvI (λn=>F_dw n a (b:Int)) (s,(i:Int),((j+1:Nat):Int)) (s',(d:Int))/\d<=s'.length/\s'.take d=s.take i++ddA p r:=by
 intro r
 induction r with
 |nil=>
  intro s i j p e k u G E;refine⟨s,i,Ej ?_,by omega,by simp[ddA]⟩;have:=Xs.1 k;unfold F_dw;rw[Yx (show¬(((j+1:Nat):Int)<((Int.toNat (a.length:Int)-Int.toNat (b:Int):Nat):Int))by omega)];exact Qa _
 |cons x r z=>
  intro s i j p e k u G E;obtain⟨g,B,F⟩:=Qk3 k;have w:=QkR g (show(a.length:Int)=(s.length:Int)by rw[e]);have y:=QkR u (show(a.length:Int)=(s.length:Int)by rw[e]);have w1:IntKind.i64.wrap (((j+1:Nat):Int)-1)=(j:Int):=by rw[Yd (by omega) (by omega)];omega
  have w2:IntKind.i64.wrap (((j+1:Nat):Int)+1)=((j+1+1:Nat):Int):=YA (by omega);have t:decide (((j+1:Nat):Int)<((Int.toNat (a.length:Int)-Int.toNat (b:Int):Nat):Int))=true:=Vy (by omega);have m:i<s.length:=by omega
  cases q:cmpF x p==0 with
  |true=>
   obtain⟨s',d,l,h,f⟩:=z s i (j+1) x e (by rw[show b+(j+1+1)=b+(j+1)+1 by omega];exact B) g (by omega) (by omega);refine⟨s',d,Ex ?_ l,h,by rw[f,QnQ q]⟩;unfold F_dw;simp only[t,Vt,w,w1,y,XN];refine Ea (QhD x p) ?_;rw[q];simp only[Xg,Vu,XN,w2];exact Qa _
  |false=>
   have H:(s.set i x).length=a.length:=by rw[X8];exact e
   obtain⟨s',d,l,h,f⟩:=z (s.set i x) (i+1) (j+1) x H (by rw[show b+(j+1+1)=b+(j+1)+1 by omega,List.drop_set_of_lt (by omega)];exact B) (by rw[XT (by omega)];exact g) (by omega) (by rw[X8];omega);have w3:IntKind.i64.wrap ((i:Int)+1)=((i+1:Nat):Int):=YA (by omega);refine⟨s',d,Ex ?_ l,h,?_⟩
   .unfold F_dw;simp only[t,Vt,w,w1,y,XN];refine Ea (QhD x p) ?_;rw[q];simp only[Xh,Vt,XN,w2,YW (XO m),Qh8 s x m,w3];exact Qa _
   .rw[f,List.take_add_one,Xa m,List.take_set_of_le (XX _)];rw[QnP q];simp
theorem QiY(a:List Fact)(hl:a.length<=1048576):∀(r:List Fact) (k:Nat) (p:Fact),a.drop (k+1)=r->a[k]?=some p->k+1<=a.length->∃b:Ctl Unit (List Fact),EvI (λn=>F_dv n a) ((k+1:Nat):Int) b/\((b=.cont ()/\ddA p r=r)\/b=.done (a.take (k+1)++ddA p r)):=by
 intro r
 induction r with
 |nil=>
  intro k p j i w;refine⟨.cont (),Ej ?_,.inl ⟨rfl,rfl⟩⟩;have:=Xs.1 j;unfold F_dv;rw[Yx (show¬(((k+1:Nat):Int)<(a.length:Int))by omega)];exact Qa _
 |cons x r t=>
  intro k p j i w;obtain⟨f,s,g⟩:=Qk3 j;have w1:IntKind.i64.wrap (((k+1:Nat):Int)-1)=(k:Int):=by rw[Yd (by omega) (by omega)];omega
  have w2:IntKind.i64.wrap (((k+1:Nat):Int)+1)=((k+1+1:Nat):Int):=YA (by omega);have m:decide (((k+1:Nat):Int)<(a.length:Int))=true:=Vy (by omega);cases q:cmpF x p==0 with
  |true=>
   obtain⟨u,y,l,d,h⟩:=QiX a hl (k+1) r a (k+1) 0 x rfl s f (by omega) (by omega);refine⟨.done (a.take (k+1)++ddA p (x::r)),Ej ?_,.inr rfl⟩;unfold F_dv;simp only[m,Vt,YW f,w1,YW i,XN];refine Ea (QhD x p) ?_;rw[q];simp only[Vt,Qh6 a (Nat.le_of_lt g),XN];refine Ea l.ev ?_;simp only[QmC u d,XN];rw[h];rw[QnQ q];exact Qa _
  |false=>
   obtain⟨b,l,d⟩:=t (k+1) x s f g;have e:=QnP (r:=r) q;refine⟨b,Ex ?_ l,?_⟩
   .unfold F_dv;simp only[m,Vt,YW f,w1,YW i,XN];refine Ea (QhD x p) ?_;rw[q];simp only[Vu,w2];exact Qa _
   .rcases d with⟨d,h⟩|d
    .exact .inl ⟨d,by rw[e,h]⟩
    .refine .inr ?_;rw[d,e,List.take_add_one,f];simp
theorem QiV(a:List Fact)(hl:a.length<=1048576):Ev (λn=>F_ca n a) (dd a):=by
 unfold F_ca
 match a,hl with
 |[],_=>exact Qa _
 |[x],_=>exact Qa _
 |x::y::r,hl=>
  rw[Yx (show¬(((x::y::r).length:Int)<2)by simp;omega)];refine Jy ?_;obtain⟨b,d,e⟩:=QiY (x::y::r) hl (y::r) 0 x rfl rfl (by simp);refine Ea d.ev ?_;rcases e with⟨rfl,f⟩|rfl
  .show Ev (λn=>some (x::y::r)) (x::ddA x (y::r));rw[f];exact Qa _
  .exact Qa _
theorem QlE(l:List Fact)(d:∀f∈l,validS f=true)(hl:l.length<=1048576):Ev (λn=>F_be n l) (canonS l):=by
 unfold F_be F_ee;simp only[Qgw hl,XN];have p:=Ql (ltC cmpF) l;refine Ea (Qlg hl (λx _ y _=>QcJ x y) Qk4 λx g y k e=>Qdi (d x g) (d y k) e) ?_;refine Ea (QiV _ (by rw[p.length_eq];exact hl)) ?_;have s:(Ya (ltC cmpF) l).Pairwise λa b=>¬cmpF b a<0:=List.Pairwise.imp (λq=>VA q) (QP (Qce Qk4 l));obtain⟨i,j⟩:=dd_ok s λx g=>d x (p.mem_iff.1 g);obtain⟨r,m⟩:=Qcj l;refine Ew (Qa _) (Qbq QkM Qho i r.1 λf=>?_);rw[j,p.mem_iff,m];exact⟨λh=>⟨h,d f h⟩,λh=>h.1⟩
def cmpN(x y:Ue):Int:=cmpI x.number y.number
theorem QeD:CmpOK cmpN:=cmpI_ok.on λx:Ue=>x.number
def sortN(fs:List Ue):List Ue:=Ya (ltC cmpN) fs
theorem QkK{fs:List Ue}(h:(fs.map (·.number)).Nodup){x y:Ue}(f:x∈fs)(d:y∈fs)(e:x.number=y.number):x=y:=by
 induction fs with
 |nil=>cases f
 |cons a r g=>
  have b:a.number∉r.map (·.number)/\(r.map (·.number)).Nodup:=by rw[Vn,List.nodup_cons]at h;exact h
  rcases Va.1 f with q|q
  .rcases Va.1 d with z|z
   .rw[q,z]
   .exact absurd (Xe.2 ⟨y,z,by rw[<- e,q]⟩) b.1
  .rcases Va.1 d with z|z
   .exact absurd (Xe.2 ⟨x,q,by rw[e,z]⟩) b.1
   .exact g b.2 q z
theorem Qln{p q:List Ue}(h:p.Perm q)(f:(q.map (·.number)).Nodup):sortN p=sortN q:=by
 have g:(p.map (·.number)).Nodup:=(h.map _).nodup_iff.2 f;refine Jp (lt:=ltC cmpN) ((Ql _ p).trans (h.trans (Ql _ q).symm)) (λx d y e b a=>?_) (QP (Qce QeD p)) (QP (Qce QeD q));have b:=VA b;have a:=VA a;refine QkK g ((Ql _ p).mem_iff.1 d) ((Ql _ p).mem_iff.1 e) (QqK.1 ?_);have:=QeD.swap x y;show cmpN x y=0;omega
def ltN(x y:Ue):Prop:=x.number<y.number
theorem Qh4{p:List Ue}(e:(p.map (·.number)).Nodup):(sortN p).Pairwise ltN:=by
 have a:((sortN p).map (·.number)).Nodup:=((Ql _ p).map _).nodup_iff.2 e;have s:=QP (Qce QeD p);have b:(sortN p).Pairwise λx y=>x.number≠y.number:=by
  unfold List.Nodup at a;rw[List.pairwise_map]at a;exact a
 refine List.Pairwise.imp₂ (λx y d f=>?_) s b;have d:¬cmpI y.number x.number<0:=VA d;rw[Qo9]at d;unfold ltN;omega
theorem Qqu(x y:Ue):Ev (λn=>F_af n x y) (cmpN x y==0):=by
 unfold F_af F_ak;simp only[QeB,XN];exact Qa _
theorem QiW(fs:List Ue)(hl:fs.length<=1048576)(d:fs.Pairwise ltN):Ev (λn=>F_cs n fs) ():=by
 unfold F_cs;cases q:decide ((fs.length:Int)<2)with
 |true=>exact Qa _
 |false=>
  refine Jy ?_;refine Ea (v:=()) ?_ (Qa _);have h:=VA q;refine Ev.iter (λi=>((i+1:Nat):Int)) (fs.length-1) rfl (λi f=>?_) ?_
  .have b:fs[i+1]?=some fs[i+1]:=XO (by omega);have a:fs[i]?=some fs[i]:=XO (by omega);have w1:IntKind.i64.wrap (((i+1:Nat):Int)-1)=(i:Int):=by rw[Yd (by omega) (by omega)];omega
   have w2:IntKind.i64.wrap (((i+1:Nat):Int)+1)=((i+1+1:Nat):Int):=YA (by omega);unfold F_hz;rw[Vy (show(((i+1:Nat):Int)<(fs.length:Int))by omega)];simp only[Vt,YW b,w1,YW a,XN];refine Ea (Qqu _ _) ?_;have lt:ltN fs[i] fs[i+1]:=VI.1 d i (i+1) (by omega) (by omega) (by omega);have e:(cmpN fs[i+1] fs[i]==0)=false:=by
    rw[VD];intro z;have g:fs[i+1].number=fs[i].number:=QqK.1 z;unfold ltN at lt;omega
   rw[e];simp only[Vu,w2];exact Qa _
  .unfold F_hz;rw[Yx (show¬(((fs.length-1+1:Nat):Int)<(fs.length:Int))by omega)];exact Qa _
theorem QjU(fs:List Ue)(hl:fs.length<=1048576)(a:(fs.map (·.number)).Nodup):Ev (λn=>F_cb n fs) (sortN fs):=by
 unfold F_cb F_fs;simp only[Qgw hl,XN];refine Ea (v:=sortN fs) (Qlg hl (λx _ y _=>?_) QeD λx d y b e=>QkK a d b (QqK.1 e)) ?_
 .unfold F_ak;simp only[QeB,XN];exact Qa _
 .refine Ea (v:=()) (QiW _ ?_ (Qh4 a)) (Qa _);unfold sortN;rw[(Ql _ fs).length_eq];exact hl
theorem Qfk(fs:List Ue)(k:Int):(Qah fs k).length<=fs.length+1:=by
 unfold Qah;cases fs.any λx=>decide (x.number=k)<;>simp
theorem QeM(fs:List Ue)(k:Int)(g:Ue->Ue):(Qbp fs k g).length=fs.length:=by unfold Qbp;rw[X6]
theorem Qpb{fs a:List Ue}{k i:Int}{f:Fact}(h:filesAdd fs k i f=some a):a.length=fs.length:=by
 unfold filesAdd at h;cases b:(i==0)<;>cases e:(i==1)<;>cases d:(i==2)<;>rw[b,e,d]at h<;>first|(cases h;done)|(cases h;rw[QeM])
theorem Qmv{fs b:List Ue}{f:Fact}(h:filesStep fs f=some b):b.length<=fs.length+1:=by
 unfold filesStep at h;cases g:(f.Kind==10)with
 |true=>
  rw[g,Vt]at h;cases d:Qd4 (Qah fs f.Ruling.Case)with
  |true=>rw[d,Vt]at h;rw[Qpb h];exact Qfk _ _
  |false=>rw[d]at h;cases h
 |false=>
  rw[g,Vu]at h;cases d:(f.Kind==8)with
  |true=>
   rw[d,Vt]at h;cases a:Qd4 (Qah fs f.Report.Case)with
   |true=>rw[a,Vt]at h;cases h;rw[QeM];exact Qfk _ _
   |false=>rw[a]at h;cases h
  |false=>
   rw[d,Vu]at h;cases a:(f.Kind==11)with
   |true=>
    rw[a,Vt]at h;cases e:f.Appeal.Suspends with
    |true=>rw[e,Vt]at h;cases h;rw[QeM];exact Qfk _ _
    |false=>rw[e]at h;cases h;omega
   |false=>rw[a]at h;cases h;omega
theorem QlI(C:List Fact)(q:∀f∈C,validS f=true)(hl:C.length<=1048576):∃fs,Ev (λn=>Go.Sw.iter (filesL n C) n (([]:List Ue),0)) fs/\FilesOf C fs/\fs.length<=C.length:=by
 have loop:∀(r:List Fact) (i:Nat) (s:List Ue),C.drop i=r->i<=C.length->FilesOf (C.take i) s->s.length<=i->∃fs,EvI (λn=>filesL n C) (s,(i:Int)) fs/\FilesOf C fs/\fs.length<=C.length:=by
  intro r
  induction r with
  |nil=>
   intro i s b k g j;refine⟨s,Ej ?_,?_,by omega⟩
   .unfold filesL;simp only[Ym b k,Vu];exact Qa _
   .rw[VM (Xs.1 b)]at g;exact g
  |cons f r p=>
   intro i s b k g j;obtain⟨a,h⟩:=QK (by omega) b;have m:=a.lt';obtain⟨t,e,d⟩:=Qhz g (by rw[XA];omega) (q f a.mem);rw[<- a.take]at d;obtain⟨fs,u,l⟩:=p (i+1) t h (by omega) d (by have:=Qmv e;omega);refine⟨fs,Ex ?_ u,l⟩;unfold filesL;simp only[a.lt,Vt,a.ix,XN,e,a.nx];exact Qa _
 obtain⟨fs,e,d⟩:=loop C 0 [] rfl (XY _) FilesOf.nil (XX _);exact⟨fs,e.ev,d⟩
theorem QfC:∀(p:List (Int×Ue)) (s:List Ue) (n:Nat),s.length+p.length<=1048576->QeT (F_ho n) (F_ia n) s p=some (s++p.map Prod.snd)
 |[],s,n,_=>by unfold QeT F_ia;simp
 |e::p,s,n,h=>by
  rw[X5]at h;have h1:F_ho n s e=some (.cont (s++[e.2])):=by
   unfold F_ho;rw[QaE _ _ (by omega)];rfl
  unfold QeT;rw[h1];show QeT _ _ (s++[e.2]) p=_;rw[QfC p _ n (by simp;omega)];simp
theorem FilesOf.perm{C:List Fact}{fs gs:List Ue}(h:FilesOf C fs)(p:gs.Perm fs):FilesOf C gs:=
 ⟨(p.map _).nodup_iff.2 h.num,λx hx=>h.each x (p.mem_iff.1 hx),λk=>by rw[(p.map _).mem_iff];exact h.mem k⟩
theorem QnA(l:List Fact)(hl:l.length<=100):∃fs,Ev (λn=>F_z n l) fs/\FilesOf (canonS l) fs/\fs.Pairwise ltN/\fs.length<=(canonS l).length:=by
 have k:∀f∈l.filter validS,validS f=true:=λf g=>(Xd.1 g).2;have e:canonS (l.filter validS)=canonS l:=QfI λf g=>by rw[Xd];simp[g]
 obtain⟨q,z⟩:=Qcj l;have w:=QfJ l;obtain⟨fs,r,b,u⟩:=QlI (canonS l) q.2 (by omega);refine⟨sortN fs,?_,b.perm (Ql _ fs),Qh4 b.num,by unfold sortN;rw[(Ql _ fs).length_eq];exact u⟩;unfold F_z;refine Ea (v:=l.filter validS) (Qkt l validS (by omega) (λi x a d m=>?_) λa=>?_) ?_
 .have s:=d.lt';unfold F_hs;simp only[d.lt,Vt,d.ix,XN,d.nx];refine Ea (Qcw x) ?_;cases validS x with
  |true=>
   simp only[Vt];rw[QaE a x (by omega)];exact Qa _
  |false=>exact Qa _
 .unfold F_hs;simp only[QaO,Vu];exact Qa _
 refine Ea (v:=canonS l) ((QlE _ k (XZ (VS ..) (by omega))).eq e) ?_;refine Ea r ?_;refine Ev.anyP λp h=>?_;have y:p.length=fs.length:=by rw[h.length_eq];unfold Qes;rw[X6]
 have j:(p.map Prod.snd).Perm fs:=by
  have:=h.map Prod.snd;unfold Qes at this;rw[List.map_map]at this;have t:(fs.map (Prod.snd ∘ λx:Ue=>(x.number,x)))=fs:=by
   conv=>rhs;rw[<- List.map_id fs]
   rfl
  rw[t]at this;exact this
 simp only[QfC p [] _ (by simp;omega),Vl,XN];refine Ea (QjU _ (by rw[X6];omega) ((j.map _).nodup_iff.2 b.num)) ?_;rw[Qln j b.num];exact Qa _
def numsC(C:List Fact):List Int:=Qi1 (Ya ltI (C.filterMap caseN))
theorem Qim(C:List Fact):(numsC C).Pairwise (· < ·)/\ ∀k,k∈numsC C↔ ∃f∈C,caseN f=some k:=by
 obtain⟨b,a⟩:=Qj5 (C.filterMap caseN);refine⟨b,λk=>?_⟩;unfold numsC;rw[a,List.mem_filterMap]
def filesS(C:List Fact):List Ue:=(numsC C).map (fileOf C)
theorem QlB{C:List Fact}{fs:List Ue}(h:FilesOf C fs)(s:fs.Pairwise ltN):fs=filesS C:=by
 obtain⟨f,g⟩:=Qim C;have e:fs.map (·.number)=numsC C:=by
  refine Qgd (lt:=λa b:Int=>a<b) (λa b h=>by omega) ?_ f λk=>?_
  .rw[List.pairwise_map];exact s
  .rw[h.mem k,g k]
 unfold filesS;rw[<- e,List.map_map];have:∀x∈fs,(fileOf C ∘ λx:Ue=>x.number) x=x:=λx d=>(h.each x d).symm
 conv=>lhs;rw[<- List.map_id fs]
 exact List.map_congr_left λx d=>(this x d).symm
theorem QgM(l:List Fact)(hl:l.length<=100):Ev (λn=>F_z n l) (filesS (canonS l)):=by
 obtain⟨e,d,a,b,_⟩:=QnA l hl;rw[<- QlB a b];exact d
theorem QjS(C:List Fact):(filesS C).length<=C.length:=by
 unfold filesS numsC;rw[X6];have d:∀(l:List Int) (p:Int),(QaP p l).length<=l.length:=by
  intro l
  induction l with
  |nil=>intro p;exact XX _
  |cons x r a=>
   intro p;unfold QaP;have:=a x;have:=a p;cases(x==p)<;>simp<;>omega
 have b:∀l:List Int,(Qi1 l).length<=l.length:=λl=>by
  cases l with
  |nil=>exact XX _
  |cons x r=>unfold Qi1;simp only[X5];have:=d r x;omega
 refine XZ (b _) ?_;rw[(Ql _ _).length_eq];exact List.length_filterMap_le ..
def suspF(x:Ue):Bool:=x.appeal&&(!x.r1.isEmpty&&x.r2.isEmpty)
def forceF(x:Ue):Option Ruling:=bif suspF x then none else((x.r2++x.r1).head?).map (·.Ruling)
theorem QlC{C:List Fact}{k:Int}{f:Fact}(h:f∈(fileOf C k).r1\/f∈(fileOf C k).r2):f∈C/\f.Kind=10/\f.Ruling.Case=k:=by
 have one:∀i,f∈C.filter (rulB k i)->f∈C/\f.Kind=10/\f.Ruling.Case=k:=λi h=>by
  rw[Xd]at h;have q:=h.2;unfold rulB at q;simp only[X0,VC]at q;exact⟨h.1,q.1,q.2.1⟩
 rcases h with h|h
 .exact one _ h
 .exact one _ h
theorem QjQ{C:List Fact}{k:Int}{g:Ruling}(h:forceF (fileOf C k)=some g):g.Case=k:=by
 unfold forceF at h;cases q:suspF (fileOf C k)with
 |true=>rw[q]at h;cases h
 |false=>
  rw[q,Vu,Option.map_eq_some_iff]at h;obtain⟨f,b,a⟩:=h;have d:=List.mem_of_head? b;rw[<- a];exact(QlC ((VH.1 d).symm)).2.2
def keyF(x:Ue):Int×Option Ruling×List Report:=(x.number,forceF x,x.reports)
section
variable {α β:Type}
theorem Qfl(f:α->Option β):∀(l:List α) (a:List β),l.foldl (λa x=>a++(f x).toList) a=a++l.filterMap f
 |[],a=>by simp
 |x::l,a=>by
  rw[XH,Qfl f l,List.filterMap_cons];cases f x<;>simp
theorem Qoj{step:Nat->List β×Int->Option (Ctl (List β×Int) (List β))}(l:List α)(f:α->Option β)(hl:l.length<=1048576)
  (g:∀i x a,At l i x->a.length<=i->Ev (λn=>step n (a,(i:Int))) (.cont (a++(f x).toList,((i+1:Nat):Int))))
  (d:∀a,Ev (λn=>step n (a,(l.length:Int))) (.done a)):Ev (λn=>Go.Sw.iter (step n) n ([],0)) (l.filterMap f):=by
 have e:l.filterMap f=l.foldl (λa x=>a++(f x).toList) []:=by rw[Qfl];rfl
 rw[e];refine Q5 l (λa x=>a++(f x).toList) [] (λa i=>(a,(i:Int))) (λa=>a) (by omega) rfl (λi x a b h=>g i x a b ?_) (d _);rw[h,Qfl,Vl];exact XZ (List.length_filterMap_le ..) (by rw[XA];omega)
theorem Qcf(l:List α):decide (0<(l.length:Int))= !l.isEmpty:=by
 cases l with
 |nil=>rfl
 |cons a l=>exact Yc (by simp only[X5];omega)
theorem Qm9(l:List α):((l.length:Int)==0)=l.isEmpty:=by
 cases l with
 |nil=>rfl
 |cons a l=>
  show _=false;simp only[X5,VD,ne_eq];omega
end
theorem QnT(c:Course)(a:Course.wf c):∃b,Ev (λn=>F_ae n c) b/\(b=true->FewOk c/\Ev (λn=>F_f n c) (courseE c)):=by
 have w:=Qem a;have q:=QfQ a;obtain⟨f,d⟩:=Qoy a;obtain⟨b,g,fb⟩:=QhF c w q f d;exact⟨b,g,λe=>⟨fb e,QlK c w q (fb e) f d⟩⟩
abbrev KeyT:=Int×Option Ruling×List Report
def keysOf(l:List Fact):List KeyT:=(filesS (canonS l)).map keyF
structure KeysOk (K:List KeyT):Prop where
 inc:(K.map (·.1)).Pairwise (· < ·)
 rul:∀x∈K,∀g,x.2.1=some g->g.Case=x.1
 rep:∀x∈K,∀r,x.2.2.head? =some r->r.Case=x.1
theorem QoK(l:List Fact):KeysOk (keysOf l):=by
 have a:∀x∈keysOf l,∃k,x=keyF (fileOf (canonS l) k):=λx a=>by
  unfold keysOf filesS at a;rw[List.map_map]at a;obtain⟨k,_,rfl⟩:=Xe.1 a;exact⟨k,rfl⟩
 refine⟨?_,λx h g e=>?_,λx h r i=>?_⟩
 .unfold keysOf filesS;rw[List.map_map,List.map_map];have:(((λx:KeyT=>x.1) ∘ keyF) ∘ fileOf (canonS l))=λk=>k:=rfl;rw[this,List.map_id'];exact(Qim _).1
 .obtain⟨k,rfl⟩:=a x h;exact QjQ e
 .obtain⟨k,rfl⟩:=a x h;have b:=List.mem_of_head? i;obtain⟨f,d,rfl⟩:=Xe.1 (show r∈((canonS l).filter (repB k)).map (·.Report)from b);have:=(Xd.1 d).2;unfold repB at this;rw[X0,VC,VC]at this;exact this.2
theorem QbY(l:List Fact):(keysOf l).length<=l.length:=by
 unfold keysOf;rw[X6];exact XZ (QjS _) (QfJ l)
theorem Qj1(l:List Fact)(hl:l.length<=100):Ev (λn=>F_bm n l) ((keysOf l).filterMap λx=>x.2.2.head?):=by
 unfold F_bm;refine Ea (QgM l hl) ?_;have e:(keysOf l).filterMap (λx=>x.2.2.head?)=(filesS (canonS l)).filterMap λx=>x.reports.head? :=by
  unfold keysOf;rw[List.filterMap_map];rfl
 have j:(filesS (canonS l)).length<=100:=by have:=QbY l;unfold keysOf at this;rw[X6]at this;omega
 rw[e];generalize filesS (canonS l)=fs at j;refine Ea (Qoj fs (λx=>x.reports.head?) (by omega) (λi x a b d=>?_) λa=>?_) (Qa _)
 .unfold F_hq;simp only[b.lt,Vt,b.ix,XN,b.nx,Qcf];have:=b.lt';cases h:x.reports with
  |nil=>exact(Qa _).eq (by simp)
  |cons r g=>
   have f:idx (r::g) 0=some r:=rfl;simp only[List.isEmpty_cons,Xh,Vt,f,XN];rw[Qbz _ _ (by simp;omega)];exact Qa _
 .unfold F_hq;simp only[QaO,Vu];exact Qa _
theorem Qny(x:Ue):Ev (λn=>F_cc n x) (match forceF x with|some g=>(g,true)|none=>(Ux,false)):=by
 have b:idx ([x.r0,x.r1,x.r2]:List (List Fact)) 1=some x.r1:=rfl;have d:idx ([x.r0,x.r1,x.r2]:List (List Fact)) 2=some x.r2:=rfl;unfold F_cc;refine Ea (v:=suspF x) ?_ ?_
 .unfold F_do;simp only[b,d,XN,Qcf,Qm9];refine Ea (v:=suspF x) ?_ (Qa _);unfold suspF;cases x.appeal<;>cases x.r1.isEmpty<;>exact Qa _
 unfold forceF;cases m:suspF x with
 |true=>exact Qa _
 |false=>
  simp only[Vu];have i:decide ((0:Int)<2)=true:=rfl;have j:decide ((0:Int)<1)=true:=rfl;have l:decide ((0:Int)<0)=false:=rfl;have w1:IntKind.i64.wrap (2-1)=1:=rfl;have k:IntKind.i64.wrap (1-1)=0:=rfl;refine Ea (v:=match(x.r2++x.r1).head? with|some f=>Ctl.done (f.Ruling,true)|none=>Ctl.cont ()) (EvI.ev ?_) ?_
  .cases e:x.r2 with
   |cons f r=>
    refine Ej ?_;have a:idx (f::r) 0=some f:=rfl;unfold F_bv;simp only[i,Vt,d,XN,Qcf,e,List.isEmpty_cons,Xh,a];exact Qa _
   |nil=>
    refine Ex (s':=1) ?_ ?_
    .unfold F_bv;simp only[i,Vt,d,XN,Qcf,e,List.isEmpty_nil,Xg,Vu,w1];exact Qa _
    rw[Vl];cases h:x.r1 with
    |cons f r=>
     refine Ej ?_;have a:idx (f::r) 0=some f:=rfl;unfold F_bv;simp only[j,Vt,b,XN,Qcf,h,List.isEmpty_cons,Xh,a];exact Qa _
    |nil=>
     refine Ex (s':=0) ?_ (Ej ?_)
     .unfold F_bv;simp only[j,Vt,b,XN,Qcf,h,List.isEmpty_nil,Xg,Vu,k];exact Qa _
     .unfold F_bv;simp only[l,Vu];exact Qa _
  .cases(x.r2++x.r1).head? <;>exact Qa _
theorem Qqw(l:List Fact)(hl:l.length<=100):Ev (λn=>F_cy n l) ((keysOf l).filterMap λx=>x.2.1):=by
 unfold F_cy;refine Ea (QgM l hl) ?_;have e:(keysOf l).filterMap (λx=>x.2.1)=(filesS (canonS l)).filterMap forceF:=by
  unfold keysOf;rw[List.filterMap_map];rfl
 have d:(filesS (canonS l)).length<=100:=by have:=QbY l;unfold keysOf at this;rw[X6]at this;omega
 rw[e];generalize filesS (canonS l)=fs at d;refine Ea (Qoj fs forceF (by omega) (λi x a b f=>?_) λa=>?_) (Qa _)
 .unfold F_ib;simp only[b.lt,Vt,b.ix,XN,b.nx];have:=b.lt';refine Ea (Qny x) ?_;cases h:forceF x with
  |none=>exact(Qa _).eq (by simp)
  |some g=>
   simp only[Vt];rw[Qbz _ _ (by simp;omega)];exact Qa _
 .unfold F_ib;simp only[QaO,Vu];exact Qa _
section
variable {S T B:Type} {step:Nat->S->Option (List T×Ctl S B)} {s s':S} {b:B} {xs ys:List T}
def EvL(step:Nat->S->Option (List T×Ctl S B))(s:S)(ys:List T)(b:B):Prop:=∃N,∀n k,N<=n->N<=k->QbZ (step n) k s=some (ys,b)
theorem EvL.done(h:Ev (λn=>step n s) (ys,.done b)):EvL step s ys b:=by
 obtain⟨N,h⟩:=h;refine⟨N+1,λn k d f=>?_⟩;obtain⟨a,rfl⟩:∃a,k=a+1:=⟨k-1,by omega⟩;have e:step n s=some (ys,.done b):=h n (by omega);unfold QbZ;rw[e];rfl
theorem EvL.cont(h:Ev (λn=>step n s) (xs,.cont s'))(q:EvL step s' ys b):EvL step s (xs++ys) b:=by
 obtain⟨N,h⟩:=h;obtain⟨M,q⟩:=q;refine⟨max N M+1,λn k d f=>?_⟩;obtain⟨a,rfl⟩:∃a,k=a+1:=⟨k-1,by omega⟩;have e:step n s=some (xs,.cont s'):=h n (by omega);unfold QbZ;rw[e];show(QbZ (step n) a s').bind _=_;rw[q n a (by omega) (by omega)];rfl
theorem EvL.ev(h:EvL step s ys b):Ev (λn=>QbZ (step n) n s) (ys,b):=by
 obtain⟨N,h⟩:=h;exact⟨N,λn a=>h n n a a⟩
end
def viaR(c:Course)(k:Int):Option Report->Option Ud
 |none=>none
 |some r=>bif decide (r.Offence<0)||decide ((c.Offences.length:Int)<=r.Offence)then none else
  (idx c.Offences r.Offence).map λo=>{number:=k,bib:=r.Bib,penalty:={Position:=r.Position,Time:=o.Time,Laps:=o.Laps,Out:=o.Out}}
def rulP(k:Int)(g:Ruling):Option Ud:=
 bif g.Kind==5 then some {number:=k,bib:=g.Bib,penalty:={Position:=g.Position,Time:=0,Laps:=0,Out:=true}}else
 bif g.Kind==4 then some {number:=k,bib:=g.Bib,penalty:={Position:=g.Position,Time:=0,Laps:=g.Amount,Out:=false}}else
 bif g.Kind==3 then some {number:=k,bib:=g.Bib,penalty:={Position:=g.Position,Time:=g.Amount,Laps:=0,Out:=false}}else none
def givenK(c:Course)(x:KeyT):Option Ud:=
 match x.2.1 with
 |some g=>bif (g.Kind==5)||((g.Kind==4)||(g.Kind==3))then rulP x.1 g else bif g.Kind==2 then none else viaR c x.1 x.2.2.head?
 |none=>viaR c x.1 x.2.2.head?
def lookK(K:List KeyT)(k:Int):Option KeyT:=K.find? λx=>x.1==k
theorem Qfb(x:KeyT)(K:List KeyT)(k:Int):lookK (x::K) k=if x.1=k then some x else lookK K k:=by
 unfold lookK;rw[List.find?_cons];by_cases h:x.1=k
 .rw[Vx h,h,beq_self_eq_true]
 .rw[Vw h,show(x.1==k)=false from VD.2 h]
theorem Qfa{K:List KeyT}{k:Int}(h:k∉K.map (·.1)):lookK K k=none:=by
 refine List.find?_eq_none.2 λx a q=>h ?_;rw[VC]at q;exact Xe.2 ⟨x,a,q⟩
theorem Qiq:∀{K:List KeyT},(K.map (·.1)).Nodup->∀{x:KeyT},x∈K->lookK K x.1=some x
 |[],_,x,h=>by cases h
 |y::K,hn,x,h=>by
  rw[Vn,List.nodup_cons]at hn;rw[Qfb];rcases Va.1 h with rfl|h
  .rw[Vx rfl]
  .rw[Vw λq=>hn.1 (by rw[q];exact Xe.2 ⟨x,h,rfl⟩)];exact Qiq hn.2 h
theorem Qc9{β:Type}(key:β->Int)(f:KeyT->Option β):∀(K:List KeyT) (m:List (Int×β)),(K.map (·.1)).Nodup->(∀x∈K,∀y,f x=some y->key y=x.1)->∀k,
  Ye ((K.filterMap f).foldl (λm y=>QG m (key y) y) m) k=match(lookK K k).bind f with|some v=>some v|none=>Ye m k
 |[],m,_,_,k=>rfl
 |x::K,m,hn,hk,k=>by
  rw[Vn,List.nodup_cons]at hn;have hk':∀x∈K,∀y,f x=some y->key y=x.1:=λz hz=>hk z (by simp[hz]);rw[List.filterMap_cons,Qfb];cases hf:f x with
  |none=>
   simp only;rw[Qc9 key f K m hn.2 hk' k];by_cases e:x.1=k
   .rw[Vx e,Qfa (by rw[<- e];exact hn.1)];simp[hf]
   .rw[Vw e]
  |some y=>
   simp only[XH];rw[Qc9 key f K _ hn.2 hk' k];have hy:=hk x (by simp) y hf;by_cases e:x.1=k
   .rw[Vx e,Qfa (by rw[<- e];exact hn.1)];simp only[Option.bind_none,XN,hf];rw[YB,Vx (by rw[hy,e])]
   .rw[Vw e];cases(lookK K k).bind f with
    |some v=>rfl
    |none=>
     simp only;rw[YB,Vw (by rw[hy];exact λq=>e q.symm)]
theorem QdM{β:Type}(a:β->Int):∀(L:List β) (m:List (Int×Bool)),(m.map Prod.fst).Nodup->(((L.foldl (λm y=>QG m (a y) true) m).map Prod.fst).Nodup/\(L.foldl (λm y=>QG m (a y) true) m).length<=m.length+L.length/\ ∀k,k∈(L.foldl (λm y=>QG m (a y) true) m).map Prod.fst↔k∈m.map Prod.fst\/k∈L.map a)
 |[],m,h=>⟨h,by simp,λk=>by simp⟩
 |y::L,m,h=>by
  rw[XH];obtain⟨i1,i2,i3⟩:=QdM a L (QG m (a y) true) (Qe5 _ _ h);refine⟨i1,?_,λk=>?_⟩
  .have:=Qio m (a y) true;simp only[X5];omega
  .rw[i3,Vn,Va];have:k∈(QG m (a y) true).map Prod.fst↔k=a y\/k∈m.map Prod.fst:=by
    rw[Qbg,Qbg];constructor
    .rintro⟨v,b⟩;rw[YB]at b;by_cases z:k=a y
     .exact .inl z
     .rw[Vw z]at b;exact .inr ⟨v,b⟩
    .rintro(z|⟨v,b⟩)
     .exact⟨true,by rw[YB,Vx z]⟩
     .by_cases z:k=a y
      .exact⟨true,by rw[YB,Vx z]⟩
      .exact⟨v,by rw[YB,Vw z];exact b⟩
   rw[this];constructor
   .rintro((h|h)|h)
    .exact .inr (.inl h)
    .exact .inl h
    .exact .inr (.inr h)
   .rintro(h|h|h)
    .exact .inl (.inr h)
    .exact .inl (.inl h)
    .exact .inr h
def effM:List (Int×Uc):=QG (QG (QG [] 3 ⟨143⟩) 4 ⟨144⟩) 5 ⟨145⟩
theorem QnK(k:Int):Ye effM k=if k=5 then some ⟨145⟩else if k=4 then some ⟨144⟩else if k=3 then some ⟨143⟩else none:=by
 unfold effM;rw[YB,YB,YB];rfl
theorem Qgs{β:Type}(m:List (Int×β))(k:Int)(z:β):Qx m k z=(Ye m k).getD z:=rfl
section
variable {c:Course} {K:List KeyT} {m1:List (Int×Report)×List (Int×Bool)} {m2:List (Int×Ruling)×List (Int×Bool)} {S:List Int}
theorem Qnx(w:∀k,Ye m1.1 k=(lookK K k).bind λx=>x.2.2.head?)(u:∀k,Ye m2.1 k=(lookK K k).bind λx=>x.2.1){i:Nat}{x:KeyT}(q:At S i x.1)(y:lookK K x.1=some x):
  Ev (λn=>F_eq n c m1 m2 effM S (i:Int)) ((givenK c x).toList,.cont ((i+1:Nat):Int)):=by
 unfold F_eq;simp only[q.lt,Vt,q.ix,XN,q.nx,Qgs,Qe6,w,u,y,QnK];have h:∀(r:Option Report),Ev (λn=>((bif (!r.isSome)then some true else(bif decide ((r.getD Uw).Offence<0)then some true else some (decide ((c.Offences.length:Int)<=(r.getD Uw).Offence)))):Option Bool).bind λj=>(bif j then some ([],.cont ((i+1:Nat):Int))else(idx c.Offences (r.getD Uw).Offence).bind λd=>yl ({number:=x.1,bib:=(r.getD Uw).Bib,penalty:={Position:=(r.getD Uw).Position,Time:=d.Time,Laps:=d.Laps,Out:=d.Out:Penalty}:Ud}) (some ([],.cont ((i+1:Nat):Int)))))
   (((viaR c x.1 r).toList,.cont ((i+1:Nat):Int)):(List Ud)×Ctl Int Unit):=by
  intro r;cases r with
  |none=>exact Qa _
  |some r=>
   simp only[Option.isSome_some,Xg,Vu,Option.getD_some,viaR];cases t:decide (r.Offence<0)with
   |true=>exact Qa _
   |false=>
    cases E:decide ((c.Offences.length:Int)<=r.Offence)with
    |true=>exact Qa _
    |false=>
     simp only[Vu,XN,Bool.or_self];have a:=VA t;have b:=VA E;have:idx c.Offences r.Offence=some (c.Offences[r.Offence.toNat]'(by omega)):=by
      unfold idx;rw[Yc (by omega),Vt,XO]
     rw[this];exact Qa _
 cases f:x.2.1 with
 |none=>
  have e:givenK c x=viaR c x.1 x.2.2.head? :=by unfold givenK;rw[f]
  rw[e];have z:¬Ux.Kind=5:=by decide
  have B:¬Ux.Kind=4:=by decide
  have s:¬Ux.Kind=3:=by decide
  simp only[f,Option.getD_none,Option.isSome_none,Vw z,Vw B,Vw s,Qe9,XN,Vu];exact h _
 |some g=>
  simp only[XN,Option.isSome_some,Vt,f,Option.getD_some];by_cases l:g.Kind=5
  .have e:givenK c x=some {number:=x.1,bib:=g.Bib,penalty:={Position:=g.Position,Time:=0,Laps:=0,Out:=true}}:=by unfold givenK rulP;rw[f];simp[l]
   rw[e];simp only[l,if_true,Qe9,XN,Vt];exact Qa _
  by_cases p:g.Kind=4
  .have e:givenK c x=some {number:=x.1,bib:=g.Bib,penalty:={Position:=g.Position,Time:=0,Laps:=g.Amount,Out:=false}}:=by unfold givenK rulP;rw[f];simp[p]
   rw[e];simp only[p,if_true,Qe9,XN,Vt];exact Qa _
  by_cases m:g.Kind=3
  .have e:givenK c x=some {number:=x.1,bib:=g.Bib,penalty:={Position:=g.Position,Time:=g.Amount,Laps:=0,Out:=false}}:=by unfold givenK rulP;rw[f];simp[m]
   rw[e];simp only[m,if_true,Qe9,XN,Vt];exact Qa _
  simp only[Vw l,Vw p,Vw m,Qe9,XN];have e:givenK c x=bif g.Kind==2 then none else viaR c x.1 x.2.2.head? :=by
   unfold givenK;rw[f];simp only[VD.2 l,VD.2 p,VD.2 m,Bool.or_self,Vu]
  rw[e];cases(g.Kind==2)with
  |true=>exact Qa _
  |false=>
   simp only[Vu];exact h _
theorem Qk1(b:∀k,Ye m1.1 k=(lookK K k).bind λx=>x.2.2.head?)(a:∀k,Ye m2.1 k=(lookK K k).bind λx=>x.2.1)(f:S.length<=1000):∀(r:List KeyT) (i:Nat),S.drop i=r.map (·.1)->i<=S.length->(∀x∈r,lookK K x.1=some x)->
  EvL (λn=>F_eq n c m1 m2 effM S) (i:Int) (r.filterMap (givenK c)) ()
 |[],i,hd,hi,_=>by
  refine EvL.done ?_;unfold F_eq;simp only[Ym hd hi,Vu];exact Qa _
 |x::r,i,hd,hi,hx=>by
  rw[Vn]at hd;obtain⟨ha,hd'⟩:=QK (by omega) hd;have hlt:=ha.lt';have e:(x::r).filterMap (givenK c)=(givenK c x).toList++r.filterMap (givenK c):=by
   rw[List.filterMap_cons];cases givenK c x<;>rfl
  rw[e];exact EvL.cont (Qnx b a ha (hx x (by simp))) (Qk1 b a f r (i+1) hd' (by omega) λy d=>hx y (by simp[d]))
end
theorem Qly{l:List Int}(h:l.Pairwise (· < ·)):l.Nodup:=h.imp λh=>by omega
theorem Qlx{l:List Int}(h:l.Nodup):(Ya ltI l).Pairwise (· < ·):=by
 have nd:(Ya ltI l).Nodup:=(Ql _ _).nodup_iff.2 h;refine(List.Pairwise.and (QP (Qcd l)) nd).imp λ{a b} q=>?_;have:=q.1;simp[ltI]at this;have:=q.2;omega
theorem Qqv(c:Course)(l:List Fact)(hl:l.length<=100):Ev (λn=>F_cx n l c) ((keysOf l).filterMap (givenK c),()):=by
 have ok:=QoK l;have nd:=Qly ok.inc;have Q:=QbY l;unfold F_cx;refine Ea (Qj1 l hl) ?_;have H:((keysOf l).filterMap λx=>x.2.2.head?).length<=100:=XZ (List.length_filterMap_le ..) (by omega);have L:((keysOf l).filterMap λx=>x.2.1).length<=100:=XZ (List.length_filterMap_le ..) (by omega);have J:=Qc9 (λr:Report=>r.Case) (λx:KeyT=>x.2.2.head?) (keysOf l) [] nd ok.rep;have P:=Qc9 (λg:Ruling=>g.Case) (λx:KeyT=>x.2.1) (keysOf l) [] nd ok.rul;obtain⟨t,w,u⟩:=QdM (λr:Report=>r.Case) ((keysOf l).filterMap λx=>x.2.2.head?) [] (by simp);refine Ea (v:=(((keysOf l).filterMap λx=>x.2.2.head?).foldl (λm y=>QG m y.Case y) [],((keysOf l).filterMap λx=>x.2.2.head?).foldl (λm y=>QG m y.Case true) [])) ?_ ?_
 .generalize((keysOf l).filterMap λx=>x.2.2.head?)=R at H;have e:∀(R:List Report) (a:List (Int×Report)) (b:List (Int×Bool)),R.foldl (λ(m:List (Int×Report)×List (Int×Bool)) y=>(QG m.1 y.Case y,QG m.2 y.Case true)) (a,b)=(R.foldl (λm y=>QG m y.Case y) a,R.foldl (λm y=>QG m y.Case true) b):=by
   intro R
   induction R with
   |nil=>intro a b;rfl
   |cons y R ih=>intro a b;rw[XH,ih];rfl
  rw[<- e];refine Q5 R (λ(m:List (Int×Report)×List (Int×Bool)) y=>(QG m.1 y.Case y,QG m.2 y.Case true)) ([],[]) (λm i=>(m.1,m.2,(i:Int))) (λm=>m) (by omega) rfl (λi x m ha _=>?_) ?_
  .unfold F_ie;simp only[ha.lt,Vt,ha.ix,XN,ha.nx];exact Qa _
  .unfold F_ie;simp only[QaO,Vu];exact Qa _
 refine Ea (Qqw l hl) ?_;simp only;generalize hb:((keysOf l).filterMap λx=>x.2.2.head?).foldl (λm y=>QG m y.Case true) []=b0 at t w u;obtain⟨G,N,B⟩:=QdM (λg:Ruling=>g.Case) ((keysOf l).filterMap λx=>x.2.1) b0 t;refine Ea (v:=(((keysOf l).filterMap λx=>x.2.1).foldl (λm y=>QG m y.Case y) [],((keysOf l).filterMap λx=>x.2.1).foldl (λm y=>QG m y.Case true) b0)) ?_ ?_
 .generalize((keysOf l).filterMap λx=>x.2.1)=R at L;have e:∀(R:List Ruling) (a:List (Int×Ruling)) (b:List (Int×Bool)),R.foldl (λ(m:List (Int×Ruling)×List (Int×Bool)) y=>(QG m.1 y.Case y,QG m.2 y.Case true)) (a,b)=(R.foldl (λm y=>QG m y.Case y) a,R.foldl (λm y=>QG m y.Case true) b):=by
   intro R
   induction R with
   |nil=>intro a b;rfl
   |cons y R ih=>intro a b;rw[XH,ih];rfl
  rw[<- e];refine Q5 R (λ(m:List (Int×Ruling)×List (Int×Bool)) y=>(QG m.1 y.Case y,QG m.2 y.Case true)) ([],b0) (λm i=>(m.1,m.2,(i:Int))) (λm=>m) (by omega) rfl (λi x m ha _=>?_) ?_
  .unfold F_hw;simp only[ha.lt,Vt,ha.ix,XN,ha.nx];exact Qa _
  .unfold F_hw;simp only[QaO,Vu];exact Qa _
 simp only;generalize hc:((keysOf l).filterMap λx=>x.2.1).foldl (λm y=>QG m y.Case true) b0=b1 at G N B;refine Ea (v:=effM) (Qa _) ?_;unfold F_gp;simp only[XN];have T:b1.length<=200:=by simp only[List.length_nil]at w;omega
 refine Ea (v:=Ya ltI (b1.map Prod.fst)) ⟨0,λn _=>?_⟩ ?_
 .unfold F_fp QlV;have z:(List.map Prod.fst b1).length<=1048576:=by rw[X6];omega
  rw[Qch z,Vt];refine QhL λp E=>?_;unfold sortI;rw[Qch (by rw[E.length_eq];exact z)];show some (Ya ltI p)=_;rw[Qgv E]
 have e:Ya ltI (b1.map Prod.fst)=((keysOf l).filter λx=>x.2.1.isSome||x.2.2.head?.isSome).map (·.1):=by
  refine Qgd (lt:=λa b:Int=>a<b) (λa b h=>by omega) (Qlx G) ?_ λk=>?_
  .exact ok.inc.sublist ((List.filter_sublist).map _)
  .rw[(Ql _ _).mem_iff,B,u];simp only[Vp,List.not_mem_nil,false_or,Xe,List.mem_filterMap,Xd,Bool.or_eq_true];constructor
   .rintro(⟨r,⟨x,d,s⟩,rfl⟩|⟨g,⟨x,d,j⟩,rfl⟩)
    .exact⟨x,⟨d,.inr (by rw[s];rfl)⟩,(ok.rep x d r s).symm⟩
    .exact⟨x,⟨d,.inl (by rw[j];rfl)⟩,(ok.rul x d g j).symm⟩
   .rintro⟨x,⟨d,h|h⟩,rfl⟩
    .obtain⟨g,j⟩:=Option.isSome_iff_exists.1 h;exact .inr ⟨g,⟨x,d,j⟩,ok.rul x d g j⟩
    .obtain⟨r,s⟩:=Option.isSome_iff_exists.1 h;exact .inl ⟨r,⟨x,d,s⟩,ok.rep x d r s⟩
 have M:(Ya ltI (b1.map Prod.fst)).length<=1000:=by rw[(Ql _ _).length_eq,X6];omega
 have F:=Qk1 (c:=c) (K:=keysOf l) (m1:=(((keysOf l).filterMap λx=>x.2.2.head?).foldl (λm y=>QG m y.Case y) [],b0)) (m2:=(((keysOf l).filterMap λx=>x.2.1).foldl (λm y=>QG m y.Case y) [],b1)) (S:=Ya ltI (b1.map Prod.fst))
  (λk=>by rw[J k];cases(lookK (keysOf l) k).bind λx=>x.2.2.head? <;>rfl) (λk=>by rw[P k];cases(lookK (keysOf l) k).bind λx=>x.2.1<;>rfl) M
  ((keysOf l).filter λx=>x.2.1.isSome||x.2.2.head?.isSome) 0 (by rw[List.drop_zero];exact e) (XY _) (λx d=>Qiq nd (Xd.1 d).1)
 have O:((keysOf l).filter λx=>x.2.1.isSome||x.2.2.head?.isSome).filterMap (givenK c)=(keysOf l).filterMap (givenK c):=by
  rw[List.filterMap_filter];refine congrArg (λf=>(keysOf l).filterMap f) (funext λx=>?_);by_cases q:(x.2.1.isSome||x.2.2.head?.isSome)=true
  .rw[Vx q]
  .rw[Vw q];rw[Bool.not_eq_true,X2,Option.isSome_eq_false_iff,Option.isSome_eq_false_iff,Option.isNone_iff_eq_none,Option.isNone_iff_eq_none]at q;unfold givenK;rw[q.1,q.2];rfl
 rw[O]at F;unfold ap;refine Ea F.ev ((Qa _).eq ?_);simp
def casesOf(c:Course)(l:List Fact)(b:Int):List Ud:=((keysOf l).filterMap (givenK c)).filter λx=>x.bib==b
def casesF(e:Int)(c:Course)(l:List Fact)(b:Int):List Int×List Penalty:=bif e != 0 then([],[])else((casesOf c l b).map (·.number),(casesOf c l b).map (·.penalty))
theorem QdP(b:Int)(n:Nat):∀(a:List Ud) (s:List Int×List Penalty),s.1.length+a.length<=1000->s.2.length+a.length<=1000->QcZ (F_gu n b) a s=some (.cont (s.1++(a.filter λx=>x.bib==b).map (·.number),s.2++(a.filter λx=>x.bib==b).map (·.penalty)))
 |[],s,_,_=>by simp[QcZ]
 |y::a,s,h1,h2=>by
  simp only[X5]at h1 h2;unfold QcZ;have e:F_gu n b s y=some (.cont (bif y.bib==b then(s.1++[y.number],s.2++[y.penalty])else s)):=by
   unfold F_gu;cases(y.bib==b)with
   |false=>rfl
   |true=>
    simp only[Vt];rw[Qbz _ _ (by simp;omega)];simp only[XN];rw[Qbz _ _ (by simp;omega)];rfl
  rw[e];show QcZ _ a _=_;rw[List.filter_cons];cases(y.bib==b)with
  |false=>exact QdP b n a s (by omega) (by omega)
  |true=>
   simp only[Vt,if_true];rw[QdP b n a _ (by simp;omega) (by simp;omega)];simp
theorem QfD(e:Int)(c:Course)(l:List Fact)(b:Int)(hl:l.length<=100)(he:Ev (λn=>F_f n c) e):Ev (λn=>F_h n c l b) (casesF e c l b):=by
 unfold F_h casesF F_fz;refine Ea he ?_;cases(e != 0)with
 |true=>exact Qa _
 |false=>
  simp only[Vu,XN];refine Ea (Qqv c l hl) ?_;have a:((keysOf l).filterMap (givenK c)).length<=100:=XZ (List.length_filterMap_le ..) (by have:=QbY l;omega);unfold casesOf;generalize(keysOf l).filterMap (givenK c)=ys at a;have:=λn=>QdP b n ys ([],[]) (by simp;omega) (by simp;omega);simp only[Vl]at this;simp only[this,XN];exact Qa _
set_option maxRecDepth 100000
theorem QpN:F_fi 300=some true:=by kernel_rfl
theorem QnB{c:Course}{b:Bool}(l:List Fact)(a:Ev (λn=>F_ae n c) b):Ev (λn=>F_cg n c l) (b&&decide ((l.length:Int)<=14)):=by
 unfold F_cg;refine Ea (v:=b&&decide ((l.length:Int)<=14)) (Ea a (Ei λ_=>Qa _)) (Qa _)
theorem QlF(l m:List Int)(hl:l.length<=1048576):Ev (λn=>F_aa n l m) (decide (l=m)):=Qlh l m (λn=>F_ig n l m) (by omega) λn s=>rfl
theorem QgI(l m:List Penalty)(hl:l.length<=1048576):Ev (λn=>F_s n l m) (decide (l=m)):=Qlh l m (λn=>F_if n l m) (by omega) λn s=>rfl
theorem QcL(e:Int)(c:Course)(l:List Fact)(b:Int):(casesF e c l b).1.length<=l.length/\(casesF e c l b).2.length<=l.length:=by
 unfold casesF casesOf;cases(e != 0)with
 |true=>exact⟨XY _,XY _⟩
 |false=>
  simp only[Vu,X6];have f:=VS (λx:Ud=>x.bib==b) ((keysOf l).filterMap (givenK c));have a:=List.length_filterMap_le (givenK c) (keysOf l);have d:=QbY l;omega
def insBP(x:Penalty):List Penalty->List Penalty
 |[]=>[x]
 |y::r=>bif decide (x.Position<y.Position)then y::insBP x r else x::y::r
def putB(P:List Penalty)(x:Penalty):List Penalty:=(insBP x P.reverse).reverse
def sortB(l:List Penalty):List Penalty:=l.foldl putB []
theorem Qgx(x:Penalty):∀r:List Penalty,(insBP x r).length=r.length+1
 |[]=>rfl
 |y::r=>by
  unfold insBP;cases decide (x.Position<y.Position)with
  |true=>simp[Qgx x r]
  |false=>rfl
theorem QbU(P:List Penalty)(x:Penalty):(putB P x).length=P.length+1:=by unfold putB;rw[List.length_reverse,Qgx,List.length_reverse]
theorem Qhe{α:Type}(P R:List α)(x y:α):QbL (P++x::R) (P.length:Int) y=some (P++y::R):=by
 rw[Qh8 _ _ (by simp)];simp
theorem QeA{α:Type}(P R:List α)(x:α):idx (P++x::R) (P.length:Int)=some x:=YW (by simp)
theorem Qnw(x:Penalty):∀(Pr R:List Penalty),Pr.length<=1000->EvI (λn=>F_dj n 0) (Pr.reverse++x::R,(Pr.length:Int)) ((insBP x Pr).reverse++R)
 |[],R,_=>by
  refine Ej ?_;unfold F_dj;exact Ea (v:=false) (Qa _) (Qa _)
 |y::Pr,R,hl=>by
  simp only[X5]at hl;have e0:(y::Pr).reverse++x::R=Pr.reverse++y::x::R:=by simp
  have g:(y::Pr).reverse++x::R=(Pr.reverse++[y])++x::R:=by simp
  have a:((y::Pr).length:Int)=((Pr.reverse++[y]).length:Int):=by simp
  have b:idx (Pr.reverse++y::x::R) ((y::Pr).length:Int)=some x:=by rw[<- e0,g,a];exact QeA _ _ _
  have w1:IntKind.i64.wrap (((y::Pr).length:Int)-1)=(Pr.reverse.length:Int):=by rw[X5,List.length_reverse,Yd (by omega) (by omega)];omega
  have d:idx (Pr.reverse++y::x::R) (Pr.reverse.length:Int)=some y:=QeA _ _ _;have k:QbL (Pr.reverse++y::x::R) ((y::Pr).length:Int) y=some (Pr.reverse++y::y::R):=by
   rw[<- e0,g,a,Qhe];simp
  have l:idx (Pr.reverse++y::y::R) (Pr.reverse.length:Int)=some y:=QeA _ _ _;have j:QbL (Pr.reverse++y::y::R) (Pr.reverse.length:Int) x=some (Pr.reverse++x::y::R):=Qhe _ _ _ _;have cmp:∀n,F_bn n x y=some (cmpI x.Position y.Position):=λn=>by
   unfold F_bn F_aq;simp only[XN,QeB]
  have e:decide (cmpI x.Position y.Position<0)=decide (x.Position<y.Position):=by
   unfold cmpI;by_cases h:x.Position<y.Position
   .simp[h]
   .by_cases i:y.Position<x.Position<;>simp[h,i]
  rw[e0];cases q:decide (x.Position<y.Position)with
  |true=>
   have f:=Qnw x Pr (y::R) (by omega);rw[show(Pr.length:Int)=(Pr.reverse.length:Int)by rw[List.length_reverse]]at f;refine(Ex ?_ f).eq ?_
   .unfold F_dj;simp only[b,w1,d,XN,cmp,e,q];refine Ea (v:=true) ?_ ?_
    .rw[Yc (show(0:Int)<((y::Pr).length:Int)by simp only[X5];omega)];exact Qa _
    .simp only[Vt,k,XN,l,j];exact Qa _
   .rw[show insBP x (y::Pr)=bif decide (x.Position<y.Position)then y::insBP x Pr else x::y::Pr from rfl,q];simp
  |false=>
   refine Ej (Ew (v:=.done (Pr.reverse++y::x::R)) ?_ ?_)
   .unfold F_dj;simp only[b,w1,d,XN,cmp,e,q];refine Ea (v:=false) ?_ (Qa _);rw[Yc (show(0:Int)<((y::Pr).length:Int)by simp only[X5];omega)];exact Qa _
   .rw[show insBP x (y::Pr)=bif decide (x.Position<y.Position)then y::insBP x Pr else x::y::Pr from rfl,q];simp
theorem QgH:∀(R P:List Penalty),P.length+R.length<=1000->1<=P.length->EvI (λn=>F_go n 0 ((P.length+R.length:Nat):Int)) (P++R,(P.length:Int)) (R.foldl putB P)
 |[],P,hl,h1=>by
  refine Ej ?_;unfold F_go;simp only[Vk,List.length_nil,Xz,QaO,Vu];exact Qa _
 |x::R,P,hl,h1=>by
  simp only[X5]at hl;have ih:=QgH R (putB P x) (by rw[QbU];omega) (by rw[QbU];omega);have e:(putB P x).length+R.length=P.length+(x::R).length:=by rw[QbU];simp only[X5];omega
  rw[e]at ih;rw[XH];refine Ex ?_ ih;unfold F_go;have a:decide ((P.length:Int)<((P.length+(x::R).length:Nat):Int))=true:=Yc (by simp only[X5];omega);simp only[a,Vt];have h:=Qnw x P.reverse R (by rw[List.length_reverse];omega);rw[List.reverse_reverse,List.length_reverse]at h;refine Ea h.ev ?_;have w:IntKind.i64.wrap ((P.length:Int)+1)=((putB P x).length:Int):=by rw[QbU,YA (by omega)]
  rw[w];exact Qa _
theorem Qba(l:List Penalty):(sortB l).length=l.length:=by
 have:∀(l P:List Penalty),(l.foldl putB P).length=P.length+l.length:=by
  intro l
  induction l with
  |nil=>intro P;rfl
  |cons x l a=>intro P;rw[XH,a,QbU,X5];omega
 unfold sortB;rw[this,List.length_nil,Xy]
theorem QjL{α:Type}{l r:List α}{o:Option (List α)}(h:o=some r)(hl:l.length=r.length):Qc6 l o=some r:=by
 unfold Qc6;rw[h];show(bif Nat.beq l.length r.length then some r else none)=some r;rw[hl,VJ];rfl
theorem Ev.keep{α:Type}{l r:List α}{o:Nat->Option (List α)}(h:Ev o r)(hl:l.length=r.length):Ev (λn=>Qc6 l (o n)) r:=by
 obtain⟨N,h⟩:=h;exact⟨N,λn a=>QjL (h n a) hl⟩
theorem QlD(l:List Penalty)(hl:l.length<=1000):∃u,Ev (λn=>F_ap n l) (l,u):=by
 refine⟨(),?_⟩;unfold F_ap;have b:∀(r:List Penalty) (i:Nat),l.drop i=r->i<=l.length->EvL (λn=>F_gq n l) (i:Int) r ():=by
  intro r
  induction r with
  |nil=>
   intro i d f;refine EvL.done ?_;unfold F_gq;simp only[Ym d f,Vu];exact Qa _
  |cons x r g=>
   intro i d f;obtain⟨a,e⟩:=QK (by omega) d;refine EvL.cont (xs:=[x]) ?_ (g (i+1) e (by have:=a.lt';omega));unfold F_gq;simp only[a.lt,Vt,a.ix,XN,a.nx];exact Qa _
 have h:=b l 0 (by simp) (XY _);unfold ap;refine Ea h.ev ((Qa _).eq ?_);simp
theorem Qi7(n:Nat):∀(ys s:List Penalty),s.length+ys.length<=1000->QcZ (F_fm n) ys s=some (.cont (s++ys))
 |[],s,_=>by simp[QcZ]
 |y::ys,s,h=>by
  simp only[X5]at h;unfold QcZ F_fm;rw[Qbz _ _ (by simp;omega)];show QcZ _ ys _=_;have:=Qi7 n ys (s++[y]) (by simp;omega);unfold F_fm at this;rw[this];simp
theorem ev_by(l:List Penalty)(hl:l.length<20):Ev (λn=>F_cd n l) (sortB l):=by
 unfold F_cd F_gb F_fh F_ev F_dp;simp only[XN];obtain⟨u,b⟩:=QlD l (by omega);have a:Ev (λn=>((F_ap n l).bind λy1=>(QcZ (F_fm n) y1.1 []:Option (Ctl (List Penalty) (List Penalty))).bind λD8=>match D8 with|.cont s14=>(some s14)|.done s14=>some s14)) l:=by
  refine Ea b ?_;have:=λn=>Qi7 n l [] (by simp;omega);simp only[this,Vl,XN];exact Qa _
 refine Ea (Ea (Ea a (Qa _)) (Ea (Ev.keep ?_ (Qba l).symm) (Qa _))) (Qa _);unfold F_gk F_ez F_ec;refine Ea (Ev.keep ?_ (Qba l).symm) (Qa _);simp only[Yc (show(l.length:Int)<20 by omega),Vt];refine Ea (Ev.keep (Ea (v:=sortB l) ?_ (Qa _)) (Qba l).symm) (Qa _);have w1:IntKind.i64.wrap (0+1)=1:=rfl;rw[w1];cases l with
 |nil=>
  refine(Ej ?_).ev;unfold F_go;exact Qa _
 |cons x l=>
  have:=QgH l [x] (by simp only[X5,List.length_nil]at*;omega) (by simp);have e:(((x::l).length:Nat):Int)=(([x].length+l.length:Nat):Int):=by simp only[X5,List.length_nil];omega
  rw[e];exact this.ev
def capF:Int->List Penalty->List Penalty
 |_,[]=>[]
 |room,p::r=>{p with Laps:=if room<p.Laps then room else p.Laps}::capF (IntKind.i64.wrap (room-(if room<p.Laps then room else p.Laps))) r
theorem Qi4:∀(room:Int) (l:List Penalty),(capF room l).length=l.length
 |_,[]=>rfl
 |room,p::r=>by rw[capF,X5,Qi4,X5]
theorem QnF:∀(R P:List Penalty) (a:List Penalty) (room:Int),a.length=P.length+R.length->a.length<=1000->EvI (λn=>F_hj n a) (P++R,room,(P.length:Int)) (P++capF room R)
 |[],P,a,room,hx,hl=>by
  refine Ej ?_;unfold F_hj;have:a.length=P.length:=by simpa using hx
  simp only[this,QaO,Vu,capF];exact Qa _
 |p::R,P,a,room,hx,hl=>by
  simp only[X5]at hx;have b:=QnF R (P++[{p with Laps:=if room<p.Laps then room else p.Laps}]) a (IntKind.i64.wrap (room-(if room<p.Laps then room else p.Laps))) (by simp;omega) hl;have e:∀z:Penalty,(P++[z])++R=P++z::R:=λz=>by simp
  rw[e]at b;refine(Ex ?_ b).eq (by rw[capF];simp);unfold F_hj;simp only[Yc (show(P.length:Int)<(a.length:Int)by omega),Vt,QeA,XN,Qhe];have w:IntKind.i64.wrap ((P.length:Int)+1)=((P++[({p with Laps:=if room<p.Laps then room else p.Laps}:Penalty)]).length:Int):=by rw[YA (by omega)];simp
  rw[w];exact Qa _
mutual
def flP:Part->List Int
 |⟨m,laps,ps⟩=>bif laps==0 then[m]else(List.replicate laps.toNat (flPs ps)).flatten
def flPs:List Part->List Int
 |[]=>[]
 |p::r=>flP p++flPs r
end
theorem Qhx(p:Part):flP p=bif p.Laps==0 then[p.Mat]else(List.replicate p.Laps.toNat (flPs p.Parts)).flatten:=by cases p;rfl
theorem QdN(p:Part)(r:List Part):flPs (p::r)=flP p++flPs r:=by rw[flPs]
theorem Qif:∀(k:Nat) (out lap:List Int),(repS k out lap).length<=256->repS k out lap=out++(List.replicate k lap).flatten
 |0,out,lap,_=>by simp[repS]
 |k+1,out,lap,h=>by
  rw[repS]at h⊢;by_cases hb:256<out.length
  .rw[Vx hb]at h;omega
  .rw[Vw hb]at h⊢;rw[Qif k _ _ h,Xl,Vq,Vm]
theorem QkN{a:Int}{p:Part}(h:partS a p=true):p.Laps=0\/(1<=p.Laps/\p.Laps<=64/\partsS a p.Parts=true):=by
 rw[Qc0]at h;cases b:(p.Laps==0)with
 |true=>exact .inl (by simpa using b)
 |false=>
  rw[b]at h;simp only[Vu,X0,inR,Vv]at h;exact .inr ⟨h.1.1,h.1.2,h.2.2.2⟩
theorem Qnt(u:Int):∀(m:Nat) (l:List Part) (e:List Int),szPs l<=m->partsS u l=true->(expS e l).length<=256->expS e l=e++flPs l:=by
 intro m
 induction m using Nat.strongRecOn with
 |_ m x=>
 intro l
 induction l with
 |nil=>intro e _ _ _;rw[expS,flPs,Vk]
 |cons p r j=>
  intro e w i k;rw[QaI,List.all_cons,X0, <- QaI]at i;have n:szP p+szPs r<=m:=by rw[szPs]at w;omega
  rw[expS]at k⊢;by_cases g:256<(repS (p.Laps.toNat+(bif decide (0<p.Laps)then 0 else 1)) e (lapS p)).length
  .rw[Qfy r g]at k;omega
  .have t:=Qif _ _ _ (Nat.le_of_not_lt g);rw[j _ (by omega) i.2 k,t,QdN,Vm];congr 2;rcases QkN i.1 with s|⟨a,b,d⟩
   .have h:decide (0<p.Laps)=false:=Yx (by omega);have q:(p.Laps==0)=true:=by simp[s]
    rw[Qbt,Qhx,h,q,s];simp
   .have h:decide (0<p.Laps)=true:=Yc (by omega);have q:(p.Laps==0)=false:=beq_false_of_ne (by omega);have f:(lapS p).length<=256:=by
     rw[t,h]at g;simp only[Vt,Xz]at g;have:p.Laps.toNat=(p.Laps.toNat-1)+1:=by omega
     rw[this,Xl,Vq]at g;simp only[X7]at g;omega
    rw[Qbt,h,Vt]at f;rw[Jo]at n;have:=x (szPs p.Parts) (by omega) p.Parts [] (XX _) d f;rw[Qbt,Qhx,h,q,Vt,Vt,Vu,Xz,this,Vl]
theorem Qo0(L:Int):∀(m:Nat) (l:List Part) (e:List Int),szPs l<=m->partsS L l=true->l.length<=1048576->(∀x∈l,Part.wf x)->e.length+(flPs l).length<=256->Ev (λn=>F_k n l e) (e++flPs l):=by
 intro m
 induction m using Nat.strongRecOn with
 |_ m T=>
 intro l e V B O M N;rw[QaI,Xu]at B;refine Je ?_;show Ev (λn=>B_k (F_k n) n l e) _;unfold B_k;have inner:∀(p:Part) (w:List Int),0<=p.Laps->p.Laps<=64->(∀o:List Int,o.length+w.length<=256->Ev (λn=>F_k n p.Parts o) (o++w))->∀(k j:Nat) (o:List Int),j+k=p.Laps.toNat->o.length+(List.replicate k w).flatten.length<=256->
   EvI (λn=>F_eu n (F_k n) p) (o,(j:Int)) (o++(List.replicate k w).flatten):=by
  intro p w F R h k
  induction k with
  |zero=>
   intro j o J _;refine Ej ?_;unfold F_eu;simp only[Yx (show¬((j:Int)<p.Laps)by omega),Vu,List.replicate_zero,List.flatten_nil,Vk];exact Qa _
  |succ k u=>
   intro j o J g;rw[Xl,Vq]at g⊢;simp only[X7]at g;refine(Ex ?_ (u (j+1) (o++w) (by omega) (by rw[X7];omega))).eq (by rw[Vm]);unfold F_eu;simp only[Yc (show(j:Int)<p.Laps by omega),Vt];refine Ea (h o (by omega)) ?_;rw[YA (by omega)];exact Qa _
 have loop:∀(r:List Part) (i:Nat) (o:List Int),l.drop i=r->i<=l.length->o.length+(flPs r).length<=256->EvI (λn=>F_gx n l (F_k n)) (o,(i:Int)) (o++flPs r):=by
  intro r
  induction r with
  |nil=>
   intro i o h E _;refine Ej ?_;unfold F_gx;simp only[Ym h E,Vu,flPs,Vk];exact Qa _
  |cons p r z=>
   intro i o h E g;obtain⟨f,y⟩:=QK (by omega) h;have G:=f.lt';rw[QdN,X7]at g;have H:=Qal f.mem;rw[Jo]at H;obtain⟨w1,w2⟩:=Y2 (M p f.mem);have P:=B p f.mem;refine(Ex ?_ (z (i+1) (o++flP p) y (by omega) (by rw[X7];omega))).eq (by rw[QdN,Vm]);unfold F_gx;simp only[f.lt,Vt,f.ix,XN,f.nx];rcases QkN P with F|⟨a,b,d⟩
   .have q:(p.Laps==0)=true:=by simp[F]
    have s:flP p=[p.Mat]:=by rw[Qhx,q];rfl
    rw[s]at g⊢;refine Ea (v:=o++[p.Mat]) ?_ ?_
    .rw[q];refine Qf0 ?_;rw[Qbz _ _ (by simp;omega)];exact Qa _
    .refine Ea (v:=o++[p.Mat]) ((Ej ?_).ev) (Qa _);unfold F_eu;simp only[Yx (show¬((0:Int)<p.Laps)by omega),Vu];exact Qa _
   .have q:(p.Laps==0)=false:=beq_false_of_ne (by omega);have s:flP p=(List.replicate p.Laps.toNat (flPs p.Parts)).flatten:=by rw[Qhx,q];rfl
    rw[s]at g⊢;refine Ea (v:=o) ?_ ?_
    .rw[q];exact Qa _
    .refine Ea ((inner p (flPs p.Parts) (by omega) b (λQ t=>T (szPs p.Parts) (by omega) p.Parts Q (XX _) d w1 w2 t) p.Laps.toNat 0 o (by omega) (by omega)).ev) (Qa _)
 exact Ea ((loop l 0 e (by simp) (XY _) N).ev) (Qa _)
structure Good (c:Course):Prop where
 parts:∀d∈c.Distances,partsS ((c.Mats.length:Int)-1) d.Route=true
 route:∀d∈c.Distances,2<=(expS [] d.Route).length/\(expS [] d.Route).length<=256
 len:∀d∈c.Distances,d.Route.length<=1048576
 wf:∀d∈c.Distances,∀x∈d.Route,Part.wf x
 legs:c.Legs.length<=512
theorem Good.exp{c:Course}(g:Good c){d:Distance}(a:d∈c.Distances):expS [] d.Route=flPs d.Route:=by
 have:=Qnt _ _ d.Route [] (XX _) (g.parts d a) (g.route d a).2
 rwa [Vl]at this
theorem QiU{c:Course}(g:Good c){d:Distance}(a:d∈c.Distances):Ev (λn=>F_au n d.Route) (flPs d.Route):=by
 unfold F_au;have h:=(g.route d a).2;rw[g.exp a]at h;refine Ea ((Qo0 _ _ d.Route [] (XX _) (g.parts d a) (g.len d a) (g.wf d a) (by simpa using h)).eq (Vl _)) (Qa _)
theorem Qo4{c:Course}(he:Ev (λn=>F_f n c) 0){i:Nat}{d:Distance}(a:c.Distances[i]?=some d):Ev (λn=>F_bf n c (i:Int)) (d,0):=by
 unfold F_bf;refine Ea he ?_;have b:=(XP.1 a).1;refine Jy (Ea (v:=false) ?_ ?_)
 .rw[Yx (show¬((i:Int)<0)by omega),Yx (show¬((c.Distances.length:Int)<=(i:Int))by omega)];exact Qa _
 .simp only[Vu,YW a,XN];exact Qa _
theorem Qo2(c:Course)(hl:c.Legs.length<=512):∃m,Ev (λn=>Go.Sw.iter (F_gy n c) n (([]:List (Ua×Leg)),0)) m:=by
 refine⟨_,Q5 c.Legs (λ(m:List (Ua×Leg)) x=>QG m ({from_:=x.From,to_:=x.To:Ua}) x) [] (λm i=>(m,(i:Int))) (λm=>m) (by omega) rfl (λi x m ha _=>?_) ?_⟩
 .unfold F_gy;simp only[ha.lt,Vt,ha.ix,XN,ha.nx];exact Qa _
 .unfold F_gy;simp only[QaO,Vu];exact Qa _
theorem QlG{c:Course}(g:Good c)(he:Ev (λn=>F_f n c) 0){i:Nat}{d:Distance}(e:c.Distances[i]?=some d):Ev (λn=>F_cl n c (i:Int) 0) (flPs d.Route,0):=by
 have b:=VL e;have h:=(g.route d b).2;rw[g.exp b]at h;unfold F_cl F_en;obtain⟨m,a⟩:=Qo2 c g.legs;refine Ea (v:=(0,flPs d.Route)) ?_ (by simp only[bne_self_eq_false,Vu];exact Qa _);refine Ea (v:=U_course_build.c3 (flPs d.Route,m)) ?_ (Qa _);refine Ea (Qo4 he e) (Jy (Ea (v:=false) (Qa _) (Jy (Ea (QiU g b) ?_))));have w:IntKind.i64.wrap (256-((flPs d.Route).length:Int))=256-((flPs d.Route).length:Int):=Yd (by omega) (by omega);simp only[w,Yx (show¬(256-((flPs d.Route).length:Int)<0)by omega),Vu];refine Ea (v:=flPs d.Route) (Qa _) (Ea a (Qa _))
theorem Qmm{α:Type}{step:Nat->Int->Option (Ctl Int (Ctl Unit Int))}(l:List α)(q:α->Bool)(hl:l.length<=1048576)
  (s:∀i x,At l i x->Ev (λn=>step n (i:Int)) (bif q x then .done (.done (i:Int))else .cont ((i+1:Nat):Int)))(w:Ev (λn=>step n (l.length:Int)) (.done (.cont ()))):
  (∃i x,At l i x/\l.find? q=some x/\Ev (λn=>Go.Sw.iter (step n) n 0) (.done (i:Int)))\/l.find? q=none/\Ev (λn=>Go.Sw.iter (step n) n 0) (.cont ()):=by
 have f:∀(r:List α) (i:Nat),l.drop i=r->i<=l.length->(∃j x,At l j x/\r.find? q=some x/\EvI step (i:Int) (.done (j:Int)))\/r.find? q=none/\EvI step (i:Int) (.cont ()):=by
  intro r
  induction r with
  |nil=>
   intro i k p;have:i=l.length:=by have:=Xs.1 k;omega
   subst this;exact .inr ⟨rfl,Ej w⟩
  |cons x r u=>
   intro i k p;obtain⟨g,m⟩:=QK (by omega) k;have t:=g.lt';have h:=s i x g;rw[List.find?_cons];cases e:q x with
   |true=>rw[e]at h;exact .inl ⟨i,x,g,rfl,Ej h⟩
   |false=>
    rw[e]at h;rcases u (i+1) m (by omega)with⟨j,y,a,b,d⟩|⟨a,b⟩
    .exact .inl ⟨j,y,a,b,Ex h d⟩
    .exact .inr ⟨a,Ex h b⟩
 rcases f l 0 (by simp) (XY _)with⟨j,x,a,b,d⟩|⟨a,b⟩
 .exact .inl ⟨j,x,a,b,d.ev⟩
 .exact .inr ⟨a,b.ev⟩
theorem QoN{c:Course}(w:CourseOk c)(q:PartsOk c)(h:courseE c=0):Good c:=by
 unfold courseE at h;cases e:fitsS c with
 |false=>rw[e]at h;cases h
 |true=>
  rw[e]at h;cases j:namesS c with
  |false=>rw[j]at h;cases h
  |true=>
   rw[j]at h;cases b:numbersS c with
   |false=>rw[b]at h;cases h
   |true=>
    rw[b]at h;simp only[Vt]at h;have g:c.Distances.all (routeS c)=true:=by
     cases f:(tiesE c.Ties==0)with
     |false=>
      rw[f,Vu]at h;rw[VD]at f;exact absurd h f
     |true=>
      rw[f,Vt]at h;cases g:c.Distances.all (routeS c)with
      |true=>rfl
      |false=>rw[g]at h;cases h
    unfold numbersS at b;simp only[X0]at b;obtain⟨_,_,_,i,_⟩:=b;unfold fitsS at e;simp only[X0,Bool.not_eq_true',X2,decide_eq_false_iff_not]at e;rw[Xu]at g i;refine⟨λd a=>?_,λd a=>?_,q.len,q.wf,?_⟩
    .have:=i d a;unfold distS at this;simp only[X0]at this;exact this.2.2.1
    .have:=g d a;unfold routeS routeR at this;simp only[X0,Vv]at this;exact this.1
    .have:=e.1.2.1;omega
theorem Qgf{e:Int}{c:Course}{l:List Fact}{s:Starter}(h:s∈(startF e c l).1):e=0/\ ∃f∈l,okS c f=true/\f.Starter=s:=by
 unfold startF at h;cases a:(e != 0)with
 |true=>rw[a]at h;cases h
 |false=>
  rw[a]at h;simp only[bne_eq_false_iff_eq]at a;cases i:decide (((ordF (firstS c l)).map chipK).Nodup)with
  |false=>rw[i]at h;cases h
  |true=>
   rw[i]at h;simp only[Vu,Vt]at h;obtain⟨f,g,rfl⟩:=Xe.1 h;unfold ordF at g;obtain⟨k,j,rfl⟩:=Xe.1 g;have b:=(Ql _ _).mem_iff.1 j;obtain⟨v,d⟩:=(Qbg _ _).1 b;have:=(Qcg c l).ok k v d;refine⟨a,v,this.2.2,this.2.1,?_⟩;rw[Qgs,d];rfl
theorem Qjt{e:Int}{c:Course}{l:List Fact}{s:Starter}(h:s∈(startF e c l).1):0<=s.Distance/\s.Distance<(c.Distances.length:Int):=by
 obtain⟨_,f,_,a,rfl⟩:=Qgf h;unfold okS at a;simp only[X0,VC,Bool.not_eq_true',decide_eq_false_iff_not]at a;obtain⟨i,g,j,_⟩:=a;obtain⟨_,b,_⟩:=Qd0 g;unfold contR at b;rw[i]at b;have d:(true&&(nb f.Starter.Bib 1 9999&&(nb f.Starter.Distance 0 7&&(nb f.Starter.Wave 0 31&&(nb f.Starter.Slot (-1099511627776) 1099511627776&&(nb f.Starter.Age 0 120&&(nb f.Starter.Chip 0 1048576&&(nb f.Starter.Team 0 9999&&(nb f.Starter.Lot 0 1048576&&true)))))))))=true:=b;simp only[X0,QdH]at d;have:=d.2.2.1.1;omega
def roomF(c:Course)(s:Starter):Int:=match c.Distances[s.Distance.toNat]? with
 |some d=>bif decide (0<=d.Extra)then 256-((flPs d.Route).length:Int)else 0
 |none=>0
def ofF(e:Int)(c:Course)(l:List Fact)(b:Int):List Penalty:=bif (startF e c l).2 != 0 then[]else match(startF e c l).1.find? λs=>s.Bib==b with
 |none=>[]
 |some s=>capF (roomF c s) (sortB (casesF e c l b).2)
theorem QoD(e:Int)(c:Course)(l:List Fact)(b:Int):(ofF e c l b).length<=l.length:=by
 unfold ofF;cases((startF e c l).2 != 0)with
 |true=>exact XY _
 |false=>
  simp only[Vu];cases(startF e c l).1.find? λs=>s.Bib==b with
  |none=>exact XY _
  |some s=>
   simp only;rw[Qi4,Qba];exact(QcL e c l b).2
theorem Qpz(e:Int)(c:Course)(l:List Fact)(b:Int)(hl:l.length<=15)(he:Ev (λn=>F_f n c) e)(g:e=0->Good c):Ev (λn=>F_m n c l b) (ofF e c l b):=by
 unfold F_m ofF;refine Ea (QiR e c l (by omega) he) ?_;cases z:((startF e c l).2 != 0)with
 |true=>exact Qa _
 |false=>
  simp only[Vu];have t:=Qju e c l;have k:∀s∈(startF e c l).1,e=0/\0<=s.Distance/\s.Distance<(c.Distances.length:Int):=λs k=>⟨(Qgf k).1,Qjt k⟩;generalize(startF e c l).1=S at t k;have w:=Qmm (step:=λn=>F_gz n S b) S (λs=>s.Bib==b) (by omega) (λi x f=>by
    unfold F_gz;simp only[f.lt,Vt,f.ix,XN,f.nx];unfold F_fk;simp only[XN];cases(x.Bib==b)<;>exact Qa _) (by
    unfold F_gz;simp only[QaO,Vu];exact Qa _)
  rcases w with⟨i,s,f,m,h⟩|⟨m,h⟩
  .rw[m];simp only;refine Ea (v:=(i:Int)) (by unfold F_cj;exact Ea h (Qa _)) ?_;obtain⟨r,E,y⟩:=k s f.mem;subst r;have p:=g rfl;obtain⟨j,q⟩:∃j:Nat,s.Distance=(j:Int):=⟨s.Distance.toNat,by omega⟩;have a:c.Distances[j]?=some (c.Distances[j]'(by omega)):=XO (by omega);generalize c.Distances[j]'(by omega)=d at a;have u:=(p.route d (VL a)).2;rw[p.exp (VL a)]at u;have er:roomF c s=bif decide (0<=d.Extra)then 256-((flPs d.Route).length:Int)else 0:=by
    unfold roomF;rw[q,Int.toNat_natCast,a]
   rw[er];simp only[Yx (show¬((i:Int)<0)by omega),Vu,f.ix,XN,q,YW a];refine Ea (v:=bif decide (0<=d.Extra)then 256-((flPs d.Route).length:Int)else 0) ?_ ?_
   .refine QbH (λ_=>?_) λ_=>Qa _;refine Ea (QlG p he a) ?_;simp only[Yd (n:=256-((flPs d.Route).length:Int)) (by omega) (by omega)];exact Qa _
   refine Ea (QfD 0 c l b (by omega) he) ?_;have B:=(QcL 0 c l b).2;generalize(bif decide (0<=d.Extra)then 256-((flPs d.Route).length:Int)else 0)=room;refine Ea (ev_by _ (by omega)) (Ea ?_ (Qa _));have:=QnF (sortB (casesF 0 c l b).2) [] (sortB (casesF 0 c l b).2) room (by simp) (by rw[Qba];omega);exact this.ev
  .rw[m];simp only;refine Ea (v:= -1) (by unfold F_cj;exact Ea h (Qa _)) ?_;exact Qa _
end Go.Sw
