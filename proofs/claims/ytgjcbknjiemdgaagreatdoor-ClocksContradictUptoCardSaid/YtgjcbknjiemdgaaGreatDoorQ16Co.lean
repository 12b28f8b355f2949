/- The plain laws that a law needs, with no program in sight. -/
import Derived.Test.YtgjcbknjiemdgaaGreatDoorW16Co
set_option linter.unusedVariables false
set_option linter.unusedSimpArgs false
namespace Go.Sw
def inR(lo hi x:Int):Bool:=decide (lo<=x)&&decide (x<=hi)
theorem QfV(lo hi:Int)(l:List Int)(a:l.length<=4611686018427387904):Ev (λn=>F_a n lo hi l) (l.all (inR lo hi)):=by
 have h:Ev (λn=>F_bb n l lo hi) (l.any λx=> !inR lo hi x):=by
  unfold F_bb F_en;refine Ev.contains l _ (λn x=>F_at n x lo hi) a λx _=>?_;unfold F_at;refine Ea (v:= !inR lo hi x) ?_ (Qa _);refine(Er λh=>Qa _).eq ?_;unfold inR;rw[XX];simp
 unfold F_a;refine Ea h ((Qa _).eq ?_);rw[List.not_any_eq_all_not];simp
def okN(c:Nat):Bool:=(decide (97<=c)&&decide (c<=122))||(decide (48<=c)&&decide (c<=57))||decide (c=95)
def okAN(c:Nat):Bool:=decide (97<=c)&&decide (c<=122)
def okC(c:UInt8):Bool:=okN c.toNat
def okA(c:UInt8):Bool:=okAN c.toNat
def kwL:List (List UInt8):=[[99,111,117,114,115,101],[109,97,116,115],[115,116,97,114,116],[112,97,115,115],[101,110,100],[108,101,103],[116,111],[100,105,115,116,97,110,99,101],[103,117,110],[99,104,105,112],[115,108,111,116],[108,97,112,115],[108,97,112],[99,117,116,111,102,102],[101,120,116,114,97],[119,97,118,101],[111,102,102,101,110,99,101],[111,117,116],[99,97,116,101,103,111,114,121],[112,114,105,122,101],[97,108,108],[116,105,101,115],[105,102],[101,108,115,101],[97,110,100],[111,114],[110,111,116],[111,108,100,101,114],[121,111,117,110,103,101,114],[98,105,98],[100,114,97,119],[102,105,101,108,100],[115,104,111,114,116],[102,97,117,108,116,115],[109,105,115,115,101,115],[115,116,114,97,121,115],[119,105,110,100,111,119],[114,101,115,105,100,117,97,108],[100,114,105,102,116],[112,114,111,116,101,115,116],[102,101,101],[100,101,97,100,108,105,110,101]]
theorem Qmq(c d:Bool):(bif c then some c else some d)=some (c||d):=by cases c<;>rfl
def kwsOf:List UInt8->List (List UInt8)
 |[]=>[]
 |b::l=>(bif b==32&& !(l.dropWhile λc=>c != 32).isEmpty then[l.takeWhile λc=>c != 32]else[])++kwsOf l
theorem QdF:∀(l s:List UInt8),(∀c∈s,c≠32)->(s++[32]).isPrefixOf l=((l.takeWhile λc=>c != 32)==s&& !(l.dropWhile λc=>c != 32).isEmpty)
 |[],s,h=>by cases s<;>simp
 |b::l,[],h=>by
  by_cases e:b=32
  .subst e;simp[List.isPrefixOf]
  .have e1:(b != 32)=true:=by simpa using e
   have a:(32==b)=false:=by simpa using λq=>e q.symm
   simp[List.isPrefixOf,List.takeWhile_cons,e1,a]
 |b::l,c::s,h=>by
  have i:=h c (by simp);have k:=QdF l s λd g=>h d (by simp[g]);by_cases e:b=32
  .subst e;have:(c==32)=false:=by simpa using i
   simp[List.isPrefixOf,this]
  .have e1:(b != 32)=true:=by simpa using e
   simp only[VJ,List.isPrefixOf,List.takeWhile_cons,List.dropWhile_cons,e1,if_true,k,List.cons_beq_cons];by_cases q:c=b
   .subst q;simp
   .have j:(c==b)=false:=by simpa using q
    have f:(b==c)=false:=by simpa using λz=>q z.symm
    simp[j,f]
theorem contains_cons(b:UInt8)(l t:List UInt8)(d:t≠[]):Lib.contains (b::l) t=(t.isPrefixOf (b::l)||Lib.contains l t):=by
 unfold Lib.contains;rw[show Lib.index (b::l) t=if t.isPrefixOf (b::l)then 0 else if Lib.index l t== -1 then-1 else Lib.index l t+1 from rfl];cases h:t.isPrefixOf (b::l)with
 |true=>simp
 |false=>
  have:=Lib.index_ge l t;by_cases q:Lib.index l t= -1
  .simp[q]
  .have a:(Lib.index l t== -1)=false:=by simpa using q
   simp only[a,Bool.false_or];rw[XX];simp;omega
theorem QbN(s:List UInt8)(h:∀c∈s,c≠32):∀l,Lib.contains l (32::(s++[32]))=(kwsOf l).contains s
 |[]=>by simp[Lib.contains,Lib.index,kwsOf]
 |b::l=>by
  rw[contains_cons b l _ (by simp),QbN s h l];simp only[kwsOf,List.isPrefixOf,QdF l s h];by_cases e:b=32
  .subst e;cases q: !(l.dropWhile λc=>c != 32).isEmpty with
   |true=>
    simp only[q,beq_self_eq_true,Vz,Bool.and_true,Vn,VJ,Vg,List.contains_cons];congr 1;rw[XX];simp only[Vx];exact⟨λh=>h.symm,λh=>h.symm⟩
   |false=>simp[q]
  .have e1:(b==32)=false:=by simpa using e
   have a:(32==b)=false:=by simpa using λq=>e q.symm
   simp[e1,a]
def wordsL:List UInt8:=[32,99,111,117,114,115,101,32,109,97,116,115,32,115,116,97,114,116,32,112,97,115,115,32,101,110,100,32,108,101,103,32,116,111,32,100,105,115,116,97,110,99,101,32,103,117,110,32,99,104,105,112,32,115,108,111,116,32,108,97,112,115,32,108,97,112,32,99,117,116,111,102,102,32,101,120,116,114,97,32,119,97,118,101,32,111,102,102,101,110,99,101,32,111,117,116,32,99,97,116,101,103,111,114,121,32,112,114,105,122,101,32,97,108,108,32,116,105,101,115,32,105,102,32,101,108,115,101,32,97,110,100,32,111,114,32,110,111,116,32,111,108,100,101,114,32,121,111,117,110,103,101,114,32,98,105,98,32,100,114,97,119,32,102,105,101,108,100,32,115,104,111,114,116,32,102,97,117,108,116,115,32,109,105,115,115,101,115,32,115,116,114,97,121,115,32,119,105,110,100,111,119,32,114,101,115,105,100,117,97,108,32,100,114,105,102,116,32,112,114,111,116,101,115,116,32,102,101,101,32,100,101,97,100,108,105,110,101,32]
theorem QoO:kwsOf wordsL=kwL:=by decide+kernel
def classTab:List Int:=(List.range 256).map λi=>if 97<=i/\i<=122\/65<=i/\i<=90 then 2 else if 48<=i/\i<=57 then 3 else if i∈[123,125,40,41,91,93,59,44,61,60,62]then 4 else if i∈[32,9,10,13]then 1 else 0
theorem QiM:Ev F_cd classTab:=by
 unfold F_cd;refine Ea (Qb1 (step:=F_eb 0) 40 (b:=(iter (F_eb 0) 40 (List.replicate 256 0,97)).getD []) (by decide+kernel)) ?_;refine Ea (Qb1 (step:=F_gq 0) 40 (b:=(iter (F_gq 0) 40 ((iter (F_eb 0) 40 (List.replicate 256 0,97)).getD [],48)).getD []) (by decide+kernel)) ?_;generalize hb:(iter (F_gq 0) 40 ((iter (F_eb 0) 40 (List.replicate 256 0,97)).getD [],48)).getD []=b2;refine Ea (Qb1 (step:=F_hd 0) 40 (b:=(iter (F_hd 0) 40 (b2,0)).getD []) (by subst hb;decide+kernel)) ?_;refine Ea (Qb1 (step:=F_hk 0) 40 (b:=classTab) (by subst hb;decide+kernel)) ?_;exact Ex (by decide+kernel)
theorem Qkv:((List.range 256).all λi=> !okN i||decide (classTab[i]?=some (if okAN i then 2 else if i=95 then 0 else 3)))=true:=by decide+kernel
theorem Qmo{c:UInt8}(h:okC c=true):Qd2 256 classTab (c.toNat:Int)=some (if okA c then 2 else if c.toNat=95 then 0 else 3):=by
 have a:=Xs.1 Qkv c.toNat (List.mem_range.2 c.toNat_lt);unfold okC at h;rw[h]at a;simp only[Xg,Bool.false_or,Vq]at a;unfold Qd2;rw[show Nat.beq classTab.length 256=true by decide+kernel,Vn,QQ a];rfl
def goodS(s:List UInt8):Bool:=decide (1<=s.length)&&decide (s.length<=24)&&(s.head?).any okA&&s.all okC
def isNameS(s:List UInt8):Bool:=goodS s&& !kwL.contains s
theorem Qkk(s:List UInt8)(h:goodS s=true):Ev (λn=>F_ct n s) true:=by
 unfold goodS at h;simp only[XW,Vq,Xs]at h;obtain⟨⟨⟨d,k⟩,g⟩,f⟩:=h;unfold F_ct;refine Ea QiM ?_;refine QaQ (v:=List.replicate 256 0) (by decide+kernel) ?_;refine QaQ (v:=classTab) (by decide+kernel) ?_;refine Ea (v:=Ctl.cont ()) (Ev.iter (λi=>(i:Int)) s.length rfl (λi e=>?_) ?_) ?_
 .have a:=Jo (x:=s[i]) (by omega) (XK e);have j:=f _ a.mem;unfold F_hb;simp only[a.lt,Vn,a.ix,XJ,Qmo j,a.nx];cases i with
  |zero=>
   have:okA s[0]=true:=by
    cases s with
    |nil=>simp at d
    |cons c r=>simpa using g
   simp[this];exact Qa _
  |succ i=>
   by_cases q:okA s[i+1]=true
   .simp[q];exact Qa _
   .by_cases b:s[i+1].toNat=95
    .simp[q,b];exact Qa _
    .simp[q,b];exact Qa _
 .unfold F_hb;simp only[QcH,Vp];exact Qa _
 .refine Ex ?_;cases s with
  |nil=>simp at d
  |cons c r=>rfl
theorem Qkg{s:List UInt8}(h:goodS s=true):∀c∈s,c≠32:=by
 unfold goodS at h;simp only[XW,Xs]at h;rintro c a rfl;exact absurd (h.2 _ a) (by decide)
theorem QlO{s:List UInt8}(h:goodS s=true):s.length<=24:=by
 unfold goodS at h;simp only[XW,Vq]at h;exact h.1.1.2
theorem QiO(s:List UInt8)(h:goodS s=true):Ev (λn=>F_ci n s) (kwL.contains s):=by
 unfold F_ci;refine Ea (v:=kwL.contains s) ?_ (Qa _);refine Ea (Qkk s h) (QjU ?_);have a:=QlO h;refine QaQ (v:=[32]++s) (by unfold cat;rw[XS (by simp;omega)];rfl) ?_;refine QaQ (v:=[32]++s++[32]) (by unfold cat;rw[XS (by simp;omega)];rfl) ?_;refine QaQ (v:=kwL.contains s) ?_ (Qa _);show QeQ wordsL ([32]++s++[32])=some (kwL.contains s);unfold QeQ;rw[show Nat.blt wordsL.length 4294967281=true by decide+kernel,Vn];rw[show[32]++s++[32]=32::(s++[32])by simp,QbN s (Qkg h),QoO]
theorem ch_lt(c:UInt8)(k:Nat):decide ((c.toNat:Int)<(k:Int))=decide (c.toNat<k):=by
 rw[XX];simp
theorem badC(c:UInt8):(bif decide ((c.toNat:Int)<97)then(bif decide ((c.toNat:Int)<48)then some ((c.toNat:Int) != 95)else(bif decide (57<(c.toNat:Int))then some ((c.toNat:Int) != 95)else some false))else(bif decide (122<(c.toNat:Int))then(bif decide ((c.toNat:Int)<48)then some ((c.toNat:Int) != 95)else(bif decide (57<(c.toNat:Int))then some ((c.toNat:Int) != 95)else some false))else some false))=some (!okC c):=by
 unfold okC okN;generalize c.toNat=k;have e:((k:Int) != 95)= !decide (k=95):=by
  by_cases h:k=95
  .subst h;rfl
  .rw[Vw h];simp;omega
 rw[e];by_cases i:k<48
 .rw[QT (show(k:Int)<97 by omega),QT (show(k:Int)<48 by omega)];have a:¬97<=k:=by omega
  have f:¬48<=k:=by omega
  simp[a,f]
 .rw[QP (show¬(k:Int)<48 by omega)];by_cases b:k<=57
  .rw[QT (show(k:Int)<97 by omega),QP (show¬57<(k:Int)by omega)];have a:48<=k:=by omega
   simp[a,b]
  .rw[QT (show 57<(k:Int)by omega)];by_cases g:k<97
   .rw[QT (show(k:Int)<97 by omega)];have a:¬97<=k:=by omega
    simp[a,b]
   .rw[QP (show¬(k:Int)<97 by omega)];by_cases d:k<=122
    .rw[QP (show¬122<(k:Int)by omega)];have a:97<=k:=by omega
     simp[a,d]
    .rw[QT (show 122<(k:Int)by omega)];simp[b,d]
theorem Qka(n:Nat)(s:List UInt8):(bif decide ((s.length:Int)<1)then some true else(bif decide (24<(s.length:Int))then some true else(idx s 0).bind λx10=>(bif decide ((x10.toNat:Int)<97)then some true else(idx s 0).bind λx12=>some (decide (122<(x12.toNat:Int))))))=some (!(decide (1<=s.length)&&decide (s.length<=24)&&(s.head?).any okA)):=by
 cases s with
 |nil=>rfl
 |cons c r=>
  rw[QP (show¬((c::r).length:Int)<1 by simp;omega),Vp];by_cases h:(c::r).length<=24
  .rw[QP (show¬24<((c::r).length:Int)by omega),Vp];have d:idx (c::r) 0=some c:=rfl;simp only[d,XJ];simp only[XZ]at h;have a:r.length<=23:=by omega
   simp only[List.head?_cons,Option.any_some,okA,okAN];rw[show(97:Int)=((97:Nat):Int)from rfl,ch_lt];by_cases b:c.toNat<97
   .have:¬97<=c.toNat:=by omega
    simp[b,this]
   .have e:97<=c.toNat:=by omega
    simp[b,e,a];by_cases q:c.toNat<=122
    .rw[QP (show¬122<(c.toNat:Int)by omega),QT q];rfl
    .rw[QT (show 122<(c.toNat:Int)by omega),QP q];rfl
  .rw[QT (show 24<((c::r).length:Int)by omega),Vn];simp only[XZ]at h;have a:¬r.length<=23:=by omega
   simp[a]
theorem QfY(s:List UInt8)(g:s.length<=1048576):Ev (λn=>F_e n s) (isNameS s):=by
 unfold F_e;refine Ea (Ex (Qka 0 s)) ?_;unfold isNameS;cases f:(decide (1<=s.length)&&decide (s.length<=24)&&(s.head?).any okA)with
 |false=>
  simp only[Xh,Vn];have:goodS s=false:=by unfold goodS;rw[f];rfl
  rw[this];exact Qa _
 |true=>
  simp only[Xg,Vp];have d:goodS s=s.all okC:=by unfold goodS;rw[f];rfl
  refine Ea (QbR s (λc=> !okC c) (λi=>(i:Int)) (Ctl.done false) (Ctl.cont ()) (by omega) rfl (λi x a b=>?_) (λi x a b=>?_) ?_) ?_
  .unfold F_gk;simp only[a.lt,Vn,a.ix,XJ,badC,b,Vp,a.nx];exact Qa _
  .unfold F_gk;simp only[a.lt,Vn,a.ix,XJ,badC,b];exact Qa _
  .unfold F_gk;simp only[QcH,Vp];exact Qa _
  .rw[d];have e:s.any (λc=> !okC c)= !s.all okC:=by rw[List.not_all_eq_any_not]
   rw[e];cases q:s.all okC with
   |true=>
    simp only[Xg,Vp,Vz];exact Ea (QiO s (d.trans q)) (Qa _)
   |false=>
    simp only[Xh,Vn,Bool.false_and];exact Qa _
def diffS:List (List UInt8)->List (List UInt8)->Bool
 |_,[]=>true
 |seen,x::r=>isNameS x&& !seen.contains x&&diffS (seen++[x]) r
theorem QiQ(l:List (List UInt8))(i:Nat)(x:List UInt8)(h:At l i x):diffS (l.take i) (l.drop i)=(isNameS x&& !(l.take i).contains x&&diffS (l.take (i+1)) (l.drop (i+1))):=by
 rw[h.drop,h.take];rfl
theorem QbL{α:Type}(l:List α)(a:α->List UInt8)(g:Nat->α->Option Unit)(hg:∀n x,g n x=some ())(q:l.length<=1048576)(p:∀x∈l,(a x).length<=1048576):
  Ev (λn=>((iter (λs:(List (List UInt8×Bool))×Int=>bif decide (s.2<(l.length:Int))then(idx l s.2).bind λx35=>(g n x35).bind λr36=>((F_e n (a x35)).bind λr42=>(bif (!r42)then some true else(some (QN s.1 (a x35) false)).bind λv44=>some v44):Option Bool).bind λb40=>(bif b40 then some (.done (.done false))else(some (Yl s.1 (a x35) true)).bind λm46=>some (.cont (m46,IntKind.i64.wrap (s.2+1))))else some (.done (.cont ()))) n ([],0):Option (Ctl Unit Bool)).bind λb28=>
   match b28 with
   |.cont _=>some true
   |.done s=>some s:Option Bool)) (diffS [] (l.map a)):=by
 have e:l.length<=4611686018427387904:=by omega
 have f:(l.map a).length<=4611686018427387904:=by simpa using e
 have k:=Qg6 (B:=Ctl Unit Bool) l (step:=λn s=>bif decide (s.2<(l.length:Int))then(idx l s.2).bind λx35=>(g n x35).bind λr36=>((F_e n (a x35)).bind λr42=>(bif (!r42)then some true else(some (QN s.1 (a x35) false)).bind λv44=>some v44):Option Bool).bind λb40=>(bif b40 then some (.done (.done false))else(some (Yl s.1 (a x35) true)).bind λm46=>some (.cont (m46,IntKind.i64.wrap (s.2+1))))else some (.done (.cont ())))
  (s0:=(([]:List (List UInt8×Bool)),(0:Int))) (λi=>(Yf a true (l.take i),(i:Int))) (λi=>bif diffS ((l.map a).take i) ((l.map a).drop i)then .cont ()else .done false) e rfl (λi x d=>?_) ?_
 .refine Ea k ?_;simp only[List.take_zero,List.drop_zero];cases diffS [] (l.map a)<;>exact Qa _
 .have j:At (l.map a) i (a x):=Jo f (by rw[Xo,d.get];rfl);simp only[QiQ _ _ _ j];have b:Ev (λn=>((F_e n (a x)).bind λr42=>(bif (!r42)then some true else(some (QN (Yf a true (l.take i)) (a x) false)).bind λv44=>some v44):Option Bool)) (!(isNameS (a x)&& !((l.map a).take i).contains (a x))):=by
   refine Ea (QfY (a x) (p x d.mem)) ?_;cases isNameS (a x)with
   |false=>exact Qa _
   |true=>
    refine Yg ((Qa _).eq ?_);rw[QdH,List.map_take];by_cases h:a x∈(l.map a).take i
    .rw[Vs h];simp[h]
    .rw[Vr h];simp[h]
  cases m:(isNameS (a x)&& !((l.map a).take i).contains (a x))with
  |true=>
   rw[m]at b;refine .inl ⟨?_,by simp⟩;simp only[d.lt,Vn,d.ix,XJ,hg];refine Ea b ?_;simp only[Xg,Vp,XJ,d.nx];rw[d.take,Qgy];exact Qa _
  |false=>
   rw[m]at b;refine .inr ?_;simp only[d.lt,Vn,d.ix,XJ,hg];refine Ea b ?_;simp only[Xh,Vn,Bool.false_and,Vp];exact Qa _
 .simp only[QcH,Vp];rw[show(l.map a).drop l.length=[]by apply List.drop_eq_nil_of_le;simp];exact Qa _
theorem Qo0{α:Type}{l:List α}{x:α}(h:l.length<=140737488):app l [x]=some (l++[x]):=Qbp l x (by omega)
theorem QfZ{α β:Type}(l:List α)(f:α->β)(j:l.length<=140737488):Ev (λn=>iter (λs:(List β)×Int=>bif decide (s.2<(l.length:Int))then(idx l s.2).bind λx15=>(app s.1 [f x15]).bind λl16=>some (Ctl.cont (l16,IntKind.i64.wrap (s.2+1)))else some (Ctl.done s.1)) n (([]:List β),(0:Int))) (l.map f):=by
 have e:∀l:List α,l.foldl (λ(a:List β) x=>a++[f x]) []=l.map f:=by
  intro l;have d:∀(l:List α) (a:List β),l.foldl (λ(a:List β) x=>a++[f x]) a=a++l.map f:=by
   intro l
   induction l with
   |nil=>intro a;simp
   |cons x l h=>intro a;rw[XD,h];simp
  simpa using d l []
 rw[<- e l];refine Jn l (λ(a:List β) x=>a++[f x]) [] (λa i=>(a,(i:Int))) (λa=>a) (by omega) rfl (λi x a g b=>?_) ?_
 .rw[e]at b;have:a.length<=140737488:=by rw[b];simp;omega
  simp only[g.lt,Vn,g.ix,XJ,Qo0 this,g.nx];exact Qa _
 .simp only[QcH,Vp];exact Qa _
def namesS(c:Course):Bool:=isNameS c.Name&&(diffS [] (c.Mats.map (·.Name))&&(diffS [] (c.Distances.map (·.Name))&&(diffS [] (c.Waves.map (·.Name))&&(diffS [] (c.Offences.map (·.Name))&&diffS [] (c.Categories.map (·.Name))))))
structure CourseOk (c:Course):Prop where
 name:c.Name.length<=1048576
 mats:c.Mats.length<=1048576
 matsN:∀x∈c.Mats,x.Name.length<=1048576
 legs:c.Legs.length<=1048576
 dist:c.Distances.length<=1048576
 distN:∀x∈c.Distances,x.Name.length<=1048576
 cut:∀x∈c.Distances,x.Cutoffs.length<=1048576
 wave:c.Waves.length<=1048576
 waveN:∀x∈c.Waves,x.Name.length<=1048576
 off:c.Offences.length<=1048576
 offN:∀x∈c.Offences,x.Name.length<=1048576
 cat:c.Categories.length<=1048576
 catN:∀x∈c.Categories,x.Name.length<=1048576
 prize:c.Prizes.length<=1048576
theorem Ql4(c:Course)(w:CourseOk c):Ev (λn=>F_cp n c) (namesS c):=by
 unfold F_cp namesS;refine Ea (v:=_) ?_ (Qa _);refine Ea (QfY c.Name w.name) (Eh λ_=>?_);have f:Ev (λn=>F_ch n c.Mats) (diffS [] (c.Mats.map (·.Name))):=by unfold F_ch;exact QbL c.Mats (·.Name) F_dm (λ_ _=>rfl) w.mats w.matsN
 have b:Ev (λn=>F_cb n c.Distances) (diffS [] (c.Distances.map (·.Name))):=by unfold F_cb;exact QbL c.Distances (·.Name) F_fl (λ_ _=>rfl) w.dist w.distN
 have e:Ev (λn=>F_cu n c.Waves) (diffS [] (c.Waves.map (·.Name))):=by unfold F_cu;exact QbL c.Waves (·.Name) F_ei (λ_ _=>rfl) w.wave w.waveN
 have d:Ev (λn=>F_db n c.Offences) (diffS [] (c.Offences.map (·.Name))):=by unfold F_db;exact QbL c.Offences (·.Name) F_ej (λ_ _=>rfl) w.off w.offN
 have a:Ev (λn=>F_bq n c.Categories) (diffS [] (c.Categories.map (·.Name))):=by unfold F_bq;exact QbL c.Categories (·.Name) F_fr (λ_ _=>rfl) w.cat w.catN
 refine Ea f (Eh λ_=>?_);refine Ea b (Eh λ_=>?_);refine Ea e (Eh λ_=>?_);refine Ea d (Eh λ_=>?_);exact Ea a (Qa _)
theorem Qcs{n:Nat}(h:n<=1048576):IntKind.i64.wrap ((n:Int)-1)=(n:Int)-1:=Qq (by omega) (by omega)
mutual
def szP:Part->Nat
 |⟨_,_,ps⟩=>1+szPs ps
def szPs:List Part->Nat
 |[]=>0
 |p::r=>szP p+szPs r
end
theorem Qad(p:Part):szP p=1+szPs p.Parts:=by cases p;rfl
theorem QaF{p:Part}:∀{l:List Part},p∈l->szP p<=szPs l
 |q::r,h=>by
  simp only[szPs];rcases X5.1 h with rfl|h
  .omega
  .have:=QaF h;omega
mutual
def partS(k:Int):Part->Bool
 |⟨m,laps,ps⟩=>bif laps==0 then inR 0 k m&&((ps.length:Int)==0)else inR 1 64 laps&&((m==0)&&(decide (0<(ps.length:Int))&&partsS k ps))
def partsS(k:Int):List Part->Bool
 |[]=>true
 |p::r=>partS k p&&partsS k r
end
theorem QeD(k:Int)(p:Part):partS k p=bif p.Laps==0 then inR 0 k p.Mat&&((p.Parts.length:Int)==0)else inR 1 64 p.Laps&&((p.Mat==0)&&(decide (0<(p.Parts.length:Int))&&partsS k p.Parts)):=by cases p;rfl
theorem Qdb(k:Int):∀l:List Part,partsS k l=l.all (partS k)
 |[]=>rfl
 |p::r=>by simp only[partsS,List.all_cons,Qdb k r]
theorem Y2{p:Part}(h:Part.wf p):p.Parts.length<=1048576/\ ∀x∈p.Parts,Part.wf x:=by
 cases p;simp only[Part.wf,QcV]at h;exact h.2.2.1
theorem QD(lo hi x:Int):Ev (λn=>F_a n lo hi [x]) (inR lo hi x):=(QfV lo hi [x] (by simp)).eq (by simp)
theorem QaJ(lo hi x y:Int):Ev (λn=>F_a n lo hi [x,y]) (inR lo hi x&&inR lo hi y):=(QfV lo hi [x,y] (by simp)).eq (by simp)
theorem Ql3(k:Int):∀(m:Nat) (l:List Part),szPs l<=m->l.length<=1048576->(∀x∈l,Part.wf x)->Ev (λn=>F_f n l k) (partsS k l):=by
 intro m
 induction m with
 |zero=>
  intro l a e d;cases l with
  |nil=>
   refine Y5 ?_;show Ev (λn=>B_f (F_f n) n [] k) _;unfold B_f F_bw F_bc;exact Y6 [] (partS k) (λn x=>F_av (F_f n) n x k) (by simp) (by simp)
  |cons p r=>
   exfalso;simp only[szPs,Qad]at a;omega
 |succ m g=>
  intro l a e d;refine Y5 ?_;show Ev (λn=>B_f (F_f n) n l k) _;unfold B_f F_bw F_bc;rw[Qdb];refine Y6 l (partS k) (λn x=>F_av (F_f n) n x k) (by omega) λp b=>?_;unfold F_av;rw[QeD];have f:=QaF b;rw[Qad]at f;obtain⟨w1,w2⟩:=Y2 (d p b);refine QbS (λ_=>?_) (λ_=>?_)
  .exact Ea (Ea (QD _ _ _) (Eh λ_=>Qa _)) (Qa _)
  .exact Ea (Ea (QD _ _ _) (Eh λ_=>Eh λ_=>Eh λ_=>Ea (g p.Parts (by omega) w1 w2) (Qa _))) (Qa _)
def legS(k:Int)(l:Leg):Bool:=(inR 0 k l.From&&inR 0 k l.To)&&((inR 0 68719476736 l.Min&&inR 0 68719476736 l.Max)&&decide (l.Min<=l.Max))
def cutS(k:Int)(x:Cutoff):Bool:=inR 0 k x.Mat&&(decide (1<=x.Lap)&&inR 0 1099511627776 x.Limit)
def distS(k:Int)(d:Distance):Bool:=inR 1 3 d.Timing&&(inR (-1) k d.Extra&&(partsS k d.Route&&d.Cutoffs.all (cutS k)))
def offS(o:Offence):Bool:=bif o.Out then(o.Time==0)&&(o.Laps==0)else bif o.Laps != 0 then(o.Time==0)&&inR 1 64 o.Laps else inR 0 68719476736 o.Time
def catS(x:Category):Bool:=(inR 0 120 x.From&&inR 0 120 x.To)&&decide (x.From<=x.To)
def prizeS(c:Course)(p:Prize):Bool:=inR 0 ((c.Distances.length:Int)-1) p.Distance&&(inR (-1) ((c.Categories.length:Int)-1) p.Category&&(inR 1 4000 p.Rank&&inR 1 1125899906842624 p.Amount))
def lastS(c:Course):Bool:=(inR 0 16 c.Faults.Misses&&inR 0 16 c.Faults.Strays)&&((inR 0 4294967296 c.Faults.Window&&inR 0 4294967296 c.Faults.Residual)&&(inR 0 100000 c.Faults.Drift&&(inR 0 1125899906842624 c.Fee&&inR 0 1099511627776 c.Deadline)))
def legKey(l:Leg):Ue:={from_:=l.From,to_:=l.To}
def prizeKey(p:Prize):Ug:={distance:=p.Distance,category:=p.Category,rank:=p.Rank}
def numbersS(c:Course):Bool:=
 let k:=(c.Mats.length:Int)-1
 c.Mats.all (λm=>inR 1 3 m.Kind)&&(c.Legs.all (legS k)&&(decide ((c.Legs.map legKey).Nodup)&&(c.Distances.all (distS k)&&(c.Waves.all (λw=>inR 0 1099511627776 w.Gun)&&(c.Offences.all offS&&(c.Categories.all catS&&(c.Prizes.all (prizeS c)&&(decide ((c.Prizes.map prizeKey).Nodup)&&lastS c))))))))
structure PartsOk (c:Course):Prop where
 len:∀d∈c.Distances,d.Route.length<=1048576
 wf:∀d∈c.Distances,∀x∈d.Route,Part.wf x
theorem QgK(l:List Leg)(b:l.length<=1048576):Ev (λn=>F_cf n l) (decide ((l.map legKey).Nodup)):=by
 unfold F_cf;refine Ea (Qbu l legKey true (by omega) (λi x m a=>?_) (λm=>?_)) ((Qa _).eq ?_)
 .unfold F_hh F_ek;simp only[a.lt,Vn,a.ix,XJ,a.nx];exact Qa _
 .unfold F_hh;simp only[QcH,Vp];exact Qa _
 .rw[XX];simp only[Vx,Vq];have:=Qb7 legKey true l;rw[<- this.2];omega
theorem Qe3(l:List Prize)(b:l.length<=1048576):Ev (λn=>F_cl n l) (decide ((l.map prizeKey).Nodup)):=by
 unfold F_cl;refine Ea (Qbu l prizeKey true (by omega) (λi x m a=>?_) (λm=>?_)) ((Qa _).eq ?_)
 .unfold F_gy F_de;simp only[a.lt,Vn,a.ix,XJ,a.nx];exact Qa _
 .unfold F_gy;simp only[QcH,Vp];exact Qa _
 .rw[XX];simp only[Vx,Vq];have:=Qb7 prizeKey true l;rw[<- this.2];omega
theorem QiI(c:Course)(w:CourseOk c)(q:PartsOk c):Ev (λn=>F_bu n c) (numbersS c):=by
 unfold F_bu numbersS;rw[Qcs w.mats];refine Ea (v:=_) ?_ (Qa _);have j:Ev (λn=>F_cc n c.Mats) (c.Mats.all λm=>inR 1 3 m.Kind):=by
  unfold F_cc F_fc F_fz;refine Y6 c.Mats _ (λn x=>F_bo n x) (by have:=w.mats;omega) λx a=>?_;unfold F_bo;exact Ea (QD _ _ _) (Qa _)
 have d:Ev (λn=>F_bn n c.Legs ((c.Mats.length:Int)-1)) (c.Legs.all (legS ((c.Mats.length:Int)-1))):=by
  unfold F_bn F_eu F_fj;refine Y6 c.Legs _ (λn x=>F_co n x _) (by have:=w.legs;omega) λx a=>?_;unfold F_co;exact Ea (Ea (QaJ _ _ _ _) (Eh λ_=>Ea (QaJ _ _ _ _) (Eh λ_=>Qa _))) (Qa _)
 have h:Ev (λn=>F_cm n c.Distances ((c.Mats.length:Int)-1)) (c.Distances.all (distS ((c.Mats.length:Int)-1))):=by
  unfold F_cm F_fe F_fu;refine Y6 c.Distances _ (λn x=>F_cv n x _) (by have:=w.dist;omega) λx a=>?_;unfold F_cv;have i:Ev (λn=>F_bm n x.Cutoffs ((c.Mats.length:Int)-1)) (x.Cutoffs.all (cutS ((c.Mats.length:Int)-1))):=by
   unfold F_bm F_dx F_dp;refine Y6 x.Cutoffs _ (λn x=>F_ca n x _) (by have:=w.cut x a;omega) λy k=>?_;unfold F_ca;exact Ea (Ea (QD _ _ _) (Eh λ_=>Eh λ_=>Ea (QD _ _ _) (Qa _))) (Qa _)
  exact Ea (Ea (QD _ _ _) (Eh λ_=>Ea (QD _ _ _) (Eh λ_=>Ea (Ql3 _ _ x.Route (XT _) (q.len x a) (q.wf x a)) (Eh λ_=>Ea i (Qa _))))) (Qa _)
 have b:Ev (λn=>F_ay n c.Waves) (c.Waves.all λw=>inR 0 1099511627776 w.Gun):=by
  unfold F_ay F_fk F_dl;refine Y6 c.Waves _ (λn x=>F_bf n x) (by have:=w.wave;omega) λx a=>?_;unfold F_bf;exact Ea (QD _ _ _) (Qa _)
 have f:Ev (λn=>F_ce n c.Offences) (c.Offences.all offS):=by
  unfold F_ce F_fo F_ec;refine Y6 c.Offences _ (λn x=>F_dd n x) (by have:=w.off;omega) λx a=>?_;unfold F_dd offS;refine QbS (λ_=>Ea (Eh λ_=>Qa _) (Qa _)) λ_=>QbS (λ_=>Ea (Eh λ_=>Ea (QD _ _ _) (Qa _)) (Qa _)) λ_=>Ea (QD _ _ _) (Qa _)
 have e:Ev (λn=>F_az n c.Categories) (c.Categories.all catS):=by
  unfold F_az F_dy F_fd;refine Y6 c.Categories _ (λn x=>F_cz n x) (by have:=w.cat;omega) λx a=>?_;unfold F_cz;exact Ea (Ea (QaJ _ _ _ _) (Eh λ_=>Qa _)) (Qa _)
 have g:Ev (λn=>F_cj n c.Prizes c) (c.Prizes.all (prizeS c)):=by
  unfold F_cj F_fq F_dt;refine Y6 c.Prizes _ (λn x=>F_bj n x c) (by have:=w.prize;omega) λx a=>?_;unfold F_bj;rw[Qcs w.dist,Qcs w.cat];exact Ea (Ea (QD _ _ _) (Eh λ_=>Ea (QD _ _ _) (Eh λ_=>Ea (QD _ _ _) (Eh λ_=>Ea (QD _ _ _) (Qa _))))) (Qa _)
 refine Ea j (Eh λ_=>Ea d (Eh λ_=>Ea (QgK _ w.legs) (Eh λ_=>Ea h (Eh λ_=>Ea b (Eh λ_=>Ea f (Eh λ_=>Ea e (Eh λ_=>Ea g (Eh λ_=>Ea (Qe3 _ w.prize) (Eh λ_=>?_)))))))));exact Ea (QaJ _ _ _ _) (Eh λ_=>Ea (QaJ _ _ _ _) (Eh λ_=>Ea (QD _ _ _) (Eh λ_=>Ea (QD _ _ _) (Eh λ_=>Ea (QD _ _ _) (Qa _)))))
theorem ends_eq{a b a' d:Int}:(({from_:=a,to_:=b}:Ue)={from_:=a',to_:=d})↔a=a'/\b=d:=by simp
theorem QkV{α B:Type}{step:Nat->Int->Option (Ctl Int B)}(l:List α)(ok:α->Bool)(a b:B)(k:l.length<=4611686018427387904)
  (g:∀i x,At l i x->Ev (λn=>step n (i:Int)) (bif ok x then .cont ((i+1:Nat):Int)else .done a))(j:Ev (λn=>step n (l.length:Int)) (.done b)):
  Ev (λn=>Go.Sw.iter (step n) n 0) (bif l.all ok then b else a):=by
 have e:(bif l.all ok then b else a)=bif l.any (λx=> !ok x)then a else b:=by
  rw[<- List.not_all_eq_any_not];cases l.all ok<;>rfl
 rw[e];refine QbR l (λx=> !ok x) (λi=>(i:Int)) a b k rfl (λi x d f=>?_) (λi x d f=>?_) j
 .have h:ok x=true:=by simpa using f
  have:=g i x d
  rwa [h]at this
 .have h:ok x=false:=by simpa using f
  have:=g i x d
  rwa [h]at this
mutual
def cN:Cond->Nat
 |⟨_,_,_,ps⟩=>1+cNs ps
def cNs:List Cond->Nat
 |[]=>0
 |c::r=>cN c+cNs r
end
theorem QcL(c:Cond):cN c=1+cNs c.Parts:=by cases c;rfl
mutual
def cD:Nat->Cond->Bool
 |d,⟨_,_,_,ps⟩=>cDs d ps
def cDs:Nat->List Cond->Bool
 |_,[]=>true
 |d,c::r=>decide (d<=16)&&(cD (d+1) c&&cDs d r)
end
theorem Qmp(d:Nat)(c:Cond):cD d c=cDs d c.Parts:=by cases c;rfl
def zeroC(c:Cond):Bool:=(c.Kind==0)&&((c.Var==0)&&((c.N==0)&&((c.Parts.length:Int)==0)))
mutual
def sNp:Step->Nat
 |⟨_,_,_,t,e⟩=>1+sNs t+sNs e
def sNs:List Step->Nat
 |[]=>0
 |s::r=>sNp s+sNs r
end
theorem QfJ(s:Step):sNp s=1+sNs s.Then+sNs s.Else:=by cases s;rfl
mutual
def sC:Step->Nat
 |⟨_,_,c,t,e⟩=>(bif zeroC c then 0 else cN c)+sCs t+sCs e
def sCs:List Step->Nat
 |[]=>0
 |s::r=>sC s+sCs r
end
theorem QfK(s:Step):sC s=(bif zeroC s.Cond then 0 else cN s.Cond)+sCs s.Then+sCs s.Else:=by cases s;rfl
mutual
def sDp:Nat->Step->Bool
 |d,⟨_,_,c,t,e⟩=>(zeroC c||cD 1 c)&&(sDs d t&&sDs d e)
def sDs:Nat->List Step->Bool
 |_,[]=>true
 |d,s::r=>decide (d<=16)&&(sDp (d+1) s&&sDs d r)
end
theorem Qjj(d:Nat)(s:Step):sDp d s=((zeroC s.Cond||cD 1 s.Cond)&&(sDs d s.Then&&sDs d s.Else)):=by cases s;rfl
mutual
def sZ:Step->Nat
 |⟨_,_,c,t,e⟩=>2+cN c+sZs t+sZs e
def sZs:List Step->Nat
 |[]=>0
 |s::r=>sZ s+sZs r
end
theorem Qhg(s:Step):sZ s=2+cN s.Cond+sZs s.Then+sZs s.Else:=by cases s;rfl
def fS:Uf->Nat
 |.ctyping_step x=>sNp x.Step
 |.ctyping_cond _=>0
def fC:Uf->Nat
 |.ctyping_step x=>sC x.Step
 |.ctyping_cond x=>cN x.Cond
def fD(d:Nat):Uf->Bool
 |.ctyping_step x=>sDp d x.Step
 |.ctyping_cond x=>cD d x.Cond
def fZ:Uf->Nat
 |.ctyping_step x=>sZ x.Step
 |.ctyping_cond x=>cN x.Cond
def fSs(l:List Uf):Nat:=(l.map fS).sum
def fCs(l:List Uf):Nat:=(l.map fC).sum
def fZs(l:List Uf):Nat:=(l.map fZ).sum
def fwf:Uf->Prop
 |.ctyping_step x=>Step.wf x.Step
 |.ctyping_cond x=>Cond.wf x.Cond
def ofStep(s:Step):Uf:=.ctyping_step {Step:=s}
def ofCond(c:Cond):Uf:=.ctyping_cond {Cond:=c}
theorem Qa6:∀l:List Step,fSs (l.map ofStep)=sNs l
 |[]=>rfl
 |s::r=>by
  have:=Qa6 r;simp only[fSs,Vi,List.sum_cons]at this⊢;rw[this];rfl
theorem Qa7:∀l:List Step,fCs (l.map ofStep)=sCs l
 |[]=>rfl
 |s::r=>by
  have:=Qa7 r;simp only[fCs,Vi,List.sum_cons]at this⊢;rw[this];rfl
theorem QbK:∀l:List Step,fZs (l.map ofStep)=sZs l
 |[]=>rfl
 |s::r=>by
  have:=QbK r;simp only[fZs,Vi,List.sum_cons]at this⊢;rw[this];rfl
theorem QeZ:∀l:List Cond,fSs (l.map ofCond)=0
 |[]=>rfl
 |s::r=>by
  have:=QeZ r;simp only[fSs,Vi,List.sum_cons]at this⊢;rw[this];rfl
theorem Qe1:∀l:List Cond,fCs (l.map ofCond)=cNs l
 |[]=>rfl
 |s::r=>by
  have:=Qe1 r;simp only[fCs,Vi,List.sum_cons]at this⊢;rw[this];rfl
theorem QeX:∀l:List Cond,fZs (l.map ofCond)=cNs l
 |[]=>rfl
 |s::r=>by
  have:=QeX r;simp only[fZs,Vi,List.sum_cons]at this⊢;rw[this];rfl
theorem QcE(d:Nat):∀l:List Step,sDs d l=((l.map ofStep).isEmpty||(decide (d<=16)&&(l.map ofStep).all (fD (d+1))))
 |[]=>rfl
 |s::r=>by
  rw[sDs,QcE d r];simp only[Vi,List.isEmpty_cons,Bool.false_or,List.all_cons];rw[show fD (d+1) (ofStep s)=sDp (d+1) s from rfl];cases r with
  |nil=>simp
  |cons x r=>
   simp only[Vi,List.isEmpty_cons,Bool.false_or,List.all_cons];cases decide (d<=16)<;>simp
theorem QhG(d:Nat):∀l:List Cond,cDs d l=((l.map ofCond).isEmpty||(decide (d<=16)&&(l.map ofCond).all (fD (d+1))))
 |[]=>rfl
 |s::r=>by
  rw[cDs,QhG d r];simp only[Vi,List.isEmpty_cons,Bool.false_or,List.all_cons];rw[show fD (d+1) (ofCond s)=cD (d+1) s from rfl];cases r with
  |nil=>simp
  |cons x r=>
   simp only[Vi,List.isEmpty_cons,Bool.false_or,List.all_cons];cases decide (d<=16)<;>simp
theorem Qaj{c:Cond}(h:Cond.wf c):c.Parts.length<=1048576/\ ∀x∈c.Parts,Cond.wf x:=by
 cases c;simp only[Cond.wf,QcZ]at h;exact h.2.2.2.1
theorem Qai{s:Step}(h:Step.wf s):Cond.wf s.Cond/\(s.Then.length<=1048576/\ ∀x∈s.Then,Step.wf x)/\(s.Else.length<=1048576/\ ∀x∈s.Else,Step.wf x):=by
 cases s;simp only[Step.wf,QcR]at h;exact⟨h.2.2.1,h.2.2.2.1,h.2.2.2.2.1⟩
theorem QfX(n:Nat)(c:Cond):F_ae n {Cond:=c}=some (zeroC c):=by
 unfold F_ae zeroC;cases(c.Kind==0)<;>cases(c.Var==0)<;>cases(c.N==0)<;>rfl
theorem QiH(n:Nat)(c:Cond):F_bx n c=some (zeroC c):=by
 unfold F_bx zeroC;cases(c.Kind==0)<;>cases(c.Var==0)<;>cases(c.N==0)<;>rfl
theorem Qe2(l:List Step)(a:l.length<=140737488):Ev (λn=>F_af n l) (l.map ofStep):=by
 unfold F_af;exact Ea (QfZ l ofStep a) (Qa _)
theorem Ql8(l:List Cond)(a:l.length<=140737488):Ev (λn=>F_bt n l) (l.map ofCond):=by
 unfold F_bt;exact Ea (QfZ l ofCond a) (Qa _)
def stepParts(s:Step):List Uf:=s.Then.map ofStep++s.Else.map ofStep
theorem Qbm(s:Step)(h:Step.wf s):Ev (λn=>F_aa n {Step:=s}) (stepParts s):=by
 obtain⟨_,⟨b,_⟩,⟨a,_⟩⟩:=Qai h;unfold F_aa stepParts;refine Ea (Qe2 s.Then (by omega)) (Ea (Qe2 s.Else (by omega)) (QaQ (Qh2 _ _ (by simp;omega)) (Qa _)))
theorem QcG(c:Cond)(h:Cond.wf c):Ev (λn=>F_t n {Cond:=c}) (c.Parts.map ofCond):=by
 obtain⟨a,_⟩:=Qaj h;unfold F_t;exact Ea (Ql8 c.Parts (by omega)) (Qa _)
def okL(l:List Uf)(d:Nat)(st co:Int):Bool:=l.isEmpty||(decide (d<=16)&&(l.all (fD (d+1))&&(decide (st+fSs l<=64)&&decide (co+fCs l<=256))))
def okR(l:List Uf)(d:Nat)(st co:Int):Bool:=l.isEmpty||(l.all (fD (d+1))&&(decide (st+fSs l<=64)&&decide (co+fCs l<=256)))
def okF(f:Uf)(d:Nat)(st co:Int):Bool:=fD (d+1) f&&(decide (st+fS f<=64)&&decide (co+fC f<=256))
theorem QhF(f:Uf)(l:List Uf):fSs (f::l)=fS f+fSs l:=rfl
theorem QhH(f:Uf)(l:List Uf):fCs (f::l)=fC f+fCs l:=rfl
theorem QhE(f:Uf)(l:List Uf):fZs (f::l)=fZ f+fZs l:=rfl
theorem QeY(l m:List Uf):fSs (l++m)=fSs l+fSs m:=by simp[fSs]
theorem Qe0(l m:List Uf):fCs (l++m)=fCs l+fCs m:=by simp[fCs]
theorem QeW(l m:List Uf):fZs (l++m)=fZs l+fZs m:=by simp[fZs]
theorem QlA(f:Uf)(r:List Uf)(d:Nat)(h a:Int):okR (f::r) d h a=(okF f d h a&&okR r d (h+fS f) (a+fC f)):=by
 unfold okR okF;rw[QhF,QhH];cases r with
 |nil=>simp[fSs,fCs]
 |cons g r=>
  rw[XX];simp only[List.isEmpty_cons,Bool.false_or,List.all_cons,XW,Vq];rw[show((fS f+fSs (g::r):Nat):Int)=(fS f:Int)+(fSs (g::r):Int)by omega,show((fC f+fCs (g::r):Nat):Int)=(fC f:Int)+(fCs (g::r):Int)by omega];constructor
  .rintro⟨⟨e,b⟩,i,j⟩;exact⟨⟨e,by omega,by omega⟩,b,by omega,by omega⟩
  .rintro⟨⟨e,_,_⟩,b,i,j⟩;exact⟨⟨e,b⟩,by omega,by omega⟩
theorem Qgu(l:List Uf)(d:Nat)(h g:Int)(j:h<=64)(i:g<=256):okL l d h g=true↔(l.isEmpty||(decide (d<=16)&&l.all (fD (d+1))))=true/\h+fSs l<=64/\g+fCs l<=256:=by
 unfold okL;cases l with
 |nil=>simp[fSs,fCs,j,i]
 |cons f r=>
  simp only[List.isEmpty_cons,Bool.false_or,XW,Vq];constructor
  .rintro⟨a,b,c,e⟩;exact⟨⟨a,b⟩,c,e⟩
  .rintro⟨⟨a,b⟩,c,e⟩;exact⟨a,b,c,e⟩
theorem Qep(s:Step)(d:Nat):((stepParts s).isEmpty||(decide (d<=16)&&(stepParts s).all (fD (d+1))))=(sDs d s.Then&&sDs d s.Else):=by
 rw[QcE,QcE];unfold stepParts;rw[List.all_append];cases b:s.Then<;>cases a:s.Else<;>simp<;>(cases decide (d<=16)<;>simp)
def Cnt(R:Nat->List Uf->Int->Ud->Option (Ud×Bool))(l:List Uf)(d:Nat)(st co:Int):Prop:=
 ∃c':Ud,Ev (λn=>R n l (d:Int) {steps:=st,conds:=co}) (c',okL l d st co)/\(okL l d st co=true->c'={steps:=st+fSs l,conds:=co+fCs l})
theorem QiR{R:Nat->List Uf->Int->Ud->Option (Ud×Bool)}{l:List Uf}{d:Nat}(hd:d<=16){i:Nat}{f:Uf}(V:At l i f)(hw:fwf f)
  (X:∀l' d' a e,fZs l'<fZ f->l'.length<=2097152->(∀f∈l',fwf f)->d'<=17->0<=a->a<=66->(a<=65\/ ∀f∈l',∃c,f=ofCond c)->0<=e->e<=256->Cnt R l' d' a e){a e:Int}(h0:0<=a)(ab:a<=66)(z:a<=65\/ ∃c,f=ofCond c)(h2:0<=e)(h3:e<=256):
  ∃c':Ud,Ev (λn=>F_ed n l (d:Int) (R n) ({steps:=a,conds:=e},(i:Int))) (bif okF f d a e then .cont (c',((i+1:Nat):Int))else .done (.done (c',false)))/\(okF f d a e=true->c'={steps:=a+fS f,conds:=e+fC f}):=by
 unfold F_ed;simp only[V.lt,Vn,V.ix,XJ,V.nx];have ed:IntKind.i64.wrap ((d:Int)+1)=((d+1:Nat):Int):=QZ (by omega);cases f with
 |ctyping_step x=>
  obtain⟨s⟩:=x;have h1:a<=65:=by
   rcases z with h|⟨c,h⟩
   .exact h
   .cases h
  have k:Step.wf s:=hw;obtain⟨wc,⟨aa,P⟩,⟨ac,W⟩⟩:=Qai k;have e1:IntKind.i64.wrap (a+1)=a+1:=Qq (by omega) (by omega);simp only[Uf.elim,QfX,XJ,e1];have hc:∃t:Ud,Ev (λn=>((bif (!zeroC s.Cond)then(R n [Uf.ctyping_cond {Cond:=s.Cond}] 0 {steps:=a+1,conds:=e}).bind λp=>some (p.1,(!p.2))else some ({steps:=a+1,conds:=e},false)):Option (Ud×Bool))) (t, !(zeroC s.Cond||(cD 1 s.Cond&&(decide (a+1<=64)&&decide (e+cN s.Cond<=256)))))/\
    ((zeroC s.Cond||(cD 1 s.Cond&&(decide (a+1<=64)&&decide (e+cN s.Cond<=256))))=true->t={steps:=a+1,conds:=e+((bif zeroC s.Cond then 0 else cN s.Cond:Nat):Int)}):=by
   cases H:zeroC s.Cond with
   |true=>
    refine⟨{steps:=a+1,conds:=e},?_,λ_=>?_⟩
    .exact Qa _
    .simp
   |false=>
    obtain⟨t,m,B⟩:=X [ofCond s.Cond] 0 (a+1) e (by simp only[fZs,Vi,Vj,List.sum_cons,List.sum_nil];show cN s.Cond+0<sZ s;rw[Qhg];omega) (by simp) (by intro g j;simp only[VA]at j;subst j;exact wc) (by omega) (by omega) (by omega) (.inr (by intro g j;simp only[VA]at j;exact⟨_,j⟩)) h2 h3;have ek:okL [ofCond s.Cond] 0 (a+1) e=(cD 1 s.Cond&&(decide (a+1<=64)&&decide (e+cN s.Cond<=256))):=by
     unfold okL;simp only[List.isEmpty_cons,Bool.false_or,List.all_cons,List.all_nil,Bool.and_true,fSs,fCs,Vi,Vj,List.sum_cons,List.sum_nil];rw[show fD (0+1) (ofCond s.Cond)=cD 1 s.Cond from rfl,show fS (ofCond s.Cond)=0 from rfl,show fC (ofCond s.Cond)=cN s.Cond from rfl];simp
    rw[ek]at m B;refine⟨t,Ea m (Qa _),λh=>?_⟩;rw[B h];simp[fSs,fCs,show fS (ofCond s.Cond)=0 from rfl,show fC (ofCond s.Cond)=cN s.Cond from rfl]
  obtain⟨t,m,B⟩:=hc;generalize hb:(zeroC s.Cond||(cD 1 s.Cond&&(decide (a+1<=64)&&decide (e+cN s.Cond<=256))))=b at m B;have hF:okF (Uf.ctyping_step {Step:=s}) d a e=(sDp (d+1) s&&(decide (a+sNp s<=64)&&decide (e+sC s<=256))):=rfl;rw[hF];cases b with
  |false=>
   have:(sDp (d+1) s&&(decide (a+sNp s<=64)&&decide (e+sC s<=256)))=false:=by
    rw[VL];intro hh;simp only[XW,Vq,Qjj,QfJ,QfK]at hh;obtain⟨⟨Y,_⟩,z2,z3⟩:=hh;cases H:zeroC s.Cond with
    |true=>rw[H]at hb;cases hb
    |false=>
     rw[H]at hb Y z3;simp only[Bool.false_or]at hb Y;rw[Y]at hb;simp only[Vp]at z3;rw[QT (show a+1<=64 by omega),QT (show e+(cN s.Cond:Int)<=256 by omega)]at hb;cases hb
   rw[this];exact⟨t,Ea m (Qa _),λh=>by cases h⟩
  |true=>
   obtain rfl:=B rfl;by_cases q:64<a+1
   .have:(sDp (d+1) s&&(decide (a+sNp s<=64)&&decide (e+sC s<=256)))=false:=by
     rw[QP (show¬a+(sNp s:Int)<=64 by rw[QfJ];omega)];simp
    rw[this];refine⟨{steps:=a+1,conds:=e+((bif zeroC s.Cond then 0 else cN s.Cond:Nat):Int)},Ea m ?_,λh=>by cases h⟩;simp only[Xg,Vp];refine Ea (v:=(_,true)) ?_ (Qa _);rw[QT q];exact Qa _
   by_cases F:256<e+((bif zeroC s.Cond then 0 else cN s.Cond:Nat):Int)
   .have:(sDp (d+1) s&&(decide (a+sNp s<=64)&&decide (e+sC s<=256)))=false:=by
     rw[QP (show¬e+(sC s:Int)<=256 by rw[QfK];omega)];simp
    rw[this];refine⟨{steps:=a+1,conds:=e+((bif zeroC s.Cond then 0 else cN s.Cond:Nat):Int)},Ea m ?_,λh=>by cases h⟩;simp only[Xg,Vp];refine Ea (v:=(_,true)) ?_ (Qa _);rw[QP q,QT F];exact Qa _
   obtain⟨G,w,u⟩:=X (stepParts s) (d+1) (a+1) (e+((bif zeroC s.Cond then 0 else cN s.Cond:Nat):Int)) (by
     unfold stepParts;rw[QeW,QbK,QbK];show _<sZ s;rw[Qhg];omega) (by unfold stepParts;simp;omega) (by
     intro g j;unfold stepParts at j;rcases VC.1 j with j|j
     .obtain⟨y,E,rfl⟩:=Xe.1 j;exact P y E
     .obtain⟨y,E,rfl⟩:=Xe.1 j;exact W y E) (by omega) (by omega) (by omega) (.inl (by omega)) (by omega) (by omega)
   have N:okL (stepParts s) (d+1) (a+1) (e+((bif zeroC s.Cond then 0 else cN s.Cond:Nat):Int))=(sDp (d+1) s&&(decide (a+sNp s<=64)&&decide (e+sC s<=256))):=by
    rw[XX,Qgu _ _ _ _ (by omega) (by omega),Qep];simp only[XW,Vq,Qjj,QfJ,QfK];have L:fSs (stepParts s)=sNs s.Then+sNs s.Else:=by unfold stepParts;rw[QeY,Qa6,Qa6]
    have Q:fCs (stepParts s)=sCs s.Then+sCs s.Else:=by unfold stepParts;rw[Qe0,Qa7,Qa7]
    rw[L,Q];have T:(zeroC s.Cond||cD 1 s.Cond)=true:=by
     cases H:zeroC s.Cond with
     |true=>rfl
     |false=>
      rw[H]at hb;simp only[Bool.false_or,XW]at hb;rw[hb.1];rfl
    constructor
    .rintro⟨r,J,M⟩;exact⟨⟨T,r⟩,by omega,by omega⟩
    .rintro⟨⟨_,r⟩,J,M⟩;exact⟨r,by omega,by omega⟩
   rw[N]at w u;refine⟨G,Ea m ?_,λh=>?_⟩
   .simp only[Xg,Vp];refine Ea (v:=(G, !(sDp (d+1) s&&(decide (a+sNp s<=64)&&decide (e+sC s<=256))))) ?_ ?_
    .rw[QP q,QP F,ed];exact Ea (Qbm s k) (Ea w (Qa _))
    .cases(sDp (d+1) s&&(decide (a+sNp s<=64)&&decide (e+sC s<=256)))<;>exact Qa _
   .rw[u h];have L:fSs (stepParts s)=sNs s.Then+sNs s.Else:=by unfold stepParts;rw[QeY,Qa6,Qa6]
    have Q:fCs (stepParts s)=sCs s.Then+sCs s.Else:=by unfold stepParts;rw[Qe0,Qa7,Qa7]
    rw[L,Q,show fS (Uf.ctyping_step {Step:=s})=sNp s from rfl,show fC (Uf.ctyping_step {Step:=s})=sC s from rfl,QfJ,QfK];congr 1<;>omega
 |ctyping_cond x=>
  obtain⟨c⟩:=x;have k:Cond.wf c:=hw;obtain⟨ad,O⟩:=Qaj k;have e1:IntKind.i64.wrap (e+1)=e+1:=Qq (by omega) (by omega);simp only[Uf.elim,e1];have hF:okF (Uf.ctyping_cond {Cond:=c}) d a e=(cD (d+1) c&&(decide (a<=64)&&decide (e+cN c<=256))):=by
   show(cD (d+1) c&&(decide (a+((0:Nat):Int)<=64)&&decide (e+cN c<=256)))=_;rw[show a+((0:Nat):Int)=a by omega]
  rw[hF];by_cases q:64<a
  .have:(cD (d+1) c&&(decide (a<=64)&&decide (e+cN c<=256)))=false:=by
    rw[QP (show¬a<=64 by omega)];simp
   rw[this];refine⟨{steps:=a,conds:=e+1},?_,λh=>by cases h⟩;refine Ea (v:=(_,true)) ?_ (Qa _);rw[QT q];exact Qa _
  by_cases F:256<e+1
  .have:(cD (d+1) c&&(decide (a<=64)&&decide (e+cN c<=256)))=false:=by
    rw[QP (show¬e+(cN c:Int)<=256 by rw[QcL];omega)];simp
   rw[this];refine⟨{steps:=a,conds:=e+1},?_,λh=>by cases h⟩;refine Ea (v:=(_,true)) ?_ (Qa _);rw[QP q,QT F];exact Qa _
  obtain⟨G,w,u⟩:=X (c.Parts.map ofCond) (d+1) a (e+1) (by
    rw[QeX];show _<cN c;rw[QcL];omega) (by simp;omega) (by
    intro g j;obtain⟨y,E,rfl⟩:=Xe.1 j;exact O y E) (by omega) (by omega) (by omega) (.inl (by omega)) (by omega) (by omega)
  have N:okL (c.Parts.map ofCond) (d+1) a (e+1)=(cD (d+1) c&&(decide (a<=64)&&decide (e+cN c<=256))):=by
   rw[XX,Qgu _ _ _ _ (by omega) (by omega), <- QhG,QeZ,Qe1];simp only[XW,Vq,Qmp,QcL];constructor
   .rintro⟨r,J,M⟩;exact⟨r,by omega,by omega⟩
   .rintro⟨r,J,M⟩;exact⟨r,by omega,by omega⟩
  rw[N]at w u;refine⟨G,?_,λh=>?_⟩
  .refine Ea (v:=(G, !(cD (d+1) c&&(decide (a<=64)&&decide (e+cN c<=256))))) ?_ ?_
   .rw[QP q,QP F,ed];exact Ea (QcG c k) (Ea w (Qa _))
   .cases(cD (d+1) c&&(decide (a<=64)&&decide (e+cN c<=256)))<;>exact Qa _
  .rw[u h,QeZ,Qe1,show fS (Uf.ctyping_cond {Cond:=c})=0 from rfl,show fC (Uf.ctyping_cond {Cond:=c})=cN c from rfl,QcL];congr 1;omega
theorem Ql7:∀(m:Nat) (l:List Uf) (d:Nat) (a b:Int),fZs l<=m->l.length<=2097152->(∀f∈l,fwf f)->d<=17->0<=a->a<=66->(a<=65\/ ∀f∈l,∃c,f=ofCond c)->0<=b->b<=256->Cnt F_d l d a b:=by
 intro m
 induction m using Nat.strongRecOn with
 |_ m E=>
 intro l d a b hm hl hw hd h0 h1 s h2 h3;unfold Cnt;have t:∀c:Ud,(∃e:Ud,Ev (λn=>B_d (F_d n) n l (d:Int) c) (e,okL l d a b)/\(okL l d a b=true->e={steps:=a+fSs l,conds:=b+fCs l}))->∃e:Ud,Ev (λn=>F_d n l (d:Int) c) (e,okL l d a b)/\(okL l d a b=true->e={steps:=a+fSs l,conds:=b+fCs l}):=by
  rintro c ⟨e,T,Y⟩;exact⟨e,Y5 T,Y⟩
 refine t _ ?_;unfold B_d;cases j:l with
 |nil=>
  refine⟨{steps:=a,conds:=b},?_,λ_=>by simp[fSs,fCs]⟩;refine Ea (v:=false) (Qa _) (Yg ?_);refine Ea (v:=Ctl.cont {steps:=a,conds:=b}) (EvI.ev (Ei ?_)) (Qa _);exact Qa _
 |cons f0 r0=>
 rw[<- j];have B:l.isEmpty=false:=by rw[j];rfl
 have J:0<l.length:=by rw[j];simp
 by_cases g:d<=16
 rotate_left
 .have:okL l d a b=false:=by unfold okL;rw[B,QP g];rfl
  rw[this];refine⟨{steps:=a,conds:=b},?_,λh=>by cases h⟩;rw[QT (show(0:Int)<(l.length:Int)by omega),QT (show(16:Int)<(d:Int)by omega)];exact Ea (Qa _) (Qa _)
 have y:okL l d a b=okR l d a b:=by unfold okL okR;rw[QT g,Vz]
 rw[y];have loop:∀(r:List Uf) (i:Nat) (a b:Int),l.drop i=r->i<=l.length->0<=a->a<=66->(a<=65\/ ∀f∈l,∃c,f=ofCond c)->0<=b->b<=256->
   ∃e:Ud,EvI (λn=>F_ed n l (d:Int) (F_d n)) ({steps:=a,conds:=b},(i:Int)) (bif okR r d a b then Ctl.cont e else Ctl.done (e,false))/\(okR r d a b=true->e={steps:=a+fSs r,conds:=b+fCs r}):=by
  intro r
  induction r with
  |nil=>
   intro i a b z L _ _ _ _ _;refine⟨{steps:=a,conds:=b},Ei ?_,λ_=>by simp[fSs,fCs]⟩;unfold F_ed;simp only[Yp z L,Vp];exact Qa _
  |cons f r w=>
   intro i a b z L g0 O G g2 g3;obtain⟨q,F⟩:=QJ (by omega) z;have aa:fZ f<=fZs l:=by
    have:∀(l:List Uf),f∈l->fZ f<=fZs l:=by
     intro l
     induction l with
     |nil=>intro h;cases h
     |cons x l E=>
      intro h;rw[QhE];rcases X5.1 h with rfl|h
      .omega
      .have:=E h;omega
    exact this l q.mem
   obtain⟨e,p,u⟩:=QiR (R:=F_d) g q (hw f q.mem) (λM d' a b k1 X k3 N k5 W H V P=>E (fZs M) (by omega) M d' a b (XT _) X k3 N k5 W H V P) g0 O (G.imp id λh=>h f q.mem) g2 g3;rw[QlA];cases k:okF f d a b with
   |false=>
    rw[k]at p;exact⟨e,Ei p,λh=>by cases h⟩
   |true=>
    rw[k]at p;obtain rfl:=u k;have hb:a+fS f<=64/\b+fC f<=256:=by
     unfold okF at k;simp only[XW,Vq]at k;exact k.2
    obtain⟨c2,u1,Q⟩:=w (i+1) (a+fS f) (b+fC f) F (by have:=q.lt';omega) (by omega) (by omega) (.inl (by omega)) (by omega) (by omega);refine⟨c2,Et p u1,λh=>?_⟩;rw[Q (by simpa using h),QhF,QhH];congr 1<;>omega
 obtain⟨e,p,u⟩:=loop l 0 a b rfl (XU _) h0 h1 s h2 h3;refine⟨e,?_,u⟩;refine Ea (v:=false) ?_ (Yg (Ea p.ev ?_))
 .rw[QT (show(0:Int)<(l.length:Int)by omega),QP (show¬(16:Int)<(d:Int)by omega)];exact Qa _
 .cases okR l d a b<;>exact Qa _
mutual
def vaC:Cond->Bool
 |⟨k,v,n,ps⟩=>bif k==1 then inR 1 3 v&&(inR 0 10000 n&&((ps.length:Int)==0))else
   bif k==4 then((v==0)&&(n==0))&&(((ps.length:Int)==1)&&vaCs ps)else
   bif (k==2)||(k==3)then((v==0)&&(n==0))&&((decide (0<(ps.length:Int))&&decide ((ps.length:Int)<=16))&&vaCs ps)else false
def vaCs:List Cond->Bool
 |[]=>true
 |c::r=>vaC c&&vaCs r
end
theorem Qob(c:Cond):vaC c=bif c.Kind==1 then inR 1 3 c.Var&&(inR 0 10000 c.N&&((c.Parts.length:Int)==0))else
   bif c.Kind==4 then((c.Var==0)&&(c.N==0))&&(((c.Parts.length:Int)==1)&&vaCs c.Parts)else
   bif (c.Kind==2)||(c.Kind==3)then((c.Var==0)&&(c.N==0))&&((decide (0<(c.Parts.length:Int))&&decide ((c.Parts.length:Int)<=16))&&vaCs c.Parts)else false:=by cases c;rfl
theorem Qja:∀l:List Cond,vaCs l=l.all vaC
 |[]=>rfl
 |c::r=>by rw[vaCs,List.all_cons,Qja r]
mutual
def vaS:Step->Bool
 |⟨k,b,c,t,e⟩=>bif k==1 then inR 1 5 b&&(zeroC c&&(((t.length:Int)==0)&&((e.length:Int)==0)))else
   bif k==2 then(b==0)&&(vaC c&&(decide (0<(t.length:Int))&&(vaSs t&&vaSs e)))else false
def vaSs:List Step->Bool
 |[]=>true
 |s::r=>vaS s&&vaSs r
end
theorem Qoa(s:Step):vaS s=bif s.Kind==1 then inR 1 5 s.By&&(zeroC s.Cond&&(((s.Then.length:Int)==0)&&((s.Else.length:Int)==0)))else
   bif s.Kind==2 then(s.By==0)&&(vaC s.Cond&&(decide (0<(s.Then.length:Int))&&(vaSs s.Then&&vaSs s.Else)))else false:=by cases s;rfl
theorem Qi9:∀l:List Step,vaSs l=l.all vaS
 |[]=>rfl
 |c::r=>by rw[vaSs,List.all_cons,Qi9 r]
def fV:Uf->Bool
 |.ctyping_step x=>vaS x.Step
 |.ctyping_cond x=>vaC x.Cond
theorem QiW(l:List Cond):(l.map ofCond).any (λf=> !fV f)= !vaCs l:=by
 rw[Qja,List.not_all_eq_any_not,List.any_map];rfl
theorem Qcm(l:List Step):(l.map ofStep).any (λf=> !fV f)= !vaSs l:=by
 rw[Qi9,List.not_all_eq_any_not,List.any_map];rfl
theorem QfW{R:Nat->List Uf->Option Bool}(c:Cond)(i:Cond.wf c)(j:Ev (λn=>R n (c.Parts.map ofCond)) (!vaCs c.Parts)):
  Ev (λn=>F_ba (R n) n {Cond:=c}) (vaC c):=by
 unfold F_ba;rw[Qob];refine Ea (v:=(c.Var==0)&&(c.N==0)) (Eh λ_=>Qa _) ?_;refine QbS (λ_=>?_) (λl=>?_)
 .exact Ea (Ea (QD _ _ _) (Eh λ_=>Ea (QD _ _ _) (Eh λ_=>Qa _))) (Qa _)
 .have fin:∀b:Bool,Ev (λn=>((bif b then(F_t n {Cond:=c}).bind λd=>(R n d).bind λg=>some (!g)else some false):Option Bool).bind λf=>some f) (b&&vaCs c.Parts):=by
   intro b;refine Ea ((Eh λ_=>Ea (QcG c i) (Ea j (Qa _)))) ((Qa _).eq (by simp))
  cases k:(c.Kind==4)with
  |true=>
   simp only[Vn];cases h:((c.Var==0)&&(c.N==0))with
   |true=>
    refine Ea (v:=Ctl.cont ((c.Parts.length:Int)==1)) (Qa _) ((fin _).eq (by simp))
   |false=>
    refine Ea (v:=Ctl.cont false) (Qa _) ((fin _).eq (by simp))
  |false=>
   simp only[Vp];cases a:((c.Kind==2)||(c.Kind==3))with
   |true=>
    simp only[Vn];have e:Ev (λn:Nat=>((bif (c.Kind==2)then some (c.Kind==2)else some (c.Kind==3)):Option Bool)) true:=by
     refine Ex ?_;rw[Qmq,a]
    cases h:((c.Var==0)&&(c.N==0))with
    |true=>
     cases m:decide (0<(c.Parts.length:Int))with
     |true=>
      refine Ea (v:=Ctl.cont (decide ((c.Parts.length:Int)<=16))) (Ea e (Qa _)) ((fin _).eq (by simp))
     |false=>
      refine Ea (v:=Ctl.cont false) (Ea e (Qa _)) ((fin _).eq (by simp))
    |false=>
     refine Ea (v:=Ctl.cont false) (Ea e (Qa _)) ((fin _).eq (by simp))
   |false=>
    have e:Ev (λn:Nat=>((bif (c.Kind==2)then some (c.Kind==2)else some (c.Kind==3)):Option Bool)) false:=by
     refine Ex ?_;rw[Qmq,a]
    refine Ea (v:=Ctl.done false) (Ea e (Qa _)) (Qa _)
theorem QiK:∀(m:Nat) (l:List Uf),fZs l<=m->l.length<=2097152->(∀f∈l,fwf f)->Ev (λn=>F_g n l) (l.any λf=> !fV f):=by
 intro m
 induction m using Nat.strongRecOn with
 |_ m i=>
 intro l E F r;refine Y5 ?_;show Ev (λn=>B_g (F_g n) n l) _;unfold B_g F_fs;refine Ev.contains l _ (λn f=>F_br (F_g n) n f) (by omega) λf q=>?_;have w:fZ f<=fZs l:=by
  have:∀(l:List Uf),f∈l->fZ f<=fZs l:=by
   intro l
   induction l with
   |nil=>intro h;cases h
   |cons x l i=>
    intro h;rw[QhE];rcases X5.1 h with rfl|h
    .omega
    .have:=i h;omega
  exact this l q
 unfold F_br;refine Ea (v:=fV f) ?_ (Qa _);have a:∀c:Cond,Cond.wf c->cNs c.Parts<fZ f->Ev (λn=>F_g n (c.Parts.map ofCond)) (!vaCs c.Parts):=by
  intro c e j;rw[<- QiW];obtain⟨w1,w2⟩:=Qaj e;refine i (fZs (c.Parts.map ofCond)) (by rw[QeX];omega) _ (XT _) (by simp;omega) ?_;intro g b;obtain⟨y,d,rfl⟩:=Xe.1 b;exact w2 y d
 cases f with
 |ctyping_cond x=>
  obtain⟨c⟩:=x;have e:Cond.wf c:=r _ q;exact QfW (R:=F_g) c e (a c e (by show cNs c.Parts<cN c;rw[QcL];omega))
 |ctyping_step x=>
  obtain⟨s⟩:=x;have j:Step.wf s:=r _ q;obtain⟨t,⟨u,p⟩,⟨z,k⟩⟩:=Qai j;unfold F_ev;show Ev _ (vaS s);rw[Qoa];simp only[Uf.elim];refine QbS (λ_=>?_) (λG=>QbS (λ_=>?_) λ_=>Qa _)
  .refine Ea (Ea (QD _ _ _) (Eh λ_=>?_)) (Qa _);simp only[QfX,XJ];refine Eh λ_=>Ea (Qbm s j) ((Qa _).eq ?_);unfold stepParts;rw[XX];simp only[Vx,XW,X2,X0];omega
  .refine Ea (Eh λ_=>?_) (Qa _);refine Ea (QfW (R:=F_g) s.Cond t (a s.Cond t (by show _<sZ s;rw[Qhg,QcL];omega))) (Eh λ_=>Eh λ_=>?_);refine Ea (Qbm s j) (Ea (i (fZs (stepParts s)) ?_ _ (XT _) (by unfold stepParts;simp;omega) ?_) ((Qa _).eq ?_))
   .have:fZs (stepParts s)<sZ s:=by
     unfold stepParts;rw[QeW,QbK,QbK,Qhg];omega
    have B:fZ (Uf.ctyping_step {Step:=s})=sZ s:=rfl;omega
   .intro g b;unfold stepParts at b;rcases VC.1 b with b|b
    .obtain⟨y,d,rfl⟩:=Xe.1 b;exact p y d
    .obtain⟨y,d,rfl⟩:=Xe.1 b;exact k y d
   .unfold stepParts;rw[List.any_append,Qcm,Qcm];simp
def goodT(l:List Step):Bool:=sDs 0 l&&(decide (sNs l<=64)&&decide (sCs l<=256))
def tiesE(l:List Step):Int:=bif goodT l then(bif l.isEmpty|| !vaSs l then 71 else 0)else 2
theorem QlB(l:List Step):okL (l.map ofStep) 0 0 0=goodT l:=by
 rw[XX,Qgu _ _ _ _ (by omega) (by omega), <- QcE,Qa6,Qa7];unfold goodT;simp only[XW,Vq];constructor
 .rintro⟨a,b,c⟩;exact⟨a,by omega,by omega⟩
 .rintro⟨a,b,c⟩;exact⟨a,by omega,by omega⟩
theorem Qnv(l:List Step)(m:l.length<=1048576)(h:∀x∈l,Step.wf x):Ev (λn=>F_cg n l) (tiesE l):=by
 unfold F_cg;refine Ea (Qe2 l (by omega)) (Ea (v:=tiesE l) ?_ (Qa _));have a:∀f∈l.map ofStep,fwf f:=by
  intro g d;obtain⟨y,i,rfl⟩:=Xe.1 d;exact h y i
 obtain⟨j,b,p⟩:=Ql7 _ (l.map ofStep) 0 0 0 (XT _) (by simp;omega) a (by omega) (by omega) (by omega) (.inl (by omega)) (by omega) (by omega);rw[QlB]at b;unfold F_fw;have k:Ev (λn=>F_eg n (l.map ofStep) 0 {steps:=0,conds:=0}) (j,goodT l):=b.shift;refine Ea k ?_;unfold tiesE;cases goodT l with
 |false=>exact Qa _
 |true=>
  simp only[Xg,Vp,Vn];have e:(((l.map ofStep).length:Int)==0)=l.isEmpty:=by
   cases l<;>simp;omega
  rw[e];refine Ea (Er λ_=>Ea (QiK _ _ (XT _) (by simp;omega) a) (Qa _)) ?_;rw[Qcm];cases(l.isEmpty|| !vaSs l)<;>exact Qa _
def condB(d:Nat):Int:=256*(18-(d:Int))+1000
theorem Qfz:∀(m:Nat) (c:Cond) (d:Nat),cN c<=m->d<=17->Cond.wf c->∃v:Int,Ev (λn=>F_k n c (d:Int)) v/\0<=v/\v<=condB d/\
  (d<=16/\cD (d+1) c=true/\cN c<=256->v=cN c)/\(¬(d<=16/\cD (d+1) c=true/\cN c<=256)->256<v):=by
 intro m
 induction m using Nat.strongRecOn with
 |_ m G=>
 intro c d hm hd X;obtain⟨aa,s⟩:=Qaj X;have q:∀{P:Int->Prop},(∃v:Int,Ev (λn=>B_k (F_k n) n c (d:Int)) v/\P v)->∃v:Int,Ev (λn=>F_k n c (d:Int)) v/\P v:=by
  rintro P ⟨v,j,b⟩;exact⟨v,Y5 j,b⟩
 refine q ?_;unfold B_k;by_cases g:d<=16
 .rw[QP (show¬(16:Int)<(d:Int)by omega)];have Q:IntKind.i64.wrap ((d:Int)+1)=((d+1:Nat):Int):=QZ (by omega);have loop:∀(r:List Cond) (i:Nat) (a:Int),c.Parts.drop i=r->i<=c.Parts.length->0<=a->a<=condB d->
    ∃v:Int,EvI (λn=>F_ea n c (d:Int) (F_k n)) (a,(i:Int)) v/\0<=v/\v<=condB d/\
     (cDs (d+1) r=true/\a+cNs r<=256->v=a+cNs r)/\(¬(cDs (d+1) r=true/\a+cNs r<=256)->256<v):=by
   intro r
   induction r with
   |nil=>
    intro i a E M H j;refine⟨a,Ei ?_,H,j,λ_=>by simp[cNs],λh=>?_⟩
    .unfold F_ea;simp only[Yp E M,Vp,XJ];exact Qa _
    .simp[cDs,cNs]at h;omega
   |cons x r B=>
    intro i a E M H j;obtain⟨f,J⟩:=QJ (by omega) E;have hx:cN x<cN c:=by
     have:∀l:List Cond,x∈l->cN x<=cNs l:=by
      intro l
      induction l with
      |nil=>intro h;cases h
      |cons y l G=>
       intro h;rw[cNs];rcases X5.1 h with rfl|h
       .omega
       .have:=G h;omega
     have:=this _ f.mem;rw[QcL c];omega
    by_cases e:a<=256
    .obtain⟨v,t,N,O,p,z⟩:=G (cN x) (by omega) x (d+1) (XT _) (by omega) (s x f.mem);have hB:condB (d+1)+256=condB d:=by unfold condB;omega
     have W:condB d<=6000:=by unfold condB;omega
     have e1:IntKind.i64.wrap (a+v)=a+v:=Qq (by omega) (by omega);obtain⟨w,R,V,T,Y,L⟩:=B (i+1) (a+v) J (by have:=f.lt';omega) (by omega) (by omega);refine⟨w,Et ?_ R,V,T,?_,?_⟩
     .unfold F_ea;simp only[f.lt,Vn,QT e,XJ,f.ix,f.nx,Q];refine Ea t ?_;rw[e1];exact Qa _
     .rintro⟨b,F⟩;simp only[cDs,XW,Vq]at b;rw[cNs]at F⊢;have:=p ⟨b.1,b.2.1,by omega⟩;subst this;rw[Y ⟨b.2.2,by omega⟩];omega
     .intro u;by_cases k:d+1<=16/\cD (d+1+1) x=true/\cN x<=256
      .have:=p k;subst this;refine L λb=>u ⟨?_,?_⟩
       .simp only[cDs,XW,Vq];exact⟨k.1,k.2.1,b.1⟩
       .rw[cNs];omega
      .have:=z k;exact L λb=>by omega
    .refine⟨a,Ei ?_,H,j,λh=>?_,λ_=>by omega⟩
     .unfold F_ea;simp only[f.lt,Vn,QP e,XJ,Vp];exact Qa _
     .omega
  obtain⟨v,t,N,O,p,z⟩:=loop c.Parts 0 1 rfl (XU _) (by omega) (by unfold condB;omega);refine⟨v,Yg (Ea t.ev (Qa _)),N,O,?_,?_⟩
  .rintro⟨_,b,F⟩;rw[Qmp]at b;rw[QcL]at F⊢;rw[p ⟨b,by omega⟩];omega
  .intro u;refine z λh=>u ⟨g,by rw[Qmp];exact h.1,by rw[QcL];omega⟩
 .rw[QT (show(16:Int)<(d:Int)by omega)];refine⟨1000,QjU (Qa _),by omega,by unfold condB;omega,λh=>absurd h.1 g,λ_=>by omega⟩
def sizeB:Nat->Int
 |0=>10000
 |k+1=>3*sizeB k
theorem Qct:∀k,10000<=sizeB k
 |0=>Int.le_refl _
 |k+1=>by have:=Qct k;simp only[sizeB];omega
theorem Qlb{k:Nat}(h:k<=17):sizeB k<=1291401630000:=by
 have:∀j,j<=17->sizeB j<=1291401630000:=by decide+kernel
 exact this k h
def goodL(d:Nat)(l:List Step):Prop:=sDs d l=true/\sNs l<=64/\sCs l<=256
theorem Qns:∀(m:Nat) (l:List Step) (d:Nat),sZs l<=m->d<=17->l.length<=1048576->(∀x∈l,Step.wf x)->∃a b:Int,Ev (λn=>F_m n l (d:Int)) (a,b)/\0<=a/\0<=b/\a<=sizeB (17-d)/\b<=sizeB (17-d)/\
  (goodL d l->a=sNs l/\b=sCs l)/\(¬goodL d l->64<a\/256<b):=by
 intro m
 induction m using Nat.strongRecOn with
 |_ m F=>
 intro l d hm hd hl hw;have H:∀{P:Int->Int->Prop},(∃a b:Int,Ev (λn=>B_m (F_m n) n l (d:Int)) (a,b)/\P a b)->∃a b:Int,Ev (λn=>F_m n l (d:Int)) (a,b)/\P a b:=by
  rintro P ⟨a,b,t,u⟩;exact⟨a,b,Y5 t,u⟩
 refine H ?_;unfold B_m;by_cases e:0<l.length/\ ¬d<=16
 .rw[QT (show(0:Int)<(l.length:Int)by omega),QT (show(16:Int)<(d:Int)by omega)];have:=Qct (17-d);refine⟨1000,1000,Ea (Qa _) (QjU (Qa _)),by omega,by omega,by omega,by omega,λh=>?_,λ_=>by omega⟩;exfalso;cases l with
  |nil=>simp at e
  |cons x r=>
   have:=h.1;simp only[sDs,XW,Vq]at this;exact e.2 this.1
 .have w:Ev (λn:Nat=>((bif decide (0<(l.length:Int))then some (decide (16<(d:Int)))else some false):Option Bool)) false:=by
   by_cases hp:0<l.length
   .have:d<=16:=by
     rcases VB 16 d with q|q
     .exact absurd ⟨hp,by omega⟩ e
     .exact q
    rw[QT (show(0:Int)<(l.length:Int)by omega),QP (show¬(16:Int)<(d:Int)by omega)];exact Qa _
   .rw[QP (show¬(0:Int)<(l.length:Int)by omega)];exact Qa _
  have ed:IntKind.i64.wrap ((d:Int)+1)=((d+1:Nat):Int):=QZ (by omega);have loop:∀(r:List Step) (i:Nat) (a b:Int),l.drop i=r->i<=l.length->0<=a->0<=b->a<=sizeB (17-d)->b<=sizeB (17-d)->
    ∃a' b':Int,EvI (λn=>F_fx n l (d:Int) (F_m n)) (a,b,(i:Int)) (a',b')/\0<=a'/\0<=b'/\a'<=sizeB (17-d)/\b'<=sizeB (17-d)/\
     (sDs d r=true/\a+sNs r<=64/\b+sCs r<=256->a'=a+sNs r/\b'=b+sCs r)/\(¬(sDs d r=true/\a+sNs r<=64/\b+sCs r<=256)->64<a'\/256<b'):=by
   intro r
   induction r with
   |nil=>
    intro i a b V hi w t u M;refine⟨a,b,Ei ?_,w,t,u,M,λ_=>by simp[sNs,sCs],λh=>?_⟩
    .unfold F_fx;simp only[Yp V hi,Vp,XJ];exact Qa _
    .simp[sDs,sNs,sCs]at h;omega
   |cons s r J=>
    intro i a b V hi w t u M;obtain⟨j,X⟩:=QJ (by omega) V;have aj:=j.lt';have B:d<=16:=by
     rcases VB 16 d with q|q
     .exact absurd ⟨by omega,by omega⟩ e
     .exact q
    have ai:sZ s<=sZs l:=by
     have:∀l:List Step,s∈l->sZ s<=sZs l:=by
      intro l
      induction l with
      |nil=>intro h;cases h
      |cons y l F=>
       intro h;rw[sZs];rcases X5.1 h with rfl|h
       .omega
       .have:=F h;omega
     exact this _ j.mem
    by_cases f:a<=64/\b<=256
    .obtain⟨wc,⟨Y,aa⟩,⟨ac,ad⟩⟩:=Qai (hw s j.mem);have ag:=Qhg s;obtain⟨p,g,Q,p2,p3,p4,p5,E,p7⟩:=F (sZs s.Then) (by omega) s.Then (d+1) (XT _) (by omega) Y aa;obtain⟨y1,y2,q1,q2,q3,q4,q5,q6,q7⟩:=F (sZs s.Else) (by omega) s.Else (d+1) (XT _) (by omega) ac ad;have hB:sizeB (17-d)=3*sizeB (17-(d+1)):=by
      rw[show 17-d=(17-(d+1))+1 by omega];rfl
     have ab:=Qct (17-(d+1));have ah:=Qlb (k:=17-d) (by omega);have hc:∃z:Int,0<=z/\z<=5608/\Ev (λn=>((bif (!zeroC s.Cond)then(idx l (i:Int)).bind λR=>(F_k n R.Cond 0).bind λae=>some (IntKind.i64.wrap ((IntKind.i64.wrap ((IntKind.i64.wrap (b+g))+y2))+ae))else some (IntKind.i64.wrap ((IntKind.i64.wrap (b+g))+y2))):Option Int)) (b+g+y2+z)/\
       ((zeroC s.Cond||cD 1 s.Cond)=true/\(bif zeroC s.Cond then 0 else cN s.Cond)<=256->z=((bif zeroC s.Cond then 0 else cN s.Cond:Nat):Int))/\(¬((zeroC s.Cond||cD 1 s.Cond)=true/\(bif zeroC s.Cond then 0 else cN s.Cond)<=256)->256<z):=by
      have e1:IntKind.i64.wrap (b+g)=b+g:=Qq (by omega) (by omega);have e2:IntKind.i64.wrap (b+g+y2)=b+g+y2:=Qq (by omega) (by omega);cases hz:zeroC s.Cond with
      |true=>
       refine⟨0,by omega,by omega,?_,λ_=>by simp,λh=>absurd ⟨rfl,by simp⟩ h⟩;simp only[Xg,Vp,e1,e2];exact(Qa _).eq (by omega)
      |false=>
       obtain⟨v,u1,u2,u3,u4,u5⟩:=Qfz _ s.Cond 0 (XT _) (by omega) wc;have L:v<=5608:=by unfold condB at u3;omega
       have e3:IntKind.i64.wrap (b+g+y2+v)=b+g+y2+v:=Qq (by omega) (by omega);refine⟨v,u2,L,?_,λh=>?_,λh=>?_⟩
       .simp only[Xh,Vn,j.ix,XJ,e1,e2];refine Ea u1 ?_;rw[e3];exact Qa _
       .simp only[Bool.false_or,Vp]at h⊢;exact u4 ⟨by omega,h.1,h.2⟩
       .simp only[Bool.false_or,Vp]at h;exact u5 λq=>h ⟨q.2.1,q.2.2⟩
     obtain⟨z,z0,z1,z2,z3,z4⟩:=hc;have e4:IntKind.i64.wrap (a+1)=a+1:=Qq (by omega) (by omega);have e5:IntKind.i64.wrap (a+1+p)=a+1+p:=Qq (by omega) (by omega);have e6:IntKind.i64.wrap (a+1+p+y1)=a+1+p+y1:=Qq (by omega) (by omega);obtain⟨w1,w2,v1,v2,v3,v4,v5,v6,G⟩:=J (i+1) (a+1+p+y1) (b+g+y2+z) X (by omega) (by omega) (by omega) (by omega) (by omega);refine⟨w1,w2,Et ?_ v1,v2,v3,v4,v5,?_,?_⟩
     .unfold F_fx;simp only[j.lt,Vn,QT f.1,QT f.2,XJ,j.ix,j.nx,ed,QiH];refine Ea Q (Ea q1 ?_);simp only[j.ix,XJ]at z2;refine Ea z2 ?_;rw[e4,e5,e6];exact Qa _
     .rintro⟨g1,g2,g3⟩;simp only[sDs,XW,Vq,Qjj]at g1;obtain⟨af,⟨W,N,T⟩,O⟩:=g1;rw[sNs,QfJ]at g2⊢;rw[sCs,QfK]at g3⊢;obtain⟨k1,k2⟩:=E ⟨N,by omega,by omega⟩;obtain⟨k3,k4⟩:=q6 ⟨T,by omega,by omega⟩;have k5:=z3 ⟨W,by omega⟩;obtain⟨k6,k7⟩:=v6 ⟨O,by omega,by omega⟩;constructor<;>omega
     .intro hn;by_cases b1:goodL (d+1) s.Then
      .obtain⟨k1,k2⟩:=E b1;by_cases b2:goodL (d+1) s.Else
       .obtain⟨k3,k4⟩:=q6 b2;by_cases b3:(zeroC s.Cond||cD 1 s.Cond)=true/\(bif zeroC s.Cond then 0 else cN s.Cond)<=256
        .have k5:=z3 b3;refine G λq=>hn ⟨?_,?_,?_⟩
         .simp only[sDs,XW,Vq,Qjj];exact⟨B,⟨b3.1,b1.1,b2.1⟩,q.1⟩
         .rw[sNs,QfJ];omega
         .rw[sCs,QfK];omega
        .have:=z4 b3;exact G λq=>by omega
       .have:=q7 b2;exact G λq=>by omega
      .have:=p7 b1;exact G λq=>by omega
    .refine⟨a,b,Ei ?_,w,t,u,M,λh=>?_,λ_=>?_⟩
     .unfold F_fx;have:Ev (λn:Nat=>((bif decide ((i:Int)<(l.length:Int))then(bif decide (a<=64)then some (decide (b<=256))else some false)else some false):Option Bool)) false:=by
       rw[j.lt];by_cases q:a<=64
       .rw[QT q,QP (show¬b<=256 from λz=>f ⟨q,z⟩)];exact Qa _
       .rw[QP q];exact Qa _
      exact Ea this (Yg (Qa _))
     .omega
     .omega
  have ab:=Qct (17-d);obtain⟨a,b,Q,p2,p3,p4,p5,E,p7⟩:=loop l 0 0 0 rfl (XU _) (by omega) (by omega) (by omega) (by omega);refine⟨a,b,Ea w (Yg (Ea Q.ev (Qa _))),p2,p3,p4,p5,λh=>?_,λh=>?_⟩
  .obtain⟨k1,k2⟩:=E ⟨h.1,by have:=h.2.1;omega,by have:=h.2.2;omega⟩;constructor<;>omega
  .exact p7 λq=>h ⟨q.1,by omega,by omega⟩
mutual
def hP:Part->Nat
 |⟨_,_,ps⟩=>bif ps.isEmpty then 0 else 1+hPs ps
def hPs:List Part->Nat
 |[]=>0
 |p::r=>max (hP p) (hPs r)
end
theorem QnZ(p:Part):hP p=bif p.Parts.isEmpty then 0 else 1+hPs p.Parts:=by cases p;rfl
theorem Qjy{p:Part}:∀{l:List Part},p∈l->hP p<=hPs l
 |q::r,h=>by
  simp only[hPs];rcases X5.1 h with rfl|h
  .omega
  .have:=Qjy h;omega
theorem Qho{α:Type}(l:List α):((l.length:Int)==0)=l.isEmpty:=by
 cases l<;>simp;omega
theorem Qa2:∀l:List Part,l.length<=szPs l
 |[]=>XT _
 |p::r=>by have:=Qa2 r;rw[szPs,Qad,XZ];omega
theorem QhM:∀(m:Nat) (l:List Part) (k:Nat),szPs l<=m->k<=17->l.length<=1048576->(∀x∈l,Part.wf x)->Ev (λn=>F_p n l (k:Int)) ((min (hPs l) k:Nat):Int):=by
 intro m
 induction m using Nat.strongRecOn with
 |_ m w=>
 intro l k z F B s;refine Y5 ?_;show Ev (λn=>B_p (F_p n) n l (k:Int)) _;unfold B_p;have loop:∀(r:List Part) (i:Nat) (a:Nat),l.drop i=r->i<=l.length->a<=k->EvI (λn=>F_bp n l (k:Int) (F_p n)) ((a:Int),(i:Int)) ((max a (min (hPs r) k):Nat):Int):=by
  intro r
  induction r with
  |nil=>
   intro i a e g b;refine Ei ?_;unfold F_bp;simp only[Yp e g,Vp,XJ];refine(Qa _).eq ?_;simp[hPs]
  |cons p r f=>
   intro i a e g t;obtain⟨b,d⟩:=QJ (by omega) e;obtain⟨w1,w2⟩:=Y2 (s p b.mem);by_cases u:0<k
   .have y:IntKind.i64.wrap ((k:Int)-1)=((k-1:Nat):Int):=by rw[Qq (by omega) (by omega)];omega
    have j:=QaF b.mem;rw[Qad]at j;have step:Ev (λn=>F_bp n l (k:Int) (F_p n) ((a:Int),(i:Int))) (.cont (((max a (min (hP p) k):Nat):Int),((i+1:Nat):Int))):=by
     unfold F_bp;simp only[b.lt,Vn,QT (show(0:Int)<(k:Int)by omega),XJ,b.ix,b.nx,y,bne,Qho];rw[QnZ];cases E:p.Parts.isEmpty with
     |true=>
      simp only[Xg,Vp,XJ,Vn,Nat.zero_min,Nat.max_zero];exact Qa _
     |false=>
      simp only[Xh,Vn,Vp];refine Ea (Ea (w (szPs p.Parts) (by omega) p.Parts (k-1) (XT _) (by omega) w1 w2) (Qa _)) ((Qa _).eq ?_);have h:IntKind.i64.wrap (1+((min (hPs p.Parts) (k-1):Nat):Int))=((1+min (hPs p.Parts) (k-1):Nat):Int):=by rw[Qq (by omega) (by omega)];omega
      rw[h];congr 2;split<;>omega
    refine(Et step (f (i+1) _ d (by have:=b.lt';omega) (by omega))).eq ?_;rw[hPs];omega
   .have:k=0:=by omega
    subst this;refine Ei ?_;unfold F_bp;simp only[b.lt,Vn,QP (show¬(0:Int)<((0:Nat):Int)by omega),XJ,Vp];have q:max a (min (hPs (p::r)) 0)=a:=by omega
    rw[q];exact Qa _
 refine Ea ((loop l 0 0 rfl (XU _) (XU _)).ev) ((Qa _).eq ?_);omega
theorem QhN:∀(m:Nat) (l:List Part),szPs l<=m->l.length<=1048576->(∀x∈l,Part.wf x)->Ev (λn=>F_s n l) ((min (szPs l) 257:Nat):Int):=by
 intro m
 induction m using Nat.strongRecOn with
 |_ m w=>
 intro l B s t;refine Y5 ?_;show Ev (λn=>B_s (F_s n) n l) _;unfold B_s;have loop:∀(r:List Part) (i:Nat) (a:Nat),l.drop i=r->i<=l.length->a<=1048576->∃b:Nat,EvI (λn=>F_em n l (F_s n)) ((a:Int),(i:Int)) (b:Int)/\min b 257=min (a+(szPs r-r.length)) 257:=by
  intro r
  induction r with
  |nil=>
   intro i a f k _;refine⟨a,Ei ?_,by simp[szPs]⟩;unfold F_em;simp only[Yp f k,Vp,XJ];exact Qa _
  |cons p r g=>
   intro i a f k u;obtain⟨d,e⟩:=QJ (by omega) f;obtain⟨w1,w2⟩:=Y2 (t p d.mem);have z:=QaF d.mem;rw[Qad]at z;have y:=Qa2 r;by_cases j:a<=256
   .obtain⟨b,h,q⟩:=g (i+1) (a+min (szPs p.Parts) 257) e (by have:=d.lt';omega) (by omega);refine⟨b,Et ?_ h,?_⟩
    .unfold F_em;simp only[d.lt,Vn,QT (show(a:Int)<=256 by omega),XJ,d.ix,d.nx];refine Ea (w (szPs p.Parts) (by omega) p.Parts (XT _) w1 w2) ((Qa _).eq ?_);rw[Qq (by omega) (by omega)];congr 2
     all_goals omega
    .rw[q,szPs,Qad,XZ];omega
   .refine⟨a,Ei ?_,by omega⟩;unfold F_em;simp only[d.lt,Vn,QP (show¬(a:Int)<=256 by omega),XJ,Vp];exact Qa _
 obtain⟨b,h,q⟩:=loop l 0 l.length rfl (XU _) s;refine Ea h.ev ((Qa _).eq ?_);have:=Qa2 l;split<;>omega
theorem Ql6:∀(m:Nat) (l:List Part) (k:Nat),szPs l<=m->hPs l<=k->k<=17->szPs l<=256->(∀x∈l,Part.wf x)->Ev (λn=>F_r n l (k:Int)) ((hPs l:Int),(szPs l:Int)):=by
 intro m
 induction m using Nat.strongRecOn with
 |_ m H=>
 intro l k P O t q L;have w:=Qa2 l;refine Y5 ?_;show Ev (λn=>B_r (F_r n) n l (k:Int)) _;unfold B_r;have loop:∀(r:List Part) (i:Nat) (a b:Nat),l.drop i=r->i<=l.length->a<=17->b+(szPs r-r.length)<=256->EvI (λn=>F_dj n l (k:Int) (F_r n)) ((a:Int),(b:Int),(i:Int)) (((max a (hPs r):Nat):Int),((b+(szPs r-r.length):Nat):Int)):=by
  intro r
  induction r with
  |nil=>
   intro i a b g s _ _;refine Ei ?_;unfold F_dj;simp only[Yp g s,Vp,XJ];refine(Qa _).eq ?_;simp[hPs,szPs]
  |cons p r f=>
   intro i a b g s G e;obtain⟨d,j⟩:=QJ (by omega) g;obtain⟨w1,w2⟩:=Y2 (L p d.mem);have M:=QaF d.mem;have h:=Qjy d.mem;rw[Qad]at M;have F:=Qa2 r;rw[szPs,Qad,XZ]at e;have step:Ev (λn=>F_dj n l (k:Int) (F_r n) ((a:Int),(b:Int),(i:Int))) (.cont (((max a (hP p):Nat):Int),((b+szPs p.Parts:Nat):Int),((i+1:Nat):Int))):=by
    unfold F_dj;simp only[d.lt,Vn,d.ix,XJ,d.nx,Qho];rw[QnZ]at h⊢;cases u:p.Parts.isEmpty with
    |true=>
     have B:p.Parts=[]:=by simpa using u
     simp only[Vn,XJ];rw[B];simp only[szPs,Xw,Nat.max_zero];exact Qa _
    |false=>
     rw[u]at h;simp only[Vp]at h⊢;have E:0<k:=by omega
     have N:IntKind.i64.wrap ((k:Int)-1)=((k-1:Nat):Int):=by rw[Qq (by omega) (by omega)];omega
     have y:((k:Int)==0)=false:=beq_false_of_ne (by omega);rw[y,QP (show¬(256:Int)<(b:Int)by omega),N];simp only[Vp,XJ];refine Ea (Ea (H (szPs p.Parts) (by omega) p.Parts (k-1) (XT _) (by omega) (by omega) (by omega) w2) (Qa _)) ((Qa _).eq ?_);have z:IntKind.i64.wrap ((hPs p.Parts:Int)+1)=((hPs p.Parts+1:Nat):Int):=QZ (by omega);have J:IntKind.i64.wrap ((b:Int)+(szPs p.Parts:Int))=((b+szPs p.Parts:Nat):Int):=by rw[Qq (by omega) (by omega)];omega
     simp only[z,J];congr 2;split<;>omega
   refine(Et step (f (i+1) _ _ j (by have:=d.lt';omega) (by omega) (by omega))).eq ?_;rw[hPs,szPs,Qad,XZ];congr 1<;>omega
 refine Ea ((loop l 0 0 l.length rfl (XU _) (by omega) (by omega)).ev) ((Qa _).eq ?_);congr 1<;>omega
def repS:Nat->List Int->List Int->List Int
 |0,out,_=>out
 |k+1,out,lap=>if 256<out.length then out else repS k (out++lap) lap
mutual
def lapS:Part->List Int
 |⟨m,laps,ps⟩=>bif decide (0<laps)then expS [] ps else[m]
def expS:List Int->List Part->List Int
 |out,[]=>out
 |out,p::r=>expS (repS (p.Laps.toNat+(bif decide (0<p.Laps)then 0 else 1)) out (lapS p)) r
end
theorem Qeb(p:Part):lapS p=bif decide (0<p.Laps)then expS [] p.Parts else[p.Mat]:=by cases p;rfl
theorem QeB{k:Nat}{a b:List Int}(h:256<a.length):repS k a b=a:=by
 cases k with
 |zero=>rfl
 |succ k=>rw[repS,Vs h]
theorem QhJ:∀(l:List Part) {out:List Int},256<out.length->expS out l=out
 |[],out,h=>by rw[expS]
 |p::r,out,h=>by rw[expS,QeB h];exact QhJ r h
theorem QeA:∀(k:Nat) (out lap:List Int),(repS k out lap).length<=max out.length (256+lap.length)
 |0,out,lap=>by rw[repS];omega
 |k+1,out,lap=>by
  rw[repS];split
  .omega
  .have:=QeA k (out++lap) lap;rw[X2]at this;omega
theorem QhI:∀(m:Nat) (l:List Part) (a:List Int),szPs l<=m->(expS a l).length<=max a.length (256+257*szPs l):=by
 intro m
 induction m using Nat.strongRecOn with
 |_ m i=>
 intro l;have b:∀p∈l,szPs l<=m->(lapS p).length<=257*szP p:=by
  intro p e g;have t:=QaF e;rw[Qeb,Qad]at*;cases decide (0<p.Laps)with
  |true=>
   have:=i (szPs p.Parts) (by omega) p.Parts [] (XT _);simp only[Vn,List.length_nil]at this⊢;omega
  |false=>simp;omega
 have d:∀(r:List Part) (a:List Int),(∀p∈r,(lapS p).length<=257*szP p)->(expS a r).length<=max a.length (256+257*szPs r):=by
  intro r
  induction r with
  |nil=>intro a _;rw[expS];omega
  |cons p r f=>
   intro a h;rw[expS,szPs];have s:=f (repS (p.Laps.toNat+(bif decide (0<p.Laps)then 0 else 1)) a (lapS p)) λq j=>h q (by simp[j]);have k:=QeA (p.Laps.toNat+(bif decide (0<p.Laps)then 0 else 1)) a (lapS p);have n:=h p (by simp);omega
 intro a g;exact d l a λp e=>b p e g
theorem QlI(p:Part):(lapS p).length<=257*szP p:=by
 rw[Qeb,Qad];cases decide (0<p.Laps)with
 |true=>
  have:=QhI _ p.Parts [] (XT _);simp only[Vn,List.length_nil]at this⊢;omega
 |false=>simp;omega
theorem Qkl(W:Int):∀(m:Nat) (l:List Part),szPs l<=m->szPs l<=256->l.length<=1048576->(∀x∈l,Part.wf x)->partsS W l=true->Ev (λn=>F_o n l) (expS [] l):=by
 intro m
 induction m using Nat.strongRecOn with
 |_ m Y=>
 intro l hm N hl hw P;rw[Qdb,Xs]at P;refine Y5 ?_;show Ev (λn=>B_o (F_o n) n l) _;unfold B_o;have inner:∀(p:Part) (e:List Int) (g:p.Laps=0\/0<p.Laps/\p.Laps<=64) (E:e.length<=100000) (j:Nat) (k:Nat) (a:List Int),j+k=p.Laps.toNat+(bif decide (0<p.Laps)then 0 else 1)->a.length<=200000->
   ∃d:Ctl (List Int) (Ctl ((List Int)×Int) (Ctl (List Int) (List Int))),EvI (λn=>F_eh n p e) (a,(j:Int)) d/\
    (d=.cont (repS k a e)\/(256<(repS k a e).length/\d=.done (.done (.done (repS k a e))))):=by
  intro p e g E j k
  induction k generalizing j with
  |zero=>
   intro a f _;refine⟨_,Ei (b:=.cont a) ?_,.inl rfl⟩;unfold F_eh;have:¬((j:Int)<if p.Laps<1 then 1 else p.Laps):=by
    rcases g with h|⟨h,R⟩
    .rw[h]at f⊢;simp at f⊢;omega
    .rw[QT h]at f;simp at f;rw[Vr (by omega)];omega
   rw[QP this];exact Qa _
  |succ k J=>
   intro a f B;have u:((j:Int)<if p.Laps<1 then 1 else p.Laps):=by
    rcases g with h|⟨h,R⟩
    .rw[h]at f⊢;simp at f⊢;omega
    .rw[QT h]at f;simp at f;rw[Vr (by omega)];omega
   have O:j<=64:=by
    rcases g with h|⟨h,R⟩
    .rw[h]at f;simp at f;omega
    .rw[QT h]at f;simp at f;omega
   by_cases t:256<a.length
   .refine⟨_,Ei (b:=.done (.done (.done a))) ?_,.inr ⟨by rw[QeB t];exact t,by rw[QeB t]⟩⟩;unfold F_eh;rw[QT u,QT (show(256:Int)<(a.length:Int)by omega)];exact Qa _
   .obtain⟨d,w,y⟩:=J (j+1) (a++e) (by omega) (by rw[X2];omega);refine⟨d,Et ?_ w,by rw[repS,Vr t];exact y⟩;unfold F_eh;rw[QT u,QP (show¬(256:Int)<(a.length:Int)by omega)];refine QjU (Yg (QaQ (Qh2 a e (by omega)) ?_));rw[QZ (by omega)];exact Qa _
 have loop:∀(r:List Part) (i:Nat) (a:List Int),l.drop i=r->i<=l.length->a.length<=100000->
   ∃d:Ctl (List Int) (List Int),EvI (λn=>F_er n l (F_o n)) (a,(i:Int)) d/\(d=.cont (expS a r)\/d=.done (expS a r)):=by
  intro r
  induction r with
  |nil=>
   intro i a L Q _;refine⟨.cont a,Ei ?_,.inl (by rw[expS])⟩;unfold F_er;simp only[Yp L Q,Vp];exact Qa _
  |cons p r H=>
   intro i a L Q B;obtain⟨q,M⟩:=QJ (by omega) L;have u:=q.lt';have hs:=QaF q.mem;obtain⟨w1,w2⟩:=Y2 (hw p q.mem);have g:=P p q.mem;rw[QeD]at g;have s:p.Laps=0\/0<p.Laps/\p.Laps<=64:=by
    cases T:(p.Laps==0)with
    |true=>exact .inl (by simpa using T)
    |false=>
     rw[T]at g;simp only[Vp,inR,XW,Vq]at g;exact .inr ⟨by omega,by omega⟩
   have aa:=QlI p;have t:Ev (λn=>((bif decide (0<p.Laps)then(F_o n p.Parts).bind λG=>some G else some [p.Mat]):Option (List Int))) (lapS p):=by
    rw[Qeb];refine QbS (λh=>?_) (λ_=>Qa _);rw[Qad]at hs;refine Ea (Y (szPs p.Parts) (by omega) p.Parts (XT _) (by omega) w1 w2 ?_) (Qa _);have:(p.Laps==0)=false:=by
     simp only[Vq]at h;exact beq_false_of_ne (by omega)
    rw[this]at g;simp only[Vp,XW]at g;exact g.2.2.2
   obtain⟨d,w,y⟩:=inner p (lapS p) s (by omega) 0 _ a (Xv _) (by omega);rw[expS];rcases y with rfl|⟨z,rfl⟩
   .obtain⟨F,V,X⟩:=H (i+1) (repS (p.Laps.toNat+(bif decide (0<p.Laps)then 0 else 1)) a (lapS p)) M (by omega) (by
     have:=QeA (p.Laps.toNat+(bif decide (0<p.Laps)then 0 else 1)) a (lapS p);omega)
    refine⟨F,Et ?_ V,X⟩;unfold F_er;simp only[q.lt,Vn,q.ix,XJ,q.nx];exact Ea t (Ea w.ev (Qa _))
   .refine⟨.done (repS (p.Laps.toNat+(bif decide (0<p.Laps)then 0 else 1)) a (lapS p)),Ei ?_,.inr (by rw[QhJ r z])⟩;unfold F_er;simp only[q.lt,Vn,q.ix,XJ,q.nx];exact Ea t (Ea w.ev (Qa _))
 obtain⟨d,w,y⟩:=loop l 0 [] rfl (XU _) (by simp);rcases y with rfl|rfl
 .exact Ea w.ev (Qa _)
 .exact Ea w.ev (Qa _)
def kindAt(c:Course)(m:Int):Int:=((c.Mats[m.toNat]?).map (·.Kind)).getD 0
def hasLeg(c:Course)(a b:Int):Bool:=c.Legs.any λl=>(l.From==a)&&(l.To==b)
def rokS(c:Course)(len:Nat):Nat->Int->List Int->Bool
 |_,_,[]=>true
 |i,prev,m::r=>((kindAt c m==1)==decide (i=0))&&(((kindAt c m==3)==decide (i+1=len))&&((decide (i=0)||hasLeg c prev m)&&rokS c len (i+1) m r))
def routeR(c:Course)(d:Distance)(r:List Int):Bool:=
 (decide (2<=r.length)&&decide (r.length<=256))&&(rokS c r.length 0 0 r&&((bif decide (0<=d.Extra)then !((r.count d.Extra:Int)==0)&&((kindAt c d.Extra==2)&&hasLeg c d.Extra d.Extra)else true)&&d.Cutoffs.all λx=>decide (x.Lap<=(r.count x.Mat:Int))))
def routeS(c:Course)(d:Distance):Bool:=routeR c d (expS [] d.Route)
def cntM(l:List Int):List (Int×Int):=l.foldl (λm k=>Yl m k (QN m k 0+1)) []
theorem Qku(l:List Int)(k:Int):cntM (l++[k])=Yl (cntM l) k (QN (cntM l) k 0+1):=by unfold cntM;rw[List.foldl_append];rfl
theorem Qfc(l:List Int)(k:Int):QN (cntM l) k 0=(l.count k:Int):=by
 have a:∀(l:List Int) (m:List (Int×Int)),QN (l.foldl (λm k=>Yl m k (QN m k 0+1)) m) k 0=QN m k 0+(l.count k:Int):=by
  intro l
  induction l with
  |nil=>intro m;simp
  |cons x l b=>
   intro m;rw[XD,b,QeI,List.count_cons];by_cases h:k=x
   .subst h;simp;omega
   .have:(x==k)=false:=beq_false_of_ne λe=>h e.symm;simp[h,this]
 have:=a l [];simpa[cntM,Qkc]using this
theorem Qiw(b:Int):∀(m:Nat) (l:List Part) (a:List Int),szPs l<=m->partsS b l=true->(∀x∈a,0<=x/\x<=b)->∀x∈expS a l,0<=x/\x<=b:=by
 intro m
 induction m using Nat.strongRecOn with
 |_ m B=>
 intro l;have u:∀(k:Nat) (a d:List Int),(∀x∈a,0<=x/\x<=b)->(∀x∈d,0<=x/\x<=b)->∀x∈repS k a d,0<=x/\x<=b:=by
  intro k
  induction k with
  |zero=>intro a d i _;rw[repS];exact i
  |succ k s=>
   intro a d i w;rw[repS];split
   .exact i
   .refine s _ _ ?_ w;intro x g;rcases VC.1 g with h|h
    .exact i x h
    .exact w x h
 have n:∀(r:List Part) (a:List Int),szPs r<=m->partsS b r=true->(∀x∈a,0<=x/\x<=b)->∀x∈expS a r,0<=x/\x<=b:=by
  intro r
  induction r with
  |nil=>intro a _ _ h;rw[expS];exact h
  |cons p r q=>
   intro a j f h;rw[szPs,Qad]at j;rw[partsS,XW]at f;obtain⟨e,y⟩:=f;rw[expS];refine q _ (by omega) y (u _ _ _ h ?_);rw[Qeb];rw[QeD]at e;cases t:(p.Laps==0)with
   |true=>
    have z:p.Laps=0:=by simpa using t
    rw[t,Vn,XW]at e;have:=e.1;unfold inR at this;simp only[XW,Vq]at this;rw[z];intro x g;simp at g;subst g;exact this
   |false=>
    rw[t]at e;simp only[Vp,XW,inR,Vq]at e;rw[QT (show 0<p.Laps by omega),Vn];exact B (szPs p.Parts) (by omega) p.Parts [] (XT _) e.2.2.2 (by simp)
 exact λa j f h=>n l a j f h
theorem Qjs{c:Course}{m:Int}(b:0<=m)(d:m<=(c.Mats.length:Int)-1):∃x:Mat,idx c.Mats m=some x/\x.Kind=kindAt c m:=by
 obtain⟨k,rfl⟩:∃k:Nat,m=(k:Int):=⟨m.toNat,by omega⟩;have a:k<c.Mats.length:=by omega
 refine⟨c.Mats[k],QQ (XK a),?_⟩;unfold kindAt;rw[Int.toNat_natCast,XK a];rfl
theorem Qhp(c:Course)(a b:Int):QN (Yf legKey true c.Legs) {from_:=a,to_:=b} false=hasLeg c a b:=by
 rw[QdH];unfold hasLeg;by_cases h:({from_:=a,to_:=b}:Ue)∈c.Legs.map legKey
 .rw[Vs h];obtain⟨l,d,e⟩:=Xe.1 h;unfold legKey at e;obtain⟨g,f⟩:=ends_eq.1 e;exact(Xt.2 ⟨l,d,by simp[g,f]⟩).symm
 .rw[Vr h]
  symm
  rw[VL];intro q;obtain⟨l,d,e⟩:=Xt.1 q;simp only[XW,Vx]at e;exact h (Xe.2 ⟨l,d,by unfold legKey;rw[e.1,e.2]⟩)
structure NumOk (c:Course):Prop where
 kinds:∀m∈c.Mats,1<=m.Kind/\m.Kind<=3
 dist:∀d∈c.Distances,-1<=d.Extra/\d.Extra<=(c.Mats.length:Int)-1/\partsS ((c.Mats.length:Int)-1) d.Route=true
theorem QmN{c:Course}(h:numbersS c=true):NumOk c:=by
 unfold numbersS at h;simp only[XW,Xs]at h;refine⟨λm b=>?_,λd f=>?_⟩
 .have:=h.1 m b;unfold inR at this;simpa using this
 .have:=h.2.2.2.1 d f;unfold distS at this;simp only[XW]at this;obtain⟨_,a,e,_⟩:=this;unfold inR at a;simp only[XW,Vq]at a;exact⟨a.1,a.2,e⟩
theorem QoU{c:Course}(q:NumOk c){d:Distance}(hd:d∈c.Distances):∀x∈expS [] d.Route,0<=x/\x<=(c.Mats.length:Int)-1:=
 Qiw _ _ d.Route [] (XT _) (q.dist d hd).2.2 (by simp)
theorem Qli(c:Course)(len i:Nat)(prev m:Int)(r:List Int):rokS c len i prev (m::r)=(((kindAt c m==1)==decide (i=0))&&(((kindAt c m==3)==decide (i+1=len))&&((decide (i=0)||hasLeg c prev m)&&rokS c len (i+1) m r))):=rfl
theorem Qni(i:Nat):((i:Int)==0)=decide (i=0):=by
 rw[XX];simp
theorem Qfx(c:Course)(r:List Int)(F:2<=r.length)(R:r.length<=256)(H:∀x∈r,0<=x/\x<=(c.Mats.length:Int)-1):
  Ev (λn=>iter (F_bz n c (Yf legKey true c.Legs) r) n ([],0)) (bif rokS c r.length 0 0 r then .cont (cntM r)else .done false):=by
 have loop:∀(t:List Int) (i:Nat) (b:Int),r.drop i=t->i<=r.length->(0<i->At r (i-1) b)->EvI (λn=>F_bz n c (Yf legKey true c.Legs) r) (cntM (r.take i),(i:Int)) (bif rokS c r.length i b t then .cont (cntM r)else .done false):=by
  intro t
  induction t with
  |nil=>
   intro i b f s _;refine Ei ?_;unfold F_bz;simp only[Yp f s,Vp,rokS,Vn];have:r.length<=i:=by simpa using f
   rw[VH this];exact Qa _
  |cons m t M=>
   intro i b f s B;obtain⟨d,g⟩:=QJ (by omega) f;have P:=d.lt';obtain⟨N,L⟩:=H m d.mem;obtain⟨x,Q,u⟩:=Qjs N L;have z:IntKind.i64.wrap ((r.length:Int)-1)=((r.length-1:Nat):Int):=by rw[Qq (by omega) (by omega)];omega
   have O:((i:Int)==((r.length-1:Nat):Int))=decide (i+1=r.length):=by rw[XX];simp;omega
   have E:Ev (λn:Nat=>((bif ((x.Kind==1) != ((i:Int)==0))then some true else(bif ((x.Kind==3) != ((i:Int)==(IntKind.i64.wrap ((r.length:Int)-1))))then some true else(bif decide (0<(i:Int))then(idx r (IntKind.i64.wrap ((i:Int)-1))).bind λk=>(some (QN (Yf legKey true c.Legs) ({from_:=k,to_:=m:Ue}) false)).bind λp=>some (!p)else some false))):Option Bool))
     (!(((kindAt c m==1)==decide (i=0))&&(((kindAt c m==3)==decide (i+1=r.length))&&(decide (i=0)||hasLeg c b m)))):=by
    rw[u,z,O,Qni];refine Ev.eq (Er λ_=>Er λ_=>QbS (v:= !hasLeg c b m) (w:=false) (λh=>?_) λ_=>Qa _) ?_
    .have j:0<i:=by simpa using h
     have J:IntKind.i64.wrap ((i:Int)-1)=((i-1:Nat):Int):=by rw[Qq (by omega) (by omega)];omega
     rw[J,(B j).ix];simp only[XJ,Qhp];exact Qa _
    .have y:decide (0<(i:Int))= !decide (i=0):=by rw[XX];simp;omega
     rw[y];cases(kindAt c m==1)<;>cases decide (i=0)<;>cases(kindAt c m==3)<;>cases decide (i+1=r.length)<;>cases hasLeg c b m<;>rfl
   have e:IntKind.i64.wrap (QN (cntM (r.take i)) m 0+1)=QN (cntM (r.take i)) m 0+1:=by
    rw[Qfc];have:(r.take i).count m<=i:=by have:=List.count_le_length (a:=m) (l:=r.take i);simp at this;omega
    exact Qq (by omega) (by omega)
   have step:Ev (λn=>F_bz n c (Yf legKey true c.Legs) r (cntM (r.take i),(i:Int))) (bif ((kindAt c m==1)==decide (i=0))&&(((kindAt c m==3)==decide (i+1=r.length))&&(decide (i=0)||hasLeg c b m))then .cont (cntM (r.take (i+1)),((i+1:Nat):Int))else .done (.done false)):=by
    unfold F_bz;simp only[d.lt,Vn,d.ix,XJ,d.nx,Q];refine Ea E ?_;rw[e, <- Qku, <- d.take];cases(((kindAt c m==1)==decide (i=0))&&(((kindAt c m==3)==decide (i+1=r.length))&&(decide (i=0)||hasLeg c b m)))<;>exact Qa _
   have G:rokS c r.length i b (m::t)=((((kindAt c m==1)==decide (i=0))&&(((kindAt c m==3)==decide (i+1=r.length))&&(decide (i=0)||hasLeg c b m)))&&rokS c r.length (i+1) m t):=by rw[Qli];simp only[Bool.and_assoc]
   rw[G];cases q:(((kindAt c m==1)==decide (i=0))&&(((kindAt c m==3)==decide (i+1=r.length))&&(decide (i=0)||hasLeg c b m)))with
   |false=>
    rw[q]at step;exact Ei step
   |true=>
    rw[q]at step;rw[Vz];exact Et step (M (i+1) m g (by omega) (λ_=>by simpa using d))
 exact(loop r 0 0 rfl (XU _) (by omega)).ev
theorem QiJ(c:Course)(w:CourseOk c)(q:NumOk c)(d:Distance)(b:d∈c.Distances)(s:∀x∈d.Route,Part.wf x)(y:szPs d.Route<=256):
  Ev (λn=>F_cn n c d (Yf legKey true c.Legs)) (routeS c d):=by
 have j:=Qa2 d.Route;have i:=QoU q b;have a:=QhI _ d.Route [] (XT _);unfold F_cn routeS;refine Ea (Qkl _ _ d.Route (XT _) y (by omega) s (q.dist d b).2.2) ?_;generalize expS [] d.Route=r at i a⊢;unfold routeR;have l:IntKind.i64.wrap ((r.length:Int)-1)=(r.length:Int)-1:=by
  have:r.length<=1048576:=by simp at a;omega
  exact Qcs this
 rw[l];have p:(decide ((r.length:Int)-1<1)||decide (256<=(r.length:Int)-1))= !(decide (2<=r.length)&&decide (r.length<=256)):=by
  rw[XX];simp;omega
 refine Ea (Ev.eq (Er λ_=>Qa _) p) ?_;cases h:(decide (2<=r.length)&&decide (r.length<=256))with
 |false=>exact Qa _
 |true=>
  simp only[XW,Vq]at h;rw[Vz];refine Yg (Ea (Qfx c r h.1 h.2 i) ?_);cases rokS c r.length 0 0 r with
  |false=>exact Qa _
  |true=>
   simp only[Vn,Vz];have t:Ev (λn:Nat=>((bif decide (0<=d.Extra)then(some (QN (cntM r) d.Extra 0)).bind λg=>(bif (g==0)then some true else(idx c.Mats d.Extra).bind λe=>(bif (e.Kind != 2)then some true else(some (QN (Yf legKey true c.Legs) ({from_:=d.Extra,to_:=d.Extra:Ue}) false)).bind λf=>some (!f)))else some false):Option Bool))
     (!(bif decide (0<=d.Extra)then !((r.count d.Extra:Int)==0)&&((kindAt c d.Extra==2)&&hasLeg c d.Extra d.Extra)else true)):=by
    rw[Qfc];cases u:decide (0<=d.Extra)with
    |false=>exact Qa _
    |true=>
     obtain⟨x,z,k⟩:=Qjs (c:=c) (m:=d.Extra) (by simpa using u) (q.dist d b).2.1;simp only[Vn,XJ,z,Qhp,k];refine Ev.eq (Er λ_=>Er λ_=>Qa _) ?_;rw[bne];cases((r.count d.Extra:Int)==0)<;>cases(kindAt c d.Extra==2)<;>cases hasLeg c d.Extra d.Extra<;>rfl
   refine Ea t ?_;cases(bif decide (0<=d.Extra)then !((r.count d.Extra:Int)==0)&&((kindAt c d.Extra==2)&&hasLeg c d.Extra d.Extra)else true)with
   |false=>exact Qa _
   |true=>
    rw[Vz];refine Yg (Ea ?_ (Qa _));unfold F_ey F_fi F_ga;refine Y6 d.Cutoffs _ (λn x=>F_ck n x (cntM r)) (by have:=w.cut d b;omega) λx _=>?_;unfold F_ck;rw[Qfc];exact Qa _
theorem QdA{a b:Nat}(h:a+b<=4611686018427387904):IntKind.i64.wrap ((a:Int)+(b:Int))=((a+b:Nat):Int):=by
 rw[Qq (by omega) (by omega)];omega
def lensC(c:Course):Nat:=c.Mats.length+c.Legs.length+c.Distances.length+c.Waves.length+c.Offences.length+c.Categories.length+c.Prizes.length
def fewD(d:Distance):Prop:=d.Cutoffs.length<=200/\szPs d.Route<=200/\hPs d.Route<=16
structure FewOk (c:Course):Prop where
 lens:lensC c<=200
 name:c.Name.length<=100
 dist:∀d∈c.Distances,fewD d
 ties:c.Ties.length<=200
theorem QgN(c:Course)(w:CourseOk c)(q:PartsOk c)(X:c.Ties.length<=1048576)(Y:∀x∈c.Ties,Step.wf x):∃b,Ev (λn=>F_cs n c) b/\(b=true->FewOk c):=by
 have hm:=w.mats;have hg:=w.legs;have hd:=w.dist;have G:=w.wave;have ho:=w.off;have hc:=w.cat;have hp:=w.prize;have loop:∀(t:List Distance) (i s:Nat),c.Distances.drop i=t->i<=c.Distances.length->∃f:Ctl Int Bool,EvI (λn=>F_bd n c) ((s:Int),(i:Int)) f/\(f=.done false\/ ∃v:Nat,f=.cont (v:Int)/\(v<=200->s<=v/\ ∀d∈t,fewD d)):=by
  intro t
  induction t with
  |nil=>
   intro i s y F;refine⟨.cont (s:Int),Ei ?_,Or.inr ⟨s,rfl,λ_=>⟨XT _,by simp⟩⟩⟩;unfold F_bd;simp only[Yp y F,Vp,XJ];exact Qa _
  |cons d t V=>
   intro i s y F;obtain⟨j,u⟩:=QJ (by omega) y;have aa:=j.lt';by_cases hs:s<=200
   .have g:=q.len d j.mem;have l:=q.wf d j.mem;have J:=w.cut d j.mem;have r:=QhN _ d.Route (XT _) g l;have H:=QhM _ d.Route 17 (XT _) (XT _) g l;have e1:IntKind.i64.wrap ((s:Int)+(d.Cutoffs.length:Int))=((s+d.Cutoffs.length:Nat):Int):=QdA (by omega);have L:IntKind.i64.wrap (((s+d.Cutoffs.length:Nat):Int)+((min (szPs d.Route) 257:Nat):Int))=((s+d.Cutoffs.length+min (szPs d.Route) 257:Nat):Int):=QdA (by omega);have step:Ev (λn=>F_bd n c ((s:Int),(i:Int))) (bif decide ((16:Int)<((min (hPs d.Route) 17:Nat):Int))then .done (.done false)else .cont (((s+d.Cutoffs.length+min (szPs d.Route) 257:Nat):Int),((i+1:Nat):Int))):=by
     unfold F_bd;simp only[j.lt,Vn,j.ix,XJ,j.nx,QT (show(s:Int)<=200 by omega)];refine Ea r (Ea H ?_);rw[e1,L];cases decide ((16:Int)<((min (hPs d.Route) 17:Nat):Int))<;>exact Qa _
    by_cases W:hPs d.Route<=16
    .rw[QP (show¬(16:Int)<((min (hPs d.Route) 17:Nat):Int)by omega)]at step;obtain⟨f,p,k⟩:=V (i+1) (s+d.Cutoffs.length+min (szPs d.Route) 257) u (by omega);refine⟨f,Et step p,?_⟩;rcases k with k|⟨v,k,B⟩
     .exact Or.inl k
     .refine Or.inr ⟨v,k,λG=>?_⟩;obtain⟨N,z⟩:=B G;refine⟨by omega,λx E=>?_⟩;rcases X5.1 E with rfl|E
      .exact⟨by omega,by omega,W⟩
      .exact z x E
    .rw[QT (show(16:Int)<((min (hPs d.Route) 17:Nat):Int)by omega)]at step;exact⟨.done false,Ei step,Or.inl rfl⟩
   .refine⟨.cont (s:Int),Ei ?_,Or.inr ⟨s,rfl,λh=>absurd h hs⟩⟩;unfold F_bd;simp only[j.lt,Vn,QP (show¬(s:Int)<=200 by omega),XJ,Vp];exact Qa _
 obtain⟨f,p,k⟩:=loop c.Distances 0 (lensC c) rfl (XU _);have e:IntKind.i64.wrap ((IntKind.i64.wrap ((IntKind.i64.wrap ((IntKind.i64.wrap ((IntKind.i64.wrap ((IntKind.i64.wrap ((c.Mats.length:Int)+(c.Legs.length:Int)))+(c.Distances.length:Int)))+(c.Waves.length:Int)))+(c.Offences.length:Int)))+(c.Categories.length:Int)))+(c.Prizes.length:Int))=(lensC c:Int):=by
  have T:c.Mats.length+c.Legs.length<=4611686018427387904:=by omega
  have Q:c.Mats.length+c.Legs.length+c.Distances.length<=4611686018427387904:=by omega
  have R:c.Mats.length+c.Legs.length+c.Distances.length+c.Waves.length<=4611686018427387904:=by omega
  have P:c.Mats.length+c.Legs.length+c.Distances.length+c.Waves.length+c.Offences.length<=4611686018427387904:=by omega
  have M:c.Mats.length+c.Legs.length+c.Distances.length+c.Waves.length+c.Offences.length+c.Categories.length<=4611686018427387904:=by omega
  have O:c.Mats.length+c.Legs.length+c.Distances.length+c.Waves.length+c.Offences.length+c.Categories.length+c.Prizes.length<=4611686018427387904:=by omega
  rw[QdA T,QdA Q,QdA R,QdA P,QdA M,QdA O];rfl
 unfold F_cs;rw[e];rcases k with rfl|⟨v,rfl,B⟩
 .exact⟨false,Ea p.ev (Qa _),λh=>by cases h⟩
 .obtain⟨a,b,r,H,p3,_,_,_,_⟩:=Qns _ c.Ties 0 (XT _) (by omega) X Y;have m:Ev (λn=>F_by n c.Ties) (decide ((c.Ties.length:Int)<=20)&&(decide (a<=80)&&decide (b<=300))):=by
   unfold F_by;exact Ea r (Ea (Eh λ_=>Eh λ_=>Qa _) (Qa _))
  refine⟨decide ((v:Int)<=200)&&(decide ((c.Name.length:Int)<=100)&&(decide ((c.Ties.length:Int)<=20)&&(decide (a<=80)&&decide (b<=300)))),Ea p.ev (Ea (Eh λ_=>Eh λ_=>Ea m (Qa _)) (Qa _)),λh=>?_⟩;simp only[XW,Vq]at h;obtain⟨N,z⟩:=B (by omega);exact⟨by omega,by omega,z,by omega⟩
def fitsS(c:Course):Bool:=
 !(decide (40<(c.Mats.length:Int))||(decide (512<(c.Legs.length:Int))||(decide (8<(c.Distances.length:Int))||(decide (32<(c.Waves.length:Int))||(decide (32<(c.Offences.length:Int))||(decide (32<(c.Categories.length:Int))||decide (32<(c.Prizes.length:Int))))))))
  &&c.Distances.all λd=> !decide (64<(d.Cutoffs.length:Int))
theorem Qnt(c:Course)(w:CourseOk c)(q:PartsOk c)(k:FewOk c):Ev (λn=>F_da n c) (fitsS c):=by
 unfold F_da fitsS;refine Ea (Er λ_=>Er λ_=>Er λ_=>Er λ_=>Er λ_=>Er λ_=>Qa _) ?_;cases(decide (40<(c.Mats.length:Int))||(decide (512<(c.Legs.length:Int))||(decide (8<(c.Distances.length:Int))||(decide (32<(c.Waves.length:Int))||(decide (32<(c.Offences.length:Int))||(decide (32<(c.Categories.length:Int))||decide (32<(c.Prizes.length:Int))))))))with
 |true=>exact Qa _
 |false=>
  rw[Xh,Vz];refine Yg (Ea (QkV c.Distances (λd=> !decide (64<(d.Cutoffs.length:Int))) (Ctl.done false) (Ctl.cont ()) (by have:=w.dist;omega) (λi x a=>?_) ?_) ?_)
  .obtain⟨f,e,b⟩:=k.dist x a.mem;unfold F_hg;simp only[a.lt,Vn,a.ix,XJ,a.nx];refine Ea (Ql6 _ x.Route 17 (XT _) (by omega) (XT _) (by omega) (q.wf x a.mem)) ?_;refine Ea (Er λ_=>Er λ_=>Qa _) ?_;simp only[QP (show¬(16:Int)<(hPs x.Route:Int)by omega),QP (show¬(256:Int)<(szPs x.Route:Int)by omega),Bool.or_false];cases decide (64<(x.Cutoffs.length:Int))<;>exact Qa _
  .unfold F_hg;simp only[QcH,Vp];exact Qa _
  .cases(c.Distances.all λd=> !decide (64<(d.Cutoffs.length:Int)))<;>exact Qa _
def courseE(c:Course):Int:=
 bif fitsS c then bif namesS c then bif numbersS c then bif tiesE c.Ties==0 then bif c.Distances.all (routeS c)then 0 else 72 else tiesE c.Ties else 71 else 70 else 2
theorem Qkn(c:Course)(w:CourseOk c)(q:PartsOk c)(k:FewOk c)(d:c.Ties.length<=1048576)(g:∀x∈c.Ties,Step.wf x):Ev (λn=>F_h n c) (courseE c):=by
 unfold F_h courseE;refine Ea (Qnt c w q k) ?_;cases fitsS c with
 |false=>exact Qa _
 |true=>
 refine Yg (Ea (Ql4 c w) ?_);cases namesS c with
 |false=>exact Qa _
 |true=>
 refine Yg (Ea (QiI c w q) ?_);cases e:numbersS c with
 |false=>exact Qa _
 |true=>
 refine Yg (Ea (Qnv c.Ties d g) ?_);rw[bne];cases(tiesE c.Ties==0)with
 |false=>exact Qa _
 |true=>
 have f:Ev (λn=>iter (F_gv n c) n ([],0)) (Yf legKey true c.Legs):=by
  refine Qbu c.Legs legKey true (by have:=w.legs;omega) (λi x m a=>?_) (λm=>?_)
  .unfold F_gv;simp only[a.lt,Vn,a.ix,XJ,a.nx];exact Qa _
  .unfold F_gv;simp only[QcH,Vp];exact Qa _
 refine Yg (Ea f ?_);have a:Ev (λn=>F_bh n c.Distances c (Yf legKey true c.Legs)) (c.Distances.all (routeS c)):=by
  unfold F_bh F_dw F_ef;refine Y6 c.Distances _ (λn x=>F_cy n x c (Yf legKey true c.Legs)) (by have:=w.dist;omega) λx b=>?_;unfold F_cy;exact Ea (QiJ c w (QmN e) x b (q.wf x b) (by have:=(k.dist x b).2.1;omega)) (Qa _)
 refine Ea a ?_;cases c.Distances.all (routeS c)<;>exact Qa _
theorem Qjg{α:Type}(l:List α){a b:Nat}(h:a<=b)(d:b<=l.length):slc l (a:Int) (b:Int)=some ((l.take b).drop a):=by
 unfold slc;rw[QT (show(0:Int)<=(a:Int)by omega),QT (show(a:Int)<=(b:Int)by omega),QT (show(b:Int)<=(l.length:Int)by omega)];simp
theorem Qim{α:Type}(l:List α){b:Nat}(a:b<=l.length):slc l 0 (b:Int)=some (l.take b):=by
 have:=Qjg l (XU b) a;simpa using this
theorem Qhe{α:Type}(l:List α){a:Nat}(b:a<=l.length):slc l (a:Int) (l.length:Int)=some (l.drop a):=by
 have:=Qjg l b (XT _);simpa using this
theorem QcN{α:Type}(l m:List α)(h:l.length+m.length<=4294967296):app l m=some (l++m):=by
 unfold app;rw[XS (by unfold Q9;exact h)];rfl
theorem QaG{α:Type}(l:List α){i:Nat}(x:α)(h:i<l.length):QaX l (i:Int) x=some (l.set i x):=by
 unfold QaX;rw[QT (show(0:Int)<=(i:Int)by omega),QT (show(i:Int)<(l.length:Int)by omega)];simp
def firstI{α:Type}(q:α->Bool):List α->Nat->Int
 |[],_=> -1
 |x::l,i=>bif q x then(i:Int)else firstI q l (i+1)
theorem Ev.first{α:Type}{step:Nat->Int->Option (Ctl Int (Ctl Unit Int))}(l:List α)(q:α->Bool)(k:l.length<=4611686018427387904)
  (u:∀i x,At l i x->Ev (λn=>step n (i:Int)) (bif q x then .done (.done (i:Int))else .cont ((i+1:Nat):Int)))(p:Ev (λn=>step n (l.length:Int)) (.done (.cont ()))):
  Ev (λn=>(Go.Sw.iter (step n) n 0).bind λb=>match b with|.cont _=>some (-1)|.done v=>some v) (firstI q l 0):=by
 have loop:∀(r:List α) (i:Nat),l.drop i=r->i<=l.length->∃a:Ctl Unit Int,EvI step (i:Int) a/\(match a with|.cont _=>some (-1)|.done v=>some v)=some (firstI q r i):=by
  intro r
  induction r with
  |nil=>
   intro i e m;have:i=l.length:=by have:=Xq.1 e;omega
   subst this;exact⟨.cont (),Ei p,rfl⟩
  |cons x r t=>
   intro i e m;obtain⟨j,d⟩:=QJ k e;have s:=u i x j;unfold firstI;cases h:q x with
   |true=>
    rw[h]at s;exact⟨_,Ei s,rfl⟩
   |false=>
    rw[h]at s;obtain⟨a,g,f⟩:=t (i+1) d (by have:=j.lt';omega);exact⟨a,Et s g,f⟩
 obtain⟨a,g,f⟩:=loop l 0 rfl (XU _);exact Ea g.ev (Ex f)
theorem QdM{α:Type}(q:α->Bool):∀(l:List α) (i:Nat),(firstI q l i= -1/\l.all (λx=> !q x)=true)\/ ∃j x,firstI q l i=((i+j:Nat):Int)/\l[j]?=some x/\q x=true/\(l.take j).all (λx=> !q x)=true
 |[],_=>.inl ⟨rfl,rfl⟩
 |x::l,i=>by
  unfold firstI;cases h:q x with
  |true=>exact .inr ⟨0,x,rfl,rfl,h,rfl⟩
  |false=>
   rcases QdM q l (i+1)with⟨h1,h2⟩|⟨j,y,h1,h2,h3,h4⟩
   .exact .inl ⟨h1,by simp[h,h2]⟩
   .refine .inr ⟨j+1,y,by rw[Vp,h1];congr 1;omega,h2,h3,by simp[h,h4]⟩
theorem QeS{α:Type}{p:α->Bool}{l:List α}(h:l.all p=true):l.filter p=l:=List.filter_eq_self.2 (Xs.1 h)
theorem QkU{α:Type}{first:Nat->Option Int}{step:Nat->List α×Int×Int->Option (Ctl (List α×Int×Int) (List α×Int))}(l0:List α)(q:α->Bool)(hl:l0.length<=1048576)
  (P:Ev first (firstI q l0 0))
  (Y:∀(l:List α) (i j:Nat) x y,l.length<=1048576->At l j x->l[i]?=some y->x∈l0->i<=j->Ev (λn=>step n (l,(i:Int),(j:Int))) (.cont (bif q x then l else l.set i x,(bif q x then(i:Int)else((i+1:Nat):Int)),((j+1:Nat):Int))))
  (W:∀(l:List α) (i:Int),Ev (λn=>step n (l,i,(l.length:Int))) (.done (l,i))):
  Ev (λn=>(first n).bind λr1=>bif r1== -1 then some l0 else(Go.Sw.iter (step n) n (l0,r1,IntKind.i64.wrap (r1+1))).bind λb=>(slc b.1 0 b.2).bind λx=>some x) (l0.filter λx=> !q x):=by
 refine Ea P ?_;rcases QdM q l0 0 with⟨G,E⟩|⟨t,N,G,E,V,Q⟩
 .rw[G,QeS E];exact Qa _
 .have R:=(XL.1 E).1;rw[Xv]at G;rw[G];have O:(((t:Nat):Int)== -1)=false:=by simp
  rw[O,QZ (by omega)];have loop:∀(r l:List α) (i j:Nat),l0.drop j=r->j<=l0.length->i<j->l.length=l0.length->l.drop j=l0.drop j->l.take i=(l0.take j).filter (λx=> !q x)->∃f:List α,∃g:Nat,EvI step (l,(i:Int),(j:Int)) (f,(g:Int))/\g<=f.length/\f.take g=l0.filter λx=> !q x:=by
   intro r
   induction r with
   |nil=>
    intro l i j F T J a z e;have:j=l.length:=by have:=Xq.1 F;omega
    subst this;refine⟨l,i,Ei (W l _),by omega,?_⟩;rw[e,a,X8]
   |cons x r M=>
    intro l i j F T J a z e;have H:l.drop j=x::r:=by rw[z,F]
    obtain⟨L,u⟩:=QJ (by omega) H;obtain⟨k,d⟩:=QJ (by omega) F;have X:=L.lt';have s:=Y l i j x l[i] (by omega) L (XK (by omega)) k.mem (by omega);cases h:q x with
    |true=>
     rw[h]at s;obtain⟨f,g,B,p,w⟩:=M l i (j+1) d (by omega) (by omega) a (by rw[u,d]) (by rw[k.take,List.filter_append,e];simp[h]);exact⟨f,g,Et s B,p,w⟩
    |false=>
     rw[h]at s;obtain⟨f,g,B,p,w⟩:=M (l.set i x) (i+1) (j+1) d (by omega) (by omega) (by simpa using a) (by rw[List.drop_set_of_lt (by omega),u,d])
      (by
       rw[k.take,List.filter_append, <- e];have:i<(l.set i x).length:=by simp;omega
       rw[List.take_add_one,XK this];simp[h,List.take_set_of_le])
     exact⟨f,g,Et s B,p,w⟩
  have m:l0.take (t+1)=l0.take t++[N]:=by rw[List.take_add_one,E];rfl
  obtain⟨f,g,B,p,w⟩:=loop _ l0 t (t+1) rfl (by omega) (by omega) rfl rfl (by rw[m,List.filter_append,QeS Q];simp[V]);refine Yg (Ea B.ev ?_);rw[<- w];exact Ex (by simp[Qim f p])
theorem QaP{ι α:Type}{F:Nat->ι->Option α}{V:ι->α}:∀(L:List ι),(∀p∈L,Ev (λn=>F n p) (V p))->∃N,∀n,N<=n->∀p∈L,F n p=some (V p)
 |[],_=>⟨0,λ_ _ p hp=>by cases hp⟩
 |x::L,h=>by
  obtain⟨N,hN⟩:=QaP L λp hp=>h p (by simp[hp]);obtain⟨M,hM⟩:=h x (by simp);refine⟨N+M,λn hn p hp=>?_⟩;rcases X5.1 hp with rfl|hp
  .exact hM n (by omega)
  .exact hN n (by omega) p hp
theorem Ev.anyP{E R:Type}[DecidableEq R]{k:Nat->List E->Option R}{l:List E}{r:R}(h:∀p,p.Perm l->Ev (λn=>k n p) r):Ev (λn=>Go.Sw.anyP (k n) l) r:=by
 obtain⟨N,b⟩:=QaP (F:=λn p=>k n p) (V:=λ_=>r) (QbI l) λp a=>h p (Qcg l p a);exact⟨N,λn d=>QnE λp a=>b n d p (Qda l p a)⟩
theorem Ev.isNil{α R:Type}[DecidableEq R]{l:List α}{x y:Nat->Option R}{v:R}(d:l=[]->Ev x v)(a:Ev y v):Ev (λn=>Go.Sw.isNil l (x n) (y n)) v:=by
 unfold Go.Sw.isNil;cases q:l.isEmpty with
 |false=>exact a
 |true=>
  obtain⟨N,e⟩:=d (List.isEmpty_iff.1 q);obtain⟨M,b⟩:=a;exact⟨N+M,λn f=>by dsimp only;rw[e n (by omega),b n (by omega)];simp⟩
set_option maxRecDepth 4000
def openU(f:Fact):U_facts_open_rxk:=
 bif f.Kind==1 then .c0 ()else bif f.Kind==2 then .c1 ()else bif f.Kind==3 then .c2 ()else bif f.Kind==4 then .c3 ()else bif f.Kind==5 then .c4 ()else bif f.Kind==6 then .c5 ()
 else bif f.Kind==7 then .c6 ()else bif f.Kind==8 then .c7 ()else bif f.Kind==9 then .c8 ()else bif f.Kind==10 then
  (bif (f.Ruling.Kind==1)||(f.Ruling.Kind==2)then .c9 (0,0,0,0,0,0)else bif f.Ruling.Kind==3 then .c9 (1,9999,0,255,1,1099511627776)else bif f.Ruling.Kind==4 then .c9 (1,9999,0,255,1,64)else .c9 (1,9999,0,255,0,0))
 else bif f.Kind==11 then .c10 ()else bif f.Kind==12 then .c11 ()else bif f.Kind==13 then .c12 ()else .c13 ()
theorem Qjo(n:Nat)(f:Fact)(b:Int):F_an n f b=some (openU f):=by
 unfold F_an openU;cases(f.Kind==1)with
 |true=>rfl
 |false=>
 cases(f.Kind==2)with
 |true=>rfl
 |false=>
 cases(f.Kind==3)with
 |true=>rfl
 |false=>
 cases(f.Kind==4)with
 |true=>rfl
 |false=>
 cases(f.Kind==5)with
 |true=>rfl
 |false=>
 cases(f.Kind==6)with
 |true=>rfl
 |false=>
 cases(f.Kind==7)with
 |true=>rfl
 |false=>
 cases(f.Kind==8)with
 |true=>rfl
 |false=>
 cases(f.Kind==9)with
 |true=>rfl
 |false=>
 cases(f.Kind==10)with
 |true=>
  cases(f.Ruling.Kind==1)with
  |true=>rfl
  |false=>
  cases(f.Ruling.Kind==2)with
  |true=>rfl
  |false=>
  cases(f.Ruling.Kind==3)with
  |true=>rfl
  |false=>
  cases(f.Ruling.Kind==4)with
  |true=>rfl
  |false=>rfl
 |false=>
 cases(f.Kind==11)with
 |true=>rfl
 |false=>
 cases(f.Kind==12)with
 |true=>rfl
 |false=>
 cases(f.Kind==13)with
 |true=>rfl
 |false=>rfl
def headL:List Ent:=[⟨false,3,1,13⟩,⟨false,0,0,31⟩,⟨false,1,1,1048576⟩,⟨false,2,0,1099511627776⟩]
def bodyL:U_facts_open_rxk->List Ent
 |.c0 _=>[⟨false,4,1,9999⟩,⟨false,5,0,7⟩,⟨false,6,0,31⟩,⟨false,7,(-1099511627776),1099511627776⟩,⟨false,8,0,120⟩,⟨false,9,0,1048576⟩,⟨false,10,0,9999⟩,⟨false,11,0,1048576⟩]
 |.c1 _=>[⟨false,12,0,39⟩,⟨false,13,0,255⟩,⟨false,14,0,1048576⟩,⟨false,15,(-1099511627776),1099511627776⟩]
 |.c2 _=>[⟨false,16,0,39⟩,⟨false,17,0,255⟩,⟨false,18,(-1099511627776),1099511627776⟩,⟨false,19,(-1099511627776),1099511627776⟩,⟨false,20,0,1099511627776⟩]
 |.c3 _=>[⟨false,21,0,39⟩,⟨false,22,0,255⟩,⟨false,23,(-1099511627776),1099511627776⟩,⟨false,24,0,39⟩,⟨false,25,0,255⟩,⟨false,26,(-1099511627776),1099511627776⟩,⟨false,27,(-1099511627776),1099511627776⟩,⟨false,28,(-1099511627776),1099511627776⟩]
 |.c4 _=>[⟨false,29,1,9999⟩,⟨false,30,0,255⟩,⟨false,31,(-1099511627776),1099511627776⟩,⟨false,32,(-1099511627776),1099511627776⟩]
 |.c5 _=>[⟨false,33,0,39⟩,⟨false,34,0,255⟩,⟨false,35,(-1099511627776),1099511627776⟩,⟨false,36,(-1099511627776),1099511627776⟩]
 |.c6 _=>[⟨false,37,1,9999⟩,⟨false,38,1,9999⟩]
 |.c7 _=>[⟨false,39,1,1048576⟩,⟨false,40,1,9999⟩,⟨false,41,0,31⟩,⟨false,42,0,255⟩]
 |.c8 _=>[⟨false,43,1,1048576⟩,⟨false,44,0,9999⟩,⟨false,45,0,1125899906842624⟩,⟨false,46,0,1⟩]
 |.c9 x=>[⟨false,47,1,1048576⟩,⟨false,48,1,2⟩,⟨false,49,1,5⟩,⟨false,50,x.1,x.2.1⟩,⟨false,51,x.2.2.1,x.2.2.2.1⟩,⟨false,52,x.2.2.2.2.1,x.2.2.2.2.2⟩]
 |.c10 _=>[⟨false,53,1,1048576⟩,⟨true,0,0,1⟩]
 |.c11 _=>[]
 |.c12 _=>[⟨false,55,0,31⟩,⟨false,56,1,1048576⟩]
 |.c13 _=>[]
def fineU(f:Fact):U_facts_open_rxk->Bool
 |.c3 _=>decide (f.Sync.Min<=f.Sync.Max)
 |.c4 _=>decide (f.Hand.Lo<=f.Hand.Hi)
 |.c5 _=>decide (f.Silence.Lo<=f.Silence.Hi)
 |.c6 _=>decide (f.Pair.A<f.Pair.B)
 |.c13 _=>false
 |_=>true
def entsS(f:Fact):List Ent:=headL++bodyL (openU f)
def goodE(e:Ent):Bool:=bif e.fl then e.off==0 else decide (e.off<57)&& !(e.off==54)
theorem Qkq(f:Fact):∀e∈entsS f,goodE e=true:=by
 have h:∀u:U_facts_open_rxk,(headL++bodyL u).all goodE=true:=by intro u;cases u<;>rfl
 exact Xs.1 (h (openU f))
theorem Qe7(f:Fact):(entsS f).length<=12:=by
 have h:∀u:U_facts_open_rxk,(headL++bodyL u).length<=12:=by intro u;cases u<;>exact XR rfl
 exact h (openU f)
def isI:Option A->Bool
 |some (.int .i64 _)=>true
 |_=>false
theorem QoQ{x:Option A}(h:isI x=true):∃v,x=some (.int .i64 v):=by
 unfold isI at h;split at h
 .exact⟨_,rfl⟩
 .cases h
theorem QlP{f:Fact}{b:Int}{e:Ent}(h:goodE e=true):∃v,Qfw (Fact.c f) b e=some v:=by
 unfold goodE at h;unfold Qfw;cases a:e.fl with
 |true=>
  rw[a]at h;simp only[Vn]at h⊢;rw[h];exact⟨b,rfl⟩
 |false=>
  rw[a]at h;simp only[Vp,XW,Vq,Bool.not_eq_true']at h⊢;have all:(List.range 57).all (λo=>(o==54)||isI (Fact.c f)[o]?)=true:=by rfl
  have:=Xs.1 all e.off (List.mem_range.2 h.1);rw[h.2,Bool.false_or]at this;obtain⟨v,d⟩:=QoQ this;rw[d];exact⟨v,rfl⟩
theorem Qlm{x:Fact}{s v:Int}{e:Ent}(h:goodE e=true):∃q,Qit Fact.put x s e v=some q:=by
 unfold goodE at h;unfold Qit;cases a:e.fl with
 |true=>
  rw[a]at h;simp only[Vn]at h⊢;rw[h];exact⟨_,rfl⟩
 |false=>
  rw[a]at h;simp only[Vp,XW,Vq,Bool.not_eq_true']at h⊢;have all:(List.range 57).all (λo=>(o==54)||(Fact.put x o v).isSome)=true:=by rfl
  have:=Xs.1 all e.off (List.mem_range.2 h.1);rw[h.2,Bool.false_or]at this;obtain⟨y,b⟩:=Option.isSome_iff_exists.1 this;rw[b];exact⟨_,rfl⟩
def getV(f:Fact)(b:Int)(e:Ent):Int:=(Qfw (Fact.c f) b e).getD 0
def putV(x:Fact)(s:Int)(e:Ent)(v:Int):Fact×Int:=(Qit Fact.put x s e v).getD (x,s)
theorem QlQ{f:Fact}{b:Int}{e:Ent}(h:goodE e=true):Qfw (Fact.c f) b e=some (getV f b e):=by
 obtain⟨v,a⟩:=QlP (f:=f) (b:=b) h;unfold getV;rw[a];rfl
theorem Qop{x:Fact}{s v:Int}{e:Ent}(h:goodE e=true):Qit Fact.put x s e v=some (putV x s e v):=by
 obtain⟨q,a⟩:=Qlm (x:=x) (s:=s) (v:=v) h;unfold putV;rw[a];rfl
def inE(f:Fact)(b:Int)(e:Ent):Bool:= !(decide (getV f b e<e.lo))&& !(decide (e.hi<getV f b e))
def numR(f:Fact)(b:Int):List Ent->List Int×Fact×Int->Ctl (List Int×Fact×Int) (List Int×Bool)
 |[],a=>.cont a
 |e::r,a=>bif inE f b e then numR f b r (a.1++[getV f b e],putV a.2.1 a.2.2 e (getV f b e))else .done ([],false)
theorem QgU{α:Type}(l m:List α)(h:l.length+m.length<=1000):app l m=some (l++m):=by
 unfold app;have:Nat.ble (l.length+m.length) Q9=true:=XS (XV h (by decide));rw[this];rfl
theorem Qnh(f:Fact)(b:Int)(E:List Ent)(hE:∀e∈E,goodE e=true)(u:E.length<=12):∀(r:List Ent) (i:Nat) (a:List Int×Fact×Int),E.drop i=r->i<=E.length->a.1.length=i->
  EvI (λn=>F_do n f b E E) (a.1,a.2.1,a.2.2,(i:Int)) (numR f b r a):=by
 intro r
 induction r with
 |nil=>
  intro i a m p g;refine Ei ?_;unfold F_do;simp only[Yp m p,Vp];exact Qa _
 |cons e r s=>
  intro i a m p j;obtain⟨g,k⟩:=QJ (by omega) m;have l:=hE e g.mem;have t:=g.lt';unfold numR;cases d:inE f b e with
  |true=>
   have h:=d;unfold inE at h;simp only[XW,Bool.not_eq_true']at h;refine Et ?_ (s (i+1) (a.1++[getV f b e],putV a.2.1 a.2.2 e (getV f b e)) k (by omega) (by simp[j]));unfold F_do;simp only[g.lt,Vn,g.ix,XJ,g.nx,QlQ l,h.1,h.2,Vp,Qop l];rw[QgU a.1 [getV f b e] (by simp;omega)];exact Qa _
  |false=>
   refine Ei ?_;unfold F_do;simp only[g.lt,Vn,g.ix,XJ,QlQ l];unfold inE at d;cases q:decide (getV f b e<e.lo)with
   |true=>exact Qa _
   |false=>
    rw[q]at d;simp only[Xh,Vz,Bool.not_eq_false']at d;simp only[Vp,d,Vn];exact Qa _
def suspB(f:Fact):Int:=bif f.Appeal.Suspends then 1 else 0
def restS(f:Fact):Fact:={Ul with Ruling:={Ur with Kind:=f.Ruling.Kind:Ruling},Kind:=f.Kind:Fact}
def lastF(f x:Fact)(s:Int):Fact:=
 let y:Fact:=bif f.Kind != 10 then {x with Ruling:={x.Ruling with Kind:=0:Ruling}:Fact}else x
 {y with Appeal:={Case:=y.Appeal.Case,Suspends:=s==1:Appeal}:Fact}
def numF(f:Fact):List Int×Bool:=bif fineU f (openU f)then(match numR f (suspB f) (entsS f) ([],restS f,0)with
  |.cont a=>(a.1,lastF f a.2.1 a.2.2==f)
  |.done r=>r)else([],false)
theorem Qkt(n:Nat)(f:Fact):F_bv n ({Ul with Ruling:={Ur with Kind:=f.Ruling.Kind:Ruling}:Fact}) 0 f=some (entsS f):=by
 have a:openU ({({Ul with Ruling:={Ur with Kind:=f.Ruling.Kind:Ruling}:Fact})with Kind:=f.Kind:Fact})=openU f:=rfl;unfold F_bv entsS;rw[Qjo];simp only[XJ];rw[a];unfold F_aq;generalize openU f=u;cases u<;>(simp only[XJ];unfold bodyL;exact congrArg (Option.bind · _) (QgU _ _ (by simp)))
theorem QjF(f:Fact):Ev (λn=>F_am n f) (numF f):=by
 unfold F_am;refine Ea (v:=suspB f) ?_ ?_
 .unfold suspB;cases f.Appeal.Suspends<;>exact Qa _
 refine Ea (v:=bif fineU f (openU f)then .cont (bodyL (openU f))else .done ([],false)) ?_ ?_
 .simp only[Qjo,XJ];unfold F_c F_fp F_dh F_eo F_ez;generalize openU f=u;cases u with
  |c3=>unfold fineU;cases decide (f.Sync.Min<=f.Sync.Max)<;>exact Qa _
  |c4=>unfold fineU;cases decide (f.Hand.Lo<=f.Hand.Hi)<;>exact Qa _
  |c5=>unfold fineU;cases decide (f.Silence.Lo<=f.Silence.Hi)<;>exact Qa _
  |c6=>unfold fineU;cases decide (f.Pair.A<f.Pair.B)<;>exact Qa _
  |_=>exact Qa _
 unfold numF;cases fineU f (openU f)with
 |false=>exact Qa _
 |true=>
  simp only[Vn];have e:app headL (bodyL (openU f))=some (entsS f):=QgU _ _ (by have:=Qe7 f;unfold entsS at this;rw[X2]at this;omega);unfold F_aq;simp only[XJ];refine Ea (Ex e) ?_;refine Ea (Ex (Qkt 0 f)) ?_;refine Ea (Qnh f (suspB f) (entsS f) (Qkq f) (Qe7 f) (entsS f) 0 ([],restS f,0) rfl (XU _) rfl).ev ?_;cases numR f (suspB f) (entsS f) ([],restS f,0)with
  |done r=>exact Qa _
  |cont a=>
   simp only;refine Ea (v:=bif f.Kind != 10 then {a.2.1 with Ruling:={a.2.1.Ruling with Kind:=0:Ruling}:Fact}else a.2.1) ?_ (Qa _);cases(f.Kind != 10)<;>exact Qa _
def validS(f:Fact):Bool:=(numF f).2
theorem Qfy(f:Fact):Ev (λn=>F_bk n f) (bif validS f then 0 else 120):=by
 unfold F_bk;refine Ea (QjF f) ?_;unfold validS;cases(numF f).2<;>exact Qa _
theorem Qii{f:Fact}(h:validS f=true):(f.Kind==0)=false:=by
 cases q:(f.Kind==0)with
 |false=>rfl
 |true=>
  have a:f.Kind=0:=by simpa using q
  have b:openU f=.c13 ():=by unfold openU;rw[a];rfl
  unfold validS numF at h;rw[b]at h;cases h
set_option maxRecDepth 4000
def numN(v:Nat):List Int:=if h:128<=v then orI .u8 (IntKind.u8.wrap (v:Int)) 128::numN (v/128)else[IntKind.u8.wrap (v:Int)]
termination_by v
decreasing_by omega
theorem QeH{v:Nat}(h:128<=v):numN v=orI .u8 (IntKind.u8.wrap (v:Int)) 128::numN (v/128):=by
 rw[numN,dif_pos h]
theorem QaI{v:Nat}(h:¬128<=v):numN v=[IntKind.u8.wrap (v:Int)]:=by
 rw[numN,dif_neg h]
theorem shr7(v:Nat):QY .u64 (v:Int) 7=((v/128:Nat):Int):=by
 show Int.fdiv (v:Int) (2^7)=_;rw[Int.fdiv_eq_ediv_of_nonneg _ (by decide)];omega
theorem QlE:∀(k v:Nat),v<128^(k+1)->(numN v).length<=k+1:=by
 intro k
 induction k with
 |zero=>
  intro v a;rw[QaI (by omega)];simp
 |succ k b=>
  intro v a;by_cases h:128<=v
  .rw[QeH h,XZ];have:=b (v/128) (by rw[Nat.div_lt_iff_lt_mul (by decide)];rw[Nat.pow_succ]at a;exact a);omega
  .rw[QaI h];simp
theorem Qgv:∀(k v:Nat) (l:List Int),v<128^(k+1)->l.length+k<4294967296->∃(l':List Int) (a:Nat),EvI (λn=>F_fb n) (l,(v:Int)) (l',(a:Int))/\l'++[IntKind.u8.wrap (a:Int)]=l++numN v/\l'.length<=l.length+k:=by
 intro k
 induction k with
 |zero=>
  intro v l b d;refine⟨l,v,Ei ?_,by rw[QaI (by omega)],XT _⟩;unfold F_fb;simp only[QP (show¬(128:Int)<=(v:Int)by omega),Vp];exact Qa _
 |succ k f=>
  intro v l b d;by_cases h:128<=v
  .obtain⟨l',a,i,e,g⟩:=f (v/128) (l++[orI .u8 (IntKind.u8.wrap (v:Int)) 128]) (by rw[Nat.div_lt_iff_lt_mul (by decide)];rw[Nat.pow_succ]at b;exact b) (by simp;omega);refine⟨l',a,Et ?_ i,?_,?_⟩
   .unfold F_fb;simp only[QT (show(128:Int)<=(v:Int)by omega),Vn,shr7];rw[Qbp l _ (by omega)];exact Qa _
   .rw[e,QeH h];simp
   .simp at g;omega
  .refine⟨l,v,Ei ?_,by rw[QaI h],by omega⟩;unfold F_fb;simp only[QP (show¬(128:Int)<=(v:Int)by omega),Vp];exact Qa _
theorem Qe4(v:Nat)(l:List Int)(b:v<18446744073709551616)(f:l.length<=1000000):Ev (λn=>F_y n l (v:Int)) (l++numN v):=by
 obtain⟨a,g,e,d,h⟩:=Qgv 9 v l (Ve b (by decide)) (by omega);unfold F_y;refine Ea e.ev ?_;simp only;rw[Qbp a _ (by omega),d];exact Qa _
theorem QeF{v:Nat}(hv:v<18446744073709551616):(numN v).length<=10:=QlE 9 v (Ve hv (by decide))
def zigI(x:Int):Int:=Qek .u64 (Qer .u64 (IntKind.u64.wrap x) 1) (IntKind.u64.wrap (QY .i64 x 63))
theorem wrapU(x:Int):0<=IntKind.u64.wrap x/\IntKind.u64.wrap x<18446744073709551616:=by
 have e:IntKind.u64.wrap x=x%18446744073709551616:=by
  unfold IntKind.wrap;rfl
 rw[e];omega
theorem Qgk(x:Int):∃z:Nat,zigI x=(z:Int)/\z<18446744073709551616:=by
 have h:=wrapU ((BitVec.ofInt IntKind.u64.bits (Qer .u64 (IntKind.u64.wrap x) 1)^^^BitVec.ofInt IntKind.u64.bits (IntKind.u64.wrap (QY .i64 x 63))).toNat);refine⟨(zigI x).toNat,?_,?_⟩
 .unfold zigI Qek;omega
 .unfold zigI Qek;omega
def oneB(x:Int):List Int:=1::numN (zigI x).toNat
theorem Qhl(x:Int):(oneB x).length<=11:=by
 obtain⟨z,b,a⟩:=Qgk x;unfold oneB;rw[b];have:=QeF a;simp;omega
theorem QhK(l:List Int)(x:Int)(e:l.length<=100000):Ev (λn=>F_ap n l ({Kind:=1,N:=x,S:=[],L:=[]:Value})) (l++oneB x):=by
 unfold F_ap F_aw;rw[Qbp l 1 (by omega)];simp only[XJ];obtain⟨z,b,d⟩:=Qgk x;have a:=b;unfold zigI at a;rw[a];refine Ea (Qe4 z (l++[1]) d (by simp;omega)) ((Qa _).eq ?_);unfold oneB;rw[b];simp
def mkV(x:Int):Value:={Kind:=1,N:=x,S:=[],L:=[]:Value}
def listV(l:List Int):Value:={Kind:=3,N:=0,S:=[],L:=l.map mkV:Value}
theorem QiE(x:Int):Ev (λn=>F_j n (mkV x)) (0,true):=by
 refine Y5 ?_;show Ev (λn=>B_j (F_j n) n (mkV x)) _;unfold B_j mkV;simp only;cases(x==0)with
 |true=>exact Qa _
 |false=>exact Qa _
theorem Qhx(l:List Int)(f:l.length<=1000):Ev (λn=>F_j n (listV l)) (1,true):=by
 refine Y5 ?_;show Ev (λn=>B_j (F_j n) n (listV l)) _;unfold B_j listV;simp only;refine Ea (v:=[false,(((l.map mkV).length:Int)==0),(((l.map mkV).length:Int)==0),true]) (Qa _) ?_;refine Ea (v:=false) (Qa _) ?_;refine Ea (v:=(Ctl.cont (0:Int):Ctl Int (Int×Bool))) ?_ (Qa _);refine Ev.iter (λi=>((0:Int),(i:Int))) (l.map mkV).length rfl (λi d=>?_) ?_
 .have a:=Jo (x:=(l.map mkV)[i]) (show(l.map mkV).length<=4611686018427387904 by rw[X0];omega) (XK d);have b:∃y,(l.map mkV)[i]=mkV y:=by
   rw[List.getElem_map];exact⟨_,rfl⟩
  obtain⟨y,e⟩:=b;unfold F_hf;simp only[a.lt,Vn,a.ix,XJ,a.nx];rw[e];exact Ea (QiE y) (Qa _)
 .unfold F_hf;simp only[QcH,Vp];exact Qa _
def listB(l:List Int):List Int:=[3]++numN l.length++(l.map oneB).flatten
theorem QgI(l:List Int)(z:l.length<=1000):Ev (λn=>F_be n (listV l)) (listB l):=by
 unfold F_be;have q:app ([]:List Int) [3]=some [3]:=rfl;rw[q];simp only[XJ];have w:IntKind.u64.wrap (((listV l).L.length:Int))=((l.length:Nat):Int):=by
  have:IntKind.u64.wrap (((listV l).L.length:Int))=(((listV l).L.length:Int))%18446744073709551616:=by unfold IntKind.wrap;rfl
  rw[this];unfold listV;rw[X0];omega
 rw[w];have p:=QeF (show l.length<18446744073709551616 by omega);refine Ea (Qe4 l.length [3] (by omega) (by simp)) ?_;refine Ea (v:=listB l) ?_ (Qa _);have k:∀m:List Int,(m.map oneB).flatten.length<=11*m.length:=by
  intro m
  induction m with
  |nil=>simp
  |cons x m e=>
   have:=Qhl x;simp only[Vi,Vk,X2,XZ];omega
 have h:=Jn (step:=λn=>F_gn n (listV l)) (l.map mkV) (λ(a:List Int) (v:Value)=>a++oneB v.N) ([3]++numN l.length) (λa i=>(a,(i:Int))) (λa=>a) (by rw[X0];omega) rfl (λi x a d r=>?_) ?_
 .refine Ev.eq h ?_;have:∀(m:List Int) (a:List Int),(m.map mkV).foldl (λ(a:List Int) (v:Value)=>a++oneB v.N) a=a++(m.map oneB).flatten:=by
   intro m
   induction m with
   |nil=>intro a;simp
   |cons x m e=>intro a;simp only[Vi,XD,Vk];rw[e];simp[mkV]
  rw[this];rfl
 .have t:∃y,x=mkV y:=by
   obtain⟨y,_,s⟩:=Xe.1 d.mem;exact⟨y,s.symm⟩
  obtain⟨y,rfl⟩:=t;have f:a.length<=100000:=by
   have:∀(m:List Int) (a:List Int),((m.map mkV).foldl (λ(a:List Int) (v:Value)=>a++oneB v.N) a).length<=a.length+11*m.length:=by
    intro m
    induction m with
    |nil=>intro a;simp
    |cons x m e=>
     intro a;simp only[Vi,XD,XZ];have u:=e (a++oneB (mkV x).N);have g:=Qhl (mkV x).N;rw[X2]at u;omega
   have g:=this (l.take i) ([3]++numN l.length);rw[List.map_take, <- r,X2,Xy]at g;simp at g;omega
  unfold F_gn;have b:decide ((i:Int)<((listV l).L.length:Int))=true:=d.lt;have j:idx (listV l).L (i:Int)=some (mkV y):=d.ix;simp only[b,Vn,j,XJ,d.nx];refine Ea (QhK a y f) ?_;exact Qa _
 .unfold F_gn;have b:decide (((l.map mkV).length:Int)<((listV l).L.length:Int))=false:=QcH _;simp only[b,Vp];exact Qa _
theorem QlD{f:Fact}{b:Int}:∀(r:List Ent) (a c:List Int×Fact×Int),numR f b r a=.cont c->c.1.length=a.1.length+r.length:=by
 intro r
 induction r with
 |nil=>intro a c h;cases h;rfl
 |cons e r d=>
  intro a c h;unfold numR at h;cases q:inE f b e with
  |false=>rw[q]at h;cases h
  |true=>
   rw[q]at h;have:=d _ _ h;simp at this;rw[this,XZ];omega
theorem QlF(f:Fact):(numF f).1.length<=12:=by
 unfold numF;cases fineU f (openU f)with
 |false=>simp
 |true=>
  simp only[Vn];cases h:numR f (suspB f) (entsS f) ([],restS f,0)with
  |cont a=>
   have:=QlD _ _ _ h;have:=Qe7 f;simp at*;omega
  |done r=>
   have:∀(E:List Ent) (a:List Int×Fact×Int),numR f (suspB f) E a=.done r->r=([],false):=by
    intro E
    induction E with
    |nil=>intro a h;cases h
    |cons e E ih=>
     intro a h;unfold numR at h;cases q:inE f (suspB f) e with
     |false=>rw[q]at h;cases h;rfl
     |true=>rw[q]at h;exact ih _ h
   rw[this _ _ h];simp
def encF(f:Fact):List Int×Int:=bif validS f then(listB (numF f).1,0)else([],120)
theorem Qf0(f:Fact):Ev (λn=>F_ak n f) (encF f):=by
 unfold F_ak;refine Ea (QjF f) ?_;have l:=QlF f;unfold encF validS;generalize numF f=r at*;cases h:r.2 with
 |false=>exact Qa _
 |true=>
  simp only[Xg,Vp,Vn];refine Ea (v:=r.1.map mkV) ?_ ?_
  .refine Ev.eq (Jn r.1 (λ(a:List Value) (x:Int)=>a++[mkV x]) [] (λa i=>(a,(i:Int))) (λa=>a) (by omega) rfl (λi x a b j=>?_) ?_) ?_
   .unfold F_he;simp only[b.lt,Vn,b.ix,XJ,b.nx];have g:a.length<=12:=by
     have:∀(m:List Int) (a:List Value),(m.foldl (λ(a:List Value) (x:Int)=>a++[mkV x]) a).length=a.length+m.length:=by
      intro m
      induction m with
      |nil=>intro a;simp
      |cons x m d=>intro a;simp only[XD,XZ];rw[d];simp;omega
     rw[j,this,Xy];simp;omega
    have e:=Qbp a (mkV x) (by omega);unfold mkV at e;rw[e];exact Qa _
   .unfold F_he;simp only[QcH,Vp];exact Qa _
   .have:∀(m:List Int) (a:List Value),m.foldl (λ(a:List Value) (x:Int)=>a++[mkV x]) a=a++m.map mkV:=by
     intro m
     induction m with
     |nil=>intro a;simp
     |cons x m d=>intro a;simp only[XD,Vi];rw[d];simp
    rw[this];rfl
  refine Ea (v:=(listB r.1,0)) ?_ (Qa _);have k:=Qhx r.1 (by omega);unfold F_ex F_fg;have e:({Kind:=3,N:=0,S:=[],L:=r.1.map mkV:Value})=listV r.1:=rfl;rw[e];refine Ea (v:=0) (Ea k (Qa _)) ?_;unfold F_ds;exact Ea (QgI r.1 (by omega)) (Qa _)
def cmpI(a b:Int):Int:=bif decide (a<b)then-1 else bif decide (b<a)then 1 else 0
theorem QjG(n:Nat)(a b:Int):F_l n a b=some (cmpI a b):=by
 unfold F_l F_ax cmpI;simp only[XJ,bne_self_eq_false,Vp];cases decide (a<b)with
 |true=>rfl
 |false=>cases decide (b<a)<;>rfl
def orL:List Int->Int
 |[]=>0
 |x::r=>bif x != 0 then x else orL r
theorem Qn1(l:List Int)(k:l.length<=1000):Ev (λn=>F_ar n l) (orL l):=by
 unfold F_ar;have loop:∀(r:List Int) (i:Nat),l.drop i=r->i<=l.length->EvI (λn=>F_fy n l) (i:Int) (bif orL r==0 then Ctl.cont ()else Ctl.done (orL r)):=by
  intro r
  induction r with
  |nil=>
   intro i d f;refine Ei ?_;unfold F_fy;simp only[Yp d f,Vp];exact Qa _
  |cons x r g=>
   intro i d f;obtain⟨a,b⟩:=QJ (by omega) d;have j:=a.lt';unfold orL;cases q:(x != 0)with
   |true=>
    have e:(x==0)=false:=by simpa[bne]using q
    simp only[Vn,e,Vp];refine Ei ?_;unfold F_fy;simp only[a.lt,Vn,a.ix,XJ,q];exact Qa _
   |false=>
    simp only[Vp];refine Et ?_ (g (i+1) b (by omega));unfold F_fy;simp only[a.lt,Vn,a.ix,XJ,q,Vp,a.nx];exact Qa _
 refine Ea (loop l 0 rfl (XU _)).ev ?_;cases h:(orL l==0)with
 |true=>
  have e:orL l=0:=by simpa using h
  rw[e];exact Qa _
 |false=>exact Qa _
def cmpF(f g:Fact):Int:=bif orL [cmpI f.At g.At,cmpI f.Crew g.Crew,cmpI f.No g.No] != 0 then orL [cmpI f.At g.At,cmpI f.Crew g.Crew,cmpI f.No g.No]else cmpB (encF f).1 (encF g).1
theorem QiL(f g:Fact):Ev (λn=>F_cx n f g) (cmpF f g):=by
 unfold F_cx cmpF;simp only[QjG,XJ];refine Ea (Qn1 _ (by simp)) ?_;cases(orL [cmpI f.At g.At,cmpI f.Crew g.Crew,cmpI f.No g.No] != 0)with
 |true=>exact Qa _
 |false=>
  simp only[Vp];refine Ea (Qf0 f) (Ea (Qf0 g) ?_);exact Qa _
theorem Qnq{n:Nat}(h:n<=1048576):Nat.ble n Q9=true:=XS (XV h (by decide))
theorem Qpb{a b:Int}:cmpI a b=0↔a=b:=by
 unfold cmpI;by_cases h:a<b
 .rw[Vt h];simp;omega
 .rw[Vw h];by_cases d:b<a
  .rw[Vt d];simp;omega
  .rw[Vw d];simp;omega
set_option maxRecDepth 4000
theorem Qng(f:Fact)(b:Int):∀(E:List Ent) (a:List Int×Fact×Int),numR f b E a=bif E.all (inE f b)then .cont (a.1++E.map (getV f b),E.foldl (λp e=>putV p.1 p.2 e (getV f b e)) a.2)else .done ([],false):=by
 intro E
 induction E with
 |nil=>intro a;simp[numR]
 |cons e E ih=>
  intro a;unfold numR;rw[List.all_cons];cases h:inE f b e with
  |false=>rfl
  |true=>
   simp only[Vn,Vz,Vi,XD];rw[ih];simp
def onlyS(f:Fact):Fact:={Crew:=f.Crew,No:=f.No,At:=f.At,Kind:=f.Kind,Starter:=(bif f.Kind==1 then f.Starter else Ul.Starter),Read:=(bif f.Kind==2 then f.Read else Ul.Read),Beacon:=(bif f.Kind==3 then f.Beacon else Ul.Beacon),Sync:=(bif f.Kind==4 then f.Sync else Ul.Sync),Hand:=(bif f.Kind==5 then f.Hand else Ul.Hand),Silence:=(bif f.Kind==6 then f.Silence else Ul.Silence),Pair:=(bif f.Kind==7 then f.Pair else Ul.Pair),Report:=(bif f.Kind==8 then f.Report else Ul.Report),Protest:=(bif f.Kind==9 then f.Protest else Ul.Protest),Ruling:=(bif f.Kind==10 then f.Ruling else Ul.Ruling),Appeal:=(bif f.Kind==11 then f.Appeal else Ul.Appeal),Void:=(bif f.Kind==13 then f.Void else Ul.Void):Fact}
def numsS(f:Fact):List Int:=[f.Kind,f.Crew,f.No,f.At]++(
 bif f.Kind==1 then[f.Starter.Bib,f.Starter.Distance,f.Starter.Wave,f.Starter.Slot,f.Starter.Age,f.Starter.Chip,f.Starter.Team,f.Starter.Lot]
 else bif f.Kind==2 then[f.Read.Mat,f.Read.Epoch,f.Read.Chip,f.Read.Local]
 else bif f.Kind==3 then[f.Beacon.Mat,f.Beacon.Epoch,f.Beacon.Local,f.Beacon.True,f.Beacon.Err]
 else bif f.Kind==4 then[f.Sync.MatA,f.Sync.EpochA,f.Sync.LocalA,f.Sync.MatB,f.Sync.EpochB,f.Sync.LocalB,f.Sync.Min,f.Sync.Max]
 else bif f.Kind==5 then[f.Hand.Bib,f.Hand.Position,f.Hand.Lo,f.Hand.Hi]
 else bif f.Kind==6 then[f.Silence.Mat,f.Silence.Epoch,f.Silence.Lo,f.Silence.Hi]
 else bif f.Kind==7 then[f.Pair.A,f.Pair.B]
 else bif f.Kind==8 then[f.Report.Case,f.Report.Bib,f.Report.Offence,f.Report.Position]
 else bif f.Kind==9 then[f.Protest.Case,f.Protest.By,f.Protest.Fee,f.Protest.Form]
 else bif f.Kind==10 then[f.Ruling.Case,f.Ruling.Instance,f.Ruling.Kind,f.Ruling.Bib,f.Ruling.Position,f.Ruling.Amount]
 else bif f.Kind==11 then[f.Appeal.Case,suspB f]
 else bif f.Kind==13 then[f.Void.Crew,f.Void.No]else[])
theorem kinds(f:Fact):f.Kind=1\/f.Kind=2\/f.Kind=3\/f.Kind=4\/f.Kind=5\/f.Kind=6\/f.Kind=7\/f.Kind=8\/f.Kind=9\/f.Kind=10\/f.Kind=11\/f.Kind=12\/f.Kind=13\/openU f=.c13 ():=by
 by_cases p:f.Kind=1; · exact .inl p
 by_cases h:f.Kind=2; · exact .inr (.inl h)
 by_cases n:f.Kind=3; · exact .inr (.inr (.inl n))
 by_cases m:f.Kind=4; · exact .inr (.inr (.inr (.inl m)))
 by_cases g:f.Kind=5; · exact .inr (.inr (.inr (.inr (.inl g))))
 by_cases j:f.Kind=6; · exact .inr (.inr (.inr (.inr (.inr (.inl j)))))
 by_cases i:f.Kind=7; · exact .inr (.inr (.inr (.inr (.inr (.inr (.inl i))))))
 by_cases k:f.Kind=8; · exact .inr (.inr (.inr (.inr (.inr (.inr (.inr (.inl k)))))))
 by_cases l:f.Kind=9; · exact .inr (.inr (.inr (.inr (.inr (.inr (.inr (.inr (.inl l))))))))
 by_cases d:f.Kind=10; · exact .inr (.inr (.inr (.inr (.inr (.inr (.inr (.inr (.inr (.inl d)))))))))
 by_cases b:f.Kind=11; · exact .inr (.inr (.inr (.inr (.inr (.inr (.inr (.inr (.inr (.inr (.inl b))))))))))
 by_cases e:f.Kind=12; · exact .inr (.inr (.inr (.inr (.inr (.inr (.inr (.inr (.inr (.inr (.inr (.inl e)))))))))))
 by_cases a:f.Kind=13; · exact .inr (.inr (.inr (.inr (.inr (.inr (.inr (.inr (.inr (.inr (.inr (.inr (.inl a))))))))))))
 refine .inr (.inr (.inr (.inr (.inr (.inr (.inr (.inr (.inr (.inr (.inr (.inr (.inr ?_))))))))))));unfold openU;simp only[Vy.2 p,Vy.2 h,Vy.2 n,Vy.2 m,Vy.2 g,Vy.2 j,Vy.2 i,Vy.2 k,Vy.2 l,Vy.2 d,Vy.2 b,Vy.2 e,Vy.2 a,Vp]
def copyS(f:Fact):Fact×Int:=(entsS f).foldl (λp e=>putV p.1 p.2 e (getV f (suspB f) e)) (restS f,0)
theorem Qgw(f:Fact):numF f=bif fineU f (openU f)then(bif (entsS f).all (inE f (suspB f))then((entsS f).map (getV f (suspB f)),lastF f (copyS f).1 (copyS f).2==f)else([],false))else([],false):=by
 unfold numF;rw[Qng];cases fineU f (openU f)with
 |false=>rfl
 |true=>
  simp only[Vn];cases(entsS f).all (inE f (suspB f))with
  |false=>rfl
  |true=>simp only[Vn,Vg];rfl
theorem Qdk(f:Fact)(h:¬openU f=.c13 ()):lastF f (copyS f).1 (copyS f).2=onlyS f/\(entsS f).map (getV f (suspB f))=numsS f:=by
 rcases kinds f with k|k|k|k|k|k|k|k|k|k|k|k|k|k
 case inr.inr.inr.inr.inr.inr.inr.inr.inr.inr.inl=>
  obtain⟨Cr,No,At,Ki,S,R,B,Sy,Ha,Si,Pa,Re,Pr,Ru,⟨Ca,Su⟩,Vo⟩:=f;simp only at k;subst k;cases Su<;>exact⟨by kernel_rfl,by kernel_rfl⟩
 case inr.inr.inr.inr.inr.inr.inr.inr.inr.inl=>
  obtain⟨Cr,No,At,Ki,S,R,B,Sy,Ha,Si,Pa,Re,Pr,⟨j,e,a,g,i,b⟩,Ap,Vo⟩:=f;simp only at k;subst k;have:∃x,openU ⟨Cr,No,At,10,S,R,B,Sy,Ha,Si,Pa,Re,Pr,⟨j,e,a,g,i,b⟩,Ap,Vo⟩=.c9 x:=by
   unfold openU;show∃x,(bif (a==1)||(a==2)then U_facts_open_rxk.c9 (0,0,0,0,0,0)else bif a==3 then .c9 (1,9999,0,255,1,1099511627776)else bif a==4 then .c9 (1,9999,0,255,1,64)else .c9 (1,9999,0,255,0,0))=.c9 x;cases((a==1)||(a==2))with
   |true=>exact⟨_,rfl⟩
   |false=>
    cases(a==3)with
    |true=>exact⟨_,rfl⟩
    |false=>cases(a==4)<;>exact⟨_,rfl⟩
  obtain⟨x,d⟩:=this;unfold copyS entsS;rw[d];exact⟨by kernel_rfl,by kernel_rfl⟩
 case inr.inr.inr.inr.inr.inr.inr.inr.inr.inr.inr.inr.inr=>exact absurd k h
 all_goals
  obtain⟨Cr,No,At,Ki,S,R,B,Sy,Ha,Si,Pa,Re,Pr,Ru,Ap,Vo⟩:=f;simp only at k;subst k;exact⟨by kernel_rfl,by kernel_rfl⟩
def contS(f:Fact):Bool:=fineU f (openU f)&&(bodyL (openU f)).all (inE f (suspB f))
def headS(f:Fact):Bool:=headL.all (inE f (suspB f))
theorem Qc2(f:Fact):validS f=(headS f&&contS f&&(onlyS f==f)):=by
 unfold validS contS headS;rw[Qgw];by_cases h:openU f=.c13 ()
 .have:fineU f (openU f)=false:=by rw[h];rfl
  rw[this];simp
 .obtain⟨a,b⟩:=Qdk f h;rw[a];unfold entsS;rw[List.all_append];cases fineU f (openU f)with
  |false=>simp
  |true=>
   cases headL.all (inE f (suspB f))with
   |false=>rfl
   |true=>cases(bodyL (openU f)).all (inE f (suspB f))<;>rfl
theorem Qih{f:Fact}(h:validS f=true):(numF f).1=numsS f:=by
 have g:=h;unfold validS at h;rw[Qgw]at h⊢;by_cases q:openU f=.c13 ()
 .have:fineU f (openU f)=false:=by rw[q];rfl
  rw[this]at h;cases h
 .obtain⟨e,d⟩:=Qdk f q;cases a:fineU f (openU f)with
  |false=>rw[a]at h;cases h
  |true=>
   rw[a]at h;cases b:(entsS f).all (inE f (suspB f))with
   |false=>rw[b]at h;cases h
   |true=>exact d
theorem Qel{f:Fact}(h:validS f=true):onlyS f=f:=by
 rw[Qc2]at h;simp only[XW,Vx]at h;exact h.2
theorem QlC{f g:Fact}(a:validS f=true)(hg:validS g=true)(h:numsS f=numsS g):f=g:=by
 have p:=Qel a;have e:=Qel hg;rw[<- p, <- e];unfold numsS at h;have l:f.Kind=g.Kind:=by
  simp only[VJ,List.cons.injEq]at h;exact h.1
 have G:=Qii a;rcases kinds f with k|k|k|k|k|k|k|k|k|k|k|k|k|k
 case inr.inr.inr.inr.inr.inr.inr.inr.inr.inr.inr.inr.inr=>
  rw[Qc2]at a;unfold contS at a;rw[k]at a;simp[fineU]at a
 all_goals
  have n:=l.symm.trans k;clear a hg l G p e;obtain⟨Cr,No,At,Ki,⟨s1,s2,s3,s4,s5,s6,s7,s8⟩,⟨X,ao,ag,Y⟩,⟨b1,b2,b3,b4,b5⟩,⟨y1,y2,y3,y4,y5,y6,y7,y8⟩,⟨h1,h2,h3,h4⟩,⟨i1,i2,i3,i4⟩,⟨p1,p2⟩,⟨u1,u2,u3,u4⟩,⟨o1,o2,o3,o4⟩,⟨r1,r2,r3,r4,r5,r6⟩,⟨a1,N⟩,⟨v1,v2⟩⟩:=f;obtain⟨Cr',No',At',Ki',⟨s,H,ak,ab,u,az,aa,J⟩,⟨m,i,d,j⟩,⟨af,ac,R,B,an⟩,⟨a0,ay,aq,M,x,z,r,ae⟩,⟨aj,w,V,a3⟩,⟨P,aw,E,ar⟩,⟨L,au⟩,⟨ax,T,y,W⟩,⟨t,av,al,ah⟩,⟨F,am,a4,ai,ad,O⟩,⟨q,b⟩,⟨Q,a5⟩⟩:=g;simp only at k n;subst k;subst n
  first
   |(simp[suspB]at h;simp[onlyS,h];done)
   |(cases N<;>cases b<;>simp[suspB]at h<;>simp[onlyS,h])
set_option maxRecDepth 4000
theorem Qgm(x:Int):IntKind.u64.wrap x=x%18446744073709551616:=by unfold IntKind.wrap;rfl
theorem Qif(x:Int):IntKind.u8.wrap x=x%256:=by unfold IntKind.wrap;rfl
theorem or8(a b:Int):orI .u8 a b=(((BitVec.ofInt 8 a|||BitVec.ofInt 8 b).toNat:Nat):Int)%256:=by unfold orI;exact Qif _
theorem QnN(a b:Int):Qek .u64 a b=(((BitVec.ofInt 64 a^^^BitVec.ofInt 64 b).toNat:Nat):Int)%18446744073709551616:=by unfold Qek;exact Qgm _
theorem or128(v:Nat):orI .u8 (IntKind.u8.wrap (v:Int)) 128=((v%128+128:Nat):Int):=by
 have a:∀m:Fin 256,((BitVec.ofNat 8 m.val|||128#8).toNat)=m.val%128+128:=by decide
 have d:v%256<256:=Nat.mod_lt _ (by decide);have k:(BitVec.ofNat 8 (v%256)|||128#8).toNat=v%256%128+128:=a ⟨v%256,d⟩;have e:BitVec.ofInt 8 ((v:Int)%256)=BitVec.ofNat 8 (v%256):=by
  have:((v:Int)%256)=((v%256:Nat):Int):=by omega
  rw[this];exact BitVec.ofInt_natCast 8 (v%256)
 have b:BitVec.ofInt 8 128=128#8:=by rfl
 rw[or8,Qif,e,b,k];omega
theorem Qdf(v:Nat):numN v=if 128<=v then((v%128+128:Nat):Int)::numN (v/128)else[(v:Int)]:=by
 by_cases h:128<=v
 .rw[QeH h,Vs h,or128]
 .rw[QaI h,Vr h,Qif];congr 1;omega
theorem Qhm:∀(v w:Nat) (a b:List Int),numN v++a=numN w++b->v=w/\a=b:=by
 intro v
 induction v using Nat.strongRecOn with
 |_ v g=>
 intro w a b h;rw[Qdf v,Qdf w]at h;by_cases e:128<=v
 .rw[Vs e]at h;by_cases d:128<=w
  .rw[Vs d]at h;simp only[VJ,List.cons.injEq]at h;obtain⟨i,f⟩:=g (v/128) (by omega) (w/128) a b h.2;exact⟨by omega,f⟩
  .rw[Vr d]at h;simp only[VJ,List.cons.injEq]at h;omega
 .rw[Vr e]at h;by_cases d:128<=w
  .rw[Vs d]at h;simp only[VJ,List.cons.injEq]at h;omega
  .rw[Vr d]at h;simp only[VJ,List.cons.injEq,Vg]at h;exact⟨by omega,h.2⟩
theorem QeG:∀(v:Nat),∀x∈numN v,0<=x/\x<256:=by
 intro v
 induction v using Nat.strongRecOn with
 |_ v d=>
 intro x a;rw[Qdf v]at a;by_cases b:128<=v
 .rw[Vs b]at a;rcases X5.1 a with rfl|a
  .omega
  .exact d (v/128) (by omega) x a
 .rw[Vr b]at a;rcases X5.1 a with rfl|a
  .omega
  .cases a
theorem Qgj{x:Int}(f:0<=x)(e:x<9223372036854775808):zigI x=2*x:=by
 unfold zigI Qer;have d:QY .i64 x 63=0:=by
  show Int.fdiv x (2^63)=0;rw[Int.fdiv_eq_ediv_of_nonneg _ (by decide)];omega
 have a:(2:Int)^(min (1:Int).toNat IntKind.u64.bits)=2:=by decide
 rw[d,a,QnN];simp only[Qgm];have b:BitVec.ofInt 64 ((0:Int)%18446744073709551616)=0#64:=by rfl
 rw[b,BitVec.xor_zero,BitVec.toNat_ofInt];omega
theorem Qgl{x:Int}(f:x<0)(e: -9223372036854775808<=x):zigI x= -2*x-1:=by
 unfold zigI Qer;have d:QY .i64 x 63= -1:=by
  show Int.fdiv x (2^63)= -1;rw[Int.fdiv_eq_ediv_of_nonneg _ (by decide)];omega
 have a:(2:Int)^(min (1:Int).toNat IntKind.u64.bits)=2:=by decide
 rw[d,a,QnN];simp only[Qgm];have b:BitVec.ofInt 64 ((-1:Int)%18446744073709551616)=BitVec.allOnes 64:=by decide
 rw[b,BitVec.xor_allOnes,BitVec.toNat_not,BitVec.toNat_ofInt];omega
def in63(x:Int):Prop:= -9223372036854775808<=x/\x<9223372036854775808
theorem Qm4{x y:Int}(e:in63 x)(f:in63 y)(h:zigI x=zigI y):x=y:=by
 obtain⟨a,b⟩:=e;obtain⟨c,d⟩:=f;by_cases p:0<=x
 .rw[Qgj p b]at h;by_cases q:0<=y
  .rw[Qgj q d]at h;omega
  .rw[Qgl (by omega) c]at h;omega
 .rw[Qgl (by omega) a]at h;by_cases q:0<=y
  .rw[Qgj q d]at h;omega
  .rw[Qgl (by omega) c]at h;omega
theorem Qhk:∀(l m:List Int),l.length=m.length->(∀x∈l,in63 x)->(∀x∈m,in63 x)->(l.map oneB).flatten=(m.map oneB).flatten->l=m
 |[],[],_,_,_,_=>rfl
 |x::l,y::m,hl,h1,h2,h=>by
  simp only[Vi,Vk,oneB,VJ,List.cons.injEq,true_and]at h;obtain⟨e1,e2⟩:=Qhm _ _ _ _ h;obtain⟨z,p1,p2⟩:=Qgk x;obtain⟨z',q1,q2⟩:=Qgk y;rw[p1,q1]at e1;have:x=y:=Qm4 (h1 x (by simp)) (h2 y (by simp)) (by rw[p1,q1]at*;simp only[Int.toNat_natCast]at e1;omega);rw[this,Qhk l m (by simpa using hl) (λz hz=>h1 z (by simp[hz])) (λz hz=>h2 z (by simp[hz])) e2]
theorem Qkd{l m:List Int}(d:∀x∈l,in63 x)(b:∀x∈m,in63 x)(h:listB l=listB m):l=m:=by
 unfold listB at h;rw[Vh,Vh]at h;simp only[VJ,Vg,List.cons.injEq,true_and]at h;obtain⟨e,a⟩:=Qhm _ _ _ _ h;exact Qhk l m e d b a
theorem QdI(l:List Int):∀x∈listB l,0<=x/\x<256:=by
 intro x a;unfold listB at a;simp only[VC,VA,List.mem_flatten,Xe]at a;rcases a with(rfl|a)|⟨m,⟨y,_,rfl⟩,a⟩
 .omega
 .exact QeG _ x a
 .unfold oneB at a;rcases X5.1 a with rfl|a
  .omega
  .exact QeG _ x a
structure CmpOK {α:Type} (c:α->α->Int):Prop where
 swap:∀x y,c y x= -c x y
 trans:∀x y z,c x y<0->c y z<0->c x z<0
 eqt:∀x y z,c x y=0->c x z=c y z
section
variable {α:Type} {c d:α->α->Int}
theorem CmpOK.refl(h:CmpOK c)(x:α):c x x=0:=by have:=h.swap x x;omega
theorem CmpOK.eqr(h:CmpOK c){x y:α}(z:α)(e:c x y=0):c z x=c z y:=by
 rw[h.swap x z,h.swap y z,h.eqt x y z e]
theorem Qb2(h:CmpOK c)(k:CmpOK d):CmpOK λx y=>bif c x y != 0 then c x y else d x y:=by
 refine⟨λx y=>?_,λx y z=>?_,λx y z=>?_⟩
 .show(bif c y x != 0 then c y x else d y x)= -(bif c x y != 0 then c x y else d x y);have e:=h.swap x y;by_cases q:c x y=0
  .have f:c y x=0:=by omega
   rw[q,f];exact k.swap x y
  .have f:¬c y x=0:=by omega
   rw[bne_iff_ne.2 q,bne_iff_ne.2 f];exact e
 .show(bif c x y != 0 then c x y else d x y)<0->(bif c y z != 0 then c y z else d y z)<0->(bif c x z != 0 then c x z else d x z)<0;by_cases q:c x y=0
  .have e:=h.eqt x y z q;rw[q,e];by_cases f:c y z=0
   .rw[f];exact k.trans x y z
   .rw[bne_iff_ne.2 f];intro _ b;exact b
  .rw[bne_iff_ne.2 q];by_cases f:c y z=0
   .have e:=h.eqr x f;rw[f, <- e,bne_iff_ne.2 q];intro a _;exact a
   .rw[bne_iff_ne.2 f];intro a b;have:=h.trans x y z a b;rw[bne_iff_ne.2 (show¬c x z=0 by omega)];exact this
 .show(bif c x y != 0 then c x y else d x y)=0->(bif c x z != 0 then c x z else d x z)=(bif c y z != 0 then c y z else d y z);by_cases q:c x y=0
  .rw[q,h.eqt x y z q];intro e;have e:d x y=0:=e;rw[k.eqt x y z e]
  .rw[bne_iff_ne.2 q];intro e;exact absurd e q
theorem CmpOK.on{β:Type}(h:CmpOK c)(f:β->α):CmpOK λx y=>c (f x) (f y):=
 ⟨λx y=>h.swap _ _,λx y z=>h.trans _ _ _,λx y z=>h.eqt _ _ _⟩
end
theorem cmpI_ok:CmpOK cmpI:=by
 have e:∀a b,cmpI a b=if a<b then-1 else if b<a then 1 else 0:=by
  intro a b;unfold cmpI;by_cases h:a<b
  .rw[Vt h,Vs h];rfl
  .rw[Vw h,Vr h];by_cases d:b<a
   .rw[Vt d,Vs d];rfl
   .rw[Vw d,Vr d];rfl
 refine⟨λx y=>?_,λx y z=>?_,λx y z=>?_⟩
 .rw[e,e];split<;>split<;>omega
 .rw[e,e,e];intro a b;have f:x<y:=by
   by_cases q:x<y
   .exact q
   .rw[Vr q]at a;split at a<;>omega
  have d:y<z:=by
   by_cases q:y<z
   .exact q
   .rw[Vr q]at b;split at b<;>omega
  rw[Vs (by omega)];omega
 .rw[e x y];intro h;have:x=y:=by
   by_cases q:x<y
   .rw[Vs q]at h;omega
   .rw[Vr q]at h;split at h<;>omega
  rw[this]
theorem cb_ok:CmpOK Lib.compareBytes:=by
 have l:∀x y:List UInt8,Lib.compareBytes y x= -Lib.compareBytes x y:=by
  intro x
  induction x with
  |nil=>intro y;cases y<;>simp[Lib.compareBytes]
  |cons a x f=>
   intro y;cases y with
   |nil=>simp[Lib.compareBytes]
   |cons b y=>
    unfold Lib.compareBytes;by_cases h:a<b
    .have j:¬b<a:=by rw[UInt8.lt_iff_toNat_lt]at*;omega
     rw[Vs h,Vr j,Vs h];rfl
    .rw[Vr h];by_cases g:b<a
     .rw[Vs g,Vr h,Vs g]
     .rw[Vr g,Vr g,Vr h];exact f y
 have eq:∀x y:List UInt8,Lib.compareBytes x y=0->x=y:=by
  intro x
  induction x with
  |nil=>intro y h;cases y with
   |nil=>rfl
   |cons b y=>simp[Lib.compareBytes]at h
  |cons a x f=>
   intro y h;cases y with
   |nil=>simp[Lib.compareBytes]at h
   |cons b y=>
    unfold Lib.compareBytes at h;by_cases q:a<b
    .rw[Vs q]at h;omega
    .rw[Vr q]at h;by_cases e:b<a
     .rw[Vs e]at h;omega
     .rw[Vr e]at h;have:a=b:=by
       rw[UInt8.lt_iff_toNat_lt]at q e;exact UInt8.toNat_inj.1 (by omega)
      rw[this,f y h]
 refine⟨l,?_,λx y z h=>by rw[eq x y h]⟩;intro x
 induction x with
 |nil=>
  intro y z h k;cases y with
  |nil=>simp[Lib.compareBytes]at h
  |cons b y=>cases z with
   |nil=>simp[Lib.compareBytes]at k
   |cons d z=>simp[Lib.compareBytes]
 |cons a x f=>
  intro y z h k;cases y with
  |nil=>simp[Lib.compareBytes]at h
  |cons b y=>
   cases z with
   |nil=>simp[Lib.compareBytes]at k
   |cons d z=>
    unfold Lib.compareBytes at h k⊢;simp only[UInt8.lt_iff_toNat_lt]at*;by_cases q:a.toNat<b.toNat
    .by_cases r:b.toNat<d.toNat
     .rw[Vs (by omega)];omega
     .rw[Vr r]at k;by_cases i:d.toNat<b.toNat
      .rw[Vs i]at k;omega
      .rw[Vs (by omega)];omega
    .rw[Vr q]at h;by_cases e:b.toNat<a.toNat
     .rw[Vs e]at h;omega
     .rw[Vr e]at h;by_cases r:b.toNat<d.toNat
      .rw[Vs (by omega)];omega
      .rw[Vr r]at k;by_cases i:d.toNat<b.toNat
       .rw[Vs i]at k;omega
       .rw[Vr i]at k;rw[Vr (by omega),Vr (by omega)];exact f y z h k
theorem Qn5:∀{x y:List UInt8},Lib.compareBytes x y=0->x=y
 |[],[],_=>rfl
 |[],_::_,h=>by simp[Lib.compareBytes]at h
 |_::_,[],h=>by simp[Lib.compareBytes]at h
 |a::x,b::y,h=>by
  unfold Lib.compareBytes at h;by_cases q:a<b
  .rw[Vs q]at h;omega
  .rw[Vr q]at h;by_cases q2:b<a
   .rw[Vs q2]at h;omega
   .rw[Vr q2]at h;have:a=b:=by
     rw[UInt8.lt_iff_toNat_lt]at q q2;exact UInt8.toNat_inj.1 (by omega)
    rw[this,Qn5 h]
theorem Qf9:∀{l m:List Int},(∀x∈l,0<=x/\x<256)->(∀x∈m,0<=x/\x<256)->l.map Qbn=m.map Qbn->l=m
 |[],[],_,_,_=>rfl
 |[],_::_,_,_,h=>by simp at h
 |_::_,[],_,_,h=>by simp at h
 |x::l,y::m,h1,h2,h=>by
  simp only[Vi,List.cons.injEq]at h;have a1:=h1 x (by simp);have a2:=h2 y (by simp);have e:=congrArg UInt8.toNat h.1;unfold Qbn at e;rw[UInt8.toNat_ofNat',UInt8.toNat_ofNat']at e;have:x=y:=by omega
  rw[this,Qf9 (λz a=>h1 z (by simp[a])) (λz a=>h2 z (by simp[a])) h.2]
theorem QhX(f g:Fact):cmpF f g=bif cmpI f.At g.At != 0 then cmpI f.At g.At else bif cmpI f.Crew g.Crew != 0 then cmpI f.Crew g.Crew else bif cmpI f.No g.No != 0 then cmpI f.No g.No else cmpB (encF f).1 (encF g).1:=by
 unfold cmpF orL orL orL orL;generalize cmpI f.At g.At=a;generalize cmpI f.Crew g.Crew=b;generalize cmpI f.No g.No=d;cases i:(a != 0)with
 |true=>simp only[Vn,i]
 |false=>
  simp only[Vp];cases e:(b != 0)with
  |true=>simp only[Vn,e]
  |false=>
   simp only[Vp];cases h:(d != 0)with
   |true=>simp only[Vn,h]
   |false=>rfl
theorem QjJ:CmpOK cmpF:=by
 have h:=Qb2 (cmpI_ok.on λf:Fact=>f.At) (Qb2 (cmpI_ok.on λf:Fact=>f.Crew) (Qb2 (cmpI_ok.on λf:Fact=>f.No) (cb_ok.on λf:Fact=>(encF f).1.map Qbn)));have e:cmpF=λf g=>bif cmpI f.At g.At != 0 then cmpI f.At g.At else bif cmpI f.Crew g.Crew != 0 then cmpI f.Crew g.Crew else bif cmpI f.No g.No != 0 then cmpI f.No g.No else cmpB (encF f).1 (encF g).1:=by
  funext f g;exact QhX f g
 rw[e];exact h
def wideE(e:Ent):Bool:=decide (-1125899906842624<=e.lo)&&decide (e.hi<=1125899906842624)
theorem Qkp(f:Fact):(entsS f).all wideE=true:=by
 unfold entsS;rw[List.all_append,XW];refine⟨rfl,?_⟩;rcases kinds f with k|k|k|k|k|k|k|k|k|k|k|k|k|k
 case inr.inr.inr.inr.inr.inr.inr.inr.inr.inl=>
  unfold openU;rw[k];show(bodyL (bif (f.Ruling.Kind==1)||(f.Ruling.Kind==2)then .c9 (0,0,0,0,0,0)else bif f.Ruling.Kind==3 then .c9 (1,9999,0,255,1,1099511627776)else bif f.Ruling.Kind==4 then .c9 (1,9999,0,255,1,64)else .c9 (1,9999,0,255,0,0))).all wideE=true;cases((f.Ruling.Kind==1)||(f.Ruling.Kind==2))with
  |true=>rfl
  |false=>
   cases(f.Ruling.Kind==3)with
   |true=>rfl
   |false=>cases(f.Ruling.Kind==4)<;>rfl
 case inr.inr.inr.inr.inr.inr.inr.inr.inr.inr.inr.inr.inr=>rw[k];rfl
 all_goals
  unfold openU;rw[k];rfl
theorem QeE{f:Fact}(h:validS f=true):∀x∈numsS f,in63 x:=by
 have k:=h;unfold validS at h;rw[Qgw]at h;by_cases q:openU f=.c13 ()
 .rw[q]at h;cases h
 .rw[<- (Qdk f q).2];cases a:fineU f (openU f)with
  |false=>rw[a]at h;cases h
  |true=>
   rw[a]at h;cases b:(entsS f).all (inE f (suspB f))with
   |false=>rw[b]at h;cases h
   |true=>
    intro x j;obtain⟨e,g,rfl⟩:=Xe.1 j;have i:=Xs.1 b e g;have d:=Xs.1 (Qkp f) e g;unfold inE at i;unfold wideE at d;simp only[XW,Bool.not_eq_true',decide_eq_false_iff_not,Vq]at i d;unfold in63;omega
theorem Qf4{f:Fact}(h:validS f=true):encF f=(listB (numsS f),0):=by
 unfold encF;rw[h,Qih h];rfl
theorem QgQ{f g:Fact}(a:validS f=true)(hg:validS g=true)(h:cmpF f g=0):f=g:=by
 rw[QhX]at h;have z:cmpB (encF f).1 (encF g).1=0:=by
  cases i:(cmpI f.At g.At != 0)with
  |true=>rw[i]at h;exact absurd h (bne_iff_ne.1 i)
  |false=>
   rw[i]at h;cases b:(cmpI f.Crew g.Crew != 0)with
   |true=>rw[b]at h;exact absurd h (bne_iff_ne.1 b)
   |false=>
    rw[b]at h;cases d:(cmpI f.No g.No != 0)with
    |true=>rw[d]at h;exact absurd h (bne_iff_ne.1 d)
    |false=>rw[d]at h;exact h
 rw[Qf4 a,Qf4 hg]at z;have e:=Qf9 (QdI _) (QdI _) (Qn5 z);exact QlC a hg (Qkd (QeE a) (QeE hg) e)
set_option maxRecDepth 4000
theorem Qeo{α:Type}{R:α->α->Prop}(d:∀x,¬R x x)(i:∀x y z,R x y->R y z->R x z):∀{l m:List α},l.Pairwise R->m.Pairwise R->(∀x,x∈l↔x∈m)->l=m
 |[],[],_,_,_=>rfl
 |[],b::m,_,_,h=>by have:=(h b).2 (by simp);cases this
 |a::l,[],_,_,h=>by have:=(h a).1 (by simp);cases this
 |a::l,b::m,hl,hm,h=>by
  rw[Xc]at hl hm;have e:a=b:=by
   rcases X5.1 ((h a).1 (by simp))with e|g
   .exact e
   .rcases X5.1 ((h b).2 (by simp))with e|j
    .exact e.symm
    .exact absurd (i _ _ _ (hl.1 b j) (hm.1 a g)) (d a)
  subst e;congr 1;refine Qeo d i hl.2 hm.2 λx=>?_;constructor
  .intro f;rcases X5.1 ((h x).1 (X4 _ f))with e|g
   .subst e;exact absurd (hl.1 x f) (d x)
   .exact g
  .intro f;rcases X5.1 ((h x).2 (X4 _ f))with e|g
   .subst e;exact absurd (hm.1 x f) (d x)
   .exact g
def insC(x:Fact):List Fact->List Fact
 |[]=>[x]
 |y::r=>bif decide (cmpF y x<0)then y::insC x r else bif y==x then y::r else x::y::r
def canonS(l:List Fact):List Fact:=l.foldl (λa x=>bif validS x then insC x a else a) []
def ltF(a b:Fact):Prop:=cmpF a b<0
theorem Qnj(x:Fact):¬ltF x x:=by unfold ltF;have:=QjJ.refl x;omega
theorem Qiz(x y z:Fact):ltF x y->ltF y z->ltF x z:=QjJ.trans x y z
theorem QcC(x:Fact):∀(l:List Fact) (z:Fact),z∈insC x l↔z=x\/z∈l
 |[],z=>by simp[insC]
 |y::r,z=>by
  unfold insC;cases decide (cmpF y x<0)with
  |true=>
   simp only[Vn,X5,QcC x r z];constructor
   .rintro(h|h|h)<;>simp[h]
   .rintro(h|h|h)<;>simp[h]
  |false=>
   simp only[Vp];cases h:(y==x)with
   |true=>
    have:y=x:=by simpa using h
    subst this;simp
   |false=>simp
def CanonOK(l:List Fact):Prop:=l.Pairwise ltF/\ ∀f∈l,validS f=true
theorem Qjv{x:Fact}(a:validS x=true):∀{l:List Fact},CanonOK l->CanonOK (insC x l)
 |[],_=>⟨by simp[insC],by simp[insC,a]⟩
 |y::r,h=>by
  obtain⟨h1,h2⟩:=h;rw[Xc]at h1;have hr:CanonOK r:=⟨h1.2,λf hf=>h2 f (by simp[hf])⟩;have ih:=Qjv a hr;refine⟨?_,λf hf=>?_⟩
  .unfold insC;cases q:decide (cmpF y x<0)with
   |true=>
    simp only[Vn,Xc];refine⟨λz hz=>?_,ih.1⟩;rcases(QcC x r z).1 hz with rfl|hz
    .show cmpF y z<0;exact Vu q
    .exact h1.1 z hz
   |false=>
    simp only[Vp];cases q2:(y==x)with
    |true=>simp only[Vn,Xc];exact h1
    |false=>
     simp only[Vp,Xc];have lt:ltF x y:=by
      have b:=Vv q;have d:¬cmpF y x=0:=λe=>by
       have:=QgQ (h2 y (by simp)) a e;rw[this]at q2;simp at q2
      have:=QjJ.swap x y;unfold ltF;omega
     refine⟨λz hz=>?_,h1⟩;rcases X5.1 hz with rfl|hz
     .exact lt
     .exact Qiz _ _ _ lt (h1.1 z hz)
  .rcases(QcC x (y::r) f).1 hf with rfl|hf
   .exact a
   .exact h2 f hf
theorem Qf8(l:List Fact):CanonOK (canonS l)/\ ∀f,f∈canonS l↔f∈l/\validS f=true:=by
 have g:∀(r a:List Fact),CanonOK a->CanonOK (r.foldl (λa x=>bif validS x then insC x a else a) a)/\ ∀f,f∈r.foldl (λa x=>bif validS x then insC x a else a) a↔f∈a\/(f∈r/\validS f=true):=by
  intro r
  induction r with
  |nil=>intro a h;exact⟨h,λf=>by simp⟩
  |cons x r i=>
   intro a h;rw[XD];cases q:validS x with
   |false=>
    obtain⟨e,d⟩:=i a h;refine⟨e,λf=>?_⟩;rw[Vp,d f,X5];constructor
    .rintro(a|⟨a,b⟩)
     .exact .inl a
     .exact .inr ⟨.inr a,b⟩
    .rintro(a|⟨rfl|a,b⟩)
     .exact .inl a
     .rw[q]at b;cases b
     .exact .inr ⟨a,b⟩
   |true=>
    obtain⟨e,d⟩:=i (insC x a) (Qjv q h);refine⟨e,λf=>?_⟩;rw[Vn,d f,QcC,X5];constructor
    .rintro((rfl|a)|⟨a,b⟩)
     .exact .inr ⟨.inl rfl,q⟩
     .exact .inl a
     .exact .inr ⟨.inr a,b⟩
    .rintro(a|⟨rfl|a,b⟩)
     .exact .inl (.inr a)
     .exact .inl (.inl rfl)
     .exact .inr ⟨a,b⟩
 obtain⟨e,d⟩:=g l [] ⟨by simp,by simp⟩;exact⟨e,λf=>by rw[canonS,d f];simp⟩
set_option maxRecDepth 4000
def nb(v lo hi:Int):Bool:= !(decide (v<lo))&& !(decide (hi<v))
theorem Qix(v lo hi:Int):nb v lo hi=true↔lo<=v/\v<=hi:=by
 unfold nb;simp only[XW,Bool.not_eq_true',decide_eq_false_iff_not];omega
def contR(f:Fact):Bool:=
 bif f.Kind==1 then true&&(nb f.Starter.Bib 1 9999&&(nb f.Starter.Distance 0 7&&(nb f.Starter.Wave 0 31&&(nb f.Starter.Slot (-1099511627776) 1099511627776&&(nb f.Starter.Age 0 120&&(nb f.Starter.Chip 0 1048576&&(nb f.Starter.Team 0 9999&&(nb f.Starter.Lot 0 1048576&&true))))))))
 else bif f.Kind==2 then true&&(nb f.Read.Mat 0 39&&(nb f.Read.Epoch 0 255&&(nb f.Read.Chip 0 1048576&&(nb f.Read.Local (-1099511627776) 1099511627776&&true))))
 else bif f.Kind==3 then true&&(nb f.Beacon.Mat 0 39&&(nb f.Beacon.Epoch 0 255&&(nb f.Beacon.Local (-1099511627776) 1099511627776&&(nb f.Beacon.True (-1099511627776) 1099511627776&&(nb f.Beacon.Err 0 1099511627776&&true)))))
 else bif f.Kind==4 then decide (f.Sync.Min<=f.Sync.Max)&&(nb f.Sync.MatA 0 39&&(nb f.Sync.EpochA 0 255&&(nb f.Sync.LocalA (-1099511627776) 1099511627776&&(nb f.Sync.MatB 0 39&&(nb f.Sync.EpochB 0 255&&(nb f.Sync.LocalB (-1099511627776) 1099511627776&&(nb f.Sync.Min (-1099511627776) 1099511627776&&(nb f.Sync.Max (-1099511627776) 1099511627776&&true))))))))
 else bif f.Kind==5 then decide (f.Hand.Lo<=f.Hand.Hi)&&(nb f.Hand.Bib 1 9999&&(nb f.Hand.Position 0 255&&(nb f.Hand.Lo (-1099511627776) 1099511627776&&(nb f.Hand.Hi (-1099511627776) 1099511627776&&true))))
 else bif f.Kind==6 then decide (f.Silence.Lo<=f.Silence.Hi)&&(nb f.Silence.Mat 0 39&&(nb f.Silence.Epoch 0 255&&(nb f.Silence.Lo (-1099511627776) 1099511627776&&(nb f.Silence.Hi (-1099511627776) 1099511627776&&true))))
 else bif f.Kind==7 then decide (f.Pair.A<f.Pair.B)&&(nb f.Pair.A 1 9999&&(nb f.Pair.B 1 9999&&true))
 else bif f.Kind==8 then true&&(nb f.Report.Case 1 1048576&&(nb f.Report.Bib 1 9999&&(nb f.Report.Offence 0 31&&(nb f.Report.Position 0 255&&true))))
 else bif f.Kind==9 then true&&(nb f.Protest.Case 1 1048576&&(nb f.Protest.By 0 9999&&(nb f.Protest.Fee 0 1125899906842624&&(nb f.Protest.Form 0 1&&true))))
 else bif f.Kind==10 then true&&(nb f.Ruling.Case 1 1048576&&(nb f.Ruling.Instance 1 2&&(nb f.Ruling.Kind 1 5&&(bif (f.Ruling.Kind==1)||(f.Ruling.Kind==2)then nb f.Ruling.Bib 0 0&&(nb f.Ruling.Position 0 0&&(nb f.Ruling.Amount 0 0&&true))else bif f.Ruling.Kind==3 then nb f.Ruling.Bib 1 9999&&(nb f.Ruling.Position 0 255&&(nb f.Ruling.Amount 1 1099511627776&&true))else bif f.Ruling.Kind==4 then nb f.Ruling.Bib 1 9999&&(nb f.Ruling.Position 0 255&&(nb f.Ruling.Amount 1 64&&true))else nb f.Ruling.Bib 1 9999&&(nb f.Ruling.Position 0 255&&(nb f.Ruling.Amount 0 0&&true))))))
 else bif f.Kind==11 then true&&(nb f.Appeal.Case 1 1048576&&(nb (suspB f) 0 1&&true))
 else bif f.Kind==12 then true&&true
 else bif f.Kind==13 then true&&(nb f.Void.Crew 0 31&&(nb f.Void.No 1 1048576&&true))
 else false
theorem Qnl(f:Fact):(f.Kind=1\/f.Kind=2\/f.Kind=3\/f.Kind=4\/f.Kind=5\/f.Kind=6\/f.Kind=7\/f.Kind=8\/f.Kind=9\/f.Kind=10\/f.Kind=11\/f.Kind=12\/f.Kind=13)\/((f.Kind==1)=false/\(f.Kind==2)=false/\(f.Kind==3)=false/\(f.Kind==4)=false/\(f.Kind==5)=false/\(f.Kind==6)=false/\(f.Kind==7)=false/\(f.Kind==8)=false/\(f.Kind==9)=false/\(f.Kind==10)=false/\(f.Kind==11)=false/\(f.Kind==12)=false/\(f.Kind==13)=false):=by
 by_cases h:1<=f.Kind/\f.Kind<=13
 .left;omega
 .right;simp only[Vy,ne_eq];omega
theorem Qmn(f:Fact):contS f=contR f:=by
 rcases Qnl f with k|⟨y,u,x,p,w,t,s,q,r,j,g,h,i⟩
 .rcases k with k|k|k|k|k|k|k|k|k|k|k|k|k
  case inr.inr.inr.inr.inr.inr.inr.inr.inr.inl=>
   obtain⟨Cr,No,At,Ki,S,R,B,Sy,Ha,Si,Pa,Re,Pr,⟨n,m,a,b,e,d⟩,Ap,Vo⟩:=f;simp only at k;subst k;have l:openU ⟨Cr,No,At,10,S,R,B,Sy,Ha,Si,Pa,Re,Pr,⟨n,m,a,b,e,d⟩,Ap,Vo⟩=(bif (a==1)||(a==2)then U_facts_open_rxk.c9 (0,0,0,0,0,0)else bif a==3 then .c9 (1,9999,0,255,1,1099511627776)else bif a==4 then .c9 (1,9999,0,255,1,64)else .c9 (1,9999,0,255,0,0)):=rfl;have z:contR ⟨Cr,No,At,10,S,R,B,Sy,Ha,Si,Pa,Re,Pr,⟨n,m,a,b,e,d⟩,Ap,Vo⟩=(true&&(nb n 1 1048576&&(nb m 1 2&&(nb a 1 5&&(bif (a==1)||(a==2)then nb b 0 0&&(nb e 0 0&&(nb d 0 0&&true))else bif a==3 then nb b 1 9999&&(nb e 0 255&&(nb d 1 1099511627776&&true))else bif a==4 then nb b 1 9999&&(nb e 0 255&&(nb d 1 64&&true))else nb b 1 9999&&(nb e 0 255&&(nb d 0 0&&true))))))):=rfl;rw[z];unfold contS;rw[l];cases((a==1)||(a==2))with
   |true=>rfl
   |false=>
    cases(a==3)with
    |true=>rfl
    |false=>cases(a==4)<;>rfl
  case inr.inr.inr.inr.inr.inr.inr.inr.inr.inr.inl=>
   obtain⟨Cr,No,At,Ki,S,R,B,Sy,Ha,Si,Pa,Re,Pr,Ru,⟨Ca,Su⟩,Vo⟩:=f;simp only at k;subst k;cases Su<;>rfl
  all_goals
   obtain⟨Cr,No,At,Ki,S,R,B,Sy,Ha,Si,Pa,Re,Pr,Ru,Ap,Vo⟩:=f;simp only at k;subst k;rfl
 .have l:openU f=.c13 ():=by unfold openU;rw[y,u,x,p,w,t,s,q,r,j,g,h,i];rfl
  unfold contS contR;rw[l,y,u,x,p,w,t,s,q,r,j,g,h,i];rfl
theorem Qhs(x:Fact):∀l:List Fact,(insC x l).length<=l.length+1
 |[]=>by simp[insC]
 |y::r=>by
  unfold insC;have:=Qhs x r;cases decide (cmpF y x<0)with
  |true=>simp only[Vn,XZ];omega
  |false=>cases(y==x)<;>simp
theorem Qid{c:Course}(h:Course.wf c):CourseOk c:=by
 obtain⟨m,⟨e,f⟩,⟨l,r⟩,⟨k,b⟩,⟨d,n⟩,⟨i,p⟩,⟨g,q⟩,⟨j,s⟩,_⟩:=h;exact⟨m,e,λx a=>(f x a).1,l,k,λx a=>(b x a).1,λx a=>(b x a).2.2.2.1.1,d,λx a=>(n x a).1,i,λx a=>(p x a).1,g,λx a=>(q x a).1,j⟩
theorem QiZ{c:Course}(h:Course.wf c):PartsOk c:=by
 obtain⟨_,_,_,⟨e,b⟩,_⟩:=h;exact⟨λd a=>(b d a).2.1.1,λd a=>(b d a).2.1.2⟩
theorem Qm9{c:Course}(h:Course.wf c):c.Ties.length<=1048576/\ ∀x∈c.Ties,Step.wf x:=by
 obtain⟨_,_,_,_,_,_,_,_,a,_⟩:=h;exact a
theorem Qfd(l:List Fact):(canonS l).length<=l.length:=by
 have:∀(m a:List Fact),(m.foldl (λa x=>bif validS x then insC x a else a) a).length<=a.length+m.length:=by
  intro m
  induction m with
  |nil=>intro a;simp
  |cons x m b=>
   intro a;rw[XD,XZ];have e:=b (bif validS x then insC x a else a);have d:(bif validS x then insC x a else a).length<=a.length+1:=by
    cases validS x with
    |true=>exact Qhs x a
    |false=>simp
   omega
 have:=this l [];simpa[canonS]using this
section
variable {α β:Type}
theorem Qbl(q:α->Bool):∀(l a:List α),l.foldl (λa x=>bif q x then a++[x]else a) a=a++l.filter q
 |[],a=>by simp
 |x::l,a=>by
  rw[XD,Qbl q l,List.filter_cons];cases h:q x<;>simp
theorem Qi6{step:Nat->List α×Int->Option (Ctl (List α×Int) (List α))}(l:List α)(q:α->Bool)(h:l.length<=1048576)
  (f:∀i x a,At l i x->a.length<=i->Ev (λn=>step n (a,(i:Int))) (.cont ((bif q x then a++[x]else a),((i+1:Nat):Int))))
  (b:∀a,Ev (λn=>step n (a,(l.length:Int))) (.done a)):Ev (λn=>Go.Sw.iter (step n) n ([],0)) (l.filter q):=by
 have e:l.filter q=l.foldl (λa x=>bif q x then a++[x]else a) []:=by rw[Qbl];rfl
 rw[e];refine Jn l (λa x=>bif q x then a++[x]else a) [] (λa i=>(a,(i:Int))) (λa=>a) (by omega) rfl (λi x a d g=>f i x a d ?_) (b _);rw[g,Qbl,Vg];exact XV (VM ..) (by rw[Xy];omega)
theorem Qkf{l:List α}[DecidableEq (List α)](b:l.length<=1048576):isNil l (some ([]:List α)) ((app ([]:List α) l).bind λx=>some x)=some l:=by
 have:app ([]:List α) l=some l:=by rw[QcN _ _ (by simp;omega)];rfl
 unfold isNil;cases l with
 |nil=>rw[this];simp
 |cons a l=>rw[this];rfl
theorem QmR{F:Nat->α->α->Option β}{V:α->α->β}(l:List α)(h:∀x∈l,∀y∈l,Ev (λn=>F n x y) (V x y)):∃N,∀n,N<=n->∀x∈l,∀y∈l,F n x y=some (V x y):=by
 obtain⟨N,e⟩:=QaP (F:=λn (p:α×α)=>F n p.1 p.2) (V:=λp=>V p.1 p.2) (l.flatMap λx=>l.map λy=>(x,y)) (by
  intro p a;rw[List.mem_flatMap]at a;obtain⟨x,d,a⟩:=a;obtain⟨y,b,rfl⟩:=Xe.1 a;exact h x d y b)
 exact⟨N,λn f x d y b=>e n f (x,y) (List.mem_flatMap.2 ⟨x,d,Xe.2 ⟨y,b,rfl⟩⟩)⟩
def ltC(c:α->α->Int)(x y:α):Bool:=decide (c x y<0)
theorem QcB{c:α->α->Int}(d:CmpOK c)(l:List α):Qff (ltC c) l:=by
 refine⟨λx _=>?_,λx _ y _ z _ g f=>?_,λx _ y _ z _ g f=>?_⟩
 .have:=d.refl x;exact Vw (by omega)
 .have g:=Vu g;have f:=Vu f;exact Vt (d.trans x y z g f)
 .have g:=Vv g;have f:=Vv f;refine Vw λh=>?_;have a:=d.swap x y;have b:=d.swap y z;by_cases e:c x y=0
  .rw[d.eqt x y z e]at h;exact f h
  .by_cases i:c y z=0
   .rw[<- d.eqr x i]at h;exact g h
   .have j:=d.trans z y x (by omega) (by omega);have:=d.swap x z;omega
theorem QjV[DecidableEq α]{cf:Nat->α->α->Option Int}{l:List α}{c:α->α->Int}(r:l.length<=1048576)(u:∀x∈l,∀y∈l,Ev (λn=>cf n x y) (c x y))(a:CmpOK c)(k:∀x∈l,∀y∈l,c x y=0->x=y):
  Ev (λn=>QbD (cf n) l) (QaU (ltC c) l):=by
 obtain⟨N,p⟩:=QmR l u;refine⟨N,λn t=>?_⟩;have h:=p n t;have m:=Qla (cf:=cf n) (XR (Qnq r)) c h (λx _=>by have:=a.refl x;omega) (λx _ y _ z _=>a.trans x y z) (λx d y b z s g f=>by
   have:=(QcB a l).ntrans x d y b z s (Vw g) (Vw f);exact Vv this) (λx d y b g f=>k x d y b (by have:=a.swap x y;omega))
 show QbD (cf n) l=some (QaU (ltC c) l);rw[m];congr 1;obtain⟨_,_,w,_,_⟩:=Qeq m;have e:∀x∈l,∀y∈l,ltO (cf n) x y=ltC c x y:=λx d y b=>by unfold ltO ltC;rw[h x d y b]
 refine Qbg (lt:=ltC c) ((QM _ l).trans (QM _ l).symm) (λx d y b g f=>?_) ?_ (YH (QcB a l))
 .have i:=(QM _ l).mem_iff.1 d;have j:=(QM _ l).mem_iff.1 b;have g:=Vv g;have f:=Vv f;exact k x i y j (by have:=a.swap x y;omega)
 .refine List.Pairwise.imp_of_mem (λ{x y} d b q=>?_) (YH w);have i:=(QM _ l).mem_iff.1 d;have j:=(QM _ l).mem_iff.1 b;rw[<- e y j x i];exact q
end
def ddA(p:Fact):List Fact->List Fact
 |[]=>[]
 |x::r=>bif x==p then ddA x r else x::ddA x r
def dd:List Fact->List Fact
 |[]=>[]
 |x::r=>x::ddA x r
theorem Qml{x p:Fact}{r:List Fact}(q:(x==p)=true):ddA p (x::r)=ddA x r:=by
 show(bif x==p then ddA x r else x::ddA x r)=_;rw[q];rfl
theorem Qmk{x p:Fact}{r:List Fact}(q:(x==p)=false):ddA p (x::r)=x::ddA x r:=by
 show(bif x==p then ddA x r else x::ddA x r)=_;rw[q];rfl
theorem Qmj:∀(r:List Fact) (p:Fact),(∀x∈r,¬cmpF x p<0)->r.Pairwise (λa b=>¬cmpF b a<0)->(∀x∈p::r,validS x=true)->(ddA p r).Pairwise ltF/\(∀x∈ddA p r,ltF p x)/\ ∀x,x∈p::ddA p r↔x∈p::r
 |[],p,_,_,_=>⟨List.Pairwise.nil,(λ_ h=>by cases h),λ_=>Iff.rfl⟩
 |y::r,p,h1,h2,h3=>by
  rw[Xc]at h2;obtain⟨i1,i2,i3⟩:=Qmj r y h2.1 h2.2 λx hx=>h3 x (by simp only[X5]at hx⊢;exact .inr hx);have hy:=h1 y (by simp);unfold ddA;cases q:y==p with
  |true=>
   have e:y=p:=by simpa using q
   subst e;refine⟨i1,i2,λx=>?_⟩;rw[Vn,i3 x];simp
  |false=>
   have f:¬cmpF y p=0:=λe=>by simp[QgQ (h3 y (by simp)) (h3 p (by simp)) e]at q
   have d:ltF p y:=by
    have:=QjJ.swap y p;unfold ltF;omega
   simp only[Vp];refine⟨Xc.2 ⟨i2,i1⟩,λx hx=>?_,λx=>?_⟩
   .rcases X5.1 hx with rfl|hx
    .exact d
    .exact Qiz _ _ _ d (i2 x hx)
   .rw[X5,i3 x,X5 (a:=x) (b:=p)]
theorem dd_ok{S:List Fact}(h:S.Pairwise λa b=>¬cmpF b a<0)(e:∀x∈S,validS x=true):(dd S).Pairwise ltF/\ ∀x,x∈dd S↔x∈S:=by
 cases S with
 |nil=>exact⟨List.Pairwise.nil,λ_=>Iff.rfl⟩
 |cons a r=>
  rw[Xc]at h;obtain⟨g,d,f⟩:=Qmj r a h.1 h.2 e;exact⟨Xc.2 ⟨d,g⟩,f⟩
theorem QgJ(x y:Fact):Ev (λn=>F_au n x y) ():=Qa _
theorem Qjx{l:List Fact}{a j:Nat}{x:Fact}(h:l[a+j]?=some x){m:Int}(d:m=(l.length:Int)):Qbz l (a:Int) m (j:Int)=some x:=by
 have b:=(XL.1 h).1;unfold Qbz;rw[Vt (show(0:Int)<=(a:Int)by omega),Vt (show(0:Int)<=(j:Int)by omega),Vt (show(a:Int)+(j:Int)<m by omega)];rw[show(a:Int)+(j:Int)=((a+j:Nat):Int)by omega];exact QQ h
theorem QgP{α:Type}{l r:List α}{i:Nat}{x:α}(h:l.drop i=x::r):l[i]?=some x/\l.drop (i+1)=r/\i<l.length:=by
 have a:l[i]?=some x:=by
  have:=congrArg (λl=>l[0]?) h;simpa using this
 refine⟨a,?_,(XL.1 a).1⟩;have:=Xp (XL.1 a).1;rw[h]at this;exact(List.cons.inj this).2.symm
theorem QhQ(a:List Fact)(J:a.length<=1048576)(b:Nat):∀(r s:List Fact) (i j:Nat) (p:Fact),s.length=a.length->s.drop (b+(j+1))=r->s[b+j]?=some p->i<b+(j+1)->b+(j+1)<=s.length->
  ∃(s':List Fact) (d:Nat),EvI (λn=>F_fn n a (b:Int)) (s,(i:Int),((j+1:Nat):Int)) (s',(d:Int))/\d<=s'.length/\s'.take d=s.take i++ddA p r:=by
 intro r
 induction r with
 |nil=>
  intro s i j p e f w F E;refine⟨s,i,Ei ?_,by omega,by simp[ddA]⟩;have:=Xq.1 f;unfold F_fn;rw[QP (show¬(((j+1:Nat):Int)<((Int.toNat (a.length:Int)-Int.toNat (b:Int):Nat):Int))by omega)];exact Qa _
 |cons x r y=>
  intro s i j p e f w F E;obtain⟨m,u,H⟩:=QgP f;have B:=Qjx m (show(a.length:Int)=(s.length:Int)by rw[e]);have t:=Qjx w (show(a.length:Int)=(s.length:Int)by rw[e]);have w1:IntKind.i64.wrap (((j+1:Nat):Int)-1)=(j:Int):=by rw[Qq (by omega) (by omega)];omega
  have w2:IntKind.i64.wrap (((j+1:Nat):Int)+1)=((j+1+1:Nat):Int):=QZ (by omega);have z:decide (((j+1:Nat):Int)<((Int.toNat (a.length:Int)-Int.toNat (b:Int):Nat):Int))=true:=Vt (by omega);have k:i<s.length:=by omega
  cases q:x==p with
  |true=>
   obtain⟨s',d,h,g,l⟩:=y s i (j+1) x e (by rw[show b+(j+1+1)=b+(j+1)+1 by omega];exact u) m (by omega) (by omega);refine⟨s',d,Et ?_ h,g,by rw[l,Qml q]⟩;unfold F_fn;simp only[z,Vn,B,w1,t,XJ];refine Ea (QgJ x p) ?_;rw[q];simp only[Xg,Vp,XJ,w2];exact Qa _
  |false=>
   have G:(s.set i x).length=a.length:=by rw[X3];exact e
   obtain⟨s',d,h,g,l⟩:=y (s.set i x) (i+1) (j+1) x G (by rw[show b+(j+1+1)=b+(j+1)+1 by omega,List.drop_set_of_lt (by omega)];exact u) (by rw[XP (by omega)];exact m) (by omega) (by rw[X3];omega);have w3:IntKind.i64.wrap ((i:Int)+1)=((i+1:Nat):Int):=QZ (by omega);refine⟨s',d,Et ?_ h,g,?_⟩
   .unfold F_fn;simp only[z,Vn,B,w1,t,XJ];refine Ea (QgJ x p) ?_;rw[q];simp only[Xh,Vn,XJ,w2,QQ (XK k),QaG s x k,w3];exact Qa _
   .rw[l,List.take_add_one,Xa k,List.take_set_of_le (XT _)];rw[Qmk q];simp
theorem QhR(a:List Fact)(t:a.length<=1048576):∀(r:List Fact) (k:Nat) (p:Fact),a.drop (k+1)=r->a[k]?=some p->k+1<=a.length->∃b:Ctl Unit (List Fact),EvI (λn=>F_ft n a) ((k+1:Nat):Int) b/\((b=.cont ()/\ddA p r=r)\/b=.done (a.take (k+1)++ddA p r)):=by
 intro r
 induction r with
 |nil=>
  intro k p l h w;refine⟨.cont (),Ei ?_,.inl ⟨rfl,rfl⟩⟩;have:=Xq.1 l;unfold F_ft;rw[QP (show¬(((k+1:Nat):Int)<(a.length:Int))by omega)];exact Qa _
 |cons x r y=>
  intro k p l h w;obtain⟨f,m,g⟩:=QgP l;have w1:IntKind.i64.wrap (((k+1:Nat):Int)-1)=(k:Int):=by rw[Qq (by omega) (by omega)];omega
  have w2:IntKind.i64.wrap (((k+1:Nat):Int)+1)=((k+1+1:Nat):Int):=QZ (by omega);have s:decide (((k+1:Nat):Int)<(a.length:Int))=true:=Vt (by omega);cases q:x==p with
  |true=>
   obtain⟨u,z,i,d,j⟩:=QhQ a t (k+1) r a (k+1) 0 x rfl m f (by omega) (by omega);refine⟨.done (a.take (k+1)++ddA p (x::r)),Ei ?_,.inr rfl⟩;unfold F_ft;simp only[s,Vn,QQ f,w1,QQ h,XJ];refine Ea (QgJ x p) ?_;rw[q];simp only[Vn,Qhe a (Nat.le_of_lt g),XJ];refine Ea i.ev ?_;simp only[Qim u d,XJ];rw[j];rw[Qml q];exact Qa _
  |false=>
   obtain⟨b,i,d⟩:=y (k+1) x m f g;have e:=Qmk (r:=r) q;refine⟨b,Et ?_ i,?_⟩
   .unfold F_ft;simp only[s,Vn,QQ f,w1,QQ h,XJ];refine Ea (QgJ x p) ?_;rw[q];simp only[Vp,w2];exact Qa _
   .rcases d with⟨d,j⟩|d
    .exact .inl ⟨d,by rw[e,j]⟩
    .refine .inr ?_;rw[d,e,List.take_add_one,f];simp
theorem QhP(a:List Fact)(d:a.length<=1048576):Ev (λn=>F_cw n a) (dd a):=by
 unfold F_cw
 match a,d with
 |[],_=>exact Qa _
 |[x],_=>exact Qa _
 |x::y::r,d=>
  rw[QP (show¬(((x::y::r).length:Int)<2)by simp;omega)];refine Yg ?_;obtain⟨b,g,f⟩:=QhR (x::y::r) d (y::r) 0 x rfl rfl (by simp);refine Ea g.ev ?_;rcases f with⟨rfl,e⟩|rfl
  .show Ev (λn=>some (x::y::r)) (x::ddA x (y::r));rw[e];exact Qa _
  .exact Qa _
section
variable {S T B:Type} {step:Nat->S->Option (List T×Ctl S B)} {s s':S} {b:B} {xs ys:List T}
def EvL(step:Nat->S->Option (List T×Ctl S B))(s:S)(ys:List T)(b:B):Prop:=∃N,∀n k,N<=n->N<=k->QbJ (step n) k s=some (ys,b)
theorem EvL.done(h:Ev (λn=>step n s) (ys,.done b)):EvL step s ys b:=by
 obtain⟨N,h⟩:=h;refine⟨N+1,λn k d f=>?_⟩;obtain⟨a,rfl⟩:∃a,k=a+1:=⟨k-1,by omega⟩;have e:step n s=some (ys,.done b):=h n (by omega);unfold QbJ;rw[e];rfl
theorem EvL.cont(h:Ev (λn=>step n s) (xs,.cont s'))(q:EvL step s' ys b):EvL step s (xs++ys) b:=by
 obtain⟨N,h⟩:=h;obtain⟨M,q⟩:=q;refine⟨max N M+1,λn k d f=>?_⟩;obtain⟨a,rfl⟩:∃a,k=a+1:=⟨k-1,by omega⟩;have e:step n s=some (xs,.cont s'):=h n (by omega);unfold QbJ;rw[e];show(QbJ (step n) a s').bind _=_;rw[q n a (by omega) (by omega)];rfl
theorem EvL.ev(h:EvL step s ys b):Ev (λn=>QbJ (step n) n s) (ys,b):=by
 obtain⟨N,h⟩:=h;exact⟨N,λn a=>h n n a a⟩
end
section
variable {U T R:Type}
theorem Qb0{step:Nat->U->T->Option (Ctl U R)}(g:U->T->U)(I:U->Nat->Prop):∀(l:List T) (u:U),I u l.length->(∀x∈l,∀u k,I u (k+1)->Ev (λn=>step n u x) (.cont (g u x))/\I (g u x) k)->Ev (λn=>runL (step n) l u) (.cont (l.foldl g u))/\I (l.foldl g u) 0
 |[],u,h,_=>⟨Qa _,h⟩
 |x::l,u,h,q=>by
  obtain⟨h1,h2⟩:=q x (by simp) u l.length h;obtain⟨r1,r2⟩:=Qb0 g I l (g u x) h2 λy hy=>q y (by simp[hy]);exact⟨Ea h1 r1,r2⟩
end
def ofK(k:Int)(f:Fact):Bool:=(f.Kind==k)&&validS f
def cntS(l:List Fact)(k:Int):List Fact:=(canonS l).filter λf=>f.Kind==k
theorem QhO(f:Fact)(k:Int):Ev (λn=>F_ao n f k) (!ofK k f):=by
 unfold F_ao ofK;refine Ea (v:= !((f.Kind==k)&&validS f)) ?_ (Qa _);cases q:f.Kind==k with
 |false=>simp only[bne,q,Xh,Vn,Bool.false_and];exact Qa _
 |true=>
  simp only[bne,q,Xg,Vp,Vz];refine Ea (Qfy f) ?_;cases validS f<;>exact Qa _
theorem Qnu(l:List Fact)(k:Int)(h:l.length<=1048576):Ev (λn=>F_cr n l k) (l.filter (ofK k)):=by
 unfold F_cr F_fv;refine Ev.eq (QkU l (λg=> !ofK k g) h (Ev.first l _ (by omega) (λi x a=>?_) ?_) (λb i j x y f a d p e=>?_) λb i=>?_) (by simp)
 .unfold F_gz;simp only[a.lt,Vn,a.ix,XJ,a.nx];refine Ea (QhO x k) ?_;cases ofK k x<;>exact Qa _
 .unfold F_gz;simp only[QcH,Vp];exact Qa _
 .have m:=(XL.1 d).1;unfold F_ha;simp only[a.lt,Vn,a.ix,XJ,a.nx];refine Ea (QhO x k) ?_;cases ofK k x with
  |false=>exact Qa _
  |true=>
   simp only[Xg,Xh,Vn,Vp,QQ d,QaG b x m,XJ,QZ (show i<9223372036854775807 by omega)];exact Qa _
 .unfold F_ha;simp only[QcH,Vp];exact Qa _
theorem Qkj(r:List Fact)(k:r.length<=1048576):Ev (λn=>ap (QbJ (F_di n r) n 0) λ_=>some ([],())) (r,()):=by
 have loop:∀(q:List Fact) (i:Nat),r.drop i=q->i<=r.length->EvL (λn=>F_di n r) (i:Int) q ():=by
  intro q
  induction q with
  |nil=>
   intro i d e;refine EvL.done ?_;unfold F_di;simp only[Yp d e,Vp];exact Qa _
  |cons f q g=>
   intro i d e;obtain⟨a,b⟩:=QJ (by omega) d;have j:=a.lt';refine EvL.cont (xs:=[f]) ?_ (g (i+1) b (by omega));unfold F_di;simp only[a.lt,Vn,a.ix,XJ,a.nx];exact Qa _
 have h:=(loop r 0 rfl (XU _)).ev;unfold ap;refine Ea h ?_;exact Ev.eq (Qa _) (by simp)
theorem QcK(l:List Fact)(k:Int):(cntS l k).length<=l.length:=XV (VM ..) (Qfd l)
theorem QaK(l:List Fact)(k:Int)(g:l.length<=1048576):Ev (λn=>F_q n l k) (cntS l k,()):=by
 unfold F_q F_fa;simp only[Qkf g,XJ];refine Ea (Qnu l k g) ?_;have p:=QM (ltC cmpF) (l.filter (ofK k));have i:∀f∈l.filter (ofK k),validS f=true:=λf r=>by
  have:=(Xd.1 r).2;unfold ofK at this;rw[XW]at this;exact this.2
 have d:=XV (VM (ofK k) l) g;refine Ea (QjV d (λx _ y _=>QiL x y) QjJ λx j y u e=>QgQ (i x j) (i y u) e) ?_;refine Ea (QhP _ (by rw[p.length_eq];exact d)) ?_;have s:(QaU (ltC cmpF) (l.filter (ofK k))).Pairwise λa b=>¬cmpF b a<0:=List.Pairwise.imp (λq=>Vv q) (YH (QcB QjJ _));obtain⟨z,w⟩:=dd_ok s λx j=>i x (p.mem_iff.1 j);obtain⟨m,t⟩:=Qf8 l;have e:dd (QaU (ltC cmpF) (l.filter (ofK k)))=cntS l k:=Qeo Qnj Qiz z (m.1.filter _) λf=>by
  rw[w,p.mem_iff];simp only[cntS,Xd,t,ofK,XW];exact⟨λh=>⟨⟨h.1,h.2.2⟩,h.2.1⟩,λh=>⟨h.1.1,h.2,h.1.2⟩⟩
 rw[e];exact Qkj _ (XV (QcK l k) g)
def cmpSeg(x y:Segment):Int:=orL [cmpI x.Mat y.Mat,cmpI x.Epoch y.Epoch]
theorem Ql9(a b:Int):Ev (λn=>F_l n a b) (cmpI a b):=QmS (Qa _) λn=>QjG n a b
theorem QhL(x y:Segment):Ev (λn=>F_ai n x y) (cmpSeg x y):=by
 unfold F_ai F_fh;exact Ea (Ea (Ql9 _ _) (Ea (Ql9 _ _) (Ea (Qn1 _ (by simp)) (Qa _)))) (Qa _)
def farG(c:Clocks)(i j:Nat):Int:=((c.Far[i]?.getD [])[j]?).getD 0
structure Dims (c:Clocks):Prop where
 segs:c.Segments.length<=511
 far:c.Far.length=c.Segments.length+1
 row:∀i,i<c.Far.length->(c.Far[i]?.getD []).length=c.Segments.length+1
theorem Dims.get{c:Clocks}(d:Dims c){i j:Nat}(hi:i<c.Segments.length+1)(b:j<c.Segments.length+1):c.Far[i]?=some (c.Far[i]?.getD [])/\(c.Far[i]?.getD [])[j]?=some (farG c i j):=by
 have a:i<c.Far.length:=by rw[d.far];exact hi
 have e:=d.row i a;refine⟨by rw[XK a];rfl,?_⟩;unfold farG;have:j<(c.Far[i]?.getD []).length:=by omega
 rw[XK this];rfl
structure Gr where
 F:Nat->Nat
 T:Nat->Nat
 W:Nat->Int
 E:Nat
structure Bs where
 far:Nat->Int
 edge:Nat->Nat
def bN:Int:=1152921504606846976
def bup{β:Type}(f:Nat->β)(k:Nat)(v:β):Nat->β:=λj=>if j=k then v else f j
def brel(g:Gr)(s:Bs)(i:Nat):Bs:=
 if s.far (g.F i)=bN\/s.far (g.T i)<=s.far (g.F i)+g.W i then s else⟨bup s.far (g.T i) (s.far (g.F i)+g.W i),bup s.edge (g.T i) i⟩
def bst(g:Gr)(s:Bs):Nat->Bs
 |0=>s
 |t+1=>brel g (bst g s t) (t%g.E)
theorem YE{β:Type}(f:Nat->β)(k:Nat)(v:β):bup f k v k=v:=Vs rfl
theorem QbO{β:Type}(f:Nat->β){k j:Nat}(v:β)(h:j≠k):bup f k v j=f j:=Vr h
theorem YI(g:Gr)(s:Bs)(i:Nat):
  (brel g s i=s/\(s.far (g.F i)=bN\/s.far (g.T i)<=s.far (g.F i)+g.W i))\/
  (s.far (g.F i)≠bN/\s.far (g.F i)+g.W i<s.far (g.T i)/\brel g s i=⟨bup s.far (g.T i) (s.far (g.F i)+g.W i),bup s.edge (g.T i) i⟩):=by
 unfold brel;by_cases h:s.far (g.F i)=bN\/s.far (g.T i)<=s.far (g.F i)+g.W i
 .exact .inl ⟨Vs h,h⟩
 .exact .inr ⟨λq=>h (.inl q),by omega,Vr h⟩
theorem QnB(g:Gr)(s:Bs)(i v:Nat):(brel g s i).far v<=s.far v:=by
 rcases YI g s i with⟨h,_⟩|⟨_,a,h⟩
 .rw[h];exact Int.le_refl _
 .rw[h];by_cases q:v=g.T i
  .subst q;simp only[YE];omega
  .simp only[QbO _ _ q];exact Int.le_refl _
theorem Qfe(g:Gr)(s:Bs)(v t:Nat):∀k,(bst g s (t+k)).far v<=(bst g s t).far v
 |0=>Int.le_refl _
 |k+1=>Int.le_trans (QnB g _ _ v) (Qfe g s v t k)
def bch(g:Gr)(s:Bs)(v t:Nat):Prop:=(bst g s (t+1)).far v≠(bst g s t).far v
theorem Jj(g:Gr)(s:Bs)(t:Nat):bst g s (t+1)=brel g (bst g s t) (t%g.E):=rfl
theorem QaC{g:Gr}{s:Bs}{v t:Nat}(h:bch g s v t):v=g.T (t%g.E)/\(bst g s t).far (g.F (t%g.E))≠bN/\
  (bst g s t).far (g.F (t%g.E))+g.W (t%g.E)<(bst g s t).far v/\bst g s (t+1)=⟨bup (bst g s t).far v ((bst g s t).far (g.F (t%g.E))+g.W (t%g.E)),bup (bst g s t).edge v (t%g.E)⟩:=by
 unfold bch at h;rw[Jj]at h⊢;rcases YI g (bst g s t) (t%g.E)with⟨q,_⟩|⟨d,b,a⟩
 .rw[q]at h;exact absurd rfl h
 .by_cases e:v=g.T (t%g.E)
  .subst e;exact⟨rfl,d,b,a⟩
  .rw[a]at h;exact absurd (QbO _ _ e) h
theorem Qms{g:Gr}{s:Bs}{v t:Nat}(h:bch g s v t):(bst g s (t+1)).edge v=t%g.E:=by
 rw[(QaC h).2.2.2];exact YE _ _ _
theorem QgT{g:Gr}{s:Bs}{v t:Nat}(h:¬bch g s v t):(bst g s (t+1)).far v=(bst g s t).far v/\(bst g s (t+1)).edge v=(bst g s t).edge v:=by
 have a:(bst g s (t+1)).far v=(bst g s t).far v:=Classical.not_not.1 h;refine⟨a,?_⟩;rw[Jj]at a⊢;rcases YI g (bst g s t) (t%g.E)with⟨q,_⟩|⟨f,d,b⟩
 .rw[q]
 .rw[b]at a⊢;by_cases e:v=g.T (t%g.E)
  .subst e;simp only[YE]at a;omega
  .exact QbO _ _ e
theorem Qba{g:Gr}{s:Bs}{v t:Nat}:∀k,(∀j,j<k->¬bch g s v (t+j))->(bst g s (t+k)).far v=(bst g s t).far v/\(bst g s (t+k)).edge v=(bst g s t).edge v
 |0,_=>⟨rfl,rfl⟩
 |k+1,h=>by
  have a:=QgT (h k (Xn k));have b:=Qba k λj hj=>h j (by omega);exact⟨a.1.trans b.1,a.2.trans b.2⟩
theorem Qmr{g:Gr}{s:Bs}{v t:Nat}(hE:0<g.E)(he:g.E<=t)(h:bch g s v t):∃j,j<g.E/\bch g s (g.F (t%g.E)) (t-g.E+j):=by
 obtain⟨e,i,n,-⟩:=QaC h;refine Classical.byContradiction λq=>?_;have k:=(Qba (t:=t-g.E) g.E λj l c=>q ⟨j,l,c⟩).1;rw[show t-g.E+g.E=t by omega]at k;have f:(t-g.E)%g.E=t%g.E:=by
  conv=>rhs;rw[show t=(t-g.E)+g.E by omega,Nat.add_mod_right]
 have d:=Qfe g s v (t-g.E+1) (g.E-1);rw[show t-g.E+1+(g.E-1)=t by omega]at d;have p:(bst g s (t-g.E+1)).far v<=(bst g s (t-g.E)).far (g.F (t%g.E))+g.W (t%g.E):=by
  rw[Jj,f,e];rcases YI g (bst g s (t-g.E)) (t%g.E)with⟨b,a⟩|⟨b,a,m⟩
  .rw[b];rcases a with a|a
   .rw[<- k]at a;exact absurd a i
   .exact a
  .rw[m];simp only[YE];exact Int.le_refl _
 omega
structure Lst (g:Gr) (s:Bs) (v t τ:Nat):Prop where
 lt:τ<t
 ch:bch g s v τ
 no:∀j,τ<j->j<t->¬bch g s v j
theorem Qi3{g:Gr}{s:Bs}{v:Nat}:∀{t τ:Nat},τ<t->bch g s v τ->∃τ',τ<=τ'/\Lst g s v t τ'
 |0,_,h,_=>absurd h (Xm _)
 |t+1,τ,h,c=>by
  by_cases q:bch g s v t
  .exact⟨t,by omega,⟨by omega,q,λj h1 h2=>by omega⟩⟩
  .rcases VB τ t with k|k
   .obtain⟨τ',h1,h2⟩:=Qi3 k c;exact⟨τ',h1,⟨Nat.lt_succ_of_lt h2.lt,h2.ch,λj a b=>by
     rcases VB j t with e|e
     .exact h2.no j a e
     .rwa [show j=t by omega]⟩⟩
   .rw[show τ=t by omega]at c;exact absurd c q
theorem Lst.edge{g:Gr}{s:Bs}{v t τ:Nat}(h:Lst g s v t τ):(bst g s t).edge v=τ%g.E:=by
 have k:=(Qba (t:=τ+1) (t-(τ+1)) λj a=>h.no (τ+1+j) (by omega) (by omega)).2;have:=h.lt;rw[show τ+1+(t-(τ+1))=t by omega]at k;rw[k,(QaC h.ch).2.2.2];exact YE _ _ _
def bp(g:Gr)(s:Bs)(v:Nat):Nat:=g.F (s.edge v)
theorem Lst.pred{g:Gr}{s:Bs}{v t τ:Nat}(hE:0<g.E)(h:Lst g s v t τ)(he:g.E<=τ):∃τ',τ-g.E<=τ'/\Lst g s (bp g (bst g s t) v) t τ':=by
 unfold bp;rw[h.edge];obtain⟨j,b,c⟩:=Qmr hE he h.ch;have:=h.lt;obtain⟨τ',d,a⟩:=Qi3 (t:=t) (by omega) c;exact⟨τ',by omega,a⟩
def bpk(g:Gr)(s:Bs):Nat->Nat->Nat
 |v,0=>v
 |v,k+1=>bp g s (bpk g s v k)
theorem Lst.back{g:Gr}{s:Bs}{v t:Nat}(hE:0<g.E):∀k {τ:Nat},Lst g s v t τ->k*g.E<=τ->∃τ',τ-k*g.E<=τ'/\Lst g s (bpk g (bst g s t) v k) t τ'
 |0,τ,h,_=>⟨τ,by omega,h⟩
 |k+1,τ,h,hk=>by
  rw[Xl]at hk;obtain⟨τ1,h1,h2⟩:=Lst.back hE k h (by omega);obtain⟨τ2,h3,h4⟩:=h2.pred hE (by omega);refine⟨τ2,?_,h4⟩;rw[Xl];omega
theorem Lst.low{g:Gr}{s:Bs}{v t τ:Nat}(h:Lst g s v t τ):(bst g s t).far (bp g (bst g s t) v)+g.W ((bst g s t).edge v)<=(bst g s t).far v:=by
 have k:=(Qba (t:=τ+1) (t-(τ+1)) λj f=>h.no (τ+1+j) (by omega) (by omega)).1;have lt:=h.lt;rw[show τ+1+(t-(τ+1))=t by omega]at k;obtain⟨d,e,b,a⟩:=QaC h.ch;unfold bp;rw[h.edge,k,a];simp only[YE];have:=Qfe g s (g.F (τ%g.E)) τ (t-τ);rw[show τ+(t-τ)=t by omega]at this;omega
def bsum(g:Gr)(s:Bs)(v:Nat):Nat->Int
 |0=>0
 |k+1=>bsum g s v k+g.W (s.edge (bpk g s v k))
theorem QjK{g:Gr}{s:Bs}(φ:Nat->Int)(v:Nat):∀k,(∀j,j<k->g.W (s.edge (bpk g s v j))<=φ (bpk g s v j)-φ (bpk g s v (j+1)))->
  bsum g s v k<=φ v-φ (bpk g s v k)/\ ∀j,j<k->g.W (s.edge (bpk g s v j))<φ (bpk g s v j)-φ (bpk g s v (j+1))->bsum g s v k<φ v-φ (bpk g s v k)
 |0,_=>⟨by simp[bsum,bpk],λj hj=>absurd hj (Xm _)⟩
 |k+1,h=>by
  obtain⟨a,b⟩:=QjK φ v k λj hj=>h j (by omega);have c:=h k (by omega);unfold bsum;refine⟨by omega,λj hj q=>?_⟩;rcases VB j k with e|e
  .have:=b j e q;omega
  .rw[show j=k by omega]at q;omega
theorem QhY{g:Gr}{s s':Bs}{v:Nat}:∀k,(∀j,j<k->s'.edge (bpk g s v j)=s.edge (bpk g s v j))->bpk g s' v k=bpk g s v k/\bsum g s' v k=bsum g s v k
 |0,_=>⟨rfl,rfl⟩
 |k+1,h=>by
  obtain⟨a,b⟩:=QhY k λj hj=>h j (by omega);unfold bpk bp bsum;rw[a,b,h k (by omega)];exact⟨rfl,rfl⟩
theorem QiT{g:Gr}{s:Bs}:∀(t:Nat) {v k:Nat},0<k->bpk g (bst g s t) v k=v->(∀j,j<k->∃τ,Lst g s (bpk g (bst g s t) v j) t τ)->bsum g (bst g s t) v k<0
 |0,v,k,h0,_,h=>by obtain⟨τ,q⟩:=h 0 h0;exact absurd q.lt (Xm _)
 |t+1,v,k,h0,hk,h=>by
  by_cases q:∃j,j<k/\bch g s (bpk g (bst g s (t+1)) v j) t
  .obtain⟨j,hj,c⟩:=q;obtain⟨e1,e2,e3,e4⟩:=QaC c;have ed:=Qms c;have key:∀i,i<k->g.W ((bst g s (t+1)).edge (bpk g (bst g s (t+1)) v i))<=(bst g s t).far (bpk g (bst g s (t+1)) v i)-(bst g s t).far (bpk g (bst g s (t+1)) v (i+1)):=by
    intro i l;by_cases z:bpk g (bst g s (t+1)) v i=bpk g (bst g s (t+1)) v j
    .have:bpk g (bst g s (t+1)) v (i+1)=g.F (t%g.E):=by
      show bp g _ _=_;unfold bp;rw[z,ed]
     rw[this,z,ed];omega
    .obtain⟨τ,hτ⟩:=h i l;have d:¬bch g s (bpk g (bst g s (t+1)) v i) t:=λu=>z ((QaC u).1.trans e1.symm);have m:Lst g s (bpk g (bst g s (t+1)) v i) t τ:=⟨by
      have:=hτ.lt;rcases VB τ t with e|e
      .exact e
      .rw[show τ=t by omega]at hτ;exact absurd hτ.ch d,hτ.ch,λj a b=>hτ.no j a (by omega)⟩
     have:=m.low;have r:=(QgT d).2;show g.W _<=_-(bst g s t).far (bp g _ _);unfold bp at this⊢;rw[r];omega
   have n:=(QjK (g:=g) (s:=bst g s (t+1)) (bst g s t).far v k key).2 j hj (by
    show g.W _<_-(bst g s t).far (bp g _ _);unfold bp;rw[ed];omega)
   rw[hk]at n;omega
  .have d:∀j,j<k->¬bch g s (bpk g (bst g s (t+1)) v j) t:=λj hj c=>q ⟨j,hj,c⟩;have p:=QhY (g:=g) (s:=bst g s (t+1)) (s':=bst g s t) (v:=v);have f:=λi (l:i<=k)=>p i λj hj=>(QgT (d j (by omega))).2.symm;rw[<- (f k (XT _)).2];refine QiT t h0 ((f k (XT _)).1.trans hk) λj hj=>?_;rw[(f j (by omega)).1];obtain⟨τ,hτ⟩:=h j hj;exact⟨τ,by
    have:=hτ.lt;rcases VB τ t with e|e
    .exact e
    .rw[show τ=t by omega]at hτ;exact absurd hτ.ch (d j hj),hτ.ch,λi a b=>hτ.no i a (by omega)⟩
theorem Qly:∀(n:Nat) (f:Nat->Nat),(∀i,i<=n->f i<n)->∃i j,i<j/\j<=n/\f i=f j
 |0,f,h=>absurd (h 0 (XT _)) (Xm _)
 |n+1,f,h=>by
  by_cases q:∃i,i<=n/\f i=f (n+1)
  .obtain⟨i,h1,h2⟩:=q;exact⟨i,n+1,by omega,by omega,h2⟩
  .have q':∀i,i<=n->f i≠f (n+1):=λi h1 h2=>q ⟨i,h1,h2⟩;obtain⟨i,j,h1,h2,h3⟩:=Qly n (λi=>if f i=n then f (n+1)else f i) (λi hi=>by
    have a:=h i (by omega);have b:=h (n+1) (by omega);have c:=q' i hi;show(if _ then _ else _)<n;split<;>omega)
   refine⟨i,j,h1,by omega,?_⟩;have c:=q' i (by omega);have d:=q' j (by omega);split at h3<;>split at h3<;>omega
theorem QcM(g:Gr)(s:Bs)(v a:Nat):∀b,bpk g s v (a+b)=bpk g s (bpk g s v a) b
 |0=>rfl
 |b+1=>by show bp g s (bpk g s v (a+b))=_;rw[QcM g s v a b];rfl
theorem QnC{g:Gr}{s:Bs}{v i d:Nat}(h:bpk g s v (i+d)=bpk g s v i)(m:Nat):bpk g s v (i+m+d)=bpk g s v (i+m):=by
 rw[show i+m+d=(i+d)+m by omega,QcM,h, <- QcM]
theorem Qn6{g:Gr}{s:Bs}{n v t τ:Nat}(hE:0<g.E)(u:∀i,g.F i<n)(w:v<n)(h:Lst g s v t τ)(hτ:(n-1)*g.E<=τ):
  ∃k,0<k/\k<=n/\bpk g (bst g s t) (bpk g (bst g s t) v n) k=bpk g (bst g s t) v n/\ ∀j,∃τ',Lst g s (bpk g (bst g s t) (bpk g (bst g s t) v n) j) t τ':=by
 have all:∀j,j<n->∃τ',Lst g s (bpk g (bst g s t) v j) t τ':=λj G=>by
  have:j*g.E<=(n-1)*g.E:=XC _ (by omega);obtain⟨τ',_,q⟩:=h.back hE j (by omega);exact⟨τ',q⟩
 obtain⟨i,j,B,z,x⟩:=Qly n (λj=>bpk g (bst g s t) v j) (λj _=>by
  cases j with
  |zero=>exact w
  |succ j=>exact u _)
 have l:=λm=>QnC (g:=g) (s:=bst g s t) (v:=v) (i:=i) (d:=j-i) (by rw[show i+(j-i)=j by omega];exact x.symm) m;refine⟨j-i,by omega,by omega,?_,λm=>?_⟩
 .rw[<- QcM];have:=l (n-i)
  rwa [show i+(n-i)=n by omega]at this
 .rw[<- QcM];have p:∀r,∃f,f<n/\bpk g (bst g s t) v (i+r)=bpk g (bst g s t) v f:=by
   intro r
   induction r using Nat.strongRecOn with
   |ind r y=>
    rcases VB (i+r) n with e|e
    .exact⟨i+r,e,rfl⟩
    .obtain⟨f,a,b⟩:=y (r-(j-i)) (by omega);refine⟨f,a,?_⟩;have:=l (r-(j-i));rw[show i+(r-(j-i))+(j-i)=i+r by omega]at this;rw[this,b]
  obtain⟨f,a,b⟩:=p (n+m-i);rw[show i+(n+m-i)=n+m by omega]at b;rw[b];exact all f a
theorem Qkx{g:Gr}{s:Bs}{t:Nat}(h:∀j v,j<g.E->¬bch g s v (t+j))(d:t%g.E=0):∀i,i<g.E->(bst g s t).far (g.F i)=bN\/(bst g s t).far (g.T i)<=(bst g s t).far (g.F i)+g.W i:=by
 intro i a;have k:=λv=>(Qba (g:=g) (s:=s) (v:=v) (t:=t) i λj m=>h j v (by omega)).1;have b:(t+i)%g.E=i:=by rw[Nat.add_mod,d,Xv,Nat.mod_mod,Nat.mod_eq_of_lt a]
 rcases YI g (bst g s (t+i)) i with⟨_,q⟩|⟨l,f,e⟩
 .rwa [k,k]at q
 .have:=h i (g.T i) a;unfold bch at this;rw[Jj,b,e]at this;simp only[YE]at this;omega
theorem QnA{g:Gr}{s:Bs}{M:Int}(d:∀i,-M<=g.W i/\g.W i<=M)(h:∀v,s.far v=bN\/s.far v=0)(t:Nat)(v:Nat):(bst g s t).far v=bN\/(-(M*t)<=(bst g s t).far v/\(bst g s t).far v<=M*t):=by
 induction t generalizing v with
 |zero=>
      rcases h v with q|q
      .exact .inl q
      .have:(bst g s 0).far v=0:=q;exact .inr (by simp[this])
 |succ t b=>
  have k:0<=M:=by have:=d 0;omega
  have e:M*((t+1:Nat):Int)=M*t+M:=by rw[Int.natCast_succ,Int.mul_add,Int.mul_one]
  rw[Jj];rcases YI g (bst g s t) (t%g.E)with⟨q,_⟩|⟨f,l,j⟩
  .rw[q];rcases b v with a|a
   .exact .inl a
   .exact .inr (by omega)
  .rw[j];by_cases z:v=g.T (t%g.E)
   .subst z;simp only[YE];have:=d (t%g.E);rcases b (g.F (t%g.E))with a|a
    .exact absurd a f
    .exact .inr (by omega)
   .simp only[QbO _ _ z];rcases b v with a|a
    .exact .inl a
    .exact .inr (by omega)
theorem Qnz{g:Gr}{s:Bs}{φ:Nat->Int}(hE:0<g.E){c:Int}(hφ:∀i,i<g.E->φ (g.T i)<=φ (g.F i)+g.W i)(e:∀v,s.far v=bN\/φ v-c<=s.far v)(t v:Nat):(bst g s t).far v=bN\/φ v-c<=(bst g s t).far v:=by
 induction t generalizing v with
 |zero=>exact e v
 |succ t b=>
  rw[Jj];rcases YI g (bst g s t) (t%g.E)with⟨q,_⟩|⟨d,h,f⟩
  .rw[q];exact b v
  .rw[f];by_cases z:v=g.T (t%g.E)
   .subst z;simp only[YE];have:=hφ (t%g.E) (Nat.mod_lt _ hE);rcases b (g.F (t%g.E))with a|a
    .exact absurd a d
    .exact .inr (by omega)
   .simp only[QbO _ _ z];exact b v
inductive Wk (g:Gr) (a:Nat):Nat->Int->Prop
 |nil:Wk g a a 0
 |cons {v:Nat} {d:Int} (h:Wk g a v d) (i:Nat) (hi:i<g.E) (hv:v=g.F i):Wk g a (g.T i) (d+g.W i)
theorem QoZ{g:Gr}{s:Bs}{a:Nat}(hE:0<g.E)(e:∀v,s.far v=bN\/Wk g a v (s.far v))(t v:Nat):(bst g s t).far v=bN\/Wk g a v ((bst g s t).far v):=by
 induction t generalizing v with
 |zero=>exact e v
 |succ t b=>
  rw[Jj];rcases YI g (bst g s t) (t%g.E)with⟨q,_⟩|⟨d,h,f⟩
  .rw[q];exact b v
  .rw[f];by_cases z:v=g.T (t%g.E)
   .subst z;simp only[YE];rcases b (g.F (t%g.E))with a|a
    .exact absurd a d
    .exact .inr (.cons a _ (Nat.mod_lt _ hE) rfl)
   .simp only[QbO _ _ z];exact b v
set_option maxRecDepth 10000
def grOf(es:List Edge):Gr:=⟨λi=>match es[i]? with|some x=>x.From.toNat|none=>0,λi=>match es[i]? with|some x=>x.To.toNat|none=>0,λi=>match es[i]? with|some x=>x.W|none=>0,es.length⟩
structure EdgOk (n:Nat) (x:Edge):Prop where
 f0:0<=x.From
 f1:x.From<(n:Int)
 t0:0<=x.To
 t1:x.To<(n:Int)
 w0: -35184372088832<=x.W
 w1:x.W<=35184372088832
structure SysOk (n:Nat) (es:List Edge):Prop where
 n0:1<=n
 n1:n<=64
 e1:es.length<=256
 ok:∀x∈es,EdgOk n x
theorem Qht{es:List Edge}{i:Nat}{x:Edge}(h:es[i]?=some x):(grOf es).F i=x.From.toNat/\(grOf es).T i=x.To.toNat/\(grOf es).W i=x.W:=by
 simp[grOf,h]
theorem gr_F{n:Nat}{es:List Edge}(h:SysOk n es)(i:Nat):(grOf es).F i<n:=by
 have:=h.n0;show(match es[i]? with|some x=>x.From.toNat|none=>0)<n;cases q:es[i]? with
 |none=>exact this
 |some x=>obtain⟨b,e,d,a,_,_⟩:=h.ok x (VG q);simp only;omega
theorem gr_T{n:Nat}{es:List Edge}(h:SysOk n es)(i:Nat):(grOf es).T i<n:=by
 have:=h.n0;show(match es[i]? with|some x=>x.To.toNat|none=>0)<n;cases q:es[i]? with
 |none=>exact this
 |some x=>obtain⟨b,e,d,a,_,_⟩:=h.ok x (VG q);simp only;omega
theorem gr_W{n:Nat}{es:List Edge}(h:SysOk n es)(i:Nat): -35184372088832<=(grOf es).W i/\(grOf es).W i<=35184372088832:=by
 show-35184372088832<=(match es[i]? with|some x=>x.W|none=>0)/\(match es[i]? with|some x=>x.W|none=>0)<=35184372088832;cases q:es[i]? with
 |none=>simp
 |some x=>have:=h.ok x (VG q);exact⟨this.w0,this.w1⟩
theorem Qf1{n:Nat}{es:List Edge}(h:SysOk n es):Ev (λm=>F_bl m ⟨(n:Int),es⟩) 0:=by
 have u:=h.n0;have t:=h.n1;have j:=h.e1;unfold F_bl;refine Ea (v:=false) ?_ ?_
 .simp only[QP (show¬((n:Int)<1)by omega),QP (show¬(512<(n:Int))by omega),QP (show¬(8192<(es.length:Int))by omega),Vp];exact Qa _
 refine Yg ?_;have loop:∀(q:List Edge) (i:Nat),es.drop i=q->i<=es.length->EvI (λm=>F_gj m ⟨(n:Int),es⟩) (i:Int) (Ctl.cont ()):=by
  intro q
  induction q with
  |nil=>
   intro i d e;refine Ei ?_;unfold F_gj;simp only[Yp d e,Vp];exact Qa _
  |cons x q f=>
   intro i d e;obtain⟨a,b⟩:=QJ (by omega) d;have g:=a.lt';refine Et ?_ (f (i+1) b (by omega));obtain⟨r,l,k,s,p,w1⟩:=h.ok x a.mem;unfold F_gj;simp only[a.lt,Vn,a.ix,XJ,a.nx];refine Ea (v:=false) ?_ (Qa _);rw[QP (show¬((if x.To<x.From then x.To else x.From)<0)by split<;>omega),Vp,QP (show¬((n:Int)<=(if x.From<x.To then x.To else x.From))by split<;>omega),Vp,QP (show¬(x.W< -35184372088832)by omega),Vp,QP (show¬(35184372088832<x.W)by omega)];exact Qa _
 exact Ea (loop es 0 rfl (XU _)).ev (Qa _)
structure RepB (l0:List Int) (lo n:Nat) (l ed:List Int) (s:Bs):Prop where
 len:l.length=l0.length
 far:∀v,v<n->l[lo+v]?=some (s.far v)
 out:∀j,j<lo\/lo+n<=j->l[j]?=l0[j]?
 eln:ed.length=n
 edge:∀v,v<n->ed[v]?=some ((s.edge v:Nat):Int)
theorem QeP{l:List Int}{lo i:Nat}{x:Int}(h:l[lo+i]?=some x){m:Int}(a:((lo+i:Nat):Int)<m):Qbz l (lo:Int) m (i:Int)=some x:=by
 unfold Qbz;rw[Vt (show(0:Int)<=(lo:Int)by omega),Vt (show(0:Int)<=(i:Int)by omega),Vt (show(lo:Int)+(i:Int)<m by omega)];rw[show(lo:Int)+(i:Int)=((lo+i:Nat):Int)by omega];exact QQ h
theorem Ql2{n:Nat}{es:List Edge}(h:SysOk n es){l0 l a:List Int}{lo:Nat}{s:Bs}(r:RepB l0 lo n l a s)(L:∀v,v<n-> -1152921504606846976<=s.far v/\s.far v<=1152921504606846976){i:Nat}(hi:i<es.length):
  ∃l' ed',RepB l0 lo n l' ed' (brel (grOf es) s i)/\ ∃b:Bool,(b=true↔ ¬(s.far ((grOf es).F i)=bN\/s.far ((grOf es).T i)<=s.far ((grOf es).F i)+(grOf es).W i))/\
   Ev (λm=>F_bg m (i:Int) (n:Int) es l (lo:Int) ((lo+n:Nat):Int) a) (l',ed',b):=by
 have t:=XK hi;generalize es[i]=x at t;obtain⟨V,f1,Y,X,w0,w1⟩:=h.ok x (VG t);obtain⟨gF,gT,J⟩:=Qht t;have H:x.From=((x.From.toNat:Nat):Int):=by omega
 have w:x.To=((x.To.toNat:Nat):Int):=by omega
 have y:x.From.toNat<n:=by omega
 have p:x.To.toNat<n:=by omega
 have M:=r.far _ y;have z:=r.far _ p;have B:=QeP M (m:=((lo+n:Nat):Int)) (by omega);have G:=QeP z (m:=((lo+n:Nat):Int)) (by omega);rw[<- H]at B;rw[<- w]at G;have bF:=L _ y;have R:IntKind.i64.wrap (s.far x.From.toNat+x.W)=s.far x.From.toNat+x.W:=Qq (by omega) (by omega);unfold F_bg;simp only[QQ t,XJ,B,G,R];unfold brel;rw[gF,gT,J];by_cases g:s.far x.From.toNat=bN
 .refine⟨l,a,by rw[Vs (.inl g)];exact r,false,by simp[g],?_⟩;rw[show(s.far x.From.toNat==1152921504606846976)=true by rw[g];rfl];exact Qa _
 .have d:(s.far x.From.toNat==1152921504606846976)=false:=by simpa[bN]using g
  by_cases k:s.far x.To.toNat<=s.far x.From.toNat+x.W
  .refine⟨l,a,by rw[Vs (.inr k)];exact r,false,by simp[k],?_⟩;rw[d,QT k];exact Qa _
  .have E:¬(s.far x.From.toNat=bN\/s.far x.To.toNat<=s.far x.From.toNat+x.W):=λq=>q.elim g k;have f:lo+x.To.toNat<l.length:=(XL.1 z).1;refine⟨l.set (lo+x.To.toNat) (s.far x.From.toNat+x.W),a.set x.To.toNat (i:Int),?_,true,by simp[E],?_⟩
   .rw[Vr E];refine⟨by rw[X3];exact r.len,λv u=>?_,λj N=>?_,by rw[X3];exact r.eln,λv u=>?_⟩
    .by_cases e:v=x.To.toNat
     .subst e;rw[Xa f];simp only[YE]
     .rw[XP (by omega)];simp only[QbO _ _ e];exact r.far v u
    .rw[XP (by omega)];exact r.out j N
    .by_cases e:v=x.To.toNat
     .subst e;rw[Xa (by rw[r.eln];exact p)];simp only[YE]
     .rw[XP (by omega)];simp only[QbO _ _ e];exact r.edge v u
   .rw[d,QP k];have O:QaX l ((lo:Int)+x.To) (s.far x.From.toNat+x.W)=some (l.set (lo+x.To.toNat) (s.far x.From.toNat+x.W)):=by
     rw[show(lo:Int)+x.To=((lo+x.To.toNat:Nat):Int)by omega];exact QaG l _ f
    have Q:idx a x.To=some ((s.edge x.To.toNat:Nat):Int):=by rw[w];exact QQ (r.edge _ p)
    have P:QaX a x.To (i:Int)=some (a.set x.To.toNat (i:Int)):=by rw[w];exact QaG a _ (by rw[r.eln];exact p)
    simp only[Vp,O,Q,P,XJ];exact Qa _
def Ini(s:Bs):Prop:=∀v,s.far v=bN\/s.far v=0
theorem Qga{n:Nat}{es:List Edge}(h:SysOk n es){s:Bs}(b:Ini s){t:Nat}(d:t<=n*es.length)(v:Nat): -1152921504606846976<=(bst (grOf es) s t).far v/\(bst (grOf es) s t).far v<=1152921504606846976:=by
 have a:t<=16384:=XV d (XV (Nat.mul_le_mul h.n1 h.e1) (by decide));rcases QnA (M:=35184372088832) (gr_W h) b t v with q|q
 .rw[q];decide
 .omega
theorem Qc7{E k i:Nat}(hi:i<E):(k*E+i)%E=i:=by rw[Nat.add_comm,Nat.add_mul_mod_self_right,Nat.mod_eq_of_lt hi]
theorem Ql1{n:Nat}{es:List Edge}(h:SysOk n es){l0:List Int}{lo:Nat}{s:Bs}(h0:Ini s){k:Nat}(O:k<n):
  ∀(m i:Nat) (l f:List Int) (a:Int),i+m=es.length->RepB l0 lo n l f (bst (grOf es) s (k*es.length+i))->
  ((a= -1/\ ∀j v,j<i->¬bch (grOf es) s v (k*es.length+j))\/ ∃v τ,a=((v:Nat):Int)/\v<n/\k*es.length<=τ/\τ<k*es.length+i/\bch (grOf es) s v τ)->
  ∃l' ed' last',RepB l0 lo n l' ed' (bst (grOf es) s ((k+1)*es.length))/\EvI (λm=>F_dv m (n:Int) es (lo:Int) ((lo+n:Nat):Int)) (l,f,a,(i:Int)) (l',ed',last')/\
   ((last'= -1/\ ∀j v,j<es.length->¬bch (grOf es) s v (k*es.length+j))\/ ∃v τ,last'=((v:Nat):Int)/\v<n/\k*es.length<=τ/\τ<(k+1)*es.length/\bch (grOf es) s v τ):=by
 intro m;have e1:(k+1)*es.length=k*es.length+es.length:=by rw[XA,Nat.one_mul]
 induction m with
 |zero=>
  intro i l f a M r q;obtain rfl:i=es.length:=by omega
  rw[e1];refine⟨l,f,a,r,Ei ?_,q⟩;unfold F_dv;simp only[QP (show¬((es.length:Int)<(es.length:Int))by omega),Vp];exact Qa _
 |succ m ih=>
  intro i l f a M r q;have d:i<es.length:=by omega
  have hE:=h.e1;have X:k*es.length+i<=n*es.length:=XV (by rw[e1];omega:k*es.length+i<=(k+1)*es.length) (XC _ O);obtain⟨l',ed',V,b,R,N⟩:=Ql2 h r (λv _=>Qga h h0 X v) d;have r2:RepB l0 lo n l' ed' (bst (grOf es) s (k*es.length+(i+1))):=by
   rw[<- Nat.add_assoc,Jj,show(grOf es).E=es.length from rfl,Qc7 d];exact V
  have hT:=gr_T h i;have F:b=true↔bch (grOf es) s ((grOf es).T i) (k*es.length+i):=by
   rw[R];unfold bch;rw[Jj,show(grOf es).E=es.length from rfl,Qc7 d];rcases YI (grOf es) (bst (grOf es) s (k*es.length+i)) i with⟨B,G⟩|⟨B,G,z3⟩
   .rw[B];exact⟨λc=>absurd G c,λc=>absurd rfl c⟩
   .rw[z3];simp only[YE];exact⟨λ_=>by omega,λ_ c=>c.elim B (by omega)⟩
  have H:b=false->∀v,¬bch (grOf es) s v (k*es.length+i):=λg v c=>by
   have:=(QaC c).1;rw[show(grOf es).E=es.length from rfl,Qc7 d]at this;subst this;rw[F.2 c]at g;cases g
  have p:=XK d;generalize es[i]=x at p;obtain⟨_,gT,_⟩:=Qht p;obtain⟨f0,f1,t0,t1,_,_⟩:=h.ok x (VG p);have y:Ev (λm=>F_dv m (n:Int) es (lo:Int) ((lo+n:Nat):Int) (l,f,a,(i:Int))) (.cont (l',ed',(bif b then x.To else a),((i+1:Nat):Int))):=by
   unfold F_dv;simp only[QT (show(i:Int)<(es.length:Int)by omega),Vn,QZ (show i<9223372036854775807 by omega)];refine Ea N ?_;refine Ea (v:=bif b then x.To else a) ?_ (Qa _);cases b
   .exact Qa _
   .simp only[Vn,QQ p,XJ];exact Qa _
  obtain⟨Q,t,e,J,W,Y⟩:=ih (i+1) l' ed' (bif b then x.To else a) (by omega) r2 (by
   cases b with
   |false=>
    simp only[Vp];rcases q with⟨u,w⟩|⟨v,τ,u,w,P,q4,L⟩
    .refine .inl ⟨u,λj v hj c=>?_⟩;rcases VB j i with z|z
     .exact w j v z c
     .obtain rfl:j=i:=by omega
      exact H rfl v c
    .exact .inr ⟨v,τ,u,w,P,by omega,L⟩
   |true=>
    simp only[Vn];refine .inr ⟨x.To.toNat,k*es.length+i,by omega,by omega,by omega,by omega,?_⟩;rw[<- gT];exact F.1 rfl)
  exact⟨Q,t,e,J,Et y W,Y⟩
def Hold(es:List Edge)(s:Bs):Prop:=∀i,i<es.length->s.far ((grOf es).F i)=bN\/s.far ((grOf es).T i)<=s.far ((grOf es).F i)+(grOf es).W i
theorem Ql0{n:Nat}{es:List Edge}(h:SysOk n es){l0 l a:List Int}{lo:Nat}{s:Bs}(V:Ini s)(r:RepB l0 lo n l a s):
  ∃l' ed' last T,RepB l0 lo n l' ed' (bst (grOf es) s T)/\T<=n*es.length/\Ev (λm=>F_ah m (n:Int) es l (lo:Int) ((lo+n:Nat):Int) a) (l',ed',last)/\
   ((last= -1/\Hold es (bst (grOf es) s T))\/ ∃v τ,last=((v:Nat):Int)/\v<n/\T=n*es.length/\(n-1)*es.length<=τ/\Lst (grOf es) s v T τ):=by
 have h1:=h.n0;have h2:=h.n1;have loop:∀(m k:Nat) (l a:List Int) (last:Int),k+m=n->RepB l0 lo n l a (bst (grOf es) s (k*es.length))->
   (0<k->∃v τ,last=((v:Nat):Int)/\v<n/\(k-1)*es.length<=τ/\τ<k*es.length/\bch (grOf es) s v τ)->
   ∃b:Ctl (List Int×List Int×Int) (List Int×List Int×Int),EvI (λm=>F_dz m (n:Int) es (lo:Int) ((lo+n:Nat):Int)) (l,a,last,(k:Int)) b/\
    ((∃l' ed' T,b=.done (l',ed',-1)/\RepB l0 lo n l' ed' (bst (grOf es) s T)/\T<=n*es.length/\Hold es (bst (grOf es) s T))\/
     ∃l' ed' v τ,b=.cont (l',ed',((v:Nat):Int))/\RepB l0 lo n l' ed' (bst (grOf es) s (n*es.length))/\v<n/\(n-1)*es.length<=τ/\τ<n*es.length/\bch (grOf es) s v τ):=by
  intro m
  induction m with
  |zero=>
   intro k l a last M r q;obtain rfl:k=n:=by omega
   obtain⟨v,τ,rfl,P,O,Y,H⟩:=q (by omega);refine⟨.cont (l,a,(v:Int)),Ei ?_,.inr ⟨l,a,v,τ,rfl,r,P,O,Y,H⟩⟩;unfold F_dz;simp only[QP (show¬((k:Int)<(k:Int))by omega),Vp];exact Qa _
  |succ m R=>
   intro k l a last M r q;obtain⟨y,d,u,E,F,p⟩:=Ql1 h V (k:=k) (l0:=l0) (lo:=lo) (by omega) es.length 0 l a (-1) (by omega) r (.inl ⟨rfl,λj v e=>absurd e (Xm _)⟩);rcases p with⟨rfl,p⟩|⟨v,τ,rfl,w1,w2,w3,Q⟩
   .refine⟨.done (y,d,-1),Ei ?_,.inl ⟨y,d,(k+1)*es.length,rfl,E,XC _ (by omega),λi J=>?_⟩⟩
    .unfold F_dz;simp only[QT (show(k:Int)<(n:Int)by omega),Vn];refine Ea F.ev ?_;exact Qa _
    .have L:=Qkx (g:=grOf es) (s:=s) (t:=k*es.length) (λj v e=>p j v e) (by show(k*es.length)%es.length=0;exact Nat.mul_mod_left _ _) i J;have G:=λv=>(Qba (g:=grOf es) (s:=s) (v:=v) (t:=k*es.length) es.length λj e=>p j v e).1;rw[XA,Nat.one_mul,G,G];exact L
   .obtain⟨b,f,w⟩:=R (k+1) y d (v:Int) (by omega) E (λ_=>⟨v,τ,rfl,w1,w2,w3,Q⟩);refine⟨b,Et ?_ f,w⟩;unfold F_dz;simp only[QT (show(k:Int)<(n:Int)by omega),Vn,QZ (show k<9223372036854775807 by omega)];refine Ea F.ev ?_;simp only[QP (show¬((v:Int)<0)by omega),Vp];exact Qa _
 obtain⟨b,f,w⟩:=loop n 0 l a 0 (by omega) (by rw[Nat.zero_mul];exact r) (λh=>absurd h (Nat.lt_irrefl _));unfold F_ah;rcases w with⟨l',ed',T,rfl,x,z,B⟩|⟨l',ed',v,τ,rfl,x,z,B,X,c5⟩
 .exact⟨l',ed',-1,T,x,z,Ea f.ev (Qa _),.inl ⟨rfl,B⟩⟩
 .obtain⟨τ',W,N⟩:=Qi3 (t:=n*es.length) X c5;exact⟨l',ed',(v:Int),n*es.length,x,XT _,Ea f.ev (Qa _),.inr ⟨v,τ',rfl,z,rfl,XV B W,N⟩⟩
set_option maxRecDepth 10000
def PotB(es:List Edge)(φ:Nat->Int):Prop:=∀i,i<es.length->φ ((grOf es).T i)<=φ ((grOf es).F i)+(grOf es).W i
def wSum(es:List Edge)(l:List Int):Int:=(l.map λc=>(grOf es).W c.toNat).sum
theorem Qk5{a b:List Int}(h:a.Perm b):a.sum=b.sum:=by
 induction h with
 |nil=>rfl
 |cons x _ ih=>simp[ih]
 |swap x y l=>simp only[List.sum_cons];omega
 |trans _ _ h1 h2=>exact h1.trans h2
theorem QjZ(es:List Edge){a b:List Int}(h:a.Perm b):wSum es a=wSum es b:=Qk5 (h.map _)
theorem Qk2(es:List Edge)(a b:List Int):wSum es (a++b)=wSum es a+wSum es b:=by simp[wSum]
theorem QiN(l0:List Int)(y:l0.length<=1048576):∃r:List Int,r.Perm l0/\Ev (λm=>F_bi m l0) r:=by
 have loop:∀(m i j:Nat) (l:List Int),l.length=l0.length->l.Perm l0->j<=l0.length->j-i<=m->∃r:List Int,r.Perm l0/\EvI (λm=>F_et m) (l,(i:Int),(j:Int)-1) r:=by
  intro m
  induction m with
  |zero=>
   intro i j l g a u s;refine⟨l,a,Ei ?_⟩;unfold F_et;simp only[QP (show¬((i:Int)<(j:Int)-1)by omega),Vp];exact Qa _
  |succ m w=>
   intro i j l g a u s;by_cases q:i+1<j
   .have d:i<l.length:=by omega
    have b:j-1<l.length:=by omega
    obtain⟨r,f,e⟩:=w (i+1) (j-1) ((l.set i l[j-1]).set (j-1) l[i]) (by simp[g]) ((List.set_set_perm d b).trans a) (by omega) (by omega);refine⟨r,f,Et ?_ e⟩;unfold F_et;have n:(j:Int)-1=((j-1:Nat):Int):=by omega
    have x:=QQ (XK d);have h:=QQ (XK b);have p:idx (l.set i l[j-1]) ((j-1:Nat):Int)=some l[j-1]:=by
     refine QQ ?_;rw[XP (by omega)];exact XK b
    have t:=QaG l l[j-1] d;have k:=QaG (l.set i l[j-1]) l[i] (i:=j-1) (by rw[X3];exact b);simp only[n,QT (show(i:Int)<((j-1:Nat):Int)by omega),Vn,x,h,t,p,k,XJ,QZ (show i<9223372036854775807 by omega),Qq (show-9223372036854775808<=((j-1:Nat):Int)-1 by omega) (by omega)];exact Qa _
   .refine⟨l,a,Ei ?_⟩;unfold F_et;simp only[QP (show¬((i:Int)<(j:Int)-1)by omega),Vp];exact Qa _
 obtain⟨r,f,e⟩:=loop l0.length 0 l0.length l0 rfl (List.Perm.refl _) (XT _) (by omega);refine⟨r,f,?_⟩;unfold F_bi;rw[Qq (by omega) (by omega)];exact Ea e.ev (Qa _)
theorem QlG{α:Type}(n:Nat)(z:α)(h:n<=4294967296):mk (n:Int) z=some (List.replicate n z):=by
 unfold mk;rw[QT (by omega),QT (by omega)];simp
theorem QkZ(n:Nat)(x:Int)(f:Nat->Int)(lo:Nat)(l:List Int)(hl:∀v,v<n->l[lo+v]?=some (f v)):RepB l lo n l (List.replicate n 0) ⟨f,λ_=>0⟩:=
 ⟨rfl,hl,λ_ _=>rfl,by simp,λv hv=>by simp[List.getElem?_replicate,hv]⟩
theorem Qdm{n:Nat}{es:List Edge}(h:SysOk n es):
  (∃φ,PotB es φ)/\Ev (λm=>F_al m ⟨(n:Int),es⟩) []\/
  (¬ ∃φ,PotB es φ)/\ ∃cyc,cyc≠[]/\cyc.length<=n/\(∀c∈cyc,∃j,j<es.length/\c=((j:Nat):Int))/\wSum es cyc<0/\Ev (λm=>F_al m ⟨(n:Int),es⟩) cyc:=by
 have h0:=h.n0;have h1:=h.n1;have hE:=h.e1;have hm:=QlG n (0:Int) (by omega)
 let s:Bs:=⟨λ_=>0,λ_=>0⟩
 have r0:RepB (List.replicate n 0) 0 n (List.replicate n 0) (List.replicate n 0) s:=QkZ n 0 _ 0 _ λv hv=>by simp[List.getElem?_replicate,hv]
 have ab:Ini s:=λv=>.inr rfl;obtain⟨l',N,ae,T,Y,g2,g3,g4⟩:=Ql0 h ab r0;have hl:((List.replicate n (0:Int)).length:Int)=((0+n:Nat):Int):=by simp
 rcases g4 with⟨rfl,g4⟩|⟨v,τ,rfl,w1,rfl,w2,w3⟩
 .refine .inl ⟨⟨(bst (grOf es) s T).far,λi hi=>?_⟩,?_⟩
  .rcases g4 i hi with q|q
   .have:=Qfe (grOf es) s ((grOf es).F i) 0 T;rw[Xv,q]at this;exact absurd (show bN<=(0:Int)from this) (by decide)
   .exact q
  .unfold F_al;simp only[hm,XJ,hl];refine Ea g3 ?_;exact Qa _
 .have M:0<es.length:=by
   rcases Nat.eq_zero_or_pos es.length with e|e
   .have:=w3.lt;rw[e,Xx]at this;omega
   .exact e
  have L:0<(grOf es).E:=M;generalize hS:bst (grOf es) s (n*es.length)=S at Y;obtain⟨k,k0,k1,V,H⟩:=Qn6 (g:=grOf es) L (gr_F h) w1 w3 w2;rw[hS]at V H;have P:∀j,j<n->∃τ',Lst (grOf es) s (bpk (grOf es) S v j) (n*es.length) τ':=λj hj=>by
   have:j*es.length<=(n-1)*es.length:=XC _ (by omega);obtain⟨τ',_,q⟩:=w3.back L j (XV this w2);rw[hS]at q;exact⟨τ',q⟩
  have d:∀u τ',Lst (grOf es) s u (n*es.length) τ'->S.edge u<es.length:=λu τ' q=>by
   have:=q.edge;rw[hS]at this;rw[this];exact Nat.mod_lt _ M
  have r:∀u,u<n->∀j,bpk (grOf es) S u j<n:=λu O j=>by
   cases j with
   |zero=>exact O
   |succ j=>exact gr_F h _
  have l:∀u,S.edge u<es.length->∃x:Edge,es[S.edge u]?=some x/\x.From=((bp (grOf es) S u:Nat):Int):=λu O=>by
   refine⟨es[S.edge u],XK O,?_⟩;obtain⟨q,_,_⟩:=Qht (XK O);have:=h.ok _ (Vc O);unfold bp;rw[q];have:=this.f0;omega
  have w:∀(m i:Nat),i+m=n->EvI (λq=>F_gu q ⟨(n:Int),es⟩ (l',N,(v:Int))) (((bpk (grOf es) S v i:Nat):Int),(i:Int)) ((bpk (grOf es) S v n:Nat):Int):=by
   intro m
   induction m with
   |zero=>
    intro i hi;obtain rfl:i=n:=by omega
    refine Ei ?_;unfold F_gu;simp only[QP (show¬((i:Int)<(i:Int))by omega),Vp];exact Qa _
   |succ m G=>
    intro i hi;refine Et ?_ (G (i+1) (by omega));obtain⟨τ',q⟩:=P i (by omega);have e1:=QQ (Y.edge _ (r v w1 i));obtain⟨x,R,W⟩:=l _ (d _ _ q);unfold F_gu;simp only[QT (show(i:Int)<(n:Int)by omega),Vn,e1,XJ,QQ R,W,QZ (show i<9223372036854775807 by omega)];exact Qa _
  generalize hp:bpk (grOf es) S v n=p at w V H;have aa:p<n:=by rw[<- hp];exact r v w1 n
  let cl:Nat->List Int:=λj=>(List.range j).map λi=>((S.edge (bpk (grOf es) S p i):Nat):Int)
  have f:∀j,cl (j+1)=cl j++[((S.edge (bpk (grOf es) S p j):Nat):Int)]:=λj=>by simp[cl,Xu]
  have B:∀(m j:Nat),j+m=k->j<k->(∀i,0<i->i<=j->bpk (grOf es) S p i≠p)->∃t,0<t/\t<=n/\bpk (grOf es) S p t=p/\EvI (λq=>F_gd q ⟨(n:Int),es⟩ (l',N,(v:Int)) ((p:Nat):Int)) (cl j,((bpk (grOf es) S p j:Nat):Int)) (cl t):=by
   intro m
   induction m with
   |zero=>intro j a b;omega
   |succ m G=>
    intro j a b c;obtain⟨τ',q⟩:=H j;have e1:=QQ (Y.edge _ (r p aa j));obtain⟨x,R,W⟩:=l _ (d _ _ q);have ea:app (cl j) [((S.edge (bpk (grOf es) S p j):Nat):Int)]=some (cl (j+1)):=by
     rw[f];exact QcN _ _ (by simp[cl];omega)
    have e2:((bp (grOf es) S (bpk (grOf es) S p j):Nat):Int)=((bpk (grOf es) S p (j+1):Nat):Int):=rfl;by_cases z:bpk (grOf es) S p (j+1)=p
    .refine⟨j+1,by omega,by omega,z,Ei ?_⟩;unfold F_gd;simp only[e1,XJ,ea,QQ R,W,e2,z,BEq.rfl,Vn];exact Qa _
    .have ad:j+1<k:=by
      rcases VB (j+1) k with y|y
      .exact y
      .rw[show k=j+1 by omega]at V;exact absurd V z
     obtain⟨t,y1,y2,X,y4⟩:=G (j+1) (by omega) ad (λi i1 i2=>by
      rcases VB i (j+1)with y|y
      .exact c i i1 (by omega)
      .rwa [show i=j+1 by omega])
     refine⟨t,y1,y2,X,Et ?_ y4⟩;unfold F_gd;have zb:(((bpk (grOf es) S p (j+1):Nat):Int)==(p:Int))=false:=Vy.2 λe=>z (by omega);simp only[e1,XJ,ea,QQ R,W,e2,zb,Vp];exact Qa _
  obtain⟨t,y1,y2,X,y4⟩:=B k 0 (by omega) k0 (λi a b=>by omega);have neg:bsum (grOf es) S p t<0:=by
   have:=QiT (g:=grOf es) (s:=s) (n*es.length) (v:=p) (k:=t) y1 (by rw[hS];exact X) (λj _=>by rw[hS];exact H j)
   rwa [hS]at this
  have J:∀j,wSum es (cl j)=bsum (grOf es) S p j:=by
   intro j
   induction j with
   |zero=>rfl
   |succ j G=>rw[f,Qk2,G];simp[wSum,bsum]
  obtain⟨Q,rp,re⟩:=QiN (cl t) (by simp[cl];omega);have rl:Q.length=t:=by rw[rp.length_eq];simp[cl]
  refine .inr ⟨?_,Q,?_,by omega,λc hc=>?_,by rw[QjZ es rp,J];exact neg,?_⟩
  .rintro⟨φ,hφ⟩;have low:∀j,φ p-φ (bpk (grOf es) S p j)<=bsum (grOf es) S p j:=by
    intro j
    induction j with
    |zero=>simp[bsum,bpk]
    |succ j G=>
     obtain⟨τ',q⟩:=H j;have ac:=d _ _ q;have a:=hφ _ ac;have hT:=(QaC q.ch).1;have he:=q.edge;rw[hS]at he;rw[<- he]at hT;rw[<- hT]at a;have e3:bpk (grOf es) S p (j+1)=(grOf es).F (S.edge (bpk (grOf es) S p j)):=rfl;unfold bsum;rw[e3];omega
   have:=low t;rw[X]at this;omega
  .intro e;rw[e]at rl;simp at rl;omega
  .have:=rp.mem_iff.1 hc;obtain⟨i,_,rfl⟩:=Xe.1 this;obtain⟨τ',q⟩:=H i;exact⟨_,d _ _ q,rfl⟩
  .unfold F_al;simp only[hm,XJ,hl];refine Ea g3 ?_;simp only[QP (show¬((v:Int)<0)by omega),Vp];refine Ea (w n 0 (by omega)).ev ?_;refine Ea y4.ev ?_;refine Ea (v:=Q) ?_ (Qa _);unfold Qhr;refine Ea re ?_;rw[show Nat.beq (cl t).length Q.length=true by rw[rp.length_eq];exact VE _];exact Qa _
set_option maxRecDepth 10000
theorem Qnb:∀k:Fin 65,(decide (0<(IntKind.u64.wrap ((IntKind.u64.wrap ((IntKind.u64.wrap ((QY .u64 (IntKind.u64.wrap ([(0:Int)].length:Int)) 32)*(QY .u64 (IntKind.u64.wrap (((k:Nat)*(k:Nat):Nat):Int)) 32)))+(QY .u64 (IntKind.u64.wrap ((IntKind.u64.wrap ((QY .u64 (IntKind.u64.wrap ([(0:Int)].length:Int)) 32)*(Yk .u64 (IntKind.u64.wrap (((k:Nat)*(k:Nat):Nat):Int)) 4294967295)))+(QY .u64 (IntKind.u64.wrap ((Yk .u64 (IntKind.u64.wrap ([(0:Int)].length:Int)) 4294967295)*(Yk .u64 (IntKind.u64.wrap (((k:Nat)*(k:Nat):Nat):Int)) 4294967295))) 32))) 32)))+(QY .u64 (IntKind.u64.wrap ((Yk .u64 (IntKind.u64.wrap ((IntKind.u64.wrap ((QY .u64 (IntKind.u64.wrap ([(0:Int)].length:Int)) 32)*(Yk .u64 (IntKind.u64.wrap (((k:Nat)*(k:Nat):Nat):Int)) 4294967295)))+(QY .u64 (IntKind.u64.wrap ((Yk .u64 (IntKind.u64.wrap ([(0:Int)].length:Int)) 4294967295)*(Yk .u64 (IntKind.u64.wrap (((k:Nat)*(k:Nat):Nat):Int)) 4294967295))) 32))) 4294967295)+(IntKind.u64.wrap ((Yk .u64 (IntKind.u64.wrap ([(0:Int)].length:Int)) 4294967295)*(QY .u64 (IntKind.u64.wrap (((k:Nat)*(k:Nat):Nat):Int)) 32))))) 32)))))=false:=by decide+kernel
theorem Qlk:∀k:Fin 65,(decide (9223372036854775807<(IntKind.u64.wrap ((IntKind.u64.wrap ([(0:Int)].length:Int))*(IntKind.u64.wrap (((k:Nat)*(k:Nat):Nat):Int))))))=false:=by decide+kernel
theorem Qnc:∀k:Fin 65,(IntKind.i64.wrap (IntKind.u64.wrap ((IntKind.u64.wrap ([(0:Int)].length:Int))*(IntKind.u64.wrap (((k:Nat)*(k:Nat):Nat):Int)))))=(((k:Nat)*(k:Nat):Nat):Int):=by decide+kernel
theorem Qll(x:Int)(K:Nat)(l:K<=4096):∀(m j:Nat),1<=j->j<=K->K-j<=m->EvI (λn=>F_fm n) (List.replicate j x++List.replicate (K-j) 0,(j:Int)) (List.replicate K x):=by
 intro m
 induction m with
 |zero=>
  intro j h e g;obtain rfl:j=K:=by omega
  refine Ei ?_;unfold F_fm;rw[Nat.sub_self,List.replicate_zero,Vf];simp only[List.length_replicate,QP (show¬((j:Int)<(j:Int))by omega),Vp];exact Qa _
 |succ m i=>
  intro j h e g;by_cases k:j=K
  .subst k;refine Ei ?_;unfold F_fm;rw[Nat.sub_self,List.replicate_zero,Vf];simp only[List.length_replicate,QP (show¬((j:Int)<(j:Int))by omega),Vp];exact Qa _
  .have b:(List.replicate j x++List.replicate (K-j) (0:Int)).length=K:=by simp;omega
   refine Et ?_ (i (j+min j (K-j)) (by omega) (by omega) (by omega));unfold F_fm;simp only;generalize hL:List.replicate j x++List.replicate (K-j) (0:Int)=L at b;have a:L.take j=List.replicate j x:=by rw[<- hL,List.take_left' (by simp)]
   have f:L.drop j=List.replicate (K-j) 0:=by rw[<- hL,List.drop_left' (by simp)]
   rw[QT (by omega),Vn,Qhe L (by omega),XJ,Qim L (by omega),XJ];unfold cpy;simp only[XJ,Int.toNat_natCast,b,a];have d:L.take j++(List.replicate j x).take (K-j)++L.drop (j+min (List.replicate j x).length (K-j))=List.replicate (j+min j (K-j)) x++List.replicate (K-(j+min j (K-j))) 0:=by
    rw[<- List.drop_drop,a,f,List.length_replicate,List.take_replicate,List.drop_replicate,List.replicate_append_replicate];rw[Nat.min_comm (K-j) j,Nat.sub_sub]
   rw[a]at d;rw[d];have w:IntKind.i64.wrap ((j:Int)+((min (List.replicate j x).length (K-j):Nat):Int))=((j+min j (K-j):Nat):Int):=by
    rw[List.length_replicate,Qq (by omega) (by omega)];omega
   rw[w];exact Qa _
theorem Ev.bf{α:Type}{c:Bool}{f g:Nat->Option α}{v:α}(h:c=false)(q:Ev g v):Ev (λn=>bif c then f n else g n) v:=by subst h;exact q
theorem Qkm(x:Int)(k:Nat)(i:1<=k)(m:Nat)(a:m<=64)(b:k=m*m):Ev (λn=>F_dc n [x] (k:Int)) (List.replicate k x):=by
 have g:=Qnb ⟨m,by omega⟩;have f:=Qlk ⟨m,by omega⟩;have d:=Qnc ⟨m,by omega⟩;have h:k<=4096:=by rw[b];exact Nat.mul_le_mul a a
 simp only[<- b]at g f d;unfold F_dc;refine Ea (v:=()) (by rw[QP (show¬((k:Int)<0)by omega)];exact Qa _) (Ea (v:=()) (Qa _) (Ea (v:=false) ?_ (Ea (v:=()) (Qa _) ?_)))
 .exact Ev.bf g (Ex (congrArg some f))
 .refine Ea (v:=List.replicate k 0) (Ex ((congrArg (λz=>mk z (0:Int)) d).trans ?_)) ?_
  .show mk (k:Int) 0=_;unfold mk;rw[QT (by omega),QT (by omega)];rfl
  .refine Ea (v:=List.replicate 1 x++List.replicate (k-1) 0) (Ex ?_) ?_
   .unfold cpy;simp only[List.length_replicate,Int.toNat_natCast,List.length_singleton];obtain⟨u,rfl⟩:∃u,k=u+1:=⟨k-1,by omega⟩;simp
   .have e:((min [x].length (List.replicate k (0:Int)).length:Nat):Int)=((1:Nat):Int):=by simp;omega
    rw[e];exact Ea ((Qll x k h k 1 (XT _) i (by omega)).ev) (Qa _)
structure DRow (es:List Edge) (n j:Nat) (d:Nat->Int):Prop where
 zero:d j=0
 wk:∀v,d v=bN\/Wk (grOf es) j v (d v)
 hold:∀i,i<es.length->d ((grOf es).F i)=bN\/d ((grOf es).T i)<=d ((grOf es).F i)+(grOf es).W i
 low:∀v,v<n-> -1152921504606846976<=d v/\d v<=1152921504606846976
theorem row_d{n:Nat}{es:List Edge}(h:SysOk n es){φ:Nat->Int}(hφ:PotB es φ){l0 l J:List Int}{lo j:Nat}(R:j<n)(r:RepB l0 lo n l J ⟨λv=>if v=j then 0 else bN,λ_=>0⟩):
  ∃l' ed' last d,l'.length=l0.length/\(∀v,v<n->l'[lo+v]?=some (d v))/\(∀i,i<lo\/lo+n<=i->l'[i]?=l0[i]?)/\DRow es n j d/\Ev (λm=>F_ah m (n:Int) es l (lo:Int) ((lo+n:Nat):Int) J) (l',ed',last):=by
 have X:=h.n0;have V:=h.n1;generalize hs:(⟨λv=>if v=j then 0 else bN,λ_=>0⟩:Bs)=s at r;have b:s.far j=0:=by rw[<- hs];exact Vs rfl
 have f:∀v,v≠j->s.far v=bN:=λv N=>by rw[<- hs];exact Vr N
 have u:Ini s:=λv=>by
  by_cases e:v=j
  .subst e;exact .inr b
  .exact .inl (f v e)
 obtain⟨l',ed',last,T,y,B,Q,G⟩:=Ql0 h u r;rcases G with⟨rfl,G⟩|⟨v,τ,rfl,w1,rfl,w2,w3⟩
 .refine⟨l',ed',-1,(bst (grOf es) s T).far,y.len,y.far,y.out,⟨?_,λv=>?_,G,λv _=>Qga h u B v⟩,Q⟩
  .have a:=Qfe (grOf es) s j 0 T;rw[Xv]at a;have M:(bst (grOf es) s T).far j<=0:=by rw[<- b];exact a
   rcases Nat.eq_zero_or_pos es.length with e|e
   .have:T=0:=by rw[e,Xx]at B;omega
    subst this;exact b
   .rcases Qnz (g:=grOf es) (s:=s) (φ:=φ) e (c:=φ j) hφ (λv=>by
     by_cases z:v=j
     .subst z;exact .inr (by rw[b];omega)
     .exact .inl (f v z)) T j with q|q
    .rw[q]at M;exact absurd M (by decide)
    .omega
  .rcases Nat.eq_zero_or_pos es.length with e|e
   .have:T=0:=by rw[e,Xx]at B;omega
    subst this;by_cases z:v=j
    .subst z;exact .inr (by show Wk _ _ _ (s.far v);rw[b];exact .nil)
    .exact .inl (f v z)
   .exact QoZ e (λv=>by
     by_cases z:v=j
     .subst z;exact .inr (by rw[b];exact .nil)
     .exact .inl (f v z)) T v
 .exfalso;have t:0<es.length:=by
   rcases Nat.eq_zero_or_pos es.length with e|e
   .have:=w3.lt;rw[e,Xx]at this;omega
   .exact e
  obtain⟨k,O,Y,w,x⟩:=Qn6 (g:=grOf es) t (gr_F h) w1 w3 w2;generalize hS:bst (grOf es) s (n*es.length)=S at w x;generalize bpk (grOf es) S v n=p at w x;have neg:=QiT (g:=grOf es) (s:=s) (n*es.length) (v:=p) (k:=k) O (by rw[hS];exact w) (λj _=>by rw[hS];exact x j);rw[hS]at neg;have low:∀j,φ p-φ (bpk (grOf es) S p j)<=bsum (grOf es) S p j:=by
   intro j
   induction j with
   |zero=>simp[bsum,bpk]
   |succ j W=>
    obtain⟨τ',q⟩:=x j;have E:=q.edge;rw[hS]at E;have H:S.edge (bpk (grOf es) S p j)<es.length:=by rw[E];exact Nat.mod_lt _ t
    have a:=hφ _ H;have L:=(QaC q.ch).1;rw[<- E]at L;rw[<- L]at a;have P:bpk (grOf es) S p (j+1)=(grOf es).F (S.edge (bpk (grOf es) S p j)):=rfl;unfold bsum;rw[P];omega
  have:=low k;rw[w]at this;omega
structure FarOk (es:List Edge) (n:Nat) (far:List (List Int)) (D:Nat->Nat->Int):Prop where
 len:far.length=n
 row:∀j,j<n->∃r,far[j]?=some r/\r.length=n/\ ∀v,v<n->r[v]?=some (D j v)
 d:∀j,j<n->DRow es n j (D j)
theorem QgL{n:Nat}{es:List Edge}(h:SysOk n es){φ:Nat->Int}(hφ:PotB es φ):∃far D,FarOk es n far D/\Ev (λm=>F_bs m ⟨(n:Int),es⟩) far:=by
 have F:=h.n0;have t:=h.n1;have O:n*n<=4096:=Nat.mul_le_mul t t;have loop:∀(m i:Nat) (l:List Int) (D:Nat->Nat->Int),i+m=n->l.length=n*n->(∀j,j<i->(∀v,v<n->l[j*n+v]?=some (D j v))/\DRow es n j (D j))->(∀x,i*n<=x->x<n*n->l[x]?=some bN)->
   ∃(f:List Int) (D':Nat->Nat->Int),EvI (λm=>F_gh m ⟨(n:Int),es⟩) (l,(i:Int),i) (f,n)/\f.length=n*n/\ ∀j,j<n->(∀v,v<n->f[j*n+v]?=some (D' j v))/\DRow es n j (D' j):=by
  intro m
  induction m with
  |zero=>
   intro i l D hi hl hd _;obtain rfl:i=n:=by omega
   refine⟨l,D,Ei ?_,hl,hd⟩;unfold F_gh;simp only[QP (show¬((i:Int)<(i:Int))by omega),Vp];exact Qa _
  |succ m Y=>
   intro i l D hi hl hd hN;have p:i<n:=by omega
   have M:i*n+n<=n*n:=by
    have:=XC n (show i+1<=n from p)
    rwa [XA,Nat.one_mul]at this
   have q:i*n+i<n*n:=by omega
   let s:Bs:=⟨λv=>if v=i then 0 else bN,λ_=>0⟩
   have r:RepB l (i*n) n (l.set (i*n+i) 0) (List.replicate n 0) s:=by
    refine⟨by simp,λv k=>?_,λj g=>?_,by simp,λv k=>by simp[List.getElem?_replicate,k,s]⟩
    .by_cases e:v=i
     .subst e;rw[Xa (by omega)];simp[s]
     .rw[XP (by omega),hN _ (by omega) (by omega)];simp[s,e]
    .rw[XP (by omega)]
   obtain⟨f,R,B,d,y,V,z,q4,H⟩:=row_d h hφ p r;obtain⟨T,D2,z1,P,z3⟩:=Y (i+1) f (λj=>if j=i then d else D j) (by omega) (by rw[y,hl]) (λj g=>by
    by_cases e:j=i
    .subst e;simp only[Vs];exact⟨V,q4⟩
    .simp only[Vr e];obtain⟨a,b⟩:=hd j (by omega);refine⟨λv k=>?_,b⟩;have:j*n+n<=i*n:=by
      have:=XC n (show j+1<=i by omega)
      rwa [XA,Nat.one_mul]at this
     rw[z _ (.inl (by omega))];exact a v k) (λx u w=>by
    rw[XA,Nat.one_mul]at u;rw[z _ (.inr (by omega))];exact hN x (by omega) w)
   refine⟨T,D2,Et ?_ z1,P,z3⟩;have w1:IntKind.i64.wrap ((i:Int)*(n:Int))=((i*n:Nat):Int):=by
    rw[show(i:Int)*(n:Int)=((i*n:Nat):Int)by push_cast;rfl];exact Qq (by omega) (by omega)
   have w2:IntKind.i64.wrap (((i+1:Nat):Int)*(n:Int))=((i*n+n:Nat):Int):=by
    rw[show((i+1:Nat):Int)*(n:Int)=((i*n+n:Nat):Int)by push_cast;rw[Int.add_mul,Int.one_mul]];exact Qq (by omega) (by omega)
   have w3:=QZ (show i<9223372036854775807 by omega);have Q:slc l ((i*n:Nat):Int) ((i*n+n:Nat):Int)=some ((l.take (i*n+n)).drop (i*n)):=by
    unfold slc;simp only[QT (show(0:Int)<=((i*n:Nat):Int)by omega),QT (show((i*n:Nat):Int)<=((i*n+n:Nat):Int)by omega),QT (show((i*n+n:Nat):Int)<=(l.length:Int)by omega)];rfl
   have X:Qbz l ((i*n:Nat):Int) ((i*n+n:Nat):Int) (i:Int)=some bN:=QeP (hN _ (by omega) q) (by omega);have c3:QaX l (((i*n:Nat):Int)+(i:Int)) 0=some (l.set (i*n+i) 0):=by
    rw[show((i*n:Nat):Int)+(i:Int)=((i*n+i:Nat):Int)by omega];exact QaG l 0 (by omega)
   have c4:winC ((i*n:Nat):Int) ((i*n+n:Nat):Int) (n:Int) i f (l.set (i*n+i) 0)=some ():=by
    unfold winC;have a1:((0+((i*n:Nat):Int).toNat)==i*((n:Int)).toNat)=true:=Vx.2 (by rw[Int.toNat_natCast,Int.toNat_natCast,Xv]);have J:((((i*n+n:Nat):Int).toNat-((i*n:Nat):Int).toNat)==((n:Int)).toNat)=true:=Vx.2 (by rw[Int.toNat_natCast,Int.toNat_natCast,Int.toNat_natCast];omega);have L:decide (i+1<=Q9)=true:=Vt (XV (by omega:i+1<=1048576) (by decide));have N:(f.length==(l.set (i*n+i) 0).length)=true:=by simp[y]
    rw[a1,J,L,N];rfl
   unfold F_gh;simp only[QT (show(i:Int)<(n:Int)by omega),Vn,w3,w1,w2,Q,X,c3,QlG n (0:Int) (by omega),XJ];refine Ea H ?_;simp only[c4,XJ];exact Qa _
 obtain⟨f,D,G,W,E⟩:=loop n 0 (List.replicate (n*n) bN) (λ_ _=>0) (by omega) (by simp) (λj g=>absurd g (Xm _)) (λx _ u=>by simp[List.getElem?_replicate,u]);refine⟨Qhb f n n,D,⟨by simp[Qhb],λj g=>?_,λj g=>(E j g).2⟩,?_⟩
 .have M:j*n+n<=n*n:=by
   have:=XC n (show j+1<=n from g)
   rwa [XA,Nat.one_mul]at this
  refine⟨(f.drop (j*n)).take n,by simp[Qhb,Xo,List.getElem?_range,g],by simp;omega,λv k=>?_⟩;rw[List.getElem?_take_of_lt k,List.getElem?_drop];exact(E j g).1 v k
 .unfold F_bs;have w0:IntKind.i64.wrap ((n:Int)*(n:Int))=((n*n:Nat):Int):=by
   rw[show(n:Int)*(n:Int)=((n*n:Nat):Int)by push_cast;rfl];exact Qq (by omega) (by omega)
  simp only[w0];refine Ea (Qkm bN (n*n) (Nat.mul_pos F F) n t rfl) ?_;refine Ea G.ev ?_;unfold winE;rw[Int.toNat_natCast,QT (by rw[W];exact XT _)];exact Qa _
theorem Qma{n:Nat}{es:List Edge}(h:SysOk n es):
  (∃φ far D,PotB es φ/\FarOk es n far D/\Ev (λm=>F_ag m ⟨(n:Int),es⟩) (far,[],0))\/
  ((¬ ∃φ,PotB es φ)/\ ∃cyc,cyc≠[]/\cyc.length<=n/\(∀c∈cyc,∃j,j<es.length/\c=((j:Nat):Int))/\wSum es cyc<0/\Ev (λm=>F_ag m ⟨(n:Int),es⟩) ([],cyc,151)):=by
 unfold F_ag;rcases Qdm h with⟨⟨φ,hφ⟩,e⟩|⟨i,cyc,a,b,k,d,e⟩
 .obtain⟨far,D,f,g⟩:=QgL h hφ;refine .inl ⟨φ,far,D,hφ,f,Ea (Qf1 h) ?_⟩;refine Yg (Ea e ?_);exact Ea g (Qa _)
 .refine .inr ⟨i,cyc,a,b,k,d,Ea (Qf1 h) ?_⟩;refine Yg (Ea e ?_);have:0<cyc.length:=List.length_pos_iff.2 a;rw[QT (show(0:Int)<(cyc.length:Int)by omega)];exact Qa _
set_option maxRecDepth 10000
theorem QbA{f:Fact}(h:validS f=true):headS f=true/\contR f=true/\onlyS f=f:=by
 rw[Qc2,XW,XW,Qmn,Vx]at h;exact⟨h.1.1,h.1.2,h.2⟩
theorem Qig{f:Fact}(h:validS f=true)(k:f.Kind=2):0<=f.Read.Epoch/\f.Read.Epoch<=255:=by
 obtain⟨_,a,_⟩:=QbA h;unfold contR at a;rw[k]at a;have b:(true&&(nb f.Read.Mat 0 39&&(nb f.Read.Epoch 0 255&&(nb f.Read.Chip 0 1048576&&(nb f.Read.Local (-1099511627776) 1099511627776&&true)))))=true:=a;simp only[XW,Qix]at b;exact b.2.2.1
structure BeaOk (b:Beacon):Prop where
 ep:0<=b.Epoch/\b.Epoch<=255
 lo: -1099511627776<=b.Local/\b.Local<=1099511627776
 tr: -1099511627776<=b.True/\b.True<=1099511627776
 er:0<=b.Err/\b.Err<=1099511627776
theorem Qas{f:Fact}(h:validS f=true)(k:f.Kind=3):BeaOk f.Beacon:=by
 obtain⟨_,b,_⟩:=QbA h;unfold contR at b;rw[k]at b;have a:(true&&(nb f.Beacon.Mat 0 39&&(nb f.Beacon.Epoch 0 255&&(nb f.Beacon.Local (-1099511627776) 1099511627776&&(nb f.Beacon.True (-1099511627776) 1099511627776&&(nb f.Beacon.Err 0 1099511627776&&true))))))=true:=b;simp only[XW,Qix]at a;exact⟨a.2.2.1,a.2.2.2.1,a.2.2.2.2.1,a.2.2.2.2.2.1⟩
structure SynOk (b:Sync):Prop where
 ea:0<=b.EpochA/\b.EpochA<=255
 la: -1099511627776<=b.LocalA/\b.LocalA<=1099511627776
 eb:0<=b.EpochB/\b.EpochB<=255
 lb: -1099511627776<=b.LocalB/\b.LocalB<=1099511627776
 mi: -1099511627776<=b.Min/\b.Min<=1099511627776
 ma: -1099511627776<=b.Max/\b.Max<=1099511627776
theorem Qcd{f:Fact}(h:validS f=true)(k:f.Kind=4):SynOk f.Sync:=by
 obtain⟨_,b,_⟩:=QbA h;unfold contR at b;rw[k]at b;have a:(decide (f.Sync.Min<=f.Sync.Max)&&(nb f.Sync.MatA 0 39&&(nb f.Sync.EpochA 0 255&&(nb f.Sync.LocalA (-1099511627776) 1099511627776&&(nb f.Sync.MatB 0 39&&(nb f.Sync.EpochB 0 255&&(nb f.Sync.LocalB (-1099511627776) 1099511627776&&(nb f.Sync.Min (-1099511627776) 1099511627776&&(nb f.Sync.Max (-1099511627776) 1099511627776&&true)))))))))=true:=b;simp only[XW,Qix]at a;exact⟨a.2.2.1,a.2.2.2.1,a.2.2.2.2.2.1,a.2.2.2.2.2.2.1,a.2.2.2.2.2.2.2.1,a.2.2.2.2.2.2.2.2.1⟩
theorem QaB{l:List Fact}{k:Int}{f:Fact}(h:f∈cntS l k):f∈l/\validS f=true/\f.Kind=k:=by
 unfold cntS at h;rw[Xd,(Qf8 l).2]at h;exact⟨h.1.1,h.1.2,by simpa using h.2⟩
structure CrsOk (c:Course):Prop where
 mats:c.Mats.length<=40
 res:0<=c.Faults.Residual/\c.Faults.Residual<=4294967296
 drift:0<=c.Faults.Drift/\c.Faults.Drift<=100000
def driftV(x k:Int):Int:=Int.tdiv ((if x<0-x then 0-x else x)*k+1000000-1) 1000000
theorem Qfa{x k:Int}(h: -2199023255552<=x/\x<=2199023255552)(b:0<=k/\k<=100000):0<=driftV x k/\driftV x k<=274877906944/\0<=(if x<0-x then 0-x else x)*k/\(if x<0-x then 0-x else x)*k<=219902325555200000:=by
 generalize ha:(if x<0-x then 0-x else x)=a;have f:0<=a:=by rw[<- ha];split<;>omega
 have d:a<=2199023255552:=by rw[<- ha];split<;>omega
 have i:0<=a*k:=Int.mul_nonneg f b.1;have g:a*k<=2199023255552*100000:=Int.le_trans (Int.mul_le_mul_of_nonneg_right d b.1) (Int.mul_le_mul_of_nonneg_left b.2 (by decide));have e:(2199023255552:Int)*100000=219902325555200000:=by decide
 rw[e]at g;unfold driftV;rw[ha,Int.tdiv_eq_ediv_of_nonneg (by omega)];omega
theorem Ql5{x k:Int}(d: -2199023255552<=x/\x<=2199023255552)(e:0<=k/\k<=100000):Ev (λn=>F_cq n x k) (driftV x k,0):=by
 obtain⟨f,h,g,i⟩:=Qfa d e;unfold F_cq;refine Ea (v:=false) ?_ ?_
 .rw[QP (show¬(x< -2199023255552)by omega),QP (show¬(2199023255552<x)by omega),QP (show¬(k<0)by omega),QP (show¬(100000<k)by omega)];exact Qa _
 .have b:IntKind.i64.wrap (0-x)=0-x:=Qq (by omega) (by omega);have w1:=Qq (n:=(if x<0-x then 0-x else x)*k) (by omega) (by omega);have w2:=Qq (n:=(if x<0-x then 0-x else x)*k+1000000) (by omega) (by omega);have w3:=Qq (n:=(if x<0-x then 0-x else x)*k+1000000-1) (by omega) (by omega);have a:=Qq (n:=driftV x k) (by omega) (by omega);refine Yg ?_;rw[b,w1,w2,w3];unfold driftV at a⊢;rw[a];exact Qa _
def devV(c:Course)(k:Int)(s:Segment)(loc:Int):Span:=
 bif k != 1 then⟨0-driftV (loc-s.Anchor) c.Faults.Drift,c.Faults.Residual+driftV (loc-s.Anchor) c.Faults.Drift⟩else⟨0,c.Faults.Residual⟩
def isT(x:Int):Prop:= -1099511627776<=x/\x<=1099511627776
theorem QoW{c:Course}(b:CrsOk c)(k:Int){s:Segment}{a:Int}(e:isT s.Anchor)(d:isT a): -274877906944<=(devV c k s a).Lo/\(devV c k s a).Lo<=0/\0<=(devV c k s a).Hi/\(devV c k s a).Hi<=279172874240:=by
 obtain⟨i,h⟩:=b.res;obtain⟨f,g,_,_⟩:=Qfa (x:=a-s.Anchor) (by unfold isT at e d;omega) b.drift;unfold devV;cases k != 1 with
 |true=>simp only[Vn];omega
 |false=>simp only[Vp];omega
theorem QoV{c:Course}(b:CrsOk c){i:Nat}{m:Mat}(e:c.Mats[i]?=some m){s:Segment}(h:s.Mat=(i:Int)){a:Int}(g:isT s.Anchor)(f:isT a):Ev (λn=>F_u n c s a) (devV c m.Kind s a):=by
 obtain⟨p,l⟩:=b.res;have d: -2199023255552<=a-s.Anchor/\a-s.Anchor<=2199023255552:=by unfold isT at g f;omega
 obtain⟨j,k,_,_⟩:=Qfa d b.drift;unfold F_u devV;simp only[h,QQ e,XJ];cases m.Kind != 1 with
 |false=>exact Qa _
 |true=>
  simp only[Vn];refine Ea (v:=⟨0-driftV (a-s.Anchor) c.Faults.Drift,c.Faults.Residual+driftV (a-s.Anchor) c.Faults.Drift⟩) ?_ (Qa _);rw[Qq (n:=a-s.Anchor) (by omega) (by omega)];refine Ea (Ql5 d b.drift) ?_;rw[Qq (n:=0-driftV (a-s.Anchor) c.Faults.Drift) (by omega) (by omega),Qq (n:=c.Faults.Residual+driftV (a-s.Anchor) c.Faults.Drift) (by omega) (by omega)];exact Qa _
def matB(c:Course)(x:Int):Bool:=decide (0<=x)&&decide (x<(c.Mats.length:Int))
theorem QcF(c:Course)(x:Int):Ev (λn=>F_i n c x) (matB c x):=by
 unfold F_i matB;exact Ea (Eh λ_=>Qa _) (Qa _)
theorem Qiy{c:Course}{x:Int}(h:matB c x=true):∃i m,x=((i:Nat):Int)/\c.Mats[i]?=some m:=by
 unfold matB at h;simp only[XW,Vq]at h;exact⟨x.toNat,c.Mats[x.toNat]'(by omega),by omega,XK _⟩
def okPl(c:Course)(x:Int):Bool:=matB c x&&(match c.Mats[x.toNat]? with|some m=>m.Kind != 1|none=>false)
abbrev Met:=List (Ua×Bool)
abbrev Anc:=List (Ua×Int)
def meetV(c:Course)(m:Met)(x e:Int):Met:=bif okPl c x then Yl m ⟨x,e⟩ true else m
theorem Qed(c:Course)(m:Met)(x e:Int):Ev (λn=>F_x n x e c m) (meetV c m x e):=by
 unfold F_x meetV;refine Ea (v:=okPl c x) ?_ ?_
 .unfold okPl;refine Ea (QcF c x) ?_;cases q:matB c x with
  |false=>exact Qa _
  |true=>
   obtain⟨i,m,rfl,a⟩:=Qiy q;simp only[Vn,QQ a,XJ,Vz,Int.toNat_natCast,a];exact Qa _
 .cases okPl c x<;>exact Qa _
def metX(c:Course)(m:Met)(f:Fact):Met:=meetV c m f.Read.Mat f.Read.Epoch
def metY(c:Course)(m:Met)(f:Fact):Met:=meetV c (meetV c m f.Sync.MatA f.Sync.EpochA) f.Sync.MatB f.Sync.EpochB
def metB(c:Course)(a:Met×Anc)(f:Fact):Met×Anc:=(meetV c a.1 f.Beacon.Mat f.Beacon.Epoch,bif !Qb4 a.2 (⟨f.Beacon.Mat,f.Beacon.Epoch⟩:Ua)then Yl a.2 ⟨f.Beacon.Mat,f.Beacon.Epoch⟩ f.Beacon.Local else a.2)
def metA(c:Course)(l:List Fact):Met×Anc:=(cntS l 3).foldl (metB c) ((cntS l 4).foldl (metY c) ((cntS l 2).foldl (metX c) []),[])
structure MetOk (c:Course) (k:Nat) (m:Met):Prop where
 nodup:(m.map (·.1)).Nodup
 ok:∀p∈m.map (·.1),okPl c p.mat=true/\0<=p.epoch/\p.epoch<=255
 len:m.length<=k
theorem QiB{α β:Type}[DecidableEq α](m:List (α×β))(k:α)(v:β)(h:(m.map (·.1)).Nodup):((Yl m k v).map (·.1)).Nodup/\(∀p∈(Yl m k v).map (·.1),p=k\/p∈m.map (·.1))/\(Yl m k v).length<=m.length+1:=by
 have e:=QfP m k v;have f:=congrArg List.length e;rw[X0]at f;rw[e];by_cases q:k∈m.map (·.1)
 .rw[Vs q]at f⊢;exact⟨h,λp d=>.inr d,by rw[f,X0];omega⟩
 .rw[Vr q]at f⊢;refine⟨?_,λp d=>?_,by rw[f];simp⟩
  .rw[List.nodup_append];refine⟨h,by simp,λa i b g=>?_⟩;rw[VA]at g;rintro rfl;exact q (g▸i)
  .rcases VC.1 d with d|d
   .exact .inr d
   .exact .inl (by simpa using d)
theorem Qea{c:Course}{k:Nat}{m:Met}(h:MetOk c k m)(x:Int){e:Int}(he:0<=e/\e<=255):MetOk c (k+1) (meetV c m x e):=by
 unfold meetV;cases q:okPl c x with
 |false=>exact⟨h.nodup,h.ok,by have:=h.len;simp only[Vp];omega⟩
 |true=>
  simp only[Vn];obtain⟨d,b,f⟩:=QiB m (⟨x,e⟩:Ua) true h.nodup;refine⟨d,λp a=>?_,by have:=h.len;omega⟩;rcases b p a with rfl|a
  .exact⟨q,he⟩
  .exact h.ok p a
def AncOk(m:Anc):Prop:=∀p v,Qag m p=some v->isT v
theorem QcD{α β:Type}(g:β->α->β)(I:β->Nat->Prop)(w:Nat):∀(l:List α) (b:β) (k:Nat),I b k->(∀x∈l,∀b k,I b k->I (g b x) (k+w))->I (l.foldl g b) (k+w*l.length)
 |[],b,k,h,_=>by simpa using h
 |x::l,b,k,h,q=>by
  have:=QcD g I w l (g b x) (k+w) (q x (by simp) b k h) λy hy=>q y (by simp[hy]);rw[XZ,Nat.mul_add,Nat.mul_one,Nat.add_comm (w*l.length), <- Nat.add_assoc];exact this
theorem Qgz(c:Course)(l:List Fact):MetOk c ((cntS l 2).length+2*(cntS l 4).length+(cntS l 3).length) (metA c l).1/\AncOk (metA c l).2:=by
 have q:MetOk c (0+1*(cntS l 2).length) ((cntS l 2).foldl (metX c) []):=QcD (metX c) (λm k=>MetOk c k m) 1 _ _ _ ⟨by simp,(λp b=>by simp at b),by simp⟩ λf d m k h=>by
  obtain⟨_,g,i⟩:=QaB d;exact Qea h _ (Qig g i)
 have n:=QcD (metY c) (λm k=>MetOk c k m) 2 (cntS l 4) _ _ q λf d m k h=>by
  obtain⟨_,g,i⟩:=QaB d;have s:=Qcd g i;exact Qea (Qea h _ s.ea) _ s.eb
 have j:=QcD (metB c) (λa k=>MetOk c k a.1/\AncOk a.2) 1 (cntS l 3) (_,[]) _ ⟨n,(λp v h=>by simp[Qag]at h)⟩ λf d a k h=>by
  obtain⟨_,g,i⟩:=QaB d;have s:=Qas g i;refine⟨Qea h.1 _ s.ep,?_⟩;show AncOk (bif !Qb4 a.2 _ then Yl a.2 _ _ else a.2);cases Qb4 a.2 (⟨f.Beacon.Mat,f.Beacon.Epoch⟩:Ua)with
  |true=>exact h.2
  |false=>
   simp only[Xh,Vn];intro p v b;rw[Qdh]at b;split at b
   .cases b;exact s.lo
   .exact h.2 p v b
 have e:0+1*(cntS l 2).length+2*(cntS l 4).length+1*(cntS l 3).length=(cntS l 2).length+2*(cntS l 4).length+(cntS l 3).length:=by omega
 rw[e]at j;exact j
theorem QjI(l:List Fact):(cntS l 2).length+2*(cntS l 4).length+(cntS l 3).length<=2*l.length:=by
 have a:∀m:List Fact,(m.filter λf=>f.Kind==2).length+2*(m.filter λf=>f.Kind==4).length+(m.filter λf=>f.Kind==3).length<=2*m.length:=by
  intro m
  induction m with
  |nil=>simp
  |cons f m g=>
   simp only[List.filter_cons,XZ];by_cases e:f.Kind=2
   .simp[e];omega
   .by_cases d:f.Kind=4
    .simp[d];omega
    .by_cases b:f.Kind=3
     .simp[b];omega
     .simp[e,b,d];omega
 have:=a (canonS l);have h:=Qfd l;unfold cntS;omega
def segOf(a:Anc)(p:Ua×Bool):Segment:=⟨p.1.mat,p.1.epoch,QN a p.1 0⟩
def segV(c:Course)(l:List Fact):List Segment:=QaU (ltC cmpSeg) ((metA c l).1.map (segOf (metA c l).2))
set_option maxRecDepth 10000
theorem Qdn:CmpOK cmpSeg:=by
 have h:=Qb2 (cmpI_ok.on λx:Segment=>x.Mat) (cmpI_ok.on λx:Segment=>x.Epoch);have e:cmpSeg=λx y:Segment=>bif cmpI x.Mat y.Mat != 0 then cmpI x.Mat y.Mat else cmpI x.Epoch y.Epoch:=by
  funext x y
  show(bif cmpI x.Mat y.Mat != 0 then cmpI x.Mat y.Mat else(bif cmpI x.Epoch y.Epoch != 0 then cmpI x.Epoch y.Epoch else 0))=_;cases q:cmpI x.Epoch y.Epoch != 0 with
  |true=>rfl
  |false=>
   have:cmpI x.Epoch y.Epoch=0:=by simpa using q
   rw[this];rfl
 rw[e];exact h
theorem QhV{x y:Segment}(h:cmpSeg x y=0):x.Mat=y.Mat/\x.Epoch=y.Epoch:=by
 unfold cmpSeg orL at h;cases q:cmpI x.Mat y.Mat != 0 with
 |true=>rw[q]at h;simp only[Vn]at h;rw[h]at q;cases q
 |false=>
  rw[q]at h;have d:cmpI x.Mat y.Mat=0:=by simpa using q
  simp only[Vp,orL]at h;cases a:cmpI x.Epoch y.Epoch != 0 with
  |true=>rw[a]at h;simp only[Vn]at h;rw[h]at a;cases a
  |false=>
   have b:cmpI x.Epoch y.Epoch=0:=by simpa using a
   exact⟨Qpb.1 d,Qpb.1 b⟩
theorem QfI{a:Anc}{p q:Ua×Bool}(h:cmpSeg (segOf a p) (segOf a q)=0):segOf a p=segOf a q:=by
 obtain⟨d,b⟩:=QhV h;have e:p.1=q.1:=by
  obtain⟨⟨i,f⟩,l⟩:=p;obtain⟨⟨k,j⟩,g⟩:=q;simp only[segOf]at d b;simp only[d,b]
 unfold segOf;rw[e]
theorem Qe5(n:Nat)(m:Met×Anc):∀(p:Met) (s:List Segment),s.length+p.length<=1048576->Qd0 (F_du n m) (F_gl n) s p=some (s++p.map (segOf m.2))
 |[],s,h=>by unfold Qd0 F_gl;simp
 |e::p,s,h=>by
  rw[XZ]at h;have h1:F_du n m s e=some (.cont (s++[segOf m.2 e])):=by
   unfold F_du;simp only[XJ];rw[Qbp _ _ (by omega)];rfl
  unfold Qd0;rw[h1];show Qd0 _ _ (s++[segOf m.2 e]) p=_;rw[Qe5 n m p _ (by simp;omega)];simp
theorem Qlf{m:Met×Anc}{p:Met}(h:p.Perm m.1):QaU (ltC cmpSeg) (p.map (segOf m.2))=QaU (ltC cmpSeg) (m.1.map (segOf m.2)):=by
 refine Qbg (lt:=ltC cmpSeg) ((QM _ _).trans ((h.map _).trans (QM _ _).symm)) (λx f y g e d=>?_) (YH (QcB Qdn _)) (YH (QcB Qdn _));have e:=Vv e;have d:=Vv d;obtain⟨a,_,rfl⟩:=Xe.1 ((QM _ _).mem_iff.1 f);obtain⟨b,_,rfl⟩:=Xe.1 ((QM _ _).mem_iff.1 g);refine QfI ?_;have:=Qdn.swap (segOf m.2 a) (segOf m.2 b);omega
theorem QgM{c:Course}{l:List Fact}{e:Int}(he:Ev (λn=>F_h n c) e)(a:e≠0):Ev (λn=>F_w n c l) ([],e):=by
 unfold F_w;refine Ea he ?_;rw[show(e != 0)=true by simpa using a];exact Qa _
theorem QbM{c:Course}{l:List Fact}(he:Ev (λn=>F_h n c) 0)(j:l.length<=100):Ev (λn=>F_w n c l) (segV c l,0):=by
 obtain⟨h,_⟩:=Qgz c l;have s:=QjI l;have r:(metA c l).1.length<=200:=XV h.len (by omega);unfold F_w;refine Ea he (Yg ?_);simp only[F_n,XJ];refine Ea (QaK l 2 (by omega)) ?_;refine Ea (Qb0 (metX c) (λ_ _=>True) (cntS l 2) [] trivial λf _ m k _=>⟨?_,trivial⟩).1 ?_
 .unfold F_hi;exact Ea (Qed c m _ _) (Qa _)
 refine Ea (QaK l 4 (by omega)) ?_;refine Ea (Qb0 (metY c) (λ_ _=>True) (cntS l 4) _ trivial λf _ m k _=>⟨?_,trivial⟩).1 ?_
 .unfold F_hl;exact Ea (Qed c m _ _) (Ea (Qed c _ _ _) (Qa _))
 refine Ea (QaK l 3 (by omega)) ?_;refine Ea (Qb0 (metB c) (λ_ _=>True) (cntS l 3) (_,[]) trivial λf _ a k _=>⟨?_,trivial⟩).1 ?_
 .unfold F_hj metB;refine Ea (Qed c a.1 _ _) ?_;simp only[XJ];cases Qb4 a.2 (⟨f.Beacon.Mat,f.Beacon.Epoch⟩:Ua)<;>exact Qa _
 show Ev (λn=>bif decide (511<((metA c l).1.length:Int))then some ([],2)else anyP (λp=>(Qd0 (F_du n (metA c l)) (F_gl n) [] p).bind λb=>(QbD (λx y=>F_ai n x y) b).bind λl=>some (l,0)) (metA c l).1) (segV c l,0);rw[QP (show¬(511<((metA c l).1.length:Int))by omega)];refine Yg (Ev.anyP λp d=>?_);have q:=d.length_eq;simp only[Qe5 _ (metA c l) p [] (by simp;omega),Vg,XJ];refine Ea (QjV (by rw[X0];omega) (λx _ y _=>QhL x y) Qdn λx i y g e=>?_) ?_
 .obtain⟨a,_,rfl⟩:=Xe.1 i;obtain⟨b,_,rfl⟩:=Xe.1 g;exact QfI e
 .rw[Qlf d];exact Qa _
structure SegOk (c:Course) (s:Segment):Prop where
 pl:okPl c s.Mat=true
 ep:0<=s.Epoch/\s.Epoch<=255
 an:isT s.Anchor
theorem Qlg{c:Course}{l:List Fact}{s:Segment}(h:s∈segV c l):SegOk c s:=by
 obtain⟨e,b⟩:=Qgz c l;obtain⟨p,d,rfl⟩:=Xe.1 ((QM _ _).mem_iff.1 h);obtain⟨f,a⟩:=e.ok p.1 (Xe.2 ⟨p,d,rfl⟩);refine⟨f,a,?_⟩;show isT (QN (metA c l).2 p.1 0);unfold QN;cases q:Qag (metA c l).2 p.1 with
 |none=>exact⟨by decide,by decide⟩
 |some v=>exact b _ _ q
theorem Qjh(c:Course)(l:List Fact):(segV c l).length<=2*l.length:=by
 obtain⟨a,_⟩:=Qgz c l;have h:(segV c l).length=(metA c l).1.length:=by
  unfold segV;rw[(QM _ _).length_eq,X0]
 have:=QjI l;have:=a.len;omega
def place(s:Segment):Ua:=⟨s.Mat,s.Epoch⟩
def varG:List Segment->Nat->Anc->Anc
 |[],_,m=>m
 |x::r,i,m=>varG r (i+1) (Yl m (place x) ((i+1:Nat):Int))
def baseG:List Segment->Nat->List Edge
 |[],_=>[]
 |_::r,i=>⟨0,((i+1:Nat):Int),1099511627776⟩::⟨((i+1:Nat):Int),0,1099511627776⟩::baseG r (i+1)
def varV(S:List Segment):Anc:=varG S 0 []
def VarOk(S:List Segment)(k:Nat)(m:Anc):Prop:=∀p v,Qag m p=some v->∃j s,v=((j+1:Nat):Int)/\j<k/\S[j]?=some s/\place s=p
theorem Qi8(S:List Segment):∀(r:List Segment) (i:Nat) (m:Anc),S.drop i=r->i<=S.length->VarOk S i m->VarOk S S.length (varG r i m)
 |[],i,m,h,hi,q=>λp v hp=>by
  obtain⟨j,s,a,b,d⟩:=q p v hp;exact⟨j,s,a,by omega,d⟩
 |x::r,i,m,h,hi,q=>by
  obtain⟨hx,hr,hlt⟩:=QgP h;refine Qi8 S r (i+1) _ hr hlt λp v hp=>?_;rw[Qdh]at hp;split at hp
  .rename_i e;cases hp;exact⟨i,x,rfl,by omega,hx,e.symm⟩
  .obtain⟨j,s,a,b,d⟩:=q p v hp;exact⟨j,s,a,by omega,d⟩
theorem Qm8(S:List Segment):VarOk S S.length (varV S):=Qi8 S S 0 [] rfl (XU _) λp v h=>by simp[Qag]at h
theorem Qdo:∀(r:List Segment) (i:Nat),(baseG r i).length=2*r.length
 |[],_=>rfl
 |_::r,i=>by simp only[baseG,XZ,Qdo r];omega
theorem Qh1:∀(r:List Segment) (i n:Nat),i+r.length<n->∀x∈baseG r i,EdgOk n x
 |[],_,_,_,x,h=>by cases h
 |_::r,i,n,hn,x,h=>by
  simp only[XZ]at hn;simp only[baseG,X5]at h;rcases h with rfl|rfl|h
  .exact⟨by simp,by simp;omega,by simp;omega,by simp;omega,by simp,by simp⟩
  .exact⟨by simp;omega,by simp;omega,by simp,by simp;omega,by simp,by simp⟩
  .exact Qh1 r (i+1) n (by omega) x h
theorem QjD(r1:List Segment×Int)(hl:r1.1.length<=1000):∀(r:List Segment) (i:Nat) (m:Anc) (es:List Edge),r1.1.drop i=r->i<=r1.1.length->es.length<=2*i->
  EvI (λn=>F_gf n r1) (m,es,(i:Int)) (varG r i m,es++baseG r i)
 |[],i,m,es,h,hi,he=>by
  refine Ei ?_;unfold F_gf;simp only[Yp h hi,Vp,varG,baseG,Vf];exact Qa _
 |x::r,i,m,es,h,hi,he=>by
  obtain⟨ha,hr⟩:=QJ (by omega) h;have hlt:=ha.lt';have q:=QjD r1 hl r (i+1) (Yl m (place x) ((i+1:Nat):Int)) (es++[⟨0,((i+1:Nat):Int),1099511627776⟩,⟨((i+1:Nat):Int),0,1099511627776⟩]) hr (by omega) (by simp;omega);rw[Vh]at q;refine Et ?_ q;unfold F_gf F_ac;simp only[ha.lt,Vn,ha.ix,XJ,ha.nx];rw[show IntKind.i64.wrap (0- -1099511627776)=1099511627776 by decide,QcN _ _ (by simp;omega)];exact Qa _
def segAt(S:List Segment)(v mat ep:Int):Segment:=bif decide (0<v)then(S[(v-1).toNat]?).getD ⟨mat,ep,0⟩else⟨mat,ep,0⟩
def kindM(c:Course)(x:Int):Int:=match c.Mats[x.toNat]? with|some m=>m.Kind|none=>0
def repV(c:Course)(S:List Segment)(mat ep loc:Int):Int×Span:=
 let v:=QN (varV S) (⟨mat,ep⟩:Ua) 0
 let y:=segAt S v mat ep
 (v,⟨loc+(devV c (kindM c y.Mat) y loc).Lo,loc+(devV c (kindM c y.Mat) y loc).Hi⟩)
theorem Qc8{c:Course}(r:CrsOk c){S:List Segment}(B:∀s∈S,SegOk c s)(O:S.length<=1000){a ep b:Int}(E:matB c a=true)(f:isT b):
  Ev (λn=>F_ad n a ep b S c (varV S)) (repV c S a ep b)/\(0<=(repV c S a ep b).1/\(repV c S a ep b).1<=(S.length:Int))/\
  (-1374389534720<=(repV c S a ep b).2.Lo/\(repV c S a ep b).2.Lo<=1099511627776)/\(-1099511627776<=(repV c S a ep b).2.Hi/\(repV c S a ep b).2.Hi<=1378684502016):=by
 have H:=Qm8 S;generalize hv:QN (varV S) (⟨a,ep⟩:Ua) 0=v;have h:(0<=v/\v<=(S.length:Int))/\(bif decide (0<v)then(idx S (IntKind.i64.wrap (v-1))).bind λz=>some z else some (⟨a,ep,0⟩:Segment))=some (segAt S v a ep)/\isT (segAt S v a ep).Anchor/\ ∃i m,(segAt S v a ep).Mat=((i:Nat):Int)/\c.Mats[i]?=some m:=by
  unfold QN at hv;cases q:Qag (varV S) (⟨a,ep⟩:Ua)with
  |none=>
   rw[q]at hv;have:v=0:=hv.symm;subst this;obtain⟨i,m,G,t⟩:=Qiy E;exact⟨⟨by decide,by omega⟩,rfl,⟨show(-1099511627776:Int)<=0 by decide,show(0:Int)<=1099511627776 by decide⟩,i,m,G,t⟩
  |some w=>
   rw[q]at hv;have:w=v:=hv;subst this;obtain⟨j,s,rfl,t,g,L⟩:=H _ _ q;have p:=B s (VG g);have e:segAt S ((j+1:Nat):Int) a ep=s:=by
    unfold segAt;rw[QT (by omega),Vn,show(((j+1:Nat):Int)-1).toNat=j by omega,g];rfl
   rw[e];refine⟨⟨by omega,by omega⟩,?_,p.an,Qiy (by have:=p.pl;unfold okPl at this;rw[XW]at this;exact this.1)⟩;rw[QT (by omega),Vn,Qq (by omega) (by omega),show((j+1:Nat):Int)-1=(j:Int)by omega,QQ g];rfl
 obtain⟨F,x,k,i,m,u,l⟩:=h;have y:kindM c (segAt S v a ep).Mat=m.Kind:=by unfold kindM;rw[u,Int.toNat_natCast,l]
 have e:repV c S a ep b=(v,⟨b+(devV c m.Kind (segAt S v a ep) b).Lo,b+(devV c m.Kind (segAt S v a ep) b).Hi⟩):=by
  unfold repV;simp only[hv,y]
 obtain⟨P,M,N,J⟩:=QoW r m.Kind k f;have d:=f;unfold isT at d;rw[e];refine⟨?_,F,⟨by simp only;omega,by simp only;omega⟩,⟨by simp only;omega,by simp only;omega⟩⟩;unfold F_ad;simp only[hv,XJ];rw[x];refine Ea (Qa _) (Ea (QoV r l u k f) ?_);rw[Qq (by omega) (by omega),Qq (by omega) (by omega)];exact Qa _
def newB(c:Course)(S:List Segment)(b:Beacon):List Edge:=
 bif matB c b.Mat then[⟨0,(repV c S b.Mat b.Epoch b.Local).1,b.True+b.Err-(repV c S b.Mat b.Epoch b.Local).2.Lo⟩,⟨(repV c S b.Mat b.Epoch b.Local).1,0,0-(b.True-b.Err-(repV c S b.Mat b.Epoch b.Local).2.Hi)⟩]else[]
def newS(c:Course)(S:List Segment)(y:Sync):List Edge:=
 bif matB c y.MatA&&matB c y.MatB then[⟨(repV c S y.MatA y.EpochA y.LocalA).1,(repV c S y.MatB y.EpochB y.LocalB).1,y.Max-(repV c S y.MatB y.EpochB y.LocalB).2.Lo+(repV c S y.MatA y.EpochA y.LocalA).2.Hi⟩,
  ⟨(repV c S y.MatB y.EpochB y.LocalB).1,(repV c S y.MatA y.EpochA y.LocalA).1,0-(y.Min-(repV c S y.MatB y.EpochB y.LocalB).2.Hi+(repV c S y.MatA y.EpochA y.LocalA).2.Lo)⟩]else[]
def edgesV(c:Course)(S:List Segment)(l:List Fact):List Edge:=baseG S 0++((cntS l 3).flatMap (λf=>newB c S f.Beacon)++(cntS l 4).flatMap (λf=>newS c S f.Sync))
theorem Qgx{c:Course}(g:CrsOk c){S:List Segment}(f:∀s∈S,SegOk c s)(e:S.length<=1000){b:Beacon}(a:BeaOk b):(∀x∈newB c S b,EdgOk (S.length+1) x)/\(newB c S b).length<=2:=by
 unfold newB;cases q:matB c b.Mat with
 |false=>exact⟨(λx h=>by cases h),by simp⟩
 |true=>
  obtain⟨_,⟨v0,m⟩,⟨i,l⟩,r,n⟩:=Qc8 g f e (ep:=b.Epoch) q a.lo;obtain⟨j,p⟩:=a.tr;obtain⟨k,t⟩:=a.er;refine⟨λx d=>?_,by simp⟩;simp only[Vn,X5,List.not_mem_nil,or_false]at d;rcases d with rfl|rfl
  .exact⟨Int.le_refl _,by simp only;omega,v0,by simp only;omega,by simp only;omega,by simp only;omega⟩
  .exact⟨v0,by simp only;omega,Int.le_refl _,by simp only;omega,by simp only;omega,by simp only;omega⟩
theorem Qjq{c:Course}(g:CrsOk c){S:List Segment}(b:∀s∈S,SegOk c s)(e:S.length<=1000){y:Sync}(a:SynOk y):(∀x∈newS c S y,EdgOk (S.length+1) x)/\(newS c S y).length<=2:=by
 unfold newS;cases q:matB c y.MatA&&matB c y.MatB with
 |false=>exact⟨(λx h=>by cases h),by simp⟩
 |true=>
  rw[XW]at q;obtain⟨_,⟨v0,l⟩,⟨i,u⟩,p,m⟩:=Qc8 g b e (ep:=y.EpochA) q.1 a.la;obtain⟨_,⟨d,z⟩,⟨t,r⟩,j,n⟩:=Qc8 g b e (ep:=y.EpochB) q.2 a.lb;obtain⟨k,B⟩:=a.mi;obtain⟨w,E⟩:=a.ma;refine⟨λx f=>?_,by simp⟩;simp only[Vn,X5,List.not_mem_nil,or_false]at f;rcases f with rfl|rfl
  .exact⟨v0,by simp only;omega,d,by simp only;omega,by simp only;omega,by simp only;omega⟩
  .exact⟨d,by simp only;omega,v0,by simp only;omega,by simp only;omega,by simp only;omega⟩
theorem Qcj{α β:Type}(f:α->List β):∀(l:List α) (a:List β),l.foldl (λa x=>a++f x) a=a++l.flatMap f
 |[],a=>by simp
 |x::l,a=>by rw[XD,Qcj f l];simp
theorem Qdl{α β:Type}{f:α->List β}{l:List α}(h:∀x∈l,(f x).length<=2):(l.flatMap f).length<=2*l.length:=by
 induction l with
 |nil=>simp
 |cons x l a=>
  have:=h x (by simp);have:=a λy b=>h y (by simp[b]);simp only[List.flatMap_cons,X2,XZ];omega
theorem Qe8{c:Course}(n:CrsOk c)(l:List Fact)(r:l.length<=15):SysOk ((segV c l).length+1) (edgesV c (segV c l) l):=by
 have u:=Qjh c l;have k:(segV c l).length<=1000:=by omega
 have m:∀s∈segV c l,SegOk c s:=λs h=>Qlg h;have w:=QcK l 3;have t:=QcK l 4;have p:∀f∈cntS l 3,(∀x∈newB c (segV c l) f.Beacon,EdgOk ((segV c l).length+1) x)/\(newB c (segV c l) f.Beacon).length<=2:=λf e=>by
  obtain⟨_,g,j⟩:=QaB e;exact Qgx n m k (Qas g j)
 have q:∀f∈cntS l 4,(∀x∈newS c (segV c l) f.Sync,EdgOk ((segV c l).length+1) x)/\(newS c (segV c l) f.Sync).length<=2:=λf e=>by
  obtain⟨_,g,j⟩:=QaB e;exact Qjq n m k (Qcd g j)
 refine⟨by omega,by omega,?_,λx i=>?_⟩
 .have a:=Qdl (f:=λf:Fact=>newB c (segV c l) f.Beacon) λf e=>(p f e).2;have b:=Qdl (f:=λf:Fact=>newS c (segV c l) f.Sync) λf e=>(q f e).2;have d:=Qdo (segV c l) 0;unfold edgesV;simp only[X2];omega
 .unfold edgesV at i;simp only[VC,List.mem_flatMap]at i;rcases i with h|⟨f,e,h⟩|⟨f,e,h⟩
  .exact Qh1 _ 0 _ (by omega) x h
  .exact(p f e).1 x h
  .exact(q f e).1 x h
theorem Qe6{c:Course}{l:List Fact}{e:Int}(he:Ev (λn=>F_h n c) e)(a:e≠0):Ev (λn=>F_z n c l) (0,[],e):=by
 unfold F_z;refine Ea (QgM he a) ?_;rw[show(e != 0)=true by simpa using a];exact Qa _
theorem Qf2{c:Course}(d:CrsOk c){l:List Fact}(he:Ev (λn=>F_h n c) 0)(J:l.length<=15):Ev (λn=>F_z n c l) ((((segV c l).length+1:Nat):Int),edgesV c (segV c l) l,0):=by
 have W:=Qjh c l;have e:(segV c l).length<=1000:=by omega
 have i:∀s∈segV c l,SegOk c s:=λs h=>Qlg h;have c3:=QcK l 3;have c4:=QcK l 4;have Q:=(Qe8 d l J).e1;unfold F_z;refine Ea (QbM he (by omega)) (Yg ?_);have y:=(QjD (segV c l,0) e (segV c l) 0 [] [] rfl (XU _) (by simp)).ev;refine Ea y ?_;simp only[F_n,XJ,Vg];refine Ea (QaK l 3 (by omega)) ?_;have T:(baseG (segV c l) 0).length<=1000:=by rw[Qdo];omega
 obtain⟨N,t⟩:=Qb0 (step:=λn=>F_gx n c (segV c l,0) (varG (segV c l) 0 [],baseG (segV c l) 0)) (λb (f:Fact)=>b++newB c (segV c l) f.Beacon) (λb k=>b.length+2*k<=2000) (cntS l 3) (baseG (segV c l) 0) (by show(baseG (segV c l) 0).length+2*(cntS l 3).length<=2000;omega) λf m b k p=>by
  obtain⟨_,j,g⟩:=QaB m;have a:=Qas j g;obtain⟨_,x⟩:=Qgx d i e a;refine⟨?_,by simp only[X2];omega⟩;unfold F_gx newB;refine Ea (QcF c _) ?_;cases q:matB c f.Beacon.Mat with
  |false=>simp only[Vp,Vf];exact Qa _
  |true=>
   obtain⟨r,⟨v0,F⟩,⟨w,u⟩,H,G⟩:=Qc8 d i e (ep:=f.Beacon.Epoch) q a.lo;obtain⟨E,B⟩:=a.tr;obtain⟨z,e1⟩:=a.er;simp only[Vn];refine Ea (Ea r (Ea ?_ (Qa _))) (Qa _);unfold F_ac;rw[Qq (n:=f.Beacon.True-f.Beacon.Err) (by omega) (by omega),Qq (n:=f.Beacon.True+f.Beacon.Err) (by omega) (by omega),Qq (n:=f.Beacon.True-f.Beacon.Err-_) (by omega) (by omega),Qq (n:=f.Beacon.True+f.Beacon.Err-_) (by omega) (by omega),Qq (n:=0-_) (by omega) (by omega),QcN _ _ (by simp;omega)];exact Qa _
 refine Ea N ?_;rw[Qcj]at t⊢;refine Ea (QaK l 4 (by omega)) ?_;have V:=Qdl (l:=cntS l 3) (f:=λf:Fact=>newB c (segV c l) f.Beacon) λf m=>by
  obtain⟨_,j,p⟩:=QaB m;exact(Qgx d i e (Qas j p)).2
 generalize hE1:baseG (segV c l) 0++(cntS l 3).flatMap (λf=>newB c (segV c l) f.Beacon)=E1;have u:E1.length<=1100:=by rw[<- hE1,X2];omega
 obtain⟨L,M⟩:=Qb0 (step:=λn=>F_hc n c (segV c l,0) (varG (segV c l) 0 [],baseG (segV c l) 0)) (λb (f:Fact)=>b++newS c (segV c l) f.Sync) (λb k=>b.length+2*k<=2000) (cntS l 4) E1 (by show E1.length+2*(cntS l 4).length<=2000;omega) λf m b k p=>by
  obtain⟨_,j,g⟩:=QaB m;have a:=Qcd j g;obtain⟨_,x⟩:=Qjq d i e a;refine⟨?_,by simp only[X2];omega⟩;unfold F_hc newS;refine Ea (v:=matB c f.Sync.MatA&&matB c f.Sync.MatB) ?_ ?_
  .refine Ea (QcF c _) ?_;cases matB c f.Sync.MatA with
   |false=>exact Qa _
   |true=>exact Ea (QcF c _) (Qa _)
  cases q:matB c f.Sync.MatA&&matB c f.Sync.MatB with
  |false=>simp only[Vp,Vf];exact Qa _
  |true=>
   rw[XW]at q;obtain⟨r,⟨v0,F⟩,⟨w,u⟩,H,G⟩:=Qc8 d i e (ep:=f.Sync.EpochA) q.1 a.la;obtain⟨rf,⟨X,v3⟩,⟨P,O⟩,R,Y⟩:=Qc8 d i e (ep:=f.Sync.EpochB) q.2 a.lb;obtain⟨E,B⟩:=a.mi;obtain⟨z,e1⟩:=a.ma;simp only[Vn];refine Ea (Ea r (Ea rf (Ea ?_ (Qa _)))) (Qa _);unfold F_ac;rw[Qq (n:=f.Sync.Min-_) (by omega) (by omega),Qq (n:=f.Sync.Max-_) (by omega) (by omega),Qq (n:=f.Sync.Min-_+_) (by omega) (by omega),Qq (n:=f.Sync.Max-_+_) (by omega) (by omega),Qq (n:=0-_) (by omega) (by omega),QcN _ _ (by simp;omega)];exact Qa _
 refine Ea L ?_;rw[Qcj, <- hE1,Vh];show Ev (λn=>bif decide (8192<((edgesV c (segV c l) l).length:Int))then some (0,[],2)else some (IntKind.i64.wrap (((segV c l).length:Int)+1),edgesV c (segV c l) l,0)) _;rw[QP (show¬(8192<((edgesV c (segV c l) l).length:Int))by omega),QZ (by omega)];exact Qa _
set_option maxRecDepth 10000
theorem QoX{c:Course}(h:courseE c=0):CrsOk c:=by
 unfold courseE at h;cases a:fitsS c with
 |false=>rw[a]at h;cases h
 |true=>
  rw[a,Vn]at h;cases d:namesS c with
  |false=>rw[d]at h;cases h
  |true=>
   rw[d,Vn]at h;cases b:numbersS c with
   |false=>rw[b]at h;cases h
   |true=>
    simp only[numbersS,lastS,inR,XW,Vq]at b;simp only[fitsS,XW,Bool.not_eq_true',Bool.or_eq_false_iff,decide_eq_false_iff_not]at a;have l:=b.2.2.2.2.2.2.2.2.2;exact⟨by omega,by omega,by omega⟩
theorem Qko{c:Course}{l:List Fact}{e:Int}(he:Ev (λn=>F_h n c) e)(a:e≠0):Ev (λn=>F_b n c l) ([],[],e):=by
 unfold F_b;refine Ea (Qe6 he a) ?_;simp only[show(e != 0)=true by simpa using a];exact Qa _
theorem Qmb{c:Course}(d:CrsOk c){l:List Fact}(he:Ev (λn=>F_h n c) 0)(b:l.length<=15):
  (∃φ far D,PotB (edgesV c (segV c l) l) φ/\FarOk (edgesV c (segV c l) l) ((segV c l).length+1) far D/\Ev (λn=>F_b n c l) (segV c l,far,0)/\Ev (λm=>F_ag m ⟨(((segV c l).length+1:Nat):Int),edgesV c (segV c l) l⟩) (far,[],0))\/
  ((¬ ∃φ,PotB (edgesV c (segV c l) l) φ)/\Ev (λn=>F_b n c l) ([],[],160)):=by
 unfold F_b;have s:=Qf2 d he b;rcases Qma (Qe8 d l b)with⟨φ,far,D,f,e,a⟩|⟨h,g,_,_,_,_,a⟩
 .refine .inl ⟨φ,far,D,f,e,Ea s (Yg (Ea a (Yg (Ea (QbM he (by omega)) (Qa _))))),a⟩
 .exact .inr ⟨h,Ea s (Yg (Ea a (Qa _)))⟩
theorem Qoc:F_el 300=some true:=by kernel_rfl
set_option maxRecDepth 10000
theorem Qnn{es:List Edge}{i:Nat}(h:i<es.length):∃x∈es,(grOf es).F i=x.From.toNat/\(grOf es).T i=x.To.toNat/\(grOf es).W i=x.W:=
 ⟨es[i],Vc h,Qht (XK h)⟩
set_option maxRecDepth 10000
end Go.Sw
