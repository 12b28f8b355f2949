/- The plain laws that a law needs, with no program in sight. -/
import Derived.Test.YthihlfoplokmiaaGreatDoorW21De
set_option linter.unusedVariables false
set_option linter.unusedSimpArgs false
namespace Go.Sw
def inR(lo hi x:Int):Bool:=decide (lo<=x)&&decide (x<=hi)
theorem QgH(lo hi:Int)(l:List Int)(hl:l.length<=4611686018427387904):Ev (λn=>F_a n lo hi l) (l.all (inR lo hi)):=by
 have h:Ev (λn=>F_cm n l lo hi) (l.any λx=> !inR lo hi x):=by
  unfold F_cm F_gc;refine Ev.contains l _ (λn x=>F_bk n x lo hi) hl λx _=>?_;unfold F_bk;refine Ea (v:= !inR lo hi x) ?_ (Qa _);refine(Eu λh=>Qa _).eq ?_;unfold inR;rw[X0];simp
 unfold F_a;refine Ea h ((Qa _).eq ?_);rw[List.not_any_eq_all_not];simp
def okN(c:Nat):Bool:=(decide (97<=c)&&decide (c<=122))||(decide (48<=c)&&decide (c<=57))||decide (c=95)
def okAN(c:Nat):Bool:=decide (97<=c)&&decide (c<=122)
def okC(c:UInt8):Bool:=okN c.toNat
def okA(c:UInt8):Bool:=okAN c.toNat
def kwL:List (List UInt8):=[[99,111,117,114,115,101],[109,97,116,115],[115,116,97,114,116],[112,97,115,115],[101,110,100],[108,101,103],[116,111],[100,105,115,116,97,110,99,101],[103,117,110],[99,104,105,112],[115,108,111,116],[108,97,112,115],[108,97,112],[99,117,116,111,102,102],[101,120,116,114,97],[119,97,118,101],[111,102,102,101,110,99,101],[111,117,116],[99,97,116,101,103,111,114,121],[112,114,105,122,101],[97,108,108],[116,105,101,115],[105,102],[101,108,115,101],[97,110,100],[111,114],[110,111,116],[111,108,100,101,114],[121,111,117,110,103,101,114],[98,105,98],[100,114,97,119],[102,105,101,108,100],[115,104,111,114,116],[102,97,117,108,116,115],[109,105,115,115,101,115],[115,116,114,97,121,115],[119,105,110,100,111,119],[114,101,115,105,100,117,97,108],[100,114,105,102,116],[112,114,111,116,101,115,116],[102,101,101],[100,101,97,100,108,105,110,101]]
theorem QhM(c d:Bool):(bif c then some c else some d)=some (c||d):=by cases c<;>rfl
theorem Qde(c d:Bool):(bif c then some true else some d)=some (c||d):=by cases c<;>rfl
theorem Qf3(n:Nat)(s:List UInt8):F_cz n s=some (kwL.contains s):=by
 unfold F_cz;simp only[QhM,Qde,XL];simp only[kwL,List.contains_cons,List.contains_nil,Bool.or_false,Bool.or_assoc]
def kwsOf:List UInt8->List (List UInt8)
 |[]=>[]
 |b::l=>(bif b==32&& !(l.dropWhile λc=>c != 32).isEmpty then[l.takeWhile λc=>c != 32]else[])++kwsOf l
theorem Qd2:∀(l s:List UInt8),(∀c∈s,c≠32)->(s++[32]).isPrefixOf l=((l.takeWhile λc=>c != 32)==s&& !(l.dropWhile λc=>c != 32).isEmpty)
 |[],s,h=>by cases s<;>simp
 |b::l,[],h=>by
  by_cases e:b=32
  .subst e;simp[List.isPrefixOf]
  .have e1:(b != 32)=true:=by simpa using e
   have k:(32==b)=false:=by simpa using λq=>e q.symm
   simp[List.isPrefixOf,List.takeWhile_cons,e1,k]
 |b::l,c::s,h=>by
  have a:=h c (by simp);have i:=Qd2 l s λd g=>h d (by simp[g]);by_cases e:b=32
  .subst e;have:(c==32)=false:=by simpa using a
   simp[List.isPrefixOf,this]
  .have e1:(b != 32)=true:=by simpa using e
   simp only[VM,List.isPrefixOf,List.takeWhile_cons,List.dropWhile_cons,e1,if_true,i,List.cons_beq_cons];by_cases q:c=b
   .subst q;simp
   .have j:(c==b)=false:=by simpa using q
    have f:(b==c)=false:=by simpa using λz=>q z.symm
    simp[j,f]
theorem contains_cons(b:UInt8)(l t:List UInt8)(d:t≠[]):Lib.contains (b::l) t=(t.isPrefixOf (b::l)||Lib.contains l t):=by
 unfold Lib.contains;rw[show Lib.index (b::l) t=if t.isPrefixOf (b::l)then 0 else if Lib.index l t== -1 then-1 else Lib.index l t+1 from rfl];cases h:t.isPrefixOf (b::l)with
 |true=>simp
 |false=>
  have:=Lib.index_ge l t;by_cases q:Lib.index l t= -1
  .simp[q]
  .have a:(Lib.index l t== -1)=false:=by simpa using q
   simp only[a,Bool.false_or];rw[X0];simp;omega
theorem Qb1(s:List UInt8)(h:∀c∈s,c≠32):∀l,Lib.contains l (32::(s++[32]))=(kwsOf l).contains s
 |[]=>by simp[Lib.contains,Lib.index,kwsOf]
 |b::l=>by
  rw[contains_cons b l _ (by simp),Qb1 s h l];simp only[kwsOf,List.isPrefixOf,Qd2 l s h];by_cases e:b=32
  .subst e;cases q: !(l.dropWhile λc=>c != 32).isEmpty with
   |true=>
    simp only[q,beq_self_eq_true,VC,Bool.and_true,Vr,VM,Vj,List.contains_cons];congr 1;rw[X0];simp only[VA];exact⟨λh=>h.symm,λh=>h.symm⟩
   |false=>simp[q]
  .have e1:(b==32)=false:=by simpa using e
   have a:(32==b)=false:=by simpa using λq=>e q.symm
   simp[e1,a]
def wordsL:List UInt8:=[32,99,111,117,114,115,101,32,109,97,116,115,32,115,116,97,114,116,32,112,97,115,115,32,101,110,100,32,108,101,103,32,116,111,32,100,105,115,116,97,110,99,101,32,103,117,110,32,99,104,105,112,32,115,108,111,116,32,108,97,112,115,32,108,97,112,32,99,117,116,111,102,102,32,101,120,116,114,97,32,119,97,118,101,32,111,102,102,101,110,99,101,32,111,117,116,32,99,97,116,101,103,111,114,121,32,112,114,105,122,101,32,97,108,108,32,116,105,101,115,32,105,102,32,101,108,115,101,32,97,110,100,32,111,114,32,110,111,116,32,111,108,100,101,114,32,121,111,117,110,103,101,114,32,98,105,98,32,100,114,97,119,32,102,105,101,108,100,32,115,104,111,114,116,32,102,97,117,108,116,115,32,109,105,115,115,101,115,32,115,116,114,97,121,115,32,119,105,110,100,111,119,32,114,101,115,105,100,117,97,108,32,100,114,105,102,116,32,112,114,111,116,101,115,116,32,102,101,101,32,100,101,97,100,108,105,110,101,32]
theorem QpO:kwsOf wordsL=kwL:=by decide+kernel
def classTab:List Int:=(List.range 256).map λi=>if 97<=i/\i<=122\/65<=i/\i<=90 then 2 else if 48<=i/\i<=57 then 3 else if i∈[123,125,40,41,91,93,59,44,61,60,62]then 4 else if i∈[32,9,10,13]then 1 else 0
theorem Qj4:Ev F_cj classTab:=by
 unfold F_cj;refine Ea (Qcj (step:=F_gs 0) 40 (b:=(iter (F_gs 0) 40 (List.replicate 256 0,97)).getD []) (by decide+kernel)) ?_;refine Ea (Qcj (step:=F_hw 0) 40 (b:=(iter (F_hw 0) 40 ((iter (F_gs 0) 40 (List.replicate 256 0,97)).getD [],48)).getD []) (by decide+kernel)) ?_;generalize hb:(iter (F_hw 0) 40 ((iter (F_gs 0) 40 (List.replicate 256 0,97)).getD [],48)).getD []=b2;refine Ea (Qcj (step:=F_ji 0) 40 (b:=(iter (F_ji 0) 40 (b2,0)).getD []) (by subst hb;decide+kernel)) ?_;refine Ea (Qcj (step:=F_jk 0) 40 (b:=classTab) (by subst hb;decide+kernel)) ?_;exact EA (by decide+kernel)
theorem QlL:((List.range 256).all λi=> !okN i||decide (classTab[i]?=some (if okAN i then 2 else if i=95 then 0 else 3)))=true:=by decide+kernel
theorem Qnz{c:UInt8}(h:okC c=true):Qer 256 classTab (c.toNat:Int)=some (if okA c then 2 else if c.toNat=95 then 0 else 3):=by
 have a:=Xu.1 QlL c.toNat (List.mem_range.2 c.toNat_lt);unfold okC at h;rw[h]at a;simp only[Xh,Bool.false_or,Vt]at a;unfold Qer;rw[show Nat.beq classTab.length 256=true by decide+kernel,Vr,YR a];rfl
def goodS(s:List UInt8):Bool:=decide (1<=s.length)&&decide (s.length<=24)&&(s.head?).any okA&&s.all okC
def isNameS(s:List UInt8):Bool:=goodS s&& !kwL.contains s
theorem Qlz(s:List UInt8)(h:goodS s=true):Ev (λn=>F_dg n s) true:=by
 unfold goodS at h;simp only[XY,Vt,Xu]at h;obtain⟨⟨⟨d,k⟩,f⟩,g⟩:=h;unfold F_dg;refine Ea Qj4 ?_;refine JK (v:=List.replicate 256 0) (by decide+kernel) ?_;refine JK (v:=classTab) (by decide+kernel) ?_;refine Ea (v:=Ctl.cont ()) (Ev.iter (λi=>(i:Int)) s.length rfl (λi j=>?_) ?_) ?_
 .have a:=JL (x:=s[i]) (by omega) (XM j);have e:=g _ a.mem;unfold F_is;simp only[a.lt,Vr,a.ix,XL,Qnz e,a.nx];cases i with
  |zero=>
   have:okA s[0]=true:=by
    cases s with
    |nil=>simp at d
    |cons c r=>simpa using f
   simp[this];exact Qa _
  |succ i=>
   by_cases q:okA s[i+1]=true
   .simp[q];exact Qa _
   .by_cases b:s[i+1].toNat=95
    .simp[q,b];exact Qa _
    .simp[q,b];exact Qa _
 .unfold F_is;simp only[YU,Vs];exact Qa _
 .refine EA ?_;cases s with
  |nil=>simp at d
  |cons c r=>rfl
theorem Qlt{s:List UInt8}(h:goodS s=true):∀c∈s,c≠32:=by
 unfold goodS at h;simp only[XY,Xu]at h;rintro c a rfl;exact absurd (h.2 _ a) (by decide)
theorem Qm3{s:List UInt8}(h:goodS s=true):s.length<=24:=by
 unfold goodS at h;simp only[XY,Vt]at h;exact h.1.1.2
theorem Qj5(s:List UInt8)(h:goodS s=true):Ev (λn=>F_dl n s) (kwL.contains s):=by
 unfold F_dl;refine Ea (v:=kwL.contains s) ?_ (Qa _);refine Ea (Qlz s h) (Qk8 ?_);have a:=Qm3 h;refine JK (v:=[32]++s) (by unfold cat;rw[XU (by simp;omega)];rfl) ?_;refine JK (v:=[32]++s++[32]) (by unfold cat;rw[XU (by simp;omega)];rfl) ?_;refine JK (v:=kwL.contains s) ?_ (Qa _);show Qfe wordsL ([32]++s++[32])=some (kwL.contains s);unfold Qfe;rw[show Nat.blt wordsL.length 4294967281=true by decide+kernel,Vr];rw[show[32]++s++[32]=32::(s++[32])by simp,Qb1 s (Qlt h),QpO]
theorem ch_lt(c:UInt8)(k:Nat):decide ((c.toNat:Int)<(k:Int))=decide (c.toNat<k):=by
 rw[X0];simp
theorem badC(c:UInt8):(bif decide ((c.toNat:Int)<97)then(bif decide ((c.toNat:Int)<48)then some ((c.toNat:Int) != 95)else(bif decide (57<(c.toNat:Int))then some ((c.toNat:Int) != 95)else some false))else(bif decide (122<(c.toNat:Int))then(bif decide ((c.toNat:Int)<48)then some ((c.toNat:Int) != 95)else(bif decide (57<(c.toNat:Int))then some ((c.toNat:Int) != 95)else some false))else some false))=some (!okC c):=by
 unfold okC okN;generalize c.toNat=k;have e:((k:Int) != 95)= !decide (k=95):=by
  by_cases h:k=95
  .subst h;rfl
  .rw[Vz h];simp;omega
 rw[e];by_cases i:k<48
 .rw[Yd (show(k:Int)<97 by omega),Yd (show(k:Int)<48 by omega)];have a:¬97<=k:=by omega
  have f:¬48<=k:=by omega
  simp[a,f]
 .rw[Q9 (show¬(k:Int)<48 by omega)];by_cases b:k<=57
  .rw[Yd (show(k:Int)<97 by omega),Q9 (show¬57<(k:Int)by omega)];have a:48<=k:=by omega
   simp[a,b]
  .rw[Yd (show 57<(k:Int)by omega)];by_cases g:k<97
   .rw[Yd (show(k:Int)<97 by omega)];have a:¬97<=k:=by omega
    simp[a,b]
   .rw[Q9 (show¬(k:Int)<97 by omega)];by_cases d:k<=122
    .rw[Q9 (show¬122<(k:Int)by omega)];have a:97<=k:=by omega
     simp[a,d]
    .rw[Yd (show 122<(k:Int)by omega)];simp[b,d]
theorem Qgs(n:Nat)(s:List UInt8):(bif decide ((s.length:Int)<1)then some true else(bif decide (24<(s.length:Int))then some true else(idx s 0).bind λx10=>(bif decide ((x10.toNat:Int)<97)then some true else(idx s 0).bind λx12=>some (decide (122<(x12.toNat:Int))))))=some (!(decide (1<=s.length)&&decide (s.length<=24)&&(s.head?).any okA)):=by
 cases s with
 |nil=>rfl
 |cons c r=>
  rw[Q9 (show¬((c::r).length:Int)<1 by simp;omega),Vs];by_cases h:(c::r).length<=24
  .rw[Q9 (show¬24<((c::r).length:Int)by omega),Vs];have d:idx (c::r) 0=some c:=rfl;simp only[d,XL];simp only[X3]at h;have a:r.length<=23:=by omega
   simp only[List.head?_cons,Option.any_some,okA,okAN];rw[show(97:Int)=((97:Nat):Int)from rfl,ch_lt];by_cases b:c.toNat<97
   .have:¬97<=c.toNat:=by omega
    simp[b,this]
   .have e:97<=c.toNat:=by omega
    simp[b,e,a];by_cases q:c.toNat<=122
    .rw[Q9 (show¬122<(c.toNat:Int)by omega),Yd q];rfl
    .rw[Yd (show 122<(c.toNat:Int)by omega),Q9 q];rfl
  .rw[Yd (show 24<((c::r).length:Int)by omega),Vr];simp only[X3]at h;have a:¬r.length<=23:=by omega
   simp[a]
theorem QgL(s:List UInt8)(hl:s.length<=1048576):Ev (λn=>F_g n s) (isNameS s):=by
 unfold F_g;refine Ea (EA (Qgs 0 s)) ?_;unfold isNameS;cases f:(decide (1<=s.length)&&decide (s.length<=24)&&(s.head?).any okA)with
 |false=>
  simp only[Xi,Vr];have:goodS s=false:=by unfold goodS;rw[f];rfl
  rw[this];exact Qa _
 |true=>
  simp only[Xh,Vs];have d:goodS s=s.all okC:=by unfold goodS;rw[f];rfl
  refine Ea (Jb s (λc=> !okC c) (λi=>(i:Int)) (Ctl.done false) (Ctl.cont ()) (by omega) rfl (λi x a b=>?_) (λi x a b=>?_) ?_) ?_
  .unfold F_ie;simp only[a.lt,Vr,a.ix,XL,badC,b,Vs,a.nx];exact Qa _
  .unfold F_ie;simp only[a.lt,Vr,a.ix,XL,badC,b];exact Qa _
  .unfold F_ie;simp only[YU,Vs];exact Qa _
  .rw[d];have e:s.any (λc=> !okC c)= !s.all okC:=by rw[List.not_all_eq_any_not]
   rw[e];cases q:s.all okC with
   |true=>
    simp only[Xh,Vs,VC];exact Ea (Qj5 s (d.trans q)) (Qa _)
   |false=>
    simp only[Xi,Vr,Bool.false_and];exact Qa _
theorem Qby(s:List UInt8)(hl:s.length<=1048576):Ev (λn=>F_bb n s) (isNameS s):=by
 unfold F_bb;refine Ea (EA (Qgs 0 s)) ?_;unfold isNameS;cases a:(decide (1<=s.length)&&decide (s.length<=24)&&(s.head?).any okA)with
 |false=>
  simp only[Xi,Vr];have:goodS s=false:=by unfold goodS;rw[a];rfl
  rw[this];exact Qa _
 |true=>
  simp only[Xh,Vs];have l:goodS s=s.all okC:=by unfold goodS;rw[a];rfl
  cases s with
  |nil=>simp at a
  |cons c r=>
   have k:okC c=true:=by
    simp only[XY,List.head?_cons,Option.any_some]at a;have:=a.2;unfold okA at this;unfold okC okN;unfold okAN at this;rw[this];rfl
   have m:r.length<=24:=by
    simp only[XY,Vt,X3]at a;omega
   have h:∀(i:Nat) (x:UInt8),At r i x->decide (((i+1:Nat):Int)<((c::r).length:Int))=true/\idx (c::r) ((i+1:Nat):Int)=some x/\IntKind.i64.wrap (((i+1:Nat):Int)+1)=((i+1+1:Nat):Int):=by
    intro i x b;have:=b.lt';exact⟨Vw (by simp;omega),YR (by simpa using b.get),Q8 (by omega)⟩
   refine Ea (Jb r (λc=> !okC c) (λi=>((i+1:Nat):Int)) (Ctl.done false) (Ctl.cont ()) (by omega) rfl (λi x b g=>?_) (λi x b g=>?_) ?_) ?_
   .obtain⟨f,d,j⟩:=h i x b;unfold F_in;simp only[f,Vr,d,XL,badC,g,Vs,j];exact Qa _
   .obtain⟨f,d,j⟩:=h i x b;unfold F_in;simp only[f,Vr,d,XL,badC,g];exact Qa _
   .unfold F_in;rw[Q9 (by simp),Vs];exact Qa _
   .rw[l];have e:r.any (λc=> !okC c)= !(c::r).all okC:=by rw[List.all_cons,k,VC,List.not_all_eq_any_not]
    rw[e];cases q:(c::r).all okC with
    |true=>
     simp only[Xh,Vs,VC];exact Ea (EA (Qf3 0 _)) (Qa _)
    |false=>
     simp only[Xi,Vr,Bool.false_and];exact Qa _
def diffS:List (List UInt8)->List (List UInt8)->Bool
 |_,[]=>true
 |seen,x::r=>isNameS x&& !seen.contains x&&diffS (seen++[x]) r
theorem QfJ(l:List (List UInt8))(i:Nat)(x:List UInt8)(h:At l i x):diffS (l.take i) (l.drop i)=(isNameS x&& !(l.take i).contains x&&diffS (l.take (i+1)) (l.drop (i+1))):=by
 rw[h.drop,h.take];rfl
theorem QbZ{α:Type}(l:List α)(a:α->List UInt8)(g:Nat->α->Option Unit)(hg:∀n x,g n x=some ())(hl:l.length<=1048576)(p:∀x∈l,(a x).length<=1048576):
  Ev (λn=>((iter (λs:(List (List UInt8×Bool))×Int=>bif decide (s.2<(l.length:Int))then(idx l s.2).bind λx35=>(g n x35).bind λr36=>((F_g n (a x35)).bind λr42=>(bif (!r42)then some true else(some (Qx s.1 (a x35) false)).bind λv44=>some v44):Option Bool).bind λb40=>(bif b40 then some (.done (.done false))else(some (Q5 s.1 (a x35) true)).bind λm46=>some (.cont (m46,IntKind.i64.wrap (s.2+1))))else some (.done (.cont ()))) n ([],0):Option (Ctl Unit Bool)).bind λb28=>
   match b28 with
   |.cont _=>some true
   |.done s=>some s:Option Bool)) (diffS [] (l.map a)):=by
 have e:l.length<=4611686018427387904:=by omega
 have f:(l.map a).length<=4611686018427387904:=by simpa using e
 have k:=QbH (B:=Ctl Unit Bool) l (step:=λn s=>bif decide (s.2<(l.length:Int))then(idx l s.2).bind λx35=>(g n x35).bind λr36=>((F_g n (a x35)).bind λr42=>(bif (!r42)then some true else(some (Qx s.1 (a x35) false)).bind λv44=>some v44):Option Bool).bind λb40=>(bif b40 then some (.done (.done false))else(some (Q5 s.1 (a x35) true)).bind λm46=>some (.cont (m46,IntKind.i64.wrap (s.2+1))))else some (.done (.cont ())))
  (s0:=(([]:List (List UInt8×Bool)),(0:Int))) (λi=>(Q3 a true (l.take i),(i:Int))) (λi=>bif diffS ((l.map a).take i) ((l.map a).drop i)then .cont ()else .done false) e rfl (λi x d=>?_) ?_
 .refine Ea k ?_;simp only[List.take_zero,List.drop_zero];cases diffS [] (l.map a)<;>exact Qa _
 .have j:At (l.map a) i (a x):=JL f (by rw[Xq,d.get];rfl);simp only[QfJ _ _ _ j];have b:Ev (λn=>((F_g n (a x)).bind λr42=>(bif (!r42)then some true else(some (Qx (Q3 a true (l.take i)) (a x) false)).bind λv44=>some v44):Option Bool)) (!(isNameS (a x)&& !((l.map a).take i).contains (a x))):=by
   refine Ea (QgL (a x) (p x d.mem)) ?_;cases isNameS (a x)with
   |false=>exact Qa _
   |true=>
    refine QP ((Qa _).eq ?_);rw[Qaq,List.map_take];by_cases h:a x∈(l.map a).take i
    .rw[Vv h];simp[h]
    .rw[Vu h];simp[h]
  cases m:(isNameS (a x)&& !((l.map a).take i).contains (a x))with
  |true=>
   rw[m]at b;refine .inl ⟨?_,by simp⟩;simp only[d.lt,Vr,d.ix,XL,hg];refine Ea b ?_;simp only[Xh,Vs,XL,d.nx];rw[d.take,QcZ];exact Qa _
  |false=>
   rw[m]at b;refine .inr ?_;simp only[d.lt,Vr,d.ix,XL,hg];refine Ea b ?_;simp only[Xi,Vr,Bool.false_and,Vs];exact Qa _
 .simp only[YU,Vs];rw[show(l.map a).drop l.length=[]by apply List.drop_eq_nil_of_le;simp];exact Qa _
theorem Qp3{α:Type}{l:List α}{x:α}(h:l.length<=140737488):app l [x]=some (l++[x]):=Qam l x (by omega)
theorem Qet(l:List (List UInt8))(hl:l.length<=1048576)(m:∀x∈l,x.length<=1048576):Ev (λn=>F_s n l) (diffS [] l):=by
 unfold F_s;have p:l.length<=4611686018427387904:=by omega
 refine Ea (QbH (B:=Ctl Unit Bool) l (λi=>(i:Int)) (λi=>bif diffS (l.take i) (l.drop i)then .cont ()else .done false) p rfl (λi x a=>?_) ?_) ?_
 .simp only[QfJ _ _ _ a];unfold F_iy;simp only[a.lt,Vr,a.ix,XL];cases g:isNameS x with
  |false=>
   refine .inr (Ea ((Qby x (m x a.mem)).eq g) ?_);exact Qa _
  |true=>
   have r:=a.lt';have inner:Ev (λn=>iter (F_fw n l (i:Int)) n 0) (bif (l.take i).contains x then Ctl.done (Ctl.done (Ctl.done false))else Ctl.cont ()):=by
    have e:(l.take i).contains x=(l.take i).any λy=>y==x:=by
     rw[X0];simp
    rw[e];have f:(l.take i).length=i:=by simp;omega
    refine Jb (l.take i) (λy=>y==x) (λi=>(i:Int)) _ _ (by omega) rfl (λj y d k=>?_) (λj y d k=>?_) ?_
    .have h:=d.lt';have b:l[j]?=some y:=by
      have:=d.get;rw[List.getElem?_take]at this;split at this
      .exact this
      .cases this
     unfold F_fw;rw[Yd (show(j:Int)<(i:Int)by omega)];simp only[Vr,YR b,a.ix,XL,k,Vs,d.nx];exact Qa _
    .have h:=d.lt';have b:l[j]?=some y:=by
      have:=d.get;rw[List.getElem?_take]at this;split at this
      .exact this
      .cases this
     unfold F_fw;rw[Yd (show(j:Int)<(i:Int)by omega)];simp only[Vr,YR b,a.ix,XL,k];exact Qa _
    .unfold F_fw;rw[f,Q9 (show¬(i:Int)<(i:Int)by omega)];exact Qa _
   cases q:(l.take i).contains x with
   |true=>
    rw[q]at inner;refine .inr (Ea ((Qby x (m x a.mem)).eq g) (QP (Ea inner ?_)));exact Qa _
   |false=>
    rw[q]at inner;refine .inl ⟨Ea ((Qby x (m x a.mem)).eq g) (QP (Ea inner ?_)),by simp⟩;simp only[Vs,a.nx];exact Qa _
 .unfold F_iy;simp only[YU,Vs,Xt];exact Qa _
 .simp only[List.take_zero,List.drop_zero];cases diffS [] l<;>exact Qa _
theorem Qah{α β:Type}(l:List α)(f:α->β)(hl:l.length<=140737488):Ev (λn=>iter (λs:(List β)×Int=>bif decide (s.2<(l.length:Int))then(idx l s.2).bind λx15=>(app s.1 [f x15]).bind λl16=>some (Ctl.cont (l16,IntKind.i64.wrap (s.2+1)))else some (Ctl.done s.1)) n (([]:List β),(0:Int))) (l.map f):=by
 have e:∀l:List α,l.foldl (λ(a:List β) x=>a++[f x]) []=l.map f:=by
  intro l;have g:∀(l:List α) (a:List β),l.foldl (λ(a:List β) x=>a++[f x]) a=a++l.map f:=by
   intro l
   induction l with
   |nil=>intro a;simp
   |cons x l h=>intro a;rw[XF,h];simp
  simpa using g l []
 rw[<- e l];refine Yp l (λ(a:List β) x=>a++[f x]) [] (λa i=>(a,(i:Int))) (λa=>a) (by omega) rfl (λi x a d b=>?_) ?_
 .rw[e]at b;have:a.length<=140737488:=by rw[b];simp;omega
  simp only[d.lt,Vr,d.ix,XL,Qp3 this,d.nx];exact Qa _
 .simp only[YU,Vs];exact Qa _
def namesS(c:Course):Bool:=isNameS c.Name&&(diffS [] (c.Mats.map (·.Name))&&(diffS [] (c.Distances.map (·.Name))&&(diffS [] (c.Waves.map (·.Name))&&(diffS [] (c.Offences.map (·.Name))&&diffS [] (c.Categories.map (·.Name))))))
structure CourseOk (c:Course):Prop where
 name:c.Name.length<=1048576
 mats:c.Mats.length<=1048576
 matsN:∀x∈c.Mats,x.Name.length<=1048576
 legs:c.Legs.length<=1048576
 dist:c.Distances.length<=1048576
 distN:∀x∈c.Distances,x.Name.length<=1048576
 cut:∀x∈c.Distances,x.Cutoffs.length<=1048576
 wave:c.Waves.length<=1048576
 waveN:∀x∈c.Waves,x.Name.length<=1048576
 off:c.Offences.length<=1048576
 offN:∀x∈c.Offences,x.Name.length<=1048576
 cat:c.Categories.length<=1048576
 catN:∀x∈c.Categories,x.Name.length<=1048576
 prize:c.Prizes.length<=1048576
theorem QfD(c:Course)(w:CourseOk c):Ev (λn=>F_cu n c) (namesS c):=by
 unfold F_cu namesS;refine Ea (v:=_) ?_ (Qa _);refine Ea (QgL c.Name w.name) (Ei λ_=>?_);have f:Ev (λn=>F_dn n c.Mats) (diffS [] (c.Mats.map (·.Name))):=by unfold F_dn;exact QbZ c.Mats (·.Name) F_hh (λ_ _=>rfl) w.mats w.matsN
 have e:Ev (λn=>F_cf n c.Distances) (diffS [] (c.Distances.map (·.Name))):=by unfold F_cf;exact QbZ c.Distances (·.Name) F_eu (λ_ _=>rfl) w.dist w.distN
 have b:Ev (λn=>F_bm n c.Waves) (diffS [] (c.Waves.map (·.Name))):=by unfold F_bm;exact QbZ c.Waves (·.Name) F_fm (λ_ _=>rfl) w.wave w.waveN
 have d:Ev (λn=>F_bq n c.Offences) (diffS [] (c.Offences.map (·.Name))):=by unfold F_bq;exact QbZ c.Offences (·.Name) F_ey (λ_ _=>rfl) w.off w.offN
 have a:Ev (λn=>F_bz n c.Categories) (diffS [] (c.Categories.map (·.Name))):=by unfold F_bz;exact QbZ c.Categories (·.Name) F_fn (λ_ _=>rfl) w.cat w.catN
 refine Ea f (Ei λ_=>?_);refine Ea e (Ei λ_=>?_);refine Ea b (Ei λ_=>?_);refine Ea d (Ei λ_=>?_);exact Ea a (Qa _)
structure Short (c:Course):Prop where
 mats:c.Mats.length<=140737488
 dist:c.Distances.length<=140737488
 wave:c.Waves.length<=140737488
 off:c.Offences.length<=140737488
 cat:c.Categories.length<=140737488
theorem QiQ(c:Course)(w:CourseOk c)(s:Short c):Ev (λn=>F_dk n c) (namesS c):=by
 unfold F_dk namesS;refine Ea (Qah c.Mats (·.Name) s.mats) ?_;refine Ea (Qah c.Distances (·.Name) s.dist) ?_;refine Ea (Qah c.Waves (·.Name) s.wave) ?_;refine Ea (Qah c.Offences (·.Name) s.off) ?_;refine Ea (Qah c.Categories (·.Name) s.cat) ?_;refine Ea (v:=_) ?_ (Qa _);refine Ea (Qby c.Name w.name) (Ei λ_=>?_);have mk:∀{α:Type} (l:List α) (nm:α->List UInt8),l.length<=1048576->(∀x∈l,(nm x).length<=1048576)->Ev (λn=>F_s n (l.map nm)) (diffS [] (l.map nm)):=by
  intro α l nm hl hn;refine Qet _ (by simpa using hl) λx a=>?_;obtain⟨y,b,rfl⟩:=Xf.1 a;exact hn y b
 refine Ea (mk c.Mats (·.Name) w.mats w.matsN) (Ei λ_=>?_);refine Ea (mk c.Distances (·.Name) w.dist w.distN) (Ei λ_=>?_);refine Ea (mk c.Waves (·.Name) w.wave w.waveN) (Ei λ_=>?_);refine Ea (mk c.Offences (·.Name) w.off w.offN) (Ei λ_=>?_);exact Ea (mk c.Categories (·.Name) w.cat w.catN) (Qa _)
theorem QaL{n:Nat}(h:n<=1048576):IntKind.i64.wrap ((n:Int)-1)=(n:Int)-1:=QJ (by omega) (by omega)
theorem JG(x lo hi:Int):Ev (λn=>F_b n x lo hi) (inR lo hi x):=by
 unfold F_b inR;exact Ea (Ei λ_=>Qa _) (Qa _)
theorem QfE(c:Course)(w:CourseOk c)(x:Int):Ev (λn=>F_j n c x) (inR 0 ((c.Mats.length:Int)-1) x):=by
 unfold F_j;rw[QaL w.mats];exact Ea (JG _ _ _) (Qa _)
mutual
def szP:Part->Nat
 |⟨_,_,ps⟩=>1+szPs ps
def szPs:List Part->Nat
 |[]=>0
 |p::r=>szP p+szPs r
end
theorem YT(p:Part):szP p=1+szPs p.Parts:=by cases p;rfl
theorem Jl{p:Part}:∀{l:List Part},p∈l->szP p<=szPs l
 |q::r,h=>by
  simp only[szPs];rcases X8.1 h with rfl|h
  .omega
  .have:=Jl h;omega
mutual
def partS(k:Int):Part->Bool
 |⟨m,laps,ps⟩=>bif laps==0 then inR 0 k m&&((ps.length:Int)==0)else inR 1 64 laps&&((m==0)&&(decide (0<(ps.length:Int))&&partsS k ps))
def partsS(k:Int):List Part->Bool
 |[]=>true
 |p::r=>partS k p&&partsS k r
end
theorem QbU(k:Int)(p:Part):partS k p=bif p.Laps==0 then inR 0 k p.Mat&&((p.Parts.length:Int)==0)else inR 1 64 p.Laps&&((p.Mat==0)&&(decide (0<(p.Parts.length:Int))&&partsS k p.Parts)):=by cases p;rfl
theorem Qbc(k:Int):∀l:List Part,partsS k l=l.all (partS k)
 |[]=>rfl
 |p::r=>by simp only[partsS,List.all_cons,Qbc k r]
theorem Yo{p:Part}(h:Part.wf p):p.Parts.length<=1048576/\ ∀x∈p.Parts,Part.wf x:=by
 cases p;simp only[Part.wf,Qdo]at h;exact h.2.2.1
theorem QH(lo hi x:Int):Ev (λn=>F_a n lo hi [x]) (inR lo hi x):=(QgH lo hi [x] (by simp)).eq (by simp)
theorem QaP(lo hi x y:Int):Ev (λn=>F_a n lo hi [x,y]) (inR lo hi x&&inR lo hi y):=(QgH lo hi [x,y] (by simp)).eq (by simp)
theorem Qni(k:Int):∀(m:Nat) (l:List Part),szPs l<=m->l.length<=1048576->(∀x∈l,Part.wf x)->Ev (λn=>F_k n l k) (partsS k l):=by
 intro m
 induction m with
 |zero=>
  intro l b f a;cases l with
  |nil=>
   refine Yb ?_;show Ev (λn=>B_k (F_k n) n [] k) _;unfold B_k F_dj F_bs;exact Jp [] (partS k) (λn x=>F_bg (F_k n) n x k) (by simp) (by simp)
  |cons p r=>
   exfalso;simp only[szPs,YT]at b;omega
 |succ m h=>
  intro l b f a;refine Yb ?_;show Ev (λn=>B_k (F_k n) n l k) _;unfold B_k F_dj F_bs;rw[Qbc];refine Jp l (partS k) (λn x=>F_bg (F_k n) n x k) (by omega) λp d=>?_;unfold F_bg;rw[QbU];have i:=Jl d;rw[YT]at i;obtain⟨g,e⟩:=Yo (a p d);refine QbI (λ_=>?_) (λ_=>?_)
  .exact Ea (Ea (QH _ _ _) (Ei λ_=>Qa _)) (Qa _)
  .exact Ea (Ea (QH _ _ _) (Ei λ_=>Ei λ_=>Ei λ_=>Ea (h p.Parts (by omega) g e) (Qa _))) (Qa _)
theorem Qly(c:Course)(w:CourseOk c):∀(m:Nat) (l:List Part),szPs l<=m->l.length<=1048576->(∀x∈l,Part.wf x)->Ev (λn=>F_n n c l) (partsS ((c.Mats.length:Int)-1) l):=by
 intro m
 induction m with
 |zero=>
  intro l g q f;cases l with
  |nil=>
   refine Yb ?_;show Ev (λn=>B_n (F_n n) n c []) _;unfold B_n;exact⟨1,λn z=>by obtain⟨k,rfl⟩:∃k,n=k+1:=⟨n-1,by omega⟩;rfl⟩
  |cons p r=>
   exfalso;simp only[szPs,YT]at g;omega
 |succ m t=>
  intro l g q f;refine Yb ?_;show Ev (λn=>B_n (F_n n) n c l) _;unfold B_n;rw[Qbc];have step:∀(i:Nat) (x:Part),At l i x->Ev (λn=>F_hy n c l (F_n n) (i:Int)) (bif partS ((c.Mats.length:Int)-1) x then .cont ((i+1:Nat):Int)else .done (.done false)):=by
   intro i x a;unfold F_hy;simp only[a.lt,Vr,a.ix,XL,a.nx];have u:=Jl a.mem;rw[YT]at u;obtain⟨s,j⟩:=Yo (f x a.mem);refine Ea (Ei λ_=>Ea (QfE c w _) (Ei λ_=>Qa _)) ?_;refine Ea (Ea (JG _ _ _) (Ei λ_=>Ei λ_=>Ei λ_=>Ea (t x.Parts (by omega) s j) (Qa _))) ?_;rw[QbU];cases y:(x.Laps==0)with
   |true=>
    have h:x.Laps=0:=by simpa using y
    simp only[Vr,VC];have:inR 1 64 x.Laps=false:=by rw[h];rfl
    rw[this];simp only[Bool.false_and,Xi];generalize(inR 0 ((c.Mats.length:Int)-1) x.Mat&&((x.Parts.length:Int)==0))=b;cases b<;>exact Qa _
   |false=>
    simp only[Vs,Bool.false_and,Xi,Vr];generalize(inR 1 64 x.Laps&&((x.Mat==0)&&(decide (0<(x.Parts.length:Int))&&partsS ((c.Mats.length:Int)-1) x.Parts)))=b;cases b<;>exact Qa _
  refine Ea (Jb l (λx=> !partS ((c.Mats.length:Int)-1) x) (λi=>(i:Int)) (Ctl.done false) (Ctl.cont ()) (by omega) rfl (λi x a d=>?_) (λi x a d=>?_) ?_) ?_
  .refine(step i x a).eq ?_;have:partS ((c.Mats.length:Int)-1) x=true:=by simpa using d
   rw[this];rfl
  .refine(step i x a).eq ?_;have:partS ((c.Mats.length:Int)-1) x=false:=by simpa using d
   rw[this];rfl
  .unfold F_hy;simp only[YU,Vs];exact Qa _
  .have e:l.any (λx=> !partS ((c.Mats.length:Int)-1) x)= !l.all (partS ((c.Mats.length:Int)-1)):=by rw[List.not_all_eq_any_not]
   rw[e];cases l.all (partS ((c.Mats.length:Int)-1))<;>exact Qa _
def legS(k:Int)(l:Leg):Bool:=(inR 0 k l.From&&inR 0 k l.To)&&((inR 0 68719476736 l.Min&&inR 0 68719476736 l.Max)&&decide (l.Min<=l.Max))
def cutS(k:Int)(x:Cutoff):Bool:=inR 0 k x.Mat&&(decide (1<=x.Lap)&&inR 0 1099511627776 x.Limit)
def distS(k:Int)(d:Distance):Bool:=inR 1 3 d.Timing&&(inR (-1) k d.Extra&&(partsS k d.Route&&d.Cutoffs.all (cutS k)))
def offS(o:Offence):Bool:=bif o.Out then(o.Time==0)&&(o.Laps==0)else bif o.Laps != 0 then(o.Time==0)&&inR 1 64 o.Laps else inR 0 68719476736 o.Time
def catS(x:Category):Bool:=(inR 0 120 x.From&&inR 0 120 x.To)&&decide (x.From<=x.To)
def prizeS(c:Course)(p:Prize):Bool:=inR 0 ((c.Distances.length:Int)-1) p.Distance&&(inR (-1) ((c.Categories.length:Int)-1) p.Category&&(inR 1 4000 p.Rank&&inR 1 1125899906842624 p.Amount))
def lastS(c:Course):Bool:=(inR 0 16 c.Faults.Misses&&inR 0 16 c.Faults.Strays)&&((inR 0 4294967296 c.Faults.Window&&inR 0 4294967296 c.Faults.Residual)&&(inR 0 100000 c.Faults.Drift&&(inR 0 1125899906842624 c.Fee&&inR 0 1099511627776 c.Deadline)))
def legKey(l:Leg):Ue:={from_:=l.From,to_:=l.To}
def prizeKey(p:Prize):Ug:={distance:=p.Distance,category:=p.Category,rank:=p.Rank}
def numbersS(c:Course):Bool:=
 let k:=(c.Mats.length:Int)-1
 c.Mats.all (λm=>inR 1 3 m.Kind)&&(c.Legs.all (legS k)&&(decide ((c.Legs.map legKey).Nodup)&&(c.Distances.all (distS k)&&(c.Waves.all (λw=>inR 0 1099511627776 w.Gun)&&(c.Offences.all offS&&(c.Categories.all catS&&(c.Prizes.all (prizeS c)&&(decide ((c.Prizes.map prizeKey).Nodup)&&lastS c))))))))
structure PartsOk (c:Course):Prop where
 len:∀d∈c.Distances,d.Route.length<=1048576
 wf:∀d∈c.Distances,∀x∈d.Route,Part.wf x
theorem QhF(l:List Leg)(hl:l.length<=1048576):Ev (λn=>F_bv n l) (decide ((l.map legKey).Nodup)):=by
 unfold F_bv;refine Ea (QaF l legKey true (by omega) (λi x m a=>?_) (λm=>?_)) ((Qa _).eq ?_)
 .unfold F_iv F_gy;simp only[a.lt,Vr,a.ix,XL,a.nx];exact Qa _
 .unfold F_iv;simp only[YU,Vs];exact Qa _
 .rw[X0];simp only[VA,Vt];have:=Qco legKey true l;rw[<- this.2];omega
theorem QfA(l:List Prize)(hl:l.length<=1048576):Ev (λn=>F_cc n l) (decide ((l.map prizeKey).Nodup)):=by
 unfold F_cc;refine Ea (QaF l prizeKey true (by omega) (λi x m a=>?_) (λm=>?_)) ((Qa _).eq ?_)
 .unfold F_jf F_ff;simp only[a.lt,Vr,a.ix,XL,a.nx];exact Qa _
 .unfold F_jf;simp only[YU,Vs];exact Qa _
 .rw[X0];simp only[VA,Vt];have:=Qco prizeKey true l;rw[<- this.2];omega
theorem QfC(c:Course)(w:CourseOk c)(q:PartsOk c):Ev (λn=>F_dy n c) (numbersS c):=by
 unfold F_dy numbersS;rw[QaL w.mats];refine Ea (v:=_) ?_ (Qa _);have j:Ev (λn=>F_cr n c.Mats) (c.Mats.all λm=>inR 1 3 m.Kind):=by
  unfold F_cr F_ee F_ec;refine Jp c.Mats _ (λn x=>F_dd n x) (by have:=w.mats;omega) λx a=>?_;unfold F_dd;exact Ea (QH _ _ _) (Qa _)
 have i:Ev (λn=>F_ce n c.Legs ((c.Mats.length:Int)-1)) (c.Legs.all (legS ((c.Mats.length:Int)-1))):=by
  unfold F_ce F_es F_dz;refine Jp c.Legs _ (λn x=>F_da n x _) (by have:=w.legs;omega) λx a=>?_;unfold F_da;exact Ea (Ea (QaP _ _ _ _) (Ei λ_=>Ea (QaP _ _ _ _) (Ei λ_=>Qa _))) (Qa _)
 have g:Ev (λn=>F_do n c.Distances ((c.Mats.length:Int)-1)) (c.Distances.all (distS ((c.Mats.length:Int)-1))):=by
  unfold F_do F_ge F_fx;refine Jp c.Distances _ (λn x=>F_bw n x _) (by have:=w.dist;omega) λx a=>?_;unfold F_bw;have b:Ev (λn=>F_cl n x.Cutoffs ((c.Mats.length:Int)-1)) (x.Cutoffs.all (cutS ((c.Mats.length:Int)-1))):=by
   unfold F_cl F_eo F_gu;refine Jp x.Cutoffs _ (λn x=>F_dp n x _) (by have:=w.cut x a;omega) λy k=>?_;unfold F_dp;exact Ea (Ea (QH _ _ _) (Ei λ_=>Ei λ_=>Ea (QH _ _ _) (Qa _))) (Qa _)
  exact Ea (Ea (QH _ _ _) (Ei λ_=>Ea (QH _ _ _) (Ei λ_=>Ea (Qni _ _ x.Route (XV _) (q.len x a) (q.wf x a)) (Ei λ_=>Ea b (Qa _))))) (Qa _)
 have e:Ev (λn=>F_db n c.Waves) (c.Waves.all λw=>inR 0 1099511627776 w.Gun):=by
  unfold F_db F_gb F_fr;refine Jp c.Waves _ (λn x=>F_cb n x) (by have:=w.wave;omega) λx a=>?_;unfold F_cb;exact Ea (QH _ _ _) (Qa _)
 have h:Ev (λn=>F_cx n c.Offences) (c.Offences.all offS):=by
  unfold F_cx F_hi F_ga;refine Jp c.Offences _ (λn x=>F_co n x) (by have:=w.off;omega) λx a=>?_;unfold F_co offS;refine QbI (λ_=>Ea (Ei λ_=>Qa _) (Qa _)) λ_=>QbI (λ_=>Ea (Ei λ_=>Ea (QH _ _ _) (Qa _)) (Qa _)) λ_=>Ea (QH _ _ _) (Qa _)
 have d:Ev (λn=>F_dh n c.Categories) (c.Categories.all catS):=by
  unfold F_dh F_fu F_hm;refine Jp c.Categories _ (λn x=>F_df n x) (by have:=w.cat;omega) λx a=>?_;unfold F_df;exact Ea (Ea (QaP _ _ _ _) (Ei λ_=>Qa _)) (Qa _)
 have f:Ev (λn=>F_bo n c.Prizes c) (c.Prizes.all (prizeS c)):=by
  unfold F_bo F_ez F_fa;refine Jp c.Prizes _ (λn x=>F_ds n x c) (by have:=w.prize;omega) λx a=>?_;unfold F_ds;rw[QaL w.dist,QaL w.cat];exact Ea (Ea (QH _ _ _) (Ei λ_=>Ea (QH _ _ _) (Ei λ_=>Ea (QH _ _ _) (Ei λ_=>Ea (QH _ _ _) (Qa _))))) (Qa _)
 refine Ea j (Ei λ_=>Ea i (Ei λ_=>Ea (QhF _ w.legs) (Ei λ_=>Ea g (Ei λ_=>Ea e (Ei λ_=>Ea h (Ei λ_=>Ea d (Ei λ_=>Ea f (Ei λ_=>Ea (QfA _ w.prize) (Ei λ_=>?_)))))))));exact Ea (QaP _ _ _ _) (Ei λ_=>Ea (QaP _ _ _ _) (Ei λ_=>Ea (QH _ _ _) (Ei λ_=>Ea (QH _ _ _) (Ei λ_=>Ea (QH _ _ _) (Qa _)))))
theorem ends_eq{a b a' d:Int}:(({from_:=a,to_:=b}:Ue)={from_:=a',to_:=d})↔a=a'/\b=d:=by simp
theorem Qfz(c:Course)(w:CourseOk c)(d:Distance)(l:d.Route.length<=1048576)(k:∀x∈d.Route,Part.wf x)(m:d.Cutoffs.length<=1048576):Ev (λn=>F_dr n c d) (distS ((c.Mats.length:Int)-1) d):=by
 unfold F_dr;have step:∀(i:Nat) (x:Cutoff),At d.Cutoffs i x->Ev (λn=>F_ib n c d (i:Int)) (bif cutS ((c.Mats.length:Int)-1) x then .cont ((i+1:Nat):Int)else .done (.done false)):=by
  intro i x a;unfold F_ib;simp only[a.lt,Vr,a.ix,XL,a.nx];have:Ev (λn=>((F_j n c x.Mat).bind λg=>(bif (!g)then some true else(bif decide (x.Lap<1)then some true else(F_b n x.Limit 0 1099511627776).bind λf=>some (!f))):Option Bool)) (!cutS ((c.Mats.length:Int)-1) x):=by
   refine Ea (QfE c w _) (Ew (Eu λ_=>Eu λ_=>Ea (JG _ _ _) (Qa _)) ?_);unfold cutS;by_cases h:x.Lap<1
   .have:¬1<=x.Lap:=by omega
    simp[h,this]
   .have:1<=x.Lap:=by omega
    simp[h,this]
  refine Ea this ?_;cases cutS ((c.Mats.length:Int)-1) x<;>exact Qa _
 refine Ea (Jb d.Cutoffs (λx=> !cutS ((c.Mats.length:Int)-1) x) (λi=>(i:Int)) (Ctl.done false) (Ctl.cont ()) (by omega) rfl (λi x a b=>?_) (λi x a b=>?_) ?_) ?_
 .refine(step i x a).eq ?_;have:cutS ((c.Mats.length:Int)-1) x=true:=by simpa using b
  rw[this];rfl
 .refine(step i x a).eq ?_;have:cutS ((c.Mats.length:Int)-1) x=false:=by simpa using b
  rw[this];rfl
 .unfold F_ib;simp only[YU,Vs];exact Qa _
 .have e:d.Cutoffs.any (λx=> !cutS ((c.Mats.length:Int)-1) x)= !d.Cutoffs.all (cutS ((c.Mats.length:Int)-1)):=by rw[List.not_all_eq_any_not]
  rw[e];unfold distS;have j:inR (-1) ((c.Mats.length:Int)-1) d.Extra=((d.Extra== -1)||inR 0 ((c.Mats.length:Int)-1) d.Extra):=by
   unfold inR;rw[X0];simp;omega
  cases d.Cutoffs.all (cutS ((c.Mats.length:Int)-1))with
  |false=>
   simp only[Xi,Vr,Bool.and_false];exact Qa _
  |true=>
   simp only[Xh,Vs,Bool.and_true];refine Ea (v:=_) ?_ (Qa _);refine Ea (JG _ _ _) ((Ei λ_=>Ea (Qly c w _ d.Route (XV _) l k) (Ei λ_=>Eu λ_=>Ea (QfE c w _) (Qa _))).eq ?_);rw[j,Bool.and_comm (partsS _ _)]
theorem Yx{α B:Type}{step:Nat->Int->Option (Ctl Int B)}(l:List α)(ok:α->Bool)(a b:B)(hl:l.length<=4611686018427387904)
  (g:∀i x,At l i x->Ev (λn=>step n (i:Int)) (bif ok x then .cont ((i+1:Nat):Int)else .done a))(j:Ev (λn=>step n (l.length:Int)) (.done b)):
  Ev (λn=>Go.Sw.iter (step n) n 0) (bif l.all ok then b else a):=by
 have e:(bif l.all ok then b else a)=bif l.any (λx=> !ok x)then a else b:=by
  rw[<- List.not_all_eq_any_not];cases l.all ok<;>rfl
 rw[e];refine Jb l (λx=> !ok x) (λi=>(i:Int)) a b hl rfl (λi x d f=>?_) (λi x d f=>?_) j
 .have h:ok x=true:=by simpa using f
  have:=g i x d
  rwa [h]at this
 .have h:ok x=false:=by simpa using f
  have:=g i x d
  rwa [h]at this
theorem QhC(c:Course)(w:CourseOk c)(q:PartsOk c):Ev (λn=>F_cn n c) (numbersS c):=by
 unfold F_cn numbersS;have O:Ev (λn=>iter (F_ii n c) n 0) (bif c.Mats.all (λm=>inR 1 3 m.Kind)then Ctl.cont ()else Ctl.done false):=by
  refine Yx c.Mats _ _ _ (by have:=w.mats;omega) (λi x a=>?_) ?_
  .unfold F_ii;simp only[a.lt,Vr,a.ix,XL,a.nx];refine Ea (JG _ _ _) ?_;cases inR 1 3 x.Kind<;>exact Qa _
  .unfold F_ii;simp only[YU,Vs];exact Qa _
 have H:Ev (λn=>iter (F_cq n c) n 0) (bif c.Legs.all (legS ((c.Mats.length:Int)-1))&&decide ((c.Legs.map legKey).Nodup)then Ctl.cont ()else Ctl.done false):=by
  have first:∀x:Leg,Ev (λn=>((F_j n c x.From).bind λr=>(bif (!r)then some true else(F_j n c x.To).bind λu=>(bif (!u)then some true else(bif decide (x.Min<0)then some true else(bif decide (x.Max<x.Min)then some true else some (decide (68719476736<x.Max)))))):Option Bool)) (!legS ((c.Mats.length:Int)-1) x):=by
   intro x;refine Ea (QfE c w _) (Ew (Eu λ_=>Ea (QfE c w _) (Eu λ_=>Eu λ_=>Eu λ_=>Qa _)) ?_);unfold legS inR;rw[X0];simp;omega
  have inner:∀(i:Nat) (x:Leg),At c.Legs i x->Ev (λn=>iter (F_gx n c (i:Int) x) n 0) (bif ((c.Legs.take i).map legKey).contains (legKey x)then Ctl.done (Ctl.done (Ctl.done false))else Ctl.cont ()):=by
   intro i x a;have E:=a.lt';refine Qjq c.Legs i legKey (legKey x) _ _ (by have:=w.legs;omega) (by omega) (λj y F l g=>?_) (λj y F l g=>?_) ?_
   .unfold F_gx;rw[Yd (show(j:Int)<(i:Int)by omega)];simp only[Vr,l.ix,XL,l.nx];have h:¬(y.From=x.From/\y.To=x.To):=by simpa[legKey]using g
    refine Ea (Ei λ_=>Qa _) ?_;have e:((y.From==x.From)&&(y.To==x.To))=false:=by
     rw[VO];intro z;exact h (by simpa using z)
    rw[e];exact Qa _
   .unfold F_gx;rw[Yd (show(j:Int)<(i:Int)by omega)];simp only[Vr,l.ix,XL,l.nx];have h:(y.From=x.From/\y.To=x.To):=by simpa[legKey]using g
    refine Ea (Ei λ_=>Qa _) ?_;have e:((y.From==x.From)&&(y.To==x.To))=true:=by simpa using h
    rw[e];exact Qa _
   .unfold F_gx;rw[Q9 (show¬(i:Int)<(i:Int)by omega)];exact Qa _
  refine Qn1 c.Legs (legS ((c.Mats.length:Int)-1)) legKey _ _ (by have:=w.legs;omega) (λi x a d g=>?_) (λi x a d=>?_) (λi x a d g=>?_) ?_
  .unfold F_cq;simp only[a.lt,Vr,a.ix,XL,a.nx];have f:=first x;rw[d]at f
   have k:=inner i x a;rw[g]at k;exact Ea f (QP (Ea k (Qa _)))
  .unfold F_cq;simp only[a.lt,Vr,a.ix,XL,a.nx];have f:=first x;rw[d]at f
   exact Ea f (Qa _)
  .unfold F_cq;simp only[a.lt,Vr,a.ix,XL,a.nx];have f:=first x;rw[d]at f
   have k:=inner i x a;rw[g]at k;exact Ea f (QP (Ea k (Qa _)))
  .unfold F_cq;simp only[YU,Vs];exact Qa _
 have G:Ev (λn=>iter (F_hs n c) n 0) (bif c.Distances.all (distS ((c.Mats.length:Int)-1))then Ctl.cont ()else Ctl.done false):=by
  refine Yx c.Distances _ _ _ (by have:=w.dist;omega) (λi x a=>?_) ?_
  .unfold F_hs;simp only[a.lt,Vr,a.ix,XL,a.nx];refine Ea (Qfz c w x (q.len x a.mem) (q.wf x a.mem) (w.cut x a.mem)) ?_;cases distS ((c.Mats.length:Int)-1) x<;>exact Qa _
  .unfold F_hs;simp only[YU,Vs];exact Qa _
 have L:Ev (λn=>iter (F_ij n c) n 0) (bif c.Waves.all (λw=>inR 0 1099511627776 w.Gun)then Ctl.cont ()else Ctl.done false):=by
  refine Yx c.Waves _ _ _ (by have:=w.wave;omega) (λi x a=>?_) ?_
  .unfold F_ij;simp only[a.lt,Vr,a.ix,XL,a.nx];refine Ea (JG _ _ _) ?_;cases inR 0 1099511627776 x.Gun<;>exact Qa _
  .unfold F_ij;simp only[YU,Vs];exact Qa _
 have N:Ev (λn=>iter (F_id n c) n 0) (bif c.Offences.all offS then Ctl.cont ()else Ctl.done false):=by
  refine Yx c.Offences _ _ _ (by have:=w.off;omega) (λi x a=>?_) ?_
  .unfold F_id;simp only[a.lt,Vr,a.ix,XL,a.nx];refine Ea (Ea (JG _ _ _) (Ei λ_=>Ei λ_=>Qa _)) ?_;refine Ea (Ei λ_=>Ea (JG _ _ _) (Ei λ_=>Qa _)) ?_;refine Ea (Ei λ_=>Ei λ_=>Qa _) ?_;refine Ea (Ei λ_=>Ei λ_=>Qa _) ?_;have e:offS x= !(!(inR 0 68719476736 x.Time&&((x.Laps==0)&& !x.Out))&&(!((x.Time==0)&&(inR 1 64 x.Laps&& !x.Out))&& !((x.Time==0)&&((x.Laps==0)&&x.Out)))):=by
    unfold offS inR;cases x.Out with
    |true=>
     rw[X0];simp
    |false=>
     by_cases h:x.Laps=0
     .rw[X0];simp[h]
     .rw[X0];simp[h]
   rw[e];generalize(!(inR 0 68719476736 x.Time&&((x.Laps==0)&& !x.Out))&&(!((x.Time==0)&&(inR 1 64 x.Laps&& !x.Out))&& !((x.Time==0)&&((x.Laps==0)&&x.Out))))=b;cases b<;>exact Qa _
  .unfold F_id;simp only[YU,Vs];exact Qa _
 have J:Ev (λn=>iter (F_ik n c) n 0) (bif c.Categories.all catS then Ctl.cont ()else Ctl.done false):=by
  refine Yx c.Categories _ _ _ (by have:=w.cat;omega) (λi x a=>?_) ?_
  .unfold F_ik;simp only[a.lt,Vr,a.ix,XL,a.nx];refine Ea (Eu λ_=>Eu λ_=>Qa _) ?_;have e:(decide (x.From<0)||(decide (x.To<x.From)||decide (120<x.To)))= !catS x:=by
    unfold catS inR;rw[X0];simp;omega
   rw[e];cases catS x<;>exact Qa _
  .unfold F_ik;simp only[YU,Vs];exact Qa _
 have M:Ev (λn=>iter (F_bn n c) n 0) (bif c.Prizes.all (prizeS c)&&decide ((c.Prizes.map prizeKey).Nodup)then Ctl.cont ()else Ctl.done false):=by
  have first:∀x:Prize,Ev (λn=>((F_b n x.Distance 0 (IntKind.i64.wrap ((c.Distances.length:Int)-1))).bind λs=>(bif (!s)then some true else(F_b n x.Category (-1) (IntKind.i64.wrap ((c.Categories.length:Int)-1))).bind λp=>(bif (!p)then some true else(F_b n x.Rank 1 4000).bind λt=>(bif (!t)then some true else(F_b n x.Amount 1 1125899906842624).bind λB=>some (!B)))):Option Bool)) (!prizeS c x):=by
   intro x;rw[QaL w.dist,QaL w.cat];refine Ea (JG _ _ _) (Ew (Eu λ_=>Ea (JG _ _ _) (Eu λ_=>Ea (JG _ _ _) (Eu λ_=>Ea (JG _ _ _) (Qa _)))) ?_);unfold prizeS;simp only[Bool.not_and]
  have inner:∀(i:Nat) (x:Prize),At c.Prizes i x->Ev (λn=>iter (F_hf n c (i:Int) x) n 0) (bif ((c.Prizes.take i).map prizeKey).contains (prizeKey x)then Ctl.done (Ctl.done (Ctl.done false))else Ctl.cont ()):=by
   intro i x a;have E:=a.lt';refine Qjq c.Prizes i prizeKey (prizeKey x) _ _ (by have:=w.prize;omega) (by omega) (λj y F l g=>?_) (λj y F l g=>?_) ?_
   .unfold F_hf;rw[Yd (show(j:Int)<(i:Int)by omega)];simp only[Vr,l.ix,XL,l.nx];have h:¬(y.Distance=x.Distance/\y.Category=x.Category/\y.Rank=x.Rank):=by simpa[prizeKey]using g
    refine Ea (Ei λ_=>Ei λ_=>Qa _) ?_;have e:((y.Distance==x.Distance)&&((y.Category==x.Category)&&(y.Rank==x.Rank)))=false:=by
     rw[VO];intro z;exact h (by simpa using z)
    rw[e];exact Qa _
   .unfold F_hf;rw[Yd (show(j:Int)<(i:Int)by omega)];simp only[Vr,l.ix,XL,l.nx];have h:(y.Distance=x.Distance/\y.Category=x.Category/\y.Rank=x.Rank):=by simpa[prizeKey]using g
    refine Ea (Ei λ_=>Ei λ_=>Qa _) ?_;have e:((y.Distance==x.Distance)&&((y.Category==x.Category)&&(y.Rank==x.Rank)))=true:=by simpa using h
    rw[e];exact Qa _
   .unfold F_hf;rw[Q9 (show¬(i:Int)<(i:Int)by omega)];exact Qa _
  refine Qn1 c.Prizes (prizeS c) prizeKey _ _ (by have:=w.prize;omega) (λi x a d g=>?_) (λi x a d=>?_) (λi x a d g=>?_) ?_
  .unfold F_bn;simp only[a.lt,Vr,a.ix,XL,a.nx];have f:=first x;rw[d]at f
   have k:=inner i x a;rw[g]at k;exact Ea f (QP (Ea k (Qa _)))
  .unfold F_bn;simp only[a.lt,Vr,a.ix,XL,a.nx];have f:=first x;rw[d]at f
   exact Ea f (Qa _)
  .unfold F_bn;simp only[a.lt,Vr,a.ix,XL,a.nx];have f:=first x;rw[d]at f
   have k:=inner i x a;rw[g]at k;exact Ea f (QP (Ea k (Qa _)))
  .unfold F_bn;simp only[YU,Vs];exact Qa _
 refine Ea O ?_;cases c.Mats.all (λm=>inR 1 3 m.Kind)with
 |false=>exact Qa _
 |true=>
 refine Ea H ?_;simp only[VC];rw[<- Bool.and_assoc];cases(c.Legs.all (legS ((c.Mats.length:Int)-1))&&decide ((c.Legs.map legKey).Nodup))with
 |false=>exact Qa _
 |true=>
 refine Ea G ?_;simp only[VC];cases c.Distances.all (distS ((c.Mats.length:Int)-1))with
 |false=>exact Qa _
 |true=>
 refine Ea L ?_;simp only[VC];cases c.Waves.all (λw=>inR 0 1099511627776 w.Gun)with
 |false=>exact Qa _
 |true=>
 refine Ea N ?_;simp only[VC];cases c.Offences.all offS with
 |false=>exact Qa _
 |true=>
 refine Ea J ?_;simp only[VC];cases c.Categories.all catS with
 |false=>exact Qa _
 |true=>
 refine Ea M ?_;simp only[VC];rw[<- Bool.and_assoc];cases(c.Prizes.all (prizeS c)&&decide ((c.Prizes.map prizeKey).Nodup))with
 |false=>exact Qa _
 |true=>
 simp only[VC];refine Ea (v:=lastS c) ?_ (Qa _);refine Ea (JG _ _ _) ((Ei λ_=>Ea (JG _ _ _) (Ei λ_=>Ea (JG _ _ _) (Ei λ_=>Ea (JG _ _ _) (Ei λ_=>Ea (JG _ _ _) (Ei λ_=>Ea (JG _ _ _) (Ei λ_=>Ea (JG _ _ _) (Qa _))))))).eq ?_);unfold lastS;simp only[Bool.and_assoc]
mutual
def cN:Cond->Nat
 |⟨_,_,_,ps⟩=>1+cNs ps
def cNs:List Cond->Nat
 |[]=>0
 |c::r=>cN c+cNs r
end
theorem Qb2(c:Cond):cN c=1+cNs c.Parts:=by cases c;rfl
mutual
def cD:Nat->Cond->Bool
 |d,⟨_,_,_,ps⟩=>cDs d ps
def cDs:Nat->List Cond->Bool
 |_,[]=>true
 |d,c::r=>decide (d<=16)&&(cD (d+1) c&&cDs d r)
end
theorem QkW(d:Nat)(c:Cond):cD d c=cDs d c.Parts:=by cases c;rfl
def zeroC(c:Cond):Bool:=(c.Kind==0)&&((c.Var==0)&&((c.N==0)&&((c.Parts.length:Int)==0)))
mutual
def sNp:Step->Nat
 |⟨_,_,_,t,e⟩=>1+sNs t+sNs e
def sNs:List Step->Nat
 |[]=>0
 |s::r=>sNp s+sNs r
end
theorem Qgj(s:Step):sNp s=1+sNs s.Then+sNs s.Else:=by cases s;rfl
mutual
def sC:Step->Nat
 |⟨_,_,c,t,e⟩=>(bif zeroC c then 0 else cN c)+sCs t+sCs e
def sCs:List Step->Nat
 |[]=>0
 |s::r=>sC s+sCs r
end
theorem QeU(s:Step):sC s=(bif zeroC s.Cond then 0 else cN s.Cond)+sCs s.Then+sCs s.Else:=by cases s;rfl
mutual
def sDp:Nat->Step->Bool
 |d,⟨_,_,c,t,e⟩=>(zeroC c||cD 1 c)&&(sDs d t&&sDs d e)
def sDs:Nat->List Step->Bool
 |_,[]=>true
 |d,s::r=>decide (d<=16)&&(sDp (d+1) s&&sDs d r)
end
theorem Qid(d:Nat)(s:Step):sDp d s=((zeroC s.Cond||cD 1 s.Cond)&&(sDs d s.Then&&sDs d s.Else)):=by cases s;rfl
mutual
def sZ:Step->Nat
 |⟨_,_,c,t,e⟩=>2+cN c+sZs t+sZs e
def sZs:List Step->Nat
 |[]=>0
 |s::r=>sZ s+sZs r
end
theorem Qgi(s:Step):sZ s=2+cN s.Cond+sZs s.Then+sZs s.Else:=by cases s;rfl
def fS:Uf->Nat
 |.ctyping_step x=>sNp x.Step
 |.ctyping_cond _=>0
def fC:Uf->Nat
 |.ctyping_step x=>sC x.Step
 |.ctyping_cond x=>cN x.Cond
def fD(d:Nat):Uf->Bool
 |.ctyping_step x=>sDp d x.Step
 |.ctyping_cond x=>cD d x.Cond
def fZ:Uf->Nat
 |.ctyping_step x=>sZ x.Step
 |.ctyping_cond x=>cN x.Cond
def fSs(l:List Uf):Nat:=(l.map fS).sum
def fCs(l:List Uf):Nat:=(l.map fC).sum
def fZs(l:List Uf):Nat:=(l.map fZ).sum
def fwf:Uf->Prop
 |.ctyping_step x=>Step.wf x.Step
 |.ctyping_cond x=>Cond.wf x.Cond
def ofStep(s:Step):Uf:=.ctyping_step {Step:=s}
def ofCond(c:Cond):Uf:=.ctyping_cond {Cond:=c}
theorem Qbh:∀l:List Step,fSs (l.map ofStep)=sNs l
 |[]=>rfl
 |s::r=>by
  have:=Qbh r;simp only[fSs,Vl,List.sum_cons]at this⊢;rw[this];rfl
theorem Qbi:∀l:List Step,fCs (l.map ofStep)=sCs l
 |[]=>rfl
 |s::r=>by
  have:=Qbi r;simp only[fCs,Vl,List.sum_cons]at this⊢;rw[this];rfl
theorem QbY:∀l:List Step,fZs (l.map ofStep)=sZs l
 |[]=>rfl
 |s::r=>by
  have:=QbY r;simp only[fZs,Vl,List.sum_cons]at this⊢;rw[this];rfl
theorem Qfr:∀l:List Cond,fSs (l.map ofCond)=0
 |[]=>rfl
 |s::r=>by
  have:=Qfr r;simp only[fSs,Vl,List.sum_cons]at this⊢;rw[this];rfl
theorem Qft:∀l:List Cond,fCs (l.map ofCond)=cNs l
 |[]=>rfl
 |s::r=>by
  have:=Qft r;simp only[fCs,Vl,List.sum_cons]at this⊢;rw[this];rfl
theorem Qfp:∀l:List Cond,fZs (l.map ofCond)=cNs l
 |[]=>rfl
 |s::r=>by
  have:=Qfp r;simp only[fZs,Vl,List.sum_cons]at this⊢;rw[this];rfl
theorem Qc7(d:Nat):∀l:List Step,sDs d l=((l.map ofStep).isEmpty||(decide (d<=16)&&(l.map ofStep).all (fD (d+1))))
 |[]=>rfl
 |s::r=>by
  rw[sDs,Qc7 d r];simp only[Vl,List.isEmpty_cons,Bool.false_or,List.all_cons];rw[show fD (d+1) (ofStep s)=sDp (d+1) s from rfl];cases r with
  |nil=>simp
  |cons x r=>
   simp only[Vl,List.isEmpty_cons,Bool.false_or,List.all_cons];cases decide (d<=16)<;>simp
theorem QiJ(d:Nat):∀l:List Cond,cDs d l=((l.map ofCond).isEmpty||(decide (d<=16)&&(l.map ofCond).all (fD (d+1))))
 |[]=>rfl
 |s::r=>by
  rw[cDs,QiJ d r];simp only[Vl,List.isEmpty_cons,Bool.false_or,List.all_cons];rw[show fD (d+1) (ofCond s)=cD (d+1) s from rfl];cases r with
  |nil=>simp
  |cons x r=>
   simp only[Vl,List.isEmpty_cons,Bool.false_or,List.all_cons];cases decide (d<=16)<;>simp
theorem Y0{c:Cond}(h:Cond.wf c):c.Parts.length<=1048576/\ ∀x∈c.Parts,Cond.wf x:=by
 cases c;simp only[Cond.wf,Qdr]at h;exact h.2.2.2.1
theorem YZ{s:Step}(h:Step.wf s):Cond.wf s.Cond/\(s.Then.length<=1048576/\ ∀x∈s.Then,Step.wf x)/\(s.Else.length<=1048576/\ ∀x∈s.Else,Step.wf x):=by
 cases s;simp only[Step.wf,Qdh]at h;exact⟨h.2.2.1,h.2.2.2.1,h.2.2.2.2.1⟩
theorem QgK(n:Nat)(c:Cond):F_al n {Cond:=c}=some (zeroC c):=by
 unfold F_al zeroC;cases(c.Kind==0)<;>cases(c.Var==0)<;>cases(c.N==0)<;>rfl
theorem Qfx(n:Nat)(c:Cond):F_aw n c=some (zeroC c):=by
 unfold F_aw zeroC;cases(c.Kind==0)<;>cases(c.Var==0)<;>cases(c.N==0)<;>rfl
theorem Qfw(l:List Step)(hl:l.length<=140737488):Ev (λn=>F_ai n l) (l.map ofStep):=by
 unfold F_ai;exact Ea (Qah l ofStep hl) (Qa _)
theorem Qnn(l:List Cond)(hl:l.length<=140737488):Ev (λn=>F_dv n l) (l.map ofCond):=by
 unfold F_dv;exact Ea (Qah l ofCond hl) (Qa _)
def stepParts(s:Step):List Uf:=s.Then.map ofStep++s.Else.map ofStep
theorem Qbx(s:Step)(h:Step.wf s):Ev (λn=>F_ac n {Step:=s}) (stepParts s):=by
 obtain⟨_,⟨b,_⟩,⟨a,_⟩⟩:=YZ h;unfold F_ac stepParts;refine Ea (Qfw s.Then (by omega)) (Ea (Qfw s.Else (by omega)) (JK (Qdf _ _ (by simp;omega)) (Qa _)))
theorem Qc9(c:Cond)(h:Cond.wf c):Ev (λn=>F_aa n {Cond:=c}) (c.Parts.map ofCond):=by
 obtain⟨a,_⟩:=Y0 h;unfold F_aa;exact Ea (Qnn c.Parts (by omega)) (Qa _)
def okL(l:List Uf)(d:Nat)(st co:Int):Bool:=l.isEmpty||(decide (d<=16)&&(l.all (fD (d+1))&&(decide (st+fSs l<=64)&&decide (co+fCs l<=256))))
def okR(l:List Uf)(d:Nat)(st co:Int):Bool:=l.isEmpty||(l.all (fD (d+1))&&(decide (st+fSs l<=64)&&decide (co+fCs l<=256)))
def okF(f:Uf)(d:Nat)(st co:Int):Bool:=fD (d+1) f&&(decide (st+fS f<=64)&&decide (co+fC f<=256))
theorem QiI(f:Uf)(l:List Uf):fSs (f::l)=fS f+fSs l:=rfl
theorem QiK(f:Uf)(l:List Uf):fCs (f::l)=fC f+fCs l:=rfl
theorem QiH(f:Uf)(l:List Uf):fZs (f::l)=fZ f+fZs l:=rfl
theorem Qfq(l m:List Uf):fSs (l++m)=fSs l+fSs m:=by simp[fSs]
theorem Qfs(l m:List Uf):fCs (l++m)=fCs l+fCs m:=by simp[fCs]
theorem Qfo(l m:List Uf):fZs (l++m)=fZs l+fZs m:=by simp[fZs]
theorem QmM(f:Uf)(r:List Uf)(d:Nat)(st b:Int):okR (f::r) d st b=(okF f d st b&&okR r d (st+fS f) (b+fC f)):=by
 unfold okR okF;rw[QiI,QiK];cases r with
 |nil=>simp[fSs,fCs]
 |cons g r=>
  rw[X0];simp only[List.isEmpty_cons,Bool.false_or,List.all_cons,XY,Vt];rw[show((fS f+fSs (g::r):Nat):Int)=(fS f:Int)+(fSs (g::r):Int)by omega,show((fC f+fCs (g::r):Nat):Int)=(fC f:Int)+(fCs (g::r):Int)by omega];constructor
  .rintro⟨⟨e,a⟩,h,i⟩;exact⟨⟨e,by omega,by omega⟩,a,by omega,by omega⟩
  .rintro⟨⟨e,_,_⟩,a,h,i⟩;exact⟨⟨e,a⟩,by omega,by omega⟩
theorem Qhi(l:List Uf)(d:Nat)(st g:Int)(i:st<=64)(h:g<=256):okL l d st g=true↔(l.isEmpty||(decide (d<=16)&&l.all (fD (d+1))))=true/\st+fSs l<=64/\g+fCs l<=256:=by
 unfold okL;cases l with
 |nil=>simp[fSs,fCs,i,h]
 |cons f r=>
  simp only[List.isEmpty_cons,Bool.false_or,XY,Vt];constructor
  .rintro⟨a,b,c,e⟩;exact⟨⟨a,b⟩,c,e⟩
  .rintro⟨⟨a,b⟩,c,e⟩;exact⟨a,b,c,e⟩
theorem QeQ(s:Step)(d:Nat):((stepParts s).isEmpty||(decide (d<=16)&&(stepParts s).all (fD (d+1))))=(sDs d s.Then&&sDs d s.Else):=by
 rw[Qc7,Qc7];unfold stepParts;rw[List.all_append];cases b:s.Then<;>cases a:s.Else<;>simp<;>(cases decide (d<=16)<;>simp)
def Cnt(R:Nat->List Uf->Int->Ud->Option (Ud×Bool))(l:List Uf)(d:Nat)(st co:Int):Prop:=
 ∃c':Ud,Ev (λn=>R n l (d:Int) {steps:=st,conds:=co}) (c',okL l d st co)/\(okL l d st co=true->c'={steps:=st+fSs l,conds:=co+fCs l})
theorem Qj8{R:Nat->List Uf->Int->Ud->Option (Ud×Bool)}{l:List Uf}{d:Nat}(hd:d<=16){i:Nat}{f:Uf}(L:At l i f)(hw:fwf f)
  (ih:∀l' d' st a,fZs l'<fZ f->l'.length<=2097152->(∀f∈l',fwf f)->d'<=17->0<=st->st<=66->(st<=65\/ ∀f∈l',∃c,f=ofCond c)->0<=a->a<=256->Cnt R l' d' st a){st a:Int}(h0:0<=st)(ac:st<=66)(u:st<=65\/ ∃c,f=ofCond c)(h2:0<=a)(h3:a<=256):
  ∃c':Ud,Ev (λn=>F_ev n l (d:Int) (R n) ({steps:=st,conds:=a},(i:Int))) (bif okF f d st a then .cont (c',((i+1:Nat):Int))else .done (.done (c',false)))/\(okF f d st a=true->c'={steps:=st+fS f,conds:=a+fC f}):=by
 unfold F_ev;simp only[L.lt,Vr,L.ix,XL,L.nx];have ed:IntKind.i64.wrap ((d:Int)+1)=((d+1:Nat):Int):=Q8 (by omega);cases f with
 |ctyping_step x=>
  obtain⟨s⟩:=x;have h1:st<=65:=by
   rcases u with h|⟨c,h⟩
   .exact h
   .cases h
  have j:Step.wf s:=hw;obtain⟨wc,⟨aa,T⟩,⟨ab,W⟩⟩:=YZ j;have N:IntKind.i64.wrap (st+1)=st+1:=QJ (by omega) (by omega);simp only[Uf.elim,QgK,XL,N];have hc:∃r:Ud,Ev (λn=>((bif (!zeroC s.Cond)then(R n [Uf.ctyping_cond {Cond:=s.Cond}] 0 {steps:=st+1,conds:=a}).bind λm=>some (m.1,(!m.2))else some ({steps:=st+1,conds:=a},false)):Option (Ud×Bool))) (r, !(zeroC s.Cond||(cD 1 s.Cond&&(decide (st+1<=64)&&decide (a+cN s.Cond<=256)))))/\
    ((zeroC s.Cond||(cD 1 s.Cond&&(decide (st+1<=64)&&decide (a+cN s.Cond<=256))))=true->r={steps:=st+1,conds:=a+((bif zeroC s.Cond then 0 else cN s.Cond:Nat):Int)}):=by
   cases B:zeroC s.Cond with
   |true=>
    refine⟨{steps:=st+1,conds:=a},?_,λ_=>?_⟩
    .exact Qa _
    .simp
   |false=>
    obtain⟨r,k,G⟩:=ih [ofCond s.Cond] 0 (st+1) a (by simp only[fZs,Vl,Vm,List.sum_cons,List.sum_nil];show cN s.Cond+0<sZ s;rw[Qgi];omega) (by simp) (by intro g e;simp only[VD]at e;subst e;exact wc) (by omega) (by omega) (by omega) (.inr (by intro g e;simp only[VD]at e;exact⟨_,e⟩)) h2 h3;have ek:okL [ofCond s.Cond] 0 (st+1) a=(cD 1 s.Cond&&(decide (st+1<=64)&&decide (a+cN s.Cond<=256))):=by
     unfold okL;simp only[List.isEmpty_cons,Bool.false_or,List.all_cons,List.all_nil,Bool.and_true,fSs,fCs,Vl,Vm,List.sum_cons,List.sum_nil];rw[show fD (0+1) (ofCond s.Cond)=cD 1 s.Cond from rfl,show fS (ofCond s.Cond)=0 from rfl,show fC (ofCond s.Cond)=cN s.Cond from rfl];simp
    rw[ek]at k G;refine⟨r,Ea k (Qa _),λh=>?_⟩;rw[G h];simp[fSs,fCs,show fS (ofCond s.Cond)=0 from rfl,show fC (ofCond s.Cond)=cN s.Cond from rfl]
  obtain⟨r,k,G⟩:=hc;generalize hb:(zeroC s.Cond||(cD 1 s.Cond&&(decide (st+1<=64)&&decide (a+cN s.Cond<=256))))=b at k G;have J:okF (Uf.ctyping_step {Step:=s}) d st a=(sDp (d+1) s&&(decide (st+sNp s<=64)&&decide (a+sC s<=256))):=rfl;rw[J];cases b with
  |false=>
   have:(sDp (d+1) s&&(decide (st+sNp s<=64)&&decide (a+sC s<=256)))=false:=by
    rw[VO];intro hh;simp only[XY,Vt,Qid,Qgj,QeU]at hh;obtain⟨⟨H,_⟩,z2,z3⟩:=hh;cases B:zeroC s.Cond with
    |true=>rw[B]at hb;cases hb
    |false=>
     rw[B]at hb H z3;simp only[Bool.false_or]at hb H;rw[H]at hb;simp only[Vs]at z3;rw[Yd (show st+1<=64 by omega),Yd (show a+(cN s.Cond:Int)<=256 by omega)]at hb;cases hb
   rw[this];exact⟨r,Ea k (Qa _),λh=>by cases h⟩
  |true=>
   obtain rfl:=G rfl;by_cases q:64<st+1
   .have:(sDp (d+1) s&&(decide (st+sNp s<=64)&&decide (a+sC s<=256)))=false:=by
     rw[Q9 (show¬st+(sNp s:Int)<=64 by rw[Qgj];omega)];simp
    rw[this];refine⟨{steps:=st+1,conds:=a+((bif zeroC s.Cond then 0 else cN s.Cond:Nat):Int)},Ea k ?_,λh=>by cases h⟩;simp only[Xh,Vs];refine Ea (v:=(_,true)) ?_ (Qa _);rw[Yd q];exact Qa _
   by_cases t:256<a+((bif zeroC s.Cond then 0 else cN s.Cond:Nat):Int)
   .have:(sDp (d+1) s&&(decide (st+sNp s<=64)&&decide (a+sC s<=256)))=false:=by
     rw[Q9 (show¬a+(sC s:Int)<=256 by rw[QeU];omega)];simp
    rw[this];refine⟨{steps:=st+1,conds:=a+((bif zeroC s.Cond then 0 else cN s.Cond:Nat):Int)},Ea k ?_,λh=>by cases h⟩;simp only[Xh,Vs];refine Ea (v:=(_,true)) ?_ (Qa _);rw[Q9 q,Yd t];exact Qa _
   obtain⟨z,E,w⟩:=ih (stepParts s) (d+1) (st+1) (a+((bif zeroC s.Cond then 0 else cN s.Cond:Nat):Int)) (by
     unfold stepParts;rw[Qfo,QbY,QbY];show _<sZ s;rw[Qgi];omega) (by unfold stepParts;simp;omega) (by
     intro g e;unfold stepParts at e;rcases VF.1 e with e|e
     .obtain⟨y,F,rfl⟩:=Xf.1 e;exact T y F
     .obtain⟨y,F,rfl⟩:=Xf.1 e;exact W y F) (by omega) (by omega) (by omega) (.inl (by omega)) (by omega) (by omega)
   have M:okL (stepParts s) (d+1) (st+1) (a+((bif zeroC s.Cond then 0 else cN s.Cond:Nat):Int))=(sDp (d+1) s&&(decide (st+sNp s<=64)&&decide (a+sC s<=256))):=by
    rw[X0,Qhi _ _ _ _ (by omega) (by omega),QeQ];simp only[XY,Vt,Qid,Qgj,QeU];have V:fSs (stepParts s)=sNs s.Then+sNs s.Else:=by unfold stepParts;rw[Qfq,Qbh,Qbh]
    have Y:fCs (stepParts s)=sCs s.Then+sCs s.Else:=by unfold stepParts;rw[Qfs,Qbi,Qbi]
    rw[V,Y];have Q:(zeroC s.Cond||cD 1 s.Cond)=true:=by
     cases B:zeroC s.Cond with
     |true=>rfl
     |false=>
      rw[B]at hb;simp only[Bool.false_or,XY]at hb;rw[hb.1];rfl
    constructor
    .rintro⟨p,O,P⟩;exact⟨⟨Q,p⟩,by omega,by omega⟩
    .rintro⟨⟨_,p⟩,O,P⟩;exact⟨p,by omega,by omega⟩
   rw[M]at E w;refine⟨z,Ea k ?_,λh=>?_⟩
   .simp only[Xh,Vs];refine Ea (v:=(z, !(sDp (d+1) s&&(decide (st+sNp s<=64)&&decide (a+sC s<=256))))) ?_ ?_
    .rw[Q9 q,Q9 t,ed];exact Ea (Qbx s j) (Ea E (Qa _))
    .cases(sDp (d+1) s&&(decide (st+sNp s<=64)&&decide (a+sC s<=256)))<;>exact Qa _
   .rw[w h];have V:fSs (stepParts s)=sNs s.Then+sNs s.Else:=by unfold stepParts;rw[Qfq,Qbh,Qbh]
    have Y:fCs (stepParts s)=sCs s.Then+sCs s.Else:=by unfold stepParts;rw[Qfs,Qbi,Qbi]
    rw[V,Y,show fS (Uf.ctyping_step {Step:=s})=sNp s from rfl,show fC (Uf.ctyping_step {Step:=s})=sC s from rfl,Qgj,QeU];congr 1<;>omega
 |ctyping_cond x=>
  obtain⟨c⟩:=x;have j:Cond.wf c:=hw;obtain⟨ae,X⟩:=Y0 j;have N:IntKind.i64.wrap (a+1)=a+1:=QJ (by omega) (by omega);simp only[Uf.elim,N];have J:okF (Uf.ctyping_cond {Cond:=c}) d st a=(cD (d+1) c&&(decide (st<=64)&&decide (a+cN c<=256))):=by
   show(cD (d+1) c&&(decide (st+((0:Nat):Int)<=64)&&decide (a+cN c<=256)))=_;rw[show st+((0:Nat):Int)=st by omega]
  rw[J];by_cases q:64<st
  .have:(cD (d+1) c&&(decide (st<=64)&&decide (a+cN c<=256)))=false:=by
    rw[Q9 (show¬st<=64 by omega)];simp
   rw[this];refine⟨{steps:=st,conds:=a+1},?_,λh=>by cases h⟩;refine Ea (v:=(_,true)) ?_ (Qa _);rw[Yd q];exact Qa _
  by_cases t:256<a+1
  .have:(cD (d+1) c&&(decide (st<=64)&&decide (a+cN c<=256)))=false:=by
    rw[Q9 (show¬a+(cN c:Int)<=256 by rw[Qb2];omega)];simp
   rw[this];refine⟨{steps:=st,conds:=a+1},?_,λh=>by cases h⟩;refine Ea (v:=(_,true)) ?_ (Qa _);rw[Q9 q,Yd t];exact Qa _
  obtain⟨z,E,w⟩:=ih (c.Parts.map ofCond) (d+1) st (a+1) (by
    rw[Qfp];show _<cN c;rw[Qb2];omega) (by simp;omega) (by
    intro g e;obtain⟨y,F,rfl⟩:=Xf.1 e;exact X y F) (by omega) (by omega) (by omega) (.inl (by omega)) (by omega) (by omega)
  have M:okL (c.Parts.map ofCond) (d+1) st (a+1)=(cD (d+1) c&&(decide (st<=64)&&decide (a+cN c<=256))):=by
   rw[X0,Qhi _ _ _ _ (by omega) (by omega), <- QiJ,Qfr,Qft];simp only[XY,Vt,QkW,Qb2];constructor
   .rintro⟨p,O,P⟩;exact⟨p,by omega,by omega⟩
   .rintro⟨p,O,P⟩;exact⟨p,by omega,by omega⟩
  rw[M]at E w;refine⟨z,?_,λh=>?_⟩
  .refine Ea (v:=(z, !(cD (d+1) c&&(decide (st<=64)&&decide (a+cN c<=256))))) ?_ ?_
   .rw[Q9 q,Q9 t,ed];exact Ea (Qc9 c j) (Ea E (Qa _))
   .cases(cD (d+1) c&&(decide (st<=64)&&decide (a+cN c<=256)))<;>exact Qa _
  .rw[w h,Qfr,Qft,show fS (Uf.ctyping_cond {Cond:=c})=0 from rfl,show fC (Uf.ctyping_cond {Cond:=c})=cN c from rfl,Qb2];congr 1;omega
theorem Qnm:∀(m:Nat) (l:List Uf) (d:Nat) (st a:Int),fZs l<=m->l.length<=2097152->(∀f∈l,fwf f)->d<=17->0<=st->st<=66->(st<=65\/ ∀f∈l,∃c,f=ofCond c)->0<=a->a<=256->Cnt F_f l d st a:=by
 intro m
 induction m using Nat.strongRecOn with
 |_ m G=>
 intro l d st a hm hl hw hd h0 h1 u h2 h3;unfold Cnt;have w:∀c:Ud,(∃b:Ud,Ev (λn=>B_f (F_f n) n l (d:Int) c) (b,okL l d st a)/\(okL l d st a=true->b={steps:=st+fSs l,conds:=a+fCs l}))->∃b:Ud,Ev (λn=>F_f n l (d:Int) c) (b,okL l d st a)/\(okL l d st a=true->b={steps:=st+fSs l,conds:=a+fCs l}):=by
  rintro c ⟨b,P,q2⟩;exact⟨b,Yb P,q2⟩
 refine w _ ?_;unfold B_f;cases e:l with
 |nil=>
  refine⟨{steps:=st,conds:=a},?_,λ_=>by simp[fSs,fCs]⟩;refine Ea (v:=false) (Qa _) (QP ?_);refine Ea (v:=Ctl.cont {steps:=st,conds:=a}) (EvI.ev (Ej ?_)) (Qa _);exact Qa _
 |cons f0 r0=>
 rw[<- e];have q:l.isEmpty=false:=by rw[e];rfl
 have H:0<l.length:=by rw[e];simp
 by_cases g:d<=16
 rotate_left
 .have:okL l d st a=false:=by unfold okL;rw[q,Q9 g];rfl
  rw[this];refine⟨{steps:=st,conds:=a},?_,λh=>by cases h⟩;rw[Yd (show(0:Int)<(l.length:Int)by omega),Yd (show(16:Int)<(d:Int)by omega)];exact Ea (Qa _) (Qa _)
 have z:okL l d st a=okR l d st a:=by unfold okL okR;rw[Yd g,VC]
 rw[z];have loop:∀(r:List Uf) (i:Nat) (st a:Int),l.drop i=r->i<=l.length->0<=st->st<=66->(st<=65\/ ∀f∈l,∃c,f=ofCond c)->0<=a->a<=256->
   ∃b:Ud,EvI (λn=>F_ev n l (d:Int) (F_f n)) ({steps:=st,conds:=a},(i:Int)) (bif okR r d st a then Ctl.cont b else Ctl.done (b,false))/\(okR r d st a=true->b={steps:=st+fSs r,conds:=a+fCs r}):=by
  intro r
  induction r with
  |nil=>
   intro i st a E L _ _ _ _ _;refine⟨{steps:=st,conds:=a},Ej ?_,λ_=>by simp[fSs,fCs]⟩;unfold F_ev;simp only[QX E L,Vs];exact Qa _
  |cons f r B=>
   intro i st a E L g0 X y O g3;obtain⟨p,F⟩:=Qt (by omega) E;have T:fZ f<=fZs l:=by
    have:∀(l:List Uf),f∈l->fZ f<=fZs l:=by
     intro l
     induction l with
     |nil=>intro h;cases h
     |cons x l G=>
      intro h;rw[QiH];rcases X8.1 h with rfl|h
      .omega
      .have:=G h;omega
    exact this l p.mem
   obtain⟨b,k,t⟩:=Qj8 (R:=F_f) g p (hw f p.mem) (λJ N st a k1 k2 W k4 M Y s k7 Q=>G (fZs J) (by omega) J N st a (XV _) k2 W k4 M Y s k7 Q) g0 X (y.imp id λh=>h f p.mem) O g3;rw[QmM];cases j:okF f d st a with
   |false=>
    rw[j]at k;exact⟨b,Ej k,λh=>by cases h⟩
   |true=>
    rw[j]at k;obtain rfl:=t j;have hb:st+fS f<=64/\a+fC f<=256:=by
     unfold okF at j;simp only[XY,Vt]at j;exact j.2
    obtain⟨V,u1,u2⟩:=B (i+1) (st+fS f) (a+fC f) F (by have:=p.lt';omega) (by omega) (by omega) (.inl (by omega)) (by omega) (by omega);refine⟨V,Ex k u1,λh=>?_⟩;rw[u2 (by simpa using h),QiI,QiK];congr 1<;>omega
 obtain⟨b,k,t⟩:=loop l 0 st a rfl (XW _) h0 h1 u h2 h3;refine⟨b,?_,t⟩;refine Ea (v:=false) ?_ (QP (Ea k.ev ?_))
 .rw[Yd (show(0:Int)<(l.length:Int)by omega),Q9 (show¬(16:Int)<(d:Int)by omega)];exact Qa _
 .cases okR l d st a<;>exact Qa _
mutual
def vaC:Cond->Bool
 |⟨k,v,n,ps⟩=>bif k==1 then inR 1 3 v&&(inR 0 10000 n&&((ps.length:Int)==0))else
   bif k==4 then((v==0)&&(n==0))&&(((ps.length:Int)==1)&&vaCs ps)else
   bif (k==2)||(k==3)then((v==0)&&(n==0))&&((decide (0<(ps.length:Int))&&decide ((ps.length:Int)<=16))&&vaCs ps)else false
def vaCs:List Cond->Bool
 |[]=>true
 |c::r=>vaC c&&vaCs r
end
theorem Qmj(c:Cond):vaC c=bif c.Kind==1 then inR 1 3 c.Var&&(inR 0 10000 c.N&&((c.Parts.length:Int)==0))else
   bif c.Kind==4 then((c.Var==0)&&(c.N==0))&&(((c.Parts.length:Int)==1)&&vaCs c.Parts)else
   bif (c.Kind==2)||(c.Kind==3)then((c.Var==0)&&(c.N==0))&&((decide (0<(c.Parts.length:Int))&&decide ((c.Parts.length:Int)<=16))&&vaCs c.Parts)else false:=by cases c;rfl
theorem Qg8:∀l:List Cond,vaCs l=l.all vaC
 |[]=>rfl
 |c::r=>by rw[vaCs,List.all_cons,Qg8 r]
mutual
def vaS:Step->Bool
 |⟨k,b,c,t,e⟩=>bif k==1 then inR 1 5 b&&(zeroC c&&(((t.length:Int)==0)&&((e.length:Int)==0)))else
   bif k==2 then(b==0)&&(vaC c&&(decide (0<(t.length:Int))&&(vaSs t&&vaSs e)))else false
def vaSs:List Step->Bool
 |[]=>true
 |s::r=>vaS s&&vaSs r
end
theorem Qmi(s:Step):vaS s=bif s.Kind==1 then inR 1 5 s.By&&(zeroC s.Cond&&(((s.Then.length:Int)==0)&&((s.Else.length:Int)==0)))else
   bif s.Kind==2 then(s.By==0)&&(vaC s.Cond&&(decide (0<(s.Then.length:Int))&&(vaSs s.Then&&vaSs s.Else)))else false:=by cases s;rfl
theorem Qg7:∀l:List Step,vaSs l=l.all vaS
 |[]=>rfl
 |c::r=>by rw[vaSs,List.all_cons,Qg7 r]
def fV:Uf->Bool
 |.ctyping_step x=>vaS x.Step
 |.ctyping_cond x=>vaC x.Cond
theorem Qkb(l:List Cond):(l.map ofCond).any (λf=> !fV f)= !vaCs l:=by
 rw[Qg8,List.not_all_eq_any_not,List.any_map];rfl
theorem QcJ(l:List Step):(l.map ofStep).any (λf=> !fV f)= !vaSs l:=by
 rw[Qg7,List.not_all_eq_any_not,List.any_map];rfl
theorem QgI{R:Nat->List Uf->Option Bool}(c:Cond)(i:Cond.wf c)(j:Ev (λn=>R n (c.Parts.map ofCond)) (!vaCs c.Parts)):
  Ev (λn=>F_ci (R n) n {Cond:=c}) (vaC c):=by
 unfold F_ci;rw[Qmj];refine Ea (v:=(c.Var==0)&&(c.N==0)) (Ei λ_=>Qa _) ?_;refine QbI (λ_=>?_) (λl=>?_)
 .exact Ea (Ea (QH _ _ _) (Ei λ_=>Ea (QH _ _ _) (Ei λ_=>Qa _))) (Qa _)
 .have fin:∀b:Bool,Ev (λn=>((bif b then(F_aa n {Cond:=c}).bind λg=>(R n g).bind λf=>some (!f)else some false):Option Bool).bind λd=>some d) (b&&vaCs c.Parts):=by
   intro b;refine Ea ((Ei λ_=>Ea (Qc9 c i) (Ea j (Qa _)))) ((Qa _).eq (by simp))
  cases k:(c.Kind==4)with
  |true=>
   simp only[Vr];cases h:((c.Var==0)&&(c.N==0))with
   |true=>
    refine Ea (v:=Ctl.cont ((c.Parts.length:Int)==1)) (Qa _) ((fin _).eq (by simp))
   |false=>
    refine Ea (v:=Ctl.cont false) (Qa _) ((fin _).eq (by simp))
  |false=>
   simp only[Vs];cases a:((c.Kind==2)||(c.Kind==3))with
   |true=>
    simp only[Vr];have e:Ev (λn:Nat=>((bif (c.Kind==2)then some (c.Kind==2)else some (c.Kind==3)):Option Bool)) true:=by
     refine EA ?_;rw[QhM,a]
    cases h:((c.Var==0)&&(c.N==0))with
    |true=>
     cases m:decide (0<(c.Parts.length:Int))with
     |true=>
      refine Ea (v:=Ctl.cont (decide ((c.Parts.length:Int)<=16))) (Ea e (Qa _)) ((fin _).eq (by simp))
     |false=>
      refine Ea (v:=Ctl.cont false) (Ea e (Qa _)) ((fin _).eq (by simp))
    |false=>
     refine Ea (v:=Ctl.cont false) (Ea e (Qa _)) ((fin _).eq (by simp))
   |false=>
    have e:Ev (λn:Nat=>((bif (c.Kind==2)then some (c.Kind==2)else some (c.Kind==3)):Option Bool)) false:=by
     refine EA ?_;rw[QhM,a]
    refine Ea (v:=Ctl.done false) (Ea e (Qa _)) (Qa _)
theorem Qj1:∀(m:Nat) (l:List Uf),fZs l<=m->l.length<=2097152->(∀f∈l,fwf f)->Ev (λn=>F_o n l) (l.any λf=> !fV f):=by
 intro m
 induction m using Nat.strongRecOn with
 |_ m j=>
 intro l F E r;refine Yb ?_;show Ev (λn=>B_o (F_o n) n l) _;unfold B_o F_fy;refine Ev.contains l _ (λn f=>F_bp (F_o n) n f) (by omega) λf k=>?_;have u:fZ f<=fZs l:=by
  have:∀(l:List Uf),f∈l->fZ f<=fZs l:=by
   intro l
   induction l with
   |nil=>intro h;cases h
   |cons x l j=>
    intro h;rw[QiH];rcases X8.1 h with rfl|h
    .omega
    .have:=j h;omega
  exact this l k
 unfold F_bp;refine Ea (v:=fV f) ?_ (Qa _);have a:∀c:Cond,Cond.wf c->cNs c.Parts<fZ f->Ev (λn=>F_o n (c.Parts.map ofCond)) (!vaCs c.Parts):=by
  intro c i e;rw[<- Qkb];obtain⟨H,B⟩:=Y0 i;refine j (fZs (c.Parts.map ofCond)) (by rw[Qfp];omega) _ (XV _) (by simp;omega) ?_;intro g b;obtain⟨y,d,rfl⟩:=Xf.1 b;exact B y d
 cases f with
 |ctyping_cond x=>
  obtain⟨c⟩:=x;have i:Cond.wf c:=r _ k;exact QgI (R:=F_o) c i (a c i (by show cNs c.Parts<cN c;rw[Qb2];omega))
 |ctyping_step x=>
  obtain⟨s⟩:=x;have e:Step.wf s:=r _ k;obtain⟨t,⟨w,p⟩,⟨z,q⟩⟩:=YZ e;unfold F_fs;show Ev _ (vaS s);rw[Qmi];simp only[Uf.elim];refine QbI (λ_=>?_) (λJ=>QbI (λ_=>?_) λ_=>Qa _)
  .refine Ea (Ea (QH _ _ _) (Ei λ_=>?_)) (Qa _);simp only[QgK,XL];refine Ei λ_=>Ea (Qbx s e) ((Qa _).eq ?_);unfold stepParts;rw[X0];simp only[VA,XY,X5,X4];omega
  .refine Ea (Ei λ_=>?_) (Qa _);refine Ea (QgI (R:=F_o) s.Cond t (a s.Cond t (by show _<sZ s;rw[Qgi,Qb2];omega))) (Ei λ_=>Ei λ_=>?_);refine Ea (Qbx s e) (Ea (j (fZs (stepParts s)) ?_ _ (XV _) (by unfold stepParts;simp;omega) ?_) ((Qa _).eq ?_))
   .have:fZs (stepParts s)<sZ s:=by
     unfold stepParts;rw[Qfo,QbY,QbY,Qgi];omega
    have G:fZ (Uf.ctyping_step {Step:=s})=sZ s:=rfl;omega
   .intro g b;unfold stepParts at b;rcases VF.1 b with b|b
    .obtain⟨y,d,rfl⟩:=Xf.1 b;exact p y d
    .obtain⟨y,d,rfl⟩:=Xf.1 b;exact q y d
   .unfold stepParts;rw[List.any_append,QcJ,QcJ];simp
def goodT(l:List Step):Bool:=sDs 0 l&&(decide (sNs l<=64)&&decide (sCs l<=256))
def tiesE(l:List Step):Int:=bif goodT l then(bif l.isEmpty|| !vaSs l then 71 else 0)else 2
theorem QmN(l:List Step):okL (l.map ofStep) 0 0 0=goodT l:=by
 rw[X0,Qhi _ _ _ _ (by omega) (by omega), <- Qc7,Qbh,Qbi];unfold goodT;simp only[XY,Vt];constructor
 .rintro⟨a,b,c⟩;exact⟨a,by omega,by omega⟩
 .rintro⟨a,b,c⟩;exact⟨a,by omega,by omega⟩
theorem QoE(l:List Step)(hl:l.length<=1048576)(h:∀x∈l,Step.wf x):Ev (λn=>F_di n l) (tiesE l):=by
 unfold F_di;refine Ea (Qfw l (by omega)) (Ea (v:=tiesE l) ?_ (Qa _));have b:∀f∈l.map ofStep,fwf f:=by
  intro g i;obtain⟨y,k,rfl⟩:=Xf.1 i;exact h y k
 obtain⟨j,a,m⟩:=Qnm _ (l.map ofStep) 0 0 0 (XV _) (by simp;omega) b (by omega) (by omega) (by omega) (.inl (by omega)) (by omega) (by omega);rw[QmN]at a;unfold F_fc;have d:Ev (λn=>F_eg n (l.map ofStep) 0 {steps:=0,conds:=0}) (j,goodT l):=a.shift;refine Ea d ?_;unfold tiesE;cases goodT l with
 |false=>exact Qa _
 |true=>
  simp only[Xh,Vs,Vr];have e:(((l.map ofStep).length:Int)==0)=l.isEmpty:=by
   cases l<;>simp;omega
  rw[e];refine Ea (Eu λ_=>Ea (Qj1 _ _ (XV _) (by simp;omega) b) (Qa _)) ?_;rw[QcJ];cases(l.isEmpty|| !vaSs l)<;>exact Qa _
def condB(d:Nat):Int:=256*(18-(d:Int))+1000
theorem Qcs:∀(m:Nat) (c:Cond) (d:Nat),cN c<=m->d<=17->Cond.wf c->∃v:Int,Ev (λn=>F_l n c (d:Int)) v/\0<=v/\v<=condB d/\
  (d<=16/\cD (d+1) c=true/\cN c<=256->v=cN c)/\(¬(d<=16/\cD (d+1) c=true/\cN c<=256)->256<v):=by
 intro m
 induction m using Nat.strongRecOn with
 |_ m J=>
 intro c d hm hd Y;obtain⟨aa,F⟩:=Y0 Y;have t:∀{P:Int->Prop},(∃v:Int,Ev (λn=>B_l (F_l n) n c (d:Int)) v/\P v)->∃v:Int,Ev (λn=>F_l n c (d:Int)) v/\P v:=by
  rintro P ⟨v,j,b⟩;exact⟨v,Yb j,b⟩
 refine t ?_;unfold B_l;by_cases g:d<=16
 .rw[Q9 (show¬(16:Int)<(d:Int)by omega)];have R:IntKind.i64.wrap ((d:Int)+1)=((d+1:Nat):Int):=Q8 (by omega);have loop:∀(r:List Cond) (i:Nat) (a:Int),c.Parts.drop i=r->i<=c.Parts.length->0<=a->a<=condB d->
    ∃v:Int,EvI (λn=>F_ej n c (d:Int) (F_l n)) (a,(i:Int)) v/\0<=v/\v<=condB d/\
     (cDs (d+1) r=true/\a+cNs r<=256->v=a+cNs r)/\(¬(cDs (d+1) r=true/\a+cNs r<=256)->256<v):=by
   intro r
   induction r with
   |nil=>
    intro i a G O z j;refine⟨a,Ej ?_,z,j,λ_=>by simp[cNs],λh=>?_⟩
    .unfold F_ej;simp only[QX G O,Vs,XL];exact Qa _
    .simp[cDs,cNs]at h;omega
   |cons x r E=>
    intro i a G O z j;obtain⟨f,H⟩:=Qt (by omega) G;have hx:cN x<cN c:=by
     have:∀l:List Cond,x∈l->cN x<=cNs l:=by
      intro l
      induction l with
      |nil=>intro h;cases h
      |cons y l J=>
       intro h;rw[cNs];rcases X8.1 h with rfl|h
       .omega
       .have:=J h;omega
     have:=this _ f.mem;rw[Qb2 c];omega
    by_cases e:a<=256
    .obtain⟨v,B,N,L,p,s⟩:=J (cN x) (by omega) x (d+1) (XV _) (by omega) (F x f.mem);have hB:condB (d+1)+256=condB d:=by unfold condB;omega
     have Q:condB d<=6000:=by unfold condB;omega
     have V:IntKind.i64.wrap (a+v)=a+v:=QJ (by omega) (by omega);obtain⟨w,T,q2,X,W,M⟩:=E (i+1) (a+v) H (by have:=f.lt';omega) (by omega) (by omega);refine⟨w,Ex ?_ T,q2,X,?_,?_⟩
     .unfold F_ej;simp only[f.lt,Vr,Yd e,XL,f.ix,f.nx,R];refine Ea B ?_;rw[V];exact Qa _
     .rintro⟨b,u⟩;simp only[cDs,XY,Vt]at b;rw[cNs]at u⊢;have:=p ⟨b.1,b.2.1,by omega⟩;subst this;rw[W ⟨b.2.2,by omega⟩];omega
     .intro q;by_cases k:d+1<=16/\cD (d+1+1) x=true/\cN x<=256
      .have:=p k;subst this;refine M λb=>q ⟨?_,?_⟩
       .simp only[cDs,XY,Vt];exact⟨k.1,k.2.1,b.1⟩
       .rw[cNs];omega
      .have:=s k;exact M λb=>by omega
    .refine⟨a,Ej ?_,z,j,λh=>?_,λ_=>by omega⟩
     .unfold F_ej;simp only[f.lt,Vr,Q9 e,XL,Vs];exact Qa _
     .omega
  obtain⟨v,B,N,L,p,s⟩:=loop c.Parts 0 1 rfl (XW _) (by omega) (by unfold condB;omega);refine⟨v,QP (Ea B.ev (Qa _)),N,L,?_,?_⟩
  .rintro⟨_,b,u⟩;rw[QkW]at b;rw[Qb2]at u⊢;rw[p ⟨b,by omega⟩];omega
  .intro q;refine s λh=>q ⟨g,by rw[QkW];exact h.1,by rw[Qb2];omega⟩
 .rw[Yd (show(16:Int)<(d:Int)by omega)];refine⟨1000,Qk8 (Qa _),by omega,by unfold condB;omega,λh=>absurd h.1 g,λ_=>by omega⟩
def sizeB:Nat->Int
 |0=>10000
 |k+1=>3*sizeB k
theorem QcP:∀k,10000<=sizeB k
 |0=>Int.le_refl _
 |k+1=>by have:=QcP k;simp only[sizeB];omega
theorem Qmu{k:Nat}(h:k<=17):sizeB k<=1291401630000:=by
 have:∀j,j<=17->sizeB j<=1291401630000:=by decide+kernel
 exact this k h
def goodL(d:Nat)(l:List Step):Prop:=sDs d l=true/\sNs l<=64/\sCs l<=256
theorem QoA:∀(m:Nat) (l:List Step) (d:Nat),sZs l<=m->d<=17->l.length<=1048576->(∀x∈l,Step.wf x)->∃a b:Int,Ev (λn=>F_v n l (d:Int)) (a,b)/\0<=a/\0<=b/\a<=sizeB (17-d)/\b<=sizeB (17-d)/\
  (goodL d l->a=sNs l/\b=sCs l)/\(¬goodL d l->64<a\/256<b):=by
 intro m
 induction m using Nat.strongRecOn with
 |_ m F=>
 intro l d hm hd hl hw;have aa:∀{P:Int->Int->Prop},(∃a b:Int,Ev (λn=>B_v (F_v n) n l (d:Int)) (a,b)/\P a b)->∃a b:Int,Ev (λn=>F_v n l (d:Int)) (a,b)/\P a b:=by
  rintro P ⟨a,b,u,p⟩;exact⟨a,b,Yb u,p⟩
 refine aa ?_;unfold B_v;by_cases e:0<l.length/\ ¬d<=16
 .rw[Yd (show(0:Int)<(l.length:Int)by omega),Yd (show(16:Int)<(d:Int)by omega)];have:=QcP (17-d);refine⟨1000,1000,Ea (Qa _) (Qk8 (Qa _)),by omega,by omega,by omega,by omega,λh=>?_,λ_=>by omega⟩;exfalso;cases l with
  |nil=>simp at e
  |cons x r=>
   have:=h.1;simp only[sDs,XY,Vt]at this;exact e.2 this.1
 .have B:Ev (λn:Nat=>((bif decide (0<(l.length:Int))then some (decide (16<(d:Int)))else some false):Option Bool)) false:=by
   by_cases hp:0<l.length
   .have:d<=16:=by
     rcases VE 16 d with q|q
     .exact absurd ⟨hp,by omega⟩ e
     .exact q
    rw[Yd (show(0:Int)<(l.length:Int)by omega),Q9 (show¬(16:Int)<(d:Int)by omega)];exact Qa _
   .rw[Q9 (show¬(0:Int)<(l.length:Int)by omega)];exact Qa _
  have ed:IntKind.i64.wrap ((d:Int)+1)=((d+1:Nat):Int):=Q8 (by omega);have loop:∀(r:List Step) (i:Nat) (a b:Int),l.drop i=r->i<=l.length->0<=a->0<=b->a<=sizeB (17-d)->b<=sizeB (17-d)->
    ∃a' b':Int,EvI (λn=>F_et n l (d:Int) (F_v n)) (a,b,(i:Int)) (a',b')/\0<=a'/\0<=b'/\a'<=sizeB (17-d)/\b'<=sizeB (17-d)/\
     (sDs d r=true/\a+sNs r<=64/\b+sCs r<=256->a'=a+sNs r/\b'=b+sCs r)/\(¬(sDs d r=true/\a+sNs r<=64/\b+sCs r<=256)->64<a'\/256<b'):=by
   intro r
   induction r with
   |nil=>
    intro i a b hr hi B u p h3;refine⟨a,b,Ej ?_,B,u,p,h3,λ_=>by simp[sNs,sCs],λh=>?_⟩
    .unfold F_et;simp only[QX hr hi,Vs,XL];exact Qa _
    .simp[sDs,sNs,sCs]at h;omega
   |cons s r Q=>
    intro i a b hr hi B u p h3;obtain⟨j,T⟩:=Qt (by omega) hr;have ah:=j.lt';have w:d<=16:=by
     rcases VE 16 d with q|q
     .exact absurd ⟨by omega,by omega⟩ e
     .exact q
    have ak:sZ s<=sZs l:=by
     have:∀l:List Step,s∈l->sZ s<=sZs l:=by
      intro l
      induction l with
      |nil=>intro h;cases h
      |cons y l F=>
       intro h;rw[sZs];rcases X8.1 h with rfl|h
       .omega
       .have:=F h;omega
     exact this _ j.mem
    by_cases f:a<=64/\b<=256
    .obtain⟨wc,⟨M,J⟩,⟨N,af⟩⟩:=YZ (hw s j.mem);have ai:=Qgi s;obtain⟨t,g,p1,p2,p3,p4,p5,E,W⟩:=F (sZs s.Then) (by omega) s.Then (d+1) (XV _) (by omega) M J;obtain⟨y1,y2,q1,q2,q3,q4,q5,q6,q7⟩:=F (sZs s.Else) (by omega) s.Else (d+1) (XV _) (by omega) N af;have hB:sizeB (17-d)=3*sizeB (17-(d+1)):=by
      rw[show 17-d=(17-(d+1))+1 by omega];rfl
     have H:=QcP (17-(d+1));have ag:=Qmu (k:=17-d) (by omega);have hc:∃z:Int,0<=z/\z<=5608/\Ev (λn=>((bif (!zeroC s.Cond)then(idx l (i:Int)).bind λO=>(F_l n O.Cond 0).bind λR=>some (IntKind.i64.wrap ((IntKind.i64.wrap ((IntKind.i64.wrap (b+g))+y2))+R))else some (IntKind.i64.wrap ((IntKind.i64.wrap (b+g))+y2))):Option Int)) (b+g+y2+z)/\
       ((zeroC s.Cond||cD 1 s.Cond)=true/\(bif zeroC s.Cond then 0 else cN s.Cond)<=256->z=((bif zeroC s.Cond then 0 else cN s.Cond:Nat):Int))/\(¬((zeroC s.Cond||cD 1 s.Cond)=true/\(bif zeroC s.Cond then 0 else cN s.Cond)<=256)->256<z):=by
      have e1:IntKind.i64.wrap (b+g)=b+g:=QJ (by omega) (by omega);have e2:IntKind.i64.wrap (b+g+y2)=b+g+y2:=QJ (by omega) (by omega);cases hz:zeroC s.Cond with
      |true=>
       refine⟨0,by omega,by omega,?_,λ_=>by simp,λh=>absurd ⟨rfl,by simp⟩ h⟩;simp only[Xh,Vs,e1,e2];exact(Qa _).eq (by omega)
      |false=>
       obtain⟨v,u1,u2,u3,u4,u5⟩:=Qcs _ s.Cond 0 (XV _) (by omega) wc;have ae:v<=5608:=by unfold condB at u3;omega
       have e3:IntKind.i64.wrap (b+g+y2+v)=b+g+y2+v:=QJ (by omega) (by omega);refine⟨v,u2,ae,?_,λh=>?_,λh=>?_⟩
       .simp only[Xi,Vr,j.ix,XL,e1,e2];refine Ea u1 ?_;rw[e3];exact Qa _
       .simp only[Bool.false_or,Vs]at h⊢;exact u4 ⟨by omega,h.1,h.2⟩
       .simp only[Bool.false_or,Vs]at h;exact u5 λq=>h ⟨q.2.1,q.2.2⟩
     obtain⟨z,z0,z1,z2,z3,z4⟩:=hc;have e4:IntKind.i64.wrap (a+1)=a+1:=QJ (by omega) (by omega);have e5:IntKind.i64.wrap (a+1+t)=a+1+t:=QJ (by omega) (by omega);have e6:IntKind.i64.wrap (a+1+t+y1)=a+1+t+y1:=QJ (by omega) (by omega);obtain⟨w1,w2,v1,v2,v3,v4,v5,v6,G⟩:=Q (i+1) (a+1+t+y1) (b+g+y2+z) T (by omega) (by omega) (by omega) (by omega) (by omega);refine⟨w1,w2,Ex ?_ v1,v2,v3,v4,v5,?_,?_⟩
     .unfold F_et;simp only[j.lt,Vr,Yd f.1,Yd f.2,XL,j.ix,j.nx,ed,Qfx];refine Ea p1 (Ea q1 ?_);simp only[j.ix,XL]at z2;refine Ea z2 ?_;rw[e4,e5,e6];exact Qa _
     .rintro⟨g1,g2,g3⟩;simp only[sDs,XY,Vt,Qid]at g1;obtain⟨aj,⟨ab,L,X⟩,ac⟩:=g1;rw[sNs,Qgj]at g2⊢;rw[sCs,QeU]at g3⊢;obtain⟨k1,k2⟩:=E ⟨L,by omega,by omega⟩;obtain⟨k3,k4⟩:=q6 ⟨X,by omega,by omega⟩;have k5:=z3 ⟨ab,by omega⟩;obtain⟨k6,k7⟩:=v6 ⟨ac,by omega,by omega⟩;constructor<;>omega
     .intro hn;by_cases Y:goodL (d+1) s.Then
      .obtain⟨k1,k2⟩:=E Y;by_cases V:goodL (d+1) s.Else
       .obtain⟨k3,k4⟩:=q6 V;by_cases b3:(zeroC s.Cond||cD 1 s.Cond)=true/\(bif zeroC s.Cond then 0 else cN s.Cond)<=256
        .have k5:=z3 b3;refine G λq=>hn ⟨?_,?_,?_⟩
         .simp only[sDs,XY,Vt,Qid];exact⟨w,⟨b3.1,Y.1,V.1⟩,q.1⟩
         .rw[sNs,Qgj];omega
         .rw[sCs,QeU];omega
        .have:=z4 b3;exact G λq=>by omega
       .have:=q7 V;exact G λq=>by omega
      .have:=W Y;exact G λq=>by omega
    .refine⟨a,b,Ej ?_,B,u,p,h3,λh=>?_,λ_=>?_⟩
     .unfold F_et;have:Ev (λn:Nat=>((bif decide ((i:Int)<(l.length:Int))then(bif decide (a<=64)then some (decide (b<=256))else some false)else some false):Option Bool)) false:=by
       rw[j.lt];by_cases q:a<=64
       .rw[Yd q,Q9 (show¬b<=256 from λz=>f ⟨q,z⟩)];exact Qa _
       .rw[Q9 q];exact Qa _
      exact Ea this (QP (Qa _))
     .omega
     .omega
  have H:=QcP (17-d);obtain⟨a,b,p1,p2,p3,p4,p5,E,W⟩:=loop l 0 0 0 rfl (XW _) (by omega) (by omega) (by omega) (by omega);refine⟨a,b,Ea B (QP (Ea p1.ev (Qa _))),p2,p3,p4,p5,λh=>?_,λh=>?_⟩
  .obtain⟨k1,k2⟩:=E ⟨h.1,by have:=h.2.1;omega,by have:=h.2.2;omega⟩;constructor<;>omega
  .exact W λq=>h ⟨q.1,by omega,by omega⟩
theorem QiP:∀(m:Nat) (c:Cond),cN c<=m->Cond.wf c->Ev (λn=>F_u n c) (vaC c):=by
 intro m
 induction m using Nat.strongRecOn with
 |_ m p=>
 intro c u r;obtain⟨s,j⟩:=Y0 r;refine Yb ?_;show Ev (λn=>B_u (F_u n) n c) _;unfold B_u;rw[Qmj];have k:∀x∈c.Parts,cN x<cN c:=by
  intro x k;have:∀l:List Cond,x∈l->cN x<=cNs l:=by
   intro l
   induction l with
   |nil=>intro h;cases h
   |cons y l p=>
    intro h;rw[cNs];rcases X8.1 h with rfl|h
    .omega
    .have:=p h;omega
  have:=this _ k;rw[Qb2 c];omega
 have loop:Ev (λn=>iter (F_el n c (F_u n)) n 0) (bif c.Parts.all vaC then Ctl.cont ()else Ctl.done false):=by
  refine Yx c.Parts vaC _ _ (by omega) (λi x a=>?_) ?_
  .unfold F_el;simp only[a.lt,Vr,a.ix,XL,a.nx];refine Ea (p (cN x) (by have:=k x a.mem;omega) x (XV _) (j x a.mem)) ?_;cases vaC x<;>exact Qa _
  .unfold F_el;simp only[YU,Vs];exact Qa _
 have fin:Ev (λn=>((bif (c.Var != 0)then some true else some (c.N != 0)):Option Bool).bind λg=>(bif g then some false else(iter (F_el n c (F_u n)) n 0:Option (Ctl Unit Bool)).bind λd=>match d with|.cont sb48=>(some true)|.done sb48=>some sb48)) (((c.Var==0)&&(c.N==0))&&vaCs c.Parts):=by
  refine Ea (v:= !((c.Var==0)&&(c.N==0))) (EA ?_) ?_
  .rw[Qde];simp only[Bool.not_and,bne]
  .cases((c.Var==0)&&(c.N==0))with
   |false=>exact Qa _
   |true=>
    refine QP (Ea loop ?_);rw[Qg8];cases c.Parts.all vaC<;>exact Qa _
 refine QbI (λ_=>?_) (λw=>?_)
 .refine Ea (v:=_) ((Ei λ_=>Ei λ_=>Ei λ_=>Ei λ_=>Qa _).eq ?_) (Qa _);unfold inR;simp only[Bool.and_assoc]
 .have e:Ev (λn:Nat=>((bif (c.Kind==2)then some (c.Kind==2)else some (c.Kind==3)):Option Bool)) ((c.Kind==2)||(c.Kind==3)):=EA (by rw[QhM]);refine Ea e ?_;cases b:((c.Kind==2)||(c.Kind==3))with
  |true=>
   have q:(c.Kind==4)=false:=by
    rw[VO];simp only[Bool.or_eq_true,VA]at b;simp only[VA,ne_eq];omega
   rw[q];simp only[Vs,Vr];have t:(bif decide ((c.Parts.length:Int)<1)then some true else some (decide (16<(c.Parts.length:Int))))=some (!(decide (0<(c.Parts.length:Int))&&decide ((c.Parts.length:Int)<=16))):=by
    rw[Qde];congr 1;rw[X0];simp only[Bool.or_eq_true,Vt,Bool.not_eq_true',Bool.and_eq_false_iff,decide_eq_false_iff_not];omega
   rw[t];cases f:(decide (0<(c.Parts.length:Int))&&decide ((c.Parts.length:Int)<=16))with
   |false=>
    refine Ea (v:=Ctl.done false) (Qa _) ((Qa _).eq (by simp))
   |true=>
    refine Ea (v:=Ctl.cont ()) (Qa _) (fin.eq (by simp))
  |false=>
   simp only[Vs];cases q:(c.Kind==4)with
   |true=>
    simp only[Vr];cases f:((c.Parts.length:Int)==1)with
    |false=>
     refine Ea (v:=Ctl.done false) (EA ?_) ((Qa _).eq (by simp));simp only[bne,f,Xi,Vr]
    |true=>
     refine Ea (v:=Ctl.cont ()) (EA ?_) (fin.eq (by simp));simp only[bne,f,Xh,Vs]
   |false=>
    refine Ea (v:=Ctl.done false) (Qa _) (Qa _)
theorem QjZ(c:Cond)(a:Cond.wf c)(d:cD 1 c=true)(b:cN c<=256):Ev (λn=>F_bj n c) (bif vaC c then 0 else 71):=by
 obtain⟨v,f,_,_,e,_⟩:=Qcs _ c 0 (XV _) (by omega) a;have:=e ⟨by omega,d,b⟩;unfold F_bj;refine Ea f ?_;rw[Q9 (show¬256<v by omega)];refine QP (Ea (QiP _ c (XV _) a) ?_);cases vaC c<;>exact Qa _
theorem Qlc{c:Cond}(h:zeroC c=true):cD 1 c=true/\cN c<=256:=by
 unfold zeroC at h;simp only[XY,VA]at h;have:c.Parts=[]:=List.eq_nil_of_length_eq_zero (by omega);rw[QkW,Qb2,this];exact⟨rfl,by simp[cNs]⟩
theorem QiN:∀(m:Nat) (l:List Step) (d:Nat),sZs l<=m->l.length<=1048576->(∀x∈l,Step.wf x)->sDs d l=true->sCs l<=256->Ev (λn=>F_h n l) (vaSs l):=by
 intro m
 induction m using Nat.strongRecOn with
 |_ m t=>
 intro l d hm Y V k hc;refine Yb ?_;show Ev (λn=>B_h (F_h n) n l) _;unfold B_h;have p:∀s∈l,sZ s<=sZs l/\sDp (d+1) s=true/\sC s<=sCs l:=by
  intro s;have:∀l:List Step,s∈l->sDs d l=true->sZ s<=sZs l/\sDp (d+1) s=true/\sC s<=sCs l:=by
   intro l
   induction l with
   |nil=>intro h;cases h
   |cons y l t=>
    intro h k;simp only[sDs,XY]at k;rw[sZs,sCs];rcases X8.1 h with rfl|h
    .exact⟨by omega,k.2.1,by omega⟩
    .obtain⟨X,G,h3⟩:=t h k.2.2;exact⟨by omega,G,by omega⟩
  exact λh=>this l h k
 rw[Qg7];have loop:Ev (λn=>iter (F_hx n l (F_h n)) n 0) (bif l.all vaS then Ctl.cont ()else Ctl.done false):=by
  refine Yx l vaS _ _ (by omega) (λi s g=>?_) ?_
  .obtain⟨m1,z,m3⟩:=p s g.mem;obtain⟨W,⟨u,B⟩,⟨w,E⟩⟩:=YZ (V s g.mem);have L:=Qgi s;have r:=QeU s;rw[Qid]at z;simp only[XY]at z;obtain⟨F,N,J⟩:=z;have f:cD 1 s.Cond=true/\cN s.Cond<=256:=by
    cases H:zeroC s.Cond with
    |true=>exact Qlc H
    |false=>
     rw[H]at F r;simp only[Vs]at r;exact⟨by simpa using F,by omega⟩
   unfold F_hx;simp only[g.lt,Vr,g.ix,XL,g.nx,Qfx];rw[Qmi];cases X:(s.Kind==1)with
   |true=>
    simp only[Vr];have e:Ev (λn:Nat=>((bif decide (s.By<1)then some true else(bif decide (5<s.By)then some true else(bif (!zeroC s.Cond)then some true else(bif ((s.Then.length:Int) != 0)then some true else some ((s.Else.length:Int) != 0))))):Option Bool)) (!(inR 1 5 s.By&&(zeroC s.Cond&&(((s.Then.length:Int)==0)&&((s.Else.length:Int)==0))))):=by
     refine(Eu λ_=>Eu λ_=>Eu λ_=>Eu λ_=>Qa _).eq ?_;unfold inR;cases zeroC s.Cond with
     |false=>simp
     |true=>
      rw[X0];simp only[Bool.or_eq_true,Vt,Bool.not_eq_true',Bool.and_eq_false_iff,decide_eq_false_iff_not,bne_iff_ne,ne_eq,VB,Xh,VC,Xj,false_or];omega
    cases j:(inR 1 5 s.By&&(zeroC s.Cond&&(((s.Then.length:Int)==0)&&((s.Else.length:Int)==0))))with
    |true=>rw[j]at e;exact Ea (Ea e (Qa _)) (Qa _)
    |false=>rw[j]at e;exact Ea (Ea e (Qa _)) (Qa _)
   |false=>
    simp only[Vs];cases G:(s.Kind==2)with
    |true=>
     simp only[Vr];have e:Ev (λn=>((bif (s.By != 0)then some true else(F_bj n s.Cond).bind λq=>(bif (q != 0)then some true else(bif ((s.Then.length:Int)==0)then some true else(F_h n s.Then).bind λb=>(bif (!b)then some true else(F_h n s.Else).bind λa=>some (!a))))):Option Bool)) (!((s.By==0)&&(vaC s.Cond&&(decide (0<(s.Then.length:Int))&&(vaSs s.Then&&vaSs s.Else))))):=by
      have P:=t (sZs s.Then) (by omega) s.Then (d+1) (XV _) u B N (by omega);have O:=t (sZs s.Else) (by omega) s.Else (d+1) (XV _) w E J (by omega);have Q:Ev (λn=>(F_h n s.Else).bind λa=>some (!a)) (!vaSs s.Else):=Ea O (Qa _);have T:Ev (λn=>(F_h n s.Then).bind λb=>(bif (!b)then some true else(F_h n s.Else).bind λa=>some (!a))) (!vaSs s.Then|| !vaSs s.Else):=Ea P (Eu λ_=>Q);refine(Eu λ_=>Ea (QjZ s.Cond W f.1 f.2) (Eu λ_=>Eu λ_=>T)).eq ?_;have M:((bif vaC s.Cond then(0:Int)else 71) != 0)= !vaC s.Cond:=by cases vaC s.Cond<;>rfl
      have R:((s.Then.length:Int)==0)= !decide (0<(s.Then.length:Int)):=by
       rw[X0];simp
      rw[M,R];simp only[Bool.not_and,bne]
     cases j:((s.By==0)&&(vaC s.Cond&&(decide (0<(s.Then.length:Int))&&(vaSs s.Then&&vaSs s.Else))))with
     |true=>rw[j]at e;exact Ea (Ea e (Qa _)) (Qa _)
     |false=>rw[j]at e;exact Ea (Ea e (Qa _)) (Qa _)
    |false=>exact Ea (Qa _) (Qa _)
  .unfold F_hx;simp only[YU,Vs];exact Qa _
 refine Ea loop ?_;cases l.all vaS<;>exact Qa _
theorem QjY(l:List Step)(hl:l.length<=1048576)(g:∀x∈l,Step.wf x):Ev (λn=>F_cy n l) (tiesE l):=by
 unfold F_cy;obtain⟨a,b,k,w,r,_,_,m,j⟩:=QoA _ l 0 (XV _) (by omega) hl g;refine Ea k ?_;have i:goodT l=true↔goodL 0 l:=by
  unfold goodT goodL;simp
 unfold tiesE;cases f:goodT l with
 |false=>
  have:=j (λh=>by rw[i.2 h]at f;cases f);have e:(bif decide (64<a)then some true else some (decide (256<b)))=some true:=by
   rw[Qde];rcases this with h|h
   .rw[Yd h];rfl
   .rw[Yd h];simp
  exact Ea (EA e) (Qa _)
 |true=>
  have d:=i.1 f;obtain⟨s,t⟩:=m d;have u:=d.2.1;have p:=d.2.2;have e:(bif decide (64<a)then some true else some (decide (256<b)))=some false:=by
   rw[Qde,Q9 (show¬64<a by omega),Q9 (show¬256<b by omega)];rfl
  refine Ea (EA e) (QP ?_);have q:((l.length:Int)==0)=l.isEmpty:=by
   cases l<;>simp;omega
  rw[q];refine Ea (Eu λ_=>Ea (QiN _ l 0 (XV _) hl g d.1 p) (Qa _)) ?_;simp only[Vr];cases(l.isEmpty|| !vaSs l)<;>exact Qa _
mutual
def hP:Part->Nat
 |⟨_,_,ps⟩=>bif ps.isEmpty then 0 else 1+hPs ps
def hPs:List Part->Nat
 |[]=>0
 |p::r=>max (hP p) (hPs r)
end
theorem Qm2(p:Part):hP p=bif p.Parts.isEmpty then 0 else 1+hPs p.Parts:=by cases p;rfl
theorem QkL{p:Part}:∀{l:List Part},p∈l->hP p<=hPs l
 |q::r,h=>by
  simp only[hPs];rcases X8.1 h with rfl|h
  .omega
  .have:=QkL h;omega
theorem Qe9{α:Type}(l:List α):((l.length:Int)==0)=l.isEmpty:=by
 cases l<;>simp;omega
theorem Y6:∀l:List Part,l.length<=szPs l
 |[]=>XV _
 |p::r=>by have:=Y6 r;rw[szPs,YT,X3];omega
theorem Qeb:∀(m:Nat) (l:List Part) (k:Nat),szPs l<=m->k<=17->l.length<=1048576->(∀x∈l,Part.wf x)->Ev (λn=>F_t n l (k:Int)) ((min (hPs l) k:Nat):Int):=by
 intro m
 induction m using Nat.strongRecOn with
 |_ m B=>
 intro l k F H E z;refine Yb ?_;show Ev (λn=>B_t (F_t n) n l (k:Int)) _;unfold B_t;have loop:∀(r:List Part) (i:Nat) (a:Nat),l.drop i=r->i<=l.length->a<=k->EvI (λn=>F_cv n l (k:Int) (F_t n)) ((a:Int),(i:Int)) ((max a (min (hPs r) k):Nat):Int):=by
  intro r
  induction r with
  |nil=>
   intro i a e g b;refine Ej ?_;unfold F_cv;simp only[QX e g,Vs,XL];refine(Qa _).eq ?_;simp[hPs]
  |cons p r d=>
   intro i a e g j;obtain⟨b,f⟩:=Qt (by omega) e;obtain⟨u,y⟩:=Yo (z p b.mem);by_cases t:0<k
   .have s:IntKind.i64.wrap ((k:Int)-1)=((k-1:Nat):Int):=by rw[QJ (by omega) (by omega)];omega
    have q:=Jl b.mem;rw[YT]at q;have step:Ev (λn=>F_cv n l (k:Int) (F_t n) ((a:Int),(i:Int))) (.cont (((max a (min (hP p) k):Nat):Int),((i+1:Nat):Int))):=by
     unfold F_cv;simp only[b.lt,Vr,Yd (show(0:Int)<(k:Int)by omega),XL,b.ix,b.nx,s,bne,Qe9];rw[Qm2];cases G:p.Parts.isEmpty with
     |true=>
      simp only[Xh,Vs,XL,Vr,Nat.zero_min,Nat.max_zero];exact Qa _
     |false=>
      simp only[Xi,Vr,Vs];refine Ea (Ea (B (szPs p.Parts) (by omega) p.Parts (k-1) (XV _) (by omega) u y) (Qa _)) ((Qa _).eq ?_);have w:IntKind.i64.wrap (1+((min (hPs p.Parts) (k-1):Nat):Int))=((1+min (hPs p.Parts) (k-1):Nat):Int):=by rw[QJ (by omega) (by omega)];omega
      rw[w];congr 2;split<;>omega
    refine(Ex step (d (i+1) _ f (by have:=b.lt';omega) (by omega))).eq ?_;rw[hPs];omega
   .have:k=0:=by omega
    subst this;refine Ej ?_;unfold F_cv;simp only[b.lt,Vr,Q9 (show¬(0:Int)<((0:Nat):Int)by omega),XL,Vs];have h:max a (min (hPs (p::r)) 0)=a:=by omega
    rw[h];exact Qa _
 refine Ea ((loop l 0 0 rfl (XW _) (XW _)).ev) ((Qa _).eq ?_);omega
theorem Qec:∀(m:Nat) (l:List Part),szPs l<=m->l.length<=1048576->(∀x∈l,Part.wf x)->Ev (λn=>F_y n l) ((min (szPs l) 257:Nat):Int):=by
 intro m
 induction m using Nat.strongRecOn with
 |_ m s=>
 intro l F y w;refine Yb ?_;show Ev (λn=>B_y (F_y n) n l) _;unfold B_y;have loop:∀(r:List Part) (i:Nat) (a:Nat),l.drop i=r->i<=l.length->a<=1048576->∃b:Nat,EvI (λn=>F_eq n l (F_y n)) ((a:Int),(i:Int)) (b:Int)/\min b 257=min (a+(szPs r-r.length)) 257:=by
  intro r
  induction r with
  |nil=>
   intro i a f k _;refine⟨a,Ej ?_,by simp[szPs]⟩;unfold F_eq;simp only[QX f k,Vs,XL];exact Qa _
  |cons p r e=>
   intro i a f k u;obtain⟨d,g⟩:=Qt (by omega) f;obtain⟨B,t⟩:=Yo (w p d.mem);have z:=Jl d.mem;rw[YT]at z;have E:=Y6 r;by_cases j:a<=256
   .obtain⟨b,h,q⟩:=e (i+1) (a+min (szPs p.Parts) 257) g (by have:=d.lt';omega) (by omega);refine⟨b,Ex ?_ h,?_⟩
    .unfold F_eq;simp only[d.lt,Vr,Yd (show(a:Int)<=256 by omega),XL,d.ix,d.nx];refine Ea (s (szPs p.Parts) (by omega) p.Parts (XV _) B t) ((Qa _).eq ?_);rw[QJ (by omega) (by omega)];congr 2
     all_goals omega
    .rw[q,szPs,YT,X3];omega
   .refine⟨a,Ej ?_,by omega⟩;unfold F_eq;simp only[d.lt,Vr,Q9 (show¬(a:Int)<=256 by omega),XL,Vs];exact Qa _
 obtain⟨b,h,q⟩:=loop l 0 l.length rfl (XW _) y;refine Ea h.ev ((Qa _).eq ?_);have:=Y6 l;split<;>omega
theorem Qnl:∀(m:Nat) (l:List Part) (k:Nat),szPs l<=m->hPs l<=k->k<=17->szPs l<=256->(∀x∈l,Part.wf x)->Ev (λn=>F_e n l (k:Int)) ((hPs l:Int),(szPs l:Int)):=by
 intro m
 induction m using Nat.strongRecOn with
 |_ m O=>
 intro l k P Q t e M;have u:=Y6 l;refine Yb ?_;show Ev (λn=>B_e (F_e n) n l (k:Int)) _;unfold B_e;have loop:∀(r:List Part) (i:Nat) (a b:Nat),l.drop i=r->i<=l.length->a<=17->b+(szPs r-r.length)<=256->EvI (λn=>F_an n l (k:Int) (F_e n)) ((a:Int),(b:Int),(i:Int)) (((max a (hPs r):Nat):Int),((b+(szPs r-r.length):Nat):Int)):=by
  intro r
  induction r with
  |nil=>
   intro i a b j w _ _;refine Ej ?_;unfold F_an;simp only[QX j w,Vs,XL];refine(Qa _).eq ?_;simp[hPs,szPs]
  |cons p r h=>
   intro i a b j w z f;obtain⟨d,q⟩:=Qt (by omega) j;obtain⟨R,J⟩:=Yo (M p d.mem);have B:=Jl d.mem;have g:=QkL d.mem;rw[YT]at B;have E:=Y6 r;rw[szPs,YT,X3]at f;have step:Ev (λn=>F_an n l (k:Int) (F_e n) ((a:Int),(b:Int),(i:Int))) (.cont (((max a (hP p):Nat):Int),((b+szPs p.Parts:Nat):Int),((i+1:Nat):Int))):=by
    unfold F_an;simp only[d.lt,Vr,d.ix,XL,d.nx,Qe9];rw[Qm2]at g⊢;cases s:p.Parts.isEmpty with
    |true=>
     have y:p.Parts=[]:=by simpa using s
     simp only[Vr,XL];rw[y];simp only[szPs,Xy,Nat.max_zero];exact Qa _
    |false=>
     rw[s]at g;simp only[Vs]at g⊢;have G:0<k:=by omega
     have F:IntKind.i64.wrap ((k:Int)-1)=((k-1:Nat):Int):=by rw[QJ (by omega) (by omega)];omega
     have H:((k:Int)==0)=false:=beq_false_of_ne (by omega);rw[H,Q9 (show¬(256:Int)<(b:Int)by omega),F];simp only[Vs,XL];refine Ea (Ea (O (szPs p.Parts) (by omega) p.Parts (k-1) (XV _) (by omega) (by omega) (by omega) J) (Qa _)) ((Qa _).eq ?_);have N:IntKind.i64.wrap ((hPs p.Parts:Int)+1)=((hPs p.Parts+1:Nat):Int):=Q8 (by omega);have L:IntKind.i64.wrap ((b:Int)+(szPs p.Parts:Int))=((b+szPs p.Parts:Nat):Int):=by rw[QJ (by omega) (by omega)];omega
     simp only[N,L];congr 2;split<;>omega
   refine(Ex step (h (i+1) _ _ q (by have:=d.lt';omega) (by omega) (by omega))).eq ?_;rw[hPs,szPs,YT,X3];congr 1<;>omega
 refine Ea ((loop l 0 0 l.length rfl (XW _) (by omega) (by omega)).ev) ((Qa _).eq ?_);congr 1<;>omega
def repS:Nat->List Int->List Int->List Int
 |0,out,_=>out
 |k+1,out,lap=>if 256<out.length then out else repS k (out++lap) lap
mutual
def lapS:Part->List Int
 |⟨m,laps,ps⟩=>bif decide (0<laps)then expS [] ps else[m]
def expS:List Int->List Part->List Int
 |out,[]=>out
 |out,p::r=>expS (repS (p.Laps.toNat+(bif decide (0<p.Laps)then 0 else 1)) out (lapS p)) r
end
theorem Qcc(p:Part):lapS p=bif decide (0<p.Laps)then expS [] p.Parts else[p.Mat]:=by cases p;rfl
theorem QcV{k:Nat}{a b:List Int}(h:256<a.length):repS k a b=a:=by
 cases k with
 |zero=>rfl
 |succ k=>rw[repS,Vv h]
theorem Qfv:∀(l:List Part) {out:List Int},256<out.length->expS out l=out
 |[],out,h=>by rw[expS]
 |p::r,out,h=>by rw[expS,QcV h];exact Qfv r h
theorem QcU:∀(k:Nat) (out lap:List Int),(repS k out lap).length<=max out.length (256+lap.length)
 |0,out,lap=>by rw[repS];omega
 |k+1,out,lap=>by
  rw[repS];split
  .omega
  .have:=QcU k (out++lap) lap;rw[X5]at this;omega
theorem Qfu:∀(m:Nat) (l:List Part) (a:List Int),szPs l<=m->(expS a l).length<=max a.length (256+257*szPs l):=by
 intro m
 induction m using Nat.strongRecOn with
 |_ m j=>
 intro l;have b:∀p∈l,szPs l<=m->(lapS p).length<=257*szP p:=by
  intro p f h;have n:=Jl f;rw[Qcc,YT]at*;cases decide (0<p.Laps)with
  |true=>
   have:=j (szPs p.Parts) (by omega) p.Parts [] (XV _);simp only[Vr,List.length_nil]at this⊢;omega
  |false=>simp;omega
 have e:∀(r:List Part) (a:List Int),(∀p∈r,(lapS p).length<=257*szP p)->(expS a r).length<=max a.length (256+257*szPs r):=by
  intro r
  induction r with
  |nil=>intro a _;rw[expS];omega
  |cons p r d=>
   intro a g;rw[expS,szPs];have t:=d (repS (p.Laps.toNat+(bif decide (0<p.Laps)then 0 else 1)) a (lapS p)) λq i=>g q (by simp[i]);have s:=QcU (p.Laps.toNat+(bif decide (0<p.Laps)then 0 else 1)) a (lapS p);have k:=g p (by simp);omega
 intro a h;exact e l a λp f=>b p f h
theorem Qir(p:Part):(lapS p).length<=257*szP p:=by
 rw[Qcc,YT];cases decide (0<p.Laps)with
 |true=>
  have:=Qfu _ p.Parts [] (XV _);simp only[Vr,List.length_nil]at this⊢;omega
 |false=>simp;omega
theorem QlB(Y:Int):∀(m:Nat) (l:List Part),szPs l<=m->szPs l<=256->l.length<=1048576->(∀x∈l,Part.wf x)->partsS Y l=true->Ev (λn=>F_x n l) (expS [] l):=by
 intro m
 induction m using Nat.strongRecOn with
 |_ m ih=>
 intro l hm G hl hw O;rw[Qbc,Xu]at O;refine Yb ?_;show Ev (λn=>B_x (F_x n) n l) _;unfold B_x;have inner:∀(p:Part) (e:List Int) (g:p.Laps=0\/0<p.Laps/\p.Laps<=64) (y:e.length<=100000) (j:Nat) (k:Nat) (a:List Int),j+k=p.Laps.toNat+(bif decide (0<p.Laps)then 0 else 1)->a.length<=200000->
   ∃d:Ctl (List Int) (Ctl ((List Int)×Int) (Ctl (List Int) (List Int))),EvI (λn=>F_gm n p e) (a,(j:Int)) d/\
    (d=.cont (repS k a e)\/(256<(repS k a e).length/\d=.done (.done (.done (repS k a e))))):=by
  intro p e g y j k
  induction k generalizing j with
  |zero=>
   intro a f _;refine⟨_,Ej (b:=.cont a) ?_,.inl rfl⟩;unfold F_gm;have:¬((j:Int)<if p.Laps<1 then 1 else p.Laps):=by
    rcases g with h|⟨h,P⟩
    .rw[h]at f⊢;simp at f⊢;omega
    .rw[Yd h]at f;simp at f;rw[Vu (by omega)];omega
   rw[Q9 this];exact Qa _
  |succ k L=>
   intro a f F;have s:((j:Int)<if p.Laps<1 then 1 else p.Laps):=by
    rcases g with h|⟨h,P⟩
    .rw[h]at f⊢;simp at f⊢;omega
    .rw[Yd h]at f;simp at f;rw[Vu (by omega)];omega
   have T:j<=64:=by
    rcases g with h|⟨h,P⟩
    .rw[h]at f;simp at f;omega
    .rw[Yd h]at f;simp at f;omega
   by_cases t:256<a.length
   .refine⟨_,Ej (b:=.done (.done (.done a))) ?_,.inr ⟨by rw[QcV t];exact t,by rw[QcV t]⟩⟩;unfold F_gm;rw[Yd s,Yd (show(256:Int)<(a.length:Int)by omega)];exact Qa _
   .obtain⟨d,w,z⟩:=L (j+1) (a++e) (by omega) (by rw[X5];omega);refine⟨d,Ex ?_ w,by rw[repS,Vu t];exact z⟩;unfold F_gm;rw[Yd s,Q9 (show¬(256:Int)<(a.length:Int)by omega)];refine Qk8 (QP (JK (Qdf a e (by omega)) ?_));rw[Q8 (by omega)];exact Qa _
 have loop:∀(r:List Part) (i:Nat) (a:List Int),l.drop i=r->i<=l.length->a.length<=100000->
   ∃d:Ctl (List Int) (List Int),EvI (λn=>F_hl n l (F_x n)) (a,(i:Int)) d/\(d=.cont (expS a r)\/d=.done (expS a r)):=by
  intro r
  induction r with
  |nil=>
   intro i a M Q _;refine⟨.cont a,Ej ?_,.inl (by rw[expS])⟩;unfold F_hl;simp only[QX M Q,Vs];exact Qa _
  |cons p r J=>
   intro i a M Q F;obtain⟨q,N⟩:=Qt (by omega) M;have s:=q.lt';have V:=Jl q.mem;obtain⟨w1,w2⟩:=Yo (hw p q.mem);have g:=O p q.mem;rw[QbU]at g;have u:p.Laps=0\/0<p.Laps/\p.Laps<=64:=by
    cases R:(p.Laps==0)with
    |true=>exact .inl (by simpa using R)
    |false=>
     rw[R]at g;simp only[Vs,inR,XY,Vt]at g;exact .inr ⟨by omega,by omega⟩
   have X:=Qir p;have t:Ev (λn=>((bif decide (0<p.Laps)then(F_x n p.Parts).bind λH=>some H else some [p.Mat]):Option (List Int))) (lapS p):=by
    rw[Qcc];refine QbI (λh=>?_) (λ_=>Qa _);rw[YT]at V;refine Ea (ih (szPs p.Parts) (by omega) p.Parts (XV _) (by omega) w1 w2 ?_) (Qa _);have:(p.Laps==0)=false:=by
     simp only[Vt]at h;exact beq_false_of_ne (by omega)
    rw[this]at g;simp only[Vs,XY]at g;exact g.2.2.2
   obtain⟨d,w,z⟩:=inner p (lapS p) u (by omega) 0 _ a (Xx _) (by omega);rw[expS];rcases z with rfl|⟨E,rfl⟩
   .obtain⟨B,W,q2⟩:=J (i+1) (repS (p.Laps.toNat+(bif decide (0<p.Laps)then 0 else 1)) a (lapS p)) N (by omega) (by
     have:=QcU (p.Laps.toNat+(bif decide (0<p.Laps)then 0 else 1)) a (lapS p);omega)
    refine⟨B,Ex ?_ W,q2⟩;unfold F_hl;simp only[q.lt,Vr,q.ix,XL,q.nx];exact Ea t (Ea w.ev (Qa _))
   .refine⟨.done (repS (p.Laps.toNat+(bif decide (0<p.Laps)then 0 else 1)) a (lapS p)),Ej ?_,.inr (by rw[Qfv r E])⟩;unfold F_hl;simp only[q.lt,Vr,q.ix,XL,q.nx];exact Ea t (Ea w.ev (Qa _))
 obtain⟨d,w,z⟩:=loop l 0 [] rfl (XW _) (by simp);rcases z with rfl|rfl
 .exact Ea w.ev (Qa _)
 .exact Ea w.ev (Qa _)
theorem QhD(N:Int):∀(m:Nat) (l:List Part),szPs l<=m->szPs l<=256->l.length<=1048576->(∀x∈l,Part.wf x)->partsS N l=true->Ev (λn=>F_z n l) (expS [] l):=by
 intro m
 induction m using Nat.strongRecOn with
 |_ m T=>
 intro l W s V R E;rw[Qbc,Xu]at E;refine Yb ?_;show Ev (λn=>B_z (F_z n) n l) _;unfold B_z;have inner:∀(p:Part) (i:Nat) (d:At l i p) (H:List Int) (e:List Int) (f:0<p.Laps/\p.Laps<=64) (g:e.length<=100000) (j:Nat) (k:Nat) (a:List Int),j+k=p.Laps.toNat->a.length<=200000->
   EvI (λn=>F_he n l (H,(i:Int)) e) (a,(j:Int)) (repS k a e):=by
  intro p i d H e f g j k
  induction k generalizing j with
  |zero=>
   intro a O _;refine Ej ?_;unfold F_he;simp only[d.ix,XL];rw[Q9 (show¬(j:Int)<p.Laps by omega)];exact Qa _
  |succ k y=>
   intro a O q;by_cases h:256<a.length
   .refine Ej ?_;rw[QcV h];unfold F_he;simp only[d.ix,XL];rw[Yd (show(j:Int)<p.Laps by omega),Q9 (show¬(a.length:Int)<=256 by omega)];exact Qa _
   .rw[repS,Vu h];refine Ex ?_ (y (j+1) (a++e) (by omega) (by rw[X5];omega));unfold F_he;simp only[d.ix,XL];rw[Yd (show(j:Int)<p.Laps by omega),Yd (show(a.length:Int)<=256 by omega)];simp only[Vr,XL];refine JK (Qdf a e (by omega)) ?_;rw[Q8 (by omega)];exact Qa _
 have loop:∀(r:List Part) (i:Nat) (a:List Int),l.drop i=r->i<=l.length->a.length<=100000->
   EvI (λn=>F_gf n l (F_z n)) (a,(i:Int)) (expS a r):=by
  intro r
  induction r with
  |nil=>
   intro i a z F _;refine Ej ?_;rw[expS];unfold F_gf;simp only[QX z F,Vs,XL];exact Qa _
  |cons p r w=>
   intro i a z F q;obtain⟨d,B⟩:=Qt (by omega) z;have L:=d.lt';have M:=Jl d.mem;by_cases h:256<a.length
   .rw[Qfv _ h];refine Ej ?_;unfold F_gf;simp only[d.lt,Vr,Q9 (show¬(a.length:Int)<=256 by omega),XL,Vs];exact Qa _
   obtain⟨P,Q⟩:=Yo (R p d.mem);have f:=E p d.mem;rw[QbU]at f;have t:=Qir p;rw[expS];refine Ex ?_ (w (i+1) _ B (by omega) (by
    have:=QcU (p.Laps.toNat+(bif decide (0<p.Laps)then 0 else 1)) a (lapS p);omega))
   unfold F_gf;simp only[d.lt,Vr,Yd (show(a.length:Int)<=256 by omega),XL,d.ix,d.nx];cases G:(p.Laps==0)with
   |true=>
    have J:p.Laps=0:=by simpa using G
    simp only[Vr];refine Ea (JK (Qdf a [p.Mat] (by simp;omega)) (Qa _)) ((Qa _).eq ?_);rw[Qcc,J];simp[repS,h]
   |false=>
    rw[G]at f;simp only[Vs,XY,inR,Vt]at f;have b:0<p.Laps/\p.Laps<=64:=⟨by omega,by omega⟩;simp only[Vs];rw[YT]at M;refine Ea (Ea (T (szPs p.Parts) (by omega) p.Parts (XV _) (by omega) P Q f.2.2.2) (Ea ?_ (Qa _))) (Qa _);have u:=Qcc p;rw[Yd b.1,Vr]at u;have:=(inner p i d a (expS [] p.Parts) b (by rw[<- u];rw[YT]at t;omega) 0 p.Laps.toNat a (by omega) (by omega)).ev;rw[<- u]at this⊢;rw[Yd b.1];exact this
 exact Ea (loop l 0 [] rfl (XW _) (by simp)).ev (Qa _)
def kindAt(c:Course)(m:Int):Int:=((c.Mats[m.toNat]?).map (·.Kind)).getD 0
def hasLeg(c:Course)(a b:Int):Bool:=c.Legs.any λl=>(l.From==a)&&(l.To==b)
def rokS(c:Course)(len:Nat):Nat->Int->List Int->Bool
 |_,_,[]=>true
 |i,prev,m::r=>((kindAt c m==1)==decide (i=0))&&(((kindAt c m==3)==decide (i+1=len))&&((decide (i=0)||hasLeg c prev m)&&rokS c len (i+1) m r))
def routeR(c:Course)(d:Distance)(r:List Int):Bool:=
 (decide (2<=r.length)&&decide (r.length<=256))&&(rokS c r.length 0 0 r&&((bif decide (0<=d.Extra)then !((r.count d.Extra:Int)==0)&&((kindAt c d.Extra==2)&&hasLeg c d.Extra d.Extra)else true)&&d.Cutoffs.all λx=>decide (x.Lap<=(r.count x.Mat:Int))))
def routeS(c:Course)(d:Distance):Bool:=routeR c d (expS [] d.Route)
def cntM(l:List Int):List (Int×Int):=l.foldl (λm k=>Q5 m k (Qx m k 0+1)) []
theorem QlK(l:List Int)(k:Int):cntM (l++[k])=Q5 (cntM l) k (Qx (cntM l) k 0+1):=by unfold cntM;rw[XE];rfl
theorem QfL(l:List Int)(k:Int):Qx (cntM l) k 0=(l.count k:Int):=by
 have a:∀(l:List Int) (m:List (Int×Int)),Qx (l.foldl (λm k=>Q5 m k (Qx m k 0+1)) m) k 0=Qx m k 0+(l.count k:Int):=by
  intro l
  induction l with
  |nil=>intro m;simp
  |cons x l b=>
   intro m;rw[XF,b,QcC,List.count_cons];by_cases h:k=x
   .subst h;simp;omega
   .have:(x==k)=false:=beq_false_of_ne λe=>h e.symm;simp[h,this]
 have:=a l [];simpa[cntM,Qgu]using this
theorem QjM(b:Int):∀(m:Nat) (l:List Part) (a:List Int),szPs l<=m->partsS b l=true->(∀x∈a,0<=x/\x<=b)->∀x∈expS a l,0<=x/\x<=b:=by
 intro m
 induction m using Nat.strongRecOn with
 |_ m B=>
 intro l;have t:∀(k:Nat) (a d:List Int),(∀x∈a,0<=x/\x<=b)->(∀x∈d,0<=x/\x<=b)->∀x∈repS k a d,0<=x/\x<=b:=by
  intro k
  induction k with
  |zero=>intro a d i _;rw[repS];exact i
  |succ k q=>
   intro a d i w;rw[repS];split
   .exact i
   .refine q _ _ ?_ w;intro x g;rcases VF.1 g with h|h
    .exact i x h
    .exact w x h
 have n:∀(r:List Part) (a:List Int),szPs r<=m->partsS b r=true->(∀x∈a,0<=x/\x<=b)->∀x∈expS a r,0<=x/\x<=b:=by
  intro r
  induction r with
  |nil=>intro a _ _ h;rw[expS];exact h
  |cons p r j=>
   intro a s f h;rw[szPs,YT]at s;rw[partsS,XY]at f;obtain⟨e,z⟩:=f;rw[expS];refine j _ (by omega) z (t _ _ _ h ?_);rw[Qcc];rw[QbU]at e;cases u:(p.Laps==0)with
   |true=>
    have y:p.Laps=0:=by simpa using u
    rw[u,Vr,XY]at e;have:=e.1;unfold inR at this;simp only[XY,Vt]at this;rw[y];intro x g;simp at g;subst g;exact this
   |false=>
    rw[u]at e;simp only[Vs,XY,inR,Vt]at e;rw[Yd (show 0<p.Laps by omega),Vr];exact B (szPs p.Parts) (by omega) p.Parts [] (XV _) e.2.2.2 (by simp)
 exact λa s f h=>n l a s f h
theorem Qc0{c:Course}{m:Int}(h0:0<=m)(b:m<=(c.Mats.length:Int)-1):∃x:Mat,idx c.Mats m=some x/\x.Kind=kindAt c m:=by
 obtain⟨k,rfl⟩:∃k:Nat,m=(k:Int):=⟨m.toNat,by omega⟩;have a:k<c.Mats.length:=by omega
 refine⟨c.Mats[k],YR (XM a),?_⟩;unfold kindAt;rw[Int.toNat_natCast,XM a];rfl
theorem Qiq(c:Course)(a b:Int):Qx (Q3 legKey true c.Legs) {from_:=a,to_:=b} false=hasLeg c a b:=by
 rw[Qaq];unfold hasLeg;by_cases h:({from_:=a,to_:=b}:Ue)∈c.Legs.map legKey
 .rw[Vv h];obtain⟨l,d,e⟩:=Xf.1 h;unfold legKey at e;obtain⟨f,g⟩:=ends_eq.1 e;exact(Xv.2 ⟨l,d,by simp[f,g]⟩).symm
 .rw[Vu h]
  symm
  rw[VO];intro q;obtain⟨l,d,e⟩:=Xv.1 q;simp only[XY,VA]at e;exact h (Xf.2 ⟨l,d,by unfold legKey;rw[e.1,e.2]⟩)
theorem Qno(c:Course)(w:CourseOk c)(a b:Int):∃v:Int,Ev (λn=>F_am n c a b) v/\decide (v<0)= !hasLeg c a b:=by
 unfold F_am;have u:c.Legs.length<=4611686018427387904:=by have:=w.legs;omega
 have step:∀i x,At c.Legs i x->Ev (λn:Nat=>F_fb n c a b (i:Int)) (bif (x.From==a)&&(x.To==b)then .done (.done (i:Int))else .cont ((i+1:Nat):Int)):=by
  intro i x e;unfold F_fb;simp only[e.lt,Vr,e.ix,XL,e.nx];refine Ea (Ei λ_=>Qa _) ?_;cases((x.From==a)&&(x.To==b))<;>exact Qa _
 have loop:∀(r:List Leg) (i:Nat),c.Legs.drop i=r->i<=c.Legs.length->∃d:Ctl Unit Int,EvI (λn=>F_fb n c a b) (i:Int) d/\((r.any λl=>(l.From==a)&&(l.To==b))=true->∃j:Nat,d=.done (j:Int))/\((r.any λl=>(l.From==a)&&(l.To==b))=false->d=.cont ()):=by
  intro r
  induction r with
  |nil=>
   intro i g p;refine⟨.cont (),Ej ?_,λh=>(by simp at h),λ_=>rfl⟩;unfold F_fb;simp only[QX g p,Vs];exact Qa _
  |cons x r q=>
   intro i g p;obtain⟨e,k⟩:=Qt u g;have s:=step i x e;rw[List.any_cons];cases h:((x.From==a)&&(x.To==b))with
   |true=>
    rw[h]at s;exact⟨.done (i:Int),Ej s,λ_=>⟨i,rfl⟩,λh=>by simp at h⟩
   |false=>
    rw[h]at s;obtain⟨d,f,m⟩:=q (i+1) k (by have:=e.lt';omega);exact⟨d,Ex s f,by simpa using m⟩
 obtain⟨d,f,m,t⟩:=loop c.Legs 0 rfl (XW _);unfold hasLeg;cases h:c.Legs.any λl=>(l.From==a)&&(l.To==b)with
 |true=>
  obtain⟨j,rfl⟩:=m h;exact⟨(j:Int),Ea f.ev (Qa _),by simp⟩
 |false=>
  obtain rfl:=t h;exact⟨-1,Ea f.ev (Qa _),by simp⟩
theorem QiR(l:List Int)(k:Int)(hl:l.length<=1048576):Ev (λn=>F_ao n l k) (l.count k:Int):=by
 unfold F_ao;have loop:∀(r:List Int) (i:Nat) (a:Nat),l.drop i=r->i<=l.length->a<=i->EvI (λn=>F_gg n l k) ((a:Int),(i:Int)) ((a+r.count k:Nat):Int):=by
  intro r
  induction r with
  |nil=>
   intro i a e f _;refine Ej ?_;unfold F_gg;simp only[QX e f,Vs];exact Qa _
  |cons x r g=>
   intro i a e f p;obtain⟨b,d⟩:=Qt (by omega) e;have m:=b.lt';have j:IntKind.i64.wrap ((a:Int)+1)=((a+1:Nat):Int):=Q8 (by omega);rw[List.count_cons];cases h:(x==k)with
   |true=>
    refine(Ex ?_ (g (i+1) (a+1) d (by omega) (by omega))).eq ?_
    .unfold F_gg;simp only[b.lt,Vr,b.ix,XL,b.nx,h,j];exact Qa _
    .simp;omega
   |false=>
    refine(Ex ?_ (g (i+1) a d (by omega) (by omega))).eq ?_
    .unfold F_gg;simp only[b.lt,Vr,b.ix,XL,b.nx,h,Vs];exact Qa _
    .simp
 exact Ea ((loop l 0 0 rfl (XW _) (XV _)).ev) ((Qa _).eq (by omega))
structure NumOk (c:Course):Prop where
 kinds:∀m∈c.Mats,1<=m.Kind/\m.Kind<=3
 dist:∀d∈c.Distances,-1<=d.Extra/\d.Extra<=(c.Mats.length:Int)-1/\partsS ((c.Mats.length:Int)-1) d.Route=true
theorem Qjm{c:Course}(h:numbersS c=true):NumOk c:=by
 unfold numbersS at h;simp only[XY,Xu]at h;refine⟨λm e=>?_,λd b=>?_⟩
 .have:=h.1 m e;unfold inR at this;simpa using this
 .have:=h.2.2.2.1 d b;unfold distS at this;simp only[XY]at this;obtain⟨_,a,f,_⟩:=this;unfold inR at a;simp only[XY,Vt]at a;exact⟨a.1,a.2,f⟩
theorem Qlq{c:Course}(q:NumOk c){m:Int}(h0:0<=m)(d:m<=(c.Mats.length:Int)-1):1<=kindAt c m/\kindAt c m<=3:=by
 obtain⟨x,b,a⟩:=Qc0 h0 d;have:x∈c.Mats:=by
  obtain⟨_,e⟩:=Qav b;exact VJ e
 rw[<- a];exact q.kinds x this
theorem Qng{c:Course}(q:NumOk c){d:Distance}(hd:d∈c.Distances):∀x∈expS [] d.Route,0<=x/\x<=(c.Mats.length:Int)-1:=
 QjM _ _ d.Route [] (XV _) (q.dist d hd).2.2 (by simp)
theorem Qii(c:Course)(len i:Nat)(prev m:Int)(r:List Int):rokS c len i prev (m::r)=(((kindAt c m==1)==decide (i=0))&&(((kindAt c m==3)==decide (i+1=len))&&((decide (i=0)||hasLeg c prev m)&&rokS c len (i+1) m r))):=rfl
theorem QkG(i:Nat):((i:Int)==0)=decide (i=0):=by
 rw[X0];simp
theorem Qf7(c:Course)(r:List Int)(E:2<=r.length)(R:r.length<=256)(y:∀x∈r,0<=x/\x<=(c.Mats.length:Int)-1):
  Ev (λn=>iter (F_bu n c (Q3 legKey true c.Legs) r) n ([],0)) (bif rokS c r.length 0 0 r then .cont (cntM r)else .done false):=by
 have loop:∀(t:List Int) (i:Nat) (b:Int),r.drop i=t->i<=r.length->(0<i->At r (i-1) b)->EvI (λn=>F_bu n c (Q3 legKey true c.Legs) r) (cntM (r.take i),(i:Int)) (bif rokS c r.length i b t then .cont (cntM r)else .done false):=by
  intro t
  induction t with
  |nil=>
   intro i b f s _;refine Ej ?_;unfold F_bu;simp only[QX f s,Vs,rokS,Vr];have:r.length<=i:=by simpa using f
   rw[VK this];exact Qa _
  |cons m t P=>
   intro i b f s F;obtain⟨d,j⟩:=Qt (by omega) f;have u:=d.lt';obtain⟨L,Q⟩:=y m d.mem;obtain⟨x,H,M⟩:=Qc0 L Q;have O:IntKind.i64.wrap ((r.length:Int)-1)=((r.length-1:Nat):Int):=by rw[QJ (by omega) (by omega)];omega
   have N:((i:Int)==((r.length-1:Nat):Int))=decide (i+1=r.length):=by rw[X0];simp;omega
   have G:Ev (λn:Nat=>((bif ((x.Kind==1) != ((i:Int)==0))then some true else(bif ((x.Kind==3) != ((i:Int)==(IntKind.i64.wrap ((r.length:Int)-1))))then some true else(bif decide (0<(i:Int))then(idx r (IntKind.i64.wrap ((i:Int)-1))).bind λg=>(some (Qx (Q3 legKey true c.Legs) ({from_:=g,to_:=m:Ue}) false)).bind λp=>some (!p)else some false))):Option Bool))
     (!(((kindAt c m==1)==decide (i=0))&&(((kindAt c m==3)==decide (i+1=r.length))&&(decide (i=0)||hasLeg c b m)))):=by
    rw[M,O,N,QkG];refine Ew (Eu λ_=>Eu λ_=>QbI (v:= !hasLeg c b m) (w:=false) (λh=>?_) λ_=>Qa _) ?_
    .have k:0<i:=by simpa using h
     have z:IntKind.i64.wrap ((i:Int)-1)=((i-1:Nat):Int):=by rw[QJ (by omega) (by omega)];omega
     rw[z,(F k).ix];simp only[XL,Qiq];exact Qa _
    .have J:decide (0<(i:Int))= !decide (i=0):=by rw[X0];simp;omega
     rw[J];cases(kindAt c m==1)<;>cases decide (i=0)<;>cases(kindAt c m==3)<;>cases decide (i+1=r.length)<;>cases hasLeg c b m<;>rfl
   have e:IntKind.i64.wrap (Qx (cntM (r.take i)) m 0+1)=Qx (cntM (r.take i)) m 0+1:=by
    rw[QfL];have:(r.take i).count m<=i:=by have:=List.count_le_length (a:=m) (l:=r.take i);simp at this;omega
    exact QJ (by omega) (by omega)
   have step:Ev (λn=>F_bu n c (Q3 legKey true c.Legs) r (cntM (r.take i),(i:Int))) (bif ((kindAt c m==1)==decide (i=0))&&(((kindAt c m==3)==decide (i+1=r.length))&&(decide (i=0)||hasLeg c b m))then .cont (cntM (r.take (i+1)),((i+1:Nat):Int))else .done (.done false)):=by
    unfold F_bu;simp only[d.lt,Vr,d.ix,XL,d.nx,H];refine Ea G ?_;rw[e, <- QlK, <- d.take];cases(((kindAt c m==1)==decide (i=0))&&(((kindAt c m==3)==decide (i+1=r.length))&&(decide (i=0)||hasLeg c b m)))<;>exact Qa _
   have B:rokS c r.length i b (m::t)=((((kindAt c m==1)==decide (i=0))&&(((kindAt c m==3)==decide (i+1=r.length))&&(decide (i=0)||hasLeg c b m)))&&rokS c r.length (i+1) m t):=by rw[Qii];simp only[Bool.and_assoc]
   rw[B];cases q:(((kindAt c m==1)==decide (i=0))&&(((kindAt c m==3)==decide (i+1=r.length))&&(decide (i=0)||hasLeg c b m)))with
   |false=>
    rw[q]at step;exact Ej step
   |true=>
    rw[q]at step;rw[VC];exact Ex step (P (i+1) m j (by omega) (λ_=>by simpa using d))
 exact(loop r 0 0 rfl (XW _) (by omega)).ev
theorem Qj0(c:Course)(w:CourseOk c)(q:NumOk c)(d:Distance)(b:d∈c.Distances)(p:∀x∈d.Route,Part.wf x)(t:szPs d.Route<=256):
  Ev (λn=>F_dw n c d (Q3 legKey true c.Legs)) (routeS c d):=by
 have i:=Y6 d.Route;have j:=Qng q b;have a:=Qfu _ d.Route [] (XV _);unfold F_dw routeS;refine Ea (QlB _ _ d.Route (XV _) t (by omega) p (q.dist d b).2.2) ?_;generalize expS [] d.Route=r at j a⊢;unfold routeR;have u:IntKind.i64.wrap ((r.length:Int)-1)=(r.length:Int)-1:=by
  have:r.length<=1048576:=by simp at a;omega
  exact QaL this
 rw[u];have k:(decide ((r.length:Int)-1<1)||decide (256<=(r.length:Int)-1))= !(decide (2<=r.length)&&decide (r.length<=256)):=by
  rw[X0];simp;omega
 refine Ea (Ew (Eu λ_=>Qa _) k) ?_;cases g:(decide (2<=r.length)&&decide (r.length<=256))with
 |false=>exact Qa _
 |true=>
  simp only[XY,Vt]at g;rw[VC];refine QP (Ea (Qf7 c r g.1 g.2 j) ?_);cases rokS c r.length 0 0 r with
  |false=>exact Qa _
  |true=>
   simp only[Vr,VC];have s:Ev (λn:Nat=>((bif decide (0<=d.Extra)then(some (Qx (cntM r) d.Extra 0)).bind λe=>(bif (e==0)then some true else(idx c.Mats d.Extra).bind λf=>(bif (f.Kind != 2)then some true else(some (Qx (Q3 legKey true c.Legs) ({from_:=d.Extra,to_:=d.Extra:Ue}) false)).bind λh=>some (!h)))else some false):Option Bool))
     (!(bif decide (0<=d.Extra)then !((r.count d.Extra:Int)==0)&&((kindAt c d.Extra==2)&&hasLeg c d.Extra d.Extra)else true)):=by
    rw[QfL];cases z:decide (0<=d.Extra)with
    |false=>exact Qa _
    |true=>
     obtain⟨x,l,y⟩:=Qc0 (c:=c) (m:=d.Extra) (by simpa using z) (q.dist d b).2.1;simp only[Vr,XL,l,Qiq,y];refine Ew (Eu λ_=>Eu λ_=>Qa _) ?_;rw[bne];cases((r.count d.Extra:Int)==0)<;>cases(kindAt c d.Extra==2)<;>cases hasLeg c d.Extra d.Extra<;>rfl
   refine Ea s ?_;cases(bif decide (0<=d.Extra)then !((r.count d.Extra:Int)==0)&&((kindAt c d.Extra==2)&&hasLeg c d.Extra d.Extra)else true)with
   |false=>exact Qa _
   |true=>
    rw[VC];refine QP (Ea ?_ (Qa _));unfold F_fv F_fp F_eb;refine Jp d.Cutoffs _ (λn x=>F_bx n x (cntM r)) (by have:=w.cut d b;omega) λx _=>?_;unfold F_bx;rw[QfL];exact Qa _
theorem Qfy(c:Course)(w:CourseOk c)(q:NumOk c)(r:List Int)(J:2<=r.length)(W:r.length<=256)(F:∀x∈r,0<=x/\x<=(c.Mats.length:Int)-1):
  Ev (λn=>iter (F_by n c r) n 0) (bif rokS c r.length 0 0 r then .cont ()else .done false):=by
 have loop:∀(t:List Int) (i:Nat) (a:Int),r.drop i=t->i<=r.length->(0<i->At r (i-1) a)->EvI (λn=>F_by n c r) (i:Int) (bif rokS c r.length i a t then .cont ()else .done false):=by
  intro t
  induction t with
  |nil=>
   intro i a l u _;refine Ej ?_;unfold F_by;simp only[QX l u,Vs,rokS,Vr];exact Qa _
  |cons m t T=>
   intro i a l u L;obtain⟨e,k⟩:=Qt (by omega) l;have B:=e.lt';obtain⟨y,z⟩:=F m e.mem;obtain⟨x,M,P⟩:=Qc0 y z;have V:=Qlq q y z;have R:IntKind.i64.wrap ((r.length:Int)-1)=((r.length-1:Nat):Int):=by rw[QJ (by omega) (by omega)];omega
   have Q:((i:Int)==((r.length-1:Nat):Int))=decide (i+1=r.length):=by rw[X0];simp;omega
   have step:Ev (λn=>F_by n c r (i:Int)) (bif ((kindAt c m==1)==decide (i=0))&&(((kindAt c m==3)==decide (i+1=r.length))&&(decide (i=0)||hasLeg c a m))then .cont ((i+1:Nat):Int)else .done (.done false)):=by
    unfold F_by;simp only[e.lt,Vr,e.ix,XL,e.nx,M,P,R,Q,QkG];refine Ea (v:=if i=0 then 1 else if i+1=r.length then 3 else 2) (EA ?_) ?_
    .by_cases d:i=0
     .simp[d]
     .by_cases f:i+1=r.length
      .simp[d,f]
      .simp[d,f]
    refine Ea (v:= !(((kindAt c m==1)==decide (i=0))&&(((kindAt c m==3)==decide (i+1=r.length))&&(decide (i=0)||hasLeg c a m)))) ?_ ?_
    .have E:Ev (λn:Nat=>(bif decide (0<(i:Int))then(idx r (IntKind.i64.wrap ((i:Int)-1))).bind λj=>(F_am n c j m).bind λh=>some (decide (h<0))else some false:Option Bool)) (!(decide (i=0)||hasLeg c a m)):=by
      by_cases d:i=0
      .subst d;exact Qa _
      .have G:IntKind.i64.wrap ((i:Int)-1)=((i-1:Nat):Int):=by rw[QJ (by omega) (by omega)];omega
       obtain⟨v,O,N⟩:=Qno c w a m;rw[Yd (show(0:Int)<(i:Int)by omega),G,(L (by omega)).ix,Q9 d];simp only[Vr,XL];exact Ea O ((Qa _).eq (by rw[N];rfl))
     refine Ew (Eu λ_=>E) ?_;have p:(kindAt c m != if i=0 then 1 else if i+1=r.length then 3 else 2)= !(((kindAt c m==1)==decide (i=0))&&((kindAt c m==3)==decide (i+1=r.length))):=by
      have b:kindAt c m=1\/kindAt c m=2\/kindAt c m=3:=by omega
      by_cases d:i=0
      .have f:¬i+1=r.length:=by omega
       rcases b with g|g|g<;>simp[g,d,show¬1=r.length by omega]
      .by_cases f:i+1=r.length
       .rcases b with g|g|g<;>simp[g,d,f]
       .rcases b with g|g|g<;>simp[g,d,f]
     rw[p];cases((kindAt c m==1)==decide (i=0))<;>cases((kindAt c m==3)==decide (i+1=r.length))<;>cases(decide (i=0)||hasLeg c a m)<;>rfl
    .cases(((kindAt c m==1)==decide (i=0))&&(((kindAt c m==3)==decide (i+1=r.length))&&(decide (i=0)||hasLeg c a m)))<;>exact Qa _
   have H:rokS c r.length i a (m::t)=((((kindAt c m==1)==decide (i=0))&&(((kindAt c m==3)==decide (i+1=r.length))&&(decide (i=0)||hasLeg c a m)))&&rokS c r.length (i+1) m t):=by rw[Qii];simp only[Bool.and_assoc]
   rw[H];cases s:(((kindAt c m==1)==decide (i=0))&&(((kindAt c m==3)==decide (i+1=r.length))&&(decide (i=0)||hasLeg c a m)))with
   |false=>
    rw[s]at step;exact Ej step
   |true=>
    rw[s]at step;rw[VC];exact Ex step (T (i+1) m k (by omega) (λ_=>by simpa using e))
 exact(loop r 0 0 rfl (XW _) (by omega)).ev
theorem QiO(c:Course)(w:CourseOk c)(q:NumOk c)(d:Distance)(a:d∈c.Distances)(E:∀x∈d.Route,Part.wf x)(t:szPs d.Route<=256):
  Ev (λn=>F_ca n c d) (routeS c d):=by
 have p:=Y6 d.Route;have l:=Qng q a;have e:=Qfu _ d.Route [] (XV _);unfold F_ca routeS;refine Ea (QhD _ _ d.Route (XV _) t (by omega) E (q.dist d a).2.2) ?_;generalize expS [] d.Route=r at l e⊢;unfold routeR;have s:(decide ((r.length:Int)<2)||decide (256<(r.length:Int)))= !(decide (2<=r.length)&&decide (r.length<=256)):=by
  rw[X0];simp;omega
 refine Ea (Ew (Eu λ_=>Qa _) s) ?_;cases j:(decide (2<=r.length)&&decide (r.length<=256))with
 |false=>exact Qa _
 |true=>
  simp only[XY,Vt]at j;rw[VC];refine QP (Ea (Qfy c w q r j.1 j.2 l) ?_);cases rokS c r.length 0 0 r with
  |false=>exact Qa _
  |true=>
   simp only[Vr,VC];have F:Ev (λn:Nat=>((bif (d.Extra != (-1))then(idx c.Mats d.Extra).bind λb=>(bif (b.Kind != 2)then some true else(F_ao n r d.Extra).bind λk=>(bif (k==0)then some true else(F_am n c d.Extra d.Extra).bind λf=>some (decide (f<0))))else some false):Option Bool))
     (!(bif decide (0<=d.Extra)then !((r.count d.Extra:Int)==0)&&((kindAt c d.Extra==2)&&hasLeg c d.Extra d.Extra)else true)):=by
    have h:=q.dist d a;have G:(d.Extra != (-1))=decide (0<=d.Extra):=by rw[X0];simp;omega
    rw[G];cases u:decide (0<=d.Extra)with
    |false=>exact Qa _
    |true=>
     obtain⟨x,B,y⟩:=Qc0 (c:=c) (m:=d.Extra) (by simpa using u) h.2.1;obtain⟨v,z,H⟩:=Qno c w d.Extra d.Extra;simp only[Vr,XL,B,y];refine Ew (Eu λ_=>Ea (QiR r _ (by omega)) (Eu λ_=>Ea z (Qa _))) ?_;rw[bne,H];cases((r.count d.Extra:Int)==0)<;>cases(kindAt c d.Extra==2)<;>cases hasLeg c d.Extra d.Extra<;>rfl
   refine Ea F ?_;cases(bif decide (0<=d.Extra)then !((r.count d.Extra:Int)==0)&&((kindAt c d.Extra==2)&&hasLeg c d.Extra d.Extra)else true)with
   |false=>exact Qa _
   |true=>
    rw[VC];refine QP (Ea (Yx d.Cutoffs (λx=>decide (x.Lap<=(r.count x.Mat:Int))) (Ctl.done false) (Ctl.cont ()) (by have:=w.cut d a;omega) (λi x g=>?_) ?_) ?_)
    .unfold F_iu;simp only[g.lt,Vr,g.ix,XL,g.nx];refine Ea (QiR r _ (by omega)) ?_;have:decide ((r.count x.Mat:Int)<x.Lap)= !decide (x.Lap<=(r.count x.Mat:Int)):=by rw[X0];simp
     rw[this];cases decide (x.Lap<=(r.count x.Mat:Int))<;>exact Qa _
    .unfold F_iu;simp only[YU,Vs];exact Qa _
    .cases(d.Cutoffs.all λx=>decide (x.Lap<=(r.count x.Mat:Int)))<;>exact Qa _
def lensC(c:Course):Nat:=c.Mats.length+c.Legs.length+c.Distances.length+c.Waves.length+c.Offences.length+c.Categories.length+c.Prizes.length
def fewD(d:Distance):Prop:=d.Cutoffs.length<=200/\szPs d.Route<=200/\hPs d.Route<=16
structure FewOk (c:Course):Prop where
 lens:lensC c<=200
 name:c.Name.length<=100
 dist:∀d∈c.Distances,fewD d
 ties:c.Ties.length<=200
def fitsS(c:Course):Bool:=
 !(decide (40<(c.Mats.length:Int))||(decide (512<(c.Legs.length:Int))||(decide (8<(c.Distances.length:Int))||(decide (32<(c.Waves.length:Int))||(decide (32<(c.Offences.length:Int))||(decide (32<(c.Categories.length:Int))||decide (32<(c.Prizes.length:Int))))))))
  &&c.Distances.all λd=> !decide (64<(d.Cutoffs.length:Int))
theorem QoC(c:Course)(w:CourseOk c)(q:PartsOk c)(k:FewOk c):Ev (λn=>F_ba n c) (fitsS c):=by
 unfold F_ba fitsS;refine Ea (Eu λ_=>Eu λ_=>Eu λ_=>Eu λ_=>Eu λ_=>Eu λ_=>Qa _) ?_;cases(decide (40<(c.Mats.length:Int))||(decide (512<(c.Legs.length:Int))||(decide (8<(c.Distances.length:Int))||(decide (32<(c.Waves.length:Int))||(decide (32<(c.Offences.length:Int))||(decide (32<(c.Categories.length:Int))||decide (32<(c.Prizes.length:Int))))))))with
 |true=>exact Qa _
 |false=>
  rw[Xi,VC];refine QP (Ea (Yx c.Distances (λd=> !decide (64<(d.Cutoffs.length:Int))) (Ctl.done false) (Ctl.cont ()) (by have:=w.dist;omega) (λi x a=>?_) ?_) ?_)
  .obtain⟨f,b,e⟩:=k.dist x a.mem;unfold F_hn;simp only[a.lt,Vr,a.ix,XL,a.nx];refine Ea (Qnl _ x.Route 17 (XV _) (by omega) (XV _) (by omega) (q.wf x a.mem)) ?_;refine Ea (Eu λ_=>Eu λ_=>Qa _) ?_;simp only[Q9 (show¬(16:Int)<(hPs x.Route:Int)by omega),Q9 (show¬(256:Int)<(szPs x.Route:Int)by omega),Bool.or_false];cases decide (64<(x.Cutoffs.length:Int))<;>exact Qa _
  .unfold F_hn;simp only[YU,Vs];exact Qa _
  .cases(c.Distances.all λd=> !decide (64<(d.Cutoffs.length:Int)))<;>exact Qa _
theorem QlD(c:Course)(w:CourseOk c)(q:PartsOk c)(k:FewOk c):Ev (λn=>F_be n c) (fitsS c):=by
 unfold F_be fitsS;refine Ea (Eu λ_=>Eu λ_=>Eu λ_=>Eu λ_=>Eu λ_=>Eu λ_=>Qa _) ?_;cases(decide (40<(c.Mats.length:Int))||(decide (512<(c.Legs.length:Int))||(decide (8<(c.Distances.length:Int))||(decide (32<(c.Waves.length:Int))||(decide (32<(c.Offences.length:Int))||(decide (32<(c.Categories.length:Int))||decide (32<(c.Prizes.length:Int))))))))with
 |true=>exact Qa _
 |false=>
  rw[Xi,VC];refine QP (Ea (Yx c.Distances (λd=> !decide (64<(d.Cutoffs.length:Int))) (Ctl.done false) (Ctl.cont ()) (by have:=w.dist;omega) (λi x b=>?_) ?_) ?_)
  .obtain⟨h,f,g⟩:=k.dist x b.mem;have a:=q.len x b.mem;have e:=q.wf x b.mem;unfold F_em;simp only[b.lt,Vr,b.ix,XL,b.nx];refine Ea (Eu λ_=>Ea (Qeb _ x.Route 17 (XV _) (XV _) a e) (Eu λ_=>Ea (Qec _ x.Route (XV _) a e) (Qa _))) ?_;simp only[Q9 (show¬(16:Int)<((min (hPs x.Route) 17:Nat):Int)by omega),Q9 (show¬(256:Int)<((min (szPs x.Route) 257:Nat):Int)by omega),Bool.or_false];cases decide (64<(x.Cutoffs.length:Int))<;>exact Qa _
  .unfold F_em;simp only[YU,Vs];exact Qa _
  .cases(c.Distances.all λd=> !decide (64<(d.Cutoffs.length:Int)))<;>exact Qa _
def courseE(c:Course):Int:=
 bif fitsS c then bif namesS c then bif numbersS c then bif tiesE c.Ties==0 then bif c.Distances.all (routeS c)then 0 else 72 else tiesE c.Ties else 71 else 70 else 2
theorem QlE(c:Course)(w:CourseOk c)(q:PartsOk c)(k:FewOk c)(hl:c.Ties.length<=1048576)(f:∀x∈c.Ties,Step.wf x):Ev (λn=>F_c n c) (courseE c):=by
 unfold F_c courseE;refine Ea (QoC c w q k) ?_;cases fitsS c with
 |false=>exact Qa _
 |true=>
 refine QP (Ea (QfD c w) ?_);cases namesS c with
 |false=>exact Qa _
 |true=>
 refine QP (Ea (QfC c w q) ?_);cases e:numbersS c with
 |false=>exact Qa _
 |true=>
 refine QP (Ea (QoE c.Ties hl f) ?_);rw[bne];cases(tiesE c.Ties==0)with
 |false=>exact Qa _
 |true=>
 have d:Ev (λn=>iter (F_hq n c) n ([],0)) (Q3 legKey true c.Legs):=by
  refine QaF c.Legs legKey true (by have:=w.legs;omega) (λi x m a=>?_) (λm=>?_)
  .unfold F_hq;simp only[a.lt,Vr,a.ix,XL,a.nx];exact Qa _
  .unfold F_hq;simp only[YU,Vs];exact Qa _
 refine QP (Ea d ?_);have a:Ev (λn=>F_cw n c.Distances c (Q3 legKey true c.Legs)) (c.Distances.all (routeS c)):=by
  unfold F_cw F_fo F_fj;refine Jp c.Distances _ (λn x=>F_cg n x c (Q3 legKey true c.Legs)) (by have:=w.dist;omega) λx b=>?_;unfold F_cg;exact Ea (Qj0 c w (Qjm e) x b (q.wf x b) (by have:=(k.dist x b).2.1;omega)) (Qa _)
 refine Ea a ?_;cases c.Distances.all (routeS c)<;>exact Qa _
theorem QhE(c:Course)(w:CourseOk c)(q:PartsOk c)(k:FewOk c)(hl:c.Ties.length<=1048576)(f:∀x∈c.Ties,Step.wf x):Ev (λn=>F_ak n c) (courseE c):=by
 have a:=k.lens;unfold lensC at a;have d:Short c:=⟨by omega,by omega,by omega,by omega,by omega⟩;unfold F_ak courseE;refine Ea (QlD c w q k) ?_;cases fitsS c with
 |false=>exact Qa _
 |true=>
 refine QP (Ea (QiQ c w d) ?_);cases namesS c with
 |false=>exact Qa _
 |true=>
 refine QP (Ea (QhC c w q) ?_);cases e:numbersS c with
 |false=>exact Qa _
 |true=>
 refine QP (Ea (QjY c.Ties hl f) ?_);rw[bne];cases(tiesE c.Ties==0)with
 |false=>exact Qa _
 |true=>
 refine QP (Ea (Yx c.Distances (routeS c) (Ctl.done 72) (Ctl.cont ()) (by have:=w.dist;omega) (λi x b=>?_) ?_) ?_)
 .unfold F_iz;simp only[b.lt,Vr,b.ix,XL,b.nx];refine Ea (QiO c w (Qjm e) x b.mem (q.wf x b.mem) (by have:=(k.dist x b.mem).2.1;omega)) ?_;cases routeS c x<;>exact Qa _
 .unfold F_iz;simp only[YU,Vs];exact Qa _
 .cases c.Distances.all (routeS c)<;>exact Qa _
theorem Qky{α:Type}(l:List α){a b:Nat}(h:a<=b)(d:b<=l.length):slc l (a:Int) (b:Int)=some ((l.take b).drop a):=by
 unfold slc;rw[Yd (show(0:Int)<=(a:Int)by omega),Yd (show(a:Int)<=(b:Int)by omega),Yd (show(b:Int)<=(l.length:Int)by omega)];simp
theorem Qmt{α:Type}(l:List α){b:Nat}(a:b<=l.length):slc l 0 (b:Int)=some (l.take b):=by
 have:=Qky l (XW b) a;simpa using this
theorem Qh9{α:Type}(l:List α){a:Nat}(b:a<=l.length):slc l (a:Int) (l.length:Int)=some (l.drop a):=by
 have:=Qky l b (XV _);simpa using this
theorem QkX{α:Type}(l m:List α)(h:l.length+m.length<=4294967296):app l m=some (l++m):=by
 unfold app;rw[XU (by unfold Qv;exact h)];rfl
theorem Qib{α:Type}(l:List α){i:Nat}(x:α)(h:i<l.length):Qdx l (i:Int) x=some (l.set i x):=by
 unfold Qdx;rw[Yd (show(0:Int)<=(i:Int)by omega),Yd (show(i:Int)<(l.length:Int)by omega)];simp
def firstI{α:Type}(q:α->Bool):List α->Nat->Int
 |[],_=> -1
 |x::l,i=>bif q x then(i:Int)else firstI q l (i+1)
theorem Ev.first{α:Type}{step:Nat->Int->Option (Ctl Int (Ctl Unit Int))}(l:List α)(q:α->Bool)(hl:l.length<=4611686018427387904)
  (m:∀i x,At l i x->Ev (λn=>step n (i:Int)) (bif q x then .done (.done (i:Int))else .cont ((i+1:Nat):Int)))(k:Ev (λn=>step n (l.length:Int)) (.done (.cont ()))):
  Ev (λn=>(Go.Sw.iter (step n) n 0).bind λb=>match b with|.cont _=>some (-1)|.done v=>some v) (firstI q l 0):=by
 have loop:∀(r:List α) (i:Nat),l.drop i=r->i<=l.length->∃a:Ctl Unit Int,EvI step (i:Int) a/\(match a with|.cont _=>some (-1)|.done v=>some v)=some (firstI q r i):=by
  intro r
  induction r with
  |nil=>
   intro i d p;have:i=l.length:=by have:=Xs.1 d;omega
   subst this;exact⟨.cont (),Ej k,rfl⟩
  |cons x r t=>
   intro i d p;obtain⟨j,e⟩:=Qt hl d;have s:=m i x j;unfold firstI;cases h:q x with
   |true=>
    rw[h]at s;exact⟨_,Ej s,rfl⟩
   |false=>
    rw[h]at s;obtain⟨a,f,g⟩:=t (i+1) e (by have:=j.lt';omega);exact⟨a,Ex s f,g⟩
 obtain⟨a,f,g⟩:=loop l 0 rfl (XW _);exact Ea f.ev (EA g)
theorem QbX{α:Type}(q:α->Bool):∀(l:List α) (i:Nat),(firstI q l i= -1/\l.all (λx=> !q x)=true)\/ ∃j x,firstI q l i=((i+j:Nat):Int)/\l[j]?=some x/\q x=true/\(l.take j).all (λx=> !q x)=true
 |[],_=>.inl ⟨rfl,rfl⟩
 |x::l,i=>by
  unfold firstI;cases h:q x with
  |true=>exact .inr ⟨0,x,rfl,rfl,h,rfl⟩
  |false=>
   rcases QbX q l (i+1)with⟨h1,h2⟩|⟨j,y,h1,h2,h3,h4⟩
   .exact .inl ⟨h1,by simp[h,h2]⟩
   .refine .inr ⟨j+1,y,by rw[Vs,h1];congr 1;omega,h2,h3,by simp[h,h4]⟩
theorem Qfj{α:Type}{p:α->Bool}{l:List α}(h:l.all p=true):l.filter p=l:=List.filter_eq_self.2 (Xu.1 h)
theorem Ev.delete{α:Type}{first:Nat->Option Int}{step:Nat->List α×Int×Int->Option (Ctl (List α×Int×Int) (List α×Int))}(a:List α)(q:α->Bool)(hl:a.length<=1048576)
  (T:Ev first (firstI q a 0))
  (R:∀(l:List α) (i j:Nat) x y,l.length<=1048576->At l j x->l[i]?=some y->x∈a->i<=j->Ev (λn=>step n (l,(i:Int),(j:Int))) (.cont (bif q x then l else l.set i x,(bif q x then(i:Int)else((i+1:Nat):Int)),((j+1:Nat):Int))))
  (Y:∀(l:List α) (i:Int),Ev (λn=>step n (l,i,(l.length:Int))) (.done (l,i))):
  Ev (λn=>(first n).bind λr1=>bif r1== -1 then some a else(Go.Sw.iter (step n) n (a,r1,IntKind.i64.wrap (r1+1))).bind λb=>(slc b.1 0 b.2).bind λx=>some x) (a.filter λx=> !q x):=by
 refine Ea T ?_;rcases QbX q a 0 with⟨H,F⟩|⟨w,x0,H,F,X,Q⟩
 .rw[H,Qfj F];exact Qa _
 .have V:=(XN.1 F).1;rw[Xx]at H;rw[H];have O:(((w:Nat):Int)== -1)=false:=by simp
  rw[O,Q8 (by omega)];have loop:∀(r l:List α) (i j:Nat),a.drop j=r->j<=a.length->i<j->l.length=a.length->l.drop j=a.drop j->l.take i=(a.take j).filter (λx=> !q x)->∃g:List α,∃k:Nat,EvI step (l,(i:Int),(j:Int)) (g,(k:Int))/\k<=g.length/\g.take k=a.filter λx=> !q x:=by
   intro r
   induction r with
   |nil=>
    intro l i j G W J d z f;have:j=l.length:=by have:=Xs.1 G;omega
    subst this;refine⟨l,i,Ej (Y l _),by omega,?_⟩;rw[f,d,Vb]
   |cons x r N=>
    intro l i j G W J d z f;have L:l.drop j=x::r:=by rw[z,G]
    obtain⟨M,E⟩:=Qt (by omega) L;obtain⟨m,e⟩:=Qt (by omega) G;have P:=M.lt';have s:=R l i j x l[i] (by omega) M (XM (by omega)) m.mem (by omega);cases h:q x with
    |true=>
     rw[h]at s;obtain⟨g,k,B,u,p⟩:=N l i (j+1) e (by omega) (by omega) d (by rw[E,e]) (by rw[m.take,List.filter_append,f];simp[h]);exact⟨g,k,Ex s B,u,p⟩
    |false=>
     rw[h]at s;obtain⟨g,k,B,u,p⟩:=N (l.set i x) (i+1) (j+1) e (by omega) (by omega) (by simpa using d) (by rw[List.drop_set_of_lt (by omega),E,e])
      (by
       rw[m.take,List.filter_append, <- f];have:i<(l.set i x).length:=by simp;omega
       rw[List.take_add_one,XM this];simp[h,List.take_set_of_le])
     exact⟨g,k,Ex s B,u,p⟩
  have t:a.take (w+1)=a.take w++[x0]:=by rw[List.take_add_one,F];rfl
  obtain⟨g,k,B,u,p⟩:=loop _ a w (w+1) rfl (by omega) (by omega) rfl rfl (by rw[t,List.filter_append,Qfj Q];simp[X]);refine QP (Ea B.ev ?_);rw[<- p];exact EA (by simp[Qmt g u])
theorem QaT{ι α:Type}{F:Nat->ι->Option α}{V:ι->α}:∀(L:List ι),(∀p∈L,Ev (λn=>F n p) (V p))->∃N,∀n,N<=n->∀p∈L,F n p=some (V p)
 |[],_=>⟨0,λ_ _ p hp=>by cases hp⟩
 |x::L,h=>by
  obtain⟨N,hN⟩:=QaT L λp hp=>h p (by simp[hp]);obtain⟨M,hM⟩:=h x (by simp);refine⟨N+M,λn hn p hp=>?_⟩;rcases X8.1 hp with rfl|hp
  .exact hM n (by omega)
  .exact hN n (by omega) p hp
theorem Ev.anyP{E R:Type}[DecidableEq R]{k:Nat->List E->Option R}{l:List E}{r:R}(h:∀p,p.Perm l->Ev (λn=>k n p) r):Ev (λn=>Go.Sw.anyP (k n) l) r:=by
 obtain⟨N,d⟩:=QaT (F:=λn p=>k n p) (V:=λ_=>r) (QbT l) λp a=>h p (Qcz l p a);exact⟨N,λn b=>QkZ λp a=>d n b p (Qdz l p a)⟩
theorem Ev.isNil{α R:Type}[DecidableEq R]{l:List α}{x y:Nat->Option R}{v:R}(d:l=[]->Ev x v)(a:Ev y v):Ev (λn=>Go.Sw.isNil l (x n) (y n)) v:=by
 unfold Go.Sw.isNil;cases q:l.isEmpty with
 |false=>exact a
 |true=>
  obtain⟨N,e⟩:=d (List.isEmpty_iff.1 q);obtain⟨M,b⟩:=a;exact⟨N+M,λn f=>by dsimp only;rw[e n (by omega),b n (by omega)];simp⟩
theorem QlC:∀(k:Nat) (l:List Part),k<=17->szPs l<=256->(∀x∈l,Part.wf x)->∃s:Nat,s<=szPs l/\Ev (λn=>F_e n l (k:Int)) (((min (hPs l) k:Nat):Int),(s:Int)):=by
 intro k
 induction k using Nat.strongRecOn with
 |_ k Q=>
 intro l w e O;have y:=Y6 l;have loop:∀(r:List Part) (i a b:Nat),l.drop i=r->i<=l.length->a<=17->b+(szPs r-r.length)<=256->∃s:Nat,s<=b+(szPs r-r.length)/\EvI (λn=>F_an n l (k:Int) (F_e n)) ((a:Int),(b:Int),(i:Int)) (((max a (min (hPs r) k):Nat):Int),(s:Int)):=by
  intro r
  induction r with
  |nil=>
   intro i a b m B _ _;refine⟨b,by omega,Ej ?_⟩;unfold F_an;simp only[QX m B,Vs,XL];refine(Qa _).eq ?_;simp[hPs]
  |cons p r j=>
   intro i a b m B E f;obtain⟨d,q⟩:=Qt (by omega) m;obtain⟨T,M⟩:=Yo (O p d.mem);have u:=Jl d.mem;rw[YT]at u;have F:=Y6 r;rw[szPs,YT,X3]at f⊢;have step:∃t:Nat,t<=szPs p.Parts/\Ev (λn=>F_an n l (k:Int) (F_e n) ((a:Int),(b:Int),(i:Int))) (.cont (((max a (min (hP p) k):Nat):Int),((b+t:Nat):Int),((i+1:Nat):Int))):=by
    unfold F_an;simp only[d.lt,Vr,d.ix,XL,d.nx,Qe9];rw[Qm2];cases R:p.Parts.isEmpty with
    |true=>
     refine⟨0,XW _,?_⟩;simp only[Vr,XL,Nat.zero_min,Nat.max_zero,Xy];exact Qa _
    |false=>
     simp only[Vs];by_cases g:k=0
     .subst g;refine⟨0,XW _,?_⟩;simp only[Nat.min_zero,Nat.max_zero,Xy];exact Qa _
     .obtain⟨t,z,h⟩:=Q (k-1) (by omega) p.Parts (by omega) (by omega) M;refine⟨t,z,?_⟩;have G:IntKind.i64.wrap ((k:Int)-1)=((k-1:Nat):Int):=by rw[QJ (by omega) (by omega)];omega
      have L:((k:Int)==0)=false:=beq_false_of_ne (by omega);rw[L,Q9 (show¬(256:Int)<(b:Int)by omega),G];simp only[Vs,XL];refine Ea (Ea h (Qa _)) ((Qa _).eq ?_);have P:IntKind.i64.wrap (((min (hPs p.Parts) (k-1):Nat):Int)+1)=((min (hPs p.Parts) (k-1)+1:Nat):Int):=Q8 (by omega);have N:IntKind.i64.wrap ((b:Int)+(t:Int))=((b+t:Nat):Int):=by rw[QJ (by omega) (by omega)];omega
      simp only[P,N];congr 2;split<;>omega
   obtain⟨t,z,h⟩:=step;obtain⟨s,H,J⟩:=j (i+1) (max a (min (hP p) k)) (b+t) q (by have:=d.lt';omega) (by omega) (by omega);refine⟨s,by omega,(Ex h J).eq ?_⟩;rw[hPs];congr 1;omega
 obtain⟨s,u,p⟩:=loop l 0 0 l.length rfl (XW _) (by omega) (by omega);refine⟨s,by omega,Yb ?_⟩;show Ev (λn=>B_e (F_e n) n l (k:Int)) _;unfold B_e;refine Ea p.ev ((Qa _).eq ?_);rw[Nat.zero_max]
structure FewL (c:Course):Prop where
 lens:lensC c<=200
 name:c.Name.length<=100
 dist:∀d∈c.Distances,d.Cutoffs.length<=12/\szPs d.Route<=24
 ties:c.Ties.length<=200
def fitsG(c:Course):Bool:=
 !(decide (40<(c.Mats.length:Int))||(decide (512<(c.Legs.length:Int))||(decide (8<(c.Distances.length:Int))||(decide (32<(c.Waves.length:Int))||(decide (32<(c.Offences.length:Int))||(decide (32<(c.Categories.length:Int))||decide (32<(c.Prizes.length:Int))))))))
  &&c.Distances.all λd=> !(decide (64<(d.Cutoffs.length:Int))||decide (16<hPs d.Route))
theorem Qc8(c:Course)(w:CourseOk c)(q:PartsOk c)(k:FewL c):Ev (λn=>F_ba n c) (fitsG c):=by
 unfold F_ba fitsG;refine Ea (Eu λ_=>Eu λ_=>Eu λ_=>Eu λ_=>Eu λ_=>Eu λ_=>Qa _) ?_;cases(decide (40<(c.Mats.length:Int))||(decide (512<(c.Legs.length:Int))||(decide (8<(c.Distances.length:Int))||(decide (32<(c.Waves.length:Int))||(decide (32<(c.Offences.length:Int))||(decide (32<(c.Categories.length:Int))||decide (32<(c.Prizes.length:Int))))))))with
 |true=>exact Qa _
 |false=>
  rw[Xi,VC];refine QP (Ea (Yx c.Distances (λd=> !(decide (64<(d.Cutoffs.length:Int))||decide (16<hPs d.Route))) (Ctl.done false) (Ctl.cont ()) (by have:=w.dist;omega) (λi x a=>?_) ?_) ?_)
  .obtain⟨g,b⟩:=k.dist x a.mem;unfold F_hn;simp only[a.lt,Vr,a.ix,XL,a.nx];obtain⟨s,f,p⟩:=QlC 17 x.Route (XV _) (by omega) (q.wf x a.mem);refine Ea p ?_;refine Ea (Eu λ_=>Eu λ_=>Qa _) ?_;simp only[Q9 (show¬(256:Int)<(s:Int)by omega),Bool.or_false];have e:decide ((16:Int)<((min (hPs x.Route) 17:Nat):Int))=decide (16<hPs x.Route):=by
    rw[decide_eq_decide];omega
   rw[e];cases(decide (64<(x.Cutoffs.length:Int))||decide (16<hPs x.Route))<;>exact Qa _
  .unfold F_hn;simp only[YU,Vs];exact Qa _
  .cases c.Distances.all (λd=> !(decide (64<(d.Cutoffs.length:Int))||decide (16<hPs d.Route)))<;>exact Qa _
theorem QjB:∀(k:Nat) (l:List Part),k<=21->l.length<=1048576->(∀x∈l,Part.wf x)->∃v:Nat,v<=1048576+500*(k+1)/\(v<500->szPs l<=v)/\Ev (λn=>F_p n l ((21-k:Nat):Int)) (v:Int):=by
 intro k
 induction k with
 |zero=>
  intro l _ s w;refine⟨500,by omega,by omega,Yb ?_⟩;show Ev (λn=>B_p (F_p n) n l ((21-0:Nat):Int)) _;unfold B_p;exact Qa _
 |succ k L=>
  intro l M s w;have loop:∀(r:List Part) (i a:Nat),l.drop i=r->i<=l.length->a<=1048576+500*(k+1+1)->∃v:Nat,v<=1048576+500*(k+1+1)/\a<=v/\(v<500->a+(szPs r-r.length)<=v)/\EvI (λn=>F_fh n l ((21-(k+1):Nat):Int) (F_p n)) ((a:Int),(i:Int)) (v:Int):=by
   intro r
   induction r with
   |nil=>
    intro i a m t g;refine⟨a,g,XV _,λ_=>by simp[szPs],Ej ?_⟩;unfold F_fh;simp only[QX m t,Vs,XL];exact Qa _
   |cons p r j=>
    intro i a m t g;obtain⟨b,q⟩:=Qt (by omega) m;obtain⟨F,H⟩:=Yo (w p b.mem);by_cases B:a<500
    .obtain⟨u,N,J,E⟩:=L p.Parts (by omega) F H;have z:IntKind.i64.wrap (((21-(k+1):Nat):Int)+1)=((21-k:Nat):Int):=by rw[QJ (by omega) (by omega)];omega
     have G:IntKind.i64.wrap ((a:Int)+(u:Int))=((a+u:Nat):Int):=by rw[QJ (by omega) (by omega)];omega
     obtain⟨v,h,y,e,f⟩:=j (i+1) (a+u) q (by have:=b.lt';omega) (by omega);refine⟨v,h,by omega,λd=>?_,Ex ?_ f⟩
     .have:=e d;have:=J (by omega);have:=Y6 r;rw[szPs,YT,X3];omega
     .unfold F_fh;simp only[b.lt,Vr,b.ix,XL,b.nx,Yd (show(a:Int)<500 by omega),z];refine Ea E ?_;rw[G];exact Qa _
    .refine⟨a,g,XV _,λd=>absurd d B,Ej ?_⟩;unfold F_fh;simp only[b.lt,Vr,XL,Q9 (show¬(a:Int)<500 by omega),Vs];exact Qa _
  obtain⟨v,h,y,e,f⟩:=loop l 0 l.length rfl (XW _) (XX s (Nat.le_add_right _ _));have:=Y6 l;refine⟨v,h,λd=>by have:=e d;omega,Yb ?_⟩;show Ev (λn=>B_p (F_p n) n l ((21-(k+1):Nat):Int)) _;unfold B_p;rw[Q9 (show¬(20:Int)<((21-(k+1):Nat):Int)by omega)];exact QP (Ea f.ev (Qa _))
theorem Qi0:∀(k:Nat) (l:List Cond),k<=21->l.length<=1048576->(∀x∈l,Cond.wf x)->∃v:Nat,v<=1048576+500*(k+1)/\Ev (λn=>F_q n l ((21-k:Nat):Int)) (v:Int):=by
 intro k
 induction k with
 |zero=>
  intro l _ s q;refine⟨500,by omega,Yb ?_⟩;show Ev (λn=>B_q (F_q n) n l ((21-0:Nat):Int)) _;unfold B_q;exact Qa _
 |succ k z=>
  intro l F s q;have loop:∀(r:List Cond) (i a:Nat),l.drop i=r->i<=l.length->a<=1048576+500*(k+1+1)->∃v:Nat,v<=1048576+500*(k+1+1)/\EvI (λn=>F_gi n l ((21-(k+1):Nat):Int) (F_q n)) ((a:Int),(i:Int)) (v:Int):=by
   intro r
   induction r with
   |nil=>
    intro i a g t h;refine⟨a,h,Ej ?_⟩;unfold F_gi;simp only[QX g t,Vs,XL];exact Qa _
   |cons p r f=>
    intro i a g t h;obtain⟨b,e⟩:=Qt (by omega) g;have d:=Y0 (q p b.mem);by_cases E:a<500
    .obtain⟨u,G,y⟩:=z p.Parts (by omega) d.1 d.2;have w:IntKind.i64.wrap (((21-(k+1):Nat):Int)+1)=((21-k:Nat):Int):=by rw[QJ (by omega) (by omega)];omega
     have B:IntKind.i64.wrap ((a:Int)+(u:Int))=((a+u:Nat):Int):=by rw[QJ (by omega) (by omega)];omega
     obtain⟨v,j,m⟩:=f (i+1) (a+u) e (by have:=b.lt';omega) (by omega);refine⟨v,j,Ex ?_ m⟩;unfold F_gi;simp only[b.lt,Vr,b.ix,XL,b.nx,Yd (show(a:Int)<500 by omega),w];refine Ea y ?_;rw[B];exact Qa _
    .refine⟨a,h,Ej ?_⟩;unfold F_gi;simp only[b.lt,Vr,XL,Q9 (show¬(a:Int)<500 by omega),Vs];exact Qa _
  obtain⟨v,j,m⟩:=loop l 0 l.length rfl (XW _) (XX s (Nat.le_add_right _ _));refine⟨v,j,Yb ?_⟩;show Ev (λn=>B_q (F_q n) n l ((21-(k+1):Nat):Int)) _;unfold B_q;rw[Q9 (show¬(20:Int)<((21-(k+1):Nat):Int)by omega)];exact QP (Ea m.ev (Qa _))
def Cs:Nat->Nat
 |0=>500
 |k+1=>4194304+2*Cs k
theorem Qpg:∀k,k<22->Cs k<=1125899906842624:=by decide
theorem Qh6:∀(k:Nat) (l:List Step),k<=21->l.length<=1048576->(∀x∈l,Step.wf x)->∃v:Nat,v<=Cs k/\(v<500->l.length<=v)/\Ev (λn=>F_r n l ((21-k:Nat):Int)) (v:Int):=by
 intro k
 induction k with
 |zero=>
  intro l _ E w;refine⟨500,XV _,by omega,Yb ?_⟩;show Ev (λn=>B_r (F_r n) n l ((21-0:Nat):Int)) _;unfold B_r;exact Qa _
 |succ k z=>
  intro l R E w;have H:=Qpg k (by omega);have B:=Qpg (k+1) (by omega);have O:Cs (k+1)=4194304+2*Cs k:=rfl;have loop:∀(r:List Step) (i a:Nat),l.drop i=r->i<=l.length->a<=Cs (k+1)->∃v:Nat,v<=Cs (k+1)/\a<=v/\EvI (λn=>F_hj n l ((21-(k+1):Nat):Int) (F_r n)) ((a:Int),(i:Int)) (v:Int):=by
   intro r
   induction r with
   |nil=>
    intro i a h t e;refine⟨a,e,XV _,Ej ?_⟩;unfold F_hj;simp only[QX h t,Vs,XL];exact Qa _
   |cons p r g=>
    intro i a h t e;obtain⟨b,j⟩:=Qt (by omega) h;obtain⟨P,s,m⟩:=YZ (w p b.mem);by_cases T:a<500
    .obtain⟨u,W,L⟩:=Qi0 21 [p.Cond] (XV _) (by simp) (by simpa using P);obtain⟨x,V,_,J⟩:=z p.Then (by omega) s.1 s.2;obtain⟨y,y1,_,F⟩:=z p.Else (by omega) m.1 m.2;have G:IntKind.i64.wrap (((21-(k+1):Nat):Int)+1)=((21-k:Nat):Int):=by rw[QJ (by omega) (by omega)];omega
     have M:IntKind.i64.wrap ((a:Int)+(u:Int))=((a+u:Nat):Int):=by rw[QJ (by omega) (by omega)];omega
     have Q:IntKind.i64.wrap (((a+u:Nat):Int)+(x:Int))=((a+u+x:Nat):Int):=by rw[QJ (by omega) (by omega)];omega
     have N:IntKind.i64.wrap (((a+u+x:Nat):Int)+(y:Int))=((a+u+x+y:Nat):Int):=by rw[QJ (by omega) (by omega)];omega
     obtain⟨v,f,q,d⟩:=g (i+1) (a+u+x+y) j (by have:=b.lt';omega) (by omega);refine⟨v,f,by omega,Ex ?_ d⟩;unfold F_hj;simp only[b.lt,Vr,b.ix,XL,b.nx,Yd (show(a:Int)<500 by omega),G];refine Ea L (Ea J (Ea F ?_));rw[M,Q,N];exact Qa _
    .refine⟨a,e,XV _,Ej ?_⟩;unfold F_hj;simp only[b.lt,Vr,XL,Q9 (show¬(a:Int)<500 by omega),Vs];exact Qa _
  obtain⟨v,f,q,d⟩:=loop l 0 l.length rfl (XW _) (by omega);refine⟨v,f,λ_=>q,Yb ?_⟩;show Ev (λn=>B_r (F_r n) n l ((21-(k+1):Nat):Int)) _;unfold B_r;rw[Q9 (show¬(20:Int)<((21-(k+1):Nat):Int)by omega)];exact QP (Ea d.ev (Qa _))
theorem Qlx(c:Course)(w:CourseOk c)(q:PartsOk c)(hl:c.Ties.length<=1048576)(H:∀x∈c.Ties,Step.wf x):∃b,Ev (λn=>F_ap n c) b/\(b=true->FewL c):=by
 have Q:=w.dist;have M:=w.mats;have loop:∀(r:List Distance) (i:Nat),c.Distances.drop i=r->i<=c.Distances.length->∃a:Ctl Unit Bool,EvI (λn=>F_fe n c) (i:Int) a/\(a=.done false\/(a=.cont ()/\ ∀d∈r,d.Cutoffs.length<=12/\szPs d.Route<=24)):=by
  intro r
  induction r with
  |nil=>
   intro i y E;refine⟨.cont (),Ej ?_,.inr ⟨rfl,λd h=>by cases h⟩⟩;unfold F_fe;simp only[QX y E,Vs];exact Qa _
  |cons d r u=>
   intro i y E;obtain⟨e,z⟩:=Qt (by omega) y;obtain⟨v,G,p,k⟩:=QjB 21 d.Route (XV _) (q.len d e.mem) (q.wf d e.mem);have step:Ev (λn=>F_fe n c (i:Int)) (bif (decide ((24:Int)<(v:Int))||(decide (12<(d.Cutoffs.length:Int))||decide (60<(d.Name.length:Int))))then .done (.done false)else .cont ((i+1:Nat):Int)):=by
    unfold F_fe;simp only[e.lt,Vr,e.ix,XL,e.nx];refine Ea (v:=decide ((24:Int)<(v:Int))||(decide (12<(d.Cutoffs.length:Int))||decide (60<(d.Name.length:Int)))) (Ea k (Eu λ_=>Eu λ_=>Qa _)) ?_;cases(decide ((24:Int)<(v:Int))||(decide (12<(d.Cutoffs.length:Int))||decide (60<(d.Name.length:Int))))<;>exact Qa _
   cases f:(decide ((24:Int)<(v:Int))||(decide (12<(d.Cutoffs.length:Int))||decide (60<(d.Name.length:Int))))with
   |true=>
    rw[f]at step;exact⟨.done false,Ej step,.inl rfl⟩
   |false=>
    rw[f]at step;obtain⟨a,j,g⟩:=u (i+1) z (by have:=e.lt';omega);refine⟨a,Ex step j,?_⟩;rcases g with g|⟨g,l⟩
    .exact .inl g
    .refine .inr ⟨g,λx t=>?_⟩;rcases X8.1 t with rfl|t
     .simp only[XZ,decide_eq_false_iff_not]at f;have:=p (by omega);exact⟨by omega,by omega⟩
     .exact l x t
 obtain⟨a,j,g⟩:=loop c.Distances 0 rfl (XW _);rcases g with rfl|⟨rfl,l⟩
 .refine⟨false,?_,λh=>by cases h⟩;unfold F_ap;exact Ea j.ev (Qa _)
 .have F:∃a:Ctl Unit Bool,Ev (λn=>iter (F_il n c) n (0:Int)) a/\(a=.done false\/a=.cont ()):=by
   refine⟨_,Yx c.Mats (λm=> !decide (60<(m.Name.length:Int))) (Ctl.done false) (Ctl.cont ()) (by omega) (λi x e=>?_) ?_,?_⟩
   .unfold F_il;simp only[e.lt,Vr,e.ix,XL,e.nx];cases decide (60<(x.Name.length:Int))<;>exact Qa _
   .unfold F_il;simp only[YU,Vs];exact Qa _
   .cases c.Mats.all (λm=> !decide (60<(m.Name.length:Int)))with
    |true=>exact .inr rfl
    |false=>exact .inl rfl
  obtain⟨B,s,J⟩:=F;rcases J with rfl|rfl
  .refine⟨false,?_,λh=>by cases h⟩;unfold F_ap;exact Ea j.ev (Ea s (Qa _))
  .obtain⟨v,G,p,k⟩:=Qh6 21 c.Ties (XV _) hl H;cases f:(decide (12<(c.Mats.length:Int))||(decide (30<(c.Legs.length:Int))||(decide (4<(c.Distances.length:Int))||(decide (6<(c.Waves.length:Int))||(decide (6<(c.Offences.length:Int))||(decide (6<(c.Categories.length:Int))||(decide (6<(c.Prizes.length:Int))||decide (60<(c.Name.length:Int)))))))))with
   |true=>
    refine⟨false,?_,λh=>by cases h⟩;unfold F_ap;refine Ea j.ev (Ea s (Ea (v:=true) (Ew (Eu λ_=>Eu λ_=>Eu λ_=>Eu λ_=>Eu λ_=>Eu λ_=>Eu λ_=>Qa _) f) (Qa _)))
   |false=>
    refine⟨decide ((v:Int)<=100),?_,λh=>?_⟩
    .unfold F_ap;refine Ea j.ev (Ea s (Ea (v:=false) (Ew (Eu λ_=>Eu λ_=>Eu λ_=>Eu λ_=>Eu λ_=>Eu λ_=>Eu λ_=>Qa _) f) (Ea k (Qa _))))
    .have h:=Vx h;have:=p (by omega);simp only[XZ,decide_eq_false_iff_not]at f;obtain⟨P,L,W,O,V,N,T,R⟩:=f;exact⟨by unfold lensC;omega,by omega,l,by omega⟩
set_option maxRecDepth 4000
def openU(f:Fact):U_facts_open_rxk:=
 bif f.Kind==1 then .c0 ()else bif f.Kind==2 then .c1 ()else bif f.Kind==3 then .c2 ()else bif f.Kind==4 then .c3 ()else bif f.Kind==5 then .c4 ()else bif f.Kind==6 then .c5 ()
 else bif f.Kind==7 then .c6 ()else bif f.Kind==8 then .c7 ()else bif f.Kind==9 then .c8 ()else bif f.Kind==10 then
  (bif (f.Ruling.Kind==1)||(f.Ruling.Kind==2)then .c9 (0,0,0,0,0,0)else bif f.Ruling.Kind==3 then .c9 (1,9999,0,255,1,1099511627776)else bif f.Ruling.Kind==4 then .c9 (1,9999,0,255,1,64)else .c9 (1,9999,0,255,0,0))
 else bif f.Kind==11 then .c10 ()else bif f.Kind==12 then .c11 ()else bif f.Kind==13 then .c12 ()else .c13 ()
theorem QkD(n:Nat)(f:Fact)(b:Int):F_bc n f b=some (openU f):=by
 unfold F_bc openU;cases(f.Kind==1)with
 |true=>rfl
 |false=>
 cases(f.Kind==2)with
 |true=>rfl
 |false=>
 cases(f.Kind==3)with
 |true=>rfl
 |false=>
 cases(f.Kind==4)with
 |true=>rfl
 |false=>
 cases(f.Kind==5)with
 |true=>rfl
 |false=>
 cases(f.Kind==6)with
 |true=>rfl
 |false=>
 cases(f.Kind==7)with
 |true=>rfl
 |false=>
 cases(f.Kind==8)with
 |true=>rfl
 |false=>
 cases(f.Kind==9)with
 |true=>rfl
 |false=>
 cases(f.Kind==10)with
 |true=>
  cases(f.Ruling.Kind==1)with
  |true=>rfl
  |false=>
  cases(f.Ruling.Kind==2)with
  |true=>rfl
  |false=>
  cases(f.Ruling.Kind==3)with
  |true=>rfl
  |false=>
  cases(f.Ruling.Kind==4)with
  |true=>rfl
  |false=>rfl
 |false=>
 cases(f.Kind==11)with
 |true=>rfl
 |false=>
 cases(f.Kind==12)with
 |true=>rfl
 |false=>
 cases(f.Kind==13)with
 |true=>rfl
 |false=>rfl
def headL:List Ent:=[⟨false,3,1,13⟩,⟨false,0,0,31⟩,⟨false,1,1,1048576⟩,⟨false,2,0,1099511627776⟩]
def bodyL:U_facts_open_rxk->List Ent
 |.c0 _=>[⟨false,4,1,9999⟩,⟨false,5,0,7⟩,⟨false,6,0,31⟩,⟨false,7,(-1099511627776),1099511627776⟩,⟨false,8,0,120⟩,⟨false,9,0,1048576⟩,⟨false,10,0,9999⟩,⟨false,11,0,1048576⟩]
 |.c1 _=>[⟨false,12,0,39⟩,⟨false,13,0,255⟩,⟨false,14,0,1048576⟩,⟨false,15,(-1099511627776),1099511627776⟩]
 |.c2 _=>[⟨false,16,0,39⟩,⟨false,17,0,255⟩,⟨false,18,(-1099511627776),1099511627776⟩,⟨false,19,(-1099511627776),1099511627776⟩,⟨false,20,0,1099511627776⟩]
 |.c3 _=>[⟨false,21,0,39⟩,⟨false,22,0,255⟩,⟨false,23,(-1099511627776),1099511627776⟩,⟨false,24,0,39⟩,⟨false,25,0,255⟩,⟨false,26,(-1099511627776),1099511627776⟩,⟨false,27,(-1099511627776),1099511627776⟩,⟨false,28,(-1099511627776),1099511627776⟩]
 |.c4 _=>[⟨false,29,1,9999⟩,⟨false,30,0,255⟩,⟨false,31,(-1099511627776),1099511627776⟩,⟨false,32,(-1099511627776),1099511627776⟩]
 |.c5 _=>[⟨false,33,0,39⟩,⟨false,34,0,255⟩,⟨false,35,(-1099511627776),1099511627776⟩,⟨false,36,(-1099511627776),1099511627776⟩]
 |.c6 _=>[⟨false,37,1,9999⟩,⟨false,38,1,9999⟩]
 |.c7 _=>[⟨false,39,1,1048576⟩,⟨false,40,1,9999⟩,⟨false,41,0,31⟩,⟨false,42,0,255⟩]
 |.c8 _=>[⟨false,43,1,1048576⟩,⟨false,44,0,9999⟩,⟨false,45,0,1125899906842624⟩,⟨false,46,0,1⟩]
 |.c9 x=>[⟨false,47,1,1048576⟩,⟨false,48,1,2⟩,⟨false,49,1,5⟩,⟨false,50,x.1,x.2.1⟩,⟨false,51,x.2.2.1,x.2.2.2.1⟩,⟨false,52,x.2.2.2.2.1,x.2.2.2.2.2⟩]
 |.c10 _=>[⟨false,53,1,1048576⟩,⟨true,0,0,1⟩]
 |.c11 _=>[]
 |.c12 _=>[⟨false,55,0,31⟩,⟨false,56,1,1048576⟩]
 |.c13 _=>[]
def fineU(f:Fact):U_facts_open_rxk->Bool
 |.c3 _=>decide (f.Sync.Min<=f.Sync.Max)
 |.c4 _=>decide (f.Hand.Lo<=f.Hand.Hi)
 |.c5 _=>decide (f.Silence.Lo<=f.Silence.Hi)
 |.c6 _=>decide (f.Pair.A<f.Pair.B)
 |.c13 _=>false
 |_=>true
def entsS(f:Fact):List Ent:=headL++bodyL (openU f)
def goodE(e:Ent):Bool:=bif e.fl then e.off==0 else decide (e.off<57)&& !(e.off==54)
theorem QlG(f:Fact):∀e∈entsS f,goodE e=true:=by
 have h:∀u:U_facts_open_rxk,(headL++bodyL u).all goodE=true:=by intro u;cases u<;>rfl
 exact Xu.1 (h (openU f))
theorem QfH(f:Fact):(entsS f).length<=12:=by
 have h:∀u:U_facts_open_rxk,(headL++bodyL u).length<=12:=by intro u;cases u<;>exact XT rfl
 exact h (openU f)
def isI:Option A->Bool
 |some (.int .i64 _)=>true
 |_=>false
theorem QpQ{x:Option A}(h:isI x=true):∃v,x=some (.int .i64 v):=by
 unfold isI at h;split at h
 .exact⟨_,rfl⟩
 .cases h
theorem Qm4{f:Fact}{b:Int}{e:Ent}(h:goodE e=true):∃v,Qf6 (Fact.c f) b e=some v:=by
 unfold goodE at h;unfold Qf6;cases a:e.fl with
 |true=>
  rw[a]at h;simp only[Vr]at h⊢;rw[h];exact⟨b,rfl⟩
 |false=>
  rw[a]at h;simp only[Vs,XY,Vt,Bool.not_eq_true']at h⊢;have all:(List.range 57).all (λo=>(o==54)||isI (Fact.c f)[o]?)=true:=by rfl
  have:=Xu.1 all e.off (List.mem_range.2 h.1);rw[h.2,Bool.false_or]at this;obtain⟨v,d⟩:=QpQ this;rw[d];exact⟨v,rfl⟩
theorem Qmy{x:Fact}{s v:Int}{e:Ent}(h:goodE e=true):∃q,QjK Fact.put x s e v=some q:=by
 unfold goodE at h;unfold QjK;cases a:e.fl with
 |true=>
  rw[a]at h;simp only[Vr]at h⊢;rw[h];exact⟨_,rfl⟩
 |false=>
  rw[a]at h;simp only[Vs,XY,Vt,Bool.not_eq_true']at h⊢;have all:(List.range 57).all (λo=>(o==54)||(Fact.put x o v).isSome)=true:=by rfl
  have:=Xu.1 all e.off (List.mem_range.2 h.1);rw[h.2,Bool.false_or]at this;obtain⟨y,b⟩:=Option.isSome_iff_exists.1 this;rw[b];exact⟨_,rfl⟩
def getV(f:Fact)(b:Int)(e:Ent):Int:=(Qf6 (Fact.c f) b e).getD 0
def putV(x:Fact)(s:Int)(e:Ent)(v:Int):Fact×Int:=(QjK Fact.put x s e v).getD (x,s)
theorem Qm5{f:Fact}{b:Int}{e:Ent}(h:goodE e=true):Qf6 (Fact.c f) b e=some (getV f b e):=by
 obtain⟨v,a⟩:=Qm4 (f:=f) (b:=b) h;unfold getV;rw[a];rfl
theorem Qpt{x:Fact}{s v:Int}{e:Ent}(h:goodE e=true):QjK Fact.put x s e v=some (putV x s e v):=by
 obtain⟨q,a⟩:=Qmy (x:=x) (s:=s) (v:=v) h;unfold putV;rw[a];rfl
def inE(f:Fact)(b:Int)(e:Ent):Bool:= !(decide (getV f b e<e.lo))&& !(decide (e.hi<getV f b e))
def numR(f:Fact)(b:Int):List Ent->List Int×Fact×Int->Ctl (List Int×Fact×Int) (List Int×Bool)
 |[],a=>.cont a
 |e::r,a=>bif inE f b e then numR f b r (a.1++[getV f b e],putV a.2.1 a.2.2 e (getV f b e))else .done ([],false)
theorem QhO{α:Type}(l m:List α)(h:l.length+m.length<=1000):app l m=some (l++m):=by
 unfold app;have:Nat.ble (l.length+m.length) Qv=true:=XU (XX h (by decide));rw[this];rfl
theorem Qom(f:Fact)(b:Int)(E:List Ent)(hE:∀e∈E,goodE e=true)(hl:E.length<=12):∀(r:List Ent) (i:Nat) (a:List Int×Fact×Int),E.drop i=r->i<=E.length->a.1.length=i->
  EvI (λn=>F_go n f b E E) (a.1,a.2.1,a.2.2,(i:Int)) (numR f b r a):=by
 intro r
 induction r with
 |nil=>
  intro i a k p g;refine Ej ?_;unfold F_go;simp only[QX k p,Vs];exact Qa _
 |cons e r s=>
  intro i a k p j;obtain⟨g,l⟩:=Qt (by omega) k;have m:=hE e g.mem;have q:=g.lt';unfold numR;cases d:inE f b e with
  |true=>
   have h:=d;unfold inE at h;simp only[XY,Bool.not_eq_true']at h;refine Ex ?_ (s (i+1) (a.1++[getV f b e],putV a.2.1 a.2.2 e (getV f b e)) l (by omega) (by simp[j]));unfold F_go;simp only[g.lt,Vr,g.ix,XL,g.nx,Qm5 m,h.1,h.2,Vs,Qpt m];rw[QhO a.1 [getV f b e] (by simp;omega)];exact Qa _
  |false=>
   refine Ej ?_;unfold F_go;simp only[g.lt,Vr,g.ix,XL,Qm5 m];unfold inE at d;cases t:decide (getV f b e<e.lo)with
   |true=>exact Qa _
   |false=>
    rw[t]at d;simp only[Xi,VC,Bool.not_eq_false']at d;simp only[Vs,d,Vr];exact Qa _
def suspB(f:Fact):Int:=bif f.Appeal.Suspends then 1 else 0
def restS(f:Fact):Fact:={Uk with Ruling:={Ur with Kind:=f.Ruling.Kind:Ruling},Kind:=f.Kind:Fact}
def lastF(f x:Fact)(s:Int):Fact:=
 let y:Fact:=bif f.Kind != 10 then {x with Ruling:={x.Ruling with Kind:=0:Ruling}:Fact}else x
 {y with Appeal:={Case:=y.Appeal.Case,Suspends:=s==1:Appeal}:Fact}
def numF(f:Fact):List Int×Bool:=bif fineU f (openU f)then(match numR f (suspB f) (entsS f) ([],restS f,0)with
  |.cont a=>(a.1,lastF f a.2.1 a.2.2==f)
  |.done r=>r)else([],false)
theorem QlJ(n:Nat)(f:Fact):F_dt n ({Uk with Ruling:={Ur with Kind:=f.Ruling.Kind:Ruling}:Fact}) 0 f=some (entsS f):=by
 have a:openU ({({Uk with Ruling:={Ur with Kind:=f.Ruling.Kind:Ruling}:Fact})with Kind:=f.Kind:Fact})=openU f:=rfl;unfold F_dt entsS;rw[QkD];simp only[XL];rw[a];unfold F_az;generalize openU f=u;cases u<;>(simp only[XL];unfold bodyL;exact congrArg (Option.bind · _) (QhO _ _ (by simp)))
theorem QkS(f:Fact):Ev (λn=>F_at n f) (numF f):=by
 unfold F_at;refine Ea (v:=suspB f) ?_ ?_
 .unfold suspB;cases f.Appeal.Suspends<;>exact Qa _
 refine Ea (v:=bif fineU f (openU f)then .cont (bodyL (openU f))else .done ([],false)) ?_ ?_
 .simp only[QkD,XL];unfold F_d F_gh F_hg F_en F_hc;generalize openU f=u;cases u with
  |c3=>unfold fineU;cases decide (f.Sync.Min<=f.Sync.Max)<;>exact Qa _
  |c4=>unfold fineU;cases decide (f.Hand.Lo<=f.Hand.Hi)<;>exact Qa _
  |c5=>unfold fineU;cases decide (f.Silence.Lo<=f.Silence.Hi)<;>exact Qa _
  |c6=>unfold fineU;cases decide (f.Pair.A<f.Pair.B)<;>exact Qa _
  |_=>exact Qa _
 unfold numF;cases fineU f (openU f)with
 |false=>exact Qa _
 |true=>
  simp only[Vr];have e:app headL (bodyL (openU f))=some (entsS f):=QhO _ _ (by have:=QfH f;unfold entsS at this;rw[X5]at this;omega);unfold F_az;simp only[XL];refine Ea (EA e) ?_;refine Ea (EA (QlJ 0 f)) ?_;refine Ea (Qom f (suspB f) (entsS f) (QlG f) (QfH f) (entsS f) 0 ([],restS f,0) rfl (XW _) rfl).ev ?_;cases numR f (suspB f) (entsS f) ([],restS f,0)with
  |done r=>exact Qa _
  |cont a=>
   simp only;refine Ea (v:=bif f.Kind != 10 then {a.2.1 with Ruling:={a.2.1.Ruling with Kind:=0:Ruling}:Fact}else a.2.1) ?_ (Qa _);cases(f.Kind != 10)<;>exact Qa _
def validS(f:Fact):Bool:=(numF f).2
theorem Qal(f:Fact):Ev (λn=>F_ae n f) (bif validS f then 0 else 120):=by
 unfold F_ae;refine Ea (QkS f) ?_;unfold validS;cases(numF f).2<;>exact Qa _
theorem Qjv{f:Fact}(h:validS f=true):(f.Kind==0)=false:=by
 cases q:(f.Kind==0)with
 |false=>rfl
 |true=>
  have a:f.Kind=0:=by simpa using q
  have b:openU f=.c13 ():=by unfold openU;rw[a];rfl
  unfold validS numF at h;rw[b]at h;cases h
set_option maxRecDepth 4000
def numN(v:Nat):List Int:=if h:128<=v then orI .u8 (IntKind.u8.wrap (v:Int)) 128::numN (v/128)else[IntKind.u8.wrap (v:Int)]
termination_by v
decreasing_by omega
theorem Qe5{v:Nat}(h:128<=v):numN v=orI .u8 (IntKind.u8.wrap (v:Int)) 128::numN (v/128):=by
 rw[numN,dif_pos h]
theorem QaM{v:Nat}(h:¬128<=v):numN v=[IntKind.u8.wrap (v:Int)]:=by
 rw[numN,dif_neg h]
theorem shr7(v:Nat):Qcw .u64 (v:Int) 7=((v/128:Nat):Int):=by
 show Int.fdiv (v:Int) (2^7)=_;rw[Int.fdiv_eq_ediv_of_nonneg _ (by decide)];omega
theorem QmQ:∀(k v:Nat),v<128^(k+1)->(numN v).length<=k+1:=by
 intro k
 induction k with
 |zero=>
  intro v a;rw[QaM (by omega)];simp
 |succ k b=>
  intro v a;by_cases h:128<=v
  .rw[Qe5 h,X3];have:=b (v/128) (by rw[Nat.div_lt_iff_lt_mul (by decide)];rw[Nat.pow_succ]at a;exact a);omega
  .rw[QaM h];simp
theorem Qhj:∀(k v:Nat) (l:List Int),v<128^(k+1)->l.length+k<4294967296->∃(l':List Int) (a:Nat),EvI (λn=>F_gt n) (l,(v:Int)) (l',(a:Int))/\l'++[IntKind.u8.wrap (a:Int)]=l++numN v/\l'.length<=l.length+k:=by
 intro k
 induction k with
 |zero=>
  intro v l b e;refine⟨l,v,Ej ?_,by rw[QaM (by omega)],XV _⟩;unfold F_gt;simp only[Q9 (show¬(128:Int)<=(v:Int)by omega),Vs];exact Qa _
 |succ k f=>
  intro v l b e;by_cases h:128<=v
  .obtain⟨l',a,g,i,d⟩:=f (v/128) (l++[orI .u8 (IntKind.u8.wrap (v:Int)) 128]) (by rw[Nat.div_lt_iff_lt_mul (by decide)];rw[Nat.pow_succ]at b;exact b) (by simp;omega);refine⟨l',a,Ex ?_ g,?_,?_⟩
   .unfold F_gt;simp only[Yd (show(128:Int)<=(v:Int)by omega),Vr,shr7];rw[Qam l _ (by omega)];exact Qa _
   .rw[i,Qe5 h];simp
   .simp at d;omega
  .refine⟨l,v,Ej ?_,by rw[QaM h],by omega⟩;unfold F_gt;simp only[Q9 (show¬(128:Int)<=(v:Int)by omega),Vs];exact Qa _
theorem QfB(v:Nat)(l:List Int)(a:v<18446744073709551616)(hl:l.length<=1000000):Ev (λn=>F_af n l (v:Int)) (l++numN v):=by
 obtain⟨b,g,e,d,f⟩:=Qhj 9 v l (Vh a (by decide)) (by omega);unfold F_af;refine Ea e.ev ?_;simp only;rw[Qam b _ (by omega),d];exact Qa _
theorem Qe3{v:Nat}(hv:v<18446744073709551616):(numN v).length<=10:=QmQ 9 v (Vh hv (by decide))
def zigI(x:Int):Int:=QeL .u64 (QeR .u64 (IntKind.u64.wrap x) 1) (IntKind.u64.wrap (Qcw .i64 x 63))
theorem wrapU(x:Int):0<=IntKind.u64.wrap x/\IntKind.u64.wrap x<18446744073709551616:=by
 have e:IntKind.u64.wrap x=x%18446744073709551616:=by
  unfold IntKind.wrap;rfl
 rw[e];omega
theorem Qg4(x:Int):∃z:Nat,zigI x=(z:Int)/\z<18446744073709551616:=by
 have h:=wrapU ((BitVec.ofInt IntKind.u64.bits (QeR .u64 (IntKind.u64.wrap x) 1)^^^BitVec.ofInt IntKind.u64.bits (IntKind.u64.wrap (Qcw .i64 x 63))).toNat);refine⟨(zigI x).toNat,?_,?_⟩
 .unfold zigI QeL;omega
 .unfold zigI QeL;omega
def oneB(x:Int):List Int:=1::numN (zigI x).toNat
theorem Qim(x:Int):(oneB x).length<=11:=by
 obtain⟨z,b,a⟩:=Qg4 x;unfold oneB;rw[b];have:=Qe3 a;simp;omega
theorem QiL(l:List Int)(x:Int)(hl:l.length<=100000):Ev (λn=>F_au n l ({Kind:=1,N:=x,S:=[],L:=[]:Value})) (l++oneB x):=by
 unfold F_au F_bi;rw[Qam l 1 (by omega)];simp only[XL];obtain⟨z,b,d⟩:=Qg4 x;have a:=b;unfold zigI at a;rw[a];refine Ea (QfB z (l++[1]) d (by simp;omega)) ((Qa _).eq ?_);unfold oneB;rw[b];simp
def mkV(x:Int):Value:={Kind:=1,N:=x,S:=[],L:=[]:Value}
def listV(l:List Int):Value:={Kind:=3,N:=0,S:=[],L:=l.map mkV:Value}
theorem QjU(x:Int):Ev (λn=>F_m n (mkV x)) (0,true):=by
 refine Yb ?_;show Ev (λn=>B_m (F_m n) n (mkV x)) _;unfold B_m mkV;simp only;cases(x==0)with
 |true=>exact Qa _
 |false=>exact Qa _
theorem Qix(l:List Int)(hl:l.length<=1000):Ev (λn=>F_m n (listV l)) (1,true):=by
 refine Yb ?_;show Ev (λn=>B_m (F_m n) n (listV l)) _;unfold B_m listV;simp only;refine Ea (v:=[false,(((l.map mkV).length:Int)==0),(((l.map mkV).length:Int)==0),true]) (Qa _) ?_;refine Ea (v:=false) (Qa _) ?_;refine Ea (v:=(Ctl.cont (0:Int):Ctl Int (Int×Bool))) ?_ (Qa _);refine Ev.iter (λi=>((0:Int),(i:Int))) (l.map mkV).length rfl (λi d=>?_) ?_
 .have a:=JL (x:=(l.map mkV)[i]) (show(l.map mkV).length<=4611686018427387904 by rw[X4];omega) (XM d);have b:∃y,(l.map mkV)[i]=mkV y:=by
   rw[List.getElem_map];exact⟨_,rfl⟩
  obtain⟨y,e⟩:=b;unfold F_ip;simp only[a.lt,Vr,a.ix,XL,a.nx];rw[e];exact Ea (QjU y) (Qa _)
 .unfold F_ip;simp only[YU,Vs];exact Qa _
def listB(l:List Int):List Int:=[3]++numN l.length++(l.map oneB).flatten
theorem QhA(l:List Int)(hl:l.length<=1000):Ev (λn=>F_du n (listV l)) (listB l):=by
 unfold F_du;have p:app ([]:List Int) [3]=some [3]:=rfl;rw[p];simp only[XL];have q:IntKind.u64.wrap (((listV l).L.length:Int))=((l.length:Nat):Int):=by
  have:IntKind.u64.wrap (((listV l).L.length:Int))=(((listV l).L.length:Int))%18446744073709551616:=by unfold IntKind.wrap;rfl
  rw[this];unfold listV;rw[X4];omega
 rw[q];have r:=Qe3 (show l.length<18446744073709551616 by omega);refine Ea (QfB l.length [3] (by omega) (by simp)) ?_;refine Ea (v:=listB l) ?_ (Qa _);have k:∀m:List Int,(m.map oneB).flatten.length<=11*m.length:=by
  intro m
  induction m with
  |nil=>simp
  |cons x m e=>
   have:=Qim x;simp only[Vl,Vn,X5,X3];omega
 have h:=Yp (step:=λn=>F_ia n (listV l)) (l.map mkV) (λ(a:List Int) (v:Value)=>a++oneB v.N) ([3]++numN l.length) (λa i=>(a,(i:Int))) (λa=>a) (by rw[X4];omega) rfl (λi x a d w=>?_) ?_
 .refine Ew h ?_;have:∀(m:List Int) (a:List Int),(m.map mkV).foldl (λ(a:List Int) (v:Value)=>a++oneB v.N) a=a++(m.map oneB).flatten:=by
   intro m
   induction m with
   |nil=>intro a;simp
   |cons x m e=>intro a;simp only[Vl,XF,Vn];rw[e];simp[mkV]
  rw[this];rfl
 .have s:∃y,x=mkV y:=by
   obtain⟨y,_,u⟩:=Xf.1 d.mem;exact⟨y,u.symm⟩
  obtain⟨y,rfl⟩:=s;have f:a.length<=100000:=by
   have:∀(m:List Int) (a:List Int),((m.map mkV).foldl (λ(a:List Int) (v:Value)=>a++oneB v.N) a).length<=a.length+11*m.length:=by
    intro m
    induction m with
    |nil=>intro a;simp
    |cons x m e=>
     intro a;simp only[Vl,XF,X3];have t:=e (a++oneB (mkV x).N);have g:=Qim (mkV x).N;rw[X5]at t;omega
   have g:=this (l.take i) ([3]++numN l.length);rw[List.map_take, <- w,X5,Xz]at g;simp at g;omega
  unfold F_ia;have b:decide ((i:Int)<((listV l).L.length:Int))=true:=d.lt;have j:idx (listV l).L (i:Int)=some (mkV y):=d.ix;simp only[b,Vr,j,XL,d.nx];refine Ea (QiL a y f) ?_;exact Qa _
 .unfold F_ia;have b:decide (((l.map mkV).length:Int)<((listV l).L.length:Int))=false:=YU _;simp only[b,Vs];exact Qa _
theorem QmP{f:Fact}{b:Int}:∀(r:List Ent) (a c:List Int×Fact×Int),numR f b r a=.cont c->c.1.length=a.1.length+r.length:=by
 intro r
 induction r with
 |nil=>intro a c h;cases h;rfl
 |cons e r d=>
  intro a c h;unfold numR at h;cases q:inE f b e with
  |false=>rw[q]at h;cases h
  |true=>
   rw[q]at h;have:=d _ _ h;simp at this;rw[this,X3];omega
theorem QmR(f:Fact):(numF f).1.length<=12:=by
 unfold numF;cases fineU f (openU f)with
 |false=>simp
 |true=>
  simp only[Vr];cases h:numR f (suspB f) (entsS f) ([],restS f,0)with
  |cont a=>
   have:=QmP _ _ _ h;have:=QfH f;simp at*;omega
  |done r=>
   have:∀(E:List Ent) (a:List Int×Fact×Int),numR f (suspB f) E a=.done r->r=([],false):=by
    intro E
    induction E with
    |nil=>intro a h;cases h
    |cons e E ih=>
     intro a h;unfold numR at h;cases q:inE f (suspB f) e with
     |false=>rw[q]at h;cases h;rfl
     |true=>rw[q]at h;exact ih _ h
   rw[this _ _ h];simp
def encF(f:Fact):List Int×Int:=bif validS f then(listB (numF f).1,0)else([],120)
theorem QgM(f:Fact):Ev (λn=>F_bd n f) (encF f):=by
 unfold F_bd;refine Ea (QkS f) ?_;have l:=QmR f;unfold encF validS;generalize numF f=r at*;cases h:r.2 with
 |false=>exact Qa _
 |true=>
  simp only[Xh,Vs,Vr];refine Ea (v:=r.1.map mkV) ?_ ?_
  .refine Ew (Yp r.1 (λ(a:List Value) (x:Int)=>a++[mkV x]) [] (λa i=>(a,(i:Int))) (λa=>a) (by omega) rfl (λi x a b k=>?_) ?_) ?_
   .unfold F_ir;simp only[b.lt,Vr,b.ix,XL,b.nx];have g:a.length<=12:=by
     have:∀(m:List Int) (a:List Value),(m.foldl (λ(a:List Value) (x:Int)=>a++[mkV x]) a).length=a.length+m.length:=by
      intro m
      induction m with
      |nil=>intro a;simp
      |cons x m d=>intro a;simp only[XF,X3];rw[d];simp;omega
     rw[k,this,Xz];simp;omega
    have e:=Qam a (mkV x) (by omega);unfold mkV at e;rw[e];exact Qa _
   .unfold F_ir;simp only[YU,Vs];exact Qa _
   .have:∀(m:List Int) (a:List Value),m.foldl (λ(a:List Value) (x:Int)=>a++[mkV x]) a=a++m.map mkV:=by
     intro m
     induction m with
     |nil=>intro a;simp
     |cons x m d=>intro a;simp only[XF,Vl];rw[d];simp
    rw[this];rfl
  refine Ea (v:=(listB r.1,0)) ?_ (Qa _);have j:=Qix r.1 (by omega);unfold F_fd F_ep;have e:({Kind:=3,N:=0,S:=[],L:=r.1.map mkV:Value})=listV r.1:=rfl;rw[e];refine Ea (v:=0) (Ea j (Qa _)) ?_;unfold F_gj;exact Ea (QhA r.1 (by omega)) (Qa _)
def cmpI(a b:Int):Int:=bif decide (a<b)then-1 else bif decide (b<a)then 1 else 0
theorem QhG(n:Nat)(a b:Int):F_ag n a b=some (cmpI a b):=by
 unfold F_ag F_bh cmpI;simp only[XL,bne_self_eq_false,Vs];cases decide (a<b)with
 |true=>rfl
 |false=>cases decide (b<a)<;>rfl
def orL:List Int->Int
 |[]=>0
 |x::r=>bif x != 0 then x else orL r
theorem ev_or(l:List Int)(hl:l.length<=1000):Ev (λn=>F_bt n l) (orL l):=by
 unfold F_bt;have loop:∀(r:List Int) (i:Nat),l.drop i=r->i<=l.length->EvI (λn=>F_eh n l) (i:Int) (bif orL r==0 then Ctl.cont ()else Ctl.done (orL r)):=by
  intro r
  induction r with
  |nil=>
   intro i b f;refine Ej ?_;unfold F_eh;simp only[QX b f,Vs];exact Qa _
  |cons x r j=>
   intro i b f;obtain⟨a,d⟩:=Qt (by omega) b;have g:=a.lt';unfold orL;cases q:(x != 0)with
   |true=>
    have e:(x==0)=false:=by simpa[bne]using q
    simp only[Vr,e,Vs];refine Ej ?_;unfold F_eh;simp only[a.lt,Vr,a.ix,XL,q];exact Qa _
   |false=>
    simp only[Vs];refine Ex ?_ (j (i+1) d (by omega));unfold F_eh;simp only[a.lt,Vr,a.ix,XL,q,Vs,a.nx];exact Qa _
 refine Ea (loop l 0 rfl (XW _)).ev ?_;cases h:(orL l==0)with
 |true=>
  have e:orL l=0:=by simpa using h
  rw[e];exact Qa _
 |false=>exact Qa _
def cmpF(f g:Fact):Int:=bif orL [cmpI f.At g.At,cmpI f.Crew g.Crew,cmpI f.No g.No] != 0 then orL [cmpI f.At g.At,cmpI f.Crew g.Crew,cmpI f.No g.No]else cmpB (encF f).1 (encF g).1
theorem Qbz(f g:Fact):Ev (λn=>F_ad n f g) (cmpF f g):=by
 unfold F_ad cmpF;simp only[QhG,XL];refine Ea (ev_or _ (by simp)) ?_;cases(orL [cmpI f.At g.At,cmpI f.Crew g.Crew,cmpI f.No g.No] != 0)with
 |true=>exact Qa _
 |false=>
  simp only[Vs];refine Ea (QgM f) (Ea (QgM g) ?_);exact Qa _
def okS(c:Course)(f:Fact):Bool:=(f.Kind==1)&&(validS f&&(!decide ((c.Distances.length:Int)<=f.Starter.Distance)&& !decide ((c.Waves.length:Int)<=f.Starter.Wave)))
def stepS(c:Course)(m:List (Int×Fact))(f:Fact):List (Int×Fact):=
 bif okS c f then(bif !(Qcl m f.Starter.Bib)||decide (cmpF f (Qx m f.Starter.Bib Uk)<0)then Q5 m f.Starter.Bib f else m)else m
def firstS(c:Course)(l:List Fact):List (Int×Fact):=l.foldl (stepS c) []
theorem Qnj(c:Course)(l:List Fact)(hl:l.length<=1048576):Ev (λn=>iter (F_ht n c l) n ([],0)) (firstS c l):=by
 refine Yp l (stepS c) [] (λa i=>(a,(i:Int))) (λa=>a) (by omega) rfl (λi x a ha _=>?_) ?_
 .unfold F_ht;simp only[ha.lt,Vr,ha.ix,XL,ha.nx];refine Ea (v:=stepS c a x) ?_ (Qa _);refine Ea (v:= !okS c x) ?_ ?_
  .unfold okS bne;cases(x.Kind==1)with
   |false=>exact Qa _
   |true=>
    refine Ea (Qal x) ?_;cases validS x with
    |false=>exact Qa _
    |true=>
     simp only[Vr,VC];cases decide ((c.Distances.length:Int)<=x.Starter.Distance)with
     |true=>exact Qa _
     |false=>
      cases decide ((c.Waves.length:Int)<=x.Starter.Wave)<;>exact Qa _
  .unfold stepS;cases okS c x with
   |false=>exact Qa _
   |true=>
    simp only[Xh,Vs,Vr];refine Ea (v:= !(Qcl a x.Starter.Bib)||decide (cmpF x (Qx a x.Starter.Bib Uk)<0)) (Eu λ_=>Ea (Qbz _ _) (Qa _)) ?_;cases(!(Qcl a x.Starter.Bib)||decide (cmpF x (Qx a x.Starter.Bib Uk)<0))<;>exact Qa _
 .unfold F_ht;simp only[YU,Vs];exact Qa _
structure FirstOk (c:Course) (l:List Fact) (m:List (Int×Fact)):Prop where
 nodup:(m.map Prod.fst).Nodup
 ok:∀k f,Y1 m k=some f->f.Starter.Bib=k/\okS c f=true/\f∈l
 len:m.length<=l.length
theorem QmS{β:Type}(m:List (Int×β))(k:Int)(v:β):(Q5 m k v).length<=m.length+1:=by
 have:=congrArg List.length (QdE m k v);rw[X4]at this;rw[this];split<;>simp
theorem QjP{β:Type}{m:List (Int×β)}(k:Int)(v:β)(h:(m.map Prod.fst).Nodup):((Q5 m k v).map Prod.fst).Nodup:=by
 have e:=QdE m k v;have i:(Q5 m k v).map Prod.fst=if k∈m.map Prod.fst then m.map Prod.fst else m.map Prod.fst++[k]:=e
 rw[i];split
 .exact h
 .rename_i g;rw[List.nodup_append];refine⟨h,by simp,λa f b d=>?_⟩;rw[VD]at d;rintro rfl;exact g (d▸f)
theorem QgC(c:Course)(l:List Fact):FirstOk c l (firstS c l):=by
 have j:∀(r:List Fact) (p:List Fact) (m:List (Int×Fact)),FirstOk c p m->FirstOk c (p++r) (r.foldl (stepS c) m):=by
  intro r
  induction r with
  |nil=>intro p m h;simpa using h
  |cons f r s=>
   intro p m h;have n:FirstOk c (p++[f]) (stepS c m f):=by
    have keep:FirstOk c (p++[f]) m:=⟨h.nodup,λk g i=>by obtain⟨a,b,d⟩:=h.ok k g i;exact⟨a,b,List.mem_append_left _ d⟩,by have:=h.len;simp;omega⟩;unfold stepS;cases q:okS c f with
    |false=>exact keep
    |true=>
     simp only[Vr];cases(!(Qcl m f.Starter.Bib)||decide (cmpF f (Qx m f.Starter.Bib Uk)<0))with
     |false=>exact keep
     |true=>
      refine⟨QjP _ _ h.nodup,λk g i=>?_,?_⟩
      .simp only[Vr]at i;rw[Qgt]at i;by_cases e:k=f.Starter.Bib
       .rw[Vv e]at i;cases i;exact⟨e.symm,q,by simp⟩
       .rw[Vu e]at i;exact keep.ok k g i
      .have:=QmS m f.Starter.Bib f;have:=h.len;simp only[Vr,X5,List.length_singleton];omega
   have:=s (p++[f]) _ n;simpa using this
 have:=j l [] [] ⟨by simp,(λk f h=>by cases h),XV _⟩;simpa[firstS]using this
theorem Qls{l m:List Int}(h:l.Perm m):Ji ltI l=Ji ltI m:=
 Js ((Qq ltI l).trans (h.trans (Qq ltI m).symm)) (λx _ y _ a b=>by simp[ltI]at*;omega) (Q4 (Qhn l)) (Q4 (Qhn m))
theorem QeC{n:Nat}(h:n<=1048576):Nat.ble n Qv=true:=XU (XX h (by decide))
theorem Qlf(n:Nat)(m:List (Int×Fact))(h:m.length<=1048576):F_cd n m=some (Ji ltI (m.map Prod.fst)):=by
 unfold F_cd QnD;have b:(List.map Prod.fst m).length<=1048576:=by rw[X4];exact h
 rw[QeC b,Vr];refine QkZ λp a=>?_;unfold sortI;rw[QeC (by rw[a.length_eq];exact b)];show some (Ji ltI p)=_;rw[Qls a]
def ordF(m:List (Int×Fact)):List Fact:=(Ji ltI (m.map Prod.fst)).map λk=>Qx m k Uk
theorem Qik(m:List (Int×Fact)):(ordF m).length=m.length:=by
 unfold ordF;rw[X4,(Qq _ _).length_eq,X4]
theorem Qj2(m:List (Int×Fact))(h:m.length<=1048576):Ev (λn=>F_dm n m) (ordF m):=by
 unfold F_dm F_ed;simp only[XL];refine Ea (v:=Ji ltI (m.map Prod.fst)) ⟨0,λn _=>Qlf n m h⟩ ?_;have g:(Ji ltI (m.map Prod.fst)).length=m.length:=by rw[(Qq _ _).length_eq,X4]
 refine Ea (v:=ordF m) ?_ (Qa _);unfold ordF;generalize Ji ltI (m.map Prod.fst)=ks at g;have e:ks.map (λk=>Qx m k Uk)=ks.foldl (λ(a:List Fact) k=>a++[Qx m k Uk]) []:=by
  have:∀(r:List Int) (a:List Fact),r.foldl (λ(a:List Fact) k=>a++[Qx m k Uk]) a=a++r.map λk=>Qx m k Uk:=by
   intro r
   induction r with
   |nil=>intro a;simp
   |cons x r d=>intro a;simp only[XF,Vl];rw[d];simp
  rw[this];rfl
 rw[e];refine Yp ks (λ(a:List Fact) k=>a++[Qx m k Uk]) [] (λa i=>(a,(i:Int))) (λa=>a) (by omega) rfl (λi x a b j=>?_) ?_
 .unfold F_jh;simp only[b.lt,Vr,b.ix,XL,b.nx];have f:a.length=i:=by
   have:∀(r:List Int) (a:List Fact),(r.foldl (λ(a:List Fact) k=>a++[Qx m k Uk]) a).length=a.length+r.length:=by
    intro r
    induction r with
    |nil=>intro a;rfl
    |cons x r d=>intro a;simp only[XF];rw[d];simp;omega
   rw[j,this,Xz];have:=b.lt';simp;omega
  have:=b.lt';rw[Qam a _ (by omega)];exact Qa _
 .unfold F_jh;simp only[YU,Vs];exact Qa _
def chipK(f:Fact):Int:=f.Starter.Chip
def startF(e:Int)(c:Course)(l:List Fact):List Starter×Int:=bif e != 0 then([],e)else
 bif decide (((ordF (firstS c l)).map chipK).Nodup)then((ordF (firstS c l)).map (·.Starter),0)else([],180)
theorem Qoz(L:List Fact)(hl:L.length<=1048576):Ev (λn=>iter (F_dc n L) n ([],[],0)) (bif decide ((L.map chipK).Nodup)then Ctl.cont (L.map (·.Starter))else Ctl.done ([],180)):=by
 have loop:∀(r:List Fact) (i:Nat),L.drop i=r->i<=L.length->EvI (λn=>F_dc n L) ((L.take i).map (·.Starter),Q3 chipK true (L.take i),(i:Int))
   (bif QhK (λ_=>true) chipK ((L.take i).map chipK) r then Ctl.cont (L.map (·.Starter))else Ctl.done ([],180)):=by
  intro r
  induction r with
  |nil=>
   intro i d k;refine Ej ?_;have b:L.length<=i:=Xs.1 d;have e:L.take i=L:=VK b;unfold F_dc;simp only[QX d k,Vs,e,QhK,Vr];exact Qa _
  |cons f r p=>
   intro i d k;obtain⟨a,j⟩:=Qt (by omega) d;have m:=a.lt';have g:=Qaq chipK true false (L.take i) (chipK f);simp only[QhK,VC];cases q:((L.take i).map chipK).contains (chipK f)with
   |true=>
    have h:chipK f∈(L.take i).map chipK:=by simpa using q
    rw[Vv h]at g;simp only[Xh,Bool.false_and,Vs];refine Ej ?_;unfold F_dc;simp only[a.lt,Vr,a.ix,XL];rw[show f.Starter.Chip=chipK f from rfl,g];exact Qa _
   |false=>
    have h:¬chipK f∈(L.take i).map chipK:=by
     intro z;have:((L.take i).map chipK).contains (chipK f)=true:=by simpa using z
     rw[q]at this;cases this
    rw[Vu h]at g;simp only[Xi,VC];have l:=p (i+1) j (by omega);rw[a.take,QcZ,Xg,Xg]at l;refine Ex ?_ l;unfold F_dc;simp only[a.lt,Vr,a.ix,XL,a.nx];rw[show f.Starter.Chip=chipK f from rfl,g];simp only[Vs];rw[Qam _ _ (by rw[X4,Xz];omega)];exact Qa _
 refine Ew (loop L 0 rfl (XW _)).ev ?_;have:=QhJ (λ_=>true) chipK L [] (by simp);simp only[List.take_zero,Vm];rw[this,Xu.2 (λ_ _=>rfl),VC,Vj]
theorem QiM(e:Int)(c:Course)(l:List Fact)(hl:l.length<=16)(he:Ev (λn=>F_c n c) e):Ev (λn=>F_ck n c l) (startF e c l):=by
 unfold F_ck startF;refine Ea he ?_;cases(e != 0)with
 |true=>exact Qa _
 |false=>
  simp only[Vs];refine Ea (Qnj c l (by omega)) ?_;have h:=QgC c l;have a:=h.len;rw[Q9 (show¬(4000:Int)<((firstS c l).length:Int)by omega)];refine QP (Ea (Qj2 _ (by omega)) ?_);refine Ea (Qoz _ (by rw[Qik];omega)) ?_;cases decide (((ordF (firstS c l)).map chipK).Nodup)<;>exact Qa _
theorem QoI{a b:Int}:cmpI a b<0↔a<b:=by
 unfold cmpI;by_cases h:a<b
 .rw[Vw h];simp[h]
 .rw[Vz h];by_cases d:b<a
  .rw[Vw d];simp;omega
  .rw[Vz d];simp;omega
theorem Qqb{a b:Int}:cmpI a b=0↔a=b:=by
 unfold cmpI;by_cases h:a<b
 .rw[Vw h];simp;omega
 .rw[Vz h];by_cases d:b<a
  .rw[Vw d];simp;omega
  .rw[Vz d];simp;omega
set_option maxRecDepth 4000
theorem Qol(f:Fact)(b:Int):∀(E:List Ent) (a:List Int×Fact×Int),numR f b E a=bif E.all (inE f b)then .cont (a.1++E.map (getV f b),E.foldl (λp e=>putV p.1 p.2 e (getV f b e)) a.2)else .done ([],false):=by
 intro E
 induction E with
 |nil=>intro a;simp[numR]
 |cons e E ih=>
  intro a;unfold numR;rw[List.all_cons];cases h:inE f b e with
  |false=>rfl
  |true=>
   simp only[Vr,VC,Vl,XF];rw[ih];simp
def onlyS(f:Fact):Fact:={Crew:=f.Crew,No:=f.No,At:=f.At,Kind:=f.Kind,Starter:=(bif f.Kind==1 then f.Starter else Uk.Starter),Read:=(bif f.Kind==2 then f.Read else Uk.Read),Beacon:=(bif f.Kind==3 then f.Beacon else Uk.Beacon),Sync:=(bif f.Kind==4 then f.Sync else Uk.Sync),Hand:=(bif f.Kind==5 then f.Hand else Uk.Hand),Silence:=(bif f.Kind==6 then f.Silence else Uk.Silence),Pair:=(bif f.Kind==7 then f.Pair else Uk.Pair),Report:=(bif f.Kind==8 then f.Report else Uk.Report),Protest:=(bif f.Kind==9 then f.Protest else Uk.Protest),Ruling:=(bif f.Kind==10 then f.Ruling else Uk.Ruling),Appeal:=(bif f.Kind==11 then f.Appeal else Uk.Appeal),Void:=(bif f.Kind==13 then f.Void else Uk.Void):Fact}
def numsS(f:Fact):List Int:=[f.Kind,f.Crew,f.No,f.At]++(
 bif f.Kind==1 then[f.Starter.Bib,f.Starter.Distance,f.Starter.Wave,f.Starter.Slot,f.Starter.Age,f.Starter.Chip,f.Starter.Team,f.Starter.Lot]
 else bif f.Kind==2 then[f.Read.Mat,f.Read.Epoch,f.Read.Chip,f.Read.Local]
 else bif f.Kind==3 then[f.Beacon.Mat,f.Beacon.Epoch,f.Beacon.Local,f.Beacon.True,f.Beacon.Err]
 else bif f.Kind==4 then[f.Sync.MatA,f.Sync.EpochA,f.Sync.LocalA,f.Sync.MatB,f.Sync.EpochB,f.Sync.LocalB,f.Sync.Min,f.Sync.Max]
 else bif f.Kind==5 then[f.Hand.Bib,f.Hand.Position,f.Hand.Lo,f.Hand.Hi]
 else bif f.Kind==6 then[f.Silence.Mat,f.Silence.Epoch,f.Silence.Lo,f.Silence.Hi]
 else bif f.Kind==7 then[f.Pair.A,f.Pair.B]
 else bif f.Kind==8 then[f.Report.Case,f.Report.Bib,f.Report.Offence,f.Report.Position]
 else bif f.Kind==9 then[f.Protest.Case,f.Protest.By,f.Protest.Fee,f.Protest.Form]
 else bif f.Kind==10 then[f.Ruling.Case,f.Ruling.Instance,f.Ruling.Kind,f.Ruling.Bib,f.Ruling.Position,f.Ruling.Amount]
 else bif f.Kind==11 then[f.Appeal.Case,suspB f]
 else bif f.Kind==13 then[f.Void.Crew,f.Void.No]else[])
theorem kinds(f:Fact):f.Kind=1\/f.Kind=2\/f.Kind=3\/f.Kind=4\/f.Kind=5\/f.Kind=6\/f.Kind=7\/f.Kind=8\/f.Kind=9\/f.Kind=10\/f.Kind=11\/f.Kind=12\/f.Kind=13\/openU f=.c13 ():=by
 by_cases p:f.Kind=1; · exact .inl p
 by_cases n:f.Kind=2; · exact .inr (.inl n)
 by_cases j:f.Kind=3; · exact .inr (.inr (.inl j))
 by_cases l:f.Kind=4; · exact .inr (.inr (.inr (.inl l)))
 by_cases h:f.Kind=5; · exact .inr (.inr (.inr (.inr (.inl h))))
 by_cases m:f.Kind=6; · exact .inr (.inr (.inr (.inr (.inr (.inl m)))))
 by_cases g:f.Kind=7; · exact .inr (.inr (.inr (.inr (.inr (.inr (.inl g))))))
 by_cases i:f.Kind=8; · exact .inr (.inr (.inr (.inr (.inr (.inr (.inr (.inl i)))))))
 by_cases k:f.Kind=9; · exact .inr (.inr (.inr (.inr (.inr (.inr (.inr (.inr (.inl k))))))))
 by_cases b:f.Kind=10; · exact .inr (.inr (.inr (.inr (.inr (.inr (.inr (.inr (.inr (.inl b)))))))))
 by_cases e:f.Kind=11; · exact .inr (.inr (.inr (.inr (.inr (.inr (.inr (.inr (.inr (.inr (.inl e))))))))))
 by_cases a:f.Kind=12; · exact .inr (.inr (.inr (.inr (.inr (.inr (.inr (.inr (.inr (.inr (.inr (.inl a)))))))))))
 by_cases d:f.Kind=13; · exact .inr (.inr (.inr (.inr (.inr (.inr (.inr (.inr (.inr (.inr (.inr (.inr (.inl d))))))))))))
 refine .inr (.inr (.inr (.inr (.inr (.inr (.inr (.inr (.inr (.inr (.inr (.inr (.inr ?_))))))))))));unfold openU;simp only[VB.2 p,VB.2 n,VB.2 j,VB.2 l,VB.2 h,VB.2 m,VB.2 g,VB.2 i,VB.2 k,VB.2 b,VB.2 e,VB.2 a,VB.2 d,Vs]
def copyS(f:Fact):Fact×Int:=(entsS f).foldl (λp e=>putV p.1 p.2 e (getV f (suspB f) e)) (restS f,0)
theorem Qhk(f:Fact):numF f=bif fineU f (openU f)then(bif (entsS f).all (inE f (suspB f))then((entsS f).map (getV f (suspB f)),lastF f (copyS f).1 (copyS f).2==f)else([],false))else([],false):=by
 unfold numF;rw[Qol];cases fineU f (openU f)with
 |false=>rfl
 |true=>
  simp only[Vr];cases(entsS f).all (inE f (suspB f))with
  |false=>rfl
  |true=>simp only[Vr,Vj];rfl
theorem QdJ(f:Fact)(h:¬openU f=.c13 ()):lastF f (copyS f).1 (copyS f).2=onlyS f/\(entsS f).map (getV f (suspB f))=numsS f:=by
 rcases kinds f with k|k|k|k|k|k|k|k|k|k|k|k|k|k
 case inr.inr.inr.inr.inr.inr.inr.inr.inr.inr.inl=>
  obtain⟨Cr,No,At,Ki,S,R,B,Sy,Ha,Si,Pa,Re,Pr,Ru,⟨Ca,Su⟩,Vo⟩:=f;simp only at k;subst k;cases Su<;>exact⟨by kernel_rfl,by kernel_rfl⟩
 case inr.inr.inr.inr.inr.inr.inr.inr.inr.inl=>
  obtain⟨Cr,No,At,Ki,S,R,B,Sy,Ha,Si,Pa,Re,Pr,⟨i,b,a,j,d,e⟩,Ap,Vo⟩:=f;simp only at k;subst k;have:∃x,openU ⟨Cr,No,At,10,S,R,B,Sy,Ha,Si,Pa,Re,Pr,⟨i,b,a,j,d,e⟩,Ap,Vo⟩=.c9 x:=by
   unfold openU;show∃x,(bif (a==1)||(a==2)then U_facts_open_rxk.c9 (0,0,0,0,0,0)else bif a==3 then .c9 (1,9999,0,255,1,1099511627776)else bif a==4 then .c9 (1,9999,0,255,1,64)else .c9 (1,9999,0,255,0,0))=.c9 x;cases((a==1)||(a==2))with
   |true=>exact⟨_,rfl⟩
   |false=>
    cases(a==3)with
    |true=>exact⟨_,rfl⟩
    |false=>cases(a==4)<;>exact⟨_,rfl⟩
  obtain⟨x,g⟩:=this;unfold copyS entsS;rw[g];exact⟨by kernel_rfl,by kernel_rfl⟩
 case inr.inr.inr.inr.inr.inr.inr.inr.inr.inr.inr.inr.inr=>exact absurd k h
 all_goals
  obtain⟨Cr,No,At,Ki,S,R,B,Sy,Ha,Si,Pa,Re,Pr,Ru,Ap,Vo⟩:=f;simp only at k;subst k;exact⟨by kernel_rfl,by kernel_rfl⟩
def contS(f:Fact):Bool:=fineU f (openU f)&&(bodyL (openU f)).all (inE f (suspB f))
def headS(f:Fact):Bool:=headL.all (inE f (suspB f))
theorem Qdv(f:Fact):validS f=(headS f&&contS f&&(onlyS f==f)):=by
 unfold validS contS headS;rw[Qhk];by_cases h:openU f=.c13 ()
 .have:fineU f (openU f)=false:=by rw[h];rfl
  rw[this];simp
 .obtain⟨a,b⟩:=QdJ f h;rw[a];unfold entsS;rw[List.all_append];cases fineU f (openU f)with
  |false=>simp
  |true=>
   cases headL.all (inE f (suspB f))with
   |false=>rfl
   |true=>cases(bodyL (openU f)).all (inE f (suspB f))<;>rfl
theorem Qju{f:Fact}(h:validS f=true):(numF f).1=numsS f:=by
 have g:=h;unfold validS at h;rw[Qhk]at h⊢;by_cases q:openU f=.c13 ()
 .have:fineU f (openU f)=false:=by rw[q];rfl
  rw[this]at h;cases h
 .obtain⟨e,d⟩:=QdJ f q;cases a:fineU f (openU f)with
  |false=>rw[a]at h;cases h
  |true=>
   rw[a]at h;cases b:(entsS f).all (inE f (suspB f))with
   |false=>rw[b]at h;cases h
   |true=>exact d
theorem QeM{f:Fact}(h:validS f=true):onlyS f=f:=by
 rw[Qdv]at h;simp only[XY,VA]at h;exact h.2
theorem QmO{f g:Fact}(a:validS f=true)(hg:validS g=true)(h:numsS f=numsS g):f=g:=by
 have i:=QeM a;have e:=QeM hg;rw[<- i, <- e];unfold numsS at h;have j:f.Kind=g.Kind:=by
  simp only[VM,List.cons.injEq]at h;exact h.1
 have nk:=Qjv a;rcases kinds f with k|k|k|k|k|k|k|k|k|k|k|k|k|k
 case inr.inr.inr.inr.inr.inr.inr.inr.inr.inr.inr.inr.inr=>
  rw[Qdv]at a;unfold contS at a;rw[k]at a;simp[fineU]at a
 all_goals
  have m:=j.symm.trans k;clear a hg j nk i e;obtain⟨Cr,No,At,Ki,⟨s1,s2,s3,s4,s5,s6,s7,s8⟩,⟨ab,Q,ao,F⟩,⟨b1,b2,b3,b4,b5⟩,⟨y1,y2,y3,y4,y5,y6,y7,y8⟩,⟨h1,h2,h3,h4⟩,⟨i1,i2,i3,i4⟩,⟨p1,p2⟩,⟨u1,u2,u3,u4⟩,⟨o1,o2,o3,o4⟩,⟨r1,r2,r3,r4,r5,r6⟩,⟨a1,M⟩,⟨v1,v2⟩⟩:=f;obtain⟨Cr',No',At',Ki',⟨O,a5,u,G,r,ay,X,w⟩,⟨p,n,d,l⟩,⟨az,W,af,a0,V⟩,⟨aj,ah,a3,t,aq,L,s,aw⟩,⟨z,ak,aa,am⟩,⟨q,J,P,ae⟩,⟨ag,E⟩,⟨x,al,a4,H⟩,⟨av,T,ax,y⟩,⟨an,ar,N,au,R,ac⟩,⟨B,b⟩,⟨Y,ai⟩⟩:=g;simp only at k m;subst k;subst m
  first
   |(simp[suspB]at h;simp[onlyS,h];done)
   |(cases M<;>cases b<;>simp[suspB]at h<;>simp[onlyS,h])
set_option maxRecDepth 4000
theorem Qg6(x:Int):IntKind.u64.wrap x=x%18446744073709551616:=by unfold IntKind.wrap;rfl
theorem Qjt(x:Int):IntKind.u8.wrap x=x%256:=by unfold IntKind.wrap;rfl
theorem or8(a b:Int):orI .u8 a b=(((BitVec.ofInt 8 a|||BitVec.ofInt 8 b).toNat:Nat):Int)%256:=by unfold orI;exact Qjt _
theorem QoX(a b:Int):QeL .u64 a b=(((BitVec.ofInt 64 a^^^BitVec.ofInt 64 b).toNat:Nat):Int)%18446744073709551616:=by unfold QeL;exact Qg6 _
theorem or128(v:Nat):orI .u8 (IntKind.u8.wrap (v:Int)) 128=((v%128+128:Nat):Int):=by
 have a:∀m:Fin 256,((BitVec.ofNat 8 m.val|||128#8).toNat)=m.val%128+128:=by decide
 have b:v%256<256:=Nat.mod_lt _ (by decide);have k:(BitVec.ofNat 8 (v%256)|||128#8).toNat=v%256%128+128:=a ⟨v%256,b⟩;have e:BitVec.ofInt 8 ((v:Int)%256)=BitVec.ofNat 8 (v%256):=by
  have:((v:Int)%256)=((v%256:Nat):Int):=by omega
  rw[this];exact BitVec.ofInt_natCast 8 (v%256)
 have d:BitVec.ofInt 8 128=128#8:=by rfl
 rw[or8,Qjt,e,d,k];omega
theorem QdD(v:Nat):numN v=if 128<=v then((v%128+128:Nat):Int)::numN (v/128)else[(v:Int)]:=by
 by_cases h:128<=v
 .rw[Qe5 h,Vv h,or128]
 .rw[QaM h,Vu h,Qjt];congr 1;omega
theorem Qio:∀(v w:Nat) (a b:List Int),numN v++a=numN w++b->v=w/\a=b:=by
 intro v
 induction v using Nat.strongRecOn with
 |_ v g=>
 intro w a b h;rw[QdD v,QdD w]at h;by_cases e:128<=v
 .rw[Vv e]at h;by_cases d:128<=w
  .rw[Vv d]at h;simp only[VM,List.cons.injEq]at h;obtain⟨i,f⟩:=g (v/128) (by omega) (w/128) a b h.2;exact⟨by omega,f⟩
  .rw[Vu d]at h;simp only[VM,List.cons.injEq]at h;omega
 .rw[Vu e]at h;by_cases d:128<=w
  .rw[Vv d]at h;simp only[VM,List.cons.injEq]at h;omega
  .rw[Vu d]at h;simp only[VM,List.cons.injEq,Vj]at h;exact⟨by omega,h.2⟩
theorem Qe4:∀(v:Nat),∀x∈numN v,0<=x/\x<256:=by
 intro v
 induction v using Nat.strongRecOn with
 |_ v d=>
 intro x a;rw[QdD v]at a;by_cases b:128<=v
 .rw[Vv b]at a;rcases X8.1 a with rfl|a
  .omega
  .exact d (v/128) (by omega) x a
 .rw[Vu b]at a;rcases X8.1 a with rfl|a
  .omega
  .cases a
theorem Qg3{x:Int}(h0:0<=x)(e:x<9223372036854775808):zigI x=2*x:=by
 unfold zigI QeR;have a:Qcw .i64 x 63=0:=by
  show Int.fdiv x (2^63)=0;rw[Int.fdiv_eq_ediv_of_nonneg _ (by decide)];omega
 have d:(2:Int)^(min (1:Int).toNat IntKind.u64.bits)=2:=by decide
 rw[a,d,QoX];simp only[Qg6];have b:BitVec.ofInt 64 ((0:Int)%18446744073709551616)=0#64:=by rfl
 rw[b,BitVec.xor_zero,BitVec.toNat_ofInt];omega
theorem Qg5{x:Int}(h0:x<0)(e: -9223372036854775808<=x):zigI x= -2*x-1:=by
 unfold zigI QeR;have a:Qcw .i64 x 63= -1:=by
  show Int.fdiv x (2^63)= -1;rw[Int.fdiv_eq_ediv_of_nonneg _ (by decide)];omega
 have d:(2:Int)^(min (1:Int).toNat IntKind.u64.bits)=2:=by decide
 rw[a,d,QoX];simp only[Qg6];have b:BitVec.ofInt 64 ((-1:Int)%18446744073709551616)=BitVec.allOnes 64:=by decide
 rw[b,BitVec.xor_allOnes,BitVec.toNat_not,BitVec.toNat_ofInt];omega
def in63(x:Int):Prop:= -9223372036854775808<=x/\x<9223372036854775808
theorem Qod{x y:Int}(e:in63 x)(f:in63 y)(h:zigI x=zigI y):x=y:=by
 obtain⟨a,b⟩:=e;obtain⟨c,d⟩:=f;by_cases p:0<=x
 .rw[Qg3 p b]at h;by_cases q:0<=y
  .rw[Qg3 q d]at h;omega
  .rw[Qg5 (by omega) c]at h;omega
 .rw[Qg5 (by omega) a]at h;by_cases q:0<=y
  .rw[Qg3 q d]at h;omega
  .rw[Qg5 (by omega) c]at h;omega
theorem Qil:∀(l m:List Int),l.length=m.length->(∀x∈l,in63 x)->(∀x∈m,in63 x)->(l.map oneB).flatten=(m.map oneB).flatten->l=m
 |[],[],_,_,_,_=>rfl
 |x::l,y::m,hl,h1,h2,h=>by
  simp only[Vl,Vn,oneB,VM,List.cons.injEq,true_and]at h;obtain⟨e1,e2⟩:=Qio _ _ _ _ h;obtain⟨z,p1,p2⟩:=Qg4 x;obtain⟨z',q1,q2⟩:=Qg4 y;rw[p1,q1]at e1;have:x=y:=Qod (h1 x (by simp)) (h2 y (by simp)) (by rw[p1,q1]at*;simp only[Int.toNat_natCast]at e1;omega);rw[this,Qil l m (by simpa using hl) (λz hz=>h1 z (by simp[hz])) (λz hz=>h2 z (by simp[hz])) e2]
theorem Qlp{l m:List Int}(b:∀x∈l,in63 x)(d:∀x∈m,in63 x)(h:listB l=listB m):l=m:=by
 unfold listB at h;rw[Vk,Vk]at h;simp only[VM,Vj,List.cons.injEq,true_and]at h;obtain⟨a,e⟩:=Qio _ _ _ _ h;exact Qil l m a b d e
theorem Qd4(l:List Int):∀x∈listB l,0<=x/\x<256:=by
 intro x a;unfold listB at a;simp only[VF,VD,List.mem_flatten,Xf]at a;rcases a with(rfl|a)|⟨m,⟨y,_,rfl⟩,a⟩
 .omega
 .exact Qe4 _ x a
 .unfold oneB at a;rcases X8.1 a with rfl|a
  .omega
  .exact Qe4 _ x a
structure CmpOK {α:Type} (c:α->α->Int):Prop where
 swap:∀x y,c y x= -c x y
 trans:∀x y z,c x y<0->c y z<0->c x z<0
 eqt:∀x y z,c x y=0->c x z=c y z
section
variable {α:Type} {c d:α->α->Int}
theorem CmpOK.refl(h:CmpOK c)(x:α):c x x=0:=by have:=h.swap x x;omega
theorem CmpOK.eqr(h:CmpOK c){x y:α}(z:α)(e:c x y=0):c z x=c z y:=by
 rw[h.swap x z,h.swap y z,h.eqt x y z e]
theorem QdW(h:CmpOK c)(k:CmpOK d):CmpOK λx y=>bif c x y != 0 then c x y else d x y:=by
 refine⟨λx y=>?_,λx y z=>?_,λx y z=>?_⟩
 .show(bif c y x != 0 then c y x else d y x)= -(bif c x y != 0 then c x y else d x y);have e:=h.swap x y;by_cases q:c x y=0
  .have f:c y x=0:=by omega
   rw[q,f];exact k.swap x y
  .have f:¬c y x=0:=by omega
   rw[bne_iff_ne.2 q,bne_iff_ne.2 f];exact e
 .show(bif c x y != 0 then c x y else d x y)<0->(bif c y z != 0 then c y z else d y z)<0->(bif c x z != 0 then c x z else d x z)<0;by_cases q:c x y=0
  .have e:=h.eqt x y z q;rw[q,e];by_cases f:c y z=0
   .rw[f];exact k.trans x y z
   .rw[bne_iff_ne.2 f];intro _ b;exact b
  .rw[bne_iff_ne.2 q];by_cases f:c y z=0
   .have e:=h.eqr x f;rw[f, <- e,bne_iff_ne.2 q];intro a _;exact a
   .rw[bne_iff_ne.2 f];intro a b;have:=h.trans x y z a b;rw[bne_iff_ne.2 (show¬c x z=0 by omega)];exact this
 .show(bif c x y != 0 then c x y else d x y)=0->(bif c x z != 0 then c x z else d x z)=(bif c y z != 0 then c y z else d y z);by_cases q:c x y=0
  .rw[q,h.eqt x y z q];intro e;have e:d x y=0:=e;rw[k.eqt x y z e]
  .rw[bne_iff_ne.2 q];intro e;exact absurd e q
theorem CmpOK.on{β:Type}(h:CmpOK c)(f:β->α):CmpOK λx y=>c (f x) (f y):=
 ⟨λx y=>h.swap _ _,λx y z=>h.trans _ _ _,λx y z=>h.eqt _ _ _⟩
end
theorem cmpI_ok:CmpOK cmpI:=by
 have e:∀a b,cmpI a b=if a<b then-1 else if b<a then 1 else 0:=by
  intro a b;unfold cmpI;by_cases h:a<b
  .rw[Vw h,Vv h];rfl
  .rw[Vz h,Vu h];by_cases d:b<a
   .rw[Vw d,Vv d];rfl
   .rw[Vz d,Vu d];rfl
 refine⟨λx y=>?_,λx y z=>?_,λx y z=>?_⟩
 .rw[e,e];split<;>split<;>omega
 .rw[e,e,e];intro a b;have f:x<y:=by
   by_cases q:x<y
   .exact q
   .rw[Vu q]at a;split at a<;>omega
  have d:y<z:=by
   by_cases q:y<z
   .exact q
   .rw[Vu q]at b;split at b<;>omega
  rw[Vv (by omega)];omega
 .rw[e x y];intro h;have:x=y:=by
   by_cases q:x<y
   .rw[Vv q]at h;omega
   .rw[Vu q]at h;split at h<;>omega
  rw[this]
theorem cb_ok:CmpOK Lib.compareBytes:=by
 have j:∀x y:List UInt8,Lib.compareBytes y x= -Lib.compareBytes x y:=by
  intro x
  induction x with
  |nil=>intro y;cases y<;>simp[Lib.compareBytes]
  |cons a x f=>
   intro y;cases y with
   |nil=>simp[Lib.compareBytes]
   |cons b y=>
    unfold Lib.compareBytes;by_cases h:a<b
    .have l:¬b<a:=by rw[UInt8.lt_iff_toNat_lt]at*;omega
     rw[Vv h,Vu l,Vv h];rfl
    .rw[Vu h];by_cases i:b<a
     .rw[Vv i,Vu h,Vv i]
     .rw[Vu i,Vu i,Vu h];exact f y
 have eq:∀x y:List UInt8,Lib.compareBytes x y=0->x=y:=by
  intro x
  induction x with
  |nil=>intro y h;cases y with
   |nil=>rfl
   |cons b y=>simp[Lib.compareBytes]at h
  |cons a x f=>
   intro y h;cases y with
   |nil=>simp[Lib.compareBytes]at h
   |cons b y=>
    unfold Lib.compareBytes at h;by_cases q:a<b
    .rw[Vv q]at h;omega
    .rw[Vu q]at h;by_cases e:b<a
     .rw[Vv e]at h;omega
     .rw[Vu e]at h;have:a=b:=by
       rw[UInt8.lt_iff_toNat_lt]at q e;exact UInt8.toNat_inj.1 (by omega)
      rw[this,f y h]
 refine⟨j,?_,λx y z h=>by rw[eq x y h]⟩;intro x
 induction x with
 |nil=>
  intro y z h k;cases y with
  |nil=>simp[Lib.compareBytes]at h
  |cons b y=>cases z with
   |nil=>simp[Lib.compareBytes]at k
   |cons d z=>simp[Lib.compareBytes]
 |cons a x f=>
  intro y z h k;cases y with
  |nil=>simp[Lib.compareBytes]at h
  |cons b y=>
   cases z with
   |nil=>simp[Lib.compareBytes]at k
   |cons d z=>
    unfold Lib.compareBytes at h k⊢;simp only[UInt8.lt_iff_toNat_lt]at*;by_cases q:a.toNat<b.toNat
    .by_cases r:b.toNat<d.toNat
     .rw[Vv (by omega)];omega
     .rw[Vu r]at k;by_cases g:d.toNat<b.toNat
      .rw[Vv g]at k;omega
      .rw[Vv (by omega)];omega
    .rw[Vu q]at h;by_cases e:b.toNat<a.toNat
     .rw[Vv e]at h;omega
     .rw[Vu e]at h;by_cases r:b.toNat<d.toNat
      .rw[Vv (by omega)];omega
      .rw[Vu r]at k;by_cases g:d.toNat<b.toNat
       .rw[Vv g]at k;omega
       .rw[Vu g]at k;rw[Vu (by omega),Vu (by omega)];exact f y z h k
theorem Qpd:∀{x y:List UInt8},Lib.compareBytes x y=0->x=y
 |[],[],_=>rfl
 |[],_::_,h=>by simp[Lib.compareBytes]at h
 |_::_,[],h=>by simp[Lib.compareBytes]at h
 |a::x,b::y,h=>by
  unfold Lib.compareBytes at h;by_cases q:a<b
  .rw[Vv q]at h;omega
  .rw[Vu q]at h;by_cases q2:b<a
   .rw[Vv q2]at h;omega
   .rw[Vu q2]at h;have:a=b:=by
     rw[UInt8.lt_iff_toNat_lt]at q q2;exact UInt8.toNat_inj.1 (by omega)
    rw[this,Qpd h]
theorem QgS:∀{l m:List Int},(∀x∈l,0<=x/\x<256)->(∀x∈m,0<=x/\x<256)->l.map QbA=m.map QbA->l=m
 |[],[],_,_,_=>rfl
 |[],_::_,_,_,h=>by simp at h
 |_::_,[],_,_,h=>by simp at h
 |x::l,y::m,h1,h2,h=>by
  simp only[Vl,List.cons.injEq]at h;have a1:=h1 x (by simp);have a2:=h2 y (by simp);have e:=congrArg UInt8.toNat h.1;unfold QbA at e;rw[UInt8.toNat_ofNat',UInt8.toNat_ofNat']at e;have:x=y:=by omega
  rw[this,QgS (λz a=>h1 z (by simp[a])) (λz a=>h2 z (by simp[a])) h.2]
theorem Qi2(f g:Fact):cmpF f g=bif cmpI f.At g.At != 0 then cmpI f.At g.At else bif cmpI f.Crew g.Crew != 0 then cmpI f.Crew g.Crew else bif cmpI f.No g.No != 0 then cmpI f.No g.No else cmpB (encF f).1 (encF g).1:=by
 unfold cmpF orL orL orL orL;generalize cmpI f.At g.At=a;generalize cmpI f.Crew g.Crew=b;generalize cmpI f.No g.No=d;cases i:(a != 0)with
 |true=>simp only[Vr,i]
 |false=>
  simp only[Vs];cases h:(b != 0)with
  |true=>simp only[Vr,h]
  |false=>
   simp only[Vs];cases e:(d != 0)with
   |true=>simp only[Vr,e]
   |false=>rfl
theorem QkV:CmpOK cmpF:=by
 have h:=QdW (cmpI_ok.on λf:Fact=>f.At) (QdW (cmpI_ok.on λf:Fact=>f.Crew) (QdW (cmpI_ok.on λf:Fact=>f.No) (cb_ok.on λf:Fact=>(encF f).1.map QbA)));have e:cmpF=λf g=>bif cmpI f.At g.At != 0 then cmpI f.At g.At else bif cmpI f.Crew g.Crew != 0 then cmpI f.Crew g.Crew else bif cmpI f.No g.No != 0 then cmpI f.No g.No else cmpB (encF f).1 (encF g).1:=by
  funext f g;exact Qi2 f g
 rw[e];exact h
def wideE(e:Ent):Bool:=decide (-1125899906842624<=e.lo)&&decide (e.hi<=1125899906842624)
theorem QlF(f:Fact):(entsS f).all wideE=true:=by
 unfold entsS;rw[List.all_append,XY];refine⟨rfl,?_⟩;rcases kinds f with k|k|k|k|k|k|k|k|k|k|k|k|k|k
 case inr.inr.inr.inr.inr.inr.inr.inr.inr.inl=>
  unfold openU;rw[k];show(bodyL (bif (f.Ruling.Kind==1)||(f.Ruling.Kind==2)then .c9 (0,0,0,0,0,0)else bif f.Ruling.Kind==3 then .c9 (1,9999,0,255,1,1099511627776)else bif f.Ruling.Kind==4 then .c9 (1,9999,0,255,1,64)else .c9 (1,9999,0,255,0,0))).all wideE=true;cases((f.Ruling.Kind==1)||(f.Ruling.Kind==2))with
  |true=>rfl
  |false=>
   cases(f.Ruling.Kind==3)with
   |true=>rfl
   |false=>cases(f.Ruling.Kind==4)<;>rfl
 case inr.inr.inr.inr.inr.inr.inr.inr.inr.inr.inr.inr.inr=>rw[k];rfl
 all_goals
  unfold openU;rw[k];rfl
theorem Qe2{f:Fact}(h:validS f=true):∀x∈numsS f,in63 x:=by
 have k:=h;unfold validS at h;rw[Qhk]at h;by_cases q:openU f=.c13 ()
 .rw[q]at h;cases h
 .rw[<- (QdJ f q).2];cases a:fineU f (openU f)with
  |false=>rw[a]at h;cases h
  |true=>
   rw[a]at h;cases b:(entsS f).all (inE f (suspB f))with
   |false=>rw[b]at h;cases h
   |true=>
    intro x j;obtain⟨e,d,rfl⟩:=Xf.1 j;have i:=Xu.1 b e d;have g:=Xu.1 (QlF f) e d;unfold inE at i;unfold wideE at g;simp only[XY,Bool.not_eq_true',decide_eq_false_iff_not,Vt]at i g;unfold in63;omega
theorem QgO{f:Fact}(h:validS f=true):encF f=(listB (numsS f),0):=by
 unfold encF;rw[h,Qju h];rfl
theorem Qdd{f g:Fact}(i:validS f=true)(hg:validS g=true)(h:cmpF f g=0):f=g:=by
 rw[Qi2]at h;have z:cmpB (encF f).1 (encF g).1=0:=by
  cases d:(cmpI f.At g.At != 0)with
  |true=>rw[d]at h;exact absurd h (bne_iff_ne.1 d)
  |false=>
   rw[d]at h;cases b:(cmpI f.Crew g.Crew != 0)with
   |true=>rw[b]at h;exact absurd h (bne_iff_ne.1 b)
   |false=>
    rw[b]at h;cases a:(cmpI f.No g.No != 0)with
    |true=>rw[a]at h;exact absurd h (bne_iff_ne.1 a)
    |false=>rw[a]at h;exact h
 rw[QgO i,QgO hg]at z;have e:=QgS (Qd4 _) (Qd4 _) (Qpd z);exact QmO i hg (Qlp (Qe2 i) (Qe2 hg) e)
set_option maxRecDepth 4000
theorem Qbr{α:Type}{R:α->α->Prop}(d:∀x,¬R x x)(i:∀x y z,R x y->R y z->R x z):∀{l m:List α},l.Pairwise R->m.Pairwise R->(∀x,x∈l↔x∈m)->l=m
 |[],[],_,_,_=>rfl
 |[],b::m,_,_,h=>by have:=(h b).2 (by simp);cases this
 |a::l,[],_,_,h=>by have:=(h a).1 (by simp);cases this
 |a::l,b::m,hl,hm,h=>by
  rw[Xc]at hl hm;have e:a=b:=by
   rcases X8.1 ((h a).1 (by simp))with e|g
   .exact e
   .rcases X8.1 ((h b).2 (by simp))with e|j
    .exact e.symm
    .exact absurd (i _ _ _ (hl.1 b j) (hm.1 a g)) (d a)
  subst e;congr 1;refine Qbr d i hl.2 hm.2 λx=>?_;constructor
  .intro f;rcases X8.1 ((h x).1 (X7 _ f))with e|g
   .subst e;exact absurd (hl.1 x f) (d x)
   .exact g
  .intro f;rcases X8.1 ((h x).2 (X7 _ f))with e|g
   .subst e;exact absurd (hm.1 x f) (d x)
   .exact g
def insC(x:Fact):List Fact->List Fact
 |[]=>[x]
 |y::r=>bif decide (cmpF y x<0)then y::insC x r else bif y==x then y::r else x::y::r
def canonS(l:List Fact):List Fact:=l.foldl (λa x=>bif validS x then insC x a else a) []
def ltF(a b:Fact):Prop:=cmpF a b<0
theorem Qc2(x:Fact):¬ltF x x:=by unfold ltF;have:=QkV.refl x;omega
theorem QdH(x y z:Fact):ltF x y->ltF y z->ltF x z:=QkV.trans x y z
theorem Qc4(x:Fact):∀(l:List Fact) (z:Fact),z∈insC x l↔z=x\/z∈l
 |[],z=>by simp[insC]
 |y::r,z=>by
  unfold insC;cases decide (cmpF y x<0)with
  |true=>
   simp only[Vr,X8,Qc4 x r z];constructor
   .rintro(h|h|h)<;>simp[h]
   .rintro(h|h|h)<;>simp[h]
  |false=>
   simp only[Vs];cases h:(y==x)with
   |true=>
    have:y=x:=by simpa using h
    subst this;simp
   |false=>simp
def CanonOK(l:List Fact):Prop:=l.Pairwise ltF/\ ∀f∈l,validS f=true
theorem QkI{x:Fact}(a:validS x=true):∀{l:List Fact},CanonOK l->CanonOK (insC x l)
 |[],_=>⟨by simp[insC],by simp[insC,a]⟩
 |y::r,h=>by
  obtain⟨h1,h2⟩:=h;rw[Xc]at h1;have hr:CanonOK r:=⟨h1.2,λf hf=>h2 f (by simp[hf])⟩;have ih:=QkI a hr;refine⟨?_,λf hf=>?_⟩
  .unfold insC;cases q:decide (cmpF y x<0)with
   |true=>
    simp only[Vr,Xc];refine⟨λz hz=>?_,ih.1⟩;rcases(Qc4 x r z).1 hz with rfl|hz
    .show cmpF y z<0;exact Vx q
    .exact h1.1 z hz
   |false=>
    simp only[Vs];cases q2:(y==x)with
    |true=>simp only[Vr,Xc];exact h1
    |false=>
     simp only[Vs,Xc];have lt:ltF x y:=by
      have b:=Vy q;have d:¬cmpF y x=0:=λe=>by
       have:=Qdd (h2 y (by simp)) a e;rw[this]at q2;simp at q2
      have:=QkV.swap x y;unfold ltF;omega
     refine⟨λz hz=>?_,h1⟩;rcases X8.1 hz with rfl|hz
     .exact lt
     .exact QdH _ _ _ lt (h1.1 z hz)
  .rcases(Qc4 x (y::r) f).1 hf with rfl|hf
   .exact a
   .exact h2 f hf
theorem Jy(l:List Fact):CanonOK (canonS l)/\ ∀f,f∈canonS l↔f∈l/\validS f=true:=by
 have g:∀(r a:List Fact),CanonOK a->CanonOK (r.foldl (λa x=>bif validS x then insC x a else a) a)/\ ∀f,f∈r.foldl (λa x=>bif validS x then insC x a else a) a↔f∈a\/(f∈r/\validS f=true):=by
  intro r
  induction r with
  |nil=>intro a h;exact⟨h,λf=>by simp⟩
  |cons x r i=>
   intro a h;rw[XF];cases q:validS x with
   |false=>
    obtain⟨e,d⟩:=i a h;refine⟨e,λf=>?_⟩;rw[Vs,d f,X8];constructor
    .rintro(a|⟨a,b⟩)
     .exact .inl a
     .exact .inr ⟨.inr a,b⟩
    .rintro(a|⟨rfl|a,b⟩)
     .exact .inl a
     .rw[q]at b;cases b
     .exact .inr ⟨a,b⟩
   |true=>
    obtain⟨e,d⟩:=i (insC x a) (QkI q h);refine⟨e,λf=>?_⟩;rw[Vr,d f,Qc4,X8];constructor
    .rintro((rfl|a)|⟨a,b⟩)
     .exact .inr ⟨.inl rfl,q⟩
     .exact .inl a
     .exact .inr ⟨.inr a,b⟩
    .rintro(a|⟨rfl|a,b⟩)
     .exact .inl (.inr a)
     .exact .inl (.inl rfl)
     .exact .inr ⟨a,b⟩
 obtain⟨e,d⟩:=g l [] ⟨by simp,by simp⟩;exact⟨e,λf=>by rw[canonS,d f];simp⟩
theorem QfM{l m:List Fact}(h:∀f,validS f=true->(f∈l↔f∈m)):canonS l=canonS m:=by
 obtain⟨e,b⟩:=Jy l;obtain⟨a,d⟩:=Jy m;refine Qbr Qc2 QdH e.1 a.1 λf=>?_;rw[b f,d f];constructor
 .rintro⟨x,y⟩;exact⟨(h f y).1 x,y⟩
 .rintro⟨x,y⟩;exact⟨(h f y).2 x,y⟩
def FirstIs(c:Course)(l:List Fact)(f:Fact):Prop:=f∈l/\okS c f=true/\ ∀g∈l,okS c g=true->g.Starter.Bib=f.Starter.Bib->¬cmpF g f<0
theorem Qgr{c:Course}{f:Fact}(h:okS c f=true):validS f=true:=by
 unfold okS at h;simp only[XY]at h;exact h.2.1
theorem FirstIs.one{c:Course}{l:List Fact}{f g:Fact}(a:FirstIs c l f)(hg:FirstIs c l g)(e:f.Starter.Bib=g.Starter.Bib):f=g:=by
 have d:=a.2.2 g hg.1 hg.2.1 e.symm;have b:=hg.2.2 f a.1 a.2.1 e;have:=QkV.swap f g;exact Qdd (Qgr a.2.1) (Qgr hg.2.1) (by omega)
set_option maxRecDepth 4000
def nb(v lo hi:Int):Bool:= !(decide (v<lo))&& !(decide (hi<v))
theorem QcB(v lo hi:Int):nb v lo hi=true↔lo<=v/\v<=hi:=by
 unfold nb;simp only[XY,Bool.not_eq_true',decide_eq_false_iff_not];omega
def contR(f:Fact):Bool:=
 bif f.Kind==1 then true&&(nb f.Starter.Bib 1 9999&&(nb f.Starter.Distance 0 7&&(nb f.Starter.Wave 0 31&&(nb f.Starter.Slot (-1099511627776) 1099511627776&&(nb f.Starter.Age 0 120&&(nb f.Starter.Chip 0 1048576&&(nb f.Starter.Team 0 9999&&(nb f.Starter.Lot 0 1048576&&true))))))))
 else bif f.Kind==2 then true&&(nb f.Read.Mat 0 39&&(nb f.Read.Epoch 0 255&&(nb f.Read.Chip 0 1048576&&(nb f.Read.Local (-1099511627776) 1099511627776&&true))))
 else bif f.Kind==3 then true&&(nb f.Beacon.Mat 0 39&&(nb f.Beacon.Epoch 0 255&&(nb f.Beacon.Local (-1099511627776) 1099511627776&&(nb f.Beacon.True (-1099511627776) 1099511627776&&(nb f.Beacon.Err 0 1099511627776&&true)))))
 else bif f.Kind==4 then decide (f.Sync.Min<=f.Sync.Max)&&(nb f.Sync.MatA 0 39&&(nb f.Sync.EpochA 0 255&&(nb f.Sync.LocalA (-1099511627776) 1099511627776&&(nb f.Sync.MatB 0 39&&(nb f.Sync.EpochB 0 255&&(nb f.Sync.LocalB (-1099511627776) 1099511627776&&(nb f.Sync.Min (-1099511627776) 1099511627776&&(nb f.Sync.Max (-1099511627776) 1099511627776&&true))))))))
 else bif f.Kind==5 then decide (f.Hand.Lo<=f.Hand.Hi)&&(nb f.Hand.Bib 1 9999&&(nb f.Hand.Position 0 255&&(nb f.Hand.Lo (-1099511627776) 1099511627776&&(nb f.Hand.Hi (-1099511627776) 1099511627776&&true))))
 else bif f.Kind==6 then decide (f.Silence.Lo<=f.Silence.Hi)&&(nb f.Silence.Mat 0 39&&(nb f.Silence.Epoch 0 255&&(nb f.Silence.Lo (-1099511627776) 1099511627776&&(nb f.Silence.Hi (-1099511627776) 1099511627776&&true))))
 else bif f.Kind==7 then decide (f.Pair.A<f.Pair.B)&&(nb f.Pair.A 1 9999&&(nb f.Pair.B 1 9999&&true))
 else bif f.Kind==8 then true&&(nb f.Report.Case 1 1048576&&(nb f.Report.Bib 1 9999&&(nb f.Report.Offence 0 31&&(nb f.Report.Position 0 255&&true))))
 else bif f.Kind==9 then true&&(nb f.Protest.Case 1 1048576&&(nb f.Protest.By 0 9999&&(nb f.Protest.Fee 0 1125899906842624&&(nb f.Protest.Form 0 1&&true))))
 else bif f.Kind==10 then true&&(nb f.Ruling.Case 1 1048576&&(nb f.Ruling.Instance 1 2&&(nb f.Ruling.Kind 1 5&&(bif (f.Ruling.Kind==1)||(f.Ruling.Kind==2)then nb f.Ruling.Bib 0 0&&(nb f.Ruling.Position 0 0&&(nb f.Ruling.Amount 0 0&&true))else bif f.Ruling.Kind==3 then nb f.Ruling.Bib 1 9999&&(nb f.Ruling.Position 0 255&&(nb f.Ruling.Amount 1 1099511627776&&true))else bif f.Ruling.Kind==4 then nb f.Ruling.Bib 1 9999&&(nb f.Ruling.Position 0 255&&(nb f.Ruling.Amount 1 64&&true))else nb f.Ruling.Bib 1 9999&&(nb f.Ruling.Position 0 255&&(nb f.Ruling.Amount 0 0&&true))))))
 else bif f.Kind==11 then true&&(nb f.Appeal.Case 1 1048576&&(nb (suspB f) 0 1&&true))
 else bif f.Kind==12 then true&&true
 else bif f.Kind==13 then true&&(nb f.Void.Crew 0 31&&(nb f.Void.No 1 1048576&&true))
 else false
theorem Qoo(f:Fact):(f.Kind=1\/f.Kind=2\/f.Kind=3\/f.Kind=4\/f.Kind=5\/f.Kind=6\/f.Kind=7\/f.Kind=8\/f.Kind=9\/f.Kind=10\/f.Kind=11\/f.Kind=12\/f.Kind=13)\/((f.Kind==1)=false/\(f.Kind==2)=false/\(f.Kind==3)=false/\(f.Kind==4)=false/\(f.Kind==5)=false/\(f.Kind==6)=false/\(f.Kind==7)=false/\(f.Kind==8)=false/\(f.Kind==9)=false/\(f.Kind==10)=false/\(f.Kind==11)=false/\(f.Kind==12)=false/\(f.Kind==13)=false):=by
 by_cases h:1<=f.Kind/\f.Kind<=13
 .left;omega
 .right;simp only[VB,ne_eq];omega
theorem Qny(f:Fact):contS f=contR f:=by
 rcases Qoo f with k|⟨x,t,r,u,p,s,y,q,w,j,g,i,h⟩
 .rcases k with k|k|k|k|k|k|k|k|k|k|k|k|k
  case inr.inr.inr.inr.inr.inr.inr.inr.inr.inl=>
   obtain⟨Cr,No,At,Ki,S,R,B,Sy,Ha,Si,Pa,Re,Pr,⟨m,l,a,d,b,e⟩,Ap,Vo⟩:=f;simp only at k;subst k;have n:openU ⟨Cr,No,At,10,S,R,B,Sy,Ha,Si,Pa,Re,Pr,⟨m,l,a,d,b,e⟩,Ap,Vo⟩=(bif (a==1)||(a==2)then U_facts_open_rxk.c9 (0,0,0,0,0,0)else bif a==3 then .c9 (1,9999,0,255,1,1099511627776)else bif a==4 then .c9 (1,9999,0,255,1,64)else .c9 (1,9999,0,255,0,0)):=rfl;have z:contR ⟨Cr,No,At,10,S,R,B,Sy,Ha,Si,Pa,Re,Pr,⟨m,l,a,d,b,e⟩,Ap,Vo⟩=(true&&(nb m 1 1048576&&(nb l 1 2&&(nb a 1 5&&(bif (a==1)||(a==2)then nb d 0 0&&(nb b 0 0&&(nb e 0 0&&true))else bif a==3 then nb d 1 9999&&(nb b 0 255&&(nb e 1 1099511627776&&true))else bif a==4 then nb d 1 9999&&(nb b 0 255&&(nb e 1 64&&true))else nb d 1 9999&&(nb b 0 255&&(nb e 0 0&&true))))))):=rfl;rw[z];unfold contS;rw[n];cases((a==1)||(a==2))with
   |true=>rfl
   |false=>
    cases(a==3)with
    |true=>rfl
    |false=>cases(a==4)<;>rfl
  case inr.inr.inr.inr.inr.inr.inr.inr.inr.inr.inl=>
   obtain⟨Cr,No,At,Ki,S,R,B,Sy,Ha,Si,Pa,Re,Pr,Ru,⟨Ca,Su⟩,Vo⟩:=f;simp only at k;subst k;cases Su<;>rfl
  all_goals
   obtain⟨Cr,No,At,Ki,S,R,B,Sy,Ha,Si,Pa,Re,Pr,Ru,Ap,Vo⟩:=f;simp only at k;subst k;rfl
 .have n:openU f=.c13 ():=by unfold openU;rw[x,t,r,u,p,s,y,q,w,j,g,i,h];rfl
  unfold contS contR;rw[n,x,t,r,u,p,s,y,q,w,j,g,i,h];rfl
theorem Qm1(f:Fact):headS f=(nb f.Kind 1 13&&(nb f.Crew 0 31&&(nb f.No 1 1048576&&(nb f.At 0 1099511627776&&true)))):=rfl
theorem Qit(x:Fact):∀l:List Fact,(insC x l).length<=l.length+1
 |[]=>by simp[insC]
 |y::r=>by
  unfold insC;have:=Qit x r;cases decide (cmpF y x<0)with
  |true=>simp only[Vr,X3];omega
  |false=>cases(y==x)<;>simp
theorem Qj3(c:Course)(w:CourseOk c)(q:PartsOk c)(k:FewL c):Ev (λn=>F_be n c) (fitsG c):=by
 unfold F_be fitsG;refine Ea (Eu λ_=>Eu λ_=>Eu λ_=>Eu λ_=>Eu λ_=>Eu λ_=>Qa _) ?_;cases(decide (40<(c.Mats.length:Int))||(decide (512<(c.Legs.length:Int))||(decide (8<(c.Distances.length:Int))||(decide (32<(c.Waves.length:Int))||(decide (32<(c.Offences.length:Int))||(decide (32<(c.Categories.length:Int))||decide (32<(c.Prizes.length:Int))))))))with
 |true=>exact Qa _
 |false=>
  rw[Xi,VC];refine QP (Ea (Yx c.Distances (λd=> !(decide (64<(d.Cutoffs.length:Int))||decide (16<hPs d.Route))) (Ctl.done false) (Ctl.cont ()) (by have:=w.dist;omega) (λi x b=>?_) ?_) ?_)
  .obtain⟨h,g⟩:=k.dist x b.mem;have a:=q.len x b.mem;have f:=q.wf x b.mem;unfold F_em;simp only[b.lt,Vr,b.ix,XL,b.nx];refine Ea (Eu λ_=>Ea (Qeb _ x.Route 17 (XV _) (XV _) a f) (Eu λ_=>Ea (Qec _ x.Route (XV _) a f) (Qa _))) ?_;have e:decide ((16:Int)<((min (hPs x.Route) 17:Nat):Int))=decide (16<hPs x.Route):=by
    rw[decide_eq_decide];omega
   simp only[Q9 (show¬(256:Int)<((min (szPs x.Route) 257:Nat):Int)by omega),Bool.or_false,e];cases(decide (64<(x.Cutoffs.length:Int))||decide (16<hPs x.Route))<;>exact Qa _
  .unfold F_em;simp only[YU,Vs];exact Qa _
  .cases c.Distances.all (λd=> !(decide (64<(d.Cutoffs.length:Int))||decide (16<hPs d.Route)))<;>exact Qa _
theorem Qef(c:Course)(w:CourseOk c)(q:PartsOk c)(k:FewL c)(hl:c.Ties.length<=1048576)(g:∀x∈c.Ties,Step.wf x):∃e,Ev (λn=>F_c n c) e/\Ev (λn=>F_ak n c) e:=by
 by_cases h:∀d∈c.Distances,hPs d.Route<=16
 .have f:FewOk c:=⟨k.lens,k.name,λd a=>⟨by have:=(k.dist d a).1;omega,by have:=(k.dist d a).2;omega,h d a⟩,k.ties⟩;exact⟨_,QlE c w q f hl g,QhE c w q f hl g⟩
 .have i:fitsG c=false:=by
   unfold fitsG;rw[Bool.and_eq_false_iff];right;rw[List.all_eq_false];obtain⟨d,a⟩:=Classical.not_forall.1 h;have b:d∈c.Distances/\ ¬hPs d.Route<=16:=by
    refine Classical.byContradiction λz=>a λj=>Classical.byContradiction λy=>z ⟨j,y⟩
   refine⟨d,b.1,?_⟩;have:decide (16<hPs d.Route)=true:=Vw (by omega);rw[this];simp
  refine⟨2,?_,?_⟩
  .unfold F_c;refine Ea (Qc8 c w q k) ?_;rw[i];exact Qa _
  .unfold F_ak;refine Ea (Qj3 c w q k) ?_;rw[i];exact Qa _
theorem QoK(a:Int):0<=Qeu .i64 a 1023/\Qeu .i64 a 1023<1024:=by
 unfold Qeu;have h:(BitVec.ofInt IntKind.i64.bits a&&& BitVec.ofInt IntKind.i64.bits 1023).toNat<=1023:=by
  rw[BitVec.toNat_and];exact XX Nat.and_le_right (by decide)
 generalize(BitVec.ofInt IntKind.i64.bits a&&& BitVec.ofInt IntKind.i64.bits 1023).toNat=m at h;rw[QJ (by omega) (by omega)];omega
theorem Qjr{c:Course}(h:Course.wf c):CourseOk c:=by
 obtain⟨n,⟨m,p⟩,⟨i,r⟩,⟨j,b⟩,⟨e,f⟩,⟨k,l⟩,⟨d,q⟩,⟨g,s⟩,_⟩:=h;exact⟨n,m,λx a=>(p x a).1,i,j,λx a=>(b x a).1,λx a=>(b x a).2.2.2.1.1,e,λx a=>(f x a).1,k,λx a=>(l x a).1,d,λx a=>(q x a).1,g⟩
theorem Qki{c:Course}(h:Course.wf c):PartsOk c:=by
 obtain⟨_,_,_,⟨e,b⟩,_⟩:=h;exact⟨λd a=>(b d a).2.1.1,λd a=>(b d a).2.1.2⟩
theorem Qof{c:Course}(h:Course.wf c):c.Ties.length<=1048576/\ ∀x∈c.Ties,Step.wf x:=by
 obtain⟨_,_,_,_,_,_,_,_,a,_⟩:=h;exact a
theorem Qjx(e:Int)(c:Course)(l:List Fact):(startF e c l).1.length<=l.length:=by
 unfold startF;cases(e != 0)with
 |true=>exact XW _
 |false=>
  simp only[Vs];cases decide (((ordF (firstS c l)).map chipK).Nodup)with
  |false=>exact XW _
  |true=>simp only[Vr];rw[X4,Qik];exact(QgC c l).len
theorem QcI(l:List Fact):(canonS l).length<=l.length:=by
 have:∀(m a:List Fact),(m.foldl (λa x=>bif validS x then insC x a else a) a).length<=a.length+m.length:=by
  intro m
  induction m with
  |nil=>intro a;simp
  |cons x m b=>
   intro a;rw[XF,X3];have e:=b (bif validS x then insC x a else a);have d:(bif validS x then insC x a else a).length<=a.length+1:=by
    cases validS x with
    |true=>exact Qit x a
    |false=>simp
   omega
 have:=this l [];simpa[canonS]using this
def rulB(k i:Int)(f:Fact):Bool:=(f.Kind==10)&&((f.Ruling.Case==k)&&(f.Ruling.Instance==i))
def repB(k:Int)(f:Fact):Bool:=(f.Kind==8)&&(f.Report.Case==k)
def appB(k:Int)(f:Fact):Bool:=(f.Kind==11)&&(f.Appeal.Suspends&&(f.Appeal.Case==k))
def caseN(f:Fact):Option Int:=bif f.Kind==10 then some f.Ruling.Case else bif f.Kind==8 then some f.Report.Case else bif (f.Kind==11)&&f.Appeal.Suspends then some f.Appeal.Case else none
def fileOf(P:List Fact)(k:Int):Ub:=⟨k,P.filter (rulB k 0),P.filter (rulB k 1),P.filter (rulB k 2),(P.filter (repB k)).map (·.Report),P.any (appB k)⟩
theorem QaJ{k i:Int}{f:Fact}(h:rulB k i f=true):caseN f=some k:=by
 unfold rulB at h;rw[XY,XY,VA (a:=f.Ruling.Case)]at h;unfold caseN;rw[h.1,Vr,h.2.1]
theorem Qgm{k:Int}{f:Fact}(h:repB k f=true):caseN f=some k:=by
 unfold repB at h;rw[XY,VA,VA]at h;unfold caseN;rw[h.1,h.2];rfl
theorem QgT{k:Int}{f:Fact}(h:appB k f=true):caseN f=some k:=by
 unfold appB at h;rw[XY,XY,VA,VA]at h;unfold caseN;rw[h.1,h.2.1,h.2.2];rfl
theorem Qa2{α:Type}{p:α->Bool}{l:List α}(h:∀x∈l,p x=false):l.filter p=[]:=by
 rw[List.filter_eq_nil_iff];intro x a;rw[h x a];exact Bool.false_ne_true
theorem Qba{b:Bool}(h:¬b=true):b=false:=by cases b with
 |true=>exact absurd rfl h
 |false=>rfl
theorem QjW{P:List Fact}{k:Int}(h:∀f∈P,caseN f≠some k):fileOf P k=Qau k:=by
 unfold fileOf Qau;rw[Qa2 λf a=>Qba λq=>h f a (QaJ q),Qa2 λf a=>Qba λq=>h f a (QaJ q),Qa2 λf a=>Qba λq=>h f a (QaJ q),
  Qa2 λf a=>Qba λq=>h f a (Qgm q),show P.any (appB k)=false from List.any_eq_false.2 λf a q=>h f a (QgT q)]
 rfl
theorem Qz{α:Type}(p:α->Bool)(l:List α)(x:α):(l++[x]).filter p=bif p x then l.filter p++[x]else l.filter p:=by
 rw[List.filter_append];cases h:p x<;>simp[h]
theorem Qc6{P:List Fact}{f:Fact}{k:Int}(h:caseN f≠some k):fileOf (P++[f]) k=fileOf P k:=by
 unfold fileOf;rw[Qz,Qz,Qz,Qz,Qba λq=>h (QaJ (i:=0) q),Qba λq=>h (QaJ (i:=1) q),Qba λq=>h (QaJ (i:=2) q),Qba λq=>h (Qgm q),List.any_append,List.any_cons,List.any_nil,
  Qba λq=>h (QgT q)]
 simp
structure FilesOf (P:List Fact) (fs:List Ub):Prop where
 num:(fs.map (·.number)).Nodup
 each:∀x∈fs,x=fileOf P x.number
 mem:∀k,k∈fs.map (·.number)↔ ∃f∈P,caseN f=some k
theorem FilesOf.nil:FilesOf [] []:=⟨List.nodup_nil,(λ_ h=>by cases h),λk=>by simp⟩
theorem FilesOf.skip{P:List Fact}{fs:List Ub}{f:Fact}(h:FilesOf P fs)(d:caseN f=none):FilesOf (P++[f]) fs:=by
 refine⟨h.num,λx e=>?_,λk=>?_⟩
 .rw[Qc6 (by rw[d];intro q;cases q)];exact h.each x e
 .rw[h.mem k];constructor
  .rintro⟨g,b,a⟩;exact⟨g,by simp[b],a⟩
  .rintro⟨g,b,a⟩;rcases VF.1 b with q|q
   .exact⟨g,q,a⟩
   .rw[VD.1 q,d]at a;cases a
theorem FilesOf.put{P:List Fact}{fs:List Ub}{f:Fact}{k:Int}{g:Ub->Ub}(h:FilesOf P fs)(w:caseN f=some k)(E:∀x,(g x).number=x.number)(hg:g (fileOf P k)=fileOf (P++[f]) k):FilesOf (P++[f]) (Qbq (Qag fs k) k g):=by
 have p:∀x∈Qag fs k,x=fileOf P x.number:=by
  by_cases q:∃x∈fs,x.number=k
  .rw[Qc5 q];exact h.each
  .have i:∀x∈fs,x.number≠k:=λx d e=>q ⟨x,d,e⟩;rw[QbW i];intro x d;rcases VF.1 d with z|z
   .exact h.each x z
   .rw[VD.1 z];refine(QjW (k:=k) λa n e=>?_).symm;obtain⟨x,d,G⟩:=Xf.1 ((h.mem k).2 ⟨a,n,e⟩);exact i x d G
 have t:((Qag fs k).map (·.number)).Nodup:=by
  by_cases q:∃x∈fs,x.number=k
  .rw[Qc5 q];exact h.num
  .have i:∀x∈fs,x.number≠k:=λx d e=>q ⟨x,d,e⟩;rw[QbW i,Xg,List.nodup_append];refine⟨h.num,by simp,?_⟩;intro a n b F;obtain⟨x,d,rfl⟩:=Xf.1 n;have s:b=k:=by simpa[Qau]using F
   rw[s];exact i x d
 have r:∀j,j∈(Qag fs k).map (·.number)↔j=k\/j∈fs.map (·.number):=by
  intro j;by_cases q:∃x∈fs,x.number=k
  .rw[Qc5 q];constructor
   .exact .inr
   .rintro(rfl|z)
    .obtain⟨x,d,e⟩:=q;exact Xf.2 ⟨x,d,e⟩
    .exact z
  .rw[QbW λx d e=>q ⟨x,d,e⟩,Xg,VF];simp only[Vl,Vm,VD,Qau];exact Or.comm
 have l:(Qbq (Qag fs k) k g).map (·.number)=(Qag fs k).map (·.number):=by
  unfold Qbq;rw[List.map_map];refine List.map_congr_left λx _=>?_;show(bif decide (x.number=k)then g x else x).number=x.number;cases decide (x.number=k)with
  |true=>exact E x
  |false=>rfl
 refine⟨by rw[l];exact t,λx d=>?_,λj=>?_⟩
 .obtain⟨y,H,rfl⟩:=Xf.1 d;have B:=p y H;cases q:decide (y.number=k)with
  |true=>
   have i:=Vx q;show g y=fileOf _ (g y).number;rw[E,i, <- hg, <- i, <- B]
  |false=>
   have i:=Vy q;show y=fileOf _ y.number;rw[Qc6 (by rw[w];intro z;cases z;exact i rfl)];exact B
 .rw[l,r,h.mem j];constructor
  .rintro(rfl|⟨a,u,m⟩)
   .exact⟨f,by simp,w⟩
   .exact⟨a,by simp[u],m⟩
  .rintro⟨a,u,m⟩;rcases VF.1 u with z|z
   .exact .inr ⟨a,z,m⟩
   .rw[VD.1 z,w]at m;cases m;exact .inl rfl
theorem FilesOf.room{P:List Fact}{fs:List Ub}{k:Int}(h:FilesOf P fs)(hl:P.length<1048576):Qd0 (Qag fs k)=true:=by
 have b:∀n,n<=P.length->Nat.ble (n+1) Qv=true:=λn d=>QeC (by omega);have one:∀j,(λx:Ub=>Nat.ble (x.r0.length+1) Qv&&Nat.ble (x.r1.length+1) Qv&&Nat.ble (x.r2.length+1) Qv&&Nat.ble (x.reports.length+1) Qv) (fileOf P j)=true:=by
  intro j;simp only[fileOf,X4];rw[b _ (VP ..),b _ (VP ..),b _ (VP ..),b _ (VP ..)];rfl
 unfold Qd0;refine Xu.2 λx a=>?_;by_cases q:∃x∈fs,x.number=k
 .rw[Qc5 q]at a;rw[h.each x a];exact one _
 .rw[QbW λx a e=>q ⟨x,a,e⟩]at a;rcases VF.1 a with z|z
  .rw[h.each x z];exact one _
  .rw[VD.1 z];simp only[Qau,List.length_nil];decide
theorem QbL{f:Fact}(h:validS f=true):headS f=true/\contR f=true/\onlyS f=f:=by
 rw[Qdv,XY,XY,Qny,VA]at h;exact⟨h.1.1,h.1.2,h.2⟩
theorem Qmh{f:Fact}(h:validS f=true):0<=f.At/\f.At<=1099511627776:=by
 obtain⟨a,_,_⟩:=QbL h;rw[Qm1]at a;simp only[XY,QcB]at a;exact a.2.2.2.1
theorem Qdu{f:Fact}(h:validS f=true)(k:f.Kind=10):(1<=f.Ruling.Case/\(f.Ruling.Instance=1\/f.Ruling.Instance=2))/\(0<=f.Ruling.Bib/\f.Ruling.Bib<=9999)/\f.Report=Uk.Report:=by
 obtain⟨_,b,l⟩:=QbL h;have e:f.Report=(onlyS f).Report:=by rw[l]
 have m:(onlyS f).Report=bif f.Kind==8 then f.Report else Uk.Report:=rfl
 rw[m,k]at e;refine⟨?_,?_,e⟩
 .unfold contR at b;rw[k]at b;have d:(true&&(nb f.Ruling.Case 1 1048576&&(nb f.Ruling.Instance 1 2&&(nb f.Ruling.Kind 1 5&&(bif (f.Ruling.Kind==1)||(f.Ruling.Kind==2)then nb f.Ruling.Bib 0 0&&(nb f.Ruling.Position 0 0&&(nb f.Ruling.Amount 0 0&&true))else bif f.Ruling.Kind==3 then nb f.Ruling.Bib 1 9999&&(nb f.Ruling.Position 0 255&&(nb f.Ruling.Amount 1 1099511627776&&true))else bif f.Ruling.Kind==4 then nb f.Ruling.Bib 1 9999&&(nb f.Ruling.Position 0 255&&(nb f.Ruling.Amount 1 64&&true))else nb f.Ruling.Bib 1 9999&&(nb f.Ruling.Position 0 255&&(nb f.Ruling.Amount 0 0&&true)))))))=true:=b;simp only[XY,QcB]at d;obtain⟨_,a,n,_⟩:=d;exact⟨a.1,by omega⟩
 .unfold contR at b;rw[k]at b;have d:(true&&(nb f.Ruling.Case 1 1048576&&(nb f.Ruling.Instance 1 2&&(nb f.Ruling.Kind 1 5&&(bif (f.Ruling.Kind==1)||(f.Ruling.Kind==2)then nb f.Ruling.Bib 0 0&&(nb f.Ruling.Position 0 0&&(nb f.Ruling.Amount 0 0&&true))else bif f.Ruling.Kind==3 then nb f.Ruling.Bib 1 9999&&(nb f.Ruling.Position 0 255&&(nb f.Ruling.Amount 1 1099511627776&&true))else bif f.Ruling.Kind==4 then nb f.Ruling.Bib 1 9999&&(nb f.Ruling.Position 0 255&&(nb f.Ruling.Amount 1 64&&true))else nb f.Ruling.Bib 1 9999&&(nb f.Ruling.Position 0 255&&(nb f.Ruling.Amount 0 0&&true)))))))=true:=b;simp only[XY]at d;obtain⟨_,_,_,_,a⟩:=d;cases i:((f.Ruling.Kind==1)||(f.Ruling.Kind==2))with
  |true=>rw[i]at a;simp only[Vr,XY,QcB]at a;omega
  |false=>
   rw[i,Vs]at a;cases j:(f.Ruling.Kind==3)with
   |true=>rw[j]at a;simp only[Vr,XY,QcB]at a;omega
   |false=>
    rw[j,Vs]at a;cases g:(f.Ruling.Kind==4)with
    |true=>rw[g]at a;simp only[Vr,XY,QcB]at a;omega
    |false=>rw[g]at a;simp only[Vs,XY,QcB]at a;omega
theorem Qle{f:Fact}(h:validS f=true)(k:f.Kind=8):1<=f.Report.Case/\(1<=f.Report.Bib/\f.Report.Bib<=9999)/\f.Ruling=Uk.Ruling:=by
 obtain⟨_,a,d⟩:=QbL h;have e:f.Ruling=(onlyS f).Ruling:=by rw[d]
 have g:(onlyS f).Ruling=bif f.Kind==10 then f.Ruling else Uk.Ruling:=rfl
 rw[g,k]at e;unfold contR at a;rw[k]at a;have b:(true&&(nb f.Report.Case 1 1048576&&(nb f.Report.Bib 1 9999&&(nb f.Report.Offence 0 31&&(nb f.Report.Position 0 255&&true)))))=true:=a;simp only[XY,QcB]at b;exact⟨b.2.1.1,b.2.2.1,e⟩
theorem Qbt{f:Fact}(k:f.Kind=10)(j:Int):rulB f.Ruling.Case j f=(f.Ruling.Instance==j):=by
 unfold rulB;rw[k];simp
theorem Qhx{P:List Fact}{fs:List Ub}{f:Fact}(h:FilesOf P fs)(hl:P.length<1048576)(s:validS f=true):∃fs',filesStep fs f=some fs'/\FilesOf (P++[f]) fs':=by
 unfold filesStep;cases a:(f.Kind==10)with
 |true=>
  have k:f.Kind=10:=by simpa using a
  obtain⟨⟨_,e⟩,_⟩:=Qdu s k;have g:caseN f=some f.Ruling.Case:=by unfold caseN;rw[a];rfl
  have n:repB f.Ruling.Case f=false:=by unfold repB;rw[k];rfl
  have b:appB f.Ruling.Case f=false:=by unfold appB;rw[k];rfl
  simp only[Vr,h.room hl];unfold filesAdd;rcases e with e|e
  .refine⟨Qbq (Qag fs f.Ruling.Case) f.Ruling.Case λx=>{x with r1:=x.r1++[f]},by rw[e];rfl,h.put g (λx=>rfl) ?_⟩;unfold fileOf;rw[Qz,Qz,Qz,Qz,Qbt k,Qbt k,Qbt k,e,n,List.any_append,List.any_cons,List.any_nil,b];simp
  .refine⟨Qbq (Qag fs f.Ruling.Case) f.Ruling.Case λx=>{x with r2:=x.r2++[f]},by rw[e];rfl,h.put g (λx=>rfl) ?_⟩;unfold fileOf;rw[Qz,Qz,Qz,Qz,Qbt k,Qbt k,Qbt k,e,n,List.any_append,List.any_cons,List.any_nil,b];simp
 |false=>
  simp only[Vs];have l:∀j i,rulB j i f=false:=λj i=>by unfold rulB;rw[a];rfl
  cases m:(f.Kind==8)with
  |true=>
   have k:f.Kind=8:=by simpa using m
   have g:caseN f=some f.Report.Case:=by unfold caseN;rw[a,m];rfl
   have r:repB f.Report.Case f=true:=by unfold repB;rw[k];simp
   have b:appB f.Report.Case f=false:=by unfold appB;rw[k];rfl
   simp only[Vr,h.room hl];refine⟨Qbq (Qag fs f.Report.Case) f.Report.Case λx=>{x with reports:=x.reports++[f.Report]},rfl,h.put g (λx=>rfl) ?_⟩;unfold fileOf;rw[Qz,Qz,Qz,Qz,l,l,l,r,List.any_append,List.any_cons,List.any_nil,b];simp
  |false=>
   simp only[Vs];have n:∀j,repB j f=false:=λj=>by unfold repB;rw[m];rfl
   cases d:(f.Kind==11)with
   |true=>
    simp only[Vr];cases p:f.Appeal.Suspends with
    |true=>
     have g:caseN f=some f.Appeal.Case:=by unfold caseN;rw[a,m,d,p];rfl
     have q:appB f.Appeal.Case f=true:=by unfold appB;rw[d,p];simp
     refine⟨Qbq (Qag fs f.Appeal.Case) f.Appeal.Case λx=>{x with appeal:=true},rfl,h.put g (λx=>rfl) ?_⟩;unfold fileOf;rw[Qz,Qz,Qz,Qz,l,l,l,n,List.any_append,List.any_cons,List.any_nil,q];simp
    |false=>exact⟨_,rfl,h.skip (by unfold caseN;rw[a,m,d,p];rfl)⟩
   |false=>exact⟨_,rfl,h.skip (by unfold caseN;rw[a,m,d];rfl)⟩
def voidB(C:List Fact)(f:Fact):Bool:=(f.Kind==10)&&C.any λg=>rulB f.Ruling.Case f.Ruling.Instance g&&decide (cmpF g f<0)
def voidS(C:List Fact):List Fact:=C.filter (voidB C)
theorem Qh5{l:List Fact}(h:l.Pairwise ltF)(f:Fact):f∈l.drop 1↔f∈l/\ ∃g∈l,ltF g f:=by
 cases l with
 |nil=>simp
 |cons a r=>
  rw[Xc]at h;simp only[List.drop_succ_cons,List.drop_zero];constructor
  .intro b;exact⟨by simp[b],a,by simp,h.1 f b⟩
  .rintro⟨b,g,e,d⟩;rcases X8.1 b with rfl|b
   .rcases X8.1 e with rfl|e
    .exact absurd d (Qc2 _)
    .exact absurd (QdH _ _ _ (h.1 g e) d) (Qc2 _)
   .exact b
theorem Qmf{C:List Fact}(n:CanonOK C){fs:List Ub}(h:FilesOf C fs)(f:Fact):f∈voidS C↔ ∃x∈fs,f∈x.r0.drop 1\/f∈x.r1.drop 1\/f∈x.r2.drop 1:=by
 have sub:∀p:Fact->Bool,(C.filter p).Pairwise ltF:=λp=>n.1.filter p;have one:∀k i,f∈(C.filter (rulB k i)).drop 1->f∈voidS C:=by
  intro k i a;obtain⟨d,g,b,j⟩:=(Qh5 (sub _) f).1 a;rw[Xe]at d b;have q:=d.2;unfold rulB at q;simp only[XY,VA]at q;unfold voidS;rw[Xe];refine⟨d.1,?_⟩;unfold voidB;rw[q.1,q.2.1,q.2.2];exact Xv.2 ⟨g,b.1,by rw[b.2,VC];exact Vw (show cmpF g f<0 from j)⟩
 constructor
 .intro a;unfold voidS at a;rw[Xe]at a;obtain⟨d,b⟩:=a;unfold voidB at b;rw[XY,Xv]at b;obtain⟨k,g,u,j⟩:=b;rw[XY]at j;have s:f.Kind=10:=by simpa using k
  have t:caseN f=some f.Ruling.Case:=by unfold caseN;rw[k];rfl
  obtain⟨x,m,e⟩:=Xf.1 ((h.mem f.Ruling.Case).2 ⟨f,d,t⟩);have ex:=h.each x m;rw[e]at ex;have r:∀i,f.Ruling.Instance=i->f∈(C.filter (rulB f.Ruling.Case i)).drop 1:=by
   rintro i rfl;refine(Qh5 (sub _) f).2 ⟨Xe.2 ⟨d,by rw[Qbt s];simp⟩,g,Xe.2 ⟨u,j.1⟩,(show cmpF g f<0 from Vx j.2)⟩
  refine⟨x,m,?_⟩;rw[ex];obtain⟨⟨_,l⟩,_⟩:=Qdu (n.2 f d) s;rcases l with l|l
  .exact .inr (.inl (r 1 l))
  .exact .inr (.inr (r 2 l))
 .rintro⟨x,m,a⟩;have ex:=h.each x m;rw[ex]at a;rcases a with a|a|a
  .exact one _ _ a
  .exact one _ _ a
  .exact one _ _ a
def refOf(f:Fact):Ref:={Crew:=f.Crew,No:=f.No:Ref}
def voidR(l:List Fact):List Ref:=(voidS (canonS l)).map refOf
def standB(vs:List Ref)(k:Int)(f:Fact):Bool:=(f.Kind==10)&&((f.Ruling.Case==k)&& !(vs.any λr=>decide (r=refOf f)))
def firstRep(C:List Fact)(k:Int):Option Fact:=C.find? (repB k)
def about(l:List Fact)(k:Int):List Fact:=l.filter (λf=>validS f&&standB (voidR l) k f)++(firstRep (canonS l) k).toList
def SameF(l m:List Fact):Prop:=∀f,validS f=true->(f∈l↔f∈m)
theorem SameF.symm{l m:List Fact}(h:SameF l m):SameF m l:=λf hf=>(h f hf).symm
theorem SameF.filter{l m:List Fact}(h:SameF l m)(p:Fact->Bool):SameF (l.filter p) (m.filter p):=λf hf=>by rw[Xe,Xe,h f hf]
theorem SameF.voidR{l m:List Fact}(h:SameF l m):voidR l=voidR m:=by unfold Go.Sw.voidR;rw[QfM h]
theorem Qqc{l:List Fact}{k:Int}{f:Fact}:f∈about l k↔(f∈l/\validS f=true/\standB (voidR l) k f=true)\/firstRep (canonS l) k=some f:=by
 unfold about;rw[VF,Xe,XY,Option.mem_toList]
theorem Qd8{l:List Fact}{k:Int}{f:Fact}(h:firstRep (canonS l) k=some f):f∈l/\validS f=true/\repB k f=true:=by
 have e:=List.mem_of_find?_eq_some h;have d:=List.find?_some h;obtain⟨a,b⟩:=((Jy l).2 f).1 e;exact⟨a,b,d⟩
theorem Qi5{l:List Fact}{k:Int}{f:Fact}(h:f∈about l k):f∈l/\validS f=true/\((f.Kind=10/\f.Ruling.Case=k)\/(f.Kind=8/\f.Report.Case=k)):=by
 rcases Qqc.1 h with⟨a,b,c⟩|a
 .refine⟨a,b,.inl ?_⟩;unfold standB at c;simp only[XY,VA]at c;exact⟨c.1,c.2.1⟩
 .obtain⟨a,b,c⟩:=Qd8 a;refine⟨a,b,.inr ?_⟩;unfold repB at c;simp only[XY,VA]at c;exact c
def repStep(k:Int)(r f:Fact):Fact:=bif validS f&&repB k f then(bif (r.Kind==0)||decide (cmpF f r<0)then f else r)else r
structure RepOf (k:Int) (P:List Fact) (r:Fact):Prop where
 none:(r.Kind==0)=true->r=Uk/\ ∀f∈P,validS f=true->repB k f=false
 some:(r.Kind==0)=false->r∈P/\validS r=true/\repB k r=true/\ ∀f∈P,validS f=true->repB k f=true->¬cmpF f r<0
theorem Qgl{k:Int}{f:Fact}(h:repB k f=true):(f.Kind==0)=false:=by
 unfold repB at h;rw[XY,VA]at h;rw[h.1];rfl
theorem RepOf.nil(k:Int):RepOf k [] Uk:=⟨λ_=>⟨rfl,λ_ h=>by cases h⟩,λh=>by cases h⟩
theorem RepOf.step{k:Int}{P:List Fact}{r f:Fact}(h:RepOf k P r):RepOf k (P++[f]) (repStep k r f):=by
 unfold repStep;cases q:validS f&&repB k f with
 |false=>
  simp only[Vs];have n:¬(validS f=true/\repB k f=true):=λz=>by rw[z.1,z.2]at q;cases q
  refine⟨λz=>⟨(h.none z).1,λg l i=>?_⟩,λz=>?_⟩
  .rcases VF.1 l with w|w
   .exact(h.none z).2 g w i
   .rw[VD.1 w]at i⊢;exact Qba λy=>n ⟨i,y⟩
  .obtain⟨a,b,c,d⟩:=h.some z;refine⟨by simp[a],b,c,λg l i j=>?_⟩;rcases VF.1 l with w|w
   .exact d g w i j
   .rw[VD.1 w]at i j;exact absurd ⟨i,j⟩ n
 |true=>
  rw[XY]at q;simp only[Vr];cases z:(r.Kind==0)with
  |true=>
   simp only[Bool.true_or,Vr];refine⟨λw=>(by rw[Qgl q.2]at w;cases w),λ_=>⟨by simp,q.1,q.2,λg l i j=>?_⟩⟩;rcases VF.1 l with w|w
   .rw[(h.none z).2 g w i]at j;cases j
   .rw[VD.1 w];have:=QkV.refl f;omega
  |false=>
   simp only[Bool.false_or];obtain⟨a,b,c,d⟩:=h.some z;cases y:decide (cmpF f r<0)with
   |true=>
    have m:=Vx y;simp only[Vr];refine⟨λw=>(by rw[Qgl q.2]at w;cases w),λ_=>⟨by simp,q.1,q.2,λg l i j=>?_⟩⟩;rcases VF.1 l with w|w
    .intro e;exact d g w i j (QkV.trans _ _ _ e m)
    .rw[VD.1 w];have:=QkV.refl f;omega
   |false=>
    have m:=Vy y;simp only[Vs];refine⟨λw=>(by rw[z]at w;cases w),λ_=>⟨by simp[a],b,c,λg l i j=>?_⟩⟩;rcases VF.1 l with w|w
    .exact d g w i j
    .rw[VD.1 w];exact m
theorem Qoh(k:Int)(l:List Fact):RepOf k l (l.foldl (repStep k) Uk):=by
 have b:∀(r p:List Fact) (a:Fact),RepOf k p a->RepOf k (p++r) (r.foldl (repStep k) a):=by
  intro r
  induction r with
  |nil=>intro p a h;rw[Vi];exact h
  |cons f r d=>
   intro p a h;rw[XF,show p++f::r=(p++[f])++r by simp];exact d _ _ h.step
 exact b l [] Uk (RepOf.nil k)
theorem QjN{C:List Fact}(d:C.Pairwise ltF){p:Fact->Bool}{f:Fact}(h:C.find? p=some f):∀g∈C,p g=true->¬cmpF g f<0:=by
 induction C with
 |nil=>cases h
 |cons a C ih=>
  rw[Xc]at d;rw[List.find?_cons]at h;cases q:p a with
  |true=>
   rw[q]at h;cases h;intro g b _;rcases X8.1 b with rfl|b
   .have:=QkV.refl g;omega
   .have:=d.1 g b;unfold ltF at this;have:=QkV.swap f g;omega
  |false=>
   rw[q]at h;intro g b e;rcases X8.1 b with rfl|b
   .rw[q]at e;cases e
   .exact ih d.2 h g b e
theorem Qli(k:Int)(l:List Fact):(l.foldl (repStep k) Uk=Uk/\firstRep (canonS l) k=none)\/(((l.foldl (repStep k) Uk).Kind==0)=false/\firstRep (canonS l) k=some (l.foldl (repStep k) Uk)):=by
 have h:=Qoh k l;obtain⟨n,g⟩:=Jy l;generalize l.foldl (repStep k) Uk=r at*;cases z:(r.Kind==0)with
 |true=>
  obtain⟨a,b⟩:=h.none z;refine .inl ⟨a,List.find?_eq_none.2 λf t=>?_⟩;obtain⟨s,p⟩:=(g f).1 t;rw[b f s p];exact Bool.false_ne_true
 |false=>
  obtain⟨a,b,c,d⟩:=h.some z;refine .inr ⟨rfl,?_⟩;have i:r∈canonS l:=(g r).2 ⟨a,b⟩;cases q:firstRep (canonS l) k with
  |none=>exact absurd c (by have:=List.find?_eq_none.1 q r i;exact this)
  |some f=>
   obtain⟨m,e,j⟩:=Qd8 q;have x:=QjN n.1 q r i c;have w:=d f m e j;have u:=QkV.swap f r;rw[Qdd e b (by omega)]
def bibOf(f:Fact):Int:=f.Report.Bib+f.Ruling.Bib
def whoB(ab:List Fact)(b:Int):Bool:= !(b==0)&&ab.any λf=>bibOf f==b
theorem QlP{l:List Fact}{k:Int}{f:Fact}(h:f∈about l k):0<=bibOf f/\bibOf f<=9999:=by
 obtain⟨_,b,q|q⟩:=Qi5 h
 .obtain⟨_,d,a⟩:=Qdu b q.1;unfold bibOf;rw[a,show Uk.Report.Bib=0 from rfl];omega
 .obtain⟨_,d,a⟩:=Qle b q.1;unfold bibOf;rw[a,show Uk.Ruling.Bib=0 from rfl];omega
def maxAt(ab:List Fact):Int:=ab.foldl (λa f=>max a f.At) 0
theorem QmV(b:List Fact):∀a:Int,a<=b.foldl (λa f=>max a f.At) a/\(∀f∈b,f.At<=b.foldl (λa f=>max a f.At) a)/\(b.foldl (λa f=>max a f.At) a=a\/ ∃f∈b,f.At=b.foldl (λa f=>max a f.At) a):=by
 induction b with
 |nil=>intro a;exact⟨Int.le_refl _,(λ_ h=>by cases h),.inl rfl⟩
 |cons x r k=>
  intro a;rw[XF];obtain⟨l,j,e⟩:=k (max a x.At);generalize r.foldl (λa f=>max a f.At) (max a x.At)=m at*;refine⟨by omega,λf d=>?_,?_⟩
  .rcases X8.1 d with rfl|d
   .omega
   .exact j f d
  .rcases e with e|⟨f,i,g⟩
   .rcases Int.le_total a x.At with q|q
    .exact .inr ⟨x,by simp,by omega⟩
    .exact .inl (by omega)
   .exact .inr ⟨f,by simp[i],g⟩
theorem Qgw{l:List Fact}{k:Int}:0<=maxAt (about l k)/\maxAt (about l k)<=1099511627776:=by
 obtain⟨b,e,a⟩:=QmV (about l k) 0;unfold maxAt;refine⟨b,?_⟩;rcases a with q|⟨f,d,g⟩
 .omega
 .have:=Qmh (Qi5 d).2.1;omega
def standS(e:Int)(c:Course)(l:List Fact)(p:Protest):Bool:=
 bif (about l p.Case).isEmpty then false else bif (p.By==0)||whoB (about l p.Case) p.By then true else
 bif (startF e c l).2==0 then(startF e c l).1.any (λs=>(s.Bib==p.By)&&(startF e c l).1.any λt=>whoB (about l p.Case) t.Bib&&(t.Distance==s.Distance))else false
def deadS(e:Int)(c:Course)(l:List Fact)(k:Int):Int×Bool:=bif (e==0)&& !(about l k).isEmpty then(IntKind.i64.wrap (maxAt (about l k)+c.Deadline),true)else(0,false)
def filedB(t:Int)(g:Fact):Bool:= !decide (t<g.At)
def admS(e:Int)(c:Course)(l:List Fact)(f:Fact):Bool:=
 validS f&&((f.Kind==9)&&((f.Protest.Form==1)&&(((f.Protest.By==0)||decide (c.Fee<=f.Protest.Fee))&&(((deadS e c (l.filter (filedB f.At)) f.Protest.Case).2&&decide (f.At<=(deadS e c (l.filter (filedB f.At)) f.Protest.Case).1))&&standS e c (l.filter (filedB f.At)) f.Protest))))
section
variable {α β:Type}
theorem Qbw(q:α->Bool):∀(l a:List α),l.foldl (λa x=>bif q x then a++[x]else a) a=a++l.filter q
 |[],a=>by simp
 |x::l,a=>by
  rw[XF,Qbw q l,Xd];cases h:q x<;>simp
theorem Qkr{step:Nat->List α×Int->Option (Ctl (List α×Int) (List α))}(l:List α)(q:α->Bool)(hl:l.length<=1048576)
  (f:∀i x a,At l i x->a.length<=i->Ev (λn=>step n (a,(i:Int))) (.cont ((bif q x then a++[x]else a),((i+1:Nat):Int))))
  (b:∀a,Ev (λn=>step n (a,(l.length:Int))) (.done a)):Ev (λn=>Go.Sw.iter (step n) n ([],0)) (l.filter q):=by
 have e:l.filter q=l.foldl (λa x=>bif q x then a++[x]else a) []:=by rw[Qbw];rfl
 rw[e];refine Yp l (λa x=>bif q x then a++[x]else a) [] (λa i=>(a,(i:Int))) (λa=>a) (by omega) rfl (λi x a d g=>f i x a d ?_) (b _);rw[g,Qbw,Vj];exact XX (VP ..) (by rw[Xz];omega)
theorem QdL(f:α->β):∀(l:List α) (a:List β),l.foldl (λa x=>a++[f x]) a=a++l.map f
 |[],a=>by simp
 |x::l,a=>by rw[XF,QdL f l];simp
theorem QoR{step:Nat->List β×Int->Option (Ctl (List β×Int) (List β))}(l:List α)(f:α->β)(hl:l.length<=1048576)
  (g:∀i x a,At l i x->a.length<=i->Ev (λn=>step n (a,(i:Int))) (.cont (a++[f x],((i+1:Nat):Int))))
  (b:∀a,Ev (λn=>step n (a,(l.length:Int))) (.done a)):Ev (λn=>Go.Sw.iter (step n) n ([],0)) (l.map f):=by
 have e:l.map f=l.foldl (λa x=>a++[f x]) []:=by rw[QdL];rfl
 rw[e];refine Yp l (λa x=>a++[f x]) [] (λa i=>(a,(i:Int))) (λa=>a) (by omega) rfl (λi x a d h=>g i x a d ?_) (b _);rw[h,QdL,Vj,X4,Xz];omega
theorem QdK{l:List α}[DecidableEq (List α)](hl:l.length<=1048576):isNil l (some ([]:List α)) ((app ([]:List α) l).bind λx=>some x)=some l:=by
 have:app ([]:List α) l=some l:=by rw[QkX _ _ (by simp;omega)];rfl
 unfold isNil;cases l with
 |nil=>rw[this];simp
 |cons a l=>rw[this];rfl
theorem QnZ{F:Nat->α->α->Option β}{V:α->α->β}(l:List α)(h:∀x∈l,∀y∈l,Ev (λn=>F n x y) (V x y)):∃N,∀n,N<=n->∀x∈l,∀y∈l,F n x y=some (V x y):=by
 obtain⟨N,e⟩:=QaT (F:=λn (p:α×α)=>F n p.1 p.2) (V:=λp=>V p.1 p.2) (l.flatMap λx=>l.map λy=>(x,y)) (by
  intro p a;rw[List.mem_flatMap]at a;obtain⟨x,b,a⟩:=a;obtain⟨y,d,rfl⟩:=Xf.1 a;exact h x b y d)
 exact⟨N,λn f x b y d=>e n f (x,y) (List.mem_flatMap.2 ⟨x,b,Xf.2 ⟨y,d,rfl⟩⟩)⟩
def ltC(c:α->α->Int)(x y:α):Bool:=decide (c x y<0)
theorem Qcb{c:α->α->Int}(d:CmpOK c)(l:List α):Qei (ltC c) l:=by
 refine⟨λx _=>?_,λx _ y _ z _ g f=>?_,λx _ y _ z _ g f=>?_⟩
 .have:=d.refl x;exact Vz (by omega)
 .have g:=Vx g;have f:=Vx f;exact Vw (d.trans x y z g f)
 .have g:=Vy g;have f:=Vy f;refine Vz λh=>?_;have a:=d.swap x y;have b:=d.swap y z;by_cases e:c x y=0
  .rw[d.eqt x y z e]at h;exact f h
  .by_cases i:c y z=0
   .rw[<- d.eqr x i]at h;exact g h
   .have j:=d.trans z y x (by omega) (by omega);have:=d.swap x z;omega
theorem Qk9[DecidableEq α]{cf:Nat->α->α->Option Int}{l:List α}{c:α->α->Int}(hl:l.length<=1048576)(r:∀x∈l,∀y∈l,Ev (λn=>cf n x y) (c x y))(a:CmpOK c)(m:∀x∈l,∀y∈l,c x y=0->x=y):
  Ev (λn=>QbO (cf n) l) (Ji (ltC c) l):=by
 obtain⟨N,s⟩:=QnZ l r;refine⟨N,λn u=>?_⟩;have h:=s n u;have k:=Qms (cf:=cf n) (XT (QeC hl)) c h (λx _=>by have:=a.refl x;omega) (λx _ y _ z _=>a.trans x y z) (λx b y d z p g f=>by
   have:=(Qcb a l).ntrans x b y d z p (Vz g) (Vz f);exact Vy this) (λx b y d g f=>m x b y d (by have:=a.swap x y;omega))
 show QbO (cf n) l=some (Ji (ltC c) l);rw[k];congr 1;obtain⟨_,_,t,_,_⟩:=QcO k;have e:∀x∈l,∀y∈l,ltO (cf n) x y=ltC c x y:=λx b y d=>by unfold ltO ltC;rw[h x b y d]
 refine Js (lt:=ltC c) ((Qq _ l).trans (Qq _ l).symm) (λx b y d g f=>?_) ?_ (Q4 (Qcb a l))
 .have j:=(Qq _ l).mem_iff.1 b;have i:=(Qq _ l).mem_iff.1 d;have g:=Vy g;have f:=Vy f;exact m x j y i (by have:=a.swap x y;omega)
 .refine List.Pairwise.imp_of_mem (λ{x y} b d q=>?_) (Q4 t);have j:=(Qq _ l).mem_iff.1 b;have i:=(Qq _ l).mem_iff.1 d;rw[<- e y i x j];exact q
end
def ddA(p:Fact):List Fact->List Fact
 |[]=>[]
 |x::r=>bif cmpF x p==0 then ddA x r else x::ddA x r
def dd:List Fact->List Fact
 |[]=>[]
 |x::r=>x::ddA x r
theorem Qnw{x p:Fact}{r:List Fact}(q:(cmpF x p==0)=true):ddA p (x::r)=ddA x r:=by
 show(bif cmpF x p==0 then ddA x r else x::ddA x r)=_;rw[q];rfl
theorem Qnv{x p:Fact}{r:List Fact}(q:(cmpF x p==0)=false):ddA p (x::r)=x::ddA x r:=by
 show(bif cmpF x p==0 then ddA x r else x::ddA x r)=_;rw[q];rfl
theorem Qnu:∀(r:List Fact) (p:Fact),(∀x∈r,¬cmpF x p<0)->r.Pairwise (λa b=>¬cmpF b a<0)->(∀x∈p::r,validS x=true)->(ddA p r).Pairwise ltF/\(∀x∈ddA p r,ltF p x)/\ ∀x,x∈p::ddA p r↔x∈p::r
 |[],p,_,_,_=>⟨List.Pairwise.nil,(λ_ h=>by cases h),λ_=>Iff.rfl⟩
 |y::r,p,h1,h2,h3=>by
  rw[Xc]at h2;obtain⟨i1,i2,i3⟩:=Qnu r y h2.1 h2.2 λx hx=>h3 x (by simp only[X8]at hx⊢;exact .inr hx);have hy:=h1 y (by simp);unfold ddA;cases q:cmpF y p==0 with
  |true=>
   have q':cmpF y p=0:=by simpa using q
   have e:y=p:=Qdd (h3 y (by simp)) (h3 p (by simp)) q';subst e;refine⟨i1,i2,λx=>?_⟩;rw[Vr,i3 x];simp
  |false=>
   have q':¬cmpF y p=0:=by simpa using q
   have d:ltF p y:=by
    have:=QkV.swap y p;unfold ltF;omega
   simp only[Vs];refine⟨Xc.2 ⟨i2,i1⟩,λx hx=>?_,λx=>?_⟩
   .rcases X8.1 hx with rfl|hx
    .exact d
    .exact QdH _ _ _ d (i2 x hx)
   .rw[X8,i3 x,X8 (a:=x) (b:=p)]
theorem dd_ok{S:List Fact}(h:S.Pairwise λa b=>¬cmpF b a<0)(g:∀x∈S,validS x=true):(dd S).Pairwise ltF/\ ∀x,x∈dd S↔x∈S:=by
 cases S with
 |nil=>exact⟨List.Pairwise.nil,λ_=>Iff.rfl⟩
 |cons a r=>
  rw[Xc]at h;obtain⟨f,e,d⟩:=Qnu r a h.1 h.2 g;exact⟨Xc.2 ⟨e,f⟩,d⟩
theorem QhB(x y:Fact):Ev (λn=>F_bf n x y) (cmpF x y==0):=Ea (Qbz x y) (Qa _)
theorem QkK{l:List Fact}{a j:Nat}{x:Fact}(h:l[a+j]?=some x){m:Int}(d:m=(l.length:Int)):Qhs l (a:Int) m (j:Int)=some x:=by
 have b:=(XN.1 h).1;unfold Qhs;rw[Vw (show(0:Int)<=(a:Int)by omega),Vw (show(0:Int)<=(j:Int)by omega),Vw (show(a:Int)+(j:Int)<m by omega)];rw[show(a:Int)+(j:Int)=((a+j:Nat):Int)by omega];exact YR h
theorem QkU{α:Type}{l r:List α}{i:Nat}{x:α}(h:l.drop i=x::r):l[i]?=some x/\l.drop (i+1)=r/\i<l.length:=by
 have a:l[i]?=some x:=by
  have:=congrArg (λl=>l[0]?) h;simpa using this
 refine⟨a,?_,(XN.1 a).1⟩;have:=Xr (XN.1 a).1;rw[h]at this;exact(List.cons.inj this).2.symm
theorem QiU(a:List Fact)(hl:a.length<=1048576)(b:Nat):∀(r s:List Fact) (i j:Nat) (p:Fact),s.length=a.length->s.drop (b+(j+1))=r->s[b+j]?=some p->i<b+(j+1)->b+(j+1)<=s.length->
  ∃(s':List Fact) (d:Nat),EvI (λn=>F_gk n a (b:Int)) (s,(i:Int),((j+1:Nat):Int)) (s',(d:Int))/\d<=s'.length/\s'.take d=s.take i++ddA p r:=by
 intro r
 induction r with
 |nil=>
  intro s i j p e k w H L;refine⟨s,i,Ej ?_,by omega,by simp[ddA]⟩;have:=Xs.1 k;unfold F_gk;rw[Q9 (show¬(((j+1:Nat):Int)<((Int.toNat (a.length:Int)-Int.toNat (b:Int):Nat):Int))by omega)];exact Qa _
 |cons x r F=>
  intro s i j p e k w H L;obtain⟨h,E,G⟩:=QkU k;have t:=QkK h (show(a.length:Int)=(s.length:Int)by rw[e]);have z:=QkK w (show(a.length:Int)=(s.length:Int)by rw[e]);have y:IntKind.i64.wrap (((j+1:Nat):Int)-1)=(j:Int):=by rw[QJ (by omega) (by omega)];omega
  have B:IntKind.i64.wrap (((j+1:Nat):Int)+1)=((j+1+1:Nat):Int):=Q8 (by omega);have u:decide (((j+1:Nat):Int)<((Int.toNat (a.length:Int)-Int.toNat (b:Int):Nat):Int))=true:=Vw (by omega);have l:i<s.length:=by omega
  cases q:cmpF x p==0 with
  |true=>
   obtain⟨s',d,g,f,m⟩:=F s i (j+1) x e (by rw[show b+(j+1+1)=b+(j+1)+1 by omega];exact E) h (by omega) (by omega);refine⟨s',d,Ex ?_ g,f,by rw[m,Qnw q]⟩;unfold F_gk;simp only[u,Vr,t,y,z,XL];refine Ea (QhB x p) ?_;rw[q];simp only[Xh,Vs,XL,B];exact Qa _
  |false=>
   have J:(s.set i x).length=a.length:=by rw[X6];exact e
   obtain⟨s',d,g,f,m⟩:=F (s.set i x) (i+1) (j+1) x J (by rw[show b+(j+1+1)=b+(j+1)+1 by omega,List.drop_set_of_lt (by omega)];exact E) (by rw[XR (by omega)];exact h) (by omega) (by rw[X6];omega);have M:IntKind.i64.wrap ((i:Int)+1)=((i+1:Nat):Int):=Q8 (by omega);refine⟨s',d,Ex ?_ g,f,?_⟩
   .unfold F_gk;simp only[u,Vr,t,y,z,XL];refine Ea (QhB x p) ?_;rw[q];simp only[Xi,Vr,XL,B,YR (XM l),Qib s x l,M];exact Qa _
   .rw[m,List.take_add_one,Xa l,List.take_set_of_le (XV _)];rw[Qnv q];simp
theorem QiV(a:List Fact)(hl:a.length<=1048576):∀(r:List Fact) (k:Nat) (p:Fact),a.drop (k+1)=r->a[k]?=some p->k+1<=a.length->∃b:Ctl Unit (List Fact),EvI (λn=>F_gv n a) ((k+1:Nat):Int) b/\((b=.cont ()/\ddA p r=r)\/b=.done (a.take (k+1)++ddA p r)):=by
 intro r
 induction r with
 |nil=>
  intro k p l i w;refine⟨.cont (),Ej ?_,.inl ⟨rfl,rfl⟩⟩;have:=Xs.1 l;unfold F_gv;rw[Q9 (show¬(((k+1:Nat):Int)<(a.length:Int))by omega)];exact Qa _
 |cons x r z=>
  intro k p l i w;obtain⟨g,m,f⟩:=QkU l;have t:IntKind.i64.wrap (((k+1:Nat):Int)-1)=(k:Int):=by rw[QJ (by omega) (by omega)];omega
  have u:IntKind.i64.wrap (((k+1:Nat):Int)+1)=((k+1+1:Nat):Int):=Q8 (by omega);have s:decide (((k+1:Nat):Int)<(a.length:Int))=true:=Vw (by omega);cases q:cmpF x p==0 with
  |true=>
   obtain⟨y,B,h,d,j⟩:=QiU a hl (k+1) r a (k+1) 0 x rfl m g (by omega) (by omega);refine⟨.done (a.take (k+1)++ddA p (x::r)),Ej ?_,.inr rfl⟩;unfold F_gv;simp only[s,Vr,YR g,t,YR i,XL];refine Ea (QhB x p) ?_;rw[q];simp only[Vr,Qh9 a (Nat.le_of_lt f),XL];refine Ea h.ev ?_;simp only[Qmt y d,XL];rw[j];rw[Qnw q];exact Qa _
  |false=>
   obtain⟨b,h,d⟩:=z (k+1) x m g f;have e:=Qnv (r:=r) q;refine⟨b,Ex ?_ h,?_⟩
   .unfold F_gv;simp only[s,Vr,YR g,t,YR i,XL];refine Ea (QhB x p) ?_;rw[q];simp only[Vs,u];exact Qa _
   .rcases d with⟨d,j⟩|d
    .exact .inl ⟨d,by rw[e,j]⟩
    .refine .inr ?_;rw[d,e,List.take_add_one,g];simp
theorem QiS(a:List Fact)(hl:a.length<=1048576):Ev (λn=>F_dq n a) (dd a):=by
 unfold F_dq
 match a,hl with
 |[],_=>exact Qa _
 |[x],_=>exact Qa _
 |x::y::r,hl=>
  rw[Q9 (show¬(((x::y::r).length:Int)<2)by simp;omega)];refine QP ?_;obtain⟨b,e,f⟩:=QiV (x::y::r) hl (y::r) 0 x rfl rfl (by simp);refine Ea e.ev ?_;rcases f with⟨rfl,d⟩|rfl
  .show Ev (λn=>some (x::y::r)) (x::ddA x (y::r));rw[d];exact Qa _
  .exact Qa _
theorem QgJ(l:List Fact)(d:∀f∈l,validS f=true)(hl:l.length<=1048576):Ev (λn=>F_ay n l) (canonS l):=by
 unfold F_ay F_av;simp only[QdK hl,XL];have p:=Qq (ltC cmpF) l;refine Ea (Qk9 hl (λx _ y _=>Qbz x y) QkV λx g y r e=>Qdd (d x g) (d y r) e) ?_;refine Ea (QiS _ (by rw[p.length_eq];exact hl)) ?_;have s:(Ji (ltC cmpF) l).Pairwise λa b=>¬cmpF b a<0:=List.Pairwise.imp (λq=>Vy q) (Q4 (Qcb QkV l));obtain⟨j,m⟩:=dd_ok s λx g=>d x (p.mem_iff.1 g);obtain⟨k,i⟩:=Jy l;refine Ew (Qa _) (Qbr Qc2 QdH j k.1 λf=>?_);rw[m,p.mem_iff,i];exact⟨λh=>⟨h,d f h⟩,λh=>h.1⟩
def cmpN(x y:Ub):Int:=cmpI x.number y.number
theorem QeD:CmpOK cmpN:=cmpI_ok.on λx:Ub=>x.number
def sortN(fs:List Ub):List Ub:=Ji (ltC cmpN) fs
theorem QkF{fs:List Ub}(h:(fs.map (·.number)).Nodup){x y:Ub}(d:x∈fs)(f:y∈fs)(e:x.number=y.number):x=y:=by
 induction fs with
 |nil=>cases d
 |cons a r g=>
  have b:a.number∉r.map (·.number)/\(r.map (·.number)).Nodup:=by rw[Vl,List.nodup_cons]at h;exact h
  rcases X8.1 d with q|q
  .rcases X8.1 f with z|z
   .rw[q,z]
   .exact absurd (Xf.2 ⟨y,z,by rw[<- e,q]⟩) b.1
  .rcases X8.1 f with z|z
   .exact absurd (Xf.2 ⟨x,q,by rw[e,z]⟩) b.1
   .exact g b.2 q z
theorem Qlg{p q:List Ub}(h:p.Perm q)(e:(q.map (·.number)).Nodup):sortN p=sortN q:=by
 have f:(p.map (·.number)).Nodup:=(h.map _).nodup_iff.2 e;refine Js (lt:=ltC cmpN) ((Qq _ p).trans (h.trans (Qq _ q).symm)) (λx d y g b a=>?_) (Q4 (Qcb QeD p)) (Q4 (Qcb QeD q));have b:=Vy b;have a:=Vy a;refine QkF f ((Qq _ p).mem_iff.1 d) ((Qq _ p).mem_iff.1 g) (Qqb.1 ?_);have:=QeD.swap x y;show cmpN x y=0;omega
def ltN(x y:Ub):Prop:=x.number<y.number
theorem Qh7{p:List Ub}(e:(p.map (·.number)).Nodup):(sortN p).Pairwise ltN:=by
 have a:((sortN p).map (·.number)).Nodup:=((Qq _ p).map _).nodup_iff.2 e;have s:=Q4 (Qcb QeD p);have b:(sortN p).Pairwise λx y=>x.number≠y.number:=by
  unfold List.Nodup at a;rw[List.pairwise_map]at a;exact a
 refine List.Pairwise.imp₂ (λx y d f=>?_) s b;have d:¬cmpI y.number x.number<0:=Vy d;rw[QoI]at d;unfold ltN;omega
theorem QpW(x y:Ub):Ev (λn=>F_aq n x y) (cmpN x y==0):=by
 unfold F_aq F_ar;simp only[QhG,XL];exact Qa _
theorem QiT(fs:List Ub)(hl:fs.length<=1048576)(b:fs.Pairwise ltN):Ev (λn=>F_bl n fs) ():=by
 unfold F_bl;cases q:decide ((fs.length:Int)<2)with
 |true=>exact Qa _
 |false=>
  refine QP ?_;refine Ea (v:=()) ?_ (Qa _);have h:=Vy q;refine Ev.iter (λi=>((i+1:Nat):Int)) (fs.length-1) rfl (λi j=>?_) ?_
  .have g:fs[i+1]?=some fs[i+1]:=XM (by omega);have d:fs[i]?=some fs[i]:=XM (by omega);have f:IntKind.i64.wrap (((i+1:Nat):Int)-1)=(i:Int):=by rw[QJ (by omega) (by omega)];omega
   have a:IntKind.i64.wrap (((i+1:Nat):Int)+1)=((i+1+1:Nat):Int):=Q8 (by omega);unfold F_jd;rw[Vw (show(((i+1:Nat):Int)<(fs.length:Int))by omega)];simp only[Vr,YR g,f,YR d,XL];refine Ea (QpW _ _) ?_;have lt:ltN fs[i] fs[i+1]:=VG.1 b i (i+1) (by omega) (by omega) (by omega);have e:(cmpN fs[i+1] fs[i]==0)=false:=by
    rw[VB];intro z;have k:fs[i+1].number=fs[i].number:=Qqb.1 z;unfold ltN at lt;omega
   rw[e];simp only[Vs,a];exact Qa _
  .unfold F_jd;rw[Q9 (show¬(((fs.length-1+1:Nat):Int)<(fs.length:Int))by omega)];exact Qa _
theorem QjX(fs:List Ub)(hl:fs.length<=1048576)(a:(fs.map (·.number)).Nodup):Ev (λn=>F_cs n fs) (sortN fs):=by
 unfold F_cs F_ha;simp only[QdK hl,XL];refine Ea (v:=sortN fs) (Qk9 hl (λx _ y _=>?_) QeD λx b y d e=>QkF a b d (Qqb.1 e)) ?_
 .unfold F_ar;simp only[QhG,XL];exact Qa _
 .refine Ea (v:=()) (QiT _ ?_ (Qh7 a)) (Qa _);unfold sortN;rw[(Qq _ fs).length_eq];exact hl
theorem Qfg(fs:List Ub)(k:Int):(Qag fs k).length<=fs.length+1:=by
 unfold Qag;cases fs.any λx=>decide (x.number=k)<;>simp
theorem QeO(fs:List Ub)(k:Int)(g:Ub->Ub):(Qbq fs k g).length=fs.length:=by unfold Qbq;rw[X4]
theorem QoL{fs a:List Ub}{k i:Int}{f:Fact}(h:filesAdd fs k i f=some a):a.length=fs.length:=by
 unfold filesAdd at h;cases d:(i==0)<;>cases b:(i==1)<;>cases e:(i==2)<;>rw[d,b,e]at h<;>first|(cases h;done)|(cases h;rw[QeO])
theorem Qmn{fs a:List Ub}{f:Fact}(h:filesStep fs f=some a):a.length<=fs.length+1:=by
 unfold filesStep at h;cases g:(f.Kind==10)with
 |true=>
  rw[g,Vr]at h;cases d:Qd0 (Qag fs f.Ruling.Case)with
  |true=>rw[d,Vr]at h;rw[QoL h];exact Qfg _ _
  |false=>rw[d]at h;cases h
 |false=>
  rw[g,Vs]at h;cases d:(f.Kind==8)with
  |true=>
   rw[d,Vr]at h;cases b:Qd0 (Qag fs f.Report.Case)with
   |true=>rw[b,Vr]at h;cases h;rw[QeO];exact Qfg _ _
   |false=>rw[b]at h;cases h
  |false=>
   rw[d,Vs]at h;cases b:(f.Kind==11)with
   |true=>
    rw[b,Vr]at h;cases e:f.Appeal.Suspends with
    |true=>rw[e,Vr]at h;cases h;rw[QeO];exact Qfg _ _
    |false=>rw[e]at h;cases h;omega
   |false=>rw[b]at h;cases h;omega
theorem QlA(C:List Fact)(l:∀f∈C,validS f=true)(hl:C.length<=1048576):∃fs,Ev (λn=>Go.Sw.iter (filesL n C) n (([]:List Ub),0)) fs/\FilesOf C fs/\fs.length<=C.length:=by
 have loop:∀(r:List Fact) (i:Nat) (s:List Ub),C.drop i=r->i<=C.length->FilesOf (C.take i) s->s.length<=i->∃fs,EvI (λn=>filesL n C) (s,(i:Int)) fs/\FilesOf C fs/\fs.length<=C.length:=by
  intro r
  induction r with
  |nil=>
   intro i s d k b h;refine⟨s,Ej ?_,?_,by omega⟩
   .unfold filesL;simp only[QX d k,Vs];exact Qa _
   .rw[VK (Xs.1 d)]at b;exact b
  |cons f r u=>
   intro i s d k b h;obtain⟨a,j⟩:=Qt (by omega) d;have m:=a.lt';obtain⟨p,g,e⟩:=Qhx b (by rw[Xz];omega) (l f a.mem);rw[<- a.take]at e;obtain⟨fs,q,t⟩:=u (i+1) p j (by omega) e (by have:=Qmn g;omega);refine⟨fs,Ex ?_ q,t⟩;unfold filesL;simp only[a.lt,Vr,a.ix,XL,g,a.nx];exact Qa _
 obtain⟨fs,g,e⟩:=loop C 0 [] rfl (XW _) FilesOf.nil (XV _);exact⟨fs,g.ev,e⟩
theorem QfF:∀(p:List (Int×Ub)) (s:List Ub) (n:Nat),s.length+p.length<=1048576->QeW (F_ih n) (F_it n) s p=some (s++p.map Prod.snd)
 |[],s,n,_=>by unfold QeW F_it;simp
 |e::p,s,n,h=>by
  rw[X3]at h;have h1:F_ih n s e=some (.cont (s++[e.2])):=by
   unfold F_ih;rw[Qam _ _ (by omega)];rfl
  unfold QeW;rw[h1];show QeW _ _ (s++[e.2]) p=_;rw[QfF p _ n (by simp;omega)];simp
theorem FilesOf.perm{C:List Fact}{fs gs:List Ub}(h:FilesOf C fs)(p:gs.Perm fs):FilesOf C gs:=
 ⟨(p.map _).nodup_iff.2 h.num,λx hx=>h.each x (p.mem_iff.1 hx),λk=>by rw[(p.map _).mem_iff];exact h.mem k⟩
theorem Qnk(l:List Fact)(hl:l.length<=100):∃fs,Ev (λn=>F_br n l) fs/\FilesOf (canonS l) fs/\fs.Pairwise ltN/\fs.length<=(canonS l).length:=by
 have m:∀f∈l.filter validS,validS f=true:=λf g=>(Xe.1 g).2;have e:canonS (l.filter validS)=canonS l:=QfM λf g=>by rw[Xe];simp[g]
 obtain⟨t,y⟩:=Jy l;have k:=QcI l;obtain⟨fs,u,d,r⟩:=QlA (canonS l) t.2 (by omega);refine⟨sortN fs,?_,d.perm (Qq _ fs),Qh7 d.num,by unfold sortN;rw[(Qq _ fs).length_eq];exact r⟩;unfold F_br;refine Ea (v:=l.filter validS) (Qkr l validS (by omega) (λi x a b s=>?_) λa=>?_) ?_
 .have q:=b.lt';unfold F_ix;simp only[b.lt,Vr,b.ix,XL,b.nx];refine Ea (Qal x) ?_;cases validS x with
  |true=>
   simp only[Vr];rw[Qam a x (by omega)];exact Qa _
  |false=>exact Qa _
 .unfold F_ix;simp only[YU,Vs];exact Qa _
 refine Ea (v:=canonS l) ((QgJ _ m (XX (VP ..) (by omega))).eq e) ?_;refine Ea u ?_;refine Ev.anyP λp j=>?_;have z:p.length=fs.length:=by rw[j.length_eq];unfold Qes;rw[X4]
 have h:(p.map Prod.snd).Perm fs:=by
  have:=j.map Prod.snd;unfold Qes at this;rw[List.map_map]at this;have w:(fs.map (Prod.snd ∘ λx:Ub=>(x.number,x)))=fs:=by
   conv=>rhs;rw[<- List.map_id fs]
   rfl
  rw[w]at this;exact this
 simp only[QfF p [] _ (by simp;omega),Vj,XL];refine Ea (QjX _ (by rw[X4];omega) ((h.map _).nodup_iff.2 d.num)) ?_;rw[Qlg h d.num];exact Qa _
def tailsOf(x:Ub):List Fact:=x.r0.drop 1++(x.r1.drop 1++x.r2.drop 1)
theorem Qnh(x:Ub)(s:List Fact)(h:s.length+(tailsOf x).length<=1048576)(h0:x.r0.length<=1048576)(g:x.r1.length<=1048576)(f:x.r2.length<=1048576):Ev (λn=>Go.Sw.iter (F_gn n x) n (s,0)) (s++tailsOf x):=by
 unfold tailsOf at h⊢;simp only[X5]at h;have one:∀(l s:List Fact) (i:Nat),([x.r0,x.r1,x.r2]:List (List Fact))[i]?=some l->l.length<=1048576->s.length+(l.drop 1).length<=1048576->∀n,F_gn n x (s,(i:Int))=some (.cont (s++l.drop 1,((i+1:Nat):Int))):=by
  intro l s i d j k n;have b:=(XN.1 d).1;simp only[X3,List.length_nil]at b;unfold F_gn;simp only[Vw (show((i:Int)<3)by omega),Vr,YR d,XL,Q8 (show i<9223372036854775807 by omega)];cases q:decide ((1:Int)<(l.length:Int))with
  |true=>
   have e:=Vx q;simp only[Vr];have:=Qh9 l (a:=1) (by omega);rw[show((1:Nat):Int)=1 by rfl]at this;rw[this];simp only[XL];rw[QkX _ _ (by omega)];rfl
  |false=>
   have e:=Vy q;simp only[Vs,XL];rw[Xs.2 (by omega),Vi]
 refine EvI.ev (Ex (Jc (Qa _) λn=>one _ _ 0 rfl h0 (by omega) n) (Ex (Jc (Qa _) λn=>one _ _ 1 rfl g (by simp only[X5];omega) n) (Ex (Jc (Qa _) λn=>one _ _ 2 rfl f (by simp only[X5];omega) n) (Ej ?_))));refine Jc (Qa _) λn=>?_;unfold F_gn;simp only[Vk];rfl
theorem Qgc{C:List Fact}{fs:List Ub}(h:FilesOf C fs){x:Ub}(a:x∈fs):(tailsOf x).length<=3*C.length/\x.r0.length<=C.length/\x.r1.length<=C.length/\x.r2.length<=C.length:=by
 have e:=h.each x a;have b:x.r0.length<=C.length:=by rw[e];exact VP ..
 have f:x.r1.length<=C.length:=by rw[e];exact VP ..
 have d:x.r2.length<=C.length:=by rw[e];exact VP ..
 unfold tailsOf;simp only[X5,List.length_drop];omega
theorem Qlv{C:List Fact}{fs gs:List Ub}(h:FilesOf C fs)(hg:∀x∈gs,x∈fs):(gs.flatMap tailsOf).length<=gs.length*(3*C.length):=by
 induction gs with
 |nil=>simp
 |cons a r d=>
  rw[List.flatMap_cons,X5,X3,XB,Nat.one_mul];have:=(Qgc h (hg a (by simp))).1;have:=d λx b=>hg x (by simp[b]);omega
theorem QcF{α β:Type}(f:α->List β):∀(l:List α) (a:List β),l.foldl (λa x=>a++f x) a=a++l.flatMap f
 |[],a=>by simp
 |x::l,a=>by rw[XF,QcF f l];simp
theorem QoD(l:List Fact)(hl:l.length<=100):Ev (λn=>F_ct n l) (voidR l):=by
 obtain⟨d,G,r,O,H⟩:=Qnk l hl;have F:=QcI l;obtain⟨t,J⟩:=Jy l;have u:∀k:List Ub,k.length<=d.length->(∀x∈k,x∈d)->(k.flatMap tailsOf).length<=30000:=λk N j=>by
  have a:=Qlv r j;have b:k.length*(3*(canonS l).length)<=100*300:=Nat.mul_le_mul (by omega) (by omega);omega
 unfold F_ct;refine Ea G ?_;refine Ea (v:=d.flatMap tailsOf) ?_ ?_
 .have e:d.flatMap tailsOf=d.foldl (λa x=>a++tailsOf x) []:=by rw[QcF];rfl
  rw[e];refine Yp d (λa x=>a++tailsOf x) [] (λa i=>(a,(i:Int))) (λa=>a) (by omega) rfl (λi x a g m=>?_) ?_
  .have p:=g.lt';rw[QcF,Vj]at m;have s:a.length<=30000:=by rw[m];exact u _ (by rw[Xz];omega) λx q=>List.mem_of_mem_take q
   obtain⟨P,M,L,Q⟩:=Qgc r g.mem;unfold F_iw;simp only[g.lt,Vr,g.ix,XL,g.nx];exact Ea (Qnh x a (by omega) (by omega) (by omega) (by omega)) (Qa _)
  .unfold F_iw;simp only[YU,Vs];exact Qa _
 have j:∀f,f∈d.flatMap tailsOf↔f∈voidS (canonS l):=by
  intro f;rw[Qmf t r,List.mem_flatMap];simp only[tailsOf,VF]
 have w:∀f∈d.flatMap tailsOf,validS f=true:=λf m=>by
  have:=(j f).1 m;unfold voidS at this;exact t.2 f (Xe.1 this).1
 have z:=u d (XV _) λx q=>q;refine Ea (QgJ _ w (by omega)) ?_;have e:canonS (d.flatMap tailsOf)=voidS (canonS l):=by
  obtain⟨B,E⟩:=Jy (d.flatMap tailsOf);refine Qbr Qc2 QdH B.1 (t.1.filter _) λf=>?_;rw[E,j f];exact⟨λh=>h.1,λh=>⟨h,w f ((j f).2 h)⟩⟩
 rw[e];have y:(voidS (canonS l)).length<=100:=XX (VP ..) (by omega);refine Ea (v:=voidR l) (QoR _ refOf (by omega) (λi x a g s=>?_) λa=>?_) (Qa _)
 .have p:=g.lt';unfold F_ja;simp only[g.lt,Vr,g.ix,XL,g.nx];rw[Qam a _ (by omega)];exact Qa _
 .unfold F_ja;simp only[YU,Vs];exact Qa _
section
variable {S T B:Type} {step:Nat->S->Option (List T×Ctl S B)} {s s':S} {b:B} {xs ys:List T}
def EvL(step:Nat->S->Option (List T×Ctl S B))(s:S)(ys:List T)(b:B):Prop:=∃N,∀n k,N<=n->N<=k->Qcq (step n) k s=some (ys,b)
theorem EvL.done(h:Ev (λn=>step n s) (ys,.done b)):EvL step s ys b:=by
 obtain⟨N,h⟩:=h;refine⟨N+1,λn k d f=>?_⟩;obtain⟨a,rfl⟩:∃a,k=a+1:=⟨k-1,by omega⟩;have e:step n s=some (ys,.done b):=h n (by omega);unfold Qcq;rw[e];rfl
theorem EvL.cont(h:Ev (λn=>step n s) (xs,.cont s'))(q:EvL step s' ys b):EvL step s (xs++ys) b:=by
 obtain⟨N,h⟩:=h;obtain⟨M,q⟩:=q;refine⟨max N M+1,λn k d f=>?_⟩;obtain⟨a,rfl⟩:∃a,k=a+1:=⟨k-1,by omega⟩;have e:step n s=some (xs,.cont s'):=h n (by omega);unfold Qcq;rw[e];show(Qcq (step n) a s').bind _=_;rw[q n a (by omega) (by omega)];rfl
theorem EvL.ev(h:EvL step s ys b):Ev (λn=>Qcq (step n) n s) (ys,b):=by
 obtain⟨N,h⟩:=h;exact⟨N,λn a=>h n n a a⟩
theorem Qgk{U R:Type}{st:U->T->Option (Ctl U R)}(g:U->T->U):∀(l:List T) (u:U),(∀x∈l,∀u,st u x=some (.cont (g u x)))->Qen st l u=some (.cont (l.foldl g u))
 |[],u,_=>rfl
 |x::l,u,h=>by
  unfold Qen;rw[h x (by simp)];exact Qgk g l _ λy hy=>h y (by simp[hy])
end
theorem Qmg(vs:List Ref)(r:Ref):Qx (Q3 (λx:Ref=>x) true vs) r false=vs.any λx=>decide (x=r):=by
 rw[Qaq,List.map_id'];by_cases h:r∈vs
 .rw[Vv h];exact(Xv.2 ⟨r,h,by simp⟩).symm
 .rw[Vu h];refine(List.any_eq_false.2 λx a q=>?_).symm;rw[Vx q]at a;exact h a
theorem QiW(l:List Fact)(k:Int)(hl:l.length<=100):Ev (λn=>F_aj n l k) (about l k,()):=by
 unfold F_aj;refine Ea (QoD l hl) ?_;have u:(voidR l).length<=100:=by
  unfold voidR voidS;rw[X4];exact XX (VP ..) (by have:=QcI l;omega)
 refine Ea (v:=Q3 (λx:Ref=>x) true (voidR l)) (QaF _ _ _ (by omega) (λi x m b=>?_) λm=>?_) ?_
 .unfold F_jg;simp only[b.lt,Vr,b.ix,XL,b.nx];exact Qa _
 .unfold F_jg;simp only[YU,Vs];exact Qa _
 have loop:∀(r:List Fact) (i:Nat) (a:Fact),l.drop i=r->i<=l.length->EvL (λn=>F_ig n l k (Q3 (λx:Ref=>x) true (voidR l))) (a,(i:Int)) (r.filter λf=>validS f&&standB (voidR l) k f) (r.foldl (repStep k) a):=by
  intro r
  induction r with
  |nil=>
   intro i a h q;refine EvL.done ?_;unfold F_ig;simp only[QX h q,Vs];exact Qa _
  |cons f r w=>
   intro i a h q;obtain⟨b,g⟩:=Qt (by omega) h;have s:=b.lt';have e:(f::r).filter (λf=>validS f&&standB (voidR l) k f)=(bif validS f&&standB (voidR l) k f then[f]else[])++r.filter λf=>validS f&&standB (voidR l) k f:=by
    rw[Xd];cases validS f&&standB (voidR l) k f<;>rfl
   rw[e,XF];refine EvL.cont ?_ (w (i+1) (repStep k a f) g (by omega));unfold F_ig;simp only[b.lt,Vr,b.ix,XL,b.nx];refine Ea (Qal f) ?_;unfold repStep;cases y:validS f with
   |false=>exact Qa _
   |true=>
    simp only[Vr,VC];refine QP (Ea (v:=repB k f) (Jc (Qa _) λn=>?_) ?_)
    .unfold repB;cases(f.Kind==8)<;>rfl
    cases d:repB k f with
    |true=>
     have t:standB (voidR l) k f=false:=by
      unfold repB at d;rw[XY,VA]at d;unfold standB;rw[d.1];rfl
     rw[t];simp only[Vr,Vs];refine Ea (v:=(a.Kind==0)||decide (cmpF f a<0)) (Eu λ_=>Ea (Qbz f a) (Qa _)) ?_;cases(a.Kind==0)||decide (cmpF f a<0)<;>exact Qa _
    |false=>
     simp only[Vs,Qmg];refine Ea (v:=standB (voidR l) k f) (Jc (Qa _) λn=>?_) ?_
     .unfold standB refOf;cases(f.Kind==10)<;>cases(f.Ruling.Case==k)<;>rfl
     cases standB (voidR l) k f<;>exact Qa _
 unfold ap;refine Ea (loop l 0 Uk rfl (XW _)).ev ?_;unfold about;rcases Qli k l with⟨p,j⟩|⟨p,j⟩
 .rw[j];simp only[p];refine Jc (Qa _) λn=>?_;rfl
 .rw[j];simp only[bne,p,Xi,Vr];refine Jc (Qa _) λn=>?_;rfl
theorem QgA:∀(d:List Fact) (a:Int) (b:Bool),d.foldl (λ(s:Int×Bool) x=>((if s.1<x.At then x.At else s.1),true)) (a,b)=(d.foldl (λa f=>max a f.At) a,b|| !d.isEmpty)
 |[],a,b=>by simp
 |x::r,a,b=>by
  rw[XF,QgA r,XF];have:(if a<x.At then x.At else a)=max a x.At:=by
   by_cases h:a<x.At
   .rw[Vv h];omega
   .rw[Vu h];omega
  simp[this]
theorem Qb0(e:Int)(c:Course)(l:List Fact)(k:Int)(hl:l.length<=100)(he:Ev (λn=>F_c n c) e):Ev (λn=>F_w n c l k) (deadS e c l k):=by
 unfold F_w deadS;refine Ea he ?_;cases h:(e==0)with
 |false=>
  rw[show(e != 0)=true by rw[bne,h];rfl];exact Qa _
 |true=>
  rw[show(e != 0)=false by rw[bne,h];rfl];simp only[Vs,VC];unfold F_ah;simp only[XL];refine Ea (QiW l k hl) ?_;refine Ea (v:=.cont (maxAt (about l k), !(about l k).isEmpty)) (Jc (Qa _) λn=>?_) ?_
  .have a:=Qgk (st:=F_jj n) (λ(s:Int×Bool) (x:Fact)=>((if s.1<x.At then x.At else s.1),true)) (about l k) (0,false) λx _ u=>rfl;rw[QgA]at a;exact a
  .cases(about l k).isEmpty<;>exact Qa _
theorem Qlo{α β:Type}[DecidableEq α](l:List (α×β))(k d:α):Y1 (mdel l k) d=if d=k then none else Y1 l d:=by
 induction l with
 |nil=>by_cases h:d=k<;>simp[mdel,QmT]
 |cons p l a=>
  unfold mdel at a⊢;rw[Xd,YY];by_cases e:p.1=k
  .by_cases b:d=k
   .simp[e,b]at a⊢;exact a
   .have f:¬p.1=d:=λz=>b (z.symm.trans e);simp[e,b,f]at a⊢;rw[a,Vu (λz=>b z.symm)]
  .by_cases b:d=k
   .subst b;simp[e]at a⊢;rw[YY,a,Vu e]
   .simp[e,b]at a⊢;rw[YY,a]
theorem Qe6{α β:Type}[DecidableEq α](l:List (α×β))(k:α)(z:β):Qx l k z=(Y1 l k).getD z:=by
 unfold Qx;cases Y1 l k<;>rfl
theorem QnA{l:List Fact}{k:Int}{f:Fact}(h:f∈about l k):IntKind.i64.wrap (f.Report.Bib+f.Ruling.Bib)=bibOf f:=by
 have:=QlP h;unfold bibOf at this⊢;exact QJ (by omega) (by omega)
theorem Qh3{l:List Fact}{k:Int}(n:Nat):∀(a:List Fact),(∀f∈a,f∈about l k)->∀(m:List (Int×Bool)) (b:Bool),Qen (F_ho n) a (m,b)=some (.cont (a.foldl (λm f=>Q5 m (bibOf f) true) m,b|| !a.isEmpty))
 |[],_,m,b=>by simp[Qen]
 |x::r,h,m,b=>by
  unfold Qen;have:F_ho n (m,b) x=some (.cont (Q5 m (bibOf x) true,true)):=by
   unfold F_ho;rw[QnA (h x (by simp))];rfl
  rw[this];show Qen _ r _=_;rw[Qh3 n r (λf d=>h f (by simp[d]))];simp
theorem Qks(a:List Fact)(b:Int):Qx (mdel (a.foldl (λm f=>Q5 m (bibOf f) true) ([]:List (Int×Bool))) 0) b false=whoB a b:=by
 have e:a.foldl (λm f=>Q5 m (bibOf f) true) ([]:List (Int×Bool))=Q3 bibOf true a:=rfl;rw[e,Qe6,Qlo];unfold whoB;by_cases h:b=0
 .rw[Vv h,h];rfl
 .rw[Vu h, <- Qe6,Qaq];have g:(b==0)=false:=by simpa using h
  rw[g,Xi,VC];by_cases q:b∈a.map bibOf
  .rw[Vv q];obtain⟨f,d,rfl⟩:=Xf.1 q;exact(Xv.2 ⟨f,d,by simp⟩).symm
  .rw[Vu q];refine(List.any_eq_false.2 λf d z=>q ?_).symm;rw[<- (VA.1 z)];exact VI d
theorem Qgg{α κ:Type}[DecidableEq κ](q:α->Bool)(key:α->κ)(d:κ):∀(l:List α) (m:List (κ×Bool)),Qx (l.foldl (λm t=>bif q t then Q5 m (key t) true else m) m) d false=(Qx m d false||l.any λt=>q t&&decide (key t=d))
 |[],m=>by simp
 |x::l,m=>by
  rw[XF,Qgg q key d l,List.any_cons];cases h:q x with
  |false=>simp
  |true=>
   rw[Vr,QcC];by_cases h2:d=key x
   .simp[h2]
   .have:¬key x=d:=λz=>h2 z.symm;simp[h2,this]
theorem Qlw{α:Type}(q:α->Bool)(l:List α):decide (0<=firstI q l 0)=l.any q:=by
 rcases QbX q l 0 with⟨b,a⟩|⟨j,x,b,a,d,f⟩
 .rw[b];refine(List.any_eq_false.2 λx e z=>?_).symm;have:=Xu.1 a x e;rw[z]at this;cases this
 .rw[b,Vw (by omega)];exact(Xv.2 ⟨x,VJ a,d⟩).symm
theorem QiX(e:Int)(c:Course)(l:List Fact)(p:Protest)(hl:l.length<=16)(he:Ev (λn=>F_c n c) e):Ev (λn=>F_ab n c l p) (standS e c l p):=by
 unfold F_ab standS F_ah;simp only[XL];refine Ea (QiW l p.Case (by omega)) ?_;refine Ea (v:=.cont ((about l p.Case).foldl (λm f=>Q5 m (bibOf f) true) ([]:List (Int×Bool)), !(about l p.Case).isEmpty)) (Jc (Qa _) λn=>by rw[Qh3 n _ λf k=>k];rfl) ?_;simp only[Qks];generalize hm:mdel ((about l p.Case).foldl (λm f=>Q5 m (bibOf f) true) ([]:List (Int×Bool))) 0=M;have g:∀b,Qx M b false=whoB (about l p.Case) b:=λb=>by rw[<- hm];exact Qks _ b
 generalize about l p.Case=ab at g⊢;cases ab.isEmpty with
 |true=>exact Qa _
 |false=>
  simp only[Xi,Xh,Vs];refine Ea (v:=(p.By==0)||whoB ab p.By) (Eu λ_=>Qa _) ?_;cases(p.By==0)||whoB ab p.By with
  |true=>exact Qa _
  |false=>
   simp only[Vs];refine Ea (QiM e c l hl he) ?_;cases q:((startF e c l).2==0)with
   |false=>
    rw[show((startF e c l).2 != 0)=true by rw[bne,q];rfl];exact Qa _
   |true=>
    rw[show((startF e c l).2 != 0)=false by rw[bne,q];rfl];have h:=Qjx e c l;simp only[Vs,Vr];generalize startF e c l=st at h;refine Ea (v:=st.1.foldl (λm t=>bif whoB ab t.Bib then Q5 m t.Distance true else m) ([]:List (Int×Bool))) ?_ ?_
    .refine Yp st.1 (λm t=>bif whoB ab t.Bib then Q5 m t.Distance true else m) [] (λm i=>(m,(i:Int))) (λm=>m) (by omega) rfl (λi x m a _=>?_) ?_
     .unfold F_je;simp only[a.lt,Vr,a.ix,XL,a.nx,g];cases whoB ab x.Bib<;>exact Qa _
     .unfold F_je;simp only[YU,Vs];exact Qa _
    generalize hd:st.1.foldl (λm t=>bif whoB ab t.Bib then Q5 m t.Distance true else m) ([]:List (Int×Bool))=D;have j:∀d,Qx D d false=st.1.any λt=>whoB ab t.Bib&&(t.Distance==d):=λd=>by
     rw[<- hd,Qgg (λt:Starter=>whoB ab t.Bib) (λt=>t.Distance) d,Qgu,Bool.false_or];refine congrArg (λf=>st.1.any f) (funext λt=>?_);rw[show decide (t.Distance=d)=(t.Distance==d)from rfl]
    refine Ea (v:=st.1.any λs=>(s.Bib==p.By)&&st.1.any λt=>whoB ab t.Bib&&(t.Distance==s.Distance)) ?_ (Qa _);unfold F_fg F_fk;rw[<- Qlw];refine Ea (Ev.first st.1 (λs=>(s.Bib==p.By)&&st.1.any λt=>whoB ab t.Bib&&(t.Distance==s.Distance)) (by omega) (λi x a=>?_) ?_) (Qa _)
    .unfold F_io F_fq;simp only[a.lt,Vr,a.ix,XL,a.nx,j];refine Ea (v:=(x.Bib==p.By)&&st.1.any λt=>whoB ab t.Bib&&(t.Distance==x.Distance)) (Ea (Ei λ_=>Qa _) (Qa _)) ?_;cases(x.Bib==p.By)&&st.1.any λt=>whoB ab t.Bib&&(t.Distance==x.Distance)<;>exact Qa _
    .unfold F_io;simp only[YU,Vs];exact Qa _
theorem QoB(l:List Fact)(f:Fact)(hl:l.length<=1048576):Ev (λn=>F_ch n l f) (l.filter (filedB f.At)):=by
 unfold F_ch F_gw;refine Ev.delete l (λg=>decide (f.At<g.At)) hl (Ev.first l _ (by omega) (λi x a=>?_) ?_) (λb i j x y k a d m e=>?_) λb i=>?_
 .unfold F_jc F_as;simp only[a.lt,Vr,a.ix,XL,a.nx];cases decide (f.At<x.At)<;>exact Qa _
 .unfold F_jc;simp only[YU,Vs];exact Qa _
 .have h:=(XN.1 d).1;unfold F_jb F_as;simp only[a.lt,Vr,a.ix,XL,a.nx];cases decide (f.At<x.At)with
  |true=>exact Qa _
  |false=>
   simp only[Xi,Vr,YR d,Qib b x h,XL,Q8 (show i<9223372036854775807 by omega)];exact Qa _
 .unfold F_jb;simp only[YU,Vs];exact Qa _
theorem QfG(e:Int)(c:Course)(l:List Fact)(f:Fact)(hl:l.length<=100)(d:(l.filter (filedB f.At)).length<=16)(he:Ev (λn=>F_c n c) e):Ev (λn=>F_i n c l f) (admS e c l f):=by
 unfold F_i admS;refine Ea (v:= !(validS f&&(f.Kind==9))) ?_ ?_
 .refine Ea (Qal f) ?_;cases validS f with
  |true=>exact Jc (Qa _) λn=>rfl
  |false=>exact Qa _
 cases validS f with
 |false=>exact Qa _
 |true=>
  simp only[VC];cases(f.Kind==9)with
  |false=>exact Qa _
  |true=>
   simp only[VC,Xh,Vs];unfold F_av;simp only[QdK (show l.length<=1048576 by omega),XL];refine Ea (QoB l f (by omega)) ?_;unfold F_ft F_ex F_er F_fl;simp only[XL];cases(f.Protest.Form==1)with
   |false=>exact Qa _
   |true=>
    simp only[Xh,Vs,VC];unfold F_ew F_gr;have g:((bif (f.Protest.By==0)then some true else some (decide (c.Fee<=f.Protest.Fee))):Option Bool)=some ((f.Protest.By==0)||decide (c.Fee<=f.Protest.Fee)):=by cases(f.Protest.By==0)<;>rfl
    simp only[g,XL];cases(f.Protest.By==0)||decide (c.Fee<=f.Protest.Fee)with
    |false=>exact Qa _
    |true=>
     simp only[Xh,Vs,VC];have b:Ev (λn=>F_dx n c (l.filter (filedB f.At)) f.Protest f) (!((deadS e c (l.filter (filedB f.At)) f.Protest.Case).2&&decide (f.At<=(deadS e c (l.filter (filedB f.At)) f.Protest.Case).1))):=by
      unfold F_dx F_gz;refine Ea (Ea (Qb0 e c _ f.Protest.Case (by omega) he) ?_) (Qa _);exact Ea (Ei λ_=>Qa _) (Qa _)
     have a:Ev (λn=>F_cp n c (l.filter (filedB f.At)) f.Protest) (!standS e c (l.filter (filedB f.At)) f.Protest):=by
      unfold F_cp F_ei;exact Ea (Ea (QiX e c _ f.Protest d he) (Qa _)) (Qa _)
     generalize((deadS e c (l.filter (filedB f.At)) f.Protest.Case).2&&decide (f.At<=(deadS e c (l.filter (filedB f.At)) f.Protest.Case).1))=u at b⊢;generalize standS e c (l.filter (filedB f.At)) f.Protest=v at a⊢;refine Ea (v:= !(u&&v)) (Ea (v:=bif u&&v then-1 else bif u then(3:Int)else 2) (Ea b ?_) ?_) ?_
     .cases u with
      |false=>exact Qa _
      |true=>
       refine QP (Ea a ?_);cases v<;>exact Qa _
     .cases u<;>cases v<;>exact Qa _
     .cases u<;>cases v<;>exact Qa _
theorem Qct(e:Int)(c:Course)(l:List Fact)(f:Fact)(hl:l.length<=16)(he:Ev (λn=>F_c n c) e):Ev (λn=>F_i n c l f) (admS e c l f):=
 QfG e c l f (by omega) (XX (VP ..) hl) he
theorem Qn0{α R:Type}{step:Nat->Int->Option (Ctl Int (Ctl Unit R))}(l:List α)(q:α->Bool)(v:α->R)(hl:l.length<=4611686018427387904)
  (f:∀i x,At l i x->Ev (λn=>step n (i:Int)) (bif q x then .done (.done (v x))else .cont ((i+1:Nat):Int)))(e:Ev (λn=>step n (l.length:Int)) (.done (.cont ()))):
  Ev (λn=>Go.Sw.iter (step n) n 0) ((l.find? q).elim (.cont ()) λx=>.done (v x)):=by
 have loop:∀(r:List α) (i:Nat),l.drop i=r->i<=l.length->EvI step (i:Int) ((r.find? q).elim (.cont ()) λx=>.done (v x)):=by
  intro r
  induction r with
  |nil=>
   intro i a g;have:i=l.length:=by have:=Xs.1 a;omega
   subst this;exact Ej e
  |cons x r j=>
   intro i a g;obtain⟨d,b⟩:=Qt hl a;have s:=f i x d;rw[List.find?_cons];cases h:q x with
   |true=>
    rw[h]at s;exact Ej s
   |false=>
    rw[h]at s;exact Ex s (j (i+1) b (by have:=d.lt';omega))
 exact(loop l 0 rfl (XW _)).ev
set_option maxRecDepth 100000
theorem Qpi:F_hd 300=some true:=by kernel_rfl
theorem QfK(c:Course)(w:CourseOk c)(q:PartsOk c)(k:FewL c)(he:Ev (λn=>F_c n c) 0):(0<=c.Fee/\c.Fee<=1125899906842624)/\(0<=c.Deadline/\c.Deadline<=1099511627776):=by
 have h:numbersS c=true:=by
  cases a:fitsG c with
  |false=>
   have:Ev (λn=>F_c n c) 2:=by
    unfold F_c;refine Ea (Qc8 c w q k) ?_;rw[a];exact Qa _
   have:=QhV he this;cases this
  |true=>
   cases b:namesS c with
   |false=>
    have:Ev (λn=>F_c n c) 70:=by
     unfold F_c;refine Ea (Qc8 c w q k) ?_;rw[a];refine QP (Ea (QfD c w) ?_);rw[b];exact Qa _
    have:=QhV he this;cases this
   |true=>
    cases d:numbersS c with
    |true=>rfl
    |false=>
     have:Ev (λn=>F_c n c) 71:=by
      unfold F_c;refine Ea (Qc8 c w q k) ?_;rw[a];refine QP (Ea (QfD c w) ?_);rw[b];refine QP (Ea (QfC c w q) ?_);rw[d];exact Qa _
     have:=QhV he this;cases this
 unfold numbersS at h;simp only[XY]at h;obtain⟨_,_,_,_,_,_,_,_,_,h⟩:=h;unfold lastS at h;simp only[XY,inR,Vt]at h;omega
theorem Qp2{α:Type}[BEq α][LawfulBEq α](a:α):(a != a)=false:=by simp
theorem Qkc{e:Int}{c:Course}{l:List Fact}{f:Fact}(h:admS e c l f=true):validS f=true/\f.Kind=9/\f.Protest.Form=1/\((f.Protest.By==0)||decide (c.Fee<=f.Protest.Fee))=true/\(deadS e c (l.filter (filedB f.At)) f.Protest.Case).2=true/\f.At<=(deadS e c (l.filter (filedB f.At)) f.Protest.Case).1/\standS e c (l.filter (filedB f.At)) f.Protest=true:=by
 unfold admS at h;simp only[XY,VA,Vt]at h;obtain⟨a,b,d,g,⟨i,j⟩,k⟩:=h;exact⟨a,b,d,g,i,j,k⟩
end Go.Sw
