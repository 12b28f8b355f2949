/- The plain laws that a law needs, with no program in sight. -/
import Derived.Test.YtkfjchmhgpkcbaaGreatW31In
set_option linter.unusedVariables false
set_option linter.unusedSimpArgs false
namespace Go.Sw
def inR(lo hi x:Int):Bool:=decide (lo<=x)&&decide (x<=hi)
theorem QfR(lo hi:Int)(l:List Int)(a:l.length<=4611686018427387904):Ev (λn=>F_a n lo hi l) (l.all (inR lo hi)):=by
 have h:Ev (λn=>F_ci n l lo hi) (l.any λx=> !inR lo hi x):=by
  unfold F_ci F_gg;refine Ev.contains l _ (λn x=>F_bh n x lo hi) a λx _=>?_;unfold F_bh;refine Ea (v:= !inR lo hi x) ?_ (Qa _);refine(Qf λh=>Qa _).eq ?_;unfold inR;rw[X7];simp
 unfold F_a;refine Ea h ((Qa _).eq ?_);rw[List.not_any_eq_all_not];simp
def okN(c:Nat):Bool:=(decide (97<=c)&&decide (c<=122))||(decide (48<=c)&&decide (c<=57))||decide (c=95)
def okAN(c:Nat):Bool:=decide (97<=c)&&decide (c<=122)
def okC(c:UInt8):Bool:=okN c.toNat
def okA(c:UInt8):Bool:=okAN c.toNat
def kwL:List (List UInt8):=[[99,111,117,114,115,101],[109,97,116,115],[115,116,97,114,116],[112,97,115,115],[101,110,100],[108,101,103],[116,111],[100,105,115,116,97,110,99,101],[103,117,110],[99,104,105,112],[115,108,111,116],[108,97,112,115],[108,97,112],[99,117,116,111,102,102],[101,120,116,114,97],[119,97,118,101],[111,102,102,101,110,99,101],[111,117,116],[99,97,116,101,103,111,114,121],[112,114,105,122,101],[97,108,108],[116,105,101,115],[105,102],[101,108,115,101],[97,110,100],[111,114],[110,111,116],[111,108,100,101,114],[121,111,117,110,103,101,114],[98,105,98],[100,114,97,119],[102,105,101,108,100],[115,104,111,114,116],[102,97,117,108,116,115],[109,105,115,115,101,115],[115,116,114,97,121,115],[119,105,110,100,111,119],[114,101,115,105,100,117,97,108],[100,114,105,102,116],[112,114,111,116,101,115,116],[102,101,101],[100,101,97,100,108,105,110,101]]
theorem QgJ(c d:Bool):(bif c then some c else some d)=some (c||d):=by cases c<;>rfl
theorem QcK(c d:Bool):(bif c then some true else some d)=some (c||d):=by cases c<;>rfl
theorem Qfp(n:Nat)(s:List UInt8):F_cx n s=some (kwL.contains s):=by
 unfold F_cx;simp only[QgJ,QcK,XR];simp only[kwL,List.contains_cons,List.contains_nil,Bool.or_false,Bool.or_assoc]
def kwsOf:List UInt8->List (List UInt8)
 |[]=>[]
 |b::l=>(bif b==32&& !(l.dropWhile λc=>c != 32).isEmpty then[l.takeWhile λc=>c != 32]else[])++kwsOf l
theorem Qds:∀(l s:List UInt8),(∀c∈s,c≠32)->(s++[32]).isPrefixOf l=((l.takeWhile λc=>c != 32)==s&& !(l.dropWhile λc=>c != 32).isEmpty)
 |[],s,h=>by cases s<;>simp
 |b::l,[],h=>by
  by_cases e:b=32
  .subst e;simp[List.isPrefixOf]
  .have e1:(b != 32)=true:=by simpa using e
   have j:(32==b)=false:=by simpa using λq=>e q.symm
   simp[List.isPrefixOf,List.takeWhile_cons,e1,j]
 |b::l,c::s,h=>by
  have g:=h c (by simp);have a:=Qds l s λd f=>h d (by simp[f]);by_cases e:b=32
  .subst e;have:(c==32)=false:=by simpa using g
   simp[List.isPrefixOf,this]
  .have e1:(b != 32)=true:=by simpa using e
   simp only[List.cons_append,List.isPrefixOf,List.takeWhile_cons,List.dropWhile_cons,e1,if_true,a,List.cons_beq_cons];by_cases q:c=b
   .subst q;simp
   .have i:(c==b)=false:=by simpa using q
    have k:(b==c)=false:=by simpa using λz=>q z.symm
    simp[i,k]
theorem contains_cons(b:UInt8)(l t:List UInt8)(d:t≠[]):Lib.contains (b::l) t=(t.isPrefixOf (b::l)||Lib.contains l t):=by
 unfold Lib.contains;rw[show Lib.index (b::l) t=if t.isPrefixOf (b::l)then 0 else if Lib.index l t== -1 then-1 else Lib.index l t+1 from rfl];cases h:t.isPrefixOf (b::l)with
 |true=>simp
 |false=>
  have:=Lib.index_ge l t;by_cases q:Lib.index l t= -1
  .simp[q]
  .have a:(Lib.index l t== -1)=false:=by simpa using q
   simp only[a,Bool.false_or];rw[X7];simp;omega
theorem QbM(s:List UInt8)(h:∀c∈s,c≠32):∀l,Lib.contains l (32::(s++[32]))=(kwsOf l).contains s
 |[]=>by simp[Lib.contains,Lib.index,kwsOf]
 |b::l=>by
  rw[contains_cons b l _ (by simp),QbM s h l];simp only[kwsOf,List.isPrefixOf,Qds l s h];by_cases e:b=32
  .subst e;cases q: !(l.dropWhile λc=>c != 32).isEmpty with
   |true=>
    simp only[q,beq_self_eq_true,Bool.true_and,Bool.and_true,cond_true,List.cons_append,Vq,List.contains_cons];congr 1;rw[X7];simp only[beq_iff_eq];exact⟨λh=>h.symm,λh=>h.symm⟩
   |false=>simp[q]
  .have e1:(b==32)=false:=by simpa using e
   have a:(32==b)=false:=by simpa using λq=>e q.symm
   simp[e1,a]
def wordsL:List UInt8:=[32,99,111,117,114,115,101,32,109,97,116,115,32,115,116,97,114,116,32,112,97,115,115,32,101,110,100,32,108,101,103,32,116,111,32,100,105,115,116,97,110,99,101,32,103,117,110,32,99,104,105,112,32,115,108,111,116,32,108,97,112,115,32,108,97,112,32,99,117,116,111,102,102,32,101,120,116,114,97,32,119,97,118,101,32,111,102,102,101,110,99,101,32,111,117,116,32,99,97,116,101,103,111,114,121,32,112,114,105,122,101,32,97,108,108,32,116,105,101,115,32,105,102,32,101,108,115,101,32,97,110,100,32,111,114,32,110,111,116,32,111,108,100,101,114,32,121,111,117,110,103,101,114,32,98,105,98,32,100,114,97,119,32,102,105,101,108,100,32,115,104,111,114,116,32,102,97,117,108,116,115,32,109,105,115,115,101,115,32,115,116,114,97,121,115,32,119,105,110,100,111,119,32,114,101,115,105,100,117,97,108,32,100,114,105,102,116,32,112,114,111,116,101,115,116,32,102,101,101,32,100,101,97,100,108,105,110,101,32]
theorem QoZ:kwsOf wordsL=kwL:=by decide+kernel
def classTab:List Int:=(List.range 256).map λi=>if 97<=i/\i<=122\/65<=i/\i<=90 then 2 else if 48<=i/\i<=57 then 3 else if i∈[123,125,40,41,91,93,59,44,61,60,62]then 4 else if i∈[32,9,10,13]then 1 else 0
theorem QiD:Ev F_dm classTab:=by
 unfold F_dm;refine Ea (Qbd (step:=F_if 0) 40 (b:=(iter (F_if 0) 40 (List.replicate 256 0,97)).getD []) (by decide+kernel)) ?_;refine Ea (Qbd (step:=F_jk 0) 40 (b:=(iter (F_jk 0) 40 ((iter (F_if 0) 40 (List.replicate 256 0,97)).getD [],48)).getD []) (by decide+kernel)) ?_;generalize hb:(iter (F_jk 0) 40 ((iter (F_if 0) 40 (List.replicate 256 0,97)).getD [],48)).getD []=b2;refine Ea (Qbd (step:=F_ml 0) 40 (b:=(iter (F_ml 0) 40 (b2,0)).getD []) (by subst hb;decide+kernel)) ?_;refine Ea (Qbd (step:=F_nb 0) 40 (b:=classTab) (by subst hb;decide+kernel)) ?_;exact EA (by decide+kernel)
theorem Qkz:((List.range 256).all λi=> !okN i||decide (classTab[i]?=some (if okAN i then 2 else if i=95 then 0 else 3)))=true:=by decide+kernel
theorem QmI{c:UInt8}(h:okC c=true):Qch 256 classTab (c.toNat:Int)=some (if okA c then 2 else if c.toNat=95 then 0 else 3):=by
 have a:=Xx.1 Qkz c.toNat (List.mem_range.2 c.toNat_lt);unfold okC at h;rw[h]at a;simp only[Xh,Bool.false_or,decide_eq_true_eq]at a;unfold Qch;rw[show Nat.beq classTab.length 256=true by decide+kernel,cond_true,Qq a];rfl
def goodS(s:List UInt8):Bool:=decide (1<=s.length)&&decide (s.length<=24)&&(s.head?).any okA&&s.all okC
def isNameS(s:List UInt8):Bool:=goodS s&& !kwL.contains s
theorem Qkk(s:List UInt8)(h:goodS s=true):Ev (λn=>F_em n s) true:=by
 unfold goodS at h;simp only[X5,decide_eq_true_eq,Xx]at h;obtain⟨⟨⟨b,k⟩,j⟩,g⟩:=h;unfold F_em;refine Ea QiD ?_;refine Jz (v:=List.replicate 256 0) (by decide+kernel) ?_;refine Jz (v:=classTab) (by decide+kernel) ?_;refine Ea (v:=Ctl.cont ()) (Ex (λi=>(i:Int)) s.length rfl (λi e=>?_) ?_) ?_
 .have a:=JA (x:=s[i]) (by omega) (XS e);have f:=g _ a.mem;unfold F_lp;simp only[a.lt,cond_true,a.ix,XR,QmI f,a.nx];cases i with
  |zero=>
   have:okA s[0]=true:=by
    cases s with
    |nil=>simp at b
    |cons c r=>simpa using j
   simp[this];exact Qa _
  |succ i=>
   by_cases q:okA s[i+1]=true
   .simp[q];exact Qa _
   .by_cases d:s[i+1].toNat=95
    .simp[q,d];exact Qa _
    .simp[q,d];exact Qa _
 .unfold F_lp;simp only[Yt,cond_false];exact Qa _
 .refine EA ?_;cases s with
  |nil=>simp at b
  |cons c r=>rfl
theorem Qkc{s:List UInt8}(h:goodS s=true):∀c∈s,c≠32:=by
 unfold goodS at h;simp only[X5,Xx]at h;rintro c a rfl;exact absurd (h.2 _ a) (by decide)
theorem Ql1{s:List UInt8}(h:goodS s=true):s.length<=24:=by
 unfold goodS at h;simp only[X5,decide_eq_true_eq]at h;exact h.1.1.2
theorem QiG(s:List UInt8)(h:goodS s=true):Ev (λn=>F_fp n s) (kwL.contains s):=by
 unfold F_fp;refine Ea (v:=kwL.contains s) ?_ (Qa _);refine Ea (Qkk s h) (Qga ?_);have a:=Ql1 h;refine Jz (v:=[32]++s) (by unfold cat;rw[X0 (by simp;omega)];rfl) ?_;refine Jz (v:=[32]++s++[32]) (by unfold cat;rw[X0 (by simp;omega)];rfl) ?_;refine Jz (v:=kwL.contains s) ?_ (Qa _);show QeD wordsL ([32]++s++[32])=some (kwL.contains s);unfold QeD;rw[show Nat.blt wordsL.length 4294967281=true by decide+kernel,cond_true];rw[show[32]++s++[32]=32::(s++[32])by simp,QbM s (Qkc h),QoZ]
theorem ch_lt(c:UInt8)(k:Nat):decide ((c.toNat:Int)<(k:Int))=decide (c.toNat<k):=by
 rw[X7];simp
theorem badC(c:UInt8):(bif decide ((c.toNat:Int)<97)then(bif decide ((c.toNat:Int)<48)then some ((c.toNat:Int) != 95)else(bif decide (57<(c.toNat:Int))then some ((c.toNat:Int) != 95)else some false))else(bif decide (122<(c.toNat:Int))then(bif decide ((c.toNat:Int)<48)then some ((c.toNat:Int) != 95)else(bif decide (57<(c.toNat:Int))then some ((c.toNat:Int) != 95)else some false))else some false))=some (!okC c):=by
 unfold okC okN;generalize c.toNat=k;have e:((k:Int) != 95)= !decide (k=95):=by
  by_cases h:k=95
  .subst h;rfl
  .rw[decide_eq_false h];simp;omega
 rw[e];by_cases g:k<48
 .rw[QN (show(k:Int)<97 by omega),QN (show(k:Int)<48 by omega)];have a:¬97<=k:=by omega
  have f:¬48<=k:=by omega
  simp[a,f]
 .rw[QD (show¬(k:Int)<48 by omega)];by_cases b:k<=57
  .rw[QN (show(k:Int)<97 by omega),QD (show¬57<(k:Int)by omega)];have a:48<=k:=by omega
   simp[a,b]
  .rw[QN (show 57<(k:Int)by omega)];by_cases i:k<97
   .rw[QN (show(k:Int)<97 by omega)];have a:¬97<=k:=by omega
    simp[a,b]
   .rw[QD (show¬(k:Int)<97 by omega)];by_cases d:k<=122
    .rw[QD (show¬122<(k:Int)by omega)];have a:97<=k:=by omega
     simp[a,d]
    .rw[QN (show 122<(k:Int)by omega)];simp[b,d]
theorem QfI(n:Nat)(s:List UInt8):(bif decide ((s.length:Int)<1)then some true else(bif decide (24<(s.length:Int))then some true else(idx s 0).bind λx10=>(bif decide ((x10.toNat:Int)<97)then some true else(idx s 0).bind λx12=>some (decide (122<(x12.toNat:Int))))))=some (!(decide (1<=s.length)&&decide (s.length<=24)&&(s.head?).any okA)):=by
 cases s with
 |nil=>rfl
 |cons c r=>
  rw[QD (show¬((c::r).length:Int)<1 by simp;omega),cond_false];by_cases h:(c::r).length<=24
  .rw[QD (show¬24<((c::r).length:Int)by omega),cond_false];have d:idx (c::r) 0=some c:=rfl;simp only[d,XR];simp only[X9]at h;have a:r.length<=23:=by omega
   simp only[List.head?_cons,Option.any_some,okA,okAN];rw[show(97:Int)=((97:Nat):Int)from rfl,ch_lt];by_cases b:c.toNat<97
   .have:¬97<=c.toNat:=by omega
    simp[b,this]
   .have e:97<=c.toNat:=by omega
    simp[b,e,a];by_cases q:c.toNat<=122
    .rw[QD (show¬122<(c.toNat:Int)by omega),QN q];rfl
    .rw[QN (show 122<(c.toNat:Int)by omega),QD q];rfl
  .rw[QN (show 24<((c::r).length:Int)by omega),cond_true];simp only[X9]at h;have a:¬r.length<=23:=by omega
   simp[a]
theorem QfV(s:List UInt8)(g:s.length<=1048576):Ev (λn=>F_e n s) (isNameS s):=by
 unfold F_e;refine Ea (EA (QfI 0 s)) ?_;unfold isNameS;cases d:(decide (1<=s.length)&&decide (s.length<=24)&&(s.head?).any okA)with
 |false=>
  simp only[Xi,cond_true];have:goodS s=false:=by unfold goodS;rw[d];rfl
  rw[this];exact Qa _
 |true=>
  simp only[Xh,cond_false];have f:goodS s=s.all okC:=by unfold goodS;rw[d];rfl
  refine Ea (Y7 s (λc=> !okC c) (λi=>(i:Int)) (Ctl.done false) (Ctl.cont ()) (by omega) rfl (λi x a b=>?_) (λi x a b=>?_) ?_) ?_
  .unfold F_km;simp only[a.lt,cond_true,a.ix,XR,badC,b,cond_false,a.nx];exact Qa _
  .unfold F_km;simp only[a.lt,cond_true,a.ix,XR,badC,b];exact Qa _
  .unfold F_km;simp only[Yt,cond_false];exact Qa _
  .rw[f];have e:s.any (λc=> !okC c)= !s.all okC:=by rw[List.not_all_eq_any_not]
   rw[e];cases q:s.all okC with
   |true=>
    simp only[Xh,cond_false,Bool.true_and];exact Ea (QiG s (f.trans q)) (Qa _)
   |false=>
    simp only[Xi,cond_true,Bool.false_and];exact Qa _
theorem Qbi(s:List UInt8)(m:s.length<=1048576):Ev (λn=>F_ay n s) (isNameS s):=by
 unfold F_ay;refine Ea (EA (QfI 0 s)) ?_;unfold isNameS;cases a:(decide (1<=s.length)&&decide (s.length<=24)&&(s.head?).any okA)with
 |false=>
  simp only[Xi,cond_true];have:goodS s=false:=by unfold goodS;rw[a];rfl
  rw[this];exact Qa _
 |true=>
  simp only[Xh,cond_false];have l:goodS s=s.all okC:=by unfold goodS;rw[a];rfl
  cases s with
  |nil=>simp at a
  |cons c r=>
   have k:okC c=true:=by
    simp only[X5,List.head?_cons,Option.any_some]at a;have:=a.2;unfold okA at this;unfold okC okN;unfold okAN at this;rw[this];rfl
   have p:r.length<=24:=by
    simp only[X5,decide_eq_true_eq,X9]at a;omega
   have h:∀(i:Nat) (x:UInt8),At r i x->decide (((i+1:Nat):Int)<((c::r).length:Int))=true/\idx (c::r) ((i+1:Nat):Int)=some x/\IntKind.i64.wrap (((i+1:Nat):Int)+1)=((i+1+1:Nat):Int):=by
    intro i x b;have:=b.lt';exact⟨decide_eq_true (by simp;omega),Qq (by simpa using b.get),YQ (by omega)⟩
   refine Ea (Y7 r (λc=> !okC c) (λi=>((i+1:Nat):Int)) (Ctl.done false) (Ctl.cont ()) (by omega) rfl (λi x b f=>?_) (λi x b f=>?_) ?_) ?_
   .obtain⟨d,g,j⟩:=h i x b;unfold F_jq;simp only[d,cond_true,g,XR,badC,f,cond_false,j];exact Qa _
   .obtain⟨d,g,j⟩:=h i x b;unfold F_jq;simp only[d,cond_true,g,XR,badC,f];exact Qa _
   .unfold F_jq;rw[QD (by simp),cond_false];exact Qa _
   .rw[l];have e:r.any (λc=> !okC c)= !(c::r).all okC:=by rw[List.all_cons,k,Bool.true_and,List.not_all_eq_any_not]
    rw[e];cases q:(c::r).all okC with
    |true=>
     simp only[Xh,cond_false,Bool.true_and];exact Ea (EA (Qfp 0 _)) (Qa _)
    |false=>
     simp only[Xi,cond_true,Bool.false_and];exact Qa _
def diffS:List (List UInt8)->List (List UInt8)->Bool
 |_,[]=>true
 |seen,x::r=>isNameS x&& !seen.contains x&&diffS (seen++[x]) r
theorem QeY(l:List (List UInt8))(i:Nat)(x:List UInt8)(h:At l i x):diffS (l.take i) (l.drop i)=(isNameS x&& !(l.take i).contains x&&diffS (l.take (i+1)) (l.drop (i+1))):=by
 rw[h.drop,h.take];rfl
theorem QbL{α:Type}(l:List α)(a:α->List UInt8)(g:Nat->α->Option Unit)(hg:∀n x,g n x=some ())(q:l.length<=1048576)(p:∀x∈l,(a x).length<=1048576):
  Ev (λn=>((iter (λs:(List (List UInt8×Bool))×Int=>bif decide (s.2<(l.length:Int))then(idx l s.2).bind λx35=>(g n x35).bind λr36=>((F_e n (a x35)).bind λr42=>(bif (!r42)then some true else(some (QI s.1 (a x35) false)).bind λv44=>some v44):Option Bool).bind λb40=>(bif b40 then some (.done (.done false))else(some (Q5 s.1 (a x35) true)).bind λm46=>some (.cont (m46,IntKind.i64.wrap (s.2+1))))else some (.done (.cont ()))) n ([],0):Option (Ctl Unit Bool)).bind λb28=>
   match b28 with
   |.cont _=>some true
   |.done s=>some s:Option Bool)) (diffS [] (l.map a)):=by
 have e:l.length<=4611686018427387904:=by omega
 have k:(l.map a).length<=4611686018427387904:=by simpa using e
 have f:=Qbp (B:=Ctl Unit Bool) l (step:=λn s=>bif decide (s.2<(l.length:Int))then(idx l s.2).bind λx35=>(g n x35).bind λr36=>((F_e n (a x35)).bind λr42=>(bif (!r42)then some true else(some (QI s.1 (a x35) false)).bind λv44=>some v44):Option Bool).bind λb40=>(bif b40 then some (.done (.done false))else(some (Q5 s.1 (a x35) true)).bind λm46=>some (.cont (m46,IntKind.i64.wrap (s.2+1))))else some (.done (.cont ())))
  (s0:=(([]:List (List UInt8×Bool)),(0:Int))) (λi=>(Yo a true (l.take i),(i:Int))) (λi=>bif diffS ((l.map a).take i) ((l.map a).drop i)then .cont ()else .done false) e rfl (λi x d=>?_) ?_
 .refine Ea f ?_;simp only[List.take_zero,List.drop_zero];cases diffS [] (l.map a)<;>exact Qa _
 .have j:At (l.map a) i (a x):=JA k (by rw[Xr,d.get];rfl);simp only[QeY _ _ _ j];have b:Ev (λn=>((F_e n (a x)).bind λr42=>(bif (!r42)then some true else(some (QI (Yo a true (l.take i)) (a x) false)).bind λv44=>some v44):Option Bool)) (!(isNameS (a x)&& !((l.map a).take i).contains (a x))):=by
   refine Ea (QfV (a x) (p x d.mem)) ?_;cases isNameS (a x)with
   |false=>exact Qa _
   |true=>
    refine QK ((Qa _).eq ?_);rw[Qdu,List.map_take];by_cases h:a x∈(l.map a).take i
    .rw[if_pos h];simp[h]
    .rw[if_neg h];simp[h]
  cases m:(isNameS (a x)&& !((l.map a).take i).contains (a x))with
  |true=>
   rw[m]at b;refine .inl ⟨?_,by simp⟩;simp only[d.lt,cond_true,d.ix,XR,hg];refine Ea b ?_;simp only[Xh,cond_false,XR,d.nx];rw[d.take,Qgo];exact Qa _
  |false=>
   rw[m]at b;refine .inr ?_;simp only[d.lt,cond_true,d.ix,XR,hg];refine Ea b ?_;simp only[Xi,cond_true,Bool.false_and,cond_false];exact Qa _
 .simp only[Yt,cond_false];rw[show(l.map a).drop l.length=[]by apply List.drop_eq_nil_of_le;simp];exact Qa _
theorem QaF{α:Type}{l:List α}{x:α}(h:l.length<=140737488):app l [x]=some (l++[x]):=QnZ l x (by omega)
theorem QdK(l:List (List UInt8))(s:l.length<=1048576)(g:∀x∈l,x.length<=1048576):Ev (λn=>F_p n l) (diffS [] l):=by
 unfold F_p;have k:l.length<=4611686018427387904:=by omega
 refine Ea (Qbp (B:=Ctl Unit Bool) l (λi=>(i:Int)) (λi=>bif diffS (l.take i) (l.drop i)then .cont ()else .done false) k rfl (λi x a=>?_) ?_) ?_
 .simp only[QeY _ _ _ a];unfold F_lv;simp only[a.lt,cond_true,a.ix,XR];cases p:isNameS x with
  |false=>
   refine .inr (Ea ((Qbi x (g x a.mem)).eq p) ?_);exact Qa _
  |true=>
   have r:=a.lt';have inner:Ev (λn=>iter (F_hx n l (i:Int)) n 0) (bif (l.take i).contains x then Ctl.done (Ctl.done (Ctl.done false))else Ctl.cont ()):=by
    have e:(l.take i).contains x=(l.take i).any λy=>y==x:=by
     rw[X7];simp
    rw[e];have f:(l.take i).length=i:=by simp;omega
    refine Y7 (l.take i) (λy=>y==x) (λi=>(i:Int)) _ _ (by omega) rfl (λj y d h=>?_) (λj y d h=>?_) ?_
    .have m:=d.lt';have b:l[j]?=some y:=by
      have:=d.get;rw[List.getElem?_take]at this;split at this
      .exact this
      .cases this
     unfold F_hx;rw[QN (show(j:Int)<(i:Int)by omega)];simp only[cond_true,Qq b,a.ix,XR,h,cond_false,d.nx];exact Qa _
    .have m:=d.lt';have b:l[j]?=some y:=by
      have:=d.get;rw[List.getElem?_take]at this;split at this
      .exact this
      .cases this
     unfold F_hx;rw[QN (show(j:Int)<(i:Int)by omega)];simp only[cond_true,Qq b,a.ix,XR,h];exact Qa _
    .unfold F_hx;rw[f,QD (show¬(i:Int)<(i:Int)by omega)];exact Qa _
   cases q:(l.take i).contains x with
   |true=>
    rw[q]at inner;refine .inr (Ea ((Qbi x (g x a.mem)).eq p) (QK (Ea inner ?_)));exact Qa _
   |false=>
    rw[q]at inner;refine .inl ⟨Ea ((Qbi x (g x a.mem)).eq p) (QK (Ea inner ?_)),by simp⟩;simp only[cond_false,a.nx];exact Qa _
 .unfold F_lv;simp only[Yt,cond_false,Xv];exact Qa _
 .simp only[List.take_zero,List.drop_zero];cases diffS [] l<;>exact Qa _
theorem Qaf{α β:Type}(l:List α)(f:α->β)(j:l.length<=140737488):Ev (λn=>iter (λs:(List β)×Int=>bif decide (s.2<(l.length:Int))then(idx l s.2).bind λx15=>(app s.1 [f x15]).bind λl16=>some (Ctl.cont (l16,IntKind.i64.wrap (s.2+1)))else some (Ctl.done s.1)) n (([]:List β),(0:Int))) (l.map f):=by
 have e:∀l:List α,l.foldl (λ(a:List β) x=>a++[f x]) []=l.map f:=by
  intro l;have d:∀(l:List α) (a:List β),l.foldl (λ(a:List β) x=>a++[f x]) a=a++l.map f:=by
   intro l
   induction l with
   |nil=>intro a;simp
   |cons x l h=>intro a;rw[XL,h];simp
  simpa using d l []
 rw[<- e l];refine Qbq l (λ(a:List β) x=>a++[f x]) [] (λa i=>(a,(i:Int))) (λa=>a) (by omega) rfl (λi x a g b=>?_) ?_
 .rw[e]at b;have:a.length<=140737488:=by rw[b];simp;omega
  simp only[g.lt,cond_true,g.ix,XR,QaF this,g.nx];exact Qa _
 .simp only[Yt,cond_false];exact Qa _
def namesS(c:Course):Bool:=isNameS c.Name&&(diffS [] (c.Mats.map (·.Name))&&(diffS [] (c.Distances.map (·.Name))&&(diffS [] (c.Waves.map (·.Name))&&(diffS [] (c.Offences.map (·.Name))&&diffS [] (c.Categories.map (·.Name))))))
structure CourseOk (c:Course):Prop where
 name:c.Name.length<=1048576
 mats:c.Mats.length<=1048576
 matsN:∀x∈c.Mats,x.Name.length<=1048576
 legs:c.Legs.length<=1048576
 dist:c.Distances.length<=1048576
 distN:∀x∈c.Distances,x.Name.length<=1048576
 cut:∀x∈c.Distances,x.Cutoffs.length<=1048576
 wave:c.Waves.length<=1048576
 waveN:∀x∈c.Waves,x.Name.length<=1048576
 off:c.Offences.length<=1048576
 offN:∀x∈c.Offences,x.Name.length<=1048576
 cat:c.Categories.length<=1048576
 catN:∀x∈c.Categories,x.Name.length<=1048576
 prize:c.Prizes.length<=1048576
theorem Qmp(c:Course)(w:CourseOk c):Ev (λn=>F_dh n c) (namesS c):=by
 unfold F_dh namesS;refine Ea (v:=_) ?_ (Qa _);refine Ea (QfV c.Name w.name) (Ei λ_=>?_);have a:Ev (λn=>F_bx n c.Mats) (diffS [] (c.Mats.map (·.Name))):=by unfold F_bx;exact QbL c.Mats (·.Name) F_fq (λ_ _=>rfl) w.mats w.matsN
 have f:Ev (λn=>F_dx n c.Distances) (diffS [] (c.Distances.map (·.Name))):=by unfold F_dx;exact QbL c.Distances (·.Name) F_io (λ_ _=>rfl) w.dist w.distN
 have e:Ev (λn=>F_du n c.Waves) (diffS [] (c.Waves.map (·.Name))):=by unfold F_du;exact QbL c.Waves (·.Name) F_jg (λ_ _=>rfl) w.wave w.waveN
 have d:Ev (λn=>F_fd n c.Offences) (diffS [] (c.Offences.map (·.Name))):=by unfold F_fd;exact QbL c.Offences (·.Name) F_ii (λ_ _=>rfl) w.off w.offN
 have b:Ev (λn=>F_fo n c.Categories) (diffS [] (c.Categories.map (·.Name))):=by unfold F_fo;exact QbL c.Categories (·.Name) F_gl (λ_ _=>rfl) w.cat w.catN
 refine Ea a (Ei λ_=>?_);refine Ea f (Ei λ_=>?_);refine Ea e (Ei λ_=>?_);refine Ea d (Ei λ_=>?_);exact Ea b (Qa _)
structure Short (c:Course):Prop where
 mats:c.Mats.length<=140737488
 dist:c.Distances.length<=140737488
 wave:c.Waves.length<=140737488
 off:c.Offences.length<=140737488
 cat:c.Categories.length<=140737488
theorem QhH(c:Course)(w:CourseOk c)(s:Short c):Ev (λn=>F_cy n c) (namesS c):=by
 unfold F_cy namesS;refine Ea (Qaf c.Mats (·.Name) s.mats) ?_;refine Ea (Qaf c.Distances (·.Name) s.dist) ?_;refine Ea (Qaf c.Waves (·.Name) s.wave) ?_;refine Ea (Qaf c.Offences (·.Name) s.off) ?_;refine Ea (Qaf c.Categories (·.Name) s.cat) ?_;refine Ea (v:=_) ?_ (Qa _);refine Ea (Qbi c.Name w.name) (Ei λ_=>?_);have mk:∀{α:Type} (l:List α) (nm:α->List UInt8),l.length<=1048576->(∀x∈l,(nm x).length<=1048576)->Ev (λn=>F_p n (l.map nm)) (diffS [] (l.map nm)):=by
  intro α l nm hl hn;refine QdK _ (by simpa using hl) λx a=>?_;obtain⟨y,b,rfl⟩:=Xf.1 a;exact hn y b
 refine Ea (mk c.Mats (·.Name) w.mats w.matsN) (Ei λ_=>?_);refine Ea (mk c.Distances (·.Name) w.dist w.distN) (Ei λ_=>?_);refine Ea (mk c.Waves (·.Name) w.wave w.waveN) (Ei λ_=>?_);refine Ea (mk c.Offences (·.Name) w.off w.offN) (Ei λ_=>?_);exact Ea (mk c.Categories (·.Name) w.cat w.catN) (Qa _)
theorem QaA{n:Nat}(h:n<=1048576):IntKind.i64.wrap ((n:Int)-1)=(n:Int)-1:=Qu (by omega) (by omega)
theorem Ju(x lo hi:Int):Ev (λn=>F_b n x lo hi) (inR lo hi x):=by
 unfold F_b inR;exact Ea (Ei λ_=>Qa _) (Qa _)
theorem QeU(c:Course)(w:CourseOk c)(x:Int):Ev (λn=>F_g n c x) (inR 0 ((c.Mats.length:Int)-1) x):=by
 unfold F_g;rw[QaA w.mats];exact Ea (Ju _ _ _) (Qa _)
mutual
def szP:Part->Nat
 |⟨_,_,ps⟩=>1+szPs ps
def szPs:List Part->Nat
 |[]=>0
 |p::r=>szP p+szPs r
end
theorem YR(p:Part):szP p=1+szPs p.Parts:=by cases p;rfl
theorem Je{p:Part}:∀{l:List Part},p∈l->szP p<=szPs l
 |q::r,h=>by
  simp only[szPs];rcases Vf.1 h with rfl|h
  .omega
  .have:=Je h;omega
mutual
def partS(k:Int):Part->Bool
 |⟨m,laps,ps⟩=>bif laps==0 then inR 0 k m&&((ps.length:Int)==0)else inR 1 64 laps&&((m==0)&&(decide (0<(ps.length:Int))&&partsS k ps))
def partsS(k:Int):List Part->Bool
 |[]=>true
 |p::r=>partS k p&&partsS k r
end
theorem QbI(k:Int)(p:Part):partS k p=bif p.Laps==0 then inR 0 k p.Mat&&((p.Parts.length:Int)==0)else inR 1 64 p.Laps&&((p.Mat==0)&&(decide (0<(p.Parts.length:Int))&&partsS k p.Parts)):=by cases p;rfl
theorem QaZ(k:Int):∀l:List Part,partsS k l=l.all (partS k)
 |[]=>rfl
 |p::r=>by simp only[partsS,List.all_cons,QaZ k r]
theorem Yi{p:Part}(h:Part.wf p):p.Parts.length<=1048576/\ ∀x∈p.Parts,Part.wf x:=by
 cases p;simp only[Part.wf,QcX]at h;exact h.2.2.1
theorem QJ(lo hi x:Int):Ev (λn=>F_a n lo hi [x]) (inR lo hi x):=(QfR lo hi [x] (by simp)).eq (by simp)
theorem QaE(lo hi x y:Int):Ev (λn=>F_a n lo hi [x,y]) (inR lo hi x&&inR lo hi y):=(QfR lo hi [x,y] (by simp)).eq (by simp)
theorem Qmm(k:Int):∀(m:Nat) (l:List Part),szPs l<=m->l.length<=1048576->(∀x∈l,Part.wf x)->Ev (λn=>F_j n l k) (partsS k l):=by
 intro m
 induction m with
 |zero=>
  intro l b h d;cases l with
  |nil=>
   refine Yf ?_;show Ev (λn=>B_j (F_j n) n [] k) _;unfold B_j F_ek F_cd;exact Jj [] (partS k) (λn x=>F_br (F_j n) n x k) (by simp) (by simp)
  |cons p r=>
   exfalso;simp only[szPs,YR]at b;omega
 |succ m f=>
  intro l b h d;refine Yf ?_;show Ev (λn=>B_j (F_j n) n l k) _;unfold B_j F_ek F_cd;rw[QaZ];refine Jj l (partS k) (λn x=>F_br (F_j n) n x k) (by omega) λp a=>?_;unfold F_br;rw[QbI];have e:=Je a;rw[YR]at e;obtain⟨g,i⟩:=Yi (d p a);refine YE (λ_=>?_) (λ_=>?_)
  .exact Ea (Ea (QJ _ _ _) (Ei λ_=>Qa _)) (Qa _)
  .exact Ea (Ea (QJ _ _ _) (Ei λ_=>Ei λ_=>Ei λ_=>Ea (f p.Parts (by omega) g i) (Qa _))) (Qa _)
theorem Qkj(c:Course)(w:CourseOk c):∀(m:Nat) (l:List Part),szPs l<=m->l.length<=1048576->(∀x∈l,Part.wf x)->Ev (λn=>F_k n c l) (partsS ((c.Mats.length:Int)-1) l):=by
 intro m
 induction m with
 |zero=>
  intro l f s g;cases l with
  |nil=>
   refine Yf ?_;show Ev (λn=>B_k (F_k n) n c []) _;unfold B_k;exact⟨1,λn z=>by obtain⟨k,rfl⟩:∃k,n=k+1:=⟨n-1,by omega⟩;rfl⟩
  |cons p r=>
   exfalso;simp only[szPs,YR]at f;omega
 |succ m j=>
  intro l f s g;refine Yf ?_;show Ev (λn=>B_k (F_k n) n c l) _;unfold B_k;rw[QaZ];have step:∀(i:Nat) (x:Part),At l i x->Ev (λn=>F_kh n c l (F_k n) (i:Int)) (bif partS ((c.Mats.length:Int)-1) x then .cont ((i+1:Nat):Int)else .done (.done false)):=by
   intro i x a;unfold F_kh;simp only[a.lt,cond_true,a.ix,XR,a.nx];have h:=Je a.mem;rw[YR]at h;obtain⟨q,t⟩:=Yi (g x a.mem);refine Ea (Ei λ_=>Ea (QeU c w _) (Ei λ_=>Qa _)) ?_;refine Ea (Ea (Ju _ _ _) (Ei λ_=>Ei λ_=>Ei λ_=>Ea (j x.Parts (by omega) q t) (Qa _))) ?_;rw[QbI];cases y:(x.Laps==0)with
   |true=>
    have u:x.Laps=0:=by simpa using y
    simp only[cond_true,Bool.true_and];have:inR 1 64 x.Laps=false:=by rw[u];rfl
    rw[this];simp only[Bool.false_and,Xi];generalize(inR 0 ((c.Mats.length:Int)-1) x.Mat&&((x.Parts.length:Int)==0))=b;cases b<;>exact Qa _
   |false=>
    simp only[cond_false,Bool.false_and,Xi,cond_true];generalize(inR 1 64 x.Laps&&((x.Mat==0)&&(decide (0<(x.Parts.length:Int))&&partsS ((c.Mats.length:Int)-1) x.Parts)))=b;cases b<;>exact Qa _
  refine Ea (Y7 l (λx=> !partS ((c.Mats.length:Int)-1) x) (λi=>(i:Int)) (Ctl.done false) (Ctl.cont ()) (by omega) rfl (λi x a d=>?_) (λi x a d=>?_) ?_) ?_
  .refine(step i x a).eq ?_;have:partS ((c.Mats.length:Int)-1) x=true:=by simpa using d
   rw[this];rfl
  .refine(step i x a).eq ?_;have:partS ((c.Mats.length:Int)-1) x=false:=by simpa using d
   rw[this];rfl
  .unfold F_kh;simp only[Yt,cond_false];exact Qa _
  .have e:l.any (λx=> !partS ((c.Mats.length:Int)-1) x)= !l.all (partS ((c.Mats.length:Int)-1)):=by rw[List.not_all_eq_any_not]
   rw[e];cases l.all (partS ((c.Mats.length:Int)-1))<;>exact Qa _
def legS(k:Int)(l:Leg):Bool:=(inR 0 k l.From&&inR 0 k l.To)&&((inR 0 68719476736 l.Min&&inR 0 68719476736 l.Max)&&decide (l.Min<=l.Max))
def cutS(k:Int)(x:Cutoff):Bool:=inR 0 k x.Mat&&(decide (1<=x.Lap)&&inR 0 1099511627776 x.Limit)
def distS(k:Int)(d:Distance):Bool:=inR 1 3 d.Timing&&(inR (-1) k d.Extra&&(partsS k d.Route&&d.Cutoffs.all (cutS k)))
def offS(o:Offence):Bool:=bif o.Out then(o.Time==0)&&(o.Laps==0)else bif o.Laps != 0 then(o.Time==0)&&inR 1 64 o.Laps else inR 0 68719476736 o.Time
def catS(x:Category):Bool:=(inR 0 120 x.From&&inR 0 120 x.To)&&decide (x.From<=x.To)
def prizeS(c:Course)(p:Prize):Bool:=inR 0 ((c.Distances.length:Int)-1) p.Distance&&(inR (-1) ((c.Categories.length:Int)-1) p.Category&&(inR 1 4000 p.Rank&&inR 1 1125899906842624 p.Amount))
def lastS(c:Course):Bool:=(inR 0 16 c.Faults.Misses&&inR 0 16 c.Faults.Strays)&&((inR 0 4294967296 c.Faults.Window&&inR 0 4294967296 c.Faults.Residual)&&(inR 0 100000 c.Faults.Drift&&(inR 0 1125899906842624 c.Fee&&inR 0 1099511627776 c.Deadline)))
def legKey(l:Leg):typing_ends:={from_:=l.From,to_:=l.To}
def prizeKey(p:Prize):typing_place:={distance:=p.Distance,category:=p.Category,rank:=p.Rank}
def numbersS(c:Course):Bool:=
 let k:=(c.Mats.length:Int)-1
 c.Mats.all (λm=>inR 1 3 m.Kind)&&(c.Legs.all (legS k)&&(decide ((c.Legs.map legKey).Nodup)&&(c.Distances.all (distS k)&&(c.Waves.all (λw=>inR 0 1099511627776 w.Gun)&&(c.Offences.all offS&&(c.Categories.all catS&&(c.Prizes.all (prizeS c)&&(decide ((c.Prizes.map prizeKey).Nodup)&&lastS c))))))))
structure PartsOk (c:Course):Prop where
 len:∀d∈c.Distances,d.Route.length<=1048576
 wf:∀d∈c.Distances,∀x∈d.Route,Part.wf x
theorem QgG(l:List Leg)(b:l.length<=1048576):Ev (λn=>F_cu n l) (decide ((l.map legKey).Nodup)):=by
 unfold F_cu;refine Ea (Qbr l legKey true (by omega) (λi x m a=>?_) (λm=>?_)) ((Qa _).eq ?_)
 .unfold F_me F_hg;simp only[a.lt,cond_true,a.ix,XR,a.nx];exact Qa _
 .unfold F_me;simp only[Yt,cond_false];exact Qa _
 .rw[X7];simp only[beq_iff_eq,decide_eq_true_eq];have:=Qb3 legKey true l;rw[<- this.2];omega
theorem QeT(l:List Prize)(b:l.length<=1048576):Ev (λn=>F_bz n l) (decide ((l.map prizeKey).Nodup)):=by
 unfold F_bz;refine Ea (Qbr l prizeKey true (by omega) (λi x m a=>?_) (λm=>?_)) ((Qa _).eq ?_)
 .unfold F_mk F_fx;simp only[a.lt,cond_true,a.ix,XR,a.nx];exact Qa _
 .unfold F_mk;simp only[Yt,cond_false];exact Qa _
 .rw[X7];simp only[beq_iff_eq,decide_eq_true_eq];have:=Qb3 prizeKey true l;rw[<- this.2];omega
theorem Qiy(c:Course)(w:CourseOk c)(q:PartsOk c):Ev (λn=>F_cj n c) (numbersS c):=by
 unfold F_cj numbersS;rw[QaA w.mats];refine Ea (v:=_) ?_ (Qa _);have b:Ev (λn=>F_cv n c.Mats) (c.Mats.all λm=>inR 1 3 m.Kind):=by
  unfold F_cv F_fw F_hr;refine Jj c.Mats _ (λn x=>F_ez n x) (by have:=w.mats;omega) λx a=>?_;unfold F_ez;exact Ea (QJ _ _ _) (Qa _)
 have j:Ev (λn=>F_cf n c.Legs ((c.Mats.length:Int)-1)) (c.Legs.all (legS ((c.Mats.length:Int)-1))):=by
  unfold F_cf F_iq F_fs;refine Jj c.Legs _ (λn x=>F_bv n x _) (by have:=w.legs;omega) λx a=>?_;unfold F_bv;exact Ea (Ea (QaE _ _ _ _) (Ei λ_=>Ea (QaE _ _ _ _) (Ei λ_=>Qa _))) (Qa _)
 have g:Ev (λn=>F_eg n c.Distances ((c.Mats.length:Int)-1)) (c.Distances.all (distS ((c.Mats.length:Int)-1))):=by
  unfold F_eg F_ia F_gf;refine Jj c.Distances _ (λn x=>F_cg n x _) (by have:=w.dist;omega) λx a=>?_;unfold F_cg;have f:Ev (λn=>F_fk n x.Cutoffs ((c.Mats.length:Int)-1)) (x.Cutoffs.all (cutS ((c.Mats.length:Int)-1))):=by
   unfold F_fk F_gj F_ir;refine Jj x.Cutoffs _ (λn x=>F_do n x _) (by have:=w.cut x a;omega) λy k=>?_;unfold F_do;exact Ea (Ea (QJ _ _ _) (Ei λ_=>Ei λ_=>Ea (QJ _ _ _) (Qa _))) (Qa _)
  exact Ea (Ea (QJ _ _ _) (Ei λ_=>Ea (QJ _ _ _) (Ei λ_=>Ea (Qmm _ _ x.Route (X2 _) (q.len x a) (q.wf x a)) (Ei λ_=>Ea f (Qa _))))) (Qa _)
 have e:Ev (λn=>F_ef n c.Waves) (c.Waves.all λw=>inR 0 1099511627776 w.Gun):=by
  unfold F_ef F_fr F_gp;refine Jj c.Waves _ (λn x=>F_db n x) (by have:=w.wave;omega) λx a=>?_;unfold F_db;exact Ea (QJ _ _ _) (Qa _)
 have d:Ev (λn=>F_di n c.Offences) (c.Offences.all offS):=by
  unfold F_di F_id F_iy;refine Jj c.Offences _ (λn x=>F_dr n x) (by have:=w.off;omega) λx a=>?_;unfold F_dr offS;refine YE (λ_=>Ea (Ei λ_=>Qa _) (Qa _)) λ_=>YE (λ_=>Ea (Ei λ_=>Ea (QJ _ _ _) (Qa _)) (Qa _)) λ_=>Ea (QJ _ _ _) (Qa _)
 have h:Ev (λn=>F_dn n c.Categories) (c.Categories.all catS):=by
  unfold F_dn F_ie F_is;refine Jj c.Categories _ (λn x=>F_ca n x) (by have:=w.cat;omega) λx a=>?_;unfold F_ca;exact Ea (Ea (QaE _ _ _ _) (Ei λ_=>Qa _)) (Qa _)
 have i:Ev (λn=>F_de n c.Prizes c) (c.Prizes.all (prizeS c)):=by
  unfold F_de F_he F_gm;refine Jj c.Prizes _ (λn x=>F_er n x c) (by have:=w.prize;omega) λx a=>?_;unfold F_er;rw[QaA w.dist,QaA w.cat];exact Ea (Ea (QJ _ _ _) (Ei λ_=>Ea (QJ _ _ _) (Ei λ_=>Ea (QJ _ _ _) (Ei λ_=>Ea (QJ _ _ _) (Qa _))))) (Qa _)
 refine Ea b (Ei λ_=>Ea j (Ei λ_=>Ea (QgG _ w.legs) (Ei λ_=>Ea g (Ei λ_=>Ea e (Ei λ_=>Ea d (Ei λ_=>Ea h (Ei λ_=>Ea i (Ei λ_=>Ea (QeT _ w.prize) (Ei λ_=>?_)))))))));exact Ea (QaE _ _ _ _) (Ei λ_=>Ea (QaE _ _ _ _) (Ei λ_=>Ea (QJ _ _ _) (Ei λ_=>Ea (QJ _ _ _) (Ei λ_=>Ea (QJ _ _ _) (Qa _)))))
theorem ends_eq{a b a' d:Int}:(({from_:=a,to_:=b}:typing_ends)={from_:=a',to_:=d})↔a=a'/\b=d:=by simp
theorem QeS(c:Course)(w:CourseOk c)(d:Distance)(j:d.Route.length<=1048576)(l:∀x∈d.Route,Part.wf x)(m:d.Cutoffs.length<=1048576):Ev (λn=>F_ff n c d) (distS ((c.Mats.length:Int)-1) d):=by
 unfold F_ff;have step:∀(i:Nat) (x:Cutoff),At d.Cutoffs i x->Ev (λn=>F_ke n c d (i:Int)) (bif cutS ((c.Mats.length:Int)-1) x then .cont ((i+1:Nat):Int)else .done (.done false)):=by
  intro i x a;unfold F_ke;simp only[a.lt,cond_true,a.ix,XR,a.nx];have:Ev (λn=>((F_g n c x.Mat).bind λb=>(bif (!b)then some true else(bif decide (x.Lap<1)then some true else(F_b n x.Limit 0 1099511627776).bind λg=>some (!g))):Option Bool)) (!cutS ((c.Mats.length:Int)-1) x):=by
   refine Ea (QeU c w _) (Eu (Qf λ_=>Qf λ_=>Ea (Ju _ _ _) (Qa _)) ?_);unfold cutS;by_cases h:x.Lap<1
   .have:¬1<=x.Lap:=by omega
    simp[h,this]
   .have:1<=x.Lap:=by omega
    simp[h,this]
  refine Ea this ?_;cases cutS ((c.Mats.length:Int)-1) x<;>exact Qa _
 refine Ea (Y7 d.Cutoffs (λx=> !cutS ((c.Mats.length:Int)-1) x) (λi=>(i:Int)) (Ctl.done false) (Ctl.cont ()) (by omega) rfl (λi x a f=>?_) (λi x a f=>?_) ?_) ?_
 .refine(step i x a).eq ?_;have:cutS ((c.Mats.length:Int)-1) x=true:=by simpa using f
  rw[this];rfl
 .refine(step i x a).eq ?_;have:cutS ((c.Mats.length:Int)-1) x=false:=by simpa using f
  rw[this];rfl
 .unfold F_ke;simp only[Yt,cond_false];exact Qa _
 .have e:d.Cutoffs.any (λx=> !cutS ((c.Mats.length:Int)-1) x)= !d.Cutoffs.all (cutS ((c.Mats.length:Int)-1)):=by rw[List.not_all_eq_any_not]
  rw[e];unfold distS;have k:inR (-1) ((c.Mats.length:Int)-1) d.Extra=((d.Extra== -1)||inR 0 ((c.Mats.length:Int)-1) d.Extra):=by
   unfold inR;rw[X7];simp;omega
  cases d.Cutoffs.all (cutS ((c.Mats.length:Int)-1))with
  |false=>
   simp only[Xi,cond_true,Bool.and_false];exact Qa _
  |true=>
   simp only[Xh,cond_false,Bool.and_true];refine Ea (v:=_) ?_ (Qa _);refine Ea (Ju _ _ _) ((Ei λ_=>Ea (Qkj c w _ d.Route (X2 _) j l) (Ei λ_=>Qf λ_=>Ea (QeU c w _) (Qa _))).eq ?_);rw[k,Bool.and_comm (partsS _ _)]
theorem QL{α B:Type}{step:Nat->Int->Option (Ctl Int B)}(l:List α)(ok:α->Bool)(a b:B)(k:l.length<=4611686018427387904)
  (g:∀i x,At l i x->Ev (λn=>step n (i:Int)) (bif ok x then .cont ((i+1:Nat):Int)else .done a))(j:Ev (λn=>step n (l.length:Int)) (.done b)):
  Ev (λn=>Go.Sw.iter (step n) n 0) (bif l.all ok then b else a):=by
 have e:(bif l.all ok then b else a)=bif l.any (λx=> !ok x)then a else b:=by
  rw[<- List.not_all_eq_any_not];cases l.all ok<;>rfl
 rw[e];refine Y7 l (λx=> !ok x) (λi=>(i:Int)) a b k rfl (λi x f d=>?_) (λi x f d=>?_) j
 .have h:ok x=true:=by simpa using d
  have:=g i x f
  rwa [h]at this
 .have h:ok x=false:=by simpa using d
  have:=g i x f
  rwa [h]at this
theorem Qgz(c:Course)(w:CourseOk c)(q:PartsOk c):Ev (λn=>F_el n c) (numbersS c):=by
 unfold F_el numbersS;have L:Ev (λn=>iter (F_ko n c) n 0) (bif c.Mats.all (λm=>inR 1 3 m.Kind)then Ctl.cont ()else Ctl.done false):=by
  refine QL c.Mats _ _ _ (by have:=w.mats;omega) (λi x a=>?_) ?_
  .unfold F_ko;simp only[a.lt,cond_true,a.ix,XR,a.nx];refine Ea (Ju _ _ _) ?_;cases inR 1 3 x.Kind<;>exact Qa _
  .unfold F_ko;simp only[Yt,cond_false];exact Qa _
 have J:Ev (λn=>iter (F_ev n c) n 0) (bif c.Legs.all (legS ((c.Mats.length:Int)-1))&&decide ((c.Legs.map legKey).Nodup)then Ctl.cont ()else Ctl.done false):=by
  have first:∀x:Leg,Ev (λn=>((F_g n c x.From).bind λr=>(bif (!r)then some true else(F_g n c x.To).bind λB=>(bif (!B)then some true else(bif decide (x.Min<0)then some true else(bif decide (x.Max<x.Min)then some true else some (decide (68719476736<x.Max)))))):Option Bool)) (!legS ((c.Mats.length:Int)-1) x):=by
   intro x;refine Ea (QeU c w _) (Eu (Qf λ_=>Ea (QeU c w _) (Qf λ_=>Qf λ_=>Qf λ_=>Qa _)) ?_);unfold legS inR;rw[X7];simp;omega
  have inner:∀(i:Nat) (x:Leg),At c.Legs i x->Ev (λn=>iter (F_ih n c (i:Int) x) n 0) (bif ((c.Legs.take i).map legKey).contains (legKey x)then Ctl.done (Ctl.done (Ctl.done false))else Ctl.cont ()):=by
   intro i x a;have F:=a.lt';refine Qia c.Legs i legKey (legKey x) _ _ (by have:=w.legs;omega) (by omega) (λj y E l g=>?_) (λj y E l g=>?_) ?_
   .unfold F_ih;rw[QN (show(j:Int)<(i:Int)by omega)];simp only[cond_true,l.ix,XR,l.nx];have h:¬(y.From=x.From/\y.To=x.To):=by simpa[legKey]using g
    refine Ea (Ei λ_=>Qa _) ?_;have e:((y.From==x.From)&&(y.To==x.To))=false:=by
     rw[Bool.eq_false_iff];intro z;exact h (by simpa using z)
    rw[e];exact Qa _
   .unfold F_ih;rw[QN (show(j:Int)<(i:Int)by omega)];simp only[cond_true,l.ix,XR,l.nx];have h:(y.From=x.From/\y.To=x.To):=by simpa[legKey]using g
    refine Ea (Ei λ_=>Qa _) ?_;have e:((y.From==x.From)&&(y.To==x.To))=true:=by simpa using h
    rw[e];exact Qa _
   .unfold F_ih;rw[QD (show¬(i:Int)<(i:Int)by omega)];exact Qa _
  refine Qm7 c.Legs (legS ((c.Mats.length:Int)-1)) legKey _ _ (by have:=w.legs;omega) (λi x a d g=>?_) (λi x a d=>?_) (λi x a d g=>?_) ?_
  .unfold F_ev;simp only[a.lt,cond_true,a.ix,XR,a.nx];have f:=first x;rw[d]at f
   have k:=inner i x a;rw[g]at k;exact Ea f (QK (Ea k (Qa _)))
  .unfold F_ev;simp only[a.lt,cond_true,a.ix,XR,a.nx];have f:=first x;rw[d]at f
   exact Ea f (Qa _)
  .unfold F_ev;simp only[a.lt,cond_true,a.ix,XR,a.nx];have f:=first x;rw[d]at f
   have k:=inner i x a;rw[g]at k;exact Ea f (QK (Ea k (Qa _)))
  .unfold F_ev;simp only[Yt,cond_false];exact Qa _
 have M:Ev (λn=>iter (F_ju n c) n 0) (bif c.Distances.all (distS ((c.Mats.length:Int)-1))then Ctl.cont ()else Ctl.done false):=by
  refine QL c.Distances _ _ _ (by have:=w.dist;omega) (λi x a=>?_) ?_
  .unfold F_ju;simp only[a.lt,cond_true,a.ix,XR,a.nx];refine Ea (QeS c w x (q.len x a.mem) (q.wf x a.mem) (w.cut x a.mem)) ?_;cases distS ((c.Mats.length:Int)-1) x<;>exact Qa _
  .unfold F_ju;simp only[Yt,cond_false];exact Qa _
 have H:Ev (λn=>iter (F_js n c) n 0) (bif c.Waves.all (λw=>inR 0 1099511627776 w.Gun)then Ctl.cont ()else Ctl.done false):=by
  refine QL c.Waves _ _ _ (by have:=w.wave;omega) (λi x a=>?_) ?_
  .unfold F_js;simp only[a.lt,cond_true,a.ix,XR,a.nx];refine Ea (Ju _ _ _) ?_;cases inR 0 1099511627776 x.Gun<;>exact Qa _
  .unfold F_js;simp only[Yt,cond_false];exact Qa _
 have G:Ev (λn=>iter (F_ky n c) n 0) (bif c.Offences.all offS then Ctl.cont ()else Ctl.done false):=by
  refine QL c.Offences _ _ _ (by have:=w.off;omega) (λi x a=>?_) ?_
  .unfold F_ky;simp only[a.lt,cond_true,a.ix,XR,a.nx];refine Ea (Ea (Ju _ _ _) (Ei λ_=>Ei λ_=>Qa _)) ?_;refine Ea (Ei λ_=>Ea (Ju _ _ _) (Ei λ_=>Qa _)) ?_;refine Ea (Ei λ_=>Ei λ_=>Qa _) ?_;refine Ea (Ei λ_=>Ei λ_=>Qa _) ?_;have e:offS x= !(!(inR 0 68719476736 x.Time&&((x.Laps==0)&& !x.Out))&&(!((x.Time==0)&&(inR 1 64 x.Laps&& !x.Out))&& !((x.Time==0)&&((x.Laps==0)&&x.Out)))):=by
    unfold offS inR;cases x.Out with
    |true=>
     rw[X7];simp
    |false=>
     by_cases h:x.Laps=0
     .rw[X7];simp[h]
     .rw[X7];simp[h]
   rw[e];generalize(!(inR 0 68719476736 x.Time&&((x.Laps==0)&& !x.Out))&&(!((x.Time==0)&&(inR 1 64 x.Laps&& !x.Out))&& !((x.Time==0)&&((x.Laps==0)&&x.Out))))=b;cases b<;>exact Qa _
  .unfold F_ky;simp only[Yt,cond_false];exact Qa _
 have N:Ev (λn=>iter (F_kl n c) n 0) (bif c.Categories.all catS then Ctl.cont ()else Ctl.done false):=by
  refine QL c.Categories _ _ _ (by have:=w.cat;omega) (λi x a=>?_) ?_
  .unfold F_kl;simp only[a.lt,cond_true,a.ix,XR,a.nx];refine Ea (Qf λ_=>Qf λ_=>Qa _) ?_;have e:(decide (x.From<0)||(decide (x.To<x.From)||decide (120<x.To)))= !catS x:=by
    unfold catS inR;rw[X7];simp;omega
   rw[e];cases catS x<;>exact Qa _
  .unfold F_kl;simp only[Yt,cond_false];exact Qa _
 have O:Ev (λn=>iter (F_dz n c) n 0) (bif c.Prizes.all (prizeS c)&&decide ((c.Prizes.map prizeKey).Nodup)then Ctl.cont ()else Ctl.done false):=by
  have first:∀x:Prize,Ev (λn=>((F_b n x.Distance 0 (IntKind.i64.wrap ((c.Distances.length:Int)-1))).bind λp=>(bif (!p)then some true else(F_b n x.Category (-1) (IntKind.i64.wrap ((c.Categories.length:Int)-1))).bind λs=>(bif (!s)then some true else(F_b n x.Rank 1 4000).bind λu=>(bif (!u)then some true else(F_b n x.Amount 1 1125899906842624).bind λt=>some (!t)))):Option Bool)) (!prizeS c x):=by
   intro x;rw[QaA w.dist,QaA w.cat];refine Ea (Ju _ _ _) (Eu (Qf λ_=>Ea (Ju _ _ _) (Qf λ_=>Ea (Ju _ _ _) (Qf λ_=>Ea (Ju _ _ _) (Qa _)))) ?_);unfold prizeS;simp only[Bool.not_and]
  have inner:∀(i:Nat) (x:Prize),At c.Prizes i x->Ev (λn=>iter (F_il n c (i:Int) x) n 0) (bif ((c.Prizes.take i).map prizeKey).contains (prizeKey x)then Ctl.done (Ctl.done (Ctl.done false))else Ctl.cont ()):=by
   intro i x a;have F:=a.lt';refine Qia c.Prizes i prizeKey (prizeKey x) _ _ (by have:=w.prize;omega) (by omega) (λj y E l g=>?_) (λj y E l g=>?_) ?_
   .unfold F_il;rw[QN (show(j:Int)<(i:Int)by omega)];simp only[cond_true,l.ix,XR,l.nx];have h:¬(y.Distance=x.Distance/\y.Category=x.Category/\y.Rank=x.Rank):=by simpa[prizeKey]using g
    refine Ea (Ei λ_=>Ei λ_=>Qa _) ?_;have e:((y.Distance==x.Distance)&&((y.Category==x.Category)&&(y.Rank==x.Rank)))=false:=by
     rw[Bool.eq_false_iff];intro z;exact h (by simpa using z)
    rw[e];exact Qa _
   .unfold F_il;rw[QN (show(j:Int)<(i:Int)by omega)];simp only[cond_true,l.ix,XR,l.nx];have h:(y.Distance=x.Distance/\y.Category=x.Category/\y.Rank=x.Rank):=by simpa[prizeKey]using g
    refine Ea (Ei λ_=>Ei λ_=>Qa _) ?_;have e:((y.Distance==x.Distance)&&((y.Category==x.Category)&&(y.Rank==x.Rank)))=true:=by simpa using h
    rw[e];exact Qa _
   .unfold F_il;rw[QD (show¬(i:Int)<(i:Int)by omega)];exact Qa _
  refine Qm7 c.Prizes (prizeS c) prizeKey _ _ (by have:=w.prize;omega) (λi x a d g=>?_) (λi x a d=>?_) (λi x a d g=>?_) ?_
  .unfold F_dz;simp only[a.lt,cond_true,a.ix,XR,a.nx];have f:=first x;rw[d]at f
   have k:=inner i x a;rw[g]at k;exact Ea f (QK (Ea k (Qa _)))
  .unfold F_dz;simp only[a.lt,cond_true,a.ix,XR,a.nx];have f:=first x;rw[d]at f
   exact Ea f (Qa _)
  .unfold F_dz;simp only[a.lt,cond_true,a.ix,XR,a.nx];have f:=first x;rw[d]at f
   have k:=inner i x a;rw[g]at k;exact Ea f (QK (Ea k (Qa _)))
  .unfold F_dz;simp only[Yt,cond_false];exact Qa _
 refine Ea L ?_;cases c.Mats.all (λm=>inR 1 3 m.Kind)with
 |false=>exact Qa _
 |true=>
 refine Ea J ?_;simp only[Bool.true_and];rw[<- Bool.and_assoc];cases(c.Legs.all (legS ((c.Mats.length:Int)-1))&&decide ((c.Legs.map legKey).Nodup))with
 |false=>exact Qa _
 |true=>
 refine Ea M ?_;simp only[Bool.true_and];cases c.Distances.all (distS ((c.Mats.length:Int)-1))with
 |false=>exact Qa _
 |true=>
 refine Ea H ?_;simp only[Bool.true_and];cases c.Waves.all (λw=>inR 0 1099511627776 w.Gun)with
 |false=>exact Qa _
 |true=>
 refine Ea G ?_;simp only[Bool.true_and];cases c.Offences.all offS with
 |false=>exact Qa _
 |true=>
 refine Ea N ?_;simp only[Bool.true_and];cases c.Categories.all catS with
 |false=>exact Qa _
 |true=>
 refine Ea O ?_;simp only[Bool.true_and];rw[<- Bool.and_assoc];cases(c.Prizes.all (prizeS c)&&decide ((c.Prizes.map prizeKey).Nodup))with
 |false=>exact Qa _
 |true=>
 simp only[Bool.true_and];refine Ea (v:=lastS c) ?_ (Qa _);refine Ea (Ju _ _ _) ((Ei λ_=>Ea (Ju _ _ _) (Ei λ_=>Ea (Ju _ _ _) (Ei λ_=>Ea (Ju _ _ _) (Ei λ_=>Ea (Ju _ _ _) (Ei λ_=>Ea (Ju _ _ _) (Ei λ_=>Ea (Ju _ _ _) (Qa _))))))).eq ?_);unfold lastS;simp only[Bool.and_assoc]
mutual
def cN:Cond->Nat
 |⟨_,_,_,ps⟩=>1+cNs ps
def cNs:List Cond->Nat
 |[]=>0
 |c::r=>cN c+cNs r
end
theorem QbN(c:Cond):cN c=1+cNs c.Parts:=by cases c;rfl
mutual
def cD:Nat->Cond->Bool
 |d,⟨_,_,_,ps⟩=>cDs d ps
def cDs:Nat->List Cond->Bool
 |_,[]=>true
 |d,c::r=>decide (d<=16)&&(cD (d+1) c&&cDs d r)
end
theorem QjD(d:Nat)(c:Cond):cD d c=cDs d c.Parts:=by cases c;rfl
def zeroC(c:Cond):Bool:=(c.Kind==0)&&((c.Var==0)&&((c.N==0)&&((c.Parts.length:Int)==0)))
mutual
def sNp:Step->Nat
 |⟨_,_,_,t,e⟩=>1+sNs t+sNs e
def sNs:List Step->Nat
 |[]=>0
 |s::r=>sNp s+sNs r
end
theorem QfE(s:Step):sNp s=1+sNs s.Then+sNs s.Else:=by cases s;rfl
mutual
def sC:Step->Nat
 |⟨_,_,c,t,e⟩=>(bif zeroC c then 0 else cN c)+sCs t+sCs e
def sCs:List Step->Nat
 |[]=>0
 |s::r=>sC s+sCs r
end
theorem Qee(s:Step):sC s=(bif zeroC s.Cond then 0 else cN s.Cond)+sCs s.Then+sCs s.Else:=by cases s;rfl
mutual
def sDp:Nat->Step->Bool
 |d,⟨_,_,c,t,e⟩=>(zeroC c||cD 1 c)&&(sDs d t&&sDs d e)
def sDs:Nat->List Step->Bool
 |_,[]=>true
 |d,s::r=>decide (d<=16)&&(sDp (d+1) s&&sDs d r)
end
theorem Qg5(d:Nat)(s:Step):sDp d s=((zeroC s.Cond||cD 1 s.Cond)&&(sDs d s.Then&&sDs d s.Else)):=by cases s;rfl
mutual
def sZ:Step->Nat
 |⟨_,_,c,t,e⟩=>2+cN c+sZs t+sZs e
def sZs:List Step->Nat
 |[]=>0
 |s::r=>sZ s+sZs r
end
theorem QfD(s:Step):sZ s=2+cN s.Cond+sZs s.Then+sZs s.Else:=by cases s;rfl
def fS:typing_form->Nat
 |.ctyping_step x=>sNp x.Step
 |.ctyping_cond _=>0
def fC:typing_form->Nat
 |.ctyping_step x=>sC x.Step
 |.ctyping_cond x=>cN x.Cond
def fD(d:Nat):typing_form->Bool
 |.ctyping_step x=>sDp d x.Step
 |.ctyping_cond x=>cD d x.Cond
def fZ:typing_form->Nat
 |.ctyping_step x=>sZ x.Step
 |.ctyping_cond x=>cN x.Cond
def fSs(l:List typing_form):Nat:=(l.map fS).sum
def fCs(l:List typing_form):Nat:=(l.map fC).sum
def fZs(l:List typing_form):Nat:=(l.map fZ).sum
def fwf:typing_form->Prop
 |.ctyping_step x=>Step.wf x.Step
 |.ctyping_cond x=>Cond.wf x.Cond
def ofStep(s:Step):typing_form:=.ctyping_step {Step:=s}
def ofCond(c:Cond):typing_form:=.ctyping_cond {Cond:=c}
theorem Qa4:∀l:List Step,fSs (l.map ofStep)=sNs l
 |[]=>rfl
 |s::r=>by
  have:=Qa4 r;simp only[fSs,Vs,List.sum_cons]at this⊢;rw[this];rfl
theorem Qa5:∀l:List Step,fCs (l.map ofStep)=sCs l
 |[]=>rfl
 |s::r=>by
  have:=Qa5 r;simp only[fCs,Vs,List.sum_cons]at this⊢;rw[this];rfl
theorem QbK:∀l:List Step,fZs (l.map ofStep)=sZs l
 |[]=>rfl
 |s::r=>by
  have:=QbK r;simp only[fZs,Vs,List.sum_cons]at this⊢;rw[this];rfl
theorem QeK:∀l:List Cond,fSs (l.map ofCond)=0
 |[]=>rfl
 |s::r=>by
  have:=QeK r;simp only[fSs,Vs,List.sum_cons]at this⊢;rw[this];rfl
theorem QeM:∀l:List Cond,fCs (l.map ofCond)=cNs l
 |[]=>rfl
 |s::r=>by
  have:=QeM r;simp only[fCs,Vs,List.sum_cons]at this⊢;rw[this];rfl
theorem QeI:∀l:List Cond,fZs (l.map ofCond)=cNs l
 |[]=>rfl
 |s::r=>by
  have:=QeI r;simp only[fZs,Vs,List.sum_cons]at this⊢;rw[this];rfl
theorem QcI(d:Nat):∀l:List Step,sDs d l=((l.map ofStep).isEmpty||(decide (d<=16)&&(l.map ofStep).all (fD (d+1))))
 |[]=>rfl
 |s::r=>by
  rw[sDs,QcI d r];simp only[Vs,List.isEmpty_cons,Bool.false_or,List.all_cons];rw[show fD (d+1) (ofStep s)=sDp (d+1) s from rfl];cases r with
  |nil=>simp
  |cons x r=>
   simp only[Vs,List.isEmpty_cons,Bool.false_or,List.all_cons];cases decide (d<=16)<;>simp
theorem QhA(d:Nat):∀l:List Cond,cDs d l=((l.map ofCond).isEmpty||(decide (d<=16)&&(l.map ofCond).all (fD (d+1))))
 |[]=>rfl
 |s::r=>by
  rw[cDs,QhA d r];simp only[Vs,List.isEmpty_cons,Bool.false_or,List.all_cons];rw[show fD (d+1) (ofCond s)=cD (d+1) s from rfl];cases r with
  |nil=>simp
  |cons x r=>
   simp only[Vs,List.isEmpty_cons,Bool.false_or,List.all_cons];cases decide (d<=16)<;>simp
theorem YZ{c:Cond}(h:Cond.wf c):c.Parts.length<=1048576/\ ∀x∈c.Parts,Cond.wf x:=by
 cases c;simp only[Cond.wf,Qc2]at h;exact h.2.2.2.1
theorem YY{s:Step}(h:Step.wf s):Cond.wf s.Cond/\(s.Then.length<=1048576/\ ∀x∈s.Then,Step.wf x)/\(s.Else.length<=1048576/\ ∀x∈s.Else,Step.wf x):=by
 cases s;simp only[Step.wf,QcQ]at h;exact⟨h.2.2.1,h.2.2.2.1,h.2.2.2.2.1⟩
theorem QfU(n:Nat)(c:Cond):F_ag n {Cond:=c}=some (zeroC c):=by
 unfold F_ag zeroC;cases(c.Kind==0)<;>cases(c.Var==0)<;>cases(c.N==0)<;>rfl
theorem QeQ(n:Nat)(c:Cond):F_ax n c=some (zeroC c):=by
 unfold F_ax zeroC;cases(c.Kind==0)<;>cases(c.Var==0)<;>cases(c.N==0)<;>rfl
theorem QeP(l:List Step)(a:l.length<=140737488):Ev (λn=>F_aj n l) (l.map ofStep):=by
 unfold F_aj;exact Ea (Qaf l ofStep a) (Qa _)
theorem Qmv(l:List Cond)(a:l.length<=140737488):Ev (λn=>F_fh n l) (l.map ofCond):=by
 unfold F_fh;exact Ea (Qaf l ofCond a) (Qa _)
def stepParts(s:Step):List typing_form:=s.Then.map ofStep++s.Else.map ofStep
theorem Qbh(s:Step)(h:Step.wf s):Ev (λn=>F_y n {Step:=s}) (stepParts s):=by
 obtain⟨_,⟨a,_⟩,⟨b,_⟩⟩:=YY h;unfold F_y stepParts;refine Ea (QeP s.Then (by omega)) (Ea (QeP s.Else (by omega)) (Jz (QcL _ _ (by simp;omega)) (Qa _)))
theorem QcJ(c:Cond)(h:Cond.wf c):Ev (λn=>F_v n {Cond:=c}) (c.Parts.map ofCond):=by
 obtain⟨a,_⟩:=YZ h;unfold F_v;exact Ea (Qmv c.Parts (by omega)) (Qa _)
def okL(l:List typing_form)(d:Nat)(st co:Int):Bool:=l.isEmpty||(decide (d<=16)&&(l.all (fD (d+1))&&(decide (st+fSs l<=64)&&decide (co+fCs l<=256))))
def okR(l:List typing_form)(d:Nat)(st co:Int):Bool:=l.isEmpty||(l.all (fD (d+1))&&(decide (st+fSs l<=64)&&decide (co+fCs l<=256)))
def okF(f:typing_form)(d:Nat)(st co:Int):Bool:=fD (d+1) f&&(decide (st+fS f<=64)&&decide (co+fC f<=256))
theorem Qhz(f:typing_form)(l:List typing_form):fSs (f::l)=fS f+fSs l:=rfl
theorem QhB(f:typing_form)(l:List typing_form):fCs (f::l)=fC f+fCs l:=rfl
theorem Qhy(f:typing_form)(l:List typing_form):fZs (f::l)=fZ f+fZs l:=rfl
theorem QeJ(l m:List typing_form):fSs (l++m)=fSs l+fSs m:=by simp[fSs]
theorem QeL(l m:List typing_form):fCs (l++m)=fCs l+fCs m:=by simp[fCs]
theorem QeH(l m:List typing_form):fZs (l++m)=fZs l+fZs m:=by simp[fZs]
theorem QlR(f:typing_form)(r:List typing_form)(d:Nat)(b e:Int):okR (f::r) d b e=(okF f d b e&&okR r d (b+fS f) (e+fC f)):=by
 unfold okR okF;rw[Qhz,QhB];cases r with
 |nil=>simp[fSs,fCs]
 |cons g r=>
  rw[X7];simp only[List.isEmpty_cons,Bool.false_or,List.all_cons,X5,decide_eq_true_eq];rw[show((fS f+fSs (g::r):Nat):Int)=(fS f:Int)+(fSs (g::r):Int)by omega,show((fC f+fCs (g::r):Nat):Int)=(fC f:Int)+(fCs (g::r):Int)by omega];constructor
  .rintro⟨⟨a,h⟩,i,j⟩;exact⟨⟨a,by omega,by omega⟩,h,by omega,by omega⟩
  .rintro⟨⟨a,_,_⟩,h,i,j⟩;exact⟨⟨a,h⟩,by omega,by omega⟩
theorem Qgm(l:List typing_form)(d:Nat)(g h:Int)(i:g<=64)(j:h<=256):okL l d g h=true↔(l.isEmpty||(decide (d<=16)&&l.all (fD (d+1))))=true/\g+fSs l<=64/\h+fCs l<=256:=by
 unfold okL;cases l with
 |nil=>simp[fSs,fCs,i,j]
 |cons f r=>
  simp only[List.isEmpty_cons,Bool.false_or,X5,decide_eq_true_eq];constructor
  .rintro⟨a,b,c,e⟩;exact⟨⟨a,b⟩,c,e⟩
  .rintro⟨⟨a,b⟩,c,e⟩;exact⟨a,b,c,e⟩
theorem Qea(s:Step)(d:Nat):((stepParts s).isEmpty||(decide (d<=16)&&(stepParts s).all (fD (d+1))))=(sDs d s.Then&&sDs d s.Else):=by
 rw[QcI,QcI];unfold stepParts;rw[List.all_append];cases a:s.Then<;>cases b:s.Else<;>simp<;>(cases decide (d<=16)<;>simp)
def Cnt(R:Nat->List typing_form->Int->typing_count->Option (typing_count×Bool))(l:List typing_form)(d:Nat)(st co:Int):Prop:=
 ∃c':typing_count,Ev (λn=>R n l (d:Int) {steps:=st,conds:=co}) (c',okL l d st co)/\(okL l d st co=true->c'={steps:=st+fSs l,conds:=co+fCs l})
theorem QiH{R:Nat->List typing_form->Int->typing_count->Option (typing_count×Bool)}{l:List typing_form}{d:Nat}(hd:d<=16){i:Nat}{f:typing_form}(ha:At l i f)(hw:fwf f)
  (W:∀l' d' a e,fZs l'<fZ f->l'.length<=2097152->(∀f∈l',fwf f)->d'<=17->0<=a->a<=66->(a<=65\/ ∀f∈l',∃c,f=ofCond c)->0<=e->e<=256->Cnt R l' d' a e){a e:Int}(h0:0<=a)(ac:a<=66)(B:a<=65\/ ∃c,f=ofCond c)(h2:0<=e)(h3:e<=256):
  ∃c':typing_count,Ev (λn=>F_ib n l (d:Int) (R n) ({steps:=a,conds:=e},(i:Int))) (bif okF f d a e then .cont (c',((i+1:Nat):Int))else .done (.done (c',false)))/\(okF f d a e=true->c'={steps:=a+fS f,conds:=e+fC f}):=by
 unfold F_ib;simp only[ha.lt,cond_true,ha.ix,XR,ha.nx];have ed:IntKind.i64.wrap ((d:Int)+1)=((d+1:Nat):Int):=YQ (by omega);cases f with
 |ctyping_step x=>
  obtain⟨s⟩:=x;have h1:a<=65:=by
   rcases B with h|⟨c,h⟩
   .exact h
   .cases h
  have k:Step.wf s:=hw;obtain⟨wc,⟨ab,T⟩,⟨aa,M⟩⟩:=YY k;have V:IntKind.i64.wrap (a+1)=a+1:=Qu (by omega) (by omega);simp only[typing_form.elim,QfU,XR,V];have hc:∃t:typing_count,Ev (λn=>((bif (!zeroC s.Cond)then(R n [typing_form.ctyping_cond {Cond:=s.Cond}] 0 {steps:=a+1,conds:=e}).bind λm=>some (m.1,(!m.2))else some ({steps:=a+1,conds:=e},false)):Option (typing_count×Bool))) (t, !(zeroC s.Cond||(cD 1 s.Cond&&(decide (a+1<=64)&&decide (e+cN s.Cond<=256)))))/\
    ((zeroC s.Cond||(cD 1 s.Cond&&(decide (a+1<=64)&&decide (e+cN s.Cond<=256))))=true->t={steps:=a+1,conds:=e+((bif zeroC s.Cond then 0 else cN s.Cond:Nat):Int)}):=by
   cases G:zeroC s.Cond with
   |true=>
    refine⟨{steps:=a+1,conds:=e},?_,λ_=>?_⟩
    .exact Qa _
    .simp
   |false=>
    obtain⟨t,p,z⟩:=W [ofCond s.Cond] 0 (a+1) e (by simp only[fZs,Vs,Vt,List.sum_cons,List.sum_nil];show cN s.Cond+0<sZ s;rw[QfD];omega) (by simp) (by intro g j;simp only[List.mem_singleton]at j;subst j;exact wc) (by omega) (by omega) (by omega) (.inr (by intro g j;simp only[List.mem_singleton]at j;exact⟨_,j⟩)) h2 h3;have ek:okL [ofCond s.Cond] 0 (a+1) e=(cD 1 s.Cond&&(decide (a+1<=64)&&decide (e+cN s.Cond<=256))):=by
     unfold okL;simp only[List.isEmpty_cons,Bool.false_or,List.all_cons,List.all_nil,Bool.and_true,fSs,fCs,Vs,Vt,List.sum_cons,List.sum_nil];rw[show fD (0+1) (ofCond s.Cond)=cD 1 s.Cond from rfl,show fS (ofCond s.Cond)=0 from rfl,show fC (ofCond s.Cond)=cN s.Cond from rfl];simp
    rw[ek]at p z;refine⟨t,Ea p (Qa _),λh=>?_⟩;rw[z h];simp[fSs,fCs,show fS (ofCond s.Cond)=0 from rfl,show fC (ofCond s.Cond)=cN s.Cond from rfl]
  obtain⟨t,p,z⟩:=hc;generalize hb:(zeroC s.Cond||(cD 1 s.Cond&&(decide (a+1<=64)&&decide (e+cN s.Cond<=256))))=b at p z;have P:okF (typing_form.ctyping_step {Step:=s}) d a e=(sDp (d+1) s&&(decide (a+sNp s<=64)&&decide (e+sC s<=256))):=rfl;rw[P];cases b with
  |false=>
   have:(sDp (d+1) s&&(decide (a+sNp s<=64)&&decide (e+sC s<=256)))=false:=by
    rw[Bool.eq_false_iff];intro hh;simp only[X5,decide_eq_true_eq,Qg5,QfE,Qee]at hh;obtain⟨⟨z1,_⟩,z2,z3⟩:=hh;cases G:zeroC s.Cond with
    |true=>rw[G]at hb;cases hb
    |false=>
     rw[G]at hb z1 z3;simp only[Bool.false_or]at hb z1;rw[z1]at hb;simp only[cond_false]at z3;rw[QN (show a+1<=64 by omega),QN (show e+(cN s.Cond:Int)<=256 by omega)]at hb;cases hb
   rw[this];exact⟨t,Ea p (Qa _),λh=>by cases h⟩
  |true=>
   obtain rfl:=z rfl;by_cases q:64<a+1
   .have:(sDp (d+1) s&&(decide (a+sNp s<=64)&&decide (e+sC s<=256)))=false:=by
     rw[QD (show¬a+(sNp s:Int)<=64 by rw[QfE];omega)];simp
    rw[this];refine⟨{steps:=a+1,conds:=e+((bif zeroC s.Cond then 0 else cN s.Cond:Nat):Int)},Ea p ?_,λh=>by cases h⟩;simp only[Xh,cond_false];refine Ea (v:=(_,true)) ?_ (Qa _);rw[QN q];exact Qa _
   by_cases F:256<e+((bif zeroC s.Cond then 0 else cN s.Cond:Nat):Int)
   .have:(sDp (d+1) s&&(decide (a+sNp s<=64)&&decide (e+sC s<=256)))=false:=by
     rw[QD (show¬e+(sC s:Int)<=256 by rw[Qee];omega)];simp
    rw[this];refine⟨{steps:=a+1,conds:=e+((bif zeroC s.Cond then 0 else cN s.Cond:Nat):Int)},Ea p ?_,λh=>by cases h⟩;simp only[Xh,cond_false];refine Ea (v:=(_,true)) ?_ (Qa _);rw[QD q,QN F];exact Qa _
   obtain⟨H,u,w⟩:=W (stepParts s) (d+1) (a+1) (e+((bif zeroC s.Cond then 0 else cN s.Cond:Nat):Int)) (by
     unfold stepParts;rw[QeH,QbK,QbK];show _<sZ s;rw[QfD];omega) (by unfold stepParts;simp;omega) (by
     intro g j;unfold stepParts at j;rcases List.mem_append.1 j with j|j
     .obtain⟨y,E,rfl⟩:=Xf.1 j;exact T y E
     .obtain⟨y,E,rfl⟩:=Xf.1 j;exact M y E) (by omega) (by omega) (by omega) (.inl (by omega)) (by omega) (by omega)
   have X:okL (stepParts s) (d+1) (a+1) (e+((bif zeroC s.Cond then 0 else cN s.Cond:Nat):Int))=(sDp (d+1) s&&(decide (a+sNp s<=64)&&decide (e+sC s<=256))):=by
    rw[X7,Qgm _ _ _ _ (by omega) (by omega),Qea];simp only[X5,decide_eq_true_eq,Qg5,QfE,Qee];have O:fSs (stepParts s)=sNs s.Then+sNs s.Else:=by unfold stepParts;rw[QeJ,Qa4,Qa4]
    have N:fCs (stepParts s)=sCs s.Then+sCs s.Else:=by unfold stepParts;rw[QeL,Qa5,Qa5]
    rw[O,N];have Y:(zeroC s.Cond||cD 1 s.Cond)=true:=by
     cases G:zeroC s.Cond with
     |true=>rfl
     |false=>
      rw[G]at hb;simp only[Bool.false_or,X5]at hb;rw[hb.1];rfl
    constructor
    .rintro⟨r,L,J⟩;exact⟨⟨Y,r⟩,by omega,by omega⟩
    .rintro⟨⟨_,r⟩,L,J⟩;exact⟨r,by omega,by omega⟩
   rw[X]at u w;refine⟨H,Ea p ?_,λh=>?_⟩
   .simp only[Xh,cond_false];refine Ea (v:=(H, !(sDp (d+1) s&&(decide (a+sNp s<=64)&&decide (e+sC s<=256))))) ?_ ?_
    .rw[QD q,QD F,ed];exact Ea (Qbh s k) (Ea u (Qa _))
    .cases(sDp (d+1) s&&(decide (a+sNp s<=64)&&decide (e+sC s<=256)))<;>exact Qa _
   .rw[w h];have O:fSs (stepParts s)=sNs s.Then+sNs s.Else:=by unfold stepParts;rw[QeJ,Qa4,Qa4]
    have N:fCs (stepParts s)=sCs s.Then+sCs s.Else:=by unfold stepParts;rw[QeL,Qa5,Qa5]
    rw[O,N,show fS (typing_form.ctyping_step {Step:=s})=sNp s from rfl,show fC (typing_form.ctyping_step {Step:=s})=sC s from rfl,QfE,Qee];congr 1<;>omega
 |ctyping_cond x=>
  obtain⟨c⟩:=x;have k:Cond.wf c:=hw;obtain⟨ad,Q⟩:=YZ k;have V:IntKind.i64.wrap (e+1)=e+1:=Qu (by omega) (by omega);simp only[typing_form.elim,V];have P:okF (typing_form.ctyping_cond {Cond:=c}) d a e=(cD (d+1) c&&(decide (a<=64)&&decide (e+cN c<=256))):=by
   show(cD (d+1) c&&(decide (a+((0:Nat):Int)<=64)&&decide (e+cN c<=256)))=_;rw[show a+((0:Nat):Int)=a by omega]
  rw[P];by_cases q:64<a
  .have:(cD (d+1) c&&(decide (a<=64)&&decide (e+cN c<=256)))=false:=by
    rw[QD (show¬a<=64 by omega)];simp
   rw[this];refine⟨{steps:=a,conds:=e+1},?_,λh=>by cases h⟩;refine Ea (v:=(_,true)) ?_ (Qa _);rw[QN q];exact Qa _
  by_cases F:256<e+1
  .have:(cD (d+1) c&&(decide (a<=64)&&decide (e+cN c<=256)))=false:=by
    rw[QD (show¬e+(cN c:Int)<=256 by rw[QbN];omega)];simp
   rw[this];refine⟨{steps:=a,conds:=e+1},?_,λh=>by cases h⟩;refine Ea (v:=(_,true)) ?_ (Qa _);rw[QD q,QN F];exact Qa _
  obtain⟨H,u,w⟩:=W (c.Parts.map ofCond) (d+1) a (e+1) (by
    rw[QeI];show _<cN c;rw[QbN];omega) (by simp;omega) (by
    intro g j;obtain⟨y,E,rfl⟩:=Xf.1 j;exact Q y E) (by omega) (by omega) (by omega) (.inl (by omega)) (by omega) (by omega)
  have X:okL (c.Parts.map ofCond) (d+1) a (e+1)=(cD (d+1) c&&(decide (a<=64)&&decide (e+cN c<=256))):=by
   rw[X7,Qgm _ _ _ _ (by omega) (by omega), <- QhA,QeK,QeM];simp only[X5,decide_eq_true_eq,QjD,QbN];constructor
   .rintro⟨r,L,J⟩;exact⟨r,by omega,by omega⟩
   .rintro⟨r,L,J⟩;exact⟨r,by omega,by omega⟩
  rw[X]at u w;refine⟨H,?_,λh=>?_⟩
  .refine Ea (v:=(H, !(cD (d+1) c&&(decide (a<=64)&&decide (e+cN c<=256))))) ?_ ?_
   .rw[QD q,QD F,ed];exact Ea (QcJ c k) (Ea u (Qa _))
   .cases(cD (d+1) c&&(decide (a<=64)&&decide (e+cN c<=256)))<;>exact Qa _
  .rw[w h,QeK,QeM,show fS (typing_form.ctyping_cond {Cond:=c})=0 from rfl,show fC (typing_form.ctyping_cond {Cond:=c})=cN c from rfl,QbN];congr 1;omega
theorem Qmu:∀(m:Nat) (l:List typing_form) (d:Nat) (a b:Int),fZs l<=m->l.length<=2097152->(∀f∈l,fwf f)->d<=17->0<=a->a<=66->(a<=65\/ ∀f∈l,∃c,f=ofCond c)->0<=b->b<=256->Cnt F_d l d a b:=by
 intro m
 induction m using Nat.strongRecOn with
 |_ m E=>
 intro l d a b hm hl hw hd W h1 z h2 Y;unfold Cnt;have u:∀c:typing_count,(∃e:typing_count,Ev (λn=>B_d (F_d n) n l (d:Int) c) (e,okL l d a b)/\(okL l d a b=true->e={steps:=a+fSs l,conds:=b+fCs l}))->∃e:typing_count,Ev (λn=>F_d n l (d:Int) c) (e,okL l d a b)/\(okL l d a b=true->e={steps:=a+fSs l,conds:=b+fCs l}):=by
  rintro c ⟨e,q1,q2⟩;exact⟨e,Yf q1,q2⟩
 refine u _ ?_;unfold B_d;cases g:l with
 |nil=>
  refine⟨{steps:=a,conds:=b},?_,λ_=>by simp[fSs,fCs]⟩;refine Ea (v:=false) (Qa _) (QK ?_);refine Ea (v:=Ctl.cont {steps:=a,conds:=b}) (EvI.ev (Ej ?_)) (Qa _);exact Qa _
 |cons f0 r0=>
 rw[<- g];have y:l.isEmpty=false:=by rw[g];rfl
 have L:0<l.length:=by rw[g];simp
 by_cases j:d<=16
 rotate_left
 .have:okL l d a b=false:=by unfold okL;rw[y,QD j];rfl
  rw[this];refine⟨{steps:=a,conds:=b},?_,λh=>by cases h⟩;rw[QN (show(0:Int)<(l.length:Int)by omega),QN (show(16:Int)<(d:Int)by omega)];exact Ea (Qa _) (Qa _)
 have s:okL l d a b=okR l d a b:=by unfold okL okR;rw[QN j,Bool.true_and]
 rw[s];have loop:∀(r:List typing_form) (i:Nat) (a b:Int),l.drop i=r->i<=l.length->0<=a->a<=66->(a<=65\/ ∀f∈l,∃c,f=ofCond c)->0<=b->b<=256->
   ∃e:typing_count,EvI (λn=>F_ib n l (d:Int) (F_d n)) ({steps:=a,conds:=b},(i:Int)) (bif okR r d a b then Ctl.cont e else Ctl.done (e,false))/\(okR r d a b=true->e={steps:=a+fSs r,conds:=b+fCs r}):=by
  intro r
  induction r with
  |nil=>
   intro i a b B J _ _ _ _ _;refine⟨{steps:=a,conds:=b},Ej ?_,λ_=>by simp[fSs,fCs]⟩;unfold F_ib;simp only[QU B J,cond_false];exact Qa _
  |cons f r G=>
   intro i a b B J P O H g2 g3;obtain⟨q,t⟩:=Qp (by omega) B;have aa:fZ f<=fZs l:=by
    have:∀(l:List typing_form),f∈l->fZ f<=fZs l:=by
     intro l
     induction l with
     |nil=>intro h;cases h
     |cons x l E=>
      intro h;rw[Qhy];rcases Vf.1 h with rfl|h
      .omega
      .have:=E h;omega
    exact this l q.mem
   obtain⟨e,k,w⟩:=QiH (R:=F_d) j q (hw f q.mem) (λM T a b k1 k2 V k4 k5 k6 F X k8=>E (fZs M) (by omega) M T a b (X2 _) k2 V k4 k5 k6 F X k8) P O (H.imp id λh=>h f q.mem) g2 g3;rw[QlR];cases p:okF f d a b with
   |false=>
    rw[p]at k;exact⟨e,Ej k,λh=>by cases h⟩
   |true=>
    rw[p]at k;obtain rfl:=w p;have hb:a+fS f<=64/\b+fC f<=256:=by
     unfold okF at p;simp only[X5,decide_eq_true_eq]at p;exact p.2
    obtain⟨Q,N,u2⟩:=G (i+1) (a+fS f) (b+fC f) t (by have:=q.lt';omega) (by omega) (by omega) (.inl (by omega)) (by omega) (by omega);refine⟨Q,Ew k N,λh=>?_⟩;rw[u2 (by simpa using h),Qhz,QhB];congr 1<;>omega
 obtain⟨e,k,w⟩:=loop l 0 a b rfl (X3 _) W h1 z h2 Y;refine⟨e,?_,w⟩;refine Ea (v:=false) ?_ (QK (Ea k.ev ?_))
 .rw[QN (show(0:Int)<(l.length:Int)by omega),QD (show¬(16:Int)<(d:Int)by omega)];exact Qa _
 .cases okR l d a b<;>exact Qa _
mutual
def vaC:Cond->Bool
 |⟨k,v,n,ps⟩=>bif k==1 then inR 1 3 v&&(inR 0 10000 n&&((ps.length:Int)==0))else
   bif k==4 then((v==0)&&(n==0))&&(((ps.length:Int)==1)&&vaCs ps)else
   bif (k==2)||(k==3)then((v==0)&&(n==0))&&((decide (0<(ps.length:Int))&&decide ((ps.length:Int)<=16))&&vaCs ps)else false
def vaCs:List Cond->Bool
 |[]=>true
 |c::r=>vaC c&&vaCs r
end
theorem Qk8(c:Cond):vaC c=bif c.Kind==1 then inR 1 3 c.Var&&(inR 0 10000 c.N&&((c.Parts.length:Int)==0))else
   bif c.Kind==4 then((c.Var==0)&&(c.N==0))&&(((c.Parts.length:Int)==1)&&vaCs c.Parts)else
   bif (c.Kind==2)||(c.Kind==3)then((c.Var==0)&&(c.N==0))&&((decide (0<(c.Parts.length:Int))&&decide ((c.Parts.length:Int)<=16))&&vaCs c.Parts)else false:=by cases c;rfl
theorem Qge:∀l:List Cond,vaCs l=l.all vaC
 |[]=>rfl
 |c::r=>by rw[vaCs,List.all_cons,Qge r]
mutual
def vaS:Step->Bool
 |⟨k,b,c,t,e⟩=>bif k==1 then inR 1 5 b&&(zeroC c&&(((t.length:Int)==0)&&((e.length:Int)==0)))else
   bif k==2 then(b==0)&&(vaC c&&(decide (0<(t.length:Int))&&(vaSs t&&vaSs e)))else false
def vaSs:List Step->Bool
 |[]=>true
 |s::r=>vaS s&&vaSs r
end
theorem Qk7(s:Step):vaS s=bif s.Kind==1 then inR 1 5 s.By&&(zeroC s.Cond&&(((s.Then.length:Int)==0)&&((s.Else.length:Int)==0)))else
   bif s.Kind==2 then(s.By==0)&&(vaC s.Cond&&(decide (0<(s.Then.length:Int))&&(vaSs s.Then&&vaSs s.Else)))else false:=by cases s;rfl
theorem Qgd:∀l:List Step,vaSs l=l.all vaS
 |[]=>rfl
 |c::r=>by rw[vaSs,List.all_cons,Qgd r]
def fV:typing_form->Bool
 |.ctyping_step x=>vaS x.Step
 |.ctyping_cond x=>vaC x.Cond
theorem QiL(l:List Cond):(l.map ofCond).any (λf=> !fV f)= !vaCs l:=by
 rw[Qge,List.not_all_eq_any_not,List.any_map];rfl
theorem Qcl(l:List Step):(l.map ofStep).any (λf=> !fV f)= !vaSs l:=by
 rw[Qgd,List.not_all_eq_any_not,List.any_map];rfl
theorem QfS{R:Nat->List typing_form->Option Bool}(c:Cond)(j:Cond.wf c)(h:Ev (λn=>R n (c.Parts.map ofCond)) (!vaCs c.Parts)):
  Ev (λn=>F_ej (R n) n {Cond:=c}) (vaC c):=by
 unfold F_ej;rw[Qk8];refine Ea (v:=(c.Var==0)&&(c.N==0)) (Ei λ_=>Qa _) ?_;refine YE (λ_=>?_) (λk=>?_)
 .exact Ea (Ea (QJ _ _ _) (Ei λ_=>Ea (QJ _ _ _) (Ei λ_=>Qa _))) (Qa _)
 .have fin:∀b:Bool,Ev (λn=>((bif b then(F_v n {Cond:=c}).bind λd=>(R n d).bind λg=>some (!g)else some false):Option Bool).bind λf=>some f) (b&&vaCs c.Parts):=by
   intro b;refine Ea ((Ei λ_=>Ea (QcJ c j) (Ea h (Qa _)))) ((Qa _).eq (by simp))
  cases l:(c.Kind==4)with
  |true=>
   simp only[cond_true];cases i:((c.Var==0)&&(c.N==0))with
   |true=>
    refine Ea (v:=Ctl.cont ((c.Parts.length:Int)==1)) (Qa _) ((fin _).eq (by simp))
   |false=>
    refine Ea (v:=Ctl.cont false) (Qa _) ((fin _).eq (by simp))
  |false=>
   simp only[cond_false];cases a:((c.Kind==2)||(c.Kind==3))with
   |true=>
    simp only[cond_true];have e:Ev (λn:Nat=>((bif (c.Kind==2)then some (c.Kind==2)else some (c.Kind==3)):Option Bool)) true:=by
     refine EA ?_;rw[QgJ,a]
    cases i:((c.Var==0)&&(c.N==0))with
    |true=>
     cases m:decide (0<(c.Parts.length:Int))with
     |true=>
      refine Ea (v:=Ctl.cont (decide ((c.Parts.length:Int)<=16))) (Ea e (Qa _)) ((fin _).eq (by simp))
     |false=>
      refine Ea (v:=Ctl.cont false) (Ea e (Qa _)) ((fin _).eq (by simp))
    |false=>
     refine Ea (v:=Ctl.cont false) (Ea e (Qa _)) ((fin _).eq (by simp))
   |false=>
    have e:Ev (λn:Nat=>((bif (c.Kind==2)then some (c.Kind==2)else some (c.Kind==3)):Option Bool)) false:=by
     refine EA ?_;rw[QgJ,a]
    refine Ea (v:=Ctl.done false) (Ea e (Qa _)) (Qa _)
theorem QiB:∀(m:Nat) (l:List typing_form),fZs l<=m->l.length<=2097152->(∀f∈l,fwf f)->Ev (λn=>F_m n l) (l.any λf=> !fV f):=by
 intro m
 induction m using Nat.strongRecOn with
 |_ m i=>
 intro l H E t;refine Yf ?_;show Ev (λn=>B_m (F_m n) n l) _;unfold B_m F_gy;refine Ev.contains l _ (λn f=>F_ck (F_m n) n f) (by omega) λf k=>?_;have z:fZ f<=fZs l:=by
  have:∀(l:List typing_form),f∈l->fZ f<=fZs l:=by
   intro l
   induction l with
   |nil=>intro h;cases h
   |cons x l i=>
    intro h;rw[Qhy];rcases Vf.1 h with rfl|h
    .omega
    .have:=i h;omega
  exact this l k
 unfold F_ck;refine Ea (v:=fV f) ?_ (Qa _);have a:∀c:Cond,Cond.wf c->cNs c.Parts<fZ f->Ev (λn=>F_m n (c.Parts.map ofCond)) (!vaCs c.Parts):=by
  intro c e j;rw[<- QiL];obtain⟨J,B⟩:=YZ e;refine i (fZs (c.Parts.map ofCond)) (by rw[QeI];omega) _ (X2 _) (by simp;omega) ?_;intro g b;obtain⟨y,d,rfl⟩:=Xf.1 b;exact B y d
 cases f with
 |ctyping_cond x=>
  obtain⟨c⟩:=x;have e:Cond.wf c:=t _ k;exact QfS (R:=F_m) c e (a c e (by show cNs c.Parts<cN c;rw[QbN];omega))
 |ctyping_step x=>
  obtain⟨s⟩:=x;have j:Step.wf s:=t _ k;obtain⟨r,⟨w,q⟩,⟨u,p⟩⟩:=YY j;unfold F_gb;show Ev _ (vaS s);rw[Qk7];simp only[typing_form.elim];refine YE (λ_=>?_) (λG=>YE (λ_=>?_) λ_=>Qa _)
  .refine Ea (Ea (QJ _ _ _) (Ei λ_=>?_)) (Qa _);simp only[QfU,XR];refine Ei λ_=>Ea (Qbh s j) ((Qa _).eq ?_);unfold stepParts;rw[X7];simp only[beq_iff_eq,X5,Vb,Va];omega
  .refine Ea (Ei λ_=>?_) (Qa _);refine Ea (QfS (R:=F_m) s.Cond r (a s.Cond r (by show _<sZ s;rw[QfD,QbN];omega))) (Ei λ_=>Ei λ_=>?_);refine Ea (Qbh s j) (Ea (i (fZs (stepParts s)) ?_ _ (X2 _) (by unfold stepParts;simp;omega) ?_) ((Qa _).eq ?_))
   .have:fZs (stepParts s)<sZ s:=by
     unfold stepParts;rw[QeH,QbK,QbK,QfD];omega
    have F:fZ (typing_form.ctyping_step {Step:=s})=sZ s:=rfl;omega
   .intro g b;unfold stepParts at b;rcases List.mem_append.1 b with b|b
    .obtain⟨y,d,rfl⟩:=Xf.1 b;exact q y d
    .obtain⟨y,d,rfl⟩:=Xf.1 b;exact p y d
   .unfold stepParts;rw[List.any_append,Qcl,Qcl];simp
def goodT(l:List Step):Bool:=sDs 0 l&&(decide (sNs l<=64)&&decide (sCs l<=256))
def tiesE(l:List Step):Int:=bif goodT l then(bif l.isEmpty|| !vaSs l then 71 else 0)else 2
theorem QlS(l:List Step):okL (l.map ofStep) 0 0 0=goodT l:=by
 rw[X7,Qgm _ _ _ _ (by omega) (by omega), <- QcI,Qa4,Qa5];unfold goodT;simp only[X5,decide_eq_true_eq];constructor
 .rintro⟨a,b,c⟩;exact⟨a,by omega,by omega⟩
 .rintro⟨a,b,c⟩;exact⟨a,by omega,by omega⟩
theorem QnS(l:List Step)(m:l.length<=1048576)(h:∀x∈l,Step.wf x):Ev (λn=>F_da n l) (tiesE l):=by
 unfold F_da;refine Ea (QeP l (by omega)) (Ea (v:=tiesE l) ?_ (Qa _));have a:∀f∈l.map ofStep,fwf f:=by
  intro g k;obtain⟨y,i,rfl⟩:=Xf.1 k;exact h y i
 obtain⟨j,b,p⟩:=Qmu _ (l.map ofStep) 0 0 0 (X2 _) (by simp;omega) a (by omega) (by omega) (by omega) (.inl (by omega)) (by omega) (by omega);rw[QlS]at b;unfold F_jc;have d:Ev (λn=>F_gt n (l.map ofStep) 0 {steps:=0,conds:=0}) (j,goodT l):=b.shift;refine Ea d ?_;unfold tiesE;cases goodT l with
 |false=>exact Qa _
 |true=>
  simp only[Xh,cond_false,cond_true];have e:(((l.map ofStep).length:Int)==0)=l.isEmpty:=by
   cases l<;>simp;omega
  rw[e];refine Ea (Qf λ_=>Ea (QiB _ _ (X2 _) (by simp;omega) a) (Qa _)) ?_;rw[Qcl];cases(l.isEmpty|| !vaSs l)<;>exact Qa _
def condB(d:Nat):Int:=256*(18-(d:Int))+1000
theorem Qb7:∀(m:Nat) (c:Cond) (d:Nat),cN c<=m->d<=17->Cond.wf c->∃v:Int,Ev (λn=>F_h n c (d:Int)) v/\0<=v/\v<=condB d/\
  (d<=16/\cD (d+1) c=true/\cN c<=256->v=cN c)/\(¬(d<=16/\cD (d+1) c=true/\cN c<=256)->256<v):=by
 intro m
 induction m using Nat.strongRecOn with
 |_ m H=>
 intro c d hm hd X;obtain⟨aa,G⟩:=YZ X;have u:∀{P:Int->Prop},(∃v:Int,Ev (λn=>B_h (F_h n) n c (d:Int)) v/\P v)->∃v:Int,Ev (λn=>F_h n c (d:Int)) v/\P v:=by
  rintro P ⟨v,g,b⟩;exact⟨v,Yf g,b⟩
 refine u ?_;unfold B_h;by_cases j:d<=16
 .rw[QD (show¬(16:Int)<(d:Int)by omega)];have Q:IntKind.i64.wrap ((d:Int)+1)=((d+1:Nat):Int):=YQ (by omega);have loop:∀(r:List Cond) (i:Nat) (a:Int),c.Parts.drop i=r->i<=c.Parts.length->0<=a->a<=condB d->
    ∃v:Int,EvI (λn=>F_go n c (d:Int) (F_h n)) (a,(i:Int)) v/\0<=v/\v<=condB d/\
     (cDs (d+1) r=true/\a+cNs r<=256->v=a+cNs r)/\(¬(cDs (d+1) r=true/\a+cNs r<=256)->256<v):=by
   intro r
   induction r with
   |nil=>
    intro i a F M B g;refine⟨a,Ej ?_,B,g,λ_=>by simp[cNs],λh=>?_⟩
    .unfold F_go;simp only[QU F M,cond_false,XR];exact Qa _
    .simp[cDs,cNs]at h;omega
   |cons x r J=>
    intro i a F M B g;obtain⟨f,t⟩:=Qp (by omega) F;have hx:cN x<cN c:=by
     have:∀l:List Cond,x∈l->cN x<=cNs l:=by
      intro l
      induction l with
      |nil=>intro h;cases h
      |cons y l H=>
       intro h;rw[cNs];rcases Vf.1 h with rfl|h
       .omega
       .have:=H h;omega
     have:=this _ f.mem;rw[QbN c];omega
    by_cases e:a<=256
    .obtain⟨v,z,L,O,k,s⟩:=H (cN x) (by omega) x (d+1) (X2 _) (by omega) (G x f.mem);have hB:condB (d+1)+256=condB d:=by unfold condB;omega
     have T:condB d<=6000:=by unfold condB;omega
     have W:IntKind.i64.wrap (a+v)=a+v:=Qu (by omega) (by omega);obtain⟨w,Y,q2,V,R,N⟩:=J (i+1) (a+v) t (by have:=f.lt';omega) (by omega) (by omega);refine⟨w,Ew ?_ Y,q2,V,?_,?_⟩
     .unfold F_go;simp only[f.lt,cond_true,QN e,XR,f.ix,f.nx,Q];refine Ea z ?_;rw[W];exact Qa _
     .rintro⟨b,E⟩;simp only[cDs,X5,decide_eq_true_eq]at b;rw[cNs]at E⊢;have:=k ⟨b.1,b.2.1,by omega⟩;subst this;rw[R ⟨b.2.2,by omega⟩];omega
     .intro q;by_cases p:d+1<=16/\cD (d+1+1) x=true/\cN x<=256
      .have:=k p;subst this;refine N λb=>q ⟨?_,?_⟩
       .simp only[cDs,X5,decide_eq_true_eq];exact⟨p.1,p.2.1,b.1⟩
       .rw[cNs];omega
      .have:=s p;exact N λb=>by omega
    .refine⟨a,Ej ?_,B,g,λh=>?_,λ_=>by omega⟩
     .unfold F_go;simp only[f.lt,cond_true,QD e,XR,cond_false];exact Qa _
     .omega
  obtain⟨v,z,L,O,k,s⟩:=loop c.Parts 0 1 rfl (X3 _) (by omega) (by unfold condB;omega);refine⟨v,QK (Ea z.ev (Qa _)),L,O,?_,?_⟩
  .rintro⟨_,b,E⟩;rw[QjD]at b;rw[QbN]at E⊢;rw[k ⟨b,by omega⟩];omega
  .intro q;refine s λh=>q ⟨j,by rw[QjD];exact h.1,by rw[QbN];omega⟩
 .rw[QN (show(16:Int)<(d:Int)by omega)];refine⟨1000,Qga (Qa _),by omega,by unfold condB;omega,λh=>absurd h.1 j,λ_=>by omega⟩
def sizeB:Nat->Int
 |0=>10000
 |k+1=>3*sizeB k
theorem Qcs:∀k,10000<=sizeB k
 |0=>Int.le_refl _
 |k+1=>by have:=Qcs k;simp only[sizeB];omega
theorem Qll{k:Nat}(h:k<=17):sizeB k<=1291401630000:=by
 have:∀j,j<=17->sizeB j<=1291401630000:=by decide+kernel
 exact this k h
def goodL(d:Nat)(l:List Step):Prop:=sDs d l=true/\sNs l<=64/\sCs l<=256
theorem QnI:∀(m:Nat) (l:List Step) (d:Nat),sZs l<=m->d<=17->l.length<=1048576->(∀x∈l,Step.wf x)->∃a b:Int,Ev (λn=>F_s n l (d:Int)) (a,b)/\0<=a/\0<=b/\a<=sizeB (17-d)/\b<=sizeB (17-d)/\
  (goodL d l->a=sNs l/\b=sCs l)/\(¬goodL d l->64<a\/256<b):=by
 intro m
 induction m using Nat.strongRecOn with
 |_ m F=>
 intro l d hm hd hl hw;have N:∀{P:Int->Int->Prop},(∃a b:Int,Ev (λn=>B_s (F_s n) n l (d:Int)) (a,b)/\P a b)->∃a b:Int,Ev (λn=>F_s n l (d:Int)) (a,b)/\P a b:=by
  rintro P ⟨a,b,w,p⟩;exact⟨a,b,Yf w,p⟩
 refine N ?_;unfold B_s;by_cases e:0<l.length/\ ¬d<=16
 .rw[QN (show(0:Int)<(l.length:Int)by omega),QN (show(16:Int)<(d:Int)by omega)];have:=Qcs (17-d);refine⟨1000,1000,Ea (Qa _) (Qga (Qa _)),by omega,by omega,by omega,by omega,λh=>?_,λ_=>by omega⟩;exfalso;cases l with
  |nil=>simp at e
  |cons x r=>
   have:=h.1;simp only[sDs,X5,decide_eq_true_eq]at this;exact e.2 this.1
 .have u:Ev (λn:Nat=>((bif decide (0<(l.length:Int))then some (decide (16<(d:Int)))else some false):Option Bool)) false:=by
   by_cases hp:0<l.length
   .have:d<=16:=by
     rcases Nat.lt_or_ge 16 d with q|q
     .exact absurd ⟨hp,by omega⟩ e
     .exact q
    rw[QN (show(0:Int)<(l.length:Int)by omega),QD (show¬(16:Int)<(d:Int)by omega)];exact Qa _
   .rw[QD (show¬(0:Int)<(l.length:Int)by omega)];exact Qa _
  have ed:IntKind.i64.wrap ((d:Int)+1)=((d+1:Nat):Int):=YQ (by omega);have loop:∀(r:List Step) (i:Nat) (a b:Int),l.drop i=r->i<=l.length->0<=a->0<=b->a<=sizeB (17-d)->b<=sizeB (17-d)->
    ∃a' b':Int,EvI (λn=>F_hy n l (d:Int) (F_s n)) (a,b,(i:Int)) (a',b')/\0<=a'/\0<=b'/\a'<=sizeB (17-d)/\b'<=sizeB (17-d)/\
     (sDs d r=true/\a+sNs r<=64/\b+sCs r<=256->a'=a+sNs r/\b'=b+sCs r)/\(¬(sDs d r=true/\a+sNs r<=64/\b+sCs r<=256)->64<a'\/256<b'):=by
   intro r
   induction r with
   |nil=>
    intro i a b hr hi u w p h3;refine⟨a,b,Ej ?_,u,w,p,h3,λ_=>by simp[sNs,sCs],λh=>?_⟩
    .unfold F_hy;simp only[QU hr hi,cond_false,XR];exact Qa _
    .simp[sDs,sNs,sCs]at h;omega
   |cons s r W=>
    intro i a b hr hi u w p h3;obtain⟨j,ac⟩:=Qp (by omega) hr;have ak:=j.lt';have t:d<=16:=by
     rcases Nat.lt_or_ge 16 d with q|q
     .exact absurd ⟨by omega,by omega⟩ e
     .exact q
    have ag:sZ s<=sZs l:=by
     have:∀l:List Step,s∈l->sZ s<=sZs l:=by
      intro l
      induction l with
      |nil=>intro h;cases h
      |cons y l F=>
       intro h;rw[sZs];rcases Vf.1 h with rfl|h
       .omega
       .have:=F h;omega
     exact this _ j.mem
    by_cases f:a<=64/\b<=256
    .obtain⟨wc,⟨aa,af⟩,⟨Y,L⟩⟩:=YY (hw s j.mem);have aj:=QfD s;obtain⟨B,g,O,p2,p3,p4,p5,G,p7⟩:=F (sZs s.Then) (by omega) s.Then (d+1) (X2 _) (by omega) aa af;obtain⟨y1,y2,q1,q2,q3,q4,q5,q6,q7⟩:=F (sZs s.Else) (by omega) s.Else (d+1) (X2 _) (by omega) Y L;have hB:sizeB (17-d)=3*sizeB (17-(d+1)):=by
      rw[show 17-d=(17-(d+1))+1 by omega];rfl
     have V:=Qcs (17-(d+1));have ai:=Qll (k:=17-d) (by omega);have hc:∃z:Int,0<=z/\z<=5608/\Ev (λn=>((bif (!zeroC s.Cond)then(idx l (i:Int)).bind λad=>(F_h n ad.Cond 0).bind λQ=>some (IntKind.i64.wrap ((IntKind.i64.wrap ((IntKind.i64.wrap (b+g))+y2))+Q))else some (IntKind.i64.wrap ((IntKind.i64.wrap (b+g))+y2))):Option Int)) (b+g+y2+z)/\
       ((zeroC s.Cond||cD 1 s.Cond)=true/\(bif zeroC s.Cond then 0 else cN s.Cond)<=256->z=((bif zeroC s.Cond then 0 else cN s.Cond:Nat):Int))/\(¬((zeroC s.Cond||cD 1 s.Cond)=true/\(bif zeroC s.Cond then 0 else cN s.Cond)<=256)->256<z):=by
      have e1:IntKind.i64.wrap (b+g)=b+g:=Qu (by omega) (by omega);have e2:IntKind.i64.wrap (b+g+y2)=b+g+y2:=Qu (by omega) (by omega);cases hz:zeroC s.Cond with
      |true=>
       refine⟨0,by omega,by omega,?_,λ_=>by simp,λh=>absurd ⟨rfl,by simp⟩ h⟩;simp only[Xh,cond_false,e1,e2];exact(Qa _).eq (by omega)
      |false=>
       obtain⟨v,u1,u2,u3,u4,u5⟩:=Qb7 _ s.Cond 0 (X2 _) (by omega) wc;have ab:v<=5608:=by unfold condB at u3;omega
       have e3:IntKind.i64.wrap (b+g+y2+v)=b+g+y2+v:=Qu (by omega) (by omega);refine⟨v,u2,ab,?_,λh=>?_,λh=>?_⟩
       .simp only[Xi,cond_true,j.ix,XR,e1,e2];refine Ea u1 ?_;rw[e3];exact Qa _
       .simp only[Bool.false_or,cond_false]at h⊢;exact u4 ⟨by omega,h.1,h.2⟩
       .simp only[Bool.false_or,cond_false]at h;exact u5 λq=>h ⟨q.2.1,q.2.2⟩
     obtain⟨z,z0,z1,z2,z3,z4⟩:=hc;have e4:IntKind.i64.wrap (a+1)=a+1:=Qu (by omega) (by omega);have e5:IntKind.i64.wrap (a+1+B)=a+1+B:=Qu (by omega) (by omega);have e6:IntKind.i64.wrap (a+1+B+y1)=a+1+B+y1:=Qu (by omega) (by omega);obtain⟨w1,w2,v1,v2,v3,v4,v5,v6,E⟩:=W (i+1) (a+1+B+y1) (b+g+y2+z) ac (by omega) (by omega) (by omega) (by omega) (by omega);refine⟨w1,w2,Ew ?_ v1,v2,v3,v4,v5,?_,?_⟩
     .unfold F_hy;simp only[j.lt,cond_true,QN f.1,QN f.2,XR,j.ix,j.nx,ed,QeQ];refine Ea O (Ea q1 ?_);simp only[j.ix,XR]at z2;refine Ea z2 ?_;rw[e4,e5,e6];exact Qa _
     .rintro⟨g1,g2,g3⟩;simp only[sDs,X5,decide_eq_true_eq,Qg5]at g1;obtain⟨ah,⟨J,R,X⟩,ae⟩:=g1;rw[sNs,QfE]at g2⊢;rw[sCs,Qee]at g3⊢;obtain⟨k1,k2⟩:=G ⟨R,by omega,by omega⟩;obtain⟨k3,k4⟩:=q6 ⟨X,by omega,by omega⟩;have k5:=z3 ⟨J,by omega⟩;obtain⟨k6,k7⟩:=v6 ⟨ae,by omega,by omega⟩;constructor<;>omega
     .intro hn;by_cases H:goodL (d+1) s.Then
      .obtain⟨k1,k2⟩:=G H;by_cases M:goodL (d+1) s.Else
       .obtain⟨k3,k4⟩:=q6 M;by_cases T:(zeroC s.Cond||cD 1 s.Cond)=true/\(bif zeroC s.Cond then 0 else cN s.Cond)<=256
        .have k5:=z3 T;refine E λq=>hn ⟨?_,?_,?_⟩
         .simp only[sDs,X5,decide_eq_true_eq,Qg5];exact⟨t,⟨T.1,H.1,M.1⟩,q.1⟩
         .rw[sNs,QfE];omega
         .rw[sCs,Qee];omega
        .have:=z4 T;exact E λq=>by omega
       .have:=q7 M;exact E λq=>by omega
      .have:=p7 H;exact E λq=>by omega
    .refine⟨a,b,Ej ?_,u,w,p,h3,λh=>?_,λ_=>?_⟩
     .unfold F_hy;have:Ev (λn:Nat=>((bif decide ((i:Int)<(l.length:Int))then(bif decide (a<=64)then some (decide (b<=256))else some false)else some false):Option Bool)) false:=by
       rw[j.lt];by_cases q:a<=64
       .rw[QN q,QD (show¬b<=256 from λz=>f ⟨q,z⟩)];exact Qa _
       .rw[QD q];exact Qa _
      exact Ea this (QK (Qa _))
     .omega
     .omega
  have V:=Qcs (17-d);obtain⟨a,b,O,p2,p3,p4,p5,G,p7⟩:=loop l 0 0 0 rfl (X3 _) (by omega) (by omega) (by omega) (by omega);refine⟨a,b,Ea u (QK (Ea O.ev (Qa _))),p2,p3,p4,p5,λh=>?_,λh=>?_⟩
  .obtain⟨k1,k2⟩:=G ⟨h.1,by have:=h.2.1;omega,by have:=h.2.2;omega⟩;constructor<;>omega
  .exact p7 λq=>h ⟨q.1,by omega,by omega⟩
theorem QhG:∀(m:Nat) (c:Cond),cN c<=m->Cond.wf c->Ev (λn=>F_r n c) (vaC c):=by
 intro m
 induction m using Nat.strongRecOn with
 |_ m b=>
 intro c w t;obtain⟨r,g⟩:=YZ t;refine Yf ?_;show Ev (λn=>B_r (F_r n) n c) _;unfold B_r;rw[Qk8];have k:∀x∈c.Parts,cN x<cN c:=by
  intro x k;have:∀l:List Cond,x∈l->cN x<=cNs l:=by
   intro l
   induction l with
   |nil=>intro h;cases h
   |cons y l b=>
    intro h;rw[cNs];rcases Vf.1 h with rfl|h
    .omega
    .have:=b h;omega
  have:=this _ k;rw[QbN c];omega
 have loop:Ev (λn=>iter (F_ip n c (F_r n)) n 0) (bif c.Parts.all vaC then Ctl.cont ()else Ctl.done false):=by
  refine QL c.Parts vaC _ _ (by omega) (λi x a=>?_) ?_
  .unfold F_ip;simp only[a.lt,cond_true,a.ix,XR,a.nx];refine Ea (b (cN x) (by have:=k x a.mem;omega) x (X2 _) (g x a.mem)) ?_;cases vaC x<;>exact Qa _
  .unfold F_ip;simp only[Yt,cond_false];exact Qa _
 have fin:Ev (λn=>((bif (c.Var != 0)then some true else some (c.N != 0)):Option Bool).bind λf=>(bif f then some false else(iter (F_ip n c (F_r n)) n 0:Option (Ctl Unit Bool)).bind λp=>match p with|.cont sb48=>(some true)|.done sb48=>some sb48)) (((c.Var==0)&&(c.N==0))&&vaCs c.Parts):=by
  refine Ea (v:= !((c.Var==0)&&(c.N==0))) (EA ?_) ?_
  .rw[QcK];simp only[Bool.not_and,bne]
  .cases((c.Var==0)&&(c.N==0))with
   |false=>exact Qa _
   |true=>
    refine QK (Ea loop ?_);rw[Qge];cases c.Parts.all vaC<;>exact Qa _
 refine YE (λ_=>?_) (λu=>?_)
 .refine Ea (v:=_) ((Ei λ_=>Ei λ_=>Ei λ_=>Ei λ_=>Qa _).eq ?_) (Qa _);unfold inR;simp only[Bool.and_assoc]
 .have e:Ev (λn:Nat=>((bif (c.Kind==2)then some (c.Kind==2)else some (c.Kind==3)):Option Bool)) ((c.Kind==2)||(c.Kind==3)):=EA (by rw[QgJ]);refine Ea e ?_;cases j:((c.Kind==2)||(c.Kind==3))with
  |true=>
   have q:(c.Kind==4)=false:=by
    rw[Bool.eq_false_iff];simp only[Bool.or_eq_true,beq_iff_eq]at j;simp only[beq_iff_eq,ne_eq];omega
   rw[q];simp only[cond_false,cond_true];have s:(bif decide ((c.Parts.length:Int)<1)then some true else some (decide (16<(c.Parts.length:Int))))=some (!(decide (0<(c.Parts.length:Int))&&decide ((c.Parts.length:Int)<=16))):=by
    rw[QcK];congr 1;rw[X7];simp only[Bool.or_eq_true,decide_eq_true_eq,Bool.not_eq_true',Bool.and_eq_false_iff,decide_eq_false_iff_not];omega
   rw[s];cases d:(decide (0<(c.Parts.length:Int))&&decide ((c.Parts.length:Int)<=16))with
   |false=>
    refine Ea (v:=Ctl.done false) (Qa _) ((Qa _).eq (by simp))
   |true=>
    refine Ea (v:=Ctl.cont ()) (Qa _) (fin.eq (by simp))
  |false=>
   simp only[cond_false];cases q:(c.Kind==4)with
   |true=>
    simp only[cond_true];cases d:((c.Parts.length:Int)==1)with
    |false=>
     refine Ea (v:=Ctl.done false) (EA ?_) ((Qa _).eq (by simp));simp only[bne,d,Xi,cond_true]
    |true=>
     refine Ea (v:=Ctl.cont ()) (EA ?_) (fin.eq (by simp));simp only[bne,d,Xh,cond_false]
   |false=>
    refine Ea (v:=Ctl.done false) (Qa _) (Qa _)
theorem Qiw(c:Cond)(a:Cond.wf c)(b:cD 1 c=true)(e:cN c<=256):Ev (λn=>F_bt n c) (bif vaC c then 0 else 71):=by
 obtain⟨v,d,_,_,f,_⟩:=Qb7 _ c 0 (X2 _) (by omega) a;have:=f ⟨by omega,b,e⟩;unfold F_bt;refine Ea d ?_;rw[QD (show¬256<v by omega)];refine QK (Ea (QhG _ c (X2 _) a) ?_);cases vaC c<;>exact Qa _
theorem QjT{c:Cond}(h:zeroC c=true):cD 1 c=true/\cN c<=256:=by
 unfold zeroC at h;simp only[X5,beq_iff_eq]at h;have:c.Parts=[]:=List.eq_nil_of_length_eq_zero (by omega);rw[QjD,QbN,this];exact⟨rfl,by simp[cNs]⟩
theorem QhE:∀(m:Nat) (l:List Step) (d:Nat),sZs l<=m->l.length<=1048576->(∀x∈l,Step.wf x)->sDs d l=true->sCs l<=256->Ev (λn=>F_f n l) (vaSs l):=by
 intro m
 induction m using Nat.strongRecOn with
 |_ m t=>
 intro l d hm hl V k hc;refine Yf ?_;show Ev (λn=>B_f (F_f n) n l) _;unfold B_f;have q:∀s∈l,sZ s<=sZs l/\sDp (d+1) s=true/\sC s<=sCs l:=by
  intro s;have:∀l:List Step,s∈l->sDs d l=true->sZ s<=sZs l/\sDp (d+1) s=true/\sC s<=sCs l:=by
   intro l
   induction l with
   |nil=>intro h;cases h
   |cons y l t=>
    intro h k;simp only[sDs,X5]at k;rw[sZs,sCs];rcases Vf.1 h with rfl|h
    .exact⟨by omega,k.2.1,by omega⟩
    .obtain⟨M,F,h3⟩:=t h k.2.2;exact⟨by omega,F,by omega⟩
  exact λh=>this l h k
 rw[Qgd];have loop:Ev (λn=>iter (F_le n l (F_f n)) n 0) (bif l.all vaS then Ctl.cont ()else Ctl.done false):=by
  refine QL l vaS _ _ (by omega) (λi s r=>?_) ?_
  .obtain⟨m1,B,Y⟩:=q s r.mem;obtain⟨T,⟨w,E⟩,⟨u,z⟩⟩:=YY (V s r.mem);have X:=QfD s;have j:=Qee s;rw[Qg5]at B;simp only[X5]at B;obtain⟨G,L,W⟩:=B;have b:cD 1 s.Cond=true/\cN s.Cond<=256:=by
    cases H:zeroC s.Cond with
    |true=>exact QjT H
    |false=>
     rw[H]at G j;simp only[cond_false]at j;exact⟨by simpa using G,by omega⟩
   unfold F_le;simp only[r.lt,cond_true,r.ix,XR,r.nx,QeQ];rw[Qk7];cases M:(s.Kind==1)with
   |true=>
    simp only[cond_true];have e:Ev (λn:Nat=>((bif decide (s.By<1)then some true else(bif decide (5<s.By)then some true else(bif (!zeroC s.Cond)then some true else(bif ((s.Then.length:Int) != 0)then some true else some ((s.Else.length:Int) != 0))))):Option Bool)) (!(inR 1 5 s.By&&(zeroC s.Cond&&(((s.Then.length:Int)==0)&&((s.Else.length:Int)==0))))):=by
     refine(Qf λ_=>Qf λ_=>Qf λ_=>Qf λ_=>Qa _).eq ?_;unfold inR;cases zeroC s.Cond with
     |false=>simp
     |true=>
      rw[X7];simp only[Bool.or_eq_true,decide_eq_true_eq,Bool.not_eq_true',Bool.and_eq_false_iff,decide_eq_false_iff_not,bne_iff_ne,ne_eq,beq_eq_false_iff_ne,Xh,Bool.true_and,Xj,false_or];omega
    cases p:(inR 1 5 s.By&&(zeroC s.Cond&&(((s.Then.length:Int)==0)&&((s.Else.length:Int)==0))))with
    |true=>rw[p]at e;exact Ea (Ea e (Qa _)) (Qa _)
    |false=>rw[p]at e;exact Ea (Ea e (Qa _)) (Qa _)
   |false=>
    simp only[cond_false];cases F:(s.Kind==2)with
    |true=>
     simp only[cond_true];have e:Ev (λn=>((bif (s.By != 0)then some true else(F_bt n s.Cond).bind λg=>(bif (g != 0)then some true else(bif ((s.Then.length:Int)==0)then some true else(F_f n s.Then).bind λf=>(bif (!f)then some true else(F_f n s.Else).bind λa=>some (!a))))):Option Bool)) (!((s.By==0)&&(vaC s.Cond&&(decide (0<(s.Then.length:Int))&&(vaSs s.Then&&vaSs s.Else))))):=by
      have O:=t (sZs s.Then) (by omega) s.Then (d+1) (X2 _) w E L (by omega);have Q:=t (sZs s.Else) (by omega) s.Else (d+1) (X2 _) u z W (by omega);have J:Ev (λn=>(F_f n s.Else).bind λa=>some (!a)) (!vaSs s.Else):=Ea Q (Qa _);have N:Ev (λn=>(F_f n s.Then).bind λf=>(bif (!f)then some true else(F_f n s.Else).bind λa=>some (!a))) (!vaSs s.Then|| !vaSs s.Else):=Ea O (Qf λ_=>J);refine(Qf λ_=>Ea (Qiw s.Cond T b.1 b.2) (Qf λ_=>Qf λ_=>N)).eq ?_;have R:((bif vaC s.Cond then(0:Int)else 71) != 0)= !vaC s.Cond:=by cases vaC s.Cond<;>rfl
      have P:((s.Then.length:Int)==0)= !decide (0<(s.Then.length:Int)):=by
       rw[X7];simp
      rw[R,P];simp only[Bool.not_and,bne]
     cases p:((s.By==0)&&(vaC s.Cond&&(decide (0<(s.Then.length:Int))&&(vaSs s.Then&&vaSs s.Else))))with
     |true=>rw[p]at e;exact Ea (Ea e (Qa _)) (Qa _)
     |false=>rw[p]at e;exact Ea (Ea e (Qa _)) (Qa _)
    |false=>exact Ea (Qa _) (Qa _)
  .unfold F_le;simp only[Yt,cond_false];exact Qa _
 refine Ea loop ?_;cases l.all vaS<;>exact Qa _
theorem Qiv(l:List Step)(g:l.length<=1048576)(i:∀x∈l,Step.wf x):Ev (λn=>F_ep n l) (tiesE l):=by
 unfold F_ep;obtain⟨a,b,m,y,w,_,_,k,q⟩:=QnI _ l 0 (X2 _) (by omega) g i;refine Ea m ?_;have j:goodT l=true↔goodL 0 l:=by
  unfold goodT goodL;simp
 unfold tiesE;cases f:goodT l with
 |false=>
  have:=q (λh=>by rw[j.2 h]at f;cases f);have e:(bif decide (64<a)then some true else some (decide (256<b)))=some true:=by
   rw[QcK];rcases this with h|h
   .rw[QN h];rfl
   .rw[QN h];simp
  exact Ea (EA e) (Qa _)
 |true=>
  have d:=j.1 f;obtain⟨u,t⟩:=k d;have s:=d.2.1;have r:=d.2.2;have e:(bif decide (64<a)then some true else some (decide (256<b)))=some false:=by
   rw[QcK,QD (show¬64<a by omega),QD (show¬256<b by omega)];rfl
  refine Ea (EA e) (QK ?_);have p:((l.length:Int)==0)=l.isEmpty:=by
   cases l<;>simp;omega
  rw[p];refine Ea (Qf λ_=>Ea (QhE _ l 0 (X2 _) g i d.1 r) (Qa _)) ?_;simp only[cond_true];cases(l.isEmpty|| !vaSs l)<;>exact Qa _
mutual
def hP:Part->Nat
 |⟨_,_,ps⟩=>bif ps.isEmpty then 0 else 1+hPs ps
def hPs:List Part->Nat
 |[]=>0
 |p::r=>max (hP p) (hPs r)
end
theorem Ql0(p:Part):hP p=bif p.Parts.isEmpty then 0 else 1+hPs p.Parts:=by cases p;rfl
theorem Qjj{p:Part}:∀{l:List Part},p∈l->hP p<=hPs l
 |q::r,h=>by
  simp only[hPs];rcases Vf.1 h with rfl|h
  .omega
  .have:=Qjj h;omega
theorem QaC{α:Type}(l:List α):((l.length:Int)==0)=l.isEmpty:=by
 cases l<;>simp;omega
theorem Y2:∀l:List Part,l.length<=szPs l
 |[]=>X2 _
 |p::r=>by have:=Y2 r;rw[szPs,YR,X9];omega
theorem QdA:∀(m:Nat) (l:List Part) (k:Nat),szPs l<=m->k<=17->l.length<=1048576->(∀x∈l,Part.wf x)->Ev (λn=>F_q n l (k:Int)) ((min (hPs l) k:Nat):Int):=by
 intro m
 induction m using Nat.strongRecOn with
 |_ m w=>
 intro l k F G E u;refine Yf ?_;show Ev (λn=>B_q (F_q n) n l (k:Int)) _;unfold B_q;have loop:∀(r:List Part) (i:Nat) (a:Nat),l.drop i=r->i<=l.length->a<=k->EvI (λn=>F_dd n l (k:Int) (F_q n)) ((a:Int),(i:Int)) ((max a (min (hPs r) k):Nat):Int):=by
  intro r
  induction r with
  |nil=>
   intro i a e g b;refine Ej ?_;unfold F_dd;simp only[QU e g,cond_false,XR];refine(Qa _).eq ?_;simp[hPs]
  |cons p r f=>
   intro i a e g h;obtain⟨b,d⟩:=Qp (by omega) e;obtain⟨y,z⟩:=Yi (u p b.mem);by_cases j:0<k
   .have t:IntKind.i64.wrap ((k:Int)-1)=((k-1:Nat):Int):=by rw[Qu (by omega) (by omega)];omega
    have B:=Je b.mem;rw[YR]at B;have step:Ev (λn=>F_dd n l (k:Int) (F_q n) ((a:Int),(i:Int))) (.cont (((max a (min (hP p) k):Nat):Int),((i+1:Nat):Int))):=by
     unfold F_dd;simp only[b.lt,cond_true,QN (show(0:Int)<(k:Int)by omega),XR,b.ix,b.nx,t,bne,QaC];rw[Ql0];cases H:p.Parts.isEmpty with
     |true=>
      simp only[Xh,cond_false,XR,cond_true,Nat.zero_min,Nat.max_zero];exact Qa _
     |false=>
      simp only[Xi,cond_true,cond_false];refine Ea (Ea (w (szPs p.Parts) (by omega) p.Parts (k-1) (X2 _) (by omega) y z) (Qa _)) ((Qa _).eq ?_);have s:IntKind.i64.wrap (1+((min (hPs p.Parts) (k-1):Nat):Int))=((1+min (hPs p.Parts) (k-1):Nat):Int):=by rw[Qu (by omega) (by omega)];omega
      rw[s];congr 2;split<;>omega
    refine(Ew step (f (i+1) _ d (by have:=b.lt';omega) (by omega))).eq ?_;rw[hPs];omega
   .have:k=0:=by omega
    subst this;refine Ej ?_;unfold F_dd;simp only[b.lt,cond_true,QD (show¬(0:Int)<((0:Nat):Int)by omega),XR,cond_false];have q:max a (min (hPs (p::r)) 0)=a:=by omega
    rw[q];exact Qa _
 refine Ea ((loop l 0 0 rfl (X3 _) (X3 _)).ev) ((Qa _).eq ?_);omega
theorem QdB:∀(m:Nat) (l:List Part),szPs l<=m->l.length<=1048576->(∀x∈l,Part.wf x)->Ev (λn=>F_x n l) ((min (szPs l) 257:Nat):Int):=by
 intro m
 induction m using Nat.strongRecOn with
 |_ m s=>
 intro l F u E;refine Yf ?_;show Ev (λn=>B_x (F_x n) n l) _;unfold B_x;have loop:∀(r:List Part) (i:Nat) (a:Nat),l.drop i=r->i<=l.length->a<=1048576->∃b:Nat,EvI (λn=>F_hk n l (F_x n)) ((a:Int),(i:Int)) (b:Int)/\min b 257=min (a+(szPs r-r.length)) 257:=by
  intro r
  induction r with
  |nil=>
   intro i a g j _;refine⟨a,Ej ?_,by simp[szPs]⟩;unfold F_hk;simp only[QU g j,cond_false,XR];exact Qa _
  |cons p r h=>
   intro i a g j B;obtain⟨d,e⟩:=Qp (by omega) g;obtain⟨t,y⟩:=Yi (E p d.mem);have z:=Je d.mem;rw[YR]at z;have w:=Y2 r;by_cases k:a<=256
   .obtain⟨b,f,q⟩:=h (i+1) (a+min (szPs p.Parts) 257) e (by have:=d.lt';omega) (by omega);refine⟨b,Ew ?_ f,?_⟩
    .unfold F_hk;simp only[d.lt,cond_true,QN (show(a:Int)<=256 by omega),XR,d.ix,d.nx];refine Ea (s (szPs p.Parts) (by omega) p.Parts (X2 _) t y) ((Qa _).eq ?_);rw[Qu (by omega) (by omega)];congr 2
     all_goals omega
    .rw[q,szPs,YR,X9];omega
   .refine⟨a,Ej ?_,by omega⟩;unfold F_hk;simp only[d.lt,cond_true,QD (show¬(a:Int)<=256 by omega),XR,cond_false];exact Qa _
 obtain⟨b,f,q⟩:=loop l 0 l.length rfl (X3 _) u;refine Ea f.ev ((Qa _).eq ?_);have:=Y2 l;split<;>omega
theorem Qmt:∀(m:Nat) (l:List Part) (k:Nat),szPs l<=m->hPs l<=k->k<=17->szPs l<=256->(∀x∈l,Part.wf x)->Ev (λn=>F_c n l (k:Int)) ((hPs l:Int),(szPs l:Int)):=by
 intro m
 induction m using Nat.strongRecOn with
 |_ m M=>
 intro l k P Q s h L;have u:=Y2 l;refine Yf ?_;show Ev (λn=>B_c (F_c n) n l (k:Int)) _;unfold B_c;have loop:∀(r:List Part) (i:Nat) (a b:Nat),l.drop i=r->i<=l.length->a<=17->b+(szPs r-r.length)<=256->EvI (λn=>F_an n l (k:Int) (F_c n)) ((a:Int),(b:Int),(i:Int)) (((max a (hPs r):Nat):Int),((b+(szPs r-r.length):Nat):Int)):=by
  intro r
  induction r with
  |nil=>
   intro i a b g t _ _;refine Ej ?_;unfold F_an;simp only[QU g t,cond_false,XR];refine(Qa _).eq ?_;simp[hPs,szPs]
  |cons p r q=>
   intro i a b g t y j;obtain⟨d,e⟩:=Qp (by omega) g;obtain⟨R,N⟩:=Yi (L p d.mem);have O:=Je d.mem;have f:=Qjj d.mem;rw[YR]at O;have B:=Y2 r;rw[szPs,YR,X9]at j;have step:Ev (λn=>F_an n l (k:Int) (F_c n) ((a:Int),(b:Int),(i:Int))) (.cont (((max a (hP p):Nat):Int),((b+szPs p.Parts:Nat):Int),((i+1:Nat):Int))):=by
    unfold F_an;simp only[d.lt,cond_true,d.ix,XR,d.nx,QaC];rw[Ql0]at f⊢;cases w:p.Parts.isEmpty with
    |true=>
     have E:p.Parts=[]:=by simpa using w
     simp only[cond_true,XR];rw[E];simp only[szPs,XD,Nat.max_zero];exact Qa _
    |false=>
     rw[w]at f;simp only[cond_false]at f⊢;have z:0<k:=by omega
     have J:IntKind.i64.wrap ((k:Int)-1)=((k-1:Nat):Int):=by rw[Qu (by omega) (by omega)];omega
     have H:((k:Int)==0)=false:=beq_false_of_ne (by omega);rw[H,QD (show¬(256:Int)<(b:Int)by omega),J];simp only[cond_false,XR];refine Ea (Ea (M (szPs p.Parts) (by omega) p.Parts (k-1) (X2 _) (by omega) (by omega) (by omega) N) (Qa _)) ((Qa _).eq ?_);have G:IntKind.i64.wrap ((hPs p.Parts:Int)+1)=((hPs p.Parts+1:Nat):Int):=YQ (by omega);have F:IntKind.i64.wrap ((b:Int)+(szPs p.Parts:Int))=((b+szPs p.Parts:Nat):Int):=by rw[Qu (by omega) (by omega)];omega
     simp only[G,F];congr 2;split<;>omega
   refine(Ew step (q (i+1) _ _ e (by have:=d.lt';omega) (by omega) (by omega))).eq ?_;rw[hPs,szPs,YR,X9];congr 1<;>omega
 refine Ea ((loop l 0 0 l.length rfl (X3 _) (by omega) (by omega)).ev) ((Qa _).eq ?_);congr 1<;>omega
def repS:Nat->List Int->List Int->List Int
 |0,out,_=>out
 |k+1,out,lap=>if 256<out.length then out else repS k (out++lap) lap
mutual
def lapS:Part->List Int
 |⟨m,laps,ps⟩=>bif decide (0<laps)then expS [] ps else[m]
def expS:List Int->List Part->List Int
 |out,[]=>out
 |out,p::r=>expS (repS (p.Laps.toNat+(bif decide (0<p.Laps)then 0 else 1)) out (lapS p)) r
end
theorem QbW(p:Part):lapS p=bif decide (0<p.Laps)then expS [] p.Parts else[p.Mat]:=by cases p;rfl
theorem Qcy{k:Nat}{a b:List Int}(h:256<a.length):repS k a b=a:=by
 cases k with
 |zero=>rfl
 |succ k=>rw[repS,if_pos h]
theorem QeO:∀(l:List Part) {out:List Int},256<out.length->expS out l=out
 |[],out,h=>by rw[expS]
 |p::r,out,h=>by rw[expS,Qcy h];exact QeO r h
theorem Qcx:∀(k:Nat) (out lap:List Int),(repS k out lap).length<=max out.length (256+lap.length)
 |0,out,lap=>by rw[repS];omega
 |k+1,out,lap=>by
  rw[repS];split
  .omega
  .have:=Qcx k (out++lap) lap;rw[Vb]at this;omega
theorem QeN:∀(m:Nat) (l:List Part) (a:List Int),szPs l<=m->(expS a l).length<=max a.length (256+257*szPs l):=by
 intro m
 induction m using Nat.strongRecOn with
 |_ m i=>
 intro l;have b:∀p∈l,szPs l<=m->(lapS p).length<=257*szP p:=by
  intro p d g;have n:=Je d;rw[QbW,YR]at*;cases decide (0<p.Laps)with
  |true=>
   have:=i (szPs p.Parts) (by omega) p.Parts [] (X2 _);simp only[cond_true,List.length_nil]at this⊢;omega
  |false=>simp;omega
 have e:∀(r:List Part) (a:List Int),(∀p∈r,(lapS p).length<=257*szP p)->(expS a r).length<=max a.length (256+257*szPs r):=by
  intro r
  induction r with
  |nil=>intro a _;rw[expS];omega
  |cons p r f=>
   intro a h;rw[expS,szPs];have k:=f (repS (p.Laps.toNat+(bif decide (0<p.Laps)then 0 else 1)) a (lapS p)) λq j=>h q (by simp[j]);have t:=Qcx (p.Laps.toNat+(bif decide (0<p.Laps)then 0 else 1)) a (lapS p);have s:=h p (by simp);omega
 intro a g;exact e l a λp d=>b p d g
theorem Qhl(p:Part):(lapS p).length<=257*szP p:=by
 rw[QbW,YR];cases decide (0<p.Laps)with
 |true=>
  have:=QeN _ p.Parts [] (X2 _);simp only[cond_true,List.length_nil]at this⊢;omega
 |false=>simp;omega
theorem Qkp(W:Int):∀(m:Nat) (l:List Part),szPs l<=m->szPs l<=256->l.length<=1048576->(∀x∈l,Part.wf x)->partsS W l=true->Ev (λn=>F_t n l) (expS [] l):=by
 intro m
 induction m using Nat.strongRecOn with
 |_ m Y=>
 intro l hm L hl X T;rw[QaZ,Xx]at T;refine Yf ?_;show Ev (λn=>B_t (F_t n) n l) _;unfold B_t;have inner:∀(p:Part) (e:List Int) (g:p.Laps=0\/0<p.Laps/\p.Laps<=64) (F:e.length<=100000) (j:Nat) (k:Nat) (a:List Int),j+k=p.Laps.toNat+(bif decide (0<p.Laps)then 0 else 1)->a.length<=200000->
   ∃d:Ctl (List Int) (Ctl ((List Int)×Int) (Ctl (List Int) (List Int))),EvI (λn=>F_gv n p e) (a,(j:Int)) d/\
    (d=.cont (repS k a e)\/(256<(repS k a e).length/\d=.done (.done (.done (repS k a e))))):=by
  intro p e g F j k
  induction k generalizing j with
  |zero=>
   intro a f _;refine⟨_,Ej (b:=.cont a) ?_,.inl rfl⟩;unfold F_gv;have:¬((j:Int)<if p.Laps<1 then 1 else p.Laps):=by
    rcases g with h|⟨h,O⟩
    .rw[h]at f⊢;simp at f⊢;omega
    .rw[QN h]at f;simp at f;rw[if_neg (by omega)];omega
   rw[QD this];exact Qa _
  |succ k M=>
   intro a f z;have w:((j:Int)<if p.Laps<1 then 1 else p.Laps):=by
    rcases g with h|⟨h,O⟩
    .rw[h]at f⊢;simp at f⊢;omega
    .rw[QN h]at f;simp at f;rw[if_neg (by omega)];omega
   have R:j<=64:=by
    rcases g with h|⟨h,O⟩
    .rw[h]at f;simp at f;omega
    .rw[QN h]at f;simp at f;omega
   by_cases u:256<a.length
   .refine⟨_,Ej (b:=.done (.done (.done a))) ?_,.inr ⟨by rw[Qcy u];exact u,by rw[Qcy u]⟩⟩;unfold F_gv;rw[QN w,QN (show(256:Int)<(a.length:Int)by omega)];exact Qa _
   .obtain⟨d,s,y⟩:=M (j+1) (a++e) (by omega) (by rw[Vb];omega);refine⟨d,Ew ?_ s,by rw[repS,if_neg u];exact y⟩;unfold F_gv;rw[QN w,QD (show¬(256:Int)<(a.length:Int)by omega)];refine Qga (QK (Jz (QcL a e (by omega)) ?_));rw[YQ (by omega)];exact Qa _
 have loop:∀(r:List Part) (i:Nat) (a:List Int),l.drop i=r->i<=l.length->a.length<=100000->
   ∃d:Ctl (List Int) (List Int),EvI (λn=>F_gc n l (F_t n)) (a,(i:Int)) d/\(d=.cont (expS a r)\/d=.done (expS a r)):=by
  intro r
  induction r with
  |nil=>
   intro i a J P _;refine⟨.cont a,Ej ?_,.inl (by rw[expS])⟩;unfold F_gc;simp only[QU J P,cond_false];exact Qa _
  |cons p r N=>
   intro i a J P z;obtain⟨q,G⟩:=Qp (by omega) J;have w:=q.lt';have hs:=Je q.mem;obtain⟨w1,w2⟩:=Yi (X p q.mem);have g:=T p q.mem;rw[QbI]at g;have t:p.Laps=0\/0<p.Laps/\p.Laps<=64:=by
    cases Q:(p.Laps==0)with
    |true=>exact .inl (by simpa using Q)
    |false=>
     rw[Q]at g;simp only[cond_false,inR,X5,decide_eq_true_eq]at g;exact .inr ⟨by omega,by omega⟩
   have V:=Qhl p;have u:Ev (λn=>((bif decide (0<p.Laps)then(F_t n p.Parts).bind λH=>some H else some [p.Mat]):Option (List Int))) (lapS p):=by
    rw[QbW];refine YE (λh=>?_) (λ_=>Qa _);rw[YR]at hs;refine Ea (Y (szPs p.Parts) (by omega) p.Parts (X2 _) (by omega) w1 w2 ?_) (Qa _);have:(p.Laps==0)=false:=by
     simp only[decide_eq_true_eq]at h;exact beq_false_of_ne (by omega)
    rw[this]at g;simp only[cond_false,X5]at g;exact g.2.2.2
   obtain⟨d,s,y⟩:=inner p (lapS p) t (by omega) 0 _ a (XC _) (by omega);rw[expS];rcases y with rfl|⟨B,rfl⟩
   .obtain⟨E,q1,q2⟩:=N (i+1) (repS (p.Laps.toNat+(bif decide (0<p.Laps)then 0 else 1)) a (lapS p)) G (by omega) (by
     have:=Qcx (p.Laps.toNat+(bif decide (0<p.Laps)then 0 else 1)) a (lapS p);omega)
    refine⟨E,Ew ?_ q1,q2⟩;unfold F_gc;simp only[q.lt,cond_true,q.ix,XR,q.nx];exact Ea u (Ea s.ev (Qa _))
   .refine⟨.done (repS (p.Laps.toNat+(bif decide (0<p.Laps)then 0 else 1)) a (lapS p)),Ej ?_,.inr (by rw[QeO r B])⟩;unfold F_gc;simp only[q.lt,cond_true,q.ix,XR,q.nx];exact Ea u (Ea s.ev (Qa _))
 obtain⟨d,s,y⟩:=loop l 0 [] rfl (X3 _) (by simp);rcases y with rfl|rfl
 .exact Ea s.ev (Qa _)
 .exact Ea s.ev (Qa _)
theorem QgA(M:Int):∀(m:Nat) (l:List Part),szPs l<=m->szPs l<=256->l.length<=1048576->(∀x∈l,Part.wf x)->partsS M l=true->Ev (λn=>F_u n l) (expS [] l):=by
 intro m
 induction m using Nat.strongRecOn with
 |_ m O=>
 intro l W y V N G;rw[QaZ,Xx]at G;refine Yf ?_;show Ev (λn=>B_u (F_u n) n l) _;unfold B_u;have inner:∀(p:Part) (i:Nat) (d:At l i p) (H:List Int) (e:List Int) (f:0<p.Laps/\p.Laps<=64) (q:e.length<=100000) (j:Nat) (k:Nat) (a:List Int),j+k=p.Laps.toNat->a.length<=200000->
   EvI (λn=>F_gu n l (H,(i:Int)) e) (a,(j:Int)) (repS k a e):=by
  intro p i d H e f q j k
  induction k generalizing j with
  |zero=>
   intro a J _;refine Ej ?_;unfold F_gu;simp only[d.ix,XR];rw[QD (show¬(j:Int)<p.Laps by omega)];exact Qa _
  |succ k z=>
   intro a J g;by_cases h:256<a.length
   .refine Ej ?_;rw[Qcy h];unfold F_gu;simp only[d.ix,XR];rw[QN (show(j:Int)<p.Laps by omega),QD (show¬(a.length:Int)<=256 by omega)];exact Qa _
   .rw[repS,if_neg h];refine Ew ?_ (z (j+1) (a++e) (by omega) (by rw[Vb];omega));unfold F_gu;simp only[d.ix,XR];rw[QN (show(j:Int)<p.Laps by omega),QN (show(a.length:Int)<=256 by omega)];simp only[cond_true,XR];refine Jz (QcL a e (by omega)) ?_;rw[YQ (by omega)];exact Qa _
 have loop:∀(r:List Part) (i:Nat) (a:List Int),l.drop i=r->i<=l.length->a.length<=100000->
   EvI (λn=>F_hv n l (F_u n)) (a,(i:Int)) (expS a r):=by
  intro r
  induction r with
  |nil=>
   intro i a w E _;refine Ej ?_;rw[expS];unfold F_hv;simp only[QU w E,cond_false,XR];exact Qa _
  |cons p r B=>
   intro i a w E g;obtain⟨d,t⟩:=Qp (by omega) w;have T:=d.lt';have R:=Je d.mem;by_cases h:256<a.length
   .rw[QeO _ h];refine Ej ?_;unfold F_hv;simp only[d.lt,cond_true,QD (show¬(a.length:Int)<=256 by omega),XR,cond_false];exact Qa _
   obtain⟨P,Q⟩:=Yi (N p d.mem);have f:=G p d.mem;rw[QbI]at f;have u:=Qhl p;rw[expS];refine Ew ?_ (B (i+1) _ t (by omega) (by
    have:=Qcx (p.Laps.toNat+(bif decide (0<p.Laps)then 0 else 1)) a (lapS p);omega))
   unfold F_hv;simp only[d.lt,cond_true,QN (show(a.length:Int)<=256 by omega),XR,d.ix,d.nx];cases F:(p.Laps==0)with
   |true=>
    have L:p.Laps=0:=by simpa using F
    simp only[cond_true];refine Ea (Jz (QcL a [p.Mat] (by simp;omega)) (Qa _)) ((Qa _).eq ?_);rw[QbW,L];simp[repS,h]
   |false=>
    rw[F]at f;simp only[cond_false,X5,inR,decide_eq_true_eq]at f;have b:0<p.Laps/\p.Laps<=64:=⟨by omega,by omega⟩;simp only[cond_false];rw[YR]at R;refine Ea (Ea (O (szPs p.Parts) (by omega) p.Parts (X2 _) (by omega) P Q f.2.2.2) (Ea ?_ (Qa _))) (Qa _);have s:=QbW p;rw[QN b.1,cond_true]at s;have:=(inner p i d a (expS [] p.Parts) b (by rw[<- s];rw[YR]at u;omega) 0 p.Laps.toNat a (by omega) (by omega)).ev;rw[<- s]at this⊢;rw[QN b.1];exact this
 exact Ea (loop l 0 [] rfl (X3 _) (by simp)).ev (Qa _)
def kindAt(c:Course)(m:Int):Int:=((c.Mats[m.toNat]?).map (·.Kind)).getD 0
def hasLeg(c:Course)(a b:Int):Bool:=c.Legs.any λl=>(l.From==a)&&(l.To==b)
def rokS(c:Course)(len:Nat):Nat->Int->List Int->Bool
 |_,_,[]=>true
 |i,prev,m::r=>((kindAt c m==1)==decide (i=0))&&(((kindAt c m==3)==decide (i+1=len))&&((decide (i=0)||hasLeg c prev m)&&rokS c len (i+1) m r))
def routeR(c:Course)(d:Distance)(r:List Int):Bool:=
 (decide (2<=r.length)&&decide (r.length<=256))&&(rokS c r.length 0 0 r&&((bif decide (0<=d.Extra)then !((r.count d.Extra:Int)==0)&&((kindAt c d.Extra==2)&&hasLeg c d.Extra d.Extra)else true)&&d.Cutoffs.all λx=>decide (x.Lap<=(r.count x.Mat:Int))))
def routeS(c:Course)(d:Distance):Bool:=routeR c d (expS [] d.Route)
def cntM(l:List Int):List (Int×Int):=l.foldl (λm k=>Q5 m k (QI m k 0+1)) []
theorem Qkv(l:List Int)(k:Int):cntM (l++[k])=Q5 (cntM l) k (QI (cntM l) k 0+1):=by unfold cntM;rw[XK];rfl
theorem Qe0(l:List Int)(k:Int):QI (cntM l) k 0=(l.count k:Int):=by
 have a:∀(l:List Int) (m:List (Int×Int)),QI (l.foldl (λm k=>Q5 m k (QI m k 0+1)) m) k 0=QI m k 0+(l.count k:Int):=by
  intro l
  induction l with
  |nil=>intro m;simp
  |cons x l b=>
   intro m;rw[XL,b,Qce,List.count_cons];by_cases h:k=x
   .subst h;simp;omega
   .have:(x==k)=false:=beq_false_of_ne λe=>h e.symm;simp[h,this]
 have:=a l [];simpa[cntM,Qj7]using this
theorem Qil(d:Int):∀(m:Nat) (l:List Part) (a:List Int),szPs l<=m->partsS d l=true->(∀x∈a,0<=x/\x<=d)->∀x∈expS a l,0<=x/\x<=d:=by
 intro m
 induction m using Nat.strongRecOn with
 |_ m y=>
 intro l;have s:∀(k:Nat) (a b:List Int),(∀x∈a,0<=x/\x<=d)->(∀x∈b,0<=x/\x<=d)->∀x∈repS k a b,0<=x/\x<=d:=by
  intro k
  induction k with
  |zero=>intro a b f _;rw[repS];exact f
  |succ k j=>
   intro a b f w;rw[repS];split
   .exact f
   .refine j _ _ ?_ w;intro x i;rcases List.mem_append.1 i with h|h
    .exact f x h
    .exact w x h
 have q:∀(r:List Part) (a:List Int),szPs r<=m->partsS d r=true->(∀x∈a,0<=x/\x<=d)->∀x∈expS a r,0<=x/\x<=d:=by
  intro r
  induction r with
  |nil=>intro a _ _ h;rw[expS];exact h
  |cons p r u=>
   intro a n g h;rw[szPs,YR]at n;rw[partsS,X5]at g;obtain⟨e,z⟩:=g;rw[expS];refine u _ (by omega) z (s _ _ _ h ?_);rw[QbW];rw[QbI]at e;cases t:(p.Laps==0)with
   |true=>
    have B:p.Laps=0:=by simpa using t
    rw[t,cond_true,X5]at e;have:=e.1;unfold inR at this;simp only[X5,decide_eq_true_eq]at this;rw[B];intro x i;simp at i;subst i;exact this
   |false=>
    rw[t]at e;simp only[cond_false,X5,inR,decide_eq_true_eq]at e;rw[QN (show 0<p.Laps by omega),cond_true];exact y (szPs p.Parts) (by omega) p.Parts [] (X2 _) e.2.2.2 (by simp)
 exact λa n g h=>q l a n g h
theorem QcD{c:Course}{m:Int}(h0:0<=m)(b:m<=(c.Mats.length:Int)-1):∃x:Mat,idx c.Mats m=some x/\x.Kind=kindAt c m:=by
 obtain⟨k,rfl⟩:∃k:Nat,m=(k:Int):=⟨m.toNat,by omega⟩;have a:k<c.Mats.length:=by omega
 refine⟨c.Mats[k],Qq (XS a),?_⟩;unfold kindAt;rw[Int.toNat_natCast,XS a];rfl
theorem Qhk(c:Course)(a b:Int):QI (Yo legKey true c.Legs) {from_:=a,to_:=b} false=hasLeg c a b:=by
 rw[Qdu];unfold hasLeg;by_cases h:({from_:=a,to_:=b}:typing_ends)∈c.Legs.map legKey
 .rw[if_pos h];obtain⟨l,d,e⟩:=Xf.1 h;unfold legKey at e;obtain⟨g,f⟩:=ends_eq.1 e;exact(Xy.2 ⟨l,d,by simp[g,f]⟩).symm
 .rw[if_neg h]
  symm
  rw[Bool.eq_false_iff];intro q;obtain⟨l,d,e⟩:=Xy.1 q;simp only[X5,beq_iff_eq]at e;exact h (Xf.2 ⟨l,d,by unfold legKey;rw[e.1,e.2]⟩)
theorem Qmz(c:Course)(w:CourseOk c)(a b:Int):∃v:Int,Ev (λn=>F_ai n c a b) v/\decide (v<0)= !hasLeg c a b:=by
 unfold F_ai;have t:c.Legs.length<=4611686018427387904:=by have:=w.legs;omega
 have step:∀i x,At c.Legs i x->Ev (λn:Nat=>F_hw n c a b (i:Int)) (bif (x.From==a)&&(x.To==b)then .done (.done (i:Int))else .cont ((i+1:Nat):Int)):=by
  intro i x e;unfold F_hw;simp only[e.lt,cond_true,e.ix,XR,e.nx];refine Ea (Ei λ_=>Qa _) ?_;cases((x.From==a)&&(x.To==b))<;>exact Qa _
 have loop:∀(r:List Leg) (i:Nat),c.Legs.drop i=r->i<=c.Legs.length->∃d:Ctl Unit Int,EvI (λn=>F_hw n c a b) (i:Int) d/\((r.any λl=>(l.From==a)&&(l.To==b))=true->∃j:Nat,d=.done (j:Int))/\((r.any λl=>(l.From==a)&&(l.To==b))=false->d=.cont ()):=by
  intro r
  induction r with
  |nil=>
   intro i k p;refine⟨.cont (),Ej ?_,λh=>(by simp at h),λ_=>rfl⟩;unfold F_hw;simp only[QU k p,cond_false];exact Qa _
  |cons x r q=>
   intro i k p;obtain⟨e,g⟩:=Qp t k;have s:=step i x e;rw[List.any_cons];cases h:((x.From==a)&&(x.To==b))with
   |true=>
    rw[h]at s;exact⟨.done (i:Int),Ej s,λ_=>⟨i,rfl⟩,λh=>by simp at h⟩
   |false=>
    rw[h]at s;obtain⟨d,f,m⟩:=q (i+1) g (by have:=e.lt';omega);exact⟨d,Ew s f,by simpa using m⟩
 obtain⟨d,f,m,u⟩:=loop c.Legs 0 rfl (X3 _);unfold hasLeg;cases h:c.Legs.any λl=>(l.From==a)&&(l.To==b)with
 |true=>
  obtain⟨j,rfl⟩:=m h;exact⟨(j:Int),Ea f.ev (Qa _),by simp⟩
 |false=>
  obtain rfl:=u h;exact⟨-1,Ea f.ev (Qa _),by simp⟩
theorem QhK(l:List Int)(k:Int)(q:l.length<=1048576):Ev (λn=>F_am n l k) (l.count k:Int):=by
 unfold F_am;have loop:∀(r:List Int) (i:Nat) (a:Nat),l.drop i=r->i<=l.length->a<=i->EvI (λn=>F_gw n l k) ((a:Int),(i:Int)) ((a+r.count k:Nat):Int):=by
  intro r
  induction r with
  |nil=>
   intro i a e f _;refine Ej ?_;unfold F_gw;simp only[QU e f,cond_false];exact Qa _
  |cons x r g=>
   intro i a e f p;obtain⟨b,d⟩:=Qp (by omega) e;have j:=b.lt';have m:IntKind.i64.wrap ((a:Int)+1)=((a+1:Nat):Int):=YQ (by omega);rw[List.count_cons];cases h:(x==k)with
   |true=>
    refine(Ew ?_ (g (i+1) (a+1) d (by omega) (by omega))).eq ?_
    .unfold F_gw;simp only[b.lt,cond_true,b.ix,XR,b.nx,h,m];exact Qa _
    .simp;omega
   |false=>
    refine(Ew ?_ (g (i+1) a d (by omega) (by omega))).eq ?_
    .unfold F_gw;simp only[b.lt,cond_true,b.ix,XR,b.nx,h,cond_false];exact Qa _
    .simp
 exact Ea ((loop l 0 0 rfl (X3 _) (X2 _)).ev) ((Qa _).eq (by omega))
structure NumOk (c:Course):Prop where
 kinds:∀m∈c.Mats,1<=m.Kind/\m.Kind<=3
 dist:∀d∈c.Distances,-1<=d.Extra/\d.Extra<=(c.Mats.length:Int)-1/\partsS ((c.Mats.length:Int)-1) d.Route=true
theorem Qh5{c:Course}(h:numbersS c=true):NumOk c:=by
 unfold numbersS at h;simp only[X5,Xx]at h;refine⟨λm b=>?_,λd f=>?_⟩
 .have:=h.1 m b;unfold inR at this;simpa using this
 .have:=h.2.2.2.1 d f;unfold distS at this;simp only[X5]at this;obtain⟨_,a,e,_⟩:=this;unfold inR at a;simp only[X5,decide_eq_true_eq]at a;exact⟨a.1,a.2,e⟩
theorem Qj9{c:Course}(q:NumOk c){m:Int}(h0:0<=m)(a:m<=(c.Mats.length:Int)-1):1<=kindAt c m/\kindAt c m<=3:=by
 obtain⟨x,d,b⟩:=QcD h0 a;have:x∈c.Mats:=by
  obtain⟨_,e⟩:=QaV d;exact List.mem_of_getElem? e
 rw[<- b];exact q.kinds x this
theorem Ql9{c:Course}(q:NumOk c){d:Distance}(hd:d∈c.Distances):∀x∈expS [] d.Route,0<=x/\x<=(c.Mats.length:Int)-1:=
 Qil _ _ d.Route [] (X2 _) (q.dist d hd).2.2 (by simp)
theorem Qg9(c:Course)(len i:Nat)(prev m:Int)(r:List Int):rokS c len i prev (m::r)=(((kindAt c m==1)==decide (i=0))&&(((kindAt c m==3)==decide (i+1=len))&&((decide (i=0)||hasLeg c prev m)&&rokS c len (i+1) m r))):=rfl
theorem Qjf(i:Nat):((i:Int)==0)=decide (i=0):=by
 rw[X7];simp
theorem Qfs(c:Course)(r:List Int)(B:2<=r.length)(R:r.length<=256)(J:∀x∈r,0<=x/\x<=(c.Mats.length:Int)-1):
  Ev (λn=>iter (F_cl n c (Yo legKey true c.Legs) r) n ([],0)) (bif rokS c r.length 0 0 r then .cont (cntM r)else .done false):=by
 have loop:∀(t:List Int) (i:Nat) (b:Int),r.drop i=t->i<=r.length->(0<i->At r (i-1) b)->EvI (λn=>F_cl n c (Yo legKey true c.Legs) r) (cntM (r.take i),(i:Int)) (bif rokS c r.length i b t then .cont (cntM r)else .done false):=by
  intro t
  induction t with
  |nil=>
   intro i b f q _;refine Ej ?_;unfold F_cl;simp only[QU f q,cond_false,rokS,cond_true];have:r.length<=i:=by simpa using f
   rw[List.take_of_length_le this];exact Qa _
  |cons m t O=>
   intro i b f q P;obtain⟨d,k⟩:=Qp (by omega) f;have Q:=d.lt';obtain⟨E,F⟩:=J m d.mem;obtain⟨x,N,M⟩:=QcD E F;have L:IntKind.i64.wrap ((r.length:Int)-1)=((r.length-1:Nat):Int):=by rw[Qu (by omega) (by omega)];omega
   have G:((i:Int)==((r.length-1:Nat):Int))=decide (i+1=r.length):=by rw[X7];simp;omega
   have z:Ev (λn:Nat=>((bif ((x.Kind==1) != ((i:Int)==0))then some true else(bif ((x.Kind==3) != ((i:Int)==(IntKind.i64.wrap ((r.length:Int)-1))))then some true else(bif decide (0<(i:Int))then(idx r (IntKind.i64.wrap ((i:Int)-1))).bind λp=>(some (QI (Yo legKey true c.Legs) ({from_:=p,to_:=m:typing_ends}) false)).bind λg=>some (!g)else some false))):Option Bool))
     (!(((kindAt c m==1)==decide (i=0))&&(((kindAt c m==3)==decide (i+1=r.length))&&(decide (i=0)||hasLeg c b m)))):=by
    rw[M,L,G,Qjf];refine Eu (Qf λ_=>Qf λ_=>YE (v:= !hasLeg c b m) (w:=false) (λh=>?_) λ_=>Qa _) ?_
    .have j:0<i:=by simpa using h
     have y:IntKind.i64.wrap ((i:Int)-1)=((i-1:Nat):Int):=by rw[Qu (by omega) (by omega)];omega
     rw[y,(P j).ix];simp only[XR,Qhk];exact Qa _
    .have H:decide (0<(i:Int))= !decide (i=0):=by rw[X7];simp;omega
     rw[H];cases(kindAt c m==1)<;>cases decide (i=0)<;>cases(kindAt c m==3)<;>cases decide (i+1=r.length)<;>cases hasLeg c b m<;>rfl
   have e:IntKind.i64.wrap (QI (cntM (r.take i)) m 0+1)=QI (cntM (r.take i)) m 0+1:=by
    rw[Qe0];have:(r.take i).count m<=i:=by have:=List.count_le_length (a:=m) (l:=r.take i);simp at this;omega
    exact Qu (by omega) (by omega)
   have step:Ev (λn=>F_cl n c (Yo legKey true c.Legs) r (cntM (r.take i),(i:Int))) (bif ((kindAt c m==1)==decide (i=0))&&(((kindAt c m==3)==decide (i+1=r.length))&&(decide (i=0)||hasLeg c b m))then .cont (cntM (r.take (i+1)),((i+1:Nat):Int))else .done (.done false)):=by
    unfold F_cl;simp only[d.lt,cond_true,d.ix,XR,d.nx,N];refine Ea z ?_;rw[e, <- Qkv, <- d.take];cases(((kindAt c m==1)==decide (i=0))&&(((kindAt c m==3)==decide (i+1=r.length))&&(decide (i=0)||hasLeg c b m)))<;>exact Qa _
   have u:rokS c r.length i b (m::t)=((((kindAt c m==1)==decide (i=0))&&(((kindAt c m==3)==decide (i+1=r.length))&&(decide (i=0)||hasLeg c b m)))&&rokS c r.length (i+1) m t):=by rw[Qg9];simp only[Bool.and_assoc]
   rw[u];cases s:(((kindAt c m==1)==decide (i=0))&&(((kindAt c m==3)==decide (i+1=r.length))&&(decide (i=0)||hasLeg c b m)))with
   |false=>
    rw[s]at step;exact Ej step
   |true=>
    rw[s]at step;rw[Bool.true_and];exact Ew step (O (i+1) m k (by omega) (λ_=>by simpa using d))
 exact(loop r 0 0 rfl (X3 _) (by omega)).ev
theorem QiA(c:Course)(w:CourseOk c)(q:NumOk c)(d:Distance)(b:d∈c.Distances)(l:∀x∈d.Route,Part.wf x)(s:szPs d.Route<=256):
  Ev (λn=>F_ex n c d (Yo legKey true c.Legs)) (routeS c d):=by
 have i:=Y2 d.Route;have j:=Ql9 q b;have a:=QeN _ d.Route [] (X2 _);unfold F_ex routeS;refine Ea (Qkp _ _ d.Route (X2 _) s (by omega) l (q.dist d b).2.2) ?_;generalize expS [] d.Route=r at j a⊢;unfold routeR;have k:IntKind.i64.wrap ((r.length:Int)-1)=(r.length:Int)-1:=by
  have:r.length<=1048576:=by simp at a;omega
  exact QaA this
 rw[k];have t:(decide ((r.length:Int)-1<1)||decide (256<=(r.length:Int)-1))= !(decide (2<=r.length)&&decide (r.length<=256)):=by
  rw[X7];simp;omega
 refine Ea (Eu (Qf λ_=>Qa _) t) ?_;cases f:(decide (2<=r.length)&&decide (r.length<=256))with
 |false=>exact Qa _
 |true=>
  simp only[X5,decide_eq_true_eq]at f;rw[Bool.true_and];refine QK (Ea (Qfs c r f.1 f.2 j) ?_);cases rokS c r.length 0 0 r with
  |false=>exact Qa _
  |true=>
   simp only[cond_true,Bool.true_and];have z:Ev (λn:Nat=>((bif decide (0<=d.Extra)then(some (QI (cntM r) d.Extra 0)).bind λh=>(bif (h==0)then some true else(idx c.Mats d.Extra).bind λg=>(bif (g.Kind != 2)then some true else(some (QI (Yo legKey true c.Legs) ({from_:=d.Extra,to_:=d.Extra:typing_ends}) false)).bind λe=>some (!e)))else some false):Option Bool))
     (!(bif decide (0<=d.Extra)then !((r.count d.Extra:Int)==0)&&((kindAt c d.Extra==2)&&hasLeg c d.Extra d.Extra)else true)):=by
    rw[Qe0];cases u:decide (0<=d.Extra)with
    |false=>exact Qa _
    |true=>
     obtain⟨x,y,p⟩:=QcD (c:=c) (m:=d.Extra) (by simpa using u) (q.dist d b).2.1;simp only[cond_true,XR,y,Qhk,p];refine Eu (Qf λ_=>Qf λ_=>Qa _) ?_;rw[bne];cases((r.count d.Extra:Int)==0)<;>cases(kindAt c d.Extra==2)<;>cases hasLeg c d.Extra d.Extra<;>rfl
   refine Ea z ?_;cases(bif decide (0<=d.Extra)then !((r.count d.Extra:Int)==0)&&((kindAt c d.Extra==2)&&hasLeg c d.Extra d.Extra)else true)with
   |false=>exact Qa _
   |true=>
    rw[Bool.true_and];refine QK (Ea ?_ (Qa _));unfold F_gd F_ik F_hs;refine Jj d.Cutoffs _ (λn x=>F_eo n x (cntM r)) (by have:=w.cut d b;omega) λx _=>?_;unfold F_eo;rw[Qe0];exact Qa _
theorem QeR(c:Course)(w:CourseOk c)(q:NumOk c)(r:List Int)(J:2<=r.length)(W:r.length<=256)(M:∀x∈r,0<=x/\x<=(c.Mats.length:Int)-1):
  Ev (λn=>iter (F_dj n c r) n 0) (bif rokS c r.length 0 0 r then .cont ()else .done false):=by
 have loop:∀(t:List Int) (i:Nat) (a:Int),r.drop i=t->i<=r.length->(0<i->At r (i-1) a)->EvI (λn=>F_dj n c r) (i:Int) (bif rokS c r.length i a t then .cont ()else .done false):=by
  intro t
  induction t with
  |nil=>
   intro i a l s _;refine Ej ?_;unfold F_dj;simp only[QU l s,cond_false,rokS,cond_true];exact Qa _
  |cons m t Q=>
   intro i a l s R;obtain⟨f,j⟩:=Qp (by omega) l;have T:=f.lt';obtain⟨u,y⟩:=M m f.mem;obtain⟨x,P,O⟩:=QcD u y;have V:=Qj9 q u y;have N:IntKind.i64.wrap ((r.length:Int)-1)=((r.length-1:Nat):Int):=by rw[Qu (by omega) (by omega)];omega
   have L:((i:Int)==((r.length-1:Nat):Int))=decide (i+1=r.length):=by rw[X7];simp;omega
   have step:Ev (λn=>F_dj n c r (i:Int)) (bif ((kindAt c m==1)==decide (i=0))&&(((kindAt c m==3)==decide (i+1=r.length))&&(decide (i=0)||hasLeg c a m))then .cont ((i+1:Nat):Int)else .done (.done false)):=by
    unfold F_dj;simp only[f.lt,cond_true,f.ix,XR,f.nx,P,O,N,L,Qjf];refine Ea (v:=if i=0 then 1 else if i+1=r.length then 3 else 2) (EA ?_) ?_
    .by_cases d:i=0
     .simp[d]
     .by_cases e:i+1=r.length
      .simp[d,e]
      .simp[d,e]
    refine Ea (v:= !(((kindAt c m==1)==decide (i=0))&&(((kindAt c m==3)==decide (i+1=r.length))&&(decide (i=0)||hasLeg c a m)))) ?_ ?_
    .have H:Ev (λn:Nat=>(bif decide (0<(i:Int))then(idx r (IntKind.i64.wrap ((i:Int)-1))).bind λp=>(F_ai n c p m).bind λh=>some (decide (h<0))else some false:Option Bool)) (!(decide (i=0)||hasLeg c a m)):=by
      by_cases d:i=0
      .subst d;exact Qa _
      .have G:IntKind.i64.wrap ((i:Int)-1)=((i-1:Nat):Int):=by rw[Qu (by omega) (by omega)];omega
       obtain⟨v,B,E⟩:=Qmz c w a m;rw[QN (show(0:Int)<(i:Int)by omega),G,(R (by omega)).ix,QD d];simp only[cond_true,XR];exact Ea B ((Qa _).eq (by rw[E];rfl))
     refine Eu (Qf λ_=>H) ?_;have k:(kindAt c m != if i=0 then 1 else if i+1=r.length then 3 else 2)= !(((kindAt c m==1)==decide (i=0))&&((kindAt c m==3)==decide (i+1=r.length))):=by
      have b:kindAt c m=1\/kindAt c m=2\/kindAt c m=3:=by omega
      by_cases d:i=0
      .have e:¬i+1=r.length:=by omega
       rcases b with g|g|g<;>simp[g,d,show¬1=r.length by omega]
      .by_cases e:i+1=r.length
       .rcases b with g|g|g<;>simp[g,d,e]
       .rcases b with g|g|g<;>simp[g,d,e]
     rw[k];cases((kindAt c m==1)==decide (i=0))<;>cases((kindAt c m==3)==decide (i+1=r.length))<;>cases(decide (i=0)||hasLeg c a m)<;>rfl
    .cases(((kindAt c m==1)==decide (i=0))&&(((kindAt c m==3)==decide (i+1=r.length))&&(decide (i=0)||hasLeg c a m)))<;>exact Qa _
   have F:rokS c r.length i a (m::t)=((((kindAt c m==1)==decide (i=0))&&(((kindAt c m==3)==decide (i+1=r.length))&&(decide (i=0)||hasLeg c a m)))&&rokS c r.length (i+1) m t):=by rw[Qg9];simp only[Bool.and_assoc]
   rw[F];cases z:(((kindAt c m==1)==decide (i=0))&&(((kindAt c m==3)==decide (i+1=r.length))&&(decide (i=0)||hasLeg c a m)))with
   |false=>
    rw[z]at step;exact Ej step
   |true=>
    rw[z]at step;rw[Bool.true_and];exact Ew step (Q (i+1) m j (by omega) (λ_=>by simpa using f))
 exact(loop r 0 0 rfl (X3 _) (by omega)).ev
theorem QhF(c:Course)(w:CourseOk c)(q:NumOk c)(d:Distance)(a:d∈c.Distances)(B:∀x∈d.Route,Part.wf x)(E:szPs d.Route<=256):
  Ev (λn=>F_eh n c d) (routeS c d):=by
 have p:=Y2 d.Route;have l:=Ql9 q a;have h:=QeN _ d.Route [] (X2 _);unfold F_eh routeS;refine Ea (QgA _ _ d.Route (X2 _) E (by omega) B (q.dist d a).2.2) ?_;generalize expS [] d.Route=r at l h⊢;unfold routeR;have F:(decide ((r.length:Int)<2)||decide (256<(r.length:Int)))= !(decide (2<=r.length)&&decide (r.length<=256)):=by
  rw[X7];simp;omega
 refine Ea (Eu (Qf λ_=>Qa _) F) ?_;cases g:(decide (2<=r.length)&&decide (r.length<=256))with
 |false=>exact Qa _
 |true=>
  simp only[X5,decide_eq_true_eq]at g;rw[Bool.true_and];refine QK (Ea (QeR c w q r g.1 g.2 l) ?_);cases rokS c r.length 0 0 r with
  |false=>exact Qa _
  |true=>
   simp only[cond_true,Bool.true_and];have H:Ev (λn:Nat=>((bif (d.Extra != (-1))then(idx c.Mats d.Extra).bind λf=>(bif (f.Kind != 2)then some true else(F_am n r d.Extra).bind λk=>(bif (k==0)then some true else(F_ai n c d.Extra d.Extra).bind λe=>some (decide (e<0))))else some false):Option Bool))
     (!(bif decide (0<=d.Extra)then !((r.count d.Extra:Int)==0)&&((kindAt c d.Extra==2)&&hasLeg c d.Extra d.Extra)else true)):=by
    have b:=q.dist d a;have z:(d.Extra != (-1))=decide (0<=d.Extra):=by rw[X7];simp;omega
    rw[z];cases G:decide (0<=d.Extra)with
    |false=>exact Qa _
    |true=>
     obtain⟨x,u,s⟩:=QcD (c:=c) (m:=d.Extra) (by simpa using G) b.2.1;obtain⟨v,t,y⟩:=Qmz c w d.Extra d.Extra;simp only[cond_true,XR,u,s];refine Eu (Qf λ_=>Ea (QhK r _ (by omega)) (Qf λ_=>Ea t (Qa _))) ?_;rw[bne,y];cases((r.count d.Extra:Int)==0)<;>cases(kindAt c d.Extra==2)<;>cases hasLeg c d.Extra d.Extra<;>rfl
   refine Ea H ?_;cases(bif decide (0<=d.Extra)then !((r.count d.Extra:Int)==0)&&((kindAt c d.Extra==2)&&hasLeg c d.Extra d.Extra)else true)with
   |false=>exact Qa _
   |true=>
    rw[Bool.true_and];refine QK (Ea (QL d.Cutoffs (λx=>decide (x.Lap<=(r.count x.Mat:Int))) (Ctl.done false) (Ctl.cont ()) (by have:=w.cut d a;omega) (λi x j=>?_) ?_) ?_)
    .unfold F_mv;simp only[j.lt,cond_true,j.ix,XR,j.nx];refine Ea (QhK r _ (by omega)) ?_;have:decide ((r.count x.Mat:Int)<x.Lap)= !decide (x.Lap<=(r.count x.Mat:Int)):=by rw[X7];simp
     rw[this];cases decide (x.Lap<=(r.count x.Mat:Int))<;>exact Qa _
    .unfold F_mv;simp only[Yt,cond_false];exact Qa _
    .cases(d.Cutoffs.all λx=>decide (x.Lap<=(r.count x.Mat:Int)))<;>exact Qa _
def lensC(c:Course):Nat:=c.Mats.length+c.Legs.length+c.Distances.length+c.Waves.length+c.Offences.length+c.Categories.length+c.Prizes.length
def fewD(d:Distance):Prop:=d.Cutoffs.length<=200/\szPs d.Route<=200/\hPs d.Route<=16
structure FewOk (c:Course):Prop where
 lens:lensC c<=200
 name:c.Name.length<=100
 dist:∀d∈c.Distances,fewD d
 ties:c.Ties.length<=200
def fitsS(c:Course):Bool:=
 !(decide (40<(c.Mats.length:Int))||(decide (512<(c.Legs.length:Int))||(decide (8<(c.Distances.length:Int))||(decide (32<(c.Waves.length:Int))||(decide (32<(c.Offences.length:Int))||(decide (32<(c.Categories.length:Int))||decide (32<(c.Prizes.length:Int))))))))
  &&c.Distances.all λd=> !decide (64<(d.Cutoffs.length:Int))
theorem QnP(c:Course)(w:CourseOk c)(q:PartsOk c)(k:FewOk c):Ev (λn=>F_bf n c) (fitsS c):=by
 unfold F_bf fitsS;refine Ea (Qf λ_=>Qf λ_=>Qf λ_=>Qf λ_=>Qf λ_=>Qf λ_=>Qa _) ?_;cases(decide (40<(c.Mats.length:Int))||(decide (512<(c.Legs.length:Int))||(decide (8<(c.Distances.length:Int))||(decide (32<(c.Waves.length:Int))||(decide (32<(c.Offences.length:Int))||(decide (32<(c.Categories.length:Int))||decide (32<(c.Prizes.length:Int))))))))with
 |true=>exact Qa _
 |false=>
  rw[Xi,Bool.true_and];refine QK (Ea (QL c.Distances (λd=> !decide (64<(d.Cutoffs.length:Int))) (Ctl.done false) (Ctl.cont ()) (by have:=w.dist;omega) (λi x a=>?_) ?_) ?_)
  .obtain⟨f,e,b⟩:=k.dist x a.mem;unfold F_ga;simp only[a.lt,cond_true,a.ix,XR,a.nx];refine Ea (Qmt _ x.Route 17 (X2 _) (by omega) (X2 _) (by omega) (q.wf x a.mem)) ?_;refine Ea (Qf λ_=>Qf λ_=>Qa _) ?_;simp only[QD (show¬(16:Int)<(hPs x.Route:Int)by omega),QD (show¬(256:Int)<(szPs x.Route:Int)by omega),Bool.or_false];cases decide (64<(x.Cutoffs.length:Int))<;>exact Qa _
  .unfold F_ga;simp only[Yt,cond_false];exact Qa _
  .cases(c.Distances.all λd=> !decide (64<(d.Cutoffs.length:Int)))<;>exact Qa _
theorem Qkr(c:Course)(w:CourseOk c)(q:PartsOk c)(k:FewOk c):Ev (λn=>F_ar n c) (fitsS c):=by
 unfold F_ar fitsS;refine Ea (Qf λ_=>Qf λ_=>Qf λ_=>Qf λ_=>Qf λ_=>Qf λ_=>Qa _) ?_;cases(decide (40<(c.Mats.length:Int))||(decide (512<(c.Legs.length:Int))||(decide (8<(c.Distances.length:Int))||(decide (32<(c.Waves.length:Int))||(decide (32<(c.Offences.length:Int))||(decide (32<(c.Categories.length:Int))||decide (32<(c.Prizes.length:Int))))))))with
 |true=>exact Qa _
 |false=>
  rw[Xi,Bool.true_and];refine QK (Ea (QL c.Distances (λd=> !decide (64<(d.Cutoffs.length:Int))) (Ctl.done false) (Ctl.cont ()) (by have:=w.dist;omega) (λi x b=>?_) ?_) ?_)
  .obtain⟨f,h,g⟩:=k.dist x b.mem;have a:=q.len x b.mem;have e:=q.wf x b.mem;unfold F_ic;simp only[b.lt,cond_true,b.ix,XR,b.nx];refine Ea (Qf λ_=>Ea (QdA _ x.Route 17 (X2 _) (X2 _) a e) (Qf λ_=>Ea (QdB _ x.Route (X2 _) a e) (Qa _))) ?_;simp only[QD (show¬(16:Int)<((min (hPs x.Route) 17:Nat):Int)by omega),QD (show¬(256:Int)<((min (szPs x.Route) 257:Nat):Int)by omega),Bool.or_false];cases decide (64<(x.Cutoffs.length:Int))<;>exact Qa _
  .unfold F_ic;simp only[Yt,cond_false];exact Qa _
  .cases(c.Distances.all λd=> !decide (64<(d.Cutoffs.length:Int)))<;>exact Qa _
def courseE(c:Course):Int:=
 bif fitsS c then bif namesS c then bif numbersS c then bif tiesE c.Ties==0 then bif c.Distances.all (routeS c)then 0 else 72 else tiesE c.Ties else 71 else 70 else 2
theorem QfX(c:Course)(w:CourseOk c)(q:PartsOk c)(k:FewOk c)(f:c.Ties.length<=1048576)(g:∀x∈c.Ties,Step.wf x):Ev (λn=>F_w n c) (courseE c):=by
 unfold F_w courseE;refine Ea (QnP c w q k) ?_;cases fitsS c with
 |false=>exact Qa _
 |true=>
 refine QK (Ea (Qmp c w) ?_);cases namesS c with
 |false=>exact Qa _
 |true=>
 refine QK (Ea (Qiy c w q) ?_);cases d:numbersS c with
 |false=>exact Qa _
 |true=>
 refine QK (Ea (QnS c.Ties f g) ?_);rw[bne];cases(tiesE c.Ties==0)with
 |false=>exact Qa _
 |true=>
 have e:Ev (λn=>iter (F_lk n c) n ([],0)) (Yo legKey true c.Legs):=by
  refine Qbr c.Legs legKey true (by have:=w.legs;omega) (λi x m a=>?_) (λm=>?_)
  .unfold F_lk;simp only[a.lt,cond_true,a.ix,XR,a.nx];exact Qa _
  .unfold F_lk;simp only[Yt,cond_false];exact Qa _
 refine QK (Ea e ?_);have a:Ev (λn=>F_cm n c.Distances c (Yo legKey true c.Legs)) (c.Distances.all (routeS c)):=by
  unfold F_cm F_gq F_hq;refine Jj c.Distances _ (λn x=>F_dk n x c (Yo legKey true c.Legs)) (by have:=w.dist;omega) λx b=>?_;unfold F_dk;exact Ea (QiA c w (Qh5 d) x b (q.wf x b) (by have:=(k.dist x b).2.1;omega)) (Qa _)
 refine Ea a ?_;cases c.Distances.all (routeS c)<;>exact Qa _
theorem QgB(c:Course)(w:CourseOk c)(q:PartsOk c)(k:FewOk c)(f:c.Ties.length<=1048576)(g:∀x∈c.Ties,Step.wf x):Ev (λn=>F_ad n c) (courseE c):=by
 have a:=k.lens;unfold lensC at a;have d:Short c:=⟨by omega,by omega,by omega,by omega,by omega⟩;unfold F_ad courseE;refine Ea (Qkr c w q k) ?_;cases fitsS c with
 |false=>exact Qa _
 |true=>
 refine QK (Ea (QhH c w d) ?_);cases namesS c with
 |false=>exact Qa _
 |true=>
 refine QK (Ea (Qgz c w q) ?_);cases e:numbersS c with
 |false=>exact Qa _
 |true=>
 refine QK (Ea (Qiv c.Ties f g) ?_);rw[bne];cases(tiesE c.Ties==0)with
 |false=>exact Qa _
 |true=>
 refine QK (Ea (QL c.Distances (routeS c) (Ctl.done 72) (Ctl.cont ()) (by have:=w.dist;omega) (λi x b=>?_) ?_) ?_)
 .unfold F_mo;simp only[b.lt,cond_true,b.ix,XR,b.nx];refine Ea (QhF c w (Qh5 e) x b.mem (q.wf x b.mem) (by have:=(k.dist x b.mem).2.1;omega)) ?_;cases routeS c x<;>exact Qa _
 .unfold F_mo;simp only[Yt,cond_false];exact Qa _
 .cases c.Distances.all (routeS c)<;>exact Qa _
theorem Qfw{α:Type}{lt:α->α->Prop}(d:∀a b,lt a b->¬lt b a):∀{l m:List α},l.Pairwise lt->m.Pairwise lt->(∀x,x∈l↔x∈m)->l=m:=by
 intro l
 induction l with
 |nil=>
  intro m _ _ h;cases m with
  |nil=>rfl
  |cons y m=>exact absurd ((h y).2 (by simp)) (by simp)
 |cons x l p=>
  intro m s r h;cases m with
  |nil=>exact absurd ((h x).1 (by simp)) (by simp)
  |cons y m=>
   obtain⟨j,q⟩:=Xc.1 s;obtain⟨k,n⟩:=Xc.1 r;have i:x=y:=by
    rcases Vf.1 ((h x).1 (by simp))with e|e
    .exact e
    .rcases Vf.1 ((h y).2 (by simp))with g|g
     .exact g.symm
     .exact absurd (k x e) (d _ _ (j y g))
   subst i;rw[p q n λz=>?_];constructor
   .intro f;rcases Vf.1 ((h z).1 (by simp[f]))with e|e
    .subst e;exact absurd (j z f) (d _ _ (j z f))
    .exact e
   .intro f;rcases Vf.1 ((h z).2 (by simp[f]))with e|e
    .subst e;exact absurd (k z f) (d _ _ (k z f))
    .exact e
theorem Qi6{α:Type}(l:List α){a b:Nat}(h:a<=b)(d:b<=l.length):slc l (a:Int) (b:Int)=some ((l.take b).drop a):=by
 unfold slc;rw[QN (show(0:Int)<=(a:Int)by omega),QN (show(a:Int)<=(b:Int)by omega),QN (show(b:Int)<=(l.length:Int)by omega)];simp
theorem Qou{α:Type}(l:List α){b:Nat}(a:b<=l.length):slc l 0 (b:Int)=some (l.take b):=by
 have:=Qi6 l (X3 b) a;simpa using this
theorem Qlk{α:Type}(l:List α){a:Nat}(b:a<=l.length):slc l (a:Int) (l.length:Int)=some (l.drop a):=by
 have:=Qi6 l b (X2 _);simpa using this
theorem Qbk{α:Type}(l m:List α)(h:l.length+m.length<=4294967296):app l m=some (l++m):=by
 unfold app;rw[X0 (by unfold Q1;exact h)];rfl
theorem Qg2(l:List Int)(h:l.length<=4294967296):sortI l=some (QaD ltI l):=by
 unfold sortI;rw[X0 (by unfold Q1;exact h)];rfl
def firstI{α:Type}(q:α->Bool):List α->Nat->Int
 |[],_=> -1
 |x::l,i=>bif q x then(i:Int)else firstI q l (i+1)
theorem Ev.first{α:Type}{step:Nat->Int->Option (Ctl Int (Ctl Unit Int))}(l:List α)(q:α->Bool)(t:l.length<=4611686018427387904)
  (u:∀i x,At l i x->Ev (λn=>step n (i:Int)) (bif q x then .done (.done (i:Int))else .cont ((i+1:Nat):Int)))(p:Ev (λn=>step n (l.length:Int)) (.done (.cont ()))):
  Ev (λn=>(Go.Sw.iter (step n) n 0).bind λb=>match b with|.cont _=>some (-1)|.done v=>some v) (firstI q l 0):=by
 have loop:∀(r:List α) (i:Nat),l.drop i=r->i<=l.length->∃a:Ctl Unit Int,EvI step (i:Int) a/\(match a with|.cont _=>some (-1)|.done v=>some v)=some (firstI q r i):=by
  intro r
  induction r with
  |nil=>
   intro i e k;have:i=l.length:=by have:=Xu.1 e;omega
   subst this;exact⟨.cont (),Ej p,rfl⟩
  |cons x r m=>
   intro i e k;obtain⟨j,d⟩:=Qp t e;have s:=u i x j;unfold firstI;cases h:q x with
   |true=>
    rw[h]at s;exact⟨_,Ej s,rfl⟩
   |false=>
    rw[h]at s;obtain⟨a,f,g⟩:=m (i+1) d (by have:=j.lt';omega);exact⟨a,Ew s f,g⟩
 obtain⟨a,f,g⟩:=loop l 0 rfl (X3 _);exact Ea f.ev (EA g)
theorem QbR{ι α:Type}{F:Nat->ι->Option α}{V:ι->α}:∀(L:List ι),(∀p∈L,Ev (λn=>F n p) (V p))->∃N,∀n,N<=n->∀p∈L,F n p=some (V p)
 |[],_=>⟨0,λ_ _ p hp=>by cases hp⟩
 |x::L,h=>by
  obtain⟨N,hN⟩:=QbR L λp hp=>h p (by simp[hp]);obtain⟨M,hM⟩:=h x (by simp);refine⟨N+M,λn hn p hp=>?_⟩;rcases Vf.1 hp with rfl|hp
  .exact hM n (by omega)
  .exact hN n (by omega) p hp
theorem Ev.anyP{E R:Type}[DecidableEq R]{k:Nat->List E->Option R}{l:List E}{r:R}(h:∀p,p.Perm l->Ev (λn=>k n p) r):Ev (λn=>Go.Sw.anyP (k n) l) r:=by
 obtain⟨N,b⟩:=QbR (F:=λn p=>k n p) (V:=λ_=>r) (QbH l) λp a=>h p (Qcc l p a);exact⟨N,λn d=>Qn2 λp a=>b n d p (Qc9 l p a)⟩
theorem Ev.isNil{α R:Type}[DecidableEq R]{l:List α}{x y:Nat->Option R}{v:R}(d:l=[]->Ev x v)(a:Ev y v):Ev (λn=>Go.Sw.isNil l (x n) (y n)) v:=by
 unfold Go.Sw.isNil;cases q:l.isEmpty with
 |false=>exact a
 |true=>
  obtain⟨N,b⟩:=d (List.isEmpty_iff.1 q);obtain⟨M,e⟩:=a;exact⟨N+M,λn f=>by dsimp only;rw[b n (by omega),e n (by omega)];simp⟩
theorem Qkq:∀(k:Nat) (l:List Part),k<=17->szPs l<=256->(∀x∈l,Part.wf x)->∃s:Nat,s<=szPs l/\Ev (λn=>F_c n l (k:Int)) (((min (hPs l) k:Nat):Int),(s:Int)):=by
 intro k
 induction k using Nat.strongRecOn with
 |_ k P=>
 intro l u j O;have y:=Y2 l;have loop:∀(r:List Part) (i a b:Nat),l.drop i=r->i<=l.length->a<=17->b+(szPs r-r.length)<=256->∃s:Nat,s<=b+(szPs r-r.length)/\EvI (λn=>F_an n l (k:Int) (F_c n)) ((a:Int),(b:Int),(i:Int)) (((max a (min (hPs r) k):Nat):Int),(s:Int)):=by
  intro r
  induction r with
  |nil=>
   intro i a b h w _ _;refine⟨b,by omega,Ej ?_⟩;unfold F_an;simp only[QU h w,cond_false,XR];refine(Qa _).eq ?_;simp[hPs]
  |cons p r q=>
   intro i a b h w E m;obtain⟨d,e⟩:=Qp (by omega) h;obtain⟨R,Q⟩:=Yi (O p d.mem);have B:=Je d.mem;rw[YR]at B;have G:=Y2 r;rw[szPs,YR,X9]at m⊢;have step:∃t:Nat,t<=szPs p.Parts/\Ev (λn=>F_an n l (k:Int) (F_c n) ((a:Int),(b:Int),(i:Int))) (.cont (((max a (min (hP p) k):Nat):Int),((b+t:Nat):Int),((i+1:Nat):Int))):=by
    unfold F_an;simp only[d.lt,cond_true,d.ix,XR,d.nx,QaC];rw[Ql0];cases T:p.Parts.isEmpty with
    |true=>
     refine⟨0,X3 _,?_⟩;simp only[cond_true,XR,Nat.zero_min,Nat.max_zero,XD];exact Qa _
    |false=>
     simp only[cond_false];by_cases g:k=0
     .subst g;refine⟨0,X3 _,?_⟩;simp only[Nat.min_zero,Nat.max_zero,XD];exact Qa _
     .obtain⟨t,z,f⟩:=P (k-1) (by omega) p.Parts (by omega) (by omega) Q;refine⟨t,z,?_⟩;have M:IntKind.i64.wrap ((k:Int)-1)=((k-1:Nat):Int):=by rw[Qu (by omega) (by omega)];omega
      have L:((k:Int)==0)=false:=beq_false_of_ne (by omega);rw[L,QD (show¬(256:Int)<(b:Int)by omega),M];simp only[cond_false,XR];refine Ea (Ea f (Qa _)) ((Qa _).eq ?_);have J:IntKind.i64.wrap (((min (hPs p.Parts) (k-1):Nat):Int)+1)=((min (hPs p.Parts) (k-1)+1:Nat):Int):=YQ (by omega);have H:IntKind.i64.wrap ((b:Int)+(t:Int))=((b+t:Nat):Int):=by rw[Qu (by omega) (by omega)];omega
      simp only[J,H];congr 2;split<;>omega
   obtain⟨t,z,f⟩:=step;obtain⟨s,N,F⟩:=q (i+1) (max a (min (hP p) k)) (b+t) e (by have:=d.lt';omega) (by omega) (by omega);refine⟨s,by omega,(Ew f F).eq ?_⟩;rw[hPs];congr 1;omega
 obtain⟨s,B,p⟩:=loop l 0 0 l.length rfl (X3 _) (by omega) (by omega);refine⟨s,by omega,Yf ?_⟩;show Ev (λn=>B_c (F_c n) n l (k:Int)) _;unfold B_c;refine Ea p.ev ((Qa _).eq ?_);rw[Nat.zero_max]
structure FewL (c:Course):Prop where
 lens:lensC c<=200
 name:c.Name.length<=100
 dist:∀d∈c.Distances,d.Cutoffs.length<=12/\szPs d.Route<=24
 ties:c.Ties.length<=200
def fitsG(c:Course):Bool:=
 !(decide (40<(c.Mats.length:Int))||(decide (512<(c.Legs.length:Int))||(decide (8<(c.Distances.length:Int))||(decide (32<(c.Waves.length:Int))||(decide (32<(c.Offences.length:Int))||(decide (32<(c.Categories.length:Int))||decide (32<(c.Prizes.length:Int))))))))
  &&c.Distances.all λd=> !(decide (64<(d.Cutoffs.length:Int))||decide (16<hPs d.Route))
theorem QhL(c:Course)(w:CourseOk c)(q:PartsOk c)(k:FewL c):Ev (λn=>F_bf n c) (fitsG c):=by
 unfold F_bf fitsG;refine Ea (Qf λ_=>Qf λ_=>Qf λ_=>Qf λ_=>Qf λ_=>Qf λ_=>Qa _) ?_;cases(decide (40<(c.Mats.length:Int))||(decide (512<(c.Legs.length:Int))||(decide (8<(c.Distances.length:Int))||(decide (32<(c.Waves.length:Int))||(decide (32<(c.Offences.length:Int))||(decide (32<(c.Categories.length:Int))||decide (32<(c.Prizes.length:Int))))))))with
 |true=>exact Qa _
 |false=>
  rw[Xi,Bool.true_and];refine QK (Ea (QL c.Distances (λd=> !(decide (64<(d.Cutoffs.length:Int))||decide (16<hPs d.Route))) (Ctl.done false) (Ctl.cont ()) (by have:=w.dist;omega) (λi x a=>?_) ?_) ?_)
  .obtain⟨g,b⟩:=k.dist x a.mem;unfold F_ga;simp only[a.lt,cond_true,a.ix,XR,a.nx];obtain⟨s,f,p⟩:=Qkq 17 x.Route (X2 _) (by omega) (q.wf x a.mem);refine Ea p ?_;refine Ea (Qf λ_=>Qf λ_=>Qa _) ?_;simp only[QD (show¬(256:Int)<(s:Int)by omega),Bool.or_false];have e:decide ((16:Int)<((min (hPs x.Route) 17:Nat):Int))=decide (16<hPs x.Route):=by
    rw[decide_eq_decide];omega
   rw[e];cases(decide (64<(x.Cutoffs.length:Int))||decide (16<hPs x.Route))<;>exact Qa _
  .unfold F_ga;simp only[Yt,cond_false];exact Qa _
  .cases c.Distances.all (λd=> !(decide (64<(d.Cutoffs.length:Int))||decide (16<hPs d.Route)))<;>exact Qa _
theorem Qif:∀(k:Nat) (l:List Part),k<=21->l.length<=1048576->(∀x∈l,Part.wf x)->∃v:Nat,v<=1048576+500*(k+1)/\(v<500->szPs l<=v)/\Ev (λn=>F_n n l ((21-k:Nat):Int)) (v:Int):=by
 intro k
 induction k with
 |zero=>
  intro l _ t w;refine⟨500,by omega,by omega,Yf ?_⟩;show Ev (λn=>B_n (F_n n) n l ((21-0:Nat):Int)) _;unfold B_n;exact Qa _
 |succ k H=>
  intro l N t w;have loop:∀(r:List Part) (i a:Nat),l.drop i=r->i<=l.length->a<=1048576+500*(k+1+1)->∃v:Nat,v<=1048576+500*(k+1+1)/\a<=v/\(v<500->a+(szPs r-r.length)<=v)/\EvI (λn=>F_hd n l ((21-(k+1):Nat):Int) (F_n n)) ((a:Int),(i:Int)) (v:Int):=by
   intro r
   induction r with
   |nil=>
    intro i a h s j;refine⟨a,j,X2 _,λ_=>by simp[szPs],Ej ?_⟩;unfold F_hd;simp only[QU h s,cond_false,XR];exact Qa _
   |cons p r m=>
    intro i a h s j;obtain⟨b,e⟩:=Qp (by omega) h;obtain⟨J,L⟩:=Yi (w p b.mem);by_cases z:a<500
    .obtain⟨u,M,G,B⟩:=H p.Parts (by omega) J L;have F:IntKind.i64.wrap (((21-(k+1):Nat):Int)+1)=((21-k:Nat):Int):=by rw[Qu (by omega) (by omega)];omega
     have E:IntKind.i64.wrap ((a:Int)+(u:Int))=((a+u:Nat):Int):=by rw[Qu (by omega) (by omega)];omega
     obtain⟨v,q,y,g,f⟩:=m (i+1) (a+u) e (by have:=b.lt';omega) (by omega);refine⟨v,q,by omega,λd=>?_,Ew ?_ f⟩
     .have:=g d;have:=G (by omega);have:=Y2 r;rw[szPs,YR,X9];omega
     .unfold F_hd;simp only[b.lt,cond_true,b.ix,XR,b.nx,QN (show(a:Int)<500 by omega),F];refine Ea B ?_;rw[E];exact Qa _
    .refine⟨a,j,X2 _,λd=>absurd d z,Ej ?_⟩;unfold F_hd;simp only[b.lt,cond_true,XR,QD (show¬(a:Int)<500 by omega),cond_false];exact Qa _
  obtain⟨v,q,y,g,f⟩:=loop l 0 l.length rfl (X3 _) (X4 t (Nat.le_add_right _ _));have:=Y2 l;refine⟨v,q,λd=>by have:=g d;omega,Yf ?_⟩;show Ev (λn=>B_n (F_n n) n l ((21-(k+1):Nat):Int)) _;unfold B_n;rw[QD (show¬(20:Int)<((21-(k+1):Nat):Int)by omega)];exact QK (Ea f.ev (Qa _))
theorem QhT:∀(k:Nat) (l:List Cond),k<=21->l.length<=1048576->(∀x∈l,Cond.wf x)->∃v:Nat,v<=1048576+500*(k+1)/\Ev (λn=>F_l n l ((21-k:Nat):Int)) (v:Int):=by
 intro k
 induction k with
 |zero=>
  intro l _ s t;refine⟨500,by omega,Yf ?_⟩;show Ev (λn=>B_l (F_l n) n l ((21-0:Nat):Int)) _;unfold B_l;exact Qa _
 |succ k w=>
  intro l G s t;have loop:∀(r:List Cond) (i a:Nat),l.drop i=r->i<=l.length->a<=1048576+500*(k+1+1)->∃v:Nat,v<=1048576+500*(k+1+1)/\EvI (λn=>F_gk n l ((21-(k+1):Nat):Int) (F_l n)) ((a:Int),(i:Int)) (v:Int):=by
   intro r
   induction r with
   |nil=>
    intro i a h q e;refine⟨a,e,Ej ?_⟩;unfold F_gk;simp only[QU h q,cond_false,XR];exact Qa _
   |cons p r m=>
    intro i a h q e;obtain⟨b,f⟩:=Qp (by omega) h;have d:=YZ (t p b.mem);by_cases F:a<500
    .obtain⟨u,E,y⟩:=w p.Parts (by omega) d.1 d.2;have B:IntKind.i64.wrap (((21-(k+1):Nat):Int)+1)=((21-k:Nat):Int):=by rw[Qu (by omega) (by omega)];omega
     have z:IntKind.i64.wrap ((a:Int)+(u:Int))=((a+u:Nat):Int):=by rw[Qu (by omega) (by omega)];omega
     obtain⟨v,g,j⟩:=m (i+1) (a+u) f (by have:=b.lt';omega) (by omega);refine⟨v,g,Ew ?_ j⟩;unfold F_gk;simp only[b.lt,cond_true,b.ix,XR,b.nx,QN (show(a:Int)<500 by omega),B];refine Ea y ?_;rw[z];exact Qa _
    .refine⟨a,e,Ej ?_⟩;unfold F_gk;simp only[b.lt,cond_true,XR,QD (show¬(a:Int)<500 by omega),cond_false];exact Qa _
  obtain⟨v,g,j⟩:=loop l 0 l.length rfl (X3 _) (X4 s (Nat.le_add_right _ _));refine⟨v,g,Yf ?_⟩;show Ev (λn=>B_l (F_l n) n l ((21-(k+1):Nat):Int)) _;unfold B_l;rw[QD (show¬(20:Int)<((21-(k+1):Nat):Int)by omega)];exact QK (Ea j.ev (Qa _))
def Cs:Nat->Nat
 |0=>500
 |k+1=>4194304+2*Cs k
theorem Qos:∀k,k<22->Cs k<=1125899906842624:=by decide
theorem Qg0:∀(k:Nat) (l:List Step),k<=21->l.length<=1048576->(∀x∈l,Step.wf x)->∃v:Nat,v<=Cs k/\(v<500->l.length<=v)/\Ev (λn=>F_o n l ((21-k:Nat):Int)) (v:Int):=by
 intro k
 induction k with
 |zero=>
  intro l _ E t;refine⟨500,X2 _,by omega,Yf ?_⟩;show Ev (λn=>B_o (F_o n) n l ((21-0:Nat):Int)) _;unfold B_o;exact Qa _
 |succ k w=>
  intro l V E t;have F:=Qos k (by omega);have Q:=Qos (k+1) (by omega);have G:Cs (k+1)=4194304+2*Cs k:=rfl;have loop:∀(r:List Step) (i a:Nat),l.drop i=r->i<=l.length->a<=Cs (k+1)->∃v:Nat,v<=Cs (k+1)/\a<=v/\EvI (λn=>F_hu n l ((21-(k+1):Nat):Int) (F_o n)) ((a:Int),(i:Int)) (v:Int):=by
   intro r
   induction r with
   |nil=>
    intro i a g m h;refine⟨a,h,X2 _,Ej ?_⟩;unfold F_hu;simp only[QU g m,cond_false,XR];exact Qa _
   |cons p r e=>
    intro i a g m h;obtain⟨b,d⟩:=Qp (by omega) g;obtain⟨P,z,q⟩:=YY (t p b.mem);by_cases T:a<500
    .obtain⟨u,R,L⟩:=QhT 21 [p.Cond] (X2 _) (by simp) (by simpa using P);obtain⟨x,W,_,O⟩:=w p.Then (by omega) z.1 z.2;obtain⟨y,y1,_,B⟩:=w p.Else (by omega) q.1 q.2;have N:IntKind.i64.wrap (((21-(k+1):Nat):Int)+1)=((21-k:Nat):Int):=by rw[Qu (by omega) (by omega)];omega
     have M:IntKind.i64.wrap ((a:Int)+(u:Int))=((a+u:Nat):Int):=by rw[Qu (by omega) (by omega)];omega
     have J:IntKind.i64.wrap (((a+u:Nat):Int)+(x:Int))=((a+u+x:Nat):Int):=by rw[Qu (by omega) (by omega)];omega
     have H:IntKind.i64.wrap (((a+u+x:Nat):Int)+(y:Int))=((a+u+x+y:Nat):Int):=by rw[Qu (by omega) (by omega)];omega
     obtain⟨v,j,s,f⟩:=e (i+1) (a+u+x+y) d (by have:=b.lt';omega) (by omega);refine⟨v,j,by omega,Ew ?_ f⟩;unfold F_hu;simp only[b.lt,cond_true,b.ix,XR,b.nx,QN (show(a:Int)<500 by omega),N];refine Ea L (Ea O (Ea B ?_));rw[M,J,H];exact Qa _
    .refine⟨a,h,X2 _,Ej ?_⟩;unfold F_hu;simp only[b.lt,cond_true,XR,QD (show¬(a:Int)<500 by omega),cond_false];exact Qa _
  obtain⟨v,j,s,f⟩:=loop l 0 l.length rfl (X3 _) (by omega);refine⟨v,j,λ_=>s,Yf ?_⟩;show Ev (λn=>B_o (F_o n) n l ((21-(k+1):Nat):Int)) _;unfold B_o;rw[QD (show¬(20:Int)<((21-(k+1):Nat):Int)by omega)];exact QK (Ea f.ev (Qa _))
theorem Qke(c:Course)(w:CourseOk c)(q:PartsOk c)(G:c.Ties.length<=1048576)(H:∀x∈c.Ties,Step.wf x):∃b,Ev (λn=>F_al n c) b/\(b=true->FewL c):=by
 have T:=w.dist;have Q:=w.mats;have loop:∀(r:List Distance) (i:Nat),c.Distances.drop i=r->i<=c.Distances.length->∃a:Ctl Unit Bool,EvI (λn=>F_hb n c) (i:Int) a/\(a=.done false\/(a=.cont ()/\ ∀d∈r,d.Cutoffs.length<=12/\szPs d.Route<=24)):=by
  intro r
  induction r with
  |nil=>
   intro i s B;refine⟨.cont (),Ej ?_,.inr ⟨rfl,λd h=>by cases h⟩⟩;unfold F_hb;simp only[QU s B,cond_false];exact Qa _
  |cons d r z=>
   intro i s B;obtain⟨e,k⟩:=Qp (by omega) s;obtain⟨v,L,l,p⟩:=Qif 21 d.Route (X2 _) (q.len d e.mem) (q.wf d e.mem);have step:Ev (λn=>F_hb n c (i:Int)) (bif (decide ((24:Int)<(v:Int))||(decide (12<(d.Cutoffs.length:Int))||decide (60<(d.Name.length:Int))))then .done (.done false)else .cont ((i+1:Nat):Int)):=by
    unfold F_hb;simp only[e.lt,cond_true,e.ix,XR,e.nx];refine Ea (v:=decide ((24:Int)<(v:Int))||(decide (12<(d.Cutoffs.length:Int))||decide (60<(d.Name.length:Int)))) (Ea p (Qf λ_=>Qf λ_=>Qa _)) ?_;cases(decide ((24:Int)<(v:Int))||(decide (12<(d.Cutoffs.length:Int))||decide (60<(d.Name.length:Int))))<;>exact Qa _
   cases f:(decide ((24:Int)<(v:Int))||(decide (12<(d.Cutoffs.length:Int))||decide (60<(d.Name.length:Int))))with
   |true=>
    rw[f]at step;exact⟨.done false,Ej step,.inl rfl⟩
   |false=>
    rw[f]at step;obtain⟨a,j,g⟩:=z (i+1) k (by have:=e.lt';omega);refine⟨a,Ew step j,?_⟩;rcases g with g|⟨g,t⟩
    .exact .inl g
    .refine .inr ⟨g,λx y=>?_⟩;rcases Vf.1 y with rfl|y
     .simp only[X6,decide_eq_false_iff_not]at f;have:=l (by omega);exact⟨by omega,by omega⟩
     .exact t x y
 obtain⟨a,j,g⟩:=loop c.Distances 0 rfl (X3 _);rcases g with rfl|⟨rfl,t⟩
 .refine⟨false,?_,λh=>by cases h⟩;unfold F_al;exact Ea j.ev (Qa _)
 .have F:∃a:Ctl Unit Bool,Ev (λn=>iter (F_jw n c) n (0:Int)) a/\(a=.done false\/a=.cont ()):=by
   refine⟨_,QL c.Mats (λm=> !decide (60<(m.Name.length:Int))) (Ctl.done false) (Ctl.cont ()) (by omega) (λi x e=>?_) ?_,?_⟩
   .unfold F_jw;simp only[e.lt,cond_true,e.ix,XR,e.nx];cases decide (60<(x.Name.length:Int))<;>exact Qa _
   .unfold F_jw;simp only[Yt,cond_false];exact Qa _
   .cases c.Mats.all (λm=> !decide (60<(m.Name.length:Int)))with
    |true=>exact .inr rfl
    |false=>exact .inl rfl
  obtain⟨E,u,J⟩:=F;rcases J with rfl|rfl
  .refine⟨false,?_,λh=>by cases h⟩;unfold F_al;exact Ea j.ev (Ea u (Qa _))
  .obtain⟨v,L,l,p⟩:=Qg0 21 c.Ties (X2 _) G H;cases f:(decide (12<(c.Mats.length:Int))||(decide (30<(c.Legs.length:Int))||(decide (4<(c.Distances.length:Int))||(decide (6<(c.Waves.length:Int))||(decide (6<(c.Offences.length:Int))||(decide (6<(c.Categories.length:Int))||(decide (6<(c.Prizes.length:Int))||decide (60<(c.Name.length:Int)))))))))with
   |true=>
    refine⟨false,?_,λh=>by cases h⟩;unfold F_al;refine Ea j.ev (Ea u (Ea (v:=true) (Eu (Qf λ_=>Qf λ_=>Qf λ_=>Qf λ_=>Qf λ_=>Qf λ_=>Qf λ_=>Qa _) f) (Qa _)))
   |false=>
    refine⟨decide ((v:Int)<=100),?_,λh=>?_⟩
    .unfold F_al;refine Ea j.ev (Ea u (Ea (v:=false) (Eu (Qf λ_=>Qf λ_=>Qf λ_=>Qf λ_=>Qf λ_=>Qf λ_=>Qf λ_=>Qa _) f) (Ea p (Qa _))))
    .have h:=of_decide_eq_true h;have:=l (by omega);simp only[X6,decide_eq_false_iff_not]at f;obtain⟨M,W,O,N,X,V,P,R⟩:=f;exact⟨by unfold lensC;omega,by omega,t,by omega⟩
set_option maxRecDepth 4000
def cmpI(a b:Int):Int:=bif decide (a<b)then-1 else bif decide (b<a)then 1 else 0
theorem Qjw(n:Nat)(a b:Int):F_i n a b=some (cmpI a b):=by
 unfold F_i F_bs cmpI;simp only[XR,bne_self_eq_false,cond_false];cases decide (a<b)with
 |true=>rfl
 |false=>cases decide (b<a)<;>rfl
def orL:List Int->Int
 |[]=>0
 |x::r=>bif x != 0 then x else orL r
theorem Qoo(l:List Int)(k:l.length<=1000):Ev (λn=>F_z n l) (orL l):=by
 unfold F_z;have loop:∀(r:List Int) (i:Nat),l.drop i=r->i<=l.length->EvI (λn=>F_bg n l) (i:Int) (bif orL r==0 then Ctl.cont ()else Ctl.done (orL r)):=by
  intro r
  induction r with
  |nil=>
   intro i d f;refine Ej ?_;unfold F_bg;simp only[QU d f,cond_false];exact Qa _
  |cons x r g=>
   intro i d f;obtain⟨a,b⟩:=Qp (by omega) d;have j:=a.lt';unfold orL;cases q:(x != 0)with
   |true=>
    have e:(x==0)=false:=by simpa[bne]using q
    simp only[cond_true,e,cond_false];refine Ej ?_;unfold F_bg;simp only[a.lt,cond_true,a.ix,XR,q];exact Qa _
   |false=>
    simp only[cond_false];refine Ew ?_ (g (i+1) b (by omega));unfold F_bg;simp only[a.lt,cond_true,a.ix,XR,q,cond_false,a.nx];exact Qa _
 refine Ea (loop l 0 rfl (X3 _)).ev ?_;cases h:(orL l==0)with
 |true=>
  have e:orL l=0:=by simpa using h
  rw[e];exact Qa _
 |false=>exact Qa _
theorem QlT{β:Type}(m:List (Int×β))(k:Int):Qfq m k=(YV m k).isSome:=by
 unfold Qfq YV;rw[Option.isSome_map]
 induction m with
 |nil=>rfl
 |cons p m a=>
  rw[List.any_cons,List.find?_cons,a];cases decide (p.1=k)<;>rfl
theorem Qhi{β:Type}(m:List (Int×β))(k:Int):k∈m.map Prod.fst↔ ∃v,YV m k=some v:=by
 have h:=QlT m k;rw[<- Option.isSome_iff_exists, <- h];unfold Qfq;simp only[Xy,decide_eq_true_eq,Xf]
theorem Qhh{β:Type}(m:List (Int×β))(k:Int)(v:β):(Q5 m k v).length<=m.length+1:=by
 have:=congrArg List.length (QbU m k v);rw[Va]at this;rw[this];split<;>simp
theorem Qeq{β:Type}{m:List (Int×β)}(k:Int)(v:β)(h:(m.map Prod.fst).Nodup):((Q5 m k v).map Prod.fst).Nodup:=by
 have e:=QbU m k v;have f:(Q5 m k v).map Prod.fst=if k∈m.map Prod.fst then m.map Prod.fst else m.map Prod.fst++[k]:=e
 rw[f];split
 .exact h
 .rename_i i;rw[List.nodup_append];refine⟨h,by simp,λa g b d=>?_⟩;rw[List.mem_singleton]at d;rintro rfl;exact i (d▸g)
theorem QfM{l m:List Int}(h:l.Perm m):QaD ltI l=QaD ltI m:=
 QaB ((QS ltI l).trans (h.trans (QS ltI m).symm)) (λx _ y _ a b=>by simp[ltI]at*;omega) (YL (QcF l)) (YL (QcF m))
theorem Qjp{n:Nat}(h:n<=1048576):Nat.ble n Q1=true:=X0 (X4 h (by decide))
theorem or2(n:Nat)(a b:Int):F_z (n+3) [a,b]=some (orL [a,b]):=by
 unfold F_z;have f:F_bg (n+3) [a,b] 0=bif a != 0 then some (.done (.done a))else some (.cont 1):=rfl
 have e:F_bg (n+3) [a,b] 1=bif b != 0 then some (.done (.done b))else some (.cont 2):=rfl
 have d:F_bg (n+3) [a,b] 2=some (.done (.cont ())):=rfl;unfold orL orL orL;rw[iter,f];cases q:(a != 0)with
 |true=>rfl
 |false=>
  simp only[cond_false];rw[iter,e];cases g:(b != 0)with
  |true=>rfl
  |false=>
   simp only[cond_false];rw[iter,d];rfl
theorem QnX{a b:Int}:cmpI a b<0↔a<b:=by
 unfold cmpI;by_cases h:a<b
 .rw[decide_eq_true h];simp[h]
 .rw[decide_eq_false h];by_cases d:b<a
  .rw[decide_eq_true d];simp;omega
  .rw[decide_eq_false d];simp;omega
theorem Qpn{a b:Int}:cmpI a b=0↔a=b:=by
 unfold cmpI;by_cases h:a<b
 .rw[decide_eq_true h];simp;omega
 .rw[decide_eq_false h];by_cases d:b<a
  .rw[decide_eq_true d];simp;omega
  .rw[decide_eq_false d];simp;omega
set_option maxRecDepth 4000
section
variable {α:Type}{c d:α->α->Int}
end
theorem Qid{c:Course}(h:Course.wf c):CourseOk c:=by
 obtain⟨d,⟨q,f⟩,⟨m,s⟩,⟨i,b⟩,⟨g,k⟩,⟨e,j⟩,⟨l,n⟩,⟨p,r⟩,_⟩:=h;exact⟨d,q,λx a=>(f x a).1,m,i,λx a=>(b x a).1,λx a=>(b x a).2.2.2.1.1,g,λx a=>(k x a).1,e,λx a=>(j x a).1,l,λx a=>(n x a).1,p⟩
theorem QiT{c:Course}(h:Course.wf c):PartsOk c:=by
 obtain⟨_,_,_,⟨e,b⟩,_⟩:=h;exact⟨λd a=>(b d a).2.1.1,λd a=>(b d a).2.1.2⟩
theorem Qnj{c:Course}(h:Course.wf c):c.Ties.length<=1048576/\ ∀x∈c.Ties,Step.wf x:=by
 obtain⟨_,_,_,_,_,_,_,_,a,_⟩:=h;exact a
def EvL{S T B:Type}(step:Nat->S->Option (List T×Ctl S B))(s:S)(r:List T×B):Prop:=∃N,∀n k,N<=n->N<=k->Qbw (step n) k s=some r
theorem EvL.done{S T B:Type}{step:Nat->S->Option (List T×Ctl S B)}{s:S}{z:List T}{b:B}(h:Ev (λn=>step n s) (z,.done b)):EvL step s (z,b):=by
 obtain⟨N,h⟩:=h;refine⟨N+1,λn k a d=>?_⟩;obtain⟨j,rfl⟩:∃j,k=j+1:=⟨k-1,by omega⟩;simp only[Qbw,h n (by omega),XR]
theorem EvL.cont{S T B:Type}{step:Nat->S->Option (List T×Ctl S B)}{s s':S}{z a:List T}{b:B}(h:Ev (λn=>step n s) (z,.cont s'))(q:EvL step s' (a,b)):EvL step s (z++a,b):=by
 obtain⟨N,h⟩:=h;obtain⟨M,q⟩:=q;refine⟨max N M+1,λn k d e=>?_⟩;obtain⟨j,rfl⟩:∃j,k=j+1:=⟨k-1,by omega⟩;simp only[Qbw,h n (by omega),XR,q n j (by omega) (by omega)]
theorem EvL.ev{S T B:Type}{step:Nat->S->Option (List T×Ctl S B)}{s:S}{r:List T×B}(h:EvL step s r):Ev (λn=>Qbw (step n) n s) r:=by
 obtain⟨N,h⟩:=h;exact⟨N,λn a=>h n n a a⟩
theorem EvL.eq{S T B:Type}{step:Nat->S->Option (List T×Ctl S B)}{s:S}{r r':List T×B}(h:EvL step s r)(e:r=r'):EvL step s r':=e▸h
theorem Qbl(p:Nat->Bool):∀k,(∀i,i<k->p i=true)\/ ∃j,j<k/\p j=false/\ ∀i,i<j->p i=true
 |0=>.inl λi h=>absurd h (Xo _)
 |k+1=>by
  rcases Qbl p k with h|⟨j,h1,h2,h3⟩
  .cases q:p k with
   |true=>exact .inl λi hi=>(Xq.1 hi).elim (h i) λe=>e▸q
   |false=>exact .inr ⟨k,Xp _,q,h⟩
  .exact .inr ⟨j,by omega,h2,h3⟩
theorem QjZ{p:Nat->Bool}{k:Nat}:(List.range k).all p=true↔ ∀i,i<k->p i=true:=by simp[Xx]
theorem Yq{B:Type}{step:Nat->Int->Option (Ctl Int B)}(k:Nat)(p:Nat->Bool)(g b:B)
  (d:∀i,i<k->Ev (λn=>step n (i:Int)) (bif p i then .cont ((i+1:Nat):Int)else .done g))(l:Ev (λn=>step n (k:Int)) (.done b)):
  Ev (λn=>Go.Sw.iter (step n) n 0) (bif (List.range k).all p then b else g):=by
 rcases Qbl p k with h|⟨j,f,e,m⟩
 .rw[QjZ.2 h];exact Ex (λi=>(i:Int)) k rfl (λi a=>(d i a).eq (by rw[h i a];rfl)) l
 .have:(List.range k).all p=false:=by
   rw[Bool.eq_false_iff];intro q;rw[QjZ.1 q j f]at e;cases e
  rw[this];exact Ex (λi=>(i:Int)) j rfl (λi a=>(d i (by omega)).eq (by rw[m i a];rfl)) ((d j f).eq (by rw[e];rfl))
theorem atN{α:Type}{l:List α}{i:Nat}(hl:l.length<=1048576)(hi:i<l.length):At l i l[i]:=JA (by omega) (XS hi)
theorem Yb{n:Nat}(h:n<=1048576):IntKind.i64.wrap ((n:Int)+1)=((n+1:Nat):Int):=YQ (by omega)
def segLt(x y:Segment):Bool:=decide (x.Mat<y.Mat)||((x.Mat==y.Mat)&&decide (x.Epoch<y.Epoch))
def cmpSeg(x y:Segment):Int:=orL [cmpI x.Mat y.Mat,cmpI x.Epoch y.Epoch]
theorem Qkw(x y:Segment):decide (0<=cmpSeg x y)= !segLt x y:=by
 unfold cmpSeg segLt orL orL orL cmpI;by_cases a:x.Mat<y.Mat
 .simp[a]
 .by_cases b:y.Mat<x.Mat
  .have:¬x.Mat=y.Mat:=by omega
   simp[a,b,this]
  .have:x.Mat=y.Mat:=by omega
   by_cases d:x.Epoch<y.Epoch
   .simp[a,b,this,d]
   .by_cases e:y.Epoch<x.Epoch
    .simp[a,b,this,d,e]
    .simp[a,b,this,d,e]
theorem QeV(a b:Int):Ev (λn=>F_i n a b) (cmpI a b):=Qib (Qa _) λn=>Qjw n a b
theorem QhC(x y:Segment):Ev (λn=>F_bk n x y) (cmpSeg x y):=by
 unfold F_bk F_ix;exact Ea (Ea (QeV _ _) (Ea (QeV _ _) (Ea (Qoo _ (by simp)) (Qa _)))) (Qa _)
def timeB(x:Int):Bool:=inR (-1099511627776) 1099511627776 x
theorem Qkl(x:Int):Ev (λn=>F_bi n x) (timeB x):=by
 unfold F_bi timeB inR;exact Ea (Ei λ_=>Qa _) (Qa _)
def prevSeg(c:Clocks)(i:Nat)(x:Segment):Bool:=decide (0<(i:Int))&& !(match c.Segments[i-1]? with|some y=>segLt y x|none=>true)
def segBad(c:Clocks)(i:Nat)(x:Segment):Bool:=decide (x.Mat<0)||(decide (40<=x.Mat)||(decide (x.Epoch<0)||(decide (255<x.Epoch)||(!timeB x.Anchor||prevSeg c i x))))
def segsB(c:Clocks):Bool:=(List.range c.Segments.length).all λi=>match c.Segments[i]? with|some x=> !segBad c i x|none=>true
theorem QeC{α:Type}{l:List α}{i:Nat}{y:α}(b:l.length<=1048576)(hi:0<i)(a:i<=l.length)(h:l[i-1]?=some y):idx l (IntKind.i64.wrap ((i:Int)-1))=some y:=by
 rw[Qu (by omega) (by omega),show((i:Int)-1)=((i-1:Nat):Int)by omega];exact Qq h
theorem QnJ(c:Clocks)(g:c.Segments.length<=1048576):Ev (λn=>iter (F_ku n c) n 0) (bif segsB c then Ctl.cont ()else Ctl.done 160):=by
 unfold segsB;refine Yq c.Segments.length _ _ _ (λi j=>?_) ?_
 .have a:=atN g j;unfold F_ku;simp only[a.lt,cond_true,a.ix,XR,a.nx,a.get];have:Ev (λn=>((bif decide ((c.Segments[i]).Mat<0)then some true else(bif decide (40<=(c.Segments[i]).Mat)then some true else(bif decide ((c.Segments[i]).Epoch<0)then some true else(bif decide (255<(c.Segments[i]).Epoch)then some true else(F_bi n (c.Segments[i]).Anchor).bind λe=>(bif (!e)then some true else(bif decide (0<(i:Int))then(idx c.Segments (IntKind.i64.wrap ((i:Int)-1))).bind λd=>(F_bk n d (c.Segments[i])).bind λb=>some (decide (0<=b))else some false)))))):Option Bool)) (segBad c i (c.Segments[i])):=by
   unfold segBad;refine Qf λ_=>Qf λ_=>Qf λ_=>Qf λ_=>Ea (Qkl _) (Qf λ_=>?_);unfold prevSeg;refine Ei λh=>?_;have k:0<i:=by have:=of_decide_eq_true h;omega
   have f:i-1<c.Segments.length:=by omega
   rw[QeC g k (by omega) (XS f),XS f];simp only[XR];exact Ea (QhC _ _) ((Qa _).eq (Qkw _ _))
  refine Ea this ?_;cases segBad c i (c.Segments[i])<;>exact Qa _
 .unfold F_ku;simp only[Yt,cond_false];exact Qa _
def farBad(x:Int):Bool:=decide (x< -2199023255552)||decide (2199023255552<x)
theorem Qko(l:List Int)(a:l.length<=1048576):Ev (λn=>F_bp n l) (l.any farBad):=by
 unfold F_bp F_hz;refine Ev.contains l farBad (λn x=>F_bl n x) (by omega) λx _=>?_;unfold F_bl farBad;exact Ea (Qf λ_=>Qa _) (Qa _)
def rowB(c:Clocks)(i:Nat)(r:List Int):Bool:= !(((r.length:Int) != ((c.Segments.length+1:Nat):Int))||((r[i]?.getD 1 != 0)||r.any farBad))
def rowsB(c:Clocks):Bool:=(List.range c.Far.length).all λi=>match c.Far[i]? with|some r=>rowB c i r|none=>true
theorem QnM(c:Clocks)(h0:c.Segments.length<=1048576)(g:c.Far.length<=1048576)(k:∀r∈c.Far,r.length<=1048576)(l:c.Far.length=c.Segments.length+1):
  Ev (λn=>iter (F_kv n c) n 0) (bif rowsB c then Ctl.cont ()else Ctl.done 160):=by
 unfold rowsB;refine Yq c.Far.length _ _ _ (λi j=>?_) ?_
 .have e:=atN g j;unfold F_kv;simp only[e.lt,cond_true,e.ix,XR,e.nx,e.get,Yb h0];have:Ev (λn=>((bif (((c.Far[i]).length:Int) != ((c.Segments.length+1:Nat):Int))then some true else(idx (c.Far[i]) (i:Int)).bind λd=>(bif (d != 0)then some true else(F_bp n (c.Far[i])).bind λa=>some a)):Option Bool)) (!rowB c i (c.Far[i])):=by
   unfold rowB;rw[Bool.not_not];refine Qf λh=>?_;have f:(c.Far[i]).length=c.Segments.length+1:=by
    have:((c.Far[i]).length:Int)=((c.Segments.length+1:Nat):Int):=by simpa[bne]using h
    omega
   have b:i<(c.Far[i]).length:=by omega
   rw[Qq (XS b),XS b];simp only[XR,Option.getD_some];exact Qf λ_=>Ea (Qko _ (k _ e.mem)) (Qa _)
  refine Ea this ?_;cases rowB c i (c.Far[i])<;>exact Qa _
 .unfold F_kv;simp only[Yt,cond_false];exact Qa _
def farG(c:Clocks)(i j:Nat):Int:=((c.Far[i]?.getD [])[j]?).getD 0
structure Dims (c:Clocks):Prop where
 segs:c.Segments.length<=511
 far:c.Far.length=c.Segments.length+1
 row:∀i,i<c.Far.length->(c.Far[i]?.getD []).length=c.Segments.length+1
theorem Dims.get{c:Clocks}(d:Dims c){i j:Nat}(hi:i<c.Segments.length+1)(e:j<c.Segments.length+1):c.Far[i]?=some (c.Far[i]?.getD [])/\(c.Far[i]?.getD [])[j]?=some (farG c i j):=by
 have a:i<c.Far.length:=by rw[d.far];exact hi
 have b:=d.row i a;refine⟨by rw[XS a];rfl,?_⟩;unfold farG;have:j<(c.Far[i]?.getD []).length:=by omega
 rw[XS this];rfl
def triB(c:Clocks):Bool:=(List.range (c.Segments.length+1)).all λi=>(List.range (c.Segments.length+1)).all λj=>(List.range (c.Segments.length+1)).all λk=> !decide (IntKind.i64.wrap (farG c i j+farG c j k)<farG c i k)
theorem ltN{a b:Nat}(h:a<b):decide ((a:Int)<(b:Int))=true:=decide_eq_true (by omega)
theorem geN{a b:Nat}(h:b<=a):decide ((a:Int)<(b:Int))=false:=decide_eq_false (by omega)
theorem Qo5(c:Clocks)(d:Dims c):Ev (λn=>iter (F_kj n c) n 0) (bif triB c then Ctl.cont ()else Ctl.done 160):=by
 have r:=d.segs;unfold triB;refine Yq (c.Segments.length+1) _ _ _ (λi a=>?_) ?_
 .unfold F_kj;have g:=(d.get a a).1;have h:=d.row i (by rw[d.far];exact a);simp only[Yb (show c.Segments.length<=1048576 by omega),ltN a,cond_true,Qq g,XR,Yb (show i<=1048576 by omega)];refine Ea (Yq (c.Segments.length+1) (λj=>(List.range (c.Segments.length+1)).all λk=> !decide (IntKind.i64.wrap (farG c i j+farG c j k)<farG c i k)) (Ctl.done (Ctl.done (Ctl.done 160))) (Ctl.cont ()) (λj b=>?_) ?_) ?_
  .unfold F_ma;have l:=(d.get a b).2;have m:=(d.get b b).1;have e:=d.row j (by rw[d.far];exact b);simp only[h,ltN b,cond_true,Qq l,Qq m,XR,Yb (show j<=1048576 by omega)];refine Ea (Yq (c.Segments.length+1) (λk=> !decide (IntKind.i64.wrap (farG c i j+farG c j k)<farG c i k)) (Ctl.done (Ctl.done (Ctl.done (Ctl.done (Ctl.done 160))))) (Ctl.cont ()) (λk f=>?_) ?_) ?_
   .unfold F_mq;have q:=(d.get b f).2;have p:=(d.get a f).2;simp only[e,ltN f,cond_true,Qq q,Qq g,Qq p,XR,Yb (show k<=1048576 by omega)];cases decide (IntKind.i64.wrap (farG c i j+farG c j k)<farG c i k)<;>exact Qa _
   .unfold F_mq;simp only[e,geN (X2 _),cond_false];exact Qa _
   .cases(List.range (c.Segments.length+1)).all λk=> !decide (IntKind.i64.wrap (farG c i j+farG c j k)<farG c i k)<;>exact Qa _
  .unfold F_ma;simp only[h,geN (X2 _),cond_false];exact Qa _
  .cases(List.range (c.Segments.length+1)).all λj=>(List.range (c.Segments.length+1)).all λk=> !decide (IntKind.i64.wrap (farG c i j+farG c j k)<farG c i k)<;>exact Qa _
 .unfold F_kj;simp only[Yb (show c.Segments.length<=1048576 by omega),geN (X2 _),cond_false];exact Qa _
def clkB(c:Clocks):Bool:= !(decide (511<(c.Segments.length:Int))||((c.Far.length:Int) != ((c.Segments.length+1:Nat):Int)))&&(segsB c&&(rowsB c&&triB c))
structure ClkW (c:Clocks):Prop where
 segs:c.Segments.length<=1048576
 far:c.Far.length<=1048576
 row:∀r∈c.Far,r.length<=1048576
theorem QgH{c:Clocks}(f:¬511<(c.Segments.length:Int))(d:c.Far.length=c.Segments.length+1)(b:rowsB c=true):Dims c:=by
 refine⟨by omega,d,λi a=>?_⟩;have:=QjZ.1 b i a;rw[XS a]at this⊢;simp only[rowB,Bool.not_eq_true',X6]at this;have e:((c.Far[i]).length:Int)=((c.Segments.length+1:Nat):Int):=by simpa[bne]using this.1
 simp only[Option.getD_some];omega
theorem Qmw(c:Clocks)(w:ClkW c):Ev (λn=>F_at n c) (bif clkB c then 0 else 160):=by
 unfold F_at clkB;simp only[Yb w.segs];refine Ea (Qf λ_=>Qa _) ?_;cases a:(decide (511<(c.Segments.length:Int))||((c.Far.length:Int) != ((c.Segments.length+1:Nat):Int)))with
 |true=>exact Qa _
 |false=>
  simp only[Xi,Bool.true_and,X6,decide_eq_false_iff_not]at a⊢;have b:c.Far.length=c.Segments.length+1:=by
   have:(c.Far.length:Int)=((c.Segments.length+1:Nat):Int):=by simpa[bne]using a.2
   omega
  refine QK (Ea (QnJ c w.segs) ?_);cases segsB c with
  |false=>exact Qa _
  |true=>
   refine Ea (QnM c w.segs w.far w.row b) ?_;cases d:rowsB c with
   |false=>exact Qa _
   |true=>
    refine Ea (Qo5 c (QgH a.1 b d)) ?_;cases triB c<;>exact Qa _
theorem Qky{c:Clocks}(h:clkB c=true):Dims c:=by
 simp only[clkB,X5,Bool.not_eq_true',X6,decide_eq_false_iff_not]at h;have a:c.Far.length=c.Segments.length+1:=by
  have:(c.Far.length:Int)=((c.Segments.length+1:Nat):Int):=by simpa[bne]using h.1.2
  omega
 exact QgH h.1.1 a h.2.2.1
theorem QgU{S B:Type}{step:Nat->S->Option (Ctl S B)}{s0:S}(a:Nat->S)(k:Nat)(p:Nat->Bool)(m b:B)(h0:a 0=s0)
  (e:∀i,i<k->(∀j,j<i->p j=true)->Ev (λn=>step n (a i)) (bif p i then .cont (a (i+1))else .done m))(r:(∀j,j<k->p j=true)->Ev (λn=>step n (a k)) (.done b)):
  Ev (λn=>Go.Sw.iter (step n) n s0) (bif (List.range k).all p then b else m):=by
 rcases Qbl p k with h|⟨j,l,g,f⟩
 .rw[QjZ.2 h];exact Ex a k h0 (λi d=>(e i d λj s=>h j (by omega)).eq (by rw[h i d];rfl)) (r h)
 .have:(List.range k).all p=false:=by
   rw[Bool.eq_false_iff];intro q;rw[QjZ.1 q j l]at g;cases g
  rw[this];exact Ex a j h0 (λi d=>(e i (by omega) λj s=>f j (by omega)).eq (by rw[f i d];rfl)) ((e j l f).eq (by rw[g];rfl))
structure FewF (f:Field):Prop where
 runs:f.Runners.length<=6
 pairs:f.Pairs.length<=3
 segs:f.Clocks.Segments.length<=4
 far:f.Clocks.Far.length<=6
 row:∀r∈f.Clocks.Far,r.length<=8
 keys:∀r∈f.Runners,r.Keys.length<=5
 wlds:∀r∈f.Runners,r.Worlds.length<=4
 outs:∀r∈f.Runners,∀w∈r.Worlds,w.length<=4
theorem FewF.clk{f:Field}(h:FewF f):ClkW f.Clocks:=⟨by have:=h.segs;omega,by have:=h.far;omega,λr hr=>by have:=h.row r hr;omega⟩
def fineO(c:Clocks)(x:Outcome):Bool:=decide (-1<=x.Seg)&&(decide (x.Seg<(c.Segments.length:Int))&&(decide (-288230376151711744<=x.Lo)&&(decide (x.Lo<=x.Hi)&&decide (x.Hi<=288230376151711744))))
def outB(c:Clocks)(x:Outcome):Bool:=bif x.Out then x==({Out:=true,Seg:=(-1),Lo:=0,Hi:=0:Outcome})else fineO c x
theorem QhJ(c:Clocks)(w:ClkW c)(h:clkB c=true)(x:Outcome):Ev (λn=>F_dp n c x) (bif outB c x then 0 else 230):=by
 unfold F_dp;refine Ea (Qmw c w) ?_;rw[h];refine QK (Ea (v:=fineO c x) (Ei λ_=>Ei λ_=>Ei λ_=>Ei λ_=>Qa _) ?_);refine Ea (v:=outB c x) ?_ ?_
 .unfold outB F_hc;exact YE (λ_=>Ea (Qa _) (Qa _)) (λ_=>Qa _)
 .cases outB c x<;>exact Qa _
def pairBad(p last:Pair):Bool:=decide (p.A<1)||(decide (p.B<=p.A)||(decide (9999<p.B)||(decide (p.A<last.A)||((p.A==last.A)&&decide (p.B<=last.B)))))
def lastP(f:Field):Nat->Pair
 |0=>{A:=0,B:=0}
 |j+1=>(f.Pairs[j]?).getD {A:=0,B:=0}
def pairsB(f:Field):Bool:=(List.range f.Pairs.length).all λi=> !pairBad (lastP f (i+1)) (lastP f i)
theorem Qkn(f:Field)(b:f.Pairs.length<=1048576):Ev (λn=>iter (F_kw n f) n ({A:=0,B:=0:Pair},0)) (bif pairsB f then Ctl.cont ()else Ctl.done 240):=by
 unfold pairsB;refine QgU (λi=>(lastP f i,(i:Int))) f.Pairs.length _ _ _ rfl (λi hi _=>?_) (λ_=>?_)
 .have a:=atN b hi;have e:lastP f (i+1)=f.Pairs[i]:=by show(f.Pairs[i]?).getD _=_;rw[XS hi];rfl
  unfold F_kw;simp only[a.lt,cond_true,a.ix,XR,a.nx,e];refine Ea (v:=pairBad f.Pairs[i] (lastP f i)) ?_ ?_
  .unfold pairBad;exact Qf λ_=>Qf λ_=>Qf λ_=>Qf λ_=>Ei λ_=>Qa _
  .cases pairBad f.Pairs[i] (lastP f i)<;>exact Qa _
 .unfold F_kw;simp only[Yt,cond_false];exact Qa _
theorem Qks(l:List (List Outcome))(j:l.length<=1048576)(k:l.flatten.length<=1048576):Ev (λn=>F_cr n l) l.flatten:=by
 have b:∀i,((l.take i).flatten).length<=l.flatten.length:=by
  intro i
  conv=>rhs;rw[<- XG i l]
  rw[Xw,Vb];omega
 have a:∀i x,At l i x->(l.take (i+1)).flatten=(l.take i).flatten++x:=by
  intro i x d;rw[d.take,Xw];simp
 unfold F_cr;refine Ea (v:=(l.flatten.length:Int)) ?_ (Ea (v:=[]) ?_ (Ea (v:=l.flatten) ?_ (Qa _)))
 .refine(Ex (λi=>((((l.take i).flatten).length:Int),(i:Int))) l.length rfl (λi f=>?_) ?_)
  .have d:=atN j f;have g:=b (i+1);rw[a i _ d,Vb]at g;have e:IntKind.i64.wrap ((((l.take i).flatten).length:Int)+((l[i]).length:Int))=((((l.take i).flatten).length+(l[i]).length:Nat):Int):=by rw[Qu (by omega) (by omega)];omega
   unfold F_ly;simp only[d.lt,cond_true,d.ix,XR,d.nx,e,QD (show¬((((l.take i).flatten).length+(l[i]).length:Nat):Int)<0 by omega),cond_false];rw[a i _ d,Vb];exact Qa _
  .unfold F_ly;simp only[Yt,cond_false,Vi];exact Qa _
 .unfold F_fu;simp only[QD (show¬(l.flatten.length:Int)<0 by omega),cond_false,XR,Int.sub_zero];have e:IntKind.i64.wrap (l.flatten.length:Int)=(l.flatten.length:Int):=Qu (by omega) (by omega);rw[e];by_cases h:0<(l.flatten.length:Int)
  .rw[QN h];have:room (l.flatten.length:Int)=some l.flatten.length:=by
    unfold room;rw[QN h,QN (show(l.flatten.length:Int)<=4294967296 by omega)];rfl
   rw[this];exact Qa _
  .rw[QD h];exact Qa _
 .refine(Ex (λi=>((l.take i).flatten,(i:Int))) l.length rfl (λi f=>?_) ?_)
  .have d:=atN j f;have g:=b (i+1);rw[a i _ d,Vb]at g;unfold F_mm;simp only[d.lt,cond_true,d.ix,XR,d.nx,Qbk _ _ (show((l.take i).flatten).length+(l[i]).length<=4294967296 by omega)];rw[a i _ d];exact Qa _
  .unfold F_mm;simp only[Yt,cond_false,Vi];exact Qa _
def lastB(f:Field):Nat->Int
 |0=>0
 |j+1=>((f.Runners[j]?).map (·.Bib)).getD 0
def keys0(f:Field):Nat:=((f.Runners[0]?).map (·.Keys.length)).getD 0
def runBad(f:Field)(last:Int)(r:Runner):Bool:=decide (r.Bib<=last)||(decide (9999<r.Bib)||(((r.Keys.length:Int) != (keys0 f:Int))||((r.Worlds.length:Int) != ((f.Pairs.length+1:Nat):Int))))
def runB(f:Field)(i:Nat):Bool:=match f.Runners[i]? with
 |some r=> !runBad f (lastB f i) r&&r.Worlds.flatten.all (outB f.Clocks)
 |none=>true
def runsB(f:Field):Bool:=(List.range f.Runners.length).all (runB f)
theorem QnA{l:List (List Outcome)}(h:∀w∈l,w.length<=4):l.flatten.length<=4*l.length:=by
 induction l with
 |nil=>simp
 |cons w r b=>
  have d:=h w (Vd ..);have e:=b λx a=>h x (Ve _ a);rw[Vu,Vb,X9];omega
theorem QnK(f:Field)(k:FewF f)(h:clkB f.Clocks=true):Ev (λn=>iter (F_lf n f) n (0,0)) (bif runsB f then Ctl.cont ()else Ctl.done 240):=by
 have q:=k.runs;have p:=k.pairs;unfold runsB;refine QgU (λi=>(lastB f i,(i:Int))) f.Runners.length _ _ _ rfl (λi hi _=>?_) (λ_=>?_)
 .have a:=atN (by omega) hi;have e:lastB f (i+1)=(f.Runners[i]).Bib:=by show((f.Runners[i]?).map (·.Bib)).getD 0=_;rw[XS hi];rfl
  have l:0<f.Runners.length:=by omega
  have g:idx f.Runners 0=some f.Runners[0]:=Qq (i:=0) (XS l);have d:keys0 f=(f.Runners[0]).Keys.length:=by unfold keys0;rw[XS l];rfl
  unfold F_lf runB;rw[a.get];simp only[a.lt,cond_true,a.ix,XR,a.nx,g,Yb (show f.Pairs.length<=1048576 by omega)];refine Ea (v:=runBad f (lastB f i) f.Runners[i]) ?_ ?_
  .unfold runBad;rw[d];exact Qf λ_=>Qf λ_=>Qf λ_=>Qa _
  .cases runBad f (lastB f i) f.Runners[i]with
   |true=>exact Qa _
   |false=>
    have r:=k.wlds _ a.mem;have m:=QnA (k.outs _ a.mem);simp only[cond_false,Xi,Bool.true_and];refine Ea (Qks _ (by omega) (by omega)) ?_;refine Ea (QL (f.Runners[i]).Worlds.flatten (outB f.Clocks) (Ctl.done (Ctl.done (Ctl.done 240))) (Ctl.cont ()) (by omega) (λj x b=>?_) ?_) ?_
    .unfold F_mn;simp only[b.lt,cond_true,b.ix,XR,b.nx];refine Ea (QhJ _ k.clk h x) ?_;cases outB f.Clocks x<;>exact Qa _
    .unfold F_mn;simp only[Yt,cond_false];exact Qa _
    .cases(f.Runners[i]).Worlds.flatten.all (outB f.Clocks)with
     |false=>exact Qa _
     |true=>simp only[cond_true, <- e];exact Qa _
 .unfold F_lf;simp only[Yt,cond_false];exact Qa _
def wld(r:Runner)(w:Nat):List Outcome:=(r.Worlds[w]?).getD []
def openW(f:Field)(w:Nat):Bool:= !(f.Runners.any λr=>(wld r w).isEmpty)
def possB(f:Field):Bool:=(List.range (f.Pairs.length+1)).any (openW f)
def WldOk(f:Field):Prop:=∀r∈f.Runners,r.Worlds.length=f.Pairs.length+1
theorem Qd6{f:Field}(h:WldOk f){r:Runner}(a:r∈f.Runners){w:Nat}(b:w<f.Pairs.length+1):idx r.Worlds (w:Int)=some (wld r w):=by
 have:w<r.Worlds.length:=by rw[h r a];exact b
 unfold wld;rw[Qq (XS this),XS this];rfl
theorem Qiz(f:Field)(k:FewF f)(h:WldOk f){w:Nat}(b:w<f.Pairs.length+1):Ev (λn=>F_cz n f.Runners (w:Int)) (f.Runners.any λr=>(wld r w).isEmpty):=by
 have d:=k.runs;unfold F_cz F_jj;refine Ev.contains f.Runners (λr=>(wld r w).isEmpty) (λn x=>F_bq n x (w:Int)) (by omega) λx a=>?_;unfold F_bq;rw[Qd6 h a b];exact Ea (Qa _) ((Qa _).eq (QaC _))
theorem Qd0{α:Type}(l:List α)(p:α->Bool):(l.all λx=> !p x)= !l.any p:=by rw[List.not_any_eq_all_not]
theorem Qmr(f:Field)(k:FewF f)(h:WldOk f):Ev (λn=>F_ds n f) (possB f):=by
 have b:=k.pairs;unfold F_ds;have:Ev (λn=>iter (F_lj n f) n 0) (bif (List.range (f.Pairs.length+1)).all (λi=> !openW f i)then Ctl.cont ()else Ctl.done true):=by
  refine Yq (f.Pairs.length+1) _ _ _ (λi a=>?_) ?_
  .unfold F_lj;simp only[Yb (show f.Pairs.length<=1048576 by omega),ltN a,cond_true,Yb (show i<=1048576 by omega)];refine Ea (Qiz f k h a) ?_;unfold openW;cases f.Runners.any λr=>(wld r i).isEmpty<;>exact Qa _
  .unfold F_lj;simp only[Yb (show f.Pairs.length<=1048576 by omega),geN (X2 _),cond_false];exact Qa _
 refine Ea this ?_;unfold possB;rw[Qd0];cases(List.range (f.Pairs.length+1)).any (openW f)<;>exact Qa _
def fieldB(f:Field):Bool:=(clkB f.Clocks&& !(decide (16<(f.Pairs.length:Int))||(decide ((f.Runners.length:Int)<1)||decide (4000<(f.Runners.length:Int)))))&&(pairsB f&&(runsB f&&possB f))
theorem Qef{f:Field}(h:runsB f=true):WldOk f:=by
 intro r b;obtain⟨i,a,e⟩:=List.mem_iff_getElem.1 b;have:=QjZ.1 h i a;unfold runB at this;rw[XS a,e]at this;simp only[runBad,X5,Bool.not_eq_true',X6]at this;have q:(r.Worlds.length:Int)=((f.Pairs.length+1:Nat):Int):=by simpa[bne]using this.1.2.2.2
 omega
theorem QhM(f:Field)(k:FewF f):Ev (λn=>F_ak n f) (bif fieldB f then 0 else 240):=by
 unfold F_ak fieldB;refine Ea (v:= !(clkB f.Clocks&& !(decide (16<(f.Pairs.length:Int))||(decide ((f.Runners.length:Int)<1)||decide (4000<(f.Runners.length:Int)))))) ?_ ?_
 .refine Ea (Qmw _ k.clk) ?_;cases clkB f.Clocks with
  |false=>exact Qa _
  |true=>
   simp only[Bool.true_and,Bool.not_not];exact QK (Qf λ_=>Qf λ_=>Qa _)
 .cases a:clkB f.Clocks&& !(decide (16<(f.Pairs.length:Int))||(decide ((f.Runners.length:Int)<1)||decide (4000<(f.Runners.length:Int))))with
  |false=>exact Qa _
  |true=>
   have d:clkB f.Clocks=true:=by simp only[X5]at a;exact a.1
   simp only[Xh,cond_false,Bool.true_and];refine Ea (Qkn f (by have:=k.pairs;omega)) ?_;cases pairsB f with
   |false=>exact Qa _
   |true=>
    refine Ea (QnK f k d) ?_;cases b:runsB f with
    |false=>exact Qa _
    |true=>
     refine Ea (Qmr f k (Qef b)) ?_;cases possB f<;>exact Qa _
structure FieldOk (f:Field):Prop where
 few:FewF f
 dims:Dims f.Clocks
 wlds:WldOk f
 outs:∀r∈f.Runners,∀w x,x∈wld r w->outB f.Clocks x=true
 ok:fieldB f=true
theorem Qnl{f:Field}(h:runsB f=true){r:Runner}(b:r∈f.Runners):r.Worlds.flatten.all (outB f.Clocks)=true:=by
 obtain⟨i,a,e⟩:=List.mem_iff_getElem.1 b;have:=QjZ.1 h i a;unfold runB at this;rw[XS a,e]at this;simp only[X5]at this;exact this.2
theorem Qfm{f:Field}(k:FewF f)(h:fieldB f=true):FieldOk f:=by
 have b:=h;simp only[fieldB,X5]at b;obtain⟨⟨e,_⟩,_,d,_⟩:=b;refine⟨k,Qky e,Qef d,λr g w x a=>?_,h⟩;refine Xx.1 (Qnl d g) x ?_;unfold wld at a;cases q:r.Worlds[w]? with
 |none=>rw[q]at a;cases a
 |some l=>rw[q]at a;exact List.mem_flatten.2 ⟨l,List.mem_of_getElem? q,a⟩
theorem Qnh{f:Field}(o:FieldOk f){r:Runner}(a:r∈f.Runners)(w:Nat):(wld r w).length<=4:=by
 unfold wld;cases q:r.Worlds[w]? with
 |none=>simp
 |some l=>exact o.few.outs r a l (List.mem_of_getElem? q)
def cmpL:List Int->List Int->Int
 |[],[]=>0
 |[],_::_=> -1
 |_::_,[]=>1
 |x::a,y::b=>bif cmpI x y != 0 then cmpI x y else cmpL a b
theorem QnR(a b:List Int)(B:a.length<=1048576)(w:b.length<=1048576):Ev (λn=>F_ae n a b) (cmpL a b):=by
 unfold F_ae;have g:∀(r:List Int) (i:Nat),a.drop i=r->i<=a.length->i<=b.length->∃d:Ctl Unit Int,EvI (λn=>F_fa n a b) (i:Int) d/\(match d with|.cont _=>(bif decide ((a.length:Int)<(b.length:Int))then(-1:Int)else 0)|.done v=>v)=cmpL r (b.drop i):=by
  intro r
  induction r with
  |nil=>
   intro i j p m;refine⟨.cont (),Ej ?_,?_⟩
   .unfold F_fa;simp only[QU j p,cond_false];exact Qa _
   .have e:i=a.length:=by have:=Xu.1 j;omega
    cases q:b.drop i with
    |nil=>
     have:=Xu.1 q;simp only[QD (show¬(a.length:Int)<(b.length:Int)by omega),cond_false,cmpL]
    |cons y s=>
     have:i<b.length:=by
      rcases Nat.lt_or_ge i b.length with z|z
      .exact z
      .rw[Xt z]at q;cases q
     simp only[QN (show(a.length:Int)<(b.length:Int)by omega),cond_true,cmpL]
  |cons x r t=>
   intro i j p m;obtain⟨e,u⟩:=Qp (by omega) j;by_cases l:b.length<=i
   .refine⟨.done 1,Ej ?_,?_⟩
    .unfold F_fa;simp only[e.lt,cond_true,e.ix,XR,QN (show(b.length:Int)<=(i:Int)by omega)];exact Qa _
    .rw[Xt l];rfl
   .have f:i<b.length:=by omega
    rw[Xs f];cases q:(cmpI x b[i] != 0)with
    |true=>
     refine⟨.done (cmpI x b[i]),Ej ?_,?_⟩
     .unfold F_fa;simp only[e.lt,cond_true,e.ix,XR,QD (show¬(b.length:Int)<=(i:Int)by omega),cond_false,Qq (XS f)];refine Ea (QeV _ _) ?_;rw[q];exact Qa _
     .simp only[cmpL,q,cond_true]
    |false=>
     obtain⟨d,k,h⟩:=t (i+1) u (by have:=e.lt';omega) (by omega);refine⟨d,Ew ?_ k,?_⟩
     .unfold F_fa;simp only[e.lt,cond_true,e.ix,XR,QD (show¬(b.length:Int)<=(i:Int)by omega),cond_false,Qq (XS f),e.nx];refine Ea (QeV _ _) ?_;rw[q];exact Qa _
     .simp only[cmpL,q,cond_false];exact h
 obtain⟨d,k,h⟩:=g a 0 rfl (X3 _) (X3 _);rw[List.drop_zero]at h;refine Ea k.ev ?_;rw[<- h];cases d with
 |done v=>exact Qa _
 |cont _=>exact YE (λ_=>Qa _) (λ_=>Qa _)
def sg(x:Outcome):Nat:=(x.Seg+1).toNat
theorem sg_ok{c:Clocks}{x:Outcome}(e:c.Segments.length<=511)(h:outB c x=true)(a:x.Out=false):sg x<c.Segments.length+1/\IntKind.i64.wrap (x.Seg+1)=(sg x:Int):=by
 unfold outB at h;rw[a]at h;simp only[cond_false,fineO,X5,decide_eq_true_eq]at h;obtain⟨b,d,_⟩:=h;unfold sg;rw[Qu (by omega) (by omega)];omega
def keysF(f:Field)(k:Nat):List Int:=((f.Runners[k]?).map (·.Keys)).getD []
theorem QdV{f:Field}{k:Nat}(a:k<f.Runners.length):idx f.Runners (k:Int)=some f.Runners[k]/\keysF f k=(f.Runners[k]).Keys:=by
 unfold keysF;exact⟨Qq (XS a),by rw[XS a];rfl⟩
theorem QcG{f:Field}(o:FieldOk f){k:Nat}(a:k<f.Runners.length):(f.Runners[k]).Keys.length<=1048576:=by have:=o.few.keys _ (Vm a);omega
def wldF(f:Field)(k w:Nat):List Outcome:=((f.Runners[k]?).map (wld · w)).getD []
theorem Qni{f:Field}{k:Nat}(a:k<f.Runners.length)(w:Nat):wldF f k w=wld f.Runners[k] w:=by
 unfold wldF;rw[XS a];rfl
theorem QdN{f:Field}(o:FieldOk f){k w:Nat}(a:k<f.Runners.length)(d:w<f.Pairs.length+1):idx f.Runners (k:Int)=some f.Runners[k]/\idx (f.Runners[k]).Worlds (w:Int)=some (wldF f k w)/\(wldF f k w).length<=4/\ ∀y∈wldF f k w,outB f.Clocks y=true:=by
 rw[Qni a];exact⟨Qq (XS a),Qd6 o.wlds (Vm a) d,Qnh o (Vm a) w,λy b=>o.outs _ (Vm a) w y b⟩
def cntR(p:Nat->Bool)(k:Nat):Nat:=((List.range k).filter p).length
theorem Qdk(p:Nat->Bool)(k:Nat):cntR p (k+1)=cntR p k+(bif p k then 1 else 0):=by
 unfold cntR;rw[XA,List.filter_append,Vb];cases h:p k<;>simp[h]
theorem QjB(p:Nat->Bool)(k:Nat):cntR p k<=k:=by
 unfold cntR;exact X4 (List.length_filter_le ..) (by simp)
theorem Qdi{β:Type}(g:β->Nat->β)(b:β)(k:Nat):(List.range (k+1)).foldl g b=g ((List.range k).foldl g b) k:=by rw[XA,XK];rfl
def bibF(f:Field)(i:Nat):Int:=((f.Runners[i]?).map (·.Bib)).getD 0
theorem Qh9{α T:Type}{step:Nat->Int->Option (List T×Ctl Int Unit)}(l:List α)(g:α->T)(k:l.length<=1048576)
  (j:∀i x,At l i x->Ev (λn=>step n (i:Int)) ([g x],.cont ((i+1:Nat):Int)))(h:Ev (λn=>step n (l.length:Int)) ([],.done ())):EvL step 0 (l.map g,()):=by
 have loop:∀(r:List α) (i:Nat),l.drop i=r->i<=l.length->EvL step (i:Int) (r.map g,()):=by
  intro r
  induction r with
  |nil=>
   intro i a e;have:i=l.length:=by have:=Xu.1 a;omega
   subst this;exact EvL.done h
  |cons x r f=>
   intro i a e;obtain⟨d,b⟩:=Qp (by omega) a;exact EvL.cont (j i x d) (f (i+1) b (by have:=d.lt';omega))
 exact loop l 0 rfl (X3 _)
abbrev MapI:=List (Int×Int)
def amtS(d k:Int)(m:MapI)(p:Prize):MapI:=bif (p.Distance==d)&&(p.Category==k)then Q5 m p.Rank p.Amount else m
def amtF(c:Course)(d k:Int):MapI:=c.Prizes.foldl (amtS d k) []
theorem QiE(c:Course)(d k:Int)(a:c.Prizes.length<=1048576):Ev (λn=>F_aw n c d k) (amtF c d k):=by
 unfold F_aw;refine Ea (Qbq (step:=λn=>F_kk n c d k) c.Prizes (amtS d k) [] (λm i=>(m,(i:Int))) (λm=>m) (by omega) rfl (λi x m ha _=>?_) ?_) (Qa _)
 .unfold F_kk;simp only[ha.lt,cond_true,ha.ix,XR,ha.nx];refine Ea (v:=(x.Distance==d)&&(x.Category==k)) (Ei λ_=>Qa _) ?_;unfold amtS;cases(x.Distance==d)&&(x.Category==k)<;>exact Qa _
 .unfold F_kk;simp only[Yt,cond_false];exact Qa _
def keysS(m:MapI):List Int:=QaD ltI (m.map Prod.fst)
theorem QfL(m:MapI):(keysS m).length=m.length:=by unfold keysS;rw[(QS _ _).length_eq,Va]
theorem Qit(m:MapI)(b:m.length<=1048576):Ev (λn=>F_ec n m) (keysS m):=by
 unfold F_ec QkD;have d:Nat.ble (List.map Prod.fst m).length Q1=true:=Qjp (by rw[Va];exact b);rw[d];refine Qga (Ev.anyP λp a=>?_);have:p.length=m.length:=by rw[a.length_eq,Va]
 rw[Qg2 p (by omega),QfM a];exact Qa _
def ordP(m:MapI):List (Int×Int):=(keysS m).map λk=>(k,QI m k 0)
theorem Qix(m:MapI)(b:m.length<=1048576):Ev (λn=>F_bd n m) (ordP m,()):=by
 unfold F_bd F_ja;simp only[XR];refine Ea (Qit m b) ?_;have h:=QfL m;refine Ea (Qh9 (step:=λn=>F_kt n m (keysS m)) (keysS m) (λk=>(k,QI m k 0)) (by omega) (λi x a=>?_) ?_).ev ((Qa _).eq ?_)
 .unfold F_kt;simp only[a.lt,cond_true,a.ix,XR,a.nx];exact Qa _
 .unfold F_kt;simp only[Yt,cond_false];exact Qa _
 .unfold ordP;simp
theorem QlP(m:MapI):(ordP m).length=m.length:=by unfold ordP;rw[Va,QfL]
def checkV(e:Int)(c:Course)(f:Field)(d k:Int):Int:=
 bif e != 0 then e else bif decide (d<0)||(decide ((c.Distances.length:Int)<=d)||(decide (k< -1)||decide ((c.Categories.length:Int)<=k)))then 310 else bif fieldB f then 0 else 240
theorem Qki(c:Course)(f:Field)(d k e:Int)(he:Ev (λn=>F_w n c) e)(a:FewF f):Ev (λn=>F_as n c f d k) (checkV e c f d k):=by
 unfold F_as checkV;refine Ea he ?_;refine YE (λ_=>Qa _) λ_=>?_;refine Ea (v:=decide (d<0)||(decide ((c.Distances.length:Int)<=d)||(decide (k< -1)||decide ((c.Categories.length:Int)<=k)))) (Qf λ_=>Qf λ_=>Qf λ_=>Qa _) ?_;refine YE (λ_=>Qa _) λ_=>?_;refine Ea (QhM f a) ?_;cases fieldB f<;>exact Qa _
theorem QdE{e:Int}{c:Course}{f:Field}{d k:Int}(h:(checkV e c f d k != 0)=false):fieldB f=true:=by
 unfold checkV at h;cases q:(e != 0)with
 |true=>rw[q]at h;simp only[cond_true]at h;rw[q]at h;cases h
 |false=>
  rw[q]at h;cases a:(decide (d<0)||(decide ((c.Distances.length:Int)<=d)||(decide (k< -1)||decide ((c.Categories.length:Int)<=k))))with
  |true=>rw[a]at h;simp at h
  |false=>
   rw[a]at h;cases b:fieldB f with
   |true=>rfl
   |false=>rw[b]at h;simp at h
def payP(m:MapI):List Payment:=(ordP m).map λp=>{Bib:=p.1,Amount:=p.2}
theorem QhI(m:MapI)(b:m.length<=1048576):Ev (λn=>F_az n m) (payP m):=by
 unfold F_az F_bo;simp only[XR];refine Ea (Qix m b) ?_;have a:∀(l:List (Int×Int)) (s:List Payment),s.length+l.length<=1048576->Ev (λn=>Qcw (F_kz n) l s) (.cont (s++l.map λp=>({Bib:=p.1,Amount:=p.2}:Payment))):=by
  intro l
  induction l with
  |nil=>intro s _;exact(Qa _).eq (by simp)
  |cons x l d=>
   intro s h;rw[X9]at h;have step:Ev (λn=>F_kz n s x) (.cont (s++[({Bib:=x.1,Amount:=x.2}:Payment)])):=by
    unfold F_kz;rw[QaF (by omega)];exact Qa _
   refine Ea step ((d _ (by simp;omega)).eq ?_);simp
 refine Ea (a (ordP m) [] (by rw[QlP];simpa using b)) ((Qa _).eq ?_);simp[payP]
theorem few25(f:Field)(w:Field.wf f):∃b,Ev (λn=>F_dc n f) b/\(b=true->FewF f):=by
 obtain⟨⟨⟨B,_⟩,⟨z,p⟩,_⟩,⟨E,_⟩,⟨L,g⟩,_⟩:=w;have d:∀r∈f.Runners,r.Keys.length<=1048576/\r.Worlds.length<=1048576/\ ∀x∈r.Worlds,x.length<=1048576:=λr a=>⟨(g r a).2.1.1,(g r a).2.2.1.1,λx m=>((g r a).2.2.1.2 x m).1⟩;have P:Runner->Bool:=λr=>true
 let okR:Runner->Bool:=λr=> !(decide (5<(r.Keys.length:Int))||decide (4<(r.Worlds.length:Int)))&&r.Worlds.all λx=> !decide (4<(x.length:Int))
 have q:Ev (λn=>iter (F_kp n f) n 0) (bif f.Runners.all okR then Ctl.cont ()else Ctl.done false):=by
  refine QL f.Runners okR _ _ (by omega) (λi x e=>?_) ?_
  .obtain⟨N,O,H⟩:=d x e.mem;unfold F_kp;simp only[e.lt,cond_true,e.ix,XR,e.nx];refine Ea (v:=decide (5<(x.Keys.length:Int))||decide (4<(x.Worlds.length:Int))) (Qf λ_=>Qa _) ?_;show Ev _ (bif !(decide (5<(x.Keys.length:Int))||decide (4<(x.Worlds.length:Int)))&&x.Worlds.all (λx=> !decide (4<(x.length:Int)))then _ else _);cases decide (5<(x.Keys.length:Int))||decide (4<(x.Worlds.length:Int))with
   |true=>exact Qa _
   |false=>
    simp only[cond_false,Xi,Bool.true_and];refine Ea (QL x.Worlds (λx=> !decide (4<(x.length:Int))) (Ctl.done (Ctl.done (Ctl.done false))) (Ctl.cont ()) (by omega) (λj y l=>?_) ?_) ?_
    .unfold F_ls;simp only[l.lt,cond_true,l.ix,XR,l.nx];cases decide (4<(y.length:Int))<;>exact Qa _
    .unfold F_ls;simp only[Yt,cond_false];exact Qa _
    .cases x.Worlds.all λx=> !decide (4<(x.length:Int))<;>exact Qa _
  .unfold F_kp;simp only[Yt,cond_false];exact Qa _
 have u:Ev (λn=>iter (F_jl n f) n 0) (bif f.Clocks.Far.all (λx=> !decide (8<(x.length:Int)))then Ctl.cont ()else Ctl.done false):=by
  refine QL f.Clocks.Far _ _ _ (by omega) (λi x e=>?_) ?_
  .unfold F_jl;simp only[e.lt,cond_true,e.ix,XR,e.nx];cases decide (8<(x.length:Int))<;>exact Qa _
  .unfold F_jl;simp only[Yt,cond_false];exact Qa _
 refine⟨f.Runners.all okR&&(f.Clocks.Far.all (λx=> !decide (8<(x.length:Int)))&&(decide ((f.Runners.length:Int)<=6)&&(decide ((f.Pairs.length:Int)<=3)&&(decide ((f.Clocks.Segments.length:Int)<=4)&&decide ((f.Clocks.Far.length:Int)<=6))))),?_,λh=>?_⟩
 .unfold F_dc;refine Ea q ?_;cases f.Runners.all okR with
  |false=>exact Qa _
  |true=>
   refine Ea u ?_;cases f.Clocks.Far.all (λx=> !decide (8<(x.length:Int)))with
   |false=>exact Qa _
   |true=>exact Ea (Ei λ_=>Ei λ_=>Ei λ_=>Qa _) (Qa _)
 .simp only[X5,decide_eq_true_eq]at h;obtain⟨t,s,J,M,G,F⟩:=h;have k:∀r∈f.Runners,r.Keys.length<=5/\r.Worlds.length<=4/\ ∀x∈r.Worlds,x.length<=4:=by
   intro r a;have:=Xx.1 t r a;simp only[okR,X5,Bool.not_eq_true',X6,decide_eq_false_iff_not]at this;refine⟨by omega,by omega,λx m=>?_⟩;have:=Xx.1 this.2 x m;simp only[Bool.not_eq_true',decide_eq_false_iff_not]at this;omega
  refine⟨by omega,by omega,by omega,by omega,λr a=>?_,λr a=>(k r a).1,λr a=>(k r a).2.1,λr a=>(k r a).2.2⟩;have:=Xx.1 s r a;simp only[Bool.not_eq_true',decide_eq_false_iff_not]at this;omega
theorem Qpb{f:Field}(h:runsB f=true){i:Nat}(hi:i<f.Runners.length):lastB f i<(f.Runners[i]).Bib:=by
 have:=QjZ.1 h i hi;unfold runB at this;rw[XS hi]at this;simp only[runBad,X5,Bool.not_eq_true',X6,decide_eq_false_iff_not]at this;omega
theorem Qe3{f:Field}(h:runsB f=true):∀(j i:Nat) (hi:i<f.Runners.length) (a:j<f.Runners.length),i<j->(f.Runners[i]).Bib<(f.Runners[j]).Bib
 |0,i,hi,a,hij=>by omega
 |j+1,i,hi,a,hij=>by
  have h1:=Qpb h a;have e:lastB f (j+1)=(f.Runners[j]).Bib:=by
   show((f.Runners[j]?).map (·.Bib)).getD 0=_;rw[XS (by omega)];rfl
  rw[e]at h1;by_cases q:i=j
  .subst q;exact h1
  .have:=Qe3 h j i hi (by omega) (by omega);omega
theorem FieldOk.runs{f:Field}(o:FieldOk f):runsB f=true:=by
 have:=o.ok;simp only[fieldB,X5]at this;exact this.2.2.1
theorem QnY{f:Field}(o:FieldOk f){i j:Nat}(hi:i<f.Runners.length)(a:j<f.Runners.length)(e:(f.Runners[i]).Bib=(f.Runners[j]).Bib):i=j:=by
 rcases Nat.lt_trichotomy i j with q|q|q
 .have:=Qe3 o.runs j i hi a q;omega
 .exact q
 .have:=Qe3 o.runs i j a hi q;omega
theorem QdZ{f:Field}{i:Nat}(hi:i<f.Runners.length):bibF f i=(f.Runners[i]).Bib:=by unfold bibF;rw[XS hi];rfl
def matchP(d k r:Int)(p:Prize):Bool:=(p.Distance==d)&&((p.Category==k)&&(p.Rank==r))
def amountS(c:Course)(d k r:Int):Int:=((c.Prizes.find? (matchP d k r)).map (·.Amount)).getD 0
theorem QgC(c:Course)(d k r:Int)(h:c.Prizes.length<=1048576):Ev (λn=>F_cs n c d k r) (amountS c d k r):=by
 unfold F_cs;have loop:∀(t:List Prize) (i:Nat),c.Prizes.drop i=t->i<=c.Prizes.length->EvI (λn=>F_jf n c d k r) (i:Int) (match t.find? (matchP d k r)with|some p=>Ctl.done p.Amount|none=>Ctl.cont ()):=by
  intro t
  induction t with
  |nil=>
   intro i e f;refine Ej ?_;unfold F_jf;simp only[QU e f,cond_false];exact Qa _
  |cons p t g=>
   intro i e f;obtain⟨a,b⟩:=Qp (by omega) e;have step:Ev (λn=>F_jf n c d k r (i:Int)) (bif matchP d k r p then .done (.done p.Amount)else .cont ((i+1:Nat):Int)):=by
    unfold F_jf;simp only[a.lt,cond_true,a.ix,XR,a.nx];refine Ea (v:=matchP d k r p) (Ei λ_=>Ei λ_=>Qa _) ?_;cases matchP d k r p<;>exact Qa _
   rw[List.find?_cons];cases q:matchP d k r p with
   |true=>rw[q]at step;exact Ej step
   |false=>rw[q]at step;exact Ew step (g (i+1) b (by have:=a.lt';omega))
 refine Ea (loop c.Prizes 0 rfl (X3 _)).ev ?_;unfold amountS;cases c.Prizes.find? (matchP d k r)<;>exact Qa _
theorem QjG(d k r:Int):∀(l:List Prize) (m:MapI),YV (l.foldl (amtS d k) m) r=match(l.filter (matchP d k r)).getLast? with|some p=>some p.Amount|none=>YV m r
 |[],m=>rfl
 |p::l,m=>by
  rw[XL,QjG d k r l];have e:YV (amtS d k m p) r=if matchP d k r p=true then some p.Amount else YV m r:=by
   unfold amtS matchP;cases b:p.Distance==d with
   |false=>simp
   |true=>
    cases f:p.Category==k with
    |false=>simp
    |true=>
     simp only[Bool.true_and,cond_true];rw[Qdd];by_cases q:r=p.Rank
     .simp[q]
     .have:(p.Rank==r)=false:=beq_false_of_ne λz=>q z.symm;simp[q,this]
  rw[e,Xd];by_cases q:matchP d k r p=true
  .rw[if_pos q,if_pos q];cases h:l.filter (matchP d k r)with
   |nil=>rfl
   |cons a t=>rw[List.getLast?_cons_cons];cases z:(a::t).getLast? with
    |none=>simp at z
    |some y=>rfl
  .rw[if_neg q,if_neg q]
theorem Qj3{c:Course}(h:(c.Prizes.map prizeKey).Nodup)(d k r:Int):(c.Prizes.filter (matchP d k r)).length<=1:=by
 have e:((c.Prizes.filter (matchP d k r)).map prizeKey).Nodup:=(List.filter_sublist.map prizeKey).nodup h;have f:∀p∈c.Prizes.filter (matchP d k r),prizeKey p={distance:=d,category:=k,rank:=r}:=by
  intro p g;have:=(Xe.1 g).2;simp only[matchP,X5,beq_iff_eq]at this;unfold prizeKey;rw[this.1,this.2.1,this.2.2]
 match hq:c.Prizes.filter (matchP d k r),e,f with
 |[],_,_=>simp
 |[a],_,_=>simp
 |a::b::t,e,f=>
  have j:=f a (by simp);have i:=f b (by simp);simp only[Vs,List.nodup_cons]at e;exact(e.1 (by rw[j,i];simp)).elim
structure PrizesOk (c:Course):Prop where
 keys:(c.Prizes.map prizeKey).Nodup
 pos:∀p∈c.Prizes,1<=p.Amount
theorem QhZ{c:Course}(h:courseE c=0):PrizesOk c:=by
 have d:numbersS c=true:=by
  unfold courseE at h;cases a:fitsS c with
  |false=>rw[a]at h;simp at h
  |true=>
   cases b:namesS c with
   |false=>rw[a,b]at h;simp at h
   |true=>
    cases f:numbersS c with
    |true=>rfl
    |false=>rw[a,b,f]at h;simp at h
 unfold numbersS at d;simp only[X5,decide_eq_true_eq,Xx]at d;obtain⟨_,_,_,_,_,_,_,a,b,_⟩:=d;refine⟨b,λp e=>?_⟩;have:=a p e;simp only[prizeS,inR,X5,decide_eq_true_eq]at this;omega
theorem Qpf{c:Course}(o:PrizesOk c)(d k r:Int):YV (amtF c d k) r=(c.Prizes.find? (matchP d k r)).map (·.Amount):=by
 unfold amtF;rw[QjG, <- List.head?_filter];have:=Qj3 o.keys d k r
 match h:c.Prizes.filter (matchP d k r),this with
 |[],_=>rfl
 |[a],_=>rfl
 |a::b::t,z=>exact absurd z (by simp)
theorem Qn3{c:Course}(o:PrizesOk c)(d k r:Int):QI (amtF c d k) r 0=amountS c d k r:=by
 have e:QI (amtF c d k) r 0=(YV (amtF c d k) r).getD 0:=by unfold QI;cases YV (amtF c d k) r<;>rfl
 rw[e,Qpf o];rfl
theorem QhR(c:Course)(w:CourseOk c)(q:PartsOk c)(k:FewL c)(g:c.Ties.length<=1048576)(h:∀x∈c.Ties,Step.wf x){e:Int}(he:Ev (λn=>F_w n c) e)(h0:(e != 0)=false):courseE c=0:=by
 have f:e=0:=by simpa[bne]using h0
 subst f;cases a:fitsG c with
 |false=>
  have:Ev (λn=>F_w n c) 2:=by
   unfold F_w;refine Ea (QhL c w q k) ?_;rw[a];exact Qa _
  have:=he.uniq this;cases this
 |true=>
  unfold fitsG at a;simp only[X5,Xx,Bool.not_eq_true',X6,decide_eq_false_iff_not]at a;have ff:FewOk c:=⟨k.lens,k.name,λd b=>⟨by have:=(k.dist d b).1;omega,by have:=(k.dist d b).2;omega,by have:=(a.2 d b).2;omega⟩,k.ties⟩;exact(he.uniq (QfX c w q ff g h)).symm
theorem leN{a b:Nat}(h:a<b+1):decide ((a:Int)<=(b:Int))=true:=decide_eq_true (by omega)
theorem Qj5(b:Nat):decide (((b+1:Nat):Int)<=(b:Int))=false:=decide_eq_false (by omega)
theorem Qmd(x:Int):Ev (λn=>F_dt n x) (timeB x):=by
 unfold F_dt timeB inR;exact Ea (Ei λ_=>Qa _) (Qa _)
theorem Qmi(x y:Segment):Ev (λn=>F_ei n x y) (segLt x y):=by
 unfold F_ei segLt;exact Ea (Qf λ_=>Ei λ_=>Qa _) (Qa _)
theorem Qme(c:Clocks)(d:c.Segments.length<=1048576):Ev (λn=>iter (F_jz n c) n 0) (bif segsB c then Ctl.cont ()else Ctl.done 160):=by
 unfold segsB;refine Yq c.Segments.length _ _ _ (λi e=>?_) ?_
 .have a:=atN d e;unfold F_jz;simp only[a.lt,cond_true,a.ix,XR,a.nx,a.get];refine Ea (v:=segBad c i (c.Segments[i])) ?_ ?_
  .unfold segBad;refine Qf λ_=>Qf λ_=>Qf λ_=>Qf λ_=>Ea (Qmd _) (Qf λ_=>?_);unfold prevSeg;refine Ei λh=>?_;have f:0<i:=by have:=of_decide_eq_true h;omega
   have b:i-1<c.Segments.length:=by omega
   rw[QeC d f (by omega) (XS b),XS b];simp only[XR];exact Ea (Qmi _ _) (Qa _)
  .cases segBad c i (c.Segments[i])<;>exact Qa _
 .unfold F_jz;simp only[Yt,cond_false];exact Qa _
theorem QkE(l:List Int)(q:Int->Bool):(List.range l.length).all (λu=> !q ((l[u]?).getD 0))= !l.any q:=by
 rw[X7,QjZ,Bool.not_eq_true',Bool.eq_false_iff];constructor
 .intro h e;obtain⟨x,d,b⟩:=Xy.1 e;obtain⟨i,a,f⟩:=List.mem_iff_getElem.1 d;have:=h i a;rw[XS a,f]at this;simp[b]at this
 .intro h i a;rw[XS a];cases z:q ((some l[i]).getD 0)with
  |false=>rfl
  |true=>exact(h (Xy.2 ⟨l[i],Vm a,z⟩)).elim
theorem Qmg(c:Clocks)(h0:c.Segments.length<=1048576)(q:∀r∈c.Far,r.length<=1048576)(l:c.Far.length=c.Segments.length+1):
  Ev (λn=>iter (F_lg n c) n 0) (bif rowsB c then Ctl.cont ()else Ctl.done 160):=by
 unfold rowsB;rw[l];refine Yq (c.Segments.length+1) _ _ _ (λi k=>?_) ?_
 .have d:i<c.Far.length:=by omega
  have g:=XS d;unfold F_lg;simp only[leN k,cond_true,Qq g,g,XR,Yb h0,Yb (show i<=1048576 by omega)];have j:(c.Far[i]).length<=1048576:=q _ (Vm d);refine Ea (v:=((c.Far[i]).length:Int) != ((c.Segments.length+1:Nat):Int)||((c.Far[i])[i]?.getD 1 != 0)) ?_ ?_
  .refine Qf λh=>?_;have a:(c.Far[i]).length=c.Segments.length+1:=by
    have:((c.Far[i]).length:Int)=((c.Segments.length+1:Nat):Int):=by simpa[bne]using h
    omega
   have e:i<(c.Far[i]).length:=by omega
   rw[Qq (XS e),XS e];exact Qa _
  .unfold rowB;cases m:(((c.Far[i]).length:Int) != ((c.Segments.length+1:Nat):Int))with
   |true=>exact Qa _
   |false=>
    have a:(c.Far[i]).length=c.Segments.length+1:=by
     have:((c.Far[i]).length:Int)=((c.Segments.length+1:Nat):Int):=by simpa[bne]using m
     omega
    simp only[Bool.false_or];cases(c.Far[i])[i]?.getD 1 != 0 with
    |true=>exact Qa _
    |false=>
     simp only[Bool.false_or,cond_false];rw[<- QkE,a];refine Ea (Yq (c.Segments.length+1) (λu=> !farBad (((c.Far[i])[u]?).getD 0)) (Ctl.done (Ctl.done (Ctl.done 160))) (Ctl.cont ()) (λu p=>?_) ?_) ?_
     .have f:u<(c.Far[i]).length:=by omega
      have b:=XS f;unfold F_mx;simp only[leN p,cond_true,Qq g,Qq b,b,XR,Option.getD_some,Yb (show u<=1048576 by omega)];refine Ea (v:=farBad (c.Far[i])[u]) (by unfold farBad;exact Qf λ_=>Qa _) ?_;cases farBad (c.Far[i])[u]<;>exact Qa _
     .unfold F_mx;simp only[Qj5,cond_false];exact Qa _
     .cases(List.range (c.Segments.length+1)).all λu=> !farBad (((c.Far[i])[u]?).getD 0)<;>exact Qa _
 .unfold F_lg;simp only[Qj5,cond_false];exact Qa _
theorem QnL(c:Clocks)(d:Dims c):Ev (λn=>iter (F_ki n c) n 0) (bif triB c then Ctl.cont ()else Ctl.done 160):=by
 have p:=d.segs;unfold triB;refine Yq (c.Segments.length+1) _ _ _ (λi a=>?_) ?_
 .unfold F_ki;have g:=(d.get a a).1;simp only[leN a,cond_true,Yb (show i<=1048576 by omega)];refine Ea (Yq (c.Segments.length+1) (λj=>(List.range (c.Segments.length+1)).all λk=> !decide (IntKind.i64.wrap (farG c i j+farG c j k)<farG c i k)) (Ctl.done (Ctl.done (Ctl.done 160))) (Ctl.cont ()) (λj b=>?_) ?_) ?_
  .unfold F_mt;have f:=(d.get a b).2;have h:=(d.get b b).1;simp only[leN b,cond_true,Yb (show j<=1048576 by omega)];refine Ea (Yq (c.Segments.length+1) (λk=> !decide (IntKind.i64.wrap (farG c i j+farG c j k)<farG c i k)) (Ctl.done (Ctl.done (Ctl.done (Ctl.done (Ctl.done 160))))) (Ctl.cont ()) (λk e=>?_) ?_) ?_
   .unfold F_mp;have m:=(d.get b e).2;have l:=(d.get a e).2;simp only[leN e,cond_true,Qq g,Qq f,Qq h,Qq m,Qq l,XR,Yb (show k<=1048576 by omega)];cases decide (IntKind.i64.wrap (farG c i j+farG c j k)<farG c i k)<;>exact Qa _
   .unfold F_mp;simp only[Qj5,cond_false];exact Qa _
   .cases(List.range (c.Segments.length+1)).all λk=> !decide (IntKind.i64.wrap (farG c i j+farG c j k)<farG c i k)<;>exact Qa _
  .unfold F_mt;simp only[Qj5,cond_false];exact Qa _
  .cases(List.range (c.Segments.length+1)).all λj=>(List.range (c.Segments.length+1)).all λk=> !decide (IntKind.i64.wrap (farG c i j+farG c j k)<farG c i k)<;>exact Qa _
 .unfold F_ki;simp only[Qj5,cond_false];exact Qa _
theorem Qjs(c:Clocks)(w:ClkW c):Ev (λn=>F_aq n c) (bif clkB c then 0 else 160):=by
 unfold F_aq clkB;simp only[Yb w.segs];refine Ea (Qf λ_=>Qa _) ?_;cases a:(decide (511<(c.Segments.length:Int))||((c.Far.length:Int) != ((c.Segments.length+1:Nat):Int)))with
 |true=>exact Qa _
 |false=>
  simp only[Xi,Bool.true_and,X6,decide_eq_false_iff_not]at a⊢;have b:c.Far.length=c.Segments.length+1:=by
   have:(c.Far.length:Int)=((c.Segments.length+1:Nat):Int):=by simpa[bne]using a.2
   omega
  refine QK (Ea (Qme c w.segs) ?_);cases segsB c with
  |false=>exact Qa _
  |true=>
   refine Ea (Qmg c w.segs w.row b) ?_;cases d:rowsB c with
   |false=>exact Qa _
   |true=>
    refine Ea (QnL c (QgH a.1 b d)) ?_;cases triB c<;>exact Qa _
theorem Qns(c:Clocks)(x:Outcome):outB c x= !(bif x.Out then((x.Seg != (-1))||((x.Lo != 0)||(x.Hi != 0)))else(decide (x.Seg<(-1))||(decide ((c.Segments.length:Int)<=x.Seg)||(decide (x.Lo<(-288230376151711744))||(decide (x.Hi<x.Lo)||decide (288230376151711744<x.Hi)))))):=by
 obtain⟨o,s,l,h⟩:=x;unfold outB;cases o with
 |true=>
  simp only[cond_true];rw[X7];simp[bne]
 |false=>
  simp only[cond_false,fineO];rw[X7];simp
theorem Qgy(c:Clocks)(w:ClkW c)(h:clkB c=true)(x:Outcome):Ev (λn=>F_cb n c x) (bif outB c x then 0 else 230):=by
 unfold F_cb;refine Ea (Qjs c w) ?_;rw[h];refine QK (Ea (v:= !outB c x) ?_ ?_)
 .rw[Qns,Bool.not_not];cases a:x.Out with
  |true=>
   simp only[cond_true,Xh,cond_false];exact Qf λ_=>Qf λ_=>(Qf λ_=>Qa _).eq (Bool.or_false _)
  |false=>
   simp only[cond_false,Xi,cond_true];exact Qf λ_=>Qf λ_=>Qf λ_=>Qf λ_=>Qa _
 .cases outB c x<;>exact Qa _
theorem QfN{α:Type}{l:List α}{i:Nat}(hl:l.length<=1048576)(hi:i<l.length):idx l (IntKind.i64.wrap (((i+1:Nat):Int)-1))=some l[i]:=
 QeC hl (Nat.succ_pos i) (by omega) (XS hi)
theorem Qkf(f:Field)(g:f.Pairs.length<=1048576):Ev (λn=>iter (F_kq n f) n 0) (bif pairsB f then Ctl.cont ()else Ctl.done 240):=by
 unfold pairsB;refine Yq f.Pairs.length _ _ _ (λi d=>?_) ?_
 .have b:=atN g d;have e:lastP f (i+1)=f.Pairs[i]:=by show(f.Pairs[i]?).getD _=_;rw[XS d];rfl
  unfold F_kq;simp only[b.lt,cond_true,b.ix,XR,b.nx,e];refine Ea (v:=decide ((f.Pairs[i]).A<1)||(decide ((f.Pairs[i]).B<=(f.Pairs[i]).A)||decide (9999<(f.Pairs[i]).B))) (Qf λ_=>Qf λ_=>Qa _) ?_;have a:pairBad f.Pairs[i] (lastP f i)=((decide ((f.Pairs[i]).A<1)||(decide ((f.Pairs[i]).B<=(f.Pairs[i]).A)||decide (9999<(f.Pairs[i]).B)))||(decide ((f.Pairs[i]).A<(lastP f i).A)||(((f.Pairs[i]).A==(lastP f i).A)&&decide ((f.Pairs[i]).B<=(lastP f i).B)))):=by
   unfold pairBad;simp only[Bool.or_assoc]
  rw[a];cases h:(decide ((f.Pairs[i]).A<1)||(decide ((f.Pairs[i]).B<=(f.Pairs[i]).A)||decide (9999<(f.Pairs[i]).B)))with
  |true=>exact Qa _
  |false=>
   simp only[X6,decide_eq_false_iff_not]at h;simp only[cond_false,Bool.false_or];refine Ea (v:=decide ((f.Pairs[i]).A<(lastP f i).A)||(((f.Pairs[i]).A==(lastP f i).A)&&decide ((f.Pairs[i]).B<=(lastP f i).B))) ?_ ?_
   .cases i with
    |zero=>
     have l:(decide ((f.Pairs[0]).A<(lastP f 0).A)||(((f.Pairs[0]).A==(lastP f 0).A)&&decide ((f.Pairs[0]).B<=(lastP f 0).B)))=false:=by
      have p:((f.Pairs[0]).A==(0:Int))=false:=beq_false_of_ne (by omega);show(decide ((f.Pairs[0]).A<0)||(((f.Pairs[0]).A==0)&&_))=false;rw[p,QD (show¬(f.Pairs[0]).A<0 by omega)];rfl
     rw[l];exact Qa _
    |succ j=>
     have m:lastP f (j+1)=f.Pairs[j]:=by show(f.Pairs[j]?).getD _=_;rw[XS (by omega)];rfl
     rw[m,QfN g (by omega)];simp only[QN (show 0<((j+1:Nat):Int)by omega),cond_true,XR];have k:((f.Pairs[j+1]).A==(f.Pairs[j]).A)=((f.Pairs[j]).A==(f.Pairs[j+1]).A):=by rw[X7];simp only[beq_iff_eq];exact⟨Eq.symm,Eq.symm⟩
     rw[k];exact Qf λ_=>Ei λ_=>Qa _
   .cases decide ((f.Pairs[i]).A<(lastP f i).A)||(((f.Pairs[i]).A==(lastP f i).A)&&decide ((f.Pairs[i]).B<=(lastP f i).B))<;>exact Qa _
 .unfold F_kq;simp only[Yt,cond_false];exact Qa _
theorem QnO(x:Int):Ev (λn=>F_ee n x) (inR 1 9999 x):=by
 unfold F_ee F_gz inR;exact Ea (Ea (Ei λ_=>Qa _) (Qa _)) (Qa _)
theorem Qmf(f:Field)(k:FewF f)(h:clkB f.Clocks=true):Ev (λn=>iter (F_kr n f) n 0) (bif runsB f then Ctl.cont ()else Ctl.done 240):=by
 have N:=k.runs;have P:=k.pairs;unfold runsB;refine QgU (λi=>(i:Int)) f.Runners.length _ _ _ rfl (λi H a=>?_) (λ_=>?_)
 .have d:=atN (by omega) H;have u:0<f.Runners.length:=by omega
  have p:idx f.Runners 0=some f.Runners[0]:=Qq (i:=0) (XS u);have q:keys0 f=(f.Runners[0]).Keys.length:=by unfold keys0;rw[XS u];rfl
  unfold F_kr runB;rw[d.get];simp only[d.lt,cond_true,d.ix,XR,d.nx,p,Yb (show f.Pairs.length<=1048576 by omega)];refine Ea (v:=runBad f (lastB f i) f.Runners[i]) ?_ ?_
  .have t:0<=lastB f i:=by
    cases i with
    |zero=>exact Int.le_refl _
    |succ j=>
     have E:lastB f (j+1)=(f.Runners[j]).Bib:=by show((f.Runners[j]?).map (·.Bib)).getD 0=_;rw[XS (by omega)];rfl
     have F:∀m,m<=j->∀(l:m<f.Runners.length),1<=(f.Runners[m]).Bib:=by
      intro m
      induction m with
      |zero=>
       intro _ l;have:=a 0 (by omega);unfold runB at this;rw[XS l]at this;simp only[runBad,X5,Bool.not_eq_true',X6,decide_eq_false_iff_not]at this;have z:lastB f 0=0:=rfl;omega
      |succ m M=>
       intro G l;have B:=M (by omega) (by omega);have:=a (m+1) (by omega);unfold runB at this;rw[XS l]at this;simp only[runBad,X5,Bool.not_eq_true',X6,decide_eq_false_iff_not]at this;have z:lastB f (m+1)=(f.Runners[m]).Bib:=by show((f.Runners[m]?).map (·.Bib)).getD 0=_;rw[XS (by omega)];rfl
       omega
     have:=F j (X2 _) (by omega);omega
   have e:runBad f (lastB f i) f.Runners[i]=(!inR 1 9999 (f.Runners[i]).Bib||((decide (0<(i:Int))&&decide ((f.Runners[i]).Bib<=lastB f i))||((((f.Runners[i]).Keys.length:Int) != ((f.Runners[0]).Keys.length:Int))||(((f.Runners[i]).Worlds.length:Int) != ((f.Pairs.length+1:Nat):Int))))):=by
    unfold runBad inR;rw[q];generalize((((f.Runners[i]).Keys.length:Int) != ((f.Runners[0]).Keys.length:Int))||(((f.Runners[i]).Worlds.length:Int) != ((f.Pairs.length+1:Nat):Int)))=z;cases i with
    |zero=>
     have J:lastB f 0=0:=rfl;rw[J];cases z with
     |true=>simp
     |false=>
      rw[X7];simp;omega
    |succ j=>
     have B:decide (0<((j+1:Nat):Int))=true:=QN (by omega);rw[B];cases z with
     |true=>simp
     |false=>
      rw[X7];simp;omega
   rw[e];refine Ea (QnO _) (Qf λ_=>?_);cases i with
   |zero=>
    have r:decide ((0:Int)<((0:Nat):Int))=false:=rfl;simp only[r,cond_false,Bool.false_and,Bool.false_or];exact Qf λ_=>Qa _
   |succ j=>
    have E:lastB f (j+1)=(f.Runners[j]).Bib:=by show((f.Runners[j]?).map (·.Bib)).getD 0=_;rw[XS (by omega)];rfl
    rw[E,QfN (by omega) (by omega)];simp only[QN (show 0<((j+1:Nat):Int)by omega),cond_true,XR,Bool.true_and];exact Qf λ_=>Qf λ_=>Qa _
  .cases runBad f (lastB f i) f.Runners[i]with
   |true=>exact Qa _
   |false=>
    have O:=k.wlds _ d.mem;have L:=k.outs _ d.mem;simp only[cond_false,Xi,Bool.true_and];have b:(f.Runners[i]).Worlds.flatten.all (outB f.Clocks)=(f.Runners[i]).Worlds.all λw=>w.all (outB f.Clocks):=by rw[List.all_flatten]
    rw[b];refine Ea (QL (f.Runners[i]).Worlds (λw=>w.all (outB f.Clocks)) (Ctl.done (Ctl.done (Ctl.done 240))) (Ctl.cont ()) (by omega) (λj x g=>?_) ?_) ?_
    .unfold F_mr;simp only[g.lt,cond_true,g.nx];refine Ea (QL x (outB f.Clocks) (Ctl.done (Ctl.done (Ctl.done (Ctl.done (Ctl.done 240))))) (Ctl.cont ()) (by have:=L x g.mem;omega) (λm y s=>?_) ?_) ?_
     .unfold F_my;simp only[g.ix,XR,s.lt,cond_true,s.ix,s.nx];refine Ea (Qgy _ k.clk h y) ?_;cases outB f.Clocks y<;>exact Qa _
     .unfold F_my;simp only[g.ix,XR,Yt,cond_false];exact Qa _
     .cases x.all (outB f.Clocks)<;>exact Qa _
    .unfold F_mr;simp only[Yt,cond_false];exact Qa _
    .cases(f.Runners[i]).Worlds.all λw=>w.all (outB f.Clocks)<;>exact Qa _
 .unfold F_kr;simp only[Yt,cond_false];exact Qa _
theorem QgD(f:Field)(k:FewF f)(h:WldOk f){w:Nat}(b:w<f.Pairs.length+1):Ev (λn=>F_fj n f (w:Int)) (openW f w):=by
 have d:=k.runs;unfold F_fj;refine Ea (QL f.Runners (λr=> !(wld r w).isEmpty) (Ctl.done false) (Ctl.cont ()) (by omega) (λi x a=>?_) ?_) ?_
 .unfold F_lu;have e:=h x a.mem;simp only[a.lt,cond_true,a.ix,XR,a.nx,QD (show¬(w:Int)<0 by omega),cond_false,QD (show¬(x.Worlds.length:Int)<=(w:Int)by omega),Qd6 h a.mem b,QaC];cases(wld x w).isEmpty<;>exact Qa _
 .unfold F_lu;simp only[Yt,cond_false];exact Qa _
 .unfold openW;rw[<- Qd0];cases f.Runners.all λr=> !(wld r w).isEmpty<;>exact Qa _
theorem Qmh(f:Field)(k:FewF f)(h:WldOk f):Ev (λn=>F_bu n f) (possB f):=by
 have b:=k.pairs;unfold F_bu;have:Ev (λn=>iter (F_la n f) n 0) (bif (List.range (f.Pairs.length+1)).all (λi=> !openW f i)then Ctl.cont ()else Ctl.done true):=by
  refine Yq (f.Pairs.length+1) _ _ _ (λi a=>?_) ?_
  .unfold F_la;simp only[leN a,cond_true,Yb (show i<=1048576 by omega)];refine Ea (QgD f k h a) ?_;cases openW f i<;>exact Qa _
  .unfold F_la;simp only[Qj5,cond_false];exact Qa _
 refine Ea this ?_;unfold possB;rw[Qd0];cases(List.range (f.Pairs.length+1)).any (openW f)<;>exact Qa _
theorem QfT(f:Field)(k:FewF f):Ev (λn=>F_ap n f) (bif fieldB f then 0 else 240):=by
 unfold F_ap fieldB;refine Ea (v:= !(clkB f.Clocks&& !(decide (16<(f.Pairs.length:Int))||(decide ((f.Runners.length:Int)<1)||decide (4000<(f.Runners.length:Int)))))) ?_ ?_
 .refine Ea (Qjs _ k.clk) ?_;cases clkB f.Clocks with
  |false=>exact Qa _
  |true=>
   simp only[Bool.true_and,Bool.not_not];exact QK (Qf λ_=>Qf λ_=>Qa _)
 .cases a:clkB f.Clocks&& !(decide (16<(f.Pairs.length:Int))||(decide ((f.Runners.length:Int)<1)||decide (4000<(f.Runners.length:Int))))with
  |false=>exact Qa _
  |true=>
   have d:clkB f.Clocks=true:=by simp only[X5]at a;exact a.1
   simp only[Xh,cond_false,Bool.true_and];refine Ea (Qkf f (by have:=k.pairs;omega)) ?_;cases pairsB f with
   |false=>exact Qa _
   |true=>
    refine Ea (Qmf f k d) ?_;cases b:runsB f with
    |false=>exact Qa _
    |true=>
     refine Ea (Qmh f k (Qef b)) ?_;cases possB f<;>exact Qa _
theorem Qbj(f:Field)(k:FewF f)(h:WldOk f){w:Nat}(b:w<f.Pairs.length+1):Ev (λn=>F_bm n f (w:Int)) (openW f w):=by
 have d:=k.runs;unfold F_bm;refine Ea (v:=false) ?_ (QK (Ea (QL f.Runners (λr=> !(wld r w).isEmpty) (Ctl.done false) (Ctl.cont ()) (by omega) (λi x a=>?_) ?_) ?_))
 .rw[QD (show¬(w:Int)<0 by omega),QD (show¬(f.Pairs.length:Int)<(w:Int)by omega)];exact Qa _
 .unfold F_ms;have e:=h x a.mem;simp only[a.lt,cond_true,a.ix,XR,a.nx,QD (show¬(x.Worlds.length:Int)<=(w:Int)by omega),cond_false,Qd6 h a.mem b,QaC];cases(wld x w).isEmpty<;>exact Qa _
 .unfold F_ms;simp only[Yt,cond_false];exact Qa _
 .unfold openW;rw[<- Qd0];cases f.Runners.all λr=> !(wld r w).isEmpty<;>exact Qa _
def lessL(a b:List Int):Bool:=decide (cmpL a b<0)
theorem QnT(a b:List Int)(L:a.length<=1048576)(J:b.length<=1048576):Ev (λn=>F_ey n a b) (lessL a b):=by
 unfold F_ey;have loop:∀(r:List Int) (i:Nat),a.drop i=r->i<=a.length->i<=b.length->∃d:Ctl Unit Bool,EvI (λn=>F_eb n a b) (i:Int) d/\(match d with|.cont _=>decide ((a.length:Int)<(b.length:Int))|.done v=>v)=lessL r (b.drop i):=by
  intro r
  induction r with
  |nil=>
   intro i l B w;refine⟨.cont (),Ej ?_,?_⟩
   .unfold F_eb;simp only[QU l B,cond_false,XR];exact Qa _
   .have f:i=a.length:=by have:=Xu.1 l;omega
    unfold lessL;cases q:b.drop i with
    |nil=>
     have:=Xu.1 q;simp only[cmpL];exact QD (by omega)
    |cons y s=>
     have:i<b.length:=by
      rcases Nat.lt_or_ge i b.length with z|z
      .exact z
      .rw[Xt z]at q;cases q
     simp only[cmpL];exact QN (by omega)
  |cons x r E=>
   intro i l B w;obtain⟨f,H⟩:=Qp (by omega) l;have F:=f.lt';by_cases u:b.length<=i
   .refine⟨.cont (),Ej ?_,?_⟩
    .unfold F_eb;simp only[f.lt,cond_true,QD (show¬(i:Int)<(b.length:Int)by omega),XR,cond_false];exact Qa _
    .rw[Xt u];show decide _=decide ((1:Int)<0);rw[QD (show¬(a.length:Int)<(b.length:Int)by omega)];rfl
   .have g:i<b.length:=by omega
    rw[Xs g];have h:lessL (x::r) (b[i]::b.drop (i+1))=bif x != b[i]then decide (x<b[i])else lessL r (b.drop (i+1)):=by
     unfold lessL;have G:cmpL (x::r) (b[i]::b.drop (i+1))=bif cmpI x b[i] != 0 then cmpI x b[i]else cmpL r (b.drop (i+1)):=rfl
     rw[G];by_cases e:x=b[i]
     .have t:cmpI x b[i]=0:=Qpn.2 e;have p:(x != b[i])=false:=by rw[e];exact bne_self_eq_false _
      rw[t,p];rfl
     .have t:(cmpI x b[i] != 0)=true:=bne_iff_ne.2 λz=>e (Qpn.1 z);have p:(x != b[i])=true:=bne_iff_ne.2 e;rw[t,p];simp only[cond_true];rw[X7,decide_eq_true_eq,decide_eq_true_eq];exact QnX
    rw[h];have j:=Qq (XS g);cases q:(x != b[i])with
    |true=>
     refine⟨.done (decide (x<b[i])),Ej ?_,rfl⟩;unfold F_eb;simp only[f.lt,cond_true,QN (show(i:Int)<(b.length:Int)by omega),XR,f.ix,j,q];exact Qa _
    |false=>
     obtain⟨d,m,k⟩:=E (i+1) H (by omega) (by omega);refine⟨d,Ew ?_ m,k⟩;unfold F_eb;simp only[f.lt,cond_true,QN (show(i:Int)<(b.length:Int)by omega),XR,f.ix,j,q,cond_false,f.nx];exact Qa _
 obtain⟨d,m,k⟩:=loop a 0 rfl (X3 _) (X3 _);rw[List.drop_zero]at k;refine Ea m.ev ?_;rw[<- k];cases d<;>exact Qa _
theorem Qgx{c:Clocks}(d:Dims c)(h:rowsB c=true){i j:Nat}(hi:i<c.Segments.length+1)(g:j<c.Segments.length+1): -2199023255552<=farG c i j/\farG c i j<=2199023255552:=by
 have a:i<c.Far.length:=by rw[d.far];exact hi
 obtain⟨e,k⟩:=d.get hi g;have:=QjZ.1 h i a;rw[e]at this;simp only[rowB,Bool.not_eq_true',X6]at this;have b:=this.2.2;have f:farG c i j∈(c.Far[i]?.getD []):=List.mem_of_getElem? k;have:farBad (farG c i j)=false:=by
  cases z:farBad (farG c i j)with
  |false=>rfl
  |true=>rw[Xy.2 ⟨_,f,z⟩]at b;cases b
 simp only[farBad,X6,decide_eq_false_iff_not]at this;omega
theorem FieldOk.rows{f:Field}(o:FieldOk f):rowsB f.Clocks=true:=by
 have:=o.ok;simp only[fieldB,clkB,X5]at this;exact this.1.1.2.2.1
theorem QiC(c:Course)(w:CourseOk c)(q:PartsOk c)(k:FewL c):Ev (λn=>F_ar n c) (fitsG c):=by
 unfold F_ar fitsG;refine Ea (Qf λ_=>Qf λ_=>Qf λ_=>Qf λ_=>Qf λ_=>Qf λ_=>Qa _) ?_;cases(decide (40<(c.Mats.length:Int))||(decide (512<(c.Legs.length:Int))||(decide (8<(c.Distances.length:Int))||(decide (32<(c.Waves.length:Int))||(decide (32<(c.Offences.length:Int))||(decide (32<(c.Categories.length:Int))||decide (32<(c.Prizes.length:Int))))))))with
 |true=>exact Qa _
 |false=>
  rw[Xi,Bool.true_and];refine QK (Ea (QL c.Distances (λd=> !(decide (64<(d.Cutoffs.length:Int))||decide (16<hPs d.Route))) (Ctl.done false) (Ctl.cont ()) (by have:=w.dist;omega) (λi x b=>?_) ?_) ?_)
  .obtain⟨g,h⟩:=k.dist x b.mem;have a:=q.len x b.mem;have f:=q.wf x b.mem;unfold F_ic;simp only[b.lt,cond_true,b.ix,XR,b.nx];refine Ea (Qf λ_=>Ea (QdA _ x.Route 17 (X2 _) (X2 _) a f) (Qf λ_=>Ea (QdB _ x.Route (X2 _) a f) (Qa _))) ?_;have e:decide ((16:Int)<((min (hPs x.Route) 17:Nat):Int))=decide (16<hPs x.Route):=by
    rw[decide_eq_decide];omega
   simp only[QD (show¬(256:Int)<((min (szPs x.Route) 257:Nat):Int)by omega),Bool.or_false,e];cases(decide (64<(x.Cutoffs.length:Int))||decide (16<hPs x.Route))<;>exact Qa _
  .unfold F_ic;simp only[Yt,cond_false];exact Qa _
  .cases c.Distances.all (λd=> !(decide (64<(d.Cutoffs.length:Int))||decide (16<hPs d.Route)))<;>exact Qa _
theorem QhS(c:Course)(w:CourseOk c)(q:PartsOk c)(k:FewL c)(h:c.Ties.length<=1048576)(j:∀x∈c.Ties,Step.wf x):∃e,Ev (λn=>F_w n c) e/\Ev (λn=>F_ad n c) e:=by
 by_cases g:∀d∈c.Distances,hPs d.Route<=16
 .have i:FewOk c:=⟨k.lens,k.name,λd a=>⟨by have:=(k.dist d a).1;omega,by have:=(k.dist d a).2;omega,g d a⟩,k.ties⟩;exact⟨_,QfX c w q i h j,QgB c w q i h j⟩
 .have f:fitsG c=false:=by
   unfold fitsG;rw[Bool.and_eq_false_iff];right;rw[List.all_eq_false];obtain⟨d,a⟩:=Classical.not_forall.1 g;have b:d∈c.Distances/\ ¬hPs d.Route<=16:=by
    refine Classical.byContradiction λz=>a λl=>Classical.byContradiction λy=>z ⟨l,y⟩
   refine⟨d,b.1,?_⟩;have:decide (16<hPs d.Route)=true:=decide_eq_true (by omega);rw[this];simp
  refine⟨2,?_,?_⟩
  .unfold F_w;refine Ea (QhL c w q k) ?_;rw[f];exact Qa _
  .unfold F_ad;refine Ea (QiC c w q k) ?_;rw[f];exact Qa _
theorem QlW{m:MapI}(h:(m.map Prod.fst).Nodup):(keysS m).Nodup:=((QS ltI _).nodup_iff).2 h
def insP(p:Payment):List Payment->List Payment
 |[]=>[p]
 |q::l=>bif decide (q.Bib<p.Bib)then q::insP p l else p::q::l
def posP(p:Payment):List Payment->Nat
 |[]=>0
 |q::l=>bif decide (q.Bib<p.Bib)then posP p l+1 else 0
theorem Qgk(p:Payment):∀l,posP p l<=l.length
 |[]=>X2 _
 |q::l=>by
  unfold posP;have:=Qgk p l;cases decide (q.Bib<p.Bib)<;>simp;omega
theorem Qey(p:Payment):∀l,l.take (posP p l)++p::l.drop (posP p l)=insP p l
 |[]=>rfl
 |q::l=>by
  unfold posP insP;cases decide (q.Bib<p.Bib)with
  |false=>rfl
  |true=>simp only[cond_true,List.take_succ_cons,List.drop_succ_cons,List.cons_append,Qey p l]
theorem QcH(p x:Payment):∀l,x∈insP p l↔x=p\/x∈l
 |[]=>by simp[insP]
 |q::l=>by
  unfold insP;have:=QcH p x l;cases decide (q.Bib<p.Bib)with
  |false=>simp
  |true=>
   simp only[cond_true,Vf,this];constructor
   .rintro(h|h|h)
    .exact .inr (.inl h)
    .exact .inl h
    .exact .inr (.inr h)
   .rintro(h|h|h)
    .exact .inr (.inl h)
    .exact .inl h
    .exact .inr (.inr h)
theorem Qhm(p:Payment)(l:List Payment):(insP p l).length=l.length+1:=by
 rw[<- Qey];simp;have:=Qgk p l;omega
def ltB(p q:Payment):Prop:=p.Bib<q.Bib
theorem Qdx(p:Payment):∀l,l.Pairwise ltB->(∀q∈l,q.Bib≠p.Bib)->(insP p l).Pairwise ltB
 |[],_,_=>by simp[insP]
 |q::l,h,hn=>by
  unfold insP;have h1:=Xc.1 h;have hne:=hn q (Vd ..);by_cases hq:q.Bib<p.Bib
  .rw[QN hq];refine Xc.2 ⟨λx hx=>?_,Qdx p l h1.2 λy hy=>hn y (Ve _ hy)⟩;rcases(QcH p x l).1 hx with rfl|hx
   .exact hq
   .exact h1.1 x hx
  .rw[QD hq];refine Xc.2 ⟨λx hx=>?_,h⟩;rcases Vf.1 hx with rfl|hx
   .show p.Bib<x.Bib;omega
   .have:q.Bib<x.Bib:=h1.1 x hx;show p.Bib<x.Bib;omega
theorem QnH(l:List Payment)(p:Payment)(j:l.length<=1000000):Ev (λn=>F_dg n l p) (insP p l):=by
 have f:=Qgk p l;unfold F_dg;have loop:∀(t:List Payment) (i:Nat),l.drop i=t->i<=l.length->EvI (λn=>F_gn n l p) (i:Int) ((i+posP p t:Nat):Int):=by
  intro t
  induction t with
  |nil=>
   intro i d e;refine Ej ?_;unfold F_gn;simp only[QU d e,cond_false,XR];exact Qa _
  |cons q t h=>
   intro i d e;obtain⟨a,b⟩:=Qp (by omega) d;unfold posP;cases g:decide (q.Bib<p.Bib)with
   |false=>
    refine Ej ?_;unfold F_gn;simp only[a.lt,cond_true,a.ix,XR,g,cond_false];exact Qa _
   |true=>
    refine(Ew ?_ (h (i+1) b (by have:=a.lt';omega))).eq (by simp only[cond_true];omega);unfold F_gn;simp only[a.lt,cond_true,a.ix,XR,g,a.nx];exact Qa _
 refine Ea ((loop l 0 rfl (X3 _)).ev.eq (by rw[XC])) ?_;rw[Qou l f];simp only[XR];rw[Qbk _ _ (by simp;omega)];simp only[XR,Vq];rw[Qbk _ _ (by simp;omega)];simp only[XR];rw[Qlk l f];simp only[XR];rw[Qbk _ _ (by simp;omega)];refine(Qa _).eq ?_;rw[Vr,List.singleton_append,Qey]
def offG(h:History)(j:Nat):Int:=((0::h.Offsets)[j]?).getD 0
def wN(h:History):Nat:=h.World.toNat
def xG(h:History)(i:Nat):Int:=((h.Choices[i]?).map (·.X)).getD 0
def oiG(h:History)(i:Nat):Int:=((h.Choices[i]?).map (·.Outcome)).getD 0
def z_Oc:Outcome:={Out:=true,Seg:=(-1),Lo:=0,Hi:=0}
def outG(f:Field)(h:History)(i:Nat):Outcome:=((wldF f i (wN h))[(oiG h i).toNat]?).getD z_Oc
def netG(f:Field)(h:History)(i:Nat):Int:=xG h i+offG h (sg (outG f h i))
def fitX(x:Outcome)(v:Int):Bool:=bif x.Out then v==0 else decide (x.Lo<=v)&&decide (v<=x.Hi)
structure Adm (f:Field) (h:History):Prop where
 w0:0<=h.World
 wlt:wN h<f.Pairs.length+1
 opn:openW f (wN h)=true
 ol:h.Offsets.length=f.Clocks.Segments.length
 cl:h.Choices.length=f.Runners.length
 off:∀a b,a<f.Clocks.Segments.length+1->b<f.Clocks.Segments.length+1->offG h b-offG h a<=farG f.Clocks a b
 ch:∀i,i<f.Runners.length->0<=oiG h i/\(oiG h i).toNat<(wldF f i (wN h)).length/\fitX (outG f h i) (xG h i)=true
def frontG(f:Field)(h:History)(i k:Nat):Bool:= !(outG f h k).Out&&(decide (netG f h k<netG f h i)||((netG f h k==netG f h i)&&decide (cmpL (keysF f k) (keysF f i)<0)))
def rankG(f:Field)(h:History)(i:Nat):Nat:=bif (outG f h i).Out then 0 else 1+cntR (frontG f h i) f.Runners.length
theorem Qkx(a:Int):cmpI a a=0:=by
 unfold cmpI;rw[decide_eq_false (show¬a<a by omega)];rfl
theorem Qf0:∀l,cmpL l l=0
 |[]=>rfl
 |x::l=>by
  unfold cmpL;rw[Qkx];exact Qf0 l
theorem QlO{f:Field}{h:History}(a:Adm f h){i:Nat}(hi:i<f.Runners.length):(wldF f i (wN h))[(oiG h i).toNat]?=some (outG f h i):=by
 obtain⟨d,b,e⟩:=a.ch i hi;unfold outG;rw[XS b];rfl
theorem Qgl{f:Field}(o:FieldOk f){h:History}(a:Adm f h){i:Nat}(hi:i<f.Runners.length):outB f.Clocks (outG f h i)=true:=by
 obtain⟨g,d,e,b⟩:=QdN o hi a.wlt;exact b _ (List.mem_of_getElem? (QlO a hi))
theorem QiK{c:Clocks}(b:c.Segments.length<=511){x:Outcome}(h:outB c x=true)(a:x.Out=false):sg x<c.Segments.length+1/\ -288230376151711744<=x.Lo/\x.Lo<=x.Hi/\x.Hi<=288230376151711744:=by
 refine⟨(sg_ok b h a).1,?_⟩;unfold outB at h;rw[a]at h;simp only[cond_false,fineO,X5,decide_eq_true_eq]at h;omega
theorem QnB{x:Outcome}{v:Int}(h:fitX x v=true)(a:x.Out=false):x.Lo<=v/\v<=x.Hi:=by
 unfold fitX at h;rw[a]at h;simpa using h
theorem Qlt{f:Field}{h:History}{i:Nat}(hi:i<f.Runners.length):rankG f h i<=f.Runners.length:=by
 unfold rankG;cases(outG f h i).Out with
 |true=>exact X3 _
 |false=>
  simp only[cond_false];have a:∀k,cntR (frontG f h i) k+(if i<k then 1 else 0)<=k:=by
   intro k
   induction k with
   |zero=>simp[cntR]
   |succ k b=>
    rw[Qdk];by_cases e:k=i
    .subst e;have:frontG f h k k=false:=by unfold frontG;rw[Qf0];simp
     rw[this];simp at b⊢;omega
    .cases frontG f h i k<;>simp<;>split at b<;>split<;>omega
  have:=a f.Runners.length;rw[if_pos hi]at this;omega
def admO(c:Clocks)(h:History):Bool:=(List.range (c.Segments.length+1)).all λi=>(List.range (c.Segments.length+1)).all λj=>decide (offG h j-offG h i<=farG c i j)
theorem Qe5{c:Clocks}{h:History}(a:admO c h=true){i j:Nat}(hi:i<c.Segments.length+1)(b:j<c.Segments.length+1):offG h j-offG h i<=farG c i j:=by
 have:=QjZ.1 (QjZ.1 a i hi) j b;simpa using this
theorem Qgn(h:History){j:Nat}(b:j<h.Offsets.length+1):idx (0::h.Offsets) (j:Int)=some (offG h j):=by
 have a:j<(0::h.Offsets).length:=by simpa using b
 unfold offG;rw[XS a];exact Qq (XS a)
theorem Qn4{c:Clocks}(d:Dims c)(r:rowsB c=true){h:History}(g:h.Offsets.length=c.Segments.length)(a:admO c h=true):∀x∈(0:Int)::h.Offsets,-2199023255552<=x/\x<=2199023255552:=by
 intro x i;obtain⟨j,f,e⟩:=List.mem_iff_getElem.1 i;have b:j<c.Segments.length+1:=by simpa[g]using f
 have ex:offG h j=x:=by unfold offG;rw[XS f,e];rfl
 have p:offG h 0=0:=rfl;have n:=Qe5 a (Nat.succ_pos _) b;have l:=Qe5 a b (Nat.succ_pos _);have k:=Qgx d r (Nat.succ_pos _) b;have m:=Qgx d r b (Nat.succ_pos _);omega
theorem QjI{c:Clocks}{h:History}(b:∀x∈(0:Int)::h.Offsets,-1125899906842624<=x/\x<=1125899906842624){i j:Nat}(hi:i<h.Offsets.length+1)(d:j<h.Offsets.length+1):
  decide (farG c i j<IntKind.i64.wrap (offG h j-offG h i))= !decide (offG h j-offG h i<=farG c i j):=by
 have mem:∀k,k<h.Offsets.length+1->offG h k∈(0:Int)::h.Offsets:=by
  intro k e;have a:k<((0:Int)::h.Offsets).length:=by simpa using e
  unfold offG;rw[XS a];exact Vm a
 have f:=b _ (mem i hi);have g:=b _ (mem j d);rw[Qu (by omega) (by omega), <- decide_not,decide_eq_decide];omega
def wideB(b x:Int):Bool:=decide (x< -b)||decide (b<x)
theorem QiZ{b:Int}{l:List Int}(h:l.any (wideB b)=false):∀x∈l,-b<=x/\x<=b:=by
 intro x a;cases q:wideB b x with
 |true=>rw[Xy.2 ⟨x,a,q⟩]at h;cases h
 |false=>
  simp only[wideB,X6,decide_eq_false_iff_not]at q;omega
theorem QgZ{c:Clocks}(d:Dims c)(r:rowsB c=true){h:History}(f:h.Offsets.length=c.Segments.length){b:Int}(i:2199023255552<=b)(g:((0:Int)::h.Offsets).any (wideB b)=true):admO c h=false:=by
 cases a:admO c h with
 |false=>rfl
 |true=>
  obtain⟨x,e,q⟩:=Xy.1 g;have:=Qn4 d r f a x e;simp only[wideB,Bool.or_eq_true,decide_eq_true_eq]at q;omega
theorem QiF(c:Clocks)(d:Dims c)(r:rowsB c=true)(h:History)(p:h.Offsets.length=c.Segments.length):Ev (λn=>F_df n c h.Offsets) (admO c h):=by
 have t:=d.segs;unfold F_df;refine Ea (v:=(0:Int)::h.Offsets) (EA (Qbk [0] h.Offsets (by simp only[X9,List.length_nil];omega))) ?_;refine Ea (v:=((0:Int)::h.Offsets).any (wideB 2199023255552)) ?_ ?_
 .unfold F_jb F_iu;refine Ev.contains _ (wideB 2199023255552) (λn x=>F_bj n x) (by simp only[X9];omega) λx _=>?_;unfold F_bj wideB;exact Ea (Qf λ_=>Qa _) (Qa _)
 .cases m:((0:Int)::h.Offsets).any (wideB 2199023255552)with
  |true=>rw[QgZ d r p (Int.le_refl _) m];exact Qa _
  |false=>
   have q:∀x∈(0:Int)::h.Offsets,-1125899906842624<=x/\x<=1125899906842624:=λx s=>by have:=QiZ m x s;omega
   have e:admO c h=(List.range c.Far.length).all λi=>(List.range (c.Segments.length+1)).all λj=>decide (offG h j-offG h i<=farG c i j):=by unfold admO;rw[d.far]
   rw[e];refine QK (Ea (Yq c.Far.length (λi=>(List.range (c.Segments.length+1)).all λj=>decide (offG h j-offG h i<=farG c i j)) (Ctl.done false) (Ctl.cont ()) (λi f=>?_) ?_) ?_)
   .have b:i<c.Segments.length+1:=by rw[<- d.far];exact f
    have g:=(d.get b b).1;unfold F_mh;simp only[ltN f,cond_true,Qq g,XR,Yb (show i<=1048576 by omega)];have a:=d.row i f;refine Ea (v:=bif (List.range (c.Segments.length+1)).all λj=>decide (offG h j-offG h i<=farG c i j)then Ctl.cont ()else Ctl.done (Ctl.done (Ctl.done false))) ?_ ?_
    .have:=Yq (step:=λn=>F_kn n (0::h.Offsets) (i:Int) (c.Far[i]?.getD [])) (c.Far[i]?.getD []).length (λj=>decide (offG h j-offG h i<=farG c i j)) (Ctl.done (Ctl.done (Ctl.done false))) (Ctl.cont ()) (λj l=>?_) ?_
     .rw[a]at this;exact this
     .have k:j<c.Segments.length+1:=by rw[<- a];exact l
      unfold F_kn;simp only[ltN l,cond_true,Qq (d.get b k).2,Qgn h (show j<h.Offsets.length+1 by omega),Qgn h (show i<h.Offsets.length+1 by omega),XR,Yb (show j<=1048576 by omega),QjI q (show i<h.Offsets.length+1 by omega) (show j<h.Offsets.length+1 by omega)];cases decide (offG h j-offG h i<=farG c i j)<;>exact Qa _
     .unfold F_kn;simp only[geN (X2 _),cond_false];exact Qa _
    .cases(List.range (c.Segments.length+1)).all λj=>decide (offG h j-offG h i<=farG c i j)<;>exact Qa _
   .unfold F_mh;simp only[geN (X2 _),cond_false];exact Qa _
   .cases(List.range c.Far.length).all λi=>(List.range (c.Segments.length+1)).all λj=>decide (offG h j-offG h i<=farG c i j)<;>exact Qa _
theorem Qe2{h:History}{i:Nat}(hi:i<h.Choices.length):idx h.Choices (i:Int)=some h.Choices[i]/\(h.Choices[i]).Outcome=oiG h i/\(h.Choices[i]).X=xG h i:=by
 unfold oiG xG;rw[XS hi];exact⟨Qq (XS hi),rfl,rfl⟩
def chB(f:Field)(h:History)(i:Nat):Bool:= !(decide (oiG h i<0)||decide (((wldF f i (wN h)).length:Int)<=oiG h i))&&fitX (outG f h i) (xG h i)
structure InW (f:Field) (h:History):Prop where
 w0:h.World=((wN h:Nat):Int)
 wlt:wN h<f.Pairs.length+1
 cl:h.Choices.length=f.Runners.length
theorem Qk9{f:Field}(o:FieldOk f){h:History}(q:InW f h){i:Nat}(hi:i<f.Runners.length)(n:Nat):F_bc n ({f:=f,h:=h:history_view}) (i:Int)=some (wldF f i (wN h)):=by
 obtain⟨b,a,_,_⟩:=QdN o hi q.wlt;unfold F_bc;simp only[b,XR,q.w0,a]
theorem Qim{f:Field}{h:History}{i:Nat}(b:(decide (oiG h i<0)||decide (((wldF f i (wN h)).length:Int)<=oiG h i))=false):idx (wldF f i (wN h)) (oiG h i)=some (outG f h i):=by
 simp only[X6,decide_eq_false_iff_not]at b;have e:oiG h i=(((oiG h i).toNat:Nat):Int):=by omega
 have a:(oiG h i).toNat<(wldF f i (wN h)).length:=by omega
 unfold outG;rw[e,Qq (XS a)];simp only[Int.toNat_natCast,XS a,Option.getD_some]
theorem Qoe{f:Field}(o:FieldOk f){h:History}(q:InW f h){i:Nat}(hi:i<f.Runners.length)(a:(decide (oiG h i<0)||decide (((wldF f i (wN h)).length:Int)<=oiG h i))=false)(n:Nat):F_ba n ({f:=f,h:=h:history_view}) (i:Int)=some (outG f h i):=by
 have b:i<h.Choices.length:=by rw[q.cl];exact hi
 obtain⟨d,e,g⟩:=Qe2 b;unfold F_ba;simp only[Qk9 o q hi,XR,d,e,Qim a]
theorem Qo4(x:Outcome)(v:Int):(decide (v<(bif x.Out then({x with Lo:=0,Hi:=0:Outcome})else x).Lo)||decide ((bif x.Out then({x with Lo:=0,Hi:=0:Outcome})else x).Hi<v))= !fitX x v:=by
 unfold fitX;cases x.Out with
 |true=>
  simp only[cond_true];rw[X7];simp<;>omega
 |false=>
  simp only[cond_false];rw[X7];simp<;>omega
theorem Qmn{f:Field}(o:FieldOk f){h:History}(q:InW f h):Ev (λn=>iter (F_ln n f h) n 0) (bif (List.range f.Runners.length).all (chB f h)then Ctl.cont ()else Ctl.done ({f:=f,h:=h:history_view},260)):=by
 have k:=o.few.runs;rw[<- q.cl];refine Yq h.Choices.length _ _ _ (λi b=>?_) ?_
 .have a:i<f.Runners.length:=by rw[<- q.cl];exact b
  obtain⟨g,j,e⟩:=Qe2 b;unfold F_ln;simp only[ltN b,cond_true,g,XR,Yb (show i<=1048576 by omega),j,e,Qk9 o q a];refine Ea (v:=decide (oiG h i<0)||decide (((wldF f i (wN h)).length:Int)<=oiG h i)) (Qf λ_=>Qa _) ?_;unfold chB;cases d:decide (oiG h i<0)||decide (((wldF f i (wN h)).length:Int)<=oiG h i)with
  |true=>exact Qa _
  |false=>
   simp only[cond_false,Xi,Bool.true_and,Qoe o q a d,XR];refine Ea (v:=bif (outG f h i).Out then({outG f h i with Lo:=0,Hi:=0:Outcome})else outG f h i) (YE (λ_=>Qa _) (λ_=>Qa _)) ?_;refine Ea (v:= !fitX (outG f h i) (xG h i)) ((Qf λ_=>Qa _).eq (Qo4 _ _)) ?_;cases fitX (outG f h i) (xG h i)<;>exact Qa _
 .unfold F_ln;simp only[geN (X2 _),cond_false];exact Qa _
def admB(f:Field)(h:History):Bool:=
 !(decide (h.World<0)||(decide ((f.Pairs.length:Int)<h.World)||(!openW f (wN h)||(((h.Offsets.length:Int) != (f.Clocks.Segments.length:Int))||(((h.Choices.length:Int) != (f.Runners.length:Int))|| !admO f.Clocks h)))))&&(List.range f.Runners.length).all (chB f h)
theorem Qi0{h:History}(h0:decide (h.World<0)=false):h.World=((wN h:Nat):Int):=by
 have:=of_decide_eq_false h0;unfold wN;omega
theorem Qdc{a b:Nat}(h:((a:Int) != (b:Int))=false):a=b:=by
 have:(a:Int)=(b:Int):=by simpa[bne]using h
 omega
theorem Qng{f:Field}{h:History}(a:admB f h=true):Adm f h:=by
 unfold admB at a;simp only[X5,Bool.not_eq_true',X6,Bool.not_eq_false']at a;obtain⟨⟨d,q,p,m,l,g⟩,n⟩:=a;have e:=Qi0 d;refine⟨by omega,?_,p,Qdc m,Qdc l,λi j b k=>Qe5 g b k,λi b=>?_⟩
 .have:=of_decide_eq_false q;omega
 .have:=QjZ.1 n i b;unfold chB at this;simp only[X5,Bool.not_eq_true',X6,decide_eq_false_iff_not]at this;refine⟨by omega,by omega,this.2⟩
theorem Adm.inw{f:Field}{h:History}(a:Adm f h):InW f h:=⟨by have:=a.w0;unfold wN;omega,a.wlt,a.cl⟩
theorem Qml(f:Field)(o:FieldOk f){w:Nat}(b:w<f.Pairs.length+1):Ev (λn=>F_fb n f (w:Int)) (openW f w):=by
 have d:=o.few.runs;unfold F_fb;refine Ea (v:=f.Runners.any λr=>(wld r w).isEmpty) ?_ (Qa _);unfold F_ft F_ht;refine Ev.contains f.Runners (λr=>(wld r w).isEmpty) (λn x=>F_bn n x (w:Int)) (by omega) λx a=>?_;unfold F_bn;rw[Qd6 o.wlds a b];exact(Qa _).eq (QaC _)
theorem Qju{f:Field}(o:FieldOk f)(h:History):Ev (λn=>F_av n f h) (({f:=f,h:=h:history_view}),bif admB f h then 0 else 260):=by
 unfold F_av;refine Ea (v:=0) ((QhM f o.few).eq (by rw[o.ok];rfl)) ?_;refine QK ?_;unfold admB;generalize hA:(decide (h.World<0)||(decide ((f.Pairs.length:Int)<h.World)||(!openW f (wN h)||(((h.Offsets.length:Int) != (f.Clocks.Segments.length:Int))||(((h.Choices.length:Int) != (f.Runners.length:Int))|| !admO f.Clocks h)))))=A;refine Ea (v:=A) ?_ ?_
 .rw[<- hA];refine Qf λa=>Qf λb=>?_;have e:=Qi0 a;have i:wN h<f.Pairs.length+1:=by have:=of_decide_eq_false b;omega
  rw[e];refine Ea (Qml f o i) (Qf λ_=>Qf λg=>Qf λd=>?_);exact Ea (QiF f.Clocks o.dims o.rows h (Qdc g)) (Qa _)
 .cases A with
  |true=>exact Qa _
  |false=>
   simp only[X6]at hA;obtain⟨a,b,k,g,d,j⟩:=hA;have e:=Qi0 a;refine QK (Ea (Qmn o ⟨e,by have:=of_decide_eq_false b;omega,Qdc d⟩) ?_);cases(List.range f.Runners.length).all (chB f h)<;>exact Qa _
theorem Qkm{f:Field}(o:FieldOk f)(h:History):Ev (λn=>F_ct n f h) (bif admB f h then 0 else 260):=by
 unfold F_ct;exact Ea (Qju o h) (Qa _)
theorem QmJ{f:Field}{h:History}(a:Adm f h){i:Nat}(hi:i<f.Runners.length):(decide (oiG h i<0)||decide (((wldF f i (wN h)).length:Int)<=oiG h i))=false:=by
 obtain⟨b,d,_⟩:=a.ch i hi;rw[X6];exact⟨decide_eq_false (by omega),decide_eq_false (by omega)⟩
theorem x_bds{f:Field}(o:FieldOk f){h:History}(a:Adm f h){i:Nat}(hi:i<f.Runners.length)(b:(outG f h i).Out=false): -288230376151711744<=xG h i/\xG h i<=288230376151711744:=by
 obtain⟨d,j,e,g⟩:=QiK o.dims.segs (Qgl o a hi) b;have:=QnB (a.ch i hi).2.2 b;omega
theorem Qnt{f:Field}(o:FieldOk f){h:History}(a:Adm f h){j:Nat}(b:j<f.Clocks.Segments.length+1): -2199023255552<=offG h j/\offG h j<=2199023255552:=by
 have i:=a.off _ _ (Nat.succ_pos _) b;have e:=a.off _ _ b (Nat.succ_pos _);have d:=Qgx o.dims o.rows (Nat.succ_pos _) b;have g:=Qgx o.dims o.rows b (Nat.succ_pos _);have k:offG h 0=0:=rfl;omega
theorem Qhg{f:Field}(o:FieldOk f){h:History}(a:Adm f h){i:Nat}(hi:i<f.Runners.length)(b:(outG f h i).Out=false):IntKind.i64.wrap (xG h i+offG h (sg (outG f h i)))=netG f h i:=by
 have d:=x_bds o a hi b;have e:=Qnt o a (QiK o.dims.segs (Qgl o a hi) b).1;exact Qu (by omega) (by omega)
theorem Qi7{f:Field}(o:FieldOk f){h:History}(a:Adm f h){i:Nat}(hi:i<f.Runners.length)(g:(outG f h i).Out=false):(outG f h i).Seg<0/\offG h (sg (outG f h i))=0\/0<=(outG f h i).Seg/\idx h.Offsets (outG f h i).Seg=some (offG h (sg (outG f h i))):=by
 have d:=Qgl o a hi;have j:=(QiK o.dims.segs d g).1;unfold outB at d;rw[g]at d;simp only[cond_false,fineO,X5,decide_eq_true_eq]at d;unfold sg at j⊢;by_cases q:(outG f h i).Seg<0
 .left;refine⟨q,?_⟩;rw[show((outG f h i).Seg+1).toNat=0 by omega];rfl
 .right;obtain⟨s,e⟩:∃s:Nat,(outG f h i).Seg=(s:Int):=⟨(outG f h i).Seg.toNat,by omega⟩;have b:s<h.Offsets.length:=by rw[a.ol];omega
  refine⟨by omega,?_⟩;rw[e,show((s:Int)+1).toNat=s+1 by omega];unfold offG;rw[XN,XS b];exact Qq (XS b)
def netV(f:Field)(h:History)(i:Nat):Int×Bool:=bif (outG f h i).Out then(0,false)else(netG f h i,true)
theorem Qmo{f:Field}(o:FieldOk f){h:History}(a:Adm f h){i:Nat}(hi:i<f.Runners.length):Ev (λn=>F_au n ({f:=f,h:=h:history_view}) (i:Int)) (netV f h i):=by
 have q:=a.inw;obtain⟨j,k,g⟩:=Qe2 (show i<h.Choices.length by rw[q.cl];exact hi);unfold F_au netV;simp only[Qoe o q hi (QmJ a hi),XR];refine YE (λ_=>Qa _) λe=>?_;simp only[j,XR,g];refine Ea (v:=netG f h i) ?_ (Qa _);rcases Qi7 o a hi e with⟨d,b⟩|⟨d,b⟩
 .rw[QD (show¬0<=(outG f h i).Seg by omega)];refine(Qa _).eq ?_;unfold netG;rw[b,Int.add_zero]
 .rw[QN d,b];exact(Qa _).eq (Qhg o a hi e)
theorem QgE{f:Field}(o:FieldOk f){h:History}(a:Adm f h){i:Nat}(hi:i<f.Runners.length):Ev (λn=>F_ah n f h (i:Int)) (netV f h i):=by
 have q:=a.inw;obtain⟨m,g,l⟩:=Qe2 (show i<h.Choices.length by rw[q.cl];exact hi);obtain⟨j,k,_,_⟩:=QdN o hi q.wlt;unfold F_ah netV F_im F_hl;rw[q.w0];simp only[j,k,m,g,XR,Qim (QmJ a hi)];refine YE (λ_=>Qa _) λe=>?_;simp only[l];refine Ea (v:=offG h (sg (outG f h i))) ?_ ((Qa _).eq (by rw[Qhg o a hi e]));rcases Qi7 o a hi e with⟨d,b⟩|⟨d,b⟩
 .rw[QN d,b];exact Qa _
 .rw[QD (show¬(outG f h i).Seg<0 by omega),b];exact Qa _
abbrev PrI:=history_pair_int__int_
def timesL(f:Field)(h:History)(m:Nat):List PrI:=((List.range m).filter λk=> !(outG f h k).Out).map λ(k:Nat)=>({first:=(k:Int),second:=netG f h k}:PrI)
theorem Qdo(f:Field)(h:History)(m:Nat):timesL f h (m+1)=timesL f h m++(bif !(outG f h m).Out then[({first:=(m:Int),second:=netG f h m}:PrI)]else[]):=by
 unfold timesL;rw[XA,List.filter_append,Xg];cases q:(outG f h m).Out<;>simp[q]
theorem Qd9(f:Field)(h:History)(m:Nat):(timesL f h m).length<=m:=by
 unfold timesL;rw[Va];exact X4 (List.length_filter_le ..) (by simp)
theorem Qma{f:Field}(o:FieldOk f){h:History}(a:Adm f h):Ev (λn=>F_by n ({f:=f,h:=h:history_view})) (timesL f h f.Runners.length):=by
 have d:=o.few.runs;unfold F_by;refine Ea ?_ (Qa _);refine Ex (λm=>(timesL f h m,(m:Int))) f.Runners.length rfl (λm b=>?_) ?_
 .have e:=Qd9 f h m;unfold F_mu;simp only[ltN b,cond_true,Yb (show m<=1048576 by omega)];refine Ea (Qmo o a b) ?_;rw[Qdo];unfold netV;cases(outG f h m).Out with
  |true=>exact(Qa _).eq (by simp)
  |false=>
   simp only[cond_false,cond_true,Xi,QaF (show(timesL f h m).length<=140737488 by omega),XR];exact Qa _
 .unfold F_mu;simp only[geN (X2 _),cond_false];exact Qa _
def cmpT(f:Field)(p q:PrI):Int:=orL [cmpI p.second q.second,cmpL (keysF f p.first.toNat) (keysF f q.first.toNat)]
theorem QnQ{f:Field}(o:FieldOk f){i j:Nat}(hi:i<f.Runners.length)(a:j<f.Runners.length)(h:History)(s t:Int):Ev (λn=>F_eq n ({f:=f,h:=h:history_view}) ({first:=(i:Int),second:=s:PrI}) ({first:=(j:Int),second:=t:PrI})) (cmpT f ({first:=(i:Int),second:=s:PrI}) ({first:=(j:Int),second:=t:PrI})):=by
 obtain⟨g,d⟩:=QdV hi;obtain⟨e,b⟩:=QdV a;unfold F_eq cmpT;refine Ea (QeV _ _) ?_;simp only[g,e,XR,Int.toNat_natCast,d,b];refine Ea (QnR _ _ (QcG o hi) (QcG o a)) ?_;exact Ea (Qoo _ (by simp)) (Qa _)
theorem QlQ(a b u:Int):decide (orL [cmpI a b,u]<0)=(decide (a<b)||((a==b)&&decide (u<0))):=by
 have e:orL [cmpI a b,u]=bif cmpI a b != 0 then cmpI a b else u:=by
  unfold orL orL orL;cases g:(u != 0)with
  |true=>rfl
  |false=>
   have:u=0:=by simpa[bne]using g
   rw[this];rfl
 rw[e];unfold cmpI;rcases Int.lt_trichotomy a b with q|q|q
 .simp[q]
 .subst q;simp
 .have d:¬a<b:=by omega
  have f:¬a=b:=by omega
  simp[q,d,f]
theorem QiI(f:Field)(h:History)(i k:Nat):decide (cmpT f ({first:=(k:Int),second:=netG f h k:PrI}) ({first:=(i:Int),second:=netG f h i:PrI})<0)=(decide (netG f h k<netG f h i)||((netG f h k==netG f h i)&&decide (cmpL (keysF f k) (keysF f i)<0))):=QlQ _ _ _
theorem QdD(f:Field)(h:History)(i:Nat):∀m,((timesL f h m).filter λp=>decide (cmpT f p ({first:=(i:Int),second:=netG f h i:PrI})<0)).length=cntR (frontG f h i) m
 |0=>rfl
 |m+1=>by
  rw[Qdo,List.filter_append,Vb,QdD f h i m,Qdk];unfold frontG;rw[<- QiI];cases(outG f h m).Out with
  |true=>rfl
  |false=>
   simp only[Xi,cond_true,Bool.true_and,Xd,List.filter_nil];cases decide (cmpT f ({first:=(m:Int),second:=netG f h m:PrI}) ({first:=(i:Int),second:=netG f h i:PrI})<0)<;>rfl
theorem QjV{f:Field}{h:History}{m:Nat}{p:PrI}(a:p∈timesL f h m):∃k,k<m/\p={first:=(k:Int),second:=netG f h k}:=by
 unfold timesL at a;obtain⟨k,b,e⟩:=Xf.1 a;exact⟨k,by simpa using(Xe.1 b).1,e.symm⟩
theorem Qmq{f:Field}(o:FieldOk f){h:History}(d:admB f h=true){i:Nat}(hi:i<f.Runners.length):Ev (λn=>F_bw n f h (i:Int)) (((rankG f h i:Nat):Int),0):=by
 have a:=Qng d;have t:=o.few.runs;unfold F_bw F_hi;refine Ea (v:=(({f:=f,h:=h:history_view}),0)) (Ea (Qju o h) ?_) ?_
 .rw[d];simp only[cond_true,beq_self_eq_true,QD (show¬(i:Int)<0 by omega),cond_false,QD (show¬(f.Runners.length:Int)<=(i:Int)by omega),XR];exact Qa _
 .simp only[bne_self_eq_false,cond_false];refine Ea (Qmo o a hi) ?_;unfold netV rankG;cases u:(outG f h i).Out with
  |true=>exact Qa _
  |false=>
   simp only[cond_false,Xh];refine Ea (Qma o a) ?_;have s:=Qd9 f h f.Runners.length;have r:=QdD f h i f.Runners.length;have q:=QjB (frontG f h i) f.Runners.length;refine Ea (v:=((cntR (frontG f h i) f.Runners.length:Nat):Int)) ?_ ((Qa _).eq ?_)
   .rw[<- r];refine Ex (λj=>((((((timesL f h f.Runners.length).take j).filter λp=>decide (cmpT f p ({first:=(i:Int),second:=netG f h i:PrI})<0)).length:Nat):Int),(j:Int))) (timesL f h f.Runners.length).length rfl (λj g=>?_) ?_
    .have b:=atN (by omega) g;unfold F_lx;simp only[b.lt,cond_true,b.ix,XR,b.nx];obtain⟨k,l,e⟩:=QjV b.mem;rw[b.take,List.filter_append,Vb,e];refine Ea (QnQ o l hi h _ _) ?_;have m:(((timesL f h f.Runners.length).take j).filter λp=>decide (cmpT f p ({first:=(i:Int),second:=netG f h i:PrI})<0)).length<=j:=X4 (List.length_filter_le ..) (by simp;omega);simp only[Xd,List.filter_nil];cases decide (cmpT f ({first:=(k:Int),second:=netG f h k:PrI}) ({first:=(i:Int),second:=netG f h i:PrI})<0)with
     |true=>
      refine(Qa _).eq ?_;rw[Yb (by omega)];rfl
     |false=>exact Qa _
    .unfold F_lx;simp only[geN (X2 _),cond_false,Vi];exact Qa _
   .rw[Yb (by omega),Nat.add_comm]
theorem Qmk{f:Field}(o:FieldOk f){h:History}(a:Adm f h){i:Nat}(hi:i<f.Runners.length):Ev (λn=>F_dy n f h (i:Int)) ((rankG f h i:Nat):Int):=by
 have p:=o.few.runs;unfold F_dy;refine Ea (QgE o a hi) ?_;unfold netV rankG;cases j:(outG f h i).Out with
 |true=>exact Qa _
 |false=>
  simp only[cond_false,Xh];refine Ea (v:=((1+cntR (frontG f h i) f.Runners.length:Nat):Int)) ?_ (Qa _);refine Ex (λk=>(((1+cntR (frontG f h i) k:Nat):Int),(k:Int))) f.Runners.length rfl (λk b=>?_) ?_
  .have l:=QjB (frontG f h i) k;unfold F_mg;simp only[ltN b,cond_true,Yb (show k<=1048576 by omega),Qdk];refine Ea (v:=frontG f h i k) ?_ ?_
   .unfold F_iv;refine Ea (QgE o a b) (Ea (QgE o a hi) ?_);unfold netV frontG;rw[j];cases(outG f h k).Out with
    |true=>exact Qa _
    |false=>
     simp only[cond_false,Xh,Xi,Bool.true_and];refine Ea (v:=false) (Qa _) (QK ?_);refine Ea (Qf λ_=>Ei λ_=>?_) (Qa _);obtain⟨g,d⟩:=QdV b;obtain⟨e,m⟩:=QdV hi;simp only[g,e,XR,d,m];exact Ea (QnT _ _ (QcG o b) (QcG o hi)) (Qa _)
   .cases frontG f h i k with
    |true=>
     refine(Qa _).eq ?_;rw[Yb (by omega)];rfl
    |false=>exact Qa _
  .unfold F_mg;simp only[geN (X2 _),cond_false];exact Qa _
theorem QnC(x:Outcome)(v:Int):(bif x.Out then((v != 0)||(bif !x.Out then decide (v<x.Lo)||decide (x.Hi<v)else false))else(bif !x.Out then decide (v<x.Lo)||decide (x.Hi<v)else false))= !fitX x v:=by
 unfold fitX;cases x.Out with
 |true=>simp[bne]
 |false=>
  simp only[cond_false,Xi,cond_true];rw[X7];simp<;>omega
theorem QnN{f:Field}(o:FieldOk f)(h:History):Ev (λn=>F_et n f h) (admB f h):=by
 have N:=o.few.runs;have O:=o.dims.segs;unfold F_et;by_cases u:h.World<0\/(f.Pairs.length:Int)<h.World
 .have E:admB f h=false:=by
   unfold admB;have:(decide (h.World<0)||(decide ((f.Pairs.length:Int)<h.World)||(!openW f (wN h)||(((h.Offsets.length:Int) != (f.Clocks.Segments.length:Int))||(((h.Choices.length:Int) != (f.Runners.length:Int))|| !admO f.Clocks h)))))=true:=by
    rcases u with q|q<;>simp[q]
   rw[this];rfl
  rw[E];refine Ea (v:=true) (Ea (v:=false) ?_ (Qa _)) (Qa _);unfold F_bm;refine Ea (v:=true) ((Qf λ_=>Qa _).eq ?_) (Qa _);rcases u with q|q<;>simp[q]
 .have s:decide (h.World<0)=false:=decide_eq_false (by omega);have G:decide ((f.Pairs.length:Int)<h.World)=false:=decide_eq_false (by omega);have e:=Qi0 s;have b:wN h<f.Pairs.length+1:=by omega
  unfold admB;rw[s,G];simp only[Bool.false_or];cases l:openW f (wN h)with
  |false=>
   refine Ea (v:=true) (Ea (v:=false) ?_ (Qa _)) (Qa _);rw[e];exact(Qbj f o.few o.wlds b).eq l
  |true=>
   cases J:((h.Offsets.length:Int) != (f.Clocks.Segments.length:Int))with
   |true=>
    refine Ea (v:=true) (Ea (v:=true) ?_ (Qa _)) (Qa _);rw[e];exact(Qbj f o.few o.wlds b).eq l
   |false=>
    cases F:((h.Choices.length:Int) != (f.Runners.length:Int))with
    |true=>
     refine Ea (v:=true) (Ea (v:=true) ?_ (Qa _)) (Qa _);rw[e];exact(Qbj f o.few o.wlds b).eq l
    |false=>
     have t:=Qdc J;have q:InW f h:=⟨e,b,Qdc F⟩;refine Ea (v:=false) (Ea (v:=true) ?_ (Qa _)) ?_
     .rw[e];exact(Qbj f o.few o.wlds b).eq l
     refine QK ?_;refine Ea (v:=(0:Int)::h.Offsets) (EA (Qbk [0] h.Offsets (by simp only[X9,List.length_nil];omega))) ?_;refine Ea (QL ((0:Int)::h.Offsets) (λx=> !wideB 1125899906842624 x) (Ctl.done false) (Ctl.cont ()) (by simp only[X9];omega) (λi x p=>?_) ?_) ?_
     .unfold F_mc;simp only[p.lt,cond_true,p.ix,XR,p.nx];refine Ea (v:=wideB 1125899906842624 x) (by unfold wideB;exact Qf λ_=>Qa _) ?_;cases wideB 1125899906842624 x<;>exact Qa _
     .unfold F_mc;simp only[Yt,cond_false];exact Qa _
     have r:(((0:Int)::h.Offsets).all λx=> !wideB 1125899906842624 x)= !((0:Int)::h.Offsets).any (wideB 1125899906842624):=by rw[List.not_any_eq_all_not]
     rw[r];cases g:((0:Int)::h.Offsets).any (wideB 1125899906842624)with
     |true=>
      rw[QgZ o.dims o.rows t (by omega) g];exact Qa _
     |false=>
      have L:=QiZ g;simp only[Xi,cond_true,Xh,Bool.false_or,Bool.or_false,Bool.not_not];have a:((0:Int)::h.Offsets).length=f.Clocks.Segments.length+1:=by simp[t]
      refine Ea (v:=bif admO f.Clocks h then Ctl.cont ()else Ctl.done false) ?_ ?_
      .unfold admO;rw[<- a];refine Yq _ _ _ _ (λi d=>?_) ?_
       .rw[a]at d;unfold F_md;simp only[ltN (show i<((0:Int)::h.Offsets).length by rw[a];exact d),cond_true,Yb (show i<=1048576 by omega)];refine Ea (Yq ((0:Int)::h.Offsets).length (λj=>decide (offG h j-offG h i<=farG f.Clocks i j)) (Ctl.done (Ctl.done (Ctl.done false))) (Ctl.cont ()) (λj k=>?_) ?_) ?_
        .rw[a]at k;unfold F_mf;simp only[ltN (show j<((0:Int)::h.Offsets).length by rw[a];exact k),cond_true,Qq (o.dims.get d k).1,Qq (o.dims.get d k).2,Qgn h (show j<h.Offsets.length+1 by omega),Qgn h (show i<h.Offsets.length+1 by omega),XR,Yb (show j<=1048576 by omega),QjI L (show i<h.Offsets.length+1 by omega) (show j<h.Offsets.length+1 by omega)];cases decide (offG h j-offG h i<=farG f.Clocks i j)<;>exact Qa _
        .unfold F_mf;simp only[geN (X2 _),cond_false];exact Qa _
        .cases(List.range ((0:Int)::h.Offsets).length).all λj=>decide (offG h j-offG h i<=farG f.Clocks i j)<;>exact Qa _
       .unfold F_md;simp only[geN (X2 _),cond_false];exact Qa _
      .cases admO f.Clocks h with
       |false=>exact Qa _
       |true=>
        simp only[cond_true,Bool.true_and];refine Ea (v:=bif (List.range f.Runners.length).all (chB f h)then Ctl.cont ()else Ctl.done false) ?_ ?_
        .rw[<- q.cl];refine Yq h.Choices.length _ _ _ (λi d=>?_) ?_
         .have m:i<f.Runners.length:=by rw[<- q.cl];exact d
          obtain⟨z,B,M⟩:=Qe2 d;obtain⟨y,H,_,_⟩:=QdN o m q.wlt;unfold F_mi;rw[q.w0];simp only[ltN d,cond_true,y,H,z,XR,Yb (show i<=1048576 by omega),B,M];refine Ea (v:=decide (oiG h i<0)||decide (((wldF f i (wN h)).length:Int)<=oiG h i)) (Qf λ_=>Qa _) ?_;unfold chB;cases w:decide (oiG h i<0)||decide (((wldF f i (wN h)).length:Int)<=oiG h i)with
          |true=>exact Qa _
          |false=>
           simp only[cond_false,Xi,Bool.true_and,Qim w,XR];refine Ea (v:= !fitX (outG f h i) (xG h i)) ((YE (λ_=>Qf λ_=>YE (λ_=>Qf λ_=>Qa _) (λ_=>Qa _)) (λ_=>YE (λ_=>Qf λ_=>Qa _) (λ_=>Qa _))).eq (QnC _ _)) ?_;cases fitX (outG f h i) (xG h i)<;>exact Qa _
         .unfold F_mi;simp only[geN (X2 _),cond_false];exact Qa _
        .cases(List.range f.Runners.length).all (chB f h)<;>exact Qa _
theorem Qiu{f:Field}(o:FieldOk f)(h:History):Ev (λn=>F_dq n f h) (bif admB f h then 0 else 260):=by
 unfold F_dq;refine Ea (v:=0) ((QfT f o.few).eq (by rw[o.ok];rfl)) ?_;refine QK ?_;refine Ea (QnN o h) ?_;cases admB f h<;>exact Qa _
def badA(x:Int):Bool:=decide (1125899906842624<x)||decide (x<(-1125899906842624))
def sumV:Int->List Int->Ctl Int (Int×Int)
 |n,[]=>.cont n
 |n,x::l=>bif badA x||badA (IntKind.i64.wrap (n+x))then .done (0,300)else sumV (IntKind.i64.wrap (n+x)) l
def sumP(l:List Int):Int×Int:=match sumV 0 l with
 |.cont n=>(n,0)
 |.done r=>r
theorem Qjr{step:Nat->Int×Int->Option (Ctl (Int×Int) (Ctl Int (Int×Int)))}(l:List Int)(m:l.length<=1048576)
  (h:∀i x n,At l i x->Ev (λk=>step k (n,(i:Int))) (bif badA x||badA (IntKind.i64.wrap (n+x))then .done (.done (0,300))else .cont (IntKind.i64.wrap (n+x),((i+1:Nat):Int))))
  (g:∀n,Ev (λk=>step k (n,(l.length:Int))) (.done (.cont n))):Ev (λk=>Go.Sw.iter (step k) k (0,0)) (sumV 0 l):=by
 have loop:∀(r:List Int) (i:Nat) (n:Int),l.drop i=r->i<=l.length->EvI step (n,(i:Int)) (sumV n r):=by
  intro r
  induction r with
  |nil=>
   intro i n b e;have:i=l.length:=by have:=Xu.1 b;omega
   subst this;exact Ej (g n)
  |cons x r f=>
   intro i n b e;obtain⟨d,j⟩:=Qp (by omega) b;have a:=h i x n d;unfold sumV;cases q:badA x||badA (IntKind.i64.wrap (n+x))with
   |true=>rw[q]at a;exact Ej a
   |false=>rw[q]at a;exact Ew a (f (i+1) _ j d.lt')
 exact(loop l 0 0 rfl (X3 _)).ev
theorem Qdj(x:Int):Ev (λn=>F_af n x) (bif badA x then 300 else 0):=by
 unfold F_af;refine Ea (v:=badA x) (by unfold badA;exact Qf λ_=>Qa _) ?_;cases badA x<;>exact Qa _
theorem Qcj(x:Int):Ev (λn=>F_aa n x) (bif badA x then 300 else 0):=by
 unfold F_aa;refine Ea (v:=badA x) (by unfold badA;exact Qf λ_=>Qa _) ?_;cases badA x<;>exact Qa _
theorem Qje(b:Bool):((bif b then(300:Int)else 0) != 0)=b:=by cases b<;>rfl
theorem Qmx(l:List Int)(b:l.length<=1048576):Ev (λn=>F_fl n l) (sumP l):=by
 unfold F_fl;refine Ea (Qjr (step:=λn=>F_jr n l) l b (λi x n a=>?_) λn=>?_) ?_
 .unfold F_jr;simp only[a.lt,cond_true,a.ix,XR,a.nx];refine Ea (v:=badA x||badA (IntKind.i64.wrap (n+x))) (Ea (Qdj x) ?_) ?_
  .rw[Qje];refine Qf λ_=>Ea (Qdj _) ?_;rw[Qje];exact Qa _
  .cases badA x||badA (IntKind.i64.wrap (n+x))<;>exact Qa _
 .unfold F_jr;simp only[Yt,cond_false];exact Qa _
 .unfold sumP;cases sumV 0 l<;>exact Qa _
theorem Qjt(l:List Int)(b:l.length<=1048576):Ev (λn=>F_fc n l) (sumP l):=by
 unfold F_fc;refine Ea (Qjr (step:=λn=>F_li n l) l b (λi x n a=>?_) λn=>?_) ?_
 .unfold F_li;simp only[a.lt,cond_true,a.ix,XR,a.nx];refine Ea (v:=badA x||badA (IntKind.i64.wrap (n+x))) (Ea (Qcj x) ?_) ?_
  .rw[Qje];refine Qf λ_=>Ea (Qcj _) ?_;rw[Qje];exact Qa _
  .cases badA x||badA (IntKind.i64.wrap (n+x))<;>exact Qa _
 .unfold F_li;simp only[Yt,cond_false];exact Qa _
 .unfold sumP;cases sumV 0 l<;>exact Qa _
theorem Qo6{m:Nat}(a:1<=m)(b:m<=6):Ev (λn=>F_dv n [1] (m:Int)) (List.replicate m 1):=by
 have e:m=1\/m=2\/m=3\/m=4\/m=5\/m=6:=by omega
 unfold F_dv;rcases e with rfl|rfl|rfl|rfl|rfl|rfl
 all_goals
  refine Ea (v:=()) (EA rfl) (Ea (v:=()) (by unfold F_gr F_iz;exact Qa _) (Ea (v:=false) (EA rfl) (Ea (v:=()) (EA rfl) (Ea (EA rfl) (Ea (EA rfl) (Ea ?_ (Qa _)))))));exact Qib (Qbd (step:=F_mz 0) 5 rfl) λn=>rfl
theorem Qln(A:List Int)(z x:Int)(B:List Int){i:Nat}(hi:A.length=i):Qbz (A++z::B) (i:Int) x=some (A++x::B):=by
 subst hi;unfold Qbz;have a:(decide (0<=(A.length:Int))&&decide ((A.length:Int)<((A++z::B).length:Int)))=true:=by
  rw[X5];refine⟨decide_eq_true (by omega),decide_eq_true ?_⟩;rw[Vb,X9];omega
 rw[a];simp
theorem Qji(A:List Int)(z:Int)(B:List Int){i:Nat}(hi:A.length=i):idx (A++z::B) (i:Int)=some z:=by
 subst hi;exact Qq (by simp)
def outT(m q t:Nat):List Int:=(List.range m).map λi=>(q:Int)+(if i<t then 1 else 0)
def splN(A m:Nat):List Int:=outT m (A/m) (A%m)
theorem Y4(m q t:Nat):(outT m q t).length=m:=by unfold outT;simp
theorem QdT{m i:Nat}(hi:i<m):idx (List.replicate m (1:Int)) (i:Int)=some 1:=Qq (by simp[hi])
theorem Qjv{step:Nat->Int×Int->Option (Ctl (Int×Int) (Ctl Int ((List Int)×Int)))}{m:Nat}(hm:m<=6)
  (hs:∀i,i<m->Ev (λk=>step k ((i:Int),(i:Int))) (.cont (IntKind.i64.wrap ((i:Int)+1),IntKind.i64.wrap ((i:Int)+1))))(hd:Ev (λk=>step k ((m:Int),(m:Int))) (.done (.cont (m:Int)))):
  Ev (λk=>Go.Sw.iter (step k) k (0,0)) (Ctl.cont (m:Int)):=
 Ex (λi=>((i:Int),(i:Int))) m rfl (λi hi=>(hs i hi).eq (by rw[Yb (by omega)])) hd
theorem EvL.upto{T:Type}{step:Nat->Int->Option (List T×Ctl Int Unit)}(m:Nat)(g:Nat->T)(d:∀i,i<m->Ev (λn=>step n (i:Int)) ([g i],.cont ((i+1:Nat):Int)))(e:Ev (λn=>step n (m:Int)) ([],.done ())):
  EvL step 0 ((List.range m).map g,()):=by
 have loop:∀(k i:Nat),i+k=m->EvL step (i:Int) ((List.range' i k).map g,()):=by
  intro k
  induction k with
  |zero=>
   intro i a;obtain rfl:i=m:=by omega
   exact EvL.done e
  |succ k b=>
   intro i a;refine(EvL.cont (d i (by omega)) (b (i+1) (by omega))).eq ?_;rw[List.range'_succ];rfl
 have:=loop m 0 (by omega)
 rwa [<- List.range_eq_range']at this
def partG(q r:Int)(i:Nat):money_part:={index:=(i:Int),cents:=q,rest:=r}
def cmpM(x y:money_part):Int:=orL [cmpI y.rest x.rest,cmpI x.index y.index]
theorem YX(q r:Int)(i j:Nat):cmpM (partG q r i) (partG q r j)<0↔i<j:=by
 unfold cmpM partG orL orL orL cmpI;simp only[Int.lt_irrefl,decide_false,cond_false,bne_self_eq_false];by_cases a:(i:Int)<j
 .simp[a];omega
 .by_cases b:(j:Int)<i
  .simp[a,b];omega
  .have:i=j:=by omega
   subst this;simp
theorem QfW(n:Nat)(x y:money_part):F_ab (n+3) x y=some (cmpM x y):=by
 unfold F_ab cmpM;simp only[Qjw,XR,or2]
theorem Qmb(q r:Int){m:Nat}(u:m<=6):Ev (λn=>Qcr (λx y=>F_ab n x y) ((List.range m).map (partG q r))) ((List.range m).map (partG q r)):=by
 refine⟨3,λn t=>?_⟩;obtain⟨k,rfl⟩:∃k,n=k+3:=⟨n-3,by omega⟩;have mem:∀x∈(List.range m).map (partG q r),∃i,x=partG q r i:=by
  intro x a;obtain⟨i,_,e⟩:=Xf.1 a;exact⟨i,e.symm⟩
 have d:((List.range m).map (partG q r)).length<=Q1:=by
  have:Q1=4294967296:=rfl;rw[Va,Xz];omega
 have e:=Qlj (cf:=λx y=>F_ab (k+3) x y) d cmpM (λx _ y _=>QfW k x y)
  (λx a=>by obtain⟨i,rfl⟩:=mem x a;rw[YX];omega)
  (λx a y b z f=>by obtain⟨i,rfl⟩:=mem x a;obtain⟨j,rfl⟩:=mem y b;obtain⟨l,rfl⟩:=mem z f;rw[YX,YX,YX];omega)
  (λx a y b z f=>by obtain⟨i,rfl⟩:=mem x a;obtain⟨j,rfl⟩:=mem y b;obtain⟨l,rfl⟩:=mem z f;rw[YX,YX,YX];omega)
  (λx a y b=>by
   obtain⟨i,rfl⟩:=mem x a;obtain⟨j,rfl⟩:=mem y b;rw[YX,YX];intro s w;have:i=j:=by omega
   rw[this])
 show Qcr (λx y=>F_ab (k+3) x y) ((List.range m).map (partG q r))=some ((List.range m).map (partG q r));rw[e];obtain⟨_,_,g,p,_⟩:=Qeb e;refine congrArg some (QaB (QS _ _) (λx a y b=>p x ((QS _ _).mem_iff.1 a) y ((QS _ _).mem_iff.1 b)) (YL g) ?_);refine List.Pairwise.map (partG q r) (λi j h=>?_) (List.pairwise_lt_range (n:=m));show(match F_ab (k+3) (partG q r j) (partG q r i)with|some c=>decide (c<0)|none=>false)=false;rw[QfW];have:¬cmpM (partG q r j) (partG q r i)<0:=by rw[YX];omega
 exact decide_eq_false this
theorem Qmy(A m:Nat)(N:1<=m)(u:m<=6)(O:A<=1125899906842624):Ev (λn=>F_fn n (A:Int) (List.replicate m 1)) (splN A m,0):=by
 have f:=Nat.div_add_mod A m;have B:A/m<=A:=Nat.div_le_self _ _;have e:A%m<m:=Nat.mod_lt _ (by omega);have a:(List.replicate m (1:Int)).length=m:=by simp
 have z:Int.tdiv (A:Int) (m:Int)=((A/m:Nat):Int):=rfl;have y:Int.tmod (A:Int) (m:Int)=((A%m:Nat):Int):=rfl;unfold splN;generalize A/m=Q at f B z⊢;generalize A%m=R at f e y⊢;have g:badA (A:Int)=false:=by
  unfold badA;rw[decide_eq_false (by omega),decide_eq_false (by omega)];rfl
 unfold F_fn;refine Ea (v:=0) ((Qdj _).eq (by rw[g];rfl)) ?_;refine QK ?_;rw[a,QD (show¬(256:Int)<(m:Int)by omega)];refine QK (Ea (v:=Ctl.cont (m:Int)) (Qjv u (λi b=>?_) ?_) ?_)
 .unfold F_lw;simp only[a,ltN b,cond_true,QdT b,XR];exact Ea (v:=false) (Qa _) (Qa _)
 .unfold F_lw;simp only[a,geN (X2 _),cond_false];exact Qa _
 have w:((m:Int)==0)=false:=beq_false_of_ne (by omega);have H:IntKind.i64.wrap (1*(A:Int))=(A:Int):=by rw[Int.one_mul];exact Qu (by omega) (by omega)
 have s:IntKind.i64.wrap ((A:Int)*1)=(A:Int):=by rw[Int.mul_one];exact Qu (by omega) (by omega)
 simp only[w,cond_false,QD (show¬(A:Int)<0 by omega),XR,H];unfold F_gs F_hf;simp only[XR];have r:nz (m:Int)=some ():=by unfold nz;rw[w];rfl
 refine Ea (v:=((List.range m).map (partG (Q:Int) (R:Int)),())) ?_ ?_
 .refine Ea (EvL.upto (step:=λn=>F_jp n (List.replicate m 1) (A:Int) (m:Int)) m (partG (Q:Int) (R:Int)) (λi b=>?_) ?_).ev ((Qa _).eq (by simp))
  .unfold F_jp;simp only[a,ltN b,cond_true,QdT b,XR,r,s,Yb (show i<=1048576 by omega)];refine(Qa _).eq ?_;rw[z,y,Qu (by omega) (by omega)];rfl
  .unfold F_jp;simp only[a,geN (X2 _),cond_false];exact Qa _
 have run:∀(k i:Nat),i+k=m->Ev (λn=>Qcw (F_lm n) ((List.range' i k).map (partG (Q:Int) (R:Int))) ((A:Int)-((i*Q:Nat):Int),(List.range i).map (partG (Q:Int) (R:Int)))) (Ctl.cont ((R:Int),(List.range m).map (partG (Q:Int) (R:Int)))):=by
  intro k
  induction k with
  |zero=>
   intro i b;obtain rfl:i=m:=by omega
   refine(Qa _).eq ?_;rw[show(A:Int)-((i*Q:Nat):Int)=(R:Int)by omega]
  |succ k F=>
   intro i b;have M:(i+1)*Q<=m*Q:=XJ _ (by omega);have L:(i+1)*Q=i*Q+Q:=Xn _ _;rw[List.range'_succ,Vs];have step:Ev (λn=>F_lm n ((A:Int)-((i*Q:Nat):Int),(List.range i).map (partG (Q:Int) (R:Int))) (partG (Q:Int) (R:Int) i)) (Ctl.cont ((A:Int)-(((i+1)*Q:Nat):Int),(List.range (i+1)).map (partG (Q:Int) (R:Int)))):=by
    unfold F_lm;rw[QaF (by simp;omega)];refine(Qa _).eq ?_;rw[XA,Xg];have:IntKind.i64.wrap ((A:Int)-((i*Q:Nat):Int)-(Q:Int))=(A:Int)-(((i+1)*Q:Nat):Int):=by
     rw[Qu (by omega) (by omega)];omega
    simp only[partG]at this⊢;rw[this];rfl
   exact Ea step (F (i+1) (by omega))
 refine Ea (v:=Ctl.cont ((R:Int),(List.range m).map (partG (Q:Int) (R:Int)))) ?_ ?_
 .have:=run m 0 (by omega);rw[<- List.range_eq_range']at this;simpa using this
 refine Ea (Qmb _ _ u) ?_;have t:((List.range m).map (partG (Q:Int) (R:Int))).length=m:=by simp
 refine Ea (v:=outT m Q R++List.replicate (256-m) 0) ?_ ?_
 .refine Ex (λi=>(outT i Q R++List.replicate (256-i) 0,(i:Int))) m rfl (λi b=>?_) ?_
  .have J:idx ((List.range m).map (partG (Q:Int) (R:Int))) (i:Int)=some (partG (Q:Int) (R:Int) i):=Qq (by simp[b]);have er:List.replicate (256-i) (0:Int)=0::List.replicate (256-(i+1)) 0:=by
    rw[show 256-i=(256-(i+1))+1 by omega,Xm]
   have G:∀x:Int,Nat.beq (outT i Q R++x::List.replicate (256-(i+1)) 0).length 256=true:=by
    intro x;have:(outT i Q R++x::List.replicate (256-(i+1)) 0).length=256:=by
     rw[Vb,Y4,X9,List.length_replicate];omega
    rw[this];rfl
   have p:IntKind.i64.wrap (1*(Q:Int))=(Q:Int):=by rw[Int.one_mul];exact Qu (by omega) (by omega)
   have E:outT (i+1) Q R=outT i Q R++[(Q:Int)+(if i<R then 1 else 0)]:=by
    unfold outT;rw[XA,Xg];rfl
   unfold F_lt Qch;rw[er];simp only[t,ltN b,cond_true,J,XR,partG,G,Qji _ _ _ (Y4 i _ _),Qln _ _ _ _ (Y4 i _ _),p,Yb (show i<=1048576 by omega)];rw[E,Vr];by_cases j:i<R
   .rw[QN (show((i:Int)<(R:Int))by omega),if_pos j];refine(Qa _).eq ?_;rw[Qu (by omega) (by omega)];rfl
   .rw[QD (show¬((i:Int)<(R:Int))by omega),if_neg j];refine(Qa _).eq ?_;rw[Int.add_zero];rfl
  .unfold F_lt;simp only[t,geN (X2 _),cond_false];exact Qa _
 have d:(outT m Q R++List.replicate (256-m) (0:Int)).length=256:=by
  rw[Vb,Y4,List.length_replicate];omega
 refine Ea (v:=outT m Q R++List.replicate (256-m) 0) (EA (by unfold arr;rw[d];rfl)) ?_;refine Ea (v:=outT m Q R) (EA ?_) ?_
 .unfold slc;rw[d,QN (show(0:Int)<=0 by omega),QN (show(0:Int)<=(m:Int)by omega),QN (show(m:Int)<=((256:Nat):Int)by omega)];simp only[Bool.and_self,cond_true,Int.toNat_natCast];rw[Vg (by rw[Y4];exact X2 _),List.take_of_length_le (by rw[Y4];exact X2 _)];rfl
 .refine Ea (v:=outT m Q R) ?_ (Qa _);unfold F_in isNil;have q:(outT m Q R).isEmpty=false:=by
   cases h:outT m Q R with
   |nil=>have:=Y4 m Q R;rw[h]at this;simp at this;omega
   |cons x l=>rfl
  rw[q];refine QK (Ea (EA (Qbk [] _ (by rw[Y4];simp;omega))) (Qa _))
def restT(m t:Nat)(r:Int):List Int:=(List.range m).map λi=>if i<t then-1 else r
theorem Qem{m t i:Nat}(r:Int)(hi:i<m):idx (restT m t r) (i:Int)=some (if i<t then-1 else r):=by unfold restT;exact Qq (by simp[hi])
theorem Qnr{m q t i:Nat}(hi:i<m):idx (outT m q t) (i:Int)=some ((q:Int)+(if i<t then 1 else 0)):=by unfold outT;exact Qq (by simp[hi])
theorem Qfz{m t:Nat}(g g':Nat->Int)(b:t<m)(he:∀i,i≠t->g i=g' i):Qbz ((List.range m).map g) (t:Int) (g' t)=some ((List.range m).map g'):=by
 unfold Qbz;have a:(decide (0<=(t:Int))&&decide ((t:Int)<(((List.range m).map g).length:Int)))=true:=by
  rw[X5,Va,Xz];exact⟨decide_eq_true (by omega),decide_eq_true (by omega)⟩
 rw[a,cond_true,Int.toNat_natCast];refine congrArg some (List.ext_getElem (by simp) λi a d=>?_);rw[List.getElem_set];by_cases e:t=i
 .subst e;simp
 .rw[if_neg e];simp only[List.getElem_map,List.getElem_range];exact he i λz=>e z.symm
theorem Qkh(A m:Nat)(O:1<=m)(F:m<=6)(P:A<=1125899906842624):Ev (λn=>F_es n (A:Int) (List.replicate m 1)) (splN A m,0):=by
 have g:=Nat.div_add_mod A m;have G:A/m<=A:=Nat.div_le_self _ _;have e:A%m<m:=Nat.mod_lt _ (by omega);have a:(List.replicate m (1:Int)).length=m:=by simp
 have l:Int.tdiv (A:Int) (m:Int)=((A/m:Nat):Int):=rfl;have k:Int.tmod (A:Int) (m:Int)=((A%m:Nat):Int):=rfl;unfold splN;generalize A/m=Q at g G l⊢;generalize A%m=R at g e k⊢;have h:badA (A:Int)=false:=by
  unfold badA;rw[decide_eq_false (by omega),decide_eq_false (by omega)];rfl
 unfold F_es;refine Ea (v:=0) ((Qcj _).eq (by rw[h];rfl)) ?_;refine QK ?_;refine Ea (v:=Ctl.cont (m:Int)) (Qjv F (λi b=>?_) ?_) ?_
 .unfold F_lz;simp only[a,ltN b,cond_true,QdT b,XR];exact Ea (v:=false) (Qa _) (Qa _)
 .unfold F_lz;simp only[a,geN (X2 _),cond_false];exact Qa _
 have w:((m:Int)==0)=false:=beq_false_of_ne (by omega);have B:(if(A:Int)<IntKind.i64.wrap (0-(A:Int))then IntKind.i64.wrap (0-(A:Int))else(A:Int))=(A:Int):=by
  rw[Qu (by omega) (by omega),if_neg (by omega)]
 have q:IntKind.i64.wrap ((A:Int)*1)=(A:Int):=by rw[Int.mul_one];exact Qu (by omega) (by omega)
 have p:nz (m:Int)=some ():=by unfold nz;rw[w];rfl
 simp only[a];refine Ea (v:=false) ?_ (QK ?_)
 .rw[QD (show¬(m:Int)<1 by omega),QD (show¬(256:Int)<(m:Int)by omega),w];exact Qa _
 refine Ea (v:=(outT m Q 0,restT m 0 (R:Int),(R:Int))) ?_ ?_
 .rw[B];refine Ex (λi=>(outT i Q 0,restT i 0 (R:Int),(A:Int)-((i*Q:Nat):Int),(i:Int))) m (by simp[outT,restT]) (λi b=>?_) ?_
  .have N:(i+1)*Q<=m*Q:=XJ _ (by omega);have M:(i+1)*Q=i*Q+Q:=Xn _ _;have H:outT (i+1) Q 0=outT i Q 0++[(Q:Int)]:=by
    unfold outT;rw[XA,Xg];simp
   have L:restT (i+1) 0 (R:Int)=restT i 0 (R:Int)++[(R:Int)]:=by
    unfold restT;rw[XA,Xg];simp
   have f:=Y4 i Q 0;unfold F_mw;simp only[a,ltN b,cond_true,QdT b,XR,p,B,q,l,k,Yb (show i<=1048576 by omega)];rw[Qu (n:=(Q:Int)) (by omega) (by omega),QaF (by rw[f];omega),QaF (by simp[restT];omega)];simp only[XR,Qji (outT i Q 0) _ [] f];refine(Qa _).eq ?_;rw[H,L,Qu (by omega) (by omega)];rw[show(A:Int)-((i*Q:Nat):Int)-(Q:Int)=(A:Int)-(((i+1)*Q:Nat):Int)by omega]
  .unfold F_mw;simp only[a,geN (X2 _),cond_false];refine(Qa _).eq ?_;rw[show(A:Int)-((m*Q:Nat):Int)=(R:Int)by omega]
 refine Ea (v:=outT m Q R) ?_ ?_
 .refine Ex (λt=>(outT m Q t,restT m t (R:Int),(R:Int)-(t:Int))) R (by simp) (λt T=>?_) ?_
  .have z:(restT m t (R:Int)).length=m:=by unfold restT;simp
   unfold F_lq;simp only[QN (show(0:Int)<(R:Int)-(t:Int)by omega),cond_true];refine Ea (v:=(t:Int)) ?_ ?_
   .refine Ex (λj=>(((if j+1<=t then 0 else t:Nat):Int),((j+1:Nat):Int))) (m-1) ?_ (λj s=>?_) ?_
    .by_cases x:0+1<=t
     .rw[if_pos x];rfl
     .rw[if_neg x,show t=0 by omega];rfl
    .have J:(if j+1<=t then 0 else t)<m:=by split<;>omega
     unfold F_lr;simp only[z,ltN (show j+1<m by omega),cond_true,Qem _ (show j+1<m by omega),Qem _ J,XR,Yb (show j+1<=1048576 by omega)];refine Ea (v:=((if j+1+1<=t then 0 else t:Nat):Int)) ?_ (Qa _);by_cases u:j+1<t
     .rw[if_pos u,if_pos (show j+1<=t by omega),if_pos (show 0<t by omega),if_pos (show j+1+1<=t by omega)];exact Qa _
     .rw[if_neg u,if_neg (show¬j+1+1<=t by omega)];by_cases E:j+1=t
      .rw[if_pos (show j+1<=t by omega),if_pos (show 0<t by omega),QN (show(-1:Int)<(R:Int)by omega),E];exact Qa _
      .rw[if_neg (show¬j+1<=t by omega),if_neg (show¬t<t by omega),QD (show¬(R:Int)<(R:Int)by omega)];exact Qa _
    .have s:m-1+1=m:=by omega
     unfold F_lr;simp only[z,s,geN (X2 _),cond_false];rw[if_neg (show¬m<=t by omega)];exact Qa _
   .have r:=Qfz (m:=m) (t:=t) (λi=>(Q:Int)+(if i<t then 1 else 0)) (λi=>(Q:Int)+(if i<t+1 then 1 else 0)) (by omega) λi b=>by
     by_cases c:i<t
     .rw[if_pos c,if_pos (by omega)]
     .rw[if_neg c,if_neg (by omega)]
    have y:=Qfz (m:=m) (t:=t) (λi=>if i<t then(-1:Int)else(R:Int)) (λi=>if i<t+1 then(-1:Int)else(R:Int)) (by omega) λi b=>by
     by_cases c:i<t
     .rw[if_pos c,if_pos (by omega)]
     .rw[if_neg c,if_neg (by omega)]
    simp only[Xp,if_true]at r y;have l:IntKind.i64.wrap ((Q:Int)+0+1)=(Q:Int)+1:=by rw[Int.add_zero];exact Qu (by omega) (by omega)
    have k:IntKind.i64.wrap ((R:Int)-(t:Int)-1)=(R:Int)-((t+1:Nat):Int):=by rw[Qu (by omega) (by omega)];omega
    simp only[Qnr (show t<m by omega),Qem _ (show t<m by omega),XR,if_neg (show¬t<t by omega),l,k];unfold outT restT;rw[r];simp only[XR];rw[y];exact Qa _
  .unfold F_lq;simp only[QD (show¬(0:Int)<(R:Int)-(R:Int)by omega),cond_false];exact Qa _
 refine Ea (v:=outT m Q R) (Ex (λ_=>(outT m Q R,0)) 0 rfl (λi b=>absurd b (Xo _)) ?_) (Qa _);unfold F_na;rw[QD (show¬(A:Int)<0 by omega)];refine Ea (v:=false) ?_ (Qa _);exact(Ei (d:=false) λ_=>Qa _).eq (by simp)
theorem Qov:F_ij 300=some true:=by kernel_rfl
theorem Qkg(c:Course)(f:Field)(d k e:Int)(he:Ev (λn=>F_ad n c) e)(a:FewF f):Ev (λn=>F_en n c f d k) (checkV e c f d k):=by
 unfold F_en checkV;refine Ea he ?_;refine YE (λ_=>Qa _) λ_=>?_;refine Ea (v:=decide (d<0)||(decide ((c.Distances.length:Int)<=d)||(decide (k< -1)||decide ((c.Categories.length:Int)<=k)))) (Qf λ_=>Qf λ_=>Qf λ_=>Qa _) ?_;refine YE (λ_=>Qa _) λ_=>?_;refine Ea (QfT f a) ?_;cases fieldB f<;>exact Qa _
def rkN(j:Nat):Int:=((j+1:Nat):Int)
theorem Qnv{m:MapI}(h:(m.map Prod.fst).Nodup):(keysS m).Pairwise (· < ·):=by
 have d:(keysS m).Pairwise (· <= ·):=(YL (QcF _)).imp λ{a b} h=>by simp[ltI]at h;exact h
 have e:(keysS m).Pairwise (· ≠ ·):=QlW h;exact(d.and e).imp λ{a b} z=>by have:=z.1;have:=z.2;omega
theorem Qmc(l:List Payment)(d:l.length<=1048576):Ev (λn=>F_ac n l l) true:=by
 unfold F_ac;simp only[bne_self_eq_false,cond_false];refine Ea (v:=Ctl.cont ()) (Ex (λi=>(i:Int)) l.length rfl (λi b=>?_) ?_) (Qa _)
 .have a:=atN d b;unfold F_mj;simp only[a.lt,cond_true,a.ix,XR,a.nx,bne_self_eq_false,cond_false];exact Qa _
 .unfold F_mj;simp only[Yt,cond_false];exact Qa _
end Go.Sw
