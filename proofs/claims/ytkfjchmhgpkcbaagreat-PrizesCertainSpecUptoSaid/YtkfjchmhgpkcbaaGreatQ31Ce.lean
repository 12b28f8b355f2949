/- The plain laws that a law needs, with no program in sight. -/
import Derived.Test.YtkfjchmhgpkcbaaGreatW31Ce
set_option linter.unusedVariables false
set_option linter.unusedSimpArgs false
namespace Go.Sw
def inR(lo hi x:Int):Bool:=decide (lo<=x)&&decide (x<=hi)
theorem QfK(lo hi:Int)(l:List Int)(a:l.length<=4611686018427387904):Ev (λn=>F_a n lo hi l) (l.all (inR lo hi)):=by
 have h:Ev (λn=>F_ck n l lo hi) (l.any λx=> !inR lo hi x):=by
  unfold F_ck F_hg;refine Ev.contains l _ (λn x=>F_ca n x lo hi) a λx _=>?_;unfold F_ca;refine Ev.bind (v:= !inR lo hi x) ?_ (Qa _);refine(Qf λh=>Qa _).eq ?_;unfold inR;rw[X6];simp
 unfold F_a;refine Ev.bind h ((Qa _).eq ?_);rw[List.not_any_eq_all_not];simp
def okN(c:Nat):Bool:=(decide (97<=c)&&decide (c<=122))||(decide (48<=c)&&decide (c<=57))||decide (c=95)
def okAN(c:Nat):Bool:=decide (97<=c)&&decide (c<=122)
def okC(c:UInt8):Bool:=okN c.toNat
def okA(c:UInt8):Bool:=okAN c.toNat
def kwL:List (List UInt8):=[[99,111,117,114,115,101],[109,97,116,115],[115,116,97,114,116],[112,97,115,115],[101,110,100],[108,101,103],[116,111],[100,105,115,116,97,110,99,101],[103,117,110],[99,104,105,112],[115,108,111,116],[108,97,112,115],[108,97,112],[99,117,116,111,102,102],[101,120,116,114,97],[119,97,118,101],[111,102,102,101,110,99,101],[111,117,116],[99,97,116,101,103,111,114,121],[112,114,105,122,101],[97,108,108],[116,105,101,115],[105,102],[101,108,115,101],[97,110,100],[111,114],[110,111,116],[111,108,100,101,114],[121,111,117,110,103,101,114],[98,105,98],[100,114,97,119],[102,105,101,108,100],[115,104,111,114,116],[102,97,117,108,116,115],[109,105,115,115,101,115],[115,116,114,97,121,115],[119,105,110,100,111,119],[114,101,115,105,100,117,97,108],[100,114,105,102,116],[112,114,111,116,101,115,116],[102,101,101],[100,101,97,100,108,105,110,101]]
theorem QgC(c d:Bool):(bif c then some c else some d)=some (c||d):=by cases c<;>rfl
theorem QcH(c d:Bool):(bif c then some true else some d)=some (c||d):=by cases c<;>rfl
theorem Qfk(n:Nat)(s:List UInt8):F_cs n s=some (kwL.contains s):=by
 unfold F_cs;simp only[QgC,QcH,XQ];simp only[kwL,List.contains_cons,List.contains_nil,Bool.or_false,Bool.or_assoc]
def kwsOf:List UInt8->List (List UInt8)
 |[]=>[]
 |b::l=>(bif b==32&& !(l.dropWhile λc=>c != 32).isEmpty then[l.takeWhile λc=>c != 32]else[])++kwsOf l
theorem Qdq:∀(l s:List UInt8),(∀c∈s,c≠32)->(s++[32]).isPrefixOf l=((l.takeWhile λc=>c != 32)==s&& !(l.dropWhile λc=>c != 32).isEmpty)
 |[],s,h=>by cases s<;>simp
 |b::l,[],h=>by
  by_cases e:b=32
  .subst e;simp[List.isPrefixOf]
  .have e1:(b != 32)=true:=by simpa using e
   have k:(32==b)=false:=by simpa using λq=>e q.symm
   simp[List.isPrefixOf,List.takeWhile_cons,e1,k]
 |b::l,c::s,h=>by
  have j:=h c (by simp);have g:=Qdq l s λd f=>h d (by simp[f]);by_cases e:b=32
  .subst e;have:(c==32)=false:=by simpa using j
   simp[List.isPrefixOf,this]
  .have e1:(b != 32)=true:=by simpa using e
   simp only[List.cons_append,List.isPrefixOf,List.takeWhile_cons,List.dropWhile_cons,e1,if_true,g,List.cons_beq_cons];by_cases q:c=b
   .subst q;simp
   .have i:(c==b)=false:=by simpa using q
    have a:(b==c)=false:=by simpa using λz=>q z.symm
    simp[i,a]
theorem contains_cons(b:UInt8)(l t:List UInt8)(d:t≠[]):Lib.contains (b::l) t=(t.isPrefixOf (b::l)||Lib.contains l t):=by
 unfold Lib.contains;rw[show Lib.index (b::l) t=if t.isPrefixOf (b::l)then 0 else if Lib.index l t== -1 then-1 else Lib.index l t+1 from rfl];cases h:t.isPrefixOf (b::l)with
 |true=>simp
 |false=>
  have:=Lib.index_ge l t;by_cases q:Lib.index l t= -1
  .simp[q]
  .have a:(Lib.index l t== -1)=false:=by simpa using q
   simp only[a,Bool.false_or];rw[X6];simp;omega
theorem QbP(s:List UInt8)(h:∀c∈s,c≠32):∀l,Lib.contains l (32::(s++[32]))=(kwsOf l).contains s
 |[]=>by simp[Lib.contains,Lib.index,kwsOf]
 |b::l=>by
  rw[contains_cons b l _ (by simp),QbP s h l];simp only[kwsOf,List.isPrefixOf,Qdq l s h];by_cases e:b=32
  .subst e;cases q: !(l.dropWhile λc=>c != 32).isEmpty with
   |true=>
    simp only[q,beq_self_eq_true,Bool.true_and,Bool.and_true,cond_true,List.cons_append,Vp,List.contains_cons];congr 1;rw[X6];simp only[beq_iff_eq];exact⟨λh=>h.symm,λh=>h.symm⟩
   |false=>simp[q]
  .have e1:(b==32)=false:=by simpa using e
   have a:(32==b)=false:=by simpa using λq=>e q.symm
   simp[e1,a]
def wordsL:List UInt8:=[32,99,111,117,114,115,101,32,109,97,116,115,32,115,116,97,114,116,32,112,97,115,115,32,101,110,100,32,108,101,103,32,116,111,32,100,105,115,116,97,110,99,101,32,103,117,110,32,99,104,105,112,32,115,108,111,116,32,108,97,112,115,32,108,97,112,32,99,117,116,111,102,102,32,101,120,116,114,97,32,119,97,118,101,32,111,102,102,101,110,99,101,32,111,117,116,32,99,97,116,101,103,111,114,121,32,112,114,105,122,101,32,97,108,108,32,116,105,101,115,32,105,102,32,101,108,115,101,32,97,110,100,32,111,114,32,110,111,116,32,111,108,100,101,114,32,121,111,117,110,103,101,114,32,98,105,98,32,100,114,97,119,32,102,105,101,108,100,32,115,104,111,114,116,32,102,97,117,108,116,115,32,109,105,115,115,101,115,32,115,116,114,97,121,115,32,119,105,110,100,111,119,32,114,101,115,105,100,117,97,108,32,100,114,105,102,116,32,112,114,111,116,101,115,116,32,102,101,101,32,100,101,97,100,108,105,110,101,32]
theorem Qou:kwsOf wordsL=kwL:=by decide+kernel
def classTab:List Int:=(List.range 256).map λi=>if 97<=i/\i<=122\/65<=i/\i<=90 then 2 else if 48<=i/\i<=57 then 3 else if i∈[123,125,40,41,91,93,59,44,61,60,62]then 4 else if i∈[32,9,10,13]then 1 else 0
theorem Qiu:Ev F_cp classTab:=by
 unfold F_cp;refine Ev.bind (Qbi (step:=F_hn 0) 40 (b:=(iter (F_hn 0) 40 (List.replicate 256 0,97)).getD []) (by decide+kernel)) ?_;refine Ev.bind (Qbi (step:=F_lm 0) 40 (b:=(iter (F_lm 0) 40 ((iter (F_hn 0) 40 (List.replicate 256 0,97)).getD [],48)).getD []) (by decide+kernel)) ?_;generalize hb:(iter (F_lm 0) 40 ((iter (F_hn 0) 40 (List.replicate 256 0,97)).getD [],48)).getD []=b2;refine Ev.bind (Qbi (step:=F_lu 0) 40 (b:=(iter (F_lu 0) 40 (b2,0)).getD []) (by subst hb;decide+kernel)) ?_;refine Ev.bind (Qbi (step:=F_mt 0) 40 (b:=classTab) (by subst hb;decide+kernel)) ?_;exact Ev.const (by decide+kernel)
theorem Qkl:((List.range 256).all λi=> !okN i||decide (classTab[i]?=some (if okAN i then 2 else if i=95 then 0 else 3)))=true:=by decide+kernel
theorem Qmk{c:UInt8}(h:okC c=true):QcC 256 classTab (c.toNat:Int)=some (if okA c then 2 else if c.toNat=95 then 0 else 3):=by
 have a:=Xw.1 Qkl c.toNat (List.mem_range.2 c.toNat_lt);unfold okC at h;rw[h]at a;simp only[Xh,Bool.false_or,decide_eq_true_eq]at a;unfold QcC;rw[show Nat.beq classTab.length 256=true by decide+kernel,cond_true,Qo a];rfl
def goodS(s:List UInt8):Bool:=decide (1<=s.length)&&decide (s.length<=24)&&(s.head?).any okA&&s.all okC
def isNameS(s:List UInt8):Bool:=goodS s&& !kwL.contains s
theorem Qj4(s:List UInt8)(h:goodS s=true):Ev (λn=>F_ce n s) true:=by
 unfold goodS at h;simp only[X4,decide_eq_true_eq,Xw]at h;obtain⟨⟨⟨d,k⟩,g⟩,f⟩:=h;unfold F_ce;refine Ev.bind Qiu ?_;refine Ju (v:=List.replicate 256 0) (by decide+kernel) ?_;refine Ju (v:=classTab) (by decide+kernel) ?_;refine Ev.bind (v:=Ctl.cont ()) (Ev.iter (λi=>(i:Int)) s.length rfl (λi e=>?_) ?_) ?_
 .have a:=Jw (x:=s[i]) (by omega) (XR e);have j:=f _ a.mem;unfold F_lp;simp only[a.lt,cond_true,a.ix,XQ,Qmk j,a.nx];cases i with
  |zero=>
   have:okA s[0]=true:=by
    cases s with
    |nil=>simp at d
    |cons c r=>simpa using g
   simp[this];exact Qa _
  |succ i=>
   by_cases q:okA s[i+1]=true
   .simp[q];exact Qa _
   .by_cases b:s[i+1].toNat=95
    .simp[q,b];exact Qa _
    .simp[q,b];exact Qa _
 .unfold F_lp;simp only[Yc,cond_false];exact Qa _
 .refine Ev.const ?_;cases s with
  |nil=>simp at d
  |cons c r=>rfl
theorem QjX{s:List UInt8}(h:goodS s=true):∀c∈s,c≠32:=by
 unfold goodS at h;simp only[X4,Xw]at h;rintro c a rfl;exact absurd (h.2 _ a) (by decide)
theorem QlK{s:List UInt8}(h:goodS s=true):s.length<=24:=by
 unfold goodS at h;simp only[X4,decide_eq_true_eq]at h;exact h.1.1.2
theorem Qiz(s:List UInt8)(h:goodS s=true):Ev (λn=>F_fn n s) (kwL.contains s):=by
 unfold F_fn;refine Ev.bind (v:=kwL.contains s) ?_ (Qa _);refine Ev.bind (Qj4 s h) (Qh2 ?_);have a:=QlK h;refine Ju (v:=[32]++s) (by unfold cat;rw[XZ (by simp;omega)];rfl) ?_;refine Ju (v:=[32]++s++[32]) (by unfold cat;rw[XZ (by simp;omega)];rfl) ?_;refine Ju (v:=kwL.contains s) ?_ (Qa _);show Qex wordsL ([32]++s++[32])=some (kwL.contains s);unfold Qex;rw[show Nat.blt wordsL.length 4294967281=true by decide+kernel,cond_true];rw[show[32]++s++[32]=32::(s++[32])by simp,QbP s (QjX h),Qou]
theorem ch_lt(c:UInt8)(k:Nat):decide ((c.toNat:Int)<(k:Int))=decide (c.toNat<k):=by
 rw[X6];simp
theorem badC(c:UInt8):(bif decide ((c.toNat:Int)<97)then(bif decide ((c.toNat:Int)<48)then some ((c.toNat:Int) != 95)else(bif decide (57<(c.toNat:Int))then some ((c.toNat:Int) != 95)else some false))else(bif decide (122<(c.toNat:Int))then(bif decide ((c.toNat:Int)<48)then some ((c.toNat:Int) != 95)else(bif decide (57<(c.toNat:Int))then some ((c.toNat:Int) != 95)else some false))else some false))=some (!okC c):=by
 unfold okC okN;generalize c.toNat=k;have e:((k:Int) != 95)= !decide (k=95):=by
  by_cases h:k=95
  .subst h;rfl
  .rw[decide_eq_false h];simp;omega
 rw[e];by_cases g:k<48
 .rw[QJ (show(k:Int)<97 by omega),QJ (show(k:Int)<48 by omega)];have a:¬97<=k:=by omega
  have f:¬48<=k:=by omega
  simp[a,f]
 .rw[QD (show¬(k:Int)<48 by omega)];by_cases b:k<=57
  .rw[QJ (show(k:Int)<97 by omega),QD (show¬57<(k:Int)by omega)];have a:48<=k:=by omega
   simp[a,b]
  .rw[QJ (show 57<(k:Int)by omega)];by_cases i:k<97
   .rw[QJ (show(k:Int)<97 by omega)];have a:¬97<=k:=by omega
    simp[a,b]
   .rw[QD (show¬(k:Int)<97 by omega)];by_cases d:k<=122
    .rw[QD (show¬122<(k:Int)by omega)];have a:97<=k:=by omega
     simp[a,d]
    .rw[QJ (show 122<(k:Int)by omega)];simp[b,d]
theorem QfE(n:Nat)(s:List UInt8):(bif decide ((s.length:Int)<1)then some true else(bif decide (24<(s.length:Int))then some true else(idx s 0).bind λx10=>(bif decide ((x10.toNat:Int)<97)then some true else(idx s 0).bind λx12=>some (decide (122<(x12.toNat:Int))))))=some (!(decide (1<=s.length)&&decide (s.length<=24)&&(s.head?).any okA)):=by
 cases s with
 |nil=>rfl
 |cons c r=>
  rw[QD (show¬((c::r).length:Int)<1 by simp;omega),cond_false];by_cases h:(c::r).length<=24
  .rw[QD (show¬24<((c::r).length:Int)by omega),cond_false];have e:idx (c::r) 0=some c:=rfl;simp only[e,XQ];simp only[X8]at h;have a:r.length<=23:=by omega
   simp only[List.head?_cons,Option.any_some,okA,okAN];rw[show(97:Int)=((97:Nat):Int)from rfl,ch_lt];by_cases b:c.toNat<97
   .have:¬97<=c.toNat:=by omega
    simp[b,this]
   .have d:97<=c.toNat:=by omega
    simp[b,d,a];by_cases q:c.toNat<=122
    .rw[QD (show¬122<(c.toNat:Int)by omega),QJ q];rfl
    .rw[QJ (show 122<(c.toNat:Int)by omega),QD q];rfl
  .rw[QJ (show 24<((c::r).length:Int)by omega),cond_true];simp only[X8]at h;have a:¬r.length<=23:=by omega
   simp[a]
theorem QfR(s:List UInt8)(g:s.length<=1048576):Ev (λn=>F_e n s) (isNameS s):=by
 unfold F_e;refine Ev.bind (Ev.const (QfE 0 s)) ?_;unfold isNameS;cases d:(decide (1<=s.length)&&decide (s.length<=24)&&(s.head?).any okA)with
 |false=>
  simp only[Xi,cond_true];have:goodS s=false:=by unfold goodS;rw[d];rfl
  rw[this];exact Qa _
 |true=>
  simp only[Xh,cond_false];have f:goodS s=s.all okC:=by unfold goodS;rw[d];rfl
  refine Ev.bind (Y5 s (λc=> !okC c) (λi=>(i:Int)) (Ctl.done false) (Ctl.cont ()) (by omega) rfl (λi x a b=>?_) (λi x a b=>?_) ?_) ?_
  .unfold F_kv;simp only[a.lt,cond_true,a.ix,XQ,badC,b,cond_false,a.nx];exact Qa _
  .unfold F_kv;simp only[a.lt,cond_true,a.ix,XQ,badC,b];exact Qa _
  .unfold F_kv;simp only[Yc,cond_false];exact Qa _
  .rw[f];have e:s.any (λc=> !okC c)= !s.all okC:=by rw[List.not_all_eq_any_not]
   rw[e];cases q:s.all okC with
   |true=>
    simp only[Xh,cond_false,Bool.true_and];exact Ev.bind (Qiz s (f.trans q)) (Qa _)
   |false=>
    simp only[Xi,cond_true,Bool.false_and];exact Qa _
theorem Qbo(s:List UInt8)(p:s.length<=1048576):Ev (λn=>F_bh n s) (isNameS s):=by
 unfold F_bh;refine Ev.bind (Ev.const (QfE 0 s)) ?_;unfold isNameS;cases a:(decide (1<=s.length)&&decide (s.length<=24)&&(s.head?).any okA)with
 |false=>
  simp only[Xi,cond_true];have:goodS s=false:=by unfold goodS;rw[a];rfl
  rw[this];exact Qa _
 |true=>
  simp only[Xh,cond_false];have l:goodS s=s.all okC:=by unfold goodS;rw[a];rfl
  cases s with
  |nil=>simp at a
  |cons c r=>
   have k:okC c=true:=by
    simp only[X4,List.head?_cons,Option.any_some]at a;have:=a.2;unfold okA at this;unfold okC okN;unfold okAN at this;rw[this];rfl
   have m:r.length<=24:=by
    simp only[X4,decide_eq_true_eq,X8]at a;omega
   have j:∀(i:Nat) (x:UInt8),At r i x->decide (((i+1:Nat):Int)<((c::r).length:Int))=true/\idx (c::r) ((i+1:Nat):Int)=some x/\IntKind.i64.wrap (((i+1:Nat):Int)+1)=((i+1+1:Nat):Int):=by
    intro i x b;have:=b.lt';exact⟨decide_eq_true (by simp;omega),Qo (by simpa using b.get),YP (by omega)⟩
   refine Ev.bind (Y5 r (λc=> !okC c) (λi=>((i+1:Nat):Int)) (Ctl.done false) (Ctl.cont ()) (by omega) rfl (λi x b g=>?_) (λi x b g=>?_) ?_) ?_
   .obtain⟨d,f,h⟩:=j i x b;unfold F_kq;simp only[d,cond_true,f,XQ,badC,g,cond_false,h];exact Qa _
   .obtain⟨d,f,h⟩:=j i x b;unfold F_kq;simp only[d,cond_true,f,XQ,badC,g];exact Qa _
   .unfold F_kq;rw[QD (by simp),cond_false];exact Qa _
   .rw[l];have e:r.any (λc=> !okC c)= !(c::r).all okC:=by rw[List.all_cons,k,Bool.true_and,List.not_all_eq_any_not]
    rw[e];cases q:(c::r).all okC with
    |true=>
     simp only[Xh,cond_false,Bool.true_and];exact Ev.bind (Ev.const (Qfk 0 _)) (Qa _)
    |false=>
     simp only[Xi,cond_true,Bool.false_and];exact Qa _
def diffS:List (List UInt8)->List (List UInt8)->Bool
 |_,[]=>true
 |seen,x::r=>isNameS x&& !seen.contains x&&diffS (seen++[x]) r
theorem QeU(l:List (List UInt8))(i:Nat)(x:List UInt8)(h:At l i x):diffS (l.take i) (l.drop i)=(isNameS x&& !(l.take i).contains x&&diffS (l.take (i+1)) (l.drop (i+1))):=by
 rw[h.drop,h.take];rfl
theorem QbO{α:Type}(l:List α)(a:α->List UInt8)(g:Nat->α->Option Unit)(hg:∀n x,g n x=some ())(q:l.length<=1048576)(p:∀x∈l,(a x).length<=1048576):
  Ev (λn=>((iter (λs:(List (List UInt8×Bool))×Int=>bif decide (s.2<(l.length:Int))then(idx l s.2).bind λx35=>(g n x35).bind λr36=>((F_e n (a x35)).bind λr42=>(bif (!r42)then some true else(some (QU s.1 (a x35) false)).bind λv44=>some v44):Option Bool).bind λb40=>(bif b40 then some (.done (.done false))else(some (Q7 s.1 (a x35) true)).bind λm46=>some (.cont (m46,IntKind.i64.wrap (s.2+1))))else some (.done (.cont ()))) n ([],0):Option (Ctl Unit Bool)).bind λb28=>
   match b28 with
   |.cont _=>some true
   |.done s=>some s:Option Bool)) (diffS [] (l.map a)):=by
 have e:l.length<=4611686018427387904:=by omega
 have k:(l.map a).length<=4611686018427387904:=by simpa using e
 have f:=Qbs (B:=Ctl Unit Bool) l (step:=λn s=>bif decide (s.2<(l.length:Int))then(idx l s.2).bind λx35=>(g n x35).bind λr36=>((F_e n (a x35)).bind λr42=>(bif (!r42)then some true else(some (QU s.1 (a x35) false)).bind λv44=>some v44):Option Bool).bind λb40=>(bif b40 then some (.done (.done false))else(some (Q7 s.1 (a x35) true)).bind λm46=>some (.cont (m46,IntKind.i64.wrap (s.2+1))))else some (.done (.cont ())))
  (s0:=(([]:List (List UInt8×Bool)),(0:Int))) (λi=>(Yp a true (l.take i),(i:Int))) (λi=>bif diffS ((l.map a).take i) ((l.map a).drop i)then .cont ()else .done false) e rfl (λi x d=>?_) ?_
 .refine Ev.bind f ?_;simp only[List.take_zero,List.drop_zero];cases diffS [] (l.map a)<;>exact Qa _
 .have j:At (l.map a) i (a x):=Jw k (by rw[Xq,d.get];rfl);simp only[QeU _ _ _ j];have b:Ev (λn=>((F_e n (a x)).bind λr42=>(bif (!r42)then some true else(some (QU (Yp a true (l.take i)) (a x) false)).bind λv44=>some v44):Option Bool)) (!(isNameS (a x)&& !((l.map a).take i).contains (a x))):=by
   refine Ev.bind (QfR (a x) (p x d.mem)) ?_;cases isNameS (a x)with
   |false=>exact Qa _
   |true=>
    refine QN ((Qa _).eq ?_);rw[Qds,List.map_take];by_cases h:a x∈(l.map a).take i
    .rw[if_pos h];simp[h]
    .rw[if_neg h];simp[h]
  cases m:(isNameS (a x)&& !((l.map a).take i).contains (a x))with
  |true=>
   rw[m]at b;refine .inl ⟨?_,by simp⟩;simp only[d.lt,cond_true,d.ix,XQ,hg];refine Ev.bind b ?_;simp only[Xh,cond_false,XQ,d.nx];rw[d.take,Qgi];exact Qa _
  |false=>
   rw[m]at b;refine .inr ?_;simp only[d.lt,cond_true,d.ix,XQ,hg];refine Ev.bind b ?_;simp only[Xi,cond_true,Bool.false_and,cond_false];exact Qa _
 .simp only[Yc,cond_false];rw[show(l.map a).drop l.length=[]by apply List.drop_eq_nil_of_le;simp];exact Qa _
theorem Qcj{α:Type}{l:List α}{x:α}(h:l.length<=140737488):app l [x]=some (l++[x]):=Qnv l x (by omega)
theorem QdH(l:List (List UInt8))(s:l.length<=1048576)(g:∀x∈l,x.length<=1048576):Ev (λn=>F_q n l) (diffS [] l):=by
 unfold F_q;have h:l.length<=4611686018427387904:=by omega
 refine Ev.bind (Qbs (B:=Ctl Unit Bool) l (λi=>(i:Int)) (λi=>bif diffS (l.take i) (l.drop i)then .cont ()else .done false) h rfl (λi x a=>?_) ?_) ?_
 .simp only[QeU _ _ _ a];unfold F_lr;simp only[a.lt,cond_true,a.ix,XQ];cases p:isNameS x with
  |false=>
   refine .inr (Ev.bind ((Qbo x (g x a.mem)).eq p) ?_);exact Qa _
  |true=>
   have r:=a.lt';have inner:Ev (λn=>iter (F_gf n l (i:Int)) n 0) (bif (l.take i).contains x then Ctl.done (Ctl.done (Ctl.done false))else Ctl.cont ()):=by
    have e:(l.take i).contains x=(l.take i).any λy=>y==x:=by
     rw[X6];simp
    rw[e];have f:(l.take i).length=i:=by simp;omega
    refine Y5 (l.take i) (λy=>y==x) (λi=>(i:Int)) _ _ (by omega) rfl (λj y d k=>?_) (λj y d k=>?_) ?_
    .have m:=d.lt';have b:l[j]?=some y:=by
      have:=d.get;rw[List.getElem?_take]at this;split at this
      .exact this
      .cases this
     unfold F_gf;rw[QJ (show(j:Int)<(i:Int)by omega)];simp only[cond_true,Qo b,a.ix,XQ,k,cond_false,d.nx];exact Qa _
    .have m:=d.lt';have b:l[j]?=some y:=by
      have:=d.get;rw[List.getElem?_take]at this;split at this
      .exact this
      .cases this
     unfold F_gf;rw[QJ (show(j:Int)<(i:Int)by omega)];simp only[cond_true,Qo b,a.ix,XQ,k];exact Qa _
    .unfold F_gf;rw[f,QD (show¬(i:Int)<(i:Int)by omega)];exact Qa _
   cases q:(l.take i).contains x with
   |true=>
    rw[q]at inner;refine .inr (Ev.bind ((Qbo x (g x a.mem)).eq p) (QN (Ev.bind inner ?_)));exact Qa _
   |false=>
    rw[q]at inner;refine .inl ⟨Ev.bind ((Qbo x (g x a.mem)).eq p) (QN (Ev.bind inner ?_)),by simp⟩;simp only[cond_false,a.nx];exact Qa _
 .unfold F_lr;simp only[Yc,cond_false,Xu];exact Qa _
 .simp only[List.take_zero,List.drop_zero];cases diffS [] l<;>exact Qa _
theorem Qag{α β:Type}(l:List α)(f:α->β)(j:l.length<=140737488):Ev (λn=>iter (λs:(List β)×Int=>bif decide (s.2<(l.length:Int))then(idx l s.2).bind λx15=>(app s.1 [f x15]).bind λl16=>some (Ctl.cont (l16,IntKind.i64.wrap (s.2+1)))else some (Ctl.done s.1)) n (([]:List β),(0:Int))) (l.map f):=by
 have e:∀l:List α,l.foldl (λ(a:List β) x=>a++[f x]) []=l.map f:=by
  intro l;have d:∀(l:List α) (a:List β),l.foldl (λ(a:List β) x=>a++[f x]) a=a++l.map f:=by
   intro l
   induction l with
   |nil=>intro a;simp
   |cons x l h=>intro a;rw[XK,h];simp
  simpa using d l []
 rw[<- e l];refine Qbt l (λ(a:List β) x=>a++[f x]) [] (λa i=>(a,(i:Int))) (λa=>a) (by omega) rfl (λi x a g b=>?_) ?_
 .rw[e]at b;have:a.length<=140737488:=by rw[b];simp;omega
  simp only[g.lt,cond_true,g.ix,XQ,Qcj this,g.nx];exact Qa _
 .simp only[Yc,cond_false];exact Qa _
def namesS(c:Course):Bool:=isNameS c.Name&&(diffS [] (c.Mats.map (·.Name))&&(diffS [] (c.Distances.map (·.Name))&&(diffS [] (c.Waves.map (·.Name))&&(diffS [] (c.Offences.map (·.Name))&&diffS [] (c.Categories.map (·.Name))))))
structure CourseOk (c:Course):Prop where
 name:c.Name.length<=1048576
 mats:c.Mats.length<=1048576
 matsN:∀x∈c.Mats,x.Name.length<=1048576
 legs:c.Legs.length<=1048576
 dist:c.Distances.length<=1048576
 distN:∀x∈c.Distances,x.Name.length<=1048576
 cut:∀x∈c.Distances,x.Cutoffs.length<=1048576
 wave:c.Waves.length<=1048576
 waveN:∀x∈c.Waves,x.Name.length<=1048576
 off:c.Offences.length<=1048576
 offN:∀x∈c.Offences,x.Name.length<=1048576
 cat:c.Categories.length<=1048576
 catN:∀x∈c.Categories,x.Name.length<=1048576
 prize:c.Prizes.length<=1048576
theorem Ql2(c:Course)(w:CourseOk c):Ev (λn=>F_dk n c) (namesS c):=by
 unfold F_dk namesS;refine Ev.bind (v:=_) ?_ (Qa _);refine Ev.bind (QfR c.Name w.name) (Ev.and λ_=>?_);have a:Ev (λn=>F_dr n c.Mats) (diffS [] (c.Mats.map (·.Name))):=by unfold F_dr;exact QbO c.Mats (·.Name) F_gw (λ_ _=>rfl) w.mats w.matsN
 have d:Ev (λn=>F_dt n c.Distances) (diffS [] (c.Distances.map (·.Name))):=by unfold F_dt;exact QbO c.Distances (·.Name) F_hb (λ_ _=>rfl) w.dist w.distN
 have e:Ev (λn=>F_cq n c.Waves) (diffS [] (c.Waves.map (·.Name))):=by unfold F_cq;exact QbO c.Waves (·.Name) F_gj (λ_ _=>rfl) w.wave w.waveN
 have b:Ev (λn=>F_db n c.Offences) (diffS [] (c.Offences.map (·.Name))):=by unfold F_db;exact QbO c.Offences (·.Name) F_is (λ_ _=>rfl) w.off w.offN
 have f:Ev (λn=>F_do n c.Categories) (diffS [] (c.Categories.map (·.Name))):=by unfold F_do;exact QbO c.Categories (·.Name) F_hr (λ_ _=>rfl) w.cat w.catN
 refine Ev.bind a (Ev.and λ_=>?_);refine Ev.bind d (Ev.and λ_=>?_);refine Ev.bind e (Ev.and λ_=>?_);refine Ev.bind b (Ev.and λ_=>?_);exact Ev.bind f (Qa _)
structure Short (c:Course):Prop where
 mats:c.Mats.length<=140737488
 dist:c.Distances.length<=140737488
 wave:c.Waves.length<=140737488
 off:c.Offences.length<=140737488
 cat:c.Categories.length<=140737488
theorem Qht(c:Course)(w:CourseOk c)(s:Short c):Ev (λn=>F_fi n c) (namesS c):=by
 unfold F_fi namesS;refine Ev.bind (Qag c.Mats (·.Name) s.mats) ?_;refine Ev.bind (Qag c.Distances (·.Name) s.dist) ?_;refine Ev.bind (Qag c.Waves (·.Name) s.wave) ?_;refine Ev.bind (Qag c.Offences (·.Name) s.off) ?_;refine Ev.bind (Qag c.Categories (·.Name) s.cat) ?_;refine Ev.bind (v:=_) ?_ (Qa _);refine Ev.bind (Qbo c.Name w.name) (Ev.and λ_=>?_);have mk:∀{α:Type} (l:List α) (nm:α->List UInt8),l.length<=1048576->(∀x∈l,(nm x).length<=1048576)->Ev (λn=>F_q n (l.map nm)) (diffS [] (l.map nm)):=by
  intro α l nm hl hn;refine QdH _ (by simpa using hl) λx b=>?_;obtain⟨y,a,rfl⟩:=Xf.1 b;exact hn y a
 refine Ev.bind (mk c.Mats (·.Name) w.mats w.matsN) (Ev.and λ_=>?_);refine Ev.bind (mk c.Distances (·.Name) w.dist w.distN) (Ev.and λ_=>?_);refine Ev.bind (mk c.Waves (·.Name) w.wave w.waveN) (Ev.and λ_=>?_);refine Ev.bind (mk c.Offences (·.Name) w.off w.offN) (Ev.and λ_=>?_);exact Ev.bind (mk c.Categories (·.Name) w.cat w.catN) (Qa _)
theorem QaC{n:Nat}(h:n<=1048576):IntKind.i64.wrap ((n:Int)-1)=(n:Int)-1:=QQ (by omega) (by omega)
theorem Jr(x lo hi:Int):Ev (λn=>F_b n x lo hi) (inR lo hi x):=by
 unfold F_b inR;exact Ev.bind (Ev.and λ_=>Qa _) (Qa _)
theorem QeR(c:Course)(w:CourseOk c)(x:Int):Ev (λn=>F_h n c x) (inR 0 ((c.Mats.length:Int)-1) x):=by
 unfold F_h;rw[QaC w.mats];exact Ev.bind (Jr _ _ _) (Qa _)
mutual
def szP:Part->Nat
 |⟨_,_,ps⟩=>1+szPs ps
def szPs:List Part->Nat
 |[]=>0
 |p::r=>szP p+szPs r
end
theorem YQ(p:Part):szP p=1+szPs p.Parts:=by cases p;rfl
theorem Jc{p:Part}:∀{l:List Part},p∈l->szP p<=szPs l
 |q::r,h=>by
  simp only[szPs];rcases Ve.1 h with rfl|h
  .omega
  .have:=Jc h;omega
mutual
def partS(k:Int):Part->Bool
 |⟨m,laps,ps⟩=>bif laps==0 then inR 0 k m&&((ps.length:Int)==0)else inR 1 64 laps&&((m==0)&&(decide (0<(ps.length:Int))&&partsS k ps))
def partsS(k:Int):List Part->Bool
 |[]=>true
 |p::r=>partS k p&&partsS k r
end
theorem QbM(k:Int)(p:Part):partS k p=bif p.Laps==0 then inR 0 k p.Mat&&((p.Parts.length:Int)==0)else inR 1 64 p.Laps&&((p.Mat==0)&&(decide (0<(p.Parts.length:Int))&&partsS k p.Parts)):=by cases p;rfl
theorem Qa3(k:Int):∀l:List Part,partsS k l=l.all (partS k)
 |[]=>rfl
 |p::r=>by simp only[partsS,List.all_cons,Qa3 k r]
theorem Yh{p:Part}(h:Part.wf p):p.Parts.length<=1048576/\ ∀x∈p.Parts,Part.wf x:=by
 cases p;simp only[Part.wf,QcV]at h;exact h.2.2.1
theorem QF(lo hi x:Int):Ev (λn=>F_a n lo hi [x]) (inR lo hi x):=(QfK lo hi [x] (by simp)).eq (by simp)
theorem QaE(lo hi x y:Int):Ev (λn=>F_a n lo hi [x,y]) (inR lo hi x&&inR lo hi y):=(QfK lo hi [x,y] (by simp)).eq (by simp)
theorem Ql1(k:Int):∀(m:Nat) (l:List Part),szPs l<=m->l.length<=1048576->(∀x∈l,Part.wf x)->Ev (λn=>F_g n l k) (partsS k l):=by
 intro m
 induction m with
 |zero=>
  intro l a g d;cases l with
  |nil=>
   refine Yb ?_;show Ev (λn=>B_g (F_g n) n [] k) _;unfold B_g F_ef F_er;exact Jg [] (partS k) (λn x=>F_cb (F_g n) n x k) (by simp) (by simp)
  |cons p r=>
   exfalso;simp only[szPs,YQ]at a;omega
 |succ m f=>
  intro l a g d;refine Yb ?_;show Ev (λn=>B_g (F_g n) n l k) _;unfold B_g F_ef F_er;rw[Qa3];refine Jg l (partS k) (λn x=>F_cb (F_g n) n x k) (by omega) λp b=>?_;unfold F_cb;rw[QbM];have e:=Jc b;rw[YQ]at e;obtain⟨h,i⟩:=Yh (d p b);refine Ys (λ_=>?_) (λ_=>?_)
  .exact Ev.bind (Ev.bind (QF _ _ _) (Ev.and λ_=>Qa _)) (Qa _)
  .exact Ev.bind (Ev.bind (QF _ _ _) (Ev.and λ_=>Ev.and λ_=>Ev.and λ_=>Ev.bind (f p.Parts (by omega) h i) (Qa _))) (Qa _)
theorem Qj3(c:Course)(w:CourseOk c):∀(m:Nat) (l:List Part),szPs l<=m->l.length<=1048576->(∀x∈l,Part.wf x)->Ev (λn=>F_l n c l) (partsS ((c.Mats.length:Int)-1) l):=by
 intro m
 induction m with
 |zero=>
  intro l f q g;cases l with
  |nil=>
   refine Yb ?_;show Ev (λn=>B_l (F_l n) n c []) _;unfold B_l;exact⟨1,λn z=>by obtain⟨k,rfl⟩:∃k,n=k+1:=⟨n-1,by omega⟩;rfl⟩
  |cons p r=>
   exfalso;simp only[szPs,YQ]at f;omega
 |succ m j=>
  intro l f q g;refine Yb ?_;show Ev (λn=>B_l (F_l n) n c l) _;unfold B_l;rw[Qa3];have step:∀(i:Nat) (x:Part),At l i x->Ev (λn=>F_je n c l (F_l n) (i:Int)) (bif partS ((c.Mats.length:Int)-1) x then .cont ((i+1:Nat):Int)else .done (.done false)):=by
   intro i x a;unfold F_je;simp only[a.lt,cond_true,a.ix,XQ,a.nx];have h:=Jc a.mem;rw[YQ]at h;obtain⟨s,t⟩:=Yh (g x a.mem);refine Ev.bind (Ev.and λ_=>Ev.bind (QeR c w _) (Ev.and λ_=>Qa _)) ?_;refine Ev.bind (Ev.bind (Jr _ _ _) (Ev.and λ_=>Ev.and λ_=>Ev.and λ_=>Ev.bind (j x.Parts (by omega) s t) (Qa _))) ?_;rw[QbM];cases y:(x.Laps==0)with
   |true=>
    have u:x.Laps=0:=by simpa using y
    simp only[cond_true,Bool.true_and];have:inR 1 64 x.Laps=false:=by rw[u];rfl
    rw[this];simp only[Bool.false_and,Xi];generalize(inR 0 ((c.Mats.length:Int)-1) x.Mat&&((x.Parts.length:Int)==0))=b;cases b<;>exact Qa _
   |false=>
    simp only[cond_false,Bool.false_and,Xi,cond_true];generalize(inR 1 64 x.Laps&&((x.Mat==0)&&(decide (0<(x.Parts.length:Int))&&partsS ((c.Mats.length:Int)-1) x.Parts)))=b;cases b<;>exact Qa _
  refine Ev.bind (Y5 l (λx=> !partS ((c.Mats.length:Int)-1) x) (λi=>(i:Int)) (Ctl.done false) (Ctl.cont ()) (by omega) rfl (λi x a d=>?_) (λi x a d=>?_) ?_) ?_
  .refine(step i x a).eq ?_;have:partS ((c.Mats.length:Int)-1) x=true:=by simpa using d
   rw[this];rfl
  .refine(step i x a).eq ?_;have:partS ((c.Mats.length:Int)-1) x=false:=by simpa using d
   rw[this];rfl
  .unfold F_je;simp only[Yc,cond_false];exact Qa _
  .have e:l.any (λx=> !partS ((c.Mats.length:Int)-1) x)= !l.all (partS ((c.Mats.length:Int)-1)):=by rw[List.not_all_eq_any_not]
   rw[e];cases l.all (partS ((c.Mats.length:Int)-1))<;>exact Qa _
def legS(k:Int)(l:Leg):Bool:=(inR 0 k l.From&&inR 0 k l.To)&&((inR 0 68719476736 l.Min&&inR 0 68719476736 l.Max)&&decide (l.Min<=l.Max))
def cutS(k:Int)(x:Cutoff):Bool:=inR 0 k x.Mat&&(decide (1<=x.Lap)&&inR 0 1099511627776 x.Limit)
def distS(k:Int)(d:Distance):Bool:=inR 1 3 d.Timing&&(inR (-1) k d.Extra&&(partsS k d.Route&&d.Cutoffs.all (cutS k)))
def offS(o:Offence):Bool:=bif o.Out then(o.Time==0)&&(o.Laps==0)else bif o.Laps != 0 then(o.Time==0)&&inR 1 64 o.Laps else inR 0 68719476736 o.Time
def catS(x:Category):Bool:=(inR 0 120 x.From&&inR 0 120 x.To)&&decide (x.From<=x.To)
def prizeS(c:Course)(p:Prize):Bool:=inR 0 ((c.Distances.length:Int)-1) p.Distance&&(inR (-1) ((c.Categories.length:Int)-1) p.Category&&(inR 1 4000 p.Rank&&inR 1 1125899906842624 p.Amount))
def lastS(c:Course):Bool:=(inR 0 16 c.Faults.Misses&&inR 0 16 c.Faults.Strays)&&((inR 0 4294967296 c.Faults.Window&&inR 0 4294967296 c.Faults.Residual)&&(inR 0 100000 c.Faults.Drift&&(inR 0 1125899906842624 c.Fee&&inR 0 1099511627776 c.Deadline)))
def legKey(l:Leg):typing_ends:={from_:=l.From,to_:=l.To}
def prizeKey(p:Prize):typing_place:={distance:=p.Distance,category:=p.Category,rank:=p.Rank}
def numbersS(c:Course):Bool:=
 let k:=(c.Mats.length:Int)-1
 c.Mats.all (λm=>inR 1 3 m.Kind)&&(c.Legs.all (legS k)&&(decide ((c.Legs.map legKey).Nodup)&&(c.Distances.all (distS k)&&(c.Waves.all (λw=>inR 0 1099511627776 w.Gun)&&(c.Offences.all offS&&(c.Categories.all catS&&(c.Prizes.all (prizeS c)&&(decide ((c.Prizes.map prizeKey).Nodup)&&lastS c))))))))
structure PartsOk (c:Course):Prop where
 len:∀d∈c.Distances,d.Route.length<=1048576
 wf:∀d∈c.Distances,∀x∈d.Route,Part.wf x
theorem Qgw(l:List Leg)(b:l.length<=1048576):Ev (λn=>F_el n l) (decide ((l.map legKey).Nodup)):=by
 unfold F_el;refine Ev.bind (Qbu l legKey true (by omega) (λi x m a=>?_) (λm=>?_)) ((Qa _).eq ?_)
 .unfold F_lv F_he;simp only[a.lt,cond_true,a.ix,XQ,a.nx];exact Qa _
 .unfold F_lv;simp only[Yc,cond_false];exact Qa _
 .rw[X6];simp only[beq_iff_eq,decide_eq_true_eq];have:=Qb4 legKey true l;rw[<- this.2];omega
theorem QeQ(l:List Prize)(b:l.length<=1048576):Ev (λn=>F_di n l) (decide ((l.map prizeKey).Nodup)):=by
 unfold F_di;refine Ev.bind (Qbu l prizeKey true (by omega) (λi x m a=>?_) (λm=>?_)) ((Qa _).eq ?_)
 .unfold F_mf F_ii;simp only[a.lt,cond_true,a.ix,XQ,a.nx];exact Qa _
 .unfold F_mf;simp only[Yc,cond_false];exact Qa _
 .rw[X6];simp only[beq_iff_eq,decide_eq_true_eq];have:=Qb4 prizeKey true l;rw[<- this.2];omega
theorem Qip(c:Course)(w:CourseOk c)(q:PartsOk c):Ev (λn=>F_fj n c) (numbersS c):=by
 unfold F_fj numbersS;rw[QaC w.mats];refine Ev.bind (v:=_) ?_ (Qa _);have e:Ev (λn=>F_ep n c.Mats) (c.Mats.all λm=>inR 1 3 m.Kind):=by
  unfold F_ep F_in F_hw;refine Jg c.Mats _ (λn x=>F_cu n x) (by have:=w.mats;omega) λx a=>?_;unfold F_cu;exact Ev.bind (QF _ _ _) (Qa _)
 have i:Ev (λn=>F_dx n c.Legs ((c.Mats.length:Int)-1)) (c.Legs.all (legS ((c.Mats.length:Int)-1))):=by
  unfold F_dx F_hs F_gd;refine Jg c.Legs _ (λn x=>F_cr n x _) (by have:=w.legs;omega) λx a=>?_;unfold F_cr;exact Ev.bind (Ev.bind (QaE _ _ _ _) (Ev.and λ_=>Ev.bind (QaE _ _ _ _) (Ev.and λ_=>Qa _))) (Qa _)
 have f:Ev (λn=>F_dc n c.Distances ((c.Mats.length:Int)-1)) (c.Distances.all (distS ((c.Mats.length:Int)-1))):=by
  unfold F_dc F_ge F_gk;refine Jg c.Distances _ (λn x=>F_fm n x _) (by have:=w.dist;omega) λx a=>?_;unfold F_fm;have h:Ev (λn=>F_ew n x.Cutoffs ((c.Mats.length:Int)-1)) (x.Cutoffs.all (cutS ((c.Mats.length:Int)-1))):=by
   unfold F_ew F_fv F_gq;refine Jg x.Cutoffs _ (λn x=>F_fb n x _) (by have:=w.cut x a;omega) λy k=>?_;unfold F_fb;exact Ev.bind (Ev.bind (QF _ _ _) (Ev.and λ_=>Ev.and λ_=>Ev.bind (QF _ _ _) (Qa _))) (Qa _)
  exact Ev.bind (Ev.bind (QF _ _ _) (Ev.and λ_=>Ev.bind (QF _ _ _) (Ev.and λ_=>Ev.bind (Ql1 _ _ x.Route (X0 _) (q.len x a) (q.wf x a)) (Ev.and λ_=>Ev.bind h (Qa _))))) (Qa _)
 have g:Ev (λn=>F_fk n c.Waves) (c.Waves.all λw=>inR 0 1099511627776 w.Gun):=by
  unfold F_fk F_ig F_fs;refine Jg c.Waves _ (λn x=>F_ej n x) (by have:=w.wave;omega) λx a=>?_;unfold F_ej;exact Ev.bind (QF _ _ _) (Qa _)
 have d:Ev (λn=>F_dw n c.Offences) (c.Offences.all offS):=by
  unfold F_dw F_gl F_hu;refine Jg c.Offences _ (λn x=>F_en n x) (by have:=w.off;omega) λx a=>?_;unfold F_en offS;refine Ys (λ_=>Ev.bind (Ev.and λ_=>Qa _) (Qa _)) λ_=>Ys (λ_=>Ev.bind (Ev.and λ_=>Ev.bind (QF _ _ _) (Qa _)) (Qa _)) λ_=>Ev.bind (QF _ _ _) (Qa _)
 have b:Ev (λn=>F_dh n c.Categories) (c.Categories.all catS):=by
  unfold F_dh F_hq F_ip;refine Jg c.Categories _ (λn x=>F_ea n x) (by have:=w.cat;omega) λx a=>?_;unfold F_ea;exact Ev.bind (Ev.bind (QaE _ _ _ _) (Ev.and λ_=>Qa _)) (Qa _)
 have j:Ev (λn=>F_cn n c.Prizes c) (c.Prizes.all (prizeS c)):=by
  unfold F_cn F_ha F_im;refine Jg c.Prizes _ (λn x=>F_de n x c) (by have:=w.prize;omega) λx a=>?_;unfold F_de;rw[QaC w.dist,QaC w.cat];exact Ev.bind (Ev.bind (QF _ _ _) (Ev.and λ_=>Ev.bind (QF _ _ _) (Ev.and λ_=>Ev.bind (QF _ _ _) (Ev.and λ_=>Ev.bind (QF _ _ _) (Qa _))))) (Qa _)
 refine Ev.bind e (Ev.and λ_=>Ev.bind i (Ev.and λ_=>Ev.bind (Qgw _ w.legs) (Ev.and λ_=>Ev.bind f (Ev.and λ_=>Ev.bind g (Ev.and λ_=>Ev.bind d (Ev.and λ_=>Ev.bind b (Ev.and λ_=>Ev.bind j (Ev.and λ_=>Ev.bind (QeQ _ w.prize) (Ev.and λ_=>?_)))))))));exact Ev.bind (QaE _ _ _ _) (Ev.and λ_=>Ev.bind (QaE _ _ _ _) (Ev.and λ_=>Ev.bind (QF _ _ _) (Ev.and λ_=>Ev.bind (QF _ _ _) (Ev.and λ_=>Ev.bind (QF _ _ _) (Qa _)))))
theorem ends_eq{a b a' d:Int}:(({from_:=a,to_:=b}:typing_ends)={from_:=a',to_:=d})↔a=a'/\b=d:=by simp
theorem QeN(c:Course)(w:CourseOk c)(d:Distance)(j:d.Route.length<=1048576)(k:∀x∈d.Route,Part.wf x)(m:d.Cutoffs.length<=1048576):Ev (λn=>F_fe n c d) (distS ((c.Mats.length:Int)-1) d):=by
 unfold F_fe;have step:∀(i:Nat) (x:Cutoff),At d.Cutoffs i x->Ev (λn=>F_ja n c d (i:Int)) (bif cutS ((c.Mats.length:Int)-1) x then .cont ((i+1:Nat):Int)else .done (.done false)):=by
  intro i x a;unfold F_ja;simp only[a.lt,cond_true,a.ix,XQ,a.nx];have:Ev (λn=>((F_h n c x.Mat).bind λf=>(bif (!f)then some true else(bif decide (x.Lap<1)then some true else(F_b n x.Limit 0 1099511627776).bind λb=>some (!b))):Option Bool)) (!cutS ((c.Mats.length:Int)-1) x):=by
   refine Ev.bind (QeR c w _) (Ev.eq (Qf λ_=>Qf λ_=>Ev.bind (Jr _ _ _) (Qa _)) ?_);unfold cutS;by_cases h:x.Lap<1
   .have:¬1<=x.Lap:=by omega
    simp[h,this]
   .have:1<=x.Lap:=by omega
    simp[h,this]
  refine Ev.bind this ?_;cases cutS ((c.Mats.length:Int)-1) x<;>exact Qa _
 refine Ev.bind (Y5 d.Cutoffs (λx=> !cutS ((c.Mats.length:Int)-1) x) (λi=>(i:Int)) (Ctl.done false) (Ctl.cont ()) (by omega) rfl (λi x a g=>?_) (λi x a g=>?_) ?_) ?_
 .refine(step i x a).eq ?_;have:cutS ((c.Mats.length:Int)-1) x=true:=by simpa using g
  rw[this];rfl
 .refine(step i x a).eq ?_;have:cutS ((c.Mats.length:Int)-1) x=false:=by simpa using g
  rw[this];rfl
 .unfold F_ja;simp only[Yc,cond_false];exact Qa _
 .have e:d.Cutoffs.any (λx=> !cutS ((c.Mats.length:Int)-1) x)= !d.Cutoffs.all (cutS ((c.Mats.length:Int)-1)):=by rw[List.not_all_eq_any_not]
  rw[e];unfold distS;have l:inR (-1) ((c.Mats.length:Int)-1) d.Extra=((d.Extra== -1)||inR 0 ((c.Mats.length:Int)-1) d.Extra):=by
   unfold inR;rw[X6];simp;omega
  cases d.Cutoffs.all (cutS ((c.Mats.length:Int)-1))with
  |false=>
   simp only[Xi,cond_true,Bool.and_false];exact Qa _
  |true=>
   simp only[Xh,cond_false,Bool.and_true];refine Ev.bind (v:=_) ?_ (Qa _);refine Ev.bind (Jr _ _ _) ((Ev.and λ_=>Ev.bind (Qj3 c w _ d.Route (X0 _) j k) (Ev.and λ_=>Qf λ_=>Ev.bind (QeR c w _) (Qa _))).eq ?_);rw[l,Bool.and_comm (partsS _ _)]
theorem QA{α B:Type}{step:Nat->Int->Option (Ctl Int B)}(l:List α)(ok:α->Bool)(a b:B)(j:l.length<=4611686018427387904)
  (g:∀i x,At l i x->Ev (λn=>step n (i:Int)) (bif ok x then .cont ((i+1:Nat):Int)else .done a))(k:Ev (λn=>step n (l.length:Int)) (.done b)):
  Ev (λn=>Go.Sw.iter (step n) n 0) (bif l.all ok then b else a):=by
 have e:(bif l.all ok then b else a)=bif l.any (λx=> !ok x)then a else b:=by
  rw[<- List.not_all_eq_any_not];cases l.all ok<;>rfl
 rw[e];refine Y5 l (λx=> !ok x) (λi=>(i:Int)) a b j rfl (λi x f d=>?_) (λi x f d=>?_) k
 .have h:ok x=true:=by simpa using d
  have:=g i x f
  rwa [h]at this
 .have h:ok x=false:=by simpa using d
  have:=g i x f
  rwa [h]at this
theorem Qgs(c:Course)(w:CourseOk c)(q:PartsOk c):Ev (λn=>F_ds n c) (numbersS c):=by
 unfold F_ds numbersS;have N:Ev (λn=>iter (F_kk n c) n 0) (bif c.Mats.all (λm=>inR 1 3 m.Kind)then Ctl.cont ()else Ctl.done false):=by
  refine QA c.Mats _ _ _ (by have:=w.mats;omega) (λi x a=>?_) ?_
  .unfold F_kk;simp only[a.lt,cond_true,a.ix,XQ,a.nx];refine Ev.bind (Jr _ _ _) ?_;cases inR 1 3 x.Kind<;>exact Qa _
  .unfold F_kk;simp only[Yc,cond_false];exact Qa _
 have G:Ev (λn=>iter (F_eu n c) n 0) (bif c.Legs.all (legS ((c.Mats.length:Int)-1))&&decide ((c.Legs.map legKey).Nodup)then Ctl.cont ()else Ctl.done false):=by
  have first:∀x:Leg,Ev (λn=>((F_h n c x.From).bind λr=>(bif (!r)then some true else(F_h n c x.To).bind λu=>(bif (!u)then some true else(bif decide (x.Min<0)then some true else(bif decide (x.Max<x.Min)then some true else some (decide (68719476736<x.Max)))))):Option Bool)) (!legS ((c.Mats.length:Int)-1) x):=by
   intro x;refine Ev.bind (QeR c w _) (Ev.eq (Qf λ_=>Ev.bind (QeR c w _) (Qf λ_=>Qf λ_=>Qf λ_=>Qa _)) ?_);unfold legS inR;rw[X6];simp;omega
  have inner:∀(i:Nat) (x:Leg),At c.Legs i x->Ev (λn=>iter (F_gz n c (i:Int) x) n 0) (bif ((c.Legs.take i).map legKey).contains (legKey x)then Ctl.done (Ctl.done (Ctl.done false))else Ctl.cont ()):=by
   intro i x a;have E:=a.lt';refine Qh3 c.Legs i legKey (legKey x) _ _ (by have:=w.legs;omega) (by omega) (λj y F l g=>?_) (λj y F l g=>?_) ?_
   .unfold F_gz;rw[QJ (show(j:Int)<(i:Int)by omega)];simp only[cond_true,l.ix,XQ,l.nx];have h:¬(y.From=x.From/\y.To=x.To):=by simpa[legKey]using g
    refine Ev.bind (Ev.and λ_=>Qa _) ?_;have e:((y.From==x.From)&&(y.To==x.To))=false:=by
     rw[Bool.eq_false_iff];intro z;exact h (by simpa using z)
    rw[e];exact Qa _
   .unfold F_gz;rw[QJ (show(j:Int)<(i:Int)by omega)];simp only[cond_true,l.ix,XQ,l.nx];have h:(y.From=x.From/\y.To=x.To):=by simpa[legKey]using g
    refine Ev.bind (Ev.and λ_=>Qa _) ?_;have e:((y.From==x.From)&&(y.To==x.To))=true:=by simpa using h
    rw[e];exact Qa _
   .unfold F_gz;rw[QD (show¬(i:Int)<(i:Int)by omega)];exact Qa _
  refine QmM c.Legs (legS ((c.Mats.length:Int)-1)) legKey _ _ (by have:=w.legs;omega) (λi x a d g=>?_) (λi x a d=>?_) (λi x a d g=>?_) ?_
  .unfold F_eu;simp only[a.lt,cond_true,a.ix,XQ,a.nx];have f:=first x;rw[d]at f
   have k:=inner i x a;rw[g]at k;exact Ev.bind f (QN (Ev.bind k (Qa _)))
  .unfold F_eu;simp only[a.lt,cond_true,a.ix,XQ,a.nx];have f:=first x;rw[d]at f
   exact Ev.bind f (Qa _)
  .unfold F_eu;simp only[a.lt,cond_true,a.ix,XQ,a.nx];have f:=first x;rw[d]at f
   have k:=inner i x a;rw[g]at k;exact Ev.bind f (QN (Ev.bind k (Qa _)))
  .unfold F_eu;simp only[Yc,cond_false];exact Qa _
 have L:Ev (λn=>iter (F_jw n c) n 0) (bif c.Distances.all (distS ((c.Mats.length:Int)-1))then Ctl.cont ()else Ctl.done false):=by
  refine QA c.Distances _ _ _ (by have:=w.dist;omega) (λi x a=>?_) ?_
  .unfold F_jw;simp only[a.lt,cond_true,a.ix,XQ,a.nx];refine Ev.bind (QeN c w x (q.len x a.mem) (q.wf x a.mem) (w.cut x a.mem)) ?_;cases distS ((c.Mats.length:Int)-1) x<;>exact Qa _
  .unfold F_jw;simp only[Yc,cond_false];exact Qa _
 have M:Ev (λn=>iter (F_jn n c) n 0) (bif c.Waves.all (λw=>inR 0 1099511627776 w.Gun)then Ctl.cont ()else Ctl.done false):=by
  refine QA c.Waves _ _ _ (by have:=w.wave;omega) (λi x a=>?_) ?_
  .unfold F_jn;simp only[a.lt,cond_true,a.ix,XQ,a.nx];refine Ev.bind (Jr _ _ _) ?_;cases inR 0 1099511627776 x.Gun<;>exact Qa _
  .unfold F_jn;simp only[Yc,cond_false];exact Qa _
 have J:Ev (λn=>iter (F_ll n c) n 0) (bif c.Offences.all offS then Ctl.cont ()else Ctl.done false):=by
  refine QA c.Offences _ _ _ (by have:=w.off;omega) (λi x a=>?_) ?_
  .unfold F_ll;simp only[a.lt,cond_true,a.ix,XQ,a.nx];refine Ev.bind (Ev.bind (Jr _ _ _) (Ev.and λ_=>Ev.and λ_=>Qa _)) ?_;refine Ev.bind (Ev.and λ_=>Ev.bind (Jr _ _ _) (Ev.and λ_=>Qa _)) ?_;refine Ev.bind (Ev.and λ_=>Ev.and λ_=>Qa _) ?_;refine Ev.bind (Ev.and λ_=>Ev.and λ_=>Qa _) ?_;have e:offS x= !(!(inR 0 68719476736 x.Time&&((x.Laps==0)&& !x.Out))&&(!((x.Time==0)&&(inR 1 64 x.Laps&& !x.Out))&& !((x.Time==0)&&((x.Laps==0)&&x.Out)))):=by
    unfold offS inR;cases x.Out with
    |true=>
     rw[X6];simp
    |false=>
     by_cases h:x.Laps=0
     .rw[X6];simp[h]
     .rw[X6];simp[h]
   rw[e];generalize(!(inR 0 68719476736 x.Time&&((x.Laps==0)&& !x.Out))&&(!((x.Time==0)&&(inR 1 64 x.Laps&& !x.Out))&& !((x.Time==0)&&((x.Laps==0)&&x.Out))))=b;cases b<;>exact Qa _
  .unfold F_ll;simp only[Yc,cond_false];exact Qa _
 have H:Ev (λn=>iter (F_ld n c) n 0) (bif c.Categories.all catS then Ctl.cont ()else Ctl.done false):=by
  refine QA c.Categories _ _ _ (by have:=w.cat;omega) (λi x a=>?_) ?_
  .unfold F_ld;simp only[a.lt,cond_true,a.ix,XQ,a.nx];refine Ev.bind (Qf λ_=>Qf λ_=>Qa _) ?_;have e:(decide (x.From<0)||(decide (x.To<x.From)||decide (120<x.To)))= !catS x:=by
    unfold catS inR;rw[X6];simp;omega
   rw[e];cases catS x<;>exact Qa _
  .unfold F_ld;simp only[Yc,cond_false];exact Qa _
 have O:Ev (λn=>iter (F_cj n c) n 0) (bif c.Prizes.all (prizeS c)&&decide ((c.Prizes.map prizeKey).Nodup)then Ctl.cont ()else Ctl.done false):=by
  have first:∀x:Prize,Ev (λn=>((F_b n x.Distance 0 (IntKind.i64.wrap ((c.Distances.length:Int)-1))).bind λs=>(bif (!s)then some true else(F_b n x.Category (-1) (IntKind.i64.wrap ((c.Categories.length:Int)-1))).bind λp=>(bif (!p)then some true else(F_b n x.Rank 1 4000).bind λt=>(bif (!t)then some true else(F_b n x.Amount 1 1125899906842624).bind λB=>some (!B)))):Option Bool)) (!prizeS c x):=by
   intro x;rw[QaC w.dist,QaC w.cat];refine Ev.bind (Jr _ _ _) (Ev.eq (Qf λ_=>Ev.bind (Jr _ _ _) (Qf λ_=>Ev.bind (Jr _ _ _) (Qf λ_=>Ev.bind (Jr _ _ _) (Qa _)))) ?_);unfold prizeS;simp only[Bool.not_and]
  have inner:∀(i:Nat) (x:Prize),At c.Prizes i x->Ev (λn=>iter (F_fy n c (i:Int) x) n 0) (bif ((c.Prizes.take i).map prizeKey).contains (prizeKey x)then Ctl.done (Ctl.done (Ctl.done false))else Ctl.cont ()):=by
   intro i x a;have E:=a.lt';refine Qh3 c.Prizes i prizeKey (prizeKey x) _ _ (by have:=w.prize;omega) (by omega) (λj y F l g=>?_) (λj y F l g=>?_) ?_
   .unfold F_fy;rw[QJ (show(j:Int)<(i:Int)by omega)];simp only[cond_true,l.ix,XQ,l.nx];have h:¬(y.Distance=x.Distance/\y.Category=x.Category/\y.Rank=x.Rank):=by simpa[prizeKey]using g
    refine Ev.bind (Ev.and λ_=>Ev.and λ_=>Qa _) ?_;have e:((y.Distance==x.Distance)&&((y.Category==x.Category)&&(y.Rank==x.Rank)))=false:=by
     rw[Bool.eq_false_iff];intro z;exact h (by simpa using z)
    rw[e];exact Qa _
   .unfold F_fy;rw[QJ (show(j:Int)<(i:Int)by omega)];simp only[cond_true,l.ix,XQ,l.nx];have h:(y.Distance=x.Distance/\y.Category=x.Category/\y.Rank=x.Rank):=by simpa[prizeKey]using g
    refine Ev.bind (Ev.and λ_=>Ev.and λ_=>Qa _) ?_;have e:((y.Distance==x.Distance)&&((y.Category==x.Category)&&(y.Rank==x.Rank)))=true:=by simpa using h
    rw[e];exact Qa _
   .unfold F_fy;rw[QD (show¬(i:Int)<(i:Int)by omega)];exact Qa _
  refine QmM c.Prizes (prizeS c) prizeKey _ _ (by have:=w.prize;omega) (λi x a d g=>?_) (λi x a d=>?_) (λi x a d g=>?_) ?_
  .unfold F_cj;simp only[a.lt,cond_true,a.ix,XQ,a.nx];have f:=first x;rw[d]at f
   have k:=inner i x a;rw[g]at k;exact Ev.bind f (QN (Ev.bind k (Qa _)))
  .unfold F_cj;simp only[a.lt,cond_true,a.ix,XQ,a.nx];have f:=first x;rw[d]at f
   exact Ev.bind f (Qa _)
  .unfold F_cj;simp only[a.lt,cond_true,a.ix,XQ,a.nx];have f:=first x;rw[d]at f
   have k:=inner i x a;rw[g]at k;exact Ev.bind f (QN (Ev.bind k (Qa _)))
  .unfold F_cj;simp only[Yc,cond_false];exact Qa _
 refine Ev.bind N ?_;cases c.Mats.all (λm=>inR 1 3 m.Kind)with
 |false=>exact Qa _
 |true=>
 refine Ev.bind G ?_;simp only[Bool.true_and];rw[<- Bool.and_assoc];cases(c.Legs.all (legS ((c.Mats.length:Int)-1))&&decide ((c.Legs.map legKey).Nodup))with
 |false=>exact Qa _
 |true=>
 refine Ev.bind L ?_;simp only[Bool.true_and];cases c.Distances.all (distS ((c.Mats.length:Int)-1))with
 |false=>exact Qa _
 |true=>
 refine Ev.bind M ?_;simp only[Bool.true_and];cases c.Waves.all (λw=>inR 0 1099511627776 w.Gun)with
 |false=>exact Qa _
 |true=>
 refine Ev.bind J ?_;simp only[Bool.true_and];cases c.Offences.all offS with
 |false=>exact Qa _
 |true=>
 refine Ev.bind H ?_;simp only[Bool.true_and];cases c.Categories.all catS with
 |false=>exact Qa _
 |true=>
 refine Ev.bind O ?_;simp only[Bool.true_and];rw[<- Bool.and_assoc];cases(c.Prizes.all (prizeS c)&&decide ((c.Prizes.map prizeKey).Nodup))with
 |false=>exact Qa _
 |true=>
 simp only[Bool.true_and];refine Ev.bind (v:=lastS c) ?_ (Qa _);refine Ev.bind (Jr _ _ _) ((Ev.and λ_=>Ev.bind (Jr _ _ _) (Ev.and λ_=>Ev.bind (Jr _ _ _) (Ev.and λ_=>Ev.bind (Jr _ _ _) (Ev.and λ_=>Ev.bind (Jr _ _ _) (Ev.and λ_=>Ev.bind (Jr _ _ _) (Ev.and λ_=>Ev.bind (Jr _ _ _) (Qa _))))))).eq ?_);unfold lastS;simp only[Bool.and_assoc]
mutual
def cN:Cond->Nat
 |⟨_,_,_,ps⟩=>1+cNs ps
def cNs:List Cond->Nat
 |[]=>0
 |c::r=>cN c+cNs r
end
theorem QbQ(c:Cond):cN c=1+cNs c.Parts:=by cases c;rfl
mutual
def cD:Nat->Cond->Bool
 |d,⟨_,_,_,ps⟩=>cDs d ps
def cDs:Nat->List Cond->Bool
 |_,[]=>true
 |d,c::r=>decide (d<=16)&&(cD (d+1) c&&cDs d r)
end
theorem Qjq(d:Nat)(c:Cond):cD d c=cDs d c.Parts:=by cases c;rfl
def zeroC(c:Cond):Bool:=(c.Kind==0)&&((c.Var==0)&&((c.N==0)&&((c.Parts.length:Int)==0)))
mutual
def sNp:Step->Nat
 |⟨_,_,_,t,e⟩=>1+sNs t+sNs e
def sNs:List Step->Nat
 |[]=>0
 |s::r=>sNp s+sNs r
end
theorem Qfz(s:Step):sNp s=1+sNs s.Then+sNs s.Else:=by cases s;rfl
mutual
def sC:Step->Nat
 |⟨_,_,c,t,e⟩=>(bif zeroC c then 0 else cN c)+sCs t+sCs e
def sCs:List Step->Nat
 |[]=>0
 |s::r=>sC s+sCs r
end
theorem Qd7(s:Step):sC s=(bif zeroC s.Cond then 0 else cN s.Cond)+sCs s.Then+sCs s.Else:=by cases s;rfl
mutual
def sDp:Nat->Step->Bool
 |d,⟨_,_,c,t,e⟩=>(zeroC c||cD 1 c)&&(sDs d t&&sDs d e)
def sDs:Nat->List Step->Bool
 |_,[]=>true
 |d,s::r=>decide (d<=16)&&(sDp (d+1) s&&sDs d r)
end
theorem QgW(d:Nat)(s:Step):sDp d s=((zeroC s.Cond||cD 1 s.Cond)&&(sDs d s.Then&&sDs d s.Else)):=by cases s;rfl
mutual
def sZ:Step->Nat
 |⟨_,_,c,t,e⟩=>2+cN c+sZs t+sZs e
def sZs:List Step->Nat
 |[]=>0
 |s::r=>sZ s+sZs r
end
theorem Qfy(s:Step):sZ s=2+cN s.Cond+sZs s.Then+sZs s.Else:=by cases s;rfl
def fS:typing_form->Nat
 |.ctyping_step x=>sNp x.Step
 |.ctyping_cond _=>0
def fC:typing_form->Nat
 |.ctyping_step x=>sC x.Step
 |.ctyping_cond x=>cN x.Cond
def fD(d:Nat):typing_form->Bool
 |.ctyping_step x=>sDp d x.Step
 |.ctyping_cond x=>cD d x.Cond
def fZ:typing_form->Nat
 |.ctyping_step x=>sZ x.Step
 |.ctyping_cond x=>cN x.Cond
def fSs(l:List typing_form):Nat:=(l.map fS).sum
def fCs(l:List typing_form):Nat:=(l.map fC).sum
def fZs(l:List typing_form):Nat:=(l.map fZ).sum
def fwf:typing_form->Prop
 |.ctyping_step x=>Step.wf x.Step
 |.ctyping_cond x=>Cond.wf x.Cond
def ofStep(s:Step):typing_form:=.ctyping_step {Step:=s}
def ofCond(c:Cond):typing_form:=.ctyping_cond {Cond:=c}
theorem Qa9:∀l:List Step,fSs (l.map ofStep)=sNs l
 |[]=>rfl
 |s::r=>by
  have:=Qa9 r;simp only[fSs,Vr,List.sum_cons]at this⊢;rw[this];rfl
theorem Qba:∀l:List Step,fCs (l.map ofStep)=sCs l
 |[]=>rfl
 |s::r=>by
  have:=Qba r;simp only[fCs,Vr,List.sum_cons]at this⊢;rw[this];rfl
theorem QbN:∀l:List Step,fZs (l.map ofStep)=sZs l
 |[]=>rfl
 |s::r=>by
  have:=QbN r;simp only[fZs,Vr,List.sum_cons]at this⊢;rw[this];rfl
theorem QeE:∀l:List Cond,fSs (l.map ofCond)=0
 |[]=>rfl
 |s::r=>by
  have:=QeE r;simp only[fSs,Vr,List.sum_cons]at this⊢;rw[this];rfl
theorem QeG:∀l:List Cond,fCs (l.map ofCond)=cNs l
 |[]=>rfl
 |s::r=>by
  have:=QeG r;simp only[fCs,Vr,List.sum_cons]at this⊢;rw[this];rfl
theorem QeC:∀l:List Cond,fZs (l.map ofCond)=cNs l
 |[]=>rfl
 |s::r=>by
  have:=QeC r;simp only[fZs,Vr,List.sum_cons]at this⊢;rw[this];rfl
theorem QcD(d:Nat):∀l:List Step,sDs d l=((l.map ofStep).isEmpty||(decide (d<=16)&&(l.map ofStep).all (fD (d+1))))
 |[]=>rfl
 |s::r=>by
  rw[sDs,QcD d r];simp only[Vr,List.isEmpty_cons,Bool.false_or,List.all_cons];rw[show fD (d+1) (ofStep s)=sDp (d+1) s from rfl];cases r with
  |nil=>simp
  |cons x r=>
   simp only[Vr,List.isEmpty_cons,Bool.false_or,List.all_cons];cases decide (d<=16)<;>simp
theorem Qhm(d:Nat):∀l:List Cond,cDs d l=((l.map ofCond).isEmpty||(decide (d<=16)&&(l.map ofCond).all (fD (d+1))))
 |[]=>rfl
 |s::r=>by
  rw[cDs,Qhm d r];simp only[Vr,List.isEmpty_cons,Bool.false_or,List.all_cons];rw[show fD (d+1) (ofCond s)=cD (d+1) s from rfl];cases r with
  |nil=>simp
  |cons x r=>
   simp only[Vr,List.isEmpty_cons,Bool.false_or,List.all_cons];cases decide (d<=16)<;>simp
theorem YX{c:Cond}(h:Cond.wf c):c.Parts.length<=1048576/\ ∀x∈c.Parts,Cond.wf x:=by
 cases c;simp only[Cond.wf,Qc0]at h;exact h.2.2.2.1
theorem YW{s:Step}(h:Step.wf s):Cond.wf s.Cond/\(s.Then.length<=1048576/\ ∀x∈s.Then,Step.wf x)/\(s.Else.length<=1048576/\ ∀x∈s.Else,Step.wf x):=by
 cases s;simp only[Step.wf,QcO]at h;exact⟨h.2.2.1,h.2.2.2.1,h.2.2.2.2.1⟩
theorem QfQ(n:Nat)(c:Cond):F_aj n {Cond:=c}=some (zeroC c):=by
 unfold F_aj zeroC;cases(c.Kind==0)<;>cases(c.Var==0)<;>cases(c.N==0)<;>rfl
theorem QeK(n:Nat)(c:Cond):F_be n c=some (zeroC c):=by
 unfold F_be zeroC;cases(c.Kind==0)<;>cases(c.Var==0)<;>cases(c.N==0)<;>rfl
theorem QeJ(l:List Step)(a:l.length<=140737488):Ev (λn=>F_af n l) (l.map ofStep):=by
 unfold F_af;exact Ev.bind (Qag l ofStep a) (Qa _)
theorem Ql7(l:List Cond)(a:l.length<=140737488):Ev (λn=>F_df n l) (l.map ofCond):=by
 unfold F_df;exact Ev.bind (Qag l ofCond a) (Qa _)
def stepParts(s:Step):List typing_form:=s.Then.map ofStep++s.Else.map ofStep
theorem Qbn(s:Step)(h:Step.wf s):Ev (λn=>F_y n {Step:=s}) (stepParts s):=by
 obtain⟨_,⟨a,_⟩,⟨b,_⟩⟩:=YW h;unfold F_y stepParts;refine Ev.bind (QeJ s.Then (by omega)) (Ev.bind (QeJ s.Else (by omega)) (Ju (QcJ _ _ (by simp;omega)) (Qa _)))
theorem QcF(c:Cond)(h:Cond.wf c):Ev (λn=>F_x n {Cond:=c}) (c.Parts.map ofCond):=by
 obtain⟨a,_⟩:=YX h;unfold F_x;exact Ev.bind (Ql7 c.Parts (by omega)) (Qa _)
def okL(l:List typing_form)(d:Nat)(st co:Int):Bool:=l.isEmpty||(decide (d<=16)&&(l.all (fD (d+1))&&(decide (st+fSs l<=64)&&decide (co+fCs l<=256))))
def okR(l:List typing_form)(d:Nat)(st co:Int):Bool:=l.isEmpty||(l.all (fD (d+1))&&(decide (st+fSs l<=64)&&decide (co+fCs l<=256)))
def okF(f:typing_form)(d:Nat)(st co:Int):Bool:=fD (d+1) f&&(decide (st+fS f<=64)&&decide (co+fC f<=256))
theorem Qhl(f:typing_form)(l:List typing_form):fSs (f::l)=fS f+fSs l:=rfl
theorem Qhn(f:typing_form)(l:List typing_form):fCs (f::l)=fC f+fCs l:=rfl
theorem Qhk(f:typing_form)(l:List typing_form):fZs (f::l)=fZ f+fZs l:=rfl
theorem QeD(l m:List typing_form):fSs (l++m)=fSs l+fSs m:=by simp[fSs]
theorem QeF(l m:List typing_form):fCs (l++m)=fCs l+fCs m:=by simp[fCs]
theorem QeB(l m:List typing_form):fZs (l++m)=fZs l+fZs m:=by simp[fZs]
theorem Qlw(f:typing_form)(r:List typing_form)(d:Nat)(a h:Int):okR (f::r) d a h=(okF f d a h&&okR r d (a+fS f) (h+fC f)):=by
 unfold okR okF;rw[Qhl,Qhn];cases r with
 |nil=>simp[fSs,fCs]
 |cons g r=>
  rw[X6];simp only[List.isEmpty_cons,Bool.false_or,List.all_cons,X4,decide_eq_true_eq];rw[show((fS f+fSs (g::r):Nat):Int)=(fS f:Int)+(fSs (g::r):Int)by omega,show((fC f+fCs (g::r):Nat):Int)=(fC f:Int)+(fCs (g::r):Int)by omega];constructor
  .rintro⟨⟨b,e⟩,i,j⟩;exact⟨⟨b,by omega,by omega⟩,e,by omega,by omega⟩
  .rintro⟨⟨b,_,_⟩,e,i,j⟩;exact⟨⟨b,e⟩,by omega,by omega⟩
theorem Qgh(l:List typing_form)(d:Nat)(g h:Int)(i:g<=64)(j:h<=256):okL l d g h=true↔(l.isEmpty||(decide (d<=16)&&l.all (fD (d+1))))=true/\g+fSs l<=64/\h+fCs l<=256:=by
 unfold okL;cases l with
 |nil=>simp[fSs,fCs,i,j]
 |cons f r=>
  simp only[List.isEmpty_cons,Bool.false_or,X4,decide_eq_true_eq];constructor
  .rintro⟨a,b,c,e⟩;exact⟨⟨a,b⟩,c,e⟩
  .rintro⟨⟨a,b⟩,c,e⟩;exact⟨a,b,c,e⟩
theorem Qd4(s:Step)(d:Nat):((stepParts s).isEmpty||(decide (d<=16)&&(stepParts s).all (fD (d+1))))=(sDs d s.Then&&sDs d s.Else):=by
 rw[QcD,QcD];unfold stepParts;rw[List.all_append];cases a:s.Then<;>cases b:s.Else<;>simp<;>(cases decide (d<=16)<;>simp)
def Cnt(R:Nat->List typing_form->Int->typing_count->Option (typing_count×Bool))(l:List typing_form)(d:Nat)(st co:Int):Prop:=
 ∃c':typing_count,Ev (λn=>R n l (d:Int) {steps:=st,conds:=co}) (c',okL l d st co)/\(okL l d st co=true->c'={steps:=st+fSs l,conds:=co+fCs l})
theorem QiC{R:Nat->List typing_form->Int->typing_count->Option (typing_count×Bool)}{l:List typing_form}{d:Nat}(hd:d<=16){i:Nat}{f:typing_form}(O:At l i f)(hw:fwf f)
  (ih:∀l' d' a e,fZs l'<fZ f->l'.length<=2097152->(∀f∈l',fwf f)->d'<=17->0<=a->a<=66->(a<=65\/ ∀f∈l',∃c,f=ofCond c)->0<=e->e<=256->Cnt R l' d' a e){a e:Int}(h0:0<=a)(ac:a<=66)(B:a<=65\/ ∃c,f=ofCond c)(h2:0<=e)(h3:e<=256):
  ∃c':typing_count,Ev (λn=>F_id n l (d:Int) (R n) ({steps:=a,conds:=e},(i:Int))) (bif okF f d a e then .cont (c',((i+1:Nat):Int))else .done (.done (c',false)))/\(okF f d a e=true->c'={steps:=a+fS f,conds:=e+fC f}):=by
 unfold F_id;simp only[O.lt,cond_true,O.ix,XQ,O.nx];have ed:IntKind.i64.wrap ((d:Int)+1)=((d+1:Nat):Int):=YP (by omega);cases f with
 |ctyping_step x=>
  obtain⟨s⟩:=x;have h1:a<=65:=by
   rcases B with h|⟨c,h⟩
   .exact h
   .cases h
  have k:Step.wf s:=hw;obtain⟨wc,⟨ad,L⟩,⟨ae,T⟩⟩:=YW k;have Y:IntKind.i64.wrap (a+1)=a+1:=QQ (by omega) (by omega);simp only[typing_form.elim,QfQ,XQ,Y];have hc:∃t:typing_count,Ev (λn=>((bif (!zeroC s.Cond)then(R n [typing_form.ctyping_cond {Cond:=s.Cond}] 0 {steps:=a+1,conds:=e}).bind λm=>some (m.1,(!m.2))else some ({steps:=a+1,conds:=e},false)):Option (typing_count×Bool))) (t, !(zeroC s.Cond||(cD 1 s.Cond&&(decide (a+1<=64)&&decide (e+cN s.Cond<=256)))))/\
    ((zeroC s.Cond||(cD 1 s.Cond&&(decide (a+1<=64)&&decide (e+cN s.Cond<=256))))=true->t={steps:=a+1,conds:=e+((bif zeroC s.Cond then 0 else cN s.Cond:Nat):Int)}):=by
   cases w:zeroC s.Cond with
   |true=>
    refine⟨{steps:=a+1,conds:=e},?_,λ_=>?_⟩
    .exact Qa _
    .simp
   |false=>
    obtain⟨t,p,u⟩:=ih [ofCond s.Cond] 0 (a+1) e (by simp only[fZs,Vr,Vs,List.sum_cons,List.sum_nil];show cN s.Cond+0<sZ s;rw[Qfy];omega) (by simp) (by intro g j;simp only[List.mem_singleton]at j;subst j;exact wc) (by omega) (by omega) (by omega) (.inr (by intro g j;simp only[List.mem_singleton]at j;exact⟨_,j⟩)) h2 h3;have ek:okL [ofCond s.Cond] 0 (a+1) e=(cD 1 s.Cond&&(decide (a+1<=64)&&decide (e+cN s.Cond<=256))):=by
     unfold okL;simp only[List.isEmpty_cons,Bool.false_or,List.all_cons,List.all_nil,Bool.and_true,fSs,fCs,Vr,Vs,List.sum_cons,List.sum_nil];rw[show fD (0+1) (ofCond s.Cond)=cD 1 s.Cond from rfl,show fS (ofCond s.Cond)=0 from rfl,show fC (ofCond s.Cond)=cN s.Cond from rfl];simp
    rw[ek]at p u;refine⟨t,Ev.bind p (Qa _),λh=>?_⟩;rw[u h];simp[fSs,fCs,show fS (ofCond s.Cond)=0 from rfl,show fC (ofCond s.Cond)=cN s.Cond from rfl]
  obtain⟨t,p,u⟩:=hc;generalize hb:(zeroC s.Cond||(cD 1 s.Cond&&(decide (a+1<=64)&&decide (e+cN s.Cond<=256))))=b at p u;have N:okF (typing_form.ctyping_step {Step:=s}) d a e=(sDp (d+1) s&&(decide (a+sNp s<=64)&&decide (e+sC s<=256))):=rfl;rw[N];cases b with
  |false=>
   have:(sDp (d+1) s&&(decide (a+sNp s<=64)&&decide (e+sC s<=256)))=false:=by
    rw[Bool.eq_false_iff];intro hh;simp only[X4,decide_eq_true_eq,QgW,Qfz,Qd7]at hh;obtain⟨⟨M,_⟩,z2,z3⟩:=hh;cases w:zeroC s.Cond with
    |true=>rw[w]at hb;cases hb
    |false=>
     rw[w]at hb M z3;simp only[Bool.false_or]at hb M;rw[M]at hb;simp only[cond_false]at z3;rw[QJ (show a+1<=64 by omega),QJ (show e+(cN s.Cond:Int)<=256 by omega)]at hb;cases hb
   rw[this];exact⟨t,Ev.bind p (Qa _),λh=>by cases h⟩
  |true=>
   obtain rfl:=u rfl;by_cases q:64<a+1
   .have:(sDp (d+1) s&&(decide (a+sNp s<=64)&&decide (e+sC s<=256)))=false:=by
     rw[QD (show¬a+(sNp s:Int)<=64 by rw[Qfz];omega)];simp
    rw[this];refine⟨{steps:=a+1,conds:=e+((bif zeroC s.Cond then 0 else cN s.Cond:Nat):Int)},Ev.bind p ?_,λh=>by cases h⟩;simp only[Xh,cond_false];refine Ev.bind (v:=(_,true)) ?_ (Qa _);rw[QJ q];exact Qa _
   by_cases F:256<e+((bif zeroC s.Cond then 0 else cN s.Cond:Nat):Int)
   .have:(sDp (d+1) s&&(decide (a+sNp s<=64)&&decide (e+sC s<=256)))=false:=by
     rw[QD (show¬e+(sC s:Int)<=256 by rw[Qd7];omega)];simp
    rw[this];refine⟨{steps:=a+1,conds:=e+((bif zeroC s.Cond then 0 else cN s.Cond:Nat):Int)},Ev.bind p ?_,λh=>by cases h⟩;simp only[Xh,cond_false];refine Ev.bind (v:=(_,true)) ?_ (Qa _);rw[QD q,QJ F];exact Qa _
   obtain⟨G,E,z⟩:=ih (stepParts s) (d+1) (a+1) (e+((bif zeroC s.Cond then 0 else cN s.Cond:Nat):Int)) (by
     unfold stepParts;rw[QeB,QbN,QbN];show _<sZ s;rw[Qfy];omega) (by unfold stepParts;simp;omega) (by
     intro g j;unfold stepParts at j;rcases List.mem_append.1 j with j|j
     .obtain⟨y,H,rfl⟩:=Xf.1 j;exact L y H
     .obtain⟨y,H,rfl⟩:=Xf.1 j;exact T y H) (by omega) (by omega) (by omega) (.inl (by omega)) (by omega) (by omega)
   have Q:okL (stepParts s) (d+1) (a+1) (e+((bif zeroC s.Cond then 0 else cN s.Cond:Nat):Int))=(sDp (d+1) s&&(decide (a+sNp s<=64)&&decide (e+sC s<=256))):=by
    rw[X6,Qgh _ _ _ _ (by omega) (by omega),Qd4];simp only[X4,decide_eq_true_eq,QgW,Qfz,Qd7];have X:fSs (stepParts s)=sNs s.Then+sNs s.Else:=by unfold stepParts;rw[QeD,Qa9,Qa9]
    have V:fCs (stepParts s)=sCs s.Then+sCs s.Else:=by unfold stepParts;rw[QeF,Qba,Qba]
    rw[X,V];have aa:(zeroC s.Cond||cD 1 s.Cond)=true:=by
     cases w:zeroC s.Cond with
     |true=>rfl
     |false=>
      rw[w]at hb;simp only[Bool.false_or,X4]at hb;rw[hb.1];rfl
    constructor
    .rintro⟨r,W,P⟩;exact⟨⟨aa,r⟩,by omega,by omega⟩
    .rintro⟨⟨_,r⟩,W,P⟩;exact⟨r,by omega,by omega⟩
   rw[Q]at E z;refine⟨G,Ev.bind p ?_,λh=>?_⟩
   .simp only[Xh,cond_false];refine Ev.bind (v:=(G, !(sDp (d+1) s&&(decide (a+sNp s<=64)&&decide (e+sC s<=256))))) ?_ ?_
    .rw[QD q,QD F,ed];exact Ev.bind (Qbn s k) (Ev.bind E (Qa _))
    .cases(sDp (d+1) s&&(decide (a+sNp s<=64)&&decide (e+sC s<=256)))<;>exact Qa _
   .rw[z h];have X:fSs (stepParts s)=sNs s.Then+sNs s.Else:=by unfold stepParts;rw[QeD,Qa9,Qa9]
    have V:fCs (stepParts s)=sCs s.Then+sCs s.Else:=by unfold stepParts;rw[QeF,Qba,Qba]
    rw[X,V,show fS (typing_form.ctyping_step {Step:=s})=sNp s from rfl,show fC (typing_form.ctyping_step {Step:=s})=sC s from rfl,Qfz,Qd7];congr 1<;>omega
 |ctyping_cond x=>
  obtain⟨c⟩:=x;have k:Cond.wf c:=hw;obtain⟨ab,J⟩:=YX k;have Y:IntKind.i64.wrap (e+1)=e+1:=QQ (by omega) (by omega);simp only[typing_form.elim,Y];have N:okF (typing_form.ctyping_cond {Cond:=c}) d a e=(cD (d+1) c&&(decide (a<=64)&&decide (e+cN c<=256))):=by
   show(cD (d+1) c&&(decide (a+((0:Nat):Int)<=64)&&decide (e+cN c<=256)))=_;rw[show a+((0:Nat):Int)=a by omega]
  rw[N];by_cases q:64<a
  .have:(cD (d+1) c&&(decide (a<=64)&&decide (e+cN c<=256)))=false:=by
    rw[QD (show¬a<=64 by omega)];simp
   rw[this];refine⟨{steps:=a,conds:=e+1},?_,λh=>by cases h⟩;refine Ev.bind (v:=(_,true)) ?_ (Qa _);rw[QJ q];exact Qa _
  by_cases F:256<e+1
  .have:(cD (d+1) c&&(decide (a<=64)&&decide (e+cN c<=256)))=false:=by
    rw[QD (show¬e+(cN c:Int)<=256 by rw[QbQ];omega)];simp
   rw[this];refine⟨{steps:=a,conds:=e+1},?_,λh=>by cases h⟩;refine Ev.bind (v:=(_,true)) ?_ (Qa _);rw[QD q,QJ F];exact Qa _
  obtain⟨G,E,z⟩:=ih (c.Parts.map ofCond) (d+1) a (e+1) (by
    rw[QeC];show _<cN c;rw[QbQ];omega) (by simp;omega) (by
    intro g j;obtain⟨y,H,rfl⟩:=Xf.1 j;exact J y H) (by omega) (by omega) (by omega) (.inl (by omega)) (by omega) (by omega)
  have Q:okL (c.Parts.map ofCond) (d+1) a (e+1)=(cD (d+1) c&&(decide (a<=64)&&decide (e+cN c<=256))):=by
   rw[X6,Qgh _ _ _ _ (by omega) (by omega), <- Qhm,QeE,QeG];simp only[X4,decide_eq_true_eq,Qjq,QbQ];constructor
   .rintro⟨r,W,P⟩;exact⟨r,by omega,by omega⟩
   .rintro⟨r,W,P⟩;exact⟨r,by omega,by omega⟩
  rw[Q]at E z;refine⟨G,?_,λh=>?_⟩
  .refine Ev.bind (v:=(G, !(cD (d+1) c&&(decide (a<=64)&&decide (e+cN c<=256))))) ?_ ?_
   .rw[QD q,QD F,ed];exact Ev.bind (QcF c k) (Ev.bind E (Qa _))
   .cases(cD (d+1) c&&(decide (a<=64)&&decide (e+cN c<=256)))<;>exact Qa _
  .rw[z h,QeE,QeG,show fS (typing_form.ctyping_cond {Cond:=c})=0 from rfl,show fC (typing_form.ctyping_cond {Cond:=c})=cN c from rfl,QbQ];congr 1;omega
theorem Ql6:∀(m:Nat) (l:List typing_form) (d:Nat) (a b:Int),fZs l<=m->l.length<=2097152->(∀f∈l,fwf f)->d<=17->0<=a->a<=66->(a<=65\/ ∀f∈l,∃c,f=ofCond c)->0<=b->b<=256->Cnt F_d l d a b:=by
 intro m
 induction m using Nat.strongRecOn with
 |_ m G=>
 intro l d a b hm hl hw hd h0 h1 B V W;unfold Cnt;have H:∀c:typing_count,(∃e:typing_count,Ev (λn=>B_d (F_d n) n l (d:Int) c) (e,okL l d a b)/\(okL l d a b=true->e={steps:=a+fSs l,conds:=b+fCs l}))->∃e:typing_count,Ev (λn=>F_d n l (d:Int) c) (e,okL l d a b)/\(okL l d a b=true->e={steps:=a+fSs l,conds:=b+fCs l}):=by
  rintro c ⟨e,q1,P⟩;exact⟨e,Yb q1,P⟩
 refine H _ ?_;unfold B_d;cases j:l with
 |nil=>
  refine⟨{steps:=a,conds:=b},?_,λ_=>by simp[fSs,fCs]⟩;refine Ev.bind (v:=false) (Qa _) (QN ?_);refine Ev.bind (v:=Ctl.cont {steps:=a,conds:=b}) (EvI.ev (EvI.done ?_)) (Qa _);exact Qa _
 |cons f0 r0=>
 rw[<- j];have z:l.isEmpty=false:=by rw[j];rfl
 have J:0<l.length:=by rw[j];simp
 by_cases g:d<=16
 rotate_left
 .have:okL l d a b=false:=by unfold okL;rw[z,QD g];rfl
  rw[this];refine⟨{steps:=a,conds:=b},?_,λh=>by cases h⟩;rw[QJ (show(0:Int)<(l.length:Int)by omega),QJ (show(16:Int)<(d:Int)by omega)];exact Ev.bind (Qa _) (Qa _)
 have t:okL l d a b=okR l d a b:=by unfold okL okR;rw[QJ g,Bool.true_and]
 rw[t];have loop:∀(r:List typing_form) (i:Nat) (a b:Int),l.drop i=r->i<=l.length->0<=a->a<=66->(a<=65\/ ∀f∈l,∃c,f=ofCond c)->0<=b->b<=256->
   ∃e:typing_count,EvI (λn=>F_id n l (d:Int) (F_d n)) ({steps:=a,conds:=b},(i:Int)) (bif okR r d a b then Ctl.cont e else Ctl.done (e,false))/\(okR r d a b=true->e={steps:=a+fSs r,conds:=b+fCs r}):=by
  intro r
  induction r with
  |nil=>
   intro i a b y L _ _ _ _ _;refine⟨{steps:=a,conds:=b},EvI.done ?_,λ_=>by simp[fSs,fCs]⟩;unfold F_id;simp only[Q0 y L,cond_false];exact Qa _
  |cons f r u=>
   intro i a b y L g0 T E g2 O;obtain⟨q,s⟩:=Qq (by omega) y;have Y:fZ f<=fZs l:=by
    have:∀(l:List typing_form),f∈l->fZ f<=fZs l:=by
     intro l
     induction l with
     |nil=>intro h;cases h
     |cons x l G=>
      intro h;rw[Qhk];rcases Ve.1 h with rfl|h
      .omega
      .have:=G h;omega
    exact this l q.mem
   obtain⟨e,k,w⟩:=QiC (R:=F_d) g q (hw f q.mem) (λM d' a b k1 k2 k3 k4 k5 k6 F k7 k8=>G (fZs M) (by omega) M d' a b (X0 _) k2 k3 k4 k5 k6 F k7 k8) g0 T (E.imp id λh=>h f q.mem) g2 O;rw[Qlw];cases p:okF f d a b with
   |false=>
    rw[p]at k;exact⟨e,EvI.done k,λh=>by cases h⟩
   |true=>
    rw[p]at k;obtain rfl:=w p;have hb:a+fS f<=64/\b+fC f<=256:=by
     unfold okF at p;simp only[X4,decide_eq_true_eq]at p;exact p.2
    obtain⟨N,X,Q⟩:=u (i+1) (a+fS f) (b+fC f) s (by have:=q.lt';omega) (by omega) (by omega) (.inl (by omega)) (by omega) (by omega);refine⟨N,EvI.cont k X,λh=>?_⟩;rw[Q (by simpa using h),Qhl,Qhn];congr 1<;>omega
 obtain⟨e,k,w⟩:=loop l 0 a b rfl (X2 _) h0 h1 B V W;refine⟨e,?_,w⟩;refine Ev.bind (v:=false) ?_ (QN (Ev.bind k.ev ?_))
 .rw[QJ (show(0:Int)<(l.length:Int)by omega),QD (show¬(16:Int)<(d:Int)by omega)];exact Qa _
 .cases okR l d a b<;>exact Qa _
mutual
def vaC:Cond->Bool
 |⟨k,v,n,ps⟩=>bif k==1 then inR 1 3 v&&(inR 0 10000 n&&((ps.length:Int)==0))else
   bif k==4 then((v==0)&&(n==0))&&(((ps.length:Int)==1)&&vaCs ps)else
   bif (k==2)||(k==3)then((v==0)&&(n==0))&&((decide (0<(ps.length:Int))&&decide ((ps.length:Int)<=16))&&vaCs ps)else false
def vaCs:List Cond->Bool
 |[]=>true
 |c::r=>vaC c&&vaCs r
end
theorem QkV(c:Cond):vaC c=bif c.Kind==1 then inR 1 3 c.Var&&(inR 0 10000 c.N&&((c.Parts.length:Int)==0))else
   bif c.Kind==4 then((c.Var==0)&&(c.N==0))&&(((c.Parts.length:Int)==1)&&vaCs c.Parts)else
   bif (c.Kind==2)||(c.Kind==3)then((c.Var==0)&&(c.N==0))&&((decide (0<(c.Parts.length:Int))&&decide ((c.Parts.length:Int)<=16))&&vaCs c.Parts)else false:=by cases c;rfl
theorem Qf9:∀l:List Cond,vaCs l=l.all vaC
 |[]=>rfl
 |c::r=>by rw[vaCs,List.all_cons,Qf9 r]
mutual
def vaS:Step->Bool
 |⟨k,b,c,t,e⟩=>bif k==1 then inR 1 5 b&&(zeroC c&&(((t.length:Int)==0)&&((e.length:Int)==0)))else
   bif k==2 then(b==0)&&(vaC c&&(decide (0<(t.length:Int))&&(vaSs t&&vaSs e)))else false
def vaSs:List Step->Bool
 |[]=>true
 |s::r=>vaS s&&vaSs r
end
theorem QkU(s:Step):vaS s=bif s.Kind==1 then inR 1 5 s.By&&(zeroC s.Cond&&(((s.Then.length:Int)==0)&&((s.Else.length:Int)==0)))else
   bif s.Kind==2 then(s.By==0)&&(vaC s.Cond&&(decide (0<(s.Then.length:Int))&&(vaSs s.Then&&vaSs s.Else)))else false:=by cases s;rfl
theorem Qf8:∀l:List Step,vaSs l=l.all vaS
 |[]=>rfl
 |c::r=>by rw[vaSs,List.all_cons,Qf8 r]
def fV:typing_form->Bool
 |.ctyping_step x=>vaS x.Step
 |.ctyping_cond x=>vaC x.Cond
theorem QiF(l:List Cond):(l.map ofCond).any (λf=> !fV f)= !vaCs l:=by
 rw[Qf9,List.not_all_eq_any_not,List.any_map];rfl
theorem Qck(l:List Step):(l.map ofStep).any (λf=> !fV f)= !vaSs l:=by
 rw[Qf8,List.not_all_eq_any_not,List.any_map];rfl
theorem QfL{R:Nat->List typing_form->Option Bool}(c:Cond)(j:Cond.wf c)(h:Ev (λn=>R n (c.Parts.map ofCond)) (!vaCs c.Parts)):
  Ev (λn=>F_du (R n) n {Cond:=c}) (vaC c):=by
 unfold F_du;rw[QkV];refine Ev.bind (v:=(c.Var==0)&&(c.N==0)) (Ev.and λ_=>Qa _) ?_;refine Ys (λ_=>?_) (λk=>?_)
 .exact Ev.bind (Ev.bind (QF _ _ _) (Ev.and λ_=>Ev.bind (QF _ _ _) (Ev.and λ_=>Qa _))) (Qa _)
 .have fin:∀b:Bool,Ev (λn=>((bif b then(F_x n {Cond:=c}).bind λf=>(R n f).bind λg=>some (!g)else some false):Option Bool).bind λd=>some d) (b&&vaCs c.Parts):=by
   intro b;refine Ev.bind ((Ev.and λ_=>Ev.bind (QcF c j) (Ev.bind h (Qa _)))) ((Qa _).eq (by simp))
  cases l:(c.Kind==4)with
  |true=>
   simp only[cond_true];cases i:((c.Var==0)&&(c.N==0))with
   |true=>
    refine Ev.bind (v:=Ctl.cont ((c.Parts.length:Int)==1)) (Qa _) ((fin _).eq (by simp))
   |false=>
    refine Ev.bind (v:=Ctl.cont false) (Qa _) ((fin _).eq (by simp))
  |false=>
   simp only[cond_false];cases a:((c.Kind==2)||(c.Kind==3))with
   |true=>
    simp only[cond_true];have e:Ev (λn:Nat=>((bif (c.Kind==2)then some (c.Kind==2)else some (c.Kind==3)):Option Bool)) true:=by
     refine Ev.const ?_;rw[QgC,a]
    cases i:((c.Var==0)&&(c.N==0))with
    |true=>
     cases m:decide (0<(c.Parts.length:Int))with
     |true=>
      refine Ev.bind (v:=Ctl.cont (decide ((c.Parts.length:Int)<=16))) (Ev.bind e (Qa _)) ((fin _).eq (by simp))
     |false=>
      refine Ev.bind (v:=Ctl.cont false) (Ev.bind e (Qa _)) ((fin _).eq (by simp))
    |false=>
     refine Ev.bind (v:=Ctl.cont false) (Ev.bind e (Qa _)) ((fin _).eq (by simp))
   |false=>
    have e:Ev (λn:Nat=>((bif (c.Kind==2)then some (c.Kind==2)else some (c.Kind==3)):Option Bool)) false:=by
     refine Ev.const ?_;rw[QgC,a]
    refine Ev.bind (v:=Ctl.done false) (Ev.bind e (Qa _)) (Qa _)
theorem Qis:∀(m:Nat) (l:List typing_form),fZs l<=m->l.length<=2097152->(∀f∈l,fwf f)->Ev (λn=>F_n n l) (l.any λf=> !fV f):=by
 intro m
 induction m using Nat.strongRecOn with
 |_ m j=>
 intro l H E t;refine Yb ?_;show Ev (λn=>B_n (F_n n) n l) _;unfold B_n F_ib;refine Ev.contains l _ (λn f=>F_eo (F_n n) n f) (by omega) λf q=>?_;have u:fZ f<=fZs l:=by
  have:∀(l:List typing_form),f∈l->fZ f<=fZs l:=by
   intro l
   induction l with
   |nil=>intro h;cases h
   |cons x l j=>
    intro h;rw[Qhk];rcases Ve.1 h with rfl|h
    .omega
    .have:=j h;omega
  exact this l q
 unfold F_eo;refine Ev.bind (v:=fV f) ?_ (Qa _);have a:∀c:Cond,Cond.wf c->cNs c.Parts<fZ f->Ev (λn=>F_n n (c.Parts.map ofCond)) (!vaCs c.Parts):=by
  intro c e i;rw[<- QiF];obtain⟨G,w⟩:=YX e;refine j (fZs (c.Parts.map ofCond)) (by rw[QeC];omega) _ (X0 _) (by simp;omega) ?_;intro g b;obtain⟨y,d,rfl⟩:=Xf.1 b;exact w y d
 cases f with
 |ctyping_cond x=>
  obtain⟨c⟩:=x;have e:Cond.wf c:=t _ q;exact QfL (R:=F_n) c e (a c e (by show cNs c.Parts<cN c;rw[QbQ];omega))
 |ctyping_step x=>
  obtain⟨s⟩:=x;have i:Step.wf s:=t _ q;obtain⟨r,⟨z,k⟩,⟨B,p⟩⟩:=YW i;unfold F_il;show Ev _ (vaS s);rw[QkU];simp only[typing_form.elim];refine Ys (λ_=>?_) (λJ=>Ys (λ_=>?_) λ_=>Qa _)
  .refine Ev.bind (Ev.bind (QF _ _ _) (Ev.and λ_=>?_)) (Qa _);simp only[QfQ,XQ];refine Ev.and λ_=>Ev.bind (Qbn s i) ((Qa _).eq ?_);unfold stepParts;rw[X6];simp only[beq_iff_eq,X4,Va,X9];omega
  .refine Ev.bind (Ev.and λ_=>?_) (Qa _);refine Ev.bind (QfL (R:=F_n) s.Cond r (a s.Cond r (by show _<sZ s;rw[Qfy,QbQ];omega))) (Ev.and λ_=>Ev.and λ_=>?_);refine Ev.bind (Qbn s i) (Ev.bind (j (fZs (stepParts s)) ?_ _ (X0 _) (by unfold stepParts;simp;omega) ?_) ((Qa _).eq ?_))
   .have:fZs (stepParts s)<sZ s:=by
     unfold stepParts;rw[QeB,QbN,QbN,Qfy];omega
    have F:fZ (typing_form.ctyping_step {Step:=s})=sZ s:=rfl;omega
   .intro g b;unfold stepParts at b;rcases List.mem_append.1 b with b|b
    .obtain⟨y,d,rfl⟩:=Xf.1 b;exact k y d
    .obtain⟨y,d,rfl⟩:=Xf.1 b;exact p y d
   .unfold stepParts;rw[List.any_append,Qck,Qck];simp
def goodT(l:List Step):Bool:=sDs 0 l&&(decide (sNs l<=64)&&decide (sCs l<=256))
def tiesE(l:List Step):Int:=bif goodT l then(bif l.isEmpty|| !vaSs l then 71 else 0)else 2
theorem Qlx(l:List Step):okL (l.map ofStep) 0 0 0=goodT l:=by
 rw[X6,Qgh _ _ _ _ (by omega) (by omega), <- QcD,Qa9,Qba];unfold goodT;simp only[X4,decide_eq_true_eq];constructor
 .rintro⟨a,b,c⟩;exact⟨a,by omega,by omega⟩
 .rintro⟨a,b,c⟩;exact⟨a,by omega,by omega⟩
theorem Qno(l:List Step)(p:l.length<=1048576)(i:∀x∈l,Step.wf x):Ev (λn=>F_cv n l) (tiesE l):=by
 unfold F_cv;refine Ev.bind (QeJ l (by omega)) (Ev.bind (v:=tiesE l) ?_ (Qa _));have b:∀f∈l.map ofStep,fwf f:=by
  intro g j;obtain⟨y,k,rfl⟩:=Xf.1 j;exact i y k
 obtain⟨d,a,m⟩:=Ql6 _ (l.map ofStep) 0 0 0 (X0 _) (by simp;omega) b (by omega) (by omega) (by omega) (.inl (by omega)) (by omega) (by omega);rw[Qlx]at a;unfold F_go;have h:Ev (λn=>F_hm n (l.map ofStep) 0 {steps:=0,conds:=0}) (d,goodT l):=a.shift;refine Ev.bind h ?_;unfold tiesE;cases goodT l with
 |false=>exact Qa _
 |true=>
  simp only[Xh,cond_false,cond_true];have e:(((l.map ofStep).length:Int)==0)=l.isEmpty:=by
   cases l<;>simp;omega
  rw[e];refine Ev.bind (Qf λ_=>Ev.bind (Qis _ _ (X0 _) (by simp;omega) b) (Qa _)) ?_;rw[Qck];cases(l.isEmpty|| !vaSs l)<;>exact Qa _
def condB(d:Nat):Int:=256*(18-(d:Int))+1000
theorem Qb8:∀(m:Nat) (c:Cond) (d:Nat),cN c<=m->d<=17->Cond.wf c->∃v:Int,Ev (λn=>F_i n c (d:Int)) v/\0<=v/\v<=condB d/\
  (d<=16/\cD (d+1) c=true/\cN c<=256->v=cN c)/\(¬(d<=16/\cD (d+1) c=true/\cN c<=256)->256<v):=by
 intro m
 induction m using Nat.strongRecOn with
 |_ m F=>
 intro c d hm hd X;obtain⟨R,s⟩:=YX X;have J:∀{P:Int->Prop},(∃v:Int,Ev (λn=>B_i (F_i n) n c (d:Int)) v/\P v)->∃v:Int,Ev (λn=>F_i n c (d:Int)) v/\P v:=by
  rintro P ⟨v,j,b⟩;exact⟨v,Yb j,b⟩
 refine J ?_;unfold B_i;by_cases g:d<=16
 .rw[QD (show¬(16:Int)<(d:Int)by omega)];have V:IntKind.i64.wrap ((d:Int)+1)=((d+1:Nat):Int):=YP (by omega);have loop:∀(r:List Cond) (i:Nat) (a:Int),c.Parts.drop i=r->i<=c.Parts.length->0<=a->a<=condB d->
    ∃v:Int,EvI (λn=>F_fx n c (d:Int) (F_i n)) (a,(i:Int)) v/\0<=v/\v<=condB d/\
     (cDs (d+1) r=true/\a+cNs r<=256->v=a+cNs r)/\(¬(cDs (d+1) r=true/\a+cNs r<=256)->256<v):=by
   intro r
   induction r with
   |nil=>
    intro i a z L H j;refine⟨a,EvI.done ?_,H,j,λ_=>by simp[cNs],λh=>?_⟩
    .unfold F_fx;simp only[Q0 z L,cond_false,XQ];exact Qa _
    .simp[cDs,cNs]at h;omega
   |cons x r u=>
    intro i a z L H j;obtain⟨f,q⟩:=Qq (by omega) z;have hx:cN x<cN c:=by
     have:∀l:List Cond,x∈l->cN x<=cNs l:=by
      intro l
      induction l with
      |nil=>intro h;cases h
      |cons y l F=>
       intro h;rw[cNs];rcases Ve.1 h with rfl|h
       .omega
       .have:=F h;omega
     have:=this _ f.mem;rw[QbQ c];omega
    by_cases e:a<=256
    .obtain⟨v,B,M,O,k,G⟩:=F (cN x) (by omega) x (d+1) (X0 _) (by omega) (s x f.mem);have hB:condB (d+1)+256=condB d:=by unfold condB;omega
     have aa:condB d<=6000:=by unfold condB;omega
     have e1:IntKind.i64.wrap (a+v)=a+v:=QQ (by omega) (by omega);obtain⟨w,W,Q,Y,T,N⟩:=u (i+1) (a+v) q (by have:=f.lt';omega) (by omega) (by omega);refine⟨w,EvI.cont ?_ W,Q,Y,?_,?_⟩
     .unfold F_fx;simp only[f.lt,cond_true,QJ e,XQ,f.ix,f.nx,V];refine Ev.bind B ?_;rw[e1];exact Qa _
     .rintro⟨b,t⟩;simp only[cDs,X4,decide_eq_true_eq]at b;rw[cNs]at t⊢;have:=k ⟨b.1,b.2.1,by omega⟩;subst this;rw[T ⟨b.2.2,by omega⟩];omega
     .intro E;by_cases p:d+1<=16/\cD (d+1+1) x=true/\cN x<=256
      .have:=k p;subst this;refine N λb=>E ⟨?_,?_⟩
       .simp only[cDs,X4,decide_eq_true_eq];exact⟨p.1,p.2.1,b.1⟩
       .rw[cNs];omega
      .have:=G p;exact N λb=>by omega
    .refine⟨a,EvI.done ?_,H,j,λh=>?_,λ_=>by omega⟩
     .unfold F_fx;simp only[f.lt,cond_true,QD e,XQ,cond_false];exact Qa _
     .omega
  obtain⟨v,B,M,O,k,G⟩:=loop c.Parts 0 1 rfl (X2 _) (by omega) (by unfold condB;omega);refine⟨v,QN (Ev.bind B.ev (Qa _)),M,O,?_,?_⟩
  .rintro⟨_,b,t⟩;rw[Qjq]at b;rw[QbQ]at t⊢;rw[k ⟨b,by omega⟩];omega
  .intro E;refine G λh=>E ⟨g,by rw[Qjq];exact h.1,by rw[QbQ];omega⟩
 .rw[QJ (show(16:Int)<(d:Int)by omega)];refine⟨1000,Qh2 (Qa _),by omega,by unfold condB;omega,λh=>absurd h.1 g,λ_=>by omega⟩
def sizeB:Nat->Int
 |0=>10000
 |k+1=>3*sizeB k
theorem Qcq:∀k,10000<=sizeB k
 |0=>Int.le_refl _
 |k+1=>by have:=Qcq k;simp only[sizeB];omega
theorem Qk7{k:Nat}(h:k<=17):sizeB k<=1291401630000:=by
 have:∀j,j<=17->sizeB j<=1291401630000:=by decide+kernel
 exact this k h
def goodL(d:Nat)(l:List Step):Prop:=sDs d l=true/\sNs l<=64/\sCs l<=256
theorem Qnf:∀(m:Nat) (l:List Step) (d:Nat),sZs l<=m->d<=17->l.length<=1048576->(∀x∈l,Step.wf x)->∃a b:Int,Ev (λn=>F_s n l (d:Int)) (a,b)/\0<=a/\0<=b/\a<=sizeB (17-d)/\b<=sizeB (17-d)/\
  (goodL d l->a=sNs l/\b=sCs l)/\(¬goodL d l->64<a\/256<b):=by
 intro m
 induction m using Nat.strongRecOn with
 |_ m E=>
 intro l d hm hd hl hw;have N:∀{P:Int->Int->Prop},(∃a b:Int,Ev (λn=>B_s (F_s n) n l (d:Int)) (a,b)/\P a b)->∃a b:Int,Ev (λn=>F_s n l (d:Int)) (a,b)/\P a b:=by
  rintro P ⟨a,b,t,u⟩;exact⟨a,b,Yb t,u⟩
 refine N ?_;unfold B_s;by_cases e:0<l.length/\ ¬d<=16
 .rw[QJ (show(0:Int)<(l.length:Int)by omega),QJ (show(16:Int)<(d:Int)by omega)];have:=Qcq (17-d);refine⟨1000,1000,Ev.bind (Qa _) (Qh2 (Qa _)),by omega,by omega,by omega,by omega,λh=>?_,λ_=>by omega⟩;exfalso;cases l with
  |nil=>simp at e
  |cons x r=>
   have:=h.1;simp only[sDs,X4,decide_eq_true_eq]at this;exact e.2 this.1
 .have w:Ev (λn:Nat=>((bif decide (0<(l.length:Int))then some (decide (16<(d:Int)))else some false):Option Bool)) false:=by
   by_cases hp:0<l.length
   .have:d<=16:=by
     rcases Nat.lt_or_ge 16 d with q|q
     .exact absurd ⟨hp,by omega⟩ e
     .exact q
    rw[QJ (show(0:Int)<(l.length:Int)by omega),QD (show¬(16:Int)<(d:Int)by omega)];exact Qa _
   .rw[QD (show¬(0:Int)<(l.length:Int)by omega)];exact Qa _
  have ed:IntKind.i64.wrap ((d:Int)+1)=((d+1:Nat):Int):=YP (by omega);have loop:∀(r:List Step) (i:Nat) (a b:Int),l.drop i=r->i<=l.length->0<=a->0<=b->a<=sizeB (17-d)->b<=sizeB (17-d)->
    ∃a' b':Int,EvI (λn=>F_hd n l (d:Int) (F_s n)) (a,b,(i:Int)) (a',b')/\0<=a'/\0<=b'/\a'<=sizeB (17-d)/\b'<=sizeB (17-d)/\
     (sDs d r=true/\a+sNs r<=64/\b+sCs r<=256->a'=a+sNs r/\b'=b+sCs r)/\(¬(sDs d r=true/\a+sNs r<=64/\b+sCs r<=256)->64<a'\/256<b'):=by
   intro r
   induction r with
   |nil=>
    intro i a b H hi w t u h3;refine⟨a,b,EvI.done ?_,w,t,u,h3,λ_=>by simp[sNs,sCs],λh=>?_⟩
    .unfold F_hd;simp only[Q0 H hi,cond_false,XQ];exact Qa _
    .simp[sDs,sNs,sCs]at h;omega
   |cons s r O=>
    intro i a b H hi w t u h3;obtain⟨j,V⟩:=Qq (by omega) H;have ah:=j.lt';have B:d<=16:=by
     rcases Nat.lt_or_ge 16 d with q|q
     .exact absurd ⟨by omega,by omega⟩ e
     .exact q
    have ag:sZ s<=sZs l:=by
     have:∀l:List Step,s∈l->sZ s<=sZs l:=by
      intro l
      induction l with
      |nil=>intro h;cases h
      |cons y l E=>
       intro h;rw[sZs];rcases Ve.1 h with rfl|h
       .omega
       .have:=E h;omega
     exact this _ j.mem
    by_cases f:a<=64/\b<=256
    .obtain⟨wc,⟨M,aa⟩,⟨ad,R⟩⟩:=YW (hw s j.mem);have aj:=Qfy s;obtain⟨p,g,J,p2,p3,p4,p5,G,X⟩:=E (sZs s.Then) (by omega) s.Then (d+1) (X0 _) (by omega) M aa;obtain⟨y1,y2,q1,q2,q3,q4,q5,q6,q7⟩:=E (sZs s.Else) (by omega) s.Else (d+1) (X0 _) (by omega) ad R;have hB:sizeB (17-d)=3*sizeB (17-(d+1)):=by
      rw[show 17-d=(17-(d+1))+1 by omega];rfl
     have Q:=Qcq (17-(d+1));have ai:=Qk7 (k:=17-d) (by omega);have hc:∃z:Int,0<=z/\z<=5608/\Ev (λn=>((bif (!zeroC s.Cond)then(idx l (i:Int)).bind λY=>(F_i n Y.Cond 0).bind λab=>some (IntKind.i64.wrap ((IntKind.i64.wrap ((IntKind.i64.wrap (b+g))+y2))+ab))else some (IntKind.i64.wrap ((IntKind.i64.wrap (b+g))+y2))):Option Int)) (b+g+y2+z)/\
       ((zeroC s.Cond||cD 1 s.Cond)=true/\(bif zeroC s.Cond then 0 else cN s.Cond)<=256->z=((bif zeroC s.Cond then 0 else cN s.Cond:Nat):Int))/\(¬((zeroC s.Cond||cD 1 s.Cond)=true/\(bif zeroC s.Cond then 0 else cN s.Cond)<=256)->256<z):=by
      have e1:IntKind.i64.wrap (b+g)=b+g:=QQ (by omega) (by omega);have e2:IntKind.i64.wrap (b+g+y2)=b+g+y2:=QQ (by omega) (by omega);cases hz:zeroC s.Cond with
      |true=>
       refine⟨0,by omega,by omega,?_,λ_=>by simp,λh=>absurd ⟨rfl,by simp⟩ h⟩;simp only[Xh,cond_false,e1,e2];exact(Qa _).eq (by omega)
      |false=>
       obtain⟨v,u1,u2,u3,u4,u5⟩:=Qb8 _ s.Cond 0 (X0 _) (by omega) wc;have L:v<=5608:=by unfold condB at u3;omega
       have e3:IntKind.i64.wrap (b+g+y2+v)=b+g+y2+v:=QQ (by omega) (by omega);refine⟨v,u2,L,?_,λh=>?_,λh=>?_⟩
       .simp only[Xi,cond_true,j.ix,XQ,e1,e2];refine Ev.bind u1 ?_;rw[e3];exact Qa _
       .simp only[Bool.false_or,cond_false]at h⊢;exact u4 ⟨by omega,h.1,h.2⟩
       .simp only[Bool.false_or,cond_false]at h;exact u5 λq=>h ⟨q.2.1,q.2.2⟩
     obtain⟨z,z0,z1,z2,z3,z4⟩:=hc;have e4:IntKind.i64.wrap (a+1)=a+1:=QQ (by omega) (by omega);have e5:IntKind.i64.wrap (a+1+p)=a+1+p:=QQ (by omega) (by omega);have e6:IntKind.i64.wrap (a+1+p+y1)=a+1+p+y1:=QQ (by omega) (by omega);obtain⟨w1,w2,v1,v2,v3,v4,v5,v6,F⟩:=O (i+1) (a+1+p+y1) (b+g+y2+z) V (by omega) (by omega) (by omega) (by omega) (by omega);refine⟨w1,w2,EvI.cont ?_ v1,v2,v3,v4,v5,?_,?_⟩
     .unfold F_hd;simp only[j.lt,cond_true,QJ f.1,QJ f.2,XQ,j.ix,j.nx,ed,QeK];refine Ev.bind J (Ev.bind q1 ?_);simp only[j.ix,XQ]at z2;refine Ev.bind z2 ?_;rw[e4,e5,e6];exact Qa _
     .rintro⟨g1,g2,g3⟩;simp only[sDs,X4,decide_eq_true_eq,QgW]at g1;obtain⟨af,⟨T,ae,ac⟩,W⟩:=g1;rw[sNs,Qfz]at g2⊢;rw[sCs,Qd7]at g3⊢;obtain⟨k1,k2⟩:=G ⟨ae,by omega,by omega⟩;obtain⟨k3,k4⟩:=q6 ⟨ac,by omega,by omega⟩;have k5:=z3 ⟨T,by omega⟩;obtain⟨k6,k7⟩:=v6 ⟨W,by omega,by omega⟩;constructor<;>omega
     .intro hn;by_cases b1:goodL (d+1) s.Then
      .obtain⟨k1,k2⟩:=G b1;by_cases b2:goodL (d+1) s.Else
       .obtain⟨k3,k4⟩:=q6 b2;by_cases b3:(zeroC s.Cond||cD 1 s.Cond)=true/\(bif zeroC s.Cond then 0 else cN s.Cond)<=256
        .have k5:=z3 b3;refine F λq=>hn ⟨?_,?_,?_⟩
         .simp only[sDs,X4,decide_eq_true_eq,QgW];exact⟨B,⟨b3.1,b1.1,b2.1⟩,q.1⟩
         .rw[sNs,Qfz];omega
         .rw[sCs,Qd7];omega
        .have:=z4 b3;exact F λq=>by omega
       .have:=q7 b2;exact F λq=>by omega
      .have:=X b1;exact F λq=>by omega
    .refine⟨a,b,EvI.done ?_,w,t,u,h3,λh=>?_,λ_=>?_⟩
     .unfold F_hd;have:Ev (λn:Nat=>((bif decide ((i:Int)<(l.length:Int))then(bif decide (a<=64)then some (decide (b<=256))else some false)else some false):Option Bool)) false:=by
       rw[j.lt];by_cases q:a<=64
       .rw[QJ q,QD (show¬b<=256 from λz=>f ⟨q,z⟩)];exact Qa _
       .rw[QD q];exact Qa _
      exact Ev.bind this (QN (Qa _))
     .omega
     .omega
  have Q:=Qcq (17-d);obtain⟨a,b,J,p2,p3,p4,p5,G,X⟩:=loop l 0 0 0 rfl (X2 _) (by omega) (by omega) (by omega) (by omega);refine⟨a,b,Ev.bind w (QN (Ev.bind J.ev (Qa _))),p2,p3,p4,p5,λh=>?_,λh=>?_⟩
  .obtain⟨k1,k2⟩:=G ⟨h.1,by have:=h.2.1;omega,by have:=h.2.2;omega⟩;constructor<;>omega
  .exact X λq=>h ⟨q.1,by omega,by omega⟩
theorem Qhs:∀(m:Nat) (c:Cond),cN c<=m->Cond.wf c->Ev (λn=>F_r n c) (vaC c):=by
 intro m
 induction m using Nat.strongRecOn with
 |_ m j=>
 intro c w r;obtain⟨s,k⟩:=YX r;refine Yb ?_;show Ev (λn=>B_r (F_r n) n c) _;unfold B_r;rw[QkV];have b:∀x∈c.Parts,cN x<cN c:=by
  intro x b;have:∀l:List Cond,x∈l->cN x<=cNs l:=by
   intro l
   induction l with
   |nil=>intro h;cases h
   |cons y l j=>
    intro h;rw[cNs];rcases Ve.1 h with rfl|h
    .omega
    .have:=j h;omega
  have:=this _ b;rw[QbQ c];omega
 have loop:Ev (λn=>iter (F_hv n c (F_r n)) n 0) (bif c.Parts.all vaC then Ctl.cont ()else Ctl.done false):=by
  refine QA c.Parts vaC _ _ (by omega) (λi x a=>?_) ?_
  .unfold F_hv;simp only[a.lt,cond_true,a.ix,XQ,a.nx];refine Ev.bind (j (cN x) (by have:=b x a.mem;omega) x (X0 _) (k x a.mem)) ?_;cases vaC x<;>exact Qa _
  .unfold F_hv;simp only[Yc,cond_false];exact Qa _
 have fin:Ev (λn=>((bif (c.Var != 0)then some true else some (c.N != 0)):Option Bool).bind λd=>(bif d then some false else(iter (F_hv n c (F_r n)) n 0:Option (Ctl Unit Bool)).bind λf=>match f with|.cont sb48=>(some true)|.done sb48=>some sb48)) (((c.Var==0)&&(c.N==0))&&vaCs c.Parts):=by
  refine Ev.bind (v:= !((c.Var==0)&&(c.N==0))) (Ev.const ?_) ?_
  .rw[QcH];simp only[Bool.not_and,bne]
  .cases((c.Var==0)&&(c.N==0))with
   |false=>exact Qa _
   |true=>
    refine QN (Ev.bind loop ?_);rw[Qf9];cases c.Parts.all vaC<;>exact Qa _
 refine Ys (λ_=>?_) (λu=>?_)
 .refine Ev.bind (v:=_) ((Ev.and λ_=>Ev.and λ_=>Ev.and λ_=>Ev.and λ_=>Qa _).eq ?_) (Qa _);unfold inR;simp only[Bool.and_assoc]
 .have e:Ev (λn:Nat=>((bif (c.Kind==2)then some (c.Kind==2)else some (c.Kind==3)):Option Bool)) ((c.Kind==2)||(c.Kind==3)):=Ev.const (by rw[QgC]);refine Ev.bind e ?_;cases p:((c.Kind==2)||(c.Kind==3))with
  |true=>
   have q:(c.Kind==4)=false:=by
    rw[Bool.eq_false_iff];simp only[Bool.or_eq_true,beq_iff_eq]at p;simp only[beq_iff_eq,ne_eq];omega
   rw[q];simp only[cond_false,cond_true];have t:(bif decide ((c.Parts.length:Int)<1)then some true else some (decide (16<(c.Parts.length:Int))))=some (!(decide (0<(c.Parts.length:Int))&&decide ((c.Parts.length:Int)<=16))):=by
    rw[QcH];congr 1;rw[X6];simp only[Bool.or_eq_true,decide_eq_true_eq,Bool.not_eq_true',Bool.and_eq_false_iff,decide_eq_false_iff_not];omega
   rw[t];cases g:(decide (0<(c.Parts.length:Int))&&decide ((c.Parts.length:Int)<=16))with
   |false=>
    refine Ev.bind (v:=Ctl.done false) (Qa _) ((Qa _).eq (by simp))
   |true=>
    refine Ev.bind (v:=Ctl.cont ()) (Qa _) (fin.eq (by simp))
  |false=>
   simp only[cond_false];cases q:(c.Kind==4)with
   |true=>
    simp only[cond_true];cases g:((c.Parts.length:Int)==1)with
    |false=>
     refine Ev.bind (v:=Ctl.done false) (Ev.const ?_) ((Qa _).eq (by simp));simp only[bne,g,Xi,cond_true]
    |true=>
     refine Ev.bind (v:=Ctl.cont ()) (Ev.const ?_) (fin.eq (by simp));simp only[bne,g,Xh,cond_false]
   |false=>
    refine Ev.bind (v:=Ctl.done false) (Qa _) (Qa _)
theorem Qio(c:Cond)(a:Cond.wf c)(d:cD 1 c=true)(e:cN c<=256):Ev (λn=>F_bp n c) (bif vaC c then 0 else 71):=by
 obtain⟨v,b,_,_,f,_⟩:=Qb8 _ c 0 (X0 _) (by omega) a;have:=f ⟨by omega,d,e⟩;unfold F_bp;refine Ev.bind b ?_;rw[QD (show¬256<v by omega)];refine QN (Ev.bind (Qhs _ c (X0 _) a) ?_);cases vaC c<;>exact Qa _
theorem QjH{c:Cond}(h:zeroC c=true):cD 1 c=true/\cN c<=256:=by
 unfold zeroC at h;simp only[X4,beq_iff_eq]at h;have:c.Parts=[]:=List.eq_nil_of_length_eq_zero (by omega);rw[Qjq,QbQ,this];exact⟨rfl,by simp[cNs]⟩
theorem Qhq:∀(m:Nat) (l:List Step) (d:Nat),sZs l<=m->l.length<=1048576->(∀x∈l,Step.wf x)->sDs d l=true->sCs l<=256->Ev (λn=>F_f n l) (vaSs l):=by
 intro m
 induction m using Nat.strongRecOn with
 |_ m t=>
 intro l d hm Y O g hc;refine Yb ?_;show Ev (λn=>B_f (F_f n) n l) _;unfold B_f;have q:∀s∈l,sZ s<=sZs l/\sDp (d+1) s=true/\sC s<=sCs l:=by
  intro s;have:∀l:List Step,s∈l->sDs d l=true->sZ s<=sZs l/\sDp (d+1) s=true/\sC s<=sCs l:=by
   intro l
   induction l with
   |nil=>intro h;cases h
   |cons y l t=>
    intro h g;simp only[sDs,X4]at g;rw[sZs,sCs];rcases Ve.1 h with rfl|h
    .exact⟨by omega,g.2.1,by omega⟩
    .obtain⟨V,F,h3⟩:=t h g.2.2;exact⟨by omega,F,by omega⟩
  exact λh=>this l h g
 rw[Qf8];have loop:Ev (λn=>iter (F_lb n l (F_f n)) n 0) (bif l.all vaS then Ctl.cont ()else Ctl.done false):=by
  refine QA l vaS _ _ (by omega) (λi s j=>?_) ?_
  .obtain⟨m1,B,m3⟩:=q s j.mem;obtain⟨M,⟨w,u⟩,⟨E,z⟩⟩:=YW (O s j.mem);have L:=Qfy s;have k:=Qd7 s;rw[QgW]at B;simp only[X4]at B;obtain⟨H,Q,J⟩:=B;have f:cD 1 s.Cond=true/\cN s.Cond<=256:=by
    cases G:zeroC s.Cond with
    |true=>exact QjH G
    |false=>
     rw[G]at H k;simp only[cond_false]at k;exact⟨by simpa using H,by omega⟩
   unfold F_lb;simp only[j.lt,cond_true,j.ix,XQ,j.nx,QeK];rw[QkU];cases V:(s.Kind==1)with
   |true=>
    simp only[cond_true];have e:Ev (λn:Nat=>((bif decide (s.By<1)then some true else(bif decide (5<s.By)then some true else(bif (!zeroC s.Cond)then some true else(bif ((s.Then.length:Int) != 0)then some true else some ((s.Else.length:Int) != 0))))):Option Bool)) (!(inR 1 5 s.By&&(zeroC s.Cond&&(((s.Then.length:Int)==0)&&((s.Else.length:Int)==0))))):=by
     refine(Qf λ_=>Qf λ_=>Qf λ_=>Qf λ_=>Qa _).eq ?_;unfold inR;cases zeroC s.Cond with
     |false=>simp
     |true=>
      rw[X6];simp only[Bool.or_eq_true,decide_eq_true_eq,Bool.not_eq_true',Bool.and_eq_false_iff,decide_eq_false_iff_not,bne_iff_ne,ne_eq,beq_eq_false_iff_ne,Xh,Bool.true_and,Xj,false_or];omega
    cases p:(inR 1 5 s.By&&(zeroC s.Cond&&(((s.Then.length:Int)==0)&&((s.Else.length:Int)==0))))with
    |true=>rw[p]at e;exact Ev.bind (Ev.bind e (Qa _)) (Qa _)
    |false=>rw[p]at e;exact Ev.bind (Ev.bind e (Qa _)) (Qa _)
   |false=>
    simp only[cond_false];cases F:(s.Kind==2)with
    |true=>
     simp only[cond_true];have e:Ev (λn=>((bif (s.By != 0)then some true else(F_bp n s.Cond).bind λr=>(bif (r != 0)then some true else(bif ((s.Then.length:Int)==0)then some true else(F_f n s.Then).bind λb=>(bif (!b)then some true else(F_f n s.Else).bind λa=>some (!a))))):Option Bool)) (!((s.By==0)&&(vaC s.Cond&&(decide (0<(s.Then.length:Int))&&(vaSs s.Then&&vaSs s.Else))))):=by
      have T:=t (sZs s.Then) (by omega) s.Then (d+1) (X0 _) w u Q (by omega);have X:=t (sZs s.Else) (by omega) s.Else (d+1) (X0 _) E z J (by omega);have P:Ev (λn=>(F_f n s.Else).bind λa=>some (!a)) (!vaSs s.Else):=Ev.bind X (Qa _);have N:Ev (λn=>(F_f n s.Then).bind λb=>(bif (!b)then some true else(F_f n s.Else).bind λa=>some (!a))) (!vaSs s.Then|| !vaSs s.Else):=Ev.bind T (Qf λ_=>P);refine(Qf λ_=>Ev.bind (Qio s.Cond M f.1 f.2) (Qf λ_=>Qf λ_=>N)).eq ?_;have W:((bif vaC s.Cond then(0:Int)else 71) != 0)= !vaC s.Cond:=by cases vaC s.Cond<;>rfl
      have R:((s.Then.length:Int)==0)= !decide (0<(s.Then.length:Int)):=by
       rw[X6];simp
      rw[W,R];simp only[Bool.not_and,bne]
     cases p:((s.By==0)&&(vaC s.Cond&&(decide (0<(s.Then.length:Int))&&(vaSs s.Then&&vaSs s.Else))))with
     |true=>rw[p]at e;exact Ev.bind (Ev.bind e (Qa _)) (Qa _)
     |false=>rw[p]at e;exact Ev.bind (Ev.bind e (Qa _)) (Qa _)
    |false=>exact Ev.bind (Qa _) (Qa _)
  .unfold F_lb;simp only[Yc,cond_false];exact Qa _
 refine Ev.bind loop ?_;cases l.all vaS<;>exact Qa _
theorem Qim(l:List Step)(g:l.length<=1048576)(i:∀x∈l,Step.wf x):Ev (λn=>F_co n l) (tiesE l):=by
 unfold F_co;obtain⟨a,b,k,y,w,_,_,p,m⟩:=Qnf _ l 0 (X0 _) (by omega) g i;refine Ev.bind k ?_;have j:goodT l=true↔goodL 0 l:=by
  unfold goodT goodL;simp
 unfold tiesE;cases f:goodT l with
 |false=>
  have:=m (λh=>by rw[j.2 h]at f;cases f);have e:(bif decide (64<a)then some true else some (decide (256<b)))=some true:=by
   rw[QcH];rcases this with h|h
   .rw[QJ h];rfl
   .rw[QJ h];simp
  exact Ev.bind (Ev.const e) (Qa _)
 |true=>
  have d:=j.1 f;obtain⟨t,u⟩:=p d;have s:=d.2.1;have q:=d.2.2;have e:(bif decide (64<a)then some true else some (decide (256<b)))=some false:=by
   rw[QcH,QD (show¬64<a by omega),QD (show¬256<b by omega)];rfl
  refine Ev.bind (Ev.const e) (QN ?_);have r:((l.length:Int)==0)=l.isEmpty:=by
   cases l<;>simp;omega
  rw[r];refine Ev.bind (Qf λ_=>Ev.bind (Qhq _ l 0 (X0 _) g i d.1 q) (Qa _)) ?_;simp only[cond_true];cases(l.isEmpty|| !vaSs l)<;>exact Qa _
mutual
def hP:Part->Nat
 |⟨_,_,ps⟩=>bif ps.isEmpty then 0 else 1+hPs ps
def hPs:List Part->Nat
 |[]=>0
 |p::r=>max (hP p) (hPs r)
end
theorem QlJ(p:Part):hP p=bif p.Parts.isEmpty then 0 else 1+hPs p.Parts:=by cases p;rfl
theorem Qja{p:Part}:∀{l:List Part},p∈l->hP p<=hPs l
 |q::r,h=>by
  simp only[hPs];rcases Ve.1 h with rfl|h
  .omega
  .have:=Qja h;omega
theorem QaD{α:Type}(l:List α):((l.length:Int)==0)=l.isEmpty:=by
 cases l<;>simp;omega
theorem Y1:∀l:List Part,l.length<=szPs l
 |[]=>X0 _
 |p::r=>by have:=Y1 r;rw[szPs,YQ,X8];omega
theorem Qdy:∀(m:Nat) (l:List Part) (k:Nat),szPs l<=m->k<=17->l.length<=1048576->(∀x∈l,Part.wf x)->Ev (λn=>F_u n l (k:Int)) ((min (hPs l) k:Nat):Int):=by
 intro m
 induction m using Nat.strongRecOn with
 |_ m z=>
 intro l k H G E s;refine Yb ?_;show Ev (λn=>B_u (F_u n) n l (k:Int)) _;unfold B_u;have loop:∀(r:List Part) (i:Nat) (a:Nat),l.drop i=r->i<=l.length->a<=k->EvI (λn=>F_ez n l (k:Int) (F_u n)) ((a:Int),(i:Int)) ((max a (min (hPs r) k):Nat):Int):=by
  intro r
  induction r with
  |nil=>
   intro i a f g b;refine EvI.done ?_;unfold F_ez;simp only[Q0 f g,cond_false,XQ];refine(Qa _).eq ?_;simp[hPs]
  |cons p r e=>
   intro i a f g t;obtain⟨b,d⟩:=Qq (by omega) f;obtain⟨j,q⟩:=Yh (s p b.mem);by_cases B:0<k
   .have y:IntKind.i64.wrap ((k:Int)-1)=((k-1:Nat):Int):=by rw[QQ (by omega) (by omega)];omega
    have u:=Jc b.mem;rw[YQ]at u;have step:Ev (λn=>F_ez n l (k:Int) (F_u n) ((a:Int),(i:Int))) (.cont (((max a (min (hP p) k):Nat):Int),((i+1:Nat):Int))):=by
     unfold F_ez;simp only[b.lt,cond_true,QJ (show(0:Int)<(k:Int)by omega),XQ,b.ix,b.nx,y,bne,QaD];rw[QlJ];cases F:p.Parts.isEmpty with
     |true=>
      simp only[Xh,cond_false,XQ,cond_true,Nat.zero_min,Nat.max_zero];exact Qa _
     |false=>
      simp only[Xi,cond_true,cond_false];refine Ev.bind (Ev.bind (z (szPs p.Parts) (by omega) p.Parts (k-1) (X0 _) (by omega) j q) (Qa _)) ((Qa _).eq ?_);have w:IntKind.i64.wrap (1+((min (hPs p.Parts) (k-1):Nat):Int))=((1+min (hPs p.Parts) (k-1):Nat):Int):=by rw[QQ (by omega) (by omega)];omega
      rw[w];congr 2;split<;>omega
    refine(EvI.cont step (e (i+1) _ d (by have:=b.lt';omega) (by omega))).eq ?_;rw[hPs];omega
   .have:k=0:=by omega
    subst this;refine EvI.done ?_;unfold F_ez;simp only[b.lt,cond_true,QD (show¬(0:Int)<((0:Nat):Int)by omega),XQ,cond_false];have h:max a (min (hPs (p::r)) 0)=a:=by omega
    rw[h];exact Qa _
 refine Ev.bind ((loop l 0 0 rfl (X2 _) (X2 _)).ev) ((Qa _).eq ?_);omega
theorem Qdz:∀(m:Nat) (l:List Part),szPs l<=m->l.length<=1048576->(∀x∈l,Part.wf x)->Ev (λn=>F_w n l) ((min (szPs l) 257:Nat):Int):=by
 intro m
 induction m using Nat.strongRecOn with
 |_ m w=>
 intro l F y E;refine Yb ?_;show Ev (λn=>B_w (F_w n) n l) _;unfold B_w;have loop:∀(r:List Part) (i:Nat) (a:Nat),l.drop i=r->i<=l.length->a<=1048576->∃b:Nat,EvI (λn=>F_iq n l (F_w n)) ((a:Int),(i:Int)) (b:Int)/\min b 257=min (a+(szPs r-r.length)) 257:=by
  intro r
  induction r with
  |nil=>
   intro i a h j _;refine⟨a,EvI.done ?_,by simp[szPs]⟩;unfold F_iq;simp only[Q0 h j,cond_false,XQ];exact Qa _
  |cons p r g=>
   intro i a h j s;obtain⟨d,f⟩:=Qq (by omega) h;obtain⟨z,B⟩:=Yh (E p d.mem);have u:=Jc d.mem;rw[YQ]at u;have t:=Y1 r;by_cases q:a<=256
   .obtain⟨b,e,k⟩:=g (i+1) (a+min (szPs p.Parts) 257) f (by have:=d.lt';omega) (by omega);refine⟨b,EvI.cont ?_ e,?_⟩
    .unfold F_iq;simp only[d.lt,cond_true,QJ (show(a:Int)<=256 by omega),XQ,d.ix,d.nx];refine Ev.bind (w (szPs p.Parts) (by omega) p.Parts (X0 _) z B) ((Qa _).eq ?_);rw[QQ (by omega) (by omega)];congr 2
     all_goals omega
    .rw[k,szPs,YQ,X8];omega
   .refine⟨a,EvI.done ?_,by omega⟩;unfold F_iq;simp only[d.lt,cond_true,QD (show¬(a:Int)<=256 by omega),XQ,cond_false];exact Qa _
 obtain⟨b,e,k⟩:=loop l 0 l.length rfl (X2 _) y;refine Ev.bind e.ev ((Qa _).eq ?_);have:=Y1 l;split<;>omega
theorem Ql5:∀(m:Nat) (l:List Part) (k:Nat),szPs l<=m->hPs l<=k->k<=17->szPs l<=256->(∀x∈l,Part.wf x)->Ev (λn=>F_c n l (k:Int)) ((hPs l:Int),(szPs l:Int)):=by
 intro m
 induction m using Nat.strongRecOn with
 |_ m N=>
 intro l k R Q t q F;have s:=Y1 l;refine Yb ?_;show Ev (λn=>B_c (F_c n) n l (k:Int)) _;unfold B_c;have loop:∀(r:List Part) (i:Nat) (a b:Nat),l.drop i=r->i<=l.length->a<=17->b+(szPs r-r.length)<=256->EvI (λn=>F_am n l (k:Int) (F_c n)) ((a:Int),(b:Int),(i:Int)) (((max a (hPs r):Nat):Int),((b+(szPs r-r.length):Nat):Int)):=by
  intro r
  induction r with
  |nil=>
   intro i a b h u _ _;refine EvI.done ?_;unfold F_am;simp only[Q0 h u,cond_false,XQ];refine(Qa _).eq ?_;simp[hPs,szPs]
  |cons p r f=>
   intro i a b h u G j;obtain⟨d,e⟩:=Qq (by omega) h;obtain⟨P,E⟩:=Yh (F p d.mem);have H:=Jc d.mem;have g:=Qja d.mem;rw[YQ]at H;have z:=Y1 r;rw[szPs,YQ,X8]at j;have step:Ev (λn=>F_am n l (k:Int) (F_c n) ((a:Int),(b:Int),(i:Int))) (.cont (((max a (hP p):Nat):Int),((b+szPs p.Parts:Nat):Int),((i+1:Nat):Int))):=by
    unfold F_am;simp only[d.lt,cond_true,d.ix,XQ,d.nx,QaD];rw[QlJ]at g⊢;cases w:p.Parts.isEmpty with
    |true=>
     have y:p.Parts=[]:=by simpa using w
     simp only[cond_true,XQ];rw[y];simp only[szPs,XC,Nat.max_zero];exact Qa _
    |false=>
     rw[w]at g;simp only[cond_false]at g⊢;have O:0<k:=by omega
     have M:IntKind.i64.wrap ((k:Int)-1)=((k-1:Nat):Int):=by rw[QQ (by omega) (by omega)];omega
     have L:((k:Int)==0)=false:=beq_false_of_ne (by omega);rw[L,QD (show¬(256:Int)<(b:Int)by omega),M];simp only[cond_false,XQ];refine Ev.bind (Ev.bind (N (szPs p.Parts) (by omega) p.Parts (k-1) (X0 _) (by omega) (by omega) (by omega) E) (Qa _)) ((Qa _).eq ?_);have J:IntKind.i64.wrap ((hPs p.Parts:Int)+1)=((hPs p.Parts+1:Nat):Int):=YP (by omega);have B:IntKind.i64.wrap ((b:Int)+(szPs p.Parts:Int))=((b+szPs p.Parts:Nat):Int):=by rw[QQ (by omega) (by omega)];omega
     simp only[J,B];congr 2;split<;>omega
   refine(EvI.cont step (f (i+1) _ _ e (by have:=d.lt';omega) (by omega) (by omega))).eq ?_;rw[hPs,szPs,YQ,X8];congr 1<;>omega
 refine Ev.bind ((loop l 0 0 l.length rfl (X2 _) (by omega) (by omega)).ev) ((Qa _).eq ?_);congr 1<;>omega
def repS:Nat->List Int->List Int->List Int
 |0,out,_=>out
 |k+1,out,lap=>if 256<out.length then out else repS k (out++lap) lap
mutual
def lapS:Part->List Int
 |⟨m,laps,ps⟩=>bif decide (0<laps)then expS [] ps else[m]
def expS:List Int->List Part->List Int
 |out,[]=>out
 |out,p::r=>expS (repS (p.Laps.toNat+(bif decide (0<p.Laps)then 0 else 1)) out (lapS p)) r
end
theorem QbX(p:Part):lapS p=bif decide (0<p.Laps)then expS [] p.Parts else[p.Mat]:=by cases p;rfl
theorem Qcv{k:Nat}{a b:List Int}(h:256<a.length):repS k a b=a:=by
 cases k with
 |zero=>rfl
 |succ k=>rw[repS,if_pos h]
theorem QeI:∀(l:List Part) {out:List Int},256<out.length->expS out l=out
 |[],out,h=>by rw[expS]
 |p::r,out,h=>by rw[expS,Qcv h];exact QeI r h
theorem Qcu:∀(k:Nat) (out lap:List Int),(repS k out lap).length<=max out.length (256+lap.length)
 |0,out,lap=>by rw[repS];omega
 |k+1,out,lap=>by
  rw[repS];split
  .omega
  .have:=Qcu k (out++lap) lap;rw[Va]at this;omega
theorem QeH:∀(m:Nat) (l:List Part) (a:List Int),szPs l<=m->(expS a l).length<=max a.length (256+257*szPs l):=by
 intro m
 induction m using Nat.strongRecOn with
 |_ m i=>
 intro l;have b:∀p∈l,szPs l<=m->(lapS p).length<=257*szP p:=by
  intro p e g;have n:=Jc e;rw[QbX,YQ]at*;cases decide (0<p.Laps)with
  |true=>
   have:=i (szPs p.Parts) (by omega) p.Parts [] (X0 _);simp only[cond_true,List.length_nil]at this⊢;omega
  |false=>simp;omega
 have d:∀(r:List Part) (a:List Int),(∀p∈r,(lapS p).length<=257*szP p)->(expS a r).length<=max a.length (256+257*szPs r):=by
  intro r
  induction r with
  |nil=>intro a _;rw[expS];omega
  |cons p r f=>
   intro a h;rw[expS,szPs];have k:=f (repS (p.Laps.toNat+(bif decide (0<p.Laps)then 0 else 1)) a (lapS p)) λq j=>h q (by simp[j]);have s:=Qcu (p.Laps.toNat+(bif decide (0<p.Laps)then 0 else 1)) a (lapS p);have t:=h p (by simp);omega
 intro a g;exact d l a λp e=>b p e g
theorem Qha(p:Part):(lapS p).length<=257*szP p:=by
 rw[QbX,YQ];cases decide (0<p.Laps)with
 |true=>
  have:=QeH _ p.Parts [] (X0 _);simp only[cond_true,List.length_nil]at this⊢;omega
 |false=>simp;omega
theorem Qj8(W:Int):∀(m:Nat) (l:List Part),szPs l<=m->szPs l<=256->l.length<=1048576->(∀x∈l,Part.wf x)->partsS W l=true->Ev (λn=>F_t n l) (expS [] l):=by
 intro m
 induction m using Nat.strongRecOn with
 |_ m ih=>
 intro l hm N hl hw O;rw[Qa3,Xw]at O;refine Yb ?_;show Ev (λn=>B_t (F_t n) n l) _;unfold B_t;have inner:∀(p:Part) (e:List Int) (g:p.Laps=0\/0<p.Laps/\p.Laps<=64) (B:e.length<=100000) (j:Nat) (k:Nat) (a:List Int),j+k=p.Laps.toNat+(bif decide (0<p.Laps)then 0 else 1)->a.length<=200000->
   ∃d:Ctl (List Int) (Ctl ((List Int)×Int) (Ctl (List Int) (List Int))),EvI (λn=>F_gr n p e) (a,(j:Int)) d/\
    (d=.cont (repS k a e)\/(256<(repS k a e).length/\d=.done (.done (.done (repS k a e))))):=by
  intro p e g B j k
  induction k generalizing j with
  |zero=>
   intro a f _;refine⟨_,EvI.done (b:=.cont a) ?_,.inl rfl⟩;unfold F_gr;have:¬((j:Int)<if p.Laps<1 then 1 else p.Laps):=by
    rcases g with h|⟨h,R⟩
    .rw[h]at f⊢;simp at f⊢;omega
    .rw[QJ h]at f;simp at f;rw[if_neg (by omega)];omega
   rw[QD this];exact Qa _
  |succ k G=>
   intro a f F;have s:((j:Int)<if p.Laps<1 then 1 else p.Laps):=by
    rcases g with h|⟨h,R⟩
    .rw[h]at f⊢;simp at f⊢;omega
    .rw[QJ h]at f;simp at f;rw[if_neg (by omega)];omega
   have Q:j<=64:=by
    rcases g with h|⟨h,R⟩
    .rw[h]at f;simp at f;omega
    .rw[QJ h]at f;simp at f;omega
   by_cases u:256<a.length
   .refine⟨_,EvI.done (b:=.done (.done (.done a))) ?_,.inr ⟨by rw[Qcv u];exact u,by rw[Qcv u]⟩⟩;unfold F_gr;rw[QJ s,QJ (show(256:Int)<(a.length:Int)by omega)];exact Qa _
   .obtain⟨d,t,z⟩:=G (j+1) (a++e) (by omega) (by rw[Va];omega);refine⟨d,EvI.cont ?_ t,by rw[repS,if_neg u];exact z⟩;unfold F_gr;rw[QJ s,QD (show¬(256:Int)<(a.length:Int)by omega)];refine Qh2 (QN (Ju (QcJ a e (by omega)) ?_));rw[YP (by omega)];exact Qa _
 have loop:∀(r:List Part) (i:Nat) (a:List Int),l.drop i=r->i<=l.length->a.length<=100000->
   ∃d:Ctl (List Int) (List Int),EvI (λn=>F_gx n l (F_t n)) (a,(i:Int)) d/\(d=.cont (expS a r)\/d=.done (expS a r)):=by
  intro r
  induction r with
  |nil=>
   intro i a L P _;refine⟨.cont a,EvI.done ?_,.inl (by rw[expS])⟩;unfold F_gx;simp only[Q0 L P,cond_false];exact Qa _
  |cons p r J=>
   intro i a L P F;obtain⟨q,H⟩:=Qq (by omega) L;have s:=q.lt';have hs:=Jc q.mem;obtain⟨Y,w2⟩:=Yh (hw p q.mem);have g:=O p q.mem;rw[QbM]at g;have w:p.Laps=0\/0<p.Laps/\p.Laps<=64:=by
    cases T:(p.Laps==0)with
    |true=>exact .inl (by simpa using T)
    |false=>
     rw[T]at g;simp only[cond_false,inR,X4,decide_eq_true_eq]at g;exact .inr ⟨by omega,by omega⟩
   have aa:=Qha p;have u:Ev (λn=>((bif decide (0<p.Laps)then(F_t n p.Parts).bind λM=>some M else some [p.Mat]):Option (List Int))) (lapS p):=by
    rw[QbX];refine Ys (λh=>?_) (λ_=>Qa _);rw[YQ]at hs;refine Ev.bind (ih (szPs p.Parts) (by omega) p.Parts (X0 _) (by omega) Y w2 ?_) (Qa _);have:(p.Laps==0)=false:=by
     simp only[decide_eq_true_eq]at h;exact beq_false_of_ne (by omega)
    rw[this]at g;simp only[cond_false,X4]at g;exact g.2.2.2
   obtain⟨d,t,z⟩:=inner p (lapS p) w (by omega) 0 _ a (XB _) (by omega);rw[expS];rcases z with rfl|⟨y,rfl⟩
   .obtain⟨E,X,V⟩:=J (i+1) (repS (p.Laps.toNat+(bif decide (0<p.Laps)then 0 else 1)) a (lapS p)) H (by omega) (by
     have:=Qcu (p.Laps.toNat+(bif decide (0<p.Laps)then 0 else 1)) a (lapS p);omega)
    refine⟨E,EvI.cont ?_ X,V⟩;unfold F_gx;simp only[q.lt,cond_true,q.ix,XQ,q.nx];exact Ev.bind u (Ev.bind t.ev (Qa _))
   .refine⟨.done (repS (p.Laps.toNat+(bif decide (0<p.Laps)then 0 else 1)) a (lapS p)),EvI.done ?_,.inr (by rw[QeI r y])⟩;unfold F_gx;simp only[q.lt,cond_true,q.ix,XQ,q.nx];exact Ev.bind u (Ev.bind t.ev (Qa _))
 obtain⟨d,t,z⟩:=loop l 0 [] rfl (X2 _) (by simp);rcases z with rfl|rfl
 .exact Ev.bind t.ev (Qa _)
 .exact Ev.bind t.ev (Qa _)
theorem Qgt(M:Int):∀(m:Nat) (l:List Part),szPs l<=m->szPs l<=256->l.length<=1048576->(∀x∈l,Part.wf x)->partsS M l=true->Ev (λn=>F_v n l) (expS [] l):=by
 intro m
 induction m using Nat.strongRecOn with
 |_ m R=>
 intro l W B V P E;rw[Qa3,Xw]at E;refine Yb ?_;show Ev (λn=>B_v (F_v n) n l) _;unfold B_v;have inner:∀(p:Part) (i:Nat) (d:At l i p) (F:List Int) (e:List Int) (f:0<p.Laps/\p.Laps<=64) (g:e.length<=100000) (j:Nat) (k:Nat) (a:List Int),j+k=p.Laps.toNat->a.length<=200000->
   EvI (λn=>F_hx n l (F,(i:Int)) e) (a,(j:Int)) (repS k a e):=by
  intro p i d F e f g j k
  induction k generalizing j with
  |zero=>
   intro a T _;refine EvI.done ?_;unfold F_hx;simp only[d.ix,XQ];rw[QD (show¬(j:Int)<p.Laps by omega)];exact Qa _
  |succ k s=>
   intro a T q;by_cases h:256<a.length
   .refine EvI.done ?_;rw[Qcv h];unfold F_hx;simp only[d.ix,XQ];rw[QJ (show(j:Int)<p.Laps by omega),QD (show¬(a.length:Int)<=256 by omega)];exact Qa _
   .rw[repS,if_neg h];refine EvI.cont ?_ (s (j+1) (a++e) (by omega) (by rw[Va];omega));unfold F_hx;simp only[d.ix,XQ];rw[QJ (show(j:Int)<p.Laps by omega),QJ (show(a.length:Int)<=256 by omega)];simp only[cond_true,XQ];refine Ju (QcJ a e (by omega)) ?_;rw[YP (by omega)];exact Qa _
 have loop:∀(r:List Part) (i:Nat) (a:List Int),l.drop i=r->i<=l.length->a.length<=100000->
   EvI (λn=>F_io n l (F_v n)) (a,(i:Int)) (expS a r):=by
  intro r
  induction r with
  |nil=>
   intro i a y G _;refine EvI.done ?_;rw[expS];unfold F_io;simp only[Q0 y G,cond_false,XQ];exact Qa _
  |cons p r u=>
   intro i a y G q;obtain⟨d,t⟩:=Qq (by omega) y;have J:=d.lt';have Q:=Jc d.mem;by_cases h:256<a.length
   .rw[QeI _ h];refine EvI.done ?_;unfold F_io;simp only[d.lt,cond_true,QD (show¬(a.length:Int)<=256 by omega),XQ,cond_false];exact Qa _
   obtain⟨N,O⟩:=Yh (P p d.mem);have f:=E p d.mem;rw[QbM]at f;have z:=Qha p;rw[expS];refine EvI.cont ?_ (u (i+1) _ t (by omega) (by
    have:=Qcu (p.Laps.toNat+(bif decide (0<p.Laps)then 0 else 1)) a (lapS p);omega))
   unfold F_io;simp only[d.lt,cond_true,QJ (show(a.length:Int)<=256 by omega),XQ,d.ix,d.nx];cases H:(p.Laps==0)with
   |true=>
    have L:p.Laps=0:=by simpa using H
    simp only[cond_true];refine Ev.bind (Ju (QcJ a [p.Mat] (by simp;omega)) (Qa _)) ((Qa _).eq ?_);rw[QbX,L];simp[repS,h]
   |false=>
    rw[H]at f;simp only[cond_false,X4,inR,decide_eq_true_eq]at f;have b:0<p.Laps/\p.Laps<=64:=⟨by omega,by omega⟩;simp only[cond_false];rw[YQ]at Q;refine Ev.bind (Ev.bind (R (szPs p.Parts) (by omega) p.Parts (X0 _) (by omega) N O f.2.2.2) (Ev.bind ?_ (Qa _))) (Qa _);have w:=QbX p;rw[QJ b.1,cond_true]at w;have:=(inner p i d a (expS [] p.Parts) b (by rw[<- w];rw[YQ]at z;omega) 0 p.Laps.toNat a (by omega) (by omega)).ev;rw[<- w]at this⊢;rw[QJ b.1];exact this
 exact Ev.bind (loop l 0 [] rfl (X2 _) (by simp)).ev (Qa _)
def kindAt(c:Course)(m:Int):Int:=((c.Mats[m.toNat]?).map (·.Kind)).getD 0
def hasLeg(c:Course)(a b:Int):Bool:=c.Legs.any λl=>(l.From==a)&&(l.To==b)
def rokS(c:Course)(len:Nat):Nat->Int->List Int->Bool
 |_,_,[]=>true
 |i,prev,m::r=>((kindAt c m==1)==decide (i=0))&&(((kindAt c m==3)==decide (i+1=len))&&((decide (i=0)||hasLeg c prev m)&&rokS c len (i+1) m r))
def routeR(c:Course)(d:Distance)(r:List Int):Bool:=
 (decide (2<=r.length)&&decide (r.length<=256))&&(rokS c r.length 0 0 r&&((bif decide (0<=d.Extra)then !((r.count d.Extra:Int)==0)&&((kindAt c d.Extra==2)&&hasLeg c d.Extra d.Extra)else true)&&d.Cutoffs.all λx=>decide (x.Lap<=(r.count x.Mat:Int))))
def routeS(c:Course)(d:Distance):Bool:=routeR c d (expS [] d.Route)
def cntM(l:List Int):List (Int×Int):=l.foldl (λm k=>Q7 m k (QU m k 0+1)) []
theorem Qki(l:List Int)(k:Int):cntM (l++[k])=Q7 (cntM l) k (QU (cntM l) k 0+1):=by unfold cntM;rw[XJ];rfl
theorem QeW(l:List Int)(k:Int):QU (cntM l) k 0=(l.count k:Int):=by
 have a:∀(l:List Int) (m:List (Int×Int)),QU (l.foldl (λm k=>Q7 m k (QU m k 0+1)) m) k 0=QU m k 0+(l.count k:Int):=by
  intro l
  induction l with
  |nil=>intro m;simp
  |cons x l b=>
   intro m;rw[XK,b,Qel,List.count_cons];by_cases h:k=x
   .subst h;simp;omega
   .have:(x==k)=false:=beq_false_of_ne λe=>h e.symm;simp[h,this]
 have:=a l [];simpa[cntM,QjT]using this
theorem Qie(b:Int):∀(m:Nat) (l:List Part) (a:List Int),szPs l<=m->partsS b l=true->(∀x∈a,0<=x/\x<=b)->∀x∈expS a l,0<=x/\x<=b:=by
 intro m
 induction m using Nat.strongRecOn with
 |_ m y=>
 intro l;have s:∀(k:Nat) (a d:List Int),(∀x∈a,0<=x/\x<=b)->(∀x∈d,0<=x/\x<=b)->∀x∈repS k a d,0<=x/\x<=b:=by
  intro k
  induction k with
  |zero=>intro a d f _;rw[repS];exact f
  |succ k n=>
   intro a d f w;rw[repS];split
   .exact f
   .refine n _ _ ?_ w;intro x i;rcases List.mem_append.1 i with h|h
    .exact f x h
    .exact w x h
 have j:∀(r:List Part) (a:List Int),szPs r<=m->partsS b r=true->(∀x∈a,0<=x/\x<=b)->∀x∈expS a r,0<=x/\x<=b:=by
  intro r
  induction r with
  |nil=>intro a _ _ h;rw[expS];exact h
  |cons p r t=>
   intro a q g h;rw[szPs,YQ]at q;rw[partsS,X4]at g;obtain⟨e,z⟩:=g;rw[expS];refine t _ (by omega) z (s _ _ _ h ?_);rw[QbX];rw[QbM]at e;cases u:(p.Laps==0)with
   |true=>
    have B:p.Laps=0:=by simpa using u
    rw[u,cond_true,X4]at e;have:=e.1;unfold inR at this;simp only[X4,decide_eq_true_eq]at this;rw[B];intro x i;simp at i;subst i;exact this
   |false=>
    rw[u]at e;simp only[cond_false,X4,inR,decide_eq_true_eq]at e;rw[QJ (show 0<p.Laps by omega),cond_true];exact y (szPs p.Parts) (by omega) p.Parts [] (X0 _) e.2.2.2 (by simp)
 exact λa q g h=>j l a q g h
theorem QcA{c:Course}{m:Int}(h0:0<=m)(b:m<=(c.Mats.length:Int)-1):∃x:Mat,idx c.Mats m=some x/\x.Kind=kindAt c m:=by
 obtain⟨k,rfl⟩:∃k:Nat,m=(k:Int):=⟨m.toNat,by omega⟩;have a:k<c.Mats.length:=by omega
 refine⟨c.Mats[k],Qo (XR a),?_⟩;unfold kindAt;rw[Int.toNat_natCast,XR a];rfl
theorem Qg9(c:Course)(a b:Int):QU (Yp legKey true c.Legs) {from_:=a,to_:=b} false=hasLeg c a b:=by
 rw[Qds];unfold hasLeg;by_cases h:({from_:=a,to_:=b}:typing_ends)∈c.Legs.map legKey
 .rw[if_pos h];obtain⟨l,d,e⟩:=Xf.1 h;unfold legKey at e;obtain⟨f,g⟩:=ends_eq.1 e;exact(Xx.2 ⟨l,d,by simp[f,g]⟩).symm
 .rw[if_neg h]
  symm
  rw[Bool.eq_false_iff];intro q;obtain⟨l,d,e⟩:=Xx.1 q;simp only[X4,beq_iff_eq]at e;exact h (Xf.2 ⟨l,d,by unfold legKey;rw[e.1,e.2]⟩)
theorem Qma(c:Course)(w:CourseOk c)(a b:Int):∃v:Int,Ev (λn=>F_ak n c a b) v/\decide (v<0)= !hasLeg c a b:=by
 unfold F_ak;have u:c.Legs.length<=4611686018427387904:=by have:=w.legs;omega
 have step:∀i x,At c.Legs i x->Ev (λn:Nat=>F_hk n c a b (i:Int)) (bif (x.From==a)&&(x.To==b)then .done (.done (i:Int))else .cont ((i+1:Nat):Int)):=by
  intro i x e;unfold F_hk;simp only[e.lt,cond_true,e.ix,XQ,e.nx];refine Ev.bind (Ev.and λ_=>Qa _) ?_;cases((x.From==a)&&(x.To==b))<;>exact Qa _
 have loop:∀(r:List Leg) (i:Nat),c.Legs.drop i=r->i<=c.Legs.length->∃d:Ctl Unit Int,EvI (λn=>F_hk n c a b) (i:Int) d/\((r.any λl=>(l.From==a)&&(l.To==b))=true->∃j:Nat,d=.done (j:Int))/\((r.any λl=>(l.From==a)&&(l.To==b))=false->d=.cont ()):=by
  intro r
  induction r with
  |nil=>
   intro i m p;refine⟨.cont (),EvI.done ?_,λh=>(by simp at h),λ_=>rfl⟩;unfold F_hk;simp only[Q0 m p,cond_false];exact Qa _
  |cons x r q=>
   intro i m p;obtain⟨e,g⟩:=Qq u m;have s:=step i x e;rw[List.any_cons];cases h:((x.From==a)&&(x.To==b))with
   |true=>
    rw[h]at s;exact⟨.done (i:Int),EvI.done s,λ_=>⟨i,rfl⟩,λh=>by simp at h⟩
   |false=>
    rw[h]at s;obtain⟨d,f,k⟩:=q (i+1) g (by have:=e.lt';omega);exact⟨d,EvI.cont s f,by simpa using k⟩
 obtain⟨d,f,k,t⟩:=loop c.Legs 0 rfl (X2 _);unfold hasLeg;cases h:c.Legs.any λl=>(l.From==a)&&(l.To==b)with
 |true=>
  obtain⟨j,rfl⟩:=k h;exact⟨(j:Int),Ev.bind f.ev (Qa _),by simp⟩
 |false=>
  obtain rfl:=t h;exact⟨-1,Ev.bind f.ev (Qa _),by simp⟩
theorem Qhx(l:List Int)(k:Int)(q:l.length<=1048576):Ev (λn=>F_ap n l k) (l.count k:Int):=by
 unfold F_ap;have loop:∀(r:List Int) (i:Nat) (a:Nat),l.drop i=r->i<=l.length->a<=i->EvI (λn=>F_ia n l k) ((a:Int),(i:Int)) ((a+r.count k:Nat):Int):=by
  intro r
  induction r with
  |nil=>
   intro i a e f _;refine EvI.done ?_;unfold F_ia;simp only[Q0 e f,cond_false];exact Qa _
  |cons x r g=>
   intro i a e f j;obtain⟨b,d⟩:=Qq (by omega) e;have p:=b.lt';have m:IntKind.i64.wrap ((a:Int)+1)=((a+1:Nat):Int):=YP (by omega);rw[List.count_cons];cases h:(x==k)with
   |true=>
    refine(EvI.cont ?_ (g (i+1) (a+1) d (by omega) (by omega))).eq ?_
    .unfold F_ia;simp only[b.lt,cond_true,b.ix,XQ,b.nx,h,m];exact Qa _
    .simp;omega
   |false=>
    refine(EvI.cont ?_ (g (i+1) a d (by omega) (by omega))).eq ?_
    .unfold F_ia;simp only[b.lt,cond_true,b.ix,XQ,b.nx,h,cond_false];exact Qa _
    .simp
 exact Ev.bind ((loop l 0 0 rfl (X2 _) (X0 _)).ev) ((Qa _).eq (by omega))
structure NumOk (c:Course):Prop where
 kinds:∀m∈c.Mats,1<=m.Kind/\m.Kind<=3
 dist:∀d∈c.Distances,-1<=d.Extra/\d.Extra<=(c.Mats.length:Int)-1/\partsS ((c.Mats.length:Int)-1) d.Route=true
theorem QhY{c:Course}(h:numbersS c=true):NumOk c:=by
 unfold numbersS at h;simp only[X4,Xw]at h;refine⟨λm b=>?_,λd e=>?_⟩
 .have:=h.1 m b;unfold inR at this;simpa using this
 .have:=h.2.2.2.1 d e;unfold distS at this;simp only[X4]at this;obtain⟨_,a,f,_⟩:=this;unfold inR at a;simp only[X4,decide_eq_true_eq]at a;exact⟨a.1,a.2,f⟩
theorem QjU{c:Course}(q:NumOk c){m:Int}(h0:0<=m)(a:m<=(c.Mats.length:Int)-1):1<=kindAt c m/\kindAt c m<=3:=by
 obtain⟨x,b,d⟩:=QcA h0 a;have:x∈c.Mats:=by
  obtain⟨_,e⟩:=QaZ b;exact List.mem_of_getElem? e
 rw[<- d];exact q.kinds x this
theorem QlS{c:Course}(q:NumOk c){d:Distance}(hd:d∈c.Distances):∀x∈expS [] d.Route,0<=x/\x<=(c.Mats.length:Int)-1:=
 Qie _ _ d.Route [] (X0 _) (q.dist d hd).2.2 (by simp)
theorem Qg0(c:Course)(len i:Nat)(prev m:Int)(r:List Int):rokS c len i prev (m::r)=(((kindAt c m==1)==decide (i=0))&&(((kindAt c m==3)==decide (i+1=len))&&((decide (i=0)||hasLeg c prev m)&&rokS c len (i+1) m r))):=rfl
theorem Qi7(i:Nat):((i:Int)==0)=decide (i=0):=by
 rw[X6];simp
theorem Qfo(c:Course)(r:List Int)(z:2<=r.length)(R:r.length<=256)(G:∀x∈r,0<=x/\x<=(c.Mats.length:Int)-1):
  Ev (λn=>iter (F_dq n c (Yp legKey true c.Legs) r) n ([],0)) (bif rokS c r.length 0 0 r then .cont (cntM r)else .done false):=by
 have loop:∀(t:List Int) (i:Nat) (b:Int),r.drop i=t->i<=r.length->(0<i->At r (i-1) b)->EvI (λn=>F_dq n c (Yp legKey true c.Legs) r) (cntM (r.take i),(i:Int)) (bif rokS c r.length i b t then .cont (cntM r)else .done false):=by
  intro t
  induction t with
  |nil=>
   intro i b f s _;refine EvI.done ?_;unfold F_dq;simp only[Q0 f s,cond_false,rokS,cond_true];have:r.length<=i:=by simpa using f
   rw[List.take_of_length_le this];exact Qa _
  |cons m t O=>
   intro i b f s F;obtain⟨d,j⟩:=Qq (by omega) f;have y:=d.lt';obtain⟨Q,M⟩:=G m d.mem;obtain⟨x,N,J⟩:=QcA Q M;have H:IntKind.i64.wrap ((r.length:Int)-1)=((r.length-1:Nat):Int):=by rw[QQ (by omega) (by omega)];omega
   have B:((i:Int)==((r.length-1:Nat):Int))=decide (i+1=r.length):=by rw[X6];simp;omega
   have E:Ev (λn:Nat=>((bif ((x.Kind==1) != ((i:Int)==0))then some true else(bif ((x.Kind==3) != ((i:Int)==(IntKind.i64.wrap ((r.length:Int)-1))))then some true else(bif decide (0<(i:Int))then(idx r (IntKind.i64.wrap ((i:Int)-1))).bind λk=>(some (QU (Yp legKey true c.Legs) ({from_:=k,to_:=m:typing_ends}) false)).bind λg=>some (!g)else some false))):Option Bool))
     (!(((kindAt c m==1)==decide (i=0))&&(((kindAt c m==3)==decide (i+1=r.length))&&(decide (i=0)||hasLeg c b m)))):=by
    rw[J,H,B,Qi7];refine Ev.eq (Qf λ_=>Qf λ_=>Ys (v:= !hasLeg c b m) (w:=false) (λh=>?_) λ_=>Qa _) ?_
    .have p:0<i:=by simpa using h
     have L:IntKind.i64.wrap ((i:Int)-1)=((i-1:Nat):Int):=by rw[QQ (by omega) (by omega)];omega
     rw[L,(F p).ix];simp only[XQ,Qg9];exact Qa _
    .have u:decide (0<(i:Int))= !decide (i=0):=by rw[X6];simp;omega
     rw[u];cases(kindAt c m==1)<;>cases decide (i=0)<;>cases(kindAt c m==3)<;>cases decide (i+1=r.length)<;>cases hasLeg c b m<;>rfl
   have e:IntKind.i64.wrap (QU (cntM (r.take i)) m 0+1)=QU (cntM (r.take i)) m 0+1:=by
    rw[QeW];have:(r.take i).count m<=i:=by have:=List.count_le_length (a:=m) (l:=r.take i);simp at this;omega
    exact QQ (by omega) (by omega)
   have step:Ev (λn=>F_dq n c (Yp legKey true c.Legs) r (cntM (r.take i),(i:Int))) (bif ((kindAt c m==1)==decide (i=0))&&(((kindAt c m==3)==decide (i+1=r.length))&&(decide (i=0)||hasLeg c b m))then .cont (cntM (r.take (i+1)),((i+1:Nat):Int))else .done (.done false)):=by
    unfold F_dq;simp only[d.lt,cond_true,d.ix,XQ,d.nx,N];refine Ev.bind E ?_;rw[e, <- Qki, <- d.take];cases(((kindAt c m==1)==decide (i=0))&&(((kindAt c m==3)==decide (i+1=r.length))&&(decide (i=0)||hasLeg c b m)))<;>exact Qa _
   have P:rokS c r.length i b (m::t)=((((kindAt c m==1)==decide (i=0))&&(((kindAt c m==3)==decide (i+1=r.length))&&(decide (i=0)||hasLeg c b m)))&&rokS c r.length (i+1) m t):=by rw[Qg0];simp only[Bool.and_assoc]
   rw[P];cases q:(((kindAt c m==1)==decide (i=0))&&(((kindAt c m==3)==decide (i+1=r.length))&&(decide (i=0)||hasLeg c b m)))with
   |false=>
    rw[q]at step;exact EvI.done step
   |true=>
    rw[q]at step;rw[Bool.true_and];exact EvI.cont step (O (i+1) m j (by omega) (λ_=>by simpa using d))
 exact(loop r 0 0 rfl (X2 _) (by omega)).ev
theorem Qir(c:Course)(w:CourseOk c)(q:NumOk c)(d:Distance)(b:d∈c.Distances)(u:∀x∈d.Route,Part.wf x)(l:szPs d.Route<=256):
  Ev (λn=>F_ct n c d (Yp legKey true c.Legs)) (routeS c d):=by
 have i:=Y1 d.Route;have j:=QlS q b;have a:=QeH _ d.Route [] (X0 _);unfold F_ct routeS;refine Ev.bind (Qj8 _ _ d.Route (X0 _) l (by omega) u (q.dist d b).2.2) ?_;generalize expS [] d.Route=r at j a⊢;unfold routeR;have s:IntKind.i64.wrap ((r.length:Int)-1)=(r.length:Int)-1:=by
  have:r.length<=1048576:=by simp at a;omega
  exact QaC this
 rw[s];have y:(decide ((r.length:Int)-1<1)||decide (256<=(r.length:Int)-1))= !(decide (2<=r.length)&&decide (r.length<=256)):=by
  rw[X6];simp;omega
 refine Ev.bind (Ev.eq (Qf λ_=>Qa _) y) ?_;cases h:(decide (2<=r.length)&&decide (r.length<=256))with
 |false=>exact Qa _
 |true=>
  simp only[X4,decide_eq_true_eq]at h;rw[Bool.true_and];refine QN (Ev.bind (Qfo c r h.1 h.2 j) ?_);cases rokS c r.length 0 0 r with
  |false=>exact Qa _
  |true=>
   simp only[cond_true,Bool.true_and];have z:Ev (λn:Nat=>((bif decide (0<=d.Extra)then(some (QU (cntM r) d.Extra 0)).bind λf=>(bif (f==0)then some true else(idx c.Mats d.Extra).bind λg=>(bif (g.Kind != 2)then some true else(some (QU (Yp legKey true c.Legs) ({from_:=d.Extra,to_:=d.Extra:typing_ends}) false)).bind λe=>some (!e)))else some false):Option Bool))
     (!(bif decide (0<=d.Extra)then !((r.count d.Extra:Int)==0)&&((kindAt c d.Extra==2)&&hasLeg c d.Extra d.Extra)else true)):=by
    rw[QeW];cases t:decide (0<=d.Extra)with
    |false=>exact Qa _
    |true=>
     obtain⟨x,k,p⟩:=QcA (c:=c) (m:=d.Extra) (by simpa using t) (q.dist d b).2.1;simp only[cond_true,XQ,k,Qg9,p];refine Ev.eq (Qf λ_=>Qf λ_=>Qa _) ?_;rw[bne];cases((r.count d.Extra:Int)==0)<;>cases(kindAt c d.Extra==2)<;>cases hasLeg c d.Extra d.Extra<;>rfl
   refine Ev.bind z ?_;cases(bif decide (0<=d.Extra)then !((r.count d.Extra:Int)==0)&&((kindAt c d.Extra==2)&&hasLeg c d.Extra d.Extra)else true)with
   |false=>exact Qa _
   |true=>
    rw[Bool.true_and];refine QN (Ev.bind ?_ (Qa _));unfold F_ht F_gh F_gc;refine Jg d.Cutoffs _ (λn x=>F_cf n x (cntM r)) (by have:=w.cut d b;omega) λx _=>?_;unfold F_cf;rw[QeW];exact Qa _
theorem QeL(c:Course)(w:CourseOk c)(q:NumOk c)(r:List Int)(F:2<=r.length)(V:r.length<=256)(M:∀x∈r,0<=x/\x<=(c.Mats.length:Int)-1):
  Ev (λn=>iter (F_fo n c r) n 0) (bif rokS c r.length 0 0 r then .cont ()else .done false):=by
 have loop:∀(t:List Int) (i:Nat) (a:Int),r.drop i=t->i<=r.length->(0<i->At r (i-1) a)->EvI (λn=>F_fo n c r) (i:Int) (bif rokS c r.length i a t then .cont ()else .done false):=by
  intro t
  induction t with
  |nil=>
   intro i a j u _;refine EvI.done ?_;unfold F_fo;simp only[Q0 j u,cond_false,rokS,cond_true];exact Qa _
  |cons m t R=>
   intro i a j u J;obtain⟨f,k⟩:=Qq (by omega) j;have E:=f.lt';obtain⟨z,y⟩:=M m f.mem;obtain⟨x,Q,O⟩:=QcA z y;have W:=QjU q z y;have N:IntKind.i64.wrap ((r.length:Int)-1)=((r.length-1:Nat):Int):=by rw[QQ (by omega) (by omega)];omega
   have G:((i:Int)==((r.length-1:Nat):Int))=decide (i+1=r.length):=by rw[X6];simp;omega
   have step:Ev (λn=>F_fo n c r (i:Int)) (bif ((kindAt c m==1)==decide (i=0))&&(((kindAt c m==3)==decide (i+1=r.length))&&(decide (i=0)||hasLeg c a m))then .cont ((i+1:Nat):Int)else .done (.done false)):=by
    unfold F_fo;simp only[f.lt,cond_true,f.ix,XQ,f.nx,Q,O,N,G,Qi7];refine Ev.bind (v:=if i=0 then 1 else if i+1=r.length then 3 else 2) (Ev.const ?_) ?_
    .by_cases d:i=0
     .simp[d]
     .by_cases e:i+1=r.length
      .simp[d,e]
      .simp[d,e]
    refine Ev.bind (v:= !(((kindAt c m==1)==decide (i=0))&&(((kindAt c m==3)==decide (i+1=r.length))&&(decide (i=0)||hasLeg c a m)))) ?_ ?_
    .have B:Ev (λn:Nat=>(bif decide (0<(i:Int))then(idx r (IntKind.i64.wrap ((i:Int)-1))).bind λh=>(F_ak n c h m).bind λl=>some (decide (l<0))else some false:Option Bool)) (!(decide (i=0)||hasLeg c a m)):=by
      by_cases d:i=0
      .subst d;exact Qa _
      .have P:IntKind.i64.wrap ((i:Int)-1)=((i-1:Nat):Int):=by rw[QQ (by omega) (by omega)];omega
       obtain⟨v,L,H⟩:=Qma c w a m;rw[QJ (show(0:Int)<(i:Int)by omega),P,(J (by omega)).ix,QD d];simp only[cond_true,XQ];exact Ev.bind L ((Qa _).eq (by rw[H];rfl))
     refine Ev.eq (Qf λ_=>B) ?_;have p:(kindAt c m != if i=0 then 1 else if i+1=r.length then 3 else 2)= !(((kindAt c m==1)==decide (i=0))&&((kindAt c m==3)==decide (i+1=r.length))):=by
      have b:kindAt c m=1\/kindAt c m=2\/kindAt c m=3:=by omega
      by_cases d:i=0
      .have e:¬i+1=r.length:=by omega
       rcases b with g|g|g<;>simp[g,d,show¬1=r.length by omega]
      .by_cases e:i+1=r.length
       .rcases b with g|g|g<;>simp[g,d,e]
       .rcases b with g|g|g<;>simp[g,d,e]
     rw[p];cases((kindAt c m==1)==decide (i=0))<;>cases((kindAt c m==3)==decide (i+1=r.length))<;>cases(decide (i=0)||hasLeg c a m)<;>rfl
    .cases(((kindAt c m==1)==decide (i=0))&&(((kindAt c m==3)==decide (i+1=r.length))&&(decide (i=0)||hasLeg c a m)))<;>exact Qa _
   have T:rokS c r.length i a (m::t)=((((kindAt c m==1)==decide (i=0))&&(((kindAt c m==3)==decide (i+1=r.length))&&(decide (i=0)||hasLeg c a m)))&&rokS c r.length (i+1) m t):=by rw[Qg0];simp only[Bool.and_assoc]
   rw[T];cases s:(((kindAt c m==1)==decide (i=0))&&(((kindAt c m==3)==decide (i+1=r.length))&&(decide (i=0)||hasLeg c a m)))with
   |false=>
    rw[s]at step;exact EvI.done step
   |true=>
    rw[s]at step;rw[Bool.true_and];exact EvI.cont step (R (i+1) m k (by omega) (λ_=>by simpa using f))
 exact(loop r 0 0 rfl (X2 _) (by omega)).ev
theorem Qhr(c:Course)(w:CourseOk c)(q:NumOk c)(d:Distance)(a:d∈c.Distances)(G:∀x∈d.Route,Part.wf x)(t:szPs d.Route<=256):
  Ev (λn=>F_fc n c d) (routeS c d):=by
 have l:=Y1 d.Route;have p:=QlS q a;have f:=QeH _ d.Route [] (X0 _);unfold F_fc routeS;refine Ev.bind (Qgt _ _ d.Route (X0 _) t (by omega) G (q.dist d a).2.2) ?_;generalize expS [] d.Route=r at p f⊢;unfold routeR;have u:(decide ((r.length:Int)<2)||decide (256<(r.length:Int)))= !(decide (2<=r.length)&&decide (r.length<=256)):=by
  rw[X6];simp;omega
 refine Ev.bind (Ev.eq (Qf λ_=>Qa _) u) ?_;cases j:(decide (2<=r.length)&&decide (r.length<=256))with
 |false=>exact Qa _
 |true=>
  simp only[X4,decide_eq_true_eq]at j;rw[Bool.true_and];refine QN (Ev.bind (QeL c w q r j.1 j.2 p) ?_);cases rokS c r.length 0 0 r with
  |false=>exact Qa _
  |true=>
   simp only[cond_true,Bool.true_and];have H:Ev (λn:Nat=>((bif (d.Extra != (-1))then(idx c.Mats d.Extra).bind λg=>(bif (g.Kind != 2)then some true else(F_ap n r d.Extra).bind λb=>(bif (b==0)then some true else(F_ak n c d.Extra d.Extra).bind λe=>some (decide (e<0))))else some false):Option Bool))
     (!(bif decide (0<=d.Extra)then !((r.count d.Extra:Int)==0)&&((kindAt c d.Extra==2)&&hasLeg c d.Extra d.Extra)else true)):=by
    have h:=q.dist d a;have F:(d.Extra != (-1))=decide (0<=d.Extra):=by rw[X6];simp;omega
    rw[F];cases z:decide (0<=d.Extra)with
    |false=>exact Qa _
    |true=>
     obtain⟨x,B,y⟩:=QcA (c:=c) (m:=d.Extra) (by simpa using z) h.2.1;obtain⟨v,s,E⟩:=Qma c w d.Extra d.Extra;simp only[cond_true,XQ,B,y];refine Ev.eq (Qf λ_=>Ev.bind (Qhx r _ (by omega)) (Qf λ_=>Ev.bind s (Qa _))) ?_;rw[bne,E];cases((r.count d.Extra:Int)==0)<;>cases(kindAt c d.Extra==2)<;>cases hasLeg c d.Extra d.Extra<;>rfl
   refine Ev.bind H ?_;cases(bif decide (0<=d.Extra)then !((r.count d.Extra:Int)==0)&&((kindAt c d.Extra==2)&&hasLeg c d.Extra d.Extra)else true)with
   |false=>exact Qa _
   |true=>
    rw[Bool.true_and];refine QN (Ev.bind (QA d.Cutoffs (λx=>decide (x.Lap<=(r.count x.Mat:Int))) (Ctl.done false) (Ctl.cont ()) (by have:=w.cut d a;omega) (λi x k=>?_) ?_) ?_)
    .unfold F_ms;simp only[k.lt,cond_true,k.ix,XQ,k.nx];refine Ev.bind (Qhx r _ (by omega)) ?_;have:decide ((r.count x.Mat:Int)<x.Lap)= !decide (x.Lap<=(r.count x.Mat:Int)):=by rw[X6];simp
     rw[this];cases decide (x.Lap<=(r.count x.Mat:Int))<;>exact Qa _
    .unfold F_ms;simp only[Yc,cond_false];exact Qa _
    .cases(d.Cutoffs.all λx=>decide (x.Lap<=(r.count x.Mat:Int)))<;>exact Qa _
def lensC(c:Course):Nat:=c.Mats.length+c.Legs.length+c.Distances.length+c.Waves.length+c.Offences.length+c.Categories.length+c.Prizes.length
def fewD(d:Distance):Prop:=d.Cutoffs.length<=200/\szPs d.Route<=200/\hPs d.Route<=16
structure FewOk (c:Course):Prop where
 lens:lensC c<=200
 name:c.Name.length<=100
 dist:∀d∈c.Distances,fewD d
 ties:c.Ties.length<=200
def fitsS(c:Course):Bool:=
 !(decide (40<(c.Mats.length:Int))||(decide (512<(c.Legs.length:Int))||(decide (8<(c.Distances.length:Int))||(decide (32<(c.Waves.length:Int))||(decide (32<(c.Offences.length:Int))||(decide (32<(c.Categories.length:Int))||decide (32<(c.Prizes.length:Int))))))))
  &&c.Distances.all λd=> !decide (64<(d.Cutoffs.length:Int))
theorem Qnm(c:Course)(w:CourseOk c)(q:PartsOk c)(k:FewOk c):Ev (λn=>F_bo n c) (fitsS c):=by
 unfold F_bo fitsS;refine Ev.bind (Qf λ_=>Qf λ_=>Qf λ_=>Qf λ_=>Qf λ_=>Qf λ_=>Qa _) ?_;cases(decide (40<(c.Mats.length:Int))||(decide (512<(c.Legs.length:Int))||(decide (8<(c.Distances.length:Int))||(decide (32<(c.Waves.length:Int))||(decide (32<(c.Offences.length:Int))||(decide (32<(c.Categories.length:Int))||decide (32<(c.Prizes.length:Int))))))))with
 |true=>exact Qa _
 |false=>
  rw[Xi,Bool.true_and];refine QN (Ev.bind (QA c.Distances (λd=> !decide (64<(d.Cutoffs.length:Int))) (Ctl.done false) (Ctl.cont ()) (by have:=w.dist;omega) (λi x a=>?_) ?_) ?_)
  .obtain⟨f,e,b⟩:=k.dist x a.mem;unfold F_gn;simp only[a.lt,cond_true,a.ix,XQ,a.nx];refine Ev.bind (Ql5 _ x.Route 17 (X0 _) (by omega) (X0 _) (by omega) (q.wf x a.mem)) ?_;refine Ev.bind (Qf λ_=>Qf λ_=>Qa _) ?_;simp only[QD (show¬(16:Int)<(hPs x.Route:Int)by omega),QD (show¬(256:Int)<(szPs x.Route:Int)by omega),Bool.or_false];cases decide (64<(x.Cutoffs.length:Int))<;>exact Qa _
  .unfold F_gn;simp only[Yc,cond_false];exact Qa _
  .cases(c.Distances.all λd=> !decide (64<(d.Cutoffs.length:Int)))<;>exact Qa _
theorem Qkc(c:Course)(w:CourseOk c)(q:PartsOk c)(k:FewOk c):Ev (λn=>F_au n c) (fitsS c):=by
 unfold F_au fitsS;refine Ev.bind (Qf λ_=>Qf λ_=>Qf λ_=>Qf λ_=>Qf λ_=>Qf λ_=>Qa _) ?_;cases(decide (40<(c.Mats.length:Int))||(decide (512<(c.Legs.length:Int))||(decide (8<(c.Distances.length:Int))||(decide (32<(c.Waves.length:Int))||(decide (32<(c.Offences.length:Int))||(decide (32<(c.Categories.length:Int))||decide (32<(c.Prizes.length:Int))))))))with
 |true=>exact Qa _
 |false=>
  rw[Xi,Bool.true_and];refine QN (Ev.bind (QA c.Distances (λd=> !decide (64<(d.Cutoffs.length:Int))) (Ctl.done false) (Ctl.cont ()) (by have:=w.dist;omega) (λi x b=>?_) ?_) ?_)
  .obtain⟨g,f,h⟩:=k.dist x b.mem;have a:=q.len x b.mem;have e:=q.wf x b.mem;unfold F_ik;simp only[b.lt,cond_true,b.ix,XQ,b.nx];refine Ev.bind (Qf λ_=>Ev.bind (Qdy _ x.Route 17 (X0 _) (X0 _) a e) (Qf λ_=>Ev.bind (Qdz _ x.Route (X0 _) a e) (Qa _))) ?_;simp only[QD (show¬(16:Int)<((min (hPs x.Route) 17:Nat):Int)by omega),QD (show¬(256:Int)<((min (szPs x.Route) 257:Nat):Int)by omega),Bool.or_false];cases decide (64<(x.Cutoffs.length:Int))<;>exact Qa _
  .unfold F_ik;simp only[Yc,cond_false];exact Qa _
  .cases(c.Distances.all λd=> !decide (64<(d.Cutoffs.length:Int)))<;>exact Qa _
def courseE(c:Course):Int:=
 bif fitsS c then bif namesS c then bif numbersS c then bif tiesE c.Ties==0 then bif c.Distances.all (routeS c)then 0 else 72 else tiesE c.Ties else 71 else 70 else 2
theorem QfT(c:Course)(w:CourseOk c)(q:PartsOk c)(k:FewOk c)(e:c.Ties.length<=1048576)(g:∀x∈c.Ties,Step.wf x):Ev (λn=>F_p n c) (courseE c):=by
 unfold F_p courseE;refine Ev.bind (Qnm c w q k) ?_;cases fitsS c with
 |false=>exact Qa _
 |true=>
 refine QN (Ev.bind (Ql2 c w) ?_);cases namesS c with
 |false=>exact Qa _
 |true=>
 refine QN (Ev.bind (Qip c w q) ?_);cases d:numbersS c with
 |false=>exact Qa _
 |true=>
 refine QN (Ev.bind (Qno c.Ties e g) ?_);rw[bne];cases(tiesE c.Ties==0)with
 |false=>exact Qa _
 |true=>
 have f:Ev (λn=>iter (F_ju n c) n ([],0)) (Yp legKey true c.Legs):=by
  refine Qbu c.Legs legKey true (by have:=w.legs;omega) (λi x m a=>?_) (λm=>?_)
  .unfold F_ju;simp only[a.lt,cond_true,a.ix,XQ,a.nx];exact Qa _
  .unfold F_ju;simp only[Yc,cond_false];exact Qa _
 refine QN (Ev.bind f ?_);have a:Ev (λn=>F_dp n c.Distances c (Yp legKey true c.Legs)) (c.Distances.all (routeS c)):=by
  unfold F_dp F_hz F_gm;refine Jg c.Distances _ (λn x=>F_ff n x c (Yp legKey true c.Legs)) (by have:=w.dist;omega) λx b=>?_;unfold F_ff;exact Ev.bind (Qir c w (QhY d) x b (q.wf x b) (by have:=(k.dist x b).2.1;omega)) (Qa _)
 refine Ev.bind a ?_;cases c.Distances.all (routeS c)<;>exact Qa _
theorem Qgu(c:Course)(w:CourseOk c)(q:PartsOk c)(k:FewOk c)(f:c.Ties.length<=1048576)(g:∀x∈c.Ties,Step.wf x):Ev (λn=>F_z n c) (courseE c):=by
 have a:=k.lens;unfold lensC at a;have d:Short c:=⟨by omega,by omega,by omega,by omega,by omega⟩;unfold F_z courseE;refine Ev.bind (Qkc c w q k) ?_;cases fitsS c with
 |false=>exact Qa _
 |true=>
 refine QN (Ev.bind (Qht c w d) ?_);cases namesS c with
 |false=>exact Qa _
 |true=>
 refine QN (Ev.bind (Qgs c w q) ?_);cases e:numbersS c with
 |false=>exact Qa _
 |true=>
 refine QN (Ev.bind (Qim c.Ties f g) ?_);rw[bne];cases(tiesE c.Ties==0)with
 |false=>exact Qa _
 |true=>
 refine QN (Ev.bind (QA c.Distances (routeS c) (Ctl.done 72) (Ctl.cont ()) (by have:=w.dist;omega) (λi x b=>?_) ?_) ?_)
 .unfold F_ml;simp only[b.lt,cond_true,b.ix,XQ,b.nx];refine Ev.bind (Qhr c w (QhY e) x b.mem (q.wf x b.mem) (by have:=(k.dist x b.mem).2.1;omega)) ?_;cases routeS c x<;>exact Qa _
 .unfold F_ml;simp only[Yc,cond_false];exact Qa _
 .cases c.Distances.all (routeS c)<;>exact Qa _
theorem Qfr{α:Type}{lt:α->α->Prop}(d:∀a b,lt a b->¬lt b a):∀{l m:List α},l.Pairwise lt->m.Pairwise lt->(∀x,x∈l↔x∈m)->l=m:=by
 intro l
 induction l with
 |nil=>
  intro m _ _ h;cases m with
  |nil=>rfl
  |cons y m=>exact absurd ((h y).2 (by simp)) (by simp)
 |cons x l p=>
  intro m r n h;cases m with
  |nil=>exact absurd ((h x).1 (by simp)) (by simp)
  |cons y m=>
   obtain⟨j,q⟩:=Xc.1 r;obtain⟨g,s⟩:=Xc.1 n;have i:x=y:=by
    rcases Ve.1 ((h x).1 (by simp))with e|e
    .exact e
    .rcases Ve.1 ((h y).2 (by simp))with k|k
     .exact k.symm
     .exact absurd (g x e) (d _ _ (j y k))
   subst i;rw[p q s λz=>?_];constructor
   .intro f;rcases Ve.1 ((h z).1 (by simp[f]))with e|e
    .subst e;exact absurd (j z f) (d _ _ (j z f))
    .exact e
   .intro f;rcases Ve.1 ((h z).2 (by simp[f]))with e|e
    .subst e;exact absurd (g z f) (d _ _ (g z f))
    .exact e
theorem QiY{α:Type}(l:List α){a b:Nat}(h:a<=b)(d:b<=l.length):slc l (a:Int) (b:Int)=some ((l.take b).drop a):=by
 unfold slc;rw[QJ (show(0:Int)<=(a:Int)by omega),QJ (show(a:Int)<=(b:Int)by omega),QJ (show(b:Int)<=(l.length:Int)by omega)];simp
theorem QnZ{α:Type}(l:List α){b:Nat}(a:b<=l.length):slc l 0 (b:Int)=some (l.take b):=by
 have:=QiY l (X2 b) a;simpa using this
theorem Qk6{α:Type}(l:List α){a:Nat}(b:a<=l.length):slc l (a:Int) (l.length:Int)=some (l.drop a):=by
 have:=QiY l b (X0 _);simpa using this
theorem QdW{α:Type}(l m:List α)(h:l.length+m.length<=4294967296):app l m=some (l++m):=by
 unfold app;rw[XZ (by unfold Q5;exact h)];rfl
theorem Qk5(l:List Int)(h:l.length<=4294967296):sortI l=some (Qa8 ltI l):=by
 unfold sortI;rw[XZ (by unfold Q5;exact h)];rfl
def firstI{α:Type}(q:α->Bool):List α->Nat->Int
 |[],_=> -1
 |x::l,i=>bif q x then(i:Int)else firstI q l (i+1)
theorem Ev.first{α:Type}{step:Nat->Int->Option (Ctl Int (Ctl Unit Int))}(l:List α)(q:α->Bool)(u:l.length<=4611686018427387904)
  (m:∀i x,At l i x->Ev (λn=>step n (i:Int)) (bif q x then .done (.done (i:Int))else .cont ((i+1:Nat):Int)))(p:Ev (λn=>step n (l.length:Int)) (.done (.cont ()))):
  Ev (λn=>(Go.Sw.iter (step n) n 0).bind λb=>match b with|.cont _=>some (-1)|.done v=>some v) (firstI q l 0):=by
 have loop:∀(r:List α) (i:Nat),l.drop i=r->i<=l.length->∃a:Ctl Unit Int,EvI step (i:Int) a/\(match a with|.cont _=>some (-1)|.done v=>some v)=some (firstI q r i):=by
  intro r
  induction r with
  |nil=>
   intro i g k;have:i=l.length:=by have:=Xt.1 g;omega
   subst this;exact⟨.cont (),EvI.done p,rfl⟩
  |cons x r t=>
   intro i g k;obtain⟨j,e⟩:=Qq u g;have s:=m i x j;unfold firstI;cases h:q x with
   |true=>
    rw[h]at s;exact⟨_,EvI.done s,rfl⟩
   |false=>
    rw[h]at s;obtain⟨a,d,f⟩:=t (i+1) e (by have:=j.lt';omega);exact⟨a,EvI.cont s d,f⟩
 obtain⟨a,d,f⟩:=loop l 0 rfl (X2 _);exact Ev.bind d.ev (Ev.const f)
theorem QbU{ι α:Type}{F:Nat->ι->Option α}{V:ι->α}:∀(L:List ι),(∀p∈L,Ev (λn=>F n p) (V p))->∃N,∀n,N<=n->∀p∈L,F n p=some (V p)
 |[],_=>⟨0,λ_ _ p hp=>by cases hp⟩
 |x::L,h=>by
  obtain⟨N,hN⟩:=QbU L λp hp=>h p (by simp[hp]);obtain⟨M,hM⟩:=h x (by simp);refine⟨N+M,λn hn p hp=>?_⟩;rcases Ve.1 hp with rfl|hp
  .exact hM n (by omega)
  .exact hN n (by omega) p hp
theorem Ev.anyP{E R:Type}[DecidableEq R]{k:Nat->List E->Option R}{l:List E}{r:R}(h:∀p,p.Perm l->Ev (λn=>k n p) r):Ev (λn=>Go.Sw.anyP (k n) l) r:=by
 obtain⟨N,b⟩:=QbU (F:=λn p=>k n p) (V:=λ_=>r) (QbL l) λp a=>h p (Qcd l p a);exact⟨N,λn d=>Qny λp a=>b n d p (Qc9 l p a)⟩
theorem Qkb:∀(k:Nat) (l:List Part),k<=17->szPs l<=256->(∀x∈l,Part.wf x)->∃s:Nat,s<=szPs l/\Ev (λn=>F_c n l (k:Int)) (((min (hPs l) k:Nat):Int),(s:Int)):=by
 intro k
 induction k using Nat.strongRecOn with
 |_ k Q=>
 intro l w q J;have u:=Y1 l;have loop:∀(r:List Part) (i a b:Nat),l.drop i=r->i<=l.length->a<=17->b+(szPs r-r.length)<=256->∃s:Nat,s<=b+(szPs r-r.length)/\EvI (λn=>F_am n l (k:Int) (F_c n)) ((a:Int),(b:Int),(i:Int)) (((max a (min (hPs r) k):Nat):Int),(s:Int)):=by
  intro r
  induction r with
  |nil=>
   intro i a b g y _ _;refine⟨b,by omega,EvI.done ?_⟩;unfold F_am;simp only[Q0 g y,cond_false,XQ];refine(Qa _).eq ?_;simp[hPs]
  |cons p r f=>
   intro i a b g y L j;obtain⟨d,e⟩:=Qq (by omega) g;obtain⟨T,H⟩:=Yh (J p d.mem);have z:=Jc d.mem;rw[YQ]at z;have E:=Y1 r;rw[szPs,YQ,X8]at j⊢;have step:∃t:Nat,t<=szPs p.Parts/\Ev (λn=>F_am n l (k:Int) (F_c n) ((a:Int),(b:Int),(i:Int))) (.cont (((max a (min (hP p) k):Nat):Int),((b+t:Nat):Int),((i+1:Nat):Int))):=by
    unfold F_am;simp only[d.lt,cond_true,d.ix,XQ,d.nx,QaD];rw[QlJ];cases R:p.Parts.isEmpty with
    |true=>
     refine⟨0,X2 _,?_⟩;simp only[cond_true,XQ,Nat.zero_min,Nat.max_zero,XC];exact Qa _
    |false=>
     simp only[cond_false];by_cases m:k=0
     .subst m;refine⟨0,X2 _,?_⟩;simp only[Nat.min_zero,Nat.max_zero,XC];exact Qa _
     .obtain⟨t,B,h⟩:=Q (k-1) (by omega) p.Parts (by omega) (by omega) H;refine⟨t,B,?_⟩;have O:IntKind.i64.wrap ((k:Int)-1)=((k-1:Nat):Int):=by rw[QQ (by omega) (by omega)];omega
      have N:((k:Int)==0)=false:=beq_false_of_ne (by omega);rw[N,QD (show¬(256:Int)<(b:Int)by omega),O];simp only[cond_false,XQ];refine Ev.bind (Ev.bind h (Qa _)) ((Qa _).eq ?_);have M:IntKind.i64.wrap (((min (hPs p.Parts) (k-1):Nat):Int)+1)=((min (hPs p.Parts) (k-1)+1:Nat):Int):=YP (by omega);have F:IntKind.i64.wrap ((b:Int)+(t:Int))=((b+t:Nat):Int):=by rw[QQ (by omega) (by omega)];omega
      simp only[M,F];congr 2;split<;>omega
   obtain⟨t,B,h⟩:=step;obtain⟨s,P,G⟩:=f (i+1) (max a (min (hP p) k)) (b+t) e (by have:=d.lt';omega) (by omega) (by omega);refine⟨s,by omega,(EvI.cont h G).eq ?_⟩;rw[hPs];congr 1;omega
 obtain⟨s,z,p⟩:=loop l 0 0 l.length rfl (X2 _) (by omega) (by omega);refine⟨s,by omega,Yb ?_⟩;show Ev (λn=>B_c (F_c n) n l (k:Int)) _;unfold B_c;refine Ev.bind p.ev ((Qa _).eq ?_);rw[Nat.zero_max]
structure FewL (c:Course):Prop where
 lens:lensC c<=200
 name:c.Name.length<=100
 dist:∀d∈c.Distances,d.Cutoffs.length<=12/\szPs d.Route<=24
 ties:c.Ties.length<=200
def fitsG(c:Course):Bool:=
 !(decide (40<(c.Mats.length:Int))||(decide (512<(c.Legs.length:Int))||(decide (8<(c.Distances.length:Int))||(decide (32<(c.Waves.length:Int))||(decide (32<(c.Offences.length:Int))||(decide (32<(c.Categories.length:Int))||decide (32<(c.Prizes.length:Int))))))))
  &&c.Distances.all λd=> !(decide (64<(d.Cutoffs.length:Int))||decide (16<hPs d.Route))
theorem Qhz(c:Course)(w:CourseOk c)(q:PartsOk c)(k:FewL c):Ev (λn=>F_bo n c) (fitsG c):=by
 unfold F_bo fitsG;refine Ev.bind (Qf λ_=>Qf λ_=>Qf λ_=>Qf λ_=>Qf λ_=>Qf λ_=>Qa _) ?_;cases(decide (40<(c.Mats.length:Int))||(decide (512<(c.Legs.length:Int))||(decide (8<(c.Distances.length:Int))||(decide (32<(c.Waves.length:Int))||(decide (32<(c.Offences.length:Int))||(decide (32<(c.Categories.length:Int))||decide (32<(c.Prizes.length:Int))))))))with
 |true=>exact Qa _
 |false=>
  rw[Xi,Bool.true_and];refine QN (Ev.bind (QA c.Distances (λd=> !(decide (64<(d.Cutoffs.length:Int))||decide (16<hPs d.Route))) (Ctl.done false) (Ctl.cont ()) (by have:=w.dist;omega) (λi x a=>?_) ?_) ?_)
  .obtain⟨b,f⟩:=k.dist x a.mem;unfold F_gn;simp only[a.lt,cond_true,a.ix,XQ,a.nx];obtain⟨s,g,p⟩:=Qkb 17 x.Route (X0 _) (by omega) (q.wf x a.mem);refine Ev.bind p ?_;refine Ev.bind (Qf λ_=>Qf λ_=>Qa _) ?_;simp only[QD (show¬(256:Int)<(s:Int)by omega),Bool.or_false];have e:decide ((16:Int)<((min (hPs x.Route) 17:Nat):Int))=decide (16<hPs x.Route):=by
    rw[decide_eq_decide];omega
   rw[e];cases(decide (64<(x.Cutoffs.length:Int))||decide (16<hPs x.Route))<;>exact Qa _
  .unfold F_gn;simp only[Yc,cond_false];exact Qa _
  .cases c.Distances.all (λd=> !(decide (64<(d.Cutoffs.length:Int))||decide (16<hPs d.Route)))<;>exact Qa _
theorem Qh8:∀(k:Nat) (l:List Part),k<=21->l.length<=1048576->(∀x∈l,Part.wf x)->∃v:Nat,v<=1048576+500*(k+1)/\(v<500->szPs l<=v)/\Ev (λn=>F_o n l ((21-k:Nat):Int)) (v:Int):=by
 intro k
 induction k with
 |zero=>
  intro l _ s w;refine⟨500,by omega,by omega,Yb ?_⟩;show Ev (λn=>B_o (F_o n) n l ((21-0:Nat):Int)) _;unfold B_o;exact Qa _
 |succ k L=>
  intro l N s w;have loop:∀(r:List Part) (i a:Nat),l.drop i=r->i<=l.length->a<=1048576+500*(k+1+1)->∃v:Nat,v<=1048576+500*(k+1+1)/\a<=v/\(v<500->a+(szPs r-r.length)<=v)/\EvI (λn=>F_hl n l ((21-(k+1):Nat):Int) (F_o n)) ((a:Int),(i:Int)) (v:Int):=by
   intro r
   induction r with
   |nil=>
    intro i a g t h;refine⟨a,h,X0 _,λ_=>by simp[szPs],EvI.done ?_⟩;unfold F_hl;simp only[Q0 g t,cond_false,XQ];exact Qa _
   |cons p r f=>
    intro i a g t h;obtain⟨b,e⟩:=Qq (by omega) g;obtain⟨E,F⟩:=Yh (w p b.mem);by_cases G:a<500
    .obtain⟨u,M,y,B⟩:=L p.Parts (by omega) E F;have J:IntKind.i64.wrap (((21-(k+1):Nat):Int)+1)=((21-k:Nat):Int):=by rw[QQ (by omega) (by omega)];omega
     have H:IntKind.i64.wrap ((a:Int)+(u:Int))=((a+u:Nat):Int):=by rw[QQ (by omega) (by omega)];omega
     obtain⟨v,j,z,q,m⟩:=f (i+1) (a+u) e (by have:=b.lt';omega) (by omega);refine⟨v,j,by omega,λd=>?_,EvI.cont ?_ m⟩
     .have:=q d;have:=y (by omega);have:=Y1 r;rw[szPs,YQ,X8];omega
     .unfold F_hl;simp only[b.lt,cond_true,b.ix,XQ,b.nx,QJ (show(a:Int)<500 by omega),J];refine Ev.bind B ?_;rw[H];exact Qa _
    .refine⟨a,h,X0 _,λd=>absurd d G,EvI.done ?_⟩;unfold F_hl;simp only[b.lt,cond_true,XQ,QD (show¬(a:Int)<500 by omega),cond_false];exact Qa _
  obtain⟨v,j,z,q,m⟩:=loop l 0 l.length rfl (X2 _) (X3 s (Nat.le_add_right _ _));have:=Y1 l;refine⟨v,j,λd=>by have:=q d;omega,Yb ?_⟩;show Ev (λn=>B_o (F_o n) n l ((21-(k+1):Nat):Int)) _;unfold B_o;rw[QD (show¬(20:Int)<((21-(k+1):Nat):Int)by omega)];exact QN (Ev.bind m.ev (Qa _))
theorem QhN:∀(k:Nat) (l:List Cond),k<=21->l.length<=1048576->(∀x∈l,Cond.wf x)->∃v:Nat,v<=1048576+500*(k+1)/\Ev (λn=>F_m n l ((21-k:Nat):Int)) (v:Int):=by
 intro k
 induction k with
 |zero=>
  intro l _ s t;refine⟨500,by omega,Yb ?_⟩;show Ev (λn=>B_m (F_m n) n l ((21-0:Nat):Int)) _;unfold B_m;exact Qa _
 |succ k y=>
  intro l E s t;have loop:∀(r:List Cond) (i a:Nat),l.drop i=r->i<=l.length->a<=1048576+500*(k+1+1)->∃v:Nat,v<=1048576+500*(k+1+1)/\EvI (λn=>F_hj n l ((21-(k+1):Nat):Int) (F_m n)) ((a:Int),(i:Int)) (v:Int):=by
   intro r
   induction r with
   |nil=>
    intro i a h q j;refine⟨a,j,EvI.done ?_⟩;unfold F_hj;simp only[Q0 h q,cond_false,XQ];exact Qa _
   |cons p r g=>
    intro i a h q j;obtain⟨b,f⟩:=Qq (by omega) h;have d:=YX (t p b.mem);by_cases G:a<500
    .obtain⟨u,F,z⟩:=y p.Parts (by omega) d.1 d.2;have w:IntKind.i64.wrap (((21-(k+1):Nat):Int)+1)=((21-k:Nat):Int):=by rw[QQ (by omega) (by omega)];omega
     have B:IntKind.i64.wrap ((a:Int)+(u:Int))=((a+u:Nat):Int):=by rw[QQ (by omega) (by omega)];omega
     obtain⟨v,m,e⟩:=g (i+1) (a+u) f (by have:=b.lt';omega) (by omega);refine⟨v,m,EvI.cont ?_ e⟩;unfold F_hj;simp only[b.lt,cond_true,b.ix,XQ,b.nx,QJ (show(a:Int)<500 by omega),w];refine Ev.bind z ?_;rw[B];exact Qa _
    .refine⟨a,j,EvI.done ?_⟩;unfold F_hj;simp only[b.lt,cond_true,XQ,QD (show¬(a:Int)<500 by omega),cond_false];exact Qa _
  obtain⟨v,m,e⟩:=loop l 0 l.length rfl (X2 _) (X3 s (Nat.le_add_right _ _));refine⟨v,m,Yb ?_⟩;show Ev (λn=>B_m (F_m n) n l ((21-(k+1):Nat):Int)) _;unfold B_m;rw[QD (show¬(20:Int)<((21-(k+1):Nat):Int)by omega)];exact QN (Ev.bind e.ev (Qa _))
def Cs:Nat->Nat
 |0=>500
 |k+1=>4194304+2*Cs k
theorem QnX:∀k,k<22->Cs k<=1125899906842624:=by decide
theorem QgR:∀(k:Nat) (l:List Step),k<=21->l.length<=1048576->(∀x∈l,Step.wf x)->∃v:Nat,v<=Cs k/\(v<500->l.length<=v)/\Ev (λn=>F_k n l ((21-k:Nat):Int)) (v:Int):=by
 intro k
 induction k with
 |zero=>
  intro l _ F s;refine⟨500,X0 _,by omega,Yb ?_⟩;show Ev (λn=>B_k (F_k n) n l ((21-0:Nat):Int)) _;unfold B_k;exact Qa _
 |succ k z=>
  intro l T F s;have B:=QnX k (by omega);have E:=QnX (k+1) (by omega);have H:Cs (k+1)=4194304+2*Cs k:=rfl;have loop:∀(r:List Step) (i a:Nat),l.drop i=r->i<=l.length->a<=Cs (k+1)->∃v:Nat,v<=Cs (k+1)/\a<=v/\EvI (λn=>F_fw n l ((21-(k+1):Nat):Int) (F_k n)) ((a:Int),(i:Int)) (v:Int):=by
   intro r
   induction r with
   |nil=>
    intro i a f m g;refine⟨a,g,X0 _,EvI.done ?_⟩;unfold F_fw;simp only[Q0 f m,cond_false,XQ];exact Qa _
   |cons p r e=>
    intro i a f m g;obtain⟨b,d⟩:=Qq (by omega) f;obtain⟨G,w,t⟩:=YW (s p b.mem);by_cases W:a<500
    .obtain⟨u,R,L⟩:=QhN 21 [p.Cond] (X0 _) (by simp) (by simpa using G);obtain⟨x,V,_,N⟩:=z p.Then (by omega) w.1 w.2;obtain⟨y,y1,_,M⟩:=z p.Else (by omega) t.1 t.2;have Q:IntKind.i64.wrap (((21-(k+1):Nat):Int)+1)=((21-k:Nat):Int):=by rw[QQ (by omega) (by omega)];omega
     have P:IntKind.i64.wrap ((a:Int)+(u:Int))=((a+u:Nat):Int):=by rw[QQ (by omega) (by omega)];omega
     have O:IntKind.i64.wrap (((a+u:Nat):Int)+(x:Int))=((a+u+x:Nat):Int):=by rw[QQ (by omega) (by omega)];omega
     have J:IntKind.i64.wrap (((a+u+x:Nat):Int)+(y:Int))=((a+u+x+y:Nat):Int):=by rw[QQ (by omega) (by omega)];omega
     obtain⟨v,h,q,j⟩:=e (i+1) (a+u+x+y) d (by have:=b.lt';omega) (by omega);refine⟨v,h,by omega,EvI.cont ?_ j⟩;unfold F_fw;simp only[b.lt,cond_true,b.ix,XQ,b.nx,QJ (show(a:Int)<500 by omega),Q];refine Ev.bind L (Ev.bind N (Ev.bind M ?_));rw[P,O,J];exact Qa _
    .refine⟨a,g,X0 _,EvI.done ?_⟩;unfold F_fw;simp only[b.lt,cond_true,XQ,QD (show¬(a:Int)<500 by omega),cond_false];exact Qa _
  obtain⟨v,h,q,j⟩:=loop l 0 l.length rfl (X2 _) (by omega);refine⟨v,h,λ_=>q,Yb ?_⟩;show Ev (λn=>B_k (F_k n) n l ((21-(k+1):Nat):Int)) _;unfold B_k;rw[QD (show¬(20:Int)<((21-(k+1):Nat):Int)by omega)];exact QN (Ev.bind j.ev (Qa _))
theorem QjZ(c:Course)(w:CourseOk c)(q:PartsOk c)(H:c.Ties.length<=1048576)(J:∀x∈c.Ties,Step.wf x):∃b,Ev (λn=>F_an n c) b/\(b=true->FewL c):=by
 have N:=w.dist;have T:=w.mats;have loop:∀(r:List Distance) (i:Nat),c.Distances.drop i=r->i<=c.Distances.length->∃a:Ctl Unit Bool,EvI (λn=>F_ix n c) (i:Int) a/\(a=.done false\/(a=.cont ()/\ ∀d∈r,d.Cutoffs.length<=12/\szPs d.Route<=24)):=by
  intro r
  induction r with
  |nil=>
   intro i t B;refine⟨.cont (),EvI.done ?_,.inr ⟨rfl,λd h=>by cases h⟩⟩;unfold F_ix;simp only[Q0 t B,cond_false];exact Qa _
  |cons d r l=>
   intro i t B;obtain⟨e,k⟩:=Qq (by omega) t;obtain⟨v,L,p,u⟩:=Qh8 21 d.Route (X0 _) (q.len d e.mem) (q.wf d e.mem);have step:Ev (λn=>F_ix n c (i:Int)) (bif (decide ((24:Int)<(v:Int))||(decide (12<(d.Cutoffs.length:Int))||decide (60<(d.Name.length:Int))))then .done (.done false)else .cont ((i+1:Nat):Int)):=by
    unfold F_ix;simp only[e.lt,cond_true,e.ix,XQ,e.nx];refine Ev.bind (v:=decide ((24:Int)<(v:Int))||(decide (12<(d.Cutoffs.length:Int))||decide (60<(d.Name.length:Int)))) (Ev.bind u (Qf λ_=>Qf λ_=>Qa _)) ?_;cases(decide ((24:Int)<(v:Int))||(decide (12<(d.Cutoffs.length:Int))||decide (60<(d.Name.length:Int))))<;>exact Qa _
   cases f:(decide ((24:Int)<(v:Int))||(decide (12<(d.Cutoffs.length:Int))||decide (60<(d.Name.length:Int))))with
   |true=>
    rw[f]at step;exact⟨.done false,EvI.done step,.inl rfl⟩
   |false=>
    rw[f]at step;obtain⟨a,j,g⟩:=l (i+1) k (by have:=e.lt';omega);refine⟨a,EvI.cont step j,?_⟩;rcases g with g|⟨g,y⟩
    .exact .inl g
    .refine .inr ⟨g,λx z=>?_⟩;rcases Ve.1 z with rfl|z
     .simp only[X5,decide_eq_false_iff_not]at f;have:=p (by omega);exact⟨by omega,by omega⟩
     .exact y x z
 obtain⟨a,j,g⟩:=loop c.Distances 0 rfl (X2 _);rcases g with rfl|⟨rfl,y⟩
 .refine⟨false,?_,λh=>by cases h⟩;unfold F_an;exact Ev.bind j.ev (Qa _)
 .have G:∃a:Ctl Unit Bool,Ev (λn=>iter (F_kd n c) n (0:Int)) a/\(a=.done false\/a=.cont ()):=by
   refine⟨_,QA c.Mats (λm=> !decide (60<(m.Name.length:Int))) (Ctl.done false) (Ctl.cont ()) (by omega) (λi x e=>?_) ?_,?_⟩
   .unfold F_kd;simp only[e.lt,cond_true,e.ix,XQ,e.nx];cases decide (60<(x.Name.length:Int))<;>exact Qa _
   .unfold F_kd;simp only[Yc,cond_false];exact Qa _
   .cases c.Mats.all (λm=> !decide (60<(m.Name.length:Int)))with
    |true=>exact .inr rfl
    |false=>exact .inl rfl
  obtain⟨E,s,F⟩:=G;rcases F with rfl|rfl
  .refine⟨false,?_,λh=>by cases h⟩;unfold F_an;exact Ev.bind j.ev (Ev.bind s (Qa _))
  .obtain⟨v,L,p,u⟩:=QgR 21 c.Ties (X0 _) H J;cases f:(decide (12<(c.Mats.length:Int))||(decide (30<(c.Legs.length:Int))||(decide (4<(c.Distances.length:Int))||(decide (6<(c.Waves.length:Int))||(decide (6<(c.Offences.length:Int))||(decide (6<(c.Categories.length:Int))||(decide (6<(c.Prizes.length:Int))||decide (60<(c.Name.length:Int)))))))))with
   |true=>
    refine⟨false,?_,λh=>by cases h⟩;unfold F_an;refine Ev.bind j.ev (Ev.bind s (Ev.bind (v:=true) (Ev.eq (Qf λ_=>Qf λ_=>Qf λ_=>Qf λ_=>Qf λ_=>Qf λ_=>Qf λ_=>Qa _) f) (Qa _)))
   |false=>
    refine⟨decide ((v:Int)<=100),?_,λh=>?_⟩
    .unfold F_an;refine Ev.bind j.ev (Ev.bind s (Ev.bind (v:=false) (Ev.eq (Qf λ_=>Qf λ_=>Qf λ_=>Qf λ_=>Qf λ_=>Qf λ_=>Qf λ_=>Qa _) f) (Ev.bind u (Qa _))))
    .have h:=of_decide_eq_true h;have:=p (by omega);simp only[X5,decide_eq_false_iff_not]at f;obtain⟨Q,R,V,W,X,O,M,P⟩:=f;exact⟨by unfold lensC;omega,by omega,y,by omega⟩
set_option maxRecDepth 4000
def cmpI(a b:Int):Int:=bif decide (a<b)then-1 else bif decide (b<a)then 1 else 0
theorem Qnn(n:Nat)(a b:Int):F_j n a b=some (cmpI a b):=by
 unfold F_j F_bt cmpI;simp only[XQ,bne_self_eq_false,cond_false];cases decide (a<b)with
 |true=>rfl
 |false=>cases decide (b<a)<;>rfl
def orL:List Int->Int
 |[]=>0
 |x::r=>bif x != 0 then x else orL r
theorem ev_or(l:List Int)(k:l.length<=1000):Ev (λn=>F_ag n l) (orL l):=by
 unfold F_ag;have loop:∀(r:List Int) (i:Nat),l.drop i=r->i<=l.length->EvI (λn=>F_gy n l) (i:Int) (bif orL r==0 then Ctl.cont ()else Ctl.done (orL r)):=by
  intro r
  induction r with
  |nil=>
   intro i d f;refine EvI.done ?_;unfold F_gy;simp only[Q0 d f,cond_false];exact Qa _
  |cons x r g=>
   intro i d f;obtain⟨a,b⟩:=Qq (by omega) d;have j:=a.lt';unfold orL;cases q:(x != 0)with
   |true=>
    have e:(x==0)=false:=by simpa[bne]using q
    simp only[cond_true,e,cond_false];refine EvI.done ?_;unfold F_gy;simp only[a.lt,cond_true,a.ix,XQ,q];exact Qa _
   |false=>
    simp only[cond_false];refine EvI.cont ?_ (g (i+1) b (by omega));unfold F_gy;simp only[a.lt,cond_true,a.ix,XQ,q,cond_false,a.nx];exact Qa _
 refine Ev.bind (loop l 0 rfl (X2 _)).ev ?_;cases h:(orL l==0)with
 |true=>
  have e:orL l=0:=by simpa using h
  rw[e];exact Qa _
 |false=>exact Qa _
theorem QlA{β:Type}(m:List (Int×β))(k:Int):Qfl m k=(YN m k).isSome:=by
 unfold Qfl YN;rw[Option.isSome_map]
 induction m with
 |nil=>rfl
 |cons p m a=>
  rw[List.any_cons,List.find?_cons,a];cases decide (p.1=k)<;>rfl
theorem Qen{β:Type}(m:List (Int×β))(k:Int):k∈m.map Prod.fst↔ ∃v,YN m k=some v:=by
 have h:=QlA m k;rw[<- Option.isSome_iff_exists, <- h];unfold Qfl;simp only[Xx,decide_eq_true_eq,Xf]
theorem Qg7{β:Type}(m:List (Int×β))(k:Int)(v:β):(Q7 m k v).length<=m.length+1:=by
 have:=congrArg List.length (Qdb m k v);rw[X9]at this;rw[this];split<;>simp
theorem Qek{β:Type}{m:List (Int×β)}(k:Int)(v:β)(h:(m.map Prod.fst).Nodup):((Q7 m k v).map Prod.fst).Nodup:=by
 have e:=Qdb m k v;have f:(Q7 m k v).map Prod.fst=if k∈m.map Prod.fst then m.map Prod.fst else m.map Prod.fst++[k]:=e
 rw[f];split
 .exact h
 .rename_i g;rw[List.nodup_append];refine⟨h,by simp,λa i b d=>?_⟩;rw[List.mem_singleton]at d;rintro rfl;exact g (d▸i)
theorem QjW{l m:List Int}(h:l.Perm m):Qa8 ltI l=Qa8 ltI m:=
 Qbj ((Yd ltI l).trans (h.trans (Yd ltI m).symm)) (λx _ y _ a b=>by simp[ltI]at*;omega) (Y8 (QdR l)) (Y8 (QdR m))
theorem Qnb{n:Nat}(h:n<=1048576):Nat.ble n Q5=true:=XZ (X3 h (by decide))
theorem Qnt{a b:Int}:cmpI a b<0↔a<b:=by
 unfold cmpI;by_cases h:a<b
 .rw[decide_eq_true h];simp[h]
 .rw[decide_eq_false h];by_cases d:b<a
  .rw[decide_eq_true d];simp;omega
  .rw[decide_eq_false d];simp;omega
theorem QoR{a b:Int}:cmpI a b=0↔a=b:=by
 unfold cmpI;by_cases h:a<b
 .rw[decide_eq_true h];simp;omega
 .rw[decide_eq_false h];by_cases d:b<a
  .rw[decide_eq_true d];simp;omega
  .rw[decide_eq_false d];simp;omega
set_option maxRecDepth 4000
section
variable {α:Type}{c d:α->α->Int}
end
theorem Qh5{c:Course}(h:Course.wf c):CourseOk c:=by
 obtain⟨f,⟨m,j⟩,⟨n,r⟩,⟨g,b⟩,⟨q,l⟩,⟨e,k⟩,⟨d,i⟩,⟨p,s⟩,_⟩:=h;exact⟨f,m,λx a=>(j x a).1,n,g,λx a=>(b x a).1,λx a=>(b x a).2.2.2.1.1,q,λx a=>(l x a).1,e,λx a=>(k x a).1,d,λx a=>(i x a).1,p⟩
theorem QiM{c:Course}(h:Course.wf c):PartsOk c:=by
 obtain⟨_,_,_,⟨e,b⟩,_⟩:=h;exact⟨λd a=>(b d a).2.1.1,λd a=>(b d a).2.1.2⟩
theorem QmX{c:Course}(h:Course.wf c):c.Ties.length<=1048576/\ ∀x∈c.Ties,Step.wf x:=by
 obtain⟨_,_,_,_,_,_,_,_,a,_⟩:=h;exact a
def EvL{S T B:Type}(step:Nat->S->Option (List T×Ctl S B))(s:S)(r:List T×B):Prop:=∃N,∀n k,N<=n->N<=k->Qbz (step n) k s=some r
theorem EvL.done{S T B:Type}{step:Nat->S->Option (List T×Ctl S B)}{s:S}{z:List T}{b:B}(h:Ev (λn=>step n s) (z,.done b)):EvL step s (z,b):=by
 obtain⟨N,h⟩:=h;refine⟨N+1,λn k a d=>?_⟩;obtain⟨j,rfl⟩:∃j,k=j+1:=⟨k-1,by omega⟩;simp only[Qbz,h n (by omega),XQ]
theorem EvL.cont{S T B:Type}{step:Nat->S->Option (List T×Ctl S B)}{s d:S}{z a:List T}{b:B}(h:Ev (λn=>step n s) (z,.cont d))(q:EvL step d (a,b)):EvL step s (z++a,b):=by
 obtain⟨N,h⟩:=h;obtain⟨M,q⟩:=q;refine⟨max N M+1,λn k e f=>?_⟩;obtain⟨j,rfl⟩:∃j,k=j+1:=⟨k-1,by omega⟩;simp only[Qbz,h n (by omega),XQ,q n j (by omega) (by omega)]
theorem EvL.ev{S T B:Type}{step:Nat->S->Option (List T×Ctl S B)}{s:S}{r:List T×B}(h:EvL step s r):Ev (λn=>Qbz (step n) n s) r:=by
 obtain⟨N,h⟩:=h;exact⟨N,λn a=>h n n a a⟩
theorem EvL.eq{S T B:Type}{step:Nat->S->Option (List T×Ctl S B)}{s:S}{r r':List T×B}(h:EvL step s r)(e:r=r'):EvL step s r':=e▸h
theorem QaA(p:Nat->Bool):∀k,(∀i,i<k->p i=true)\/ ∃j,j<k/\p j=false/\ ∀i,i<j->p i=true
 |0=>.inl λi h=>absurd h (Xn _)
 |k+1=>by
  rcases QaA p k with h|⟨j,h1,h2,h3⟩
  .cases q:p k with
   |true=>exact .inl λi hi=>(Xp.1 hi).elim (h i) λe=>e▸q
   |false=>exact .inr ⟨k,Xo _,q,h⟩
  .exact .inr ⟨j,by omega,h2,h3⟩
theorem QjN{p:Nat->Bool}{k:Nat}:(List.range k).all p=true↔ ∀i,i<k->p i=true:=by simp[Xw]
theorem YZ{B:Type}{step:Nat->Int->Option (Ctl Int B)}(k:Nat)(p:Nat->Bool)(g b:B)
  (e:∀i,i<k->Ev (λn=>step n (i:Int)) (bif p i then .cont ((i+1:Nat):Int)else .done g))(m:Ev (λn=>step n (k:Int)) (.done b)):
  Ev (λn=>Go.Sw.iter (step n) n 0) (bif (List.range k).all p then b else g):=by
 rcases QaA p k with h|⟨j,f,d,l⟩
 .rw[QjN.2 h];exact Ev.iter (λi=>(i:Int)) k rfl (λi a=>(e i a).eq (by rw[h i a];rfl)) m
 .have:(List.range k).all p=false:=by
   rw[Bool.eq_false_iff];intro q;rw[QjN.1 q j f]at d;cases d
  rw[this];exact Ev.iter (λi=>(i:Int)) j rfl (λi a=>(e i (by omega)).eq (by rw[l i a];rfl)) ((e j f).eq (by rw[d];rfl))
theorem atN{α:Type}{l:List α}{i:Nat}(hl:l.length<=1048576)(hi:i<l.length):At l i l[i]:=Jw (by omega) (XR hi)
theorem Ye{n:Nat}(h:n<=1048576):IntKind.i64.wrap ((n:Int)+1)=((n+1:Nat):Int):=YP (by omega)
def segLt(x y:Segment):Bool:=decide (x.Mat<y.Mat)||((x.Mat==y.Mat)&&decide (x.Epoch<y.Epoch))
def cmpSeg(x y:Segment):Int:=orL [cmpI x.Mat y.Mat,cmpI x.Epoch y.Epoch]
theorem Qkj(x y:Segment):decide (0<=cmpSeg x y)= !segLt x y:=by
 unfold cmpSeg segLt orL orL orL cmpI;by_cases a:x.Mat<y.Mat
 .simp[a]
 .by_cases b:y.Mat<x.Mat
  .have:¬x.Mat=y.Mat:=by omega
   simp[a,b,this]
  .have:x.Mat=y.Mat:=by omega
   by_cases d:x.Epoch<y.Epoch
   .simp[a,b,this,d]
   .by_cases e:y.Epoch<x.Epoch
    .simp[a,b,this,d,e]
    .simp[a,b,this,d,e]
theorem Qgx(a b:Int):Ev (λn=>F_j n a b) (cmpI a b):=Qfh (Qa _) λn=>Qnn n a b
theorem Qho(x y:Segment):Ev (λn=>F_by n x y) (cmpSeg x y):=by
 unfold F_by F_ft;exact Ev.bind (Ev.bind (Qgx _ _) (Ev.bind (Qgx _ _) (Ev.bind (ev_or _ (by simp)) (Qa _)))) (Qa _)
def timeB(x:Int):Bool:=inR (-1099511627776) 1099511627776 x
theorem Qj5(x:Int):Ev (λn=>F_bz n x) (timeB x):=by
 unfold F_bz timeB inR;exact Ev.bind (Ev.and λ_=>Qa _) (Qa _)
def prevSeg(c:Clocks)(i:Nat)(x:Segment):Bool:=decide (0<(i:Int))&& !(match c.Segments[i-1]? with|some y=>segLt y x|none=>true)
def segBad(c:Clocks)(i:Nat)(x:Segment):Bool:=decide (x.Mat<0)||(decide (40<=x.Mat)||(decide (x.Epoch<0)||(decide (255<x.Epoch)||(!timeB x.Anchor||prevSeg c i x))))
def segsB(c:Clocks):Bool:=(List.range c.Segments.length).all λi=>match c.Segments[i]? with|some x=> !segBad c i x|none=>true
theorem Qew{α:Type}{l:List α}{i:Nat}{y:α}(b:l.length<=1048576)(hi:0<i)(a:i<=l.length)(h:l[i-1]?=some y):idx l (IntKind.i64.wrap ((i:Int)-1))=some y:=by
 rw[QQ (by omega) (by omega),show((i:Int)-1)=((i-1:Nat):Int)by omega];exact Qo h
theorem Qng(c:Clocks)(g:c.Segments.length<=1048576):Ev (λn=>iter (F_lc n c) n 0) (bif segsB c then Ctl.cont ()else Ctl.done 160):=by
 unfold segsB;refine YZ c.Segments.length _ _ _ (λi j=>?_) ?_
 .have a:=atN g j;unfold F_lc;simp only[a.lt,cond_true,a.ix,XQ,a.nx,a.get];have:Ev (λn=>((bif decide ((c.Segments[i]).Mat<0)then some true else(bif decide (40<=(c.Segments[i]).Mat)then some true else(bif decide ((c.Segments[i]).Epoch<0)then some true else(bif decide (255<(c.Segments[i]).Epoch)then some true else(F_bz n (c.Segments[i]).Anchor).bind λb=>(bif (!b)then some true else(bif decide (0<(i:Int))then(idx c.Segments (IntKind.i64.wrap ((i:Int)-1))).bind λd=>(F_by n d (c.Segments[i])).bind λe=>some (decide (0<=e))else some false)))))):Option Bool)) (segBad c i (c.Segments[i])):=by
   unfold segBad;refine Qf λ_=>Qf λ_=>Qf λ_=>Qf λ_=>Ev.bind (Qj5 _) (Qf λ_=>?_);unfold prevSeg;refine Ev.and λh=>?_;have k:0<i:=by have:=of_decide_eq_true h;omega
   have f:i-1<c.Segments.length:=by omega
   rw[Qew g k (by omega) (XR f),XR f];simp only[XQ];exact Ev.bind (Qho _ _) ((Qa _).eq (Qkj _ _))
  refine Ev.bind this ?_;cases segBad c i (c.Segments[i])<;>exact Qa _
 .unfold F_lc;simp only[Yc,cond_false];exact Qa _
def farBad(x:Int):Bool:=decide (x< -2199023255552)||decide (2199023255552<x)
theorem Qj7(l:List Int)(a:l.length<=1048576):Ev (λn=>F_bu n l) (l.any farBad):=by
 unfold F_bu F_gb;refine Ev.contains l farBad (λn x=>F_bw n x) (by omega) λx _=>?_;unfold F_bw farBad;exact Ev.bind (Qf λ_=>Qa _) (Qa _)
def rowB(c:Clocks)(i:Nat)(r:List Int):Bool:= !(((r.length:Int) != ((c.Segments.length+1:Nat):Int))||((r[i]?.getD 1 != 0)||r.any farBad))
def rowsB(c:Clocks):Bool:=(List.range c.Far.length).all λi=>match c.Far[i]? with|some r=>rowB c i r|none=>true
theorem Qnj(c:Clocks)(h0:c.Segments.length<=1048576)(j:c.Far.length<=1048576)(k:∀r∈c.Far,r.length<=1048576)(l:c.Far.length=c.Segments.length+1):
  Ev (λn=>iter (F_jb n c) n 0) (bif rowsB c then Ctl.cont ()else Ctl.done 160):=by
 unfold rowsB;refine YZ c.Far.length _ _ _ (λi g=>?_) ?_
 .have d:=atN j g;unfold F_jb;simp only[d.lt,cond_true,d.ix,XQ,d.nx,d.get,Ye h0];have:Ev (λn=>((bif (((c.Far[i]).length:Int) != ((c.Segments.length+1:Nat):Int))then some true else(idx (c.Far[i]) (i:Int)).bind λa=>(bif (a != 0)then some true else(F_bu n (c.Far[i])).bind λe=>some e)):Option Bool)) (!rowB c i (c.Far[i])):=by
   unfold rowB;rw[Bool.not_not];refine Qf λh=>?_;have f:(c.Far[i]).length=c.Segments.length+1:=by
    have:((c.Far[i]).length:Int)=((c.Segments.length+1:Nat):Int):=by simpa[bne]using h
    omega
   have b:i<(c.Far[i]).length:=by omega
   rw[Qo (XR b),XR b];simp only[XQ,Option.getD_some];exact Qf λ_=>Ev.bind (Qj7 _ (k _ d.mem)) (Qa _)
  refine Ev.bind this ?_;cases rowB c i (c.Far[i])<;>exact Qa _
 .unfold F_jb;simp only[Yc,cond_false];exact Qa _
def farG(c:Clocks)(i j:Nat):Int:=((c.Far[i]?.getD [])[j]?).getD 0
structure Dims (c:Clocks):Prop where
 segs:c.Segments.length<=511
 far:c.Far.length=c.Segments.length+1
 row:∀i,i<c.Far.length->(c.Far[i]?.getD []).length=c.Segments.length+1
theorem Dims.get{c:Clocks}(d:Dims c){i j:Nat}(hi:i<c.Segments.length+1)(e:j<c.Segments.length+1):c.Far[i]?=some (c.Far[i]?.getD [])/\(c.Far[i]?.getD [])[j]?=some (farG c i j):=by
 have a:i<c.Far.length:=by rw[d.far];exact hi
 have b:=d.row i a;refine⟨by rw[XR a];rfl,?_⟩;unfold farG;have:j<(c.Far[i]?.getD []).length:=by omega
 rw[XR this];rfl
def triB(c:Clocks):Bool:=(List.range (c.Segments.length+1)).all λi=>(List.range (c.Segments.length+1)).all λj=>(List.range (c.Segments.length+1)).all λk=> !decide (IntKind.i64.wrap (farG c i j+farG c j k)<farG c i k)
theorem ltN{a b:Nat}(h:a<b):decide ((a:Int)<(b:Int))=true:=decide_eq_true (by omega)
theorem geN{a b:Nat}(h:b<=a):decide ((a:Int)<(b:Int))=false:=decide_eq_false (by omega)
theorem QoA(c:Clocks)(d:Dims c):Ev (λn=>iter (F_jh n c) n 0) (bif triB c then Ctl.cont ()else Ctl.done 160):=by
 have r:=d.segs;unfold triB;refine YZ (c.Segments.length+1) _ _ _ (λi a=>?_) ?_
 .unfold F_jh;have g:=(d.get a a).1;have h:=d.row i (by rw[d.far];exact a);simp only[Ye (show c.Segments.length<=1048576 by omega),ltN a,cond_true,Qo g,XQ,Ye (show i<=1048576 by omega)];refine Ev.bind (YZ (c.Segments.length+1) (λj=>(List.range (c.Segments.length+1)).all λk=> !decide (IntKind.i64.wrap (farG c i j+farG c j k)<farG c i k)) (Ctl.done (Ctl.done (Ctl.done 160))) (Ctl.cont ()) (λj b=>?_) ?_) ?_
  .unfold F_mq;have p:=(d.get a b).2;have m:=(d.get b b).1;have e:=d.row j (by rw[d.far];exact b);simp only[h,ltN b,cond_true,Qo p,Qo m,XQ,Ye (show j<=1048576 by omega)];refine Ev.bind (YZ (c.Segments.length+1) (λk=> !decide (IntKind.i64.wrap (farG c i j+farG c j k)<farG c i k)) (Ctl.done (Ctl.done (Ctl.done (Ctl.done (Ctl.done 160))))) (Ctl.cont ()) (λk f=>?_) ?_) ?_
   .unfold F_mc;have l:=(d.get b f).2;have q:=(d.get a f).2;simp only[e,ltN f,cond_true,Qo l,Qo g,Qo q,XQ,Ye (show k<=1048576 by omega)];cases decide (IntKind.i64.wrap (farG c i j+farG c j k)<farG c i k)<;>exact Qa _
   .unfold F_mc;simp only[e,geN (X0 _),cond_false];exact Qa _
   .cases(List.range (c.Segments.length+1)).all λk=> !decide (IntKind.i64.wrap (farG c i j+farG c j k)<farG c i k)<;>exact Qa _
  .unfold F_mq;simp only[h,geN (X0 _),cond_false];exact Qa _
  .cases(List.range (c.Segments.length+1)).all λj=>(List.range (c.Segments.length+1)).all λk=> !decide (IntKind.i64.wrap (farG c i j+farG c j k)<farG c i k)<;>exact Qa _
 .unfold F_jh;simp only[Ye (show c.Segments.length<=1048576 by omega),geN (X0 _),cond_false];exact Qa _
def clkB(c:Clocks):Bool:= !(decide (511<(c.Segments.length:Int))||((c.Far.length:Int) != ((c.Segments.length+1:Nat):Int)))&&(segsB c&&(rowsB c&&triB c))
structure ClkW (c:Clocks):Prop where
 segs:c.Segments.length<=1048576
 far:c.Far.length<=1048576
 row:∀r∈c.Far,r.length<=1048576
theorem Qgz{c:Clocks}(f:¬511<(c.Segments.length:Int))(b:c.Far.length=c.Segments.length+1)(d:rowsB c=true):Dims c:=by
 refine⟨by omega,b,λi a=>?_⟩;have:=QjN.1 d i a;rw[XR a]at this⊢;simp only[rowB,Bool.not_eq_true',X5]at this;have e:((c.Far[i]).length:Int)=((c.Segments.length+1:Nat):Int):=by simpa[bne]using this.1
 simp only[Option.getD_some];omega
theorem Ql8(c:Clocks)(w:ClkW c):Ev (λn=>F_bm n c) (bif clkB c then 0 else 160):=by
 unfold F_bm clkB;simp only[Ye w.segs];refine Ev.bind (Qf λ_=>Qa _) ?_;cases a:(decide (511<(c.Segments.length:Int))||((c.Far.length:Int) != ((c.Segments.length+1:Nat):Int)))with
 |true=>exact Qa _
 |false=>
  simp only[Xi,Bool.true_and,X5,decide_eq_false_iff_not]at a⊢;have b:c.Far.length=c.Segments.length+1:=by
   have:(c.Far.length:Int)=((c.Segments.length+1:Nat):Int):=by simpa[bne]using a.2
   omega
  refine QN (Ev.bind (Qng c w.segs) ?_);cases segsB c with
  |false=>exact Qa _
  |true=>
   refine Ev.bind (Qnj c w.segs w.far w.row b) ?_;cases d:rowsB c with
   |false=>exact Qa _
   |true=>
    refine Ev.bind (QoA c (Qgz a.1 b d)) ?_;cases triB c<;>exact Qa _
theorem Qkk{c:Clocks}(h:clkB c=true):Dims c:=by
 simp only[clkB,X4,Bool.not_eq_true',X5,decide_eq_false_iff_not]at h;have a:c.Far.length=c.Segments.length+1:=by
  have:(c.Far.length:Int)=((c.Segments.length+1:Nat):Int):=by simpa[bne]using h.1.2
  omega
 exact Qgz h.1.1 a h.2.2.1
theorem QgN{S B:Type}{step:Nat->S->Option (Ctl S B)}{s0:S}(a:Nat->S)(k:Nat)(p:Nat->Bool)(m b:B)(h0:a 0=s0)
  (g:∀i,i<k->(∀j,j<i->p j=true)->Ev (λn=>step n (a i)) (bif p i then .cont (a (i+1))else .done m))(r:(∀j,j<k->p j=true)->Ev (λn=>step n (a k)) (.done b)):
  Ev (λn=>Go.Sw.iter (step n) n s0) (bif (List.range k).all p then b else m):=by
 rcases QaA p k with h|⟨j,l,e,f⟩
 .rw[QjN.2 h];exact Ev.iter a k h0 (λi d=>(g i d λj s=>h j (by omega)).eq (by rw[h i d];rfl)) (r h)
 .have:(List.range k).all p=false:=by
   rw[Bool.eq_false_iff];intro q;rw[QjN.1 q j l]at e;cases e
  rw[this];exact Ev.iter a j h0 (λi d=>(g i (by omega) λj s=>f j (by omega)).eq (by rw[f i d];rfl)) ((g j l f).eq (by rw[e];rfl))
structure FewF (f:Field):Prop where
 runs:f.Runners.length<=6
 pairs:f.Pairs.length<=3
 segs:f.Clocks.Segments.length<=4
 far:f.Clocks.Far.length<=6
 row:∀r∈f.Clocks.Far,r.length<=8
 keys:∀r∈f.Runners,r.Keys.length<=5
 wlds:∀r∈f.Runners,r.Worlds.length<=4
 outs:∀r∈f.Runners,∀w∈r.Worlds,w.length<=4
theorem FewF.clk{f:Field}(h:FewF f):ClkW f.Clocks:=⟨by have:=h.segs;omega,by have:=h.far;omega,λr hr=>by have:=h.row r hr;omega⟩
def fineO(c:Clocks)(x:Outcome):Bool:=decide (-1<=x.Seg)&&(decide (x.Seg<(c.Segments.length:Int))&&(decide (-288230376151711744<=x.Lo)&&(decide (x.Lo<=x.Hi)&&decide (x.Hi<=288230376151711744))))
def outB(c:Clocks)(x:Outcome):Bool:=bif x.Out then x==({Out:=true,Seg:=(-1),Lo:=0,Hi:=0:Outcome})else fineO c x
theorem Qhw(c:Clocks)(w:ClkW c)(h:clkB c=true)(x:Outcome):Ev (λn=>F_fl n c x) (bif outB c x then 0 else 230):=by
 unfold F_fl;refine Ev.bind (Ql8 c w) ?_;rw[h];refine QN (Ev.bind (v:=fineO c x) (Ev.and λ_=>Ev.and λ_=>Ev.and λ_=>Ev.and λ_=>Qa _) ?_);refine Ev.bind (v:=outB c x) ?_ ?_
 .unfold outB F_fz;exact Ys (λ_=>Ev.bind (Qa _) (Qa _)) (λ_=>Qa _)
 .cases outB c x<;>exact Qa _
def pairBad(p last:Pair):Bool:=decide (p.A<1)||(decide (p.B<=p.A)||(decide (9999<p.B)||(decide (p.A<last.A)||((p.A==last.A)&&decide (p.B<=last.B)))))
def lastP(f:Field):Nat->Pair
 |0=>{A:=0,B:=0}
 |j+1=>(f.Pairs[j]?).getD {A:=0,B:=0}
def pairsB(f:Field):Bool:=(List.range f.Pairs.length).all λi=> !pairBad (lastP f (i+1)) (lastP f i)
theorem Qj6(f:Field)(b:f.Pairs.length<=1048576):Ev (λn=>iter (F_jg n f) n ({A:=0,B:=0:Pair},0)) (bif pairsB f then Ctl.cont ()else Ctl.done 240):=by
 unfold pairsB;refine QgN (λi=>(lastP f i,(i:Int))) f.Pairs.length _ _ _ rfl (λi hi _=>?_) (λ_=>?_)
 .have a:=atN b hi;have e:lastP f (i+1)=f.Pairs[i]:=by show(f.Pairs[i]?).getD _=_;rw[XR hi];rfl
  unfold F_jg;simp only[a.lt,cond_true,a.ix,XQ,a.nx,e];refine Ev.bind (v:=pairBad f.Pairs[i] (lastP f i)) ?_ ?_
  .unfold pairBad;exact Qf λ_=>Qf λ_=>Qf λ_=>Qf λ_=>Ev.and λ_=>Qa _
  .cases pairBad f.Pairs[i] (lastP f i)<;>exact Qa _
 .unfold F_jg;simp only[Yc,cond_false];exact Qa _
theorem Qkd(l:List (List Outcome))(j:l.length<=1048576)(k:l.flatten.length<=1048576):Ev (λn=>F_fp n l) l.flatten:=by
 have b:∀i,((l.take i).flatten).length<=l.flatten.length:=by
  intro i
  conv=>rhs;rw[<- XF i l]
  rw[Xv,Va];omega
 have a:∀i x,At l i x->(l.take (i+1)).flatten=(l.take i).flatten++x:=by
  intro i x d;rw[d.take,Xv];simp
 unfold F_fp;refine Ev.bind (v:=(l.flatten.length:Int)) ?_ (Ev.bind (v:=[]) ?_ (Ev.bind (v:=l.flatten) ?_ (Qa _)))
 .refine(Ev.iter (λi=>((((l.take i).flatten).length:Int),(i:Int))) l.length rfl (λi f=>?_) ?_)
  .have d:=atN j f;have g:=b (i+1);rw[a i _ d,Va]at g;have e:IntKind.i64.wrap ((((l.take i).flatten).length:Int)+((l[i]).length:Int))=((((l.take i).flatten).length+(l[i]).length:Nat):Int):=by rw[QQ (by omega) (by omega)];omega
   unfold F_lt;simp only[d.lt,cond_true,d.ix,XQ,d.nx,e,QD (show¬((((l.take i).flatten).length+(l[i]).length:Nat):Int)<0 by omega),cond_false];rw[a i _ d,Va];exact Qa _
  .unfold F_lt;simp only[Yc,cond_false,Vh];exact Qa _
 .unfold F_ih;simp only[QD (show¬(l.flatten.length:Int)<0 by omega),cond_false,XQ,Int.sub_zero];have e:IntKind.i64.wrap (l.flatten.length:Int)=(l.flatten.length:Int):=QQ (by omega) (by omega);rw[e];by_cases h:0<(l.flatten.length:Int)
  .rw[QJ h];have:room (l.flatten.length:Int)=some l.flatten.length:=by
    unfold room;rw[QJ h,QJ (show(l.flatten.length:Int)<=4294967296 by omega)];rfl
   rw[this];exact Qa _
  .rw[QD h];exact Qa _
 .refine(Ev.iter (λi=>((l.take i).flatten,(i:Int))) l.length rfl (λi f=>?_) ?_)
  .have d:=atN j f;have g:=b (i+1);rw[a i _ d,Va]at g;unfold F_ly;simp only[d.lt,cond_true,d.ix,XQ,d.nx,QdW _ _ (show((l.take i).flatten).length+(l[i]).length<=4294967296 by omega)];rw[a i _ d];exact Qa _
  .unfold F_ly;simp only[Yc,cond_false,Vh];exact Qa _
def lastB(f:Field):Nat->Int
 |0=>0
 |j+1=>((f.Runners[j]?).map (·.Bib)).getD 0
def keys0(f:Field):Nat:=((f.Runners[0]?).map (·.Keys.length)).getD 0
def runBad(f:Field)(last:Int)(r:Runner):Bool:=decide (r.Bib<=last)||(decide (9999<r.Bib)||(((r.Keys.length:Int) != (keys0 f:Int))||((r.Worlds.length:Int) != ((f.Pairs.length+1:Nat):Int))))
def runB(f:Field)(i:Nat):Bool:=match f.Runners[i]? with
 |some r=> !runBad f (lastB f i) r&&r.Worlds.flatten.all (outB f.Clocks)
 |none=>true
def runsB(f:Field):Bool:=(List.range f.Runners.length).all (runB f)
theorem Qna{l:List (List Outcome)}(h:∀w∈l,w.length<=4):l.flatten.length<=4*l.length:=by
 induction l with
 |nil=>simp
 |cons w r a=>
  have d:=h w (Vc ..);have e:=a λx b=>h x (Vd _ b);rw[Vt,Va,X8];omega
theorem Qnh(f:Field)(k:FewF f)(h:clkB f.Clocks=true):Ev (λn=>iter (F_jp n f) n (0,0)) (bif runsB f then Ctl.cont ()else Ctl.done 240):=by
 have q:=k.runs;have p:=k.pairs;unfold runsB;refine QgN (λi=>(lastB f i,(i:Int))) f.Runners.length _ _ _ rfl (λi hi _=>?_) (λ_=>?_)
 .have a:=atN (by omega) hi;have e:lastB f (i+1)=(f.Runners[i]).Bib:=by show((f.Runners[i]?).map (·.Bib)).getD 0=_;rw[XR hi];rfl
  have l:0<f.Runners.length:=by omega
  have b:idx f.Runners 0=some f.Runners[0]:=Qo (i:=0) (XR l);have d:keys0 f=(f.Runners[0]).Keys.length:=by unfold keys0;rw[XR l];rfl
  unfold F_jp runB;rw[a.get];simp only[a.lt,cond_true,a.ix,XQ,a.nx,b,Ye (show f.Pairs.length<=1048576 by omega)];refine Ev.bind (v:=runBad f (lastB f i) f.Runners[i]) ?_ ?_
  .unfold runBad;rw[d];exact Qf λ_=>Qf λ_=>Qf λ_=>Qa _
  .cases runBad f (lastB f i) f.Runners[i]with
   |true=>exact Qa _
   |false=>
    have r:=k.wlds _ a.mem;have m:=Qna (k.outs _ a.mem);simp only[cond_false,Xi,Bool.true_and];refine Ev.bind (Qkd _ (by omega) (by omega)) ?_;refine Ev.bind (QA (f.Runners[i]).Worlds.flatten (outB f.Clocks) (Ctl.done (Ctl.done (Ctl.done 240))) (Ctl.cont ()) (by omega) (λj x g=>?_) ?_) ?_
    .unfold F_lw;simp only[g.lt,cond_true,g.ix,XQ,g.nx];refine Ev.bind (Qhw _ k.clk h x) ?_;cases outB f.Clocks x<;>exact Qa _
    .unfold F_lw;simp only[Yc,cond_false];exact Qa _
    .cases(f.Runners[i]).Worlds.flatten.all (outB f.Clocks)with
     |false=>exact Qa _
     |true=>simp only[cond_true, <- e];exact Qa _
 .unfold F_jp;simp only[Yc,cond_false];exact Qa _
def wld(r:Runner)(w:Nat):List Outcome:=(r.Worlds[w]?).getD []
def openW(f:Field)(w:Nat):Bool:= !(f.Runners.any λr=>(wld r w).isEmpty)
def possB(f:Field):Bool:=(List.range (f.Pairs.length+1)).any (openW f)
def WldOk(f:Field):Prop:=∀r∈f.Runners,r.Worlds.length=f.Pairs.length+1
theorem Qd1{f:Field}(h:WldOk f){r:Runner}(b:r∈f.Runners){w:Nat}(a:w<f.Pairs.length+1):idx r.Worlds (w:Int)=some (wld r w):=by
 have:w<r.Worlds.length:=by rw[h r b];exact a
 unfold wld;rw[Qo (XR this),XR this];rfl
theorem Qiq(f:Field)(k:FewF f)(h:WldOk f){w:Nat}(a:w<f.Pairs.length+1):Ev (λn=>F_dy n f.Runners (w:Int)) (f.Runners.any λr=>(wld r w).isEmpty):=by
 have d:=k.runs;unfold F_dy F_ir;refine Ev.contains f.Runners (λr=>(wld r w).isEmpty) (λn x=>F_bs n x (w:Int)) (by omega) λx b=>?_;unfold F_bs;rw[Qd1 h b a];exact Ev.bind (Qa _) ((Qa _).eq (QaD _))
theorem QcK{α:Type}(l:List α)(p:α->Bool):(l.all λx=> !p x)= !l.any p:=by rw[List.not_any_eq_all_not]
theorem Ql3(f:Field)(k:FewF f)(h:WldOk f):Ev (λn=>F_em n f) (possB f):=by
 have b:=k.pairs;unfold F_em;have:Ev (λn=>iter (F_kc n f) n 0) (bif (List.range (f.Pairs.length+1)).all (λi=> !openW f i)then Ctl.cont ()else Ctl.done true):=by
  refine YZ (f.Pairs.length+1) _ _ _ (λi a=>?_) ?_
  .unfold F_kc;simp only[Ye (show f.Pairs.length<=1048576 by omega),ltN a,cond_true,Ye (show i<=1048576 by omega)];refine Ev.bind (Qiq f k h a) ?_;unfold openW;cases f.Runners.any λr=>(wld r i).isEmpty<;>exact Qa _
  .unfold F_kc;simp only[Ye (show f.Pairs.length<=1048576 by omega),geN (X0 _),cond_false];exact Qa _
 refine Ev.bind this ?_;unfold possB;rw[QcK];cases(List.range (f.Pairs.length+1)).any (openW f)<;>exact Qa _
def fieldB(f:Field):Bool:=(clkB f.Clocks&& !(decide (16<(f.Pairs.length:Int))||(decide ((f.Runners.length:Int)<1)||decide (4000<(f.Runners.length:Int)))))&&(pairsB f&&(runsB f&&possB f))
theorem Qd8{f:Field}(h:runsB f=true):WldOk f:=by
 intro r b;obtain⟨i,a,e⟩:=List.mem_iff_getElem.1 b;have:=QjN.1 h i a;unfold runB at this;rw[XR a,e]at this;simp only[runBad,X4,Bool.not_eq_true',X5]at this;have q:(r.Worlds.length:Int)=((f.Pairs.length+1:Nat):Int):=by simpa[bne]using this.1.2.2.2
 omega
theorem QhA(f:Field)(k:FewF f):Ev (λn=>F_ae n f) (bif fieldB f then 0 else 240):=by
 unfold F_ae fieldB;refine Ev.bind (v:= !(clkB f.Clocks&& !(decide (16<(f.Pairs.length:Int))||(decide ((f.Runners.length:Int)<1)||decide (4000<(f.Runners.length:Int)))))) ?_ ?_
 .refine Ev.bind (Ql8 _ k.clk) ?_;cases clkB f.Clocks with
  |false=>exact Qa _
  |true=>
   simp only[Bool.true_and,Bool.not_not];exact QN (Qf λ_=>Qf λ_=>Qa _)
 .cases a:clkB f.Clocks&& !(decide (16<(f.Pairs.length:Int))||(decide ((f.Runners.length:Int)<1)||decide (4000<(f.Runners.length:Int))))with
  |false=>exact Qa _
  |true=>
   have d:clkB f.Clocks=true:=by simp only[X4]at a;exact a.1
   simp only[Xh,cond_false,Bool.true_and];refine Ev.bind (Qj6 f (by have:=k.pairs;omega)) ?_;cases pairsB f with
   |false=>exact Qa _
   |true=>
    refine Ev.bind (Qnh f k d) ?_;cases b:runsB f with
    |false=>exact Qa _
    |true=>
     refine Ev.bind (Ql3 f k (Qd8 b)) ?_;cases possB f<;>exact Qa _
structure FieldOk (f:Field):Prop where
 few:FewF f
 dims:Dims f.Clocks
 wlds:WldOk f
 outs:∀r∈f.Runners,∀w x,x∈wld r w->outB f.Clocks x=true
 ok:fieldB f=true
theorem QmZ{f:Field}(h:runsB f=true){r:Runner}(b:r∈f.Runners):r.Worlds.flatten.all (outB f.Clocks)=true:=by
 obtain⟨i,a,e⟩:=List.mem_iff_getElem.1 b;have:=QjN.1 h i a;unfold runB at this;rw[XR a,e]at this;simp only[X4]at this;exact this.2
theorem QaI{f:Field}(k:FewF f)(h:fieldB f=true):FieldOk f:=by
 have b:=h;simp only[fieldB,X4]at b;obtain⟨⟨e,_⟩,_,d,_⟩:=b;refine⟨k,Qkk e,Qd8 d,λr g w x a=>?_,h⟩;refine Xw.1 (QmZ d g) x ?_;unfold wld at a;cases q:r.Worlds[w]? with
 |none=>rw[q]at a;cases a
 |some l=>rw[q]at a;exact List.mem_flatten.2 ⟨l,List.mem_of_getElem? q,a⟩
theorem QmV{f:Field}(o:FieldOk f){r:Runner}(a:r∈f.Runners)(w:Nat):(wld r w).length<=4:=by
 unfold wld;cases q:r.Worlds[w]? with
 |none=>simp
 |some l=>exact o.few.outs r a l (List.mem_of_getElem? q)
def worldsN(f:Field):List Nat:=(List.range (f.Pairs.length+1)).filter (openW f)
theorem Qhy(f:Field)(k:FewF f)(h:WldOk f){w:Nat}(a:w<f.Pairs.length+1):Ev (λn=>F_eq n f.Runners (w:Int)) (f.Runners.any λr=>(wld r w).isEmpty):=by
 have d:=k.runs;unfold F_eq F_ga;refine Ev.contains f.Runners (λr=>(wld r w).isEmpty) (λn x=>F_bx n x (w:Int)) (by omega) λx b=>?_;unfold F_bx;rw[Qd1 h b a];exact Ev.bind (Qa _) ((Qa _).eq (QaD _))
theorem Qdf(f:Field)(o:FieldOk f):Ev (λn=>F_al n f) ((worldsN f).map (λ(w:Nat)=>(w:Int)),()):=by
 have e:=o.few.pairs;unfold F_al;have loop:∀(m i:Nat),i+m=f.Pairs.length+1->EvL (λn=>F_ic n f) (i:Int) (((List.range' i m).filter (openW f)).map (λ(w:Nat)=>(w:Int)),()):=by
  intro m
  induction m with
  |zero=>
   intro i b;refine EvL.done ?_;unfold F_ic;simp only[Ye (show f.Pairs.length<=1048576 by omega),geN (show f.Pairs.length+1<=i by omega),cond_false];exact Qa _
  |succ m d=>
   intro i b;have a:i<f.Pairs.length+1:=by omega
   have step:Ev (λn=>F_ic n f (i:Int)) ((bif openW f i then[(i:Int)]else[]),Ctl.cont ((i+1:Nat):Int)):=by
    unfold F_ic;simp only[Ye (show f.Pairs.length<=1048576 by omega),ltN a,cond_true,Ye (show i<=1048576 by omega)];refine Ev.bind (Qhy f o.few o.wlds a) ?_;unfold openW;cases f.Runners.any λr=>(wld r i).isEmpty<;>exact Qa _
   refine(EvL.cont step (d (i+1) (by omega))).eq ?_;rw[List.range'_succ,Xd];cases openW f i<;>simp
 refine Ev.bind (loop (f.Pairs.length+1) 0 (by omega)).ev ((Qa _).eq ?_);unfold worldsN;rw[List.range_eq_range'];simp
theorem Qca{f:Field}{w:Nat}(h:w∈worldsN f):w<f.Pairs.length+1/\openW f w=true:=by
 unfold worldsN at h;have:=Xe.1 h;exact⟨by simpa using this.1,this.2⟩
theorem QdT{S T B:Type}{step:Nat->S->T->Option (Ctl S B)}(g:S->T->S):∀(l:List T) (s:S),(∀s,∀x∈l,Ev (λn=>step n s x) (.cont (g s x)))->Ev (λn=>QbI (step n) l s) (.cont (l.foldl g s))
 |[],s,_=>Qa _
 |x::l,s,h=>Ev.bind (h s x (Vc ..)) (QdT g l (g s x) λs y hy=>h s y (Vd _ hy))
def cmpL:List Int->List Int->Int
 |[],[]=>0
 |[],_::_=> -1
 |_::_,[]=>1
 |x::a,y::b=>bif cmpI x y != 0 then cmpI x y else cmpL a b
theorem Qjg(a b:List Int)(B:a.length<=1048576)(w:b.length<=1048576):Ev (λn=>F_ac n a b) (cmpL a b):=by
 unfold F_ac;have f:∀(r:List Int) (i:Nat),a.drop i=r->i<=a.length->i<=b.length->∃d:Ctl Unit Int,EvI (λn=>F_ed n a b) (i:Int) d/\(match d with|.cont _=>(bif decide ((a.length:Int)<(b.length:Int))then(-1:Int)else 0)|.done v=>v)=cmpL r (b.drop i):=by
  intro r
  induction r with
  |nil=>
   intro i j p k;refine⟨.cont (),EvI.done ?_,?_⟩
   .unfold F_ed;simp only[Q0 j p,cond_false];exact Qa _
   .have e:i=a.length:=by have:=Xt.1 j;omega
    cases q:b.drop i with
    |nil=>
     have:=Xt.1 q;simp only[QD (show¬(a.length:Int)<(b.length:Int)by omega),cond_false,cmpL]
    |cons y s=>
     have:i<b.length:=by
      rcases Nat.lt_or_ge i b.length with z|z
      .exact z
      .rw[Xs z]at q;cases q
     simp only[QJ (show(a.length:Int)<(b.length:Int)by omega),cond_true,cmpL]
  |cons x r t=>
   intro i j p k;obtain⟨e,u⟩:=Qq (by omega) j;by_cases m:b.length<=i
   .refine⟨.done 1,EvI.done ?_,?_⟩
    .unfold F_ed;simp only[e.lt,cond_true,e.ix,XQ,QJ (show(b.length:Int)<=(i:Int)by omega)];exact Qa _
    .rw[Xs m];rfl
   .have g:i<b.length:=by omega
    rw[Xr g];cases q:(cmpI x b[i] != 0)with
    |true=>
     refine⟨.done (cmpI x b[i]),EvI.done ?_,?_⟩
     .unfold F_ed;simp only[e.lt,cond_true,e.ix,XQ,QD (show¬(b.length:Int)<=(i:Int)by omega),cond_false,Qo (XR g)];refine Ev.bind (Qgx _ _) ?_;rw[q];exact Qa _
     .simp only[cmpL,q,cond_true]
    |false=>
     obtain⟨d,l,h⟩:=t (i+1) u (by have:=e.lt';omega) (by omega);refine⟨d,EvI.cont ?_ l,?_⟩
     .unfold F_ed;simp only[e.lt,cond_true,e.ix,XQ,QD (show¬(b.length:Int)<=(i:Int)by omega),cond_false,Qo (XR g),e.nx];refine Ev.bind (Qgx _ _) ?_;rw[q];exact Qa _
     .simp only[cmpL,q,cond_false];exact h
 obtain⟨d,l,h⟩:=f a 0 rfl (X2 _) (X2 _);rw[List.drop_zero]at h;refine Ev.bind l.ev ?_;rw[<- h];cases d with
 |done v=>exact Qa _
 |cont _=>exact Ys (λ_=>Qa _) (λ_=>Qa _)
def sg(x:Outcome):Nat:=(x.Seg+1).toNat
theorem Qdn{c:Clocks}{x:Outcome}(e:c.Segments.length<=511)(h:outB c x=true)(a:x.Out=false):sg x<c.Segments.length+1/\IntKind.i64.wrap (x.Seg+1)=(sg x:Int):=by
 unfold outB at h;rw[a]at h;simp only[cond_false,fineO,X4,decide_eq_true_eq]at h;obtain⟨b,d,_⟩:=h;unfold sg;rw[QQ (by omega) (by omega)];omega
def gapD(best:Bool)(c:Clocks)(a b:Nat):Int:=bif best then farG c a b else IntKind.i64.wrap (0-farG c b a)
def keysF(f:Field)(k:Nat):List Int:=((f.Runners[k]?).map (·.Keys)).getD []
def diffD(best:Bool)(c:Clocks)(x y:Outcome):Int:=IntKind.i64.wrap (IntKind.i64.wrap ((bif best then y.Hi else y.Lo)+gapD best c (sg x) (sg y))-(bif best then x.Lo else x.Hi))
def aheadD(best:Bool)(f:Field)(i:Nat)(x:Outcome)(k:Nat)(y:Outcome):Bool:=
 bif y.Out then false else decide (diffD best f.Clocks x y<0)||((diffD best f.Clocks x y==0)&&decide (cmpL (keysF f k) (keysF f i)<0))
theorem QaP{f:Field}{k:Nat}(a:k<f.Runners.length):idx f.Runners (k:Int)=some f.Runners[k]/\keysF f k=(f.Runners[k]).Keys:=by
 unfold keysF;exact⟨Qo (XR a),by rw[XR a];rfl⟩
theorem Qal{f:Field}(o:FieldOk f){k:Nat}(a:k<f.Runners.length):(f.Runners[k]).Keys.length<=1048576:=by have:=o.few.keys _ (Vl a);omega
theorem Qkf(f:Field)(o:FieldOk f){i k:Nat}(hi:i<f.Runners.length)(d:k<f.Runners.length){x y:Outcome}(u:outB f.Clocks x=true)(a:x.Out=false)(t:outB f.Clocks y=true):
  Ev (λn=>F_ci n f (i:Int) x (k:Int) y) (aheadD true f i x k y):=by
 unfold F_ci aheadD;refine Ys (λ_=>Qa _) λb=>?_;have g:=o.dims.segs;obtain⟨s,q⟩:=Qdn g u a;obtain⟨y1,y2⟩:=Qdn g t b;obtain⟨p,j⟩:=o.dims.get s y1;have e:∀n,F_eh n f.Clocks.Far (sg x:Int) (sg y:Int)=some (farG f.Clocks (sg x) (sg y)):=by
  intro n;unfold F_eh;rw[Qo p,XQ,Qo j];rfl
 unfold F_av F_bl;simp only[XQ,q,y2,e];refine Ev.bind (Qf λ_=>Ev.and λ_=>?_) (Qa _);obtain⟨l,m⟩:=QaP d;obtain⟨h,r⟩:=QaP hi;simp only[l,h,XQ,m,r];exact Ev.bind (Qjg _ _ (Qal o d) (Qal o hi)) (Qa _)
theorem Qke(f:Field)(o:FieldOk f){i k:Nat}(hi:i<f.Runners.length)(d:k<f.Runners.length){x y:Outcome}(u:outB f.Clocks x=true)(a:x.Out=false)(t:outB f.Clocks y=true):
  Ev (λn=>F_dm n f (i:Int) x (k:Int) y) (aheadD false f i x k y):=by
 unfold F_dm aheadD;refine Ys (λ_=>Qa _) λb=>?_;have g:=o.dims.segs;obtain⟨s,q⟩:=Qdn g u a;obtain⟨y1,y2⟩:=Qdn g t b;obtain⟨p,j⟩:=o.dims.get y1 s;have e:∀n,F_cy n f.Clocks.Far (sg x:Int) (sg y:Int)=some (IntKind.i64.wrap (0-farG f.Clocks (sg y) (sg x))):=by
  intro n;unfold F_cy;rw[Qo p,XQ,Qo j];rfl
 unfold F_av F_bl;simp only[XQ,q,y2,e];refine Ev.bind (Qf λ_=>Ev.and λ_=>?_) (Qa _);obtain⟨l,m⟩:=QaP d;obtain⟨h,r⟩:=QaP hi;simp only[l,h,XQ,m,r];exact Ev.bind (Qjg _ _ (Qal o d) (Qal o hi)) (Qa _)
def wldF(f:Field)(k w:Nat):List Outcome:=((f.Runners[k]?).map (wld · w)).getD []
theorem QmW{f:Field}{k:Nat}(a:k<f.Runners.length)(w:Nat):wldF f k w=wld f.Runners[k] w:=by
 unfold wldF;rw[XR a];rfl
def chooseR(best:Bool)(f:Field)(w i:Nat)(x:Outcome)(k:Nat):Bool:=bif best then(wldF f k w).all (aheadD true f i x k)else(wldF f k w).any (aheadD false f i x k)
theorem Ev.find{α R:Type}{step:Nat->Int->Option (Ctl Int (Ctl Unit R))}(l:List α)(q:α->Bool)(d:Nat->R)(b:l.length<=1048576)
  (k:∀i x,At l i x->Ev (λn=>step n (i:Int)) (bif q x then .done (.done (d i))else .cont ((i+1:Nat):Int)))(r:Ev (λn=>step n (l.length:Int)) (.done (.cont ()))):
  (l.any q=false/\Ev (λn=>Go.Sw.iter (step n) n 0) (Ctl.cont ()))\/(l.any q=true/\ ∃i,Ev (λn=>Go.Sw.iter (step n) n 0) (Ctl.done (d i))):=by
 let p:Nat->Bool:=λi=>match l[i]? with|some x=> !q x|none=>true
 have f:∀i x,At l i x->p i= !q x:=λi x w=>by show(match l[i]? with|some x=> !q x|none=>true)=_;rw[w.get]
 rcases QaA p l.length with h|⟨j,g,t,u⟩
 .refine .inl ⟨?_,?_⟩
  .rw[Bool.eq_false_iff];intro e;obtain⟨x,m,s⟩:=Xx.1 e;obtain⟨i,a,y⟩:=List.mem_iff_getElem.1 m;have:=f i _ (atN b a);rw[h i a,y,s]at this;cases this
  .refine Ev.iter (λi=>(i:Int)) l.length rfl (λi a=>(k i _ (atN b a)).eq ?_) r;have:=f i _ (atN b a);rw[h i a]at this;have e:q l[i]=false:=by cases z:q l[i]<;>rw[z]at this<;>simp at this⊢
   rw[e];rfl
 .have e:q l[j]=true:=by
   have:=f j _ (atN b g);rw[t]at this;cases z:q l[j]<;>rw[z]at this<;>simp at this⊢
  refine .inr ⟨Xx.2 ⟨l[j],Vl g,e⟩,j,?_⟩;refine Ev.iter (λi=>(i:Int)) j rfl (λi a=>(k i _ (atN b (by omega))).eq ?_) ((k j _ (atN b g)).eq (by rw[e];rfl));have:=f i _ (atN b (by omega));rw[u i a]at this;have e:q l[i]=false:=by cases z:q l[i]<;>rw[z]at this<;>simp at this⊢
  rw[e];rfl
theorem QaL{f:Field}(o:FieldOk f){k w:Nat}(a:k<f.Runners.length)(b:w<f.Pairs.length+1):idx f.Runners (k:Int)=some f.Runners[k]/\idx (f.Runners[k]).Worlds (w:Int)=some (wldF f k w)/\(wldF f k w).length<=4/\ ∀y∈wldF f k w,outB f.Clocks y=true:=by
 rw[QmW a];exact⟨Qo (XR a),Qd1 o.wlds (Vl a) b,QmV o (Vl a) w,λy d=>o.outs _ (Vl a) w y d⟩
theorem Qiw(f:Field)(o:FieldOk f){i k w:Nat}(hi:i<f.Runners.length)(l:k<f.Runners.length)(s:w<f.Pairs.length+1){x:Outcome}(t:outB f.Clocks x=true)(e:x.Out=false):
  ∃a,Ev (λn=>F_cc n f (w:Int) (i:Int) x (k:Int)) (a,chooseR true f w i x k):=by
 obtain⟨q,p,u,r⟩:=QaL o l s;have g:decide ((2:Int)<1)=false:=by decide
 have step:∀j y,At (wldF f k w) j y->Ev (λn=>F_it n f (i:Int) x (k:Int) (wldF f k w) (j:Int)) (bif !aheadD true f i x k y then .done (.done ((j:Int),false))else .cont ((j+1:Nat):Int)):=by
  intro j y b;unfold F_it;simp only[b.lt,cond_true,b.ix,XQ,b.nx,g];refine Ev.bind (Qkf f o hi l t e (r y b.mem)) ?_;cases aheadD true f i x k y<;>exact Qa _
 have fin:Ev (λn=>F_it n f (i:Int) x (k:Int) (wldF f k w) ((wldF f k w).length:Int)) (.done (.cont ())):=by
  unfold F_it;simp only[Yc,cond_false];exact Qa _
 have m:chooseR true f w i x k= !((wldF f k w).any λy=> !aheadD true f i x k y):=by
  unfold chooseR;rw[cond_true, <- List.all_eq_not_any_not]
 unfold F_cc F_ar;simp only[XQ,q,p];rcases Ev.find (wldF f k w) (λy=> !aheadD true f i x k y) (λj=>((j:Int),false)) (by omega) step fin with⟨d,h⟩|⟨d,j,h⟩
 .exact⟨0,Ev.bind h ((Qa _).eq (by rw[m,d];rfl))⟩
 .exact⟨(j:Int),Ev.bind h ((Qa _).eq (by rw[m,d];rfl))⟩
theorem Qiv(f:Field)(o:FieldOk f){i k w:Nat}(hi:i<f.Runners.length)(l:k<f.Runners.length)(s:w<f.Pairs.length+1){x:Outcome}(t:outB f.Clocks x=true)(e:x.Out=false):
  ∃a,Ev (λn=>F_bv n f (w:Int) (i:Int) x (k:Int)) (a,chooseR false f w i x k):=by
 obtain⟨q,p,u,r⟩:=QaL o l s;have g:decide ((1:Int)<2)=true:=by decide
 have step:∀j y,At (wldF f k w) j y->Ev (λn=>F_hf n f (i:Int) x (k:Int) (wldF f k w) (j:Int)) (bif aheadD false f i x k y then .done (.done ((j:Int),true))else .cont ((j+1:Nat):Int)):=by
  intro j y b;unfold F_hf;simp only[b.lt,cond_true,b.ix,XQ,b.nx,g];refine Ev.bind (Qke f o hi l t e (r y b.mem)) ?_;cases aheadD false f i x k y<;>exact Qa _
 have fin:Ev (λn=>F_hf n f (i:Int) x (k:Int) (wldF f k w) ((wldF f k w).length:Int)) (.done (.cont ())):=by
  unfold F_hf;simp only[Yc,cond_false];exact Qa _
 have m:chooseR false f w i x k=(wldF f k w).any λy=>aheadD false f i x k y:=rfl;unfold F_bv F_bd;simp only[XQ,q,p];rcases Ev.find (wldF f k w) (λy=>aheadD false f i x k y) (λj=>((j:Int),true)) (by omega) step fin with⟨d,h⟩|⟨d,j,h⟩
 .exact⟨0,Ev.bind h ((Qa _).eq (by rw[m,d];rfl))⟩
 .exact⟨(j:Int),Ev.bind h ((Qa _).eq (by rw[m,d]))⟩
def cntR(p:Nat->Bool)(k:Nat):Nat:=((List.range k).filter p).length
theorem Qdh(p:Nat->Bool)(k:Nat):cntR p (k+1)=cntR p k+(bif p k then 1 else 0):=by
 unfold cntR;rw[Xz,List.filter_append,Va];cases h:p k<;>simp[h]
theorem QgA(p:Nat->Bool)(k:Nat):cntR p k<=k:=by
 unfold cntR;exact X3 (List.length_filter_le ..) (by simp)
def rivalP(best:Bool)(f:Field)(w i:Nat)(x:Outcome)(k:Nat):Bool:=bif Nat.beq k i then false else chooseR best f w i x k
def rankAt(best:Bool)(f:Field)(w i:Nat)(x:Outcome):Nat:=1+cntR (rivalP best f w i x) f.Runners.length
theorem QfP{step:Nat->Int×Int->Option (Ctl (Int×Int) Int)}{ch:Nat->Int->Option (Int×Bool)}(f:Field)(b:Bool)(w i:Nat)(x:Outcome)(r:f.Runners.length<=6)
  (l:∀n s,step n s=(bif decide (s.2<(f.Runners.length:Int))then((bif (s.2==(i:Int))then some s.1 else(ch n s.2).bind λr1187=>((bif r1187.2 then some (IntKind.i64.wrap (s.1+1))else some s.1):Option Int).bind λb1189=>some b1189):Option Int).bind λb1184=>some (.cont (b1184,IntKind.i64.wrap (s.2+1)))else some (.done s.1)))
  (g:∀k,k<f.Runners.length->k≠i->∃a,Ev (λn=>ch n (k:Int)) (a,chooseR b f w i x k)):
  Ev (λn=>Go.Sw.iter (step n) n (1,0)) ((rankAt b f w i x:Nat):Int):=by
 refine Ev.iter (λk=>(((1+cntR (rivalP b f w i x) k:Nat):Int),(k:Int))) f.Runners.length (by simp[cntR]) (λk j=>?_) ?_
 .refine Qfh ?_ λn=>l n _;have p:=QgA (rivalP b f w i x) k;simp only[ltN j,cond_true,Ye (show k<=1048576 by omega),Qdh];by_cases e:k=i
  .have d:((k:Int)==(i:Int))=true:=by rw[e];simp
   have h:rivalP b f w i x k=false:=by unfold rivalP;rw[e,Nat.beq_refl];rfl
   simp only[d,cond_true,XQ,h,cond_false,XC];exact Qa _
  .have d:((k:Int)==(i:Int))=false:=beq_false_of_ne (by omega);have h:rivalP b f w i x k=chooseR b f w i x k:=by
    unfold rivalP;have:Nat.beq k i=false:=by rw[Bool.eq_false_iff];intro q;exact e (XX q)
    rw[this];rfl
   obtain⟨a,m⟩:=g k j e;simp only[d,cond_false,h];refine Ev.bind (Ev.bind m (Ev.bind (v:=((1+(cntR (rivalP b f w i x) k+bif chooseR b f w i x k then 1 else 0):Nat):Int)) ?_ (Qa _))) (Qa _);cases chooseR b f w i x k with
   |false=>exact Qa _
   |true=>
    refine(Qa _).eq ?_;rw[Ye (show 1+cntR (rivalP b f w i x) k<=1048576 by omega)];rfl
 .refine Qfh ?_ λn=>l n _;simp only[geN (X0 _),cond_false];exact Qa _
theorem Ql0(f:Field)(o:FieldOk f){i w:Nat}(hi:i<f.Runners.length)(hw:w<f.Pairs.length+1){x:Outcome}(hx:outB f.Clocks x=true)(hxo:x.Out=false):
  Ev (λn=>Go.Sw.iter (F_ji n f (i:Int) (w:Int) x) n (1,0)) ((rankAt true f w i x:Nat):Int):=
 QfP (step:=λn=>F_ji n f (i:Int) (w:Int) x) (ch:=λn k=>F_cc n f (w:Int) (i:Int) x k) f true w i x o.few.runs (λn s=>by unfold F_ji;rfl) λk hk _=>Qiw f o hi hk hw hx hxo
theorem QlZ(f:Field)(o:FieldOk f){i w:Nat}(hi:i<f.Runners.length)(hw:w<f.Pairs.length+1){x:Outcome}(hx:outB f.Clocks x=true)(hxo:x.Out=false):
  Ev (λn=>Go.Sw.iter (F_jz n f (i:Int) (w:Int) x) n (1,0)) ((rankAt false f w i x:Nat):Int):=
 QfP (step:=λn=>F_jz n f (i:Int) (w:Int) x) (ch:=λn k=>F_bv n f (w:Int) (i:Int) x k) f false w i x o.few.runs (λn s=>by unfold F_jz;rfl) λk hk _=>Qiv f o hi hk hw hx hxo
abbrev PlB:=ranks_place×Bool
def pref(best:Bool)(n m:Int):Bool:=bif best then decide (n<m)else decide (m<n)
def stepO(best:Bool)(f:Field)(i w:Nat)(acc:PlB)(j:Nat):PlB:=match(wldF f i w)[j]? with
 |none=>acc
 |some x=>bif x.Out then acc else
   bif !acc.2||pref best ((rankAt best f w i x:Nat):Int) acc.1.rank then({world:=(w:Int),outcome:=(j:Int),rank:=((rankAt best f w i x:Nat):Int):ranks_place},true)else acc
def driveW(best:Bool)(f:Field)(i:Nat)(acc:PlB)(w:Nat):PlB:=(List.range (wldF f i w).length).foldl (stepO best f i w) acc
def driveP(best:Bool)(f:Field)(i:Nat):PlB:=(worldsN f).foldl (driveW best f i) (z_ranks_place,false)
theorem YT{β:Type}(g:β->Nat->β)(b:β)(k:Nat):(List.range (k+1)).foldl g b=g ((List.range k).foldl g b) k:=by rw[Xz,XJ];rfl
theorem Qka(f:Field)(o:FieldOk f){i:Nat}(hi:i<f.Runners.length):Ev (λn=>F_br n f (i:Int)) (driveP true f i):=by
 have t:=o.few.runs;unfold F_br F_aa;simp only[XQ];refine Ev.bind (Qdf f o) ?_;have b:Ev (λn=>QbI (F_jl n f (i:Int)) ((worldsN f).map λ(w:Nat)=>(w:Int)) (z_ranks_place,false)) (.cont (driveP true f i)):=by
  have:=QdT (step:=λn=>F_jl n f (i:Int)) (λs (x:Int)=>driveW true f i s x.toNat) ((worldsN f).map λ(w:Nat)=>(w:Int)) (z_ranks_place,false) (λs x q=>?_)
  .refine this.eq ?_;rw[List.foldl_map];simp only[Int.toNat_natCast];rfl
  .obtain⟨w,p,rfl⟩:=Xf.1 q;obtain⟨a,_⟩:=Qca p;obtain⟨l,h,r,m⟩:=QaL o hi a;unfold F_jl;simp only[l,h,XQ];refine Ev.bind (v:=driveW true f i s w) ?_ (Qa _);refine Ev.iter (λj=>(((List.range j).foldl (stepO true f i w) s).1,((List.range j).foldl (stepO true f i w) s).2,(j:Int))) (wldF f i w).length rfl (λj k=>?_) ?_
   .have d:=atN (by omega) k;unfold F_mp;simp only[d.lt,cond_true,d.ix,XQ,d.nx,YT];generalize(List.range j).foldl (stepO true f i w) s=acc;have g:stepO true f i w acc j=bif ((wldF f i w)[j]).Out then acc else bif !acc.2||pref true ((rankAt true f w i (wldF f i w)[j]:Nat):Int) acc.1.rank then({world:=(w:Int),outcome:=(j:Int),rank:=((rankAt true f w i (wldF f i w)[j]:Nat):Int):ranks_place},true)else acc:=by
     unfold stepO;rw[d.get]
    rw[g];refine Ev.bind (v:=bif ((wldF f i w)[j]).Out then acc else bif !acc.2||pref true ((rankAt true f w i (wldF f i w)[j]:Nat):Int) acc.1.rank then({world:=(w:Int),outcome:=(j:Int),rank:=((rankAt true f w i (wldF f i w)[j]:Nat):Int):ranks_place},true)else acc) ?_ (Qa _);refine Ys (λ_=>Qa _) λe=>?_;refine Ev.bind (Ql0 f o hi a (m _ d.mem) e) ?_;refine Ev.bind (v:= !acc.2||pref true ((rankAt true f w i (wldF f i w)[j]:Nat):Int) acc.1.rank) (Qf λ_=>by unfold F_ar;exact Qa _) ?_;cases !acc.2||pref true ((rankAt true f w i (wldF f i w)[j]:Nat):Int) acc.1.rank<;>exact Qa _
   .unfold F_mp;simp only[Yc,cond_false];exact Qa _
 refine Ev.bind b (Qa _)
theorem Qj9(f:Field)(o:FieldOk f){i:Nat}(hi:i<f.Runners.length):Ev (λn=>F_bq n f (i:Int)) (driveP false f i):=by
 have t:=o.few.runs;unfold F_bq F_aa;simp only[XQ];refine Ev.bind (Qdf f o) ?_;have b:Ev (λn=>QbI (F_jq n f (i:Int)) ((worldsN f).map λ(w:Nat)=>(w:Int)) (z_ranks_place,false)) (.cont (driveP false f i)):=by
  have:=QdT (step:=λn=>F_jq n f (i:Int)) (λs (x:Int)=>driveW false f i s x.toNat) ((worldsN f).map λ(w:Nat)=>(w:Int)) (z_ranks_place,false) (λs x q=>?_)
  .refine this.eq ?_;rw[List.foldl_map];simp only[Int.toNat_natCast];rfl
  .obtain⟨w,p,rfl⟩:=Xf.1 q;obtain⟨a,_⟩:=Qca p;obtain⟨l,h,r,m⟩:=QaL o hi a;unfold F_jq;simp only[l,h,XQ];refine Ev.bind (v:=driveW false f i s w) ?_ (Qa _);refine Ev.iter (λj=>(((List.range j).foldl (stepO false f i w) s).1,((List.range j).foldl (stepO false f i w) s).2,(j:Int))) (wldF f i w).length rfl (λj k=>?_) ?_
   .have d:=atN (by omega) k;unfold F_ls;simp only[d.lt,cond_true,d.ix,XQ,d.nx,YT];generalize(List.range j).foldl (stepO false f i w) s=acc;have g:stepO false f i w acc j=bif ((wldF f i w)[j]).Out then acc else bif !acc.2||pref false ((rankAt false f w i (wldF f i w)[j]:Nat):Int) acc.1.rank then({world:=(w:Int),outcome:=(j:Int),rank:=((rankAt false f w i (wldF f i w)[j]:Nat):Int):ranks_place},true)else acc:=by
     unfold stepO;rw[d.get]
    rw[g];refine Ev.bind (v:=bif ((wldF f i w)[j]).Out then acc else bif !acc.2||pref false ((rankAt false f w i (wldF f i w)[j]:Nat):Int) acc.1.rank then({world:=(w:Int),outcome:=(j:Int),rank:=((rankAt false f w i (wldF f i w)[j]:Nat):Int):ranks_place},true)else acc) ?_ (Qa _);refine Ys (λ_=>Qa _) λe=>?_;refine Ev.bind (QlZ f o hi a (m _ d.mem) e) ?_;refine Ev.bind (v:= !acc.2||pref false ((rankAt false f w i (wldF f i w)[j]:Nat):Int) acc.1.rank) (Qf λ_=>by unfold F_bd;exact Qa _) ?_;cases !acc.2||pref false ((rankAt false f w i (wldF f i w)[j]:Nat):Int) acc.1.rank<;>exact Qa _
   .unfold F_ls;simp only[Yc,cond_false];exact Qa _
 refine Ev.bind b (Qa _)
def outW(f:Field)(i w:Nat):Bool:=(wldF f i w).any λx=>x.Out
def bibF(f:Field)(i:Nat):Int:=((f.Runners[i]?).map (·.Bib)).getD 0
def rank0(f:Field)(i:Nat):Rank:={z_Rank with Bib:=bibF f i,Kind:=3,Out:=(worldsN f).any (outW f i)}
def ofP(f:Field)(i:Nat):Rank:=
 bif !(driveP true f i).2 then rank0 f i else
 bif ((driveP true f i).1.rank==(driveP false f i).1.rank)&& !(rank0 f i).Out then {rank0 f i with Kind:=1,Lo:=(driveP true f i).1.rank,Hi:=(driveP false f i).1.rank}else {rank0 f i with Kind:=2,Lo:=(driveP true f i).1.rank,Hi:=(driveP false f i).1.rank}
theorem ev_of(f:Field)(o:FieldOk f){i:Nat}(hi:i<f.Runners.length):Ev (λn=>F_ev n f (i:Int)) (ofP f i):=by
 have q:bibF f i=(f.Runners[i]).Bib:=by unfold bibF;rw[XR hi];rfl
 unfold F_ev F_aa F_dn F_cl;simp only[Qo (XR hi),XQ];refine Ev.bind (Qdf f o) ?_;have b:Ev (λn=>QbI (F_lh n f (i:Int)) ((worldsN f).map λ(w:Nat)=>(w:Int)) ({z_Rank with Bib:=(f.Runners[i]).Bib,Kind:=3:Rank})) (.cont (rank0 f i)):=by
  have:=QdT (step:=λn=>F_lh n f (i:Int)) (λs (x:Int)=>{s with Out:=s.Out||outW f i x.toNat:Rank}) ((worldsN f).map λ(w:Nat)=>(w:Int)) ({z_Rank with Bib:=(f.Runners[i]).Bib,Kind:=3:Rank}) (λs x h=>?_)
  .refine this.eq ?_;rw[List.foldl_map];simp only[Int.toNat_natCast];have g:∀(l:List Nat) (s:Rank),l.foldl (λs w=>{s with Out:=s.Out||outW f i w:Rank}) s={s with Out:=s.Out||l.any (outW f i)}:=by
    intro l
    induction l with
    |nil=>intro s;simp
    |cons a l m=>intro s;rw[XK,m,List.any_cons,Bool.or_assoc]
   rw[g];unfold rank0;rw[q];simp[z_Rank]
  .obtain⟨w,r,rfl⟩:=Xf.1 h;obtain⟨e,_⟩:=Qca r;obtain⟨p,j,t,u⟩:=QaL o hi e;have d:Ev (λn=>F_cz n (wldF f i w)) (outW f i w):=by
    unfold F_cz F_hi outW;refine Ev.contains (wldF f i w) (λx=>x.Out) (λn x=>(F_ey n x).bind λ_=>some x.Out) (by omega) λx h=>?_;unfold F_ey;exact Qa _
   unfold F_lh;simp only[p,j,XQ,Int.toNat_natCast];refine Ev.bind (v:={s with Out:=s.Out||outW f i w:Rank}) ?_ (Qa _);cases k:s.Out with
   |true=>exact(Qa _).eq (by simp)
   |false=>exact Ev.bind d ((Qa _).eq (by simp))
 refine Ev.bind b ?_;refine Ev.bind (Qka f o hi) ?_;unfold ofP;refine Ys (λ_=>Qa _) λ_=>?_;refine Ev.bind (Qj9 f o hi) ?_;refine Ev.bind (v:=((driveP true f i).1.rank==(driveP false f i).1.rank)&& !(rank0 f i).Out) (Ev.and λ_=>Qa _) ?_;cases((driveP true f i).1.rank==(driveP false f i).1.rank)&& !(rank0 f i).Out<;>exact Qa _
def allP(f:Field):List Rank:=(List.range f.Runners.length).map (ofP f)
theorem QoB(f:Field)(k:FewF f):Ev (λn=>F_bn n f) (bif fieldB f then(allP f,0)else([],240)):=by
 have d:=k.runs;unfold F_bn F_gs;refine Ev.bind (v:=bif fieldB f then 0 else 240) (Ev.bind (QhA f k) ?_) ?_
 .cases fieldB f with
  |false=>exact Qa _
  |true=>
   refine QN (Ev.bind (v:=Ctl.cont ()) ?_ (Qa _));refine Qbi 1 ?_;rfl
 .cases b:fieldB f with
  |false=>exact Qa _
  |true=>
   have o:=QaI k b;refine QN (Ev.bind (v:=allP f) ?_ (Qa _));unfold allP;refine Ev.iter (λi=>((List.range i).map (ofP f),(i:Int))) f.Runners.length rfl (λi a=>?_) ?_
   .unfold F_lx;simp only[ltN a,cond_true,Ye (show i<=1048576 by omega)];refine Ev.bind (ev_of f o a) ?_;rw[Qcj (by simp;omega)];refine(Qa _).eq ?_;rw[Xz,Xg];rfl
   .unfold F_lx;simp only[geN (X0 _),cond_false];exact Qa _
theorem QiR{α:Type}{step:Nat->List α×Int->Option (Ctl (List α×Int) (List α))}(l:List α)(q:α->Bool)(d:l.length<=1048576)
  (e:∀i x acc,At l i x->acc.length<=i->Ev (λn=>step n (acc,(i:Int))) (.cont ((bif q x then acc++[x]else acc),((i+1:Nat):Int))))(f:∀acc,Ev (λn=>step n (acc,(l.length:Int))) (.done acc)):
  Ev (λn=>Go.Sw.iter (step n) n ([],0)) (l.filter q):=by
 refine Ev.iter (λi=>((l.take i).filter q,(i:Int))) l.length (by simp) (λi b=>?_) ((f _).eq (by rw[Vh]));have a:=atN d b;refine(e i _ _ a (X3 (List.length_filter_le ..) (by simp;omega))).eq ?_;rw[a.take,List.filter_append];cases h:q l[i]<;>simp[h]
theorem QmL{α T:Type}{step:Nat->Int->Option (List T×Ctl Int Unit)}(l:List α)(g:α->T)(k:l.length<=1048576)
  (f:∀i x,At l i x->Ev (λn=>step n (i:Int)) ([g x],.cont ((i+1:Nat):Int)))(h:Ev (λn=>step n (l.length:Int)) ([],.done ())):EvL step 0 (l.map g,()):=by
 have loop:∀(r:List α) (i:Nat),l.drop i=r->i<=l.length->EvL step (i:Int) (r.map g,()):=by
  intro r
  induction r with
  |nil=>
   intro i b e;have:i=l.length:=by have:=Xt.1 b;omega
   subst this;exact EvL.done h
  |cons x r j=>
   intro i b e;obtain⟨d,a⟩:=Qq (by omega) b;exact EvL.cont (f i x d) (j (i+1) a (by have:=d.lt';omega))
 exact loop l 0 rfl (X2 _)
abbrev MapI:=List (Int×Int)
def amtS(d k:Int)(m:MapI)(p:Prize):MapI:=bif (p.Distance==d)&&(p.Category==k)then Q7 m p.Rank p.Amount else m
def amtF(c:Course)(d k:Int):MapI:=c.Prizes.foldl (amtS d k) []
theorem Qjt(d k:Int):∀(l:List Prize) (m:MapI),(l.foldl (amtS d k) m).length<=m.length+l.length
 |[],m=>X0 _
 |p::l,m=>by
  have h:=Qjt d k l (amtS d k m p);have h2:(amtS d k m p).length<=m.length+1:=by
   unfold amtS;cases(p.Distance==d)&&(p.Category==k)with
   |false=>simp
   |true=>exact Qg7 m _ _
  rw[XK,X8];omega
theorem QfY(d k:Int):∀(l:List Prize) (m:MapI),(m.map Prod.fst).Nodup->((l.foldl (amtS d k) m).map Prod.fst).Nodup
 |[],m,h=>h
 |p::l,m,h=>by
  refine QfY d k l _ ?_;unfold amtS;cases(p.Distance==d)&&(p.Category==k)with
  |false=>exact h
  |true=>exact Qek _ _ h
theorem Qiy(c:Course)(d k:Int)(a:c.Prizes.length<=1048576):Ev (λn=>F_bc n c d k) (amtF c d k):=by
 unfold F_bc;refine Ev.bind (Qbt (step:=λn=>F_ka n c d k) c.Prizes (amtS d k) [] (λm i=>(m,(i:Int))) (λm=>m) (by omega) rfl (λi x m ha _=>?_) ?_) (Qa _)
 .unfold F_ka;simp only[ha.lt,cond_true,ha.ix,XQ,ha.nx];refine Ev.bind (v:=(x.Distance==d)&&(x.Category==k)) (Ev.and λ_=>Qa _) ?_;unfold amtS;cases(x.Distance==d)&&(x.Category==k)<;>exact Qa _
 .unfold F_ka;simp only[Yc,cond_false];exact Qa _
def keysS(m:MapI):List Int:=Qa8 ltI (m.map Prod.fst)
theorem QfF(m:MapI):(keysS m).length=m.length:=by unfold keysS;rw[(Yd _ _).length_eq,X9]
theorem Qil(m:MapI)(b:m.length<=1048576):Ev (λn=>F_ex n m) (keysS m):=by
 unfold F_ex Qmn;have d:Nat.ble (List.map Prod.fst m).length Q5=true:=Qnb (by rw[X9];exact b);rw[d];refine Qh2 (Ev.anyP λp a=>?_);have:p.length=m.length:=by rw[a.length_eq,X9]
 rw[Qk5 p (by omega),QjW a];exact Qa _
def ordP(m:MapI):List (Int×Int):=(keysS m).map λk=>(k,QU m k 0)
theorem QeP(m:MapI)(b:m.length<=1048576):Ev (λn=>F_as n m) (ordP m,()):=by
 unfold F_as F_gt;simp only[XQ];refine Ev.bind (Qil m b) ?_;have h:=QfF m;refine Ev.bind (QmL (step:=λn=>F_jx n m (keysS m)) (keysS m) (λk=>(k,QU m k 0)) (by omega) (λi x a=>?_) ?_).ev ((Qa _).eq ?_)
 .unfold F_jx;simp only[a.lt,cond_true,a.ix,XQ,a.nx];exact Qa _
 .unfold F_jx;simp only[Yc,cond_false];exact Qa _
 .unfold ordP;simp
def candB(k:Int)(r:Rank):Bool:=(r.Kind != 3)&&(decide (r.Lo<=k)&&decide (k<=r.Hi))
def candP(all:List Rank)(k:Int):List Rank:=all.filter (candB k)
theorem Ql9(all:List Rank)(k:Int)(e:all.length<=1048576):Ev (λn=>F_ay n all k) (candP all k):=by
 unfold F_ay;refine Ev.bind (QiR (step:=λn=>F_kg n all k) all (candB k) e (λi x a b d=>?_) λa=>?_) (Qa _)
 .have f:=b.lt';unfold F_kg;simp only[b.lt,cond_true,b.ix,XQ,b.nx,Qcj (show a.length<=140737488 by omega)];refine Ev.bind (v:=candB k x) (Ev.and λ_=>Ev.and λ_=>Qa _) ?_;cases candB k x<;>exact Qa _
 .unfold F_kg;simp only[Yc,cond_false];exact Qa _
def divS(all:List Rank)(s:List Int×MapI)(x:Int×Int):List Int×MapI:=
 match candP all x.1 with
 |[]=>s
 |r::t=>bif t.isEmpty&&(r.Kind==1)then(s.1,Q7 s.2 r.Bib x.2)else(s.1++[x.1],s.2)
theorem QhI(all:List Rank)(s:List Int×MapI)(x:Int×Int):(divS all s x).1.length<=s.1.length+1/\(divS all s x).2.length<=s.2.length+1:=by
 unfold divS;cases candP all x.1 with
 |nil=>exact⟨by simp,by simp⟩
 |cons r t=>
  simp only;cases t.isEmpty&&(r.Kind==1)with
  |true=>exact⟨by simp,Qg7 _ _ _⟩
  |false=>exact⟨by simp,by simp⟩
theorem Qjk(all:List Rank):∀(l:List (Int×Int)) (s:List Int×MapI),(l.foldl (divS all) s).1.length<=s.1.length+l.length/\(l.foldl (divS all) s).2.length<=s.2.length+l.length
 |[],s=>⟨X0 _,X0 _⟩
 |x::l,s=>by
  have h:=Qjk all l (divS all s x);have h2:=QhI all s x;rw[XK,X8];omega
def divF(all:List Rank)(m:MapI):List Int×MapI:=(ordP m).foldl (divS all) ([],[])
theorem Qei(m:MapI):(ordP m).length=m.length:=by unfold ordP;rw[X9,QfF]
theorem QhJ(all:List Rank)(m:MapI):(divF all m).1.length<=m.length/\(divF all m).2.length<=m.length:=by
 have h:=Qjk all (ordP m) ([],[]);rw[Qei]at h;simpa[divF]using h
theorem QfN(all:List Rank)(e:Int)(a:all.length<=1048576):∀(l:List (Int×Int)) (s:List Int×MapI),s.1.length+l.length<=1048576->
  Ev (λn=>QbI (F_jf n (all,e)) l s) (.cont (l.foldl (divS all) s))
 |[],s,_=>Qa _
 |x::l,s,h=>by
  rw[X8]at h;have step:Ev (λn=>F_jf n (all,e) s x) (.cont (divS all s x)):=by
   unfold F_jf;refine Ev.bind (Ql9 all x.1 a) ?_;unfold divS;cases g:candP all x.1 with
   |nil=>exact Qa _
   |cons r t=>
    have d:(((r::t).length:Int)==0)=false:=beq_false_of_ne (by rw[X8];omega);have b:(((r::t).length:Int)==1)=t.isEmpty:=by
     cases t with
     |nil=>rfl
     |cons y t=>exact beq_false_of_ne (by rw[X8,X8];omega)
    have f:idx (r::t) 0=some r:=Qo (i:=0) rfl;simp only[d,cond_false,b,f,XQ,Qcj (show s.1.length<=140737488 by omega)];refine Ev.bind (v:=bif t.isEmpty&&(r.Kind==1)then(s.1,Q7 s.2 r.Bib x.2)else(s.1++[x.1],s.2)) ?_ ?_
    .refine Ev.bind (v:=t.isEmpty&&(r.Kind==1)) (Ev.and λ_=>Qa _) ?_;cases t.isEmpty&&(r.Kind==1)<;>exact Qa _
    .exact Qa _
  refine Ev.bind step (QfN all e a l _ ?_);have:=(QhI all s x).1;omega
def checkV(e:Int)(c:Course)(f:Field)(d k:Int):Int:=
 bif e != 0 then e else bif decide (d<0)||(decide ((c.Distances.length:Int)<=d)||(decide (k< -1)||decide ((c.Categories.length:Int)<=k)))then 310 else bif fieldB f then 0 else 240
theorem Qj2(c:Course)(f:Field)(d k e:Int)(he:Ev (λn=>F_p n c) e)(a:FewF f):Ev (λn=>F_bi n c f d k) (checkV e c f d k):=by
 unfold F_bi checkV;refine Ev.bind he ?_;refine Ys (λ_=>Qa _) λ_=>?_;refine Ev.bind (v:=decide (d<0)||(decide ((c.Distances.length:Int)<=d)||(decide (k< -1)||decide ((c.Categories.length:Int)<=k)))) (Qf λ_=>Qf λ_=>Qf λ_=>Qa _) ?_;refine Ys (λ_=>Qa _) λ_=>?_;refine Ev.bind (QhA f a) ?_;cases fieldB f<;>exact Qa _
theorem QaS{e:Int}{c:Course}{f:Field}{d k:Int}(h:(checkV e c f d k != 0)=false):fieldB f=true:=by
 unfold checkV at h;cases q:(e != 0)with
 |true=>rw[q]at h;simp only[cond_true]at h;rw[q]at h;cases h
 |false=>
  rw[q]at h;cases a:(decide (d<0)||(decide ((c.Distances.length:Int)<=d)||(decide (k< -1)||decide ((c.Categories.length:Int)<=k))))with
  |true=>rw[a]at h;simp at h
  |false=>
   rw[a]at h;cases b:fieldB f with
   |true=>rfl
   |false=>rw[b]at h;simp at h
def divV(e:Int)(c:Course)(f:Field)(d k:Int):U_prizes_divide:=
 bif checkV e c f d k != 0 then .c0 (checkV e c f d k)else .c2 ((divF (allP f) (amtF c d k)).2,(divF (allP f) (amtF c d k)).1)
theorem QeY(c:Course)(d k:Int):(amtF c d k).length<=c.Prizes.length:=by have:=Qjt d k c.Prizes [];simpa[amtF]using this
theorem Qmp(f:Field):(allP f).length=f.Runners.length:=by simp[allP]
theorem QfS(c:Course)(f:Field)(d k e:Int)(he:Ev (λn=>F_p n c) e)(a:FewF f)(g:c.Prizes.length<=1048576):Ev (λn=>F_az n c f d k) (divV e c f d k):=by
 have i:=QeY c d k;unfold F_az divV;refine Ev.bind (Qj2 c f d k e he a) ?_;cases h:(checkV e c f d k != 0)with
 |true=>exact Qa _
 |false=>
  have b:=QaS h;refine QN (Ev.bind (QoB f a) ?_);rw[b];simp only[cond_true,bne_self_eq_false,cond_false];refine Ev.bind (Qiy c d k g) ?_;unfold F_bg;simp only[XQ];refine Ev.bind (QeP _ (by omega)) ?_;refine Ev.bind (QfN (allP f) 0 (by rw[Qmp];have:=a.runs;omega) (ordP (amtF c d k)) ([],[]) (by rw[Qei];simp;omega)) ?_;exact Qa _
def payP(m:MapI):List Payment:=(ordP m).map λp=>{Bib:=p.1,Amount:=p.2}
theorem Qhv(m:MapI)(b:m.length<=1048576):Ev (λn=>F_ax n m) (payP m):=by
 unfold F_ax F_bg;simp only[XQ];refine Ev.bind (QeP m b) ?_;have a:∀(l:List (Int×Int)) (s:List Payment),s.length+l.length<=1048576->Ev (λn=>QbI (F_kh n) l s) (.cont (s++l.map λp=>({Bib:=p.1,Amount:=p.2}:Payment))):=by
  intro l
  induction l with
  |nil=>intro s _;exact(Qa _).eq (by simp)
  |cons x l d=>
   intro s h;rw[X8]at h;have step:Ev (λn=>F_kh n s x) (.cont (s++[({Bib:=x.1,Amount:=x.2}:Payment)])):=by
    unfold F_kh;rw[Qcj (by omega)];exact Qa _
   refine Ev.bind step ((d _ (by simp;omega)).eq ?_);simp
 refine Ev.bind (a (ordP m) [] (by rw[Qei];simpa using b)) ((Qa _).eq ?_);simp[payP]
def certV(e:Int)(c:Course)(f:Field)(d k:Int):List Payment×Int:=bif checkV e c f d k != 0 then([],checkV e c f d k)else(payP (divF (allP f) (amtF c d k)).2,0)
def openV(e:Int)(c:Course)(f:Field)(d k:Int):List Int×Int:=bif checkV e c f d k != 0 then([],checkV e c f d k)else((divF (allP f) (amtF c d k)).1,0)
theorem QiA(c:Course)(f:Field)(d k e:Int)(he:Ev (λn=>F_p n c) e)(a:FewF f)(b:c.Prizes.length<=1048576):Ev (λn=>F_ah n c f d k) (certV e c f d k):=by
 have g:=QeY c d k;have i:=(QhJ (allP f) (amtF c d k)).2;unfold F_ah certV;refine Ev.bind (QfS c f d k e he a b) ?_;unfold divV;cases h:(checkV e c f d k != 0)with
 |true=>
  simp only[cond_true,h];exact Qa _
 |false=>
  simp only[cond_false];exact Ev.bind (Qhv _ (by omega)) (Qa _)
theorem Qnp(c:Course)(f:Field)(d k e:Int)(he:Ev (λn=>F_p n c) e)(a:FewF f)(b:c.Prizes.length<=1048576):Ev (λn=>F_ai n c f d k) (openV e c f d k):=by
 unfold F_ai openV;refine Ev.bind (QfS c f d k e he a b) ?_;unfold divV;cases h:(checkV e c f d k != 0)with
 |true=>simp only[cond_true];exact Qa _
 |false=>simp only[cond_false];exact Qa _
theorem few25(f:Field)(w:Field.wf f):∃b,Ev (λn=>F_fh n f) b/\(b=true->FewF f):=by
 obtain⟨⟨⟨G,_⟩,⟨u,z⟩,_⟩,⟨J,_⟩,⟨P,g⟩,_⟩:=w;have d:∀r∈f.Runners,r.Keys.length<=1048576/\r.Worlds.length<=1048576/\ ∀x∈r.Worlds,x.length<=1048576:=λr a=>⟨(g r a).2.1.1,(g r a).2.2.1.1,λx m=>((g r a).2.2.1.2 x m).1⟩;have F:Runner->Bool:=λr=>true
 let okR:Runner->Bool:=λr=> !(decide (5<(r.Keys.length:Int))||decide (4<(r.Worlds.length:Int)))&&r.Worlds.all λx=> !decide (4<(x.length:Int))
 have p:Ev (λn=>iter (F_jo n f) n 0) (bif f.Runners.all okR then Ctl.cont ()else Ctl.done false):=by
  refine QA f.Runners okR _ _ (by omega) (λi x e=>?_) ?_
  .obtain⟨B,H,N⟩:=d x e.mem;unfold F_jo;simp only[e.lt,cond_true,e.ix,XQ,e.nx];refine Ev.bind (v:=decide (5<(x.Keys.length:Int))||decide (4<(x.Worlds.length:Int))) (Qf λ_=>Qa _) ?_;show Ev _ (bif !(decide (5<(x.Keys.length:Int))||decide (4<(x.Worlds.length:Int)))&&x.Worlds.all (λx=> !decide (4<(x.length:Int)))then _ else _);cases decide (5<(x.Keys.length:Int))||decide (4<(x.Worlds.length:Int))with
   |true=>exact Qa _
   |false=>
    simp only[cond_false,Xi,Bool.true_and];refine Ev.bind (QA x.Worlds (λx=> !decide (4<(x.length:Int))) (Ctl.done (Ctl.done (Ctl.done false))) (Ctl.cont ()) (by omega) (λj y l=>?_) ?_) ?_
    .unfold F_mr;simp only[l.lt,cond_true,l.ix,XQ,l.nx];cases decide (4<(y.length:Int))<;>exact Qa _
    .unfold F_mr;simp only[Yc,cond_false];exact Qa _
    .cases x.Worlds.all λx=> !decide (4<(x.length:Int))<;>exact Qa _
  .unfold F_jo;simp only[Yc,cond_false];exact Qa _
 have s:Ev (λn=>iter (F_kp n f) n 0) (bif f.Clocks.Far.all (λx=> !decide (8<(x.length:Int)))then Ctl.cont ()else Ctl.done false):=by
  refine QA f.Clocks.Far _ _ _ (by omega) (λi x e=>?_) ?_
  .unfold F_kp;simp only[e.lt,cond_true,e.ix,XQ,e.nx];cases decide (8<(x.length:Int))<;>exact Qa _
  .unfold F_kp;simp only[Yc,cond_false];exact Qa _
 refine⟨f.Runners.all okR&&(f.Clocks.Far.all (λx=> !decide (8<(x.length:Int)))&&(decide ((f.Runners.length:Int)<=6)&&(decide ((f.Pairs.length:Int)<=3)&&(decide ((f.Clocks.Segments.length:Int)<=4)&&decide ((f.Clocks.Far.length:Int)<=6))))),?_,λh=>?_⟩
 .unfold F_fh;refine Ev.bind p ?_;cases f.Runners.all okR with
  |false=>exact Qa _
  |true=>
   refine Ev.bind s ?_;cases f.Clocks.Far.all (λx=> !decide (8<(x.length:Int)))with
   |false=>exact Qa _
   |true=>exact Ev.bind (Ev.and λ_=>Ev.and λ_=>Ev.and λ_=>Qa _) (Qa _)
 .simp only[X4,decide_eq_true_eq]at h;obtain⟨t,q,E,M,O,L⟩:=h;have k:∀r∈f.Runners,r.Keys.length<=5/\r.Worlds.length<=4/\ ∀x∈r.Worlds,x.length<=4:=by
   intro r a;have:=Xw.1 t r a;simp only[okR,X4,Bool.not_eq_true',X5,decide_eq_false_iff_not]at this;refine⟨by omega,by omega,λx m=>?_⟩;have:=Xw.1 this.2 x m;simp only[Bool.not_eq_true',decide_eq_false_iff_not]at this;omega
  refine⟨by omega,by omega,by omega,by omega,λr a=>?_,λr a=>(k r a).1,λr a=>(k r a).2.1,λr a=>(k r a).2.2⟩;have:=Xw.1 q r a;simp only[Bool.not_eq_true',decide_eq_false_iff_not]at this;omega
theorem QoG{f:Field}(h:runsB f=true){i:Nat}(hi:i<f.Runners.length):lastB f i<(f.Runners[i]).Bib:=by
 have:=QjN.1 h i hi;unfold runB at this;rw[XR hi]at this;simp only[runBad,X4,Bool.not_eq_true',X5,decide_eq_false_iff_not]at this;omega
theorem QeX{f:Field}(h:runsB f=true):∀(j i:Nat) (hi:i<f.Runners.length) (a:j<f.Runners.length),i<j->(f.Runners[i]).Bib<(f.Runners[j]).Bib
 |0,i,hi,a,hij=>by omega
 |j+1,i,hi,a,hij=>by
  have h1:=QoG h a;have e:lastB f (j+1)=(f.Runners[j]).Bib:=by
   show((f.Runners[j]?).map (·.Bib)).getD 0=_;rw[XR (by omega)];rfl
  rw[e]at h1;by_cases q:i=j
  .subst q;exact h1
  .have:=QeX h j i hi (by omega) (by omega);omega
theorem FieldOk.runs{f:Field}(o:FieldOk f):runsB f=true:=by
 have:=o.ok;simp only[fieldB,X4]at this;exact this.2.2.1
theorem Qnu{f:Field}(o:FieldOk f){i j:Nat}(hi:i<f.Runners.length)(a:j<f.Runners.length)(e:(f.Runners[i]).Bib=(f.Runners[j]).Bib):i=j:=by
 rcases Nat.lt_trichotomy i j with q|q|q
 .have:=QeX o.runs j i hi a q;omega
 .exact q
 .have:=QeX o.runs i j a hi q;omega
theorem Qc8(a:Bool)(f:Field)(w i:Nat)(x:Outcome)(hi:i<f.Runners.length):1<=rankAt a f w i x/\rankAt a f w i x<=f.Runners.length:=by
 unfold rankAt;have b:∀k,cntR (rivalP a f w i x) k+(if i<k then 1 else 0)<=k:=by
  intro k
  induction k with
  |zero=>simp[cntR]
  |succ k d=>
   rw[Qdh];by_cases e:k=i
   .subst e;have:rivalP a f w k x k=false:=by unfold rivalP;rw[Nat.beq_refl];rfl
    rw[this];simp at d⊢;omega
   .cases rivalP a f w i x k<;>simp<;>split at d<;>split<;>omega
 have:=b f.Runners.length;rw[if_pos hi]at this;omega
def PlaceOk(f:Field)(a:PlB):Prop:=a.2=true->1<=a.1.rank/\a.1.rank<=(f.Runners.length:Int)
theorem Qk0(a:Bool){f:Field}{i:Nat}(hi:i<f.Runners.length)(w:Nat)(b:PlB)(j:Nat)(h:PlaceOk f b):PlaceOk f (stepO a f i w b j):=by
 unfold stepO;cases(wldF f i w)[j]? with
 |none=>exact h
 |some x=>
  simp only;cases x.Out with
  |true=>exact h
  |false=>
   simp only[cond_false];cases !b.2||pref a ((rankAt a f w i x:Nat):Int) b.1.rank with
   |false=>exact h
   |true=>
    intro _;have:=Qc8 a f w i x hi;simp only[cond_true];omega
theorem Qgq{α:Type}{f:Field}(g:PlB->α->PlB)(hg:∀a x,PlaceOk f a->PlaceOk f (g a x)):∀(l:List α) (a:PlB),PlaceOk f a->PlaceOk f (l.foldl g a)
 |[],a,h=>h
 |x::l,a,h=>Qgq g hg l _ (hg a x h)
theorem QhF(best:Bool){f:Field}{i:Nat}(hi:i<f.Runners.length):PlaceOk f (driveP best f i):=
 Qgq _ (λa w h=>Qgq _ (λa j h=>Qk0 best hi w a j h) _ _ h) _ _ λh=>by cases h
theorem Qh7(k l:Bool)(f:Field)(i w:Nat)(g d:PlB)(j:Nat)(h:g.2=d.2):(stepO k f i w g j).2=(stepO l f i w d j).2:=by
 unfold stepO;cases(wldF f i w)[j]? with
 |none=>exact h
 |some x=>
  simp only;cases x.Out with
  |true=>exact h
  |false=>
   simp only[cond_false];have e:∀(b:Bool) (a:PlB),(bif !a.2||pref b ((rankAt b f w i x:Nat):Int) a.1.rank then(({world:=(w:Int),outcome:=(j:Int),rank:=((rankAt b f w i x:Nat):Int):ranks_place},true):PlB)else a).2=true:=by
    intro b a;cases q:a.2 with
    |false=>rfl
    |true=>cases pref b ((rankAt b f w i x:Nat):Int) a.1.rank<;>simp[q]
   rw[e k g,e l d]
theorem Qde{α:Type}(g1 g2:PlB->α->PlB)(hg:∀a1 a2 x,a1.2=a2.2->(g1 a1 x).2=(g2 a2 x).2):∀(l:List α) (a1 a2:PlB),a1.2=a2.2->(l.foldl g1 a1).2=(l.foldl g2 a2).2
 |[],_,_,h=>h
 |x::l,a1,a2,h=>Qde g1 g2 hg l _ _ (hg a1 a2 x h)
theorem QiB(f:Field)(i:Nat):(driveP true f i).2=(driveP false f i).2:=
 Qde (driveW true f i) (driveW false f i) (λa1 a2 w h=>Qde (stepO true f i w) (stepO false f i w) (λa1 a2 j h=>Qh7 true false f i w a1 a2 j h) _ _ _ h) _ _ _ rfl
theorem QdP(f:Field)(i:Nat):(ofP f i).Bib=bibF f i:=by
 unfold ofP;cases !(driveP true f i).2 with
 |true=>rfl
 |false=>
  simp only[cond_false];cases((driveP true f i).1.rank==(driveP false f i).1.rank)&& !(rank0 f i).Out<;>rfl
theorem Qlz{f:Field}{i:Nat}(hi:i<f.Runners.length)(h:((ofP f i).Kind != 3)=true):1<=(ofP f i).Lo/\(ofP f i).Hi<=(f.Runners.length:Int)/\(((ofP f i).Kind==1)=true->(ofP f i).Lo=(ofP f i).Hi):=by
 have a:=QhF true hi;have g:=QhF false hi;have j:=QiB f i;unfold PlaceOk at a g;unfold ofP at h⊢;cases q:(driveP true f i).2 with
 |false=>rw[q]at h;simp[rank0]at h
 |true=>
  have d:=a q;have b:=g (by rw[<- j];exact q);simp only[Xh,cond_false];cases z:((driveP true f i).1.rank==(driveP false f i).1.rank)&& !(rank0 f i).Out with
  |true=>
   simp only[cond_true];simp only[X4,beq_iff_eq]at z;exact⟨d.1,b.2,λ_=>z.1⟩
  |false=>
   simp only[cond_false];exact⟨d.1,b.2,λe=>by cases e⟩
theorem QcI{f:Field}{i:Nat}(hi:i<f.Runners.length):bibF f i=(f.Runners[i]).Bib:=by unfold bibF;rw[XR hi];rfl
theorem Qjv{f:Field}{r:Rank}(h:r∈allP f):∃i,i<f.Runners.length/\ofP f i=r:=by
 obtain⟨i,a,e⟩:=Xf.1 h;exact⟨i,by simpa using a,e⟩
theorem Qg1{f:Field}(o:FieldOk f){i j:Nat}(hi:i<f.Runners.length)(a:j<f.Runners.length)(e:(ofP f i).Bib=(ofP f j).Bib):i=j:=by
 rw[QdP,QdP,QcI hi,QcI a]at e;exact Qnu o hi a e
def matchP(d k r:Int)(p:Prize):Bool:=(p.Distance==d)&&((p.Category==k)&&(p.Rank==r))
def amountS(c:Course)(d k r:Int):Int:=((c.Prizes.find? (matchP d k r)).map (·.Amount)).getD 0
theorem QcE(c:Course)(d k r:Int)(h:c.Prizes.length<=1048576):Ev (λn=>F_aq n c d k r) (amountS c d k r):=by
 unfold F_aq;have loop:∀(t:List Prize) (i:Nat),c.Prizes.drop i=t->i<=c.Prizes.length->EvI (λn=>F_hy n c d k r) (i:Int) (match t.find? (matchP d k r)with|some p=>Ctl.done p.Amount|none=>Ctl.cont ()):=by
  intro t
  induction t with
  |nil=>
   intro i e f;refine EvI.done ?_;unfold F_hy;simp only[Q0 e f,cond_false];exact Qa _
  |cons p t g=>
   intro i e f;obtain⟨a,b⟩:=Qq (by omega) e;have step:Ev (λn=>F_hy n c d k r (i:Int)) (bif matchP d k r p then .done (.done p.Amount)else .cont ((i+1:Nat):Int)):=by
    unfold F_hy;simp only[a.lt,cond_true,a.ix,XQ,a.nx];refine Ev.bind (v:=matchP d k r p) (Ev.and λ_=>Ev.and λ_=>Qa _) ?_;cases matchP d k r p<;>exact Qa _
   rw[List.find?_cons];cases q:matchP d k r p with
   |true=>rw[q]at step;exact EvI.done step
   |false=>rw[q]at step;exact EvI.cont step (g (i+1) b (by have:=a.lt';omega))
 refine Ev.bind (loop c.Prizes 0 rfl (X2 _)).ev ?_;unfold amountS;cases c.Prizes.find? (matchP d k r)<;>exact Qa _
theorem Qju(d k r:Int):∀(l:List Prize) (m:MapI),YN (l.foldl (amtS d k) m) r=match(l.filter (matchP d k r)).getLast? with|some p=>some p.Amount|none=>YN m r
 |[],m=>rfl
 |p::l,m=>by
  rw[XK,Qju d k r l];have e:YN (amtS d k m p) r=if matchP d k r p=true then some p.Amount else YN m r:=by
   unfold amtS matchP;cases b:p.Distance==d with
   |false=>simp
   |true=>
    cases f:p.Category==k with
    |false=>simp
    |true=>
     simp only[Bool.true_and,cond_true];rw[Qa7];by_cases q:r=p.Rank
     .simp[q]
     .have:(p.Rank==r)=false:=beq_false_of_ne λz=>q z.symm;simp[q,this]
  rw[e,Xd];by_cases q:matchP d k r p=true
  .rw[if_pos q,if_pos q];cases h:l.filter (matchP d k r)with
   |nil=>rfl
   |cons a t=>rw[List.getLast?_cons_cons];cases z:(a::t).getLast? with
    |none=>simp at z
    |some y=>rfl
  .rw[if_neg q,if_neg q]
theorem QjR{c:Course}(h:(c.Prizes.map prizeKey).Nodup)(d k r:Int):(c.Prizes.filter (matchP d k r)).length<=1:=by
 have e:((c.Prizes.filter (matchP d k r)).map prizeKey).Nodup:=(List.filter_sublist.map prizeKey).nodup h;have f:∀p∈c.Prizes.filter (matchP d k r),prizeKey p={distance:=d,category:=k,rank:=r}:=by
  intro p i;have:=(Xe.1 i).2;simp only[matchP,X4,beq_iff_eq]at this;unfold prizeKey;rw[this.1,this.2.1,this.2.2]
 match hq:c.Prizes.filter (matchP d k r),e,f with
 |[],_,_=>simp
 |[a],_,_=>simp
 |a::b::t,e,f=>
  have g:=f a (by simp);have j:=f b (by simp);simp only[Vr,List.nodup_cons]at e;exact(e.1 (by rw[g,j];simp)).elim
structure PrizesOk (c:Course):Prop where
 keys:(c.Prizes.map prizeKey).Nodup
 pos:∀p∈c.Prizes,1<=p.Amount
theorem QhS{c:Course}(h:courseE c=0):PrizesOk c:=by
 have d:numbersS c=true:=by
  unfold courseE at h;cases a:fitsS c with
  |false=>rw[a]at h;simp at h
  |true=>
   cases b:namesS c with
   |false=>rw[a,b]at h;simp at h
   |true=>
    cases e:numbersS c with
    |true=>rfl
    |false=>rw[a,b,e]at h;simp at h
 unfold numbersS at d;simp only[X4,decide_eq_true_eq,Xw]at d;obtain⟨_,_,_,_,_,_,_,a,b,_⟩:=d;refine⟨b,λp f=>?_⟩;have:=a p f;simp only[prizeS,inR,X4,decide_eq_true_eq]at this;omega
theorem Qmo{c:Course}(o:PrizesOk c)(d k r:Int):YN (amtF c d k) r=(c.Prizes.find? (matchP d k r)).map (·.Amount):=by
 unfold amtF;rw[Qju, <- List.head?_filter];have:=QjR o.keys d k r
 match h:c.Prizes.filter (matchP d k r),this with
 |[],_=>rfl
 |[a],_=>rfl
 |a::b::t,z=>exact absurd z (by simp)
theorem QnA{c:Course}(o:PrizesOk c)(d k r:Int):r∈keysS (amtF c d k)↔0<amountS c d k r:=by
 have e:r∈keysS (amtF c d k)↔r∈(amtF c d k).map Prod.fst:=(Yd ltI _).mem_iff;rw[e,Qen,Qmo o];unfold amountS;cases h:c.Prizes.find? (matchP d k r)with
 |none=>simp
 |some p=>
  have:=o.pos p (List.mem_of_find?_eq_some h);simp;omega
theorem Qnz{c:Course}(o:PrizesOk c)(d k r:Int):QU (amtF c d k) r 0=amountS c d k r:=by
 have e:QU (amtF c d k) r 0=(YN (amtF c d k) r).getD 0:=by unfold QU;cases YN (amtF c d k) r<;>rfl
 rw[e,Qmo o];rfl
theorem QhL(c:Course)(w:CourseOk c)(q:PartsOk c)(k:FewL c)(g:c.Ties.length<=1048576)(h:∀x∈c.Ties,Step.wf x){e:Int}(he:Ev (λn=>F_p n c) e)(h0:(e != 0)=false):courseE c=0:=by
 have f:e=0:=by simpa[bne]using h0
 subst f;cases a:fitsG c with
 |false=>
  have:Ev (λn=>F_p n c) 2:=by
   unfold F_p;refine Ev.bind (Qhz c w q k) ?_;rw[a];exact Qa _
  have:=he.uniq this;cases this
 |true=>
  unfold fitsG at a;simp only[X4,Xw,Bool.not_eq_true',X5,decide_eq_false_iff_not]at a;have ff:FewOk c:=⟨k.lens,k.name,λd b=>⟨by have:=(k.dist d b).1;omega,by have:=(k.dist d b).2;omega,by have:=(a.2 d b).2;omega⟩,k.ties⟩;exact(he.uniq (QfT c w q ff g h)).symm
theorem leN{a b:Nat}(h:a<b+1):decide ((a:Int)<=(b:Int))=true:=decide_eq_true (by omega)
theorem Qig(b:Nat):decide (((b+1:Nat):Int)<=(b:Int))=false:=decide_eq_false (by omega)
theorem QlT(x:Int):Ev (λn=>F_eg n x) (timeB x):=by
 unfold F_eg timeB inR;exact Ev.bind (Ev.and λ_=>Qa _) (Qa _)
theorem QlY(x y:Segment):Ev (λn=>F_dz n x y) (segLt x y):=by
 unfold F_dz segLt;exact Ev.bind (Qf λ_=>Ev.and λ_=>Qa _) (Qa _)
theorem QlU(c:Clocks)(d:c.Segments.length<=1048576):Ev (λn=>iter (F_ks n c) n 0) (bif segsB c then Ctl.cont ()else Ctl.done 160):=by
 unfold segsB;refine YZ c.Segments.length _ _ _ (λi e=>?_) ?_
 .have a:=atN d e;unfold F_ks;simp only[a.lt,cond_true,a.ix,XQ,a.nx,a.get];refine Ev.bind (v:=segBad c i (c.Segments[i])) ?_ ?_
  .unfold segBad;refine Qf λ_=>Qf λ_=>Qf λ_=>Qf λ_=>Ev.bind (QlT _) (Qf λ_=>?_);unfold prevSeg;refine Ev.and λh=>?_;have f:0<i:=by have:=of_decide_eq_true h;omega
   have b:i-1<c.Segments.length:=by omega
   rw[Qew d f (by omega) (XR b),XR b];simp only[XQ];exact Ev.bind (QlY _ _) (Qa _)
  .cases segBad c i (c.Segments[i])<;>exact Qa _
 .unfold F_ks;simp only[Yc,cond_false];exact Qa _
theorem Qkr(l:List Int)(q:Int->Bool):(List.range l.length).all (λu=> !q ((l[u]?).getD 0))= !l.any q:=by
 rw[X6,QjN,Bool.not_eq_true',Bool.eq_false_iff];constructor
 .intro h e;obtain⟨x,b,d⟩:=Xx.1 e;obtain⟨i,a,f⟩:=List.mem_iff_getElem.1 b;have:=h i a;rw[XR a,f]at this;simp[d]at this
 .intro h i a;rw[XR a];cases z:q ((some l[i]).getD 0)with
  |false=>rfl
  |true=>exact(h (Xx.2 ⟨l[i],Vl a,z⟩)).elim
theorem QlW(c:Clocks)(h0:c.Segments.length<=1048576)(p:∀r∈c.Far,r.length<=1048576)(l:c.Far.length=c.Segments.length+1):
  Ev (λn=>iter (F_jm n c) n 0) (bif rowsB c then Ctl.cont ()else Ctl.done 160):=by
 unfold rowsB;rw[l];refine YZ (c.Segments.length+1) _ _ _ (λi k=>?_) ?_
 .have d:i<c.Far.length:=by omega
  have g:=XR d;unfold F_jm;simp only[leN k,cond_true,Qo g,g,XQ,Ye h0,Ye (show i<=1048576 by omega)];have j:(c.Far[i]).length<=1048576:=p _ (Vl d);refine Ev.bind (v:=((c.Far[i]).length:Int) != ((c.Segments.length+1:Nat):Int)||((c.Far[i])[i]?.getD 1 != 0)) ?_ ?_
  .refine Qf λh=>?_;have a:(c.Far[i]).length=c.Segments.length+1:=by
    have:((c.Far[i]).length:Int)=((c.Segments.length+1:Nat):Int):=by simpa[bne]using h
    omega
   have b:i<(c.Far[i]).length:=by omega
   rw[Qo (XR b),XR b];exact Qa _
  .unfold rowB;cases m:(((c.Far[i]).length:Int) != ((c.Segments.length+1:Nat):Int))with
   |true=>exact Qa _
   |false=>
    have a:(c.Far[i]).length=c.Segments.length+1:=by
     have:((c.Far[i]).length:Int)=((c.Segments.length+1:Nat):Int):=by simpa[bne]using m
     omega
    simp only[Bool.false_or];cases(c.Far[i])[i]?.getD 1 != 0 with
    |true=>exact Qa _
    |false=>
     simp only[Bool.false_or,cond_false];rw[<- Qkr,a];refine Ev.bind (YZ (c.Segments.length+1) (λu=> !farBad (((c.Far[i])[u]?).getD 0)) (Ctl.done (Ctl.done (Ctl.done 160))) (Ctl.cont ()) (λu q=>?_) ?_) ?_
     .have f:u<(c.Far[i]).length:=by omega
      have e:=XR f;unfold F_mb;simp only[leN q,cond_true,Qo g,Qo e,e,XQ,Option.getD_some,Ye (show u<=1048576 by omega)];refine Ev.bind (v:=farBad (c.Far[i])[u]) (by unfold farBad;exact Qf λ_=>Qa _) ?_;cases farBad (c.Far[i])[u]<;>exact Qa _
     .unfold F_mb;simp only[Qig,cond_false];exact Qa _
     .cases(List.range (c.Segments.length+1)).all λu=> !farBad (((c.Far[i])[u]?).getD 0)<;>exact Qa _
 .unfold F_jm;simp only[Qig,cond_false];exact Qa _
theorem Qni(c:Clocks)(d:Dims c):Ev (λn=>iter (F_kj n c) n 0) (bif triB c then Ctl.cont ()else Ctl.done 160):=by
 have p:=d.segs;unfold triB;refine YZ (c.Segments.length+1) _ _ _ (λi a=>?_) ?_
 .unfold F_kj;have g:=(d.get a a).1;simp only[leN a,cond_true,Ye (show i<=1048576 by omega)];refine Ev.bind (YZ (c.Segments.length+1) (λj=>(List.range (c.Segments.length+1)).all λk=> !decide (IntKind.i64.wrap (farG c i j+farG c j k)<farG c i k)) (Ctl.done (Ctl.done (Ctl.done 160))) (Ctl.cont ()) (λj b=>?_) ?_) ?_
  .unfold F_ma;have l:=(d.get a b).2;have h:=(d.get b b).1;simp only[leN b,cond_true,Ye (show j<=1048576 by omega)];refine Ev.bind (YZ (c.Segments.length+1) (λk=> !decide (IntKind.i64.wrap (farG c i j+farG c j k)<farG c i k)) (Ctl.done (Ctl.done (Ctl.done (Ctl.done (Ctl.done 160))))) (Ctl.cont ()) (λk e=>?_) ?_) ?_
   .unfold F_lq;have f:=(d.get b e).2;have m:=(d.get a e).2;simp only[leN e,cond_true,Qo g,Qo l,Qo h,Qo f,Qo m,XQ,Ye (show k<=1048576 by omega)];cases decide (IntKind.i64.wrap (farG c i j+farG c j k)<farG c i k)<;>exact Qa _
   .unfold F_lq;simp only[Qig,cond_false];exact Qa _
   .cases(List.range (c.Segments.length+1)).all λk=> !decide (IntKind.i64.wrap (farG c i j+farG c j k)<farG c i k)<;>exact Qa _
  .unfold F_ma;simp only[Qig,cond_false];exact Qa _
  .cases(List.range (c.Segments.length+1)).all λj=>(List.range (c.Segments.length+1)).all λk=> !decide (IntKind.i64.wrap (farG c i j+farG c j k)<farG c i k)<;>exact Qa _
 .unfold F_kj;simp only[Qig,cond_false];exact Qa _
theorem Qjf(c:Clocks)(w:ClkW c):Ev (λn=>F_bf n c) (bif clkB c then 0 else 160):=by
 unfold F_bf clkB;simp only[Ye w.segs];refine Ev.bind (Qf λ_=>Qa _) ?_;cases a:(decide (511<(c.Segments.length:Int))||((c.Far.length:Int) != ((c.Segments.length+1:Nat):Int)))with
 |true=>exact Qa _
 |false=>
  simp only[Xi,Bool.true_and,X5,decide_eq_false_iff_not]at a⊢;have b:c.Far.length=c.Segments.length+1:=by
   have:(c.Far.length:Int)=((c.Segments.length+1:Nat):Int):=by simpa[bne]using a.2
   omega
  refine QN (Ev.bind (QlU c w.segs) ?_);cases segsB c with
  |false=>exact Qa _
  |true=>
   refine Ev.bind (QlW c w.segs w.row b) ?_;cases d:rowsB c with
   |false=>exact Qa _
   |true=>
    refine Ev.bind (Qni c (Qgz a.1 b d)) ?_;cases triB c<;>exact Qa _
theorem Qm5(c:Clocks)(x:Outcome):outB c x= !(bif x.Out then((x.Seg != (-1))||((x.Lo != 0)||(x.Hi != 0)))else(decide (x.Seg<(-1))||(decide ((c.Segments.length:Int)<=x.Seg)||(decide (x.Lo<(-288230376151711744))||(decide (x.Hi<x.Lo)||decide (288230376151711744<x.Hi)))))):=by
 obtain⟨o,s,l,h⟩:=x;unfold outB;cases o with
 |true=>
  simp only[cond_true];rw[X6];simp[bne]
 |false=>
  simp only[cond_false,fineO];rw[X6];simp
theorem Qgr(c:Clocks)(w:ClkW c)(h:clkB c=true)(x:Outcome):Ev (λn=>F_et n c x) (bif outB c x then 0 else 230):=by
 unfold F_et;refine Ev.bind (Qjf c w) ?_;rw[h];refine QN (Ev.bind (v:= !outB c x) ?_ ?_)
 .rw[Qm5,Bool.not_not];cases a:x.Out with
  |true=>
   simp only[cond_true,Xh,cond_false];exact Qf λ_=>Qf λ_=>(Qf λ_=>Qa _).eq (Bool.or_false _)
  |false=>
   simp only[cond_false,Xi,cond_true];exact Qf λ_=>Qf λ_=>Qf λ_=>Qf λ_=>Qa _
 .cases outB c x<;>exact Qa _
theorem QfG{α:Type}{l:List α}{i:Nat}(hl:l.length<=1048576)(hi:i<l.length):idx l (IntKind.i64.wrap (((i+1:Nat):Int)-1))=some l[i]:=
 Qew hl (Nat.succ_pos i) (by omega) (XR hi)
theorem Qj0(f:Field)(g:f.Pairs.length<=1048576):Ev (λn=>iter (F_jk n f) n 0) (bif pairsB f then Ctl.cont ()else Ctl.done 240):=by
 unfold pairsB;refine YZ f.Pairs.length _ _ _ (λi d=>?_) ?_
 .have b:=atN g d;have e:lastP f (i+1)=f.Pairs[i]:=by show(f.Pairs[i]?).getD _=_;rw[XR d];rfl
  unfold F_jk;simp only[b.lt,cond_true,b.ix,XQ,b.nx,e];refine Ev.bind (v:=decide ((f.Pairs[i]).A<1)||(decide ((f.Pairs[i]).B<=(f.Pairs[i]).A)||decide (9999<(f.Pairs[i]).B))) (Qf λ_=>Qf λ_=>Qa _) ?_;have a:pairBad f.Pairs[i] (lastP f i)=((decide ((f.Pairs[i]).A<1)||(decide ((f.Pairs[i]).B<=(f.Pairs[i]).A)||decide (9999<(f.Pairs[i]).B)))||(decide ((f.Pairs[i]).A<(lastP f i).A)||(((f.Pairs[i]).A==(lastP f i).A)&&decide ((f.Pairs[i]).B<=(lastP f i).B)))):=by
   unfold pairBad;simp only[Bool.or_assoc]
  rw[a];cases h:(decide ((f.Pairs[i]).A<1)||(decide ((f.Pairs[i]).B<=(f.Pairs[i]).A)||decide (9999<(f.Pairs[i]).B)))with
  |true=>exact Qa _
  |false=>
   simp only[X5,decide_eq_false_iff_not]at h;simp only[cond_false,Bool.false_or];refine Ev.bind (v:=decide ((f.Pairs[i]).A<(lastP f i).A)||(((f.Pairs[i]).A==(lastP f i).A)&&decide ((f.Pairs[i]).B<=(lastP f i).B))) ?_ ?_
   .cases i with
    |zero=>
     have p:(decide ((f.Pairs[0]).A<(lastP f 0).A)||(((f.Pairs[0]).A==(lastP f 0).A)&&decide ((f.Pairs[0]).B<=(lastP f 0).B)))=false:=by
      have l:((f.Pairs[0]).A==(0:Int))=false:=beq_false_of_ne (by omega);show(decide ((f.Pairs[0]).A<0)||(((f.Pairs[0]).A==0)&&_))=false;rw[l,QD (show¬(f.Pairs[0]).A<0 by omega)];rfl
     rw[p];exact Qa _
    |succ j=>
     have m:lastP f (j+1)=f.Pairs[j]:=by show(f.Pairs[j]?).getD _=_;rw[XR (by omega)];rfl
     rw[m,QfG g (by omega)];simp only[QJ (show 0<((j+1:Nat):Int)by omega),cond_true,XQ];have k:((f.Pairs[j+1]).A==(f.Pairs[j]).A)=((f.Pairs[j]).A==(f.Pairs[j+1]).A):=by rw[X6];simp only[beq_iff_eq];exact⟨Eq.symm,Eq.symm⟩
     rw[k];exact Qf λ_=>Ev.and λ_=>Qa _
   .cases decide ((f.Pairs[i]).A<(lastP f i).A)||(((f.Pairs[i]).A==(lastP f i).A)&&decide ((f.Pairs[i]).B<=(lastP f i).B))<;>exact Qa _
 .unfold F_jk;simp only[Yc,cond_false];exact Qa _
theorem Qnk(x:Int):Ev (λn=>F_ec n x) (inR 1 9999 x):=by
 unfold F_ec F_gg inR;exact Ev.bind (Ev.bind (Ev.and λ_=>Qa _) (Qa _)) (Qa _)
theorem QlV(f:Field)(k:FewF f)(h:clkB f.Clocks=true):Ev (λn=>iter (F_kn n f) n 0) (bif runsB f then Ctl.cont ()else Ctl.done 240):=by
 have N:=k.runs;have O:=k.pairs;unfold runsB;refine QgN (λi=>(i:Int)) f.Runners.length _ _ _ rfl (λi H a=>?_) (λ_=>?_)
 .have d:=atN (by omega) H;have E:0<f.Runners.length:=by omega
  have q:idx f.Runners 0=some f.Runners[0]:=Qo (i:=0) (XR E);have s:keys0 f=(f.Runners[0]).Keys.length:=by unfold keys0;rw[XR E];rfl
  unfold F_kn runB;rw[d.get];simp only[d.lt,cond_true,d.ix,XQ,d.nx,q,Ye (show f.Pairs.length<=1048576 by omega)];refine Ev.bind (v:=runBad f (lastB f i) f.Runners[i]) ?_ ?_
  .have p:0<=lastB f i:=by
    cases i with
    |zero=>exact Int.le_refl _
    |succ j=>
     have u:lastB f (j+1)=(f.Runners[j]).Bib:=by show((f.Runners[j]?).map (·.Bib)).getD 0=_;rw[XR (by omega)];rfl
     have L:∀m,m<=j->∀(l:m<f.Runners.length),1<=(f.Runners[m]).Bib:=by
      intro m
      induction m with
      |zero=>
       intro _ l;have:=a 0 (by omega);unfold runB at this;rw[XR l]at this;simp only[runBad,X4,Bool.not_eq_true',X5,decide_eq_false_iff_not]at this;have z:lastB f 0=0:=rfl;omega
      |succ m J=>
       intro F l;have B:=J (by omega) (by omega);have:=a (m+1) (by omega);unfold runB at this;rw[XR l]at this;simp only[runBad,X4,Bool.not_eq_true',X5,decide_eq_false_iff_not]at this;have z:lastB f (m+1)=(f.Runners[m]).Bib:=by show((f.Runners[m]?).map (·.Bib)).getD 0=_;rw[XR (by omega)];rfl
       omega
     have:=L j (X0 _) (by omega);omega
   have g:runBad f (lastB f i) f.Runners[i]=(!inR 1 9999 (f.Runners[i]).Bib||((decide (0<(i:Int))&&decide ((f.Runners[i]).Bib<=lastB f i))||((((f.Runners[i]).Keys.length:Int) != ((f.Runners[0]).Keys.length:Int))||(((f.Runners[i]).Worlds.length:Int) != ((f.Pairs.length+1:Nat):Int))))):=by
    unfold runBad inR;rw[s];generalize((((f.Runners[i]).Keys.length:Int) != ((f.Runners[0]).Keys.length:Int))||(((f.Runners[i]).Worlds.length:Int) != ((f.Pairs.length+1:Nat):Int)))=z;cases i with
    |zero=>
     have G:lastB f 0=0:=rfl;rw[G];cases z with
     |true=>simp
     |false=>
      rw[X6];simp;omega
    |succ j=>
     have B:decide (0<((j+1:Nat):Int))=true:=QJ (by omega);rw[B];cases z with
     |true=>simp
     |false=>
      rw[X6];simp;omega
   rw[g];refine Ev.bind (Qnk _) (Qf λ_=>?_);cases i with
   |zero=>
    have r:decide ((0:Int)<((0:Nat):Int))=false:=rfl;simp only[r,cond_false,Bool.false_and,Bool.false_or];exact Qf λ_=>Qa _
   |succ j=>
    have u:lastB f (j+1)=(f.Runners[j]).Bib:=by show((f.Runners[j]?).map (·.Bib)).getD 0=_;rw[XR (by omega)];rfl
    rw[u,QfG (by omega) (by omega)];simp only[QJ (show 0<((j+1:Nat):Int)by omega),cond_true,XQ,Bool.true_and];exact Qf λ_=>Qf λ_=>Qa _
  .cases runBad f (lastB f i) f.Runners[i]with
   |true=>exact Qa _
   |false=>
    have P:=k.wlds _ d.mem;have M:=k.outs _ d.mem;simp only[cond_false,Xi,Bool.true_and];have b:(f.Runners[i]).Worlds.flatten.all (outB f.Clocks)=(f.Runners[i]).Worlds.all λw=>w.all (outB f.Clocks):=by rw[List.all_flatten]
    rw[b];refine Ev.bind (QA (f.Runners[i]).Worlds (λw=>w.all (outB f.Clocks)) (Ctl.done (Ctl.done (Ctl.done 240))) (Ctl.cont ()) (by omega) (λj x e=>?_) ?_) ?_
    .unfold F_me;simp only[e.lt,cond_true,e.nx];refine Ev.bind (QA x (outB f.Clocks) (Ctl.done (Ctl.done (Ctl.done (Ctl.done (Ctl.done 240))))) (Ctl.cont ()) (by have:=M x e.mem;omega) (λm y t=>?_) ?_) ?_
     .unfold F_mh;simp only[e.ix,XQ,t.lt,cond_true,t.ix,t.nx];refine Ev.bind (Qgr _ k.clk h y) ?_;cases outB f.Clocks y<;>exact Qa _
     .unfold F_mh;simp only[e.ix,XQ,Yc,cond_false];exact Qa _
     .cases x.all (outB f.Clocks)<;>exact Qa _
    .unfold F_me;simp only[Yc,cond_false];exact Qa _
    .cases(f.Runners[i]).Worlds.all λw=>w.all (outB f.Clocks)<;>exact Qa _
 .unfold F_kn;simp only[Yc,cond_false];exact Qa _
theorem Qgv(f:Field)(k:FewF f)(h:WldOk f){w:Nat}(b:w<f.Pairs.length+1):Ev (λn=>F_fr n f (w:Int)) (openW f w):=by
 have d:=k.runs;unfold F_fr;refine Ev.bind (QA f.Runners (λr=> !(wld r w).isEmpty) (Ctl.done false) (Ctl.cont ()) (by omega) (λi x a=>?_) ?_) ?_
 .unfold F_mn;have e:=h x a.mem;simp only[a.lt,cond_true,a.ix,XQ,a.nx,QD (show¬(w:Int)<0 by omega),cond_false,QD (show¬(x.Worlds.length:Int)<=(w:Int)by omega),Qd1 h a.mem b,QaD];cases(wld x w).isEmpty<;>exact Qa _
 .unfold F_mn;simp only[Yc,cond_false];exact Qa _
 .unfold openW;rw[<- QcK];cases f.Runners.all λr=> !(wld r w).isEmpty<;>exact Qa _
theorem QlX(f:Field)(k:FewF f)(h:WldOk f):Ev (λn=>F_ch n f) (possB f):=by
 have b:=k.pairs;unfold F_ch;have:Ev (λn=>iter (F_ki n f) n 0) (bif (List.range (f.Pairs.length+1)).all (λi=> !openW f i)then Ctl.cont ()else Ctl.done true):=by
  refine YZ (f.Pairs.length+1) _ _ _ (λi a=>?_) ?_
  .unfold F_ki;simp only[leN a,cond_true,Ye (show i<=1048576 by omega)];refine Ev.bind (Qgv f k h a) ?_;cases openW f i<;>exact Qa _
  .unfold F_ki;simp only[Qig,cond_false];exact Qa _
 refine Ev.bind this ?_;unfold possB;rw[QcK];cases(List.range (f.Pairs.length+1)).any (openW f)<;>exact Qa _
theorem Qdg(f:Field)(k:FewF f):Ev (λn=>F_ab n f) (bif fieldB f then 0 else 240):=by
 unfold F_ab fieldB;refine Ev.bind (v:= !(clkB f.Clocks&& !(decide (16<(f.Pairs.length:Int))||(decide ((f.Runners.length:Int)<1)||decide (4000<(f.Runners.length:Int)))))) ?_ ?_
 .refine Ev.bind (Qjf _ k.clk) ?_;cases clkB f.Clocks with
  |false=>exact Qa _
  |true=>
   simp only[Bool.true_and,Bool.not_not];exact QN (Qf λ_=>Qf λ_=>Qa _)
 .cases a:clkB f.Clocks&& !(decide (16<(f.Pairs.length:Int))||(decide ((f.Runners.length:Int)<1)||decide (4000<(f.Runners.length:Int))))with
  |false=>exact Qa _
  |true=>
   have d:clkB f.Clocks=true:=by simp only[X4]at a;exact a.1
   simp only[Xh,cond_false,Bool.true_and];refine Ev.bind (Qj0 f (by have:=k.pairs;omega)) ?_;cases pairsB f with
   |false=>exact Qa _
   |true=>
    refine Ev.bind (QlV f k d) ?_;cases b:runsB f with
    |false=>exact Qa _
    |true=>
     refine Ev.bind (QlX f k (Qd8 b)) ?_;cases possB f<;>exact Qa _
theorem QeO(f:Field)(k:FewF f)(h:WldOk f){w:Nat}(b:w<f.Pairs.length+1):Ev (λn=>F_dg n f (w:Int)) (openW f w):=by
 have d:=k.runs;unfold F_dg;refine Ev.bind (v:=false) ?_ (QN (Ev.bind (QA f.Runners (λr=> !(wld r w).isEmpty) (Ctl.done false) (Ctl.cont ()) (by omega) (λi x a=>?_) ?_) ?_))
 .rw[QD (show¬(w:Int)<0 by omega),QD (show¬(f.Pairs.length:Int)<(w:Int)by omega)];exact Qa _
 .unfold F_mm;have e:=h x a.mem;simp only[a.lt,cond_true,a.ix,XQ,a.nx,QD (show¬(x.Worlds.length:Int)<=(w:Int)by omega),cond_false,Qd1 h a.mem b,QaD];cases(wld x w).isEmpty<;>exact Qa _
 .unfold F_mm;simp only[Yc,cond_false];exact Qa _
 .unfold openW;rw[<- QcK];cases f.Runners.all λr=> !(wld r w).isEmpty<;>exact Qa _
def lessL(a b:List Int):Bool:=decide (cmpL a b<0)
theorem Qjh(a b:List Int)(L:a.length<=1048576)(J:b.length<=1048576):Ev (λn=>F_bk n a b) (lessL a b):=by
 unfold F_bk;have loop:∀(r:List Int) (i:Nat),a.drop i=r->i<=a.length->i<=b.length->∃d:Ctl Unit Bool,EvI (λn=>F_es n a b) (i:Int) d/\(match d with|.cont _=>decide ((a.length:Int)<(b.length:Int))|.done v=>v)=lessL r (b.drop i):=by
  intro r
  induction r with
  |nil=>
   intro i l B m;refine⟨.cont (),EvI.done ?_,?_⟩
   .unfold F_es;simp only[Q0 l B,cond_false,XQ];exact Qa _
   .have f:i=a.length:=by have:=Xt.1 l;omega
    unfold lessL;cases q:b.drop i with
    |nil=>
     have:=Xt.1 q;simp only[cmpL];exact QD (by omega)
    |cons y s=>
     have:i<b.length:=by
      rcases Nat.lt_or_ge i b.length with z|z
      .exact z
      .rw[Xs z]at q;cases q
     simp only[cmpL];exact QJ (by omega)
  |cons x r H=>
   intro i l B m;obtain⟨f,E⟩:=Qq (by omega) l;have F:=f.lt';by_cases t:b.length<=i
   .refine⟨.cont (),EvI.done ?_,?_⟩
    .unfold F_es;simp only[f.lt,cond_true,QD (show¬(i:Int)<(b.length:Int)by omega),XQ,cond_false];exact Qa _
    .rw[Xs t];show decide _=decide ((1:Int)<0);rw[QD (show¬(a.length:Int)<(b.length:Int)by omega)];rfl
   .have j:i<b.length:=by omega
    rw[Xr j];have g:lessL (x::r) (b[i]::b.drop (i+1))=bif x != b[i]then decide (x<b[i])else lessL r (b.drop (i+1)):=by
     unfold lessL;have G:cmpL (x::r) (b[i]::b.drop (i+1))=bif cmpI x b[i] != 0 then cmpI x b[i]else cmpL r (b.drop (i+1)):=rfl
     rw[G];by_cases e:x=b[i]
     .have w:cmpI x b[i]=0:=QoR.2 e;have u:(x != b[i])=false:=by rw[e];exact bne_self_eq_false _
      rw[w,u];rfl
     .have w:(cmpI x b[i] != 0)=true:=bne_iff_ne.2 λz=>e (QoR.1 z);have u:(x != b[i])=true:=bne_iff_ne.2 e;rw[w,u];simp only[cond_true];rw[X6,decide_eq_true_eq,decide_eq_true_eq];exact Qnt
    rw[g];have h:=Qo (XR j);cases q:(x != b[i])with
    |true=>
     refine⟨.done (decide (x<b[i])),EvI.done ?_,rfl⟩;unfold F_es;simp only[f.lt,cond_true,QJ (show(i:Int)<(b.length:Int)by omega),XQ,f.ix,h,q];exact Qa _
    |false=>
     obtain⟨d,p,k⟩:=H (i+1) E (by omega) (by omega);refine⟨d,EvI.cont ?_ p,k⟩;unfold F_es;simp only[f.lt,cond_true,QJ (show(i:Int)<(b.length:Int)by omega),XQ,f.ix,h,q,cond_false,f.nx];exact Qa _
 obtain⟨d,p,k⟩:=loop a 0 rfl (X2 _) (X2 _);rw[List.drop_zero]at k;refine Ev.bind p.ev ?_;rw[<- k];cases d<;>exact Qa _
theorem Qoz{c:Clocks}(d:Dims c)(h:rowsB c=true){i j:Nat}(hi:i<c.Segments.length+1)(g:j<c.Segments.length+1): -2199023255552<=farG c i j/\farG c i j<=2199023255552:=by
 have a:i<c.Far.length:=by rw[d.far];exact hi
 obtain⟨k,e⟩:=d.get hi g;have:=QjN.1 h i a;rw[k]at this;simp only[rowB,Bool.not_eq_true',X5]at this;have b:=this.2.2;have f:farG c i j∈(c.Far[i]?.getD []):=List.mem_of_getElem? e;have:farBad (farG c i j)=false:=by
  cases z:farBad (farG c i j)with
  |false=>rfl
  |true=>rw[Xx.2 ⟨_,f,z⟩]at b;cases b
 simp only[farBad,X5,decide_eq_false_iff_not]at this;omega
theorem FieldOk.rows{f:Field}(o:FieldOk f):rowsB f.Clocks=true:=by
 have:=o.ok;simp only[fieldB,clkB,X4]at this;exact this.1.1.2.2.1
theorem Qnl(f:Field)(o:FieldOk f){i k:Nat}(hi:i<f.Runners.length)(d:k<f.Runners.length){x y:Outcome}(w:outB f.Clocks x=true)(a:x.Out=false)(t:outB f.Clocks y=true):
  Ev (λn=>F_fq n f x (i:Int) y (k:Int)) (!aheadD true f i x k y):=by
 unfold F_fq aheadD;cases b:y.Out with
 |true=>exact Qa _
 |false=>
  simp only[cond_false];have e:=o.dims.segs;obtain⟨s,q⟩:=Qdn e w a;obtain⟨y1,y2⟩:=Qdn e t b;obtain⟨p,h⟩:=o.dims.get s y1;simp only[q,y2,Qo p,XQ,Qo h];obtain⟨l,m⟩:=QaP d;obtain⟨g,r⟩:=QaP hi;simp only[l,g,XQ,m,r];have j:IntKind.i64.wrap (IntKind.i64.wrap (y.Hi+farG f.Clocks (sg x) (sg y))-x.Lo)=diffD true f.Clocks x y:=rfl;rw[j];refine Ev.bind (v:=decide (0<diffD true f.Clocks x y)||((diffD true f.Clocks x y==0)&& !lessL (f.Runners[k]).Keys (f.Runners[i]).Keys)) (Qf λ_=>Ev.and λ_=>Ev.bind (Qjh _ _ (Qal o d) (Qal o hi)) (Qa _)) ((Qa _).eq ?_);unfold lessL;generalize diffD true f.Clocks x y=v;generalize cmpL (f.Runners[k]).Keys (f.Runners[i]).Keys=u;rw[X6];simp;omega
theorem Ql4(f:Field)(o:FieldOk f){i k:Nat}(hi:i<f.Runners.length)(d:k<f.Runners.length){x y:Outcome}(u:outB f.Clocks x=true)(a:x.Out=false)(t:outB f.Clocks y=true):
  Ev (λn=>F_ee n f x (i:Int) y (k:Int)) (aheadD false f i x k y):=by
 unfold F_ee aheadD;refine Ys (λ_=>Qa _) λb=>?_;have e:=o.dims.segs;obtain⟨g,r⟩:=Qdn e u a;obtain⟨y1,y2⟩:=Qdn e t b;obtain⟨q,j⟩:=o.dims.get y1 g;simp only[r,y2,Qo q,XQ,Qo j];obtain⟨m,p⟩:=QaP d;obtain⟨h,s⟩:=QaP hi;simp only[m,h,XQ,p,s];have w:=Qoz o.dims o.rows y1 g;have l:IntKind.i64.wrap (IntKind.i64.wrap (y.Lo-farG f.Clocks (sg y) (sg x))-x.Hi)=diffD false f.Clocks x y:=by
  unfold diffD gapD;simp only[cond_false];rw[QQ (n:=0-farG f.Clocks (sg y) (sg x)) (by omega) (by omega)];rw[show y.Lo+(0-farG f.Clocks (sg y) (sg x))=y.Lo-farG f.Clocks (sg y) (sg x)by omega]
 rw[l];exact Ev.bind (Qf λ_=>Ev.and λ_=>Ev.bind (Qjh _ _ (Qal o d) (Qal o hi)) (Qa _)) (Qa _)
theorem Qix(f:Field)(o:FieldOk f){i k w:Nat}(hi:i<f.Runners.length)(d:k<f.Runners.length)(l:w<f.Pairs.length+1){x:Outcome}(m:outB f.Clocks x=true)(b:x.Out=false):
  Ev (λn=>F_eb n f (w:Int) x (i:Int) (k:Int)) (!chooseR true f w i x k):=by
 obtain⟨g,e,p,h⟩:=QaL o d l;unfold F_eb;simp only[g,e,XQ];refine Ev.bind (QA (wldF f k w) (aheadD true f i x k) (Ctl.done true) (Ctl.cont ()) (by omega) (λj y a=>?_) ?_) ?_
 .unfold F_mj;simp only[a.lt,cond_true,a.ix,XQ,a.nx];refine Ev.bind (Qnl f o hi d m b (h y a.mem)) ?_;cases aheadD true f i x k y<;>exact Qa _
 .unfold F_mj;simp only[Yc,cond_false];exact Qa _
 .unfold chooseR;simp only[cond_true];cases(wldF f k w).all (aheadD true f i x k)<;>exact Qa _
theorem QhC(f:Field)(o:FieldOk f){i k w:Nat}(hi:i<f.Runners.length)(d:k<f.Runners.length)(l:w<f.Pairs.length+1){x:Outcome}(m:outB f.Clocks x=true)(b:x.Out=false):
  Ev (λn=>F_dv n f (w:Int) x (i:Int) (k:Int)) (chooseR false f w i x k):=by
 obtain⟨g,e,p,h⟩:=QaL o d l;unfold F_dv;simp only[g,e,XQ];refine Ev.bind (QA (wldF f k w) (λy=> !aheadD false f i x k y) (Ctl.done true) (Ctl.cont ()) (by omega) (λj y a=>?_) ?_) ?_
 .unfold F_md;simp only[a.lt,cond_true,a.ix,XQ,a.nx];refine Ev.bind (Ql4 f o hi d m b (h y a.mem)) ?_;cases aheadD false f i x k y<;>exact Qa _
 .unfold F_md;simp only[Yc,cond_false];exact Qa _
 .unfold chooseR;simp only[cond_false];rw[QcK];cases(wldF f k w).any (aheadD false f i x k)<;>exact Qa _
theorem QhB(f:Field)(o:FieldOk f){i w:Nat}(hi:i<f.Runners.length)(l:w<f.Pairs.length+1){x:Outcome}(j:outB f.Clocks x=true)(a:x.Out=false):
  Ev (λn=>F_ek n f (w:Int) x (i:Int)) (((rankAt true f w i x:Nat):Int),((rankAt false f w i x:Nat):Int)):=by
 have r:=o.few.runs;unfold F_ek;refine Ev.bind (v:=(((rankAt true f w i x:Nat):Int),((rankAt false f w i x:Nat):Int))) ?_ (Qa _);refine Ev.iter (λk=>(((1+cntR (rivalP true f w i x) k:Nat):Int),((1+cntR (rivalP false f w i x) k:Nat):Int),(k:Int))) f.Runners.length (by simp[cntR]) (λk g=>?_) ?_
 .have m:=QgA (rivalP true f w i x) k;have p:=QgA (rivalP false f w i x) k;unfold F_mo;simp only[ltN g,cond_true,Ye (show k<=1048576 by omega),Qdh];by_cases e:k=i
  .have d:((k:Int)==(i:Int))=true:=by rw[e];simp
   have h:∀b,rivalP b f w i x k=false:=by intro b;unfold rivalP;rw[e,Nat.beq_refl];rfl
   simp only[d,cond_true,XQ,h,cond_false,XC];exact Qa _
  .have d:((k:Int)==(i:Int))=false:=beq_false_of_ne (by omega);have h:∀b,rivalP b f w i x k=chooseR b f w i x k:=by
    intro b;unfold rivalP;have:Nat.beq k i=false:=by rw[Bool.eq_false_iff];intro q;exact e (XX q)
    rw[this];rfl
   simp only[d,cond_false,h];refine Ev.bind (v:=(((1+(cntR (rivalP true f w i x) k+bif chooseR true f w i x k then 1 else 0):Nat):Int),((1+(cntR (rivalP false f w i x) k+bif chooseR false f w i x k then 1 else 0):Nat):Int))) ?_ (Qa _);refine Ev.bind (Qix f o hi g l j a) ?_;rw[Bool.not_not];refine Ev.bind (v:=((1+(cntR (rivalP true f w i x) k+bif chooseR true f w i x k then 1 else 0):Nat):Int)) ?_ (Ev.bind (QhC f o hi g l j a) (Ev.bind (v:=((1+(cntR (rivalP false f w i x) k+bif chooseR false f w i x k then 1 else 0):Nat):Int)) ?_ (Qa _)))
   .cases chooseR true f w i x k with
    |false=>exact Qa _
    |true=>exact(Qa _).eq (by rw[Ye (show 1+cntR (rivalP true f w i x) k<=1048576 by omega)];rfl)
   .cases chooseR false f w i x k with
    |false=>exact Qa _
    |true=>exact(Qa _).eq (by rw[Ye (show 1+cntR (rivalP false f w i x) k<=1048576 by omega)];rfl)
 .unfold F_mo;simp only[geN (X0 _),cond_false];exact Qa _
def refS(f:Field)(i w:Nat)(r:Rank)(j:Nat):Rank:=match(wldF f i w)[j]? with
 |none=>r
 |some x=>bif x.Out then {r with Out:=true}else
   {r with Lo:=(bif (r.Lo==0)||decide (((rankAt true f w i x:Nat):Int)<r.Lo)then((rankAt true f w i x:Nat):Int)else r.Lo),Hi:=(if r.Hi<((rankAt false f w i x:Nat):Int)then((rankAt false f w i x:Nat):Int)else r.Hi)}
def refW(f:Field)(i:Nat)(r:Rank)(w:Nat):Rank:=bif openW f w then(List.range (wldF f i w).length).foldl (refS f i w) r else r
def refR(f:Field)(i:Nat):Rank:=(List.range (f.Pairs.length+1)).foldl (refW f i) {z_Rank with Bib:=bibF f i}
def refK(r:Rank):Rank:=bif r.Lo==0 then {r with Kind:=3}else bif (r.Lo==r.Hi)&& !r.Out then {r with Kind:=1}else {r with Kind:=2}
theorem Qj1(f:Field)(o:FieldOk f){i:Nat}(hi:i<f.Runners.length):Ev (λn=>F_ao n f (i:Int)) (refK (refR f i),0):=by
 have q:=o.few.runs;have r:=o.few.pairs;have l:bibF f i=(f.Runners[i]).Bib:=QcI hi;unfold F_ao F_gv;refine Ev.bind (v:=0) (Ev.bind (Qdg f o.few) ?_) ?_
 .rw[o.ok];refine QN ?_;rw[QD (show¬(i:Int)<0 by omega),QD (show¬(f.Runners.length:Int)<=(i:Int)by omega)];exact Qa _
 .refine QN ?_;rw[Qo (XR hi)];simp only[XQ];refine Ev.bind (v:=refR f i) ?_ ?_
  .refine Ev.iter (λw=>((List.range w).foldl (refW f i) {z_Rank with Bib:=bibF f i},(w:Int))) (f.Pairs.length+1) (by rw[l];rfl) (λw a=>?_) ?_
   .obtain⟨k,h,p,m⟩:=QaL o hi a;unfold F_mi;simp only[leN a,cond_true,k,h,XQ,Ye (show w<=1048576 by omega),YT];generalize(List.range w).foldl (refW f i) {z_Rank with Bib:=bibF f i}=r0;refine Ev.bind (v:=refW f i r0 w) ?_ (Qa _);unfold refW;cases g:openW f w with
    |false=>
     refine(Ev.iter (λ_=>(r0,0)) 0 rfl (λj e=>absurd e (Xn _)) ?_);unfold F_kf;refine Ev.bind (v:=false) ?_ (Qa _);refine(Ev.and λ_=>Ev.bind (QeO f o.few o.wlds a) (Qa _)).eq ?_;rw[g,Bool.and_false]
    |true=>
     refine Ev.iter (λj=>((List.range j).foldl (refS f i w) r0,(j:Int))) (wldF f i w).length rfl (λj e=>?_) ?_
     .have b:=atN (by omega) e;unfold F_kf;simp only[b.lt,cond_true,YT];refine Ev.bind (v:=true) (Ev.bind ((QeO f o.few o.wlds a).eq g) (Qa _)) ?_;simp only[cond_true,b.ix,XQ,b.nx];generalize(List.range j).foldl (refS f i w) r0=r1;refine Ev.bind (v:=refS f i w r1 j) ?_ (Qa _);unfold refS;rw[b.get];simp only;refine Ys (λ_=>Qa _) λd=>?_;refine Ev.bind (QhB f o hi a (m _ b.mem) d) ?_;refine Ev.bind (v:=(r1.Lo==0)||decide (((rankAt true f w i (wldF f i w)[j]:Nat):Int)<r1.Lo)) (Qf λ_=>Qa _) ?_;cases(r1.Lo==0)||decide (((rankAt true f w i (wldF f i w)[j]:Nat):Int)<r1.Lo)<;>exact Qa _
     .unfold F_kf;simp only[Yc,cond_false,XQ];exact Qa _
   .unfold F_mi;simp only[Qig,cond_false];exact Qa _
  .refine Ev.bind (v:=refK (refR f i)) ?_ (Qa _);unfold refK;refine Ys (λ_=>Qa _) λ_=>?_;refine Ev.bind (v:=((refR f i).Lo==(refR f i).Hi)&& !(refR f i).Out) (Ev.and λ_=>Qa _) ?_;cases((refR f i).Lo==(refR f i).Hi)&& !(refR f i).Out<;>exact Qa _
structure SameR (f:Field) (i:Nat) (r:Rank) (a b:PlB) (out:Bool):Prop where
 bib:r.Bib=bibF f i
 kind:r.Kind=0
 out:r.Out=out
 some:a.2=b.2
 no:a.2=false->r.Lo=0/\r.Hi=0
 yes:a.2=true->r.Lo=a.1.rank/\r.Hi=b.1.rank/\1<=a.1.rank/\1<=b.1.rank
theorem QjJ{f:Field}{i:Nat}(hi:i<f.Runners.length)(w:Nat){r:Rank}{a b:PlB}{out:Bool}(h:SameR f i r a b out)(j:Nat):
  SameR f i (refS f i w r j) (stepO true f i w a j) (stepO false f i w b j) (out||(match(wldF f i w)[j]? with|some x=>x.Out|none=>false)):=by
 unfold refS stepO;cases(wldF f i w)[j]? with
 |none=>simp only[Bool.or_false];exact h
 |some x=>
  simp only;cases u:x.Out with
  |true=>simp only[cond_true,Bool.or_true];exact⟨h.bib,h.kind,rfl,h.some,h.no,h.yes⟩
  |false=>
   simp only[cond_false,Bool.or_false];have s:=(Qc8 true f w i x hi).1;have t:=(Qc8 false f w i x hi).1;cases e:a.2 with
   |false=>
    have k:b.2=false:=by rw[<- h.some];exact e
    obtain⟨l,m⟩:=h.no e;simp only[k,Xi,Bool.true_or,cond_true,l,m,beq_self_eq_true];refine⟨h.bib,h.kind,h.out,rfl,(λz=>by cases z),λ_=>⟨rfl,?_,by simp only;omega,by simp only;omega⟩⟩;simp only;rw[if_pos (by omega)]
   |true=>
    have k:b.2=true:=by rw[<- h.some];exact e
    obtain⟨l,m,n,p⟩:=h.yes e;have q:(a.1.rank==0)=false:=beq_false_of_ne (by omega);simp only[k,Xh,Bool.false_or,q,l,m,pref,cond_true,cond_false];by_cases g:((rankAt true f w i x:Nat):Int)<a.1.rank
    .by_cases d:b.1.rank<((rankAt false f w i x:Nat):Int)
     .simp only[QJ g,QJ d,cond_true,if_pos d];exact⟨h.bib,h.kind,h.out,rfl,(λz=>by cases z),λ_=>⟨rfl,rfl,by simp only;omega,by simp only;omega⟩⟩
     .simp only[QJ g,QD d,cond_true,cond_false,if_neg d];exact⟨h.bib,h.kind,h.out,k.symm,(λz=>by cases z),λ_=>⟨rfl,rfl,by simp only;omega,p⟩⟩
    .by_cases d:b.1.rank<((rankAt false f w i x:Nat):Int)
     .simp only[QD g,QJ d,cond_true,cond_false,if_pos d];exact⟨h.bib,h.kind,h.out,e,(λz=>by rw[e]at z;cases z),λ_=>⟨rfl,rfl,n,by simp only;omega⟩⟩
     .simp only[QD g,QD d,cond_false,if_neg d];exact⟨h.bib,h.kind,h.out,h.some,(λz=>by rw[e]at z;cases z),λ_=>⟨rfl,rfl,n,p⟩⟩
def ogO(l:List Outcome)(j:Nat):Bool:=match l[j]? with|some x=>x.Out|none=>false
theorem Qkq(l:List Outcome):(List.range l.length).any (ogO l)=l.any λx=>x.Out:=by
 rw[X6,Xx,Xx];constructor
 .rintro⟨j,b,h⟩;have a:j<l.length:=by simpa using b
  unfold ogO at h;rw[XR a]at h;exact⟨l[j],Vl a,h⟩
 .rintro⟨x,d,h⟩;obtain⟨j,b,e⟩:=List.mem_iff_getElem.1 d;refine⟨j,by simpa using b,?_⟩;unfold ogO;rw[XR b,e];exact h
theorem Qfx{f:Field}{i:Nat}(hi:i<f.Runners.length)(w:Nat):∀(L:List Nat) (r:Rank) (a b:PlB) (out:Bool),SameR f i r a b out->
  SameR f i (L.foldl (refS f i w) r) (L.foldl (stepO true f i w) a) (L.foldl (stepO false f i w) b) (out||L.any (ogO (wldF f i w)))
 |[],r,a,b,out,h=>by simpa using h
 |j::L,r,a,b,out,h=>by
  have h1:SameR f i (refS f i w r j) (stepO true f i w a j) (stepO false f i w b j) (out||ogO (wldF f i w) j):=QjJ hi w h j;have:=Qfx hi w L _ _ _ _ h1;rw[List.any_cons, <- Bool.or_assoc];exact this
theorem QbG{f:Field}{i:Nat}(hi:i<f.Runners.length):∀(L:List Nat) (r:Rank) (a b:PlB) (d:Bool),SameR f i r a b d->
  SameR f i (L.foldl (refW f i) r) ((L.filter (openW f)).foldl (driveW true f i) a) ((L.filter (openW f)).foldl (driveW false f i) b) (d||(L.filter (openW f)).any (outW f i))
 |[],r,a,b,d,h=>by simpa using h
 |w::L,r,a,b,d,h=>by
  rw[XK,Xd];cases ho:openW f w with
  |false=>
   have e:refW f i r w=r:=by unfold refW;rw[ho];rfl
   rw[e];exact QbG hi L r a b d h
  |true=>
   have e:refW f i r w=(List.range (wldF f i w).length).foldl (refS f i w) r:=by unfold refW;rw[ho];rfl
   have g:=Qfx hi w (List.range (wldF f i w).length) r a b d h;rw[Qkq]at g;rw[e,if_pos rfl,XK,XK,List.any_cons, <- Bool.or_assoc];exact QbG hi L _ _ _ _ g
theorem Qn2(f:Field){i:Nat}(hi:i<f.Runners.length):refK (refR f i)=ofP f i:=by
 have q:SameR f i {z_Rank with Bib:=bibF f i} (z_ranks_place,false) (z_ranks_place,false) false:=⟨rfl,rfl,rfl,rfl,λ_=>⟨rfl,rfl⟩,λz=>by cases z⟩;have h:SameR f i (refR f i) (driveP true f i) (driveP false f i) (false||(worldsN f).any (outW f i)):=QbG hi (List.range (f.Pairs.length+1)) _ _ _ _ q;rw[Bool.false_or]at h;rcases hr:refR f i with⟨b,k,lo,a,out⟩
 rw[hr]at h;have m:b=bibF f i:=h.bib;have g:out=(worldsN f).any (outW f i):=h.out;unfold refK ofP;cases n:(driveP true f i).2 with
 |false=>
  obtain⟨l,j⟩:=h.no n;have d:lo=0:=l;have e:a=0:=j;subst m g d e;rfl
 |true=>
  obtain⟨l,j,t,s⟩:=h.yes n;have d:lo=(driveP true f i).1.rank:=l;have e:a=(driveP false f i).1.rank:=j;have r:(lo==0)=false:=beq_false_of_ne (by omega);simp only[r,cond_false,Xh];have p:(rank0 f i).Out=out:=g.symm;rw[p, <- d, <- e,m];cases(lo==a)&& !out with
  |true=>simp only[cond_true,rank0, <- g]
  |false=>simp only[cond_false,rank0, <- g]
theorem QeM(f:Field)(o:FieldOk f){i:Nat}(hi:i<f.Runners.length):Ev (λn=>F_ao n f (i:Int)) (ofP f i,0):=(Qj1 f o hi).eq (by rw[Qn2 f hi])
theorem Qgy(f:Field)(o:FieldOk f){i:Nat}(hi:i<f.Runners.length)(k:Int):Ev (λn=>F_bb n f (i:Int) k) (candB k (ofP f i)):=by
 unfold F_bb candB;exact Ev.bind (QeM f o hi) (Ev.bind (Ev.and λ_=>Ev.and λ_=>Qa _) (Qa _))
def candI(f:Field)(k:Int)(m:Nat):List Int:=(((List.range m).map (ofP f)).filter (candB k)).map (·.Bib)
theorem QiE(f:Field)(k:Int)(m:Nat):candI f k (m+1)=candI f k m++(bif candB k (ofP f m)then[(ofP f m).Bib]else[]):=by
 unfold candI;rw[Xz,Xg,List.filter_append,Xg];cases h:candB k (ofP f m)<;>simp[h]
theorem Qko(f:Field)(k:Int)(m:Nat):(candI f k m).length<=m:=by
 unfold candI;rw[X9];exact X3 (List.length_filter_le ..) (by simp)
theorem Qhu(f:Field)(b:FewF f)(k:Int):Ev (λn=>F_dd n f k) (bif fieldB f then bif decide (k<1)then([],310)else((candP (allP f) k).map (·.Bib),0)else([],240)):=by
 have g:=b.runs;unfold F_dd;refine Ev.bind (Qdg f b) ?_;cases d:fieldB f with
 |false=>exact Qa _
 |true=>
  have o:=QaI b d;simp only[cond_true,bne_self_eq_false,cond_false];refine Ys (λ_=>Qa _) λ_=>?_;refine Ev.bind (v:=(candP (allP f) k).map (·.Bib)) ?_ (Qa _);have:Ev (λn=>iter (F_kt n f k) n (([]:List Int),0)) (candI f k f.Runners.length):=by
   refine Ev.iter (λm=>(candI f k m,(m:Int))) f.Runners.length rfl (λm a=>?_) ?_
   .have e:=Qko f k m;unfold F_kt;simp only[ltN a,cond_true,Ye (show m<=1048576 by omega),Qo (XR a),XQ,Qcj (show(candI f k m).length<=140737488 by omega)];refine Ev.bind (Qgy f o a k) ?_;rw[QiE,QdP,QcI a];cases candB k (ofP f m)with
    |true=>exact Qa _
    |false=>exact(Qa _).eq (by simp)
   .unfold F_kt;simp only[geN (X0 _),cond_false];exact Qa _
  exact this
theorem QfM(l:List Int)(d:l.length<=1048576):Ev (λn=>F_ba n l l) true:=by
 unfold F_ba;simp only[bne_self_eq_false,cond_false];refine Ev.bind (v:=Ctl.cont ()) (Ev.iter (λi=>(i:Int)) l.length rfl (λi b=>?_) ?_) (Qa _)
 .have a:=atN d b;unfold F_lo;simp only[a.lt,cond_true,a.ix,XQ,a.nx,bne_self_eq_false,cond_false];exact Qa _
 .unfold F_lo;simp only[Yc,cond_false];exact Qa _
theorem Qit(c:Course)(w:CourseOk c)(q:PartsOk c)(k:FewL c):Ev (λn=>F_au n c) (fitsG c):=by
 unfold F_au fitsG;refine Ev.bind (Qf λ_=>Qf λ_=>Qf λ_=>Qf λ_=>Qf λ_=>Qf λ_=>Qa _) ?_;cases(decide (40<(c.Mats.length:Int))||(decide (512<(c.Legs.length:Int))||(decide (8<(c.Distances.length:Int))||(decide (32<(c.Waves.length:Int))||(decide (32<(c.Offences.length:Int))||(decide (32<(c.Categories.length:Int))||decide (32<(c.Prizes.length:Int))))))))with
 |true=>exact Qa _
 |false=>
  rw[Xi,Bool.true_and];refine QN (Ev.bind (QA c.Distances (λd=> !(decide (64<(d.Cutoffs.length:Int))||decide (16<hPs d.Route))) (Ctl.done false) (Ctl.cont ()) (by have:=w.dist;omega) (λi x b=>?_) ?_) ?_)
  .obtain⟨h,g⟩:=k.dist x b.mem;have a:=q.len x b.mem;have f:=q.wf x b.mem;unfold F_ik;simp only[b.lt,cond_true,b.ix,XQ,b.nx];refine Ev.bind (Qf λ_=>Ev.bind (Qdy _ x.Route 17 (X0 _) (X0 _) a f) (Qf λ_=>Ev.bind (Qdz _ x.Route (X0 _) a f) (Qa _))) ?_;have e:decide ((16:Int)<((min (hPs x.Route) 17:Nat):Int))=decide (16<hPs x.Route):=by
    rw[decide_eq_decide];omega
   simp only[QD (show¬(256:Int)<((min (szPs x.Route) 257:Nat):Int)by omega),Bool.or_false,e];cases(decide (64<(x.Cutoffs.length:Int))||decide (16<hPs x.Route))<;>exact Qa _
  .unfold F_ik;simp only[Yc,cond_false];exact Qa _
  .cases c.Distances.all (λd=> !(decide (64<(d.Cutoffs.length:Int))||decide (16<hPs d.Route)))<;>exact Qa _
theorem QhM(c:Course)(w:CourseOk c)(q:PartsOk c)(k:FewL c)(i:c.Ties.length<=1048576)(j:∀x∈c.Ties,Step.wf x):∃e,Ev (λn=>F_p n c) e/\Ev (λn=>F_z n c) e:=by
 by_cases h:∀d∈c.Distances,hPs d.Route<=16
 .have f:FewOk c:=⟨k.lens,k.name,λd a=>⟨by have:=(k.dist d a).1;omega,by have:=(k.dist d a).2;omega,h d a⟩,k.ties⟩;exact⟨_,QfT c w q f i j,Qgu c w q f i j⟩
 .have g:fitsG c=false:=by
   unfold fitsG;rw[Bool.and_eq_false_iff];right;rw[List.all_eq_false];obtain⟨d,a⟩:=Classical.not_forall.1 h;have b:d∈c.Distances/\ ¬hPs d.Route<=16:=by
    refine Classical.byContradiction λz=>a λl=>Classical.byContradiction λy=>z ⟨l,y⟩
   refine⟨d,b.1,?_⟩;have:decide (16<hPs d.Route)=true:=decide_eq_true (by omega);rw[this];simp
  refine⟨2,?_,?_⟩
  .unfold F_p;refine Ev.bind (Qhz c w q k) ?_;rw[g];exact Qa _
  .unfold F_z;refine Ev.bind (Qit c w q k) ?_;rw[g];exact Qa _
def soleR(all:List Rank)(x:Int):Option Rank:=match candP all x with
 |[r]=>bif r.Kind==1 then some r else none
 |_=>none
def openB(all:List Rank)(x:Int):Bool:= !(candP all x).isEmpty&&(soleR all x).isNone
theorem QcG(all:List Rank)(s:List Int×MapI)(x v:Int):divS all s (x,v)=match soleR all x with
  |some r=>(s.1,Q7 s.2 r.Bib v)
  |none=>bif openB all x then(s.1++[x],s.2)else s:=by
 unfold divS openB soleR;cases candP all x with
 |nil=>rfl
 |cons r t=>
  cases t with
  |nil=>cases q:(r.Kind==1)<;>simp[q]
  |cons y t=>simp
theorem QhH(all:List Rank)(g:Int->Int):∀(a:List Int) (s:List Int×MapI),((a.map λk=>(k,g k)).foldl (divS all) s).1=s.1++a.filter (openB all)
 |[],s=>by simp
 |x::a,s=>by
  rw[Vr,XK,QhH all g a,QcG,Xd];cases h:soleR all x with
  |some r=>
   have:openB all x=false:=by unfold openB;rw[h];simp
   simp[this]
  |none=>
   cases q:openB all x<;>simp
theorem Qjm(all:List Rank)(g:Int->Int)(b v:Int):∀(ks:List Int) (s:List Int×MapI),YN ((ks.map λk=>(k,g k)).foldl (divS all) s).2 b=some v->
  YN s.2 b=some v\/ ∃x∈ks,∃r,soleR all x=some r/\r.Bib=b/\v=g x
 |[],s,h=>.inl h
 |x::ks,s,h=>by
  rw[Vr,XK]at h;rcases Qjm all g b v ks _ h with q|⟨y,hy,q⟩
  .rw[QcG]at q;cases hr:soleR all x with
   |none=>
    rw[hr]at q;simp only at q;cases z:openB all x<;>rw[z]at q<;>exact .inl q
   |some r=>
    rw[hr]at q;simp only at q;rw[Qa7]at q;by_cases e:b=r.Bib
    .rw[if_pos e]at q;exact .inr ⟨x,Vc ..,r,hr,e.symm,(X7 q).symm⟩
    .rw[if_neg e]at q;exact .inl q
  .exact .inr ⟨y,Vd _ hy,q⟩
theorem Qjl(all:List Rank)(g:Int->Int)(b:Int):∀(a:List Int) (s:List Int×MapI),((YN s.2 b).isSome=true\/ ∃x∈a,∃r,soleR all x=some r/\r.Bib=b)->
  (YN ((a.map λk=>(k,g k)).foldl (divS all) s).2 b).isSome=true
 |[],s,h=>by
  rcases h with h|⟨x,hx,_⟩
  .exact h
  .cases hx
 |x::a,s,h=>by
  rw[Vr,XK];refine Qjl all g b a _ ?_;have keep:(YN s.2 b).isSome=true->(YN (divS all s (x,g x)).2 b).isSome=true:=by
   intro q;rw[QcG];cases i:soleR all x with
   |none=>simp only;cases openB all x<;>exact q
   |some r=>
    simp only;rw[Qa7];split
    .rfl
    .exact q
  rcases h with h|⟨y,d,r,e,f⟩
  .exact .inl (keep h)
  .rcases Ve.1 d with rfl|d
   .left;rw[QcG,e];simp only;rw[Qa7,if_pos f.symm];rfl
   .exact .inr ⟨y,d,r,e,f⟩
theorem QhO{all:List Rank}{x:Int}{r:Rank}(h:r∈candP all x):r∈all/\(r.Kind != 3)=true/\r.Lo<=x/\x<=r.Hi:=by
 obtain⟨b,a⟩:=Xe.1 h;simp only[candB,X4,decide_eq_true_eq]at a;exact⟨b,a.1,a.2.1,a.2.2⟩
theorem Qcp{f:Field}{x:Int}{r:Rank}(h:soleR (allP f) x=some r):∃i,i<f.Runners.length/\ofP f i=r/\(r.Kind==1)=true/\r.Lo=x/\1<=x/\x<=(f.Runners.length:Int):=by
 unfold soleR at h
 match hc:candP (allP f) x,h with
 |[a],h=>
  simp only at h;cases q:(a.Kind==1)with
  |false=>rw[q]at h;cases h
  |true=>
   rw[q]at h;obtain rfl:a=r:=X7 h;obtain⟨g,k,p,l⟩:=QhO (show a∈candP (allP f) x by rw[hc];simp);obtain⟨i,d,e⟩:=Qjv g;subst e;obtain⟨n,m,j⟩:=Qlz d k;have:=j q;exact⟨i,d,rfl,q,by omega,by omega,by omega⟩
 |[],h=>cases h
 |a::b::t,h=>cases h
theorem Qm6{f:Field}{x:Int}(h:openB (allP f) x=true):1<=x/\x<=(f.Runners.length:Int):=by
 unfold openB at h;simp only[X4]at h
 match hc:candP (allP f) x,h.1 with
 |a::t,_=>
  obtain⟨d,g,m,j⟩:=QhO (show a∈candP (allP f) x by rw[hc];simp);obtain⟨i,b,e⟩:=Qjv d;subst e;obtain⟨l,k,_⟩:=Qlz b g;omega
 |[],z=>cases z
theorem QlD{m:MapI}(h:(m.map Prod.fst).Nodup):(keysS m).Nodup:=((Yd ltI _).nodup_iff).2 h
def recR(f:Field)(k:Int):Int->List Nat->Ctl Int Int
 |at_,[]=>.cont at_
 |at_,i::t=>bif !candB k (ofP f i)then recR f k at_ t else bif decide (0<=at_)||((ofP f i).Kind != 1)then .done (-1)else recR f k (i:Int) t
def outC:Ctl Int Int->Int
 |.cont a=>a
 |.done a=>a
theorem QdA(f:Field)(o:FieldOk f)(k:Int):Ev (λn=>F_aw n f k) (outC (recR f k (-1) (List.range f.Runners.length))):=by
 have j:=o.few.runs;unfold F_aw;have loop:∀(m i:Nat) (a:Int),i+m=f.Runners.length->EvI (λn=>F_cd n f k) (a,(i:Int)) (recR f k a (List.range' i m)):=by
  intro m
  induction m with
  |zero=>
   intro i a h;refine EvI.done ?_;unfold F_cd;simp only[geN (show f.Runners.length<=i by omega),cond_false];exact Qa _
  |succ m e=>
   intro i a h;have b:i<f.Runners.length:=by omega
   rw[List.range'_succ];unfold recR;cases d:candB k (ofP f i)with
   |false=>
    simp only[Xi,cond_true];refine EvI.cont ?_ (e (i+1) a (by omega));unfold F_cd;simp only[ltN b,cond_true,Ye (show i<=1048576 by omega)];refine Ev.bind (v:=Ctl.cont a) (Ev.bind ((Qgy f o b k).eq d) (Qa _)) (Qa _)
   |true=>
    simp only[Xh,cond_false];cases g:decide (0<=a)||((ofP f i).Kind != 1)with
    |true=>
     simp only[cond_true];refine EvI.done ?_;unfold F_cd;simp only[ltN b,cond_true,Ye (show i<=1048576 by omega)];refine Ev.bind (v:=Ctl.done (Ctl.done (Ctl.done (-1)))) (Ev.bind ((Qgy f o b k).eq d) (QN (Ev.bind (QeM f o b) (Ev.bind (v:=true) ((Qf λ_=>Qa _).eq g) (Qa _))))) (Qa _)
    |false=>
     simp only[cond_false];refine EvI.cont ?_ (e (i+1) (i:Int) (by omega));unfold F_cd;simp only[ltN b,cond_true,Ye (show i<=1048576 by omega)];refine Ev.bind (v:=Ctl.cont (i:Int)) (Ev.bind ((Qgy f o b k).eq d) (QN (Ev.bind (QeM f o b) (Ev.bind (v:=false) ((Qf λ_=>Qa _).eq g) (Qa _))))) (Qa _)
 have:=loop f.Runners.length 0 (-1) (by omega);rw[<- List.range_eq_range']at this;refine Ev.bind this.ev ?_;cases recR f k (-1) (List.range f.Runners.length)<;>exact Qa _
theorem Qi5(f:Field)(k:Int):∀(t:List Nat) (a:Int),0<=a->outC (recR f k a t)=(match t.filter (λi=>candB k (ofP f i))with|[]=>a|_=> -1)
 |[],a,h=>rfl
 |i::t,a,h=>by
  unfold recR;rw[Xd];cases hc:candB k (ofP f i)with
  |false=>
   simp only[Xi,cond_true,Xj,if_false];exact Qi5 f k t a h
  |true=>
   simp only[Xh,cond_false,if_true];rw[QJ h];rfl
theorem Qi6(f:Field)(k:Int):∀(t:List Nat) (a:Int),a<0->outC (recR f k a t)=(match t.filter (λi=>candB k (ofP f i))with|[]=>a|[i]=>bif (ofP f i).Kind==1 then(i:Int)else-1|_=> -1)
 |[],a,h=>rfl
 |i::t,a,h=>by
  unfold recR;rw[Xd];cases hc:candB k (ofP f i)with
  |false=>
   simp only[Xi,cond_true,Xj,if_false];exact Qi6 f k t a h
  |true=>
   simp only[Xh,cond_false,if_true];rw[QD (show¬0<=a by omega),Bool.false_or];cases hk:((ofP f i).Kind==1)with
   |true=>
    have:((ofP f i).Kind != 1)=false:=by simp[bne,hk]
    rw[this,cond_false,Qi5 f k t (i:Int) (by omega)];cases t.filter (λi=>candB k (ofP f i))with
    |nil=>simp only[hk,cond_true]
    |cons j s=>rfl
   |false=>
    have:((ofP f i).Kind != 1)=true:=by simp[bne,hk]
    rw[this,cond_true];cases t.filter (λi=>candB k (ofP f i))with
    |nil=>simp only[hk,cond_false];rfl
    |cons j s=>rfl
theorem Qi4(f:Field)(k:Int):(∃i,i<f.Runners.length/\soleR (allP f) k=some (ofP f i)/\outC (recR f k (-1) (List.range f.Runners.length))=(i:Int))\/(soleR (allP f) k=none/\outC (recR f k (-1) (List.range f.Runners.length))= -1):=by
 rw[Qi6 f k _ (-1) (by omega)];have a:candP (allP f) k=((List.range f.Runners.length).filter (λi=>candB k (ofP f i))).map (ofP f):=by
  unfold candP allP;rw[List.filter_map];rfl
 unfold soleR;rw[a]
 match h:(List.range f.Runners.length).filter (λi=>candB k (ofP f i))with
 |[]=>exact .inr ⟨rfl,rfl⟩
 |[i]=>
  have b:i<f.Runners.length:=by
   have:i∈(List.range f.Runners.length).filter (λi=>candB k (ofP f i)):=by rw[h];simp
   simpa using(Xe.1 this).1
  simp only[Vr,Vs];cases d:((ofP f i).Kind==1)with
  |true=>exact .inl ⟨i,b,rfl,rfl⟩
  |false=>exact .inr ⟨rfl,rfl⟩
 |i::j::t=>exact .inr ⟨rfl,rfl⟩
def insP(p:Payment):List Payment->List Payment
 |[]=>[p]
 |q::l=>bif decide (q.Bib<p.Bib)then q::insP p l else p::q::l
def posP(p:Payment):List Payment->Nat
 |[]=>0
 |q::l=>bif decide (q.Bib<p.Bib)then posP p l+1 else 0
theorem Qgg(p:Payment):∀l,posP p l<=l.length
 |[]=>X0 _
 |q::l=>by
  unfold posP;have:=Qgg p l;cases decide (q.Bib<p.Bib)<;>simp;omega
theorem Qeu(p:Payment):∀l,l.take (posP p l)++p::l.drop (posP p l)=insP p l
 |[]=>rfl
 |q::l=>by
  unfold posP insP;cases decide (q.Bib<p.Bib)with
  |false=>rfl
  |true=>simp only[cond_true,List.take_succ_cons,List.drop_succ_cons,List.cons_append,Qeu p l]
theorem Qet(p x:Payment):∀l,x∈insP p l↔x=p\/x∈l
 |[]=>by simp[insP]
 |q::l=>by
  unfold insP;have:=Qet p x l;cases decide (q.Bib<p.Bib)with
  |false=>simp
  |true=>
   simp only[cond_true,Ve,this];constructor
   .rintro(h|h|h)
    .exact .inr (.inl h)
    .exact .inl h
    .exact .inr (.inr h)
   .rintro(h|h|h)
    .exact .inr (.inl h)
    .exact .inl h
    .exact .inr (.inr h)
theorem QlI(p:Payment)(l:List Payment):(insP p l).length=l.length+1:=by
 rw[<- Qeu];simp;have:=Qgg p l;omega
def ltB(p q:Payment):Prop:=p.Bib<q.Bib
theorem Qdv(p:Payment):∀l,l.Pairwise ltB->(∀q∈l,q.Bib≠p.Bib)->(insP p l).Pairwise ltB
 |[],_,_=>by simp[insP]
 |q::l,h,hn=>by
  unfold insP;have h1:=Xc.1 h;have hne:=hn q (Vc ..);by_cases hq:q.Bib<p.Bib
  .rw[QJ hq];refine Xc.2 ⟨λx hx=>?_,Qdv p l h1.2 λy hy=>hn y (Vd _ hy)⟩;rcases(Qet p x l).1 hx with rfl|hx
   .exact hq
   .exact h1.1 x hx
  .rw[QD hq];refine Xc.2 ⟨λx hx=>?_,h⟩;rcases Ve.1 hx with rfl|hx
   .show p.Bib<x.Bib;omega
   .have:q.Bib<x.Bib:=h1.1 x hx;show p.Bib<x.Bib;omega
theorem Qne(l:List Payment)(p:Payment)(j:l.length<=1000000):Ev (λn=>F_ei n l p) (insP p l):=by
 have g:=Qgg p l;unfold F_ei;have loop:∀(t:List Payment) (i:Nat),l.drop i=t->i<=l.length->EvI (λn=>F_hc n l p) (i:Int) ((i+posP p t:Nat):Int):=by
  intro t
  induction t with
  |nil=>
   intro i d e;refine EvI.done ?_;unfold F_hc;simp only[Q0 d e,cond_false,XQ];exact Qa _
  |cons q t h=>
   intro i d e;obtain⟨a,b⟩:=Qq (by omega) d;unfold posP;cases f:decide (q.Bib<p.Bib)with
   |false=>
    refine EvI.done ?_;unfold F_hc;simp only[a.lt,cond_true,a.ix,XQ,f,cond_false];exact Qa _
   |true=>
    refine(EvI.cont ?_ (h (i+1) b (by have:=a.lt';omega))).eq (by simp only[cond_true];omega);unfold F_hc;simp only[a.lt,cond_true,a.ix,XQ,f,a.nx];exact Qa _
 refine Ev.bind ((loop l 0 rfl (X2 _)).ev.eq (by rw[XB])) ?_;rw[QnZ l g];simp only[XQ];rw[QdW _ _ (by simp;omega)];simp only[XQ,Vp];rw[QdW _ _ (by simp;omega)];simp only[XQ];rw[Qk6 l g];simp only[XQ];rw[QdW _ _ (by simp;omega)];refine(Qa _).eq ?_;rw[Vq,List.singleton_append,Qeu]
end Go.Sw
