/- The plain laws that a law needs, with no program in sight. -/
import Derived.Test.YtgjcbknjiemdgaaGreatDoorW16Sy
set_option linter.unusedVariables false
set_option linter.unusedSimpArgs false
namespace Go.Sw
open List(map)
open Int(toNat)
open Go.IntKind(i64 u64 u8)
def inR(lo hi x:Int):Bool:=decide (lo<=x)&&decide (x<=hi)
theorem QgV(lo hi:Int)(l:List Int)(a:l.length<=4611686018427387904):Ev (λn=>F_a n lo hi l) (l.all (inR lo hi)):=by
 have h:Ev (λn=>F_eo n l lo hi) (l.any λx=> !inR lo hi x):=by
  refine Ev.contains l _ (λn x=>F_fx n x lo hi) a λx _=>?_;refine Ea ((Et λh=>Qa _).eq ?_) (Qa _);unfold inR;rw[XW];simp
 refine Ea h ((Qa _).eq ?_);rw[List.not_any_eq_all_not];simp
def okN(c:Nat):Bool:=(decide (97<=c)&&decide (c<=122))||(decide (48<=c)&&decide (c<=57))||decide (c=95)
def okAN(c:Nat):Bool:=decide (97<=c)&&decide (c<=122)
def okC(c:UInt8):Bool:=okN c.toNat
def okA(c:UInt8):Bool:=okAN c.toNat
def kwL:List (List UInt8):=[[99,111,117,114,115,101],[109,97,116,115],[115,116,97,114,116],[112,97,115,115],[101,110,100],[108,101,103],[116,111],[100,105,115,116,97,110,99,101],[103,117,110],[99,104,105,112],[115,108,111,116],[108,97,112,115],[108,97,112],[99,117,116,111,102,102],[101,120,116,114,97],[119,97,118,101],[111,102,102,101,110,99,101],[111,117,116],[99,97,116,101,103,111,114,121],[112,114,105,122,101],[97,108,108],[116,105,101,115],[105,102],[101,108,115,101],[97,110,100],[111,114],[110,111,116],[111,108,100,101,114],[121,111,117,110,103,101,114],[98,105,98],[100,114,97,119],[102,105,101,108,100],[115,104,111,114,116],[102,97,117,108,116,115],[109,105,115,115,101,115],[115,116,114,97,121,115],[119,105,110,100,111,119],[114,101,115,105,100,117,97,108],[100,114,105,102,116],[112,114,111,116,101,115,116],[102,101,101],[100,101,97,100,108,105,110,101]]
theorem QhU(c d:Bool):(bif c then some c else some d)=some (c||d):=by cases c<;>rfl
theorem Qe2(c d:Bool):(bif c then some true else some d)=some (c||d):=by cases c<;>rfl
theorem Qgn(n:Nat)(s:List UInt8):F_dd n s=some (kwL.contains s):=by
 unfold F_dd;simp only[QhU,Qe2,XI];simp only[kwL,List.contains_cons,List.contains_nil,Bool.or_assoc]
def kwsOf:List UInt8->List (List UInt8)
 |[]=>[]
 |b::l=>(bif b==32&& !(l.dropWhile λc=>c != 32).isEmpty then[l.takeWhile λc=>c != 32]else[])++kwsOf l
theorem Qec:∀(l s:List UInt8),(∀c∈s,c≠32)->(s++[32]).isPrefixOf l=((l.takeWhile λc=>c != 32)==s&& !(l.dropWhile λc=>c != 32).isEmpty)
 |[],s,h=>by cases s<;>simp
 |b::l,[],h=>by
  by_cases e:b=32
  .subst e;simp
  .have e1:=by simpa using e
   have g:(32==b)=false:=by simpa using λq=>e q.symm
   simp[List.isPrefixOf,e1,g]
 |b::l,c::s,h=>by
  have j:=h c (by simp);have f:=Qec l s λd a=>h d (by simp[a]);by_cases e:b=32
  .subst e;have:=by simpa using j
   simp[List.isPrefixOf,this]
  .have e1:(b != 32)=true:=by simpa using e
   simp[VH,List.isPrefixOf,List.takeWhile_cons,List.dropWhile_cons,e1,f];by_cases q:c=b
   .subst q;simp
   .have q1:=by simpa using q
    have i:(b==c)=false:=by simpa using λz=>q z.symm
    simp[q1,i]
theorem contains_cons(b:UInt8)(l t:List UInt8)(a:t≠[]):Lib.contains (b::l) t=(t.isPrefixOf (b::l)||Lib.contains l t):=by
 unfold Lib.contains;rw[show Lib.index (b::l) t=if t.isPrefixOf (b::l)then 0 else if Lib.index l t== -1 then-1 else Lib.index l t+1 from rfl];cases h:t.isPrefixOf (b::l)with
 |true=>simp
 |false=>
  by_cases q:Lib.index l t= -1
  .simp[q]
  .have q1:=by simpa using q
   simp;omega
theorem Qb4(s:List UInt8)(h:∀c∈s,c≠32):∀l,Lib.contains l (32::(s++[32]))=(kwsOf l).contains s
 |[]=>by simp[Lib.contains,Lib.index,kwsOf]
 |b::l=>by
  rw[contains_cons b l _ (by simp),Qb4 s h l];simp only[kwsOf,List.isPrefixOf,Qec l s h];by_cases e:b=32
  .subst e;cases q: !(l.dropWhile λc=>c != 32).isEmpty with
   |true=>
    simp only[beq_self_eq_true,Vx,Bool.and_true,Ve];congr 1;rw[XW];simp[Vv];exact⟨λh=>h.symm,λh=>h.symm⟩
   |false=>simp
  .have e1:(b==32)=false:=by simpa using e
   have a:(32==b)=false:=by simpa using λq=>e q.symm
   simp[e1,a]
def wordsL:List UInt8:=[32,99,111,117,114,115,101,32,109,97,116,115,32,115,116,97,114,116,32,112,97,115,115,32,101,110,100,32,108,101,103,32,116,111,32,100,105,115,116,97,110,99,101,32,103,117,110,32,99,104,105,112,32,115,108,111,116,32,108,97,112,115,32,108,97,112,32,99,117,116,111,102,102,32,101,120,116,114,97,32,119,97,118,101,32,111,102,102,101,110,99,101,32,111,117,116,32,99,97,116,101,103,111,114,121,32,112,114,105,122,101,32,97,108,108,32,116,105,101,115,32,105,102,32,101,108,115,101,32,97,110,100,32,111,114,32,110,111,116,32,111,108,100,101,114,32,121,111,117,110,103,101,114,32,98,105,98,32,100,114,97,119,32,102,105,101,108,100,32,115,104,111,114,116,32,102,97,117,108,116,115,32,109,105,115,115,101,115,32,115,116,114,97,121,115,32,119,105,110,100,111,119,32,114,101,115,105,100,117,97,108,32,100,114,105,102,116,32,112,114,111,116,101,115,116,32,102,101,101,32,100,101,97,100,108,105,110,101,32]
theorem Qpt:kwsOf wordsL=kwL:=by decide+kernel
def classTab:List Int:=(List.range 256).map λi=>if 97<=i/\i<=122\/65<=i/\i<=90 then 2 else if 48<=i/\i<=57 then 3 else if i∈[123,125,40,41,91,93,59,44,61,60,62]then 4 else if i∈[32,9,10,13]then 1 else 0
theorem QjW:Ev F_dj classTab:=by
 unfold F_dj;refine Ea (Qcx (step:=F_eu 0) 40 (b:=(iter (F_eu 0) 40 (List.replicate 256 0,97)).getD []) (by decide+kernel)) ?_;refine Ea (Qcx (step:=F_hl 0) 40 (b:=(iter (F_hl 0) 40 ((iter (F_eu 0) 40 (List.replicate 256 0,97)).getD [],48)).getD []) (by decide+kernel)) ?_;generalize hb:(iter (F_hl 0) 40 ((iter (F_eu 0) 40 (List.replicate 256 0,97)).getD [],48)).getD []=b2;refine Ea (Qcx (step:=F_kn 0) 40 (b:=(iter (F_kn 0) 40 (b2,0)).getD []) (by subst hb;decide+kernel)) ?_;refine Ea (Qcx (step:=F_kw 0) 40 (b:=classTab) (by subst hb;decide+kernel)) ?_;exact Ez (by decide+kernel)
theorem QlO:((List.range 256).all λi=> !okN i||decide (classTab[i]?=some (if okAN i then 2 else if i=95 then 0 else 3)))=true:=by decide+kernel
theorem Qnp{c:UInt8}(h:okC c=true):QeD 256 classTab (c.toNat:Int)=some (if okA c then 2 else if c.toNat=95 then 0 else 3):=by
 have a:=Xt.1 QlO c.toNat (List.mem_range.2 c.toNat_lt);unfold okC at h;rw[h]at a;simp[Xh,Bool.false_or,Vn]at a;unfold QeD;rw[show Nat.beq classTab.length 256=true by decide+kernel,Vl,Q8 a];rfl
def goodS(s:List UInt8):Bool:=decide (1<=s.length)&&decide (s.length<=24)&&(s.head?).any okA&&s.all okC
def isNameS(s:List UInt8):Bool:=goodS s&& !kwL.contains s
theorem QlC(s:List UInt8)(h:goodS s=true):Ev (λn=>F_cf n s) true:=by
 unfold goodS at h;simp only[XV,Vn,Xt]at h;obtain⟨⟨⟨d,l⟩,f⟩,g⟩:=h;unfold F_cf;refine Ea QjW ?_;refine JL (v:=List.replicate 256 0) (by decide+kernel) ?_;refine JL (v:=classTab) (by decide+kernel) ?_;refine Ea (v:=Ctl.cont ()) (Ev.iter (λi=>(i:Int)) s.length rfl (λi j=>?_) ?_) ?_
 .have a:=Jm (x:=s[i]) (by omega) (XJ j);have k:=g _ a.mem;unfold F_ki;simp only[a.lt,Vl,a.ix,XI,Qnp k,a.nx];cases i with
  |zero=>
   have:okA s[0]=true:=by
    cases s with
    |nil=>simp at d
    |cons c r=>simpa using f
   simp[this];exact Qa _
  |succ i=>
   by_cases q:okA s[i+1]=true
   .simp[q];exact Qa _
   .by_cases e:s[i+1].toNat=95
    iterate 2 simp[q,e];exact Qa _
 .unfold F_ki;simp only[Jl,Vm];exact Qa _
 .refine Ez ?_;cases s with
  |nil=>simp at d
  |cons c r=>rfl
theorem Qlx{s:List UInt8}(h:goodS s=true):∀c∈s,c≠32:=by
 unfold goodS at h;simp[XV,Xt]at h;rintro c a rfl;exact absurd (h.2 _ a) (by decide)
theorem QmV{s:List UInt8}(h:goodS s=true):s.length<=24:=by
 unfold goodS at h;simp[XV,Vn]at h;exact h.1.1.2
theorem QjY(s:List UInt8)(h:goodS s=true):Ev (λn=>F_hg n s) (kwL.contains s):=by
 refine Ea (Ea (QlC s h) (Qla ?_)) (Qa _);have a:=QmV h;refine JL (by unfold cat;rw[XR (by simp;omega)];rfl) (JL (by unfold cat;rw[XR (by simp;omega)];rfl) ?_);refine JL ?_ (Qa _);show QfC wordsL ([32]++s++[32])=some (kwL.contains s);unfold QfC;rw[show Nat.blt wordsL.length 4294967281=true by decide+kernel,Vl];rw[show[32]++s++[32]=32::(s++[32])by simp,Qb4 s (Qlx h),Qpt]
theorem ch_lt(c:UInt8)(k:Nat):decide ((c.toNat:Int)<(k:Int))=decide (c.toNat<k):=by
 simp
theorem badC(c:UInt8):(bif decide ((c.toNat:Int)<97)then(bif decide ((c.toNat:Int)<48)then some ((c.toNat:Int) != 95)else(bif decide (57<(c.toNat:Int))then some ((c.toNat:Int) != 95)else some false))else(bif decide (122<(c.toNat:Int))then(bif decide ((c.toNat:Int)<48)then some ((c.toNat:Int) != 95)else(bif decide (57<(c.toNat:Int))then some ((c.toNat:Int) != 95)else some false))else some false))=some (!okC c):=by
 unfold okC okN;generalize c.toNat=k;have e:((k:Int) != 95)= !decide (k=95):=by
  by_cases h:k=95
  .subst h;rfl
  .rw[Vu h];simp;omega
 rw[e];by_cases j:k<48
 .rw[QX (show(k:Int)<97 by omega),QX (show(k:Int)<48 by omega)];have a:¬97<=k:=by omega
  have g:¬48<=k:=by omega
  simp[a,g]
 .rw[QW (show¬(k:Int)<48 by omega)];by_cases d:k<=57
  .rw[QX (show(k:Int)<97 by omega),QW (show¬57<(k:Int)by omega)];have a:48<=k:=by omega
   simp[a,d]
  .rw[QX (show 57<(k:Int)by omega)];by_cases i:k<97
   .rw[QX (show(k:Int)<97 by omega)];have a:=by omega
    simp[a,d]
   .rw[QW (show¬(k:Int)<97 by omega)];by_cases f:k<=122
    .rw[QW (show¬122<(k:Int)by omega)];have a:97<=k:=by omega
     simp[a,f]
    .rw[QX (show 122<(k:Int)by omega)];simp[d,f]
theorem QgM(n:Nat)(s:List UInt8):(bif decide ((s.length:Int)<1)then some true else(bif decide (24<(s.length:Int))then some true else(idx s 0).bind λx10=>(bif decide ((x10.toNat:Int)<97)then some true else(idx s 0).bind λx12=>some (decide (122<(x12.toNat:Int))))))=some (!(decide (1<=s.length)&&decide (s.length<=24)&&(s.head?).any okA)):=by
 cases s with
 |nil=>rfl
 |cons c r=>
  by_cases h:(c::r).length<=24
  .rw[QW (show¬24<((c::r).length:Int)by omega),Vm];have f:idx (c::r) 0=some c:=rfl;simp[f,XI];simp[XY]at h;have a:r.length<=23:=by omega
   simp[List.head?_cons,Option.any_some,okA,okAN];rw[show(97:Int)=(97:Nat)from rfl,ch_lt];by_cases d:c.toNat<97
   .have:=by omega
    simp[d]
   .have e:97<=c.toNat:=by omega
    simp[d,e,a];by_cases q:c.toNat<=122
    .rw[QW (show¬122<(c.toNat:Int)by omega),QX q];rfl
    .rw[QX (show 122<(c.toNat:Int)by omega),QW q];rfl
  .rw[QX (show 24<((c::r).length:Int)by omega),Vl];simp[XY]at h;have a:=by omega
   simp[a]
theorem Qg0(s:List UInt8)(h:s.length<=1048576):Ev (λn=>F_i n s) (isNameS s):=by
 refine Ea (Ez (QgM 0 s)) ?_;unfold isNameS;cases g:(decide (1<=s.length)&&decide (s.length<=24)&&(s.head?).any okA)with
 |false=>
  have:goodS s=false:=by unfold goodS;rw[g];rfl
  rw[this];exact Qa _
 |true=>
  have f:goodS s=s.all okC:=by unfold goodS;rw[g];rfl
  refine Ea (Jf s (λc=> !okC c) (λi=>(i:Int)) (Ctl.done false) (Ctl.cont ()) (by omega) rfl (λi x a d=>?_) (λi x a d=>?_) ?_) ?_
  .unfold F_jf;simp only[a.lt,a.ix,XI,badC,d,a.nx];exact Qa _
  .unfold F_jf;simp only[a.lt,a.ix,XI,badC,d];exact Qa _
  .unfold F_jf;simp[Jl];exact Qa _
  .rw[f];have e:s.any (λc=> !okC c)= !s.all okC:=by rw[List.not_all_eq_any_not]
   rw[e];cases q:s.all okC with
   |true=>
    exact Ea (QjY s (f.trans q)) (Qa _)
   |false=>
    exact Qa _
theorem Qbu(s:List UInt8)(p:s.length<=1048576):Ev (λn=>F_bz n s) (isNameS s):=by
 refine Ea (Ez (QgM 0 s)) ?_;unfold isNameS;cases a:(decide (1<=s.length)&&decide (s.length<=24)&&(s.head?).any okA)with
 |false=>
  have:goodS s=false:=by unfold goodS;rw[a];rfl
  rw[this];exact Qa _
 |true=>
  have l:goodS s=s.all okC:=by unfold goodS;rw[a];rfl
  cases s with
  |nil=>simp at a
  |cons c r=>
   have m:okC c=true:=by
    simp[XV,List.head?_cons,Option.any_some]at a;have:=a.2;unfold okA at this;unfold okC okN;unfold okAN at this;rw[this];rfl
   have hr:=by
    simp[XV,Vn,XY]at a;omega
   have k:∀(i:Nat) (x:UInt8),At r i x->decide (((i+1:Nat):Int)<(c::r).length)=true/\idx (c::r) (i+1:Nat)=some x/\i64.wrap ((i+1:Nat)+1)=i+1+1:=by
    intro i x d;have:=d.lt';exact⟨Vr (by simp;omega),Q8 (by simpa using d.get),Q2 (by omega)⟩
   refine Ea (Jf r (λc=> !okC c) (λi=>((i+1:Nat):Int)) (Ctl.done false) (Ctl.cont ()) (by omega) rfl (λi x d f=>?_) (λi x d f=>?_) ?_) ?_
   .obtain⟨g,h,j⟩:=k i x d;unfold F_jh;simp only[g,h,XI,badC,f,j];exact Qa _
   .obtain⟨g,h,j⟩:=k i x d;unfold F_jh;simp only[g,h,XI,badC,f];exact Qa _
   .unfold F_jh;rw[QW (by simp),Vm];exact Qa _
   .rw[l];have e:r.any (λc=> !okC c)= !(c::r).all okC:=by rw[List.all_cons,m,Vx,List.not_all_eq_any_not]
    rw[e];cases q:(c::r).all okC with
    |true=>
     exact Ea (Ez (Qgn 0 _)) (Qa _)
    |false=>
     exact Qa _
def diffS:List (List UInt8)->List (List UInt8)->Bool
 |_,[]=>true
 |seen,x::r=>isNameS x&& !seen.contains x&&diffS (seen++[x]) r
theorem Qf3(l:List (List UInt8))(i:Nat)(x:List UInt8)(h:At l i x):diffS (l.take i) (l.drop i)=(isNameS x&& !(l.take i).contains x&&diffS (l.take (i+1)) (l.drop (i+1))):=by
 rw[h.drop,h.take];rfl
theorem Qb2{α:Type}(l:List α)(a:α->List UInt8)(g:Nat->α->Option Unit)(hg:∀n x,g n x=some ())(q:l.length<=1048576)(p:∀x∈l,(a x).length<=1048576):
  Ev (λn=>((iter (λs:(List (List UInt8×Bool))×Int=>bif decide (s.2<(l.length:Int))then(idx l s.2).bind λx35=>(g n x35).bind λr36=>((F_i n (a x35)).bind λr42=>(bif (!r42)then some true else(some (QL s.1 (a x35) false)).bind λv44=>some v44):Option Bool).bind λb40=>(bif b40 then some (.done (.done false))else(some (Yp s.1 (a x35) true)).bind λm46=>some (.cont (m46,i64.wrap (s.2+1))))else some (.done (.cont ()))) n ([],0):Option (Ctl Unit Bool)).bind λb28=>
   match b28 with
   |.cont _=>some true
   |.done s=>some s:Option Bool)) (diffS [] (l.map a)):=by
 have f:l.length<=4611686018427387904:=by omega
 have j:(l.map a).length<=4611686018427387904:=by simpa using f
 have k:=QbE (B:=Ctl Unit Bool) l (step:=λn s=>bif decide (s.2<(l.length:Int))then(idx l s.2).bind λx35=>(g n x35).bind λr36=>((F_i n (a x35)).bind λr42=>(bif (!r42)then some true else(some (QL s.1 (a x35) false)).bind λv44=>some v44)).bind λb40=>(bif b40 then some (.done (.done false))else(some (Yp s.1 (a x35) true)).bind λm46=>some (.cont (m46,i64.wrap (s.2+1))))else some (.done (.cont ())))
  (λi=>(Yw a true (l.take i),i)) (λi=>bif diffS ((l.map a).take i) ((l.map a).drop i)then .cont ()else .done false) f rfl (λi x e=>?_) ?_
 .refine Ea k ?_;simp[List.take_zero,List.drop_zero];cases diffS [] (l.map a)<;>exact Qa _
 .have ha2:=Jm j (by rw[Xo,e.get];rfl);simp only[Qf3 _ _ _ ha2];have d:Ev (λn=>(F_i n (a x)).bind λr42=>(bif (!r42)then some true else(some (QL (Yw a true (l.take i)) (a x) false)).bind λv44=>some v44)) (!(isNameS (a x)&& !((l.map a).take i).contains (a x))):=by
   refine Ea (Qg0 (a x) (p x e.mem)) ?_;cases isNameS (a x)with
   |false=>exact Qa _
   |true=>
    refine Q1 ((Qa _).eq ?_);rw[Qee,List.map_take];by_cases h:a x∈(l.map a).take i
    iterate 2 simp
  cases m:(isNameS (a x)&& !((l.map a).take i).contains (a x))with
  |true=>
   rw[m]at d;refine .inl ⟨?_,by simp⟩;simp only[e.lt,e.ix,XI,hg];refine Ea d ?_;simp[e.nx];rw[e.take,Qht];exact Qa _
  |false=>
   rw[m]at d;refine .inr ?_;simp only[e.lt,e.ix,XI,hg];refine Ea d ?_;exact Qa _
 .simp[Jl];rw[show(l.map a).drop l.length=[]by simp];exact Qa _
theorem QpD{α:Type}{l:List α}{x:α}(h:l.length<=140737488):app l [x]=some (l++[x]):=Qby l x (by omega)
theorem QeE(l:List (List UInt8))(s:l.length<=1048576)(k:∀x∈l,x.length<=1048576):Ev (λn=>F_v n l) (diffS [] l):=by
 have m:l.length<=4611686018427387904:=by omega
 refine Ea (QbE l (λi=>(i:Int)) (λi=>bif diffS (l.take i) (l.drop i)then .cont ()else .done false) m rfl (λi x a=>?_) ?_) ?_
 .simp only[Qf3 _ _ _ a];unfold F_kd;simp only[a.lt,a.ix,XI];cases g:isNameS x with
  |false=>
   exact .inr (Ea ((Qbu x (k x a.mem)).eq g) (Qa _))
  |true=>
   have r:=a.lt';have inner:Ev (λn=>iter (F_hj n l i) n 0) (bif (l.take i).contains x then Ctl.done (Ctl.done (Ctl.done false))else Ctl.cont ()):=by
    have e:(l.take i).contains x=(l.take i).any λy=>y==x:=by
     rw[XW];simp
    rw[e];have f:(l.take i).length=i:=by simp;omega
    refine Jf (l.take i) (λy=>y==x) (λi=>(i:Int)) _ _ (by omega) rfl (λj y d h=>?_) (λj y d h=>?_) ?_
    .have p:=d.lt';have hjg:=by
      have:=d.get;rw[List.getElem?_take]at this;split at this
      .exact this
      .cases this
     unfold F_hj;rw[QX (show(j:Int)<i by omega)];simp only[Q8 hjg,a.ix,XI,h,d.nx];exact Qa _
    .have p:=d.lt';have hjg:=by
      have:=d.get;rw[List.getElem?_take]at this;split at this
      .exact this
      .cases this
     unfold F_hj;rw[QX (show j<(i:Int)by omega)];simp only[Q8 hjg,a.ix,XI,h];exact Qa _
    .unfold F_hj;rw[f,QW (show¬i<(i:Int)by omega)];exact Qa _
   cases q:(l.take i).contains x with
   |true=>
    rw[q]at inner;exact .inr (Ea ((Qbu x (k x a.mem)).eq g) (Q1 (Ea inner (Qa _))))
   |false=>
    rw[q]at inner;refine .inl ⟨Ea ((Qbu x (k x a.mem)).eq g) (Q1 (Ea inner ?_)),by simp⟩;simp only[a.nx];exact Qa _
 .unfold F_kd;simp only[Jl,Xr];exact Qa _
 .simp only[List.take_zero,List.drop_zero];cases diffS [] l<;>exact Qa _
theorem Qae{α β:Type}(l:List α)(f:α->β)(k:l.length<=140737488):Ev (λn=>iter (λs:(List β)×Int=>bif decide (s.2<(l.length:Int))then(idx l s.2).bind λx15=>(app s.1 [f x15]).bind λl16=>some (Ctl.cont (l16,i64.wrap (s.2+1)))else some (Ctl.done s.1)) n (([]:List β),(0:Int))) (l.map f):=by
 have e:∀l:List α,l.foldl (λa x=>a++[f x]) []=l.map f:=by
  intro l;have h:∀(l:List α) (a:List β),l.foldl (λa x=>a++[f x]) a=a++l.map f:=by
   intro l
   induction l with
   |nil=>simp
   |cons x l j=>intro a;rw[XC,j];simp
  simpa using h l []
 rw[<- e l];refine Y3 l (λa x=>a++[f x]) [] (λa i=>(a,(i:Int))) (λa=>a) (by omega) rfl (λi x a g d=>?_) ?_
 .rw[e]at d;have:a.length<=140737488:=by rw[d];simp;omega
  simp only[g.lt,g.ix,QpD this,g.nx];exact Qa _
 .simp[Jl];exact Qa _
def namesS(c:Course):Bool:=isNameS c.Name&&(diffS [] (c.Mats.map (·.Name))&&(diffS [] (c.Distances.map (·.Name))&&(diffS [] (c.Waves.map (·.Name))&&(diffS [] (c.Offences.map (·.Name))&&diffS [] (c.Categories.map (·.Name))))))
structure CourseOk (c:Course):Prop where
 name:c.Name.length<=1048576
 mats:c.Mats.length<=1048576
 matsN:∀x∈c.Mats,x.Name.length<=1048576
 legs:c.Legs.length<=1048576
 dist:c.Distances.length<=1048576
 distN:∀x∈c.Distances,x.Name.length<=1048576
 cut:∀x∈c.Distances,x.Cutoffs.length<=1048576
 wave:c.Waves.length<=1048576
 waveN:∀x∈c.Waves,x.Name.length<=1048576
 off:c.Offences.length<=1048576
 offN:∀x∈c.Offences,x.Name.length<=1048576
 cat:c.Categories.length<=1048576
 catN:∀x∈c.Categories,x.Name.length<=1048576
 prize:c.Prizes.length<=1048576
theorem Qm9(c:Course)(w:CourseOk c):Ev (λn=>F_ek n c) (namesS c):=by
 refine Ea (Ea (Qg0 c.Name w.name) (Eh λ_=>?_)) (Qa _);have f:Ev (λn=>F_eq n c.Mats) (diffS [] (c.Mats.map (·.Name))):=by exact Qb2 c.Mats (·.Name) F_ep (λ_ _=>rfl) w.mats w.matsN
 have e:Ev (λn=>F_ez n c.Distances) (diffS [] (c.Distances.map (·.Name))):=by exact Qb2 c.Distances (·.Name) F_ej (λ_ _=>rfl) w.dist w.distN
 have a:Ev (λn=>F_ha n c.Waves) (diffS [] (c.Waves.map (·.Name))):=by exact Qb2 c.Waves (·.Name) F_ft (λ_ _=>rfl) w.wave w.waveN
 have g:Ev (λn=>F_hi n c.Offences) (diffS [] (c.Offences.map (·.Name))):=by exact Qb2 c.Offences (·.Name) F_gi (λ_ _=>rfl) w.off w.offN
 have d:Ev (λn=>F_fe n c.Categories) (diffS [] (c.Categories.map (·.Name))):=by exact Qb2 c.Categories (·.Name) F_et (λ_ _=>rfl) w.cat w.catN
 refine Ea f (Eh λ_=>(Ea e (Eh λ_=>?_)));refine Ea a (Eh λ_=>?_);exact Ea g (Eh λ_=>(Ea d (Qa _)))
structure Short (c:Course):Prop where
 mats:c.Mats.length<=140737488
 dist:c.Distances.length<=140737488
 wave:c.Waves.length<=140737488
 off:c.Offences.length<=140737488
 cat:c.Categories.length<=140737488
theorem QiU(c:Course)(w:CourseOk c)(s:Short c):Ev (λn=>F_gn n c) (namesS c):=by
 refine Ea (Qae c.Mats (·.Name) s.mats) (Ea (Qae c.Distances (·.Name) s.dist) ?_);refine Ea (Qae c.Waves (·.Name) s.wave) (Ea (Qae c.Offences (·.Name) s.off) ?_);refine Ea (Qae c.Categories (·.Name) s.cat) (Ea ?_ (Qa _));refine Ea (Qbu c.Name w.name) (Eh λ_=>?_);have mk:∀{α:Type} (l:List α) (nm:α->List UInt8),l.length<=1048576->(∀x∈l,(nm x).length<=1048576)->Ev (λn=>F_v n (l.map nm)) (diffS [] (l.map nm)):=by
  intro α l nm hl hn;refine QeE _ (by simpa using hl) λx d=>?_;obtain⟨y,a,rfl⟩:=Xf.1 d;exact hn y a
 refine Ea (mk c.Mats (·.Name) w.mats w.matsN) (Eh λ_=>(Ea (mk c.Distances (·.Name) w.dist w.distN) (Eh λ_=>?_)));refine Ea (mk c.Waves (·.Name) w.wave w.waveN) (Eh λ_=>(Ea (mk c.Offences (·.Name) w.off w.offN) (Eh λ_=>?_)));exact Ea (mk c.Categories (·.Name) w.cat w.catN) (Qa _)
theorem QaF{n:Nat}(h:n<=1048576):i64.wrap ((n:Int)-1)=(n:Int)-1:=Qn (by omega) (by omega)
theorem JI(x lo hi:Int):Ev (λn=>F_c n x lo hi) (inR lo hi x):=by
 exact Ea (Eh λ_=>Qa _) (Qa _)
theorem QfY(c:Course)(w:CourseOk c)(x:Int):Ev (λn=>F_m n c x) (inR 0 ((c.Mats.length:Int)-1) x):=by
 unfold F_m;rw[QaF w.mats];exact Ea (JI _ _ _) (Qa _)
mutual
def szP:Part->Nat
 |⟨_,_,ps⟩=>1+szPs ps
def szPs:List Part->Nat
 |[]=>0
 |p::r=>szP p+szPs r
end
theorem Jc(p:Part):szP p=1+szPs p.Parts:=by cases p;rfl
theorem JG{p:Part}:∀{l:List Part},p∈l->szP p<=szPs l
 |q::r,h=>by
  simp[szPs];rcases X4.1 h with rfl|h
  .omega
  .have:=JG h;omega
mutual
def partS(k:Int):Part->Bool
 |⟨m,laps,ps⟩=>bif laps==0 then inR 0 k m&&((ps.length:Int)==0)else inR 1 64 laps&&((m==0)&&(decide (0<(ps.length:Int))&&partsS k ps))
def partsS(k:Int):List Part->Bool
 |[]=>true
 |p::r=>partS k p&&partsS k r
end
theorem QbW(k:Int)(p:Part):partS k p=bif p.Laps==0 then inR 0 k p.Mat&&((p.Parts.length:Int)==0)else inR 1 64 p.Laps&&((p.Mat==0)&&(decide (0<(p.Parts.length:Int))&&partsS k p.Parts)):=by cases p;rfl
theorem Qa9(k:Int):∀l:List Part,partsS k l=l.all (partS k)
 |[]=>rfl
 |p::r=>by simp[partsS,List.all_cons,Qa9 k r]
theorem YR{p:Part}(h:Part.wf p):p.Parts.length<=1048576/\ ∀x∈p.Parts,Part.wf x:=by
 cases p;simp only[Part.wf,Qdw]at h;exact h.2.2.1
theorem QJ(lo hi x:Int):Ev (λn=>F_a n lo hi [x]) (inR lo hi x):=(QgV lo hi [x] (by simp)).eq (by simp)
theorem QaK(lo hi x y:Int):Ev (λn=>F_a n lo hi [x,y]) (inR lo hi x&&inR lo hi y):=(QgV lo hi [x,y] (by simp)).eq (by simp)
theorem Qm8(k:Int):∀(m:Nat) (l:List Part),szPs l<=m->l.length<=1048576->(∀x∈l,Part.wf x)->Ev (λn=>F_au n l k) (partsS k l):=by
 intro m
 induction m with
 |zero=>
  intro l d f a;cases l with
  |nil=>
   refine QY ?_;exact Jr [] (partS k) (λn x=>F_cj (F_au n) n x k) (by simp) (by simp)
  |cons p r=>
   simp only[szPs,Jc]at d;omega
 |succ m g=>
  intro l d f a;refine QY ?_;rw[Qa9];refine Jr l (partS k) (λn x=>F_cj (F_au n) n x k) (by omega) λp e=>?_;rw[QbW];have h:=JG e;rw[Jc]at h;obtain⟨w1,w2⟩:=YR (a p e);refine QbG (λ_=>?_) (λ_=>?_)
  .exact Ea (Ea (QJ _ _ _) (Eh λ_=>Qa _)) (Qa _)
  .exact Ea (Ea (QJ _ _ _) (Eh λ_=>Eh λ_=>Eh λ_=>Ea (g p.Parts (by omega) w1 w2) (Qa _))) (Qa _)
theorem QlB(c:Course)(w:CourseOk c):∀(m:Nat) (l:List Part),szPs l<=m->l.length<=1048576->(∀x∈l,Part.wf x)->Ev (λn=>F_ad n c l) (partsS ((c.Mats.length:Int)-1) l):=by
 intro m
 induction m with
 |zero=>
  intro l g h f;cases l with
  |nil=>
   refine QY ?_;show Ev (λn=>B_ad (F_ad n) n c []) _;exact⟨1,λn t=>by obtain⟨k,rfl⟩:∃k,n=k+1:=⟨n-1,by omega⟩;rfl⟩
  |cons p r=>
   simp only[szPs,Jc]at g;omega
 |succ m j=>
  intro l g h f;refine QY ?_;show Ev (λn=>B_ad (F_ad n) n c l) _;rw[Qa9];have step:∀(i:Nat) (x:Part),At l i x->Ev (λn=>F_jn n c l (F_ad n) i) (bif partS (c.Mats.length-1) x then .cont (i+1)else .done (.done false)):=by
   intro i x a;unfold F_jn;simp only[a.lt,a.ix,XI,a.nx];have q:=JG a.mem;rw[Jc]at q;obtain⟨w1,w2⟩:=YR (f x a.mem);refine Ea (Eh λ_=>Ea (QfY c w _) (Eh λ_=>Qa _)) (Ea (Ea (JI _ _ _) (Eh λ_=>Eh λ_=>Eh λ_=>Ea (j x.Parts (by omega) w1 w2) (Qa _))) ?_);rw[QbW];cases s:(x.Laps==0)with
   |true=>
    have e0:=by simpa using s
    have:inR 1 64 x.Laps=false:=by rw[e0];rfl
    rw[this];generalize(inR 0 (c.Mats.length-1) x.Mat&&((x.Parts.length:Int)==0))=b;cases b<;>exact Qa _
   |false=>
    generalize(inR 1 64 x.Laps&&((x.Mat==0)&&(decide (0<(x.Parts.length:Int))&&partsS (c.Mats.length-1) x.Parts)))=b;cases b<;>exact Qa _
  refine Ea (Jf l (λx=> !partS (c.Mats.length-1) x) (λi=>(i:Int)) (Ctl.done false) (Ctl.cont ()) (by omega) rfl (λi x a d=>?_) (λi x a d=>?_) ?_) ?_
  .refine(step i x a).eq ?_;have:=by simpa using d
   rw[this];rfl
  .refine(step i x a).eq ?_;have:=by simpa using d
   rw[this];rfl
  .unfold F_jn;simp[Jl];exact Qa _
  .have e:l.any (λx=> !partS (c.Mats.length-1) x)= !l.all (partS (c.Mats.length-1)):=by rw[List.not_all_eq_any_not]
   rw[e];cases l.all (partS (c.Mats.length-1))<;>exact Qa _
def legS(k:Int)(l:Leg):Bool:=(inR 0 k l.From&&inR 0 k l.To)&&((inR 0 68719476736 l.Min&&inR 0 68719476736 l.Max)&&decide (l.Min<=l.Max))
def cutS(k:Int)(x:Cutoff):Bool:=inR 0 k x.Mat&&(decide (1<=x.Lap)&&inR 0 1099511627776 x.Limit)
def distS(k:Int)(d:Distance):Bool:=inR 1 3 d.Timing&&(inR (-1) k d.Extra&&(partsS k d.Route&&d.Cutoffs.all (cutS k)))
def offS(o:Offence):Bool:=bif o.Out then(o.Time==0)&&(o.Laps==0)else bif o.Laps != 0 then(o.Time==0)&&inR 1 64 o.Laps else inR 0 68719476736 o.Time
def catS(x:Category):Bool:=(inR 0 120 x.From&&inR 0 120 x.To)&&decide (x.From<=x.To)
def prizeS(c:Course)(p:Prize):Bool:=inR 0 ((c.Distances.length:Int)-1) p.Distance&&(inR (-1) ((c.Categories.length:Int)-1) p.Category&&(inR 1 4000 p.Rank&&inR 1 1125899906842624 p.Amount))
def lastS(c:Course):Bool:=(inR 0 16 c.Faults.Misses&&inR 0 16 c.Faults.Strays)&&((inR 0 4294967296 c.Faults.Window&&inR 0 4294967296 c.Faults.Residual)&&(inR 0 100000 c.Faults.Drift&&(inR 0 1125899906842624 c.Fee&&inR 0 1099511627776 c.Deadline)))
def legKey(l:Leg):Ue:={from_:=l.From,to_:=l.To}
def prizeKey(p:Prize):Ug:={distance:=p.Distance,category:=p.Category,rank:=p.Rank}
def numbersS(c:Course):Bool:=
 let k:=(c.Mats.length:Int)-1
 c.Mats.all (λm=>inR 1 3 m.Kind)&&(c.Legs.all (legS k)&&(decide ((c.Legs.map legKey).Nodup)&&(c.Distances.all (distS k)&&(c.Waves.all (λw=>inR 0 1099511627776 w.Gun)&&(c.Offences.all offS&&(c.Categories.all catS&&(c.Prizes.all (prizeS c)&&(decide ((c.Prizes.map prizeKey).Nodup)&&lastS c))))))))
structure PartsOk (c:Course):Prop where
 len:∀d∈c.Distances,d.Route.length<=1048576
 wf:∀d∈c.Distances,∀x∈d.Route,Part.wf x
theorem QhM(l:List Leg)(d:l.length<=1048576):Ev (λn=>F_hb n l) (decide ((l.map legKey).Nodup)):=by
 refine Ea (QbF l legKey true (by omega) (λi x m a=>?_) (λm=>?_)) ((Qa _).eq ?_)
 .unfold F_kc F_hh;simp only[a.lt,a.ix,a.nx];exact Qa _
 .unfold F_kc;simp[Jl];exact Qa _
 .rw[XW];simp[Vv,Vn];have:=QcC legKey true l;rw[<- this.2];omega
theorem QfW(l:List Prize)(d:l.length<=1048576):Ev (λn=>F_gp n l) (decide ((l.map prizeKey).Nodup)):=by
 refine Ea (QbF l prizeKey true (by omega) (λi x m a=>?_) (λm=>?_)) ((Qa _).eq ?_)
 .unfold F_kj F_he;simp only[a.lt,a.ix,a.nx];exact Qa _
 .unfold F_kj;simp[Jl];exact Qa _
 .rw[XW];simp[Vv,Vn];have:=QcC prizeKey true l;rw[<- this.2];omega
theorem QjS(c:Course)(w:CourseOk c)(q:PartsOk c):Ev (λn=>F_cw n c) (numbersS c):=by
 unfold F_cw numbersS;rw[QaF w.mats];refine Ea (v:=_) ?_ (Qa _);have h:Ev (λn=>F_df n c.Mats) (c.Mats.all λm=>inR 1 3 m.Kind):=by
  unfold F_df F_fr F_fg;refine Jr c.Mats _ (λn x=>F_di n x) (by have:=w.mats;omega) λx a=>?_;unfold F_di;exact Ea (QJ _ _ _) (Qa _)
 have g:Ev (λn=>F_dc n c.Legs ((c.Mats.length:Int)-1)) (c.Legs.all (legS ((c.Mats.length:Int)-1))):=by
  unfold F_dc F_fs F_ey;refine Jr c.Legs _ (λn x=>F_cv n x _) (by have:=w.legs;omega) λx a=>?_;unfold F_cv;exact Ea (Ea (QaK _ _ _ _) (Eh λ_=>Ea (QaK _ _ _ _) (Eh λ_=>Qa _))) (Qa _)
 have i:Ev (λn=>F_do n c.Distances ((c.Mats.length:Int)-1)) (c.Distances.all (distS ((c.Mats.length:Int)-1))):=by
  unfold F_do F_gy F_go;refine Jr c.Distances _ (λn x=>F_cq n x _) (by have:=w.dist;omega) λx a=>?_;unfold F_cq;have k:Ev (λn=>F_cm n x.Cutoffs ((c.Mats.length:Int)-1)) (x.Cutoffs.all (cutS ((c.Mats.length:Int)-1))):=by
   unfold F_cm F_fw F_gr;refine Jr x.Cutoffs _ (λn x=>F_dt n x _) (by have:=w.cut x a;omega) λy l=>?_;unfold F_dt;exact Ea (Ea (QJ _ _ _) (Eh λ_=>Eh λ_=>Ea (QJ _ _ _) (Qa _))) (Qa _)
  exact Ea (Ea (QJ _ _ _) (Eh λ_=>Ea (QJ _ _ _) (Eh λ_=>Ea (Qm8 _ _ x.Route (XS _) (q.len x a) (q.wf x a)) (Eh λ_=>Ea k (Qa _))))) (Qa _)
 have f:Ev (λn=>F_dh n c.Waves) (c.Waves.all λw=>inR 0 1099511627776 w.Gun):=by
  unfold F_dh F_fn F_ew;refine Jr c.Waves _ (λn x=>F_cx n x) (by have:=w.wave;omega) λx a=>?_;unfold F_cx;exact Ea (QJ _ _ _) (Qa _)
 have j:Ev (λn=>F_da n c.Offences) (c.Offences.all offS):=by
  unfold F_da F_gs F_ge;refine Jr c.Offences _ (λn x=>F_ed n x) (by have:=w.off;omega) λx a=>?_;unfold F_ed offS;refine QbG (λ_=>Ea (Eh λ_=>Qa _) (Qa _)) λ_=>QbG (λ_=>Ea (Eh λ_=>Ea (QJ _ _ _) (Qa _)) (Qa _)) λ_=>Ea (QJ _ _ _) (Qa _)
 have d:Ev (λn=>F_cn n c.Categories) (c.Categories.all catS):=by
  unfold F_cn F_gg F_ef;refine Jr c.Categories _ (λn x=>F_eb n x) (by have:=w.cat;omega) λx a=>?_;unfold F_eb;exact Ea (Ea (QaK _ _ _ _) (Eh λ_=>Qa _)) (Qa _)
 have e:Ev (λn=>F_ck n c.Prizes c) (c.Prizes.all (prizeS c)):=by
  unfold F_ck F_gk F_hf;refine Jr c.Prizes _ (λn x=>F_dx n x c) (by have:=w.prize;omega) λx a=>?_;unfold F_dx;rw[QaF w.dist,QaF w.cat];exact Ea (Ea (QJ _ _ _) (Eh λ_=>Ea (QJ _ _ _) (Eh λ_=>Ea (QJ _ _ _) (Eh λ_=>Ea (QJ _ _ _) (Qa _))))) (Qa _)
 refine Ea h (Eh λ_=>Ea g (Eh λ_=>Ea (QhM _ w.legs) (Eh λ_=>Ea i (Eh λ_=>Ea f (Eh λ_=>Ea j (Eh λ_=>Ea d (Eh λ_=>Ea e (Eh λ_=>Ea (QfW _ w.prize) (Eh λ_=>?_)))))))));exact Ea (QaK _ _ _ _) (Eh λ_=>Ea (QaK _ _ _ _) (Eh λ_=>Ea (QJ _ _ _) (Eh λ_=>Ea (QJ _ _ _) (Eh λ_=>Ea (QJ _ _ _) (Qa _)))))
theorem ends_eq{a b a' d:Int}:(({from_:=a,to_:=b}:Ue)={from_:=a',to_:=d})↔a=a'/\b=d:=by simp
theorem QfU(c:Course)(w:CourseOk c)(d:Distance)(m:d.Route.length<=1048576)(l:∀x∈d.Route,Part.wf x)(p:d.Cutoffs.length<=1048576):Ev (λn=>F_gt n c d) (distS ((c.Mats.length:Int)-1) d):=by
 have step:∀(i:Nat) (x:Cutoff),At d.Cutoffs i x->Ev (λn=>F_ib n c d i) (bif cutS (c.Mats.length-1) x then .cont (i+1)else .done (.done false)):=by
  intro i x a;unfold F_ib;simp only[a.lt,a.ix,XI,a.nx];have:Ev (λn=>(F_m n c x.Mat).bind λj=>(bif (!j)then some true else(bif decide (x.Lap<1)then some true else(F_c n x.Limit 0 1099511627776).bind λg=>some (!g)))) (!cutS (c.Mats.length-1) x):=by
   refine Ea (QfY c w _) (Eu (Et λ_=>Et λ_=>Ea (JI _ _ _) (Qa _)) ?_);unfold cutS;by_cases h:x.Lap<1
   .have:=by omega
    simp[h]
   .have:1<=x.Lap:=by omega
    simp[h,this]
  refine Ea this ?_;cases cutS (c.Mats.length-1) x<;>exact Qa _
 refine Ea (Jf d.Cutoffs (λx=> !cutS (c.Mats.length-1) x) (λi=>(i:Int)) (Ctl.done false) (Ctl.cont ()) (by omega) rfl (λi x a f=>?_) (λi x a f=>?_) ?_) ?_
 .refine(step i x a).eq ?_;have:=by simpa using f
  rw[this];rfl
 .refine(step i x a).eq ?_;have:=by simpa using f
  rw[this];rfl
 .unfold F_ib;simp[Jl];exact Qa _
 .have e:d.Cutoffs.any (λx=> !cutS (c.Mats.length-1) x)= !d.Cutoffs.all (cutS (c.Mats.length-1)):=by rw[List.not_all_eq_any_not]
  rw[e];unfold distS;have k:inR (-1) (c.Mats.length-1) d.Extra=((d.Extra== -1)||inR 0 (c.Mats.length-1) d.Extra):=by
   unfold inR;rw[XW];simp;omega
  cases d.Cutoffs.all (cutS (c.Mats.length-1))with
  |false=>
   simp[Bool.and_false];exact Qa _
  |true=>
   simp only[Bool.and_true];refine Ea (Ea (JI _ _ _) ((Eh λ_=>Ea (QlB c w _ d.Route (XS _) m l) (Eh λ_=>Et λ_=>Ea (QfY c w _) (Qa _))).eq ?_)) (Qa _);rw[k,Bool.and_comm (partsS _ _)]
theorem YW{α B:Type}{step:Nat->Int->Option (Ctl Int B)}(l:List α)(ok:α->Bool)(a b:B)(k:l.length<=4611686018427387904)
  (g:∀i x,At l i x->Ev (λn=>step n (i:Int)) (bif ok x then .cont ((i+1:Nat):Int)else .done a))(j:Ev (λn=>step n (l.length:Int)) (.done b)):
  Ev (λn=>Go.Sw.iter (step n) n 0) (bif l.all ok then b else a):=by
 have e:(bif l.all ok then b else a)=bif l.any (λx=> !ok x)then a else b:=by
  rw[<- List.not_all_eq_any_not];cases l.all ok<;>rfl
 rw[e];refine Jf l (λx=> !ok x) (λi=>(i:Int)) a b k rfl (λi x d f=>?_) (λi x d f=>?_) j
 .have h:=by simpa using f
  have:=g i x d
  rwa [h]at this
 .have h:=by simpa using f
  have:=g i x d
  rwa [h]at this
theorem QhG(c:Course)(w:CourseOk c)(q:PartsOk c):Ev (λn=>F_ee n c) (numbersS c):=by
 unfold F_ee numbersS;have L:Ev (λn=>iter (F_hs n c) n 0) (bif c.Mats.all (λm=>inR 1 3 m.Kind)then Ctl.cont ()else Ctl.done false):=by
  refine YW c.Mats _ _ _ (by have:=w.mats;omega) (λi x a=>?_) ?_
  .unfold F_hs;simp only[a.lt,Vl,a.ix,XI,a.nx];refine Ea (JI _ _ _) ?_;cases inR 1 3 x.Kind<;>exact Qa _
  .unfold F_hs;simp only[Jl,Vm];exact Qa _
 have N:Ev (λn=>iter (F_cg n c) n 0) (bif c.Legs.all (legS ((c.Mats.length:Int)-1))&&decide ((c.Legs.map legKey).Nodup)then Ctl.cont ()else Ctl.done false):=by
  have first:∀x:Leg,Ev (λn=>((F_m n c x.From).bind λB=>(bif (!B)then some true else(F_m n c x.To).bind λu=>(bif (!u)then some true else(bif decide (x.Min<0)then some true else(bif decide (x.Max<x.Min)then some true else some (decide (68719476736<x.Max)))))):Option Bool)) (!legS ((c.Mats.length:Int)-1) x):=by
   intro x;refine Ea (QfY c w _) (Eu (Et λ_=>Ea (QfY c w _) (Et λ_=>Et λ_=>Et λ_=>Qa _)) ?_);unfold legS inR;rw[XW];simp;omega
  have inner:∀(i:Nat) (x:Leg),At c.Legs i x->Ev (λn=>iter (F_fz n c (i:Int) x) n 0) (bif ((c.Legs.take i).map legKey).contains (legKey x)then Ctl.done (Ctl.done (Ctl.done false))else Ctl.cont ()):=by
   intro i x a;have E:=a.lt';refine Qjj c.Legs i legKey (legKey x) _ _ (by have:=w.legs;omega) (by omega) (λj y F l g=>?_) (λj y F l g=>?_) ?_
   .unfold F_fz;rw[QX (show(j:Int)<(i:Int)by omega)];simp only[Vl,l.ix,XI,l.nx];have h:¬(y.From=x.From/\y.To=x.To):=by simpa[legKey]using g
    refine Ea (Eh λ_=>Qa _) ?_;have e:((y.From==x.From)&&(y.To==x.To))=false:=by
     rw[VJ];intro z;exact h (by simpa using z)
    rw[e];exact Qa _
   .unfold F_fz;rw[QX (show(j:Int)<(i:Int)by omega)];simp only[Vl,l.ix,XI,l.nx];have h:(y.From=x.From/\y.To=x.To):=by simpa[legKey]using g
    refine Ea (Eh λ_=>Qa _) ?_;have e:((y.From==x.From)&&(y.To==x.To))=true:=by simpa using h
    rw[e];exact Qa _
   .unfold F_fz;rw[QW (show¬(i:Int)<(i:Int)by omega)];exact Qa _
  refine QnT c.Legs (legS ((c.Mats.length:Int)-1)) legKey _ _ (by have:=w.legs;omega) (λi x a d g=>?_) (λi x a d=>?_) (λi x a d g=>?_) ?_
  .unfold F_cg;simp only[a.lt,Vl,a.ix,XI,a.nx];have f:=first x;rw[d]at f
   have k:=inner i x a;rw[g]at k;exact Ea f (Q1 (Ea k (Qa _)))
  .unfold F_cg;simp only[a.lt,Vl,a.ix,XI,a.nx];have f:=first x;rw[d]at f
   exact Ea f (Qa _)
  .unfold F_cg;simp only[a.lt,Vl,a.ix,XI,a.nx];have f:=first x;rw[d]at f
   have k:=inner i x a;rw[g]at k;exact Ea f (Q1 (Ea k (Qa _)))
  .unfold F_cg;simp only[Jl,Vm];exact Qa _
 have H:Ev (λn=>iter (F_ho n c) n 0) (bif c.Distances.all (distS ((c.Mats.length:Int)-1))then Ctl.cont ()else Ctl.done false):=by
  refine YW c.Distances _ _ _ (by have:=w.dist;omega) (λi x a=>?_) ?_
  .unfold F_ho;simp only[a.lt,Vl,a.ix,XI,a.nx];refine Ea (QfU c w x (q.len x a.mem) (q.wf x a.mem) (w.cut x a.mem)) ?_;cases distS ((c.Mats.length:Int)-1) x<;>exact Qa _
  .unfold F_ho;simp only[Jl,Vm];exact Qa _
 have G:Ev (λn=>iter (F_is n c) n 0) (bif c.Waves.all (λw=>inR 0 1099511627776 w.Gun)then Ctl.cont ()else Ctl.done false):=by
  refine YW c.Waves _ _ _ (by have:=w.wave;omega) (λi x a=>?_) ?_
  .unfold F_is;simp only[a.lt,Vl,a.ix,XI,a.nx];refine Ea (JI _ _ _) ?_;cases inR 0 1099511627776 x.Gun<;>exact Qa _
  .unfold F_is;simp only[Jl,Vm];exact Qa _
 have O:Ev (λn=>iter (F_hw n c) n 0) (bif c.Offences.all offS then Ctl.cont ()else Ctl.done false):=by
  refine YW c.Offences _ _ _ (by have:=w.off;omega) (λi x a=>?_) ?_
  .unfold F_hw;simp only[a.lt,Vl,a.ix,XI,a.nx];refine Ea (Ea (JI _ _ _) (Eh λ_=>Eh λ_=>Qa _)) ?_;refine Ea (Eh λ_=>Ea (JI _ _ _) (Eh λ_=>Qa _)) ?_;refine Ea (Eh λ_=>Eh λ_=>Qa _) ?_;refine Ea (Eh λ_=>Eh λ_=>Qa _) ?_;have e:offS x= !(!(inR 0 68719476736 x.Time&&((x.Laps==0)&& !x.Out))&&(!((x.Time==0)&&(inR 1 64 x.Laps&& !x.Out))&& !((x.Time==0)&&((x.Laps==0)&&x.Out)))):=by
    unfold offS inR;cases x.Out with
    |true=>
     rw[XW];simp
    |false=>
     by_cases h:x.Laps=0
     iterate 2 rw[XW];simp[h]
   rw[e];generalize(!(inR 0 68719476736 x.Time&&((x.Laps==0)&& !x.Out))&&(!((x.Time==0)&&(inR 1 64 x.Laps&& !x.Out))&& !((x.Time==0)&&((x.Laps==0)&&x.Out))))=b;cases b<;>exact Qa _
  .unfold F_hw;simp only[Jl,Vm];exact Qa _
 have M:Ev (λn=>iter (F_ju n c) n 0) (bif c.Categories.all catS then Ctl.cont ()else Ctl.done false):=by
  refine YW c.Categories _ _ _ (by have:=w.cat;omega) (λi x a=>?_) ?_
  .unfold F_ju;simp only[a.lt,Vl,a.ix,XI,a.nx];refine Ea (Et λ_=>Et λ_=>Qa _) ?_;have e:(decide (x.From<0)||(decide (x.To<x.From)||decide (120<x.To)))= !catS x:=by
    unfold catS inR;rw[XW];simp;omega
   rw[e];cases catS x<;>exact Qa _
  .unfold F_ju;simp only[Jl,Vm];exact Qa _
 have J:Ev (λn=>iter (F_cl n c) n 0) (bif c.Prizes.all (prizeS c)&&decide ((c.Prizes.map prizeKey).Nodup)then Ctl.cont ()else Ctl.done false):=by
  have first:∀x:Prize,Ev (λn=>((F_c n x.Distance 0 (i64.wrap ((c.Distances.length:Int)-1))).bind λp=>(bif (!p)then some true else(F_c n x.Category (-1) (i64.wrap ((c.Categories.length:Int)-1))).bind λr=>(bif (!r)then some true else(F_c n x.Rank 1 4000).bind λt=>(bif (!t)then some true else(F_c n x.Amount 1 1125899906842624).bind λs=>some (!s)))):Option Bool)) (!prizeS c x):=by
   intro x;rw[QaF w.dist,QaF w.cat];refine Ea (JI _ _ _) (Eu (Et λ_=>Ea (JI _ _ _) (Et λ_=>Ea (JI _ _ _) (Et λ_=>Ea (JI _ _ _) (Qa _)))) ?_);unfold prizeS;simp only[Bool.not_and]
  have inner:∀(i:Nat) (x:Prize),At c.Prizes i x->Ev (λn=>iter (F_ex n c (i:Int) x) n 0) (bif ((c.Prizes.take i).map prizeKey).contains (prizeKey x)then Ctl.done (Ctl.done (Ctl.done false))else Ctl.cont ()):=by
   intro i x a;have E:=a.lt';refine Qjj c.Prizes i prizeKey (prizeKey x) _ _ (by have:=w.prize;omega) (by omega) (λj y F l g=>?_) (λj y F l g=>?_) ?_
   .unfold F_ex;rw[QX (show(j:Int)<(i:Int)by omega)];simp only[Vl,l.ix,XI,l.nx];have h:¬(y.Distance=x.Distance/\y.Category=x.Category/\y.Rank=x.Rank):=by simpa[prizeKey]using g
    refine Ea (Eh λ_=>Eh λ_=>Qa _) ?_;have e:((y.Distance==x.Distance)&&((y.Category==x.Category)&&(y.Rank==x.Rank)))=false:=by
     rw[VJ];intro z;exact h (by simpa using z)
    rw[e];exact Qa _
   .unfold F_ex;rw[QX (show(j:Int)<(i:Int)by omega)];simp only[Vl,l.ix,XI,l.nx];have h:(y.Distance=x.Distance/\y.Category=x.Category/\y.Rank=x.Rank):=by simpa[prizeKey]using g
    refine Ea (Eh λ_=>Eh λ_=>Qa _) ?_;have e:((y.Distance==x.Distance)&&((y.Category==x.Category)&&(y.Rank==x.Rank)))=true:=by simpa using h
    rw[e];exact Qa _
   .unfold F_ex;rw[QW (show¬(i:Int)<(i:Int)by omega)];exact Qa _
  refine QnT c.Prizes (prizeS c) prizeKey _ _ (by have:=w.prize;omega) (λi x a d g=>?_) (λi x a d=>?_) (λi x a d g=>?_) ?_
  .unfold F_cl;simp only[a.lt,Vl,a.ix,XI,a.nx];have f:=first x;rw[d]at f
   have k:=inner i x a;rw[g]at k;exact Ea f (Q1 (Ea k (Qa _)))
  .unfold F_cl;simp only[a.lt,Vl,a.ix,XI,a.nx];have f:=first x;rw[d]at f
   exact Ea f (Qa _)
  .unfold F_cl;simp only[a.lt,Vl,a.ix,XI,a.nx];have f:=first x;rw[d]at f
   have k:=inner i x a;rw[g]at k;exact Ea f (Q1 (Ea k (Qa _)))
  .unfold F_cl;simp only[Jl,Vm];exact Qa _
 refine Ea L ?_;cases c.Mats.all (λm=>inR 1 3 m.Kind)with
 |false=>exact Qa _
 |true=>
 refine Ea N ?_;simp only[Vx];rw[<- Bool.and_assoc];cases(c.Legs.all (legS ((c.Mats.length:Int)-1))&&decide ((c.Legs.map legKey).Nodup))with
 |false=>exact Qa _
 |true=>
 refine Ea H ?_;simp only[Vx];cases c.Distances.all (distS ((c.Mats.length:Int)-1))with
 |false=>exact Qa _
 |true=>
 refine Ea G ?_;simp only[Vx];cases c.Waves.all (λw=>inR 0 1099511627776 w.Gun)with
 |false=>exact Qa _
 |true=>
 refine Ea O ?_;simp only[Vx];cases c.Offences.all offS with
 |false=>exact Qa _
 |true=>
 refine Ea M ?_;simp only[Vx];cases c.Categories.all catS with
 |false=>exact Qa _
 |true=>
 refine Ea J ?_;simp only[Vx];rw[<- Bool.and_assoc];cases(c.Prizes.all (prizeS c)&&decide ((c.Prizes.map prizeKey).Nodup))with
 |false=>exact Qa _
 |true=>
 simp only[Vx];refine Ea (v:=lastS c) ?_ (Qa _);refine Ea (JI _ _ _) ((Eh λ_=>Ea (JI _ _ _) (Eh λ_=>Ea (JI _ _ _) (Eh λ_=>Ea (JI _ _ _) (Eh λ_=>Ea (JI _ _ _) (Eh λ_=>Ea (JI _ _ _) (Eh λ_=>Ea (JI _ _ _) (Qa _))))))).eq ?_);unfold lastS;simp only[Bool.and_assoc]
mutual
def cN:Cond->Nat
 |⟨_,_,_,ps⟩=>1+cNs ps
def cNs:List Cond->Nat
 |[]=>0
 |c::r=>cN c+cNs r
end
theorem Qb6(c:Cond):cN c=1+cNs c.Parts:=by cases c;rfl
mutual
def cD:Nat->Cond->Bool
 |d,⟨_,_,_,ps⟩=>cDs d ps
def cDs:Nat->List Cond->Bool
 |_,[]=>true
 |d,c::r=>decide (d<=16)&&(cD (d+1) c&&cDs d r)
end
theorem QkY(d:Nat)(c:Cond):cD d c=cDs d c.Parts:=by cases c;rfl
def zeroC(c:Cond):Bool:=(c.Kind==0)&&((c.Var==0)&&((c.N==0)&&((c.Parts.length:Int)==0)))
mutual
def sNp:Step->Nat
 |⟨_,_,_,t,e⟩=>1+sNs t+sNs e
def sNs:List Step->Nat
 |[]=>0
 |s::r=>sNp s+sNs r
end
theorem QgG(s:Step):sNp s=1+sNs s.Then+sNs s.Else:=by cases s;rfl
mutual
def sC:Step->Nat
 |⟨_,_,c,t,e⟩=>(bif zeroC c then 0 else cN c)+sCs t+sCs e
def sCs:List Step->Nat
 |[]=>0
 |s::r=>sC s+sCs r
end
theorem Qfh(s:Step):sC s=(bif zeroC s.Cond then 0 else cN s.Cond)+sCs s.Then+sCs s.Else:=by cases s;rfl
mutual
def sDp:Nat->Step->Bool
 |d,⟨_,_,c,t,e⟩=>(zeroC c||cD 1 c)&&(sDs d t&&sDs d e)
def sDs:Nat->List Step->Bool
 |_,[]=>true
 |d,s::r=>decide (d<=16)&&(sDp (d+1) s&&sDs d r)
end
theorem Qif(d:Nat)(s:Step):sDp d s=((zeroC s.Cond||cD 1 s.Cond)&&(sDs d s.Then&&sDs d s.Else)):=by cases s;rfl
mutual
def sZ:Step->Nat
 |⟨_,_,c,t,e⟩=>2+cN c+sZs t+sZs e
def sZs:List Step->Nat
 |[]=>0
 |s::r=>sZ s+sZs r
end
theorem QgF(s:Step):sZ s=2+cN s.Cond+sZs s.Then+sZs s.Else:=by cases s;rfl
def fS:Uf->Nat
 |.ctyping_step x=>sNp x.Step
 |.ctyping_cond _=>0
def fC:Uf->Nat
 |.ctyping_step x=>sC x.Step
 |.ctyping_cond x=>cN x.Cond
def fD(d:Nat):Uf->Bool
 |.ctyping_step x=>sDp d x.Step
 |.ctyping_cond x=>cD d x.Cond
def fZ:Uf->Nat
 |.ctyping_step x=>sZ x.Step
 |.ctyping_cond x=>cN x.Cond
def fSs(l:List Uf):Nat:=(l.map fS).sum
def fCs(l:List Uf):Nat:=(l.map fC).sum
def fZs(l:List Uf):Nat:=(l.map fZ).sum
def fwf:Uf->Prop
 |.ctyping_step x=>Step.wf x.Step
 |.ctyping_cond x=>Cond.wf x.Cond
def ofStep(s:Step):Uf:=.ctyping_step {Step:=s}
def ofCond(c:Cond):Uf:=.ctyping_cond {Cond:=c}
theorem Qbc:∀l:List Step,fSs (l.map ofStep)=sNs l
 |[]=>rfl
 |s::r=>by
  have:=Qbc r;simp[fSs,Vg,List.sum_cons]at this⊢;rw[this];rfl
theorem Qbd:∀l:List Step,fCs (l.map ofStep)=sCs l
 |[]=>rfl
 |s::r=>by
  have:=Qbd r;simp[fCs,Vg,List.sum_cons]at this⊢;rw[this];rfl
theorem Qb0:∀l:List Step,fZs (l.map ofStep)=sZs l
 |[]=>rfl
 |s::r=>by
  have:=Qb0 r;simp[fZs,Vg,List.sum_cons]at this⊢;rw[this];rfl
theorem QfL:∀l:List Cond,fSs (l.map ofCond)=0
 |[]=>rfl
 |s::r=>by
  have:=QfL r;simp only[fSs,Vg,List.sum_cons]at this⊢;rw[this];rfl
theorem QfN:∀l:List Cond,fCs (l.map ofCond)=cNs l
 |[]=>rfl
 |s::r=>by
  have:=QfN r;simp[fCs,Vg,List.sum_cons]at this⊢;rw[this];rfl
theorem QfJ:∀l:List Cond,fZs (l.map ofCond)=cNs l
 |[]=>rfl
 |s::r=>by
  have:=QfJ r;simp[fZs,Vg,List.sum_cons]at this⊢;rw[this];rfl
theorem Qdl(d:Nat):∀l:List Step,sDs d l=((l.map ofStep).isEmpty||(decide (d<=16)&&(l.map ofStep).all (fD (d+1))))
 |[]=>rfl
 |s::r=>by
  rw[sDs,Qdl d r];simp[Vg,List.all_cons];rw[show fD (d+1) (ofStep s)=sDp (d+1) s from rfl];cases r with
  |nil=>simp
  |cons x r=>
   cases decide (d<=16)<;>simp
theorem QiN(d:Nat):∀l:List Cond,cDs d l=((l.map ofCond).isEmpty||(decide (d<=16)&&(l.map ofCond).all (fD (d+1))))
 |[]=>rfl
 |s::r=>by
  rw[cDs,QiN d r];simp[Vg,List.all_cons];rw[show fD (d+1) (ofCond s)=cD (d+1) s from rfl];cases r with
  |nil=>simp
  |cons x r=>
   cases decide (d<=16)<;>simp
theorem Jo{c:Cond}(h:Cond.wf c):c.Parts.length<=1048576/\ ∀x∈c.Parts,Cond.wf x:=by
 cases c;simp only[Cond.wf,QdA]at h;exact h.2.2.2.1
theorem Jn{s:Step}(h:Step.wf s):Cond.wf s.Cond/\(s.Then.length<=1048576/\ ∀x∈s.Then,Step.wf x)/\(s.Else.length<=1048576/\ ∀x∈s.Else,Step.wf x):=by
 cases s;simp only[Step.wf,Qdt]at h;exact⟨h.2.2.1,h.2.2.2.1,h.2.2.2.2.1⟩
theorem QgZ(n:Nat)(c:Cond):F_bc n {Cond:=c}=some (zeroC c):=by
 unfold F_bc zeroC;cases(c.Kind==0)<;>cases(c.Var==0)<;>cases(c.N==0)<;>rfl
theorem QfS(n:Nat)(c:Cond):F_bi n c=some (zeroC c):=by
 unfold F_bi zeroC;cases(c.Kind==0)<;>cases(c.Var==0)<;>cases(c.N==0)<;>rfl
theorem QfQ(l:List Step)(a:l.length<=140737488):Ev (λn=>F_be n l) (l.map ofStep):=by
 exact Ea (Qae l ofStep a) (Qa _)
theorem Qnd(l:List Cond)(a:l.length<=140737488):Ev (λn=>F_ev n l) (l.map ofCond):=by
 exact Ea (Qae l ofCond a) (Qa _)
def stepParts(s:Step):List Uf:=s.Then.map ofStep++s.Else.map ofStep
theorem Qbt(s:Step)(h:Step.wf s):Ev (λn=>F_ax n {Step:=s}) (stepParts s):=by
 obtain⟨_,⟨a,_⟩,⟨d,_⟩⟩:=Jn h;refine Ea (QfQ s.Then (by omega)) (Ea (QfQ s.Else (by omega)) (JL (Qdq _ _ (by simp;omega)) (Qa _)))
theorem Qdo(c:Cond)(h:Cond.wf c):Ev (λn=>F_ao n {Cond:=c}) (c.Parts.map ofCond):=by
 obtain⟨a,_⟩:=Jo h;exact Ea (Qnd c.Parts (by omega)) (Qa _)
def okL(l:List Uf)(d:Nat)(st co:Int):Bool:=l.isEmpty||(decide (d<=16)&&(l.all (fD (d+1))&&(decide (st+fSs l<=64)&&decide (co+fCs l<=256))))
def okR(l:List Uf)(d:Nat)(st co:Int):Bool:=l.isEmpty||(l.all (fD (d+1))&&(decide (st+fSs l<=64)&&decide (co+fCs l<=256)))
def okF(f:Uf)(d:Nat)(st co:Int):Bool:=fD (d+1) f&&(decide (st+fS f<=64)&&decide (co+fC f<=256))
theorem QiM(f:Uf)(l:List Uf):fSs (f::l)=fS f+fSs l:=rfl
theorem QiO(f:Uf)(l:List Uf):fCs (f::l)=fC f+fCs l:=rfl
theorem QiL(f:Uf)(l:List Uf):fZs (f::l)=fZ f+fZs l:=rfl
theorem QfK(l m:List Uf):fSs (l++m)=fSs l+fSs m:=by simp[fSs]
theorem QfM(l m:List Uf):fCs (l++m)=fCs l+fCs m:=by simp[fCs]
theorem QfI(l m:List Uf):fZs (l++m)=fZs l+fZs m:=by simp[fZs]
theorem QmC(f:Uf)(r:List Uf)(d:Nat)(i e:Int):okR (f::r) d i e=(okF f d i e&&okR r d (i+fS f) (e+fC f)):=by
 unfold okR okF;rw[QiM,QiO];cases r with
 |nil=>simp[fSs,fCs]
 |cons g r=>
  rw[XW];simp[List.isEmpty_cons,Bool.false_or,List.all_cons,XV,Vn];constructor
  .rintro⟨⟨a,h⟩,k,j⟩;exact⟨⟨a,by omega,by omega⟩,h,by omega,by omega⟩
  .rintro⟨⟨a,_,_⟩,h,k,j⟩;exact⟨⟨a,h⟩,by omega,by omega⟩
theorem Qhp(l:List Uf)(d:Nat)(g h:Int)(i:g<=64)(j:h<=256):okL l d g h=true↔(l.isEmpty||(decide (d<=16)&&l.all (fD (d+1))))=true/\g+fSs l<=64/\h+fCs l<=256:=by
 unfold okL;cases l with
 |nil=>simp[fSs,fCs,i,j]
 |cons f r=>
  simp[List.isEmpty_cons,Bool.false_or,XV,Vn];constructor
  .rintro⟨a,b,c,e⟩;exact⟨⟨a,b⟩,c,e⟩
  .rintro⟨⟨a,b⟩,c,e⟩;exact⟨a,b,c,e⟩
theorem Qfb(s:Step)(d:Nat):((stepParts s).isEmpty||(decide (d<=16)&&(stepParts s).all (fD (d+1))))=(sDs d s.Then&&sDs d s.Else):=by
 rw[Qdl,Qdl];unfold stepParts;rw[List.all_append];cases a:s.Then<;>cases e:s.Else<;>simp<;>(cases decide (d<=16)<;>simp)
def Cnt(R:Nat->List Uf->Int->Ud->Option (Ud×Bool))(l:List Uf)(d:Nat)(st co:Int):Prop:=
 ∃c':Ud,Ev (λn=>R n l (d:Int) {steps:=st,conds:=co}) (c',okL l d st co)/\(okL l d st co=true->c'={steps:=st+fSs l,conds:=co+fCs l})
theorem Qj1{R:Nat->List Uf->Int->Ud->Option (Ud×Bool)}{l:List Uf}{d:Nat}(hd:d<=16){i:Nat}{f:Uf}(X:At l i f)(hw:fwf f)
  (Q:∀l' d' a e,fZs l'<fZ f->l'.length<=2097152->(∀f∈l',fwf f)->d'<=17->0<=a->a<=66->(a<=65\/ ∀f∈l',∃c,f=ofCond c)->0<=e->e<=256->Cnt R l' d' a e){a e:Int}(h0:0<=a)(ab:a<=66)(w:a<=65\/ ∃c,f=ofCond c)(h2:0<=e)(h3:e<=256):
  ∃c':Ud,Ev (λn=>F_eg n l (d:Int) (R n) ({steps:=a,conds:=e},(i:Int))) (bif okF f d a e then .cont (c',((i+1:Nat):Int))else .done (.done (c',false)))/\(okF f d a e=true->c'={steps:=a+fS f,conds:=e+fC f}):=by
 unfold F_eg;simp only[X.lt,Vl,X.ix,XI,X.nx];have ed:i64.wrap ((d:Int)+1)=((d+1:Nat):Int):=Q2 (by omega);cases f with
 |ctyping_step x=>
  obtain⟨s⟩:=x;have h1:a<=65:=by
   rcases w with h|⟨c,h⟩
   .exact h
   .cases h
  have k:Step.wf s:=hw;obtain⟨wc,⟨ae,O⟩,⟨ac,V⟩⟩:=Jn k;have N:i64.wrap (a+1)=a+1:=Qn (by omega) (by omega);simp only[Uf.elim,QgZ,XI,N];have hc:∃t:Ud,Ev (λn=>((bif (!zeroC s.Cond)then(R n [Uf.ctyping_cond {Cond:=s.Cond}] 0 {steps:=a+1,conds:=e}).bind λp=>some (p.1,(!p.2))else some ({steps:=a+1,conds:=e},false)):Option (Ud×Bool))) (t, !(zeroC s.Cond||(cD 1 s.Cond&&(decide (a+1<=64)&&decide (e+cN s.Cond<=256)))))/\
    ((zeroC s.Cond||(cD 1 s.Cond&&(decide (a+1<=64)&&decide (e+cN s.Cond<=256))))=true->t={steps:=a+1,conds:=e+((bif zeroC s.Cond then 0 else cN s.Cond:Nat):Int)}):=by
   cases F:zeroC s.Cond with
   |true=>
    refine⟨{steps:=a+1,conds:=e},?_,λ_=>?_⟩
    .exact Qa _
    .simp
   |false=>
    obtain⟨t,m,u⟩:=Q [ofCond s.Cond] 0 (a+1) e (by simp only[fZs,Vg,Vh,List.sum_cons,List.sum_nil];show cN s.Cond+0<sZ s;rw[QgF];omega) (by simp) (by intro g j;simp only[Vy]at j;subst j;exact wc) (by omega) (by omega) (by omega) (.inr (by intro g j;simp only[Vy]at j;exact⟨_,j⟩)) h2 h3;have ek:okL [ofCond s.Cond] 0 (a+1) e=(cD 1 s.Cond&&(decide (a+1<=64)&&decide (e+cN s.Cond<=256))):=by
     unfold okL;simp only[List.isEmpty_cons,Bool.false_or,List.all_cons,List.all_nil,Bool.and_true,fSs,fCs,Vg,Vh,List.sum_cons,List.sum_nil];rw[show fD (0+1) (ofCond s.Cond)=cD 1 s.Cond from rfl,show fS (ofCond s.Cond)=0 from rfl,show fC (ofCond s.Cond)=cN s.Cond from rfl];simp
    rw[ek]at m u;refine⟨t,Ea m (Qa _),λh=>?_⟩;rw[u h];simp[fSs,fCs,show fS (ofCond s.Cond)=0 from rfl,show fC (ofCond s.Cond)=cN s.Cond from rfl]
  obtain⟨t,m,u⟩:=hc;generalize hb:(zeroC s.Cond||(cD 1 s.Cond&&(decide (a+1<=64)&&decide (e+cN s.Cond<=256))))=b at m u;have T:okF (Uf.ctyping_step {Step:=s}) d a e=(sDp (d+1) s&&(decide (a+sNp s<=64)&&decide (e+sC s<=256))):=rfl;rw[T];cases b with
  |false=>
   have:(sDp (d+1) s&&(decide (a+sNp s<=64)&&decide (e+sC s<=256)))=false:=by
    rw[VJ];intro hh;simp only[XV,Vn,Qif,QgG,Qfh]at hh;obtain⟨⟨W,_⟩,z2,z3⟩:=hh;cases F:zeroC s.Cond with
    |true=>rw[F]at hb;cases hb
    |false=>
     rw[F]at hb W z3;simp only[Bool.false_or]at hb W;rw[W]at hb;simp only[Vm]at z3;rw[QX (show a+1<=64 by omega),QX (show e+(cN s.Cond:Int)<=256 by omega)]at hb;cases hb
   rw[this];exact⟨t,Ea m (Qa _),λh=>by cases h⟩
  |true=>
   obtain rfl:=u rfl;by_cases r:64<a+1
   .have:(sDp (d+1) s&&(decide (a+sNp s<=64)&&decide (e+sC s<=256)))=false:=by
     rw[QW (show¬a+(sNp s:Int)<=64 by rw[QgG];omega)];simp
    rw[this];refine⟨{steps:=a+1,conds:=e+((bif zeroC s.Cond then 0 else cN s.Cond:Nat):Int)},Ea m ?_,λh=>by cases h⟩;simp only[Xh,Vm];refine Ea (v:=(_,true)) ?_ (Qa _);rw[QX r];exact Qa _
   by_cases H:256<e+((bif zeroC s.Cond then 0 else cN s.Cond:Nat):Int)
   .have:(sDp (d+1) s&&(decide (a+sNp s<=64)&&decide (e+sC s<=256)))=false:=by
     rw[QW (show¬e+(sC s:Int)<=256 by rw[Qfh];omega)];simp
    rw[this];refine⟨{steps:=a+1,conds:=e+((bif zeroC s.Cond then 0 else cN s.Cond:Nat):Int)},Ea m ?_,λh=>by cases h⟩;simp only[Xh,Vm];refine Ea (v:=(_,true)) ?_ (Qa _);rw[QW r,QX H];exact Qa _
   obtain⟨B,G,z⟩:=Q (stepParts s) (d+1) (a+1) (e+((bif zeroC s.Cond then 0 else cN s.Cond:Nat):Int)) (by
     unfold stepParts;rw[QfI,Qb0,Qb0];show _<sZ s;rw[QgF];omega) (by unfold stepParts;simp;omega) (by
     intro g j;unfold stepParts at j;rcases VA.1 j with j|j
     .obtain⟨y,E,rfl⟩:=Xf.1 j;exact O y E
     .obtain⟨y,E,rfl⟩:=Xf.1 j;exact V y E) (by omega) (by omega) (by omega) (.inl (by omega)) (by omega) (by omega)
   have M:okL (stepParts s) (d+1) (a+1) (e+((bif zeroC s.Cond then 0 else cN s.Cond:Nat):Int))=(sDp (d+1) s&&(decide (a+sNp s<=64)&&decide (e+sC s<=256))):=by
    rw[XW,Qhp _ _ _ _ (by omega) (by omega),Qfb];simp only[XV,Vn,Qif,QgG,Qfh];have Y:fSs (stepParts s)=sNs s.Then+sNs s.Else:=by unfold stepParts;rw[QfK,Qbc,Qbc]
    have J:fCs (stepParts s)=sCs s.Then+sCs s.Else:=by unfold stepParts;rw[QfM,Qbd,Qbd]
    rw[Y,J];have aa:(zeroC s.Cond||cD 1 s.Cond)=true:=by
     cases F:zeroC s.Cond with
     |true=>rfl
     |false=>
      rw[F]at hb;simp only[Bool.false_or,XV]at hb;rw[hb.1];rfl
    constructor
    .rintro⟨q,L,h6⟩;exact⟨⟨aa,q⟩,by omega,by omega⟩
    .rintro⟨⟨_,q⟩,L,h6⟩;exact⟨q,by omega,by omega⟩
   rw[M]at G z;refine⟨B,Ea m ?_,λh=>?_⟩
   .simp only[Xh,Vm];refine Ea (v:=(B, !(sDp (d+1) s&&(decide (a+sNp s<=64)&&decide (e+sC s<=256))))) ?_ ?_
    .rw[QW r,QW H,ed];exact Ea (Qbt s k) (Ea G (Qa _))
    .cases(sDp (d+1) s&&(decide (a+sNp s<=64)&&decide (e+sC s<=256)))<;>exact Qa _
   .rw[z h];have Y:fSs (stepParts s)=sNs s.Then+sNs s.Else:=by unfold stepParts;rw[QfK,Qbc,Qbc]
    have J:fCs (stepParts s)=sCs s.Then+sCs s.Else:=by unfold stepParts;rw[QfM,Qbd,Qbd]
    rw[Y,J,show fS (Uf.ctyping_step {Step:=s})=sNp s from rfl,show fC (Uf.ctyping_step {Step:=s})=sC s from rfl,QgG,Qfh];congr 1<;>omega
 |ctyping_cond x=>
  obtain⟨c⟩:=x;have k:Cond.wf c:=hw;obtain⟨ad,P⟩:=Jo k;have N:i64.wrap (e+1)=e+1:=Qn (by omega) (by omega);simp only[Uf.elim,N];have T:okF (Uf.ctyping_cond {Cond:=c}) d a e=(cD (d+1) c&&(decide (a<=64)&&decide (e+cN c<=256))):=by
   show(cD (d+1) c&&(decide (a+((0:Nat):Int)<=64)&&decide (e+cN c<=256)))=_;rw[show a+((0:Nat):Int)=a by omega]
  rw[T];by_cases r:64<a
  .have:(cD (d+1) c&&(decide (a<=64)&&decide (e+cN c<=256)))=false:=by
    rw[QW (show¬a<=64 by omega)];simp
   rw[this];refine⟨{steps:=a,conds:=e+1},?_,λh=>by cases h⟩;refine Ea (v:=(_,true)) ?_ (Qa _);rw[QX r];exact Qa _
  by_cases H:256<e+1
  .have:(cD (d+1) c&&(decide (a<=64)&&decide (e+cN c<=256)))=false:=by
    rw[QW (show¬e+(cN c:Int)<=256 by rw[Qb6];omega)];simp
   rw[this];refine⟨{steps:=a,conds:=e+1},?_,λh=>by cases h⟩;refine Ea (v:=(_,true)) ?_ (Qa _);rw[QW r,QX H];exact Qa _
  obtain⟨B,G,z⟩:=Q (c.Parts.map ofCond) (d+1) a (e+1) (by
    rw[QfJ];show _<cN c;rw[Qb6];omega) (by simp;omega) (by
    intro g j;obtain⟨y,E,rfl⟩:=Xf.1 j;exact P y E) (by omega) (by omega) (by omega) (.inl (by omega)) (by omega) (by omega)
  have M:okL (c.Parts.map ofCond) (d+1) a (e+1)=(cD (d+1) c&&(decide (a<=64)&&decide (e+cN c<=256))):=by
   rw[XW,Qhp _ _ _ _ (by omega) (by omega), <- QiN,QfL,QfN];simp only[XV,Vn,QkY,Qb6];constructor
   iterate 2 rintro⟨q,L,h6⟩;exact⟨q,by omega,by omega⟩
  rw[M]at G z;refine⟨B,?_,λh=>?_⟩
  .refine Ea (v:=(B, !(cD (d+1) c&&(decide (a<=64)&&decide (e+cN c<=256))))) ?_ ?_
   .rw[QW r,QW H,ed];exact Ea (Qdo c k) (Ea G (Qa _))
   .cases(cD (d+1) c&&(decide (a<=64)&&decide (e+cN c<=256)))<;>exact Qa _
  .rw[z h,QfL,QfN,show fS (Uf.ctyping_cond {Cond:=c})=0 from rfl,show fC (Uf.ctyping_cond {Cond:=c})=cN c from rfl,Qb6];congr 1;omega
theorem Qnc:∀(m:Nat) (l:List Uf) (d:Nat) (a e:Int),fZs l<=m->l.length<=2097152->(∀f∈l,fwf f)->d<=17->0<=a->a<=66->(a<=65\/ ∀f∈l,∃c,f=ofCond c)->0<=e->e<=256->Cnt F_g l d a e:=by
 intro m
 induction m using Nat.strongRecOn with
 |_ m z=>
 intro l d a e hm hl W hd h0 h1 w h2 V;unfold Cnt;have J:∀c:Ud,(∃g:Ud,Ev (λn=>B_g (F_g n) n l (d:Int) c) (g,okL l d a e)/\(okL l d a e=true->g={steps:=a+fSs l,conds:=e+fCs l}))->∃g:Ud,Ev (λn=>F_g n l (d:Int) c) (g,okL l d a e)/\(okL l d a e=true->g={steps:=a+fSs l,conds:=e+fCs l}):=by
  rintro c ⟨g,X,q2⟩;exact⟨g,QY X,q2⟩
 refine J _ ?_;unfold B_g;cases k:l with
 |nil=>
  refine⟨{steps:=a,conds:=e},?_,λ_=>by simp[fSs,fCs]⟩;refine Ea (v:=Ctl.cont {steps:=a,conds:=e}) (EvI.ev (Ei ?_)) (Qa _);exact Qa _
 |cons f0 r0=>
 rw[<- k];have H:l.isEmpty=false:=by rw[k];rfl
 have M:0<l.length:=by rw[k];simp
 by_cases j:d<=16
 rotate_left
 .have:okL l d a e=false:=by unfold okL;rw[H,QW j];rfl
  rw[this];refine⟨{steps:=a,conds:=e},?_,λh=>by cases h⟩;rw[QX (show(0:Int)<(l.length:Int)by omega),QX (show(16:Int)<(d:Int)by omega)];exact Ea (Qa _) (Qa _)
 have E:okL l d a e=okR l d a e:=by unfold okL okR;rw[QX j,Vx]
 rw[E];have loop:∀(r:List Uf) (i:Nat) (a e:Int),l.drop i=r->i<=l.length->0<=a->a<=66->(a<=65\/ ∀f∈l,∃c,f=ofCond c)->0<=e->e<=256->
   ∃g:Ud,EvI (λn=>F_eg n l (d:Int) (F_g n)) ({steps:=a,conds:=e},(i:Int)) (bif okR r d a e then Ctl.cont g else Ctl.done (g,false))/\(okR r d a e=true->g={steps:=a+fSs r,conds:=e+fCs r}):=by
  intro r
  induction r with
  |nil=>
   intro i a e F L _ _ _ _ _;refine⟨{steps:=a,conds:=e},Ei ?_,λ_=>by simp[fSs,fCs]⟩;unfold F_eg;simp only[QM F L,Vm];exact Qa _
  |cons f r u=>
   intro i a e F L P g1 B g2 g3;obtain⟨s,y⟩:=Qw (by omega) F;have aa:fZ f<=fZs l:=by
    have:∀(l:List Uf),f∈l->fZ f<=fZs l:=by
     intro l
     induction l with
     |nil=>intro h;cases h
     |cons x l z=>
      intro h;rw[QiL];rcases X4.1 h with rfl|h
      .omega
      .have:=z h;omega
    exact this l s.mem
   obtain⟨g,q,G⟩:=Qj1 (R:=F_g) j s (W f s.mem) (λN Q a e k1 T O k4 k5 k6 t k7 Y=>z (fZs N) (by omega) N Q a e (XS _) T O k4 k5 k6 t k7 Y) P g1 (B.imp id λh=>h f s.mem) g2 g3;rw[QmC];cases p:okF f d a e with
   |false=>
    rw[p]at q;exact⟨g,Ei q,λh=>by cases h⟩
   |true=>
    rw[p]at q;obtain rfl:=G p;have hb:=by
     unfold okF at p;simp only[XV,Vn]at p;exact p.2
    obtain⟨c2,u1,u2⟩:=u (i+1) (a+fS f) (e+fC f) y (by have:=s.lt';omega) (by omega) (by omega) (.inl (by omega)) (by omega) (by omega);refine⟨c2,Ew q u1,λh=>?_⟩;rw[u2 (by simpa using h),QiM,QiO];congr 1<;>omega
 obtain⟨g,q,G⟩:=loop l 0 a e rfl (XT _) h0 h1 w h2 V;refine⟨g,?_,G⟩;refine Ea (v:=false) ?_ (Q1 (Ea q.ev ?_))
 .rw[QX (show(0:Int)<(l.length:Int)by omega),QW (show¬(16:Int)<(d:Int)by omega)];exact Qa _
 .cases okR l d a e<;>exact Qa _
mutual
def vaC:Cond->Bool
 |⟨k,v,n,ps⟩=>bif k==1 then inR 1 3 v&&(inR 0 10000 n&&((ps.length:Int)==0))else
   bif k==4 then((v==0)&&(n==0))&&(((ps.length:Int)==1)&&vaCs ps)else
   bif (k==2)||(k==3)then((v==0)&&(n==0))&&((decide (0<(ps.length:Int))&&decide ((ps.length:Int)<=16))&&vaCs ps)else false
def vaCs:List Cond->Bool
 |[]=>true
 |c::r=>vaC c&&vaCs r
end
theorem Qmj(c:Cond):vaC c=bif c.Kind==1 then inR 1 3 c.Var&&(inR 0 10000 c.N&&((c.Parts.length:Int)==0))else
   bif c.Kind==4 then((c.Var==0)&&(c.N==0))&&(((c.Parts.length:Int)==1)&&vaCs c.Parts)else
   bif (c.Kind==2)||(c.Kind==3)then((c.Var==0)&&(c.N==0))&&((decide (0<(c.Parts.length:Int))&&decide ((c.Parts.length:Int)<=16))&&vaCs c.Parts)else false:=by cases c;rfl
theorem Qhf:∀l:List Cond,vaCs l=l.all vaC
 |[]=>rfl
 |c::r=>by rw[vaCs,List.all_cons,Qhf r]
mutual
def vaS:Step->Bool
 |⟨k,b,c,t,e⟩=>bif k==1 then inR 1 5 b&&(zeroC c&&(((t.length:Int)==0)&&((e.length:Int)==0)))else
   bif k==2 then(b==0)&&(vaC c&&(decide (0<(t.length:Int))&&(vaSs t&&vaSs e)))else false
def vaSs:List Step->Bool
 |[]=>true
 |s::r=>vaS s&&vaSs r
end
theorem Qmi(s:Step):vaS s=bif s.Kind==1 then inR 1 5 s.By&&(zeroC s.Cond&&(((s.Then.length:Int)==0)&&((s.Else.length:Int)==0)))else
   bif s.Kind==2 then(s.By==0)&&(vaC s.Cond&&(decide (0<(s.Then.length:Int))&&(vaSs s.Then&&vaSs s.Else)))else false:=by cases s;rfl
theorem Qhe:∀l:List Step,vaSs l=l.all vaS
 |[]=>rfl
 |c::r=>by rw[vaSs,List.all_cons,Qhe r]
def fV:Uf->Bool
 |.ctyping_step x=>vaS x.Step
 |.ctyping_cond x=>vaC x.Cond
theorem Qj6(l:List Cond):(l.map ofCond).any (λf=> !fV f)= !vaCs l:=by
 rw[Qhf,List.not_all_eq_any_not,List.any_map];rfl
theorem QcW(l:List Step):(l.map ofStep).any (λf=> !fV f)= !vaSs l:=by
 rw[Qhe,List.not_all_eq_any_not,List.any_map];rfl
theorem QgW{R:Nat->List Uf->Option Bool}(c:Cond)(h:Cond.wf c)(i:Ev (λn=>R n (c.Parts.map ofCond)) (!vaCs c.Parts)):
  Ev (λn=>F_gm (R n) n {Cond:=c}) (vaC c):=by
 rw[Qmj];refine Ea (Eh λ_=>Qa _) (QbG (λ_=>?_) (λk=>?_))
 .exact Ea (Ea (QJ _ _ _) (Eh λ_=>Ea (QJ _ _ _) (Eh λ_=>Qa _))) (Qa _)
 .have fin:∀b,Ev (λn=>(bif b then(F_ao n {Cond:=c}).bind λf=>(R n f).bind λd=>some (!d)else some false).bind λg=>some g) (b&&vaCs c.Parts):=by
   intro b;refine Ea ((Eh λ_=>Ea (Qdo c h) (Ea i (Qa _)))) ((Qa _).eq (by simp))
  cases l:(c.Kind==4)with
  |true=>
   cases j:((c.Var==0)&&(c.N==0))with
   |true=>
    refine Ea (Qa _) ((fin _).eq (by simp))
   |false=>
    refine Ea (Qa _) ((fin _).eq (by simp))
  |false=>
   cases a:((c.Kind==2)||(c.Kind==3))with
   |true=>
    have e:Ev (λn=>(bif (c.Kind==2)then some (c.Kind==2)else some (c.Kind==3))) true:=by
     refine Ez ?_;rw[QhU,a]
    cases j:((c.Var==0)&&(c.N==0))with
    |true=>
     cases m:decide (0<(c.Parts.length:Int))with
     |true=>
      refine Ea (Ea e (Qa _)) ((fin _).eq (by simp))
     |false=>
      refine Ea (Ea e (Qa _)) ((fin _).eq (by simp))
    |false=>
     refine Ea (Ea e (Qa _)) ((fin _).eq (by simp))
   |false=>
    have e:Ev (λn=>(bif (c.Kind==2)then some (c.Kind==2)else some (c.Kind==3))) false:=by
     refine Ez ?_;rw[QhU,a]
    refine Ea (Ea e (Qa _)) (Qa _)
theorem QjU:∀(m:Nat) (l:List Uf),fZs l<=m->l.length<=2097152->(∀f∈l,fwf f)->Ev (λn=>F_ah n l) (l.any λf=> !fV f):=by
 intro m
 induction m using Nat.strongRecOn with
 |_ m i=>
 intro l E G t;refine QY ?_;show Ev (λn=>B_ah (F_ah n) n l) _;refine Ev.contains l _ (λn f=>F_fa (F_ah n) n f) (by omega) λf q=>?_;have w:fZ f<=fZs l:=by
  have:∀(l:List Uf),f∈l->fZ f<=fZs l:=by
   intro l
   induction l with
   |nil=>intro h;cases h
   |cons x l i=>
    intro h;rw[QiL];rcases X4.1 h with rfl|h
    .omega
    .have:=i h;omega
  exact this l q
 refine Ea (v:=fV f) ?_ (Qa _);have a:∀c:Cond,Cond.wf c->cNs c.Parts<fZ f->Ev (λn=>F_ah n (c.Parts.map ofCond)) (!vaCs c.Parts):=by
  intro c k j;rw[<- Qj6];obtain⟨w1,w2⟩:=Jo k;refine i (fZs (c.Parts.map ofCond)) (by rw[QfJ];omega) _ (XS _) (by simp;omega) ?_;intro g d;obtain⟨y,e,rfl⟩:=Xf.1 d;exact w2 y e
 cases f with
 |ctyping_cond x=>
  obtain⟨c⟩:=x;have k:Cond.wf c:=t _ q;exact QgW c k (a c k (by show cNs c.Parts<cN c;rw[Qb6];omega))
 |ctyping_step x=>
  obtain⟨s⟩:=x;have j:Step.wf s:=t _ q;obtain⟨u,⟨B,r⟩,⟨z,p⟩⟩:=Jn j;show Ev _ (vaS s);rw[Qmi];refine QbG (λ_=>?_) (λH=>QbG (λ_=>?_) λ_=>Qa _)
  .refine Ea (Ea (QJ _ _ _) (Eh λ_=>?_)) (Qa _);simp only[QgZ];refine Eh λ_=>Ea (Qbt s j) ((Qa _).eq ?_);unfold stepParts;rw[XW];simp only[Vv,XV,X0,XZ];omega
  .refine Ea (Eh λ_=>?_) (Qa _);refine Ea (QgW s.Cond u (a s.Cond u (by show _<sZ s;rw[QgF,Qb6];omega))) (Eh λ_=>Eh λ_=>?_);refine Ea (Qbt s j) (Ea (i (fZs (stepParts s)) ?_ _ (XS _) (by unfold stepParts;simp;omega) ?_) ((Qa _).eq ?_))
   .have:fZs (stepParts s)<sZ s:=by
     unfold stepParts;rw[QfI,Qb0,Qb0,QgF];omega
    have F:fZ (Uf.ctyping_step {Step:=s})=sZ s:=rfl;omega
   .intro g d;rcases VA.1 d with d|d
    .obtain⟨y,e,rfl⟩:=Xf.1 d;exact r y e
    .obtain⟨y,e,rfl⟩:=Xf.1 d;exact p y e
   .unfold stepParts;rw[List.any_append,QcW,QcW];simp
def goodT(l:List Step):Bool:=sDs 0 l&&(decide (sNs l<=64)&&decide (sCs l<=256))
def tiesE(l:List Step):Int:=bif goodT l then(bif l.isEmpty|| !vaSs l then 71 else 0)else 2
theorem QmD(l:List Step):okL (l.map ofStep) 0 0 0=goodT l:=by
 rw[XW,Qhp _ _ _ _ (by omega) (by omega), <- Qdl,Qbc,Qbd];unfold goodT;simp only[XV,Vn];constructor
 iterate 2 rintro⟨a,b,c⟩;exact⟨a,by omega,by omega⟩
theorem QoD(l:List Step)(m:l.length<=1048576)(j:∀x∈l,Step.wf x):Ev (λn=>F_eh n l) (tiesE l):=by
 refine Ea (QfQ l (by omega)) (Ea ?_ (Qa _));have d:∀f∈l.map ofStep,fwf f:=by
  intro g h;obtain⟨y,i,rfl⟩:=Xf.1 h;exact j y i
 obtain⟨p,a,k⟩:=Qnc _ (l.map ofStep) 0 0 0 (XS _) (by simp;omega) d (by omega) (by omega) (by omega) (.inl (by omega)) (by omega) (by omega);rw[QmD]at a;have p3:=a.shift;refine Ea p3 ?_;unfold tiesE;cases goodT l with
 |false=>exact Qa _
 |true=>
  have e:(((l.map ofStep).length:Int)==0)=l.isEmpty:=by
   cases l<;>simp;omega
  rw[e];refine Ea (Et λ_=>Ea (QjU _ _ (XS _) (by simp;omega) d) (Qa _)) ?_;rw[QcW];cases(l.isEmpty|| !vaSs l)<;>exact Qa _
def condB(d:Nat):Int:=256*(18-(d:Int))+1000
theorem QcG:∀(m:Nat) (c:Cond) (d:Nat),cN c<=m->d<=17->Cond.wf c->∃v:Int,Ev (λn=>F_l n c (d:Int)) v/\0<=v/\v<=condB d/\
  (d<=16/\cD (d+1) c=true/\cN c<=256->v=cN c)/\(¬(d<=16/\cD (d+1) c=true/\cN c<=256)->256<v):=by
 intro m
 induction m using Nat.strongRecOn with
 |_ m E=>
 intro c d hm hd W;obtain⟨aa,z⟩:=Jo W;have L:∀{P:Int->Prop},(∃v:Int,Ev (λn=>B_l (F_l n) n c (d:Int)) v/\P v)->∃v:Int,Ev (λn=>F_l n c (d:Int)) v/\P v:=by
  rintro P ⟨v,k,e⟩;exact⟨v,QY k,e⟩
 refine L ?_;unfold B_l;by_cases j:d<=16
 .rw[QW (show¬(16:Int)<(d:Int)by omega)];have T:i64.wrap ((d:Int)+1)=((d+1:Nat):Int):=Q2 (by omega);have loop:∀(r:List Cond) (i:Nat) (a:Int),c.Parts.drop i=r->i<=c.Parts.length->0<=a->a<=condB d->
    ∃v:Int,EvI (λn=>F_gx n c (d:Int) (F_l n)) (a,(i:Int)) v/\0<=v/\v<=condB d/\
     (cDs (d+1) r=true/\a+cNs r<=256->v=a+cNs r)/\(¬(cDs (d+1) r=true/\a+cNs r<=256)->256<v):=by
   intro r
   induction r with
   |nil=>
    intro i a F O G k;refine⟨a,Ei ?_,G,k,λ_=>by simp[cNs],λh=>?_⟩
    .unfold F_gx;simp only[QM F O,Vm,XI];exact Qa _
    .simp[cDs,cNs]at h;omega
   |cons x r s=>
    intro i a F O G k;obtain⟨g,u⟩:=Qw (by omega) F;have hx:cN x<cN c:=by
     have:∀l:List Cond,x∈l->cN x<=cNs l:=by
      intro l
      induction l with
      |nil=>intro h;cases h
      |cons y l E=>
       intro h;rw[cNs];rcases X4.1 h with rfl|h
       .omega
       .have:=E h;omega
     have:=this _ g.mem;rw[Qb6 c];omega
    by_cases f:a<=256
    .obtain⟨v,J,Q,M,p,H⟩:=E (cN x) (by omega) x (d+1) (XS _) (by omega) (z x g.mem);have hB:condB (d+1)+256=condB d:=by unfold condB;omega
     have X:condB d<=6000:=by unfold condB;omega
     have R:i64.wrap (a+v)=a+v:=Qn (by omega) (by omega);obtain⟨w,V,q2,q3,Y,N⟩:=s (i+1) (a+v) u (by have:=g.lt';omega) (by omega) (by omega);refine⟨w,Ew ?_ V,q2,q3,?_,?_⟩
     .unfold F_gx;simp only[g.lt,Vl,QX f,XI,g.ix,g.nx,T];refine Ea J ?_;rw[R];exact Qa _
     .rintro⟨e,B⟩;simp only[cDs,XV,Vn]at e;rw[cNs]at B⊢;have:=p ⟨e.1,e.2.1,by omega⟩;subst this;rw[Y ⟨e.2.2,by omega⟩];omega
     .intro t;by_cases q:d+1<=16/\cD (d+1+1) x=true/\cN x<=256
      .have:=p q;subst this;refine N λe=>t ⟨?_,?_⟩
       .simp only[cDs,XV,Vn];exact⟨q.1,q.2.1,e.1⟩
       .rw[cNs];omega
      .have:=H q;exact N λe=>by omega
    .refine⟨a,Ei ?_,G,k,λh=>?_,λ_=>by omega⟩
     .unfold F_gx;simp only[g.lt,Vl,QW f,XI,Vm];exact Qa _
     .omega
  obtain⟨v,J,Q,M,p,H⟩:=loop c.Parts 0 1 rfl (XT _) (by omega) (by unfold condB;omega);refine⟨v,Q1 (Ea J.ev (Qa _)),Q,M,?_,?_⟩
  .rintro⟨_,e,B⟩;rw[QkY]at e;rw[Qb6]at B⊢;rw[p ⟨e,by omega⟩];omega
  .intro t;refine H λh=>t ⟨j,by rw[QkY];exact h.1,by rw[Qb6];omega⟩
 .rw[QX (show(16:Int)<(d:Int)by omega)];refine⟨1000,Qla (Qa _),by omega,by unfold condB;omega,λh=>absurd h.1 j,λ_=>by omega⟩
def sizeB:Nat->Int
 |0=>10000
 |k+1=>3*sizeB k
theorem Qc3:∀k,10000<=sizeB k
 |0=>Int.le_refl _
 |k+1=>by have:=Qc3 k;simp[sizeB];omega
theorem Qmr{k:Nat}(h:k<=17):sizeB k<=1291401630000:=by
 have:∀j,j<=17->sizeB j<=1291401630000:=by decide+kernel
 exact this k h
def goodL(d:Nat)(l:List Step):Prop:=sDs d l=true/\sNs l<=64/\sCs l<=256
theorem QkQ:∀(m:Nat) (l:List Step) (d:Nat),sZs l<=m->d<=17->l.length<=1048576->(∀x∈l,Step.wf x)->∃a b:Int,Ev (λn=>F_p n l (d:Int)) (a,b)/\0<=a/\0<=b/\a<=sizeB (17-d)/\b<=sizeB (17-d)/\
  (goodL d l->a=sNs l/\b=sCs l)/\(¬goodL d l->64<a\/256<b):=by
 intro m
 induction m using Nat.strongRecOn with
 |_ m F=>
 intro l d hm hd hl hw;have O:∀{P:Int->Int->Prop},(∃a b:Int,Ev (λn=>B_p (F_p n) n l (d:Int)) (a,b)/\P a b)->∃a b:Int,Ev (λn=>F_p n l (d:Int)) (a,b)/\P a b:=by
  rintro P ⟨a,b,u,t⟩;exact⟨a,b,QY u,t⟩
 refine O ?_;unfold B_p;by_cases e:0<l.length/\ ¬d<=16
 .rw[QX (show(0:Int)<(l.length:Int)by omega),QX (show(16:Int)<(d:Int)by omega)];have:=Qc3 (17-d);refine⟨1000,1000,Ea (Qa _) (Qla (Qa _)),by omega,by omega,by omega,by omega,λh=>?_,λ_=>by omega⟩;exfalso;cases l with
  |nil=>simp at e
  |cons x r=>
   have:=h.1;simp only[sDs,XV,Vn]at this;exact e.2 this.1
 .have w:Ev (λn:Nat=>((bif decide (0<(l.length:Int))then some (decide (16<(d:Int)))else some false):Option Bool)) false:=by
   by_cases hp:0<l.length
   .have:d<=16:=by
     rcases Vz 16 d with q|q
     .exact absurd ⟨hp,by omega⟩ e
     .exact q
    rw[QX (show(0:Int)<(l.length:Int)by omega),QW (show¬(16:Int)<(d:Int)by omega)];exact Qa _
   .rw[QW (show¬(0:Int)<(l.length:Int)by omega)];exact Qa _
  have ed:i64.wrap ((d:Int)+1)=((d+1:Nat):Int):=Q2 (by omega);have loop:∀(r:List Step) (i:Nat) (a b:Int),l.drop i=r->i<=l.length->0<=a->0<=b->a<=sizeB (17-d)->b<=sizeB (17-d)->
    ∃a' b':Int,EvI (λn=>F_fm n l (d:Int) (F_p n)) (a,b,(i:Int)) (a',b')/\0<=a'/\0<=b'/\a'<=sizeB (17-d)/\b'<=sizeB (17-d)/\
     (sDs d r=true/\a+sNs r<=64/\b+sCs r<=256->a'=a+sNs r/\b'=b+sCs r)/\(¬(sDs d r=true/\a+sNs r<=64/\b+sCs r<=256)->64<a'\/256<b'):=by
   intro r
   induction r with
   |nil=>
    intro i a b M hi w u t L;refine⟨a,b,Ei ?_,w,u,t,L,λ_=>by simp[sNs,sCs],λh=>?_⟩
    .unfold F_fm;simp only[QM M hi,Vm,XI];exact Qa _
    .simp[sDs,sNs,sCs]at h;omega
   |cons s r ac=>
    intro i a b M hi w u t L;obtain⟨j,H⟩:=Qw (by omega) M;have ah:=j.lt';have B:d<=16:=by
     rcases Vz 16 d with q|q
     .exact absurd ⟨by omega,by omega⟩ e
     .exact q
    have aj:sZ s<=sZs l:=by
     have:∀l:List Step,s∈l->sZ s<=sZs l:=by
      intro l
      induction l with
      |nil=>intro h;cases h
      |cons y l F=>
       intro h;rw[sZs];rcases X4.1 h with rfl|h
       .omega
       .have:=F h;omega
     exact this _ j.mem
    by_cases f:a<=64/\b<=256
    .obtain⟨wc,⟨Q,J⟩,⟨ad,V⟩⟩:=Jn (hw s j.mem);have al:=QgF s;obtain⟨p,g,Y,p2,p3,p4,p5,E,p7⟩:=F (sZs s.Then) (by omega) s.Then (d+1) (XS _) (by omega) Q J;obtain⟨y1,y2,q1,q2,q3,q4,q5,q6,q7⟩:=F (sZs s.Else) (by omega) s.Else (d+1) (XS _) (by omega) ad V;have hB:sizeB (17-d)=3*sizeB (17-(d+1)):=by
      rw[show 17-d=(17-(d+1))+1 by omega];rfl
     have ab:=Qc3 (17-(d+1));have ai:=Qmr (k:=17-d) (by omega);have hc:∃z:Int,0<=z/\z<=5608/\Ev (λn=>((bif (!zeroC s.Cond)then(idx l (i:Int)).bind λae=>(F_l n ae.Cond 0).bind λN=>some (i64.wrap ((i64.wrap ((i64.wrap (b+g))+y2))+N))else some (i64.wrap ((i64.wrap (b+g))+y2))):Option Int)) (b+g+y2+z)/\
       ((zeroC s.Cond||cD 1 s.Cond)=true/\(bif zeroC s.Cond then 0 else cN s.Cond)<=256->z=((bif zeroC s.Cond then 0 else cN s.Cond:Nat):Int))/\(¬((zeroC s.Cond||cD 1 s.Cond)=true/\(bif zeroC s.Cond then 0 else cN s.Cond)<=256)->256<z):=by
      have e1:i64.wrap (b+g)=b+g:=Qn (by omega) (by omega);have e2:i64.wrap (b+g+y2)=b+g+y2:=Qn (by omega) (by omega);cases hz:zeroC s.Cond with
      |true=>
       refine⟨0,by omega,by omega,?_,λ_=>by simp,λh=>absurd ⟨rfl,by simp⟩ h⟩;simp only[Xh,Vm,e1,e2];exact(Qa _).eq (by omega)
      |false=>
       obtain⟨v,u1,u2,u3,u4,u5⟩:=QcG _ s.Cond 0 (XS _) (by omega) wc;have af:v<=5608:=by unfold condB at u3;omega
       have e3:i64.wrap (b+g+y2+v)=b+g+y2+v:=Qn (by omega) (by omega);refine⟨v,u2,af,?_,λh=>?_,λh=>?_⟩
       .simp only[Xi,Vl,j.ix,XI,e1,e2];refine Ea u1 ?_;rw[e3];exact Qa _
       .simp only[Bool.false_or,Vm]at h⊢;exact u4 ⟨by omega,h.1,h.2⟩
       .simp only[Bool.false_or,Vm]at h;exact u5 λq=>h ⟨q.2.1,q.2.2⟩
     obtain⟨z,z0,z1,z2,z3,z4⟩:=hc;have e4:i64.wrap (a+1)=a+1:=Qn (by omega) (by omega);have e5:i64.wrap (a+1+p)=a+1+p:=Qn (by omega) (by omega);have e6:i64.wrap (a+1+p+y1)=a+1+p+y1:=Qn (by omega) (by omega);obtain⟨w1,w2,v1,v2,v3,v4,v5,v6,G⟩:=ac (i+1) (a+1+p+y1) (b+g+y2+z) H (by omega) (by omega) (by omega) (by omega) (by omega);refine⟨w1,w2,Ew ?_ v1,v2,v3,v4,v5,?_,?_⟩
     .unfold F_fm;simp only[j.lt,Vl,QX f.1,QX f.2,XI,j.ix,j.nx,ed,QfS];refine Ea Y (Ea q1 ?_);simp only[j.ix,XI]at z2;refine Ea z2 ?_;rw[e4,e5,e6];exact Qa _
     .rintro⟨g1,g2,g3⟩;simp only[sDs,XV,Vn,Qif]at g1;obtain⟨ak,⟨aa,R,ag⟩,X⟩:=g1;rw[sNs,QgG]at g2⊢;rw[sCs,Qfh]at g3⊢;obtain⟨k1,k2⟩:=E ⟨R,by omega,by omega⟩;obtain⟨k3,k4⟩:=q6 ⟨ag,by omega,by omega⟩;have k5:=z3 ⟨aa,by omega⟩;obtain⟨k6,k7⟩:=v6 ⟨X,by omega,by omega⟩;constructor<;>omega
     .intro hn;by_cases W:goodL (d+1) s.Then
      .obtain⟨k1,k2⟩:=E W;by_cases b2:goodL (d+1) s.Else
       .obtain⟨k3,k4⟩:=q6 b2;by_cases T:(zeroC s.Cond||cD 1 s.Cond)=true/\(bif zeroC s.Cond then 0 else cN s.Cond)<=256
        .have k5:=z3 T;refine G λq=>hn ⟨?_,?_,?_⟩
         .simp only[sDs,XV,Vn,Qif];exact⟨B,⟨T.1,W.1,b2.1⟩,q.1⟩
         .rw[sNs,QgG];omega
         .rw[sCs,Qfh];omega
        .have:=z4 T;exact G λq=>by omega
       .have:=q7 b2;exact G λq=>by omega
      .have:=p7 W;exact G λq=>by omega
    .refine⟨a,b,Ei ?_,w,u,t,L,λh=>?_,λ_=>?_⟩
     .unfold F_fm;have:Ev (λn:Nat=>((bif decide ((i:Int)<(l.length:Int))then(bif decide (a<=64)then some (decide (b<=256))else some false)else some false):Option Bool)) false:=by
       rw[j.lt];by_cases q:a<=64
       .rw[QX q,QW (show¬b<=256 from λz=>f ⟨q,z⟩)];exact Qa _
       .rw[QW q];exact Qa _
      exact Ea this (Q1 (Qa _))
     iterate 2 omega
  have ab:=Qc3 (17-d);obtain⟨a,b,Y,p2,p3,p4,p5,E,p7⟩:=loop l 0 0 0 rfl (XT _) (by omega) (by omega) (by omega) (by omega);refine⟨a,b,Ea w (Q1 (Ea Y.ev (Qa _))),p2,p3,p4,p5,λh=>?_,λh=>?_⟩
  .obtain⟨k1,k2⟩:=E ⟨h.1,by have:=h.2.1;omega,by have:=h.2.2;omega⟩;constructor<;>omega
  .exact p7 λq=>h ⟨q.1,by omega,by omega⟩
theorem QiT:∀(m:Nat) (c:Cond),cN c<=m->Cond.wf c->Ev (λn=>F_af n c) (vaC c):=by
 intro m
 induction m using Nat.strongRecOn with
 |_ m p=>
 intro c z s;obtain⟨u,d⟩:=Jo s;refine QY ?_;show Ev (λn=>B_af (F_af n) n c) _;rw[Qmj];have g:∀x∈c.Parts,cN x<cN c:=by
  intro x g;have:∀l:List Cond,x∈l->cN x<=cNs l:=by
   intro l
   induction l with
   |nil=>intro h;cases h
   |cons y l p=>
    intro h;rw[cNs];rcases X4.1 h with rfl|h
    .omega
    .have:=p h;omega
  have:=this _ g;rw[Qb6 c];omega
 have loop:Ev (λn=>iter (F_fd n c (F_af n)) n 0) (bif c.Parts.all vaC then Ctl.cont ()else Ctl.done false):=by
  refine YW c.Parts vaC _ _ (by omega) (λi x a=>?_) ?_
  .unfold F_fd;simp only[a.lt,Vl,a.ix,XI,a.nx];refine Ea (p (cN x) (by have:=g x a.mem;omega) x (XS _) (d x a.mem)) ?_;cases vaC x<;>exact Qa _
  .unfold F_fd;simp only[Jl,Vm];exact Qa _
 have fin:Ev (λn=>((bif (c.Var != 0)then some true else some (c.N != 0)):Option Bool).bind λj=>(bif j then some false else(iter (F_fd n c (F_af n)) n 0).bind λk=>match k with|.cont sb48=>(some true)|.done sb48=>some sb48)) (((c.Var==0)&&(c.N==0))&&vaCs c.Parts):=by
  refine Ea (v:= !((c.Var==0)&&(c.N==0))) (Ez ?_) ?_
  .rw[Qe2];simp only[Bool.not_and,bne]
  .cases((c.Var==0)&&(c.N==0))with
   |false=>exact Qa _
   |true=>
    refine Q1 (Ea loop ?_);rw[Qhf];cases c.Parts.all vaC<;>exact Qa _
 refine QbG (λ_=>?_) (λw=>?_)
 .refine Ea (v:=_) ((Eh λ_=>Eh λ_=>Eh λ_=>Eh λ_=>Qa _).eq ?_) (Qa _);unfold inR;simp only[Bool.and_assoc]
 .have e:Ev (λn:Nat=>((bif (c.Kind==2)then some (c.Kind==2)else some (c.Kind==3)):Option Bool)) ((c.Kind==2)||(c.Kind==3)):=Ez (by rw[QhU]);refine Ea e ?_;cases q:((c.Kind==2)||(c.Kind==3))with
  |true=>
   have r:(c.Kind==4)=false:=by
    rw[VJ];simp only[Bool.or_eq_true,Vv]at q;simp only[Vv,ne_eq];omega
   rw[r];have t:(bif decide ((c.Parts.length:Int)<1)then some true else some (decide (16<(c.Parts.length:Int))))=some (!(decide (0<(c.Parts.length:Int))&&decide ((c.Parts.length:Int)<=16))):=by
    rw[Qe2];congr 1;rw[XW];simp only[Bool.or_eq_true,Vn,Bool.not_eq_true',Bool.and_eq_false_iff,decide_eq_false_iff_not];omega
   rw[t];cases f:(decide (0<(c.Parts.length:Int))&&decide ((c.Parts.length:Int)<=16))with
   |false=>
    refine Ea (Qa _) ((Qa _).eq (by simp))
   |true=>
    refine Ea (Qa _) (fin.eq (by simp))
  |false=>
   simp only[Vm];cases r:(c.Kind==4)with
   |true=>
    simp only[Vl];cases f:((c.Parts.length:Int)==1)with
    |false=>
     refine Ea (v:=Ctl.done false) (Ez ?_) ((Qa _).eq (by simp));simp only[bne,f,Xi,Vl]
    |true=>
     refine Ea (v:=Ctl.cont ()) (Ez ?_) (fin.eq (by simp));simp only[bne,f,Xh,Vm]
   |false=>
    refine Ea (Qa _) (Qa _)
theorem QjR(c:Cond)(a:Cond.wf c)(d:cD 1 c=true)(f:cN c<=256):Ev (λn=>F_dw n c) (bif vaC c then 0 else 71):=by
 obtain⟨v,g,_,_,e,_⟩:=QcG _ c 0 (XS _) (by omega) a;have:=e ⟨by omega,d,f⟩;refine Ea g ?_;rw[QW (show¬256<v by omega)];refine Q1 (Ea (QiT _ c (XS _) a) ?_);cases vaC c<;>exact Qa _
theorem Qld{c:Cond}(h:zeroC c=true):cD 1 c=true/\cN c<=256:=by
 unfold zeroC at h;simp only[XV,Vv]at h;have:c.Parts=[]:=List.eq_nil_of_length_eq_zero (by omega);rw[QkY,Qb6,this];exact⟨rfl,by simp[cNs]⟩
theorem QiR:∀(m:Nat) (l:List Step) (d:Nat),sZs l<=m->l.length<=1048576->(∀x∈l,Step.wf x)->sDs d l=true->sCs l<=256->Ev (λn=>F_h n l) (vaSs l):=by
 intro m
 induction m using Nat.strongRecOn with
 |_ m u=>
 intro l d hm hl O k hc;refine QY ?_;show Ev (λn=>B_h (F_h n) n l) _;unfold B_h;have j:∀s∈l,sZ s<=sZs l/\sDp (d+1) s=true/\sC s<=sCs l:=by
  intro s;have:∀l:List Step,s∈l->sDs d l=true->sZ s<=sZs l/\sDp (d+1) s=true/\sC s<=sCs l:=by
   intro l
   induction l with
   |nil=>intro h;cases h
   |cons y l u=>
    intro h k;simp only[sDs,XV]at k;rw[sZs,sCs];rcases X4.1 h with rfl|h
    .exact⟨by omega,k.2.1,by omega⟩
    .obtain⟨P,H,h3⟩:=u h k.2.2;exact⟨by omega,H,by omega⟩
  exact λh=>this l h k
 rw[Qhe];have loop:Ev (λn=>iter (F_je n l (F_h n)) n 0) (bif l.all vaS then Ctl.cont ()else Ctl.done false):=by
  refine YW l vaS _ _ (by omega) (λi s r=>?_) ?_
  .obtain⟨m1,E,m3⟩:=j s r.mem;obtain⟨T,⟨F,z⟩,⟨w,B⟩⟩:=Jn (O s r.mem);have W:=QgF s;have p:=Qfh s;rw[Qif]at E;simp only[XV]at E;obtain⟨G,V,L⟩:=E;have g:cD 1 s.Cond=true/\cN s.Cond<=256:=by
    cases J:zeroC s.Cond with
    |true=>exact Qld J
    |false=>
     rw[J]at G p;simp only[Vm]at p;exact⟨by simpa using G,by omega⟩
   unfold F_je;simp only[r.lt,Vl,r.ix,XI,r.nx,QfS];rw[Qmi];cases P:(s.Kind==1)with
   |true=>
    simp only[Vl];have e:Ev (λn:Nat=>((bif decide (s.By<1)then some true else(bif decide (5<s.By)then some true else(bif (!zeroC s.Cond)then some true else(bif ((s.Then.length:Int) != 0)then some true else some ((s.Else.length:Int) != 0))))):Option Bool)) (!(inR 1 5 s.By&&(zeroC s.Cond&&(((s.Then.length:Int)==0)&&((s.Else.length:Int)==0))))):=by
     refine(Et λ_=>Et λ_=>Et λ_=>Et λ_=>Qa _).eq ?_;unfold inR;cases zeroC s.Cond with
     |false=>simp
     |true=>
      rw[XW];simp only[Bool.or_eq_true,Vn,Bool.not_eq_true',Bool.and_eq_false_iff,decide_eq_false_iff_not,bne_iff_ne,ne_eq,Vw,Xh,Vx,Xj,false_or];omega
    cases q:(inR 1 5 s.By&&(zeroC s.Cond&&(((s.Then.length:Int)==0)&&((s.Else.length:Int)==0))))with
    |true=>rw[q]at e;exact Ea (Ea e (Qa _)) (Qa _)
    |false=>rw[q]at e;exact Ea (Ea e (Qa _)) (Qa _)
   |false=>
    simp only[Vm];cases H:(s.Kind==2)with
    |true=>
     simp only[Vl];have e:Ev (λn=>((bif (s.By != 0)then some true else(F_dw n s.Cond).bind λt=>(bif (t != 0)then some true else(bif ((s.Then.length:Int)==0)then some true else(F_h n s.Then).bind λf=>(bif (!f)then some true else(F_h n s.Else).bind λa=>some (!a))))):Option Bool)) (!((s.By==0)&&(vaC s.Cond&&(decide (0<(s.Then.length:Int))&&(vaSs s.Then&&vaSs s.Else))))):=by
      have N:=u (sZs s.Then) (by omega) s.Then (d+1) (XS _) F z V (by omega);have Q:=u (sZs s.Else) (by omega) s.Else (d+1) (XS _) w B L (by omega);have X:Ev (λn=>(F_h n s.Else).bind λa=>some (!a)) (!vaSs s.Else):=Ea Q (Qa _);have Y:Ev (λn=>(F_h n s.Then).bind λf=>(bif (!f)then some true else(F_h n s.Else).bind λa=>some (!a))) (!vaSs s.Then|| !vaSs s.Else):=Ea N (Et λ_=>X);refine(Et λ_=>Ea (QjR s.Cond T g.1 g.2) (Et λ_=>Et λ_=>Y)).eq ?_;have M:((bif vaC s.Cond then(0:Int)else 71) != 0)= !vaC s.Cond:=by cases vaC s.Cond<;>rfl
      have R:((s.Then.length:Int)==0)= !decide (0<(s.Then.length:Int)):=by
       rw[XW];simp
      rw[M,R];simp only[Bool.not_and,bne]
     cases q:((s.By==0)&&(vaC s.Cond&&(decide (0<(s.Then.length:Int))&&(vaSs s.Then&&vaSs s.Else))))with
     |true=>rw[q]at e;exact Ea (Ea e (Qa _)) (Qa _)
     |false=>rw[q]at e;exact Ea (Ea e (Qa _)) (Qa _)
    |false=>exact Ea (Qa _) (Qa _)
  .unfold F_je;simp only[Jl,Vm];exact Qa _
 refine Ea loop ?_;cases l.all vaS<;>exact Qa _
theorem QjN(l:List Step)(i:l.length<=1048576)(j:∀x∈l,Step.wf x):Ev (λn=>F_fh n l) (tiesE l):=by
 obtain⟨a,b,p,s,t,_,_,k,r⟩:=QkQ _ l 0 (XS _) (by omega) i j;refine Ea p ?_;have g:goodT l=true↔goodL 0 l:=by
  unfold goodT goodL;simp
 unfold tiesE;cases f:goodT l with
 |false=>
  have:=r (λh=>by rw[g.2 h]at f;cases f);have e:(bif decide (64<a)then some true else some (decide (256<b)))=some true:=by
   rcases this with h|h
   .rw[QX h];rfl
   .rw[QX h];simp
  exact Ea (Ez e) (Qa _)
 |true=>
  have d:=g.1 f;obtain⟨u,y⟩:=k d;have w:=d.2.1;have m:=d.2.2;have e:(bif decide (64<a)then some true else some (decide (256<b)))=some false:=by
   rw[Qe2,QW (show¬64<a by omega),QW (show¬256<b by omega)];rfl
  refine Ea (Ez e) (Q1 ?_);have q:((l.length:Int)==0)=l.isEmpty:=by
   cases l<;>simp;omega
  rw[q];refine Ea (Et λ_=>Ea (QiR _ l 0 (XS _) i j d.1 m) (Qa _)) ?_;cases(l.isEmpty|| !vaSs l)<;>exact Qa _
mutual
def hP:Part->Nat
 |⟨_,_,ps⟩=>bif ps.isEmpty then 0 else 1+hPs ps
def hPs:List Part->Nat
 |[]=>0
 |p::r=>max (hP p) (hPs r)
end
theorem QoW(p:Part):hP p=bif p.Parts.isEmpty then 0 else 1+hPs p.Parts:=by cases p;rfl
theorem QkH{p:Part}:∀{l:List Part},p∈l->hP p<=hPs l
 |q::r,h=>by
  simp[hPs];rcases X4.1 h with rfl|h
  .omega
  .have:=QkH h;omega
theorem Qiw{α:Type}(l:List α):((l.length:Int)==0)=l.isEmpty:=by
 cases l<;>simp;omega
theorem QaH:∀l:List Part,l.length<=szPs l
 |[]=>XS _
 |p::r=>by have:=QaH r;rw[szPs,Jc,XY];omega
theorem Qem:∀(m:Nat) (l:List Part) (k:Nat),szPs l<=m->k<=17->l.length<=1048576->(∀x∈l,Part.wf x)->Ev (λn=>F_n n l (k:Int)) ((min (hPs l) k:Nat):Int):=by
 intro m
 induction m using Nat.strongRecOn with
 |_ m t=>
 intro l k F E B j;refine QY ?_;show Ev (λn=>B_n (F_n n) n l (k:Int)) _;unfold B_n;have loop:∀(r:List Part) (i:Nat) (a:Nat),l.drop i=r->i<=l.length->a<=k->EvI (λn=>F_du n l (k:Int) (F_n n)) ((a:Int),(i:Int)) ((max a (min (hPs r) k):Nat):Int):=by
  intro r
  induction r with
  |nil=>
   intro i a f h d;refine Ei ?_;unfold F_du;simp only[QM f h,Vm,XI];refine(Qa _).eq ?_;simp[hPs]
  |cons p r e=>
   intro i a f h q;obtain⟨d,g⟩:=Qw (by omega) f;obtain⟨w1,w2⟩:=YR (j p d.mem);by_cases s:0<k
   .have y:i64.wrap ((k:Int)-1)=((k-1:Nat):Int):=by rw[Qn (by omega) (by omega)];omega
    have u:=JG d.mem;rw[Jc]at u;have step:Ev (λn=>F_du n l (k:Int) (F_n n) ((a:Int),(i:Int))) (.cont (((max a (min (hP p) k):Nat):Int),((i+1:Nat):Int))):=by
     unfold F_du;simp only[d.lt,Vl,QX (show(0:Int)<(k:Int)by omega),XI,d.ix,d.nx,y,bne,Qiw];rw[QoW];cases G:p.Parts.isEmpty with
     |true=>
      simp only[Xh,Vm,XI,Vl,Nat.zero_min,Nat.max_zero];exact Qa _
     |false=>
      simp only[Xi,Vl,Vm];refine Ea (Ea (t (szPs p.Parts) (by omega) p.Parts (k-1) (XS _) (by omega) w1 w2) (Qa _)) ((Qa _).eq ?_);have w:i64.wrap (1+((min (hPs p.Parts) (k-1):Nat):Int))=((1+min (hPs p.Parts) (k-1):Nat):Int):=by rw[Qn (by omega) (by omega)];omega
      rw[w];congr 2;split<;>omega
    refine(Ew step (e (i+1) _ g (by have:=d.lt';omega) (by omega))).eq ?_;rw[hPs];omega
   .have:k=0:=by omega
    subst this;refine Ei ?_;unfold F_du;simp only[d.lt,Vl,QW (show¬(0:Int)<((0:Nat):Int)by omega),XI,Vm];have z:max a (min (hPs (p::r)) 0)=a:=by omega
    rw[z];exact Qa _
 refine Ea ((loop l 0 0 rfl (XT _) (XT _)).ev) ((Qa _).eq ?_);omega
theorem Qen:∀(m:Nat) (l:List Part),szPs l<=m->l.length<=1048576->(∀x∈l,Part.wf x)->Ev (λn=>F_w n l) ((min (szPs l) 257:Nat):Int):=by
 intro m
 induction m using Nat.strongRecOn with
 |_ m w=>
 intro l B t s;refine QY ?_;show Ev (λn=>B_w (F_w n) n l) _;have loop:∀(r:List Part) (i:Nat) (a:Nat),l.drop i=r->i<=l.length->a<=1048576->∃b:Nat,EvI (λn=>F_fy n l (F_w n)) ((a:Int),(i:Int)) (b:Int)/\min b 257=min (a+(szPs r-r.length)) 257:=by
  intro r
  induction r with
  |nil=>
   intro i a g k _;refine⟨a,Ei ?_,by simp[szPs]⟩;unfold F_fy;simp only[QM g k,Vm,XI];exact Qa _
  |cons p r e=>
   intro i a g k u;obtain⟨d,h⟩:=Qw (by omega) g;obtain⟨w1,w2⟩:=YR (s p d.mem);have y:=JG d.mem;rw[Jc]at y;have z:=QaH r;by_cases q:a<=256
   .obtain⟨b,f,j⟩:=e (i+1) (a+min (szPs p.Parts) 257) h (by have:=d.lt';omega) (by omega);refine⟨b,Ew ?_ f,?_⟩
    .unfold F_fy;simp only[d.lt,Vl,QX (show(a:Int)<=256 by omega),XI,d.ix,d.nx];refine Ea (w (szPs p.Parts) (by omega) p.Parts (XS _) w1 w2) ((Qa _).eq ?_);rw[Qn (by omega) (by omega)];congr 2
     all_goals omega
    .rw[j,szPs,Jc,XY];omega
   .refine⟨a,Ei ?_,by omega⟩;unfold F_fy;simp only[d.lt,Vl,QW (show¬(a:Int)<=256 by omega),XI,Vm];exact Qa _
 obtain⟨b,f,j⟩:=loop l 0 l.length rfl (XT _) t;refine Ea f.ev ((Qa _).eq ?_);have:=QaH l;split<;>omega
theorem Qnb:∀(m:Nat) (l:List Part) (k:Nat),szPs l<=m->hPs l<=k->k<=17->szPs l<=256->(∀x∈l,Part.wf x)->Ev (λn=>F_ac n l (k:Int)) ((hPs l:Int),(szPs l:Int)):=by
 intro m
 induction m using Nat.strongRecOn with
 |_ m H=>
 intro l k P O t h F;have s:=QaH l;refine QY ?_;show Ev (λn=>B_ac (F_ac n) n l (k:Int)) _;unfold B_ac;have loop:∀(r:List Part) (i:Nat) (a b:Nat),l.drop i=r->i<=l.length->a<=17->b+(szPs r-r.length)<=256->EvI (λn=>F_fb n l (k:Int) (F_ac n)) ((a:Int),(b:Int),(i:Int)) (((max a (hPs r):Nat):Int),((b+(szPs r-r.length):Nat):Int)):=by
  intro r
  induction r with
  |nil=>
   intro i a b g u _ _;refine Ei ?_;unfold F_fb;simp only[QM g u,Vm,XI];refine(Qa _).eq ?_;simp[hPs,szPs]
  |cons p r e=>
   intro i a b g u z j;obtain⟨d,f⟩:=Qw (by omega) g;obtain⟨w1,w2⟩:=YR (F p d.mem);have M:=JG d.mem;have q:=QkH d.mem;rw[Jc]at M;have J:=QaH r;rw[szPs,Jc,XY]at j;have step:Ev (λn=>F_fb n l (k:Int) (F_ac n) ((a:Int),(b:Int),(i:Int))) (.cont (((max a (hP p):Nat):Int),((b+szPs p.Parts:Nat):Int),((i+1:Nat):Int))):=by
    unfold F_fb;simp only[d.lt,Vl,d.ix,XI,d.nx,Qiw];rw[QoW]at q⊢;cases w:p.Parts.isEmpty with
    |true=>
     have N:p.Parts=[]:=by simpa using w
     simp only[Vl,XI];rw[N];simp only[szPs,Xw,Nat.max_zero];exact Qa _
    |false=>
     rw[w]at q;simp only[Vm]at q⊢;have B:0<k:=by omega
     have E:i64.wrap ((k:Int)-1)=((k-1:Nat):Int):=by rw[Qn (by omega) (by omega)];omega
     have L:((k:Int)==0)=false:=beq_false_of_ne (by omega);rw[L,QW (show¬(256:Int)<(b:Int)by omega),E];simp only[Vm,XI];refine Ea (Ea (H (szPs p.Parts) (by omega) p.Parts (k-1) (XS _) (by omega) (by omega) (by omega) w2) (Qa _)) ((Qa _).eq ?_);have y:i64.wrap ((hPs p.Parts:Int)+1)=((hPs p.Parts+1:Nat):Int):=Q2 (by omega);have G:i64.wrap ((b:Int)+(szPs p.Parts:Int))=((b+szPs p.Parts:Nat):Int):=by rw[Qn (by omega) (by omega)];omega
     simp only[y,G];congr 2;split<;>omega
   refine(Ew step (e (i+1) _ _ f (by have:=d.lt';omega) (by omega) (by omega))).eq ?_;rw[hPs,szPs,Jc,XY];congr 1<;>omega
 refine Ea ((loop l 0 0 l.length rfl (XT _) (by omega) (by omega)).ev) ((Qa _).eq ?_);congr 1<;>omega
def repS:Nat->List Int->List Int->List Int
 |0,out,_=>out
 |k+1,out,lap=>if 256<out.length then out else repS k (out++lap) lap
mutual
def lapS:Part->List Int
 |⟨m,laps,ps⟩=>bif decide (0<laps)then expS [] ps else[m]
def expS:List Int->List Part->List Int
 |out,[]=>out
 |out,p::r=>expS (repS (p.Laps.toNat+(bif decide (0<p.Laps)then 0 else 1)) out (lapS p)) r
end
theorem Qci(p:Part):lapS p=bif decide (0<p.Laps)then expS [] p.Parts else[p.Mat]:=by cases p;rfl
theorem Qc8{k:Nat}{a d:List Int}(h:256<a.length):repS k a d=a:=by
 cases k with
 |zero=>rfl
 |succ k=>rw[repS,Vq h]
theorem QfP:∀(l:List Part) {out:List Int},256<out.length->expS out l=out
 |[],out,h=>by rw[expS]
 |p::r,out,h=>by rw[expS,Qc8 h];exact QfP r h
theorem Qc7:∀(k:Nat) (out lap:List Int),(repS k out lap).length<=max out.length (256+lap.length)
 |0,out,lap=>by rw[repS];omega
 |k+1,out,lap=>by
  rw[repS];split
  .omega
  .have:=Qc7 k (out++lap) lap;rw[X0]at this;omega
theorem QfO:∀(m:Nat) (l:List Part) (a:List Int),szPs l<=m->(expS a l).length<=max a.length (256+257*szPs l):=by
 intro m
 induction m using Nat.strongRecOn with
 |_ m j=>
 intro l;have d:∀p∈l,szPs l<=m->(lapS p).length<=257*szP p:=by
  intro p g i;have t:=JG g;rw[Qci,Jc]at*;cases decide (0<p.Laps)with
  |true=>
   have:=j (szPs p.Parts) (by omega) p.Parts [] (XS _);simp[Vl,List.length_nil]at this⊢;omega
  |false=>simp;omega
 have f:∀(r:List Part) (a:List Int),(∀p∈r,(lapS p).length<=257*szP p)->(expS a r).length<=max a.length (256+257*szPs r):=by
  intro r
  induction r with
  |nil=>intro a _;rw[expS];omega
  |cons p r e=>
   intro a h;rw[expS,szPs];have u:=e (repS (p.Laps.toNat+(bif decide (0<p.Laps)then 0 else 1)) a (lapS p)) λq k=>h q (by simp[k]);have s:=Qc7 (p.Laps.toNat+(bif decide (0<p.Laps)then 0 else 1)) a (lapS p);have n:=h p (by simp);omega
 intro a i;exact f l a λp g=>d p g i
theorem Qiz(p:Part):(lapS p).length<=257*szP p:=by
 rw[Qci,Jc];cases decide (0<p.Laps)with
 |true=>
  have:=QfO _ p.Parts [] (XS _);simp[Vl,List.length_nil]at this⊢;omega
 |false=>simp;omega
theorem QlD(kk:Int):∀(m:Nat) (l:List Part),szPs l<=m->szPs l<=256->l.length<=1048576->(∀x∈l,Part.wf x)->partsS kk l=true->Ev (λn=>F_ae n l) (expS [] l):=by
 intro m
 induction m using Nat.strongRecOn with
 |_ m W=>
 intro l hm N hl T Q;rw[Qa9,Xt]at Q;refine QY ?_;show Ev (λn=>B_ae (F_ae n) n l) _;unfold B_ae;have inner:∀(p:Part) (e:List Int) (g:p.Laps=0\/0<p.Laps/\p.Laps<=64) (y:e.length<=100000) (j:Nat) (k:Nat) (a:List Int),j+k=p.Laps.toNat+(bif decide (0<p.Laps)then 0 else 1)->a.length<=200000->
   ∃d:Ctl (List Int) (Ctl ((List Int)×Int) (Ctl (List Int) (List Int))),EvI (λn=>F_fi n p e) (a,(j:Int)) d/\
    (d=.cont (repS k a e)\/(256<(repS k a e).length/\d=.done (.done (.done (repS k a e))))):=by
  intro p e g y j k
  induction k generalizing j with
  |zero=>
   intro a q _;refine⟨_,Ei (b:=.cont a) ?_,.inl rfl⟩;unfold F_fi;have:¬((j:Int)<if p.Laps<1 then 1 else p.Laps):=by
    rcases g with h|⟨h,Y⟩
    .rw[h]at q⊢;simp at q⊢;omega
    .rw[QX h]at q;simp at q;rw[Vp (by omega)];omega
   rw[QW this];exact Qa _
  |succ k M=>
   intro a q z;have s:((j:Int)<if p.Laps<1 then 1 else p.Laps):=by
    rcases g with h|⟨h,Y⟩
    .rw[h]at q⊢;simp at q⊢;omega
    .rw[QX h]at q;simp at q;rw[Vp (by omega)];omega
   by_cases t:256<a.length
   .refine⟨_,Ei (b:=.done (.done (.done a))) ?_,.inr ⟨by rw[Qc8 t];exact t,by rw[Qc8 t]⟩⟩;unfold F_fi;rw[QX s,QX (show(256:Int)<(a.length:Int)by omega)];exact Qa _
   .obtain⟨d,w,E⟩:=M (j+1) (a++e) (by omega) (by rw[X0];omega);refine⟨d,Ew ?_ w,by rw[repS,Vp t];exact E⟩;unfold F_fi;rw[QX s,QW (show¬(256:Int)<(a.length:Int)by omega)];refine Qla (Q1 (JL (Qdq a e (by omega)) ?_));rw[Q2 (by omega)];exact Qa _
 have loop:∀(r:List Part) (i:Nat) (a:List Int),l.drop i=r->i<=l.length->a.length<=100000->
   ∃d:Ctl (List Int) (List Int),EvI (λn=>F_fj n l (F_ae n)) (a,(i:Int)) d/\(d=.cont (expS a r)\/d=.done (expS a r)):=by
  intro r
  induction r with
  |nil=>
   intro i a J O _;refine⟨.cont a,Ei ?_,.inl (by rw[expS])⟩;unfold F_fj;simp only[QM J O,Vm];exact Qa _
  |cons p r G=>
   intro i a J O z;obtain⟨f,H⟩:=Qw (by omega) J;have s:=f.lt';have hs:=JG f.mem;obtain⟨w1,w2⟩:=YR (T p f.mem);have g:=Q p f.mem;rw[QbW]at g;have u:p.Laps=0\/0<p.Laps/\p.Laps<=64:=by
    cases P:(p.Laps==0)with
    |true=>exact .inl (by simpa using P)
    |false=>
     rw[P]at g;simp only[Vm,inR,XV,Vn]at g;exact .inr ⟨by omega,by omega⟩
   have V:=Qiz p;have t:Ev (λn=>((bif decide (0<p.Laps)then(F_ae n p.Parts).bind λL=>some L else some [p.Mat]):Option (List Int))) (lapS p):=by
    rw[Qci];refine QbG (λh=>?_) (λ_=>Qa _);rw[Jc]at hs;refine Ea (W (szPs p.Parts) (by omega) p.Parts (XS _) (by omega) w1 w2 ?_) (Qa _);have:(p.Laps==0)=false:=by
     simp only[Vn]at h;exact beq_false_of_ne (by omega)
    rw[this]at g;simp only[Vm,XV]at g;exact g.2.2.2
   obtain⟨d,w,E⟩:=inner p (lapS p) u (by omega) 0 _ a (Xv _) (by omega);rw[expS];rcases E with rfl|⟨B,rfl⟩
   .obtain⟨F,R,X⟩:=G (i+1) (repS (p.Laps.toNat+(bif decide (0<p.Laps)then 0 else 1)) a (lapS p)) H (by omega) (by
     have:=Qc7 (p.Laps.toNat+(bif decide (0<p.Laps)then 0 else 1)) a (lapS p);omega)
    refine⟨F,Ew ?_ R,X⟩;unfold F_fj;simp only[f.lt,Vl,f.ix,XI,f.nx];exact Ea t (Ea w.ev (Qa _))
   .refine⟨.done (repS (p.Laps.toNat+(bif decide (0<p.Laps)then 0 else 1)) a (lapS p)),Ei ?_,.inr (by rw[QfP r B])⟩;unfold F_fj;simp only[f.lt,Vl,f.ix,XI,f.nx];exact Ea t (Ea w.ev (Qa _))
 obtain⟨d,w,E⟩:=loop l 0 [] rfl (XT _) (by simp);rcases E with rfl|rfl
 iterate 2 exact Ea w.ev (Qa _)
theorem QhI(O:Int):∀(m:Nat) (l:List Part),szPs l<=m->szPs l<=256->l.length<=1048576->(∀x∈l,Part.wf x)->partsS O l=true->Ev (λn=>F_ag n l) (expS [] l):=by
 intro m
 induction m using Nat.strongRecOn with
 |_ m N=>
 intro l V z T M J;rw[Qa9,Xt]at J;refine QY ?_;show Ev (λn=>B_ag (F_ag n) n l) _;unfold B_ag;have inner:∀(p:Part) (i:Nat) (e:At l i p) (H:List Int) (f:List Int) (g:0<p.Laps/\p.Laps<=64) (h:f.length<=100000) (j:Nat) (k:Nat) (a:List Int),j+k=p.Laps.toNat->a.length<=200000->
   EvI (λn=>F_gj n l (H,(i:Int)) f) (a,(j:Int)) (repS k a f):=by
  intro p i e H f g h j k
  induction k generalizing j with
  |zero=>
   intro a P _;refine Ei ?_;unfold F_gj;simp only[e.ix,XI];rw[QW (show¬(j:Int)<p.Laps by omega)];exact Qa _
  |succ k E=>
   intro a P q;by_cases s:256<a.length
   .refine Ei ?_;rw[Qc8 s];unfold F_gj;simp only[e.ix,XI];rw[QX (show(j:Int)<p.Laps by omega),QW (show¬(a.length:Int)<=256 by omega)];exact Qa _
   .rw[repS,Vp s];refine Ew ?_ (E (j+1) (a++f) (by omega) (by rw[X0];omega));unfold F_gj;simp only[e.ix,XI];rw[QX (show(j:Int)<p.Laps by omega),QX (show(a.length:Int)<=256 by omega)];simp only[Vl,XI];refine JL (Qdq a f (by omega)) ?_;rw[Q2 (by omega)];exact Qa _
 have loop:∀(r:List Part) (i:Nat) (a:List Int),l.drop i=r->i<=l.length->a.length<=100000->
   EvI (λn=>F_gd n l (F_ag n)) (a,(i:Int)) (expS a r):=by
  intro r
  induction r with
  |nil=>
   intro i a y F _;refine Ei ?_;rw[expS];unfold F_gd;simp only[QM y F,Vm,XI];exact Qa _
  |cons p r t=>
   intro i a y F q;obtain⟨e,u⟩:=Qw (by omega) y;have L:=e.lt';have Q:=JG e.mem;by_cases s:256<a.length
   .rw[QfP _ s];refine Ei ?_;unfold F_gd;simp only[e.lt,Vl,QW (show¬(a.length:Int)<=256 by omega),XI,Vm];exact Qa _
   obtain⟨w1,w2⟩:=YR (M p e.mem);have g:=J p e.mem;rw[QbW]at g;have w:=Qiz p;rw[expS];refine Ew ?_ (t (i+1) _ u (by omega) (by
    have:=Qc7 (p.Laps.toNat+(bif decide (0<p.Laps)then 0 else 1)) a (lapS p);omega))
   unfold F_gd;simp only[e.lt,Vl,QX (show(a.length:Int)<=256 by omega),XI,e.ix,e.nx];cases G:(p.Laps==0)with
   |true=>
    have R:p.Laps=0:=by simpa using G
    simp only[Vl];refine Ea (JL (Qdq a [p.Mat] (by simp;omega)) (Qa _)) ((Qa _).eq ?_);rw[Qci,R];simp[repS,s]
   |false=>
    rw[G]at g;simp only[Vm,XV,inR,Vn]at g;have d:0<p.Laps/\p.Laps<=64:=⟨by omega,by omega⟩;simp only[Vm];rw[Jc]at Q;refine Ea (Ea (N (szPs p.Parts) (by omega) p.Parts (XS _) (by omega) w1 w2 g.2.2.2) (Ea ?_ (Qa _))) (Qa _);have B:=Qci p;rw[QX d.1,Vl]at B;have:=(inner p i e a (expS [] p.Parts) d (by rw[<- B];rw[Jc]at w;omega) 0 p.Laps.toNat a (by omega) (by omega)).ev;rw[<- B]at this⊢;rw[QX d.1];exact this
 exact Ea (loop l 0 [] rfl (XT _) (by simp)).ev (Qa _)
def kindAt(c:Course)(m:Int):Int:=((c.Mats[m.toNat]?).map (·.Kind)).getD 0
def hasLeg(c:Course)(a b:Int):Bool:=c.Legs.any λl=>(l.From==a)&&(l.To==b)
def rokS(c:Course)(len:Nat):Nat->Int->List Int->Bool
 |_,_,[]=>true
 |i,prev,m::r=>((kindAt c m==1)==decide (i=0))&&(((kindAt c m==3)==decide (i+1=len))&&((decide (i=0)||hasLeg c prev m)&&rokS c len (i+1) m r))
def routeR(c:Course)(d:Distance)(r:List Int):Bool:=
 (decide (2<=r.length)&&decide (r.length<=256))&&(rokS c r.length 0 0 r&&((bif decide (0<=d.Extra)then !((r.count d.Extra:Int)==0)&&((kindAt c d.Extra==2)&&hasLeg c d.Extra d.Extra)else true)&&d.Cutoffs.all λx=>decide (x.Lap<=(r.count x.Mat:Int))))
def routeS(c:Course)(d:Distance):Bool:=routeR c d (expS [] d.Route)
def cntM(l:List Int):List (Int×Int):=l.foldl (λm k=>Yp m k (QL m k 0+1)) []
theorem QlM(l:List Int)(k:Int):cntM (l++[k])=Yp (cntM l) k (QL (cntM l) k 0+1):=by unfold cntM;rw[List.foldl_append];rfl
theorem Qf5(l:List Int)(k:Int):QL (cntM l) k 0=(l.count k:Int):=by
 have a:∀(l:List Int) (m:List (Int×Int)),QL (l.foldl (λm k=>Yp m k (QL m k 0+1)) m) k 0=QL m k 0+l.count k:=by
  intro l
  induction l with
  |nil=>simp
  |cons x l d=>
   intro m;rw[XC,d,Qfu,List.count_cons];by_cases h:k=x
   .subst h;simp;omega
   .have:=beq_false_of_ne λe=>h e.symm;simp[h,this]
 have:=a l [];simpa[cntM,Qlq]using this
theorem QjE(d:Int):∀(m:Nat) (l:List Part) (a:List Int),szPs l<=m->partsS d l=true->(∀x∈a,0<=x/\x<=d)->∀x∈expS a l,0<=x/\x<=d:=by
 intro m
 induction m using Nat.strongRecOn with
 |_ m z=>
 intro l;have t:∀(k:Nat) (a e:List Int),(∀x∈a,0<=x/\x<=d)->(∀x∈e,0<=x/\x<=d)->∀x∈repS k a e,0<=x/\x<=d:=by
  intro k
  induction k with
  |zero=>intro a e i _;exact i
  |succ k s=>
   intro a e i y;rw[repS];split
   .exact i
   .refine s _ _ ?_ y;intro x g;rcases VA.1 g with h|h
    .exact i x h
    .exact y x h
 have q:∀(r:List Part) (a:List Int),szPs r<=m->partsS d r=true->(∀x∈a,0<=x/\x<=d)->∀x∈expS a r,0<=x/\x<=d:=by
  intro r
  induction r with
  |nil=>intro a _ _ h;exact h
  |cons p r n=>
   intro a u j h;rw[szPs,Jc]at u;rw[partsS,XV]at j;obtain⟨f,B⟩:=j;refine n _ (by omega) B (t _ _ _ h ?_);rw[Qci];rw[QbW]at f;cases w:(p.Laps==0)with
   |true=>
    have e0:=by simpa using w
    rw[w,Vl,XV]at f;have:=f.1;unfold inR at this;simp[XV,Vn]at this;rw[e0];intro x g;simp at g;subst g;exact this
   |false=>
    rw[w]at f;simp[Vm,XV,inR,Vn]at f;rw[QX (show 0<p.Laps by omega),Vl];exact z (szPs p.Parts) (by omega) p.Parts [] (XS _) f.2.2.2 (by simp)
 exact λa u j h=>q l a u j h
theorem Qdf{c:Course}{m:Int}(e:0<=m)(d:m<=(c.Mats.length:Int)-1):∃x:Mat,idx c.Mats m=some x/\x.Kind=kindAt c m:=by
 obtain⟨k,rfl⟩:∃k:Nat,m=k:=⟨m.toNat,by omega⟩;have a:k<c.Mats.length:=by omega
 refine⟨c.Mats[k],Q8 (XJ a),?_⟩;unfold kindAt;rw[Int.toNat_natCast,XJ a];rfl
theorem Qix(c:Course)(a b:Int):QL (Yw legKey true c.Legs) {from_:=a,to_:=b} false=hasLeg c a b:=by
 rw[Qee];by_cases h:{from_:=a,to_:=b}∈c.Legs.map legKey
 .rw[Vq h];obtain⟨l,d,e⟩:=Xf.1 h;obtain⟨g,f⟩:=ends_eq.1 e;exact(Xu.2 ⟨l,d,by simp[g,f]⟩).symm
 .rw[Vp h]
  symm
  rw[VJ];intro q;obtain⟨l,d,e⟩:=Xu.1 q;simp[XV,Vv]at e;exact h (Xf.2 ⟨l,d,by unfold legKey;rw[e.1,e.2]⟩)
theorem Qnf(c:Course)(w:CourseOk c)(a b:Int):∃v:Int,Ev (λn=>F_bf n c a b) v/\decide (v<0)= !hasLeg c a b:=by
 have t:c.Legs.length<=4611686018427387904:=by have:=w.legs;omega
 have step:∀i x,At c.Legs i x->Ev (λn=>F_em n c a b i) (bif (x.From==a)&&(x.To==b)then .done (.done i)else .cont (i+1)):=by
  intro i x e;unfold F_em;simp only[e.lt,e.ix,e.nx];refine Ea (Eh λ_=>Qa _) ?_;cases((x.From==a)&&(x.To==b))<;>exact Qa _
 have loop:∀(r:List Leg) (i:Nat),c.Legs.drop i=r->i<=c.Legs.length->∃d:Ctl Unit Int,EvI (λn=>F_em n c a b) i d/\((r.any λl=>(l.From==a)&&(l.To==b))=true->∃j:Nat,d=.done j)/\((r.any λl=>(l.From==a)&&(l.To==b))=false->d=.cont ()):=by
  intro r
  induction r with
  |nil=>
   intro i k p;refine⟨.cont (),Ei ?_,λh=>(by simp at h),λ_=>rfl⟩;unfold F_em;simp only[QM k p];exact Qa _
  |cons x r u=>
   intro i k p;obtain⟨e,m⟩:=Qw t k;have s:=step i x e;rw[List.any_cons];cases h:((x.From==a)&&(x.To==b))with
   |true=>
    rw[h]at s;exact⟨.done i,Ei s,λ_=>⟨i,rfl⟩,λh=>by simp at h⟩
   |false=>
    rw[h]at s;obtain⟨d,f,g⟩:=u (i+1) m (by have:=e.lt';omega);exact⟨d,Ew s f,by simpa using g⟩
 obtain⟨d,f,g,q⟩:=loop c.Legs 0 rfl (XT _);unfold hasLeg;cases h:c.Legs.any λl=>(l.From==a)&&(l.To==b)with
 |true=>
  obtain⟨j,rfl⟩:=g h;exact⟨j,Ea f.ev (Qa _),by simp⟩
 |false=>
  obtain rfl:=q h;exact⟨-1,Ea f.ev (Qa _),by simp⟩
theorem QiW(l:List Int)(k:Int)(s:l.length<=1048576):Ev (λn=>F_bk n l k) (l.count k:Int):=by
 have loop:∀(r:List Int) (i:Nat) (a:Nat),l.drop i=r->i<=l.length->a<=i->EvI (λn=>F_gq n l k) (a,i) (a+r.count k):=by
  intro r
  induction r with
  |nil=>
   intro i a f j _;refine Ei ?_;unfold F_gq;simp only[QM f j];exact Qa _
  |cons x r g=>
   intro i a f j p;obtain⟨d,e⟩:=Qw (by omega) f;have m:=d.lt';have q:i64.wrap (a+1)=a+1:=Q2 (by omega);rw[List.count_cons];cases h:(x==k)with
   |true=>
    refine(Ew ?_ (g (i+1) (a+1) e (by omega) (by omega))).eq ?_
    .unfold F_gq;simp only[d.lt,d.ix,XI,d.nx,h,q];exact Qa _
    .simp;omega
   |false=>
    refine(Ew ?_ (g (i+1) a e (by omega) (by omega))).eq ?_
    .unfold F_gq;simp only[d.lt,d.ix,XI,d.nx,h];exact Qa _
    .simp
 exact Ea ((loop l 0 0 rfl (XT _) (XS _)).ev) ((Qa _).eq (by omega))
structure NumOk (c:Course):Prop where
 kinds:∀m∈c.Mats,1<=m.Kind/\m.Kind<=3
 dist:∀d∈c.Distances,-1<=d.Extra/\d.Extra<=(c.Mats.length:Int)-1/\partsS ((c.Mats.length:Int)-1) d.Route=true
theorem Qjg{c:Course}(h:numbersS c=true):NumOk c:=by
 unfold numbersS at h;simp[XV,Xt]at h;refine⟨λm g=>?_,λd e=>?_⟩
 .have:=h.1 m g;unfold inR at this;simpa using this
 .have:=h.2.2.2.1 d e;unfold distS at this;simp[XV]at this;obtain⟨_,a,f,_⟩:=this;unfold inR at a;simp[XV,Vn]at a;exact⟨a.1,a.2,f⟩
theorem Qls{c:Course}(q:NumOk c){m:Int}(f:0<=m)(a:m<=(c.Mats.length:Int)-1):1<=kindAt c m/\kindAt c m<=3:=by
 obtain⟨x,g,d⟩:=Qdf f a;have:=by
  obtain⟨_,e⟩:=Qam g;exact VE e
 rw[<- d];exact q.kinds x this
theorem Qm7{c:Course}(q:NumOk c){d:Distance}(hd:d∈c.Distances):∀x∈expS [] d.Route,0<=x/\x<=(c.Mats.length:Int)-1:=
 QjE _ _ d.Route [] (XS _) (q.dist d hd).2.2 (by simp)
theorem Qik(c:Course)(len i:Nat)(prev m:Int)(r:List Int):rokS c len i prev (m::r)=(((kindAt c m==1)==decide (i=0))&&(((kindAt c m==3)==decide (i+1=len))&&((decide (i=0)||hasLeg c prev m)&&rokS c len (i+1) m r))):=rfl
theorem Qkx(i:Nat):((i:Int)==0)=decide (i=0):=by
 rw[XW];simp
theorem Qgs(c:Course)(r:List Int)(L:2<=r.length)(T:r.length<=256)(P:∀x∈r,0<=x/\x<=(c.Mats.length:Int)-1):
  Ev (λn=>iter (F_dr n c (Yw legKey true c.Legs) r) n ([],0)) (bif rokS c r.length 0 0 r then .cont (cntM r)else .done false):=by
 have loop:∀(t:List Int) (i:Nat) (d:Int),r.drop i=t->i<=r.length->(0<i->At r (i-1) d)->EvI (λn=>F_dr n c (Yw legKey true c.Legs) r) (cntM (r.take i),(i:Int)) (bif rokS c r.length i d t then .cont (cntM r)else .done false):=by
  intro t
  induction t with
  |nil=>
   intro i d g s _;refine Ei ?_;unfold F_dr;simp only[QM g s,Vm,rokS,Vl];have:r.length<=i:=by simpa using g
   rw[VF this];exact Qa _
  |cons m t G=>
   intro i d g s R;obtain⟨e,p⟩:=Qw (by omega) g;have y:=e.lt';obtain⟨M,H⟩:=P m e.mem;obtain⟨x,B,O⟩:=Qdf M H;have z:i64.wrap ((r.length:Int)-1)=((r.length-1:Nat):Int):=by rw[Qn (by omega) (by omega)];omega
   have F:((i:Int)==((r.length-1:Nat):Int))=decide (i+1=r.length):=by rw[XW];simp;omega
   have J:Ev (λn:Nat=>((bif ((x.Kind==1) != ((i:Int)==0))then some true else(bif ((x.Kind==3) != ((i:Int)==(i64.wrap ((r.length:Int)-1))))then some true else(bif decide (0<(i:Int))then(idx r (i64.wrap ((i:Int)-1))).bind λq=>(some (QL (Yw legKey true c.Legs) ({from_:=q,to_:=m:Ue}) false)).bind λj=>some (!j)else some false))):Option Bool))
     (!(((kindAt c m==1)==decide (i=0))&&(((kindAt c m==3)==decide (i+1=r.length))&&(decide (i=0)||hasLeg c d m)))):=by
    rw[O,z,F,Qkx];refine Eu (Et λ_=>Et λ_=>QbG (v:= !hasLeg c d m) (w:=false) (λh=>?_) λ_=>Qa _) ?_
    .have k:0<i:=by simpa using h
     have E:i64.wrap ((i:Int)-1)=((i-1:Nat):Int):=by rw[Qn (by omega) (by omega)];omega
     rw[E,(R k).ix];simp only[XI,Qix];exact Qa _
    .have Q:decide (0<(i:Int))= !decide (i=0):=by rw[XW];simp;omega
     rw[Q];cases(kindAt c m==1)<;>cases decide (i=0)<;>cases(kindAt c m==3)<;>cases decide (i+1=r.length)<;>cases hasLeg c d m<;>rfl
   have f:i64.wrap (QL (cntM (r.take i)) m 0+1)=QL (cntM (r.take i)) m 0+1:=by
    rw[Qf5];have:(r.take i).count m<=i:=by have:=List.count_le_length (a:=m) (l:=r.take i);simp at this;omega
    exact Qn (by omega) (by omega)
   have step:Ev (λn=>F_dr n c (Yw legKey true c.Legs) r (cntM (r.take i),(i:Int))) (bif ((kindAt c m==1)==decide (i=0))&&(((kindAt c m==3)==decide (i+1=r.length))&&(decide (i=0)||hasLeg c d m))then .cont (cntM (r.take (i+1)),((i+1:Nat):Int))else .done (.done false)):=by
    unfold F_dr;simp only[e.lt,Vl,e.ix,XI,e.nx,B];refine Ea J ?_;rw[f, <- QlM, <- e.take];cases(((kindAt c m==1)==decide (i=0))&&(((kindAt c m==3)==decide (i+1=r.length))&&(decide (i=0)||hasLeg c d m)))<;>exact Qa _
   have N:rokS c r.length i d (m::t)=((((kindAt c m==1)==decide (i=0))&&(((kindAt c m==3)==decide (i+1=r.length))&&(decide (i=0)||hasLeg c d m)))&&rokS c r.length (i+1) m t):=by rw[Qik];simp only[Bool.and_assoc]
   rw[N];cases u:(((kindAt c m==1)==decide (i=0))&&(((kindAt c m==3)==decide (i+1=r.length))&&(decide (i=0)||hasLeg c d m)))with
   |false=>
    rw[u]at step;exact Ei step
   |true=>
    rw[u]at step;rw[Vx];exact Ew step (G (i+1) m p (by omega) (λ_=>by simpa using e))
 exact(loop r 0 0 rfl (XT _) (by omega)).ev
theorem QjT(c:Course)(w:CourseOk c)(q:NumOk c)(d:Distance)(e:d∈c.Distances)(l:∀x∈d.Route,Part.wf x)(p:szPs d.Route<=256):
  Ev (λn=>F_cz n c d (Yw legKey true c.Legs)) (routeS c d):=by
 have k:=QaH d.Route;have j:=Qm7 q e;have a:=QfO _ d.Route [] (XS _);unfold F_cz routeS;refine Ea (QlD _ _ d.Route (XS _) p (by omega) l (q.dist d e).2.2) ?_;generalize expS [] d.Route=r at j a⊢;unfold routeR;have e3:=by
  have:r.length<=1048576:=by simp at a;omega
  exact QaF this
 rw[e3];have y:(decide ((r.length:Int)-1<1)||decide (256<=(r.length:Int)-1))= !(decide (2<=r.length)&&decide (r.length<=256)):=by
  rw[XW];simp;omega
 refine Ea (Eu (Et λ_=>Qa _) y) ?_;cases g:(decide (2<=r.length)&&decide (r.length<=256))with
 |false=>exact Qa _
 |true=>
  simp[XV,Vn]at g;refine Q1 (Ea (Qgs c r g.1 g.2 j) ?_);cases rokS c r.length 0 0 r with
  |false=>exact Qa _
  |true=>
   have m:Ev (λn=>(bif decide (0<=d.Extra)then(some (QL (cntM r) d.Extra 0)).bind λh=>(bif (h==0)then some true else(idx c.Mats d.Extra).bind λi=>(bif (i.Kind != 2)then some true else(some (QL (Yw legKey true c.Legs) ({from_:=d.Extra,to_:=d.Extra:Ue}) false)).bind λf=>some (!f)))else some false))
     (!(bif decide (0<=d.Extra)then !((r.count d.Extra:Int)==0)&&((kindAt c d.Extra==2)&&hasLeg c d.Extra d.Extra)else true)):=by
    rw[Qf5];cases u:decide (0<=d.Extra)with
    |false=>exact Qa _
    |true=>
     obtain⟨x,t,s⟩:=Qdf (by simpa using u) (q.dist d e).2.1;simp only[XI,t,Qix,s];refine Eu (Et λ_=>Et λ_=>Qa _) ?_;rw[bne];cases((r.count d.Extra:Int)==0)<;>cases(kindAt c d.Extra==2)<;>cases hasLeg c d.Extra d.Extra<;>rfl
   refine Ea m ?_;cases(bif decide (0<=d.Extra)then !((r.count d.Extra:Int)==0)&&((kindAt c d.Extra==2)&&hasLeg c d.Extra d.Extra)else true)with
   |false=>exact Qa _
   |true=>
    refine Q1 (Ea ?_ (Qa _));refine Jr d.Cutoffs _ (λn x=>F_co n x (cntM r)) (by have:=w.cut d e;omega) λx _=>?_;unfold F_co;rw[Qf5];exact Qa _
theorem QfT(c:Course)(w:CourseOk c)(q:NumOk c)(r:List Int)(N:2<=r.length)(W:r.length<=256)(T:∀x∈r,0<=x/\x<=(c.Mats.length:Int)-1):
  Ev (λn=>iter (F_dz n c r) n 0) (bif rokS c r.length 0 0 r then .cont ()else .done false):=by
 have loop:∀(t:List Int) (i:Nat) (a:Int),r.drop i=t->i<=r.length->(0<i->At r (i-1) a)->EvI (λn=>F_dz n c r) (i:Int) (bif rokS c r.length i a t then .cont ()else .done false):=by
  intro t
  induction t with
  |nil=>
   intro i a j y _;refine Ei ?_;unfold F_dz;simp only[QM j y,Vm,rokS,Vl];exact Qa _
  |cons m t M=>
   intro i a j y V;obtain⟨f,l⟩:=Qw (by omega) j;have E:=f.lt';obtain⟨z,u⟩:=T m f.mem;obtain⟨x,G,Q⟩:=Qdf z u;have X:=Qls q z u;have F:i64.wrap ((r.length:Int)-1)=((r.length-1:Nat):Int):=by rw[Qn (by omega) (by omega)];omega
   have J:((i:Int)==((r.length-1:Nat):Int))=decide (i+1=r.length):=by rw[XW];simp;omega
   have step:Ev (λn=>F_dz n c r (i:Int)) (bif ((kindAt c m==1)==decide (i=0))&&(((kindAt c m==3)==decide (i+1=r.length))&&(decide (i=0)||hasLeg c a m))then .cont ((i+1:Nat):Int)else .done (.done false)):=by
    unfold F_dz;simp only[f.lt,Vl,f.ix,XI,f.nx,G,Q,F,J,Qkx];refine Ea (v:=if i=0 then 1 else if i+1=r.length then 3 else 2) (Ez ?_) ?_
    .by_cases e:i=0
     .simp[e]
     .by_cases h:i+1=r.length
      iterate 2 simp[e,h]
    refine Ea (v:= !(((kindAt c m==1)==decide (i=0))&&(((kindAt c m==3)==decide (i+1=r.length))&&(decide (i=0)||hasLeg c a m)))) ?_ ?_
    .have L:Ev (λn:Nat=>(bif decide (0<(i:Int))then(idx r (i64.wrap ((i:Int)-1))).bind λp=>(F_bf n c p m).bind λs=>some (decide (s<0))else some false:Option Bool)) (!(decide (i=0)||hasLeg c a m)):=by
      by_cases e:i=0
      .subst e;exact Qa _
      .have H:i64.wrap ((i:Int)-1)=((i-1:Nat):Int):=by rw[Qn (by omega) (by omega)];omega
       obtain⟨v,R,O⟩:=Qnf c w a m;rw[QX (show(0:Int)<(i:Int)by omega),H,(V (by omega)).ix,QW e];exact Ea R ((Qa _).eq (by rw[O];rfl))
     refine Eu (Et λ_=>L) ?_;have k:(kindAt c m != if i=0 then 1 else if i+1=r.length then 3 else 2)= !(((kindAt c m==1)==decide (i=0))&&((kindAt c m==3)==decide (i+1=r.length))):=by
      have d:kindAt c m=1\/kindAt c m=2\/kindAt c m=3:=by omega
      by_cases e:i=0
      .rcases d with g|g|g<;>simp[g,e,show¬1=r.length by omega]
      .by_cases h:i+1=r.length
       .rcases d with g|g|g<;>simp[g,e,h]
       .rcases d with g|g|g<;>simp[g,e,h]
     rw[k];cases((kindAt c m==1)==decide (i=0))<;>cases((kindAt c m==3)==decide (i+1=r.length))<;>cases(decide (i=0)||hasLeg c a m)<;>rfl
    .cases(((kindAt c m==1)==decide (i=0))&&(((kindAt c m==3)==decide (i+1=r.length))&&(decide (i=0)||hasLeg c a m)))<;>exact Qa _
   have P:rokS c r.length i a (m::t)=((((kindAt c m==1)==decide (i=0))&&(((kindAt c m==3)==decide (i+1=r.length))&&(decide (i=0)||hasLeg c a m)))&&rokS c r.length (i+1) m t):=by rw[Qik];simp only[Bool.and_assoc]
   rw[P];cases B:(((kindAt c m==1)==decide (i=0))&&(((kindAt c m==3)==decide (i+1=r.length))&&(decide (i=0)||hasLeg c a m)))with
   |false=>
    rw[B]at step;exact Ei step
   |true=>
    rw[B]at step;rw[Vx];exact Ew step (M (i+1) m l (by omega) (λ_=>by simpa using f))
 exact(loop r 0 0 rfl (XT _) (by omega)).ev
theorem QiS(c:Course)(w:CourseOk c)(q:NumOk c)(d:Distance)(a:d∈c.Distances)(B:∀x∈d.Route,Part.wf x)(F:szPs d.Route<=256):
  Ev (λn=>F_de n c d) (routeS c d):=by
 have m:=QaH d.Route;have p:=Qm7 q a;have l:=QfO _ d.Route [] (XS _);unfold F_de routeS;refine Ea (QhI _ _ d.Route (XS _) F (by omega) B (q.dist d a).2.2) ?_;generalize expS [] d.Route=r at p l⊢;unfold routeR;have H:(decide ((r.length:Int)<2)||decide (256<(r.length:Int)))= !(decide (2<=r.length)&&decide (r.length<=256)):=by
  rw[XW];simp;omega
 refine Ea (Eu (Et λ_=>Qa _) H) ?_;cases h:(decide (2<=r.length)&&decide (r.length<=256))with
 |false=>exact Qa _
 |true=>
  simp only[XV,Vn]at h;refine Q1 (Ea (QfT c w q r h.1 h.2 p) ?_);cases rokS c r.length 0 0 r with
  |false=>exact Qa _
  |true=>
   have t:Ev (λn:Nat=>(bif (d.Extra != (-1))then(idx c.Mats d.Extra).bind λg=>(bif (g.Kind != 2)then some true else(F_bk n r d.Extra).bind λe=>(bif (e==0)then some true else(F_bf n c d.Extra d.Extra).bind λf=>some (decide (f<0))))else some false))
     (!(bif decide (0<=d.Extra)then !((r.count d.Extra:Int)==0)&&((kindAt c d.Extra==2)&&hasLeg c d.Extra d.Extra)else true)):=by
    have k:=q.dist d a;have u:(d.Extra != (-1))=decide (0<=d.Extra):=by rw[XW];simp;omega
    rw[u];cases G:decide (0<=d.Extra)with
    |false=>exact Qa _
    |true=>
     obtain⟨x,z,y⟩:=Qdf (by simpa using G) k.2.1;obtain⟨v,E,s⟩:=Qnf c w d.Extra d.Extra;simp only[XI,z,y];refine Eu (Et λ_=>Ea (QiW r _ (by omega)) (Et λ_=>Ea E (Qa _))) ?_;rw[bne,s];cases((r.count d.Extra:Int)==0)<;>cases(kindAt c d.Extra==2)<;>cases hasLeg c d.Extra d.Extra<;>rfl
   refine Ea t ?_;cases(bif decide (0<=d.Extra)then !((r.count d.Extra:Int)==0)&&((kindAt c d.Extra==2)&&hasLeg c d.Extra d.Extra)else true)with
   |false=>exact Qa _
   |true=>
    refine Q1 (Ea (YW d.Cutoffs (λx=>decide (x.Lap<=r.count x.Mat)) (Ctl.done false) (Ctl.cont ()) (by have:=w.cut d a;omega) (λi x j=>?_) ?_) ?_)
    .unfold F_kb;simp only[j.lt,j.ix,XI,j.nx];refine Ea (QiW r _ (by omega)) ?_;have:decide (r.count x.Mat<x.Lap)= !decide (x.Lap<=r.count x.Mat):=by rw[XW];simp
     rw[this];cases decide (x.Lap<=r.count x.Mat)<;>exact Qa _
    .unfold F_kb;simp only[Jl];exact Qa _
    .cases(d.Cutoffs.all λx=>decide (x.Lap<=r.count x.Mat))<;>exact Qa _
theorem Qd6{a b:Nat}(h:a+b<=4611686018427387904):i64.wrap ((a:Int)+(b:Int))=((a+b:Nat):Int):=by
 rw[Qn (by omega) (by omega)];omega
def lensC(c:Course):Nat:=c.Mats.length+c.Legs.length+c.Distances.length+c.Waves.length+c.Offences.length+c.Categories.length+c.Prizes.length
def fewD(d:Distance):Prop:=d.Cutoffs.length<=200/\szPs d.Route<=200/\hPs d.Route<=16
structure FewOk (c:Course):Prop where
 lens:lensC c<=200
 name:c.Name.length<=100
 dist:∀d∈c.Distances,fewD d
 ties:c.Ties.length<=200
theorem QhO(c:Course)(w:CourseOk c)(q:PartsOk c)(R:c.Ties.length<=1048576)(Q:∀x∈c.Ties,Step.wf x):∃b,Ev (λn=>F_dy n c) b/\(b=true->FewOk c):=by
 have hm:=w.mats;have hg:=w.legs;have hd:=w.dist;have J:=w.wave;have ho:=w.off;have hc:=w.cat;have hp:=w.prize;have loop:∀(t:List Distance) (i s:Nat),c.Distances.drop i=t->i<=c.Distances.length->∃f:Ctl Int Bool,EvI (λn=>F_ct n c) ((s:Int),(i:Int)) f/\(f=.done false\/ ∃v:Nat,f=.cont (v:Int)/\(v<=200->s<=v/\ ∀d∈t,fewD d)):=by
  intro t
  induction t with
  |nil=>
   intro i s r G;refine⟨.cont (s:Int),Ei ?_,Or.inr ⟨s,rfl,λ_=>⟨XS _,by simp⟩⟩⟩;unfold F_ct;simp only[QM r G,Vm,XI];exact Qa _
  |cons d t T=>
   intro i s r G;obtain⟨j,z⟩:=Qw (by omega) r;have L:=j.lt';by_cases hs:s<=200
   .have g:=q.len d j.mem;have l:=q.wf d j.mem;have F:=w.cut d j.mem;have E:=Qen _ d.Route (XS _) g l;have H:=Qem _ d.Route 17 (XS _) (XS _) g l;have O:i64.wrap ((s:Int)+(d.Cutoffs.length:Int))=((s+d.Cutoffs.length:Nat):Int):=Qd6 (by omega);have X:i64.wrap (((s+d.Cutoffs.length:Nat):Int)+((min (szPs d.Route) 257:Nat):Int))=((s+d.Cutoffs.length+min (szPs d.Route) 257:Nat):Int):=Qd6 (by omega);have step:Ev (λn=>F_ct n c ((s:Int),(i:Int))) (bif decide ((16:Int)<((min (hPs d.Route) 17:Nat):Int))then .done (.done false)else .cont (((s+d.Cutoffs.length+min (szPs d.Route) 257:Nat):Int),((i+1:Nat):Int))):=by
     unfold F_ct;simp only[j.lt,Vl,j.ix,XI,j.nx,QX (show(s:Int)<=200 by omega)];refine Ea E (Ea H ?_);rw[O,X];cases decide ((16:Int)<((min (hPs d.Route) 17:Nat):Int))<;>exact Qa _
    by_cases hh:hPs d.Route<=16
    .rw[QW (show¬(16:Int)<((min (hPs d.Route) 17:Nat):Int)by omega)]at step;obtain⟨f,p,k⟩:=T (i+1) (s+d.Cutoffs.length+min (szPs d.Route) 257) z (by omega);refine⟨f,Ew step p,?_⟩;rcases k with k|⟨v,k,u⟩
     .exact Or.inl k
     .refine Or.inr ⟨v,k,λJ=>?_⟩;obtain⟨Y,B⟩:=u J;refine⟨by omega,λx y=>?_⟩;rcases X4.1 y with rfl|y
      .exact⟨by omega,by omega,hh⟩
      .exact B x y
    .rw[QX (show(16:Int)<((min (hPs d.Route) 17:Nat):Int)by omega)]at step;exact⟨.done false,Ei step,Or.inl rfl⟩
   .refine⟨.cont (s:Int),Ei ?_,Or.inr ⟨s,rfl,λh=>absurd h hs⟩⟩;unfold F_ct;simp only[j.lt,Vl,QW (show¬(s:Int)<=200 by omega),XI,Vm];exact Qa _
 obtain⟨f,p,k⟩:=loop c.Distances 0 (lensC c) rfl (XT _);have e:i64.wrap ((i64.wrap ((i64.wrap ((i64.wrap ((i64.wrap ((i64.wrap ((c.Mats.length:Int)+(c.Legs.length:Int)))+(c.Distances.length:Int)))+(c.Waves.length:Int)))+(c.Offences.length:Int)))+(c.Categories.length:Int)))+(c.Prizes.length:Int))=(lensC c:Int):=by
  have V:c.Mats.length+c.Legs.length<=4611686018427387904:=by omega
  have W:c.Mats.length+c.Legs.length+c.Distances.length<=4611686018427387904:=by omega
  have P:c.Mats.length+c.Legs.length+c.Distances.length+c.Waves.length<=4611686018427387904:=by omega
  have N:c.Mats.length+c.Legs.length+c.Distances.length+c.Waves.length+c.Offences.length<=4611686018427387904:=by omega
  have M:c.Mats.length+c.Legs.length+c.Distances.length+c.Waves.length+c.Offences.length+c.Categories.length<=4611686018427387904:=by omega
  have h6:c.Mats.length+c.Legs.length+c.Distances.length+c.Waves.length+c.Offences.length+c.Categories.length+c.Prizes.length<=4611686018427387904:=by omega
  rw[Qd6 V,Qd6 W,Qd6 P,Qd6 N,Qd6 M,Qd6 h6];rfl
 unfold F_dy;rw[e];rcases k with rfl|⟨v,rfl,u⟩
 .exact⟨false,Ea p.ev (Qa _),λh=>by cases h⟩
 .obtain⟨a,b,E,H,p3,_,_,_,_⟩:=QkQ _ c.Ties 0 (XS _) (by omega) R Q;have m:Ev (λn=>F_cy n c.Ties) (decide ((c.Ties.length:Int)<=20)&&(decide (a<=80)&&decide (b<=300))):=by
   unfold F_cy;exact Ea E (Ea (Eh λ_=>Eh λ_=>Qa _) (Qa _))
  refine⟨decide ((v:Int)<=200)&&(decide ((c.Name.length:Int)<=100)&&(decide ((c.Ties.length:Int)<=20)&&(decide (a<=80)&&decide (b<=300)))),Ea p.ev (Ea (Eh λ_=>Eh λ_=>Ea m (Qa _)) (Qa _)),λh=>?_⟩;simp only[XV,Vn]at h;obtain⟨Y,B⟩:=u (by omega);exact⟨by omega,by omega,B,by omega⟩
def fitsS(c:Course):Bool:=
 !(decide (40<(c.Mats.length:Int))||(decide (512<(c.Legs.length:Int))||(decide (8<(c.Distances.length:Int))||(decide (32<(c.Waves.length:Int))||(decide (32<(c.Offences.length:Int))||(decide (32<(c.Categories.length:Int))||decide (32<(c.Prizes.length:Int))))))))
  &&c.Distances.all λd=> !decide (64<(d.Cutoffs.length:Int))
theorem QoB(c:Course)(w:CourseOk c)(q:PartsOk c)(k:FewOk c):Ev (λn=>F_ec n c) (fitsS c):=by
 unfold F_ec fitsS;refine Ea (Et λ_=>Et λ_=>Et λ_=>Et λ_=>Et λ_=>Et λ_=>Qa _) ?_;cases(decide (40<(c.Mats.length:Int))||(decide (512<(c.Legs.length:Int))||(decide (8<(c.Distances.length:Int))||(decide (32<(c.Waves.length:Int))||(decide (32<(c.Offences.length:Int))||(decide (32<(c.Categories.length:Int))||decide (32<(c.Prizes.length:Int))))))))with
 |true=>exact Qa _
 |false=>
  refine Q1 (Ea (YW c.Distances (λd=> !decide (64<(d.Cutoffs.length:Int))) (Ctl.done false) (Ctl.cont ()) (by have:=w.dist;omega) (λi x a=>?_) ?_) ?_)
  .obtain⟨e,f,g⟩:=k.dist x a.mem;unfold F_kh;simp only[a.lt,a.ix,XI,a.nx];refine Ea (Qnb _ x.Route 17 (XS _) (by omega) (XS _) (by omega) (q.wf x a.mem)) ?_;simp[QW (show¬16<(hPs x.Route:Int)by omega),QW (show¬(256:Int)<szPs x.Route by omega)];cases decide (64<(x.Cutoffs.length:Int))<;>exact Qa _
  .unfold F_kh;simp[Jl];exact Qa _
  .cases(c.Distances.all λd=> !decide (64<(d.Cutoffs.length:Int)))<;>exact Qa _
theorem QlE(c:Course)(w:CourseOk c)(q:PartsOk c)(k:FewOk c):Ev (λn=>F_cu n c) (fitsS c):=by
 unfold F_cu fitsS;refine Ea (Et λ_=>Et λ_=>Et λ_=>Et λ_=>Et λ_=>Et λ_=>Qa _) ?_;cases(decide (40<(c.Mats.length:Int))||(decide (512<(c.Legs.length:Int))||(decide (8<(c.Distances.length:Int))||(decide (32<(c.Waves.length:Int))||(decide (32<(c.Offences.length:Int))||(decide (32<(c.Categories.length:Int))||decide (32<(c.Prizes.length:Int))))))))with
 |true=>exact Qa _
 |false=>
  refine Q1 (Ea (YW c.Distances (λd=> !decide (64<(d.Cutoffs.length:Int))) (Ctl.done false) (Ctl.cont ()) (by have:=w.dist;omega) (λi x e=>?_) ?_) ?_)
  .obtain⟨h,j,g⟩:=k.dist x e.mem;have a:=q.len x e.mem;have f:=q.wf x e.mem;unfold F_kg;simp only[e.lt,e.ix,XI,e.nx];refine Ea (Et λ_=>Ea (Qem _ x.Route 17 (XS _) (XS _) a f) (Et λ_=>Ea (Qen _ x.Route (XS _) a f) (Qa _))) ?_;simp[QW (show¬16<((min (hPs x.Route) 17:Nat):Int)by omega),QW (show¬256<((min (szPs x.Route) 257:Nat):Int)by omega)];cases decide (64<(x.Cutoffs.length:Int))<;>exact Qa _
  .unfold F_kg;simp[Jl];exact Qa _
  .cases(c.Distances.all λd=> !decide (64<(d.Cutoffs.length:Int)))<;>exact Qa _
def courseE(c:Course):Int:=
 bif fitsS c then bif namesS c then bif numbersS c then bif tiesE c.Ties==0 then bif c.Distances.all (routeS c)then 0 else 72 else tiesE c.Ties else 71 else 70 else 2
theorem QlG(c:Course)(w:CourseOk c)(q:PartsOk c)(k:FewOk c)(f:c.Ties.length<=1048576)(e:∀x∈c.Ties,Step.wf x):Ev (λn=>F_x n c) (courseE c):=by
 unfold F_x courseE;refine Ea (QoB c w q k) ?_;cases fitsS c with
 |false=>exact Qa _
 |true=>
 refine Q1 (Ea (Qm9 c w) ?_);cases namesS c with
 |false=>exact Qa _
 |true=>
 refine Q1 (Ea (QjS c w q) ?_);cases h:numbersS c with
 |false=>exact Qa _
 |true=>
 refine Q1 (Ea (QoD c.Ties f e) ?_);rw[bne];cases(tiesE c.Ties==0)with
 |false=>exact Qa _
 |true=>
 have g:Ev (λn=>iter (F_it n c) n ([],0)) (Yw legKey true c.Legs):=by
  refine QbF c.Legs legKey true (by have:=w.legs;omega) (λi x m a=>?_) (λm=>?_)
  .unfold F_it;simp only[a.lt,a.ix,a.nx];exact Qa _
  .unfold F_it;simp[Jl];exact Qa _
 refine Q1 (Ea g ?_);have a:Ev (λn=>F_ff n c.Distances c (Yw legKey true c.Legs)) (c.Distances.all (routeS c)):=by
  refine Jr c.Distances _ (λn x=>F_gh n x c (Yw legKey true c.Legs)) (by have:=w.dist;omega) λx d=>?_;exact Ea (QjT c w (Qjg h) x d (q.wf x d) (by have:=(k.dist x d).2.1;omega)) (Qa _)
 refine Ea a ?_;cases c.Distances.all (routeS c)<;>exact Qa _
theorem QhL(c:Course)(w:CourseOk c)(q:PartsOk c)(k:FewOk c)(g:c.Ties.length<=1048576)(f:∀x∈c.Ties,Step.wf x):Ev (λn=>F_bl n c) (courseE c):=by
 have a:=k.lens;unfold lensC at a;have e:Short c:=⟨by omega,by omega,by omega,by omega,by omega⟩;unfold F_bl courseE;refine Ea (QlE c w q k) ?_;cases fitsS c with
 |false=>exact Qa _
 |true=>
 refine Q1 (Ea (QiU c w e) ?_);cases namesS c with
 |false=>exact Qa _
 |true=>
 refine Q1 (Ea (QhG c w q) ?_);cases h:numbersS c with
 |false=>exact Qa _
 |true=>
 refine Q1 (Ea (QjN c.Ties g f) ?_);rw[bne];cases(tiesE c.Ties==0)with
 |false=>exact Qa _
 |true=>
 refine Q1 (Ea (YW c.Distances (routeS c) (Ctl.done 72) (Ctl.cont ()) (by omega) (λi x d=>?_) ?_) ?_)
 .unfold F_kk;simp only[d.lt,d.ix,XI,d.nx];refine Ea (QiS c w (Qjg h) x d.mem (q.wf x d.mem) (by have:=(k.dist x d.mem).2.1;omega)) ?_;cases routeS c x<;>exact Qa _
 .unfold F_kk;simp[Jl];exact Qa _
 .cases c.Distances.all (routeS c)<;>exact Qa _
theorem Qkr{α:Type}(l:List α){a b:Nat}(h:a<=b)(d:b<=l.length):slc l (a:Int) (b:Int)=some ((l.take b).drop a):=by
 unfold slc;rw[QX (show 0<=(a:Int)by omega),QX (show a<=(b:Int)by omega),QX (show b<=(l.length:Int)by omega)];simp
theorem Qfd{α:Type}(l:List α){b:Nat}(a:b<=l.length):slc l 0 (b:Int)=some (l.take b):=by
 have:=Qkr l (XT b) a;simpa using this
theorem Qc2{α:Type}(l:List α){a:Nat}(d:a<=l.length):slc l (a:Int) (l.length:Int)=some (l.drop a):=by
 have:=Qkr l d (XS _);simpa using this
theorem Qbx{α:Type}(l m:List α)(h:l.length+m.length<=4294967296):app l m=some (l++m):=by
 unfold app;rw[XR (by exact h)];rfl
theorem Qff{α:Type}(l:List α){i:Nat}(x:α)(h:i<l.length):Qbo l (i:Int) x=some (l.set i x):=by
 unfold Qbo;rw[QX (show(0:Int)<=i by omega),QX (show i<(l.length:Int)by omega)];simp
def firstI{α:Type}(q:α->Bool):List α->Nat->Int
 |[],_=> -1
 |x::l,i=>bif q x then(i:Int)else firstI q l (i+1)
theorem Ev.first{α:Type}{step:Nat->Int->Option (Ctl Int (Ctl Unit Int))}(l:List α)(q:α->Bool)(m:l.length<=4611686018427387904)
  (t:∀i x,At l i x->Ev (λn=>step n (i:Int)) (bif q x then .done (.done (i:Int))else .cont ((i+1:Nat):Int)))(k:Ev (λn=>step n (l.length:Int)) (.done (.cont ()))):
  Ev (λn=>(Go.Sw.iter (step n) n 0).bind λb=>match b with|.cont _=>some (-1)|.done v=>some v) (firstI q l 0):=by
 have loop:∀(r:List α) (i:Nat),l.drop i=r->i<=l.length->∃a:Ctl Unit Int,EvI step i a/\(match a with|.cont _=>some (-1)|.done v=>some v)=some (firstI q r i):=by
  intro r
  induction r with
  |nil=>
   intro i f u;have:i=l.length:=by have:=Xq.1 f;omega
   subst this;exact⟨.cont (),Ei k,rfl⟩
  |cons x r p=>
   intro i f u;obtain⟨j,g⟩:=Qw m f;have s:=t i x j;unfold firstI;cases h:q x with
   |true=>
    rw[h]at s;exact⟨_,Ei s,rfl⟩
   |false=>
    rw[h]at s;obtain⟨a,e,d⟩:=p (i+1) g (by have:=j.lt';omega);exact⟨a,Ew s e,d⟩
 obtain⟨a,e,d⟩:=loop l 0 rfl (XT _);exact Ea e.ev (Ez d)
theorem Qej{α:Type}(q:α->Bool):∀(l:List α) (i:Nat),(firstI q l i= -1/\l.all (λx=> !q x)=true)\/ ∃j x,firstI q l i=((i+j:Nat):Int)/\l[j]?=some x/\q x=true/\(l.take j).all (λx=> !q x)=true
 |[],_=>.inl ⟨rfl,rfl⟩
 |x::l,i=>by
  unfold firstI;cases h:q x with
  |true=>exact .inr ⟨0,x,rfl,rfl,h,rfl⟩
  |false=>
   rcases Qej q l (i+1)with⟨h1,h2⟩|⟨j,y,h1,h2,h3,h4⟩
   .exact .inl ⟨h1,by simp[h,h2]⟩
   .refine .inr ⟨j+1,y,by rw[Vm,h1];omega,h2,h3,by simp[h,h4]⟩
theorem QfE{α:Type}{p:α->Bool}{l:List α}(h:l.all p=true):l.filter p=l:=List.filter_eq_self.2 (Xt.1 h)
theorem Qmc{α:Type}{first:Nat->Option Int}{step:Nat->List α×Int×Int->Option (Ctl (List α×Int×Int) (List α×Int))}(a:List α)(q:α->Bool)(hl:a.length<=1048576)
  (T:Ev first (firstI q a 0))
  (X:∀(l:List α) (i j:Nat) x y,l.length<=1048576->At l j x->l[i]?=some y->x∈a->i<=j->Ev (λn=>step n (l,(i:Int),(j:Int))) (.cont (bif q x then l else l.set i x,(bif q x then(i:Int)else((i+1:Nat):Int)),((j+1:Nat):Int))))
  (Q:∀(l:List α) (i:Int),Ev (λn=>step n (l,i,(l.length:Int))) (.done (l,i))):
  Ev (λn=>(first n).bind λr1=>bif r1== -1 then some a else(Go.Sw.iter (step n) n (a,r1,i64.wrap (r1+1))).bind λb=>(slc b.1 0 b.2).bind λx=>some x) (a.filter λx=> !q x):=by
 refine Ea T ?_;rcases Qej q a 0 with⟨F,H⟩|⟨t,V,F,H,R,P⟩
 .rw[F,QfE H];exact Qa _
 .have Y:=(XK.1 H).1;rw[Xv]at F;rw[F];have e0:(((t:Nat):Int)== -1)=false:=by simp
  rw[e0,Q2 (by omega)];have loop:∀(r l:List α) (i j:Nat),a.drop j=r->j<=a.length->i<j->l.length=a.length->l.drop j=a.drop j->l.take i=(a.take j).filter (λx=> !q x)->∃g:List α,∃k:Nat,EvI step (l,(i:Int),(j:Int)) (g,(k:Int))/\k<=g.length/\g.take k=a.filter λx=> !q x:=by
   intro r
   induction r with
   |nil=>
    intro l i j G W J d z f;have:j=l.length:=by have:=Xq.1 G;omega
    subst this;refine⟨l,i,Ei (Q l _),by omega,?_⟩;rw[f,d,X7]
   |cons x r M=>
    intro l i j G W J d z f;have L:l.drop j=x::r:=by rw[z,G]
    obtain⟨N,w⟩:=Qw (by omega) L;obtain⟨m,e⟩:=Qw (by omega) G;have O:=N.lt';have s:=X l i j x l[i] (by omega) N (XJ (by omega)) m.mem (by omega);cases h:q x with
    |true=>
     rw[h]at s;obtain⟨g,k,E,u,p⟩:=M l i (j+1) e (by omega) (by omega) d (by rw[w,e]) (by rw[m.take,List.filter_append,f];simp[h]);exact⟨g,k,Ew s E,u,p⟩
    |false=>
     rw[h]at s;obtain⟨g,k,E,u,p⟩:=M (l.set i x) (i+1) (j+1) e (by omega) (by omega) (by simpa using d) (by rw[List.drop_set_of_lt (by omega),w,e])
      (by
       rw[m.take,List.filter_append, <- f];have:i<(l.set i x).length:=by simp;omega
       rw[List.take_add_one,XJ this];simp[h,List.take_set_of_le])
     exact⟨g,k,Ew s E,u,p⟩
  have B:a.take (t+1)=a.take t++[V]:=by rw[List.take_add_one,H];rfl
  obtain⟨g,k,E,u,p⟩:=loop _ a t (t+1) rfl (by omega) (by omega) rfl rfl (by rw[B,List.filter_append,QfE P];simp[R]);refine Q1 (Ea E.ev ?_);rw[<- p];exact Ez (by simp[Qfd g u])
theorem QaN{ι α:Type}{F:Nat->ι->Option α}{V:ι->α}:∀(L:List ι),(∀p∈L,Ev (λn=>F n p) (V p))->∃N,∀n,N<=n->∀p∈L,F n p=some (V p)
 |[],_=>⟨0,λ_ _ p hp=>by cases hp⟩
 |x::L,h=>by
  obtain⟨N,hN⟩:=QaN L λp hp=>h p (by simp[hp]);obtain⟨M,hM⟩:=h x (by simp);refine⟨N+M,λn hn p hp=>?_⟩;rcases X4.1 hp with rfl|hp
  .exact hM n (by omega)
  .exact hN n (by omega) p hp
theorem Ev.anyP{E R:Type}[DecidableEq R]{k:Nat->List E->Option R}{l:List E}{r:R}(h:∀p,p.Perm l->Ev (λn=>k n p) r):Ev (λn=>Go.Sw.anyP (k n) l) r:=by
 obtain⟨N,d⟩:=QaN (QbV l) λp a=>h p (QcO l p a);exact⟨N,λn e=>QoI λp a=>d n e p (QdJ l p a)⟩
theorem Ev.isNil{α R:Type}[DecidableEq R]{l:List α}{x y:Nat->Option R}{v:R}(f:l=[]->Ev x v)(a:Ev y v):Ev (λn=>Go.Sw.isNil l (x n) (y n)) v:=by
 unfold Go.Sw.isNil;cases q:l.isEmpty with
 |false=>exact a
 |true=>
  obtain⟨N,d⟩:=f (List.isEmpty_iff.1 q);obtain⟨M,e⟩:=a;exact⟨N+M,λn g=>by dsimp only;rw[d n (by omega),e n (by omega)];simp⟩
set_option maxRecDepth 4000
def openU(f:Fact):U_facts_open_rxk:=
 bif f.Kind==1 then .c0 ()else bif f.Kind==2 then .c1 ()else bif f.Kind==3 then .c2 ()else bif f.Kind==4 then .c3 ()else bif f.Kind==5 then .c4 ()else bif f.Kind==6 then .c5 ()
 else bif f.Kind==7 then .c6 ()else bif f.Kind==8 then .c7 ()else bif f.Kind==9 then .c8 ()else bif f.Kind==10 then
  (bif (f.Ruling.Kind==1)||(f.Ruling.Kind==2)then .c9 (0,0,0,0,0,0)else bif f.Ruling.Kind==3 then .c9 (1,9999,0,255,1,1099511627776)else bif f.Ruling.Kind==4 then .c9 (1,9999,0,255,1,64)else .c9 (1,9999,0,255,0,0))
 else bif f.Kind==11 then .c10 ()else bif f.Kind==12 then .c11 ()else bif f.Kind==13 then .c12 ()else .c13 ()
theorem Qkv(n:Nat)(f:Fact)(b:Int):F_bo n f b=some (openU f):=by
 unfold F_bo openU;cases(f.Kind==1)with
 |true=>rfl
 |false=>
 cases(f.Kind==2)with
 |true=>rfl
 |false=>
 cases(f.Kind==3)with
 |true=>rfl
 |false=>
 cases(f.Kind==4)with
 |true=>rfl
 |false=>
 cases(f.Kind==5)with
 |true=>rfl
 |false=>
 cases(f.Kind==6)with
 |true=>rfl
 |false=>
 cases(f.Kind==7)with
 |true=>rfl
 |false=>
 cases(f.Kind==8)with
 |true=>rfl
 |false=>
 cases(f.Kind==9)with
 |true=>rfl
 |false=>
 cases(f.Kind==10)with
 |true=>
  cases(f.Ruling.Kind==1)with
  |true=>rfl
  |false=>
  cases(f.Ruling.Kind==2)with
  |true=>rfl
  |false=>
  cases(f.Ruling.Kind==3)with
  |true=>rfl
  |false=>
  cases(f.Ruling.Kind==4)with
  |true=>rfl
  |false=>rfl
 |false=>
 cases(f.Kind==11)with
 |true=>rfl
 |false=>
 cases(f.Kind==12)with
 |true=>rfl
 |false=>
 cases(f.Kind==13)with
 |true=>rfl
 |false=>rfl
def headL:List Ent:=[⟨false,3,1,13⟩,⟨false,0,0,31⟩,⟨false,1,1,1048576⟩,⟨false,2,0,1099511627776⟩]
def bodyL:U_facts_open_rxk->List Ent
 |.c0 _=>[⟨false,4,1,9999⟩,⟨false,5,0,7⟩,⟨false,6,0,31⟩,⟨false,7,(-1099511627776),1099511627776⟩,⟨false,8,0,120⟩,⟨false,9,0,1048576⟩,⟨false,10,0,9999⟩,⟨false,11,0,1048576⟩]
 |.c1 _=>[⟨false,12,0,39⟩,⟨false,13,0,255⟩,⟨false,14,0,1048576⟩,⟨false,15,(-1099511627776),1099511627776⟩]
 |.c2 _=>[⟨false,16,0,39⟩,⟨false,17,0,255⟩,⟨false,18,(-1099511627776),1099511627776⟩,⟨false,19,(-1099511627776),1099511627776⟩,⟨false,20,0,1099511627776⟩]
 |.c3 _=>[⟨false,21,0,39⟩,⟨false,22,0,255⟩,⟨false,23,(-1099511627776),1099511627776⟩,⟨false,24,0,39⟩,⟨false,25,0,255⟩,⟨false,26,(-1099511627776),1099511627776⟩,⟨false,27,(-1099511627776),1099511627776⟩,⟨false,28,(-1099511627776),1099511627776⟩]
 |.c4 _=>[⟨false,29,1,9999⟩,⟨false,30,0,255⟩,⟨false,31,(-1099511627776),1099511627776⟩,⟨false,32,(-1099511627776),1099511627776⟩]
 |.c5 _=>[⟨false,33,0,39⟩,⟨false,34,0,255⟩,⟨false,35,(-1099511627776),1099511627776⟩,⟨false,36,(-1099511627776),1099511627776⟩]
 |.c6 _=>[⟨false,37,1,9999⟩,⟨false,38,1,9999⟩]
 |.c7 _=>[⟨false,39,1,1048576⟩,⟨false,40,1,9999⟩,⟨false,41,0,31⟩,⟨false,42,0,255⟩]
 |.c8 _=>[⟨false,43,1,1048576⟩,⟨false,44,0,9999⟩,⟨false,45,0,1125899906842624⟩,⟨false,46,0,1⟩]
 |.c9 x=>[⟨false,47,1,1048576⟩,⟨false,48,1,2⟩,⟨false,49,1,5⟩,⟨false,50,x.1,x.2.1⟩,⟨false,51,x.2.2.1,x.2.2.2.1⟩,⟨false,52,x.2.2.2.2.1,x.2.2.2.2.2⟩]
 |.c10 _=>[⟨false,53,1,1048576⟩,⟨true,0,0,1⟩]
 |.c11 _=>[]
 |.c12 _=>[⟨false,55,0,31⟩,⟨false,56,1,1048576⟩]
 |.c13 _=>[]
def fineU(f:Fact):U_facts_open_rxk->Bool
 |.c3 _=>decide (f.Sync.Min<=f.Sync.Max)
 |.c4 _=>decide (f.Hand.Lo<=f.Hand.Hi)
 |.c5 _=>decide (f.Silence.Lo<=f.Silence.Hi)
 |.c6 _=>decide (f.Pair.A<f.Pair.B)
 |.c13 _=>false
 |_=>true
def entsS(f:Fact):List Ent:=headL++bodyL (openU f)
def goodE(e:Ent):Bool:=bif e.fl then e.off==0 else decide (e.off<57)&& !(e.off==54)
theorem QlI(f:Fact):∀e∈entsS f,goodE e=true:=by
 have h:∀u,(headL++bodyL u).all goodE=true:=by intro u;cases u<;>rfl
 exact Xt.1 (h (openU f))
theorem Qf0(f:Fact):(entsS f).length<=12:=by
 have h:∀u,(headL++bodyL u).length<=12:=by intro u;cases u<;>exact XQ rfl
 exact h (openU f)
def isI:Option A->Bool
 |some (.int .i64 _)=>true
 |_=>false
theorem Qpu{x:Option A}(h:isI x=true):∃v,x=some (.int .i64 v):=by
 unfold isI at h;split at h
 .exact⟨_,rfl⟩
 .cases h
theorem QmW{f:Fact}{b:Int}{e:Ent}(h:goodE e=true):∃v,Qgp (Fact.c f) b e=some v:=by
 unfold goodE at h;unfold Qgp;cases a:e.fl with
 |true=>
  rw[a]at h;simp[Vl]at h⊢;rw[h];exact⟨b,rfl⟩
 |false=>
  rw[a]at h;simp only[Vm,XV,Vn,Bool.not_eq_true']at h⊢;have all:(List.range 57).all (λo=>(o==54)||isI (Fact.c f)[o]?)=true:=by rfl
  have:=Xt.1 all e.off (List.mem_range.2 h.1);rw[h.2,Bool.false_or]at this;obtain⟨v,d⟩:=Qpu this;rw[d];exact⟨v,rfl⟩
theorem Qmx{x:Fact}{s v:Int}{e:Ent}(h:goodE e=true):∃q,QjC Fact.put x s e v=some q:=by
 unfold goodE at h;unfold QjC;cases a:e.fl with
 |true=>
  rw[a]at h;simp only[Vl]at h⊢;rw[h];exact⟨_,rfl⟩
 |false=>
  rw[a]at h;simp only[Vm,XV,Vn,Bool.not_eq_true']at h⊢;have all:(List.range 57).all (λo=>(o==54)||(Fact.put x o v).isSome)=true:=by rfl
  have:=Xt.1 all e.off (List.mem_range.2 h.1);rw[h.2,Bool.false_or]at this;obtain⟨y,d⟩:=Option.isSome_iff_exists.1 this;rw[d];exact⟨_,rfl⟩
def getV(f:Fact)(b:Int)(e:Ent):Int:=(Qgp (Fact.c f) b e).getD 0
def putV(x:Fact)(s:Int)(e:Ent)(v:Int):Fact×Int:=(QjC Fact.put x s e v).getD (x,s)
theorem QmX{f:Fact}{b:Int}{e:Ent}(h:goodE e=true):Qgp (Fact.c f) b e=some (getV f b e):=by
 obtain⟨v,a⟩:=QmW h;unfold getV;rw[a];rfl
theorem Qpg{x:Fact}{s v:Int}{e:Ent}(h:goodE e=true):QjC Fact.put x s e v=some (putV x s e v):=by
 obtain⟨q,a⟩:=Qmx h;unfold putV;rw[a];rfl
def inE(f:Fact)(b:Int)(e:Ent):Bool:= !(decide (getV f b e<e.lo))&& !(decide (e.hi<getV f b e))
def numR(f:Fact)(b:Int):List Ent->List Int×Fact×Int->Ctl (List Int×Fact×Int) (List Int×Bool)
 |[],a=>.cont a
 |e::r,a=>bif inE f b e then numR f b r (a.1++[getV f b e],putV a.2.1 a.2.2 e (getV f b e))else .done ([],false)
theorem Qcp{α:Type}(l m:List α)(h:l.length+m.length<=1000):app l m=some (l++m):=by
 unfold app;have:Nat.ble (l.length+m.length) Yn=true:=XR (XU h (by decide));rw[this];rfl
theorem Qoh(f:Fact)(b:Int)(E:List Ent)(hE:∀e∈E,goodE e=true)(u:E.length<=12):∀(r:List Ent) (i:Nat) (a:List Int×Fact×Int),E.drop i=r->i<=E.length->a.1.length=i->
  EvI (λn=>F_fk n f b E E) (a.1,a.2.1,a.2.2,(i:Int)) (numR f b r a):=by
 intro r
 induction r with
 |nil=>
  intro i a l p g;refine Ei ?_;unfold F_fk;simp only[QM l p];exact Qa _
 |cons e r s=>
  intro i a l p k;obtain⟨g,m⟩:=Qw (by omega) l;have j:=hE e g.mem;have q:=g.lt';unfold numR;cases d:inE f b e with
  |true=>
   have h:=d;unfold inE at h;simp only[XV,Bool.not_eq_true']at h;refine Ew ?_ (s (i+1) (a.1++[getV f b e],putV a.2.1 a.2.2 e (getV f b e)) m (by omega) (by simp[k]));unfold F_fk;simp only[g.lt,g.ix,XI,g.nx,QmX j,h.1,h.2,Qpg j];rw[Qcp a.1 [getV f b e] (by simp;omega)];exact Qa _
  |false=>
   refine Ei ?_;unfold F_fk;simp only[g.lt,g.ix,XI,QmX j];unfold inE at d;cases t:decide (getV f b e<e.lo)with
   |true=>exact Qa _
   |false=>
    rw[t]at d;simp[Xi,Vx,Bool.not_eq_false']at d;simp[d];exact Qa _
def suspB(f:Fact):Int:=bif f.Appeal.Suspends then 1 else 0
def restS(f:Fact):Fact:={Ul with Ruling:={Ur with Kind:=f.Ruling.Kind:Ruling},Kind:=f.Kind:Fact}
def lastF(f x:Fact)(s:Int):Fact:=
 let y:Fact:=bif f.Kind != 10 then {x with Ruling:={x.Ruling with Kind:=0:Ruling}:Fact}else x
 {y with Appeal:={Case:=y.Appeal.Case,Suspends:=s==1:Appeal}:Fact}
def numF(f:Fact):List Int×Bool:=bif fineU f (openU f)then(match numR f (suspB f) (entsS f) ([],restS f,0)with
  |.cont a=>(a.1,lastF f a.2.1 a.2.2==f)
  |.done r=>r)else([],false)
theorem QlL(n:Nat)(f:Fact):F_ds n ({Ul with Ruling:={Ur with Kind:=f.Ruling.Kind:Ruling}:Fact}) 0 f=some (entsS f):=by
 have a:openU ({({Ul with Ruling:={Ur with Kind:=f.Ruling.Kind:Ruling}:Fact})with Kind:=f.Kind:Fact})=openU f:=rfl;unfold F_ds entsS;rw[Qkv];rw[a];unfold F_bs;generalize openU f=u;cases u<;>(simp only[XI];exact congrArg (Option.bind · _) (Qcp _ _ (by simp)))
theorem QkR(f:Fact):Ev (λn=>F_bv n f) (numF f):=by
 refine Ea (v:=suspB f) ?_ ?_
 .unfold suspB;cases f.Appeal.Suspends<;>exact Qa _
 refine Ea (v:=bif fineU f (openU f)then .cont (bodyL (openU f))else .done ([],false)) ?_ ?_
 .simp[Qkv];generalize openU f=u;cases u with
  |c3=>unfold fineU;cases decide (f.Sync.Min<=f.Sync.Max)<;>exact Qa _
  |c4=>unfold fineU;cases decide (f.Hand.Lo<=f.Hand.Hi)<;>exact Qa _
  |c5=>unfold fineU;cases decide (f.Silence.Lo<=f.Silence.Hi)<;>exact Qa _
  |c6=>unfold fineU;cases decide (f.Pair.A<f.Pair.B)<;>exact Qa _
  |_=>exact Qa _
 unfold numF;cases fineU f (openU f)with
 |false=>exact Qa _
 |true=>
  have e:app headL (bodyL (openU f))=some (entsS f):=Qcp _ _ (by have:=Qf0 f;unfold entsS at this;rw[X0]at this;omega);unfold F_bs;simp[XI];refine Ea (Ez e) ?_;refine Ea (Ez (QlL 0 f)) (Ea (Qoh f (suspB f) (entsS f) (QlI f) (Qf0 f) (entsS f) 0 ([],restS f,0) rfl (XT _) rfl).ev ?_);cases numR f (suspB f) (entsS f) ([],restS f,0)with
  |done r=>exact Qa _
  |cont a=>
   refine Ea ?_ (Qa _);cases(f.Kind != 10)<;>exact Qa _
def validS(f:Fact):Bool:=(numF f).2
theorem Qgt(f:Fact):Ev (λn=>F_hc n f) (bif validS f then 0 else 120):=by
 refine Ea (QkR f) ?_;unfold validS;cases(numF f).2<;>exact Qa _
theorem Qjq{f:Fact}(h:validS f=true):(f.Kind==0)=false:=by
 cases q:(f.Kind==0)with
 |false=>rfl
 |true=>
  have hk:=by simpa using q
  have a:openU f=.c13 ():=by unfold openU;rw[hk];rfl
  unfold validS numF at h;rw[a]at h;cases h
set_option maxRecDepth 4000
def numN(v:Nat):List Int:=if h:128<=v then orI .u8 (u8.wrap (v:Int)) 128::numN (v/128)else[u8.wrap (v:Int)]
termination_by v
decreasing_by omega
theorem Qft{v:Nat}(h:128<=v):numN v=orI .u8 (u8.wrap (v:Int)) 128::numN (v/128):=by
 rw[numN,dif_pos h]
theorem Ju{v:Nat}(h:¬128<=v):numN v=[u8.wrap (v:Int)]:=by
 rw[numN,dif_neg h]
theorem shr7(v:Nat):Yo .u64 (v:Int) 7=((v/128:Nat):Int):=by
 show Int.fdiv v (2^7)=_;rw[Int.fdiv_eq_ediv_of_nonneg _ (by decide)];omega
theorem Qis:∀(k v:Nat),v<128^(k+1)->(numN v).length<=k+1:=by
 intro k
 induction k with
 |zero=>
  intro v a;rw[Ju (by omega)];simp
 |succ k d=>
  intro v a;by_cases h:128<=v
  .rw[Qft h,XY];have:=d (v/128) (by rw[Nat.div_lt_iff_lt_mul (by decide)];exact a);omega
  .rw[Ju h];simp
theorem Qhq:∀(k v:Nat) (l:List Int),v<128^(k+1)->l.length+k<4294967296->∃(l':List Int) (a:Nat),EvI (λn=>F_fp n) (l,(v:Int)) (l',(a:Int))/\l'++[u8.wrap (a:Int)]=l++numN v/\l'.length<=l.length+k:=by
 intro k
 induction k with
 |zero=>
  intro v l d g;refine⟨l,v,Ei ?_,by rw[Ju (by omega)],XS _⟩;unfold F_fp;simp[QW (show¬128<=(v:Int)by omega)];exact Qa _
 |succ k j=>
  intro v l d g;by_cases h:128<=v
  .obtain⟨l',a,i,e,f⟩:=j (v/128) (l++[orI .u8 (u8.wrap v) 128]) (by rw[Nat.div_lt_iff_lt_mul (by decide)];exact d) (by simp;omega);refine⟨l',a,Ew ?_ i,?_,?_⟩
   .unfold F_fp;simp[QX (show 128<=(v:Int)by omega),shr7];rw[Qby l _ (by omega)];exact Qa _
   .rw[e,Qft h];simp
   .simp at f;omega
  .refine⟨l,v,Ei ?_,by rw[Ju h],by omega⟩;unfold F_fp;simp[QW (show¬128<=(v:Int)by omega)];exact Qa _
theorem QfX(v:Nat)(l:List Int)(f:v<18446744073709551616)(h:l.length<=1000000):Ev (λn=>F_av n l (v:Int)) (l++numN v):=by
 obtain⟨d,i,e,a,g⟩:=Qhq 9 v l (Vc f (by decide)) (by omega);refine Ea e.ev ?_;rw[Qby d _ (by omega),a];exact Qa _
theorem Qbp{v:Nat}(hv:v<18446744073709551616):(numN v).length<=10:=Qis 9 v (Vc hv (by decide))
def zigI(x:Int):Int:=Qgl .u64 (Qfe .u64 (u64.wrap x) 1) (u64.wrap (Yo .i64 x 63))
theorem wrapU(x:Int):0<=u64.wrap x/\u64.wrap x<18446744073709551616:=by
 have e:u64.wrap x=x%18446744073709551616:=by
  rfl
 omega
theorem Qe7(x:Int):∃z:Nat,zigI x=(z:Int)/\z<18446744073709551616:=by
 have h:=wrapU ((BitVec.ofInt IntKind.u64.bits (Qfe .u64 (u64.wrap x) 1)^^^BitVec.ofInt IntKind.u64.bits (u64.wrap (Yo .i64 x 63))).toNat);refine⟨(zigI x).toNat,?_,?_⟩
 iterate 2 unfold zigI Qgl;omega
def oneB(x:Int):List Int:=1::numN (zigI x).toNat
theorem Qfr(x:Int):(oneB x).length<=11:=by
 obtain⟨z,a,d⟩:=Qe7 x;unfold oneB;rw[a];have:=Qbp d;simp;omega
theorem QiP(l:List Int)(x:Int)(f:l.length<=100000):Ev (λn=>F_bh n l ({Kind:=1,N:=x,S:=[],L:=[]:Value})) (l++oneB x):=by
 unfold F_bh F_cb;rw[Qby l 1 (by omega)];simp only[XI];obtain⟨z,d,e⟩:=Qe7 x;have a:=d;unfold zigI at a;rw[a];refine Ea (QfX z (l++[1]) e (by simp;omega)) ((Qa _).eq ?_);unfold oneB;rw[d];simp
def mkV(x:Int):Value:={Kind:=1,N:=x,S:=[],L:=[]:Value}
def listV(l:List Int):Value:={Kind:=3,N:=0,S:=[],L:=l.map mkV:Value}
theorem QjL(x:Int):Ev (λn=>F_o n (mkV x)) (0,true):=by
 refine QY ?_;show Ev (λn=>B_o (F_o n) n (mkV x)) _;unfold B_o mkV;cases(x==0)with
 |true=>exact Qa _
 |false=>exact Qa _
theorem QiE(l:List Int)(g:l.length<=1000):Ev (λn=>F_o n (listV l)) (1,true):=by
 refine QY ?_;show Ev (λn=>B_o (F_o n) n (listV l)) _;unfold B_o listV;refine Ea (Qa _) ?_;refine Ea (v:=Ctl.cont 0) (Ev.iter (λi=>(0,(i:Int))) (l.map mkV).length rfl (λi d=>?_) ?_) (Qa _)
 .have a:=Jm (show(l.map mkV).length<=4611686018427387904 by rw[XZ];omega) (XJ d);have f:∃y,(l.map mkV)[i]=mkV y:=by
   rw[List.getElem_map];exact⟨_,rfl⟩
  obtain⟨y,e⟩:=f;unfold F_ke;simp only[a.lt,a.ix,XI,a.nx];rw[e];exact Ea (QjL y) (Qa _)
 .unfold F_ke;simp[Jl];exact Qa _
def listB(l:List Int):List Int:=[3]++numN l.length++(l.map oneB).flatten
theorem QhD(l:List Int)(z:l.length<=1000):Ev (λn=>F_db n (listV l)) (listB l):=by
 unfold F_db;have w:app ([]:List Int) [3]=some [3]:=rfl;rw[w];simp only[XI];have u:u64.wrap (((listV l).L.length:Int))=((l.length:Nat):Int):=by
  have:u64.wrap (((listV l).L.length:Int))=(((listV l).L.length:Int))%18446744073709551616:=by rfl
  rw[this];unfold listV;rw[XZ];omega
 rw[u];have t:=Qbp (show l.length<18446744073709551616 by omega);refine Ea (QfX l.length [3] (by omega) (by simp)) ?_;refine Ea (v:=listB l) ?_ (Qa _);have h:=Y3 (step:=λn=>F_in n (listV l)) (l.map mkV) (λ(a:List Int) (v:Value)=>a++oneB v.N) ([3]++numN l.length) (λa i=>(a,(i:Int))) (λa=>a) (by rw[XZ];omega) rfl (λi x a e q=>?_) ?_
 .refine Eu h ?_;have:∀(m:List Int) (a:List Int),(m.map mkV).foldl (λ(a:List Int) (v:Value)=>a++oneB v.N) a=a++(m.map oneB).flatten:=by
   intro m
   induction m with
   |nil=>intro a;simp
   |cons x m j=>intro a;simp only[Vg,XC];rw[j];simp[mkV]
  rw[this];rfl
 .have r:∃y,x=mkV y:=by
   obtain⟨y,_,p⟩:=Xf.1 e.mem;exact⟨y,p.symm⟩
  obtain⟨y,rfl⟩:=r;have g:a.length<=100000:=by
   have:∀(m:List Int) (a:List Int),((m.map mkV).foldl (λ(a:List Int) (v:Value)=>a++oneB v.N) a).length<=a.length+11*m.length:=by
    intro m
    induction m with
    |nil=>intro a;simp
    |cons x m j=>
     intro a;simp only[Vg,XC,XY];have s:=j (a++oneB (mkV x).N);have f:=Qfr (mkV x).N;rw[X0]at s;omega
   have f:=this (l.take i) ([3]++numN l.length);rw[List.map_take, <- q,X0,Xx]at f;simp at f;omega
  unfold F_in;have d:decide ((i:Int)<((listV l).L.length:Int))=true:=e.lt;have k:idx (listV l).L (i:Int)=some (mkV y):=e.ix;simp only[d,Vl,k,XI,e.nx];refine Ea (QiP a y g) ?_;exact Qa _
 .unfold F_in;have d:decide (((l.map mkV).length:Int)<((listV l).L.length:Int))=false:=Jl _;simp only[d,Vm];exact Qa _
theorem QmG{f:Fact}{b:Int}:∀(r:List Ent) (a c:List Int×Fact×Int),numR f b r a=.cont c->c.1.length=a.1.length+r.length:=by
 intro r
 induction r with
 |nil=>intro a c h;cases h;rfl
 |cons e r d=>
  intro a c h;unfold numR at h;cases q:inE f b e with
  |false=>rw[q]at h;cases h
  |true=>
   rw[q]at h;have:=d _ _ h;simp at this;rw[this,XY];omega
theorem QmH(f:Fact):(numF f).1.length<=12:=by
 unfold numF;cases fineU f (openU f)with
 |false=>simp
 |true=>
  cases h:numR f (suspB f) (entsS f) ([],restS f,0)with
  |cont a=>
   have:=QmG _ _ _ h;have:=Qf0 f;simp at*;omega
  |done r=>
   have:∀(E:List Ent) (a:List Int×Fact×Int),numR f (suspB f) E a=.done r->r=([],false):=by
    intro E
    induction E with
    |nil=>intro a h;cases h
    |cons e E ih=>
     intro a h;unfold numR at h;cases q:inE f (suspB f) e with
     |false=>rw[q]at h;cases h;rfl
     |true=>rw[q]at h;exact ih _ h
   rw[this _ _ h];simp
def encF(f:Fact):List Int×Int:=bif validS f then(listB (numF f).1,0)else([],120)
theorem Qg1(f:Fact):Ev (λn=>F_by n f) (encF f):=by
 refine Ea (QkR f) ?_;have p:=QmH f;unfold encF validS;generalize numF f=r at*;cases h:r.2 with
 |false=>exact Qa _
 |true=>
  refine Ea (v:=r.1.map mkV) ?_ ?_
  .refine Eu (Y3 r.1 (λa x=>a++[mkV x]) [] (λa i=>(a,(i:Int))) (λa=>a) (by omega) rfl (λi x a g j=>?_) ?_) ?_
   .unfold F_kp;simp only[g.lt,g.ix,XI,g.nx];have k:a.length<=12:=by
     have:∀(m:List Int) (a:List Value),(m.foldl (λa x=>a++[mkV x]) a).length=a.length+m.length:=by
      intro m
      induction m with
      |nil=>simp
      |cons x m d=>intro a;simp only[XC];rw[d];simp;omega
     rw[j,this,Xx];simp;omega
    have e:=Qby a (mkV x) (by omega);unfold mkV at e;rw[e];exact Qa _
   .unfold F_kp;simp[Jl];exact Qa _
   .have:∀(m:List Int) (a:List Value),m.foldl (λa x=>a++[mkV x]) a=a++m.map mkV:=by
     intro m
     induction m with
     |nil=>simp
     |cons x m d=>intro a;simp only[XC];rw[d];simp
    rw[this];rfl
  refine Ea (v:=(listB r.1,0)) ?_ (Qa _);have l:=QiE r.1 (by omega);have e:({Kind:=3,N:=0,S:=[],L:=r.1.map mkV:Value})=listV r.1:=rfl;refine Ea (Ea l (Qa _)) ?_;exact Ea (QhD r.1 (by omega)) (Qa _)
def cmpI(a b:Int):Int:=bif decide (a<b)then-1 else bif decide (b<a)then 1 else 0
theorem QkT(n:Nat)(a b:Int):F_r n a b=some (cmpI a b):=by
 unfold F_r F_bu cmpI;simp[bne_self_eq_false];cases decide (a<b)with
 |true=>rfl
 |false=>cases decide (b<a)<;>rfl
def orL:List Int->Int
 |[]=>0
 |x::r=>bif x != 0 then x else orL r
theorem QoY(l:List Int)(m:l.length<=1000):Ev (λn=>F_cd n l) (orL l):=by
 have loop:∀(r:List Int) (i:Nat),l.drop i=r->i<=l.length->EvI (λn=>F_fv n l) i (bif orL r==0 then Ctl.cont ()else Ctl.done (orL r)):=by
  intro r
  induction r with
  |nil=>
   intro i d g;refine Ei ?_;unfold F_fv;simp only[QM d g];exact Qa _
  |cons x r k=>
   intro i d g;obtain⟨a,f⟩:=Qw (by omega) d;have j:=a.lt';unfold orL;cases q:(x != 0)with
   |true=>
    have e:(x==0)=false:=by simpa  using q
    simp[Vl,e];refine Ei ?_;unfold F_fv;simp only[a.lt,a.ix,XI,q];exact Qa _
   |false=>
    refine Ew ?_ (k (i+1) f (by omega));unfold F_fv;simp only[a.lt,a.ix,XI,q,a.nx];exact Qa _
 refine Ea (loop l 0 rfl (XT _)).ev ?_;cases h:(orL l==0)with
 |true=>
  have e:=by simpa using h
  rw[e];exact Qa _
 |false=>exact Qa _
def cmpF(f g:Fact):Int:=bif orL [cmpI f.At g.At,cmpI f.Crew g.Crew,cmpI f.No g.No] != 0 then orL [cmpI f.At g.At,cmpI f.Crew g.Crew,cmpI f.No g.No]else cmpB (encF f).1 (encF g).1
theorem QjV(f g:Fact):Ev (λn=>F_dk n f g) (cmpF f g):=by
 unfold F_dk cmpF;simp[QkT,XI];refine Ea (QoY _ (by simp)) ?_;cases(orL [cmpI f.At g.At,cmpI f.Crew g.Crew,cmpI f.No g.No] != 0)with
 |true=>exact Qa _
 |false=>
  exact Ea (Qg1 f) (Ea (Qg1 g) (Qa _))
def okS(c:Course)(f:Fact):Bool:=(f.Kind==1)&&(validS f&&(!decide ((c.Distances.length:Int)<=f.Starter.Distance)&& !decide ((c.Waves.length:Int)<=f.Starter.Wave)))
theorem Qop{n:Nat}(h:n<=1048576):Nat.ble n Yn=true:=XR (XU h (by decide))
theorem QpN{a b:Int}:cmpI a b=0↔a=b:=by
 unfold cmpI;by_cases h:a<b
 .rw[Vr h];simp;omega
 .rw[Vu h];by_cases d:b<a
  .rw[Vr d];simp;omega
  .rw[Vu d];simp;omega
set_option maxRecDepth 4000
theorem Qog(f:Fact)(b:Int):∀(E:List Ent) (a:List Int×Fact×Int),numR f b E a=bif E.all (inE f b)then .cont (a.1++E.map (getV f b),E.foldl (λp e=>putV p.1 p.2 e (getV f b e)) a.2)else .done ([],false):=by
 intro E
 induction E with
 |nil=>simp[numR]
 |cons e E ih=>
  intro a;unfold numR;rw[List.all_cons];cases h:inE f b e with
  |false=>rfl
  |true=>
   rw[ih];simp
def onlyS(f:Fact):Fact:={Crew:=f.Crew,No:=f.No,At:=f.At,Kind:=f.Kind,Starter:=(bif f.Kind==1 then f.Starter else Ul.Starter),Read:=(bif f.Kind==2 then f.Read else Ul.Read),Beacon:=(bif f.Kind==3 then f.Beacon else Ul.Beacon),Sync:=(bif f.Kind==4 then f.Sync else Ul.Sync),Hand:=(bif f.Kind==5 then f.Hand else Ul.Hand),Silence:=(bif f.Kind==6 then f.Silence else Ul.Silence),Pair:=(bif f.Kind==7 then f.Pair else Ul.Pair),Report:=(bif f.Kind==8 then f.Report else Ul.Report),Protest:=(bif f.Kind==9 then f.Protest else Ul.Protest),Ruling:=(bif f.Kind==10 then f.Ruling else Ul.Ruling),Appeal:=(bif f.Kind==11 then f.Appeal else Ul.Appeal),Void:=(bif f.Kind==13 then f.Void else Ul.Void):Fact}
def numsS(f:Fact):List Int:=[f.Kind,f.Crew,f.No,f.At]++(
 bif f.Kind==1 then[f.Starter.Bib,f.Starter.Distance,f.Starter.Wave,f.Starter.Slot,f.Starter.Age,f.Starter.Chip,f.Starter.Team,f.Starter.Lot]
 else bif f.Kind==2 then[f.Read.Mat,f.Read.Epoch,f.Read.Chip,f.Read.Local]
 else bif f.Kind==3 then[f.Beacon.Mat,f.Beacon.Epoch,f.Beacon.Local,f.Beacon.True,f.Beacon.Err]
 else bif f.Kind==4 then[f.Sync.MatA,f.Sync.EpochA,f.Sync.LocalA,f.Sync.MatB,f.Sync.EpochB,f.Sync.LocalB,f.Sync.Min,f.Sync.Max]
 else bif f.Kind==5 then[f.Hand.Bib,f.Hand.Position,f.Hand.Lo,f.Hand.Hi]
 else bif f.Kind==6 then[f.Silence.Mat,f.Silence.Epoch,f.Silence.Lo,f.Silence.Hi]
 else bif f.Kind==7 then[f.Pair.A,f.Pair.B]
 else bif f.Kind==8 then[f.Report.Case,f.Report.Bib,f.Report.Offence,f.Report.Position]
 else bif f.Kind==9 then[f.Protest.Case,f.Protest.By,f.Protest.Fee,f.Protest.Form]
 else bif f.Kind==10 then[f.Ruling.Case,f.Ruling.Instance,f.Ruling.Kind,f.Ruling.Bib,f.Ruling.Position,f.Ruling.Amount]
 else bif f.Kind==11 then[f.Appeal.Case,suspB f]
 else bif f.Kind==13 then[f.Void.Crew,f.Void.No]else[])
theorem kinds(f:Fact):f.Kind=1\/f.Kind=2\/f.Kind=3\/f.Kind=4\/f.Kind=5\/f.Kind=6\/f.Kind=7\/f.Kind=8\/f.Kind=9\/f.Kind=10\/f.Kind=11\/f.Kind=12\/f.Kind=13\/openU f=.c13 ():=by
 by_cases m:f.Kind=1; · exact .inl m
 by_cases k:f.Kind=2; · exact .inr (.inl k)
 by_cases i:f.Kind=3; · exact .inr (.inr (.inl i))
 by_cases n:f.Kind=4; · exact .inr (.inr (.inr (.inl n)))
 by_cases j:f.Kind=5; · exact .inr (.inr (.inr (.inr (.inl j))))
 by_cases p:f.Kind=6; · exact .inr (.inr (.inr (.inr (.inr (.inl p)))))
 by_cases h:f.Kind=7; · exact .inr (.inr (.inr (.inr (.inr (.inr (.inl h))))))
 by_cases l:f.Kind=8; · exact .inr (.inr (.inr (.inr (.inr (.inr (.inr (.inl l)))))))
 by_cases q:f.Kind=9; · exact .inr (.inr (.inr (.inr (.inr (.inr (.inr (.inr (.inl q))))))))
 by_cases a:f.Kind=10; · exact .inr (.inr (.inr (.inr (.inr (.inr (.inr (.inr (.inr (.inl a)))))))))
 by_cases g:f.Kind=11; · exact .inr (.inr (.inr (.inr (.inr (.inr (.inr (.inr (.inr (.inr (.inl g))))))))))
 by_cases e:f.Kind=12; · exact .inr (.inr (.inr (.inr (.inr (.inr (.inr (.inr (.inr (.inr (.inr (.inl e)))))))))))
 by_cases d:f.Kind=13; · exact .inr (.inr (.inr (.inr (.inr (.inr (.inr (.inr (.inr (.inr (.inr (.inr (.inl d))))))))))))
 refine .inr (.inr (.inr (.inr (.inr (.inr (.inr (.inr (.inr (.inr (.inr (.inr (.inr ?_))))))))))));unfold openU;simp[Vw.2 m,Vw.2 k,Vw.2 i,Vw.2 n,Vw.2 j,Vw.2 p,Vw.2 h,Vw.2 l,Vw.2 q,Vw.2 a,Vw.2 g,Vw.2 e,Vw.2 d,Vm]
def copyS(f:Fact):Fact×Int:=(entsS f).foldl (λp e=>putV p.1 p.2 e (getV f (suspB f) e)) (restS f,0)
theorem Qhr(f:Fact):numF f=bif fineU f (openU f)then(bif (entsS f).all (inE f (suspB f))then((entsS f).map (getV f (suspB f)),lastF f (copyS f).1 (copyS f).2==f)else([],false))else([],false):=by
 unfold numF;rw[Qog];cases fineU f (openU f)with
 |false=>rfl
 |true=>
  cases(entsS f).all (inE f (suspB f))with
  |false=>rfl
  |true=>rfl
theorem QdS(f:Fact)(h:¬openU f=.c13 ()):lastF f (copyS f).1 (copyS f).2=onlyS f/\(entsS f).map (getV f (suspB f))=numsS f:=by
 rcases kinds f with k|k|k|k|k|k|k|k|k|k|k|k|k|k
 case inr.inr.inr.inr.inr.inr.inr.inr.inr.inr.inl=>
  obtain⟨Cr,No,At,Ki,S,R,B,Sy,Ha,Si,Pa,Re,Pr,Ru,⟨Ca,Su⟩,Vo⟩:=f;subst k;cases Su<;>exact⟨by kernel_rfl,by kernel_rfl⟩
 case inr.inr.inr.inr.inr.inr.inr.inr.inr.inl=>
  obtain⟨Cr,No,At,Ki,S,R,B,Sy,Ha,Si,Pa,Re,Pr,⟨i,l,a,e,d,j⟩,Ap,Vo⟩:=f;subst k;have:∃x,openU ⟨Cr,No,At,10,S,R,B,Sy,Ha,Si,Pa,Re,Pr,⟨i,l,a,e,d,j⟩,Ap,Vo⟩=.c9 x:=by
   unfold openU;cases((a==1)||(a==2))with
   |true=>exact⟨_,rfl⟩
   |false=>
    cases(a==3)with
    |true=>exact⟨_,rfl⟩
    |false=>cases(a==4)<;>exact⟨_,rfl⟩
  obtain⟨x,g⟩:=this;unfold copyS entsS;rw[g];exact⟨by kernel_rfl,by kernel_rfl⟩
 case inr.inr.inr.inr.inr.inr.inr.inr.inr.inr.inr.inr.inr=>exact absurd k h
 all_goals
  obtain⟨Cr,No,At,Ki,S,R,B,Sy,Ha,Si,Pa,Re,Pr,Ru,Ap,Vo⟩:=f;subst k;exact⟨by kernel_rfl,by kernel_rfl⟩
def contS(f:Fact):Bool:=fineU f (openU f)&&(bodyL (openU f)).all (inE f (suspB f))
def headS(f:Fact):Bool:=headL.all (inE f (suspB f))
theorem Qcb(f:Fact):validS f=(headS f&&contS f&&(onlyS f==f)):=by
 unfold validS contS headS;rw[Qhr];by_cases h:openU f=.c13 ()
 .have:fineU f (openU f)=false:=by rw[h];rfl
  rw[this];simp
 .obtain⟨a,d⟩:=QdS f h;rw[a];unfold entsS;rw[List.all_append];cases fineU f (openU f)with
  |false=>simp
  |true=>
   cases headL.all (inE f (suspB f))with
   |false=>rfl
   |true=>cases(bodyL (openU f)).all (inE f (suspB f))<;>rfl
theorem Qjp{f:Fact}(h:validS f=true):(numF f).1=numsS f:=by
 unfold validS at h;rw[Qhr]at h⊢;by_cases q:openU f=.c13 ()
 .have:fineU f (openU f)=false:=by rw[q];rfl
  rw[this]at h;cases h
 .obtain⟨e,d⟩:=QdS f q;cases a:fineU f (openU f)with
  |false=>rw[a]at h;cases h
  |true=>
   rw[a]at h;cases b:(entsS f).all (inE f (suspB f))with
   |false=>rw[b]at h;cases h
   |true=>exact d
theorem Qe8{f:Fact}(h:validS f=true):onlyS f=f:=by
 rw[Qcb]at h;simp[XV,Vv]at h;exact h.2
theorem QmF{f g:Fact}(a:validS f=true)(hg:validS g=true)(h:numsS f=numsS g):f=g:=by
 have e1:=Qe8 a;have e2:=Qe8 hg;rw[<- e1, <- e2];unfold numsS at h;have hk:f.Kind=g.Kind:=by
  simp only[VH,List.cons.injEq]at h;exact h.1
 have nk:=Qjq a;rcases kinds f with k|k|k|k|k|k|k|k|k|k|k|k|k|k
 case inr.inr.inr.inr.inr.inr.inr.inr.inr.inr.inr.inr.inr=>
  rw[Qcb]at a;unfold contS at a;rw[k]at a;simp[fineU]at a
 all_goals
  have e:=hk.symm.trans k;obtain⟨Cr,No,At,Ki,⟨s1,s2,s3,s4,s5,s6,s7,s8⟩,⟨am,ah,p,Y⟩,⟨b1,b2,b3,b4,b5⟩,⟨y1,y2,y3,y4,y5,y6,y7,y8⟩,⟨h1,h2,h3,h4⟩,⟨i1,i2,i3,i4⟩,⟨p1,p2⟩,⟨u1,u2,u3,u4⟩,⟨o1,o2,o3,o4⟩,⟨r1,r2,r3,r4,r5,r6⟩,⟨a1,q⟩,⟨v1,v2⟩⟩:=f;obtain⟨Cr',No',At',Ki',⟨al,x,ao,ac,au,s,aq,H⟩,⟨l,m,i,j⟩,⟨aw,ag,T,ay,aa⟩,⟨u,J,av,y,az,V,ai,W⟩,⟨n,ax,B,r⟩,⟨ab,aj,P,F⟩,⟨N,an⟩,⟨L,Q,ak,O⟩,⟨ae,w,z,R⟩,⟨af,a0,ad,G,E,t⟩,⟨M,d⟩,⟨ar,X⟩⟩:=g;simp only at k e;subst k;subst e
  first
   |(simp[suspB]at h;simp[onlyS,h];done)
   |(cases q<;>cases d<;>simp[suspB]at h<;>simp[onlyS,h])
set_option maxRecDepth 4000
theorem Qbl(x:Int):u64.wrap x=x%18446744073709551616:=by rfl
theorem Qhd(x:Int):u8.wrap x=x%256:=by unfold IntKind.wrap;rfl
theorem or8(a b:Int):orI .u8 a b=(((BitVec.ofInt 8 a|||BitVec.ofInt 8 b).toNat:Nat):Int)%256:=by exact Qhd _
theorem QoS(a b:Int):Qgl .u64 a b=(((BitVec.ofInt 64 a^^^BitVec.ofInt 64 b).toNat:Nat):Int)%18446744073709551616:=by exact Qbl _
theorem or128(v:Nat):orI .u8 (u8.wrap (v:Int)) 128=((v%128+128:Nat):Int):=by
 have a:∀m:Fin 256,((BitVec.ofNat 8 m.val|||128#8).toNat)=m.val%128+128:=by decide
 have f:v%256<256:=Nat.mod_lt _ (by decide);have k:(BitVec.ofNat 8 (v%256)|||128#8).toNat=v%256%128+128:=a ⟨v%256,f⟩;have e:BitVec.ofInt 8 (v%256)=BitVec.ofNat 8 (v%256):=by
  have:(v%256)=v%256:=by omega
  exact BitVec.ofInt_natCast 8 (v%256)
 have d:BitVec.ofInt 8 128=128#8:=by rfl
 rw[or8,Qhd,e,d,k];omega
theorem Qcg(v:Nat):numN v=if 128<=v then((v%128+128:Nat):Int)::numN (v/128)else[(v:Int)]:=by
 by_cases h:128<=v
 .rw[Qft h,Vq h,or128]
 .rw[Ju h,Vp h,Qhd];congr 1;omega
theorem Qir:∀(v w:Nat) (a b:List Int),numN v++a=numN w++b->v=w/\a=b:=by
 intro v
 induction v using Nat.strongRecOn with
 |_ v g=>
 intro w a b h;rw[Qcg v,Qcg w]at h;by_cases e:128<=v
 .rw[Vq e]at h;by_cases d:128<=w
  .rw[Vq d]at h;simp[VH,List.cons.injEq]at h;obtain⟨i,f⟩:=g (v/128) (by omega) (w/128) a b h.2;exact⟨by omega,f⟩
  .rw[Vp d]at h;simp[VH,List.cons.injEq]at h;omega
 .rw[Vp e]at h;by_cases d:128<=w
  .rw[Vq d]at h;simp[VH,List.cons.injEq]at h;omega
  .rw[Vp d]at h;simp[VH,List.cons.injEq]at h;exact⟨by omega,h.2⟩
theorem Qfs:∀(v:Nat),∀x∈numN v,0<=x/\x<256:=by
 intro v
 induction v using Nat.strongRecOn with
 |_ v e=>
 intro x a;rw[Qcg v]at a;by_cases d:128<=v
 .rw[Vq d]at a;rcases X4.1 a with rfl|a
  .omega
  .exact e (v/128) (by omega) x a
 .rw[Vp d]at a;rcases X4.1 a with rfl|a
  .omega
  .cases a
theorem QeG{x:Int}(g:0<=x)(f:x<9223372036854775808):zigI x=2*x:=by
 unfold zigI Qfe;have e:Yo .i64 x 63=0:=by
  show Int.fdiv x (2^63)=0;rw[Int.fdiv_eq_ediv_of_nonneg _ (by decide)];omega
 have a:(2:Int)^(min (1:Int).toNat IntKind.u64.bits)=2:=by decide
 rw[e,a,QoS];simp only[Qbl];have d:BitVec.ofInt 64 (0%18446744073709551616)=0#64:=by rfl
 rw[d,BitVec.xor_zero,BitVec.toNat_ofInt];omega
theorem QeH{x:Int}(g:x<0)(f: -9223372036854775808<=x):zigI x= -2*x-1:=by
 unfold zigI Qfe;have e:Yo .i64 x 63= -1:=by
  show Int.fdiv x (2^63)= -1;rw[Int.fdiv_eq_ediv_of_nonneg _ (by decide)];omega
 have a:(2:Int)^(min (1:Int).toNat IntKind.u64.bits)=2:=by decide
 rw[e,a,QoS];simp only[Qbl];have d:BitVec.ofInt 64 (-1%18446744073709551616)=BitVec.allOnes 64:=by decide
 rw[d,BitVec.xor_allOnes,BitVec.toNat_not,BitVec.toNat_ofInt];omega
def in63(x:Int):Prop:= -9223372036854775808<=x/\x<9223372036854775808
theorem Qn3{x y:Int}(f:in63 x)(e:in63 y)(h:zigI x=zigI y):x=y:=by
 obtain⟨a,b⟩:=f;obtain⟨c,d⟩:=e;by_cases p:0<=x
 .rw[QeG p b]at h;by_cases q:0<=y
  .rw[QeG q d]at h;omega
  .rw[QeH (by omega) c]at h;omega
 .rw[QeH (by omega) a]at h;by_cases q:0<=y
  .rw[QeG q d]at h;omega
  .rw[QeH (by omega) c]at h;omega
theorem Qiq:∀(l m:List Int),l.length=m.length->(∀x∈l,in63 x)->(∀x∈m,in63 x)->(l.map oneB).flatten=(m.map oneB).flatten->l=m
 |[],[],_,_,_,_=>rfl
 |x::l,y::m,hl,h1,h2,h=>by
  simp[Vg,Vi,oneB,VH,List.cons.injEq,true_and]at h;obtain⟨e1,e2⟩:=Qir _ _ _ _ h;obtain⟨z,p1,p2⟩:=Qe7 x;obtain⟨z',q1,q2⟩:=Qe7 y;rw[p1,q1]at e1;have:=Qn3 (h1 x (by simp)) (h2 y (by simp)) (by omega);rw[this,Qiq l m (by simpa using hl) (λz hz=>h1 z (by simp[hz])) (λz hz=>h2 z (by simp[hz])) e2]
theorem Qlr{l m:List Int}(a:∀x∈l,in63 x)(f:∀x∈m,in63 x)(h:listB l=listB m):l=m:=by
 unfold listB at h;simp[VH,List.cons.injEq,true_and]at h;obtain⟨e,d⟩:=Qir _ _ _ _ h;exact Qiq l m e a f d
theorem Qef(l:List Int):∀x∈listB l,0<=x/\x<256:=by
 intro x a;unfold listB at a;simp only[VA,Vy,List.mem_flatten,Xf]at a;rcases a with(rfl|a)|⟨m,⟨y,_,rfl⟩,a⟩
 .omega
 .exact Qfs _ x a
 .rcases X4.1 a with rfl|a
  .omega
  .exact Qfs _ x a
structure CmpOK {α:Type} (c:α->α->Int):Prop where
 swap:∀x y,c y x= -c x y
 trans:∀x y z,c x y<0->c y z<0->c x z<0
 eqt:∀x y z,c x y=0->c x z=c y z
section
variable {α:Type} {c d:α->α->Int}
theorem CmpOK.refl(h:CmpOK c)(x:α):c x x=0:=by have:=h.swap x x;omega
theorem CmpOK.eqr(h:CmpOK c){x y:α}(z:α)(e:c x y=0):c z x=c z y:=by
 rw[h.swap x z,h.swap y z,h.eqt x y z e]
theorem Qcy(h:CmpOK c)(k:CmpOK d):CmpOK λx y=>bif c x y != 0 then c x y else d x y:=by
 refine⟨λx y=>?_,λx y z=>?_,λx y z=>?_⟩
 .have e:=h.swap x y;by_cases q:c x y=0
  .have f:c y x=0:=by omega
   rw[q,f];exact k.swap x y
  .have f:¬c y x=0:=by omega
   rw[bne_iff_ne.2 q,bne_iff_ne.2 f];exact e
 .by_cases q:c x y=0
  .have e:=h.eqt x y z q;rw[q,e];by_cases f:c y z=0
   .rw[f];exact k.trans x y z
   .rw[bne_iff_ne.2 f];intro _ b;exact b
  .rw[bne_iff_ne.2 q];by_cases f:c y z=0
   .have e:=h.eqr x f;rw[f, <- e,bne_iff_ne.2 q];intro a _;exact a
   .rw[bne_iff_ne.2 f];intro a b;have:=h.trans x y z a b;rw[bne_iff_ne.2 (show¬c x z=0 by omega)];exact this
 .by_cases q:c x y=0
  .rw[q,h.eqt x y z q];intro e;rw[k.eqt x y z e]
  .rw[bne_iff_ne.2 q];intro e;exact absurd e q
theorem CmpOK.on{β:Type}(h:CmpOK c)(f:β->α):CmpOK λx y=>c (f x) (f y):=
 ⟨λx y=>h.swap _ _,λx y z=>h.trans _ _ _,λx y z=>h.eqt _ _ _⟩
end
theorem cmpI_ok:CmpOK cmpI:=by
 have e:∀a b,cmpI a b=if a<b then-1 else if b<a then 1 else 0:=by
  intro a b;unfold cmpI;by_cases h:a<b
  .rw[Vr h,Vq h];rfl
  .rw[Vu h,Vp h];by_cases d:b<a
   .rw[Vr d,Vq d];rfl
   .rw[Vu d,Vp d];rfl
 refine⟨λx y=>?_,λx y z=>?_,λx y z=>?_⟩
 .rw[e,e];split<;>split<;>omega
 .rw[e,e,e];omega
 .rw[e x y];intro h;have:x=y:=by
   by_cases q:x<y
   .omega
   .split at h<;>omega
  rw[this]
theorem cb_ok:CmpOK Lib.compareBytes:=by
 have j:∀x y:List UInt8,Lib.compareBytes y x= -Lib.compareBytes x y:=by
  intro x
  induction x with
  |nil=>intro y;cases y<;>simp[Lib.compareBytes]
  |cons a x e=>
   intro y;cases y with
   |nil=>simp[Lib.compareBytes]
   |cons b y=>
    unfold Lib.compareBytes;by_cases h:a<b
    .have l:¬b<a:=by rw[UInt8.lt_iff_toNat_lt]at*;omega
     rw[Vq h,Vp l,Vq h];rfl
    .rw[Vp h];by_cases g:b<a
     .rw[Vq g,Vp h,Vq g]
     .rw[Vp g,Vp g,Vp h];exact e y
 have eq:∀x y:List UInt8,Lib.compareBytes x y=0->x=y:=by
  intro x
  induction x with
  |nil=>intro y h;cases y with
   |nil=>rfl
   |cons b y=>simp[Lib.compareBytes]at h
  |cons a x e=>
   intro y h;cases y with
   |nil=>simp[Lib.compareBytes]at h
   |cons b y=>
    unfold Lib.compareBytes at h;by_cases q:a<b
    .rw[Vq q]at h;omega
    .rw[Vp q]at h;by_cases f:b<a
     .rw[Vq f]at h;omega
     .rw[Vp f]at h;have:a=b:=by
       rw[UInt8.lt_iff_toNat_lt]at q f;exact UInt8.toNat_inj.1 (by omega)
      rw[this,e y h]
 refine⟨j,?_,λx y z h=>by rw[eq x y h]⟩;intro x
 induction x with
 |nil=>
  intro y z h k;cases y with
  |nil=>simp[Lib.compareBytes]at h
  |cons b y=>cases z with
   |nil=>simp[Lib.compareBytes]at k
   |cons d z=>simp[Lib.compareBytes]
 |cons a x e=>
  intro y z h k;cases y with
  |nil=>simp[Lib.compareBytes]at h
  |cons b y=>
   cases z with
   |nil=>simp[Lib.compareBytes]at k
   |cons d z=>
    unfold Lib.compareBytes at h k⊢;simp only[UInt8.lt_iff_toNat_lt]at*;by_cases q:a.toNat<b.toNat
    .by_cases r:b.toNat<d.toNat
     .omega
     .by_cases i:d.toNat<b.toNat
      iterate 2 omega
    .rw[Vp q]at h;by_cases f:b.toNat<a.toNat
     .omega
     .rw[Vp f]at h;by_cases r:b.toNat<d.toNat
      .omega
      .rw[Vp r]at k;by_cases i:d.toNat<b.toNat
       .omega
       .rw[Vp i]at k;rw[Vp (by omega),Vp (by omega)];exact e y z h k
theorem Qnq:∀{x y:List UInt8},Lib.compareBytes x y=0->x=y
 |[],[],_=>rfl
 |[],_::_,h=>by simp[Lib.compareBytes]at h
 |_::_,[],h=>by simp[Lib.compareBytes]at h
 |a::x,b::y,h=>by
  unfold Lib.compareBytes at h;by_cases q:a<b
  .rw[Vq q]at h;omega
  .rw[Vp q]at h;by_cases q2:b<a
   .rw[Vq q2]at h;omega
   .rw[Vp q2]at h;have:a=b:=by
     rw[UInt8.lt_iff_toNat_lt]at q q2;exact UInt8.toNat_inj.1 (by omega)
    rw[this,Qnq h]
theorem Qg6:∀{l m:List Int},(∀x∈l,0<=x/\x<256)->(∀x∈m,0<=x/\x<256)->l.map Q6=m.map Q6->l=m
 |[],[],_,_,_=>rfl
 |[],_::_,_,_,h=>by simp at h
 |_::_,[],_,_,h=>by simp at h
 |x::l,y::m,h1,h2,h=>by
  simp[Vg,List.cons.injEq]at h;have a1:=h1 x (by simp);have a2:=h2 y (by simp);have e:=congrArg UInt8.toNat h.1;unfold Q6 at e;rw[UInt8.toNat_ofNat',UInt8.toNat_ofNat']at e;have:x=y:=by omega
  rw[this,Qg6 (λz a=>h1 z (by simp[a])) (λz a=>h2 z (by simp[a])) h.2]
theorem Qf6(f g:Fact):cmpF f g=bif cmpI f.At g.At != 0 then cmpI f.At g.At else bif cmpI f.Crew g.Crew != 0 then cmpI f.Crew g.Crew else bif cmpI f.No g.No != 0 then cmpI f.No g.No else cmpB (encF f).1 (encF g).1:=by
 unfold cmpF orL orL orL orL;generalize cmpI f.At g.At=a;generalize cmpI f.Crew g.Crew=b;generalize cmpI f.No g.No=d;cases e:(a != 0)with
 |true=>simp[Vl,e]
 |false=>
  simp[Vm];cases i:(b != 0)with
  |true=>simp[Vl,i]
  |false=>
   simp[Vm];cases h:(d != 0)with
   |true=>simp[Vl,h]
   |false=>rfl
theorem QkW:CmpOK cmpF:=by
 have h:=Qcy (cmpI_ok.on λf=>f.At) (Qcy (cmpI_ok.on λf=>f.Crew) (Qcy (cmpI_ok.on λf=>f.No) (cb_ok.on λf=>(encF f).1.map Q6)));have e:=by
  funext f g;exact Qf6 f g
 rw[e];exact h
def wideE(e:Ent):Bool:=decide (-1125899906842624<=e.lo)&&decide (e.hi<=1125899906842624)
theorem QlH(f:Fact):(entsS f).all wideE=true:=by
 unfold entsS;rw[List.all_append,XV];refine⟨rfl,?_⟩;rcases kinds f with k|k|k|k|k|k|k|k|k|k|k|k|k|k
 case inr.inr.inr.inr.inr.inr.inr.inr.inr.inl=>
  unfold openU;rw[k];cases((f.Ruling.Kind==1)||(f.Ruling.Kind==2))with
  |true=>rfl
  |false=>
   cases(f.Ruling.Kind==3)with
   |true=>rfl
   |false=>cases(f.Ruling.Kind==4)<;>rfl
 case inr.inr.inr.inr.inr.inr.inr.inr.inr.inr.inr.inr.inr=>rw[k];rfl
 all_goals
  unfold openU;rw[k];rfl
theorem QcQ{f:Fact}(h:validS f=true):∀x∈numsS f,in63 x:=by
 unfold validS at h;rw[Qhr]at h;by_cases q:openU f=.c13 ()
 .rw[q]at h;cases h
 .rw[<- (QdS f q).2];cases a:fineU f (openU f)with
  |false=>rw[a]at h;cases h
  |true=>
   rw[a]at h;cases b:(entsS f).all (inE f (suspB f))with
   |false=>rw[b]at h;cases h
   |true=>
    intro x j;obtain⟨e,g,rfl⟩:=Xf.1 j;have d:=Xt.1 b e g;have i:=Xt.1 (QlH f) e g;unfold inE at d;unfold wideE at i;simp[XV,Bool.not_eq_true',decide_eq_false_iff_not,Vn]at d i;unfold in63;omega
theorem QdT{f:Fact}(h:validS f=true):encF f=(listB (numsS f),0):=by
 unfold encF;rw[h,Qjp h];rfl
theorem Qe0{f g:Fact}(i:validS f=true)(hg:validS g=true)(h:cmpF f g=0):f=g:=by
 rw[Qf6]at h;have z:cmpB (encF f).1 (encF g).1=0:=by
  cases a:(cmpI f.At g.At != 0)with
  |true=>rw[a]at h;exact absurd h (bne_iff_ne.1 a)
  |false=>
   rw[a]at h;cases j:(cmpI f.Crew g.Crew != 0)with
   |true=>rw[j]at h;exact absurd h (bne_iff_ne.1 j)
   |false=>
    rw[j]at h;cases d:(cmpI f.No g.No != 0)with
    |true=>rw[d]at h;exact absurd h (bne_iff_ne.1 d)
    |false=>rw[d]at h;exact h
 rw[QdT i,QdT hg]at z;have e:=Qg6 (Qef _) (Qef _) (Qnq z);exact QmF i hg (Qlr (QcQ i) (QcQ hg) e)
set_option maxRecDepth 4000
theorem QcL{α:Type}{R:α->α->Prop}(d:∀x,¬R x x)(i:∀x y z,R x y->R y z->R x z):∀{l m:List α},l.Pairwise R->m.Pairwise R->(∀x,x∈l↔x∈m)->l=m
 |[],[],_,_,_=>rfl
 |[],b::m,_,_,h=>by have:=(h b).2 (by simp);cases this
 |a::l,[],_,_,h=>by have:=(h a).1 (by simp);cases this
 |a::l,b::m,hl,hm,h=>by
  rw[Xc]at hl hm;have e:a=b:=by
   rcases X4.1 ((h a).1 (by simp))with e|f
   .exact e
   .rcases X4.1 ((h b).2 (by simp))with e|j
    .exact e.symm
    .exact absurd (i _ _ _ (hl.1 b j) (hm.1 a f)) (d a)
  subst e;congr 1;refine QcL d i hl.2 hm.2 λx=>?_;constructor
  .intro g;rcases X4.1 ((h x).1 (X3 _ g))with e|f
   .subst e;exact absurd (hl.1 x g) (d x)
   .exact f
  .intro g;rcases X4.1 ((h x).2 (X3 _ g))with e|f
   .subst e;exact absurd (hm.1 x g) (d x)
   .exact f
def insC(x:Fact):List Fact->List Fact
 |[]=>[x]
 |y::r=>bif decide (cmpF y x<0)then y::insC x r else bif y==x then y::r else x::y::r
def canonS(l:List Fact):List Fact:=l.foldl (λa x=>bif validS x then insC x a else a) []
def ltF(a b:Fact):Prop:=cmpF a b<0
theorem Qoj(x:Fact):¬ltF x x:=by unfold ltF;have:=QkW.refl x;omega
theorem QjG(x y z:Fact):ltF x y->ltF y z->ltF x z:=QkW.trans x y z
theorem Qdh(x:Fact):∀(l:List Fact) (z:Fact),z∈insC x l↔z=x\/z∈l
 |[],z=>by simp[insC]
 |y::r,z=>by
  unfold insC;cases decide (cmpF y x<0)with
  |true=>
   simp[Vl,X4,Qdh x r z];constructor
   .rintro(h|h|h)<;>simp[h]
   .rintro(h|h|h)<;>simp[h]
  |false=>
   cases h:(y==x)with
   |true=>
    have:=by simpa using h
    subst this;simp
   |false=>simp
def CanonOK(l:List Fact):Prop:=l.Pairwise ltF/\ ∀f∈l,validS f=true
theorem QkE{x:Fact}(a:validS x=true):∀{l:List Fact},CanonOK l->CanonOK (insC x l)
 |[],_=>⟨by simp[insC],by simp[insC,a]⟩
 |y::r,h=>by
  obtain⟨h1,h2⟩:=h;rw[Xc]at h1;have hr:CanonOK r:=⟨h1.2,λf hf=>h2 f (by simp[hf])⟩;have ih:=QkE a hr;refine⟨?_,λf hf=>?_⟩
  .unfold insC;cases q:decide (cmpF y x<0)with
   |true=>
    simp[Vl,Xc];refine⟨λz hz=>?_,ih.1⟩;rcases(Qdh x r z).1 hz with rfl|hz
    .show cmpF y z<0;exact Vs q
    .exact h1.1 z hz
   |false=>
    simp[Vm];cases q2:(y==x)with
    |true=>simp[Vl,Xc];exact h1
    |false=>
     simp only[Vm,Xc];have lt:ltF x y:=by
      have g:=Vt q;have d:¬cmpF y x=0:=λe=>by
       have:=Qe0 (h2 y (by simp)) a e;rw[this]at q2;simp at q2
      have:=QkW.swap x y;unfold ltF;omega
     refine⟨λz hz=>?_,h1⟩;rcases X4.1 hz with rfl|hz
     .exact lt
     .exact QjG _ _ _ lt (h1.1 z hz)
  .rcases(Qdh x (y::r) f).1 hf with rfl|hf
   .exact a
   .exact h2 f hf
theorem QdU(l:List Fact):CanonOK (canonS l)/\ ∀f,f∈canonS l↔f∈l/\validS f=true:=by
 have g:∀(r a:List Fact),CanonOK a->CanonOK (r.foldl (λa x=>bif validS x then insC x a else a) a)/\ ∀f,f∈r.foldl (λa x=>bif validS x then insC x a else a) a↔f∈a\/(f∈r/\validS f=true):=by
  intro r
  induction r with
  |nil=>intro a h;exact⟨h,λf=>by simp⟩
  |cons x r i=>
   intro a h;rw[XC];cases q:validS x with
   |false=>
    obtain⟨d,e⟩:=i a h;refine⟨d,λf=>?_⟩;rw[Vm,e f,X4];constructor
    .rintro(a|⟨a,b⟩)
     .exact .inl a
     .exact .inr ⟨.inr a,b⟩
    .rintro(a|⟨rfl|a,b⟩)
     .exact .inl a
     .rw[q]at b;cases b
     .exact .inr ⟨a,b⟩
   |true=>
    obtain⟨d,e⟩:=i (insC x a) (QkE q h);refine⟨d,λf=>?_⟩;rw[Vl,e f,Qdh,X4];constructor
    .rintro((rfl|a)|⟨a,b⟩)
     .exact .inr ⟨.inl rfl,q⟩
     .exact .inl a
     .exact .inr ⟨.inr a,b⟩
    .rintro(a|⟨rfl|a,b⟩)
     .exact .inl (.inr a)
     .exact .inl (.inl rfl)
     .exact .inr ⟨a,b⟩
 obtain⟨d,e⟩:=g l [] ⟨by simp,by simp⟩;exact⟨d,λf=>by rw[canonS,e f];simp⟩
def FirstIs(c:Course)(l:List Fact)(f:Fact):Prop:=f∈l/\okS c f=true/\ ∀g∈l,okS c g=true->g.Starter.Bib=f.Starter.Bib->¬cmpF g f<0
theorem QaC{c:Course}{f:Fact}(h:okS c f=true):validS f=true:=by
 unfold okS at h;simp[XV]at h;exact h.2.1
theorem FirstIs.one{c:Course}{l:List Fact}{f g:Fact}(a:FirstIs c l f)(hg:FirstIs c l g)(e:f.Starter.Bib=g.Starter.Bib):f=g:=by
 have d:=a.2.2 g hg.1 hg.2.1 e.symm;have h:=hg.2.2 f a.1 a.2.1 e;have:=QkW.swap f g;exact Qe0 (QaC a.2.1) (QaC hg.2.1) (by omega)
theorem QoQ{c:Course}{l m:List Fact}(h:∀f,validS f=true->(f∈l↔f∈m)){f:Fact}:FirstIs c l f↔FirstIs c m f:=by
 constructor
 .rintro⟨a,b,d⟩;exact⟨(h f (QaC b)).1 a,b,λg i e j=>d g ((h g (QaC e)).2 i) e j⟩
 .rintro⟨a,b,d⟩;exact⟨(h f (QaC b)).2 a,b,λg i e j=>d g ((h g (QaC e)).1 i) e j⟩
set_option maxRecDepth 4000
def nb(v lo hi:Int):Bool:= !(decide (v<lo))&& !(decide (hi<v))
theorem Qa5(v lo hi:Int):nb v lo hi=true↔lo<=v/\v<=hi:=by
 unfold nb;simp only[XV,Bool.not_eq_true',decide_eq_false_iff_not];omega
def contR(f:Fact):Bool:=
 bif f.Kind==1 then true&&(nb f.Starter.Bib 1 9999&&(nb f.Starter.Distance 0 7&&(nb f.Starter.Wave 0 31&&(nb f.Starter.Slot (-1099511627776) 1099511627776&&(nb f.Starter.Age 0 120&&(nb f.Starter.Chip 0 1048576&&(nb f.Starter.Team 0 9999&&(nb f.Starter.Lot 0 1048576&&true))))))))
 else bif f.Kind==2 then true&&(nb f.Read.Mat 0 39&&(nb f.Read.Epoch 0 255&&(nb f.Read.Chip 0 1048576&&(nb f.Read.Local (-1099511627776) 1099511627776&&true))))
 else bif f.Kind==3 then true&&(nb f.Beacon.Mat 0 39&&(nb f.Beacon.Epoch 0 255&&(nb f.Beacon.Local (-1099511627776) 1099511627776&&(nb f.Beacon.True (-1099511627776) 1099511627776&&(nb f.Beacon.Err 0 1099511627776&&true)))))
 else bif f.Kind==4 then decide (f.Sync.Min<=f.Sync.Max)&&(nb f.Sync.MatA 0 39&&(nb f.Sync.EpochA 0 255&&(nb f.Sync.LocalA (-1099511627776) 1099511627776&&(nb f.Sync.MatB 0 39&&(nb f.Sync.EpochB 0 255&&(nb f.Sync.LocalB (-1099511627776) 1099511627776&&(nb f.Sync.Min (-1099511627776) 1099511627776&&(nb f.Sync.Max (-1099511627776) 1099511627776&&true))))))))
 else bif f.Kind==5 then decide (f.Hand.Lo<=f.Hand.Hi)&&(nb f.Hand.Bib 1 9999&&(nb f.Hand.Position 0 255&&(nb f.Hand.Lo (-1099511627776) 1099511627776&&(nb f.Hand.Hi (-1099511627776) 1099511627776&&true))))
 else bif f.Kind==6 then decide (f.Silence.Lo<=f.Silence.Hi)&&(nb f.Silence.Mat 0 39&&(nb f.Silence.Epoch 0 255&&(nb f.Silence.Lo (-1099511627776) 1099511627776&&(nb f.Silence.Hi (-1099511627776) 1099511627776&&true))))
 else bif f.Kind==7 then decide (f.Pair.A<f.Pair.B)&&(nb f.Pair.A 1 9999&&(nb f.Pair.B 1 9999&&true))
 else bif f.Kind==8 then true&&(nb f.Report.Case 1 1048576&&(nb f.Report.Bib 1 9999&&(nb f.Report.Offence 0 31&&(nb f.Report.Position 0 255&&true))))
 else bif f.Kind==9 then true&&(nb f.Protest.Case 1 1048576&&(nb f.Protest.By 0 9999&&(nb f.Protest.Fee 0 1125899906842624&&(nb f.Protest.Form 0 1&&true))))
 else bif f.Kind==10 then true&&(nb f.Ruling.Case 1 1048576&&(nb f.Ruling.Instance 1 2&&(nb f.Ruling.Kind 1 5&&(bif (f.Ruling.Kind==1)||(f.Ruling.Kind==2)then nb f.Ruling.Bib 0 0&&(nb f.Ruling.Position 0 0&&(nb f.Ruling.Amount 0 0&&true))else bif f.Ruling.Kind==3 then nb f.Ruling.Bib 1 9999&&(nb f.Ruling.Position 0 255&&(nb f.Ruling.Amount 1 1099511627776&&true))else bif f.Ruling.Kind==4 then nb f.Ruling.Bib 1 9999&&(nb f.Ruling.Position 0 255&&(nb f.Ruling.Amount 1 64&&true))else nb f.Ruling.Bib 1 9999&&(nb f.Ruling.Position 0 255&&(nb f.Ruling.Amount 0 0&&true))))))
 else bif f.Kind==11 then true&&(nb f.Appeal.Case 1 1048576&&(nb (suspB f) 0 1&&true))
 else bif f.Kind==12 then true&&true
 else bif f.Kind==13 then true&&(nb f.Void.Crew 0 31&&(nb f.Void.No 1 1048576&&true))
 else false
theorem Qhy(f:Fact):(f.Kind=1\/f.Kind=2\/f.Kind=3\/f.Kind=4\/f.Kind=5\/f.Kind=6\/f.Kind=7\/f.Kind=8\/f.Kind=9\/f.Kind=10\/f.Kind=11\/f.Kind=12\/f.Kind=13)\/((f.Kind==1)=false/\(f.Kind==2)=false/\(f.Kind==3)=false/\(f.Kind==4)=false/\(f.Kind==5)=false/\(f.Kind==6)=false/\(f.Kind==7)=false/\(f.Kind==8)=false/\(f.Kind==9)=false/\(f.Kind==10)=false/\(f.Kind==11)=false/\(f.Kind==12)=false/\(f.Kind==13)=false):=by
 by_cases h:1<=f.Kind/\f.Kind<=13
 .omega
 .simp[Vw];omega
theorem Qi5(f:Fact):contS f=contR f:=by
 rcases Qhy f with k|⟨t,r,q,x,y,z,u,s,w,l,h,j,i⟩
 .rcases k with k|k|k|k|k|k|k|k|k|k|k|k|k
  case inr.inr.inr.inr.inr.inr.inr.inr.inr.inl=>
   obtain⟨Cr,No,At,Ki,S,R,B,Sy,Ha,Si,Pa,Re,Pr,⟨n,m,a,g,d,e⟩,Ap,Vo⟩:=f;simp only at k;subst k;have p:openU ⟨Cr,No,At,10,S,R,B,Sy,Ha,Si,Pa,Re,Pr,⟨n,m,a,g,d,e⟩,Ap,Vo⟩=(bif (a==1)||(a==2)then U_facts_open_rxk.c9 (0,0,0,0,0,0)else bif a==3 then .c9 (1,9999,0,255,1,1099511627776)else bif a==4 then .c9 (1,9999,0,255,1,64)else .c9 (1,9999,0,255,0,0)):=rfl;have E:contR ⟨Cr,No,At,10,S,R,B,Sy,Ha,Si,Pa,Re,Pr,⟨n,m,a,g,d,e⟩,Ap,Vo⟩=(true&&(nb n 1 1048576&&(nb m 1 2&&(nb a 1 5&&(bif (a==1)||(a==2)then nb g 0 0&&(nb d 0 0&&(nb e 0 0&&true))else bif a==3 then nb g 1 9999&&(nb d 0 255&&(nb e 1 1099511627776&&true))else bif a==4 then nb g 1 9999&&(nb d 0 255&&(nb e 1 64&&true))else nb g 1 9999&&(nb d 0 255&&(nb e 0 0&&true))))))):=rfl;rw[E];unfold contS;rw[p];cases((a==1)||(a==2))with
   |true=>rfl
   |false=>
    cases(a==3)with
    |true=>rfl
    |false=>cases(a==4)<;>rfl
  all_goals
   obtain⟨Cr,No,At,Ki,S,R,B,Sy,Ha,Si,Pa,Re,Pr,Ru,Ap,Vo⟩:=f;simp only at k;subst k;rfl
 .have p:openU f=.c13 ():=by unfold openU;rw[t,r,q,x,y,z,u,s,w,l,h,j,i];rfl
  unfold contS contR;rw[p,t,r,q,x,y,z,u,s,w,l,h,j,i];rfl
theorem Ja(n:Nat)(v a b:Int):F_b n v a b=some (nb v a b):=by
 unfold F_b nb;have e:decide (a<=v)= !decide (v<a):=by rw[XW];simp
 have d:decide (v<=b)= !decide (b<v):=by rw[XW];simp
 rw[e,d];cases decide (v<a)<;>rfl
theorem Qgv(a:Bool)(b:Option Bool)(c:Bool)(h:b=some c):(bif a then b else some false)=some (a&&c):=by
 subst h;cases a<;>rfl
theorem QbU(n:Nat)(v:Int):F_e n v=some (nb v 1 9999):=by unfold F_e;rw[Ja];rfl
theorem Qhn(n:Nat)(v:Int):F_t n v=some (nb v 0 39):=by unfold F_t;rw[Ja];rfl
theorem Qc9(n:Nat)(v:Int):F_u n v=some (nb v 0 255):=by unfold F_u;rw[Ja];rfl
theorem Qcd(n:Nat)(v:Int):F_bn n v=some (nb v 0 1048576):=by unfold F_bn;rw[Ja];rfl
theorem JB(n:Nat)(v:Int):F_ab n v=some (nb v 0 255):=by unfold F_ab;rw[Ja];rfl
theorem QeL(n:Nat)(v:Int):F_ak n v=some (nb v 1 1048576):=by unfold F_ak;rw[Ja];rfl
theorem QgJ(n:Nat)(v:Int):F_az n v=some (nb v 1 1048576):=by unfold F_az;rw[Ja];rfl
theorem Qkt(n:Nat)(v:Int):F_ar n v=some (nb v 0 31):=by unfold F_ar;rw[Ja];rfl
theorem Qcc(n:Nat)(v:Int):F_d n v=some (nb v (-1099511627776) 1099511627776):=by unfold F_d;rw[Ja];rfl
theorem Qjz(n:Nat)(f:Fact):F_cc n f=some (contR f):=by
 unfold F_cc contR;cases(f.Kind==1)with
 |true=>
  unfold F_fq;simp only[QbU,Qcc,Qcd,Ja,XI,Vl,Qgv _ _ _ rfl,Option.some.injEq,Vx,Bool.and_true]
 |false=>
 cases(f.Kind==2)with
 |true=>simp only[Qhn,Qc9,Qcc,Qcd,Ja,XI,Vl,Vm,Qgv _ _ _ rfl,Option.some.injEq,Vx,Bool.and_true]
 |false=>
 cases(f.Kind==3)with
 |true=>simp only[Qhn,Qc9,Qcc,Qcd,Ja,XI,Vl,Vm,Qgv _ _ _ rfl,Option.some.injEq,Vx,Bool.and_true]
 |false=>
 cases(f.Kind==4)with
 |true=>
  unfold F_gw;simp only[Qhn,Qc9,Qcc,Qcd,Ja,XI,Vl,Vm,Qgv _ _ _ rfl,Option.some.injEq,Vx,Bool.and_true];rw[XW];simp only[XV,Qa5,Vn];omega
 |false=>
 cases(f.Kind==5)with
 |true=>
  simp only[QbU,JB,Qcc,Qcd,Ja,XI,Vl,Vm,Qgv _ _ _ rfl,Option.some.injEq,Vx,Bool.and_true];rw[XW];simp only[XV,Qa5,Vn];omega
 |false=>
 cases(f.Kind==6)with
 |true=>
  simp only[Qhn,Qc9,Qcc,Qcd,Ja,XI,Vl,Vm,Qgv _ _ _ rfl,Option.some.injEq,Vx,Bool.and_true];rw[XW];simp only[XV,Qa5,Vn];omega
 |false=>
 cases(f.Kind==7)with
 |true=>
  simp only[QbU,Ja,XI,Vl,Vm,Qgv _ _ _ rfl,Option.some.injEq,Vx,Bool.and_true];rw[XW];simp only[XV,Qa5,Vn];omega
 |false=>
 cases(f.Kind==8)with
 |true=>simp only[QbU,QeL,JB,Ja,XI,Vl,Vm,Qgv _ _ _ rfl,Option.some.injEq,Vx,Bool.and_true]
 |false=>
 cases(f.Kind==9)with
 |true=>simp only[QbU,QeL,JB,Ja,XI,Vl,Vm,Qgv _ _ _ rfl,Option.some.injEq,Vx,Bool.and_true]
 |false=>
 cases(f.Kind==10)with
 |true=>
  unfold F_gv;simp only[QeL,Ja,XI,Vl,Vm,Vx];have a:∀v:Int,(v==0)=nb v 0 0:=by intro v;rw[XW,Qa5,Vv];omega
  cases nb f.Ruling.Case 1 1048576 with
  |false=>rfl
  |true=>
   cases nb f.Ruling.Instance 1 2 with
   |false=>rfl
   |true=>
    simp only[Xh,Vm,XI,Vx];by_cases d:f.Ruling.Kind=1
    .rw[d];simp only[a];cases nb f.Ruling.Bib 0 0 with
     |false=>rfl
     |true=>cases nb f.Ruling.Position 0 0 with
      |false=>rfl
      |true=>cases nb f.Ruling.Amount 0 0<;>rfl
    by_cases i:f.Ruling.Kind=2
    .rw[i];simp only[a];cases nb f.Ruling.Bib 0 0 with
     |false=>rfl
     |true=>cases nb f.Ruling.Position 0 0 with
      |false=>rfl
      |true=>cases nb f.Ruling.Amount 0 0<;>rfl
    by_cases g:f.Ruling.Kind=3
    .rw[g];simp only[a,QbU,JB,Ja,XI];cases nb f.Ruling.Bib 1 9999 with
     |false=>rfl
     |true=>cases nb f.Ruling.Position 0 255 with
      |false=>rfl
      |true=>cases nb f.Ruling.Amount 1 1099511627776<;>rfl
    by_cases h:f.Ruling.Kind=4
    .rw[h];simp only[a,QbU,JB,Ja,XI];cases nb f.Ruling.Bib 1 9999 with
     |false=>rfl
     |true=>cases nb f.Ruling.Position 0 255 with
      |false=>rfl
      |true=>cases nb f.Ruling.Amount 1 64<;>rfl
    by_cases j:f.Ruling.Kind=5
    .rw[j];simp only[a,QbU,JB,Ja,XI];cases nb f.Ruling.Bib 1 9999 with
     |false=>rfl
     |true=>cases nb f.Ruling.Position 0 255 with
      |false=>rfl
      |true=>cases nb f.Ruling.Amount 0 0<;>rfl
    have e:nb f.Ruling.Kind 1 5=false:=by
     rw[VJ,ne_eq,Qa5];omega
    rw[e,Vw.2 d,Vw.2 i,Vw.2 g,Vw.2 h,Vw.2 j];rfl
 |false=>
 cases(f.Kind==11)with
 |true=>
  have e:nb (suspB f) 0 1=true:=by unfold suspB;cases f.Appeal.Suspends<;>rfl
  simp only[QeL,XI,Vl,Vm,e,Vx,Bool.and_true]
 |false=>
 cases(f.Kind==12)with
 |true=>rfl
 |false=>
 cases(f.Kind==13)with
 |true=>simp only[Qkt,QgJ,Ja,XI,Vl,Vm,Qgv _ _ _ rfl,Option.some.injEq,Vx,Bool.and_true]
 |false=>rfl
theorem Qoc(n:Nat)(f:Fact):F_dn n f=some (onlyS f):=by
 rcases Qhy f with k|⟨m,p,h,s,g,j,q,l,r,e,a,i,d⟩
 .rcases k with k|k|k|k|k|k|k|k|k|k|k|k|k
  all_goals
   obtain⟨Cr,No,At,Ki,S,R,B,Sy,Ha,Si,Pa,Re,Pr,Ru,Ap,Vo⟩:=f;subst k;rfl
 .unfold F_dn onlyS;rw[m,p,h,s,g,j,q,l,r,e,a,d];rfl
theorem Qj2{f:Fact}(h:contR f=true):nb f.Kind 1 13=true:=by
 rw[Qa5];rcases Qhy f with k|⟨n,p,j,s,i,l,q,m,r,g,a,e,d⟩
 .omega
 .unfold contR at h;rw[n,p,j,s,i,l,q,m,r,g,a,e,d]at h;cases h
theorem QmU(f:Fact):headS f=(nb f.Kind 1 13&&(nb f.Crew 0 31&&(nb f.No 1 1048576&&(nb f.At 0 1099511627776&&true)))):=rfl
theorem Qin(n:Nat)(f:Fact):F_br n f=some (bif validS f then 0 else 120):=by
 unfold F_br;rw[Qkt,QgJ,Ja,Qjz,Qoc,Qcb,Qi5,QmU];simp[XI];have a:= @Qj2 f;have e:(f != onlyS f)= !(onlyS f==f):=by
  rw[bne,Bool.beq_comm]
 rw[e];cases d:contR f with
 |false=>
  rw[Bool.and_false,Bool.false_and];cases nb f.Crew 0 31 with
  |false=>rfl
  |true=>cases nb f.No 1 1048576 with
   |false=>rfl
   |true=>cases nb f.At 0 1099511627776<;>rfl
 |true=>
  rw[a d];cases nb f.Crew 0 31 with
  |false=>rfl
  |true=>cases nb f.No 1 1048576 with
   |false=>rfl
   |true=>cases nb f.At 0 1099511627776 with
    |false=>rfl
    |true=>cases(onlyS f==f)<;>rfl
theorem Qod(n:Nat)(f:Fact):F_cp n f=some (numsS f):=by
 unfold F_cp numsS;cases(f.Kind==1)with
 |true=>rfl
 |false=>
 cases(f.Kind==2)with
 |true=>rfl
 |false=>
 cases(f.Kind==3)with
 |true=>rfl
 |false=>
 cases(f.Kind==4)with
 |true=>rfl
 |false=>
 cases(f.Kind==5)with
 |true=>rfl
 |false=>
 cases(f.Kind==6)with
 |true=>rfl
 |false=>
 cases(f.Kind==7)with
 |true=>rfl
 |false=>
 cases(f.Kind==8)with
 |true=>rfl
 |false=>
 cases(f.Kind==9)with
 |true=>rfl
 |false=>
 cases(f.Kind==10)with
 |true=>rfl
 |false=>
 cases(f.Kind==11)with
 |true=>
  unfold suspB;cases f.Appeal.Suspends<;>rfl
 |false=>
 cases(f.Kind==13)with
 |true=>rfl
 |false=>rfl
theorem QjO(l:List Int)(j:l.length<=1000):Ev (λn=>F_fc n l) (l.map mkV):=by
 refine Ea ?_ (Qa _);have e:∀(m:List Int) (a:List Value),m.foldl (λa x=>a++[mkV x]) a=a++m.map mkV:=by
  intro m
  induction m with
  |nil=>simp
  |cons x m h=>intro a;simp only[XC];rw[h];simp
 refine Eu (Y3 l (λa x=>a++[mkV x]) [] (λa i=>(a,(i:Int))) (λa=>a) (by omega) rfl (λi x a d f=>?_) ?_) (by rw[e];rfl)
 .unfold F_ko F_fu;simp only[d.lt,d.ix,XI,d.nx];have g:a.length<=1000:=by rw[f,e,Ve,XZ,Xx];omega
  rw[Qby _ _ (by omega)];exact Qa _
 .unfold F_ko;simp[Jl];exact Qa _
theorem Qim(n:Nat)(x:Int)(h:in63 x):F_dv n x=some (zigI x):=by
 obtain⟨a,d⟩:=h;unfold F_dv;simp only[Qbl];by_cases p:0<=x
 .rw[QX p,QeG p d];simp[Vl,Option.some.injEq];omega
 .rw[QW p,QeH (by omega) a,Qn (show-9223372036854775808<=x+1 by omega) (by omega),Qn (show-9223372036854775808<=0-(x+1)by omega) (by omega)];simp[Vm,Option.some.injEq];omega
theorem Qgq:∀(k v:Nat),v<128^(k+1)->k<=9->v<18446744073709551616->Ev (λn=>F_j n (v:Int)) (numN v):=by
 intro k
 induction k with
 |zero=>
  intro v e _ _;refine QY ?_;show Ev (λn=>B_j (F_j n) n v) _;unfold B_j;rw[QX (show(v:Int)<128 by omega),Ju (by omega)];exact Qa _
 |succ k f=>
  intro v e j h;refine QY ?_;show Ev (λn=>B_j (F_j n) n v) _;unfold B_j;by_cases q:v<128
  .rw[QX (show(v:Int)<128 by omega),Ju (by omega)];exact Qa _
  .rw[QW (show¬(v:Int)<128 by omega)];have a:v/128<128^(k+1):=by rw[Nat.div_lt_iff_lt_mul (by decide)];exact e
   have i:u64.wrap (Int.tdiv v 128)=v/128:=by
    rw[Qbl,Int.tdiv_eq_ediv_of_nonneg (by omega)];omega
   have g:u8.wrap (u64.wrap ((Int.tmod v 128)+128))=v%128+128:=by
    rw[Qhd,Qbl,Int.tmod_eq_emod_of_nonneg (by omega)];omega
   rw[i,g,Qcg v,Vq (show 128<=v by omega)];refine Ea (f (v/128) a (by omega) (by omega)) ?_;have d:=Qis k (v/128) a;rw[Qcp _ _ (by simp;omega)];exact Qa _
theorem QgX(v:Nat)(h:v<18446744073709551616):Ev (λn=>F_j n (v:Int)) (numN v):=Qgq 9 v (Vc h (by decide)) (XS _) h
theorem QjQ(x:Int)(h:in63 x):Ev (λn=>F_k n (mkV x)) (oneB x):=by
 refine QY ?_;show Ev (λn=>B_k (F_k n) n (mkV x)) _;unfold B_k;have e:((mkV x).Kind==1)=true:=rfl;obtain⟨z,a,d⟩:=Qe7 x;refine Ea (Ez (Qim 0 x h)) ?_;rw[a];refine Ea (QgX z d) ?_;have:=Qbp d;rw[Qcp _ _ (by simp;omega)];refine(Qa _).eq ?_;unfold oneB;rw[a];simp
theorem QjP(l:List Int)(E:l.length<=1000)(h:∀x∈l,in63 x):Ev (λn=>F_k n (listV l)) (listB l):=by
 refine QY ?_;show Ev (λn=>B_k (F_k n) n (listV l)) _;unfold B_k;have e:((listV l).Kind==1)=false:=rfl;have z:((listV l).Kind==2)=false:=rfl;have t:(listV l).L=l.map mkV:=rfl;rw[e,z,t];have B:u64.wrap (((l.map mkV).length:Int))=((l.length:Nat):Int):=by
  rw[Qbl,XZ];omega
 rw[B];refine Ea (QgX l.length (by omega)) ?_;have w:=Qbp (show l.length<18446744073709551616 by omega);rw[Qcp _ _ (by simp;omega)];refine Ea (Qa _) ?_;refine Ea ?_ (Qa _);have f:∀(m:List Int) (a:List Int),((m.map mkV).foldl (λa (v:Value)=>a++oneB v.N) a).length<=a.length+11*m.length:=by
  intro m
  induction m with
  |nil=>intro a;simp
  |cons x m p=>
   intro a;simp only[Vg,XC,XY];have u:=p (a++oneB (mkV x).N);have g:=Qfr (mkV x).N;rw[X0]at u;omega
 have k:=Y3 (step:=λn=>F_iq n (listV l) (F_k n)) (l.map mkV) (λa (v:Value)=>a++oneB v.N) ([3]++numN l.length) (λa i=>(a,(i:Int))) (λa=>a) (by rw[XZ];omega) rfl (λi x a j s=>?_) ?_
 .refine Eu k ?_;have:∀(m:List Int) (a:List Int),(m.map mkV).foldl (λa (v:Value)=>a++oneB v.N) a=a++(m.map oneB).flatten:=by
   intro m
   induction m with
   |nil=>intro a;simp
   |cons x m p=>intro a;simp only[Vg,XC];rw[p];simp[mkV]
  rw[this];rfl
 .obtain⟨y,r,rfl⟩:=Xf.1 j.mem;have hal:=by
   have g:=f (l.take i) ([3]++numN l.length);rw[List.map_take, <- s,X0,Xx]at g;simp at g;omega
  unfold F_iq;have d:decide ((i:Int)<((listV l).L.length:Int))=true:=j.lt;have q:idx (listV l).L (i:Int)=some (mkV y):=j.ix;simp only[d,Vl,q,XI,j.nx];refine Ea (QjQ y (h y r)) ?_;have g:=Qfr y;have:app a (oneB y)=some (a++oneB y):=by
   unfold app;have:Nat.ble (a.length+(oneB y).length) Yn=true:=XR (XU (show _<=1000000 by omega) (by decide));rw[this];rfl
  rw[this];exact Qa _
 .unfold F_iq;have d:decide (((l.map mkV).length:Int)<((listV l).L.length:Int))=false:=Jl _;simp only[d];exact Qa _
theorem Qgr(x:Int):Ev (λn=>F_ai n (mkV x)) true:=by
 refine QY ?_;exact Qa _
theorem QhH(l:List Int)(j:l.length<=1000):Ev (λn=>F_ai n (listV l)) true:=by
 refine QY ?_;show Ev (λn=>B_ai (F_ai n) n (listV l)) _;unfold B_ai;have m:((listV l).Kind==1)=false:=rfl;have k:((listV l).Kind==2)=false:=rfl;have h:((listV l).Kind==3)=true:=rfl;refine Ea (v:=Ctl.cont ()) (Ev.iter (λi=>(i:Int)) (l.map mkV).length rfl (λi g=>?_) ?_) (Qa _)
 .have d:=Jm (show(l.map mkV).length<=4611686018427387904 by rw[XZ];omega) (XJ g);obtain⟨y,f⟩:∃y,(l.map mkV)[i]=mkV y:=by rw[List.getElem_map];exact⟨_,rfl⟩
  unfold F_kl;have a:decide (i<((listV l).L.length:Int))=true:=d.lt;have e:idx (listV l).L i=some (l.map mkV)[i]:=d.ix;simp only[a,e,XI,d.nx];rw[f];exact Ea (Qgr y) (Qa _)
 .unfold F_kl;have a:decide ((l.map mkV).length<((listV l).L.length:Int))=false:=Jl _;simp only[a];exact Qa _
theorem QhK(x:Int):Ev (λn=>F_aj n (mkV x)) 0:=by
 refine QY ?_;exact Qa _
theorem QhJ(l:List Int)(h:l.length<=1000):Ev (λn=>F_aj n (listV l)) 1:=by
 refine QY ?_;show Ev (λn=>B_aj (F_aj n) n (listV l)) _;unfold B_aj;have j:((listV l).Kind != 3)=false:=rfl;refine Ea (v:=0) (Ev.iter (λi=>(0,(i:Int))) (l.map mkV).length rfl (λi g=>?_) ?_) (Qa _)
 .have d:=Jm (show(l.map mkV).length<=4611686018427387904 by rw[XZ];omega) (XJ g);obtain⟨y,f⟩:∃y,(l.map mkV)[i]=mkV y:=by rw[List.getElem_map];exact⟨_,rfl⟩
  unfold F_ks;have a:decide ((i:Int)<(listV l).L.length)=true:=d.lt;have e:idx (listV l).L i=some (l.map mkV)[i]:=d.ix;simp only[a,e,XI,d.nx];rw[f];exact Ea (QhK y) (Qa _)
 .unfold F_ks;have a:decide ((l.map mkV).length<((listV l).L.length:Int))=false:=Jl _;simp only[a];exact Qa _
theorem QmE(f:Fact):(numsS f).length<=12:=by
 unfold numsS;cases(f.Kind==1)with
 |true=>exact XQ rfl
 |false=>
 cases(f.Kind==2)with
 |true=>exact XQ rfl
 |false=>
 cases(f.Kind==3)with
 |true=>exact XQ rfl
 |false=>
 cases(f.Kind==4)with
 |true=>exact XQ rfl
 |false=>
 cases(f.Kind==5)with
 |true=>exact XQ rfl
 |false=>
 cases(f.Kind==6)with
 |true=>exact XQ rfl
 |false=>
 cases(f.Kind==7)with
 |true=>exact XQ rfl
 |false=>
 cases(f.Kind==8)with
 |true=>exact XQ rfl
 |false=>
 cases(f.Kind==9)with
 |true=>exact XQ rfl
 |false=>
 cases(f.Kind==10)with
 |true=>exact XQ rfl
 |false=>
 cases(f.Kind==11)with
 |true=>exact XQ rfl
 |false=>cases(f.Kind==13)<;>exact XQ rfl
theorem Qdm(f:Fact):Ev (λn=>F_bx n f) (encF f):=by
 refine Ea (Qbk (Qa _) λn=>Qin n f) ?_;cases a:validS f with
 |false=>
  unfold encF;rw[a];exact Qa _
 |true=>
  rw[QdT a];refine Ea (Qbk (Qa _) λn=>Qod n f) ?_;have d:=QmE f;refine Ea (QjO _ (by omega)) (Ea (v:=(listB (numsS f),0)) ?_ (Qa _));exact Ea (Ea (QhH _ (by omega)) (Ea (QhJ _ (by omega)) (Qa _))) (Ea (QjP _ (by omega) (QcQ a)) (Qa _))
theorem QkA:∀a b:List UInt8,Op.bytesLess a b=decide (Lib.compareBytes a b<0)
 |[],[]=>rfl
 |[],_::_=>rfl
 |_::_,[]=>rfl
 |a::x,b::y=>by
  unfold Op.bytesLess Lib.compareBytes;by_cases h:a<b
  .rw[Vq h,QX h];rfl
  .rw[Vp h,QW h];by_cases h2:b<a
   .rw[Vq h2];have:(a==b)=false:=by
     rw[Vw];rintro rfl;exact h h2
    rw[this];rfl
   .rw[Vp h2];have:a=b:=by
     rw[UInt8.lt_iff_toNat_lt]at h h2;exact UInt8.toNat_inj.1 (by omega)
    rw[this,beq_self_eq_true,QkA x y];rfl
theorem Qi7:∀a b:List UInt8,Lib.compareBytes a b= -1\/Lib.compareBytes a b=0\/Lib.compareBytes a b=1
 |[],[]=>.inr (.inl rfl)
 |[],_::_=>.inl rfl
 |_::_,[]=>.inr (.inr rfl)
 |a::x,b::y=>by
  unfold Lib.compareBytes;split
  .exact .inl rfl
  .split
   .exact .inr (.inr rfl)
   .exact Qi7 x y
theorem QcF(f g:Fact):Ev (λn=>F_ci n f g) (cmpF f g):=by
 refine QY (QY (QY (QY ?_)));unfold F_ci;rw[Qf6];have a:∀n,F_ga n f g 0=(bif decide (f.At<g.At)then some (.done (.done (-1)))else bif decide (g.At<f.At)then some (.done (.done 1))else some (.cont 1)):=λn=>rfl;have i:∀n,F_ga n f g 1=(bif decide (f.Crew<g.Crew)then some (.done (.done (-1)))else bif decide (g.Crew<f.Crew)then some (.done (.done 1))else some (.cont 2)):=λn=>rfl;have j:∀n,F_ga n f g 2=(bif decide (f.No<g.No)then some (.done (.done (-1)))else bif decide (g.No<f.No)then some (.done (.done 1))else some (.cont 3)):=λn=>rfl;have d:∀n,F_ga n f g 3=some (.done (.cont ())):=λn=>rfl;simp[iter,a];unfold cmpI;cases decide (f.At<g.At)with
 |true=>exact Qa _
 |false=>
 cases decide (g.At<f.At)with
 |true=>exact Qa _
 |false=>
 simp[Vm,i];cases decide (f.Crew<g.Crew)with
 |true=>exact Qa _
 |false=>
 cases decide (g.Crew<f.Crew)with
 |true=>exact Qa _
 |false=>
 simp[Vm,j];cases decide (f.No<g.No)with
 |true=>exact Qa _
 |false=>
 cases decide (g.No<f.No)with
 |true=>exact Qa _
 |false=>
 simp[Vm,d,XI];refine Ea (Ev.shift (Ev.shift (Ev.shift (Ev.shift (Qdm f))))) (Ea (Ev.shift (Ev.shift (Ev.shift (Ev.shift (Qdm g))))) ?_);unfold cmpB;rw[QkA];rcases Qi7 ((encF f).1.map Q6) ((encF g).1.map Q6)with h|h|h
 .rw[h];exact Qa _
 .have e:=Qnq h;rw[h,e,beq_self_eq_true];exact Qa _
 .have:((encF f).1.map Q6==(encF g).1.map Q6)=false:=by
   rw[Vw];intro e;rw[e,cb_ok.refl]at h;cases h
  rw[h,this];exact Qa _
def leadC(x:Fact):List Fact->Nat
 |[]=>0
 |y::r=>bif decide (cmpF y x<0)then leadC x r+1 else 0
theorem Qiy(x:Fact):∀l:List Fact,leadC x l<=l.length
 |[]=>XS _
 |y::r=>by
  unfold leadC;have:=Qiy x r;cases decide (cmpF y x<0)<;>simp<;>omega
theorem QgQ(x:Fact):∀l:List Fact,insC x l=if l[leadC x l]?=some x then l else l.take (leadC x l)++x::l.drop (leadC x l)
 |[]=>by simp[insC]
 |y::r=>by
  unfold insC leadC;cases decide (cmpF y x<0)with
  |true=>
   simp only[Vl];rw[QgQ x r];simp[XE,List.drop_succ_cons];split<;>simp
  |false=>
   by_cases e:y=x
   .simp
   .rw[Vw.2 e];simp[e]
theorem QoA(l:List Fact)(p:l.length<=1048576)(a:List Fact)(s:a.length<=1048576){i:Nat}{x:Fact}(h:At l i x):
  Ev (λn=>iter (F_dp n l (a,(i:Int))) n 0) ((leadC x a:Nat):Int):=by
 have loop:∀(r:List Fact) (j:Nat),a.drop j=r->j<=a.length->EvI (λn=>F_dp n l (a,i)) j (j+leadC x r):=by
  intro r
  induction r with
  |nil=>
   intro j e g;refine Ei ?_;unfold F_dp;simp only[QM e g,Vm];exact Qa _
  |cons y r m=>
   intro j e g;obtain⟨d,f⟩:=Qw (by omega) e;have k:=d.lt';unfold leadC;cases q:decide (cmpF y x<0)with
   |true=>
    refine Ew ?_ ((m (j+1) f (by omega)).eq (by simp[Vl];omega));unfold F_dp;simp only[d.lt,d.ix,h.ix,XI,d.nx];refine Ea (Ea (QcF y x) ((Qa _).eq q)) (Qa _)
   |false=>
    refine Ei ?_;unfold F_dp;simp only[d.lt,d.ix,h.ix,XI];refine Ea (Ea (QcF y x) ((Qa _).eq q)) (Qa _)
 have:=(loop a 0 rfl (XT _)).ev;simpa using this
theorem QfA(x:Fact):∀l:List Fact,(insC x l).length<=l.length+1
 |[]=>by simp[insC]
 |y::r=>by
  unfold insC;have:=QfA x r;cases decide (cmpF y x<0)with
  |true=>simp[Vl,XY];omega
  |false=>cases(y==x)<;>simp
theorem Qbz{α:Type}(l m:List α)(h:l.length+m.length<=4000000):app l m=some (l++m):=by
 unfold app;have:Nat.ble (l.length+m.length) Yn=true:=XR (XU h (by decide));rw[this];rfl
theorem Qeo(l:List Fact)(p:l.length<=1048575):Ev (λn=>F_bm n l) (canonS l):=by
 refine Ea (v:=canonS l) ?_ (Qa _);refine Y3 l (λa x=>bif validS x then insC x a else a) [] (λa i=>(a,(i:Int))) (λa=>a) (by omega) rfl (λi x a d h=>?_) ?_
 .have j:a.length<=i:=by
   have:∀(m:List Fact) (a:List Fact),(m.foldl (λa x=>bif validS x then insC x a else a) a).length<=a.length+m.length:=by
    intro m
    induction m with
    |nil=>intro a;simp
    |cons x m k=>
     intro a;rw[XC,XY];have r:=k (bif validS x then insC x a else a);have f:(bif validS x then insC x a else a).length<=a.length+1:=by
      cases validS x with
      |true=>exact QfA x a
      |false=>simp
     omega
   have f:=this (l.take i) [];rw[<- h,Xx]at f;simp at f;omega
  have g:=d.lt';unfold F_kr;simp only[d.lt,Vl,d.ix,XI,d.nx,Qin];refine Ea ?_ (Qa _);cases s:validS x with
  |false=>exact Qa _
  |true=>
   refine Ea (QoA l (by omega) a (by omega) d) ?_;have e:=Qiy x a;refine Ea (v:=decide (a[leadC x a]?=some x)) ?_ ?_
   .by_cases q:leadC x a<a.length
    .have hg:=XJ q;rw[QX (show((leadC x a:Nat):Int)<(a.length:Int)by omega),Q8 hg,hg];refine(Qa _).eq ?_;rw[XW];simp
    .rw[QW (show¬((leadC x a:Nat):Int)<(a.length:Int)by omega)];refine(Qa _).eq ?_;rw[XN (by omega)];simp
   .rw[QgQ x a];by_cases q:a[leadC x a]?=some x
    .rw[QX q,Vq q];exact Qa _
    .rw[QW q,Vp q];rw[Qfd a e,Qc2 a e];simp only[XI];rw[Qbz [] _ (by simp;omega)];simp only[XI];rw[Qbz _ [x] (by simp;omega)];simp only[XI];rw[Qbz _ _ (by simp;omega)];refine(Qa _).eq ?_;simp
 .unfold F_kr;simp only[Jl,Vm];exact Qa _
theorem Ev.same{α:Type}[DecidableEq α](l m:List α)(step:Nat->Int->Option (Ctl Int (Ctl Unit Bool)))(w:l.length<=4611686018427387904)
  (k:∀n s,step n s=(bif decide (s<(l.length:Int))then(idx l s).bind λx=>(idx m s).bind λy=>(bif (x != y)then some (.done (.done false))else some (.cont (i64.wrap (s+1))))else some (.done (.cont ())))):
  Ev (λn=>(bif ((l.length:Int) != (m.length:Int))then some false else(Go.Sw.iter (step n) n 0:Option (Ctl Unit Bool)).bind λb11=>match b11 with|.cont sb11=>(some true)|.done sb11=>some sb11)) (decide (l=m)):=by
 by_cases d:l.length=m.length
 .rw[show(l.length != (m.length:Int))=false by rw[d];simp];have loop:∀(r f:List α) (i:Nat),l.drop i=r->m.drop i=f->i<=l.length->EvI step i (bif decide (r=f)then Ctl.cont ()else Ctl.done false):=by
   intro r
   induction r with
   |nil=>
    intro f i j a q;have h1:=Xq.1 j;have:f=[]:=by rw[<- a];exact Xq.2 (by omega)
    subst this;refine Ei (Qbk (Qa _) λn=>?_);rw[k,QM j q];simp
   |cons x r z=>
    intro f i j a q;obtain⟨g,p⟩:=Qw w j;have u:=g.lt';cases f with
    |nil=>
     have h1:=Xq.1 a;omega
    |cons y f=>
     obtain⟨t,h⟩:=Qw (by omega) a;by_cases e:x=y
     .subst e;refine Ew ?_ ((z f (i+1) p h (by omega)).eq ?_)
      .refine Qbk (Qa _) λn=>?_;rw[k,g.lt,g.ix,t.ix,Vl,XI,XI,g.nx];simp
      .simp
     .refine Ei (Qbk (Qa _) λn=>?_);rw[k,g.lt,g.ix,t.ix,Vl,XI,XI,bne_iff_ne.2 e];simp[e]
  refine Ea (loop l m 0 rfl rfl (XT _)).ev ?_;cases decide (l=m)<;>exact Qa _
 .rw[show(l.length != (m.length:Int))=true by rw[bne_iff_ne];omega];refine(Qa _).eq ?_;rw[QW λe=>d (by rw[e])]
theorem Qjm{c:Course}(h:Course.wf c):CourseOk c:=by
 obtain⟨m,⟨j,n⟩,⟨g,s⟩,⟨p,d⟩,⟨i,e⟩,⟨q,k⟩,⟨f,r⟩,⟨l,t⟩,_⟩:=h;exact⟨m,j,λx a=>(n x a).1,g,p,λx a=>(d x a).1,λx a=>(d x a).2.2.2.1.1,i,λx a=>(e x a).1,q,λx a=>(k x a).1,f,λx a=>(r x a).1,l⟩
theorem Qkb{c:Course}(h:Course.wf c):PartsOk c:=by
 obtain⟨_,_,_,⟨f,e⟩,_⟩:=h;exact⟨λd a=>(e d a).2.1.1,λd a=>(e d a).2.1.2⟩
theorem Qn7{c:Course}(h:Course.wf c):c.Ties.length<=1048576/\ ∀x∈c.Ties,Step.wf x:=by
 obtain⟨_,_,_,_,_,_,_,_,a,_⟩:=h;exact a
theorem Qbv(l:List Fact):(canonS l).length<=l.length:=by
 have:∀(m a:List Fact),(m.foldl (λa x=>bif validS x then insC x a else a) a).length<=a.length+m.length:=by
  intro m
  induction m with
  |nil=>simp
  |cons x m d=>
   intro a;rw[XC,XY];have e:=d (bif validS x then insC x a else a);have f:(bif validS x then insC x a else a).length<=a.length+1:=by
    cases validS x with
    |true=>exact QfA x a
    |false=>simp
   omega
 have:=this l [];simpa[canonS]using this
section
variable {α β:Type}
theorem Qlw{l:List α}[DecidableEq (List α)](d:l.length<=1048576):isNil l (some ([]:List α)) ((app ([]:List α) l).bind λx=>some x)=some l:=by
 have:app [] l=some l:=by rw[Qbx _ _ (by simp;omega)];rfl
 unfold isNil;cases l with
 |nil=>rw[this];simp
 |cons a l=>rw[this];rfl
theorem QnS{F:Nat->α->α->Option β}{V:α->α->β}(l:List α)(h:∀x∈l,∀y∈l,Ev (λn=>F n x y) (V x y)):∃N,∀n,N<=n->∀x∈l,∀y∈l,F n x y=some (V x y):=by
 obtain⟨N,g⟩:=QaN (F:=λn p=>F n p.1 p.2) (V:=λp=>V p.1 p.2) (l.flatMap λx=>l.map λy=>(x,y)) (by
  intro p a;rw[List.mem_flatMap]at a;obtain⟨x,e,a⟩:=a;obtain⟨y,d,rfl⟩:=Xf.1 a;exact h x e y d)
 exact⟨N,λn f x e y d=>g n f (x,y) (List.mem_flatMap.2 ⟨x,e,Xf.2 ⟨y,d,rfl⟩⟩)⟩
def ltC(c:α->α->Int)(x y:α):Bool:=decide (c x y<0)
theorem Qch{c:α->α->Int}(d:CmpOK c)(l:List α):Qf7 (ltC c) l:=by
 refine⟨λx _=>?_,λx _ y _ z _ g f=>?_,λx _ y _ z _ g f=>?_⟩
 .have:=d.refl x;exact Vu (by omega)
 .have g:=Vs g;have f:=Vs f;exact Vr (d.trans x y z g f)
 .have g:=Vt g;have f:=Vt f;refine Vu λh=>?_;have a:=d.swap x y;have b:=d.swap y z;by_cases e:c x y=0
  .rw[d.eqt x y z e]at h;exact f h
  .by_cases i:c y z=0
   .rw[<- d.eqr x i]at h;exact g h
   .have j:=d.trans z y x (by omega) (by omega);have:=d.swap x z;omega
theorem Qlb[DecidableEq α]{j:Nat->α->α->Option Int}{l:List α}{c:α->α->Int}(t:l.length<=1048576)(E:∀x∈l,∀y∈l,Ev (λn=>j n x y) (c x y))(a:CmpOK c)(p:∀x∈l,∀y∈l,c x y=0->x=y):
  Ev (λn=>QbP (j n) l) (QaV (ltC c) l):=by
 obtain⟨N,B⟩:=QnS l E;refine⟨N,λn w=>?_⟩;have h:=B n w;have r:=Qmq (XQ (Qop t)) c h (λx _=>by have:=a.refl x;omega) (λx _ y _ z _=>a.trans x y z) (λx e y d z s i g=>by
   have:=(Qch a l).ntrans x e y d z s (Vu i) (Vu g);exact Vt this) (λx e y d i g=>p x e y d (by have:=a.swap x y;omega))
 show QbP (j n) l=some (QaV (ltC c) l);rw[r];congr 1;obtain⟨_,_,u,_,_⟩:=Qfc r;have f:∀x∈l,∀y∈l,ltO (j n) x y=ltC c x y:=λx e y d=>by unfold ltO ltC;rw[h x e y d]
 refine Qbm ((QQ _ l).trans (QQ _ l).symm) (λx e y d i g=>?_) ?_ (YI (Qch a l))
 .have m:=(QQ _ l).mem_iff.1 e;have k:=(QQ _ l).mem_iff.1 d;have i:=Vt i;have g:=Vt g;exact p x m y k (by have:=a.swap x y;omega)
 .refine List.Pairwise.imp_of_mem (λ{x y} e d q=>?_) (YI u);have m:=(QQ _ l).mem_iff.1 e;have k:=(QQ _ l).mem_iff.1 d;rw[<- f y k x m];exact q
end
def ddA(p:Fact):List Fact->List Fact
 |[]=>[]
 |x::r=>bif x==p then ddA x r else x::ddA x r
def dd:List Fact->List Fact
 |[]=>[]
 |x::r=>x::ddA x r
theorem Qnn{x p:Fact}{r:List Fact}(q:(x==p)=true):ddA p (x::r)=ddA x r:=by
 show(bif x==p then ddA x r else x::ddA x r)=_;rw[q];rfl
theorem Qnm{x p:Fact}{r:List Fact}(q:(x==p)=false):ddA p (x::r)=x::ddA x r:=by
 show(bif x==p then ddA x r else x::ddA x r)=_;rw[q];rfl
theorem Qnl:∀(r:List Fact) (p:Fact),(∀x∈r,¬cmpF x p<0)->r.Pairwise (λa b=>¬cmpF b a<0)->(∀x∈p::r,validS x=true)->(ddA p r).Pairwise ltF/\(∀x∈ddA p r,ltF p x)/\ ∀x,x∈p::ddA p r↔x∈p::r
 |[],p,_,_,_=>⟨List.Pairwise.nil,(λ_ h=>by cases h),λ_=>Iff.rfl⟩
 |y::r,p,h1,h2,h3=>by
  rw[Xc]at h2;obtain⟨i1,i2,i3⟩:=Qnl r y h2.1 h2.2 λx hx=>h3 x (by simp only[X4]at hx⊢;exact .inr hx);have hy:=h1 y (by simp);unfold ddA;cases q:y==p with
  |true=>
   have e:y=p:=by simpa using q
   subst e;refine⟨i1,i2,λx=>?_⟩;rw[Vl,i3 x];simp
  |false=>
   have f:¬cmpF y p=0:=λe=>by simp[Qe0 (h3 y (by simp)) (h3 p (by simp)) e]at q
   have d:ltF p y:=by
    have:=QkW.swap y p;unfold ltF;omega
   simp only[Vm];refine⟨Xc.2 ⟨i2,i1⟩,λx hx=>?_,λx=>?_⟩
   .rcases X4.1 hx with rfl|hx
    .exact d
    .exact QjG _ _ _ d (i2 x hx)
   .rw[X4,i3 x,X4 (a:=x) (b:=p)]
theorem dd_ok{S:List Fact}(h:S.Pairwise λa b=>¬cmpF b a<0)(f:∀x∈S,validS x=true):(dd S).Pairwise ltF/\ ∀x,x∈dd S↔x∈S:=by
 cases S with
 |nil=>exact⟨List.Pairwise.nil,λ_=>Iff.rfl⟩
 |cons a r=>
  rw[Xc]at h;obtain⟨d,g,e⟩:=Qnl r a h.1 h.2 f;exact⟨Xc.2 ⟨g,d⟩,e⟩
theorem QhE(x y:Fact):Ev (λn=>F_ce n x y) ():=Qa _
theorem QkG{l:List Fact}{a j:Nat}{x:Fact}(h:l[a+j]?=some x){m:Int}(e:m=(l.length:Int)):QcS l (a:Int) m (j:Int)=some x:=by
 have d:=(XK.1 h).1;unfold QcS;rw[Vr (show 0<=(a:Int)by omega),Vr (show 0<=(j:Int)by omega),Vr (show a+j<m by omega)];exact Q8 h
theorem QhS{α:Type}{l r:List α}{i:Nat}{x:α}(h:l.drop i=x::r):l[i]?=some x/\l.drop (i+1)=r/\i<l.length:=by
 have h1:=by
  have:=congrArg (λl=>l[0]?) h;simpa using this
 refine⟨h1,?_,(XK.1 h1).1⟩;have:=Xp (XK.1 h1).1;rw[h]at this;exact(List.cons.inj this).2.symm
theorem QiZ(a:List Fact)(L:a.length<=1048576)(d:Nat):∀(r s:List Fact) (i j:Nat) (p:Fact),s.length=a.length->s.drop (d+(j+1))=r->s[d+j]?=some p->i<d+(j+1)->d+(j+1)<=s.length->
  ∃(s':List Fact) (e:Nat),EvI (λn=>F_gl n a (d:Int)) (s,(i:Int),((j+1:Nat):Int)) (s',(e:Int))/\e<=s'.length/\s'.take e=s.take i++ddA p r:=by
 intro r
 induction r with
 |nil=>
  intro s i j p f h z H G;refine⟨s,i,Ei ?_,by omega,by simp[ddA]⟩;have:=Xq.1 h;unfold F_gl;rw[QW (show¬(((j+1:Nat):Int)<((toNat (a.length:Int)-toNat (d:Int):Nat):Int))by omega)];exact Qa _
 |cons x r B=>
  intro s i j p f h z H G;obtain⟨g,E,F⟩:=QhS h;have y:=QkG g (show(a.length:Int)=(s.length:Int)by rw[f]);have w:=QkG z (show(a.length:Int)=(s.length:Int)by rw[f]);have w1:i64.wrap (((j+1:Nat):Int)-1)=(j:Int):=by rw[Qn (by omega) (by omega)];omega
  have w2:i64.wrap (((j+1:Nat):Int)+1)=((j+1+1:Nat):Int):=Q2 (by omega);have u:decide (((j+1:Nat):Int)<((toNat (a.length:Int)-toNat (d:Int):Nat):Int))=true:=Vr (by omega);have m:i<s.length:=by omega
  cases q:x==p with
  |true=>
   obtain⟨s',e,k,l,t⟩:=B s i (j+1) x f (by rw[show d+(j+1+1)=d+(j+1)+1 by omega];exact E) g (by omega) (by omega);refine⟨s',e,Ew ?_ k,l,by rw[t,Qnn q]⟩;unfold F_gl;simp only[u,Vl,y,w1,w,XI];refine Ea (QhE x p) ?_;rw[q];simp only[Xh,Vm,XI,w2];exact Qa _
  |false=>
   have J:(s.set i x).length=a.length:=by rw[X2];exact f
   obtain⟨s',e,k,l,t⟩:=B (s.set i x) (i+1) (j+1) x J (by rw[show d+(j+1+1)=d+(j+1)+1 by omega,List.drop_set_of_lt (by omega)];exact E) (by rw[XO (by omega)];exact g) (by omega) (by rw[X2];omega);have w3:i64.wrap ((i:Int)+1)=((i+1:Nat):Int):=Q2 (by omega);refine⟨s',e,Ew ?_ k,l,?_⟩
   .unfold F_gl;simp only[u,Vl,y,w1,w,XI];refine Ea (QhE x p) ?_;rw[q];simp only[Xi,Vl,XI,w2,Q8 (XJ m),Qff s x m,w3];exact Qa _
   .rw[t,List.take_add_one,Xa m,List.take_set_of_le (XS _)];rw[Qnm q];simp
theorem Qi0(a:List Fact)(u:a.length<=1048576):∀(r:List Fact) (k:Nat) (p:Fact),a.drop (k+1)=r->a[k]?=some p->k+1<=a.length->∃b:Ctl Unit (List Fact),EvI (λn=>F_gb n a) ((k+1:Nat):Int) b/\((b=.cont ()/\ddA p r=r)\/b=.done (a.take (k+1)++ddA p r)):=by
 intro r
 induction r with
 |nil=>
  intro k p i h t;refine⟨.cont (),Ei ?_,.inl ⟨rfl,rfl⟩⟩;have:=Xq.1 i;unfold F_gb;rw[QW (show¬(((k+1:Nat):Int)<(a.length:Int))by omega)];exact Qa _
 |cons x r w=>
  intro k p i h t;obtain⟨g,s,f⟩:=QhS i;have w1:i64.wrap (((k+1:Nat):Int)-1)=(k:Int):=by rw[Qn (by omega) (by omega)];omega
  have w2:i64.wrap (((k+1:Nat):Int)+1)=((k+1+1:Nat):Int):=Q2 (by omega);have m:decide (((k+1:Nat):Int)<(a.length:Int))=true:=Vr (by omega);cases q:x==p with
  |true=>
   obtain⟨y,z,j,d,l⟩:=QiZ a u (k+1) r a (k+1) 0 x rfl s g (by omega) (by omega);refine⟨.done (a.take (k+1)++ddA p (x::r)),Ei ?_,.inr rfl⟩;unfold F_gb;simp only[m,Vl,Q8 g,w1,Q8 h,XI];refine Ea (QhE x p) ?_;rw[q];simp only[Vl,Qc2 a (Nat.le_of_lt f),XI];refine Ea j.ev ?_;simp only[Qfd y d,XI];rw[l];rw[Qnn q];exact Qa _
  |false=>
   obtain⟨b,j,d⟩:=w (k+1) x s g f;have e:=Qnm (r:=r) q;refine⟨b,Ew ?_ j,?_⟩
   .unfold F_gb;simp only[m,Vl,Q8 g,w1,Q8 h,XI];refine Ea (QhE x p) ?_;rw[q];simp only[Vm,w2];exact Qa _
   .rcases d with⟨d,l⟩|d
    .exact .inl ⟨d,by rw[e,l]⟩
    .refine .inr ?_;rw[d,e,List.take_add_one,g];simp
theorem QiY(a:List Fact)(d:a.length<=1048576):Ev (λn=>F_cs n a) (dd a):=by
 unfold F_cs
 match a,d with
 |[],_=>exact Qa _
 |[x],_=>exact Qa _
 |x::y::r,d=>
  rw[QW (show¬(((x::y::r).length:Int)<2)by simp;omega)];refine Q1 ?_;obtain⟨b,g,e⟩:=Qi0 (x::y::r) d (y::r) 0 x rfl rfl (by simp);refine Ea g.ev ?_;rcases e with⟨rfl,f⟩|rfl
  .show Ev (λn=>some (x::y::r)) (x::ddA x (y::r));rw[f];exact Qa _
  .exact Qa _
section
variable {S T B:Type} {step:Nat->S->Option (List T×Ctl S B)} {s s':S} {b:B} {xs ys:List T}
def EvL(step:Nat->S->Option (List T×Ctl S B))(s:S)(ys:List T)(b:B):Prop:=∃N,∀n k,N<=n->N<=k->QbY (step n) k s=some (ys,b)
theorem EvL.done(h:Ev (λn=>step n s) (ys,.done b)):EvL step s ys b:=by
 obtain⟨N,h⟩:=h;refine⟨N+1,λn k f d=>?_⟩;obtain⟨a,rfl⟩:∃a,k=a+1:=⟨k-1,by omega⟩;have e:step n s=some (ys,.done b):=h n (by omega);unfold QbY;rw[e];rfl
theorem EvL.cont(h:Ev (λn=>step n s) (xs,.cont s'))(q:EvL step s' ys b):EvL step s (xs++ys) b:=by
 obtain⟨N,h⟩:=h;obtain⟨M,q⟩:=q;refine⟨max N M+1,λn k f d=>?_⟩;obtain⟨a,rfl⟩:∃a,k=a+1:=⟨k-1,by omega⟩;have e:step n s=some (xs,.cont s'):=h n (by omega);unfold QbY;rw[e];show(QbY (step n) a s').bind _=_;rw[q n a (by omega) (by omega)];rfl
theorem EvL.ev(h:EvL step s ys b):Ev (λn=>QbY (step n) n s) (ys,b):=by
 obtain⟨N,h⟩:=h;exact⟨N,λn a=>h n n a a⟩
end
section
variable {U T R:Type}
theorem Qcw{step:Nat->U->T->Option (Ctl U R)}(g:U->T->U)(I:U->Nat->Prop):∀(l:List T) (u:U),I u l.length->(∀x∈l,∀u k,I u (k+1)->Ev (λn=>step n u x) (.cont (g u x))/\I (g u x) k)->Ev (λn=>runL (step n) l u) (.cont (l.foldl g u))/\I (l.foldl g u) 0
 |[],u,h,_=>⟨Qa _,h⟩
 |x::l,u,h,q=>by
  obtain⟨h1,h2⟩:=q x (by simp) u l.length h;obtain⟨r1,r2⟩:=Qcw g I l (g u x) h2 λy hy=>q y (by simp[hy]);exact⟨Ea h1 r1,r2⟩
end
def ofK(k:Int)(f:Fact):Bool:=(f.Kind==k)&&validS f
def cntS(l:List Fact)(k:Int):List Fact:=(canonS l).filter λf=>f.Kind==k
theorem QiX(f:Fact)(k:Int):Ev (λn=>F_bj n f k) (!ofK k f):=by
 unfold F_bj ofK;refine Ea (v:= !((f.Kind==k)&&validS f)) ?_ (Qa _);cases q:f.Kind==k with
 |false=>simp only[bne,q,Xi,Vl,Bool.false_and];exact Qa _
 |true=>
  simp only[bne,q,Xh,Vm,Vx];refine Ea (Qgt f) ?_;cases validS f<;>exact Qa _
theorem QoC(l:List Fact)(k:Int)(h:l.length<=1048576):Ev (λn=>F_dq n l k) (l.filter (ofK k)):=by
 unfold F_dq F_gz;refine Eu (Qmc l (λg=> !ofK k g) h (Ev.first l _ (by omega) (λi x a=>?_) ?_) (λd i j x y p a e q f=>?_) λd i=>?_) (by simp)
 .unfold F_kq;simp only[a.lt,Vl,a.ix,XI,a.nx];refine Ea (QiX x k) ?_;cases ofK k x<;>exact Qa _
 .unfold F_kq;simp only[Jl,Vm];exact Qa _
 .have m:=(XK.1 e).1;unfold F_km;simp only[a.lt,Vl,a.ix,XI,a.nx];refine Ea (QiX x k) ?_;cases ofK k x with
  |false=>exact Qa _
  |true=>
   simp only[Xh,Xi,Vl,Vm,Q8 e,Qff d x m,XI,Q2 (show i<9223372036854775807 by omega)];exact Qa _
 .unfold F_km;simp only[Jl,Vm];exact Qa _
theorem QlA(r:List Fact)(l:r.length<=1048576):Ev (λn=>ap (QbY (F_fo n r) n 0) λ_=>some ([],())) (r,()):=by
 have loop:∀(q:List Fact) (i:Nat),r.drop i=q->i<=r.length->EvL (λn=>F_fo n r) (i:Int) q ():=by
  intro q
  induction q with
  |nil=>
   intro i d g;refine EvL.done ?_;unfold F_fo;simp only[QM d g,Vm];exact Qa _
  |cons f q k=>
   intro i d g;obtain⟨a,e⟩:=Qw (by omega) d;have j:=a.lt';refine EvL.cont (xs:=[f]) ?_ (k (i+1) e (by omega));unfold F_fo;simp only[a.lt,Vl,a.ix,XI,a.nx];exact Qa _
 have h:=(loop r 0 rfl (XT _)).ev;unfold ap;refine Ea h ?_;exact Eu (Qa _) (by simp)
theorem Qcm(l:List Fact)(k:Int):(cntS l k).length<=l.length:=XU (List.length_filter_le ..) (Qbv l)
theorem QaL(l:List Fact)(k:Int)(g:l.length<=1048576):Ev (λn=>F_s n l k) (cntS l k,()):=by
 unfold F_s F_gf;simp only[Qlw g,XI];refine Ea (QoC l k g) ?_;have p:=QQ (ltC cmpF) (l.filter (ofK k));have j:∀f∈l.filter (ofK k),validS f=true:=λf r=>by
  have:=(Xe.1 r).2;unfold ofK at this;rw[XV]at this;exact this.2
 have d:=XU (List.length_filter_le (ofK k) l) g;refine Ea (Qlb d (λx _ y _=>QjV x y) QkW λx i y m e=>Qe0 (j x i) (j y m) e) ?_;refine Ea (QiY _ (by rw[p.length_eq];exact d)) ?_;have s:(QaV (ltC cmpF) (l.filter (ofK k))).Pairwise λa b=>¬cmpF b a<0:=List.Pairwise.imp (λq=>Vt q) (YI (Qch QkW _));obtain⟨u,w⟩:=dd_ok s λx i=>j x (p.mem_iff.1 i);obtain⟨c1,t⟩:=QdU l;have e:dd (QaV (ltC cmpF) (l.filter (ofK k)))=cntS l k:=QcL Qoj QjG u (c1.1.filter _) λf=>by
  rw[w,p.mem_iff];simp only[cntS,Xe,t,ofK,XV];exact⟨λh=>⟨⟨h.1,h.2.2⟩,h.2.1⟩,λh=>⟨h.1.1,h.2,h.1.2⟩⟩
 rw[e];exact QlA _ (XU (Qcm l k) g)
def segLt(x y:Segment):Bool:=decide (x.Mat<y.Mat)||((x.Mat==y.Mat)&&decide (x.Epoch<y.Epoch))
def cmpSeg(x y:Segment):Int:=orL [cmpI x.Mat y.Mat,cmpI x.Epoch y.Epoch]
theorem QlN(x y:Segment):decide (0<=cmpSeg x y)= !segLt x y:=by
 unfold cmpSeg segLt orL orL orL cmpI;by_cases a:x.Mat<y.Mat
 .simp[a]
 .by_cases d:y.Mat<x.Mat
  .have:¬x.Mat=y.Mat:=by omega
   simp[a,d,this]
  .have:x.Mat=y.Mat:=by omega
   by_cases e:x.Epoch<y.Epoch
   .simp[a,d,this,e]
   .by_cases f:y.Epoch<x.Epoch
    iterate 2 simp[a,d,this,e,f]
theorem Qne(a b:Int):Ev (λn=>F_r n a b) (cmpI a b):=Qbk (Qa _) λn=>QkT n a b
theorem QiQ(x y:Segment):Ev (λn=>F_bg n x y) (cmpSeg x y):=by
 unfold F_bg F_es;exact Ea (Ea (Qne _ _) (Ea (Qne _ _) (Ea (QoY _ (by simp)) (Qa _)))) (Qa _)
def farG(c:Clocks)(i j:Nat):Int:=((c.Far[i]?.getD [])[j]?).getD 0
structure Dims (c:Clocks):Prop where
 segs:c.Segments.length<=511
 far:c.Far.length=c.Segments.length+1
 row:∀i,i<c.Far.length->(c.Far[i]?.getD []).length=c.Segments.length+1
theorem Dims.get{c:Clocks}(d:Dims c){i j:Nat}(hi:i<c.Segments.length+1)(e:j<c.Segments.length+1):c.Far[i]?=some (c.Far[i]?.getD [])/\(c.Far[i]?.getD [])[j]?=some (farG c i j):=by
 have a:i<c.Far.length:=by rw[d.far];exact hi
 have f:=d.row i a;refine⟨by rw[XJ a];rfl,?_⟩;unfold farG;have:j<(c.Far[i]?.getD []).length:=by omega
 rw[XJ this];rfl
set_option maxRecDepth 10000
structure EdgOk (n:Nat) (x:Edge):Prop where
 f0:0<=x.From
 f1:x.From<(n:Int)
 t0:0<=x.To
 t1:x.To<(n:Int)
 w0: -35184372088832<=x.W
 w1:x.W<=35184372088832
structure SysOk (n:Nat) (es:List Edge):Prop where
 n0:1<=n
 n1:n<=64
 e1:es.length<=256
 ok:∀x∈es,EdgOk n x
set_option maxRecDepth 10000
set_option maxRecDepth 10000
set_option maxRecDepth 10000
theorem QbM{f:Fact}(h:validS f=true):headS f=true/\contR f=true/\onlyS f=f:=by
 rw[Qcb,XV,XV,Qi5,Vv]at h;exact⟨h.1.1,h.1.2,h.2⟩
theorem Qjo{f:Fact}(h:validS f=true)(k:f.Kind=2):0<=f.Read.Epoch/\f.Read.Epoch<=255:=by
 obtain⟨_,a,_⟩:=QbM h;unfold contR at a;rw[k]at a;have d:(true&&(nb f.Read.Mat 0 39&&(nb f.Read.Epoch 0 255&&(nb f.Read.Chip 0 1048576&&(nb f.Read.Local (-1099511627776) 1099511627776&&true)))))=true:=a;simp only[XV,Qa5]at d;exact d.2.2.1
structure BeaOk (b:Beacon):Prop where
 ep:0<=b.Epoch/\b.Epoch<=255
 lo: -1099511627776<=b.Local/\b.Local<=1099511627776
 tr: -1099511627776<=b.True/\b.True<=1099511627776
 er:0<=b.Err/\b.Err<=1099511627776
theorem YY{f:Fact}(h:validS f=true)(k:f.Kind=3):BeaOk f.Beacon:=by
 obtain⟨_,d,_⟩:=QbM h;unfold contR at d;rw[k]at d;have a:(true&&(nb f.Beacon.Mat 0 39&&(nb f.Beacon.Epoch 0 255&&(nb f.Beacon.Local (-1099511627776) 1099511627776&&(nb f.Beacon.True (-1099511627776) 1099511627776&&(nb f.Beacon.Err 0 1099511627776&&true))))))=true:=d;simp only[XV,Qa5]at a;exact⟨a.2.2.1,a.2.2.2.1,a.2.2.2.2.1,a.2.2.2.2.2.1⟩
structure SynOk (b:Sync):Prop where
 ea:0<=b.EpochA/\b.EpochA<=255
 la: -1099511627776<=b.LocalA/\b.LocalA<=1099511627776
 eb:0<=b.EpochB/\b.EpochB<=255
 lb: -1099511627776<=b.LocalB/\b.LocalB<=1099511627776
 mi: -1099511627776<=b.Min/\b.Min<=1099511627776
 ma: -1099511627776<=b.Max/\b.Max<=1099511627776
theorem QaG{f:Fact}(h:validS f=true)(k:f.Kind=4):SynOk f.Sync:=by
 obtain⟨_,d,_⟩:=QbM h;unfold contR at d;rw[k]at d;have a:(decide (f.Sync.Min<=f.Sync.Max)&&(nb f.Sync.MatA 0 39&&(nb f.Sync.EpochA 0 255&&(nb f.Sync.LocalA (-1099511627776) 1099511627776&&(nb f.Sync.MatB 0 39&&(nb f.Sync.EpochB 0 255&&(nb f.Sync.LocalB (-1099511627776) 1099511627776&&(nb f.Sync.Min (-1099511627776) 1099511627776&&(nb f.Sync.Max (-1099511627776) 1099511627776&&true)))))))))=true:=d;simp only[XV,Qa5]at a;exact⟨a.2.2.1,a.2.2.2.1,a.2.2.2.2.2.1,a.2.2.2.2.2.2.1,a.2.2.2.2.2.2.2.1,a.2.2.2.2.2.2.2.2.1⟩
theorem QaB{l:List Fact}{k:Int}{f:Fact}(h:f∈cntS l k):f∈l/\validS f=true/\f.Kind=k:=by
 unfold cntS at h;rw[Xe,(QdU l).2]at h;exact⟨h.1.1,h.1.2,by simpa using h.2⟩
structure CrsOk (c:Course):Prop where
 mats:c.Mats.length<=40
 res:0<=c.Faults.Residual/\c.Faults.Residual<=4294967296
 drift:0<=c.Faults.Drift/\c.Faults.Drift<=100000
def driftV(x k:Int):Int:=Int.tdiv ((if x<0-x then 0-x else x)*k+1000000-1) 1000000
theorem Qb3{x k:Int}(i: -2199023255552<=x/\x<=2199023255552)(d:0<=k/\k<=100000):0<=driftV x k/\driftV x k<=274877906944/\0<=(if x<0-x then 0-x else x)*k/\(if x<0-x then 0-x else x)*k<=219902325555200000:=by
 generalize ha:(if x<0-x then 0-x else x)=a;have h:0<=a:=by rw[<- ha];split<;>omega
 have f:a<=2199023255552:=by rw[<- ha];split<;>omega
 have j:0<=a*k:=Int.mul_nonneg h d.1;have g:a*k<=2199023255552*100000:=Int.le_trans (Int.mul_le_mul_of_nonneg_right f d.1) (Int.mul_le_mul_of_nonneg_left d.2 (by decide));have e:(2199023255552:Int)*100000=219902325555200000:=by decide
 rw[e]at g;unfold driftV;rw[ha,Int.tdiv_eq_ediv_of_nonneg (by omega)];omega
theorem Qna{x k:Int}(d: -2199023255552<=x/\x<=2199023255552)(e:0<=k/\k<=100000):Ev (λn=>F_ch n x k) (driftV x k,0):=by
 obtain⟨i,h,j,g⟩:=Qb3 d e;unfold F_ch;refine Ea (v:=false) ?_ ?_
 .rw[QW (show¬(x< -2199023255552)by omega),QW (show¬(2199023255552<x)by omega),QW (show¬(k<0)by omega),QW (show¬(100000<k)by omega)];exact Qa _
 .have f:i64.wrap (0-x)=0-x:=Qn (by omega) (by omega);have w1:=Qn (n:=(if x<0-x then 0-x else x)*k) (by omega) (by omega);have w2:=Qn (n:=(if x<0-x then 0-x else x)*k+1000000) (by omega) (by omega);have w3:=Qn (n:=(if x<0-x then 0-x else x)*k+1000000-1) (by omega) (by omega);have a:=Qn (n:=driftV x k) (by omega) (by omega);refine Q1 ?_;rw[f,w1,w2,w3];unfold driftV at a⊢;rw[a];exact Qa _
def devV(c:Course)(k:Int)(s:Segment)(loc:Int):Span:=
 bif k != 1 then⟨0-driftV (loc-s.Anchor) c.Faults.Drift,c.Faults.Residual+driftV (loc-s.Anchor) c.Faults.Drift⟩else⟨0,c.Faults.Residual⟩
def isT(x:Int):Prop:= -1099511627776<=x/\x<=1099511627776
theorem Qj0{c:Course}(d:CrsOk c)(k:Int){s:Segment}{a:Int}(f:isT s.Anchor)(e:isT a): -274877906944<=(devV c k s a).Lo/\(devV c k s a).Lo<=0/\0<=(devV c k s a).Hi/\(devV c k s a).Hi<=279172874240:=by
 obtain⟨i,j⟩:=d.res;obtain⟨h,g,_,_⟩:=Qb3 (x:=a-s.Anchor) (by unfold isT at f e;omega) d.drift;unfold devV;cases k != 1 with
 |true=>simp only[Vl];omega
 |false=>simp only[Vm];omega
theorem Qpy{c:Course}(d:CrsOk c){i:Nat}{m:Mat}(f:c.Mats[i]?=some m){s:Segment}(h:s.Mat=(i:Int)){a:Int}(j:isT s.Anchor)(g:isT a):Ev (λn=>F_ap n c s a) (devV c m.Kind s a):=by
 obtain⟨p,q⟩:=d.res;have e: -2199023255552<=a-s.Anchor/\a-s.Anchor<=2199023255552:=by unfold isT at j g;omega
 obtain⟨l,k,_,_⟩:=Qb3 e d.drift;unfold F_ap devV;simp only[h,Q8 f,XI];cases m.Kind != 1 with
 |false=>exact Qa _
 |true=>
  simp only[Vl];refine Ea (v:=⟨0-driftV (a-s.Anchor) c.Faults.Drift,c.Faults.Residual+driftV (a-s.Anchor) c.Faults.Drift⟩) ?_ (Qa _);rw[Qn (n:=a-s.Anchor) (by omega) (by omega)];refine Ea (Qna e d.drift) ?_;rw[Qn (n:=0-driftV (a-s.Anchor) c.Faults.Drift) (by omega) (by omega),Qn (n:=c.Faults.Residual+driftV (a-s.Anchor) c.Faults.Drift) (by omega) (by omega)];exact Qa _
def matB(c:Course)(x:Int):Bool:=decide (0<=x)&&decide (x<(c.Mats.length:Int))
theorem Qdn(c:Course)(x:Int):Ev (λn=>F_q n c x) (matB c x):=by
 unfold F_q matB;exact Ea (Eh λ_=>Qa _) (Qa _)
theorem QdQ{c:Course}{x:Int}(h:matB c x=true):∃i m,x=((i:Nat):Int)/\c.Mats[i]?=some m:=by
 unfold matB at h;simp only[XV,Vn]at h;exact⟨x.toNat,c.Mats[x.toNat]'(by omega),by omega,XJ _⟩
def okPl(c:Course)(x:Int):Bool:=matB c x&&(match c.Mats[x.toNat]? with|some m=>m.Kind != 1|none=>false)
abbrev Met:=List (Ua×Bool)
abbrev Anc:=List (Ua×Int)
def meetV(c:Course)(m:Met)(x e:Int):Met:=bif okPl c x then Yp m ⟨x,e⟩ true else m
theorem QeX(c:Course)(m:Met)(x e:Int):Ev (λn=>F_al n x e c m) (meetV c m x e):=by
 unfold F_al meetV;refine Ea (v:=okPl c x) ?_ ?_
 .unfold okPl;refine Ea (Qdn c x) ?_;cases q:matB c x with
  |false=>exact Qa _
  |true=>
   obtain⟨i,m,rfl,a⟩:=QdQ q;simp only[Vl,Q8 a,XI,Vx,Int.toNat_natCast,a];exact Qa _
 .cases okPl c x<;>exact Qa _
def metX(c:Course)(m:Met)(f:Fact):Met:=meetV c m f.Read.Mat f.Read.Epoch
def metY(c:Course)(m:Met)(f:Fact):Met:=meetV c (meetV c m f.Sync.MatA f.Sync.EpochA) f.Sync.MatB f.Sync.EpochB
def metB(c:Course)(a:Met×Anc)(f:Fact):Met×Anc:=(meetV c a.1 f.Beacon.Mat f.Beacon.Epoch,bif !QaT a.2 (⟨f.Beacon.Mat,f.Beacon.Epoch⟩:Ua)then Yp a.2 ⟨f.Beacon.Mat,f.Beacon.Epoch⟩ f.Beacon.Local else a.2)
def metA(c:Course)(l:List Fact):Met×Anc:=(cntS l 3).foldl (metB c) ((cntS l 4).foldl (metY c) ((cntS l 2).foldl (metX c) []),[])
structure MetOk (c:Course) (k:Nat) (m:Met):Prop where
 nodup:(m.map (·.1)).Nodup
 ok:∀p∈m.map (·.1),okPl c p.mat=true/\0<=p.epoch/\p.epoch<=255
 len:m.length<=k
theorem QjI{α β:Type}[DecidableEq α](m:List (α×β))(k:α)(v:β)(h:(m.map (·.1)).Nodup):((Yp m k v).map (·.1)).Nodup/\(∀p∈(Yp m k v).map (·.1),p=k\/p∈m.map (·.1))/\(Yp m k v).length<=m.length+1:=by
 have e:=QdN m k v;have f:=congrArg List.length e;rw[XZ]at f;rw[e];by_cases q:k∈m.map (·.1)
 .rw[Vq q]at f⊢;exact⟨h,λp d=>.inr d,by rw[f,XZ];omega⟩
 .rw[Vp q]at f⊢;refine⟨?_,λp d=>?_,by rw[f];simp⟩
  .rw[List.nodup_append];refine⟨h,by simp,λa i b g=>?_⟩;rw[Vy]at g;rintro rfl;exact q (g▸i)
  .rcases VA.1 d with d|d
   .exact .inr d
   .exact .inl (by simpa using d)
theorem QeQ{c:Course}{k:Nat}{m:Met}(h:MetOk c k m)(x:Int){e:Int}(he:0<=e/\e<=255):MetOk c (k+1) (meetV c m x e):=by
 unfold meetV;cases q:okPl c x with
 |false=>exact⟨h.nodup,h.ok,by have:=h.len;simp only[Vm];omega⟩
 |true=>
  simp only[Vl];obtain⟨f,d,g⟩:=QjI m (⟨x,e⟩:Ua) true h.nodup;refine⟨f,λp a=>?_,by have:=h.len;omega⟩;rcases d p a with rfl|a
  .exact⟨q,he⟩
  .exact h.ok p a
def AncOk(m:Anc):Prop:=∀p v,YX m p=some v->isT v
theorem Qdj{α β:Type}(g:β->α->β)(I:β->Nat->Prop)(w:Nat):∀(l:List α) (b:β) (k:Nat),I b k->(∀x∈l,∀b k,I b k->I (g b x) (k+w))->I (l.foldl g b) (k+w*l.length)
 |[],b,k,h,_=>by simpa using h
 |x::l,b,k,h,q=>by
  have:=Qdj g I w l (g b x) (k+w) (q x (by simp) b k h) λy hy=>q y (by simp[hy]);rw[XY,Nat.mul_add,Nat.mul_one,Nat.add_comm (w*l.length), <- Nat.add_assoc];exact this
theorem QeP(c:Course)(l:List Fact):MetOk c ((cntS l 2).length+2*(cntS l 4).length+(cntS l 3).length) (metA c l).1/\AncOk (metA c l).2:=by
 have r:MetOk c (0+1*(cntS l 2).length) ((cntS l 2).foldl (metX c) []):=Qdj (metX c) (λm k=>MetOk c k m) 1 _ _ _ ⟨by simp,(λp d=>by simp at d),by simp⟩ λf g m k h=>by
  obtain⟨_,j,i⟩:=QaB g;exact QeQ h _ (Qjo j i)
 have q:=Qdj (metY c) (λm k=>MetOk c k m) 2 (cntS l 4) _ _ r λf g m k h=>by
  obtain⟨_,j,i⟩:=QaB g;have s:=QaG j i;exact QeQ (QeQ h _ s.ea) _ s.eb
 have n:=Qdj (metB c) (λa k=>MetOk c k a.1/\AncOk a.2) 1 (cntS l 3) (_,[]) _ ⟨q,(λp v h=>by simp[YX]at h)⟩ λf g a k h=>by
  obtain⟨_,j,i⟩:=QaB g;have s:=YY j i;refine⟨QeQ h.1 _ s.ep,?_⟩;show AncOk (bif !QaT a.2 _ then Yp a.2 _ _ else a.2);cases QaT a.2 (⟨f.Beacon.Mat,f.Beacon.Epoch⟩:Ua)with
  |true=>exact h.2
  |false=>
   simp only[Xi,Vl];intro p v d;rw[Qbb]at d;split at d
   .cases d;exact s.lo
   .exact h.2 p v d
 have e:0+1*(cntS l 2).length+2*(cntS l 4).length+1*(cntS l 3).length=(cntS l 2).length+2*(cntS l 4).length+(cntS l 3).length:=by omega
 rw[e]at n;exact n
theorem QkV(l:List Fact):(cntS l 2).length+2*(cntS l 4).length+(cntS l 3).length<=2*l.length:=by
 have a:∀m:List Fact,(m.filter λf=>f.Kind==2).length+2*(m.filter λf=>f.Kind==4).length+(m.filter λf=>f.Kind==3).length<=2*m.length:=by
  intro m
  induction m with
  |nil=>simp
  |cons f m i=>
   simp only[Xd,XY];by_cases e:f.Kind=2
   .simp[e];omega
   .by_cases g:f.Kind=4
    .simp[g];omega
    .by_cases d:f.Kind=3
     .simp[d];omega
     .simp[e,d,g];omega
 have:=a (canonS l);have h:=Qbv l;unfold cntS;omega
def segOf(a:Anc)(p:Ua×Bool):Segment:=⟨p.1.mat,p.1.epoch,QL a p.1 0⟩
def segV(c:Course)(l:List Fact):List Segment:=QaV (ltC cmpSeg) ((metA c l).1.map (segOf (metA c l).2))
set_option maxRecDepth 10000
theorem Qcn:CmpOK cmpSeg:=by
 have h:=Qcy (cmpI_ok.on λx:Segment=>x.Mat) (cmpI_ok.on λx:Segment=>x.Epoch);have e:cmpSeg=λx y:Segment=>bif cmpI x.Mat y.Mat != 0 then cmpI x.Mat y.Mat else cmpI x.Epoch y.Epoch:=by
  funext x y
  show(bif cmpI x.Mat y.Mat != 0 then cmpI x.Mat y.Mat else(bif cmpI x.Epoch y.Epoch != 0 then cmpI x.Epoch y.Epoch else 0))=_;cases q:cmpI x.Epoch y.Epoch != 0 with
  |true=>rfl
  |false=>
   have:cmpI x.Epoch y.Epoch=0:=by simpa using q
   rw[this];rfl
 rw[e];exact h
theorem Qb5{x y:Segment}(h:cmpSeg x y=0):x.Mat=y.Mat/\x.Epoch=y.Epoch:=by
 unfold cmpSeg orL at h;cases q:cmpI x.Mat y.Mat != 0 with
 |true=>rw[q]at h;simp only[Vl]at h;rw[h]at q;cases q
 |false=>
  rw[q]at h;have e:cmpI x.Mat y.Mat=0:=by simpa using q
  simp only[Vm,orL]at h;cases a:cmpI x.Epoch y.Epoch != 0 with
  |true=>rw[a]at h;simp only[Vl]at h;rw[h]at a;cases a
  |false=>
   have d:cmpI x.Epoch y.Epoch=0:=by simpa using a
   exact⟨QpN.1 e,QpN.1 d⟩
theorem QgE{a:Anc}{p q:Ua×Bool}(h:cmpSeg (segOf a p) (segOf a q)=0):segOf a p=segOf a q:=by
 obtain⟨f,d⟩:=Qb5 h;have e:p.1=q.1:=by
  obtain⟨⟨i,m⟩,g⟩:=p;obtain⟨⟨l,k⟩,j⟩:=q;simp only[segOf]at f d;simp only[f,d]
 unfold segOf;rw[e]
theorem QfZ(n:Nat)(m:Met×Anc):∀(p:Met) (s:List Segment),s.length+p.length<=1048576->QeB (F_el n m) (F_hx n) s p=some (s++p.map (segOf m.2))
 |[],s,h=>by unfold QeB F_hx;simp
 |e::p,s,h=>by
  rw[XY]at h;have h1:F_el n m s e=some (.cont (s++[segOf m.2 e])):=by
   unfold F_el;simp only[XI];rw[Qby _ _ (by omega)];rfl
  unfold QeB;rw[h1];show QeB _ _ (s++[segOf m.2 e]) p=_;rw[QfZ n m p _ (by simp;omega)];simp
theorem Qmu{m:Met×Anc}{p:Met}(h:p.Perm m.1):QaV (ltC cmpSeg) (p.map (segOf m.2))=QaV (ltC cmpSeg) (m.1.map (segOf m.2)):=by
 refine Qbm (lt:=ltC cmpSeg) ((QQ _ _).trans ((h.map _).trans (QQ _ _).symm)) (λx f y g d e=>?_) (YI (Qch Qcn _)) (YI (Qch Qcn _));have d:=Vt d;have e:=Vt e;obtain⟨a,_,rfl⟩:=Xf.1 ((QQ _ _).mem_iff.1 f);obtain⟨b,_,rfl⟩:=Xf.1 ((QQ _ _).mem_iff.1 g);refine QgE ?_;have:=Qcn.swap (segOf m.2 a) (segOf m.2 b);omega
theorem QhN{c:Course}{l:List Fact}{e:Int}(he:Ev (λn=>F_x n c) e)(a:e≠0):Ev (λn=>F_at n c l) ([],e):=by
 unfold F_at;refine Ea he ?_;rw[show(e != 0)=true by simpa using a];exact Qa _
theorem Qi1{c:Course}{l:List Fact}(he:Ev (λn=>F_x n c) 0)(q:l.length<=100):Ev (λn=>F_at n c l) (segV c l,0):=by
 obtain⟨i,_⟩:=QeP c l;have r:=QkV l;have s:(metA c l).1.length<=200:=XU i.len (by omega);unfold F_at;refine Ea he (Q1 ?_);simp only[F_y,XI];refine Ea (QaL l 2 (by omega)) ?_;refine Ea (Qcw (metX c) (λ_ _=>True) (cntS l 2) [] trivial λf _ m k _=>⟨?_,trivial⟩).1 ?_
 .unfold F_kt;exact Ea (QeX c m _ _) (Qa _)
 refine Ea (QaL l 4 (by omega)) ?_;refine Ea (Qcw (metY c) (λ_ _=>True) (cntS l 4) _ trivial λf _ m k _=>⟨?_,trivial⟩).1 ?_
 .unfold F_ku;exact Ea (QeX c m _ _) (Ea (QeX c _ _ _) (Qa _))
 refine Ea (QaL l 3 (by omega)) ?_;refine Ea (Qcw (metB c) (λ_ _=>True) (cntS l 3) (_,[]) trivial λf _ a k _=>⟨?_,trivial⟩).1 ?_
 .unfold F_kv metB;refine Ea (QeX c a.1 _ _) ?_;simp only[XI];cases QaT a.2 (⟨f.Beacon.Mat,f.Beacon.Epoch⟩:Ua)<;>exact Qa _
 show Ev (λn=>bif decide (511<((metA c l).1.length:Int))then some ([],2)else anyP (λp=>(QeB (F_el n (metA c l)) (F_hx n) [] p).bind λb=>(QbP (λx y=>F_bg n x y) b).bind λl=>some (l,0)) (metA c l).1) (segV c l,0);rw[QW (show¬(511<((metA c l).1.length:Int))by omega)];refine Q1 (Ev.anyP λp d=>?_);have j:=d.length_eq;simp only[QfZ _ (metA c l) p [] (by simp;omega),Ve,XI];refine Ea (Qlb (by rw[XZ];omega) (λx _ y _=>QiQ x y) Qcn λx h y g e=>?_) ?_
 .obtain⟨a,_,rfl⟩:=Xf.1 h;obtain⟨b,_,rfl⟩:=Xf.1 g;exact QgE e
 .rw[Qmu d];exact Qa _
structure SegOk (c:Course) (s:Segment):Prop where
 pl:okPl c s.Mat=true
 ep:0<=s.Epoch/\s.Epoch<=255
 an:isT s.Anchor
theorem Qjw{c:Course}{l:List Fact}{s:Segment}(h:s∈segV c l):SegOk c s:=by
 obtain⟨f,d⟩:=QeP c l;obtain⟨p,g,rfl⟩:=Xf.1 ((QQ _ _).mem_iff.1 h);obtain⟨e,a⟩:=f.ok p.1 (Xf.2 ⟨p,g,rfl⟩);refine⟨e,a,?_⟩;show isT (QL (metA c l).2 p.1 0);unfold QL;cases q:YX (metA c l).2 p.1 with
 |none=>exact⟨by decide,by decide⟩
 |some v=>exact d _ _ q
theorem Qhj(c:Course)(l:List Fact):(segV c l).length<=2*l.length:=by
 obtain⟨a,_⟩:=QeP c l;have h:(segV c l).length=(metA c l).1.length:=by
  unfold segV;rw[(QQ _ _).length_eq,XZ]
 have:=QkV l;have:=a.len;omega
theorem Qmv(c:Course)(l:List Fact):(segV c l).Pairwise λx y=>cmpSeg x y<0:=by
 obtain⟨f,_⟩:=QeP c l;have s:(segV c l).Pairwise λx y=>ltC cmpSeg y x=false:=YI (Qch Qcn _);have nd:((segV c l).map λs=>(⟨s.Mat,s.Epoch⟩:Ua)).Nodup:=by
  have p:=(QQ (ltC cmpSeg) ((metA c l).1.map (segOf (metA c l).2))).map λs:Segment=>(⟨s.Mat,s.Epoch⟩:Ua);refine p.nodup_iff.2 ?_;rw[List.map_map];exact f.nodup
 unfold List.Nodup at nd;rw[List.pairwise_map]at nd;refine List.Pairwise.imp₂ (λx y a d=>?_) s nd;have a:=Vt a;have h:=Qcn.swap x y;refine Classical.byContradiction λq=>d ?_;obtain⟨g,e⟩:=Qb5 (x:=x) (y:=y) (by omega);rw[g,e]
def place(s:Segment):Ua:=⟨s.Mat,s.Epoch⟩
def varG:List Segment->Nat->Anc->Anc
 |[],_,m=>m
 |x::r,i,m=>varG r (i+1) (Yp m (place x) ((i+1:Nat):Int))
def baseG:List Segment->Nat->List Edge
 |[],_=>[]
 |_::r,i=>⟨0,((i+1:Nat):Int),1099511627776⟩::⟨((i+1:Nat):Int),0,1099511627776⟩::baseG r (i+1)
def varV(S:List Segment):Anc:=varG S 0 []
def VarOk(S:List Segment)(k:Nat)(m:Anc):Prop:=∀p v,YX m p=some v->∃j s,v=((j+1:Nat):Int)/\j<k/\S[j]?=some s/\place s=p
theorem Qkk(S:List Segment):∀(r:List Segment) (i:Nat) (m:Anc),S.drop i=r->i<=S.length->VarOk S i m->VarOk S S.length (varG r i m)
 |[],i,m,h,hi,q=>λp v hp=>by
  obtain⟨j,s,a,b,d⟩:=q p v hp;exact⟨j,s,a,by omega,d⟩
 |x::r,i,m,h,hi,q=>by
  obtain⟨hx,hr,hlt⟩:=QhS h;refine Qkk S r (i+1) _ hr hlt λp v hp=>?_;rw[Qbb]at hp;split at hp
  .rename_i e;cases hp;exact⟨i,x,rfl,by omega,hx,e.symm⟩
  .obtain⟨j,s,a,b,d⟩:=q p v hp;exact⟨j,s,a,by omega,d⟩
theorem Qkj(S:List Segment):VarOk S S.length (varV S):=Qkk S S 0 [] rfl (XT _) λp v h=>by simp[YX]at h
theorem Qco:∀(r:List Segment) (i:Nat),(baseG r i).length=2*r.length
 |[],_=>rfl
 |_::r,i=>by simp only[baseG,XY,Qco r];omega
theorem Qi9:∀(r:List Segment) (i n:Nat),i+r.length<n->∀x∈baseG r i,EdgOk n x
 |[],_,_,_,x,h=>by cases h
 |_::r,i,n,hn,x,h=>by
  simp only[XY]at hn;simp only[baseG,X4]at h;rcases h with rfl|rfl|h
  .exact⟨by simp,by simp;omega,by simp;omega,by simp;omega,by simp,by simp⟩
  .exact⟨by simp;omega,by simp;omega,by simp,by simp;omega,by simp,by simp⟩
  .exact Qi9 r (i+1) n (by omega) x h
theorem QkP(r1:List Segment×Int)(hl:r1.1.length<=1000):∀(r:List Segment) (i:Nat) (m:Anc) (es:List Edge),r1.1.drop i=r->i<=r1.1.length->es.length<=2*i->
  EvI (λn=>F_hp n r1) (m,es,(i:Int)) (varG r i m,es++baseG r i)
 |[],i,m,es,h,hi,he=>by
  refine Ei ?_;unfold F_hp;simp only[QM h hi,Vm,varG,baseG,Vd];exact Qa _
 |x::r,i,m,es,h,hi,he=>by
  obtain⟨ha,hr⟩:=Qw (by omega) h;have hlt:=ha.lt';have q:=QkP r1 hl r (i+1) (Yp m (place x) ((i+1:Nat):Int)) (es++[⟨0,((i+1:Nat):Int),1099511627776⟩,⟨((i+1:Nat):Int),0,1099511627776⟩]) hr (by omega) (by simp;omega);rw[Vf]at q;refine Ew ?_ q;unfold F_hp F_ba;simp only[ha.lt,Vl,ha.ix,XI,ha.nx];rw[show i64.wrap (0- -1099511627776)=1099511627776 by decide,Qbx _ _ (by simp;omega)];exact Qa _
def segAt(S:List Segment)(v mat ep:Int):Segment:=bif decide (0<v)then(S[(v-1).toNat]?).getD ⟨mat,ep,0⟩else⟨mat,ep,0⟩
def kindM(c:Course)(x:Int):Int:=match c.Mats[x.toNat]? with|some m=>m.Kind|none=>0
def repV(c:Course)(S:List Segment)(mat ep loc:Int):Int×Span:=
 let v:=QL (varV S) (⟨mat,ep⟩:Ua) 0
 let y:=segAt S v mat ep
 (v,⟨loc+(devV c (kindM c y.Mat) y loc).Lo,loc+(devV c (kindM c y.Mat) y loc).Hi⟩)
theorem QdH{c:Course}(t:CrsOk c){S:List Segment}(G:∀s∈S,SegOk c s)(O:S.length<=1000){a ep d:Int}(H:matB c a=true)(f:isT d):
  Ev (λn=>F_bd n a ep d S c (varV S)) (repV c S a ep d)/\(0<=(repV c S a ep d).1/\(repV c S a ep d).1<=(S.length:Int))/\
  (-1374389534720<=(repV c S a ep d).2.Lo/\(repV c S a ep d).2.Lo<=1099511627776)/\(-1099511627776<=(repV c S a ep d).2.Hi/\(repV c S a ep d).2.Hi<=1378684502016):=by
 have y:=Qkj S;generalize hv:QL (varV S) (⟨a,ep⟩:Ua) 0=v;have g:(0<=v/\v<=(S.length:Int))/\(bif decide (0<v)then(idx S (i64.wrap (v-1))).bind λz=>some z else some (⟨a,ep,0⟩:Segment))=some (segAt S v a ep)/\isT (segAt S v a ep).Anchor/\ ∃i m,(segAt S v a ep).Mat=((i:Nat):Int)/\c.Mats[i]?=some m:=by
  unfold QL at hv;cases q:YX (varV S) (⟨a,ep⟩:Ua)with
  |none=>
   rw[q]at hv;have:v=0:=hv.symm;subst this;obtain⟨i,m,B,u⟩:=QdQ H;exact⟨⟨by decide,by omega⟩,rfl,⟨show(-1099511627776:Int)<=0 by decide,show(0:Int)<=1099511627776 by decide⟩,i,m,B,u⟩
  |some w=>
   rw[q]at hv;have:w=v:=hv;subst this;obtain⟨j,s,rfl,u,h,L⟩:=y _ _ q;have l:=G s (VE h);have e:segAt S ((j+1:Nat):Int) a ep=s:=by
    unfold segAt;rw[QX (by omega),Vl,show(((j+1:Nat):Int)-1).toNat=j by omega,h];rfl
   rw[e];refine⟨⟨by omega,by omega⟩,?_,l.an,QdQ (by have:=l.pl;unfold okPl at this;rw[XV]at this;exact this.1)⟩;rw[QX (by omega),Vl,Qn (by omega) (by omega),show((j+1:Nat):Int)-1=(j:Int)by omega,Q8 h];rfl
 obtain⟨J,E,r,i,m,x,p⟩:=g;have F:kindM c (segAt S v a ep).Mat=m.Kind:=by unfold kindM;rw[x,Int.toNat_natCast,p]
 have e:repV c S a ep d=(v,⟨d+(devV c m.Kind (segAt S v a ep) d).Lo,d+(devV c m.Kind (segAt S v a ep) d).Hi⟩):=by
  unfold repV;simp only[hv,F]
 obtain⟨P,M,N,Q⟩:=Qj0 t m.Kind r f;have k:=f;unfold isT at k;rw[e];refine⟨?_,J,⟨by simp only;omega,by simp only;omega⟩,⟨by simp only;omega,by simp only;omega⟩⟩;unfold F_bd;simp only[hv,XI];rw[E];refine Ea (Qa _) (Ea (Qpy t p x r f) ?_);rw[Qn (by omega) (by omega),Qn (by omega) (by omega)];exact Qa _
def newB(c:Course)(S:List Segment)(b:Beacon):List Edge:=
 bif matB c b.Mat then[⟨0,(repV c S b.Mat b.Epoch b.Local).1,b.True+b.Err-(repV c S b.Mat b.Epoch b.Local).2.Lo⟩,⟨(repV c S b.Mat b.Epoch b.Local).1,0,0-(b.True-b.Err-(repV c S b.Mat b.Epoch b.Local).2.Hi)⟩]else[]
def newS(c:Course)(S:List Segment)(y:Sync):List Edge:=
 bif matB c y.MatA&&matB c y.MatB then[⟨(repV c S y.MatA y.EpochA y.LocalA).1,(repV c S y.MatB y.EpochB y.LocalB).1,y.Max-(repV c S y.MatB y.EpochB y.LocalB).2.Lo+(repV c S y.MatA y.EpochA y.LocalA).2.Hi⟩,
  ⟨(repV c S y.MatB y.EpochB y.LocalB).1,(repV c S y.MatA y.EpochA y.LocalA).1,0-(y.Min-(repV c S y.MatB y.EpochB y.LocalB).2.Hi+(repV c S y.MatA y.EpochA y.LocalA).2.Lo)⟩]else[]
def edgesV(c:Course)(S:List Segment)(l:List Fact):List Edge:=baseG S 0++((cntS l 3).flatMap (λf=>newB c S f.Beacon)++(cntS l 4).flatMap (λf=>newS c S f.Sync))
theorem Qdd{c:Course}(g:CrsOk c){S:List Segment}(e:∀s∈S,SegOk c s)(f:S.length<=1000){b:Beacon}(a:BeaOk b):(∀x∈newB c S b,EdgOk (S.length+1) x)/\(newB c S b).length<=2:=by
 unfold newB;cases q:matB c b.Mat with
 |false=>exact⟨(λx h=>by cases h),by simp⟩
 |true=>
  obtain⟨_,⟨v0,j⟩,⟨i,k⟩,r,l⟩:=QdH g e f (ep:=b.Epoch) q a.lo;obtain⟨n,m⟩:=a.tr;obtain⟨t,p⟩:=a.er;refine⟨λx d=>?_,by simp⟩;simp only[Vl,X4,List.not_mem_nil,or_false]at d;rcases d with rfl|rfl
  .exact⟨Int.le_refl _,by simp only;omega,v0,by simp only;omega,by simp only;omega,by simp only;omega⟩
  .exact⟨v0,by simp only;omega,Int.le_refl _,by simp only;omega,by simp only;omega,by simp only;omega⟩
theorem Qhs{c:Course}(i:CrsOk c){S:List Segment}(f:∀s∈S,SegOk c s)(g:S.length<=1000){y:Sync}(a:SynOk y):(∀x∈newS c S y,EdgOk (S.length+1) x)/\(newS c S y).length<=2:=by
 unfold newS;cases q:matB c y.MatA&&matB c y.MatB with
 |false=>exact⟨(λx h=>by cases h),by simp⟩
 |true=>
  rw[XV]at q;obtain⟨_,⟨v0,t⟩,⟨n,u⟩,E,w⟩:=QdH i f g (ep:=y.EpochA) q.1 a.la;obtain⟨_,⟨d,r⟩,⟨l,k⟩,j,p⟩:=QdH i f g (ep:=y.EpochB) q.2 a.lb;obtain⟨B,z⟩:=a.mi;obtain⟨F,m⟩:=a.ma;refine⟨λx e=>?_,by simp⟩;simp only[Vl,X4,List.not_mem_nil,or_false]at e;rcases e with rfl|rfl
  .exact⟨v0,by simp only;omega,d,by simp only;omega,by simp only;omega,by simp only;omega⟩
  .exact⟨d,by simp only;omega,v0,by simp only;omega,by simp only;omega,by simp only;omega⟩
theorem QcT{α β:Type}(f:α->List β):∀(l:List α) (a:List β),l.foldl (λa x=>a++f x) a=a++l.flatMap f
 |[],a=>by simp
 |x::l,a=>by rw[XC,QcT f l];simp
theorem Qck{α β:Type}{f:α->List β}{l:List α}(h:∀x∈l,(f x).length<=2):(l.flatMap f).length<=2*l.length:=by
 induction l with
 |nil=>simp
 |cons x l a=>
  have:=h x (by simp);have:=a λy d=>h y (by simp[d]);simp only[List.flatMap_cons,X0,XY];omega
theorem Qf1{c:Course}(p:CrsOk c)(l:List Fact)(t:l.length<=15):SysOk ((segV c l).length+1) (edgesV c (segV c l) l):=by
 have u:=Qhj c l;have q:(segV c l).length<=1000:=by omega
 have k:∀s∈segV c l,SegOk c s:=λs h=>Qjw h;have r:=Qcm l 3;have w:=Qcm l 4;have n:∀f∈cntS l 3,(∀x∈newB c (segV c l) f.Beacon,EdgOk ((segV c l).length+1) x)/\(newB c (segV c l) f.Beacon).length<=2:=λf e=>by
  obtain⟨_,j,i⟩:=QaB e;exact Qdd p k q (YY j i)
 have m:∀f∈cntS l 4,(∀x∈newS c (segV c l) f.Sync,EdgOk ((segV c l).length+1) x)/\(newS c (segV c l) f.Sync).length<=2:=λf e=>by
  obtain⟨_,j,i⟩:=QaB e;exact Qhs p k q (QaG j i)
 refine⟨by omega,by omega,?_,λx g=>?_⟩
 .have a:=Qck (f:=λf:Fact=>newB c (segV c l) f.Beacon) λf e=>(n f e).2;have b:=Qck (f:=λf:Fact=>newS c (segV c l) f.Sync) λf e=>(m f e).2;have d:=Qco (segV c l) 0;unfold edgesV;simp only[X0];omega
 .unfold edgesV at g;simp only[VA,List.mem_flatMap]at g;rcases g with h|⟨f,e,h⟩|⟨f,e,h⟩
  .exact Qi9 _ 0 _ (by omega) x h
  .exact(n f e).1 x h
  .exact(m f e).1 x h
theorem QjX{c:Course}{l:List Fact}{e:Int}(he:Ev (λn=>F_x n c) e)(a:e≠0):Ev (λn=>F_as n c l) (0,[],e):=by
 unfold F_as;refine Ea (QhN he a) ?_;rw[show(e != 0)=true by simpa using a];exact Qa _
theorem QlF{c:Course}(e:CrsOk c){l:List Fact}(he:Ev (λn=>F_x n c) 0)(z:l.length<=15):Ev (λn=>F_as n c l) ((((segV c l).length+1:Nat):Int),edgesV c (segV c l) l,0):=by
 have s1:=Qhj c l;have i:(segV c l).length<=1000:=by omega
 have j:∀s∈segV c l,SegOk c s:=λs h=>Qjw h;have W:=Qcm l 3;have c4:=Qcm l 4;have Q:=(Qf1 e l z).e1;unfold F_as;refine Ea (Qi1 he (by omega)) (Q1 ?_);have x:=(QkP (segV c l,0) i (segV c l) 0 [] [] rfl (XT _) (by simp)).ev;refine Ea x ?_;simp only[F_y,XI,Ve];refine Ea (QaL l 3 (by omega)) ?_;have P:(baseG (segV c l) 0).length<=1000:=by rw[Qco];omega
 obtain⟨F,r⟩:=Qcw (step:=λn=>F_kf n c (segV c l,0) (varG (segV c l) 0 [],baseG (segV c l) 0)) (λd (f:Fact)=>d++newB c (segV c l) f.Beacon) (λd k=>d.length+2*k<=2000) (cntS l 3) (baseG (segV c l) 0) (by show(baseG (segV c l) 0).length+2*(cntS l 3).length<=2000;omega) λf m d k u=>by
  obtain⟨_,p,g⟩:=QaB m;have a:=YY p g;obtain⟨_,E⟩:=Qdd e j i a;refine⟨?_,by simp only[X0];omega⟩;unfold F_kf newB;refine Ea (Qdn c _) ?_;cases q:matB c f.Beacon.Mat with
  |false=>simp only[Vm,Vd];exact Qa _
  |true=>
   obtain⟨t,⟨v0,M⟩,⟨J,w⟩,G,B⟩:=QdH e j i (ep:=f.Beacon.Epoch) q a.lo;obtain⟨H,N⟩:=a.tr;obtain⟨O,e1⟩:=a.er;simp only[Vl];refine Ea (Ea t (Ea ?_ (Qa _))) (Qa _);unfold F_ba;rw[Qn (n:=f.Beacon.True-f.Beacon.Err) (by omega) (by omega),Qn (n:=f.Beacon.True+f.Beacon.Err) (by omega) (by omega),Qn (n:=f.Beacon.True-f.Beacon.Err-_) (by omega) (by omega),Qn (n:=f.Beacon.True+f.Beacon.Err-_) (by omega) (by omega),Qn (n:=0-_) (by omega) (by omega),Qbx _ _ (by simp;omega)];exact Qa _
 refine Ea F ?_;rw[QcT]at r⊢;refine Ea (QaL l 4 (by omega)) ?_;have b1:=Qck (l:=cntS l 3) (f:=λf:Fact=>newB c (segV c l) f.Beacon) λf m=>by
  obtain⟨_,p,u⟩:=QaB m;exact(Qdd e j i (YY p u)).2
 generalize hE1:baseG (segV c l) 0++(cntS l 3).flatMap (λf=>newB c (segV c l) f.Beacon)=E1;have w:E1.length<=1100:=by rw[<- hE1,X0];omega
 obtain⟨y,L⟩:=Qcw (step:=λn=>F_ka n c (segV c l,0) (varG (segV c l) 0 [],baseG (segV c l) 0)) (λd (f:Fact)=>d++newS c (segV c l) f.Sync) (λd k=>d.length+2*k<=2000) (cntS l 4) E1 (by show E1.length+2*(cntS l 4).length<=2000;omega) λf m d k u=>by
  obtain⟨_,p,g⟩:=QaB m;have a:=QaG p g;obtain⟨_,E⟩:=Qhs e j i a;refine⟨?_,by simp only[X0];omega⟩;unfold F_ka newS;refine Ea (v:=matB c f.Sync.MatA&&matB c f.Sync.MatB) ?_ ?_
  .refine Ea (Qdn c _) ?_;cases matB c f.Sync.MatA with
   |false=>exact Qa _
   |true=>exact Ea (Qdn c _) (Qa _)
  cases q:matB c f.Sync.MatA&&matB c f.Sync.MatB with
  |false=>simp only[Vm,Vd];exact Qa _
  |true=>
   rw[XV]at q;obtain⟨t,⟨v0,M⟩,⟨J,w⟩,G,B⟩:=QdH e j i (ep:=f.Sync.EpochA) q.1 a.la;obtain⟨rf,⟨V,T⟩,⟨l2,Y⟩,X,R⟩:=QdH e j i (ep:=f.Sync.EpochB) q.2 a.lb;obtain⟨H,N⟩:=a.mi;obtain⟨O,e1⟩:=a.ma;simp only[Vl];refine Ea (Ea t (Ea rf (Ea ?_ (Qa _)))) (Qa _);unfold F_ba;rw[Qn (n:=f.Sync.Min-_) (by omega) (by omega),Qn (n:=f.Sync.Max-_) (by omega) (by omega),Qn (n:=f.Sync.Min-_+_) (by omega) (by omega),Qn (n:=f.Sync.Max-_+_) (by omega) (by omega),Qn (n:=0-_) (by omega) (by omega),Qbx _ _ (by simp;omega)];exact Qa _
 refine Ea y ?_;rw[QcT, <- hE1,Vf];show Ev (λn=>bif decide (8192<((edgesV c (segV c l) l).length:Int))then some (0,[],2)else some (i64.wrap (((segV c l).length:Int)+1),edgesV c (segV c l) l,0)) _;rw[QW (show¬(8192<((edgesV c (segV c l) l).length:Int))by omega),Q2 (by omega)];exact Qa _
set_option maxRecDepth 10000
theorem QpA{c:Course}(h:courseE c=0):CrsOk c:=by
 unfold courseE at h;cases a:fitsS c with
 |false=>rw[a]at h;cases h
 |true=>
  rw[a,Vl]at h;cases e:namesS c with
  |false=>rw[e]at h;cases h
  |true=>
   rw[e,Vl]at h;cases d:numbersS c with
   |false=>rw[d]at h;cases h
   |true=>
    simp only[numbersS,lastS,inR,XV,Vn]at d;simp only[fitsS,XV,Bool.not_eq_true',Bool.or_eq_false_iff,decide_eq_false_iff_not]at a;have l:=d.2.2.2.2.2.2.2.2.2;exact⟨by omega,by omega,by omega⟩
theorem Qo4:F_gu 300=some true:=by kernel_rfl
set_option maxRecDepth 10000
set_option maxRecDepth 10000
set_option maxRecDepth 10000
theorem Qcl(c:Course)(x:Int):Ev (λn=>F_aq n c x) (matB c x):=by
 unfold F_aq matB;exact Ea (Eh λ_=>Qa _) (Qa _)
theorem QiV{x k:Int}(d: -2199023255552<=x/\x<=2199023255552)(e:0<=k/\k<=100000):Ev (λn=>F_ea n x k) (driftV x k,0):=by
 obtain⟨l,j,m,i⟩:=Qb3 d e;unfold F_ea;refine Ea (v:=false) ?_ ?_
 .rw[QW (show¬(x< -2199023255552)by omega),QW (show¬(2199023255552<x)by omega),QW (show¬(k<0)by omega),QW (show¬(100000<k)by omega)];exact Qa _
 refine Q1 (Ea (v:=if x<0-x then 0-x else x) ?_ ?_)
 .by_cases h:x<0
  .rw[QX h,Vq (by omega),Qn (by omega) (by omega)];exact Qa _
  .rw[QW h,Vp (by omega)];exact Qa _
 unfold driftV;generalize(if x<0-x then 0-x else x)*k=a at*;have g:Int.tdiv a 1000000=a/1000000:=Int.tdiv_eq_ediv_of_nonneg (by omega);have f:Int.tdiv (a+1000000-1) 1000000=(a+1000000-1)/1000000:=Int.tdiv_eq_ediv_of_nonneg (by omega);rw[Qn (n:=a) (by omega) (by omega),g,f,Qn (n:=a/1000000) (by omega) (by omega),Qn (n:=a/1000000*1000000) (by omega) (by omega),Qn (n:=a/1000000+1) (by omega) (by omega)];refine Ea (v:=(a+1000000-1)/1000000) ?_ (Qa _);by_cases h:a/1000000*1000000<a
 .rw[QX h];exact Eu (Qa _) (by omega)
 .rw[QW h];exact Eu (Qa _) (by omega)
theorem QgY{c:Course}(d:CrsOk c){i:Nat}{m:Mat}(f:c.Mats[i]?=some m){s:Segment}(j:s.Mat=(i:Int)){a:Int}(k:isT s.Anchor)(g:isT a):Ev (λn=>F_z n c s a) (devV c m.Kind s a):=by
 obtain⟨q,r⟩:=d.res;have e: -2199023255552<=a-s.Anchor/\a-s.Anchor<=2199023255552:=by unfold isT at k g;omega
 obtain⟨p,l,_,_⟩:=Qb3 e d.drift;unfold F_z F_bq devV;simp only[j,Q8 f,XI];by_cases h:m.Kind=1
 .simp only[h,bne_self_eq_false,Vm,beq_self_eq_true,Vl];exact Qa _
 .rw[show(m.Kind==1)=false by simpa using h,show(m.Kind != 1)=true by simpa using h];simp only[Vm,Vl];rw[Qn (n:=a-s.Anchor) (by omega) (by omega)];refine Ea (QiV e d.drift) ?_;rw[Qn (n:=0-driftV (a-s.Anchor) c.Faults.Drift) (by omega) (by omega),Qn (n:=c.Faults.Residual+driftV (a-s.Anchor) c.Faults.Drift) (by omega) (by omega)];exact Qa _
def ltG(x y:Segment):Prop:=cmpSeg x y<0
theorem Qoi(x:Segment):¬ltG x x:=by have:=Qcn.refl x;unfold ltG;omega
theorem QmK(x y z:Segment)(h1:ltG x y)(h2:ltG y z):ltG x z:=Qcn.trans x y z h1 h2
def lessB(x y:Segment):Bool:=decide (x.Mat<y.Mat)||((x.Mat==y.Mat)&&decide (x.Epoch<y.Epoch))
theorem QgN(x y:Segment):lessB x y=true↔ltG x y:=by
 have e:=QlN x y;unfold ltG;have:segLt x y=lessB x y:=rfl;rw[<- this];cases h:segLt x y with
 |true=>rw[h]at e;have:=Vt (e.trans rfl);exact⟨λ_=>by omega,λ_=>rfl⟩
 |false=>rw[h]at e;have:=Vs (e.trans rfl);exact⟨(λh=>by cases h),λh=>by omega⟩
theorem QkS(x y:Segment):Ev (λn=>F_dl n x y) (lessB x y):=by
 unfold F_dl lessB;exact Ea (Et λ_=>Eh λ_=>Qa _) (Qa _)
def posS(p:Segment):List Segment->Nat
 |[]=>0
 |x::r=>bif lessB x p then posS p r+1 else 0
theorem Qho(p:Segment):∀l,posS p l<=l.length
 |[]=>XS _
 |x::r=>by
  have:=Qho p r;unfold posS;cases lessB x p<;>simp only[Vl,Vm,XY]<;>omega
def insS(p:Segment)(l:List Segment):List Segment:=match l[posS p l]? with
 |some x=>bif (x.Mat==p.Mat)&&(x.Epoch==p.Epoch)then l else l.take (posS p l)++([p]++l.drop (posS p l))
 |none=>l++[p]
theorem Qfq(p:Segment):∀(l:List Segment),∀x∈l.take (posS p l),ltG x p
 |[],x,h=>by simp at h
 |y::r,x,h=>by
  unfold posS at h;cases q:lessB y p with
  |false=>rw[q]at h;simp at h
  |true=>
   rw[q,Vl,List.take_succ_cons,X4]at h;rcases h with rfl|h
   .exact(QgN _ _).1 q
   .exact Qfq p r x h
theorem Qmy(p:Segment):∀(l:List Segment) (x:Segment),l[posS p l]?=some x->¬ltG x p
 |[],x,h=>by simp at h
 |y::r,x,h=>by
  unfold posS at h;cases q:lessB y p with
  |false=>
   rw[q]at h;simp only[Vm,XD,Option.some.injEq]at h;subst h;intro z;rw[(QgN _ _).2 z]at q;cases q
  |true=>
   rw[q,Vl,XE]at h;exact Qmy p r x h
structure RefS (l:List Segment):Prop where
 lt:l.Pairwise ltG
 an:∀s∈l,s.Anchor=0
theorem Qjx{x y:Segment}(a:x.Mat=y.Mat)(e:x.Epoch=y.Epoch)(d:x.Anchor=y.Anchor):x=y:=by
 cases x;cases y;simp only at a e d;subst a e d;rfl
theorem Qom{l:List Segment}(h:RefS l){p:Segment}(r:p.Anchor=0):RefS (insS p l)/\(∀s,s∈insS p l↔s∈l\/s=p)/\(insS p l).length<=l.length+1:=by
 have G:=Qho p l;unfold insS;cases q:l[posS p l]? with
 |none=>
  have k:l.length<=posS p l:=List.getElem?_eq_none_iff.1 q;have u:=Qfq p l;rw[VF k]at u;refine⟨⟨List.pairwise_append.2 ⟨h.lt,List.pairwise_singleton _ _,λx n y g=>by simp at g;subst g;exact u x n⟩,λs d=>?_⟩,λs=>by simp,by simp⟩;rcases VA.1 d with d|d
  .exact h.an s d
  .simp at d;rw[d];exact r
 |some x=>
  have n:=VE q
  dsimp only
  cases z:(x.Mat==p.Mat)&&(x.Epoch==p.Epoch)with
  |true=>
   rw[XV,Vv,Vv]at z;have e:x=p:=Qjx z.1 z.2 (by rw[h.an x n,r]);refine⟨h,λs=>⟨λa=>.inl a,λa=>a.elim id λa=>by rw[a, <- e];exact n⟩,by simp⟩
  |false=>
   have E:=Qmy p l x q;have i:=(XK.1 q).1;have B:l.drop (posS p l)=x::l.drop (posS p l+1):=by
    rw[Xp i];rw[XJ i]at q;cases q;rfl
   have w:ltG p x:=by
    have H:=Qcn.swap p x;unfold ltG at E⊢;by_cases e:cmpSeg x p=0
    .obtain⟨a,b⟩:=Qb5 e;rw[a,b]at z;simp at z
    .omega
   have j:=h.lt;rw[<- Xy (posS p l) l,List.pairwise_append]at j;have F:∀y∈l.drop (posS p l),ltG p y:=by
    intro y g;have t:=j.2.1;rw[B]at g t;rw[Xc]at t;rcases X4.1 g with rfl|g
    .exact w
    .exact QmK _ _ _ w (t.1 y g)
   refine⟨⟨?_,λs d=>?_⟩,λs=>?_,?_⟩
   .rw[Vm,List.pairwise_append];refine⟨j.1,List.pairwise_append.2 ⟨List.pairwise_singleton _ _,j.2.1,λa m b f=>by simp at m;subst m;exact F b f⟩,λa m b f=>?_⟩;rcases VA.1 f with f|f
    .simp at f;subst f;exact Qfq _ l a m
    .exact j.2.2 a m b f
   .simp only[Vm,VA,Vy]at d;rcases d with d|d|d
    .exact h.an s (List.mem_of_mem_take d)
    .rw[d];exact r
    .exact h.an s (List.mem_of_mem_drop d)
   .simp only[Vm,VA,Vy];constructor
    .rintro(a|a|a)
     .exact .inl (List.mem_of_mem_take a)
     .exact .inr a
     .exact .inl (List.mem_of_mem_drop a)
    .rintro(a|a)
     .rw[<- Xy (posS p l) l,VA]at a;exact a.elim .inl λa=>.inr (.inr a)
     .exact .inr (.inl a)
   .simp only[Vm,X0,Xx,List.length_singleton,List.length_drop];omega
def withV(c:Course)(l:List Segment)(x e:Int):List Segment:=bif okPl c x then insS ⟨x,e,0⟩ l else l
theorem QeW{c:Course}{l:List Segment}(y:l.length<=1000)(x e:Int):Ev (λn=>F_am n c l x e) (withV c l x e):=by
 unfold F_am withV;refine Ea (v:= !okPl c x) ?_ ?_
 .refine Ea (Qcl c x) ?_;unfold okPl;cases q:matB c x with
  |false=>exact Qa _
  |true=>
   obtain⟨i,m,rfl,p⟩:=QdQ q;unfold F_bq;simp only[Xh,Vm,Q8 p,XI,Vx,Int.toNat_natCast,p,bne,Bool.not_not];exact Qa _
 .cases okPl c x with
  |false=>exact Qa _
  |true=>
   simp only[Xh,Vm,Vl];have loop:∀(r:List Segment) (i:Nat),l.drop i=r->i<=l.length->EvI (λn=>F_ei n l x e) (i:Int) ((i+posS ⟨x,e,0⟩ r:Nat):Int):=by
    intro r
    induction r with
    |nil=>
     intro i f k;refine Ei ?_;unfold F_ei;simp only[QM f k,Vm,XI,posS,Xw];exact Qa _
    |cons s r u=>
     intro i f k;obtain⟨d,g⟩:=Qw (by omega) f;have a:=d.lt';cases q:lessB s ⟨x,e,0⟩with
     |true=>
      have h:posS ⟨x,e,0⟩ (s::r)=posS ⟨x,e,0⟩ r+1:=by show(bif lessB s _ then _ else _)=_;rw[q];rfl
      rw[h,show i+(posS ⟨x,e,0⟩ r+1)=(i+1)+posS ⟨x,e,0⟩ r by omega];refine Ew ?_ (u (i+1) g (by omega));unfold F_ei;simp only[d.lt,Vl,d.ix,XI,d.nx];refine Ea (Ea (QkS _ _) (Qa _)) ?_;rw[q];exact Qa _
     |false=>
      have h:posS ⟨x,e,0⟩ (s::r)=0:=by show(bif lessB s _ then _ else _)=_;rw[q];rfl
      rw[h];refine Ei ?_;unfold F_ei;simp only[d.lt,Vl,d.ix,XI];refine Ea (Ea (QkS _ _) (Qa _)) ?_;rw[q];exact Qa _
   have lp:=(loop l 0 rfl (XT _)).ev;rw[Xv]at lp;refine Ea lp ?_;have t:=Qho ⟨x,e,0⟩ l;unfold insS;cases q:l[posS ⟨x,e,0⟩ l]? with
   |none=>
    have j:l.length<=posS ⟨x,e,0⟩ l:=List.getElem?_eq_none_iff.1 q;have w:posS ⟨x,e,0⟩ l=l.length:=by omega
    rw[w,QW (show¬((l.length:Int)<(l.length:Int))by omega)];refine Ea (v:=false) (Qa _) (Q1 ?_);rw[Qc2 l (XS _),XI,Qbz _ _ (by simp),XI,Qfd l (XS _),XI,Qbz _ _ (by simp;omega),XI];exact Eu (Qa _) (by simp)
   |some s=>
    have a:=(XK.1 q).1
    dsimp only
    rw[QX (show((posS ⟨x,e,0⟩ l:Nat):Int)<(l.length:Int)by omega)];simp only[Vl,Q8 q,XI];refine Ea (v:=(s.Mat==x)&&(s.Epoch==e)) (Eh λ_=>Qa _) ?_;cases(s.Mat==x)&&(s.Epoch==e)with
    |true=>exact Qa _
    |false=>
     refine Q1 ?_;rw[Qc2 l (Nat.le_of_lt a),XI,Qbz _ _ (by simp;omega),XI,Qfd l (Nat.le_of_lt a),XI,Qbz _ _ (by simp;omega),XI];exact Qa _
set_option maxRecDepth 10000
def hitF(f:Fact)(x e:Int):Prop:=(f.Kind=2/\x=f.Read.Mat/\e=f.Read.Epoch)\/(f.Kind=3/\x=f.Beacon.Mat/\e=f.Beacon.Epoch)\/(f.Kind=4/\((x=f.Sync.MatA/\e=f.Sync.EpochA)\/(x=f.Sync.MatB/\e=f.Sync.EpochB)))
def stepR(c:Course)(out:List Segment)(f:Fact):List Segment:=
 bif f.Kind==2 then withV c out f.Read.Mat f.Read.Epoch else bif f.Kind==3 then withV c out f.Beacon.Mat f.Beacon.Epoch else bif f.Kind==4 then withV c (withV c out f.Sync.MatA f.Sync.EpochA) f.Sync.MatB f.Sync.EpochB else out
theorem Qc1{c:Course}{f:List Segment}(h:RefS f)(x e:Int):RefS (withV c f x e)/\(∀s,s∈withV c f x e↔s∈f\/(okPl c x=true/\s=⟨x,e,0⟩))/\(withV c f x e).length<=f.length+1:=by
 unfold withV;cases q:okPl c x with
 |false=>exact⟨h,λs=>by simp,by simp⟩
 |true=>
  obtain⟨a,b,d⟩:=Qom h (p:=⟨x,e,0⟩) rfl;exact⟨a,λs=>by rw[Vl,b];simp,d⟩
theorem Qkp{c:Course}{g:List Segment}(h:RefS g)(f:Fact):RefS (stepR c g f)/\(∀s,s∈stepR c g f↔s∈g\/(okPl c s.Mat=true/\s.Anchor=0/\hitF f s.Mat s.Epoch))/\(stepR c g f).length<=g.length+2:=by
 have one:∀(x e:Int) (s:Segment),(okPl c x=true/\s=⟨x,e,0⟩)↔(okPl c s.Mat=true/\s.Anchor=0/\s.Mat=x/\s.Epoch=e):=λx e s=>by
  constructor
  .rintro⟨a,rfl⟩;exact⟨a,rfl,rfl,rfl⟩
  .rintro⟨a,b,rfl,rfl⟩;exact⟨a,Qjx rfl rfl b⟩
 unfold stepR hitF;by_cases j:f.Kind=2
 .rw[show(f.Kind==2)=true by simpa using j,Vl];obtain⟨a,b,d⟩:=Qc1 (c:=c) h f.Read.Mat f.Read.Epoch;exact⟨a,λs=>by rw[b,one];simp[j],by omega⟩
 .rw[show(f.Kind==2)=false by simpa using j,Vm];by_cases i:f.Kind=3
  .rw[show(f.Kind==3)=true by simpa using i,Vl];obtain⟨a,b,d⟩:=Qc1 (c:=c) h f.Beacon.Mat f.Beacon.Epoch;exact⟨a,λs=>by rw[b,one];simp[i],by omega⟩
  .rw[show(f.Kind==3)=false by simpa using i,Vm];by_cases k:f.Kind=4
   .rw[show(f.Kind==4)=true by simpa using k,Vl];obtain⟨a,b,d⟩:=Qc1 (c:=c) h f.Sync.MatA f.Sync.EpochA;obtain⟨n,p,r⟩:=Qc1 (c:=c) a f.Sync.MatB f.Sync.EpochB;exact⟨n,λs=>by
     rw[p,b,one,one];simp only[k,true_and,show¬((4:Int)=2)by decide,show¬((4:Int)=3)by decide,false_and,false_or];constructor
     .rintro((q|q)|q)
      .exact .inl q
      .exact .inr ⟨q.1,q.2.1,.inl q.2.2⟩
      .exact .inr ⟨q.1,q.2.1,.inr q.2.2⟩
     .rintro(q|⟨l,m,q|q⟩)
      .exact .inl (.inl q)
      .exact .inl (.inr ⟨l,m,q⟩)
      .exact .inr ⟨l,m,q⟩,by omega⟩
   .rw[show(f.Kind==4)=false by simpa using k,Vm];exact⟨h,λs=>by simp[j,i,k],by omega⟩
def outR(c:Course)(l:List Fact):List Segment:=(canonS l).foldl (stepR c) []
theorem QjF{c:Course}:∀(r:List Fact) (out:List Segment),RefS out->RefS (r.foldl (stepR c) out)/\(∀s,s∈r.foldl (stepR c) out↔s∈out\/(okPl c s.Mat=true/\s.Anchor=0/\ ∃f∈r,hitF f s.Mat s.Epoch))/\(r.foldl (stepR c) out).length<=out.length+2*r.length
 |[],out,h=>⟨h,λs=>by simp,by simp⟩
 |f::r,out,h=>by
  obtain⟨a,b,d⟩:=Qkp (c:=c) h f;obtain⟨a',b',d'⟩:=QjF r _ a;refine⟨a',λs=>?_,by rw[XY];show(r.foldl (stepR c) (stepR c out f)).length<=_;omega⟩;show s∈r.foldl (stepR c) (stepR c out f)↔_;rw[b',b];simp only[X4,exists_eq_or_imp];constructor
  .rintro((q|q)|q)
   .exact .inl q
   .exact .inr ⟨q.1,q.2.1,.inl q.2.2⟩
   .exact .inr ⟨q.1,q.2.1,.inr q.2.2⟩
  .rintro(q|⟨q1,q2,q|q⟩)
   .exact .inl (.inl q)
   .exact .inl (.inr ⟨q1,q2,q⟩)
   .exact .inr ⟨q1,q2,q⟩
theorem QgO{α β:Type}[DecidableEq α](m:List (α×β))(k:α)(v:β)(p:α):p∈(Yp m k v).map (·.1)↔p∈m.map (·.1)\/p=k:=by
 rw[QdN];split
 .rename_i h;exact⟨.inl,λq=>q.elim id λe=>e▸h⟩
 .simp
theorem Qde(c:Course)(m:Met)(x e:Int)(p:Ua):p∈(meetV c m x e).map (·.1)↔p∈m.map (·.1)\/(okPl c p.mat=true/\p.mat=x/\p.epoch=e):=by
 unfold meetV;cases q:okPl c x with
 |false=>
  rw[Vm];refine⟨.inl,λh=>h.elim id λ⟨a,b,_⟩=>?_⟩;rw[b,q]at a;cases a
 |true=>
  rw[Vl,QgO];constructor
  .rintro(h|rfl)
   .exact .inl h
   .exact .inr ⟨q,rfl,rfl⟩
  .rintro(h|⟨_,b,d⟩)
   .exact .inl h
   .refine .inr ?_;cases p;simp only at b d;rw[b,d]
theorem Qdi{α:Type}(g:Met->α->Met)(P:α->Ua->Prop)(h:∀m x p,p∈(g m x).map (·.1)↔p∈m.map (·.1)\/P x p):∀(l:List α) (m:Met) (p:Ua),p∈(l.foldl g m).map (·.1)↔p∈m.map (·.1)\/ ∃x∈l,P x p
 |[],m,p=>by simp
 |x::l,m,p=>by
  rw[XC,Qdi g P h l,h];simp only[X4,exists_eq_or_imp];constructor
  .rintro((a|a)|a)
   .exact .inl a
   .exact .inr (.inl a)
   .exact .inr (.inr a)
  .rintro(a|a|a)
   .exact .inl (.inl a)
   .exact .inl (.inr a)
   .exact .inr a
theorem Qiu(c:Course):∀(l:List Fact) (a:Met×Anc),(l.foldl (metB c) a).1=l.foldl (λm f=>meetV c m f.Beacon.Mat f.Beacon.Epoch) a.1
 |[],_=>rfl
 |f::l,a=>by rw[XC,XC,Qiu c l];rfl
theorem Qit(c:Course):∀(l:List Fact) (a:Met×Anc),(l.foldl (metB c) a).2=l.foldl (λ(m:Anc) f=>bif !QaT m (⟨f.Beacon.Mat,f.Beacon.Epoch⟩:Ua)then Yp m ⟨f.Beacon.Mat,f.Beacon.Epoch⟩ f.Beacon.Local else m) a.2
 |[],_=>rfl
 |f::l,a=>by rw[XC,XC,Qit c l];rfl
theorem Qkz(c:Course)(l:List Fact)(p:Ua):p∈(metA c l).1.map (·.1)↔okPl c p.mat=true/\ ∃f∈canonS l,hitF f p.mat p.epoch:=by
 unfold metA;rw[Qiu,Qdi _ (λf p=>okPl c p.mat=true/\p.mat=f.Beacon.Mat/\p.epoch=f.Beacon.Epoch) (λm f p=>Qde c m _ _ p),
  Qdi (metY c) (λf p=>okPl c p.mat=true/\((p.mat=f.Sync.MatA/\p.epoch=f.Sync.EpochA)\/(p.mat=f.Sync.MatB/\p.epoch=f.Sync.EpochB))) (λm f p=>by
   unfold metY;rw[Qde,Qde];constructor
   .rintro((a|a)|a)
    .exact .inl a
    .exact .inr ⟨a.1,.inl a.2⟩
    .exact .inr ⟨a.1,.inr a.2⟩
   .rintro(a|⟨a,b|b⟩)
    .exact .inl (.inl a)
    .exact .inl (.inr ⟨a,b⟩)
    .exact .inr ⟨a,b⟩),
  Qdi (metX c) (λf p=>okPl c p.mat=true/\p.mat=f.Read.Mat/\p.epoch=f.Read.Epoch) (λm f p=>Qde c m _ _ p)]
 unfold cntS hitF;simp only[Vh,List.not_mem_nil,false_or,Xe,Vv];constructor
 .rintro((⟨f,⟨g,e⟩,h,d⟩|⟨f,⟨g,e⟩,h,d⟩)|⟨f,⟨g,e⟩,h,d⟩)
  .exact⟨h,f,g,.inl ⟨e,d⟩⟩
  .exact⟨h,f,g,.inr (.inr ⟨e,d⟩)⟩
  .exact⟨h,f,g,.inr (.inl ⟨e,d⟩)⟩
 .rintro⟨h,f,g,⟨e,d⟩|⟨e,d⟩|⟨e,d⟩⟩
  .exact .inl (.inl ⟨f,⟨g,e⟩,h,d⟩)
  .exact .inr ⟨f,⟨g,e⟩,h,d⟩
  .exact .inl (.inr ⟨f,⟨g,e⟩,h,d⟩)
def isB(x e:Int)(f:Fact):Bool:=(f.Kind==3)&&((f.Beacon.Mat==x)&&(f.Beacon.Epoch==e))
def ancR(l:List Fact)(x e a:Int):Int:=match l.find? (isB x e)with
 |some f=>f.Beacon.Local
 |none=>a
theorem QkZ(p:Ua):∀(l:List Fact) (m:Anc),YX (l.foldl (λ(m:Anc) f=>bif !QaT m (⟨f.Beacon.Mat,f.Beacon.Epoch⟩:Ua)then Yp m ⟨f.Beacon.Mat,f.Beacon.Epoch⟩ f.Beacon.Local else m) m) p=
  (match YX m p with|some v=>some v|none=>(l.find? λf=>(f.Beacon.Mat==p.mat)&&(f.Beacon.Epoch==p.epoch)).map (·.Beacon.Local))
 |[],m=>by
  show YX m p=_;cases YX m p<;>rfl
 |f::l,m=>by
  rw[XC,QkZ p l,List.find?_cons];have hh:∀q:Ua,QaT m q=(YX m q).isSome:=λq=>by
   unfold QaT YX;rw[Option.isSome_map]
   induction m with
   |nil=>rfl
   |cons a m ih=>
    rw[List.any_cons,List.find?_cons,ih];cases decide (a.1=q)<;>rfl
  by_cases e:p=⟨f.Beacon.Mat,f.Beacon.Epoch⟩
  .subst e;simp only[beq_self_eq_true,Bool.and_self];rw[hh];cases q:YX m (⟨f.Beacon.Mat,f.Beacon.Epoch⟩:Ua)with
   |some v=>simp only[Option.isSome_some,Xh,Vm,q]
   |none=>simp only[Option.isSome_none,Xi,Vl,Qbb,if_true,Xk]
  .have ne:((f.Beacon.Mat==p.mat)&&(f.Beacon.Epoch==p.epoch))=false:=by
    cases z:(f.Beacon.Mat==p.mat)&&(f.Beacon.Epoch==p.epoch)with
    |false=>rfl
    |true=>
     rw[XV,Vv,Vv]at z;refine absurd ?_ e;cases p;simp only at z;rw[z.1,z.2]
   rw[ne];have g:YX (bif !QaT m (⟨f.Beacon.Mat,f.Beacon.Epoch⟩:Ua)then Yp m ⟨f.Beacon.Mat,f.Beacon.Epoch⟩ f.Beacon.Local else m) p=YX m p:=by
    cases QaT m (⟨f.Beacon.Mat,f.Beacon.Epoch⟩:Ua)with
    |true=>rfl
    |false=>simp only[Xi,Vl,Qbb,Vp e]
   rw[g]
theorem Qnr(c:Course)(l:List Fact)(p:Ua):QL (metA c l).2 p 0=ancR (canonS l) p.mat p.epoch 0:=by
 unfold metA QL ancR;rw[Qit,QkZ];have e:YX ([]:Anc) p=none:=rfl;have d:∀r:List Fact,(r.filter λf=>f.Kind==3).find? (λf=>(f.Beacon.Mat==p.mat)&&(f.Beacon.Epoch==p.epoch))=r.find? (isB p.mat p.epoch):=by
  intro r
  induction r with
  |nil=>rfl
  |cons f r a=>
   rw[Xd,List.find?_cons];unfold isB;cases q:f.Kind==3 with
   |false=>simp only[Bool.false_and,Xj,if_false];exact a
   |true=>
    simp only[Vx,if_true,List.find?_cons];cases(f.Beacon.Mat==p.mat)&&(f.Beacon.Epoch==p.epoch)with
    |true=>rfl
    |false=>exact a
 simp only[e];unfold cntS;rw[d];cases(canonS l).find? (isB p.mat p.epoch)<;>rfl
def anchS(C:List Fact)(s:Segment):Segment:=⟨s.Mat,s.Epoch,ancR C s.Mat s.Epoch 0⟩
theorem Qn8(c:Course)(l:List Fact):(outR c l).map (anchS (canonS l))=segV c l:=by
 obtain⟨k,f,_⟩:=QjF (c:=c) (canonS l) [] ⟨List.Pairwise.nil,λs h=>by cases h⟩;refine QcL Qoi QmK (List.pairwise_map.2 (k.lt.imp λh=>h)) (Qmv c l) λs=>?_;have j:s∈segV c l↔ ∃p∈(metA c l).1.map (·.1),s=⟨p.mat,p.epoch,QL (metA c l).2 p 0⟩:=by
  unfold segV;rw[(QQ _ _).mem_iff,Xf];constructor
  .rintro⟨p,a,rfl⟩;exact⟨p.1,Xf.2 ⟨p,a,rfl⟩,rfl⟩
  .rintro⟨_,i,rfl⟩;obtain⟨p,a,rfl⟩:=Xf.1 i;exact⟨p,a,rfl⟩
 rw[j,Xf];constructor
 .rintro⟨t,g,rfl⟩;have q:=(f t).1 g;rcases q with q|⟨d,m,e⟩
  .cases q
  .exact⟨⟨t.Mat,t.Epoch⟩,(Qkz c l _).2 ⟨d,e⟩,by rw[Qnr];rfl⟩
 .rintro⟨p,a,rfl⟩;obtain⟨d,e⟩:=(Qkz c l p).1 a;exact⟨⟨p.mat,p.epoch,0⟩,(f _).2 (.inr ⟨d,rfl,e⟩),by rw[Qnr];rfl⟩
theorem QfV(C:List Fact)(l:C.length<=1000)(S:List Segment)(i:Nat)(s:Segment)(hi:S[i]?=some s):∀(j:Nat) (a:Int),j<=C.length->
  EvI (λn=>F_ji n C (S,(i:Int))) (S.set i ⟨s.Mat,s.Epoch,a⟩,(j:Int)-1) (S.set i ⟨s.Mat,s.Epoch,ancR (C.take j) s.Mat s.Epoch a⟩)
 |0,a,_=>by
  refine Ei ?_;unfold F_ji;rw[QW (show¬(0<=((0:Nat):Int)-1)by omega)];exact Qa _
 |j+1,a,hj=>by
  have hlt:i<S.length:=(XK.1 hi).1;have hj':j<C.length:=by omega
  have d:=XJ hj';generalize C[j]=f at d;have e:(S.set i ⟨s.Mat,s.Epoch,a⟩)[i]?=some ⟨s.Mat,s.Epoch,a⟩:=Xa hlt;have k:ancR (C.take (j+1)) s.Mat s.Epoch a=ancR (C.take j) s.Mat s.Epoch (bif isB s.Mat s.Epoch f then f.Beacon.Local else a):=by
   unfold ancR;rw[List.take_add_one,d,Option.toList_some,List.find?_append];cases(C.take j).find? (isB s.Mat s.Epoch)with
   |some g=>rfl
   |none=>
    simp only[List.find?_cons,List.find?_nil,Option.none_or];cases isB s.Mat s.Epoch f<;>rfl
  rw[k];refine Ew ?_ (QfV C l S i s hi j (bif isB s.Mat s.Epoch f then f.Beacon.Local else a) (by omega));have h:((j+1:Nat):Int)-1=(j:Int):=by omega
  have w:i64.wrap ((j:Int)-1)=(j:Int)-1:=Qn (by omega) (by omega);unfold F_ji;simp only[h,QX (show(0:Int)<=(j:Int)by omega),Vl,Q8 d,XI,Q8 e,w];refine Ea (v:=isB s.Mat s.Epoch f) (Eh λ_=>Eh λ_=>Qa _) ?_;refine Ea (v:=S.set i ⟨s.Mat,s.Epoch,bif isB s.Mat s.Epoch f then f.Beacon.Local else a⟩) ?_ (Qa _);cases isB s.Mat s.Epoch f with
  |false=>exact Qa _
  |true=>
   simp only[Vl];rw[Qff _ _ (by rw[X2];exact hlt),XI,List.set_set];exact Qa _
theorem Qb1{c:Course}{l:List Fact}{e:Int}(he:Ev (λn=>F_bl n c) e)(V:l.length<=100):Ev (λn=>F_cr n c l) (bif e != 0 then([],e)else(segV c l,0)):=by
 have X:=Qbv l;obtain⟨M,R,J⟩:=QjF (c:=c) (canonS l) [] ⟨List.Pairwise.nil,λs h=>by cases h⟩;have W:(outR c l).length<=200:=XU J (by simp;omega);unfold F_cr;refine Ea he ?_;cases e != 0 with
 |true=>exact Qa _
 |false=>
  refine Q1 (Ea (Qeo l (by omega)) ?_);have Q:∀(r:List Fact) (i:Nat) (g:List Segment),(canonS l).drop i=r->i<=(canonS l).length->RefS g->g.length<=2*i->EvI (λn=>F_ip n c (canonS l)) (g,(i:Int)) (r.foldl (stepR c) g):=by
   intro r
   induction r with
   |nil=>
    intro i g F x G j;refine Ei ?_;unfold F_ip;simp only[QM F x,Vm];exact Qa _
   |cons f r E=>
    intro i g F x G j;obtain⟨y,B⟩:=Qw (by omega) F;have H:=y.lt';obtain⟨a,_,d⟩:=Qkp (c:=c) G f;refine Ew ?_ (E (i+1) (stepR c g f) B (by omega) a (by omega));unfold F_ip stepR;simp only[y.lt,Vl,y.ix,XI,y.nx];refine Ea ?_ (Qa _);cases f.Kind==2 with
    |true=>exact Ea (QeW (by omega) _ _) (Qa _)
    |false=>
     refine Q1 ?_;cases f.Kind==3 with
     |true=>exact Ea (QeW (by omega) _ _) (Qa _)
     |false=>
      refine Q1 ?_;cases f.Kind==4 with
      |true=>
       obtain⟨_,_,T⟩:=Qc1 (c:=c) G f.Sync.MatA f.Sync.EpochA;exact Ea (QeW (by omega) _ _) (Ea (QeW (by omega) _ _) (Qa _))
      |false=>exact Qa _
  refine Ea (Q (canonS l) 0 [] rfl (XT _) ⟨List.Pairwise.nil,λs h=>by cases h⟩ (by simp)).ev ?_;show Ev (λn=>bif decide (511<((outR c l).length:Int))then some ([],2)else(iter (F_er n (canonS l)) n (outR c l,0)).bind λb=>some (b,0)) _;rw[QW (show¬(511<((outR c l).length:Int))by omega)];refine Q1 ?_;have N:∀(m i:Nat),i+m=(outR c l).length->EvI (λn=>F_er n (canonS l)) (((outR c l).take i).map (anchS (canonS l))++(outR c l).drop i,(i:Int)) ((outR c l).map (anchS (canonS l))):=by
   intro m
   induction m with
   |zero=>
    intro i x;obtain rfl:i=(outR c l).length:=by omega
    refine Ei ?_;unfold F_er;simp only[X7,Xr,Vd,XZ,QW (show¬(((outR c l).length:Int)<((outR c l).length:Int))by omega),Vm];exact Qa _
   |succ m E=>
    intro i x;have p:i<(outR c l).length:=by omega
    generalize hL:((outR c l).take i).map (anchS (canonS l))++(outR c l).drop i=L;have j:L.length=(outR c l).length:=by rw[<- hL];simp;omega
    have w:(((outR c l).take i).map (anchS (canonS l))).length=i:=by simp;omega
    have t:L[i]?=some (outR c l)[i]:=by
     rw[<- hL,XM (by omega),w,Nat.sub_self,List.getElem?_drop,Xw];exact XJ p
    have z:=M.an _ (List.getElem_mem p);have O:(⟨(outR c l)[i].Mat,(outR c l)[i].Epoch,0⟩:Segment)=(outR c l)[i]:=Qjx rfl rfl z.symm;have fin:=QfV (canonS l) (by omega) L i _ t (canonS l).length 0 (XS _);rw[O,X7]at fin;have same:L.set i (outR c l)[i]=L:=by
     refine List.ext_getElem? λk=>?_;by_cases e:k=i
     .subst e;rw[Xa (by omega),t]
     .rw[XO (by omega)]
    rw[same]at fin;have u:=E (i+1) (by omega);have P:((outR c l).take (i+1)).map (anchS (canonS l))++(outR c l).drop (i+1)=L.set i (anchS (canonS l) (outR c l)[i]):=by
     rw[<- hL,List.set_append_right _ _ (by omega),w,Nat.sub_self,Xp p,List.set_cons_zero,List.take_add_one,XJ p,Xg,Vf];rfl
    rw[P]at u;refine Ew ?_ u;unfold F_er;simp only[j,QX (show(i:Int)<((outR c l).length:Int)by omega),Vl,Q2 (show i<9223372036854775807 by omega)];rw[Qn (n:=((canonS l).length:Int)-1) (by omega) (by omega)];exact Ea fin.ev (Qa _)
  have q:=(N (outR c l).length 0 (by omega)).ev;simp only[List.take_zero,Vh,Ve,List.drop_zero]at q;refine Ea q ?_;rw[Qn8];exact Qa _
end Go.Sw
