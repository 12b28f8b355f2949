/- The plain laws that a law needs, with no program in sight. -/
import Derived.Test.YtgjcbknjiemdgaaGreatDoorW16Sg
set_option linter.unusedVariables false
set_option linter.unusedSimpArgs false
namespace Go.Sw
open List(map)
open Int(toNat)
open Go.IntKind(i64 u64 u8)
def inR(lo hi x:Int):Bool:=decide (lo<=x)&&decide (x<=hi)
theorem QgB(lo hi:Int)(l:List Int)(a:l.length<=4611686018427387904):Ev (λn=>F_a n lo hi l) (l.all (inR lo hi)):=by
 have h:Ev (λn=>F_fz n l lo hi) (l.any λx=> !inR lo hi x):=by
  refine Ev.contains l _ (λn x=>F_hd n x lo hi) a λx _=>?_;refine Ea ((Er λh=>Qa _).eq ?_) (Qa _);unfold inR;rw[XV];simp
 refine Ea h ((Qa _).eq ?_);rw[List.not_any_eq_all_not];simp
def okN(c:Nat):Bool:=(decide (97<=c)&&decide (c<=122))||(decide (48<=c)&&decide (c<=57))||decide (c=95)
def okAN(c:Nat):Bool:=decide (97<=c)&&decide (c<=122)
def okC(c:UInt8):Bool:=okN c.toNat
def okA(c:UInt8):Bool:=okAN c.toNat
def kwL:List (List UInt8):=[[99,111,117,114,115,101],[109,97,116,115],[115,116,97,114,116],[112,97,115,115],[101,110,100],[108,101,103],[116,111],[100,105,115,116,97,110,99,101],[103,117,110],[99,104,105,112],[115,108,111,116],[108,97,112,115],[108,97,112],[99,117,116,111,102,102],[101,120,116,114,97],[119,97,118,101],[111,102,102,101,110,99,101],[111,117,116],[99,97,116,101,103,111,114,121],[112,114,105,122,101],[97,108,108],[116,105,101,115],[105,102],[101,108,115,101],[97,110,100],[111,114],[110,111,116],[111,108,100,101,114],[121,111,117,110,103,101,114],[98,105,98],[100,114,97,119],[102,105,101,108,100],[115,104,111,114,116],[102,97,117,108,116,115],[109,105,115,115,101,115],[115,116,114,97,121,115],[119,105,110,100,111,119],[114,101,115,105,100,117,97,108],[100,114,105,102,116],[112,114,111,116,101,115,116],[102,101,101],[100,101,97,100,108,105,110,101]]
theorem QhA(c d:Bool):(bif c then some c else some d)=some (c||d):=by cases c<;>rfl
theorem QeH(c d:Bool):(bif c then some true else some d)=some (c||d):=by cases c<;>rfl
theorem Qf5(n:Nat)(s:List UInt8):F_dy n s=some (kwL.contains s):=by
 unfold F_dy;simp only[QhA,QeH,XH];simp only[kwL,List.contains_cons,List.contains_nil,Bool.or_assoc]
def kwsOf:List UInt8->List (List UInt8)
 |[]=>[]
 |b::l=>(bif b==32&& !(l.dropWhile λc=>c != 32).isEmpty then[l.takeWhile λc=>c != 32]else[])++kwsOf l
theorem QdW:∀(l s:List UInt8),(∀c∈s,c≠32)->(s++[32]).isPrefixOf l=((l.takeWhile λc=>c != 32)==s&& !(l.dropWhile λc=>c != 32).isEmpty)
 |[],s,h=>by cases s<;>simp
 |b::l,[],h=>by
  by_cases e:b=32
  .subst e;simp
  .have e1:=by simpa using e
   have i:(32==b)=false:=by simpa using λq=>e q.symm
   simp[List.isPrefixOf,e1,i]
 |b::l,c::s,h=>by
  have j:=h c (by simp);have f:=QdW l s λd g=>h d (by simp[g]);by_cases e:b=32
  .subst e;have:=by simpa using j
   simp[List.isPrefixOf,this]
  .have e1:(b != 32)=true:=by simpa using e
   simp[VG,List.isPrefixOf,List.takeWhile_cons,List.dropWhile_cons,e1,f];by_cases q:c=b
   .subst q;simp
   .have q1:=by simpa using q
    have a:(b==c)=false:=by simpa using λz=>q z.symm
    simp[q1,a]
theorem contains_cons(b:UInt8)(l t:List UInt8)(a:t≠[]):Lib.contains (b::l) t=(t.isPrefixOf (b::l)||Lib.contains l t):=by
 unfold Lib.contains;rw[show Lib.index (b::l) t=if t.isPrefixOf (b::l)then 0 else if Lib.index l t== -1 then-1 else Lib.index l t+1 from rfl];cases h:t.isPrefixOf (b::l)with
 |true=>simp
 |false=>
  by_cases q:Lib.index l t= -1
  .simp[q]
  .have q1:=by simpa using q
   simp;omega
theorem QbU(s:List UInt8)(h:∀c∈s,c≠32):∀l,Lib.contains l (32::(s++[32]))=(kwsOf l).contains s
 |[]=>by simp[Lib.contains,Lib.index,kwsOf]
 |b::l=>by
  rw[contains_cons b l _ (by simp),QbU s h l];simp only[kwsOf,List.isPrefixOf,QdW l s h];by_cases e:b=32
  .subst e;cases q: !(l.dropWhile λc=>c != 32).isEmpty with
   |true=>
    simp only[beq_self_eq_true,Vw,Bool.and_true,Vd];congr 1;rw[XV];simp[Vu];exact⟨λh=>h.symm,λh=>h.symm⟩
   |false=>simp
  .have e1:(b==32)=false:=by simpa using e
   have a:(32==b)=false:=by simpa using λq=>e q.symm
   simp[e1,a]
def wordsL:List UInt8:=[32,99,111,117,114,115,101,32,109,97,116,115,32,115,116,97,114,116,32,112,97,115,115,32,101,110,100,32,108,101,103,32,116,111,32,100,105,115,116,97,110,99,101,32,103,117,110,32,99,104,105,112,32,115,108,111,116,32,108,97,112,115,32,108,97,112,32,99,117,116,111,102,102,32,101,120,116,114,97,32,119,97,118,101,32,111,102,102,101,110,99,101,32,111,117,116,32,99,97,116,101,103,111,114,121,32,112,114,105,122,101,32,97,108,108,32,116,105,101,115,32,105,102,32,101,108,115,101,32,97,110,100,32,111,114,32,110,111,116,32,111,108,100,101,114,32,121,111,117,110,103,101,114,32,98,105,98,32,100,114,97,119,32,102,105,101,108,100,32,115,104,111,114,116,32,102,97,117,108,116,115,32,109,105,115,115,101,115,32,115,116,114,97,121,115,32,119,105,110,100,111,119,32,114,101,115,105,100,117,97,108,32,100,114,105,102,116,32,112,114,111,116,101,115,116,32,102,101,101,32,100,101,97,100,108,105,110,101,32]
theorem Qpc:kwsOf wordsL=kwL:=by decide+kernel
def classTab:List Int:=(List.range 256).map λi=>if 97<=i/\i<=122\/65<=i/\i<=90 then 2 else if 48<=i/\i<=57 then 3 else if i∈[123,125,40,41,91,93,59,44,61,60,62]then 4 else if i∈[32,9,10,13]then 1 else 0
theorem QjE:Ev F_cf classTab:=by
 unfold F_cf;refine Ea (Qcl (step:=F_fv 0) 40 (b:=(iter (F_fv 0) 40 (List.replicate 256 0,97)).getD []) (by decide+kernel)) ?_;refine Ea (Qcl (step:=F_iq 0) 40 (b:=(iter (F_iq 0) 40 ((iter (F_fv 0) 40 (List.replicate 256 0,97)).getD [],48)).getD []) (by decide+kernel)) ?_;generalize hb:(iter (F_iq 0) 40 ((iter (F_fv 0) 40 (List.replicate 256 0,97)).getD [],48)).getD []=b2;refine Ea (Qcl (step:=F_ke 0) 40 (b:=(iter (F_ke 0) 40 (b2,0)).getD []) (by subst hb;decide+kernel)) ?_;refine Ea (Qcl (step:=F_kn 0) 40 (b:=classTab) (by subst hb;decide+kernel)) ?_;exact Ey (by decide+kernel)
theorem Qlv:((List.range 256).all λi=> !okN i||decide (classTab[i]?=some (if okAN i then 2 else if i=95 then 0 else 3)))=true:=by decide+kernel
theorem Qm2{c:UInt8}(h:okC c=true):Qel 256 classTab (c.toNat:Int)=some (if okA c then 2 else if c.toNat=95 then 0 else 3):=by
 have a:=Xs.1 Qlv c.toNat (List.mem_range.2 c.toNat_lt);unfold okC at h;rw[h]at a;simp[Xg,Bool.false_or,Vm]at a;unfold Qel;rw[show Nat.beq classTab.length 256=true by decide+kernel,Vk,Ym a];rfl
def goodS(s:List UInt8):Bool:=decide (1<=s.length)&&decide (s.length<=24)&&(s.head?).any okA&&s.all okC
def isNameS(s:List UInt8):Bool:=goodS s&& !kwL.contains s
theorem Qlj(s:List UInt8)(h:goodS s=true):Ev (λn=>F_dx n s) true:=by
 unfold goodS at h;simp only[XU,Vm,Xs]at h;obtain⟨⟨⟨e,l⟩,j⟩,g⟩:=h;unfold F_dx;refine Ea QjE ?_;refine JK (v:=List.replicate 256 0) (by decide+kernel) ?_;refine JK (v:=classTab) (by decide+kernel) ?_;refine Ea (v:=Ctl.cont ()) (Ev.iter (λi=>(i:Int)) s.length rfl (λi f=>?_) ?_) ?_
 .have a:=Jl (x:=s[i]) (by omega) (XI f);have k:=g _ a.mem;unfold F_jz;simp only[a.lt,Vk,a.ix,XH,Qm2 k,a.nx];cases i with
  |zero=>
   have:okA s[0]=true:=by
    cases s with
    |nil=>simp at e
    |cons c r=>simpa using j
   simp[this];exact Qa _
  |succ i=>
   by_cases q:okA s[i+1]=true
   .simp[q];exact Qa _
   .by_cases d:s[i+1].toNat=95
    iterate 2 simp[q,d];exact Qa _
 .unfold F_jz;simp only[Jk,Vl];exact Qa _
 .refine Ey ?_;cases s with
  |nil=>simp at e
  |cons c r=>rfl
theorem Qld{s:List UInt8}(h:goodS s=true):∀c∈s,c≠32:=by
 unfold goodS at h;simp[XU,Xs]at h;rintro c a rfl;exact absurd (h.2 _ a) (by decide)
theorem Qmz{s:List UInt8}(h:goodS s=true):s.length<=24:=by
 unfold goodS at h;simp[XU,Vm]at h;exact h.1.1.2
theorem QjF(s:List UInt8)(h:goodS s=true):Ev (λn=>F_ed n s) (kwL.contains s):=by
 refine Ea (Ea (Qlj s h) (QkQ ?_)) (Qa _);have a:=Qmz h;refine JK (by unfold cat;rw[XQ (by simp;omega)];rfl) (JK (by unfold cat;rw[XQ (by simp;omega)];rfl) ?_);refine JK ?_ (Qa _);show Qfj wordsL ([32]++s++[32])=some (kwL.contains s);unfold Qfj;rw[show Nat.blt wordsL.length 4294967281=true by decide+kernel,Vk];rw[show[32]++s++[32]=32::(s++[32])by simp,QbU s (Qld h),Qpc]
theorem ch_lt(c:UInt8)(k:Nat):decide ((c.toNat:Int)<(k:Int))=decide (c.toNat<k):=by
 simp
theorem badC(c:UInt8):(bif decide ((c.toNat:Int)<97)then(bif decide ((c.toNat:Int)<48)then some ((c.toNat:Int) != 95)else(bif decide (57<(c.toNat:Int))then some ((c.toNat:Int) != 95)else some false))else(bif decide (122<(c.toNat:Int))then(bif decide ((c.toNat:Int)<48)then some ((c.toNat:Int) != 95)else(bif decide (57<(c.toNat:Int))then some ((c.toNat:Int) != 95)else some false))else some false))=some (!okC c):=by
 unfold okC okN;generalize c.toNat=k;have e:((k:Int) != 95)= !decide (k=95):=by
  by_cases h:k=95
  .subst h;rfl
  .rw[Vt h];simp;omega
 rw[e];by_cases j:k<48
 .rw[QZ (show(k:Int)<97 by omega),QZ (show(k:Int)<48 by omega)];have a:¬97<=k:=by omega
  have g:¬48<=k:=by omega
  simp[a,g]
 .rw[QV (show¬(k:Int)<48 by omega)];by_cases d:k<=57
  .rw[QZ (show(k:Int)<97 by omega),QV (show¬57<(k:Int)by omega)];have a:48<=k:=by omega
   simp[a,d]
  .rw[QZ (show 57<(k:Int)by omega)];by_cases i:k<97
   .rw[QZ (show(k:Int)<97 by omega)];have a:=by omega
    simp[a,d]
   .rw[QV (show¬(k:Int)<97 by omega)];by_cases f:k<=122
    .rw[QV (show¬122<(k:Int)by omega)];have a:97<=k:=by omega
     simp[a,f]
    .rw[QZ (show 122<(k:Int)by omega)];simp[d,f]
theorem Qgt(n:Nat)(s:List UInt8):(bif decide ((s.length:Int)<1)then some true else(bif decide (24<(s.length:Int))then some true else(idx s 0).bind λx10=>(bif decide ((x10.toNat:Int)<97)then some true else(idx s 0).bind λx12=>some (decide (122<(x12.toNat:Int))))))=some (!(decide (1<=s.length)&&decide (s.length<=24)&&(s.head?).any okA)):=by
 cases s with
 |nil=>rfl
 |cons c r=>
  by_cases h:(c::r).length<=24
  .rw[QV (show¬24<((c::r).length:Int)by omega),Vl];have e:idx (c::r) 0=some c:=rfl;simp[e,XH];simp[XX]at h;have a:r.length<=23:=by omega
   simp[List.head?_cons,Option.any_some,okA,okAN];rw[show(97:Int)=(97:Nat)from rfl,ch_lt];by_cases d:c.toNat<97
   .have:=by omega
    simp[d]
   .have f:97<=c.toNat:=by omega
    simp[d,f,a];by_cases q:c.toNat<=122
    .rw[QV (show¬122<(c.toNat:Int)by omega),QZ q];rfl
    .rw[QZ (show 122<(c.toNat:Int)by omega),QV q];rfl
  .rw[QZ (show 24<((c::r).length:Int)by omega),Vk];simp[XX]at h;have a:=by omega
   simp[a]
theorem QgF(s:List UInt8)(h:s.length<=1048576):Ev (λn=>F_j n s) (isNameS s):=by
 refine Ea (Ey (Qgt 0 s)) ?_;unfold isNameS;cases f:(decide (1<=s.length)&&decide (s.length<=24)&&(s.head?).any okA)with
 |false=>
  have:goodS s=false:=by unfold goodS;rw[f];rfl
  rw[this];exact Qa _
 |true=>
  have g:goodS s=s.all okC:=by unfold goodS;rw[f];rfl
  refine Ea (Jd s (λc=> !okC c) (λi=>(i:Int)) (Ctl.done false) (Ctl.cont ()) (by omega) rfl (λi x a d=>?_) (λi x a d=>?_) ?_) ?_
  .unfold F_ix;simp only[a.lt,a.ix,XH,badC,d,a.nx];exact Qa _
  .unfold F_ix;simp only[a.lt,a.ix,XH,badC,d];exact Qa _
  .unfold F_ix;simp[Jk];exact Qa _
  .rw[g];have e:s.any (λc=> !okC c)= !s.all okC:=by rw[List.not_all_eq_any_not]
   rw[e];cases q:s.all okC with
   |true=>
    exact Ea (QjF s (g.trans q)) (Qa _)
   |false=>
    exact Qa _
theorem Qbq(s:List UInt8)(p:s.length<=1048576):Ev (λn=>F_bz n s) (isNameS s):=by
 refine Ea (Ey (Qgt 0 s)) ?_;unfold isNameS;cases d:(decide (1<=s.length)&&decide (s.length<=24)&&(s.head?).any okA)with
 |false=>
  have:goodS s=false:=by unfold goodS;rw[d];rfl
  rw[this];exact Qa _
 |true=>
  have l:goodS s=s.all okC:=by unfold goodS;rw[d];rfl
  cases s with
  |nil=>simp at d
  |cons c r=>
   have m:okC c=true:=by
    simp[XU,List.head?_cons,Option.any_some]at d;have:=d.2;unfold okA at this;unfold okC okN;unfold okAN at this;rw[this];rfl
   have hr:=by
    simp[XU,Vm,XX]at d;omega
   have j:∀(i:Nat) (x:UInt8),At r i x->decide (((i+1:Nat):Int)<(c::r).length)=true/\idx (c::r) (i+1:Nat)=some x/\i64.wrap ((i+1:Nat)+1)=i+1+1:=by
    intro i x a;have:=a.lt';exact⟨Vq (by simp;omega),Ym (by simpa using a.get),Yi (by omega)⟩
   refine Ea (Jd r (λc=> !okC c) (λi=>((i+1:Nat):Int)) (Ctl.done false) (Ctl.cont ()) (by omega) rfl (λi x a h=>?_) (λi x a h=>?_) ?_) ?_
   .obtain⟨f,g,k⟩:=j i x a;unfold F_iw;simp only[f,g,XH,badC,h,k];exact Qa _
   .obtain⟨f,g,k⟩:=j i x a;unfold F_iw;simp only[f,g,XH,badC,h];exact Qa _
   .unfold F_iw;rw[QV (by simp),Vl];exact Qa _
   .rw[l];have e:r.any (λc=> !okC c)= !(c::r).all okC:=by rw[List.all_cons,m,Vw,List.not_all_eq_any_not]
    rw[e];cases q:(c::r).all okC with
    |true=>
     exact Ea (Ey (Qf5 0 _)) (Qa _)
    |false=>
     exact Qa _
def diffS:List (List UInt8)->List (List UInt8)->Bool
 |_,[]=>true
 |seen,x::r=>isNameS x&& !seen.contains x&&diffS (seen++[x]) r
theorem QfK(l:List (List UInt8))(i:Nat)(x:List UInt8)(h:At l i x):diffS (l.take i) (l.drop i)=(isNameS x&& !(l.take i).contains x&&diffS (l.take (i+1)) (l.drop (i+1))):=by
 rw[h.drop,h.take];rfl
theorem QbT{α:Type}(l:List α)(a:α->List UInt8)(g:Nat->α->Option Unit)(hg:∀n x,g n x=some ())(q:l.length<=1048576)(p:∀x∈l,(a x).length<=1048576):
  Ev (λn=>((iter (λs:(List (List UInt8×Bool))×Int=>bif decide (s.2<(l.length:Int))then(idx l s.2).bind λx35=>(g n x35).bind λr36=>((F_j n (a x35)).bind λr42=>(bif (!r42)then some true else(some (Q1 s.1 (a x35) false)).bind λv44=>some v44):Option Bool).bind λb40=>(bif b40 then some (.done (.done false))else(some (Yw s.1 (a x35) true)).bind λm46=>some (.cont (m46,i64.wrap (s.2+1))))else some (.done (.cont ()))) n ([],0):Option (Ctl Unit Bool)).bind λb28=>
   match b28 with
   |.cont _=>some true
   |.done s=>some s:Option Bool)) (diffS [] (l.map a)):=by
 have f:l.length<=4611686018427387904:=by omega
 have j:(l.map a).length<=4611686018427387904:=by simpa using f
 have k:=Qbx (B:=Ctl Unit Bool) l (step:=λn s=>bif decide (s.2<(l.length:Int))then(idx l s.2).bind λx35=>(g n x35).bind λr36=>((F_j n (a x35)).bind λr42=>(bif (!r42)then some true else(some (Q1 s.1 (a x35) false)).bind λv44=>some v44)).bind λb40=>(bif b40 then some (.done (.done false))else(some (Yw s.1 (a x35) true)).bind λm46=>some (.cont (m46,i64.wrap (s.2+1))))else some (.done (.cont ())))
  (λi=>(Yu a true (l.take i),i)) (λi=>bif diffS ((l.map a).take i) ((l.map a).drop i)then .cont ()else .done false) f rfl (λi x e=>?_) ?_
 .refine Ea k ?_;simp[List.take_zero,List.drop_zero];cases diffS [] (l.map a)<;>exact Qa _
 .have ha2:=Jl j (by rw[Xn,e.get];rfl);simp only[QfK _ _ _ ha2];have d:Ev (λn=>(F_j n (a x)).bind λr42=>(bif (!r42)then some true else(some (Q1 (Yu a true (l.take i)) (a x) false)).bind λv44=>some v44)) (!(isNameS (a x)&& !((l.map a).take i).contains (a x))):=by
   refine Ea (QgF (a x) (p x e.mem)) ?_;cases isNameS (a x)with
   |false=>exact Qa _
   |true=>
    refine QK ((Qa _).eq ?_);rw[QdY,List.map_take];by_cases h:a x∈(l.map a).take i
    iterate 2 simp
  cases m:(isNameS (a x)&& !((l.map a).take i).contains (a x))with
  |true=>
   rw[m]at d;refine .inl ⟨?_,by simp⟩;simp only[e.lt,e.ix,XH,hg];refine Ea d ?_;simp[e.nx];rw[e.take,Qg8];exact Qa _
  |false=>
   rw[m]at d;refine .inr ?_;simp only[e.lt,e.ix,XH,hg];refine Ea d ?_;exact Qa _
 .simp[Jk];rw[show(l.map a).drop l.length=[]by simp];exact Qa _
theorem Qpm{α:Type}{l:List α}{x:α}(h:l.length<=140737488):app l [x]=some (l++[x]):=Qbs l x (by omega)
theorem Qem(l:List (List UInt8))(s:l.length<=1048576)(k:∀x∈l,x.length<=1048576):Ev (λn=>F_v n l) (diffS [] l):=by
 have m:l.length<=4611686018427387904:=by omega
 refine Ea (Qbx l (λi=>(i:Int)) (λi=>bif diffS (l.take i) (l.drop i)then .cont ()else .done false) m rfl (λi x a=>?_) ?_) ?_
 .simp only[QfK _ _ _ a];unfold F_kj;simp only[a.lt,a.ix,XH];cases g:isNameS x with
  |false=>
   exact .inr (Ea ((Qbq x (k x a.mem)).eq g) (Qa _))
  |true=>
   have r:=a.lt';have inner:Ev (λn=>iter (F_fc n l i) n 0) (bif (l.take i).contains x then Ctl.done (Ctl.done (Ctl.done false))else Ctl.cont ()):=by
    have e:(l.take i).contains x=(l.take i).any λy=>y==x:=by
     rw[XV];simp
    rw[e];have f:(l.take i).length=i:=by simp;omega
    refine Jd (l.take i) (λy=>y==x) (λi=>(i:Int)) _ _ (by omega) rfl (λj y d p=>?_) (λj y d p=>?_) ?_
    .have h:=d.lt';have hjg:=by
      have:=d.get;rw[List.getElem?_take]at this;split at this
      .exact this
      .cases this
     unfold F_fc;rw[QZ (show(j:Int)<i by omega)];simp only[Ym hjg,a.ix,XH,p,d.nx];exact Qa _
    .have h:=d.lt';have hjg:=by
      have:=d.get;rw[List.getElem?_take]at this;split at this
      .exact this
      .cases this
     unfold F_fc;rw[QZ (show j<(i:Int)by omega)];simp only[Ym hjg,a.ix,XH,p];exact Qa _
    .unfold F_fc;rw[f,QV (show¬i<(i:Int)by omega)];exact Qa _
   cases q:(l.take i).contains x with
   |true=>
    rw[q]at inner;exact .inr (Ea ((Qbq x (k x a.mem)).eq g) (QK (Ea inner (Qa _))))
   |false=>
    rw[q]at inner;refine .inl ⟨Ea ((Qbq x (k x a.mem)).eq g) (QK (Ea inner ?_)),by simp⟩;simp only[a.nx];exact Qa _
 .unfold F_kj;simp only[Jk,Xq];exact Qa _
 .simp only[List.take_zero,List.drop_zero];cases diffS [] l<;>exact Qa _
theorem Qae{α β:Type}(l:List α)(f:α->β)(k:l.length<=140737488):Ev (λn=>iter (λs:(List β)×Int=>bif decide (s.2<(l.length:Int))then(idx l s.2).bind λx15=>(app s.1 [f x15]).bind λl16=>some (Ctl.cont (l16,i64.wrap (s.2+1)))else some (Ctl.done s.1)) n (([]:List β),(0:Int))) (l.map f):=by
 have e:∀l:List α,l.foldl (λa x=>a++[f x]) []=l.map f:=by
  intro l;have h:∀(l:List α) (a:List β),l.foldl (λa x=>a++[f x]) a=a++l.map f:=by
   intro l
   induction l with
   |nil=>simp
   |cons x l j=>intro a;rw[XB,j];simp
  simpa using h l []
 rw[<- e l];refine Y0 l (λa x=>a++[f x]) [] (λa i=>(a,(i:Int))) (λa=>a) (by omega) rfl (λi x a g d=>?_) ?_
 .rw[e]at d;have:a.length<=140737488:=by rw[d];simp;omega
  simp only[g.lt,g.ix,Qpm this,g.nx];exact Qa _
 .simp[Jk];exact Qa _
def namesS(c:Course):Bool:=isNameS c.Name&&(diffS [] (c.Mats.map (·.Name))&&(diffS [] (c.Distances.map (·.Name))&&(diffS [] (c.Waves.map (·.Name))&&(diffS [] (c.Offences.map (·.Name))&&diffS [] (c.Categories.map (·.Name))))))
structure CourseOk (c:Course):Prop where
 name:c.Name.length<=1048576
 mats:c.Mats.length<=1048576
 matsN:∀x∈c.Mats,x.Name.length<=1048576
 legs:c.Legs.length<=1048576
 dist:c.Distances.length<=1048576
 distN:∀x∈c.Distances,x.Name.length<=1048576
 cut:∀x∈c.Distances,x.Cutoffs.length<=1048576
 wave:c.Waves.length<=1048576
 waveN:∀x∈c.Waves,x.Name.length<=1048576
 off:c.Offences.length<=1048576
 offN:∀x∈c.Offences,x.Name.length<=1048576
 cat:c.Categories.length<=1048576
 catN:∀x∈c.Categories,x.Name.length<=1048576
 prize:c.Prizes.length<=1048576
theorem QmN(c:Course)(w:CourseOk c):Ev (λn=>F_ge n c) (namesS c):=by
 refine Ea (Ea (QgF c.Name w.name) (Eg λ_=>?_)) (Qa _);have f:Ev (λn=>F_fh n c.Mats) (diffS [] (c.Mats.map (·.Name))):=by exact QbT c.Mats (·.Name) F_ek (λ_ _=>rfl) w.mats w.matsN
 have a:Ev (λn=>F_el n c.Distances) (diffS [] (c.Distances.map (·.Name))):=by exact QbT c.Distances (·.Name) F_fd (λ_ _=>rfl) w.dist w.distN
 have d:Ev (λn=>F_ec n c.Waves) (diffS [] (c.Waves.map (·.Name))):=by exact QbT c.Waves (·.Name) F_gd (λ_ _=>rfl) w.wave w.waveN
 have g:Ev (λn=>F_et n c.Offences) (diffS [] (c.Offences.map (·.Name))):=by exact QbT c.Offences (·.Name) F_gq (λ_ _=>rfl) w.off w.offN
 have e:Ev (λn=>F_gi n c.Categories) (diffS [] (c.Categories.map (·.Name))):=by exact QbT c.Categories (·.Name) F_fo (λ_ _=>rfl) w.cat w.catN
 refine Ea f (Eg λ_=>(Ea a (Eg λ_=>?_)));refine Ea d (Eg λ_=>?_);exact Ea g (Eg λ_=>(Ea e (Qa _)))
structure Short (c:Course):Prop where
 mats:c.Mats.length<=140737488
 dist:c.Distances.length<=140737488
 wave:c.Waves.length<=140737488
 off:c.Offences.length<=140737488
 cat:c.Categories.length<=140737488
theorem QiB(c:Course)(w:CourseOk c)(s:Short c):Ev (λn=>F_gz n c) (namesS c):=by
 refine Ea (Qae c.Mats (·.Name) s.mats) (Ea (Qae c.Distances (·.Name) s.dist) ?_);refine Ea (Qae c.Waves (·.Name) s.wave) (Ea (Qae c.Offences (·.Name) s.off) ?_);refine Ea (Qae c.Categories (·.Name) s.cat) (Ea ?_ (Qa _));refine Ea (Qbq c.Name w.name) (Eg λ_=>?_);have mk:∀{α:Type} (l:List α) (nm:α->List UInt8),l.length<=1048576->(∀x∈l,(nm x).length<=1048576)->Ev (λn=>F_v n (l.map nm)) (diffS [] (l.map nm)):=by
  intro α l nm hl hn;refine Qem _ (by simpa using hl) λx d=>?_;obtain⟨y,a,rfl⟩:=Xe.1 d;exact hn y a
 refine Ea (mk c.Mats (·.Name) w.mats w.matsN) (Eg λ_=>(Ea (mk c.Distances (·.Name) w.dist w.distN) (Eg λ_=>?_)));refine Ea (mk c.Waves (·.Name) w.wave w.waveN) (Eg λ_=>(Ea (mk c.Offences (·.Name) w.off w.offN) (Eg λ_=>?_)));exact Ea (mk c.Categories (·.Name) w.cat w.catN) (Qa _)
theorem QaD{n:Nat}(h:n<=1048576):i64.wrap ((n:Int)-1)=(n:Int)-1:=QH (by omega) (by omega)
theorem JH(x lo hi:Int):Ev (λn=>F_c n x lo hi) (inR lo hi x):=by
 exact Ea (Eg λ_=>Qa _) (Qa _)
theorem QfF(c:Course)(w:CourseOk c)(x:Int):Ev (λn=>F_m n c x) (inR 0 ((c.Mats.length:Int)-1) x):=by
 unfold F_m;rw[QaD w.mats];exact Ea (JH _ _ _) (Qa _)
mutual
def szP:Part->Nat
 |⟨_,_,ps⟩=>1+szPs ps
def szPs:List Part->Nat
 |[]=>0
 |p::r=>szP p+szPs r
end
theorem Y9(p:Part):szP p=1+szPs p.Parts:=by cases p;rfl
theorem JF{p:Part}:∀{l:List Part},p∈l->szP p<=szPs l
 |q::r,h=>by
  simp[szPs];rcases X3.1 h with rfl|h
  .omega
  .have:=JF h;omega
mutual
def partS(k:Int):Part->Bool
 |⟨m,laps,ps⟩=>bif laps==0 then inR 0 k m&&((ps.length:Int)==0)else inR 1 64 laps&&((m==0)&&(decide (0<(ps.length:Int))&&partsS k ps))
def partsS(k:Int):List Part->Bool
 |[]=>true
 |p::r=>partS k p&&partsS k r
end
theorem QbP(k:Int)(p:Part):partS k p=bif p.Laps==0 then inR 0 k p.Mat&&((p.Parts.length:Int)==0)else inR 1 64 p.Laps&&((p.Mat==0)&&(decide (0<(p.Parts.length:Int))&&partsS k p.Parts)):=by cases p;rfl
theorem Qa5(k:Int):∀l:List Part,partsS k l=l.all (partS k)
 |[]=>rfl
 |p::r=>by simp[partsS,List.all_cons,Qa5 k r]
theorem YQ{p:Part}(h:Part.wf p):p.Parts.length<=1048576/\ ∀x∈p.Parts,Part.wf x:=by
 cases p;simp only[Part.wf,Qdk]at h;exact h.2.2.1
theorem QJ(lo hi x:Int):Ev (λn=>F_a n lo hi [x]) (inR lo hi x):=(QgB lo hi [x] (by simp)).eq (by simp)
theorem QaH(lo hi x y:Int):Ev (λn=>F_a n lo hi [x,y]) (inR lo hi x&&inR lo hi y):=(QgB lo hi [x,y] (by simp)).eq (by simp)
theorem QmM(k:Int):∀(m:Nat) (l:List Part),szPs l<=m->l.length<=1048576->(∀x∈l,Part.wf x)->Ev (λn=>F_au n l k) (partsS k l):=by
 intro m
 induction m with
 |zero=>
  intro l a f e;cases l with
  |nil=>
   refine QU ?_;exact Jq [] (partS k) (λn x=>F_cu (F_au n) n x k) (by simp) (by simp)
  |cons p r=>
   simp only[szPs,Y9]at a;omega
 |succ m g=>
  intro l a f e;refine QU ?_;rw[Qa5];refine Jq l (partS k) (λn x=>F_cu (F_au n) n x k) (by omega) λp d=>?_;rw[QbP];have h:=JF d;rw[Y9]at h;obtain⟨w1,w2⟩:=YQ (e p d);refine Qbz (λ_=>?_) (λ_=>?_)
  .exact Ea (Ea (QJ _ _ _) (Eg λ_=>Qa _)) (Qa _)
  .exact Ea (Ea (QJ _ _ _) (Eg λ_=>Eg λ_=>Eg λ_=>Ea (g p.Parts (by omega) w1 w2) (Qa _))) (Qa _)
theorem Qli(c:Course)(w:CourseOk c):∀(m:Nat) (l:List Part),szPs l<=m->l.length<=1048576->(∀x∈l,Part.wf x)->Ev (λn=>F_ab n c l) (partsS ((c.Mats.length:Int)-1) l):=by
 intro m
 induction m with
 |zero=>
  intro l f j g;cases l with
  |nil=>
   refine QU ?_;show Ev (λn=>B_ab (F_ab n) n c []) _;exact⟨1,λn t=>by obtain⟨k,rfl⟩:∃k,n=k+1:=⟨n-1,by omega⟩;rfl⟩
  |cons p r=>
   simp only[szPs,Y9]at f;omega
 |succ m h=>
  intro l f j g;refine QU ?_;show Ev (λn=>B_ab (F_ab n) n c l) _;rw[Qa5];have step:∀(i:Nat) (x:Part),At l i x->Ev (λn=>F_hy n c l (F_ab n) i) (bif partS (c.Mats.length-1) x then .cont (i+1)else .done (.done false)):=by
   intro i x a;unfold F_hy;simp only[a.lt,a.ix,XH,a.nx];have q:=JF a.mem;rw[Y9]at q;obtain⟨w1,w2⟩:=YQ (g x a.mem);refine Ea (Eg λ_=>Ea (QfF c w _) (Eg λ_=>Qa _)) (Ea (Ea (JH _ _ _) (Eg λ_=>Eg λ_=>Eg λ_=>Ea (h x.Parts (by omega) w1 w2) (Qa _))) ?_);rw[QbP];cases s:(x.Laps==0)with
   |true=>
    have e0:=by simpa using s
    have:inR 1 64 x.Laps=false:=by rw[e0];rfl
    rw[this];generalize(inR 0 (c.Mats.length-1) x.Mat&&((x.Parts.length:Int)==0))=b;cases b<;>exact Qa _
   |false=>
    generalize(inR 1 64 x.Laps&&((x.Mat==0)&&(decide (0<(x.Parts.length:Int))&&partsS (c.Mats.length-1) x.Parts)))=b;cases b<;>exact Qa _
  refine Ea (Jd l (λx=> !partS (c.Mats.length-1) x) (λi=>(i:Int)) (Ctl.done false) (Ctl.cont ()) (by omega) rfl (λi x a d=>?_) (λi x a d=>?_) ?_) ?_
  .refine(step i x a).eq ?_;have:=by simpa using d
   rw[this];rfl
  .refine(step i x a).eq ?_;have:=by simpa using d
   rw[this];rfl
  .unfold F_hy;simp[Jk];exact Qa _
  .have e:l.any (λx=> !partS (c.Mats.length-1) x)= !l.all (partS (c.Mats.length-1)):=by rw[List.not_all_eq_any_not]
   rw[e];cases l.all (partS (c.Mats.length-1))<;>exact Qa _
def legS(k:Int)(l:Leg):Bool:=(inR 0 k l.From&&inR 0 k l.To)&&((inR 0 68719476736 l.Min&&inR 0 68719476736 l.Max)&&decide (l.Min<=l.Max))
def cutS(k:Int)(x:Cutoff):Bool:=inR 0 k x.Mat&&(decide (1<=x.Lap)&&inR 0 1099511627776 x.Limit)
def distS(k:Int)(d:Distance):Bool:=inR 1 3 d.Timing&&(inR (-1) k d.Extra&&(partsS k d.Route&&d.Cutoffs.all (cutS k)))
def offS(o:Offence):Bool:=bif o.Out then(o.Time==0)&&(o.Laps==0)else bif o.Laps != 0 then(o.Time==0)&&inR 1 64 o.Laps else inR 0 68719476736 o.Time
def catS(x:Category):Bool:=(inR 0 120 x.From&&inR 0 120 x.To)&&decide (x.From<=x.To)
def prizeS(c:Course)(p:Prize):Bool:=inR 0 ((c.Distances.length:Int)-1) p.Distance&&(inR (-1) ((c.Categories.length:Int)-1) p.Category&&(inR 1 4000 p.Rank&&inR 1 1125899906842624 p.Amount))
def lastS(c:Course):Bool:=(inR 0 16 c.Faults.Misses&&inR 0 16 c.Faults.Strays)&&((inR 0 4294967296 c.Faults.Window&&inR 0 4294967296 c.Faults.Residual)&&(inR 0 100000 c.Faults.Drift&&(inR 0 1125899906842624 c.Fee&&inR 0 1099511627776 c.Deadline)))
def legKey(l:Leg):Ue:={from_:=l.From,to_:=l.To}
def prizeKey(p:Prize):Ug:={distance:=p.Distance,category:=p.Category,rank:=p.Rank}
def numbersS(c:Course):Bool:=
 let k:=(c.Mats.length:Int)-1
 c.Mats.all (λm=>inR 1 3 m.Kind)&&(c.Legs.all (legS k)&&(decide ((c.Legs.map legKey).Nodup)&&(c.Distances.all (distS k)&&(c.Waves.all (λw=>inR 0 1099511627776 w.Gun)&&(c.Offences.all offS&&(c.Categories.all catS&&(c.Prizes.all (prizeS c)&&(decide ((c.Prizes.map prizeKey).Nodup)&&lastS c))))))))
structure PartsOk (c:Course):Prop where
 len:∀d∈c.Distances,d.Route.length<=1048576
 wf:∀d∈c.Distances,∀x∈d.Route,Part.wf x
theorem Qhs(l:List Leg)(d:l.length<=1048576):Ev (λn=>F_fe n l) (decide ((l.map legKey).Nodup)):=by
 refine Ea (Qby l legKey true (by omega) (λi x m a=>?_) (λm=>?_)) ((Qa _).eq ?_)
 .unfold F_kg F_fg;simp only[a.lt,a.ix,a.nx];exact Qa _
 .unfold F_kg;simp[Jk];exact Qa _
 .rw[XV];simp[Vu,Vm];have:=Qcq legKey true l;rw[<- this.2];omega
theorem QfD(l:List Prize)(d:l.length<=1048576):Ev (λn=>F_gm n l) (decide ((l.map prizeKey).Nodup)):=by
 refine Ea (Qby l prizeKey true (by omega) (λi x m a=>?_) (λm=>?_)) ((Qa _).eq ?_)
 .unfold F_kb F_eg;simp only[a.lt,a.ix,a.nx];exact Qa _
 .unfold F_kb;simp[Jk];exact Qa _
 .rw[XV];simp[Vu,Vm];have:=Qcq prizeKey true l;rw[<- this.2];omega
theorem QjA(c:Course)(w:CourseOk c)(q:PartsOk c):Ev (λn=>F_dn n c) (numbersS c):=by
 unfold F_dn numbersS;rw[QaD w.mats];refine Ea (v:=_) ?_ (Qa _);have f:Ev (λn=>F_dj n c.Mats) (c.Mats.all λm=>inR 1 3 m.Kind):=by
  unfold F_dj F_go F_ee;refine Jq c.Mats _ (λn x=>F_dm n x) (by have:=w.mats;omega) λx a=>?_;unfold F_dm;exact Ea (QJ _ _ _) (Qa _)
 have d:Ev (λn=>F_dg n c.Legs ((c.Mats.length:Int)-1)) (c.Legs.all (legS ((c.Mats.length:Int)-1))):=by
  unfold F_dg F_fk F_ez;refine Jq c.Legs _ (λn x=>F_ce n x _) (by have:=w.legs;omega) λx a=>?_;unfold F_ce;exact Ea (Ea (QaH _ _ _ _) (Eg λ_=>Ea (QaH _ _ _ _) (Eg λ_=>Qa _))) (Qa _)
 have j:Ev (λn=>F_dk n c.Distances ((c.Mats.length:Int)-1)) (c.Distances.all (distS ((c.Mats.length:Int)-1))):=by
  unfold F_dk F_gb F_ei;refine Jq c.Distances _ (λn x=>F_da n x _) (by have:=w.dist;omega) λx a=>?_;unfold F_da;have i:Ev (λn=>F_dv n x.Cutoffs ((c.Mats.length:Int)-1)) (x.Cutoffs.all (cutS ((c.Mats.length:Int)-1))):=by
   unfold F_dv F_eq F_fy;refine Jq x.Cutoffs _ (λn x=>F_ca n x _) (by have:=w.cut x a;omega) λy l=>?_;unfold F_ca;exact Ea (Ea (QJ _ _ _) (Eg λ_=>Eg λ_=>Ea (QJ _ _ _) (Qa _))) (Qa _)
  exact Ea (Ea (QJ _ _ _) (Eg λ_=>Ea (QJ _ _ _) (Eg λ_=>Ea (QmM _ _ x.Route (XR _) (q.len x a) (q.wf x a)) (Eg λ_=>Ea i (Qa _))))) (Qa _)
 have e:Ev (λn=>F_cq n c.Waves) (c.Waves.all λw=>inR 0 1099511627776 w.Gun):=by
  unfold F_cq F_ej F_ha;refine Jq c.Waves _ (λn x=>F_de n x) (by have:=w.wave;omega) λx a=>?_;unfold F_de;exact Ea (QJ _ _ _) (Qa _)
 have g:Ev (λn=>F_ch n c.Offences) (c.Offences.all offS):=by
  unfold F_ch F_gp F_gk;refine Jq c.Offences _ (λn x=>F_cx n x) (by have:=w.off;omega) λx a=>?_;unfold F_cx offS;refine Qbz (λ_=>Ea (Eg λ_=>Qa _) (Qa _)) λ_=>Qbz (λ_=>Ea (Eg λ_=>Ea (QJ _ _ _) (Qa _)) (Qa _)) λ_=>Ea (QJ _ _ _) (Qa _)
 have h:Ev (λn=>F_ea n c.Categories) (c.Categories.all catS):=by
  unfold F_ea F_ex F_ff;refine Jq c.Categories _ (λn x=>F_cw n x) (by have:=w.cat;omega) λx a=>?_;unfold F_cw;exact Ea (Ea (QaH _ _ _ _) (Eg λ_=>Qa _)) (Qa _)
 have k:Ev (λn=>F_cz n c.Prizes c) (c.Prizes.all (prizeS c)):=by
  unfold F_cz F_ew F_eo;refine Jq c.Prizes _ (λn x=>F_co n x c) (by have:=w.prize;omega) λx a=>?_;unfold F_co;rw[QaD w.dist,QaD w.cat];exact Ea (Ea (QJ _ _ _) (Eg λ_=>Ea (QJ _ _ _) (Eg λ_=>Ea (QJ _ _ _) (Eg λ_=>Ea (QJ _ _ _) (Qa _))))) (Qa _)
 refine Ea f (Eg λ_=>Ea d (Eg λ_=>Ea (Qhs _ w.legs) (Eg λ_=>Ea j (Eg λ_=>Ea e (Eg λ_=>Ea g (Eg λ_=>Ea h (Eg λ_=>Ea k (Eg λ_=>Ea (QfD _ w.prize) (Eg λ_=>?_)))))))));exact Ea (QaH _ _ _ _) (Eg λ_=>Ea (QaH _ _ _ _) (Eg λ_=>Ea (QJ _ _ _) (Eg λ_=>Ea (QJ _ _ _) (Eg λ_=>Ea (QJ _ _ _) (Qa _)))))
theorem ends_eq{a b a' d:Int}:(({from_:=a,to_:=b}:Ue)={from_:=a',to_:=d})↔a=a'/\b=d:=by simp
theorem QfB(c:Course)(w:CourseOk c)(d:Distance)(m:d.Route.length<=1048576)(k:∀x∈d.Route,Part.wf x)(p:d.Cutoffs.length<=1048576):Ev (λn=>F_gs n c d) (distS ((c.Mats.length:Int)-1) d):=by
 have step:∀(i:Nat) (x:Cutoff),At d.Cutoffs i x->Ev (λn=>F_im n c d i) (bif cutS (c.Mats.length-1) x then .cont (i+1)else .done (.done false)):=by
  intro i x a;unfold F_im;simp only[a.lt,a.ix,XH,a.nx];have:Ev (λn=>(F_m n c x.Mat).bind λg=>(bif (!g)then some true else(bif decide (x.Lap<1)then some true else(F_c n x.Limit 0 1099511627776).bind λf=>some (!f)))) (!cutS (c.Mats.length-1) x):=by
   refine Ea (QfF c w _) (Et (Er λ_=>Er λ_=>Ea (JH _ _ _) (Qa _)) ?_);unfold cutS;by_cases h:x.Lap<1
   .have:=by omega
    simp[h]
   .have:1<=x.Lap:=by omega
    simp[h,this]
  refine Ea this ?_;cases cutS (c.Mats.length-1) x<;>exact Qa _
 refine Ea (Jd d.Cutoffs (λx=> !cutS (c.Mats.length-1) x) (λi=>(i:Int)) (Ctl.done false) (Ctl.cont ()) (by omega) rfl (λi x a j=>?_) (λi x a j=>?_) ?_) ?_
 .refine(step i x a).eq ?_;have:=by simpa using j
  rw[this];rfl
 .refine(step i x a).eq ?_;have:=by simpa using j
  rw[this];rfl
 .unfold F_im;simp[Jk];exact Qa _
 .have e:d.Cutoffs.any (λx=> !cutS (c.Mats.length-1) x)= !d.Cutoffs.all (cutS (c.Mats.length-1)):=by rw[List.not_all_eq_any_not]
  rw[e];unfold distS;have l:inR (-1) (c.Mats.length-1) d.Extra=((d.Extra== -1)||inR 0 (c.Mats.length-1) d.Extra):=by
   unfold inR;rw[XV];simp;omega
  cases d.Cutoffs.all (cutS (c.Mats.length-1))with
  |false=>
   simp[Bool.and_false];exact Qa _
  |true=>
   simp only[Bool.and_true];refine Ea (Ea (JH _ _ _) ((Eg λ_=>Ea (Qli c w _ d.Route (XR _) m k) (Eg λ_=>Er λ_=>Ea (QfF c w _) (Qa _))).eq ?_)) (Qa _);rw[l,Bool.and_comm (partsS _ _)]
theorem YV{α B:Type}{step:Nat->Int->Option (Ctl Int B)}(l:List α)(ok:α->Bool)(a b:B)(k:l.length<=4611686018427387904)
  (g:∀i x,At l i x->Ev (λn=>step n (i:Int)) (bif ok x then .cont ((i+1:Nat):Int)else .done a))(j:Ev (λn=>step n (l.length:Int)) (.done b)):
  Ev (λn=>Go.Sw.iter (step n) n 0) (bif l.all ok then b else a):=by
 have e:(bif l.all ok then b else a)=bif l.any (λx=> !ok x)then a else b:=by
  rw[<- List.not_all_eq_any_not];cases l.all ok<;>rfl
 rw[e];refine Jd l (λx=> !ok x) (λi=>(i:Int)) a b k rfl (λi x d f=>?_) (λi x d f=>?_) j
 .have h:=by simpa using f
  have:=g i x d
  rwa [h]at this
 .have h:=by simpa using f
  have:=g i x d
  rwa [h]at this
theorem Qhm(c:Course)(w:CourseOk c)(q:PartsOk c):Ev (λn=>F_di n c) (numbersS c):=by
 unfold F_di numbersS;have J:Ev (λn=>iter (F_hj n c) n 0) (bif c.Mats.all (λm=>inR 1 3 m.Kind)then Ctl.cont ()else Ctl.done false):=by
  refine YV c.Mats _ _ _ (by have:=w.mats;omega) (λi x a=>?_) ?_
  .unfold F_hj;simp only[a.lt,Vk,a.ix,XH,a.nx];refine Ea (JH _ _ _) ?_;cases inR 1 3 x.Kind<;>exact Qa _
  .unfold F_hj;simp only[Jk,Vl];exact Qa _
 have H:Ev (λn=>iter (F_df n c) n 0) (bif c.Legs.all (legS ((c.Mats.length:Int)-1))&&decide ((c.Legs.map legKey).Nodup)then Ctl.cont ()else Ctl.done false):=by
  have first:∀x:Leg,Ev (λn=>((F_m n c x.From).bind λp=>(bif (!p)then some true else(F_m n c x.To).bind λs=>(bif (!s)then some true else(bif decide (x.Min<0)then some true else(bif decide (x.Max<x.Min)then some true else some (decide (68719476736<x.Max)))))):Option Bool)) (!legS ((c.Mats.length:Int)-1) x):=by
   intro x;refine Ea (QfF c w _) (Et (Er λ_=>Ea (QfF c w _) (Er λ_=>Er λ_=>Er λ_=>Qa _)) ?_);unfold legS inR;rw[XV];simp;omega
  have inner:∀(i:Nat) (x:Leg),At c.Legs i x->Ev (λn=>iter (F_he n c (i:Int) x) n 0) (bif ((c.Legs.take i).map legKey).contains (legKey x)then Ctl.done (Ctl.done (Ctl.done false))else Ctl.cont ()):=by
   intro i x a;have E:=a.lt';refine Qi0 c.Legs i legKey (legKey x) _ _ (by have:=w.legs;omega) (by omega) (λj y F l g=>?_) (λj y F l g=>?_) ?_
   .unfold F_he;rw[QZ (show(j:Int)<(i:Int)by omega)];simp only[Vk,l.ix,XH,l.nx];have h:¬(y.From=x.From/\y.To=x.To):=by simpa[legKey]using g
    refine Ea (Eg λ_=>Qa _) ?_;have e:((y.From==x.From)&&(y.To==x.To))=false:=by
     rw[VI];intro z;exact h (by simpa using z)
    rw[e];exact Qa _
   .unfold F_he;rw[QZ (show(j:Int)<(i:Int)by omega)];simp only[Vk,l.ix,XH,l.nx];have h:(y.From=x.From/\y.To=x.To):=by simpa[legKey]using g
    refine Ea (Eg λ_=>Qa _) ?_;have e:((y.From==x.From)&&(y.To==x.To))=true:=by simpa using h
    rw[e];exact Qa _
   .unfold F_he;rw[QV (show¬(i:Int)<(i:Int)by omega)];exact Qa _
  refine Qnw c.Legs (legS ((c.Mats.length:Int)-1)) legKey _ _ (by have:=w.legs;omega) (λi x a d g=>?_) (λi x a d=>?_) (λi x a d g=>?_) ?_
  .unfold F_df;simp only[a.lt,Vk,a.ix,XH,a.nx];have f:=first x;rw[d]at f
   have k:=inner i x a;rw[g]at k;exact Ea f (QK (Ea k (Qa _)))
  .unfold F_df;simp only[a.lt,Vk,a.ix,XH,a.nx];have f:=first x;rw[d]at f
   exact Ea f (Qa _)
  .unfold F_df;simp only[a.lt,Vk,a.ix,XH,a.nx];have f:=first x;rw[d]at f
   have k:=inner i x a;rw[g]at k;exact Ea f (QK (Ea k (Qa _)))
  .unfold F_df;simp only[Jk,Vl];exact Qa _
 have M:Ev (λn=>iter (F_ip n c) n 0) (bif c.Distances.all (distS ((c.Mats.length:Int)-1))then Ctl.cont ()else Ctl.done false):=by
  refine YV c.Distances _ _ _ (by have:=w.dist;omega) (λi x a=>?_) ?_
  .unfold F_ip;simp only[a.lt,Vk,a.ix,XH,a.nx];refine Ea (QfB c w x (q.len x a.mem) (q.wf x a.mem) (w.cut x a.mem)) ?_;cases distS ((c.Mats.length:Int)-1) x<;>exact Qa _
  .unfold F_ip;simp only[Jk,Vl];exact Qa _
 have N:Ev (λn=>iter (F_hq n c) n 0) (bif c.Waves.all (λw=>inR 0 1099511627776 w.Gun)then Ctl.cont ()else Ctl.done false):=by
  refine YV c.Waves _ _ _ (by have:=w.wave;omega) (λi x a=>?_) ?_
  .unfold F_hq;simp only[a.lt,Vk,a.ix,XH,a.nx];refine Ea (JH _ _ _) ?_;cases inR 0 1099511627776 x.Gun<;>exact Qa _
  .unfold F_hq;simp only[Jk,Vl];exact Qa _
 have G:Ev (λn=>iter (F_if n c) n 0) (bif c.Offences.all offS then Ctl.cont ()else Ctl.done false):=by
  refine YV c.Offences _ _ _ (by have:=w.off;omega) (λi x a=>?_) ?_
  .unfold F_if;simp only[a.lt,Vk,a.ix,XH,a.nx];refine Ea (Ea (JH _ _ _) (Eg λ_=>Eg λ_=>Qa _)) ?_;refine Ea (Eg λ_=>Ea (JH _ _ _) (Eg λ_=>Qa _)) ?_;refine Ea (Eg λ_=>Eg λ_=>Qa _) ?_;refine Ea (Eg λ_=>Eg λ_=>Qa _) ?_;have e:offS x= !(!(inR 0 68719476736 x.Time&&((x.Laps==0)&& !x.Out))&&(!((x.Time==0)&&(inR 1 64 x.Laps&& !x.Out))&& !((x.Time==0)&&((x.Laps==0)&&x.Out)))):=by
    unfold offS inR;cases x.Out with
    |true=>
     rw[XV];simp
    |false=>
     by_cases h:x.Laps=0
     iterate 2 rw[XV];simp[h]
   rw[e];generalize(!(inR 0 68719476736 x.Time&&((x.Laps==0)&& !x.Out))&&(!((x.Time==0)&&(inR 1 64 x.Laps&& !x.Out))&& !((x.Time==0)&&((x.Laps==0)&&x.Out))))=b;cases b<;>exact Qa _
  .unfold F_if;simp only[Jk,Vl];exact Qa _
 have L:Ev (λn=>iter (F_jp n c) n 0) (bif c.Categories.all catS then Ctl.cont ()else Ctl.done false):=by
  refine YV c.Categories _ _ _ (by have:=w.cat;omega) (λi x a=>?_) ?_
  .unfold F_jp;simp only[a.lt,Vk,a.ix,XH,a.nx];refine Ea (Er λ_=>Er λ_=>Qa _) ?_;have e:(decide (x.From<0)||(decide (x.To<x.From)||decide (120<x.To)))= !catS x:=by
    unfold catS inR;rw[XV];simp;omega
   rw[e];cases catS x<;>exact Qa _
  .unfold F_jp;simp only[Jk,Vl];exact Qa _
 have O:Ev (λn=>iter (F_cb n c) n 0) (bif c.Prizes.all (prizeS c)&&decide ((c.Prizes.map prizeKey).Nodup)then Ctl.cont ()else Ctl.done false):=by
  have first:∀x:Prize,Ev (λn=>((F_c n x.Distance 0 (i64.wrap ((c.Distances.length:Int)-1))).bind λu=>(bif (!u)then some true else(F_c n x.Category (-1) (i64.wrap ((c.Categories.length:Int)-1))).bind λr=>(bif (!r)then some true else(F_c n x.Rank 1 4000).bind λt=>(bif (!t)then some true else(F_c n x.Amount 1 1125899906842624).bind λB=>some (!B)))):Option Bool)) (!prizeS c x):=by
   intro x;rw[QaD w.dist,QaD w.cat];refine Ea (JH _ _ _) (Et (Er λ_=>Ea (JH _ _ _) (Er λ_=>Ea (JH _ _ _) (Er λ_=>Ea (JH _ _ _) (Qa _)))) ?_);unfold prizeS;simp only[Bool.not_and]
  have inner:∀(i:Nat) (x:Prize),At c.Prizes i x->Ev (λn=>iter (F_gx n c (i:Int) x) n 0) (bif ((c.Prizes.take i).map prizeKey).contains (prizeKey x)then Ctl.done (Ctl.done (Ctl.done false))else Ctl.cont ()):=by
   intro i x a;have E:=a.lt';refine Qi0 c.Prizes i prizeKey (prizeKey x) _ _ (by have:=w.prize;omega) (by omega) (λj y F l g=>?_) (λj y F l g=>?_) ?_
   .unfold F_gx;rw[QZ (show(j:Int)<(i:Int)by omega)];simp only[Vk,l.ix,XH,l.nx];have h:¬(y.Distance=x.Distance/\y.Category=x.Category/\y.Rank=x.Rank):=by simpa[prizeKey]using g
    refine Ea (Eg λ_=>Eg λ_=>Qa _) ?_;have e:((y.Distance==x.Distance)&&((y.Category==x.Category)&&(y.Rank==x.Rank)))=false:=by
     rw[VI];intro z;exact h (by simpa using z)
    rw[e];exact Qa _
   .unfold F_gx;rw[QZ (show(j:Int)<(i:Int)by omega)];simp only[Vk,l.ix,XH,l.nx];have h:(y.Distance=x.Distance/\y.Category=x.Category/\y.Rank=x.Rank):=by simpa[prizeKey]using g
    refine Ea (Eg λ_=>Eg λ_=>Qa _) ?_;have e:((y.Distance==x.Distance)&&((y.Category==x.Category)&&(y.Rank==x.Rank)))=true:=by simpa using h
    rw[e];exact Qa _
   .unfold F_gx;rw[QV (show¬(i:Int)<(i:Int)by omega)];exact Qa _
  refine Qnw c.Prizes (prizeS c) prizeKey _ _ (by have:=w.prize;omega) (λi x a d g=>?_) (λi x a d=>?_) (λi x a d g=>?_) ?_
  .unfold F_cb;simp only[a.lt,Vk,a.ix,XH,a.nx];have f:=first x;rw[d]at f
   have k:=inner i x a;rw[g]at k;exact Ea f (QK (Ea k (Qa _)))
  .unfold F_cb;simp only[a.lt,Vk,a.ix,XH,a.nx];have f:=first x;rw[d]at f
   exact Ea f (Qa _)
  .unfold F_cb;simp only[a.lt,Vk,a.ix,XH,a.nx];have f:=first x;rw[d]at f
   have k:=inner i x a;rw[g]at k;exact Ea f (QK (Ea k (Qa _)))
  .unfold F_cb;simp only[Jk,Vl];exact Qa _
 refine Ea J ?_;cases c.Mats.all (λm=>inR 1 3 m.Kind)with
 |false=>exact Qa _
 |true=>
 refine Ea H ?_;simp only[Vw];rw[<- Bool.and_assoc];cases(c.Legs.all (legS ((c.Mats.length:Int)-1))&&decide ((c.Legs.map legKey).Nodup))with
 |false=>exact Qa _
 |true=>
 refine Ea M ?_;simp only[Vw];cases c.Distances.all (distS ((c.Mats.length:Int)-1))with
 |false=>exact Qa _
 |true=>
 refine Ea N ?_;simp only[Vw];cases c.Waves.all (λw=>inR 0 1099511627776 w.Gun)with
 |false=>exact Qa _
 |true=>
 refine Ea G ?_;simp only[Vw];cases c.Offences.all offS with
 |false=>exact Qa _
 |true=>
 refine Ea L ?_;simp only[Vw];cases c.Categories.all catS with
 |false=>exact Qa _
 |true=>
 refine Ea O ?_;simp only[Vw];rw[<- Bool.and_assoc];cases(c.Prizes.all (prizeS c)&&decide ((c.Prizes.map prizeKey).Nodup))with
 |false=>exact Qa _
 |true=>
 simp only[Vw];refine Ea (v:=lastS c) ?_ (Qa _);refine Ea (JH _ _ _) ((Eg λ_=>Ea (JH _ _ _) (Eg λ_=>Ea (JH _ _ _) (Eg λ_=>Ea (JH _ _ _) (Eg λ_=>Ea (JH _ _ _) (Eg λ_=>Ea (JH _ _ _) (Eg λ_=>Ea (JH _ _ _) (Qa _))))))).eq ?_);unfold lastS;simp only[Bool.and_assoc]
mutual
def cN:Cond->Nat
 |⟨_,_,_,ps⟩=>1+cNs ps
def cNs:List Cond->Nat
 |[]=>0
 |c::r=>cN c+cNs r
end
theorem QbW(c:Cond):cN c=1+cNs c.Parts:=by cases c;rfl
mutual
def cD:Nat->Cond->Bool
 |d,⟨_,_,_,ps⟩=>cDs d ps
def cDs:Nat->List Cond->Bool
 |_,[]=>true
 |d,c::r=>decide (d<=16)&&(cD (d+1) c&&cDs d r)
end
theorem QkE(d:Nat)(c:Cond):cD d c=cDs d c.Parts:=by cases c;rfl
def zeroC(c:Cond):Bool:=(c.Kind==0)&&((c.Var==0)&&((c.N==0)&&((c.Parts.length:Int)==0)))
mutual
def sNp:Step->Nat
 |⟨_,_,_,t,e⟩=>1+sNs t+sNs e
def sNs:List Step->Nat
 |[]=>0
 |s::r=>sNp s+sNs r
end
theorem Qgn(s:Step):sNp s=1+sNs s.Then+sNs s.Else:=by cases s;rfl
mutual
def sC:Step->Nat
 |⟨_,_,c,t,e⟩=>(bif zeroC c then 0 else cN c)+sCs t+sCs e
def sCs:List Step->Nat
 |[]=>0
 |s::r=>sC s+sCs r
end
theorem QeX(s:Step):sC s=(bif zeroC s.Cond then 0 else cN s.Cond)+sCs s.Then+sCs s.Else:=by cases s;rfl
mutual
def sDp:Nat->Step->Bool
 |d,⟨_,_,c,t,e⟩=>(zeroC c||cD 1 c)&&(sDs d t&&sDs d e)
def sDs:Nat->List Step->Bool
 |_,[]=>true
 |d,s::r=>decide (d<=16)&&(sDp (d+1) s&&sDs d r)
end
theorem QhV(d:Nat)(s:Step):sDp d s=((zeroC s.Cond||cD 1 s.Cond)&&(sDs d s.Then&&sDs d s.Else)):=by cases s;rfl
mutual
def sZ:Step->Nat
 |⟨_,_,c,t,e⟩=>2+cN c+sZs t+sZs e
def sZs:List Step->Nat
 |[]=>0
 |s::r=>sZ s+sZs r
end
theorem Qgm(s:Step):sZ s=2+cN s.Cond+sZs s.Then+sZs s.Else:=by cases s;rfl
def fS:Uf->Nat
 |.ctyping_step x=>sNp x.Step
 |.ctyping_cond _=>0
def fC:Uf->Nat
 |.ctyping_step x=>sC x.Step
 |.ctyping_cond x=>cN x.Cond
def fD(d:Nat):Uf->Bool
 |.ctyping_step x=>sDp d x.Step
 |.ctyping_cond x=>cD d x.Cond
def fZ:Uf->Nat
 |.ctyping_step x=>sZ x.Step
 |.ctyping_cond x=>cN x.Cond
def fSs(l:List Uf):Nat:=(l.map fS).sum
def fCs(l:List Uf):Nat:=(l.map fC).sum
def fZs(l:List Uf):Nat:=(l.map fZ).sum
def fwf:Uf->Prop
 |.ctyping_step x=>Step.wf x.Step
 |.ctyping_cond x=>Cond.wf x.Cond
def ofStep(s:Step):Uf:=.ctyping_step {Step:=s}
def ofCond(c:Cond):Uf:=.ctyping_cond {Cond:=c}
theorem Qa7:∀l:List Step,fSs (l.map ofStep)=sNs l
 |[]=>rfl
 |s::r=>by
  have:=Qa7 r;simp[fSs,Vf,List.sum_cons]at this⊢;rw[this];rfl
theorem Qa8:∀l:List Step,fCs (l.map ofStep)=sCs l
 |[]=>rfl
 |s::r=>by
  have:=Qa8 r;simp[fCs,Vf,List.sum_cons]at this⊢;rw[this];rfl
theorem QbS:∀l:List Step,fZs (l.map ofStep)=sZs l
 |[]=>rfl
 |s::r=>by
  have:=QbS r;simp[fZs,Vf,List.sum_cons]at this⊢;rw[this];rfl
theorem Qfs:∀l:List Cond,fSs (l.map ofCond)=0
 |[]=>rfl
 |s::r=>by
  have:=Qfs r;simp only[fSs,Vf,List.sum_cons]at this⊢;rw[this];rfl
theorem Qfu:∀l:List Cond,fCs (l.map ofCond)=cNs l
 |[]=>rfl
 |s::r=>by
  have:=Qfu r;simp[fCs,Vf,List.sum_cons]at this⊢;rw[this];rfl
theorem Qfq:∀l:List Cond,fZs (l.map ofCond)=cNs l
 |[]=>rfl
 |s::r=>by
  have:=Qfq r;simp[fZs,Vf,List.sum_cons]at this⊢;rw[this];rfl
theorem Qc9(d:Nat):∀l:List Step,sDs d l=((l.map ofStep).isEmpty||(decide (d<=16)&&(l.map ofStep).all (fD (d+1))))
 |[]=>rfl
 |s::r=>by
  rw[sDs,Qc9 d r];simp[Vf,List.all_cons];rw[show fD (d+1) (ofStep s)=sDp (d+1) s from rfl];cases r with
  |nil=>simp
  |cons x r=>
   cases decide (d<=16)<;>simp
theorem Qiu(d:Nat):∀l:List Cond,cDs d l=((l.map ofCond).isEmpty||(decide (d<=16)&&(l.map ofCond).all (fD (d+1))))
 |[]=>rfl
 |s::r=>by
  rw[cDs,Qiu d r];simp[Vf,List.all_cons];rw[show fD (d+1) (ofCond s)=cD (d+1) s from rfl];cases r with
  |nil=>simp
  |cons x r=>
   cases decide (d<=16)<;>simp
theorem Jn{c:Cond}(h:Cond.wf c):c.Parts.length<=1048576/\ ∀x∈c.Parts,Cond.wf x:=by
 cases c;simp only[Cond.wf,Qdp]at h;exact h.2.2.2.1
theorem Jm{s:Step}(h:Step.wf s):Cond.wf s.Cond/\(s.Then.length<=1048576/\ ∀x∈s.Then,Step.wf x)/\(s.Else.length<=1048576/\ ∀x∈s.Else,Step.wf x):=by
 cases s;simp only[Step.wf,Qdh]at h;exact⟨h.2.2.1,h.2.2.2.1,h.2.2.2.2.1⟩
theorem QgE(n:Nat)(c:Cond):F_aw n {Cond:=c}=some (zeroC c):=by
 unfold F_aw zeroC;cases(c.Kind==0)<;>cases(c.Var==0)<;>cases(c.N==0)<;>rfl
theorem Qfy(n:Nat)(c:Cond):F_bi n c=some (zeroC c):=by
 unfold F_bi zeroC;cases(c.Kind==0)<;>cases(c.Var==0)<;>cases(c.N==0)<;>rfl
theorem Qfx(l:List Step)(a:l.length<=140737488):Ev (λn=>F_ay n l) (l.map ofStep):=by
 exact Ea (Qae l ofStep a) (Qa _)
theorem QmR(l:List Cond)(a:l.length<=140737488):Ev (λn=>F_fw n l) (l.map ofCond):=by
 exact Ea (Qae l ofCond a) (Qa _)
def stepParts(s:Step):List Uf:=s.Then.map ofStep++s.Else.map ofStep
theorem Qbo(s:Step)(h:Step.wf s):Ev (λn=>F_aq n {Step:=s}) (stepParts s):=by
 obtain⟨_,⟨d,_⟩,⟨a,_⟩⟩:=Jm h;refine Ea (Qfx s.Then (by omega)) (Ea (Qfx s.Else (by omega)) (JK (Qde _ _ (by simp;omega)) (Qa _)))
theorem Qdb(c:Cond)(h:Cond.wf c):Ev (λn=>F_ao n {Cond:=c}) (c.Parts.map ofCond):=by
 obtain⟨a,_⟩:=Jn h;exact Ea (QmR c.Parts (by omega)) (Qa _)
def okL(l:List Uf)(d:Nat)(st co:Int):Bool:=l.isEmpty||(decide (d<=16)&&(l.all (fD (d+1))&&(decide (st+fSs l<=64)&&decide (co+fCs l<=256))))
def okR(l:List Uf)(d:Nat)(st co:Int):Bool:=l.isEmpty||(l.all (fD (d+1))&&(decide (st+fSs l<=64)&&decide (co+fCs l<=256)))
def okF(f:Uf)(d:Nat)(st co:Int):Bool:=fD (d+1) f&&(decide (st+fS f<=64)&&decide (co+fC f<=256))
theorem Qit(f:Uf)(l:List Uf):fSs (f::l)=fS f+fSs l:=rfl
theorem Qiv(f:Uf)(l:List Uf):fCs (f::l)=fC f+fCs l:=rfl
theorem Qis(f:Uf)(l:List Uf):fZs (f::l)=fZ f+fZs l:=rfl
theorem Qfr(l m:List Uf):fSs (l++m)=fSs l+fSs m:=by simp[fSs]
theorem Qft(l m:List Uf):fCs (l++m)=fCs l+fCs m:=by simp[fCs]
theorem Qfp(l m:List Uf):fZs (l++m)=fZs l+fZs m:=by simp[fZs]
theorem Qmh(f:Uf)(r:List Uf)(d:Nat)(a h:Int):okR (f::r) d a h=(okF f d a h&&okR r d (a+fS f) (h+fC f)):=by
 unfold okR okF;rw[Qit,Qiv];cases r with
 |nil=>simp[fSs,fCs]
 |cons g r=>
  rw[XV];simp[List.isEmpty_cons,Bool.false_or,List.all_cons,XU,Vm];constructor
  .rintro⟨⟨i,e⟩,j,k⟩;exact⟨⟨i,by omega,by omega⟩,e,by omega,by omega⟩
  .rintro⟨⟨i,_,_⟩,e,j,k⟩;exact⟨⟨i,e⟩,by omega,by omega⟩
theorem Qg5(l:List Uf)(d:Nat)(g h:Int)(j:g<=64)(i:h<=256):okL l d g h=true↔(l.isEmpty||(decide (d<=16)&&l.all (fD (d+1))))=true/\g+fSs l<=64/\h+fCs l<=256:=by
 unfold okL;cases l with
 |nil=>simp[fSs,fCs,j,i]
 |cons f r=>
  simp[List.isEmpty_cons,Bool.false_or,XU,Vm];constructor
  .rintro⟨a,b,c,e⟩;exact⟨⟨a,b⟩,c,e⟩
  .rintro⟨⟨a,b⟩,c,e⟩;exact⟨a,b,c,e⟩
theorem QeR(s:Step)(d:Nat):((stepParts s).isEmpty||(decide (d<=16)&&(stepParts s).all (fD (d+1))))=(sDs d s.Then&&sDs d s.Else):=by
 rw[Qc9,Qc9];unfold stepParts;rw[List.all_append];cases e:s.Then<;>cases a:s.Else<;>simp<;>(cases decide (d<=16)<;>simp)
def Cnt(R:Nat->List Uf->Int->Ud->Option (Ud×Bool))(l:List Uf)(d:Nat)(st co:Int):Prop:=
 ∃c':Ud,Ev (λn=>R n l (d:Int) {steps:=st,conds:=co}) (c',okL l d st co)/\(okL l d st co=true->c'={steps:=st+fSs l,conds:=co+fCs l})
theorem QjI{R:Nat->List Uf->Int->Ud->Option (Ud×Bool)}{l:List Uf}{d:Nat}(hd:d<=16){i:Nat}{f:Uf}(W:At l i f)(hw:fwf f)
  (T:∀l' d' a e,fZs l'<fZ f->l'.length<=2097152->(∀f∈l',fwf f)->d'<=17->0<=a->a<=66->(a<=65\/ ∀f∈l',∃c,f=ofCond c)->0<=e->e<=256->Cnt R l' d' a e){a e:Int}(h0:0<=a)(ad:a<=66)(E:a<=65\/ ∃c,f=ofCond c)(h2:0<=e)(h3:e<=256):
  ∃c':Ud,Ev (λn=>F_ep n l (d:Int) (R n) ({steps:=a,conds:=e},(i:Int))) (bif okF f d a e then .cont (c',((i+1:Nat):Int))else .done (.done (c',false)))/\(okF f d a e=true->c'={steps:=a+fS f,conds:=e+fC f}):=by
 unfold F_ep;simp only[W.lt,Vk,W.ix,XH,W.nx];have ed:i64.wrap ((d:Int)+1)=((d+1:Nat):Int):=Yi (by omega);cases f with
 |ctyping_step x=>
  obtain⟨s⟩:=x;have h1:a<=65:=by
   rcases E with h|⟨c,h⟩
   .exact h
   .cases h
  have k:Step.wf s:=hw;obtain⟨wc,⟨ac,J⟩,⟨aa,X⟩⟩:=Jm k;have L:i64.wrap (a+1)=a+1:=QH (by omega) (by omega);simp only[Uf.elim,QgE,XH,L];have hc:∃t:Ud,Ev (λn=>((bif (!zeroC s.Cond)then(R n [Uf.ctyping_cond {Cond:=s.Cond}] 0 {steps:=a+1,conds:=e}).bind λp=>some (p.1,(!p.2))else some ({steps:=a+1,conds:=e},false)):Option (Ud×Bool))) (t, !(zeroC s.Cond||(cD 1 s.Cond&&(decide (a+1<=64)&&decide (e+cN s.Cond<=256)))))/\
    ((zeroC s.Cond||(cD 1 s.Cond&&(decide (a+1<=64)&&decide (e+cN s.Cond<=256))))=true->t={steps:=a+1,conds:=e+((bif zeroC s.Cond then 0 else cN s.Cond:Nat):Int)}):=by
   cases G:zeroC s.Cond with
   |true=>
    refine⟨{steps:=a+1,conds:=e},?_,λ_=>?_⟩
    .exact Qa _
    .simp
   |false=>
    obtain⟨t,m,B⟩:=T [ofCond s.Cond] 0 (a+1) e (by simp only[fZs,Vf,Vg,List.sum_cons,List.sum_nil];show cN s.Cond+0<sZ s;rw[Qgm];omega) (by simp) (by intro g j;simp only[Vx]at j;subst j;exact wc) (by omega) (by omega) (by omega) (.inr (by intro g j;simp only[Vx]at j;exact⟨_,j⟩)) h2 h3;have ek:okL [ofCond s.Cond] 0 (a+1) e=(cD 1 s.Cond&&(decide (a+1<=64)&&decide (e+cN s.Cond<=256))):=by
     unfold okL;simp only[List.isEmpty_cons,Bool.false_or,List.all_cons,List.all_nil,Bool.and_true,fSs,fCs,Vf,Vg,List.sum_cons,List.sum_nil];rw[show fD (0+1) (ofCond s.Cond)=cD 1 s.Cond from rfl,show fS (ofCond s.Cond)=0 from rfl,show fC (ofCond s.Cond)=cN s.Cond from rfl];simp
    rw[ek]at m B;refine⟨t,Ea m (Qa _),λh=>?_⟩;rw[B h];simp[fSs,fCs,show fS (ofCond s.Cond)=0 from rfl,show fC (ofCond s.Cond)=cN s.Cond from rfl]
  obtain⟨t,m,B⟩:=hc;generalize hb:(zeroC s.Cond||(cD 1 s.Cond&&(decide (a+1<=64)&&decide (e+cN s.Cond<=256))))=b at m B;have Y:okF (Uf.ctyping_step {Step:=s}) d a e=(sDp (d+1) s&&(decide (a+sNp s<=64)&&decide (e+sC s<=256))):=rfl;rw[Y];cases b with
  |false=>
   have:(sDp (d+1) s&&(decide (a+sNp s<=64)&&decide (e+sC s<=256)))=false:=by
    rw[VI];intro hh;simp only[XU,Vm,QhV,Qgn,QeX]at hh;obtain⟨⟨z1,_⟩,z2,z3⟩:=hh;cases G:zeroC s.Cond with
    |true=>rw[G]at hb;cases hb
    |false=>
     rw[G]at hb z1 z3;simp only[Bool.false_or]at hb z1;rw[z1]at hb;simp only[Vl]at z3;rw[QZ (show a+1<=64 by omega),QZ (show e+(cN s.Cond:Int)<=256 by omega)]at hb;cases hb
   rw[this];exact⟨t,Ea m (Qa _),λh=>by cases h⟩
  |true=>
   obtain rfl:=B rfl;by_cases q:64<a+1
   .have:(sDp (d+1) s&&(decide (a+sNp s<=64)&&decide (e+sC s<=256)))=false:=by
     rw[QV (show¬a+(sNp s:Int)<=64 by rw[Qgn];omega)];simp
    rw[this];refine⟨{steps:=a+1,conds:=e+((bif zeroC s.Cond then 0 else cN s.Cond:Nat):Int)},Ea m ?_,λh=>by cases h⟩;simp only[Xg,Vl];refine Ea (v:=(_,true)) ?_ (Qa _);rw[QZ q];exact Qa _
   by_cases z:256<e+((bif zeroC s.Cond then 0 else cN s.Cond:Nat):Int)
   .have:(sDp (d+1) s&&(decide (a+sNp s<=64)&&decide (e+sC s<=256)))=false:=by
     rw[QV (show¬e+(sC s:Int)<=256 by rw[QeX];omega)];simp
    rw[this];refine⟨{steps:=a+1,conds:=e+((bif zeroC s.Cond then 0 else cN s.Cond:Nat):Int)},Ea m ?_,λh=>by cases h⟩;simp only[Xg,Vl];refine Ea (v:=(_,true)) ?_ (Qa _);rw[QV q,QZ z];exact Qa _
   obtain⟨H,u,F⟩:=T (stepParts s) (d+1) (a+1) (e+((bif zeroC s.Cond then 0 else cN s.Cond:Nat):Int)) (by
     unfold stepParts;rw[Qfp,QbS,QbS];show _<sZ s;rw[Qgm];omega) (by unfold stepParts;simp;omega) (by
     intro g j;unfold stepParts at j;rcases Vz.1 j with j|j
     .obtain⟨y,w,rfl⟩:=Xe.1 j;exact J y w
     .obtain⟨y,w,rfl⟩:=Xe.1 j;exact X y w) (by omega) (by omega) (by omega) (.inl (by omega)) (by omega) (by omega)
   have V:okL (stepParts s) (d+1) (a+1) (e+((bif zeroC s.Cond then 0 else cN s.Cond:Nat):Int))=(sDp (d+1) s&&(decide (a+sNp s<=64)&&decide (e+sC s<=256))):=by
    rw[XV,Qg5 _ _ _ _ (by omega) (by omega),QeR];simp only[XU,Vm,QhV,Qgn,QeX];have O:fSs (stepParts s)=sNs s.Then+sNs s.Else:=by unfold stepParts;rw[Qfr,Qa7,Qa7]
    have N:fCs (stepParts s)=sCs s.Then+sCs s.Else:=by unfold stepParts;rw[Qft,Qa8,Qa8]
    rw[O,N];have Q:(zeroC s.Cond||cD 1 s.Cond)=true:=by
     cases G:zeroC s.Cond with
     |true=>rfl
     |false=>
      rw[G]at hb;simp only[Bool.false_or,XU]at hb;rw[hb.1];rfl
    constructor
    .rintro⟨r,h5,M⟩;exact⟨⟨Q,r⟩,by omega,by omega⟩
    .rintro⟨⟨_,r⟩,h5,M⟩;exact⟨r,by omega,by omega⟩
   rw[V]at u F;refine⟨H,Ea m ?_,λh=>?_⟩
   .simp only[Xg,Vl];refine Ea (v:=(H, !(sDp (d+1) s&&(decide (a+sNp s<=64)&&decide (e+sC s<=256))))) ?_ ?_
    .rw[QV q,QV z,ed];exact Ea (Qbo s k) (Ea u (Qa _))
    .cases(sDp (d+1) s&&(decide (a+sNp s<=64)&&decide (e+sC s<=256)))<;>exact Qa _
   .rw[F h];have O:fSs (stepParts s)=sNs s.Then+sNs s.Else:=by unfold stepParts;rw[Qfr,Qa7,Qa7]
    have N:fCs (stepParts s)=sCs s.Then+sCs s.Else:=by unfold stepParts;rw[Qft,Qa8,Qa8]
    rw[O,N,show fS (Uf.ctyping_step {Step:=s})=sNp s from rfl,show fC (Uf.ctyping_step {Step:=s})=sC s from rfl,Qgn,QeX];congr 1<;>omega
 |ctyping_cond x=>
  obtain⟨c⟩:=x;have k:Cond.wf c:=hw;obtain⟨ab,P⟩:=Jn k;have L:i64.wrap (e+1)=e+1:=QH (by omega) (by omega);simp only[Uf.elim,L];have Y:okF (Uf.ctyping_cond {Cond:=c}) d a e=(cD (d+1) c&&(decide (a<=64)&&decide (e+cN c<=256))):=by
   show(cD (d+1) c&&(decide (a+((0:Nat):Int)<=64)&&decide (e+cN c<=256)))=_;rw[show a+((0:Nat):Int)=a by omega]
  rw[Y];by_cases q:64<a
  .have:(cD (d+1) c&&(decide (a<=64)&&decide (e+cN c<=256)))=false:=by
    rw[QV (show¬a<=64 by omega)];simp
   rw[this];refine⟨{steps:=a,conds:=e+1},?_,λh=>by cases h⟩;refine Ea (v:=(_,true)) ?_ (Qa _);rw[QZ q];exact Qa _
  by_cases z:256<e+1
  .have:(cD (d+1) c&&(decide (a<=64)&&decide (e+cN c<=256)))=false:=by
    rw[QV (show¬e+(cN c:Int)<=256 by rw[QbW];omega)];simp
   rw[this];refine⟨{steps:=a,conds:=e+1},?_,λh=>by cases h⟩;refine Ea (v:=(_,true)) ?_ (Qa _);rw[QV q,QZ z];exact Qa _
  obtain⟨H,u,F⟩:=T (c.Parts.map ofCond) (d+1) a (e+1) (by
    rw[Qfq];show _<cN c;rw[QbW];omega) (by simp;omega) (by
    intro g j;obtain⟨y,w,rfl⟩:=Xe.1 j;exact P y w) (by omega) (by omega) (by omega) (.inl (by omega)) (by omega) (by omega)
  have V:okL (c.Parts.map ofCond) (d+1) a (e+1)=(cD (d+1) c&&(decide (a<=64)&&decide (e+cN c<=256))):=by
   rw[XV,Qg5 _ _ _ _ (by omega) (by omega), <- Qiu,Qfs,Qfu];simp only[XU,Vm,QkE,QbW];constructor
   iterate 2 rintro⟨r,h5,M⟩;exact⟨r,by omega,by omega⟩
  rw[V]at u F;refine⟨H,?_,λh=>?_⟩
  .refine Ea (v:=(H, !(cD (d+1) c&&(decide (a<=64)&&decide (e+cN c<=256))))) ?_ ?_
   .rw[QV q,QV z,ed];exact Ea (Qdb c k) (Ea u (Qa _))
   .cases(cD (d+1) c&&(decide (a<=64)&&decide (e+cN c<=256)))<;>exact Qa _
  .rw[F h,Qfs,Qfu,show fS (Uf.ctyping_cond {Cond:=c})=0 from rfl,show fC (Uf.ctyping_cond {Cond:=c})=cN c from rfl,QbW];congr 1;omega
theorem QmQ:∀(m:Nat) (l:List Uf) (d:Nat) (a e:Int),fZs l<=m->l.length<=2097152->(∀f∈l,fwf f)->d<=17->0<=a->a<=66->(a<=65\/ ∀f∈l,∃c,f=ofCond c)->0<=e->e<=256->Cnt F_g l d a e:=by
 intro m
 induction m using Nat.strongRecOn with
 |_ m G=>
 intro l d a e hm hl hw hd h0 h1 J h2 h3;unfold Cnt;have B:∀c:Ud,(∃g:Ud,Ev (λn=>B_g (F_g n) n l (d:Int) c) (g,okL l d a e)/\(okL l d a e=true->g={steps:=a+fSs l,conds:=e+fCs l}))->∃g:Ud,Ev (λn=>F_g n l (d:Int) c) (g,okL l d a e)/\(okL l d a e=true->g={steps:=a+fSs l,conds:=e+fCs l}):=by
  rintro c ⟨g,q1,q2⟩;exact⟨g,QU q1,q2⟩
 refine B _ ?_;unfold B_g;cases j:l with
 |nil=>
  refine⟨{steps:=a,conds:=e},?_,λ_=>by simp[fSs,fCs]⟩;refine Ea (v:=Ctl.cont {steps:=a,conds:=e}) (EvI.ev (Eh ?_)) (Qa _);exact Qa _
 |cons f0 r0=>
 rw[<- j];have t:l.isEmpty=false:=by rw[j];rfl
 have L:0<l.length:=by rw[j];simp
 by_cases k:d<=16
 rotate_left
 .have:okL l d a e=false:=by unfold okL;rw[t,QV k];rfl
  rw[this];refine⟨{steps:=a,conds:=e},?_,λh=>by cases h⟩;rw[QZ (show(0:Int)<(l.length:Int)by omega),QZ (show(16:Int)<(d:Int)by omega)];exact Ea (Qa _) (Qa _)
 have F:okL l d a e=okR l d a e:=by unfold okL okR;rw[QZ k,Vw]
 rw[F];have loop:∀(r:List Uf) (i:Nat) (a e:Int),l.drop i=r->i<=l.length->0<=a->a<=66->(a<=65\/ ∀f∈l,∃c,f=ofCond c)->0<=e->e<=256->
   ∃g:Ud,EvI (λn=>F_ep n l (d:Int) (F_g n)) ({steps:=a,conds:=e},(i:Int)) (bif okR r d a e then Ctl.cont g else Ctl.done (g,false))/\(okR r d a e=true->g={steps:=a+fSs r,conds:=e+fCs r}):=by
  intro r
  induction r with
  |nil=>
   intro i a e H M _ _ _ _ _;refine⟨{steps:=a,conds:=e},Eh ?_,λ_=>by simp[fSs,fCs]⟩;unfold F_ep;simp only[Q5 H M,Vl];exact Qa _
  |cons f r u=>
   intro i a e H M P g1 y Y g3;obtain⟨s,z⟩:=QC (by omega) H;have aa:fZ f<=fZs l:=by
    have:∀(l:List Uf),f∈l->fZ f<=fZs l:=by
     intro l
     induction l with
     |nil=>intro h;cases h
     |cons x l G=>
      intro h;rw[Qis];rcases X3.1 h with rfl|h
      .omega
      .have:=G h;omega
    exact this l s.mem
   obtain⟨g,p,E⟩:=QjI (R:=F_g) k s (hw f s.mem) (λN W a e k1 T V k4 k5 k6 w k7 X=>G (fZs N) (by omega) N W a e (XR _) T V k4 k5 k6 w k7 X) P g1 (y.imp id λh=>h f s.mem) Y g3;rw[Qmh];cases q:okF f d a e with
   |false=>
    rw[q]at p;exact⟨g,Eh p,λh=>by cases h⟩
   |true=>
    rw[q]at p;obtain rfl:=E q;have hb:=by
     unfold okF at q;simp only[XU,Vm]at q;exact q.2
    obtain⟨Q,O,u2⟩:=u (i+1) (a+fS f) (e+fC f) z (by have:=s.lt';omega) (by omega) (by omega) (.inl (by omega)) (by omega) (by omega);refine⟨Q,Eu p O,λh=>?_⟩;rw[u2 (by simpa using h),Qit,Qiv];congr 1<;>omega
 obtain⟨g,p,E⟩:=loop l 0 a e rfl (XS _) h0 h1 J h2 h3;refine⟨g,?_,E⟩;refine Ea (v:=false) ?_ (QK (Ea p.ev ?_))
 .rw[QZ (show(0:Int)<(l.length:Int)by omega),QV (show¬(16:Int)<(d:Int)by omega)];exact Qa _
 .cases okR l d a e<;>exact Qa _
mutual
def vaC:Cond->Bool
 |⟨k,v,n,ps⟩=>bif k==1 then inR 1 3 v&&(inR 0 10000 n&&((ps.length:Int)==0))else
   bif k==4 then((v==0)&&(n==0))&&(((ps.length:Int)==1)&&vaCs ps)else
   bif (k==2)||(k==3)then((v==0)&&(n==0))&&((decide (0<(ps.length:Int))&&decide ((ps.length:Int)<=16))&&vaCs ps)else false
def vaCs:List Cond->Bool
 |[]=>true
 |c::r=>vaC c&&vaCs r
end
theorem Ql0(c:Cond):vaC c=bif c.Kind==1 then inR 1 3 c.Var&&(inR 0 10000 c.N&&((c.Parts.length:Int)==0))else
   bif c.Kind==4 then((c.Var==0)&&(c.N==0))&&(((c.Parts.length:Int)==1)&&vaCs c.Parts)else
   bif (c.Kind==2)||(c.Kind==3)then((c.Var==0)&&(c.N==0))&&((decide (0<(c.Parts.length:Int))&&decide ((c.Parts.length:Int)<=16))&&vaCs c.Parts)else false:=by cases c;rfl
theorem QgW:∀l:List Cond,vaCs l=l.all vaC
 |[]=>rfl
 |c::r=>by rw[vaCs,List.all_cons,QgW r]
mutual
def vaS:Step->Bool
 |⟨k,b,c,t,e⟩=>bif k==1 then inR 1 5 b&&(zeroC c&&(((t.length:Int)==0)&&((e.length:Int)==0)))else
   bif k==2 then(b==0)&&(vaC c&&(decide (0<(t.length:Int))&&(vaSs t&&vaSs e)))else false
def vaSs:List Step->Bool
 |[]=>true
 |s::r=>vaS s&&vaSs r
end
theorem QlZ(s:Step):vaS s=bif s.Kind==1 then inR 1 5 s.By&&(zeroC s.Cond&&(((s.Then.length:Int)==0)&&((s.Else.length:Int)==0)))else
   bif s.Kind==2 then(s.By==0)&&(vaC s.Cond&&(decide (0<(s.Then.length:Int))&&(vaSs s.Then&&vaSs s.Else)))else false:=by cases s;rfl
theorem QgV:∀l:List Step,vaSs l=l.all vaS
 |[]=>rfl
 |c::r=>by rw[vaSs,List.all_cons,QgV r]
def fV:Uf->Bool
 |.ctyping_step x=>vaS x.Step
 |.ctyping_cond x=>vaC x.Cond
theorem QjN(l:List Cond):(l.map ofCond).any (λf=> !fV f)= !vaCs l:=by
 rw[QgW,List.not_all_eq_any_not,List.any_map];rfl
theorem QcL(l:List Step):(l.map ofStep).any (λf=> !fV f)= !vaSs l:=by
 rw[QgV,List.not_all_eq_any_not,List.any_map];rfl
theorem QgC{R:Nat->List Uf->Option Bool}(c:Cond)(j:Cond.wf c)(h:Ev (λn=>R n (c.Parts.map ofCond)) (!vaCs c.Parts)):
  Ev (λn=>F_hf (R n) n {Cond:=c}) (vaC c):=by
 rw[Ql0];refine Ea (Eg λ_=>Qa _) (Qbz (λ_=>?_) (λk=>?_))
 .exact Ea (Ea (QJ _ _ _) (Eg λ_=>Ea (QJ _ _ _) (Eg λ_=>Qa _))) (Qa _)
 .have fin:∀b,Ev (λn=>(bif b then(F_ao n {Cond:=c}).bind λg=>(R n g).bind λf=>some (!f)else some false).bind λd=>some d) (b&&vaCs c.Parts):=by
   intro b;refine Ea ((Eg λ_=>Ea (Qdb c j) (Ea h (Qa _)))) ((Qa _).eq (by simp))
  cases m:(c.Kind==4)with
  |true=>
   cases i:((c.Var==0)&&(c.N==0))with
   |true=>
    refine Ea (Qa _) ((fin _).eq (by simp))
   |false=>
    refine Ea (Qa _) ((fin _).eq (by simp))
  |false=>
   cases a:((c.Kind==2)||(c.Kind==3))with
   |true=>
    have e:Ev (λn=>(bif (c.Kind==2)then some (c.Kind==2)else some (c.Kind==3))) true:=by
     refine Ey ?_;rw[QhA,a]
    cases i:((c.Var==0)&&(c.N==0))with
    |true=>
     cases l:decide (0<(c.Parts.length:Int))with
     |true=>
      refine Ea (Ea e (Qa _)) ((fin _).eq (by simp))
     |false=>
      refine Ea (Ea e (Qa _)) ((fin _).eq (by simp))
    |false=>
     refine Ea (Ea e (Qa _)) ((fin _).eq (by simp))
   |false=>
    have e:Ev (λn=>(bif (c.Kind==2)then some (c.Kind==2)else some (c.Kind==3))) false:=by
     refine Ey ?_;rw[QhA,a]
    refine Ea (Ea e (Qa _)) (Qa _)
theorem QjC:∀(m:Nat) (l:List Uf),fZs l<=m->l.length<=2097152->(∀f∈l,fwf f)->Ev (λn=>F_af n l) (l.any λf=> !fV f):=by
 intro m
 induction m using Nat.strongRecOn with
 |_ m i=>
 intro l E G u;refine QU ?_;show Ev (λn=>B_af (F_af n) n l) _;refine Ev.contains l _ (λn f=>F_gj (F_af n) n f) (by omega) λf q=>?_;have B:fZ f<=fZs l:=by
  have:∀(l:List Uf),f∈l->fZ f<=fZs l:=by
   intro l
   induction l with
   |nil=>intro h;cases h
   |cons x l i=>
    intro h;rw[Qis];rcases X3.1 h with rfl|h
    .omega
    .have:=i h;omega
  exact this l q
 refine Ea (v:=fV f) ?_ (Qa _);have a:∀c:Cond,Cond.wf c->cNs c.Parts<fZ f->Ev (λn=>F_af n (c.Parts.map ofCond)) (!vaCs c.Parts):=by
  intro c k j;rw[<- QjN];obtain⟨w1,w2⟩:=Jn k;refine i (fZs (c.Parts.map ofCond)) (by rw[Qfq];omega) _ (XR _) (by simp;omega) ?_;intro g d;obtain⟨y,e,rfl⟩:=Xe.1 d;exact w2 y e
 cases f with
 |ctyping_cond x=>
  obtain⟨c⟩:=x;have k:Cond.wf c:=u _ q;exact QgC c k (a c k (by show cNs c.Parts<cN c;rw[QbW];omega))
 |ctyping_step x=>
  obtain⟨s⟩:=x;have j:Step.wf s:=u _ q;obtain⟨t,⟨w,p⟩,⟨z,r⟩⟩:=Jm j;show Ev _ (vaS s);rw[QlZ];refine Qbz (λ_=>?_) (λH=>Qbz (λ_=>?_) λ_=>Qa _)
  .refine Ea (Ea (QJ _ _ _) (Eg λ_=>?_)) (Qa _);simp only[QgE];refine Eg λ_=>Ea (Qbo s j) ((Qa _).eq ?_);unfold stepParts;rw[XV];simp only[Vu,XU,XZ,XY];omega
  .refine Ea (Eg λ_=>?_) (Qa _);refine Ea (QgC s.Cond t (a s.Cond t (by show _<sZ s;rw[Qgm,QbW];omega))) (Eg λ_=>Eg λ_=>?_);refine Ea (Qbo s j) (Ea (i (fZs (stepParts s)) ?_ _ (XR _) (by unfold stepParts;simp;omega) ?_) ((Qa _).eq ?_))
   .have:fZs (stepParts s)<sZ s:=by
     unfold stepParts;rw[Qfp,QbS,QbS,Qgm];omega
    have F:fZ (Uf.ctyping_step {Step:=s})=sZ s:=rfl;omega
   .intro g d;rcases Vz.1 d with d|d
    .obtain⟨y,e,rfl⟩:=Xe.1 d;exact p y e
    .obtain⟨y,e,rfl⟩:=Xe.1 d;exact r y e
   .unfold stepParts;rw[List.any_append,QcL,QcL];simp
def goodT(l:List Step):Bool:=sDs 0 l&&(decide (sNs l<=64)&&decide (sCs l<=256))
def tiesE(l:List Step):Int:=bif goodT l then(bif l.isEmpty|| !vaSs l then 71 else 0)else 2
theorem Qmi(l:List Step):okL (l.map ofStep) 0 0 0=goodT l:=by
 rw[XV,Qg5 _ _ _ _ (by omega) (by omega), <- Qc9,Qa7,Qa8];unfold goodT;simp only[XU,Vm];constructor
 iterate 2 rintro⟨a,b,c⟩;exact⟨a,by omega,by omega⟩
theorem Qoh(l:List Step)(k:l.length<=1048576)(j:∀x∈l,Step.wf x):Ev (λn=>F_em n l) (tiesE l):=by
 refine Ea (Qfx l (by omega)) (Ea ?_ (Qa _));have d:∀f∈l.map ofStep,fwf f:=by
  intro g i;obtain⟨y,h,rfl⟩:=Xe.1 i;exact j y h
 obtain⟨m,a,p⟩:=QmQ _ (l.map ofStep) 0 0 0 (XR _) (by simp;omega) d (by omega) (by omega) (by omega) (.inl (by omega)) (by omega) (by omega);rw[Qmi]at a;have p3:=a.shift;refine Ea p3 ?_;unfold tiesE;cases goodT l with
 |false=>exact Qa _
 |true=>
  have e:(((l.map ofStep).length:Int)==0)=l.isEmpty:=by
   cases l<;>simp;omega
  rw[e];refine Ea (Er λ_=>Ea (QjC _ _ (XR _) (by simp;omega) d) (Qa _)) ?_;rw[QcL];cases(l.isEmpty|| !vaSs l)<;>exact Qa _
def condB(d:Nat):Int:=256*(18-(d:Int))+1000
theorem Qcu:∀(m:Nat) (c:Cond) (d:Nat),cN c<=m->d<=17->Cond.wf c->∃v:Int,Ev (λn=>F_k n c (d:Int)) v/\0<=v/\v<=condB d/\
  (d<=16/\cD (d+1) c=true/\cN c<=256->v=cN c)/\(¬(d<=16/\cD (d+1) c=true/\cN c<=256)->256<v):=by
 intro m
 induction m using Nat.strongRecOn with
 |_ m G=>
 intro c d hm hd T;obtain⟨W,F⟩:=Jn T;have E:∀{P:Int->Prop},(∃v:Int,Ev (λn=>B_k (F_k n) n c (d:Int)) v/\P v)->∃v:Int,Ev (λn=>F_k n c (d:Int)) v/\P v:=by
  rintro P ⟨v,j,e⟩;exact⟨v,QU j,e⟩
 refine E ?_;unfold B_k;by_cases k:d<=16
 .rw[QV (show¬(16:Int)<(d:Int)by omega)];have ed:i64.wrap ((d:Int)+1)=((d+1:Nat):Int):=Yi (by omega);have loop:∀(r:List Cond) (i:Nat) (a:Int),c.Parts.drop i=r->i<=c.Parts.length->0<=a->a<=condB d->
    ∃v:Int,EvI (λn=>F_fl n c (d:Int) (F_k n)) (a,(i:Int)) v/\0<=v/\v<=condB d/\
     (cDs (d+1) r=true/\a+cNs r<=256->v=a+cNs r)/\(¬(cDs (d+1) r=true/\a+cNs r<=256)->256<v):=by
   intro r
   induction r with
   |nil=>
    intro i a H M J j;refine⟨a,Eh ?_,J,j,λ_=>by simp[cNs],λh=>?_⟩
    .unfold F_fl;simp only[Q5 H M,Vl,XH];exact Qa _
    .simp[cDs,cNs]at h;omega
   |cons x r t=>
    intro i a H M J j;obtain⟨g,z⟩:=QC (by omega) H;have hx:cN x<cN c:=by
     have:∀l:List Cond,x∈l->cN x<=cNs l:=by
      intro l
      induction l with
      |nil=>intro h;cases h
      |cons y l G=>
       intro h;rw[cNs];rcases X3.1 h with rfl|h
       .omega
       .have:=G h;omega
     have:=this _ g.mem;rw[QbW c];omega
    by_cases f:a<=256
    .obtain⟨v,s,O,N,q,L⟩:=G (cN x) (by omega) x (d+1) (XR _) (by omega) (F x g.mem);have hB:condB (d+1)+256=condB d:=by unfold condB;omega
     have aa:condB d<=6000:=by unfold condB;omega
     have R:i64.wrap (a+v)=a+v:=QH (by omega) (by omega);obtain⟨w,Y,V,X,q4,Q⟩:=t (i+1) (a+v) z (by have:=g.lt';omega) (by omega) (by omega);refine⟨w,Eu ?_ Y,V,X,?_,?_⟩
     .unfold F_fl;simp only[g.lt,Vk,QZ f,XH,g.ix,g.nx,ed];refine Ea s ?_;rw[R];exact Qa _
     .rintro⟨e,u⟩;simp only[cDs,XU,Vm]at e;rw[cNs]at u⊢;have:=q ⟨e.1,e.2.1,by omega⟩;subst this;rw[q4 ⟨e.2.2,by omega⟩];omega
     .intro B;by_cases p:d+1<=16/\cD (d+1+1) x=true/\cN x<=256
      .have:=q p;subst this;refine Q λe=>B ⟨?_,?_⟩
       .simp only[cDs,XU,Vm];exact⟨p.1,p.2.1,e.1⟩
       .rw[cNs];omega
      .have:=L p;exact Q λe=>by omega
    .refine⟨a,Eh ?_,J,j,λh=>?_,λ_=>by omega⟩
     .unfold F_fl;simp only[g.lt,Vk,QV f,XH,Vl];exact Qa _
     .omega
  obtain⟨v,s,O,N,q,L⟩:=loop c.Parts 0 1 rfl (XS _) (by omega) (by unfold condB;omega);refine⟨v,QK (Ea s.ev (Qa _)),O,N,?_,?_⟩
  .rintro⟨_,e,u⟩;rw[QkE]at e;rw[QbW]at u⊢;rw[q ⟨e,by omega⟩];omega
  .intro B;refine L λh=>B ⟨k,by rw[QkE];exact h.1,by rw[QbW];omega⟩
 .rw[QZ (show(16:Int)<(d:Int)by omega)];refine⟨1000,QkQ (Qa _),by omega,by unfold condB;omega,λh=>absurd h.1 k,λ_=>by omega⟩
def sizeB:Nat->Int
 |0=>10000
 |k+1=>3*sizeB k
theorem QcT:∀k,10000<=sizeB k
 |0=>Int.le_refl _
 |k+1=>by have:=QcT k;simp[sizeB];omega
theorem Ql8{k:Nat}(h:k<=17):sizeB k<=1291401630000:=by
 have:∀j,j<=17->sizeB j<=1291401630000:=by decide+kernel
 exact this k h
def goodL(d:Nat)(l:List Step):Prop:=sDs d l=true/\sNs l<=64/\sCs l<=256
theorem Qkv:∀(m:Nat) (l:List Step) (d:Nat),sZs l<=m->d<=17->l.length<=1048576->(∀x∈l,Step.wf x)->∃a b:Int,Ev (λn=>F_o n l (d:Int)) (a,b)/\0<=a/\0<=b/\a<=sizeB (17-d)/\b<=sizeB (17-d)/\
  (goodL d l->a=sNs l/\b=sCs l)/\(¬goodL d l->64<a\/256<b):=by
 intro m
 induction m using Nat.strongRecOn with
 |_ m F=>
 intro l d hm hd hl hw;have W:∀{P:Int->Int->Prop},(∃a b:Int,Ev (λn=>B_o (F_o n) n l (d:Int)) (a,b)/\P a b)->∃a b:Int,Ev (λn=>F_o n l (d:Int)) (a,b)/\P a b:=by
  rintro P ⟨a,b,w,p⟩;exact⟨a,b,QU w,p⟩
 refine W ?_;unfold B_o;by_cases e:0<l.length/\ ¬d<=16
 .rw[QZ (show(0:Int)<(l.length:Int)by omega),QZ (show(16:Int)<(d:Int)by omega)];have:=QcT (17-d);refine⟨1000,1000,Ea (Qa _) (QkQ (Qa _)),by omega,by omega,by omega,by omega,λh=>?_,λ_=>by omega⟩;exfalso;cases l with
  |nil=>simp at e
  |cons x r=>
   have:=h.1;simp only[sDs,XU,Vm]at this;exact e.2 this.1
 .have u:Ev (λn:Nat=>((bif decide (0<(l.length:Int))then some (decide (16<(d:Int)))else some false):Option Bool)) false:=by
   by_cases hp:0<l.length
   .have:d<=16:=by
     rcases Vy 16 d with q|q
     .exact absurd ⟨hp,by omega⟩ e
     .exact q
    rw[QZ (show(0:Int)<(l.length:Int)by omega),QV (show¬(16:Int)<(d:Int)by omega)];exact Qa _
   .rw[QV (show¬(0:Int)<(l.length:Int)by omega)];exact Qa _
  have ed:i64.wrap ((d:Int)+1)=((d+1:Nat):Int):=Yi (by omega);have loop:∀(r:List Step) (i:Nat) (a b:Int),l.drop i=r->i<=l.length->0<=a->0<=b->a<=sizeB (17-d)->b<=sizeB (17-d)->
    ∃a' b':Int,EvI (λn=>F_fs n l (d:Int) (F_o n)) (a,b,(i:Int)) (a',b')/\0<=a'/\0<=b'/\a'<=sizeB (17-d)/\b'<=sizeB (17-d)/\
     (sDs d r=true/\a+sNs r<=64/\b+sCs r<=256->a'=a+sNs r/\b'=b+sCs r)/\(¬(sDs d r=true/\a+sNs r<=64/\b+sCs r<=256)->64<a'\/256<b'):=by
   intro r
   induction r with
   |nil=>
    intro i a b hr hi u w p V;refine⟨a,b,Eh ?_,u,w,p,V,λ_=>by simp[sNs,sCs],λh=>?_⟩
    .unfold F_fs;simp only[Q5 hr hi,Vl,XH];exact Qa _
    .simp[sDs,sNs,sCs]at h;omega
   |cons s r L=>
    intro i a b hr hi u w p V;obtain⟨j,ad⟩:=QC (by omega) hr;have aj:=j.lt';have t:d<=16:=by
     rcases Vy 16 d with q|q
     .exact absurd ⟨by omega,by omega⟩ e
     .exact q
    have ag:sZ s<=sZs l:=by
     have:∀l:List Step,s∈l->sZ s<=sZs l:=by
      intro l
      induction l with
      |nil=>intro h;cases h
      |cons y l F=>
       intro h;rw[sZs];rcases X3.1 h with rfl|h
       .omega
       .have:=F h;omega
     exact this _ j.mem
    by_cases f:a<=64/\b<=256
    .obtain⟨wc,⟨M,aa⟩,⟨ae,O⟩⟩:=Jm (hw s j.mem);have ai:=Qgm s;obtain⟨B,g,p1,p2,p3,p4,p5,G,T⟩:=F (sZs s.Then) (by omega) s.Then (d+1) (XR _) (by omega) M aa;obtain⟨y1,y2,q1,q2,q3,q4,q5,q6,q7⟩:=F (sZs s.Else) (by omega) s.Else (d+1) (XR _) (by omega) ae O;have hB:sizeB (17-d)=3*sizeB (17-(d+1)):=by
      rw[show 17-d=(17-(d+1))+1 by omega];rfl
     have ac:=QcT (17-(d+1));have ah:=Ql8 (k:=17-d) (by omega);have hc:∃z:Int,0<=z/\z<=5608/\Ev (λn=>((bif (!zeroC s.Cond)then(idx l (i:Int)).bind λQ=>(F_k n Q.Cond 0).bind λH=>some (i64.wrap ((i64.wrap ((i64.wrap (b+g))+y2))+H))else some (i64.wrap ((i64.wrap (b+g))+y2))):Option Int)) (b+g+y2+z)/\
       ((zeroC s.Cond||cD 1 s.Cond)=true/\(bif zeroC s.Cond then 0 else cN s.Cond)<=256->z=((bif zeroC s.Cond then 0 else cN s.Cond:Nat):Int))/\(¬((zeroC s.Cond||cD 1 s.Cond)=true/\(bif zeroC s.Cond then 0 else cN s.Cond)<=256)->256<z):=by
      have e1:i64.wrap (b+g)=b+g:=QH (by omega) (by omega);have e2:i64.wrap (b+g+y2)=b+g+y2:=QH (by omega) (by omega);cases hz:zeroC s.Cond with
      |true=>
       refine⟨0,by omega,by omega,?_,λ_=>by simp,λh=>absurd ⟨rfl,by simp⟩ h⟩;simp only[Xg,Vl,e1,e2];exact(Qa _).eq (by omega)
      |false=>
       obtain⟨v,u1,u2,u3,u4,u5⟩:=Qcu _ s.Cond 0 (XR _) (by omega) wc;have N:v<=5608:=by unfold condB at u3;omega
       have e3:i64.wrap (b+g+y2+v)=b+g+y2+v:=QH (by omega) (by omega);refine⟨v,u2,N,?_,λh=>?_,λh=>?_⟩
       .simp only[Xh,Vk,j.ix,XH,e1,e2];refine Ea u1 ?_;rw[e3];exact Qa _
       .simp only[Bool.false_or,Vl]at h⊢;exact u4 ⟨by omega,h.1,h.2⟩
       .simp only[Bool.false_or,Vl]at h;exact u5 λq=>h ⟨q.2.1,q.2.2⟩
     obtain⟨z,z0,z1,z2,z3,z4⟩:=hc;have e4:i64.wrap (a+1)=a+1:=QH (by omega) (by omega);have e5:i64.wrap (a+1+B)=a+1+B:=QH (by omega) (by omega);have e6:i64.wrap (a+1+B+y1)=a+1+B+y1:=QH (by omega) (by omega);obtain⟨w1,w2,v1,v2,v3,v4,v5,v6,E⟩:=L (i+1) (a+1+B+y1) (b+g+y2+z) ad (by omega) (by omega) (by omega) (by omega) (by omega);refine⟨w1,w2,Eu ?_ v1,v2,v3,v4,v5,?_,?_⟩
     .unfold F_fs;simp only[j.lt,Vk,QZ f.1,QZ f.2,XH,j.ix,j.nx,ed,Qfy];refine Ea p1 (Ea q1 ?_);simp only[j.ix,XH]at z2;refine Ea z2 ?_;rw[e4,e5,e6];exact Qa _
     .rintro⟨g1,g2,g3⟩;simp only[sDs,XU,Vm,QhV]at g1;obtain⟨af,⟨ab,R,Y⟩,J⟩:=g1;rw[sNs,Qgn]at g2⊢;rw[sCs,QeX]at g3⊢;obtain⟨k1,k2⟩:=G ⟨R,by omega,by omega⟩;obtain⟨k3,k4⟩:=q6 ⟨Y,by omega,by omega⟩;have k5:=z3 ⟨ab,by omega⟩;obtain⟨k6,k7⟩:=v6 ⟨J,by omega,by omega⟩;constructor<;>omega
     .intro hn;by_cases b1:goodL (d+1) s.Then
      .obtain⟨k1,k2⟩:=G b1;by_cases X:goodL (d+1) s.Else
       .obtain⟨k3,k4⟩:=q6 X;by_cases b3:(zeroC s.Cond||cD 1 s.Cond)=true/\(bif zeroC s.Cond then 0 else cN s.Cond)<=256
        .have k5:=z3 b3;refine E λq=>hn ⟨?_,?_,?_⟩
         .simp only[sDs,XU,Vm,QhV];exact⟨t,⟨b3.1,b1.1,X.1⟩,q.1⟩
         .rw[sNs,Qgn];omega
         .rw[sCs,QeX];omega
        .have:=z4 b3;exact E λq=>by omega
       .have:=q7 X;exact E λq=>by omega
      .have:=T b1;exact E λq=>by omega
    .refine⟨a,b,Eh ?_,u,w,p,V,λh=>?_,λ_=>?_⟩
     .unfold F_fs;have:Ev (λn:Nat=>((bif decide ((i:Int)<(l.length:Int))then(bif decide (a<=64)then some (decide (b<=256))else some false)else some false):Option Bool)) false:=by
       rw[j.lt];by_cases q:a<=64
       .rw[QZ q,QV (show¬b<=256 from λz=>f ⟨q,z⟩)];exact Qa _
       .rw[QV q];exact Qa _
      exact Ea this (QK (Qa _))
     iterate 2 omega
  have ac:=QcT (17-d);obtain⟨a,b,p1,p2,p3,p4,p5,G,T⟩:=loop l 0 0 0 rfl (XS _) (by omega) (by omega) (by omega) (by omega);refine⟨a,b,Ea u (QK (Ea p1.ev (Qa _))),p2,p3,p4,p5,λh=>?_,λh=>?_⟩
  .obtain⟨k1,k2⟩:=G ⟨h.1,by have:=h.2.1;omega,by have:=h.2.2;omega⟩;constructor<;>omega
  .exact T λq=>h ⟨q.1,by omega,by omega⟩
theorem QiA:∀(m:Nat) (c:Cond),cN c<=m->Cond.wf c->Ev (λn=>F_ah n c) (vaC c):=by
 intro m
 induction m using Nat.strongRecOn with
 |_ m d=>
 intro c w u;obtain⟨t,j⟩:=Jn u;refine QU ?_;show Ev (λn=>B_ah (F_ah n) n c) _;rw[Ql0];have g:∀x∈c.Parts,cN x<cN c:=by
  intro x g;have:∀l:List Cond,x∈l->cN x<=cNs l:=by
   intro l
   induction l with
   |nil=>intro h;cases h
   |cons y l d=>
    intro h;rw[cNs];rcases X3.1 h with rfl|h
    .omega
    .have:=d h;omega
  have:=this _ g;rw[QbW c];omega
 have loop:Ev (λn=>iter (F_fr n c (F_ah n)) n 0) (bif c.Parts.all vaC then Ctl.cont ()else Ctl.done false):=by
  refine YV c.Parts vaC _ _ (by omega) (λi x a=>?_) ?_
  .unfold F_fr;simp only[a.lt,Vk,a.ix,XH,a.nx];refine Ea (d (cN x) (by have:=g x a.mem;omega) x (XR _) (j x a.mem)) ?_;cases vaC x<;>exact Qa _
  .unfold F_fr;simp only[Jk,Vl];exact Qa _
 have fin:Ev (λn=>((bif (c.Var != 0)then some true else some (c.N != 0)):Option Bool).bind λp=>(bif p then some false else(iter (F_fr n c (F_ah n)) n 0).bind λq=>match q with|.cont sb48=>(some true)|.done sb48=>some sb48)) (((c.Var==0)&&(c.N==0))&&vaCs c.Parts):=by
  refine Ea (v:= !((c.Var==0)&&(c.N==0))) (Ey ?_) ?_
  .rw[QeH];simp only[Bool.not_and,bne]
  .cases((c.Var==0)&&(c.N==0))with
   |false=>exact Qa _
   |true=>
    refine QK (Ea loop ?_);rw[QgW];cases c.Parts.all vaC<;>exact Qa _
 refine Qbz (λ_=>?_) (λz=>?_)
 .refine Ea (v:=_) ((Eg λ_=>Eg λ_=>Eg λ_=>Eg λ_=>Qa _).eq ?_) (Qa _);unfold inR;simp only[Bool.and_assoc]
 .have e:Ev (λn:Nat=>((bif (c.Kind==2)then some (c.Kind==2)else some (c.Kind==3)):Option Bool)) ((c.Kind==2)||(c.Kind==3)):=Ey (by rw[QhA]);refine Ea e ?_;cases k:((c.Kind==2)||(c.Kind==3))with
  |true=>
   have r:(c.Kind==4)=false:=by
    rw[VI];simp only[Bool.or_eq_true,Vu]at k;simp only[Vu,ne_eq];omega
   rw[r];have s:(bif decide ((c.Parts.length:Int)<1)then some true else some (decide (16<(c.Parts.length:Int))))=some (!(decide (0<(c.Parts.length:Int))&&decide ((c.Parts.length:Int)<=16))):=by
    rw[QeH];congr 1;rw[XV];simp only[Bool.or_eq_true,Vm,Bool.not_eq_true',Bool.and_eq_false_iff,decide_eq_false_iff_not];omega
   rw[s];cases f:(decide (0<(c.Parts.length:Int))&&decide ((c.Parts.length:Int)<=16))with
   |false=>
    refine Ea (Qa _) ((Qa _).eq (by simp))
   |true=>
    refine Ea (Qa _) (fin.eq (by simp))
  |false=>
   simp only[Vl];cases r:(c.Kind==4)with
   |true=>
    simp only[Vk];cases f:((c.Parts.length:Int)==1)with
    |false=>
     refine Ea (v:=Ctl.done false) (Ey ?_) ((Qa _).eq (by simp));simp only[bne,f,Xh,Vk]
    |true=>
     refine Ea (v:=Ctl.cont ()) (Ey ?_) (fin.eq (by simp));simp only[bne,f,Xg,Vl]
   |false=>
    refine Ea (Qa _) (Qa _)
theorem Qjz(c:Cond)(a:Cond.wf c)(f:cD 1 c=true)(d:cN c<=256):Ev (λn=>F_dd n c) (bif vaC c then 0 else 71):=by
 obtain⟨v,e,_,_,g,_⟩:=Qcu _ c 0 (XR _) (by omega) a;have:=g ⟨by omega,f,d⟩;refine Ea e ?_;rw[QV (show¬256<v by omega)];refine QK (Ea (QiA _ c (XR _) a) ?_);cases vaC c<;>exact Qa _
theorem QkT{c:Cond}(h:zeroC c=true):cD 1 c=true/\cN c<=256:=by
 unfold zeroC at h;simp only[XU,Vu]at h;have:c.Parts=[]:=List.eq_nil_of_length_eq_zero (by omega);rw[QkE,QbW,this];exact⟨rfl,by simp[cNs]⟩
theorem Qiy:∀(m:Nat) (l:List Step) (d:Nat),sZs l<=m->l.length<=1048576->(∀x∈l,Step.wf x)->sDs d l=true->sCs l<=256->Ev (λn=>F_i n l) (vaSs l):=by
 intro m
 induction m using Nat.strongRecOn with
 |_ m u=>
 intro l d hm hl Q k hc;refine QU ?_;show Ev (λn=>B_i (F_i n) n l) _;unfold B_i;have t:∀s∈l,sZ s<=sZs l/\sDp (d+1) s=true/\sC s<=sCs l:=by
  intro s;have:∀l:List Step,s∈l->sDs d l=true->sZ s<=sZs l/\sDp (d+1) s=true/\sC s<=sCs l:=by
   intro l
   induction l with
   |nil=>intro h;cases h
   |cons y l u=>
    intro h k;simp only[sDs,XU]at k;rw[sZs,sCs];rcases X3.1 h with rfl|h
    .exact⟨by omega,k.2.1,by omega⟩
    .obtain⟨V,G,h3⟩:=u h k.2.2;exact⟨by omega,G,by omega⟩
  exact λh=>this l h k
 rw[QgV];have loop:Ev (λn=>iter (F_hp n l (F_i n)) n 0) (bif l.all vaS then Ctl.cont ()else Ctl.done false):=by
  refine YV l vaS _ _ (by omega) (λi s j=>?_) ?_
  .obtain⟨m1,z,m3⟩:=t s j.mem;obtain⟨X,⟨E,w⟩,⟨B,F⟩⟩:=Jm (Q s j.mem);have R:=Qgm s;have p:=QeX s;rw[QhV]at z;simp only[XU]at z;obtain⟨J,W,M⟩:=z;have f:cD 1 s.Cond=true/\cN s.Cond<=256:=by
    cases H:zeroC s.Cond with
    |true=>exact QkT H
    |false=>
     rw[H]at J p;simp only[Vl]at p;exact⟨by simpa using J,by omega⟩
   unfold F_hp;simp only[j.lt,Vk,j.ix,XH,j.nx,Qfy];rw[QlZ];cases V:(s.Kind==1)with
   |true=>
    simp only[Vk];have e:Ev (λn:Nat=>((bif decide (s.By<1)then some true else(bif decide (5<s.By)then some true else(bif (!zeroC s.Cond)then some true else(bif ((s.Then.length:Int) != 0)then some true else some ((s.Else.length:Int) != 0))))):Option Bool)) (!(inR 1 5 s.By&&(zeroC s.Cond&&(((s.Then.length:Int)==0)&&((s.Else.length:Int)==0))))):=by
     refine(Er λ_=>Er λ_=>Er λ_=>Er λ_=>Qa _).eq ?_;unfold inR;cases zeroC s.Cond with
     |false=>simp
     |true=>
      rw[XV];simp only[Bool.or_eq_true,Vm,Bool.not_eq_true',Bool.and_eq_false_iff,decide_eq_false_iff_not,bne_iff_ne,ne_eq,Vv,Xg,Vw,Xi,false_or];omega
    cases r:(inR 1 5 s.By&&(zeroC s.Cond&&(((s.Then.length:Int)==0)&&((s.Else.length:Int)==0))))with
    |true=>rw[r]at e;exact Ea (Ea e (Qa _)) (Qa _)
    |false=>rw[r]at e;exact Ea (Ea e (Qa _)) (Qa _)
   |false=>
    simp only[Vl];cases G:(s.Kind==2)with
    |true=>
     simp only[Vk];have e:Ev (λn=>((bif (s.By != 0)then some true else(F_dd n s.Cond).bind λq=>(bif (q != 0)then some true else(bif ((s.Then.length:Int)==0)then some true else(F_i n s.Then).bind λg=>(bif (!g)then some true else(F_i n s.Else).bind λa=>some (!a))))):Option Bool)) (!((s.By==0)&&(vaC s.Cond&&(decide (0<(s.Then.length:Int))&&(vaSs s.Then&&vaSs s.Else))))):=by
      have T:=u (sZs s.Then) (by omega) s.Then (d+1) (XR _) E w W (by omega);have Y:=u (sZs s.Else) (by omega) s.Else (d+1) (XR _) B F M (by omega);have O:Ev (λn=>(F_i n s.Else).bind λa=>some (!a)) (!vaSs s.Else):=Ea Y (Qa _);have P:Ev (λn=>(F_i n s.Then).bind λg=>(bif (!g)then some true else(F_i n s.Else).bind λa=>some (!a))) (!vaSs s.Then|| !vaSs s.Else):=Ea T (Er λ_=>O);refine(Er λ_=>Ea (Qjz s.Cond X f.1 f.2) (Er λ_=>Er λ_=>P)).eq ?_;have L:((bif vaC s.Cond then(0:Int)else 71) != 0)= !vaC s.Cond:=by cases vaC s.Cond<;>rfl
      have N:((s.Then.length:Int)==0)= !decide (0<(s.Then.length:Int)):=by
       rw[XV];simp
      rw[L,N];simp only[Bool.not_and,bne]
     cases r:((s.By==0)&&(vaC s.Cond&&(decide (0<(s.Then.length:Int))&&(vaSs s.Then&&vaSs s.Else))))with
     |true=>rw[r]at e;exact Ea (Ea e (Qa _)) (Qa _)
     |false=>rw[r]at e;exact Ea (Ea e (Qa _)) (Qa _)
    |false=>exact Ea (Qa _) (Qa _)
  .unfold F_hp;simp only[Jk,Vl];exact Qa _
 refine Ea loop ?_;cases l.all vaS<;>exact Qa _
theorem Qjv(l:List Step)(g:l.length<=1048576)(j:∀x∈l,Step.wf x):Ev (λn=>F_gl n l) (tiesE l):=by
 obtain⟨a,b,m,y,w,_,_,r,p⟩:=Qkv _ l 0 (XR _) (by omega) g j;refine Ea m ?_;have i:goodT l=true↔goodL 0 l:=by
  unfold goodT goodL;simp
 unfold tiesE;cases f:goodT l with
 |false=>
  have:=p (λh=>by rw[i.2 h]at f;cases f);have e:(bif decide (64<a)then some true else some (decide (256<b)))=some true:=by
   rcases this with h|h
   .rw[QZ h];rfl
   .rw[QZ h];simp
  exact Ea (Ey e) (Qa _)
 |true=>
  have d:=i.1 f;obtain⟨u,t⟩:=r d;have s:=d.2.1;have k:=d.2.2;have e:(bif decide (64<a)then some true else some (decide (256<b)))=some false:=by
   rw[QeH,QV (show¬64<a by omega),QV (show¬256<b by omega)];rfl
  refine Ea (Ey e) (QK ?_);have q:((l.length:Int)==0)=l.isEmpty:=by
   cases l<;>simp;omega
  rw[q];refine Ea (Er λ_=>Ea (Qiy _ l 0 (XR _) g j d.1 k) (Qa _)) ?_;cases(l.isEmpty|| !vaSs l)<;>exact Qa _
mutual
def hP:Part->Nat
 |⟨_,_,ps⟩=>bif ps.isEmpty then 0 else 1+hPs ps
def hPs:List Part->Nat
 |[]=>0
 |p::r=>max (hP p) (hPs r)
end
theorem QoD(p:Part):hP p=bif p.Parts.isEmpty then 0 else 1+hPs p.Parts:=by cases p;rfl
theorem Qkm{p:Part}:∀{l:List Part},p∈l->hP p<=hPs l
 |q::r,h=>by
  simp[hPs];rcases X3.1 h with rfl|h
  .omega
  .have:=Qkm h;omega
theorem Qid{α:Type}(l:List α):((l.length:Int)==0)=l.isEmpty:=by
 cases l<;>simp;omega
theorem QaE:∀l:List Part,l.length<=szPs l
 |[]=>XR _
 |p::r=>by have:=QaE r;rw[szPs,Y9,XX];omega
theorem Qd6:∀(m:Nat) (l:List Part) (k:Nat),szPs l<=m->k<=17->l.length<=1048576->(∀x∈l,Part.wf x)->Ev (λn=>F_q n l (k:Int)) ((min (hPs l) k:Nat):Int):=by
 intro m
 induction m using Nat.strongRecOn with
 |_ m j=>
 intro l k B F E z;refine QU ?_;show Ev (λn=>B_q (F_q n) n l (k:Int)) _;unfold B_q;have loop:∀(r:List Part) (i:Nat) (a:Nat),l.drop i=r->i<=l.length->a<=k->EvI (λn=>F_cj n l (k:Int) (F_q n)) ((a:Int),(i:Int)) ((max a (min (hPs r) k):Nat):Int):=by
  intro r
  induction r with
  |nil=>
   intro i a f h d;refine Eh ?_;unfold F_cj;simp only[Q5 f h,Vl,XH];refine(Qa _).eq ?_;simp[hPs]
  |cons p r g=>
   intro i a f h w;obtain⟨d,e⟩:=QC (by omega) f;obtain⟨w1,w2⟩:=YQ (z p d.mem);by_cases y:0<k
   .have q:i64.wrap ((k:Int)-1)=((k-1:Nat):Int):=by rw[QH (by omega) (by omega)];omega
    have s:=JF d.mem;rw[Y9]at s;have step:Ev (λn=>F_cj n l (k:Int) (F_q n) ((a:Int),(i:Int))) (.cont (((max a (min (hP p) k):Nat):Int),((i+1:Nat):Int))):=by
     unfold F_cj;simp only[d.lt,Vk,QZ (show(0:Int)<(k:Int)by omega),XH,d.ix,d.nx,q,bne,Qid];rw[QoD];cases G:p.Parts.isEmpty with
     |true=>
      simp only[Xg,Vl,XH,Vk,Nat.zero_min,Nat.max_zero];exact Qa _
     |false=>
      simp only[Xh,Vk,Vl];refine Ea (Ea (j (szPs p.Parts) (by omega) p.Parts (k-1) (XR _) (by omega) w1 w2) (Qa _)) ((Qa _).eq ?_);have u:i64.wrap (1+((min (hPs p.Parts) (k-1):Nat):Int))=((1+min (hPs p.Parts) (k-1):Nat):Int):=by rw[QH (by omega) (by omega)];omega
      rw[u];congr 2;split<;>omega
    refine(Eu step (g (i+1) _ e (by have:=d.lt';omega) (by omega))).eq ?_;rw[hPs];omega
   .have:k=0:=by omega
    subst this;refine Eh ?_;unfold F_cj;simp only[d.lt,Vk,QV (show¬(0:Int)<((0:Nat):Int)by omega),XH,Vl];have t:max a (min (hPs (p::r)) 0)=a:=by omega
    rw[t];exact Qa _
 refine Ea ((loop l 0 0 rfl (XS _) (XS _)).ev) ((Qa _).eq ?_);omega
theorem Qd7:∀(m:Nat) (l:List Part),szPs l<=m->l.length<=1048576->(∀x∈l,Part.wf x)->Ev (λn=>F_u n l) ((min (szPs l) 257:Nat):Int):=by
 intro m
 induction m using Nat.strongRecOn with
 |_ m t=>
 intro l B s z;refine QU ?_;show Ev (λn=>B_u (F_u n) n l) _;have loop:∀(r:List Part) (i:Nat) (a:Nat),l.drop i=r->i<=l.length->a<=1048576->∃b:Nat,EvI (λn=>F_fq n l (F_u n)) ((a:Int),(i:Int)) (b:Int)/\min b 257=min (a+(szPs r-r.length)) 257:=by
  intro r
  induction r with
  |nil=>
   intro i a g j _;refine⟨a,Eh ?_,by simp[szPs]⟩;unfold F_fq;simp only[Q5 g j,Vl,XH];exact Qa _
  |cons p r h=>
   intro i a g j y;obtain⟨d,f⟩:=QC (by omega) g;obtain⟨w1,w2⟩:=YQ (z p d.mem);have u:=JF d.mem;rw[Y9]at u;have w:=QaE r;by_cases k:a<=256
   .obtain⟨b,e,q⟩:=h (i+1) (a+min (szPs p.Parts) 257) f (by have:=d.lt';omega) (by omega);refine⟨b,Eu ?_ e,?_⟩
    .unfold F_fq;simp only[d.lt,Vk,QZ (show(a:Int)<=256 by omega),XH,d.ix,d.nx];refine Ea (t (szPs p.Parts) (by omega) p.Parts (XR _) w1 w2) ((Qa _).eq ?_);rw[QH (by omega) (by omega)];congr 2
     all_goals omega
    .rw[q,szPs,Y9,XX];omega
   .refine⟨a,Eh ?_,by omega⟩;unfold F_fq;simp only[d.lt,Vk,QV (show¬(a:Int)<=256 by omega),XH,Vl];exact Qa _
 obtain⟨b,e,q⟩:=loop l 0 l.length rfl (XS _) s;refine Ea e.ev ((Qa _).eq ?_);have:=QaE l;split<;>omega
theorem QmP:∀(m:Nat) (l:List Part) (k:Nat),szPs l<=m->hPs l<=k->k<=17->szPs l<=256->(∀x∈l,Part.wf x)->Ev (λn=>F_x n l (k:Int)) ((hPs l:Int),(szPs l:Int)):=by
 intro m
 induction m using Nat.strongRecOn with
 |_ m J=>
 intro l k P O u g H;have w:=QaE l;refine QU ?_;show Ev (λn=>B_x (F_x n) n l (k:Int)) _;unfold B_x;have loop:∀(r:List Part) (i:Nat) (a b:Nat),l.drop i=r->i<=l.length->a<=17->b+(szPs r-r.length)<=256->EvI (λn=>F_gy n l (k:Int) (F_x n)) ((a:Int),(b:Int),(i:Int)) (((max a (hPs r):Nat):Int),((b+(szPs r-r.length):Nat):Int)):=by
  intro r
  induction r with
  |nil=>
   intro i a b j s _ _;refine Eh ?_;unfold F_gy;simp only[Q5 j s,Vl,XH];refine(Qa _).eq ?_;simp[hPs,szPs]
  |cons p r f=>
   intro i a b j s F e;obtain⟨d,h⟩:=QC (by omega) j;obtain⟨w1,w2⟩:=YQ (H p d.mem);have L:=JF d.mem;have q:=Qkm d.mem;rw[Y9]at L;have M:=QaE r;rw[szPs,Y9,XX]at e;have step:Ev (λn=>F_gy n l (k:Int) (F_x n) ((a:Int),(b:Int),(i:Int))) (.cont (((max a (hP p):Nat):Int),((b+szPs p.Parts:Nat):Int),((i+1:Nat):Int))):=by
    unfold F_gy;simp only[d.lt,Vk,d.ix,XH,d.nx,Qid];rw[QoD]at q⊢;cases t:p.Parts.isEmpty with
    |true=>
     have B:p.Parts=[]:=by simpa using t
     simp only[Vk,XH];rw[B];simp only[szPs,Xv,Nat.max_zero];exact Qa _
    |false=>
     rw[t]at q;simp only[Vl]at q⊢;have G:0<k:=by omega
     have y:i64.wrap ((k:Int)-1)=((k-1:Nat):Int):=by rw[QH (by omega) (by omega)];omega
     have E:((k:Int)==0)=false:=beq_false_of_ne (by omega);rw[E,QV (show¬(256:Int)<(b:Int)by omega),y];simp only[Vl,XH];refine Ea (Ea (J (szPs p.Parts) (by omega) p.Parts (k-1) (XR _) (by omega) (by omega) (by omega) w2) (Qa _)) ((Qa _).eq ?_);have z:i64.wrap ((hPs p.Parts:Int)+1)=((hPs p.Parts+1:Nat):Int):=Yi (by omega);have N:i64.wrap ((b:Int)+(szPs p.Parts:Int))=((b+szPs p.Parts:Nat):Int):=by rw[QH (by omega) (by omega)];omega
     simp only[z,N];congr 2;split<;>omega
   refine(Eu step (f (i+1) _ _ h (by have:=d.lt';omega) (by omega) (by omega))).eq ?_;rw[hPs,szPs,Y9,XX];congr 1<;>omega
 refine Ea ((loop l 0 0 l.length rfl (XS _) (by omega) (by omega)).ev) ((Qa _).eq ?_);congr 1<;>omega
def repS:Nat->List Int->List Int->List Int
 |0,out,_=>out
 |k+1,out,lap=>if 256<out.length then out else repS k (out++lap) lap
mutual
def lapS:Part->List Int
 |⟨m,laps,ps⟩=>bif decide (0<laps)then expS [] ps else[m]
def expS:List Int->List Part->List Int
 |out,[]=>out
 |out,p::r=>expS (repS (p.Laps.toNat+(bif decide (0<p.Laps)then 0 else 1)) out (lapS p)) r
end
theorem Qb9(p:Part):lapS p=bif decide (0<p.Laps)then expS [] p.Parts else[p.Mat]:=by cases p;rfl
theorem QcY{k:Nat}{a d:List Int}(h:256<a.length):repS k a d=a:=by
 cases k with
 |zero=>rfl
 |succ k=>rw[repS,Vp h]
theorem Qfw:∀(l:List Part) {out:List Int},256<out.length->expS out l=out
 |[],out,h=>by rw[expS]
 |p::r,out,h=>by rw[expS,QcY h];exact Qfw r h
theorem QcX:∀(k:Nat) (out lap:List Int),(repS k out lap).length<=max out.length (256+lap.length)
 |0,out,lap=>by rw[repS];omega
 |k+1,out,lap=>by
  rw[repS];split
  .omega
  .have:=QcX k (out++lap) lap;rw[XZ]at this;omega
theorem Qfv:∀(m:Nat) (l:List Part) (a:List Int),szPs l<=m->(expS a l).length<=max a.length (256+257*szPs l):=by
 intro m
 induction m using Nat.strongRecOn with
 |_ m j=>
 intro l;have d:∀p∈l,szPs l<=m->(lapS p).length<=257*szP p:=by
  intro p f h;have t:=JF f;rw[Qb9,Y9]at*;cases decide (0<p.Laps)with
  |true=>
   have:=j (szPs p.Parts) (by omega) p.Parts [] (XR _);simp[Vk,List.length_nil]at this⊢;omega
  |false=>simp;omega
 have e:∀(r:List Part) (a:List Int),(∀p∈r,(lapS p).length<=257*szP p)->(expS a r).length<=max a.length (256+257*szPs r):=by
  intro r
  induction r with
  |nil=>intro a _;rw[expS];omega
  |cons p r g=>
   intro a i;rw[expS,szPs];have s:=g (repS (p.Laps.toNat+(bif decide (0<p.Laps)then 0 else 1)) a (lapS p)) λq k=>i q (by simp[k]);have n:=QcX (p.Laps.toNat+(bif decide (0<p.Laps)then 0 else 1)) a (lapS p);have u:=i p (by simp);omega
 intro a h;exact e l a λp f=>d p f h
theorem Qig(p:Part):(lapS p).length<=257*szP p:=by
 rw[Qb9,Y9];cases decide (0<p.Laps)with
 |true=>
  have:=Qfv _ p.Parts [] (XR _);simp[Vk,List.length_nil]at this⊢;omega
 |false=>simp;omega
theorem Qlk(kk:Int):∀(m:Nat) (l:List Part),szPs l<=m->szPs l<=256->l.length<=1048576->(∀x∈l,Part.wf x)->partsS kk l=true->Ev (λn=>F_aa n l) (expS [] l):=by
 intro m
 induction m using Nat.strongRecOn with
 |_ m V=>
 intro l hm H hl R P;rw[Qa5,Xs]at P;refine QU ?_;show Ev (λn=>B_aa (F_aa n) n l) _;unfold B_aa;have inner:∀(p:Part) (e:List Int) (f:p.Laps=0\/0<p.Laps/\p.Laps<=64) (E:e.length<=100000) (j:Nat) (k:Nat) (a:List Int),j+k=p.Laps.toNat+(bif decide (0<p.Laps)then 0 else 1)->a.length<=200000->
   ∃d:Ctl (List Int) (Ctl ((List Int)×Int) (Ctl (List Int) (List Int))),EvI (λn=>F_gw n p e) (a,(j:Int)) d/\
    (d=.cont (repS k a e)\/(256<(repS k a e).length/\d=.done (.done (.done (repS k a e))))):=by
  intro p e f E j k
  induction k generalizing j with
  |zero=>
   intro a q _;refine⟨_,Eh (b:=.cont a) ?_,.inl rfl⟩;unfold F_gw;have:¬((j:Int)<if p.Laps<1 then 1 else p.Laps):=by
    rcases f with h|⟨h,Y⟩
    .rw[h]at q⊢;simp at q⊢;omega
    .rw[QZ h]at q;simp at q;rw[Vn (by omega)];omega
   rw[QV this];exact Qa _
  |succ k N=>
   intro a q B;have t:((j:Int)<if p.Laps<1 then 1 else p.Laps):=by
    rcases f with h|⟨h,Y⟩
    .rw[h]at q⊢;simp at q⊢;omega
    .rw[QZ h]at q;simp at q;rw[Vn (by omega)];omega
   by_cases w:256<a.length
   .refine⟨_,Eh (b:=.done (.done (.done a))) ?_,.inr ⟨by rw[QcY w];exact w,by rw[QcY w]⟩⟩;unfold F_gw;rw[QZ t,QZ (show(256:Int)<(a.length:Int)by omega)];exact Qa _
   .obtain⟨d,s,z⟩:=N (j+1) (a++e) (by omega) (by rw[XZ];omega);refine⟨d,Eu ?_ s,by rw[repS,Vn w];exact z⟩;unfold F_gw;rw[QZ t,QV (show¬(256:Int)<(a.length:Int)by omega)];refine QkQ (QK (JK (Qde a e (by omega)) ?_));rw[Yi (by omega)];exact Qa _
 have loop:∀(r:List Part) (i:Nat) (a:List Int),l.drop i=r->i<=l.length->a.length<=100000->
   ∃d:Ctl (List Int) (List Int),EvI (λn=>F_hc n l (F_aa n)) (a,(i:Int)) d/\(d=.cont (expS a r)\/d=.done (expS a r)):=by
  intro r
  induction r with
  |nil=>
   intro i a M O _;refine⟨.cont a,Eh ?_,.inl (by rw[expS])⟩;unfold F_hc;simp only[Q5 M O,Vl];exact Qa _
  |cons p r G=>
   intro i a M O B;obtain⟨g,J⟩:=QC (by omega) M;have t:=g.lt';have W:=JF g.mem;obtain⟨w1,w2⟩:=YQ (R p g.mem);have f:=P p g.mem;rw[QbP]at f;have u:p.Laps=0\/0<p.Laps/\p.Laps<=64:=by
    cases Q:(p.Laps==0)with
    |true=>exact .inl (by simpa using Q)
    |false=>
     rw[Q]at f;simp only[Vl,inR,XU,Vm]at f;exact .inr ⟨by omega,by omega⟩
   have aa:=Qig p;have w:Ev (λn=>((bif decide (0<p.Laps)then(F_aa n p.Parts).bind λL=>some L else some [p.Mat]):Option (List Int))) (lapS p):=by
    rw[Qb9];refine Qbz (λh=>?_) (λ_=>Qa _);rw[Y9]at W;refine Ea (V (szPs p.Parts) (by omega) p.Parts (XR _) (by omega) w1 w2 ?_) (Qa _);have:(p.Laps==0)=false:=by
     simp only[Vm]at h;exact beq_false_of_ne (by omega)
    rw[this]at f;simp only[Vl,XU]at f;exact f.2.2.2
   obtain⟨d,s,z⟩:=inner p (lapS p) u (by omega) 0 _ a (Xu _) (by omega);rw[expS];rcases z with rfl|⟨F,rfl⟩
   .obtain⟨y,X,T⟩:=G (i+1) (repS (p.Laps.toNat+(bif decide (0<p.Laps)then 0 else 1)) a (lapS p)) J (by omega) (by
     have:=QcX (p.Laps.toNat+(bif decide (0<p.Laps)then 0 else 1)) a (lapS p);omega)
    refine⟨y,Eu ?_ X,T⟩;unfold F_hc;simp only[g.lt,Vk,g.ix,XH,g.nx];exact Ea w (Ea s.ev (Qa _))
   .refine⟨.done (repS (p.Laps.toNat+(bif decide (0<p.Laps)then 0 else 1)) a (lapS p)),Eh ?_,.inr (by rw[Qfw r F])⟩;unfold F_hc;simp only[g.lt,Vk,g.ix,XH,g.nx];exact Ea w (Ea s.ev (Qa _))
 obtain⟨d,s,z⟩:=loop l 0 [] rfl (XS _) (by simp);rcases z with rfl|rfl
 iterate 2 exact Ea s.ev (Qa _)
theorem Qho(R:Int):∀(m:Nat) (l:List Part),szPs l<=m->szPs l<=256->l.length<=1048576->(∀x∈l,Part.wf x)->partsS R l=true->Ev (λn=>F_ad n l) (expS [] l):=by
 intro m
 induction m using Nat.strongRecOn with
 |_ m O=>
 intro l V w T N G;rw[Qa5,Xs]at G;refine QU ?_;show Ev (λn=>B_ad (F_ad n) n l) _;unfold B_ad;have inner:∀(p:Part) (i:Nat) (e:At l i p) (H:List Int) (f:List Int) (g:0<p.Laps/\p.Laps<=64) (q:f.length<=100000) (j:Nat) (k:Nat) (a:List Int),j+k=p.Laps.toNat->a.length<=200000->
   EvI (λn=>F_gh n l (H,(i:Int)) f) (a,(j:Int)) (repS k a f):=by
  intro p i e H f g q j k
  induction k generalizing j with
  |zero=>
   intro a Q _;refine Eh ?_;unfold F_gh;simp only[e.ix,XH];rw[QV (show¬(j:Int)<p.Laps by omega)];exact Qa _
  |succ k B=>
   intro a Q h;by_cases s:256<a.length
   .refine Eh ?_;rw[QcY s];unfold F_gh;simp only[e.ix,XH];rw[QZ (show(j:Int)<p.Laps by omega),QV (show¬(a.length:Int)<=256 by omega)];exact Qa _
   .rw[repS,Vn s];refine Eu ?_ (B (j+1) (a++f) (by omega) (by rw[XZ];omega));unfold F_gh;simp only[e.ix,XH];rw[QZ (show(j:Int)<p.Laps by omega),QZ (show(a.length:Int)<=256 by omega)];simp only[Vk,XH];refine JK (Qde a f (by omega)) ?_;rw[Yi (by omega)];exact Qa _
 have loop:∀(r:List Part) (i:Nat) (a:List Int),l.drop i=r->i<=l.length->a.length<=100000->
   EvI (λn=>F_fb n l (F_ad n)) (a,(i:Int)) (expS a r):=by
  intro r
  induction r with
  |nil=>
   intro i a z F _;refine Eh ?_;rw[expS];unfold F_fb;simp only[Q5 z F,Vl,XH];exact Qa _
  |cons p r u=>
   intro i a z F h;obtain⟨e,y⟩:=QC (by omega) z;have M:=e.lt';have P:=JF e.mem;by_cases s:256<a.length
   .rw[Qfw _ s];refine Eh ?_;unfold F_fb;simp only[e.lt,Vk,QV (show¬(a.length:Int)<=256 by omega),XH,Vl];exact Qa _
   obtain⟨w1,w2⟩:=YQ (N p e.mem);have g:=G p e.mem;rw[QbP]at g;have E:=Qig p;rw[expS];refine Eu ?_ (u (i+1) _ y (by omega) (by
    have:=QcX (p.Laps.toNat+(bif decide (0<p.Laps)then 0 else 1)) a (lapS p);omega))
   unfold F_fb;simp only[e.lt,Vk,QZ (show(a.length:Int)<=256 by omega),XH,e.ix,e.nx];cases J:(p.Laps==0)with
   |true=>
    have L:p.Laps=0:=by simpa using J
    simp only[Vk];refine Ea (JK (Qde a [p.Mat] (by simp;omega)) (Qa _)) ((Qa _).eq ?_);rw[Qb9,L];simp[repS,s]
   |false=>
    rw[J]at g;simp only[Vl,XU,inR,Vm]at g;have d:0<p.Laps/\p.Laps<=64:=⟨by omega,by omega⟩;simp only[Vl];rw[Y9]at P;refine Ea (Ea (O (szPs p.Parts) (by omega) p.Parts (XR _) (by omega) w1 w2 g.2.2.2) (Ea ?_ (Qa _))) (Qa _);have t:=Qb9 p;rw[QZ d.1,Vk]at t;have:=(inner p i e a (expS [] p.Parts) d (by rw[<- t];rw[Y9]at E;omega) 0 p.Laps.toNat a (by omega) (by omega)).ev;rw[<- t]at this⊢;rw[QZ d.1];exact this
 exact Ea (loop l 0 [] rfl (XS _) (by simp)).ev (Qa _)
def kindAt(c:Course)(m:Int):Int:=((c.Mats[m.toNat]?).map (·.Kind)).getD 0
def hasLeg(c:Course)(a b:Int):Bool:=c.Legs.any λl=>(l.From==a)&&(l.To==b)
def rokS(c:Course)(len:Nat):Nat->Int->List Int->Bool
 |_,_,[]=>true
 |i,prev,m::r=>((kindAt c m==1)==decide (i=0))&&(((kindAt c m==3)==decide (i+1=len))&&((decide (i=0)||hasLeg c prev m)&&rokS c len (i+1) m r))
def routeR(c:Course)(d:Distance)(r:List Int):Bool:=
 (decide (2<=r.length)&&decide (r.length<=256))&&(rokS c r.length 0 0 r&&((bif decide (0<=d.Extra)then !((r.count d.Extra:Int)==0)&&((kindAt c d.Extra==2)&&hasLeg c d.Extra d.Extra)else true)&&d.Cutoffs.all λx=>decide (x.Lap<=(r.count x.Mat:Int))))
def routeS(c:Course)(d:Distance):Bool:=routeR c d (expS [] d.Route)
def cntM(l:List Int):List (Int×Int):=l.foldl (λm k=>Yw m k (Q1 m k 0+1)) []
theorem Qlt(l:List Int)(k:Int):cntM (l++[k])=Yw (cntM l) k (Q1 (cntM l) k 0+1):=by unfold cntM;rw[List.foldl_append];rfl
theorem QfM(l:List Int)(k:Int):Q1 (cntM l) k 0=(l.count k:Int):=by
 have a:∀(l:List Int) (m:List (Int×Int)),Q1 (l.foldl (λm k=>Yw m k (Q1 m k 0+1)) m) k 0=Q1 m k 0+l.count k:=by
  intro l
  induction l with
  |nil=>simp
  |cons x l d=>
   intro m;rw[XB,d,Qfb,List.count_cons];by_cases h:k=x
   .subst h;simp;omega
   .have:=beq_false_of_ne λe=>h e.symm;simp[h,this]
 have:=a l [];simpa[cntM,Qk6]using this
theorem Qjk(e:Int):∀(m:Nat) (l:List Part) (a:List Int),szPs l<=m->partsS e l=true->(∀x∈a,0<=x/\x<=e)->∀x∈expS a l,0<=x/\x<=e:=by
 intro m
 induction m using Nat.strongRecOn with
 |_ m z=>
 intro l;have q:∀(k:Nat) (a d:List Int),(∀x∈a,0<=x/\x<=e)->(∀x∈d,0<=x/\x<=e)->∀x∈repS k a d,0<=x/\x<=e:=by
  intro k
  induction k with
  |zero=>intro a d g _;exact g
  |succ k s=>
   intro a d g y;rw[repS];split
   .exact g
   .refine s _ _ ?_ y;intro x i;rcases Vz.1 i with h|h
    .exact g x h
    .exact y x h
 have w:∀(r:List Part) (a:List Int),szPs r<=m->partsS e r=true->(∀x∈a,0<=x/\x<=e)->∀x∈expS a r,0<=x/\x<=e:=by
  intro r
  induction r with
  |nil=>intro a _ _ h;exact h
  |cons p r t=>
   intro a n j h;rw[szPs,Y9]at n;rw[partsS,XU]at j;obtain⟨f,B⟩:=j;refine t _ (by omega) B (q _ _ _ h ?_);rw[Qb9];rw[QbP]at f;cases u:(p.Laps==0)with
   |true=>
    have e0:=by simpa using u
    rw[u,Vk,XU]at f;have:=f.1;unfold inR at this;simp[XU,Vm]at this;rw[e0];intro x i;simp at i;subst i;exact this
   |false=>
    rw[u]at f;simp[Vl,XU,inR,Vm]at f;rw[QZ (show 0<p.Laps by omega),Vk];exact z (szPs p.Parts) (by omega) p.Parts [] (XR _) f.2.2.2 (by simp)
 exact λa n j h=>w l a n j h
theorem Qc4{c:Course}{m:Int}(d:0<=m)(e:m<=(c.Mats.length:Int)-1):∃x:Mat,idx c.Mats m=some x/\x.Kind=kindAt c m:=by
 obtain⟨k,rfl⟩:∃k:Nat,m=k:=⟨m.toNat,by omega⟩;have a:k<c.Mats.length:=by omega
 refine⟨c.Mats[k],Ym (XI a),?_⟩;unfold kindAt;rw[Int.toNat_natCast,XI a];rfl
theorem Qie(c:Course)(a b:Int):Q1 (Yu legKey true c.Legs) {from_:=a,to_:=b} false=hasLeg c a b:=by
 rw[QdY];by_cases h:{from_:=a,to_:=b}∈c.Legs.map legKey
 .rw[Vp h];obtain⟨l,d,e⟩:=Xe.1 h;obtain⟨f,g⟩:=ends_eq.1 e;exact(Xt.2 ⟨l,d,by simp[f,g]⟩).symm
 .rw[Vn h]
  symm
  rw[VI];intro q;obtain⟨l,d,e⟩:=Xt.1 q;simp[XU,Vu]at e;exact h (Xe.2 ⟨l,d,by unfold legKey;rw[e.1,e.2]⟩)
theorem QmT(c:Course)(w:CourseOk c)(a b:Int):∃v:Int,Ev (λn=>F_az n c a b) v/\decide (v<0)= !hasLeg c a b:=by
 have q:c.Legs.length<=4611686018427387904:=by have:=w.legs;omega
 have step:∀i x,At c.Legs i x->Ev (λn=>F_gr n c a b i) (bif (x.From==a)&&(x.To==b)then .done (.done i)else .cont (i+1)):=by
  intro i x e;unfold F_gr;simp only[e.lt,e.ix,e.nx];refine Ea (Eg λ_=>Qa _) ?_;cases((x.From==a)&&(x.To==b))<;>exact Qa _
 have loop:∀(r:List Leg) (i:Nat),c.Legs.drop i=r->i<=c.Legs.length->∃d:Ctl Unit Int,EvI (λn=>F_gr n c a b) i d/\((r.any λl=>(l.From==a)&&(l.To==b))=true->∃j:Nat,d=.done j)/\((r.any λl=>(l.From==a)&&(l.To==b))=false->d=.cont ()):=by
  intro r
  induction r with
  |nil=>
   intro i k p;refine⟨.cont (),Eh ?_,λh=>(by simp at h),λ_=>rfl⟩;unfold F_gr;simp only[Q5 k p];exact Qa _
  |cons x r t=>
   intro i k p;obtain⟨e,g⟩:=QC q k;have s:=step i x e;rw[List.any_cons];cases h:((x.From==a)&&(x.To==b))with
   |true=>
    rw[h]at s;exact⟨.done i,Eh s,λ_=>⟨i,rfl⟩,λh=>by simp at h⟩
   |false=>
    rw[h]at s;obtain⟨d,f,m⟩:=t (i+1) g (by have:=e.lt';omega);exact⟨d,Eu s f,by simpa using m⟩
 obtain⟨d,f,m,u⟩:=loop c.Legs 0 rfl (XS _);unfold hasLeg;cases h:c.Legs.any λl=>(l.From==a)&&(l.To==b)with
 |true=>
  obtain⟨j,rfl⟩:=m h;exact⟨j,Ea f.ev (Qa _),by simp⟩
 |false=>
  obtain rfl:=u h;exact⟨-1,Ea f.ev (Qa _),by simp⟩
theorem QiE(l:List Int)(k:Int)(s:l.length<=1048576):Ev (λn=>F_bg n l k) (l.count k:Int):=by
 have loop:∀(r:List Int) (i:Nat) (a:Nat),l.drop i=r->i<=l.length->a<=i->EvI (λn=>F_er n l k) (a,i) (a+r.count k):=by
  intro r
  induction r with
  |nil=>
   intro i a f j _;refine Eh ?_;unfold F_er;simp only[Q5 f j];exact Qa _
  |cons x r g=>
   intro i a f j p;obtain⟨d,e⟩:=QC (by omega) f;have q:=d.lt';have m:i64.wrap (a+1)=a+1:=Yi (by omega);rw[List.count_cons];cases h:(x==k)with
   |true=>
    refine(Eu ?_ (g (i+1) (a+1) e (by omega) (by omega))).eq ?_
    .unfold F_er;simp only[d.lt,d.ix,XH,d.nx,h,m];exact Qa _
    .simp;omega
   |false=>
    refine(Eu ?_ (g (i+1) a e (by omega) (by omega))).eq ?_
    .unfold F_er;simp only[d.lt,d.ix,XH,d.nx,h];exact Qa _
    .simp
 exact Ea ((loop l 0 0 rfl (XS _) (XR _)).ev) ((Qa _).eq (by omega))
structure NumOk (c:Course):Prop where
 kinds:∀m∈c.Mats,1<=m.Kind/\m.Kind<=3
 dist:∀d∈c.Distances,-1<=d.Extra/\d.Extra<=(c.Mats.length:Int)-1/\partsS ((c.Mats.length:Int)-1) d.Route=true
theorem QiX{c:Course}(h:numbersS c=true):NumOk c:=by
 unfold numbersS at h;simp[XU,Xs]at h;refine⟨λm e=>?_,λd f=>?_⟩
 .have:=h.1 m e;unfold inR at this;simpa using this
 .have:=h.2.2.2.1 d f;unfold distS at this;simp[XU]at this;obtain⟨_,a,g,_⟩:=this;unfold inR at a;simp[XU,Vm]at a;exact⟨a.1,a.2,g⟩
theorem Qk8{c:Course}(q:NumOk c){m:Int}(f:0<=m)(g:m<=(c.Mats.length:Int)-1):1<=kindAt c m/\kindAt c m<=3:=by
 obtain⟨x,a,d⟩:=Qc4 f g;have:=by
  obtain⟨_,e⟩:=Qam a;exact VD e
 rw[<- d];exact q.kinds x this
theorem QmL{c:Course}(q:NumOk c){d:Distance}(hd:d∈c.Distances):∀x∈expS [] d.Route,0<=x/\x<=(c.Mats.length:Int)-1:=
 Qjk _ _ d.Route [] (XR _) (q.dist d hd).2.2 (by simp)
theorem Qh0(c:Course)(len i:Nat)(prev m:Int)(r:List Int):rokS c len i prev (m::r)=(((kindAt c m==1)==decide (i=0))&&(((kindAt c m==3)==decide (i+1=len))&&((decide (i=0)||hasLeg c prev m)&&rokS c len (i+1) m r))):=rfl
theorem Qkc(i:Nat):((i:Int)==0)=decide (i=0):=by
 rw[XV];simp
theorem Qga(c:Course)(r:List Int)(P:2<=r.length)(T:r.length<=256)(N:∀x∈r,0<=x/\x<=(c.Mats.length:Int)-1):
  Ev (λn=>iter (F_dz n c (Yu legKey true c.Legs) r) n ([],0)) (bif rokS c r.length 0 0 r then .cont (cntM r)else .done false):=by
 have loop:∀(t:List Int) (i:Nat) (d:Int),r.drop i=t->i<=r.length->(0<i->At r (i-1) d)->EvI (λn=>F_dz n c (Yu legKey true c.Legs) r) (cntM (r.take i),(i:Int)) (bif rokS c r.length i d t then .cont (cntM r)else .done false):=by
  intro t
  induction t with
  |nil=>
   intro i d g s _;refine Eh ?_;unfold F_dz;simp only[Q5 g s,Vl,rokS,Vk];have:r.length<=i:=by simpa using g
   rw[VE this];exact Qa _
  |cons m t J=>
   intro i d g s G;obtain⟨e,k⟩:=QC (by omega) g;have E:=e.lt';obtain⟨R,L⟩:=N m e.mem;obtain⟨x,y,B⟩:=Qc4 R L;have z:i64.wrap ((r.length:Int)-1)=((r.length-1:Nat):Int):=by rw[QH (by omega) (by omega)];omega
   have Q:((i:Int)==((r.length-1:Nat):Int))=decide (i+1=r.length):=by rw[XV];simp;omega
   have F:Ev (λn:Nat=>((bif ((x.Kind==1) != ((i:Int)==0))then some true else(bif ((x.Kind==3) != ((i:Int)==(i64.wrap ((r.length:Int)-1))))then some true else(bif decide (0<(i:Int))then(idx r (i64.wrap ((i:Int)-1))).bind λp=>(some (Q1 (Yu legKey true c.Legs) ({from_:=p,to_:=m:Ue}) false)).bind λj=>some (!j)else some false))):Option Bool))
     (!(((kindAt c m==1)==decide (i=0))&&(((kindAt c m==3)==decide (i+1=r.length))&&(decide (i=0)||hasLeg c d m)))):=by
    rw[B,z,Q,Qkc];refine Et (Er λ_=>Er λ_=>Qbz (v:= !hasLeg c d m) (w:=false) (λh=>?_) λ_=>Qa _) ?_
    .have q:0<i:=by simpa using h
     have H:i64.wrap ((i:Int)-1)=((i-1:Nat):Int):=by rw[QH (by omega) (by omega)];omega
     rw[H,(G q).ix];simp only[XH,Qie];exact Qa _
    .have O:decide (0<(i:Int))= !decide (i=0):=by rw[XV];simp;omega
     rw[O];cases(kindAt c m==1)<;>cases decide (i=0)<;>cases(kindAt c m==3)<;>cases decide (i+1=r.length)<;>cases hasLeg c d m<;>rfl
   have f:i64.wrap (Q1 (cntM (r.take i)) m 0+1)=Q1 (cntM (r.take i)) m 0+1:=by
    rw[QfM];have:(r.take i).count m<=i:=by have:=List.count_le_length (a:=m) (l:=r.take i);simp at this;omega
    exact QH (by omega) (by omega)
   have step:Ev (λn=>F_dz n c (Yu legKey true c.Legs) r (cntM (r.take i),(i:Int))) (bif ((kindAt c m==1)==decide (i=0))&&(((kindAt c m==3)==decide (i+1=r.length))&&(decide (i=0)||hasLeg c d m))then .cont (cntM (r.take (i+1)),((i+1:Nat):Int))else .done (.done false)):=by
    unfold F_dz;simp only[e.lt,Vk,e.ix,XH,e.nx,y];refine Ea F ?_;rw[f, <- Qlt, <- e.take];cases(((kindAt c m==1)==decide (i=0))&&(((kindAt c m==3)==decide (i+1=r.length))&&(decide (i=0)||hasLeg c d m)))<;>exact Qa _
   have M:rokS c r.length i d (m::t)=((((kindAt c m==1)==decide (i=0))&&(((kindAt c m==3)==decide (i+1=r.length))&&(decide (i=0)||hasLeg c d m)))&&rokS c r.length (i+1) m t):=by rw[Qh0];simp only[Bool.and_assoc]
   rw[M];cases u:(((kindAt c m==1)==decide (i=0))&&(((kindAt c m==3)==decide (i+1=r.length))&&(decide (i=0)||hasLeg c d m)))with
   |false=>
    rw[u]at step;exact Eh step
   |true=>
    rw[u]at step;rw[Vw];exact Eu step (J (i+1) m k (by omega) (λ_=>by simpa using e))
 exact(loop r 0 0 rfl (XS _) (by omega)).ev
theorem QjB(c:Course)(w:CourseOk c)(q:NumOk c)(d:Distance)(e:d∈c.Distances)(y:∀x∈d.Route,Part.wf x)(p:szPs d.Route<=256):
  Ev (λn=>F_cr n c d (Yu legKey true c.Legs)) (routeS c d):=by
 have k:=QaE d.Route;have j:=QmL q e;have a:=Qfv _ d.Route [] (XR _);unfold F_cr routeS;refine Ea (Qlk _ _ d.Route (XR _) p (by omega) y (q.dist d e).2.2) ?_;generalize expS [] d.Route=r at j a⊢;unfold routeR;have e3:=by
  have:r.length<=1048576:=by simp at a;omega
  exact QaD this
 rw[e3];have s:(decide ((r.length:Int)-1<1)||decide (256<=(r.length:Int)-1))= !(decide (2<=r.length)&&decide (r.length<=256)):=by
  rw[XV];simp;omega
 refine Ea (Et (Er λ_=>Qa _) s) ?_;cases h:(decide (2<=r.length)&&decide (r.length<=256))with
 |false=>exact Qa _
 |true=>
  simp[XU,Vm]at h;refine QK (Ea (Qga c r h.1 h.2 j) ?_);cases rokS c r.length 0 0 r with
  |false=>exact Qa _
  |true=>
   have l:Ev (λn=>(bif decide (0<=d.Extra)then(some (Q1 (cntM r) d.Extra 0)).bind λg=>(bif (g==0)then some true else(idx c.Mats d.Extra).bind λf=>(bif (f.Kind != 2)then some true else(some (Q1 (Yu legKey true c.Legs) ({from_:=d.Extra,to_:=d.Extra:Ue}) false)).bind λi=>some (!i)))else some false))
     (!(bif decide (0<=d.Extra)then !((r.count d.Extra:Int)==0)&&((kindAt c d.Extra==2)&&hasLeg c d.Extra d.Extra)else true)):=by
    rw[QfM];cases u:decide (0<=d.Extra)with
    |false=>exact Qa _
    |true=>
     obtain⟨x,m,t⟩:=Qc4 (by simpa using u) (q.dist d e).2.1;simp only[XH,m,Qie,t];refine Et (Er λ_=>Er λ_=>Qa _) ?_;rw[bne];cases((r.count d.Extra:Int)==0)<;>cases(kindAt c d.Extra==2)<;>cases hasLeg c d.Extra d.Extra<;>rfl
   refine Ea l ?_;cases(bif decide (0<=d.Extra)then !((r.count d.Extra:Int)==0)&&((kindAt c d.Extra==2)&&hasLeg c d.Extra d.Extra)else true)with
   |false=>exact Qa _
   |true=>
    refine QK (Ea ?_ (Qa _));refine Jq d.Cutoffs _ (λn x=>F_du n x (cntM r)) (by have:=w.cut d e;omega) λx _=>?_;unfold F_du;rw[QfM];exact Qa _
theorem QfA(c:Course)(w:CourseOk c)(q:NumOk c)(r:List Int)(T:2<=r.length)(X:r.length<=256)(R:∀x∈r,0<=x/\x<=(c.Mats.length:Int)-1):
  Ev (λn=>iter (F_db n c r) n 0) (bif rokS c r.length 0 0 r then .cont ()else .done false):=by
 have loop:∀(t:List Int) (i:Nat) (a:Int),r.drop i=t->i<=r.length->(0<i->At r (i-1) a)->EvI (λn=>F_db n c r) (i:Int) (bif rokS c r.length i a t then .cont ()else .done false):=by
  intro t
  induction t with
  |nil=>
   intro i a s u _;refine Eh ?_;unfold F_db;simp only[Q5 s u,Vl,rokS,Vk];exact Qa _
  |cons m t P=>
   intro i a s u L;obtain⟨f,l⟩:=QC (by omega) s;have J:=f.lt';obtain⟨B,z⟩:=R m f.mem;obtain⟨x,F,H⟩:=Qc4 B z;have W:=Qk8 q B z;have G:i64.wrap ((r.length:Int)-1)=((r.length-1:Nat):Int):=by rw[QH (by omega) (by omega)];omega
   have V:((i:Int)==((r.length-1:Nat):Int))=decide (i+1=r.length):=by rw[XV];simp;omega
   have step:Ev (λn=>F_db n c r (i:Int)) (bif ((kindAt c m==1)==decide (i=0))&&(((kindAt c m==3)==decide (i+1=r.length))&&(decide (i=0)||hasLeg c a m))then .cont ((i+1:Nat):Int)else .done (.done false)):=by
    unfold F_db;simp only[f.lt,Vk,f.ix,XH,f.nx,F,H,G,V,Qkc];refine Ea (v:=if i=0 then 1 else if i+1=r.length then 3 else 2) (Ey ?_) ?_
    .by_cases e:i=0
     .simp[e]
     .by_cases h:i+1=r.length
      iterate 2 simp[e,h]
    refine Ea (v:= !(((kindAt c m==1)==decide (i=0))&&(((kindAt c m==3)==decide (i+1=r.length))&&(decide (i=0)||hasLeg c a m)))) ?_ ?_
    .have O:Ev (λn:Nat=>(bif decide (0<(i:Int))then(idx r (i64.wrap ((i:Int)-1))).bind λp=>(F_az n c p m).bind λk=>some (decide (k<0))else some false:Option Bool)) (!(decide (i=0)||hasLeg c a m)):=by
      by_cases e:i=0
      .subst e;exact Qa _
      .have M:i64.wrap ((i:Int)-1)=((i-1:Nat):Int):=by rw[QH (by omega) (by omega)];omega
       obtain⟨v,E,N⟩:=QmT c w a m;rw[QZ (show(0:Int)<(i:Int)by omega),M,(L (by omega)).ix,QV e];exact Ea E ((Qa _).eq (by rw[N];rfl))
     refine Et (Er λ_=>O) ?_;have j:(kindAt c m != if i=0 then 1 else if i+1=r.length then 3 else 2)= !(((kindAt c m==1)==decide (i=0))&&((kindAt c m==3)==decide (i+1=r.length))):=by
      have d:kindAt c m=1\/kindAt c m=2\/kindAt c m=3:=by omega
      by_cases e:i=0
      .rcases d with g|g|g<;>simp[g,e,show¬1=r.length by omega]
      .by_cases h:i+1=r.length
       .rcases d with g|g|g<;>simp[g,e,h]
       .rcases d with g|g|g<;>simp[g,e,h]
     rw[j];cases((kindAt c m==1)==decide (i=0))<;>cases((kindAt c m==3)==decide (i+1=r.length))<;>cases(decide (i=0)||hasLeg c a m)<;>rfl
    .cases(((kindAt c m==1)==decide (i=0))&&(((kindAt c m==3)==decide (i+1=r.length))&&(decide (i=0)||hasLeg c a m)))<;>exact Qa _
   have Q:rokS c r.length i a (m::t)=((((kindAt c m==1)==decide (i=0))&&(((kindAt c m==3)==decide (i+1=r.length))&&(decide (i=0)||hasLeg c a m)))&&rokS c r.length (i+1) m t):=by rw[Qh0];simp only[Bool.and_assoc]
   rw[Q];cases y:(((kindAt c m==1)==decide (i=0))&&(((kindAt c m==3)==decide (i+1=r.length))&&(decide (i=0)||hasLeg c a m)))with
   |false=>
    rw[y]at step;exact Eh step
   |true=>
    rw[y]at step;rw[Vw];exact Eu step (P (i+1) m l (by omega) (λ_=>by simpa using f))
 exact(loop r 0 0 rfl (XS _) (by omega)).ev
theorem Qiz(c:Course)(w:CourseOk c)(q:NumOk c)(d:Distance)(a:d∈c.Distances)(G:∀x∈d.Route,Part.wf x)(z:szPs d.Route<=256):
  Ev (λn=>F_cd n c d) (routeS c d):=by
 have p:=QaE d.Route;have m:=QmL q a;have f:=Qfv _ d.Route [] (XR _);unfold F_cd routeS;refine Ea (Qho _ _ d.Route (XR _) z (by omega) G (q.dist d a).2.2) ?_;generalize expS [] d.Route=r at m f⊢;unfold routeR;have B:(decide ((r.length:Int)<2)||decide (256<(r.length:Int)))= !(decide (2<=r.length)&&decide (r.length<=256)):=by
  rw[XV];simp;omega
 refine Ea (Et (Er λ_=>Qa _) B) ?_;cases l:(decide (2<=r.length)&&decide (r.length<=256))with
 |false=>exact Qa _
 |true=>
  simp only[XU,Vm]at l;refine QK (Ea (QfA c w q r l.1 l.2 m) ?_);cases rokS c r.length 0 0 r with
  |false=>exact Qa _
  |true=>
   have t:Ev (λn:Nat=>(bif (d.Extra != (-1))then(idx c.Mats d.Extra).bind λh=>(bif (h.Kind != 2)then some true else(F_bg n r d.Extra).bind λe=>(bif (e==0)then some true else(F_az n c d.Extra d.Extra).bind λj=>some (decide (j<0))))else some false))
     (!(bif decide (0<=d.Extra)then !((r.count d.Extra:Int)==0)&&((kindAt c d.Extra==2)&&hasLeg c d.Extra d.Extra)else true)):=by
    have k:=q.dist d a;have F:(d.Extra != (-1))=decide (0<=d.Extra):=by rw[XV];simp;omega
    rw[F];cases y:decide (0<=d.Extra)with
    |false=>exact Qa _
    |true=>
     obtain⟨x,u,E⟩:=Qc4 (by simpa using y) k.2.1;obtain⟨v,s,H⟩:=QmT c w d.Extra d.Extra;simp only[XH,u,E];refine Et (Er λ_=>Ea (QiE r _ (by omega)) (Er λ_=>Ea s (Qa _))) ?_;rw[bne,H];cases((r.count d.Extra:Int)==0)<;>cases(kindAt c d.Extra==2)<;>cases hasLeg c d.Extra d.Extra<;>rfl
   refine Ea t ?_;cases(bif decide (0<=d.Extra)then !((r.count d.Extra:Int)==0)&&((kindAt c d.Extra==2)&&hasLeg c d.Extra d.Extra)else true)with
   |false=>exact Qa _
   |true=>
    refine QK (Ea (YV d.Cutoffs (λx=>decide (x.Lap<=r.count x.Mat)) (Ctl.done false) (Ctl.cont ()) (by have:=w.cut d a;omega) (λi x g=>?_) ?_) ?_)
    .unfold F_jt;simp only[g.lt,g.ix,XH,g.nx];refine Ea (QiE r _ (by omega)) ?_;have:decide (r.count x.Mat<x.Lap)= !decide (x.Lap<=r.count x.Mat):=by rw[XV];simp
     rw[this];cases decide (x.Lap<=r.count x.Mat)<;>exact Qa _
    .unfold F_jt;simp only[Jk];exact Qa _
    .cases(d.Cutoffs.all λx=>decide (x.Lap<=r.count x.Mat))<;>exact Qa _
theorem QdQ{a b:Nat}(h:a+b<=4611686018427387904):i64.wrap ((a:Int)+(b:Int))=((a+b:Nat):Int):=by
 rw[QH (by omega) (by omega)];omega
def lensC(c:Course):Nat:=c.Mats.length+c.Legs.length+c.Distances.length+c.Waves.length+c.Offences.length+c.Categories.length+c.Prizes.length
def fewD(d:Distance):Prop:=d.Cutoffs.length<=200/\szPs d.Route<=200/\hPs d.Route<=16
structure FewOk (c:Course):Prop where
 lens:lensC c<=200
 name:c.Name.length<=100
 dist:∀d∈c.Distances,fewD d
 ties:c.Ties.length<=200
theorem Qhu(c:Course)(w:CourseOk c)(q:PartsOk c)(W:c.Ties.length<=1048576)(Q:∀x∈c.Ties,Step.wf x):∃b,Ev (λn=>F_dl n c) b/\(b=true->FewOk c):=by
 have hm:=w.mats;have hg:=w.legs;have hd:=w.dist;have J:=w.wave;have ho:=w.off;have hc:=w.cat;have hp:=w.prize;have loop:∀(t:List Distance) (i s:Nat),c.Distances.drop i=t->i<=c.Distances.length->∃f:Ctl Int Bool,EvI (λn=>F_cc n c) ((s:Int),(i:Int)) f/\(f=.done false\/ ∃v:Nat,f=.cont (v:Int)/\(v<=200->s<=v/\ ∀d∈t,fewD d)):=by
  intro t
  induction t with
  |nil=>
   intro i s E F;refine⟨.cont (s:Int),Eh ?_,Or.inr ⟨s,rfl,λ_=>⟨XR _,by simp⟩⟩⟩;unfold F_cc;simp only[Q5 E F,Vl,XH];exact Qa _
  |cons d t V=>
   intro i s E F;obtain⟨g,z⟩:=QC (by omega) E;have O:=g.lt';by_cases Y:s<=200
   .have j:=q.len d g.mem;have m:=q.wf d g.mem;have G:=w.cut d g.mem;have r:=Qd7 _ d.Route (XR _) j m;have H:=Qd6 _ d.Route 17 (XR _) (XR _) j m;have L:i64.wrap ((s:Int)+(d.Cutoffs.length:Int))=((s+d.Cutoffs.length:Nat):Int):=QdQ (by omega);have N:i64.wrap (((s+d.Cutoffs.length:Nat):Int)+((min (szPs d.Route) 257:Nat):Int))=((s+d.Cutoffs.length+min (szPs d.Route) 257:Nat):Int):=QdQ (by omega);have step:Ev (λn=>F_cc n c ((s:Int),(i:Int))) (bif decide ((16:Int)<((min (hPs d.Route) 17:Nat):Int))then .done (.done false)else .cont (((s+d.Cutoffs.length+min (szPs d.Route) 257:Nat):Int),((i+1:Nat):Int))):=by
     unfold F_cc;simp only[g.lt,Vk,g.ix,XH,g.nx,QZ (show(s:Int)<=200 by omega)];refine Ea r (Ea H ?_);rw[L,N];cases decide ((16:Int)<((min (hPs d.Route) 17:Nat):Int))<;>exact Qa _
    by_cases hh:hPs d.Route<=16
    .rw[QV (show¬(16:Int)<((min (hPs d.Route) 17:Nat):Int)by omega)]at step;obtain⟨f,p,k⟩:=V (i+1) (s+d.Cutoffs.length+min (szPs d.Route) 257) z (by omega);refine⟨f,Eu step p,?_⟩;rcases k with k|⟨v,k,u⟩
     .exact Or.inl k
     .refine Or.inr ⟨v,k,λJ=>?_⟩;obtain⟨R,y⟩:=u J;refine⟨by omega,λx B=>?_⟩;rcases X3.1 B with rfl|B
      .exact⟨by omega,by omega,hh⟩
      .exact y x B
    .rw[QZ (show(16:Int)<((min (hPs d.Route) 17:Nat):Int)by omega)]at step;exact⟨.done false,Eh step,Or.inl rfl⟩
   .refine⟨.cont (s:Int),Eh ?_,Or.inr ⟨s,rfl,λh=>absurd h Y⟩⟩;unfold F_cc;simp only[g.lt,Vk,QV (show¬(s:Int)<=200 by omega),XH,Vl];exact Qa _
 obtain⟨f,p,k⟩:=loop c.Distances 0 (lensC c) rfl (XS _);have e:i64.wrap ((i64.wrap ((i64.wrap ((i64.wrap ((i64.wrap ((i64.wrap ((c.Mats.length:Int)+(c.Legs.length:Int)))+(c.Distances.length:Int)))+(c.Waves.length:Int)))+(c.Offences.length:Int)))+(c.Categories.length:Int)))+(c.Prizes.length:Int))=(lensC c:Int):=by
  have X:c.Mats.length+c.Legs.length<=4611686018427387904:=by omega
  have T:c.Mats.length+c.Legs.length+c.Distances.length<=4611686018427387904:=by omega
  have P:c.Mats.length+c.Legs.length+c.Distances.length+c.Waves.length<=4611686018427387904:=by omega
  have h4:c.Mats.length+c.Legs.length+c.Distances.length+c.Waves.length+c.Offences.length<=4611686018427387904:=by omega
  have h5:c.Mats.length+c.Legs.length+c.Distances.length+c.Waves.length+c.Offences.length+c.Categories.length<=4611686018427387904:=by omega
  have M:c.Mats.length+c.Legs.length+c.Distances.length+c.Waves.length+c.Offences.length+c.Categories.length+c.Prizes.length<=4611686018427387904:=by omega
  rw[QdQ X,QdQ T,QdQ P,QdQ h4,QdQ h5,QdQ M];rfl
 unfold F_dl;rw[e];rcases k with rfl|⟨v,rfl,u⟩
 .exact⟨false,Ea p.ev (Qa _),λh=>by cases h⟩
 .obtain⟨a,b,r,H,p3,_,_,_,_⟩:=Qkv _ c.Ties 0 (XR _) (by omega) W Q;have l:Ev (λn=>F_cy n c.Ties) (decide ((c.Ties.length:Int)<=20)&&(decide (a<=80)&&decide (b<=300))):=by
   unfold F_cy;exact Ea r (Ea (Eg λ_=>Eg λ_=>Qa _) (Qa _))
  refine⟨decide ((v:Int)<=200)&&(decide ((c.Name.length:Int)<=100)&&(decide ((c.Ties.length:Int)<=20)&&(decide (a<=80)&&decide (b<=300)))),Ea p.ev (Ea (Eg λ_=>Eg λ_=>Ea l (Qa _)) (Qa _)),λh=>?_⟩;simp only[XU,Vm]at h;obtain⟨R,y⟩:=u (by omega);exact⟨by omega,by omega,y,by omega⟩
def fitsS(c:Course):Bool:=
 !(decide (40<(c.Mats.length:Int))||(decide (512<(c.Legs.length:Int))||(decide (8<(c.Distances.length:Int))||(decide (32<(c.Waves.length:Int))||(decide (32<(c.Offences.length:Int))||(decide (32<(c.Categories.length:Int))||decide (32<(c.Prizes.length:Int))))))))
  &&c.Distances.all λd=> !decide (64<(d.Cutoffs.length:Int))
theorem Qof(c:Course)(w:CourseOk c)(q:PartsOk c)(k:FewOk c):Ev (λn=>F_dr n c) (fitsS c):=by
 unfold F_dr fitsS;refine Ea (Er λ_=>Er λ_=>Er λ_=>Er λ_=>Er λ_=>Er λ_=>Qa _) ?_;cases(decide (40<(c.Mats.length:Int))||(decide (512<(c.Legs.length:Int))||(decide (8<(c.Distances.length:Int))||(decide (32<(c.Waves.length:Int))||(decide (32<(c.Offences.length:Int))||(decide (32<(c.Categories.length:Int))||decide (32<(c.Prizes.length:Int))))))))with
 |true=>exact Qa _
 |false=>
  refine QK (Ea (YV c.Distances (λd=> !decide (64<(d.Cutoffs.length:Int))) (Ctl.done false) (Ctl.cont ()) (by have:=w.dist;omega) (λi x a=>?_) ?_) ?_)
  .obtain⟨f,g,e⟩:=k.dist x a.mem;unfold F_kh;simp only[a.lt,a.ix,XH,a.nx];refine Ea (QmP _ x.Route 17 (XR _) (by omega) (XR _) (by omega) (q.wf x a.mem)) ?_;simp[QV (show¬16<(hPs x.Route:Int)by omega),QV (show¬(256:Int)<szPs x.Route by omega)];cases decide (64<(x.Cutoffs.length:Int))<;>exact Qa _
  .unfold F_kh;simp[Jk];exact Qa _
  .cases(c.Distances.all λd=> !decide (64<(d.Cutoffs.length:Int)))<;>exact Qa _
theorem Qll(c:Course)(w:CourseOk c)(q:PartsOk c)(k:FewOk c):Ev (λn=>F_dw n c) (fitsS c):=by
 unfold F_dw fitsS;refine Ea (Er λ_=>Er λ_=>Er λ_=>Er λ_=>Er λ_=>Er λ_=>Qa _) ?_;cases(decide (40<(c.Mats.length:Int))||(decide (512<(c.Legs.length:Int))||(decide (8<(c.Distances.length:Int))||(decide (32<(c.Waves.length:Int))||(decide (32<(c.Offences.length:Int))||(decide (32<(c.Categories.length:Int))||decide (32<(c.Prizes.length:Int))))))))with
 |true=>exact Qa _
 |false=>
  refine QK (Ea (YV c.Distances (λd=> !decide (64<(d.Cutoffs.length:Int))) (Ctl.done false) (Ctl.cont ()) (by have:=w.dist;omega) (λi x e=>?_) ?_) ?_)
  .obtain⟨h,g,j⟩:=k.dist x e.mem;have a:=q.len x e.mem;have f:=q.wf x e.mem;unfold F_kc;simp only[e.lt,e.ix,XH,e.nx];refine Ea (Er λ_=>Ea (Qd6 _ x.Route 17 (XR _) (XR _) a f) (Er λ_=>Ea (Qd7 _ x.Route (XR _) a f) (Qa _))) ?_;simp[QV (show¬16<((min (hPs x.Route) 17:Nat):Int)by omega),QV (show¬256<((min (szPs x.Route) 257:Nat):Int)by omega)];cases decide (64<(x.Cutoffs.length:Int))<;>exact Qa _
  .unfold F_kc;simp[Jk];exact Qa _
  .cases(c.Distances.all λd=> !decide (64<(d.Cutoffs.length:Int)))<;>exact Qa _
def courseE(c:Course):Int:=
 bif fitsS c then bif namesS c then bif numbersS c then bif tiesE c.Ties==0 then bif c.Distances.all (routeS c)then 0 else 72 else tiesE c.Ties else 71 else 70 else 2
theorem Qln(c:Course)(w:CourseOk c)(q:PartsOk c)(k:FewOk c)(f:c.Ties.length<=1048576)(h:∀x∈c.Ties,Step.wf x):Ev (λn=>F_ag n c) (courseE c):=by
 unfold F_ag courseE;refine Ea (Qof c w q k) ?_;cases fitsS c with
 |false=>exact Qa _
 |true=>
 refine QK (Ea (QmN c w) ?_);cases namesS c with
 |false=>exact Qa _
 |true=>
 refine QK (Ea (QjA c w q) ?_);cases g:numbersS c with
 |false=>exact Qa _
 |true=>
 refine QK (Ea (Qoh c.Ties f h) ?_);rw[bne];cases(tiesE c.Ties==0)with
 |false=>exact Qa _
 |true=>
 have e:Ev (λn=>iter (F_ja n c) n ([],0)) (Yu legKey true c.Legs):=by
  refine Qby c.Legs legKey true (by have:=w.legs;omega) (λi x m a=>?_) (λm=>?_)
  .unfold F_ja;simp only[a.lt,a.ix,a.nx];exact Qa _
  .unfold F_ja;simp[Jk];exact Qa _
 refine QK (Ea e ?_);have a:Ev (λn=>F_eh n c.Distances c (Yu legKey true c.Legs)) (c.Distances.all (routeS c)):=by
  refine Jq c.Distances _ (λn x=>F_ef n x c (Yu legKey true c.Legs)) (by have:=w.dist;omega) λx d=>?_;exact Ea (QjB c w (QiX g) x d (q.wf x d) (by have:=(k.dist x d).2.1;omega)) (Qa _)
 refine Ea a ?_;cases c.Distances.all (routeS c)<;>exact Qa _
theorem Qhr(c:Course)(w:CourseOk c)(q:PartsOk c)(k:FewOk c)(f:c.Ties.length<=1048576)(h:∀x∈c.Ties,Step.wf x):Ev (λn=>F_ax n c) (courseE c):=by
 have a:=k.lens;unfold lensC at a;have e:Short c:=⟨by omega,by omega,by omega,by omega,by omega⟩;unfold F_ax courseE;refine Ea (Qll c w q k) ?_;cases fitsS c with
 |false=>exact Qa _
 |true=>
 refine QK (Ea (QiB c w e) ?_);cases namesS c with
 |false=>exact Qa _
 |true=>
 refine QK (Ea (Qhm c w q) ?_);cases g:numbersS c with
 |false=>exact Qa _
 |true=>
 refine QK (Ea (Qjv c.Ties f h) ?_);rw[bne];cases(tiesE c.Ties==0)with
 |false=>exact Qa _
 |true=>
 refine QK (Ea (YV c.Distances (routeS c) (Ctl.done 72) (Ctl.cont ()) (by omega) (λi x d=>?_) ?_) ?_)
 .unfold F_ka;simp only[d.lt,d.ix,XH,d.nx];refine Ea (Qiz c w (QiX g) x d.mem (q.wf x d.mem) (by have:=(k.dist x d.mem).2.1;omega)) ?_;cases routeS c x<;>exact Qa _
 .unfold F_ka;simp[Jk];exact Qa _
 .cases c.Distances.all (routeS c)<;>exact Qa _
theorem Qj6{α:Type}(l:List α){a b:Nat}(h:a<=b)(d:b<=l.length):slc l (a:Int) (b:Int)=some ((l.take b).drop a):=by
 unfold slc;rw[QZ (show 0<=(a:Int)by omega),QZ (show a<=(b:Int)by omega),QZ (show b<=(l.length:Int)by omega)];simp
theorem QeT{α:Type}(l:List α){b:Nat}(a:b<=l.length):slc l 0 (b:Int)=some (l.take b):=by
 have:=Qj6 l (XS b) a;simpa using this
theorem QcS{α:Type}(l:List α){a:Nat}(d:a<=l.length):slc l (a:Int) (l.length:Int)=some (l.drop a):=by
 have:=Qj6 l d (XR _);simpa using this
theorem Qom{α:Type}(l m:List α)(h:l.length+m.length<=4294967296):app l m=some (l++m):=by
 unfold app;rw[XQ (by exact h)];rfl
theorem QeV{α:Type}(l:List α){i:Nat}(x:α)(h:i<l.length):Qbj l (i:Int) x=some (l.set i x):=by
 unfold Qbj;rw[QZ (show(0:Int)<=i by omega),QZ (show i<(l.length:Int)by omega)];simp
def firstI{α:Type}(q:α->Bool):List α->Nat->Int
 |[],_=> -1
 |x::l,i=>bif q x then(i:Int)else firstI q l (i+1)
theorem Ev.first{α:Type}{step:Nat->Int->Option (Ctl Int (Ctl Unit Int))}(l:List α)(q:α->Bool)(m:l.length<=4611686018427387904)
  (t:∀i x,At l i x->Ev (λn=>step n (i:Int)) (bif q x then .done (.done (i:Int))else .cont ((i+1:Nat):Int)))(u:Ev (λn=>step n (l.length:Int)) (.done (.cont ()))):
  Ev (λn=>(Go.Sw.iter (step n) n 0).bind λb=>match b with|.cont _=>some (-1)|.done v=>some v) (firstI q l 0):=by
 have loop:∀(r:List α) (i:Nat),l.drop i=r->i<=l.length->∃a:Ctl Unit Int,EvI step i a/\(match a with|.cont _=>some (-1)|.done v=>some v)=some (firstI q r i):=by
  intro r
  induction r with
  |nil=>
   intro i f p;have:i=l.length:=by have:=Xp.1 f;omega
   subst this;exact⟨.cont (),Eh u,rfl⟩
  |cons x r k=>
   intro i f p;obtain⟨j,e⟩:=QC m f;have s:=t i x j;unfold firstI;cases h:q x with
   |true=>
    rw[h]at s;exact⟨_,Eh s,rfl⟩
   |false=>
    rw[h]at s;obtain⟨a,d,g⟩:=k (i+1) e (by have:=j.lt';omega);exact⟨a,Eu s d,g⟩
 obtain⟨a,d,g⟩:=loop l 0 rfl (XS _);exact Ea d.ev (Ey g)
theorem Qd3{α:Type}(q:α->Bool):∀(l:List α) (i:Nat),(firstI q l i= -1/\l.all (λx=> !q x)=true)\/ ∃j x,firstI q l i=((i+j:Nat):Int)/\l[j]?=some x/\q x=true/\(l.take j).all (λx=> !q x)=true
 |[],_=>.inl ⟨rfl,rfl⟩
 |x::l,i=>by
  unfold firstI;cases h:q x with
  |true=>exact .inr ⟨0,x,rfl,rfl,h,rfl⟩
  |false=>
   rcases Qd3 q l (i+1)with⟨h1,h2⟩|⟨j,y,h1,h2,h3,h4⟩
   .exact .inl ⟨h1,by simp[h,h2]⟩
   .refine .inr ⟨j+1,y,by rw[Vl,h1];omega,h2,h3,by simp[h,h4]⟩
theorem Qfl{α:Type}{p:α->Bool}{l:List α}(h:l.all p=true):l.filter p=l:=List.filter_eq_self.2 (Xs.1 h)
theorem QlT{α:Type}{first:Nat->Option Int}{step:Nat->List α×Int×Int->Option (Ctl (List α×Int×Int) (List α×Int))}(a:List α)(q:α->Bool)(hl:a.length<=1048576)
  (Y:Ev first (firstI q a 0))
  (T:∀(l:List α) (i j:Nat) x y,l.length<=1048576->At l j x->l[i]?=some y->x∈a->i<=j->Ev (λn=>step n (l,(i:Int),(j:Int))) (.cont (bif q x then l else l.set i x,(bif q x then(i:Int)else((i+1:Nat):Int)),((j+1:Nat):Int))))
  (V:∀(l:List α) (i:Int),Ev (λn=>step n (l,i,(l.length:Int))) (.done (l,i))):
  Ev (λn=>(first n).bind λr1=>bif r1== -1 then some a else(Go.Sw.iter (step n) n (a,r1,i64.wrap (r1+1))).bind λb=>(slc b.1 0 b.2).bind λx=>some x) (a.filter λx=> !q x):=by
 refine Ea Y ?_;rcases Qd3 q a 0 with⟨G,F⟩|⟨w,R,G,F,Q,W⟩
 .rw[G,Qfl F];exact Qa _
 .have aa:=(XJ.1 F).1;rw[Xu]at G;rw[G];have O:(((w:Nat):Int)== -1)=false:=by simp
  rw[O,Yi (by omega)];have loop:∀(r l:List α) (i j:Nat),a.drop j=r->j<=a.length->i<j->l.length=a.length->l.drop j=a.drop j->l.take i=(a.take j).filter (λx=> !q x)->∃g:List α,∃k:Nat,EvI step (l,(i:Int),(j:Int)) (g,(k:Int))/\k<=g.length/\g.take k=a.filter λx=> !q x:=by
   intro r
   induction r with
   |nil=>
    intro l i j H X J d B e;have:j=l.length:=by have:=Xp.1 H;omega
    subst this;refine⟨l,i,Eh (V l _),by omega,?_⟩;rw[e,d,X6]
   |cons x r M=>
    intro l i j H X J d B e;have L:l.drop j=x::r:=by rw[B,H]
    obtain⟨N,z⟩:=QC (by omega) L;obtain⟨m,f⟩:=QC (by omega) H;have P:=N.lt';have s:=T l i j x l[i] (by omega) N (XI (by omega)) m.mem (by omega);cases h:q x with
    |true=>
     rw[h]at s;obtain⟨g,k,t,p,u⟩:=M l i (j+1) f (by omega) (by omega) d (by rw[z,f]) (by rw[m.take,List.filter_append,e];simp[h]);exact⟨g,k,Eu s t,p,u⟩
    |false=>
     rw[h]at s;obtain⟨g,k,t,p,u⟩:=M (l.set i x) (i+1) (j+1) f (by omega) (by omega) (by simpa using d) (by rw[List.drop_set_of_lt (by omega),z,f])
      (by
       rw[m.take,List.filter_append, <- e];have:i<(l.set i x).length:=by simp;omega
       rw[List.take_add_one,XI this];simp[h,List.take_set_of_le])
     exact⟨g,k,Eu s t,p,u⟩
  have E:a.take (w+1)=a.take w++[R]:=by rw[List.take_add_one,F];rfl
  obtain⟨g,k,t,p,u⟩:=loop _ a w (w+1) rfl (by omega) (by omega) rfl rfl (by rw[E,List.filter_append,Qfl W];simp[Q]);refine QK (Ea t.ev ?_);rw[<- u];exact Ey (by simp[QeT g p])
theorem QaJ{ι α:Type}{F:Nat->ι->Option α}{V:ι->α}:∀(L:List ι),(∀p∈L,Ev (λn=>F n p) (V p))->∃N,∀n,N<=n->∀p∈L,F n p=some (V p)
 |[],_=>⟨0,λ_ _ p hp=>by cases hp⟩
 |x::L,h=>by
  obtain⟨N,hN⟩:=QaJ L λp hp=>h p (by simp[hp]);obtain⟨M,hM⟩:=h x (by simp);refine⟨N+M,λn hn p hp=>?_⟩;rcases X3.1 hp with rfl|hp
  .exact hM n (by omega)
  .exact hN n (by omega) p hp
theorem Ev.anyP{E R:Type}[DecidableEq R]{k:Nat->List E->Option R}{l:List E}{r:R}(h:∀p,p.Perm l->Ev (λn=>k n p) r):Ev (λn=>Go.Sw.anyP (k n) l) r:=by
 obtain⟨N,d⟩:=QaJ (QbO l) λp a=>h p (QcC l p a);exact⟨N,λn e=>Qoo λp a=>d n e p (Qdw l p a)⟩
theorem Ev.isNil{α R:Type}[DecidableEq R]{l:List α}{x y:Nat->Option R}{v:R}(e:l=[]->Ev x v)(a:Ev y v):Ev (λn=>Go.Sw.isNil l (x n) (y n)) v:=by
 unfold Go.Sw.isNil;cases q:l.isEmpty with
 |false=>exact a
 |true=>
  obtain⟨N,f⟩:=e (List.isEmpty_iff.1 q);obtain⟨M,d⟩:=a;exact⟨N+M,λn g=>by dsimp only;rw[f n (by omega),d n (by omega)];simp⟩
set_option maxRecDepth 4000
def openU(f:Fact):U_facts_open_rxk:=
 bif f.Kind==1 then .c0 ()else bif f.Kind==2 then .c1 ()else bif f.Kind==3 then .c2 ()else bif f.Kind==4 then .c3 ()else bif f.Kind==5 then .c4 ()else bif f.Kind==6 then .c5 ()
 else bif f.Kind==7 then .c6 ()else bif f.Kind==8 then .c7 ()else bif f.Kind==9 then .c8 ()else bif f.Kind==10 then
  (bif (f.Ruling.Kind==1)||(f.Ruling.Kind==2)then .c9 (0,0,0,0,0,0)else bif f.Ruling.Kind==3 then .c9 (1,9999,0,255,1,1099511627776)else bif f.Ruling.Kind==4 then .c9 (1,9999,0,255,1,64)else .c9 (1,9999,0,255,0,0))
 else bif f.Kind==11 then .c10 ()else bif f.Kind==12 then .c11 ()else bif f.Kind==13 then .c12 ()else .c13 ()
theorem Qka(n:Nat)(f:Fact)(b:Int):F_bb n f b=some (openU f):=by
 unfold F_bb openU;cases(f.Kind==1)with
 |true=>rfl
 |false=>
 cases(f.Kind==2)with
 |true=>rfl
 |false=>
 cases(f.Kind==3)with
 |true=>rfl
 |false=>
 cases(f.Kind==4)with
 |true=>rfl
 |false=>
 cases(f.Kind==5)with
 |true=>rfl
 |false=>
 cases(f.Kind==6)with
 |true=>rfl
 |false=>
 cases(f.Kind==7)with
 |true=>rfl
 |false=>
 cases(f.Kind==8)with
 |true=>rfl
 |false=>
 cases(f.Kind==9)with
 |true=>rfl
 |false=>
 cases(f.Kind==10)with
 |true=>
  cases(f.Ruling.Kind==1)with
  |true=>rfl
  |false=>
  cases(f.Ruling.Kind==2)with
  |true=>rfl
  |false=>
  cases(f.Ruling.Kind==3)with
  |true=>rfl
  |false=>
  cases(f.Ruling.Kind==4)with
  |true=>rfl
  |false=>rfl
 |false=>
 cases(f.Kind==11)with
 |true=>rfl
 |false=>
 cases(f.Kind==12)with
 |true=>rfl
 |false=>
 cases(f.Kind==13)with
 |true=>rfl
 |false=>rfl
def headL:List Ent:=[⟨false,3,1,13⟩,⟨false,0,0,31⟩,⟨false,1,1,1048576⟩,⟨false,2,0,1099511627776⟩]
def bodyL:U_facts_open_rxk->List Ent
 |.c0 _=>[⟨false,4,1,9999⟩,⟨false,5,0,7⟩,⟨false,6,0,31⟩,⟨false,7,(-1099511627776),1099511627776⟩,⟨false,8,0,120⟩,⟨false,9,0,1048576⟩,⟨false,10,0,9999⟩,⟨false,11,0,1048576⟩]
 |.c1 _=>[⟨false,12,0,39⟩,⟨false,13,0,255⟩,⟨false,14,0,1048576⟩,⟨false,15,(-1099511627776),1099511627776⟩]
 |.c2 _=>[⟨false,16,0,39⟩,⟨false,17,0,255⟩,⟨false,18,(-1099511627776),1099511627776⟩,⟨false,19,(-1099511627776),1099511627776⟩,⟨false,20,0,1099511627776⟩]
 |.c3 _=>[⟨false,21,0,39⟩,⟨false,22,0,255⟩,⟨false,23,(-1099511627776),1099511627776⟩,⟨false,24,0,39⟩,⟨false,25,0,255⟩,⟨false,26,(-1099511627776),1099511627776⟩,⟨false,27,(-1099511627776),1099511627776⟩,⟨false,28,(-1099511627776),1099511627776⟩]
 |.c4 _=>[⟨false,29,1,9999⟩,⟨false,30,0,255⟩,⟨false,31,(-1099511627776),1099511627776⟩,⟨false,32,(-1099511627776),1099511627776⟩]
 |.c5 _=>[⟨false,33,0,39⟩,⟨false,34,0,255⟩,⟨false,35,(-1099511627776),1099511627776⟩,⟨false,36,(-1099511627776),1099511627776⟩]
 |.c6 _=>[⟨false,37,1,9999⟩,⟨false,38,1,9999⟩]
 |.c7 _=>[⟨false,39,1,1048576⟩,⟨false,40,1,9999⟩,⟨false,41,0,31⟩,⟨false,42,0,255⟩]
 |.c8 _=>[⟨false,43,1,1048576⟩,⟨false,44,0,9999⟩,⟨false,45,0,1125899906842624⟩,⟨false,46,0,1⟩]
 |.c9 x=>[⟨false,47,1,1048576⟩,⟨false,48,1,2⟩,⟨false,49,1,5⟩,⟨false,50,x.1,x.2.1⟩,⟨false,51,x.2.2.1,x.2.2.2.1⟩,⟨false,52,x.2.2.2.2.1,x.2.2.2.2.2⟩]
 |.c10 _=>[⟨false,53,1,1048576⟩,⟨true,0,0,1⟩]
 |.c11 _=>[]
 |.c12 _=>[⟨false,55,0,31⟩,⟨false,56,1,1048576⟩]
 |.c13 _=>[]
def fineU(f:Fact):U_facts_open_rxk->Bool
 |.c3 _=>decide (f.Sync.Min<=f.Sync.Max)
 |.c4 _=>decide (f.Hand.Lo<=f.Hand.Hi)
 |.c5 _=>decide (f.Silence.Lo<=f.Silence.Hi)
 |.c6 _=>decide (f.Pair.A<f.Pair.B)
 |.c13 _=>false
 |_=>true
def entsS(f:Fact):List Ent:=headL++bodyL (openU f)
def goodE(e:Ent):Bool:=bif e.fl then e.off==0 else decide (e.off<57)&& !(e.off==54)
theorem Qlp(f:Fact):∀e∈entsS f,goodE e=true:=by
 have h:∀u,(headL++bodyL u).all goodE=true:=by intro u;cases u<;>rfl
 exact Xs.1 (h (openU f))
theorem QfI(f:Fact):(entsS f).length<=12:=by
 have h:∀u,(headL++bodyL u).length<=12:=by intro u;cases u<;>exact XP rfl
 exact h (openU f)
def isI:Option A->Bool
 |some (.int .i64 _)=>true
 |_=>false
theorem Qpd{x:Option A}(h:isI x=true):∃v,x=some (.int .i64 v):=by
 unfold isI at h;split at h
 .exact⟨_,rfl⟩
 .cases h
theorem QmA{f:Fact}{b:Int}{e:Ent}(h:goodE e=true):∃v,Qf7 (Fact.c f) b e=some v:=by
 unfold goodE at h;unfold Qf7;cases a:e.fl with
 |true=>
  rw[a]at h;simp[Vk]at h⊢;rw[h];exact⟨b,rfl⟩
 |false=>
  rw[a]at h;simp only[Vl,XU,Vm,Bool.not_eq_true']at h⊢;have all:(List.range 57).all (λo=>(o==54)||isI (Fact.c f)[o]?)=true:=by rfl
  have:=Xs.1 all e.off (List.mem_range.2 h.1);rw[h.2,Bool.false_or]at this;obtain⟨v,d⟩:=Qpd this;rw[d];exact⟨v,rfl⟩
theorem Qmd{x:Fact}{s v:Int}{e:Ent}(h:goodE e=true):∃q,Qji Fact.put x s e v=some q:=by
 unfold goodE at h;unfold Qji;cases a:e.fl with
 |true=>
  rw[a]at h;simp only[Vk]at h⊢;rw[h];exact⟨_,rfl⟩
 |false=>
  rw[a]at h;simp only[Vl,XU,Vm,Bool.not_eq_true']at h⊢;have all:(List.range 57).all (λo=>(o==54)||(Fact.put x o v).isSome)=true:=by rfl
  have:=Xs.1 all e.off (List.mem_range.2 h.1);rw[h.2,Bool.false_or]at this;obtain⟨y,d⟩:=Option.isSome_iff_exists.1 this;rw[d];exact⟨_,rfl⟩
def getV(f:Fact)(b:Int)(e:Ent):Int:=(Qf7 (Fact.c f) b e).getD 0
def putV(x:Fact)(s:Int)(e:Ent)(v:Int):Fact×Int:=(Qji Fact.put x s e v).getD (x,s)
theorem QmB{f:Fact}{b:Int}{e:Ent}(h:goodE e=true):Qf7 (Fact.c f) b e=some (getV f b e):=by
 obtain⟨v,a⟩:=QmA h;unfold getV;rw[a];rfl
theorem QoZ{x:Fact}{s v:Int}{e:Ent}(h:goodE e=true):Qji Fact.put x s e v=some (putV x s e v):=by
 obtain⟨q,a⟩:=Qmd h;unfold putV;rw[a];rfl
def inE(f:Fact)(b:Int)(e:Ent):Bool:= !(decide (getV f b e<e.lo))&& !(decide (e.hi<getV f b e))
def numR(f:Fact)(b:Int):List Ent->List Int×Fact×Int->Ctl (List Int×Fact×Int) (List Int×Bool)
 |[],a=>.cont a
 |e::r,a=>bif inE f b e then numR f b r (a.1++[getV f b e],putV a.2.1 a.2.2 e (getV f b e))else .done ([],false)
theorem Qcd{α:Type}(l m:List α)(h:l.length+m.length<=1000):app l m=some (l++m):=by
 unfold app;have:Nat.ble (l.length+m.length) Yk=true:=XQ (XT h (by decide));rw[this];rfl
theorem QnV(f:Fact)(b:Int)(E:List Ent)(hE:∀e∈E,goodE e=true)(u:E.length<=12):∀(r:List Ent) (i:Nat) (a:List Int×Fact×Int),E.drop i=r->i<=E.length->a.1.length=i->
  EvI (λn=>F_gc n f b E E) (a.1,a.2.1,a.2.2,(i:Int)) (numR f b r a):=by
 intro r
 induction r with
 |nil=>
  intro i a l p g;refine Eh ?_;unfold F_gc;simp only[Q5 l p];exact Qa _
 |cons e r q=>
  intro i a l p j;obtain⟨g,k⟩:=QC (by omega) l;have m:=hE e g.mem;have t:=g.lt';unfold numR;cases d:inE f b e with
  |true=>
   have h:=d;unfold inE at h;simp only[XU,Bool.not_eq_true']at h;refine Eu ?_ (q (i+1) (a.1++[getV f b e],putV a.2.1 a.2.2 e (getV f b e)) k (by omega) (by simp[j]));unfold F_gc;simp only[g.lt,g.ix,XH,g.nx,QmB m,h.1,h.2,QoZ m];rw[Qcd a.1 [getV f b e] (by simp;omega)];exact Qa _
  |false=>
   refine Eh ?_;unfold F_gc;simp only[g.lt,g.ix,XH,QmB m];unfold inE at d;cases s:decide (getV f b e<e.lo)with
   |true=>exact Qa _
   |false=>
    rw[s]at d;simp[Xh,Vw,Bool.not_eq_false']at d;simp[d];exact Qa _
def suspB(f:Fact):Int:=bif f.Appeal.Suspends then 1 else 0
def restS(f:Fact):Fact:={Ul with Ruling:={Ur with Kind:=f.Ruling.Kind:Ruling},Kind:=f.Kind:Fact}
def lastF(f x:Fact)(s:Int):Fact:=
 let y:Fact:=bif f.Kind != 10 then {x with Ruling:={x.Ruling with Kind:=0:Ruling}:Fact}else x
 {y with Appeal:={Case:=y.Appeal.Case,Suspends:=s==1:Appeal}:Fact}
def numF(f:Fact):List Int×Bool:=bif fineU f (openU f)then(match numR f (suspB f) (entsS f) ([],restS f,0)with
  |.cont a=>(a.1,lastF f a.2.1 a.2.2==f)
  |.done r=>r)else([],false)
theorem Qls(n:Nat)(f:Fact):F_do n ({Ul with Ruling:={Ur with Kind:=f.Ruling.Kind:Ruling}:Fact}) 0 f=some (entsS f):=by
 have a:openU ({({Ul with Ruling:={Ur with Kind:=f.Ruling.Kind:Ruling}:Fact})with Kind:=f.Kind:Fact})=openU f:=rfl;unfold F_do entsS;rw[Qka];rw[a];unfold F_bk;generalize openU f=u;cases u<;>(simp only[XH];exact congrArg (Option.bind · _) (Qcd _ _ (by simp)))
theorem Qkw(f:Fact):Ev (λn=>F_bx n f) (numF f):=by
 refine Ea (v:=suspB f) ?_ ?_
 .unfold suspB;cases f.Appeal.Suspends<;>exact Qa _
 refine Ea (v:=bif fineU f (openU f)then .cont (bodyL (openU f))else .done ([],false)) ?_ ?_
 .simp[Qka];generalize openU f=u;cases u with
  |c3=>unfold fineU;cases decide (f.Sync.Min<=f.Sync.Max)<;>exact Qa _
  |c4=>unfold fineU;cases decide (f.Hand.Lo<=f.Hand.Hi)<;>exact Qa _
  |c5=>unfold fineU;cases decide (f.Silence.Lo<=f.Silence.Hi)<;>exact Qa _
  |c6=>unfold fineU;cases decide (f.Pair.A<f.Pair.B)<;>exact Qa _
  |_=>exact Qa _
 unfold numF;cases fineU f (openU f)with
 |false=>exact Qa _
 |true=>
  have e:app headL (bodyL (openU f))=some (entsS f):=Qcd _ _ (by have:=QfI f;unfold entsS at this;rw[XZ]at this;omega);unfold F_bk;simp[XH];refine Ea (Ey e) ?_;refine Ea (Ey (Qls 0 f)) (Ea (QnV f (suspB f) (entsS f) (Qlp f) (QfI f) (entsS f) 0 ([],restS f,0) rfl (XS _) rfl).ev ?_);cases numR f (suspB f) (entsS f) ([],restS f,0)with
  |done r=>exact Qa _
  |cont a=>
   refine Ea ?_ (Qa _);cases(f.Kind != 10)<;>exact Qa _
def validS(f:Fact):Bool:=(numF f).2
theorem Qgb(f:Fact):Ev (λn=>F_ev n f) (bif validS f then 0 else 120):=by
 refine Ea (Qkw f) ?_;unfold validS;cases(numF f).2<;>exact Qa _
theorem Qi8{f:Fact}(h:validS f=true):(f.Kind==0)=false:=by
 cases q:(f.Kind==0)with
 |false=>rfl
 |true=>
  have hk:=by simpa using q
  have a:openU f=.c13 ():=by unfold openU;rw[hk];rfl
  unfold validS numF at h;rw[a]at h;cases h
set_option maxRecDepth 4000
def numN(v:Nat):List Int:=if h:128<=v then orI .u8 (u8.wrap (v:Int)) 128::numN (v/128)else[u8.wrap (v:Int)]
termination_by v
decreasing_by omega
theorem Qfa{v:Nat}(h:128<=v):numN v=orI .u8 (u8.wrap (v:Int)) 128::numN (v/128):=by
 rw[numN,dif_pos h]
theorem Jt{v:Nat}(h:¬128<=v):numN v=[u8.wrap (v:Int)]:=by
 rw[numN,dif_neg h]
theorem shr7(v:Nat):Yl .u64 (v:Int) 7=((v/128:Nat):Int):=by
 show Int.fdiv v (2^7)=_;rw[Int.fdiv_eq_ediv_of_nonneg _ (by decide)];omega
theorem Qh9:∀(k v:Nat),v<128^(k+1)->(numN v).length<=k+1:=by
 intro k
 induction k with
 |zero=>
  intro v a;rw[Jt (by omega)];simp
 |succ k d=>
  intro v a;by_cases h:128<=v
  .rw[Qfa h,XX];have:=d (v/128) (by rw[Nat.div_lt_iff_lt_mul (by decide)];exact a);omega
  .rw[Jt h];simp
theorem Qg6:∀(k v:Nat) (l:List Int),v<128^(k+1)->l.length+k<4294967296->∃(l':List Int) (a:Nat),EvI (λn=>F_fp n) (l,(v:Int)) (l',(a:Int))/\l'++[u8.wrap (a:Int)]=l++numN v/\l'.length<=l.length+k:=by
 intro k
 induction k with
 |zero=>
  intro v l d e;refine⟨l,v,Eh ?_,by rw[Jt (by omega)],XR _⟩;unfold F_fp;simp[QV (show¬128<=(v:Int)by omega)];exact Qa _
 |succ k g=>
  intro v l d e;by_cases h:128<=v
  .obtain⟨l',a,f,j,i⟩:=g (v/128) (l++[orI .u8 (u8.wrap v) 128]) (by rw[Nat.div_lt_iff_lt_mul (by decide)];exact d) (by simp;omega);refine⟨l',a,Eu ?_ f,?_,?_⟩
   .unfold F_fp;simp[QZ (show 128<=(v:Int)by omega),shr7];rw[Qbs l _ (by omega)];exact Qa _
   .rw[j,Qfa h];simp
   .simp at i;omega
  .refine⟨l,v,Eh ?_,by rw[Jt h],by omega⟩;unfold F_fp;simp[QV (show¬128<=(v:Int)by omega)];exact Qa _
theorem QfE(v:Nat)(l:List Int)(f:v<18446744073709551616)(g:l.length<=1000000):Ev (λn=>F_at n l (v:Int)) (l++numN v):=by
 obtain⟨e,h,a,d,i⟩:=Qg6 9 v l (Vb f (by decide)) (by omega);refine Ea a.ev ?_;rw[Qbs e _ (by omega),d];exact Qa _
theorem Qbk{v:Nat}(hv:v<18446744073709551616):(numN v).length<=10:=Qh9 9 v (Vb hv (by decide))
def zigI(x:Int):Int:=Qf3 .u64 (QeU .u64 (u64.wrap x) 1) (u64.wrap (Yl .i64 x 63))
theorem wrapU(x:Int):0<=u64.wrap x/\u64.wrap x<18446744073709551616:=by
 have e:u64.wrap x=x%18446744073709551616:=by
  rfl
 omega
theorem QeN(x:Int):∃z:Nat,zigI x=(z:Int)/\z<18446744073709551616:=by
 have h:=wrapU ((BitVec.ofInt IntKind.u64.bits (QeU .u64 (u64.wrap x) 1)^^^BitVec.ofInt IntKind.u64.bits (u64.wrap (Yl .i64 x 63))).toNat);refine⟨(zigI x).toNat,?_,?_⟩
 iterate 2 unfold zigI Qf3;omega
def oneB(x:Int):List Int:=1::numN (zigI x).toNat
theorem Qe8(x:Int):(oneB x).length<=11:=by
 obtain⟨z,d,a⟩:=QeN x;unfold oneB;rw[d];have:=Qbk a;simp;omega
theorem Qiw(l:List Int)(x:Int)(f:l.length<=100000):Ev (λn=>F_bd n l ({Kind:=1,N:=x,S:=[],L:=[]:Value})) (l++oneB x):=by
 unfold F_bd F_bs;rw[Qbs l 1 (by omega)];simp only[XH];obtain⟨z,d,e⟩:=QeN x;have a:=d;unfold zigI at a;rw[a];refine Ea (QfE z (l++[1]) e (by simp;omega)) ((Qa _).eq ?_);unfold oneB;rw[d];simp
def mkV(x:Int):Value:={Kind:=1,N:=x,S:=[],L:=[]:Value}
def listV(l:List Int):Value:={Kind:=3,N:=0,S:=[],L:=l.map mkV:Value}
theorem Qjs(x:Int):Ev (λn=>F_n n (mkV x)) (0,true):=by
 refine QU ?_;show Ev (λn=>B_n (F_n n) n (mkV x)) _;unfold B_n mkV;cases(x==0)with
 |true=>exact Qa _
 |false=>exact Qa _
theorem Qil(l:List Int)(g:l.length<=1000):Ev (λn=>F_n n (listV l)) (1,true):=by
 refine QU ?_;show Ev (λn=>B_n (F_n n) n (listV l)) _;unfold B_n listV;refine Ea (Qa _) ?_;refine Ea (v:=Ctl.cont 0) (Ev.iter (λi=>(0,(i:Int))) (l.map mkV).length rfl (λi f=>?_) ?_) (Qa _)
 .have a:=Jl (show(l.map mkV).length<=4611686018427387904 by rw[XY];omega) (XI f);have d:∃y,(l.map mkV)[i]=mkV y:=by
   rw[List.getElem_map];exact⟨_,rfl⟩
  obtain⟨y,e⟩:=d;unfold F_jy;simp only[a.lt,a.ix,XH,a.nx];rw[e];exact Ea (Qjs y) (Qa _)
 .unfold F_jy;simp[Jk];exact Qa _
def listB(l:List Int):List Int:=[3]++numN l.length++(l.map oneB).flatten
theorem Qhk(l:List Int)(z:l.length<=1000):Ev (λn=>F_cp n (listV l)) (listB l):=by
 unfold F_cp;have u:app ([]:List Int) [3]=some [3]:=rfl;rw[u];simp only[XH];have q:u64.wrap (((listV l).L.length:Int))=((l.length:Nat):Int):=by
  have:u64.wrap (((listV l).L.length:Int))=(((listV l).L.length:Int))%18446744073709551616:=by rfl
  rw[this];unfold listV;rw[XY];omega
 rw[q];have w:=Qbk (show l.length<18446744073709551616 by omega);refine Ea (QfE l.length [3] (by omega) (by simp)) ?_;refine Ea (v:=listB l) ?_ (Qa _);have h:=Y0 (step:=λn=>F_ik n (listV l)) (l.map mkV) (λ(a:List Int) (v:Value)=>a++oneB v.N) ([3]++numN l.length) (λa i=>(a,(i:Int))) (λa=>a) (by rw[XY];omega) rfl (λi x a e t=>?_) ?_
 .refine Et h ?_;have:∀(m:List Int) (a:List Int),(m.map mkV).foldl (λ(a:List Int) (v:Value)=>a++oneB v.N) a=a++(m.map oneB).flatten:=by
   intro m
   induction m with
   |nil=>intro a;simp
   |cons x m g=>intro a;simp only[Vf,XB];rw[g];simp[mkV]
  rw[this];rfl
 .have p:∃y,x=mkV y:=by
   obtain⟨y,_,s⟩:=Xe.1 e.mem;exact⟨y,s.symm⟩
  obtain⟨y,rfl⟩:=p;have j:a.length<=100000:=by
   have:∀(m:List Int) (a:List Int),((m.map mkV).foldl (λ(a:List Int) (v:Value)=>a++oneB v.N) a).length<=a.length+11*m.length:=by
    intro m
    induction m with
    |nil=>intro a;simp
    |cons x m g=>
     intro a;simp only[Vf,XB,XX];have r:=g (a++oneB (mkV x).N);have f:=Qe8 (mkV x).N;rw[XZ]at r;omega
   have f:=this (l.take i) ([3]++numN l.length);rw[List.map_take, <- t,XZ,Xw]at f;simp at f;omega
  unfold F_ik;have d:decide ((i:Int)<((listV l).L.length:Int))=true:=e.lt;have k:idx (listV l).L (i:Int)=some (mkV y):=e.ix;simp only[d,Vk,k,XH,e.nx];refine Ea (Qiw a y j) ?_;exact Qa _
 .unfold F_ik;have d:decide (((l.map mkV).length:Int)<((listV l).L.length:Int))=false:=Jk _;simp only[d,Vl];exact Qa _
theorem Qml{f:Fact}{b:Int}:∀(r:List Ent) (a c:List Int×Fact×Int),numR f b r a=.cont c->c.1.length=a.1.length+r.length:=by
 intro r
 induction r with
 |nil=>intro a c h;cases h;rfl
 |cons e r d=>
  intro a c h;unfold numR at h;cases q:inE f b e with
  |false=>rw[q]at h;cases h
  |true=>
   rw[q]at h;have:=d _ _ h;simp at this;rw[this,XX];omega
theorem Qmm(f:Fact):(numF f).1.length<=12:=by
 unfold numF;cases fineU f (openU f)with
 |false=>simp
 |true=>
  cases h:numR f (suspB f) (entsS f) ([],restS f,0)with
  |cont a=>
   have:=Qml _ _ _ h;have:=QfI f;simp at*;omega
  |done r=>
   have:∀(E:List Ent) (a:List Int×Fact×Int),numR f (suspB f) E a=.done r->r=([],false):=by
    intro E
    induction E with
    |nil=>intro a h;cases h
    |cons e E ih=>
     intro a h;unfold numR at h;cases q:inE f (suspB f) e with
     |false=>rw[q]at h;cases h;rfl
     |true=>rw[q]at h;exact ih _ h
   rw[this _ _ h];simp
def encF(f:Fact):List Int×Int:=bif validS f then(listB (numF f).1,0)else([],120)
theorem QgG(f:Fact):Ev (λn=>F_by n f) (encF f):=by
 refine Ea (Qkw f) ?_;have p:=Qmm f;unfold encF validS;generalize numF f=r at*;cases h:r.2 with
 |false=>exact Qa _
 |true=>
  refine Ea (v:=r.1.map mkV) ?_ ?_
  .refine Et (Y0 r.1 (λa x=>a++[mkV x]) [] (λa i=>(a,(i:Int))) (λa=>a) (by omega) rfl (λi x a g l=>?_) ?_) ?_
   .unfold F_jw;simp only[g.lt,g.ix,XH,g.nx];have k:a.length<=12:=by
     have:∀(m:List Int) (a:List Value),(m.foldl (λa x=>a++[mkV x]) a).length=a.length+m.length:=by
      intro m
      induction m with
      |nil=>simp
      |cons x m d=>intro a;simp only[XB];rw[d];simp;omega
     rw[l,this,Xw];simp;omega
    have e:=Qbs a (mkV x) (by omega);unfold mkV at e;rw[e];exact Qa _
   .unfold F_jw;simp[Jk];exact Qa _
   .have:∀(m:List Int) (a:List Value),m.foldl (λa x=>a++[mkV x]) a=a++m.map mkV:=by
     intro m
     induction m with
     |nil=>simp
     |cons x m d=>intro a;simp only[XB];rw[d];simp
    rw[this];rfl
  refine Ea (v:=(listB r.1,0)) ?_ (Qa _);have j:=Qil r.1 (by omega);have e:({Kind:=3,N:=0,S:=[],L:=r.1.map mkV:Value})=listV r.1:=rfl;refine Ea (Ea j (Qa _)) ?_;exact Ea (Qhk r.1 (by omega)) (Qa _)
def cmpI(a b:Int):Int:=bif decide (a<b)then-1 else bif decide (b<a)then 1 else 0
theorem Qky(n:Nat)(a b:Int):F_r n a b=some (cmpI a b):=by
 unfold F_r F_br cmpI;simp[bne_self_eq_false];cases decide (a<b)with
 |true=>rfl
 |false=>cases decide (b<a)<;>rfl
def orL:List Int->Int
 |[]=>0
 |x::r=>bif x != 0 then x else orL r
theorem QoF(l:List Int)(m:l.length<=1000):Ev (λn=>F_bt n l) (orL l):=by
 have loop:∀(r:List Int) (i:Nat),l.drop i=r->i<=l.length->EvI (λn=>F_gt n l) i (bif orL r==0 then Ctl.cont ()else Ctl.done (orL r)):=by
  intro r
  induction r with
  |nil=>
   intro i f g;refine Eh ?_;unfold F_gt;simp only[Q5 f g];exact Qa _
  |cons x r j=>
   intro i f g;obtain⟨a,d⟩:=QC (by omega) f;have k:=a.lt';unfold orL;cases q:(x != 0)with
   |true=>
    have e:(x==0)=false:=by simpa  using q
    simp[Vk,e];refine Eh ?_;unfold F_gt;simp only[a.lt,a.ix,XH,q];exact Qa _
   |false=>
    refine Eu ?_ (j (i+1) d (by omega));unfold F_gt;simp only[a.lt,a.ix,XH,q,a.nx];exact Qa _
 refine Ea (loop l 0 rfl (XS _)).ev ?_;cases h:(orL l==0)with
 |true=>
  have e:=by simpa using h
  rw[e];exact Qa _
 |false=>exact Qa _
def cmpF(f g:Fact):Int:=bif orL [cmpI f.At g.At,cmpI f.Crew g.Crew,cmpI f.No g.No] != 0 then orL [cmpI f.At g.At,cmpI f.Crew g.Crew,cmpI f.No g.No]else cmpB (encF f).1 (encF g).1
theorem QjD(f g:Fact):Ev (λn=>F_cs n f g) (cmpF f g):=by
 unfold F_cs cmpF;simp[Qky,XH];refine Ea (QoF _ (by simp)) ?_;cases(orL [cmpI f.At g.At,cmpI f.Crew g.Crew,cmpI f.No g.No] != 0)with
 |true=>exact Qa _
 |false=>
  exact Ea (QgG f) (Ea (QgG g) (Qa _))
def okS(c:Course)(f:Fact):Bool:=(f.Kind==1)&&(validS f&&(!decide ((c.Distances.length:Int)<=f.Starter.Distance)&& !decide ((c.Waves.length:Int)<=f.Starter.Wave)))
theorem Qn3{n:Nat}(h:n<=1048576):Nat.ble n Yk=true:=XQ (XT h (by decide))
theorem Qpx{a b:Int}:cmpI a b=0↔a=b:=by
 unfold cmpI;by_cases h:a<b
 .rw[Vq h];simp;omega
 .rw[Vt h];by_cases d:b<a
  .rw[Vq d];simp;omega
  .rw[Vt d];simp;omega
set_option maxRecDepth 4000
theorem QnU(f:Fact)(b:Int):∀(E:List Ent) (a:List Int×Fact×Int),numR f b E a=bif E.all (inE f b)then .cont (a.1++E.map (getV f b),E.foldl (λp e=>putV p.1 p.2 e (getV f b e)) a.2)else .done ([],false):=by
 intro E
 induction E with
 |nil=>simp[numR]
 |cons e E ih=>
  intro a;unfold numR;rw[List.all_cons];cases h:inE f b e with
  |false=>rfl
  |true=>
   rw[ih];simp
def onlyS(f:Fact):Fact:={Crew:=f.Crew,No:=f.No,At:=f.At,Kind:=f.Kind,Starter:=(bif f.Kind==1 then f.Starter else Ul.Starter),Read:=(bif f.Kind==2 then f.Read else Ul.Read),Beacon:=(bif f.Kind==3 then f.Beacon else Ul.Beacon),Sync:=(bif f.Kind==4 then f.Sync else Ul.Sync),Hand:=(bif f.Kind==5 then f.Hand else Ul.Hand),Silence:=(bif f.Kind==6 then f.Silence else Ul.Silence),Pair:=(bif f.Kind==7 then f.Pair else Ul.Pair),Report:=(bif f.Kind==8 then f.Report else Ul.Report),Protest:=(bif f.Kind==9 then f.Protest else Ul.Protest),Ruling:=(bif f.Kind==10 then f.Ruling else Ul.Ruling),Appeal:=(bif f.Kind==11 then f.Appeal else Ul.Appeal),Void:=(bif f.Kind==13 then f.Void else Ul.Void):Fact}
def numsS(f:Fact):List Int:=[f.Kind,f.Crew,f.No,f.At]++(
 bif f.Kind==1 then[f.Starter.Bib,f.Starter.Distance,f.Starter.Wave,f.Starter.Slot,f.Starter.Age,f.Starter.Chip,f.Starter.Team,f.Starter.Lot]
 else bif f.Kind==2 then[f.Read.Mat,f.Read.Epoch,f.Read.Chip,f.Read.Local]
 else bif f.Kind==3 then[f.Beacon.Mat,f.Beacon.Epoch,f.Beacon.Local,f.Beacon.True,f.Beacon.Err]
 else bif f.Kind==4 then[f.Sync.MatA,f.Sync.EpochA,f.Sync.LocalA,f.Sync.MatB,f.Sync.EpochB,f.Sync.LocalB,f.Sync.Min,f.Sync.Max]
 else bif f.Kind==5 then[f.Hand.Bib,f.Hand.Position,f.Hand.Lo,f.Hand.Hi]
 else bif f.Kind==6 then[f.Silence.Mat,f.Silence.Epoch,f.Silence.Lo,f.Silence.Hi]
 else bif f.Kind==7 then[f.Pair.A,f.Pair.B]
 else bif f.Kind==8 then[f.Report.Case,f.Report.Bib,f.Report.Offence,f.Report.Position]
 else bif f.Kind==9 then[f.Protest.Case,f.Protest.By,f.Protest.Fee,f.Protest.Form]
 else bif f.Kind==10 then[f.Ruling.Case,f.Ruling.Instance,f.Ruling.Kind,f.Ruling.Bib,f.Ruling.Position,f.Ruling.Amount]
 else bif f.Kind==11 then[f.Appeal.Case,suspB f]
 else bif f.Kind==13 then[f.Void.Crew,f.Void.No]else[])
theorem kinds(f:Fact):f.Kind=1\/f.Kind=2\/f.Kind=3\/f.Kind=4\/f.Kind=5\/f.Kind=6\/f.Kind=7\/f.Kind=8\/f.Kind=9\/f.Kind=10\/f.Kind=11\/f.Kind=12\/f.Kind=13\/openU f=.c13 ():=by
 by_cases j:f.Kind=1; · exact .inl j
 by_cases h:f.Kind=2; · exact .inr (.inl h)
 by_cases p:f.Kind=3; · exact .inr (.inr (.inl p))
 by_cases n:f.Kind=4; · exact .inr (.inr (.inr (.inl n)))
 by_cases i:f.Kind=5; · exact .inr (.inr (.inr (.inr (.inl i))))
 by_cases k:f.Kind=6; · exact .inr (.inr (.inr (.inr (.inr (.inl k)))))
 by_cases l:f.Kind=7; · exact .inr (.inr (.inr (.inr (.inr (.inr (.inl l))))))
 by_cases q:f.Kind=8; · exact .inr (.inr (.inr (.inr (.inr (.inr (.inr (.inl q)))))))
 by_cases m:f.Kind=9; · exact .inr (.inr (.inr (.inr (.inr (.inr (.inr (.inr (.inl m))))))))
 by_cases a:f.Kind=10; · exact .inr (.inr (.inr (.inr (.inr (.inr (.inr (.inr (.inr (.inl a)))))))))
 by_cases d:f.Kind=11; · exact .inr (.inr (.inr (.inr (.inr (.inr (.inr (.inr (.inr (.inr (.inl d))))))))))
 by_cases g:f.Kind=12; · exact .inr (.inr (.inr (.inr (.inr (.inr (.inr (.inr (.inr (.inr (.inr (.inl g)))))))))))
 by_cases e:f.Kind=13; · exact .inr (.inr (.inr (.inr (.inr (.inr (.inr (.inr (.inr (.inr (.inr (.inr (.inl e))))))))))))
 refine .inr (.inr (.inr (.inr (.inr (.inr (.inr (.inr (.inr (.inr (.inr (.inr (.inr ?_))))))))))));unfold openU;simp[Vv.2 j,Vv.2 h,Vv.2 p,Vv.2 n,Vv.2 i,Vv.2 k,Vv.2 l,Vv.2 q,Vv.2 m,Vv.2 a,Vv.2 d,Vv.2 g,Vv.2 e,Vl]
def copyS(f:Fact):Fact×Int:=(entsS f).foldl (λp e=>putV p.1 p.2 e (getV f (suspB f) e)) (restS f,0)
theorem Qg7(f:Fact):numF f=bif fineU f (openU f)then(bif (entsS f).all (inE f (suspB f))then((entsS f).map (getV f (suspB f)),lastF f (copyS f).1 (copyS f).2==f)else([],false))else([],false):=by
 unfold numF;rw[QnU];cases fineU f (openU f)with
 |false=>rfl
 |true=>
  cases(entsS f).all (inE f (suspB f))with
  |false=>rfl
  |true=>rfl
theorem QdE(f:Fact)(h:¬openU f=.c13 ()):lastF f (copyS f).1 (copyS f).2=onlyS f/\(entsS f).map (getV f (suspB f))=numsS f:=by
 rcases kinds f with k|k|k|k|k|k|k|k|k|k|k|k|k|k
 case inr.inr.inr.inr.inr.inr.inr.inr.inr.inr.inl=>
  obtain⟨Cr,No,At,Ki,S,R,B,Sy,Ha,Si,Pa,Re,Pr,Ru,⟨Ca,Su⟩,Vo⟩:=f;subst k;cases Su<;>exact⟨by kernel_rfl,by kernel_rfl⟩
 case inr.inr.inr.inr.inr.inr.inr.inr.inr.inl=>
  obtain⟨Cr,No,At,Ki,S,R,B,Sy,Ha,Si,Pa,Re,Pr,⟨e,j,a,d,i,l⟩,Ap,Vo⟩:=f;subst k;have:∃x,openU ⟨Cr,No,At,10,S,R,B,Sy,Ha,Si,Pa,Re,Pr,⟨e,j,a,d,i,l⟩,Ap,Vo⟩=.c9 x:=by
   unfold openU;cases((a==1)||(a==2))with
   |true=>exact⟨_,rfl⟩
   |false=>
    cases(a==3)with
    |true=>exact⟨_,rfl⟩
    |false=>cases(a==4)<;>exact⟨_,rfl⟩
  obtain⟨x,g⟩:=this;unfold copyS entsS;rw[g];exact⟨by kernel_rfl,by kernel_rfl⟩
 case inr.inr.inr.inr.inr.inr.inr.inr.inr.inr.inr.inr.inr=>exact absurd k h
 all_goals
  obtain⟨Cr,No,At,Ki,S,R,B,Sy,Ha,Si,Pa,Re,Pr,Ru,Ap,Vo⟩:=f;subst k;exact⟨by kernel_rfl,by kernel_rfl⟩
def contS(f:Fact):Bool:=fineU f (openU f)&&(bodyL (openU f)).all (inE f (suspB f))
def headS(f:Fact):Bool:=headL.all (inE f (suspB f))
theorem Qb1(f:Fact):validS f=(headS f&&contS f&&(onlyS f==f)):=by
 unfold validS contS headS;rw[Qg7];by_cases h:openU f=.c13 ()
 .have:fineU f (openU f)=false:=by rw[h];rfl
  rw[this];simp
 .obtain⟨a,d⟩:=QdE f h;rw[a];unfold entsS;rw[List.all_append];cases fineU f (openU f)with
  |false=>simp
  |true=>
   cases headL.all (inE f (suspB f))with
   |false=>rfl
   |true=>cases(bodyL (openU f)).all (inE f (suspB f))<;>rfl
theorem Qi7{f:Fact}(h:validS f=true):(numF f).1=numsS f:=by
 unfold validS at h;rw[Qg7]at h⊢;by_cases q:openU f=.c13 ()
 .have:fineU f (openU f)=false:=by rw[q];rfl
  rw[this]at h;cases h
 .obtain⟨e,d⟩:=QdE f q;cases a:fineU f (openU f)with
  |false=>rw[a]at h;cases h
  |true=>
   rw[a]at h;cases b:(entsS f).all (inE f (suspB f))with
   |false=>rw[b]at h;cases h
   |true=>exact d
theorem QeO{f:Fact}(h:validS f=true):onlyS f=f:=by
 rw[Qb1]at h;simp[XU,Vu]at h;exact h.2
theorem Qmk{f g:Fact}(a:validS f=true)(hg:validS g=true)(h:numsS f=numsS g):f=g:=by
 have e1:=QeO a;have L:=QeO hg;rw[<- e1, <- L];unfold numsS at h;have P:f.Kind=g.Kind:=by
  simp only[VG,List.cons.injEq]at h;exact h.1
 have nk:=Qi8 a;rcases kinds f with k|k|k|k|k|k|k|k|k|k|k|k|k|k
 case inr.inr.inr.inr.inr.inr.inr.inr.inr.inr.inr.inr.inr=>
  rw[Qb1]at a;unfold contS at a;rw[k]at a;simp[fineU]at a
 all_goals
  have j:=P.symm.trans k;obtain⟨Cr,No,At,Ki,⟨s1,s2,s3,s4,s5,s6,s7,s8⟩,⟨ad,n,u,aj⟩,⟨b1,b2,b3,b4,b5⟩,⟨y1,y2,y3,y4,y5,y6,y7,y8⟩,⟨h1,h2,h3,h4⟩,⟨i1,i2,i3,i4⟩,⟨p1,p2⟩,⟨u1,u2,u3,u4⟩,⟨o1,o2,o3,o4⟩,⟨r1,r2,r3,r4,r5,r6⟩,⟨a1,a2⟩,⟨v1,v2⟩⟩:=f;obtain⟨Cr',No',At',Ki',⟨O,ao,Q,aw,af,X,an,y⟩,⟨i,m,l,e⟩,⟨az,ay,r,t,ab⟩,⟨B,au,ag,q,ax,aq,E,w⟩,⟨z,ah,F,x⟩,⟨J,ar,a0,ac⟩,⟨T,ae⟩,⟨a3,N,V,R⟩,⟨ak,Y,p,ai⟩,⟨G,W,H,am,av,al⟩,⟨s,d⟩,⟨aa,M⟩⟩:=g;simp only at k j;subst k;subst j
  first
   |(simp[suspB]at h;simp[onlyS,h];done)
   |(cases a2<;>cases d<;>simp[suspB]at h<;>simp[onlyS,h])
set_option maxRecDepth 4000
theorem Qbg(x:Int):u64.wrap x=x%18446744073709551616:=by rfl
theorem QgT(x:Int):u8.wrap x=x%256:=by unfold IntKind.wrap;rfl
theorem or8(a b:Int):orI .u8 a b=(((BitVec.ofInt 8 a|||BitVec.ofInt 8 b).toNat:Nat):Int)%256:=by exact QgT _
theorem Qoz(a b:Int):Qf3 .u64 a b=(((BitVec.ofInt 64 a^^^BitVec.ofInt 64 b).toNat:Nat):Int)%18446744073709551616:=by exact Qbg _
theorem or128(v:Nat):orI .u8 (u8.wrap (v:Int)) 128=((v%128+128:Nat):Int):=by
 have a:∀m:Fin 256,((BitVec.ofNat 8 m.val|||128#8).toNat)=m.val%128+128:=by decide
 have d:v%256<256:=Nat.mod_lt _ (by decide);have k:(BitVec.ofNat 8 (v%256)|||128#8).toNat=v%256%128+128:=a ⟨v%256,d⟩;have e:BitVec.ofInt 8 (v%256)=BitVec.ofNat 8 (v%256):=by
  have:(v%256)=v%256:=by omega
  exact BitVec.ofInt_natCast 8 (v%256)
 have f:BitVec.ofInt 8 128=128#8:=by rfl
 rw[or8,QgT,e,f,k];omega
theorem Qb6(v:Nat):numN v=if 128<=v then((v%128+128:Nat):Int)::numN (v/128)else[(v:Int)]:=by
 by_cases h:128<=v
 .rw[Qfa h,Vp h,or128]
 .rw[Jt h,Vn h,QgT];congr 1;omega
theorem Qh8:∀(v w:Nat) (a b:List Int),numN v++a=numN w++b->v=w/\a=b:=by
 intro v
 induction v using Nat.strongRecOn with
 |_ v g=>
 intro w a b h;rw[Qb6 v,Qb6 w]at h;by_cases e:128<=v
 .rw[Vp e]at h;by_cases d:128<=w
  .rw[Vp d]at h;simp[VG,List.cons.injEq]at h;obtain⟨i,f⟩:=g (v/128) (by omega) (w/128) a b h.2;exact⟨by omega,f⟩
  .rw[Vn d]at h;simp[VG,List.cons.injEq]at h;omega
 .rw[Vn e]at h;by_cases d:128<=w
  .rw[Vp d]at h;simp[VG,List.cons.injEq]at h;omega
  .rw[Vn d]at h;simp[VG,List.cons.injEq]at h;exact⟨by omega,h.2⟩
theorem Qe9:∀(v:Nat),∀x∈numN v,0<=x/\x<256:=by
 intro v
 induction v using Nat.strongRecOn with
 |_ v e=>
 intro x a;rw[Qb6 v]at a;by_cases d:128<=v
 .rw[Vp d]at a;rcases X3.1 a with rfl|a
  .omega
  .exact e (v/128) (by omega) x a
 .rw[Vn d]at a;rcases X3.1 a with rfl|a
  .omega
  .cases a
theorem Qeo{x:Int}(g:0<=x)(f:x<9223372036854775808):zigI x=2*x:=by
 unfold zigI QeU;have d:Yl .i64 x 63=0:=by
  show Int.fdiv x (2^63)=0;rw[Int.fdiv_eq_ediv_of_nonneg _ (by decide)];omega
 have a:(2:Int)^(min (1:Int).toNat IntKind.u64.bits)=2:=by decide
 rw[d,a,Qoz];simp only[Qbg];have e:BitVec.ofInt 64 (0%18446744073709551616)=0#64:=by rfl
 rw[e,BitVec.xor_zero,BitVec.toNat_ofInt];omega
theorem Qep{x:Int}(g:x<0)(f: -9223372036854775808<=x):zigI x= -2*x-1:=by
 unfold zigI QeU;have d:Yl .i64 x 63= -1:=by
  show Int.fdiv x (2^63)= -1;rw[Int.fdiv_eq_ediv_of_nonneg _ (by decide)];omega
 have a:(2:Int)^(min (1:Int).toNat IntKind.u64.bits)=2:=by decide
 rw[d,a,Qoz];simp only[Qbg];have e:BitVec.ofInt 64 (-1%18446744073709551616)=BitVec.allOnes 64:=by decide
 rw[e,BitVec.xor_allOnes,BitVec.toNat_not,BitVec.toNat_ofInt];omega
def in63(x:Int):Prop:= -9223372036854775808<=x/\x<9223372036854775808
theorem QnG{x y:Int}(f:in63 x)(e:in63 y)(h:zigI x=zigI y):x=y:=by
 obtain⟨a,b⟩:=f;obtain⟨c,d⟩:=e;by_cases p:0<=x
 .rw[Qeo p b]at h;by_cases q:0<=y
  .rw[Qeo q d]at h;omega
  .rw[Qep (by omega) c]at h;omega
 .rw[Qep (by omega) a]at h;by_cases q:0<=y
  .rw[Qeo q d]at h;omega
  .rw[Qep (by omega) c]at h;omega
theorem Qh6:∀(l m:List Int),l.length=m.length->(∀x∈l,in63 x)->(∀x∈m,in63 x)->(l.map oneB).flatten=(m.map oneB).flatten->l=m
 |[],[],_,_,_,_=>rfl
 |x::l,y::m,hl,h1,h2,h=>by
  simp[Vf,Vh,oneB,VG,List.cons.injEq,true_and]at h;obtain⟨e1,e2⟩:=Qh8 _ _ _ _ h;obtain⟨z,p1,p2⟩:=QeN x;obtain⟨z',q1,q2⟩:=QeN y;rw[p1,q1]at e1;have:=QnG (h1 x (by simp)) (h2 y (by simp)) (by omega);rw[this,Qh6 l m (by simpa using hl) (λz hz=>h1 z (by simp[hz])) (λz hz=>h2 z (by simp[hz])) e2]
theorem Qk7{l m:List Int}(d:∀x∈l,in63 x)(e:∀x∈m,in63 x)(h:listB l=listB m):l=m:=by
 unfold listB at h;simp[VG,List.cons.injEq,true_and]at h;obtain⟨a,f⟩:=Qh8 _ _ _ _ h;exact Qh6 l m a d e f
theorem QdZ(l:List Int):∀x∈listB l,0<=x/\x<256:=by
 intro x a;unfold listB at a;simp only[Vz,Vx,List.mem_flatten,Xe]at a;rcases a with(rfl|a)|⟨m,⟨y,_,rfl⟩,a⟩
 .omega
 .exact Qe9 _ x a
 .rcases X3.1 a with rfl|a
  .omega
  .exact Qe9 _ x a
structure CmpOK {α:Type} (c:α->α->Int):Prop where
 swap:∀x y,c y x= -c x y
 trans:∀x y z,c x y<0->c y z<0->c x z<0
 eqt:∀x y z,c x y=0->c x z=c y z
section
variable {α:Type} {c d:α->α->Int}
theorem CmpOK.refl(h:CmpOK c)(x:α):c x x=0:=by have:=h.swap x x;omega
theorem CmpOK.eqr(h:CmpOK c){x y:α}(z:α)(e:c x y=0):c z x=c z y:=by
 rw[h.swap x z,h.swap y z,h.eqt x y z e]
theorem Qcm(h:CmpOK c)(k:CmpOK d):CmpOK λx y=>bif c x y != 0 then c x y else d x y:=by
 refine⟨λx y=>?_,λx y z=>?_,λx y z=>?_⟩
 .have e:=h.swap x y;by_cases q:c x y=0
  .have f:c y x=0:=by omega
   rw[q,f];exact k.swap x y
  .have f:¬c y x=0:=by omega
   rw[bne_iff_ne.2 q,bne_iff_ne.2 f];exact e
 .by_cases q:c x y=0
  .have e:=h.eqt x y z q;rw[q,e];by_cases f:c y z=0
   .rw[f];exact k.trans x y z
   .rw[bne_iff_ne.2 f];intro _ b;exact b
  .rw[bne_iff_ne.2 q];by_cases f:c y z=0
   .have e:=h.eqr x f;rw[f, <- e,bne_iff_ne.2 q];intro a _;exact a
   .rw[bne_iff_ne.2 f];intro a b;have:=h.trans x y z a b;rw[bne_iff_ne.2 (show¬c x z=0 by omega)];exact this
 .by_cases q:c x y=0
  .rw[q,h.eqt x y z q];intro e;rw[k.eqt x y z e]
  .rw[bne_iff_ne.2 q];intro e;exact absurd e q
theorem CmpOK.on{β:Type}(h:CmpOK c)(f:β->α):CmpOK λx y=>c (f x) (f y):=
 ⟨λx y=>h.swap _ _,λx y z=>h.trans _ _ _,λx y z=>h.eqt _ _ _⟩
end
theorem cmpI_ok:CmpOK cmpI:=by
 have e:∀a b,cmpI a b=if a<b then-1 else if b<a then 1 else 0:=by
  intro a b;unfold cmpI;by_cases h:a<b
  .rw[Vq h,Vp h];rfl
  .rw[Vt h,Vn h];by_cases d:b<a
   .rw[Vq d,Vp d];rfl
   .rw[Vt d,Vn d];rfl
 refine⟨λx y=>?_,λx y z=>?_,λx y z=>?_⟩
 .rw[e,e];split<;>split<;>omega
 .rw[e,e,e];omega
 .rw[e x y];intro h;have:x=y:=by
   by_cases q:x<y
   .omega
   .split at h<;>omega
  rw[this]
theorem cb_ok:CmpOK Lib.compareBytes:=by
 have l:∀x y:List UInt8,Lib.compareBytes y x= -Lib.compareBytes x y:=by
  intro x
  induction x with
  |nil=>intro y;cases y<;>simp[Lib.compareBytes]
  |cons a x e=>
   intro y;cases y with
   |nil=>simp[Lib.compareBytes]
   |cons b y=>
    unfold Lib.compareBytes;by_cases h:a<b
    .have j:¬b<a:=by rw[UInt8.lt_iff_toNat_lt]at*;omega
     rw[Vp h,Vn j,Vp h];rfl
    .rw[Vn h];by_cases g:b<a
     .rw[Vp g,Vn h,Vp g]
     .rw[Vn g,Vn g,Vn h];exact e y
 have eq:∀x y:List UInt8,Lib.compareBytes x y=0->x=y:=by
  intro x
  induction x with
  |nil=>intro y h;cases y with
   |nil=>rfl
   |cons b y=>simp[Lib.compareBytes]at h
  |cons a x e=>
   intro y h;cases y with
   |nil=>simp[Lib.compareBytes]at h
   |cons b y=>
    unfold Lib.compareBytes at h;by_cases q:a<b
    .rw[Vp q]at h;omega
    .rw[Vn q]at h;by_cases f:b<a
     .rw[Vp f]at h;omega
     .rw[Vn f]at h;have:a=b:=by
       rw[UInt8.lt_iff_toNat_lt]at q f;exact UInt8.toNat_inj.1 (by omega)
      rw[this,e y h]
 refine⟨l,?_,λx y z h=>by rw[eq x y h]⟩;intro x
 induction x with
 |nil=>
  intro y z h k;cases y with
  |nil=>simp[Lib.compareBytes]at h
  |cons b y=>cases z with
   |nil=>simp[Lib.compareBytes]at k
   |cons d z=>simp[Lib.compareBytes]
 |cons a x e=>
  intro y z h k;cases y with
  |nil=>simp[Lib.compareBytes]at h
  |cons b y=>
   cases z with
   |nil=>simp[Lib.compareBytes]at k
   |cons d z=>
    unfold Lib.compareBytes at h k⊢;simp only[UInt8.lt_iff_toNat_lt]at*;by_cases q:a.toNat<b.toNat
    .by_cases r:b.toNat<d.toNat
     .omega
     .by_cases i:d.toNat<b.toNat
      iterate 2 omega
    .rw[Vn q]at h;by_cases f:b.toNat<a.toNat
     .omega
     .rw[Vn f]at h;by_cases r:b.toNat<d.toNat
      .omega
      .rw[Vn r]at k;by_cases i:d.toNat<b.toNat
       .omega
       .rw[Vn i]at k;rw[Vn (by omega),Vn (by omega)];exact e y z h k
theorem Qm3:∀{x y:List UInt8},Lib.compareBytes x y=0->x=y
 |[],[],_=>rfl
 |[],_::_,h=>by simp[Lib.compareBytes]at h
 |_::_,[],h=>by simp[Lib.compareBytes]at h
 |a::x,b::y,h=>by
  unfold Lib.compareBytes at h;by_cases q:a<b
  .rw[Vp q]at h;omega
  .rw[Vn q]at h;by_cases q2:b<a
   .rw[Vp q2]at h;omega
   .rw[Vn q2]at h;have:a=b:=by
     rw[UInt8.lt_iff_toNat_lt]at q q2;exact UInt8.toNat_inj.1 (by omega)
    rw[this,Qm3 h]
theorem QgM:∀{l m:List Int},(∀x∈l,0<=x/\x<256)->(∀x∈m,0<=x/\x<256)->l.map Q3=m.map Q3->l=m
 |[],[],_,_,_=>rfl
 |[],_::_,_,_,h=>by simp at h
 |_::_,[],_,_,h=>by simp at h
 |x::l,y::m,h1,h2,h=>by
  simp[Vf,List.cons.injEq]at h;have a1:=h1 x (by simp);have a2:=h2 y (by simp);have e:=congrArg UInt8.toNat h.1;unfold Q3 at e;rw[UInt8.toNat_ofNat',UInt8.toNat_ofNat']at e;have:x=y:=by omega
  rw[this,QgM (λz a=>h1 z (by simp[a])) (λz a=>h2 z (by simp[a])) h.2]
theorem QfN(f g:Fact):cmpF f g=bif cmpI f.At g.At != 0 then cmpI f.At g.At else bif cmpI f.Crew g.Crew != 0 then cmpI f.Crew g.Crew else bif cmpI f.No g.No != 0 then cmpI f.No g.No else cmpB (encF f).1 (encF g).1:=by
 unfold cmpF orL orL orL orL;generalize cmpI f.At g.At=a;generalize cmpI f.Crew g.Crew=b;generalize cmpI f.No g.No=d;cases i:(a != 0)with
 |true=>simp[Vk,i]
 |false=>
  simp[Vl];cases e:(b != 0)with
  |true=>simp[Vk,e]
  |false=>
   simp[Vl];cases h:(d != 0)with
   |true=>simp[Vk,h]
   |false=>rfl
theorem QkC:CmpOK cmpF:=by
 have h:=Qcm (cmpI_ok.on λf=>f.At) (Qcm (cmpI_ok.on λf=>f.Crew) (Qcm (cmpI_ok.on λf=>f.No) (cb_ok.on λf=>(encF f).1.map Q3)));have e:=by
  funext f g;exact QfN f g
 rw[e];exact h
def wideE(e:Ent):Bool:=decide (-1125899906842624<=e.lo)&&decide (e.hi<=1125899906842624)
theorem Qlo(f:Fact):(entsS f).all wideE=true:=by
 unfold entsS;rw[List.all_append,XU];refine⟨rfl,?_⟩;rcases kinds f with k|k|k|k|k|k|k|k|k|k|k|k|k|k
 case inr.inr.inr.inr.inr.inr.inr.inr.inr.inl=>
  unfold openU;rw[k];cases((f.Ruling.Kind==1)||(f.Ruling.Kind==2))with
  |true=>rfl
  |false=>
   cases(f.Ruling.Kind==3)with
   |true=>rfl
   |false=>cases(f.Ruling.Kind==4)<;>rfl
 case inr.inr.inr.inr.inr.inr.inr.inr.inr.inr.inr.inr.inr=>rw[k];rfl
 all_goals
  unfold openU;rw[k];rfl
theorem QcE{f:Fact}(h:validS f=true):∀x∈numsS f,in63 x:=by
 unfold validS at h;rw[Qg7]at h;by_cases q:openU f=.c13 ()
 .rw[q]at h;cases h
 .rw[<- (QdE f q).2];cases a:fineU f (openU f)with
  |false=>rw[a]at h;cases h
  |true=>
   rw[a]at h;cases b:(entsS f).all (inE f (suspB f))with
   |false=>rw[b]at h;cases h
   |true=>
    intro x j;obtain⟨e,i,rfl⟩:=Xe.1 j;have d:=Xs.1 b e i;have g:=Xs.1 (Qlo f) e i;unfold inE at d;unfold wideE at g;simp[XU,Bool.not_eq_true',decide_eq_false_iff_not,Vm]at d g;unfold in63;omega
theorem QdG{f:Fact}(h:validS f=true):encF f=(listB (numsS f),0):=by
 unfold encF;rw[h,Qi7 h];rfl
theorem QeF{f g:Fact}(a:validS f=true)(hg:validS g=true)(h:cmpF f g=0):f=g:=by
 rw[QfN]at h;have z:cmpB (encF f).1 (encF g).1=0:=by
  cases j:(cmpI f.At g.At != 0)with
  |true=>rw[j]at h;exact absurd h (bne_iff_ne.1 j)
  |false=>
   rw[j]at h;cases d:(cmpI f.Crew g.Crew != 0)with
   |true=>rw[d]at h;exact absurd h (bne_iff_ne.1 d)
   |false=>
    rw[d]at h;cases i:(cmpI f.No g.No != 0)with
    |true=>rw[i]at h;exact absurd h (bne_iff_ne.1 i)
    |false=>rw[i]at h;exact h
 rw[QdG a,QdG hg]at z;have e:=QgM (QdZ _) (QdZ _) (Qm3 z);exact Qmk a hg (Qk7 (QcE a) (QcE hg) e)
set_option maxRecDepth 4000
theorem Qcz{α:Type}{R:α->α->Prop}(d:∀x,¬R x x)(i:∀x y z,R x y->R y z->R x z):∀{l m:List α},l.Pairwise R->m.Pairwise R->(∀x,x∈l↔x∈m)->l=m
 |[],[],_,_,_=>rfl
 |[],b::m,_,_,h=>by have:=(h b).2 (by simp);cases this
 |a::l,[],_,_,h=>by have:=(h a).1 (by simp);cases this
 |a::l,b::m,hl,hm,h=>by
  rw[Xc]at hl hm;have e:a=b:=by
   rcases X3.1 ((h a).1 (by simp))with e|f
   .exact e
   .rcases X3.1 ((h b).2 (by simp))with e|j
    .exact e.symm
    .exact absurd (i _ _ _ (hl.1 b j) (hm.1 a f)) (d a)
  subst e;congr 1;refine Qcz d i hl.2 hm.2 λx=>?_;constructor
  .intro g;rcases X3.1 ((h x).1 (X2 _ g))with e|f
   .subst e;exact absurd (hl.1 x g) (d x)
   .exact f
  .intro g;rcases X3.1 ((h x).2 (X2 _ g))with e|f
   .subst e;exact absurd (hm.1 x g) (d x)
   .exact f
def insC(x:Fact):List Fact->List Fact
 |[]=>[x]
 |y::r=>bif decide (cmpF y x<0)then y::insC x r else bif y==x then y::r else x::y::r
def canonS(l:List Fact):List Fact:=l.foldl (λa x=>bif validS x then insC x a else a) []
def ltF(a b:Fact):Prop:=cmpF a b<0
theorem QnX(x:Fact):¬ltF x x:=by unfold ltF;have:=QkC.refl x;omega
theorem Qjn(x y z:Fact):ltF x y->ltF y z->ltF x z:=QkC.trans x y z
theorem Qc6(x:Fact):∀(l:List Fact) (z:Fact),z∈insC x l↔z=x\/z∈l
 |[],z=>by simp[insC]
 |y::r,z=>by
  unfold insC;cases decide (cmpF y x<0)with
  |true=>
   simp[Vk,X3,Qc6 x r z];constructor
   .rintro(h|h|h)<;>simp[h]
   .rintro(h|h|h)<;>simp[h]
  |false=>
   cases h:(y==x)with
   |true=>
    have:=by simpa using h
    subst this;simp
   |false=>simp
def CanonOK(l:List Fact):Prop:=l.Pairwise ltF/\ ∀f∈l,validS f=true
theorem Qkj{x:Fact}(a:validS x=true):∀{l:List Fact},CanonOK l->CanonOK (insC x l)
 |[],_=>⟨by simp[insC],by simp[insC,a]⟩
 |y::r,h=>by
  obtain⟨h1,h2⟩:=h;rw[Xc]at h1;have hr:CanonOK r:=⟨h1.2,λf hf=>h2 f (by simp[hf])⟩;have ih:=Qkj a hr;refine⟨?_,λf hf=>?_⟩
  .unfold insC;cases q:decide (cmpF y x<0)with
   |true=>
    simp[Vk,Xc];refine⟨λz hz=>?_,ih.1⟩;rcases(Qc6 x r z).1 hz with rfl|hz
    .show cmpF y z<0;exact Vr q
    .exact h1.1 z hz
   |false=>
    simp[Vl];cases q2:(y==x)with
    |true=>simp[Vk,Xc];exact h1
    |false=>
     simp only[Vl,Xc];have lt:ltF x y:=by
      have g:=Vs q;have d:¬cmpF y x=0:=λe=>by
       have:=QeF (h2 y (by simp)) a e;rw[this]at q2;simp at q2
      have:=QkC.swap x y;unfold ltF;omega
     refine⟨λz hz=>?_,h1⟩;rcases X3.1 hz with rfl|hz
     .exact lt
     .exact Qjn _ _ _ lt (h1.1 z hz)
  .rcases(Qc6 x (y::r) f).1 hf with rfl|hf
   .exact a
   .exact h2 f hf
theorem QgL(l:List Fact):CanonOK (canonS l)/\ ∀f,f∈canonS l↔f∈l/\validS f=true:=by
 have g:∀(r a:List Fact),CanonOK a->CanonOK (r.foldl (λa x=>bif validS x then insC x a else a) a)/\ ∀f,f∈r.foldl (λa x=>bif validS x then insC x a else a) a↔f∈a\/(f∈r/\validS f=true):=by
  intro r
  induction r with
  |nil=>intro a h;exact⟨h,λf=>by simp⟩
  |cons x r i=>
   intro a h;rw[XB];cases q:validS x with
   |false=>
    obtain⟨e,d⟩:=i a h;refine⟨e,λf=>?_⟩;rw[Vl,d f,X3];constructor
    .rintro(a|⟨a,b⟩)
     .exact .inl a
     .exact .inr ⟨.inr a,b⟩
    .rintro(a|⟨rfl|a,b⟩)
     .exact .inl a
     .rw[q]at b;cases b
     .exact .inr ⟨a,b⟩
   |true=>
    obtain⟨e,d⟩:=i (insC x a) (Qkj q h);refine⟨e,λf=>?_⟩;rw[Vk,d f,Qc6,X3];constructor
    .rintro((rfl|a)|⟨a,b⟩)
     .exact .inr ⟨.inl rfl,q⟩
     .exact .inl a
     .exact .inr ⟨.inr a,b⟩
    .rintro(a|⟨rfl|a,b⟩)
     .exact .inl (.inr a)
     .exact .inl (.inl rfl)
     .exact .inr ⟨a,b⟩
 obtain⟨e,d⟩:=g l [] ⟨by simp,by simp⟩;exact⟨e,λf=>by rw[canonS,d f];simp⟩
def FirstIs(c:Course)(l:List Fact)(f:Fact):Prop:=f∈l/\okS c f=true/\ ∀g∈l,okS c g=true->g.Starter.Bib=f.Starter.Bib->¬cmpF g f<0
theorem QaA{c:Course}{f:Fact}(h:okS c f=true):validS f=true:=by
 unfold okS at h;simp[XU]at h;exact h.2.1
theorem FirstIs.one{c:Course}{l:List Fact}{f g:Fact}(a:FirstIs c l f)(hg:FirstIs c l g)(e:f.Starter.Bib=g.Starter.Bib):f=g:=by
 have h:=a.2.2 g hg.1 hg.2.1 e.symm;have d:=hg.2.2 f a.1 a.2.1 e;have:=QkC.swap f g;exact QeF (QaA a.2.1) (QaA hg.2.1) (by omega)
theorem Qow{c:Course}{l m:List Fact}(h:∀f,validS f=true->(f∈l↔f∈m)){f:Fact}:FirstIs c l f↔FirstIs c m f:=by
 constructor
 .rintro⟨a,b,d⟩;exact⟨(h f (QaA b)).1 a,b,λg j e i=>d g ((h g (QaA e)).2 j) e i⟩
 .rintro⟨a,b,d⟩;exact⟨(h f (QaA b)).2 a,b,λg j e i=>d g ((h g (QaA e)).1 j) e i⟩
set_option maxRecDepth 4000
def nb(v lo hi:Int):Bool:= !(decide (v<lo))&& !(decide (hi<v))
theorem Qa0(v lo hi:Int):nb v lo hi=true↔lo<=v/\v<=hi:=by
 unfold nb;simp only[XU,Bool.not_eq_true',decide_eq_false_iff_not];omega
def contR(f:Fact):Bool:=
 bif f.Kind==1 then true&&(nb f.Starter.Bib 1 9999&&(nb f.Starter.Distance 0 7&&(nb f.Starter.Wave 0 31&&(nb f.Starter.Slot (-1099511627776) 1099511627776&&(nb f.Starter.Age 0 120&&(nb f.Starter.Chip 0 1048576&&(nb f.Starter.Team 0 9999&&(nb f.Starter.Lot 0 1048576&&true))))))))
 else bif f.Kind==2 then true&&(nb f.Read.Mat 0 39&&(nb f.Read.Epoch 0 255&&(nb f.Read.Chip 0 1048576&&(nb f.Read.Local (-1099511627776) 1099511627776&&true))))
 else bif f.Kind==3 then true&&(nb f.Beacon.Mat 0 39&&(nb f.Beacon.Epoch 0 255&&(nb f.Beacon.Local (-1099511627776) 1099511627776&&(nb f.Beacon.True (-1099511627776) 1099511627776&&(nb f.Beacon.Err 0 1099511627776&&true)))))
 else bif f.Kind==4 then decide (f.Sync.Min<=f.Sync.Max)&&(nb f.Sync.MatA 0 39&&(nb f.Sync.EpochA 0 255&&(nb f.Sync.LocalA (-1099511627776) 1099511627776&&(nb f.Sync.MatB 0 39&&(nb f.Sync.EpochB 0 255&&(nb f.Sync.LocalB (-1099511627776) 1099511627776&&(nb f.Sync.Min (-1099511627776) 1099511627776&&(nb f.Sync.Max (-1099511627776) 1099511627776&&true))))))))
 else bif f.Kind==5 then decide (f.Hand.Lo<=f.Hand.Hi)&&(nb f.Hand.Bib 1 9999&&(nb f.Hand.Position 0 255&&(nb f.Hand.Lo (-1099511627776) 1099511627776&&(nb f.Hand.Hi (-1099511627776) 1099511627776&&true))))
 else bif f.Kind==6 then decide (f.Silence.Lo<=f.Silence.Hi)&&(nb f.Silence.Mat 0 39&&(nb f.Silence.Epoch 0 255&&(nb f.Silence.Lo (-1099511627776) 1099511627776&&(nb f.Silence.Hi (-1099511627776) 1099511627776&&true))))
 else bif f.Kind==7 then decide (f.Pair.A<f.Pair.B)&&(nb f.Pair.A 1 9999&&(nb f.Pair.B 1 9999&&true))
 else bif f.Kind==8 then true&&(nb f.Report.Case 1 1048576&&(nb f.Report.Bib 1 9999&&(nb f.Report.Offence 0 31&&(nb f.Report.Position 0 255&&true))))
 else bif f.Kind==9 then true&&(nb f.Protest.Case 1 1048576&&(nb f.Protest.By 0 9999&&(nb f.Protest.Fee 0 1125899906842624&&(nb f.Protest.Form 0 1&&true))))
 else bif f.Kind==10 then true&&(nb f.Ruling.Case 1 1048576&&(nb f.Ruling.Instance 1 2&&(nb f.Ruling.Kind 1 5&&(bif (f.Ruling.Kind==1)||(f.Ruling.Kind==2)then nb f.Ruling.Bib 0 0&&(nb f.Ruling.Position 0 0&&(nb f.Ruling.Amount 0 0&&true))else bif f.Ruling.Kind==3 then nb f.Ruling.Bib 1 9999&&(nb f.Ruling.Position 0 255&&(nb f.Ruling.Amount 1 1099511627776&&true))else bif f.Ruling.Kind==4 then nb f.Ruling.Bib 1 9999&&(nb f.Ruling.Position 0 255&&(nb f.Ruling.Amount 1 64&&true))else nb f.Ruling.Bib 1 9999&&(nb f.Ruling.Position 0 255&&(nb f.Ruling.Amount 0 0&&true))))))
 else bif f.Kind==11 then true&&(nb f.Appeal.Case 1 1048576&&(nb (suspB f) 0 1&&true))
 else bif f.Kind==12 then true&&true
 else bif f.Kind==13 then true&&(nb f.Void.Crew 0 31&&(nb f.Void.No 1 1048576&&true))
 else false
theorem Qhe(f:Fact):(f.Kind=1\/f.Kind=2\/f.Kind=3\/f.Kind=4\/f.Kind=5\/f.Kind=6\/f.Kind=7\/f.Kind=8\/f.Kind=9\/f.Kind=10\/f.Kind=11\/f.Kind=12\/f.Kind=13)\/((f.Kind==1)=false/\(f.Kind==2)=false/\(f.Kind==3)=false/\(f.Kind==4)=false/\(f.Kind==5)=false/\(f.Kind==6)=false/\(f.Kind==7)=false/\(f.Kind==8)=false/\(f.Kind==9)=false/\(f.Kind==10)=false/\(f.Kind==11)=false/\(f.Kind==12)=false/\(f.Kind==13)=false):=by
 by_cases h:1<=f.Kind/\f.Kind<=13
 .omega
 .simp[Vv];omega
theorem QiN(f:Fact):contS f=contR f:=by
 rcases Qhe f with k|⟨r,q,s,w,u,x,y,t,z,h,j,l,i⟩
 .rcases k with k|k|k|k|k|k|k|k|k|k|k|k|k
  case inr.inr.inr.inr.inr.inr.inr.inr.inr.inl=>
   obtain⟨Cr,No,At,Ki,S,R,B,Sy,Ha,Si,Pa,Re,Pr,⟨n,p,a,e,d,g⟩,Ap,Vo⟩:=f;simp only at k;subst k;have m:openU ⟨Cr,No,At,10,S,R,B,Sy,Ha,Si,Pa,Re,Pr,⟨n,p,a,e,d,g⟩,Ap,Vo⟩=(bif (a==1)||(a==2)then U_facts_open_rxk.c9 (0,0,0,0,0,0)else bif a==3 then .c9 (1,9999,0,255,1,1099511627776)else bif a==4 then .c9 (1,9999,0,255,1,64)else .c9 (1,9999,0,255,0,0)):=rfl;have E:contR ⟨Cr,No,At,10,S,R,B,Sy,Ha,Si,Pa,Re,Pr,⟨n,p,a,e,d,g⟩,Ap,Vo⟩=(true&&(nb n 1 1048576&&(nb p 1 2&&(nb a 1 5&&(bif (a==1)||(a==2)then nb e 0 0&&(nb d 0 0&&(nb g 0 0&&true))else bif a==3 then nb e 1 9999&&(nb d 0 255&&(nb g 1 1099511627776&&true))else bif a==4 then nb e 1 9999&&(nb d 0 255&&(nb g 1 64&&true))else nb e 1 9999&&(nb d 0 255&&(nb g 0 0&&true))))))):=rfl;rw[E];unfold contS;rw[m];cases((a==1)||(a==2))with
   |true=>rfl
   |false=>
    cases(a==3)with
    |true=>rfl
    |false=>cases(a==4)<;>rfl
  all_goals
   obtain⟨Cr,No,At,Ki,S,R,B,Sy,Ha,Si,Pa,Re,Pr,Ru,Ap,Vo⟩:=f;simp only at k;subst k;rfl
 .have m:openU f=.c13 ():=by unfold openU;rw[r,q,s,w,u,x,y,t,z,h,j,l,i];rfl
  unfold contS contR;rw[m,r,q,s,w,u,x,y,t,z,h,j,l,i];rfl
theorem Y7(n:Nat)(v a b:Int):F_b n v a b=some (nb v a b):=by
 unfold F_b nb;have d:decide (a<=v)= !decide (v<a):=by rw[XV];simp
 have e:decide (v<=b)= !decide (b<v):=by rw[XV];simp
 rw[d,e];cases decide (v<a)<;>rfl
theorem Qgd(a:Bool)(b:Option Bool)(c:Bool)(h:b=some c):(bif a then b else some false)=some (a&&c):=by
 subst h;cases a<;>rfl
theorem QbN(n:Nat)(v:Int):F_e n v=some (nb v 1 9999):=by unfold F_e;rw[Y7];rfl
theorem Qg3(n:Nat)(v:Int):F_t n v=some (nb v 0 39):=by unfold F_t;rw[Y7];rfl
theorem QcZ(n:Nat)(v:Int):F_z n v=some (nb v 0 255):=by unfold F_z;rw[Y7];rfl
theorem Qb3(n:Nat)(v:Int):F_bn n v=some (nb v 0 1048576):=by unfold F_bn;rw[Y7];rfl
theorem JA(n:Nat)(v:Int):F_y n v=some (nb v 0 255):=by unfold F_y;rw[Y7];rfl
theorem Qet(n:Nat)(v:Int):F_ap n v=some (nb v 1 1048576):=by unfold F_ap;rw[Y7];rfl
theorem Qgq(n:Nat)(v:Int):F_ar n v=some (nb v 1 1048576):=by unfold F_ar;rw[Y7];rfl
theorem Qj8(n:Nat)(v:Int):F_al n v=some (nb v 0 31):=by unfold F_al;rw[Y7];rfl
theorem Qb2(n:Nat)(v:Int):F_d n v=some (nb v (-1099511627776) 1099511627776):=by unfold F_d;rw[Y7];rfl
theorem Qjg(n:Nat)(f:Fact):F_bw n f=some (contR f):=by
 unfold F_bw contR;cases(f.Kind==1)with
 |true=>
  unfold F_fi;simp only[QbN,Qb2,Qb3,Y7,XH,Vk,Qgd _ _ _ rfl,Option.some.injEq,Vw,Bool.and_true]
 |false=>
 cases(f.Kind==2)with
 |true=>simp only[Qg3,QcZ,Qb2,Qb3,Y7,XH,Vk,Vl,Qgd _ _ _ rfl,Option.some.injEq,Vw,Bool.and_true]
 |false=>
 cases(f.Kind==3)with
 |true=>simp only[Qg3,QcZ,Qb2,Qb3,Y7,XH,Vk,Vl,Qgd _ _ _ rfl,Option.some.injEq,Vw,Bool.and_true]
 |false=>
 cases(f.Kind==4)with
 |true=>
  unfold F_es;simp only[Qg3,QcZ,Qb2,Qb3,Y7,XH,Vk,Vl,Qgd _ _ _ rfl,Option.some.injEq,Vw,Bool.and_true];rw[XV];simp only[XU,Qa0,Vm];omega
 |false=>
 cases(f.Kind==5)with
 |true=>
  simp only[QbN,JA,Qb2,Qb3,Y7,XH,Vk,Vl,Qgd _ _ _ rfl,Option.some.injEq,Vw,Bool.and_true];rw[XV];simp only[XU,Qa0,Vm];omega
 |false=>
 cases(f.Kind==6)with
 |true=>
  simp only[Qg3,QcZ,Qb2,Qb3,Y7,XH,Vk,Vl,Qgd _ _ _ rfl,Option.some.injEq,Vw,Bool.and_true];rw[XV];simp only[XU,Qa0,Vm];omega
 |false=>
 cases(f.Kind==7)with
 |true=>
  simp only[QbN,Y7,XH,Vk,Vl,Qgd _ _ _ rfl,Option.some.injEq,Vw,Bool.and_true];rw[XV];simp only[XU,Qa0,Vm];omega
 |false=>
 cases(f.Kind==8)with
 |true=>simp only[QbN,Qet,JA,Y7,XH,Vk,Vl,Qgd _ _ _ rfl,Option.some.injEq,Vw,Bool.and_true]
 |false=>
 cases(f.Kind==9)with
 |true=>simp only[QbN,Qet,JA,Y7,XH,Vk,Vl,Qgd _ _ _ rfl,Option.some.injEq,Vw,Bool.and_true]
 |false=>
 cases(f.Kind==10)with
 |true=>
  unfold F_ga;simp only[Qet,Y7,XH,Vk,Vl,Vw];have a:∀v:Int,(v==0)=nb v 0 0:=by intro v;rw[XV,Qa0,Vu];omega
  cases nb f.Ruling.Case 1 1048576 with
  |false=>rfl
  |true=>
   cases nb f.Ruling.Instance 1 2 with
   |false=>rfl
   |true=>
    simp only[Xg,Vl,XH,Vw];by_cases d:f.Ruling.Kind=1
    .rw[d];simp only[a];cases nb f.Ruling.Bib 0 0 with
     |false=>rfl
     |true=>cases nb f.Ruling.Position 0 0 with
      |false=>rfl
      |true=>cases nb f.Ruling.Amount 0 0<;>rfl
    by_cases h:f.Ruling.Kind=2
    .rw[h];simp only[a];cases nb f.Ruling.Bib 0 0 with
     |false=>rfl
     |true=>cases nb f.Ruling.Position 0 0 with
      |false=>rfl
      |true=>cases nb f.Ruling.Amount 0 0<;>rfl
    by_cases g:f.Ruling.Kind=3
    .rw[g];simp only[a,QbN,JA,Y7,XH];cases nb f.Ruling.Bib 1 9999 with
     |false=>rfl
     |true=>cases nb f.Ruling.Position 0 255 with
      |false=>rfl
      |true=>cases nb f.Ruling.Amount 1 1099511627776<;>rfl
    by_cases i:f.Ruling.Kind=4
    .rw[i];simp only[a,QbN,JA,Y7,XH];cases nb f.Ruling.Bib 1 9999 with
     |false=>rfl
     |true=>cases nb f.Ruling.Position 0 255 with
      |false=>rfl
      |true=>cases nb f.Ruling.Amount 1 64<;>rfl
    by_cases j:f.Ruling.Kind=5
    .rw[j];simp only[a,QbN,JA,Y7,XH];cases nb f.Ruling.Bib 1 9999 with
     |false=>rfl
     |true=>cases nb f.Ruling.Position 0 255 with
      |false=>rfl
      |true=>cases nb f.Ruling.Amount 0 0<;>rfl
    have e:nb f.Ruling.Kind 1 5=false:=by
     rw[VI,ne_eq,Qa0];omega
    rw[e,Vv.2 d,Vv.2 h,Vv.2 g,Vv.2 i,Vv.2 j];rfl
 |false=>
 cases(f.Kind==11)with
 |true=>
  have e:nb (suspB f) 0 1=true:=by unfold suspB;cases f.Appeal.Suspends<;>rfl
  simp only[Qet,XH,Vk,Vl,e,Vw,Bool.and_true]
 |false=>
 cases(f.Kind==12)with
 |true=>rfl
 |false=>
 cases(f.Kind==13)with
 |true=>simp only[Qj8,Qgq,Y7,XH,Vk,Vl,Qgd _ _ _ rfl,Option.some.injEq,Vw,Bool.and_true]
 |false=>rfl
theorem QnQ(n:Nat)(f:Fact):F_cl n f=some (onlyS f):=by
 rcases Qhe f with k|⟨l,j,p,g,r,h,s,q,i,a,e,m,d⟩
 .rcases k with k|k|k|k|k|k|k|k|k|k|k|k|k
  all_goals
   obtain⟨Cr,No,At,Ki,S,R,B,Sy,Ha,Si,Pa,Re,Pr,Ru,Ap,Vo⟩:=f;subst k;rfl
 .unfold F_cl onlyS;rw[l,j,p,g,r,h,s,q,i,a,e,d];rfl
theorem QjJ{f:Fact}(h:contR f=true):nb f.Kind 1 13=true:=by
 rw[Qa0];rcases Qhe f with k|⟨n,m,p,i,r,j,s,q,l,a,g,d,e⟩
 .omega
 .unfold contR at h;rw[n,m,p,i,r,j,s,q,l,a,g,d,e]at h;cases h
theorem Qmy(f:Fact):headS f=(nb f.Kind 1 13&&(nb f.Crew 0 31&&(nb f.No 1 1048576&&(nb f.At 0 1099511627776&&true)))):=rfl
theorem Qh3(n:Nat)(f:Fact):F_bl n f=some (bif validS f then 0 else 120):=by
 unfold F_bl;rw[Qj8,Qgq,Y7,Qjg,QnQ,Qb1,QiN,Qmy];simp[XH];have a:= @QjJ f;have e:(f != onlyS f)= !(onlyS f==f):=by
  rw[bne,Bool.beq_comm]
 rw[e];cases d:contR f with
 |false=>
  rw[Bool.and_false,Bool.false_and];cases nb f.Crew 0 31 with
  |false=>rfl
  |true=>cases nb f.No 1 1048576 with
   |false=>rfl
   |true=>cases nb f.At 0 1099511627776<;>rfl
 |true=>
  rw[a d];cases nb f.Crew 0 31 with
  |false=>rfl
  |true=>cases nb f.No 1 1048576 with
   |false=>rfl
   |true=>cases nb f.At 0 1099511627776 with
    |false=>rfl
    |true=>cases(onlyS f==f)<;>rfl
theorem QnR(n:Nat)(f:Fact):F_dt n f=some (numsS f):=by
 unfold F_dt numsS;cases(f.Kind==1)with
 |true=>rfl
 |false=>
 cases(f.Kind==2)with
 |true=>rfl
 |false=>
 cases(f.Kind==3)with
 |true=>rfl
 |false=>
 cases(f.Kind==4)with
 |true=>rfl
 |false=>
 cases(f.Kind==5)with
 |true=>rfl
 |false=>
 cases(f.Kind==6)with
 |true=>rfl
 |false=>
 cases(f.Kind==7)with
 |true=>rfl
 |false=>
 cases(f.Kind==8)with
 |true=>rfl
 |false=>
 cases(f.Kind==9)with
 |true=>rfl
 |false=>
 cases(f.Kind==10)with
 |true=>rfl
 |false=>
 cases(f.Kind==11)with
 |true=>
  unfold suspB;cases f.Appeal.Suspends<;>rfl
 |false=>
 cases(f.Kind==13)with
 |true=>rfl
 |false=>rfl
theorem Qjw(l:List Int)(j:l.length<=1000):Ev (λn=>F_fx n l) (l.map mkV):=by
 refine Ea ?_ (Qa _);have e:∀(m:List Int) (a:List Value),m.foldl (λa x=>a++[mkV x]) a=a++m.map mkV:=by
  intro m
  induction m with
  |nil=>simp
  |cons x m f=>intro a;simp only[XB];rw[f];simp
 refine Et (Y0 l (λa x=>a++[mkV x]) [] (λa i=>(a,(i:Int))) (λa=>a) (by omega) rfl (λi x a d h=>?_) ?_) (by rw[e];rfl)
 .unfold F_ju F_fj;simp only[d.lt,d.ix,XH,d.nx];have g:a.length<=1000:=by rw[h,e,Vd,XY,Xw];omega
  rw[Qbs _ _ (by omega)];exact Qa _
 .unfold F_ju;simp[Jk];exact Qa _
theorem Qh2(n:Nat)(x:Int)(h:in63 x):F_ct n x=some (zigI x):=by
 obtain⟨d,a⟩:=h;unfold F_ct;simp only[Qbg];by_cases p:0<=x
 .rw[QZ p,Qeo p a];simp[Vk,Option.some.injEq];omega
 .rw[QV p,Qep (by omega) d,QH (show-9223372036854775808<=x+1 by omega) (by omega),QH (show-9223372036854775808<=0-(x+1)by omega) (by omega)];simp[Vl,Option.some.injEq];omega
theorem Qf8:∀(k v:Nat),v<128^(k+1)->k<=9->v<18446744073709551616->Ev (λn=>F_h n (v:Int)) (numN v):=by
 intro k
 induction k with
 |zero=>
  intro v e _ _;refine QU ?_;show Ev (λn=>B_h (F_h n) n v) _;unfold B_h;rw[QZ (show(v:Int)<128 by omega),Jt (by omega)];exact Qa _
 |succ k f=>
  intro v e j h;refine QU ?_;show Ev (λn=>B_h (F_h n) n v) _;unfold B_h;by_cases q:v<128
  .rw[QZ (show(v:Int)<128 by omega),Jt (by omega)];exact Qa _
  .rw[QV (show¬(v:Int)<128 by omega)];have d:v/128<128^(k+1):=by rw[Nat.div_lt_iff_lt_mul (by decide)];exact e
   have g:u64.wrap (Int.tdiv v 128)=v/128:=by
    rw[Qbg,Int.tdiv_eq_ediv_of_nonneg (by omega)];omega
   have i:u8.wrap (u64.wrap ((Int.tmod v 128)+128))=v%128+128:=by
    rw[QgT,Qbg,Int.tmod_eq_emod_of_nonneg (by omega)];omega
   rw[g,i,Qb6 v,Vp (show 128<=v by omega)];refine Ea (f (v/128) d (by omega) (by omega)) ?_;have a:=Qh9 k (v/128) d;rw[Qcd _ _ (by simp;omega)];exact Qa _
theorem QgD(v:Nat)(h:v<18446744073709551616):Ev (λn=>F_h n (v:Int)) (numN v):=Qf8 9 v (Vb h (by decide)) (XR _) h
theorem Qjy(x:Int)(h:in63 x):Ev (λn=>F_l n (mkV x)) (oneB x):=by
 refine QU ?_;show Ev (λn=>B_l (F_l n) n (mkV x)) _;unfold B_l;have e:((mkV x).Kind==1)=true:=rfl;obtain⟨z,d,a⟩:=QeN x;refine Ea (Ey (Qh2 0 x h)) ?_;rw[d];refine Ea (QgD z a) ?_;have:=Qbk a;rw[Qcd _ _ (by simp;omega)];refine(Qa _).eq ?_;unfold oneB;rw[d];simp
theorem Qjx(l:List Int)(E:l.length<=1000)(h:∀x∈l,in63 x):Ev (λn=>F_l n (listV l)) (listB l):=by
 refine QU ?_;show Ev (λn=>B_l (F_l n) n (listV l)) _;unfold B_l;have e:((listV l).Kind==1)=false:=rfl;have B:((listV l).Kind==2)=false:=rfl;have w:(listV l).L=l.map mkV:=rfl;rw[e,B,w];have s:u64.wrap (((l.map mkV).length:Int))=((l.length:Nat):Int):=by
  rw[Qbg,XY];omega
 rw[s];refine Ea (QgD l.length (by omega)) ?_;have z:=Qbk (show l.length<18446744073709551616 by omega);rw[Qcd _ _ (by simp;omega)];refine Ea (Qa _) ?_;refine Ea ?_ (Qa _);have f:∀(m:List Int) (a:List Int),((m.map mkV).foldl (λa (v:Value)=>a++oneB v.N) a).length<=a.length+11*m.length:=by
  intro m
  induction m with
  |nil=>intro a;simp
  |cons x m p=>
   intro a;simp only[Vf,XB,XX];have r:=p (a++oneB (mkV x).N);have g:=Qe8 (mkV x).N;rw[XZ]at r;omega
 have k:=Y0 (step:=λn=>F_js n (listV l) (F_l n)) (l.map mkV) (λa (v:Value)=>a++oneB v.N) ([3]++numN l.length) (λa i=>(a,(i:Int))) (λa=>a) (by rw[XY];omega) rfl (λi x a j u=>?_) ?_
 .refine Et k ?_;have:∀(m:List Int) (a:List Int),(m.map mkV).foldl (λa (v:Value)=>a++oneB v.N) a=a++(m.map oneB).flatten:=by
   intro m
   induction m with
   |nil=>intro a;simp
   |cons x m p=>intro a;simp only[Vf,XB];rw[p];simp[mkV]
  rw[this];rfl
 .obtain⟨y,t,rfl⟩:=Xe.1 j.mem;have hal:=by
   have g:=f (l.take i) ([3]++numN l.length);rw[List.map_take, <- u,XZ,Xw]at g;simp at g;omega
  unfold F_js;have d:decide ((i:Int)<((listV l).L.length:Int))=true:=j.lt;have q:idx (listV l).L (i:Int)=some (mkV y):=j.ix;simp only[d,Vk,q,XH,j.nx];refine Ea (Qjy y (h y t)) ?_;have g:=Qe8 y;have:app a (oneB y)=some (a++oneB y):=by
   unfold app;have:Nat.ble (a.length+(oneB y).length) Yk=true:=XQ (XT (show _<=1000000 by omega) (by decide));rw[this];rfl
  rw[this];exact Qa _
 .unfold F_js;have d:decide (((l.map mkV).length:Int)<((listV l).L.length:Int))=false:=Jk _;simp only[d];exact Qa _
theorem Qf9(x:Int):Ev (λn=>F_ai n (mkV x)) true:=by
 refine QU ?_;exact Qa _
theorem Qhn(l:List Int)(h:l.length<=1000):Ev (λn=>F_ai n (listV l)) true:=by
 refine QU ?_;show Ev (λn=>B_ai (F_ai n) n (listV l)) _;unfold B_ai;have j:((listV l).Kind==1)=false:=rfl;have m:((listV l).Kind==2)=false:=rfl;have k:((listV l).Kind==3)=true:=rfl;refine Ea (v:=Ctl.cont ()) (Ev.iter (λi=>(i:Int)) (l.map mkV).length rfl (λi g=>?_) ?_) (Qa _)
 .have e:=Jl (show(l.map mkV).length<=4611686018427387904 by rw[XY];omega) (XI g);obtain⟨y,f⟩:∃y,(l.map mkV)[i]=mkV y:=by rw[List.getElem_map];exact⟨_,rfl⟩
  unfold F_jx;have a:decide (i<((listV l).L.length:Int))=true:=e.lt;have d:idx (listV l).L i=some (l.map mkV)[i]:=e.ix;simp only[a,d,XH,e.nx];rw[f];exact Ea (Qf9 y) (Qa _)
 .unfold F_jx;have a:decide ((l.map mkV).length<((listV l).L.length:Int))=false:=Jk _;simp only[a];exact Qa _
theorem Qhq(x:Int):Ev (λn=>F_aj n (mkV x)) 0:=by
 refine QU ?_;exact Qa _
theorem Qhp(l:List Int)(h:l.length<=1000):Ev (λn=>F_aj n (listV l)) 1:=by
 refine QU ?_;show Ev (λn=>B_aj (F_aj n) n (listV l)) _;unfold B_aj;have j:((listV l).Kind != 3)=false:=rfl;refine Ea (v:=0) (Ev.iter (λi=>(0,(i:Int))) (l.map mkV).length rfl (λi g=>?_) ?_) (Qa _)
 .have e:=Jl (show(l.map mkV).length<=4611686018427387904 by rw[XY];omega) (XI g);obtain⟨y,f⟩:∃y,(l.map mkV)[i]=mkV y:=by rw[List.getElem_map];exact⟨_,rfl⟩
  unfold F_ki;have a:decide ((i:Int)<(listV l).L.length)=true:=e.lt;have d:idx (listV l).L i=some (l.map mkV)[i]:=e.ix;simp only[a,d,XH,e.nx];rw[f];exact Ea (Qhq y) (Qa _)
 .unfold F_ki;have a:decide ((l.map mkV).length<((listV l).L.length:Int))=false:=Jk _;simp only[a];exact Qa _
theorem Qmj(f:Fact):(numsS f).length<=12:=by
 unfold numsS;cases(f.Kind==1)with
 |true=>exact XP rfl
 |false=>
 cases(f.Kind==2)with
 |true=>exact XP rfl
 |false=>
 cases(f.Kind==3)with
 |true=>exact XP rfl
 |false=>
 cases(f.Kind==4)with
 |true=>exact XP rfl
 |false=>
 cases(f.Kind==5)with
 |true=>exact XP rfl
 |false=>
 cases(f.Kind==6)with
 |true=>exact XP rfl
 |false=>
 cases(f.Kind==7)with
 |true=>exact XP rfl
 |false=>
 cases(f.Kind==8)with
 |true=>exact XP rfl
 |false=>
 cases(f.Kind==9)with
 |true=>exact XP rfl
 |false=>
 cases(f.Kind==10)with
 |true=>exact XP rfl
 |false=>
 cases(f.Kind==11)with
 |true=>exact XP rfl
 |false=>cases(f.Kind==13)<;>exact XP rfl
theorem Qda(f:Fact):Ev (λn=>F_bu n f) (encF f):=by
 refine Ea (Qbf (Qa _) λn=>Qh3 n f) ?_;cases a:validS f with
 |false=>
  unfold encF;rw[a];exact Qa _
 |true=>
  rw[QdG a];refine Ea (Qbf (Qa _) λn=>QnR n f) ?_;have d:=Qmj f;refine Ea (Qjw _ (by omega)) (Ea (v:=(listB (numsS f),0)) ?_ (Qa _));exact Ea (Ea (Qhn _ (by omega)) (Ea (Qhp _ (by omega)) (Qa _))) (Ea (Qjx _ (by omega) (QcE a)) (Qa _))
theorem Qkf:∀a b:List UInt8,Op.bytesLess a b=decide (Lib.compareBytes a b<0)
 |[],[]=>rfl
 |[],_::_=>rfl
 |_::_,[]=>rfl
 |a::x,b::y=>by
  unfold Op.bytesLess Lib.compareBytes;by_cases h:a<b
  .rw[Vp h,QZ h];rfl
  .rw[Vn h,QV h];by_cases h2:b<a
   .rw[Vp h2];have:(a==b)=false:=by
     rw[Vv];rintro rfl;exact h h2
    rw[this];rfl
   .rw[Vn h2];have:a=b:=by
     rw[UInt8.lt_iff_toNat_lt]at h h2;exact UInt8.toNat_inj.1 (by omega)
    rw[this,beq_self_eq_true,Qkf x y];rfl
theorem QiP:∀a b:List UInt8,Lib.compareBytes a b= -1\/Lib.compareBytes a b=0\/Lib.compareBytes a b=1
 |[],[]=>.inr (.inl rfl)
 |[],_::_=>.inl rfl
 |_::_,[]=>.inr (.inr rfl)
 |a::x,b::y=>by
  unfold Lib.compareBytes;split
  .exact .inl rfl
  .split
   .exact .inr (.inr rfl)
   .exact QiP x y
theorem Qct(f g:Fact):Ev (λn=>F_dq n f g) (cmpF f g):=by
 refine QU (QU (QU (QU ?_)));unfold F_dq;rw[QfN];have d:∀n,F_fu n f g 0=(bif decide (f.At<g.At)then some (.done (.done (-1)))else bif decide (g.At<f.At)then some (.done (.done 1))else some (.cont 1)):=λn=>rfl;have j:∀n,F_fu n f g 1=(bif decide (f.Crew<g.Crew)then some (.done (.done (-1)))else bif decide (g.Crew<f.Crew)then some (.done (.done 1))else some (.cont 2)):=λn=>rfl;have i:∀n,F_fu n f g 2=(bif decide (f.No<g.No)then some (.done (.done (-1)))else bif decide (g.No<f.No)then some (.done (.done 1))else some (.cont 3)):=λn=>rfl;have a:∀n,F_fu n f g 3=some (.done (.cont ())):=λn=>rfl;simp[iter,d];unfold cmpI;cases decide (f.At<g.At)with
 |true=>exact Qa _
 |false=>
 cases decide (g.At<f.At)with
 |true=>exact Qa _
 |false=>
 simp[Vl,j];cases decide (f.Crew<g.Crew)with
 |true=>exact Qa _
 |false=>
 cases decide (g.Crew<f.Crew)with
 |true=>exact Qa _
 |false=>
 simp[Vl,i];cases decide (f.No<g.No)with
 |true=>exact Qa _
 |false=>
 cases decide (g.No<f.No)with
 |true=>exact Qa _
 |false=>
 simp[Vl,a,XH];refine Ea (Ev.shift (Ev.shift (Ev.shift (Ev.shift (Qda f))))) (Ea (Ev.shift (Ev.shift (Ev.shift (Ev.shift (Qda g))))) ?_);unfold cmpB;rw[Qkf];rcases QiP ((encF f).1.map Q3) ((encF g).1.map Q3)with h|h|h
 .rw[h];exact Qa _
 .have e:=Qm3 h;rw[h,e,beq_self_eq_true];exact Qa _
 .have:((encF f).1.map Q3==(encF g).1.map Q3)=false:=by
   rw[Vv];intro e;rw[e,cb_ok.refl]at h;cases h
  rw[h,this];exact Qa _
def leadC(x:Fact):List Fact->Nat
 |[]=>0
 |y::r=>bif decide (cmpF y x<0)then leadC x r+1 else 0
theorem Qif(x:Fact):∀l:List Fact,leadC x l<=l.length
 |[]=>XR _
 |y::r=>by
  unfold leadC;have:=Qif x r;cases decide (cmpF y x<0)<;>simp<;>omega
theorem Qgw(x:Fact):∀l:List Fact,insC x l=if l[leadC x l]?=some x then l else l.take (leadC x l)++x::l.drop (leadC x l)
 |[]=>by simp[insC]
 |y::r=>by
  unfold insC leadC;cases decide (cmpF y x<0)with
  |true=>
   simp only[Vk];rw[Qgw x r];simp[XD,List.drop_succ_cons];split<;>simp
  |false=>
   by_cases e:y=x
   .simp
   .rw[Vv.2 e];simp[e]
theorem Qoe(l:List Fact)(p:l.length<=1048576)(a:List Fact)(s:a.length<=1048576){i:Nat}{x:Fact}(h:At l i x):
  Ev (λn=>iter (F_dh n l (a,(i:Int))) n 0) ((leadC x a:Nat):Int):=by
 have loop:∀(r:List Fact) (j:Nat),a.drop j=r->j<=a.length->EvI (λn=>F_dh n l (a,i)) j (j+leadC x r):=by
  intro r
  induction r with
  |nil=>
   intro j f g;refine Eh ?_;unfold F_dh;simp only[Q5 f g,Vl];exact Qa _
  |cons y r k=>
   intro j f g;obtain⟨d,e⟩:=QC (by omega) f;have m:=d.lt';unfold leadC;cases q:decide (cmpF y x<0)with
   |true=>
    refine Eu ?_ ((k (j+1) e (by omega)).eq (by simp[Vk];omega));unfold F_dh;simp only[d.lt,d.ix,h.ix,XH,d.nx];refine Ea (Ea (Qct y x) ((Qa _).eq q)) (Qa _)
   |false=>
    refine Eh ?_;unfold F_dh;simp only[d.lt,d.ix,h.ix,XH];refine Ea (Ea (Qct y x) ((Qa _).eq q)) (Qa _)
 have:=(loop a 0 rfl (XS _)).ev;simpa using this
theorem Qfh(x:Fact):∀l:List Fact,(insC x l).length<=l.length+1
 |[]=>by simp[insC]
 |y::r=>by
  unfold insC;have:=Qfh x r;cases decide (cmpF y x<0)with
  |true=>simp[Vk,XX];omega
  |false=>cases(y==x)<;>simp
theorem Qbt{α:Type}(l m:List α)(h:l.length+m.length<=4000000):app l m=some (l++m):=by
 unfold app;have:Nat.ble (l.length+m.length) Yk=true:=XQ (XT h (by decide));rw[this];rfl
theorem QiD(l:List Fact)(r:l.length<=1048575):Ev (λn=>F_fa n l) (canonS l):=by
 refine Ea (v:=canonS l) ?_ (Qa _);refine Y0 l (λa x=>bif validS x then insC x a else a) [] (λa i=>(a,(i:Int))) (λa=>a) (by omega) rfl (λi x a e j=>?_) ?_
 .have g:a.length<=i:=by
   have:∀(m:List Fact) (a:List Fact),(m.foldl (λa x=>bif validS x then insC x a else a) a).length<=a.length+m.length:=by
    intro m
    induction m with
    |nil=>intro a;simp
    |cons x m h=>
     intro a;rw[XB,XX];have p:=h (bif validS x then insC x a else a);have f:(bif validS x then insC x a else a).length<=a.length+1:=by
      cases validS x with
      |true=>exact Qfh x a
      |false=>simp
     omega
   have f:=this (l.take i) [];rw[<- j,Xw]at f;simp at f;omega
  have k:=e.lt';unfold F_kf;simp only[e.lt,Vk,e.ix,XH,e.nx,Qh3];refine Ea ?_ (Qa _);cases s:validS x with
  |false=>exact Qa _
  |true=>
   refine Ea (Qoe l (by omega) a (by omega) e) ?_;have d:=Qif x a;refine Ea (v:=decide (a[leadC x a]?=some x)) ?_ ?_
   .by_cases q:leadC x a<a.length
    .have hg:=XI q;rw[QZ (show((leadC x a:Nat):Int)<(a.length:Int)by omega),Ym hg,hg];refine(Qa _).eq ?_;rw[XV];simp
    .rw[QV (show¬((leadC x a:Nat):Int)<(a.length:Int)by omega)];refine(Qa _).eq ?_;rw[XM (by omega)];simp
   .rw[Qgw x a];by_cases q:a[leadC x a]?=some x
    .rw[QZ q,Vp q];exact Qa _
    .rw[QV q,Vn q];rw[QeT a d,QcS a d];simp only[XH];rw[Qbt [] _ (by simp;omega)];simp only[XH];rw[Qbt _ [x] (by simp;omega)];simp only[XH];rw[Qbt _ _ (by simp;omega)];refine(Qa _).eq ?_;simp
 .unfold F_kf;simp only[Jk,Vl];exact Qa _
theorem Qox{α:Type}[DecidableEq α](l m:List α)(step:Nat->Int->Option (Ctl Int (Ctl Unit Bool)))(w:l.length<=4611686018427387904)
  (p:∀n s,step n s=(bif decide (s<(l.length:Int))then(idx l s).bind λx=>(idx m s).bind λy=>(bif (x != y)then some (.done (.done false))else some (.cont (i64.wrap (s+1))))else some (.done (.cont ())))):
  Ev (λn=>(bif ((l.length:Int) != (m.length:Int))then some false else(Go.Sw.iter (step n) n 0:Option (Ctl Unit Bool)).bind λb11=>match b11 with|.cont sb11=>(some true)|.done sb11=>some sb11)) (decide (l=m)):=by
 by_cases d:l.length=m.length
 .rw[show(l.length != (m.length:Int))=false by rw[d];simp];have loop:∀(r f:List α) (i:Nat),l.drop i=r->m.drop i=f->i<=l.length->EvI step i (bif decide (r=f)then Ctl.cont ()else Ctl.done false):=by
   intro r
   induction r with
   |nil=>
    intro f i j a t;have h1:=Xp.1 j;have:f=[]:=by rw[<- a];exact Xp.2 (by omega)
    subst this;refine Eh (Qbf (Qa _) λn=>?_);rw[p,Q5 j t];simp
   |cons x r u=>
    intro f i j a t;obtain⟨g,k⟩:=QC w j;have z:=g.lt';cases f with
    |nil=>
     have h1:=Xp.1 a;omega
    |cons y f=>
     obtain⟨q,h⟩:=QC (by omega) a;by_cases e:x=y
     .subst e;refine Eu ?_ ((u f (i+1) k h (by omega)).eq ?_)
      .refine Qbf (Qa _) λn=>?_;rw[p,g.lt,g.ix,q.ix,Vk,XH,XH,g.nx];simp
      .simp
     .refine Eh (Qbf (Qa _) λn=>?_);rw[p,g.lt,g.ix,q.ix,Vk,XH,XH,bne_iff_ne.2 e];simp[e]
  refine Ea (loop l m 0 rfl rfl (XS _)).ev ?_;cases decide (l=m)<;>exact Qa _
 .rw[show(l.length != (m.length:Int))=true by rw[bne_iff_ne];omega];refine(Qa _).eq ?_;rw[QV λe=>d (by rw[e])]
theorem Qi3{c:Course}(h:Course.wf c):CourseOk c:=by
 obtain⟨j,⟨e,k⟩,⟨g,s⟩,⟨p,d⟩,⟨i,n⟩,⟨l,f⟩,⟨m,r⟩,⟨q,t⟩,_⟩:=h;exact⟨j,e,λx a=>(k x a).1,g,p,λx a=>(d x a).1,λx a=>(d x a).2.2.2.1.1,i,λx a=>(n x a).1,l,λx a=>(f x a).1,m,λx a=>(r x a).1,q⟩
theorem QjS{c:Course}(h:Course.wf c):PartsOk c:=by
 obtain⟨_,_,_,⟨f,e⟩,_⟩:=h;exact⟨λd a=>(e d a).2.1.1,λd a=>(e d a).2.1.2⟩
theorem QnK{c:Course}(h:Course.wf c):c.Ties.length<=1048576/\ ∀x∈c.Ties,Step.wf x:=by
 obtain⟨_,_,_,_,_,_,_,_,a,_⟩:=h;exact a
theorem QcK(l:List Fact):(canonS l).length<=l.length:=by
 have:∀(m a:List Fact),(m.foldl (λa x=>bif validS x then insC x a else a) a).length<=a.length+m.length:=by
  intro m
  induction m with
  |nil=>simp
  |cons x m d=>
   intro a;rw[XB,XX];have f:=d (bif validS x then insC x a else a);have e:(bif validS x then insC x a else a).length<=a.length+1:=by
    cases validS x with
    |true=>exact Qfh x a
    |false=>simp
   omega
 have:=this l [];simpa[canonS]using this
section
variable {α β:Type}
theorem Qlc{l:List α}[DecidableEq (List α)](d:l.length<=1048576):isNil l (some ([]:List α)) ((app ([]:List α) l).bind λx=>some x)=some l:=by
 have:app [] l=some l:=by rw[Qom _ _ (by simp;omega)];rfl
 unfold isNil;cases l with
 |nil=>rw[this];simp
 |cons a l=>rw[this];rfl
theorem Qnv{F:Nat->α->α->Option β}{V:α->α->β}(l:List α)(h:∀x∈l,∀y∈l,Ev (λn=>F n x y) (V x y)):∃N,∀n,N<=n->∀x∈l,∀y∈l,F n x y=some (V x y):=by
 obtain⟨N,g⟩:=QaJ (F:=λn p=>F n p.1 p.2) (V:=λp=>V p.1 p.2) (l.flatMap λx=>l.map λy=>(x,y)) (by
  intro p a;rw[List.mem_flatMap]at a;obtain⟨x,d,a⟩:=a;obtain⟨y,e,rfl⟩:=Xe.1 a;exact h x d y e)
 exact⟨N,λn f x d y e=>g n f (x,y) (List.mem_flatMap.2 ⟨x,d,Xe.2 ⟨y,e,rfl⟩⟩)⟩
def ltC(c:α->α->Int)(x y:α):Bool:=decide (c x y<0)
theorem Qb8{c:α->α->Int}(d:CmpOK c)(l:List α):QfO (ltC c) l:=by
 refine⟨λx _=>?_,λx _ y _ z _ g f=>?_,λx _ y _ z _ g f=>?_⟩
 .have:=d.refl x;exact Vt (by omega)
 .have g:=Vr g;have f:=Vr f;exact Vq (d.trans x y z g f)
 .have g:=Vs g;have f:=Vs f;refine Vt λh=>?_;have a:=d.swap x y;have b:=d.swap y z;by_cases e:c x y=0
  .rw[d.eqt x y z e]at h;exact f h
  .by_cases i:c y z=0
   .rw[<- d.eqr x i]at h;exact g h
   .have j:=d.trans z y x (by omega) (by omega);have:=d.swap x z;omega
theorem QkR[DecidableEq α]{j:Nat->α->α->Option Int}{l:List α}{c:α->α->Int}(s:l.length<=1048576)(E:∀x∈l,∀y∈l,Ev (λn=>j n x y) (c x y))(a:CmpOK c)(r:∀x∈l,∀y∈l,c x y=0->x=y):
  Ev (λn=>QbI (j n) l) (QaR (ltC c) l):=by
 obtain⟨N,w⟩:=Qnv l E;refine⟨N,λn u=>?_⟩;have h:=w n u;have p:=Ql7 (XP (Qn3 s)) c h (λx _=>by have:=a.refl x;omega) (λx _ y _ z _=>a.trans x y z) (λx d y e z B i g=>by
   have:=(Qb8 a l).ntrans x d y e z B (Vt i) (Vt g);exact Vs this) (λx d y e i g=>r x d y e (by have:=a.swap x y;omega))
 show QbI (j n) l=some (QaR (ltC c) l);rw[p];congr 1;obtain⟨_,_,t,_,_⟩:=QeS p;have f:∀x∈l,∀y∈l,ltO (j n) x y=ltC c x y:=λx d y e=>by unfold ltO ltC;rw[h x d y e]
 refine Qbh ((QT _ l).trans (QT _ l).symm) (λx d y e i g=>?_) ?_ (YI (Qb8 a l))
 .have m:=(QT _ l).mem_iff.1 d;have k:=(QT _ l).mem_iff.1 e;have i:=Vs i;have g:=Vs g;exact r x m y k (by have:=a.swap x y;omega)
 .refine List.Pairwise.imp_of_mem (λ{x y} d e q=>?_) (YI t);have m:=(QT _ l).mem_iff.1 d;have k:=(QT _ l).mem_iff.1 e;rw[<- f y k x m];exact q
end
def ddA(p:Fact):List Fact->List Fact
 |[]=>[]
 |x::r=>bif x==p then ddA x r else x::ddA x r
def dd:List Fact->List Fact
 |[]=>[]
 |x::r=>x::ddA x r
theorem Qm0{x p:Fact}{r:List Fact}(q:(x==p)=true):ddA p (x::r)=ddA x r:=by
 show(bif x==p then ddA x r else x::ddA x r)=_;rw[q];rfl
theorem QmZ{x p:Fact}{r:List Fact}(q:(x==p)=false):ddA p (x::r)=x::ddA x r:=by
 show(bif x==p then ddA x r else x::ddA x r)=_;rw[q];rfl
theorem QmY:∀(r:List Fact) (p:Fact),(∀x∈r,¬cmpF x p<0)->r.Pairwise (λa b=>¬cmpF b a<0)->(∀x∈p::r,validS x=true)->(ddA p r).Pairwise ltF/\(∀x∈ddA p r,ltF p x)/\ ∀x,x∈p::ddA p r↔x∈p::r
 |[],p,_,_,_=>⟨List.Pairwise.nil,(λ_ h=>by cases h),λ_=>Iff.rfl⟩
 |y::r,p,h1,h2,h3=>by
  rw[Xc]at h2;obtain⟨i1,i2,i3⟩:=QmY r y h2.1 h2.2 λx hx=>h3 x (by simp only[X3]at hx⊢;exact .inr hx);have hy:=h1 y (by simp);unfold ddA;cases q:y==p with
  |true=>
   have e:y=p:=by simpa using q
   subst e;refine⟨i1,i2,λx=>?_⟩;rw[Vk,i3 x];simp
  |false=>
   have f:¬cmpF y p=0:=λe=>by simp[QeF (h3 y (by simp)) (h3 p (by simp)) e]at q
   have d:ltF p y:=by
    have:=QkC.swap y p;unfold ltF;omega
   simp only[Vl];refine⟨Xc.2 ⟨i2,i1⟩,λx hx=>?_,λx=>?_⟩
   .rcases X3.1 hx with rfl|hx
    .exact d
    .exact Qjn _ _ _ d (i2 x hx)
   .rw[X3,i3 x,X3 (a:=x) (b:=p)]
theorem dd_ok{S:List Fact}(h:S.Pairwise λa b=>¬cmpF b a<0)(f:∀x∈S,validS x=true):(dd S).Pairwise ltF/\ ∀x,x∈dd S↔x∈S:=by
 cases S with
 |nil=>exact⟨List.Pairwise.nil,λ_=>Iff.rfl⟩
 |cons a r=>
  rw[Xc]at h;obtain⟨g,d,e⟩:=QmY r a h.1 h.2 f;exact⟨Xc.2 ⟨d,g⟩,e⟩
theorem Qhl(x y:Fact):Ev (λn=>F_bv n x y) ():=Qa _
theorem Qkl{l:List Fact}{a j:Nat}{x:Fact}(h:l[a+j]?=some x){m:Int}(e:m=(l.length:Int)):QcG l (a:Int) m (j:Int)=some x:=by
 have d:=(XJ.1 h).1;unfold QcG;rw[Vq (show 0<=(a:Int)by omega),Vq (show 0<=(j:Int)by omega),Vq (show a+j<m by omega)];exact Ym h
theorem QkA{α:Type}{l r:List α}{i:Nat}{x:α}(h:l.drop i=x::r):l[i]?=some x/\l.drop (i+1)=r/\i<l.length:=by
 have h1:=by
  have:=congrArg (λl=>l[0]?) h;simpa using this
 refine⟨h1,?_,(XJ.1 h1).1⟩;have:=Xo (XJ.1 h1).1;rw[h]at this;exact(List.cons.inj this).2.symm
theorem QiH(a:List Fact)(L:a.length<=1048576)(d:Nat):∀(r s:List Fact) (i j:Nat) (p:Fact),s.length=a.length->s.drop (d+(j+1))=r->s[d+j]?=some p->i<d+(j+1)->d+(j+1)<=s.length->
  ∃(s':List Fact) (e:Nat),EvI (λn=>F_ey n a (d:Int)) (s,(i:Int),((j+1:Nat):Int)) (s',(e:Int))/\e<=s'.length/\s'.take e=s.take i++ddA p r:=by
 intro r
 induction r with
 |nil=>
  intro s i j p f t B H J;refine⟨s,i,Eh ?_,by omega,by simp[ddA]⟩;have:=Xp.1 t;unfold F_ey;rw[QV (show¬(((j+1:Nat):Int)<((toNat (a.length:Int)-toNat (d:Int):Nat):Int))by omega)];exact Qa _
 |cons x r u=>
  intro s i j p f t B H J;obtain⟨g,y,G⟩:=QkA t;have w:=Qkl g (show(a.length:Int)=(s.length:Int)by rw[f]);have z:=Qkl B (show(a.length:Int)=(s.length:Int)by rw[f]);have w1:i64.wrap (((j+1:Nat):Int)-1)=(j:Int):=by rw[QH (by omega) (by omega)];omega
  have w2:i64.wrap (((j+1:Nat):Int)+1)=((j+1+1:Nat):Int):=Yi (by omega);have E:decide (((j+1:Nat):Int)<((toNat (a.length:Int)-toNat (d:Int):Nat):Int))=true:=Vq (by omega);have h:i<s.length:=by omega
  cases q:x==p with
  |true=>
   obtain⟨s',e,k,l,m⟩:=u s i (j+1) x f (by rw[show d+(j+1+1)=d+(j+1)+1 by omega];exact y) g (by omega) (by omega);refine⟨s',e,Eu ?_ k,l,by rw[m,Qm0 q]⟩;unfold F_ey;simp only[E,Vk,w,w1,z,XH];refine Ea (Qhl x p) ?_;rw[q];simp only[Xg,Vl,XH,w2];exact Qa _
  |false=>
   have F:(s.set i x).length=a.length:=by rw[X0];exact f
   obtain⟨s',e,k,l,m⟩:=u (s.set i x) (i+1) (j+1) x F (by rw[show d+(j+1+1)=d+(j+1)+1 by omega,List.drop_set_of_lt (by omega)];exact y) (by rw[XN (by omega)];exact g) (by omega) (by rw[X0];omega);have w3:i64.wrap ((i:Int)+1)=((i+1:Nat):Int):=Yi (by omega);refine⟨s',e,Eu ?_ k,l,?_⟩
   .unfold F_ey;simp only[E,Vk,w,w1,z,XH];refine Ea (Qhl x p) ?_;rw[q];simp only[Xh,Vk,XH,w2,Ym (XI h),QeV s x h,w3];exact Qa _
   .rw[m,List.take_add_one,Xa h,List.take_set_of_le (XR _)];rw[QmZ q];simp
theorem QiI(a:List Fact)(u:a.length<=1048576):∀(r:List Fact) (k:Nat) (p:Fact),a.drop (k+1)=r->a[k]?=some p->k+1<=a.length->∃b:Ctl Unit (List Fact),EvI (λn=>F_gu n a) ((k+1:Nat):Int) b/\((b=.cont ()/\ddA p r=r)\/b=.done (a.take (k+1)++ddA p r)):=by
 intro r
 induction r with
 |nil=>
  intro k p i h y;refine⟨.cont (),Eh ?_,.inl ⟨rfl,rfl⟩⟩;have:=Xp.1 i;unfold F_gu;rw[QV (show¬(((k+1:Nat):Int)<(a.length:Int))by omega)];exact Qa _
 |cons x r t=>
  intro k p i h y;obtain⟨f,s,g⟩:=QkA i;have w1:i64.wrap (((k+1:Nat):Int)-1)=(k:Int):=by rw[QH (by omega) (by omega)];omega
  have w2:i64.wrap (((k+1:Nat):Int)+1)=((k+1+1:Nat):Int):=Yi (by omega);have m:decide (((k+1:Nat):Int)<(a.length:Int))=true:=Vq (by omega);cases q:x==p with
  |true=>
   obtain⟨w,z,j,d,l⟩:=QiH a u (k+1) r a (k+1) 0 x rfl s f (by omega) (by omega);refine⟨.done (a.take (k+1)++ddA p (x::r)),Eh ?_,.inr rfl⟩;unfold F_gu;simp only[m,Vk,Ym f,w1,Ym h,XH];refine Ea (Qhl x p) ?_;rw[q];simp only[Vk,QcS a (Nat.le_of_lt g),XH];refine Ea j.ev ?_;simp only[QeT w d,XH];rw[l];rw[Qm0 q];exact Qa _
  |false=>
   obtain⟨b,j,d⟩:=t (k+1) x s f g;have e:=QmZ (r:=r) q;refine⟨b,Eu ?_ j,?_⟩
   .unfold F_gu;simp only[m,Vk,Ym f,w1,Ym h,XH];refine Ea (Qhl x p) ?_;rw[q];simp only[Vl,w2];exact Qa _
   .rcases d with⟨d,l⟩|d
    .exact .inl ⟨d,by rw[e,l]⟩
    .refine .inr ?_;rw[d,e,List.take_add_one,f];simp
theorem QiG(a:List Fact)(d:a.length<=1048576):Ev (λn=>F_ck n a) (dd a):=by
 unfold F_ck
 match a,d with
 |[],_=>exact Qa _
 |[x],_=>exact Qa _
 |x::y::r,d=>
  rw[QV (show¬(((x::y::r).length:Int)<2)by simp;omega)];refine QK ?_;obtain⟨b,f,g⟩:=QiI (x::y::r) d (y::r) 0 x rfl rfl (by simp);refine Ea f.ev ?_;rcases g with⟨rfl,e⟩|rfl
  .show Ev (λn=>some (x::y::r)) (x::ddA x (y::r));rw[e];exact Qa _
  .exact Qa _
section
variable {S T B:Type} {step:Nat->S->Option (List T×Ctl S B)} {s s':S} {b:B} {xs ys:List T}
def EvL(step:Nat->S->Option (List T×Ctl S B))(s:S)(ys:List T)(b:B):Prop:=∃N,∀n k,N<=n->N<=k->QbR (step n) k s=some (ys,b)
theorem EvL.done(h:Ev (λn=>step n s) (ys,.done b)):EvL step s ys b:=by
 obtain⟨N,h⟩:=h;refine⟨N+1,λn k f d=>?_⟩;obtain⟨a,rfl⟩:∃a,k=a+1:=⟨k-1,by omega⟩;have e:step n s=some (ys,.done b):=h n (by omega);unfold QbR;rw[e];rfl
theorem EvL.cont(h:Ev (λn=>step n s) (xs,.cont s'))(q:EvL step s' ys b):EvL step s (xs++ys) b:=by
 obtain⟨N,h⟩:=h;obtain⟨M,q⟩:=q;refine⟨max N M+1,λn k f d=>?_⟩;obtain⟨a,rfl⟩:∃a,k=a+1:=⟨k-1,by omega⟩;have e:step n s=some (xs,.cont s'):=h n (by omega);unfold QbR;rw[e];show(QbR (step n) a s').bind _=_;rw[q n a (by omega) (by omega)];rfl
theorem EvL.ev(h:EvL step s ys b):Ev (λn=>QbR (step n) n s) (ys,b):=by
 obtain⟨N,h⟩:=h;exact⟨N,λn a=>h n n a a⟩
end
section
variable {U T R:Type}
theorem QeK{step:Nat->U->T->Option (Ctl U R)}(g:U->T->U)(I:U->Nat->Prop):∀(l:List T) (u:U),I u l.length->(∀x∈l,∀u k,I u (k+1)->Ev (λn=>step n u x) (.cont (g u x))/\I (g u x) k)->Ev (λn=>runL (step n) l u) (.cont (l.foldl g u))/\I (l.foldl g u) 0
 |[],u,h,_=>⟨Qa _,h⟩
 |x::l,u,h,q=>by
  obtain⟨h1,h2⟩:=q x (by simp) u l.length h;obtain⟨r1,r2⟩:=QeK g I l (g u x) h2 λy hy=>q y (by simp[hy]);exact⟨Ea h1 r1,r2⟩
end
def ofK(k:Int)(f:Fact):Bool:=(f.Kind==k)&&validS f
def cntS(l:List Fact)(k:Int):List Fact:=(canonS l).filter λf=>f.Kind==k
theorem QiF(f:Fact)(k:Int):Ev (λn=>F_bf n f k) (!ofK k f):=by
 unfold F_bf ofK;refine Ea (v:= !((f.Kind==k)&&validS f)) ?_ (Qa _);cases q:f.Kind==k with
 |false=>simp only[bne,q,Xh,Vk,Bool.false_and];exact Qa _
 |true=>
  simp only[bne,q,Xg,Vl,Vw];refine Ea (Qgb f) ?_;cases validS f<;>exact Qa _
theorem Qog(l:List Fact)(k:Int)(f:l.length<=1048576):Ev (λn=>F_cn n l k) (l.filter (ofK k)):=by
 unfold F_cn F_gg;refine Et (QlT l (λg=> !ofK k g) f (Ev.first l _ (by omega) (λi x a=>?_) ?_) (λe i j x y m a d q p=>?_) λe i=>?_) (by simp)
 .unfold F_kd;simp only[a.lt,Vk,a.ix,XH,a.nx];refine Ea (QiF x k) ?_;cases ofK k x<;>exact Qa _
 .unfold F_kd;simp only[Jk,Vl];exact Qa _
 .have h:=(XJ.1 d).1;unfold F_jv;simp only[a.lt,Vk,a.ix,XH,a.nx];refine Ea (QiF x k) ?_;cases ofK k x with
  |false=>exact Qa _
  |true=>
   simp only[Xg,Xh,Vk,Vl,Ym d,QeV e x h,XH,Yi (show i<9223372036854775807 by omega)];exact Qa _
 .unfold F_jv;simp only[Jk,Vl];exact Qa _
theorem Qlg(r:List Fact)(l:r.length<=1048576):Ev (λn=>ap (QbR (F_en n r) n 0) λ_=>some ([],())) (r,()):=by
 have loop:∀(q:List Fact) (i:Nat),r.drop i=q->i<=r.length->EvL (λn=>F_en n r) (i:Int) q ():=by
  intro q
  induction q with
  |nil=>
   intro i e g;refine EvL.done ?_;unfold F_en;simp only[Q5 e g,Vl];exact Qa _
  |cons f q j=>
   intro i e g;obtain⟨a,d⟩:=QC (by omega) e;have k:=a.lt';refine EvL.cont (xs:=[f]) ?_ (j (i+1) d (by omega));unfold F_en;simp only[a.lt,Vk,a.ix,XH,a.nx];exact Qa _
 have h:=(loop r 0 rfl (XS _)).ev;unfold ap;refine Ea h ?_;exact Et (Qa _) (by simp)
theorem Qol(l:List Fact)(k:Int):(cntS l k).length<=l.length:=XT (List.length_filter_le ..) (QcK l)
theorem QcI(l:List Fact)(k:Int)(g:l.length<=1048576):Ev (λn=>F_ac n l k) (cntS l k,()):=by
 unfold F_ac F_hb;simp only[Qlc g,XH];refine Ea (Qog l k g) ?_;have p:=QT (ltC cmpF) (l.filter (ofK k));have j:∀f∈l.filter (ofK k),validS f=true:=λf m=>by
  have:=(Xd.1 m).2;unfold ofK at this;rw[XU]at this;exact this.2
 have d:=XT (List.length_filter_le (ofK k) l) g;refine Ea (QkR d (λx _ y _=>QjD x y) QkC λx i y t e=>QeF (j x i) (j y t) e) ?_;refine Ea (QiG _ (by rw[p.length_eq];exact d)) ?_;have s:(QaR (ltC cmpF) (l.filter (ofK k))).Pairwise λa b=>¬cmpF b a<0:=List.Pairwise.imp (λq=>Vs q) (YI (Qb8 QkC _));obtain⟨w,u⟩:=dd_ok s λx i=>j x (p.mem_iff.1 i);obtain⟨c1,r⟩:=QgL l;have e:dd (QaR (ltC cmpF) (l.filter (ofK k)))=cntS l k:=Qcz QnX Qjn w (c1.1.filter _) λf=>by
  rw[u,p.mem_iff];simp only[cntS,Xd,r,ofK,XU];exact⟨λh=>⟨⟨h.1,h.2.2⟩,h.2.1⟩,λh=>⟨h.1.1,h.2,h.1.2⟩⟩
 rw[e];exact Qlg _ (XT (Qol l k) g)
def segLt(x y:Segment):Bool:=decide (x.Mat<y.Mat)||((x.Mat==y.Mat)&&decide (x.Epoch<y.Epoch))
def cmpSeg(x y:Segment):Int:=orL [cmpI x.Mat y.Mat,cmpI x.Epoch y.Epoch]
theorem Qlu(x y:Segment):decide (0<=cmpSeg x y)= !segLt x y:=by
 unfold cmpSeg segLt orL orL orL cmpI;by_cases a:x.Mat<y.Mat
 .simp[a]
 .by_cases d:y.Mat<x.Mat
  .have:¬x.Mat=y.Mat:=by omega
   simp[a,d,this]
  .have:x.Mat=y.Mat:=by omega
   by_cases e:x.Epoch<y.Epoch
   .simp[a,d,this,e]
   .by_cases f:y.Epoch<x.Epoch
    iterate 2 simp[a,d,this,e,f]
theorem QmS(a b:Int):Ev (λn=>F_r n a b) (cmpI a b):=Qbf (Qa _) λn=>Qky n a b
theorem Qix(x y:Segment):Ev (λn=>F_ba n x y) (cmpSeg x y):=by
 unfold F_ba F_fn;exact Ea (Ea (QmS _ _) (Ea (QmS _ _) (Ea (QoF _ (by simp)) (Qa _)))) (Qa _)
def timeB(x:Int):Bool:=inR (-1099511627776) 1099511627776 x
theorem Qcb(x:Int):Ev (λn=>F_w n x) (timeB x):=by
 unfold F_w timeB inR;exact Ea (Eg λ_=>Qa _) (Qa _)
def farG(c:Clocks)(i j:Nat):Int:=((c.Far[i]?.getD [])[j]?).getD 0
structure Dims (c:Clocks):Prop where
 segs:c.Segments.length<=511
 far:c.Far.length=c.Segments.length+1
 row:∀i,i<c.Far.length->(c.Far[i]?.getD []).length=c.Segments.length+1
theorem Dims.get{c:Clocks}(d:Dims c){i j:Nat}(hi:i<c.Segments.length+1)(f:j<c.Segments.length+1):c.Far[i]?=some (c.Far[i]?.getD [])/\(c.Far[i]?.getD [])[j]?=some (farG c i j):=by
 have a:i<c.Far.length:=by rw[d.far];exact hi
 have e:=d.row i a;refine⟨by rw[XI a];rfl,?_⟩;unfold farG;have:j<(c.Far[i]?.getD []).length:=by omega
 rw[XI this];rfl
set_option maxRecDepth 10000
set_option maxRecDepth 10000
set_option maxRecDepth 10000
set_option maxRecDepth 10000
theorem QbF{f:Fact}(h:validS f=true):headS f=true/\contR f=true/\onlyS f=f:=by
 rw[Qb1,XU,XU,QiN,Vu]at h;exact⟨h.1.1,h.1.2,h.2⟩
theorem Qi6{f:Fact}(h:validS f=true)(k:f.Kind=2):0<=f.Read.Epoch/\f.Read.Epoch<=255:=by
 obtain⟨_,a,_⟩:=QbF h;unfold contR at a;rw[k]at a;have d:(true&&(nb f.Read.Mat 0 39&&(nb f.Read.Epoch 0 255&&(nb f.Read.Chip 0 1048576&&(nb f.Read.Local (-1099511627776) 1099511627776&&true)))))=true:=a;simp only[XU,Qa0]at d;exact d.2.2.1
structure BeaOk (b:Beacon):Prop where
 ep:0<=b.Epoch/\b.Epoch<=255
 lo: -1099511627776<=b.Local/\b.Local<=1099511627776
 tr: -1099511627776<=b.True/\b.True<=1099511627776
 er:0<=b.Err/\b.Err<=1099511627776
theorem QgU{f:Fact}(h:validS f=true)(k:f.Kind=3):BeaOk f.Beacon:=by
 obtain⟨_,d,_⟩:=QbF h;unfold contR at d;rw[k]at d;have a:(true&&(nb f.Beacon.Mat 0 39&&(nb f.Beacon.Epoch 0 255&&(nb f.Beacon.Local (-1099511627776) 1099511627776&&(nb f.Beacon.True (-1099511627776) 1099511627776&&(nb f.Beacon.Err 0 1099511627776&&true))))))=true:=d;simp only[XU,Qa0]at a;exact⟨a.2.2.1,a.2.2.2.1,a.2.2.2.2.1,a.2.2.2.2.2.1⟩
structure SynOk (b:Sync):Prop where
 ea:0<=b.EpochA/\b.EpochA<=255
 la: -1099511627776<=b.LocalA/\b.LocalA<=1099511627776
 eb:0<=b.EpochB/\b.EpochB<=255
 lb: -1099511627776<=b.LocalB/\b.LocalB<=1099511627776
 mi: -1099511627776<=b.Min/\b.Min<=1099511627776
 ma: -1099511627776<=b.Max/\b.Max<=1099511627776
theorem Qi5{f:Fact}(h:validS f=true)(k:f.Kind=4):SynOk f.Sync:=by
 obtain⟨_,d,_⟩:=QbF h;unfold contR at d;rw[k]at d;have a:(decide (f.Sync.Min<=f.Sync.Max)&&(nb f.Sync.MatA 0 39&&(nb f.Sync.EpochA 0 255&&(nb f.Sync.LocalA (-1099511627776) 1099511627776&&(nb f.Sync.MatB 0 39&&(nb f.Sync.EpochB 0 255&&(nb f.Sync.LocalB (-1099511627776) 1099511627776&&(nb f.Sync.Min (-1099511627776) 1099511627776&&(nb f.Sync.Max (-1099511627776) 1099511627776&&true)))))))))=true:=d;simp only[XU,Qa0]at a;exact⟨a.2.2.1,a.2.2.2.1,a.2.2.2.2.2.1,a.2.2.2.2.2.2.1,a.2.2.2.2.2.2.2.1,a.2.2.2.2.2.2.2.2.1⟩
theorem Qhy{l:List Fact}{k:Int}{f:Fact}(h:f∈cntS l k):f∈l/\validS f=true/\f.Kind=k:=by
 unfold cntS at h;rw[Xd,(QgL l).2]at h;exact⟨h.1.1,h.1.2,by simpa using h.2⟩
structure CrsOk (c:Course):Prop where
 mats:c.Mats.length<=40
 res:0<=c.Faults.Residual/\c.Faults.Residual<=4294967296
 drift:0<=c.Faults.Drift/\c.Faults.Drift<=100000
def driftV(x k:Int):Int:=Int.tdiv ((if x<0-x then 0-x else x)*k+1000000-1) 1000000
theorem Qdd{x k:Int}(j: -2199023255552<=x/\x<=2199023255552)(d:0<=k/\k<=100000):0<=driftV x k/\driftV x k<=274877906944/\0<=(if x<0-x then 0-x else x)*k/\(if x<0-x then 0-x else x)*k<=219902325555200000:=by
 generalize ha:(if x<0-x then 0-x else x)=a;have h:0<=a:=by rw[<- ha];split<;>omega
 have g:a<=2199023255552:=by rw[<- ha];split<;>omega
 have i:0<=a*k:=Int.mul_nonneg h d.1;have f:a*k<=2199023255552*100000:=Int.le_trans (Int.mul_le_mul_of_nonneg_right g d.1) (Int.mul_le_mul_of_nonneg_left d.2 (by decide));have e:(2199023255552:Int)*100000=219902325555200000:=by decide
 rw[e]at f;unfold driftV;rw[ha,Int.tdiv_eq_ediv_of_nonneg (by omega)];omega
theorem QmO{x k:Int}(d: -2199023255552<=x/\x<=2199023255552)(f:0<=k/\k<=100000):Ev (λn=>F_ds n x k) (driftV x k,0):=by
 obtain⟨g,j,i,h⟩:=Qdd d f;unfold F_ds;refine Ea (v:=false) ?_ ?_
 .rw[QV (show¬(x< -2199023255552)by omega),QV (show¬(2199023255552<x)by omega),QV (show¬(k<0)by omega),QV (show¬(100000<k)by omega)];exact Qa _
 .have e:i64.wrap (0-x)=0-x:=QH (by omega) (by omega);have w1:=QH (n:=(if x<0-x then 0-x else x)*k) (by omega) (by omega);have w2:=QH (n:=(if x<0-x then 0-x else x)*k+1000000) (by omega) (by omega);have w3:=QH (n:=(if x<0-x then 0-x else x)*k+1000000-1) (by omega) (by omega);have a:=QH (n:=driftV x k) (by omega) (by omega);refine QK ?_;rw[e,w1,w2,w3];unfold driftV at a⊢;rw[a];exact Qa _
def devV(c:Course)(k:Int)(s:Segment)(loc:Int):Span:=
 bif k != 1 then⟨0-driftV (loc-s.Anchor) c.Faults.Drift,c.Faults.Residual+driftV (loc-s.Anchor) c.Faults.Drift⟩else⟨0,c.Faults.Residual⟩
def isT(x:Int):Prop:= -1099511627776<=x/\x<=1099511627776
theorem Qph{c:Course}(d:CrsOk c){i:Nat}{m:Mat}(f:c.Mats[i]?=some m){s:Segment}(h:s.Mat=(i:Int)){a:Int}(j:isT s.Anchor)(g:isT a):Ev (λn=>F_an n c s a) (devV c m.Kind s a):=by
 obtain⟨k,q⟩:=d.res;have e: -2199023255552<=a-s.Anchor/\a-s.Anchor<=2199023255552:=by unfold isT at j g;omega
 obtain⟨l,p,_,_⟩:=Qdd e d.drift;unfold F_an devV;simp only[h,Ym f,XH];cases m.Kind != 1 with
 |false=>exact Qa _
 |true=>
  simp only[Vk];refine Ea (v:=⟨0-driftV (a-s.Anchor) c.Faults.Drift,c.Faults.Residual+driftV (a-s.Anchor) c.Faults.Drift⟩) ?_ (Qa _);rw[QH (n:=a-s.Anchor) (by omega) (by omega)];refine Ea (QmO e d.drift) ?_;rw[QH (n:=0-driftV (a-s.Anchor) c.Faults.Drift) (by omega) (by omega),QH (n:=c.Faults.Residual+driftV (a-s.Anchor) c.Faults.Drift) (by omega) (by omega)];exact Qa _
def matB(c:Course)(x:Int):Bool:=decide (0<=x)&&decide (x<(c.Mats.length:Int))
theorem QfG(c:Course)(x:Int):Ev (λn=>F_p n c x) (matB c x):=by
 unfold F_p matB;exact Ea (Eg λ_=>Qa _) (Qa _)
theorem Qjm{c:Course}{x:Int}(h:matB c x=true):∃i m,x=((i:Nat):Int)/\c.Mats[i]?=some m:=by
 unfold matB at h;simp only[XU,Vm]at h;exact⟨x.toNat,c.Mats[x.toNat]'(by omega),by omega,XI _⟩
def okPl(c:Course)(x:Int):Bool:=matB c x&&(match c.Mats[x.toNat]? with|some m=>m.Kind != 1|none=>false)
abbrev Met:=List (Ua×Bool)
abbrev Anc:=List (Ua×Int)
def meetV(c:Course)(m:Met)(x e:Int):Met:=bif okPl c x then Yw m ⟨x,e⟩ true else m
theorem QeD(c:Course)(m:Met)(x e:Int):Ev (λn=>F_am n x e c m) (meetV c m x e):=by
 unfold F_am meetV;refine Ea (v:=okPl c x) ?_ ?_
 .unfold okPl;refine Ea (QfG c x) ?_;cases q:matB c x with
  |false=>exact Qa _
  |true=>
   obtain⟨i,m,rfl,a⟩:=Qjm q;simp only[Vk,Ym a,XH,Vw,Int.toNat_natCast,a];exact Qa _
 .cases okPl c x<;>exact Qa _
def metX(c:Course)(m:Met)(f:Fact):Met:=meetV c m f.Read.Mat f.Read.Epoch
def metY(c:Course)(m:Met)(f:Fact):Met:=meetV c (meetV c m f.Sync.MatA f.Sync.EpochA) f.Sync.MatB f.Sync.EpochB
def metB(c:Course)(a:Met×Anc)(f:Fact):Met×Anc:=(meetV c a.1 f.Beacon.Mat f.Beacon.Epoch,bif !QaP a.2 (⟨f.Beacon.Mat,f.Beacon.Epoch⟩:Ua)then Yw a.2 ⟨f.Beacon.Mat,f.Beacon.Epoch⟩ f.Beacon.Local else a.2)
def metA(c:Course)(l:List Fact):Met×Anc:=(cntS l 3).foldl (metB c) ((cntS l 4).foldl (metY c) ((cntS l 2).foldl (metX c) []),[])
structure MetOk (c:Course) (k:Nat) (m:Met):Prop where
 nodup:(m.map (·.1)).Nodup
 ok:∀p∈m.map (·.1),okPl c p.mat=true/\0<=p.epoch/\p.epoch<=255
 len:m.length<=k
theorem Qjp{α β:Type}[DecidableEq α](m:List (α×β))(k:α)(v:β)(h:(m.map (·.1)).Nodup):((Yw m k v).map (·.1)).Nodup/\(∀p∈(Yw m k v).map (·.1),p=k\/p∈m.map (·.1))/\(Yw m k v).length<=m.length+1:=by
 have e:=QdA m k v;have f:=congrArg List.length e;rw[XY]at f;rw[e];by_cases q:k∈m.map (·.1)
 .rw[Vp q]at f⊢;exact⟨h,λp d=>.inr d,by rw[f,XY];omega⟩
 .rw[Vn q]at f⊢;refine⟨?_,λp d=>?_,by rw[f];simp⟩
  .rw[List.nodup_append];refine⟨h,by simp,λa i b g=>?_⟩;rw[Vx]at g;rintro rfl;exact q (g▸i)
  .rcases Vz.1 d with d|d
   .exact .inr d
   .exact .inl (by simpa using d)
theorem Qex{c:Course}{k:Nat}{m:Met}(h:MetOk c k m)(x:Int){e:Int}(he:0<=e/\e<=255):MetOk c (k+1) (meetV c m x e):=by
 unfold meetV;cases q:okPl c x with
 |false=>exact⟨h.nodup,h.ok,by have:=h.len;simp only[Vl];omega⟩
 |true=>
  simp only[Vk];obtain⟨f,d,g⟩:=Qjp m (⟨x,e⟩:Ua) true h.nodup;refine⟨f,λp a=>?_,by have:=h.len;omega⟩;rcases d p a with rfl|a
  .exact⟨q,he⟩
  .exact h.ok p a
def AncOk(m:Anc):Prop:=∀p v,Jj m p=some v->isT v
theorem Qc8{α β:Type}(g:β->α->β)(I:β->Nat->Prop)(w:Nat):∀(l:List α) (b:β) (k:Nat),I b k->(∀x∈l,∀b k,I b k->I (g b x) (k+w))->I (l.foldl g b) (k+w*l.length)
 |[],b,k,h,_=>by simpa using h
 |x::l,b,k,h,q=>by
  have:=Qc8 g I w l (g b x) (k+w) (q x (by simp) b k h) λy hy=>q y (by simp[hy]);rw[XX,Nat.mul_add,Nat.mul_one,Nat.add_comm (w*l.length), <- Nat.add_assoc];exact this
theorem Qg9(c:Course)(l:List Fact):MetOk c ((cntS l 2).length+2*(cntS l 4).length+(cntS l 3).length) (metA c l).1/\AncOk (metA c l).2:=by
 have r:MetOk c (0+1*(cntS l 2).length) ((cntS l 2).foldl (metX c) []):=Qc8 (metX c) (λm k=>MetOk c k m) 1 _ _ _ ⟨by simp,(λp d=>by simp at d),by simp⟩ λf g m k h=>by
  obtain⟨_,j,i⟩:=Qhy g;exact Qex h _ (Qi6 j i)
 have q:=Qc8 (metY c) (λm k=>MetOk c k m) 2 (cntS l 4) _ _ r λf g m k h=>by
  obtain⟨_,j,i⟩:=Qhy g;have s:=Qi5 j i;exact Qex (Qex h _ s.ea) _ s.eb
 have n:=Qc8 (metB c) (λa k=>MetOk c k a.1/\AncOk a.2) 1 (cntS l 3) (_,[]) _ ⟨q,(λp v h=>by simp[Jj]at h)⟩ λf g a k h=>by
  obtain⟨_,j,i⟩:=Qhy g;have s:=QgU j i;refine⟨Qex h.1 _ s.ep,?_⟩;show AncOk (bif !QaP a.2 _ then Yw a.2 _ _ else a.2);cases QaP a.2 (⟨f.Beacon.Mat,f.Beacon.Epoch⟩:Ua)with
  |true=>exact h.2
  |false=>
   simp only[Xh,Vk];intro p v d;rw[Qb7]at d;split at d
   .cases d;exact s.lo
   .exact h.2 p v d
 have e:0+1*(cntS l 2).length+2*(cntS l 4).length+1*(cntS l 3).length=(cntS l 2).length+2*(cntS l 4).length+(cntS l 3).length:=by omega
 rw[e]at n;exact n
theorem QkB(l:List Fact):(cntS l 2).length+2*(cntS l 4).length+(cntS l 3).length<=2*l.length:=by
 have a:∀m:List Fact,(m.filter λf=>f.Kind==2).length+2*(m.filter λf=>f.Kind==4).length+(m.filter λf=>f.Kind==3).length<=2*m.length:=by
  intro m
  induction m with
  |nil=>simp
  |cons f m i=>
   simp only[List.filter_cons,XX];by_cases e:f.Kind=2
   .simp[e];omega
   .by_cases d:f.Kind=4
    .simp[d];omega
    .by_cases g:f.Kind=3
     .simp[g];omega
     .simp[e,g,d];omega
 have:=a (canonS l);have h:=QcK l;unfold cntS;omega
def segOf(a:Anc)(p:Ua×Bool):Segment:=⟨p.1.mat,p.1.epoch,Q1 a p.1 0⟩
def segV(c:Course)(l:List Fact):List Segment:=QaR (ltC cmpSeg) ((metA c l).1.map (segOf (metA c l).2))
set_option maxRecDepth 10000
theorem Qcc:CmpOK cmpSeg:=by
 have h:=Qcm (cmpI_ok.on λx:Segment=>x.Mat) (cmpI_ok.on λx:Segment=>x.Epoch);have e:cmpSeg=λx y:Segment=>bif cmpI x.Mat y.Mat != 0 then cmpI x.Mat y.Mat else cmpI x.Epoch y.Epoch:=by
  funext x y
  show(bif cmpI x.Mat y.Mat != 0 then cmpI x.Mat y.Mat else(bif cmpI x.Epoch y.Epoch != 0 then cmpI x.Epoch y.Epoch else 0))=_;cases q:cmpI x.Epoch y.Epoch != 0 with
  |true=>rfl
  |false=>
   have:cmpI x.Epoch y.Epoch=0:=by simpa using q
   rw[this];rfl
 rw[e];exact h
theorem QbV{x y:Segment}(h:cmpSeg x y=0):x.Mat=y.Mat/\x.Epoch=y.Epoch:=by
 unfold cmpSeg orL at h;cases q:cmpI x.Mat y.Mat != 0 with
 |true=>rw[q]at h;simp only[Vk]at h;rw[h]at q;cases q
 |false=>
  rw[q]at h;have d:cmpI x.Mat y.Mat=0:=by simpa using q
  simp only[Vl,orL]at h;cases a:cmpI x.Epoch y.Epoch != 0 with
  |true=>rw[a]at h;simp only[Vk]at h;rw[h]at a;cases a
  |false=>
   have e:cmpI x.Epoch y.Epoch=0:=by simpa using a
   exact⟨Qpx.1 d,Qpx.1 e⟩
theorem Qgl{a:Anc}{p q:Ua×Bool}(h:cmpSeg (segOf a p) (segOf a q)=0):segOf a p=segOf a q:=by
 obtain⟨f,d⟩:=QbV h;have e:p.1=q.1:=by
  obtain⟨⟨l,m⟩,i⟩:=p;obtain⟨⟨g,j⟩,k⟩:=q;simp only[segOf]at f d;simp only[f,d]
 unfold segOf;rw[e]
theorem QfH(n:Nat)(m:Met×Anc):∀(p:Met) (s:List Segment),s.length+p.length<=1048576->Qej (F_gv n m) (F_ij n) s p=some (s++p.map (segOf m.2))
 |[],s,h=>by unfold Qej F_ij;simp
 |e::p,s,h=>by
  rw[XX]at h;have h1:F_gv n m s e=some (.cont (s++[segOf m.2 e])):=by
   unfold F_gv;simp only[XH];rw[Qbs _ _ (by omega)];rfl
  unfold Qej;rw[h1];show Qej _ _ (s++[segOf m.2 e]) p=_;rw[QfH n m p _ (by simp;omega)];simp
theorem Qmb{m:Met×Anc}{p:Met}(h:p.Perm m.1):QaR (ltC cmpSeg) (p.map (segOf m.2))=QaR (ltC cmpSeg) (m.1.map (segOf m.2)):=by
 refine Qbh (lt:=ltC cmpSeg) ((QT _ _).trans ((h.map _).trans (QT _ _).symm)) (λx g y f e d=>?_) (YI (Qb8 Qcc _)) (YI (Qb8 Qcc _));have e:=Vs e;have d:=Vs d;obtain⟨a,_,rfl⟩:=Xe.1 ((QT _ _).mem_iff.1 g);obtain⟨b,_,rfl⟩:=Xe.1 ((QT _ _).mem_iff.1 f);refine Qgl ?_;have:=Qcc.swap (segOf m.2 a) (segOf m.2 b);omega
theorem Qht{c:Course}{l:List Fact}{e:Int}(he:Ev (λn=>F_ag n c) e)(a:e≠0):Ev (λn=>F_s n c l) ([],e):=by
 unfold F_s;refine Ea he ?_;rw[show(e != 0)=true by simpa using a];exact Qa _
theorem QiJ{c:Course}{l:List Fact}(he:Ev (λn=>F_ag n c) 0)(j:l.length<=100):Ev (λn=>F_s n c l) (segV c l,0):=by
 obtain⟨i,_⟩:=Qg9 c l;have r:=QkB l;have s:(metA c l).1.length<=200:=XT i.len (by omega);unfold F_s;refine Ea he (QK ?_);simp only[F_ae,XH];refine Ea (QcI l 2 (by omega)) ?_;refine Ea (QeK (metX c) (λ_ _=>True) (cntS l 2) [] trivial λf _ m k _=>⟨?_,trivial⟩).1 ?_
 .unfold F_kl;exact Ea (QeD c m _ _) (Qa _)
 refine Ea (QcI l 4 (by omega)) ?_;refine Ea (QeK (metY c) (λ_ _=>True) (cntS l 4) _ trivial λf _ m k _=>⟨?_,trivial⟩).1 ?_
 .unfold F_ko;exact Ea (QeD c m _ _) (Ea (QeD c _ _ _) (Qa _))
 refine Ea (QcI l 3 (by omega)) ?_;refine Ea (QeK (metB c) (λ_ _=>True) (cntS l 3) (_,[]) trivial λf _ a k _=>⟨?_,trivial⟩).1 ?_
 .unfold F_km metB;refine Ea (QeD c a.1 _ _) ?_;simp only[XH];cases QaP a.2 (⟨f.Beacon.Mat,f.Beacon.Epoch⟩:Ua)<;>exact Qa _
 show Ev (λn=>bif decide (511<((metA c l).1.length:Int))then some ([],2)else anyP (λp=>(Qej (F_gv n (metA c l)) (F_ij n) [] p).bind λb=>(QbI (λx y=>F_ba n x y) b).bind λl=>some (l,0)) (metA c l).1) (segV c l,0);rw[QV (show¬(511<((metA c l).1.length:Int))by omega)];refine QK (Ev.anyP λp d=>?_);have q:=d.length_eq;simp only[QfH _ (metA c l) p [] (by simp;omega),Vd,XH];refine Ea (QkR (by rw[XY];omega) (λx _ y _=>Qix x y) Qcc λx g y h e=>?_) ?_
 .obtain⟨a,_,rfl⟩:=Xe.1 g;obtain⟨b,_,rfl⟩:=Xe.1 h;exact Qgl e
 .rw[Qmb d];exact Qa _
theorem QnM(c:Course)(l:List Fact):(segV c l).length<=2*l.length:=by
 obtain⟨a,_⟩:=Qg9 c l;have h:(segV c l).length=(metA c l).1.length:=by
  unfold segV;rw[(QT _ _).length_eq,XY]
 have:=QkB l;have:=a.len;omega
theorem QoM(c:Course)(l:List Fact):(segV c l).Pairwise λx y=>cmpSeg x y<0:=by
 obtain⟨f,_⟩:=Qg9 c l;have s:(segV c l).Pairwise λx y=>ltC cmpSeg y x=false:=YI (Qb8 Qcc _);have nd:((segV c l).map λs=>(⟨s.Mat,s.Epoch⟩:Ua)).Nodup:=by
  have p:=(QT (ltC cmpSeg) ((metA c l).1.map (segOf (metA c l).2))).map λs:Segment=>(⟨s.Mat,s.Epoch⟩:Ua);refine p.nodup_iff.2 ?_;rw[List.map_map];exact f.nodup
 unfold List.Nodup at nd;rw[List.pairwise_map]at nd;refine List.Pairwise.imp₂ (λx y a d=>?_) s nd;have a:=Vs a;have h:=Qcc.swap x y;refine Classical.byContradiction λq=>d ?_;obtain⟨e,g⟩:=QbV (x:=x) (y:=y) (by omega);rw[e,g]
set_option maxRecDepth 10000
theorem Qpj{c:Course}(h:courseE c=0):CrsOk c:=by
 unfold courseE at h;cases a:fitsS c with
 |false=>rw[a]at h;cases h
 |true=>
  rw[a,Vk]at h;cases e:namesS c with
  |false=>rw[e]at h;cases h
  |true=>
   rw[e,Vk]at h;cases d:numbersS c with
   |false=>rw[d]at h;cases h
   |true=>
    simp only[numbersS,lastS,inR,XU,Vm]at d;simp only[fitsS,XU,Bool.not_eq_true',Bool.or_eq_false_iff,decide_eq_false_iff_not]at a;have l:=d.2.2.2.2.2.2.2.2.2;exact⟨by omega,by omega,by omega⟩
theorem Qju(l m:List Segment)(hl:l.length<=1048576):Ev (λn=>F_gf n l m) (decide (l=m)):=Qox l m (λn=>F_kk n l m) (by omega) λn s=>rfl
theorem QoN:F_eu 300=some true:=by kernel_rfl
set_option maxRecDepth 10000
set_option maxRecDepth 10000
theorem Qpw{x:Int}:timeB x=true↔isT x:=by
 unfold timeB inR isT;rw[XU,Vm,Vm]
set_option maxRecDepth 10000
theorem QdF(c:Course)(x:Int):Ev (λn=>F_be n c x) (matB c x):=by
 unfold F_be matB;exact Ea (Eg λ_=>Qa _) (Qa _)
theorem Qbp(x:Int):Ev (λn=>F_bm n x) (timeB x):=by
 unfold F_bm timeB inR;exact Ea (Eg λ_=>Qa _) (Qa _)
theorem QiC{x k:Int}(d: -2199023255552<=x/\x<=2199023255552)(f:0<=k/\k<=100000):Ev (λn=>F_dc n x k) (driftV x k,0):=by
 obtain⟨i,m,l,j⟩:=Qdd d f;unfold F_dc;refine Ea (v:=false) ?_ ?_
 .rw[QV (show¬(x< -2199023255552)by omega),QV (show¬(2199023255552<x)by omega),QV (show¬(k<0)by omega),QV (show¬(100000<k)by omega)];exact Qa _
 refine QK (Ea (v:=if x<0-x then 0-x else x) ?_ ?_)
 .by_cases h:x<0
  .rw[QZ h,Vp (by omega),QH (by omega) (by omega)];exact Qa _
  .rw[QV h,Vn (by omega)];exact Qa _
 unfold driftV;generalize(if x<0-x then 0-x else x)*k=a at*;have e:Int.tdiv a 1000000=a/1000000:=Int.tdiv_eq_ediv_of_nonneg (by omega);have g:Int.tdiv (a+1000000-1) 1000000=(a+1000000-1)/1000000:=Int.tdiv_eq_ediv_of_nonneg (by omega);rw[QH (n:=a) (by omega) (by omega),e,g,QH (n:=a/1000000) (by omega) (by omega),QH (n:=a/1000000*1000000) (by omega) (by omega),QH (n:=a/1000000+1) (by omega) (by omega)];refine Ea (v:=(a+1000000-1)/1000000) ?_ (Qa _);by_cases h:a/1000000*1000000<a
 .rw[QZ h];exact Et (Qa _) (by omega)
 .rw[QV h];exact Et (Qa _) (by omega)
theorem Qlh{c:Course}(d:CrsOk c){i:Nat}{m:Mat}(f:c.Mats[i]?=some m){s:Segment}(j:s.Mat=(i:Int)){a:Int}(k:isT s.Anchor)(g:isT a):Ev (λn=>F_cm n c s a) (devV c m.Kind s a):=by
 obtain⟨l,r⟩:=d.res;have e: -2199023255552<=a-s.Anchor/\a-s.Anchor<=2199023255552:=by unfold isT at k g;omega
 obtain⟨p,q,_,_⟩:=Qdd e d.drift;unfold F_cm F_bc devV;simp only[j,Ym f,XH];by_cases h:m.Kind=1
 .simp only[h,bne_self_eq_false,Vl,beq_self_eq_true,Vk];exact Qa _
 .rw[show(m.Kind==1)=false by simpa using h,show(m.Kind != 1)=true by simpa using h];simp only[Vl,Vk];rw[QH (n:=a-s.Anchor) (by omega) (by omega)];refine Ea (QiC e d.drift) ?_;rw[QH (n:=0-driftV (a-s.Anchor) c.Faults.Drift) (by omega) (by omega),QH (n:=c.Faults.Residual+driftV (a-s.Anchor) c.Faults.Drift) (by omega) (by omega)];exact Qa _
theorem Qlm{c:Course}{e:Int}(k:Ev (λn=>F_ag n c) e)(j:Ev (λn=>F_ax n c) e)(t:e=0->CrsOk c)(s:Segment)(a:Int):
  ∃x,Ev (λn=>F_bo n c s a) x/\Ev (λn=>F_cg n c s a) x:=by
 unfold F_bo F_cg;by_cases l:e=0
 .subst l;have r:=t rfl;cases d:matB c s.Mat&&(timeB a&&timeB s.Anchor)with
  |false=>
   refine⟨(⟨0,0⟩,1),Ea k (QK (Ea (v:=true) ?_ (Qa _))),Ea j (QK (Ea (v:=true) ?_ (Qa _)))⟩
   .refine Ea (QfG c _) ?_;cases g:matB c s.Mat with
    |false=>exact Qa _
    |true=>
     refine QK (Ea (Qcb a) ?_);cases f:timeB a with
     |false=>exact Qa _
     |true=>
      refine QK (Ea (Qcb s.Anchor) ?_);rw[g,f]at d;simp only[Vw]at d;rw[d];exact Qa _
   .refine Ea (QdF c _) ?_;cases g:matB c s.Mat with
    |false=>exact Qa _
    |true=>
     refine QK (Ea (Qbp a) ?_);cases f:timeB a with
     |false=>exact Qa _
     |true=>
      refine QK (Ea (Qbp s.Anchor) ?_);rw[g,f]at d;simp only[Vw]at d;rw[d];exact Qa _
  |true=>
   rw[XU,XU]at d;obtain⟨g,f,h⟩:=d;obtain⟨i,m,q,p⟩:=Qjm g;refine⟨(⟨(devV c m.Kind s a).Lo,(devV c m.Kind s a).Hi⟩,0),Ea k (QK (Ea (v:=false) ?_ (QK (Ea (Qph r p q (Qpw.1 h) (Qpw.1 f)) (Qa _))))),Ea j (QK (Ea (v:=false) ?_ (QK (Ea (Qlh r p q (Qpw.1 h) (Qpw.1 f)) (Qa _)))))⟩
   .refine Ea (QfG c _) ?_;rw[g];refine QK (Ea (Qcb a) ?_);rw[f];refine QK (Ea (Qcb s.Anchor) ?_);rw[h];exact Qa _
   .refine Ea (QdF c _) ?_;rw[g];refine QK (Ea (Qbp a) ?_);rw[f];refine QK (Ea (Qbp s.Anchor) ?_);rw[h];exact Qa _
 .refine⟨(⟨0,0⟩,e),Ea k ?_,Ea j ?_⟩
  iterate 2 rw[show(e != 0)=true by simpa using l];exact Qa _
def ltG(x y:Segment):Prop:=cmpSeg x y<0
theorem QnW(x:Segment):¬ltG x x:=by have:=Qcc.refl x;unfold ltG;omega
theorem Qmo(x y z:Segment)(h1:ltG x y)(h2:ltG y z):ltG x z:=Qcc.trans x y z h1 h2
def lessB(x y:Segment):Bool:=decide (x.Mat<y.Mat)||((x.Mat==y.Mat)&&decide (x.Epoch<y.Epoch))
theorem Qgu(x y:Segment):lessB x y=true↔ltG x y:=by
 have e:=Qlu x y;unfold ltG;have:segLt x y=lessB x y:=rfl;rw[<- this];cases h:segLt x y with
 |true=>rw[h]at e;have:=Vs (e.trans rfl);exact⟨λ_=>by omega,λ_=>rfl⟩
 |false=>rw[h]at e;have:=Vr (e.trans rfl);exact⟨(λh=>by cases h),λh=>by omega⟩
theorem Qkx(x y:Segment):Ev (λn=>F_ci n x y) (lessB x y):=by
 unfold F_ci lessB;exact Ea (Er λ_=>Eg λ_=>Qa _) (Qa _)
def posS(p:Segment):List Segment->Nat
 |[]=>0
 |x::r=>bif lessB x p then posS p r+1 else 0
theorem Qg4(p:Segment):∀l,posS p l<=l.length
 |[]=>XR _
 |x::r=>by
  have:=Qg4 p r;unfold posS;cases lessB x p<;>simp only[Vk,Vl,XX]<;>omega
def insS(p:Segment)(l:List Segment):List Segment:=match l[posS p l]? with
 |some x=>bif (x.Mat==p.Mat)&&(x.Epoch==p.Epoch)then l else l.take (posS p l)++([p]++l.drop (posS p l))
 |none=>l++[p]
theorem Qe7(p:Segment):∀(l:List Segment),∀x∈l.take (posS p l),ltG x p
 |[],x,h=>by simp at h
 |y::r,x,h=>by
  unfold posS at h;cases q:lessB y p with
  |false=>rw[q]at h;simp at h
  |true=>
   rw[q,Vk,List.take_succ_cons,X3]at h;rcases h with rfl|h
   .exact(Qgu _ _).1 q
   .exact Qe7 p r x h
theorem Qme(p:Segment):∀(l:List Segment) (x:Segment),l[posS p l]?=some x->¬ltG x p
 |[],x,h=>by simp at h
 |y::r,x,h=>by
  unfold posS at h;cases q:lessB y p with
  |false=>
   rw[q]at h;simp only[Vl,XC,Option.some.injEq]at h;subst h;intro z;rw[(Qgu _ _).2 z]at q;cases q
  |true=>
   rw[q,Vk,XD]at h;exact Qme p r x h
structure RefS (l:List Segment):Prop where
 lt:l.Pairwise ltG
 an:∀s∈l,s.Anchor=0
theorem Qje{x y:Segment}(e:x.Mat=y.Mat)(a:x.Epoch=y.Epoch)(d:x.Anchor=y.Anchor):x=y:=by
 cases x;cases y;simp only at e a d;subst e a d;rfl
theorem Qn0{l:List Segment}(h:RefS l){p:Segment}(r:p.Anchor=0):RefS (insS p l)/\(∀s,s∈insS p l↔s∈l\/s=p)/\(insS p l).length<=l.length+1:=by
 have G:=Qg4 p l;unfold insS;cases q:l[posS p l]? with
 |none=>
  have i:l.length<=posS p l:=List.getElem?_eq_none_iff.1 q;have w:=Qe7 p l;rw[VE i]at w;refine⟨⟨List.pairwise_append.2 ⟨h.lt,List.pairwise_singleton _ _,λx n y g=>by simp at g;subst g;exact w x n⟩,λs d=>?_⟩,λs=>by simp,by simp⟩;rcases Vz.1 d with d|d
  .exact h.an s d
  .simp at d;rw[d];exact r
 |some x=>
  have n:=VD q
  dsimp only
  cases z:(x.Mat==p.Mat)&&(x.Epoch==p.Epoch)with
  |true=>
   rw[XU,Vu,Vu]at z;have e:x=p:=Qje z.1 z.2 (by rw[h.an x n,r]);refine⟨h,λs=>⟨λa=>.inl a,λa=>a.elim id λa=>by rw[a, <- e];exact n⟩,by simp⟩
  |false=>
   have B:=Qme p l x q;have m:=(XJ.1 q).1;have E:l.drop (posS p l)=x::l.drop (posS p l+1):=by
    rw[Xo m];rw[XI m]at q;cases q;rfl
   have u:ltG p x:=by
    have H:=Qcc.swap p x;unfold ltG at B⊢;by_cases e:cmpSeg x p=0
    .obtain⟨a,b⟩:=QbV e;rw[a,b]at z;simp at z
    .omega
   have j:=h.lt;rw[<- Xx (posS p l) l,List.pairwise_append]at j;have F:∀y∈l.drop (posS p l),ltG p y:=by
    intro y g;have t:=j.2.1;rw[E]at g t;rw[Xc]at t;rcases X3.1 g with rfl|g
    .exact u
    .exact Qmo _ _ _ u (t.1 y g)
   refine⟨⟨?_,λs d=>?_⟩,λs=>?_,?_⟩
   .rw[Vl,List.pairwise_append];refine⟨j.1,List.pairwise_append.2 ⟨List.pairwise_singleton _ _,j.2.1,λa k b f=>by simp at k;subst k;exact F b f⟩,λa k b f=>?_⟩;rcases Vz.1 f with f|f
    .simp at f;subst f;exact Qe7 _ l a k
    .exact j.2.2 a k b f
   .simp only[Vl,Vz,Vx]at d;rcases d with d|d|d
    .exact h.an s (List.mem_of_mem_take d)
    .rw[d];exact r
    .exact h.an s (List.mem_of_mem_drop d)
   .simp only[Vl,Vz,Vx];constructor
    .rintro(a|a|a)
     .exact .inl (List.mem_of_mem_take a)
     .exact .inr a
     .exact .inl (List.mem_of_mem_drop a)
    .rintro(a|a)
     .rw[<- Xx (posS p l) l,Vz]at a;exact a.elim .inl λa=>.inr (.inr a)
     .exact .inr (.inl a)
   .simp only[Vl,XZ,Xw,List.length_singleton,List.length_drop];omega
def withV(c:Course)(l:List Segment)(x e:Int):List Segment:=bif okPl c x then insS ⟨x,e,0⟩ l else l
theorem QeC{c:Course}{l:List Segment}(y:l.length<=1000)(x e:Int):Ev (λn=>F_ak n c l x e) (withV c l x e):=by
 unfold F_ak withV;refine Ea (v:= !okPl c x) ?_ ?_
 .refine Ea (QdF c x) ?_;unfold okPl;cases q:matB c x with
  |false=>exact Qa _
  |true=>
   obtain⟨i,m,rfl,j⟩:=Qjm q;unfold F_bc;simp only[Xg,Vl,Ym j,XH,Vw,Int.toNat_natCast,j,bne,Bool.not_not];exact Qa _
 .cases okPl c x with
  |false=>exact Qa _
  |true=>
   simp only[Xg,Vl,Vk];have loop:∀(r:List Segment) (i:Nat),l.drop i=r->i<=l.length->EvI (λn=>F_fm n l x e) (i:Int) ((i+posS ⟨x,e,0⟩ r:Nat):Int):=by
    intro r
    induction r with
    |nil=>
     intro i h p;refine Eh ?_;unfold F_fm;simp only[Q5 h p,Vl,XH,posS,Xv];exact Qa _
    |cons s r t=>
     intro i h p;obtain⟨d,g⟩:=QC (by omega) h;have a:=d.lt';cases q:lessB s ⟨x,e,0⟩with
     |true=>
      have f:posS ⟨x,e,0⟩ (s::r)=posS ⟨x,e,0⟩ r+1:=by show(bif lessB s _ then _ else _)=_;rw[q];rfl
      rw[f,show i+(posS ⟨x,e,0⟩ r+1)=(i+1)+posS ⟨x,e,0⟩ r by omega];refine Eu ?_ (t (i+1) g (by omega));unfold F_fm;simp only[d.lt,Vk,d.ix,XH,d.nx];refine Ea (Ea (Qkx _ _) (Qa _)) ?_;rw[q];exact Qa _
     |false=>
      have f:posS ⟨x,e,0⟩ (s::r)=0:=by show(bif lessB s _ then _ else _)=_;rw[q];rfl
      rw[f];refine Eh ?_;unfold F_fm;simp only[d.lt,Vk,d.ix,XH];refine Ea (Ea (Qkx _ _) (Qa _)) ?_;rw[q];exact Qa _
   have lp:=(loop l 0 rfl (XS _)).ev;rw[Xu]at lp;refine Ea lp ?_;have u:=Qg4 ⟨x,e,0⟩ l;unfold insS;cases q:l[posS ⟨x,e,0⟩ l]? with
   |none=>
    have k:l.length<=posS ⟨x,e,0⟩ l:=List.getElem?_eq_none_iff.1 q;have w:posS ⟨x,e,0⟩ l=l.length:=by omega
    rw[w,QV (show¬((l.length:Int)<(l.length:Int))by omega)];refine Ea (v:=false) (Qa _) (QK ?_);rw[QcS l (XR _),XH,Qbt _ _ (by simp),XH,QeT l (XR _),XH,Qbt _ _ (by simp;omega),XH];exact Et (Qa _) (by simp)
   |some s=>
    have a:=(XJ.1 q).1
    dsimp only
    rw[QZ (show((posS ⟨x,e,0⟩ l:Nat):Int)<(l.length:Int)by omega)];simp only[Vk,Ym q,XH];refine Ea (v:=(s.Mat==x)&&(s.Epoch==e)) (Eg λ_=>Qa _) ?_;cases(s.Mat==x)&&(s.Epoch==e)with
    |true=>exact Qa _
    |false=>
     refine QK ?_;rw[QcS l (Nat.le_of_lt a),XH,Qbt _ _ (by simp;omega),XH,QeT l (Nat.le_of_lt a),XH,Qbt _ _ (by simp;omega),XH];exact Qa _
set_option maxRecDepth 10000
def hitF(f:Fact)(x e:Int):Prop:=(f.Kind=2/\x=f.Read.Mat/\e=f.Read.Epoch)\/(f.Kind=3/\x=f.Beacon.Mat/\e=f.Beacon.Epoch)\/(f.Kind=4/\((x=f.Sync.MatA/\e=f.Sync.EpochA)\/(x=f.Sync.MatB/\e=f.Sync.EpochB)))
def stepR(c:Course)(out:List Segment)(f:Fact):List Segment:=
 bif f.Kind==2 then withV c out f.Read.Mat f.Read.Epoch else bif f.Kind==3 then withV c out f.Beacon.Mat f.Beacon.Epoch else bif f.Kind==4 then withV c (withV c out f.Sync.MatA f.Sync.EpochA) f.Sync.MatB f.Sync.EpochB else out
theorem QcR{c:Course}{f:List Segment}(h:RefS f)(x e:Int):RefS (withV c f x e)/\(∀s,s∈withV c f x e↔s∈f\/(okPl c x=true/\s=⟨x,e,0⟩))/\(withV c f x e).length<=f.length+1:=by
 unfold withV;cases q:okPl c x with
 |false=>exact⟨h,λs=>by simp,by simp⟩
 |true=>
  obtain⟨a,b,d⟩:=Qn0 h (p:=⟨x,e,0⟩) rfl;exact⟨a,λs=>by rw[Vk,b];simp,d⟩
theorem Qj4{c:Course}{g:List Segment}(h:RefS g)(f:Fact):RefS (stepR c g f)/\(∀s,s∈stepR c g f↔s∈g\/(okPl c s.Mat=true/\s.Anchor=0/\hitF f s.Mat s.Epoch))/\(stepR c g f).length<=g.length+2:=by
 have one:∀(x e:Int) (s:Segment),(okPl c x=true/\s=⟨x,e,0⟩)↔(okPl c s.Mat=true/\s.Anchor=0/\s.Mat=x/\s.Epoch=e):=λx e s=>by
  constructor
  .rintro⟨a,rfl⟩;exact⟨a,rfl,rfl,rfl⟩
  .rintro⟨a,b,rfl,rfl⟩;exact⟨a,Qje rfl rfl b⟩
 unfold stepR hitF;by_cases j:f.Kind=2
 .rw[show(f.Kind==2)=true by simpa using j,Vk];obtain⟨a,b,d⟩:=QcR (c:=c) h f.Read.Mat f.Read.Epoch;exact⟨a,λs=>by rw[b,one];simp[j],by omega⟩
 .rw[show(f.Kind==2)=false by simpa using j,Vl];by_cases k:f.Kind=3
  .rw[show(f.Kind==3)=true by simpa using k,Vk];obtain⟨a,b,d⟩:=QcR (c:=c) h f.Beacon.Mat f.Beacon.Epoch;exact⟨a,λs=>by rw[b,one];simp[k],by omega⟩
  .rw[show(f.Kind==3)=false by simpa using k,Vl];by_cases i:f.Kind=4
   .rw[show(f.Kind==4)=true by simpa using i,Vk];obtain⟨a,b,d⟩:=QcR (c:=c) h f.Sync.MatA f.Sync.EpochA;obtain⟨n,p,r⟩:=QcR (c:=c) a f.Sync.MatB f.Sync.EpochB;exact⟨n,λs=>by
     rw[p,b,one,one];simp only[i,true_and,show¬((4:Int)=2)by decide,show¬((4:Int)=3)by decide,false_and,false_or];constructor
     .rintro((q|q)|q)
      .exact .inl q
      .exact .inr ⟨q.1,q.2.1,.inl q.2.2⟩
      .exact .inr ⟨q.1,q.2.1,.inr q.2.2⟩
     .rintro(q|⟨m,l,q|q⟩)
      .exact .inl (.inl q)
      .exact .inl (.inr ⟨m,l,q⟩)
      .exact .inr ⟨m,l,q⟩,by omega⟩
   .rw[show(f.Kind==4)=false by simpa using i,Vl];exact⟨h,λs=>by simp[j,k,i],by omega⟩
def outR(c:Course)(l:List Fact):List Segment:=(canonS l).foldl (stepR c) []
theorem Qjl{c:Course}:∀(r:List Fact) (out:List Segment),RefS out->RefS (r.foldl (stepR c) out)/\(∀s,s∈r.foldl (stepR c) out↔s∈out\/(okPl c s.Mat=true/\s.Anchor=0/\ ∃f∈r,hitF f s.Mat s.Epoch))/\(r.foldl (stepR c) out).length<=out.length+2*r.length
 |[],out,h=>⟨h,λs=>by simp,by simp⟩
 |f::r,out,h=>by
  obtain⟨a,b,d⟩:=Qj4 (c:=c) h f;obtain⟨a',b',d'⟩:=Qjl r _ a;refine⟨a',λs=>?_,by rw[XX];show(r.foldl (stepR c) (stepR c out f)).length<=_;omega⟩;show s∈r.foldl (stepR c) (stepR c out f)↔_;rw[b',b];simp only[X3,exists_eq_or_imp];constructor
  .rintro((q|q)|q)
   .exact .inl q
   .exact .inr ⟨q.1,q.2.1,.inl q.2.2⟩
   .exact .inr ⟨q.1,q.2.1,.inr q.2.2⟩
  .rintro(q|⟨q1,q2,q|q⟩)
   .exact .inl (.inl q)
   .exact .inl (.inr ⟨q1,q2,q⟩)
   .exact .inr ⟨q1,q2,q⟩
theorem Qk9{α β:Type}[DecidableEq α](m:List (α×β))(k:α)(v:β)(p:α):p∈(Yw m k v).map (·.1)↔p∈m.map (·.1)\/p=k:=by
 rw[QdA];split
 .rename_i h;exact⟨.inl,λq=>q.elim id λe=>e▸h⟩
 .simp
theorem Qc3(c:Course)(m:Met)(x e:Int)(p:Ua):p∈(meetV c m x e).map (·.1)↔p∈m.map (·.1)\/(okPl c p.mat=true/\p.mat=x/\p.epoch=e):=by
 unfold meetV;cases q:okPl c x with
 |false=>
  rw[Vl];refine⟨.inl,λh=>h.elim id λ⟨a,b,_⟩=>?_⟩;rw[b,q]at a;cases a
 |true=>
  rw[Vk,Qk9];constructor
  .rintro(h|rfl)
   .exact .inl h
   .exact .inr ⟨q,rfl,rfl⟩
  .rintro(h|⟨_,b,d⟩)
   .exact .inl h
   .refine .inr ?_;cases p;simp only at b d;rw[b,d]
theorem Qc7{α:Type}(g:Met->α->Met)(P:α->Ua->Prop)(h:∀m x p,p∈(g m x).map (·.1)↔p∈m.map (·.1)\/P x p):∀(l:List α) (m:Met) (p:Ua),p∈(l.foldl g m).map (·.1)↔p∈m.map (·.1)\/ ∃x∈l,P x p
 |[],m,p=>by simp
 |x::l,m,p=>by
  rw[XB,Qc7 g P h l,h];simp only[X3,exists_eq_or_imp];constructor
  .rintro((a|a)|a)
   .exact .inl a
   .exact .inr (.inl a)
   .exact .inr (.inr a)
  .rintro(a|a|a)
   .exact .inl (.inl a)
   .exact .inl (.inr a)
   .exact .inr a
theorem Qib(c:Course):∀(l:List Fact) (a:Met×Anc),(l.foldl (metB c) a).1=l.foldl (λm f=>meetV c m f.Beacon.Mat f.Beacon.Epoch) a.1
 |[],_=>rfl
 |f::l,a=>by rw[XB,XB,Qib c l];rfl
theorem Qia(c:Course):∀(l:List Fact) (a:Met×Anc),(l.foldl (metB c) a).2=l.foldl (λ(m:Anc) f=>bif !QaP m (⟨f.Beacon.Mat,f.Beacon.Epoch⟩:Ua)then Yw m ⟨f.Beacon.Mat,f.Beacon.Epoch⟩ f.Beacon.Local else m) a.2
 |[],_=>rfl
 |f::l,a=>by rw[XB,XB,Qia c l];rfl
theorem Qke(c:Course)(l:List Fact)(p:Ua):p∈(metA c l).1.map (·.1)↔okPl c p.mat=true/\ ∃f∈canonS l,hitF f p.mat p.epoch:=by
 unfold metA;rw[Qib,Qc7 _ (λf p=>okPl c p.mat=true/\p.mat=f.Beacon.Mat/\p.epoch=f.Beacon.Epoch) (λm f p=>Qc3 c m _ _ p),
  Qc7 (metY c) (λf p=>okPl c p.mat=true/\((p.mat=f.Sync.MatA/\p.epoch=f.Sync.EpochA)\/(p.mat=f.Sync.MatB/\p.epoch=f.Sync.EpochB))) (λm f p=>by
   unfold metY;rw[Qc3,Qc3];constructor
   .rintro((a|a)|a)
    .exact .inl a
    .exact .inr ⟨a.1,.inl a.2⟩
    .exact .inr ⟨a.1,.inr a.2⟩
   .rintro(a|⟨a,b|b⟩)
    .exact .inl (.inl a)
    .exact .inl (.inr ⟨a,b⟩)
    .exact .inr ⟨a,b⟩),
  Qc7 (metX c) (λf p=>okPl c p.mat=true/\p.mat=f.Read.Mat/\p.epoch=f.Read.Epoch) (λm f p=>Qc3 c m _ _ p)]
 unfold cntS hitF;simp only[Vg,List.not_mem_nil,false_or,Xd,Vu];constructor
 .rintro((⟨f,⟨h,d⟩,g,e⟩|⟨f,⟨h,d⟩,g,e⟩)|⟨f,⟨h,d⟩,g,e⟩)
  .exact⟨g,f,h,.inl ⟨d,e⟩⟩
  .exact⟨g,f,h,.inr (.inr ⟨d,e⟩)⟩
  .exact⟨g,f,h,.inr (.inl ⟨d,e⟩)⟩
 .rintro⟨g,f,h,⟨d,e⟩|⟨d,e⟩|⟨d,e⟩⟩
  .exact .inl (.inl ⟨f,⟨h,d⟩,g,e⟩)
  .exact .inr ⟨f,⟨h,d⟩,g,e⟩
  .exact .inl (.inr ⟨f,⟨h,d⟩,g,e⟩)
def isB(x e:Int)(f:Fact):Bool:=(f.Kind==3)&&((f.Beacon.Mat==x)&&(f.Beacon.Epoch==e))
def ancR(l:List Fact)(x e a:Int):Int:=match l.find? (isB x e)with
 |some f=>f.Beacon.Local
 |none=>a
theorem QkF(p:Ua):∀(l:List Fact) (m:Anc),Jj (l.foldl (λ(m:Anc) f=>bif !QaP m (⟨f.Beacon.Mat,f.Beacon.Epoch⟩:Ua)then Yw m ⟨f.Beacon.Mat,f.Beacon.Epoch⟩ f.Beacon.Local else m) m) p=
  (match Jj m p with|some v=>some v|none=>(l.find? λf=>(f.Beacon.Mat==p.mat)&&(f.Beacon.Epoch==p.epoch)).map (·.Beacon.Local))
 |[],m=>by
  show Jj m p=_;cases Jj m p<;>rfl
 |f::l,m=>by
  rw[XB,QkF p l,List.find?_cons];have hh:∀q:Ua,QaP m q=(Jj m q).isSome:=λq=>by
   unfold QaP Jj;rw[Option.isSome_map]
   induction m with
   |nil=>rfl
   |cons a m ih=>
    rw[List.any_cons,List.find?_cons,ih];cases decide (a.1=q)<;>rfl
  by_cases e:p=⟨f.Beacon.Mat,f.Beacon.Epoch⟩
  .subst e;simp only[beq_self_eq_true,Bool.and_self];rw[hh];cases q:Jj m (⟨f.Beacon.Mat,f.Beacon.Epoch⟩:Ua)with
   |some v=>simp only[Option.isSome_some,Xg,Vl,q]
   |none=>simp only[Option.isSome_none,Xh,Vk,Qb7,if_true,Xj]
  .have ne:((f.Beacon.Mat==p.mat)&&(f.Beacon.Epoch==p.epoch))=false:=by
    cases z:(f.Beacon.Mat==p.mat)&&(f.Beacon.Epoch==p.epoch)with
    |false=>rfl
    |true=>
     rw[XU,Vu,Vu]at z;refine absurd ?_ e;cases p;simp only at z;rw[z.1,z.2]
   rw[ne];have g:Jj (bif !QaP m (⟨f.Beacon.Mat,f.Beacon.Epoch⟩:Ua)then Yw m ⟨f.Beacon.Mat,f.Beacon.Epoch⟩ f.Beacon.Local else m) p=Jj m p:=by
    cases QaP m (⟨f.Beacon.Mat,f.Beacon.Epoch⟩:Ua)with
    |true=>rfl
    |false=>simp only[Xh,Vk,Qb7,Vn e]
   rw[g]
theorem Qm4(c:Course)(l:List Fact)(p:Ua):Q1 (metA c l).2 p 0=ancR (canonS l) p.mat p.epoch 0:=by
 unfold metA Q1 ancR;rw[Qia,QkF];have e:Jj ([]:Anc) p=none:=rfl;have d:∀r:List Fact,(r.filter λf=>f.Kind==3).find? (λf=>(f.Beacon.Mat==p.mat)&&(f.Beacon.Epoch==p.epoch))=r.find? (isB p.mat p.epoch):=by
  intro r
  induction r with
  |nil=>rfl
  |cons f r a=>
   rw[List.filter_cons,List.find?_cons];unfold isB;cases q:f.Kind==3 with
   |false=>simp only[Bool.false_and,Xi,if_false];exact a
   |true=>
    simp only[Vw,if_true,List.find?_cons];cases(f.Beacon.Mat==p.mat)&&(f.Beacon.Epoch==p.epoch)with
    |true=>rfl
    |false=>exact a
 simp only[e];unfold cntS;rw[d];cases(canonS l).find? (isB p.mat p.epoch)<;>rfl
def anchS(C:List Fact)(s:Segment):Segment:=⟨s.Mat,s.Epoch,ancR C s.Mat s.Epoch 0⟩
theorem QnL(c:Course)(l:List Fact):(outR c l).map (anchS (canonS l))=segV c l:=by
 obtain⟨i,f,_⟩:=Qjl (c:=c) (canonS l) [] ⟨List.Pairwise.nil,λs h=>by cases h⟩;refine Qcz QnW Qmo (List.pairwise_map.2 (i.lt.imp λh=>h)) (QoM c l) λs=>?_;have g:s∈segV c l↔ ∃p∈(metA c l).1.map (·.1),s=⟨p.mat,p.epoch,Q1 (metA c l).2 p 0⟩:=by
  unfold segV;rw[(QT _ _).mem_iff,Xe];constructor
  .rintro⟨p,a,rfl⟩;exact⟨p.1,Xe.2 ⟨p,a,rfl⟩,rfl⟩
  .rintro⟨_,k,rfl⟩;obtain⟨p,a,rfl⟩:=Xe.1 k;exact⟨p,a,rfl⟩
 rw[g,Xe];constructor
 .rintro⟨t,j,rfl⟩;have q:=(f t).1 j;rcases q with q|⟨e,m,d⟩
  .cases q
  .exact⟨⟨t.Mat,t.Epoch⟩,(Qke c l _).2 ⟨e,d⟩,by rw[Qm4];rfl⟩
 .rintro⟨p,a,rfl⟩;obtain⟨e,d⟩:=(Qke c l p).1 a;exact⟨⟨p.mat,p.epoch,0⟩,(f _).2 (.inr ⟨e,rfl,d⟩),by rw[Qm4];rfl⟩
theorem QfC(C:List Fact)(h:C.length<=1000)(S:List Segment)(i:Nat)(s:Segment)(hi:S[i]?=some s):∀(j:Nat) (a:Int),j<=C.length->
  EvI (λn=>F_hi n C (S,(i:Int))) (S.set i ⟨s.Mat,s.Epoch,a⟩,(j:Int)-1) (S.set i ⟨s.Mat,s.Epoch,ancR (C.take j) s.Mat s.Epoch a⟩)
 |0,a,_=>by
  refine Eh ?_;unfold F_hi;rw[QV (show¬(0<=((0:Nat):Int)-1)by omega)];exact Qa _
 |j+1,a,hj=>by
  have hlt:i<S.length:=(XJ.1 hi).1;have hj':j<C.length:=by omega
  have d:=XI hj';generalize C[j]=f at d;have e:(S.set i ⟨s.Mat,s.Epoch,a⟩)[i]?=some ⟨s.Mat,s.Epoch,a⟩:=Xa hlt;have l:ancR (C.take (j+1)) s.Mat s.Epoch a=ancR (C.take j) s.Mat s.Epoch (bif isB s.Mat s.Epoch f then f.Beacon.Local else a):=by
   unfold ancR;rw[List.take_add_one,d,Option.toList_some,List.find?_append];cases(C.take j).find? (isB s.Mat s.Epoch)with
   |some g=>rfl
   |none=>
    simp only[List.find?_cons,List.find?_nil,Option.none_or];cases isB s.Mat s.Epoch f<;>rfl
  rw[l];refine Eu ?_ (QfC C h S i s hi j (bif isB s.Mat s.Epoch f then f.Beacon.Local else a) (by omega));have k:((j+1:Nat):Int)-1=(j:Int):=by omega
  have w:i64.wrap ((j:Int)-1)=(j:Int)-1:=QH (by omega) (by omega);unfold F_hi;simp only[k,QZ (show(0:Int)<=(j:Int)by omega),Vk,Ym d,XH,Ym e,w];refine Ea (v:=isB s.Mat s.Epoch f) (Eg λ_=>Eg λ_=>Qa _) ?_;refine Ea (v:=S.set i ⟨s.Mat,s.Epoch,bif isB s.Mat s.Epoch f then f.Beacon.Local else a⟩) ?_ (Qa _);cases isB s.Mat s.Epoch f with
  |false=>exact Qa _
  |true=>
   simp only[Vk];rw[QeV _ _ (by rw[X0];exact hlt),XH,List.set_set];exact Qa _
theorem Qfz{c:Course}{l:List Fact}{e:Int}(he:Ev (λn=>F_ax n c) e)(V:l.length<=100):Ev (λn=>F_dp n c l) (bif e != 0 then([],e)else(segV c l,0)):=by
 have R:=QcK l;obtain⟨N,W,P⟩:=Qjl (c:=c) (canonS l) [] ⟨List.Pairwise.nil,λs h=>by cases h⟩;have T:(outR c l).length<=200:=XT P (by simp;omega);unfold F_dp;refine Ea he ?_;cases e != 0 with
 |true=>exact Qa _
 |false=>
  refine QK (Ea (QiD l (by omega)) ?_);have O:∀(r:List Fact) (i:Nat) (g:List Segment),(canonS l).drop i=r->i<=(canonS l).length->RefS g->g.length<=2*i->EvI (λn=>F_iy n c (canonS l)) (g,(i:Int)) (r.foldl (stepR c) g):=by
   intro r
   induction r with
   |nil=>
    intro i g F x G j;refine Eh ?_;unfold F_iy;simp only[Q5 F x,Vl];exact Qa _
   |cons f r B=>
    intro i g F x G j;obtain⟨y,z⟩:=QC (by omega) F;have J:=y.lt';obtain⟨a,_,d⟩:=Qj4 (c:=c) G f;refine Eu ?_ (B (i+1) (stepR c g f) z (by omega) a (by omega));unfold F_iy stepR;simp only[y.lt,Vk,y.ix,XH,y.nx];refine Ea ?_ (Qa _);cases f.Kind==2 with
    |true=>exact Ea (QeC (by omega) _ _) (Qa _)
    |false=>
     refine QK ?_;cases f.Kind==3 with
     |true=>exact Ea (QeC (by omega) _ _) (Qa _)
     |false=>
      refine QK ?_;cases f.Kind==4 with
      |true=>
       obtain⟨_,_,X⟩:=QcR (c:=c) G f.Sync.MatA f.Sync.EpochA;exact Ea (QeC (by omega) _ _) (Ea (QeC (by omega) _ _) (Qa _))
      |false=>exact Qa _
  refine Ea (O (canonS l) 0 [] rfl (XS _) ⟨List.Pairwise.nil,λs h=>by cases h⟩ (by simp)).ev ?_;show Ev (λn=>bif decide (511<((outR c l).length:Int))then some ([],2)else(iter (F_ft n (canonS l)) n (outR c l,0)).bind λb=>some (b,0)) _;rw[QV (show¬(511<((outR c l).length:Int))by omega)];refine QK ?_;have M:∀(m i:Nat),i+m=(outR c l).length->EvI (λn=>F_ft n (canonS l)) (((outR c l).take i).map (anchS (canonS l))++(outR c l).drop i,(i:Int)) ((outR c l).map (anchS (canonS l))):=by
   intro m
   induction m with
   |zero=>
    intro i x;obtain rfl:i=(outR c l).length:=by omega
    refine Eh ?_;unfold F_ft;simp only[X6,Xq,Vc,XY,QV (show¬(((outR c l).length:Int)<((outR c l).length:Int))by omega),Vl];exact Qa _
   |succ m B=>
    intro i x;have p:i<(outR c l).length:=by omega
    generalize hL:((outR c l).take i).map (anchS (canonS l))++(outR c l).drop i=L;have j:L.length=(outR c l).length:=by rw[<- hL];simp;omega
    have w:(((outR c l).take i).map (anchS (canonS l))).length=i:=by simp;omega
    have u:L[i]?=some (outR c l)[i]:=by
     rw[<- hL,XL (by omega),w,Nat.sub_self,List.getElem?_drop,Xv];exact XI p
    have E:=N.an _ (List.getElem_mem p);have Q:(⟨(outR c l)[i].Mat,(outR c l)[i].Epoch,0⟩:Segment)=(outR c l)[i]:=Qje rfl rfl E.symm;have fin:=QfC (canonS l) (by omega) L i _ u (canonS l).length 0 (XR _);rw[Q,X6]at fin;have same:L.set i (outR c l)[i]=L:=by
     refine List.ext_getElem? λk=>?_;by_cases e:k=i
     .subst e;rw[Xa (by omega),u]
     .rw[XN (by omega)]
    rw[same]at fin;have t:=B (i+1) (by omega);have H:((outR c l).take (i+1)).map (anchS (canonS l))++(outR c l).drop (i+1)=L.set i (anchS (canonS l) (outR c l)[i]):=by
     rw[<- hL,List.set_append_right _ _ (by omega),w,Nat.sub_self,Xo p,List.set_cons_zero,List.take_add_one,XI p,Xf,Ve];rfl
    rw[H]at t;refine Eu ?_ t;unfold F_ft;simp only[j,QZ (show(i:Int)<((outR c l).length:Int)by omega),Vk,Yi (show i<9223372036854775807 by omega)];rw[QH (n:=((canonS l).length:Int)-1) (by omega) (by omega)];exact Ea fin.ev (Qa _)
  have q:=(M (outR c l).length 0 (by omega)).ev;simp only[List.take_zero,Vg,Vd,List.drop_zero]at q;refine Ea q ?_;rw[QnL];exact Qa _
end Go.Sw
