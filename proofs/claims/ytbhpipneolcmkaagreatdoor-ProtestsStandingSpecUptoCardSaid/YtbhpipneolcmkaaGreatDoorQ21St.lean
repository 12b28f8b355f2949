/- The plain laws that a law needs, with no program in sight. -/
import Derived.Test.YtbhpipneolcmkaaGreatDoorW21St
set_option linter.unusedVariables false
set_option linter.unusedSimpArgs false
namespace Go.Sw
open List(map)
open Int(toNat)
open Go.IntKind(i64 u64 u8)
def inR(lo hi x:Int):Bool:=decide (lo<=x)&&decide (x<=hi)
theorem Qhp(lo hi:Int)(l:List Int)(hl:l.length<=4611686018427387904):Ev (λn=>F_a n lo hi l) (l.all (inR lo hi)):=by
 have h:Ev (λn=>F_et n l lo hi) (l.any λx=> !inR lo hi x):=by
  refine Ev.contains l _ (λn x=>F_gn n x lo hi) hl λx _=>?_;refine Ea ((Ep λh=>Qa _).eq ?_) (Qa _);unfold inR;rw[XW];simp
 refine Ea h ((Qa _).eq ?_);rw[List.not_any_eq_all_not];simp
def okN(c:Nat):Bool:=(decide (97<=c)&&decide (c<=122))||(decide (48<=c)&&decide (c<=57))||decide (c=95)
def okAN(c:Nat):Bool:=decide (97<=c)&&decide (c<=122)
def okC(c:UInt8):Bool:=okN c.toNat
def okA(c:UInt8):Bool:=okAN c.toNat
def kwL:List (List UInt8):=[[99,111,117,114,115,101],[109,97,116,115],[115,116,97,114,116],[112,97,115,115],[101,110,100],[108,101,103],[116,111],[100,105,115,116,97,110,99,101],[103,117,110],[99,104,105,112],[115,108,111,116],[108,97,112,115],[108,97,112],[99,117,116,111,102,102],[101,120,116,114,97],[119,97,118,101],[111,102,102,101,110,99,101],[111,117,116],[99,97,116,101,103,111,114,121],[112,114,105,122,101],[97,108,108],[116,105,101,115],[105,102],[101,108,115,101],[97,110,100],[111,114],[110,111,116],[111,108,100,101,114],[121,111,117,110,103,101,114],[98,105,98],[100,114,97,119],[102,105,101,108,100],[115,104,111,114,116],[102,97,117,108,116,115],[109,105,115,115,101,115],[115,116,114,97,121,115],[119,105,110,100,111,119],[114,101,115,105,100,117,97,108],[100,114,105,102,116],[112,114,111,116,101,115,116],[102,101,101],[100,101,97,100,108,105,110,101]]
theorem Qiw(c d:Bool):(bif c then some c else some d)=some (c||d):=by cases c<;>rfl
theorem Qfe(c d:Bool):(bif c then some true else some d)=some (c||d):=by cases c<;>rfl
theorem QgG(n:Nat)(s:List UInt8):F_dx n s=some (kwL.contains s):=by
 unfold F_dx;simp only[Qiw,Qfe,XH];simp only[kwL,List.contains_cons,List.contains_nil,Bool.or_assoc]
def kwsOf:List UInt8->List (List UInt8)
 |[]=>[]
 |b::l=>(bif b==32&& !(l.dropWhile λc=>c != 32).isEmpty then[l.takeWhile λc=>c != 32]else[])++kwsOf l
theorem Qev:∀(l s:List UInt8),(∀c∈s,c≠32)->(s++[32]).isPrefixOf l=((l.takeWhile λc=>c != 32)==s&& !(l.dropWhile λc=>c != 32).isEmpty)
 |[],s,h=>by cases s<;>simp
 |b::l,[],h=>by
  by_cases e:b=32
  .subst e;simp
  .have e1:=by simpa using e
   have a:(32==b)=false:=by simpa using λq=>e q.symm
   simp[List.isPrefixOf,e1,a]
 |b::l,c::s,h=>by
  have i:=h c (by simp);have j:=Qev l s λd f=>h d (by simp[f]);by_cases e:b=32
  .subst e;have:=by simpa using i
   simp[List.isPrefixOf,this]
  .have e1:(b != 32)=true:=by simpa using e
   simp[VH,List.isPrefixOf,List.takeWhile_cons,List.dropWhile_cons,e1,j];by_cases q:c=b
   .subst q;simp
   .have q1:=by simpa using q
    have g:(b==c)=false:=by simpa using λz=>q z.symm
    simp[q1,g]
theorem contains_cons(b:UInt8)(l t:List UInt8)(a:t≠[]):Lib.contains (b::l) t=(t.isPrefixOf (b::l)||Lib.contains l t):=by
 unfold Lib.contains;rw[show Lib.index (b::l) t=if t.isPrefixOf (b::l)then 0 else if Lib.index l t== -1 then-1 else Lib.index l t+1 from rfl];cases h:t.isPrefixOf (b::l)with
 |true=>simp
 |false=>
  by_cases q:Lib.index l t= -1
  .simp[q]
  .have q1:=by simpa using q
   simp;omega
theorem Qca(s:List UInt8)(h:∀c∈s,c≠32):∀l,Lib.contains l (32::(s++[32]))=(kwsOf l).contains s
 |[]=>by simp[Lib.contains,Lib.index,kwsOf]
 |b::l=>by
  rw[contains_cons b l _ (by simp),Qca s h l];simp only[kwsOf,List.isPrefixOf,Qev l s h];by_cases e:b=32
  .subst e;cases q: !(l.dropWhile λc=>c != 32).isEmpty with
   |true=>
    simp only[beq_self_eq_true,Vx,Bool.and_true,Ve];congr 1;rw[XW];simp[Vv];exact⟨λh=>h.symm,λh=>h.symm⟩
   |false=>simp
  .have e1:(b==32)=false:=by simpa using e
   have a:(32==b)=false:=by simpa using λq=>e q.symm
   simp[e1,a]
def wordsL:List UInt8:=[32,99,111,117,114,115,101,32,109,97,116,115,32,115,116,97,114,116,32,112,97,115,115,32,101,110,100,32,108,101,103,32,116,111,32,100,105,115,116,97,110,99,101,32,103,117,110,32,99,104,105,112,32,115,108,111,116,32,108,97,112,115,32,108,97,112,32,99,117,116,111,102,102,32,101,120,116,114,97,32,119,97,118,101,32,111,102,102,101,110,99,101,32,111,117,116,32,99,97,116,101,103,111,114,121,32,112,114,105,122,101,32,97,108,108,32,116,105,101,115,32,105,102,32,101,108,115,101,32,97,110,100,32,111,114,32,110,111,116,32,111,108,100,101,114,32,121,111,117,110,103,101,114,32,98,105,98,32,100,114,97,119,32,102,105,101,108,100,32,115,104,111,114,116,32,102,97,117,108,116,115,32,109,105,115,115,101,115,32,115,116,114,97,121,115,32,119,105,110,100,111,119,32,114,101,115,105,100,117,97,108,32,100,114,105,102,116,32,112,114,111,116,101,115,116,32,102,101,101,32,100,101,97,100,108,105,110,101,32]
theorem QqI:kwsOf wordsL=kwL:=by decide+kernel
def classTab:List Int:=(List.range 256).map λi=>if 97<=i/\i<=122\/65<=i/\i<=90 then 2 else if 48<=i/\i<=57 then 3 else if i∈[123,125,40,41,91,93,59,44,61,60,62]then 4 else if i∈[32,9,10,13]then 1 else 0
theorem Qk4:Ev F_db classTab:=by
 unfold F_db;refine Ea (QcC (step:=F_el 0) 40 (b:=(iter (F_el 0) 40 (List.replicate 256 0,97)).getD []) (by decide+kernel)) ?_;refine Ea (QcC (step:=F_in 0) 40 (b:=(iter (F_in 0) 40 ((iter (F_el 0) 40 (List.replicate 256 0,97)).getD [],48)).getD []) (by decide+kernel)) ?_;generalize hb:(iter (F_in 0) 40 ((iter (F_el 0) 40 (List.replicate 256 0,97)).getD [],48)).getD []=b2;refine Ea (QcC (step:=F_ld 0) 40 (b:=(iter (F_ld 0) 40 (b2,0)).getD []) (by subst hb;decide+kernel)) ?_;refine Ea (QcC (step:=F_lr 0) 40 (b:=classTab) (by subst hb;decide+kernel)) ?_;exact Ez (by decide+kernel)
theorem Qm0:((List.range 256).all λi=> !okN i||decide (classTab[i]?=some (if okAN i then 2 else if i=95 then 0 else 3)))=true:=by decide+kernel
theorem QoK{c:UInt8}(h:okC c=true):QeV 256 classTab (c.toNat:Int)=some (if okA c then 2 else if c.toNat=95 then 0 else 3):=by
 have a:=Xs.1 Qm0 c.toNat (List.mem_range.2 c.toNat_lt);unfold okC at h;rw[h]at a;simp[Xh,Bool.false_or,Vn]at a;unfold QeV;rw[show Nat.beq classTab.length 256=true by decide+kernel,Vl,YZ a];rfl
def goodS(s:List UInt8):Bool:=decide (1<=s.length)&&decide (s.length<=24)&&(s.head?).any okA&&s.all okC
def isNameS(s:List UInt8):Bool:=goodS s&& !kwL.contains s
theorem QmO(s:List UInt8)(h:goodS s=true):Ev (λn=>F_da n s) true:=by
 unfold goodS at h;simp only[XU,Vn,Xs]at h;obtain⟨⟨⟨d,l⟩,g⟩,f⟩:=h;unfold F_da;refine Ea Qk4 ?_;refine J6 (v:=List.replicate 256 0) (by decide+kernel) ?_;refine J6 (v:=classTab) (by decide+kernel) ?_;refine Ea (v:=Ctl.cont ()) (Eu (λi=>(i:Int)) s.length rfl (λi k=>?_) ?_) ?_
 .have a:=JG (x:=s[i]) (by omega) (XI k);have j:=f _ a.mem;unfold F_kv;simp only[a.lt,Vl,a.ix,XH,QoK j,a.nx];cases i with
  |zero=>
   have:okA s[0]=true:=by
    cases s with
    |nil=>simp at d
    |cons c r=>simpa using g
   simp[this];exact Qa _
  |succ i=>
   by_cases q:okA s[i+1]=true
   .simp[q];exact Qa _
   .by_cases e:s[i+1].toNat=95
    iterate 2 simp[q,e];exact Qa _
 .unfold F_kv;simp only[Yu,Vm];exact Qa _
 .refine Ez ?_;cases s with
  |nil=>simp at d
  |cons c r=>rfl
theorem QmG{s:List UInt8}(h:goodS s=true):∀c∈s,c≠32:=by
 unfold goodS at h;simp[XU,Xs]at h;rintro c a rfl;exact absurd (h.2 _ a) (by decide)
theorem Qn7{s:List UInt8}(h:goodS s=true):s.length<=24:=by
 unfold goodS at h;simp[XU,Vn]at h;exact h.1.1.2
theorem Qk5(s:List UInt8)(h:goodS s=true):Ev (λn=>F_ez n s) (kwL.contains s):=by
 refine Ea (Ea (QmO s h) (Qmi ?_)) (Qa _);have a:=Qn7 h;refine J6 (by unfold cat;rw[XQ (by simp;omega)];rfl) (J6 (by unfold cat;rw[XQ (by simp;omega)];rfl) ?_);refine J6 ?_ (Qa _);show QfQ wordsL ([32]++s++[32])=some (kwL.contains s);unfold QfQ;rw[show Nat.blt wordsL.length 4294967281=true by decide+kernel,Vl];rw[show[32]++s++[32]=32::(s++[32])by simp,Qca s (QmG h),QqI]
theorem ch_lt(c:UInt8)(k:Nat):decide ((c.toNat:Int)<(k:Int))=decide (c.toNat<k):=by
 simp
theorem badC(c:UInt8):(bif decide ((c.toNat:Int)<97)then(bif decide ((c.toNat:Int)<48)then some ((c.toNat:Int) != 95)else(bif decide (57<(c.toNat:Int))then some ((c.toNat:Int) != 95)else some false))else(bif decide (122<(c.toNat:Int))then(bif decide ((c.toNat:Int)<48)then some ((c.toNat:Int) != 95)else(bif decide (57<(c.toNat:Int))then some ((c.toNat:Int) != 95)else some false))else some false))=some (!okC c):=by
 unfold okC okN;generalize c.toNat=k;have e:((k:Int) != 95)= !decide (k=95):=by
  by_cases h:k=95
  .subst h;rfl
  .rw[Vu h];simp;omega
 rw[e];by_cases i:k<48
 .rw[Q7 (show(k:Int)<97 by omega),Q7 (show(k:Int)<48 by omega)];have a:¬97<=k:=by omega
  have g:¬48<=k:=by omega
  simp[a,g]
 .rw[Q5 (show¬(k:Int)<48 by omega)];by_cases d:k<=57
  .rw[Q7 (show(k:Int)<97 by omega),Q5 (show¬57<(k:Int)by omega)];have a:48<=k:=by omega
   simp[a,d]
  .rw[Q7 (show 57<(k:Int)by omega)];by_cases j:k<97
   .rw[Q7 (show(k:Int)<97 by omega)];have a:=by omega
    simp[a,d]
   .rw[Q5 (show¬(k:Int)<97 by omega)];by_cases f:k<=122
    .rw[Q5 (show¬122<(k:Int)by omega)];have a:97<=k:=by omega
     simp[a,f]
    .rw[Q7 (show 122<(k:Int)by omega)];simp[d,f]
theorem Qha(n:Nat)(s:List UInt8):(bif decide ((s.length:Int)<1)then some true else(bif decide (24<(s.length:Int))then some true else(idx s 0).bind λx10=>(bif decide ((x10.toNat:Int)<97)then some true else(idx s 0).bind λx12=>some (decide (122<(x12.toNat:Int))))))=some (!(decide (1<=s.length)&&decide (s.length<=24)&&(s.head?).any okA)):=by
 cases s with
 |nil=>rfl
 |cons c r=>
  by_cases h:(c::r).length<=24
  .rw[Q5 (show¬24<((c::r).length:Int)by omega),Vm];have f:idx (c::r) 0=some c:=rfl;simp[f,XH];simp[XY]at h;have a:r.length<=23:=by omega
   simp[List.head?_cons,Option.any_some,okA,okAN];rw[show(97:Int)=(97:Nat)from rfl,ch_lt];by_cases d:c.toNat<97
   .have:=by omega
    simp[d]
   .have e:97<=c.toNat:=by omega
    simp[d,e,a];by_cases q:c.toNat<=122
    .rw[Q5 (show¬122<(c.toNat:Int)by omega),Q7 q];rfl
    .rw[Q7 (show 122<(c.toNat:Int)by omega),Q5 q];rfl
  .rw[Q7 (show 24<((c::r).length:Int)by omega),Vl];simp[XY]at h;have a:=by omega
   simp[a]
theorem Qhu(s:List UInt8)(hl:s.length<=1048576):Ev (λn=>F_k n s) (isNameS s):=by
 refine Ea (Ez (Qha 0 s)) ?_;unfold isNameS;cases g:(decide (1<=s.length)&&decide (s.length<=24)&&(s.head?).any okA)with
 |false=>
  have:goodS s=false:=by unfold goodS;rw[g];rfl
  rw[this];exact Qa _
 |true=>
  have f:goodS s=s.all okC:=by unfold goodS;rw[g];rfl
  refine Ea (Ju s (λc=> !okC c) (λi=>(i:Int)) (Ctl.done false) (Ctl.cont ()) (by omega) rfl (λi x a d=>?_) (λi x a d=>?_) ?_) ?_
  .unfold F_jf;simp only[a.lt,a.ix,XH,badC,d,a.nx];exact Qa _
  .unfold F_jf;simp only[a.lt,a.ix,XH,badC,d];exact Qa _
  .unfold F_jf;simp[Yu];exact Qa _
  .rw[f];have e:s.any (λc=> !okC c)= !s.all okC:=by rw[List.not_all_eq_any_not]
   rw[e];cases q:s.all okC with
   |true=>
    exact Ea (Qk5 s (f.trans q)) (Qa _)
   |false=>
    exact Qa _
theorem QbH(s:List UInt8)(hl:s.length<=1048576):Ev (λn=>F_by n s) (isNameS s):=by
 refine Ea (Ez (Qha 0 s)) ?_;unfold isNameS;cases d:(decide (1<=s.length)&&decide (s.length<=24)&&(s.head?).any okA)with
 |false=>
  have:goodS s=false:=by unfold goodS;rw[d];rfl
  rw[this];exact Qa _
 |true=>
  have m:goodS s=s.all okC:=by unfold goodS;rw[d];rfl
  cases s with
  |nil=>simp at d
  |cons c r=>
   have l:okC c=true:=by
    simp[XU,List.head?_cons,Option.any_some]at d;have:=d.2;unfold okA at this;unfold okC okN;unfold okAN at this;rw[this];rfl
   have hr:=by
    simp[XU,Vn,XY]at d;omega
   have j:∀(i:Nat) (x:UInt8),At r i x->decide (((i+1:Nat):Int)<(c::r).length)=true/\idx (c::r) (i+1:Nat)=some x/\i64.wrap ((i+1:Nat)+1)=i+1+1:=by
    intro i x a;have:=a.lt';exact⟨Vr (by simp;omega),YZ (by simpa using a.get),Yt (by omega)⟩
   refine Ea (Ju r (λc=> !okC c) (λi=>((i+1:Nat):Int)) (Ctl.done false) (Ctl.cont ()) (by omega) rfl (λi x a f=>?_) (λi x a f=>?_) ?_) ?_
   .obtain⟨g,h,k⟩:=j i x a;unfold F_ip;simp only[g,h,XH,badC,f,k];exact Qa _
   .obtain⟨g,h,k⟩:=j i x a;unfold F_ip;simp only[g,h,XH,badC,f];exact Qa _
   .unfold F_ip;rw[Q5 (by simp),Vm];exact Qa _
   .rw[m];have e:r.any (λc=> !okC c)= !(c::r).all okC:=by rw[List.all_cons,l,Vx,List.not_all_eq_any_not]
    rw[e];cases q:(c::r).all okC with
    |true=>
     exact Ea (Ez (QgG 0 _)) (Qa _)
    |false=>
     exact Qa _
def diffS:List (List UInt8)->List (List UInt8)->Bool
 |_,[]=>true
 |seen,x::r=>isNameS x&& !seen.contains x&&diffS (seen++[x]) r
theorem Qgm(l:List (List UInt8))(i:Nat)(x:List UInt8)(h:At l i x):diffS (l.take i) (l.drop i)=(isNameS x&& !(l.take i).contains x&&diffS (l.take (i+1)) (l.drop (i+1))):=by
 rw[h.drop,h.take];rfl
theorem Qb9{α:Type}(l:List α)(a:α->List UInt8)(g:Nat->α->Option Unit)(hg:∀n x,g n x=some ())(hl:l.length<=1048576)(p:∀x∈l,(a x).length<=1048576):
  Ev (λn=>((iter (λs:(List (List UInt8×Bool))×Int=>bif decide (s.2<(l.length:Int))then(idx l s.2).bind λx35=>(g n x35).bind λr36=>((F_k n (a x35)).bind λr42=>(bif (!r42)then some true else(some (Qz s.1 (a x35) false)).bind λv44=>some v44):Option Bool).bind λb40=>(bif b40 then some (.done (.done false))else(some (Yq s.1 (a x35) true)).bind λm46=>some (.cont (m46,i64.wrap (s.2+1))))else some (.done (.cont ()))) n ([],0):Option (Ctl Unit Bool)).bind λb28=>
   match b28 with
   |.cont _=>some true
   |.done s=>some s:Option Bool)) (diffS [] (l.map a)):=by
 have f:l.length<=4611686018427387904:=by omega
 have k:(l.map a).length<=4611686018427387904:=by simpa using f
 have j:=Qax (B:=Ctl Unit Bool) l (step:=λn s=>bif decide (s.2<(l.length:Int))then(idx l s.2).bind λx35=>(g n x35).bind λr36=>((F_k n (a x35)).bind λr42=>(bif (!r42)then some true else(some (Qz s.1 (a x35) false)).bind λv44=>some v44)).bind λb40=>(bif b40 then some (.done (.done false))else(some (Yq s.1 (a x35) true)).bind λm46=>some (.cont (m46,i64.wrap (s.2+1))))else some (.done (.cont ())))
  (λi=>(Yf a true (l.take i),i)) (λi=>bif diffS ((l.map a).take i) ((l.map a).drop i)then .cont ()else .done false) f rfl (λi x e=>?_) ?_
 .refine Ea j ?_;simp[List.take_zero,List.drop_zero];cases diffS [] (l.map a)<;>exact Qa _
 .have ha2:=JG k (by rw[Xo,e.get];rfl);simp only[Qgm _ _ _ ha2];have d:Ev (λn=>(F_k n (a x)).bind λr42=>(bif (!r42)then some true else(some (Qz (Yf a true (l.take i)) (a x) false)).bind λv44=>some v44)) (!(isNameS (a x)&& !((l.map a).take i).contains (a x))):=by
   refine Ea (Qhu (a x) (p x e.mem)) ?_;cases isNameS (a x)with
   |false=>exact Qa _
   |true=>
    refine Ye ((Qa _).eq ?_);rw[Qak,List.map_take];by_cases h:a x∈(l.map a).take i
    iterate 2 simp
  cases m:(isNameS (a x)&& !((l.map a).take i).contains (a x))with
  |true=>
   rw[m]at d;refine .inl ⟨?_,by simp⟩;simp only[e.lt,e.ix,XH,hg];refine Ea d ?_;simp[e.nx];rw[e.take,Qdo];exact Qa _
  |false=>
   rw[m]at d;refine .inr ?_;simp only[e.lt,e.ix,XH,hg];refine Ea d ?_;exact Qa _
 .simp[Yu];rw[show(l.map a).drop l.length=[]by simp];exact Qa _
theorem QqX{α:Type}{l:List α}{x:α}(h:l.length<=140737488):app l [x]=some (l++[x]):=Jl l x (by omega)
theorem QeX(l:List (List UInt8))(hl:l.length<=1048576)(p:∀x∈l,x.length<=1048576):Ev (λn=>F_y n l) (diffS [] l):=by
 have k:l.length<=4611686018427387904:=by omega
 refine Ea (Qax l (λi=>(i:Int)) (λi=>bif diffS (l.take i) (l.drop i)then .cont ()else .done false) k rfl (λi x a=>?_) ?_) ?_
 .simp only[Qgm _ _ _ a];unfold F_kw;simp only[a.lt,a.ix,XH];cases m:isNameS x with
  |false=>
   exact .inr (Ea ((QbH x (p x a.mem)).eq m) (Qa _))
  |true=>
   have r:=a.lt';have inner:Ev (λn=>iter (F_eu n l i) n 0) (bif (l.take i).contains x then Ctl.done (Ctl.done (Ctl.done false))else Ctl.cont ()):=by
    have e:(l.take i).contains x=(l.take i).any λy=>y==x:=by
     rw[XW];simp
    rw[e];have f:(l.take i).length=i:=by simp;omega
    refine Ju (l.take i) (λy=>y==x) (λi=>(i:Int)) _ _ (by omega) rfl (λj y d g=>?_) (λj y d g=>?_) ?_
    .have h:=d.lt';have hjg:=by
      have:=d.get;rw[List.getElem?_take]at this;split at this
      .exact this
      .cases this
     unfold F_eu;rw[Q7 (show(j:Int)<i by omega)];simp only[YZ hjg,a.ix,XH,g,d.nx];exact Qa _
    .have h:=d.lt';have hjg:=by
      have:=d.get;rw[List.getElem?_take]at this;split at this
      .exact this
      .cases this
     unfold F_eu;rw[Q7 (show j<(i:Int)by omega)];simp only[YZ hjg,a.ix,XH,g];exact Qa _
    .unfold F_eu;rw[f,Q5 (show¬i<(i:Int)by omega)];exact Qa _
   cases q:(l.take i).contains x with
   |true=>
    rw[q]at inner;exact .inr (Ea ((QbH x (p x a.mem)).eq m) (Ye (Ea inner (Qa _))))
   |false=>
    rw[q]at inner;refine .inl ⟨Ea ((QbH x (p x a.mem)).eq m) (Ye (Ea inner ?_)),by simp⟩;simp only[a.nx];exact Qa _
 .unfold F_kw;simp only[Yu,Xr];exact Qa _
 .simp only[List.take_zero,List.drop_zero];cases diffS [] l<;>exact Qa _
theorem Qae{α β:Type}(l:List α)(f:α->β)(hl:l.length<=140737488):Ev (λn=>iter (λs:(List β)×Int=>bif decide (s.2<(l.length:Int))then(idx l s.2).bind λx15=>(app s.1 [f x15]).bind λl16=>some (Ctl.cont (l16,i64.wrap (s.2+1)))else some (Ctl.done s.1)) n (([]:List β),(0:Int))) (l.map f):=by
 have e:∀l:List α,l.foldl (λa x=>a++[f x]) []=l.map f:=by
  intro l;have h:∀(l:List α) (a:List β),l.foldl (λa x=>a++[f x]) a=a++l.map f:=by
   intro l
   induction l with
   |nil=>simp
   |cons x l j=>intro a;rw[XC,j];simp
  simpa using h l []
 rw[<- e l];refine QI l (λa x=>a++[f x]) [] (λa i=>(a,(i:Int))) (λa=>a) (by omega) rfl (λi x a g d=>?_) ?_
 .rw[e]at d;have:a.length<=140737488:=by rw[d];simp;omega
  simp only[g.lt,g.ix,QqX this,g.nx];exact Qa _
 .simp[Yu];exact Qa _
def namesS(c:Course):Bool:=isNameS c.Name&&(diffS [] (c.Mats.map (·.Name))&&(diffS [] (c.Distances.map (·.Name))&&(diffS [] (c.Waves.map (·.Name))&&(diffS [] (c.Offences.map (·.Name))&&diffS [] (c.Categories.map (·.Name))))))
structure CourseOk (c:Course):Prop where
 name:c.Name.length<=1048576
 mats:c.Mats.length<=1048576
 matsN:∀x∈c.Mats,x.Name.length<=1048576
 legs:c.Legs.length<=1048576
 dist:c.Distances.length<=1048576
 distN:∀x∈c.Distances,x.Name.length<=1048576
 cut:∀x∈c.Distances,x.Cutoffs.length<=1048576
 wave:c.Waves.length<=1048576
 waveN:∀x∈c.Waves,x.Name.length<=1048576
 off:c.Offences.length<=1048576
 offN:∀x∈c.Offences,x.Name.length<=1048576
 cat:c.Categories.length<=1048576
 catN:∀x∈c.Categories,x.Name.length<=1048576
 prize:c.Prizes.length<=1048576
theorem Qor(c:Course)(w:CourseOk c):Ev (λn=>F_gy n c) (namesS c):=by
 refine Ea (Ea (Qhu c.Name w.name) (Ql λ_=>?_)) (Qa _);have d:Ev (λn=>F_gr n c.Mats) (diffS [] (c.Mats.map (·.Name))):=by exact Qb9 c.Mats (·.Name) F_fu (λ_ _=>rfl) w.mats w.matsN
 have g:Ev (λn=>F_ga n c.Distances) (diffS [] (c.Distances.map (·.Name))):=by exact Qb9 c.Distances (·.Name) F_gh (λ_ _=>rfl) w.dist w.distN
 have f:Ev (λn=>F_fw n c.Waves) (diffS [] (c.Waves.map (·.Name))):=by exact Qb9 c.Waves (·.Name) F_gz (λ_ _=>rfl) w.wave w.waveN
 have a:Ev (λn=>F_ep n c.Offences) (diffS [] (c.Offences.map (·.Name))):=by exact Qb9 c.Offences (·.Name) F_gp (λ_ _=>rfl) w.off w.offN
 have e:Ev (λn=>F_gt n c.Categories) (diffS [] (c.Categories.map (·.Name))):=by exact Qb9 c.Categories (·.Name) F_ei (λ_ _=>rfl) w.cat w.catN
 refine Ea d (Ql λ_=>(Ea g (Ql λ_=>?_)));refine Ea f (Ql λ_=>?_);exact Ea a (Ql λ_=>(Ea e (Qa _)))
structure Short (c:Course):Prop where
 mats:c.Mats.length<=140737488
 dist:c.Distances.length<=140737488
 wave:c.Waves.length<=140737488
 off:c.Offences.length<=140737488
 cat:c.Categories.length<=140737488
theorem QjL(c:Course)(w:CourseOk c)(s:Short c):Ev (λn=>F_ha n c) (namesS c):=by
 refine Ea (Qae c.Mats (·.Name) s.mats) (Ea (Qae c.Distances (·.Name) s.dist) ?_);refine Ea (Qae c.Waves (·.Name) s.wave) (Ea (Qae c.Offences (·.Name) s.off) ?_);refine Ea (Qae c.Categories (·.Name) s.cat) (Ea ?_ (Qa _));refine Ea (QbH c.Name w.name) (Ql λ_=>?_);have mk:∀{α:Type} (l:List α) (nm:α->List UInt8),l.length<=1048576->(∀x∈l,(nm x).length<=1048576)->Ev (λn=>F_y n (l.map nm)) (diffS [] (l.map nm)):=by
  intro α l nm hl hn;refine QeX _ (by simpa using hl) λx d=>?_;obtain⟨y,a,rfl⟩:=Xf.1 d;exact hn y a
 refine Ea (mk c.Mats (·.Name) w.mats w.matsN) (Ql λ_=>(Ea (mk c.Distances (·.Name) w.dist w.distN) (Ql λ_=>?_)));refine Ea (mk c.Waves (·.Name) w.wave w.waveN) (Ql λ_=>(Ea (mk c.Offences (·.Name) w.off w.offN) (Ql λ_=>?_)));exact Ea (mk c.Categories (·.Name) w.cat w.catN) (Qa _)
theorem QaE{n:Nat}(h:n<=1048576):i64.wrap ((n:Int)-1)=(n:Int)-1:=QZ (by omega) (by omega)
theorem J4(x lo hi:Int):Ev (λn=>F_c n x lo hi) (inR lo hi x):=by
 exact Ea (Ql λ_=>Qa _) (Qa _)
theorem Qgh(c:Course)(w:CourseOk c)(x:Int):Ev (λn=>F_l n c x) (inR 0 ((c.Mats.length:Int)-1) x):=by
 unfold F_l;rw[QaE w.mats];exact Ea (J4 _ _ _) (Qa _)
mutual
def szP:Part->Nat
 |⟨_,_,ps⟩=>1+szPs ps
def szPs:List Part->Nat
 |[]=>0
 |p::r=>szP p+szPs r
end
theorem Y5(p:Part):szP p=1+szPs p.Parts:=by cases p;rfl
theorem JH{p:Part}:∀{l:List Part},p∈l->szP p<=szPs l
 |q::r,h=>by
  simp[szPs];rcases X4.1 h with rfl|h
  .omega
  .have:=JH h;omega
mutual
def partS(k:Int):Part->Bool
 |⟨m,laps,ps⟩=>bif laps==0 then inR 0 k m&&((ps.length:Int)==0)else inR 1 64 laps&&((m==0)&&(decide (0<(ps.length:Int))&&partsS k ps))
def partsS(k:Int):List Part->Bool
 |[]=>true
 |p::r=>partS k p&&partsS k r
end
theorem Qb3(k:Int)(p:Part):partS k p=bif p.Laps==0 then inR 0 k p.Mat&&((p.Parts.length:Int)==0)else inR 1 64 p.Laps&&((p.Mat==0)&&(decide (0<(p.Parts.length:Int))&&partsS k p.Parts)):=by cases p;rfl
theorem Qbi(k:Int):∀l:List Part,partsS k l=l.all (partS k)
 |[]=>rfl
 |p::r=>by simp[partsS,List.all_cons,Qbi k r]
theorem Yy{p:Part}(h:Part.wf p):p.Parts.length<=1048576/\ ∀x∈p.Parts,Part.wf x:=by
 cases p;simp only[Part.wf,QdO]at h;exact h.2.2.1
theorem QO(lo hi x:Int):Ev (λn=>F_a n lo hi [x]) (inR lo hi x):=(Qhp lo hi [x] (by simp)).eq (by simp)
theorem QaK(lo hi x y:Int):Ev (λn=>F_a n lo hi [x,y]) (inR lo hi x&&inR lo hi y):=(Qhp lo hi [x,y] (by simp)).eq (by simp)
theorem Qoq(k:Int):∀(m:Nat) (l:List Part),szPs l<=m->l.length<=1048576->(∀x∈l,Part.wf x)->Ev (λn=>F_aq n l k) (partsS k l):=by
 intro m
 induction m with
 |zero=>
  intro l a h e;cases l with
  |nil=>
   refine QK ?_;exact JK [] (partS k) (λn x=>F_ed (F_aq n) n x k) (by simp) (by simp)
  |cons p r=>
   simp only[szPs,Y5]at a;omega
 |succ m j=>
  intro l a h e;refine QK ?_;rw[Qbi];refine JK l (partS k) (λn x=>F_ed (F_aq n) n x k) (by omega) λp d=>?_;rw[Qb3];have f:=JH d;rw[Y5]at f;obtain⟨g,i⟩:=Yy (e p d);refine QbQ (λ_=>?_) (λ_=>?_)
  .exact Ea (Ea (QO _ _ _) (Ql λ_=>Qa _)) (Qa _)
  .exact Ea (Ea (QO _ _ _) (Ql λ_=>Ql λ_=>Ql λ_=>Ea (j p.Parts (by omega) g i) (Qa _))) (Qa _)
theorem QmN(c:Course)(w:CourseOk c):∀(m:Nat) (l:List Part),szPs l<=m->l.length<=1048576->(∀x∈l,Part.wf x)->Ev (λn=>F_t n c l) (partsS ((c.Mats.length:Int)-1) l):=by
 intro m
 induction m with
 |zero=>
  intro l f q g;cases l with
  |nil=>
   refine QK ?_;show Ev (λn=>B_t (F_t n) n c []) _;exact⟨1,λn y=>by obtain⟨k,rfl⟩:∃k,n=k+1:=⟨n-1,by omega⟩;rfl⟩
  |cons p r=>
   simp only[szPs,Y5]at f;omega
 |succ m u=>
  intro l f q g;refine QK ?_;show Ev (λn=>B_t (F_t n) n c l) _;rw[Qbi];have step:∀(i:Nat) (x:Part),At l i x->Ev (λn=>F_ht n c l (F_t n) i) (bif partS (c.Mats.length-1) x then .cont (i+1)else .done (.done false)):=by
   intro i x a;unfold F_ht;simp only[a.lt,a.ix,XH,a.nx];have h:=JH a.mem;rw[Y5]at h;obtain⟨j,s⟩:=Yy (g x a.mem);refine Ea (Ql λ_=>Ea (Qgh c w _) (Ql λ_=>Qa _)) (Ea (Ea (J4 _ _ _) (Ql λ_=>Ql λ_=>Ql λ_=>Ea (u x.Parts (by omega) j s) (Qa _))) ?_);rw[Qb3];cases t:(x.Laps==0)with
   |true=>
    have e0:=by simpa using t
    have:inR 1 64 x.Laps=false:=by rw[e0];rfl
    rw[this];generalize(inR 0 (c.Mats.length-1) x.Mat&&((x.Parts.length:Int)==0))=b;cases b<;>exact Qa _
   |false=>
    generalize(inR 1 64 x.Laps&&((x.Mat==0)&&(decide (0<(x.Parts.length:Int))&&partsS (c.Mats.length-1) x.Parts)))=b;cases b<;>exact Qa _
  refine Ea (Ju l (λx=> !partS (c.Mats.length-1) x) (λi=>(i:Int)) (Ctl.done false) (Ctl.cont ()) (by omega) rfl (λi x a d=>?_) (λi x a d=>?_) ?_) ?_
  .refine(step i x a).eq ?_;have:=by simpa using d
   rw[this];rfl
  .refine(step i x a).eq ?_;have:=by simpa using d
   rw[this];rfl
  .unfold F_ht;simp[Yu];exact Qa _
  .have e:l.any (λx=> !partS (c.Mats.length-1) x)= !l.all (partS (c.Mats.length-1)):=by rw[List.not_all_eq_any_not]
   rw[e];cases l.all (partS (c.Mats.length-1))<;>exact Qa _
def legS(k:Int)(l:Leg):Bool:=(inR 0 k l.From&&inR 0 k l.To)&&((inR 0 68719476736 l.Min&&inR 0 68719476736 l.Max)&&decide (l.Min<=l.Max))
def cutS(k:Int)(x:Cutoff):Bool:=inR 0 k x.Mat&&(decide (1<=x.Lap)&&inR 0 1099511627776 x.Limit)
def distS(k:Int)(d:Distance):Bool:=inR 1 3 d.Timing&&(inR (-1) k d.Extra&&(partsS k d.Route&&d.Cutoffs.all (cutS k)))
def offS(o:Offence):Bool:=bif o.Out then(o.Time==0)&&(o.Laps==0)else bif o.Laps != 0 then(o.Time==0)&&inR 1 64 o.Laps else inR 0 68719476736 o.Time
def catS(x:Category):Bool:=(inR 0 120 x.From&&inR 0 120 x.To)&&decide (x.From<=x.To)
def prizeS(c:Course)(p:Prize):Bool:=inR 0 ((c.Distances.length:Int)-1) p.Distance&&(inR (-1) ((c.Categories.length:Int)-1) p.Category&&(inR 1 4000 p.Rank&&inR 1 1125899906842624 p.Amount))
def lastS(c:Course):Bool:=(inR 0 16 c.Faults.Misses&&inR 0 16 c.Faults.Strays)&&((inR 0 4294967296 c.Faults.Window&&inR 0 4294967296 c.Faults.Residual)&&(inR 0 100000 c.Faults.Drift&&(inR 0 1125899906842624 c.Fee&&inR 0 1099511627776 c.Deadline)))
def legKey(l:Leg):Ue:={from_:=l.From,to_:=l.To}
def prizeKey(p:Prize):Ug:={distance:=p.Distance,category:=p.Category,rank:=p.Rank}
def numbersS(c:Course):Bool:=
 let k:=(c.Mats.length:Int)-1
 c.Mats.all (λm=>inR 1 3 m.Kind)&&(c.Legs.all (legS k)&&(decide ((c.Legs.map legKey).Nodup)&&(c.Distances.all (distS k)&&(c.Waves.all (λw=>inR 0 1099511627776 w.Gun)&&(c.Offences.all offS&&(c.Categories.all catS&&(c.Prizes.all (prizeS c)&&(decide ((c.Prizes.map prizeKey).Nodup)&&lastS c))))))))
structure PartsOk (c:Course):Prop where
 len:∀d∈c.Distances,d.Route.length<=1048576
 wf:∀d∈c.Distances,∀x∈d.Route,Part.wf x
theorem Qin(l:List Leg)(hl:l.length<=1048576):Ev (λn=>F_fv n l) (decide ((l.map legKey).Nodup)):=by
 refine Ea (Qay l legKey true (by omega) (λi x m a=>?_) (λm=>?_)) ((Qa _).eq ?_)
 .unfold F_kl F_gc;simp only[a.lt,a.ix,a.nx];exact Qa _
 .unfold F_kl;simp[Yu];exact Qa _
 .rw[XW];simp[Vv,Vn];have:=QcG legKey true l;rw[<- this.2];omega
theorem Qgf(l:List Prize)(hl:l.length<=1048576):Ev (λn=>F_hi n l) (decide ((l.map prizeKey).Nodup)):=by
 refine Ea (Qay l prizeKey true (by omega) (λi x m a=>?_) (λm=>?_)) ((Qa _).eq ?_)
 .unfold F_kp F_gu;simp only[a.lt,a.ix,a.nx];exact Qa _
 .unfold F_kp;simp[Yu];exact Qa _
 .rw[XW];simp[Vv,Vn];have:=QcG prizeKey true l;rw[<- this.2];omega
theorem QkZ(c:Course)(w:CourseOk c)(q:PartsOk c):Ev (λn=>F_ch n c) (numbersS c):=by
 unfold F_ch numbersS;rw[QaE w.mats];refine Ea (v:=_) ?_ (Qa _);have e:Ev (λn=>F_cq n c.Mats) (c.Mats.all λm=>inR 1 3 m.Kind):=by
  unfold F_cq F_ey F_gs;refine JK c.Mats _ (λn x=>F_ct n x) (by have:=w.mats;omega) λx a=>?_;unfold F_ct;exact Ea (QO _ _ _) (Qa _)
 have k:Ev (λn=>F_cf n c.Legs ((c.Mats.length:Int)-1)) (c.Legs.all (legS ((c.Mats.length:Int)-1))):=by
  unfold F_cf F_fh F_ew;refine JK c.Legs _ (λn x=>F_co n x _) (by have:=w.legs;omega) λx a=>?_;unfold F_co;exact Ea (Ea (QaK _ _ _ _) (Ql λ_=>Ea (QaK _ _ _ _) (Ql λ_=>Qa _))) (Qa _)
 have d:Ev (λn=>F_cj n c.Distances ((c.Mats.length:Int)-1)) (c.Distances.all (distS ((c.Mats.length:Int)-1))):=by
  unfold F_cj F_fr F_fg;refine JK c.Distances _ (λn x=>F_dl n x _) (by have:=w.dist;omega) λx a=>?_;unfold F_dl;have i:Ev (λn=>F_du n x.Cutoffs ((c.Mats.length:Int)-1)) (x.Cutoffs.all (cutS ((c.Mats.length:Int)-1))):=by
   unfold F_du F_gi F_fc;refine JK x.Cutoffs _ (λn x=>F_dc n x _) (by have:=w.cut x a;omega) λy l=>?_;unfold F_dc;exact Ea (Ea (QO _ _ _) (Ql λ_=>Ql λ_=>Ea (QO _ _ _) (Qa _))) (Qa _)
  exact Ea (Ea (QO _ _ _) (Ql λ_=>Ea (QO _ _ _) (Ql λ_=>Ea (Qoq _ _ x.Route (XR _) (q.len x a) (q.wf x a)) (Ql λ_=>Ea i (Qa _))))) (Qa _)
 have f:Ev (λn=>F_dw n c.Waves) (c.Waves.all λw=>inR 0 1099511627776 w.Gun):=by
  unfold F_dw F_fd F_fo;refine JK c.Waves _ (λn x=>F_cu n x) (by have:=w.wave;omega) λx a=>?_;unfold F_cu;exact Ea (QO _ _ _) (Qa _)
 have h:Ev (λn=>F_cn n c.Offences) (c.Offences.all offS):=by
  unfold F_cn F_fk F_en;refine JK c.Offences _ (λn x=>F_dj n x) (by have:=w.off;omega) λx a=>?_;unfold F_dj offS;refine QbQ (λ_=>Ea (Ql λ_=>Qa _) (Qa _)) λ_=>QbQ (λ_=>Ea (Ql λ_=>Ea (QO _ _ _) (Qa _)) (Qa _)) λ_=>Ea (QO _ _ _) (Qa _)
 have g:Ev (λn=>F_dr n c.Categories) (c.Categories.all catS):=by
  unfold F_dr F_eg F_ef;refine JK c.Categories _ (λn x=>F_de n x) (by have:=w.cat;omega) λx a=>?_;unfold F_de;exact Ea (Ea (QaK _ _ _ _) (Ql λ_=>Qa _)) (Qa _)
 have j:Ev (λn=>F_di n c.Prizes c) (c.Prizes.all (prizeS c)):=by
  unfold F_di F_ge F_er;refine JK c.Prizes _ (λn x=>F_eb n x c) (by have:=w.prize;omega) λx a=>?_;unfold F_eb;rw[QaE w.dist,QaE w.cat];exact Ea (Ea (QO _ _ _) (Ql λ_=>Ea (QO _ _ _) (Ql λ_=>Ea (QO _ _ _) (Ql λ_=>Ea (QO _ _ _) (Qa _))))) (Qa _)
 refine Ea e (Ql λ_=>Ea k (Ql λ_=>Ea (Qin _ w.legs) (Ql λ_=>Ea d (Ql λ_=>Ea f (Ql λ_=>Ea h (Ql λ_=>Ea g (Ql λ_=>Ea j (Ql λ_=>Ea (Qgf _ w.prize) (Ql λ_=>?_)))))))));exact Ea (QaK _ _ _ _) (Ql λ_=>Ea (QaK _ _ _ _) (Ql λ_=>Ea (QO _ _ _) (Ql λ_=>Ea (QO _ _ _) (Ql λ_=>Ea (QO _ _ _) (Qa _)))))
theorem ends_eq{a b a' d:Int}:(({from_:=a,to_:=b}:Ue)={from_:=a',to_:=d})↔a=a'/\b=d:=by simp
theorem Qgd(c:Course)(w:CourseOk c)(d:Distance)(k:d.Route.length<=1048576)(m:∀x∈d.Route,Part.wf x)(p:d.Cutoffs.length<=1048576):Ev (λn=>F_gx n c d) (distS ((c.Mats.length:Int)-1) d):=by
 have step:∀(i:Nat) (x:Cutoff),At d.Cutoffs i x->Ev (λn=>F_jo n c d i) (bif cutS (c.Mats.length-1) x then .cont (i+1)else .done (.done false)):=by
  intro i x a;unfold F_jo;simp only[a.lt,a.ix,XH,a.nx];have:Ev (λn=>(F_l n c x.Mat).bind λg=>(bif (!g)then some true else(bif decide (x.Lap<1)then some true else(F_c n x.Limit 0 1099511627776).bind λj=>some (!j)))) (!cutS (c.Mats.length-1) x):=by
   refine Ea (Qgh c w _) (Er (Ep λ_=>Ep λ_=>Ea (J4 _ _ _) (Qa _)) ?_);unfold cutS;by_cases h:x.Lap<1
   .have:=by omega
    simp[h]
   .have:1<=x.Lap:=by omega
    simp[h,this]
  refine Ea this ?_;cases cutS (c.Mats.length-1) x<;>exact Qa _
 refine Ea (Ju d.Cutoffs (λx=> !cutS (c.Mats.length-1) x) (λi=>(i:Int)) (Ctl.done false) (Ctl.cont ()) (by omega) rfl (λi x a f=>?_) (λi x a f=>?_) ?_) ?_
 .refine(step i x a).eq ?_;have:=by simpa using f
  rw[this];rfl
 .refine(step i x a).eq ?_;have:=by simpa using f
  rw[this];rfl
 .unfold F_jo;simp[Yu];exact Qa _
 .have e:d.Cutoffs.any (λx=> !cutS (c.Mats.length-1) x)= !d.Cutoffs.all (cutS (c.Mats.length-1)):=by rw[List.not_all_eq_any_not]
  rw[e];unfold distS;have l:inR (-1) (c.Mats.length-1) d.Extra=((d.Extra== -1)||inR 0 (c.Mats.length-1) d.Extra):=by
   unfold inR;rw[XW];simp;omega
  cases d.Cutoffs.all (cutS (c.Mats.length-1))with
  |false=>
   simp[Bool.and_false];exact Qa _
  |true=>
   simp only[Bool.and_true];refine Ea (Ea (J4 _ _ _) ((Ql λ_=>Ea (QmN c w _ d.Route (XR _) k m) (Ql λ_=>Ep λ_=>Ea (Qgh c w _) (Qa _))).eq ?_)) (Qa _);rw[l,Bool.and_comm (partsS _ _)]
theorem YG{α B:Type}{step:Nat->Int->Option (Ctl Int B)}(l:List α)(ok:α->Bool)(a b:B)(hl:l.length<=4611686018427387904)
  (g:∀i x,At l i x->Ev (λn=>step n (i:Int)) (bif ok x then .cont ((i+1:Nat):Int)else .done a))(j:Ev (λn=>step n (l.length:Int)) (.done b)):
  Ev (λn=>Go.Sw.iter (step n) n 0) (bif l.all ok then b else a):=by
 have e:(bif l.all ok then b else a)=bif l.any (λx=> !ok x)then a else b:=by
  rw[<- List.not_all_eq_any_not];cases l.all ok<;>rfl
 rw[e];refine Ju l (λx=> !ok x) (λi=>(i:Int)) a b hl rfl (λi x d f=>?_) (λi x d f=>?_) j
 .have h:=by simpa using f
  have:=g i x d
  rwa [h]at this
 .have h:=by simpa using f
  have:=g i x d
  rwa [h]at this
theorem Qih(c:Course)(w:CourseOk c)(q:PartsOk c):Ev (λn=>F_df n c) (numbersS c):=by
 unfold F_df numbersS;have G:Ev (λn=>iter (F_is n c) n 0) (bif c.Mats.all (λm=>inR 1 3 m.Kind)then Ctl.cont ()else Ctl.done false):=by
  refine YG c.Mats _ _ _ (by have:=w.mats;omega) (λi x a=>?_) ?_
  .unfold F_is;simp only[a.lt,Vl,a.ix,XH,a.nx];refine Ea (J4 _ _ _) ?_;cases inR 1 3 x.Kind<;>exact Qa _
  .unfold F_is;simp only[Yu,Vm];exact Qa _
 have L:Ev (λn=>iter (F_ec n c) n 0) (bif c.Legs.all (legS ((c.Mats.length:Int)-1))&&decide ((c.Legs.map legKey).Nodup)then Ctl.cont ()else Ctl.done false):=by
  have first:∀x:Leg,Ev (λn=>((F_l n c x.From).bind λB=>(bif (!B)then some true else(F_l n c x.To).bind λt=>(bif (!t)then some true else(bif decide (x.Min<0)then some true else(bif decide (x.Max<x.Min)then some true else some (decide (68719476736<x.Max)))))):Option Bool)) (!legS ((c.Mats.length:Int)-1) x):=by
   intro x;refine Ea (Qgh c w _) (Er (Ep λ_=>Ea (Qgh c w _) (Ep λ_=>Ep λ_=>Ep λ_=>Qa _)) ?_);unfold legS inR;rw[XW];simp;omega
  have inner:∀(i:Nat) (x:Leg),At c.Legs i x->Ev (λn=>iter (F_fq n c (i:Int) x) n 0) (bif ((c.Legs.take i).map legKey).contains (legKey x)then Ctl.done (Ctl.done (Ctl.done false))else Ctl.cont ()):=by
   intro i x a;have F:=a.lt';refine QdS c.Legs i legKey (legKey x) _ _ (by have:=w.legs;omega) (by omega) (λj y E k g=>?_) (λj y E k g=>?_) ?_
   .unfold F_fq;rw[Q7 (show(j:Int)<(i:Int)by omega)];simp only[Vl,k.ix,XH,k.nx];have h:¬(y.From=x.From/\y.To=x.To):=by simpa[legKey]using g
    refine Ea (Ql λ_=>Qa _) ?_;have e:((y.From==x.From)&&(y.To==x.To))=false:=by
     rw[VJ];intro z;exact h (by simpa using z)
    rw[e];exact Qa _
   .unfold F_fq;rw[Q7 (show(j:Int)<(i:Int)by omega)];simp only[Vl,k.ix,XH,k.nx];have h:(y.From=x.From/\y.To=x.To):=by simpa[legKey]using g
    refine Ea (Ql λ_=>Qa _) ?_;have e:((y.From==x.From)&&(y.To==x.To))=true:=by simpa using h
    rw[e];exact Qa _
   .unfold F_fq;rw[Q5 (show¬(i:Int)<(i:Int)by omega)];exact Qa _
  refine Qlv c.Legs (legS ((c.Mats.length:Int)-1)) legKey _ _ (by have:=w.legs;omega) (λi x a d g=>?_) (λi x a d=>?_) (λi x a d g=>?_) ?_
  .unfold F_ec;simp only[a.lt,Vl,a.ix,XH,a.nx];have f:=first x;rw[d]at f
   have l:=inner i x a;rw[g]at l;exact Ea f (Ye (Ea l (Qa _)))
  .unfold F_ec;simp only[a.lt,Vl,a.ix,XH,a.nx];have f:=first x;rw[d]at f
   exact Ea f (Qa _)
  .unfold F_ec;simp only[a.lt,Vl,a.ix,XH,a.nx];have f:=first x;rw[d]at f
   have l:=inner i x a;rw[g]at l;exact Ea f (Ye (Ea l (Qa _)))
  .unfold F_ec;simp only[Yu,Vm];exact Qa _
 have N:Ev (λn=>iter (F_kb n c) n 0) (bif c.Distances.all (distS ((c.Mats.length:Int)-1))then Ctl.cont ()else Ctl.done false):=by
  refine YG c.Distances _ _ _ (by have:=w.dist;omega) (λi x a=>?_) ?_
  .unfold F_kb;simp only[a.lt,Vl,a.ix,XH,a.nx];refine Ea (Qgd c w x (q.len x a.mem) (q.wf x a.mem) (w.cut x a.mem)) ?_;cases distS ((c.Mats.length:Int)-1) x<;>exact Qa _
  .unfold F_kb;simp only[Yu,Vm];exact Qa _
 have O:Ev (λn=>iter (F_iy n c) n 0) (bif c.Waves.all (λw=>inR 0 1099511627776 w.Gun)then Ctl.cont ()else Ctl.done false):=by
  refine YG c.Waves _ _ _ (by have:=w.wave;omega) (λi x a=>?_) ?_
  .unfold F_iy;simp only[a.lt,Vl,a.ix,XH,a.nx];refine Ea (J4 _ _ _) ?_;cases inR 0 1099511627776 x.Gun<;>exact Qa _
  .unfold F_iy;simp only[Yu,Vm];exact Qa _
 have H:Ev (λn=>iter (F_jx n c) n 0) (bif c.Offences.all offS then Ctl.cont ()else Ctl.done false):=by
  refine YG c.Offences _ _ _ (by have:=w.off;omega) (λi x a=>?_) ?_
  .unfold F_jx;simp only[a.lt,Vl,a.ix,XH,a.nx];refine Ea (Ea (J4 _ _ _) (Ql λ_=>Ql λ_=>Qa _)) ?_;refine Ea (Ql λ_=>Ea (J4 _ _ _) (Ql λ_=>Qa _)) ?_;refine Ea (Ql λ_=>Ql λ_=>Qa _) ?_;refine Ea (Ql λ_=>Ql λ_=>Qa _) ?_;have e:offS x= !(!(inR 0 68719476736 x.Time&&((x.Laps==0)&& !x.Out))&&(!((x.Time==0)&&(inR 1 64 x.Laps&& !x.Out))&& !((x.Time==0)&&((x.Laps==0)&&x.Out)))):=by
    unfold offS inR;cases x.Out with
    |true=>
     rw[XW];simp
    |false=>
     by_cases h:x.Laps=0
     iterate 2 rw[XW];simp[h]
   rw[e];generalize(!(inR 0 68719476736 x.Time&&((x.Laps==0)&& !x.Out))&&(!((x.Time==0)&&(inR 1 64 x.Laps&& !x.Out))&& !((x.Time==0)&&((x.Laps==0)&&x.Out))))=b;cases b<;>exact Qa _
  .unfold F_jx;simp only[Yu,Vm];exact Qa _
 have M:Ev (λn=>iter (F_jj n c) n 0) (bif c.Categories.all catS then Ctl.cont ()else Ctl.done false):=by
  refine YG c.Categories _ _ _ (by have:=w.cat;omega) (λi x a=>?_) ?_
  .unfold F_jj;simp only[a.lt,Vl,a.ix,XH,a.nx];refine Ea (Ep λ_=>Ep λ_=>Qa _) ?_;have e:(decide (x.From<0)||(decide (x.To<x.From)||decide (120<x.To)))= !catS x:=by
    unfold catS inR;rw[XW];simp;omega
   rw[e];cases catS x<;>exact Qa _
  .unfold F_jj;simp only[Yu,Vm];exact Qa _
 have J:Ev (λn=>iter (F_dy n c) n 0) (bif c.Prizes.all (prizeS c)&&decide ((c.Prizes.map prizeKey).Nodup)then Ctl.cont ()else Ctl.done false):=by
  have first:∀x:Prize,Ev (λn=>((F_c n x.Distance 0 (i64.wrap ((c.Distances.length:Int)-1))).bind λu=>(bif (!u)then some true else(F_c n x.Category (-1) (i64.wrap ((c.Categories.length:Int)-1))).bind λp=>(bif (!p)then some true else(F_c n x.Rank 1 4000).bind λr=>(bif (!r)then some true else(F_c n x.Amount 1 1125899906842624).bind λs=>some (!s)))):Option Bool)) (!prizeS c x):=by
   intro x;rw[QaE w.dist,QaE w.cat];refine Ea (J4 _ _ _) (Er (Ep λ_=>Ea (J4 _ _ _) (Ep λ_=>Ea (J4 _ _ _) (Ep λ_=>Ea (J4 _ _ _) (Qa _)))) ?_);unfold prizeS;simp only[Bool.not_and]
  have inner:∀(i:Nat) (x:Prize),At c.Prizes i x->Ev (λn=>iter (F_ft n c (i:Int) x) n 0) (bif ((c.Prizes.take i).map prizeKey).contains (prizeKey x)then Ctl.done (Ctl.done (Ctl.done false))else Ctl.cont ()):=by
   intro i x a;have F:=a.lt';refine QdS c.Prizes i prizeKey (prizeKey x) _ _ (by have:=w.prize;omega) (by omega) (λj y E k g=>?_) (λj y E k g=>?_) ?_
   .unfold F_ft;rw[Q7 (show(j:Int)<(i:Int)by omega)];simp only[Vl,k.ix,XH,k.nx];have h:¬(y.Distance=x.Distance/\y.Category=x.Category/\y.Rank=x.Rank):=by simpa[prizeKey]using g
    refine Ea (Ql λ_=>Ql λ_=>Qa _) ?_;have e:((y.Distance==x.Distance)&&((y.Category==x.Category)&&(y.Rank==x.Rank)))=false:=by
     rw[VJ];intro z;exact h (by simpa using z)
    rw[e];exact Qa _
   .unfold F_ft;rw[Q7 (show(j:Int)<(i:Int)by omega)];simp only[Vl,k.ix,XH,k.nx];have h:(y.Distance=x.Distance/\y.Category=x.Category/\y.Rank=x.Rank):=by simpa[prizeKey]using g
    refine Ea (Ql λ_=>Ql λ_=>Qa _) ?_;have e:((y.Distance==x.Distance)&&((y.Category==x.Category)&&(y.Rank==x.Rank)))=true:=by simpa using h
    rw[e];exact Qa _
   .unfold F_ft;rw[Q5 (show¬(i:Int)<(i:Int)by omega)];exact Qa _
  refine Qlv c.Prizes (prizeS c) prizeKey _ _ (by have:=w.prize;omega) (λi x a d g=>?_) (λi x a d=>?_) (λi x a d g=>?_) ?_
  .unfold F_dy;simp only[a.lt,Vl,a.ix,XH,a.nx];have f:=first x;rw[d]at f
   have l:=inner i x a;rw[g]at l;exact Ea f (Ye (Ea l (Qa _)))
  .unfold F_dy;simp only[a.lt,Vl,a.ix,XH,a.nx];have f:=first x;rw[d]at f
   exact Ea f (Qa _)
  .unfold F_dy;simp only[a.lt,Vl,a.ix,XH,a.nx];have f:=first x;rw[d]at f
   have l:=inner i x a;rw[g]at l;exact Ea f (Ye (Ea l (Qa _)))
  .unfold F_dy;simp only[Yu,Vm];exact Qa _
 refine Ea G ?_;cases c.Mats.all (λm=>inR 1 3 m.Kind)with
 |false=>exact Qa _
 |true=>
 refine Ea L ?_;simp only[Vx];rw[<- Bool.and_assoc];cases(c.Legs.all (legS ((c.Mats.length:Int)-1))&&decide ((c.Legs.map legKey).Nodup))with
 |false=>exact Qa _
 |true=>
 refine Ea N ?_;simp only[Vx];cases c.Distances.all (distS ((c.Mats.length:Int)-1))with
 |false=>exact Qa _
 |true=>
 refine Ea O ?_;simp only[Vx];cases c.Waves.all (λw=>inR 0 1099511627776 w.Gun)with
 |false=>exact Qa _
 |true=>
 refine Ea H ?_;simp only[Vx];cases c.Offences.all offS with
 |false=>exact Qa _
 |true=>
 refine Ea M ?_;simp only[Vx];cases c.Categories.all catS with
 |false=>exact Qa _
 |true=>
 refine Ea J ?_;simp only[Vx];rw[<- Bool.and_assoc];cases(c.Prizes.all (prizeS c)&&decide ((c.Prizes.map prizeKey).Nodup))with
 |false=>exact Qa _
 |true=>
 simp only[Vx];refine Ea (v:=lastS c) ?_ (Qa _);refine Ea (J4 _ _ _) ((Ql λ_=>Ea (J4 _ _ _) (Ql λ_=>Ea (J4 _ _ _) (Ql λ_=>Ea (J4 _ _ _) (Ql λ_=>Ea (J4 _ _ _) (Ql λ_=>Ea (J4 _ _ _) (Ql λ_=>Ea (J4 _ _ _) (Qa _))))))).eq ?_);unfold lastS;simp only[Bool.and_assoc]
mutual
def cN:Cond->Nat
 |⟨_,_,_,ps⟩=>1+cNs ps
def cNs:List Cond->Nat
 |[]=>0
 |c::r=>cN c+cNs r
end
theorem Qcb(c:Cond):cN c=1+cNs c.Parts:=by cases c;rfl
mutual
def cD:Nat->Cond->Bool
 |d,⟨_,_,_,ps⟩=>cDs d ps
def cDs:Nat->List Cond->Bool
 |_,[]=>true
 |d,c::r=>decide (d<=16)&&(cD (d+1) c&&cDs d r)
end
theorem Ql5(d:Nat)(c:Cond):cD d c=cDs d c.Parts:=by cases c;rfl
def zeroC(c:Cond):Bool:=(c.Kind==0)&&((c.Var==0)&&((c.N==0)&&((c.Parts.length:Int)==0)))
mutual
def sNp:Step->Nat
 |⟨_,_,_,t,e⟩=>1+sNs t+sNs e
def sNs:List Step->Nat
 |[]=>0
 |s::r=>sNp s+sNs r
end
theorem Qg1(s:Step):sNp s=1+sNs s.Then+sNs s.Else:=by cases s;rfl
mutual
def sC:Step->Nat
 |⟨_,_,c,t,e⟩=>(bif zeroC c then 0 else cN c)+sCs t+sCs e
def sCs:List Step->Nat
 |[]=>0
 |s::r=>sC s+sCs r
end
theorem Qfu(s:Step):sC s=(bif zeroC s.Cond then 0 else cN s.Cond)+sCs s.Then+sCs s.Else:=by cases s;rfl
mutual
def sDp:Nat->Step->Bool
 |d,⟨_,_,c,t,e⟩=>(zeroC c||cD 1 c)&&(sDs d t&&sDs d e)
def sDs:Nat->List Step->Bool
 |_,[]=>true
 |d,s::r=>decide (d<=16)&&(sDp (d+1) s&&sDs d r)
end
theorem QiZ(d:Nat)(s:Step):sDp d s=((zeroC s.Cond||cD 1 s.Cond)&&(sDs d s.Then&&sDs d s.Else)):=by cases s;rfl
mutual
def sZ:Step->Nat
 |⟨_,_,c,t,e⟩=>2+cN c+sZs t+sZs e
def sZs:List Step->Nat
 |[]=>0
 |s::r=>sZ s+sZs r
end
theorem Qg0(s:Step):sZ s=2+cN s.Cond+sZs s.Then+sZs s.Else:=by cases s;rfl
def fS:Uf->Nat
 |.ctyping_step x=>sNp x.Step
 |.ctyping_cond _=>0
def fC:Uf->Nat
 |.ctyping_step x=>sC x.Step
 |.ctyping_cond x=>cN x.Cond
def fD(d:Nat):Uf->Bool
 |.ctyping_step x=>sDp d x.Step
 |.ctyping_cond x=>cD d x.Cond
def fZ:Uf->Nat
 |.ctyping_step x=>sZ x.Step
 |.ctyping_cond x=>cN x.Cond
def fSs(l:List Uf):Nat:=(l.map fS).sum
def fCs(l:List Uf):Nat:=(l.map fC).sum
def fZs(l:List Uf):Nat:=(l.map fZ).sum
def fwf:Uf->Prop
 |.ctyping_step x=>Step.wf x.Step
 |.ctyping_cond x=>Cond.wf x.Cond
def ofStep(s:Step):Uf:=.ctyping_step {Step:=s}
def ofCond(c:Cond):Uf:=.ctyping_cond {Cond:=c}
theorem Qbo:∀l:List Step,fSs (l.map ofStep)=sNs l
 |[]=>rfl
 |s::r=>by
  have:=Qbo r;simp[fSs,Vg,List.sum_cons]at this⊢;rw[this];rfl
theorem Qbp:∀l:List Step,fCs (l.map ofStep)=sCs l
 |[]=>rfl
 |s::r=>by
  have:=Qbp r;simp[fCs,Vg,List.sum_cons]at this⊢;rw[this];rfl
theorem Qb8:∀l:List Step,fZs (l.map ofStep)=sZs l
 |[]=>rfl
 |s::r=>by
  have:=Qb8 r;simp[fZs,Vg,List.sum_cons]at this⊢;rw[this];rfl
theorem Qf3:∀l:List Cond,fSs (l.map ofCond)=0
 |[]=>rfl
 |s::r=>by
  have:=Qf3 r;simp only[fSs,Vg,List.sum_cons]at this⊢;rw[this];rfl
theorem Qf5:∀l:List Cond,fCs (l.map ofCond)=cNs l
 |[]=>rfl
 |s::r=>by
  have:=Qf5 r;simp[fCs,Vg,List.sum_cons]at this⊢;rw[this];rfl
theorem Qf1:∀l:List Cond,fZs (l.map ofCond)=cNs l
 |[]=>rfl
 |s::r=>by
  have:=Qf1 r;simp[fZs,Vg,List.sum_cons]at this⊢;rw[this];rfl
theorem Qdy(d:Nat):∀l:List Step,sDs d l=((l.map ofStep).isEmpty||(decide (d<=16)&&(l.map ofStep).all (fD (d+1))))
 |[]=>rfl
 |s::r=>by
  rw[sDs,Qdy d r];simp[Vg,List.all_cons];rw[show fD (d+1) (ofStep s)=sDp (d+1) s from rfl];cases r with
  |nil=>simp
  |cons x r=>
   cases decide (d<=16)<;>simp
theorem QjD(d:Nat):∀l:List Cond,cDs d l=((l.map ofCond).isEmpty||(decide (d<=16)&&(l.map ofCond).all (fD (d+1))))
 |[]=>rfl
 |s::r=>by
  rw[cDs,QjD d r];simp[Vg,List.all_cons];rw[show fD (d+1) (ofCond s)=cD (d+1) s from rfl];cases r with
  |nil=>simp
  |cons x r=>
   cases decide (d<=16)<;>simp
theorem Ji{c:Cond}(h:Cond.wf c):c.Parts.length<=1048576/\ ∀x∈c.Parts,Cond.wf x:=by
 cases c;simp only[Cond.wf,QdU]at h;exact h.2.2.2.1
theorem Jh{s:Step}(h:Step.wf s):Cond.wf s.Cond/\(s.Then.length<=1048576/\ ∀x∈s.Then,Step.wf x)/\(s.Else.length<=1048576/\ ∀x∈s.Else,Step.wf x):=by
 cases s;simp only[Step.wf,QdI]at h;exact⟨h.2.2.1,h.2.2.2.1,h.2.2.2.2.1⟩
theorem Qht(n:Nat)(c:Cond):F_aw n {Cond:=c}=some (zeroC c):=by
 unfold F_aw zeroC;cases(c.Kind==0)<;>cases(c.Var==0)<;>cases(c.N==0)<;>rfl
theorem Qf9(n:Nat)(c:Cond):F_bq n c=some (zeroC c):=by
 unfold F_bq zeroC;cases(c.Kind==0)<;>cases(c.Var==0)<;>cases(c.N==0)<;>rfl
theorem Qf8(l:List Step)(hl:l.length<=140737488):Ev (λn=>F_ba n l) (l.map ofStep):=by
 exact Ea (Qae l ofStep hl) (Qa _)
theorem Qoy(l:List Cond)(hl:l.length<=140737488):Ev (λn=>F_eh n l) (l.map ofCond):=by
 exact Ea (Qae l ofCond hl) (Qa _)
def stepParts(s:Step):List Uf:=s.Then.map ofStep++s.Else.map ofStep
theorem QbE(s:Step)(h:Step.wf s):Ev (λn=>F_ap n {Step:=s}) (stepParts s):=by
 obtain⟨_,⟨d,_⟩,⟨a,_⟩⟩:=Jh h;refine Ea (Qf8 s.Then (by omega)) (Ea (Qf8 s.Else (by omega)) (J6 (QdF _ _ (by simp;omega)) (Qa _)))
theorem QdB(c:Cond)(h:Cond.wf c):Ev (λn=>F_ag n {Cond:=c}) (c.Parts.map ofCond):=by
 obtain⟨a,_⟩:=Ji h;exact Ea (Qoy c.Parts (by omega)) (Qa _)
def okL(l:List Uf)(d:Nat)(st co:Int):Bool:=l.isEmpty||(decide (d<=16)&&(l.all (fD (d+1))&&(decide (st+fSs l<=64)&&decide (co+fCs l<=256))))
def okR(l:List Uf)(d:Nat)(st co:Int):Bool:=l.isEmpty||(l.all (fD (d+1))&&(decide (st+fSs l<=64)&&decide (co+fCs l<=256)))
def okF(f:Uf)(d:Nat)(st co:Int):Bool:=fD (d+1) f&&(decide (st+fS f<=64)&&decide (co+fC f<=256))
theorem QjC(f:Uf)(l:List Uf):fSs (f::l)=fS f+fSs l:=rfl
theorem QjE(f:Uf)(l:List Uf):fCs (f::l)=fC f+fCs l:=rfl
theorem QjB(f:Uf)(l:List Uf):fZs (f::l)=fZ f+fZs l:=rfl
theorem Qf2(l m:List Uf):fSs (l++m)=fSs l+fSs m:=by simp[fSs]
theorem Qf4(l m:List Uf):fCs (l++m)=fCs l+fCs m:=by simp[fCs]
theorem Qf0(l m:List Uf):fZs (l++m)=fZs l+fZs m:=by simp[fZs]
theorem QnP(f:Uf)(r:List Uf)(d:Nat)(st e:Int):okR (f::r) d st e=(okF f d st e&&okR r d (st+fS f) (e+fC f)):=by
 unfold okR okF;rw[QjC,QjE];cases r with
 |nil=>simp[fSs,fCs]
 |cons g r=>
  rw[XW];simp[List.isEmpty_cons,Bool.false_or,List.all_cons,XU,Vn];constructor
  .rintro⟨⟨a,h⟩,j,i⟩;exact⟨⟨a,by omega,by omega⟩,h,by omega,by omega⟩
  .rintro⟨⟨a,_,_⟩,h,j,i⟩;exact⟨⟨a,h⟩,by omega,by omega⟩
theorem QhZ(l:List Uf)(d:Nat)(st g:Int)(i:st<=64)(h:g<=256):okL l d st g=true↔(l.isEmpty||(decide (d<=16)&&l.all (fD (d+1))))=true/\st+fSs l<=64/\g+fCs l<=256:=by
 unfold okL;cases l with
 |nil=>simp[fSs,fCs,i,h]
 |cons f r=>
  simp[List.isEmpty_cons,Bool.false_or,XU,Vn];constructor
  .rintro⟨a,b,c,e⟩;exact⟨⟨a,b⟩,c,e⟩
  .rintro⟨⟨a,b⟩,c,e⟩;exact⟨a,b,c,e⟩
theorem Qfp(s:Step)(d:Nat):((stepParts s).isEmpty||(decide (d<=16)&&(stepParts s).all (fD (d+1))))=(sDs d s.Then&&sDs d s.Else):=by
 rw[Qdy,Qdy];unfold stepParts;rw[List.all_append];cases e:s.Then<;>cases a:s.Else<;>simp<;>(cases decide (d<=16)<;>simp)
def Cnt(R:Nat->List Uf->Int->Ud->Option (Ud×Bool))(l:List Uf)(d:Nat)(st co:Int):Prop:=
 ∃c':Ud,Ev (λn=>R n l (d:Int) {steps:=st,conds:=co}) (c',okL l d st co)/\(okL l d st co=true->c'={steps:=st+fSs l,conds:=co+fCs l})
theorem Qla{R:Nat->List Uf->Int->Ud->Option (Ud×Bool)}{l:List Uf}{d:Nat}(hd:d<=16){i:Nat}{f:Uf}(W:At l i f)(hw:fwf f)
  (P:∀l' d' st a,fZs l'<fZ f->l'.length<=2097152->(∀f∈l',fwf f)->d'<=17->0<=st->st<=66->(st<=65\/ ∀f∈l',∃c,f=ofCond c)->0<=a->a<=256->Cnt R l' d' st a){st a:Int}(h0:0<=st)(ac:st<=66)(u:st<=65\/ ∃c,f=ofCond c)(h2:0<=a)(h3:a<=256):
  ∃c':Ud,Ev (λn=>F_gm n l (d:Int) (R n) ({steps:=st,conds:=a},(i:Int))) (bif okF f d st a then .cont (c',((i+1:Nat):Int))else .done (.done (c',false)))/\(okF f d st a=true->c'={steps:=st+fS f,conds:=a+fC f}):=by
 unfold F_gm;simp only[W.lt,Vl,W.ix,XH,W.nx];have ed:i64.wrap ((d:Int)+1)=((d+1:Nat):Int):=Yt (by omega);cases f with
 |ctyping_step x=>
  obtain⟨s⟩:=x;have h1:st<=65:=by
   rcases u with h|⟨c,h⟩
   .exact h
   .cases h
  have j:Step.wf s:=hw;obtain⟨wc,⟨ae,J⟩,⟨aa,L⟩⟩:=Jh j;have Y:i64.wrap (st+1)=st+1:=QZ (by omega) (by omega);simp only[Uf.elim,Qht,XH,Y];have hc:∃r:Ud,Ev (λn=>((bif (!zeroC s.Cond)then(R n [Uf.ctyping_cond {Cond:=s.Cond}] 0 {steps:=st+1,conds:=a}).bind λk=>some (k.1,(!k.2))else some ({steps:=st+1,conds:=a},false)):Option (Ud×Bool))) (r, !(zeroC s.Cond||(cD 1 s.Cond&&(decide (st+1<=64)&&decide (a+cN s.Cond<=256)))))/\
    ((zeroC s.Cond||(cD 1 s.Cond&&(decide (st+1<=64)&&decide (a+cN s.Cond<=256))))=true->r={steps:=st+1,conds:=a+((bif zeroC s.Cond then 0 else cN s.Cond:Nat):Int)}):=by
   cases E:zeroC s.Cond with
   |true=>
    refine⟨{steps:=st+1,conds:=a},?_,λ_=>?_⟩
    .exact Qa _
    .simp
   |false=>
    obtain⟨r,m,t⟩:=P [ofCond s.Cond] 0 (st+1) a (by simp only[fZs,Vg,Vh,List.sum_cons,List.sum_nil];show cN s.Cond+0<sZ s;rw[Qg0];omega) (by simp) (by intro g e;simp only[Vy]at e;subst e;exact wc) (by omega) (by omega) (by omega) (.inr (by intro g e;simp only[Vy]at e;exact⟨_,e⟩)) h2 h3;have ek:okL [ofCond s.Cond] 0 (st+1) a=(cD 1 s.Cond&&(decide (st+1<=64)&&decide (a+cN s.Cond<=256))):=by
     unfold okL;simp only[List.isEmpty_cons,Bool.false_or,List.all_cons,List.all_nil,Bool.and_true,fSs,fCs,Vg,Vh,List.sum_cons,List.sum_nil];rw[show fD (0+1) (ofCond s.Cond)=cD 1 s.Cond from rfl,show fS (ofCond s.Cond)=0 from rfl,show fC (ofCond s.Cond)=cN s.Cond from rfl];simp
    rw[ek]at m t;refine⟨r,Ea m (Qa _),λh=>?_⟩;rw[t h];simp[fSs,fCs,show fS (ofCond s.Cond)=0 from rfl,show fC (ofCond s.Cond)=cN s.Cond from rfl]
  obtain⟨r,m,t⟩:=hc;generalize hb:(zeroC s.Cond||(cD 1 s.Cond&&(decide (st+1<=64)&&decide (a+cN s.Cond<=256))))=b at m t;have hF:okF (Uf.ctyping_step {Step:=s}) d st a=(sDp (d+1) s&&(decide (st+sNp s<=64)&&decide (a+sC s<=256))):=rfl;rw[hF];cases b with
  |false=>
   have:(sDp (d+1) s&&(decide (st+sNp s<=64)&&decide (a+sC s<=256)))=false:=by
    rw[VJ];intro hh;simp only[XU,Vn,QiZ,Qg1,Qfu]at hh;obtain⟨⟨T,_⟩,z2,z3⟩:=hh;cases E:zeroC s.Cond with
    |true=>rw[E]at hb;cases hb
    |false=>
     rw[E]at hb T z3;simp only[Bool.false_or]at hb T;rw[T]at hb;simp only[Vm]at z3;rw[Q7 (show st+1<=64 by omega),Q7 (show a+(cN s.Cond:Int)<=256 by omega)]at hb;cases hb
   rw[this];exact⟨r,Ea m (Qa _),λh=>by cases h⟩
  |true=>
   obtain rfl:=t rfl;by_cases p:64<st+1
   .have:(sDp (d+1) s&&(decide (st+sNp s<=64)&&decide (a+sC s<=256)))=false:=by
     rw[Q5 (show¬st+(sNp s:Int)<=64 by rw[Qg1];omega)];simp
    rw[this];refine⟨{steps:=st+1,conds:=a+((bif zeroC s.Cond then 0 else cN s.Cond:Nat):Int)},Ea m ?_,λh=>by cases h⟩;simp only[Xh,Vm];refine Ea (v:=(_,true)) ?_ (Qa _);rw[Q7 p];exact Qa _
   by_cases G:256<a+((bif zeroC s.Cond then 0 else cN s.Cond:Nat):Int)
   .have:(sDp (d+1) s&&(decide (st+sNp s<=64)&&decide (a+sC s<=256)))=false:=by
     rw[Q5 (show¬a+(sC s:Int)<=256 by rw[Qfu];omega)];simp
    rw[this];refine⟨{steps:=st+1,conds:=a+((bif zeroC s.Cond then 0 else cN s.Cond:Nat):Int)},Ea m ?_,λh=>by cases h⟩;simp only[Xh,Vm];refine Ea (v:=(_,true)) ?_ (Qa _);rw[Q5 p,Q7 G];exact Qa _
   obtain⟨z,F,B⟩:=P (stepParts s) (d+1) (st+1) (a+((bif zeroC s.Cond then 0 else cN s.Cond:Nat):Int)) (by
     unfold stepParts;rw[Qf0,Qb8,Qb8];show _<sZ s;rw[Qg0];omega) (by unfold stepParts;simp;omega) (by
     intro g e;unfold stepParts at e;rcases VA.1 e with e|e
     .obtain⟨y,w,rfl⟩:=Xf.1 e;exact J y w
     .obtain⟨y,w,rfl⟩:=Xf.1 e;exact L y w) (by omega) (by omega) (by omega) (.inl (by omega)) (by omega) (by omega)
   have V:okL (stepParts s) (d+1) (st+1) (a+((bif zeroC s.Cond then 0 else cN s.Cond:Nat):Int))=(sDp (d+1) s&&(decide (st+sNp s<=64)&&decide (a+sC s<=256))):=by
    rw[XW,QhZ _ _ _ _ (by omega) (by omega),Qfp];simp only[XU,Vn,QiZ,Qg1,Qfu];have Q:fSs (stepParts s)=sNs s.Then+sNs s.Else:=by unfold stepParts;rw[Qf2,Qbo,Qbo]
    have O:fCs (stepParts s)=sCs s.Then+sCs s.Else:=by unfold stepParts;rw[Qf4,Qbp,Qbp]
    rw[Q,O];have M:(zeroC s.Cond||cD 1 s.Cond)=true:=by
     cases E:zeroC s.Cond with
     |true=>rfl
     |false=>
      rw[E]at hb;simp only[Bool.false_or,XU]at hb;rw[hb.1];rfl
    constructor
    .rintro⟨q,X,H⟩;exact⟨⟨M,q⟩,by omega,by omega⟩
    .rintro⟨⟨_,q⟩,X,H⟩;exact⟨q,by omega,by omega⟩
   rw[V]at F B;refine⟨z,Ea m ?_,λh=>?_⟩
   .simp only[Xh,Vm];refine Ea (v:=(z, !(sDp (d+1) s&&(decide (st+sNp s<=64)&&decide (a+sC s<=256))))) ?_ ?_
    .rw[Q5 p,Q5 G,ed];exact Ea (QbE s j) (Ea F (Qa _))
    .cases(sDp (d+1) s&&(decide (st+sNp s<=64)&&decide (a+sC s<=256)))<;>exact Qa _
   .rw[B h];have Q:fSs (stepParts s)=sNs s.Then+sNs s.Else:=by unfold stepParts;rw[Qf2,Qbo,Qbo]
    have O:fCs (stepParts s)=sCs s.Then+sCs s.Else:=by unfold stepParts;rw[Qf4,Qbp,Qbp]
    rw[Q,O,show fS (Uf.ctyping_step {Step:=s})=sNp s from rfl,show fC (Uf.ctyping_step {Step:=s})=sC s from rfl,Qg1,Qfu];congr 1<;>omega
 |ctyping_cond x=>
  obtain⟨c⟩:=x;have j:Cond.wf c:=hw;obtain⟨ab,N⟩:=Ji j;have Y:i64.wrap (a+1)=a+1:=QZ (by omega) (by omega);simp only[Uf.elim,Y];have hF:okF (Uf.ctyping_cond {Cond:=c}) d st a=(cD (d+1) c&&(decide (st<=64)&&decide (a+cN c<=256))):=by
   show(cD (d+1) c&&(decide (st+((0:Nat):Int)<=64)&&decide (a+cN c<=256)))=_;rw[show st+((0:Nat):Int)=st by omega]
  rw[hF];by_cases p:64<st
  .have:(cD (d+1) c&&(decide (st<=64)&&decide (a+cN c<=256)))=false:=by
    rw[Q5 (show¬st<=64 by omega)];simp
   rw[this];refine⟨{steps:=st,conds:=a+1},?_,λh=>by cases h⟩;refine Ea (v:=(_,true)) ?_ (Qa _);rw[Q7 p];exact Qa _
  by_cases G:256<a+1
  .have:(cD (d+1) c&&(decide (st<=64)&&decide (a+cN c<=256)))=false:=by
    rw[Q5 (show¬a+(cN c:Int)<=256 by rw[Qcb];omega)];simp
   rw[this];refine⟨{steps:=st,conds:=a+1},?_,λh=>by cases h⟩;refine Ea (v:=(_,true)) ?_ (Qa _);rw[Q5 p,Q7 G];exact Qa _
  obtain⟨z,F,B⟩:=P (c.Parts.map ofCond) (d+1) st (a+1) (by
    rw[Qf1];show _<cN c;rw[Qcb];omega) (by simp;omega) (by
    intro g e;obtain⟨y,w,rfl⟩:=Xf.1 e;exact N y w) (by omega) (by omega) (by omega) (.inl (by omega)) (by omega) (by omega)
  have V:okL (c.Parts.map ofCond) (d+1) st (a+1)=(cD (d+1) c&&(decide (st<=64)&&decide (a+cN c<=256))):=by
   rw[XW,QhZ _ _ _ _ (by omega) (by omega), <- QjD,Qf3,Qf5];simp only[XU,Vn,Ql5,Qcb];constructor
   iterate 2 rintro⟨q,X,H⟩;exact⟨q,by omega,by omega⟩
  rw[V]at F B;refine⟨z,?_,λh=>?_⟩
  .refine Ea (v:=(z, !(cD (d+1) c&&(decide (st<=64)&&decide (a+cN c<=256))))) ?_ ?_
   .rw[Q5 p,Q5 G,ed];exact Ea (QdB c j) (Ea F (Qa _))
   .cases(cD (d+1) c&&(decide (st<=64)&&decide (a+cN c<=256)))<;>exact Qa _
  .rw[B h,Qf3,Qf5,show fS (Uf.ctyping_cond {Cond:=c})=0 from rfl,show fC (Uf.ctyping_cond {Cond:=c})=cN c from rfl,Qcb];congr 1;omega
theorem Qox:∀(m:Nat) (l:List Uf) (d:Nat) (st a:Int),fZs l<=m->l.length<=2097152->(∀f∈l,fwf f)->d<=17->0<=st->st<=66->(st<=65\/ ∀f∈l,∃c,f=ofCond c)->0<=a->a<=256->Cnt F_h l d st a:=by
 intro m
 induction m using Nat.strongRecOn with
 |_ m z=>
 intro l d st a hm hl Y hd X O t h2 h3;unfold Cnt;have E:∀c:Ud,(∃e:Ud,Ev (λn=>B_h (F_h n) n l (d:Int) c) (e,okL l d st a)/\(okL l d st a=true->e={steps:=st+fSs l,conds:=a+fCs l}))->∃e:Ud,Ev (λn=>F_h n l (d:Int) c) (e,okL l d st a)/\(okL l d st a=true->e={steps:=st+fSs l,conds:=a+fCs l}):=by
  rintro c ⟨e,q1,Q⟩;exact⟨e,QK q1,Q⟩
 refine E _ ?_;unfold B_h;cases g:l with
 |nil=>
  refine⟨{steps:=st,conds:=a},?_,λ_=>by simp[fSs,fCs]⟩;refine Ea (v:=Ctl.cont {steps:=st,conds:=a}) (EvI.ev (Eh ?_)) (Qa _);exact Qa _
 |cons f0 r0=>
 rw[<- g];have G:l.isEmpty=false:=by rw[g];rfl
 have L:0<l.length:=by rw[g];simp
 by_cases j:d<=16
 rotate_left
 .have:okL l d st a=false:=by unfold okL;rw[G,Q5 j];rfl
  rw[this];refine⟨{steps:=st,conds:=a},?_,λh=>by cases h⟩;rw[Q7 (show(0:Int)<(l.length:Int)by omega),Q7 (show(16:Int)<(d:Int)by omega)];exact Ea (Qa _) (Qa _)
 have F:okL l d st a=okR l d st a:=by unfold okL okR;rw[Q7 j,Vx]
 rw[F];have loop:∀(r:List Uf) (i:Nat) (st a:Int),l.drop i=r->i<=l.length->0<=st->st<=66->(st<=65\/ ∀f∈l,∃c,f=ofCond c)->0<=a->a<=256->
   ∃e:Ud,EvI (λn=>F_gm n l (d:Int) (F_h n)) ({steps:=st,conds:=a},(i:Int)) (bif okR r d st a then Ctl.cont e else Ctl.done (e,false))/\(okR r d st a=true->e={steps:=st+fSs r,conds:=a+fCs r}):=by
  intro r
  induction r with
  |nil=>
   intro i st a w M _ _ _ _ _;refine⟨{steps:=st,conds:=a},Eh ?_,λ_=>by simp[fSs,fCs]⟩;unfold F_gm;simp only[QX w M,Vm];exact Qa _
  |cons f r y=>
   intro i st a w M P g1 u g2 g3;obtain⟨q,H⟩:=Qx (by omega) w;have N:fZ f<=fZs l:=by
    have:∀(l:List Uf),f∈l->fZ f<=fZs l:=by
     intro l
     induction l with
     |nil=>intro h;cases h
     |cons x l z=>
      intro h;rw[QjB];rcases X4.1 h with rfl|h
      .omega
      .have:=z h;omega
    exact this l q.mem
   obtain⟨e,p,B⟩:=Qla (R:=F_h) j q (Y f q.mem) (λJ T st a k1 V k3 k4 k5 k6 s k7 k8=>z (fZs J) (by omega) J T st a (XR _) V k3 k4 k5 k6 s k7 k8) P g1 (u.imp id λh=>h f q.mem) g2 g3;rw[QnP];cases k:okF f d st a with
   |false=>
    rw[k]at p;exact⟨e,Eh p,λh=>by cases h⟩
   |true=>
    rw[k]at p;obtain rfl:=B k;have hb:=by
     unfold okF at k;simp only[XU,Vn]at k;exact k.2
    obtain⟨c2,W,u2⟩:=y (i+1) (st+fS f) (a+fC f) H (by have:=q.lt';omega) (by omega) (by omega) (.inl (by omega)) (by omega) (by omega);refine⟨c2,Et p W,λh=>?_⟩;rw[u2 (by simpa using h),QjC,QjE];congr 1<;>omega
 obtain⟨e,p,B⟩:=loop l 0 st a rfl (XS _) X O t h2 h3;refine⟨e,?_,B⟩;refine Ea (v:=false) ?_ (Ye (Ea p.ev ?_))
 .rw[Q7 (show(0:Int)<(l.length:Int)by omega),Q5 (show¬(16:Int)<(d:Int)by omega)];exact Qa _
 .cases okR l d st a<;>exact Qa _
mutual
def vaC:Cond->Bool
 |⟨k,v,n,ps⟩=>bif k==1 then inR 1 3 v&&(inR 0 10000 n&&((ps.length:Int)==0))else
   bif k==4 then((v==0)&&(n==0))&&(((ps.length:Int)==1)&&vaCs ps)else
   bif (k==2)||(k==3)then((v==0)&&(n==0))&&((decide (0<(ps.length:Int))&&decide ((ps.length:Int)<=16))&&vaCs ps)else false
def vaCs:List Cond->Bool
 |[]=>true
 |c::r=>vaC c&&vaCs r
end
theorem Qnx(c:Cond):vaC c=bif c.Kind==1 then inR 1 3 c.Var&&(inR 0 10000 c.N&&((c.Parts.length:Int)==0))else
   bif c.Kind==4 then((c.Var==0)&&(c.N==0))&&(((c.Parts.length:Int)==1)&&vaCs c.Parts)else
   bif (c.Kind==2)||(c.Kind==3)then((c.Var==0)&&(c.N==0))&&((decide (0<(c.Parts.length:Int))&&decide ((c.Parts.length:Int)<=16))&&vaCs c.Parts)else false:=by cases c;rfl
theorem QhO:∀l:List Cond,vaCs l=l.all vaC
 |[]=>rfl
 |c::r=>by rw[vaCs,List.all_cons,QhO r]
mutual
def vaS:Step->Bool
 |⟨k,b,c,t,e⟩=>bif k==1 then inR 1 5 b&&(zeroC c&&(((t.length:Int)==0)&&((e.length:Int)==0)))else
   bif k==2 then(b==0)&&(vaC c&&(decide (0<(t.length:Int))&&(vaSs t&&vaSs e)))else false
def vaSs:List Step->Bool
 |[]=>true
 |s::r=>vaS s&&vaSs r
end
theorem Qnw(s:Step):vaS s=bif s.Kind==1 then inR 1 5 s.By&&(zeroC s.Cond&&(((s.Then.length:Int)==0)&&((s.Else.length:Int)==0)))else
   bif s.Kind==2 then(s.By==0)&&(vaC s.Cond&&(decide (0<(s.Then.length:Int))&&(vaSs s.Then&&vaSs s.Else)))else false:=by cases s;rfl
theorem QhN:∀l:List Step,vaSs l=l.all vaS
 |[]=>rfl
 |c::r=>by rw[vaSs,List.all_cons,QhN r]
def fV:Uf->Bool
 |.ctyping_step x=>vaS x.Step
 |.ctyping_cond x=>vaC x.Cond
theorem Qle(l:List Cond):(l.map ofCond).any (λf=> !fV f)= !vaCs l:=by
 rw[QhO,List.not_all_eq_any_not,List.any_map];rfl
theorem Qc3(l:List Step):(l.map ofStep).any (λf=> !fV f)= !vaSs l:=by
 rw[QhN,List.not_all_eq_any_not,List.any_map];rfl
theorem Qhq{R:Nat->List Uf->Option Bool}(c:Cond)(i:Cond.wf c)(j:Ev (λn=>R n (c.Parts.map ofCond)) (!vaCs c.Parts)):
  Ev (λn=>F_es (R n) n {Cond:=c}) (vaC c):=by
 rw[Qnx];refine Ea (Ql λ_=>Qa _) (QbQ (λ_=>?_) (λl=>?_))
 .exact Ea (Ea (QO _ _ _) (Ql λ_=>Ea (QO _ _ _) (Ql λ_=>Qa _))) (Qa _)
 .have fin:∀b,Ev (λn=>(bif b then(F_ag n {Cond:=c}).bind λd=>(R n d).bind λf=>some (!f)else some false).bind λg=>some g) (b&&vaCs c.Parts):=by
   intro b;refine Ea ((Ql λ_=>Ea (QdB c i) (Ea j (Qa _)))) ((Qa _).eq (by simp))
  cases k:(c.Kind==4)with
  |true=>
   cases h:((c.Var==0)&&(c.N==0))with
   |true=>
    refine Ea (Qa _) ((fin _).eq (by simp))
   |false=>
    refine Ea (Qa _) ((fin _).eq (by simp))
  |false=>
   cases a:((c.Kind==2)||(c.Kind==3))with
   |true=>
    have e:Ev (λn=>(bif (c.Kind==2)then some (c.Kind==2)else some (c.Kind==3))) true:=by
     refine Ez ?_;rw[Qiw,a]
    cases h:((c.Var==0)&&(c.N==0))with
    |true=>
     cases m:decide (0<(c.Parts.length:Int))with
     |true=>
      refine Ea (Ea e (Qa _)) ((fin _).eq (by simp))
     |false=>
      refine Ea (Ea e (Qa _)) ((fin _).eq (by simp))
    |false=>
     refine Ea (Ea e (Qa _)) ((fin _).eq (by simp))
   |false=>
    have e:Ev (λn=>(bif (c.Kind==2)then some (c.Kind==2)else some (c.Kind==3))) false:=by
     refine Ez ?_;rw[Qiw,a]
    refine Ea (Ea e (Qa _)) (Qa _)
theorem Qk1:∀(m:Nat) (l:List Uf),fZs l<=m->l.length<=2097152->(∀f∈l,fwf f)->Ev (λn=>F_ae n l) (l.any λf=> !fV f):=by
 intro m
 induction m using Nat.strongRecOn with
 |_ m j=>
 intro l G H t;refine QK ?_;show Ev (λn=>B_ae (F_ae n) n l) _;refine Ev.contains l _ (λn f=>F_ee (F_ae n) n f) (by omega) λf r=>?_;have w:fZ f<=fZs l:=by
  have:∀(l:List Uf),f∈l->fZ f<=fZs l:=by
   intro l
   induction l with
   |nil=>intro h;cases h
   |cons x l j=>
    intro h;rw[QjB];rcases X4.1 h with rfl|h
    .omega
    .have:=j h;omega
  exact this l r
 refine Ea (v:=fV f) ?_ (Qa _);have a:∀c:Cond,Cond.wf c->cNs c.Parts<fZ f->Ev (λn=>F_ae n (c.Parts.map ofCond)) (!vaCs c.Parts):=by
  intro c k i;rw[<- Qle];obtain⟨J,B⟩:=Ji k;refine j (fZs (c.Parts.map ofCond)) (by rw[Qf1];omega) _ (XR _) (by simp;omega) ?_;intro g d;obtain⟨y,e,rfl⟩:=Xf.1 d;exact B y e
 cases f with
 |ctyping_cond x=>
  obtain⟨c⟩:=x;have k:Cond.wf c:=t _ r;exact Qhq c k (a c k (by show cNs c.Parts<cN c;rw[Qcb];omega))
 |ctyping_step x=>
  obtain⟨s⟩:=x;have i:Step.wf s:=t _ r;obtain⟨u,⟨E,p⟩,⟨z,q⟩⟩:=Jh i;show Ev _ (vaS s);rw[Qnw];refine QbQ (λ_=>?_) (λF=>QbQ (λ_=>?_) λ_=>Qa _)
  .refine Ea (Ea (QO _ _ _) (Ql λ_=>?_)) (Qa _);simp only[Qht];refine Ql λ_=>Ea (QbE s i) ((Qa _).eq ?_);unfold stepParts;rw[XW];simp only[Vv,XU,X0,XZ];omega
  .refine Ea (Ql λ_=>?_) (Qa _);refine Ea (Qhq s.Cond u (a s.Cond u (by show _<sZ s;rw[Qg0,Qcb];omega))) (Ql λ_=>Ql λ_=>?_);refine Ea (QbE s i) (Ea (j (fZs (stepParts s)) ?_ _ (XR _) (by unfold stepParts;simp;omega) ?_) ((Qa _).eq ?_))
   .have:fZs (stepParts s)<sZ s:=by
     unfold stepParts;rw[Qf0,Qb8,Qb8,Qg0];omega
    have L:fZ (Uf.ctyping_step {Step:=s})=sZ s:=rfl;omega
   .intro g d;rcases VA.1 d with d|d
    .obtain⟨y,e,rfl⟩:=Xf.1 d;exact p y e
    .obtain⟨y,e,rfl⟩:=Xf.1 d;exact q y e
   .unfold stepParts;rw[List.any_append,Qc3,Qc3];simp
def goodT(l:List Step):Bool:=sDs 0 l&&(decide (sNs l<=64)&&decide (sCs l<=256))
def tiesE(l:List Step):Int:=bif goodT l then(bif l.isEmpty|| !vaSs l then 71 else 0)else 2
theorem QnQ(l:List Step):okL (l.map ofStep) 0 0 0=goodT l:=by
 rw[XW,QhZ _ _ _ _ (by omega) (by omega), <- Qdy,Qbo,Qbp];unfold goodT;simp only[XU,Vn];constructor
 iterate 2 rintro⟨a,b,c⟩;exact⟨a,by omega,by omega⟩
theorem QpR(l:List Step)(hl:l.length<=1048576)(j:∀x∈l,Step.wf x):Ev (λn=>F_hc n l) (tiesE l):=by
 refine Ea (Qf8 l (by omega)) (Ea ?_ (Qa _));have d:∀f∈l.map ofStep,fwf f:=by
  intro g i;obtain⟨y,h,rfl⟩:=Xf.1 i;exact j y h
 obtain⟨k,a,m⟩:=Qox _ (l.map ofStep) 0 0 0 (XR _) (by simp;omega) d (by omega) (by omega) (by omega) (.inl (by omega)) (by omega) (by omega);rw[QnQ]at a;have p3:=a.shift;refine Ea p3 ?_;unfold tiesE;cases goodT l with
 |false=>exact Qa _
 |true=>
  have e:(((l.map ofStep).length:Int)==0)=l.isEmpty:=by
   cases l<;>simp;omega
  rw[e];refine Ea (Ep λ_=>Ea (Qk1 _ _ (XR _) (by simp;omega) d) (Qa _)) ?_;rw[Qc3];cases(l.isEmpty|| !vaSs l)<;>exact Qa _
def condB(d:Nat):Int:=256*(18-(d:Int))+1000
theorem QcL:∀(m:Nat) (c:Cond) (d:Nat),cN c<=m->d<=17->Cond.wf c->∃v:Int,Ev (λn=>F_m n c (d:Int)) v/\0<=v/\v<=condB d/\
  (d<=16/\cD (d+1) c=true/\cN c<=256->v=cN c)/\(¬(d<=16/\cD (d+1) c=true/\cN c<=256)->256<v):=by
 intro m
 induction m using Nat.strongRecOn with
 |_ m F=>
 intro c d hm hd V;obtain⟨T,u⟩:=Ji V;have G:∀{P:Int->Prop},(∃v:Int,Ev (λn=>B_m (F_m n) n c (d:Int)) v/\P v)->∃v:Int,Ev (λn=>F_m n c (d:Int)) v/\P v:=by
  rintro P ⟨v,j,e⟩;exact⟨v,QK j,e⟩
 refine G ?_;unfold B_m;by_cases k:d<=16
 .rw[Q5 (show¬(16:Int)<(d:Int)by omega)];have W:i64.wrap ((d:Int)+1)=((d+1:Nat):Int):=Yt (by omega);have loop:∀(r:List Cond) (i:Nat) (a:Int),c.Parts.drop i=r->i<=c.Parts.length->0<=a->a<=condB d->
    ∃v:Int,EvI (λn=>F_eq n c (d:Int) (F_m n)) (a,(i:Int)) v/\0<=v/\v<=condB d/\
     (cDs (d+1) r=true/\a+cNs r<=256->v=a+cNs r)/\(¬(cDs (d+1) r=true/\a+cNs r<=256)->256<v):=by
   intro r
   induction r with
   |nil=>
    intro i a B Q t j;refine⟨a,Eh ?_,t,j,λ_=>by simp[cNs],λh=>?_⟩
    .unfold F_eq;simp only[QX B Q,Vm,XH];exact Qa _
    .simp[cDs,cNs]at h;omega
   |cons x r E=>
    intro i a B Q t j;obtain⟨g,L⟩:=Qx (by omega) B;have hx:cN x<cN c:=by
     have:∀l:List Cond,x∈l->cN x<=cNs l:=by
      intro l
      induction l with
      |nil=>intro h;cases h
      |cons y l F=>
       intro h;rw[cNs];rcases X4.1 h with rfl|h
       .omega
       .have:=F h;omega
     have:=this _ g.mem;rw[Qcb c];omega
    by_cases f:a<=256
    .obtain⟨v,H,O,N,q,s⟩:=F (cN x) (by omega) x (d+1) (XR _) (by omega) (u x g.mem);have hB:condB (d+1)+256=condB d:=by unfold condB;omega
     have aa:condB d<=6000:=by unfold condB;omega
     have e1:i64.wrap (a+v)=a+v:=QZ (by omega) (by omega);obtain⟨w,X,R,q3,Y,M⟩:=E (i+1) (a+v) L (by have:=g.lt';omega) (by omega) (by omega);refine⟨w,Et ?_ X,R,q3,?_,?_⟩
     .unfold F_eq;simp only[g.lt,Vl,Q7 f,XH,g.ix,g.nx,W];refine Ea H ?_;rw[e1];exact Qa _
     .rintro⟨e,z⟩;simp only[cDs,XU,Vn]at e;rw[cNs]at z⊢;have:=q ⟨e.1,e.2.1,by omega⟩;subst this;rw[Y ⟨e.2.2,by omega⟩];omega
     .intro J;by_cases p:d+1<=16/\cD (d+1+1) x=true/\cN x<=256
      .have:=q p;subst this;refine M λe=>J ⟨?_,?_⟩
       .simp only[cDs,XU,Vn];exact⟨p.1,p.2.1,e.1⟩
       .rw[cNs];omega
      .have:=s p;exact M λe=>by omega
    .refine⟨a,Eh ?_,t,j,λh=>?_,λ_=>by omega⟩
     .unfold F_eq;simp only[g.lt,Vl,Q5 f,XH,Vm];exact Qa _
     .omega
  obtain⟨v,H,O,N,q,s⟩:=loop c.Parts 0 1 rfl (XS _) (by omega) (by unfold condB;omega);refine⟨v,Ye (Ea H.ev (Qa _)),O,N,?_,?_⟩
  .rintro⟨_,e,z⟩;rw[Ql5]at e;rw[Qcb]at z⊢;rw[q ⟨e,by omega⟩];omega
  .intro J;refine s λh=>J ⟨k,by rw[Ql5];exact h.1,by rw[Qcb];omega⟩
 .rw[Q7 (show(16:Int)<(d:Int)by omega)];refine⟨1000,Qmi (Qa _),by omega,by unfold condB;omega,λh=>absurd h.1 k,λ_=>by omega⟩
def sizeB:Nat->Int
 |0=>10000
 |k+1=>3*sizeB k
theorem Qdd:∀k,10000<=sizeB k
 |0=>Int.le_refl _
 |k+1=>by have:=Qdd k;simp[sizeB];omega
theorem QnG{k:Nat}(h:k<=17):sizeB k<=1291401630000:=by
 have:∀j,j<=17->sizeB j<=1291401630000:=by decide+kernel
 exact this k h
def goodL(d:Nat)(l:List Step):Prop:=sDs d l=true/\sNs l<=64/\sCs l<=256
theorem QpN:∀(m:Nat) (l:List Step) (d:Nat),sZs l<=m->d<=17->l.length<=1048576->(∀x∈l,Step.wf x)->∃a b:Int,Ev (λn=>F_aa n l (d:Int)) (a,b)/\0<=a/\0<=b/\a<=sizeB (17-d)/\b<=sizeB (17-d)/\
  (goodL d l->a=sNs l/\b=sCs l)/\(¬goodL d l->64<a\/256<b):=by
 intro m
 induction m using Nat.strongRecOn with
 |_ m E=>
 intro l d hm hd hl hw;have af:∀{P:Int->Int->Prop},(∃a b:Int,Ev (λn=>B_aa (F_aa n) n l (d:Int)) (a,b)/\P a b)->∃a b:Int,Ev (λn=>F_aa n l (d:Int)) (a,b)/\P a b:=by
  rintro P ⟨a,b,B,t⟩;exact⟨a,b,QK B,t⟩
 refine af ?_;unfold B_aa;by_cases e:0<l.length/\ ¬d<=16
 .rw[Q7 (show(0:Int)<(l.length:Int)by omega),Q7 (show(16:Int)<(d:Int)by omega)];have:=Qdd (17-d);refine⟨1000,1000,Ea (Qa _) (Qmi (Qa _)),by omega,by omega,by omega,by omega,λh=>?_,λ_=>by omega⟩;exfalso;cases l with
  |nil=>simp at e
  |cons x r=>
   have:=h.1;simp only[sDs,XU,Vn]at this;exact e.2 this.1
 .have p:Ev (λn:Nat=>((bif decide (0<(l.length:Int))then some (decide (16<(d:Int)))else some false):Option Bool)) false:=by
   by_cases hp:0<l.length
   .have:d<=16:=by
     rcases Vz 16 d with q|q
     .exact absurd ⟨hp,by omega⟩ e
     .exact q
    rw[Q7 (show(0:Int)<(l.length:Int)by omega),Q5 (show¬(16:Int)<(d:Int)by omega)];exact Qa _
   .rw[Q5 (show¬(0:Int)<(l.length:Int)by omega)];exact Qa _
  have ed:i64.wrap ((d:Int)+1)=((d+1:Nat):Int):=Yt (by omega);have loop:∀(r:List Step) (i:Nat) (a b:Int),l.drop i=r->i<=l.length->0<=a->0<=b->a<=sizeB (17-d)->b<=sizeB (17-d)->
    ∃a' b':Int,EvI (λn=>F_gg n l (d:Int) (F_aa n)) (a,b,(i:Int)) (a',b')/\0<=a'/\0<=b'/\a'<=sizeB (17-d)/\b'<=sizeB (17-d)/\
     (sDs d r=true/\a+sNs r<=64/\b+sCs r<=256->a'=a+sNs r/\b'=b+sCs r)/\(¬(sDs d r=true/\a+sNs r<=64/\b+sCs r<=256)->64<a'\/256<b'):=by
   intro r
   induction r with
   |nil=>
    intro i a b hr hi p B t h3;refine⟨a,b,Eh ?_,p,B,t,h3,λ_=>by simp[sNs,sCs],λh=>?_⟩
    .unfold F_gg;simp only[QX hr hi,Vm,XH];exact Qa _
    .simp[sDs,sNs,sCs]at h;omega
   |cons s r ae=>
    intro i a b hr hi p B t h3;obtain⟨j,ab⟩:=Qx (by omega) hr;have ag:=j.lt';have w:d<=16:=by
     rcases Vz 16 d with q|q
     .exact absurd ⟨by omega,by omega⟩ e
     .exact q
    have ah:sZ s<=sZs l:=by
     have:∀l:List Step,s∈l->sZ s<=sZs l:=by
      intro l
      induction l with
      |nil=>intro h;cases h
      |cons y l E=>
       intro h;rw[sZs];rcases X4.1 h with rfl|h
       .omega
       .have:=E h;omega
     exact this _ j.mem
    by_cases f:a<=64/\b<=256
    .obtain⟨wc,⟨ac,Y⟩,⟨H,J⟩⟩:=Jh (hw s j.mem);have ak:=Qg0 s;obtain⟨u,g,M,p2,p3,p4,p5,G,p7⟩:=E (sZs s.Then) (by omega) s.Then (d+1) (XR _) (by omega) ac Y;obtain⟨y1,y2,q1,q2,q3,q4,q5,q6,q7⟩:=E (sZs s.Else) (by omega) s.Else (d+1) (XR _) (by omega) H J;have hB:sizeB (17-d)=3*sizeB (17-(d+1)):=by
      rw[show 17-d=(17-(d+1))+1 by omega];rfl
     have W:=Qdd (17-(d+1));have ai:=QnG (k:=17-d) (by omega);have hc:∃z:Int,0<=z/\z<=5608/\Ev (λn=>((bif (!zeroC s.Cond)then(idx l (i:Int)).bind λQ=>(F_m n Q.Cond 0).bind λR=>some (i64.wrap ((i64.wrap ((i64.wrap (b+g))+y2))+R))else some (i64.wrap ((i64.wrap (b+g))+y2))):Option Int)) (b+g+y2+z)/\
       ((zeroC s.Cond||cD 1 s.Cond)=true/\(bif zeroC s.Cond then 0 else cN s.Cond)<=256->z=((bif zeroC s.Cond then 0 else cN s.Cond:Nat):Int))/\(¬((zeroC s.Cond||cD 1 s.Cond)=true/\(bif zeroC s.Cond then 0 else cN s.Cond)<=256)->256<z):=by
      have e1:i64.wrap (b+g)=b+g:=QZ (by omega) (by omega);have e2:i64.wrap (b+g+y2)=b+g+y2:=QZ (by omega) (by omega);cases hz:zeroC s.Cond with
      |true=>
       refine⟨0,by omega,by omega,?_,λ_=>by simp,λh=>absurd ⟨rfl,by simp⟩ h⟩;simp only[Xh,Vm,e1,e2];exact(Qa _).eq (by omega)
      |false=>
       obtain⟨v,u1,u2,u3,u4,u5⟩:=QcL _ s.Cond 0 (XR _) (by omega) wc;have aa:v<=5608:=by unfold condB at u3;omega
       have e3:i64.wrap (b+g+y2+v)=b+g+y2+v:=QZ (by omega) (by omega);refine⟨v,u2,aa,?_,λh=>?_,λh=>?_⟩
       .simp only[Xi,Vl,j.ix,XH,e1,e2];refine Ea u1 ?_;rw[e3];exact Qa _
       .simp only[Bool.false_or,Vm]at h⊢;exact u4 ⟨by omega,h.1,h.2⟩
       .simp only[Bool.false_or,Vm]at h;exact u5 λq=>h ⟨q.2.1,q.2.2⟩
     obtain⟨z,z0,z1,z2,z3,z4⟩:=hc;have e4:i64.wrap (a+1)=a+1:=QZ (by omega) (by omega);have e5:i64.wrap (a+1+u)=a+1+u:=QZ (by omega) (by omega);have e6:i64.wrap (a+1+u+y1)=a+1+u+y1:=QZ (by omega) (by omega);obtain⟨w1,w2,v1,v2,v3,v4,v5,v6,F⟩:=ae (i+1) (a+1+u+y1) (b+g+y2+z) ab (by omega) (by omega) (by omega) (by omega) (by omega);refine⟨w1,w2,Et ?_ v1,v2,v3,v4,v5,?_,?_⟩
     .unfold F_gg;simp only[j.lt,Vl,Q7 f.1,Q7 f.2,XH,j.ix,j.nx,ed,Qf9];refine Ea M (Ea q1 ?_);simp only[j.ix,XH]at z2;refine Ea z2 ?_;rw[e4,e5,e6];exact Qa _
     .rintro⟨g1,g2,g3⟩;simp only[sDs,XU,Vn,QiZ]at g1;obtain⟨aj,⟨T,N,O⟩,L⟩:=g1;rw[sNs,Qg1]at g2⊢;rw[sCs,Qfu]at g3⊢;obtain⟨k1,k2⟩:=G ⟨N,by omega,by omega⟩;obtain⟨k3,k4⟩:=q6 ⟨O,by omega,by omega⟩;have k5:=z3 ⟨T,by omega⟩;obtain⟨k6,k7⟩:=v6 ⟨L,by omega,by omega⟩;constructor<;>omega
     .intro hn;by_cases b1:goodL (d+1) s.Then
      .obtain⟨k1,k2⟩:=G b1;by_cases V:goodL (d+1) s.Else
       .obtain⟨k3,k4⟩:=q6 V;by_cases X:(zeroC s.Cond||cD 1 s.Cond)=true/\(bif zeroC s.Cond then 0 else cN s.Cond)<=256
        .have k5:=z3 X;refine F λq=>hn ⟨?_,?_,?_⟩
         .simp only[sDs,XU,Vn,QiZ];exact⟨w,⟨X.1,b1.1,V.1⟩,q.1⟩
         .rw[sNs,Qg1];omega
         .rw[sCs,Qfu];omega
        .have:=z4 X;exact F λq=>by omega
       .have:=q7 V;exact F λq=>by omega
      .have:=p7 b1;exact F λq=>by omega
    .refine⟨a,b,Eh ?_,p,B,t,h3,λh=>?_,λ_=>?_⟩
     .unfold F_gg;have:Ev (λn:Nat=>((bif decide ((i:Int)<(l.length:Int))then(bif decide (a<=64)then some (decide (b<=256))else some false)else some false):Option Bool)) false:=by
       rw[j.lt];by_cases q:a<=64
       .rw[Q7 q,Q5 (show¬b<=256 from λz=>f ⟨q,z⟩)];exact Qa _
       .rw[Q5 q];exact Qa _
      exact Ea this (Ye (Qa _))
     iterate 2 omega
  have W:=Qdd (17-d);obtain⟨a,b,M,p2,p3,p4,p5,G,p7⟩:=loop l 0 0 0 rfl (XS _) (by omega) (by omega) (by omega) (by omega);refine⟨a,b,Ea p (Ye (Ea M.ev (Qa _))),p2,p3,p4,p5,λh=>?_,λh=>?_⟩
  .obtain⟨k1,k2⟩:=G ⟨h.1,by have:=h.2.1;omega,by have:=h.2.2;omega⟩;constructor<;>omega
  .exact p7 λq=>h ⟨q.1,by omega,by omega⟩
theorem QjK:∀(m:Nat) (c:Cond),cN c<=m->Cond.wf c->Ev (λn=>F_ac n c) (vaC c):=by
 intro m
 induction m using Nat.strongRecOn with
 |_ m p=>
 intro c z u;obtain⟨t,f⟩:=Ji u;refine QK ?_;show Ev (λn=>B_ac (F_ac n) n c) _;rw[Qnx];have d:∀x∈c.Parts,cN x<cN c:=by
  intro x d;have:∀l:List Cond,x∈l->cN x<=cNs l:=by
   intro l
   induction l with
   |nil=>intro h;cases h
   |cons y l p=>
    intro h;rw[cNs];rcases X4.1 h with rfl|h
    .omega
    .have:=p h;omega
  have:=this _ d;rw[Qcb c];omega
 have loop:Ev (λn=>iter (F_fz n c (F_ac n)) n 0) (bif c.Parts.all vaC then Ctl.cont ()else Ctl.done false):=by
  refine YG c.Parts vaC _ _ (by omega) (λi x a=>?_) ?_
  .unfold F_fz;simp only[a.lt,Vl,a.ix,XH,a.nx];refine Ea (p (cN x) (by have:=d x a.mem;omega) x (XR _) (f x a.mem)) ?_;cases vaC x<;>exact Qa _
  .unfold F_fz;simp only[Yu,Vm];exact Qa _
 have fin:Ev (λn=>((bif (c.Var != 0)then some true else some (c.N != 0)):Option Bool).bind λk=>(bif k then some false else(iter (F_fz n c (F_ac n)) n 0).bind λj=>match j with|.cont sb48=>(some true)|.done sb48=>some sb48)) (((c.Var==0)&&(c.N==0))&&vaCs c.Parts):=by
  refine Ea (v:= !((c.Var==0)&&(c.N==0))) (Ez ?_) ?_
  .rw[Qfe];simp only[Bool.not_and,bne]
  .cases((c.Var==0)&&(c.N==0))with
   |false=>exact Qa _
   |true=>
    refine Ye (Ea loop ?_);rw[QhO];cases c.Parts.all vaC<;>exact Qa _
 refine QbQ (λ_=>?_) (λw=>?_)
 .refine Ea (v:=_) ((Ql λ_=>Ql λ_=>Ql λ_=>Ql λ_=>Qa _).eq ?_) (Qa _);unfold inR;simp only[Bool.and_assoc]
 .have e:Ev (λn:Nat=>((bif (c.Kind==2)then some (c.Kind==2)else some (c.Kind==3)):Option Bool)) ((c.Kind==2)||(c.Kind==3)):=Ez (by rw[Qiw]);refine Ea e ?_;cases q:((c.Kind==2)||(c.Kind==3))with
  |true=>
   have r:(c.Kind==4)=false:=by
    rw[VJ];simp only[Bool.or_eq_true,Vv]at q;simp only[Vv,ne_eq];omega
   rw[r];have s:(bif decide ((c.Parts.length:Int)<1)then some true else some (decide (16<(c.Parts.length:Int))))=some (!(decide (0<(c.Parts.length:Int))&&decide ((c.Parts.length:Int)<=16))):=by
    rw[Qfe];congr 1;rw[XW];simp only[Bool.or_eq_true,Vn,Bool.not_eq_true',Bool.and_eq_false_iff,decide_eq_false_iff_not];omega
   rw[s];cases g:(decide (0<(c.Parts.length:Int))&&decide ((c.Parts.length:Int)<=16))with
   |false=>
    refine Ea (Qa _) ((Qa _).eq (by simp))
   |true=>
    refine Ea (Qa _) (fin.eq (by simp))
  |false=>
   simp only[Vm];cases r:(c.Kind==4)with
   |true=>
    simp only[Vl];cases g:((c.Parts.length:Int)==1)with
    |false=>
     refine Ea (v:=Ctl.done false) (Ez ?_) ((Qa _).eq (by simp));simp only[bne,g,Xi,Vl]
    |true=>
     refine Ea (v:=Ctl.cont ()) (Ez ?_) (fin.eq (by simp));simp only[bne,g,Xh,Vm]
   |false=>
    refine Ea (Qa _) (Qa _)
theorem QkY(c:Cond)(a:Cond.wf c)(f:cD 1 c=true)(e:cN c<=256):Ev (λn=>F_dp n c) (bif vaC c then 0 else 71):=by
 obtain⟨v,d,_,_,g,_⟩:=QcL _ c 0 (XR _) (by omega) a;have:=g ⟨by omega,f,e⟩;refine Ea d ?_;rw[Q5 (show¬256<v by omega)];refine Ye (Ea (QjK _ c (XR _) a) ?_);cases vaC c<;>exact Qa _
theorem Qmm{c:Cond}(h:zeroC c=true):cD 1 c=true/\cN c<=256:=by
 unfold zeroC at h;simp only[XU,Vv]at h;have:c.Parts=[]:=List.eq_nil_of_length_eq_zero (by omega);rw[Ql5,Qcb,this];exact⟨rfl,by simp[cNs]⟩
theorem QjI:∀(m:Nat) (l:List Step) (d:Nat),sZs l<=m->l.length<=1048576->(∀x∈l,Step.wf x)->sDs d l=true->sCs l<=256->Ev (λn=>F_i n l) (vaSs l):=by
 intro m
 induction m using Nat.strongRecOn with
 |_ m u=>
 intro l d hm hl M k hc;refine QK ?_;show Ev (λn=>B_i (F_i n) n l) _;unfold B_i;have j:∀s∈l,sZ s<=sZs l/\sDp (d+1) s=true/\sC s<=sCs l:=by
  intro s;have:∀l:List Step,s∈l->sDs d l=true->sZ s<=sZs l/\sDp (d+1) s=true/\sC s<=sCs l:=by
   intro l
   induction l with
   |nil=>intro h;cases h
   |cons y l u=>
    intro h k;simp only[sDs,XU]at k;rw[sZs,sCs];rcases X4.1 h with rfl|h
    .exact⟨by omega,k.2.1,by omega⟩
    .obtain⟨L,G,h3⟩:=u h k.2.2;exact⟨by omega,G,by omega⟩
  exact λh=>this l h k
 rw[QhN];have loop:Ev (λn=>iter (F_il n l (F_i n)) n 0) (bif l.all vaS then Ctl.cont ()else Ctl.done false):=by
  refine YG l vaS _ _ (by omega) (λi s p=>?_) ?_
  .obtain⟨m1,E,m3⟩:=j s p.mem;obtain⟨P,⟨F,z⟩,⟨w,B⟩⟩:=Jh (M s p.mem);have T:=Qg0 s;have t:=Qfu s;rw[QiZ]at E;simp only[XU]at E;obtain⟨J,O,Y⟩:=E;have f:cD 1 s.Cond=true/\cN s.Cond<=256:=by
    cases H:zeroC s.Cond with
    |true=>exact Qmm H
    |false=>
     rw[H]at J t;simp only[Vm]at t;exact⟨by simpa using J,by omega⟩
   unfold F_il;simp only[p.lt,Vl,p.ix,XH,p.nx,Qf9];rw[Qnw];cases L:(s.Kind==1)with
   |true=>
    simp only[Vl];have e:Ev (λn:Nat=>((bif decide (s.By<1)then some true else(bif decide (5<s.By)then some true else(bif (!zeroC s.Cond)then some true else(bif ((s.Then.length:Int) != 0)then some true else some ((s.Else.length:Int) != 0))))):Option Bool)) (!(inR 1 5 s.By&&(zeroC s.Cond&&(((s.Then.length:Int)==0)&&((s.Else.length:Int)==0))))):=by
     refine(Ep λ_=>Ep λ_=>Ep λ_=>Ep λ_=>Qa _).eq ?_;unfold inR;cases zeroC s.Cond with
     |false=>simp
     |true=>
      rw[XW];simp only[Bool.or_eq_true,Vn,Bool.not_eq_true',Bool.and_eq_false_iff,decide_eq_false_iff_not,bne_iff_ne,ne_eq,Vw,Xh,Vx,Xj,false_or];omega
    cases r:(inR 1 5 s.By&&(zeroC s.Cond&&(((s.Then.length:Int)==0)&&((s.Else.length:Int)==0))))with
    |true=>rw[r]at e;exact Ea (Ea e (Qa _)) (Qa _)
    |false=>rw[r]at e;exact Ea (Ea e (Qa _)) (Qa _)
   |false=>
    simp only[Vm];cases G:(s.Kind==2)with
    |true=>
     simp only[Vl];have e:Ev (λn=>((bif (s.By != 0)then some true else(F_dp n s.Cond).bind λq=>(bif (q != 0)then some true else(bif ((s.Then.length:Int)==0)then some true else(F_i n s.Then).bind λg=>(bif (!g)then some true else(F_i n s.Else).bind λa=>some (!a))))):Option Bool)) (!((s.By==0)&&(vaC s.Cond&&(decide (0<(s.Then.length:Int))&&(vaSs s.Then&&vaSs s.Else))))):=by
      have N:=u (sZs s.Then) (by omega) s.Then (d+1) (XR _) F z O (by omega);have V:=u (sZs s.Else) (by omega) s.Else (d+1) (XR _) w B Y (by omega);have R:Ev (λn=>(F_i n s.Else).bind λa=>some (!a)) (!vaSs s.Else):=Ea V (Qa _);have X:Ev (λn=>(F_i n s.Then).bind λg=>(bif (!g)then some true else(F_i n s.Else).bind λa=>some (!a))) (!vaSs s.Then|| !vaSs s.Else):=Ea N (Ep λ_=>R);refine(Ep λ_=>Ea (QkY s.Cond P f.1 f.2) (Ep λ_=>Ep λ_=>X)).eq ?_;have W:((bif vaC s.Cond then(0:Int)else 71) != 0)= !vaC s.Cond:=by cases vaC s.Cond<;>rfl
      have Q:((s.Then.length:Int)==0)= !decide (0<(s.Then.length:Int)):=by
       rw[XW];simp
      rw[W,Q];simp only[Bool.not_and,bne]
     cases r:((s.By==0)&&(vaC s.Cond&&(decide (0<(s.Then.length:Int))&&(vaSs s.Then&&vaSs s.Else))))with
     |true=>rw[r]at e;exact Ea (Ea e (Qa _)) (Qa _)
     |false=>rw[r]at e;exact Ea (Ea e (Qa _)) (Qa _)
    |false=>exact Ea (Qa _) (Qa _)
  .unfold F_il;simp only[Yu,Vm];exact Qa _
 refine Ea loop ?_;cases l.all vaS<;>exact Qa _
theorem QkT(l:List Step)(hl:l.length<=1048576)(g:∀x∈l,Step.wf x):Ev (λn=>F_fa n l) (tiesE l):=by
 obtain⟨a,b,k,u,s,_,_,m,p⟩:=QpN _ l 0 (XR _) (by omega) hl g;refine Ea k ?_;have i:goodT l=true↔goodL 0 l:=by
  unfold goodT goodL;simp
 unfold tiesE;cases f:goodT l with
 |false=>
  have:=p (λh=>by rw[i.2 h]at f;cases f);have e:(bif decide (64<a)then some true else some (decide (256<b)))=some true:=by
   rcases this with h|h
   .rw[Q7 h];rfl
   .rw[Q7 h];simp
  exact Ea (Ez e) (Qa _)
 |true=>
  have d:=i.1 f;obtain⟨w,t⟩:=m d;have r:=d.2.1;have q:=d.2.2;have e:(bif decide (64<a)then some true else some (decide (256<b)))=some false:=by
   rw[Qfe,Q5 (show¬64<a by omega),Q5 (show¬256<b by omega)];rfl
  refine Ea (Ez e) (Ye ?_);have j:((l.length:Int)==0)=l.isEmpty:=by
   cases l<;>simp;omega
  rw[j];refine Ea (Ep λ_=>Ea (QjI _ l 0 (XR _) hl g d.1 q) (Qa _)) ?_;cases(l.isEmpty|| !vaSs l)<;>exact Qa _
mutual
def hP:Part->Nat
 |⟨_,_,ps⟩=>bif ps.isEmpty then 0 else 1+hPs ps
def hPs:List Part->Nat
 |[]=>0
 |p::r=>max (hP p) (hPs r)
end
theorem Qn6(p:Part):hP p=bif p.Parts.isEmpty then 0 else 1+hPs p.Parts:=by cases p;rfl
theorem QlQ{p:Part}:∀{l:List Part},p∈l->hP p<=hPs l
 |q::r,h=>by
  simp[hPs];rcases X4.1 h with rfl|h
  .omega
  .have:=QlQ h;omega
theorem QfK{α:Type}(l:List α):((l.length:Int)==0)=l.isEmpty:=by
 cases l<;>simp;omega
theorem Jn:∀l:List Part,l.length<=szPs l
 |[]=>XR _
 |p::r=>by have:=Jn r;rw[szPs,Y5,XY];omega
theorem QeE:∀(m:Nat) (l:List Part) (k:Nat),szPs l<=m->k<=17->l.length<=1048576->(∀x∈l,Part.wf x)->Ev (λn=>F_z n l (k:Int)) ((min (hPs l) k:Nat):Int):=by
 intro m
 induction m using Nat.strongRecOn with
 |_ m w=>
 intro l k F H G s;refine QK ?_;show Ev (λn=>B_z (F_z n) n l (k:Int)) _;unfold B_z;have loop:∀(r:List Part) (i:Nat) (a:Nat),l.drop i=r->i<=l.length->a<=k->EvI (λn=>F_dz n l (k:Int) (F_z n)) ((a:Int),(i:Int)) ((max a (min (hPs r) k):Nat):Int):=by
  intro r
  induction r with
  |nil=>
   intro i a e h d;refine Eh ?_;unfold F_dz;simp only[QX e h,Vm,XH];refine(Qa _).eq ?_;simp[hPs]
  |cons p r f=>
   intro i a e h u;obtain⟨d,g⟩:=Qx (by omega) e;obtain⟨t,E⟩:=Yy (s p d.mem);by_cases z:0<k
   .have B:i64.wrap ((k:Int)-1)=((k-1:Nat):Int):=by rw[QZ (by omega) (by omega)];omega
    have j:=JH d.mem;rw[Y5]at j;have step:Ev (λn=>F_dz n l (k:Int) (F_z n) ((a:Int),(i:Int))) (.cont (((max a (min (hP p) k):Nat):Int),((i+1:Nat):Int))):=by
     unfold F_dz;simp only[d.lt,Vl,Q7 (show(0:Int)<(k:Int)by omega),XH,d.ix,d.nx,B,bne,QfK];rw[Qn6];cases J:p.Parts.isEmpty with
     |true=>
      simp only[Xh,Vm,XH,Vl,Nat.zero_min,Nat.max_zero];exact Qa _
     |false=>
      simp only[Xi,Vl,Vm];refine Ea (Ea (w (szPs p.Parts) (by omega) p.Parts (k-1) (XR _) (by omega) t E) (Qa _)) ((Qa _).eq ?_);have y:i64.wrap (1+((min (hPs p.Parts) (k-1):Nat):Int))=((1+min (hPs p.Parts) (k-1):Nat):Int):=by rw[QZ (by omega) (by omega)];omega
      rw[y];congr 2;split<;>omega
    refine(Et step (f (i+1) _ g (by have:=d.lt';omega) (by omega))).eq ?_;rw[hPs];omega
   .have:k=0:=by omega
    subst this;refine Eh ?_;unfold F_dz;simp only[d.lt,Vl,Q5 (show¬(0:Int)<((0:Nat):Int)by omega),XH,Vm];have q:max a (min (hPs (p::r)) 0)=a:=by omega
    rw[q];exact Qa _
 refine Ea ((loop l 0 0 rfl (XS _) (XS _)).ev) ((Qa _).eq ?_);omega
theorem QeF:∀(m:Nat) (l:List Part),szPs l<=m->l.length<=1048576->(∀x∈l,Part.wf x)->Ev (λn=>F_ai n l) ((min (szPs l) 257:Nat):Int):=by
 intro m
 induction m using Nat.strongRecOn with
 |_ m E=>
 intro l F w B;refine QK ?_;show Ev (λn=>B_ai (F_ai n) n l) _;have loop:∀(r:List Part) (i:Nat) (a:Nat),l.drop i=r->i<=l.length->a<=1048576->∃b:Nat,EvI (λn=>F_em n l (F_ai n)) ((a:Int),(i:Int)) (b:Int)/\min b 257=min (a+(szPs r-r.length)) 257:=by
  intro r
  induction r with
  |nil=>
   intro i a g j _;refine⟨a,Eh ?_,by simp[szPs]⟩;unfold F_em;simp only[QX g j,Vm,XH];exact Qa _
  |cons p r f=>
   intro i a g j u;obtain⟨d,h⟩:=Qx (by omega) g;obtain⟨t,y⟩:=Yy (B p d.mem);have s:=JH d.mem;rw[Y5]at s;have z:=Jn r;by_cases k:a<=256
   .obtain⟨b,e,q⟩:=f (i+1) (a+min (szPs p.Parts) 257) h (by have:=d.lt';omega) (by omega);refine⟨b,Et ?_ e,?_⟩
    .unfold F_em;simp only[d.lt,Vl,Q7 (show(a:Int)<=256 by omega),XH,d.ix,d.nx];refine Ea (E (szPs p.Parts) (by omega) p.Parts (XR _) t y) ((Qa _).eq ?_);rw[QZ (by omega) (by omega)];congr 2
     all_goals omega
    .rw[q,szPs,Y5,XY];omega
   .refine⟨a,Eh ?_,by omega⟩;unfold F_em;simp only[d.lt,Vl,Q5 (show¬(a:Int)<=256 by omega),XH,Vm];exact Qa _
 obtain⟨b,e,q⟩:=loop l 0 l.length rfl (XS _) w;refine Ea e.ev ((Qa _).eq ?_);have:=Jn l;split<;>omega
theorem Qow:∀(m:Nat) (l:List Part) (k:Nat),szPs l<=m->hPs l<=k->k<=17->szPs l<=256->(∀x∈l,Part.wf x)->Ev (λn=>F_g n l (k:Int)) ((hPs l:Int),(szPs l:Int)):=by
 intro m
 induction m using Nat.strongRecOn with
 |_ m H=>
 intro l k P Q t f E;have s:=Jn l;refine QK ?_;show Ev (λn=>B_g (F_g n) n l (k:Int)) _;unfold B_g;have loop:∀(r:List Part) (i:Nat) (a b:Nat),l.drop i=r->i<=l.length->a<=17->b+(szPs r-r.length)<=256->EvI (λn=>F_bf n l (k:Int) (F_g n)) ((a:Int),(b:Int),(i:Int)) (((max a (hPs r):Nat):Int),((b+(szPs r-r.length):Nat):Int)):=by
  intro r
  induction r with
  |nil=>
   intro i a b g w _ _;refine Eh ?_;unfold F_bf;simp only[QX g w,Vm,XH];refine(Qa _).eq ?_;simp[hPs,szPs]
  |cons p r h=>
   intro i a b g w F e;obtain⟨d,q⟩:=Qx (by omega) g;obtain⟨R,O⟩:=Yy (E p d.mem);have y:=JH d.mem;have j:=QlQ d.mem;rw[Y5]at y;have M:=Jn r;rw[szPs,Y5,XY]at e;have step:Ev (λn=>F_bf n l (k:Int) (F_g n) ((a:Int),(b:Int),(i:Int))) (.cont (((max a (hP p):Nat):Int),((b+szPs p.Parts:Nat):Int),((i+1:Nat):Int))):=by
    unfold F_bf;simp only[d.lt,Vl,d.ix,XH,d.nx,QfK];rw[Qn6]at j⊢;cases u:p.Parts.isEmpty with
    |true=>
     have B:p.Parts=[]:=by simpa using u
     simp only[Vl,XH];rw[B];simp only[szPs,Xv,Nat.max_zero];exact Qa _
    |false=>
     rw[u]at j;simp only[Vm]at j⊢;have L:0<k:=by omega
     have N:i64.wrap ((k:Int)-1)=((k-1:Nat):Int):=by rw[QZ (by omega) (by omega)];omega
     have J:((k:Int)==0)=false:=beq_false_of_ne (by omega);rw[J,Q5 (show¬(256:Int)<(b:Int)by omega),N];simp only[Vm,XH];refine Ea (Ea (H (szPs p.Parts) (by omega) p.Parts (k-1) (XR _) (by omega) (by omega) (by omega) O) (Qa _)) ((Qa _).eq ?_);have G:i64.wrap ((hPs p.Parts:Int)+1)=((hPs p.Parts+1:Nat):Int):=Yt (by omega);have z:i64.wrap ((b:Int)+(szPs p.Parts:Int))=((b+szPs p.Parts:Nat):Int):=by rw[QZ (by omega) (by omega)];omega
     simp only[G,z];congr 2;split<;>omega
   refine(Et step (h (i+1) _ _ q (by have:=d.lt';omega) (by omega) (by omega))).eq ?_;rw[hPs,szPs,Y5,XY];congr 1<;>omega
 refine Ea ((loop l 0 0 l.length rfl (XS _) (by omega) (by omega)).ev) ((Qa _).eq ?_);congr 1<;>omega
def repS:Nat->List Int->List Int->List Int
 |0,out,_=>out
 |k+1,out,lap=>if 256<out.length then out else repS k (out++lap) lap
mutual
def lapS:Part->List Int
 |⟨m,laps,ps⟩=>bif decide (0<laps)then expS [] ps else[m]
def expS:List Int->List Part->List Int
 |out,[]=>out
 |out,p::r=>expS (repS (p.Laps.toNat+(bif decide (0<p.Laps)then 0 else 1)) out (lapS p)) r
end
theorem Qcr(p:Part):lapS p=bif decide (0<p.Laps)then expS [] p.Parts else[p.Mat]:=by cases p;rfl
theorem Qdj{k:Nat}{a d:List Int}(h:256<a.length):repS k a d=a:=by
 cases k with
 |zero=>rfl
 |succ k=>rw[repS,Vq h]
theorem Qf7:∀(l:List Part) {out:List Int},256<out.length->expS out l=out
 |[],out,h=>by rw[expS]
 |p::r,out,h=>by rw[expS,Qdj h];exact Qf7 r h
theorem Qdi:∀(k:Nat) (out lap:List Int),(repS k out lap).length<=max out.length (256+lap.length)
 |0,out,lap=>by rw[repS];omega
 |k+1,out,lap=>by
  rw[repS];split
  .omega
  .have:=Qdi k (out++lap) lap;rw[X0]at this;omega
theorem Qf6:∀(m:Nat) (l:List Part) (a:List Int),szPs l<=m->(expS a l).length<=max a.length (256+257*szPs l):=by
 intro m
 induction m using Nat.strongRecOn with
 |_ m k=>
 intro l;have d:∀p∈l,szPs l<=m->(lapS p).length<=257*szP p:=by
  intro p f h;have n:=JH f;rw[Qcr,Y5]at*;cases decide (0<p.Laps)with
  |true=>
   have:=k (szPs p.Parts) (by omega) p.Parts [] (XR _);simp[Vl,List.length_nil]at this⊢;omega
  |false=>simp;omega
 have e:∀(r:List Part) (a:List Int),(∀p∈r,(lapS p).length<=257*szP p)->(expS a r).length<=max a.length (256+257*szPs r):=by
  intro r
  induction r with
  |nil=>intro a _;rw[expS];omega
  |cons p r g=>
   intro a i;rw[expS,szPs];have s:=g (repS (p.Laps.toNat+(bif decide (0<p.Laps)then 0 else 1)) a (lapS p)) λq j=>i q (by simp[j]);have u:=Qdi (p.Laps.toNat+(bif decide (0<p.Laps)then 0 else 1)) a (lapS p);have t:=i p (by simp);omega
 intro a h;exact e l a λp f=>d p f h
theorem Qjm(p:Part):(lapS p).length<=257*szP p:=by
 rw[Qcr,Y5];cases decide (0<p.Laps)with
 |true=>
  have:=Qf6 _ p.Parts [] (XR _);simp[Vl,List.length_nil]at this⊢;omega
 |false=>simp;omega
theorem QmQ(kk:Int):∀(m:Nat) (l:List Part),szPs l<=m->szPs l<=256->l.length<=1048576->(∀x∈l,Part.wf x)->partsS kk l=true->Ev (λn=>F_w n l) (expS [] l):=by
 intro m
 induction m using Nat.strongRecOn with
 |_ m Y=>
 intro l hm H hl V O;rw[Qbi,Xs]at O;refine QK ?_;show Ev (λn=>B_w (F_w n) n l) _;unfold B_w;have inner:∀(p:Part) (e:List Int) (f:p.Laps=0\/0<p.Laps/\p.Laps<=64) (z:e.length<=100000) (j:Nat) (k:Nat) (a:List Int),j+k=p.Laps.toNat+(bif decide (0<p.Laps)then 0 else 1)->a.length<=200000->
   ∃d:Ctl (List Int) (Ctl ((List Int)×Int) (Ctl (List Int) (List Int))),EvI (λn=>F_gd n p e) (a,(j:Int)) d/\
    (d=.cont (repS k a e)\/(256<(repS k a e).length/\d=.done (.done (.done (repS k a e))))):=by
  intro p e f z j k
  induction k generalizing j with
  |zero=>
   intro a q _;refine⟨_,Eh (b:=.cont a) ?_,.inl rfl⟩;unfold F_gd;have:¬((j:Int)<if p.Laps<1 then 1 else p.Laps):=by
    rcases f with h|⟨h,h'⟩
    .rw[h]at q⊢;simp at q⊢;omega
    .rw[Q7 h]at q;simp at q;rw[Vp (by omega)];omega
   rw[Q5 this];exact Qa _
  |succ k M=>
   intro a q F;have w:((j:Int)<if p.Laps<1 then 1 else p.Laps):=by
    rcases f with h|⟨h,h'⟩
    .rw[h]at q⊢;simp at q⊢;omega
    .rw[Q7 h]at q;simp at q;rw[Vp (by omega)];omega
   by_cases u:256<a.length
   .refine⟨_,Eh (b:=.done (.done (.done a))) ?_,.inr ⟨by rw[Qdj u];exact u,by rw[Qdj u]⟩⟩;unfold F_gd;rw[Q7 w,Q7 (show(256:Int)<(a.length:Int)by omega)];exact Qa _
   .obtain⟨d,s,E⟩:=M (j+1) (a++e) (by omega) (by rw[X0];omega);refine⟨d,Et ?_ s,by rw[repS,Vp u];exact E⟩;unfold F_gd;rw[Q7 w,Q5 (show¬(256:Int)<(a.length:Int)by omega)];refine Qmi (Ye (J6 (QdF a e (by omega)) ?_));rw[Yt (by omega)];exact Qa _
 have loop:∀(r:List Part) (i:Nat) (a:List Int),l.drop i=r->i<=l.length->a.length<=100000->
   ∃d:Ctl (List Int) (List Int),EvI (λn=>F_gq n l (F_w n)) (a,(i:Int)) d/\(d=.cont (expS a r)\/d=.done (expS a r)):=by
  intro r
  induction r with
  |nil=>
   intro i a J Q _;refine⟨.cont a,Eh ?_,.inl (by rw[expS])⟩;unfold F_gq;simp only[QX J Q,Vm];exact Qa _
  |cons p r L=>
   intro i a J Q F;obtain⟨g,N⟩:=Qx (by omega) J;have w:=g.lt';have R:=JH g.mem;obtain⟨W,w2⟩:=Yy (V p g.mem);have f:=O p g.mem;rw[Qb3]at f;have t:p.Laps=0\/0<p.Laps/\p.Laps<=64:=by
    cases P:(p.Laps==0)with
    |true=>exact .inl (by simpa using P)
    |false=>
     rw[P]at f;simp only[Vm,inR,XU,Vn]at f;exact .inr ⟨by omega,by omega⟩
   have X:=Qjm p;have u:Ev (λn=>((bif decide (0<p.Laps)then(F_w n p.Parts).bind λG=>some G else some [p.Mat]):Option (List Int))) (lapS p):=by
    rw[Qcr];refine QbQ (λh=>?_) (λ_=>Qa _);rw[Y5]at R;refine Ea (Y (szPs p.Parts) (by omega) p.Parts (XR _) (by omega) W w2 ?_) (Qa _);have:(p.Laps==0)=false:=by
     simp only[Vn]at h;exact beq_false_of_ne (by omega)
    rw[this]at f;simp only[Vm,XU]at f;exact f.2.2.2
   obtain⟨d,s,E⟩:=inner p (lapS p) t (by omega) 0 _ a (Xu _) (by omega);rw[expS];rcases E with rfl|⟨y,rfl⟩
   .obtain⟨B,q1,T⟩:=L (i+1) (repS (p.Laps.toNat+(bif decide (0<p.Laps)then 0 else 1)) a (lapS p)) N (by omega) (by
     have:=Qdi (p.Laps.toNat+(bif decide (0<p.Laps)then 0 else 1)) a (lapS p);omega)
    refine⟨B,Et ?_ q1,T⟩;unfold F_gq;simp only[g.lt,Vl,g.ix,XH,g.nx];exact Ea u (Ea s.ev (Qa _))
   .refine⟨.done (repS (p.Laps.toNat+(bif decide (0<p.Laps)then 0 else 1)) a (lapS p)),Eh ?_,.inr (by rw[Qf7 r y])⟩;unfold F_gq;simp only[g.lt,Vl,g.ix,XH,g.nx];exact Ea u (Ea s.ev (Qa _))
 obtain⟨d,s,E⟩:=loop l 0 [] rfl (XS _) (by simp);rcases E with rfl|rfl
 iterate 2 exact Ea s.ev (Qa _)
theorem Qij(R:Int):∀(m:Nat) (l:List Part),szPs l<=m->szPs l<=256->l.length<=1048576->(∀x∈l,Part.wf x)->partsS R l=true->Ev (λn=>F_ab n l) (expS [] l):=by
 intro m
 induction m using Nat.strongRecOn with
 |_ m Q=>
 intro l W u X N F;rw[Qbi,Xs]at F;refine QK ?_;show Ev (λn=>B_ab (F_ab n) n l) _;unfold B_ab;have inner:∀(p:Part) (i:Nat) (e:At l i p) (H:List Int) (f:List Int) (g:0<p.Laps/\p.Laps<=64) (h:f.length<=100000) (j:Nat) (k:Nat) (a:List Int),j+k=p.Laps.toNat->a.length<=200000->
   EvI (λn=>F_go n l (H,(i:Int)) f) (a,(j:Int)) (repS k a f):=by
  intro p i e H f g h j k
  induction k generalizing j with
  |zero=>
   intro a O _;refine Eh ?_;unfold F_go;simp only[e.ix,XH];rw[Q5 (show¬(j:Int)<p.Laps by omega)];exact Qa _
  |succ k z=>
   intro a O q;by_cases s:256<a.length
   .refine Eh ?_;rw[Qdj s];unfold F_go;simp only[e.ix,XH];rw[Q7 (show(j:Int)<p.Laps by omega),Q5 (show¬(a.length:Int)<=256 by omega)];exact Qa _
   .rw[repS,Vp s];refine Et ?_ (z (j+1) (a++f) (by omega) (by rw[X0];omega));unfold F_go;simp only[e.ix,XH];rw[Q7 (show(j:Int)<p.Laps by omega),Q7 (show(a.length:Int)<=256 by omega)];simp only[Vl,XH];refine J6 (QdF a f (by omega)) ?_;rw[Yt (by omega)];exact Qa _
 have loop:∀(r:List Part) (i:Nat) (a:List Int),l.drop i=r->i<=l.length->a.length<=100000->
   EvI (λn=>F_fb n l (F_ab n)) (a,(i:Int)) (expS a r):=by
  intro r
  induction r with
  |nil=>
   intro i a w J _;refine Eh ?_;rw[expS];unfold F_fb;simp only[QX w J,Vm,XH];exact Qa _
  |cons p r y=>
   intro i a w J q;obtain⟨e,B⟩:=Qx (by omega) w;have V:=e.lt';have L:=JH e.mem;by_cases s:256<a.length
   .rw[Qf7 _ s];refine Eh ?_;unfold F_fb;simp only[e.lt,Vl,Q5 (show¬(a.length:Int)<=256 by omega),XH,Vm];exact Qa _
   obtain⟨P,T⟩:=Yy (N p e.mem);have g:=F p e.mem;rw[Qb3]at g;have t:=Qjm p;rw[expS];refine Et ?_ (y (i+1) _ B (by omega) (by
    have:=Qdi (p.Laps.toNat+(bif decide (0<p.Laps)then 0 else 1)) a (lapS p);omega))
   unfold F_fb;simp only[e.lt,Vl,Q7 (show(a.length:Int)<=256 by omega),XH,e.ix,e.nx];cases G:(p.Laps==0)with
   |true=>
    have M:p.Laps=0:=by simpa using G
    simp only[Vl];refine Ea (J6 (QdF a [p.Mat] (by simp;omega)) (Qa _)) ((Qa _).eq ?_);rw[Qcr,M];simp[repS,s]
   |false=>
    rw[G]at g;simp only[Vm,XU,inR,Vn]at g;have d:0<p.Laps/\p.Laps<=64:=⟨by omega,by omega⟩;simp only[Vm];rw[Y5]at L;refine Ea (Ea (Q (szPs p.Parts) (by omega) p.Parts (XR _) (by omega) P T g.2.2.2) (Ea ?_ (Qa _))) (Qa _);have E:=Qcr p;rw[Q7 d.1,Vl]at E;have:=(inner p i e a (expS [] p.Parts) d (by rw[<- E];rw[Y5]at t;omega) 0 p.Laps.toNat a (by omega) (by omega)).ev;rw[<- E]at this⊢;rw[Q7 d.1];exact this
 exact Ea (loop l 0 [] rfl (XS _) (by simp)).ev (Qa _)
def kindAt(c:Course)(m:Int):Int:=((c.Mats[m.toNat]?).map (·.Kind)).getD 0
def hasLeg(c:Course)(a b:Int):Bool:=c.Legs.any λl=>(l.From==a)&&(l.To==b)
def rokS(c:Course)(len:Nat):Nat->Int->List Int->Bool
 |_,_,[]=>true
 |i,prev,m::r=>((kindAt c m==1)==decide (i=0))&&(((kindAt c m==3)==decide (i+1=len))&&((decide (i=0)||hasLeg c prev m)&&rokS c len (i+1) m r))
def routeR(c:Course)(d:Distance)(r:List Int):Bool:=
 (decide (2<=r.length)&&decide (r.length<=256))&&(rokS c r.length 0 0 r&&((bif decide (0<=d.Extra)then !((r.count d.Extra:Int)==0)&&((kindAt c d.Extra==2)&&hasLeg c d.Extra d.Extra)else true)&&d.Cutoffs.all λx=>decide (x.Lap<=(r.count x.Mat:Int))))
def routeS(c:Course)(d:Distance):Bool:=routeR c d (expS [] d.Route)
def cntM(l:List Int):List (Int×Int):=l.foldl (λm k=>Yq m k (Qz m k 0+1)) []
theorem QmZ(l:List Int)(k:Int):cntM (l++[k])=Yq (cntM l) k (Qz (cntM l) k 0+1):=by unfold cntM;rw[XB];rfl
theorem Qgn(l:List Int)(k:Int):Qz (cntM l) k 0=(l.count k:Int):=by
 have a:∀(l:List Int) (m:List (Int×Int)),Qz (l.foldl (λm k=>Yq m k (Qz m k 0+1)) m) k 0=Qz m k 0+l.count k:=by
  intro l
  induction l with
  |nil=>simp
  |cons x l d=>
   intro m;rw[XC,d,QcX,List.count_cons];by_cases h:k=x
   .subst h;simp;omega
   .have:=beq_false_of_ne λe=>h e.symm;simp[h,this]
 have:=a l [];simpa[cntM,Qhb]using this
theorem QkE(e:Int):∀(m:Nat) (l:List Part) (a:List Int),szPs l<=m->partsS e l=true->(∀x∈a,0<=x/\x<=e)->∀x∈expS a l,0<=x/\x<=e:=by
 intro m
 induction m using Nat.strongRecOn with
 |_ m B=>
 intro l;have q:∀(k:Nat) (a d:List Int),(∀x∈a,0<=x/\x<=e)->(∀x∈d,0<=x/\x<=e)->∀x∈repS k a d,0<=x/\x<=e:=by
  intro k
  induction k with
  |zero=>intro a d j _;exact j
  |succ k t=>
   intro a d j y;rw[repS];split
   .exact j
   .refine t _ _ ?_ y;intro x g;rcases VA.1 g with h|h
    .exact j x h
    .exact y x h
 have n:∀(r:List Part) (a:List Int),szPs r<=m->partsS e r=true->(∀x∈a,0<=x/\x<=e)->∀x∈expS a r,0<=x/\x<=e:=by
  intro r
  induction r with
  |nil=>intro a _ _ h;exact h
  |cons p r w=>
   intro a s i h;rw[szPs,Y5]at s;rw[partsS,XU]at i;obtain⟨f,z⟩:=i;refine w _ (by omega) z (q _ _ _ h ?_);rw[Qcr];rw[Qb3]at f;cases u:(p.Laps==0)with
   |true=>
    have e0:=by simpa using u
    rw[u,Vl,XU]at f;have:=f.1;unfold inR at this;simp[XU,Vn]at this;rw[e0];intro x g;simp at g;subst g;exact this
   |false=>
    rw[u]at f;simp[Vm,XU,inR,Vn]at f;rw[Q7 (show 0<p.Laps by omega),Vl];exact B (szPs p.Parts) (by omega) p.Parts [] (XR _) f.2.2.2 (by simp)
 exact λa s i h=>n l a s i h
theorem Qdq{c:Course}{m:Int}(h0:0<=m)(d:m<=(c.Mats.length:Int)-1):∃x:Mat,idx c.Mats m=some x/\x.Kind=kindAt c m:=by
 obtain⟨k,rfl⟩:∃k:Nat,m=k:=⟨m.toNat,by omega⟩;have a:k<c.Mats.length:=by omega
 refine⟨c.Mats[k],YZ (XI a),?_⟩;unfold kindAt;rw[Int.toNat_natCast,XI a];rfl
theorem Qjj(c:Course)(a b:Int):Qz (Yf legKey true c.Legs) {from_:=a,to_:=b} false=hasLeg c a b:=by
 rw[Qak];by_cases h:{from_:=a,to_:=b}∈c.Legs.map legKey
 .rw[Vq h];obtain⟨l,d,e⟩:=Xf.1 h;obtain⟨f,g⟩:=ends_eq.1 e;exact(Xt.2 ⟨l,d,by simp[f,g]⟩).symm
 .rw[Vp h]
  symm
  rw[VJ];intro q;obtain⟨l,d,e⟩:=Xt.1 q;simp[XU,Vv]at e;exact h (Xf.2 ⟨l,d,by unfold legKey;rw[e.1,e.2]⟩)
theorem Qoz(c:Course)(w:CourseOk c)(a b:Int):∃v:Int,Ev (λn=>F_be n c a b) v/\decide (v<0)= !hasLeg c a b:=by
 have t:c.Legs.length<=4611686018427387904:=by have:=w.legs;omega
 have step:∀i x,At c.Legs i x->Ev (λn=>F_gf n c a b i) (bif (x.From==a)&&(x.To==b)then .done (.done i)else .cont (i+1)):=by
  intro i x e;unfold F_gf;simp only[e.lt,e.ix,e.nx];refine Ea (Ql λ_=>Qa _) ?_;cases((x.From==a)&&(x.To==b))<;>exact Qa _
 have loop:∀(r:List Leg) (i:Nat),c.Legs.drop i=r->i<=c.Legs.length->∃d:Ctl Unit Int,EvI (λn=>F_gf n c a b) i d/\((r.any λl=>(l.From==a)&&(l.To==b))=true->∃j:Nat,d=.done j)/\((r.any λl=>(l.From==a)&&(l.To==b))=false->d=.cont ()):=by
  intro r
  induction r with
  |nil=>
   intro i g p;refine⟨.cont (),Eh ?_,λh=>(by simp at h),λ_=>rfl⟩;unfold F_gf;simp only[QX g p];exact Qa _
  |cons x r u=>
   intro i g p;obtain⟨e,m⟩:=Qx t g;have s:=step i x e;rw[List.any_cons];cases h:((x.From==a)&&(x.To==b))with
   |true=>
    rw[h]at s;exact⟨.done i,Eh s,λ_=>⟨i,rfl⟩,λh=>by simp at h⟩
   |false=>
    rw[h]at s;obtain⟨d,f,k⟩:=u (i+1) m (by have:=e.lt';omega);exact⟨d,Et s f,by simpa using k⟩
 obtain⟨d,f,k,q⟩:=loop c.Legs 0 rfl (XS _);unfold hasLeg;cases h:c.Legs.any λl=>(l.From==a)&&(l.To==b)with
 |true=>
  obtain⟨j,rfl⟩:=k h;exact⟨j,Ea f.ev (Qa _),by simp⟩
 |false=>
  obtain rfl:=q h;exact⟨-1,Ea f.ev (Qa _),by simp⟩
theorem QjM(l:List Int)(k:Int)(hl:l.length<=1048576):Ev (λn=>F_bs n l k) (l.count k:Int):=by
 have loop:∀(r:List Int) (i:Nat) (a:Nat),l.drop i=r->i<=l.length->a<=i->EvI (λn=>F_fj n l k) (a,i) (a+r.count k):=by
  intro r
  induction r with
  |nil=>
   intro i a f g _;refine Eh ?_;unfold F_fj;simp only[QX f g];exact Qa _
  |cons x r j=>
   intro i a f g p;obtain⟨d,e⟩:=Qx (by omega) f;have q:=d.lt';have m:i64.wrap (a+1)=a+1:=Yt (by omega);rw[List.count_cons];cases h:(x==k)with
   |true=>
    refine(Et ?_ (j (i+1) (a+1) e (by omega) (by omega))).eq ?_
    .unfold F_fj;simp only[d.lt,d.ix,XH,d.nx,h,m];exact Qa _
    .simp;omega
   |false=>
    refine(Et ?_ (j (i+1) a e (by omega) (by omega))).eq ?_
    .unfold F_fj;simp only[d.lt,d.ix,XH,d.nx,h];exact Qa _
    .simp
 exact Ea ((loop l 0 0 rfl (XS _) (XR _)).ev) ((Qa _).eq (by omega))
structure NumOk (c:Course):Prop where
 kinds:∀m∈c.Mats,1<=m.Kind/\m.Kind<=3
 dist:∀d∈c.Distances,-1<=d.Extra/\d.Extra<=(c.Mats.length:Int)-1/\partsS ((c.Mats.length:Int)-1) d.Route=true
theorem Qki{c:Course}(h:numbersS c=true):NumOk c:=by
 unfold numbersS at h;simp[XU,Xs]at h;refine⟨λm f=>?_,λd e=>?_⟩
 .have:=h.1 m f;unfold inR at this;simpa using this
 .have:=h.2.2.2.1 d e;unfold distS at this;simp[XU]at this;obtain⟨_,a,g,_⟩:=this;unfold inR at a;simp[XU,Vn]at a;exact⟨a.1,a.2,g⟩
theorem QmC{c:Course}(q:NumOk c){m:Int}(h0:0<=m)(f:m<=(c.Mats.length:Int)-1):1<=kindAt c m/\kindAt c m<=3:=by
 obtain⟨x,a,d⟩:=Qdq h0 f;have:=by
  obtain⟨_,e⟩:=Qac a;exact VE e
 rw[<- d];exact q.kinds x this
theorem Qon{c:Course}(q:NumOk c){d:Distance}(hd:d∈c.Distances):∀x∈expS [] d.Route,0<=x/\x<=(c.Mats.length:Int)-1:=
 QkE _ _ d.Route [] (XR _) (q.dist d hd).2.2 (by simp)
theorem Qi5(c:Course)(len i:Nat)(prev m:Int)(r:List Int):rokS c len i prev (m::r)=(((kindAt c m==1)==decide (i=0))&&(((kindAt c m==3)==decide (i+1=len))&&((decide (i=0)||hasLeg c prev m)&&rokS c len (i+1) m r))):=rfl
theorem QlK(i:Nat):((i:Int)==0)=decide (i=0):=by
 rw[XW];simp
theorem QgN(c:Course)(r:List Int)(O:2<=r.length)(T:r.length<=256)(E:∀x∈r,0<=x/\x<=(c.Mats.length:Int)-1):
  Ev (λn=>iter (F_cl n c (Yf legKey true c.Legs) r) n ([],0)) (bif rokS c r.length 0 0 r then .cont (cntM r)else .done false):=by
 have loop:∀(t:List Int) (i:Nat) (d:Int),r.drop i=t->i<=r.length->(0<i->At r (i-1) d)->EvI (λn=>F_cl n c (Yf legKey true c.Legs) r) (cntM (r.take i),(i:Int)) (bif rokS c r.length i d t then .cont (cntM r)else .done false):=by
  intro t
  induction t with
  |nil=>
   intro i d g u _;refine Eh ?_;unfold F_cl;simp only[QX g u,Vm,rokS,Vl];have:r.length<=i:=by simpa using g
   rw[VF this];exact Qa _
  |cons m t J=>
   intro i d g u N;obtain⟨e,k⟩:=Qx (by omega) g;have R:=e.lt';obtain⟨G,B⟩:=E m e.mem;obtain⟨x,P,L⟩:=Qdq G B;have H:i64.wrap ((r.length:Int)-1)=((r.length-1:Nat):Int):=by rw[QZ (by omega) (by omega)];omega
   have z:((i:Int)==((r.length-1:Nat):Int))=decide (i+1=r.length):=by rw[XW];simp;omega
   have M:Ev (λn:Nat=>((bif ((x.Kind==1) != ((i:Int)==0))then some true else(bif ((x.Kind==3) != ((i:Int)==(i64.wrap ((r.length:Int)-1))))then some true else(bif decide (0<(i:Int))then(idx r (i64.wrap ((i:Int)-1))).bind λj=>(some (Qz (Yf legKey true c.Legs) ({from_:=j,to_:=m:Ue}) false)).bind λq=>some (!q)else some false))):Option Bool))
     (!(((kindAt c m==1)==decide (i=0))&&(((kindAt c m==3)==decide (i+1=r.length))&&(decide (i=0)||hasLeg c d m)))):=by
    rw[L,H,z,QlK];refine Er (Ep λ_=>Ep λ_=>QbQ (v:= !hasLeg c d m) (w:=false) (λh=>?_) λ_=>Qa _) ?_
    .have p:0<i:=by simpa using h
     have Q:i64.wrap ((i:Int)-1)=((i-1:Nat):Int):=by rw[QZ (by omega) (by omega)];omega
     rw[Q,(N p).ix];simp only[XH,Qjj];exact Qa _
    .have y:decide (0<(i:Int))= !decide (i=0):=by rw[XW];simp;omega
     rw[y];cases(kindAt c m==1)<;>cases decide (i=0)<;>cases(kindAt c m==3)<;>cases decide (i+1=r.length)<;>cases hasLeg c d m<;>rfl
   have f:i64.wrap (Qz (cntM (r.take i)) m 0+1)=Qz (cntM (r.take i)) m 0+1:=by
    rw[Qgn];have:(r.take i).count m<=i:=by have:=List.count_le_length (a:=m) (l:=r.take i);simp at this;omega
    exact QZ (by omega) (by omega)
   have step:Ev (λn=>F_cl n c (Yf legKey true c.Legs) r (cntM (r.take i),(i:Int))) (bif ((kindAt c m==1)==decide (i=0))&&(((kindAt c m==3)==decide (i+1=r.length))&&(decide (i=0)||hasLeg c d m))then .cont (cntM (r.take (i+1)),((i+1:Nat):Int))else .done (.done false)):=by
    unfold F_cl;simp only[e.lt,Vl,e.ix,XH,e.nx,P];refine Ea M ?_;rw[f, <- QmZ, <- e.take];cases(((kindAt c m==1)==decide (i=0))&&(((kindAt c m==3)==decide (i+1=r.length))&&(decide (i=0)||hasLeg c d m)))<;>exact Qa _
   have F:rokS c r.length i d (m::t)=((((kindAt c m==1)==decide (i=0))&&(((kindAt c m==3)==decide (i+1=r.length))&&(decide (i=0)||hasLeg c d m)))&&rokS c r.length (i+1) m t):=by rw[Qi5];simp only[Bool.and_assoc]
   rw[F];cases s:(((kindAt c m==1)==decide (i=0))&&(((kindAt c m==3)==decide (i+1=r.length))&&(decide (i=0)||hasLeg c d m)))with
   |false=>
    rw[s]at step;exact Eh step
   |true=>
    rw[s]at step;rw[Vx];exact Et step (J (i+1) m k (by omega) (λ_=>by simpa using e))
 exact(loop r 0 0 rfl (XS _) (by omega)).ev
theorem Qk0(c:Course)(w:CourseOk c)(q:NumOk c)(d:Distance)(e:d∈c.Distances)(y:∀x∈d.Route,Part.wf x)(l:szPs d.Route<=256):
  Ev (λn=>F_cv n c d (Yf legKey true c.Legs)) (routeS c d):=by
 have k:=Jn d.Route;have j:=Qon q e;have a:=Qf6 _ d.Route [] (XR _);unfold F_cv routeS;refine Ea (QmQ _ _ d.Route (XR _) l (by omega) y (q.dist d e).2.2) ?_;generalize expS [] d.Route=r at j a⊢;unfold routeR;have e3:=by
  have:r.length<=1048576:=by simp at a;omega
  exact QaE this
 rw[e3];have s:(decide ((r.length:Int)-1<1)||decide (256<=(r.length:Int)-1))= !(decide (2<=r.length)&&decide (r.length<=256)):=by
  rw[XW];simp;omega
 refine Ea (Er (Ep λ_=>Qa _) s) ?_;cases g:(decide (2<=r.length)&&decide (r.length<=256))with
 |false=>exact Qa _
 |true=>
  simp[XU,Vn]at g;refine Ye (Ea (QgN c r g.1 g.2 j) ?_);cases rokS c r.length 0 0 r with
  |false=>exact Qa _
  |true=>
   have t:Ev (λn=>(bif decide (0<=d.Extra)then(some (Qz (cntM r) d.Extra 0)).bind λi=>(bif (i==0)then some true else(idx c.Mats d.Extra).bind λh=>(bif (h.Kind != 2)then some true else(some (Qz (Yf legKey true c.Legs) ({from_:=d.Extra,to_:=d.Extra:Ue}) false)).bind λf=>some (!f)))else some false))
     (!(bif decide (0<=d.Extra)then !((r.count d.Extra:Int)==0)&&((kindAt c d.Extra==2)&&hasLeg c d.Extra d.Extra)else true)):=by
    rw[Qgn];cases u:decide (0<=d.Extra)with
    |false=>exact Qa _
    |true=>
     obtain⟨x,p,m⟩:=Qdq (by simpa using u) (q.dist d e).2.1;simp only[XH,p,Qjj,m];refine Er (Ep λ_=>Ep λ_=>Qa _) ?_;rw[bne];cases((r.count d.Extra:Int)==0)<;>cases(kindAt c d.Extra==2)<;>cases hasLeg c d.Extra d.Extra<;>rfl
   refine Ea t ?_;cases(bif decide (0<=d.Extra)then !((r.count d.Extra:Int)==0)&&((kindAt c d.Extra==2)&&hasLeg c d.Extra d.Extra)else true)with
   |false=>exact Qa _
   |true=>
    refine Ye (Ea ?_ (Qa _));refine JK d.Cutoffs _ (λn x=>F_do n x (cntM r)) (by have:=w.cut d e;omega) λx _=>?_;unfold F_do;rw[Qgn];exact Qa _
theorem Qgc(c:Course)(w:CourseOk c)(q:NumOk c)(r:List Int)(Q:2<=r.length)(X:r.length<=256)(F:∀x∈r,0<=x/\x<=(c.Mats.length:Int)-1):
  Ev (λn=>iter (F_dq n c r) n 0) (bif rokS c r.length 0 0 r then .cont ()else .done false):=by
 have loop:∀(t:List Int) (i:Nat) (a:Int),r.drop i=t->i<=r.length->(0<i->At r (i-1) a)->EvI (λn=>F_dq n c r) (i:Int) (bif rokS c r.length i a t then .cont ()else .done false):=by
  intro t
  induction t with
  |nil=>
   intro i a p B _;refine Eh ?_;unfold F_dq;simp only[QX p B,Vm,rokS,Vl];exact Qa _
  |cons m t L=>
   intro i a p B P;obtain⟨f,k⟩:=Qx (by omega) p;have V:=f.lt';obtain⟨z,y⟩:=F m f.mem;obtain⟨x,R,N⟩:=Qdq z y;have W:=QmC q z y;have J:i64.wrap ((r.length:Int)-1)=((r.length-1:Nat):Int):=by rw[QZ (by omega) (by omega)];omega
   have E:((i:Int)==((r.length-1:Nat):Int))=decide (i+1=r.length):=by rw[XW];simp;omega
   have step:Ev (λn=>F_dq n c r (i:Int)) (bif ((kindAt c m==1)==decide (i=0))&&(((kindAt c m==3)==decide (i+1=r.length))&&(decide (i=0)||hasLeg c a m))then .cont ((i+1:Nat):Int)else .done (.done false)):=by
    unfold F_dq;simp only[f.lt,Vl,f.ix,XH,f.nx,R,N,J,E,QlK];refine Ea (v:=if i=0 then 1 else if i+1=r.length then 3 else 2) (Ez ?_) ?_
    .by_cases e:i=0
     .simp[e]
     .by_cases h:i+1=r.length
      iterate 2 simp[e,h]
    refine Ea (v:= !(((kindAt c m==1)==decide (i=0))&&(((kindAt c m==3)==decide (i+1=r.length))&&(decide (i=0)||hasLeg c a m)))) ?_ ?_
    .have G:Ev (λn:Nat=>(bif decide (0<(i:Int))then(idx r (i64.wrap ((i:Int)-1))).bind λl=>(F_be n c l m).bind λj=>some (decide (j<0))else some false:Option Bool)) (!(decide (i=0)||hasLeg c a m)):=by
      by_cases e:i=0
      .subst e;exact Qa _
      .have T:i64.wrap ((i:Int)-1)=((i-1:Nat):Int):=by rw[QZ (by omega) (by omega)];omega
       obtain⟨v,O,M⟩:=Qoz c w a m;rw[Q7 (show(0:Int)<(i:Int)by omega),T,(P (by omega)).ix,Q5 e];exact Ea O ((Qa _).eq (by rw[M];rfl))
     refine Er (Ep λ_=>G) ?_;have s:(kindAt c m != if i=0 then 1 else if i+1=r.length then 3 else 2)= !(((kindAt c m==1)==decide (i=0))&&((kindAt c m==3)==decide (i+1=r.length))):=by
      have d:kindAt c m=1\/kindAt c m=2\/kindAt c m=3:=by omega
      by_cases e:i=0
      .rcases d with g|g|g<;>simp[g,e,show¬1=r.length by omega]
      .by_cases h:i+1=r.length
       .rcases d with g|g|g<;>simp[g,e,h]
       .rcases d with g|g|g<;>simp[g,e,h]
     rw[s];cases((kindAt c m==1)==decide (i=0))<;>cases((kindAt c m==3)==decide (i+1=r.length))<;>cases(decide (i=0)||hasLeg c a m)<;>rfl
    .cases(((kindAt c m==1)==decide (i=0))&&(((kindAt c m==3)==decide (i+1=r.length))&&(decide (i=0)||hasLeg c a m)))<;>exact Qa _
   have H:rokS c r.length i a (m::t)=((((kindAt c m==1)==decide (i=0))&&(((kindAt c m==3)==decide (i+1=r.length))&&(decide (i=0)||hasLeg c a m)))&&rokS c r.length (i+1) m t):=by rw[Qi5];simp only[Bool.and_assoc]
   rw[H];cases u:(((kindAt c m==1)==decide (i=0))&&(((kindAt c m==3)==decide (i+1=r.length))&&(decide (i=0)||hasLeg c a m)))with
   |false=>
    rw[u]at step;exact Eh step
   |true=>
    rw[u]at step;rw[Vx];exact Et step (L (i+1) m k (by omega) (λ_=>by simpa using f))
 exact(loop r 0 0 rfl (XS _) (by omega)).ev
theorem QjJ(c:Course)(w:CourseOk c)(q:NumOk c)(d:Distance)(a:d∈c.Distances)(F:∀x∈d.Route,Part.wf x)(s:szPs d.Route<=256):
  Ev (λn=>F_ck n c d) (routeS c d):=by
 have p:=Jn d.Route;have m:=Qon q a;have h:=Qf6 _ d.Route [] (XR _);unfold F_ck routeS;refine Ea (Qij _ _ d.Route (XR _) s (by omega) F (q.dist d a).2.2) ?_;generalize expS [] d.Route=r at m h⊢;unfold routeR;have y:(decide ((r.length:Int)<2)||decide (256<(r.length:Int)))= !(decide (2<=r.length)&&decide (r.length<=256)):=by
  rw[XW];simp;omega
 refine Ea (Er (Ep λ_=>Qa _) y) ?_;cases e:(decide (2<=r.length)&&decide (r.length<=256))with
 |false=>exact Qa _
 |true=>
  simp only[XU,Vn]at e;refine Ye (Ea (Qgc c w q r e.1 e.2 m) ?_);cases rokS c r.length 0 0 r with
  |false=>exact Qa _
  |true=>
   have z:Ev (λn:Nat=>(bif (d.Extra != (-1))then(idx c.Mats d.Extra).bind λj=>(bif (j.Kind != 2)then some true else(F_bs n r d.Extra).bind λg=>(bif (g==0)then some true else(F_be n c d.Extra d.Extra).bind λl=>some (decide (l<0))))else some false))
     (!(bif decide (0<=d.Extra)then !((r.count d.Extra:Int)==0)&&((kindAt c d.Extra==2)&&hasLeg c d.Extra d.Extra)else true)):=by
    have f:=q.dist d a;have E:(d.Extra != (-1))=decide (0<=d.Extra):=by rw[XW];simp;omega
    rw[E];cases B:decide (0<=d.Extra)with
    |false=>exact Qa _
    |true=>
     obtain⟨x,G,t⟩:=Qdq (by simpa using B) f.2.1;obtain⟨v,u,H⟩:=Qoz c w d.Extra d.Extra;simp only[XH,G,t];refine Er (Ep λ_=>Ea (QjM r _ (by omega)) (Ep λ_=>Ea u (Qa _))) ?_;rw[bne,H];cases((r.count d.Extra:Int)==0)<;>cases(kindAt c d.Extra==2)<;>cases hasLeg c d.Extra d.Extra<;>rfl
   refine Ea z ?_;cases(bif decide (0<=d.Extra)then !((r.count d.Extra:Int)==0)&&((kindAt c d.Extra==2)&&hasLeg c d.Extra d.Extra)else true)with
   |false=>exact Qa _
   |true=>
    refine Ye (Ea (YG d.Cutoffs (λx=>decide (x.Lap<=r.count x.Mat)) (Ctl.done false) (Ctl.cont ()) (by have:=w.cut d a;omega) (λi x k=>?_) ?_) ?_)
    .unfold F_lb;simp only[k.lt,k.ix,XH,k.nx];refine Ea (QjM r _ (by omega)) ?_;have:decide (r.count x.Mat<x.Lap)= !decide (x.Lap<=r.count x.Mat):=by rw[XW];simp
     rw[this];cases decide (x.Lap<=r.count x.Mat)<;>exact Qa _
    .unfold F_lb;simp only[Yu];exact Qa _
    .cases(d.Cutoffs.all λx=>decide (x.Lap<=r.count x.Mat))<;>exact Qa _
def lensC(c:Course):Nat:=c.Mats.length+c.Legs.length+c.Distances.length+c.Waves.length+c.Offences.length+c.Categories.length+c.Prizes.length
def fewD(d:Distance):Prop:=d.Cutoffs.length<=200/\szPs d.Route<=200/\hPs d.Route<=16
structure FewOk (c:Course):Prop where
 lens:lensC c<=200
 name:c.Name.length<=100
 dist:∀d∈c.Distances,fewD d
 ties:c.Ties.length<=200
def fitsS(c:Course):Bool:=
 !(decide (40<(c.Mats.length:Int))||(decide (512<(c.Legs.length:Int))||(decide (8<(c.Distances.length:Int))||(decide (32<(c.Waves.length:Int))||(decide (32<(c.Offences.length:Int))||(decide (32<(c.Categories.length:Int))||decide (32<(c.Prizes.length:Int))))))))
  &&c.Distances.all λd=> !decide (64<(d.Cutoffs.length:Int))
theorem QpP(c:Course)(w:CourseOk c)(q:PartsOk c)(k:FewOk c):Ev (λn=>F_bo n c) (fitsS c):=by
 unfold F_bo fitsS;refine Ea (Ep λ_=>Ep λ_=>Ep λ_=>Ep λ_=>Ep λ_=>Ep λ_=>Qa _) ?_;cases(decide (40<(c.Mats.length:Int))||(decide (512<(c.Legs.length:Int))||(decide (8<(c.Distances.length:Int))||(decide (32<(c.Waves.length:Int))||(decide (32<(c.Offences.length:Int))||(decide (32<(c.Categories.length:Int))||decide (32<(c.Prizes.length:Int))))))))with
 |true=>exact Qa _
 |false=>
  refine Ye (Ea (YG c.Distances (λd=> !decide (64<(d.Cutoffs.length:Int))) (Ctl.done false) (Ctl.cont ()) (by have:=w.dist;omega) (λi x a=>?_) ?_) ?_)
  .obtain⟨e,g,f⟩:=k.dist x a.mem;unfold F_fm;simp only[a.lt,a.ix,XH,a.nx];refine Ea (Qow _ x.Route 17 (XR _) (by omega) (XR _) (by omega) (q.wf x a.mem)) ?_;simp[Q5 (show¬16<(hPs x.Route:Int)by omega),Q5 (show¬(256:Int)<szPs x.Route by omega)];cases decide (64<(x.Cutoffs.length:Int))<;>exact Qa _
  .unfold F_fm;simp[Yu];exact Qa _
  .cases(c.Distances.all λd=> !decide (64<(d.Cutoffs.length:Int)))<;>exact Qa _
theorem QmS(c:Course)(w:CourseOk c)(q:PartsOk c)(k:FewOk c):Ev (λn=>F_br n c) (fitsS c):=by
 unfold F_br fitsS;refine Ea (Ep λ_=>Ep λ_=>Ep λ_=>Ep λ_=>Ep λ_=>Ep λ_=>Qa _) ?_;cases(decide (40<(c.Mats.length:Int))||(decide (512<(c.Legs.length:Int))||(decide (8<(c.Distances.length:Int))||(decide (32<(c.Waves.length:Int))||(decide (32<(c.Offences.length:Int))||(decide (32<(c.Categories.length:Int))||decide (32<(c.Prizes.length:Int))))))))with
 |true=>exact Qa _
 |false=>
  refine Ye (Ea (YG c.Distances (λd=> !decide (64<(d.Cutoffs.length:Int))) (Ctl.done false) (Ctl.cont ()) (by have:=w.dist;omega) (λi x e=>?_) ?_) ?_)
  .obtain⟨j,g,h⟩:=k.dist x e.mem;have a:=q.len x e.mem;have f:=q.wf x e.mem;unfold F_ff;simp only[e.lt,e.ix,XH,e.nx];refine Ea (Ep λ_=>Ea (QeE _ x.Route 17 (XR _) (XR _) a f) (Ep λ_=>Ea (QeF _ x.Route (XR _) a f) (Qa _))) ?_;simp[Q5 (show¬16<((min (hPs x.Route) 17:Nat):Int)by omega),Q5 (show¬256<((min (szPs x.Route) 257:Nat):Int)by omega)];cases decide (64<(x.Cutoffs.length:Int))<;>exact Qa _
  .unfold F_ff;simp[Yu];exact Qa _
  .cases(c.Distances.all λd=> !decide (64<(d.Cutoffs.length:Int)))<;>exact Qa _
def courseE(c:Course):Int:=
 bif fitsS c then bif namesS c then bif numbersS c then bif tiesE c.Ties==0 then bif c.Distances.all (routeS c)then 0 else 72 else tiesE c.Ties else 71 else 70 else 2
theorem QmT(c:Course)(w:CourseOk c)(q:PartsOk c)(k:FewOk c)(hl:c.Ties.length<=1048576)(f:∀x∈c.Ties,Step.wf x):Ev (λn=>F_an n c) (courseE c):=by
 unfold F_an courseE;refine Ea (QpP c w q k) ?_;cases fitsS c with
 |false=>exact Qa _
 |true=>
 refine Ye (Ea (Qor c w) ?_);cases namesS c with
 |false=>exact Qa _
 |true=>
 refine Ye (Ea (QkZ c w q) ?_);cases g:numbersS c with
 |false=>exact Qa _
 |true=>
 refine Ye (Ea (QpR c.Ties hl f) ?_);rw[bne];cases(tiesE c.Ties==0)with
 |false=>exact Qa _
 |true=>
 have e:Ev (λn=>iter (F_jv n c) n ([],0)) (Yf legKey true c.Legs):=by
  refine Qay c.Legs legKey true (by have:=w.legs;omega) (λi x m a=>?_) (λm=>?_)
  .unfold F_jv;simp only[a.lt,a.ix,a.nx];exact Qa _
  .unfold F_jv;simp[Yu];exact Qa _
 refine Ye (Ea e ?_);have a:Ev (λn=>F_gl n c.Distances c (Yf legKey true c.Legs)) (c.Distances.all (routeS c)):=by
  refine JK c.Distances _ (λn x=>F_fx n x c (Yf legKey true c.Legs)) (by have:=w.dist;omega) λx d=>?_;exact Ea (Qk0 c w (Qki g) x d (q.wf x d) (by have:=(k.dist x d).2.1;omega)) (Qa _)
 refine Ea a ?_;cases c.Distances.all (routeS c)<;>exact Qa _
theorem Qim(c:Course)(w:CourseOk c)(q:PartsOk c)(k:FewOk c)(hl:c.Ties.length<=1048576)(g:∀x∈c.Ties,Step.wf x):Ev (λn=>F_al n c) (courseE c):=by
 have a:=k.lens;unfold lensC at a;have e:Short c:=⟨by omega,by omega,by omega,by omega,by omega⟩;unfold F_al courseE;refine Ea (QmS c w q k) ?_;cases fitsS c with
 |false=>exact Qa _
 |true=>
 refine Ye (Ea (QjL c w e) ?_);cases namesS c with
 |false=>exact Qa _
 |true=>
 refine Ye (Ea (Qih c w q) ?_);cases f:numbersS c with
 |false=>exact Qa _
 |true=>
 refine Ye (Ea (QkT c.Ties hl g) ?_);rw[bne];cases(tiesE c.Ties==0)with
 |false=>exact Qa _
 |true=>
 refine Ye (Ea (YG c.Distances (routeS c) (Ctl.done 72) (Ctl.cont ()) (by omega) (λi x d=>?_) ?_) ?_)
 .unfold F_lh;simp only[d.lt,d.ix,XH,d.nx];refine Ea (QjJ c w (Qki f) x d.mem (q.wf x d.mem) (by have:=(k.dist x d.mem).2.1;omega)) ?_;cases routeS c x<;>exact Qa _
 .unfold F_lh;simp[Yu];exact Qa _
 .cases c.Distances.all (routeS c)<;>exact Qa _
theorem QlD{α:Type}(l:List α){a b:Nat}(h:a<=b)(d:b<=l.length):slc l (a:Int) (b:Int)=some ((l.take b).drop a):=by
 unfold slc;rw[Q7 (show 0<=(a:Int)by omega),Q7 (show a<=(b:Int)by omega),Q7 (show b<=(l.length:Int)by omega)];simp
theorem Qkt{α:Type}(l:List α){b:Nat}(a:b<=l.length):slc l 0 (b:Int)=some (l.take b):=by
 have:=QlD l (XS b) a;simpa using this
theorem Qdc{α:Type}(l:List α){a:Nat}(d:a<=l.length):slc l (a:Int) (l.length:Int)=some (l.drop a):=by
 have:=QlD l d (XR _);simpa using this
theorem Ql6{α:Type}(l m:List α)(h:l.length+m.length<=4294967296):app l m=some (l++m):=by
 unfold app;rw[XQ (by exact h)];rfl
theorem QnI{α:Type}(l:List α){i:Nat}(x:α)(h:i<l.length):QdZ l (i:Int) x=some (l.set i x):=by
 unfold QdZ;rw[Q7 (show(0:Int)<=i by omega),Q7 (show i<(l.length:Int)by omega)];simp
def firstI{α:Type}(q:α->Bool):List α->Nat->Int
 |[],_=> -1
 |x::l,i=>bif q x then(i:Int)else firstI q l (i+1)
theorem Ev.first{α:Type}{step:Nat->Int->Option (Ctl Int (Ctl Unit Int))}(l:List α)(q:α->Bool)(hl:l.length<=4611686018427387904)
  (k:∀i x,At l i x->Ev (λn=>step n (i:Int)) (bif q x then .done (.done (i:Int))else .cont ((i+1:Nat):Int)))(m:Ev (λn=>step n (l.length:Int)) (.done (.cont ()))):
  Ev (λn=>(Go.Sw.iter (step n) n 0).bind λb=>match b with|.cont _=>some (-1)|.done v=>some v) (firstI q l 0):=by
 have loop:∀(r:List α) (i:Nat),l.drop i=r->i<=l.length->∃a:Ctl Unit Int,EvI step i a/\(match a with|.cont _=>some (-1)|.done v=>some v)=some (firstI q r i):=by
  intro r
  induction r with
  |nil=>
   intro i e p;have:i=l.length:=by have:=Xq.1 e;omega
   subst this;exact⟨.cont (),Eh m,rfl⟩
  |cons x r t=>
   intro i e p;obtain⟨j,g⟩:=Qx hl e;have s:=k i x j;unfold firstI;cases h:q x with
   |true=>
    rw[h]at s;exact⟨_,Eh s,rfl⟩
   |false=>
    rw[h]at s;obtain⟨a,d,f⟩:=t (i+1) g (by have:=j.lt';omega);exact⟨a,Et s d,f⟩
 obtain⟨a,d,f⟩:=loop l 0 rfl (XS _);exact Ea d.ev (Ez f)
theorem Qb7{α:Type}(q:α->Bool):∀(l:List α) (i:Nat),(firstI q l i= -1/\l.all (λx=> !q x)=true)\/ ∃j x,firstI q l i=((i+j:Nat):Int)/\l[j]?=some x/\q x=true/\(l.take j).all (λx=> !q x)=true
 |[],_=>.inl ⟨rfl,rfl⟩
 |x::l,i=>by
  unfold firstI;cases h:q x with
  |true=>exact .inr ⟨0,x,rfl,rfl,h,rfl⟩
  |false=>
   rcases Qb7 q l (i+1)with⟨h1,h2⟩|⟨j,y,h1,h2,h3,h4⟩
   .exact .inl ⟨h1,by simp[h,h2]⟩
   .refine .inr ⟨j+1,y,by rw[Vm,h1];omega,h2,h3,by simp[h,h4]⟩
theorem QaP{ι α:Type}{F:Nat->ι->Option α}{V:ι->α}:∀(L:List ι),(∀p∈L,Ev (λn=>F n p) (V p))->∃N,∀n,N<=n->∀p∈L,F n p=some (V p)
 |[],_=>⟨0,λ_ _ p hp=>by cases hp⟩
 |x::L,h=>by
  obtain⟨N,hN⟩:=QaP L λp hp=>h p (by simp[hp]);obtain⟨M,hM⟩:=h x (by simp);refine⟨N+M,λn hn p hp=>?_⟩;rcases X4.1 hp with rfl|hp
  .exact hM n (by omega)
  .exact hN n (by omega) p hp
theorem Ev.anyP{E R:Type}[DecidableEq R]{k:Nat->List E->Option R}{l:List E}{r:R}(h:∀p,p.Perm l->Ev (λn=>k n p) r):Ev (λn=>Go.Sw.anyP (k n) l) r:=by
 obtain⟨N,d⟩:=QaP (Qb2 l) λp a=>h p (QcU l p a);exact⟨N,λn e=>Ql8 λp a=>d n e p (Qd1 l p a)⟩
theorem Ev.isNil{α R:Type}[DecidableEq R]{l:List α}{x y:Nat->Option R}{v:R}(d:l=[]->Ev x v)(a:Ev y v):Ev (λn=>Go.Sw.isNil l (x n) (y n)) v:=by
 unfold Go.Sw.isNil;cases q:l.isEmpty with
 |false=>exact a
 |true=>
  obtain⟨N,f⟩:=d (List.isEmpty_iff.1 q);obtain⟨M,e⟩:=a;exact⟨N+M,λn g=>by dsimp only;rw[f n (by omega),e n (by omega)];simp⟩
theorem QmR:∀(k:Nat) (l:List Part),k<=17->szPs l<=256->(∀x∈l,Part.wf x)->∃s:Nat,s<=szPs l/\Ev (λn=>F_g n l (k:Int)) (((min (hPs l) k:Nat):Int),(s:Int)):=by
 intro k
 induction k using Nat.strongRecOn with
 |_ k J=>
 intro l y f F;have w:=Jn l;have loop:∀(r:List Part) (i a b:Nat),l.drop i=r->i<=l.length->a<=17->b+(szPs r-r.length)<=256->∃s:Nat,s<=b+(szPs r-r.length)/\EvI (λn=>F_bf n l (k:Int) (F_g n)) ((a:Int),(b:Int),(i:Int)) (((max a (min (hPs r) k):Nat):Int),(s:Int)):=by
  intro r
  induction r with
  |nil=>
   intro i a b g B _ _;refine⟨b,by omega,Eh ?_⟩;unfold F_bf;simp only[QX g B,Vm,XH];refine(Qa _).eq ?_;simp[hPs]
  |cons p r h=>
   intro i a b g B G e;obtain⟨d,q⟩:=Qx (by omega) g;obtain⟨R,Q⟩:=Yy (F p d.mem);have u:=JH d.mem;rw[Y5]at u;have N:=Jn r;rw[szPs,Y5,XY]at e⊢;have step:∃t:Nat,t<=szPs p.Parts/\Ev (λn=>F_bf n l (k:Int) (F_g n) ((a:Int),(b:Int),(i:Int))) (.cont (((max a (min (hP p) k):Nat):Int),((b+t:Nat):Int),((i+1:Nat):Int))):=by
    unfold F_bf;simp only[d.lt,Vl,d.ix,XH,d.nx,QfK];rw[Qn6];cases T:p.Parts.isEmpty with
    |true=>
     refine⟨0,XS _,?_⟩;simp only[Vl,XH,Nat.zero_min,Nat.max_zero,Xv];exact Qa _
    |false=>
     simp only[Vm];by_cases m:k=0
     .subst m;refine⟨0,XS _,?_⟩;simp only[Nat.min_zero,Nat.max_zero,Xv];exact Qa _
     .obtain⟨t,z,j⟩:=J (k-1) (by omega) p.Parts (by omega) (by omega) Q;refine⟨t,z,?_⟩;have O:i64.wrap ((k:Int)-1)=((k-1:Nat):Int):=by rw[QZ (by omega) (by omega)];omega
      have M:((k:Int)==0)=false:=beq_false_of_ne (by omega);rw[M,Q5 (show¬(256:Int)<(b:Int)by omega),O];simp only[Vm,XH];refine Ea (Ea j (Qa _)) ((Qa _).eq ?_);have H:i64.wrap (((min (hPs p.Parts) (k-1):Nat):Int)+1)=((min (hPs p.Parts) (k-1)+1:Nat):Int):=Yt (by omega);have E:i64.wrap ((b:Int)+(t:Int))=((b+t:Nat):Int):=by rw[QZ (by omega) (by omega)];omega
      simp only[H,E];congr 2;split<;>omega
   obtain⟨t,z,j⟩:=step;obtain⟨s,P,L⟩:=h (i+1) (max a (min (hP p) k)) (b+t) q (by have:=d.lt';omega) (by omega) (by omega);refine⟨s,by omega,(Et j L).eq ?_⟩;rw[hPs];congr 1;omega
 obtain⟨s,u,p⟩:=loop l 0 0 l.length rfl (XS _) (by omega) (by omega);refine⟨s,by omega,QK ?_⟩;show Ev (λn=>B_g (F_g n) n l (k:Int)) _;unfold B_g;refine Ea p.ev ((Qa _).eq ?_);rw[Nat.zero_max]
structure FewL (c:Course):Prop where
 lens:lensC c<=200
 name:c.Name.length<=100
 dist:∀d∈c.Distances,d.Cutoffs.length<=12/\szPs d.Route<=24
 ties:c.Ties.length<=200
def fitsG(c:Course):Bool:=
 !(decide (40<(c.Mats.length:Int))||(decide (512<(c.Legs.length:Int))||(decide (8<(c.Distances.length:Int))||(decide (32<(c.Waves.length:Int))||(decide (32<(c.Offences.length:Int))||(decide (32<(c.Categories.length:Int))||decide (32<(c.Prizes.length:Int))))))))
  &&c.Distances.all λd=> !(decide (64<(d.Cutoffs.length:Int))||decide (16<hPs d.Route))
theorem Qot(c:Course)(w:CourseOk c)(q:PartsOk c)(k:FewL c):Ev (λn=>F_bo n c) (fitsG c):=by
 unfold F_bo fitsG;refine Ea (Ep λ_=>Ep λ_=>Ep λ_=>Ep λ_=>Ep λ_=>Ep λ_=>Qa _) ?_;cases(decide (40<(c.Mats.length:Int))||(decide (512<(c.Legs.length:Int))||(decide (8<(c.Distances.length:Int))||(decide (32<(c.Waves.length:Int))||(decide (32<(c.Offences.length:Int))||(decide (32<(c.Categories.length:Int))||decide (32<(c.Prizes.length:Int))))))))with
 |true=>exact Qa _
 |false=>
  refine Ye (Ea (YG c.Distances (λd=> !(decide (64<(d.Cutoffs.length:Int))||decide (16<hPs d.Route))) (Ctl.done false) (Ctl.cont ()) (by have:=w.dist;omega) (λi x a=>?_) ?_) ?_)
  .obtain⟨f,h⟩:=k.dist x a.mem;unfold F_fm;simp only[a.lt,a.ix,XH,a.nx];obtain⟨s,g,p⟩:=QmR 17 x.Route (XR _) (by omega) (q.wf x a.mem);refine Ea p (Ea (Ep λ_=>Ep λ_=>Qa _) ?_);simp only[Q5 (show¬256<(s:Int)by omega),Bool.or_false];have e:decide (16<((min (hPs x.Route) 17:Nat):Int))=decide (16<hPs x.Route):=by
    rw[decide_eq_decide];omega
   rw[e];cases(decide (64<(x.Cutoffs.length:Int))||decide (16<hPs x.Route))<;>exact Qa _
  .unfold F_fm;simp[Yu];exact Qa _
  .cases c.Distances.all (λd=> !(decide (64<(d.Cutoffs.length:Int))||decide (16<hPs d.Route)))<;>exact Qa _
theorem Qku:∀(k:Nat) (l:List Part),k<=21->l.length<=1048576->(∀x∈l,Part.wf x)->∃v:Nat,v<=1048576+500*(k+1)/\(v<500->szPs l<=v)/\Ev (λn=>F_q n l ((21-k:Nat):Int)) (v:Int):=by
 intro k
 induction k with
 |zero=>
  intro l _ t w;refine⟨500,by omega,by omega,QK ?_⟩;show Ev (λn=>B_q (F_q n) n l ((21-0:Nat):Int)) _;unfold B_q;exact Qa _
 |succ k E=>
  intro l N t w;have loop:∀(r:List Part) (i a:Nat),l.drop i=r->i<=l.length->a<=1048576+500*(k+1+1)->∃v:Nat,v<=1048576+500*(k+1+1)/\a<=v/\(v<500->a+(szPs r-r.length)<=v)/\EvI (λn=>F_gw n l ((21-(k+1):Nat):Int) (F_q n)) ((a:Int),(i:Int)) (v:Int):=by
   intro r
   induction r with
   |nil=>
    intro i a h y s;refine⟨a,s,XR _,λ_=>by simp[szPs],Eh ?_⟩;unfold F_gw;simp only[QX h y,Vm,XH];exact Qa _
   |cons p r j=>
    intro i a h y s;obtain⟨d,q⟩:=Qx (by omega) h;obtain⟨z,L⟩:=Yy (w p d.mem);by_cases H:a<500
    .obtain⟨u,M,O,G⟩:=E p.Parts (by omega) z L;have J:i64.wrap (((21-(k+1):Nat):Int)+1)=((21-k:Nat):Int):=by rw[QZ (by omega) (by omega)];omega
     have F:i64.wrap ((a:Int)+(u:Int))=((a+u:Nat):Int):=by rw[QZ (by omega) (by omega)];omega
     obtain⟨v,f,B,g,m⟩:=j (i+1) (a+u) q (by have:=d.lt';omega) (by omega);refine⟨v,f,by omega,λe=>?_,Et ?_ m⟩
     .have:=g e;have:=Jn r;rw[szPs,Y5,XY];omega
     .unfold F_gw;simp only[d.lt,Vl,d.ix,XH,d.nx,Q7 (show(a:Int)<500 by omega),J];refine Ea G ?_;rw[F];exact Qa _
    .refine⟨a,s,XR _,λe=>absurd e H,Eh ?_⟩;unfold F_gw;simp only[d.lt,Vl,XH,Q5 (show¬(a:Int)<500 by omega),Vm];exact Qa _
  obtain⟨v,f,B,g,m⟩:=loop l 0 l.length rfl (XS _) (XT t (Nat.le_add_right _ _));have:=Jn l;refine⟨v,f,λe=>by have:=g e;omega,QK ?_⟩;show Ev (λn=>B_q (F_q n) n l ((21-(k+1):Nat):Int)) _;unfold B_q;rw[Q5 (show¬(20:Int)<((21-(k+1):Nat):Int)by omega)];exact Ye (Ea m.ev (Qa _))
theorem QjY:∀(k:Nat) (l:List Cond),k<=21->l.length<=1048576->(∀x∈l,Cond.wf x)->∃v:Nat,v<=1048576+500*(k+1)/\Ev (λn=>F_r n l ((21-k:Nat):Int)) (v:Int):=by
 intro k
 induction k with
 |zero=>
  intro l _ t w;refine⟨500,by omega,QK ?_⟩;show Ev (λn=>B_r (F_r n) n l ((21-0:Nat):Int)) _;exact Qa _
 |succ k E=>
  intro l G t w;have loop:∀(r:List Cond) (i a:Nat),l.drop i=r->i<=l.length->a<=1048576+500*(k+1+1)->∃v:Nat,v<=1048576+500*(k+1+1)/\EvI (λn=>F_fi n l ((21-(k+1):Nat):Int) (F_r n)) ((a:Int),(i:Int)) (v:Int):=by
   intro r
   induction r with
   |nil=>
    intro i a m s h;refine⟨a,h,Eh ?_⟩;unfold F_fi;simp only[QX m s,Vm];exact Qa _
   |cons p r g=>
    intro i a m s h;obtain⟨d,f⟩:=Qx (by omega) m;have e:=Ji (w p d.mem);by_cases F:a<500
    .obtain⟨u,H,B⟩:=E p.Parts (by omega) e.1 e.2;have z:i64.wrap (((21-(k+1):Nat):Int)+1)=((21-k:Nat):Int):=by rw[QZ (by omega) (by omega)];omega
     have y:i64.wrap ((a:Int)+(u:Int))=((a+u:Nat):Int):=by rw[QZ (by omega) (by omega)];omega
     obtain⟨v,j,q⟩:=g (i+1) (a+u) f (by have:=d.lt';omega) (by omega);refine⟨v,j,Et ?_ q⟩;unfold F_fi;simp only[d.lt,Vl,d.ix,XH,d.nx,Q7 (show(a:Int)<500 by omega),z];refine Ea B ?_;rw[y];exact Qa _
    .refine⟨a,h,Eh ?_⟩;unfold F_fi;simp only[d.lt,Q5 (show¬(a:Int)<500 by omega)];exact Qa _
  obtain⟨v,j,q⟩:=loop l 0 l.length rfl (XS _) (XT t (Nat.le_add_right _ _));refine⟨v,j,QK ?_⟩;show Ev (λn=>B_r (F_r n) n l ((21-(k+1):Nat):Int)) _;unfold B_r;rw[Q5 (show¬(20:Int)<((21-(k+1):Nat):Int)by omega)];exact Ye (Ea q.ev (Qa _))
def Cs:Nat->Nat
 |0=>500
 |k+1=>4194304+2*Cs k
theorem Qqj:∀k,k<22->Cs k<=1125899906842624:=by decide
theorem QiS:∀(k:Nat) (l:List Step),k<=21->l.length<=1048576->(∀x∈l,Step.wf x)->∃v:Nat,v<=Cs k/\(v<500->l.length<=v)/\Ev (λn=>F_o n l ((21-k:Nat):Int)) (v:Int):=by
 intro k
 induction k with
 |zero=>
  intro l _ G s;refine⟨500,XR _,by omega,QK ?_⟩;show Ev (λn=>B_o (F_o n) n l ((21-0:Nat):Int)) _;unfold B_o;exact Qa _
 |succ k w=>
  intro l W G s;have N:=Qqj k (by omega);have O:=Qqj (k+1) (by omega);have Q:Cs (k+1)=4194304+2*Cs k:=rfl;have loop:∀(r:List Step) (i a:Nat),l.drop i=r->i<=l.length->a<=Cs (k+1)->∃v:Nat,v<=Cs (k+1)/\a<=v/\EvI (λn=>F_hj n l ((21-(k+1):Nat):Int) (F_o n)) ((a:Int),(i:Int)) (v:Int):=by
   intro r
   induction r with
   |nil=>
    intro i a f z m;refine⟨a,m,XR _,Eh ?_⟩;unfold F_hj;simp only[QX f z,Vm,XH];exact Qa _
   |cons p r g=>
    intro i a f z m;obtain⟨d,j⟩:=Qx (by omega) f;obtain⟨R,q,B⟩:=Jh (s p d.mem);by_cases X:a<500
    .obtain⟨u,V,M⟩:=QjY 21 [p.Cond] (XR _) (by simp) (by simpa using R);obtain⟨x,T,_,J⟩:=w p.Then (by omega) q.1 q.2;obtain⟨y,y1,_,F⟩:=w p.Else (by omega) B.1 B.2;have P:i64.wrap (((21-(k+1):Nat):Int)+1)=((21-k:Nat):Int):=by rw[QZ (by omega) (by omega)];omega
     have L:i64.wrap ((a:Int)+(u:Int))=((a+u:Nat):Int):=by rw[QZ (by omega) (by omega)];omega
     have H:i64.wrap (((a+u:Nat):Int)+(x:Int))=((a+u+x:Nat):Int):=by rw[QZ (by omega) (by omega)];omega
     have E:i64.wrap (((a+u+x:Nat):Int)+(y:Int))=((a+u+x+y:Nat):Int):=by rw[QZ (by omega) (by omega)];omega
     obtain⟨v,e,t,h⟩:=g (i+1) (a+u+x+y) j (by have:=d.lt';omega) (by omega);refine⟨v,e,by omega,Et ?_ h⟩;unfold F_hj;simp only[d.lt,Vl,d.ix,XH,d.nx,Q7 (show(a:Int)<500 by omega),P];refine Ea M (Ea J (Ea F ?_));rw[L,H,E];exact Qa _
    .refine⟨a,m,XR _,Eh ?_⟩;unfold F_hj;simp only[d.lt,Vl,XH,Q5 (show¬(a:Int)<500 by omega),Vm];exact Qa _
  obtain⟨v,e,t,h⟩:=loop l 0 l.length rfl (XS _) (by omega);refine⟨v,e,λ_=>t,QK ?_⟩;show Ev (λn=>B_o (F_o n) n l ((21-(k+1):Nat):Int)) _;unfold B_o;rw[Q5 (show¬(20:Int)<((21-(k+1):Nat):Int)by omega)];exact Ye (Ea h.ev (Qa _))
theorem QmL(c:Course)(w:CourseOk c)(q:PartsOk c)(hl:c.Ties.length<=1048576)(H:∀x∈c.Ties,Step.wf x):∃b,Ev (λn=>F_az n c) b/\(b=true->FewL c):=by
 have M:=w.dist;have L:=w.mats;have loop:∀(r:List Distance) (i:Nat),c.Distances.drop i=r->i<=c.Distances.length->∃a:Ctl Unit Bool,EvI (λn=>F_fe n c) (i:Int) a/\(a=.done false\/(a=.cont ()/\ ∀d∈r,d.Cutoffs.length<=12/\szPs d.Route<=24)):=by
  intro r
  induction r with
  |nil=>
   intro i p E;refine⟨.cont (),Eh ?_,.inr ⟨rfl,λd h=>by cases h⟩⟩;unfold F_fe;simp only[QX p E,Vm];exact Qa _
  |cons d r t=>
   intro i p E;obtain⟨e,z⟩:=Qx (by omega) p;obtain⟨v,G,s,k⟩:=Qku 21 d.Route (XR _) (q.len d e.mem) (q.wf d e.mem);have step:Ev (λn=>F_fe n c (i:Int)) (bif (decide ((24:Int)<(v:Int))||(decide (12<(d.Cutoffs.length:Int))||decide (60<(d.Name.length:Int))))then .done (.done false)else .cont ((i+1:Nat):Int)):=by
    unfold F_fe;simp only[e.lt,Vl,e.ix,XH,e.nx];refine Ea (Ea k (Ep λ_=>Ep λ_=>Qa _)) ?_;cases(decide ((24:Int)<(v:Int))||(decide (12<(d.Cutoffs.length:Int))||decide (60<(d.Name.length:Int))))<;>exact Qa _
   cases g:(decide ((24:Int)<(v:Int))||(decide (12<(d.Cutoffs.length:Int))||decide (60<(d.Name.length:Int))))with
   |true=>
    rw[g]at step;exact⟨.done false,Eh step,.inl rfl⟩
   |false=>
    rw[g]at step;obtain⟨a,j,f⟩:=t (i+1) z (by have:=e.lt';omega);refine⟨a,Et step j,?_⟩;rcases f with f|⟨f,l⟩
    .exact .inl f
    .refine .inr ⟨f,λx y=>?_⟩;rcases X4.1 y with rfl|y
     .simp only[XV,decide_eq_false_iff_not]at g;have:=s (by omega);exact⟨by omega,by omega⟩
     .exact l x y
 obtain⟨a,j,f⟩:=loop c.Distances 0 rfl (XS _);rcases f with rfl|⟨rfl,l⟩
 .refine⟨false,?_,λh=>by cases h⟩;unfold F_az;exact Ea j.ev (Qa _)
 .have J:∃a:Ctl Unit Bool,Ev (λn=>iter (F_ho n c) n (0:Int)) a/\(a=.done false\/a=.cont ()):=by
   refine⟨_,YG c.Mats (λm=> !decide (60<(m.Name.length:Int))) (Ctl.done false) (Ctl.cont ()) (by omega) (λi x e=>?_) ?_,?_⟩
   .unfold F_ho;simp only[e.lt,Vl,e.ix,XH,e.nx];cases decide (60<(x.Name.length:Int))<;>exact Qa _
   .unfold F_ho;simp only[Yu,Vm];exact Qa _
   .cases c.Mats.all (λm=> !decide (60<(m.Name.length:Int)))with
    |true=>exact .inr rfl
    |false=>exact .inl rfl
  obtain⟨B,u,F⟩:=J;rcases F with rfl|rfl
  .refine⟨false,?_,λh=>by cases h⟩;unfold F_az;exact Ea j.ev (Ea u (Qa _))
  .obtain⟨v,G,s,k⟩:=QiS 21 c.Ties (XR _) hl H;cases g:(decide (12<(c.Mats.length:Int))||(decide (30<(c.Legs.length:Int))||(decide (4<(c.Distances.length:Int))||(decide (6<(c.Waves.length:Int))||(decide (6<(c.Offences.length:Int))||(decide (6<(c.Categories.length:Int))||(decide (6<(c.Prizes.length:Int))||decide (60<(c.Name.length:Int)))))))))with
   |true=>
    refine⟨false,?_,λh=>by cases h⟩;unfold F_az;refine Ea j.ev (Ea u (Ea (v:=true) (Er (Ep λ_=>Ep λ_=>Ep λ_=>Ep λ_=>Ep λ_=>Ep λ_=>Ep λ_=>Qa _) g) (Qa _)))
   |false=>
    refine⟨decide ((v:Int)<=100),?_,λh=>?_⟩
    .unfold F_az;refine Ea j.ev (Ea u (Ea (v:=false) (Er (Ep λ_=>Ep λ_=>Ep λ_=>Ep λ_=>Ep λ_=>Ep λ_=>Ep λ_=>Qa _) g) (Ea k (Qa _))))
    .have h:=Vs h;have:=s (by omega);simp only[XV,decide_eq_false_iff_not]at g;exact⟨by unfold lensC;omega,by omega,l,by omega⟩
set_option maxRecDepth 4000
def openU(f:Fact):U_facts_open_rxk:=
 bif f.Kind==1 then .c0 ()else bif f.Kind==2 then .c1 ()else bif f.Kind==3 then .c2 ()else bif f.Kind==4 then .c3 ()else bif f.Kind==5 then .c4 ()else bif f.Kind==6 then .c5 ()
 else bif f.Kind==7 then .c6 ()else bif f.Kind==8 then .c7 ()else bif f.Kind==9 then .c8 ()else bif f.Kind==10 then
  (bif (f.Ruling.Kind==1)||(f.Ruling.Kind==2)then .c9 (0,0,0,0,0,0)else bif f.Ruling.Kind==3 then .c9 (1,9999,0,255,1,1099511627776)else bif f.Ruling.Kind==4 then .c9 (1,9999,0,255,1,64)else .c9 (1,9999,0,255,0,0))
 else bif f.Kind==11 then .c10 ()else bif f.Kind==12 then .c11 ()else bif f.Kind==13 then .c12 ()else .c13 ()
theorem QlG(n:Nat)(f:Fact)(b:Int):F_bg n f b=some (openU f):=by
 unfold F_bg openU;cases(f.Kind==1)with
 |true=>rfl
 |false=>
 cases(f.Kind==2)with
 |true=>rfl
 |false=>
 cases(f.Kind==3)with
 |true=>rfl
 |false=>
 cases(f.Kind==4)with
 |true=>rfl
 |false=>
 cases(f.Kind==5)with
 |true=>rfl
 |false=>
 cases(f.Kind==6)with
 |true=>rfl
 |false=>
 cases(f.Kind==7)with
 |true=>rfl
 |false=>
 cases(f.Kind==8)with
 |true=>rfl
 |false=>
 cases(f.Kind==9)with
 |true=>rfl
 |false=>
 cases(f.Kind==10)with
 |true=>
  cases(f.Ruling.Kind==1)with
  |true=>rfl
  |false=>
  cases(f.Ruling.Kind==2)with
  |true=>rfl
  |false=>
  cases(f.Ruling.Kind==3)with
  |true=>rfl
  |false=>
  cases(f.Ruling.Kind==4)with
  |true=>rfl
  |false=>rfl
 |false=>
 cases(f.Kind==11)with
 |true=>rfl
 |false=>
 cases(f.Kind==12)with
 |true=>rfl
 |false=>
 cases(f.Kind==13)with
 |true=>rfl
 |false=>rfl
def headL:List Ent:=[⟨false,3,1,13⟩,⟨false,0,0,31⟩,⟨false,1,1,1048576⟩,⟨false,2,0,1099511627776⟩]
def bodyL:U_facts_open_rxk->List Ent
 |.c0 _=>[⟨false,4,1,9999⟩,⟨false,5,0,7⟩,⟨false,6,0,31⟩,⟨false,7,(-1099511627776),1099511627776⟩,⟨false,8,0,120⟩,⟨false,9,0,1048576⟩,⟨false,10,0,9999⟩,⟨false,11,0,1048576⟩]
 |.c1 _=>[⟨false,12,0,39⟩,⟨false,13,0,255⟩,⟨false,14,0,1048576⟩,⟨false,15,(-1099511627776),1099511627776⟩]
 |.c2 _=>[⟨false,16,0,39⟩,⟨false,17,0,255⟩,⟨false,18,(-1099511627776),1099511627776⟩,⟨false,19,(-1099511627776),1099511627776⟩,⟨false,20,0,1099511627776⟩]
 |.c3 _=>[⟨false,21,0,39⟩,⟨false,22,0,255⟩,⟨false,23,(-1099511627776),1099511627776⟩,⟨false,24,0,39⟩,⟨false,25,0,255⟩,⟨false,26,(-1099511627776),1099511627776⟩,⟨false,27,(-1099511627776),1099511627776⟩,⟨false,28,(-1099511627776),1099511627776⟩]
 |.c4 _=>[⟨false,29,1,9999⟩,⟨false,30,0,255⟩,⟨false,31,(-1099511627776),1099511627776⟩,⟨false,32,(-1099511627776),1099511627776⟩]
 |.c5 _=>[⟨false,33,0,39⟩,⟨false,34,0,255⟩,⟨false,35,(-1099511627776),1099511627776⟩,⟨false,36,(-1099511627776),1099511627776⟩]
 |.c6 _=>[⟨false,37,1,9999⟩,⟨false,38,1,9999⟩]
 |.c7 _=>[⟨false,39,1,1048576⟩,⟨false,40,1,9999⟩,⟨false,41,0,31⟩,⟨false,42,0,255⟩]
 |.c8 _=>[⟨false,43,1,1048576⟩,⟨false,44,0,9999⟩,⟨false,45,0,1125899906842624⟩,⟨false,46,0,1⟩]
 |.c9 x=>[⟨false,47,1,1048576⟩,⟨false,48,1,2⟩,⟨false,49,1,5⟩,⟨false,50,x.1,x.2.1⟩,⟨false,51,x.2.2.1,x.2.2.2.1⟩,⟨false,52,x.2.2.2.2.1,x.2.2.2.2.2⟩]
 |.c10 _=>[⟨false,53,1,1048576⟩,⟨true,0,0,1⟩]
 |.c11 _=>[]
 |.c12 _=>[⟨false,55,0,31⟩,⟨false,56,1,1048576⟩]
 |.c13 _=>[]
def fineU(f:Fact):U_facts_open_rxk->Bool
 |.c3 _=>decide (f.Sync.Min<=f.Sync.Max)
 |.c4 _=>decide (f.Hand.Lo<=f.Hand.Hi)
 |.c5 _=>decide (f.Silence.Lo<=f.Silence.Hi)
 |.c6 _=>decide (f.Pair.A<f.Pair.B)
 |.c13 _=>false
 |_=>true
def entsS(f:Fact):List Ent:=headL++bodyL (openU f)
def goodE(e:Ent):Bool:=bif e.fl then e.off==0 else decide (e.off<57)&& !(e.off==54)
theorem QmV(f:Fact):∀e∈entsS f,goodE e=true:=by
 have h:∀u,(headL++bodyL u).all goodE=true:=by intro u;cases u<;>rfl
 exact Xs.1 (h (openU f))
theorem Qgj(f:Fact):(entsS f).length<=12:=by
 have h:∀u,(headL++bodyL u).length<=12:=by intro u;cases u<;>exact XP rfl
 exact h (openU f)
def isI:Option A->Bool
 |some (.int .i64 _)=>true
 |_=>false
theorem QqJ{x:Option A}(h:isI x=true):∃v,x=some (.int .i64 v):=by
 unfold isI at h;split at h
 .exact⟨_,rfl⟩
 .cases h
theorem Qn8{f:Fact}{b:Int}{e:Ent}(h:goodE e=true):∃v,QgK (Fact.c f) b e=some v:=by
 unfold goodE at h;unfold QgK;cases a:e.fl with
 |true=>
  rw[a]at h;simp[Vl]at h⊢;rw[h];exact⟨b,rfl⟩
 |false=>
  rw[a]at h;simp only[Vm,XU,Vn,Bool.not_eq_true']at h⊢;have all:(List.range 57).all (λo=>(o==54)||isI (Fact.c f)[o]?)=true:=by rfl
  have:=Xs.1 all e.off (List.mem_range.2 h.1);rw[h.2,Bool.false_or]at this;obtain⟨v,d⟩:=QqJ this;rw[d];exact⟨v,rfl⟩
theorem QnK{x:Fact}{s v:Int}{e:Ent}(h:goodE e=true):∃q,QkD Fact.put x s e v=some q:=by
 unfold goodE at h;unfold QkD;cases a:e.fl with
 |true=>
  rw[a]at h;simp only[Vl]at h⊢;rw[h];exact⟨_,rfl⟩
 |false=>
  rw[a]at h;simp only[Vm,XU,Vn,Bool.not_eq_true']at h⊢;have all:(List.range 57).all (λo=>(o==54)||(Fact.put x o v).isSome)=true:=by rfl
  have:=Xs.1 all e.off (List.mem_range.2 h.1);rw[h.2,Bool.false_or]at this;obtain⟨y,d⟩:=Option.isSome_iff_exists.1 this;rw[d];exact⟨_,rfl⟩
def getV(f:Fact)(b:Int)(e:Ent):Int:=(QgK (Fact.c f) b e).getD 0
def putV(x:Fact)(s:Int)(e:Ent)(v:Int):Fact×Int:=(QkD Fact.put x s e v).getD (x,s)
theorem Qn9{f:Fact}{b:Int}{e:Ent}(h:goodE e=true):QgK (Fact.c f) b e=some (getV f b e):=by
 obtain⟨v,a⟩:=Qn8 h;unfold getV;rw[a];rfl
theorem Qqv{x:Fact}{s v:Int}{e:Ent}(h:goodE e=true):QkD Fact.put x s e v=some (putV x s e v):=by
 obtain⟨q,a⟩:=QnK h;unfold putV;rw[a];rfl
def inE(f:Fact)(b:Int)(e:Ent):Bool:= !(decide (getV f b e<e.lo))&& !(decide (e.hi<getV f b e))
def numR(f:Fact)(b:Int):List Ent->List Int×Fact×Int->Ctl (List Int×Fact×Int) (List Int×Bool)
 |[],a=>.cont a
 |e::r,a=>bif inE f b e then numR f b r (a.1++[getV f b e],putV a.2.1 a.2.2 e (getV f b e))else .done ([],false)
theorem Qcu{α:Type}(l m:List α)(h:l.length+m.length<=1000):app l m=some (l++m):=by
 unfold app;have:Nat.ble (l.length+m.length) QD=true:=XQ (XT h (by decide));rw[this];rfl
theorem Qpy(f:Fact)(b:Int)(E:List Ent)(hE:∀e∈E,goodE e=true)(hl:E.length<=12):∀(r:List Ent) (i:Nat) (a:List Int×Fact×Int),E.drop i=r->i<=E.length->a.1.length=i->
  EvI (λn=>F_ex n f b E E) (a.1,a.2.1,a.2.2,(i:Int)) (numR f b r a):=by
 intro r
 induction r with
 |nil=>
  intro i a l p g;refine Eh ?_;unfold F_ex;simp only[QX l p];exact Qa _
 |cons e r t=>
  intro i a l p j;obtain⟨g,m⟩:=Qx (by omega) l;have k:=hE e g.mem;have s:=g.lt';unfold numR;cases d:inE f b e with
  |true=>
   have h:=d;unfold inE at h;simp only[XU,Bool.not_eq_true']at h;refine Et ?_ (t (i+1) (a.1++[getV f b e],putV a.2.1 a.2.2 e (getV f b e)) m (by omega) (by simp[j]));unfold F_ex;simp only[g.lt,g.ix,XH,g.nx,Qn9 k,h.1,h.2,Qqv k];rw[Qcu a.1 [getV f b e] (by simp;omega)];exact Qa _
  |false=>
   refine Eh ?_;unfold F_ex;simp only[g.lt,g.ix,XH,Qn9 k];unfold inE at d;cases q:decide (getV f b e<e.lo)with
   |true=>exact Qa _
   |false=>
    rw[q]at d;simp[Xi,Vx,Bool.not_eq_false']at d;simp[d];exact Qa _
def suspB(f:Fact):Int:=bif f.Appeal.Suspends then 1 else 0
def restS(f:Fact):Fact:={Uk with Ruling:={Ur with Kind:=f.Ruling.Kind:Ruling},Kind:=f.Kind:Fact}
def lastF(f x:Fact)(s:Int):Fact:=
 let y:Fact:=bif f.Kind != 10 then {x with Ruling:={x.Ruling with Kind:=0:Ruling}:Fact}else x
 {y with Appeal:={Case:=y.Appeal.Case,Suspends:=s==1:Appeal}:Fact}
def numF(f:Fact):List Int×Bool:=bif fineU f (openU f)then(match numR f (suspB f) (entsS f) ([],restS f,0)with
  |.cont a=>(a.1,lastF f a.2.1 a.2.2==f)
  |.done r=>r)else([],false)
theorem QmY(n:Nat)(f:Fact):F_dh n ({Uk with Ruling:={Ur with Kind:=f.Ruling.Kind:Ruling}:Fact}) 0 f=some (entsS f):=by
 have a:openU ({({Uk with Ruling:={Ur with Kind:=f.Ruling.Kind:Ruling}:Fact})with Kind:=f.Kind:Fact})=openU f:=rfl;unfold F_dh entsS;rw[QlG];rw[a];unfold F_bm;generalize openU f=u;cases u<;>(simp only[XH];exact congrArg (Option.bind · _) (Qcu _ _ (by simp)))
theorem Ql1(f:Fact):Ev (λn=>F_cd n f) (numF f):=by
 refine Ea (v:=suspB f) ?_ ?_
 .unfold suspB;cases f.Appeal.Suspends<;>exact Qa _
 refine Ea (v:=bif fineU f (openU f)then .cont (bodyL (openU f))else .done ([],false)) ?_ ?_
 .simp[QlG];generalize openU f=u;cases u with
  |c3=>unfold fineU;cases decide (f.Sync.Min<=f.Sync.Max)<;>exact Qa _
  |c4=>unfold fineU;cases decide (f.Hand.Lo<=f.Hand.Hi)<;>exact Qa _
  |c5=>unfold fineU;cases decide (f.Silence.Lo<=f.Silence.Hi)<;>exact Qa _
  |c6=>unfold fineU;cases decide (f.Pair.A<f.Pair.B)<;>exact Qa _
  |_=>exact Qa _
 unfold numF;cases fineU f (openU f)with
 |false=>exact Qa _
 |true=>
  have e:app headL (bodyL (openU f))=some (entsS f):=Qcu _ _ (by have:=Qgj f;unfold entsS at this;rw[X0]at this;omega);unfold F_bm;simp[XH];refine Ea (Ez e) ?_;refine Ea (Ez (QmY 0 f)) (Ea (Qpy f (suspB f) (entsS f) (QmV f) (Qgj f) (entsS f) 0 ([],restS f,0) rfl (XS _) rfl).ev ?_);cases numR f (suspB f) (entsS f) ([],restS f,0)with
  |done r=>exact Qa _
  |cont a=>
   refine Ea ?_ (Qa _);cases(f.Kind != 10)<;>exact Qa _
def validS(f:Fact):Bool:=(numF f).2
theorem Qbc(f:Fact):Ev (λn=>F_ar n f) (bif validS f then 0 else 120):=by
 refine Ea (Ql1 f) ?_;unfold validS;cases(numF f).2<;>exact Qa _
theorem Qkp{f:Fact}(h:validS f=true):(f.Kind==0)=false:=by
 cases q:(f.Kind==0)with
 |false=>rfl
 |true=>
  have hk:=by simpa using q
  have a:openU f=.c13 ():=by unfold openU;rw[hk];rfl
  unfold validS numF at h;rw[a]at h;cases h
set_option maxRecDepth 4000
def numN(v:Nat):List Int:=if h:128<=v then orI .u8 (u8.wrap (v:Int)) 128::numN (v/128)else[u8.wrap (v:Int)]
termination_by v
decreasing_by omega
theorem QfG{v:Nat}(h:128<=v):numN v=orI .u8 (u8.wrap (v:Int)) 128::numN (v/128):=by
 rw[numN,dif_pos h]
theorem JO{v:Nat}(h:¬128<=v):numN v=[u8.wrap (v:Int)]:=by
 rw[numN,dif_neg h]
theorem shr7(v:Nat):QcQ .u64 (v:Int) 7=((v/128:Nat):Int):=by
 show Int.fdiv v (2^7)=_;rw[Int.fdiv_eq_ediv_of_nonneg _ (by decide)];omega
theorem Qjg:∀(k v:Nat),v<128^(k+1)->(numN v).length<=k+1:=by
 intro k
 induction k with
 |zero=>
  intro v a;rw[JO (by omega)];simp
 |succ k d=>
  intro v a;by_cases h:128<=v
  .rw[QfG h,XY];have:=d (v/128) (by rw[Nat.div_lt_iff_lt_mul (by decide)];exact a);omega
  .rw[JO h];simp
theorem Qh0:∀(k v:Nat) (l:List Int),v<128^(k+1)->l.length+k<4294967296->∃(l':List Int) (a:Nat),EvI (λn=>F_gk n) (l,(v:Int)) (l',(a:Int))/\l'++[u8.wrap (a:Int)]=l++numN v/\l'.length<=l.length+k:=by
 intro k
 induction k with
 |zero=>
  intro v l d g;refine⟨l,v,Eh ?_,by rw[JO (by omega)],XR _⟩;unfold F_gk;simp[Q5 (show¬128<=(v:Int)by omega)];exact Qa _
 |succ k i=>
  intro v l d g;by_cases h:128<=v
  .obtain⟨l',a,e,j,f⟩:=i (v/128) (l++[orI .u8 (u8.wrap v) 128]) (by rw[Nat.div_lt_iff_lt_mul (by decide)];exact d) (by simp;omega);refine⟨l',a,Et ?_ e,?_,?_⟩
   .unfold F_gk;simp[Q7 (show 128<=(v:Int)by omega),shr7];rw[Jl l _ (by omega)];exact Qa _
   .rw[j,QfG h];simp
   .simp at f;omega
  .refine⟨l,v,Eh ?_,by rw[JO h],by omega⟩;unfold F_gk;simp[Q5 (show¬128<=(v:Int)by omega)];exact Qa _
theorem Qgg(v:Nat)(l:List Int)(e:v<18446744073709551616)(hl:l.length<=1000000):Ev (λn=>F_at n l (v:Int)) (l++numN v):=by
 obtain⟨a,h,d,f,g⟩:=Qh0 9 v l (Vc e (by decide)) (by omega);refine Ea d.ev ?_;rw[Jl a _ (by omega),f];exact Qa _
theorem Qbx{v:Nat}(hv:v<18446744073709551616):(numN v).length<=10:=Qjg 9 v (Vc hv (by decide))
def zigI(x:Int):Int:=QgF .u64 (Qfr .u64 (u64.wrap x) 1) (u64.wrap (QcQ .i64 x 63))
theorem wrapU(x:Int):0<=u64.wrap x/\u64.wrap x<18446744073709551616:=by
 have e:u64.wrap x=x%18446744073709551616:=by
  rfl
 omega
theorem Qfk(x:Int):∃z:Nat,zigI x=(z:Int)/\z<18446744073709551616:=by
 have h:=wrapU ((BitVec.ofInt IntKind.u64.bits (Qfr .u64 (u64.wrap x) 1)^^^BitVec.ofInt IntKind.u64.bits (u64.wrap (QcQ .i64 x 63))).toNat);refine⟨(zigI x).toNat,?_,?_⟩
 iterate 2 unfold zigI QgF;omega
def oneB(x:Int):List Int:=1::numN (zigI x).toNat
theorem QfE(x:Int):(oneB x).length<=11:=by
 obtain⟨z,d,a⟩:=Qfk x;unfold oneB;rw[d];have:=Qbx a;simp;omega
theorem QjF(l:List Int)(x:Int)(hl:l.length<=100000):Ev (λn=>F_bh n l ({Kind:=1,N:=x,S:=[],L:=[]:Value})) (l++oneB x):=by
 unfold F_bh F_bu;rw[Jl l 1 (by omega)];simp only[XH];obtain⟨z,d,e⟩:=Qfk x;have a:=d;unfold zigI at a;rw[a];refine Ea (Qgg z (l++[1]) e (by simp;omega)) ((Qa _).eq ?_);unfold oneB;rw[d];simp
def mkV(x:Int):Value:={Kind:=1,N:=x,S:=[],L:=[]:Value}
def listV(l:List Int):Value:={Kind:=3,N:=0,S:=[],L:=l.map mkV:Value}
theorem QkN(x:Int):Ev (λn=>F_p n (mkV x)) (0,true):=by
 refine QK ?_;show Ev (λn=>B_p (F_p n) n (mkV x)) _;unfold B_p mkV;cases(x==0)with
 |true=>exact Qa _
 |false=>exact Qa _
theorem Qjr(l:List Int)(hl:l.length<=1000):Ev (λn=>F_p n (listV l)) (1,true):=by
 refine QK ?_;show Ev (λn=>B_p (F_p n) n (listV l)) _;unfold B_p listV;refine Ea (Qa _) ?_;refine Ea (v:=Ctl.cont 0) (Eu (λi=>(0,(i:Int))) (l.map mkV).length rfl (λi f=>?_) ?_) (Qa _)
 .have a:=JG (show(l.map mkV).length<=4611686018427387904 by rw[XZ];omega) (XI f);have e:∃y,(l.map mkV)[i]=mkV y:=by
   rw[List.getElem_map];exact⟨_,rfl⟩
  obtain⟨y,d⟩:=e;unfold F_kk;simp only[a.lt,a.ix,XH,a.nx];rw[d];exact Ea (QkN y) (Qa _)
 .unfold F_kk;simp[Yu];exact Qa _
def listB(l:List Int):List Int:=[3]++numN l.length++(l.map oneB).flatten
theorem Qif(l:List Int)(hl:l.length<=1000):Ev (λn=>F_cp n (listV l)) (listB l):=by
 unfold F_cp;have u:app ([]:List Int) [3]=some [3]:=rfl;rw[u];simp only[XH];have q:u64.wrap (((listV l).L.length:Int))=((l.length:Nat):Int):=by
  have:u64.wrap (((listV l).L.length:Int))=(((listV l).L.length:Int))%18446744073709551616:=by rfl
  rw[this];unfold listV;rw[XZ];omega
 rw[q];have s:=Qbx (show l.length<18446744073709551616 by omega);refine Ea (Qgg l.length [3] (by omega) (by simp)) ?_;refine Ea (v:=listB l) ?_ (Qa _);have h:=QI (step:=λn=>F_ke n (listV l)) (l.map mkV) (λ(a:List Int) (v:Value)=>a++oneB v.N) ([3]++numN l.length) (λa i=>(a,(i:Int))) (λa=>a) (by rw[XZ];omega) rfl (λi x a e t=>?_) ?_
 .refine Er h ?_;have:∀(m:List Int) (a:List Int),(m.map mkV).foldl (λ(a:List Int) (v:Value)=>a++oneB v.N) a=a++(m.map oneB).flatten:=by
   intro m
   induction m with
   |nil=>intro a;simp
   |cons x m j=>intro a;simp only[Vg,XC];rw[j];simp[mkV]
  rw[this];rfl
 .have w:∃y,x=mkV y:=by
   obtain⟨y,_,r⟩:=Xf.1 e.mem;exact⟨y,r.symm⟩
  obtain⟨y,rfl⟩:=w;have f:a.length<=100000:=by
   have:∀(m:List Int) (a:List Int),((m.map mkV).foldl (λ(a:List Int) (v:Value)=>a++oneB v.N) a).length<=a.length+11*m.length:=by
    intro m
    induction m with
    |nil=>intro a;simp
    |cons x m j=>
     intro a;simp only[Vg,XC,XY];have p:=j (a++oneB (mkV x).N);have k:=QfE (mkV x).N;rw[X0]at p;omega
   have k:=this (l.take i) ([3]++numN l.length);rw[List.map_take, <- t,X0,Xw]at k;simp at k;omega
  unfold F_ke;have d:decide ((i:Int)<((listV l).L.length:Int))=true:=e.lt;have g:idx (listV l).L (i:Int)=some (mkV y):=e.ix;simp only[d,Vl,g,XH,e.nx];refine Ea (QjF a y f) ?_;exact Qa _
 .unfold F_ke;have d:decide (((l.map mkV).length:Int)<((listV l).L.length:Int))=false:=Yu _;simp only[d,Vm];exact Qa _
theorem QnT{f:Fact}{b:Int}:∀(r:List Ent) (a c:List Int×Fact×Int),numR f b r a=.cont c->c.1.length=a.1.length+r.length:=by
 intro r
 induction r with
 |nil=>intro a c h;cases h;rfl
 |cons e r d=>
  intro a c h;unfold numR at h;cases q:inE f b e with
  |false=>rw[q]at h;cases h
  |true=>
   rw[q]at h;have:=d _ _ h;simp at this;rw[this,XY];omega
theorem QnU(f:Fact):(numF f).1.length<=12:=by
 unfold numF;cases fineU f (openU f)with
 |false=>simp
 |true=>
  cases h:numR f (suspB f) (entsS f) ([],restS f,0)with
  |cont a=>
   have:=QnT _ _ _ h;have:=Qgj f;simp at*;omega
  |done r=>
   have:∀(E:List Ent) (a:List Int×Fact×Int),numR f (suspB f) E a=.done r->r=([],false):=by
    intro E
    induction E with
    |nil=>intro a h;cases h
    |cons e E ih=>
     intro a h;unfold numR at h;cases q:inE f (suspB f) e with
     |false=>rw[q]at h;cases h;rfl
     |true=>rw[q]at h;exact ih _ h
   rw[this _ _ h];simp
def encF(f:Fact):List Int×Int:=bif validS f then(listB (numF f).1,0)else([],120)
theorem Qhv(f:Fact):Ev (λn=>F_bw n f) (encF f):=by
 refine Ea (Ql1 f) ?_;have p:=QnU f;unfold encF validS;generalize numF f=r at*;cases h:r.2 with
 |false=>exact Qa _
 |true=>
  refine Ea (v:=r.1.map mkV) ?_ ?_
  .refine Er (QI r.1 (λa x=>a++[mkV x]) [] (λa i=>(a,(i:Int))) (λa=>a) (by omega) rfl (λi x a d l=>?_) ?_) ?_
   .unfold F_kr;simp only[d.lt,d.ix,XH,d.nx];have j:a.length<=12:=by
     have:∀(m:List Int) (a:List Value),(m.foldl (λa x=>a++[mkV x]) a).length=a.length+m.length:=by
      intro m
      induction m with
      |nil=>simp
      |cons x m g=>intro a;simp only[XC];rw[g];simp;omega
     rw[l,this,Xw];simp;omega
    have e:=Jl a (mkV x) (by omega);unfold mkV at e;rw[e];exact Qa _
   .unfold F_kr;simp[Yu];exact Qa _
   .have:∀(m:List Int) (a:List Value),m.foldl (λa x=>a++[mkV x]) a=a++m.map mkV:=by
     intro m
     induction m with
     |nil=>simp
     |cons x m g=>intro a;simp only[XC];rw[g];simp
    rw[this];rfl
  refine Ea (v:=(listB r.1,0)) ?_ (Qa _);have k:=Qjr r.1 (by omega);have e:({Kind:=3,N:=0,S:=[],L:=r.1.map mkV:Value})=listV r.1:=rfl;refine Ea (Ea k (Qa _)) ?_;exact Ea (Qif r.1 (by omega)) (Qa _)
def cmpI(a b:Int):Int:=bif decide (a<b)then-1 else bif decide (b<a)then 1 else 0
theorem Qio(n:Nat)(a b:Int):F_ao n a b=some (cmpI a b):=by
 unfold F_ao F_ca cmpI;simp[bne_self_eq_false];cases decide (a<b)with
 |true=>rfl
 |false=>cases decide (b<a)<;>rfl
def orL:List Int->Int
 |[]=>0
 |x::r=>bif x != 0 then x else orL r
theorem ev_or(l:List Int)(hl:l.length<=1000):Ev (λn=>F_gj n l) (orL l):=by
 have loop:∀(r:List Int) (i:Nat),l.drop i=r->i<=l.length->EvI (λn=>F_fl n l) i (bif orL r==0 then Ctl.cont ()else Ctl.done (orL r)):=by
  intro r
  induction r with
  |nil=>
   intro i d g;refine Eh ?_;unfold F_fl;simp only[QX d g];exact Qa _
  |cons x r j=>
   intro i d g;obtain⟨a,f⟩:=Qx (by omega) d;have k:=a.lt';unfold orL;cases q:(x != 0)with
   |true=>
    have e:(x==0)=false:=by simpa  using q
    simp[Vl,e];refine Eh ?_;unfold F_fl;simp only[a.lt,a.ix,XH,q];exact Qa _
   |false=>
    refine Et ?_ (j (i+1) f (by omega));unfold F_fl;simp only[a.lt,a.ix,XH,q,a.nx];exact Qa _
 refine Ea (loop l 0 rfl (XS _)).ev ?_;cases h:(orL l==0)with
 |true=>
  have e:=by simpa using h
  rw[e];exact Qa _
 |false=>exact Qa _
def cmpF(f g:Fact):Int:=bif orL [cmpI f.At g.At,cmpI f.Crew g.Crew,cmpI f.No g.No] != 0 then orL [cmpI f.At g.At,cmpI f.Crew g.Crew,cmpI f.No g.No]else cmpB (encF f).1 (encF g).1
theorem QbI(f g:Fact):Ev (λn=>F_aj n f g) (cmpF f g):=by
 unfold F_aj cmpF;simp[Qio,XH];refine Ea (ev_or _ (by simp)) ?_;cases(orL [cmpI f.At g.At,cmpI f.Crew g.Crew,cmpI f.No g.No] != 0)with
 |true=>exact Qa _
 |false=>
  exact Ea (Qhv f) (Ea (Qhv g) (Qa _))
def okS(c:Course)(f:Fact):Bool:=(f.Kind==1)&&(validS f&&(!decide ((c.Distances.length:Int)<=f.Starter.Distance)&& !decide ((c.Waves.length:Int)<=f.Starter.Wave)))
def stepS(c:Course)(m:List (Int×Fact))(f:Fact):List (Int×Fact):=
 bif okS c f then(bif !(Qbb m f.Starter.Bib)||decide (cmpF f (Qz m f.Starter.Bib Uk)<0)then Yq m f.Starter.Bib f else m)else m
def firstS(c:Course)(l:List Fact):List (Int×Fact):=l.foldl (stepS c) []
theorem Qou(c:Course)(l:List Fact)(hl:l.length<=1048576):Ev (λn=>iter (F_ja n c l) n ([],0)) (firstS c l):=by
 refine QI l (stepS c) [] (λa i=>(a,(i:Int))) (λa=>a) (by omega) rfl (λi x a ha _=>?_) ?_
 .unfold F_ja;simp only[ha.lt,ha.ix,ha.nx];refine Ea (Ea (v:= !okS c x) ?_ ?_) (Qa _)
  .unfold okS bne;cases(x.Kind==1)with
   |false=>exact Qa _
   |true=>
    refine Ea (Qbc x) ?_;cases validS x with
    |false=>exact Qa _
    |true=>
     cases decide (c.Distances.length<=x.Starter.Distance)with
     |true=>exact Qa _
     |false=>
      cases decide (c.Waves.length<=x.Starter.Wave)<;>exact Qa _
  .unfold stepS;cases okS c x with
   |false=>exact Qa _
   |true=>
    refine Ea (Ep λ_=>Ea (QbI _ _) (Qa _)) ?_;cases(!(Qbb a x.Starter.Bib)||decide (cmpF x (Qz a x.Starter.Bib Uk)<0))<;>exact Qa _
 .unfold F_ja;simp[Yu];exact Qa _
theorem Qjh{β:Type}(m:List (Int×β))(k:Int):Qbb m k=(YQ m k).isSome:=by
 unfold Qbb YQ
 induction m with
 |nil=>rfl
 |cons p m a=>
  rw[List.any_cons,List.find?_cons,a];cases decide (p.1=k)<;>rfl
theorem Qdp{β:Type}(m:List (Int×β))(k:Int):k∈m.map Prod.fst↔ ∃v,YQ m k=some v:=by
 have h:=Qjh m k;rw[<- Option.isSome_iff_exists, <- h];unfold Qbb;simp[Xt,Vn,Xf]
structure FirstOk (c:Course) (l:List Fact) (m:List (Int×Fact)):Prop where
 nodup:(m.map Prod.fst).Nodup
 ok:∀k f,YQ m k=some f->f.Starter.Bib=k/\okS c f=true/\f∈l
 len:m.length<=l.length
theorem QnV{β:Type}(m:List (Int×β))(k:Int)(v:β):(Yq m k v).length<=m.length+1:=by
 have:=congrArg List.length (Qd5 m k v);rw[XZ]at this;rw[this];split<;>simp
theorem QkH{β:Type}{m:List (Int×β)}(k:Int)(v:β)(h:(m.map Prod.fst).Nodup):((Yq m k v).map Prod.fst).Nodup:=by
 have e:=Qd5 m k v;have e':=e;rw[e'];split
 .exact h
 .rename_i f;rw[List.nodup_append];refine⟨h,by simp,λa g b d=>?_⟩;rw[Vy]at d;rintro rfl;exact f (d▸g)
theorem Qbn(c:Course)(l:List Fact):FirstOk c l (firstS c l):=by
 have j:∀(r:List Fact) (p:List Fact) (m:List (Int×Fact)),FirstOk c p m->FirstOk c (p++r) (r.foldl (stepS c) m):=by
  intro r
  induction r with
  |nil=>simp
  |cons f r s=>
   intro p m h;have n:FirstOk c (p++[f]) (stepS c m f):=by
    have keep:FirstOk c (p++[f]) m:=⟨h.nodup,λk g i=>by obtain⟨a,b,d⟩:=h.ok k g i;exact⟨a,b,List.mem_append_left _ d⟩,by have:=h.len;simp;omega⟩;unfold stepS;cases q:okS c f with
    |false=>exact keep
    |true=>
     cases(!(Qbb m f.Starter.Bib)||decide (cmpF f (Qz m f.Starter.Bib Uk)<0))with
     |false=>exact keep
     |true=>
      refine⟨QkH _ _ h.nodup,λk g i=>?_,?_⟩
      .simp[Vl]at i;rw[Qcp]at i;by_cases e:k=f.Starter.Bib
       .rw[Vq e]at i;cases i;exact⟨e.symm,q,by simp⟩
       .rw[Vp e]at i;exact keep.ok k g i
      .have:=QnV m f.Starter.Bib f;have:=h.len;simp[Vl,X0,List.length_singleton];omega
   have:=s (p++[f]) _ n;simpa using this
 have:=j l [] [] ⟨by simp,(λk f h=>by cases h),XR _⟩;simpa[firstS]using this
theorem QmF{l m:List Int}(h:l.Perm m):Jf ltI l=Jf ltI m:=
 JN ((Qt ltI l).trans (h.trans (Qt ltI m).symm)) (λx _ y _ a b=>by simp[ltI]at*;omega) (Q6 (Qe7 l)) (Q6 (Qe7 m))
theorem Qe9{n:Nat}(h:n<=1048576):Nat.ble n QD=true:=XQ (XT h (by decide))
theorem Qmo(n:Nat)(m:List (Int×Fact))(h:m.length<=1048576):F_ea n m=some (Jf ltI (m.map Prod.fst)):=by
 unfold F_ea QoQ;have a:(map Prod.fst m).length<=1048576:=by rw[XZ];exact h
 rw[Qe9 a,Vl];refine Ql8 λp d=>?_;unfold sortI;rw[Qe9 (by rw[d.length_eq];exact a)];show some (Jf ltI p)=_;rw[QmF d]
def ordF(m:List (Int×Fact)):List Fact:=(Jf ltI (m.map Prod.fst)).map λk=>Qz m k Uk
theorem Qdl(m:List (Int×Fact)):(ordF m).length=m.length:=by
 unfold ordF;rw[XZ,(Qt _ _).length_eq,XZ]
theorem Qk2(m:List (Int×Fact))(h:m.length<=1048576):Ev (λn=>F_cz n m) (ordF m):=by
 unfold F_cz F_hd;simp only[XH];refine Ea ⟨0,λn _=>Qmo n m h⟩ ?_;have j:(Jf ltI (m.map Prod.fst)).length=m.length:=by rw[(Qt _ _).length_eq,XZ]
 refine Ea ?_ (Qa _);unfold ordF;generalize Jf ltI (m.map Prod.fst)=ks at j;have e:ks.map (λk=>Qz m k Uk)=ks.foldl (λa k=>a++[Qz m k Uk]) []:=by
  have:∀(r:List Int) (a:List Fact),r.foldl (λa k=>a++[Qz m k Uk]) a=a++r.map λk=>Qz m k Uk:=by
   intro r
   induction r with
   |nil=>simp
   |cons x r f=>intro a;simp only[XC];rw[f];simp
  rw[this];rfl
 rw[e];refine QI ks (λa k=>a++[Qz m k Uk]) [] (λa i=>(a,(i:Int))) (λa=>a) (by omega) rfl (λi x a d l=>?_) ?_
 .unfold F_lf;simp only[d.lt,d.ix,XH,d.nx];have g:a.length=i:=by
   have:∀(r:List Int) (a:List Fact),(r.foldl (λa k=>a++[Qz m k Uk]) a).length=a.length+r.length:=by
    intro r
    induction r with
    |nil=>intro a;rfl
    |cons x r f=>intro a;simp only[XC];rw[f];simp;omega
   rw[l,this,Xw];have:=d.lt';simp;omega
  have:=d.lt';rw[Jl a _ (by omega)];exact Qa _
 .unfold F_lf;simp[Yu];exact Qa _
def chipK(f:Fact):Int:=f.Starter.Chip
def startF(e:Int)(c:Course)(l:List Fact):List Starter×Int:=bif e != 0 then([],e)else
 bif decide (((ordF (firstS c l)).map chipK).Nodup)then((ordF (firstS c l)).map (·.Starter),0)else([],180)
theorem QpM(L:List Fact)(hl:L.length<=1048576):Ev (λn=>iter (F_cx n L) n ([],[],0)) (bif decide ((L.map chipK).Nodup)then Ctl.cont (L.map (·.Starter))else Ctl.done ([],180)):=by
 have loop:∀(r:List Fact) (i:Nat),L.drop i=r->i<=L.length->EvI (λn=>F_cx n L) ((L.take i).map (·.Starter),Yf chipK true (L.take i),i)
   (bif Qiu (λ_=>true) chipK ((L.take i).map chipK) r then Ctl.cont (L.map (·.Starter))else Ctl.done ([],180)):=by
  intro r
  induction r with
  |nil=>
   intro i g l;refine Eh ?_;have hlen:=Xq.1 g;have e:=VF hlen;unfold F_cx;simp only[QX g l,e,Qiu];exact Qa _
  |cons f r m=>
   intro i g l;obtain⟨a,j⟩:=Qx (by omega) g;have p:=a.lt';have d:=Qak chipK true false (L.take i) (chipK f);simp only[Qiu];cases q:((L.take i).map chipK).contains (chipK f)with
   |true=>
    have h:chipK f∈(L.take i).map chipK:=by simpa using q
    rw[Vq h]at d;refine Eh ?_;unfold F_cx;simp only[a.lt,a.ix,XH];rw[show f.Starter.Chip=chipK f from rfl,d];exact Qa _
   |false=>
    have h:¬chipK f∈(L.take i).map chipK:=by
     intro z;have:((L.take i).map chipK).contains (chipK f)=true:=by simpa using z
     rw[q]at this;cases this
    rw[Vp h]at d;have k:=m (i+1) j (by omega);rw[a.take,Qdo,Xg,Xg]at k;refine Et ?_ k;unfold F_cx;simp only[a.lt,a.ix,XH,a.nx];rw[show f.Starter.Chip=chipK f from rfl,d];rw[Jl _ _ (by rw[XZ,Xw];omega)];exact Qa _
 refine Er (loop L 0 rfl (XS _)).ev ?_;have:=Qit (λ_=>true) chipK L [] (by simp);simp[List.take_zero,Vh];rw[this,Xs.2 (λ_ _=>rfl),Vx,Ve]
theorem QjG(e:Int)(c:Course)(l:List Fact)(hl:l.length<=16)(he:Ev (λn=>F_an n c) e):Ev (λn=>F_dk n c l) (startF e c l):=by
 unfold F_dk startF;refine Ea he ?_;cases(e != 0)with
 |true=>exact Qa _
 |false=>
  refine Ea (Qou c l (by omega)) ?_;have h:=Qbn c l;have a:=h.len;rw[Q5 (show¬(4000:Int)<(firstS c l).length by omega)];refine Ye (Ea (Qk2 _ (by omega)) (Ea (QpM _ (by rw[Qdl];omega)) ?_));cases decide (((ordF (firstS c l)).map chipK).Nodup)<;>exact Qa _
theorem QiT{e:Int}{c:Course}{l:List Fact}(h:((startF e c l).2==0)=true):((startF e c l).1.map (·.Bib)).Nodup/\((startF e c l).1.map (·.Chip)).Nodup/\(startF e c l).1.length<=l.length:=by
 unfold startF at h⊢;cases q:(e != 0)with
 |true=>
  rw[q]at h;have:=by simpa using h
  rw[this]at q;cases q
 |false=>
  rw[q]at h;simp[Vm]at h⊢;cases g:decide (((ordF (firstS c l)).map chipK).Nodup)with
  |false=>rw[g]at h;cases h
  |true=>
   simp only[Vl];have d:=Qbn c l;refine⟨?_,?_,by rw[XZ,Qdl];exact d.len⟩
   .have e:((ordF (firstS c l)).map (·.Starter)).map (·.Bib)=Jf ltI ((firstS c l).map Prod.fst):=by
     unfold ordF;rw[List.map_map,List.map_map]
     conv=>rhs;rw[<- List.map_id (Jf ltI ((firstS c l).map Prod.fst))]
     refine List.map_congr_left λk i=>?_;have a:=(Qt ltI _).mem_iff.1 i;obtain⟨v,f⟩:=(Qdp _ _).1 a;have:=(d.ok k v f).1;simp[Function.comp,Qz,f,id];exact this
    rw[e];exact(Qt ltI _).symm.nodup d.nodup
   .have:=Vs g;rw[List.map_map];exact this
theorem QpV{a b:Int}:cmpI a b<0↔a<b:=by
 unfold cmpI;by_cases h:a<b
 .simp[h]
 .rw[Vu h];by_cases d:b<a
  .rw[Vr d];simp;omega
  .rw[Vu d];simp;omega
theorem Qq6{a b:Int}:cmpI a b=0↔a=b:=by
 unfold cmpI;by_cases h:a<b
 .rw[Vr h];simp;omega
 .rw[Vu h];by_cases d:b<a
  .rw[Vr d];simp;omega
  .rw[Vu d];simp;omega
set_option maxRecDepth 4000
theorem Qpx(f:Fact)(b:Int):∀(E:List Ent) (a:List Int×Fact×Int),numR f b E a=bif E.all (inE f b)then .cont (a.1++E.map (getV f b),E.foldl (λp e=>putV p.1 p.2 e (getV f b e)) a.2)else .done ([],false):=by
 intro E
 induction E with
 |nil=>simp[numR]
 |cons e E ih=>
  intro a;unfold numR;rw[List.all_cons];cases h:inE f b e with
  |false=>rfl
  |true=>
   rw[ih];simp
def onlyS(f:Fact):Fact:={Crew:=f.Crew,No:=f.No,At:=f.At,Kind:=f.Kind,Starter:=(bif f.Kind==1 then f.Starter else Uk.Starter),Read:=(bif f.Kind==2 then f.Read else Uk.Read),Beacon:=(bif f.Kind==3 then f.Beacon else Uk.Beacon),Sync:=(bif f.Kind==4 then f.Sync else Uk.Sync),Hand:=(bif f.Kind==5 then f.Hand else Uk.Hand),Silence:=(bif f.Kind==6 then f.Silence else Uk.Silence),Pair:=(bif f.Kind==7 then f.Pair else Uk.Pair),Report:=(bif f.Kind==8 then f.Report else Uk.Report),Protest:=(bif f.Kind==9 then f.Protest else Uk.Protest),Ruling:=(bif f.Kind==10 then f.Ruling else Uk.Ruling),Appeal:=(bif f.Kind==11 then f.Appeal else Uk.Appeal),Void:=(bif f.Kind==13 then f.Void else Uk.Void):Fact}
def numsS(f:Fact):List Int:=[f.Kind,f.Crew,f.No,f.At]++(
 bif f.Kind==1 then[f.Starter.Bib,f.Starter.Distance,f.Starter.Wave,f.Starter.Slot,f.Starter.Age,f.Starter.Chip,f.Starter.Team,f.Starter.Lot]
 else bif f.Kind==2 then[f.Read.Mat,f.Read.Epoch,f.Read.Chip,f.Read.Local]
 else bif f.Kind==3 then[f.Beacon.Mat,f.Beacon.Epoch,f.Beacon.Local,f.Beacon.True,f.Beacon.Err]
 else bif f.Kind==4 then[f.Sync.MatA,f.Sync.EpochA,f.Sync.LocalA,f.Sync.MatB,f.Sync.EpochB,f.Sync.LocalB,f.Sync.Min,f.Sync.Max]
 else bif f.Kind==5 then[f.Hand.Bib,f.Hand.Position,f.Hand.Lo,f.Hand.Hi]
 else bif f.Kind==6 then[f.Silence.Mat,f.Silence.Epoch,f.Silence.Lo,f.Silence.Hi]
 else bif f.Kind==7 then[f.Pair.A,f.Pair.B]
 else bif f.Kind==8 then[f.Report.Case,f.Report.Bib,f.Report.Offence,f.Report.Position]
 else bif f.Kind==9 then[f.Protest.Case,f.Protest.By,f.Protest.Fee,f.Protest.Form]
 else bif f.Kind==10 then[f.Ruling.Case,f.Ruling.Instance,f.Ruling.Kind,f.Ruling.Bib,f.Ruling.Position,f.Ruling.Amount]
 else bif f.Kind==11 then[f.Appeal.Case,suspB f]
 else bif f.Kind==13 then[f.Void.Crew,f.Void.No]else[])
theorem kinds(f:Fact):f.Kind=1\/f.Kind=2\/f.Kind=3\/f.Kind=4\/f.Kind=5\/f.Kind=6\/f.Kind=7\/f.Kind=8\/f.Kind=9\/f.Kind=10\/f.Kind=11\/f.Kind=12\/f.Kind=13\/openU f=.c13 ():=by
 by_cases j:f.Kind=1; · exact .inl j
 by_cases q:f.Kind=2; · exact .inr (.inl q)
 by_cases n:f.Kind=3; · exact .inr (.inr (.inl n))
 by_cases i:f.Kind=4; · exact .inr (.inr (.inr (.inl i)))
 by_cases k:f.Kind=5; · exact .inr (.inr (.inr (.inr (.inl k))))
 by_cases m:f.Kind=6; · exact .inr (.inr (.inr (.inr (.inr (.inl m)))))
 by_cases l:f.Kind=7; · exact .inr (.inr (.inr (.inr (.inr (.inr (.inl l))))))
 by_cases p:f.Kind=8; · exact .inr (.inr (.inr (.inr (.inr (.inr (.inr (.inl p)))))))
 by_cases h:f.Kind=9; · exact .inr (.inr (.inr (.inr (.inr (.inr (.inr (.inr (.inl h))))))))
 by_cases d:f.Kind=10; · exact .inr (.inr (.inr (.inr (.inr (.inr (.inr (.inr (.inr (.inl d)))))))))
 by_cases e:f.Kind=11; · exact .inr (.inr (.inr (.inr (.inr (.inr (.inr (.inr (.inr (.inr (.inl e))))))))))
 by_cases g:f.Kind=12; · exact .inr (.inr (.inr (.inr (.inr (.inr (.inr (.inr (.inr (.inr (.inr (.inl g)))))))))))
 by_cases a:f.Kind=13; · exact .inr (.inr (.inr (.inr (.inr (.inr (.inr (.inr (.inr (.inr (.inr (.inr (.inl a))))))))))))
 refine .inr (.inr (.inr (.inr (.inr (.inr (.inr (.inr (.inr (.inr (.inr (.inr (.inr ?_))))))))))));unfold openU;simp[Vw.2 j,Vw.2 q,Vw.2 n,Vw.2 i,Vw.2 k,Vw.2 m,Vw.2 l,Vw.2 p,Vw.2 h,Vw.2 d,Vw.2 e,Vw.2 g,Vw.2 a,Vm]
def copyS(f:Fact):Fact×Int:=(entsS f).foldl (λp e=>putV p.1 p.2 e (getV f (suspB f) e)) (restS f,0)
theorem Qh1(f:Fact):numF f=bif fineU f (openU f)then(bif (entsS f).all (inE f (suspB f))then((entsS f).map (getV f (suspB f)),lastF f (copyS f).1 (copyS f).2==f)else([],false))else([],false):=by
 unfold numF;rw[Qpx];cases fineU f (openU f)with
 |false=>rfl
 |true=>
  cases(entsS f).all (inE f (suspB f))with
  |false=>rfl
  |true=>rfl
theorem Qd9(f:Fact)(h:¬openU f=.c13 ()):lastF f (copyS f).1 (copyS f).2=onlyS f/\(entsS f).map (getV f (suspB f))=numsS f:=by
 rcases kinds f with k|k|k|k|k|k|k|k|k|k|k|k|k|k
 case inr.inr.inr.inr.inr.inr.inr.inr.inr.inr.inl=>
  obtain⟨Cr,No,At,Ki,S,R,B,Sy,Ha,Si,Pa,Re,Pr,Ru,⟨Ca,Su⟩,Vo⟩:=f;subst k;cases Su<;>exact⟨by kernel_rfl,by kernel_rfl⟩
 case inr.inr.inr.inr.inr.inr.inr.inr.inr.inl=>
  obtain⟨Cr,No,At,Ki,S,R,B,Sy,Ha,Si,Pa,Re,Pr,⟨d,g,a,i,l,e⟩,Ap,Vo⟩:=f;subst k;have:∃x,openU ⟨Cr,No,At,10,S,R,B,Sy,Ha,Si,Pa,Re,Pr,⟨d,g,a,i,l,e⟩,Ap,Vo⟩=.c9 x:=by
   unfold openU;cases((a==1)||(a==2))with
   |true=>exact⟨_,rfl⟩
   |false=>
    cases(a==3)with
    |true=>exact⟨_,rfl⟩
    |false=>cases(a==4)<;>exact⟨_,rfl⟩
  obtain⟨x,j⟩:=this;unfold copyS entsS;rw[j];exact⟨by kernel_rfl,by kernel_rfl⟩
 case inr.inr.inr.inr.inr.inr.inr.inr.inr.inr.inr.inr.inr=>exact absurd k h
 all_goals
  obtain⟨Cr,No,At,Ki,S,R,B,Sy,Ha,Si,Pa,Re,Pr,Ru,Ap,Vo⟩:=f;subst k;exact⟨by kernel_rfl,by kernel_rfl⟩
def contS(f:Fact):Bool:=fineU f (openU f)&&(bodyL (openU f)).all (inE f (suspB f))
def headS(f:Fact):Bool:=headL.all (inE f (suspB f))
theorem Qch(f:Fact):validS f=(headS f&&contS f&&(onlyS f==f)):=by
 unfold validS contS headS;rw[Qh1];by_cases h:openU f=.c13 ()
 .have:fineU f (openU f)=false:=by rw[h];rfl
  rw[this];simp
 .obtain⟨a,d⟩:=Qd9 f h;rw[a];unfold entsS;rw[List.all_append];cases fineU f (openU f)with
  |false=>simp
  |true=>
   cases headL.all (inE f (suspB f))with
   |false=>rfl
   |true=>cases(bodyL (openU f)).all (inE f (suspB f))<;>rfl
theorem Qko{f:Fact}(h:validS f=true):(numF f).1=numsS f:=by
 unfold validS at h;rw[Qh1]at h⊢;by_cases q:openU f=.c13 ()
 .have:fineU f (openU f)=false:=by rw[q];rfl
  rw[this]at h;cases h
 .obtain⟨e,d⟩:=Qd9 f q;cases a:fineU f (openU f)with
  |false=>rw[a]at h;cases h
  |true=>
   rw[a]at h;cases b:(entsS f).all (inE f (suspB f))with
   |false=>rw[b]at h;cases h
   |true=>exact d
theorem Qfl{f:Fact}(h:validS f=true):onlyS f=f:=by
 rw[Qch]at h;simp[XU,Vv]at h;exact h.2
theorem QnS{f g:Fact}(a:validS f=true)(hg:validS g=true)(h:numsS f=numsS g):f=g:=by
 have e1:=Qfl a;have y:=Qfl hg;rw[<- e1, <- y];unfold numsS at h;have s:f.Kind=g.Kind:=by
  simp only[VH,List.cons.injEq]at h;exact h.1
 have nk:=Qkp a;rcases kinds f with k|k|k|k|k|k|k|k|k|k|k|k|k|k
 case inr.inr.inr.inr.inr.inr.inr.inr.inr.inr.inr.inr.inr=>
  rw[Qch]at a;unfold contS at a;rw[k]at a;simp[fineU]at a
 all_goals
  have e:=s.symm.trans k;obtain⟨Cr,No,At,Ki,⟨s1,s2,s3,s4,s5,s6,s7,s8⟩,⟨ar,q,F,H⟩,⟨b1,b2,b3,b4,b5⟩,⟨y1,y2,y3,y4,y5,y6,y7,y8⟩,⟨h1,h2,h3,h4⟩,⟨i1,i2,i3,i4⟩,⟨p1,p2⟩,⟨u1,u2,u3,u4⟩,⟨o1,o2,o3,o4⟩,⟨r1,r2,r3,r4,r5,r6⟩,⟨a1,r⟩,⟨v1,v2⟩⟩:=f;obtain⟨Cr',No',At',Ki',⟨T,t,ax,a5,av,ao,an,G⟩,⟨i,j,m,l⟩,⟨Y,am,M,af,a4⟩,⟨W,az,ab,a3,ak,ai,Q,L⟩,⟨N,aq,w,ay⟩,⟨ag,n,aa,p⟩,⟨B,u⟩,⟨x,au,ac,a0⟩,⟨ah,V,R,P⟩,⟨J,aw,al,E,aj,O⟩,⟨z,d⟩,⟨ae,X⟩⟩:=g;simp only at k e;subst k;subst e
  first
   |(simp[suspB]at h;simp[onlyS,h];done)
   |(cases r<;>cases d<;>simp[suspB]at h<;>simp[onlyS,h])
set_option maxRecDepth 4000
theorem Qbw(x:Int):u64.wrap x=x%18446744073709551616:=by rfl
theorem QhM(x:Int):u8.wrap x=x%256:=by unfold IntKind.wrap;rfl
theorem or8(a b:Int):orI .u8 a b=(((BitVec.ofInt 8 a|||BitVec.ofInt 8 b).toNat:Nat):Int)%256:=by exact QhM _
theorem Qp8(a b:Int):QgF .u64 a b=(((BitVec.ofInt 64 a^^^BitVec.ofInt 64 b).toNat:Nat):Int)%18446744073709551616:=by exact Qbw _
theorem or128(v:Nat):orI .u8 (u8.wrap (v:Int)) 128=((v%128+128:Nat):Int):=by
 have a:∀m:Fin 256,((BitVec.ofNat 8 m.val|||128#8).toNat)=m.val%128+128:=by decide
 have d:v%256<256:=Nat.mod_lt _ (by decide);have k:(BitVec.ofNat 8 (v%256)|||128#8).toNat=v%256%128+128:=a ⟨v%256,d⟩;have e:BitVec.ofInt 8 (v%256)=BitVec.ofNat 8 (v%256):=by
  have:(v%256)=v%256:=by omega
  exact BitVec.ofInt_natCast 8 (v%256)
 have f:BitVec.ofInt 8 128=128#8:=by rfl
 rw[or8,QhM,e,f,k];omega
theorem Qcn(v:Nat):numN v=if 128<=v then((v%128+128:Nat):Int)::numN (v/128)else[(v:Int)]:=by
 by_cases h:128<=v
 .rw[QfG h,Vq h,or128]
 .rw[JO h,Vp h,QhM];congr 1;omega
theorem Qjf:∀(v w:Nat) (a b:List Int),numN v++a=numN w++b->v=w/\a=b:=by
 intro v
 induction v using Nat.strongRecOn with
 |_ v f=>
 intro w a b h;rw[Qcn v,Qcn w]at h;by_cases e:128<=v
 .rw[Vq e]at h;by_cases d:128<=w
  .rw[Vq d]at h;simp[VH,List.cons.injEq]at h;obtain⟨i,g⟩:=f (v/128) (by omega) (w/128) a b h.2;exact⟨by omega,g⟩
  .rw[Vp d]at h;simp[VH,List.cons.injEq]at h;omega
 .rw[Vp e]at h;by_cases d:128<=w
  .rw[Vq d]at h;simp[VH,List.cons.injEq]at h;omega
  .rw[Vp d]at h;simp[VH,List.cons.injEq]at h;exact⟨by omega,h.2⟩
theorem QfF:∀(v:Nat),∀x∈numN v,0<=x/\x<256:=by
 intro v
 induction v using Nat.strongRecOn with
 |_ v e=>
 intro x a;rw[Qcn v]at a;by_cases d:128<=v
 .rw[Vq d]at a;rcases X4.1 a with rfl|a
  .omega
  .exact e (v/128) (by omega) x a
 .rw[Vp d]at a;rcases X4.1 a with rfl|a
  .omega
  .cases a
theorem Qe0{x:Int}(h0:0<=x)(f:x<9223372036854775808):zigI x=2*x:=by
 unfold zigI Qfr;have a:QcQ .i64 x 63=0:=by
  show Int.fdiv x (2^63)=0;rw[Int.fdiv_eq_ediv_of_nonneg _ (by decide)];omega
 have e:(2:Int)^(min (1:Int).toNat IntKind.u64.bits)=2:=by decide
 rw[a,e,Qp8];simp only[Qbw];have d:BitVec.ofInt 64 (0%18446744073709551616)=0#64:=by rfl
 rw[d,BitVec.xor_zero,BitVec.toNat_ofInt];omega
theorem Qe1{x:Int}(h0:x<0)(f: -9223372036854775808<=x):zigI x= -2*x-1:=by
 unfold zigI Qfr;have a:QcQ .i64 x 63= -1:=by
  show Int.fdiv x (2^63)= -1;rw[Int.fdiv_eq_ediv_of_nonneg _ (by decide)];omega
 have e:(2:Int)^(min (1:Int).toNat IntKind.u64.bits)=2:=by decide
 rw[a,e,Qp8];simp only[Qbw];have d:BitVec.ofInt 64 (-1%18446744073709551616)=BitVec.allOnes 64:=by decide
 rw[d,BitVec.xor_allOnes,BitVec.toNat_not,BitVec.toNat_ofInt];omega
def in63(x:Int):Prop:= -9223372036854775808<=x/\x<9223372036854775808
theorem Qpm{x y:Int}(f:in63 x)(e:in63 y)(h:zigI x=zigI y):x=y:=by
 obtain⟨a,b⟩:=f;obtain⟨c,d⟩:=e;by_cases p:0<=x
 .rw[Qe0 p b]at h;by_cases q:0<=y
  .rw[Qe0 q d]at h;omega
  .rw[Qe1 (by omega) c]at h;omega
 .rw[Qe1 (by omega) a]at h;by_cases q:0<=y
  .rw[Qe0 q d]at h;omega
  .rw[Qe1 (by omega) c]at h;omega
theorem Qjd:∀(l m:List Int),l.length=m.length->(∀x∈l,in63 x)->(∀x∈m,in63 x)->(l.map oneB).flatten=(m.map oneB).flatten->l=m
 |[],[],_,_,_,_=>rfl
 |x::l,y::m,hl,h1,h2,h=>by
  simp[Vg,Vi,oneB,VH,List.cons.injEq,true_and]at h;obtain⟨e1,e2⟩:=Qjf _ _ _ _ h;obtain⟨z,p1,p2⟩:=Qfk x;obtain⟨z',q1,q2⟩:=Qfk y;rw[p1,q1]at e1;have:=Qpm (h1 x (by simp)) (h2 y (by simp)) (by omega);rw[this,Qjd l m (by simpa using hl) (λz hz=>h1 z (by simp[hz])) (λz hz=>h2 z (by simp[hz])) e2]
theorem QmB{l m:List Int}(f:∀x∈l,in63 x)(e:∀x∈m,in63 x)(h:listB l=listB m):l=m:=by
 unfold listB at h;simp[VH,List.cons.injEq,true_and]at h;obtain⟨a,d⟩:=Qjf _ _ _ _ h;exact Qjd l m a f e d
theorem Qex(l:List Int):∀x∈listB l,0<=x/\x<256:=by
 intro x a;unfold listB at a;simp only[VA,Vy,List.mem_flatten,Xf]at a;rcases a with(rfl|a)|⟨m,⟨y,_,rfl⟩,a⟩
 .omega
 .exact QfF _ x a
 .rcases X4.1 a with rfl|a
  .omega
  .exact QfF _ x a
structure CmpOK {α:Type} (c:α->α->Int):Prop where
 swap:∀x y,c y x= -c x y
 trans:∀x y z,c x y<0->c y z<0->c x z<0
 eqt:∀x y z,c x y=0->c x z=c y z
section
variable {α:Type} {c d:α->α->Int}
theorem CmpOK.refl(h:CmpOK c)(x:α):c x x=0:=by have:=h.swap x x;omega
theorem CmpOK.eqr(h:CmpOK c){x y:α}(z:α)(e:c x y=0):c z x=c z y:=by
 rw[h.swap x z,h.swap y z,h.eqt x y z e]
theorem Qeo(h:CmpOK c)(k:CmpOK d):CmpOK λx y=>bif c x y != 0 then c x y else d x y:=by
 refine⟨λx y=>?_,λx y z=>?_,λx y z=>?_⟩
 .have e:=h.swap x y;by_cases q:c x y=0
  .have f:c y x=0:=by omega
   rw[q,f];exact k.swap x y
  .have f:¬c y x=0:=by omega
   rw[bne_iff_ne.2 q,bne_iff_ne.2 f];exact e
 .by_cases q:c x y=0
  .have e:=h.eqt x y z q;rw[q,e];by_cases f:c y z=0
   .rw[f];exact k.trans x y z
   .rw[bne_iff_ne.2 f];intro _ b;exact b
  .rw[bne_iff_ne.2 q];by_cases f:c y z=0
   .have e:=h.eqr x f;rw[f, <- e,bne_iff_ne.2 q];intro a _;exact a
   .rw[bne_iff_ne.2 f];intro a b;have:=h.trans x y z a b;rw[bne_iff_ne.2 (show¬c x z=0 by omega)];exact this
 .by_cases q:c x y=0
  .rw[q,h.eqt x y z q];intro e;rw[k.eqt x y z e]
  .rw[bne_iff_ne.2 q];intro e;exact absurd e q
theorem CmpOK.on{β:Type}(h:CmpOK c)(f:β->α):CmpOK λx y=>c (f x) (f y):=
 ⟨λx y=>h.swap _ _,λx y z=>h.trans _ _ _,λx y z=>h.eqt _ _ _⟩
end
theorem cmpI_ok:CmpOK cmpI:=by
 have e:∀a b,cmpI a b=if a<b then-1 else if b<a then 1 else 0:=by
  intro a b;unfold cmpI;by_cases h:a<b
  .rw[Vr h,Vq h];rfl
  .rw[Vu h,Vp h];by_cases d:b<a
   .rw[Vr d,Vq d];rfl
   .rw[Vu d,Vp d];rfl
 refine⟨λx y=>?_,λx y z=>?_,λx y z=>?_⟩
 .rw[e,e];split<;>split<;>omega
 .rw[e,e,e];omega
 .rw[e x y];intro h;have:x=y:=by
   by_cases q:x<y
   .omega
   .split at h<;>omega
  rw[this]
theorem cb_ok:CmpOK Lib.compareBytes:=by
 have j:∀x y:List UInt8,Lib.compareBytes y x= -Lib.compareBytes x y:=by
  intro x
  induction x with
  |nil=>intro y;cases y<;>simp[Lib.compareBytes]
  |cons a x f=>
   intro y;cases y with
   |nil=>simp[Lib.compareBytes]
   |cons b y=>
    unfold Lib.compareBytes;by_cases h:a<b
    .have l:¬b<a:=by rw[UInt8.lt_iff_toNat_lt]at*;omega
     rw[Vq h,Vp l,Vq h];rfl
    .rw[Vp h];by_cases g:b<a
     .rw[Vq g,Vp h,Vq g]
     .rw[Vp g,Vp g,Vp h];exact f y
 have eq:∀x y:List UInt8,Lib.compareBytes x y=0->x=y:=by
  intro x
  induction x with
  |nil=>intro y h;cases y with
   |nil=>rfl
   |cons b y=>simp[Lib.compareBytes]at h
  |cons a x f=>
   intro y h;cases y with
   |nil=>simp[Lib.compareBytes]at h
   |cons b y=>
    unfold Lib.compareBytes at h;by_cases q:a<b
    .rw[Vq q]at h;omega
    .rw[Vp q]at h;by_cases e:b<a
     .rw[Vq e]at h;omega
     .rw[Vp e]at h;have:a=b:=by
       rw[UInt8.lt_iff_toNat_lt]at q e;exact UInt8.toNat_inj.1 (by omega)
      rw[this,f y h]
 refine⟨j,?_,λx y z h=>by rw[eq x y h]⟩;intro x
 induction x with
 |nil=>
  intro y z h k;cases y with
  |nil=>simp[Lib.compareBytes]at h
  |cons b y=>cases z with
   |nil=>simp[Lib.compareBytes]at k
   |cons d z=>simp[Lib.compareBytes]
 |cons a x f=>
  intro y z h k;cases y with
  |nil=>simp[Lib.compareBytes]at h
  |cons b y=>
   cases z with
   |nil=>simp[Lib.compareBytes]at k
   |cons d z=>
    unfold Lib.compareBytes at h k⊢;simp only[UInt8.lt_iff_toNat_lt]at*;by_cases q:a.toNat<b.toNat
    .by_cases r:b.toNat<d.toNat
     .omega
     .by_cases i:d.toNat<b.toNat
      iterate 2 omega
    .rw[Vp q]at h;by_cases e:b.toNat<a.toNat
     .omega
     .rw[Vp e]at h;by_cases r:b.toNat<d.toNat
      .omega
      .rw[Vp r]at k;by_cases i:d.toNat<b.toNat
       .omega
       .rw[Vp i]at k;rw[Vp (by omega),Vp (by omega)];exact f y z h k
theorem QoL:∀{x y:List UInt8},Lib.compareBytes x y=0->x=y
 |[],[],_=>rfl
 |[],_::_,h=>by simp[Lib.compareBytes]at h
 |_::_,[],h=>by simp[Lib.compareBytes]at h
 |a::x,b::y,h=>by
  unfold Lib.compareBytes at h;by_cases q:a<b
  .rw[Vq q]at h;omega
  .rw[Vp q]at h;by_cases q2:b<a
   .rw[Vq q2]at h;omega
   .rw[Vp q2]at h;have:a=b:=by
     rw[UInt8.lt_iff_toNat_lt]at q q2;exact UInt8.toNat_inj.1 (by omega)
    rw[this,QoL h]
theorem Qhz:∀{l m:List Int},(∀x∈l,0<=x/\x<256)->(∀x∈m,0<=x/\x<256)->l.map Yd=m.map Yd->l=m
 |[],[],_,_,_=>rfl
 |[],_::_,_,_,h=>by simp at h
 |_::_,[],_,_,h=>by simp at h
 |x::l,y::m,h1,h2,h=>by
  simp[Vg,List.cons.injEq]at h;have a1:=h1 x (by simp);have a2:=h2 y (by simp);have e:=congrArg UInt8.toNat h.1;unfold Yd at e;rw[UInt8.toNat_ofNat',UInt8.toNat_ofNat']at e;have:x=y:=by omega
  rw[this,Qhz (λz a=>h1 z (by simp[a])) (λz a=>h2 z (by simp[a])) h.2]
theorem Qgo(f g:Fact):cmpF f g=bif cmpI f.At g.At != 0 then cmpI f.At g.At else bif cmpI f.Crew g.Crew != 0 then cmpI f.Crew g.Crew else bif cmpI f.No g.No != 0 then cmpI f.No g.No else cmpB (encF f).1 (encF g).1:=by
 unfold cmpF orL orL orL orL;generalize cmpI f.At g.At=a;generalize cmpI f.Crew g.Crew=b;generalize cmpI f.No g.No=d;cases i:(a != 0)with
 |true=>simp[Vl,i]
 |false=>
  simp[Vm];cases e:(b != 0)with
  |true=>simp[Vl,e]
  |false=>
   simp[Vm];cases h:(d != 0)with
   |true=>simp[Vl,h]
   |false=>rfl
theorem Ql4:CmpOK cmpF:=by
 have h:=Qeo (cmpI_ok.on λf=>f.At) (Qeo (cmpI_ok.on λf=>f.Crew) (Qeo (cmpI_ok.on λf=>f.No) (cb_ok.on λf=>(encF f).1.map Yd)));have e:=by
  funext f g;exact Qgo f g
 rw[e];exact h
def wideE(e:Ent):Bool:=decide (-1125899906842624<=e.lo)&&decide (e.hi<=1125899906842624)
theorem QmU(f:Fact):(entsS f).all wideE=true:=by
 unfold entsS;rw[List.all_append,XU];refine⟨rfl,?_⟩;rcases kinds f with k|k|k|k|k|k|k|k|k|k|k|k|k|k
 case inr.inr.inr.inr.inr.inr.inr.inr.inr.inl=>
  unfold openU;rw[k];cases((f.Ruling.Kind==1)||(f.Ruling.Kind==2))with
  |true=>rfl
  |false=>
   cases(f.Ruling.Kind==3)with
   |true=>rfl
   |false=>cases(f.Ruling.Kind==4)<;>rfl
 case inr.inr.inr.inr.inr.inr.inr.inr.inr.inr.inr.inr.inr=>rw[k];rfl
 all_goals
  unfold openU;rw[k];rfl
theorem QcW{f:Fact}(h:validS f=true):∀x∈numsS f,in63 x:=by
 unfold validS at h;rw[Qh1]at h;by_cases q:openU f=.c13 ()
 .rw[q]at h;cases h
 .rw[<- (Qd9 f q).2];cases a:fineU f (openU f)with
  |false=>rw[a]at h;cases h
  |true=>
   rw[a]at h;cases b:(entsS f).all (inE f (suspB f))with
   |false=>rw[b]at h;cases h
   |true=>
    intro x j;obtain⟨e,d,rfl⟩:=Xf.1 j;have i:=Xs.1 b e d;have g:=Xs.1 (QmU f) e d;unfold inE at i;unfold wideE at g;simp[XU,Bool.not_eq_true',decide_eq_false_iff_not,Vn]at i g;unfold in63;omega
theorem Qec{f:Fact}(h:validS f=true):encF f=(listB (numsS f),0):=by
 unfold encF;rw[h,Qko h];rfl
theorem Qcs{f g:Fact}(a:validS f=true)(hg:validS g=true)(h:cmpF f g=0):f=g:=by
 rw[Qgo]at h;have z:cmpB (encF f).1 (encF g).1=0:=by
  cases j:(cmpI f.At g.At != 0)with
  |true=>rw[j]at h;exact absurd h (bne_iff_ne.1 j)
  |false=>
   rw[j]at h;cases d:(cmpI f.Crew g.Crew != 0)with
   |true=>rw[d]at h;exact absurd h (bne_iff_ne.1 d)
   |false=>
    rw[d]at h;cases i:(cmpI f.No g.No != 0)with
    |true=>rw[i]at h;exact absurd h (bne_iff_ne.1 i)
    |false=>rw[i]at h;exact h
 rw[Qec a,Qec hg]at z;have e:=Qhz (Qex _) (Qex _) (QoL z);exact QnS a hg (QmB (QcW a) (QcW hg) e)
set_option maxRecDepth 4000
theorem QaF{α:Type}{R:α->α->Prop}(d:∀x,¬R x x)(i:∀x y z,R x y->R y z->R x z):∀{l m:List α},l.Pairwise R->m.Pairwise R->(∀x,x∈l↔x∈m)->l=m
 |[],[],_,_,_=>rfl
 |[],b::m,_,_,h=>by have:=(h b).2 (by simp);cases this
 |a::l,[],_,_,h=>by have:=(h a).1 (by simp);cases this
 |a::l,b::m,hl,hm,h=>by
  rw[Xc]at hl hm;have e:a=b:=by
   rcases X4.1 ((h a).1 (by simp))with e|f
   .exact e
   .rcases X4.1 ((h b).2 (by simp))with e|j
    .exact e.symm
    .exact absurd (i _ _ _ (hl.1 b j) (hm.1 a f)) (d a)
  subst e;congr 1;refine QaF d i hl.2 hm.2 λx=>?_;constructor
  .intro g;rcases X4.1 ((h x).1 (X3 _ g))with e|f
   .subst e;exact absurd (hl.1 x g) (d x)
   .exact f
  .intro g;rcases X4.1 ((h x).2 (X3 _ g))with e|f
   .subst e;exact absurd (hm.1 x g) (d x)
   .exact f
def insC(x:Fact):List Fact->List Fact
 |[]=>[x]
 |y::r=>bif decide (cmpF y x<0)then y::insC x r else bif y==x then y::r else x::y::r
def canonS(l:List Fact):List Fact:=l.foldl (λa x=>bif validS x then insC x a else a) []
def ltF(a b:Fact):Prop:=cmpF a b<0
theorem Qby(x:Fact):¬ltF x x:=by unfold ltF;have:=Ql4.refl x;omega
theorem QcZ(x y z:Fact):ltF x y->ltF y z->ltF x z:=Ql4.trans x y z
theorem Qdt(x:Fact):∀(l:List Fact) (z:Fact),z∈insC x l↔z=x\/z∈l
 |[],z=>by simp[insC]
 |y::r,z=>by
  unfold insC;cases decide (cmpF y x<0)with
  |true=>
   simp[Vl,X4,Qdt x r z];constructor
   .rintro(h|h|h)<;>simp[h]
   .rintro(h|h|h)<;>simp[h]
  |false=>
   cases h:(y==x)with
   |true=>
    have:=by simpa using h
    subst this;simp
   |false=>simp
def CanonOK(l:List Fact):Prop:=l.Pairwise ltF/\ ∀f∈l,validS f=true
theorem QlN{x:Fact}(a:validS x=true):∀{l:List Fact},CanonOK l->CanonOK (insC x l)
 |[],_=>⟨by simp[insC],by simp[insC,a]⟩
 |y::r,h=>by
  obtain⟨h1,h2⟩:=h;rw[Xc]at h1;have hr:CanonOK r:=⟨h1.2,λf hf=>h2 f (by simp[hf])⟩;have ih:=QlN a hr;refine⟨?_,λf hf=>?_⟩
  .unfold insC;cases q:decide (cmpF y x<0)with
   |true=>
    simp[Vl,Xc];refine⟨λz hz=>?_,ih.1⟩;rcases(Qdt x r z).1 hz with rfl|hz
    .show cmpF y z<0;exact Vs q
    .exact h1.1 z hz
   |false=>
    simp[Vm];cases q2:(y==x)with
    |true=>simp[Vl,Xc];exact h1
    |false=>
     simp only[Vm,Xc];have lt:ltF x y:=by
      have d:=Vt q;have g:¬cmpF y x=0:=λe=>by
       have:=Qcs (h2 y (by simp)) a e;rw[this]at q2;simp at q2
      have:=Ql4.swap x y;unfold ltF;omega
     refine⟨λz hz=>?_,h1⟩;rcases X4.1 hz with rfl|hz
     .exact lt
     .exact QcZ _ _ _ lt (h1.1 z hz)
  .rcases(Qdt x (y::r) f).1 hf with rfl|hf
   .exact a
   .exact h2 f hf
theorem YY(l:List Fact):CanonOK (canonS l)/\ ∀f,f∈canonS l↔f∈l/\validS f=true:=by
 have g:∀(r a:List Fact),CanonOK a->CanonOK (r.foldl (λa x=>bif validS x then insC x a else a) a)/\ ∀f,f∈r.foldl (λa x=>bif validS x then insC x a else a) a↔f∈a\/(f∈r/\validS f=true):=by
  intro r
  induction r with
  |nil=>intro a h;exact⟨h,λf=>by simp⟩
  |cons x r i=>
   intro a h;rw[XC];cases q:validS x with
   |false=>
    obtain⟨e,d⟩:=i a h;refine⟨e,λf=>?_⟩;rw[Vm,d f,X4];constructor
    .rintro(a|⟨a,b⟩)
     .exact .inl a
     .exact .inr ⟨.inr a,b⟩
    .rintro(a|⟨rfl|a,b⟩)
     .exact .inl a
     .rw[q]at b;cases b
     .exact .inr ⟨a,b⟩
   |true=>
    obtain⟨e,d⟩:=i (insC x a) (QlN q h);refine⟨e,λf=>?_⟩;rw[Vl,d f,Qdt,X4];constructor
    .rintro((rfl|a)|⟨a,b⟩)
     .exact .inr ⟨.inl rfl,q⟩
     .exact .inl a
     .exact .inr ⟨.inr a,b⟩
    .rintro(a|⟨rfl|a,b⟩)
     .exact .inl (.inr a)
     .exact .inl (.inl rfl)
     .exact .inr ⟨a,b⟩
 obtain⟨e,d⟩:=g l [] ⟨by simp,by simp⟩;exact⟨e,λf=>by rw[canonS,d f];simp⟩
theorem Qgp{l m:List Fact}(h:∀f,validS f=true->(f∈l↔f∈m)):canonS l=canonS m:=by
 obtain⟨a,d⟩:=YY l;obtain⟨e,g⟩:=YY m;refine QaF Qby QcZ a.1 e.1 λf=>?_;rw[d f,g f];constructor
 .rintro⟨x,y⟩;exact⟨(h f y).1 x,y⟩
 .rintro⟨x,y⟩;exact⟨(h f y).2 x,y⟩
def FirstIs(c:Course)(l:List Fact)(f:Fact):Prop:=f∈l/\okS c f=true/\ ∀g∈l,okS c g=true->g.Starter.Bib=f.Starter.Bib->¬cmpF g f<0
theorem Qdv{c:Course}{l:List Fact}{j:Fact}(z:j∈l)(h0:okS c j=true):∃f,f∈l/\okS c f=true/\(f.Starter.Bib=j.Starter.Bib/\ ∀g∈l,okS c g=true->g.Starter.Bib=f.Starter.Bib->¬cmpF g f<0):=by
 have fin:∀(s:List Fact),(∃g∈s,okS c g=true/\g.Starter.Bib=j.Starter.Bib)->∃f∈s,okS c f=true/\f.Starter.Bib=j.Starter.Bib/\ ∀g∈s,okS c g=true->g.Starter.Bib=j.Starter.Bib->¬cmpF g f<0:=by
  intro s
  induction s with
  |nil=>rintro⟨g,e,_⟩;cases e
  |cons y s u=>
   intro q;by_cases m:okS c y=true/\y.Starter.Bib=j.Starter.Bib
   .by_cases x:∃g∈s,okS c g=true/\g.Starter.Bib=j.Starter.Bib
    .obtain⟨f,t,r,n,p⟩:=u x;by_cases w:cmpF y f<0
     .refine⟨y,by simp,m.1,m.2,?_⟩;intro g e h i;rcases X4.1 e with rfl|e
      .have:=Ql4.refl g;omega
      .intro k;exact p g e h i (Ql4.trans _ _ _ k w)
     .refine⟨f,by simp[t],r,n,?_⟩;intro g e h i;rcases X4.1 e with rfl|e
      .exact w
      .exact p g e h i
    .refine⟨y,by simp,m.1,m.2,?_⟩;intro g e h i;rcases X4.1 e with rfl|e
     .have:=Ql4.refl g;omega
     .exact absurd ⟨g,e,h,i⟩ x
   .have x:∃g∈s,okS c g=true/\g.Starter.Bib=j.Starter.Bib:=by
     obtain⟨g,e,h,i⟩:=q;rcases X4.1 e with rfl|e
     .exact absurd ⟨h,i⟩ m
     .exact⟨g,e,h,i⟩
    obtain⟨f,t,r,n,p⟩:=u x;refine⟨f,by simp[t],r,n,?_⟩;intro g e h i;rcases X4.1 e with rfl|e
    .exact absurd ⟨h,i⟩ m
    .exact p g e h i
 obtain⟨f,t,r,n,p⟩:=fin l ⟨j,z,h0,rfl⟩;exact⟨f,t,r,n,λg a b d=>p g a b (d.trans n)⟩
theorem JU{c:Course}{f:Fact}(h:okS c f=true):validS f=true:=by
 unfold okS at h;simp[XU]at h;exact h.2.1
theorem FirstIs.one{c:Course}{l:List Fact}{f g:Fact}(a:FirstIs c l f)(hg:FirstIs c l g)(e:f.Starter.Bib=g.Starter.Bib):f=g:=by
 have h:=a.2.2 g hg.1 hg.2.1 e.symm;have d:=hg.2.2 f a.1 a.2.1 e;have:=Ql4.swap f g;exact Qcs (JU a.2.1) (JU hg.2.1) (by omega)
theorem Qeb(c:Course)(l:List Fact):∀b f,YQ (firstS c l) b=some f↔f.Starter.Bib=b/\FirstIs c l f:=by
 have J:∀(r p:List Fact) (m:List (Int×Fact)),(∀b f,YQ m b=some f↔f.Starter.Bib=b/\FirstIs c p f)->∀b f,YQ (r.foldl (stepS c) m) b=some f↔f.Starter.Bib=b/\FirstIs c (p++r) f:=by
  intro r
  induction r with
  |nil=>intro p m h b f;rw[List.foldl_nil,Vd];exact h b f
  |cons x r V=>
   intro p m h;have Q:∀b f,YQ (stepS c m x) b=some f↔f.Starter.Bib=b/\FirstIs c (p++[x]) f:=by
    intro b f;unfold stepS;cases q:okS c x with
    |false=>
     simp only[Vm];rw[h b f];unfold FirstIs;simp only[VA,Vy];constructor
     .rintro⟨a,n,s,t⟩;refine⟨a,.inl n,s,?_⟩;rintro g (d|rfl) i j
      .exact t g d i j
      .rw[q]at i;cases i
     .rintro⟨a,n|n,s,t⟩
      .exact⟨a,n,s,λg d i j=>t g (.inl d) i j⟩
      .subst n;rw[q]at s;cases s
    |true=>
     simp only[Vl];have E:Qbb m x.Starter.Bib=(YQ m x.Starter.Bib).isSome:=Qjh m _;cases e:YQ m x.Starter.Bib with
     |none=>
      rw[e]at E;have B:Qbb m x.Starter.Bib=false:=by simpa using E
      rw[B];simp only[Xi,Bool.true_or,Vl];rw[Qcp];have N:∀g∈p,okS c g=true->g.Starter.Bib=x.Starter.Bib->False:=by
       intro g d i j;have:∃f,FirstIs c p f/\f.Starter.Bib=x.Starter.Bib:=by
        obtain⟨f,L,H,P⟩:=Qdv d i;exact⟨f,⟨L,H,P.2⟩,P.1.trans j⟩
       obtain⟨f,L,H⟩:=this;have:=(h x.Starter.Bib f).2 ⟨H,L⟩;rw[e]at this;cases this
      by_cases w:b=x.Starter.Bib
      .subst w;rw[Vq rfl];constructor
       .rintro⟨⟩;refine⟨rfl,by simp,q,?_⟩;intro g d G M;rcases VA.1 d with d|d
        .exact(N g d G M).elim
        .rw[Vy]at d;subst d;have:=Ql4.refl g;omega
       .rintro⟨i,j,F,O⟩;rcases VA.1 j with d|d
        .exact(N f d F i).elim
        .rw[Vy]at d;rw[d]
      .rw[Vp w,h b f];unfold FirstIs;simp only[VA,Vy];constructor
       .rintro⟨a,n,s,t⟩;refine⟨a,.inl n,s,?_⟩;rintro g (d|rfl) i j
        .exact t g d i j
        .exact absurd (a.symm.trans j.symm) w
       .rintro⟨a,n|n,s,t⟩
        .exact⟨a,n,s,λg d i j=>t g (.inl d) i j⟩
        .subst n;exact absurd a.symm w
     |some y=>
      rw[e]at E;have B:Qbb m x.Starter.Bib=true:=by simpa using E
      have u:=(h x.Starter.Bib y).1 e;have R:Qz m x.Starter.Bib Uk=y:=by unfold Qz;rw[e];rfl
      rw[B,R];simp only[Xh,Bool.false_or];cases lt:decide (cmpF x y<0)with
      |true=>
       have lt':=Vs lt;simp only[Vl];rw[Qcp];by_cases w:b=x.Starter.Bib
       .subst w;rw[Vq rfl];constructor
        .rintro⟨⟩;refine⟨rfl,by simp,q,?_⟩;intro g d G M;rcases VA.1 d with d|d
         .intro k;exact u.2.2.2 g d G (M.trans u.1.symm) (Ql4.trans _ _ _ k lt')
         .rw[Vy]at d;subst d;have:=Ql4.refl g;omega
        .rintro⟨i,j,F,O⟩;rcases VA.1 j with d|d
         .exfalso;have k:=u.2.2.2 f d F (i.trans u.1.symm);have X:=O x (by simp) q i.symm;have W:=Ql4.swap x f;have Y:=Ql4.swap y f;have T:cmpF f x<=0:=by omega
          rcases Int.lt_or_eq_of_le T with z|z
          .exact k (Ql4.trans _ _ _ z lt')
          .have:=Ql4.eqt f x y z;omega
         .rw[Vy]at d;rw[d]
       .rw[Vp w,h b f];unfold FirstIs;simp only[VA,Vy];constructor
        .rintro⟨a,n,s,t⟩;refine⟨a,.inl n,s,?_⟩;rintro g (d|rfl) i j
         .exact t g d i j
         .exact absurd (a.symm.trans j.symm) w
        .rintro⟨a,n|n,s,t⟩
         .exact⟨a,n,s,λg d i j=>t g (.inl d) i j⟩
         .subst n;exact absurd a.symm w
      |false=>
       have lt':=Vt lt;simp only[Vm];rw[h b f];unfold FirstIs;simp only[VA,Vy];constructor
       .rintro⟨a,n,s,t⟩;refine⟨a,.inl n,s,?_⟩;rintro g (d|rfl) i j
        .exact t g d i j
        .have:f=y:=FirstIs.one ⟨n,s,t⟩ u.2 (j.symm.trans u.1.symm);rw[this];exact lt'
       .rintro⟨a,n|n,s,t⟩
        .exact⟨a,n,s,λg d i j=>t g (.inl d) i j⟩
        .subst n;have k:=t y (.inl u.2.1) u.2.2.1 u.1;have W:=Ql4.swap f y;have:f=y:=Qcs (JU s) (JU u.2.2.1) (by omega);subst this;exact⟨a,u.2⟩
   have:=V (p++[x]) _ Q;rw[XC];intro b f;rw[this b f,Vf];rfl
 have:=J l [] [] (λb f=>by
  constructor
  .intro h;cases h
  .rintro⟨_,h,_⟩;cases h)
 intro b f;have:=this b f;rw[Ve]at this;exact this
theorem QnY{m:List (Int×Fact)}{f:Fact}(h:∀b f,YQ m b=some f->f.Starter.Bib=b):f∈ordF m↔YQ m f.Starter.Bib=some f:=by
 unfold ordF;rw[Xf];constructor
 .rintro⟨k,e,rfl⟩;obtain⟨v,a⟩:=(Qdp m k).1 ((Qt ltI _).mem_iff.1 e);have:Qz m k Uk=v:=by unfold Qz;rw[a];rfl
  rw[this,h k v a];exact a
 .intro d;refine⟨f.Starter.Bib,(Qt ltI _).mem_iff.2 ((Qdp m _).2 ⟨f,d⟩),?_⟩;unfold Qz;rw[d];rfl
def ltS(f g:Fact):Prop:=f.Starter.Bib<g.Starter.Bib
theorem Qjc{m:List (Int×Fact)}(p:(m.map Prod.fst).Nodup)(h:∀b f,YQ m b=some f->f.Starter.Bib=b):(ordF m).Pairwise ltS:=by
 unfold ordF;rw[List.pairwise_map];have l:=Q6 (Qe7 (m.map Prod.fst));have j:=Qt ltI (m.map Prod.fst);have e:=j.symm.nodup p;have d:∀k∈Jf ltI (m.map Prod.fst),(Qz m k Uk).Starter.Bib=k:=by
  intro k d;obtain⟨v,i⟩:=(Qdp m k).1 (j.mem_iff.1 d);have:Qz m k Uk=v:=by unfold Qz;rw[i];rfl
  rw[this];exact h k v i
 generalize Jf ltI (m.map Prod.fst)=ks at*;have g:ks.Pairwise λa b=>a<b:=by
  refine List.Pairwise.imp₂ ?_ l e;intro a b n q;simp[ltI]at n;omega
 refine List.Pairwise.imp_of_mem (λ{a b} ha hb hab=>?_) g;show(Qz m a Uk).Starter.Bib<(Qz m b Uk).Starter.Bib;rw[d a ha,d b hb];exact hab
theorem Qhl(c:Course)(l:List Fact)(f:Fact):f∈ordF (firstS c l)↔FirstIs c l f:=by
 rw[QnY λb f h=>((Qeb c l b f).1 h).1,Qeb];exact⟨λh=>h.2,λh=>⟨rfl,h⟩⟩
theorem Qib(c:Course)(l:List Fact):(ordF (firstS c l)).Pairwise ltS:=Qjc (Qbn c l).nodup λb f h=>((Qeb c l b f).1 h).1
theorem QdR{c:Course}{l m:List Fact}(h:∀f,validS f=true->(f∈l↔f∈m)){f:Fact}:FirstIs c l f↔FirstIs c m f:=by
 constructor
 .rintro⟨a,b,d⟩;exact⟨(h f (JU b)).1 a,b,λg j e i=>d g ((h g (JU e)).2 j) e i⟩
 .rintro⟨a,b,d⟩;exact⟨(h f (JU b)).2 a,b,λg j e i=>d g ((h g (JU e)).1 j) e i⟩
set_option maxRecDepth 4000
def nb(v lo hi:Int):Bool:= !(decide (v<lo))&& !(decide (hi<v))
theorem J3(v lo hi:Int):nb v lo hi=true↔lo<=v/\v<=hi:=by
 unfold nb;simp only[XU,Bool.not_eq_true',decide_eq_false_iff_not];omega
def contR(f:Fact):Bool:=
 bif f.Kind==1 then true&&(nb f.Starter.Bib 1 9999&&(nb f.Starter.Distance 0 7&&(nb f.Starter.Wave 0 31&&(nb f.Starter.Slot (-1099511627776) 1099511627776&&(nb f.Starter.Age 0 120&&(nb f.Starter.Chip 0 1048576&&(nb f.Starter.Team 0 9999&&(nb f.Starter.Lot 0 1048576&&true))))))))
 else bif f.Kind==2 then true&&(nb f.Read.Mat 0 39&&(nb f.Read.Epoch 0 255&&(nb f.Read.Chip 0 1048576&&(nb f.Read.Local (-1099511627776) 1099511627776&&true))))
 else bif f.Kind==3 then true&&(nb f.Beacon.Mat 0 39&&(nb f.Beacon.Epoch 0 255&&(nb f.Beacon.Local (-1099511627776) 1099511627776&&(nb f.Beacon.True (-1099511627776) 1099511627776&&(nb f.Beacon.Err 0 1099511627776&&true)))))
 else bif f.Kind==4 then decide (f.Sync.Min<=f.Sync.Max)&&(nb f.Sync.MatA 0 39&&(nb f.Sync.EpochA 0 255&&(nb f.Sync.LocalA (-1099511627776) 1099511627776&&(nb f.Sync.MatB 0 39&&(nb f.Sync.EpochB 0 255&&(nb f.Sync.LocalB (-1099511627776) 1099511627776&&(nb f.Sync.Min (-1099511627776) 1099511627776&&(nb f.Sync.Max (-1099511627776) 1099511627776&&true))))))))
 else bif f.Kind==5 then decide (f.Hand.Lo<=f.Hand.Hi)&&(nb f.Hand.Bib 1 9999&&(nb f.Hand.Position 0 255&&(nb f.Hand.Lo (-1099511627776) 1099511627776&&(nb f.Hand.Hi (-1099511627776) 1099511627776&&true))))
 else bif f.Kind==6 then decide (f.Silence.Lo<=f.Silence.Hi)&&(nb f.Silence.Mat 0 39&&(nb f.Silence.Epoch 0 255&&(nb f.Silence.Lo (-1099511627776) 1099511627776&&(nb f.Silence.Hi (-1099511627776) 1099511627776&&true))))
 else bif f.Kind==7 then decide (f.Pair.A<f.Pair.B)&&(nb f.Pair.A 1 9999&&(nb f.Pair.B 1 9999&&true))
 else bif f.Kind==8 then true&&(nb f.Report.Case 1 1048576&&(nb f.Report.Bib 1 9999&&(nb f.Report.Offence 0 31&&(nb f.Report.Position 0 255&&true))))
 else bif f.Kind==9 then true&&(nb f.Protest.Case 1 1048576&&(nb f.Protest.By 0 9999&&(nb f.Protest.Fee 0 1125899906842624&&(nb f.Protest.Form 0 1&&true))))
 else bif f.Kind==10 then true&&(nb f.Ruling.Case 1 1048576&&(nb f.Ruling.Instance 1 2&&(nb f.Ruling.Kind 1 5&&(bif (f.Ruling.Kind==1)||(f.Ruling.Kind==2)then nb f.Ruling.Bib 0 0&&(nb f.Ruling.Position 0 0&&(nb f.Ruling.Amount 0 0&&true))else bif f.Ruling.Kind==3 then nb f.Ruling.Bib 1 9999&&(nb f.Ruling.Position 0 255&&(nb f.Ruling.Amount 1 1099511627776&&true))else bif f.Ruling.Kind==4 then nb f.Ruling.Bib 1 9999&&(nb f.Ruling.Position 0 255&&(nb f.Ruling.Amount 1 64&&true))else nb f.Ruling.Bib 1 9999&&(nb f.Ruling.Position 0 255&&(nb f.Ruling.Amount 0 0&&true))))))
 else bif f.Kind==11 then true&&(nb f.Appeal.Case 1 1048576&&(nb (suspB f) 0 1&&true))
 else bif f.Kind==12 then true&&true
 else bif f.Kind==13 then true&&(nb f.Void.Crew 0 31&&(nb f.Void.No 1 1048576&&true))
 else false
theorem Qh5(f:Fact):(f.Kind=1\/f.Kind=2\/f.Kind=3\/f.Kind=4\/f.Kind=5\/f.Kind=6\/f.Kind=7\/f.Kind=8\/f.Kind=9\/f.Kind=10\/f.Kind=11\/f.Kind=12\/f.Kind=13)\/((f.Kind==1)=false/\(f.Kind==2)=false/\(f.Kind==3)=false/\(f.Kind==4)=false/\(f.Kind==5)=false/\(f.Kind==6)=false/\(f.Kind==7)=false/\(f.Kind==8)=false/\(f.Kind==9)=false/\(f.Kind==10)=false/\(f.Kind==11)=false/\(f.Kind==12)=false/\(f.Kind==13)=false):=by
 by_cases h:1<=f.Kind/\f.Kind<=13
 .omega
 .simp[Vw];omega
theorem QjX(f:Fact):contS f=contR f:=by
 rcases Qh5 f with k|⟨u,q,x,y,s,r,z,t,w,l,i,h,j⟩
 .rcases k with k|k|k|k|k|k|k|k|k|k|k|k|k
  case inr.inr.inr.inr.inr.inr.inr.inr.inr.inl=>
   obtain⟨Cr,No,At,Ki,S,R,B,Sy,Ha,Si,Pa,Re,Pr,⟨p,n,a,e,d,g⟩,Ap,Vo⟩:=f;simp only at k;subst k;have m:openU ⟨Cr,No,At,10,S,R,B,Sy,Ha,Si,Pa,Re,Pr,⟨p,n,a,e,d,g⟩,Ap,Vo⟩=(bif (a==1)||(a==2)then U_facts_open_rxk.c9 (0,0,0,0,0,0)else bif a==3 then .c9 (1,9999,0,255,1,1099511627776)else bif a==4 then .c9 (1,9999,0,255,1,64)else .c9 (1,9999,0,255,0,0)):=rfl;have E:contR ⟨Cr,No,At,10,S,R,B,Sy,Ha,Si,Pa,Re,Pr,⟨p,n,a,e,d,g⟩,Ap,Vo⟩=(true&&(nb p 1 1048576&&(nb n 1 2&&(nb a 1 5&&(bif (a==1)||(a==2)then nb e 0 0&&(nb d 0 0&&(nb g 0 0&&true))else bif a==3 then nb e 1 9999&&(nb d 0 255&&(nb g 1 1099511627776&&true))else bif a==4 then nb e 1 9999&&(nb d 0 255&&(nb g 1 64&&true))else nb e 1 9999&&(nb d 0 255&&(nb g 0 0&&true))))))):=rfl;rw[E];unfold contS;rw[m];cases((a==1)||(a==2))with
   |true=>rfl
   |false=>
    cases(a==3)with
    |true=>rfl
    |false=>cases(a==4)<;>rfl
  all_goals
   obtain⟨Cr,No,At,Ki,S,R,B,Sy,Ha,Si,Pa,Re,Pr,Ru,Ap,Vo⟩:=f;simp only at k;subst k;rfl
 .have m:openU f=.c13 ():=by unfold openU;rw[u,q,x,y,s,r,z,t,w,l,i,h,j];rfl
  unfold contS contR;rw[m,u,q,x,y,s,r,z,t,w,l,i,h,j];rfl
theorem Jk(n:Nat)(v a b:Int):F_b n v a b=some (nb v a b):=by
 unfold F_b nb;have d:decide (a<=v)= !decide (v<a):=by rw[XW];simp
 have e:decide (v<=b)= !decide (b<v):=by rw[XW];simp
 rw[d,e];cases decide (v<a)<;>rfl
theorem QgP(a:Bool)(b:Option Bool)(c:Bool)(h:b=some c):(bif a then b else some false)=some (a&&c):=by
 subst h;cases a<;>rfl
theorem Qb1(n:Nat)(v:Int):F_f n v=some (nb v 1 9999):=by unfold F_f;rw[Jk];rfl
theorem QhY(n:Nat)(v:Int):F_u n v=some (nb v 0 39):=by unfold F_u;rw[Jk];rfl
theorem Qdk(n:Nat)(v:Int):F_v n v=some (nb v 0 255):=by unfold F_v;rw[Jk];rfl
theorem Qck(n:Nat)(v:Int):F_bj n v=some (nb v 0 1048576):=by unfold F_bj;rw[Jk];rfl
theorem JT(n:Nat)(v:Int):F_s n v=some (nb v 0 255):=by unfold F_s;rw[Jk];rfl
theorem Qe4(n:Nat)(v:Int):F_am n v=some (nb v 1 1048576):=by unfold F_am;rw[Jk];rfl
theorem Qg6(n:Nat)(v:Int):F_au n v=some (nb v 1 1048576):=by unfold F_au;rw[Jk];rfl
theorem QlE(n:Nat)(v:Int):F_ak n v=some (nb v 0 31):=by unfold F_ak;rw[Jk];rfl
theorem Qcj(n:Nat)(v:Int):F_d n v=some (nb v (-1099511627776) 1099511627776):=by unfold F_d;rw[Jk];rfl
theorem QkB(n:Nat)(f:Fact):F_ce n f=some (contR f):=by
 unfold F_ce contR;cases(f.Kind==1)with
 |true=>
  unfold F_hk;simp only[Qb1,Qcj,Qck,Jk,XH,Vl,QgP _ _ _ rfl,Option.some.injEq,Vx,Bool.and_true]
 |false=>
 cases(f.Kind==2)with
 |true=>simp only[QhY,Qdk,Qcj,Qck,Jk,XH,Vl,Vm,QgP _ _ _ rfl,Option.some.injEq,Vx,Bool.and_true]
 |false=>
 cases(f.Kind==3)with
 |true=>simp only[QhY,Qdk,Qcj,Qck,Jk,XH,Vl,Vm,QgP _ _ _ rfl,Option.some.injEq,Vx,Bool.and_true]
 |false=>
 cases(f.Kind==4)with
 |true=>
  unfold F_he;simp only[QhY,Qdk,Qcj,Qck,Jk,XH,Vl,Vm,QgP _ _ _ rfl,Option.some.injEq,Vx,Bool.and_true];rw[XW];simp only[XU,J3,Vn];omega
 |false=>
 cases(f.Kind==5)with
 |true=>
  simp only[Qb1,JT,Qcj,Qck,Jk,XH,Vl,Vm,QgP _ _ _ rfl,Option.some.injEq,Vx,Bool.and_true];rw[XW];simp only[XU,J3,Vn];omega
 |false=>
 cases(f.Kind==6)with
 |true=>
  simp only[QhY,Qdk,Qcj,Qck,Jk,XH,Vl,Vm,QgP _ _ _ rfl,Option.some.injEq,Vx,Bool.and_true];rw[XW];simp only[XU,J3,Vn];omega
 |false=>
 cases(f.Kind==7)with
 |true=>
  simp only[Qb1,Jk,XH,Vl,Vm,QgP _ _ _ rfl,Option.some.injEq,Vx,Bool.and_true];rw[XW];simp only[XU,J3,Vn];omega
 |false=>
 cases(f.Kind==8)with
 |true=>simp only[Qb1,Qe4,JT,Jk,XH,Vl,Vm,QgP _ _ _ rfl,Option.some.injEq,Vx,Bool.and_true]
 |false=>
 cases(f.Kind==9)with
 |true=>simp only[Qb1,Qe4,JT,Jk,XH,Vl,Vm,QgP _ _ _ rfl,Option.some.injEq,Vx,Bool.and_true]
 |false=>
 cases(f.Kind==10)with
 |true=>
  unfold F_eo;simp only[Qe4,Jk,XH,Vl,Vm,Vx];have a:∀v:Int,(v==0)=nb v 0 0:=by intro v;rw[XW,J3,Vv];omega
  cases nb f.Ruling.Case 1 1048576 with
  |false=>rfl
  |true=>
   cases nb f.Ruling.Instance 1 2 with
   |false=>rfl
   |true=>
    simp only[Xh,Vm,XH,Vx];by_cases h:f.Ruling.Kind=1
    .rw[h];simp only[a];cases nb f.Ruling.Bib 0 0 with
     |false=>rfl
     |true=>cases nb f.Ruling.Position 0 0 with
      |false=>rfl
      |true=>cases nb f.Ruling.Amount 0 0<;>rfl
    by_cases d:f.Ruling.Kind=2
    .rw[d];simp only[a];cases nb f.Ruling.Bib 0 0 with
     |false=>rfl
     |true=>cases nb f.Ruling.Position 0 0 with
      |false=>rfl
      |true=>cases nb f.Ruling.Amount 0 0<;>rfl
    by_cases i:f.Ruling.Kind=3
    .rw[i];simp only[a,Qb1,JT,Jk,XH];cases nb f.Ruling.Bib 1 9999 with
     |false=>rfl
     |true=>cases nb f.Ruling.Position 0 255 with
      |false=>rfl
      |true=>cases nb f.Ruling.Amount 1 1099511627776<;>rfl
    by_cases j:f.Ruling.Kind=4
    .rw[j];simp only[a,Qb1,JT,Jk,XH];cases nb f.Ruling.Bib 1 9999 with
     |false=>rfl
     |true=>cases nb f.Ruling.Position 0 255 with
      |false=>rfl
      |true=>cases nb f.Ruling.Amount 1 64<;>rfl
    by_cases g:f.Ruling.Kind=5
    .rw[g];simp only[a,Qb1,JT,Jk,XH];cases nb f.Ruling.Bib 1 9999 with
     |false=>rfl
     |true=>cases nb f.Ruling.Position 0 255 with
      |false=>rfl
      |true=>cases nb f.Ruling.Amount 0 0<;>rfl
    have e:nb f.Ruling.Kind 1 5=false:=by
     rw[VJ,ne_eq,J3];omega
    rw[e,Vw.2 h,Vw.2 d,Vw.2 i,Vw.2 j,Vw.2 g];rfl
 |false=>
 cases(f.Kind==11)with
 |true=>
  have e:nb (suspB f) 0 1=true:=by unfold suspB;cases f.Appeal.Suspends<;>rfl
  simp only[Qe4,XH,Vl,Vm,e,Vx,Bool.and_true]
 |false=>
 cases(f.Kind==12)with
 |true=>rfl
 |false=>
 cases(f.Kind==13)with
 |true=>simp only[QlE,Qg6,Jk,XH,Vl,Vm,QgP _ _ _ rfl,Option.some.injEq,Vx,Bool.and_true]
 |false=>rfl
theorem Qpt(n:Nat)(f:Fact):F_dg n f=some (onlyS f):=by
 rcases Qh5 f with k|⟨r,q,h,i,j,g,m,l,s,d,a,p,e⟩
 .rcases k with k|k|k|k|k|k|k|k|k|k|k|k|k
  all_goals
   obtain⟨Cr,No,At,Ki,S,R,B,Sy,Ha,Si,Pa,Re,Pr,Ru,Ap,Vo⟩:=f;subst k;rfl
 .unfold F_dg onlyS;rw[r,q,h,i,j,g,m,l,s,d,a,e];rfl
theorem Qlb{f:Fact}(h:contR f=true):nb f.Kind 1 13=true:=by
 rw[J3];rcases Qh5 f with k|⟨r,q,j,l,m,i,p,n,s,e,a,d,g⟩
 .omega
 .unfold contR at h;rw[r,q,j,l,m,i,p,n,s,e,a,d,g]at h;cases h
theorem Qjo(f:Fact):headS f=(nb f.Kind 1 13&&(nb f.Crew 0 31&&(nb f.No 1 1048576&&(nb f.At 0 1099511627776&&true)))):=rfl
theorem Qi8(n:Nat)(f:Fact):F_bp n f=some (bif validS f then 0 else 120):=by
 unfold F_bp;rw[QlE,Qg6,Jk,QkB,Qpt,Qch,QjX,Qjo];simp[XH];have a:= @Qlb f;have e:(f != onlyS f)= !(onlyS f==f):=by
  rw[bne,Bool.beq_comm]
 rw[e];cases d:contR f with
 |false=>
  rw[Bool.and_false,Bool.false_and];cases nb f.Crew 0 31 with
  |false=>rfl
  |true=>cases nb f.No 1 1048576 with
   |false=>rfl
   |true=>cases nb f.At 0 1099511627776<;>rfl
 |true=>
  rw[a d];cases nb f.Crew 0 31 with
  |false=>rfl
  |true=>cases nb f.No 1 1048576 with
   |false=>rfl
   |true=>cases nb f.At 0 1099511627776 with
    |false=>rfl
    |true=>cases(onlyS f==f)<;>rfl
theorem Qpu(n:Nat)(f:Fact):F_dv n f=some (numsS f):=by
 unfold F_dv numsS;cases(f.Kind==1)with
 |true=>rfl
 |false=>
 cases(f.Kind==2)with
 |true=>rfl
 |false=>
 cases(f.Kind==3)with
 |true=>rfl
 |false=>
 cases(f.Kind==4)with
 |true=>rfl
 |false=>
 cases(f.Kind==5)with
 |true=>rfl
 |false=>
 cases(f.Kind==6)with
 |true=>rfl
 |false=>
 cases(f.Kind==7)with
 |true=>rfl
 |false=>
 cases(f.Kind==8)with
 |true=>rfl
 |false=>
 cases(f.Kind==9)with
 |true=>rfl
 |false=>
 cases(f.Kind==10)with
 |true=>rfl
 |false=>
 cases(f.Kind==11)with
 |true=>
  unfold suspB;cases f.Appeal.Suspends<;>rfl
 |false=>
 cases(f.Kind==13)with
 |true=>rfl
 |false=>rfl
theorem QkU(l:List Int)(hl:l.length<=1000):Ev (λn=>F_fs n l) (l.map mkV):=by
 refine Ea ?_ (Qa _);have e:∀(m:List Int) (a:List Value),m.foldl (λa x=>a++[mkV x]) a=a++m.map mkV:=by
  intro m
  induction m with
  |nil=>simp
  |cons x m h=>intro a;simp only[XC];rw[h];simp
 refine Er (QI l (λa x=>a++[mkV x]) [] (λa i=>(a,(i:Int))) (λa=>a) (by omega) rfl (λi x a d f=>?_) ?_) (by rw[e];rfl)
 .unfold F_lp F_gb;simp only[d.lt,d.ix,XH,d.nx];have g:a.length<=1000:=by rw[f,e,Ve,XZ,Xw];omega
  rw[Jl _ _ (by omega)];exact Qa _
 .unfold F_lp;simp[Yu];exact Qa _
theorem Qi6(n:Nat)(x:Int)(h:in63 x):F_cs n x=some (zigI x):=by
 obtain⟨d,a⟩:=h;unfold F_cs;simp only[Qbw];by_cases p:0<=x
 .rw[Q7 p,Qe0 p a];simp[Vl,Option.some.injEq];omega
 .rw[Q5 p,Qe1 (by omega) d,QZ (show-9223372036854775808<=x+1 by omega) (by omega),QZ (show-9223372036854775808<=0-(x+1)by omega) (by omega)];simp[Vm,Option.some.injEq];omega
theorem QgL:∀(k v:Nat),v<128^(k+1)->k<=9->v<18446744073709551616->Ev (λn=>F_j n (v:Int)) (numN v):=by
 intro k
 induction k with
 |zero=>
  intro v a _ _;refine QK ?_;show Ev (λn=>B_j (F_j n) n v) _;unfold B_j;rw[Q7 (show(v:Int)<128 by omega),JO (by omega)];exact Qa _
 |succ k i=>
  intro v a j h;refine QK ?_;show Ev (λn=>B_j (F_j n) n v) _;unfold B_j;by_cases q:v<128
  .rw[Q7 (show(v:Int)<128 by omega),JO (by omega)];exact Qa _
  .rw[Q5 (show¬(v:Int)<128 by omega)];have d:v/128<128^(k+1):=by rw[Nat.div_lt_iff_lt_mul (by decide)];exact a
   have g:u64.wrap (Int.tdiv v 128)=v/128:=by
    rw[Qbw,Int.tdiv_eq_ediv_of_nonneg (by omega)];omega
   have f:u8.wrap (u64.wrap ((Int.tmod v 128)+128))=v%128+128:=by
    rw[QhM,Qbw,Int.tmod_eq_emod_of_nonneg (by omega)];omega
   rw[g,f,Qcn v,Vq (show 128<=v by omega)];refine Ea (i (v/128) d (by omega) (by omega)) ?_;have e:=Qjg k (v/128) d;rw[Qcu _ _ (by simp;omega)];exact Qa _
theorem Qhs(v:Nat)(h:v<18446744073709551616):Ev (λn=>F_j n (v:Int)) (numN v):=QgL 9 v (Vc h (by decide)) (XR _) h
theorem QkX(x:Int)(h:in63 x):Ev (λn=>F_n n (mkV x)) (oneB x):=by
 refine QK ?_;show Ev (λn=>B_n (F_n n) n (mkV x)) _;unfold B_n;have e:((mkV x).Kind==1)=true:=rfl;obtain⟨z,d,a⟩:=Qfk x;refine Ea (Ez (Qi6 0 x h)) ?_;rw[d];refine Ea (Qhs z a) ?_;have:=Qbx a;rw[Qcu _ _ (by simp;omega)];refine(Qa _).eq ?_;unfold oneB;rw[d];simp
theorem QkW(l:List Int)(hl:l.length<=1000)(h:∀x∈l,in63 x):Ev (λn=>F_n n (listV l)) (listB l):=by
 refine QK ?_;show Ev (λn=>B_n (F_n n) n (listV l)) _;unfold B_n;have e:((listV l).Kind==1)=false:=rfl;have u:((listV l).Kind==2)=false:=rfl;have B:(listV l).L=l.map mkV:=rfl;rw[e,u,B];have s:u64.wrap (((l.map mkV).length:Int))=((l.length:Nat):Int):=by
  rw[Qbw,XZ];omega
 rw[s];refine Ea (Qhs l.length (by omega)) ?_;have w:=Qbx (show l.length<18446744073709551616 by omega);rw[Qcu _ _ (by simp;omega)];refine Ea (Qa _) ?_;refine Ea ?_ (Qa _);have f:∀(m:List Int) (a:List Int),((m.map mkV).foldl (λa (v:Value)=>a++oneB v.N) a).length<=a.length+11*m.length:=by
  intro m
  induction m with
  |nil=>intro a;simp
  |cons x m q=>
   intro a;simp only[Vg,XC,XY];have r:=q (a++oneB (mkV x).N);have j:=QfE (mkV x).N;rw[X0]at r;omega
 have k:=QI (step:=λn=>F_iw n (listV l) (F_n n)) (l.map mkV) (λa (v:Value)=>a++oneB v.N) ([3]++numN l.length) (λa i=>(a,(i:Int))) (λa=>a) (by rw[XZ];omega) rfl (λi x a g z=>?_) ?_
 .refine Er k ?_;have:∀(m:List Int) (a:List Int),(m.map mkV).foldl (λa (v:Value)=>a++oneB v.N) a=a++(m.map oneB).flatten:=by
   intro m
   induction m with
   |nil=>intro a;simp
   |cons x m q=>intro a;simp only[Vg,XC];rw[q];simp[mkV]
  rw[this];rfl
 .obtain⟨y,t,rfl⟩:=Xf.1 g.mem;have hal:=by
   have j:=f (l.take i) ([3]++numN l.length);rw[List.map_take, <- z,X0,Xw]at j;simp at j;omega
  unfold F_iw;have d:decide ((i:Int)<((listV l).L.length:Int))=true:=g.lt;have p:idx (listV l).L (i:Int)=some (mkV y):=g.ix;simp only[d,Vl,p,XH,g.nx];refine Ea (QkX y (h y t)) ?_;have j:=QfE y;have:app a (oneB y)=some (a++oneB y):=by
   unfold app;have:Nat.ble (a.length+(oneB y).length) QD=true:=XQ (XT (show _<=1000000 by omega) (by decide));rw[this];rfl
  rw[this];exact Qa _
 .unfold F_iw;have d:decide (((l.map mkV).length:Int)<((listV l).L.length:Int))=false:=Yu _;simp only[d];exact Qa _
theorem QgM(x:Int):Ev (λn=>F_ad n (mkV x)) true:=by
 refine QK ?_;exact Qa _
theorem Qii(l:List Int)(hl:l.length<=1000):Ev (λn=>F_ad n (listV l)) true:=by
 refine QK ?_;show Ev (λn=>B_ad (F_ad n) n (listV l)) _;unfold B_ad;have j:((listV l).Kind==1)=false:=rfl;have h:((listV l).Kind==2)=false:=rfl;have k:((listV l).Kind==3)=true:=rfl;refine Ea (v:=Ctl.cont ()) (Eu (λi=>(i:Int)) (l.map mkV).length rfl (λi g=>?_) ?_) (Qa _)
 .have d:=JG (show(l.map mkV).length<=4611686018427387904 by rw[XZ];omega) (XI g);obtain⟨y,f⟩:∃y,(l.map mkV)[i]=mkV y:=by rw[List.getElem_map];exact⟨_,rfl⟩
  unfold F_lj;have a:decide (i<((listV l).L.length:Int))=true:=d.lt;have e:idx (listV l).L i=some (l.map mkV)[i]:=d.ix;simp only[a,e,XH,d.nx];rw[f];exact Ea (QgM y) (Qa _)
 .unfold F_lj;have a:decide ((l.map mkV).length<((listV l).L.length:Int))=false:=Yu _;simp only[a];exact Qa _
theorem Qil(x:Int):Ev (λn=>F_af n (mkV x)) 0:=by
 refine QK ?_;exact Qa _
theorem Qik(l:List Int)(hl:l.length<=1000):Ev (λn=>F_af n (listV l)) 1:=by
 refine QK ?_;show Ev (λn=>B_af (F_af n) n (listV l)) _;unfold B_af;have h:((listV l).Kind != 3)=false:=rfl;refine Ea (v:=0) (Eu (λi=>(0,(i:Int))) (l.map mkV).length rfl (λi g=>?_) ?_) (Qa _)
 .have d:=JG (show(l.map mkV).length<=4611686018427387904 by rw[XZ];omega) (XI g);obtain⟨y,f⟩:∃y,(l.map mkV)[i]=mkV y:=by rw[List.getElem_map];exact⟨_,rfl⟩
  unfold F_ln;have a:decide ((i:Int)<(listV l).L.length)=true:=d.lt;have e:idx (listV l).L i=some (l.map mkV)[i]:=d.ix;simp only[a,e,XH,d.nx];rw[f];exact Ea (Qil y) (Qa _)
 .unfold F_ln;have a:decide ((l.map mkV).length<((listV l).L.length:Int))=false:=Yu _;simp only[a];exact Qa _
theorem QnR(f:Fact):(numsS f).length<=12:=by
 unfold numsS;cases(f.Kind==1)with
 |true=>exact XP rfl
 |false=>
 cases(f.Kind==2)with
 |true=>exact XP rfl
 |false=>
 cases(f.Kind==3)with
 |true=>exact XP rfl
 |false=>
 cases(f.Kind==4)with
 |true=>exact XP rfl
 |false=>
 cases(f.Kind==5)with
 |true=>exact XP rfl
 |false=>
 cases(f.Kind==6)with
 |true=>exact XP rfl
 |false=>
 cases(f.Kind==7)with
 |true=>exact XP rfl
 |false=>
 cases(f.Kind==8)with
 |true=>exact XP rfl
 |false=>
 cases(f.Kind==9)with
 |true=>exact XP rfl
 |false=>
 cases(f.Kind==10)with
 |true=>exact XP rfl
 |false=>
 cases(f.Kind==11)with
 |true=>exact XP rfl
 |false=>cases(f.Kind==13)<;>exact XP rfl
theorem QdA(f:Fact):Ev (λn=>F_bz n f) (encF f):=by
 refine Ea (Yl (Qa _) λn=>Qi8 n f) ?_;cases a:validS f with
 |false=>
  unfold encF;rw[a];exact Qa _
 |true=>
  rw[Qec a];refine Ea (Yl (Qa _) λn=>Qpu n f) ?_;have d:=QnR f;refine Ea (QkU _ (by omega)) (Ea (v:=(listB (numsS f),0)) ?_ (Qa _));exact Ea (Ea (Qii _ (by omega)) (Ea (Qik _ (by omega)) (Qa _))) (Ea (QkW _ (by omega) (QcW a)) (Qa _))
theorem QlL:∀a b:List UInt8,Op.bytesLess a b=decide (Lib.compareBytes a b<0)
 |[],[]=>rfl
 |[],_::_=>rfl
 |_::_,[]=>rfl
 |a::x,b::y=>by
  unfold Op.bytesLess Lib.compareBytes;by_cases h:a<b
  .rw[Vq h,Q7 h];rfl
  .rw[Vp h,Q5 h];by_cases h2:b<a
   .rw[Vq h2];have:(a==b)=false:=by
     rw[Vw];rintro rfl;exact h h2
    rw[this];rfl
   .rw[Vp h2];have:a=b:=by
     rw[UInt8.lt_iff_toNat_lt]at h h2;exact UInt8.toNat_inj.1 (by omega)
    rw[this,beq_self_eq_true,QlL x y];rfl
theorem Qj0:∀a b:List UInt8,Lib.compareBytes a b= -1\/Lib.compareBytes a b=0\/Lib.compareBytes a b=1
 |[],[]=>.inr (.inl rfl)
 |[],_::_=>.inl rfl
 |_::_,[]=>.inr (.inr rfl)
 |a::x,b::y=>by
  unfold Lib.compareBytes;split
  .exact .inl rfl
  .split
   .exact .inr (.inr rfl)
   .exact Qj0 x y
theorem QcK(f g:Fact):Ev (λn=>F_cw n f g) (cmpF f g):=by
 refine QK (QK (QK (QK ?_)));unfold F_cw;rw[Qgo];have j:∀n,F_gv n f g 0=(bif decide (f.At<g.At)then some (.done (.done (-1)))else bif decide (g.At<f.At)then some (.done (.done 1))else some (.cont 1)):=λn=>rfl;have i:∀n,F_gv n f g 1=(bif decide (f.Crew<g.Crew)then some (.done (.done (-1)))else bif decide (g.Crew<f.Crew)then some (.done (.done 1))else some (.cont 2)):=λn=>rfl;have a:∀n,F_gv n f g 2=(bif decide (f.No<g.No)then some (.done (.done (-1)))else bif decide (g.No<f.No)then some (.done (.done 1))else some (.cont 3)):=λn=>rfl;have d:∀n,F_gv n f g 3=some (.done (.cont ())):=λn=>rfl;simp[iter,j];unfold cmpI;cases decide (f.At<g.At)with
 |true=>exact Qa _
 |false=>
 cases decide (g.At<f.At)with
 |true=>exact Qa _
 |false=>
 simp[Vm,i];cases decide (f.Crew<g.Crew)with
 |true=>exact Qa _
 |false=>
 cases decide (g.Crew<f.Crew)with
 |true=>exact Qa _
 |false=>
 simp[Vm,a];cases decide (f.No<g.No)with
 |true=>exact Qa _
 |false=>
 cases decide (g.No<f.No)with
 |true=>exact Qa _
 |false=>
 simp[Vm,d,XH];refine Ea (Ev.shift (Ev.shift (Ev.shift (Ev.shift (QdA f))))) (Ea (Ev.shift (Ev.shift (Ev.shift (Ev.shift (QdA g))))) ?_);unfold cmpB;rw[QlL];rcases Qj0 ((encF f).1.map Yd) ((encF g).1.map Yd)with h|h|h
 .rw[h];exact Qa _
 .have e:=QoL h;rw[h,e,beq_self_eq_true];exact Qa _
 .have:((encF f).1.map Yd==(encF g).1.map Yd)=false:=by
   rw[Vw];intro e;rw[e,cb_ok.refl]at h;cases h
  rw[h,this];exact Qa _
def leadC(x:Fact):List Fact->Nat
 |[]=>0
 |y::r=>bif decide (cmpF y x<0)then leadC x r+1 else 0
theorem Qjl(x:Fact):∀l:List Fact,leadC x l<=l.length
 |[]=>XR _
 |y::r=>by
  unfold leadC;have:=Qjl x r;cases decide (cmpF y x<0)<;>simp<;>omega
theorem Qhg(x:Fact):∀l:List Fact,insC x l=if l[leadC x l]?=some x then l else l.take (leadC x l)++x::l.drop (leadC x l)
 |[]=>by simp[insC]
 |y::r=>by
  unfold insC leadC;cases decide (cmpF y x<0)with
  |true=>
   simp only[Vl];rw[Qhg x r];simp[XE,List.drop_succ_cons];split<;>simp
  |false=>
   by_cases e:y=x
   .simp
   .rw[Vw.2 e];simp[e]
theorem QpO(l:List Fact)(hl:l.length<=1048576)(a:List Fact)(p:a.length<=1048576){i:Nat}{x:Fact}(g:At l i x):
  Ev (λn=>iter (F_dd n l (a,(i:Int))) n 0) ((leadC x a:Nat):Int):=by
 have loop:∀(r:List Fact) (j:Nat),a.drop j=r->j<=a.length->EvI (λn=>F_dd n l (a,i)) j (j+leadC x r):=by
  intro r
  induction r with
  |nil=>
   intro j e h;refine Eh ?_;unfold F_dd;simp only[QX e h,Vm];exact Qa _
  |cons y r k=>
   intro j e h;obtain⟨d,f⟩:=Qx (by omega) e;have m:=d.lt';unfold leadC;cases q:decide (cmpF y x<0)with
   |true=>
    refine Et ?_ ((k (j+1) f (by omega)).eq (by simp[Vl];omega));unfold F_dd;simp only[d.lt,d.ix,g.ix,XH,d.nx];refine Ea (Ea (QcK y x) ((Qa _).eq q)) (Qa _)
   |false=>
    refine Eh ?_;unfold F_dd;simp only[d.lt,d.ix,g.ix,XH];refine Ea (Ea (QcK y x) ((Qa _).eq q)) (Qa _)
 have:=(loop a 0 rfl (XS _)).ev;simpa using this
theorem QfO(x:Fact):∀l:List Fact,(insC x l).length<=l.length+1
 |[]=>by simp[insC]
 |y::r=>by
  unfold insC;have:=QfO x r;cases decide (cmpF y x<0)with
  |true=>simp[Vl,XY];omega
  |false=>cases(y==x)<;>simp
theorem Qct{α:Type}(l m:List α)(h:l.length+m.length<=4000000):app l m=some (l++m):=by
 unfold app;have:Nat.ble (l.length+m.length) QD=true:=XQ (XT h (by decide));rw[this];rfl
theorem Qa1(l:List Fact)(hl:l.length<=1048575):Ev (λn=>F_as n l) (canonS l):=by
 refine Ea (v:=canonS l) ?_ (Qa _);refine QI l (λa x=>bif validS x then insC x a else a) [] (λa i=>(a,(i:Int))) (λa=>a) (by omega) rfl (λi x a d h=>?_) ?_
 .have g:a.length<=i:=by
   have:∀(m:List Fact) (a:List Fact),(m.foldl (λa x=>bif validS x then insC x a else a) a).length<=a.length+m.length:=by
    intro m
    induction m with
    |nil=>intro a;simp
    |cons x m j=>
     intro a;rw[XC,XY];have r:=j (bif validS x then insC x a else a);have f:(bif validS x then insC x a else a).length<=a.length+1:=by
      cases validS x with
      |true=>exact QfO x a
      |false=>simp
     omega
   have f:=this (l.take i) [];rw[<- h,Xw]at f;simp at f;omega
  have k:=d.lt';unfold F_ky;simp only[d.lt,Vl,d.ix,XH,d.nx,Qi8];refine Ea ?_ (Qa _);cases p:validS x with
  |false=>exact Qa _
  |true=>
   refine Ea (QpO l (by omega) a (by omega) d) ?_;have e:=Qjl x a;refine Ea (v:=decide (a[leadC x a]?=some x)) ?_ ?_
   .by_cases q:leadC x a<a.length
    .have hg:=XI q;rw[Q7 (show((leadC x a:Nat):Int)<(a.length:Int)by omega),YZ hg,hg];refine(Qa _).eq ?_;rw[XW];simp
    .rw[Q5 (show¬((leadC x a:Nat):Int)<(a.length:Int)by omega)];refine(Qa _).eq ?_;rw[XM (by omega)];simp
   .rw[Qhg x a];by_cases q:a[leadC x a]?=some x
    .rw[Q7 q,Vq q];exact Qa _
    .rw[Q5 q,Vp q];rw[Qkt a e,Qdc a e];simp only[XH];rw[Qct [] _ (by simp;omega)];simp only[XH];rw[Qct _ [x] (by simp;omega)];simp only[XH];rw[Qct _ _ (by simp;omega)];refine(Qa _).eq ?_;simp
 .unfold F_ky;simp only[Yu,Vm];exact Qa _
theorem Qk3(c:Course)(w:CourseOk c)(q:PartsOk c)(k:FewL c):Ev (λn=>F_br n c) (fitsG c):=by
 unfold F_br fitsG;refine Ea (Ep λ_=>Ep λ_=>Ep λ_=>Ep λ_=>Ep λ_=>Ep λ_=>Qa _) ?_;cases(decide (40<(c.Mats.length:Int))||(decide (512<(c.Legs.length:Int))||(decide (8<(c.Distances.length:Int))||(decide (32<(c.Waves.length:Int))||(decide (32<(c.Offences.length:Int))||(decide (32<(c.Categories.length:Int))||decide (32<(c.Prizes.length:Int))))))))with
 |true=>exact Qa _
 |false=>
  refine Ye (Ea (YG c.Distances (λd=> !(decide (64<(d.Cutoffs.length:Int))||decide (16<hPs d.Route))) (Ctl.done false) (Ctl.cont ()) (by have:=w.dist;omega) (λi x f=>?_) ?_) ?_)
  .obtain⟨j,h⟩:=k.dist x f.mem;have a:=q.len x f.mem;have g:=q.wf x f.mem;unfold F_ff;simp only[f.lt,f.ix,XH,f.nx];refine Ea (Ep λ_=>Ea (QeE _ x.Route 17 (XR _) (XR _) a g) (Ep λ_=>Ea (QeF _ x.Route (XR _) a g) (Qa _))) ?_;have e:decide (16<((min (hPs x.Route) 17:Nat):Int))=decide (16<hPs x.Route):=by
    rw[decide_eq_decide];omega
   simp only[Q5 (show¬256<((min (szPs x.Route) 257:Nat):Int)by omega),Bool.or_false,e];cases(decide (64<(x.Cutoffs.length:Int))||decide (16<hPs x.Route))<;>exact Qa _
  .unfold F_ff;simp[Yu];exact Qa _
  .cases c.Distances.all (λd=> !(decide (64<(d.Cutoffs.length:Int))||decide (16<hPs d.Route)))<;>exact Qa _
theorem QjW(c:Course)(w:CourseOk c)(q:PartsOk c)(k:FewL c)(hl:c.Ties.length<=1048576)(j:∀x∈c.Ties,Step.wf x):∃e,Ev (λn=>F_an n c) e/\Ev (λn=>F_al n c) e:=by
 by_cases g:∀d∈c.Distances,hPs d.Route<=16
 .have h:FewOk c:=⟨k.lens,k.name,λd a=>⟨by have:=(k.dist d a).1;omega,by have:=(k.dist d a).2;omega,g d a⟩,k.ties⟩;exact⟨_,QmT c w q h hl j,Qim c w q h hl j⟩
 .have i:fitsG c=false:=by
   unfold fitsG;rw[Bool.and_eq_false_iff];right;rw[List.all_eq_false];obtain⟨d,a⟩:=Classical.not_forall.1 g;have f:d∈c.Distances/\ ¬hPs d.Route<=16:=by
    refine Classical.byContradiction λz=>a λl=>Classical.byContradiction λy=>z ⟨l,y⟩
   refine⟨d,f.1,?_⟩;have:decide (16<hPs d.Route)=true:=Vr (by omega);rw[this];simp
  refine⟨2,?_,?_⟩
  .refine Ea (Qot c w q k) ?_;rw[i];exact Qa _
  .refine Ea (Qk3 c w q k) ?_;rw[i];exact Qa _
theorem Ev.same{α:Type}[DecidableEq α](l m:List α)(step:Nat->Int->Option (Ctl Int (Ctl Unit Bool)))(hl:l.length<=4611686018427387904)
  (k:∀n s,step n s=(bif decide (s<(l.length:Int))then(idx l s).bind λx=>(idx m s).bind λy=>(bif (x != y)then some (.done (.done false))else some (.cont (i64.wrap (s+1))))else some (.done (.cont ())))):
  Ev (λn=>(bif ((l.length:Int) != (m.length:Int))then some false else(Go.Sw.iter (step n) n 0:Option (Ctl Unit Bool)).bind λb11=>match b11 with|.cont sb11=>(some true)|.done sb11=>some sb11)) (decide (l=m)):=by
 by_cases d:l.length=m.length
 .rw[show(l.length != (m.length:Int))=false by rw[d];simp];have loop:∀(r f:List α) (i:Nat),l.drop i=r->m.drop i=f->i<=l.length->EvI step i (bif decide (r=f)then Ctl.cont ()else Ctl.done false):=by
   intro r
   induction r with
   |nil=>
    intro f i j a t;have h1:=Xq.1 j;have:f=[]:=by rw[<- a];exact Xq.2 (by omega)
    subst this;refine Eh (Yl (Qa _) λn=>?_);rw[k,QX j t];simp
   |cons x r u=>
    intro f i j a t;obtain⟨g,p⟩:=Qx hl j;have w:=g.lt';cases f with
    |nil=>
     have h1:=Xq.1 a;omega
    |cons y f=>
     obtain⟨q,h⟩:=Qx (by omega) a;by_cases e:x=y
     .subst e;refine Et ?_ ((u f (i+1) p h (by omega)).eq ?_)
      .refine Yl (Qa _) λn=>?_;rw[k,g.lt,g.ix,q.ix,Vl,XH,XH,g.nx];simp
      .simp
     .refine Eh (Yl (Qa _) λn=>?_);rw[k,g.lt,g.ix,q.ix,Vl,XH,XH,bne_iff_ne.2 e];simp[e]
  refine Ea (loop l m 0 rfl rfl (XS _)).ev ?_;cases decide (l=m)<;>exact Qa _
 .rw[show(l.length != (m.length:Int))=true by rw[bne_iff_ne];omega];refine(Qa _).eq ?_;rw[Q5 λe=>d (by rw[e])]
def ofBib(b:Int)(s:Starter):Bool:=s.Bib==b
def fndR(x:List Starter)(b:Int)(i:Nat):Ctl Unit Int:=match(x.drop i).findIdx? (ofBib b)with
 |some j=>.done ((i+j:Nat):Int)
 |none=>.cont ()
def fndI(x:List Starter)(b:Int):Int:=match x.findIdx? (ofBib b)with
 |some j=>(j:Int)
 |none=> -1
theorem Qog{x:List Starter}{b:Int}{i:Nat}{s:Starter}(h:At x i s)(e:ofBib b s=true):fndR x b i=.done (i:Int):=by
 unfold fndR;rw[h.drop,List.findIdx?_cons,e];simp
theorem QpD{x:List Starter}{b:Int}{i:Nat}{s:Starter}(h:At x i s)(e:ofBib b s=false):fndR x b i=fndR x b (i+1):=by
 unfold fndR;rw[h.drop,List.findIdx?_cons,e];cases(x.drop (i+1)).findIdx? (ofBib b)with
 |none=>rfl
 |some j=>simp;omega
theorem Qoh(x:List Starter)(b:Int):fndR x b x.length=.cont ():=by
 unfold fndR;simp
theorem QmI(x:List Starter)(b:Int):fndR x b 0=match x.findIdx? (ofBib b)with
 |some j=>.done (j:Int)
 |none=>.cont ():=by
 unfold fndR;simp
def fstS(x:List Starter)(b:Int):Option Starter:=x.find? (ofBib b)
theorem Qhj(x:List Starter)(b:Int):(fndI x b= -1/\fstS x b=none)\/ ∃(j:Nat) (s:Starter),fndI x b=(j:Int)/\fstS x b=some s/\x[j]?=some s:=by
 unfold fndI fstS
 induction x with
 |nil=>exact .inl ⟨rfl,rfl⟩
 |cons s x k=>
  rw[List.findIdx?_cons,List.find?_cons];cases e:ofBib b s with
  |true=>exact .inr ⟨0,s,rfl,rfl,rfl⟩
  |false=>
   rcases k with⟨a,f⟩|⟨j,g,a,f,i⟩
   .left;cases q:x.findIdx? (ofBib b)with
    |none=>exact⟨rfl,f⟩
    |some j=>rw[q]at a;exact absurd a (by show(j:Int)≠ -1;omega)
   .right;cases q:x.findIdx? (ofBib b)with
    |none=>rw[q]at a;exact absurd a (by show(-1:Int)≠j;omega)
    |some d=>
     rw[q]at a;have:d=j:=by have h:(d:Int)=j:=a;omega
     subst this;exact⟨d+1,g,rfl,f,by simpa using i⟩
theorem Qkm{c:Course}(h:Course.wf c):CourseOk c:=by
 obtain⟨i,⟨r,p⟩,⟨m,s⟩,⟨f,d⟩,⟨g,j⟩,⟨k,e⟩,⟨l,n⟩,⟨q,t⟩,_⟩:=h;exact⟨i,r,λx a=>(p x a).1,m,f,λx a=>(d x a).1,λx a=>(d x a).2.2.2.1.1,g,λx a=>(j x a).1,k,λx a=>(e x a).1,l,λx a=>(n x a).1,q⟩
theorem Qlm{c:Course}(h:Course.wf c):PartsOk c:=by
 obtain⟨_,_,_,⟨f,e⟩,_⟩:=h;exact⟨λd a=>(e d a).2.1.1,λd a=>(e d a).2.1.2⟩
theorem Qpo{c:Course}(h:Course.wf c):c.Ties.length<=1048576/\ ∀x∈c.Ties,Step.wf x:=by
 obtain⟨_,_,_,_,_,_,_,_,a,_⟩:=h;exact a
theorem Qfq(e:Int)(c:Course)(l:List Fact):(startF e c l).1.length<=l.length:=by
 unfold startF;cases(e != 0)with
 |true=>exact XS _
 |false=>
  simp[Vm];cases decide (((ordF (firstS c l)).map chipK).Nodup)with
  |false=>exact XS _
  |true=>simp only[Vl];rw[XZ,Qdl];exact(Qbn c l).len
def leadS(b:Int):List Starter->Nat
 |[]=>0
 |y::r=>bif decide (y.Bib<b)then leadS b r+1 else 0
theorem Qjk(b:Int):∀l:List Starter,leadS b l<=l.length
 |[]=>XR _
 |y::r=>by
  unfold leadS;have:=Qjk b r;cases decide (y.Bib<b)<;>simp<;>omega
def putS(s:Starter)(l:List Starter):List Starter:=l.take (leadS s.Bib l)++s::l.drop (leadS s.Bib l)
def refOk(c:Course)(f:Fact):Bool:=(f.Kind==1)&&(!decide ((c.Distances.length:Int)<=f.Starter.Distance)&& !decide ((c.Waves.length:Int)<=f.Starter.Wave))
def refStep(c:Course)(out:List Starter)(f:Fact):List Starter:=bif refOk c f&& !(out.any (ofBib f.Starter.Bib))then putS f.Starter out else out
theorem QnL(s:Starter)(l:List Starter):(putS s l).length=l.length+1:=by
 unfold putS;simp;omega
theorem Qi7(c:Course)(a:List Starter)(f:Fact):(refStep c a f).length<=a.length+1:=by
 unfold refStep;cases refOk c f&& !(a.any (ofBib f.Starter.Bib))with
 |true=>simp[Vl];rw[QnL];omega
 |false=>simp
theorem Qoe(c:Course):∀(m:List Fact) (a:List Starter),(m.foldl (refStep c) a).length<=a.length+m.length:=by
 intro m
 induction m with
 |nil=>simp
 |cons x m d=>
  intro a;rw[XC,XY];have f:=d (refStep c a x);have e:=Qi7 c a x;omega
theorem QeD(x:List Starter)(b:Int)(d:x.length<=1048576):Ev (λn=>F_bx n x b) (fndI x b):=by
 refine Ea (Qax x (λi=>(i:Int)) (fndR x b) (by omega) rfl (λi s a=>?_) ?_) ?_
 .cases e:ofBib b s with
  |true=>
   refine .inr ?_;rw[Qog a e];unfold F_jg;simp only[a.lt,a.ix,XH];unfold ofBib at e;rw[e];exact Qa _
  |false=>
   refine .inl ⟨?_,QpD a e⟩;unfold F_jg;simp only[a.lt,a.ix,XH];unfold ofBib at e;rw[e,a.nx];exact Qa _
 .unfold F_jg;rw[Qoh];simp[Yu];exact Qa _
 .rw[QmI];unfold fndI;cases x.findIdx? (ofBib b)with
  |none=>exact Qa _
  |some j=>exact Qa _
theorem QpC(x:List Starter)(b:Int):decide (0<=fndI x b)=x.any (ofBib b):=by
 rw[XW,Vn,Xt];rcases Qhj x b with⟨e,a⟩|⟨j,s,e,a,f⟩
 .constructor
  .omega
  .rintro⟨s,d,h⟩;unfold fstS at a;rw[List.find?_eq_none]at a;exact absurd h (a s d)
 .constructor
  .intro _;exact⟨s,List.mem_of_find?_eq_some a,List.find?_some a⟩
  .omega
theorem Qos(a:List Starter)(m:a.length<=1048576)(f:Fact)(i:Int):Ev (λn=>iter (F_cm n (a,i) f) n 0) ((leadS f.Starter.Bib a:Nat):Int):=by
 have loop:∀(r:List Starter) (j:Nat),a.drop j=r->j<=a.length->EvI (λn=>F_cm n (a,i) f) j (j+leadS f.Starter.Bib r):=by
  intro r
  induction r with
  |nil=>
   intro j e h;refine Eh ?_;unfold F_cm;simp only[QX e h,Vm];exact Qa _
  |cons y r k=>
   intro j e h;obtain⟨d,g⟩:=Qx (by omega) e;have l:=d.lt';unfold leadS;cases q:decide (y.Bib<f.Starter.Bib)with
   |true=>
    refine Et ?_ ((k (j+1) g (by omega)).eq (by simp[Vl];omega));unfold F_cm;simp only[d.lt,d.ix,XH,d.nx,q];exact Qa _
   |false=>
    refine Eh ?_;unfold F_cm;simp[d.lt,d.ix,XH,q];exact Qa _
 have:=(loop a 0 rfl (XS _)).ev;simpa using this
theorem QkV(c:Course)(L:List Fact)(k:L.length<=1048576):Ev (λn=>iter (F_iq n c L) n (([]:List Starter),0)) (L.foldl (refStep c) []):=by
 refine QI L (refStep c) [] (λa i=>(a,(i:Int))) (λa=>a) (by omega) rfl (λi f a e h=>?_) ?_
 .have hal:=by
   have g:=Qoe c (L.take i) [];rw[<- h,Xw]at g;simp at g;omega
  have j:=e.lt';unfold F_iq;simp only[e.lt,e.ix,XH,e.nx];refine Ea (Ea (v:= !(refOk c f&& !(a.any (ofBib f.Starter.Bib)))) ?_ ?_) (Qa _)
  .unfold refOk bne;cases(f.Kind==1)with
   |false=>exact Qa _
   |true=>
    cases decide (c.Distances.length<=f.Starter.Distance)with
    |true=>exact Qa _
    |false=>
     cases decide (c.Waves.length<=f.Starter.Wave)with
     |true=>exact Qa _
     |false=>
      refine Ye (Ye (Ea (QeD a _ (by omega)) ?_));rw[QpC];refine(Qa _).eq ?_;simp
  .unfold refStep;cases refOk c f&& !(a.any (ofBib f.Starter.Bib))with
   |false=>exact Qa _
   |true=>
    refine Ea (Qos a (by omega) f _) ?_;have d:=Qjk f.Starter.Bib a;rw[Qkt a d,Qdc a d];simp[XH];rw[Qct [] _ (by simp;omega)];simp[XH];rw[Qct _ [f.Starter] (by simp;omega)];simp[XH];rw[Qct _ _ (by simp;omega)];refine(Qa _).eq ?_;unfold putS;simp
 .unfold F_iq;simp[Yu];exact Qa _
def ltB(s t:Starter):Prop:=s.Bib<t.Bib
theorem Qi9(s:Starter)(l:List Starter)(t:Starter):t∈putS s l↔t=s\/t∈l:=by
 unfold putS;rw[VA,X4]
 conv=>rhs;rw[<- Xx (leadS s.Bib l) l,VA]
 constructor
 .rintro(h|h|h)
  .exact .inr (.inl h)
  .exact .inl h
  .exact .inr (.inr h)
 .rintro(h|h|h)
  .exact .inr (.inl h)
  .exact .inl h
  .exact .inr (.inr h)
theorem Qeu(s:Starter):∀(l:List Starter),l.Pairwise ltB->(∀t∈l,t.Bib≠s.Bib)->(putS s l).Pairwise ltB
 |[],_,_=>by simp[putS]
 |y::r,h,hn=>by
  rw[Xc]at h;unfold putS leadS;cases q:decide (y.Bib<s.Bib)with
  |true=>
   have ih:=Qeu s r h.2 λt ht=>hn t (by simp[ht]);simp only[Vl,List.take_succ_cons,VH,Xc];refine⟨λt ht=>?_,ih⟩;rcases(Qi9 s r t).1 ht with rfl|ht
   .show y.Bib<t.Bib;exact Vs q
   .exact h.1 t ht
  |false=>
   have q':=Vt q;have hy:=hn y (by simp);simp only[Vm,List.take_zero,List.drop_zero,Ve,Xc];refine⟨λt ht=>?_,h⟩;have h0:ltB s y:=by unfold ltB;omega
   rcases X4.1 ht with rfl|ht
   .exact h0
   .have:=h.1 t ht;unfold ltB at*;omega
theorem QlI{c:Course}{f:Fact}(a:validS f=true):okS c f=refOk c f:=by
 unfold okS refOk;rw[a,Vx]
theorem QkA(c:Course)(L:List Fact)(h:CanonOK L):(L.foldl (refStep c) []).Pairwise ltB/\ ∀s,s∈L.foldl (refStep c) []↔ ∃f,FirstIs c L f/\f.Starter=s:=by
 have F:∀(r p:List Fact) (a:List Starter),p++r=L->a.Pairwise ltB->(∀s,s∈a↔ ∃f,FirstIs c p f/\f.Starter=s)->(r.foldl (refStep c) a).Pairwise ltB/\ ∀s,s∈r.foldl (refStep c) a↔ ∃f,FirstIs c L f/\f.Starter=s:=by
  intro r
  induction r with
  |nil=>intro p a y B x;rw[Vd]at y;subst y;exact⟨B,x⟩
  |cons f r P=>
   intro p a y B x;have O:f∈L:=by rw[<- y];simp
   have H:=h.2 f O;have N:∀g∈p,cmpF g f<0:=by
    intro g d;have:=h.1;rw[<- y,List.pairwise_append]at this;exact this.2.2 g d f (by simp)
   have keep:∀g,FirstIs c p g->FirstIs c (p++[f]) g:=by
    rintro g ⟨i,j,G⟩;refine⟨by simp[i],j,?_⟩;intro k m n w;rcases VA.1 m with m|m
    .exact G k m n w
    .rw[Vy]at m;subst m;have:=N g i;have:=Ql4.swap g k;omega
   have u:∀g,FirstIs c (p++[f]) g->g∈p->FirstIs c p g:=by
    rintro g ⟨i,j,G⟩ d;exact⟨d,j,λk m n w=>G k (by simp[m]) n w⟩
   refine P (p++[f]) (refStep c a f) (by rw[<- y];simp) ?_ ?_
   .unfold refStep;cases q:refOk c f&& !(a.any (ofBib f.Starter.Bib))with
    |false=>exact B
    |true=>
     rw[XU,Bool.not_eq_true',List.any_eq_false]at q;exact Qeu _ _ B λt E e=>(q.2 t E (by unfold ofBib;rw[e];simp))
   .intro s;unfold refStep;cases q:refOk c f&& !(a.any (ofBib f.Starter.Bib))with
    |false=>
     simp only[Vm];rw[x s];constructor
     .rintro⟨g,i,j⟩;exact⟨g,keep g i,j⟩
     .rintro⟨g,i,j⟩;rcases VA.1 i.1 with d|d
      .exact⟨g,u g i d,j⟩
      .rw[Vy]at d;subst d;exfalso;have J:=i.2.1;rw[QlI H]at J;rw[J,Vx,Bool.not_eq_false',Xt]at q;obtain⟨t,E,z⟩:=q;obtain⟨k,n,w⟩:=(x t).1 E;have m:k.Starter.Bib=g.Starter.Bib:=by
        rw[w];unfold ofBib at z;simpa using z
       exact i.2.2 k (by simp[n.1]) n.2.1 m (N k n.1)
    |true=>
     rw[XU,Bool.not_eq_true',List.any_eq_false]at q;simp only[Vl];rw[Qi9,x s];constructor
     .rintro(rfl|⟨g,i,j⟩)
      .refine⟨f,⟨by simp,by rw[QlI H];exact q.1,?_⟩,rfl⟩;intro g d i j;rcases VA.1 d with d|d
       .exfalso;obtain⟨k,n,w,M⟩:=Qdv (c:=c) (l:=p) d i;refine q.2 k.Starter ((x _).2 ⟨k,⟨n,w,M.2⟩,rfl⟩) ?_;unfold ofBib;rw[M.1,j];simp
       .rw[Vy]at d;subst d;have:=Ql4.refl g;omega
      .exact⟨g,keep g i,j⟩
     .rintro⟨g,i,j⟩;rcases VA.1 i.1 with d|d
      .exact .inr ⟨g,u g i d,j⟩
      .rw[Vy]at d;subst d;exact .inl j.symm
 exact F L [] [] rfl (by simp) (λs=>by
  constructor
  .intro h;cases h
  .rintro⟨f,⟨h,_⟩,_⟩;cases h)
theorem QhX(c:Course)(l:List Fact):(canonS l).foldl (refStep c) []=(ordF (firstS c l)).map (·.Starter):=by
 obtain⟨m,j⟩:=YY l;obtain⟨i,n⟩:=QkA c (canonS l) m;refine QaF (λx h=>by unfold ltB at h;omega) (λx y z a b=>by unfold ltB at*;omega) i ?_ λs=>?_
 .rw[List.pairwise_map];exact Qib c l
 .rw[n s,Xf];have g:∀f,validS f=true->(f∈canonS l↔f∈l):=λf k=>by rw[j f];simp[k]
  constructor
  .rintro⟨f,e,d⟩;exact⟨f,(Qhl c l f).2 ((QdR g).1 e),d⟩
  .rintro⟨f,e,d⟩;exact⟨f,(QdR g).2 ((Qhl c l f).1 e),d⟩
theorem Y2(l:List Fact):(canonS l).length<=l.length:=by
 have:∀(m a:List Fact),(m.foldl (λa x=>bif validS x then insC x a else a) a).length<=a.length+m.length:=by
  intro m
  induction m with
  |nil=>simp
  |cons x m d=>
   intro a;rw[XC,XY];have f:=d (bif validS x then insC x a else a);have e:(bif validS x then insC x a else a).length<=a.length+1:=by
    cases validS x with
    |true=>exact QfO x a
    |false=>simp
   omega
 have:=this l [];simpa[canonS]using this
theorem Qip(L:List Starter)(m:L.length<=1048576):Ev (λn=>iter (F_ci n L) n 0) (bif decide ((L.map (·.Chip)).Nodup)then Ctl.cont ()else Ctl.done ([],180)):=by
 have h:=Qlv (step:=λn=>F_ci n L) L (λ_=>true) (λs=>s.Chip) (Ctl.done ([],180)) (Ctl.cont ()) (by omega) (λi x a _ hk=>?_) (λi x a h=>by cases h) (λi x a _ hk=>?_) ?_
 .refine Er h ?_;rw[Xs.2 (λ_ _=>rfl),Vx]
 .have l:=a.lt';unfold F_ci;simp only[a.lt,a.nx];have k:=QdS (step:=λn=>F_bc n L i) L i (λs=>s.Chip) x.Chip (Ctl.done (Ctl.done (Ctl.done ([],180)))) (Ctl.cont ()) (by omega) (by omega) (λj y g d f=>?_) (λj y g d f=>?_) ?_
  .rw[hk]at k;exact Ea k (Qa _)
  .unfold F_bc;have e:(x.Chip==y.Chip)=false:=by rw[Vw];exact λe=>Vt f e.symm
   simp only[Q7 (show j<(i:Int)by omega),a.ix,d.ix,XH,e,d.nx];exact Qa _
  .unfold F_bc;have e:(x.Chip==y.Chip)=true:=by rw[Vv];exact(Vs f).symm
   simp only[Q7 (show(j:Int)<i by omega),a.ix,d.ix,XH,e];exact Qa _
  .unfold F_bc;simp only[Q5 (show¬i<(i:Int)by omega)];exact Qa _
 .have l:=a.lt';unfold F_ci;simp only[a.lt,a.nx];have k:=QdS (step:=λn=>F_bc n L (i:Int)) L i (λs=>s.Chip) x.Chip (Ctl.done (Ctl.done (Ctl.done ([],180)))) (Ctl.cont ()) (by omega) (by omega) (λj y g d f=>?_) (λj y g d f=>?_) ?_
  .rw[hk]at k;exact Ea k (Qa _)
  .unfold F_bc;have e:(x.Chip==y.Chip)=false:=by rw[Vw];exact λe=>Vt f e.symm
   simp only[Q7 (show j<(i:Int)by omega),a.ix,d.ix,XH,e,d.nx];exact Qa _
  .unfold F_bc;have e:(x.Chip==y.Chip)=true:=by rw[Vv];exact(Vs f).symm
   simp only[Q7 (show(j:Int)<i by omega),a.ix,d.ix,XH,e];exact Qa _
  .unfold F_bc;simp only[Q5 (show¬(i:Int)<i by omega)];exact Qa _
 .unfold F_ci;simp only[Yu];exact Qa _
theorem Qga(e:Int)(c:Course)(l:List Fact)(hl:l.length<=16)(he:Ev (λn=>F_al n c) e):Ev (λn=>F_ds n c l) (startF e c l):=by
 unfold F_ds startF;refine Ea he ?_;cases(e != 0)with
 |true=>exact Qa _
 |false=>
  refine Ea (Qa1 l (by omega)) ?_;have d:=Y2 l;refine Ea (QkV c (canonS l) (by omega)) ?_;rw[QhX];have a:((ordF (firstS c l)).map (·.Starter)).length<=l.length:=by rw[XZ,Qdl];exact(Qbn c l).len
  rw[Q5 (show¬4000<(((ordF (firstS c l)).map (·.Starter)).length:Int)by omega)];refine Ye (Ea (Qip _ (by omega)) ?_);have f:((ordF (firstS c l)).map (·.Starter)).map (·.Chip)=(ordF (firstS c l)).map chipK:=by rw[List.map_map];rfl
  rw[f];cases decide (((ordF (firstS c l)).map chipK).Nodup)<;>exact Qa _
def rulB(k i:Int)(f:Fact):Bool:=(f.Kind==10)&&((f.Ruling.Case==k)&&(f.Ruling.Instance==i))
def repB(k:Int)(f:Fact):Bool:=(f.Kind==8)&&(f.Report.Case==k)
def appB(k:Int)(f:Fact):Bool:=(f.Kind==11)&&(f.Appeal.Suspends&&(f.Appeal.Case==k))
def caseN(f:Fact):Option Int:=bif f.Kind==10 then some f.Ruling.Case else bif f.Kind==8 then some f.Report.Case else bif (f.Kind==11)&&f.Appeal.Suspends then some f.Appeal.Case else none
def fileOf(P:List Fact)(k:Int):Ub:=⟨k,P.filter (rulB k 0),P.filter (rulB k 1),P.filter (rulB k 2),(P.filter (repB k)).map (·.Report),P.any (appB k)⟩
theorem QaC{k i:Int}{f:Fact}(h:rulB k i f=true):caseN f=some k:=by
 unfold rulB at h;rw[XU,XU,Vv (a:=f.Ruling.Case)]at h;unfold caseN;rw[h.1,Vl,h.2.1]
theorem Qg4{k:Int}{f:Fact}(h:repB k f=true):caseN f=some k:=by
 unfold repB at h;rw[XU,Vv,Vv]at h;unfold caseN;rw[h.1,h.2];rfl
theorem QhA{k:Int}{f:Fact}(h:appB k f=true):caseN f=some k:=by
 unfold appB at h;rw[XU,XU,Vv,Vv]at h;unfold caseN;rw[h.1,h.2.1,h.2.2];rfl
theorem Qa0{α:Type}{p:α->Bool}{l:List α}(h:∀x∈l,p x=false):l.filter p=[]:=by
 rw[List.filter_eq_nil_iff];intro x a;rw[h x a];exact Bool.false_ne_true
theorem Qbe{b:Bool}(h:¬b=true):b=false:=by cases b with
 |true=>exact absurd rfl h
 |false=>rfl
theorem QkQ{P:List Fact}{k:Int}(h:∀f∈P,caseN f≠some k):fileOf P k=QaI k:=by
 unfold fileOf QaI;rw[Qa0 λf a=>Qbe λq=>h f a (QaC q),Qa0 λf a=>Qbe λq=>h f a (QaC q),Qa0 λf a=>Qbe λq=>h f a (QaC q),
  Qa0 λf a=>Qbe λq=>h f a (Qg4 q),show P.any (appB k)=false from List.any_eq_false.2 λf a q=>h f a (QhA q)]
 rfl
theorem QJ{α:Type}(p:α->Bool)(l:List α)(x:α):(l++[x]).filter p=bif p x then l.filter p++[x]else l.filter p:=by
 cases h:p x<;>simp[h]
theorem Qdw{P:List Fact}{f:Fact}{k:Int}(h:caseN f≠some k):fileOf (P++[f]) k=fileOf P k:=by
 unfold fileOf;rw[QJ,QJ,QJ,QJ,Qbe λq=>h (QaC q),Qbe λq=>h (QaC q),Qbe λq=>h (QaC q),Qbe λq=>h (Qg4 q),List.any_append,List.any_cons,List.any_nil,
  Qbe λq=>h (QhA q)]
 simp
structure FilesOf (P:List Fact) (fs:List Ub):Prop where
 num:(fs.map (·.number)).Nodup
 each:∀x∈fs,x=fileOf P x.number
 mem:∀k,k∈fs.map (·.number)↔ ∃f∈P,caseN f=some k
theorem FilesOf.nil:FilesOf [] []:=⟨List.nodup_nil,(λ_ h=>by cases h),λk=>by simp⟩
theorem FilesOf.skip{P:List Fact}{fs:List Ub}{f:Fact}(h:FilesOf P fs)(e:caseN f=none):FilesOf (P++[f]) fs:=by
 refine⟨h.num,λx i=>?_,λk=>?_⟩
 .rw[Qdw (by rw[e];intro q;cases q)];exact h.each x i
 .rw[h.mem k];constructor
  .rintro⟨g,d,a⟩;exact⟨g,by simp[d],a⟩
  .rintro⟨g,d,a⟩;rcases VA.1 d with q|q
   .exact⟨g,q,a⟩
   .rw[Vy.1 q,e]at a;cases a
theorem FilesOf.put{P:List Fact}{fs:List Ub}{f:Fact}{k:Int}{g:Ub->Ub}(h:FilesOf P fs)(s:caseN f=some k)(B:∀x,(g x).number=x.number)(hg:g (fileOf P k)=fileOf (P++[f]) k):FilesOf (P++[f]) (QbV (Qad fs k) k g):=by
 have t:∀x∈Qad fs k,x=fileOf P x.number:=by
  by_cases q:∃x∈fs,x.number=k
  .rw[Qdu q];exact h.each
  .have i:=λx d e=>q ⟨x,d,e⟩;rw[Qb6 i];intro x d;rcases VA.1 d with z|z
   .exact h.each x z
   .rw[Vy.1 z];refine(QkQ λa n e=>?_).symm;obtain⟨x,d,E⟩:=Xf.1 ((h.mem k).2 ⟨a,n,e⟩);exact i x d E
 have u:((Qad fs k).map (·.number)).Nodup:=by
  by_cases q:∃x∈fs,x.number=k
  .rw[Qdu q];exact h.num
  .have i:=λx d e=>q ⟨x,d,e⟩;rw[Qb6 i,Xg,List.nodup_append];refine⟨h.num,by simp,?_⟩;intro a n b G;obtain⟨x,d,rfl⟩:=Xf.1 n;have hb':=by simpa  using G
   rw[hb'];exact i x d
 have r:∀j,j∈(Qad fs k).map (·.number)↔j=k\/j∈fs.map (·.number):=by
  intro j;by_cases q:∃x∈fs,x.number=k
  .rw[Qdu q];constructor
   .exact .inr
   .rintro(rfl|z)
    .obtain⟨x,d,e⟩:=q;exact Xf.2 ⟨x,d,e⟩
    .exact z
  .rw[Qb6 λx d e=>q ⟨x,d,e⟩,Xg,VA];simp[Vg,Vh,Vy];exact Or.comm
 have l:(QbV (Qad fs k) k g).map (·.number)=(Qad fs k).map (·.number):=by
  unfold QbV;rw[List.map_map];refine List.map_congr_left λx _=>?_;show(bif decide (x.number=k)then g x else x).number=x.number;cases decide (x.number=k)with
  |true=>exact B x
  |false=>rfl
 refine⟨by rw[l];exact u,λx d=>?_,λj=>?_⟩
 .obtain⟨y,F,rfl⟩:=Xf.1 d;have w:=t y F;cases q:decide (y.number=k)with
  |true=>
   have i:=Vs q;show g y=fileOf _ (g y).number;rw[B,i, <- hg, <- i, <- w]
  |false=>
   have i:=Vt q;rw[Qdw (by rw[s];intro z;cases z;exact i rfl)];exact w
 .rw[l,r,h.mem j];constructor
  .rintro(rfl|⟨a,p,m⟩)
   .exact⟨f,by simp,s⟩
   .exact⟨a,by simp[p],m⟩
  .rintro⟨a,p,m⟩;rcases VA.1 p with z|z
   .exact .inr ⟨a,z,m⟩
   .rw[Vy.1 z,s]at m;cases m;exact .inl rfl
theorem FilesOf.room{P:List Fact}{fs:List Ub}{k:Int}(h:FilesOf P fs)(hl:P.length<1048576):QfB (Qad fs k)=true:=by
 have d:∀n,n<=P.length->Nat.ble (n+1) QD=true:=λn f=>Qe9 (by omega);have one:∀j,(λx=>Nat.ble (x.r0.length+1) QD&&Nat.ble (x.r1.length+1) QD&&Nat.ble (x.r2.length+1) QD&&Nat.ble (x.reports.length+1) QD) (fileOf P j)=true:=by
  intro j;simp only[fileOf,XZ];rw[d _ (VK ..),d _ (VK ..),d _ (VK ..),d _ (VK ..)];rfl
 refine Xs.2 λx a=>?_;by_cases q:∃x∈fs,x.number=k
 .rw[Qdu q]at a;rw[h.each x a];exact one _
 .rw[Qb6 λx a e=>q ⟨x,a,e⟩]at a;rcases VA.1 a with z|z
  .rw[h.each x z];exact one _
  .rw[Vy.1 z];simp[QaI];decide
theorem QbU{f:Fact}(h:validS f=true):headS f=true/\contR f=true/\onlyS f=f:=by
 rw[Qch,XU,XU,QjX,Vv]at h;exact⟨h.1.1,h.1.2,h.2⟩
theorem Qnv{f:Fact}(h:validS f=true):0<=f.At/\f.At<=1099511627776:=by
 obtain⟨a,_,_⟩:=QbU h;rw[Qjo]at a;simp only[XU,J3]at a;exact a.2.2.2.1
theorem Qcg{f:Fact}(h:validS f=true)(k:f.Kind=10):(1<=f.Ruling.Case/\(f.Ruling.Instance=1\/f.Ruling.Instance=2))/\(0<=f.Ruling.Bib/\f.Ruling.Bib<=9999)/\f.Report=Uk.Report:=by
 obtain⟨_,d,n⟩:=QbU h;have e:f.Report=(onlyS f).Report:=by rw[n]
 have m:(onlyS f).Report=bif f.Kind==8 then f.Report else Uk.Report:=rfl
 rw[m,k]at e;refine⟨?_,?_,e⟩
 .unfold contR at d;rw[k]at d;have g:(true&&(nb f.Ruling.Case 1 1048576&&(nb f.Ruling.Instance 1 2&&(nb f.Ruling.Kind 1 5&&(bif (f.Ruling.Kind==1)||(f.Ruling.Kind==2)then nb f.Ruling.Bib 0 0&&(nb f.Ruling.Position 0 0&&(nb f.Ruling.Amount 0 0&&true))else bif f.Ruling.Kind==3 then nb f.Ruling.Bib 1 9999&&(nb f.Ruling.Position 0 255&&(nb f.Ruling.Amount 1 1099511627776&&true))else bif f.Ruling.Kind==4 then nb f.Ruling.Bib 1 9999&&(nb f.Ruling.Position 0 255&&(nb f.Ruling.Amount 1 64&&true))else nb f.Ruling.Bib 1 9999&&(nb f.Ruling.Position 0 255&&(nb f.Ruling.Amount 0 0&&true)))))))=true:=d;simp only[XU,J3]at g;obtain⟨_,a,p,_⟩:=g;exact⟨a.1,by omega⟩
 .unfold contR at d;rw[k]at d;have g:(true&&(nb f.Ruling.Case 1 1048576&&(nb f.Ruling.Instance 1 2&&(nb f.Ruling.Kind 1 5&&(bif (f.Ruling.Kind==1)||(f.Ruling.Kind==2)then nb f.Ruling.Bib 0 0&&(nb f.Ruling.Position 0 0&&(nb f.Ruling.Amount 0 0&&true))else bif f.Ruling.Kind==3 then nb f.Ruling.Bib 1 9999&&(nb f.Ruling.Position 0 255&&(nb f.Ruling.Amount 1 1099511627776&&true))else bif f.Ruling.Kind==4 then nb f.Ruling.Bib 1 9999&&(nb f.Ruling.Position 0 255&&(nb f.Ruling.Amount 1 64&&true))else nb f.Ruling.Bib 1 9999&&(nb f.Ruling.Position 0 255&&(nb f.Ruling.Amount 0 0&&true)))))))=true:=d;simp only[XU]at g;obtain⟨_,_,_,_,a⟩:=g;cases i:((f.Ruling.Kind==1)||(f.Ruling.Kind==2))with
  |true=>rw[i]at a;simp[Vl,XU,J3]at a;omega
  |false=>
   rw[i,Vm]at a;cases j:(f.Ruling.Kind==3)with
   |true=>rw[j]at a;simp[Vl,XU,J3]at a;omega
   |false=>
    rw[j,Vm]at a;cases l:(f.Ruling.Kind==4)with
    |true=>rw[l]at a;simp[Vl,XU,J3]at a;omega
    |false=>rw[l]at a;simp[Vm,XU,J3]at a;omega
theorem QgT{f:Fact}(h:validS f=true)(k:f.Kind=8):1<=f.Report.Case/\(1<=f.Report.Bib/\f.Report.Bib<=9999)/\f.Ruling=Uk.Ruling:=by
 obtain⟨_,a,g⟩:=QbU h;have e:f.Ruling=(onlyS f).Ruling:=by rw[g]
 have i:(onlyS f).Ruling=bif f.Kind==10 then f.Ruling else Uk.Ruling:=rfl
 rw[i,k]at e;unfold contR at a;rw[k]at a;have d:(true&&(nb f.Report.Case 1 1048576&&(nb f.Report.Bib 1 9999&&(nb f.Report.Offence 0 31&&(nb f.Report.Position 0 255&&true)))))=true:=a;simp only[XU,J3]at d;exact⟨d.2.1.1,d.2.2.1,e⟩
theorem QaW{f:Fact}(k:f.Kind=10)(j:Int):rulB f.Ruling.Case j f=(f.Ruling.Instance==j):=by
 unfold rulB;rw[k];simp
theorem Qic{P:List Fact}{fs:List Ub}{f:Fact}(h:FilesOf P fs)(hl:P.length<1048576)(s:validS f=true):∃fs',filesStep fs f=some fs'/\FilesOf (P++[f]) fs':=by
 unfold filesStep;cases a:(f.Kind==10)with
 |true=>
  have k:=by simpa using a
  obtain⟨⟨_,g⟩,_⟩:=Qcg s k;have n:caseN f=some f.Ruling.Case:=by unfold caseN;rw[a];rfl
  have p:repB f.Ruling.Case f=false:=by unfold repB;rw[k];rfl
  have e:appB f.Ruling.Case f=false:=by unfold appB;rw[k];rfl
  simp only[h.room hl];rcases g with g|g
  .refine⟨QbV (Qad fs f.Ruling.Case) f.Ruling.Case λx=>{x with r1:=x.r1++[f]},by rw[g];rfl,h.put n (λx=>rfl) ?_⟩;unfold fileOf;rw[QJ,QJ,QJ,QJ,QaW k,QaW k,QaW k,g,p,List.any_append,List.any_cons,List.any_nil,e];simp
  .refine⟨QbV (Qad fs f.Ruling.Case) f.Ruling.Case λx=>{x with r2:=x.r2++[f]},by rw[g];rfl,h.put n (λx=>rfl) ?_⟩;unfold fileOf;rw[QJ,QJ,QJ,QJ,QaW k,QaW k,QaW k,g,p,List.any_append,List.any_cons,List.any_nil,e];simp
 |false=>
  have l:∀j i,rulB j i f=false:=λj i=>by unfold rulB;rw[a];rfl
  cases m:(f.Kind==8)with
  |true=>
   have k:=by simpa using m
   have n:caseN f=some f.Report.Case:=by unfold caseN;rw[a,m];rfl
   have t:repB f.Report.Case f=true:=by unfold repB;rw[k];simp
   have e:appB f.Report.Case f=false:=by unfold appB;rw[k];rfl
   simp only[h.room hl];refine⟨QbV (Qad fs f.Report.Case) f.Report.Case λx=>{x with reports:=x.reports++[f.Report]},rfl,h.put n (λx=>rfl) ?_⟩;unfold fileOf;rw[QJ,QJ,QJ,QJ,l,l,l,t,List.any_append,List.any_cons,List.any_nil,e];simp
  |false=>
   have p:∀j,repB j f=false:=λj=>by unfold repB;rw[m];rfl
   cases d:(f.Kind==11)with
   |true=>
    cases r:f.Appeal.Suspends with
    |true=>
     have n:caseN f=some f.Appeal.Case:=by unfold caseN;rw[a,m,d,r];rfl
     have q:appB f.Appeal.Case f=true:=by unfold appB;rw[d,r];simp
     refine⟨QbV (Qad fs f.Appeal.Case) f.Appeal.Case λx=>{x with appeal:=true},rfl,h.put n (λx=>rfl) ?_⟩;unfold fileOf;rw[QJ,QJ,QJ,QJ,l,l,l,p,List.any_append,List.any_cons,List.any_nil,q];simp
    |false=>exact⟨_,rfl,h.skip (by unfold caseN;rw[a,m,d,r];rfl)⟩
   |false=>exact⟨_,rfl,h.skip (by unfold caseN;rw[a,m,d];rfl)⟩
def voidB(C:List Fact)(f:Fact):Bool:=(f.Kind==10)&&C.any λg=>rulB f.Ruling.Case f.Ruling.Instance g&&decide (cmpF g f<0)
def voidS(C:List Fact):List Fact:=C.filter (voidB C)
theorem QiR{l:List Fact}(h:l.Pairwise ltF)(f:Fact):f∈l.drop 1↔f∈l/\ ∃g∈l,ltF g f:=by
 cases l with
 |nil=>simp
 |cons a r=>
  rw[Xc]at h;simp only[List.drop_succ_cons,List.drop_zero];constructor
  .intro d;exact⟨by simp[d],a,by simp,h.1 f d⟩
  .rintro⟨d,g,i,e⟩;rcases X4.1 d with rfl|d
   .rcases X4.1 i with rfl|i
    .exact absurd e (Qby _)
    .exact absurd (QcZ _ _ _ (h.1 g i) e) (Qby _)
   .exact d
theorem Qnt{C:List Fact}(r:CanonOK C){fs:List Ub}(h:FilesOf C fs)(f:Fact):f∈voidS C↔ ∃x∈fs,f∈x.r0.drop 1\/f∈x.r1.drop 1\/f∈x.r2.drop 1:=by
 have sub:=λp=>r.1.filter p;have one:∀k i,f∈(C.filter (rulB k i)).drop 1->f∈voidS C:=by
  intro k i a;obtain⟨d,g,j,l⟩:=(QiR (sub _) f).1 a;rw[Xe]at d j;have q:=d.2;unfold rulB at q;simp[XU,Vv]at q;unfold voidS;rw[Xe];refine⟨d.1,?_⟩;unfold voidB;rw[q.1,q.2.1,q.2.2];exact Xt.2 ⟨g,j.1,by rw[j.2,Vx];exact Vr (show cmpF g f<0 from l)⟩
 constructor
 .intro a;unfold voidS at a;rw[Xe]at a;obtain⟨d,j⟩:=a;unfold voidB at j;rw[XU,Xt]at j;obtain⟨k,g,u,l⟩:=j;rw[XU]at l;have k':=by simpa using k
  have t:caseN f=some f.Ruling.Case:=by unfold caseN;rw[k];rfl
  obtain⟨x,n,e⟩:=Xf.1 ((h.mem f.Ruling.Case).2 ⟨f,d,t⟩);have ex:=h.each x n;rw[e]at ex;have s:∀i,f.Ruling.Instance=i->f∈(C.filter (rulB f.Ruling.Case i)).drop 1:=by
   rintro i rfl;refine(QiR (sub _) f).2 ⟨Xe.2 ⟨d,by rw[QaW k'];simp⟩,g,Xe.2 ⟨u,l.1⟩,(show cmpF g f<0 from Vs l.2)⟩
  refine⟨x,n,?_⟩;rw[ex];obtain⟨⟨_,m⟩,_⟩:=Qcg (r.2 f d) k';rcases m with m|m
  .exact .inr (.inl (s 1 m))
  .exact .inr (.inr (s 2 m))
 .rintro⟨x,n,a⟩;have ex:=h.each x n;rw[ex]at a;rcases a with a|a|a
  iterate 3 exact one _ _ a
def refOf(f:Fact):Ref:={Crew:=f.Crew,No:=f.No:Ref}
def voidR(l:List Fact):List Ref:=(voidS (canonS l)).map refOf
def standB(vs:List Ref)(k:Int)(f:Fact):Bool:=(f.Kind==10)&&((f.Ruling.Case==k)&& !(vs.any λr=>decide (r=refOf f)))
def firstRep(C:List Fact)(k:Int):Option Fact:=C.find? (repB k)
def about(l:List Fact)(k:Int):List Fact:=l.filter (λf=>validS f&&standB (voidR l) k f)++(firstRep (canonS l) k).toList
def SameF(l m:List Fact):Prop:=∀f,validS f=true->(f∈l↔f∈m)
theorem SameF.symm{l m:List Fact}(h:SameF l m):SameF m l:=λf hf=>(h f hf).symm
theorem SameF.filter{l m:List Fact}(h:SameF l m)(p:Fact->Bool):SameF (l.filter p) (m.filter p):=λf hf=>by rw[Xe,Xe,h f hf]
theorem SameF.voidR{l m:List Fact}(h:SameF l m):voidR l=voidR m:=by unfold Go.Sw.voidR;rw[Qgp h]
theorem Qm5{l:List Fact}{k:Int}{f:Fact}:f∈about l k↔(f∈l/\validS f=true/\standB (voidR l) k f=true)\/firstRep (canonS l) k=some f:=by
 unfold about;rw[VA,Xe,XU,Option.mem_toList]
theorem QaZ{l:List Fact}{k:Int}{f:Fact}(h:firstRep (canonS l) k=some f):f∈l/\validS f=true/\repB k f=true:=by
 have e:=List.mem_of_find?_eq_some h;have d:=List.find?_some h;obtain⟨a,b⟩:=((YY l).2 f).1 e;exact⟨a,b,d⟩
theorem QoR{l:List Fact}{k:Int}{f:Fact}(h:f∈about l k):f∈l/\validS f=true/\((f.Kind=10/\f.Ruling.Case=k)\/(f.Kind=8/\f.Report.Case=k)):=by
 rcases Qm5.1 h with⟨a,b,c⟩|a
 .refine⟨a,b,.inl ?_⟩;unfold standB at c;simp[XU,Vv]at c;exact⟨c.1,c.2.1⟩
 .obtain⟨a,b,c⟩:=QaZ a;refine⟨a,b,.inr ?_⟩;unfold repB at c;simp[XU,Vv]at c;exact c
theorem QoP{α:Type}{l m:List α}(h:∀x,x∈l↔x∈m)(p:α->Bool):l.any p=m.any p:=by
 rw[XW,Xt,Xt];constructor
 .rintro⟨x,a,b⟩;exact⟨x,(h x).1 a,b⟩
 .rintro⟨x,a,b⟩;exact⟨x,(h x).2 a,b⟩
theorem Qk9{α:Type}{l m:List α}(h:∀x,x∈l↔x∈m):l.isEmpty=m.isEmpty:=by
 rw[XW,List.isEmpty_iff,List.isEmpty_iff,List.eq_nil_iff_forall_not_mem,List.eq_nil_iff_forall_not_mem];constructor
 .intro a x b;exact a x ((h x).2 b)
 .intro a x b;exact a x ((h x).1 b)
def repStep(k:Int)(r f:Fact):Fact:=bif validS f&&repB k f then(bif (r.Kind==0)||decide (cmpF f r<0)then f else r)else r
structure RepOf (k:Int) (P:List Fact) (r:Fact):Prop where
 none:(r.Kind==0)=true->r=Uk/\ ∀f∈P,validS f=true->repB k f=false
 some:(r.Kind==0)=false->r∈P/\validS r=true/\repB k r=true/\ ∀f∈P,validS f=true->repB k f=true->¬cmpF f r<0
theorem Qg3{k:Int}{f:Fact}(h:repB k f=true):(f.Kind==0)=false:=by
 unfold repB at h;rw[XU,Vv]at h;rw[h.1];rfl
theorem RepOf.nil(k:Int):RepOf k [] Uk:=⟨λ_=>⟨rfl,λ_ h=>by cases h⟩,λh=>by cases h⟩
theorem RepOf.step{k:Int}{P:List Fact}{r f:Fact}(h:RepOf k P r):RepOf k (P++[f]) (repStep k r f):=by
 unfold repStep;cases q:validS f&&repB k f with
 |false=>
  have n:¬(validS f=true/\repB k f=true):=λz=>by rw[z.1,z.2]at q;cases q
  refine⟨λz=>⟨(h.none z).1,λg l i=>?_⟩,λz=>?_⟩
  .rcases VA.1 l with w|w
   .exact(h.none z).2 g w i
   .rw[Vy.1 w]at i⊢;exact Qbe λy=>n ⟨i,y⟩
  .obtain⟨a,b,c,d⟩:=h.some z;refine⟨by simp[a],b,c,λg l i j=>?_⟩;rcases VA.1 l with w|w
   .exact d g w i j
   .rw[Vy.1 w]at i j;exact absurd ⟨i,j⟩ n
 |true=>
  rw[XU]at q;simp[Vl];cases z:(r.Kind==0)with
  |true=>
   simp[Bool.true_or,Vl];refine⟨λw=>(by rw[Qg3 q.2]at w;cases w),λ_=>⟨by simp,q.1,q.2,λg l i j=>?_⟩⟩;rcases VA.1 l with w|w
   .rw[(h.none z).2 g w i]at j;cases j
   .rw[Vy.1 w];have:=Ql4.refl f;omega
  |false=>
   simp[Bool.false_or];obtain⟨a,b,c,d⟩:=h.some z;cases y:decide (cmpF f r<0)with
   |true=>
    have m:=Vs y;simp[Vl];refine⟨λw=>(by rw[Qg3 q.2]at w;cases w),λ_=>⟨by simp,q.1,q.2,λg l i j=>?_⟩⟩;rcases VA.1 l with w|w
    .intro e;exact d g w i j (Ql4.trans _ _ _ e m)
    .rw[Vy.1 w];have:=Ql4.refl f;omega
   |false=>
    have m:=Vt y;simp[Vm];refine⟨λw=>(by rw[z]at w;cases w),λ_=>⟨by simp[a],b,c,λg l i j=>?_⟩⟩;rcases VA.1 l with w|w
    .exact d g w i j
    .rw[Vy.1 w];exact m
theorem Qpr(k:Int)(l:List Fact):RepOf k l (l.foldl (repStep k) Uk):=by
 have d:∀(r p:List Fact) (a:Fact),RepOf k p a->RepOf k (p++r) (r.foldl (repStep k) a):=by
  intro r
  induction r with
  |nil=>intro p a h;rw[Vd];exact h
  |cons f r e=>
   intro p a h;rw[XC,show p++f::r=(p++[f])++r by simp];exact e _ _ h.step
 exact d l [] Uk (RepOf.nil k)
theorem QkF{C:List Fact}(e:C.Pairwise ltF){p:Fact->Bool}{f:Fact}(h:C.find? p=some f):∀g∈C,p g=true->¬cmpF g f<0:=by
 induction C with
 |nil=>cases h
 |cons a C ih=>
  rw[Xc]at e;rw[List.find?_cons]at h;cases q:p a with
  |true=>
   rw[q]at h;cases h;intro g d _;rcases X4.1 d with rfl|d
   .have:=Ql4.refl g;omega
   .have:=e.1 g d;unfold ltF at this;have:=Ql4.swap f g;omega
  |false=>
   rw[q]at h;intro g d i;rcases X4.1 d with rfl|d
   .rw[q]at i;cases i
   .exact ih e.2 h g d i
theorem Qms(k:Int)(l:List Fact):(l.foldl (repStep k) Uk=Uk/\firstRep (canonS l) k=none)\/(((l.foldl (repStep k) Uk).Kind==0)=false/\firstRep (canonS l) k=some (l.foldl (repStep k) Uk)):=by
 have h:=Qpr k l;obtain⟨c1,e⟩:=YY l;generalize l.foldl (repStep k) Uk=r at*;cases z:(r.Kind==0)with
 |true=>
  obtain⟨a,b⟩:=h.none z;refine .inl ⟨a,List.find?_eq_none.2 λf m=>?_⟩;obtain⟨i,j⟩:=(e f).1 m;rw[b f i j];exact Bool.false_ne_true
 |false=>
  obtain⟨a,b,c,d⟩:=h.some z;refine .inr ⟨rfl,?_⟩;have hr:=(e r).2 ⟨a,b⟩;cases q:firstRep (canonS l) k with
  |none=>exact absurd c (by have:=List.find?_eq_none.1 q r hr;exact this)
  |some f=>
   obtain⟨n,g,p⟩:=QaZ q;have s:=QkF c1.1 q r hr c;have u:=d f n g p;have t:=Ql4.swap f r;rw[Qcs g b (by omega)]
def bibOf(f:Fact):Int:=f.Report.Bib+f.Ruling.Bib
def whoB(ab:List Fact)(b:Int):Bool:= !(b==0)&&ab.any λf=>bibOf f==b
theorem Qm4{l:List Fact}{k:Int}{f:Fact}(h:f∈about l k):0<=bibOf f/\bibOf f<=9999:=by
 obtain⟨_,d,q|q⟩:=QoR h
 .obtain⟨_,e,a⟩:=Qcg d q.1;unfold bibOf;rw[a,show Uk.Report.Bib=0 from rfl];omega
 .obtain⟨_,e,a⟩:=QgT d q.1;unfold bibOf;rw[a,show Uk.Ruling.Bib=0 from rfl];omega
def maxAt(ab:List Fact):Int:=ab.foldl (λa f=>max a f.At) 0
theorem Qji(d:List Fact):∀a:Int,a<=d.foldl (λa f=>max a f.At) a/\(∀f∈d,f.At<=d.foldl (λa f=>max a f.At) a)/\(d.foldl (λa f=>max a f.At) a=a\/ ∃f∈d,f.At=d.foldl (λa f=>max a f.At) a):=by
 induction d with
 |nil=>intro a;exact⟨Int.le_refl _,(λ_ h=>by cases h),.inl rfl⟩
 |cons x r k=>
  intro a;rw[XC];obtain⟨m,l,g⟩:=k (max a x.At);refine⟨by omega,λf e=>?_,?_⟩
  .rcases X4.1 e with rfl|e
   .omega
   .exact l f e
  .rcases g with g|⟨f,i,j⟩
   .rcases Int.le_total a x.At with q|q
    .exact .inr ⟨x,by simp,by omega⟩
    .exact .inl (by omega)
   .exact .inr ⟨f,by simp[i],j⟩
theorem QnZ{l m:List Fact}(h:∀x,x∈l↔x∈m):maxAt l=maxAt m:=by
 obtain⟨p,e,g⟩:=Qji l 0;obtain⟨r,i,k⟩:=Qji m 0;unfold maxAt;generalize l.foldl (λa f=>max a f.At) 0=x at*;generalize m.foldl (λa f=>max a f.At) 0=y at*;have n:x<=y:=by
  rcases g with q|⟨f,d,j⟩
  .omega
  .have:=i f ((h f).1 d);omega
 have s:y<=x:=by
  rcases k with q|⟨f,d,j⟩
  .omega
  .have:=e f ((h f).2 d);omega
 omega
def standS(e:Int)(c:Course)(l:List Fact)(p:Protest):Bool:=
 bif (about l p.Case).isEmpty then false else bif (p.By==0)||whoB (about l p.Case) p.By then true else
 bif (startF e c l).2==0 then(startF e c l).1.any (λs=>(s.Bib==p.By)&&(startF e c l).1.any λt=>whoB (about l p.Case) t.Bib&&(t.Distance==s.Distance))else false
def deadS(e:Int)(c:Course)(l:List Fact)(k:Int):Int×Bool:=bif (e==0)&& !(about l k).isEmpty then(i64.wrap (maxAt (about l k)+c.Deadline),true)else(0,false)
theorem Qns{l m:List Fact}(h:∀x,x∈l↔x∈m)(b:Int):whoB l b=whoB m b:=by unfold whoB;rw[QoP h]
section
variable {α β:Type}
theorem QbC(q:α->Bool):∀(l a:List α),l.foldl (λa x=>bif q x then a++[x]else a) a=a++l.filter q
 |[],a=>by simp
 |x::l,a=>by
  rw[XC,QbC q l,Xd];cases h:q x<;>simp
theorem QgE{step:Nat->List α×Int->Option (Ctl (List α×Int) (List α))}(l:List α)(q:α->Bool)(hl:l.length<=1048576)
  (h:∀i x a,At l i x->a.length<=i->Ev (λn=>step n (a,(i:Int))) (.cont ((bif q x then a++[x]else a),((i+1:Nat):Int))))
  (g:∀a,Ev (λn=>step n (a,(l.length:Int))) (.done a)):Ev (λn=>Go.Sw.iter (step n) n ([],0)) (l.filter q):=by
 have e:l.filter q=l.foldl (λa x=>bif q x then a++[x]else a) []:=by rw[QbC];rfl
 rw[e];refine QI l (λa x=>bif q x then a++[x]else a) [] (λa i=>(a,(i:Int))) (λa=>a) (by omega) rfl (λi x a f d=>h i x a f ?_) (g _);rw[d,QbC,Ve];exact XT (VK ..) (by rw[Xw];omega)
theorem Qea(f:α->β):∀(l:List α) (a:List β),l.foldl (λa x=>a++[f x]) a=a++l.map f
 |[],a=>by simp
 |x::l,a=>by rw[XC,Qea f l];simp
theorem Qp3{step:Nat->List β×Int->Option (Ctl (List β×Int) (List β))}(l:List α)(f:α->β)(hl:l.length<=1048576)
  (j:∀i x a,At l i x->a.length<=i->Ev (λn=>step n (a,(i:Int))) (.cont (a++[f x],((i+1:Nat):Int))))
  (h:∀a,Ev (λn=>step n (a,(l.length:Int))) (.done a)):Ev (λn=>Go.Sw.iter (step n) n ([],0)) (l.map f):=by
 have e:l.map f=l.foldl (λa x=>a++[f x]) []:=by rw[Qea];rfl
 rw[e];refine QI l (λa x=>a++[f x]) [] (λa i=>(a,(i:Int))) (λa=>a) (by omega) rfl (λi x a g d=>j i x a g ?_) (h _);rw[d,Qea,Ve,XZ,Xw];omega
theorem Qhf{l:List α}[DecidableEq (List α)](hl:l.length<=1048576):isNil l (some ([]:List α)) ((app ([]:List α) l).bind λx=>some x)=some l:=by
 have:app [] l=some l:=by rw[Ql6 _ _ (by simp;omega)];rfl
 unfold isNil;cases l with
 |nil=>rw[this];simp
 |cons a l=>rw[this];rfl
theorem Qpc{F:Nat->α->α->Option β}{V:α->α->β}(l:List α)(h:∀x∈l,∀y∈l,Ev (λn=>F n x y) (V x y)):∃N,∀n,N<=n->∀x∈l,∀y∈l,F n x y=some (V x y):=by
 obtain⟨N,f⟩:=QaP (F:=λn p=>F n p.1 p.2) (V:=λp=>V p.1 p.2) (l.flatMap λx=>l.map λy=>(x,y)) (by
  intro p a;rw[List.mem_flatMap]at a;obtain⟨x,e,a⟩:=a;obtain⟨y,d,rfl⟩:=Xf.1 a;exact h x e y d)
 exact⟨N,λn g x e y d=>f n g (x,y) (List.mem_flatMap.2 ⟨x,e,Xf.2 ⟨y,d,rfl⟩⟩)⟩
def ltC(c:α->α->Int)(x y:α):Bool:=decide (c x y<0)
theorem Qcq{c:α->α->Int}(d:CmpOK c)(l:List α):QeL (ltC c) l:=by
 refine⟨λx _=>?_,λx _ y _ z _ f g=>?_,λx _ y _ z _ f g=>?_⟩
 .have:=d.refl x;exact Vu (by omega)
 .have f:=Vs f;have g:=Vs g;exact Vr (d.trans x y z f g)
 .have f:=Vt f;have g:=Vt g;refine Vu λh=>?_;have a:=d.swap x y;have b:=d.swap y z;by_cases e:c x y=0
  .rw[d.eqt x y z e]at h;exact g h
  .by_cases i:c y z=0
   .rw[<- d.eqr x i]at h;exact f h
   .have j:=d.trans z y x (by omega) (by omega);have:=d.swap x z;omega
theorem Qmj[DecidableEq α]{j:Nat->α->α->Option Int}{l:List α}{c:α->α->Int}(hl:l.length<=1048576)(w:∀x∈l,∀y∈l,Ev (λn=>j n x y) (c x y))(a:CmpOK c)(p:∀x∈l,∀y∈l,c x y=0->x=y):
  Ev (λn=>QbX (j n) l) (Jf (ltC c) l):=by
 obtain⟨N,u⟩:=Qpc l w;refine⟨N,λn B=>?_⟩;have h:=u n B;have r:=QnF (XP (Qe9 hl)) c h (λx _=>by have:=a.refl x;omega) (λx _ y _ z _=>a.trans x y z) (λx e y d z s g i=>by
   have:=(Qcq a l).ntrans x e y d z s (Vu g) (Vu i);exact Vt this) (λx e y d g i=>p x e y d (by have:=a.swap x y;omega))
 show QbX (j n) l=some (Jf (ltC c) l);rw[r];congr 1;obtain⟨_,_,t,_,_⟩:=Qdb r;have f:∀x∈l,∀y∈l,ltO (j n) x y=ltC c x y:=λx e y d=>by unfold ltO ltC;rw[h x e y d]
 refine JN ((Qt _ l).trans (Qt _ l).symm) (λx e y d g i=>?_) ?_ (Q6 (Qcq a l))
 .have m:=(Qt _ l).mem_iff.1 e;have k:=(Qt _ l).mem_iff.1 d;have g:=Vt g;have i:=Vt i;exact p x m y k (by have:=a.swap x y;omega)
 .refine List.Pairwise.imp_of_mem (λ{x y} e d q=>?_) (Q6 t);have m:=(Qt _ l).mem_iff.1 e;have k:=(Qt _ l).mem_iff.1 d;rw[<- f y k x m];exact q
end
def ddA(p:Fact):List Fact->List Fact
 |[]=>[]
 |x::r=>bif cmpF x p==0 then ddA x r else x::ddA x r
def dd:List Fact->List Fact
 |[]=>[]
 |x::r=>x::ddA x r
theorem QoG{x p:Fact}{r:List Fact}(q:(cmpF x p==0)=true):ddA p (x::r)=ddA x r:=by
 show(bif cmpF x p==0 then ddA x r else x::ddA x r)=_;rw[q];rfl
theorem QoF{x p:Fact}{r:List Fact}(q:(cmpF x p==0)=false):ddA p (x::r)=x::ddA x r:=by
 show(bif cmpF x p==0 then ddA x r else x::ddA x r)=_;rw[q];rfl
theorem QoE:∀(r:List Fact) (p:Fact),(∀x∈r,¬cmpF x p<0)->r.Pairwise (λa b=>¬cmpF b a<0)->(∀x∈p::r,validS x=true)->(ddA p r).Pairwise ltF/\(∀x∈ddA p r,ltF p x)/\ ∀x,x∈p::ddA p r↔x∈p::r
 |[],p,_,_,_=>⟨List.Pairwise.nil,(λ_ h=>by cases h),λ_=>Iff.rfl⟩
 |y::r,p,h1,h2,h3=>by
  rw[Xc]at h2;obtain⟨i1,i2,i3⟩:=QoE r y h2.1 h2.2 λx hx=>h3 x (by simp[X4]at hx⊢;exact .inr hx);have hy:=h1 y (by simp);unfold ddA;cases q:cmpF y p==0 with
  |true=>
   have q':=by simpa using q
   have e:=Qcs (h3 y (by simp)) (h3 p (by simp)) q';subst e;refine⟨i1,i2,λx=>?_⟩;rw[Vl,i3 x];simp
  |false=>
   have q':=by simpa using q
   have d:ltF p y:=by
    have:=Ql4.swap y p;unfold ltF;omega
   simp only[Vm];refine⟨Xc.2 ⟨i2,i1⟩,λx hx=>?_,λx=>?_⟩
   .rcases X4.1 hx with rfl|hx
    .exact d
    .exact QcZ _ _ _ d (i2 x hx)
   .rw[X4,i3 x,X4 (b:=p)]
theorem dd_ok{S:List Fact}(h:S.Pairwise λa b=>¬cmpF b a<0)(d:∀x∈S,validS x=true):(dd S).Pairwise ltF/\ ∀x,x∈dd S↔x∈S:=by
 cases S with
 |nil=>exact⟨List.Pairwise.nil,λ_=>Iff.rfl⟩
 |cons a r=>
  rw[Xc]at h;obtain⟨g,e,f⟩:=QoE r a h.1 h.2 d;exact⟨Xc.2 ⟨e,g⟩,f⟩
theorem Qig(x y:Fact):Ev (λn=>F_bv n x y) (cmpF x y==0):=Ea (QbI x y) (Qa _)
theorem QlP{l:List Fact}{a j:Nat}{x:Fact}(h:l[a+j]?=some x){m:Int}(e:m=(l.length:Int)):Qh7 l (a:Int) m (j:Int)=some x:=by
 have d:=(XJ.1 h).1;unfold Qh7;rw[Vr (show 0<=(a:Int)by omega),Vr (show 0<=(j:Int)by omega),Vr (show a+j<m by omega)];exact YZ h
theorem Ql3{α:Type}{l r:List α}{i:Nat}{x:α}(h:l.drop i=x::r):l[i]?=some x/\l.drop (i+1)=r/\i<l.length:=by
 have h1:=by
  have:=congrArg (λl=>l[0]?) h;simpa using this
 refine⟨h1,?_,(XJ.1 h1).1⟩;have:=Xp (XJ.1 h1).1;rw[h]at this;exact(List.cons.inj this).2.symm
theorem QjP(a:List Fact)(hl:a.length<=1048576)(d:Nat):∀(r s:List Fact) (i j:Nat) (p:Fact),s.length=a.length->s.drop (d+(j+1))=r->s[d+j]?=some p->i<d+(j+1)->d+(j+1)<=s.length->
  ∃(s':List Fact) (e:Nat),EvI (λn=>F_hl n a (d:Int)) (s,(i:Int),((j+1:Nat):Int)) (s',(e:Int))/\e<=s'.length/\s'.take e=s.take i++ddA p r:=by
 intro r
 induction r with
 |nil=>
  intro s i j p f g y L M;refine⟨s,i,Eh ?_,by omega,by simp[ddA]⟩;have:=Xq.1 g;unfold F_hl;rw[Q5 (show¬(((j+1:Nat):Int)<((toNat (a.length:Int)-toNat (d:Int):Nat):Int))by omega)];exact Qa _
 |cons x r B=>
  intro s i j p f g y L M;obtain⟨k,z,N⟩:=Ql3 g;have F:=QlP k (show(a.length:Int)=(s.length:Int)by rw[f]);have E:=QlP y (show(a.length:Int)=(s.length:Int)by rw[f]);have w:i64.wrap (((j+1:Nat):Int)-1)=(j:Int):=by rw[QZ (by omega) (by omega)];omega
  have G:i64.wrap (((j+1:Nat):Int)+1)=((j+1+1:Nat):Int):=Yt (by omega);have u:decide (((j+1:Nat):Int)<((toNat (a.length:Int)-toNat (d:Int):Nat):Int))=true:=Vr (by omega);have m:i<s.length:=by omega
  cases q:cmpF x p==0 with
  |true=>
   obtain⟨s',e,h,t,l⟩:=B s i (j+1) x f (by rw[show d+(j+1+1)=d+(j+1)+1 by omega];exact z) k (by omega) (by omega);refine⟨s',e,Et ?_ h,t,by rw[l,QoG q]⟩;unfold F_hl;simp only[u,Vl,F,w,E,XH];refine Ea (Qig x p) ?_;rw[q];simp only[Xh,Vm,XH,G];exact Qa _
  |false=>
   have H:(s.set i x).length=a.length:=by rw[X2];exact f
   obtain⟨s',e,h,t,l⟩:=B (s.set i x) (i+1) (j+1) x H (by rw[show d+(j+1+1)=d+(j+1)+1 by omega,List.drop_set_of_lt (by omega)];exact z) (by rw[XN (by omega)];exact k) (by omega) (by rw[X2];omega);have J:i64.wrap ((i:Int)+1)=((i+1:Nat):Int):=Yt (by omega);refine⟨s',e,Et ?_ h,t,?_⟩
   .unfold F_hl;simp only[u,Vl,F,w,E,XH];refine Ea (Qig x p) ?_;rw[q];simp only[Xi,Vl,XH,G,YZ (XI m),QnI s x m,J];exact Qa _
   .rw[l,List.take_add_one,Xa m,List.take_set_of_le (XR _)];rw[QoF q];simp
theorem QjQ(a:List Fact)(hl:a.length<=1048576):∀(r:List Fact) (k:Nat) (p:Fact),a.drop (k+1)=r->a[k]?=some p->k+1<=a.length->∃b:Ctl Unit (List Fact),EvI (λn=>F_fp n a) ((k+1:Nat):Int) b/\((b=.cont ()/\ddA p r=r)\/b=.done (a.take (k+1)++ddA p r)):=by
 intro r
 induction r with
 |nil=>
  intro k p h l w;refine⟨.cont (),Eh ?_,.inl ⟨rfl,rfl⟩⟩;have:=Xq.1 h;unfold F_fp;rw[Q5 (show¬((k+1:Nat)<(a.length:Int))by omega)];exact Qa _
 |cons x r z=>
  intro k p h l w;obtain⟨f,t,g⟩:=Ql3 h;have s:i64.wrap ((k+1:Nat)-1)=k:=by rw[QZ (by omega) (by omega)];omega
  have y:i64.wrap ((k+1:Nat)+1)=k+1+1:=Yt (by omega);have m:decide ((k+1:Nat)<(a.length:Int))=true:=Vr (by omega);cases q:cmpF x p==0 with
  |true=>
   obtain⟨u,B,i,d,j⟩:=QjP a hl (k+1) r a (k+1) 0 x rfl t f (by omega) (by omega);refine⟨.done (a.take (k+1)++ddA p (x::r)),Eh ?_,.inr rfl⟩;unfold F_fp;simp only[m,YZ f,s,YZ l,XH];refine Ea (Qig x p) ?_;rw[q];simp only[Qdc a (Nat.le_of_lt g),XH];refine Ea i.ev ?_;simp only[Qkt u d];rw[j];rw[QoG q];exact Qa _
  |false=>
   obtain⟨b,i,d⟩:=z (k+1) x t f g;have e:=QoF (r:=r) q;refine⟨b,Et ?_ i,?_⟩
   .unfold F_fp;simp only[m,YZ f,s,YZ l,XH];refine Ea (Qig x p) ?_;rw[q];simp only[y];exact Qa _
   .rcases d with⟨d,j⟩|d
    .exact .inl ⟨d,by rw[e,j]⟩
    .rw[d,e,List.take_add_one,f];simp
theorem QjN(a:List Fact)(hl:a.length<=1048576):Ev (λn=>F_hm n a) (dd a):=by
 match a,hl with
 |[],_=>exact Qa _
 |[x],_=>exact Qa _
 |x::y::r,hl=>
  obtain⟨b,f,d⟩:=QjQ (x::y::r) hl (y::r) 0 x rfl rfl (by simp);refine Ea f.ev ?_;rcases d with⟨rfl,e⟩|rfl
  .show Ev (λn=>some (x::y::r)) (x::ddA x (y::r));rw[e];exact Qa _
  .exact Qa _
theorem Qhr(l:List Fact)(d:∀f∈l,validS f=true)(hl:l.length<=1048576):Ev (λn=>F_bk n l) (canonS l):=by
 unfold F_bk F_bt;simp only[Qhf hl,XH];have p:=Qt (ltC cmpF) l;refine Ea (Qmj hl (λx _ y _=>QbI x y) Ql4 λx g y i e=>Qcs (d x g) (d y i) e) (Ea (QjN _ (by rw[p.length_eq];exact hl)) ?_);have s:(Jf (ltC cmpF) l).Pairwise λa b=>¬cmpF b a<0:=List.Pairwise.imp (λq=>Vt q) (Q6 (Qcq Ql4 l));obtain⟨m,j⟩:=dd_ok s λx g=>d x (p.mem_iff.1 g);obtain⟨c1,k⟩:=YY l;refine Er (Qa _) (QaF Qby QcZ m c1.1 λf=>?_);rw[j,p.mem_iff,k];exact⟨λh=>⟨h,d f h⟩,λh=>h.1⟩
def cmpN(x y:Ub):Int:=cmpI x.number y.number
theorem Qfc:CmpOK cmpN:=cmpI_ok.on λx:Ub=>x.number
def sortN(fs:List Ub):List Ub:=Jf (ltC cmpN) fs
theorem QlJ{fs:List Ub}(h:(fs.map (·.number)).Nodup){x y:Ub}(f:x∈fs)(d:y∈fs)(e:x.number=y.number):x=y:=by
 induction fs with
 |nil=>cases f
 |cons a r g=>
  have hn:=by rw[Vg,List.nodup_cons]at h;exact h
  rcases X4.1 f with q|q
  .rcases X4.1 d with z|z
   .rw[q,z]
   .exact absurd (Xf.2 ⟨y,z,by rw[<- e,q]⟩) hn.1
  .rcases X4.1 d with z|z
   .exact absurd (Xf.2 ⟨x,q,by rw[e,z]⟩) hn.1
   .exact g hn.2 q z
theorem Qmp{p q:List Ub}(h:p.Perm q)(g:(q.map (·.number)).Nodup):sortN p=sortN q:=by
 have hp:=(h.map _).nodup_iff.2 g;refine JN ((Qt _ p).trans (h.trans (Qt _ q).symm)) (λx f y e a d=>?_) (Q6 (Qcq Qfc p)) (Q6 (Qcq Qfc q));have a:=Vt a;have d:=Vt d;refine QlJ hp ((Qt _ p).mem_iff.1 f) ((Qt _ p).mem_iff.1 e) (Qq6.1 ?_);have:=Qfc.swap x y;show cmpN x y=0;omega
def ltN(x y:Ub):Prop:=x.number<y.number
theorem QiU{p:List Ub}(e:(p.map (·.number)).Nodup):(sortN p).Pairwise ltN:=by
 have a:((sortN p).map (·.number)).Nodup:=((Qt _ p).map _).nodup_iff.2 e;have s:=Q6 (Qcq Qfc p);have hm':=by
  unfold List.Nodup at a;rw[List.pairwise_map]at a;exact a
 refine List.Pairwise.imp₂ (λx y d f=>?_) s hm';have d:¬cmpI y.number x.number<0:=Vt d;rw[QpV]at d;unfold ltN;omega
theorem QqQ(x y:Ub):Ev (λn=>F_bl n x y) (cmpN x y==0):=by
 unfold F_bl F_bi;simp[Qio];exact Qa _
theorem QjO(fs:List Ub)(hl:fs.length<=1048576)(a:fs.Pairwise ltN):Ev (λn=>F_cr n fs) ():=by
 unfold F_cr;cases q:decide ((fs.length:Int)<2)with
 |true=>exact Qa _
 |false=>
  refine Ea (v:=()) ?_ (Qa _);refine Eu (λi=>((i+1:Nat):Int)) (fs.length-1) rfl (λi j=>?_) ?_
  .have d:fs[i+1]?=some fs[i+1]:=XI (by omega);have h:fs[i]?=some fs[i]:=XI (by omega);have f:i64.wrap (((i+1:Nat):Int)-1)=(i:Int):=by rw[QZ (by omega) (by omega)];omega
   have g:i64.wrap (((i+1:Nat):Int)+1)=((i+1+1:Nat):Int):=Yt (by omega);unfold F_ll;rw[Vr (show(((i+1:Nat):Int)<(fs.length:Int))by omega)];simp only[Vl,YZ d,f,YZ h,XH];refine Ea (QqQ _ _) ?_;have lt:=VB.1 a i (i+1) (by omega) (by omega) (by omega);have e:(cmpN fs[i+1] fs[i]==0)=false:=by
    rw[Vw];intro z;have z2:=Qq6.1 z;unfold ltN at lt;omega
   rw[e];simp only[g];exact Qa _
  .unfold F_ll;rw[Q5 (show¬(((fs.length-1+1:Nat):Int)<(fs.length:Int))by omega)];exact Qa _
theorem QkR(fs:List Ub)(hl:fs.length<=1048576)(a:(fs.map (·.number)).Nodup):Ev (λn=>F_dt n fs) (sortN fs):=by
 unfold F_dt F_ej;simp only[Qhf hl,XH];refine Ea (v:=sortN fs) (Qmj hl (λx _ y _=>?_) Qfc λx f y d e=>QlJ a f d (Qq6.1 e)) ?_
 .unfold F_bi;simp[Qio];exact Qa _
 .refine Ea (QjO _ ?_ (QiU a)) (Qa _);unfold sortN;rw[(Qt _ fs).length_eq];exact hl
theorem QfS(fs:List Ub)(k:Int):(Qad fs k).length<=fs.length+1:=by
 unfold Qad;cases fs.any λx=>decide (x.number=k)<;>simp
theorem Qfn(fs:List Ub)(k:Int)(g:Ub->Ub):(QbV fs k g).length=fs.length:=by unfold QbV;rw[XZ]
theorem QpX{fs a:List Ub}{k i:Int}{f:Fact}(h:filesAdd fs k i f=some a):a.length=fs.length:=by
 unfold filesAdd at h;cases d:(i==0)<;>cases e:(i==1)<;>cases g:(i==2)<;>rw[d,e,g]at h<;>first|(cases h;done)|(cases h;rw[Qfn])
theorem QnA{fs d:List Ub}{f:Fact}(h:filesStep fs f=some d):d.length<=fs.length+1:=by
 unfold filesStep at h;cases i:(f.Kind==10)with
 |true=>
  rw[i,Vl]at h;cases e:QfB (Qad fs f.Ruling.Case)with
  |true=>rw[e,Vl]at h;rw[QpX h];exact QfS _ _
  |false=>rw[e]at h;cases h
 |false=>
  rw[i,Vm]at h;cases e:(f.Kind==8)with
  |true=>
   rw[e,Vl]at h;cases a:QfB (Qad fs f.Report.Case)with
   |true=>rw[a,Vl]at h;cases h;rw[Qfn];exact QfS _ _
   |false=>rw[a]at h;cases h
  |false=>
   rw[e,Vm]at h;cases a:(f.Kind==11)with
   |true=>
    rw[a,Vl]at h;cases g:f.Appeal.Suspends with
    |true=>rw[g,Vl]at h;cases h;rw[Qfn];exact QfS _ _
    |false=>rw[g]at h;cases h;omega
   |false=>rw[a]at h;cases h;omega
theorem QmP(C:List Fact)(p:∀f∈C,validS f=true)(hl:C.length<=1048576):∃fs,Ev (λn=>Go.Sw.iter (filesL n C) n (([]:List Ub),0)) fs/\FilesOf C fs/\fs.length<=C.length:=by
 have loop:∀(r:List Fact) (i:Nat) (s:List Ub),C.drop i=r->i<=C.length->FilesOf (C.take i) s->s.length<=i->∃fs,EvI (λn=>filesL n C) (s,i) fs/\FilesOf C fs/\fs.length<=C.length:=by
  intro r
  induction r with
  |nil=>
   intro i s g l d j;refine⟨s,Eh ?_,?_,by omega⟩
   .unfold filesL;simp only[QX g l];exact Qa _
   .rw[VF (Xq.1 g)]at d;exact d
  |cons f r w=>
   intro i s g l d j;obtain⟨a,k⟩:=Qx (by omega) g;have u:=a.lt';obtain⟨m,e,h⟩:=Qic d (by rw[Xw];omega) (p f a.mem);rw[<- a.take]at h;obtain⟨fs,t,q⟩:=w (i+1) m k (by omega) h (by have:=QnA e;omega);refine⟨fs,Et ?_ t,q⟩;unfold filesL;simp only[a.lt,a.ix,XH,e,a.nx];exact Qa _
 obtain⟨fs,e,h⟩:=loop C 0 [] rfl (XS _) FilesOf.nil (XR _);exact⟨fs,e.ev,h⟩
theorem Qgi:∀(p:List (Int×Ub)) (s:List Ub) (n:Nat),s.length+p.length<=1048576->Qfw (F_iz n) (F_lg n) s p=some (s++p.map Prod.snd)
 |[],s,n,_=>by unfold Qfw F_lg;simp
 |e::p,s,n,h=>by
  rw[XY]at h;have h1:F_iz n s e=some (.cont (s++[e.2])):=by
   unfold F_iz;rw[Jl _ _ (by omega)];rfl
  unfold Qfw;rw[h1];show Qfw _ _ (s++[e.2]) p=_;rw[Qgi p _ n (by simp;omega)];simp
theorem FilesOf.perm{C:List Fact}{fs gs:List Ub}(h:FilesOf C fs)(p:gs.Perm fs):FilesOf C gs:=
 ⟨(p.map _).nodup_iff.2 h.num,λx hx=>h.each x (p.mem_iff.1 hx),λk=>by rw[(p.map _).mem_iff];exact h.mem k⟩
theorem Qov(l:List Fact)(hl:l.length<=100):∃fs,Ev (λn=>F_hg n l) fs/\FilesOf (canonS l) fs/\fs.Pairwise ltN/\fs.length<=(canonS l).length:=by
 have m:∀f∈l.filter validS,validS f=true:=λf h=>(Xe.1 h).2;have e:canonS (l.filter validS)=canonS l:=Qgp λf h=>by simp[h]
 obtain⟨c1,y⟩:=YY l;have r:=Y2 l;obtain⟨fs,q,g,t⟩:=QmP (canonS l) c1.2 (by omega);refine⟨sortN fs,?_,g.perm (Qt _ fs),QiU g.num,by unfold sortN;rw[(Qt _ fs).length_eq];exact t⟩;refine Ea (QgE l validS (by omega) (λi x a d s=>?_) λa=>?_) ?_
 .have u:=d.lt';unfold F_le;simp only[d.lt,d.ix,XH,d.nx];refine Ea (Qbc x) ?_;cases validS x with
  |true=>
   rw[Jl a x (by omega)];exact Qa _
  |false=>exact Qa _
 .unfold F_le;simp[Yu];exact Qa _
 refine Ea ((Qhr _ m (XT (VK ..) (by omega))).eq e) (Ea q ?_);refine Ev.anyP λp j=>?_;have w:p.length=fs.length:=by rw[j.length_eq];unfold QeW;rw[XZ]
 have pm:=by
  have:=j.map Prod.snd;unfold QeW at this;rw[List.map_map]at this;have k:(fs.map (Prod.snd ∘ λx=>(x.number,x)))=fs:=by
   conv=>rhs;rw[<- List.map_id fs]
   rfl
  rw[k]at this;exact this
 simp only[Qgi p [] _ (by simp;omega),Ve,XH];refine Ea (QkR _ (by rw[XZ];omega) ((pm.map _).nodup_iff.2 g.num)) ?_;rw[Qmp pm g.num];exact Qa _
def tailsOf(x:Ub):List Fact:=x.r0.drop 1++(x.r1.drop 1++x.r2.drop 1)
theorem Qoo(x:Ub)(s:List Fact)(h:s.length+(tailsOf x).length<=1048576)(h0:x.r0.length<=1048576)(g:x.r1.length<=1048576)(j:x.r2.length<=1048576):Ev (λn=>Go.Sw.iter (F_jy n x) n (s,0)) (s++tailsOf x):=by
 unfold tailsOf at h⊢;simp only[X0]at h;have one:∀(l s:List Fact) (i:Nat),[x.r0,x.r1,x.r2][i]?=some l->l.length<=1048576->s.length+(l.drop 1).length<=1048576->∀n,F_jy n x (s,i)=some (.cont (s++l.drop 1,(i+1:Nat))):=by
  intro l s i e m k n;have d:=(XJ.1 e).1;simp[XY,List.length_nil]at d;unfold F_jy;simp only[Vr (show((i:Int)<3)by omega),Vl,YZ e,XH,Yt (show i<9223372036854775807 by omega)];cases q:decide (1<(l.length:Int))with
  |true=>
   have f:=Vs q;have:=Qdc l (a:=1) (by omega);rw[show((1:Nat):Int)=1 by rfl]at this;rw[this];simp only[XH];rw[Ql6 _ _ (by omega)];rfl
  |false=>
   have f:=Vt q;simp only[Vm,XH];rw[Xq.2 (by omega),Vd]
 refine EvI.ev (Et (Yl (Qa _) λn=>one _ _ 0 rfl h0 (by omega) n) (Et (Yl (Qa _) λn=>one _ _ 1 rfl g (by simp only[X0];omega) n) (Et (Yl (Qa _) λn=>one _ _ 2 rfl j (by simp only[X0];omega) n) (Eh (Yl (Qa _) λn=>?_)))));simp[Vf];rfl
theorem QgU{C:List Fact}{fs:List Ub}(h:FilesOf C fs){x:Ub}(a:x∈fs):(tailsOf x).length<=3*C.length/\x.r0.length<=C.length/\x.r1.length<=C.length/\x.r2.length<=C.length:=by
 have e:=h.each x a;have d:x.r0.length<=C.length:=by rw[e];exact VK ..
 have g:x.r1.length<=C.length:=by rw[e];exact VK ..
 have f:x.r2.length<=C.length:=by rw[e];exact VK ..
 unfold tailsOf;simp[X0,List.length_drop];omega
theorem QmJ{C:List Fact}{fs gs:List Ub}(h:FilesOf C fs)(hg:∀x∈gs,x∈fs):(gs.flatMap tailsOf).length<=gs.length*(3*C.length):=by
 induction gs with
 |nil=>simp
 |cons a r e=>
  rw[List.flatMap_cons,X0,XY,Xy,Nat.one_mul];have:=(QgU h (hg a (by simp))).1;have:=e λx d=>hg x (by simp[d]);omega
theorem Qc0{α β:Type}(f:α->List β):∀(l:List α) (a:List β),l.foldl (λa x=>a++f x) a=a++l.flatMap f
 |[],a=>by simp
 |x::l,a=>by rw[XC,Qc0 f l];simp
theorem QpQ(l:List Fact)(hl:l.length<=100):Ev (λn=>F_hb n l) (voidR l):=by
 obtain⟨d,t,p,J,M⟩:=Qov l hl;have u:=Y2 l;obtain⟨c1,O⟩:=YY l;have s:∀k:List Ub,k.length<=d.length->(∀x∈k,x∈d)->(k.flatMap tailsOf).length<=30000:=λk G j=>by
  have a:=QmJ p j;have b:k.length*(3*(canonS l).length)<=100*300:=Nat.mul_le_mul (by omega) (by omega);omega
 refine Ea t ?_;refine Ea (v:=d.flatMap tailsOf) ?_ ?_
 .have e:d.flatMap tailsOf=d.foldl (λa x=>a++tailsOf x) []:=by rw[Qc0];rfl
  rw[e];refine QI d (λa x=>a++tailsOf x) [] (λa i=>(a,(i:Int))) (λa=>a) (by omega) rfl (λi x a g m=>?_) ?_
  .rw[Qc0,Ve]at m;have q:a.length<=30000:=by rw[m];exact s _ (by rw[Xw];omega) λx r=>List.mem_of_mem_take r
   obtain⟨H,F,L,N⟩:=QgU p g.mem;unfold F_km;simp only[g.lt,Vl,g.ix,XH,g.nx];exact Ea (Qoo x a (by omega) (by omega) (by omega) (by omega)) (Qa _)
  .unfold F_km;simp only[Yu,Vm];exact Qa _
 have j:∀f,f∈d.flatMap tailsOf↔f∈voidS (canonS l):=by
  intro f;rw[Qnt c1 p,List.mem_flatMap];simp only[tailsOf,VA]
 have hv:=λf m=>by
  have:=(j f).1 m;exact c1.2 f (Xe.1 this).1
 have y:=s d (XR _) λx r=>r;refine Ea (Qhr _ hv (by omega)) ?_;have e:canonS (d.flatMap tailsOf)=voidS (canonS l):=by
  obtain⟨E,z⟩:=YY (d.flatMap tailsOf);refine QaF Qby QcZ E.1 (c1.1.filter _) λf=>?_;rw[z,j f];exact⟨λh=>h.1,λh=>⟨h,hv f ((j f).2 h)⟩⟩
 rw[e];have w:(voidS (canonS l)).length<=100:=XT (VK ..) (by omega);refine Ea (v:=voidR l) (Qp3 _ refOf (by omega) (λi x a g q=>?_) λa=>?_) (Qa _)
 .have B:=g.lt';unfold F_lk;simp only[g.lt,Vl,g.ix,XH,g.nx];rw[Jl a _ (by omega)];exact Qa _
 .unfold F_lk;simp only[Yu,Vm];exact Qa _
section
variable {S T B:Type} {step:Nat->S->Option (List T×Ctl S B)} {s s':S} {b:B} {xs ys:List T}
def EvL(step:Nat->S->Option (List T×Ctl S B))(s:S)(ys:List T)(b:B):Prop:=∃N,∀n k,N<=n->N<=k->QcI (step n) k s=some (ys,b)
theorem EvL.done(h:Ev (λn=>step n s) (ys,.done b)):EvL step s ys b:=by
 obtain⟨N,h⟩:=h;refine⟨N+1,λn k f d=>?_⟩;obtain⟨a,rfl⟩:∃a,k=a+1:=⟨k-1,by omega⟩;have e:step n s=some (ys,.done b):=h n (by omega);unfold QcI;rw[e];rfl
theorem EvL.cont(h:Ev (λn=>step n s) (xs,.cont s'))(q:EvL step s' ys b):EvL step s (xs++ys) b:=by
 obtain⟨N,h⟩:=h;obtain⟨M,q⟩:=q;refine⟨max N M+1,λn k f d=>?_⟩;obtain⟨a,rfl⟩:∃a,k=a+1:=⟨k-1,by omega⟩;have e:step n s=some (xs,.cont s'):=h n (by omega);unfold QcI;rw[e];show(QcI (step n) a s').bind _=_;rw[q n a (by omega) (by omega)];rfl
theorem EvL.ev(h:EvL step s ys b):Ev (λn=>QcI (step n) n s) (ys,b):=by
 obtain⟨N,h⟩:=h;exact⟨N,λn a=>h n n a a⟩
theorem Qg2{U R:Type}{st:U->T->Option (Ctl U R)}(g:U->T->U):∀(l:List T) (u:U),(∀x∈l,∀u,st u x=some (.cont (g u x)))->QeR st l u=some (.cont (l.foldl g u))
 |[],u,_=>rfl
 |x::l,u,h=>by
  unfold QeR;rw[h x (by simp)];exact Qg2 g l _ λy hy=>h y (by simp[hy])
end
theorem Qnu(vs:List Ref)(r:Ref):Qz (Yf (λx:Ref=>x) true vs) r false=vs.any λx=>decide (x=r):=by
 rw[Qak,List.map_id'];by_cases h:r∈vs
 .rw[Vq h];exact(Xt.2 ⟨r,h,by simp⟩).symm
 .rw[Vp h];refine(List.any_eq_false.2 λx a q=>?_).symm;rw[Vs q]at a;exact h a
theorem QjR(l:List Fact)(k:Int)(hl:l.length<=100):Ev (λn=>F_bb n l k) (about l k,()):=by
 refine Ea (QpQ l hl) ?_;have u:(voidR l).length<=100:=by
  unfold voidR voidS;rw[XZ];exact XT (VK ..) (by have:=Y2 l;omega)
 refine Ea (v:=Yf (λx:Ref=>x) true (voidR l)) (Qay _ _ _ (by omega) (λi x m d=>?_) λm=>?_) ?_
 .unfold F_lo;simp only[d.lt,d.ix,d.nx];exact Qa _
 .unfold F_lo;simp only[Yu];exact Qa _
 have loop:∀(r:List Fact) (i:Nat) (a:Fact),l.drop i=r->i<=l.length->EvL (λn=>F_jp n l k (Yf (λx:Ref=>x) true (voidR l))) (a,i) (r.filter λf=>validS f&&standB (voidR l) k f) (r.foldl (repStep k) a):=by
  intro r
  induction r with
  |nil=>
   intro i a j s;refine EvL.done ?_;unfold F_jp;simp only[QX j s];exact Qa _
  |cons f r y=>
   intro i a j s;obtain⟨d,q⟩:=Qx (by omega) j;have w:=d.lt';have e:(f::r).filter (λf=>validS f&&standB (voidR l) k f)=(bif validS f&&standB (voidR l) k f then[f]else[])++r.filter λf=>validS f&&standB (voidR l) k f:=by
    rw[Xd];cases validS f&&standB (voidR l) k f<;>rfl
   rw[e,XC];refine EvL.cont ?_ (y (i+1) (repStep k a f) q (by omega));unfold F_jp;simp only[d.lt,d.ix,XH,d.nx];refine Ea (Qbc f) ?_;unfold repStep;cases z:validS f with
   |false=>exact Qa _
   |true=>
    refine Ye (Ea (v:=repB k f) (Yl (Qa _) λn=>?_) ?_)
    .unfold repB;cases(f.Kind==8)<;>rfl
    cases g:repB k f with
    |true=>
     have t:standB (voidR l) k f=false:=by
      unfold repB at g;rw[XU,Vv]at g;unfold standB;rw[g.1];rfl
     rw[t];refine Ea (Ep λ_=>Ea (QbI f a) (Qa _)) ?_;cases(a.Kind==0)||decide (cmpF f a<0)<;>exact Qa _
    |false=>
     simp only[Qnu];refine Ea (v:=standB (voidR l) k f) (Yl (Qa _) λn=>?_) ?_
     .unfold standB refOf;cases(f.Kind==10)<;>cases(f.Ruling.Case==k)<;>rfl
     cases standB (voidR l) k f<;>exact Qa _
 refine Ea (loop l 0 Uk rfl (XS _)).ev ?_;unfold about;rcases Qms k l with⟨h,p⟩|⟨h,p⟩
 .rw[p];simp only[h];refine Yl (Qa _) λn=>?_;rfl
 .rw[p];simp only[bne,h,Vl];refine Yl (Qa _) λn=>?_;rfl
theorem Qhi:∀(d:List Fact) (a:Int) (b:Bool),d.foldl (λ(s:Int×Bool) x=>((if s.1<x.At then x.At else s.1),true)) (a,b)=(d.foldl (λa f=>max a f.At) a,b|| !d.isEmpty)
 |[],a,b=>by simp
 |x::r,a,b=>by
  rw[XC,Qhi r,XC];have:(if a<x.At then x.At else a)=max a x.At:=by
   by_cases h:a<x.At
   iterate 2 omega
  simp[this]
theorem QjT(e:Int)(c:Course)(l:List Fact)(k:Int)(hl:l.length<=100)(he:Ev (λn=>F_an n c) e):Ev (λn=>F_ah n c l k) (deadS e c l k):=by
 unfold F_ah deadS;refine Ea he ?_;cases h:(e==0)with
 |false=>
  rw[show(e != 0)=true by rw[bne,h];rfl];exact Qa _
 |true=>
  rw[show(e != 0)=false by rw[bne,h];rfl];refine Ea (QjR l k hl) (Ea (v:=.cont (maxAt (about l k), !(about l k).isEmpty)) (Yl (Qa _) λn=>?_) ?_)
  .have a:=Qg2 (st:=F_lq n) (λs x=>((if s.1<x.At then x.At else s.1),true)) (about l k) (0,false) λx _ u=>rfl;rw[Qhi]at a;exact a
  .cases(about l k).isEmpty<;>exact Qa _
theorem QmA{α β:Type}[DecidableEq α](l:List (α×β))(k d:α):YQ (mdel l k) d=if d=k then none else YQ l d:=by
 induction l with
 |nil=>by_cases h:d=k<;>simp[mdel,QnW]
 |cons p l a=>
  unfold mdel at a⊢;rw[Xd,Jz];by_cases f:p.1=k
  .by_cases e:d=k
   .simp[f,e]at a⊢;exact a
   .have g:¬p.1=d:=λz=>e (z.symm.trans f);simp[f,e]at a⊢;rw[a,Vp (λz=>e z.symm)]
  .by_cases e:d=k
   .subst e;simp[f]at a⊢;rw[Jz,a,Vp f]
   .simp[f,e]at a⊢;rw[Jz,a]
theorem QfH{α β:Type}[DecidableEq α](l:List (α×β))(k:α)(z:β):Qz l k z=(YQ l k).getD z:=by
 unfold Qz;cases YQ l k<;>rfl
theorem QoM{l:List Fact}{k:Int}{f:Fact}(h:f∈about l k):i64.wrap (f.Report.Bib+f.Ruling.Bib)=bibOf f:=by
 have:=Qm4 h;unfold bibOf at this⊢;exact QZ (by omega) (by omega)
theorem QiP{l:List Fact}{k:Int}(n:Nat):∀(a:List Fact),(∀f∈a,f∈about l k)->∀(m:List (Int×Bool)) (b:Bool),QeR (F_jz n) a (m,b)=some (.cont (a.foldl (λm f=>Yq m (bibOf f) true) m,b|| !a.isEmpty))
 |[],_,m,b=>by simp[QeR]
 |x::r,h,m,b=>by
  unfold QeR;have:F_jz n (m,b) x=some (.cont (Yq m (bibOf x) true,true)):=by
   unfold F_jz;rw[QoM (h x (by simp))];rfl
  rw[this];show QeR _ r _=_;rw[QiP n r (λf d=>h f (by simp[d]))];simp
theorem Qlx(a:List Fact)(b:Int):Qz (mdel (a.foldl (λm f=>Yq m (bibOf f) true) ([]:List (Int×Bool))) 0) b false=whoB a b:=by
 have e:a.foldl (λm f=>Yq m (bibOf f) true) []=Yf bibOf true a:=rfl;rw[e,QfH,QmA];unfold whoB;by_cases h:b=0
 .rw[Vq h,h];rfl
 .rw[Vp h, <- QfH,Qak];have g:(b==0)=false:=by simpa using h
  rw[g,Xi,Vx];by_cases q:b∈a.map bibOf
  .rw[Vq q];obtain⟨f,d,rfl⟩:=Xf.1 q;exact(Xt.2 ⟨f,d,by simp⟩).symm
  .rw[Vp q];refine(List.any_eq_false.2 λf d z=>q ?_).symm;rw[<- (Vv.1 z)];exact VD d
theorem QgY{α κ:Type}[DecidableEq κ](q:α->Bool)(key:α->κ)(d:κ):∀(l:List α) (m:List (κ×Bool)),Qz (l.foldl (λm t=>bif q t then Yq m (key t) true else m) m) d false=(Qz m d false||l.any λt=>q t&&decide (key t=d))
 |[],m=>by simp
 |x::l,m=>by
  rw[XC,QgY q key d l,List.any_cons];cases h:q x with
  |false=>simp
  |true=>
   rw[Vl,QcX];by_cases h2:d=key x
   .simp[h2]
   .have:¬key x=d:=λz=>h2 z.symm;simp[h2,this]
theorem QmK{α:Type}(q:α->Bool)(l:List α):decide (0<=firstI q l 0)=l.any q:=by
 rcases Qb7 q l 0 with⟨a,d⟩|⟨j,x,a,d,e,g⟩
 .rw[a];refine(List.any_eq_false.2 λx f z=>?_).symm;have:=Xs.1 d x f;rw[z]at this;cases this
 .rw[a,Vr (by omega)];exact(Xt.2 ⟨x,VE d,e⟩).symm
theorem QjS(e:Int)(c:Course)(l:List Fact)(p:Protest)(hl:l.length<=16)(he:Ev (λn=>F_an n c) e):Ev (λn=>F_x n c l p) (standS e c l p):=by
 unfold F_x standS F_bd;simp only[XH];refine Ea (QjR l p.Case (by omega)) (Ea (v:=.cont ((about l p.Case).foldl (λm f=>Yq m (bibOf f) true) [], !(about l p.Case).isEmpty)) (Yl (Qa _) λn=>by rw[QiP n _ λf j=>j];rfl) ?_);simp only[Qlx];generalize hm:mdel ((about l p.Case).foldl (λm f=>Yq m (bibOf f) true) []) 0=M;have g:∀b,Qz M b false=whoB (about l p.Case) b:=λb=>by rw[<- hm];exact Qlx _ b
 generalize about l p.Case=ab at g⊢;cases ab.isEmpty with
 |true=>exact Qa _
 |false=>
  simp only[Xi,Xh,Vm];refine Ea (Ep λ_=>Qa _) ?_;cases(p.By==0)||whoB ab p.By with
  |true=>exact Qa _
  |false=>
   refine Ea (QjG e c l hl he) ?_;cases q:((startF e c l).2==0)with
   |false=>
    rw[show((startF e c l).2 != 0)=true by rw[bne,q];rfl];exact Qa _
   |true=>
    rw[show((startF e c l).2 != 0)=false by rw[bne,q];rfl];have h:=Qfq e c l;generalize startF e c l=st at h;refine Ea (v:=st.1.foldl (λm t=>bif whoB ab t.Bib then Yq m t.Distance true else m) []) ?_ ?_
    .refine QI st.1 (λm t=>bif whoB ab t.Bib then Yq m t.Distance true else m) [] (λm i=>(m,(i:Int))) (λm=>m) (by omega) rfl (λi x m a _=>?_) ?_
     .unfold F_ko;simp only[a.lt,a.ix,XH,a.nx,g];cases whoB ab x.Bib<;>exact Qa _
     .unfold F_ko;simp[Yu];exact Qa _
    generalize hd:st.1.foldl (λm t=>bif whoB ab t.Bib then Yq m t.Distance true else m) []=D;have k:∀d,Qz D d false=st.1.any λt=>whoB ab t.Bib&&(t.Distance==d):=λd=>by
     rw[<- hd,QgY (λt:Starter=>whoB ab t.Bib) (λt=>t.Distance) d,Qhb,Bool.false_or];refine congrArg (λf=>st.1.any f) (funext λt=>?_);rw[show decide (t.Distance=d)=(t.Distance==d)from rfl]
    refine Ea ?_ (Qa _);rw[<- QmK];refine Ea (Ev.first st.1 (λs=>(s.Bib==p.By)&&st.1.any λt=>whoB ab t.Bib&&(t.Distance==s.Distance)) (by omega) (λi x a=>?_) ?_) (Qa _)
    .unfold F_kx F_hh;simp only[a.lt,a.ix,XH,a.nx,k];refine Ea (Ea (Ql λ_=>Qa _) (Qa _)) ?_;cases(x.Bib==p.By)&&st.1.any λt=>whoB ab t.Bib&&(t.Distance==x.Distance)<;>exact Qa _
    .unfold F_kx;simp[Yu];exact Qa _
theorem QdT{α R:Type}{step:Nat->Int->Option (Ctl Int (Ctl Unit R))}(l:List α)(q:α->Bool)(v:α->R)(hl:l.length<=4611686018427387904)
  (f:∀i x,At l i x->Ev (λn=>step n (i:Int)) (bif q x then .done (.done (v x))else .cont ((i+1:Nat):Int)))(g:Ev (λn=>step n (l.length:Int)) (.done (.cont ()))):
  Ev (λn=>Go.Sw.iter (step n) n 0) ((l.find? q).elim (.cont ()) λx=>.done (v x)):=by
 have loop:∀(r:List α) (i:Nat),l.drop i=r->i<=l.length->EvI step i ((r.find? q).elim (.cont ()) λx=>.done (v x)):=by
  intro r
  induction r with
  |nil=>
   intro i a j;have:i=l.length:=by have:=Xq.1 a;omega
   subst this;exact Eh g
  |cons x r k=>
   intro i a j;obtain⟨e,d⟩:=Qx hl a;have s:=f i x e;rw[List.find?_cons];cases h:q x with
   |true=>
    rw[h]at s;exact Eh s
   |false=>
    rw[h]at s;exact Et s (k (i+1) d (by have:=e.lt';omega))
 exact(loop l 0 rfl (XS _)).ev
theorem Qjw{α:Type}(q:α->Bool)(l:List α):(l.find? q).isSome=l.any q:=by
 rw[XW,List.find?_isSome,Xt]
theorem QjH(C:List Fact)(k i:Int)(hl:C.length<=1048576):Ev (λn=>F_hf n C k i) (firstI (rulB k i) C 0):=by
 refine Ev.first C (rulB k i) (by omega) (λj x a=>?_) ?_
 .unfold F_kz;simp only[a.lt,a.ix,XH,a.nx];refine Ea (v:=rulB k i x) (Yl (Qa _) λn=>?_) ?_
  .unfold rulB;cases(x.Kind==10)<;>cases(x.Ruling.Case==k)<;>rfl
  .cases rulB k i x<;>exact Qa _
 .unfold F_kz;simp[Yu];exact Qa _
theorem QkP{C:List Fact}(w:C.Pairwise ltF){i:Nat}{x:Fact}(l:C[i]?=some x)(G:x.Kind=10):(firstI (rulB x.Ruling.Case x.Ruling.Instance) C 0 != (i:Int))=C.any λg=>rulB x.Ruling.Case x.Ruling.Instance g&&decide (cmpF g x<0):=by
 have d:rulB x.Ruling.Case x.Ruling.Instance x=true:=by rw[QaW G];simp
 have J:=(XJ.1 l).1;have f:=(XJ.1 l).2;rcases Qb7 (rulB x.Ruling.Case x.Ruling.Instance) C 0 with⟨t,h⟩|⟨j,y,t,h,H,E⟩
 .have:=Xs.1 h x (VE l);rw[d]at this;cases this
 .have u:=(XJ.1 h).1;have m:=(XJ.1 h).2;have no:=λk a g r=>by
   have B:g∈C.take j:=by
    refine VE (i:=k) ?_;rw[List.getElem?_take_of_lt a];exact r
   have:=Xs.1 E g B;simpa using this
  have F:j<=i:=by
   rcases Vz i j with q|q
   .have:=no i q x l;rw[d]at this;cases this
   .exact q
  rw[t];by_cases e:j=i
  .subst e;have s:(((0+j:Nat):Int) != (j:Int))=false:=by simp
   rw[s];refine(List.any_eq_false.2 λg r q=>?_).symm;rw[XU]at q;obtain⟨k,a,rfl⟩:=List.getElem_of_mem r;have n:ltF C[k] x:=show cmpF C[k] x<0 from Vs q.2;have p:k<j:=by
    rcases Nat.lt_trichotomy k j with z|z|z
    .exact z
    .subst z;rw[f]at n;exact absurd n (Qby _)
    .have:=VB.1 w j k u a z;rw[f]at this;exact absurd (QcZ _ _ _ n this) (Qby _)
   have:=no k p _ (XI a);rw[q.1]at this;cases this
  .have s:(((0+j:Nat):Int) != (i:Int))=true:=by
    rw[bne_iff_ne];omega
   rw[s];have:=VB.1 w j i u J (by omega);rw[f,m]at this;exact(Xt.2 ⟨y,VE h,by rw[H,Vx];exact Vr (show cmpF y x<0 from this)⟩).symm
theorem Jg{α β:Type}(q:α->Bool)(f:α->β):∀(l:List α) (a:List β),l.foldl (λa x=>bif q x then a++[f x]else a) a=a++(l.filter q).map f
 |[],a=>by simp
 |x::l,a=>by
  rw[XC,Jg q f l,Xd];cases q x<;>simp
theorem QkS(l:List Fact)(hl:l.length<=100):Ev (λn=>F_fy n l) (voidR l):=by
 have g:=Y2 l;obtain⟨c1,j⟩:=YY l;refine Ea (Qa1 l (by omega)) (Ea ?_ (Qa _));have e:voidR l=(canonS l).foldl (λa x=>bif voidB (canonS l) x then a++[refOf x]else a) []:=by
  rw[Jg];rfl
 rw[e];generalize canonS l=C at*;refine QI C (λa x=>bif voidB C x then a++[refOf x]else a) [] (λa i=>(a,(i:Int))) (λa=>a) (by omega) rfl (λi x a d h=>?_) ?_
 .have f:a.length<=100:=by
   rw[h,Jg,Ve,XZ];exact XT (VK ..) (by rw[Xw];omega)
  unfold F_li;simp only[d.lt,d.ix,XH,d.nx];refine Ea (v:=voidB C x) ?_ ?_
  .unfold voidB;cases q:(x.Kind==10)with
   |false=>exact Qa _
   |true=>
    refine Ea (QjH C _ _ (by omega)) ?_;rw[QkP c1.1 d.get (by simpa using q)];exact Qa _
  .cases voidB C x with
   |false=>exact Qa _
   |true=>
    rw[Jl a _ (by omega)];exact Qa _
 .unfold F_li;simp[Yu];exact Qa _
def standsR(l:List Fact)(k:Int):List Fact:=(canonS l).filter (standB (voidR l) k)
theorem QbF(l:List Fact)(k:Int)(hl:l.length<=100):Ev (λn=>F_av n l k) (standsR l k):=by
 have f:=Y2 l;have m:(voidR l).length<=100:=by
  unfold voidR voidS;rw[XZ];exact XT (VK ..) (by omega)
 unfold F_av standsR;refine Ea (QkS l hl) (Ea (Qa1 l (by omega)) ?_);generalize voidR l=vs at*;generalize canonS l=C at*;refine Ea (QgE C _ (by omega) (λi x a d g=>?_) λa=>?_) (Qa _)
 .have q:=d.lt';unfold F_lc;simp only[d.lt,d.ix,XH,d.nx];refine Ea (Ql λ_=>Qa _) (Ea (v:=standB vs k x) ?_ ?_)
  .have h:∀(r:List Ref) (b:Bool),r.foldl (λb v=>b&&(v != refOf x)) b=(b&& !(r.any λv=>decide (v=refOf x))):=by
    intro r
    induction r with
    |nil=>simp
    |cons v r p=>
     intro b;rw[XC,p,List.any_cons];have:(v != refOf x)= !decide (v=refOf x):=rfl;rw[this];cases b<;>cases decide (v=refOf x)<;>simp
   have e:standB vs k x=vs.foldl (λb v=>b&&(v != refOf x)) ((x.Kind==10)&&(x.Ruling.Case==k)):=by
    rw[h];unfold standB;rw[Bool.and_assoc]
   rw[e];generalize((x.Kind==10)&&(x.Ruling.Case==k))=b0;refine QI vs (λb v=>b&&(v != refOf x)) b0 (λb i=>(b,(i:Int))) (λb=>b) (by omega) rfl (λj v b hb _=>?_) ?_
   .unfold F_kq;simp only[hb.lt,hb.ix,hb.nx];cases b<;>exact Qa _
   .unfold F_kq;simp[Yu];exact Qa _
  .cases standB vs k x with
   |false=>exact Qa _
   |true=>
    rw[Jl a _ (by omega)];exact Qa _
 .unfold F_lc;simp[Yu];exact Qa _
def repR(l:List Fact)(k:Int):Fact×Bool:=(firstRep (canonS l) k).elim (Uk,false) λf=>(f,true)
theorem QbG(l:List Fact)(k:Int)(hl:l.length<=100):Ev (λn=>F_ay n l k) (repR l k):=by
 have d:=Y2 l;unfold F_ay repR firstRep;refine Ea (Qa1 l (by omega)) ?_;generalize canonS l=C at*;refine Ea (QdT C (repB k) (λf=>(f,true)) (by omega) (λi x a=>?_) ?_) ?_
 .unfold F_ks;simp only[a.lt,a.ix,XH,a.nx];refine Ea (v:=repB k x) (Yl (Qa _) λn=>?_) ?_
  .unfold repB;cases(x.Kind==8)<;>rfl
  .cases repB k x<;>exact Qa _
 .unfold F_ks;simp[Yu];exact Qa _
 .cases C.find? (repB k)<;>exact Qa _
def aboutR(l:List Fact)(k:Int):List Fact:=(firstRep (canonS l) k).toList++standsR l k
theorem Qc5{l:List Fact}{k:Int}(f:Fact):f∈aboutR l k↔f∈about l k:=by
 unfold aboutR standsR;rw[Qm5,VA,Xe,Option.mem_toList,(YY l).2 f];constructor
 .rintro(h|⟨⟨a,b⟩,c⟩)
  .exact .inr h
  .exact .inl ⟨a,b,c⟩
 .rintro(⟨a,b,c⟩|h)
  .exact .inr ⟨⟨a,b⟩,c⟩
  .exact .inl h
theorem Qdz(l:List Fact)(k:Int)(hl:l.length<=100):Ev (λn=>F_cc n l k) (!(about l k).isEmpty):=by
 have e:(about l k).isEmpty=(aboutR l k).isEmpty:=Qk9 λf=>(Qc5 f).symm;rw[e];refine Ea (QbG l k hl) (Ea ?_ (Qa _));unfold repR aboutR;cases firstRep (canonS l) k with
 |some f=>exact Qa _
 |none=>
  refine Ye (Ea (QbF l k hl) ?_);cases standsR l k with
  |nil=>exact Qa _
  |cons a r=>exact Yl (Qa _) λn=>by rw[Vr (by simp)];rfl
def concR(l:List Fact)(k:Int):List Int:=(firstRep (canonS l) k).toList.map (·.Report.Bib)++((standsR l k).filter λf=>f.Ruling.Bib != 0).map (·.Ruling.Bib)
theorem QeY(l:List Fact)(k:Int)(hl:l.length<=100):Ev (λn=>F_ev n l k) (concR l k):=by
 refine Ea (QbG l k hl) (Ea (v:=(firstRep (canonS l) k).toList.map (·.Report.Bib)) ?_ ?_)
 .unfold repR;cases firstRep (canonS l) k with
  |none=>exact Qa _
  |some f=>
   refine Yl (Qa _) λn=>?_;rfl
 refine Ea (QbF l k hl) (Ea ?_ (Qa _));have e:(standsR l k).length<=100:=by
  exact XT (VK ..) (by have:=Y2 l;omega)
 have g:((firstRep (canonS l) k).toList.map λf=>f.Report.Bib).length<=1:=by
  cases firstRep (canonS l) k<;>simp
 unfold concR;generalize(firstRep (canonS l) k).toList.map (λf=>f.Report.Bib)=a0 at g;rw[<- Jg (λf=>f.Ruling.Bib != 0) (λf:Fact=>f.Ruling.Bib)];generalize standsR l k=C at e;refine QI C (λa x=>bif x.Ruling.Bib != 0 then a++[x.Ruling.Bib]else a) a0 (λa i=>(a,(i:Int))) (λa=>a) (by omega) rfl (λi x a d j=>?_) ?_
 .have h:a.length<=101:=by
   rw[j,Jg (λf:Fact=>f.Ruling.Bib != 0) (λf=>f.Ruling.Bib),X0,XZ];have:=VK (λf=>f.Ruling.Bib != 0) (C.take i);rw[Xw]at this;omega
  unfold F_la;simp only[d.lt,d.ix,XH,d.nx];cases(x.Ruling.Bib != 0)with
  |false=>exact Qa _
  |true=>
   rw[Jl a _ (by omega)];exact Qa _
 .unfold F_la;simp[Yu];exact Qa _
theorem Qop(L:List Int)(b:Int)(hl:L.length<=1048576):Ev (λn=>F_cb n L b) (L.any λx=>x==b):=by
 refine Ea (QdT L (λx=>x==b) (λ_=>true) (by omega) (λi x a=>?_) ?_) ?_
 .unfold F_lm;simp only[a.lt,a.ix,XH,a.nx];cases(x==b)<;>exact Qa _
 .unfold F_lm;simp[Yu];exact Qa _
 .rw[<- Qjw];cases L.find? (λx=>x==b)<;>exact Qa _
theorem QoI(l:List Fact)(k b:Int):((concR l k).any λx=>x==b)=whoB (about l k) b:=by
 rw[<- Qns (λf=>Qc5 f) b];unfold concR whoB aboutR;rw[XW,XU,Xt,Xt];have g:∀f,f∈(firstRep (canonS l) k).toList->bibOf f=f.Report.Bib/\1<=f.Report.Bib:=λf a=>by
  obtain⟨i,h,m⟩:=QaZ (Option.mem_toList.1 a);unfold repB at m;rw[XU,Vv]at m;obtain⟨_,r,j⟩:=QgT h m.1;unfold bibOf;rw[j,show Uk.Ruling.Bib=0 from rfl];omega
 have d:∀f,f∈standsR l k->bibOf f=f.Ruling.Bib:=λf a=>by
  unfold standsR at a;rw[Xe]at a;obtain⟨i,h⟩:=a;unfold standB at h;rw[XU,Vv]at h;obtain⟨_,_,j⟩:=Qcg (((YY l).2 f).1 i).2 h.1;unfold bibOf;rw[j,show Uk.Report.Bib=0 from rfl];omega
 constructor
 .rintro⟨x,n,e⟩;rw[Vv]at e;subst e;rcases VA.1 n with q|q
  .obtain⟨f,a,rfl⟩:=Xf.1 q;obtain⟨i,h⟩:=g f a;refine⟨?_,f,by simp[a],by rw[i];simp⟩;have:¬f.Report.Bib=0:=by omega
   simp[this]
  .obtain⟨f,a,rfl⟩:=Xf.1 q;rw[Xe]at a;have h:=by simpa using a.2
   refine⟨by simp[h],f,by simp[a.1],by rw[d f a.1];simp⟩
 .rintro⟨p,f,a,e⟩;rw[Vv]at e;have h0':=by simpa using p
  refine⟨b,?_,by simp⟩;rcases VA.1 a with q|q
  .refine VA.2 (.inl (Xf.2 ⟨f,q,?_⟩));rw[<- (g f q).1];exact e
  .rw[d f q]at e;refine VA.2 (.inr (Xf.2 ⟨f,Xe.2 ⟨q,?_⟩,e⟩));rw[e];simp[h0']
theorem QoJ(l:List Fact)(k:Int)(hl:l.length<=100):(concR l k).length<=101:=by
 unfold concR;rw[X0,XZ,XZ];have e:=VK (λf=>f.Ruling.Bib != 0) (standsR l k);have a:(standsR l k).length<=100:=by
  exact XT (VK ..) (by have:=Y2 l;omega)
 have d:(firstRep (canonS l) k).toList.length<=1:=by cases firstRep (canonS l) k<;>simp
 omega
theorem Qmy{α:Type}{f:α->Int}{l:List α}(h:(l.map f).Nodup){x y:α}(g:x∈l)(d:y∈l)(e:f x=f y):x=y:=by
 induction l with
 |nil=>cases g
 |cons a r i=>
  have hn:=by rw[Vg,List.nodup_cons]at h;exact h
  rcases X4.1 g with q|q
  .rcases X4.1 d with z|z
   .rw[q,z]
   .exact absurd (Xf.2 ⟨y,z,by rw[<- e,q]⟩) hn.1
  .rcases X4.1 d with z|z
   .exact absurd (Xf.2 ⟨x,q,by rw[e,z]⟩) hn.1
   .exact i hn.2 q z
theorem Qq0{x:List Starter}{b:Int}{s:Starter}(f:(x.map (·.Bib)).Nodup)(d:s∈x)(a:s.Bib=b)(g:Starter->Bool):(x.any λt=>(t.Bib==b)&&g t)=g s:=by
 rw[XW,Xt];constructor
 .rintro⟨t,h,q⟩;rw[XU,Vv]at q;have e:=Qmy f h d (by rw[q.1,a]);rw[<- e];exact q.2
 .intro q;exact⟨s,d,by rw[q,a];simp⟩
theorem Qgb(e:Int)(c:Course)(l:List Fact)(p:Protest)(hl:l.length<=16)(he:Ev (λn=>F_al n c) e):Ev (λn=>F_dn n c l p) (standS e c l p):=by
 unfold F_dn standS;refine Ea (Qdz l p.Case (by omega)) ?_;have m:=QoJ l p.Case (by omega);have hw:=λb=>(Qop _ b (by omega)).eq (QoI l p.Case b);cases(about l p.Case).isEmpty with
 |true=>exact Qa _
 |false=>
  refine Ea (QeY l p.Case (by omega)) (Ea (Ep λ_=>Ea (hw p.By) (Qa _)) ?_);cases(p.By==0)||whoB (about l p.Case) p.By with
  |true=>exact Qa _
  |false=>
   refine Ea (Qga e c l hl he) ?_;have d:=Qfq e c l;refine Ea (QeD _ p.By (by omega)) ?_;have a:= @QiT e c l;generalize startF e c l=st at d a;cases q:(st.2==0)with
   |false=>
    rw[show(st.2 != 0)=true by rw[bne,q];rfl];exact Qa _
   |true=>
    obtain⟨r,_,_⟩:=a q;rw[show(st.2 != 0)=false by rw[bne,q];rfl];simp[Vm,XH];rcases Qhj st.1 p.By with⟨g,h⟩|⟨j,s,g,h,k⟩
    .rw[g];have e:(st.1.any λs=>(s.Bib==p.By)&&st.1.any λt=>whoB (about l p.Case) t.Bib&&(t.Distance==s.Distance))=false:=by
      refine List.any_eq_false.2 λs d z=>?_;rw[XU]at z;exact List.find?_eq_none.1 h s d z.1
     rw[e];exact Qa _
    .rw[g,Q5 (show¬((j:Int)<0)by omega)];have hb:=by
      have:=List.find?_some h;unfold ofBib at this;simpa using this
     rw[Qq0 r (VE k) hb λs=>st.1.any λt=>whoB (about l p.Case) t.Bib&&(t.Distance==s.Distance)];refine Ea (QdT st.1 (λt=>whoB (about l p.Case) t.Bib&&(t.Distance==s.Distance)) (λ_=>true) (by omega) (λi x f=>?_) ?_) ?_
     .unfold F_kt;simp only[f.lt,f.ix,XH,f.nx,YZ k];refine Ea (Ea (hw x.Bib) (Ql λ_=>Qa _)) ?_;cases whoB (about l p.Case) x.Bib&&(x.Distance==s.Distance)<;>exact Qa _
     .unfold F_kt;simp[Yu];exact Qa _
     .rw[<- Qjw];cases st.1.find? (λt=>whoB (about l p.Case) t.Bib&&(t.Distance==s.Distance))<;>exact Qa _
theorem Qge(e:Int)(c:Course)(l:List Fact)(k:Int)(hl:l.length<=100)(he:Ev (λn=>F_al n c) e):Ev (λn=>F_cg n c l k) (deadS e c l k):=by
 unfold F_cg deadS;refine Ea (v:= !((e==0)&& !(about l k).isEmpty)) ?_ ?_
 .refine Ea he ?_;cases h:(e==0)with
  |false=>
   rw[show(e != 0)=true by rw[bne,h];rfl];exact Qa _
  |true=>
   rw[show(e != 0)=false by rw[bne,h];rfl];exact Ye (Ea (Qdz l k hl) (Qa _))
 cases(e==0)&& !(about l k).isEmpty with
 |false=>exact Qa _
 |true=>
  refine Ea (QbG l k hl) ?_;rw[<- QnZ (λf=>Qc5 f)];have d:(standsR l k).length<=100:=by
   exact XT (VK ..) (by have:=Y2 l;omega)
  refine Ea (v:=maxAt (firstRep (canonS l) k).toList) ?_ ?_
  .unfold repR;cases h:firstRep (canonS l) k with
   |none=>exact Qa _
   |some f=>
    have:=(Qnv (QaZ h).2.1).1;refine Er (Qa _) ?_;show f.At=max 0 f.At;omega
  refine Ea (QbF l k hl) (Ea ?_ (Qa _));unfold aboutR maxAt;rw[XB];generalize(firstRep (canonS l) k).toList.foldl (λa f=>max a f.At) 0=a0;generalize standsR l k=C at d;refine QI C (λa f=>max a f.At) a0 (λa i=>(a,(i:Int))) (λa=>a) (by omega) rfl (λi x a ha _=>?_) ?_
  .unfold F_kn;simp only[ha.lt,ha.ix,XH,ha.nx];have:(if a<x.At then x.At else a)=max a x.At:=by
    by_cases h:a<x.At
    iterate 2 omega
   rw[this];exact Qa _
  .unfold F_kn;simp[Yu];exact Qa _
set_option maxRecDepth 100000
theorem Qql:F_ek 300=some true:=by kernel_rfl
theorem Qld{α:Type}[BEq α][LawfulBEq α](a:α):(a != a)=false:=by simp
end Go.Sw
