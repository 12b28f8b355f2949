/- The plain laws that a law needs, with no program in sight. -/
import Derived.Test.YtdlojdpflfdgcaaGreatDoorW22Cs
set_option linter.unusedVariables false
set_option linter.unusedSimpArgs false
namespace Go.Sw
open List(map)
open Int(toNat)
open Go.IntKind(i64 u64 u8)
def inR(lo hi x:Int):Bool:=decide (lo<=x)&&decide (x<=hi)
theorem Qhd(lo hi:Int)(l:List Int)(hl:l.length<=4611686018427387904):Ev (λn=>F_a n lo hi l) (l.all (inR lo hi)):=by
 have h:Ev (λn=>F_es n l lo hi) (l.any λx=> !inR lo hi x):=by
  refine Ev.contains l _ (λn x=>F_hd n x lo hi) hl λx _=>?_;refine Ea ((Er λh=>Qa _).eq ?_) (Qa _);unfold inR
  grind
 refine Ea h ((Qa _).eq ?_)
 grind
def okN(c:Nat):Bool:=(decide (97<=c)&&decide (c<=122))||(decide (48<=c)&&decide (c<=57))||decide (c=95)
def okAN(c:Nat):Bool:=decide (97<=c)&&decide (c<=122)
def okC(c:UInt8):Bool:=okN c.toNat
def okA(c:UInt8):Bool:=okAN c.toNat
def kwL:List (List UInt8):=[[99,111,117,114,115,101],[109,97,116,115],[115,116,97,114,116],[112,97,115,115],[101,110,100],[108,101,103],[116,111],[100,105,115,116,97,110,99,101],[103,117,110],[99,104,105,112],[115,108,111,116],[108,97,112,115],[108,97,112],[99,117,116,111,102,102],[101,120,116,114,97],[119,97,118,101],[111,102,102,101,110,99,101],[111,117,116],[99,97,116,101,103,111,114,121],[112,114,105,122,101],[97,108,108],[116,105,101,115],[105,102],[101,108,115,101],[97,110,100],[111,114],[110,111,116],[111,108,100,101,114],[121,111,117,110,103,101,114],[98,105,98],[100,114,97,119],[102,105,101,108,100],[115,104,111,114,116],[102,97,117,108,116,115],[109,105,115,115,101,115],[115,116,114,97,121,115],[119,105,110,100,111,119],[114,101,115,105,100,117,97,108],[100,114,105,102,116],[112,114,111,116,101,115,116],[102,101,101],[100,101,97,100,108,105,110,101]]
theorem QoT(c d:Bool):(bif c then some c else some d)=some (c||d):=by grind
theorem Qmb(c d:Bool):(bif c then some true else some d)=some (c||d):=by grind
theorem Qgx(n:Nat)(s:List UInt8):F_cj n s=some (kwL.contains s):=by
 unfold F_cj;simp only[QoT,Qmb,XG];simp only[kwL,List.contains_cons,List.contains_nil,Bool.or_assoc]
def kwsOf:List UInt8->List (List UInt8)
 |[]=>[]
 |b::l=>(bif b==32&& !(l.dropWhile λc=>c != 32).isEmpty then[l.takeWhile λc=>c != 32]else[])++kwsOf l
theorem Qei:∀(l s:List UInt8),(∀c∈s,c≠32)->(s++[32]).isPrefixOf l=((l.takeWhile λc=>c != 32)==s&& !(l.dropWhile λc=>c != 32).isEmpty)
 |[],s,h=>by simp
 |b::l,[],h=>by
  by_cases e:b=32
  .subst e;simp
  .have e1:=by simpa using e
   have a:(32==b)=false:=by grind
   simp[List.isPrefixOf,e1,a]
 |b::l,c::s,h=>by
  have f:=h c (by simp);have d:=Qei l s (by grind)
  grind[List.takeWhile_cons,List.dropWhile_cons]
theorem contains_cons(b:UInt8)(l t:List UInt8)(a:t≠[]):Lib.contains (b::l) t=(t.isPrefixOf (b::l)||Lib.contains l t):=by
 unfold Lib.contains;rw[show Lib.index (b::l) t=if t.isPrefixOf (b::l)then 0 else if Lib.index l t== -1 then-1 else Lib.index l t+1 from rfl]
 grind
theorem Qb8(s:List UInt8)(h:∀c∈s,c≠32):∀l,Lib.contains l (32::(s++[32]))=(kwsOf l).contains s
 |[]=>by rfl
 |b::l=>by
  rw[contains_cons b l _ (by simp),Qb8 s h l];simp only[kwsOf,List.isPrefixOf,Qei l s h]
  grind
def wordsL:List UInt8:=[32,99,111,117,114,115,101,32,109,97,116,115,32,115,116,97,114,116,32,112,97,115,115,32,101,110,100,32,108,101,103,32,116,111,32,100,105,115,116,97,110,99,101,32,103,117,110,32,99,104,105,112,32,115,108,111,116,32,108,97,112,115,32,108,97,112,32,99,117,116,111,102,102,32,101,120,116,114,97,32,119,97,118,101,32,111,102,102,101,110,99,101,32,111,117,116,32,99,97,116,101,103,111,114,121,32,112,114,105,122,101,32,97,108,108,32,116,105,101,115,32,105,102,32,101,108,115,101,32,97,110,100,32,111,114,32,110,111,116,32,111,108,100,101,114,32,121,111,117,110,103,101,114,32,98,105,98,32,100,114,97,119,32,102,105,101,108,100,32,115,104,111,114,116,32,102,97,117,108,116,115,32,109,105,115,115,101,115,32,115,116,114,97,121,115,32,119,105,110,100,111,119,32,114,101,115,105,100,117,97,108,32,100,114,105,102,116,32,112,114,111,116,101,115,116,32,102,101,101,32,100,101,97,100,108,105,110,101,32]
theorem QqM:kwsOf wordsL=kwL:=by decide+kernel
def classTab:List Int:=(List.range 256).map λi=>if 97<=i/\i<=122\/65<=i/\i<=90 then 2 else if 48<=i/\i<=57 then 3 else if i∈[123,125,40,41,91,93,59,44,61,60,62]then 4 else if i∈[32,9,10,13]then 1 else 0
theorem QkT:Ev F_ds classTab:=by
 unfold F_ds;refine Ea (Qcv (step:=F_hb 0) 40 (b:=(iter (F_hb 0) 40 (List.replicate 256 0,97)).getD []) (by decide+kernel)) ?_;refine Ea (Qcv (step:=F_jl 0) 40 (b:=(iter (F_jl 0) 40 ((iter (F_hb 0) 40 (List.replicate 256 0,97)).getD [],48)).getD []) (by decide+kernel)) ?_;generalize hb:(iter (F_jl 0) 40 ((iter (F_hb 0) 40 (List.replicate 256 0,97)).getD [],48)).getD []=b2;refine Ea (Qcv (step:=F_lb 0) 40 (b:=(iter (F_lb 0) 40 (b2,0)).getD []) (by subst hb;decide+kernel)) ?_;refine Ea (Qcv (step:=F_ll 0) 40 (b:=classTab) (by subst hb;decide+kernel)) ?_;exact Ez (by decide+kernel)
theorem Qm9:((List.range 256).all λi=> !okN i||decide (classTab[i]?=some (if okAN i then 2 else if i=95 then 0 else 3)))=true:=by decide+kernel
theorem QoR{c:UInt8}(h:okC c=true):QeM 256 classTab (c.toNat:Int)=some (if okA c then 2 else if c.toNat=95 then 0 else 3):=by
 have a:=Xs.1 Qm9 c.toNat (List.mem_range.2 c.toNat_lt);unfold okC at h;rw[h]at a;simp[Xh,Bool.false_or,Vk]at a;unfold QeM;rw[show Nat.beq classTab.length 256=true by decide+kernel,Vi,YL a];rfl
def goodS(s:List UInt8):Bool:=decide (1<=s.length)&&decide (s.length<=24)&&(s.head?).any okA&&s.all okC
def isNameS(s:List UInt8):Bool:=goodS s&& !kwL.contains s
theorem QmY(s:List UInt8)(h:goodS s=true):Ev (λn=>F_do n s) true:=by
 unfold goodS at h;simp only[XT,Vk,Xs]at h;obtain⟨⟨⟨d,k⟩,j⟩,e⟩:=h;unfold F_do;refine Ea QkT ?_;refine J1 (v:=List.replicate 256 0) (by decide+kernel) ?_;refine J1 (v:=classTab) (by decide+kernel) ?_;refine Ea (v:=Ctl.cont ()) (Ew (λi=>(i:Int)) s.length rfl (λi f=>?_) ?_) ?_
 .have a:=Ju (x:=s[i]) (by omega) (XH f);have g:=e _ a.mem;unfold F_kk;simp only[a.lt,Vi,a.ix,XG,QoR g,a.nx];cases i with
  |zero=>
   have:okA s[0]=true:=by
    cases s with
    |nil=>simp at d
    |cons c r=>grind
   simp[this];exact Qa _
  |succ i=>
   grind[Qa]
 .simp_all[F_kk,Qa]
 .refine Ez ?_;cases s with
  |nil=>simp at d
  |cons c r=>rfl
theorem QmM{s:List UInt8}(h:goodS s=true):∀c∈s,c≠32:=by
 unfold goodS at h;simp[XT,Xs]at h;rintro c a rfl;exact absurd (h.2 _ a) (by decide)
theorem Qoe{s:List UInt8}(h:goodS s=true):s.length<=24:=by
 simp_all[goodS]
theorem QkV(s:List UInt8)(h:goodS s=true):Ev (λn=>F_gn n s) (kwL.contains s):=by
 refine Ea (Ea (QmY s h) (Qkd ?_)) (Qa _);have a:=Qoe h;refine J1 (by unfold cat;rw[XP (by simp;omega)];rfl) (J1 (by unfold cat;rw[XP (by simp;omega)];rfl) ?_);refine J1 ?_ (Qa _);show QfI wordsL ([32]++s++[32])=some (kwL.contains s);unfold QfI;rw[show Nat.blt wordsL.length 4294967281=true by decide+kernel,Vi]
 grind[Qb8,QmM,QqM]
theorem ch_lt(c:UInt8)(k:Nat):decide ((c.toNat:Int)<(k:Int))=decide (c.toNat<k):=by
 simp
theorem badC(c:UInt8):(bif decide ((c.toNat:Int)<97)then(bif decide ((c.toNat:Int)<48)then some ((c.toNat:Int) != 95)else(bif decide (57<(c.toNat:Int))then some ((c.toNat:Int) != 95)else some false))else(bif decide (122<(c.toNat:Int))then(bif decide ((c.toNat:Int)<48)then some ((c.toNat:Int) != 95)else(bif decide (57<(c.toNat:Int))then some ((c.toNat:Int) != 95)else some false))else some false))=some (!okC c):=by
 unfold okC okN;generalize c.toNat=k;have e:((k:Int) != 95)= !decide (k=95):=by
  grind
 grind
theorem QgZ(n:Nat)(s:List UInt8):(bif decide ((s.length:Int)<1)then some true else(bif decide (24<(s.length:Int))then some true else(idx s 0).bind λx10=>(bif decide ((x10.toNat:Int)<97)then some true else(idx s 0).bind λx12=>some (decide (122<(x12.toNat:Int))))))=some (!(decide (1<=s.length)&&decide (s.length<=24)&&(s.head?).any okA)):=by
 cases s with
 |nil=>rfl
 |cons c r=>
  by_cases h:(c::r).length<=24
  .rw[Y3 (show¬24<((c::r).length:Int)by omega),Vj];have e:idx (c::r) 0=some c:=rfl;simp[e,XG];simp[XW]at h;have a:r.length<=23:=by omega
   simp[List.head?_cons,Option.any_some,okA,okAN];rw[show(97:Int)=(97:Nat)from rfl,ch_lt];by_cases f:c.toNat<97
   .grind
   .have d:97<=c.toNat:=by omega
    simp[f,d,a];by_cases q:c.toNat<=122
    iterate 2 grind
  grind
theorem Qhi(s:List UInt8)(hl:s.length<=1048576):Ev (λn=>F_j n s) (isNameS s):=by
 refine Ea (Ez (QgZ 0 s)) ?_;unfold isNameS;cases g:(decide (1<=s.length)&&decide (s.length<=24)&&(s.head?).any okA)with
 |false=>
  have:goodS s=false:=by unfold goodS;rw[g];rfl
  rw[this];exact Qa _
 |true=>
  have f:goodS s=s.all okC:=by unfold goodS;rw[g];rfl
  refine Ea (Jn s (λc=> !okC c) (λi=>(i:Int)) (Ctl.done false) (Ctl.cont ()) (by omega) rfl (λi x a d=>?_) (λi x a d=>?_) ?_) ?_
  .unfold F_kd;simp only[a.lt,a.ix,XG,badC,d,a.nx];exact Qa _
  .unfold F_kd;simp only[a.lt,a.ix,XG,badC,d];exact Qa _
  .simp_all[F_kd,Qa]
  .rw[f];have e:s.any (λc=> !okC c)= !s.all okC:=by grind
   rw[e];cases q:s.all okC with
   |true=>
    exact Ea (QkV s (f.trans q)) (Qa _)
   |false=>
    exact Qa _
theorem Qbw(s:List UInt8)(hl:s.length<=1048576):Ev (λn=>F_by n s) (isNameS s):=by
 refine Ea (Ez (QgZ 0 s)) ?_;unfold isNameS;cases d:(decide (1<=s.length)&&decide (s.length<=24)&&(s.head?).any okA)with
 |false=>
  have:goodS s=false:=by unfold goodS;rw[d];rfl
  rw[this];exact Qa _
 |true=>
  have f:goodS s=s.all okC:=by unfold goodS;rw[d];rfl
  cases s with
  |nil=>simp at d
  |cons c r=>
   have g:okC c=true:=by
    simp_all[okA,okC,okN,okAN]
   have hr:=by
    simp[XT,Vk,XW]at d;omega
   have j:∀(i:Nat) (x:UInt8),At r i x->decide (((i+1:Nat):Int)<(c::r).length)=true/\idx (c::r) (i+1:Nat)=some x/\i64.wrap ((i+1:Nat)+1)=i+1+1:=by
    intro i x a;have:=a.lt';exact⟨Vn (by simp;omega),YL (by simpa using a.get),YG (by omega)⟩
   refine Ea (Jn r (λc=> !okC c) (λi=>((i+1:Nat):Int)) (Ctl.done false) (Ctl.cont ()) (by omega) rfl (λi x a h=>?_) (λi x a h=>?_) ?_) ?_
   iterate 2 grind[F_ju,badC,Qa]
   .unfold F_ju;rw[Y3 (by simp),Vj];exact Qa _
   .rw[f];have e:r.any (λc=> !okC c)= !(c::r).all okC:=by rw[List.all_cons,g,Vu,List.not_all_eq_any_not]
    rw[e];cases q:(c::r).all okC with
    |true=>
     exact Ea (Ez (Qgx 0 _)) (Qa _)
    |false=>
     exact Qa _
def diffS:List (List UInt8)->List (List UInt8)->Bool
 |_,[]=>true
 |seen,x::r=>isNameS x&& !seen.contains x&&diffS (seen++[x]) r
theorem Qge(l:List (List UInt8))(i:Nat)(x:List UInt8)(h:At l i x):diffS (l.take i) (l.drop i)=(isNameS x&& !(l.take i).contains x&&diffS (l.take (i+1)) (l.drop (i+1))):=by
 rw[h.drop,h.take];rfl
theorem Qb6{α:Type}(l:List α)(a:α->List UInt8)(g:Nat->α->Option Unit)(hg:∀n x,g n x=some ())(hl:l.length<=1048576)(m:∀x∈l,(a x).length<=1048576):
  Ev (λn=>((iter (λs:(List (List UInt8×Bool))×Int=>bif decide (s.2<(l.length:Int))then(idx l s.2).bind λx35=>(g n x35).bind λr36=>((F_j n (a x35)).bind λr42=>(bif (!r42)then some true else(some (Q2 s.1 (a x35) false)).bind λv44=>some v44):Option Bool).bind λb40=>(bif b40 then some (.done (.done false))else(some (QQ s.1 (a x35) true)).bind λm46=>some (.cont (m46,i64.wrap (s.2+1))))else some (.done (.cont ()))) n ([],0):Option (Ctl Unit Bool)).bind λb28=>
   match b28 with
   |.cont _=>some true
   |.done s=>some s:Option Bool)) (diffS [] (l.map a)):=by
 have h:l.length<=4611686018427387904:=by omega
 have f:(l.map a).length<=4611686018427387904:=by grind
 have j:=QbE (B:=Ctl Unit Bool) l (step:=λn s=>bif decide (s.2<(l.length:Int))then(idx l s.2).bind λx35=>(g n x35).bind λr36=>((F_j n (a x35)).bind λr42=>(bif (!r42)then some true else(some (Q2 s.1 (a x35) false)).bind λv44=>some v44)).bind λb40=>(bif b40 then some (.done (.done false))else(some (QQ s.1 (a x35) true)).bind λm46=>some (.cont (m46,i64.wrap (s.2+1))))else some (.done (.cont ())))
  (λi=>(Yu a true (l.take i),i)) (λi=>bif diffS ((l.map a).take i) ((l.map a).drop i)then .cont ()else .done false) h rfl (λi x e=>?_) ?_
 .refine Ea j ?_
  grind[Qa]
 .have ha2:=Ju f (by rw[Xo,e.get];rfl);simp only[Qge _ _ _ ha2];have d:Ev (λn=>(F_j n (a x)).bind λr42=>(bif (!r42)then some true else(some (Q2 (Yu a true (l.take i)) (a x) false)).bind λv44=>some v44)) (!(isNameS (a x)&& !((l.map a).take i).contains (a x))):=by
   refine Ea (Qhi (a x) (m x e.mem)) ?_;cases isNameS (a x)with
   |false=>exact Qa _
   |true=>
    simp_all[Qa,Qek]
  cases k:(isNameS (a x)&& !((l.map a).take i).contains (a x))with
  |true=>
   rw[k]at d;refine .inl ⟨?_,by simp⟩;simp only[e.lt,e.ix,XG,hg];refine Ea d ?_;simp[e.nx];rw[e.take,QhS];exact Qa _
  |false=>
   rw[k]at d;refine .inr ?_;simp only[e.lt,e.ix,XG,hg];refine Ea d ?_;exact Qa _
 .simp[Qgc];rw[show(l.map a).drop l.length=[]by simp];exact Qa _
theorem Qq2{α:Type}{l:List α}{x:α}(h:l.length<=140737488):app l [x]=some (l++[x]):=JW l x (by omega)
theorem QeO(l:List (List UInt8))(hl:l.length<=1048576)(g:∀x∈l,x.length<=1048576):Ev (λn=>F_t n l) (diffS [] l):=by
 have f:l.length<=4611686018427387904:=by omega
 refine Ea (QbE l (λi=>(i:Int)) (λi=>bif diffS (l.take i) (l.drop i)then .cont ()else .done false) f rfl (λi x a=>?_) ?_) ?_
 .simp only[Qge _ _ _ a];unfold F_kw;simp only[a.lt,a.ix,XG];cases k:isNameS x with
  |false=>
   exact .inr (Ea ((Qbw x (g x a.mem)).eq k) (Qa _))
  |true=>
   have r:=a.lt';have inner:Ev (λn=>iter (F_fr n l i) n 0) (bif (l.take i).contains x then Ctl.done (Ctl.done (Ctl.done false))else Ctl.cont ()):=by
    have e:(l.take i).contains x=(l.take i).any λy=>y==x:=by
     grind
    rw[e];have q:(l.take i).length=i:=by simp;omega
    refine Jn (l.take i) (λy=>y==x) (λi=>(i:Int)) _ _ (by omega) rfl (λj y d m=>?_) (λj y d m=>?_) ?_
    .have h:=d.lt';have hjg:=by
      have:=d.get;rw[List.getElem?_take]at this;split at this
      .exact this
      .cases this
     unfold F_fr;rw[YH (show(j:Int)<i by omega)];simp only[YL hjg,a.ix,XG,m,d.nx];exact Qa _
    .have h:=d.lt';have hjg:=by
      have:=d.get;rw[List.getElem?_take]at this;split at this
      .exact this
      .cases this
     unfold F_fr;rw[YH (show j<(i:Int)by omega)];simp only[YL hjg,a.ix,XG,m];exact Qa _
    grind[F_fr,Qa]
   cases p:(l.take i).contains x with
   |true=>
    rw[p]at inner;exact .inr (Ea ((Qbw x (g x a.mem)).eq k) (Yw (Ea inner (Qa _))))
   |false=>
    rw[p]at inner;refine .inl ⟨Ea ((Qbw x (g x a.mem)).eq k) (Yw (Ea inner ?_)),by simp⟩;simp only[a.nx];exact Qa _
 .unfold F_kw;simp only[Qgc,Xr];exact Qa _
 grind[Qa]
theorem Qaf{α β:Type}(l:List α)(f:α->β)(hl:l.length<=140737488):Ev (λn=>iter (λs:(List β)×Int=>bif decide (s.2<(l.length:Int))then(idx l s.2).bind λx15=>(app s.1 [f x15]).bind λl16=>some (Ctl.cont (l16,i64.wrap (s.2+1)))else some (Ctl.done s.1)) n (([]:List β),(0:Int))) (l.map f):=by
 have e:∀l:List α,l.foldl (λa x=>a++[f x]) []=l.map f:=by
  intro l;have h:∀(l:List α) (a:List β),l.foldl (λa x=>a++[f x]) a=a++l.map f:=by
   intro l
   induction l with
   |nil=>simp
   |cons x l j=>grind
  grind
 rw[<- e l];refine QS l (λa x=>a++[f x]) [] (λa i=>(a,(i:Int))) (λa=>a) (by omega) rfl (λi x a g d=>?_) ?_
 .rw[e]at d;have:a.length<=140737488:=by grind
  simp only[g.lt,g.ix,Qq2 this,g.nx];exact Qa _
 .simp[Qgc];exact Qa _
def namesS(c:Course):Bool:=isNameS c.Name&&(diffS [] (c.Mats.map (·.Name))&&(diffS [] (c.Distances.map (·.Name))&&(diffS [] (c.Waves.map (·.Name))&&(diffS [] (c.Offences.map (·.Name))&&diffS [] (c.Categories.map (·.Name))))))
structure CourseOk (c:Course):Prop where
 name:c.Name.length<=1048576
 mats:c.Mats.length<=1048576
 matsN:∀x∈c.Mats,x.Name.length<=1048576
 legs:c.Legs.length<=1048576
 dist:c.Distances.length<=1048576
 distN:∀x∈c.Distances,x.Name.length<=1048576
 cut:∀x∈c.Distances,x.Cutoffs.length<=1048576
 wave:c.Waves.length<=1048576
 waveN:∀x∈c.Waves,x.Name.length<=1048576
 off:c.Offences.length<=1048576
 offN:∀x∈c.Offences,x.Name.length<=1048576
 cat:c.Categories.length<=1048576
 catN:∀x∈c.Categories,x.Name.length<=1048576
 prize:c.Prizes.length<=1048576
theorem Qow(c:Course)(w:CourseOk c):Ev (λn=>F_ge n c) (namesS c):=by
 refine Ea (Ea (Qhi c.Name w.name) (Eh λ_=>?_)) (Qa _);have d:Ev (λn=>F_gk n c.Mats) (diffS [] (c.Mats.map (·.Name))):=by exact Qb6 c.Mats (·.Name) F_fb (λ_ _=>rfl) w.mats w.matsN
 have f:Ev (λn=>F_gc n c.Distances) (diffS [] (c.Distances.map (·.Name))):=by exact Qb6 c.Distances (·.Name) F_fd (λ_ _=>rfl) w.dist w.distN
 have e:Ev (λn=>F_ev n c.Waves) (diffS [] (c.Waves.map (·.Name))):=by exact Qb6 c.Waves (·.Name) F_fn (λ_ _=>rfl) w.wave w.waveN
 have a:Ev (λn=>F_ey n c.Offences) (diffS [] (c.Offences.map (·.Name))):=by exact Qb6 c.Offences (·.Name) F_fv (λ_ _=>rfl) w.off w.offN
 have g:Ev (λn=>F_fo n c.Categories) (diffS [] (c.Categories.map (·.Name))):=by exact Qb6 c.Categories (·.Name) F_gj (λ_ _=>rfl) w.cat w.catN
 refine Ea d (Eh λ_=>(Ea f (Eh λ_=>?_)));refine Ea e (Eh λ_=>?_);exact Ea a (Eh (by grind))
structure Short (c:Course):Prop where
 mats:c.Mats.length<=140737488
 dist:c.Distances.length<=140737488
 wave:c.Waves.length<=140737488
 off:c.Offences.length<=140737488
 cat:c.Categories.length<=140737488
theorem QjG(c:Course)(w:CourseOk c)(s:Short c):Ev (λn=>F_ej n c) (namesS c):=by
 refine Ea (Qaf c.Mats (·.Name) s.mats) (Ea (Qaf c.Distances (·.Name) s.dist) ?_);refine Ea (Qaf c.Waves (·.Name) s.wave) (Ea (Qaf c.Offences (·.Name) s.off) ?_);refine Ea (Qaf c.Categories (·.Name) s.cat) (Ea ?_ (Qa _));refine Ea (Qbw c.Name w.name) (Eh λ_=>?_);have mk:∀{α:Type} (l:List α) (nm:α->List UInt8),l.length<=1048576->(∀x∈l,(nm x).length<=1048576)->Ev (λn=>F_t n (l.map nm)) (diffS [] (l.map nm)):=by
  simp_all[QeO]
 refine Ea (mk c.Mats (·.Name) w.mats w.matsN) (Eh λ_=>(Ea (mk c.Distances (·.Name) w.dist w.distN) (Eh λ_=>?_)));refine Ea (mk c.Waves (·.Name) w.wave w.waveN) (Eh λ_=>(Ea (mk c.Offences (·.Name) w.off w.offN) (Eh λ_=>?_)));exact Ea (mk c.Categories (·.Name) w.cat w.catN) (Qa _)
theorem QaI{n:Nat}(h:n<=1048576):i64.wrap ((n:Int)-1)=(n:Int)-1:=Yb (by omega) (by omega)
theorem JV(x lo hi:Int):Ev (λn=>F_c n x lo hi) (inR lo hi x):=by
 exact Ea (Eh λ_=>Qa _) (Qa _)
theorem Qf8(c:Course)(w:CourseOk c)(x:Int):Ev (λn=>F_m n c x) (inR 0 ((c.Mats.length:Int)-1) x):=by
 unfold F_m;rw[QaI w.mats];exact Ea (JV _ _ _) (Qa _)
mutual
def szP:Part->Nat
 |⟨_,_,ps⟩=>1+szPs ps
def szPs:List Part->Nat
 |[]=>0
 |p::r=>szP p+szPs r
end
theorem Je(p:Part):szP p=1+szPs p.Parts:=by cases p;rfl
theorem JS{p:Part}:∀{l:List Part},p∈l->szP p<=szPs l
 |q::r,h=>by
  simp[szPs];rcases X0.1 h with rfl|h
  .omega
  .have:=JS h;omega
mutual
def partS(k:Int):Part->Bool
 |⟨m,laps,ps⟩=>bif laps==0 then inR 0 k m&&((ps.length:Int)==0)else inR 1 64 laps&&((m==0)&&(decide (0<(ps.length:Int))&&partsS k ps))
def partsS(k:Int):List Part->Bool
 |[]=>true
 |p::r=>partS k p&&partsS k r
end
theorem QbZ(k:Int)(p:Part):partS k p=bif p.Laps==0 then inR 0 k p.Mat&&((p.Parts.length:Int)==0)else inR 1 64 p.Laps&&((p.Mat==0)&&(decide (0<(p.Parts.length:Int))&&partsS k p.Parts)):=by cases p;rfl
theorem Qba(k:Int):∀l:List Part,partsS k l=l.all (partS k)
 |[]=>rfl
 |p::r=>by simp[partsS,List.all_cons,Qba k r]
theorem YW{p:Part}(h:Part.wf p):p.Parts.length<=1048576/\ ∀x∈p.Parts,Part.wf x:=by
 cases p
 grind[Part.wf,QdD]
theorem QN(lo hi x:Int):Ev (λn=>F_a n lo hi [x]) (inR lo hi x):=(Qhd lo hi [x] (by simp)).eq (by simp)
theorem QaN(lo hi x y:Int):Ev (λn=>F_a n lo hi [x,y]) (inR lo hi x&&inR lo hi y):=(Qhd lo hi [x,y] (by simp)).eq (by simp)
theorem Qov(k:Int):∀(m:Nat) (l:List Part),szPs l<=m->l.length<=1048576->(∀x∈l,Part.wf x)->Ev (λn=>F_am n l k) (partsS k l):=by
 intro m
 induction m with
 |zero=>
  intro l a g e;cases l with
  |nil=>
   refine QY ?_;exact JA [] (partS k) (λn x=>F_dn (F_am n) n x k) (by simp) (by simp)
  |cons p r=>
   simp only[szPs,Je]at a;omega
 |succ m h=>
  intro l a g e;refine QY ?_;rw[Qba];refine JA l (partS k) (λn x=>F_dn (F_am n) n x k) (by omega) λp d=>?_;rw[QbZ];have f:=JS d;rw[Je]at f;obtain⟨w1,w2⟩:=YW (e p d);refine QbG (λ_=>?_) (λ_=>?_)
  .exact Ea (Ea (QN _ _ _) (Eh λ_=>Qa _)) (Qa _)
  .exact Ea (Ea (QN _ _ _) (Eh λ_=>Eh λ_=>Eh (by grind))) (Qa _)
theorem QmX(c:Course)(w:CourseOk c):∀(m:Nat) (l:List Part),szPs l<=m->l.length<=1048576->(∀x∈l,Part.wf x)->Ev (λn=>F_q n c l) (partsS ((c.Mats.length:Int)-1) l):=by
 intro m
 induction m with
 |zero=>
  intro l e j f;cases l with
  |nil=>
   refine QY ?_;show Ev (λn=>B_q (F_q n) n c []) _;exact⟨1,λn s=>by obtain⟨k,rfl⟩:∃k,n=k+1:=⟨n-1,by omega⟩;rfl⟩
  |cons p r=>
   simp only[szPs,Je]at e;omega
 |succ m g=>
  intro l e j f;refine QY ?_;show Ev (λn=>B_q (F_q n) n c l) _;rw[Qba];have step:∀(i:Nat) (x:Part),At l i x->Ev (λn=>F_hh n c l (F_q n) i) (bif partS (c.Mats.length-1) x then .cont (i+1)else .done (.done false)):=by
   intro i x a;unfold F_hh;simp only[a.lt,a.ix,XG,a.nx];have h:=JS a.mem;rw[Je]at h;obtain⟨w1,w2⟩:=YW (f x a.mem);refine Ea (Eh λ_=>Ea (Qf8 c w _) (Eh λ_=>Qa _)) (Ea (Ea (JV _ _ _) (Eh λ_=>Eh λ_=>Eh λ_=>Ea (g x.Parts (by omega) w1 w2) (Qa _))) ?_);rw[QbZ];cases q:(x.Laps==0)with
   |true=>
    have e0:=by simpa using q
    have:inR 1 64 x.Laps=false:=by rw[e0];rfl
    grind[Qa]
   |false=>
    generalize(inR 1 64 x.Laps&&((x.Mat==0)&&(decide (0<(x.Parts.length:Int))&&partsS (c.Mats.length-1) x.Parts)))=b;cases b<;>exact Qa _
  refine Ea (Jn l (λx=> !partS (c.Mats.length-1) x) (λi=>(i:Int)) (Ctl.done false) (Ctl.cont ()) (by omega) rfl (λi x a d=>?_) (λi x a d=>?_) ?_) ?_
  .refine(step i x a).eq ?_;have:=by simpa using d
   rw[this];rfl
  .refine(step i x a).eq ?_;have:=by simpa using d
   rw[this];rfl
  .unfold F_hh;simp[Qgc];exact Qa _
  grind[Qa]
def legS(k:Int)(l:Leg):Bool:=(inR 0 k l.From&&inR 0 k l.To)&&((inR 0 68719476736 l.Min&&inR 0 68719476736 l.Max)&&decide (l.Min<=l.Max))
def cutS(k:Int)(x:Cutoff):Bool:=inR 0 k x.Mat&&(decide (1<=x.Lap)&&inR 0 1099511627776 x.Limit)
def distS(k:Int)(d:Distance):Bool:=inR 1 3 d.Timing&&(inR (-1) k d.Extra&&(partsS k d.Route&&d.Cutoffs.all (cutS k)))
def offS(o:Offence):Bool:=bif o.Out then(o.Time==0)&&(o.Laps==0)else bif o.Laps != 0 then(o.Time==0)&&inR 1 64 o.Laps else inR 0 68719476736 o.Time
def catS(x:Category):Bool:=(inR 0 120 x.From&&inR 0 120 x.To)&&decide (x.From<=x.To)
def prizeS(c:Course)(p:Prize):Bool:=inR 0 ((c.Distances.length:Int)-1) p.Distance&&(inR (-1) ((c.Categories.length:Int)-1) p.Category&&(inR 1 4000 p.Rank&&inR 1 1125899906842624 p.Amount))
def lastS(c:Course):Bool:=(inR 0 16 c.Faults.Misses&&inR 0 16 c.Faults.Strays)&&((inR 0 4294967296 c.Faults.Window&&inR 0 4294967296 c.Faults.Residual)&&(inR 0 100000 c.Faults.Drift&&(inR 0 1125899906842624 c.Fee&&inR 0 1099511627776 c.Deadline)))
def legKey(l:Leg):Uh:={from_:=l.From,to_:=l.To}
def prizeKey(p:Prize):Uj:={distance:=p.Distance,category:=p.Category,rank:=p.Rank}
def numbersS(c:Course):Bool:=
 let k:=(c.Mats.length:Int)-1
 c.Mats.all (λm=>inR 1 3 m.Kind)&&(c.Legs.all (legS k)&&(decide ((c.Legs.map legKey).Nodup)&&(c.Distances.all (distS k)&&(c.Waves.all (λw=>inR 0 1099511627776 w.Gun)&&(c.Offences.all offS&&(c.Categories.all catS&&(c.Prizes.all (prizeS c)&&(decide ((c.Prizes.map prizeKey).Nodup)&&lastS c))))))))
structure PartsOk (c:Course):Prop where
 len:∀d∈c.Distances,d.Route.length<=1048576
 wf:∀d∈c.Distances,∀x∈d.Route,Part.wf x
theorem Qig(l:List Leg)(hl:l.length<=1048576):Ev (λn=>F_fe n l) (decide ((l.map legKey).Nodup)):=by
 refine Ea (QbF l legKey true (by omega) (λi x m a=>?_) (λm=>?_)) ((Qa _).eq ?_)
 .unfold F_lf F_ee;simp only[a.lt,a.ix,a.nx];exact Qa _
 .simp_all[F_lf,Qa]
 .rw[XU];simp[Vs,Vk]
  grind[Qcz]
theorem Qf6(l:List Prize)(hl:l.length<=1048576):Ev (λn=>F_gb n l) (decide ((l.map prizeKey).Nodup)):=by
 refine Ea (QbF l prizeKey true (by omega) (λi x m a=>?_) (λm=>?_)) ((Qa _).eq ?_)
 .unfold F_ko F_eo;simp only[a.lt,a.ix,a.nx];exact Qa _
 .simp_all[F_ko,Qa]
 .rw[XU];simp[Vs,Vk]
  grind[Qcz]
theorem QkQ(c:Course)(w:CourseOk c)(q:PartsOk c):Ev (λn=>F_dw n c) (numbersS c):=by
 unfold F_dw numbersS;rw[QaI w.mats];refine Ea (v:=_) ?_ (Qa _);have g:Ev (λn=>F_du n c.Mats) (c.Mats.all λm=>inR 1 3 m.Kind):=by
  unfold F_du F_fq F_fp;refine JA c.Mats _ (λn x=>F_dg n x) (by have:=w.mats;omega) λx a=>?_;unfold F_dg;exact Ea (QN _ _ _) (Qa _)
 have k:Ev (λn=>F_cl n c.Legs ((c.Mats.length:Int)-1)) (c.Legs.all (legS ((c.Mats.length:Int)-1))):=by
  unfold F_cl F_ga F_ft;refine JA c.Legs _ (λn x=>F_cx n x _) (by have:=w.legs;omega) λx a=>?_;unfold F_cx;exact Ea (Ea (QaN _ _ _ _) (Eh λ_=>Ea (QaN _ _ _ _) (Eh λ_=>Qa _))) (Qa _)
 have d:Ev (λn=>F_co n c.Distances ((c.Mats.length:Int)-1)) (c.Distances.all (distS ((c.Mats.length:Int)-1))):=by
  unfold F_co F_gl F_ha;refine JA c.Distances _ (λn x=>F_da n x _) (by have:=w.dist;omega) λx a=>?_;unfold F_da;have h:Ev (λn=>F_cn n x.Cutoffs ((c.Mats.length:Int)-1)) (x.Cutoffs.all (cutS ((c.Mats.length:Int)-1))):=by
   unfold F_cn F_gm F_fw;refine JA x.Cutoffs _ (λn x=>F_cu n x _) (by have:=w.cut x a;omega) λy l=>?_;unfold F_cu;exact Ea (Ea (QN _ _ _) (Eh λ_=>Eh λ_=>Ea (QN _ _ _) (Qa _))) (Qa _)
  exact Ea (Ea (QN _ _ _) (Eh λ_=>Ea (QN _ _ _) (Eh λ_=>Ea (Qov _ _ x.Route (XQ _) (q.len x a) (q.wf x a)) (Eh λ_=>Ea h (Qa _))))) (Qa _)
 have j:Ev (λn=>F_dv n c.Waves) (c.Waves.all λw=>inR 0 1099511627776 w.Gun):=by
  unfold F_dv F_ff F_em;refine JA c.Waves _ (λn x=>F_cp n x) (by have:=w.wave;omega) λx a=>?_;unfold F_cp;exact Ea (QN _ _ _) (Qa _)
 have f:Ev (λn=>F_cr n c.Offences) (c.Offences.all offS):=by
  unfold F_cr F_ei F_er;refine JA c.Offences _ (λn x=>F_dy n x) (by have:=w.off;omega) λx a=>?_;unfold F_dy offS;refine QbG (λ_=>Ea (Eh λ_=>Qa _) (Qa _)) λ_=>QbG (λ_=>Ea (Eh λ_=>Ea (QN _ _ _) (Qa _)) (Qa _)) λ_=>Ea (QN _ _ _) (Qa _)
 have i:Ev (λn=>F_bz n c.Categories) (c.Categories.all catS):=by
  unfold F_bz F_ed F_hg;refine JA c.Categories _ (λn x=>F_ch n x) (by have:=w.cat;omega) λx a=>?_;unfold F_ch;exact Ea (Ea (QaN _ _ _ _) (Eh λ_=>Qa _)) (Qa _)
 have e:Ev (λn=>F_dd n c.Prizes c) (c.Prizes.all (prizeS c)):=by
  unfold F_dd F_gv F_fh;refine JA c.Prizes _ (λn x=>F_ec n x c) (by have:=w.prize;omega) λx a=>?_;unfold F_ec;rw[QaI w.dist,QaI w.cat];exact Ea (Ea (QN _ _ _) (Eh λ_=>Ea (QN _ _ _) (Eh λ_=>Ea (QN _ _ _) (Eh λ_=>Ea (QN _ _ _) (Qa _))))) (Qa _)
 refine Ea g (Eh λ_=>Ea k (Eh λ_=>Ea (Qig _ w.legs) (Eh λ_=>Ea d (Eh λ_=>Ea j (Eh λ_=>Ea f (Eh λ_=>Ea i (Eh λ_=>Ea e (Eh λ_=>Ea (Qf6 _ w.prize) (Eh λ_=>?_)))))))));exact Ea (QaN _ _ _ _) (Eh λ_=>Ea (QaN _ _ _ _) (Eh λ_=>Ea (QN _ _ _) (Eh λ_=>Ea (QN _ _ _) (Eh λ_=>Ea (QN _ _ _) (Qa _)))))
theorem ends_eq{a b a' d:Int}:(({from_:=a,to_:=b}:Uh)={from_:=a',to_:=d})↔a=a'/\b=d:=by simp
theorem Qf5(c:Course)(w:CourseOk c)(d:Distance)(h:d.Route.length<=1048576)(k:∀x∈d.Route,Part.wf x)(l:d.Cutoffs.length<=1048576):Ev (λn=>F_hf n c d) (distS ((c.Mats.length:Int)-1) d):=by
 have step:∀(i:Nat) (x:Cutoff),At d.Cutoffs i x->Ev (λn=>F_hv n c d i) (bif cutS (c.Mats.length-1) x then .cont (i+1)else .done (.done false)):=by
  intro i x a;unfold F_hv;simp only[a.lt,a.ix,XG,a.nx];have:Ev (λn=>(F_m n c x.Mat).bind λg=>(bif (!g)then some true else(bif decide (x.Lap<1)then some true else(F_c n x.Limit 0 1099511627776).bind λf=>some (!f)))) (!cutS (c.Mats.length-1) x):=by
   refine Ea (Qf8 c w _) (Et (Er λ_=>Er λ_=>Ea (JV _ _ _) (Qa _)) ?_)
   grind[cutS]
  refine Ea this ?_
  grind[Qa]
 refine Ea (Jn d.Cutoffs (λx=> !cutS (c.Mats.length-1) x) (λi=>(i:Int)) (Ctl.done false) (Ctl.cont ()) (by omega) rfl (λi x a j=>?_) (λi x a j=>?_) ?_) ?_
 .grind
 .grind
 .simp_all[F_hv,Qa]
 .have e:d.Cutoffs.any (λx=> !cutS (c.Mats.length-1) x)= !d.Cutoffs.all (cutS (c.Mats.length-1)):=by grind
  rw[e];unfold distS;have m:inR (-1) (c.Mats.length-1) d.Extra=((d.Extra== -1)||inR 0 (c.Mats.length-1) d.Extra):=by
   unfold inR
   grind
  cases d.Cutoffs.all (cutS (c.Mats.length-1))with
  |false=>
   simp[Bool.and_false];exact Qa _
  |true=>
   simp only[Bool.and_true];refine Ea (Ea (JV _ _ _) ((Eh λ_=>Ea (QmX c w _ d.Route (XQ _) h k) (Eh λ_=>Er λ_=>Ea (Qf8 c w _) (Qa _))).eq ?_)) (Qa _)
   grind
theorem Y1{α B:Type}{step:Nat->Int->Option (Ctl Int B)}(l:List α)(ok:α->Bool)(a b:B)(hl:l.length<=4611686018427387904)
  (h:∀i x,At l i x->Ev (λn=>step n (i:Int)) (bif ok x then .cont ((i+1:Nat):Int)else .done a))(f:Ev (λn=>step n (l.length:Int)) (.done b)):
  Ev (λn=>Go.Sw.iter (step n) n 0) (bif l.all ok then b else a):=by
 have e:(bif l.all ok then b else a)=bif l.any (λx=> !ok x)then a else b:=by
  grind
 rw[e];refine Jn l (λx=> !ok x) (λi=>(i:Int)) a b hl rfl (λi x d g=>?_) (λi x d g=>?_) f
 .grind
 grind
theorem Qia(c:Course)(w:CourseOk c)(q:PartsOk c):Ev (λn=>F_ci n c) (numbersS c):=by
 unfold F_ci numbersS;have L:Ev (λn=>iter (F_jd n c) n 0) (bif c.Mats.all (λm=>inR 1 3 m.Kind)then Ctl.cont ()else Ctl.done false):=by
  refine Y1 c.Mats _ _ _ (by have:=w.mats;omega) (λi x a=>?_) ?_
  .unfold F_jd;simp only[a.lt,Vi,a.ix,XG,a.nx];refine Ea (JV _ _ _) ?_;cases inR 1 3 x.Kind<;>exact Qa _
  simp_all[F_jd,Qa]
 have O:Ev (λn=>iter (F_dq n c) n 0) (bif c.Legs.all (legS ((c.Mats.length:Int)-1))&&decide ((c.Legs.map legKey).Nodup)then Ctl.cont ()else Ctl.done false):=by
  have first:∀x:Leg,Ev (λn=>((F_m n c x.From).bind λu=>(bif (!u)then some true else(F_m n c x.To).bind λr=>(bif (!r)then some true else(bif decide (x.Min<0)then some true else(bif decide (x.Max<x.Min)then some true else some (decide (68719476736<x.Max)))))):Option Bool)) (!legS ((c.Mats.length:Int)-1) x):=by
   intro x;refine Ea (Qf8 c w _) (Et (Er λ_=>Ea (Qf8 c w _) (Er λ_=>Er λ_=>Er λ_=>Qa _)) ?_);unfold legS inR
   grind
  have inner:∀(i:Nat) (x:Leg),At c.Legs i x->Ev (λn=>iter (F_he n c (i:Int) x) n 0) (bif ((c.Legs.take i).map legKey).contains (legKey x)then Ctl.done (Ctl.done (Ctl.done false))else Ctl.cont ()):=by
   intro i x a;have E:=a.lt';refine Qke c.Legs i legKey (legKey x) _ _ (by have:=w.legs;omega) (by omega) (λj y F l g=>?_) (λj y F l g=>?_) ?_
   .unfold F_he;rw[YH (show(j:Int)<(i:Int)by omega)];simp only[Vi,l.ix,XG,l.nx];have h:¬(y.From=x.From/\y.To=x.To):=by simpa[legKey]using g
    refine Ea (Eh λ_=>Qa _) ?_;have e:((y.From==x.From)&&(y.To==x.To))=false:=by
     grind
    rw[e];exact Qa _
   .unfold F_he;rw[YH (show(j:Int)<(i:Int)by omega)];simp only[Vi,l.ix,XG,l.nx]
    simp_all[legKey,Qa]
   grind[F_he,Qa]
  refine Qph c.Legs (legS ((c.Mats.length:Int)-1)) legKey _ _ (by have:=w.legs;omega) (λi x a d g=>?_) (λi x a d=>?_) (λi x a d g=>?_) ?_
  .unfold F_dq;simp only[a.lt,Vi,a.ix,XG,a.nx];have f:=first x;rw[d]at f
   have k:=inner i x a;rw[g]at k;exact Ea f (Yw (Ea k (Qa _)))
  .unfold F_dq;simp only[a.lt,Vi,a.ix,XG,a.nx];have f:=first x;rw[d]at f
   exact Ea f (Qa _)
  .unfold F_dq;simp only[a.lt,Vi,a.ix,XG,a.nx];have f:=first x;rw[d]at f
   have k:=inner i x a;rw[g]at k;exact Ea f (Yw (Ea k (Qa _)))
  simp_all[F_dq,Qa]
 have J:Ev (λn=>iter (F_jz n c) n 0) (bif c.Distances.all (distS ((c.Mats.length:Int)-1))then Ctl.cont ()else Ctl.done false):=by
  refine Y1 c.Distances _ _ _ (by have:=w.dist;omega) (λi x a=>?_) ?_
  .unfold F_jz;simp only[a.lt,Vi,a.ix,XG,a.nx];refine Ea (Qf5 c w x (q.len x a.mem) (q.wf x a.mem) (w.cut x a.mem)) ?_;cases distS ((c.Mats.length:Int)-1) x<;>exact Qa _
  .unfold F_jz;simp only[Qgc,Vj];exact Qa _
 have H:Ev (λn=>iter (F_jf n c) n 0) (bif c.Waves.all (λw=>inR 0 1099511627776 w.Gun)then Ctl.cont ()else Ctl.done false):=by
  refine Y1 c.Waves _ _ _ (by have:=w.wave;omega) (λi x a=>?_) ?_
  .unfold F_jf;simp only[a.lt,Vi,a.ix,XG,a.nx];refine Ea (JV _ _ _) ?_;cases inR 0 1099511627776 x.Gun<;>exact Qa _
  .unfold F_jf;simp only[Qgc,Vj];exact Qa _
 have N:Ev (λn=>iter (F_is n c) n 0) (bif c.Offences.all offS then Ctl.cont ()else Ctl.done false):=by
  refine Y1 c.Offences _ _ _ (by have:=w.off;omega) (λi x a=>?_) ?_
  .unfold F_is;simp only[a.lt,Vi,a.ix,XG,a.nx];refine Ea (Ea (JV _ _ _) (Eh λ_=>Eh λ_=>Qa _)) ?_;refine Ea (Eh λ_=>Ea (JV _ _ _) (Eh λ_=>Qa _)) ?_;refine Ea (Eh λ_=>Eh λ_=>Qa _) ?_;refine Ea (Eh λ_=>Eh λ_=>Qa _) ?_;have e:offS x= !(!(inR 0 68719476736 x.Time&&((x.Laps==0)&& !x.Out))&&(!((x.Time==0)&&(inR 1 64 x.Laps&& !x.Out))&& !((x.Time==0)&&((x.Laps==0)&&x.Out)))):=by
    unfold offS inR;cases x.Out with
    |true=>
     rw[XU];simp
    |false=>
     by_cases h:x.Laps=0
     iterate 2 rw[XU];simp[h]
   rw[e];generalize(!(inR 0 68719476736 x.Time&&((x.Laps==0)&& !x.Out))&&(!((x.Time==0)&&(inR 1 64 x.Laps&& !x.Out))&& !((x.Time==0)&&((x.Laps==0)&&x.Out))))=b;cases b<;>exact Qa _
  .unfold F_is;simp only[Qgc,Vj];exact Qa _
 have M:Ev (λn=>iter (F_kc n c) n 0) (bif c.Categories.all catS then Ctl.cont ()else Ctl.done false):=by
  refine Y1 c.Categories _ _ _ (by have:=w.cat;omega) (λi x a=>?_) ?_
  .unfold F_kc;simp only[a.lt,Vi,a.ix,XG,a.nx];refine Ea (Er λ_=>Er λ_=>Qa _) ?_;have e:(decide (x.From<0)||(decide (x.To<x.From)||decide (120<x.To)))= !catS x:=by
    unfold catS inR;rw[XU];simp;omega
   rw[e];cases catS x<;>exact Qa _
  .unfold F_kc;simp only[Qgc,Vj];exact Qa _
 have G:Ev (λn=>iter (F_dx n c) n 0) (bif c.Prizes.all (prizeS c)&&decide ((c.Prizes.map prizeKey).Nodup)then Ctl.cont ()else Ctl.done false):=by
  have first:∀x:Prize,Ev (λn=>((F_c n x.Distance 0 (i64.wrap ((c.Distances.length:Int)-1))).bind λB=>(bif (!B)then some true else(F_c n x.Category (-1) (i64.wrap ((c.Categories.length:Int)-1))).bind λs=>(bif (!s)then some true else(F_c n x.Rank 1 4000).bind λp=>(bif (!p)then some true else(F_c n x.Amount 1 1125899906842624).bind λt=>some (!t)))):Option Bool)) (!prizeS c x):=by
   intro x;rw[QaI w.dist,QaI w.cat];refine Ea (JV _ _ _) (Et (Er λ_=>Ea (JV _ _ _) (Er λ_=>Ea (JV _ _ _) (Er λ_=>Ea (JV _ _ _) (Qa _)))) ?_);unfold prizeS;simp only[Bool.not_and]
  have inner:∀(i:Nat) (x:Prize),At c.Prizes i x->Ev (λn=>iter (F_ez n c (i:Int) x) n 0) (bif ((c.Prizes.take i).map prizeKey).contains (prizeKey x)then Ctl.done (Ctl.done (Ctl.done false))else Ctl.cont ()):=by
   intro i x a;have E:=a.lt';refine Qke c.Prizes i prizeKey (prizeKey x) _ _ (by have:=w.prize;omega) (by omega) (λj y F l g=>?_) (λj y F l g=>?_) ?_
   .unfold F_ez;rw[YH (show(j:Int)<(i:Int)by omega)];simp only[Vi,l.ix,XG,l.nx];have h:¬(y.Distance=x.Distance/\y.Category=x.Category/\y.Rank=x.Rank):=by simpa[prizeKey]using g
    refine Ea (Eh λ_=>Eh λ_=>Qa _) ?_;have e:((y.Distance==x.Distance)&&((y.Category==x.Category)&&(y.Rank==x.Rank)))=false:=by
     rw[VG];intro z;exact h (by simpa using z)
    rw[e];exact Qa _
   .unfold F_ez;rw[YH (show(j:Int)<(i:Int)by omega)];simp only[Vi,l.ix,XG,l.nx];have h:(y.Distance=x.Distance/\y.Category=x.Category/\y.Rank=x.Rank):=by simpa[prizeKey]using g
    refine Ea (Eh λ_=>Eh λ_=>Qa _) ?_;have e:((y.Distance==x.Distance)&&((y.Category==x.Category)&&(y.Rank==x.Rank)))=true:=by simpa using h
    rw[e];exact Qa _
   .unfold F_ez;rw[Y3 (show¬(i:Int)<(i:Int)by omega)];exact Qa _
  refine Qph c.Prizes (prizeS c) prizeKey _ _ (by have:=w.prize;omega) (λi x a d g=>?_) (λi x a d=>?_) (λi x a d g=>?_) ?_
  .unfold F_dx;simp only[a.lt,Vi,a.ix,XG,a.nx];have f:=first x;rw[d]at f
   have k:=inner i x a;rw[g]at k;exact Ea f (Yw (Ea k (Qa _)))
  .unfold F_dx;simp only[a.lt,Vi,a.ix,XG,a.nx];have f:=first x;rw[d]at f
   exact Ea f (Qa _)
  .unfold F_dx;simp only[a.lt,Vi,a.ix,XG,a.nx];have f:=first x;rw[d]at f
   have k:=inner i x a;rw[g]at k;exact Ea f (Yw (Ea k (Qa _)))
  .unfold F_dx;simp only[Qgc,Vj];exact Qa _
 refine Ea L ?_;cases c.Mats.all (λm=>inR 1 3 m.Kind)with
 |false=>exact Qa _
 |true=>
 refine Ea O ?_;simp only[Vu];rw[<- Bool.and_assoc];cases(c.Legs.all (legS ((c.Mats.length:Int)-1))&&decide ((c.Legs.map legKey).Nodup))with
 |false=>exact Qa _
 |true=>
 refine Ea J ?_;simp only[Vu];cases c.Distances.all (distS ((c.Mats.length:Int)-1))with
 |false=>exact Qa _
 |true=>
 refine Ea H ?_;simp only[Vu];cases c.Waves.all (λw=>inR 0 1099511627776 w.Gun)with
 |false=>exact Qa _
 |true=>
 refine Ea N ?_;simp only[Vu];cases c.Offences.all offS with
 |false=>exact Qa _
 |true=>
 refine Ea M ?_;simp only[Vu];cases c.Categories.all catS with
 |false=>exact Qa _
 |true=>
 refine Ea G ?_;simp only[Vu];rw[<- Bool.and_assoc];cases(c.Prizes.all (prizeS c)&&decide ((c.Prizes.map prizeKey).Nodup))with
 |false=>exact Qa _
 |true=>
 simp only[Vu];refine Ea (v:=lastS c) ?_ (Qa _);refine Ea (JV _ _ _) ((Eh λ_=>Ea (JV _ _ _) (Eh λ_=>Ea (JV _ _ _) (Eh λ_=>Ea (JV _ _ _) (Eh λ_=>Ea (JV _ _ _) (Eh λ_=>Ea (JV _ _ _) (Eh λ_=>Ea (JV _ _ _) (Qa _))))))).eq ?_);unfold lastS;simp only[Bool.and_assoc]
mutual
def cN:Cond->Nat
 |⟨_,_,_,ps⟩=>1+cNs ps
def cNs:List Cond->Nat
 |[]=>0
 |c::r=>cN c+cNs r
end
theorem Qb9(c:Cond):cN c=1+cNs c.Parts:=by cases c;rfl
mutual
def cD:Nat->Cond->Bool
 |d,⟨_,_,_,ps⟩=>cDs d ps
def cDs:Nat->List Cond->Bool
 |_,[]=>true
 |d,c::r=>decide (d<=16)&&(cD (d+1) c&&cDs d r)
end
theorem Qma(d:Nat)(c:Cond):cD d c=cDs d c.Parts:=by cases c;rfl
def zeroC(c:Cond):Bool:=(c.Kind==0)&&((c.Var==0)&&((c.N==0)&&((c.Parts.length:Int)==0)))
mutual
def sNp:Step->Nat
 |⟨_,_,_,t,e⟩=>1+sNs t+sNs e
def sNs:List Step->Nat
 |[]=>0
 |s::r=>sNp s+sNs r
end
theorem QgQ(s:Step):sNp s=1+sNs s.Then+sNs s.Else:=by cases s;rfl
mutual
def sC:Step->Nat
 |⟨_,_,c,t,e⟩=>(bif zeroC c then 0 else cN c)+sCs t+sCs e
def sCs:List Step->Nat
 |[]=>0
 |s::r=>sC s+sCs r
end
theorem Qfh(s:Step):sC s=(bif zeroC s.Cond then 0 else cN s.Cond)+sCs s.Then+sCs s.Else:=by cases s;rfl
mutual
def sDp:Nat->Step->Bool
 |d,⟨_,_,c,t,e⟩=>(zeroC c||cD 1 c)&&(sDs d t&&sDs d e)
def sDs:Nat->List Step->Bool
 |_,[]=>true
 |d,s::r=>decide (d<=16)&&(sDp (d+1) s&&sDs d r)
end
theorem QiS(d:Nat)(s:Step):sDp d s=((zeroC s.Cond||cD 1 s.Cond)&&(sDs d s.Then&&sDs d s.Else)):=by cases s;rfl
mutual
def sZ:Step->Nat
 |⟨_,_,c,t,e⟩=>2+cN c+sZs t+sZs e
def sZs:List Step->Nat
 |[]=>0
 |s::r=>sZ s+sZs r
end
theorem QgP(s:Step):sZ s=2+cN s.Cond+sZs s.Then+sZs s.Else:=by cases s;rfl
def fS:Ui->Nat
 |.ctyping_step x=>sNp x.Step
 |.ctyping_cond _=>0
def fC:Ui->Nat
 |.ctyping_step x=>sC x.Step
 |.ctyping_cond x=>cN x.Cond
def fD(d:Nat):Ui->Bool
 |.ctyping_step x=>sDp d x.Step
 |.ctyping_cond x=>cD d x.Cond
def fZ:Ui->Nat
 |.ctyping_step x=>sZ x.Step
 |.ctyping_cond x=>cN x.Cond
def fSs(l:List Ui):Nat:=(l.map fS).sum
def fCs(l:List Ui):Nat:=(l.map fC).sum
def fZs(l:List Ui):Nat:=(l.map fZ).sum
def fwf:Ui->Prop
 |.ctyping_step x=>Step.wf x.Step
 |.ctyping_cond x=>Cond.wf x.Cond
def ofStep(s:Step):Ui:=.ctyping_step {Step:=s}
def ofCond(c:Cond):Ui:=.ctyping_cond {Cond:=c}
theorem Qbh:∀l:List Step,fSs (l.map ofStep)=sNs l
 |[]=>rfl
 |s::r=>by
  have:=Qbh r;simp[fSs,Vd,List.sum_cons]at this⊢;rw[this];rfl
theorem Qbi:∀l:List Step,fCs (l.map ofStep)=sCs l
 |[]=>rfl
 |s::r=>by
  have:=Qbi r;simp[fCs,Vd,List.sum_cons]at this⊢;rw[this];rfl
theorem Qb4:∀l:List Step,fZs (l.map ofStep)=sZs l
 |[]=>rfl
 |s::r=>by
  have:=Qb4 r;simp[fZs,Vd,List.sum_cons]at this⊢;rw[this];rfl
theorem QfX:∀l:List Cond,fSs (l.map ofCond)=0
 |[]=>rfl
 |s::r=>by
  have:=QfX r;simp only[fSs,Vd,List.sum_cons]at this⊢;rw[this];rfl
theorem QfZ:∀l:List Cond,fCs (l.map ofCond)=cNs l
 |[]=>rfl
 |s::r=>by
  have:=QfZ r;simp[fCs,Vd,List.sum_cons]at this⊢;rw[this];rfl
theorem QfV:∀l:List Cond,fZs (l.map ofCond)=cNs l
 |[]=>rfl
 |s::r=>by
  have:=QfV r;simp[fZs,Vd,List.sum_cons]at this⊢;rw[this];rfl
theorem Qdo(d:Nat):∀l:List Step,sDs d l=((l.map ofStep).isEmpty||(decide (d<=16)&&(l.map ofStep).all (fD (d+1))))
 |[]=>rfl
 |s::r=>by
  rw[sDs,Qdo d r];simp[Vd,List.all_cons];rw[show fD (d+1) (ofStep s)=sDp (d+1) s from rfl]
  grind
theorem QjA(d:Nat):∀l:List Cond,cDs d l=((l.map ofCond).isEmpty||(decide (d<=16)&&(l.map ofCond).all (fD (d+1))))
 |[]=>rfl
 |s::r=>by
  rw[cDs,QjA d r];simp[Vd,List.all_cons];rw[show fD (d+1) (ofCond s)=cD (d+1) s from rfl]
  grind
theorem Jy{c:Cond}(h:Cond.wf c):c.Parts.length<=1048576/\ ∀x∈c.Parts,Cond.wf x:=by
 cases c
 grind[Cond.wf,QdG]
theorem Jw{s:Step}(h:Step.wf s):Cond.wf s.Cond/\(s.Then.length<=1048576/\ ∀x∈s.Then,Step.wf x)/\(s.Else.length<=1048576/\ ∀x∈s.Else,Step.wf x):=by
 cases s
 grind[Step.wf,Qdy]
theorem Qhh(n:Nat)(c:Cond):F_aq n {Cond:=c}=some (zeroC c):=by
 unfold F_aq zeroC
 grind
theorem Qf3(n:Nat)(c:Cond):F_be n c=some (zeroC c):=by
 unfold F_be zeroC
 grind
theorem Qf2(l:List Step)(hl:l.length<=140737488):Ev (λn=>F_at n l) (l.map ofStep):=by
 exact Ea (Qaf l ofStep hl) (Qa _)
theorem QoD(l:List Cond)(hl:l.length<=140737488):Ev (λn=>F_gu n l) (l.map ofCond):=by
 exact Ea (Qaf l ofCond hl) (Qa _)
def stepParts(s:Step):List Ui:=s.Then.map ofStep++s.Else.map ofStep
theorem Qbv(s:Step)(h:Step.wf s):Ev (λn=>F_ak n {Step:=s}) (stepParts s):=by
 obtain⟨_,⟨a,_⟩,⟨d,_⟩⟩:=Jw h;refine Ea (Qf2 s.Then (by omega)) (Ea (Qf2 s.Else (by omega)) (J1 (Qdv _ _ (by simp;omega)) (Qa _)))
theorem Qdq(c:Cond)(h:Cond.wf c):Ev (λn=>F_af n {Cond:=c}) (c.Parts.map ofCond):=by
 obtain⟨a,_⟩:=Jy h;exact Ea (QoD c.Parts (by omega)) (Qa _)
def okL(l:List Ui)(d:Nat)(st co:Int):Bool:=l.isEmpty||(decide (d<=16)&&(l.all (fD (d+1))&&(decide (st+fSs l<=64)&&decide (co+fCs l<=256))))
def okR(l:List Ui)(d:Nat)(st co:Int):Bool:=l.isEmpty||(l.all (fD (d+1))&&(decide (st+fSs l<=64)&&decide (co+fCs l<=256)))
def okF(f:Ui)(d:Nat)(st co:Int):Bool:=fD (d+1) f&&(decide (st+fS f<=64)&&decide (co+fC f<=256))
theorem Qjz(f:Ui)(l:List Ui):fSs (f::l)=fS f+fSs l:=rfl
theorem QjB(f:Ui)(l:List Ui):fCs (f::l)=fC f+fCs l:=rfl
theorem Qjy(f:Ui)(l:List Ui):fZs (f::l)=fZ f+fZs l:=rfl
theorem QfW(l m:List Ui):fSs (l++m)=fSs l+fSs m:=by simp[fSs]
theorem QfY(l m:List Ui):fCs (l++m)=fCs l+fCs m:=by simp[fCs]
theorem QfU(l m:List Ui):fZs (l++m)=fZs l+fZs m:=by simp[fZs]
theorem QnW(f:Ui)(r:List Ui)(d:Nat)(e a:Int):okR (f::r) d e a=(okF f d e a&&okR r d (e+fS f) (a+fC f)):=by
 unfold okR okF;rw[Qjz,QjB];cases r with
 |nil=>simp[fSs,fCs]
 |cons g r=>
  grind
theorem QhP(l:List Ui)(d:Nat)(e a:Int)(g:e<=64)(h:a<=256):okL l d e a=true↔(l.isEmpty||(decide (d<=16)&&l.all (fD (d+1))))=true/\e+fSs l<=64/\a+fCs l<=256:=by
 unfold okL;cases l with
 |nil=>simp[fSs,fCs,g,h]
 |cons f r=>
  grind
theorem Qfb(s:Step)(d:Nat):((stepParts s).isEmpty||(decide (d<=16)&&(stepParts s).all (fD (d+1))))=(sDs d s.Then&&sDs d s.Else):=by
 rw[Qdo,Qdo];unfold stepParts;rw[List.all_append];cases a:s.Then<;>cases e:s.Else<;>simp<;>(grind)
def Cnt(R:Nat->List Ui->Int->Ug->Option (Ug×Bool))(l:List Ui)(d:Nat)(st co:Int):Prop:=
 ∃c':Ug,Ev (λn=>R n l (d:Int) {steps:=st,conds:=co}) (c',okL l d st co)/\(okL l d st co=true->c'={steps:=st+fSs l,conds:=co+fCs l})
theorem Qk0{R:Nat->List Ui->Int->Ug->Option (Ug×Bool)}{l:List Ui}{d:Nat}(hd:d<=16){i:Nat}{f:Ui}(Y:At l i f)(hw:fwf f)
  (L:∀l' d' a e,fZs l'<fZ f->l'.length<=2097152->(∀f∈l',fwf f)->d'<=17->0<=a->a<=66->(a<=65\/ ∀f∈l',∃c,f=ofCond c)->0<=e->e<=256->Cnt R l' d' a e){a e:Int}(h0:0<=a)(ab:a<=66)(E:a<=65\/ ∃c,f=ofCond c)(h2:0<=e)(h3:e<=256):
  ∃c':Ug,Ev (λn=>F_ep n l (d:Int) (R n) ({steps:=a,conds:=e},(i:Int))) (bif okF f d a e then .cont (c',((i+1:Nat):Int))else .done (.done (c',false)))/\(okF f d a e=true->c'={steps:=a+fS f,conds:=e+fC f}):=by
 unfold F_ep;simp only[Y.lt,Vi,Y.ix,XG,Y.nx];have ed:i64.wrap ((d:Int)+1)=((d+1:Nat):Int):=YG (by omega);cases f with
 |ctyping_step x=>
  obtain⟨s⟩:=x;have h1:a<=65:=by
   rcases E with h|⟨c,h⟩
   .exact h
   .cases h
  have k:Step.wf s:=hw;obtain⟨wc,⟨aa,J⟩,⟨ac,W⟩⟩:=Jw k;have e1:i64.wrap (a+1)=a+1:=Yb (by omega) (by omega);simp only[Ui.elim,Qhh,XG,e1];have hc:∃t:Ug,Ev (λn=>((bif (!zeroC s.Cond)then(R n [Ui.ctyping_cond {Cond:=s.Cond}] 0 {steps:=a+1,conds:=e}).bind λm=>some (m.1,(!m.2))else some ({steps:=a+1,conds:=e},false)):Option (Ug×Bool))) (t, !(zeroC s.Cond||(cD 1 s.Cond&&(decide (a+1<=64)&&decide (e+cN s.Cond<=256)))))/\
    ((zeroC s.Cond||(cD 1 s.Cond&&(decide (a+1<=64)&&decide (e+cN s.Cond<=256))))=true->t={steps:=a+1,conds:=e+((bif zeroC s.Cond then 0 else cN s.Cond:Nat):Int)}):=by
   cases H:zeroC s.Cond with
   |true=>
    simp_all[Qa]
   |false=>
    obtain⟨t,p,u⟩:=L [ofCond s.Cond] 0 (a+1) e (by simp only[fZs,Vd,Ve,List.sum_cons,List.sum_nil];show cN s.Cond+0<sZ s;rw[QgP];omega) (by simp) (by intro g j;simp only[Vv]at j;subst j;exact wc) (by omega) (by omega) (by omega) (.inr (by intro g j;simp only[Vv]at j;exact⟨_,j⟩)) h2 h3;have ek:okL [ofCond s.Cond] 0 (a+1) e=(cD 1 s.Cond&&(decide (a+1<=64)&&decide (e+cN s.Cond<=256))):=by
     unfold okL;simp only[List.isEmpty_cons,Bool.false_or,List.all_cons,List.all_nil,Bool.and_true,fSs,fCs,Vd,Ve,List.sum_cons,List.sum_nil];rw[show fD (0+1) (ofCond s.Cond)=cD 1 s.Cond from rfl,show fS (ofCond s.Cond)=0 from rfl,show fC (ofCond s.Cond)=cN s.Cond from rfl];simp
    rw[ek]at p u;refine⟨t,Ea p (Qa _),λh=>?_⟩;rw[u h];simp[fSs,fCs,show fS (ofCond s.Cond)=0 from rfl,show fC (ofCond s.Cond)=cN s.Cond from rfl]
  obtain⟨t,p,u⟩:=hc;generalize hb:(zeroC s.Cond||(cD 1 s.Cond&&(decide (a+1<=64)&&decide (e+cN s.Cond<=256))))=b at p u;have hF:okF (Ui.ctyping_step {Step:=s}) d a e=(sDp (d+1) s&&(decide (a+sNp s<=64)&&decide (e+sC s<=256))):=rfl;rw[hF];cases b with
  |false=>
   have:(sDp (d+1) s&&(decide (a+sNp s<=64)&&decide (e+sC s<=256)))=false:=by
    rw[VG];intro hh;simp only[XT,Vk,QiS,QgQ,Qfh]at hh;obtain⟨⟨T,_⟩,z2,z3⟩:=hh;cases H:zeroC s.Cond with
    |true=>rw[H]at hb;cases hb
    |false=>
     rw[H]at hb T z3;simp only[Bool.false_or]at hb T;rw[T]at hb;simp only[Vj]at z3;rw[YH (show a+1<=64 by omega),YH (show e+(cN s.Cond:Int)<=256 by omega)]at hb;cases hb
   rw[this];exact⟨t,Ea p (Qa _),λh=>by cases h⟩
  |true=>
   obtain rfl:=u rfl;by_cases q:64<a+1
   .have:(sDp (d+1) s&&(decide (a+sNp s<=64)&&decide (e+sC s<=256)))=false:=by
     rw[Y3 (show¬a+(sNp s:Int)<=64 by rw[QgQ];omega)];simp
    rw[this];refine⟨{steps:=a+1,conds:=e+((bif zeroC s.Cond then 0 else cN s.Cond:Nat):Int)},Ea p ?_,λh=>by cases h⟩;simp only[Xh,Vj];refine Ea (v:=(_,true)) ?_ (Qa _);rw[YH q];exact Qa _
   by_cases F:256<e+((bif zeroC s.Cond then 0 else cN s.Cond:Nat):Int)
   .have:(sDp (d+1) s&&(decide (a+sNp s<=64)&&decide (e+sC s<=256)))=false:=by
     rw[Y3 (show¬e+(sC s:Int)<=256 by rw[Qfh];omega)];simp
    rw[this];refine⟨{steps:=a+1,conds:=e+((bif zeroC s.Cond then 0 else cN s.Cond:Nat):Int)},Ea p ?_,λh=>by cases h⟩;simp only[Xh,Vj];refine Ea (v:=(_,true)) ?_ (Qa _);rw[Y3 q,YH F];exact Qa _
   obtain⟨w,B,z⟩:=L (stepParts s) (d+1) (a+1) (e+((bif zeroC s.Cond then 0 else cN s.Cond:Nat):Int)) (by
     unfold stepParts;rw[QfU,Qb4,Qb4];show _<sZ s;rw[QgP];omega) (by unfold stepParts;simp;omega) (by
     intro g j;unfold stepParts at j;rcases Vx.1 j with j|j
     .obtain⟨y,G,rfl⟩:=Xf.1 j;exact J y G
     .obtain⟨y,G,rfl⟩:=Xf.1 j;exact W y G) (by omega) (by omega) (by omega) (.inl (by omega)) (by omega) (by omega)
   have P:okL (stepParts s) (d+1) (a+1) (e+((bif zeroC s.Cond then 0 else cN s.Cond:Nat):Int))=(sDp (d+1) s&&(decide (a+sNp s<=64)&&decide (e+sC s<=256))):=by
    rw[XU,QhP _ _ _ _ (by omega) (by omega),Qfb];simp only[XT,Vk,QiS,QgQ,Qfh];have N:fSs (stepParts s)=sNs s.Then+sNs s.Else:=by unfold stepParts;rw[QfW,Qbh,Qbh]
    have X:fCs (stepParts s)=sCs s.Then+sCs s.Else:=by unfold stepParts;rw[QfY,Qbi,Qbi]
    rw[N,X];have V:(zeroC s.Cond||cD 1 s.Cond)=true:=by
     cases H:zeroC s.Cond with
     |true=>rfl
     |false=>
      rw[H]at hb;simp only[Bool.false_or,XT]at hb;rw[hb.1];rfl
    constructor
    .rintro⟨r,O,Q⟩;exact⟨⟨V,r⟩,by omega,by omega⟩
    .rintro⟨⟨_,r⟩,O,Q⟩;exact⟨r,by omega,by omega⟩
   rw[P]at B z;refine⟨w,Ea p ?_,λh=>?_⟩
   .simp only[Xh,Vj];refine Ea (v:=(w, !(sDp (d+1) s&&(decide (a+sNp s<=64)&&decide (e+sC s<=256))))) ?_ ?_
    .rw[Y3 q,Y3 F,ed];exact Ea (Qbv s k) (Ea B (Qa _))
    .cases(sDp (d+1) s&&(decide (a+sNp s<=64)&&decide (e+sC s<=256)))<;>exact Qa _
   .rw[z h];have N:fSs (stepParts s)=sNs s.Then+sNs s.Else:=by unfold stepParts;rw[QfW,Qbh,Qbh]
    have X:fCs (stepParts s)=sCs s.Then+sCs s.Else:=by unfold stepParts;rw[QfY,Qbi,Qbi]
    rw[N,X,show fS (Ui.ctyping_step {Step:=s})=sNp s from rfl,show fC (Ui.ctyping_step {Step:=s})=sC s from rfl,QgQ,Qfh];congr 1<;>omega
 |ctyping_cond x=>
  obtain⟨c⟩:=x;have k:Cond.wf c:=hw;obtain⟨ae,M⟩:=Jy k;have e1:i64.wrap (e+1)=e+1:=Yb (by omega) (by omega);simp only[Ui.elim,e1];have hF:okF (Ui.ctyping_cond {Cond:=c}) d a e=(cD (d+1) c&&(decide (a<=64)&&decide (e+cN c<=256))):=by
   show(cD (d+1) c&&(decide (a+((0:Nat):Int)<=64)&&decide (e+cN c<=256)))=_;rw[show a+((0:Nat):Int)=a by omega]
  rw[hF];by_cases q:64<a
  .have:(cD (d+1) c&&(decide (a<=64)&&decide (e+cN c<=256)))=false:=by
    rw[Y3 (show¬a<=64 by omega)];simp
   rw[this];refine⟨{steps:=a,conds:=e+1},?_,λh=>by cases h⟩;refine Ea (v:=(_,true)) ?_ (Qa _);rw[YH q];exact Qa _
  by_cases F:256<e+1
  .have:(cD (d+1) c&&(decide (a<=64)&&decide (e+cN c<=256)))=false:=by
    rw[Y3 (show¬e+(cN c:Int)<=256 by rw[Qb9];omega)];simp
   rw[this];refine⟨{steps:=a,conds:=e+1},?_,λh=>by cases h⟩;refine Ea (v:=(_,true)) ?_ (Qa _);rw[Y3 q,YH F];exact Qa _
  obtain⟨w,B,z⟩:=L (c.Parts.map ofCond) (d+1) a (e+1) (by
    rw[QfV];show _<cN c;rw[Qb9];omega) (by simp;omega) (by
    intro g j;obtain⟨y,G,rfl⟩:=Xf.1 j;exact M y G) (by omega) (by omega) (by omega) (.inl (by omega)) (by omega) (by omega)
  have P:okL (c.Parts.map ofCond) (d+1) a (e+1)=(cD (d+1) c&&(decide (a<=64)&&decide (e+cN c<=256))):=by
   rw[XU,QhP _ _ _ _ (by omega) (by omega), <- QjA,QfX,QfZ];simp only[XT,Vk,Qma,Qb9];constructor
   iterate 2 rintro⟨r,O,Q⟩;exact⟨r,by omega,by omega⟩
  rw[P]at B z;refine⟨w,?_,λh=>?_⟩
  .refine Ea (v:=(w, !(cD (d+1) c&&(decide (a<=64)&&decide (e+cN c<=256))))) ?_ ?_
   .rw[Y3 q,Y3 F,ed];exact Ea (Qdq c k) (Ea B (Qa _))
   .cases(cD (d+1) c&&(decide (a<=64)&&decide (e+cN c<=256)))<;>exact Qa _
  .rw[z h,QfX,QfZ,show fS (Ui.ctyping_cond {Cond:=c})=0 from rfl,show fC (Ui.ctyping_cond {Cond:=c})=cN c from rfl,Qb9];congr 1;omega
theorem QoC:∀(m:Nat) (l:List Ui) (d:Nat) (a e:Int),fZs l<=m->l.length<=2097152->(∀f∈l,fwf f)->d<=17->0<=a->a<=66->(a<=65\/ ∀f∈l,∃c,f=ofCond c)->0<=e->e<=256->Cnt F_g l d a e:=by
 intro m
 induction m using Nat.strongRecOn with
 |_ m t=>
 intro l d a e hm hl hw hd h0 X E P Y;unfold Cnt;have G:∀c:Ug,(∃g:Ug,Ev (λn=>B_g (F_g n) n l (d:Int) c) (g,okL l d a e)/\(okL l d a e=true->g={steps:=a+fSs l,conds:=e+fCs l}))->∃g:Ug,Ev (λn=>F_g n l (d:Int) c) (g,okL l d a e)/\(okL l d a e=true->g={steps:=a+fSs l,conds:=e+fCs l}):=by
  rintro c ⟨g,q1,O⟩;exact⟨g,QY q1,O⟩
 refine G _ ?_;unfold B_g;cases k:l with
 |nil=>
  refine⟨{steps:=a,conds:=e},?_,λ_=>by simp[fSs,fCs]⟩;refine Ea (v:=Ctl.cont {steps:=a,conds:=e}) (EvI.ev (Ei ?_)) (Qa _);exact Qa _
 |cons f0 r0=>
 rw[<- k];have J:l.isEmpty=false:=by rw[k];rfl
 have N:0<l.length:=by rw[k];simp
 by_cases j:d<=16
 rotate_left
 .have:okL l d a e=false:=by unfold okL;rw[J,Y3 j];rfl
  rw[this];refine⟨{steps:=a,conds:=e},?_,λh=>by cases h⟩;rw[YH (show(0:Int)<(l.length:Int)by omega),YH (show(16:Int)<(d:Int)by omega)];exact Ea (Qa _) (Qa _)
 have u:okL l d a e=okR l d a e:=by unfold okL okR;rw[YH j,Vu]
 rw[u];have loop:∀(r:List Ui) (i:Nat) (a e:Int),l.drop i=r->i<=l.length->0<=a->a<=66->(a<=65\/ ∀f∈l,∃c,f=ofCond c)->0<=e->e<=256->
   ∃g:Ug,EvI (λn=>F_ep n l (d:Int) (F_g n)) ({steps:=a,conds:=e},(i:Int)) (bif okR r d a e then Ctl.cont g else Ctl.done (g,false))/\(okR r d a e=true->g={steps:=a+fSs r,conds:=e+fCs r}):=by
  intro r
  induction r with
  |nil=>
   intro i a e z L _ _ _ _ _;refine⟨{steps:=a,conds:=e},Ei ?_,λ_=>by simp[fSs,fCs]⟩;unfold F_ep;simp only[Q9 z L,Vj];exact Qa _
  |cons f r B=>
   intro i a e z L g0 V F g2 Q;obtain⟨s,w⟩:=QC (by omega) z;have aa:fZ f<=fZs l:=by
    have:∀(l:List Ui),f∈l->fZ f<=fZs l:=by
     intro l
     induction l with
     |nil=>intro h;cases h
     |cons x l t=>
      intro h;rw[Qjy];rcases X0.1 h with rfl|h
      .omega
      .have:=t h;omega
    exact this l s.mem
   obtain⟨g,p,y⟩:=Qk0 (R:=F_g) j s (hw f s.mem) (λM d' a e k1 k2 k3 k4 k5 k6 H k7 W=>t (fZs M) (by omega) M d' a e (XQ _) k2 k3 k4 k5 k6 H k7 W) g0 V (F.imp id λh=>h f s.mem) g2 Q;rw[QnW];cases q:okF f d a e with
   |false=>
    rw[q]at p;exact⟨g,Ei p,λh=>by cases h⟩
   |true=>
    rw[q]at p;obtain rfl:=y q;have hb:=by
     unfold okF at q;simp only[XT,Vk]at q;exact q.2
    obtain⟨T,u1,u2⟩:=B (i+1) (a+fS f) (e+fC f) w (by have:=s.lt';omega) (by omega) (by omega) (.inl (by omega)) (by omega) (by omega);refine⟨T,Eu p u1,λh=>?_⟩;rw[u2 (by simpa using h),Qjz,QjB];congr 1<;>omega
 obtain⟨g,p,y⟩:=loop l 0 a e rfl (XR _) h0 X E P Y;refine⟨g,?_,y⟩;refine Ea (v:=false) ?_ (Yw (Ea p.ev ?_))
 .rw[YH (show(0:Int)<(l.length:Int)by omega),Y3 (show¬(16:Int)<(d:Int)by omega)];exact Qa _
 .cases okR l d a e<;>exact Qa _
mutual
def vaC:Cond->Bool
 |⟨k,v,n,ps⟩=>bif k==1 then inR 1 3 v&&(inR 0 10000 n&&((ps.length:Int)==0))else
   bif k==4 then((v==0)&&(n==0))&&(((ps.length:Int)==1)&&vaCs ps)else
   bif (k==2)||(k==3)then((v==0)&&(n==0))&&((decide (0<(ps.length:Int))&&decide ((ps.length:Int)<=16))&&vaCs ps)else false
def vaCs:List Cond->Bool
 |[]=>true
 |c::r=>vaC c&&vaCs r
end
theorem QnD(c:Cond):vaC c=bif c.Kind==1 then inR 1 3 c.Var&&(inR 0 10000 c.N&&((c.Parts.length:Int)==0))else
   bif c.Kind==4 then((c.Var==0)&&(c.N==0))&&(((c.Parts.length:Int)==1)&&vaCs c.Parts)else
   bif (c.Kind==2)||(c.Kind==3)then((c.Var==0)&&(c.N==0))&&((decide (0<(c.Parts.length:Int))&&decide ((c.Parts.length:Int)<=16))&&vaCs c.Parts)else false:=by cases c;rfl
theorem QhD:∀l:List Cond,vaCs l=l.all vaC
 |[]=>rfl
 |c::r=>by rw[vaCs,List.all_cons,QhD r]
mutual
def vaS:Step->Bool
 |⟨k,b,c,t,e⟩=>bif k==1 then inR 1 5 b&&(zeroC c&&(((t.length:Int)==0)&&((e.length:Int)==0)))else
   bif k==2 then(b==0)&&(vaC c&&(decide (0<(t.length:Int))&&(vaSs t&&vaSs e)))else false
def vaSs:List Step->Bool
 |[]=>true
 |s::r=>vaS s&&vaSs r
end
theorem QnC(s:Step):vaS s=bif s.Kind==1 then inR 1 5 s.By&&(zeroC s.Cond&&(((s.Then.length:Int)==0)&&((s.Else.length:Int)==0)))else
   bif s.Kind==2 then(s.By==0)&&(vaC s.Cond&&(decide (0<(s.Then.length:Int))&&(vaSs s.Then&&vaSs s.Else)))else false:=by cases s;rfl
theorem QhC:∀l:List Step,vaSs l=l.all vaS
 |[]=>rfl
 |c::r=>by rw[vaSs,List.all_cons,QhC r]
def fV:Ui->Bool
 |.ctyping_step x=>vaS x.Step
 |.ctyping_cond x=>vaC x.Cond
theorem Qk5(l:List Cond):(l.map ofCond).any (λf=> !fV f)= !vaCs l:=by
 rw[QhD,List.not_all_eq_any_not,List.any_map];rfl
theorem QcX(l:List Step):(l.map ofStep).any (λf=> !fV f)= !vaSs l:=by
 rw[QhC,List.not_all_eq_any_not,List.any_map];rfl
theorem Qhe{R:Nat->List Ui->Option Bool}(c:Cond)(j:Cond.wf c)(h:Ev (λn=>R n (c.Parts.map ofCond)) (!vaCs c.Parts)):
  Ev (λn=>F_gx (R n) n {Cond:=c}) (vaC c):=by
 rw[QnD];refine Ea (Eh λ_=>Qa _) (QbG (λ_=>?_) (λl=>?_))
 .exact Ea (Ea (QN _ _ _) (Eh λ_=>Ea (QN _ _ _) (Eh λ_=>Qa _))) (Qa _)
 .have fin:∀b,Ev (λn=>(bif b then(F_af n {Cond:=c}).bind λd=>(R n d).bind λf=>some (!f)else some false).bind λa=>some a) (b&&vaCs c.Parts):=by
   intro b;refine Ea ((Eh λ_=>Ea (Qdq c j) (Ea h (Qa _)))) ((Qa _).eq (by simp))
  cases k:(c.Kind==4)with
  |true=>
   cases i:((c.Var==0)&&(c.N==0))with
   |true=>
    grind
   |false=>
    simp_all
  |false=>
   cases g:((c.Kind==2)||(c.Kind==3))with
   |true=>
    have e:Ev (λn=>(bif (c.Kind==2)then some (c.Kind==2)else some (c.Kind==3))) true:=by
     refine Ez ?_
     grind
    cases i:((c.Var==0)&&(c.N==0))with
    |true=>
     grind
    |false=>
     refine Ea (Ea e (Qa _)) ((fin _).eq (by simp))
   |false=>
    have e:Ev (λn=>(bif (c.Kind==2)then some (c.Kind==2)else some (c.Kind==3))) false:=by
     refine Ez ?_
     grind
    grind
theorem QkS:∀(m:Nat) (l:List Ui),fZs l<=m->l.length<=2097152->(∀f∈l,fwf f)->Ev (λn=>F_ad n l) (l.any λf=> !fV f):=by
 intro m
 induction m using Nat.strongRecOn with
 |_ m p=>
 intro l E G t;refine QY ?_;show Ev (λn=>B_ad (F_ad n) n l) _;refine Ev.contains l _ (λn f=>F_fl (F_ad n) n f) (by omega) λf u=>?_;have w:fZ f<=fZs l:=by
  have:∀(l:List Ui),f∈l->fZ f<=fZs l:=by
   intro l
   induction l with
   |nil=>simp
   |cons x l p=>
    intro h;rw[Qjy]
    grind
  grind
 refine Ea (v:=fV f) ?_ (Qa _);have a:∀c:Cond,Cond.wf c->cNs c.Parts<fZ f->Ev (λn=>F_ad n (c.Parts.map ofCond)) (!vaCs c.Parts):=by
  intro c i j;rw[<- Qk5];obtain⟨w1,w2⟩:=Jy i;refine p (fZs (c.Parts.map ofCond)) (by rw[QfV];omega) _ (XQ _) (by simp;omega) ?_;intro g d;obtain⟨y,e,rfl⟩:=Xf.1 d;exact w2 y e
 cases f with
 |ctyping_cond x=>
  obtain⟨c⟩:=x;have i:Cond.wf c:=t _ u;exact Qhe c i (a c i (by show cNs c.Parts<cN c;rw[Qb9];omega))
 |ctyping_step x=>
  obtain⟨s⟩:=x;have j:Step.wf s:=t _ u;obtain⟨r,⟨z,k⟩,⟨B,q⟩⟩:=Jw j;show Ev _ (vaS s);rw[QnC];refine QbG (λ_=>?_) (λF=>QbG (λ_=>?_) λ_=>Qa _)
  .refine Ea (Ea (QN _ _ _) (Eh λ_=>?_)) (Qa _);simp only[Qhh];refine Eh λ_=>Ea (Qbv s j) ((Qa _).eq ?_);unfold stepParts;rw[XU];simp only[Vs,XT,XY,XX];omega
  .refine Ea (Eh λ_=>?_) (Qa _);refine Ea (Qhe s.Cond r (a s.Cond r (by show _<sZ s;rw[QgP,Qb9];omega))) (Eh λ_=>Eh λ_=>?_);refine Ea (Qbv s j) (Ea (p (fZs (stepParts s)) ?_ _ (XQ _) (by unfold stepParts;simp;omega) ?_) ((Qa _).eq ?_))
   .have:fZs (stepParts s)<sZ s:=by
     unfold stepParts;rw[QfU,Qb4,Qb4,QgP];omega
    have H:fZ (Ui.ctyping_step {Step:=s})=sZ s:=rfl;omega
   .intro g d;rcases Vx.1 d with d|d
    .obtain⟨y,e,rfl⟩:=Xf.1 d;exact k y e
    .obtain⟨y,e,rfl⟩:=Xf.1 d;exact q y e
   .unfold stepParts;rw[List.any_append,QcX,QcX];simp
def goodT(l:List Step):Bool:=sDs 0 l&&(decide (sNs l<=64)&&decide (sCs l<=256))
def tiesE(l:List Step):Int:=bif goodT l then(bif l.isEmpty|| !vaSs l then 71 else 0)else 2
theorem QnX(l:List Step):okL (l.map ofStep) 0 0 0=goodT l:=by
 rw[XU,QhP _ _ _ _ (by omega) (by omega), <- Qdo,Qbh,Qbi];unfold goodT
 grind
theorem QpT(l:List Step)(hl:l.length<=1048576)(i:∀x∈l,Step.wf x):Ev (λn=>F_gw n l) (tiesE l):=by
 refine Ea (Qf2 l (by omega)) (Ea ?_ (Qa _));have a:∀f∈l.map ofStep,fwf f:=by
  intro g h;obtain⟨y,j,rfl⟩:=Xf.1 h;exact i y j
 obtain⟨k,d,m⟩:=QoC _ (l.map ofStep) 0 0 0 (XQ _) (by simp;omega) a (by omega) (by omega) (by omega) (.inl (by omega)) (by omega) (by omega);rw[QnX]at d;have p3:=d.shift;refine Ea p3 ?_;unfold tiesE;cases goodT l with
 |false=>exact Qa _
 |true=>
  have e:(((l.map ofStep).length:Int)==0)=l.isEmpty:=by
   cases l<;>simp;omega
  rw[e];refine Ea (Er λ_=>Ea (QkS _ _ (XQ _) (by simp;omega) a) (Qa _)) ?_
  grind[QcX,Qa]
def condB(d:Nat):Int:=256*(18-(d:Int))+1000
theorem QcF:∀(m:Nat) (c:Cond) (d:Nat),cN c<=m->d<=17->Cond.wf c->∃v:Int,Ev (λn=>F_l n c (d:Int)) v/\0<=v/\v<=condB d/\
  (d<=16/\cD (d+1) c=true/\cN c<=256->v=cN c)/\(¬(d<=16/\cD (d+1) c=true/\cN c<=256)->256<v):=by
 intro m
 induction m using Nat.strongRecOn with
 |_ m q=>
 intro c d hm hd Y;obtain⟨V,u⟩:=Jy Y;have H:∀{P:Int->Prop},(∃v:Int,Ev (λn=>B_l (F_l n) n c (d:Int)) v/\P v)->∃v:Int,Ev (λn=>F_l n c (d:Int)) v/\P v:=by
  rintro P ⟨v,j,e⟩;exact⟨v,QY j,e⟩
 refine H ?_;unfold B_l;by_cases s:d<=16
 .rw[Y3 (show¬(16:Int)<(d:Int)by omega)];have ed:i64.wrap ((d:Int)+1)=((d+1:Nat):Int):=YG (by omega);have loop:∀(r:List Cond) (i:Nat) (a:Int),c.Parts.drop i=r->i<=c.Parts.length->0<=a->a<=condB d->
    ∃v:Int,EvI (λn=>F_eh n c (d:Int) (F_l n)) (a,(i:Int)) v/\0<=v/\v<=condB d/\
     (cDs (d+1) r=true/\a+cNs r<=256->v=a+cNs r)/\(¬(cDs (d+1) r=true/\a+cNs r<=256)->256<v):=by
   intro r
   induction r with
   |nil=>
    intro i a B J F j;refine⟨a,Ei ?_,F,j,λ_=>by simp[cNs],λh=>?_⟩
    .unfold F_eh;simp only[Q9 B J,Vj,XG];exact Qa _
    .simp[cDs,cNs]at h;omega
   |cons x r G=>
    intro i a B J F j;obtain⟨g,t⟩:=QC (by omega) B;have hx:cN x<cN c:=by
     have:∀l:List Cond,x∈l->cN x<=cNs l:=by
      intro l
      induction l with
      |nil=>intro h;cases h
      |cons y l q=>
       intro h;rw[cNs];rcases X0.1 h with rfl|h
       .omega
       .have:=q h;omega
     have:=this _ g.mem;rw[Qb9 c];omega
    by_cases f:a<=256
    .obtain⟨v,E,O,L,k,N⟩:=q (cN x) (by omega) x (d+1) (XQ _) (by omega) (u x g.mem);have hB:condB (d+1)+256=condB d:=by unfold condB;omega
     have T:condB d<=6000:=by unfold condB;omega
     have e1:i64.wrap (a+v)=a+v:=Yb (by omega) (by omega);obtain⟨w,q1,Q,X,R,M⟩:=G (i+1) (a+v) t (by have:=g.lt';omega) (by omega) (by omega);refine⟨w,Eu ?_ q1,Q,X,?_,?_⟩
     .unfold F_eh;simp only[g.lt,Vi,YH f,XG,g.ix,g.nx,ed];refine Ea E ?_;rw[e1];exact Qa _
     .rintro⟨e,z⟩;simp only[cDs,XT,Vk]at e;rw[cNs]at z⊢;have:=k ⟨e.1,e.2.1,by omega⟩;subst this;rw[R ⟨e.2.2,by omega⟩];omega
     .intro W;by_cases p:d+1<=16/\cD (d+1+1) x=true/\cN x<=256
      .have:=k p;subst this;refine M λe=>W ⟨?_,?_⟩
       .simp only[cDs,XT,Vk];exact⟨p.1,p.2.1,e.1⟩
       .rw[cNs];omega
      .have:=N p;exact M λe=>by omega
    .refine⟨a,Ei ?_,F,j,λh=>?_,λ_=>by omega⟩
     .unfold F_eh;simp only[g.lt,Vi,Y3 f,XG,Vj];exact Qa _
     .omega
  obtain⟨v,E,O,L,k,N⟩:=loop c.Parts 0 1 rfl (XR _) (by omega) (by unfold condB;omega);refine⟨v,Yw (Ea E.ev (Qa _)),O,L,?_,?_⟩
  .rintro⟨_,e,z⟩;rw[Qma]at e;rw[Qb9]at z⊢;rw[k ⟨e,by omega⟩];omega
  grind[Qma,Qb9]
 .rw[YH (show(16:Int)<(d:Int)by omega)];refine⟨1000,Qkd (Qa _),by omega,by unfold condB;omega,λh=>absurd h.1 s,λ_=>by omega⟩
def sizeB:Nat->Int
 |0=>10000
 |k+1=>3*sizeB k
theorem Qc4:∀k,10000<=sizeB k
 |0=>Int.le_refl _
 |k+1=>by have:=Qc4 k;simp[sizeB];omega
theorem QnN{k:Nat}(h:k<=17):sizeB k<=1291401630000:=by
 have:∀j,j<=17->sizeB j<=1291401630000:=by decide+kernel
 grind
def goodL(d:Nat)(l:List Step):Prop:=sDs d l=true/\sNs l<=64/\sCs l<=256
theorem Ql0:∀(m:Nat) (l:List Step) (d:Nat),sZs l<=m->d<=17->l.length<=1048576->(∀x∈l,Step.wf x)->∃a b:Int,Ev (λn=>F_n n l (d:Int)) (a,b)/\0<=a/\0<=b/\a<=sizeB (17-d)/\b<=sizeB (17-d)/\
  (goodL d l->a=sNs l/\b=sCs l)/\(¬goodL d l->64<a\/256<b):=by
 intro m
 induction m using Nat.strongRecOn with
 |_ m E=>
 intro l d hm hd hl hw;have ae:∀{P:Int->Int->Prop},(∃a b:Int,Ev (λn=>B_n (F_n n) n l (d:Int)) (a,b)/\P a b)->∃a b:Int,Ev (λn=>F_n n l (d:Int)) (a,b)/\P a b:=by
  rintro P ⟨a,b,j,B⟩;exact⟨a,b,QY j,B⟩
 refine ae ?_;unfold B_n;by_cases w:0<l.length/\ ¬d<=16
 .rw[YH (show(0:Int)<(l.length:Int)by omega),YH (show(16:Int)<(d:Int)by omega)];have:=Qc4 (17-d);refine⟨1000,1000,Ea (Qa _) (Qkd (Qa _)),by omega,by omega,by omega,by omega,λh=>?_,λ_=>by omega⟩;exfalso;cases l with
  |nil=>simp at w
  |cons x r=>
   have:=h.1;simp only[sDs,XT,Vk]at this;omega
 .have p:Ev (λn:Nat=>((bif decide (0<(l.length:Int))then some (decide (16<(d:Int)))else some false):Option Bool)) false:=by
   grind[Qa]
  have ed:i64.wrap ((d:Int)+1)=((d+1:Nat):Int):=YG (by omega);have loop:∀(r:List Step) (i:Nat) (a b:Int),l.drop i=r->i<=l.length->0<=a->0<=b->a<=sizeB (17-d)->b<=sizeB (17-d)->
    ∃a' b':Int,EvI (λn=>F_fi n l (d:Int) (F_n n)) (a,b,(i:Int)) (a',b')/\0<=a'/\0<=b'/\a'<=sizeB (17-d)/\b'<=sizeB (17-d)/\
     (sDs d r=true/\a+sNs r<=64/\b+sCs r<=256->a'=a+sNs r/\b'=b+sCs r)/\(¬(sDs d r=true/\a+sNs r<=64/\b+sCs r<=256)->64<a'\/256<b'):=by
   intro r
   induction r with
   |nil=>
    intro i a b hr hi p j B O;refine⟨a,b,Ei ?_,p,j,B,O,λ_=>by simp[sNs,sCs],λh=>?_⟩
    .unfold F_fi;simp only[Q9 hr hi,Vj,XG];exact Qa _
    .simp[sDs,sNs,sCs]at h;omega
   |cons s r ac=>
    intro i a b hr hi p j B O;obtain⟨g,H⟩:=QC (by omega) hr;have ai:=g.lt';have t:d<=16:=by
     omega
    have ag:sZ s<=sZs l:=by
     have:∀l:List Step,s∈l->sZ s<=sZs l:=by
      intro l
      induction l with
      |nil=>intro h;cases h
      |cons y l E=>
       intro h;rw[sZs];rcases X0.1 h with rfl|h
       .omega
       .have:=E h;omega
     exact this _ g.mem
    by_cases e:a<=64/\b<=256
    .obtain⟨wc,⟨R,M⟩,⟨af,ab⟩⟩:=Jw (hw s g.mem);have ak:=QgP s;obtain⟨u,f,Q,p2,p3,p4,p5,G,p7⟩:=E (sZs s.Then) (by omega) s.Then (d+1) (XQ _) (by omega) R M;obtain⟨y1,y2,q1,q2,q3,q4,q5,q6,q7⟩:=E (sZs s.Else) (by omega) s.Else (d+1) (XQ _) (by omega) af ab;have hB:sizeB (17-d)=3*sizeB (17-(d+1)):=by
      rw[show 17-d=(17-(d+1))+1 by omega];rfl
     have N:=Qc4 (17-(d+1));have ah:=QnN (k:=17-d) (by omega);have hc:∃z:Int,0<=z/\z<=5608/\Ev (λn=>((bif (!zeroC s.Cond)then(idx l (i:Int)).bind λX=>(F_l n X.Cond 0).bind λT=>some (i64.wrap ((i64.wrap ((i64.wrap (b+f))+y2))+T))else some (i64.wrap ((i64.wrap (b+f))+y2))):Option Int)) (b+f+y2+z)/\
       ((zeroC s.Cond||cD 1 s.Cond)=true/\(bif zeroC s.Cond then 0 else cN s.Cond)<=256->z=((bif zeroC s.Cond then 0 else cN s.Cond:Nat):Int))/\(¬((zeroC s.Cond||cD 1 s.Cond)=true/\(bif zeroC s.Cond then 0 else cN s.Cond)<=256)->256<z):=by
      have e1:i64.wrap (b+f)=b+f:=Yb (by omega) (by omega);have e2:i64.wrap (b+f+y2)=b+f+y2:=Yb (by omega) (by omega);cases hz:zeroC s.Cond with
      |true=>
       refine⟨0,by omega,by omega,?_,λ_=>by simp,λh=>absurd ⟨rfl,by simp⟩ h⟩;simp only[Xh,Vj,e1,e2];exact(Qa _).eq (by omega)
      |false=>
       obtain⟨v,u1,u2,u3,u4,u5⟩:=QcF _ s.Cond 0 (XQ _) (by omega) wc;have J:v<=5608:=by unfold condB at u3;omega
       have e3:i64.wrap (b+f+y2+v)=b+f+y2+v:=Yb (by omega) (by omega);refine⟨v,u2,J,?_,λh=>?_,λh=>?_⟩
       .simp only[Xi,Vi,g.ix,XG,e1,e2];refine Ea u1 ?_;rw[e3];exact Qa _
       .simp only[Bool.false_or,Vj]at h⊢;exact u4 ⟨by omega,h.1,h.2⟩
       .simp only[Bool.false_or,Vj]at h;exact u5 λq=>h ⟨q.2.1,q.2.2⟩
     obtain⟨z,z0,z1,z2,z3,z4⟩:=hc;have e4:i64.wrap (a+1)=a+1:=Yb (by omega) (by omega);have e5:i64.wrap (a+1+u)=a+1+u:=Yb (by omega) (by omega);have e6:i64.wrap (a+1+u+y1)=a+1+u+y1:=Yb (by omega) (by omega);obtain⟨w1,w2,v1,v2,v3,v4,v5,v6,F⟩:=ac (i+1) (a+1+u+y1) (b+f+y2+z) H (by omega) (by omega) (by omega) (by omega) (by omega);refine⟨w1,w2,Eu ?_ v1,v2,v3,v4,v5,?_,?_⟩
     .unfold F_fi;simp only[g.lt,Vi,YH e.1,YH e.2,XG,g.ix,g.nx,ed,Qf3];refine Ea Q (Ea q1 ?_);simp only[g.ix,XG]at z2;refine Ea z2 ?_;rw[e4,e5,e6];exact Qa _
     .rintro⟨g1,g2,g3⟩;simp only[sDs,XT,Vk,QiS]at g1;obtain⟨aj,⟨aa,W,V⟩,L⟩:=g1;rw[sNs,QgQ]at g2⊢;rw[sCs,Qfh]at g3⊢;obtain⟨k1,k2⟩:=G ⟨W,by omega,by omega⟩;obtain⟨k3,k4⟩:=q6 ⟨V,by omega,by omega⟩;have k5:=z3 ⟨aa,by omega⟩;obtain⟨k6,k7⟩:=v6 ⟨L,by omega,by omega⟩;constructor<;>omega
     .intro hn;by_cases Y:goodL (d+1) s.Then
      .obtain⟨k1,k2⟩:=G Y;by_cases b2:goodL (d+1) s.Else
       .obtain⟨k3,k4⟩:=q6 b2;by_cases b3:(zeroC s.Cond||cD 1 s.Cond)=true/\(bif zeroC s.Cond then 0 else cN s.Cond)<=256
        .have k5:=z3 b3;refine F λq=>hn ⟨?_,?_,?_⟩
         .simp only[sDs,XT,Vk,QiS];exact⟨t,⟨b3.1,Y.1,b2.1⟩,q.1⟩
         .rw[sNs,QgQ];omega
         .rw[sCs,Qfh];omega
        .have:=z4 b3;exact F λq=>by omega
       .have:=q7 b2;exact F λq=>by omega
      .have:=p7 Y;exact F λq=>by omega
    .refine⟨a,b,Ei ?_,p,j,B,O,λh=>?_,λ_=>?_⟩
     .unfold F_fi;have:Ev (λn:Nat=>((bif decide ((i:Int)<(l.length:Int))then(bif decide (a<=64)then some (decide (b<=256))else some false)else some false):Option Bool)) false:=by
       rw[g.lt];by_cases q:a<=64
       .rw[YH q,Y3 (show¬b<=256 from λz=>e ⟨q,z⟩)];exact Qa _
       .rw[Y3 q];exact Qa _
      exact Ea this (Yw (Qa _))
     iterate 2 omega
  have N:=Qc4 (17-d);obtain⟨a,b,Q,p2,p3,p4,p5,G,p7⟩:=loop l 0 0 0 rfl (XR _) (by omega) (by omega) (by omega) (by omega);refine⟨a,b,Ea p (Yw (Ea Q.ev (Qa _))),p2,p3,p4,p5,λh=>?_,λh=>?_⟩
  .obtain⟨k1,k2⟩:=G ⟨h.1,by have:=h.2.1;omega,by have:=h.2.2;omega⟩;constructor<;>omega
  .exact p7 λq=>h ⟨q.1,by omega,by omega⟩
theorem QjF:∀(m:Nat) (c:Cond),cN c<=m->Cond.wf c->Ev (λn=>F_ab n c) (vaC c):=by
 intro m
 induction m using Nat.strongRecOn with
 |_ m r=>
 intro c w s;obtain⟨u,k⟩:=Jy s;refine QY ?_;show Ev (λn=>B_ab (F_ab n) n c) _;rw[QnD];have f:∀x∈c.Parts,cN x<cN c:=by
  intro x f;have:∀l:List Cond,x∈l->cN x<=cNs l:=by
   intro l
   induction l with
   |nil=>simp
   |cons y l r=>
    intro h;rw[cNs]
    grind
  have:=this _ f;rw[Qb9 c];omega
 have loop:Ev (λn=>iter (F_eq n c (F_ab n)) n 0) (bif c.Parts.all vaC then Ctl.cont ()else Ctl.done false):=by
  refine Y1 c.Parts vaC _ _ (by omega) (λi x a=>?_) ?_
  .unfold F_eq;simp only[a.lt,Vi,a.ix,XG,a.nx];refine Ea (r (cN x) (by have:=f x a.mem;omega) x (XQ _) (k x a.mem)) ?_;cases vaC x<;>exact Qa _
  simp_all[F_eq,Qa]
 have fin:Ev (λn=>((bif (c.Var != 0)then some true else some (c.N != 0)):Option Bool).bind λj=>(bif j then some false else(iter (F_eq n c (F_ab n)) n 0).bind λg=>match g with|.cont sb48=>(some true)|.done sb48=>some sb48)) (((c.Var==0)&&(c.N==0))&&vaCs c.Parts):=by
  refine Ea (v:= !((c.Var==0)&&(c.N==0))) (Ez ?_) ?_
  .grind
  .cases((c.Var==0)&&(c.N==0))with
   |false=>exact Qa _
   |true=>
    refine Yw (Ea loop ?_)
    grind[QhD,Qa]
 refine QbG (λ_=>?_) (λz=>?_)
 .refine Ea (v:=_) ((Eh λ_=>Eh λ_=>Eh λ_=>Eh λ_=>Qa _).eq ?_) (Qa _);unfold inR
  grind
 .have e:Ev (λn:Nat=>((bif (c.Kind==2)then some (c.Kind==2)else some (c.Kind==3)):Option Bool)) ((c.Kind==2)||(c.Kind==3)):=Ez (by rw[QoT]);refine Ea e ?_;cases d:((c.Kind==2)||(c.Kind==3))with
  |true=>
   have q:(c.Kind==4)=false:=by
    rw[VG];simp only[Bool.or_eq_true,Vs]at d;simp only[Vs,ne_eq];omega
   rw[q];have t:(bif decide ((c.Parts.length:Int)<1)then some true else some (decide (16<(c.Parts.length:Int))))=some (!(decide (0<(c.Parts.length:Int))&&decide ((c.Parts.length:Int)<=16))):=by
    rw[Qmb];congr 1;rw[XU];simp only[Bool.or_eq_true,Vk,Bool.not_eq_true',Bool.and_eq_false_iff,decide_eq_false_iff_not];omega
   rw[t];cases p:(decide (0<(c.Parts.length:Int))&&decide ((c.Parts.length:Int)<=16))with
   |false=>
    refine Ea (Qa _) ((Qa _).eq (by simp))
   |true=>
    refine Ea (Qa _) (fin.eq (by simp))
  |false=>
   simp only[Vj];cases q:(c.Kind==4)with
   |true=>
    simp only[Vi];cases p:((c.Parts.length:Int)==1)with
    |false=>
     refine Ea (v:=Ctl.done false) (Ez ?_) ((Qa _).eq (by simp));simp only[bne,p,Xi,Vi]
    |true=>
     refine Ea (v:=Ctl.cont ()) (Ez ?_) (fin.eq (by simp));simp only[bne,p,Xh,Vj]
   |false=>
    refine Ea (Qa _) (Qa _)
theorem QkO(c:Cond)(a:Cond.wf c)(f:cD 1 c=true)(g:cN c<=256):Ev (λn=>F_ce n c) (bif vaC c then 0 else 71):=by
 obtain⟨v,e,_,_,d,_⟩:=QcF _ c 0 (XQ _) (by omega) a;have:=d ⟨by omega,f,g⟩;refine Ea e ?_;rw[Y3 (show¬256<v by omega)];refine Yw (Ea (QjF _ c (XQ _) a) ?_);cases vaC c<;>exact Qa _
theorem Qmr{c:Cond}(h:zeroC c=true):cD 1 c=true/\cN c<=256:=by
 unfold zeroC at h;simp only[XT,Vs]at h;have:c.Parts=[]:=(by simp_all);rw[Qma,Qb9,this];exact⟨rfl,by simp[cNs]⟩
theorem QjD:∀(m:Nat) (l:List Step) (d:Nat),sZs l<=m->l.length<=1048576->(∀x∈l,Step.wf x)->sDs d l=true->sCs l<=256->Ev (λn=>F_i n l) (vaSs l):=by
 intro m
 induction m using Nat.strongRecOn with
 |_ m u=>
 intro l d hm Y N G hc;refine QY ?_;show Ev (λn=>B_i (F_i n) n l) _;unfold B_i;have k:∀s∈l,sZ s<=sZs l/\sDp (d+1) s=true/\sC s<=sCs l:=by
  intro s;have:∀l:List Step,s∈l->sDs d l=true->sZ s<=sZs l/\sDp (d+1) s=true/\sC s<=sCs l:=by
   intro l
   induction l with
   |nil=>simp
   |cons y l u=>
    intro h G;simp only[sDs,XT]at G;rw[sZs,sCs]
    grind
  grind
 rw[QhC];have loop:Ev (λn=>iter (F_kf n l (F_i n)) n 0) (bif l.all vaS then Ctl.cont ()else Ctl.done false):=by
  refine Y1 l vaS _ _ (by omega) (λi s q=>?_) ?_
  .obtain⟨m1,w,X⟩:=k s q.mem;obtain⟨M,⟨z,t⟩,⟨E,B⟩⟩:=Jw (N s q.mem);have O:=QgP s;have j:=Qfh s;rw[QiS]at w;simp only[XT]at w;obtain⟨F,W,T⟩:=w;have f:cD 1 s.Cond=true/\cN s.Cond<=256:=by
    cases H:zeroC s.Cond with
    |true=>exact Qmr H
    |false=>
     rw[H]at F j;simp only[Vj]at j;exact⟨by simpa using F,by omega⟩
   unfold F_kf;simp only[q.lt,Vi,q.ix,XG,q.nx,Qf3];rw[QnC];cases h1:(s.Kind==1)with
   |true=>
    simp only[Vi];have e:Ev (λn:Nat=>((bif decide (s.By<1)then some true else(bif decide (5<s.By)then some true else(bif (!zeroC s.Cond)then some true else(bif ((s.Then.length:Int) != 0)then some true else some ((s.Else.length:Int) != 0))))):Option Bool)) (!(inR 1 5 s.By&&(zeroC s.Cond&&(((s.Then.length:Int)==0)&&((s.Else.length:Int)==0))))):=by
     refine(Er λ_=>Er λ_=>Er λ_=>Er λ_=>Qa _).eq ?_;unfold inR;cases zeroC s.Cond with
     |false=>simp
     |true=>
      rw[XU];simp only[Bool.or_eq_true,Vk,Bool.not_eq_true',Bool.and_eq_false_iff,decide_eq_false_iff_not,bne_iff_ne,ne_eq,Vt,Xh,Vu,Xj,false_or];omega
    cases r:(inR 1 5 s.By&&(zeroC s.Cond&&(((s.Then.length:Int)==0)&&((s.Else.length:Int)==0))))with
    |true=>rw[r]at e;exact Ea (Ea e (Qa _)) (Qa _)
    |false=>rw[r]at e;exact Ea (Ea e (Qa _)) (Qa _)
   |false=>
    simp only[Vj];cases h2:(s.Kind==2)with
    |true=>
     simp only[Vi];have e:Ev (λn=>((bif (s.By != 0)then some true else(F_ce n s.Cond).bind λp=>(bif (p != 0)then some true else(bif ((s.Then.length:Int)==0)then some true else(F_i n s.Then).bind λg=>(bif (!g)then some true else(F_i n s.Else).bind λa=>some (!a))))):Option Bool)) (!((s.By==0)&&(vaC s.Cond&&(decide (0<(s.Then.length:Int))&&(vaSs s.Then&&vaSs s.Else))))):=by
      have Q:=u (sZs s.Then) (by omega) s.Then (d+1) (XQ _) z t W (by omega);have R:=u (sZs s.Else) (by omega) s.Else (d+1) (XQ _) E B T (by omega);have P:Ev (λn=>(F_i n s.Else).bind λa=>some (!a)) (!vaSs s.Else):=Ea R (Qa _);have J:Ev (λn=>(F_i n s.Then).bind λg=>(bif (!g)then some true else(F_i n s.Else).bind λa=>some (!a))) (!vaSs s.Then|| !vaSs s.Else):=Ea Q (Er λ_=>P);refine(Er λ_=>Ea (QkO s.Cond M f.1 f.2) (Er λ_=>Er λ_=>J)).eq ?_;have V:((bif vaC s.Cond then(0:Int)else 71) != 0)= !vaC s.Cond:=by cases vaC s.Cond<;>rfl
      have L:((s.Then.length:Int)==0)= !decide (0<(s.Then.length:Int)):=by
       rw[XU];simp
      rw[V,L];simp only[Bool.not_and,bne]
     cases r:((s.By==0)&&(vaC s.Cond&&(decide (0<(s.Then.length:Int))&&(vaSs s.Then&&vaSs s.Else))))with
     |true=>rw[r]at e;exact Ea (Ea e (Qa _)) (Qa _)
     |false=>rw[r]at e;exact Ea (Ea e (Qa _)) (Qa _)
    |false=>exact Ea (Qa _) (Qa _)
  simp_all[F_kf,Qa]
 refine Ea loop ?_;cases l.all vaS<;>exact Qa _
theorem QkK(l:List Step)(hl:l.length<=1048576)(g:∀x∈l,Step.wf x):Ev (λn=>F_gr n l) (tiesE l):=by
 obtain⟨a,b,m,u,t,_,_,i,j⟩:=Ql0 _ l 0 (XQ _) (by omega) hl g;refine Ea m ?_;have k:goodT l=true↔goodL 0 l:=by
  unfold goodT goodL;simp
 unfold tiesE;cases f:goodT l with
 |false=>
  have:=j (λh=>by grind);have e:(bif decide (64<a)then some true else some (decide (256<b)))=some true:=by
   grind
  exact Ea (Ez e) (Qa _)
 |true=>
  have d:=k.1 f;obtain⟨w,r⟩:=i d;have s:=d.2.1;have q:=d.2.2;have e:(bif decide (64<a)then some true else some (decide (256<b)))=some false:=by
   grind
  refine Ea (Ez e) (Yw ?_);have p:((l.length:Int)==0)=l.isEmpty:=by
   cases l<;>simp;omega
  rw[p];refine Ea (Er λ_=>Ea (QjD _ l 0 (XQ _) hl g d.1 q) (Qa _)) ?_
  grind[Qa]
mutual
def hP:Part->Nat
 |⟨_,_,ps⟩=>bif ps.isEmpty then 0 else 1+hPs ps
def hPs:List Part->Nat
 |[]=>0
 |p::r=>max (hP p) (hPs r)
end
theorem Qqd(p:Part):hP p=bif p.Parts.isEmpty then 0 else 1+hPs p.Parts:=by cases p;rfl
theorem QlR{p:Part}:∀{l:List Part},p∈l->hP p<=hPs l
 |q::r,h=>by
  simp[hPs];rcases X0.1 h with rfl|h
  .omega
  .have:=QlR h;omega
theorem Qjd{α:Type}(l:List α):((l.length:Int)==0)=l.isEmpty:=by
 cases l<;>simp;omega
theorem QaJ:∀l:List Part,l.length<=szPs l
 |[]=>XQ _
 |p::r=>by have:=QaJ r;rw[szPs,Je,XW];omega
theorem Qes:∀(m:Nat) (l:List Part) (k:Nat),szPs l<=m->k<=17->l.length<=1048576->(∀x∈l,Part.wf x)->Ev (λn=>F_p n l (k:Int)) ((min (hPs l) k:Nat):Int):=by
 intro m
 induction m using Nat.strongRecOn with
 |_ m j=>
 intro l k z B F t;refine QY ?_;show Ev (λn=>B_p (F_p n) n l (k:Int)) _;unfold B_p;have loop:∀(r:List Part) (i:Nat) (a:Nat),l.drop i=r->i<=l.length->a<=k->EvI (λn=>F_cm n l (k:Int) (F_p n)) ((a:Int),(i:Int)) ((max a (min (hPs r) k):Nat):Int):=by
  intro r
  induction r with
  |nil=>
   intro i a e h d;refine Ei ?_;unfold F_cm;simp only[Q9 e h,Vj,XG];refine(Qa _).eq ?_;simp[hPs]
  |cons p r g=>
   intro i a e h s;obtain⟨d,f⟩:=QC (by omega) e;obtain⟨w1,w2⟩:=YW (t p d.mem);by_cases q:0<k
   .have y:i64.wrap ((k:Int)-1)=((k-1:Nat):Int):=by rw[Yb (by omega) (by omega)];omega
    have u:=JS d.mem;rw[Je]at u;have step:Ev (λn=>F_cm n l (k:Int) (F_p n) ((a:Int),(i:Int))) (.cont (((max a (min (hP p) k):Nat):Int),((i+1:Nat):Int))):=by
     unfold F_cm;simp only[d.lt,Vi,YH (show(0:Int)<(k:Int)by omega),XG,d.ix,d.nx,y,bne,Qjd];rw[Qqd];cases E:p.Parts.isEmpty with
     |true=>
      simp_all[Qa]
     |false=>
      simp only[Xi,Vi,Vj];refine Ea (Ea (j (szPs p.Parts) (by omega) p.Parts (k-1) (XQ _) (by omega) w1 w2) (Qa _)) ((Qa _).eq ?_);have w:i64.wrap (1+((min (hPs p.Parts) (k-1):Nat):Int))=((1+min (hPs p.Parts) (k-1):Nat):Int):=by rw[Yb (by omega) (by omega)];omega
      rw[w];congr 2;split<;>omega
    refine(Eu step (g (i+1) _ f (by have:=d.lt';omega) (by omega))).eq ?_;rw[hPs];omega
   simp_all[Ei,F_cm,Qa]
 refine Ea ((loop l 0 0 rfl (XR _) (XR _)).ev) ((Qa _).eq ?_);omega
theorem Qet:∀(m:Nat) (l:List Part),szPs l<=m->l.length<=1048576->(∀x∈l,Part.wf x)->Ev (λn=>F_y n l) ((min (szPs l) 257:Nat):Int):=by
 intro m
 induction m using Nat.strongRecOn with
 |_ m t=>
 intro l B u y;refine QY ?_;show Ev (λn=>B_y (F_y n) n l) _;have loop:∀(r:List Part) (i:Nat) (a:Nat),l.drop i=r->i<=l.length->a<=1048576->∃b:Nat,EvI (λn=>F_et n l (F_y n)) ((a:Int),(i:Int)) (b:Int)/\min b 257=min (a+(szPs r-r.length)) 257:=by
  intro r
  induction r with
  |nil=>
   intro i a f k _;refine⟨a,Ei ?_,by simp[szPs]⟩;unfold F_et;simp only[Q9 f k,Vj,XG];exact Qa _
  |cons p r g=>
   intro i a f k w;obtain⟨d,h⟩:=QC (by omega) f;obtain⟨w1,w2⟩:=YW (y p d.mem);have z:=JS d.mem;rw[Je]at z;have s:=QaJ r;by_cases j:a<=256
   .obtain⟨b,e,q⟩:=g (i+1) (a+min (szPs p.Parts) 257) h (by have:=d.lt';omega) (by omega);refine⟨b,Eu ?_ e,?_⟩
    .unfold F_et;simp only[d.lt,Vi,YH (show(a:Int)<=256 by omega),XG,d.ix,d.nx];refine Ea (t (szPs p.Parts) (by omega) p.Parts (XQ _) w1 w2) ((Qa _).eq ?_);rw[Yb (by omega) (by omega)];congr 2
     all_goals omega
    .rw[q,szPs,Je,XW];omega
   .refine⟨a,Ei ?_,by omega⟩;unfold F_et;simp only[d.lt,Vi,Y3 (show¬(a:Int)<=256 by omega),XG,Vj];exact Qa _
 obtain⟨b,e,q⟩:=loop l 0 l.length rfl (XR _) u;refine Ea e.ev ((Qa _).eq ?_);have:=QaJ l;omega
theorem QoB:∀(m:Nat) (l:List Part) (k:Nat),szPs l<=m->hPs l<=k->k<=17->szPs l<=256->(∀x∈l,Part.wf x)->Ev (λn=>F_u n l (k:Int)) ((hPs l:Int),(szPs l:Int)):=by
 intro m
 induction m using Nat.strongRecOn with
 |_ m y=>
 intro l k P O t f G;have w:=QaJ l;refine QY ?_;show Ev (λn=>B_u (F_u n) n l (k:Int)) _;unfold B_u;have loop:∀(r:List Part) (i:Nat) (a b:Nat),l.drop i=r->i<=l.length->a<=17->b+(szPs r-r.length)<=256->EvI (λn=>F_fx n l (k:Int) (F_u n)) ((a:Int),(b:Int),(i:Int)) (((max a (hPs r):Nat):Int),((b+(szPs r-r.length):Nat):Int)):=by
  intro r
  induction r with
  |nil=>
   intro i a b h s _ _;refine Ei ?_;unfold F_fx;simp only[Q9 h s,Vj,XG]
   grind[Qa,hPs,szPs]
  |cons p r j=>
   intro i a b h s z e;obtain⟨d,g⟩:=QC (by omega) h;obtain⟨w1,w2⟩:=YW (G p d.mem);have B:=JS d.mem;have q:=QlR d.mem;rw[Je]at B;have M:=QaJ r;rw[szPs,Je,XW]at e;have step:Ev (λn=>F_fx n l (k:Int) (F_u n) ((a:Int),(b:Int),(i:Int))) (.cont (((max a (hP p):Nat):Int),((b+szPs p.Parts:Nat):Int),((i+1:Nat):Int))):=by
    unfold F_fx;simp only[d.lt,Vi,d.ix,XG,d.nx,Qjd];rw[Qqd]at q⊢;cases u:p.Parts.isEmpty with
    |true=>
     have H:p.Parts=[]:=by simpa using u
     simp only[Vi,XG];rw[H];simp only[szPs,Xv,Nat.max_zero];exact Qa _
    |false=>
     rw[u]at q;simp only[Vj]at q⊢;have F:0<k:=by omega
     have N:i64.wrap ((k:Int)-1)=((k-1:Nat):Int):=by rw[Yb (by omega) (by omega)];omega
     have E:((k:Int)==0)=false:=beq_false_of_ne (by omega);rw[E,Y3 (show¬(256:Int)<(b:Int)by omega),N];simp only[Vj,XG];refine Ea (Ea (y (szPs p.Parts) (by omega) p.Parts (k-1) (XQ _) (by omega) (by omega) (by omega) w2) (Qa _)) ((Qa _).eq ?_);have L:i64.wrap ((hPs p.Parts:Int)+1)=((hPs p.Parts+1:Nat):Int):=YG (by omega);have J:i64.wrap ((b:Int)+(szPs p.Parts:Int))=((b+szPs p.Parts:Nat):Int):=by rw[Yb (by omega) (by omega)];omega
     simp only[L,J];congr 2;split<;>omega
   refine(Eu step (j (i+1) _ _ g (by have:=d.lt';omega) (by omega) (by omega))).eq ?_;rw[hPs,szPs,Je,XW];congr 1<;>omega
 refine Ea ((loop l 0 0 l.length rfl (XR _) (by omega) (by omega)).ev) ((Qa _).eq ?_)
 grind
def repS:Nat->List Int->List Int->List Int
 |0,out,_=>out
 |k+1,out,lap=>if 256<out.length then out else repS k (out++lap) lap
mutual
def lapS:Part->List Int
 |⟨m,laps,ps⟩=>bif decide (0<laps)then expS [] ps else[m]
def expS:List Int->List Part->List Int
 |out,[]=>out
 |out,p::r=>expS (repS (p.Laps.toNat+(bif decide (0<p.Laps)then 0 else 1)) out (lapS p)) r
end
theorem Qcn(p:Part):lapS p=bif decide (0<p.Laps)then expS [] p.Parts else[p.Mat]:=by cases p;rfl
theorem Qdb{k:Nat}{a d:List Int}(h:256<a.length):repS k a d=a:=by
 cases k with
 |zero=>rfl
 |succ k=>rw[repS,Vm h]
theorem Qf1:∀(l:List Part) {out:List Int},256<out.length->expS out l=out
 |[],out,h=>by rw[expS]
 |p::r,out,h=>by rw[expS,Qdb h];exact Qf1 r h
theorem Qda:∀(k:Nat) (out lap:List Int),(repS k out lap).length<=max out.length (256+lap.length)
 |0,out,lap=>by rw[repS];omega
 |k+1,out,lap=>by
  rw[repS];split
  .omega
  .have:=Qda k (out++lap) lap
   grind
theorem Qf0:∀(m:Nat) (l:List Part) (a:List Int),szPs l<=m->(expS a l).length<=max a.length (256+257*szPs l):=by
 intro m
 induction m using Nat.strongRecOn with
 |_ m f=>
 intro l;have e:∀p∈l,szPs l<=m->(lapS p).length<=257*szP p:=by
  intro p g k;have s:=JS g;rw[Qcn,Je]at*;cases decide (0<p.Laps)with
  |true=>
   have:=f (szPs p.Parts) (by omega) p.Parts [] (XQ _)
   grind
  |false=>simp;omega
 have i:∀(r:List Part) (a:List Int),(∀p∈r,(lapS p).length<=257*szP p)->(expS a r).length<=max a.length (256+257*szPs r):=by
  intro r
  induction r with
  |nil=>intro a _;rw[expS];omega
  |cons p r d=>
   intro a h;rw[expS,szPs];have n:=d (repS (p.Laps.toNat+(bif decide (0<p.Laps)then 0 else 1)) a (lapS p)) λq j=>h q (by simp[j])
   grind[Qda]
 grind
theorem Qjg(p:Part):(lapS p).length<=257*szP p:=by
 rw[Qcn,Je];cases decide (0<p.Laps)with
 |true=>
  have:=Qf0 _ p.Parts [] (XQ _)
  grind
 |false=>simp;omega
theorem Qm0(T:Int):∀(m:Nat) (l:List Part),szPs l<=m->szPs l<=256->l.length<=1048576->(∀x∈l,Part.wf x)->partsS T l=true->Ev (λn=>F_r n l) (expS [] l):=by
 intro m
 induction m using Nat.strongRecOn with
 |_ m V=>
 intro l hm G hl Y P;rw[Qba,Xs]at P;refine QY ?_;show Ev (λn=>B_r (F_r n) n l) _;unfold B_r;have inner:∀(p:Part) (e:List Int) (g:p.Laps=0\/0<p.Laps/\p.Laps<=64) (B:e.length<=100000) (j:Nat) (k:Nat) (a:List Int),j+k=p.Laps.toNat+(bif decide (0<p.Laps)then 0 else 1)->a.length<=200000->
   ∃d:Ctl (List Int) (Ctl ((List Int)×Int) (Ctl (List Int) (List Int))),EvI (λn=>F_gh n p e) (a,(j:Int)) d/\
    (d=.cont (repS k a e)\/(256<(repS k a e).length/\d=.done (.done (.done (repS k a e))))):=by
  intro p e g B j k
  induction k generalizing j with
  |zero=>
   intro a z _;refine⟨_,Ei (b:=.cont a) ?_,.inl rfl⟩;unfold F_gh;have:¬((j:Int)<if p.Laps<1 then 1 else p.Laps):=by
    grind
   rw[Y3 this];exact Qa _
  |succ k J=>
   intro a z y;have q:((j:Int)<if p.Laps<1 then 1 else p.Laps):=by
    rcases g with h|⟨h,h'⟩
    .rw[h]at z⊢;simp at z⊢;omega
    .rw[YH h]at z;simp at z;rw[Vl (by omega)];omega
   by_cases u:256<a.length
   .refine⟨_,Ei (b:=.done (.done (.done a))) ?_,.inr ⟨by rw[Qdb u];exact u,by rw[Qdb u]⟩⟩;unfold F_gh;rw[YH q,YH (show(256:Int)<(a.length:Int)by omega)];exact Qa _
   .obtain⟨d,s,E⟩:=J (j+1) (a++e) (by omega) (by rw[XY];omega);refine⟨d,Eu ?_ s,by rw[repS,Vl u];exact E⟩;unfold F_gh;rw[YH q,Y3 (show¬(256:Int)<(a.length:Int)by omega)];refine Qkd (Yw (J1 (Qdv a e (by omega)) ?_));rw[YG (by omega)];exact Qa _
 have loop:∀(r:List Part) (i:Nat) (a:List Int),l.drop i=r->i<=l.length->a.length<=100000->
   ∃d:Ctl (List Int) (List Int),EvI (λn=>F_ef n l (F_r n)) (a,(i:Int)) d/\(d=.cont (expS a r)\/d=.done (expS a r)):=by
  intro r
  induction r with
  |nil=>
   intro i a L O _;refine⟨.cont a,Ei ?_,.inl (by rw[expS])⟩;unfold F_ef;simp only[Q9 L O,Vj];exact Qa _
  |cons p r N=>
   intro i a L O y;obtain⟨f,H⟩:=QC (by omega) L;have q:=f.lt';have W:=JS f.mem;obtain⟨w1,w2⟩:=YW (Y p f.mem);have g:=P p f.mem;rw[QbZ]at g;have t:p.Laps=0\/0<p.Laps/\p.Laps<=64:=by
    cases Q:(p.Laps==0)with
    |true=>exact .inl (by simpa using Q)
    |false=>
     rw[Q]at g;simp only[Vj,inR,XT,Vk]at g;exact .inr ⟨by omega,by omega⟩
   have X:=Qjg p;have u:Ev (λn=>((bif decide (0<p.Laps)then(F_r n p.Parts).bind λM=>some M else some [p.Mat]):Option (List Int))) (lapS p):=by
    rw[Qcn];refine QbG (λh=>?_) (λ_=>Qa _);rw[Je]at W;refine Ea (V (szPs p.Parts) (by omega) p.Parts (XQ _) (by omega) w1 w2 ?_) (Qa _);have:(p.Laps==0)=false:=by
     simp only[Vk]at h;exact beq_false_of_ne (by omega)
    rw[this]at g;simp only[Vj,XT]at g;exact g.2.2.2
   obtain⟨d,s,E⟩:=inner p (lapS p) t (by omega) 0 _ a (Xu _) (by omega);rw[expS];rcases E with rfl|⟨F,rfl⟩
   .obtain⟨w,q1,R⟩:=N (i+1) (repS (p.Laps.toNat+(bif decide (0<p.Laps)then 0 else 1)) a (lapS p)) H (by omega) (by
     have:=Qda (p.Laps.toNat+(bif decide (0<p.Laps)then 0 else 1)) a (lapS p);omega)
    refine⟨w,Eu ?_ q1,R⟩;unfold F_ef;simp only[f.lt,Vi,f.ix,XG,f.nx];exact Ea u (Ea s.ev (Qa _))
   .refine⟨.done (repS (p.Laps.toNat+(bif decide (0<p.Laps)then 0 else 1)) a (lapS p)),Ei ?_,.inr (by rw[Qf1 r F])⟩;unfold F_ef;simp only[f.lt,Vi,f.ix,XG,f.nx];exact Ea u (Ea s.ev (Qa _))
 obtain⟨d,s,E⟩:=loop l 0 [] rfl (XR _) (by simp);rcases E with rfl|rfl
 iterate 2 exact Ea s.ev (Qa _)
theorem Qic(L:Int):∀(m:Nat) (l:List Part),szPs l<=m->szPs l<=256->l.length<=1048576->(∀x∈l,Part.wf x)->partsS L l=true->Ev (λn=>F_ac n l) (expS [] l):=by
 intro m
 induction m using Nat.strongRecOn with
 |_ m M=>
 intro l V t T Q G;rw[Qba,Xs]at G;refine QY ?_;show Ev (λn=>B_ac (F_ac n) n l) _;unfold B_ac;have inner:∀(p:Part) (i:Nat) (e:At l i p) (J:List Int) (f:List Int) (g:0<p.Laps/\p.Laps<=64) (q:f.length<=100000) (j:Nat) (k:Nat) (a:List Int),j+k=p.Laps.toNat->a.length<=200000->
   EvI (λn=>F_fs n l (J,(i:Int)) f) (a,(j:Int)) (repS k a f):=by
  intro p i e J f g q j k
  induction k generalizing j with
  |zero=>
   intro a P _;refine Ei ?_;unfold F_fs;simp only[e.ix,XG];rw[Y3 (show¬(j:Int)<p.Laps by omega)];exact Qa _
  |succ k y=>
   intro a P h;by_cases s:256<a.length
   .refine Ei ?_;rw[Qdb s];unfold F_fs;simp only[e.ix,XG];rw[YH (show(j:Int)<p.Laps by omega),Y3 (show¬(a.length:Int)<=256 by omega)];exact Qa _
   .rw[repS,Vl s];refine Eu ?_ (y (j+1) (a++f) (by omega) (by rw[XY];omega));unfold F_fs;simp only[e.ix,XG];rw[YH (show(j:Int)<p.Laps by omega),YH (show(a.length:Int)<=256 by omega)];simp only[Vi,XG];refine J1 (Qdv a f (by omega)) ?_;rw[YG (by omega)];exact Qa _
 have loop:∀(r:List Part) (i:Nat) (a:List Int),l.drop i=r->i<=l.length->a.length<=100000->
   EvI (λn=>F_hc n l (F_ac n)) (a,(i:Int)) (expS a r):=by
  intro r
  induction r with
  |nil=>
   intro i a B F _;refine Ei ?_;rw[expS];unfold F_hc;simp only[Q9 B F,Vj,XG];exact Qa _
  |cons p r E=>
   intro i a B F h;obtain⟨e,u⟩:=QC (by omega) B;have O:=e.lt';have N:=JS e.mem;by_cases s:256<a.length
   .rw[Qf1 _ s];refine Ei ?_;unfold F_hc;simp only[e.lt,Vi,Y3 (show¬(a.length:Int)<=256 by omega),XG,Vj];exact Qa _
   obtain⟨w1,w2⟩:=YW (Q p e.mem);have g:=G p e.mem;rw[QbZ]at g;have w:=Qjg p;rw[expS];refine Eu ?_ (E (i+1) _ u (by omega) (by
    have:=Qda (p.Laps.toNat+(bif decide (0<p.Laps)then 0 else 1)) a (lapS p);omega))
   unfold F_hc;simp only[e.lt,Vi,YH (show(a.length:Int)<=256 by omega),XG,e.ix,e.nx];cases H:(p.Laps==0)with
   |true=>
    have R:p.Laps=0:=by simpa using H
    simp only[Vi];refine Ea (J1 (Qdv a [p.Mat] (by simp;omega)) (Qa _)) ((Qa _).eq ?_);rw[Qcn,R];simp[repS,s]
   |false=>
    rw[H]at g;simp only[Vj,XT,inR,Vk]at g;have d:0<p.Laps/\p.Laps<=64:=⟨by omega,by omega⟩;simp only[Vj];rw[Je]at N;refine Ea (Ea (M (szPs p.Parts) (by omega) p.Parts (XQ _) (by omega) w1 w2 g.2.2.2) (Ea ?_ (Qa _))) (Qa _);have z:=Qcn p;rw[YH d.1,Vi]at z;have:=(inner p i e a (expS [] p.Parts) d (by rw[<- z];rw[Je]at w;omega) 0 p.Laps.toNat a (by omega) (by omega)).ev;rw[<- z]at this⊢;rw[YH d.1];exact this
 exact Ea (loop l 0 [] rfl (XR _) (by simp)).ev (Qa _)
def kindAt(c:Course)(m:Int):Int:=((c.Mats[m.toNat]?).map (·.Kind)).getD 0
def hasLeg(c:Course)(a b:Int):Bool:=c.Legs.any λl=>(l.From==a)&&(l.To==b)
def rokS(c:Course)(len:Nat):Nat->Int->List Int->Bool
 |_,_,[]=>true
 |i,prev,m::r=>((kindAt c m==1)==decide (i=0))&&(((kindAt c m==3)==decide (i+1=len))&&((decide (i=0)||hasLeg c prev m)&&rokS c len (i+1) m r))
def routeR(c:Course)(d:Distance)(r:List Int):Bool:=
 (decide (2<=r.length)&&decide (r.length<=256))&&(rokS c r.length 0 0 r&&((bif decide (0<=d.Extra)then !((r.count d.Extra:Int)==0)&&((kindAt c d.Extra==2)&&hasLeg c d.Extra d.Extra)else true)&&d.Cutoffs.all λx=>decide (x.Lap<=(r.count x.Mat:Int))))
def routeS(c:Course)(d:Distance):Bool:=routeR c d (expS [] d.Route)
def cntM(l:List Int):List (Int×Int):=l.foldl (λm k=>QQ m k (Q2 m k 0+1)) []
theorem Qm8(l:List Int)(k:Int):cntM (l++[k])=QQ (cntM l) k (Q2 (cntM l) k 0+1):=by unfold cntM;simp
theorem Qgf(l:List Int)(k:Int):Q2 (cntM l) k 0=(l.count k:Int):=by
 have a:∀(l:List Int) (m:List (Int×Int)),Q2 (l.foldl (λm k=>QQ m k (Q2 m k 0+1)) m) k 0=Q2 m k 0+l.count k:=by
  intro l
  induction l with
  |nil=>simp
  |cons x l d=>
   grind[Qfv]
 grind[cntM,QmC]
theorem Qky(d:Int):∀(m:Nat) (l:List Part) (a:List Int),szPs l<=m->partsS d l=true->(∀x∈a,0<=x/\x<=d)->∀x∈expS a l,0<=x/\x<=d:=by
 intro m
 induction m using Nat.strongRecOn with
 |_ m t=>
 intro l;have i:∀(k:Nat) (a e:List Int),(∀x∈a,0<=x/\x<=d)->(∀x∈e,0<=x/\x<=d)->∀x∈repS k a e,0<=x/\x<=d:=by
  intro k
  induction k with
  |zero=>intro a e u _;exact u
  |succ k w=>
   grind[repS]
 have y:∀(r:List Part) (a:List Int),szPs r<=m->partsS d r=true->(∀x∈a,0<=x/\x<=d)->∀x∈expS a r,0<=x/\x<=d:=by
  intro r
  induction r with
  |nil=>intro a _ _ h;exact h
  |cons p r j=>
   intro a s q h;rw[szPs,Je]at s;rw[partsS,XT]at q;obtain⟨f,z⟩:=q;refine j _ (by omega) z (i _ _ _ h ?_);rw[Qcn];rw[QbZ]at f;cases g:(p.Laps==0)with
   |true=>
    have e0:=by simpa using g
    rw[g,Vi,XT]at f;have:=f.1;unfold inR at this;simp[XT,Vk]at this;rw[e0];intro x n;simp at n;subst n;exact this
   |false=>
    rw[g]at f;simp[Vj,XT,inR,Vk]at f;rw[YH (show 0<p.Laps by omega),Vi];exact t (szPs p.Parts) (by omega) p.Parts [] (XQ _) f.2.2.2 (by simp)
 grind
theorem Qdh{c:Course}{m:Int}(h0:0<=m)(d:m<=(c.Mats.length:Int)-1):∃x:Mat,idx c.Mats m=some x/\x.Kind=kindAt c m:=by
 obtain⟨k,rfl⟩:∃k:Nat,m=k:=⟨m.toNat,by omega⟩;have a:k<c.Mats.length:=by omega
 simp_all[YL,kindAt]
theorem Qje(c:Course)(a b:Int):Q2 (Yu legKey true c.Legs) {from_:=a,to_:=b} false=hasLeg c a b:=by
 rw[Qek];by_cases h:{from_:=a,to_:=b}∈c.Legs.map legKey
 .rw[Vm h];obtain⟨l,d,e⟩:=Xf.1 h;obtain⟨g,f⟩:=ends_eq.1 e;exact(Xt.2 ⟨l,d,by simp[g,f]⟩).symm
 .rw[Vl h]
  symm
  rw[VG];intro q;obtain⟨l,d,e⟩:=Xt.1 q;simp[XT,Vs]at e
  grind[legKey]
theorem QoE(c:Course)(w:CourseOk c)(a b:Int):∃v:Int,Ev (λn=>F_as n c a b) v/\decide (v<0)= !hasLeg c a b:=by
 have u:c.Legs.length<=4611686018427387904:=by have:=w.legs;omega
 have step:∀i x,At c.Legs i x->Ev (λn=>F_fu n c a b i) (bif (x.From==a)&&(x.To==b)then .done (.done i)else .cont (i+1)):=by
  intro i x e;unfold F_fu;simp only[e.lt,e.ix,e.nx];refine Ea (Eh λ_=>Qa _) ?_
  grind[Qa]
 have loop:∀(r:List Leg) (i:Nat),c.Legs.drop i=r->i<=c.Legs.length->∃d:Ctl Unit Int,EvI (λn=>F_fu n c a b) i d/\((r.any λl=>(l.From==a)&&(l.To==b))=true->∃j:Nat,d=.done j)/\((r.any λl=>(l.From==a)&&(l.To==b))=false->d=.cont ()):=by
  intro r
  induction r with
  |nil=>
   intro i m q;refine⟨.cont (),Ei ?_,λh=>(by simp at h),λ_=>rfl⟩
   grind[F_fu,Q9,Qa]
  |cons x r p=>
   intro i m q;obtain⟨e,k⟩:=QC u m;have s:=step i x e;rw[List.any_cons];cases h:((x.From==a)&&(x.To==b))with
   |true=>
    rw[h]at s;exact⟨.done i,Ei s,λ_=>⟨i,rfl⟩,λh=>by simp at h⟩
   |false=>
    rw[h]at s;obtain⟨d,f,g⟩:=p (i+1) k (by have:=e.lt';omega);exact⟨d,Eu s f,by simpa using g⟩
 obtain⟨d,f,g,t⟩:=loop c.Legs 0 rfl (XR _);unfold hasLeg;cases h:c.Legs.any λl=>(l.From==a)&&(l.To==b)with
 |true=>
  obtain⟨j,rfl⟩:=g h;exact⟨j,Ea f.ev (Qa _),by simp⟩
 |false=>
  obtain rfl:=t h;exact⟨-1,Ea f.ev (Qa _),by simp⟩
theorem QjH(l:List Int)(k:Int)(hl:l.length<=1048576):Ev (λn=>F_bk n l k) (l.count k:Int):=by
 have loop:∀(r:List Int) (i:Nat) (a:Nat),l.drop i=r->i<=l.length->a<=i->EvI (λn=>F_gy n l k) (a,i) (a+r.count k):=by
  intro r
  induction r with
  |nil=>
   grind[EvI.done,F_gy,Q9,Qa]
  |cons x r f=>
   intro i a m q g;obtain⟨d,e⟩:=QC (by omega) m;have p:=d.lt';have j:i64.wrap (a+1)=a+1:=YG (by omega);rw[List.count_cons];cases h:(x==k)with
   |true=>
    refine(Eu ?_ (f (i+1) (a+1) e (by omega) (by omega))).eq ?_
    .unfold F_gy;simp only[d.lt,d.ix,XG,d.nx,h,j];exact Qa _
    grind
   |false=>
    refine(Eu ?_ (f (i+1) a e (by omega) (by omega))).eq ?_
    .unfold F_gy;simp only[d.lt,d.ix,XG,d.nx,h];exact Qa _
    .simp
 exact Ea ((loop l 0 0 rfl (XR _) (XQ _)).ev) ((Qa _).eq (by omega))
structure NumOk (c:Course):Prop where
 kinds:∀m∈c.Mats,1<=m.Kind/\m.Kind<=3
 dist:∀d∈c.Distances,-1<=d.Extra/\d.Extra<=(c.Mats.length:Int)-1/\partsS ((c.Mats.length:Int)-1) d.Route=true
theorem Qj9{c:Course}(h:numbersS c=true):NumOk c:=by
 unfold numbersS at h;simp[XT,Xs]at h;refine⟨λm e=>?_,λd a=>?_⟩
 .grind[inR]
 simp_all[distS,inR]
theorem QmF{c:Course}(q:NumOk c){m:Int}(h0:0<=m)(d:m<=(c.Mats.length:Int)-1):1<=kindAt c m/\kindAt c m<=3:=by
 obtain⟨x,a,f⟩:=Qdh h0 d;have:=by
  obtain⟨_,e⟩:=Qad a;exact VB e
 rw[<- f];exact q.kinds x this
theorem Qot{c:Course}(q:NumOk c){d:Distance}(hd:d∈c.Distances):∀x∈expS [] d.Route,0<=x/\x<=(c.Mats.length:Int)-1:=
 Qky _ _ d.Route [] (XQ _) (q.dist d hd).2.2 (by simp)
theorem QiY(c:Course)(len i:Nat)(prev m:Int)(r:List Int):rokS c len i prev (m::r)=(((kindAt c m==1)==decide (i=0))&&(((kindAt c m==3)==decide (i+1=len))&&((decide (i=0)||hasLeg c prev m)&&rokS c len (i+1) m r))):=rfl
theorem QlH(i:Nat):((i:Int)==0)=decide (i=0):=by
 grind
theorem QgE(c:Course)(r:List Int)(P:2<=r.length)(R:r.length<=256)(G:∀x∈r,0<=x/\x<=(c.Mats.length:Int)-1):
  Ev (λn=>iter (F_ck n c (Yu legKey true c.Legs) r) n ([],0)) (bif rokS c r.length 0 0 r then .cont (cntM r)else .done false):=by
 have loop:∀(t:List Int) (i:Nat) (d:Int),r.drop i=t->i<=r.length->(0<i->At r (i-1) d)->EvI (λn=>F_ck n c (Yu legKey true c.Legs) r) (cntM (r.take i),(i:Int)) (bif rokS c r.length i d t then .cont (cntM r)else .done false):=by
  intro t
  induction t with
  |nil=>
   intro i d q s _;refine Ei ?_;unfold F_ck;simp only[Q9 q s,Vj,rokS,Vi]
   simp_all[VC,Qa]
  |cons m t y=>
   intro i d q s J;obtain⟨e,k⟩:=QC (by omega) q;have E:=e.lt';obtain⟨N,H⟩:=G m e.mem;obtain⟨x,Q,F⟩:=Qdh N H;have O:i64.wrap ((r.length:Int)-1)=((r.length-1:Nat):Int):=by rw[Yb (by omega) (by omega)];omega
   have M:((i:Int)==((r.length-1:Nat):Int))=decide (i+1=r.length):=by grind
   have z:Ev (λn:Nat=>((bif ((x.Kind==1) != ((i:Int)==0))then some true else(bif ((x.Kind==3) != ((i:Int)==(i64.wrap ((r.length:Int)-1))))then some true else(bif decide (0<(i:Int))then(idx r (i64.wrap ((i:Int)-1))).bind λg=>(some (Q2 (Yu legKey true c.Legs) ({from_:=g,to_:=m:Uh}) false)).bind λj=>some (!j)else some false))):Option Bool))
     (!(((kindAt c m==1)==decide (i=0))&&(((kindAt c m==3)==decide (i+1=r.length))&&(decide (i=0)||hasLeg c d m)))):=by
    rw[F,O,M,QlH];refine Et (Er λ_=>Er λ_=>QbG (v:= !hasLeg c d m) (w:=false) (λh=>?_) λ_=>Qa _) ?_
    .have p:0<i:=by simpa using h
     have L:i64.wrap ((i:Int)-1)=((i-1:Nat):Int):=by rw[Yb (by omega) (by omega)];omega
     rw[L,(J p).ix];simp only[XG,Qje];exact Qa _
    grind
   have f:i64.wrap (Q2 (cntM (r.take i)) m 0+1)=Q2 (cntM (r.take i)) m 0+1:=by
    rw[Qgf];have:(r.take i).count m<=i:=by have:=List.count_le_length (a:=m) (l:=r.take i);simp at this;omega
    exact Yb (by omega) (by omega)
   have step:Ev (λn=>F_ck n c (Yu legKey true c.Legs) r (cntM (r.take i),(i:Int))) (bif ((kindAt c m==1)==decide (i=0))&&(((kindAt c m==3)==decide (i+1=r.length))&&(decide (i=0)||hasLeg c d m))then .cont (cntM (r.take (i+1)),((i+1:Nat):Int))else .done (.done false)):=by
    unfold F_ck;simp only[e.lt,Vi,e.ix,XG,e.nx,Q];refine Ea z ?_;rw[f, <- Qm8, <- e.take];cases(((kindAt c m==1)==decide (i=0))&&(((kindAt c m==3)==decide (i+1=r.length))&&(decide (i=0)||hasLeg c d m)))<;>exact Qa _
   have B:rokS c r.length i d (m::t)=((((kindAt c m==1)==decide (i=0))&&(((kindAt c m==3)==decide (i+1=r.length))&&(decide (i=0)||hasLeg c d m)))&&rokS c r.length (i+1) m t):=by rw[QiY];simp only[Bool.and_assoc]
   rw[B];cases u:(((kindAt c m==1)==decide (i=0))&&(((kindAt c m==3)==decide (i+1=r.length))&&(decide (i=0)||hasLeg c d m)))with
   |false=>
    rw[u]at step;exact Ei step
   |true=>
    rw[u]at step;rw[Vu];exact Eu step (y (i+1) m k (by omega) (λ_=>by simpa using e))
 exact(loop r 0 0 rfl (XR _) (by omega)).ev
theorem QkR(c:Course)(w:CourseOk c)(q:NumOk c)(d:Distance)(e:d∈c.Distances)(s:∀x∈d.Route,Part.wf x)(t:szPs d.Route<=256):
  Ev (λn=>F_dr n c d (Yu legKey true c.Legs)) (routeS c d):=by
 have k:=QaJ d.Route;have j:=Qot q e;have a:=Qf0 _ d.Route [] (XQ _);unfold F_dr routeS;refine Ea (Qm0 _ _ d.Route (XQ _) t (by omega) s (q.dist d e).2.2) ?_;generalize expS [] d.Route=r at j a⊢;unfold routeR;have e3:=by
  have:r.length<=1048576:=by simp at a;omega
  exact QaI this
 rw[e3];have p:(decide ((r.length:Int)-1<1)||decide (256<=(r.length:Int)-1))= !(decide (2<=r.length)&&decide (r.length<=256)):=by
  grind
 refine Ea (Et (Er λ_=>Qa _) p) ?_;cases i:(decide (2<=r.length)&&decide (r.length<=256))with
 |false=>exact Qa _
 |true=>
  simp[XT,Vk]at i;refine Yw (Ea (QgE c r i.1 i.2 j) ?_);cases rokS c r.length 0 0 r with
  |false=>exact Qa _
  |true=>
   have l:Ev (λn=>(bif decide (0<=d.Extra)then(some (Q2 (cntM r) d.Extra 0)).bind λh=>(bif (h==0)then some true else(idx c.Mats d.Extra).bind λg=>(bif (g.Kind != 2)then some true else(some (Q2 (Yu legKey true c.Legs) ({from_:=d.Extra,to_:=d.Extra:Uh}) false)).bind λf=>some (!f)))else some false))
     (!(bif decide (0<=d.Extra)then !((r.count d.Extra:Int)==0)&&((kindAt c d.Extra==2)&&hasLeg c d.Extra d.Extra)else true)):=by
    rw[Qgf];cases y:decide (0<=d.Extra)with
    |false=>exact Qa _
    |true=>
     obtain⟨x,m,u⟩:=Qdh (by simpa using y) (q.dist d e).2.1;simp only[XG,m,Qje,u];refine Et (Er λ_=>Er λ_=>Qa _) ?_;rw[bne];cases((r.count d.Extra:Int)==0)<;>cases(kindAt c d.Extra==2)<;>cases hasLeg c d.Extra d.Extra<;>rfl
   refine Ea l ?_;cases(bif decide (0<=d.Extra)then !((r.count d.Extra:Int)==0)&&((kindAt c d.Extra==2)&&hasLeg c d.Extra d.Extra)else true)with
   |false=>exact Qa _
   |true=>
    refine Yw (Ea ?_ (Qa _));refine JA d.Cutoffs _ (λn x=>F_dk n x (cntM r)) (by have:=w.cut d e;omega) λx _=>?_;unfold F_dk;rw[Qgf];exact Qa _
theorem Qf4(c:Course)(w:CourseOk c)(q:NumOk c)(r:List Int)(T:2<=r.length)(X:r.length<=256)(L:∀x∈r,0<=x/\x<=(c.Mats.length:Int)-1):
  Ev (λn=>iter (F_dl n c r) n 0) (bif rokS c r.length 0 0 r then .cont ()else .done false):=by
 have loop:∀(t:List Int) (i:Nat) (a:Int),r.drop i=t->i<=r.length->(0<i->At r (i-1) a)->EvI (λn=>F_dl n c r) (i:Int) (bif rokS c r.length i a t then .cont ()else .done false):=by
  intro t
  induction t with
  |nil=>
   intro i a s u _;refine Ei ?_;unfold F_dl;simp only[Q9 s u,Vj,rokS,Vi];exact Qa _
  |cons m t E=>
   intro i a s u M;obtain⟨f,l⟩:=QC (by omega) s;have H:=f.lt';obtain⟨B,z⟩:=L m f.mem;obtain⟨x,V,J⟩:=Qdh B z;have W:=QmF q B z;have R:i64.wrap ((r.length:Int)-1)=((r.length-1:Nat):Int):=by rw[Yb (by omega) (by omega)];omega
   have P:((i:Int)==((r.length-1:Nat):Int))=decide (i+1=r.length):=by grind
   have step:Ev (λn=>F_dl n c r (i:Int)) (bif ((kindAt c m==1)==decide (i=0))&&(((kindAt c m==3)==decide (i+1=r.length))&&(decide (i=0)||hasLeg c a m))then .cont ((i+1:Nat):Int)else .done (.done false)):=by
    unfold F_dl;simp only[f.lt,Vi,f.ix,XG,f.nx,V,J,R,P,QlH];refine Ea (v:=if i=0 then 1 else if i+1=r.length then 3 else 2) (Ez ?_) ?_
    .by_cases e:i=0
     .simp[e]
     .by_cases h:i+1=r.length
      iterate 2 simp[e,h]
    refine Ea (v:= !(((kindAt c m==1)==decide (i=0))&&(((kindAt c m==3)==decide (i+1=r.length))&&(decide (i=0)||hasLeg c a m)))) ?_ ?_
    .have F:Ev (λn:Nat=>(bif decide (0<(i:Int))then(idx r (i64.wrap ((i:Int)-1))).bind λj=>(F_as n c j m).bind λp=>some (decide (p<0))else some false:Option Bool)) (!(decide (i=0)||hasLeg c a m)):=by
      by_cases e:i=0
      .subst e;exact Qa _
      .have O:i64.wrap ((i:Int)-1)=((i-1:Nat):Int):=by rw[Yb (by omega) (by omega)];omega
       obtain⟨v,Q,N⟩:=QoE c w a m;rw[YH (show(0:Int)<(i:Int)by omega),O,(M (by omega)).ix,Y3 e];exact Ea Q ((Qa _).eq (by rw[N];rfl))
     refine Et (Er λ_=>F) ?_;have k:(kindAt c m != if i=0 then 1 else if i+1=r.length then 3 else 2)= !(((kindAt c m==1)==decide (i=0))&&((kindAt c m==3)==decide (i+1=r.length))):=by
      have d:kindAt c m=1\/kindAt c m=2\/kindAt c m=3:=by omega
      by_cases e:i=0
      .rcases d with g|g|g<;>simp[g,e,show¬1=r.length by omega]
      .by_cases h:i+1=r.length
       .rcases d with g|g|g<;>simp[g,e,h]
       .rcases d with g|g|g<;>simp[g,e,h]
     rw[k];cases((kindAt c m==1)==decide (i=0))<;>cases((kindAt c m==3)==decide (i+1=r.length))<;>cases(decide (i=0)||hasLeg c a m)<;>rfl
    grind[Qa]
   have G:rokS c r.length i a (m::t)=((((kindAt c m==1)==decide (i=0))&&(((kindAt c m==3)==decide (i+1=r.length))&&(decide (i=0)||hasLeg c a m)))&&rokS c r.length (i+1) m t):=by rw[QiY];simp only[Bool.and_assoc]
   rw[G];cases y:(((kindAt c m==1)==decide (i=0))&&(((kindAt c m==3)==decide (i+1=r.length))&&(decide (i=0)||hasLeg c a m)))with
   |false=>
    rw[y]at step;exact Ei step
   |true=>
    rw[y]at step;rw[Vu];exact Eu step (E (i+1) m l (by omega) (λ_=>by simpa using f))
 exact(loop r 0 0 rfl (XR _) (by omega)).ev
theorem QjE(c:Course)(w:CourseOk c)(q:NumOk c)(d:Distance)(a:d∈c.Distances)(F:∀x∈d.Route,Part.wf x)(t:szPs d.Route<=256):
  Ev (λn=>F_cz n c d) (routeS c d):=by
 have m:=QaJ d.Route;have p:=Qot q a;have k:=Qf0 _ d.Route [] (XQ _);unfold F_cz routeS;refine Ea (Qic _ _ d.Route (XQ _) t (by omega) F (q.dist d a).2.2) ?_;generalize expS [] d.Route=r at p k⊢;unfold routeR;have B:(decide ((r.length:Int)<2)||decide (256<(r.length:Int)))= !(decide (2<=r.length)&&decide (r.length<=256)):=by
  grind
 refine Ea (Et (Er λ_=>Qa _) B) ?_;cases h:(decide (2<=r.length)&&decide (r.length<=256))with
 |false=>exact Qa _
 |true=>
  simp only[XT,Vk]at h;refine Yw (Ea (Qf4 c w q r h.1 h.2 p) ?_);cases rokS c r.length 0 0 r with
  |false=>exact Qa _
  |true=>
   have s:Ev (λn:Nat=>(bif (d.Extra != (-1))then(idx c.Mats d.Extra).bind λl=>(bif (l.Kind != 2)then some true else(F_bk n r d.Extra).bind λg=>(bif (g==0)then some true else(F_as n c d.Extra d.Extra).bind λe=>some (decide (e<0))))else some false))
     (!(bif decide (0<=d.Extra)then !((r.count d.Extra:Int)==0)&&((kindAt c d.Extra==2)&&hasLeg c d.Extra d.Extra)else true)):=by
    have f:=q.dist d a;have y:(d.Extra != (-1))=decide (0<=d.Extra):=by rw[XU];simp;omega
    rw[y];cases H:decide (0<=d.Extra)with
    |false=>exact Qa _
    |true=>
     obtain⟨x,E,u⟩:=Qdh (by simpa using H) f.2.1;obtain⟨v,G,z⟩:=QoE c w d.Extra d.Extra;simp only[XG,E,u];refine Et (Er λ_=>Ea (QjH r _ (by omega)) (Er λ_=>Ea G (Qa _))) ?_;rw[bne,z];cases((r.count d.Extra:Int)==0)<;>cases(kindAt c d.Extra==2)<;>cases hasLeg c d.Extra d.Extra<;>rfl
   refine Ea s ?_;cases(bif decide (0<=d.Extra)then !((r.count d.Extra:Int)==0)&&((kindAt c d.Extra==2)&&hasLeg c d.Extra d.Extra)else true)with
   |false=>exact Qa _
   |true=>
    refine Yw (Ea (Y1 d.Cutoffs (λx=>decide (x.Lap<=r.count x.Mat)) (Ctl.done false) (Ctl.cont ()) (by have:=w.cut d a;omega) (λi x j=>?_) ?_) ?_)
    .unfold F_kl;simp only[j.lt,j.ix,XG,j.nx];refine Ea (QjH r _ (by omega)) ?_;have:decide (r.count x.Mat<x.Lap)= !decide (x.Lap<=r.count x.Mat):=by rw[XU];simp
     rw[this];cases decide (x.Lap<=r.count x.Mat)<;>exact Qa _
    .unfold F_kl;simp only[Qgc];exact Qa _
    .cases(d.Cutoffs.all λx=>decide (x.Lap<=r.count x.Mat))<;>exact Qa _
theorem Qeb{a b:Nat}(h:a+b<=4611686018427387904):i64.wrap ((a:Int)+(b:Int))=((a+b:Nat):Int):=by
 rw[Yb (by omega) (by omega)];omega
def lensC(c:Course):Nat:=c.Mats.length+c.Legs.length+c.Distances.length+c.Waves.length+c.Offences.length+c.Categories.length+c.Prizes.length
def fewD(d:Distance):Prop:=d.Cutoffs.length<=200/\szPs d.Route<=200/\hPs d.Route<=16
structure FewOk (c:Course):Prop where
 lens:lensC c<=200
 name:c.Name.length<=100
 dist:∀d∈c.Distances,fewD d
 ties:c.Ties.length<=200
theorem Qii(c:Course)(w:CourseOk c)(q:PartsOk c)(hl:c.Ties.length<=1048576)(V:∀x∈c.Ties,Step.wf x):∃b,Ev (λn=>F_bl n c) b/\(b=true->FewOk c):=by
 have hm:=w.mats;have hg:=w.legs;have hd:=w.dist;have G:=w.wave;have ho:=w.off;have hc:=w.cat;have hp:=w.prize;have loop:∀(t:List Distance) (i s:Nat),c.Distances.drop i=t->i<=c.Distances.length->∃f:Ctl Int Bool,EvI (λn=>F_cd n c) ((s:Int),(i:Int)) f/\(f=.done false\/ ∃v:Nat,f=.cont (v:Int)/\(v<=200->s<=v/\ ∀d∈t,fewD d)):=by
  intro t
  induction t with
  |nil=>
   intro i s E F;refine⟨.cont (s:Int),Ei ?_,Or.inr ⟨s,rfl,λ_=>⟨XQ _,by simp⟩⟩⟩;unfold F_cd;simp only[Q9 E F,Vj,XG];exact Qa _
  |cons d t L=>
   intro i s E F;obtain⟨j,z⟩:=QC (by omega) E;have N:=j.lt';by_cases M:s<=200
   .have g:=q.len d j.mem;have l:=q.wf d j.mem;have H:=w.cut d j.mem;have y:=Qet _ d.Route (XQ _) g l;have J:=Qes _ d.Route 17 (XQ _) (XQ _) g l;have Y:i64.wrap ((s:Int)+(d.Cutoffs.length:Int))=((s+d.Cutoffs.length:Nat):Int):=Qeb (by omega);have O:i64.wrap (((s+d.Cutoffs.length:Nat):Int)+((min (szPs d.Route) 257:Nat):Int))=((s+d.Cutoffs.length+min (szPs d.Route) 257:Nat):Int):=Qeb (by omega);have step:Ev (λn=>F_cd n c ((s:Int),(i:Int))) (bif decide ((16:Int)<((min (hPs d.Route) 17:Nat):Int))then .done (.done false)else .cont (((s+d.Cutoffs.length+min (szPs d.Route) 257:Nat):Int),((i+1:Nat):Int))):=by
     unfold F_cd;simp only[j.lt,Vi,j.ix,XG,j.nx,YH (show(s:Int)<=200 by omega)];refine Ea y (Ea J ?_);rw[Y,O];cases decide ((16:Int)<((min (hPs d.Route) 17:Nat):Int))<;>exact Qa _
    by_cases hh:hPs d.Route<=16
    .rw[Y3 (show¬(16:Int)<((min (hPs d.Route) 17:Nat):Int)by omega)]at step;obtain⟨f,p,k⟩:=L (i+1) (s+d.Cutoffs.length+min (szPs d.Route) 257) z (by omega);refine⟨f,Eu step p,?_⟩;rcases k with k|⟨v,k,B⟩
     .exact Or.inl k
     .refine Or.inr ⟨v,k,λG=>?_⟩;obtain⟨X,u⟩:=B G;refine⟨by omega,λx r=>?_⟩;rcases X0.1 r with rfl|r
      .exact⟨by omega,by omega,hh⟩
      .exact u x r
    .rw[YH (show(16:Int)<((min (hPs d.Route) 17:Nat):Int)by omega)]at step;exact⟨.done false,Ei step,Or.inl rfl⟩
   .refine⟨.cont (s:Int),Ei ?_,Or.inr ⟨s,rfl,λh=>absurd h M⟩⟩;unfold F_cd;simp only[j.lt,Vi,Y3 (show¬(s:Int)<=200 by omega),XG,Vj];exact Qa _
 obtain⟨f,p,k⟩:=loop c.Distances 0 (lensC c) rfl (XR _);have e:i64.wrap ((i64.wrap ((i64.wrap ((i64.wrap ((i64.wrap ((i64.wrap ((c.Mats.length:Int)+(c.Legs.length:Int)))+(c.Distances.length:Int)))+(c.Waves.length:Int)))+(c.Offences.length:Int)))+(c.Categories.length:Int)))+(c.Prizes.length:Int))=(lensC c:Int):=by
  have R:c.Mats.length+c.Legs.length<=4611686018427387904:=by omega
  have h2:c.Mats.length+c.Legs.length+c.Distances.length<=4611686018427387904:=by omega
  have T:c.Mats.length+c.Legs.length+c.Distances.length+c.Waves.length<=4611686018427387904:=by omega
  have Q:c.Mats.length+c.Legs.length+c.Distances.length+c.Waves.length+c.Offences.length<=4611686018427387904:=by omega
  have P:c.Mats.length+c.Legs.length+c.Distances.length+c.Waves.length+c.Offences.length+c.Categories.length<=4611686018427387904:=by omega
  have W:c.Mats.length+c.Legs.length+c.Distances.length+c.Waves.length+c.Offences.length+c.Categories.length+c.Prizes.length<=4611686018427387904:=by omega
  rw[Qeb R,Qeb h2,Qeb T,Qeb Q,Qeb P,Qeb W];rfl
 unfold F_bl;rw[e];rcases k with rfl|⟨v,rfl,B⟩
 .exact⟨false,Ea p.ev (Qa _),λh=>by cases h⟩
 .obtain⟨a,b,y,J,p3,_,_,_,_⟩:=Ql0 _ c.Ties 0 (XQ _) (by omega) hl V;have m:Ev (λn=>F_db n c.Ties) (decide ((c.Ties.length:Int)<=20)&&(decide (a<=80)&&decide (b<=300))):=by
   unfold F_db;exact Ea y (Ea (Eh λ_=>Eh λ_=>Qa _) (Qa _))
  refine⟨decide ((v:Int)<=200)&&(decide ((c.Name.length:Int)<=100)&&(decide ((c.Ties.length:Int)<=20)&&(decide (a<=80)&&decide (b<=300)))),Ea p.ev (Ea (Eh λ_=>Eh λ_=>Ea m (Qa _)) (Qa _)),λh=>?_⟩;simp only[XT,Vk]at h;obtain⟨X,u⟩:=B (by omega);exact⟨by omega,by omega,u,by omega⟩
def fitsS(c:Course):Bool:=
 !(decide (40<(c.Mats.length:Int))||(decide (512<(c.Legs.length:Int))||(decide (8<(c.Distances.length:Int))||(decide (32<(c.Waves.length:Int))||(decide (32<(c.Offences.length:Int))||(decide (32<(c.Categories.length:Int))||decide (32<(c.Prizes.length:Int))))))))
  &&c.Distances.all λd=> !decide (64<(d.Cutoffs.length:Int))
theorem QpS(c:Course)(w:CourseOk c)(q:PartsOk c)(k:FewOk c):Ev (λn=>F_cs n c) (fitsS c):=by
 unfold F_cs fitsS;refine Ea (Er λ_=>Er λ_=>Er λ_=>Er λ_=>Er λ_=>Er λ_=>Qa _) ?_;cases(decide (40<(c.Mats.length:Int))||(decide (512<(c.Legs.length:Int))||(decide (8<(c.Distances.length:Int))||(decide (32<(c.Waves.length:Int))||(decide (32<(c.Offences.length:Int))||(decide (32<(c.Categories.length:Int))||decide (32<(c.Prizes.length:Int))))))))with
 |true=>exact Qa _
 |false=>
  refine Yw (Ea (Y1 c.Distances (λd=> !decide (64<(d.Cutoffs.length:Int))) (Ctl.done false) (Ctl.cont ()) (by have:=w.dist;omega) (λi x a=>?_) ?_) ?_)
  .obtain⟨e,g,f⟩:=k.dist x a.mem;unfold F_lk;simp only[a.lt,a.ix,XG,a.nx];refine Ea (QoB _ x.Route 17 (XQ _) (by omega) (XQ _) (by omega) (q.wf x a.mem)) ?_
   grind[Qa]
  .simp_all[F_lk,Qa]
  .cases(c.Distances.all λd=> !decide (64<(d.Cutoffs.length:Int)))<;>exact Qa _
theorem Qm1(c:Course)(w:CourseOk c)(q:PartsOk c)(k:FewOk c):Ev (λn=>F_dh n c) (fitsS c):=by
 unfold F_dh fitsS;refine Ea (Er λ_=>Er λ_=>Er λ_=>Er λ_=>Er λ_=>Er λ_=>Qa _) ?_;cases(decide (40<(c.Mats.length:Int))||(decide (512<(c.Legs.length:Int))||(decide (8<(c.Distances.length:Int))||(decide (32<(c.Waves.length:Int))||(decide (32<(c.Offences.length:Int))||(decide (32<(c.Categories.length:Int))||decide (32<(c.Prizes.length:Int))))))))with
 |true=>exact Qa _
 |false=>
  refine Yw (Ea (Y1 c.Distances (λd=> !decide (64<(d.Cutoffs.length:Int))) (Ctl.done false) (Ctl.cont ()) (by have:=w.dist;omega) (λi x e=>?_) ?_) ?_)
  .obtain⟨h,j,g⟩:=k.dist x e.mem;have a:=q.len x e.mem;have f:=q.wf x e.mem;unfold F_kt;simp only[e.lt,e.ix,XG,e.nx];refine Ea (Er λ_=>Ea (Qes _ x.Route 17 (XQ _) (XQ _) a f) (Er λ_=>Ea (Qet _ x.Route (XQ _) a f) (Qa _))) ?_
   grind[Qa]
  .simp_all[F_kt,Qa]
  .cases(c.Distances.all λd=> !decide (64<(d.Cutoffs.length:Int)))<;>exact Qa _
def courseE(c:Course):Int:=
 bif fitsS c then bif namesS c then bif numbersS c then bif tiesE c.Ties==0 then bif c.Distances.all (routeS c)then 0 else 72 else tiesE c.Ties else 71 else 70 else 2
theorem Qm2(c:Course)(w:CourseOk c)(q:PartsOk c)(k:FewOk c)(hl:c.Ties.length<=1048576)(e:∀x∈c.Ties,Step.wf x):Ev (λn=>F_ag n c) (courseE c):=by
 unfold F_ag courseE;refine Ea (QpS c w q k) ?_;cases fitsS c with
 |false=>exact Qa _
 |true=>
 refine Yw (Ea (Qow c w) ?_);cases namesS c with
 |false=>exact Qa _
 |true=>
 refine Yw (Ea (QkQ c w q) ?_);cases f:numbersS c with
 |false=>exact Qa _
 |true=>
 refine Yw (Ea (QpT c.Ties hl e) ?_);rw[bne];cases(tiesE c.Ties==0)with
 |false=>exact Qa _
 |true=>
 have g:Ev (λn=>iter (F_ja n c) n ([],0)) (Yu legKey true c.Legs):=by
  refine QbF c.Legs legKey true (by have:=w.legs;omega) (λi x m a=>?_) (λm=>?_)
  .unfold F_ja;simp only[a.lt,a.ix,a.nx];exact Qa _
  simp_all[F_ja,Qa]
 refine Yw (Ea g ?_);have a:Ev (λn=>F_gp n c.Distances c (Yu legKey true c.Legs)) (c.Distances.all (routeS c)):=by
  refine JA c.Distances _ (λn x=>F_go n x c (Yu legKey true c.Legs)) (by have:=w.dist;omega) λx d=>?_;exact Ea (QkR c w (Qj9 f) x d (q.wf x d) (by have:=(k.dist x d).2.1;omega)) (Qa _)
 refine Ea a ?_
 grind[Qa]
theorem Qif(c:Course)(w:CourseOk c)(q:PartsOk c)(k:FewOk c)(hl:c.Ties.length<=1048576)(g:∀x∈c.Ties,Step.wf x):Ev (λn=>F_bd n c) (courseE c):=by
 have a:=k.lens;unfold lensC at a;have e:Short c:=⟨by omega,by omega,by omega,by omega,by omega⟩;unfold F_bd courseE;refine Ea (Qm1 c w q k) ?_;cases fitsS c with
 |false=>exact Qa _
 |true=>
 refine Yw (Ea (QjG c w e) ?_);cases namesS c with
 |false=>exact Qa _
 |true=>
 refine Yw (Ea (Qia c w q) ?_);cases f:numbersS c with
 |false=>exact Qa _
 |true=>
 refine Yw (Ea (QkK c.Ties hl g) ?_);rw[bne];cases(tiesE c.Ties==0)with
 |false=>exact Qa _
 |true=>
 refine Yw (Ea (Y1 c.Distances (routeS c) (Ctl.done 72) (Ctl.cont ()) (by omega) (λi x d=>?_) ?_) ?_)
 .unfold F_lh;simp only[d.lt,d.ix,XG,d.nx];refine Ea (QjE c w (Qj9 f) x d.mem (q.wf x d.mem) (by have:=(k.dist x d.mem).2.1;omega)) ?_;cases routeS c x<;>exact Qa _
 .simp_all[F_lh,Qa]
 grind[Qa]
theorem QdK{α:Type}{lt:α->α->Prop}(d:∀a b,lt a b->¬lt b a):∀{l m:List α},l.Pairwise lt->m.Pairwise lt->(∀x,x∈l↔x∈m)->l=m:=by
 intro l
 induction l with
 |nil=>
  intro m _ _ h;cases m with
  |nil=>rfl
  |cons y m=>exact absurd ((h y).2 (by simp)) (by simp)
 |cons x l j=>
  intro m f e h;cases m with
  |nil=>grind
  |cons y m=>
   obtain⟨n,i⟩:=Xc.1 f;obtain⟨g,k⟩:=Xc.1 e
   grind
theorem Qb7:∀(l:List Int) (p:Int),(∀x∈l,p<=x)->l.Pairwise (· <= ·)->(QaO p l).Pairwise (· < ·)/\(∀x∈QaO p l,p<x)/\ ∀x,x∈p::QaO p l↔x∈p::l
 |[],p,_,_=>⟨List.Pairwise.nil,by simp[QaO],by simp[QaO]⟩
 |y::l,p,h,hp=>by
  obtain⟨h1,h2⟩:=Xc.1 hp;unfold QaO;by_cases e:y=p
  .subst e;obtain⟨k1,k2,k3⟩:=Qb7 l y h1 h2;rw[beq_self_eq_true,Vi];refine⟨k1,k2,λx=>?_⟩;rw[k3 x];simp
  .have e':(y==p)=false:=by simpa using e
   rw[e',Vj];obtain⟨k1,k2,k3⟩:=Qb7 l y h1 h2;have d:=h y (by simp);refine⟨Xc.2 ⟨k2,k1⟩,λx a=>?_,λx=>?_⟩
   .rcases X0.1 a with rfl|a
    .omega
    .have:=k2 x a;omega
   .rw[X0,k3 x];simp
theorem QkY(l:List Int):(QjQ (YX ltI l)).Pairwise (· < ·)/\ ∀x,x∈QjQ (YX ltI l)↔x∈l:=by
 have e:(YX ltI l).Pairwise (· <= ·):=(QX (Qdj l)).imp λ{a b} h=>by simp[ltI]at h;exact h
 have d:∀x,x∈YX ltI l↔x∈l:=λx=>(Qz ltI l).mem_iff;generalize YX ltI l=m at e d;cases m with
 |nil=>exact⟨List.Pairwise.nil,λx=>by rw[<- d x];rfl⟩
 |cons y m=>
  obtain⟨i,k⟩:=Xc.1 e;obtain⟨j,g,f⟩:=Qb7 m y i k;exact⟨Xc.2 ⟨g,j⟩,λx=>(f x).trans (d x)⟩
theorem Qly{α:Type}(l:List α){a b:Nat}(h:a<=b)(d:b<=l.length):slc l (a:Int) (b:Int)=some ((l.take b).drop a):=by
 grind[slc]
theorem Qkn{α:Type}(l:List α){b:Nat}(a:b<=l.length):slc l 0 (b:Int)=some (l.take b):=by
 have:=Qly l (XR b) a
 grind
theorem Qfd{α:Type}(l:List α){a:Nat}(d:a<=l.length):slc l (a:Int) (l.length:Int)=some (l.drop a):=by
 simp_all[Qly]
theorem Qdu{α:Type}(l m:List α)(h:l.length+m.length<=4294967296):app l m=some (l++m):=by
 unfold app;rw[XP (by exact h)];rfl
theorem QnP{α:Type}(l:List α){i:Nat}(x:α)(h:i<l.length):QcM l (i:Int) x=some (l.set i x):=by
 grind[QcM]
def firstI{α:Type}(q:α->Bool):List α->Nat->Int
 |[],_=> -1
 |x::l,i=>bif q x then(i:Int)else firstI q l (i+1)
theorem Ev.first{α:Type}{step:Nat->Int->Option (Ctl Int (Ctl Unit Int))}(l:List α)(q:α->Bool)(hl:l.length<=4611686018427387904)
  (k:∀i x,At l i x->Ev (λn=>step n (i:Int)) (bif q x then .done (.done (i:Int))else .cont ((i+1:Nat):Int)))(f:Ev (λn=>step n (l.length:Int)) (.done (.cont ()))):
  Ev (λn=>(Go.Sw.iter (step n) n 0).bind λb=>match b with|.cont _=>some (-1)|.done v=>some v) (firstI q l 0):=by
 have loop:∀(r:List α) (i:Nat),l.drop i=r->i<=l.length->∃a:Ctl Unit Int,EvI step i a/\(match a with|.cont _=>some (-1)|.done v=>some v)=some (firstI q r i):=by
  intro r
  induction r with
  |nil=>
   intro i d g;have:i=l.length:=by have:=Xq.1 d;omega
   subst this;exact⟨.cont (),Ei f,rfl⟩
  |cons x r t=>
   intro i d g;obtain⟨e,m⟩:=QC hl d;have s:=k i x e;unfold firstI;cases h:q x with
   |true=>
    rw[h]at s;exact⟨_,Ei s,rfl⟩
   |false=>
    grind[EvI.cont]
 obtain⟨a,p,j⟩:=loop l 0 rfl (XR _);exact Ea p.ev (Ez j)
theorem Qep{α:Type}(q:α->Bool):∀(l:List α) (i:Nat),(firstI q l i= -1/\l.all (λx=> !q x)=true)\/ ∃j x,firstI q l i=((i+j:Nat):Int)/\l[j]?=some x/\q x=true/\(l.take j).all (λx=> !q x)=true
 |[],_=>.inl ⟨rfl,rfl⟩
 |x::l,i=>by
  unfold firstI;cases h:q x with
  |true=>exact .inr ⟨0,x,rfl,rfl,h,rfl⟩
  |false=>
   rcases Qep q l (i+1)with⟨h1,h2⟩|⟨j,y,h1,h2,h3,h4⟩
   .grind
   .refine .inr ⟨j+1,y,by grind,h2,h3,by simp[h,h4]⟩
theorem QaQ{ι α:Type}{F:Nat->ι->Option α}{V:ι->α}:∀(L:List ι),(∀p∈L,Ev (λn=>F n p) (V p))->∃N,∀n,N<=n->∀p∈L,F n p=some (V p)
 |[],_=>(by simp)
 |x::L,h=>by
  obtain⟨N,hN⟩:=QaQ L λp hp=>h p (by simp[hp]);obtain⟨M,hM⟩:=h x (by simp);refine⟨N+M,λn hn p hp=>?_⟩
  grind
theorem Ev.anyP{E R:Type}[DecidableEq R]{k:Nat->List E->Option R}{l:List E}{r:R}(h:∀p,p.Perm l->Ev (λn=>k n p) r):Ev (λn=>Go.Sw.anyP (k n) l) r:=by
 obtain⟨N,d⟩:=QaQ (QbY l) λp a=>h p (QcP l p a);exact⟨N,λn e=>Qmd λp a=>d n e p (QdP l p a)⟩
theorem Ev.isNil{α R:Type}[DecidableEq R]{l:List α}{x y:Nat->Option R}{v:R}(d:l=[]->Ev x v)(a:Ev y v):Ev (λn=>Go.Sw.isNil l (x n) (y n)) v:=by
 unfold Go.Sw.isNil;cases q:l.isEmpty with
 |false=>exact a
 |true=>
  obtain⟨N,f⟩:=d (List.isEmpty_iff.1 q);obtain⟨M,e⟩:=a;exact⟨N+M,λn g=>by grind⟩
set_option maxRecDepth 4000
def openU(f:Fact):U_facts_open_rxk:=
 bif f.Kind==1 then .c0 ()else bif f.Kind==2 then .c1 ()else bif f.Kind==3 then .c2 ()else bif f.Kind==4 then .c3 ()else bif f.Kind==5 then .c4 ()else bif f.Kind==6 then .c5 ()
 else bif f.Kind==7 then .c6 ()else bif f.Kind==8 then .c7 ()else bif f.Kind==9 then .c8 ()else bif f.Kind==10 then
  (bif (f.Ruling.Kind==1)||(f.Ruling.Kind==2)then .c9 (0,0,0,0,0,0)else bif f.Ruling.Kind==3 then .c9 (1,9999,0,255,1,1099511627776)else bif f.Ruling.Kind==4 then .c9 (1,9999,0,255,1,64)else .c9 (1,9999,0,255,0,0))
 else bif f.Kind==11 then .c10 ()else bif f.Kind==12 then .c11 ()else bif f.Kind==13 then .c12 ()else .c13 ()
theorem QlE(n:Nat)(f:Fact)(b:Int):F_bj n f b=some (openU f):=by
 unfold F_bj openU;cases(f.Kind==1)with
 |true=>rfl
 |false=>
 cases(f.Kind==2)with
 |true=>rfl
 |false=>
 cases(f.Kind==3)with
 |true=>rfl
 |false=>
 cases(f.Kind==4)with
 |true=>rfl
 |false=>
 grind
def headL:List Ent:=[⟨false,3,1,13⟩,⟨false,0,0,31⟩,⟨false,1,1,1048576⟩,⟨false,2,0,1099511627776⟩]
def bodyL:U_facts_open_rxk->List Ent
 |.c0 _=>[⟨false,4,1,9999⟩,⟨false,5,0,7⟩,⟨false,6,0,31⟩,⟨false,7,(-1099511627776),1099511627776⟩,⟨false,8,0,120⟩,⟨false,9,0,1048576⟩,⟨false,10,0,9999⟩,⟨false,11,0,1048576⟩]
 |.c1 _=>[⟨false,12,0,39⟩,⟨false,13,0,255⟩,⟨false,14,0,1048576⟩,⟨false,15,(-1099511627776),1099511627776⟩]
 |.c2 _=>[⟨false,16,0,39⟩,⟨false,17,0,255⟩,⟨false,18,(-1099511627776),1099511627776⟩,⟨false,19,(-1099511627776),1099511627776⟩,⟨false,20,0,1099511627776⟩]
 |.c3 _=>[⟨false,21,0,39⟩,⟨false,22,0,255⟩,⟨false,23,(-1099511627776),1099511627776⟩,⟨false,24,0,39⟩,⟨false,25,0,255⟩,⟨false,26,(-1099511627776),1099511627776⟩,⟨false,27,(-1099511627776),1099511627776⟩,⟨false,28,(-1099511627776),1099511627776⟩]
 |.c4 _=>[⟨false,29,1,9999⟩,⟨false,30,0,255⟩,⟨false,31,(-1099511627776),1099511627776⟩,⟨false,32,(-1099511627776),1099511627776⟩]
 |.c5 _=>[⟨false,33,0,39⟩,⟨false,34,0,255⟩,⟨false,35,(-1099511627776),1099511627776⟩,⟨false,36,(-1099511627776),1099511627776⟩]
 |.c6 _=>[⟨false,37,1,9999⟩,⟨false,38,1,9999⟩]
 |.c7 _=>[⟨false,39,1,1048576⟩,⟨false,40,1,9999⟩,⟨false,41,0,31⟩,⟨false,42,0,255⟩]
 |.c8 _=>[⟨false,43,1,1048576⟩,⟨false,44,0,9999⟩,⟨false,45,0,1125899906842624⟩,⟨false,46,0,1⟩]
 |.c9 x=>[⟨false,47,1,1048576⟩,⟨false,48,1,2⟩,⟨false,49,1,5⟩,⟨false,50,x.1,x.2.1⟩,⟨false,51,x.2.2.1,x.2.2.2.1⟩,⟨false,52,x.2.2.2.2.1,x.2.2.2.2.2⟩]
 |.c10 _=>[⟨false,53,1,1048576⟩,⟨true,0,0,1⟩]
 |.c11 _=>[]
 |.c12 _=>[⟨false,55,0,31⟩,⟨false,56,1,1048576⟩]
 |.c13 _=>[]
def fineU(f:Fact):U_facts_open_rxk->Bool
 |.c3 _=>decide (f.Sync.Min<=f.Sync.Max)
 |.c4 _=>decide (f.Hand.Lo<=f.Hand.Hi)
 |.c5 _=>decide (f.Silence.Lo<=f.Silence.Hi)
 |.c6 _=>decide (f.Pair.A<f.Pair.B)
 |.c13 _=>false
 |_=>true
def entsS(f:Fact):List Ent:=headL++bodyL (openU f)
def goodE(e:Ent):Bool:=bif e.fl then e.off==0 else decide (e.off<57)&& !(e.off==54)
theorem Qm4(f:Fact):∀e∈entsS f,goodE e=true:=by
 have h:∀u,(headL++bodyL u).all goodE=true:=by intro u;cases u<;>rfl
 exact Xs.1 (h (openU f))
theorem Qgb(f:Fact):(entsS f).length<=12:=by
 have h:∀u,(headL++bodyL u).length<=12:=by intro u;cases u<;>exact XO rfl
 exact h (openU f)
def isI:Option A->Bool
 |some (.int .i64 _)=>true
 |_=>false
theorem QqN{x:Option A}(h:isI x=true):∃v,x=some (.int .i64 v):=by
 unfold isI at h
 grind
theorem Qof{f:Fact}{b:Int}{e:Ent}(h:goodE e=true):∃v,QgB (Fact.c f) b e=some v:=by
 unfold goodE at h;unfold QgB;cases a:e.fl with
 |true=>
  simp_all
 |false=>
  rw[a]at h;simp only[Vj,XT,Vk,Bool.not_eq_true']at h⊢;have all:(List.range 57).all (λo=>(o==54)||isI (Fact.c f)[o]?)=true:=by rfl
  have:=Xs.1 all e.off (List.mem_range.2 h.1);rw[h.2,Bool.false_or]at this;obtain⟨v,d⟩:=QqN this
  simp_all
theorem QnR{x:Fact}{s v:Int}{e:Ent}(h:goodE e=true):∃q,Qkw Fact.put x s e v=some q:=by
 unfold goodE at h;unfold Qkw;cases a:e.fl with
 |true=>
  simp_all
 |false=>
  rw[a]at h;simp only[Vj,XT,Vk,Bool.not_eq_true']at h⊢;have all:(List.range 57).all (λo=>(o==54)||(Fact.put x o v).isSome)=true:=by rfl
  have:=Xs.1 all e.off (List.mem_range.2 h.1);rw[h.2,Bool.false_or]at this;obtain⟨y,d⟩:=Option.isSome_iff_exists.1 this
  simp_all
def getV(f:Fact)(b:Int)(e:Ent):Int:=(QgB (Fact.c f) b e).getD 0
def putV(x:Fact)(s:Int)(e:Ent)(v:Int):Fact×Int:=(Qkw Fact.put x s e v).getD (x,s)
theorem Qog{f:Fact}{b:Int}{e:Ent}(h:goodE e=true):QgB (Fact.c f) b e=some (getV f b e):=by
 obtain⟨v,a⟩:=Qof h;unfold getV;rw[a];rfl
theorem QqA{x:Fact}{s v:Int}{e:Ent}(h:goodE e=true):Qkw Fact.put x s e v=some (putV x s e v):=by
 obtain⟨q,a⟩:=QnR h;unfold putV;rw[a];rfl
def inE(f:Fact)(b:Int)(e:Ent):Bool:= !(decide (getV f b e<e.lo))&& !(decide (e.hi<getV f b e))
def numR(f:Fact)(b:Int):List Ent->List Int×Fact×Int->Ctl (List Int×Fact×Int) (List Int×Bool)
 |[],a=>.cont a
 |e::r,a=>bif inE f b e then numR f b r (a.1++[getV f b e],putV a.2.1 a.2.2 e (getV f b e))else .done ([],false)
theorem Qdw{α:Type}(l m:List α)(h:l.length+m.length<=1000):app l m=some (l++m):=by
 unfold app;have:Nat.ble (l.length+m.length) QB=true:=XP (XS h (by decide))
 grind
theorem QpB(f:Fact)(b:Int)(E:List Ent)(hE:∀e∈E,goodE e=true)(hl:E.length<=12):∀(r:List Ent) (i:Nat) (a:List Int×Fact×Int),E.drop i=r->i<=E.length->a.1.length=i->
  EvI (λn=>F_fy n f b E E) (a.1,a.2.1,a.2.2,(i:Int)) (numR f b r a):=by
 intro r
 induction r with
 |nil=>
  intro i a l p g;refine Ei ?_;unfold F_fy;simp only[Q9 l p];exact Qa _
 |cons e r q=>
  intro i a l p j;obtain⟨g,m⟩:=QC (by omega) l;have k:=hE e g.mem;have t:=g.lt';unfold numR;cases d:inE f b e with
  |true=>
   have h:=d;unfold inE at h;simp only[XT,Bool.not_eq_true']at h;refine Eu ?_ (q (i+1) (a.1++[getV f b e],putV a.2.1 a.2.2 e (getV f b e)) m (by omega) (by simp[j]));unfold F_fy;simp only[g.lt,g.ix,XG,g.nx,Qog k,h.1,h.2,QqA k];rw[Qdw a.1 [getV f b e] (by simp;omega)];exact Qa _
  |false=>
   refine Ei ?_;unfold F_fy;simp only[g.lt,g.ix,XG,Qog k];unfold inE at d;cases s:decide (getV f b e<e.lo)with
   |true=>exact Qa _
   |false=>
    rw[s]at d;simp[Xi,Vu,Bool.not_eq_false']at d;simp[d];exact Qa _
def suspB(f:Fact):Int:=bif f.Appeal.Suspends then 1 else 0
def restS(f:Fact):Fact:={Up with Ruling:={Ux with Kind:=f.Ruling.Kind:Ruling},Kind:=f.Kind:Fact}
def lastF(f x:Fact)(s:Int):Fact:=
 let y:Fact:=bif f.Kind != 10 then {x with Ruling:={x.Ruling with Kind:=0:Ruling}:Fact}else x
 {y with Appeal:={Case:=y.Appeal.Case,Suspends:=s==1:Appeal}:Fact}
def numF(f:Fact):List Int×Bool:=bif fineU f (openU f)then(match numR f (suspB f) (entsS f) ([],restS f,0)with
  |.cont a=>(a.1,lastF f a.2.1 a.2.2==f)
  |.done r=>r)else([],false)
theorem Qm7(n:Nat)(f:Fact):F_ea n ({Up with Ruling:={Ux with Kind:=f.Ruling.Kind:Ruling}:Fact}) 0 f=some (entsS f):=by
 have a:openU ({({Up with Ruling:={Ux with Kind:=f.Ruling.Kind:Ruling}:Fact})with Kind:=f.Kind:Fact})=openU f:=rfl;unfold F_ea entsS;rw[QlE];rw[a];unfold F_bg;generalize openU f=u;cases u<;>(rfl)
theorem Ql2(f:Fact):Ev (λn=>F_bv n f) (numF f):=by
 refine Ea (v:=suspB f) ?_ ?_
 .grind[suspB,Qa]
 refine Ea (v:=bif fineU f (openU f)then .cont (bodyL (openU f))else .done ([],false)) ?_ ?_
 .simp[QlE];generalize openU f=u;cases u with
  |c3=>unfold fineU;cases decide (f.Sync.Min<=f.Sync.Max)<;>exact Qa _
  |c4=>unfold fineU;cases decide (f.Hand.Lo<=f.Hand.Hi)<;>exact Qa _
  |c5=>unfold fineU;cases decide (f.Silence.Lo<=f.Silence.Hi)<;>exact Qa _
  |c6=>unfold fineU;cases decide (f.Pair.A<f.Pair.B)<;>exact Qa _
  |_=>exact Qa _
 unfold numF;cases fineU f (openU f)with
 |false=>exact Qa _
 |true=>
  have e:app headL (bodyL (openU f))=some (entsS f):=Qdw _ _ (by have:=Qgb f;unfold entsS at this;rw[XY]at this;omega);unfold F_bg;simp[XG];refine Ea (Ez e) ?_;refine Ea (Ez (Qm7 0 f)) (Ea (QpB f (suspB f) (entsS f) (Qm4 f) (Qgb f) (entsS f) 0 ([],restS f,0) rfl (XR _) rfl).ev ?_);cases numR f (suspB f) (entsS f) ([],restS f,0)with
  |done r=>exact Qa _
  |cont a=>
   refine Ea ?_ (Qa _);cases(f.Kind != 10)<;>exact Qa _
def validS(f:Fact):Bool:=(numF f).2
theorem QgF(f:Fact):Ev (λn=>F_bq n f) (bif validS f then 0 else 120):=by
 refine Ea (Ql2 f) ?_
 grind[validS,Qa]
theorem Qkk{f:Fact}(h:validS f=true):(f.Kind==0)=false:=by
 cases q:(f.Kind==0)with
 |false=>rfl
 |true=>
  have hk:=by simpa using q
  have a:openU f=.c13 ():=by unfold openU;rw[hk];rfl
  unfold validS numF at h;rw[a]at h;cases h
set_option maxRecDepth 4000
def numN(v:Nat):List Int:=if h:128<=v then orI .u8 (u8.wrap (v:Int)) 128::numN (v/128)else[u8.wrap (v:Int)]
termination_by v
decreasing_by omega
theorem Qfu{v:Nat}(h:128<=v):numN v=orI .u8 (u8.wrap (v:Int)) 128::numN (v/128):=by
 rw[numN,dif_pos h]
theorem Qac{v:Nat}(h:¬128<=v):numN v=[u8.wrap (v:Int)]:=by
 rw[numN,dif_neg h]
theorem shr7(v:Nat):Qfe .u64 (v:Int) 7=((v/128:Nat):Int):=by
 show Int.fdiv v (2^7)=_
 grind
theorem Qi8:∀(k v:Nat),v<128^(k+1)->(numN v).length<=k+1:=by
 intro k
 induction k with
 |zero=>
  grind[Qac]
 |succ k a=>
  grind[Qfu]
theorem QhQ:∀(k v:Nat) (l:List Int),v<128^(k+1)->l.length+k<4294967296->∃(l':List Int) (a:Nat),EvI (λn=>F_gt n) (l,(v:Int)) (l',(a:Int))/\l'++[u8.wrap (a:Int)]=l++numN v/\l'.length<=l.length+k:=by
 intro k
 induction k with
 |zero=>
  intro v l e g;refine⟨l,v,Ei ?_,by rw[Qac (by omega)],XQ _⟩
  grind[F_gt,Qa]
 |succ k d=>
  intro v l e g;by_cases h:128<=v
  .obtain⟨l',a,i,f,j⟩:=d (v/128) (l++[orI .u8 (u8.wrap v) 128]) (by omega) (by simp;omega);refine⟨l',a,Eu ?_ i,?_,?_⟩
   .grind[F_gt,shr7,JW,Qa]
   .rw[f,Qfu h];simp
   grind
  .refine⟨l,v,Ei ?_,by rw[Qac h],by omega⟩;unfold F_gt;simp[Y3 (show¬128<=(v:Int)by omega)];exact Qa _
theorem Qf7(v:Nat)(l:List Int)(f:v<18446744073709551616)(hl:l.length<=1000000):Ev (λn=>F_an n l (v:Int)) (l++numN v):=by
 obtain⟨d,e,a,h,g⟩:=QhQ 9 v l (by omega) (by omega);refine Ea a.ev ?_
 grind[JW,Qa]
theorem Qbq{v:Nat}(hv:v<18446744073709551616):(numN v).length<=10:=Qi8 9 v (by omega)
def zigI(x:Int):Int:=QiJ .u64 (QhI .u64 (u64.wrap x) 1) (u64.wrap (Qfe .i64 x 63))
theorem wrapU(x:Int):0<=u64.wrap x/\u64.wrap x<18446744073709551616:=by
 have e:u64.wrap x=x%18446744073709551616:=by
  rfl
 omega
theorem Qe6(x:Int):∃z:Nat,zigI x=(z:Int)/\z<18446744073709551616:=by
 have h:=wrapU ((BitVec.ofInt IntKind.u64.bits (QhI .u64 (u64.wrap x) 1)^^^BitVec.ofInt IntKind.u64.bits (u64.wrap (Qfe .i64 x 63))).toNat);refine⟨(zigI x).toNat,?_,?_⟩
 .rfl
 .unfold zigI QiJ;omega
def oneB(x:Int):List Int:=1::numN (zigI x).toNat
theorem Qfq(x:Int):(oneB x).length<=11:=by
 obtain⟨z,a,d⟩:=Qe6 x
 grind[oneB,Qbq]
theorem QjC(l:List Int)(x:Int)(hl:l.length<=100000):Ev (λn=>F_bh n l ({Kind:=1,N:=x,S:=[],L:=[]:Value})) (l++oneB x):=by
 unfold F_bh F_bp;rw[JW l 1 (by omega)];simp only[XG];obtain⟨z,d,e⟩:=Qe6 x;have a:=d;unfold zigI at a;rw[a];refine Ea (Qf7 z (l++[1]) e (by simp;omega)) ((Qa _).eq ?_);unfold oneB
 grind
def mkV(x:Int):Value:={Kind:=1,N:=x,S:=[],L:=[]:Value}
def listV(l:List Int):Value:={Kind:=3,N:=0,S:=[],L:=l.map mkV:Value}
theorem QkF(x:Int):Ev (λn=>F_o n (mkV x)) (0,true):=by
 refine QY ?_;show Ev (λn=>B_o (F_o n) n (mkV x)) _;unfold B_o mkV;cases(x==0)with
 |true=>exact Qa _
 |false=>exact Qa _
theorem Qjn(l:List Int)(hl:l.length<=1000):Ev (λn=>F_o n (listV l)) (1,true):=by
 refine QY ?_;show Ev (λn=>B_o (F_o n) n (listV l)) _;unfold B_o listV;refine Ea (Qa _) ?_;refine Ea (v:=Ctl.cont 0) (Ew (λi=>(0,(i:Int))) (l.map mkV).length rfl (λi e=>?_) ?_) (Qa _)
 .have a:=Ju (by grind) (XH e);have d:∃y,(l.map mkV)[i]=mkV y:=by
   grind
  obtain⟨y,f⟩:=d;unfold F_ld;simp only[a.lt,a.ix,XG,a.nx];rw[f];exact Ea (QkF y) (Qa _)
 simp_all[F_ld,Qa]
def listB(l:List Int):List Int:=[3]++numN l.length++(l.map oneB).flatten
theorem Qh8(l:List Int)(hl:l.length<=1000):Ev (λn=>F_de n (listV l)) (listB l):=by
 unfold F_de;have q:app ([]:List Int) [3]=some [3]:=rfl;rw[q];simp only[XG];have r:u64.wrap (((listV l).L.length:Int))=((l.length:Nat):Int):=by
  have:u64.wrap (((listV l).L.length:Int))=(((listV l).L.length:Int))%18446744073709551616:=by rfl
  grind[listV]
 rw[r];have j:=Qbq (show l.length<18446744073709551616 by omega);refine Ea (Qf7 l.length [3] (by omega) (by simp)) ?_;refine Ea (v:=listB l) ?_ (Qa _);have h:=QS (step:=λn=>F_jv n (listV l)) (l.map mkV) (λ(a:List Int) (v:Value)=>a++oneB v.N) ([3]++numN l.length) (λa i=>(a,(i:Int))) (λa=>a) (by grind) rfl (λi x a d t=>?_) ?_
 .refine Et h ?_;have:∀(m:List Int) (a:List Int),(m.map mkV).foldl (λ(a:List Int) (v:Value)=>a++oneB v.N) a=a++(m.map oneB).flatten:=by
   intro m
   induction m with
   |nil=>intro a;simp
   |cons x m k=>grind[mkV]
  rw[this];rfl
 .have p:∃y,x=mkV y:=by
   obtain⟨y,_,s⟩:=Xf.1 d.mem
   grind
  obtain⟨y,rfl⟩:=p;have e:a.length<=100000:=by
   have:∀(m:List Int) (a:List Int),((m.map mkV).foldl (λ(a:List Int) (v:Value)=>a++oneB v.N) a).length<=a.length+11*m.length:=by
    intro m
    induction m with
    |nil=>intro a;simp
    |cons x m k=>
     grind[Qfq]
   have u:=this (l.take i) ([3]++numN l.length)
   grind[List.map_take]
  unfold F_jv;have g:decide ((i:Int)<((listV l).L.length:Int))=true:=d.lt;have f:idx (listV l).L (i:Int)=some (mkV y):=d.ix;simp only[g,Vi,f,XG,d.nx];refine Ea (QjC a y e) ?_;exact Qa _
 simp_all[F_jv,listV,Qa]
theorem Qn1{f:Fact}{b:Int}:∀(r:List Ent) (a c:List Int×Fact×Int),numR f b r a=.cont c->c.1.length=a.1.length+r.length:=by
 intro r
 induction r with
 |nil=>intro a c h;cases h;rfl
 |cons e r d=>
  grind[numR]
theorem Qn2(f:Fact):(numF f).1.length<=12:=by
 unfold numF;cases fineU f (openU f)with
 |false=>simp
 |true=>
  cases h:numR f (suspB f) (entsS f) ([],restS f,0)with
  |cont a=>
   have:=Qn1 _ _ _ h
   grind[Qgb]
  |done r=>
   have:∀(E:List Ent) (a:List Int×Fact×Int),numR f (suspB f) E a=.done r->r=([],false):=by
    intro E
    induction E with
    |nil=>intro a h;cases h
    |cons e E ih=>
     intro a h;unfold numR at h
     grind
   grind
def encF(f:Fact):List Int×Int:=bif validS f then(listB (numF f).1,0)else([],120)
theorem Qhk(f:Fact):Ev (λn=>F_bw n f) (encF f):=by
 refine Ea (Ql2 f) ?_;have l:=Qn2 f;unfold encF validS;generalize numF f=r at*;cases h:r.2 with
 |false=>exact Qa _
 |true=>
  refine Ea (v:=r.1.map mkV) ?_ ?_
  .refine Et (QS r.1 (λa x=>a++[mkV x]) [] (λa i=>(a,(i:Int))) (λa=>a) (by omega) rfl (λi x a d p=>?_) ?_) ?_
   .unfold F_ku;simp only[d.lt,d.ix,XG,d.nx];have g:a.length<=12:=by
     have:∀(m:List Int) (a:List Value),(m.foldl (λa x=>a++[mkV x]) a).length=a.length+m.length:=by
      intro m
      induction m with
      |nil=>simp
      |cons x m j=>grind
     grind
    grind[JW,mkV,Qa]
   .simp_all[F_ku,Qa]
   .have:∀(m:List Int) (a:List Value),m.foldl (λa x=>a++[mkV x]) a=a++m.map mkV:=by
     intro m
     induction m with
     |nil=>simp
     |cons x m j=>grind
    grind
  refine Ea (v:=(listB r.1,0)) ?_ (Qa _);have k:=Qjn r.1 (by omega);have e:({Kind:=3,N:=0,S:=[],L:=r.1.map mkV:Value})=listV r.1:=rfl;refine Ea (Ea k (Qa _)) ?_;exact Ea (Qh8 r.1 (by omega)) (Qa _)
def cmpI(a b:Int):Int:=bif decide (a<b)then-1 else bif decide (b<a)then 1 else 0
theorem Qih(n:Nat)(a b:Int):F_v n a b=some (cmpI a b):=by
 unfold F_v F_bo cmpI
 grind
def orL:List Int->Int
 |[]=>0
 |x::r=>bif x != 0 then x else orL r
theorem ev_or(l:List Int)(hl:l.length<=1000):Ev (λn=>F_gf n l) (orL l):=by
 have loop:∀(r:List Int) (i:Nat),l.drop i=r->i<=l.length->EvI (λn=>F_gd n l) i (bif orL r==0 then Ctl.cont ()else Ctl.done (orL r)):=by
  intro r
  induction r with
  |nil=>
   intro i d g;refine Ei ?_;unfold F_gd;simp only[Q9 d g];exact Qa _
  |cons x r h=>
   intro i d g;obtain⟨a,f⟩:=QC (by omega) d;have j:=a.lt';unfold orL;cases q:(x != 0)with
   |true=>
    have e:(x==0)=false:=by grind
    simp[Vi,e];refine Ei ?_;unfold F_gd;simp only[a.lt,a.ix,XG,q];exact Qa _
   |false=>
    refine Eu ?_ (h (i+1) f (by omega));unfold F_gd;simp only[a.lt,a.ix,XG,q,a.nx];exact Qa _
 refine Ea (loop l 0 rfl (XR _)).ev ?_
 grind[Qa]
def cmpF(f g:Fact):Int:=bif orL [cmpI f.At g.At,cmpI f.Crew g.Crew,cmpI f.No g.No] != 0 then orL [cmpI f.At g.At,cmpI f.Crew g.Crew,cmpI f.No g.No]else cmpB (encF f).1 (encF g).1
theorem Qf9(f g:Fact):Ev (λn=>F_ap n f g) (cmpF f g):=by
 unfold F_ap cmpF;simp[Qih,XG];refine Ea (ev_or _ (by simp)) ?_;cases(orL [cmpI f.At g.At,cmpI f.Crew g.Crew,cmpI f.No g.No] != 0)with
 |true=>exact Qa _
 |false=>
  exact Ea (Qhk f) (Ea (Qhk g) (Qa _))
def okS(c:Course)(f:Fact):Bool:=(f.Kind==1)&&(validS f&&(!decide ((c.Distances.length:Int)<=f.Starter.Distance)&& !decide ((c.Waves.length:Int)<=f.Starter.Wave)))
theorem Qi9{β:Type}(m:List (Int×β))(k:Int):QaA m k=(YQ m k).isSome:=by
 unfold QaA YQ
 grind
theorem Qja{β:Type}(m:List (Int×β))(k:Int):k∈m.map Prod.fst↔ ∃v,YQ m k=some v:=by
 have h:=Qi9 m k;rw[<- Option.isSome_iff_exists, <- h];unfold QaA;simp
theorem Qn3{β:Type}(m:List (Int×β))(k:Int)(v:β):(QQ m k v).length<=m.length+1:=by
 have:=congrArg List.length (QdT m k v)
 grind
theorem Qkz{β:Type}{m:List (Int×β)}(k:Int)(v:β)(h:(m.map Prod.fst).Nodup):((QQ m k v).map Prod.fst).Nodup:=by
 have e:=QdT m k v
 grind
theorem QmJ{l m:List Int}(h:l.Perm m):YX ltI l=YX ltI m:=
 JD ((Qz ltI l).trans (h.trans (Qz ltI m).symm)) (λx _ y _ a b=>by simp[ltI]at*;omega) (QX (Qdj l)) (QX (Qdj m))
theorem QeW{n:Nat}(h:n<=1048576):Nat.ble n QB=true:=XP (XS h (by decide))
theorem QpX{a b:Int}:cmpI a b<0↔a<b:=by
 grind[cmpI]
theorem Qra{a b:Int}:cmpI a b=0↔a=b:=by
 grind[cmpI]
set_option maxRecDepth 4000
theorem QpA(f:Fact)(b:Int):∀(E:List Ent) (a:List Int×Fact×Int),numR f b E a=bif E.all (inE f b)then .cont (a.1++E.map (getV f b),E.foldl (λp e=>putV p.1 p.2 e (getV f b e)) a.2)else .done ([],false):=by
 intro E
 induction E with
 |nil=>simp[numR]
 |cons e E ih=>
  intro a;unfold numR
  grind
def onlyS(f:Fact):Fact:={Crew:=f.Crew,No:=f.No,At:=f.At,Kind:=f.Kind,Starter:=(bif f.Kind==1 then f.Starter else Up.Starter),Read:=(bif f.Kind==2 then f.Read else Up.Read),Beacon:=(bif f.Kind==3 then f.Beacon else Up.Beacon),Sync:=(bif f.Kind==4 then f.Sync else Up.Sync),Hand:=(bif f.Kind==5 then f.Hand else Up.Hand),Silence:=(bif f.Kind==6 then f.Silence else Up.Silence),Pair:=(bif f.Kind==7 then f.Pair else Up.Pair),Report:=(bif f.Kind==8 then f.Report else Up.Report),Protest:=(bif f.Kind==9 then f.Protest else Up.Protest),Ruling:=(bif f.Kind==10 then f.Ruling else Up.Ruling),Appeal:=(bif f.Kind==11 then f.Appeal else Up.Appeal),Void:=(bif f.Kind==13 then f.Void else Up.Void):Fact}
def numsS(f:Fact):List Int:=[f.Kind,f.Crew,f.No,f.At]++(
 bif f.Kind==1 then[f.Starter.Bib,f.Starter.Distance,f.Starter.Wave,f.Starter.Slot,f.Starter.Age,f.Starter.Chip,f.Starter.Team,f.Starter.Lot]
 else bif f.Kind==2 then[f.Read.Mat,f.Read.Epoch,f.Read.Chip,f.Read.Local]
 else bif f.Kind==3 then[f.Beacon.Mat,f.Beacon.Epoch,f.Beacon.Local,f.Beacon.True,f.Beacon.Err]
 else bif f.Kind==4 then[f.Sync.MatA,f.Sync.EpochA,f.Sync.LocalA,f.Sync.MatB,f.Sync.EpochB,f.Sync.LocalB,f.Sync.Min,f.Sync.Max]
 else bif f.Kind==5 then[f.Hand.Bib,f.Hand.Position,f.Hand.Lo,f.Hand.Hi]
 else bif f.Kind==6 then[f.Silence.Mat,f.Silence.Epoch,f.Silence.Lo,f.Silence.Hi]
 else bif f.Kind==7 then[f.Pair.A,f.Pair.B]
 else bif f.Kind==8 then[f.Report.Case,f.Report.Bib,f.Report.Offence,f.Report.Position]
 else bif f.Kind==9 then[f.Protest.Case,f.Protest.By,f.Protest.Fee,f.Protest.Form]
 else bif f.Kind==10 then[f.Ruling.Case,f.Ruling.Instance,f.Ruling.Kind,f.Ruling.Bib,f.Ruling.Position,f.Ruling.Amount]
 else bif f.Kind==11 then[f.Appeal.Case,suspB f]
 else bif f.Kind==13 then[f.Void.Crew,f.Void.No]else[])
theorem kinds(f:Fact):f.Kind=1\/f.Kind=2\/f.Kind=3\/f.Kind=4\/f.Kind=5\/f.Kind=6\/f.Kind=7\/f.Kind=8\/f.Kind=9\/f.Kind=10\/f.Kind=11\/f.Kind=12\/f.Kind=13\/openU f=.c13 ():=by
 by_cases d:f.Kind=1; · exact .inl d
 by_cases q:f.Kind=2; · omega
 by_cases m:f.Kind=3; · omega
 by_cases j:f.Kind=4; · omega
 by_cases p:f.Kind=5; · omega
 by_cases l:f.Kind=6; · omega
 by_cases n:f.Kind=7; · omega
 by_cases k:f.Kind=8; · omega
 by_cases i:f.Kind=9; · omega
 by_cases h:f.Kind=10; · omega
 by_cases g:f.Kind=11; · omega
 by_cases a:f.Kind=12; · omega
 by_cases e:f.Kind=13; · omega
 refine .inr (.inr (.inr (.inr (.inr (.inr (.inr (.inr (.inr (.inr (.inr (.inr (.inr ?_))))))))))));unfold openU
 grind
def copyS(f:Fact):Fact×Int:=(entsS f).foldl (λp e=>putV p.1 p.2 e (getV f (suspB f) e)) (restS f,0)
theorem QhR(f:Fact):numF f=bif fineU f (openU f)then(bif (entsS f).all (inE f (suspB f))then((entsS f).map (getV f (suspB f)),lastF f (copyS f).1 (copyS f).2==f)else([],false))else([],false):=by
 unfold numF;rw[QpA];cases fineU f (openU f)with
 |false=>rfl
 |true=>
  cases(entsS f).all (inE f (suspB f))with
  |false=>rfl
  |true=>rfl
theorem QdW(f:Fact)(h:¬openU f=.c13 ()):lastF f (copyS f).1 (copyS f).2=onlyS f/\(entsS f).map (getV f (suspB f))=numsS f:=by
 rcases kinds f with k|k|k|k|k|k|k|k|k|k|k|k|k|k
 case inr.inr.inr.inr.inr.inr.inr.inr.inr.inr.inl=>
  obtain⟨Cr,No,At,Ki,S,R,B,Sy,Ha,Si,Pa,Re,Pr,Ru,⟨Ca,Su⟩,Vo⟩:=f;subst k;cases Su<;>exact⟨by kernel_rfl,by kernel_rfl⟩
 case inr.inr.inr.inr.inr.inr.inr.inr.inr.inl=>
  obtain⟨Cr,No,At,Ki,S,R,B,Sy,Ha,Si,Pa,Re,Pr,⟨i,e,a,j,l,d⟩,Ap,Vo⟩:=f;subst k;have:∃x,openU ⟨Cr,No,At,10,S,R,B,Sy,Ha,Si,Pa,Re,Pr,⟨i,e,a,j,l,d⟩,Ap,Vo⟩=.c9 x:=by
   unfold openU;cases((a==1)||(a==2))with
   |true=>simp
   |false=>
    cases(a==3)with
    |true=>simp
    |false=>cases(a==4)<;>exact⟨_,rfl⟩
  obtain⟨x,g⟩:=this;unfold copyS entsS;rw[g];exact⟨by kernel_rfl,by kernel_rfl⟩
 case inr.inr.inr.inr.inr.inr.inr.inr.inr.inr.inr.inr.inr=>grind
 all_goals
  obtain⟨Cr,No,At,Ki,S,R,B,Sy,Ha,Si,Pa,Re,Pr,Ru,Ap,Vo⟩:=f;subst k;exact⟨by kernel_rfl,by kernel_rfl⟩
def contS(f:Fact):Bool:=fineU f (openU f)&&(bodyL (openU f)).all (inE f (suspB f))
def headS(f:Fact):Bool:=headL.all (inE f (suspB f))
theorem Qce(f:Fact):validS f=(headS f&&contS f&&(onlyS f==f)):=by
 unfold validS contS headS;rw[QhR];by_cases h:openU f=.c13 ()
 .simp_all[fineU]
 .obtain⟨a,d⟩:=QdW f h;rw[a];unfold entsS
  grind
theorem Qkj{f:Fact}(h:validS f=true):(numF f).1=numsS f:=by
 unfold validS at h;rw[QhR]at h⊢;by_cases q:openU f=.c13 ()
 .simp_all[fineU]
 grind[QdW]
theorem Qe7{f:Fact}(h:validS f=true):onlyS f=f:=by
 simp_all[Qce]
theorem QnZ{f g:Fact}(l:validS f=true)(hg:validS g=true)(h:numsS f=numsS g):f=g:=by
 have R:=Qe7 l;have H:=Qe7 hg;rw[<- R, <- H];unfold numsS at h;have X:f.Kind=g.Kind:=by
  grind
 have nk:=Qkk l;rcases kinds f with k|k|k|k|k|k|k|k|k|k|k|k|k|k
 case inr.inr.inr.inr.inr.inr.inr.inr.inr.inr.inr.inr.inr=>
  grind[Qce,contS,fineU]
 all_goals
  have a:=X.symm.trans k;obtain⟨Cr,No,At,Ki,⟨s1,s2,s3,s4,s5,s6,s7,s8⟩,⟨z,t,B,ai⟩,⟨b1,b2,b3,b4,b5⟩,⟨y1,y2,y3,y4,y5,y6,y7,y8⟩,⟨h1,h2,h3,h4⟩,⟨i1,i2,i3,i4⟩,⟨p1,p2⟩,⟨u1,u2,u3,u4⟩,⟨o1,o2,o3,o4⟩,⟨r1,r2,r3,r4,r5,r6⟩,⟨a1,a2⟩,⟨v1,v2⟩⟩:=f;obtain⟨Cr',No',At',Ki',⟨y,an,r,ay,M,au,ae,P⟩,⟨j,d,i,e⟩,⟨m,ar,a3,V,ax⟩,⟨aq,W,q,al,ah,am,av,ac⟩,⟨w,aw,N,aj⟩,⟨T,a0,s,a5⟩,⟨F,Y⟩,⟨ao,a4,x,Q⟩,⟨af,O,n,ab⟩,⟨E,J,p,ag,aa,az⟩,⟨ak,G⟩,⟨L,u⟩⟩:=g;simp only at k a;subst k;subst a
  grind[suspB,onlyS]
set_option maxRecDepth 4000
theorem Qcd(x:Int):u64.wrap x=x%18446744073709551616:=by rfl
theorem Qki(x:Int):u8.wrap x=x%256:=by unfold IntKind.wrap;rfl
theorem or8(a b:Int):orI .u8 a b=(((BitVec.ofInt 8 a|||BitVec.ofInt 8 b).toNat:Nat):Int)%256:=by rfl
theorem Qqa(a b:Int):QiJ .u64 a b=(((BitVec.ofInt 64 a^^^BitVec.ofInt 64 b).toNat:Nat):Int)%18446744073709551616:=by rfl
theorem or128(v:Nat):orI .u8 (u8.wrap (v:Int)) 128=((v%128+128:Nat):Int):=by
 have a:∀m:Fin 256,((BitVec.ofNat 8 m.val|||128#8).toNat)=m.val%128+128:=by decide
 have f:v%256<256:=(by omega);have k:(BitVec.ofNat 8 (v%256)|||128#8).toNat=v%256%128+128:=a ⟨v%256,f⟩;have e:BitVec.ofInt 8 (v%256)=BitVec.ofNat 8 (v%256):=by
  rfl
 have d:BitVec.ofInt 8 128=128#8:=by rfl
 rw[or8,Qki,e,d,k];omega
theorem Qcl(v:Nat):numN v=if 128<=v then((v%128+128:Nat):Int)::numN (v/128)else[(v:Int)]:=by
 by_cases h:128<=v
 .rw[Qfu h,Vm h,or128]
 .rw[Qac h,Vl h,Qki]
  grind
theorem Qi7:∀(v w:Nat) (a b:List Int),numN v++a=numN w++b->v=w/\a=b:=by
 intro v
 induction v using Nat.strongRecOn with
 |_ v d=>
 intro w a b h;rw[Qcl v,Qcl w]at h
 grind
theorem Qft:∀(v:Nat),∀x∈numN v,0<=x/\x<256:=by
 intro v
 induction v using Nat.strongRecOn with
 |_ v d=>
 intro x a;rw[Qcl v]at a
 grind
theorem Qlr{x:Int}(h0:0<=x)(f:x<9223372036854775808):zigI x=2*x:=by
 unfold zigI QhI;have d:Qfe .i64 x 63=0:=by
  show Int.fdiv x (2^63)=0
  grind
 have a:(2:Int)^(min (1:Int).toNat IntKind.u64.bits)=2:=by decide
 rw[d,a,Qqa];simp only[Qcd];have e:BitVec.ofInt 64 (0%18446744073709551616)=0#64:=by rfl
 rw[e,BitVec.xor_zero,BitVec.toNat_ofInt];omega
theorem Qls{x:Int}(h0:x<0)(f: -9223372036854775808<=x):zigI x= -2*x-1:=by
 unfold zigI QhI;have d:Qfe .i64 x 63= -1:=by
  show Int.fdiv x (2^63)= -1
  grind
 have a:(2:Int)^(min (1:Int).toNat IntKind.u64.bits)=2:=by decide
 rw[d,a,Qqa];simp only[Qcd];have e:BitVec.ofInt 64 (-1%18446744073709551616)=BitVec.allOnes 64:=by decide
 rw[e,BitVec.xor_allOnes,BitVec.toNat_not,BitVec.toNat_ofInt];omega
def in63(x:Int):Prop:= -9223372036854775808<=x/\x<9223372036854775808
theorem Qpr{x y:Int}(e:in63 x)(f:in63 y)(h:zigI x=zigI y):x=y:=by
 obtain⟨a,b⟩:=e;obtain⟨c,d⟩:=f
 grind[Qlr,Qls]
theorem Qi4:∀(l m:List Int),l.length=m.length->(∀x∈l,in63 x)->(∀x∈m,in63 x)->(l.map oneB).flatten=(m.map oneB).flatten->l=m
 |[],[],_,_,_,_=>rfl
 |x::l,y::m,hl,h1,h2,h=>by
  simp[Vd,Vf,oneB,VE,List.cons.injEq,true_and]at h;obtain⟨e1,e2⟩:=Qi7 _ _ _ _ h;obtain⟨z,p1,p2⟩:=Qe6 x;obtain⟨z',q1,q2⟩:=Qe6 y;rw[p1,q1]at e1;have:=Qpr (h1 x (by simp)) (h2 y (by simp)) (by omega);rw[this,Qi4 l m (by grind) (by grind) (by grind) e2]
theorem QmE{l m:List Int}(a:∀x∈l,in63 x)(d:∀x∈m,in63 x)(h:listB l=listB m):l=m:=by
 unfold listB at h;simp[VE,List.cons.injEq,true_and]at h
 grind[Qi7,Qi4]
theorem Qel(l:List Int):∀x∈listB l,0<=x/\x<256:=by
 intro x a;unfold listB at a;simp only[Vx,Vv,List.mem_flatten,Xf]at a;rcases a with(rfl|a)|⟨m,⟨y,_,rfl⟩,a⟩
 .omega
 .exact Qft _ x a
 .rcases X0.1 a with rfl|a
  .omega
  .exact Qft _ x a
structure CmpOK {α:Type} (c:α->α->Int):Prop where
 swap:∀x y,c y x= -c x y
 trans:∀x y z,c x y<0->c y z<0->c x z<0
 eqt:∀x y z,c x y=0->c x z=c y z
section
variable {α:Type} {c d:α->α->Int}
theorem CmpOK.refl(h:CmpOK c)(x:α):c x x=0:=by have:=h.swap x x;omega
theorem CmpOK.eqr(h:CmpOK c){x y:α}(z:α)(e:c x y=0):c z x=c z y:=by
 rw[h.swap x z,h.swap y z,h.eqt x y z e]
theorem Qea(h:CmpOK c)(k:CmpOK d):CmpOK λx y=>bif c x y != 0 then c x y else d x y:=by
 refine⟨λx y=>?_,λx y z=>?_,λx y z=>?_⟩
 .have e:=h.swap x y;by_cases q:c x y=0
  .have f:c y x=0:=by omega
   rw[q,f];exact k.swap x y
  grind
 .by_cases q:c x y=0
  .have e:=h.eqt x y z q;rw[q,e];by_cases f:c y z=0
   .rw[f];exact k.trans x y z
   grind
  .rw[bne_iff_ne.2 q];by_cases f:c y z=0
   .have e:=h.eqr x f
    grind
   .rw[bne_iff_ne.2 f];intro a b;have:=h.trans x y z a b
    grind
 .by_cases q:c x y=0
  .rw[q,h.eqt x y z q];intro e;rw[k.eqt x y z e]
  grind
theorem CmpOK.on{β:Type}(h:CmpOK c)(f:β->α):CmpOK λx y=>c (f x) (f y):=
 ⟨λx y=>h.swap _ _,λx y z=>h.trans _ _ _,λx y z=>h.eqt _ _ _⟩
end
theorem cmpI_ok:CmpOK cmpI:=by
 have e:∀a b,cmpI a b=if a<b then-1 else if b<a then 1 else 0:=by
  intro a b;unfold cmpI
  grind
 refine⟨λx y=>?_,λx y z=>?_,λx y z=>?_⟩
 iterate 3 grind
theorem cb_ok:CmpOK Lib.compareBytes:=by
 have f:∀x y:List UInt8,Lib.compareBytes y x= -Lib.compareBytes x y:=by
  intro x
  induction x with
  |nil=>intro y;cases y<;>simp[Lib.compareBytes]
  |cons a x e=>
   intro y;cases y with
   |nil=>rfl
   |cons b y=>
    unfold Lib.compareBytes
    grind
 have eq:∀x y:List UInt8,Lib.compareBytes x y=0->x=y:=by
  intro x
  induction x with
  |nil=>intro y h;cases y with
   |nil=>rfl
   |cons b y=>simp[Lib.compareBytes]at h
  |cons a x e=>
   intro y h;cases y with
   |nil=>simp[Lib.compareBytes]at h
   |cons b y=>
    unfold Lib.compareBytes at h
    grind
 refine⟨f,?_,(by grind)⟩;intro x
 induction x with
 |nil=>
  intro y z h k;cases y with
  |nil=>omega
  |cons b y=>cases z with
   |nil=>grind
   |cons d z=>simp[Lib.compareBytes]
 |cons a x e=>
  intro y z h k;cases y with
  |nil=>simp[Lib.compareBytes]at h
  |cons b y=>
   cases z with
   |nil=>simp[Lib.compareBytes]at k
   |cons d z=>
    unfold Lib.compareBytes at h k⊢
    grind
theorem QoS:∀{x y:List UInt8},Lib.compareBytes x y=0->x=y
 |[],[],_=>rfl
 |[],_::_,h=>by simp[Lib.compareBytes]at h
 |_::_,[],h=>by simp[Lib.compareBytes]at h
 |a::x,b::y,h=>by
  unfold Lib.compareBytes at h;by_cases q:a<b
  .grind
  .rw[Vl q]at h;by_cases q2:b<a
   .grind
   .rw[Vl q2]at h;have:a=b:=by
     grind
    rw[this,QoS h]
theorem Qho:∀{l m:List Int},(∀x∈l,0<=x/\x<256)->(∀x∈m,0<=x/\x<256)->l.map Yh=m.map Yh->l=m
 |[],[],_,_,_=>rfl
 |[],_::_,_,_,h=>by simp at h
 |_::_,[],_,_,h=>by simp at h
 |x::l,y::m,h1,h2,h=>by
  simp[Vd,List.cons.injEq]at h;have a1:=h1 x (by simp);have a2:=h2 y (by simp);have e:=congrArg UInt8.toNat h.1;unfold Yh at e;rw[UInt8.toNat_ofNat',UInt8.toNat_ofNat']at e;have:x=y:=by omega
  rw[this,Qho (by grind) (by grind) h.2]
theorem Qgg(f g:Fact):cmpF f g=bif cmpI f.At g.At != 0 then cmpI f.At g.At else bif cmpI f.Crew g.Crew != 0 then cmpI f.Crew g.Crew else bif cmpI f.No g.No != 0 then cmpI f.No g.No else cmpB (encF f).1 (encF g).1:=by
 unfold cmpF orL orL orL orL
 grind
theorem Ql7:CmpOK cmpF:=by
 have h:=Qea (cmpI_ok.on λf=>f.At) (Qea (cmpI_ok.on λf=>f.Crew) (Qea (cmpI_ok.on λf=>f.No) (cb_ok.on λf=>(encF f).1.map Yh)));have e:=by
  funext f g;exact Qgg f g
 rw[e];exact h
def wideE(e:Ent):Bool:=decide (-1125899906842624<=e.lo)&&decide (e.hi<=1125899906842624)
theorem Qm3(f:Fact):(entsS f).all wideE=true:=by
 unfold entsS;rw[List.all_append,XT];refine⟨rfl,?_⟩;rcases kinds f with k|k|k|k|k|k|k|k|k|k|k|k|k|k
 case inr.inr.inr.inr.inr.inr.inr.inr.inr.inl=>
  unfold openU;rw[k];cases((f.Ruling.Kind==1)||(f.Ruling.Kind==2))with
  |true=>rfl
  |false=>
   cases(f.Ruling.Kind==3)with
   |true=>rfl
   |false=>cases(f.Ruling.Kind==4)<;>rfl
 case inr.inr.inr.inr.inr.inr.inr.inr.inr.inr.inr.inr.inr=>rw[k];rfl
 all_goals
  unfold openU;rw[k];rfl
theorem Qfr{f:Fact}(h:validS f=true):∀x∈numsS f,in63 x:=by
 unfold validS at h;rw[QhR]at h;by_cases q:openU f=.c13 ()
 .rw[q]at h;cases h
 .rw[<- (QdW f q).2];cases a:fineU f (openU f)with
  |false=>grind
  |true=>
   rw[a]at h;cases b:(entsS f).all (inE f (suspB f))with
   |false=>grind
   |true=>
    intro x j;obtain⟨e,d,rfl⟩:=Xf.1 j;have g:=Xs.1 b e d;have i:=Xs.1 (Qm3 f) e d;unfold inE at g;unfold wideE at i;simp[XT,Bool.not_eq_true',decide_eq_false_iff_not,Vk]at g i;unfold in63;omega
theorem QdY{f:Fact}(h:validS f=true):encF f=(listB (numsS f),0):=by
 unfold encF;rw[h,Qkj h];rfl
theorem QeZ{f g:Fact}(a:validS f=true)(hg:validS g=true)(h:cmpF f g=0):f=g:=by
 rw[Qgg]at h;have z:cmpB (encF f).1 (encF g).1=0:=by
  grind
 rw[QdY a,QdY hg]at z;have e:=Qho (Qel _) (Qel _) (QoS z)
 grind[QnZ,QmE,Qfr]
set_option maxRecDepth 4000
theorem QcK{α:Type}{R:α->α->Prop}(d:∀x,¬R x x)(f:∀x y z,R x y->R y z->R x z):∀{l m:List α},l.Pairwise R->m.Pairwise R->(∀x,x∈l↔x∈m)->l=m
 |[],[],_,_,_=>rfl
 |[],b::m,_,_,h=>by have:=(h b).2 (by simp);cases this
 |a::l,[],_,_,h=>by have:=(h a).1 (by simp);cases this
 |a::l,b::m,hl,hm,h=>by
  rw[Xc]at hl hm;have e:a=b:=by
   rcases X0.1 ((h a).1 (by simp))with e|g
   .exact e
   .rcases X0.1 ((h b).2 (by simp))with e|i
    .exact e.symm
    grind
  subst e;congr 1;refine QcK d f hl.2 hm.2 λx=>?_
  grind
def insC(x:Fact):List Fact->List Fact
 |[]=>[x]
 |y::r=>bif decide (cmpF y x<0)then y::insC x r else bif y==x then y::r else x::y::r
def canonS(l:List Fact):List Fact:=l.foldl (λa x=>bif validS x then insC x a else a) []
def ltF(a b:Fact):Prop:=cmpF a b<0
theorem QlI(x:Fact):¬ltF x x:=by unfold ltF;have:=Ql7.refl x;omega
theorem QhU(x y z:Fact):ltF x y->ltF y z->ltF x z:=Ql7.trans x y z
theorem Qdk(x:Fact):∀(l:List Fact) (z:Fact),z∈insC x l↔z=x\/z∈l
 |[],z=>by simp[insC]
 |y::r,z=>by
  unfold insC;cases decide (cmpF y x<0)with
  |true=>
   simp[Vi,X0,Qdk x r z]
   grind
  |false=>
   grind
def CanonOK(l:List Fact):Prop:=l.Pairwise ltF/\ ∀f∈l,validS f=true
theorem QlO{x:Fact}(a:validS x=true):∀{l:List Fact},CanonOK l->CanonOK (insC x l)
 |[],_=>⟨by simp[insC],by simp[insC,a]⟩
 |y::r,h=>by
  obtain⟨h1,h2⟩:=h;rw[Xc]at h1;have hr:CanonOK r:=⟨h1.2,(by grind)⟩;have ih:=QlO a hr;refine⟨?_,λf hf=>?_⟩
  .unfold insC;cases q:decide (cmpF y x<0)with
   |true=>
    simp[Vi,Xc];refine⟨λz hz=>?_,ih.1⟩;rcases(Qdk x r z).1 hz with rfl|hz
    .show cmpF y z<0
     grind
    grind
   |false=>
    simp[Vj];cases q2:(y==x)with
    |true=>simp_all
    |false=>
     simp only[Vj,Xc];have lt:ltF x y:=by
      have g:=Vq q;have d:¬cmpF y x=0:=λe=>by
       have:=QeZ (h2 y (by simp)) a e
       grind
      have:=Ql7.swap x y;unfold ltF;omega
     refine⟨λz hz=>?_,h1⟩;rcases X0.1 hz with rfl|hz
     .exact lt
     .exact QhU _ _ _ lt (h1.1 z hz)
  .rcases(Qdk x (y::r) f).1 hf with rfl|hf
   .exact a
   grind
theorem Qag(l:List Fact):CanonOK (canonS l)/\ ∀f,f∈canonS l↔f∈l/\validS f=true:=by
 have d:∀(r a:List Fact),CanonOK a->CanonOK (r.foldl (λa x=>bif validS x then insC x a else a) a)/\ ∀f,f∈r.foldl (λa x=>bif validS x then insC x a else a) a↔f∈a\/(f∈r/\validS f=true):=by
  intro r
  induction r with
  |nil=>simp
  |cons x r i=>
   intro a h;rw[XB];cases q:validS x with
   |false=>
    grind
   |true=>
    obtain⟨e,g⟩:=i (insC x a) (QlO q h);refine⟨e,λf=>?_⟩;rw[Vi,g f,Qdk,X0];constructor
    .rintro((rfl|a)|⟨a,b⟩)
     .exact .inr ⟨.inl rfl,q⟩
     .exact .inl a
     .exact .inr ⟨.inr a,b⟩
    .rintro(a|⟨rfl|a,b⟩)
     .exact .inl (.inr a)
     .exact .inl (.inl rfl)
     .exact .inr ⟨a,b⟩
 obtain⟨e,g⟩:=d l [] ⟨by simp,by simp⟩
 grind[canonS]
theorem Qk4{l m:List Fact}(h:∀f,validS f=true->(f∈l↔f∈m)):canonS l=canonS m:=by
 obtain⟨d,g⟩:=Qag l;obtain⟨a,e⟩:=Qag m;refine QcK QlI QhU d.1 a.1 λf=>?_
 grind
def FirstIs(c:Course)(l:List Fact)(f:Fact):Prop:=f∈l/\okS c f=true/\ ∀g∈l,okS c g=true->g.Starter.Bib=f.Starter.Bib->¬cmpF g f<0
theorem QaF{c:Course}{f:Fact}(h:okS c f=true):validS f=true:=by
 simp_all[okS]
theorem FirstIs.one{c:Course}{l:List Fact}{f g:Fact}(a:FirstIs c l f)(hg:FirstIs c l g)(e:f.Starter.Bib=g.Starter.Bib):f=g:=by
 have d:=a.2.2 g hg.1 hg.2.1 e.symm;have h:=hg.2.2 f a.1 a.2.1 e;have:=Ql7.swap f g;exact QeZ (QaF a.2.1) (QaF hg.2.1) (by omega)
theorem Qp6{c:Course}{l m:List Fact}(h:∀f,validS f=true->(f∈l↔f∈m)){f:Fact}:FirstIs c l f↔FirstIs c m f:=by
 constructor
 .rintro⟨a,b,d⟩;exact⟨(h f (QaF b)).1 a,b,λg i e j=>d g ((h g (QaF e)).2 i) e j⟩
 .rintro⟨a,b,d⟩;exact⟨(h f (QaF b)).2 a,b,λg i e j=>d g ((h g (QaF e)).1 i) e j⟩
set_option maxRecDepth 4000
def nb(v lo hi:Int):Bool:= !(decide (v<lo))&& !(decide (hi<v))
theorem QaM(v lo hi:Int):nb v lo hi=true↔lo<=v/\v<=hi:=by
 simp_all[nb]
def contR(f:Fact):Bool:=
 bif f.Kind==1 then true&&(nb f.Starter.Bib 1 9999&&(nb f.Starter.Distance 0 7&&(nb f.Starter.Wave 0 31&&(nb f.Starter.Slot (-1099511627776) 1099511627776&&(nb f.Starter.Age 0 120&&(nb f.Starter.Chip 0 1048576&&(nb f.Starter.Team 0 9999&&(nb f.Starter.Lot 0 1048576&&true))))))))
 else bif f.Kind==2 then true&&(nb f.Read.Mat 0 39&&(nb f.Read.Epoch 0 255&&(nb f.Read.Chip 0 1048576&&(nb f.Read.Local (-1099511627776) 1099511627776&&true))))
 else bif f.Kind==3 then true&&(nb f.Beacon.Mat 0 39&&(nb f.Beacon.Epoch 0 255&&(nb f.Beacon.Local (-1099511627776) 1099511627776&&(nb f.Beacon.True (-1099511627776) 1099511627776&&(nb f.Beacon.Err 0 1099511627776&&true)))))
 else bif f.Kind==4 then decide (f.Sync.Min<=f.Sync.Max)&&(nb f.Sync.MatA 0 39&&(nb f.Sync.EpochA 0 255&&(nb f.Sync.LocalA (-1099511627776) 1099511627776&&(nb f.Sync.MatB 0 39&&(nb f.Sync.EpochB 0 255&&(nb f.Sync.LocalB (-1099511627776) 1099511627776&&(nb f.Sync.Min (-1099511627776) 1099511627776&&(nb f.Sync.Max (-1099511627776) 1099511627776&&true))))))))
 else bif f.Kind==5 then decide (f.Hand.Lo<=f.Hand.Hi)&&(nb f.Hand.Bib 1 9999&&(nb f.Hand.Position 0 255&&(nb f.Hand.Lo (-1099511627776) 1099511627776&&(nb f.Hand.Hi (-1099511627776) 1099511627776&&true))))
 else bif f.Kind==6 then decide (f.Silence.Lo<=f.Silence.Hi)&&(nb f.Silence.Mat 0 39&&(nb f.Silence.Epoch 0 255&&(nb f.Silence.Lo (-1099511627776) 1099511627776&&(nb f.Silence.Hi (-1099511627776) 1099511627776&&true))))
 else bif f.Kind==7 then decide (f.Pair.A<f.Pair.B)&&(nb f.Pair.A 1 9999&&(nb f.Pair.B 1 9999&&true))
 else bif f.Kind==8 then true&&(nb f.Report.Case 1 1048576&&(nb f.Report.Bib 1 9999&&(nb f.Report.Offence 0 31&&(nb f.Report.Position 0 255&&true))))
 else bif f.Kind==9 then true&&(nb f.Protest.Case 1 1048576&&(nb f.Protest.By 0 9999&&(nb f.Protest.Fee 0 1125899906842624&&(nb f.Protest.Form 0 1&&true))))
 else bif f.Kind==10 then true&&(nb f.Ruling.Case 1 1048576&&(nb f.Ruling.Instance 1 2&&(nb f.Ruling.Kind 1 5&&(bif (f.Ruling.Kind==1)||(f.Ruling.Kind==2)then nb f.Ruling.Bib 0 0&&(nb f.Ruling.Position 0 0&&(nb f.Ruling.Amount 0 0&&true))else bif f.Ruling.Kind==3 then nb f.Ruling.Bib 1 9999&&(nb f.Ruling.Position 0 255&&(nb f.Ruling.Amount 1 1099511627776&&true))else bif f.Ruling.Kind==4 then nb f.Ruling.Bib 1 9999&&(nb f.Ruling.Position 0 255&&(nb f.Ruling.Amount 1 64&&true))else nb f.Ruling.Bib 1 9999&&(nb f.Ruling.Position 0 255&&(nb f.Ruling.Amount 0 0&&true))))))
 else bif f.Kind==11 then true&&(nb f.Appeal.Case 1 1048576&&(nb (suspB f) 0 1&&true))
 else bif f.Kind==12 then true&&true
 else bif f.Kind==13 then true&&(nb f.Void.Crew 0 31&&(nb f.Void.No 1 1048576&&true))
 else false
theorem QhW(f:Fact):(f.Kind=1\/f.Kind=2\/f.Kind=3\/f.Kind=4\/f.Kind=5\/f.Kind=6\/f.Kind=7\/f.Kind=8\/f.Kind=9\/f.Kind=10\/f.Kind=11\/f.Kind=12\/f.Kind=13)\/((f.Kind==1)=false/\(f.Kind==2)=false/\(f.Kind==3)=false/\(f.Kind==4)=false/\(f.Kind==5)=false/\(f.Kind==6)=false/\(f.Kind==7)=false/\(f.Kind==8)=false/\(f.Kind==9)=false/\(f.Kind==10)=false/\(f.Kind==11)=false/\(f.Kind==12)=false/\(f.Kind==13)=false):=by
 grind
theorem QjR(f:Fact):contS f=contR f:=by
 rcases QhW f with k|⟨E,y,x,u,s,w,t,r,z,l,n,m,p⟩
 .rcases k with k|k|k|k|k|k|k|k|k|k|k|k|k
  case inr.inr.inr.inr.inr.inr.inr.inr.inr.inl=>
   obtain⟨Cr,No,At,Ki,S,R,B,Sy,Ha,Si,Pa,Re,Pr,⟨j,h,a,g,e,d⟩,Ap,Vo⟩:=f;simp only at k;subst k;have i:openU ⟨Cr,No,At,10,S,R,B,Sy,Ha,Si,Pa,Re,Pr,⟨j,h,a,g,e,d⟩,Ap,Vo⟩=(bif (a==1)||(a==2)then U_facts_open_rxk.c9 (0,0,0,0,0,0)else bif a==3 then .c9 (1,9999,0,255,1,1099511627776)else bif a==4 then .c9 (1,9999,0,255,1,64)else .c9 (1,9999,0,255,0,0)):=rfl;have q:contR ⟨Cr,No,At,10,S,R,B,Sy,Ha,Si,Pa,Re,Pr,⟨j,h,a,g,e,d⟩,Ap,Vo⟩=(true&&(nb j 1 1048576&&(nb h 1 2&&(nb a 1 5&&(bif (a==1)||(a==2)then nb g 0 0&&(nb e 0 0&&(nb d 0 0&&true))else bif a==3 then nb g 1 9999&&(nb e 0 255&&(nb d 1 1099511627776&&true))else bif a==4 then nb g 1 9999&&(nb e 0 255&&(nb d 1 64&&true))else nb g 1 9999&&(nb e 0 255&&(nb d 0 0&&true))))))):=rfl;rw[q];unfold contS;rw[i];cases((a==1)||(a==2))with
   |true=>rfl
   |false=>
    cases(a==3)with
    |true=>rfl
    |false=>cases(a==4)<;>rfl
  all_goals
   obtain⟨Cr,No,At,Ki,S,R,B,Sy,Ha,Si,Pa,Re,Pr,Ru,Ap,Vo⟩:=f;simp only at k;subst k;rfl
 .have i:openU f=.c13 ():=by unfold openU;grind
  unfold contS contR;rw[i,E,y,x,u,s,w,t,r,z,l,n,m,p];rfl
theorem Jg(n:Nat)(v a b:Int):F_b n v a b=some (nb v a b):=by
 unfold F_b nb;have e:decide (a<=v)= !decide (v<a):=by grind
 have d:decide (v<=b)= !decide (b<v):=by grind
 rw[e,d]
 grind
theorem QgH(a:Bool)(b:Option Bool)(c:Bool)(h:b=some c):(bif a then b else some false)=some (a&&c):=by
 grind
theorem QbX(n:Nat)(v:Int):F_e n v=some (nb v 1 9999):=by unfold F_e;rw[Jg];rfl
theorem QhO(n:Nat)(v:Int):F_s n v=some (nb v 0 39):=by unfold F_s;rw[Jg];rfl
theorem Qdc(n:Nat)(v:Int):F_x n v=some (nb v 0 255):=by unfold F_x;rw[Jg];rfl
theorem Qdd(n:Nat)(v:Int):F_bb n v=some (nb v 0 1048576):=by unfold F_bb;rw[Jg];rfl
theorem JK(n:Nat)(v:Int):F_z n v=some (nb v 0 255):=by unfold F_z;rw[Jg];rfl
theorem QeS(n:Nat)(v:Int):F_ai n v=some (nb v 1 1048576):=by unfold F_ai;rw[Jg];rfl
theorem QgV(n:Nat)(v:Int):F_al n v=some (nb v 1 1048576):=by unfold F_al;rw[Jg];rfl
theorem QlB(n:Nat)(v:Int):F_ah n v=some (nb v 0 31):=by unfold F_ah;rw[Jg];rfl
theorem Qci(n:Nat)(v:Int):F_d n v=some (nb v (-1099511627776) 1099511627776):=by unfold F_d;rw[Jg];rfl
theorem Qkt(n:Nat)(f:Fact):F_bs n f=some (contR f):=by
 unfold F_bs contR;cases(f.Kind==1)with
 |true=>
  simp_all[F_gz,QbX,Qci,Qdd,Jg,QgH]
 |false=>
 cases(f.Kind==2)with
 |true=>simp_all[QhO,Qdc,Qci,Qdd,QgH]
 |false=>
 cases(f.Kind==3)with
 |true=>simp_all[QhO,Qdc,Qci,Jg,QgH]
 |false=>
 cases(f.Kind==4)with
 |true=>
  unfold F_fg;simp only[QhO,Qdc,Qci,Qdd,Jg,XG,Vi,Vj,QgH _ _ _ rfl,Option.some.injEq,Vu,Bool.and_true]
  grind
 |false=>
 cases(f.Kind==5)with
 |true=>
  simp only[QbX,JK,Qci,Qdd,Jg,XG,Vi,Vj,QgH _ _ _ rfl,Option.some.injEq,Vu,Bool.and_true]
  grind
 |false=>
 cases(f.Kind==6)with
 |true=>
  simp only[QhO,Qdc,Qci,Qdd,Jg,XG,Vi,Vj,QgH _ _ _ rfl,Option.some.injEq,Vu,Bool.and_true]
  grind
 |false=>
 cases(f.Kind==7)with
 |true=>
  simp only[QbX,Jg,XG,Vi,Vj,QgH _ _ _ rfl,Option.some.injEq,Vu,Bool.and_true];rw[XU];simp only[XT,QaM,Vk];omega
 |false=>
 cases(f.Kind==8)with
 |true=>simp only[QbX,QeS,JK,Jg,XG,Vi,Vj,QgH _ _ _ rfl,Option.some.injEq,Vu,Bool.and_true]
 |false=>
 cases(f.Kind==9)with
 |true=>simp only[QbX,QeS,JK,Jg,XG,Vi,Vj,QgH _ _ _ rfl,Option.some.injEq,Vu,Bool.and_true]
 |false=>
 cases(f.Kind==10)with
 |true=>
  unfold F_fc;simp only[QeS,Jg,XG,Vi,Vj,Vu];have a:∀v:Int,(v==0)=nb v 0 0:=by intro v;rw[XU,QaM,Vs];omega
  cases nb f.Ruling.Case 1 1048576 with
  |false=>rfl
  |true=>
   cases nb f.Ruling.Instance 1 2 with
   |false=>rfl
   |true=>
    simp only[Xh,Vj,XG,Vu];by_cases i:f.Ruling.Kind=1
    .rw[i];simp only[a];cases nb f.Ruling.Bib 0 0 with
     |false=>rfl
     |true=>cases nb f.Ruling.Position 0 0 with
      |false=>rfl
      |true=>cases nb f.Ruling.Amount 0 0<;>rfl
    by_cases j:f.Ruling.Kind=2
    .rw[j];simp only[a];cases nb f.Ruling.Bib 0 0 with
     |false=>rfl
     |true=>cases nb f.Ruling.Position 0 0 with
      |false=>rfl
      |true=>cases nb f.Ruling.Amount 0 0<;>rfl
    by_cases d:f.Ruling.Kind=3
    .rw[d];simp only[a,QbX,JK,Jg,XG];cases nb f.Ruling.Bib 1 9999 with
     |false=>rfl
     |true=>cases nb f.Ruling.Position 0 255 with
      |false=>rfl
      |true=>cases nb f.Ruling.Amount 1 1099511627776<;>rfl
    by_cases g:f.Ruling.Kind=4
    .rw[g];simp only[a,QbX,JK,Jg,XG];cases nb f.Ruling.Bib 1 9999 with
     |false=>rfl
     |true=>cases nb f.Ruling.Position 0 255 with
      |false=>rfl
      |true=>cases nb f.Ruling.Amount 1 64<;>rfl
    by_cases h:f.Ruling.Kind=5
    .rw[h];simp only[a,QbX,JK,Jg,XG];cases nb f.Ruling.Bib 1 9999 with
     |false=>rfl
     |true=>cases nb f.Ruling.Position 0 255 with
      |false=>rfl
      |true=>cases nb f.Ruling.Amount 0 0<;>rfl
    have e:nb f.Ruling.Kind 1 5=false:=by
     rw[VG,ne_eq,QaM];omega
    rw[e,Vt.2 i,Vt.2 j,Vt.2 d,Vt.2 g,Vt.2 h];rfl
 |false=>
 cases(f.Kind==11)with
 |true=>
  have e:nb (suspB f) 0 1=true:=by unfold suspB;cases f.Appeal.Suspends<;>rfl
  simp only[QeS,XG,Vi,Vj,e,Vu,Bool.and_true]
 |false=>
 cases(f.Kind==12)with
 |true=>rfl
 |false=>
 cases(f.Kind==13)with
 |true=>simp only[QlB,QgV,Jg,XG,Vi,Vj,QgH _ _ _ rfl,Option.some.injEq,Vu,Bool.and_true]
 |false=>rfl
theorem Qpw(n:Nat)(f:Fact):F_cc n f=some (onlyS f):=by
 rcases QhW f with k|⟨q,l,j,s,r,h,m,i,p,g,a,e,d⟩
 .rcases k with k|k|k|k|k|k|k|k|k|k|k|k|k
  all_goals
   obtain⟨Cr,No,At,Ki,S,R,B,Sy,Ha,Si,Pa,Re,Pr,Ru,Ap,Vo⟩:=f;subst k;rfl
 .unfold F_cc onlyS
  grind
theorem Qk1{f:Fact}(h:contR f=true):nb f.Kind 1 13=true:=by
 rw[QaM];rcases QhW f with k|⟨q,m,l,s,r,i,n,j,p,g,a,e,d⟩
 .omega
 grind[contR]
theorem Qod(f:Fact):headS f=(nb f.Kind 1 13&&(nb f.Crew 0 31&&(nb f.No 1 1048576&&(nb f.At 0 1099511627776&&true)))):=rfl
theorem Qi1(n:Nat)(f:Fact):F_az n f=some (bif validS f then 0 else 120):=by
 unfold F_az;rw[QlB,QgV,Jg,Qkt,Qpw,Qce,QjR,Qod];simp[XG];have a:= @Qk1 f
 grind
theorem Qpx(n:Nat)(f:Fact):F_cf n f=some (numsS f):=by
 unfold F_cf numsS;cases(f.Kind==1)with
 |true=>rfl
 |false=>
 cases(f.Kind==2)with
 |true=>rfl
 |false=>
 cases(f.Kind==3)with
 |true=>rfl
 |false=>
 cases(f.Kind==4)with
 |true=>rfl
 |false=>
 cases(f.Kind==5)with
 |true=>rfl
 |false=>
 cases(f.Kind==6)with
 |true=>rfl
 |false=>
 cases(f.Kind==7)with
 |true=>rfl
 |false=>
 cases(f.Kind==8)with
 |true=>rfl
 |false=>
 cases(f.Kind==9)with
 |true=>rfl
 |false=>
 cases(f.Kind==10)with
 |true=>rfl
 |false=>
 cases(f.Kind==11)with
 |true=>
  unfold suspB;cases f.Appeal.Suspends<;>rfl
 |false=>
 cases(f.Kind==13)with
 |true=>rfl
 |false=>rfl
theorem QkL(l:List Int)(hl:l.length<=1000):Ev (λn=>F_ew n l) (l.map mkV):=by
 refine Ea ?_ (Qa _);have e:∀(m:List Int) (a:List Value),m.foldl (λa x=>a++[mkV x]) a=a++m.map mkV:=by
  intro m
  induction m with
  |nil=>simp
  |cons x m g=>grind
 refine Et (QS l (λa x=>a++[mkV x]) [] (λa i=>(a,(i:Int))) (λa=>a) (by omega) rfl (λi x a d h=>?_) ?_) (by rw[e];rfl)
 .unfold F_kx F_gg;simp only[d.lt,d.ix,XG,d.nx];have f:a.length<=1000:=by grind
  rw[JW _ _ (by omega)];exact Qa _
 simp_all[F_kx,Qa]
theorem Qi0(n:Nat)(x:Int)(h:in63 x):F_cw n x=some (zigI x):=by
 obtain⟨a,d⟩:=h;unfold F_cw;simp only[Qcd];by_cases p:0<=x
 .rw[YH p,Qlr p d]
  grind
 .rw[Y3 p,Qls (by omega) a,Yb (show-9223372036854775808<=x+1 by omega) (by omega),Yb (by omega) (by omega)]
  grind
theorem QgC:∀(k v:Nat),v<128^(k+1)->k<=9->v<18446744073709551616->Ev (λn=>F_h n (v:Int)) (numN v):=by
 intro k
 induction k with
 |zero=>
  intro v d _ _;refine QY ?_;show Ev (λn=>B_h (F_h n) n v) _
  grind[B_h,Qac,Qa]
 |succ k f=>
  intro v d j h;refine QY ?_;show Ev (λn=>B_h (F_h n) n v) _;unfold B_h;by_cases q:v<128
  .grind[Qac,Qa]
  .rw[Y3 (show¬(v:Int)<128 by omega)];have a:v/128<128^(k+1):=by rw[Nat.div_lt_iff_lt_mul (by decide)];exact d
   have g:u64.wrap (Int.tdiv v 128)=v/128:=by
    rw[Qcd,Int.tdiv_eq_ediv_of_nonneg (by omega)];omega
   have i:u8.wrap (u64.wrap ((Int.tmod v 128)+128))=v%128+128:=by
    rw[Qki,Qcd,Int.tmod_eq_emod_of_nonneg (by omega)];omega
   rw[g,i,Qcl v,Vm (show 128<=v by omega)];refine Ea (f (v/128) a (by omega) (by omega)) ?_;have e:=Qi8 k (v/128) a;rw[Qdw _ _ (by simp;omega)];exact Qa _
theorem Qhf(v:Nat)(h:v<18446744073709551616):Ev (λn=>F_h n (v:Int)) (numN v):=QgC 9 v (by omega) (XQ _) h
theorem QkN(x:Int)(h:in63 x):Ev (λn=>F_k n (mkV x)) (oneB x):=by
 refine QY ?_;show Ev (λn=>B_k (F_k n) n (mkV x)) _;unfold B_k;have e:((mkV x).Kind==1)=true:=rfl;obtain⟨z,a,d⟩:=Qe6 x;refine Ea (Ez (Qi0 0 x h)) ?_;rw[a];refine Ea (Qhf z d) ?_
 grind[Qbq,Qdw,Qa,oneB]
theorem QkM(l:List Int)(hl:l.length<=1000)(h:∀x∈l,in63 x):Ev (λn=>F_k n (listV l)) (listB l):=by
 refine QY ?_;show Ev (λn=>B_k (F_k n) n (listV l)) _;unfold B_k;have e:((listV l).Kind==1)=false:=rfl;have t:((listV l).Kind==2)=false:=rfl;have r:(listV l).L=l.map mkV:=rfl;rw[e,t,r];have u:u64.wrap (((l.map mkV).length:Int))=((l.length:Nat):Int):=by
  rw[Qcd,XX];omega
 rw[u];refine Ea (Qhf l.length (by omega)) ?_;have q:=Qbq (show l.length<18446744073709551616 by omega);rw[Qdw _ _ (by simp;omega)];refine Ea (Qa _) ?_;refine Ea ?_ (Qa _);have d:∀(m:List Int) (a:List Int),((m.map mkV).foldl (λa (v:Value)=>a++oneB v.N) a).length<=a.length+11*m.length:=by
  intro m
  induction m with
  |nil=>intro a;simp
  |cons x m s=>
   grind[Qfq]
 have k:=QS (step:=λn=>F_jp n (listV l) (F_k n)) (l.map mkV) (λa (v:Value)=>a++oneB v.N) ([3]++numN l.length) (λa i=>(a,(i:Int))) (λa=>a) (by grind) rfl (λi x a f z=>?_) ?_
 .refine Et k ?_;have:∀(m:List Int) (a:List Int),(m.map mkV).foldl (λa (v:Value)=>a++oneB v.N) a=a++(m.map oneB).flatten:=by
   intro m
   induction m with
   |nil=>intro a;simp
   |cons x m s=>grind[mkV]
  rw[this];rfl
 .obtain⟨y,w,rfl⟩:=Xf.1 f.mem;have hal:=by
   have p:=d (l.take i) ([3]++numN l.length);rw[List.map_take, <- z,XY,Xw]at p;simp at p;omega
  unfold F_jp;have j:decide ((i:Int)<((listV l).L.length:Int))=true:=f.lt;have g:idx (listV l).L (i:Int)=some (mkV y):=f.ix;simp only[j,Vi,g,XG,f.nx];refine Ea (QkN y (h y w)) ?_;have p:=Qfq y;have:app a (oneB y)=some (a++oneB y):=by
   unfold app;have:Nat.ble (a.length+(oneB y).length) QB=true:=XP (XS (show _<=1000000 by omega) (by decide));rw[this];rfl
  rw[this];exact Qa _
 simp_all[F_jp,Qa]
theorem QgD(x:Int):Ev (λn=>F_ae n (mkV x)) true:=by
 refine QY ?_;exact Qa _
theorem Qib(l:List Int)(hl:l.length<=1000):Ev (λn=>F_ae n (listV l)) true:=by
 refine QY ?_;show Ev (λn=>B_ae (F_ae n) n (listV l)) _;unfold B_ae;have h:((listV l).Kind==1)=false:=rfl;have k:((listV l).Kind==2)=false:=rfl;have j:((listV l).Kind==3)=true:=rfl;refine Ea (v:=Ctl.cont ()) (Ew (λi=>(i:Int)) (l.map mkV).length rfl (λi f=>?_) ?_) (Qa _)
 .have a:=Ju (by grind) (XH f);obtain⟨y,g⟩:∃y,(l.map mkV)[i]=mkV y:=by grind
  unfold F_kv;have e:decide (i<((listV l).L.length:Int))=true:=a.lt;have d:idx (listV l).L i=some (l.map mkV)[i]:=a.ix;simp only[e,d,XG,a.nx];rw[g];exact Ea (QgD y) (Qa _)
 simp_all[F_kv,listV,Qa]
theorem Qie(x:Int):Ev (λn=>F_aa n (mkV x)) 0:=by
 refine QY ?_;exact Qa _
theorem Qid(l:List Int)(hl:l.length<=1000):Ev (λn=>F_aa n (listV l)) 1:=by
 refine QY ?_;show Ev (λn=>B_aa (F_aa n) n (listV l)) _;unfold B_aa;have h:((listV l).Kind != 3)=false:=rfl;refine Ea (v:=0) (Ew (λi=>(0,(i:Int))) (l.map mkV).length rfl (λi f=>?_) ?_) (Qa _)
 .have a:=Ju (by grind) (XH f);obtain⟨y,g⟩:∃y,(l.map mkV)[i]=mkV y:=by grind
  unfold F_li;have e:decide ((i:Int)<(listV l).L.length)=true:=a.lt;have d:idx (listV l).L i=some (l.map mkV)[i]:=a.ix;simp only[e,d,XG,a.nx];rw[g];exact Ea (Qie y) (Qa _)
 simp_all[F_li,listV,Qa]
theorem QnY(f:Fact):(numsS f).length<=12:=by
 unfold numsS;cases(f.Kind==1)with
 |true=>simp
 |false=>
 cases(f.Kind==2)with
 |true=>simp
 |false=>
 cases(f.Kind==3)with
 |true=>simp
 |false=>
 cases(f.Kind==4)with
 |true=>simp
 |false=>
 cases(f.Kind==5)with
 |true=>simp
 |false=>
 cases(f.Kind==6)with
 |true=>exact XO rfl
 |false=>
 cases(f.Kind==7)with
 |true=>exact XO rfl
 |false=>
 cases(f.Kind==8)with
 |true=>exact XO rfl
 |false=>
 cases(f.Kind==9)with
 |true=>exact XO rfl
 |false=>
 cases(f.Kind==10)with
 |true=>exact XO rfl
 |false=>
 cases(f.Kind==11)with
 |true=>exact XO rfl
 |false=>cases(f.Kind==13)<;>exact XO rfl
theorem Qdp(f:Fact):Ev (λn=>F_bt n f) (encF f):=by
 refine Ea (Qcc (Qa _) λn=>Qi1 n f) ?_;cases a:validS f with
 |false=>
  unfold encF;rw[a];exact Qa _
 |true=>
  rw[QdY a];refine Ea (Qcc (Qa _) λn=>Qpx n f) ?_;have d:=QnY f;refine Ea (QkL _ (by omega)) (Ea (v:=(listB (numsS f),0)) ?_ (Qa _));exact Ea (Ea (Qib _ (by omega)) (Ea (Qid _ (by omega)) (Qa _))) (Ea (QkM _ (by omega) (Qfr a)) (Qa _))
theorem QlJ:∀a b:List UInt8,Op.bytesLess a b=decide (Lib.compareBytes a b<0)
 |[],[]=>rfl
 |[],_::_=>rfl
 |_::_,[]=>rfl
 |a::x,b::y=>by
  unfold Op.bytesLess Lib.compareBytes;by_cases h:a<b
  .grind
  .rw[Vl h,Y3 h];by_cases h2:b<a
   .grind
   .rw[Vl h2];have:a=b:=by
     grind
    rw[this,beq_self_eq_true,QlJ x y];rfl
theorem QjT:∀a b:List UInt8,Lib.compareBytes a b= -1\/Lib.compareBytes a b=0\/Lib.compareBytes a b=1
 |[],[]=>.inr (.inl rfl)
 |[],_::_=>.inl rfl
 |_::_,[]=>.inr (.inr rfl)
 |a::x,b::y=>by
  unfold Lib.compareBytes;split
  .omega
  .split
   .omega
   .exact QjT x y
theorem QcE(f g:Fact):Ev (λn=>F_dm n f g) (cmpF f g):=by
 refine QY (QY (QY (QY ?_)));unfold F_dm;rw[Qgg];have a:∀n,F_fk n f g 0=(bif decide (f.At<g.At)then some (.done (.done (-1)))else bif decide (g.At<f.At)then some (.done (.done 1))else some (.cont 1)):=λn=>rfl;have d:∀n,F_fk n f g 1=(bif decide (f.Crew<g.Crew)then some (.done (.done (-1)))else bif decide (g.Crew<f.Crew)then some (.done (.done 1))else some (.cont 2)):=λn=>rfl;have j:∀n,F_fk n f g 2=(bif decide (f.No<g.No)then some (.done (.done (-1)))else bif decide (g.No<f.No)then some (.done (.done 1))else some (.cont 3)):=λn=>rfl;have i:∀n,F_fk n f g 3=some (.done (.cont ())):=λn=>rfl;simp[iter,a];unfold cmpI;cases decide (f.At<g.At)with
 |true=>exact Qa _
 |false=>
 cases decide (g.At<f.At)with
 |true=>exact Qa _
 |false=>
 simp[Vj,d];cases decide (f.Crew<g.Crew)with
 |true=>exact Qa _
 |false=>
 cases decide (g.Crew<f.Crew)with
 |true=>exact Qa _
 |false=>
 simp[Vj,j];cases decide (f.No<g.No)with
 |true=>exact Qa _
 |false=>
 cases decide (g.No<f.No)with
 |true=>exact Qa _
 |false=>
 simp[Vj,i,XG];refine Ea (Ev.shift (Ev.shift (Ev.shift (Ev.shift (Qdp f))))) (Ea (Ev.shift (Ev.shift (Ev.shift (Ev.shift (Qdp g))))) ?_);unfold cmpB;rw[QlJ];rcases QjT ((encF f).1.map Yh) ((encF g).1.map Yh)with h|h|h
 .rw[h];exact Qa _
 .have e:=QoS h;rw[h,e,beq_self_eq_true];exact Qa _
 .have:((encF f).1.map Yh==(encF g).1.map Yh)=false:=by
   rw[Vt];intro e;rw[e,cb_ok.refl]at h;cases h
  rw[h,this];exact Qa _
def leadC(x:Fact):List Fact->Nat
 |[]=>0
 |y::r=>bif decide (cmpF y x<0)then leadC x r+1 else 0
theorem Qjf(x:Fact):∀l:List Fact,leadC x l<=l.length
 |[]=>XQ _
 |y::r=>by
  unfold leadC;have:=Qjf x r
  grind
theorem Qg5(x:Fact):∀l:List Fact,insC x l=if l[leadC x l]?=some x then l else l.take (leadC x l)++x::l.drop (leadC x l)
 |[]=>by simp[insC]
 |y::r=>by
  unfold insC leadC;cases decide (cmpF y x<0)with
  |true=>
   simp only[Vi];rw[Qg5 x r]
   grind
  |false=>
   simp
theorem QpR(l:List Fact)(hl:l.length<=1048576)(a:List Fact)(p:a.length<=1048576){i:Nat}{x:Fact}(h:At l i x):
  Ev (λn=>iter (F_dp n l (a,(i:Int))) n 0) ((leadC x a:Nat):Int):=by
 have loop:∀(r:List Fact) (j:Nat),a.drop j=r->j<=a.length->EvI (λn=>F_dp n l (a,i)) j (j+leadC x r):=by
  intro r
  induction r with
  |nil=>
   intro j e g;refine Ei ?_;unfold F_dp;simp only[Q9 e g,Vj];exact Qa _
  |cons y r k=>
   intro j e g;obtain⟨d,f⟩:=QC (by omega) e;have m:=d.lt';unfold leadC;cases q:decide (cmpF y x<0)with
   |true=>
    refine Eu ?_ ((k (j+1) f (by omega)).eq (by simp[Vi];omega));unfold F_dp;simp only[d.lt,d.ix,h.ix,XG,d.nx];refine Ea (Ea (QcE y x) ((Qa _).eq q)) (Qa _)
   |false=>
    refine Ei ?_;unfold F_dp;simp only[d.lt,d.ix,h.ix,XG];refine Ea (Ea (QcE y x) ((Qa _).eq q)) (Qa _)
 have:=(loop a 0 rfl (XR _)).ev
 grind
theorem QfG(x:Fact):∀l:List Fact,(insC x l).length<=l.length+1
 |[]=>by simp[insC]
 |y::r=>by
  unfold insC;have:=QfG x r
  grind
theorem Qe1{α:Type}(l m:List α)(h:l.length+m.length<=4000000):app l m=some (l++m):=by
 unfold app;have:Nat.ble (l.length+m.length) QB=true:=XP (XS h (by decide))
 grind
theorem Qb5(l:List Fact)(hl:l.length<=1048575):Ev (λn=>F_ar n l) (canonS l):=by
 refine Ea (v:=canonS l) ?_ (Qa _);refine QS l (λa x=>bif validS x then insC x a else a) [] (λa i=>(a,(i:Int))) (λa=>a) (by omega) rfl (λi x a d k=>?_) ?_
 .have f:a.length<=i:=by
   have:∀(m:List Fact) (a:List Fact),(m.foldl (λa x=>bif validS x then insC x a else a) a).length<=a.length+m.length:=by
    intro m
    induction m with
    |nil=>intro a;simp
    |cons x m h=>
     grind[QfG]
   grind
  have g:=d.lt';unfold F_kn;simp only[d.lt,Vi,d.ix,XG,d.nx,Qi1];refine Ea ?_ (Qa _);cases j:validS x with
  |false=>exact Qa _
  |true=>
   refine Ea (QpR l (by omega) a (by omega) d) ?_;have e:=Qjf x a;refine Ea (v:=decide (a[leadC x a]?=some x)) ?_ ?_
   .by_cases q:leadC x a<a.length
    .have hg:=XH q;rw[YH (show((leadC x a:Nat):Int)<(a.length:Int)by omega),YL hg,hg];refine(Qa _).eq ?_;rw[XU];simp
    .rw[Y3 (show¬((leadC x a:Nat):Int)<(a.length:Int)by omega)];refine(Qa _).eq ?_;rw[XL (by omega)];simp
   .rw[Qg5 x a];by_cases q:a[leadC x a]?=some x
    .rw[YH q,Vm q];exact Qa _
    .rw[Y3 q,Vl q];rw[Qkn a e,Qfd a e];simp only[XG];rw[Qe1 [] _ (by simp;omega)];simp only[XG];rw[Qe1 _ [x] (by simp;omega)];simp only[XG];rw[Qe1 _ _ (by simp;omega)];refine(Qa _).eq ?_;simp
 simp_all[F_kn,Qa]
theorem Qmo{α:Type}[DecidableEq α](l m:List α)(step:Nat->Int->Option (Ctl Int (Ctl Unit Bool)))(hl:l.length<=4611686018427387904)
  (p:∀n s,step n s=(bif decide (s<(l.length:Int))then(idx l s).bind λx=>(idx m s).bind λy=>(bif (x != y)then some (.done (.done false))else some (.cont (i64.wrap (s+1))))else some (.done (.cont ())))):
  Ev (λn=>(bif ((l.length:Int) != (m.length:Int))then some false else(Go.Sw.iter (step n) n 0:Option (Ctl Unit Bool)).bind λb11=>match b11 with|.cont sb11=>(some true)|.done sb11=>some sb11)) (decide (l=m)):=by
 by_cases h:l.length=m.length
 .rw[show(l.length != (m.length:Int))=false by grind];have loop:∀(r d:List α) (i:Nat),l.drop i=r->m.drop i=d->i<=l.length->EvI step i (bif decide (r=d)then Ctl.cont ()else Ctl.done false):=by
   intro r
   induction r with
   |nil=>
    grind[EvI.done,Qa,Q9]
   |cons x r q=>
    intro d i u g w;obtain⟨a,j⟩:=QC hl u;have t:=a.lt';cases d with
    |nil=>
     have h1:=Xq.1 g;omega
    |cons y d=>
     obtain⟨k,f⟩:=QC (by omega) g;by_cases e:x=y
     .subst e;refine Eu ?_ ((q d (i+1) j f (by omega)).eq ?_)
      .refine Qcc (Qa _) λn=>?_;rw[p,a.lt,a.ix,k.ix,Vi,XG,XG,a.nx];simp
      .simp
     .refine Ei (Qcc (Qa _) λn=>?_);rw[p,a.lt,a.ix,k.ix,Vi,XG,XG,bne_iff_ne.2 e];simp[e]
  refine Ea (loop l m 0 rfl rfl (XR _)).ev ?_;cases decide (l=m)<;>exact Qa _
 .rw[show(l.length != (m.length:Int))=true by rw[bne_iff_ne];omega];refine(Qa _).eq ?_;rw[Y3 λe=>h (by rw[e])]
theorem QeH{c:Course}(h:Course.wf c):CourseOk c:=by
 obtain⟨l,⟨r,i⟩,⟨m,t⟩,⟨f,d⟩,⟨q,n⟩,⟨g,e⟩,⟨p,j⟩,⟨k,s⟩,_⟩:=h;exact⟨l,r,λx a=>(i x a).1,m,f,λx a=>(d x a).1,λx a=>(d x a).2.2.2.1.1,q,λx a=>(n x a).1,g,λx a=>(e x a).1,p,λx a=>(j x a).1,k⟩
theorem Qgp{c:Course}(h:Course.wf c):PartsOk c:=by
 obtain⟨_,_,_,⟨f,e⟩,_⟩:=h;exact⟨λd a=>(e d a).2.1.1,λd a=>(e d a).2.1.2⟩
theorem QhG{c:Course}(h:Course.wf c):c.Ties.length<=1048576/\ ∀x∈c.Ties,Step.wf x:=by
 obtain⟨_,_,_,_,_,_,_,_,a,_⟩:=h;exact a
theorem JG(l:List Fact):(canonS l).length<=l.length:=by
 have:∀(m a:List Fact),(m.foldl (λa x=>bif validS x then insC x a else a) a).length<=a.length+m.length:=by
  intro m
  induction m with
  |nil=>simp
  |cons x m d=>
   grind[QfG]
 have:=this l [];simpa[canonS]using this
def rulB(k i:Int)(f:Fact):Bool:=(f.Kind==10)&&((f.Ruling.Case==k)&&(f.Ruling.Instance==i))
def repB(k:Int)(f:Fact):Bool:=(f.Kind==8)&&(f.Report.Case==k)
def appB(k:Int)(f:Fact):Bool:=(f.Kind==11)&&(f.Appeal.Suspends&&(f.Appeal.Case==k))
def caseN(f:Fact):Option Int:=bif f.Kind==10 then some f.Ruling.Case else bif f.Kind==8 then some f.Report.Case else bif (f.Kind==11)&&f.Appeal.Suspends then some f.Appeal.Case else none
def fileOf(P:List Fact)(k:Int):Ue:=⟨k,P.filter (rulB k 0),P.filter (rulB k 1),P.filter (rulB k 2),(P.filter (repB k)).map (·.Report),P.any (appB k)⟩
theorem QaE{k i:Int}{f:Fact}(h:rulB k i f=true):caseN f=some k:=by
 simp_all[rulB,caseN]
theorem QgT{k:Int}{f:Fact}(h:repB k f=true):caseN f=some k:=by
 simp_all[repB,caseN]
theorem Qhp{k:Int}{f:Fact}(h:appB k f=true):caseN f=some k:=by
 simp_all[appB,caseN]
theorem Qa1{α:Type}{p:α->Bool}{l:List α}(h:∀x∈l,p x=false):l.filter p=[]:=by
 simp_all
theorem Qbx{b:Bool}(h:¬b=true):b=false:=by grind
theorem QkI{P:List Fact}{k:Int}(h:∀f∈P,caseN f≠some k):fileOf P k=QbO k:=by
 unfold fileOf QbO;rw[Qa1 λf a=>Qbx λq=>h f a (QaE q),Qa1 λf a=>Qbx λq=>h f a (QaE q),Qa1 λf a=>Qbx λq=>h f a (QaE q),
  Qa1 λf a=>Qbx λq=>h f a (QgT q),show P.any (appB k)=false from List.any_eq_false.2 λf a q=>h f a (Qhp q)]
 rfl
theorem Yg{α:Type}(p:α->Bool)(l:List α)(x:α):(l++[x]).filter p=bif p x then l.filter p++[x]else l.filter p:=by
 grind
theorem Qdn{P:List Fact}{f:Fact}{k:Int}(h:caseN f≠some k):fileOf (P++[f]) k=fileOf P k:=by
 unfold fileOf;rw[Yg,Yg,Yg,Yg,Qbx λq=>h (QaE q),Qbx λq=>h (QaE q),Qbx λq=>h (QaE q),Qbx λq=>h (QgT q),List.any_append,List.any_cons,List.any_nil,
  Qbx λq=>h (Qhp q)]
 simp
structure FilesOf (P:List Fact) (fs:List Ue):Prop where
 num:(fs.map (·.number)).Nodup
 each:∀x∈fs,x=fileOf P x.number
 mem:∀k,k∈fs.map (·.number)↔ ∃f∈P,caseN f=some k
theorem FilesOf.nil:FilesOf [] []:=⟨List.nodup_nil,(λ_ h=>by cases h),λk=>by simp⟩
theorem FilesOf.skip{P:List Fact}{fs:List Ue}{f:Fact}(h:FilesOf P fs)(d:caseN f=none):FilesOf (P++[f]) fs:=by
 refine⟨h.num,λx a=>?_,λk=>?_⟩
 .rw[Qdn (by grind)];exact h.each x a
 .rw[h.mem k]
  grind
theorem FilesOf.put{P:List Fact}{fs:List Ue}{f:Fact}{k:Int}{g:Ue->Ue}(h:FilesOf P fs)(u:caseN f=some k)(B:∀x,(g x).number=x.number)(hg:g (fileOf P k)=fileOf (P++[f]) k):FilesOf (P++[f]) (QbQ (Qae fs k) k g):=by
 have s:∀x∈Qae fs k,x=fileOf P x.number:=by
  by_cases q:∃x∈fs,x.number=k
  .rw[Qdl q];exact h.each
  .have i:=λx d e=>q ⟨x,d,e⟩;rw[Qb3 i];intro x d;rcases Vx.1 d with z|z
   .exact h.each x z
   .rw[Vv.1 z];refine(QkI λa n e=>?_).symm;obtain⟨x,d,G⟩:=Xf.1 ((h.mem k).2 ⟨a,n,e⟩)
    grind
 have r:((Qae fs k).map (·.number)).Nodup:=by
  by_cases q:∃x∈fs,x.number=k
  .rw[Qdl q];exact h.num
  .have i:=λx d e=>q ⟨x,d,e⟩;rw[Qb3 i,Xg,List.nodup_append];refine⟨h.num,by simp,?_⟩;intro a n b E;obtain⟨x,d,rfl⟩:=Xf.1 n;have hb':=by simpa  using E
   rw[hb'];exact i x d
 have p:∀j,j∈(Qae fs k).map (·.number)↔j=k\/j∈fs.map (·.number):=by
  intro j;by_cases q:∃x∈fs,x.number=k
  .rw[Qdl q];constructor
   .exact .inr
   .rintro(rfl|z)
    .obtain⟨x,d,e⟩:=q;exact Xf.2 ⟨x,d,e⟩
    .exact z
  .rw[Qb3 λx d e=>q ⟨x,d,e⟩,Xg,Vx];simp[Vd,Ve,Vv];exact Or.comm
 have l:(QbQ (Qae fs k) k g).map (·.number)=(Qae fs k).map (·.number):=by
  unfold QbQ;rw[List.map_map];refine List.map_congr_left λx _=>?_;show(bif decide (x.number=k)then g x else x).number=x.number;cases decide (x.number=k)with
  |true=>exact B x
  |false=>rfl
 refine⟨by rw[l];exact r,λx d=>?_,λj=>?_⟩
 .obtain⟨y,F,rfl⟩:=Xf.1 d;have w:=s y F;cases q:decide (y.number=k)with
  |true=>
   have i:=Vp q;show g y=fileOf _ (g y).number;rw[B,i, <- hg, <- i, <- w]
  |false=>
   have i:=Vq q;rw[Qdn (by rw[u];intro z;cases z;exact i rfl)];exact w
 .rw[l,p,h.mem j];constructor
  .rintro(rfl|⟨a,t,m⟩)
   .exact⟨f,by simp,u⟩
   .exact⟨a,by simp[t],m⟩
  .rintro⟨a,t,m⟩;rcases Vx.1 t with z|z
   .exact .inr ⟨a,z,m⟩
   .rw[Vv.1 z,u]at m;cases m;exact .inl rfl
theorem FilesOf.room{P:List Fact}{fs:List Ue}{k:Int}(h:FilesOf P fs)(hl:P.length<1048576):Qfo (Qae fs k)=true:=by
 have d:∀n,n<=P.length->Nat.ble (n+1) QB=true:=λn e=>QeW (by omega);have one:∀j,(λx=>Nat.ble (x.r0.length+1) QB&&Nat.ble (x.r1.length+1) QB&&Nat.ble (x.r2.length+1) QB&&Nat.ble (x.reports.length+1) QB) (fileOf P j)=true:=by
  simp_all[fileOf,List.length_filter_le]
 refine Xs.2 λx a=>?_;by_cases q:∃x∈fs,x.number=k
 .rw[Qdl q]at a;rw[h.each x a];exact one _
 .rw[Qb3 (by grind)]at a;rcases Vx.1 a with z|z
  .rw[h.each x z];exact one _
  grind[QbO]
theorem QbP{f:Fact}(h:validS f=true):headS f=true/\contR f=true/\onlyS f=f:=by
 simp_all[Qce,QjR]
theorem Qmt{f:Fact}(h:validS f=true)(k:f.Kind=10):(1<=f.Ruling.Case/\(f.Ruling.Instance=1\/f.Ruling.Instance=2))/\(0<=f.Ruling.Bib/\f.Ruling.Bib<=9999)/\f.Report=Up.Report:=by
 obtain⟨_,d,m⟩:=QbP h;have e:f.Report=(onlyS f).Report:=by rw[m]
 have n:(onlyS f).Report=bif f.Kind==8 then f.Report else Up.Report:=rfl
 rw[n,k]at e;refine⟨?_,?_,e⟩
 .unfold contR at d;rw[k]at d;have g:(true&&(nb f.Ruling.Case 1 1048576&&(nb f.Ruling.Instance 1 2&&(nb f.Ruling.Kind 1 5&&(bif (f.Ruling.Kind==1)||(f.Ruling.Kind==2)then nb f.Ruling.Bib 0 0&&(nb f.Ruling.Position 0 0&&(nb f.Ruling.Amount 0 0&&true))else bif f.Ruling.Kind==3 then nb f.Ruling.Bib 1 9999&&(nb f.Ruling.Position 0 255&&(nb f.Ruling.Amount 1 1099511627776&&true))else bif f.Ruling.Kind==4 then nb f.Ruling.Bib 1 9999&&(nb f.Ruling.Position 0 255&&(nb f.Ruling.Amount 1 64&&true))else nb f.Ruling.Bib 1 9999&&(nb f.Ruling.Position 0 255&&(nb f.Ruling.Amount 0 0&&true)))))))=true:=d;simp only[XT,QaM]at g;omega
 .unfold contR at d;rw[k]at d;have g:(true&&(nb f.Ruling.Case 1 1048576&&(nb f.Ruling.Instance 1 2&&(nb f.Ruling.Kind 1 5&&(bif (f.Ruling.Kind==1)||(f.Ruling.Kind==2)then nb f.Ruling.Bib 0 0&&(nb f.Ruling.Position 0 0&&(nb f.Ruling.Amount 0 0&&true))else bif f.Ruling.Kind==3 then nb f.Ruling.Bib 1 9999&&(nb f.Ruling.Position 0 255&&(nb f.Ruling.Amount 1 1099511627776&&true))else bif f.Ruling.Kind==4 then nb f.Ruling.Bib 1 9999&&(nb f.Ruling.Position 0 255&&(nb f.Ruling.Amount 1 64&&true))else nb f.Ruling.Bib 1 9999&&(nb f.Ruling.Position 0 255&&(nb f.Ruling.Amount 0 0&&true)))))))=true:=d;simp only[XT]at g;obtain⟨_,_,_,_,a⟩:=g;cases l:((f.Ruling.Kind==1)||(f.Ruling.Kind==2))with
  |true=>rw[l]at a;simp[Vi,XT,QaM]at a;omega
  |false=>
   rw[l,Vj]at a;cases i:(f.Ruling.Kind==3)with
   |true=>rw[i]at a;simp[Vi,XT,QaM]at a;omega
   |false=>
    rw[i,Vj]at a;cases j:(f.Ruling.Kind==4)with
    |true=>rw[j]at a;simp[Vi,XT,QaM]at a;omega
    |false=>rw[j]at a;simp[Vj,XT,QaM]at a;omega
theorem Qlz{f:Fact}(k:f.Kind=10)(j:Int):rulB f.Ruling.Case j f=(f.Ruling.Instance==j):=by
 unfold rulB;rw[k];simp
theorem Qh3{P:List Fact}{fs:List Ue}{f:Fact}(h:FilesOf P fs)(hl:P.length<1048576)(s:validS f=true):∃fs',filesStep fs f=some fs'/\FilesOf (P++[f]) fs':=by
 unfold filesStep;cases a:(f.Kind==10)with
 |true=>
  have k:=by simpa using a
  obtain⟨⟨_,n⟩,_⟩:=Qmt s k;have l:caseN f=some f.Ruling.Case:=by unfold caseN;rw[a];rfl
  have r:repB f.Ruling.Case f=false:=by unfold repB;rw[k];rfl
  have m:appB f.Ruling.Case f=false:=by unfold appB;rw[k];rfl
  simp only[h.room hl];rcases n with n|n
  .refine⟨QbQ (Qae fs f.Ruling.Case) f.Ruling.Case λx=>{x with r1:=x.r1++[f]},by rw[n];rfl,h.put l (λx=>rfl) ?_⟩
   grind[fileOf,Qlz]
  .refine⟨QbQ (Qae fs f.Ruling.Case) f.Ruling.Case λx=>{x with r2:=x.r2++[f]},by rw[n];rfl,h.put l (λx=>rfl) ?_⟩
   grind[fileOf,Qlz]
 |false=>
  have g:∀j i,rulB j i f=false:=λj i=>by unfold rulB;rw[a];rfl
  cases e:(f.Kind==8)with
  |true=>
   have k:=by simpa using e
   have l:caseN f=some f.Report.Case:=by unfold caseN;rw[a,e];rfl
   have t:repB f.Report.Case f=true:=by unfold repB;rw[k];simp
   have m:appB f.Report.Case f=false:=by unfold appB;rw[k];rfl
   simp only[h.room hl];refine⟨QbQ (Qae fs f.Report.Case) f.Report.Case λx=>{x with reports:=x.reports++[f.Report]},rfl,h.put l (λx=>rfl) ?_⟩;unfold fileOf;rw[Yg,Yg,Yg,Yg,g,g,g,t,List.any_append,List.any_cons,List.any_nil,m];simp
  |false=>
   have r:∀j,repB j f=false:=λj=>by unfold repB;rw[e];rfl
   cases d:(f.Kind==11)with
   |true=>
    cases p:f.Appeal.Suspends with
    |true=>
     have l:caseN f=some f.Appeal.Case:=by unfold caseN;rw[a,e,d,p];rfl
     have q:appB f.Appeal.Case f=true:=by unfold appB;rw[d,p];simp
     refine⟨QbQ (Qae fs f.Appeal.Case) f.Appeal.Case λx=>{x with appeal:=true},rfl,h.put l (λx=>rfl) ?_⟩;unfold fileOf;rw[Yg,Yg,Yg,Yg,g,g,g,r,List.any_append,List.any_cons,List.any_nil,q];simp
    |false=>exact⟨_,rfl,h.skip (by unfold caseN;rw[a,e,d,p];rfl)⟩
   |false=>exact⟨_,rfl,h.skip (by unfold caseN;rw[a,e,d];rfl)⟩
def SameF(l m:List Fact):Prop:=∀f,validS f=true->(f∈l↔f∈m)
theorem SameF.symm{l m:List Fact}(h:SameF l m):SameF m l:=λf hf=>(h f hf).symm
theorem SameF.filter{l m:List Fact}(h:SameF l m)(p:Fact->Bool):SameF (l.filter p) (m.filter p):=λf hf=>by rw[Xe,Xe,h f hf]
def repStep(k:Int)(r f:Fact):Fact:=bif validS f&&repB k f then(bif (r.Kind==0)||decide (cmpF f r<0)then f else r)else r
structure RepOf (k:Int) (P:List Fact) (r:Fact):Prop where
 none:(r.Kind==0)=true->r=Up/\ ∀f∈P,validS f=true->repB k f=false
 some:(r.Kind==0)=false->r∈P/\validS r=true/\repB k r=true/\ ∀f∈P,validS f=true->repB k f=true->¬cmpF f r<0
theorem QgS{k:Int}{f:Fact}(h:repB k f=true):(f.Kind==0)=false:=by
 simp_all[repB]
theorem RepOf.nil(k:Int):RepOf k [] Up:=⟨(by simp),λh=>by cases h⟩
theorem RepOf.step{k:Int}{P:List Fact}{r f:Fact}(h:RepOf k P r):RepOf k (P++[f]) (repStep k r f):=by
 unfold repStep;cases q:validS f&&repB k f with
 |false=>
  have n:¬(validS f=true/\repB k f=true):=λz=>by grind
  refine⟨λz=>⟨(h.none z).1,λg i j=>?_⟩,λz=>?_⟩
  .rcases Vx.1 i with w|w
   .exact(h.none z).2 g w j
   grind
  .obtain⟨a,b,c,d⟩:=h.some z
   grind
 |true=>
  rw[XT]at q;simp[Vi];cases z:(r.Kind==0)with
  |true=>
   simp[Bool.true_or,Vi];refine⟨λw=>(by rw[QgS q.2]at w;cases w),λ_=>⟨by simp,q.1,q.2,λg i j l=>?_⟩⟩;rcases Vx.1 i with w|w
   .rw[(h.none z).2 g w j]at l;cases l
   .rw[Vv.1 w];have:=Ql7.refl f;omega
  |false=>
   simp[Bool.false_or];obtain⟨a,b,c,d⟩:=h.some z;cases y:decide (cmpF f r<0)with
   |true=>
    have m:=Vp y;simp[Vi];refine⟨λw=>(by rw[QgS q.2]at w;cases w),λ_=>⟨by simp,q.1,q.2,λg i j l=>?_⟩⟩;rcases Vx.1 i with w|w
    .intro e;exact d g w j l (Ql7.trans _ _ _ e m)
    .rw[Vv.1 w];have:=Ql7.refl f;omega
   |false=>
    have m:=Vq y;simp[Vj];refine⟨λw=>(by grind),λ_=>⟨by simp[a],b,c,λg i j l=>?_⟩⟩
    grind
section
variable {α β:Type}
theorem Qbu(q:α->Bool):∀(l a:List α),l.foldl (λa x=>bif q x then a++[x]else a) a=a++l.filter q
 |[],a=>by simp
 |x::l,a=>by
  rw[XB,Qbu q l,Xd]
  grind
theorem Qlo{step:Nat->List α×Int->Option (Ctl (List α×Int) (List α))}(l:List α)(q:α->Bool)(hl:l.length<=1048576)
  (h:∀i x a,At l i x->a.length<=i->Ev (λn=>step n (a,(i:Int))) (.cont ((bif q x then a++[x]else a),((i+1:Nat):Int))))
  (f:∀a,Ev (λn=>step n (a,(l.length:Int))) (.done a)):Ev (λn=>Go.Sw.iter (step n) n ([],0)) (l.filter q):=by
 have e:l.filter q=l.foldl (λa x=>bif q x then a++[x]else a) []:=by rw[Qbu];rfl
 rw[e];refine QS l (λa x=>bif q x then a++[x]else a) [] (λa i=>(a,(i:Int))) (λa=>a) (by omega) rfl (λi x a d g=>h i x a d ?_) (f _);rw[g,Qbu,Vb]
 grind
theorem Qg3{l:List α}[DecidableEq (List α)](hl:l.length<=1048576):isNil l (some ([]:List α)) ((app ([]:List α) l).bind λx=>some x)=some l:=by
 have:app [] l=some l:=by rw[Qdu _ _ (by simp;omega)];rfl
 unfold isNil
 grind
theorem Qpg{F:Nat->α->α->Option β}{V:α->α->β}(l:List α)(h:∀x∈l,∀y∈l,Ev (λn=>F n x y) (V x y)):∃N,∀n,N<=n->∀x∈l,∀y∈l,F n x y=some (V x y):=by
 obtain⟨N,a⟩:=QaQ (F:=λn p=>F n p.1 p.2) (V:=λp=>V p.1 p.2) (l.flatMap λx=>l.map λy=>(x,y)) (by
  grind)
 exact⟨N,λn d x e y f=>a n d (x,y) (by grind)⟩
def ltC(c:α->α->Int)(x y:α):Bool:=decide (c x y<0)
theorem Qcm{c:α->α->Int}(d:CmpOK c)(l:List α):QeB (ltC c) l:=by
 refine⟨λx _=>?_,λx _ y _ z _ f g=>?_,λx _ y _ z _ f g=>?_⟩
 .have:=d.refl x;exact Vr (by omega)
 .have f:=Vp f;have g:=Vp g;exact Vn (d.trans x y z f g)
 .have f:=Vq f;have g:=Vq g;refine Vr λh=>?_;have a:=d.swap x y;have b:=d.swap y z;by_cases e:c x y=0
  .rw[d.eqt x y z e]at h;exact g h
  .by_cases i:c y z=0
   .rw[<- d.eqr x i]at h;exact f h
   .have j:=d.trans z y x (by omega) (by omega);have:=d.swap x z;omega
theorem Qmn[DecidableEq α]{f:Nat->α->α->Option Int}{l:List α}{c:α->α->Int}(hl:l.length<=1048576)(r:∀x∈l,∀y∈l,Ev (λn=>f n x y) (c x y))(a:CmpOK c)(m:∀x∈l,∀y∈l,c x y=0->x=y):
  Ev (λn=>QbT (f n) l) (YX (ltC c) l):=by
 obtain⟨N,q⟩:=Qpg l r;refine⟨N,λn p=>?_⟩;have h:=q n p;have k:=QnM (XO (QeW hl)) c h (λx _=>by have:=a.refl x;omega) (λx _ y _ z _=>a.trans x y z) (λx d y e z s g j=>by
   have:=(Qcm a l).ntrans x d y e z s (Vr g) (Vr j);exact Vq this) (λx d y e g j=>m x d y e (by have:=a.swap x y;omega))
 show QbT (f n) l=some (YX (ltC c) l);rw[k];congr 1;obtain⟨_,_,t,_,_⟩:=Qc3 k;have i:∀x∈l,∀y∈l,ltO (f n) x y=ltC c x y:=λx d y e=>by unfold ltO ltC;grind
 refine JD ((Qz _ l).trans (Qz _ l).symm) (λx d y e g j=>?_) ?_ (QX (Qcm a l))
 .grind[Qz]
 grind[List.Pairwise.imp_of_mem,QX,Qz]
end
def ddA(p:Fact):List Fact->List Fact
 |[]=>[]
 |x::r=>bif cmpF x p==0 then ddA x r else x::ddA x r
def dd:List Fact->List Fact
 |[]=>[]
 |x::r=>x::ddA x r
theorem QoO{x p:Fact}{r:List Fact}(q:(cmpF x p==0)=true):ddA p (x::r)=ddA x r:=by
 simp_all[ddA]
theorem QoN{x p:Fact}{r:List Fact}(q:(cmpF x p==0)=false):ddA p (x::r)=x::ddA x r:=by
 show(bif cmpF x p==0 then ddA x r else x::ddA x r)=_;rw[q];rfl
theorem QoM:∀(r:List Fact) (p:Fact),(∀x∈r,¬cmpF x p<0)->r.Pairwise (λa b=>¬cmpF b a<0)->(∀x∈p::r,validS x=true)->(ddA p r).Pairwise ltF/\(∀x∈ddA p r,ltF p x)/\ ∀x,x∈p::ddA p r↔x∈p::r
 |[],p,_,_,_=>⟨List.Pairwise.nil,(λ_ h=>by cases h),λ_=>Iff.rfl⟩
 |y::r,p,h1,h2,h3=>by
  rw[Xc]at h2;obtain⟨i1,i2,i3⟩:=QoM r y h2.1 h2.2 (by grind);have hy:=h1 y (by simp);unfold ddA;cases q:cmpF y p==0 with
  |true=>
   have q':=by simpa using q
   have e:=QeZ (h3 y (by simp)) (h3 p (by simp)) q'
   grind
  |false=>
   have q':=by simpa using q
   have f:ltF p y:=by
    have:=Ql7.swap y p;unfold ltF;omega
   simp only[Vj];refine⟨(by simp_all),λx d=>?_,λx=>?_⟩
   .rcases X0.1 d with rfl|d
    .exact f
    .exact QhU _ _ _ f (i2 x d)
   grind
theorem dd_ok{S:List Fact}(h:S.Pairwise λa b=>¬cmpF b a<0)(e:∀x∈S,validS x=true):(dd S).Pairwise ltF/\ ∀x,x∈dd S↔x∈S:=by
 cases S with
 |nil=>exact⟨List.Pairwise.nil,λ_=>Iff.rfl⟩
 |cons a r=>
  rw[Xc]at h;obtain⟨f,g,d⟩:=QoM r a h.1 h.2 e;exact⟨Xc.2 ⟨g,f⟩,d⟩
theorem Qh9(x y:Fact):Ev (λn=>F_bx n x y) (cmpF x y==0):=Ea (Qf9 x y) (Qa _)
theorem QlQ{l:List Fact}{a j:Nat}{x:Fact}(h:l[a+j]?=some x){m:Int}(e:m=(l.length:Int)):QhY l (a:Int) m (j:Int)=some x:=by
 have d:=(XI.1 h).1;unfold QhY;rw[Vn (show 0<=(a:Int)by omega),Vn (show 0<=(j:Int)by omega),Vn (show a+j<m by omega)];exact YL h
theorem Ql6{α:Type}{l r:List α}{i:Nat}{x:α}(h:l.drop i=x::r):l[i]?=some x/\l.drop (i+1)=r/\i<l.length:=by
 have h1:=by
  have:=congrArg (λl=>l[0]?) h;simpa using this
 grind[List.drop_eq_getElem_cons]
theorem QjK(a:List Fact)(hl:a.length<=1048576)(d:Nat):∀(r s:List Fact) (i j:Nat) (p:Fact),s.length=a.length->s.drop (d+(j+1))=r->s[d+j]?=some p->i<d+(j+1)->d+(j+1)<=s.length->
  ∃(s':List Fact) (e:Nat),EvI (λn=>F_fa n a (d:Int)) (s,(i:Int),((j+1:Nat):Int)) (s',(e:Int))/\e<=s'.length/\s'.take e=s.take i++ddA p r:=by
 intro r
 induction r with
 |nil=>
  intro s i j p f t z J H;refine⟨s,i,Ei ?_,by omega,by simp[ddA]⟩;have:=Xq.1 t
  grind[F_fa,Qa]
 |cons x r u=>
  intro s i j p f t z J H;obtain⟨h,E,G⟩:=Ql6 t;have B:=QlQ h (show(a.length:Int)=(s.length:Int)by rw[f]);have w:=QlQ z (show(a.length:Int)=(s.length:Int)by rw[f]);have w1:i64.wrap (((j+1:Nat):Int)-1)=(j:Int):=by rw[Yb (by omega) (by omega)];omega
  have w2:i64.wrap (((j+1:Nat):Int)+1)=((j+1+1:Nat):Int):=YG (by omega);have y:decide (((j+1:Nat):Int)<((toNat (a.length:Int)-toNat (d:Int):Nat):Int))=true:=Vn (by omega);have k:i<s.length:=by omega
  cases q:cmpF x p==0 with
  |true=>
   obtain⟨s',e,l,m,g⟩:=u s i (j+1) x f (by rw[show d+(j+1+1)=d+(j+1)+1 by omega];exact E) h (by omega) (by omega);refine⟨s',e,Eu ?_ l,m,by rw[g,QoO q]⟩;unfold F_fa;simp only[y,Vi,B,w1,w,XG];refine Ea (Qh9 x p) ?_;rw[q];simp only[Xh,Vj,XG,w2];exact Qa _
  |false=>
   have F:(s.set i x).length=a.length:=by rw[XZ];exact f
   obtain⟨s',e,l,m,g⟩:=u (s.set i x) (i+1) (j+1) x F (by rw[show d+(j+1+1)=d+(j+1)+1 by omega,List.drop_set_of_lt (by omega)];exact E) (by rw[XM (by omega)];exact h) (by omega) (by rw[XZ];omega);have w3:i64.wrap ((i:Int)+1)=((i+1:Nat):Int):=YG (by omega);refine⟨s',e,Eu ?_ l,m,?_⟩
   .unfold F_fa;simp only[y,Vi,B,w1,w,XG];refine Ea (Qh9 x p) ?_;rw[q];simp only[Xi,Vi,XG,w2,YL (XH k),QnP s x k,w3];exact Qa _
   .rw[g,List.take_add_one,Xa k,List.take_set_of_le (XQ _)];rw[QoN q];simp
theorem QjL(a:List Fact)(hl:a.length<=1048576):∀(r:List Fact) (k:Nat) (p:Fact),a.drop (k+1)=r->a[k]?=some p->k+1<=a.length->∃b:Ctl Unit (List Fact),EvI (λn=>F_en n a) ((k+1:Nat):Int) b/\((b=.cont ()/\ddA p r=r)\/b=.done (a.take (k+1)++ddA p r)):=by
 intro r
 induction r with
 |nil=>
  intro k p i l u;refine⟨.cont (),Ei ?_,.inl ⟨rfl,rfl⟩⟩;have:=Xq.1 i
  grind[F_en,Qa]
 |cons x r t=>
  intro k p i l u;obtain⟨f,s,g⟩:=Ql6 i;have w1:i64.wrap ((k+1:Nat)-1)=k:=by rw[Yb (by omega) (by omega)];omega
  have w2:i64.wrap ((k+1:Nat)+1)=k+1+1:=YG (by omega);have m:decide ((k+1:Nat)<(a.length:Int))=true:=Vn (by omega);cases q:cmpF x p==0 with
  |true=>
   obtain⟨w,y,j,d,h⟩:=QjK a hl (k+1) r a (k+1) 0 x rfl s f (by omega) (by omega);refine⟨.done (a.take (k+1)++ddA p (x::r)),Ei ?_,.inr rfl⟩;unfold F_en;simp only[m,YL f,w1,YL l,XG];refine Ea (Qh9 x p) ?_;rw[q];simp only[Qfd a (Nat.le_of_lt g),XG];refine Ea j.ev ?_;simp only[Qkn w d];rw[h];rw[QoO q];exact Qa _
  |false=>
   obtain⟨b,j,d⟩:=t (k+1) x s f g;have e:=QoN (r:=r) q;refine⟨b,Eu ?_ j,?_⟩
   .unfold F_en;simp only[m,YL f,w1,YL l,XG];refine Ea (Qh9 x p) ?_;rw[q];simp only[w2];exact Qa _
   .rcases d with⟨d,h⟩|d
    .exact .inl ⟨d,by rw[e,h]⟩
    .rw[d,e,List.take_add_one,f];simp
theorem QjI(a:List Fact)(hl:a.length<=1048576):Ev (λn=>F_gi n a) (dd a):=by
 match a,hl with
 |[],_=>exact Qa _
 |[x],_=>exact Qa _
 |x::y::r,hl=>
  obtain⟨b,d,f⟩:=QjL (x::y::r) hl (y::r) 0 x rfl rfl (by simp);refine Ea d.ev ?_;rcases f with⟨rfl,e⟩|rfl
  .show Ev (λn=>some (x::y::r)) (x::ddA x (y::r));rw[e];exact Qa _
  .exact Qa _
theorem QmS(l:List Fact)(d:∀f∈l,validS f=true)(hl:l.length<=1048576):Ev (λn=>F_ct n l) (canonS l):=by
 unfold F_ct F_eu;simp only[Qg3 hl,XG];have p:=Qz (ltC cmpF) l;refine Ea (Qmn hl (λx _ y _=>Qf9 x y) Ql7 λx g y h e=>QeZ (d x g) (d y h) e) (Ea (QjI _ (by rw[p.length_eq];exact hl)) ?_);have s:(YX (ltC cmpF) l).Pairwise λa b=>¬cmpF b a<0:=List.Pairwise.imp (λq=>Vq q) (QX (Qcm Ql7 l));obtain⟨i,j⟩:=dd_ok s (by grind);obtain⟨c1,k⟩:=Qag l;refine Et (Qa _) (QcK QlI QhU i c1.1 λf=>?_)
 grind
def cmpN(x y:Ue):Int:=cmpI x.number y.number
theorem QeY:CmpOK cmpN:=cmpI_ok.on λx:Ue=>x.number
def sortN(fs:List Ue):List Ue:=YX (ltC cmpN) fs
theorem QlG{fs:List Ue}(h:(fs.map (·.number)).Nodup){x y:Ue}(d:x∈fs)(g:y∈fs)(e:x.number=y.number):x=y:=by
 induction fs with
 |nil=>cases d
 |cons a r f=>
  grind
theorem Qmu{p q:List Ue}(h:p.Perm q)(f:(q.map (·.number)).Nodup):sortN p=sortN q:=by
 have hp:=(h.map _).nodup_iff.2 f;refine JD ((Qz _ p).trans (h.trans (Qz _ q).symm)) (λx e y g a d=>?_) (QX (Qcm QeY p)) (QX (Qcm QeY q));have a:=Vq a;have d:=Vq d;refine QlG hp ((Qz _ p).mem_iff.1 e) ((Qz _ p).mem_iff.1 g) (Qra.1 ?_);have:=QeY.swap x y;show cmpN x y=0;omega
def ltN(x y:Ue):Prop:=x.number<y.number
theorem QiN{p:List Ue}(e:(p.map (·.number)).Nodup):(sortN p).Pairwise ltN:=by
 have a:((sortN p).map (·.number)).Nodup:=((Qz _ p).map _).nodup_iff.2 e;have s:=QX (Qcm QeY p);have hm':=by
  unfold List.Nodup at a;rw[List.pairwise_map]at a;exact a
 refine List.Pairwise.imp₂ (λx y d f=>?_) s hm';have d:¬cmpI y.number x.number<0:=Vq d;rw[QpX]at d;unfold ltN;omega
theorem QqV(x y:Ue):Ev (λn=>F_bn n x y) (cmpN x y==0):=by
 unfold F_bn F_aw;simp[Qih];exact Qa _
theorem QjJ(fs:List Ue)(hl:fs.length<=1048576)(a:fs.Pairwise ltN):Ev (λn=>F_cv n fs) ():=by
 unfold F_cv;cases q:decide ((fs.length:Int)<2)with
 |true=>exact Qa _
 |false=>
  refine Ea (v:=()) ?_ (Qa _);refine Ew (λi=>((i+1:Nat):Int)) (fs.length-1) rfl (λi g=>?_) ?_
  .have d:fs[i+1]?=some fs[i+1]:=(by simp);have f:fs[i]?=some fs[i]:=(by simp);have w1:i64.wrap (((i+1:Nat):Int)-1)=(i:Int):=by rw[Yb (by omega) (by omega)];omega
   have w2:i64.wrap (((i+1:Nat):Int)+1)=((i+1+1:Nat):Int):=YG (by omega);unfold F_kh;rw[Vn (show(((i+1:Nat):Int)<(fs.length:Int))by omega)];simp only[Vi,YL d,w1,YL f,XG];refine Ea (QqV _ _) ?_;have lt:=Vy.1 a i (i+1) (by omega) (by omega) (by omega);have e:(cmpN fs[i+1] fs[i]==0)=false:=by
    rw[Vt];intro z;have z2:=Qra.1 z;unfold ltN at lt;omega
   grind[Qa]
  grind[F_kh,Qa]
theorem QkJ(fs:List Ue)(hl:fs.length<=1048576)(a:(fs.map (·.number)).Nodup):Ev (λn=>F_cb n fs) (sortN fs):=by
 unfold F_cb F_gq;simp only[Qg3 hl,XG];refine Ea (v:=sortN fs) (Qmn hl (λx _ y _=>?_) QeY λx d y f e=>QlG a d f (Qra.1 e)) ?_
 .unfold F_aw;simp[Qih];exact Qa _
 .refine Ea (QjJ _ ?_ (QiN a)) (Qa _);unfold sortN;rw[(Qz _ fs).length_eq];exact hl
theorem QfK(fs:List Ue)(k:Int):(Qae fs k).length<=fs.length+1:=by
 grind[Qae]
theorem Qe9(fs:List Ue)(k:Int)(g:Ue->Ue):(QbQ fs k g).length=fs.length:=by unfold QbQ;simp
theorem QpZ{fs a:List Ue}{k i:Int}{f:Fact}(h:filesAdd fs k i f=some a):a.length=fs.length:=by
 grind[filesAdd,Qe9]
theorem QnG{fs a:List Ue}{f:Fact}(h:filesStep fs f=some a):a.length<=fs.length+1:=by
 unfold filesStep at h;cases g:(f.Kind==10)with
 |true=>
  rw[g,Vi]at h;cases d:Qfo (Qae fs f.Ruling.Case)with
  |true=>rw[d,Vi]at h;rw[QpZ h];exact QfK _ _
  |false=>grind
 |false=>
  rw[g,Vj]at h;cases d:(f.Kind==8)with
  |true=>
   rw[d,Vi]at h;cases e:Qfo (Qae fs f.Report.Case)with
   |true=>rw[e,Vi]at h;cases h;rw[Qe9];exact QfK _ _
   |false=>grind
  |false=>
   rw[d,Vj]at h;cases e:(f.Kind==11)with
   |true=>
    rw[e,Vi]at h;cases i:f.Appeal.Suspends with
    |true=>rw[i,Vi]at h;cases h;rw[Qe9];exact QfK _ _
    |false=>grind
   |false=>grind
theorem QmZ(C:List Fact)(j:∀f∈C,validS f=true)(hl:C.length<=1048576):∃fs,Ev (λn=>Go.Sw.iter (filesL n C) n (([]:List Ue),0)) fs/\FilesOf C fs/\fs.length<=C.length:=by
 have loop:∀(r:List Fact) (i:Nat) (s:List Ue),C.drop i=r->i<=C.length->FilesOf (C.take i) s->s.length<=i->∃fs,EvI (λn=>filesL n C) (s,i) fs/\FilesOf C fs/\fs.length<=C.length:=by
  intro r
  induction r with
  |nil=>
   grind[EvI.done,filesL,Q9,Qa]
  |cons f r k=>
   intro i s m w p l;obtain⟨a,g⟩:=QC (by omega) m;have u:=a.lt';obtain⟨t,d,e⟩:=Qh3 p (by grind) (j f a.mem);rw[<- a.take]at e;obtain⟨fs,q,h⟩:=k (i+1) t g (by omega) e (by have:=QnG d;omega);refine⟨fs,Eu ?_ q,h⟩;unfold filesL;simp only[a.lt,a.ix,XG,d,a.nx];exact Qa _
 obtain⟨fs,d,e⟩:=loop C 0 [] rfl (XR _) FilesOf.nil (XQ _);exact⟨fs,d.ev,e⟩
theorem Qga:∀(p:List (Int×Ue)) (s:List Ue) (n:Nat),s.length+p.length<=1048576->Qfj (F_iz n) (F_km n) s p=some (s++p.map Prod.snd)
 |[],s,n,_=>by unfold Qfj F_km;simp
 |e::p,s,n,h=>by
  rw[XW]at h;have h1:F_iz n s e=some (.cont (s++[e.2])):=by
   unfold F_iz;rw[JW _ _ (by omega)];rfl
  unfold Qfj;rw[h1];show Qfj _ _ (s++[e.2]) p=_;rw[Qga p _ n (by simp;omega)];simp
theorem FilesOf.perm{C:List Fact}{fs gs:List Ue}(h:FilesOf C fs)(p:gs.Perm fs):FilesOf C gs:=
 ⟨(p.map _).nodup_iff.2 h.num,λx hx=>h.each x (p.mem_iff.1 hx),λk=>by rw[(p.map _).mem_iff];exact h.mem k⟩
theorem Qoz(l:List Fact)(hl:l.length<=100):∃fs,Ev (λn=>F_ax n l) fs/\FilesOf (canonS l) fs/\fs.Pairwise ltN/\fs.length<=(canonS l).length:=by
 have q:∀f∈l.filter validS,validS f=true:=(by simp);have e:canonS (l.filter validS)=canonS l:=Qk4 (by grind);obtain⟨c1,u⟩:=Qag l;have r:=JG l;obtain⟨fs,k,g,m⟩:=QmZ (canonS l) c1.2 (by omega);refine⟨sortN fs,?_,g.perm (Qz _ fs),QiN g.num,by unfold sortN;rw[(Qz _ fs).length_eq];exact m⟩;refine Ea (Qlo l validS (by omega) (λi x a d j=>?_) λa=>?_) ?_
 .have s:=d.lt';unfold F_ky;simp only[d.lt,d.ix,XG,d.nx];refine Ea (QgF x) ?_
  grind[JW,Qa]
 .simp_all[F_ky,Qa]
 refine Ea ((QmS _ q (by grind)).eq e) (Ea k ?_);refine Ev.anyP λp h=>?_;have w:p.length=fs.length:=by rw[h.length_eq];unfold QeN;simp
 have pm:=by
  have:=h.map Prod.snd;unfold QeN at this;rw[List.map_map]at this;have t:(fs.map (Prod.snd ∘ λx=>(x.number,x)))=fs:=by
   conv=>rhs;rw[<- List.map_id fs]
   rfl
  rw[t]at this;exact this
 simp only[Qga p [] _ (by simp;omega),Vb,XG];refine Ea (QkJ _ (by grind) ((pm.map _).nodup_iff.2 g.num)) ?_;rw[Qmu pm g.num];exact Qa _
def numsC(C:List Fact):List Int:=QjQ (YX ltI (C.filterMap caseN))
theorem Qfs(C:List Fact):(numsC C).Pairwise (· < ·)/\ ∀k,k∈numsC C↔ ∃f∈C,caseN f=some k:=by
 grind[QkY,numsC]
def filesS(C:List Fact):List Ue:=(numsC C).map (fileOf C)
theorem QmQ{C:List Fact}{fs:List Ue}(h:FilesOf C fs)(s:fs.Pairwise ltN):fs=filesS C:=by
 obtain⟨g,f⟩:=Qfs C;have e:fs.map (·.number)=numsC C:=by
  refine QdK (lt:=λa b:Int=>a<b) (λa b h=>by omega) ?_ g λk=>?_
  .rw[List.pairwise_map];exact s
  .rw[h.mem k,f k]
 unfold filesS;rw[<- e,List.map_map];have:∀x∈fs,(fileOf C ∘ λx:Ue=>x.number) x=x:=λx d=>(h.each x d).symm
 conv=>lhs;rw[<- List.map_id fs]
 exact List.map_congr_left λx d=>(this x d).symm
theorem Qhj(l:List Fact)(hl:l.length<=100):Ev (λn=>F_ax n l) (filesS (canonS l)):=by
 grind[Qoz,QmQ]
theorem QkH(C:List Fact):(filesS C).length<=C.length:=by
 unfold filesS numsC;rw[XX];have e:∀(l:List Int) (p:Int),(QaO p l).length<=l.length:=by
  intro l
  induction l with
  |nil=>intro p;exact XQ _
  |cons x r d=>
   grind[QaO]
 have a:∀l:List Int,(QjQ l).length<=l.length:=λl=>by
  cases l with
  |nil=>exact XQ _
  |cons x r=>grind[QjQ]
 refine XS (a _) ?_;rw[(Qz _ _).length_eq]
 grind
def suspF(x:Ue):Bool:=x.appeal&&(!x.r1.isEmpty&&x.r2.isEmpty)
def forceF(x:Ue):Option Ruling:=bif suspF x then none else((x.r2++x.r1).head?).map (·.Ruling)
theorem Qhb{C:List Fact}{k:Int}{f:Fact}(h:f∈(fileOf C k).r1\/f∈(fileOf C k).r2):f∈C/\f.Kind=10/\f.Ruling.Case=k:=by
 have one:∀i,f∈C.filter (rulB k i)->f∈C/\f.Kind=10/\f.Ruling.Case=k:=λi h=>by
  simp_all[rulB]
 rcases h with h|h
 iterate 2 exact one _ h
theorem QcT{C:List Fact}{k:Int}{g:Ruling}(h:forceF (fileOf C k)=some g):g.Case=k:=by
 unfold forceF at h;cases q:suspF (fileOf C k)with
 |true=>grind
 |false=>
  rw[q,Vj,Option.map_eq_some_iff]at h;obtain⟨f,d,e⟩:=h;have a:=List.mem_of_head? d;rw[<- e];exact(Qhb ((Vx.1 a).symm)).2.2
def keyF(x:Ue):Int×Option Ruling×List Report:=(x.number,forceF x,x.reports)
section
variable {α β:Type}
theorem QfM(f:α->Option β):∀(l:List α) (a:List β),l.foldl (λa x=>a++(f x).toList) a=a++l.filterMap f
 |[],a=>by simp
 |x::l,a=>by
  rw[XB,QfM f l,List.filterMap_cons]
  grind
theorem QiC{step:Nat->List β×Int->Option (Ctl (List β×Int) (List β))}(l:List α)(f:α->Option β)(hl:l.length<=1048576)
  (j:∀i x a,At l i x->a.length<=i->Ev (λn=>step n (a,(i:Int))) (.cont (a++(f x).toList,((i+1:Nat):Int))))
  (g:∀a,Ev (λn=>step n (a,(l.length:Int))) (.done a)):Ev (λn=>Go.Sw.iter (step n) n ([],0)) (l.filterMap f):=by
 have e:l.filterMap f=l.foldl (λa x=>a++(f x).toList) []:=by rw[QfM];rfl
 rw[e];refine QS l (λa x=>a++(f x).toList) [] (λa i=>(a,(i:Int))) (λa=>a) (by omega) rfl (λi x a d h=>j i x a d ?_) (g _);rw[h,QfM,Vb]
 grind
theorem QlK(l:List α):decide (0<(l.length:Int))= !l.isEmpty:=by
 cases l with
 |nil=>rfl
 |cons a l=>simp
theorem Qn7(l:List α):((l.length:Int)==0)=l.isEmpty:=by
 cases l with
 |nil=>rfl
 |cons a l=>
  rfl
end
theorem QoQ(c:Course)(a:Course.wf c):∃b,Ev (λn=>F_bl n c) b/\(b=true->FewOk c/\Ev (λn=>F_ag n c) (courseE c)):=by
 have w:=QeH a;have q:=Qgp a;obtain⟨d,f⟩:=QhG a;obtain⟨b,g,fb⟩:=Qii c w q d f;exact⟨b,g,λe=>⟨fb e,Qm2 c w q (fb e) d f⟩⟩
abbrev KeyT:=Int×Option Ruling×List Report
def keysOf(l:List Fact):List KeyT:=(filesS (canonS l)).map keyF
structure KeysOk (K:List KeyT):Prop where
 inc:(K.map (·.1)).Pairwise (· < ·)
 rul:∀x∈K,∀g,x.2.1=some g->g.Case=x.1
 rep:∀x∈K,∀r,x.2.2.head? =some r->r.Case=x.1
theorem QlM(l:List Fact):KeysOk (keysOf l):=by
 have a:∀x∈keysOf l,∃k,x=keyF (fileOf (canonS l) k):=λx a=>by
  unfold keysOf filesS at a
  grind
 refine⟨?_,λx h g e=>?_,λx h r i=>?_⟩
 .unfold keysOf filesS;rw[List.map_map,List.map_map];have:(((λx:KeyT=>x.1) ∘ keyF) ∘ fileOf (canonS l))=λk=>k:=rfl
  grind[List.map_id',Qfs]
 .obtain⟨k,rfl⟩:=a x h;exact QcT e
 .obtain⟨k,rfl⟩:=a x h;have d:=List.mem_of_head? i;obtain⟨f,j,rfl⟩:=Xf.1 (show r∈((canonS l).filter (repB k)).map (·.Report)from d);have:=(Xe.1 j).2;unfold repB at this;rw[XT,Vs,Vs]at this;exact this.2
theorem Qb2(l:List Fact):(keysOf l).length<=l.length:=by
 grind[keysOf,QkH,JG]
theorem QkU(l:List Fact)(hl:l.length<=100):Ev (λn=>F_dc n l) ((keysOf l).filterMap λx=>x.2.2.head?):=by
 unfold F_dc;refine Ea (Qhj l hl) ?_;have e:(keysOf l).filterMap (λx=>x.2.2.head?)=(filesS (canonS l)).filterMap λx=>x.reports.head? :=by
  unfold keysOf;rw[List.filterMap_map];rfl
 have f:(filesS (canonS l)).length<=100:=by grind[Qb2,keysOf]
 rw[e];generalize filesS (canonS l)=fs at f;refine Ea (QiC fs (λx=>x.reports.head?) (by omega) (λi x a d k=>?_) λa=>?_) (Qa _)
 .unfold F_lj;simp only[d.lt,Vi,d.ix,XG,d.nx,QlK];have:=d.lt';cases h:x.reports with
  |nil=>exact(Qa _).eq (by simp)
  |cons r g=>
   have j:idx (r::g) 0=some r:=rfl;simp only[List.isEmpty_cons,Xi,Vi,j,XG]
   grind[Qdu,Qa]
 simp_all[F_lj,Qa]
theorem Qoy(x:Ue):Ev (λn=>F_ca n x) (match forceF x with|some g=>(g,true)|none=>(Ux,false)):=by
 have d:idx ([x.r0,x.r1,x.r2]:List (List Fact)) 1=some x.r1:=rfl;have a:idx ([x.r0,x.r1,x.r2]:List (List Fact)) 2=some x.r2:=rfl;unfold F_ca;refine Ea (v:=suspF x) ?_ ?_
 .unfold F_ex;simp only[d,a,XG,QlK,Qn7];refine Ea (v:=suspF x) ?_ (Qa _)
  grind[suspF,Qa]
 unfold forceF;cases j:suspF x with
 |true=>exact Qa _
 |false=>
  simp only[Vj];have i:decide ((0:Int)<2)=true:=rfl;have c1:decide ((0:Int)<1)=true:=rfl;have e:decide ((0:Int)<0)=false:=rfl;have w1:i64.wrap (2-1)=1:=rfl;have k:i64.wrap (1-1)=0:=rfl;refine Ea (v:=match(x.r2++x.r1).head? with|some f=>Ctl.done (f.Ruling,true)|none=>Ctl.cont ()) (EvI.ev ?_) ?_
  .cases l:x.r2 with
   |cons f r=>
    simp_all[Ei,idx,F_dt,Qa]
   |nil=>
    refine Eu (s':=1) ?_ ?_
    .simp_all[F_dt,Qa]
    rw[Vb];cases h:x.r1 with
    |cons f r=>
     simp_all[Ei,idx,F_dt,Qa]
    |nil=>
     refine Eu (s':=0) ?_ (Ei ?_)
     .simp_all[F_dt,Qa]
     simp_all[F_dt,Qa]
  grind[Qa]
theorem QqX(l:List Fact)(hl:l.length<=100):Ev (λn=>F_di n l) ((keysOf l).filterMap λx=>x.2.1):=by
 unfold F_di;refine Ea (Qhj l hl) ?_;have e:(keysOf l).filterMap (λx=>x.2.1)=(filesS (canonS l)).filterMap forceF:=by
  unfold keysOf;rw[List.filterMap_map];rfl
 have j:(filesS (canonS l)).length<=100:=by grind[Qb2,keysOf]
 rw[e];generalize filesS (canonS l)=fs at j;refine Ea (QiC fs forceF (by omega) (λi x a d f=>?_) λa=>?_) (Qa _)
 .unfold F_kg;simp only[d.lt,Vi,d.ix,XG,d.nx];have:=d.lt';refine Ea (Qoy x) ?_;cases h:forceF x with
  |none=>exact(Qa _).eq (by simp)
  |some g=>
   simp only[Vi]
   grind[Qdu,Qa]
 simp_all[F_kg,Qa]
section
variable {S T B:Type} {step:Nat->S->Option (List T×Ctl S B)} {s s':S} {b:B} {xs ys:List T}
def EvL(step:Nat->S->Option (List T×Ctl S B))(s:S)(ys:List T)(b:B):Prop:=∃N,∀n k,N<=n->N<=k->QcC (step n) k s=some (ys,b)
theorem EvL.done(h:Ev (λn=>step n s) (ys,.done b)):EvL step s ys b:=by
 obtain⟨N,h⟩:=h;refine⟨N+1,λn k d f=>?_⟩;obtain⟨a,rfl⟩:∃a,k=a+1:=⟨k-1,by omega⟩;have e:step n s=some (ys,.done b):=h n (by omega);unfold QcC;rw[e];rfl
theorem EvL.cont(h:Ev (λn=>step n s) (xs,.cont s'))(q:EvL step s' ys b):EvL step s (xs++ys) b:=by
 obtain⟨N,h⟩:=h;obtain⟨M,q⟩:=q;refine⟨max N M+1,λn k d f=>?_⟩;obtain⟨a,rfl⟩:∃a,k=a+1:=⟨k-1,by omega⟩;have e:step n s=some (xs,.cont s'):=h n (by omega);unfold QcC
 grind
theorem EvL.ev(h:EvL step s ys b):Ev (λn=>QcC (step n) n s) (ys,b):=by
 obtain⟨N,h⟩:=h;exact⟨N,λn a=>h n n a a⟩
end
def viaR(c:Course)(k:Int):Option Report->Option Ud
 |none=>none
 |some r=>bif decide (r.Offence<0)||decide ((c.Offences.length:Int)<=r.Offence)then none else
  (idx c.Offences r.Offence).map λo=>{number:=k,bib:=r.Bib,penalty:={Position:=r.Position,Time:=o.Time,Laps:=o.Laps,Out:=o.Out}}
def rulP(k:Int)(g:Ruling):Option Ud:=
 bif g.Kind==5 then some {number:=k,bib:=g.Bib,penalty:={Position:=g.Position,Time:=0,Laps:=0,Out:=true}}else
 bif g.Kind==4 then some {number:=k,bib:=g.Bib,penalty:={Position:=g.Position,Time:=0,Laps:=g.Amount,Out:=false}}else
 bif g.Kind==3 then some {number:=k,bib:=g.Bib,penalty:={Position:=g.Position,Time:=g.Amount,Laps:=0,Out:=false}}else none
def givenK(c:Course)(x:KeyT):Option Ud:=
 match x.2.1 with
 |some g=>bif (g.Kind==5)||((g.Kind==4)||(g.Kind==3))then rulP x.1 g else bif g.Kind==2 then none else viaR c x.1 x.2.2.head?
 |none=>viaR c x.1 x.2.2.head?
def lookK(K:List KeyT)(k:Int):Option KeyT:=K.find? λx=>x.1==k
theorem Qfz(x:KeyT)(K:List KeyT)(k:Int):lookK (x::K) k=if x.1=k then some x else lookK K k:=by
 unfold lookK
 grind
theorem Qfy{K:List KeyT}{k:Int}(h:k∉K.map (·.1)):lookK K k=none:=by
 refine List.find?_eq_none.2 λx a q=>h ?_
 grind
theorem Qjc:∀{K:List KeyT},(K.map (·.1)).Nodup->∀{x:KeyT},x∈K->lookK K x.1=some x
 |[],_,x,h=>by cases h
 |y::K,hn,x,h=>by
  rw[Vd,List.nodup_cons]at hn;rw[Qfz];rcases X0.1 h with rfl|h
  .simp
  .rw[Vl λq=>hn.1 (by rw[q];exact Xf.2 ⟨x,h,rfl⟩)];exact Qjc hn.2 h
theorem Qdm{β:Type}(key:β->Int)(f:KeyT->Option β):∀(K:List KeyT) (m:List (Int×β)),(K.map (·.1)).Nodup->(∀x∈K,∀y,f x=some y->key y=x.1)->∀k,
  YQ ((K.filterMap f).foldl (λm y=>QQ m (key y) y) m) k=match(lookK K k).bind f with|some v=>some v|none=>YQ m k
 |[],m,_,_,k=>rfl
 |x::K,m,hn,hk,k=>by
  rw[Vd,List.nodup_cons]at hn;have hk':∀x∈K,∀y,f x=some y->key y=x.1:=(by grind);rw[List.filterMap_cons,Qfz];cases hf:f x with
  |none=>
   simp only;rw[Qdm key f K m hn.2 hk' k];by_cases e:x.1=k
   .simp_all[Qfy]
   grind
  |some y=>
   simp only[XB];rw[Qdm key f K _ hn.2 hk' k];have hy:=hk x (by simp) y hf;by_cases e:x.1=k
   .simp_all[Qfy,Jb]
   .rw[Vl e];cases(lookK K k).bind f with
    |some v=>rfl
    |none=>
     simp only;rw[Jb,Vl (by omega)]
theorem QdX{β:Type}(a:β->Int):∀(L:List β) (m:List (Int×Bool)),(m.map Prod.fst).Nodup->(((L.foldl (λm y=>QQ m (a y) true) m).map Prod.fst).Nodup/\(L.foldl (λm y=>QQ m (a y) true) m).length<=m.length+L.length/\ ∀k,k∈(L.foldl (λm y=>QQ m (a y) true) m).map Prod.fst↔k∈m.map Prod.fst\/k∈L.map a)
 |[],m,h=>(by grind)
 |y::L,m,h=>by
  rw[XB];obtain⟨i1,i2,i3⟩:=QdX a L (QQ m (a y) true) (Qkz _ _ h);refine⟨i1,?_,λk=>?_⟩
  .grind[Qn3]
  .rw[i3,Vd,X0];have:k∈(QQ m (a y) true).map Prod.fst↔k=a y\/k∈m.map Prod.fst:=by
    rw[Qja,Qja];constructor
    .rintro⟨v,d⟩;rw[Jb]at d
     grind
    .rintro(z|⟨v,d⟩)
     .exact⟨true,by rw[Jb,Vm z]⟩
     .by_cases z:k=a y
      .exact⟨true,by rw[Jb,Vm z]⟩
      simp_all[Jb]
   grind
def effM:List (Int×Uc):=QQ (QQ (QQ [] 3 ⟨115⟩) 4 ⟨116⟩) 5 ⟨117⟩
theorem QoI(k:Int):YQ effM k=if k=5 then some ⟨117⟩else if k=4 then some ⟨116⟩else if k=3 then some ⟨115⟩else none:=by
 unfold effM;rw[Jb,Jb,Jb];rfl
theorem QmD{β:Type}(m:List (Int×β))(k:Int)(z:β):Q2 m k z=(YQ m k).getD z:=rfl
section
variable {c:Course} {K:List KeyT} {m1:List (Int×Report)×List (Int×Bool)} {m2:List (Int×Ruling)×List (Int×Bool)} {S:List Int}
theorem Qox(s:∀k,YQ m1.1 k=(lookK K k).bind λx=>x.2.2.head?)(q:∀k,YQ m2.1 k=(lookK K k).bind λx=>x.2.1){i:Nat}{x:KeyT}(h:At S i x.1)(u:lookK K x.1=some x):
  Ev (λn=>F_fj n c m1 m2 effM S (i:Int)) ((givenK c x).toList,.cont ((i+1:Nat):Int)):=by
 unfold F_fj;simp only[h.lt,Vi,h.ix,XG,h.nx,QmD,Qi9,s,q,u,QoI];have t:∀(r:Option Report),Ev (λn=>((bif (!r.isSome)then some true else(bif decide ((r.getD Uw).Offence<0)then some true else some (decide ((c.Offences.length:Int)<=(r.getD Uw).Offence)))):Option Bool).bind λf=>(bif f then some ([],.cont ((i+1:Nat):Int))else(idx c.Offences (r.getD Uw).Offence).bind λd=>yl ({number:=x.1,bib:=(r.getD Uw).Bib,penalty:={Position:=(r.getD Uw).Position,Time:=d.Time,Laps:=d.Laps,Out:=d.Out:Penalty}:Ud}) (some ([],.cont ((i+1:Nat):Int)))))
   (((viaR c x.1 r).toList,.cont ((i+1:Nat):Int)):(List Ud)×Ctl Int Unit):=by
  intro r;cases r with
  |none=>exact Qa _
  |some r=>
   simp only[Option.isSome_some,Xh,Vj,Option.getD_some,viaR];cases y:decide (r.Offence<0)with
   |true=>exact Qa _
   |false=>
    cases p:decide ((c.Offences.length:Int)<=r.Offence)with
    |true=>exact Qa _
    |false=>
     simp only[Vj,XG,Bool.or_self];have a:=Vq y;have b:=Vq p;have:idx c.Offences r.Offence=some (c.Offences[r.Offence.toNat]'(by omega)):=by
      unfold idx
      grind
     rw[this];exact Qa _
 cases w:x.2.1 with
 |none=>
  simp_all[givenK,Qfx]
 |some g=>
  simp only[XG,Option.isSome_some,Vi,w,Option.getD_some];by_cases l:g.Kind=5
  .have e:givenK c x=some {number:=x.1,bib:=g.Bib,penalty:={Position:=g.Position,Time:=0,Laps:=0,Out:=true}}:=by unfold givenK rulP;grind
   rw[e];simp only[l,if_true,Qfx,XG,Vi];exact Qa _
  by_cases m:g.Kind=4
  .have e:givenK c x=some {number:=x.1,bib:=g.Bib,penalty:={Position:=g.Position,Time:=0,Laps:=g.Amount,Out:=false}}:=by unfold givenK rulP;grind
   rw[e];simp only[m,if_true,Qfx,XG,Vi];exact Qa _
  by_cases j:g.Kind=3
  .have e:givenK c x=some {number:=x.1,bib:=g.Bib,penalty:={Position:=g.Position,Time:=g.Amount,Laps:=0,Out:=false}}:=by unfold givenK rulP;grind
   rw[e];simp only[j,if_true,Qfx,XG,Vi];exact Qa _
  simp only[Vl l,Vl m,Vl j,Qfx,XG];have e:givenK c x=bif g.Kind==2 then none else viaR c x.1 x.2.2.head? :=by
   unfold givenK
   grind
  rw[e];cases(g.Kind==2)with
  |true=>exact Qa _
  |false=>
   grind
theorem Ql4(a:∀k,YQ m1.1 k=(lookK K k).bind λx=>x.2.2.head?)(d:∀k,YQ m2.1 k=(lookK K k).bind λx=>x.2.1)(f:S.length<=1000):∀(r:List KeyT) (i:Nat),S.drop i=r.map (·.1)->i<=S.length->(∀x∈r,lookK K x.1=some x)->
  EvL (λn=>F_fj n c m1 m2 effM S) (i:Int) (r.filterMap (givenK c)) ()
 |[],i,hd,hi,_=>by
  refine EvL.done ?_;unfold F_fj;simp only[Q9 hd hi,Vj];exact Qa _
 |x::r,i,hd,hi,hx=>by
  rw[Vd]at hd;obtain⟨ha,hd'⟩:=QC (by omega) hd;have hlt:=ha.lt';have e:(x::r).filterMap (givenK c)=(givenK c x).toList++r.filterMap (givenK c):=by
   grind
  rw[e];exact EvL.cont (Qox a d ha (hx x (by simp))) (Ql4 a d f r (i+1) hd' (by omega) (by grind))
end
theorem QmL{l:List Int}(h:l.Pairwise (· < ·)):l.Nodup:=h.imp λh=>by omega
theorem QmK{l:List Int}(h:l.Nodup):(YX ltI l).Pairwise (· < ·):=by
 have nd:(YX ltI l).Nodup:=(Qz _ _).nodup_iff.2 h;refine(List.Pairwise.and (QX (Qdj l)) nd).imp λ{a b} q=>?_
 grind[ltI]
theorem QqW(c:Course)(l:List Fact)(hl:l.length<=100):Ev (λn=>F_cg n l c) ((keysOf l).filterMap (givenK c),()):=by
 have ok:=QlM l;have nd:=QmL ok.inc;have T:=Qb2 l;unfold F_cg;refine Ea (QkU l hl) ?_;have J:((keysOf l).filterMap λx=>x.2.2.head?).length<=100:=(by grind);have N:((keysOf l).filterMap λx=>x.2.1).length<=100:=(by grind);have P:=Qdm (λr:Report=>r.Case) (λx:KeyT=>x.2.2.head?) (keysOf l) [] nd ok.rep;have F:=Qdm (λg:Ruling=>g.Case) (λx:KeyT=>x.2.1) (keysOf l) [] nd ok.rul;obtain⟨E,H,w⟩:=QdX (λr:Report=>r.Case) ((keysOf l).filterMap λx=>x.2.2.head?) [] (by simp);refine Ea (v:=(((keysOf l).filterMap λx=>x.2.2.head?).foldl (λm y=>QQ m y.Case y) [],((keysOf l).filterMap λx=>x.2.2.head?).foldl (λm y=>QQ m y.Case true) [])) ?_ ?_
 .generalize((keysOf l).filterMap λx=>x.2.2.head?)=R at J;have e:∀(R:List Report) (a:List (Int×Report)) (b:List (Int×Bool)),R.foldl (λ(m:List (Int×Report)×List (Int×Bool)) y=>(QQ m.1 y.Case y,QQ m.2 y.Case true)) (a,b)=(R.foldl (λm y=>QQ m y.Case y) a,R.foldl (λm y=>QQ m y.Case true) b):=by
   intro R
   induction R with
   |nil=>simp
   |cons y R ih=>grind
  rw[<- e];refine QS R (λ(m:List (Int×Report)×List (Int×Bool)) y=>(QQ m.1 y.Case y,QQ m.2 y.Case true)) ([],[]) (λm i=>(m.1,m.2,(i:Int))) (λm=>m) (by omega) rfl (λi x m ha _=>?_) ?_
  .unfold F_kp;simp only[ha.lt,Vi,ha.ix,XG,ha.nx];exact Qa _
  simp_all[F_kp,Qa]
 refine Ea (QqX l hl) ?_;simp only;generalize hb:((keysOf l).filterMap λx=>x.2.2.head?).foldl (λm y=>QQ m y.Case true) []=b0 at E H w;obtain⟨B,M,u⟩:=QdX (λg:Ruling=>g.Case) ((keysOf l).filterMap λx=>x.2.1) b0 E;refine Ea (v:=(((keysOf l).filterMap λx=>x.2.1).foldl (λm y=>QQ m y.Case y) [],((keysOf l).filterMap λx=>x.2.1).foldl (λm y=>QQ m y.Case true) b0)) ?_ ?_
 .generalize((keysOf l).filterMap λx=>x.2.1)=R at N;have e:∀(R:List Ruling) (a:List (Int×Ruling)) (b:List (Int×Bool)),R.foldl (λ(m:List (Int×Ruling)×List (Int×Bool)) y=>(QQ m.1 y.Case y,QQ m.2 y.Case true)) (a,b)=(R.foldl (λm y=>QQ m y.Case y) a,R.foldl (λm y=>QQ m y.Case true) b):=by
   intro R
   induction R with
   |nil=>simp
   |cons y R ih=>grind
  rw[<- e];refine QS R (λ(m:List (Int×Ruling)×List (Int×Bool)) y=>(QQ m.1 y.Case y,QQ m.2 y.Case true)) ([],b0) (λm i=>(m.1,m.2,(i:Int))) (λm=>m) (by omega) rfl (λi x m ha _=>?_) ?_
  .unfold F_ks;simp only[ha.lt,Vi,ha.ix,XG,ha.nx];exact Qa _
  .unfold F_ks;simp only[Qgc,Vj];exact Qa _
 simp only;generalize hc:((keysOf l).filterMap λx=>x.2.1).foldl (λm y=>QQ m y.Case true) b0=b1 at B M u;refine Ea (v:=effM) (Qa _) ?_;unfold F_fm;simp only[XG];have Q:b1.length<=200:=by grind
 refine Ea (v:=YX ltI (b1.map Prod.fst)) ⟨0,λn _=>?_⟩ ?_
 .unfold F_el QoW;have t:(map Prod.fst b1).length<=1048576:=by grind
  rw[QeW t,Vi];refine Qmd λp L=>?_;unfold sortI;rw[QeW (by rw[L.length_eq];exact t)]
  grind[QmJ]
 have e:YX ltI (b1.map Prod.fst)=((keysOf l).filter λx=>x.2.1.isSome||x.2.2.head?.isSome).map (·.1):=by
  refine QdK (lt:=λa b:Int=>a<b) (λa b h=>by omega) (QmK B) ?_ λk=>?_
  .exact ok.inc.sublist ((List.filter_sublist).map _)
  .rw[(Qz _ _).mem_iff,u,w];simp only[Ve,List.not_mem_nil,false_or,Xf,List.mem_filterMap,Xe,Bool.or_eq_true];constructor
   .rintro(⟨r,⟨x,d,s⟩,rfl⟩|⟨g,⟨x,d,j⟩,rfl⟩)
    .exact⟨x,(by grind),(ok.rep x d r s).symm⟩
    .exact⟨x,(by grind),(ok.rul x d g j).symm⟩
   .rintro⟨x,⟨d,h|h⟩,rfl⟩
    .obtain⟨g,j⟩:=Option.isSome_iff_exists.1 h;exact .inr ⟨g,⟨x,d,j⟩,ok.rul x d g j⟩
    .obtain⟨r,s⟩:=Option.isSome_iff_exists.1 h;exact .inl ⟨r,⟨x,d,s⟩,ok.rep x d r s⟩
 have O:(YX ltI (b1.map Prod.fst)).length<=1000:=by grind
 have z:=Ql4 (c:=c) (K:=keysOf l) (m1:=(((keysOf l).filterMap λx=>x.2.2.head?).foldl (λm y=>QQ m y.Case y) [],b0)) (m2:=(((keysOf l).filterMap λx=>x.2.1).foldl (λm y=>QQ m y.Case y) [],b1)) (S:=YX ltI (b1.map Prod.fst))
  (λk=>by rw[P k];cases(lookK (keysOf l) k).bind λx=>x.2.2.head? <;>rfl) (λk=>by rw[F k];cases(lookK (keysOf l) k).bind λx=>x.2.1<;>rfl) O
  ((keysOf l).filter λx=>x.2.1.isSome||x.2.2.head?.isSome) 0 (by grind) (XR _) (λx d=>Qjc nd (by grind))
 have G:((keysOf l).filter λx=>x.2.1.isSome||x.2.2.head?.isSome).filterMap (givenK c)=(keysOf l).filterMap (givenK c):=by
  rw[List.filterMap_filter];refine congrArg (λf=>(keysOf l).filterMap f) (funext λx=>?_);by_cases q:(x.2.1.isSome||x.2.2.head?.isSome)=true
  .rw[Vm q]
  .rw[Vl q];rw[Bool.not_eq_true,Bool.or_eq_false_iff,Option.isSome_eq_false_iff,Option.isSome_eq_false_iff,Option.isNone_iff_eq_none,Option.isNone_iff_eq_none]at q;unfold givenK;rw[q.1,q.2];rfl
 rw[G]at z;unfold ap;refine Ea z.ev ((Qa _).eq ?_);simp
def casesOf(c:Course)(l:List Fact)(b:Int):List Ud:=((keysOf l).filterMap (givenK c)).filter λx=>x.bib==b
def casesF(e:Int)(c:Course)(l:List Fact)(b:Int):List Int×List Penalty:=bif e != 0 then([],[])else((casesOf c l b).map (·.number),(casesOf c l b).map (·.penalty))
theorem QdZ(b:Int)(n:Nat):∀(a:List Ud) (s:List Int×List Penalty),s.1.length+a.length<=1000->s.2.length+a.length<=1000->QhK (F_hl n b) a s=some (.cont (s.1++(a.filter λx=>x.bib==b).map (·.number),s.2++(a.filter λx=>x.bib==b).map (·.penalty)))
 |[],s,_,_=>by simp[QhK]
 |y::a,s,h1,h2=>by
  simp only[XW]at h1 h2;unfold QhK;have e:F_hl n b s y=some (.cont (bif y.bib==b then(s.1++[y.number],s.2++[y.penalty])else s)):=by
   unfold F_hl;cases(y.bib==b)with
   |false=>rfl
   |true=>
    simp only[Vi];rw[Qdu _ _ (by simp;omega)];simp only[XG];rw[Qdu _ _ (by simp;omega)];rfl
  rw[e];show QhK _ a _=_;rw[Xd];cases(y.bib==b)with
  |false=>exact QdZ b n a s (by omega) (by omega)
  |true=>
   simp only[Vi,if_true];rw[QdZ b n a _ (by simp;omega) (by simp;omega)];simp
theorem QoF(e:Int)(c:Course)(l:List Fact)(b:Int)(hl:l.length<=100)(he:Ev (λn=>F_ag n c) e):Ev (λn=>F_w n c l b) (casesF e c l b):=by
 unfold F_w casesF F_eg;refine Ea he ?_;cases(e != 0)with
 |true=>exact Qa _
 |false=>
  simp only[Vj,XG];refine Ea (QqW c l hl) ?_
  grind[Qb2,casesOf,QdZ,Qa]
set_option maxRecDepth 100000
theorem Qqo:F_fz 300=some true:=by kernel_rfl
theorem QoA{c:Course}{b:Bool}(l:List Fact)(a:Ev (λn=>F_bl n c) b):Ev (λn=>F_df n c l) (b&&decide ((l.length:Int)<=14)):=by
 unfold F_df;refine Ea (v:=b&&decide ((l.length:Int)<=14)) (Ea a (Eh λ_=>Qa _)) (Qa _)
theorem QmU(l m:List Int)(hl:l.length<=1048576):Ev (λn=>F_au n l m) (decide (l=m)):=Qmo l m (λn=>F_ln n l m) (by omega) λn s=>rfl
theorem QmT(l m:List Penalty)(hl:l.length<=1048576):Ev (λn=>F_ao n l m) (decide (l=m)):=Qmo l m (λn=>F_lm n l m) (by omega) λn s=>rfl
theorem Qk3(e:Int)(c:Course)(l:List Fact)(b:Int):(casesF e c l b).1.length<=l.length/\(casesF e c l b).2.length<=l.length:=by
 unfold casesF casesOf;cases(e != 0)with
 |true=>simp
 |false=>
  simp only[Vj,XX]
  grind[Qb2]
theorem Qkf{α R:Type}{step:Nat->Int->Option (Ctl Int (Ctl Unit R))}(l:List α)(q:α->Bool)(v:α->R)(hl:l.length<=4611686018427387904)
  (j:∀i x,At l i x->Ev (λn=>step n (i:Int)) (bif q x then .done (.done (v x))else .cont ((i+1:Nat):Int)))(d:Ev (λn=>step n (l.length:Int)) (.done (.cont ()))):
  Ev (λn=>Go.Sw.iter (step n) n 0) ((l.find? q).elim (.cont ()) λx=>.done (v x)):=by
 have loop:∀(r:List α) (i:Nat),l.drop i=r->i<=l.length->EvI step i ((r.find? q).elim (.cont ()) λx=>.done (v x)):=by
  intro r
  induction r with
  |nil=>
   intro i a e;have:i=l.length:=by have:=Xq.1 a;omega
   subst this;exact Ei d
  |cons x r h=>
   intro i a e;obtain⟨g,f⟩:=QC hl a
   grind[EvI.done,EvI.cont]
 exact(loop l 0 rfl (XR _)).ev
theorem Qon{α:Type}(q:α->Bool)(l:List α):(l.find? q).isSome=l.any q:=by
 grind
theorem JL(C:List Fact)(k i:Int)(hl:C.length<=1048576):Ev (λn=>F_aj n C k i) (firstI (rulB k i) C 0):=by
 refine Ev.first C (rulB k i) (by omega) (λj x a=>?_) ?_
 .unfold F_lc;simp only[a.lt,a.ix,XG,a.nx];refine Ea (v:=rulB k i x) (Qcc (Qa _) λn=>?_) ?_
  .unfold rulB
   grind
  .cases rulB k i x<;>exact Qa _
 simp_all[F_lc,Qa]
theorem ref22(c:Course)(hc:Course.wf c)(hf:FewOk c):Ev (λn=>F_bd n c) (courseE c):=Qif c (QeH hc) (Qgp hc) hf (QhG hc).1 (QhG hc).2
def posG{α:Type}(q:α->Bool):List α->Nat
 |[]=>0
 |x::r=>bif q x then posG q r+1 else 0
theorem QlC{α:Type}(q:α->Bool):∀l:List α,posG q l<=l.length
 |[]=>XQ _
 |x::r=>by
  unfold posG;have:=QlC q r
  grind
theorem QpQ{α:Type}{step:Nat->Int->Option (Ctl Int Int)}(q:α->Bool)(l:List α)(hl:l.length<=1048576)
  (m:∀i x,At l i x->Ev (λn=>step n (i:Int)) (bif q x then .cont ((i+1:Nat):Int)else .done (i:Int)))(j:Ev (λn=>step n (l.length:Int)) (.done (l.length:Int))):
  Ev (λn=>Go.Sw.iter (step n) n 0) ((posG q l:Nat):Int):=by
 have loop:∀(r:List α) (i:Nat),l.drop i=r->i<=l.length->EvI step (i:Int) ((i+posG q r:Nat):Int):=by
  intro r
  induction r with
  |nil=>
   intro i a k;have:i=l.length:=by have:=Xq.1 a;omega
   subst this;exact Ei j
  |cons x r g=>
   intro i a k;obtain⟨f,d⟩:=QC (by omega) a;have h:=m i x f;have p:=f.lt';unfold posG;cases e:q x with
   |true=>
    rw[e]at h;refine(Eu h (g (i+1) d (by omega))).eq ?_
    grind
   |false=>rw[e]at h;exact Ei h
 have:=(loop l 0 rfl (XR _)).ev
 grind
def insI(k:Int)(l:List Int):List Int:=if l[posG (λx=>decide (x<k)) l]?=some k then l else l.take (posG (λx=>decide (x<k)) l)++k::l.drop (posG (λx=>decide (x<k)) l)
theorem Qg4(k x:Int)(r:List Int):insI k (x::r)=bif decide (x<k)then x::insI k r else if x=k then x::r else k::x::r:=by
 have e:posG (λx=>decide (x<k)) (x::r)=bif decide (x<k)then posG (λx=>decide (x<k)) r+1 else 0:=rfl
 unfold insI
 grind
theorem QfF(k:Int):∀(l:List Int) (t:Int),t∈insI k l↔t=k\/t∈l
 |[],t=>by simp[insI,posG]
 |x::r,t=>by
  rw[Qg4];cases decide (x<k)with
  |true=>
   simp only[Vi,X0,QfF k r t]
   grind
  |false=>
   grind
theorem Qjk(k:Int):∀{l:List Int},l.Pairwise (· < ·)->(insI k l).Pairwise (· < ·)
 |[],_=>by simp[insI,posG]
 |x::r,h=>by
  rw[Qg4];rw[Xc]at h;by_cases q:x<k
  .rw[YH q,Vi,Xc];refine⟨λy hy=>?_,Qjk k h.2⟩;rcases(QfF k r y).1 hy with rfl|hy
   .exact q
   grind
  .rw[Y3 q,Vj];by_cases e:x=k
   .simp_all
   .rw[Vl e,Xc];refine⟨λy hy=>?_,Xc.2 h⟩
    grind
theorem Qjj(k:Int)(l:List Int):(insI k l).length<=l.length+1:=by
 grind[insI]
theorem Qbf:∀(ks a:List Int),a.Pairwise (· < ·)->((ks.foldl (λa k=>insI k a) a).Pairwise (· < ·)/\(∀t,t∈ks.foldl (λa k=>insI k a) a↔t∈a\/t∈ks)/\(ks.foldl (λa k=>insI k a) a).length<=a.length+ks.length)
 |[],a,h=>(by grind)
 |k::ks,a,h=>by
  rw[XB];obtain⟨h1,h2,h3⟩:=Qbf ks (insI k a) (Qjk k h)
  grind[QfF,Qjj]
theorem Ql3(l:List Int)(k:Int)(hl:l.length<=1000):Ev (λn=>((bif decide (((posG (λx=>decide (x<k)) l:Nat):Int)<(l.length:Int))then(idx l ((posG (λx=>decide (x<k)) l:Nat):Int)).bind λx=>some (x==k)else some false):Option Bool).bind λb=>(bif b then some l else(slc l ((posG (λx=>decide (x<k)) l:Nat):Int) (l.length:Int)).bind λx=>(app [k] x).bind λl1=>(slc l 0 ((posG (λx=>decide (x<k)) l:Nat):Int)).bind λy=>(app y l1).bind λl2=>some l2)) (insI k l):=by
 have a:=QlC (λx=>decide (x<k)) l;unfold insI;generalize posG (λx=>decide (x<k)) l=p at a;refine Ea (v:=decide (l[p]?=some k)) ?_ ?_
 .by_cases q:p<l.length
  .have d:l[p]?=some l[p]:=(by simp);rw[YH (show((p:Nat):Int)<(l.length:Int)by omega),YL d,d];refine(Qa _).eq ?_
   grind
  grind[Qa]
 .by_cases q:l[p]?=some k
  .rw[YH q,Vm q];exact Qa _
  .rw[Y3 q,Vl q];simp only[Vj];rw[Qkn l a,Qfd l a];simp only[XG]
   grind[Qe1,Qa]
theorem Ql1(l:List Int)(k:Int)(hl:l.length<=1000):Ev (λn=>iter (λs:Int=>(((bif decide (s<(l.length:Int))then(idx l s).bind λx=>some (decide (x<k))else some false):Option Bool).bind λb=>(bif b then some (.cont (i64.wrap (s+1)))else some (.done s)):Option (Ctl Int Int))) n 0) ((posG (λx=>decide (x<k)) l:Nat):Int):=by
 refine QpQ (step:=λ_ s=>_) (λx=>decide (x<k)) l (by omega) (λi x a=>?_) ?_
 .simp only[a.lt,Vi,a.ix,XG,a.nx];cases decide (x<k)<;>exact Qa _
 simp_all[Qa]
theorem QlZ(l:List Int)(k:Int)(hl:l.length<=1000):Ev (λn=>F_ay n l k) (insI k l):=by
 unfold F_ay;exact Ea (Ql1 l k hl) (Ql3 l k hl)
theorem Qa0{α:Type}(q:α->Bool)(l:List α):(firstI q l 0= -1/\l.filter q=[])\/ ∃j x,firstI q l 0=((j:Nat):Int)/\l[j]?=some x/\(l.filter q).head? =some x:=by
 rcases Qep q l 0 with⟨a,d⟩|⟨j,x,a,d,h,g⟩
 .simp_all
 .rw[Xu]at a;refine .inr ⟨j,x,a,d,?_⟩;have f:=(XI.1 d).1;have e:l=l.take j++x::l.drop (j+1):=by
   grind[List.getElem_cons_drop,List.take_append_drop]
  grind
theorem Qou(C:List Fact)(k:Int)(hl:C.length<=1048576):Ev (λn=>F_cy n C k) (suspF (fileOf C k)):=by
 unfold F_cy suspF;have g:(fileOf C k).appeal=(C.find? λf=>(f.Kind==11)&&((f.Appeal.Case==k)&&f.Appeal.Suspends)).isSome:=by
  rw[Qon];show C.any (appB k)=_;congr 1
  funext f
  unfold appB
  grind
 have h:(fileOf C k).r1.isEmpty=decide (firstI (rulB k 1) C 0<0):=by
  show(C.filter (rulB k 1)).isEmpty=_;rcases Qa0 (rulB k 1) C with⟨d,e⟩|⟨j,x,d,_,e⟩
  .grind
  grind
 have l:(fileOf C k).r2.isEmpty= !decide (0<=firstI (rulB k 2) C 0):=by
  show(C.filter (rulB k 2)).isEmpty=_;rcases Qa0 (rulB k 2) C with⟨d,e⟩|⟨j,x,d,_,e⟩
  .grind
  grind
 rw[g,h,l];refine Ea (v:=decide (firstI (rulB k 1) C 0<0)||decide (0<=firstI (rulB k 2) C 0)) (Ea (JL C k 1 hl) (Er λ_=>Ea (JL C k 2 hl) (Qa _))) ?_;cases m:decide (firstI (rulB k 1) C 0<0)with
 |true=>exact(Qa _).eq (by simp)
 |false=>
  cases p:decide (0<=firstI (rulB k 2) C 0)with
  |true=>exact(Qa _).eq (by simp)
  |false=>
   refine Yw (Ea (Qkf C (λf=>(f.Kind==11)&&((f.Appeal.Case==k)&&f.Appeal.Suspends)) (λ_=>true) (by omega) (λi x a=>?_) ?_) ?_)
   .unfold F_ki;simp only[a.lt,Vi,a.ix,XG,a.nx];refine Ea (v:=(x.Kind==11)&&((x.Appeal.Case==k)&&x.Appeal.Suspends)) (Eh λ_=>Eh λ_=>Qa _) ?_
    grind[Qa]
   .simp_all[F_ki,Qa]
   .cases C.find? (λf=>(f.Kind==11)&&((f.Appeal.Case==k)&&f.Appeal.Suspends))<;>exact Qa _
theorem Qhg(C:List Fact)(k:Int)(hl:C.length<=1048576):∃b:Int,Ev (λn=>F_bm n C k) b/\((b= -1/\forceF (fileOf C k)=none)\/ ∃(j:Nat) (f:Fact),b=(j:Int)/\C[j]?=some f/\forceF (fileOf C k)=some f.Ruling):=by
 unfold F_bm forceF;have d:=Qou C k hl;cases z:suspF (fileOf C k)with
 |true=>rw[z]at d;exact⟨-1,Ea d (Qa _),.inl ⟨rfl,rfl⟩⟩
 |false=>
  rw[z]at d;simp only[Vj];have er:((fileOf C k).r2++(fileOf C k).r1)=C.filter (rulB k 2)++C.filter (rulB k 1):=rfl;rw[er];rcases Qa0 (rulB k 2) C with⟨e,i⟩|⟨j,x,e,m,i⟩
  .rw[i,Vb];have a:=JL C k 2 hl;rw[e]at a;rcases Qa0 (rulB k 1) C with⟨g,l⟩|⟨j,x,g,p,l⟩
   .have h:=JL C k 1 hl;rw[g]at h;exact⟨-1,Ea d (Yw (Ea a (by grind))),(by grind)⟩
   .have h:=JL C k 1 hl;rw[g]at h;exact⟨(j:Int),Ea d (Yw (Ea a (by grind))),(by grind)⟩
  .have a:=JL C k 2 hl;rw[e]at a;refine⟨(j:Int),Ea d (Yw (Ea a ?_)),.inr ⟨j,x,rfl,m,?_⟩⟩
   .grind[Qa]
   grind
theorem QqU(l:List Fact)(k:Int)(hl:l.length<=100):Ev (λn=>F_dj n l k) (match forceF (fileOf (canonS l) k)with|some g=>(g,true)|none=>(Ux,false)):=by
 have h:=JG l;unfold F_dj;refine Ea (Qb5 l (by omega)) ?_;obtain⟨b,a,⟨rfl,d⟩|⟨j,f,rfl,d,e⟩⟩:=Qhg (canonS l) k (by omega)
 .rw[d];exact Ea a (Qa _)
 .rw[e];refine Ea a ?_
  grind[YL,Qa]
def casN(C:List Fact)(kind:Int):List Int:=((C.filter λf=>f.Kind==kind).map λf=>i64.wrap (f.Ruling.Case+f.Report.Case)).foldl (λa k=>insI k a) []
theorem Qg7{α β:Type}(q:α->Bool)(g:α->Int)(h:β->Int->β):∀(l:List α) (a:β),l.foldl (λa x=>bif q x then h a (g x)else a) a=((l.filter q).map g).foldl h a
 |[],a=>rfl
 |x::l,a=>by
  rw[XB,Qg7 q g h l,Xd]
  grind
theorem Ql9(C:List Fact)(d:Int):casN C d=C.foldl (λa f=>bif f.Kind==d then insI (i64.wrap (f.Ruling.Case+f.Report.Case)) a else a) []:=by
 grind[casN,Qg7]
theorem Qbl(C:List Fact)(a:Int):(casN C a).length<=C.length:=by
 have:=(Qbf ((C.filter λf=>f.Kind==a).map λf=>i64.wrap (f.Ruling.Case+f.Report.Case)) [] List.Pairwise.nil).2.2;unfold casN
 grind
theorem Qev(C:List Fact)(d:Int)(hl:C.length<=100):Ev (λn=>F_ba n C d) (casN C d):=by
 unfold F_ba;refine Ea (v:=casN C d) ?_ (Qa _);rw[Ql9];refine QS C (λa f=>bif f.Kind==d then insI (i64.wrap (f.Ruling.Case+f.Report.Case)) a else a) [] (λa i=>(a,(i:Int))) (λa=>a) (by omega) rfl (λi x a e j=>?_) ?_
 .have h:=e.lt';have g:a.length<=100:=by
   rw[j, <- Ql9]
   grind[Qbl]
  unfold F_kj;simp only[e.lt,Vi,e.ix,XG,e.nx,bne];refine Ea (v:=bif x.Kind==d then insI (i64.wrap (x.Ruling.Case+x.Report.Case)) a else a) ?_ (Qa _);cases(x.Kind==d)with
  |false=>exact Qa _
  |true=>
   simp only[Xh,Vj,Vi];exact Ea (Ql1 a _ (by omega)) (Ql3 a _ (by omega))
 simp_all[F_kj,Qa]
theorem QiL{f:Fact}(h:validS f=true)(k:f.Kind=10):i64.wrap (f.Ruling.Case+f.Report.Case)=f.Ruling.Case:=by
 obtain⟨_,d,g⟩:=QbP h;have e:f.Report.Case=0:=by rw[<- g];unfold onlyS;rw[k];rfl
 unfold contR at d;rw[k]at d;have a:∃b,(true&&(nb f.Ruling.Case 1 1048576&&b))=true:=⟨_,d⟩;obtain⟨b,a⟩:=a;simp only[XT,QaM]at a;rw[e,Yb (by omega) (by omega)];omega
theorem Qec{f:Fact}(h:validS f=true)(k:f.Kind=8):i64.wrap (f.Ruling.Case+f.Report.Case)=f.Report.Case:=by
 obtain⟨_,d,g⟩:=QbP h;have e:f.Ruling.Case=0:=by rw[<- g];unfold onlyS;rw[k];rfl
 unfold contR at d;rw[k]at d;have a:∃b,(true&&(nb f.Report.Case 1 1048576&&b))=true:=⟨_,d⟩;obtain⟨b,a⟩:=a;simp only[XT,QaM]at a;rw[e,Yb (by omega) (by omega)];omega
theorem Qin(C:List Fact)(a:Int):(casN C a).Pairwise (· < ·)/\ ∀t,t∈casN C a↔ ∃f∈C,f.Kind=a/\i64.wrap (f.Ruling.Case+f.Report.Case)=t:=by
 obtain⟨d,e,_⟩:=Qbf ((C.filter λf=>f.Kind==a).map λf=>i64.wrap (f.Ruling.Case+f.Report.Case)) [] List.Pairwise.nil;refine⟨d,λt=>?_⟩;unfold casN
 grind
def repK(C:List Fact)(k:Int):Option Report:=((C.filter (repB k)).map (·.Report)).head?
theorem QjU(l:List Fact)(k:Int):k∈casN (canonS l) 8↔ ∃f∈canonS l,repB k f=true:=by
 rw[(Qin _ _).2];constructor
 .grind[Qec,Qag,repB]
 .rintro⟨f,a,b⟩;unfold repB at b;simp only[XT,Vs]at b
  grind[Qec,Qag]
theorem QgR(C:List Fact)(k:Int):(C.find? (repB k)).map (·.Report)=repK C k:=by
 grind[repK,List.head?_map]
theorem QdN(C:List Fact)(k:Int):(repK C k).isSome=true↔ ∃f∈C,repB k f=true:=by
 rw[<- QgR,Option.isSome_map,List.find?_isSome]
theorem Qch{C:List Fact}{k:Int}{r:Report}(h:repK C k=some r):r.Case=k:=by
 obtain⟨f,a,rfl⟩:=Xf.1 (List.mem_of_head? h)
 simp_all[repB]
theorem Qeu(l:List Fact)(hl:l.length<=100):Ev (λn=>F_bf n l) ((casN (canonS l) 8).filterMap (repK (canonS l))):=by
 have w:=JG l;unfold F_bf;refine Ea (Qb5 l (by omega)) (Ea (Qev _ 8 (by omega)) ?_);have s:=Qbl (canonS l) 8;generalize casN (canonS l) 8=S at s;generalize canonS l=C at*;refine Ea (QiC S (repK C) (by omega) (λi k a g u=>?_) λa=>?_) (Qa _)
 .have x:=g.lt';unfold F_kz;simp only[g.lt,Vi,g.nx];refine Ea (v:=a++(repK C k).toList) ?_ (Qa _);have loop:∀(r:List Fact) (j:Nat),C.drop j=r->j<=C.length->EvI (λn=>F_gs n C S (a,(i:Int))) (j:Int) (a++((r.find? (repB k)).map (·.Report)).toList):=by
   intro r
   induction r with
   |nil=>
    intro j h p;refine Ei ?_;unfold F_gs;simp only[Q9 h p,Vj];exact(Qa _).eq (by simp)
   |cons f r t=>
    intro j h p;obtain⟨d,m⟩:=QC (by omega) h;have q:=d.lt';rw[List.find?_cons];cases e:repB k f with
    |true=>
     refine Ei ?_;unfold F_gs;simp only[d.lt,Vi,d.ix,g.ix,XG];refine Ea (v:=repB k f) (Eh λ_=>Qa _) ?_;rw[e];simp only[Vi]
     grind[JW,Qa]
    |false=>
     refine Eu ?_ (t (j+1) m (by omega));unfold F_gs;simp only[d.lt,Vi,d.ix,g.ix,XG,d.nx];refine Ea (v:=repB k f) (Eh λ_=>Qa _) ?_;rw[e];exact Qa _
  have:=(loop C 0 rfl (XR _)).ev;rw[QgR]at this;exact this
 simp_all[F_kz,Qa]
theorem QpP(l:List Fact)(hl:l.length<=100):Ev (λn=>F_dz n l) ((casN (canonS l) 10).filterMap λk=>forceF (fileOf (canonS l) k)):=by
 have q:=JG l;unfold F_dz;refine Ea (Qb5 l (by omega)) (Ea (Qev _ 10 (by omega)) ?_);have h:=Qbl (canonS l) 10;generalize casN (canonS l) 10=S at h;generalize canonS l=C at*;refine Ea (QiC S (λk=>forceF (fileOf C k)) (by omega) (λi k a d p=>?_) λa=>?_) (Qa _)
 .have r:=d.lt';unfold F_lg;simp only[d.lt,Vi,d.ix,XG,d.nx];obtain⟨b,g,⟨rfl,e⟩|⟨j,f,rfl,e,m⟩⟩:=Qhg C k (by omega)
  .rw[e];exact Ea g ((Qa _).eq (by simp))
  .rw[m];refine Ea g ?_;rw[YH (by omega:(0:Int)<=(j:Int)),YL e];simp only[Vi,XG]
   grind[JW,Qa]
 simp_all[F_lg,Qa]
theorem QlT{α β:Type}(g:α->Option β)(key:β->Int)(id:α->Int)(h:∀x y,g x=some y->key y=id x):∀(l:List α) (x:α),l.Pairwise (λa b=>id a≠id b)->x∈l->(l.filterMap g).find? (λy=>key y==id x)=g x
 |[],x,_,hx=>by cases hx
 |a::l,x,hp,hx=>by
  rw[Xc]at hp;rw[List.filterMap_cons];rcases X0.1 hx with rfl|hx
  .grind
  .have ih:=QlT g key id h l x hp.2 hx
   grind
theorem QmV(l:List Fact)(k:Int)(hl:l.length<=100):Ev (λn=>F_bu n l k) (match repK (canonS l) k with|some r=>(r,true)|none=>(Uw,false)):=by
 unfold F_bu;refine Ea (Qeu l hl) ?_;have m:=JG l;have s:=Qbl (canonS l) 8;have g:((casN (canonS l) 8).filterMap (repK (canonS l))).length<=100:=(by grind);have e:((casN (canonS l) 8).filterMap (repK (canonS l))).find? (λr=>r.Case==k)=repK (canonS l) k:=by
  by_cases d:k∈casN (canonS l) 8
  .exact QlT (repK (canonS l)) (λr:Report=>r.Case) (λk=>k) (λx y h=>Qch h) _ k ((Qin _ _).1.imp λh=>by omega) d
  .have f:repK (canonS l) k=none:=by
    cases q:repK (canonS l) k with
    |none=>rfl
    |some r=>exact absurd ((QjU l k).2 ((QdN _ _).1 (by rw[q];rfl))) d
   rw[f,List.find?_eq_none];intro r j q;obtain⟨b,t,p⟩:=List.mem_filterMap.1 j;rw[Qch p,Vs]at q
   grind
 generalize(casN (canonS l) 8).filterMap (repK (canonS l))=R at g e;refine Ea (Qkf R (λr=>r.Case==k) (λr=>(r,true)) (by omega) (λi x a=>?_) ?_) ?_
 .unfold F_le;simp only[a.lt,Vi,a.ix,XG,a.nx];cases(x.Case==k)<;>exact Qa _
 .simp_all[F_le,Qa]
 grind[Qa]
def penR(x:Option Ud):Int×Penalty×Bool:=match x with
 |some y=>(y.bib,y.penalty,true)
 |none=>(0,Ut,false)
theorem QkP(c:Course)(l:List Fact)(k:Int)(hl:l.length<=100):Ev (λn=>F_br n c l k) (penR (givenK c (keyF (fileOf (canonS l) k)))):=by
 unfold F_br;refine Ea (QqU l k hl) ?_;have m:keyF (fileOf (canonS l) k)=(k,forceF (fileOf (canonS l) k),((canonS l).filter (repB k)).map (·.Report)):=rfl;rw[m];have f:Ev (λn=>((F_bu n l k).bind λd=>((bif (!d.2)then some true else(bif decide (d.1.Offence<0)then some true else some (decide ((c.Offences.length:Int)<=d.1.Offence)))):Option Bool).bind λh=>(bif h then some ((0:Int),Ut,false)else(idx c.Offences d.1.Offence).bind λe=>some (d.1.Bib,{Position:=d.1.Position,Time:=e.Time,Laps:=e.Laps,Out:=e.Out:Penalty},true)))) (penR (viaR c k (((canonS l).filter (repB k)).map (·.Report)).head?)):=by
  refine Ea (QmV l k hl) ?_;show Ev _ (penR (viaR c k (repK (canonS l) k)));cases repK (canonS l) k with
  |none=>exact Qa _
  |some r=>
   simp only[Xh,Vj,viaR];cases t:decide (r.Offence<0)with
   |true=>exact Qa _
   |false=>
    cases i:decide ((c.Offences.length:Int)<=r.Offence)with
    |true=>exact Qa _
    |false=>
     simp only[Vj,XG,Bool.or_self];have a:=Vq t;have b:=Vq i;have:idx c.Offences r.Offence=some (c.Offences[r.Offence.toNat]'(by omega)):=by
      unfold idx
      grind
     rw[this];exact Qa _
 cases u:forceF (fileOf (canonS l) k)with
 |none=>exact Ea (v:=Ctl.cont ()) (Qa _) f
 |some g=>
  unfold givenK rulP;simp only[Vi];by_cases j:g.Kind=3
  .rw[j];exact Qa _
  by_cases s:g.Kind=4
  .rw[s];exact Qa _
  by_cases q:g.Kind=5
  .rw[q];exact Qa _
  by_cases p:g.Kind=2
  .rw[p];exact Qa _
  grind
def numsR(l:List Fact):List Int:=(((casN (canonS l) 10).filterMap λk=>forceF (fileOf (canonS l) k)).map (·.Case)).foldl (λa k=>insI k a) ((((casN (canonS l) 8).filterMap (repK (canonS l))).map (·.Case)).foldl (λa k=>insI k a) [])
theorem QfL{C:List Fact}{k:Int}{g:Ruling}(h:forceF (fileOf C k)=some g):∃f∈C,f.Kind=10/\f.Ruling.Case=k:=by
 unfold forceF at h;cases q:suspF (fileOf C k)with
 |true=>grind
 |false=>
  rw[q,Vj,Option.map_eq_some_iff]at h;obtain⟨f,a,_⟩:=h;have:=Qhb ((Vx.1 (List.mem_of_head? a)).symm)
  grind
theorem QhL(l:List Fact)(k:Int):k∈((casN (canonS l) 8).filterMap (repK (canonS l))).map (·.Case)↔(repK (canonS l) k).isSome=true:=by
 rw[Xf];constructor
 .rintro⟨r,a,rfl⟩;obtain⟨b,_,e⟩:=List.mem_filterMap.1 a;rw[Qch e,e];rfl
 .intro h;obtain⟨r,a⟩:=Option.isSome_iff_exists.1 h;exact⟨r,List.mem_filterMap.2 ⟨k,(QjU l k).2 ((QdN _ _).1 h),a⟩,Qch a⟩
theorem Qir(l:List Fact)(k:Int):k∈((casN (canonS l) 10).filterMap λk=>forceF (fileOf (canonS l) k)).map (·.Case)↔(forceF (fileOf (canonS l) k)).isSome=true:=by
 rw[Xf];constructor
 .rintro⟨r,a,rfl⟩;obtain⟨b,_,e⟩:=List.mem_filterMap.1 a;rw[QcT e,e];rfl
 .intro h;obtain⟨r,a⟩:=Option.isSome_iff_exists.1 h;obtain⟨f,g,d,i⟩:=QfL a;refine⟨r,List.mem_filterMap.2 ⟨k,((Qin _ _).2 k).2 ⟨f,g,d,?_⟩,a⟩,QcT a⟩
  grind[QiL,Qag]
def hasB(x:KeyT):Bool:=x.2.1.isSome||x.2.2.head?.isSome
theorem QlN{l:List Fact}{x:KeyT}(h:x∈keysOf l):x=keyF (fileOf (canonS l) x.1):=by
 unfold keysOf filesS at h;rw[List.map_map]at h;obtain⟨k,_,rfl⟩:=Xf.1 h;rfl
theorem Qn0(l:List Fact):numsR l=((keysOf l).filter hasB).map (·.1):=by
 obtain⟨q,r,_⟩:=Qbf (((casN (canonS l) 8).filterMap (repK (canonS l))).map (·.Case)) [] List.Pairwise.nil;obtain⟨m,p,_⟩:=Qbf (((casN (canonS l) 10).filterMap λk=>forceF (fileOf (canonS l) k)).map (·.Case)) _ q;refine QdK (lt:=λa b:Int=>a<b) (λa b h=>by omega) m ((QlM l).inc.sublist ((List.filter_sublist).map _)) λk=>?_;unfold numsR;rw[p,r,QhL,Qir];simp only[List.not_mem_nil,false_or,Xf,Xe];have e:(∃f∈canonS l,caseN f=some k)->(hasB (keyF (fileOf (canonS l) k))=true)->∃x,(x∈keysOf l/\hasB x=true)/\x.1=k:=λi d=>
  ⟨keyF (fileOf (canonS l) k),⟨Xf.2 ⟨fileOf (canonS l) k,Xf.2 ⟨k,((Qfs _).2 k).2 i,rfl⟩,rfl⟩,d⟩,rfl⟩
 constructor
 .rintro(h|h)
  .obtain⟨f,j,s⟩:=(QdN _ _).1 h;refine e ⟨f,j,?_⟩ ?_
   .simp_all[repB,caseN]
   .unfold hasB;rw[Bool.or_eq_true];exact .inr h
  .obtain⟨g,n⟩:=Option.isSome_iff_exists.1 h;obtain⟨f,j,u,t⟩:=QfL n;refine e ⟨f,j,?_⟩ ?_
   .unfold caseN
    grind
   .unfold hasB;rw[Bool.or_eq_true];exact .inl h
 .rintro⟨x,⟨i,d⟩,rfl⟩;rw[QlN i]at d;unfold hasB at d;rw[Bool.or_eq_true]at d;exact d.symm
theorem QmN{c:Course}{x:KeyT}{y:Ud}(h:givenK c x=some y):y.number=x.1:=by
 have a:∀{r:Option Report},viaR c x.1 r=some y->y.number=x.1:=by
  intro r h;unfold viaR at h;cases r with
  |none=>cases h
  |some r=>
   simp only at h;cases z:decide (r.Offence<0)||decide ((c.Offences.length:Int)<=r.Offence)with
   |true=>grind
   |false=>
    rw[z,Vj,Option.map_eq_some_iff]at h
    grind
 unfold givenK at h;cases q:x.2.1 with
 |none=>grind
 |some g=>
  rw[q]at h;simp only at h;cases z:(g.Kind==5)||((g.Kind==4)||(g.Kind==3))with
  |true=>
   rw[z,Vi]at h;unfold rulP at h
   grind
  |false=>
   grind
def ownG(c:Course)(l:List Fact)(b:Int)(k:Int):Option Ud:=(givenK c (keyF (fileOf (canonS l) k))).filter λy=>y.bib==b
theorem QmO{c:Course}{x:KeyT}(h:hasB x=false):givenK c x=none:=by
 unfold hasB at h;rw[Bool.or_eq_false_iff,Option.isSome_eq_false_iff,Option.isSome_eq_false_iff,Option.isNone_iff_eq_none,Option.isNone_iff_eq_none]at h;unfold givenK;rw[h.1,h.2];rfl
theorem QmA(c:Course)(l:List Fact)(b:Int):(numsR l).filterMap (ownG c l b)=casesOf c l b:=by
 rw[Qn0];unfold casesOf;have g:∀K:List KeyT,(∀x∈K,x=keyF (fileOf (canonS l) x.1))->((K.filter hasB).map (·.1)).filterMap (ownG c l b)=(K.filterMap (givenK c)).filter λx=>x.bib==b:=by
  intro K
  induction K with
  |nil=>intro _;rfl
  |cons x K a=>
   intro h;have d:=h x (by simp);have a:=a λy e=>h y (by simp[e]);rw[Xd,List.filterMap_cons (f:=givenK c)];cases z:hasB x with
   |false=>rw[QmO z,Vl Bool.false_ne_true];exact a
   |true=>
    rw[Vm rfl,Vd,List.filterMap_cons,a];unfold ownG
    grind
 exact g _ λx d=>QlN d
theorem QfN(g:Int->Option Ud):∀(ks:List Int) (s:List Int×List Penalty),ks.foldl (λs k=>match g k with|some y=>(s.1++[y.number],s.2++[y.penalty])|none=>s) s=(s.1++(ks.filterMap g).map (·.number),s.2++(ks.filterMap g).map (·.penalty))
 |[],s=>by simp
 |k::ks,s=>by
  rw[XB,QfN g ks,List.filterMap_cons]
  grind
theorem QcU{α:Type}(g:α->Int):∀(l:List α) (a:List Int),(l.map g).foldl (λa k=>insI k a) a=l.foldl (λa x=>insI (g x) a) a
 |[],a=>rfl
 |x::l,a=>by rw[Vd,XB,XB,QcU g l]
theorem Qbg{α:Type}(g:α->Int):∀(l:List α) (a:List Int),(l.foldl (λa x=>insI (g x) a) a).length<=a.length+l.length
 |[],a=>by simp
 |x::l,a=>by
  rw[XB];have h1:=Qbg g l (insI (g x) a)
  grind[Qjj]
theorem QmW(e:Int)(c:Course)(l:List Fact)(b:Int)(hl:l.length<=100)(he:Ev (λn=>F_bd n c) e):Ev (λn=>F_cq n c l b) (casesF e c l b):=by
 unfold F_cq casesF;refine Ea he ?_;cases(e != 0)with
 |true=>exact Qa _
 |false=>
 simp only[Vj];have E:=JG l;have B:=Qbl (canonS l) 8;have r:=Qbl (canonS l) 10;have u:((casN (canonS l) 8).filterMap (repK (canonS l))).length<=100:=(by grind);have p:((casN (canonS l) 10).filterMap λk=>forceF (fileOf (canonS l) k)).length<=100:=(by grind);have f:=QmA c l b;unfold numsR at f;rw[QcU (λg:Ruling=>g.Case),QcU (λg:Report=>g.Case)]at f;refine Ea (Qeu l hl) ?_;generalize(casN (canonS l) 8).filterMap (repK (canonS l))=R at u f;refine Ea (v:=R.foldl (λa x=>insI x.Case a) []) (QS R (λa x=>insI x.Case a) [] (λa i=>(a,(i:Int))) (λa=>a) (by omega) rfl (λi x a d j=>?_) ?_) ?_
 .have h:=d.lt';have m:a.length<=100:=by
   rw[j];have:=Qbg (λx:Report=>x.Case) (R.take i) []
   grind
  unfold F_la;simp only[d.lt,Vi,d.ix,XG,d.nx];exact Ea (QlZ a _ (by omega)) (Qa _)
 .simp_all[F_la,Qa]
 refine Ea (QpP l hl) ?_;have t:=Qbg (λx:Report=>x.Case) R [];simp only[List.length_nil]at t;generalize R.foldl (λa x=>insI x.Case a) []=A at t f;generalize((casN (canonS l) 10).filterMap λk=>forceF (fileOf (canonS l) k))=G at p f;refine Ea (v:=G.foldl (λa x=>insI x.Case a) A) (QS G (λa x=>insI x.Case a) A (λa i=>(a,(i:Int))) (λa=>a) (by omega) rfl (λi x a d j=>?_) ?_) ?_
 .have h:=d.lt';have m:a.length<=200:=by
   rw[j];have:=Qbg (λx:Ruling=>x.Case) (G.take i) A
   grind
  unfold F_kq;simp only[d.lt,Vi,d.ix,XG,d.nx];exact Ea (QlZ a _ (by omega)) (Qa _)
 .simp_all[F_kq,Qa]
 have F:=Qbg (λx:Ruling=>x.Case) G A;generalize G.foldl (λa x=>insI x.Case a) A=S at F f;have er:((casesOf c l b).map (·.number),(casesOf c l b).map (·.penalty))=S.foldl (λs k=>match ownG c l b k with|some y=>(s.1++[y.number],s.2++[y.penalty])|none=>s) ([],[]):=by rw[QfN,f];rfl
 rw[er];refine Ea (QS S (λs k=>match ownG c l b k with|some y=>(s.1++[y.number],s.2++[y.penalty])|none=>s) ([],[]) (λs i=>(s.1,s.2,(i:Int))) (λs=>s) (by omega) rfl (λi k s d j=>?_) ?_) (Qa _)
 .have h:=d.lt';have H:s.1.length<=200/\s.2.length<=200:=by
   rw[j,QfN]
   grind
  unfold F_kr;simp only[d.lt,Vi,d.ix,XG,d.nx];refine Ea (QkP c l k hl) ?_;unfold ownG;cases z:givenK c (keyF (fileOf (canonS l) k))with
  |none=>exact Qa _
  |some y=>
   have w:y.number=k:=QmN z;simp only[penR,Vi,XG,Option.filter];by_cases q:(y.bib==b)=true
   .simp only[Vm q,w];rw[q];simp only[Vi]
    grind[JW,Qa]
   .simp only[Vl q];rw[Bool.not_eq_true]at q;rw[q];exact Qa _
 simp_all[F_kr,Qa]
end Go.Sw
