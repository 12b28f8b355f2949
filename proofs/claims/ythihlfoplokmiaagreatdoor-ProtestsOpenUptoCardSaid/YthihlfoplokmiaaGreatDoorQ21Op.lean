/- The plain laws that a law needs, with no program in sight. -/
import Derived.Test.YthihlfoplokmiaaGreatDoorW21Op
set_option linter.unusedVariables false
set_option linter.unusedSimpArgs false
namespace Go.Sw
def inR(lo hi x:Int):Bool:=decide (lo<=x)&&decide (x<=hi)
theorem Qgf(lo hi:Int)(l:List Int)(hl:l.length<=4611686018427387904):Ev (λn=>F_a n lo hi l) (l.all (inR lo hi)):=by
 have h:Ev (λn=>F_bu n l lo hi) (l.any λx=> !inR lo hi x):=by
  unfold F_bu F_dt;refine Ev.contains l _ (λn x=>F_au n x lo hi) hl λx _=>?_;unfold F_au;refine Ea (v:= !inR lo hi x) ?_ (Qa _);refine(Et λh=>Qa _).eq ?_;unfold inR;rw[XZ];simp
 unfold F_a;refine Ea h ((Qa _).eq ?_);rw[List.not_any_eq_all_not];simp
def okN(c:Nat):Bool:=(decide (97<=c)&&decide (c<=122))||(decide (48<=c)&&decide (c<=57))||decide (c=95)
def okAN(c:Nat):Bool:=decide (97<=c)&&decide (c<=122)
def okC(c:UInt8):Bool:=okN c.toNat
def okA(c:UInt8):Bool:=okAN c.toNat
def kwL:List (List UInt8):=[[99,111,117,114,115,101],[109,97,116,115],[115,116,97,114,116],[112,97,115,115],[101,110,100],[108,101,103],[116,111],[100,105,115,116,97,110,99,101],[103,117,110],[99,104,105,112],[115,108,111,116],[108,97,112,115],[108,97,112],[99,117,116,111,102,102],[101,120,116,114,97],[119,97,118,101],[111,102,102,101,110,99,101],[111,117,116],[99,97,116,101,103,111,114,121],[112,114,105,122,101],[97,108,108],[116,105,101,115],[105,102],[101,108,115,101],[97,110,100],[111,114],[110,111,116],[111,108,100,101,114],[121,111,117,110,103,101,114],[98,105,98],[100,114,97,119],[102,105,101,108,100],[115,104,111,114,116],[102,97,117,108,116,115],[109,105,115,115,101,115],[115,116,114,97,121,115],[119,105,110,100,111,119],[114,101,115,105,100,117,97,108],[100,114,105,102,116],[112,114,111,116,101,115,116],[102,101,101],[100,101,97,100,108,105,110,101]]
theorem QmW(c d:Bool):(bif c then some c else some d)=some (c||d):=by cases c<;>rfl
def kwsOf:List UInt8->List (List UInt8)
 |[]=>[]
 |b::l=>(bif b==32&& !(l.dropWhile λc=>c != 32).isEmpty then[l.takeWhile λc=>c != 32]else[])++kwsOf l
theorem QdU:∀(l s:List UInt8),(∀c∈s,c≠32)->(s++[32]).isPrefixOf l=((l.takeWhile λc=>c != 32)==s&& !(l.dropWhile λc=>c != 32).isEmpty)
 |[],s,h=>by cases s<;>simp
 |b::l,[],h=>by
  by_cases e:b=32
  .subst e;simp[List.isPrefixOf]
  .have e1:(b != 32)=true:=by simpa using e
   have g:(32==b)=false:=by simpa using λq=>e q.symm
   simp[List.isPrefixOf,List.takeWhile_cons,e1,g]
 |b::l,c::s,h=>by
  have j:=h c (by simp);have a:=QdU l s λd f=>h d (by simp[f]);by_cases e:b=32
  .subst e;have:(c==32)=false:=by simpa using j
   simp[List.isPrefixOf,this]
  .have e1:(b != 32)=true:=by simpa using e
   simp only[VL,List.isPrefixOf,List.takeWhile_cons,List.dropWhile_cons,e1,if_true,a,List.cons_beq_cons];by_cases q:c=b
   .subst q;simp
   .have k:(c==b)=false:=by simpa using q
    have i:(b==c)=false:=by simpa using λz=>q z.symm
    simp[k,i]
theorem contains_cons(b:UInt8)(l t:List UInt8)(d:t≠[]):Lib.contains (b::l) t=(t.isPrefixOf (b::l)||Lib.contains l t):=by
 unfold Lib.contains;rw[show Lib.index (b::l) t=if t.isPrefixOf (b::l)then 0 else if Lib.index l t== -1 then-1 else Lib.index l t+1 from rfl];cases h:t.isPrefixOf (b::l)with
 |true=>simp
 |false=>
  have:=Lib.index_ge l t;by_cases q:Lib.index l t= -1
  .simp[q]
  .have a:(Lib.index l t== -1)=false:=by simpa using q
   simp only[a,Bool.false_or];rw[XZ];simp;omega
theorem QbX(s:List UInt8)(h:∀c∈s,c≠32):∀l,Lib.contains l (32::(s++[32]))=(kwsOf l).contains s
 |[]=>by simp[Lib.contains,Lib.index,kwsOf]
 |b::l=>by
  rw[contains_cons b l _ (by simp),QbX s h l];simp only[kwsOf,List.isPrefixOf,QdU l s h];by_cases e:b=32
  .subst e;cases q: !(l.dropWhile λc=>c != 32).isEmpty with
   |true=>
    simp only[q,beq_self_eq_true,VB,Bool.and_true,Vq,VL,Vi,List.contains_cons];congr 1;rw[XZ];simp only[Vz];exact⟨λh=>h.symm,λh=>h.symm⟩
   |false=>simp[q]
  .have e1:(b==32)=false:=by simpa using e
   have a:(32==b)=false:=by simpa using λq=>e q.symm
   simp[e1,a]
def wordsL:List UInt8:=[32,99,111,117,114,115,101,32,109,97,116,115,32,115,116,97,114,116,32,112,97,115,115,32,101,110,100,32,108,101,103,32,116,111,32,100,105,115,116,97,110,99,101,32,103,117,110,32,99,104,105,112,32,115,108,111,116,32,108,97,112,115,32,108,97,112,32,99,117,116,111,102,102,32,101,120,116,114,97,32,119,97,118,101,32,111,102,102,101,110,99,101,32,111,117,116,32,99,97,116,101,103,111,114,121,32,112,114,105,122,101,32,97,108,108,32,116,105,101,115,32,105,102,32,101,108,115,101,32,97,110,100,32,111,114,32,110,111,116,32,111,108,100,101,114,32,121,111,117,110,103,101,114,32,98,105,98,32,100,114,97,119,32,102,105,101,108,100,32,115,104,111,114,116,32,102,97,117,108,116,115,32,109,105,115,115,101,115,32,115,116,114,97,121,115,32,119,105,110,100,111,119,32,114,101,115,105,100,117,97,108,32,100,114,105,102,116,32,112,114,111,116,101,115,116,32,102,101,101,32,100,101,97,100,108,105,110,101,32]
theorem Qpf:kwsOf wordsL=kwL:=by decide+kernel
def classTab:List Int:=(List.range 256).map λi=>if 97<=i/\i<=122\/65<=i/\i<=90 then 2 else if 48<=i/\i<=57 then 3 else if i∈[123,125,40,41,91,93,59,44,61,60,62]then 4 else if i∈[32,9,10,13]then 1 else 0
theorem Qjp:Ev F_ba classTab:=by
 unfold F_ba;refine Ea (Qcg (step:=F_fd 0) 40 (b:=(iter (F_fd 0) 40 (List.replicate 256 0,97)).getD []) (by decide+kernel)) ?_;refine Ea (Qcg (step:=F_gq 0) 40 (b:=(iter (F_gq 0) 40 ((iter (F_fd 0) 40 (List.replicate 256 0,97)).getD [],48)).getD []) (by decide+kernel)) ?_;generalize hb:(iter (F_gq 0) 40 ((iter (F_fd 0) 40 (List.replicate 256 0,97)).getD [],48)).getD []=b2;refine Ea (Qcg (step:=F_ha 0) 40 (b:=(iter (F_ha 0) 40 (b2,0)).getD []) (by subst hb;decide+kernel)) ?_;refine Ea (Qcg (step:=F_ho 0) 40 (b:=classTab) (by subst hb;decide+kernel)) ?_;exact Ez (by decide+kernel)
theorem Qk7:((List.range 256).all λi=> !okN i||decide (classTab[i]?=some (if okAN i then 2 else if i=95 then 0 else 3)))=true:=by decide+kernel
theorem QmV{c:UInt8}(h:okC c=true):Qee 256 classTab (c.toNat:Int)=some (if okA c then 2 else if c.toNat=95 then 0 else 3):=by
 have a:=Xt.1 Qk7 c.toNat (List.mem_range.2 c.toNat_lt);unfold okC at h;rw[h]at a;simp only[Xh,Bool.false_or,Vs]at a;unfold Qee;rw[show Nat.beq classTab.length 256=true by decide+kernel,Vq,YS a];rfl
def goodS(s:List UInt8):Bool:=decide (1<=s.length)&&decide (s.length<=24)&&(s.head?).any okA&&s.all okC
def isNameS(s:List UInt8):Bool:=goodS s&& !kwL.contains s
theorem QkW(s:List UInt8)(h:goodS s=true):Ev (λn=>F_bb n s) true:=by
 unfold goodS at h;simp only[XX,Vs,Xt]at h;obtain⟨⟨⟨d,k⟩,e⟩,g⟩:=h;unfold F_bb;refine Ea Qjp ?_;refine QaW (v:=List.replicate 256 0) (by decide+kernel) ?_;refine QaW (v:=classTab) (by decide+kernel) ?_;refine Ea (v:=Ctl.cont ()) (Ev.iter (λi=>(i:Int)) s.length rfl (λi f=>?_) ?_) ?_
 .have a:=JB (x:=s[i]) (by omega) (XL f);have j:=g _ a.mem;unfold F_hk;simp only[a.lt,Vq,a.ix,XK,QmV j,a.nx];cases i with
  |zero=>
   have:okA s[0]=true:=by
    cases s with
    |nil=>simp at d
    |cons c r=>simpa using e
   simp[this];exact Qa _
  |succ i=>
   by_cases q:okA s[i+1]=true
   .simp[q];exact Qa _
   .by_cases b:s[i+1].toNat=95
    .simp[q,b];exact Qa _
    .simp[q,b];exact Qa _
 .unfold F_hk;simp only[Ju,Vr];exact Qa _
 .refine Ez ?_;cases s with
  |nil=>simp at d
  |cons c r=>rfl
theorem QkR{s:List UInt8}(h:goodS s=true):∀c∈s,c≠32:=by
 unfold goodS at h;simp only[XX,Xt]at h;rintro c a rfl;exact absurd (h.2 _ a) (by decide)
theorem Qmp{s:List UInt8}(h:goodS s=true):s.length<=24:=by
 unfold goodS at h;simp only[XX,Vs]at h;exact h.1.1.2
theorem Qjq(s:List UInt8)(h:goodS s=true):Ev (λn=>F_cm n s) (kwL.contains s):=by
 unfold F_cm;refine Ea (v:=kwL.contains s) ?_ (Qa _);refine Ea (QkW s h) (QoD ?_);have a:=Qmp h;refine QaW (v:=[32]++s) (by unfold cat;rw[XT (by simp;omega)];rfl) ?_;refine QaW (v:=[32]++s++[32]) (by unfold cat;rw[XT (by simp;omega)];rfl) ?_;refine QaW (v:=kwL.contains s) ?_ (Qa _);show QeY wordsL ([32]++s++[32])=some (kwL.contains s);unfold QeY;rw[show Nat.blt wordsL.length 4294967281=true by decide+kernel,Vq];rw[show[32]++s++[32]=32::(s++[32])by simp,QbX s (QkR h),Qpf]
theorem ch_lt(c:UInt8)(k:Nat):decide ((c.toNat:Int)<(k:Int))=decide (c.toNat<k):=by
 rw[XZ];simp
theorem badC(c:UInt8):(bif decide ((c.toNat:Int)<97)then(bif decide ((c.toNat:Int)<48)then some ((c.toNat:Int) != 95)else(bif decide (57<(c.toNat:Int))then some ((c.toNat:Int) != 95)else some false))else(bif decide (122<(c.toNat:Int))then(bif decide ((c.toNat:Int)<48)then some ((c.toNat:Int) != 95)else(bif decide (57<(c.toNat:Int))then some ((c.toNat:Int) != 95)else some false))else some false))=some (!okC c):=by
 unfold okC okN;generalize c.toNat=k;have e:((k:Int) != 95)= !decide (k=95):=by
  by_cases h:k=95
  .subst h;rfl
  .rw[Vy h];simp;omega
 rw[e];by_cases i:k<48
 .rw[YX (show(k:Int)<97 by omega),YX (show(k:Int)<48 by omega)];have a:¬97<=k:=by omega
  have f:¬48<=k:=by omega
  simp[a,f]
 .rw[YJ (show¬(k:Int)<48 by omega)];by_cases b:k<=57
  .rw[YX (show(k:Int)<97 by omega),YJ (show¬57<(k:Int)by omega)];have a:48<=k:=by omega
   simp[a,b]
  .rw[YX (show 57<(k:Int)by omega)];by_cases g:k<97
   .rw[YX (show(k:Int)<97 by omega)];have a:¬97<=k:=by omega
    simp[a,b]
   .rw[YJ (show¬(k:Int)<97 by omega)];by_cases d:k<=122
    .rw[YJ (show¬122<(k:Int)by omega)];have a:97<=k:=by omega
     simp[a,d]
    .rw[YX (show 122<(k:Int)by omega)];simp[b,d]
theorem QkM(n:Nat)(s:List UInt8):(bif decide ((s.length:Int)<1)then some true else(bif decide (24<(s.length:Int))then some true else(idx s 0).bind λx10=>(bif decide ((x10.toNat:Int)<97)then some true else(idx s 0).bind λx12=>some (decide (122<(x12.toNat:Int))))))=some (!(decide (1<=s.length)&&decide (s.length<=24)&&(s.head?).any okA)):=by
 cases s with
 |nil=>rfl
 |cons c r=>
  rw[YJ (show¬((c::r).length:Int)<1 by simp;omega),Vr];by_cases h:(c::r).length<=24
  .rw[YJ (show¬24<((c::r).length:Int)by omega),Vr];have d:idx (c::r) 0=some c:=rfl;simp only[d,XK];simp only[X2]at h;have a:r.length<=23:=by omega
   simp only[List.head?_cons,Option.any_some,okA,okAN];rw[show(97:Int)=((97:Nat):Int)from rfl,ch_lt];by_cases b:c.toNat<97
   .have:¬97<=c.toNat:=by omega
    simp[b,this]
   .have e:97<=c.toNat:=by omega
    simp[b,e,a];by_cases q:c.toNat<=122
    .rw[YJ (show¬122<(c.toNat:Int)by omega),YX q];rfl
    .rw[YX (show 122<(c.toNat:Int)by omega),YJ q];rfl
  .rw[YX (show 24<((c::r).length:Int)by omega),Vq];simp only[X2]at h;have a:¬r.length<=23:=by omega
   simp[a]
theorem Qgj(s:List UInt8)(hl:s.length<=1048576):Ev (λn=>F_d n s) (isNameS s):=by
 unfold F_d;refine Ea (Ez (QkM 0 s)) ?_;unfold isNameS;cases d:(decide (1<=s.length)&&decide (s.length<=24)&&(s.head?).any okA)with
 |false=>
  simp only[Xi,Vq];have:goodS s=false:=by unfold goodS;rw[d];rfl
  rw[this];exact Qa _
 |true=>
  simp only[Xh,Vr];have f:goodS s=s.all okC:=by unfold goodS;rw[d];rfl
  refine Ea (Qb2 s (λc=> !okC c) (λi=>(i:Int)) (Ctl.done false) (Ctl.cont ()) (by omega) rfl (λi x a b=>?_) (λi x a b=>?_) ?_) ?_
  .unfold F_gf;simp only[a.lt,Vq,a.ix,XK,badC,b,Vr,a.nx];exact Qa _
  .unfold F_gf;simp only[a.lt,Vq,a.ix,XK,badC,b];exact Qa _
  .unfold F_gf;simp only[Ju,Vr];exact Qa _
  .rw[f];have e:s.any (λc=> !okC c)= !s.all okC:=by rw[List.not_all_eq_any_not]
   rw[e];cases q:s.all okC with
   |true=>
    simp only[Xh,Vr,VB];exact Ea (Qjq s (f.trans q)) (Qa _)
   |false=>
    simp only[Xi,Vq,Bool.false_and];exact Qa _
def diffS:List (List UInt8)->List (List UInt8)->Bool
 |_,[]=>true
 |seen,x::r=>isNameS x&& !seen.contains x&&diffS (seen++[x]) r
theorem Qjt(l:List (List UInt8))(i:Nat)(x:List UInt8)(h:At l i x):diffS (l.take i) (l.drop i)=(isNameS x&& !(l.take i).contains x&&diffS (l.take (i+1)) (l.drop (i+1))):=by
 rw[h.drop,h.take];rfl
theorem QbW{α:Type}(l:List α)(a:α->List UInt8)(g:Nat->α->Option Unit)(hg:∀n x,g n x=some ())(hl:l.length<=1048576)(p:∀x∈l,(a x).length<=1048576):
  Ev (λn=>((iter (λs:(List (List UInt8×Bool))×Int=>bif decide (s.2<(l.length:Int))then(idx l s.2).bind λx35=>(g n x35).bind λr36=>((F_d n (a x35)).bind λr42=>(bif (!r42)then some true else(some (Qo s.1 (a x35) false)).bind λv44=>some v44):Option Bool).bind λb40=>(bif b40 then some (.done (.done false))else(some (QO s.1 (a x35) true)).bind λm46=>some (.cont (m46,IntKind.i64.wrap (s.2+1))))else some (.done (.cont ()))) n ([],0):Option (Ctl Unit Bool)).bind λb28=>
   match b28 with
   |.cont _=>some true
   |.done s=>some s:Option Bool)) (diffS [] (l.map a)):=by
 have e:l.length<=4611686018427387904:=by omega
 have f:(l.map a).length<=4611686018427387904:=by simpa using e
 have j:=Qhq (B:=Ctl Unit Bool) l (step:=λn s=>bif decide (s.2<(l.length:Int))then(idx l s.2).bind λx35=>(g n x35).bind λr36=>((F_d n (a x35)).bind λr42=>(bif (!r42)then some true else(some (Qo s.1 (a x35) false)).bind λv44=>some v44):Option Bool).bind λb40=>(bif b40 then some (.done (.done false))else(some (QO s.1 (a x35) true)).bind λm46=>some (.cont (m46,IntKind.i64.wrap (s.2+1))))else some (.done (.cont ())))
  (s0:=(([]:List (List UInt8×Bool)),(0:Int))) (λi=>(Q0 a true (l.take i),(i:Int))) (λi=>bif diffS ((l.map a).take i) ((l.map a).drop i)then .cont ()else .done false) e rfl (λi x d=>?_) ?_
 .refine Ea j ?_;simp only[List.take_zero,List.drop_zero];cases diffS [] (l.map a)<;>exact Qa _
 .have k:At (l.map a) i (a x):=JB f (by rw[Xq,d.get];rfl);simp only[Qjt _ _ _ k];have b:Ev (λn=>((F_d n (a x)).bind λr42=>(bif (!r42)then some true else(some (Qo (Q0 a true (l.take i)) (a x) false)).bind λv44=>some v44):Option Bool)) (!(isNameS (a x)&& !((l.map a).take i).contains (a x))):=by
   refine Ea (Qgj (a x) (p x d.mem)) ?_;cases isNameS (a x)with
   |false=>exact Qa _
   |true=>
    refine Y7 ((Qa _).eq ?_);rw[Qar,List.map_take];by_cases h:a x∈(l.map a).take i
    .rw[Vu h];simp[h]
    .rw[Vt h];simp[h]
  cases m:(isNameS (a x)&& !((l.map a).take i).contains (a x))with
  |true=>
   rw[m]at b;refine .inl ⟨?_,by simp⟩;simp only[d.lt,Vq,d.ix,XK,hg];refine Ea b ?_;simp only[Xh,Vr,XK,d.nx];rw[d.take,QcQ];exact Qa _
  |false=>
   rw[m]at b;refine .inr ?_;simp only[d.lt,Vq,d.ix,XK,hg];refine Ea b ?_;simp only[Xi,Vq,Bool.false_and,Vr];exact Qa _
 .simp only[Ju,Vr];rw[show(l.map a).drop l.length=[]by apply List.drop_eq_nil_of_le;simp];exact Qa _
theorem Qpv{α:Type}{l:List α}{x:α}(h:l.length<=140737488):app l [x]=some (l++[x]):=Qal l x (by omega)
theorem Qgk{α β:Type}(l:List α)(f:α->β)(hl:l.length<=140737488):Ev (λn=>iter (λs:(List β)×Int=>bif decide (s.2<(l.length:Int))then(idx l s.2).bind λx15=>(app s.1 [f x15]).bind λl16=>some (Ctl.cont (l16,IntKind.i64.wrap (s.2+1)))else some (Ctl.done s.1)) n (([]:List β),(0:Int))) (l.map f):=by
 have e:∀l:List α,l.foldl (λ(a:List β) x=>a++[f x]) []=l.map f:=by
  intro l;have g:∀(l:List α) (a:List β),l.foldl (λ(a:List β) x=>a++[f x]) a=a++l.map f:=by
   intro l
   induction l with
   |nil=>intro a;simp
   |cons x l h=>intro a;rw[XE,h];simp
  simpa using g l []
 rw[<- e l];refine QL l (λ(a:List β) x=>a++[f x]) [] (λa i=>(a,(i:Int))) (λa=>a) (by omega) rfl (λi x a d b=>?_) ?_
 .rw[e]at b;have:a.length<=140737488:=by rw[b];simp;omega
  simp only[d.lt,Vq,d.ix,XK,Qpv this,d.nx];exact Qa _
 .simp only[Ju,Vr];exact Qa _
def namesS(c:Course):Bool:=isNameS c.Name&&(diffS [] (c.Mats.map (·.Name))&&(diffS [] (c.Distances.map (·.Name))&&(diffS [] (c.Waves.map (·.Name))&&(diffS [] (c.Offences.map (·.Name))&&diffS [] (c.Categories.map (·.Name))))))
structure CourseOk (c:Course):Prop where
 name:c.Name.length<=1048576
 mats:c.Mats.length<=1048576
 matsN:∀x∈c.Mats,x.Name.length<=1048576
 legs:c.Legs.length<=1048576
 dist:c.Distances.length<=1048576
 distN:∀x∈c.Distances,x.Name.length<=1048576
 cut:∀x∈c.Distances,x.Cutoffs.length<=1048576
 wave:c.Waves.length<=1048576
 waveN:∀x∈c.Waves,x.Name.length<=1048576
 off:c.Offences.length<=1048576
 offN:∀x∈c.Offences,x.Name.length<=1048576
 cat:c.Categories.length<=1048576
 catN:∀x∈c.Categories,x.Name.length<=1048576
 prize:c.Prizes.length<=1048576
theorem QmE(c:Course)(w:CourseOk c):Ev (λn=>F_bw n c) (namesS c):=by
 unfold F_bw namesS;refine Ea (v:=_) ?_ (Qa _);refine Ea (Qgj c.Name w.name) (Qw λ_=>?_);have e:Ev (λn=>F_be n c.Mats) (diffS [] (c.Mats.map (·.Name))):=by unfold F_be;exact QbW c.Mats (·.Name) F_dw (λ_ _=>rfl) w.mats w.matsN
 have a:Ev (λn=>F_cc n c.Distances) (diffS [] (c.Distances.map (·.Name))):=by unfold F_cc;exact QbW c.Distances (·.Name) F_fg (λ_ _=>rfl) w.dist w.distN
 have b:Ev (λn=>F_cu n c.Waves) (diffS [] (c.Waves.map (·.Name))):=by unfold F_cu;exact QbW c.Waves (·.Name) F_dh (λ_ _=>rfl) w.wave w.waveN
 have f:Ev (λn=>F_av n c.Offences) (diffS [] (c.Offences.map (·.Name))):=by unfold F_av;exact QbW c.Offences (·.Name) F_fw (λ_ _=>rfl) w.off w.offN
 have d:Ev (λn=>F_cg n c.Categories) (diffS [] (c.Categories.map (·.Name))):=by unfold F_cg;exact QbW c.Categories (·.Name) F_fa (λ_ _=>rfl) w.cat w.catN
 refine Ea e (Qw λ_=>?_);refine Ea a (Qw λ_=>?_);refine Ea b (Qw λ_=>?_);refine Ea f (Qw λ_=>?_);exact Ea d (Qa _)
theorem QcH{n:Nat}(h:n<=1048576):IntKind.i64.wrap ((n:Int)-1)=(n:Int)-1:=Ys (by omega) (by omega)
mutual
def szP:Part->Nat
 |⟨_,_,ps⟩=>1+szPs ps
def szPs:List Part->Nat
 |[]=>0
 |p::r=>szP p+szPs r
end
theorem Qae(p:Part):szP p=1+szPs p.Parts:=by cases p;rfl
theorem Qa8{p:Part}:∀{l:List Part},p∈l->szP p<=szPs l
 |q::r,h=>by
  simp only[szPs];rcases X7.1 h with rfl|h
  .omega
  .have:=Qa8 h;omega
mutual
def partS(k:Int):Part->Bool
 |⟨m,laps,ps⟩=>bif laps==0 then inR 0 k m&&((ps.length:Int)==0)else inR 1 64 laps&&((m==0)&&(decide (0<(ps.length:Int))&&partsS k ps))
def partsS(k:Int):List Part->Bool
 |[]=>true
 |p::r=>partS k p&&partsS k r
end
theorem QeN(k:Int)(p:Part):partS k p=bif p.Laps==0 then inR 0 k p.Mat&&((p.Parts.length:Int)==0)else inR 1 64 p.Laps&&((p.Mat==0)&&(decide (0<(p.Parts.length:Int))&&partsS k p.Parts)):=by cases p;rfl
theorem Qdn(k:Int):∀l:List Part,partsS k l=l.all (partS k)
 |[]=>rfl
 |p::r=>by simp only[partsS,List.all_cons,Qdn k r]
theorem Jb{p:Part}(h:Part.wf p):p.Parts.length<=1048576/\ ∀x∈p.Parts,Part.wf x:=by
 cases p;simp only[Part.wf,Qdb]at h;exact h.2.2.1
theorem QC(lo hi x:Int):Ev (λn=>F_a n lo hi [x]) (inR lo hi x):=(Qgf lo hi [x] (by simp)).eq (by simp)
theorem QaQ(lo hi x y:Int):Ev (λn=>F_a n lo hi [x,y]) (inR lo hi x&&inR lo hi y):=(Qgf lo hi [x,y] (by simp)).eq (by simp)
theorem QmD(k:Int):∀(m:Nat) (l:List Part),szPs l<=m->l.length<=1048576->(∀x∈l,Part.wf x)->Ev (λn=>F_f n l k) (partsS k l):=by
 intro m
 induction m with
 |zero=>
  intro l b g a;cases l with
  |nil=>
   refine YN ?_;show Ev (λn=>B_f (F_f n) n [] k) _;unfold B_f F_cr F_bm;exact Je [] (partS k) (λn x=>F_aq (F_f n) n x k) (by simp) (by simp)
  |cons p r=>
   exfalso;simp only[szPs,Qae]at b;omega
 |succ m e=>
  intro l b g a;refine YN ?_;show Ev (λn=>B_f (F_f n) n l k) _;unfold B_f F_cr F_bm;rw[Qdn];refine Je l (partS k) (λn x=>F_aq (F_f n) n x k) (by omega) λp d=>?_;unfold F_aq;rw[QeN];have i:=Qa8 d;rw[Qae]at i;obtain⟨h,f⟩:=Jb (a p d);refine Qb3 (λ_=>?_) (λ_=>?_)
  .exact Ea (Ea (QC _ _ _) (Qw λ_=>Qa _)) (Qa _)
  .exact Ea (Ea (QC _ _ _) (Qw λ_=>Qw λ_=>Qw λ_=>Ea (e p.Parts (by omega) h f) (Qa _))) (Qa _)
def legS(k:Int)(l:Leg):Bool:=(inR 0 k l.From&&inR 0 k l.To)&&((inR 0 68719476736 l.Min&&inR 0 68719476736 l.Max)&&decide (l.Min<=l.Max))
def cutS(k:Int)(x:Cutoff):Bool:=inR 0 k x.Mat&&(decide (1<=x.Lap)&&inR 0 1099511627776 x.Limit)
def distS(k:Int)(d:Distance):Bool:=inR 1 3 d.Timing&&(inR (-1) k d.Extra&&(partsS k d.Route&&d.Cutoffs.all (cutS k)))
def offS(o:Offence):Bool:=bif o.Out then(o.Time==0)&&(o.Laps==0)else bif o.Laps != 0 then(o.Time==0)&&inR 1 64 o.Laps else inR 0 68719476736 o.Time
def catS(x:Category):Bool:=(inR 0 120 x.From&&inR 0 120 x.To)&&decide (x.From<=x.To)
def prizeS(c:Course)(p:Prize):Bool:=inR 0 ((c.Distances.length:Int)-1) p.Distance&&(inR (-1) ((c.Categories.length:Int)-1) p.Category&&(inR 1 4000 p.Rank&&inR 1 1125899906842624 p.Amount))
def lastS(c:Course):Bool:=(inR 0 16 c.Faults.Misses&&inR 0 16 c.Faults.Strays)&&((inR 0 4294967296 c.Faults.Window&&inR 0 4294967296 c.Faults.Residual)&&(inR 0 100000 c.Faults.Drift&&(inR 0 1125899906842624 c.Fee&&inR 0 1099511627776 c.Deadline)))
def legKey(l:Leg):Ue:={from_:=l.From,to_:=l.To}
def prizeKey(p:Prize):Ug:={distance:=p.Distance,category:=p.Category,rank:=p.Rank}
def numbersS(c:Course):Bool:=
 let k:=(c.Mats.length:Int)-1
 c.Mats.all (λm=>inR 1 3 m.Kind)&&(c.Legs.all (legS k)&&(decide ((c.Legs.map legKey).Nodup)&&(c.Distances.all (distS k)&&(c.Waves.all (λw=>inR 0 1099511627776 w.Gun)&&(c.Offences.all offS&&(c.Categories.all catS&&(c.Prizes.all (prizeS c)&&(decide ((c.Prizes.map prizeKey).Nodup)&&lastS c))))))))
structure PartsOk (c:Course):Prop where
 len:∀d∈c.Distances,d.Route.length<=1048576
 wf:∀d∈c.Distances,∀x∈d.Route,Part.wf x
theorem Qha(l:List Leg)(hl:l.length<=1048576):Ev (λn=>F_cf n l) (decide ((l.map legKey).Nodup)):=by
 unfold F_cf;refine Ea (QaG l legKey true (by omega) (λi x m a=>?_) (λm=>?_)) ((Qa _).eq ?_)
 .unfold F_he F_dr;simp only[a.lt,Vq,a.ix,XK,a.nx];exact Qa _
 .unfold F_he;simp only[Ju,Vr];exact Qa _
 .rw[XZ];simp only[Vz,Vs];have:=Qcl legKey true l;rw[<- this.2];omega
theorem Qff(l:List Prize)(hl:l.length<=1048576):Ev (λn=>F_cn n l) (decide ((l.map prizeKey).Nodup)):=by
 unfold F_cn;refine Ea (QaG l prizeKey true (by omega) (λi x m a=>?_) (λm=>?_)) ((Qa _).eq ?_)
 .unfold F_gy F_fy;simp only[a.lt,Vq,a.ix,XK,a.nx];exact Qa _
 .unfold F_gy;simp only[Ju,Vr];exact Qa _
 .rw[XZ];simp only[Vz,Vs];have:=Qcl prizeKey true l;rw[<- this.2];omega
theorem Qjl(c:Course)(w:CourseOk c)(q:PartsOk c):Ev (λn=>F_bn n c) (numbersS c):=by
 unfold F_bn numbersS;rw[QcH w.mats];refine Ea (v:=_) ?_ (Qa _);have g:Ev (λn=>F_bk n c.Mats) (c.Mats.all λm=>inR 1 3 m.Kind):=by
  unfold F_bk F_eu F_ed;refine Je c.Mats _ (λn x=>F_bl n x) (by have:=w.mats;omega) λx a=>?_;unfold F_bl;exact Ea (QC _ _ _) (Qa _)
 have e:Ev (λn=>F_co n c.Legs ((c.Mats.length:Int)-1)) (c.Legs.all (legS ((c.Mats.length:Int)-1))):=by
  unfold F_co F_fn F_en;refine Je c.Legs _ (λn x=>F_ck n x _) (by have:=w.legs;omega) λx a=>?_;unfold F_ck;exact Ea (Ea (QaQ _ _ _ _) (Qw λ_=>Ea (QaQ _ _ _ _) (Qw λ_=>Qa _))) (Qa _)
 have h:Ev (λn=>F_ch n c.Distances ((c.Mats.length:Int)-1)) (c.Distances.all (distS ((c.Mats.length:Int)-1))):=by
  unfold F_ch F_ep F_dp;refine Je c.Distances _ (λn x=>F_ci n x _) (by have:=w.dist;omega) λx a=>?_;unfold F_ci;have j:Ev (λn=>F_cq n x.Cutoffs ((c.Mats.length:Int)-1)) (x.Cutoffs.all (cutS ((c.Mats.length:Int)-1))):=by
   unfold F_cq F_cz F_dz;refine Je x.Cutoffs _ (λn x=>F_ay n x _) (by have:=w.cut x a;omega) λy k=>?_;unfold F_ay;exact Ea (Ea (QC _ _ _) (Qw λ_=>Qw λ_=>Ea (QC _ _ _) (Qa _))) (Qa _)
  exact Ea (Ea (QC _ _ _) (Qw λ_=>Ea (QC _ _ _) (Qw λ_=>Ea (QmD _ _ x.Route (XU _) (q.len x a) (q.wf x a)) (Qw λ_=>Ea j (Qa _))))) (Qa _)
 have f:Ev (λn=>F_bd n c.Waves) (c.Waves.all λw=>inR 0 1099511627776 w.Gun):=by
  unfold F_bd F_cx F_ez;refine Je c.Waves _ (λn x=>F_bp n x) (by have:=w.wave;omega) λx a=>?_;unfold F_bp;exact Ea (QC _ _ _) (Qa _)
 have d:Ev (λn=>F_bf n c.Offences) (c.Offences.all offS):=by
  unfold F_bf F_dk F_fu;refine Je c.Offences _ (λn x=>F_ct n x) (by have:=w.off;omega) λx a=>?_;unfold F_ct offS;refine Qb3 (λ_=>Ea (Qw λ_=>Qa _) (Qa _)) λ_=>Qb3 (λ_=>Ea (Qw λ_=>Ea (QC _ _ _) (Qa _)) (Qa _)) λ_=>Ea (QC _ _ _) (Qa _)
 have i:Ev (λn=>F_bs n c.Categories) (c.Categories.all catS):=by
  unfold F_bs F_eg F_ee;refine Je c.Categories _ (λn x=>F_bh n x) (by have:=w.cat;omega) λx a=>?_;unfold F_bh;exact Ea (Ea (QaQ _ _ _ _) (Qw λ_=>Qa _)) (Qa _)
 have b:Ev (λn=>F_bg n c.Prizes c) (c.Prizes.all (prizeS c)):=by
  unfold F_bg F_ew F_dl;refine Je c.Prizes _ (λn x=>F_bj n x c) (by have:=w.prize;omega) λx a=>?_;unfold F_bj;rw[QcH w.dist,QcH w.cat];exact Ea (Ea (QC _ _ _) (Qw λ_=>Ea (QC _ _ _) (Qw λ_=>Ea (QC _ _ _) (Qw λ_=>Ea (QC _ _ _) (Qa _))))) (Qa _)
 refine Ea g (Qw λ_=>Ea e (Qw λ_=>Ea (Qha _ w.legs) (Qw λ_=>Ea h (Qw λ_=>Ea f (Qw λ_=>Ea d (Qw λ_=>Ea i (Qw λ_=>Ea b (Qw λ_=>Ea (Qff _ w.prize) (Qw λ_=>?_)))))))));exact Ea (QaQ _ _ _ _) (Qw λ_=>Ea (QaQ _ _ _ _) (Qw λ_=>Ea (QC _ _ _) (Qw λ_=>Ea (QC _ _ _) (Qw λ_=>Ea (QC _ _ _) (Qa _)))))
theorem ends_eq{a b a' d:Int}:(({from_:=a,to_:=b}:Ue)={from_:=a',to_:=d})↔a=a'/\b=d:=by simp
theorem QdM{α B:Type}{step:Nat->Int->Option (Ctl Int B)}(l:List α)(ok:α->Bool)(a b:B)(hl:l.length<=4611686018427387904)
  (g:∀i x,At l i x->Ev (λn=>step n (i:Int)) (bif ok x then .cont ((i+1:Nat):Int)else .done a))(j:Ev (λn=>step n (l.length:Int)) (.done b)):
  Ev (λn=>Go.Sw.iter (step n) n 0) (bif l.all ok then b else a):=by
 have e:(bif l.all ok then b else a)=bif l.any (λx=> !ok x)then a else b:=by
  rw[<- List.not_all_eq_any_not];cases l.all ok<;>rfl
 rw[e];refine Qb2 l (λx=> !ok x) (λi=>(i:Int)) a b hl rfl (λi x d f=>?_) (λi x d f=>?_) j
 .have h:ok x=true:=by simpa using f
  have:=g i x d
  rwa [h]at this
 .have h:ok x=false:=by simpa using f
  have:=g i x d
  rwa [h]at this
mutual
def cN:Cond->Nat
 |⟨_,_,_,ps⟩=>1+cNs ps
def cNs:List Cond->Nat
 |[]=>0
 |c::r=>cN c+cNs r
end
theorem Qgr(c:Cond):cN c=1+cNs c.Parts:=by cases c;rfl
mutual
def cD:Nat->Cond->Bool
 |d,⟨_,_,_,ps⟩=>cDs d ps
def cDs:Nat->List Cond->Bool
 |_,[]=>true
 |d,c::r=>decide (d<=16)&&(cD (d+1) c&&cDs d r)
end
theorem cD_eq(d:Nat)(c:Cond):cD d c=cDs d c.Parts:=by cases c;rfl
def zeroC(c:Cond):Bool:=(c.Kind==0)&&((c.Var==0)&&((c.N==0)&&((c.Parts.length:Int)==0)))
mutual
def sNp:Step->Nat
 |⟨_,_,_,t,e⟩=>1+sNs t+sNs e
def sNs:List Step->Nat
 |[]=>0
 |s::r=>sNp s+sNs r
end
theorem QjZ(s:Step):sNp s=1+sNs s.Then+sNs s.Else:=by cases s;rfl
mutual
def sC:Step->Nat
 |⟨_,_,c,t,e⟩=>(bif zeroC c then 0 else cN c)+sCs t+sCs e
def sCs:List Step->Nat
 |[]=>0
 |s::r=>sC s+sCs r
end
theorem Qj0(s:Step):sC s=(bif zeroC s.Cond then 0 else cN s.Cond)+sCs s.Then+sCs s.Else:=by cases s;rfl
mutual
def sDp:Nat->Step->Bool
 |d,⟨_,_,c,t,e⟩=>(zeroC c||cD 1 c)&&(sDs d t&&sDs d e)
def sDs:Nat->List Step->Bool
 |_,[]=>true
 |d,s::r=>decide (d<=16)&&(sDp (d+1) s&&sDs d r)
end
theorem Qok(d:Nat)(s:Step):sDp d s=((zeroC s.Cond||cD 1 s.Cond)&&(sDs d s.Then&&sDs d s.Else)):=by cases s;rfl
mutual
def sZ:Step->Nat
 |⟨_,_,c,t,e⟩=>2+cN c+sZs t+sZs e
def sZs:List Step->Nat
 |[]=>0
 |s::r=>sZ s+sZs r
end
theorem QjY(s:Step):sZ s=2+cN s.Cond+sZs s.Then+sZs s.Else:=by cases s;rfl
def fS:Uf->Nat
 |.ctyping_step x=>sNp x.Step
 |.ctyping_cond _=>0
def fC:Uf->Nat
 |.ctyping_step x=>sC x.Step
 |.ctyping_cond x=>cN x.Cond
def fD(d:Nat):Uf->Bool
 |.ctyping_step x=>sDp d x.Step
 |.ctyping_cond x=>cD d x.Cond
def fZ:Uf->Nat
 |.ctyping_step x=>sZ x.Step
 |.ctyping_cond x=>cN x.Cond
def fSs(l:List Uf):Nat:=(l.map fS).sum
def fCs(l:List Uf):Nat:=(l.map fC).sum
def fZs(l:List Uf):Nat:=(l.map fZ).sum
def fwf:Uf->Prop
 |.ctyping_step x=>Step.wf x.Step
 |.ctyping_cond x=>Cond.wf x.Cond
def ofStep(s:Step):Uf:=.ctyping_step {Step:=s}
def ofCond(c:Cond):Uf:=.ctyping_cond {Cond:=c}
theorem Qbe:∀l:List Step,fSs (l.map ofStep)=sNs l
 |[]=>rfl
 |s::r=>by
  have:=Qbe r;simp only[fSs,Vk,List.sum_cons]at this⊢;rw[this];rfl
theorem Qbf:∀l:List Step,fCs (l.map ofStep)=sCs l
 |[]=>rfl
 |s::r=>by
  have:=Qbf r;simp only[fCs,Vk,List.sum_cons]at this⊢;rw[this];rfl
theorem QbV:∀l:List Step,fZs (l.map ofStep)=sZs l
 |[]=>rfl
 |s::r=>by
  have:=QbV r;simp only[fZs,Vk,List.sum_cons]at this⊢;rw[this];rfl
theorem Qfb:∀l:List Cond,fSs (l.map ofCond)=0
 |[]=>rfl
 |s::r=>by
  have:=Qfb r;simp only[fSs,Vk,List.sum_cons]at this⊢;rw[this];rfl
theorem Qfd:∀l:List Cond,fCs (l.map ofCond)=cNs l
 |[]=>rfl
 |s::r=>by
  have:=Qfd r;simp only[fCs,Vk,List.sum_cons]at this⊢;rw[this];rfl
theorem Qe9:∀l:List Cond,fZs (l.map ofCond)=cNs l
 |[]=>rfl
 |s::r=>by
  have:=Qe9 r;simp only[fZs,Vk,List.sum_cons]at this⊢;rw[this];rfl
theorem QcX(d:Nat):∀l:List Step,sDs d l=((l.map ofStep).isEmpty||(decide (d<=16)&&(l.map ofStep).all (fD (d+1))))
 |[]=>rfl
 |s::r=>by
  rw[sDs,QcX d r];simp only[Vk,List.isEmpty_cons,Bool.false_or,List.all_cons];rw[show fD (d+1) (ofStep s)=sDp (d+1) s from rfl];cases r with
  |nil=>simp
  |cons x r=>
   simp only[Vk,List.isEmpty_cons,Bool.false_or,List.all_cons];cases decide (d<=16)<;>simp
theorem Qic(d:Nat):∀l:List Cond,cDs d l=((l.map ofCond).isEmpty||(decide (d<=16)&&(l.map ofCond).all (fD (d+1))))
 |[]=>rfl
 |s::r=>by
  rw[cDs,Qic d r];simp only[Vk,List.isEmpty_cons,Bool.false_or,List.all_cons];rw[show fD (d+1) (ofCond s)=cD (d+1) s from rfl];cases r with
  |nil=>simp
  |cons x r=>
   simp only[Vk,List.isEmpty_cons,Bool.false_or,List.all_cons];cases decide (d<=16)<;>simp
theorem Qao{c:Cond}(h:Cond.wf c):c.Parts.length<=1048576/\ ∀x∈c.Parts,Cond.wf x:=by
 cases c;simp only[Cond.wf,Qde]at h;exact h.2.2.2.1
theorem Qan{s:Step}(h:Step.wf s):Cond.wf s.Cond/\(s.Then.length<=1048576/\ ∀x∈s.Then,Step.wf x)/\(s.Else.length<=1048576/\ ∀x∈s.Else,Step.wf x):=by
 cases s;simp only[Step.wf,Qc4]at h;exact⟨h.2.2.1,h.2.2.2.1,h.2.2.2.2.1⟩
theorem Qgi(n:Nat)(c:Cond):F_x n {Cond:=c}=some (zeroC c):=by
 unfold F_x zeroC;cases(c.Kind==0)<;>cases(c.Var==0)<;>cases(c.N==0)<;>rfl
theorem Qfe(l:List Step)(hl:l.length<=140737488):Ev (λn=>F_z n l) (l.map ofStep):=by
 unfold F_z;exact Ea (Qgk l ofStep hl) (Qa _)
theorem QmK(l:List Cond)(hl:l.length<=140737488):Ev (λn=>F_bo n l) (l.map ofCond):=by
 unfold F_bo;exact Ea (Qgk l ofCond hl) (Qa _)
def stepParts(s:Step):List Uf:=s.Then.map ofStep++s.Else.map ofStep
theorem Qbw(s:Step)(h:Step.wf s):Ev (λn=>F_s n {Step:=s}) (stepParts s):=by
 obtain⟨_,⟨a,_⟩,⟨b,_⟩⟩:=Qan h;unfold F_s stepParts;refine Ea (Qfe s.Then (by omega)) (Ea (Qfe s.Else (by omega)) (QaW (Qiu _ _ (by simp;omega)) (Qa _)))
theorem QcY(c:Cond)(h:Cond.wf c):Ev (λn=>F_p n {Cond:=c}) (c.Parts.map ofCond):=by
 obtain⟨a,_⟩:=Qao h;unfold F_p;exact Ea (QmK c.Parts (by omega)) (Qa _)
def okL(l:List Uf)(d:Nat)(st co:Int):Bool:=l.isEmpty||(decide (d<=16)&&(l.all (fD (d+1))&&(decide (st+fSs l<=64)&&decide (co+fCs l<=256))))
def okR(l:List Uf)(d:Nat)(st co:Int):Bool:=l.isEmpty||(l.all (fD (d+1))&&(decide (st+fSs l<=64)&&decide (co+fCs l<=256)))
def okF(f:Uf)(d:Nat)(st co:Int):Bool:=fD (d+1) f&&(decide (st+fS f<=64)&&decide (co+fC f<=256))
theorem Qib(f:Uf)(l:List Uf):fSs (f::l)=fS f+fSs l:=rfl
theorem Qid(f:Uf)(l:List Uf):fCs (f::l)=fC f+fCs l:=rfl
theorem Qia(f:Uf)(l:List Uf):fZs (f::l)=fZ f+fZs l:=rfl
theorem Qfa(l m:List Uf):fSs (l++m)=fSs l+fSs m:=by simp[fSs]
theorem Qfc(l m:List Uf):fCs (l++m)=fCs l+fCs m:=by simp[fCs]
theorem Qe8(l m:List Uf):fZs (l++m)=fZs l+fZs m:=by simp[fZs]
theorem Ql9(f:Uf)(r:List Uf)(d:Nat)(st a:Int):okR (f::r) d st a=(okF f d st a&&okR r d (st+fS f) (a+fC f)):=by
 unfold okR okF;rw[Qib,Qid];cases r with
 |nil=>simp[fSs,fCs]
 |cons g r=>
  rw[XZ];simp only[List.isEmpty_cons,Bool.false_or,List.all_cons,XX,Vs];rw[show((fS f+fSs (g::r):Nat):Int)=(fS f:Int)+(fSs (g::r):Int)by omega,show((fC f+fCs (g::r):Nat):Int)=(fC f:Int)+(fCs (g::r):Int)by omega];constructor
  .rintro⟨⟨b,e⟩,i,h⟩;exact⟨⟨b,by omega,by omega⟩,e,by omega,by omega⟩
  .rintro⟨⟨b,_,_⟩,e,i,h⟩;exact⟨⟨b,e⟩,by omega,by omega⟩
theorem QgQ(l:List Uf)(d:Nat)(st g:Int)(h:st<=64)(i:g<=256):okL l d st g=true↔(l.isEmpty||(decide (d<=16)&&l.all (fD (d+1))))=true/\st+fSs l<=64/\g+fCs l<=256:=by
 unfold okL;cases l with
 |nil=>simp[fSs,fCs,h,i]
 |cons f r=>
  simp only[List.isEmpty_cons,Bool.false_or,XX,Vs];constructor
  .rintro⟨a,b,c,e⟩;exact⟨⟨a,b⟩,c,e⟩
  .rintro⟨⟨a,b⟩,c,e⟩;exact⟨a,b,c,e⟩
theorem QeB(s:Step)(d:Nat):((stepParts s).isEmpty||(decide (d<=16)&&(stepParts s).all (fD (d+1))))=(sDs d s.Then&&sDs d s.Else):=by
 rw[QcX,QcX];unfold stepParts;rw[List.all_append];cases a:s.Then<;>cases b:s.Else<;>simp<;>(cases decide (d<=16)<;>simp)
def Cnt(R:Nat->List Uf->Int->Ud->Option (Ud×Bool))(l:List Uf)(d:Nat)(st co:Int):Prop:=
 ∃c':Ud,Ev (λn=>R n l (d:Int) {steps:=st,conds:=co}) (c',okL l d st co)/\(okL l d st co=true->c'={steps:=st+fSs l,conds:=co+fCs l})
theorem Qju{R:Nat->List Uf->Int->Ud->Option (Ud×Bool)}{l:List Uf}{d:Nat}(hd:d<=16){i:Nat}{f:Uf}(V:At l i f)(hw:fwf f)
  (J:∀l' d' st a,fZs l'<fZ f->l'.length<=2097152->(∀f∈l',fwf f)->d'<=17->0<=st->st<=66->(st<=65\/ ∀f∈l',∃c,f=ofCond c)->0<=a->a<=256->Cnt R l' d' st a){st a:Int}(h0:0<=st)(af:st<=66)(B:st<=65\/ ∃c,f=ofCond c)(h2:0<=a)(h3:a<=256):
  ∃c':Ud,Ev (λn=>F_em n l (d:Int) (R n) ({steps:=st,conds:=a},(i:Int))) (bif okF f d st a then .cont (c',((i+1:Nat):Int))else .done (.done (c',false)))/\(okF f d st a=true->c'={steps:=st+fS f,conds:=a+fC f}):=by
 unfold F_em;simp only[V.lt,Vq,V.ix,XK,V.nx];have ed:IntKind.i64.wrap ((d:Int)+1)=((d+1:Nat):Int):=Yz (by omega);cases f with
 |ctyping_step x=>
  obtain⟨s⟩:=x;have h1:st<=65:=by
   rcases B with h|⟨c,h⟩
   .exact h
   .cases h
  have j:Step.wf s:=hw;obtain⟨wc,⟨ae,H⟩,⟨ac,T⟩⟩:=Qan j;have W:IntKind.i64.wrap (st+1)=st+1:=Ys (by omega) (by omega);simp only[Uf.elim,Qgi,XK,W];have hc:∃r:Ud,Ev (λn=>((bif (!zeroC s.Cond)then(R n [Uf.ctyping_cond {Cond:=s.Cond}] 0 {steps:=st+1,conds:=a}).bind λm=>some (m.1,(!m.2))else some ({steps:=st+1,conds:=a},false)):Option (Ud×Bool))) (r, !(zeroC s.Cond||(cD 1 s.Cond&&(decide (st+1<=64)&&decide (a+cN s.Cond<=256)))))/\
    ((zeroC s.Cond||(cD 1 s.Cond&&(decide (st+1<=64)&&decide (a+cN s.Cond<=256))))=true->r={steps:=st+1,conds:=a+((bif zeroC s.Cond then 0 else cN s.Cond:Nat):Int)}):=by
   cases w:zeroC s.Cond with
   |true=>
    refine⟨{steps:=st+1,conds:=a},?_,λ_=>?_⟩
    .exact Qa _
    .simp
   |false=>
    obtain⟨r,k,F⟩:=J [ofCond s.Cond] 0 (st+1) a (by simp only[fZs,Vk,Vl,List.sum_cons,List.sum_nil];show cN s.Cond+0<sZ s;rw[QjY];omega) (by simp) (by intro g e;simp only[VC]at e;subst e;exact wc) (by omega) (by omega) (by omega) (.inr (by intro g e;simp only[VC]at e;exact⟨_,e⟩)) h2 h3;have ek:okL [ofCond s.Cond] 0 (st+1) a=(cD 1 s.Cond&&(decide (st+1<=64)&&decide (a+cN s.Cond<=256))):=by
     unfold okL;simp only[List.isEmpty_cons,Bool.false_or,List.all_cons,List.all_nil,Bool.and_true,fSs,fCs,Vk,Vl,List.sum_cons,List.sum_nil];rw[show fD (0+1) (ofCond s.Cond)=cD 1 s.Cond from rfl,show fS (ofCond s.Cond)=0 from rfl,show fC (ofCond s.Cond)=cN s.Cond from rfl];simp
    rw[ek]at k F;refine⟨r,Ea k (Qa _),λh=>?_⟩;rw[F h];simp[fSs,fCs,show fS (ofCond s.Cond)=0 from rfl,show fC (ofCond s.Cond)=cN s.Cond from rfl]
  obtain⟨r,k,F⟩:=hc;generalize hb:(zeroC s.Cond||(cD 1 s.Cond&&(decide (st+1<=64)&&decide (a+cN s.Cond<=256))))=b at k F;have L:okF (Uf.ctyping_step {Step:=s}) d st a=(sDp (d+1) s&&(decide (st+sNp s<=64)&&decide (a+sC s<=256))):=rfl;rw[L];cases b with
  |false=>
   have:(sDp (d+1) s&&(decide (st+sNp s<=64)&&decide (a+sC s<=256)))=false:=by
    rw[VN];intro hh;simp only[XX,Vs,Qok,QjZ,Qj0]at hh;obtain⟨⟨M,_⟩,z2,z3⟩:=hh;cases w:zeroC s.Cond with
    |true=>rw[w]at hb;cases hb
    |false=>
     rw[w]at hb M z3;simp only[Bool.false_or]at hb M;rw[M]at hb;simp only[Vr]at z3;rw[YX (show st+1<=64 by omega),YX (show a+(cN s.Cond:Int)<=256 by omega)]at hb;cases hb
   rw[this];exact⟨r,Ea k (Qa _),λh=>by cases h⟩
  |true=>
   obtain rfl:=F rfl;by_cases q:64<st+1
   .have:(sDp (d+1) s&&(decide (st+sNp s<=64)&&decide (a+sC s<=256)))=false:=by
     rw[YJ (show¬st+(sNp s:Int)<=64 by rw[QjZ];omega)];simp
    rw[this];refine⟨{steps:=st+1,conds:=a+((bif zeroC s.Cond then 0 else cN s.Cond:Nat):Int)},Ea k ?_,λh=>by cases h⟩;simp only[Xh,Vr];refine Ea (v:=(_,true)) ?_ (Qa _);rw[YX q];exact Qa _
   by_cases t:256<a+((bif zeroC s.Cond then 0 else cN s.Cond:Nat):Int)
   .have:(sDp (d+1) s&&(decide (st+sNp s<=64)&&decide (a+sC s<=256)))=false:=by
     rw[YJ (show¬a+(sC s:Int)<=256 by rw[Qj0];omega)];simp
    rw[this];refine⟨{steps:=st+1,conds:=a+((bif zeroC s.Cond then 0 else cN s.Cond:Nat):Int)},Ea k ?_,λh=>by cases h⟩;simp only[Xh,Vr];refine Ea (v:=(_,true)) ?_ (Qa _);rw[YJ q,YX t];exact Qa _
   obtain⟨G,z,E⟩:=J (stepParts s) (d+1) (st+1) (a+((bif zeroC s.Cond then 0 else cN s.Cond:Nat):Int)) (by
     unfold stepParts;rw[Qe8,QbV,QbV];show _<sZ s;rw[QjY];omega) (by unfold stepParts;simp;omega) (by
     intro g e;unfold stepParts at e;rcases VE.1 e with e|e
     .obtain⟨y,u,rfl⟩:=Xf.1 e;exact H y u
     .obtain⟨y,u,rfl⟩:=Xf.1 e;exact T y u) (by omega) (by omega) (by omega) (.inl (by omega)) (by omega) (by omega)
   have P:okL (stepParts s) (d+1) (st+1) (a+((bif zeroC s.Cond then 0 else cN s.Cond:Nat):Int))=(sDp (d+1) s&&(decide (st+sNp s<=64)&&decide (a+sC s<=256))):=by
    rw[XZ,QgQ _ _ _ _ (by omega) (by omega),QeB];simp only[XX,Vs,Qok,QjZ,Qj0];have X:fSs (stepParts s)=sNs s.Then+sNs s.Else:=by unfold stepParts;rw[Qfa,Qbe,Qbe]
    have O:fCs (stepParts s)=sCs s.Then+sCs s.Else:=by unfold stepParts;rw[Qfc,Qbf,Qbf]
    rw[X,O];have aa:(zeroC s.Cond||cD 1 s.Cond)=true:=by
     cases w:zeroC s.Cond with
     |true=>rfl
     |false=>
      rw[w]at hb;simp only[Bool.false_or,XX]at hb;rw[hb.1];rfl
    constructor
    .rintro⟨p,Y,N⟩;exact⟨⟨aa,p⟩,by omega,by omega⟩
    .rintro⟨⟨_,p⟩,Y,N⟩;exact⟨p,by omega,by omega⟩
   rw[P]at z E;refine⟨G,Ea k ?_,λh=>?_⟩
   .simp only[Xh,Vr];refine Ea (v:=(G, !(sDp (d+1) s&&(decide (st+sNp s<=64)&&decide (a+sC s<=256))))) ?_ ?_
    .rw[YJ q,YJ t,ed];exact Ea (Qbw s j) (Ea z (Qa _))
    .cases(sDp (d+1) s&&(decide (st+sNp s<=64)&&decide (a+sC s<=256)))<;>exact Qa _
   .rw[E h];have X:fSs (stepParts s)=sNs s.Then+sNs s.Else:=by unfold stepParts;rw[Qfa,Qbe,Qbe]
    have O:fCs (stepParts s)=sCs s.Then+sCs s.Else:=by unfold stepParts;rw[Qfc,Qbf,Qbf]
    rw[X,O,show fS (Uf.ctyping_step {Step:=s})=sNp s from rfl,show fC (Uf.ctyping_step {Step:=s})=sC s from rfl,QjZ,Qj0];congr 1<;>omega
 |ctyping_cond x=>
  obtain⟨c⟩:=x;have j:Cond.wf c:=hw;obtain⟨ab,Q⟩:=Qao j;have W:IntKind.i64.wrap (a+1)=a+1:=Ys (by omega) (by omega);simp only[Uf.elim,W];have L:okF (Uf.ctyping_cond {Cond:=c}) d st a=(cD (d+1) c&&(decide (st<=64)&&decide (a+cN c<=256))):=by
   show(cD (d+1) c&&(decide (st+((0:Nat):Int)<=64)&&decide (a+cN c<=256)))=_;rw[show st+((0:Nat):Int)=st by omega]
  rw[L];by_cases q:64<st
  .have:(cD (d+1) c&&(decide (st<=64)&&decide (a+cN c<=256)))=false:=by
    rw[YJ (show¬st<=64 by omega)];simp
   rw[this];refine⟨{steps:=st,conds:=a+1},?_,λh=>by cases h⟩;refine Ea (v:=(_,true)) ?_ (Qa _);rw[YX q];exact Qa _
  by_cases t:256<a+1
  .have:(cD (d+1) c&&(decide (st<=64)&&decide (a+cN c<=256)))=false:=by
    rw[YJ (show¬a+(cN c:Int)<=256 by rw[Qgr];omega)];simp
   rw[this];refine⟨{steps:=st,conds:=a+1},?_,λh=>by cases h⟩;refine Ea (v:=(_,true)) ?_ (Qa _);rw[YJ q,YX t];exact Qa _
  obtain⟨G,z,E⟩:=J (c.Parts.map ofCond) (d+1) st (a+1) (by
    rw[Qe9];show _<cN c;rw[Qgr];omega) (by simp;omega) (by
    intro g e;obtain⟨y,u,rfl⟩:=Xf.1 e;exact Q y u) (by omega) (by omega) (by omega) (.inl (by omega)) (by omega) (by omega)
  have P:okL (c.Parts.map ofCond) (d+1) st (a+1)=(cD (d+1) c&&(decide (st<=64)&&decide (a+cN c<=256))):=by
   rw[XZ,QgQ _ _ _ _ (by omega) (by omega), <- Qic,Qfb,Qfd];simp only[XX,Vs,cD_eq,Qgr];constructor
   .rintro⟨p,Y,N⟩;exact⟨p,by omega,by omega⟩
   .rintro⟨p,Y,N⟩;exact⟨p,by omega,by omega⟩
  rw[P]at z E;refine⟨G,?_,λh=>?_⟩
  .refine Ea (v:=(G, !(cD (d+1) c&&(decide (st<=64)&&decide (a+cN c<=256))))) ?_ ?_
   .rw[YJ q,YJ t,ed];exact Ea (QcY c j) (Ea z (Qa _))
   .cases(cD (d+1) c&&(decide (st<=64)&&decide (a+cN c<=256)))<;>exact Qa _
  .rw[E h,Qfb,Qfd,show fS (Uf.ctyping_cond {Cond:=c})=0 from rfl,show fC (Uf.ctyping_cond {Cond:=c})=cN c from rfl,Qgr];congr 1;omega
theorem QmJ:∀(m:Nat) (l:List Uf) (d:Nat) (st a:Int),fZs l<=m->l.length<=2097152->(∀f∈l,fwf f)->d<=17->0<=st->st<=66->(st<=65\/ ∀f∈l,∃c,f=ofCond c)->0<=a->a<=256->Cnt F_e l d st a:=by
 intro m
 induction m using Nat.strongRecOn with
 |_ m q=>
 intro l d st a hm hl hw hd X h1 E h2 h3;unfold Cnt;have y:∀c:Ud,(∃b:Ud,Ev (λn=>B_e (F_e n) n l (d:Int) c) (b,okL l d st a)/\(okL l d st a=true->b={steps:=st+fSs l,conds:=a+fCs l}))->∃b:Ud,Ev (λn=>F_e n l (d:Int) c) (b,okL l d st a)/\(okL l d st a=true->b={steps:=st+fSs l,conds:=a+fCs l}):=by
  rintro c ⟨b,T,q2⟩;exact⟨b,YN T,q2⟩
 refine y _ ?_;unfold B_e;cases g:l with
 |nil=>
  refine⟨{steps:=st,conds:=a},?_,λ_=>by simp[fSs,fCs]⟩;refine Ea (v:=false) (Qa _) (Y7 ?_);refine Ea (v:=Ctl.cont {steps:=st,conds:=a}) (EvI.ev (Ei ?_)) (Qa _);exact Qa _
 |cons f0 r0=>
 rw[<- g];have u:l.isEmpty=false:=by rw[g];rfl
 have L:0<l.length:=by rw[g];simp
 by_cases e:d<=16
 rotate_left
 .have:okL l d st a=false:=by unfold okL;rw[u,YJ e];rfl
  rw[this];refine⟨{steps:=st,conds:=a},?_,λh=>by cases h⟩;rw[YX (show(0:Int)<(l.length:Int)by omega),YX (show(16:Int)<(d:Int)by omega)];exact Ea (Qa _) (Qa _)
 have w:okL l d st a=okR l d st a:=by unfold okL okR;rw[YX e,VB]
 rw[w];have loop:∀(r:List Uf) (i:Nat) (st a:Int),l.drop i=r->i<=l.length->0<=st->st<=66->(st<=65\/ ∀f∈l,∃c,f=ofCond c)->0<=a->a<=256->
   ∃b:Ud,EvI (λn=>F_em n l (d:Int) (F_e n)) ({steps:=st,conds:=a},(i:Int)) (bif okR r d st a then Ctl.cont b else Ctl.done (b,false))/\(okR r d st a=true->b={steps:=st+fSs r,conds:=a+fCs r}):=by
  intro r
  induction r with
  |nil=>
   intro i st a F J _ _ _ _ _;refine⟨{steps:=st,conds:=a},Ei ?_,λ_=>by simp[fSs,fCs]⟩;unfold F_em;simp only[YE F J,Vr];exact Qa _
  |cons f r G=>
   intro i st a F J g0 g1 B P g3;obtain⟨p,t⟩:=QJ (by omega) F;have Y:fZ f<=fZs l:=by
    have:∀(l:List Uf),f∈l->fZ f<=fZs l:=by
     intro l
     induction l with
     |nil=>intro h;cases h
     |cons x l q=>
      intro h;rw[Qia];rcases X7.1 h with rfl|h
      .omega
      .have:=q h;omega
    exact this l p.mem
   obtain⟨b,k,z⟩:=Qju (R:=F_e) e p (hw f p.mem) (λH d' st a k1 k2 M k4 V W s N O=>q (fZs H) (by omega) H d' st a (XU _) k2 M k4 V W s N O) g0 g1 (B.imp id λh=>h f p.mem) P g3;rw[Ql9];cases j:okF f d st a with
   |false=>
    rw[j]at k;exact⟨b,Ei k,λh=>by cases h⟩
   |true=>
    rw[j]at k;obtain rfl:=z j;have hb:st+fS f<=64/\a+fC f<=256:=by
     unfold okF at j;simp only[XX,Vs]at j;exact j.2
    obtain⟨Q,u1,u2⟩:=G (i+1) (st+fS f) (a+fC f) t (by have:=p.lt';omega) (by omega) (by omega) (.inl (by omega)) (by omega) (by omega);refine⟨Q,Ew k u1,λh=>?_⟩;rw[u2 (by simpa using h),Qib,Qid];congr 1<;>omega
 obtain⟨b,k,z⟩:=loop l 0 st a rfl (XV _) X h1 E h2 h3;refine⟨b,?_,z⟩;refine Ea (v:=false) ?_ (Y7 (Ea k.ev ?_))
 .rw[YX (show(0:Int)<(l.length:Int)by omega),YJ (show¬(16:Int)<(d:Int)by omega)];exact Qa _
 .cases okR l d st a<;>exact Qa _
mutual
def vaC:Cond->Bool
 |⟨k,v,n,ps⟩=>bif k==1 then inR 1 3 v&&(inR 0 10000 n&&((ps.length:Int)==0))else
   bif k==4 then((v==0)&&(n==0))&&(((ps.length:Int)==1)&&vaCs ps)else
   bif (k==2)||(k==3)then((v==0)&&(n==0))&&((decide (0<(ps.length:Int))&&decide ((ps.length:Int)<=16))&&vaCs ps)else false
def vaCs:List Cond->Bool
 |[]=>true
 |c::r=>vaC c&&vaCs r
end
theorem QoI(c:Cond):vaC c=bif c.Kind==1 then inR 1 3 c.Var&&(inR 0 10000 c.N&&((c.Parts.length:Int)==0))else
   bif c.Kind==4 then((c.Var==0)&&(c.N==0))&&(((c.Parts.length:Int)==1)&&vaCs c.Parts)else
   bif (c.Kind==2)||(c.Kind==3)then((c.Var==0)&&(c.N==0))&&((decide (0<(c.Parts.length:Int))&&decide ((c.Parts.length:Int)<=16))&&vaCs c.Parts)else false:=by cases c;rfl
theorem QjQ:∀l:List Cond,vaCs l=l.all vaC
 |[]=>rfl
 |c::r=>by rw[vaCs,List.all_cons,QjQ r]
mutual
def vaS:Step->Bool
 |⟨k,b,c,t,e⟩=>bif k==1 then inR 1 5 b&&(zeroC c&&(((t.length:Int)==0)&&((e.length:Int)==0)))else
   bif k==2 then(b==0)&&(vaC c&&(decide (0<(t.length:Int))&&(vaSs t&&vaSs e)))else false
def vaSs:List Step->Bool
 |[]=>true
 |s::r=>vaS s&&vaSs r
end
theorem QoH(s:Step):vaS s=bif s.Kind==1 then inR 1 5 s.By&&(zeroC s.Cond&&(((s.Then.length:Int)==0)&&((s.Else.length:Int)==0)))else
   bif s.Kind==2 then(s.By==0)&&(vaC s.Cond&&(decide (0<(s.Then.length:Int))&&(vaSs s.Then&&vaSs s.Else)))else false:=by cases s;rfl
theorem QjP:∀l:List Step,vaSs l=l.all vaS
 |[]=>rfl
 |c::r=>by rw[vaSs,List.all_cons,QjP r]
def fV:Uf->Bool
 |.ctyping_step x=>vaS x.Step
 |.ctyping_cond x=>vaC x.Cond
theorem Qjy(l:List Cond):(l.map ofCond).any (λf=> !fV f)= !vaCs l:=by
 rw[QjQ,List.not_all_eq_any_not,List.any_map];rfl
theorem QcE(l:List Step):(l.map ofStep).any (λf=> !fV f)= !vaSs l:=by
 rw[QjP,List.not_all_eq_any_not,List.any_map];rfl
theorem Qgg{R:Nat->List Uf->Option Bool}(c:Cond)(i:Cond.wf c)(h:Ev (λn=>R n (c.Parts.map ofCond)) (!vaCs c.Parts)):
  Ev (λn=>F_cb (R n) n {Cond:=c}) (vaC c):=by
 unfold F_cb;rw[QoI];refine Ea (v:=(c.Var==0)&&(c.N==0)) (Qw λ_=>Qa _) ?_;refine Qb3 (λ_=>?_) (λk=>?_)
 .exact Ea (Ea (QC _ _ _) (Qw λ_=>Ea (QC _ _ _) (Qw λ_=>Qa _))) (Qa _)
 .have fin:∀b:Bool,Ev (λn=>((bif b then(F_p n {Cond:=c}).bind λd=>(R n d).bind λf=>some (!f)else some false):Option Bool).bind λg=>some g) (b&&vaCs c.Parts):=by
   intro b;refine Ea ((Qw λ_=>Ea (QcY c i) (Ea h (Qa _)))) ((Qa _).eq (by simp))
  cases l:(c.Kind==4)with
  |true=>
   simp only[Vq];cases j:((c.Var==0)&&(c.N==0))with
   |true=>
    refine Ea (v:=Ctl.cont ((c.Parts.length:Int)==1)) (Qa _) ((fin _).eq (by simp))
   |false=>
    refine Ea (v:=Ctl.cont false) (Qa _) ((fin _).eq (by simp))
  |false=>
   simp only[Vr];cases a:((c.Kind==2)||(c.Kind==3))with
   |true=>
    simp only[Vq];have e:Ev (λn:Nat=>((bif (c.Kind==2)then some (c.Kind==2)else some (c.Kind==3)):Option Bool)) true:=by
     refine Ez ?_;rw[QmW,a]
    cases j:((c.Var==0)&&(c.N==0))with
    |true=>
     cases m:decide (0<(c.Parts.length:Int))with
     |true=>
      refine Ea (v:=Ctl.cont (decide ((c.Parts.length:Int)<=16))) (Ea e (Qa _)) ((fin _).eq (by simp))
     |false=>
      refine Ea (v:=Ctl.cont false) (Ea e (Qa _)) ((fin _).eq (by simp))
    |false=>
     refine Ea (v:=Ctl.cont false) (Ea e (Qa _)) ((fin _).eq (by simp))
   |false=>
    have e:Ev (λn:Nat=>((bif (c.Kind==2)then some (c.Kind==2)else some (c.Kind==3)):Option Bool)) false:=by
     refine Ez ?_;rw[QmW,a]
    refine Ea (v:=Ctl.done false) (Ea e (Qa _)) (Qa _)
theorem Qjn:∀(m:Nat) (l:List Uf),fZs l<=m->l.length<=2097152->(∀f∈l,fwf f)->Ev (λn=>F_i n l) (l.any λf=> !fV f):=by
 intro m
 induction m using Nat.strongRecOn with
 |_ m e=>
 intro l H E t;refine YN ?_;show Ev (λn=>B_i (F_i n) n l) _;unfold B_i F_dd;refine Ev.contains l _ (λn f=>F_br (F_i n) n f) (by omega) λf p=>?_;have z:fZ f<=fZs l:=by
  have:∀(l:List Uf),f∈l->fZ f<=fZs l:=by
   intro l
   induction l with
   |nil=>intro h;cases h
   |cons x l e=>
    intro h;rw[Qia];rcases X7.1 h with rfl|h
    .omega
    .have:=e h;omega
  exact this l p
 unfold F_br;refine Ea (v:=fV f) ?_ (Qa _);have a:∀c:Cond,Cond.wf c->cNs c.Parts<fZ f->Ev (λn=>F_i n (c.Parts.map ofCond)) (!vaCs c.Parts):=by
  intro c i j;rw[<- Qjy];obtain⟨F,u⟩:=Qao i;refine e (fZs (c.Parts.map ofCond)) (by rw[Qe9];omega) _ (XU _) (by simp;omega) ?_;intro g b;obtain⟨y,d,rfl⟩:=Xf.1 b;exact u y d
 cases f with
 |ctyping_cond x=>
  obtain⟨c⟩:=x;have i:Cond.wf c:=t _ p;exact Qgg (R:=F_i) c i (a c i (by show cNs c.Parts<cN c;rw[Qgr];omega))
 |ctyping_step x=>
  obtain⟨s⟩:=x;have j:Step.wf s:=t _ p;obtain⟨r,⟨B,k⟩,⟨w,q⟩⟩:=Qan j;unfold F_fe;show Ev _ (vaS s);rw[QoH];simp only[Uf.elim];refine Qb3 (λ_=>?_) (λJ=>Qb3 (λ_=>?_) λ_=>Qa _)
  .refine Ea (Ea (QC _ _ _) (Qw λ_=>?_)) (Qa _);simp only[Qgi,XK];refine Qw λ_=>Ea (Qbw s j) ((Qa _).eq ?_);unfold stepParts;rw[XZ];simp only[Vz,XX,X4,X3];omega
  .refine Ea (Qw λ_=>?_) (Qa _);refine Ea (Qgg (R:=F_i) s.Cond r (a s.Cond r (by show _<sZ s;rw[QjY,Qgr];omega))) (Qw λ_=>Qw λ_=>?_);refine Ea (Qbw s j) (Ea (e (fZs (stepParts s)) ?_ _ (XU _) (by unfold stepParts;simp;omega) ?_) ((Qa _).eq ?_))
   .have:fZs (stepParts s)<sZ s:=by
     unfold stepParts;rw[Qe8,QbV,QbV,QjY];omega
    have G:fZ (Uf.ctyping_step {Step:=s})=sZ s:=rfl;omega
   .intro g b;unfold stepParts at b;rcases VE.1 b with b|b
    .obtain⟨y,d,rfl⟩:=Xf.1 b;exact k y d
    .obtain⟨y,d,rfl⟩:=Xf.1 b;exact q y d
   .unfold stepParts;rw[List.any_append,QcE,QcE];simp
def goodT(l:List Step):Bool:=sDs 0 l&&(decide (sNs l<=64)&&decide (sCs l<=256))
def tiesE(l:List Step):Int:=bif goodT l then(bif l.isEmpty|| !vaSs l then 71 else 0)else 2
theorem Qma(l:List Step):okL (l.map ofStep) 0 0 0=goodT l:=by
 rw[XZ,QgQ _ _ _ _ (by omega) (by omega), <- QcX,Qbe,Qbf];unfold goodT;simp only[XX,Vs];constructor
 .rintro⟨a,b,c⟩;exact⟨a,by omega,by omega⟩
 .rintro⟨a,b,c⟩;exact⟨a,by omega,by omega⟩
theorem Qn1(l:List Step)(hl:l.length<=1048576)(d:∀x∈l,Step.wf x):Ev (λn=>F_cw n l) (tiesE l):=by
 unfold F_cw;refine Ea (Qfe l (by omega)) (Ea (v:=tiesE l) ?_ (Qa _));have b:∀f∈l.map ofStep,fwf f:=by
  intro g j;obtain⟨y,k,rfl⟩:=Xf.1 j;exact d y k
 obtain⟨i,a,m⟩:=QmJ _ (l.map ofStep) 0 0 0 (XU _) (by simp;omega) b (by omega) (by omega) (by omega) (.inl (by omega)) (by omega) (by omega);rw[Qma]at a;unfold F_fk;have h:Ev (λn=>F_es n (l.map ofStep) 0 {steps:=0,conds:=0}) (i,goodT l):=a.shift;refine Ea h ?_;unfold tiesE;cases goodT l with
 |false=>exact Qa _
 |true=>
  simp only[Xh,Vr,Vq];have e:(((l.map ofStep).length:Int)==0)=l.isEmpty:=by
   cases l<;>simp;omega
  rw[e];refine Ea (Et λ_=>Ea (Qjn _ _ (XU _) (by simp;omega) b) (Qa _)) ?_;rw[QcE];cases(l.isEmpty|| !vaSs l)<;>exact Qa _
mutual
def hP:Part->Nat
 |⟨_,_,ps⟩=>bif ps.isEmpty then 0 else 1+hPs ps
def hPs:List Part->Nat
 |[]=>0
 |p::r=>max (hP p) (hPs r)
end
theorem Qow(p:Part):hP p=bif p.Parts.isEmpty then 0 else 1+hPs p.Parts:=by cases p;rfl
theorem Qkc{p:Part}:∀{l:List Part},p∈l->hP p<=hPs l
 |q::r,h=>by
  simp only[hPs];rcases X7.1 h with rfl|h
  .omega
  .have:=Qkc h;omega
theorem QhT{α:Type}(l:List α):((l.length:Int)==0)=l.isEmpty:=by
 cases l<;>simp;omega
theorem Qap:∀l:List Part,l.length<=szPs l
 |[]=>XU _
 |p::r=>by have:=Qap r;rw[szPs,Qae,X2];omega
theorem QmI:∀(m:Nat) (l:List Part) (k:Nat),szPs l<=m->hPs l<=k->k<=17->szPs l<=256->(∀x∈l,Part.wf x)->Ev (λn=>F_c n l (k:Int)) ((hPs l:Int),(szPs l:Int)):=by
 intro m
 induction m using Nat.strongRecOn with
 |_ m y=>
 intro l k Q R w g J;have s:=Qap l;refine YN ?_;show Ev (λn=>B_c (F_c n) n l (k:Int)) _;unfold B_c;have loop:∀(r:List Part) (i:Nat) (a b:Nat),l.drop i=r->i<=l.length->a<=17->b+(szPs r-r.length)<=256->EvI (λn=>F_ac n l (k:Int) (F_c n)) ((a:Int),(b:Int),(i:Int)) (((max a (hPs r):Nat):Int),((b+(szPs r-r.length):Nat):Int)):=by
  intro r
  induction r with
  |nil=>
   intro i a b j t _ _;refine Ei ?_;unfold F_ac;simp only[YE j t,Vr,XK];refine(Qa _).eq ?_;simp[hPs,szPs]
  |cons p r q=>
   intro i a b j t F f;obtain⟨d,e⟩:=QJ (by omega) j;obtain⟨P,z⟩:=Jb (J p d.mem);have M:=Qa8 d.mem;have h:=Qkc d.mem;rw[Qae]at M;have L:=Qap r;rw[szPs,Qae,X2]at f;have step:Ev (λn=>F_ac n l (k:Int) (F_c n) ((a:Int),(b:Int),(i:Int))) (.cont (((max a (hP p):Nat):Int),((b+szPs p.Parts:Nat):Int),((i+1:Nat):Int))):=by
    unfold F_ac;simp only[d.lt,Vq,d.ix,XK,d.nx,QhT];rw[Qow]at h⊢;cases u:p.Parts.isEmpty with
    |true=>
     have O:p.Parts=[]:=by simpa using u
     simp only[Vq,XK];rw[O];simp only[szPs,Xx,Nat.max_zero];exact Qa _
    |false=>
     rw[u]at h;simp only[Vr]at h⊢;have E:0<k:=by omega
     have G:IntKind.i64.wrap ((k:Int)-1)=((k-1:Nat):Int):=by rw[Ys (by omega) (by omega)];omega
     have H:((k:Int)==0)=false:=beq_false_of_ne (by omega);rw[H,YJ (show¬(256:Int)<(b:Int)by omega),G];simp only[Vr,XK];refine Ea (Ea (y (szPs p.Parts) (by omega) p.Parts (k-1) (XU _) (by omega) (by omega) (by omega) z) (Qa _)) ((Qa _).eq ?_);have B:IntKind.i64.wrap ((hPs p.Parts:Int)+1)=((hPs p.Parts+1:Nat):Int):=Yz (by omega);have N:IntKind.i64.wrap ((b:Int)+(szPs p.Parts:Int))=((b+szPs p.Parts:Nat):Int):=by rw[Ys (by omega) (by omega)];omega
     simp only[B,N];congr 2;split<;>omega
   refine(Ew step (q (i+1) _ _ e (by have:=d.lt';omega) (by omega) (by omega))).eq ?_;rw[hPs,szPs,Qae,X2];congr 1<;>omega
 refine Ea ((loop l 0 0 l.length rfl (XV _) (by omega) (by omega)).ev) ((Qa _).eq ?_);congr 1<;>omega
def repS:Nat->List Int->List Int->List Int
 |0,out,_=>out
 |k+1,out,lap=>if 256<out.length then out else repS k (out++lap) lap
mutual
def lapS:Part->List Int
 |⟨m,laps,ps⟩=>bif decide (0<laps)then expS [] ps else[m]
def expS:List Int->List Part->List Int
 |out,[]=>out
 |out,p::r=>expS (repS (p.Laps.toNat+(bif decide (0<p.Laps)then 0 else 1)) out (lapS p)) r
end
theorem Qen(p:Part):lapS p=bif decide (0<p.Laps)then expS [] p.Parts else[p.Mat]:=by cases p;rfl
theorem QeL{k:Nat}{a b:List Int}(h:256<a.length):repS k a b=a:=by
 cases k with
 |zero=>rfl
 |succ k=>rw[repS,Vu h]
theorem Qif:∀(l:List Part) {out:List Int},256<out.length->expS out l=out
 |[],out,h=>by rw[expS]
 |p::r,out,h=>by rw[expS,QeL h];exact Qif r h
theorem QeK:∀(k:Nat) (out lap:List Int),(repS k out lap).length<=max out.length (256+lap.length)
 |0,out,lap=>by rw[repS];omega
 |k+1,out,lap=>by
  rw[repS];split
  .omega
  .have:=QeK k (out++lap) lap;rw[X4]at this;omega
theorem Qie:∀(m:Nat) (l:List Part) (a:List Int),szPs l<=m->(expS a l).length<=max a.length (256+257*szPs l):=by
 intro m
 induction m using Nat.strongRecOn with
 |_ m i=>
 intro l;have b:∀p∈l,szPs l<=m->(lapS p).length<=257*szP p:=by
  intro p e h;have s:=Qa8 e;rw[Qen,Qae]at*;cases decide (0<p.Laps)with
  |true=>
   have:=i (szPs p.Parts) (by omega) p.Parts [] (XU _);simp only[Vq,List.length_nil]at this⊢;omega
  |false=>simp;omega
 have d:∀(r:List Part) (a:List Int),(∀p∈r,(lapS p).length<=257*szP p)->(expS a r).length<=max a.length (256+257*szPs r):=by
  intro r
  induction r with
  |nil=>intro a _;rw[expS];omega
  |cons p r f=>
   intro a g;rw[expS,szPs];have t:=f (repS (p.Laps.toNat+(bif decide (0<p.Laps)then 0 else 1)) a (lapS p)) λq j=>g q (by simp[j]);have k:=QeK (p.Laps.toNat+(bif decide (0<p.Laps)then 0 else 1)) a (lapS p);have n:=g p (by simp);omega
 intro a h;exact d l a λp e=>b p e h
theorem Qmj(p:Part):(lapS p).length<=257*szP p:=by
 rw[Qen,Qae];cases decide (0<p.Laps)with
 |true=>
  have:=Qie _ p.Parts [] (XU _);simp only[Vq,List.length_nil]at this⊢;omega
 |false=>simp;omega
theorem QkY(kk:Int):∀(m:Nat) (l:List Part),szPs l<=m->szPs l<=256->l.length<=1048576->(∀x∈l,Part.wf x)->partsS kk l=true->Ev (λn=>F_n n l) (expS [] l):=by
 intro m
 induction m using Nat.strongRecOn with
 |_ m V=>
 intro l hm H hl hw Q;rw[Qdn,Xt]at Q;refine YN ?_;show Ev (λn=>B_n (F_n n) n l) _;unfold B_n;have inner:∀(p:Part) (e:List Int) (g:p.Laps=0\/0<p.Laps/\p.Laps<=64) (z:e.length<=100000) (j:Nat) (k:Nat) (a:List Int),j+k=p.Laps.toNat+(bif decide (0<p.Laps)then 0 else 1)->a.length<=200000->
   ∃d:Ctl (List Int) (Ctl ((List Int)×Int) (Ctl (List Int) (List Int))),EvI (λn=>F_fl n p e) (a,(j:Int)) d/\
    (d=.cont (repS k a e)\/(256<(repS k a e).length/\d=.done (.done (.done (repS k a e))))):=by
  intro p e g z j k
  induction k generalizing j with
  |zero=>
   intro a f _;refine⟨_,Ei (b:=.cont a) ?_,.inl rfl⟩;unfold F_fl;have:¬((j:Int)<if p.Laps<1 then 1 else p.Laps):=by
    rcases g with h|⟨h,O⟩
    .rw[h]at f⊢;simp at f⊢;omega
    .rw[YX h]at f;simp at f;rw[Vt (by omega)];omega
   rw[YJ this];exact Qa _
  |succ k J=>
   intro a f y;have w:((j:Int)<if p.Laps<1 then 1 else p.Laps):=by
    rcases g with h|⟨h,O⟩
    .rw[h]at f⊢;simp at f⊢;omega
    .rw[YX h]at f;simp at f;rw[Vt (by omega)];omega
   have T:j<=64:=by
    rcases g with h|⟨h,O⟩
    .rw[h]at f;simp at f;omega
    .rw[YX h]at f;simp at f;omega
   by_cases t:256<a.length
   .refine⟨_,Ei (b:=.done (.done (.done a))) ?_,.inr ⟨by rw[QeL t];exact t,by rw[QeL t]⟩⟩;unfold F_fl;rw[YX w,YX (show(256:Int)<(a.length:Int)by omega)];exact Qa _
   .obtain⟨d,u,B⟩:=J (j+1) (a++e) (by omega) (by rw[X4];omega);refine⟨d,Ew ?_ u,by rw[repS,Vt t];exact B⟩;unfold F_fl;rw[YX w,YJ (show¬(256:Int)<(a.length:Int)by omega)];refine QoD (Y7 (QaW (Qiu a e (by omega)) ?_));rw[Yz (by omega)];exact Qa _
 have loop:∀(r:List Part) (i:Nat) (a:List Int),l.drop i=r->i<=l.length->a.length<=100000->
   ∃d:Ctl (List Int) (List Int),EvI (λn=>F_ev n l (F_n n)) (a,(i:Int)) d/\(d=.cont (expS a r)\/d=.done (expS a r)):=by
  intro r
  induction r with
  |nil=>
   intro i a M R _;refine⟨.cont a,Ei ?_,.inl (by rw[expS])⟩;unfold F_ev;simp only[YE M R,Vr];exact Qa _
  |cons p r N=>
   intro i a M R y;obtain⟨q,G⟩:=QJ (by omega) M;have w:=q.lt';have hs:=Qa8 q.mem;obtain⟨w1,W⟩:=Jb (hw p q.mem);have g:=Q p q.mem;rw[QeN]at g;have s:p.Laps=0\/0<p.Laps/\p.Laps<=64:=by
    cases P:(p.Laps==0)with
    |true=>exact .inl (by simpa using P)
    |false=>
     rw[P]at g;simp only[Vr,inR,XX,Vs]at g;exact .inr ⟨by omega,by omega⟩
   have Y:=Qmj p;have t:Ev (λn=>((bif decide (0<p.Laps)then(F_n n p.Parts).bind λL=>some L else some [p.Mat]):Option (List Int))) (lapS p):=by
    rw[Qen];refine Qb3 (λh=>?_) (λ_=>Qa _);rw[Qae]at hs;refine Ea (V (szPs p.Parts) (by omega) p.Parts (XU _) (by omega) w1 W ?_) (Qa _);have:(p.Laps==0)=false:=by
     simp only[Vs]at h;exact beq_false_of_ne (by omega)
    rw[this]at g;simp only[Vr,XX]at g;exact g.2.2.2
   obtain⟨d,u,B⟩:=inner p (lapS p) s (by omega) 0 _ a (Xw _) (by omega);rw[expS];rcases B with rfl|⟨E,rfl⟩
   .obtain⟨F,X,q2⟩:=N (i+1) (repS (p.Laps.toNat+(bif decide (0<p.Laps)then 0 else 1)) a (lapS p)) G (by omega) (by
     have:=QeK (p.Laps.toNat+(bif decide (0<p.Laps)then 0 else 1)) a (lapS p);omega)
    refine⟨F,Ew ?_ X,q2⟩;unfold F_ev;simp only[q.lt,Vq,q.ix,XK,q.nx];exact Ea t (Ea u.ev (Qa _))
   .refine⟨.done (repS (p.Laps.toNat+(bif decide (0<p.Laps)then 0 else 1)) a (lapS p)),Ei ?_,.inr (by rw[Qif r E])⟩;unfold F_ev;simp only[q.lt,Vq,q.ix,XK,q.nx];exact Ea t (Ea u.ev (Qa _))
 obtain⟨d,u,B⟩:=loop l 0 [] rfl (XV _) (by simp);rcases B with rfl|rfl
 .exact Ea u.ev (Qa _)
 .exact Ea u.ev (Qa _)
def kindAt(c:Course)(m:Int):Int:=((c.Mats[m.toNat]?).map (·.Kind)).getD 0
def hasLeg(c:Course)(a b:Int):Bool:=c.Legs.any λl=>(l.From==a)&&(l.To==b)
def rokS(c:Course)(len:Nat):Nat->Int->List Int->Bool
 |_,_,[]=>true
 |i,prev,m::r=>((kindAt c m==1)==decide (i=0))&&(((kindAt c m==3)==decide (i+1=len))&&((decide (i=0)||hasLeg c prev m)&&rokS c len (i+1) m r))
def routeR(c:Course)(d:Distance)(r:List Int):Bool:=
 (decide (2<=r.length)&&decide (r.length<=256))&&(rokS c r.length 0 0 r&&((bif decide (0<=d.Extra)then !((r.count d.Extra:Int)==0)&&((kindAt c d.Extra==2)&&hasLeg c d.Extra d.Extra)else true)&&d.Cutoffs.all λx=>decide (x.Lap<=(r.count x.Mat:Int))))
def routeS(c:Course)(d:Distance):Bool:=routeR c d (expS [] d.Route)
def cntM(l:List Int):List (Int×Int):=l.foldl (λm k=>QO m k (Qo m k 0+1)) []
theorem Qk6(l:List Int)(k:Int):cntM (l++[k])=QO (cntM l) k (Qo (cntM l) k 0+1):=by unfold cntM;rw[XD];rfl
theorem Qfm(l:List Int)(k:Int):Qo (cntM l) k 0=(l.count k:Int):=by
 have a:∀(l:List Int) (m:List (Int×Int)),Qo (l.foldl (λm k=>QO m k (Qo m k 0+1)) m) k 0=Qo m k 0+(l.count k:Int):=by
  intro l
  induction l with
  |nil=>intro m;simp
  |cons x l b=>
   intro m;rw[XE,b,Qcy,List.count_cons];by_cases h:k=x
   .subst h;simp;omega
   .have:(x==k)=false:=beq_false_of_ne λe=>h e.symm;simp[h,this]
 have:=a l [];simpa[cntM,Qf1]using this
theorem Qja(b:Int):∀(m:Nat) (l:List Part) (a:List Int),szPs l<=m->partsS b l=true->(∀x∈a,0<=x/\x<=b)->∀x∈expS a l,0<=x/\x<=b:=by
 intro m
 induction m using Nat.strongRecOn with
 |_ m y=>
 intro l;have j:∀(k:Nat) (a d:List Int),(∀x∈a,0<=x/\x<=b)->(∀x∈d,0<=x/\x<=b)->∀x∈repS k a d,0<=x/\x<=b:=by
  intro k
  induction k with
  |zero=>intro a d i _;rw[repS];exact i
  |succ k q=>
   intro a d i w;rw[repS];split
   .exact i
   .refine q _ _ ?_ w;intro x g;rcases VE.1 g with h|h
    .exact i x h
    .exact w x h
 have n:∀(r:List Part) (a:List Int),szPs r<=m->partsS b r=true->(∀x∈a,0<=x/\x<=b)->∀x∈expS a r,0<=x/\x<=b:=by
  intro r
  induction r with
  |nil=>intro a _ _ h;rw[expS];exact h
  |cons p r u=>
   intro a s f h;rw[szPs,Qae]at s;rw[partsS,XX]at f;obtain⟨e,z⟩:=f;rw[expS];refine u _ (by omega) z (j _ _ _ h ?_);rw[Qen];rw[QeN]at e;cases t:(p.Laps==0)with
   |true=>
    have B:p.Laps=0:=by simpa using t
    rw[t,Vq,XX]at e;have:=e.1;unfold inR at this;simp only[XX,Vs]at this;rw[B];intro x g;simp at g;subst g;exact this
   |false=>
    rw[t]at e;simp only[Vr,XX,inR,Vs]at e;rw[YX (show 0<p.Laps by omega),Vq];exact y (szPs p.Parts) (by omega) p.Parts [] (XU _) e.2.2.2 (by simp)
 exact λa s f h=>n l a s f h
theorem Qj7{c:Course}{m:Int}(h0:0<=m)(b:m<=(c.Mats.length:Int)-1):∃x:Mat,idx c.Mats m=some x/\x.Kind=kindAt c m:=by
 obtain⟨k,rfl⟩:∃k:Nat,m=(k:Int):=⟨m.toNat,by omega⟩;have a:k<c.Mats.length:=by omega
 refine⟨c.Mats[k],YS (XL a),?_⟩;unfold kindAt;rw[Int.toNat_natCast,XL a];rfl
theorem QhU(c:Course)(a b:Int):Qo (Q0 legKey true c.Legs) {from_:=a,to_:=b} false=hasLeg c a b:=by
 rw[Qar];unfold hasLeg;by_cases h:({from_:=a,to_:=b}:Ue)∈c.Legs.map legKey
 .rw[Vu h];obtain⟨l,d,e⟩:=Xf.1 h;unfold legKey at e;obtain⟨g,f⟩:=ends_eq.1 e;exact(Xu.2 ⟨l,d,by simp[g,f]⟩).symm
 .rw[Vt h]
  symm
  rw[VN];intro q;obtain⟨l,d,e⟩:=Xu.1 q;simp only[XX,Vz]at e;exact h (Xf.2 ⟨l,d,by unfold legKey;rw[e.1,e.2]⟩)
structure NumOk (c:Course):Prop where
 kinds:∀m∈c.Mats,1<=m.Kind/\m.Kind<=3
 dist:∀d∈c.Distances,-1<=d.Extra/\d.Extra<=(c.Mats.length:Int)-1/\partsS ((c.Mats.length:Int)-1) d.Route=true
theorem Qnh{c:Course}(h:numbersS c=true):NumOk c:=by
 unfold numbersS at h;simp only[XX,Xt]at h;refine⟨λm b=>?_,λd e=>?_⟩
 .have:=h.1 m b;unfold inR at this;simpa using this
 .have:=h.2.2.2.1 d e;unfold distS at this;simp only[XX]at this;obtain⟨_,a,f,_⟩:=this;unfold inR at a;simp only[XX,Vs]at a;exact⟨a.1,a.2,f⟩
theorem Qpn{c:Course}(q:NumOk c){d:Distance}(hd:d∈c.Distances):∀x∈expS [] d.Route,0<=x/\x<=(c.Mats.length:Int)-1:=
 Qja _ _ d.Route [] (XU _) (q.dist d hd).2.2 (by simp)
theorem QlS(c:Course)(len i:Nat)(prev m:Int)(r:List Int):rokS c len i prev (m::r)=(((kindAt c m==1)==decide (i=0))&&(((kindAt c m==3)==decide (i+1=len))&&((decide (i=0)||hasLeg c prev m)&&rokS c len (i+1) m r))):=rfl
theorem QnL(i:Nat):((i:Int)==0)=decide (i=0):=by
 rw[XZ];simp
theorem QfI(c:Course)(r:List Int)(M:2<=r.length)(R:r.length<=256)(G:∀x∈r,0<=x/\x<=(c.Mats.length:Int)-1):
  Ev (λn=>iter (F_cs n c (Q0 legKey true c.Legs) r) n ([],0)) (bif rokS c r.length 0 0 r then .cont (cntM r)else .done false):=by
 have loop:∀(t:List Int) (i:Nat) (b:Int),r.drop i=t->i<=r.length->(0<i->At r (i-1) b)->EvI (λn=>F_cs n c (Q0 legKey true c.Legs) r) (cntM (r.take i),(i:Int)) (bif rokS c r.length i b t then .cont (cntM r)else .done false):=by
  intro t
  induction t with
  |nil=>
   intro i b f s _;refine Ei ?_;unfold F_cs;simp only[YE f s,Vr,rokS,Vq];have:r.length<=i:=by simpa using f
   rw[VJ this];exact Qa _
  |cons m t u=>
   intro i b f s J;obtain⟨d,p⟩:=QJ (by omega) f;have O:=d.lt';obtain⟨E,P⟩:=G m d.mem;obtain⟨x,H,L⟩:=Qj7 E P;have F:IntKind.i64.wrap ((r.length:Int)-1)=((r.length-1:Nat):Int):=by rw[Ys (by omega) (by omega)];omega
   have N:((i:Int)==((r.length-1:Nat):Int))=decide (i+1=r.length):=by rw[XZ];simp;omega
   have y:Ev (λn:Nat=>((bif ((x.Kind==1) != ((i:Int)==0))then some true else(bif ((x.Kind==3) != ((i:Int)==(IntKind.i64.wrap ((r.length:Int)-1))))then some true else(bif decide (0<(i:Int))then(idx r (IntKind.i64.wrap ((i:Int)-1))).bind λk=>(some (Qo (Q0 legKey true c.Legs) ({from_:=k,to_:=m:Ue}) false)).bind λg=>some (!g)else some false))):Option Bool))
     (!(((kindAt c m==1)==decide (i=0))&&(((kindAt c m==3)==decide (i+1=r.length))&&(decide (i=0)||hasLeg c b m)))):=by
    rw[L,F,N,QnL];refine Eu (Et λ_=>Et λ_=>Qb3 (v:= !hasLeg c b m) (w:=false) (λh=>?_) λ_=>Qa _) ?_
    .have j:0<i:=by simpa using h
     have B:IntKind.i64.wrap ((i:Int)-1)=((i-1:Nat):Int):=by rw[Ys (by omega) (by omega)];omega
     rw[B,(J j).ix];simp only[XK,QhU];exact Qa _
    .have Q:decide (0<(i:Int))= !decide (i=0):=by rw[XZ];simp;omega
     rw[Q];cases(kindAt c m==1)<;>cases decide (i=0)<;>cases(kindAt c m==3)<;>cases decide (i+1=r.length)<;>cases hasLeg c b m<;>rfl
   have e:IntKind.i64.wrap (Qo (cntM (r.take i)) m 0+1)=Qo (cntM (r.take i)) m 0+1:=by
    rw[Qfm];have:(r.take i).count m<=i:=by have:=List.count_le_length (a:=m) (l:=r.take i);simp at this;omega
    exact Ys (by omega) (by omega)
   have step:Ev (λn=>F_cs n c (Q0 legKey true c.Legs) r (cntM (r.take i),(i:Int))) (bif ((kindAt c m==1)==decide (i=0))&&(((kindAt c m==3)==decide (i+1=r.length))&&(decide (i=0)||hasLeg c b m))then .cont (cntM (r.take (i+1)),((i+1:Nat):Int))else .done (.done false)):=by
    unfold F_cs;simp only[d.lt,Vq,d.ix,XK,d.nx,H];refine Ea y ?_;rw[e, <- Qk6, <- d.take];cases(((kindAt c m==1)==decide (i=0))&&(((kindAt c m==3)==decide (i+1=r.length))&&(decide (i=0)||hasLeg c b m)))<;>exact Qa _
   have z:rokS c r.length i b (m::t)=((((kindAt c m==1)==decide (i=0))&&(((kindAt c m==3)==decide (i+1=r.length))&&(decide (i=0)||hasLeg c b m)))&&rokS c r.length (i+1) m t):=by rw[QlS];simp only[Bool.and_assoc]
   rw[z];cases q:(((kindAt c m==1)==decide (i=0))&&(((kindAt c m==3)==decide (i+1=r.length))&&(decide (i=0)||hasLeg c b m)))with
   |false=>
    rw[q]at step;exact Ei step
   |true=>
    rw[q]at step;rw[VB];exact Ew step (u (i+1) m p (by omega) (λ_=>by simpa using d))
 exact(loop r 0 0 rfl (XV _) (by omega)).ev
theorem Qjm(c:Course)(w:CourseOk c)(q:NumOk c)(d:Distance)(b:d∈c.Distances)(p:∀x∈d.Route,Part.wf x)(s:szPs d.Route<=256):
  Ev (λn=>F_cp n c d (Q0 legKey true c.Legs)) (routeS c d):=by
 have j:=Qap d.Route;have i:=Qpn q b;have a:=Qie _ d.Route [] (XU _);unfold F_cp routeS;refine Ea (QkY _ _ d.Route (XU _) s (by omega) p (q.dist d b).2.2) ?_;generalize expS [] d.Route=r at i a⊢;unfold routeR;have k:IntKind.i64.wrap ((r.length:Int)-1)=(r.length:Int)-1:=by
  have:r.length<=1048576:=by simp at a;omega
  exact QcH this
 rw[k];have u:(decide ((r.length:Int)-1<1)||decide (256<=(r.length:Int)-1))= !(decide (2<=r.length)&&decide (r.length<=256)):=by
  rw[XZ];simp;omega
 refine Ea (Eu (Et λ_=>Qa _) u) ?_;cases e:(decide (2<=r.length)&&decide (r.length<=256))with
 |false=>exact Qa _
 |true=>
  simp only[XX,Vs]at e;rw[VB];refine Y7 (Ea (QfI c r e.1 e.2 i) ?_);cases rokS c r.length 0 0 r with
  |false=>exact Qa _
  |true=>
   simp only[Vq,VB];have t:Ev (λn:Nat=>((bif decide (0<=d.Extra)then(some (Qo (cntM r) d.Extra 0)).bind λh=>(bif (h==0)then some true else(idx c.Mats d.Extra).bind λf=>(bif (f.Kind != 2)then some true else(some (Qo (Q0 legKey true c.Legs) ({from_:=d.Extra,to_:=d.Extra:Ue}) false)).bind λg=>some (!g)))else some false):Option Bool))
     (!(bif decide (0<=d.Extra)then !((r.count d.Extra:Int)==0)&&((kindAt c d.Extra==2)&&hasLeg c d.Extra d.Extra)else true)):=by
    rw[Qfm];cases z:decide (0<=d.Extra)with
    |false=>exact Qa _
    |true=>
     obtain⟨x,y,l⟩:=Qj7 (c:=c) (m:=d.Extra) (by simpa using z) (q.dist d b).2.1;simp only[Vq,XK,y,QhU,l];refine Eu (Et λ_=>Et λ_=>Qa _) ?_;rw[bne];cases((r.count d.Extra:Int)==0)<;>cases(kindAt c d.Extra==2)<;>cases hasLeg c d.Extra d.Extra<;>rfl
   refine Ea t ?_;cases(bif decide (0<=d.Extra)then !((r.count d.Extra:Int)==0)&&((kindAt c d.Extra==2)&&hasLeg c d.Extra d.Extra)else true)with
   |false=>exact Qa _
   |true=>
    rw[VB];refine Y7 (Ea ?_ (Qa _));unfold F_ff F_el F_fv;refine Je d.Cutoffs _ (λn x=>F_bi n x (cntM r)) (by have:=w.cut d b;omega) λx _=>?_;unfold F_bi;rw[Qfm];exact Qa _
def lensC(c:Course):Nat:=c.Mats.length+c.Legs.length+c.Distances.length+c.Waves.length+c.Offences.length+c.Categories.length+c.Prizes.length
def fewD(d:Distance):Prop:=d.Cutoffs.length<=200/\szPs d.Route<=200/\hPs d.Route<=16
structure FewOk (c:Course):Prop where
 lens:lensC c<=200
 name:c.Name.length<=100
 dist:∀d∈c.Distances,fewD d
 ties:c.Ties.length<=200
def fitsS(c:Course):Bool:=
 !(decide (40<(c.Mats.length:Int))||(decide (512<(c.Legs.length:Int))||(decide (8<(c.Distances.length:Int))||(decide (32<(c.Waves.length:Int))||(decide (32<(c.Offences.length:Int))||(decide (32<(c.Categories.length:Int))||decide (32<(c.Prizes.length:Int))))))))
  &&c.Distances.all λd=> !decide (64<(d.Cutoffs.length:Int))
theorem Qn0(c:Course)(w:CourseOk c)(q:PartsOk c)(k:FewOk c):Ev (λn=>F_af n c) (fitsS c):=by
 unfold F_af fitsS;refine Ea (Et λ_=>Et λ_=>Et λ_=>Et λ_=>Et λ_=>Et λ_=>Qa _) ?_;cases(decide (40<(c.Mats.length:Int))||(decide (512<(c.Legs.length:Int))||(decide (8<(c.Distances.length:Int))||(decide (32<(c.Waves.length:Int))||(decide (32<(c.Offences.length:Int))||(decide (32<(c.Categories.length:Int))||decide (32<(c.Prizes.length:Int))))))))with
 |true=>exact Qa _
 |false=>
  rw[Xi,VB];refine Y7 (Ea (QdM c.Distances (λd=> !decide (64<(d.Cutoffs.length:Int))) (Ctl.done false) (Ctl.cont ()) (by have:=w.dist;omega) (λi x a=>?_) ?_) ?_)
  .obtain⟨f,b,e⟩:=k.dist x a.mem;unfold F_cy;simp only[a.lt,Vq,a.ix,XK,a.nx];refine Ea (QmI _ x.Route 17 (XU _) (by omega) (XU _) (by omega) (q.wf x a.mem)) ?_;refine Ea (Et λ_=>Et λ_=>Qa _) ?_;simp only[YJ (show¬(16:Int)<(hPs x.Route:Int)by omega),YJ (show¬(256:Int)<(szPs x.Route:Int)by omega),Bool.or_false];cases decide (64<(x.Cutoffs.length:Int))<;>exact Qa _
  .unfold F_cy;simp only[Ju,Vr];exact Qa _
  .cases(c.Distances.all λd=> !decide (64<(d.Cutoffs.length:Int)))<;>exact Qa _
def courseE(c:Course):Int:=
 bif fitsS c then bif namesS c then bif numbersS c then bif tiesE c.Ties==0 then bif c.Distances.all (routeS c)then 0 else 72 else tiesE c.Ties else 71 else 70 else 2
theorem Qk0(c:Course)(w:CourseOk c)(q:PartsOk c)(k:FewOk c)(hl:c.Ties.length<=1048576)(e:∀x∈c.Ties,Step.wf x):Ev (λn=>F_h n c) (courseE c):=by
 unfold F_h courseE;refine Ea (Qn0 c w q k) ?_;cases fitsS c with
 |false=>exact Qa _
 |true=>
 refine Y7 (Ea (QmE c w) ?_);cases namesS c with
 |false=>exact Qa _
 |true=>
 refine Y7 (Ea (Qjl c w q) ?_);cases d:numbersS c with
 |false=>exact Qa _
 |true=>
 refine Y7 (Ea (Qn1 c.Ties hl e) ?_);rw[bne];cases(tiesE c.Ties==0)with
 |false=>exact Qa _
 |true=>
 have f:Ev (λn=>iter (F_gm n c) n ([],0)) (Q0 legKey true c.Legs):=by
  refine QaG c.Legs legKey true (by have:=w.legs;omega) (λi x m a=>?_) (λm=>?_)
  .unfold F_gm;simp only[a.lt,Vq,a.ix,XK,a.nx];exact Qa _
  .unfold F_gm;simp only[Ju,Vr];exact Qa _
 refine Y7 (Ea f ?_);have a:Ev (λn=>F_bx n c.Distances c (Q0 legKey true c.Legs)) (c.Distances.all (routeS c)):=by
  unfold F_bx F_fc F_fz;refine Je c.Distances _ (λn x=>F_bv n x c (Q0 legKey true c.Legs)) (by have:=w.dist;omega) λx b=>?_;unfold F_bv;exact Ea (Qjm c w (Qnh d) x b (q.wf x b) (by have:=(k.dist x b).2.1;omega)) (Qa _)
 refine Ea a ?_;cases c.Distances.all (routeS c)<;>exact Qa _
theorem QjW{α:Type}(l:List α){a b:Nat}(h:a<=b)(d:b<=l.length):slc l (a:Int) (b:Int)=some ((l.take b).drop a):=by
 unfold slc;rw[YX (show(0:Int)<=(a:Int)by omega),YX (show(a:Int)<=(b:Int)by omega),YX (show(b:Int)<=(l.length:Int)by omega)];simp
theorem QlO{α:Type}(l:List α){b:Nat}(a:b<=l.length):slc l 0 (b:Int)=some (l.take b):=by
 have:=QjW l (XV b) a;simpa using this
theorem QhE{α:Type}(l:List α){a:Nat}(b:a<=l.length):slc l (a:Int) (l.length:Int)=some (l.drop a):=by
 have:=QjW l b (XU _);simpa using this
theorem Qkp{α:Type}(l m:List α)(h:l.length+m.length<=4294967296):app l m=some (l++m):=by
 unfold app;rw[XT (by unfold Qq;exact h)];rfl
theorem QhG{α:Type}(l:List α){i:Nat}(x:α)(h:i<l.length):Qdk l (i:Int) x=some (l.set i x):=by
 unfold Qdk;rw[YX (show(0:Int)<=(i:Int)by omega),YX (show(i:Int)<(l.length:Int)by omega)];simp
def firstI{α:Type}(q:α->Bool):List α->Nat->Int
 |[],_=> -1
 |x::l,i=>bif q x then(i:Int)else firstI q l (i+1)
theorem Ev.first{α:Type}{step:Nat->Int->Option (Ctl Int (Ctl Unit Int))}(l:List α)(q:α->Bool)(hl:l.length<=4611686018427387904)
  (p:∀i x,At l i x->Ev (λn=>step n (i:Int)) (bif q x then .done (.done (i:Int))else .cont ((i+1:Nat):Int)))(m:Ev (λn=>step n (l.length:Int)) (.done (.cont ()))):
  Ev (λn=>(Go.Sw.iter (step n) n 0).bind λb=>match b with|.cont _=>some (-1)|.done v=>some v) (firstI q l 0):=by
 have loop:∀(r:List α) (i:Nat),l.drop i=r->i<=l.length->∃a:Ctl Unit Int,EvI step (i:Int) a/\(match a with|.cont _=>some (-1)|.done v=>some v)=some (firstI q r i):=by
  intro r
  induction r with
  |nil=>
   intro i g t;have:i=l.length:=by have:=Xs.1 g;omega
   subst this;exact⟨.cont (),Ei m,rfl⟩
  |cons x r k=>
   intro i g t;obtain⟨j,d⟩:=QJ hl g;have s:=p i x j;unfold firstI;cases h:q x with
   |true=>
    rw[h]at s;exact⟨_,Ei s,rfl⟩
   |false=>
    rw[h]at s;obtain⟨a,e,f⟩:=k (i+1) d (by have:=j.lt';omega);exact⟨a,Ew s e,f⟩
 obtain⟨a,e,f⟩:=loop l 0 rfl (XV _);exact Ea e.ev (Ez f)
theorem QbU{α:Type}(q:α->Bool):∀(l:List α) (i:Nat),(firstI q l i= -1/\l.all (λx=> !q x)=true)\/ ∃j x,firstI q l i=((i+j:Nat):Int)/\l[j]?=some x/\q x=true/\(l.take j).all (λx=> !q x)=true
 |[],_=>.inl ⟨rfl,rfl⟩
 |x::l,i=>by
  unfold firstI;cases h:q x with
  |true=>exact .inr ⟨0,x,rfl,rfl,h,rfl⟩
  |false=>
   rcases QbU q l (i+1)with⟨h1,h2⟩|⟨j,y,h1,h2,h3,h4⟩
   .exact .inl ⟨h1,by simp[h,h2]⟩
   .refine .inr ⟨j+1,y,by rw[Vr,h1];congr 1;omega,h2,h3,by simp[h,h4]⟩
theorem Qe3{α:Type}{p:α->Bool}{l:List α}(h:l.all p=true):l.filter p=l:=List.filter_eq_self.2 (Xt.1 h)
theorem Ev.delete{α:Type}{first:Nat->Option Int}{step:Nat->List α×Int×Int->Option (Ctl (List α×Int×Int) (List α×Int))}(a:List α)(q:α->Bool)(hl:a.length<=1048576)
  (P:Ev first (firstI q a 0))
  (X:∀(l:List α) (i j:Nat) x y,l.length<=1048576->At l j x->l[i]?=some y->x∈a->i<=j->Ev (λn=>step n (l,(i:Int),(j:Int))) (.cont (bif q x then l else l.set i x,(bif q x then(i:Int)else((i+1:Nat):Int)),((j+1:Nat):Int))))
  (Q:∀(l:List α) (i:Int),Ev (λn=>step n (l,i,(l.length:Int))) (.done (l,i))):
  Ev (λn=>(first n).bind λr1=>bif r1== -1 then some a else(Go.Sw.iter (step n) n (a,r1,IntKind.i64.wrap (r1+1))).bind λb=>(slc b.1 0 b.2).bind λx=>some x) (a.filter λx=> !q x):=by
 refine Ea P ?_;rcases QbU q a 0 with⟨H,F⟩|⟨w,O,H,F,V,T⟩
 .rw[H,Qe3 F];exact Qa _
 .have R:=(XM.1 F).1;rw[Xw]at H;rw[H];have e0:(((w:Nat):Int)== -1)=false:=by simp
  rw[e0,Yz (by omega)];have loop:∀(r l:List α) (i j:Nat),a.drop j=r->j<=a.length->i<j->l.length=a.length->l.drop j=a.drop j->l.take i=(a.take j).filter (λx=> !q x)->∃e:List α,∃k:Nat,EvI step (l,(i:Int),(j:Int)) (e,(k:Int))/\k<=e.length/\e.take k=a.filter λx=> !q x:=by
   intro r
   induction r with
   |nil=>
    intro l i j G W J d B g;have:j=l.length:=by have:=Xs.1 G;omega
    subst this;refine⟨l,i,Ei (Q l _),by omega,?_⟩;rw[g,d,Va]
   |cons x r M=>
    intro l i j G W J d B g;have L:l.drop j=x::r:=by rw[B,G]
    obtain⟨N,t⟩:=QJ (by omega) L;obtain⟨m,f⟩:=QJ (by omega) G;have Y:=N.lt';have s:=X l i j x l[i] (by omega) N (XL (by omega)) m.mem (by omega);cases h:q x with
    |true=>
     rw[h]at s;obtain⟨e,k,z,E,p⟩:=M l i (j+1) f (by omega) (by omega) d (by rw[t,f]) (by rw[m.take,List.filter_append,g];simp[h]);exact⟨e,k,Ew s z,E,p⟩
    |false=>
     rw[h]at s;obtain⟨e,k,z,E,p⟩:=M (l.set i x) (i+1) (j+1) f (by omega) (by omega) (by simpa using d) (by rw[List.drop_set_of_lt (by omega),t,f])
      (by
       rw[m.take,List.filter_append, <- g];have:i<(l.set i x).length:=by simp;omega
       rw[List.take_add_one,XL this];simp[h,List.take_set_of_le])
     exact⟨e,k,Ew s z,E,p⟩
  have u:a.take (w+1)=a.take w++[O]:=by rw[List.take_add_one,F];rfl
  obtain⟨e,k,z,E,p⟩:=loop _ a w (w+1) rfl (by omega) (by omega) rfl rfl (by rw[u,List.filter_append,Qe3 T];simp[V]);refine Y7 (Ea z.ev ?_);rw[<- p];exact Ez (by simp[QlO e E])
theorem QaV{ι α:Type}{F:Nat->ι->Option α}{V:ι->α}:∀(L:List ι),(∀p∈L,Ev (λn=>F n p) (V p))->∃N,∀n,N<=n->∀p∈L,F n p=some (V p)
 |[],_=>⟨0,λ_ _ p hp=>by cases hp⟩
 |x::L,h=>by
  obtain⟨N,hN⟩:=QaV L λp hp=>h p (by simp[hp]);obtain⟨M,hM⟩:=h x (by simp);refine⟨N+M,λn hn p hp=>?_⟩;rcases X7.1 hp with rfl|hp
  .exact hM n (by omega)
  .exact hN n (by omega) p hp
theorem Ev.anyP{E R:Type}[DecidableEq R]{k:Nat->List E->Option R}{l:List E}{r:R}(h:∀p,p.Perm l->Ev (λn=>k n p) r):Ev (λn=>Go.Sw.anyP (k n) l) r:=by
 obtain⟨N,b⟩:=QaV (F:=λn p=>k n p) (V:=λ_=>r) (QbQ l) λp a=>h p (Qcv l p a);exact⟨N,λn d=>Qhi λp a=>b n d p (Qdm l p a)⟩
theorem Ev.isNil{α R:Type}[DecidableEq R]{l:List α}{x y:Nat->Option R}{v:R}(d:l=[]->Ev x v)(a:Ev y v):Ev (λn=>Go.Sw.isNil l (x n) (y n)) v:=by
 unfold Go.Sw.isNil;cases q:l.isEmpty with
 |false=>exact a
 |true=>
  obtain⟨N,e⟩:=d (List.isEmpty_iff.1 q);obtain⟨M,b⟩:=a;exact⟨N+M,λn f=>by dsimp only;rw[e n (by omega),b n (by omega)];simp⟩
theorem QkZ:∀(k:Nat) (l:List Part),k<=17->szPs l<=256->(∀x∈l,Part.wf x)->∃s:Nat,s<=szPs l/\Ev (λn=>F_c n l (k:Int)) (((min (hPs l) k:Nat):Int),(s:Int)):=by
 intro k
 induction k using Nat.strongRecOn with
 |_ k E=>
 intro l z g O;have u:=Qap l;have loop:∀(r:List Part) (i a b:Nat),l.drop i=r->i<=l.length->a<=17->b+(szPs r-r.length)<=256->∃s:Nat,s<=b+(szPs r-r.length)/\EvI (λn=>F_ac n l (k:Int) (F_c n)) ((a:Int),(b:Int),(i:Int)) (((max a (min (hPs r) k):Nat):Int),(s:Int)):=by
  intro r
  induction r with
  |nil=>
   intro i a b m w _ _;refine⟨b,by omega,Ei ?_⟩;unfold F_ac;simp only[YE m w,Vr,XK];refine(Qa _).eq ?_;simp[hPs]
  |cons p r q=>
   intro i a b m w J f;obtain⟨d,e⟩:=QJ (by omega) m;obtain⟨R,F⟩:=Jb (O p d.mem);have B:=Qa8 d.mem;rw[Qae]at B;have P:=Qap r;rw[szPs,Qae,X2]at f⊢;have step:∃t:Nat,t<=szPs p.Parts/\Ev (λn=>F_ac n l (k:Int) (F_c n) ((a:Int),(b:Int),(i:Int))) (.cont (((max a (min (hP p) k):Nat):Int),((b+t:Nat):Int),((i+1:Nat):Int))):=by
    unfold F_ac;simp only[d.lt,Vq,d.ix,XK,d.nx,QhT];rw[Qow];cases T:p.Parts.isEmpty with
    |true=>
     refine⟨0,XV _,?_⟩;simp only[Vq,XK,Nat.zero_min,Nat.max_zero,Xx];exact Qa _
    |false=>
     simp only[Vr];by_cases j:k=0
     .subst j;refine⟨0,XV _,?_⟩;simp only[Nat.min_zero,Nat.max_zero,Xx];exact Qa _
     .obtain⟨t,y,h⟩:=E (k-1) (by omega) p.Parts (by omega) (by omega) F;refine⟨t,y,?_⟩;have M:IntKind.i64.wrap ((k:Int)-1)=((k-1:Nat):Int):=by rw[Ys (by omega) (by omega)];omega
      have N:((k:Int)==0)=false:=beq_false_of_ne (by omega);rw[N,YJ (show¬(256:Int)<(b:Int)by omega),M];simp only[Vr,XK];refine Ea (Ea h (Qa _)) ((Qa _).eq ?_);have H:IntKind.i64.wrap (((min (hPs p.Parts) (k-1):Nat):Int)+1)=((min (hPs p.Parts) (k-1)+1:Nat):Int):=Yz (by omega);have Q:IntKind.i64.wrap ((b:Int)+(t:Int))=((b+t:Nat):Int):=by rw[Ys (by omega) (by omega)];omega
      simp only[H,Q];congr 2;split<;>omega
   obtain⟨t,y,h⟩:=step;obtain⟨s,L,G⟩:=q (i+1) (max a (min (hP p) k)) (b+t) e (by have:=d.lt';omega) (by omega) (by omega);refine⟨s,by omega,(Ew h G).eq ?_⟩;rw[hPs];congr 1;omega
 obtain⟨s,B,p⟩:=loop l 0 0 l.length rfl (XV _) (by omega) (by omega);refine⟨s,by omega,YN ?_⟩;show Ev (λn=>B_c (F_c n) n l (k:Int)) _;unfold B_c;refine Ea p.ev ((Qa _).eq ?_);rw[Nat.zero_max]
structure FewL (c:Course):Prop where
 lens:lensC c<=200
 name:c.Name.length<=100
 dist:∀d∈c.Distances,d.Cutoffs.length<=12/\szPs d.Route<=24
 ties:c.Ties.length<=200
def fitsG(c:Course):Bool:=
 !(decide (40<(c.Mats.length:Int))||(decide (512<(c.Legs.length:Int))||(decide (8<(c.Distances.length:Int))||(decide (32<(c.Waves.length:Int))||(decide (32<(c.Offences.length:Int))||(decide (32<(c.Categories.length:Int))||decide (32<(c.Prizes.length:Int))))))))
  &&c.Distances.all λd=> !(decide (64<(d.Cutoffs.length:Int))||decide (16<hPs d.Route))
theorem QmF(c:Course)(w:CourseOk c)(q:PartsOk c)(k:FewL c):Ev (λn=>F_af n c) (fitsG c):=by
 unfold F_af fitsG;refine Ea (Et λ_=>Et λ_=>Et λ_=>Et λ_=>Et λ_=>Et λ_=>Qa _) ?_;cases(decide (40<(c.Mats.length:Int))||(decide (512<(c.Legs.length:Int))||(decide (8<(c.Distances.length:Int))||(decide (32<(c.Waves.length:Int))||(decide (32<(c.Offences.length:Int))||(decide (32<(c.Categories.length:Int))||decide (32<(c.Prizes.length:Int))))))))with
 |true=>exact Qa _
 |false=>
  rw[Xi,VB];refine Y7 (Ea (QdM c.Distances (λd=> !(decide (64<(d.Cutoffs.length:Int))||decide (16<hPs d.Route))) (Ctl.done false) (Ctl.cont ()) (by have:=w.dist;omega) (λi x a=>?_) ?_) ?_)
  .obtain⟨f,b⟩:=k.dist x a.mem;unfold F_cy;simp only[a.lt,Vq,a.ix,XK,a.nx];obtain⟨s,g,p⟩:=QkZ 17 x.Route (XU _) (by omega) (q.wf x a.mem);refine Ea p ?_;refine Ea (Et λ_=>Et λ_=>Qa _) ?_;simp only[YJ (show¬(256:Int)<(s:Int)by omega),Bool.or_false];have e:decide ((16:Int)<((min (hPs x.Route) 17:Nat):Int))=decide (16<hPs x.Route):=by
    rw[decide_eq_decide];omega
   rw[e];cases(decide (64<(x.Cutoffs.length:Int))||decide (16<hPs x.Route))<;>exact Qa _
  .unfold F_cy;simp only[Ju,Vr];exact Qa _
  .cases c.Distances.all (λd=> !(decide (64<(d.Cutoffs.length:Int))||decide (16<hPs d.Route)))<;>exact Qa _
theorem Qhe(c:Course)(w:CourseOk c)(q:PartsOk c)(k:FewL c)(hl:c.Ties.length<=1048576)(h:∀x∈c.Ties,Step.wf x):∃e,Ev (λn=>F_h n c) e:=by
 by_cases f:∀d∈c.Distances,hPs d.Route<=16
 .exact⟨_,Qk0 c w q ⟨k.lens,k.name,λd a=>⟨by have:=(k.dist d a).1;omega,by have:=(k.dist d a).2;omega,f d a⟩,k.ties⟩ hl h⟩
 .refine⟨2,?_⟩;unfold F_h;refine Ea (QmF c w q k) ?_;have:fitsG c=false:=by
   unfold fitsG;rw[Bool.and_eq_false_iff];right;rw[List.all_eq_false];have:=Classical.not_forall.1 f;obtain⟨d,a⟩:=this;have b:d∈c.Distances/\ ¬hPs d.Route<=16:=by
    refine Classical.byContradiction λz=>a λg=>Classical.byContradiction λy=>z ⟨g,y⟩
   refine⟨d,b.1,?_⟩;have:decide (16<hPs d.Route)=true:=Vv (by omega);rw[this];simp
  rw[this];exact Qa _
theorem QiY:∀(k:Nat) (l:List Part),k<=21->l.length<=1048576->(∀x∈l,Part.wf x)->∃v:Nat,v<=1048576+500*(k+1)/\(v<500->szPs l<=v)/\Ev (λn=>F_l n l ((21-k:Nat):Int)) (v:Int):=by
 intro k
 induction k with
 |zero=>
  intro l _ s w;refine⟨500,by omega,by omega,YN ?_⟩;show Ev (λn=>B_l (F_l n) n l ((21-0:Nat):Int)) _;unfold B_l;exact Qa _
 |succ k y=>
  intro l N s w;have loop:∀(r:List Part) (i a:Nat),l.drop i=r->i<=l.length->a<=1048576+500*(k+1+1)->∃v:Nat,v<=1048576+500*(k+1+1)/\a<=v/\(v<500->a+(szPs r-r.length)<=v)/\EvI (λn=>F_ea n l ((21-(k+1):Nat):Int) (F_l n)) ((a:Int),(i:Int)) (v:Int):=by
   intro r
   induction r with
   |nil=>
    intro i a h t f;refine⟨a,f,XU _,λ_=>by simp[szPs],Ei ?_⟩;unfold F_ea;simp only[YE h t,Vr,XK];exact Qa _
   |cons p r q=>
    intro i a h t f;obtain⟨b,e⟩:=QJ (by omega) h;obtain⟨B,z⟩:=Jb (w p b.mem);by_cases J:a<500
    .obtain⟨u,M,L,E⟩:=y p.Parts (by omega) B z;have G:IntKind.i64.wrap (((21-(k+1):Nat):Int)+1)=((21-k:Nat):Int):=by rw[Ys (by omega) (by omega)];omega
     have H:IntKind.i64.wrap ((a:Int)+(u:Int))=((a+u:Nat):Int):=by rw[Ys (by omega) (by omega)];omega
     obtain⟨v,g,F,m,j⟩:=q (i+1) (a+u) e (by have:=b.lt';omega) (by omega);refine⟨v,g,by omega,λd=>?_,Ew ?_ j⟩
     .have:=m d;have:=L (by omega);have:=Qap r;rw[szPs,Qae,X2];omega
     .unfold F_ea;simp only[b.lt,Vq,b.ix,XK,b.nx,YX (show(a:Int)<500 by omega),G];refine Ea E ?_;rw[H];exact Qa _
    .refine⟨a,f,XU _,λd=>absurd d J,Ei ?_⟩;unfold F_ea;simp only[b.lt,Vq,XK,YJ (show¬(a:Int)<500 by omega),Vr];exact Qa _
  obtain⟨v,g,F,m,j⟩:=loop l 0 l.length rfl (XV _) (XW s (Nat.le_add_right _ _));have:=Qap l;refine⟨v,g,λd=>by have:=m d;omega,YN ?_⟩;show Ev (λn=>B_l (F_l n) n l ((21-(k+1):Nat):Int)) _;unfold B_l;rw[YJ (show¬(20:Int)<((21-(k+1):Nat):Int)by omega)];exact Y7 (Ea j.ev (Qa _))
theorem Qiq:∀(k:Nat) (l:List Cond),k<=21->l.length<=1048576->(∀x∈l,Cond.wf x)->∃v:Nat,v<=1048576+500*(k+1)/\Ev (λn=>F_g n l ((21-k:Nat):Int)) (v:Int):=by
 intro k
 induction k with
 |zero=>
  intro l _ q s;refine⟨500,by omega,YN ?_⟩;show Ev (λn=>B_g (F_g n) n l ((21-0:Nat):Int)) _;unfold B_g;exact Qa _
 |succ k w=>
  intro l G q s;have loop:∀(r:List Cond) (i a:Nat),l.drop i=r->i<=l.length->a<=1048576+500*(k+1+1)->∃v:Nat,v<=1048576+500*(k+1+1)/\EvI (λn=>F_fm n l ((21-(k+1):Nat):Int) (F_g n)) ((a:Int),(i:Int)) (v:Int):=by
   intro r
   induction r with
   |nil=>
    intro i a h t f;refine⟨a,f,Ei ?_⟩;unfold F_fm;simp only[YE h t,Vr,XK];exact Qa _
   |cons p r m=>
    intro i a h t f;obtain⟨b,e⟩:=QJ (by omega) h;have d:=Qao (s p b.mem);by_cases F:a<500
    .obtain⟨u,E,z⟩:=w p.Parts (by omega) d.1 d.2;have B:IntKind.i64.wrap (((21-(k+1):Nat):Int)+1)=((21-k:Nat):Int):=by rw[Ys (by omega) (by omega)];omega
     have y:IntKind.i64.wrap ((a:Int)+(u:Int))=((a+u:Nat):Int):=by rw[Ys (by omega) (by omega)];omega
     obtain⟨v,g,j⟩:=m (i+1) (a+u) e (by have:=b.lt';omega) (by omega);refine⟨v,g,Ew ?_ j⟩;unfold F_fm;simp only[b.lt,Vq,b.ix,XK,b.nx,YX (show(a:Int)<500 by omega),B];refine Ea z ?_;rw[y];exact Qa _
    .refine⟨a,f,Ei ?_⟩;unfold F_fm;simp only[b.lt,Vq,XK,YJ (show¬(a:Int)<500 by omega),Vr];exact Qa _
  obtain⟨v,g,j⟩:=loop l 0 l.length rfl (XV _) (XW q (Nat.le_add_right _ _));refine⟨v,g,YN ?_⟩;show Ev (λn=>B_g (F_g n) n l ((21-(k+1):Nat):Int)) _;unfold B_g;rw[YJ (show¬(20:Int)<((21-(k+1):Nat):Int)by omega)];exact Y7 (Ea j.ev (Qa _))
def Cs:Nat->Nat
 |0=>500
 |k+1=>4194304+2*Cs k
theorem QoF:∀k,k<22->Cs k<=1125899906842624:=by decide
theorem QhB:∀(k:Nat) (l:List Step),k<=21->l.length<=1048576->(∀x∈l,Step.wf x)->∃v:Nat,v<=Cs k/\(v<500->l.length<=v)/\Ev (λn=>F_j n l ((21-k:Nat):Int)) (v:Int):=by
 intro k
 induction k with
 |zero=>
  intro l _ H z;refine⟨500,XU _,by omega,YN ?_⟩;show Ev (λn=>B_j (F_j n) n l ((21-0:Nat):Int)) _;unfold B_j;exact Qa _
 |succ k q=>
  intro l W H z;have M:=QoF k (by omega);have E:=QoF (k+1) (by omega);have Q:Cs (k+1)=4194304+2*Cs k:=rfl;have loop:∀(r:List Step) (i a:Nat),l.drop i=r->i<=l.length->a<=Cs (k+1)->∃v:Nat,v<=Cs (k+1)/\a<=v/\EvI (λn=>F_fx n l ((21-(k+1):Nat):Int) (F_j n)) ((a:Int),(i:Int)) (v:Int):=by
   intro r
   induction r with
   |nil=>
    intro i a g t e;refine⟨a,e,XU _,Ei ?_⟩;unfold F_fx;simp only[YE g t,Vr,XK];exact Qa _
   |cons p r j=>
    intro i a g t e;obtain⟨b,d⟩:=QJ (by omega) g;obtain⟨G,s,m⟩:=Qan (z p b.mem);by_cases V:a<500
    .obtain⟨u,R,L⟩:=Qiq 21 [p.Cond] (XU _) (by simp) (by simpa using G);obtain⟨x,T,_,F⟩:=q p.Then (by omega) s.1 s.2;obtain⟨y,y1,_,B⟩:=q p.Else (by omega) m.1 m.2;have N:IntKind.i64.wrap (((21-(k+1):Nat):Int)+1)=((21-k:Nat):Int):=by rw[Ys (by omega) (by omega)];omega
     have O:IntKind.i64.wrap ((a:Int)+(u:Int))=((a+u:Nat):Int):=by rw[Ys (by omega) (by omega)];omega
     have J:IntKind.i64.wrap (((a+u:Nat):Int)+(x:Int))=((a+u+x:Nat):Int):=by rw[Ys (by omega) (by omega)];omega
     have P:IntKind.i64.wrap (((a+u+x:Nat):Int)+(y:Int))=((a+u+x+y:Nat):Int):=by rw[Ys (by omega) (by omega)];omega
     obtain⟨v,f,w,h⟩:=j (i+1) (a+u+x+y) d (by have:=b.lt';omega) (by omega);refine⟨v,f,by omega,Ew ?_ h⟩;unfold F_fx;simp only[b.lt,Vq,b.ix,XK,b.nx,YX (show(a:Int)<500 by omega),N];refine Ea L (Ea F (Ea B ?_));rw[O,J,P];exact Qa _
    .refine⟨a,e,XU _,Ei ?_⟩;unfold F_fx;simp only[b.lt,Vq,XK,YJ (show¬(a:Int)<500 by omega),Vr];exact Qa _
  obtain⟨v,f,w,h⟩:=loop l 0 l.length rfl (XV _) (by omega);refine⟨v,f,λ_=>w,YN ?_⟩;show Ev (λn=>B_j (F_j n) n l ((21-(k+1):Nat):Int)) _;unfold B_j;rw[YJ (show¬(20:Int)<((21-(k+1):Nat):Int)by omega)];exact Y7 (Ea h.ev (Qa _))
theorem QkV(c:Course)(w:CourseOk c)(q:PartsOk c)(hl:c.Ties.length<=1048576)(H:∀x∈c.Ties,Step.wf x):∃b,Ev (λn=>F_ab n c) b/\(b=true->FewL c):=by
 have N:=w.dist;have T:=w.mats;have loop:∀(r:List Distance) (i:Nat),c.Distances.drop i=r->i<=c.Distances.length->∃a:Ctl Unit Bool,EvI (λn=>F_fi n c) (i:Int) a/\(a=.done false\/(a=.cont ()/\ ∀d∈r,d.Cutoffs.length<=12/\szPs d.Route<=24)):=by
  intro r
  induction r with
  |nil=>
   intro i u B;refine⟨.cont (),Ei ?_,.inr ⟨rfl,λd h=>by cases h⟩⟩;unfold F_fi;simp only[YE u B,Vr];exact Qa _
  |cons d r z=>
   intro i u B;obtain⟨e,k⟩:=QJ (by omega) u;obtain⟨v,G,t,y⟩:=QiY 21 d.Route (XU _) (q.len d e.mem) (q.wf d e.mem);have step:Ev (λn=>F_fi n c (i:Int)) (bif (decide ((24:Int)<(v:Int))||(decide (12<(d.Cutoffs.length:Int))||decide (60<(d.Name.length:Int))))then .done (.done false)else .cont ((i+1:Nat):Int)):=by
    unfold F_fi;simp only[e.lt,Vq,e.ix,XK,e.nx];refine Ea (v:=decide ((24:Int)<(v:Int))||(decide (12<(d.Cutoffs.length:Int))||decide (60<(d.Name.length:Int)))) (Ea y (Et λ_=>Et λ_=>Qa _)) ?_;cases(decide ((24:Int)<(v:Int))||(decide (12<(d.Cutoffs.length:Int))||decide (60<(d.Name.length:Int))))<;>exact Qa _
   cases f:(decide ((24:Int)<(v:Int))||(decide (12<(d.Cutoffs.length:Int))||decide (60<(d.Name.length:Int))))with
   |true=>
    rw[f]at step;exact⟨.done false,Ei step,.inl rfl⟩
   |false=>
    rw[f]at step;obtain⟨a,j,g⟩:=z (i+1) k (by have:=e.lt';omega);refine⟨a,Ew step j,?_⟩;rcases g with g|⟨g,s⟩
    .exact .inl g
    .refine .inr ⟨g,λx l=>?_⟩;rcases X7.1 l with rfl|l
     .simp only[XY,decide_eq_false_iff_not]at f;have:=t (by omega);exact⟨by omega,by omega⟩
     .exact s x l
 obtain⟨a,j,g⟩:=loop c.Distances 0 rfl (XV _);rcases g with rfl|⟨rfl,s⟩
 .refine⟨false,?_,λh=>by cases h⟩;unfold F_ab;exact Ea j.ev (Qa _)
 .have J:∃a:Ctl Unit Bool,Ev (λn=>iter (F_ge n c) n (0:Int)) a/\(a=.done false\/a=.cont ()):=by
   refine⟨_,QdM c.Mats (λm=> !decide (60<(m.Name.length:Int))) (Ctl.done false) (Ctl.cont ()) (by omega) (λi x e=>?_) ?_,?_⟩
   .unfold F_ge;simp only[e.lt,Vq,e.ix,XK,e.nx];cases decide (60<(x.Name.length:Int))<;>exact Qa _
   .unfold F_ge;simp only[Ju,Vr];exact Qa _
   .cases c.Mats.all (λm=> !decide (60<(m.Name.length:Int)))with
    |true=>exact .inr rfl
    |false=>exact .inl rfl
  obtain⟨E,p,F⟩:=J;rcases F with rfl|rfl
  .refine⟨false,?_,λh=>by cases h⟩;unfold F_ab;exact Ea j.ev (Ea p (Qa _))
  .obtain⟨v,G,t,y⟩:=QhB 21 c.Ties (XU _) hl H;cases f:(decide (12<(c.Mats.length:Int))||(decide (30<(c.Legs.length:Int))||(decide (4<(c.Distances.length:Int))||(decide (6<(c.Waves.length:Int))||(decide (6<(c.Offences.length:Int))||(decide (6<(c.Categories.length:Int))||(decide (6<(c.Prizes.length:Int))||decide (60<(c.Name.length:Int)))))))))with
   |true=>
    refine⟨false,?_,λh=>by cases h⟩;unfold F_ab;refine Ea j.ev (Ea p (Ea (v:=true) (Eu (Et λ_=>Et λ_=>Et λ_=>Et λ_=>Et λ_=>Et λ_=>Et λ_=>Qa _) f) (Qa _)))
   |false=>
    refine⟨decide ((v:Int)<=100),?_,λh=>?_⟩
    .unfold F_ab;refine Ea j.ev (Ea p (Ea (v:=false) (Eu (Et λ_=>Et λ_=>Et λ_=>Et λ_=>Et λ_=>Et λ_=>Et λ_=>Qa _) f) (Ea y (Qa _))))
    .have h:=Vw h;have:=t (by omega);simp only[XY,decide_eq_false_iff_not]at f;obtain⟨M,Q,V,O,L,P,W,R⟩:=f;exact⟨by unfold lensC;omega,by omega,s,by omega⟩
set_option maxRecDepth 4000
def openU(f:Fact):U_facts_open_rxk:=
 bif f.Kind==1 then .c0 ()else bif f.Kind==2 then .c1 ()else bif f.Kind==3 then .c2 ()else bif f.Kind==4 then .c3 ()else bif f.Kind==5 then .c4 ()else bif f.Kind==6 then .c5 ()
 else bif f.Kind==7 then .c6 ()else bif f.Kind==8 then .c7 ()else bif f.Kind==9 then .c8 ()else bif f.Kind==10 then
  (bif (f.Ruling.Kind==1)||(f.Ruling.Kind==2)then .c9 (0,0,0,0,0,0)else bif f.Ruling.Kind==3 then .c9 (1,9999,0,255,1,1099511627776)else bif f.Ruling.Kind==4 then .c9 (1,9999,0,255,1,64)else .c9 (1,9999,0,255,0,0))
 else bif f.Kind==11 then .c10 ()else bif f.Kind==12 then .c11 ()else bif f.Kind==13 then .c12 ()else .c13 ()
theorem Qj4(n:Nat)(f:Fact)(b:Int):F_ag n f b=some (openU f):=by
 unfold F_ag openU;cases(f.Kind==1)with
 |true=>rfl
 |false=>
 cases(f.Kind==2)with
 |true=>rfl
 |false=>
 cases(f.Kind==3)with
 |true=>rfl
 |false=>
 cases(f.Kind==4)with
 |true=>rfl
 |false=>
 cases(f.Kind==5)with
 |true=>rfl
 |false=>
 cases(f.Kind==6)with
 |true=>rfl
 |false=>
 cases(f.Kind==7)with
 |true=>rfl
 |false=>
 cases(f.Kind==8)with
 |true=>rfl
 |false=>
 cases(f.Kind==9)with
 |true=>rfl
 |false=>
 cases(f.Kind==10)with
 |true=>
  cases(f.Ruling.Kind==1)with
  |true=>rfl
  |false=>
  cases(f.Ruling.Kind==2)with
  |true=>rfl
  |false=>
  cases(f.Ruling.Kind==3)with
  |true=>rfl
  |false=>
  cases(f.Ruling.Kind==4)with
  |true=>rfl
  |false=>rfl
 |false=>
 cases(f.Kind==11)with
 |true=>rfl
 |false=>
 cases(f.Kind==12)with
 |true=>rfl
 |false=>
 cases(f.Kind==13)with
 |true=>rfl
 |false=>rfl
def headL:List Ent:=[⟨false,3,1,13⟩,⟨false,0,0,31⟩,⟨false,1,1,1048576⟩,⟨false,2,0,1099511627776⟩]
def bodyL:U_facts_open_rxk->List Ent
 |.c0 _=>[⟨false,4,1,9999⟩,⟨false,5,0,7⟩,⟨false,6,0,31⟩,⟨false,7,(-1099511627776),1099511627776⟩,⟨false,8,0,120⟩,⟨false,9,0,1048576⟩,⟨false,10,0,9999⟩,⟨false,11,0,1048576⟩]
 |.c1 _=>[⟨false,12,0,39⟩,⟨false,13,0,255⟩,⟨false,14,0,1048576⟩,⟨false,15,(-1099511627776),1099511627776⟩]
 |.c2 _=>[⟨false,16,0,39⟩,⟨false,17,0,255⟩,⟨false,18,(-1099511627776),1099511627776⟩,⟨false,19,(-1099511627776),1099511627776⟩,⟨false,20,0,1099511627776⟩]
 |.c3 _=>[⟨false,21,0,39⟩,⟨false,22,0,255⟩,⟨false,23,(-1099511627776),1099511627776⟩,⟨false,24,0,39⟩,⟨false,25,0,255⟩,⟨false,26,(-1099511627776),1099511627776⟩,⟨false,27,(-1099511627776),1099511627776⟩,⟨false,28,(-1099511627776),1099511627776⟩]
 |.c4 _=>[⟨false,29,1,9999⟩,⟨false,30,0,255⟩,⟨false,31,(-1099511627776),1099511627776⟩,⟨false,32,(-1099511627776),1099511627776⟩]
 |.c5 _=>[⟨false,33,0,39⟩,⟨false,34,0,255⟩,⟨false,35,(-1099511627776),1099511627776⟩,⟨false,36,(-1099511627776),1099511627776⟩]
 |.c6 _=>[⟨false,37,1,9999⟩,⟨false,38,1,9999⟩]
 |.c7 _=>[⟨false,39,1,1048576⟩,⟨false,40,1,9999⟩,⟨false,41,0,31⟩,⟨false,42,0,255⟩]
 |.c8 _=>[⟨false,43,1,1048576⟩,⟨false,44,0,9999⟩,⟨false,45,0,1125899906842624⟩,⟨false,46,0,1⟩]
 |.c9 x=>[⟨false,47,1,1048576⟩,⟨false,48,1,2⟩,⟨false,49,1,5⟩,⟨false,50,x.1,x.2.1⟩,⟨false,51,x.2.2.1,x.2.2.2.1⟩,⟨false,52,x.2.2.2.2.1,x.2.2.2.2.2⟩]
 |.c10 _=>[⟨false,53,1,1048576⟩,⟨true,0,0,1⟩]
 |.c11 _=>[]
 |.c12 _=>[⟨false,55,0,31⟩,⟨false,56,1,1048576⟩]
 |.c13 _=>[]
def fineU(f:Fact):U_facts_open_rxk->Bool
 |.c3 _=>decide (f.Sync.Min<=f.Sync.Max)
 |.c4 _=>decide (f.Hand.Lo<=f.Hand.Hi)
 |.c5 _=>decide (f.Silence.Lo<=f.Silence.Hi)
 |.c6 _=>decide (f.Pair.A<f.Pair.B)
 |.c13 _=>false
 |_=>true
def entsS(f:Fact):List Ent:=headL++bodyL (openU f)
def goodE(e:Ent):Bool:=bif e.fl then e.off==0 else decide (e.off<57)&& !(e.off==54)
theorem Qk2(f:Fact):∀e∈entsS f,goodE e=true:=by
 have h:∀u:U_facts_open_rxk,(headL++bodyL u).all goodE=true:=by intro u;cases u<;>rfl
 exact Xt.1 (h (openU f))
theorem Qfk(f:Fact):(entsS f).length<=12:=by
 have h:∀u:U_facts_open_rxk,(headL++bodyL u).length<=12:=by intro u;cases u<;>exact XS rfl
 exact h (openU f)
def isI:Option A->Bool
 |some (.int .i64 _)=>true
 |_=>false
theorem Qph{x:Option A}(h:isI x=true):∃v,x=some (.int .i64 v):=by
 unfold isI at h;split at h
 .exact⟨_,rfl⟩
 .cases h
theorem Qmq{f:Fact}{b:Int}{e:Ent}(h:goodE e=true):∃v,QfH (Fact.c f) b e=some v:=by
 unfold goodE at h;unfold QfH;cases a:e.fl with
 |true=>
  rw[a]at h;simp only[Vq]at h⊢;rw[h];exact⟨b,rfl⟩
 |false=>
  rw[a]at h;simp only[Vr,XX,Vs,Bool.not_eq_true']at h⊢;have all:(List.range 57).all (λo=>(o==54)||isI (Fact.c f)[o]?)=true:=by rfl
  have:=Xt.1 all e.off (List.mem_range.2 h.1);rw[h.2,Bool.false_or]at this;obtain⟨v,d⟩:=Qph this;rw[d];exact⟨v,rfl⟩
theorem QlT{x:Fact}{s v:Int}{e:Ent}(h:goodE e=true):∃q,Qi8 Fact.put x s e v=some q:=by
 unfold goodE at h;unfold Qi8;cases a:e.fl with
 |true=>
  rw[a]at h;simp only[Vq]at h⊢;rw[h];exact⟨_,rfl⟩
 |false=>
  rw[a]at h;simp only[Vr,XX,Vs,Bool.not_eq_true']at h⊢;have all:(List.range 57).all (λo=>(o==54)||(Fact.put x o v).isSome)=true:=by rfl
  have:=Xt.1 all e.off (List.mem_range.2 h.1);rw[h.2,Bool.false_or]at this;obtain⟨y,b⟩:=Option.isSome_iff_exists.1 this;rw[b];exact⟨_,rfl⟩
def getV(f:Fact)(b:Int)(e:Ent):Int:=(QfH (Fact.c f) b e).getD 0
def putV(x:Fact)(s:Int)(e:Ent)(v:Int):Fact×Int:=(Qi8 Fact.put x s e v).getD (x,s)
theorem Qmr{f:Fact}{b:Int}{e:Ent}(h:goodE e=true):QfH (Fact.c f) b e=some (getV f b e):=by
 obtain⟨v,a⟩:=Qmq (f:=f) (b:=b) h;unfold getV;rw[a];rfl
theorem QoU{x:Fact}{s v:Int}{e:Ent}(h:goodE e=true):Qi8 Fact.put x s e v=some (putV x s e v):=by
 obtain⟨q,a⟩:=QlT (x:=x) (s:=s) (v:=v) h;unfold putV;rw[a];rfl
def inE(f:Fact)(b:Int)(e:Ent):Bool:= !(decide (getV f b e<e.lo))&& !(decide (e.hi<getV f b e))
def numR(f:Fact)(b:Int):List Ent->List Int×Fact×Int->Ctl (List Int×Fact×Int) (List Int×Bool)
 |[],a=>.cont a
 |e::r,a=>bif inE f b e then numR f b r (a.1++[getV f b e],putV a.2.1 a.2.2 e (getV f b e))else .done ([],false)
theorem Qhh{α:Type}(l m:List α)(h:l.length+m.length<=1000):app l m=some (l++m):=by
 unfold app;have:Nat.ble (l.length+m.length) Qq=true:=XT (XW h (by decide));rw[this];rfl
theorem QnK(f:Fact)(b:Int)(E:List Ent)(hE:∀e∈E,goodE e=true)(hl:E.length<=12):∀(r:List Ent) (i:Nat) (a:List Int×Fact×Int),E.drop i=r->i<=E.length->a.1.length=i->
  EvI (λn=>F_de n f b E E) (a.1,a.2.1,a.2.2,(i:Int)) (numR f b r a):=by
 intro r
 induction r with
 |nil=>
  intro i a k p g;refine Ei ?_;unfold F_de;simp only[YE k p,Vr];exact Qa _
 |cons e r q=>
  intro i a k p l;obtain⟨g,j⟩:=QJ (by omega) k;have m:=hE e g.mem;have s:=g.lt';unfold numR;cases d:inE f b e with
  |true=>
   have h:=d;unfold inE at h;simp only[XX,Bool.not_eq_true']at h;refine Ew ?_ (q (i+1) (a.1++[getV f b e],putV a.2.1 a.2.2 e (getV f b e)) j (by omega) (by simp[l]));unfold F_de;simp only[g.lt,Vq,g.ix,XK,g.nx,Qmr m,h.1,h.2,Vr,QoU m];rw[Qhh a.1 [getV f b e] (by simp;omega)];exact Qa _
  |false=>
   refine Ei ?_;unfold F_de;simp only[g.lt,Vq,g.ix,XK,Qmr m];unfold inE at d;cases t:decide (getV f b e<e.lo)with
   |true=>exact Qa _
   |false=>
    rw[t]at d;simp only[Xi,VB,Bool.not_eq_false']at d;simp only[Vr,d,Vq];exact Qa _
def suspB(f:Fact):Int:=bif f.Appeal.Suspends then 1 else 0
def restS(f:Fact):Fact:={Uk with Ruling:={Ur with Kind:=f.Ruling.Kind:Ruling},Kind:=f.Kind:Fact}
def lastF(f x:Fact)(s:Int):Fact:=
 let y:Fact:=bif f.Kind != 10 then {x with Ruling:={x.Ruling with Kind:=0:Ruling}:Fact}else x
 {y with Appeal:={Case:=y.Appeal.Case,Suspends:=s==1:Appeal}:Fact}
def numF(f:Fact):List Int×Bool:=bif fineU f (openU f)then(match numR f (suspB f) (entsS f) ([],restS f,0)with
  |.cont a=>(a.1,lastF f a.2.1 a.2.2==f)
  |.done r=>r)else([],false)
theorem Qk5(n:Nat)(f:Fact):F_cj n ({Uk with Ruling:={Ur with Kind:=f.Ruling.Kind:Ruling}:Fact}) 0 f=some (entsS f):=by
 have a:openU ({({Uk with Ruling:={Ur with Kind:=f.Ruling.Kind:Ruling}:Fact})with Kind:=f.Kind:Fact})=openU f:=rfl;unfold F_cj entsS;rw[Qj4];simp only[XK];rw[a];unfold F_ah;generalize openU f=u;cases u<;>(simp only[XK];unfold bodyL;exact congrArg (Option.bind · _) (Qhh _ _ (by simp)))
theorem Qkj(f:Fact):Ev (λn=>F_aj n f) (numF f):=by
 unfold F_aj;refine Ea (v:=suspB f) ?_ ?_
 .unfold suspB;cases f.Appeal.Suspends<;>exact Qa _
 refine Ea (v:=bif fineU f (openU f)then .cont (bodyL (openU f))else .done ([],false)) ?_ ?_
 .simp only[Qj4,XK];unfold F_b F_fj F_ds F_da F_eq;generalize openU f=u;cases u with
  |c3=>unfold fineU;cases decide (f.Sync.Min<=f.Sync.Max)<;>exact Qa _
  |c4=>unfold fineU;cases decide (f.Hand.Lo<=f.Hand.Hi)<;>exact Qa _
  |c5=>unfold fineU;cases decide (f.Silence.Lo<=f.Silence.Hi)<;>exact Qa _
  |c6=>unfold fineU;cases decide (f.Pair.A<f.Pair.B)<;>exact Qa _
  |_=>exact Qa _
 unfold numF;cases fineU f (openU f)with
 |false=>exact Qa _
 |true=>
  simp only[Vq];have e:app headL (bodyL (openU f))=some (entsS f):=Qhh _ _ (by have:=Qfk f;unfold entsS at this;rw[X4]at this;omega);unfold F_ah;simp only[XK];refine Ea (Ez e) ?_;refine Ea (Ez (Qk5 0 f)) ?_;refine Ea (QnK f (suspB f) (entsS f) (Qk2 f) (Qfk f) (entsS f) 0 ([],restS f,0) rfl (XV _) rfl).ev ?_;cases numR f (suspB f) (entsS f) ([],restS f,0)with
  |done r=>exact Qa _
  |cont a=>
   simp only;refine Ea (v:=bif f.Kind != 10 then {a.2.1 with Ruling:={a.2.1.Ruling with Kind:=0:Ruling}:Fact}else a.2.1) ?_ (Qa _);cases(f.Kind != 10)<;>exact Qa _
def validS(f:Fact):Bool:=(numF f).2
theorem Y9(f:Fact):Ev (λn=>F_o n f) (bif validS f then 0 else 120):=by
 unfold F_o;refine Ea (Qkj f) ?_;unfold validS;cases(numF f).2<;>exact Qa _
theorem QiS{f:Fact}(h:validS f=true):(f.Kind==0)=false:=by
 cases q:(f.Kind==0)with
 |false=>rfl
 |true=>
  have a:f.Kind=0:=by simpa using q
  have b:openU f=.c13 ():=by unfold openU;rw[a];rfl
  unfold validS numF at h;rw[b]at h;cases h
set_option maxRecDepth 4000
def numN(v:Nat):List Int:=if h:128<=v then orI .u8 (IntKind.u8.wrap (v:Int)) 128::numN (v/128)else[IntKind.u8.wrap (v:Int)]
termination_by v
decreasing_by omega
theorem QeR{v:Nat}(h:128<=v):numN v=orI .u8 (IntKind.u8.wrap (v:Int)) 128::numN (v/128):=by
 rw[numN,dif_pos h]
theorem QaM{v:Nat}(h:¬128<=v):numN v=[IntKind.u8.wrap (v:Int)]:=by
 rw[numN,dif_neg h]
theorem shr7(v:Nat):Qcs .u64 (v:Int) 7=((v/128:Nat):Int):=by
 show Int.fdiv (v:Int) (2^7)=_;rw[Int.fdiv_eq_ediv_of_nonneg _ (by decide)];omega
theorem Qmd:∀(k v:Nat),v<128^(k+1)->(numN v).length<=k+1:=by
 intro k
 induction k with
 |zero=>
  intro v a;rw[QaM (by omega)];simp
 |succ k b=>
  intro v a;by_cases h:128<=v
  .rw[QeR h,X2];have:=b (v/128) (by rw[Nat.div_lt_iff_lt_mul (by decide)];rw[Nat.pow_succ]at a;exact a);omega
  .rw[QaM h];simp
theorem QgR:∀(k v:Nat) (l:List Int),v<128^(k+1)->l.length+k<4294967296->∃(l':List Int) (a:Nat),EvI (λn=>F_fr n) (l,(v:Int)) (l',(a:Int))/\l'++[IntKind.u8.wrap (a:Int)]=l++numN v/\l'.length<=l.length+k:=by
 intro k
 induction k with
 |zero=>
  intro v l b e;refine⟨l,v,Ei ?_,by rw[QaM (by omega)],XU _⟩;unfold F_fr;simp only[YJ (show¬(128:Int)<=(v:Int)by omega),Vr];exact Qa _
 |succ k d=>
  intro v l b e;by_cases h:128<=v
  .obtain⟨l',a,f,g,i⟩:=d (v/128) (l++[orI .u8 (IntKind.u8.wrap (v:Int)) 128]) (by rw[Nat.div_lt_iff_lt_mul (by decide)];rw[Nat.pow_succ]at b;exact b) (by simp;omega);refine⟨l',a,Ew ?_ f,?_,?_⟩
   .unfold F_fr;simp only[YX (show(128:Int)<=(v:Int)by omega),Vq,shr7];rw[Qal l _ (by omega)];exact Qa _
   .rw[g,QeR h];simp
   .simp at i;omega
  .refine⟨l,v,Ei ?_,by rw[QaM h],by omega⟩;unfold F_fr;simp only[YJ (show¬(128:Int)<=(v:Int)by omega),Vr];exact Qa _
theorem Qfg(v:Nat)(l:List Int)(d:v<18446744073709551616)(hl:l.length<=1000000):Ev (λn=>F_q n l (v:Int)) (l++numN v):=by
 obtain⟨e,f,a,b,g⟩:=QgR 9 v l (Vg d (by decide)) (by omega);unfold F_q;refine Ea a.ev ?_;simp only;rw[Qal e _ (by omega),b];exact Qa _
theorem QeP{v:Nat}(hv:v<18446744073709551616):(numN v).length<=10:=Qmd 9 v (Vg hv (by decide))
def zigI(x:Int):Int:=Qew .u64 (QeC .u64 (IntKind.u64.wrap x) 1) (IntKind.u64.wrap (Qcs .i64 x 63))
theorem wrapU(x:Int):0<=IntKind.u64.wrap x/\IntKind.u64.wrap x<18446744073709551616:=by
 have e:IntKind.u64.wrap x=x%18446744073709551616:=by
  unfold IntKind.wrap;rfl
 rw[e];omega
theorem QgE(x:Int):∃z:Nat,zigI x=(z:Int)/\z<18446744073709551616:=by
 have h:=wrapU ((BitVec.ofInt IntKind.u64.bits (QeC .u64 (IntKind.u64.wrap x) 1)^^^BitVec.ofInt IntKind.u64.bits (IntKind.u64.wrap (Qcs .i64 x 63))).toNat);refine⟨(zigI x).toNat,?_,?_⟩
 .unfold zigI Qew;omega
 .unfold zigI Qew;omega
def oneB(x:Int):List Int:=1::numN (zigI x).toNat
theorem QhP(x:Int):(oneB x).length<=11:=by
 obtain⟨z,b,a⟩:=QgE x;unfold oneB;rw[b];have:=QeP a;simp;omega
theorem Qig(l:List Int)(x:Int)(hl:l.length<=100000):Ev (λn=>F_ae n l ({Kind:=1,N:=x,S:=[],L:=[]:Value})) (l++oneB x):=by
 unfold F_ae F_as;rw[Qal l 1 (by omega)];simp only[XK];obtain⟨z,b,d⟩:=QgE x;have a:=b;unfold zigI at a;rw[a];refine Ea (Qfg z (l++[1]) d (by simp;omega)) ((Qa _).eq ?_);unfold oneB;rw[b];simp
def mkV(x:Int):Value:={Kind:=1,N:=x,S:=[],L:=[]:Value}
def listV(l:List Int):Value:={Kind:=3,N:=0,S:=[],L:=l.map mkV:Value}
theorem Qjh(x:Int):Ev (λn=>F_k n (mkV x)) (0,true):=by
 refine YN ?_;show Ev (λn=>B_k (F_k n) n (mkV x)) _;unfold B_k mkV;simp only;cases(x==0)with
 |true=>exact Qa _
 |false=>exact Qa _
theorem Qh0(l:List Int)(hl:l.length<=1000):Ev (λn=>F_k n (listV l)) (1,true):=by
 refine YN ?_;show Ev (λn=>B_k (F_k n) n (listV l)) _;unfold B_k listV;simp only;refine Ea (v:=[false,(((l.map mkV).length:Int)==0),(((l.map mkV).length:Int)==0),true]) (Qa _) ?_;refine Ea (v:=false) (Qa _) ?_;refine Ea (v:=(Ctl.cont (0:Int):Ctl Int (Int×Bool))) ?_ (Qa _);refine Ev.iter (λi=>((0:Int),(i:Int))) (l.map mkV).length rfl (λi d=>?_) ?_
 .have a:=JB (x:=(l.map mkV)[i]) (show(l.map mkV).length<=4611686018427387904 by rw[X3];omega) (XL d);have b:∃y,(l.map mkV)[i]=mkV y:=by
   rw[List.getElem_map];exact⟨_,rfl⟩
  obtain⟨y,e⟩:=b;unfold F_gx;simp only[a.lt,Vq,a.ix,XK,a.nx];rw[e];exact Ea (Qjh y) (Qa _)
 .unfold F_gx;simp only[Ju,Vr];exact Qa _
def listB(l:List Int):List Int:=[3]++numN l.length++(l.map oneB).flatten
theorem Qg8(l:List Int)(hl:l.length<=1000):Ev (λn=>F_cl n (listV l)) (listB l):=by
 unfold F_cl;have t:app ([]:List Int) [3]=some [3]:=rfl;rw[t];simp only[XK];have u:IntKind.u64.wrap (((listV l).L.length:Int))=((l.length:Nat):Int):=by
  have:IntKind.u64.wrap (((listV l).L.length:Int))=(((listV l).L.length:Int))%18446744073709551616:=by unfold IntKind.wrap;rfl
  rw[this];unfold listV;rw[X3];omega
 rw[u];have p:=QeP (show l.length<18446744073709551616 by omega);refine Ea (Qfg l.length [3] (by omega) (by simp)) ?_;refine Ea (v:=listB l) ?_ (Qa _);have k:∀m:List Int,(m.map oneB).flatten.length<=11*m.length:=by
  intro m
  induction m with
  |nil=>simp
  |cons x m d=>
   have:=QhP x;simp only[Vk,Vm,X4,X2];omega
 have h:=QL (step:=λn=>F_gg n (listV l)) (l.map mkV) (λ(a:List Int) (v:Value)=>a++oneB v.N) ([3]++numN l.length) (λa i=>(a,(i:Int))) (λa=>a) (by rw[X3];omega) rfl (λi x a e q=>?_) ?_
 .refine Eu h ?_;have:∀(m:List Int) (a:List Int),(m.map mkV).foldl (λ(a:List Int) (v:Value)=>a++oneB v.N) a=a++(m.map oneB).flatten:=by
   intro m
   induction m with
   |nil=>intro a;simp
   |cons x m d=>intro a;simp only[Vk,XE,Vm];rw[d];simp[mkV]
  rw[this];rfl
 .have r:∃y,x=mkV y:=by
   obtain⟨y,_,w⟩:=Xf.1 e.mem;exact⟨y,w.symm⟩
  obtain⟨y,rfl⟩:=r;have g:a.length<=100000:=by
   have:∀(m:List Int) (a:List Int),((m.map mkV).foldl (λ(a:List Int) (v:Value)=>a++oneB v.N) a).length<=a.length+11*m.length:=by
    intro m
    induction m with
    |nil=>intro a;simp
    |cons x m d=>
     intro a;simp only[Vk,XE,X2];have s:=d (a++oneB (mkV x).N);have f:=QhP (mkV x).N;rw[X4]at s;omega
   have f:=this (l.take i) ([3]++numN l.length);rw[List.map_take, <- q,X4,Xy]at f;simp at f;omega
  unfold F_gg;have b:decide ((i:Int)<((listV l).L.length:Int))=true:=e.lt;have j:idx (listV l).L (i:Int)=some (mkV y):=e.ix;simp only[b,Vq,j,XK,e.nx];refine Ea (Qig a y g) ?_;exact Qa _
 .unfold F_gg;have b:decide (((l.map mkV).length:Int)<((listV l).L.length:Int))=false:=Ju _;simp only[b,Vr];exact Qa _
theorem Qmc{f:Fact}{b:Int}:∀(r:List Ent) (a c:List Int×Fact×Int),numR f b r a=.cont c->c.1.length=a.1.length+r.length:=by
 intro r
 induction r with
 |nil=>intro a c h;cases h;rfl
 |cons e r d=>
  intro a c h;unfold numR at h;cases q:inE f b e with
  |false=>rw[q]at h;cases h
  |true=>
   rw[q]at h;have:=d _ _ h;simp at this;rw[this,X2];omega
theorem Qme(f:Fact):(numF f).1.length<=12:=by
 unfold numF;cases fineU f (openU f)with
 |false=>simp
 |true=>
  simp only[Vq];cases h:numR f (suspB f) (entsS f) ([],restS f,0)with
  |cont a=>
   have:=Qmc _ _ _ h;have:=Qfk f;simp at*;omega
  |done r=>
   have:∀(E:List Ent) (a:List Int×Fact×Int),numR f (suspB f) E a=.done r->r=([],false):=by
    intro E
    induction E with
    |nil=>intro a h;cases h
    |cons e E ih=>
     intro a h;unfold numR at h;cases q:inE f (suspB f) e with
     |false=>rw[q]at h;cases h;rfl
     |true=>rw[q]at h;exact ih _ h
   rw[this _ _ h];simp
def encF(f:Fact):List Int×Int:=bif validS f then(listB (numF f).1,0)else([],120)
theorem Qgl(f:Fact):Ev (λn=>F_ai n f) (encF f):=by
 unfold F_ai;refine Ea (Qkj f) ?_;have l:=Qme f;unfold encF validS;generalize numF f=r at*;cases h:r.2 with
 |false=>exact Qa _
 |true=>
  simp only[Xh,Vr,Vq];refine Ea (v:=r.1.map mkV) ?_ ?_
  .refine Eu (QL r.1 (λ(a:List Value) (x:Int)=>a++[mkV x]) [] (λa i=>(a,(i:Int))) (λa=>a) (by omega) rfl (λi x a d g=>?_) ?_) ?_
   .unfold F_hl;simp only[d.lt,Vq,d.ix,XK,d.nx];have j:a.length<=12:=by
     have:∀(m:List Int) (a:List Value),(m.foldl (λ(a:List Value) (x:Int)=>a++[mkV x]) a).length=a.length+m.length:=by
      intro m
      induction m with
      |nil=>intro a;simp
      |cons x m b=>intro a;simp only[XE,X2];rw[b];simp;omega
     rw[g,this,Xy];simp;omega
    have e:=Qal a (mkV x) (by omega);unfold mkV at e;rw[e];exact Qa _
   .unfold F_hl;simp only[Ju,Vr];exact Qa _
   .have:∀(m:List Int) (a:List Value),m.foldl (λ(a:List Value) (x:Int)=>a++[mkV x]) a=a++m.map mkV:=by
     intro m
     induction m with
     |nil=>intro a;simp
     |cons x m b=>intro a;simp only[XE,Vk];rw[b];simp
    rw[this];rfl
  refine Ea (v:=(listB r.1,0)) ?_ (Qa _);have k:=Qh0 r.1 (by omega);unfold F_fh F_ec;have e:({Kind:=3,N:=0,S:=[],L:=r.1.map mkV:Value})=listV r.1:=rfl;rw[e];refine Ea (v:=0) (Ea k (Qa _)) ?_;unfold F_ef;exact Ea (Qg8 r.1 (by omega)) (Qa _)
def cmpI(a b:Int):Int:=bif decide (a<b)then-1 else bif decide (b<a)then 1 else 0
theorem Qhb(n:Nat)(a b:Int):F_t n a b=some (cmpI a b):=by
 unfold F_t F_at cmpI;simp only[XK,bne_self_eq_false,Vr];cases decide (a<b)with
 |true=>rfl
 |false=>cases decide (b<a)<;>rfl
def orL:List Int->Int
 |[]=>0
 |x::r=>bif x != 0 then x else orL r
theorem ev_or(l:List Int)(hl:l.length<=1000):Ev (λn=>F_ca n l) (orL l):=by
 unfold F_ca;have loop:∀(r:List Int) (i:Nat),l.drop i=r->i<=l.length->EvI (λn=>F_dq n l) (i:Int) (bif orL r==0 then Ctl.cont ()else Ctl.done (orL r)):=by
  intro r
  induction r with
  |nil=>
   intro i d f;refine Ei ?_;unfold F_dq;simp only[YE d f,Vr];exact Qa _
  |cons x r g=>
   intro i d f;obtain⟨a,b⟩:=QJ (by omega) d;have j:=a.lt';unfold orL;cases q:(x != 0)with
   |true=>
    have e:(x==0)=false:=by simpa[bne]using q
    simp only[Vq,e,Vr];refine Ei ?_;unfold F_dq;simp only[a.lt,Vq,a.ix,XK,q];exact Qa _
   |false=>
    simp only[Vr];refine Ew ?_ (g (i+1) b (by omega));unfold F_dq;simp only[a.lt,Vq,a.ix,XK,q,Vr,a.nx];exact Qa _
 refine Ea (loop l 0 rfl (XV _)).ev ?_;cases h:(orL l==0)with
 |true=>
  have e:orL l=0:=by simpa using h
  rw[e];exact Qa _
 |false=>exact Qa _
def cmpF(f g:Fact):Int:=bif orL [cmpI f.At g.At,cmpI f.Crew g.Crew,cmpI f.No g.No] != 0 then orL [cmpI f.At g.At,cmpI f.Crew g.Crew,cmpI f.No g.No]else cmpB (encF f).1 (encF g).1
theorem Qbx(f g:Fact):Ev (λn=>F_r n f g) (cmpF f g):=by
 unfold F_r cmpF;simp only[Qhb,XK];refine Ea (ev_or _ (by simp)) ?_;cases(orL [cmpI f.At g.At,cmpI f.Crew g.Crew,cmpI f.No g.No] != 0)with
 |true=>exact Qa _
 |false=>
  simp only[Vr];refine Ea (Qgl f) (Ea (Qgl g) ?_);exact Qa _
def okS(c:Course)(f:Fact):Bool:=(f.Kind==1)&&(validS f&&(!decide ((c.Distances.length:Int)<=f.Starter.Distance)&& !decide ((c.Waves.length:Int)<=f.Starter.Wave)))
def stepS(c:Course)(m:List (Int×Fact))(f:Fact):List (Int×Fact):=
 bif okS c f then(bif !(Qbr m f.Starter.Bib)||decide (cmpF f (Qo m f.Starter.Bib Uk)<0)then QO m f.Starter.Bib f else m)else m
def firstS(c:Course)(l:List Fact):List (Int×Fact):=l.foldl (stepS c) []
theorem QmG(c:Course)(l:List Fact)(hl:l.length<=1048576):Ev (λn=>iter (F_go n c l) n ([],0)) (firstS c l):=by
 refine QL l (stepS c) [] (λa i=>(a,(i:Int))) (λa=>a) (by omega) rfl (λi x a ha _=>?_) ?_
 .unfold F_go;simp only[ha.lt,Vq,ha.ix,XK,ha.nx];refine Ea (v:=stepS c a x) ?_ (Qa _);refine Ea (v:= !okS c x) ?_ ?_
  .unfold okS bne;cases(x.Kind==1)with
   |false=>exact Qa _
   |true=>
    refine Ea (Y9 x) ?_;cases validS x with
    |false=>exact Qa _
    |true=>
     simp only[Vq,VB];cases decide ((c.Distances.length:Int)<=x.Starter.Distance)with
     |true=>exact Qa _
     |false=>
      cases decide ((c.Waves.length:Int)<=x.Starter.Wave)<;>exact Qa _
  .unfold stepS;cases okS c x with
   |false=>exact Qa _
   |true=>
    simp only[Xh,Vr,Vq];refine Ea (v:= !(Qbr a x.Starter.Bib)||decide (cmpF x (Qo a x.Starter.Bib Uk)<0)) (Et λ_=>Ea (Qbx _ _) (Qa _)) ?_;cases(!(Qbr a x.Starter.Bib)||decide (cmpF x (Qo a x.Starter.Bib Uk)<0))<;>exact Qa _
 .unfold F_go;simp only[Ju,Vr];exact Qa _
theorem Qmf{β:Type}(m:List (Int×β))(k:Int):Qbr m k=(YD m k).isSome:=by
 unfold Qbr YD;rw[Option.isSome_map]
 induction m with
 |nil=>rfl
 |cons p m a=>
  rw[List.any_cons,List.find?_cons,a];cases decide (p.1=k)<;>rfl
theorem Qbd{β:Type}(m:List (Int×β))(k:Int):k∈m.map Prod.fst↔ ∃v,YD m k=some v:=by
 have h:=Qmf m k;rw[<- Option.isSome_iff_exists, <- h];unfold Qbr;simp only[Xu,Vs,Xf]
structure FirstOk (c:Course) (l:List Fact) (m:List (Int×Fact)):Prop where
 nodup:(m.map Prod.fst).Nodup
 ok:∀k f,YD m k=some f->f.Starter.Bib=k/\okS c f=true/\f∈l
 len:m.length<=l.length
theorem QhR{β:Type}(m:List (Int×β))(k:Int)(v:β):(QO m k v).length<=m.length+1:=by
 have:=congrArg List.length (Qdu m k v);rw[X3]at this;rw[this];split<;>simp
theorem Qcx{β:Type}{m:List (Int×β)}(k:Int)(v:β)(h:(m.map Prod.fst).Nodup):((QO m k v).map Prod.fst).Nodup:=by
 have e:=Qdu m k v;have g:(QO m k v).map Prod.fst=if k∈m.map Prod.fst then m.map Prod.fst else m.map Prod.fst++[k]:=e
 rw[g];split
 .exact h
 .rename_i i;rw[List.nodup_append];refine⟨h,by simp,λa f b d=>?_⟩;rw[VC]at d;rintro rfl;exact i (d▸f)
theorem Qga(c:Course)(l:List Fact):FirstOk c l (firstS c l):=by
 have j:∀(r:List Fact) (p:List Fact) (m:List (Int×Fact)),FirstOk c p m->FirstOk c (p++r) (r.foldl (stepS c) m):=by
  intro r
  induction r with
  |nil=>intro p m h;simpa using h
  |cons f r n=>
   intro p m h;have s:FirstOk c (p++[f]) (stepS c m f):=by
    have keep:FirstOk c (p++[f]) m:=⟨h.nodup,λk g i=>by obtain⟨a,b,d⟩:=h.ok k g i;exact⟨a,b,List.mem_append_left _ d⟩,by have:=h.len;simp;omega⟩;unfold stepS;cases q:okS c f with
    |false=>exact keep
    |true=>
     simp only[Vq];cases(!(Qbr m f.Starter.Bib)||decide (cmpF f (Qo m f.Starter.Bib Uk)<0))with
     |false=>exact keep
     |true=>
      refine⟨Qcx _ _ h.nodup,λk g i=>?_,?_⟩
      .simp only[Vq]at i;rw[YB]at i;by_cases e:k=f.Starter.Bib
       .rw[Vu e]at i;cases i;exact⟨e.symm,q,by simp⟩
       .rw[Vt e]at i;exact keep.ok k g i
      .have:=QhR m f.Starter.Bib f;have:=h.len;simp only[Vq,X4,List.length_singleton];omega
   have:=n (p++[f]) _ s;simpa using this
 have:=j l [] [] ⟨by simp,(λk f h=>by cases h),XU _⟩;simpa[firstS]using this
theorem Qf5{l m:List Int}(h:l.Perm m):YK ltI l=YK ltI m:=
 Jh ((Ql ltI l).trans (h.trans (Ql ltI m).symm)) (λx _ y _ a b=>by simp[ltI]at*;omega) (QS (Qem l)) (QS (Qem m))
theorem Qb9{n:Nat}(h:n<=1048576):Nat.ble n Qq=true:=XT (XW h (by decide))
theorem QkE(n:Nat)(m:List (Int×Fact))(h:m.length<=1048576):F_cd n m=some (YK ltI (m.map Prod.fst)):=by
 unfold F_cd Qlc;have b:(List.map Prod.fst m).length<=1048576:=by rw[X3];exact h
 rw[Qb9 b,Vq];refine Qhi λp a=>?_;unfold sortI;rw[Qb9 (by rw[a.length_eq];exact b)];show some (YK ltI p)=_;rw[Qf5 a]
def ordF(m:List (Int×Fact)):List Fact:=(YK ltI (m.map Prod.fst)).map λk=>Qo m k Uk
theorem QhN(m:List (Int×Fact)):(ordF m).length=m.length:=by
 unfold ordF;rw[X3,(Ql _ _).length_eq,X3]
theorem Qjo(m:List (Int×Fact))(h:m.length<=1048576):Ev (λn=>F_az n m) (ordF m):=by
 unfold F_az F_dv;simp only[XK];refine Ea (v:=YK ltI (m.map Prod.fst)) ⟨0,λn _=>QkE n m h⟩ ?_;have f:(YK ltI (m.map Prod.fst)).length=m.length:=by rw[(Ql _ _).length_eq,X3]
 refine Ea (v:=ordF m) ?_ (Qa _);unfold ordF;generalize YK ltI (m.map Prod.fst)=ks at f;have e:ks.map (λk=>Qo m k Uk)=ks.foldl (λ(a:List Fact) k=>a++[Qo m k Uk]) []:=by
  have:∀(r:List Int) (a:List Fact),r.foldl (λ(a:List Fact) k=>a++[Qo m k Uk]) a=a++r.map λk=>Qo m k Uk:=by
   intro r
   induction r with
   |nil=>intro a;simp
   |cons x r d=>intro a;simp only[XE,Vk];rw[d];simp
  rw[this];rfl
 rw[e];refine QL ks (λ(a:List Fact) k=>a++[Qo m k Uk]) [] (λa i=>(a,(i:Int))) (λa=>a) (by omega) rfl (λi x a b g=>?_) ?_
 .unfold F_hm;simp only[b.lt,Vq,b.ix,XK,b.nx];have j:a.length=i:=by
   have:∀(r:List Int) (a:List Fact),(r.foldl (λ(a:List Fact) k=>a++[Qo m k Uk]) a).length=a.length+r.length:=by
    intro r
    induction r with
    |nil=>intro a;rfl
    |cons x r d=>intro a;simp only[XE];rw[d];simp;omega
   rw[g,this,Xy];have:=b.lt';simp;omega
  have:=b.lt';rw[Qal a _ (by omega)];exact Qa _
 .unfold F_hm;simp only[Ju,Vr];exact Qa _
def chipK(f:Fact):Int:=f.Starter.Chip
def startF(e:Int)(c:Course)(l:List Fact):List Starter×Int:=bif e != 0 then([],e)else
 bif decide (((ordF (firstS c l)).map chipK).Nodup)then((ordF (firstS c l)).map (·.Starter),0)else([],180)
theorem QnY(L:List Fact)(hl:L.length<=1048576):Ev (λn=>iter (F_bz n L) n ([],[],0)) (bif decide ((L.map chipK).Nodup)then Ctl.cont (L.map (·.Starter))else Ctl.done ([],180)):=by
 have loop:∀(r:List Fact) (i:Nat),L.drop i=r->i<=L.length->EvI (λn=>F_bz n L) ((L.take i).map (·.Starter),Q0 chipK true (L.take i),(i:Int))
   (bif Qjv (λ_=>true) chipK ((L.take i).map chipK) r then Ctl.cont (L.map (·.Starter))else Ctl.done ([],180)):=by
  intro r
  induction r with
  |nil=>
   intro i d l;refine Ei ?_;have b:L.length<=i:=Xs.1 d;have e:L.take i=L:=VJ b;unfold F_bz;simp only[YE d l,Vr,e,Qjv,Vq];exact Qa _
  |cons f r m=>
   intro i d l;obtain⟨a,h⟩:=QJ (by omega) d;have p:=a.lt';have g:=Qar chipK true false (L.take i) (chipK f);simp only[Qjv,VB];cases q:((L.take i).map chipK).contains (chipK f)with
   |true=>
    have j:chipK f∈(L.take i).map chipK:=by simpa using q
    rw[Vu j]at g;simp only[Xh,Bool.false_and,Vr];refine Ei ?_;unfold F_bz;simp only[a.lt,Vq,a.ix,XK];rw[show f.Starter.Chip=chipK f from rfl,g];exact Qa _
   |false=>
    have j:¬chipK f∈(L.take i).map chipK:=by
     intro z;have:((L.take i).map chipK).contains (chipK f)=true:=by simpa using z
     rw[q]at this;cases this
    rw[Vt j]at g;simp only[Xi,VB];have k:=m (i+1) h (by omega);rw[a.take,QcQ,Xg,Xg]at k;refine Ew ?_ k;unfold F_bz;simp only[a.lt,Vq,a.ix,XK,a.nx];rw[show f.Starter.Chip=chipK f from rfl,g];simp only[Vr];rw[Qal _ _ (by rw[X3,Xy];omega)];exact Qa _
 refine Eu (loop L 0 rfl (XV _)).ev ?_;have:=Qko (λ_=>true) chipK L [] (by simp);simp only[List.take_zero,Vl];rw[this,Xt.2 (λ_ _=>rfl),VB,Vi]
theorem Qih(e:Int)(c:Course)(l:List Fact)(hl:l.length<=16)(he:Ev (λn=>F_h n c) e):Ev (λn=>F_ax n c l) (startF e c l):=by
 unfold F_ax startF;refine Ea he ?_;cases(e != 0)with
 |true=>exact Qa _
 |false=>
  simp only[Vr];refine Ea (QmG c l (by omega)) ?_;have h:=Qga c l;have a:=h.len;rw[YJ (show¬(4000:Int)<((firstS c l).length:Int)by omega)];refine Y7 (Ea (Qjo _ (by omega)) ?_);refine Ea (QnY _ (by rw[QhN];omega)) ?_;cases decide (((ordF (firstS c l)).map chipK).Nodup)<;>exact Qa _
theorem Qn6{a b:Int}:cmpI a b<0↔a<b:=by
 unfold cmpI;by_cases h:a<b
 .rw[Vv h];simp[h]
 .rw[Vy h];by_cases d:b<a
  .rw[Vv d];simp;omega
  .rw[Vy d];simp;omega
theorem QpD{a b:Int}:cmpI a b=0↔a=b:=by
 unfold cmpI;by_cases h:a<b
 .rw[Vv h];simp;omega
 .rw[Vy h];by_cases d:b<a
  .rw[Vv d];simp;omega
  .rw[Vy d];simp;omega
set_option maxRecDepth 4000
theorem QnJ(f:Fact)(b:Int):∀(E:List Ent) (a:List Int×Fact×Int),numR f b E a=bif E.all (inE f b)then .cont (a.1++E.map (getV f b),E.foldl (λp e=>putV p.1 p.2 e (getV f b e)) a.2)else .done ([],false):=by
 intro E
 induction E with
 |nil=>intro a;simp[numR]
 |cons e E ih=>
  intro a;unfold numR;rw[List.all_cons];cases h:inE f b e with
  |false=>rfl
  |true=>
   simp only[Vq,VB,Vk,XE];rw[ih];simp
def onlyS(f:Fact):Fact:={Crew:=f.Crew,No:=f.No,At:=f.At,Kind:=f.Kind,Starter:=(bif f.Kind==1 then f.Starter else Uk.Starter),Read:=(bif f.Kind==2 then f.Read else Uk.Read),Beacon:=(bif f.Kind==3 then f.Beacon else Uk.Beacon),Sync:=(bif f.Kind==4 then f.Sync else Uk.Sync),Hand:=(bif f.Kind==5 then f.Hand else Uk.Hand),Silence:=(bif f.Kind==6 then f.Silence else Uk.Silence),Pair:=(bif f.Kind==7 then f.Pair else Uk.Pair),Report:=(bif f.Kind==8 then f.Report else Uk.Report),Protest:=(bif f.Kind==9 then f.Protest else Uk.Protest),Ruling:=(bif f.Kind==10 then f.Ruling else Uk.Ruling),Appeal:=(bif f.Kind==11 then f.Appeal else Uk.Appeal),Void:=(bif f.Kind==13 then f.Void else Uk.Void):Fact}
def numsS(f:Fact):List Int:=[f.Kind,f.Crew,f.No,f.At]++(
 bif f.Kind==1 then[f.Starter.Bib,f.Starter.Distance,f.Starter.Wave,f.Starter.Slot,f.Starter.Age,f.Starter.Chip,f.Starter.Team,f.Starter.Lot]
 else bif f.Kind==2 then[f.Read.Mat,f.Read.Epoch,f.Read.Chip,f.Read.Local]
 else bif f.Kind==3 then[f.Beacon.Mat,f.Beacon.Epoch,f.Beacon.Local,f.Beacon.True,f.Beacon.Err]
 else bif f.Kind==4 then[f.Sync.MatA,f.Sync.EpochA,f.Sync.LocalA,f.Sync.MatB,f.Sync.EpochB,f.Sync.LocalB,f.Sync.Min,f.Sync.Max]
 else bif f.Kind==5 then[f.Hand.Bib,f.Hand.Position,f.Hand.Lo,f.Hand.Hi]
 else bif f.Kind==6 then[f.Silence.Mat,f.Silence.Epoch,f.Silence.Lo,f.Silence.Hi]
 else bif f.Kind==7 then[f.Pair.A,f.Pair.B]
 else bif f.Kind==8 then[f.Report.Case,f.Report.Bib,f.Report.Offence,f.Report.Position]
 else bif f.Kind==9 then[f.Protest.Case,f.Protest.By,f.Protest.Fee,f.Protest.Form]
 else bif f.Kind==10 then[f.Ruling.Case,f.Ruling.Instance,f.Ruling.Kind,f.Ruling.Bib,f.Ruling.Position,f.Ruling.Amount]
 else bif f.Kind==11 then[f.Appeal.Case,suspB f]
 else bif f.Kind==13 then[f.Void.Crew,f.Void.No]else[])
theorem kinds(f:Fact):f.Kind=1\/f.Kind=2\/f.Kind=3\/f.Kind=4\/f.Kind=5\/f.Kind=6\/f.Kind=7\/f.Kind=8\/f.Kind=9\/f.Kind=10\/f.Kind=11\/f.Kind=12\/f.Kind=13\/openU f=.c13 ():=by
 by_cases m:f.Kind=1; · exact .inl m
 by_cases i:f.Kind=2; · exact .inr (.inl i)
 by_cases j:f.Kind=3; · exact .inr (.inr (.inl j))
 by_cases n:f.Kind=4; · exact .inr (.inr (.inr (.inl n)))
 by_cases k:f.Kind=5; · exact .inr (.inr (.inr (.inr (.inl k))))
 by_cases h:f.Kind=6; · exact .inr (.inr (.inr (.inr (.inr (.inl h)))))
 by_cases p:f.Kind=7; · exact .inr (.inr (.inr (.inr (.inr (.inr (.inl p))))))
 by_cases g:f.Kind=8; · exact .inr (.inr (.inr (.inr (.inr (.inr (.inr (.inl g)))))))
 by_cases l:f.Kind=9; · exact .inr (.inr (.inr (.inr (.inr (.inr (.inr (.inr (.inl l))))))))
 by_cases d:f.Kind=10; · exact .inr (.inr (.inr (.inr (.inr (.inr (.inr (.inr (.inr (.inl d)))))))))
 by_cases a:f.Kind=11; · exact .inr (.inr (.inr (.inr (.inr (.inr (.inr (.inr (.inr (.inr (.inl a))))))))))
 by_cases e:f.Kind=12; · exact .inr (.inr (.inr (.inr (.inr (.inr (.inr (.inr (.inr (.inr (.inr (.inl e)))))))))))
 by_cases b:f.Kind=13; · exact .inr (.inr (.inr (.inr (.inr (.inr (.inr (.inr (.inr (.inr (.inr (.inr (.inl b))))))))))))
 refine .inr (.inr (.inr (.inr (.inr (.inr (.inr (.inr (.inr (.inr (.inr (.inr (.inr ?_))))))))))));unfold openU;simp only[VA.2 m,VA.2 i,VA.2 j,VA.2 n,VA.2 k,VA.2 h,VA.2 p,VA.2 g,VA.2 l,VA.2 d,VA.2 a,VA.2 e,VA.2 b,Vr]
def copyS(f:Fact):Fact×Int:=(entsS f).foldl (λp e=>putV p.1 p.2 e (getV f (suspB f) e)) (restS f,0)
theorem QgS(f:Fact):numF f=bif fineU f (openU f)then(bif (entsS f).all (inE f (suspB f))then((entsS f).map (getV f (suspB f)),lastF f (copyS f).1 (copyS f).2==f)else([],false))else([],false):=by
 unfold numF;rw[QnJ];cases fineU f (openU f)with
 |false=>rfl
 |true=>
  simp only[Vq];cases(entsS f).all (inE f (suspB f))with
  |false=>rfl
  |true=>simp only[Vq,Vi];rfl
theorem Qdz(f:Fact)(h:¬openU f=.c13 ()):lastF f (copyS f).1 (copyS f).2=onlyS f/\(entsS f).map (getV f (suspB f))=numsS f:=by
 rcases kinds f with k|k|k|k|k|k|k|k|k|k|k|k|k|k
 case inr.inr.inr.inr.inr.inr.inr.inr.inr.inr.inl=>
  obtain⟨Cr,No,At,Ki,S,R,B,Sy,Ha,Si,Pa,Re,Pr,Ru,⟨Ca,Su⟩,Vo⟩:=f;simp only at k;subst k;cases Su<;>exact⟨by kernel_rfl,by kernel_rfl⟩
 case inr.inr.inr.inr.inr.inr.inr.inr.inr.inl=>
  obtain⟨Cr,No,At,Ki,S,R,B,Sy,Ha,Si,Pa,Re,Pr,⟨e,d,a,g,i,b⟩,Ap,Vo⟩:=f;simp only at k;subst k;have:∃x,openU ⟨Cr,No,At,10,S,R,B,Sy,Ha,Si,Pa,Re,Pr,⟨e,d,a,g,i,b⟩,Ap,Vo⟩=.c9 x:=by
   unfold openU;show∃x,(bif (a==1)||(a==2)then U_facts_open_rxk.c9 (0,0,0,0,0,0)else bif a==3 then .c9 (1,9999,0,255,1,1099511627776)else bif a==4 then .c9 (1,9999,0,255,1,64)else .c9 (1,9999,0,255,0,0))=.c9 x;cases((a==1)||(a==2))with
   |true=>exact⟨_,rfl⟩
   |false=>
    cases(a==3)with
    |true=>exact⟨_,rfl⟩
    |false=>cases(a==4)<;>exact⟨_,rfl⟩
  obtain⟨x,j⟩:=this;unfold copyS entsS;rw[j];exact⟨by kernel_rfl,by kernel_rfl⟩
 case inr.inr.inr.inr.inr.inr.inr.inr.inr.inr.inr.inr.inr=>exact absurd k h
 all_goals
  obtain⟨Cr,No,At,Ki,S,R,B,Sy,Ha,Si,Pa,Re,Pr,Ru,Ap,Vo⟩:=f;simp only at k;subst k;exact⟨by kernel_rfl,by kernel_rfl⟩
def contS(f:Fact):Bool:=fineU f (openU f)&&(bodyL (openU f)).all (inE f (suspB f))
def headS(f:Fact):Bool:=headL.all (inE f (suspB f))
theorem Qdi(f:Fact):validS f=(headS f&&contS f&&(onlyS f==f)):=by
 unfold validS contS headS;rw[QgS];by_cases h:openU f=.c13 ()
 .have:fineU f (openU f)=false:=by rw[h];rfl
  rw[this];simp
 .obtain⟨a,b⟩:=Qdz f h;rw[a];unfold entsS;rw[List.all_append];cases fineU f (openU f)with
  |false=>simp
  |true=>
   cases headL.all (inE f (suspB f))with
   |false=>rfl
   |true=>cases(bodyL (openU f)).all (inE f (suspB f))<;>rfl
theorem QiR{f:Fact}(h:validS f=true):(numF f).1=numsS f:=by
 have e:=h;unfold validS at h;rw[QgS]at h⊢;by_cases q:openU f=.c13 ()
 .have:fineU f (openU f)=false:=by rw[q];rfl
  rw[this]at h;cases h
 .obtain⟨g,d⟩:=Qdz f q;cases a:fineU f (openU f)with
  |false=>rw[a]at h;cases h
  |true=>
   rw[a]at h;cases b:(entsS f).all (inE f (suspB f))with
   |false=>rw[b]at h;cases h
   |true=>exact d
theorem Qex{f:Fact}(h:validS f=true):onlyS f=f:=by
 rw[Qdi]at h;simp only[XX,Vz]at h;exact h.2
theorem Qmb{f g:Fact}(a:validS f=true)(hg:validS g=true)(h:numsS f=numsS g):f=g:=by
 have m:=Qex a;have e:=Qex hg;rw[<- m, <- e];unfold numsS at h;have i:f.Kind=g.Kind:=by
  simp only[VL,List.cons.injEq]at h;exact h.1
 have B:=QiS a;rcases kinds f with k|k|k|k|k|k|k|k|k|k|k|k|k|k
 case inr.inr.inr.inr.inr.inr.inr.inr.inr.inr.inr.inr.inr=>
  rw[Qdi]at a;unfold contS at a;rw[k]at a;simp[fineU]at a
 all_goals
  have n:=i.symm.trans k;clear a hg i B m e;obtain⟨Cr,No,At,Ki,⟨s1,s2,s3,s4,s5,s6,s7,s8⟩,⟨T,W,F,ag⟩,⟨b1,b2,b3,b4,b5⟩,⟨y1,y2,y3,y4,y5,y6,y7,y8⟩,⟨h1,h2,h3,h4⟩,⟨i1,i2,i3,i4⟩,⟨p1,p2⟩,⟨u1,u2,u3,u4⟩,⟨o1,o2,o3,o4⟩,⟨r1,r2,r3,r4,r5,r6⟩,⟨a1,N⟩,⟨v1,v2⟩⟩:=f;obtain⟨Cr',No',At',Ki',⟨aq,J,O,u,z,V,E,ar⟩,⟨d,l,j,p⟩,⟨a6,a3,y,Q,ae⟩,⟨t,af,M,au,R,ay,am,w⟩,⟨al,P,ab,a5⟩,⟨aw,ao,s,av⟩,⟨X,Y⟩,⟨az,a0,ax,a4⟩,⟨aj,ak,H,ah⟩,⟨an,q,L,r,ai,x⟩,⟨ac,b⟩,⟨G,aa⟩⟩:=g;simp only at k n;subst k;subst n
  first
   |(simp[suspB]at h;simp[onlyS,h];done)
   |(cases N<;>cases b<;>simp[suspB]at h<;>simp[onlyS,h])
set_option maxRecDepth 4000
theorem QgG(x:Int):IntKind.u64.wrap x=x%18446744073709551616:=by unfold IntKind.wrap;rfl
theorem QiQ(x:Int):IntKind.u8.wrap x=x%256:=by unfold IntKind.wrap;rfl
theorem or8(a b:Int):orI .u8 a b=(((BitVec.ofInt 8 a|||BitVec.ofInt 8 b).toNat:Nat):Int)%256:=by unfold orI;exact QiQ _
theorem Qoj(a b:Int):Qew .u64 a b=(((BitVec.ofInt 64 a^^^BitVec.ofInt 64 b).toNat:Nat):Int)%18446744073709551616:=by unfold Qew;exact QgG _
theorem or128(v:Nat):orI .u8 (IntKind.u8.wrap (v:Int)) 128=((v%128+128:Nat):Int):=by
 have a:∀m:Fin 256,((BitVec.ofNat 8 m.val|||128#8).toNat)=m.val%128+128:=by decide
 have d:v%256<256:=Nat.mod_lt _ (by decide);have k:(BitVec.ofNat 8 (v%256)|||128#8).toNat=v%256%128+128:=a ⟨v%256,d⟩;have e:BitVec.ofInt 8 ((v:Int)%256)=BitVec.ofNat 8 (v%256):=by
  have:((v:Int)%256)=((v%256:Nat):Int):=by omega
  rw[this];exact BitVec.ofInt_natCast 8 (v%256)
 have b:BitVec.ofInt 8 128=128#8:=by rfl
 rw[or8,QiQ,e,b,k];omega
theorem Qds(v:Nat):numN v=if 128<=v then((v%128+128:Nat):Int)::numN (v/128)else[(v:Int)]:=by
 by_cases h:128<=v
 .rw[QeR h,Vu h,or128]
 .rw[QaM h,Vt h,QiQ];congr 1;omega
theorem QhQ:∀(v w:Nat) (a b:List Int),numN v++a=numN w++b->v=w/\a=b:=by
 intro v
 induction v using Nat.strongRecOn with
 |_ v f=>
 intro w a b h;rw[Qds v,Qds w]at h;by_cases e:128<=v
 .rw[Vu e]at h;by_cases d:128<=w
  .rw[Vu d]at h;simp only[VL,List.cons.injEq]at h;obtain⟨i,g⟩:=f (v/128) (by omega) (w/128) a b h.2;exact⟨by omega,g⟩
  .rw[Vt d]at h;simp only[VL,List.cons.injEq]at h;omega
 .rw[Vt e]at h;by_cases d:128<=w
  .rw[Vu d]at h;simp only[VL,List.cons.injEq]at h;omega
  .rw[Vt d]at h;simp only[VL,List.cons.injEq,Vi]at h;exact⟨by omega,h.2⟩
theorem QeQ:∀(v:Nat),∀x∈numN v,0<=x/\x<256:=by
 intro v
 induction v using Nat.strongRecOn with
 |_ v d=>
 intro x a;rw[Qds v]at a;by_cases b:128<=v
 .rw[Vu b]at a;rcases X7.1 a with rfl|a
  .omega
  .exact d (v/128) (by omega) x a
 .rw[Vt b]at a;rcases X7.1 a with rfl|a
  .omega
  .cases a
theorem QgD{x:Int}(h0:0<=x)(e:x<9223372036854775808):zigI x=2*x:=by
 unfold zigI QeC;have b:Qcs .i64 x 63=0:=by
  show Int.fdiv x (2^63)=0;rw[Int.fdiv_eq_ediv_of_nonneg _ (by decide)];omega
 have a:(2:Int)^(min (1:Int).toNat IntKind.u64.bits)=2:=by decide
 rw[b,a,Qoj];simp only[QgG];have d:BitVec.ofInt 64 ((0:Int)%18446744073709551616)=0#64:=by rfl
 rw[d,BitVec.xor_zero,BitVec.toNat_ofInt];omega
theorem QgF{x:Int}(h0:x<0)(e: -9223372036854775808<=x):zigI x= -2*x-1:=by
 unfold zigI QeC;have b:Qcs .i64 x 63= -1:=by
  show Int.fdiv x (2^63)= -1;rw[Int.fdiv_eq_ediv_of_nonneg _ (by decide)];omega
 have a:(2:Int)^(min (1:Int).toNat IntKind.u64.bits)=2:=by decide
 rw[b,a,Qoj];simp only[QgG];have d:BitVec.ofInt 64 ((-1:Int)%18446744073709551616)=BitVec.allOnes 64:=by decide
 rw[d,BitVec.xor_allOnes,BitVec.toNat_not,BitVec.toNat_ofInt];omega
def in63(x:Int):Prop:= -9223372036854775808<=x/\x<9223372036854775808
theorem QnB{x y:Int}(f:in63 x)(e:in63 y)(h:zigI x=zigI y):x=y:=by
 obtain⟨a,b⟩:=f;obtain⟨c,d⟩:=e;by_cases p:0<=x
 .rw[QgD p b]at h;by_cases q:0<=y
  .rw[QgD q d]at h;omega
  .rw[QgF (by omega) c]at h;omega
 .rw[QgF (by omega) a]at h;by_cases q:0<=y
  .rw[QgD q d]at h;omega
  .rw[QgF (by omega) c]at h;omega
theorem QhO:∀(l m:List Int),l.length=m.length->(∀x∈l,in63 x)->(∀x∈m,in63 x)->(l.map oneB).flatten=(m.map oneB).flatten->l=m
 |[],[],_,_,_,_=>rfl
 |x::l,y::m,hl,h1,h2,h=>by
  simp only[Vk,Vm,oneB,VL,List.cons.injEq,true_and]at h;obtain⟨e1,e2⟩:=QhQ _ _ _ _ h;obtain⟨z,p1,p2⟩:=QgE x;obtain⟨z',q1,q2⟩:=QgE y;rw[p1,q1]at e1;have:x=y:=QnB (h1 x (by simp)) (h2 y (by simp)) (by rw[p1,q1]at*;simp only[Int.toNat_natCast]at e1;omega);rw[this,QhO l m (by simpa using hl) (λz hz=>h1 z (by simp[hz])) (λz hz=>h2 z (by simp[hz])) e2]
theorem QkP{l m:List Int}(e:∀x∈l,in63 x)(d:∀x∈m,in63 x)(h:listB l=listB m):l=m:=by
 unfold listB at h;rw[Vj,Vj]at h;simp only[VL,Vi,List.cons.injEq,true_and]at h;obtain⟨b,a⟩:=QhQ _ _ _ _ h;exact QhO l m b e d a
theorem QdW(l:List Int):∀x∈listB l,0<=x/\x<256:=by
 intro x a;unfold listB at a;simp only[VE,VC,List.mem_flatten,Xf]at a;rcases a with(rfl|a)|⟨m,⟨y,_,rfl⟩,a⟩
 .omega
 .exact QeQ _ x a
 .unfold oneB at a;rcases X7.1 a with rfl|a
  .omega
  .exact QeQ _ x a
structure CmpOK {α:Type} (c:α->α->Int):Prop where
 swap:∀x y,c y x= -c x y
 trans:∀x y z,c x y<0->c y z<0->c x z<0
 eqt:∀x y z,c x y=0->c x z=c y z
section
variable {α:Type} {c d:α->α->Int}
theorem CmpOK.refl(h:CmpOK c)(x:α):c x x=0:=by have:=h.swap x x;omega
theorem CmpOK.eqr(h:CmpOK c){x y:α}(z:α)(e:c x y=0):c z x=c z y:=by
 rw[h.swap x z,h.swap y z,h.eqt x y z e]
theorem QdN(h:CmpOK c)(k:CmpOK d):CmpOK λx y=>bif c x y != 0 then c x y else d x y:=by
 refine⟨λx y=>?_,λx y z=>?_,λx y z=>?_⟩
 .show(bif c y x != 0 then c y x else d y x)= -(bif c x y != 0 then c x y else d x y);have e:=h.swap x y;by_cases q:c x y=0
  .have f:c y x=0:=by omega
   rw[q,f];exact k.swap x y
  .have f:¬c y x=0:=by omega
   rw[bne_iff_ne.2 q,bne_iff_ne.2 f];exact e
 .show(bif c x y != 0 then c x y else d x y)<0->(bif c y z != 0 then c y z else d y z)<0->(bif c x z != 0 then c x z else d x z)<0;by_cases q:c x y=0
  .have e:=h.eqt x y z q;rw[q,e];by_cases f:c y z=0
   .rw[f];exact k.trans x y z
   .rw[bne_iff_ne.2 f];intro _ b;exact b
  .rw[bne_iff_ne.2 q];by_cases f:c y z=0
   .have e:=h.eqr x f;rw[f, <- e,bne_iff_ne.2 q];intro a _;exact a
   .rw[bne_iff_ne.2 f];intro a b;have:=h.trans x y z a b;rw[bne_iff_ne.2 (show¬c x z=0 by omega)];exact this
 .show(bif c x y != 0 then c x y else d x y)=0->(bif c x z != 0 then c x z else d x z)=(bif c y z != 0 then c y z else d y z);by_cases q:c x y=0
  .rw[q,h.eqt x y z q];intro e;have e:d x y=0:=e;rw[k.eqt x y z e]
  .rw[bne_iff_ne.2 q];intro e;exact absurd e q
theorem CmpOK.on{β:Type}(h:CmpOK c)(f:β->α):CmpOK λx y=>c (f x) (f y):=
 ⟨λx y=>h.swap _ _,λx y z=>h.trans _ _ _,λx y z=>h.eqt _ _ _⟩
end
theorem cmpI_ok:CmpOK cmpI:=by
 have e:∀a b,cmpI a b=if a<b then-1 else if b<a then 1 else 0:=by
  intro a b;unfold cmpI;by_cases h:a<b
  .rw[Vv h,Vu h];rfl
  .rw[Vy h,Vt h];by_cases d:b<a
   .rw[Vv d,Vu d];rfl
   .rw[Vy d,Vt d];rfl
 refine⟨λx y=>?_,λx y z=>?_,λx y z=>?_⟩
 .rw[e,e];split<;>split<;>omega
 .rw[e,e,e];intro a b;have f:x<y:=by
   by_cases q:x<y
   .exact q
   .rw[Vt q]at a;split at a<;>omega
  have d:y<z:=by
   by_cases q:y<z
   .exact q
   .rw[Vt q]at b;split at b<;>omega
  rw[Vu (by omega)];omega
 .rw[e x y];intro h;have:x=y:=by
   by_cases q:x<y
   .rw[Vu q]at h;omega
   .rw[Vt q]at h;split at h<;>omega
  rw[this]
theorem cb_ok:CmpOK Lib.compareBytes:=by
 have j:∀x y:List UInt8,Lib.compareBytes y x= -Lib.compareBytes x y:=by
  intro x
  induction x with
  |nil=>intro y;cases y<;>simp[Lib.compareBytes]
  |cons a x f=>
   intro y;cases y with
   |nil=>simp[Lib.compareBytes]
   |cons b y=>
    unfold Lib.compareBytes;by_cases h:a<b
    .have l:¬b<a:=by rw[UInt8.lt_iff_toNat_lt]at*;omega
     rw[Vu h,Vt l,Vu h];rfl
    .rw[Vt h];by_cases i:b<a
     .rw[Vu i,Vt h,Vu i]
     .rw[Vt i,Vt i,Vt h];exact f y
 have eq:∀x y:List UInt8,Lib.compareBytes x y=0->x=y:=by
  intro x
  induction x with
  |nil=>intro y h;cases y with
   |nil=>rfl
   |cons b y=>simp[Lib.compareBytes]at h
  |cons a x f=>
   intro y h;cases y with
   |nil=>simp[Lib.compareBytes]at h
   |cons b y=>
    unfold Lib.compareBytes at h;by_cases q:a<b
    .rw[Vu q]at h;omega
    .rw[Vt q]at h;by_cases e:b<a
     .rw[Vu e]at h;omega
     .rw[Vt e]at h;have:a=b:=by
       rw[UInt8.lt_iff_toNat_lt]at q e;exact UInt8.toNat_inj.1 (by omega)
      rw[this,f y h]
 refine⟨j,?_,λx y z h=>by rw[eq x y h]⟩;intro x
 induction x with
 |nil=>
  intro y z h k;cases y with
  |nil=>simp[Lib.compareBytes]at h
  |cons b y=>cases z with
   |nil=>simp[Lib.compareBytes]at k
   |cons d z=>simp[Lib.compareBytes]
 |cons a x f=>
  intro y z h k;cases y with
  |nil=>simp[Lib.compareBytes]at h
  |cons b y=>
   cases z with
   |nil=>simp[Lib.compareBytes]at k
   |cons d z=>
    unfold Lib.compareBytes at h k⊢;simp only[UInt8.lt_iff_toNat_lt]at*;by_cases q:a.toNat<b.toNat
    .by_cases r:b.toNat<d.toNat
     .rw[Vu (by omega)];omega
     .rw[Vt r]at k;by_cases g:d.toNat<b.toNat
      .rw[Vu g]at k;omega
      .rw[Vu (by omega)];omega
    .rw[Vt q]at h;by_cases e:b.toNat<a.toNat
     .rw[Vu e]at h;omega
     .rw[Vt e]at h;by_cases r:b.toNat<d.toNat
      .rw[Vu (by omega)];omega
      .rw[Vt r]at k;by_cases g:d.toNat<b.toNat
       .rw[Vu g]at k;omega
       .rw[Vt g]at k;rw[Vt (by omega),Vt (by omega)];exact f y z h k
theorem QoB:∀{x y:List UInt8},Lib.compareBytes x y=0->x=y
 |[],[],_=>rfl
 |[],_::_,h=>by simp[Lib.compareBytes]at h
 |_::_,[],h=>by simp[Lib.compareBytes]at h
 |a::x,b::y,h=>by
  unfold Lib.compareBytes at h;by_cases q:a<b
  .rw[Vu q]at h;omega
  .rw[Vt q]at h;by_cases q2:b<a
   .rw[Vu q2]at h;omega
   .rw[Vt q2]at h;have:a=b:=by
     rw[UInt8.lt_iff_toNat_lt]at q q2;exact UInt8.toNat_inj.1 (by omega)
    rw[this,QoB h]
theorem Qgs:∀{l m:List Int},(∀x∈l,0<=x/\x<256)->(∀x∈m,0<=x/\x<256)->l.map Qbz=m.map Qbz->l=m
 |[],[],_,_,_=>rfl
 |[],_::_,_,_,h=>by simp at h
 |_::_,[],_,_,h=>by simp at h
 |x::l,y::m,h1,h2,h=>by
  simp only[Vk,List.cons.injEq]at h;have a1:=h1 x (by simp);have a2:=h2 y (by simp);have e:=congrArg UInt8.toNat h.1;unfold Qbz at e;rw[UInt8.toNat_ofNat',UInt8.toNat_ofNat']at e;have:x=y:=by omega
  rw[this,Qgs (λz a=>h1 z (by simp[a])) (λz a=>h2 z (by simp[a])) h.2]
theorem Qis(f g:Fact):cmpF f g=bif cmpI f.At g.At != 0 then cmpI f.At g.At else bif cmpI f.Crew g.Crew != 0 then cmpI f.Crew g.Crew else bif cmpI f.No g.No != 0 then cmpI f.No g.No else cmpB (encF f).1 (encF g).1:=by
 unfold cmpF orL orL orL orL;generalize cmpI f.At g.At=a;generalize cmpI f.Crew g.Crew=b;generalize cmpI f.No g.No=d;cases e:(a != 0)with
 |true=>simp only[Vq,e]
 |false=>
  simp only[Vr];cases h:(b != 0)with
  |true=>simp only[Vq,h]
  |false=>
   simp only[Vr];cases i:(d != 0)with
   |true=>simp only[Vq,i]
   |false=>rfl
theorem Qkn:CmpOK cmpF:=by
 have h:=QdN (cmpI_ok.on λf:Fact=>f.At) (QdN (cmpI_ok.on λf:Fact=>f.Crew) (QdN (cmpI_ok.on λf:Fact=>f.No) (cb_ok.on λf:Fact=>(encF f).1.map Qbz)));have e:cmpF=λf g=>bif cmpI f.At g.At != 0 then cmpI f.At g.At else bif cmpI f.Crew g.Crew != 0 then cmpI f.Crew g.Crew else bif cmpI f.No g.No != 0 then cmpI f.No g.No else cmpB (encF f).1 (encF g).1:=by
  funext f g;exact Qis f g
 rw[e];exact h
def wideE(e:Ent):Bool:=decide (-1125899906842624<=e.lo)&&decide (e.hi<=1125899906842624)
theorem Qk1(f:Fact):(entsS f).all wideE=true:=by
 unfold entsS;rw[List.all_append,XX];refine⟨rfl,?_⟩;rcases kinds f with k|k|k|k|k|k|k|k|k|k|k|k|k|k
 case inr.inr.inr.inr.inr.inr.inr.inr.inr.inl=>
  unfold openU;rw[k];show(bodyL (bif (f.Ruling.Kind==1)||(f.Ruling.Kind==2)then .c9 (0,0,0,0,0,0)else bif f.Ruling.Kind==3 then .c9 (1,9999,0,255,1,1099511627776)else bif f.Ruling.Kind==4 then .c9 (1,9999,0,255,1,64)else .c9 (1,9999,0,255,0,0))).all wideE=true;cases((f.Ruling.Kind==1)||(f.Ruling.Kind==2))with
  |true=>rfl
  |false=>
   cases(f.Ruling.Kind==3)with
   |true=>rfl
   |false=>cases(f.Ruling.Kind==4)<;>rfl
 case inr.inr.inr.inr.inr.inr.inr.inr.inr.inr.inr.inr.inr=>rw[k];rfl
 all_goals
  unfold openU;rw[k];rfl
theorem QeO{f:Fact}(h:validS f=true):∀x∈numsS f,in63 x:=by
 have k:=h;unfold validS at h;rw[QgS]at h;by_cases q:openU f=.c13 ()
 .rw[q]at h;cases h
 .rw[<- (Qdz f q).2];cases a:fineU f (openU f)with
  |false=>rw[a]at h;cases h
  |true=>
   rw[a]at h;cases b:(entsS f).all (inE f (suspB f))with
   |false=>rw[b]at h;cases h
   |true=>
    intro x j;obtain⟨e,d,rfl⟩:=Xf.1 j;have i:=Xt.1 b e d;have g:=Xt.1 (Qk1 f) e d;unfold inE at i;unfold wideE at g;simp only[XX,Bool.not_eq_true',decide_eq_false_iff_not,Vs]at i g;unfold in63;omega
theorem Qgn{f:Fact}(h:validS f=true):encF f=(listB (numsS f),0):=by
 unfold encF;rw[h,QiR h];rfl
theorem Qc2{f g:Fact}(a:validS f=true)(hg:validS g=true)(h:cmpF f g=0):f=g:=by
 rw[Qis]at h;have z:cmpB (encF f).1 (encF g).1=0:=by
  cases b:(cmpI f.At g.At != 0)with
  |true=>rw[b]at h;exact absurd h (bne_iff_ne.1 b)
  |false=>
   rw[b]at h;cases d:(cmpI f.Crew g.Crew != 0)with
   |true=>rw[d]at h;exact absurd h (bne_iff_ne.1 d)
   |false=>
    rw[d]at h;cases i:(cmpI f.No g.No != 0)with
    |true=>rw[i]at h;exact absurd h (bne_iff_ne.1 i)
    |false=>rw[i]at h;exact h
 rw[Qgn a,Qgn hg]at z;have e:=Qgs (QdW _) (QdW _) (QoB z);exact Qmb a hg (QkP (QeO a) (QeO hg) e)
set_option maxRecDepth 4000
theorem Qbo{α:Type}{R:α->α->Prop}(d:∀x,¬R x x)(i:∀x y z,R x y->R y z->R x z):∀{l m:List α},l.Pairwise R->m.Pairwise R->(∀x,x∈l↔x∈m)->l=m
 |[],[],_,_,_=>rfl
 |[],b::m,_,_,h=>by have:=(h b).2 (by simp);cases this
 |a::l,[],_,_,h=>by have:=(h a).1 (by simp);cases this
 |a::l,b::m,hl,hm,h=>by
  rw[Xc]at hl hm;have e:a=b:=by
   rcases X7.1 ((h a).1 (by simp))with e|f
   .exact e
   .rcases X7.1 ((h b).2 (by simp))with e|j
    .exact e.symm
    .exact absurd (i _ _ _ (hl.1 b j) (hm.1 a f)) (d a)
  subst e;congr 1;refine Qbo d i hl.2 hm.2 λx=>?_;constructor
  .intro g;rcases X7.1 ((h x).1 (X6 _ g))with e|f
   .subst e;exact absurd (hl.1 x g) (d x)
   .exact f
  .intro g;rcases X7.1 ((h x).2 (X6 _ g))with e|f
   .subst e;exact absurd (hm.1 x g) (d x)
   .exact f
def insC(x:Fact):List Fact->List Fact
 |[]=>[x]
 |y::r=>bif decide (cmpF y x<0)then y::insC x r else bif y==x then y::r else x::y::r
def canonS(l:List Fact):List Fact:=l.foldl (λa x=>bif validS x then insC x a else a) []
def ltF(a b:Fact):Prop:=cmpF a b<0
theorem QcS(x:Fact):¬ltF x x:=by unfold ltF;have:=Qkn.refl x;omega
theorem Qdx(x y z:Fact):ltF x y->ltF y z->ltF x z:=Qkn.trans x y z
theorem QcU(x:Fact):∀(l:List Fact) (z:Fact),z∈insC x l↔z=x\/z∈l
 |[],z=>by simp[insC]
 |y::r,z=>by
  unfold insC;cases decide (cmpF y x<0)with
  |true=>
   simp only[Vq,X7,QcU x r z];constructor
   .rintro(h|h|h)<;>simp[h]
   .rintro(h|h|h)<;>simp[h]
  |false=>
   simp only[Vr];cases h:(y==x)with
   |true=>
    have:y=x:=by simpa using h
    subst this;simp
   |false=>simp
def CanonOK(l:List Fact):Prop:=l.Pairwise ltF/\ ∀f∈l,validS f=true
theorem Qj9{x:Fact}(a:validS x=true):∀{l:List Fact},CanonOK l->CanonOK (insC x l)
 |[],_=>⟨by simp[insC],by simp[insC,a]⟩
 |y::r,h=>by
  obtain⟨h1,h2⟩:=h;rw[Xc]at h1;have hr:CanonOK r:=⟨h1.2,λf hf=>h2 f (by simp[hf])⟩;have ih:=Qj9 a hr;refine⟨?_,λf hf=>?_⟩
  .unfold insC;cases q:decide (cmpF y x<0)with
   |true=>
    simp only[Vq,Xc];refine⟨λz hz=>?_,ih.1⟩;rcases(QcU x r z).1 hz with rfl|hz
    .show cmpF y z<0;exact Vw q
    .exact h1.1 z hz
   |false=>
    simp only[Vr];cases q2:(y==x)with
    |true=>simp only[Vq,Xc];exact h1
    |false=>
     simp only[Vr,Xc];have lt:ltF x y:=by
      have d:=Vx q;have b:¬cmpF y x=0:=λe=>by
       have:=Qc2 (h2 y (by simp)) a e;rw[this]at q2;simp at q2
      have:=Qkn.swap x y;unfold ltF;omega
     refine⟨λz hz=>?_,h1⟩;rcases X7.1 hz with rfl|hz
     .exact lt
     .exact Qdx _ _ _ lt (h1.1 z hz)
  .rcases(QcU x (y::r) f).1 hf with rfl|hf
   .exact a
   .exact h2 f hf
theorem Jm(l:List Fact):CanonOK (canonS l)/\ ∀f,f∈canonS l↔f∈l/\validS f=true:=by
 have g:∀(r a:List Fact),CanonOK a->CanonOK (r.foldl (λa x=>bif validS x then insC x a else a) a)/\ ∀f,f∈r.foldl (λa x=>bif validS x then insC x a else a) a↔f∈a\/(f∈r/\validS f=true):=by
  intro r
  induction r with
  |nil=>intro a h;exact⟨h,λf=>by simp⟩
  |cons x r i=>
   intro a h;rw[XE];cases q:validS x with
   |false=>
    obtain⟨d,e⟩:=i a h;refine⟨d,λf=>?_⟩;rw[Vr,e f,X7];constructor
    .rintro(a|⟨a,b⟩)
     .exact .inl a
     .exact .inr ⟨.inr a,b⟩
    .rintro(a|⟨rfl|a,b⟩)
     .exact .inl a
     .rw[q]at b;cases b
     .exact .inr ⟨a,b⟩
   |true=>
    obtain⟨d,e⟩:=i (insC x a) (Qj9 q h);refine⟨d,λf=>?_⟩;rw[Vq,e f,QcU,X7];constructor
    .rintro((rfl|a)|⟨a,b⟩)
     .exact .inr ⟨.inl rfl,q⟩
     .exact .inl a
     .exact .inr ⟨.inr a,b⟩
    .rintro(a|⟨rfl|a,b⟩)
     .exact .inl (.inr a)
     .exact .inl (.inl rfl)
     .exact .inr ⟨a,b⟩
 obtain⟨d,e⟩:=g l [] ⟨by simp,by simp⟩;exact⟨d,λf=>by rw[canonS,e f];simp⟩
theorem Qfn{l m:List Fact}(h:∀f,validS f=true->(f∈l↔f∈m)):canonS l=canonS m:=by
 obtain⟨b,e⟩:=Jm l;obtain⟨d,a⟩:=Jm m;refine Qbo QcS Qdx b.1 d.1 λf=>?_;rw[e f,a f];constructor
 .rintro⟨x,y⟩;exact⟨(h f y).1 x,y⟩
 .rintro⟨x,y⟩;exact⟨(h f y).2 x,y⟩
def FirstIs(c:Course)(l:List Fact)(f:Fact):Prop:=f∈l/\okS c f=true/\ ∀g∈l,okS c g=true->g.Starter.Bib=f.Starter.Bib->¬cmpF g f<0
theorem Qf0{c:Course}{f:Fact}(h:okS c f=true):validS f=true:=by
 unfold okS at h;simp only[XX]at h;exact h.2.1
theorem FirstIs.one{c:Course}{l:List Fact}{f g:Fact}(a:FirstIs c l f)(hg:FirstIs c l g)(e:f.Starter.Bib=g.Starter.Bib):f=g:=by
 have b:=a.2.2 g hg.1 hg.2.1 e.symm;have d:=hg.2.2 f a.1 a.2.1 e;have:=Qkn.swap f g;exact Qc2 (Qf0 a.2.1) (Qf0 hg.2.1) (by omega)
set_option maxRecDepth 4000
def nb(v lo hi:Int):Bool:= !(decide (v<lo))&& !(decide (hi<v))
theorem Qdt(v lo hi:Int):nb v lo hi=true↔lo<=v/\v<=hi:=by
 unfold nb;simp only[XX,Bool.not_eq_true',decide_eq_false_iff_not];omega
def contR(f:Fact):Bool:=
 bif f.Kind==1 then true&&(nb f.Starter.Bib 1 9999&&(nb f.Starter.Distance 0 7&&(nb f.Starter.Wave 0 31&&(nb f.Starter.Slot (-1099511627776) 1099511627776&&(nb f.Starter.Age 0 120&&(nb f.Starter.Chip 0 1048576&&(nb f.Starter.Team 0 9999&&(nb f.Starter.Lot 0 1048576&&true))))))))
 else bif f.Kind==2 then true&&(nb f.Read.Mat 0 39&&(nb f.Read.Epoch 0 255&&(nb f.Read.Chip 0 1048576&&(nb f.Read.Local (-1099511627776) 1099511627776&&true))))
 else bif f.Kind==3 then true&&(nb f.Beacon.Mat 0 39&&(nb f.Beacon.Epoch 0 255&&(nb f.Beacon.Local (-1099511627776) 1099511627776&&(nb f.Beacon.True (-1099511627776) 1099511627776&&(nb f.Beacon.Err 0 1099511627776&&true)))))
 else bif f.Kind==4 then decide (f.Sync.Min<=f.Sync.Max)&&(nb f.Sync.MatA 0 39&&(nb f.Sync.EpochA 0 255&&(nb f.Sync.LocalA (-1099511627776) 1099511627776&&(nb f.Sync.MatB 0 39&&(nb f.Sync.EpochB 0 255&&(nb f.Sync.LocalB (-1099511627776) 1099511627776&&(nb f.Sync.Min (-1099511627776) 1099511627776&&(nb f.Sync.Max (-1099511627776) 1099511627776&&true))))))))
 else bif f.Kind==5 then decide (f.Hand.Lo<=f.Hand.Hi)&&(nb f.Hand.Bib 1 9999&&(nb f.Hand.Position 0 255&&(nb f.Hand.Lo (-1099511627776) 1099511627776&&(nb f.Hand.Hi (-1099511627776) 1099511627776&&true))))
 else bif f.Kind==6 then decide (f.Silence.Lo<=f.Silence.Hi)&&(nb f.Silence.Mat 0 39&&(nb f.Silence.Epoch 0 255&&(nb f.Silence.Lo (-1099511627776) 1099511627776&&(nb f.Silence.Hi (-1099511627776) 1099511627776&&true))))
 else bif f.Kind==7 then decide (f.Pair.A<f.Pair.B)&&(nb f.Pair.A 1 9999&&(nb f.Pair.B 1 9999&&true))
 else bif f.Kind==8 then true&&(nb f.Report.Case 1 1048576&&(nb f.Report.Bib 1 9999&&(nb f.Report.Offence 0 31&&(nb f.Report.Position 0 255&&true))))
 else bif f.Kind==9 then true&&(nb f.Protest.Case 1 1048576&&(nb f.Protest.By 0 9999&&(nb f.Protest.Fee 0 1125899906842624&&(nb f.Protest.Form 0 1&&true))))
 else bif f.Kind==10 then true&&(nb f.Ruling.Case 1 1048576&&(nb f.Ruling.Instance 1 2&&(nb f.Ruling.Kind 1 5&&(bif (f.Ruling.Kind==1)||(f.Ruling.Kind==2)then nb f.Ruling.Bib 0 0&&(nb f.Ruling.Position 0 0&&(nb f.Ruling.Amount 0 0&&true))else bif f.Ruling.Kind==3 then nb f.Ruling.Bib 1 9999&&(nb f.Ruling.Position 0 255&&(nb f.Ruling.Amount 1 1099511627776&&true))else bif f.Ruling.Kind==4 then nb f.Ruling.Bib 1 9999&&(nb f.Ruling.Position 0 255&&(nb f.Ruling.Amount 1 64&&true))else nb f.Ruling.Bib 1 9999&&(nb f.Ruling.Position 0 255&&(nb f.Ruling.Amount 0 0&&true))))))
 else bif f.Kind==11 then true&&(nb f.Appeal.Case 1 1048576&&(nb (suspB f) 0 1&&true))
 else bif f.Kind==12 then true&&true
 else bif f.Kind==13 then true&&(nb f.Void.Crew 0 31&&(nb f.Void.No 1 1048576&&true))
 else false
theorem QnN(f:Fact):(f.Kind=1\/f.Kind=2\/f.Kind=3\/f.Kind=4\/f.Kind=5\/f.Kind=6\/f.Kind=7\/f.Kind=8\/f.Kind=9\/f.Kind=10\/f.Kind=11\/f.Kind=12\/f.Kind=13)\/((f.Kind==1)=false/\(f.Kind==2)=false/\(f.Kind==3)=false/\(f.Kind==4)=false/\(f.Kind==5)=false/\(f.Kind==6)=false/\(f.Kind==7)=false/\(f.Kind==8)=false/\(f.Kind==9)=false/\(f.Kind==10)=false/\(f.Kind==11)=false/\(f.Kind==12)=false/\(f.Kind==13)=false):=by
 by_cases h:1<=f.Kind/\f.Kind<=13
 .left;omega
 .right;simp only[VA,ne_eq];omega
theorem QmU(f:Fact):contS f=contR f:=by
 rcases QnN f with k|⟨w,y,p,x,s,u,q,r,t,g,j,h,i⟩
 .rcases k with k|k|k|k|k|k|k|k|k|k|k|k|k
  case inr.inr.inr.inr.inr.inr.inr.inr.inr.inl=>
   obtain⟨Cr,No,At,Ki,S,R,B,Sy,Ha,Si,Pa,Re,Pr,⟨n,l,a,e,b,d⟩,Ap,Vo⟩:=f;simp only at k;subst k;have m:openU ⟨Cr,No,At,10,S,R,B,Sy,Ha,Si,Pa,Re,Pr,⟨n,l,a,e,b,d⟩,Ap,Vo⟩=(bif (a==1)||(a==2)then U_facts_open_rxk.c9 (0,0,0,0,0,0)else bif a==3 then .c9 (1,9999,0,255,1,1099511627776)else bif a==4 then .c9 (1,9999,0,255,1,64)else .c9 (1,9999,0,255,0,0)):=rfl;have z:contR ⟨Cr,No,At,10,S,R,B,Sy,Ha,Si,Pa,Re,Pr,⟨n,l,a,e,b,d⟩,Ap,Vo⟩=(true&&(nb n 1 1048576&&(nb l 1 2&&(nb a 1 5&&(bif (a==1)||(a==2)then nb e 0 0&&(nb b 0 0&&(nb d 0 0&&true))else bif a==3 then nb e 1 9999&&(nb b 0 255&&(nb d 1 1099511627776&&true))else bif a==4 then nb e 1 9999&&(nb b 0 255&&(nb d 1 64&&true))else nb e 1 9999&&(nb b 0 255&&(nb d 0 0&&true))))))):=rfl;rw[z];unfold contS;rw[m];cases((a==1)||(a==2))with
   |true=>rfl
   |false=>
    cases(a==3)with
    |true=>rfl
    |false=>cases(a==4)<;>rfl
  case inr.inr.inr.inr.inr.inr.inr.inr.inr.inr.inl=>
   obtain⟨Cr,No,At,Ki,S,R,B,Sy,Ha,Si,Pa,Re,Pr,Ru,⟨Ca,Su⟩,Vo⟩:=f;simp only at k;subst k;cases Su<;>rfl
  all_goals
   obtain⟨Cr,No,At,Ki,S,R,B,Sy,Ha,Si,Pa,Re,Pr,Ru,Ap,Vo⟩:=f;simp only at k;subst k;rfl
 .have m:openU f=.c13 ():=by unfold openU;rw[w,y,p,x,s,u,q,r,t,g,j,h,i];rfl
  unfold contS contR;rw[m,w,y,p,x,s,u,q,r,t,g,j,h,i];rfl
theorem QhW(x:Fact):∀l:List Fact,(insC x l).length<=l.length+1
 |[]=>by simp[insC]
 |y::r=>by
  unfold insC;have:=QhW x r;cases decide (cmpF y x<0)with
  |true=>simp only[Vq,X2];omega
  |false=>cases(y==x)<;>simp
theorem QiO{c:Course}(h:Course.wf c):CourseOk c:=by
 obtain⟨p,⟨e,m⟩,⟨f,r⟩,⟨k,b⟩,⟨l,i⟩,⟨d,n⟩,⟨q,j⟩,⟨g,s⟩,_⟩:=h;exact⟨p,e,λx a=>(m x a).1,f,k,λx a=>(b x a).1,λx a=>(b x a).2.2.2.1.1,l,λx a=>(i x a).1,d,λx a=>(n x a).1,q,λx a=>(j x a).1,g⟩
theorem QjE{c:Course}(h:Course.wf c):PartsOk c:=by
 obtain⟨_,_,_,⟨e,b⟩,_⟩:=h;exact⟨λd a=>(b d a).2.1.1,λd a=>(b d a).2.1.2⟩
theorem QnD{c:Course}(h:Course.wf c):c.Ties.length<=1048576/\ ∀x∈c.Ties,Step.wf x:=by
 obtain⟨_,_,_,_,_,_,_,_,a,_⟩:=h;exact a
theorem QiU(e:Int)(c:Course)(l:List Fact):(startF e c l).1.length<=l.length:=by
 unfold startF;cases(e != 0)with
 |true=>exact XV _
 |false=>
  simp only[Vr];cases decide (((ordF (firstS c l)).map chipK).Nodup)with
  |false=>exact XV _
  |true=>simp only[Vq];rw[X3,QhN];exact(Qga c l).len
theorem Qby(l:List Fact):(canonS l).length<=l.length:=by
 have:∀(m a:List Fact),(m.foldl (λa x=>bif validS x then insC x a else a) a).length<=a.length+m.length:=by
  intro m
  induction m with
  |nil=>intro a;simp
  |cons x m b=>
   intro a;rw[XE,X2];have d:=b (bif validS x then insC x a else a);have e:(bif validS x then insC x a else a).length<=a.length+1:=by
    cases validS x with
    |true=>exact QhW x a
    |false=>simp
   omega
 have:=this l [];simpa[canonS]using this
def rulB(k i:Int)(f:Fact):Bool:=(f.Kind==10)&&((f.Ruling.Case==k)&&(f.Ruling.Instance==i))
def repB(k:Int)(f:Fact):Bool:=(f.Kind==8)&&(f.Report.Case==k)
def appB(k:Int)(f:Fact):Bool:=(f.Kind==11)&&(f.Appeal.Suspends&&(f.Appeal.Case==k))
def caseN(f:Fact):Option Int:=bif f.Kind==10 then some f.Ruling.Case else bif f.Kind==8 then some f.Report.Case else bif (f.Kind==11)&&f.Appeal.Suspends then some f.Appeal.Case else none
def fileOf(P:List Fact)(k:Int):Ub:=⟨k,P.filter (rulB k 0),P.filter (rulB k 1),P.filter (rulB k 2),(P.filter (repB k)).map (·.Report),P.any (appB k)⟩
theorem QaK{k i:Int}{f:Fact}(h:rulB k i f=true):caseN f=some k:=by
 unfold rulB at h;rw[XX,XX,Vz (a:=f.Ruling.Case)]at h;unfold caseN;rw[h.1,Vq,h.2.1]
theorem QfV{k:Int}{f:Fact}(h:repB k f=true):caseN f=some k:=by
 unfold repB at h;rw[XX,Vz,Vz]at h;unfold caseN;rw[h.1,h.2];rfl
theorem Qgt{k:Int}{f:Fact}(h:appB k f=true):caseN f=some k:=by
 unfold appB at h;rw[XX,XX,Vz,Vz]at h;unfold caseN;rw[h.1,h.2.1,h.2.2];rfl
theorem Qa3{α:Type}{p:α->Bool}{l:List α}(h:∀x∈l,p x=false):l.filter p=[]:=by
 rw[List.filter_eq_nil_iff];intro x a;rw[h x a];exact Bool.false_ne_true
theorem Qa7{b:Bool}(h:¬b=true):b=false:=by cases b with
 |true=>exact absurd rfl h
 |false=>rfl
theorem Qjj{P:List Fact}{k:Int}(h:∀f∈P,caseN f≠some k):fileOf P k=Qaw k:=by
 unfold fileOf Qaw;rw[Qa3 λf a=>Qa7 λq=>h f a (QaK q),Qa3 λf a=>Qa7 λq=>h f a (QaK q),Qa3 λf a=>Qa7 λq=>h f a (QaK q),
  Qa3 λf a=>Qa7 λq=>h f a (QfV q),show P.any (appB k)=false from List.any_eq_false.2 λf a q=>h f a (Qgt q)]
 rfl
theorem Qv{α:Type}(p:α->Bool)(l:List α)(x:α):(l++[x]).filter p=bif p x then l.filter p++[x]else l.filter p:=by
 rw[List.filter_append];cases h:p x<;>simp[h]
theorem QcW{P:List Fact}{f:Fact}{k:Int}(h:caseN f≠some k):fileOf (P++[f]) k=fileOf P k:=by
 unfold fileOf;rw[Qv,Qv,Qv,Qv,Qa7 λq=>h (QaK (i:=0) q),Qa7 λq=>h (QaK (i:=1) q),Qa7 λq=>h (QaK (i:=2) q),Qa7 λq=>h (QfV q),List.any_append,List.any_cons,List.any_nil,
  Qa7 λq=>h (Qgt q)]
 simp
structure FilesOf (P:List Fact) (fs:List Ub):Prop where
 num:(fs.map (·.number)).Nodup
 each:∀x∈fs,x=fileOf P x.number
 mem:∀k,k∈fs.map (·.number)↔ ∃f∈P,caseN f=some k
theorem FilesOf.nil:FilesOf [] []:=⟨List.nodup_nil,(λ_ h=>by cases h),λk=>by simp⟩
theorem FilesOf.skip{P:List Fact}{fs:List Ub}{f:Fact}(h:FilesOf P fs)(d:caseN f=none):FilesOf (P++[f]) fs:=by
 refine⟨h.num,λx e=>?_,λk=>?_⟩
 .rw[QcW (by rw[d];intro q;cases q)];exact h.each x e
 .rw[h.mem k];constructor
  .rintro⟨g,b,a⟩;exact⟨g,by simp[b],a⟩
  .rintro⟨g,b,a⟩;rcases VE.1 b with q|q
   .exact⟨g,q,a⟩
   .rw[VC.1 q,d]at a;cases a
theorem FilesOf.put{P:List Fact}{fs:List Ub}{f:Fact}{k:Int}{g:Ub->Ub}(h:FilesOf P fs)(p:caseN f=some k)(B:∀x,(g x).number=x.number)(hg:g (fileOf P k)=fileOf (P++[f]) k):FilesOf (P++[f]) (Qbn (Qah fs k) k g):=by
 have s:∀x∈Qah fs k,x=fileOf P x.number:=by
  by_cases q:∃x∈fs,x.number=k
  .rw[QcV q];exact h.each
  .have i:∀x∈fs,x.number≠k:=λx d e=>q ⟨x,d,e⟩;rw[QbS i];intro x d;rcases VE.1 d with z|z
   .exact h.each x z
   .rw[VC.1 z];refine(Qjj (k:=k) λa t e=>?_).symm;obtain⟨x,d,F⟩:=Xf.1 ((h.mem k).2 ⟨a,t,e⟩);exact i x d F
 have n:((Qah fs k).map (·.number)).Nodup:=by
  by_cases q:∃x∈fs,x.number=k
  .rw[QcV q];exact h.num
  .have i:∀x∈fs,x.number≠k:=λx d e=>q ⟨x,d,e⟩;rw[QbS i,Xg,List.nodup_append];refine⟨h.num,by simp,?_⟩;intro a t b G;obtain⟨x,d,rfl⟩:=Xf.1 t;have r:b=k:=by simpa[Qaw]using G
   rw[r];exact i x d
 have w:∀j,j∈(Qah fs k).map (·.number)↔j=k\/j∈fs.map (·.number):=by
  intro j;by_cases q:∃x∈fs,x.number=k
  .rw[QcV q];constructor
   .exact .inr
   .rintro(rfl|z)
    .obtain⟨x,d,e⟩:=q;exact Xf.2 ⟨x,d,e⟩
    .exact z
  .rw[QbS λx d e=>q ⟨x,d,e⟩,Xg,VE];simp only[Vk,Vl,VC,Qaw];exact Or.comm
 have m:(Qbn (Qah fs k) k g).map (·.number)=(Qah fs k).map (·.number):=by
  unfold Qbn;rw[List.map_map];refine List.map_congr_left λx _=>?_;show(bif decide (x.number=k)then g x else x).number=x.number;cases decide (x.number=k)with
  |true=>exact B x
  |false=>rfl
 refine⟨by rw[m];exact n,λx d=>?_,λj=>?_⟩
 .obtain⟨y,H,rfl⟩:=Xf.1 d;have E:=s y H;cases q:decide (y.number=k)with
  |true=>
   have i:=Vw q;show g y=fileOf _ (g y).number;rw[B,i, <- hg, <- i, <- E]
  |false=>
   have i:=Vx q;show y=fileOf _ y.number;rw[QcW (by rw[p];intro z;cases z;exact i rfl)];exact E
 .rw[m,w,h.mem j];constructor
  .rintro(rfl|⟨a,u,l⟩)
   .exact⟨f,by simp,p⟩
   .exact⟨a,by simp[u],l⟩
  .rintro⟨a,u,l⟩;rcases VE.1 u with z|z
   .exact .inr ⟨a,z,l⟩
   .rw[VC.1 z,p]at l;cases l;exact .inl rfl
theorem FilesOf.room{P:List Fact}{fs:List Ub}{k:Int}(h:FilesOf P fs)(hl:P.length<1048576):QdS (Qah fs k)=true:=by
 have b:∀n,n<=P.length->Nat.ble (n+1) Qq=true:=λn d=>Qb9 (by omega);have one:∀j,(λx:Ub=>Nat.ble (x.r0.length+1) Qq&&Nat.ble (x.r1.length+1) Qq&&Nat.ble (x.r2.length+1) Qq&&Nat.ble (x.reports.length+1) Qq) (fileOf P j)=true:=by
  intro j;simp only[fileOf,X3];rw[b _ (VO ..),b _ (VO ..),b _ (VO ..),b _ (VO ..)];rfl
 unfold QdS;refine Xt.2 λx a=>?_;by_cases q:∃x∈fs,x.number=k
 .rw[QcV q]at a;rw[h.each x a];exact one _
 .rw[QbS λx a e=>q ⟨x,a,e⟩]at a;rcases VE.1 a with z|z
  .rw[h.each x z];exact one _
  .rw[VC.1 z];simp only[Qaw,List.length_nil];decide
theorem QdO{f:Fact}(h:validS f=true):headS f=true/\contR f=true/\onlyS f=f:=by
 rw[Qdi,XX,XX,QmU,Vz]at h;exact⟨h.1.1,h.1.2,h.2⟩
theorem Qdh{f:Fact}(h:validS f=true)(k:f.Kind=10):(1<=f.Ruling.Case/\(f.Ruling.Instance=1\/f.Ruling.Instance=2))/\(0<=f.Ruling.Bib/\f.Ruling.Bib<=9999)/\f.Report=Uk.Report:=by
 obtain⟨_,b,l⟩:=QdO h;have e:f.Report=(onlyS f).Report:=by rw[l]
 have m:(onlyS f).Report=bif f.Kind==8 then f.Report else Uk.Report:=rfl
 rw[m,k]at e;refine⟨?_,?_,e⟩
 .unfold contR at b;rw[k]at b;have d:(true&&(nb f.Ruling.Case 1 1048576&&(nb f.Ruling.Instance 1 2&&(nb f.Ruling.Kind 1 5&&(bif (f.Ruling.Kind==1)||(f.Ruling.Kind==2)then nb f.Ruling.Bib 0 0&&(nb f.Ruling.Position 0 0&&(nb f.Ruling.Amount 0 0&&true))else bif f.Ruling.Kind==3 then nb f.Ruling.Bib 1 9999&&(nb f.Ruling.Position 0 255&&(nb f.Ruling.Amount 1 1099511627776&&true))else bif f.Ruling.Kind==4 then nb f.Ruling.Bib 1 9999&&(nb f.Ruling.Position 0 255&&(nb f.Ruling.Amount 1 64&&true))else nb f.Ruling.Bib 1 9999&&(nb f.Ruling.Position 0 255&&(nb f.Ruling.Amount 0 0&&true)))))))=true:=b;simp only[XX,Qdt]at d;obtain⟨_,a,n,_⟩:=d;exact⟨a.1,by omega⟩
 .unfold contR at b;rw[k]at b;have d:(true&&(nb f.Ruling.Case 1 1048576&&(nb f.Ruling.Instance 1 2&&(nb f.Ruling.Kind 1 5&&(bif (f.Ruling.Kind==1)||(f.Ruling.Kind==2)then nb f.Ruling.Bib 0 0&&(nb f.Ruling.Position 0 0&&(nb f.Ruling.Amount 0 0&&true))else bif f.Ruling.Kind==3 then nb f.Ruling.Bib 1 9999&&(nb f.Ruling.Position 0 255&&(nb f.Ruling.Amount 1 1099511627776&&true))else bif f.Ruling.Kind==4 then nb f.Ruling.Bib 1 9999&&(nb f.Ruling.Position 0 255&&(nb f.Ruling.Amount 1 64&&true))else nb f.Ruling.Bib 1 9999&&(nb f.Ruling.Position 0 255&&(nb f.Ruling.Amount 0 0&&true)))))))=true:=b;simp only[XX]at d;obtain⟨_,_,_,_,a⟩:=d;cases j:((f.Ruling.Kind==1)||(f.Ruling.Kind==2))with
  |true=>rw[j]at a;simp only[Vq,XX,Qdt]at a;omega
  |false=>
   rw[j,Vr]at a;cases g:(f.Ruling.Kind==3)with
   |true=>rw[g]at a;simp only[Vq,XX,Qdt]at a;omega
   |false=>
    rw[g,Vr]at a;cases i:(f.Ruling.Kind==4)with
    |true=>rw[i]at a;simp only[Vq,XX,Qdt]at a;omega
    |false=>rw[i]at a;simp only[Vr,XX,Qdt]at a;omega
theorem QkD{f:Fact}(h:validS f=true)(k:f.Kind=8):1<=f.Report.Case/\(1<=f.Report.Bib/\f.Report.Bib<=9999)/\f.Ruling=Uk.Ruling:=by
 obtain⟨_,b,g⟩:=QdO h;have e:f.Ruling=(onlyS f).Ruling:=by rw[g]
 have d:(onlyS f).Ruling=bif f.Kind==10 then f.Ruling else Uk.Ruling:=rfl
 rw[d,k]at e;unfold contR at b;rw[k]at b;have a:(true&&(nb f.Report.Case 1 1048576&&(nb f.Report.Bib 1 9999&&(nb f.Report.Offence 0 31&&(nb f.Report.Position 0 255&&true)))))=true:=b;simp only[XX,Qdt]at a;exact⟨a.2.1.1,a.2.2.1,e⟩
theorem Qbq{f:Fact}(k:f.Kind=10)(j:Int):rulB f.Ruling.Case j f=(f.Ruling.Instance==j):=by
 unfold rulB;rw[k];simp
theorem Qg5{P:List Fact}{fs:List Ub}{f:Fact}(h:FilesOf P fs)(hl:P.length<1048576)(s:validS f=true):∃fs',filesStep fs f=some fs'/\FilesOf (P++[f]) fs':=by
 unfold filesStep;cases a:(f.Kind==10)with
 |true=>
  have k:f.Kind=10:=by simpa using a
  obtain⟨⟨_,e⟩,_⟩:=Qdh s k;have m:caseN f=some f.Ruling.Case:=by unfold caseN;rw[a];rfl
  have n:repB f.Ruling.Case f=false:=by unfold repB;rw[k];rfl
  have b:appB f.Ruling.Case f=false:=by unfold appB;rw[k];rfl
  simp only[Vq,h.room hl];unfold filesAdd;rcases e with e|e
  .refine⟨Qbn (Qah fs f.Ruling.Case) f.Ruling.Case λx=>{x with r1:=x.r1++[f]},by rw[e];rfl,h.put m (λx=>rfl) ?_⟩;unfold fileOf;rw[Qv,Qv,Qv,Qv,Qbq k,Qbq k,Qbq k,e,n,List.any_append,List.any_cons,List.any_nil,b];simp
  .refine⟨Qbn (Qah fs f.Ruling.Case) f.Ruling.Case λx=>{x with r2:=x.r2++[f]},by rw[e];rfl,h.put m (λx=>rfl) ?_⟩;unfold fileOf;rw[Qv,Qv,Qv,Qv,Qbq k,Qbq k,Qbq k,e,n,List.any_append,List.any_cons,List.any_nil,b];simp
 |false=>
  simp only[Vr];have g:∀j i,rulB j i f=false:=λj i=>by unfold rulB;rw[a];rfl
  cases l:(f.Kind==8)with
  |true=>
   have k:f.Kind=8:=by simpa using l
   have m:caseN f=some f.Report.Case:=by unfold caseN;rw[a,l];rfl
   have r:repB f.Report.Case f=true:=by unfold repB;rw[k];simp
   have b:appB f.Report.Case f=false:=by unfold appB;rw[k];rfl
   simp only[Vq,h.room hl];refine⟨Qbn (Qah fs f.Report.Case) f.Report.Case λx=>{x with reports:=x.reports++[f.Report]},rfl,h.put m (λx=>rfl) ?_⟩;unfold fileOf;rw[Qv,Qv,Qv,Qv,g,g,g,r,List.any_append,List.any_cons,List.any_nil,b];simp
  |false=>
   simp only[Vr];have n:∀j,repB j f=false:=λj=>by unfold repB;rw[l];rfl
   cases d:(f.Kind==11)with
   |true=>
    simp only[Vq];cases q:f.Appeal.Suspends with
    |true=>
     have m:caseN f=some f.Appeal.Case:=by unfold caseN;rw[a,l,d,q];rfl
     have p:appB f.Appeal.Case f=true:=by unfold appB;rw[d,q];simp
     refine⟨Qbn (Qah fs f.Appeal.Case) f.Appeal.Case λx=>{x with appeal:=true},rfl,h.put m (λx=>rfl) ?_⟩;unfold fileOf;rw[Qv,Qv,Qv,Qv,g,g,g,n,List.any_append,List.any_cons,List.any_nil,p];simp
    |false=>exact⟨_,rfl,h.skip (by unfold caseN;rw[a,l,d,q];rfl)⟩
   |false=>exact⟨_,rfl,h.skip (by unfold caseN;rw[a,l,d];rfl)⟩
def voidB(C:List Fact)(f:Fact):Bool:=(f.Kind==10)&&C.any λg=>rulB f.Ruling.Case f.Ruling.Instance g&&decide (cmpF g f<0)
def voidS(C:List Fact):List Fact:=C.filter (voidB C)
theorem QhA{l:List Fact}(h:l.Pairwise ltF)(f:Fact):f∈l.drop 1↔f∈l/\ ∃g∈l,ltF g f:=by
 cases l with
 |nil=>simp
 |cons a r=>
  rw[Xc]at h;simp only[List.drop_succ_cons,List.drop_zero];constructor
  .intro b;exact⟨by simp[b],a,by simp,h.1 f b⟩
  .rintro⟨b,g,e,d⟩;rcases X7.1 b with rfl|b
   .rcases X7.1 e with rfl|e
    .exact absurd d (QcS _)
    .exact absurd (Qdx _ _ _ (h.1 g e) d) (QcS _)
   .exact b
theorem QlD{C:List Fact}(n:CanonOK C){fs:List Ub}(h:FilesOf C fs)(f:Fact):f∈voidS C↔ ∃x∈fs,f∈x.r0.drop 1\/f∈x.r1.drop 1\/f∈x.r2.drop 1:=by
 have sub:∀p:Fact->Bool,(C.filter p).Pairwise ltF:=λp=>n.1.filter p;have one:∀k i,f∈(C.filter (rulB k i)).drop 1->f∈voidS C:=by
  intro k i a;obtain⟨d,g,b,j⟩:=(QhA (sub _) f).1 a;rw[Xe]at d b;have q:=d.2;unfold rulB at q;simp only[XX,Vz]at q;unfold voidS;rw[Xe];refine⟨d.1,?_⟩;unfold voidB;rw[q.1,q.2.1,q.2.2];exact Xu.2 ⟨g,b.1,by rw[b.2,VB];exact Vv (show cmpF g f<0 from j)⟩
 constructor
 .intro a;unfold voidS at a;rw[Xe]at a;obtain⟨d,b⟩:=a;unfold voidB at b;rw[XX,Xu]at b;obtain⟨k,g,t,j⟩:=b;rw[XX]at j;have r:f.Kind=10:=by simpa using k
  have u:caseN f=some f.Ruling.Case:=by unfold caseN;rw[k];rfl
  obtain⟨x,m,e⟩:=Xf.1 ((h.mem f.Ruling.Case).2 ⟨f,d,u⟩);have ex:=h.each x m;rw[e]at ex;have s:∀i,f.Ruling.Instance=i->f∈(C.filter (rulB f.Ruling.Case i)).drop 1:=by
   rintro i rfl;refine(QhA (sub _) f).2 ⟨Xe.2 ⟨d,by rw[Qbq r];simp⟩,g,Xe.2 ⟨t,j.1⟩,(show cmpF g f<0 from Vw j.2)⟩
  refine⟨x,m,?_⟩;rw[ex];obtain⟨⟨_,l⟩,_⟩:=Qdh (n.2 f d) r;rcases l with l|l
  .exact .inr (.inl (s 1 l))
  .exact .inr (.inr (s 2 l))
 .rintro⟨x,m,a⟩;have ex:=h.each x m;rw[ex]at a;rcases a with a|a|a
  .exact one _ _ a
  .exact one _ _ a
  .exact one _ _ a
def refOf(f:Fact):Ref:={Crew:=f.Crew,No:=f.No:Ref}
def voidR(l:List Fact):List Ref:=(voidS (canonS l)).map refOf
def standB(vs:List Ref)(k:Int)(f:Fact):Bool:=(f.Kind==10)&&((f.Ruling.Case==k)&& !(vs.any λr=>decide (r=refOf f)))
def firstRep(C:List Fact)(k:Int):Option Fact:=C.find? (repB k)
def about(l:List Fact)(k:Int):List Fact:=l.filter (λf=>validS f&&standB (voidR l) k f)++(firstRep (canonS l) k).toList
def SameF(l m:List Fact):Prop:=∀f,validS f=true->(f∈l↔f∈m)
theorem SameF.symm{l m:List Fact}(h:SameF l m):SameF m l:=λf hf=>(h f hf).symm
theorem SameF.filter{l m:List Fact}(h:SameF l m)(p:Fact->Bool):SameF (l.filter p) (m.filter p):=λf hf=>by rw[Xe,Xe,h f hf]
theorem SameF.voidR{l m:List Fact}(h:SameF l m):voidR l=voidR m:=by unfold Go.Sw.voidR;rw[Qfn h]
theorem QpE{l:List Fact}{k:Int}{f:Fact}:f∈about l k↔(f∈l/\validS f=true/\standB (voidR l) k f=true)\/firstRep (canonS l) k=some f:=by
 unfold about;rw[VE,Xe,XX,Option.mem_toList]
theorem QbT{l:List Fact}{k:Int}{f:Fact}(h:firstRep (canonS l) k=some f):f∈l/\validS f=true/\repB k f=true:=by
 have d:=List.mem_of_find?_eq_some h;have e:=List.find?_some h;obtain⟨a,b⟩:=((Jm l).2 f).1 d;exact⟨a,b,e⟩
theorem Qm0{l:List Fact}{k:Int}{f:Fact}(h:f∈about l k):f∈l/\validS f=true/\((f.Kind=10/\f.Ruling.Case=k)\/(f.Kind=8/\f.Report.Case=k)):=by
 rcases QpE.1 h with⟨a,b,c⟩|a
 .refine⟨a,b,.inl ?_⟩;unfold standB at c;simp only[XX,Vz]at c;exact⟨c.1,c.2.1⟩
 .obtain⟨a,b,c⟩:=QbT a;refine⟨a,b,.inr ?_⟩;unfold repB at c;simp only[XX,Vz]at c;exact c
def repStep(k:Int)(r f:Fact):Fact:=bif validS f&&repB k f then(bif (r.Kind==0)||decide (cmpF f r<0)then f else r)else r
structure RepOf (k:Int) (P:List Fact) (r:Fact):Prop where
 none:(r.Kind==0)=true->r=Uk/\ ∀f∈P,validS f=true->repB k f=false
 some:(r.Kind==0)=false->r∈P/\validS r=true/\repB k r=true/\ ∀f∈P,validS f=true->repB k f=true->¬cmpF f r<0
theorem QfU{k:Int}{f:Fact}(h:repB k f=true):(f.Kind==0)=false:=by
 unfold repB at h;rw[XX,Vz]at h;rw[h.1];rfl
theorem RepOf.nil(k:Int):RepOf k [] Uk:=⟨λ_=>⟨rfl,λ_ h=>by cases h⟩,λh=>by cases h⟩
theorem RepOf.step{k:Int}{P:List Fact}{r f:Fact}(h:RepOf k P r):RepOf k (P++[f]) (repStep k r f):=by
 unfold repStep;cases q:validS f&&repB k f with
 |false=>
  simp only[Vr];have n:¬(validS f=true/\repB k f=true):=λz=>by rw[z.1,z.2]at q;cases q
  refine⟨λz=>⟨(h.none z).1,λg l i=>?_⟩,λz=>?_⟩
  .rcases VE.1 l with w|w
   .exact(h.none z).2 g w i
   .rw[VC.1 w]at i⊢;exact Qa7 λy=>n ⟨i,y⟩
  .obtain⟨a,b,c,d⟩:=h.some z;refine⟨by simp[a],b,c,λg l i j=>?_⟩;rcases VE.1 l with w|w
   .exact d g w i j
   .rw[VC.1 w]at i j;exact absurd ⟨i,j⟩ n
 |true=>
  rw[XX]at q;simp only[Vq];cases z:(r.Kind==0)with
  |true=>
   simp only[Bool.true_or,Vq];refine⟨λw=>(by rw[QfU q.2]at w;cases w),λ_=>⟨by simp,q.1,q.2,λg l i j=>?_⟩⟩;rcases VE.1 l with w|w
   .rw[(h.none z).2 g w i]at j;cases j
   .rw[VC.1 w];have:=Qkn.refl f;omega
  |false=>
   simp only[Bool.false_or];obtain⟨a,b,c,d⟩:=h.some z;cases y:decide (cmpF f r<0)with
   |true=>
    have m:=Vw y;simp only[Vq];refine⟨λw=>(by rw[QfU q.2]at w;cases w),λ_=>⟨by simp,q.1,q.2,λg l i j=>?_⟩⟩;rcases VE.1 l with w|w
    .intro e;exact d g w i j (Qkn.trans _ _ _ e m)
    .rw[VC.1 w];have:=Qkn.refl f;omega
   |false=>
    have m:=Vx y;simp only[Vr];refine⟨λw=>(by rw[z]at w;cases w),λ_=>⟨by simp[a],b,c,λg l i j=>?_⟩⟩;rcases VE.1 l with w|w
    .exact d g w i j
    .rw[VC.1 w];exact m
theorem QnF(k:Int)(l:List Fact):RepOf k l (l.foldl (repStep k) Uk):=by
 have b:∀(r p:List Fact) (a:Fact),RepOf k p a->RepOf k (p++r) (r.foldl (repStep k) a):=by
  intro r
  induction r with
  |nil=>intro p a h;rw[Vh];exact h
  |cons f r d=>
   intro p a h;rw[XE,show p++f::r=(p++[f])++r by simp];exact d _ _ h.step
 exact b l [] Uk (RepOf.nil k)
theorem Qjb{C:List Fact}(e:C.Pairwise ltF){p:Fact->Bool}{f:Fact}(h:C.find? p=some f):∀g∈C,p g=true->¬cmpF g f<0:=by
 induction C with
 |nil=>cases h
 |cons a C ih=>
  rw[Xc]at e;rw[List.find?_cons]at h;cases q:p a with
  |true=>
   rw[q]at h;cases h;intro g b _;rcases X7.1 b with rfl|b
   .have:=Qkn.refl g;omega
   .have:=e.1 g b;unfold ltF at this;have:=Qkn.swap f g;omega
  |false=>
   rw[q]at h;intro g b d;rcases X7.1 b with rfl|b
   .rw[q]at d;cases d
   .exact ih e.2 h g b d
theorem QkH(k:Int)(l:List Fact):(l.foldl (repStep k) Uk=Uk/\firstRep (canonS l) k=none)\/(((l.foldl (repStep k) Uk).Kind==0)=false/\firstRep (canonS l) k=some (l.foldl (repStep k) Uk)):=by
 have h:=QnF k l;obtain⟨m,i⟩:=Jm l;generalize l.foldl (repStep k) Uk=r at*;cases z:(r.Kind==0)with
 |true=>
  obtain⟨a,b⟩:=h.none z;refine .inl ⟨a,List.find?_eq_none.2 λf j=>?_⟩;obtain⟨t,n⟩:=(i f).1 j;rw[b f t n];exact Bool.false_ne_true
 |false=>
  obtain⟨a,b,c,d⟩:=h.some z;refine .inr ⟨rfl,?_⟩;have g:r∈canonS l:=(i r).2 ⟨a,b⟩;cases q:firstRep (canonS l) k with
  |none=>exact absurd c (by have:=List.find?_eq_none.1 q r g;exact this)
  |some f=>
   obtain⟨p,e,s⟩:=QbT q;have x:=Qjb m.1 q r g c;have u:=d f p e s;have w:=Qkn.swap f r;rw[Qc2 e b (by omega)]
def bibOf(f:Fact):Int:=f.Report.Bib+f.Ruling.Bib
def whoB(ab:List Fact)(b:Int):Bool:= !(b==0)&&ab.any λf=>bibOf f==b
theorem Qlb{l:List Fact}{k:Int}{f:Fact}(h:f∈about l k):0<=bibOf f/\bibOf f<=9999:=by
 obtain⟨_,b,q|q⟩:=Qm0 h
 .obtain⟨_,d,a⟩:=Qdh b q.1;unfold bibOf;rw[a,show Uk.Report.Bib=0 from rfl];omega
 .obtain⟨_,d,a⟩:=QkD b q.1;unfold bibOf;rw[a,show Uk.Ruling.Bib=0 from rfl];omega
def maxAt(ab:List Fact):Int:=ab.foldl (λa f=>max a f.At) 0
def standS(e:Int)(c:Course)(l:List Fact)(p:Protest):Bool:=
 bif (about l p.Case).isEmpty then false else bif (p.By==0)||whoB (about l p.Case) p.By then true else
 bif (startF e c l).2==0 then(startF e c l).1.any (λs=>(s.Bib==p.By)&&(startF e c l).1.any λt=>whoB (about l p.Case) t.Bib&&(t.Distance==s.Distance))else false
def deadS(e:Int)(c:Course)(l:List Fact)(k:Int):Int×Bool:=bif (e==0)&& !(about l k).isEmpty then(IntKind.i64.wrap (maxAt (about l k)+c.Deadline),true)else(0,false)
def filedB(t:Int)(g:Fact):Bool:= !decide (t<g.At)
def admS(e:Int)(c:Course)(l:List Fact)(f:Fact):Bool:=
 validS f&&((f.Kind==9)&&((f.Protest.Form==1)&&(((f.Protest.By==0)||decide (c.Fee<=f.Protest.Fee))&&(((deadS e c (l.filter (filedB f.At)) f.Protest.Case).2&&decide (f.At<=(deadS e c (l.filter (filedB f.At)) f.Protest.Case).1))&&standS e c (l.filter (filedB f.At)) f.Protest))))
def lateB(l:List Fact)(f:Fact):Bool:=(about l f.Protest.Case).any λg=>(g.Kind==10)&&decide (f.At<g.At)
def openB(e:Int)(c:Course)(l:List Fact)(f:Fact):Bool:=admS e c l f&& !lateB l f
section
variable {α β:Type}
theorem Qbv(q:α->Bool):∀(l a:List α),l.foldl (λa x=>bif q x then a++[x]else a) a=a++l.filter q
 |[],a=>by simp
 |x::l,a=>by
  rw[XE,Qbv q l,Xd];cases h:q x<;>simp
theorem QjN{step:Nat->List α×Int->Option (Ctl (List α×Int) (List α))}(l:List α)(q:α->Bool)(hl:l.length<=1048576)
  (f:∀i x a,At l i x->a.length<=i->Ev (λn=>step n (a,(i:Int))) (.cont ((bif q x then a++[x]else a),((i+1:Nat):Int))))
  (b:∀a,Ev (λn=>step n (a,(l.length:Int))) (.done a)):Ev (λn=>Go.Sw.iter (step n) n ([],0)) (l.filter q):=by
 have e:l.filter q=l.foldl (λa x=>bif q x then a++[x]else a) []:=by rw[Qbv];rfl
 rw[e];refine QL l (λa x=>bif q x then a++[x]else a) [] (λa i=>(a,(i:Int))) (λa=>a) (by omega) rfl (λi x a g d=>f i x a g ?_) (b _);rw[d,Qbv,Vi];exact XW (VO ..) (by rw[Xy];omega)
theorem QdB(f:α->β):∀(l:List α) (a:List β),l.foldl (λa x=>a++[f x]) a=a++l.map f
 |[],a=>by simp
 |x::l,a=>by rw[XE,QdB f l];simp
theorem Qoe{step:Nat->List β×Int->Option (Ctl (List β×Int) (List β))}(l:List α)(f:α->β)(hl:l.length<=1048576)
  (g:∀i x a,At l i x->a.length<=i->Ev (λn=>step n (a,(i:Int))) (.cont (a++[f x],((i+1:Nat):Int))))
  (b:∀a,Ev (λn=>step n (a,(l.length:Int))) (.done a)):Ev (λn=>Go.Sw.iter (step n) n ([],0)) (l.map f):=by
 have e:l.map f=l.foldl (λa x=>a++[f x]) []:=by rw[QdB];rfl
 rw[e];refine QL l (λa x=>a++[f x]) [] (λa i=>(a,(i:Int))) (λa=>a) (by omega) rfl (λi x a h d=>g i x a h ?_) (b _);rw[d,QdB,Vi,X3,Xy];omega
theorem QdA{l:List α}[DecidableEq (List α)](hl:l.length<=1048576):isNil l (some ([]:List α)) ((app ([]:List α) l).bind λx=>some x)=some l:=by
 have:app ([]:List α) l=some l:=by rw[Qkp _ _ (by simp;omega)];rfl
 unfold isNil;cases l with
 |nil=>rw[this];simp
 |cons a l=>rw[this];rfl
theorem Qno{F:Nat->α->α->Option β}{V:α->α->β}(l:List α)(h:∀x∈l,∀y∈l,Ev (λn=>F n x y) (V x y)):∃N,∀n,N<=n->∀x∈l,∀y∈l,F n x y=some (V x y):=by
 obtain⟨N,f⟩:=QaV (F:=λn (p:α×α)=>F n p.1 p.2) (V:=λp=>V p.1 p.2) (l.flatMap λx=>l.map λy=>(x,y)) (by
  intro p a;rw[List.mem_flatMap]at a;obtain⟨x,b,a⟩:=a;obtain⟨y,d,rfl⟩:=Xf.1 a;exact h x b y d)
 exact⟨N,λn e x b y d=>f n e (x,y) (List.mem_flatMap.2 ⟨x,b,Xf.2 ⟨y,d,rfl⟩⟩)⟩
def ltC(c:α->α->Int)(x y:α):Bool:=decide (c x y<0)
theorem Qb8{c:α->α->Int}(d:CmpOK c)(l:List α):Qd6 (ltC c) l:=by
 refine⟨λx _=>?_,λx _ y _ z _ g f=>?_,λx _ y _ z _ g f=>?_⟩
 .have:=d.refl x;exact Vy (by omega)
 .have g:=Vw g;have f:=Vw f;exact Vv (d.trans x y z g f)
 .have g:=Vx g;have f:=Vx f;refine Vy λh=>?_;have a:=d.swap x y;have b:=d.swap y z;by_cases e:c x y=0
  .rw[d.eqt x y z e]at h;exact f h
  .by_cases i:c y z=0
   .rw[<- d.eqr x i]at h;exact g h
   .have j:=d.trans z y x (by omega) (by omega);have:=d.swap x z;omega
theorem Qkz[DecidableEq α]{cf:Nat->α->α->Option Int}{l:List α}{c:α->α->Int}(hl:l.length<=1048576)(p:∀x∈l,∀y∈l,Ev (λn=>cf n x y) (c x y))(a:CmpOK c)(k:∀x∈l,∀y∈l,c x y=0->x=y):
  Ev (λn=>QbL (cf n) l) (YK (ltC c) l):=by
 obtain⟨N,s⟩:=Qno l p;refine⟨N,λn r=>?_⟩;have h:=s n r;have m:=QlN (cf:=cf n) (XS (Qb9 hl)) c h (λx _=>by have:=a.refl x;omega) (λx _ y _ z _=>a.trans x y z) (λx b y d z u g f=>by
   have:=(Qb8 a l).ntrans x b y d z u (Vy g) (Vy f);exact Vx this) (λx b y d g f=>k x b y d (by have:=a.swap x y;omega))
 show QbL (cf n) l=some (YK (ltC c) l);rw[m];congr 1;obtain⟨_,_,t,_,_⟩:=QcI m;have e:∀x∈l,∀y∈l,ltO (cf n) x y=ltC c x y:=λx b y d=>by unfold ltO ltC;rw[h x b y d]
 refine Jh (lt:=ltC c) ((Ql _ l).trans (Ql _ l).symm) (λx b y d g f=>?_) ?_ (QS (Qb8 a l))
 .have j:=(Ql _ l).mem_iff.1 b;have i:=(Ql _ l).mem_iff.1 d;have g:=Vx g;have f:=Vx f;exact k x j y i (by have:=a.swap x y;omega)
 .refine List.Pairwise.imp_of_mem (λ{x y} b d q=>?_) (QS t);have j:=(Ql _ l).mem_iff.1 b;have i:=(Ql _ l).mem_iff.1 d;rw[<- e y i x j];exact q
end
def ddA(p:Fact):List Fact->List Fact
 |[]=>[]
 |x::r=>bif cmpF x p==0 then ddA x r else x::ddA x r
def dd:List Fact->List Fact
 |[]=>[]
 |x::r=>x::ddA x r
theorem QmS{x p:Fact}{r:List Fact}(q:(cmpF x p==0)=true):ddA p (x::r)=ddA x r:=by
 show(bif cmpF x p==0 then ddA x r else x::ddA x r)=_;rw[q];rfl
theorem QmR{x p:Fact}{r:List Fact}(q:(cmpF x p==0)=false):ddA p (x::r)=x::ddA x r:=by
 show(bif cmpF x p==0 then ddA x r else x::ddA x r)=_;rw[q];rfl
theorem QmQ:∀(r:List Fact) (p:Fact),(∀x∈r,¬cmpF x p<0)->r.Pairwise (λa b=>¬cmpF b a<0)->(∀x∈p::r,validS x=true)->(ddA p r).Pairwise ltF/\(∀x∈ddA p r,ltF p x)/\ ∀x,x∈p::ddA p r↔x∈p::r
 |[],p,_,_,_=>⟨List.Pairwise.nil,(λ_ h=>by cases h),λ_=>Iff.rfl⟩
 |y::r,p,h1,h2,h3=>by
  rw[Xc]at h2;obtain⟨i1,i2,i3⟩:=QmQ r y h2.1 h2.2 λx hx=>h3 x (by simp only[X7]at hx⊢;exact .inr hx);have hy:=h1 y (by simp);unfold ddA;cases q:cmpF y p==0 with
  |true=>
   have q':cmpF y p=0:=by simpa using q
   have e:y=p:=Qc2 (h3 y (by simp)) (h3 p (by simp)) q';subst e;refine⟨i1,i2,λx=>?_⟩;rw[Vq,i3 x];simp
  |false=>
   have q':¬cmpF y p=0:=by simpa using q
   have d:ltF p y:=by
    have:=Qkn.swap y p;unfold ltF;omega
   simp only[Vr];refine⟨Xc.2 ⟨i2,i1⟩,λx hx=>?_,λx=>?_⟩
   .rcases X7.1 hx with rfl|hx
    .exact d
    .exact Qdx _ _ _ d (i2 x hx)
   .rw[X7,i3 x,X7 (a:=x) (b:=p)]
theorem dd_ok{S:List Fact}(h:S.Pairwise λa b=>¬cmpF b a<0)(d:∀x∈S,validS x=true):(dd S).Pairwise ltF/\ ∀x,x∈dd S↔x∈S:=by
 cases S with
 |nil=>exact⟨List.Pairwise.nil,λ_=>Iff.rfl⟩
 |cons a r=>
  rw[Xc]at h;obtain⟨e,f,g⟩:=QmQ r a h.1 h.2 d;exact⟨Xc.2 ⟨f,e⟩,g⟩
theorem Qg9(x y:Fact):Ev (λn=>F_ar n x y) (cmpF x y==0):=Ea (Qbx x y) (Qa _)
theorem Qkb{l:List Fact}{a j:Nat}{x:Fact}(h:l[a+j]?=some x){m:Int}(d:m=(l.length:Int)):Qg0 l (a:Int) m (j:Int)=some x:=by
 have b:=(XM.1 h).1;unfold Qg0;rw[Vv (show(0:Int)<=(a:Int)by omega),Vv (show(0:Int)<=(j:Int)by omega),Vv (show(a:Int)+(j:Int)<m by omega)];rw[show(a:Int)+(j:Int)=((a+j:Nat):Int)by omega];exact YS h
theorem Qkm{α:Type}{l r:List α}{i:Nat}{x:α}(h:l.drop i=x::r):l[i]?=some x/\l.drop (i+1)=r/\i<l.length:=by
 have a:l[i]?=some x:=by
  have:=congrArg (λl=>l[0]?) h;simpa using this
 refine⟨a,?_,(XM.1 a).1⟩;have:=Xr (XM.1 a).1;rw[h]at this;exact(List.cons.inj this).2.symm
theorem Qik(a:List Fact)(hl:a.length<=1048576)(b:Nat):∀(r s:List Fact) (i j:Nat) (p:Fact),s.length=a.length->s.drop (b+(j+1))=r->s[b+j]?=some p->i<b+(j+1)->b+(j+1)<=s.length->
  ∃(s':List Fact) (d:Nat),EvI (λn=>F_do n a (b:Int)) (s,(i:Int),((j+1:Nat):Int)) (s',(d:Int))/\d<=s'.length/\s'.take d=s.take i++ddA p r:=by
 intro r
 induction r with
 |nil=>
  intro s i j p e h w G L;refine⟨s,i,Ei ?_,by omega,by simp[ddA]⟩;have:=Xs.1 h;unfold F_do;rw[YJ (show¬(((j+1:Nat):Int)<((Int.toNat (a.length:Int)-Int.toNat (b:Int):Nat):Int))by omega)];exact Qa _
 |cons x r t=>
  intro s i j p e h w G L;obtain⟨g,F,M⟩:=Qkm h;have B:=Qkb g (show(a.length:Int)=(s.length:Int)by rw[e]);have E:=Qkb w (show(a.length:Int)=(s.length:Int)by rw[e]);have y:IntKind.i64.wrap (((j+1:Nat):Int)-1)=(j:Int):=by rw[Ys (by omega) (by omega)];omega
  have u:IntKind.i64.wrap (((j+1:Nat):Int)+1)=((j+1+1:Nat):Int):=Yz (by omega);have z:decide (((j+1:Nat):Int)<((Int.toNat (a.length:Int)-Int.toNat (b:Int):Nat):Int))=true:=Vv (by omega);have l:i<s.length:=by omega
  cases q:cmpF x p==0 with
  |true=>
   obtain⟨s',d,m,f,k⟩:=t s i (j+1) x e (by rw[show b+(j+1+1)=b+(j+1)+1 by omega];exact F) g (by omega) (by omega);refine⟨s',d,Ew ?_ m,f,by rw[k,QmS q]⟩;unfold F_do;simp only[z,Vq,B,y,E,XK];refine Ea (Qg9 x p) ?_;rw[q];simp only[Xh,Vr,XK,u];exact Qa _
  |false=>
   have J:(s.set i x).length=a.length:=by rw[X5];exact e
   obtain⟨s',d,m,f,k⟩:=t (s.set i x) (i+1) (j+1) x J (by rw[show b+(j+1+1)=b+(j+1)+1 by omega,List.drop_set_of_lt (by omega)];exact F) (by rw[XQ (by omega)];exact g) (by omega) (by rw[X5];omega);have H:IntKind.i64.wrap ((i:Int)+1)=((i+1:Nat):Int):=Yz (by omega);refine⟨s',d,Ew ?_ m,f,?_⟩
   .unfold F_do;simp only[z,Vq,B,y,E,XK];refine Ea (Qg9 x p) ?_;rw[q];simp only[Xi,Vq,XK,u,YS (XL l),QhG s x l,H];exact Qa _
   .rw[k,List.take_add_one,Xa l,List.take_set_of_le (XU _)];rw[QmR q];simp
theorem Qil(a:List Fact)(hl:a.length<=1048576):∀(r:List Fact) (k:Nat) (p:Fact),a.drop (k+1)=r->a[k]?=some p->k+1<=a.length->∃b:Ctl Unit (List Fact),EvI (λn=>F_ek n a) ((k+1:Nat):Int) b/\((b=.cont ()/\ddA p r=r)\/b=.done (a.take (k+1)++ddA p r)):=by
 intro r
 induction r with
 |nil=>
  intro k p l h z;refine⟨.cont (),Ei ?_,.inl ⟨rfl,rfl⟩⟩;have:=Xs.1 l;unfold F_ek;rw[YJ (show¬(((k+1:Nat):Int)<(a.length:Int))by omega)];exact Qa _
 |cons x r u=>
  intro k p l h z;obtain⟨g,s,f⟩:=Qkm l;have m:IntKind.i64.wrap (((k+1:Nat):Int)-1)=(k:Int):=by rw[Ys (by omega) (by omega)];omega
  have y:IntKind.i64.wrap (((k+1:Nat):Int)+1)=((k+1+1:Nat):Int):=Yz (by omega);have t:decide (((k+1:Nat):Int)<(a.length:Int))=true:=Vv (by omega);cases q:cmpF x p==0 with
  |true=>
   obtain⟨w,B,j,d,i⟩:=Qik a hl (k+1) r a (k+1) 0 x rfl s g (by omega) (by omega);refine⟨.done (a.take (k+1)++ddA p (x::r)),Ei ?_,.inr rfl⟩;unfold F_ek;simp only[t,Vq,YS g,m,YS h,XK];refine Ea (Qg9 x p) ?_;rw[q];simp only[Vq,QhE a (Nat.le_of_lt f),XK];refine Ea j.ev ?_;simp only[QlO w d,XK];rw[i];rw[QmS q];exact Qa _
  |false=>
   obtain⟨b,j,d⟩:=u (k+1) x s g f;have e:=QmR (r:=r) q;refine⟨b,Ew ?_ j,?_⟩
   .unfold F_ek;simp only[t,Vq,YS g,m,YS h,XK];refine Ea (Qg9 x p) ?_;rw[q];simp only[Vr,y];exact Qa _
   .rcases d with⟨d,i⟩|d
    .exact .inl ⟨d,by rw[e,i]⟩
    .refine .inr ?_;rw[d,e,List.take_add_one,g];simp
theorem Qii(a:List Fact)(hl:a.length<=1048576):Ev (λn=>F_ce n a) (dd a):=by
 unfold F_ce
 match a,hl with
 |[],_=>exact Qa _
 |[x],_=>exact Qa _
 |x::y::r,hl=>
  rw[YJ (show¬(((x::y::r).length:Int)<2)by simp;omega)];refine Y7 ?_;obtain⟨b,e,f⟩:=Qil (x::y::r) hl (y::r) 0 x rfl rfl (by simp);refine Ea e.ev ?_;rcases f with⟨rfl,d⟩|rfl
  .show Ev (λn=>some (x::y::r)) (x::ddA x (y::r));rw[d];exact Qa _
  .exact Qa _
theorem Qgh(l:List Fact)(d:∀f∈l,validS f=true)(hl:l.length<=1048576):Ev (λn=>F_ap n l) (canonS l):=by
 unfold F_ap F_al;simp only[QdA hl,XK];have p:=Ql (ltC cmpF) l;refine Ea (Qkz hl (λx _ y _=>Qbx x y) Qkn λx g y r e=>Qc2 (d x g) (d y r) e) ?_;refine Ea (Qii _ (by rw[p.length_eq];exact hl)) ?_;have s:(YK (ltC cmpF) l).Pairwise λa b=>¬cmpF b a<0:=List.Pairwise.imp (λq=>Vx q) (QS (Qb8 Qkn l));obtain⟨j,k⟩:=dd_ok s λx g=>d x (p.mem_iff.1 g);obtain⟨i,m⟩:=Jm l;refine Eu (Qa _) (Qbo QcS Qdx j i.1 λf=>?_);rw[k,p.mem_iff,m];exact⟨λh=>⟨h,d f h⟩,λh=>h.1⟩
def cmpN(x y:Ub):Int:=cmpI x.number y.number
theorem Qep:CmpOK cmpN:=cmpI_ok.on λx:Ub=>x.number
def sortN(fs:List Ub):List Ub:=YK (ltC cmpN) fs
theorem Qj6{fs:List Ub}(h:(fs.map (·.number)).Nodup){x y:Ub}(f:x∈fs)(d:y∈fs)(e:x.number=y.number):x=y:=by
 induction fs with
 |nil=>cases f
 |cons a r g=>
  have b:a.number∉r.map (·.number)/\(r.map (·.number)).Nodup:=by rw[Vk,List.nodup_cons]at h;exact h
  rcases X7.1 f with q|q
  .rcases X7.1 d with z|z
   .rw[q,z]
   .exact absurd (Xf.2 ⟨y,z,by rw[<- e,q]⟩) b.1
  .rcases X7.1 d with z|z
   .exact absurd (Xf.2 ⟨x,q,by rw[e,z]⟩) b.1
   .exact g b.2 q z
theorem QkF{p q:List Ub}(h:p.Perm q)(d:(q.map (·.number)).Nodup):sortN p=sortN q:=by
 have f:(p.map (·.number)).Nodup:=(h.map _).nodup_iff.2 d;refine Jh (lt:=ltC cmpN) ((Ql _ p).trans (h.trans (Ql _ q).symm)) (λx e y g b a=>?_) (QS (Qb8 Qep p)) (QS (Qb8 Qep q));have b:=Vx b;have a:=Vx a;refine Qj6 f ((Ql _ p).mem_iff.1 e) ((Ql _ p).mem_iff.1 g) (QpD.1 ?_);have:=Qep.swap x y;show cmpN x y=0;omega
def ltN(x y:Ub):Prop:=x.number<y.number
theorem QhC{p:List Ub}(e:(p.map (·.number)).Nodup):(sortN p).Pairwise ltN:=by
 have a:((sortN p).map (·.number)).Nodup:=((Ql _ p).map _).nodup_iff.2 e;have s:=QS (Qb8 Qep p);have d:(sortN p).Pairwise λx y=>x.number≠y.number:=by
  unfold List.Nodup at a;rw[List.pairwise_map]at a;exact a
 refine List.Pairwise.imp₂ (λx y b f=>?_) s d;have b:¬cmpI y.number x.number<0:=Vx b;rw[Qn6]at b;unfold ltN;omega
theorem Qpo(x y:Ub):Ev (λn=>F_an n x y) (cmpN x y==0):=by
 unfold F_an F_ad;simp only[Qhb,XK];exact Qa _
theorem Qij(fs:List Ub)(hl:fs.length<=1048576)(f:fs.Pairwise ltN):Ev (λn=>F_by n fs) ():=by
 unfold F_by;cases q:decide ((fs.length:Int)<2)with
 |true=>exact Qa _
 |false=>
  refine Y7 ?_;refine Ea (v:=()) ?_ (Qa _);have h:=Vx q;refine Ev.iter (λi=>((i+1:Nat):Int)) (fs.length-1) rfl (λi j=>?_) ?_
  .have g:fs[i+1]?=some fs[i+1]:=XL (by omega);have b:fs[i]?=some fs[i]:=XL (by omega);have d:IntKind.i64.wrap (((i+1:Nat):Int)-1)=(i:Int):=by rw[Ys (by omega) (by omega)];omega
   have a:IntKind.i64.wrap (((i+1:Nat):Int)+1)=((i+1+1:Nat):Int):=Yz (by omega);unfold F_hf;rw[Vv (show(((i+1:Nat):Int)<(fs.length:Int))by omega)];simp only[Vq,YS g,d,YS b,XK];refine Ea (Qpo _ _) ?_;have lt:ltN fs[i] fs[i+1]:=VF.1 f i (i+1) (by omega) (by omega) (by omega);have e:(cmpN fs[i+1] fs[i]==0)=false:=by
    rw[VA];intro z;have k:fs[i+1].number=fs[i].number:=QpD.1 z;unfold ltN at lt;omega
   rw[e];simp only[Vr,a];exact Qa _
  .unfold F_hf;rw[YJ (show¬(((fs.length-1+1:Nat):Int)<(fs.length:Int))by omega)];exact Qa _
theorem Qjk(fs:List Ub)(hl:fs.length<=1048576)(a:(fs.map (·.number)).Nodup):Ev (λn=>F_bq n fs) (sortN fs):=by
 unfold F_bq F_fb;simp only[QdA hl,XK];refine Ea (v:=sortN fs) (Qkz hl (λx _ y _=>?_) Qep λx d y b e=>Qj6 a d b (QpD.1 e)) ?_
 .unfold F_ad;simp only[Qhb,XK];exact Qa _
 .refine Ea (v:=()) (Qij _ ?_ (QhC a)) (Qa _);unfold sortN;rw[(Ql _ fs).length_eq];exact hl
theorem Qe0(fs:List Ub)(k:Int):(Qah fs k).length<=fs.length+1:=by
 unfold Qah;cases fs.any λx=>decide (x.number=k)<;>simp
theorem Qez(fs:List Ub)(k:Int)(g:Ub->Ub):(Qbn fs k g).length=fs.length:=by unfold Qbn;rw[X3]
theorem Qn8{fs a:List Ub}{k i:Int}{f:Fact}(h:filesAdd fs k i f=some a):a.length=fs.length:=by
 unfold filesAdd at h;cases b:(i==0)<;>cases e:(i==1)<;>cases d:(i==2)<;>rw[b,e,d]at h<;>first|(cases h;done)|(cases h;rw[Qez])
theorem QlI{fs b:List Ub}{f:Fact}(h:filesStep fs f=some b):b.length<=fs.length+1:=by
 unfold filesStep at h;cases g:(f.Kind==10)with
 |true=>
  rw[g,Vq]at h;cases a:QdS (Qah fs f.Ruling.Case)with
  |true=>rw[a,Vq]at h;rw[Qn8 h];exact Qe0 _ _
  |false=>rw[a]at h;cases h
 |false=>
  rw[g,Vr]at h;cases a:(f.Kind==8)with
  |true=>
   rw[a,Vq]at h;cases d:QdS (Qah fs f.Report.Case)with
   |true=>rw[d,Vq]at h;cases h;rw[Qez];exact Qe0 _ _
   |false=>rw[d]at h;cases h
  |false=>
   rw[a,Vr]at h;cases d:(f.Kind==11)with
   |true=>
    rw[d,Vq]at h;cases e:f.Appeal.Suspends with
    |true=>rw[e,Vq]at h;cases h;rw[Qez];exact Qe0 _ _
    |false=>rw[e]at h;cases h;omega
   |false=>rw[d]at h;cases h;omega
theorem QkX(C:List Fact)(p:∀f∈C,validS f=true)(hl:C.length<=1048576):∃fs,Ev (λn=>Go.Sw.iter (filesL n C) n (([]:List Ub),0)) fs/\FilesOf C fs/\fs.length<=C.length:=by
 have loop:∀(r:List Fact) (i:Nat) (s:List Ub),C.drop i=r->i<=C.length->FilesOf (C.take i) s->s.length<=i->∃fs,EvI (λn=>filesL n C) (s,(i:Int)) fs/\FilesOf C fs/\fs.length<=C.length:=by
  intro r
  induction r with
  |nil=>
   intro i s e k d h;refine⟨s,Ei ?_,?_,by omega⟩
   .unfold filesL;simp only[YE e k,Vr];exact Qa _
   .rw[VJ (Xs.1 e)]at d;exact d
  |cons f r l=>
   intro i s e k d h;obtain⟨a,j⟩:=QJ (by omega) e;have q:=a.lt';obtain⟨m,g,b⟩:=Qg5 d (by rw[Xy];omega) (p f a.mem);rw[<- a.take]at b;obtain⟨fs,t,u⟩:=l (i+1) m j (by omega) b (by have:=QlI g;omega);refine⟨fs,Ew ?_ t,u⟩;unfold filesL;simp only[a.lt,Vq,a.ix,XK,g,a.nx];exact Qa _
 obtain⟨fs,g,b⟩:=loop C 0 [] rfl (XV _) FilesOf.nil (XU _);exact⟨fs,g.ev,b⟩
theorem Qfh:∀(p:List (Int×Ub)) (s:List Ub) (n:Nat),s.length+p.length<=1048576->QeG (F_gh n) (F_hh n) s p=some (s++p.map Prod.snd)
 |[],s,n,_=>by unfold QeG F_hh;simp
 |e::p,s,n,h=>by
  rw[X2]at h;have h1:F_gh n s e=some (.cont (s++[e.2])):=by
   unfold F_gh;rw[Qal _ _ (by omega)];rfl
  unfold QeG;rw[h1];show QeG _ _ (s++[e.2]) p=_;rw[Qfh p _ n (by simp;omega)];simp
theorem FilesOf.perm{C:List Fact}{fs gs:List Ub}(h:FilesOf C fs)(p:gs.Perm fs):FilesOf C gs:=
 ⟨(p.map _).nodup_iff.2 h.num,λx hx=>h.each x (p.mem_iff.1 hx),λk=>by rw[(p.map _).mem_iff];exact h.mem k⟩
theorem QmH(l:List Fact)(hl:l.length<=100):∃fs,Ev (λn=>F_aw n l) fs/\FilesOf (canonS l) fs/\fs.Pairwise ltN/\fs.length<=(canonS l).length:=by
 have r:∀f∈l.filter validS,validS f=true:=λf g=>(Xe.1 g).2;have e:canonS (l.filter validS)=canonS l:=Qfn λf g=>by rw[Xe];simp[g]
 obtain⟨m,z⟩:=Jm l;have s:=Qby l;obtain⟨fs,w,b,k⟩:=QkX (canonS l) m.2 (by omega);refine⟨sortN fs,?_,b.perm (Ql _ fs),QhC b.num,by unfold sortN;rw[(Ql _ fs).length_eq];exact k⟩;unfold F_aw;refine Ea (v:=l.filter validS) (QjN l validS (by omega) (λi x a d u=>?_) λa=>?_) ?_
 .have t:=d.lt';unfold F_gv;simp only[d.lt,Vq,d.ix,XK,d.nx];refine Ea (Y9 x) ?_;cases validS x with
  |true=>
   simp only[Vq];rw[Qal a x (by omega)];exact Qa _
  |false=>exact Qa _
 .unfold F_gv;simp only[Ju,Vr];exact Qa _
 refine Ea (v:=canonS l) ((Qgh _ r (XW (VO ..) (by omega))).eq e) ?_;refine Ea w ?_;refine Ev.anyP λp j=>?_;have y:p.length=fs.length:=by rw[j.length_eq];unfold Qef;rw[X3]
 have h:(p.map Prod.snd).Perm fs:=by
  have:=j.map Prod.snd;unfold Qef at this;rw[List.map_map]at this;have q:(fs.map (Prod.snd ∘ λx:Ub=>(x.number,x)))=fs:=by
   conv=>rhs;rw[<- List.map_id fs]
   rfl
  rw[q]at this;exact this
 simp only[Qfh p [] _ (by simp;omega),Vi,XK];refine Ea (Qjk _ (by rw[X3];omega) ((h.map _).nodup_iff.2 b.num)) ?_;rw[QkF h b.num];exact Qa _
def tailsOf(x:Ub):List Fact:=x.r0.drop 1++(x.r1.drop 1++x.r2.drop 1)
theorem QmC(x:Ub)(s:List Fact)(h:s.length+(tailsOf x).length<=1048576)(h0:x.r0.length<=1048576)(g:x.r1.length<=1048576)(e:x.r2.length<=1048576):Ev (λn=>Go.Sw.iter (F_du n x) n (s,0)) (s++tailsOf x):=by
 unfold tailsOf at h⊢;simp only[X4]at h;have one:∀(l s:List Fact) (i:Nat),([x.r0,x.r1,x.r2]:List (List Fact))[i]?=some l->l.length<=1048576->s.length+(l.drop 1).length<=1048576->∀n,F_du n x (s,(i:Int))=some (.cont (s++l.drop 1,((i+1:Nat):Int))):=by
  intro l s i d j k n;have b:=(XM.1 d).1;simp only[X2,List.length_nil]at b;unfold F_du;simp only[Vv (show((i:Int)<3)by omega),Vq,YS d,XK,Yz (show i<9223372036854775807 by omega)];cases q:decide ((1:Int)<(l.length:Int))with
  |true=>
   have f:=Vw q;simp only[Vq];have:=QhE l (a:=1) (by omega);rw[show((1:Nat):Int)=1 by rfl]at this;rw[this];simp only[XK];rw[Qkp _ _ (by omega)];rfl
  |false=>
   have f:=Vx q;simp only[Vr,XK];rw[Xs.2 (by omega),Vh]
 refine EvI.ev (Ew (Y2 (Qa _) λn=>one _ _ 0 rfl h0 (by omega) n) (Ew (Y2 (Qa _) λn=>one _ _ 1 rfl g (by simp only[X4];omega) n) (Ew (Y2 (Qa _) λn=>one _ _ 2 rfl e (by simp only[X4];omega) n) (Ei ?_))));refine Y2 (Qa _) λn=>?_;unfold F_du;simp only[Vj];rfl
theorem QfN{C:List Fact}{fs:List Ub}(h:FilesOf C fs){x:Ub}(a:x∈fs):(tailsOf x).length<=3*C.length/\x.r0.length<=C.length/\x.r1.length<=C.length/\x.r2.length<=C.length:=by
 have e:=h.each x a;have b:x.r0.length<=C.length:=by rw[e];exact VO ..
 have d:x.r1.length<=C.length:=by rw[e];exact VO ..
 have f:x.r2.length<=C.length:=by rw[e];exact VO ..
 unfold tailsOf;simp only[X4,List.length_drop];omega
theorem QkT{C:List Fact}{fs gs:List Ub}(h:FilesOf C fs)(hg:∀x∈gs,x∈fs):(gs.flatMap tailsOf).length<=gs.length*(3*C.length):=by
 induction gs with
 |nil=>simp
 |cons a r b=>
  rw[List.flatMap_cons,X4,X2,XA,Nat.one_mul];have:=(QfN h (hg a (by simp))).1;have:=b λx d=>hg x (by simp[d]);omega
theorem QcB{α β:Type}(f:α->List β):∀(l:List α) (a:List β),l.foldl (λa x=>a++f x) a=a++l.flatMap f
 |[],a=>by simp
 |x::l,a=>by rw[XE,QcB f l];simp
theorem Qkk(l:List Fact)(hl:l.length<=100):Ev (λn=>F_ao n l) (voidR l):=by
 obtain⟨d,G,q,O,L⟩:=QmH l hl;have B:=Qby l;obtain⟨r,M⟩:=Jm l;have u:∀k:List Ub,k.length<=d.length->(∀x∈k,x∈d)->(k.flatMap tailsOf).length<=30000:=λk P j=>by
  have a:=QkT q j;have b:k.length*(3*(canonS l).length)<=100*300:=Nat.mul_le_mul (by omega) (by omega);omega
 unfold F_ao;refine Ea G ?_;refine Ea (v:=d.flatMap tailsOf) ?_ ?_
 .have e:d.flatMap tailsOf=d.foldl (λa x=>a++tailsOf x) []:=by rw[QcB];rfl
  rw[e];refine QL d (λa x=>a++tailsOf x) [] (λa i=>(a,(i:Int))) (λa=>a) (by omega) rfl (λi x a g m=>?_) ?_
  .have t:=g.lt';rw[QcB,Vi]at m;have s:a.length<=30000:=by rw[m];exact u _ (by rw[Xy];omega) λx p=>List.mem_of_mem_take p
   obtain⟨N,Q,H,J⟩:=QfN q g.mem;unfold F_gs;simp only[g.lt,Vq,g.ix,XK,g.nx];exact Ea (QmC x a (by omega) (by omega) (by omega) (by omega)) (Qa _)
  .unfold F_gs;simp only[Ju,Vr];exact Qa _
 have j:∀f,f∈d.flatMap tailsOf↔f∈voidS (canonS l):=by
  intro f;rw[QlD r q,List.mem_flatMap];simp only[tailsOf,VE]
 have w:∀f∈d.flatMap tailsOf,validS f=true:=λf m=>by
  have:=(j f).1 m;unfold voidS at this;exact r.2 f (Xe.1 this).1
 have E:=u d (XU _) λx p=>p;refine Ea (Qgh _ w (by omega)) ?_;have e:canonS (d.flatMap tailsOf)=voidS (canonS l):=by
  obtain⟨y,F⟩:=Jm (d.flatMap tailsOf);refine Qbo QcS Qdx y.1 (r.1.filter _) λf=>?_;rw[F,j f];exact⟨λh=>h.1,λh=>⟨h,w f ((j f).2 h)⟩⟩
 rw[e];have z:(voidS (canonS l)).length<=100:=XW (VO ..) (by omega);refine Ea (v:=voidR l) (Qoe _ refOf (by omega) (λi x a g s=>?_) λa=>?_) (Qa _)
 .have t:=g.lt';unfold F_gu;simp only[g.lt,Vq,g.ix,XK,g.nx];rw[Qal a _ (by omega)];exact Qa _
 .unfold F_gu;simp only[Ju,Vr];exact Qa _
section
variable {S T B:Type} {step:Nat->S->Option (List T×Ctl S B)} {s s':S} {b:B} {xs ys:List T}
def EvL(step:Nat->S->Option (List T×Ctl S B))(s:S)(ys:List T)(b:B):Prop:=∃N,∀n k,N<=n->N<=k->Qcn (step n) k s=some (ys,b)
theorem EvL.done(h:Ev (λn=>step n s) (ys,.done b)):EvL step s ys b:=by
 obtain⟨N,h⟩:=h;refine⟨N+1,λn k f d=>?_⟩;obtain⟨a,rfl⟩:∃a,k=a+1:=⟨k-1,by omega⟩;have e:step n s=some (ys,.done b):=h n (by omega);unfold Qcn;rw[e];rfl
theorem EvL.cont(h:Ev (λn=>step n s) (xs,.cont s'))(q:EvL step s' ys b):EvL step s (xs++ys) b:=by
 obtain⟨N,h⟩:=h;obtain⟨M,q⟩:=q;refine⟨max N M+1,λn k f d=>?_⟩;obtain⟨a,rfl⟩:∃a,k=a+1:=⟨k-1,by omega⟩;have e:step n s=some (xs,.cont s'):=h n (by omega);unfold Qcn;rw[e];show(Qcn (step n) a s').bind _=_;rw[q n a (by omega) (by omega)];rfl
theorem EvL.ev(h:EvL step s ys b):Ev (λn=>Qcn (step n) n s) (ys,b):=by
 obtain⟨N,h⟩:=h;exact⟨N,λn a=>h n n a a⟩
theorem QfT{U R:Type}{st:U->T->Option (Ctl U R)}(g:U->T->U):∀(l:List T) (u:U),(∀x∈l,∀u,st u x=some (.cont (g u x)))->Qci st l u=some (.cont (l.foldl g u))
 |[],u,_=>rfl
 |x::l,u,h=>by
  unfold Qci;rw[h x (by simp)];exact QfT g l _ λy hy=>h y (by simp[hy])
end
theorem QlE(vs:List Ref)(r:Ref):Qo (Q0 (λx:Ref=>x) true vs) r false=vs.any λx=>decide (x=r):=by
 rw[Qar,List.map_id'];by_cases h:r∈vs
 .rw[Vu h];exact(Xu.2 ⟨r,h,by simp⟩).symm
 .rw[Vt h];refine(List.any_eq_false.2 λx a q=>?_).symm;rw[Vw q]at a;exact h a
theorem Qfi(l:List Fact)(k:Int)(hl:l.length<=100):Ev (λn=>F_y n l k) (about l k,()):=by
 unfold F_y;refine Ea (Qkk l hl) ?_;have t:(voidR l).length<=100:=by
  unfold voidR voidS;rw[X3];exact XW (VO ..) (by have:=Qby l;omega)
 refine Ea (v:=Q0 (λx:Ref=>x) true (voidR l)) (QaG _ _ _ (by omega) (λi x m b=>?_) λm=>?_) ?_
 .unfold F_hd;simp only[b.lt,Vq,b.ix,XK,b.nx];exact Qa _
 .unfold F_hd;simp only[Ju,Vr];exact Qa _
 have loop:∀(r:List Fact) (i:Nat) (a:Fact),l.drop i=r->i<=l.length->EvL (λn=>F_gj n l k (Q0 (λx:Ref=>x) true (voidR l))) (a,(i:Int)) (r.filter λf=>validS f&&standB (voidR l) k f) (r.foldl (repStep k) a):=by
  intro r
  induction r with
  |nil=>
   intro i a j q;refine EvL.done ?_;unfold F_gj;simp only[YE j q,Vr];exact Qa _
  |cons f r s=>
   intro i a j q;obtain⟨b,h⟩:=QJ (by omega) j;have w:=b.lt';have e:(f::r).filter (λf=>validS f&&standB (voidR l) k f)=(bif validS f&&standB (voidR l) k f then[f]else[])++r.filter λf=>validS f&&standB (voidR l) k f:=by
    rw[Xd];cases validS f&&standB (voidR l) k f<;>rfl
   rw[e,XE];refine EvL.cont ?_ (s (i+1) (repStep k a f) h (by omega));unfold F_gj;simp only[b.lt,Vq,b.ix,XK,b.nx];refine Ea (Y9 f) ?_;unfold repStep;cases y:validS f with
   |false=>exact Qa _
   |true=>
    simp only[Vq,VB];refine Y7 (Ea (v:=repB k f) (Y2 (Qa _) λn=>?_) ?_)
    .unfold repB;cases(f.Kind==8)<;>rfl
    cases d:repB k f with
    |true=>
     have u:standB (voidR l) k f=false:=by
      unfold repB at d;rw[XX,Vz]at d;unfold standB;rw[d.1];rfl
     rw[u];simp only[Vq,Vr];refine Ea (v:=(a.Kind==0)||decide (cmpF f a<0)) (Et λ_=>Ea (Qbx f a) (Qa _)) ?_;cases(a.Kind==0)||decide (cmpF f a<0)<;>exact Qa _
    |false=>
     simp only[Vr,QlE];refine Ea (v:=standB (voidR l) k f) (Y2 (Qa _) λn=>?_) ?_
     .unfold standB refOf;cases(f.Kind==10)<;>cases(f.Ruling.Case==k)<;>rfl
     cases standB (voidR l) k f<;>exact Qa _
 unfold ap;refine Ea (loop l 0 Uk rfl (XV _)).ev ?_;unfold about;rcases QkH k l with⟨p,g⟩|⟨p,g⟩
 .rw[g];simp only[p];refine Y2 (Qa _) λn=>?_;rfl
 .rw[g];simp only[bne,p,Xi,Vq];refine Y2 (Qa _) λn=>?_;rfl
theorem Qf8:∀(d:List Fact) (a:Int) (b:Bool),d.foldl (λ(s:Int×Bool) x=>((if s.1<x.At then x.At else s.1),true)) (a,b)=(d.foldl (λa f=>max a f.At) a,b|| !d.isEmpty)
 |[],a,b=>by simp
 |x::r,a,b=>by
  rw[XE,Qf8 r,XE];have:(if a<x.At then x.At else a)=max a x.At:=by
   by_cases h:a<x.At
   .rw[Vu h];omega
   .rw[Vt h];omega
  simp[this]
theorem Qin(e:Int)(c:Course)(l:List Fact)(k:Int)(hl:l.length<=100)(he:Ev (λn=>F_h n c) e):Ev (λn=>F_aa n c l k) (deadS e c l k):=by
 unfold F_aa deadS;refine Ea he ?_;cases h:(e==0)with
 |false=>
  rw[show(e != 0)=true by rw[bne,h];rfl];exact Qa _
 |true=>
  rw[show(e != 0)=false by rw[bne,h];rfl];simp only[Vr,VB];unfold F_v;simp only[XK];refine Ea (Qfi l k hl) ?_;refine Ea (v:=.cont (maxAt (about l k), !(about l k).isEmpty)) (Y2 (Qa _) λn=>?_) ?_
  .have a:=QfT (st:=F_hp n) (λ(s:Int×Bool) (x:Fact)=>((if s.1<x.At then x.At else s.1),true)) (about l k) (0,false) λx _ u=>rfl;rw[Qf8]at a;exact a
  .cases(about l k).isEmpty<;>exact Qa _
theorem QkO{α β:Type}[DecidableEq α](l:List (α×β))(k b:α):YD (mdel l k) b=if b=k then none else YD l b:=by
 induction l with
 |nil=>by_cases h:b=k<;>simp[mdel,Qmg]
 |cons p l a=>
  unfold mdel at a⊢;rw[Xd,YQ];by_cases e:p.1=k
  .by_cases d:b=k
   .simp[e,d]at a⊢;exact a
   .have f:¬p.1=b:=λz=>d (z.symm.trans e);simp[e,d,f]at a⊢;rw[a,Vt (λz=>d z.symm)]
  .by_cases d:b=k
   .subst d;simp[e]at a⊢;rw[YQ,a,Vt e]
   .simp[e,d]at a⊢;rw[YQ,a]
theorem Qbs{α β:Type}[DecidableEq α](l:List (α×β))(k:α)(z:β):Qo l k z=(YD l k).getD z:=by
 unfold Qo;cases YD l k<;>rfl
theorem QmX{l:List Fact}{k:Int}{f:Fact}(h:f∈about l k):IntKind.i64.wrap (f.Report.Bib+f.Ruling.Bib)=bibOf f:=by
 have:=Qlb h;unfold bibOf at this⊢;exact Ys (by omega) (by omega)
theorem Qhy{l:List Fact}{k:Int}(n:Nat):∀(a:List Fact),(∀f∈a,f∈about l k)->∀(m:List (Int×Bool)) (b:Bool),Qci (F_gr n) a (m,b)=some (.cont (a.foldl (λm f=>QO m (bibOf f) true) m,b|| !a.isEmpty))
 |[],_,m,b=>by simp[Qci]
 |x::r,h,m,b=>by
  unfold Qci;have:F_gr n (m,b) x=some (.cont (QO m (bibOf x) true,true)):=by
   unfold F_gr;rw[QmX (h x (by simp))];rfl
  rw[this];show Qci _ r _=_;rw[Qhy n r (λf d=>h f (by simp[d]))];simp
theorem QjO(a:List Fact)(b:Int):Qo (mdel (a.foldl (λm f=>QO m (bibOf f) true) ([]:List (Int×Bool))) 0) b false=whoB a b:=by
 have e:a.foldl (λm f=>QO m (bibOf f) true) ([]:List (Int×Bool))=Q0 bibOf true a:=rfl;rw[e,Qbs,QkO];unfold whoB;by_cases h:b=0
 .rw[Vu h,h];rfl
 .rw[Vt h, <- Qbs,Qar];have g:(b==0)=false:=by simpa using h
  rw[g,Xi,VB];by_cases q:b∈a.map bibOf
  .rw[Vu q];obtain⟨f,d,rfl⟩:=Xf.1 q;exact(Xu.2 ⟨f,d,by simp⟩).symm
  .rw[Vt q];refine(List.any_eq_false.2 λf d z=>q ?_).symm;rw[<- (Vz.1 z)];exact VH d
theorem QfR{α κ:Type}[DecidableEq κ](q:α->Bool)(key:α->κ)(d:κ):∀(l:List α) (m:List (κ×Bool)),Qo (l.foldl (λm t=>bif q t then QO m (key t) true else m) m) d false=(Qo m d false||l.any λt=>q t&&decide (key t=d))
 |[],m=>by simp
 |x::l,m=>by
  rw[XE,QfR q key d l,List.any_cons];cases h:q x with
  |false=>simp
  |true=>
   rw[Vq,Qcy];by_cases h2:d=key x
   .simp[h2]
   .have:¬key x=d:=λz=>h2 z.symm;simp[h2,this]
theorem QkU{α:Type}(q:α->Bool)(l:List α):decide (0<=firstI q l 0)=l.any q:=by
 rcases QbU q l 0 with⟨b,a⟩|⟨j,x,b,a,d,f⟩
 .rw[b];refine(List.any_eq_false.2 λx e z=>?_).symm;have:=Xt.1 a x e;rw[z]at this;cases this
 .rw[b,Vv (by omega)];exact(Xu.2 ⟨x,VI a,d⟩).symm
theorem Qim(e:Int)(c:Course)(l:List Fact)(p:Protest)(hl:l.length<=16)(he:Ev (λn=>F_h n c) e):Ev (λn=>F_u n c l p) (standS e c l p):=by
 unfold F_u standS F_v;simp only[XK];refine Ea (Qfi l p.Case (by omega)) ?_;refine Ea (v:=.cont ((about l p.Case).foldl (λm f=>QO m (bibOf f) true) ([]:List (Int×Bool)), !(about l p.Case).isEmpty)) (Y2 (Qa _) λn=>by rw[Qhy n _ λf h=>h];rfl) ?_;simp only[QjO];generalize hm:mdel ((about l p.Case).foldl (λm f=>QO m (bibOf f) true) ([]:List (Int×Bool))) 0=M;have g:∀b,Qo M b false=whoB (about l p.Case) b:=λb=>by rw[<- hm];exact QjO _ b
 generalize about l p.Case=ab at g⊢;cases ab.isEmpty with
 |true=>exact Qa _
 |false=>
  simp only[Xi,Xh,Vr];refine Ea (v:=(p.By==0)||whoB ab p.By) (Et λ_=>Qa _) ?_;cases(p.By==0)||whoB ab p.By with
  |true=>exact Qa _
  |false=>
   simp only[Vr];refine Ea (Qih e c l hl he) ?_;cases q:((startF e c l).2==0)with
   |false=>
    rw[show((startF e c l).2 != 0)=true by rw[bne,q];rfl];exact Qa _
   |true=>
    rw[show((startF e c l).2 != 0)=false by rw[bne,q];rfl];have j:=QiU e c l;simp only[Vr,Vq];generalize startF e c l=st at j;refine Ea (v:=st.1.foldl (λm t=>bif whoB ab t.Bib then QO m t.Distance true else m) ([]:List (Int×Bool))) ?_ ?_
    .refine QL st.1 (λm t=>bif whoB ab t.Bib then QO m t.Distance true else m) [] (λm i=>(m,(i:Int))) (λm=>m) (by omega) rfl (λi x m a _=>?_) ?_
     .unfold F_hi;simp only[a.lt,Vq,a.ix,XK,a.nx,g];cases whoB ab x.Bib<;>exact Qa _
     .unfold F_hi;simp only[Ju,Vr];exact Qa _
    generalize hd:st.1.foldl (λm t=>bif whoB ab t.Bib then QO m t.Distance true else m) ([]:List (Int×Bool))=D;have k:∀d,Qo D d false=st.1.any λt=>whoB ab t.Bib&&(t.Distance==d):=λd=>by
     rw[<- hd,QfR (λt:Starter=>whoB ab t.Bib) (λt=>t.Distance) d,Qf1,Bool.false_or];refine congrArg (λf=>st.1.any f) (funext λt=>?_);rw[show decide (t.Distance=d)=(t.Distance==d)from rfl]
    refine Ea (v:=st.1.any λs=>(s.Bib==p.By)&&st.1.any λt=>whoB ab t.Bib&&(t.Distance==s.Distance)) ?_ (Qa _);unfold F_dy F_fp;rw[<- QkU];refine Ea (Ev.first st.1 (λs=>(s.Bib==p.By)&&st.1.any λt=>whoB ab t.Bib&&(t.Distance==s.Distance)) (by omega) (λi x a=>?_) ?_) (Qa _)
    .unfold F_hn F_di;simp only[a.lt,Vq,a.ix,XK,a.nx,k];refine Ea (v:=(x.Bib==p.By)&&st.1.any λt=>whoB ab t.Bib&&(t.Distance==x.Distance)) (Ea (Qw λ_=>Qa _) (Qa _)) ?_;cases(x.Bib==p.By)&&st.1.any λt=>whoB ab t.Bib&&(t.Distance==x.Distance)<;>exact Qa _
    .unfold F_hn;simp only[Ju,Vr];exact Qa _
theorem QnZ(l:List Fact)(f:Fact)(hl:l.length<=1048576):Ev (λn=>F_bt n l f) (l.filter (filedB f.At)):=by
 unfold F_bt F_dg;refine Ev.delete l (λg=>decide (f.At<g.At)) hl (Ev.first l _ (by omega) (λi x a=>?_) ?_) (λb i j x y k a d m e=>?_) λb i=>?_
 .unfold F_hg F_ak;simp only[a.lt,Vq,a.ix,XK,a.nx];cases decide (f.At<x.At)<;>exact Qa _
 .unfold F_hg;simp only[Ju,Vr];exact Qa _
 .have h:=(XM.1 d).1;unfold F_gt F_ak;simp only[a.lt,Vq,a.ix,XK,a.nx];cases decide (f.At<x.At)with
  |true=>exact Qa _
  |false=>
   simp only[Xi,Vq,YS d,QhG b x h,XK,Yz (show i<9223372036854775807 by omega)];exact Qa _
 .unfold F_gt;simp only[Ju,Vr];exact Qa _
theorem Qfj(e:Int)(c:Course)(l:List Fact)(f:Fact)(hl:l.length<=100)(d:(l.filter (filedB f.At)).length<=16)(he:Ev (λn=>F_h n c) e):Ev (λn=>F_m n c l f) (admS e c l f):=by
 unfold F_m admS;refine Ea (v:= !(validS f&&(f.Kind==9))) ?_ ?_
 .refine Ea (Y9 f) ?_;cases validS f with
  |true=>exact Y2 (Qa _) λn=>rfl
  |false=>exact Qa _
 cases validS f with
 |false=>exact Qa _
 |true=>
  simp only[VB];cases(f.Kind==9)with
  |false=>exact Qa _
  |true=>
   simp only[VB,Xh,Vr];unfold F_al;simp only[QdA (show l.length<=1048576 by omega),XK];refine Ea (QnZ l f (by omega)) ?_;unfold F_eh F_dx F_dm F_eb;simp only[XK];cases(f.Protest.Form==1)with
   |false=>exact Qa _
   |true=>
    simp only[Xh,Vr,VB];unfold F_db F_ei;have g:((bif (f.Protest.By==0)then some true else some (decide (c.Fee<=f.Protest.Fee))):Option Bool)=some ((f.Protest.By==0)||decide (c.Fee<=f.Protest.Fee)):=by cases(f.Protest.By==0)<;>rfl
    simp only[g,XK];cases(f.Protest.By==0)||decide (c.Fee<=f.Protest.Fee)with
    |false=>exact Qa _
    |true=>
     simp only[Xh,Vr,VB];have a:Ev (λn=>F_bc n c (l.filter (filedB f.At)) f.Protest f) (!((deadS e c (l.filter (filedB f.At)) f.Protest.Case).2&&decide (f.At<=(deadS e c (l.filter (filedB f.At)) f.Protest.Case).1))):=by
      unfold F_bc F_fo;refine Ea (Ea (Qin e c _ f.Protest.Case (by omega) he) ?_) (Qa _);exact Ea (Qw λ_=>Qa _) (Qa _)
     have b:Ev (λn=>F_cv n c (l.filter (filedB f.At)) f.Protest) (!standS e c (l.filter (filedB f.At)) f.Protest):=by
      unfold F_cv F_df;exact Ea (Ea (Qim e c _ f.Protest d he) (Qa _)) (Qa _)
     generalize((deadS e c (l.filter (filedB f.At)) f.Protest.Case).2&&decide (f.At<=(deadS e c (l.filter (filedB f.At)) f.Protest.Case).1))=u at a⊢;generalize standS e c (l.filter (filedB f.At)) f.Protest=v at b⊢;refine Ea (v:= !(u&&v)) (Ea (v:=bif u&&v then-1 else bif u then(3:Int)else 2) (Ea a ?_) ?_) ?_
     .cases u with
      |false=>exact Qa _
      |true=>
       refine Y7 (Ea b ?_);cases v<;>exact Qa _
     .cases u<;>cases v<;>exact Qa _
     .cases u<;>cases v<;>exact Qa _
theorem Qcp(e:Int)(c:Course)(l:List Fact)(f:Fact)(hl:l.length<=16)(he:Ev (λn=>F_h n c) e):Ev (λn=>F_m n c l f) (admS e c l f):=
 Qfj e c l f (by omega) (XW (VO ..) hl) he
def openM(e:Int)(c:Course)(l:List Fact)(m:List (Int×Bool))(f:Fact):List (Int×Bool):=bif Qo m f.Protest.Case false then m else bif openB e c l f then QO m f.Protest.Case true else m
def openF(e:Int)(c:Course)(l:List Fact):List Int:=YK ltI ((l.foldl (openM e c l) []).map Prod.fst)
theorem Qf7(f:Fact)(n:Nat):∀(a:List Fact) (b:Bool),Qci (F_gn n f) a b=some (.cont (b||a.any λg=>(g.Kind==10)&&decide (f.At<g.At)))
 |[],b=>by simp[Qci]
 |x::r,b=>by
  unfold Qci;have:F_gn n f b x=some (.cont (b||((x.Kind==10)&&decide (f.At<x.At)))):=by
   unfold F_gn;cases b<;>cases(x.Kind==10)<;>rfl
  rw[this];show Qci _ r _=_;rw[Qf7 f n r,List.any_cons,Bool.or_assoc]
theorem Qdp(e:Int)(c:Course)(l:List Fact):∀(r:List Fact) (m:List (Int×Bool)),(r.foldl (openM e c l) m).length<=m.length+r.length
 |[],m=>by simp
 |x::r,m=>by
  rw[XE];refine XW (Qdp e c l r _) ?_;have:(openM e c l m x).length<=m.length+1:=by
   unfold openM;have:=QhR m x.Protest.Case true;cases Qo m x.Protest.Case false with
   |true=>rw[Vq];omega
   |false=>
    rw[Vr];cases openB e c l x with
    |true=>exact this
    |false=>rw[Vr];omega
  rw[X2];omega
theorem Qn2(e:Int)(c:Course)(l:List Fact)(hl:l.length<=16)(he:Ev (λn=>F_h n c) e):Ev (λn=>F_w n c l) (openF e c l):=by
 unfold F_w openF F_dj;refine Ea (v:=l.foldl (openM e c l) []) ?_ ?_
 .refine QL l (openM e c l) [] (λm i=>(m,(i:Int))) (λm=>m) (by omega) rfl (λi f m ha _=>?_) ?_
  .unfold F_hj;simp only[ha.lt,Vq,ha.ix,XK,ha.nx];refine Ea (v:=openM e c l m f) ?_ (Qa _);refine Ea (v:=Qo m f.Protest.Case false|| !admS e c l f) (Et λ_=>Ea (Qcp e c l f hl he) (Qa _)) ?_;unfold openM openB;cases Qo m f.Protest.Case false with
   |true=>exact Qa _
   |false=>
    simp only[Bool.false_or,Vr];cases admS e c l f with
    |false=>exact Qa _
    |true=>
     simp only[Xh,Vr,VB];unfold F_v lateB;simp only[XK];refine Ea (Qfi l f.Protest.Case (by omega)) ?_;simp only[Qf7,Bool.false_or,XK];cases((about l f.Protest.Case).any λg=>(g.Kind==10)&&decide (f.At<g.At))<;>exact Qa _
  .unfold F_hj;simp only[Ju,Vr];exact Qa _
 simp only[XK];have a:=Qdp e c l l [];simp only[List.length_nil]at a;generalize l.foldl (openM e c l) []=m at a;refine Ea (v:=YK ltI (m.map Prod.fst)) ⟨0,λn _=>?_⟩ (Qa _);unfold F_ex Qlc;have b:(List.map Prod.fst m).length<=1048576:=by rw[X3];omega
 rw[Qb9 b,Vq];refine Qhi λp d=>?_;unfold sortI;rw[Qb9 (by rw[d.length_eq];exact b)];show some (YK ltI p)=_;rw[Qf5 d]
theorem Ql6(e:Int)(c:Course)(l:List Fact):(openF e c l).Pairwise (· < ·)/\ ∀k,k∈openF e c l↔ ∃f∈l,openB e c l f=true/\f.Protest.Case=k:=by
 have E:∀(r p:List Fact) (m:List (Int×Bool)),p++r=l->(m.map Prod.fst).Nodup->(∀k,YD m k≠some false)->(∀k,k∈m.map Prod.fst↔ ∃f∈p,openB e c l f=true/\f.Protest.Case=k)->
   ((r.foldl (openM e c l) m).map Prod.fst).Nodup/\ ∀k,k∈(r.foldl (openM e c l) m).map Prod.fst↔ ∃f∈l,openB e c l f=true/\f.Protest.Case=k:=by
  intro r
  induction r with
  |nil=>intro p m t i j u;rw[Vh]at t;subst t;exact⟨i,u⟩
  |cons f r B=>
   intro p m t i j u;rw[XE];have keep:(∀k,openB e c l f=true->f.Protest.Case=k->k∈m.map Prod.fst)->∀k,k∈m.map Prod.fst↔ ∃g∈p++[f],openB e c l g=true/\g.Protest.Case=k:=λG k=>by
    rw[u k];constructor
    .rintro⟨g,a,b⟩;exact⟨g,by simp[a],b⟩
    .rintro⟨g,a,b,d⟩;rcases VE.1 a with a|a
     .exact⟨g,a,b,d⟩
     .rw[VC.1 a]at b d;exact(u k).1 (G k b d)
   unfold openM;cases q:Qo m f.Protest.Case false with
   |true=>
    refine B (p++[f]) m (by rw[<- t];simp) i j (keep λk _ d=>?_);rw[Qbs]at q;rw[<- d];refine(Qbd m _).2 ?_;cases z:YD m f.Protest.Case with
    |none=>rw[z]at q;cases q
    |some v=>exact⟨v,rfl⟩
   |false=>
    rw[Vr];cases F:openB e c l f with
    |false=>exact B (p++[f]) m (by rw[<- t];simp) i j (keep λk b _=>by rw[F]at b;cases b)
    |true=>
     refine B (p++[f]) (QO m f.Protest.Case true) (by rw[<- t];simp) (Qcx _ _ i) (λk=>?_) λk=>?_
     .rw[YB];by_cases z:k=f.Protest.Case
      .rw[Vu z];intro y;cases y
      .rw[Vt z];exact j k
     .have H:k∈(QO m f.Protest.Case true).map Prod.fst↔k=f.Protest.Case\/k∈m.map Prod.fst:=by
       rw[Qbd,Qbd];constructor
       .rintro⟨v,w⟩;rw[YB]at w;by_cases z:k=f.Protest.Case
        .exact .inl z
        .rw[Vt z]at w;exact .inr ⟨v,w⟩
       .rintro(z|⟨v,w⟩)
        .exact⟨true,by rw[YB,Vu z]⟩
        .by_cases z:k=f.Protest.Case
         .exact⟨true,by rw[YB,Vu z]⟩
         .exact⟨v,by rw[YB,Vt z];exact w⟩
      rw[H,u k];constructor
      .rintro(rfl|⟨g,a,b⟩)
       .exact⟨f,by simp,F,rfl⟩
       .exact⟨g,by simp[a],b⟩
      .rintro⟨g,a,b,d⟩;rcases VE.1 a with a|a
       .exact .inr ⟨g,a,b,d⟩
       .rw[VC.1 a]at d;exact .inl d.symm
 obtain⟨i,j⟩:=E l [] [] (by simp) (by simp) (λk h=>by cases h) (λk=>by simp);unfold openF;generalize l.foldl (openM e c l) []=m at*;have p:=Ql ltI (m.map Prod.fst);refine⟨?_,λk=>by rw[p.mem_iff];exact j k⟩;have s:=QS (Qem (m.map Prod.fst));have n:(YK ltI (m.map Prod.fst)).Nodup:=p.nodup_iff.2 i;refine List.Pairwise.imp₂ (λx y a b=>?_) s n;have a:¬y<x:=Vx a;omega
theorem Qnp{α R:Type}{step:Nat->Int->Option (Ctl Int (Ctl Unit R))}(l:List α)(q:α->Bool)(v:α->R)(hl:l.length<=4611686018427387904)
  (g:∀i x,At l i x->Ev (λn=>step n (i:Int)) (bif q x then .done (.done (v x))else .cont ((i+1:Nat):Int)))(f:Ev (λn=>step n (l.length:Int)) (.done (.cont ()))):
  Ev (λn=>Go.Sw.iter (step n) n 0) ((l.find? q).elim (.cont ()) λx=>.done (v x)):=by
 have loop:∀(r:List α) (i:Nat),l.drop i=r->i<=l.length->EvI step (i:Int) ((r.find? q).elim (.cont ()) λx=>.done (v x)):=by
  intro r
  induction r with
  |nil=>
   intro i b j;have:i=l.length:=by have:=Xs.1 b;omega
   subst this;exact Ei f
  |cons x r e=>
   intro i b j;obtain⟨d,a⟩:=QJ hl b;have s:=g i x d;rw[List.find?_cons];cases h:q x with
   |true=>
    rw[h]at s;exact Ei s
   |false=>
    rw[h]at s;exact Ew s (e (i+1) a (by have:=d.lt';omega))
 exact(loop l 0 rfl (XV _)).ev
set_option maxRecDepth 100000
theorem QoJ:F_ey 300=some true:=by kernel_rfl
end Go.Sw
