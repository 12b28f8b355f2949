/- The plain laws that a law needs, with no program in sight. -/
import Derived.Test.YthihlfoplokmiaaGreatDoorW21Or
set_option linter.unusedVariables false
set_option linter.unusedSimpArgs false
namespace Go.Sw
def inR(lo hi x:Int):Bool:=decide (lo<=x)&&decide (x<=hi)
theorem Qgw(lo hi:Int)(l:List Int)(hl:l.length<=4611686018427387904):Ev (λn=>F_a n lo hi l) (l.all (inR lo hi)):=by
 have h:Ev (λn=>F_cn n l lo hi) (l.any λx=> !inR lo hi x):=by
  unfold F_cn F_di;refine Ev.contains l _ (λn x=>F_au n x lo hi) hl λx _=>?_;unfold F_au;refine Ea (v:= !inR lo hi x) ?_ (Qa _);refine(Eu λh=>Qa _).eq ?_;unfold inR;rw[XZ];simp
 unfold F_a;refine Ea h ((Qa _).eq ?_);rw[List.not_any_eq_all_not];simp
def okN(c:Nat):Bool:=(decide (97<=c)&&decide (c<=122))||(decide (48<=c)&&decide (c<=57))||decide (c=95)
def okAN(c:Nat):Bool:=decide (97<=c)&&decide (c<=122)
def okC(c:UInt8):Bool:=okN c.toNat
def okA(c:UInt8):Bool:=okAN c.toNat
def kwL:List (List UInt8):=[[99,111,117,114,115,101],[109,97,116,115],[115,116,97,114,116],[112,97,115,115],[101,110,100],[108,101,103],[116,111],[100,105,115,116,97,110,99,101],[103,117,110],[99,104,105,112],[115,108,111,116],[108,97,112,115],[108,97,112],[99,117,116,111,102,102],[101,120,116,114,97],[119,97,118,101],[111,102,102,101,110,99,101],[111,117,116],[99,97,116,101,103,111,114,121],[112,114,105,122,101],[97,108,108],[116,105,101,115],[105,102],[101,108,115,101],[97,110,100],[111,114],[110,111,116],[111,108,100,101,114],[121,111,117,110,103,101,114],[98,105,98],[100,114,97,119],[102,105,101,108,100],[115,104,111,114,116],[102,97,117,108,116,115],[109,105,115,115,101,115],[115,116,114,97,121,115],[119,105,110,100,111,119],[114,101,115,105,100,117,97,108],[100,114,105,102,116],[112,114,111,116,101,115,116],[102,101,101],[100,101,97,100,108,105,110,101]]
theorem Qnn(c d:Bool):(bif c then some c else some d)=some (c||d):=by cases c<;>rfl
def kwsOf:List UInt8->List (List UInt8)
 |[]=>[]
 |b::l=>(bif b==32&& !(l.dropWhile λc=>c != 32).isEmpty then[l.takeWhile λc=>c != 32]else[])++kwsOf l
theorem Qd7:∀(l s:List UInt8),(∀c∈s,c≠32)->(s++[32]).isPrefixOf l=((l.takeWhile λc=>c != 32)==s&& !(l.dropWhile λc=>c != 32).isEmpty)
 |[],s,h=>by cases s<;>simp
 |b::l,[],h=>by
  by_cases e:b=32
  .subst e;simp[List.isPrefixOf]
  .have e1:(b != 32)=true:=by simpa using e
   have a:(32==b)=false:=by simpa using λq=>e q.symm
   simp[List.isPrefixOf,List.takeWhile_cons,e1,a]
 |b::l,c::s,h=>by
  have i:=h c (by simp);have f:=Qd7 l s λd g=>h d (by simp[g]);by_cases e:b=32
  .subst e;have:(c==32)=false:=by simpa using i
   simp[List.isPrefixOf,this]
  .have e1:(b != 32)=true:=by simpa using e
   simp only[VL,List.isPrefixOf,List.takeWhile_cons,List.dropWhile_cons,e1,if_true,f,List.cons_beq_cons];by_cases q:c=b
   .subst q;simp
   .have j:(c==b)=false:=by simpa using q
    have k:(b==c)=false:=by simpa using λz=>q z.symm
    simp[j,k]
theorem contains_cons(b:UInt8)(l t:List UInt8)(d:t≠[]):Lib.contains (b::l) t=(t.isPrefixOf (b::l)||Lib.contains l t):=by
 unfold Lib.contains;rw[show Lib.index (b::l) t=if t.isPrefixOf (b::l)then 0 else if Lib.index l t== -1 then-1 else Lib.index l t+1 from rfl];cases h:t.isPrefixOf (b::l)with
 |true=>simp
 |false=>
  have:=Lib.index_ge l t;by_cases q:Lib.index l t= -1
  .simp[q]
  .have a:(Lib.index l t== -1)=false:=by simpa using q
   simp only[a,Bool.false_or];rw[XZ];simp;omega
theorem Qb0(s:List UInt8)(h:∀c∈s,c≠32):∀l,Lib.contains l (32::(s++[32]))=(kwsOf l).contains s
 |[]=>by simp[Lib.contains,Lib.index,kwsOf]
 |b::l=>by
  rw[contains_cons b l _ (by simp),Qb0 s h l];simp only[kwsOf,List.isPrefixOf,Qd7 l s h];by_cases e:b=32
  .subst e;cases q: !(l.dropWhile λc=>c != 32).isEmpty with
   |true=>
    simp only[q,beq_self_eq_true,VB,Bool.and_true,Vq,VL,Vi,List.contains_cons];congr 1;rw[XZ];simp only[Vz];exact⟨λh=>h.symm,λh=>h.symm⟩
   |false=>simp[q]
  .have e1:(b==32)=false:=by simpa using e
   have a:(32==b)=false:=by simpa using λq=>e q.symm
   simp[e1,a]
def wordsL:List UInt8:=[32,99,111,117,114,115,101,32,109,97,116,115,32,115,116,97,114,116,32,112,97,115,115,32,101,110,100,32,108,101,103,32,116,111,32,100,105,115,116,97,110,99,101,32,103,117,110,32,99,104,105,112,32,115,108,111,116,32,108,97,112,115,32,108,97,112,32,99,117,116,111,102,102,32,101,120,116,114,97,32,119,97,118,101,32,111,102,102,101,110,99,101,32,111,117,116,32,99,97,116,101,103,111,114,121,32,112,114,105,122,101,32,97,108,108,32,116,105,101,115,32,105,102,32,101,108,115,101,32,97,110,100,32,111,114,32,110,111,116,32,111,108,100,101,114,32,121,111,117,110,103,101,114,32,98,105,98,32,100,114,97,119,32,102,105,101,108,100,32,115,104,111,114,116,32,102,97,117,108,116,115,32,109,105,115,115,101,115,32,115,116,114,97,121,115,32,119,105,110,100,111,119,32,114,101,115,105,100,117,97,108,32,100,114,105,102,116,32,112,114,111,116,101,115,116,32,102,101,101,32,100,101,97,100,108,105,110,101,32]
theorem QpK:kwsOf wordsL=kwL:=by decide+kernel
def classTab:List Int:=(List.range 256).map λi=>if 97<=i/\i<=122\/65<=i/\i<=90 then 2 else if 48<=i/\i<=57 then 3 else if i∈[123,125,40,41,91,93,59,44,61,60,62]then 4 else if i∈[32,9,10,13]then 1 else 0
theorem QjS:Ev F_cl classTab:=by
 unfold F_cl;refine Ea (Qck (step:=F_dd 0) 40 (b:=(iter (F_dd 0) 40 (List.replicate 256 0,97)).getD []) (by decide+kernel)) ?_;refine Ea (Qck (step:=F_gm 0) 40 (b:=(iter (F_gm 0) 40 ((iter (F_dd 0) 40 (List.replicate 256 0,97)).getD [],48)).getD []) (by decide+kernel)) ?_;generalize hb:(iter (F_gm 0) 40 ((iter (F_dd 0) 40 (List.replicate 256 0,97)).getD [],48)).getD []=b2;refine Ea (Qck (step:=F_hb 0) 40 (b:=(iter (F_hb 0) 40 (b2,0)).getD []) (by subst hb;decide+kernel)) ?_;refine Ea (Qck (step:=F_hl 0) 40 (b:=classTab) (by subst hb;decide+kernel)) ?_;exact EB (by decide+kernel)
theorem QlB:((List.range 256).all λi=> !okN i||decide (classTab[i]?=some (if okAN i then 2 else if i=95 then 0 else 3)))=true:=by decide+kernel
theorem Qnm{c:UInt8}(h:okC c=true):Qes 256 classTab (c.toNat:Int)=some (if okA c then 2 else if c.toNat=95 then 0 else 3):=by
 have a:=Xt.1 QlB c.toNat (List.mem_range.2 c.toNat_lt);unfold okC at h;rw[h]at a;simp only[Xh,Bool.false_or,Vs]at a;unfold Qes;rw[show Nat.beq classTab.length 256=true by decide+kernel,Vq,YS a];rfl
def goodS(s:List UInt8):Bool:=decide (1<=s.length)&&decide (s.length<=24)&&(s.head?).any okA&&s.all okC
def isNameS(s:List UInt8):Bool:=goodS s&& !kwL.contains s
theorem Qlq(s:List UInt8)(h:goodS s=true):Ev (λn=>F_bp n s) true:=by
 unfold goodS at h;simp only[XX,Vs,Xt]at h;obtain⟨⟨⟨b,k⟩,g⟩,e⟩:=h;unfold F_bp;refine Ea QjS ?_;refine QaZ (v:=List.replicate 256 0) (by decide+kernel) ?_;refine QaZ (v:=classTab) (by decide+kernel) ?_;refine Ea (v:=Ctl.cont ()) (Ev.iter (λi=>(i:Int)) s.length rfl (λi f=>?_) ?_) ?_
 .have a:=JB (x:=s[i]) (by omega) (XL f);have j:=e _ a.mem;unfold F_gu;simp only[a.lt,Vq,a.ix,XK,Qnm j,a.nx];cases i with
  |zero=>
   have:okA s[0]=true:=by
    cases s with
    |nil=>simp at b
    |cons c r=>simpa using g
   simp[this];exact Qa _
  |succ i=>
   by_cases q:okA s[i+1]=true
   .simp[q];exact Qa _
   .by_cases d:s[i+1].toNat=95
    .simp[q,d];exact Qa _
    .simp[q,d];exact Qa _
 .unfold F_gu;simp only[Qav,Vr];exact Qa _
 .refine EB ?_;cases s with
  |nil=>simp at b
  |cons c r=>rfl
theorem Qll{s:List UInt8}(h:goodS s=true):∀c∈s,c≠32:=by
 unfold goodS at h;simp only[XX,Xt]at h;rintro c a rfl;exact absurd (h.2 _ a) (by decide)
theorem QmQ{s:List UInt8}(h:goodS s=true):s.length<=24:=by
 unfold goodS at h;simp only[XX,Vs]at h;exact h.1.1.2
theorem QjT(s:List UInt8)(h:goodS s=true):Ev (λn=>F_be n s) (kwL.contains s):=by
 unfold F_be;refine Ea (v:=kwL.contains s) ?_ (Qa _);refine Ea (Qlq s h) (QgS ?_);have a:=QmQ h;refine QaZ (v:=[32]++s) (by unfold cat;rw[XT (by simp;omega)];rfl) ?_;refine QaZ (v:=[32]++s++[32]) (by unfold cat;rw[XT (by simp;omega)];rfl) ?_;refine QaZ (v:=kwL.contains s) ?_ (Qa _);show Qfe wordsL ([32]++s++[32])=some (kwL.contains s);unfold Qfe;rw[show Nat.blt wordsL.length 4294967281=true by decide+kernel,Vq];rw[show[32]++s++[32]=32::(s++[32])by simp,Qb0 s (Qll h),QpK]
theorem ch_lt(c:UInt8)(k:Nat):decide ((c.toNat:Int)<(k:Int))=decide (c.toNat<k):=by
 rw[XZ];simp
theorem badC(c:UInt8):(bif decide ((c.toNat:Int)<97)then(bif decide ((c.toNat:Int)<48)then some ((c.toNat:Int) != 95)else(bif decide (57<(c.toNat:Int))then some ((c.toNat:Int) != 95)else some false))else(bif decide (122<(c.toNat:Int))then(bif decide ((c.toNat:Int)<48)then some ((c.toNat:Int) != 95)else(bif decide (57<(c.toNat:Int))then some ((c.toNat:Int) != 95)else some false))else some false))=some (!okC c):=by
 unfold okC okN;generalize c.toNat=k;have e:((k:Int) != 95)= !decide (k=95):=by
  by_cases h:k=95
  .subst h;rfl
  .rw[Vy h];simp;omega
 rw[e];by_cases g:k<48
 .rw[YT (show(k:Int)<97 by omega),YT (show(k:Int)<48 by omega)];have a:¬97<=k:=by omega
  have f:¬48<=k:=by omega
  simp[a,f]
 .rw[YK (show¬(k:Int)<48 by omega)];by_cases b:k<=57
  .rw[YT (show(k:Int)<97 by omega),YK (show¬57<(k:Int)by omega)];have a:48<=k:=by omega
   simp[a,b]
  .rw[YT (show 57<(k:Int)by omega)];by_cases i:k<97
   .rw[YT (show(k:Int)<97 by omega)];have a:¬97<=k:=by omega
    simp[a,b]
   .rw[YK (show¬(k:Int)<97 by omega)];by_cases d:k<=122
    .rw[YK (show¬122<(k:Int)by omega)];have a:97<=k:=by omega
     simp[a,d]
    .rw[YT (show 122<(k:Int)by omega)];simp[b,d]
theorem Qlg(n:Nat)(s:List UInt8):(bif decide ((s.length:Int)<1)then some true else(bif decide (24<(s.length:Int))then some true else(idx s 0).bind λx10=>(bif decide ((x10.toNat:Int)<97)then some true else(idx s 0).bind λx12=>some (decide (122<(x12.toNat:Int))))))=some (!(decide (1<=s.length)&&decide (s.length<=24)&&(s.head?).any okA)):=by
 cases s with
 |nil=>rfl
 |cons c r=>
  rw[YK (show¬((c::r).length:Int)<1 by simp;omega),Vr];by_cases h:(c::r).length<=24
  .rw[YK (show¬24<((c::r).length:Int)by omega),Vr];have d:idx (c::r) 0=some c:=rfl;simp only[d,XK];simp only[X2]at h;have a:r.length<=23:=by omega
   simp only[List.head?_cons,Option.any_some,okA,okAN];rw[show(97:Int)=((97:Nat):Int)from rfl,ch_lt];by_cases b:c.toNat<97
   .have:¬97<=c.toNat:=by omega
    simp[b,this]
   .have e:97<=c.toNat:=by omega
    simp[b,e,a];by_cases q:c.toNat<=122
    .rw[YK (show¬122<(c.toNat:Int)by omega),YT q];rfl
    .rw[YT (show 122<(c.toNat:Int)by omega),YK q];rfl
  .rw[YT (show 24<((c::r).length:Int)by omega),Vq];simp only[X2]at h;have a:¬r.length<=23:=by omega
   simp[a]
theorem QgA(s:List UInt8)(hl:s.length<=1048576):Ev (λn=>F_d n s) (isNameS s):=by
 unfold F_d;refine Ea (EB (Qlg 0 s)) ?_;unfold isNameS;cases d:(decide (1<=s.length)&&decide (s.length<=24)&&(s.head?).any okA)with
 |false=>
  simp only[Xi,Vq];have:goodS s=false:=by unfold goodS;rw[d];rfl
  rw[this];exact Qa _
 |true=>
  simp only[Xh,Vr];have f:goodS s=s.all okC:=by unfold goodS;rw[d];rfl
  refine Ea (Qb5 s (λc=> !okC c) (λi=>(i:Int)) (Ctl.done false) (Ctl.cont ()) (by omega) rfl (λi x a b=>?_) (λi x a b=>?_) ?_) ?_
  .unfold F_gn;simp only[a.lt,Vq,a.ix,XK,badC,b,Vr,a.nx];exact Qa _
  .unfold F_gn;simp only[a.lt,Vq,a.ix,XK,badC,b];exact Qa _
  .unfold F_gn;simp only[Qav,Vr];exact Qa _
  .rw[f];have e:s.any (λc=> !okC c)= !s.all okC:=by rw[List.not_all_eq_any_not]
   rw[e];cases q:s.all okC with
   |true=>
    simp only[Xh,Vr,VB];exact Ea (QjT s (f.trans q)) (Qa _)
   |false=>
    simp only[Xi,Vq,Bool.false_and];exact Qa _
def diffS:List (List UInt8)->List (List UInt8)->Bool
 |_,[]=>true
 |seen,x::r=>isNameS x&& !seen.contains x&&diffS (seen++[x]) r
theorem QjV(l:List (List UInt8))(i:Nat)(x:List UInt8)(h:At l i x):diffS (l.take i) (l.drop i)=(isNameS x&& !(l.take i).contains x&&diffS (l.take (i+1)) (l.drop (i+1))):=by
 rw[h.drop,h.take];rfl
theorem QbX{α:Type}(l:List α)(a:α->List UInt8)(g:Nat->α->Option Unit)(hg:∀n x,g n x=some ())(hl:l.length<=1048576)(p:∀x∈l,(a x).length<=1048576):
  Ev (λn=>((iter (λs:(List (List UInt8×Bool))×Int=>bif decide (s.2<(l.length:Int))then(idx l s.2).bind λx35=>(g n x35).bind λr36=>((F_d n (a x35)).bind λr42=>(bif (!r42)then some true else(some (Ql s.1 (a x35) false)).bind λv44=>some v44):Option Bool).bind λb40=>(bif b40 then some (.done (.done false))else(some (QX s.1 (a x35) true)).bind λm46=>some (.cont (m46,IntKind.i64.wrap (s.2+1))))else some (.done (.cont ()))) n ([],0):Option (Ctl Unit Bool)).bind λb28=>
   match b28 with
   |.cont _=>some true
   |.done s=>some s:Option Bool)) (diffS [] (l.map a)):=by
 have e:l.length<=4611686018427387904:=by omega
 have j:(l.map a).length<=4611686018427387904:=by simpa using e
 have f:=QhM (B:=Ctl Unit Bool) l (step:=λn s=>bif decide (s.2<(l.length:Int))then(idx l s.2).bind λx35=>(g n x35).bind λr36=>((F_d n (a x35)).bind λr42=>(bif (!r42)then some true else(some (Ql s.1 (a x35) false)).bind λv44=>some v44):Option Bool).bind λb40=>(bif b40 then some (.done (.done false))else(some (QX s.1 (a x35) true)).bind λm46=>some (.cont (m46,IntKind.i64.wrap (s.2+1))))else some (.done (.cont ())))
  (s0:=(([]:List (List UInt8×Bool)),(0:Int))) (λi=>(QY a true (l.take i),(i:Int))) (λi=>bif diffS ((l.map a).take i) ((l.map a).drop i)then .cont ()else .done false) e rfl (λi x d=>?_) ?_
 .refine Ea f ?_;simp only[List.take_zero,List.drop_zero];cases diffS [] (l.map a)<;>exact Qa _
 .have k:At (l.map a) i (a x):=JB j (by rw[Xq,d.get];rfl);simp only[QjV _ _ _ k];have b:Ev (λn=>((F_d n (a x)).bind λr42=>(bif (!r42)then some true else(some (Ql (QY a true (l.take i)) (a x) false)).bind λv44=>some v44):Option Bool)) (!(isNameS (a x)&& !((l.map a).take i).contains (a x))):=by
   refine Ea (QgA (a x) (p x d.mem)) ?_;cases isNameS (a x)with
   |false=>exact Qa _
   |true=>
    refine Jb ((Qa _).eq ?_);rw[Qap,List.map_take];by_cases h:a x∈(l.map a).take i
    .rw[Vu h];simp[h]
    .rw[Vt h];simp[h]
  cases m:(isNameS (a x)&& !((l.map a).take i).contains (a x))with
  |true=>
   rw[m]at b;refine .inl ⟨?_,by simp⟩;simp only[d.lt,Vq,d.ix,XK,hg];refine Ea b ?_;simp only[Xh,Vr,XK,d.nx];rw[d.take,QcY];exact Qa _
  |false=>
   rw[m]at b;refine .inr ?_;simp only[d.lt,Vq,d.ix,XK,hg];refine Ea b ?_;simp only[Xi,Vq,Bool.false_and,Vr];exact Qa _
 .simp only[Qav,Vr];rw[show(l.map a).drop l.length=[]by apply List.drop_eq_nil_of_le;simp];exact Qa _
theorem QpZ{α:Type}{l:List α}{x:α}(h:l.length<=140737488):app l [x]=some (l++[x]):=Qak l x (by omega)
theorem QgB{α β:Type}(l:List α)(f:α->β)(hl:l.length<=140737488):Ev (λn=>iter (λs:(List β)×Int=>bif decide (s.2<(l.length:Int))then(idx l s.2).bind λx15=>(app s.1 [f x15]).bind λl16=>some (Ctl.cont (l16,IntKind.i64.wrap (s.2+1)))else some (Ctl.done s.1)) n (([]:List β),(0:Int))) (l.map f):=by
 have e:∀l:List α,l.foldl (λ(a:List β) x=>a++[f x]) []=l.map f:=by
  intro l;have g:∀(l:List α) (a:List β),l.foldl (λ(a:List β) x=>a++[f x]) a=a++l.map f:=by
   intro l
   induction l with
   |nil=>intro a;simp
   |cons x l h=>intro a;rw[XE,h];simp
  simpa using g l []
 rw[<- e l];refine Q3 l (λ(a:List β) x=>a++[f x]) [] (λa i=>(a,(i:Int))) (λa=>a) (by omega) rfl (λi x a d b=>?_) ?_
 .rw[e]at b;have:a.length<=140737488:=by rw[b];simp;omega
  simp only[d.lt,Vq,d.ix,XK,QpZ this,d.nx];exact Qa _
 .simp only[Qav,Vr];exact Qa _
def namesS(c:Course):Bool:=isNameS c.Name&&(diffS [] (c.Mats.map (·.Name))&&(diffS [] (c.Distances.map (·.Name))&&(diffS [] (c.Waves.map (·.Name))&&(diffS [] (c.Offences.map (·.Name))&&diffS [] (c.Categories.map (·.Name))))))
structure CourseOk (c:Course):Prop where
 name:c.Name.length<=1048576
 mats:c.Mats.length<=1048576
 matsN:∀x∈c.Mats,x.Name.length<=1048576
 legs:c.Legs.length<=1048576
 dist:c.Distances.length<=1048576
 distN:∀x∈c.Distances,x.Name.length<=1048576
 cut:∀x∈c.Distances,x.Cutoffs.length<=1048576
 wave:c.Waves.length<=1048576
 waveN:∀x∈c.Waves,x.Name.length<=1048576
 off:c.Offences.length<=1048576
 offN:∀x∈c.Offences,x.Name.length<=1048576
 cat:c.Categories.length<=1048576
 catN:∀x∈c.Categories,x.Name.length<=1048576
 prize:c.Prizes.length<=1048576
theorem Qm5(c:Course)(w:CourseOk c):Ev (λn=>F_ch n c) (namesS c):=by
 unfold F_ch namesS;refine Ea (v:=_) ?_ (Qa _);refine Ea (QgA c.Name w.name) (Ei λ_=>?_);have e:Ev (λn=>F_bd n c.Mats) (diffS [] (c.Mats.map (·.Name))):=by unfold F_bd;exact QbX c.Mats (·.Name) F_fa (λ_ _=>rfl) w.mats w.matsN
 have b:Ev (λn=>F_cb n c.Distances) (diffS [] (c.Distances.map (·.Name))):=by unfold F_cb;exact QbX c.Distances (·.Name) F_ej (λ_ _=>rfl) w.dist w.distN
 have f:Ev (λn=>F_cc n c.Waves) (diffS [] (c.Waves.map (·.Name))):=by unfold F_cc;exact QbX c.Waves (·.Name) F_es (λ_ _=>rfl) w.wave w.waveN
 have a:Ev (λn=>F_ay n c.Offences) (diffS [] (c.Offences.map (·.Name))):=by unfold F_ay;exact QbX c.Offences (·.Name) F_ef (λ_ _=>rfl) w.off w.offN
 have d:Ev (λn=>F_bv n c.Categories) (diffS [] (c.Categories.map (·.Name))):=by unfold F_bv;exact QbX c.Categories (·.Name) F_ea (λ_ _=>rfl) w.cat w.catN
 refine Ea e (Ei λ_=>?_);refine Ea b (Ei λ_=>?_);refine Ea f (Ei λ_=>?_);refine Ea a (Ei λ_=>?_);exact Ea d (Qa _)
theorem QcP{n:Nat}(h:n<=1048576):IntKind.i64.wrap ((n:Int)-1)=(n:Int)-1:=Yr (by omega) (by omega)
mutual
def szP:Part->Nat
 |⟨_,_,ps⟩=>1+szPs ps
def szPs:List Part->Nat
 |[]=>0
 |p::r=>szP p+szPs r
end
theorem Qad(p:Part):szP p=1+szPs p.Parts:=by cases p;rfl
theorem Qbe{p:Part}:∀{l:List Part},p∈l->szP p<=szPs l
 |q::r,h=>by
  simp only[szPs];rcases X7.1 h with rfl|h
  .omega
  .have:=Qbe h;omega
mutual
def partS(k:Int):Part->Bool
 |⟨m,laps,ps⟩=>bif laps==0 then inR 0 k m&&((ps.length:Int)==0)else inR 1 64 laps&&((m==0)&&(decide (0<(ps.length:Int))&&partsS k ps))
def partsS(k:Int):List Part->Bool
 |[]=>true
 |p::r=>partS k p&&partsS k r
end
theorem Qe2(k:Int)(p:Part):partS k p=bif p.Laps==0 then inR 0 k p.Mat&&((p.Parts.length:Int)==0)else inR 1 64 p.Laps&&((p.Mat==0)&&(decide (0<(p.Parts.length:Int))&&partsS k p.Parts)):=by cases p;rfl
theorem Qdx(k:Int):∀l:List Part,partsS k l=l.all (partS k)
 |[]=>rfl
 |p::r=>by simp only[partsS,List.all_cons,Qdx k r]
theorem Ja{p:Part}(h:Part.wf p):p.Parts.length<=1048576/\ ∀x∈p.Parts,Part.wf x:=by
 cases p;simp only[Part.wf,Qdl]at h;exact h.2.2.1
theorem QB(lo hi x:Int):Ev (λn=>F_a n lo hi [x]) (inR lo hi x):=(Qgw lo hi [x] (by simp)).eq (by simp)
theorem QaS(lo hi x y:Int):Ev (λn=>F_a n lo hi [x,y]) (inR lo hi x&&inR lo hi y):=(Qgw lo hi [x,y] (by simp)).eq (by simp)
theorem Qm4(k:Int):∀(m:Nat) (l:List Part),szPs l<=m->l.length<=1048576->(∀x∈l,Part.wf x)->Ev (λn=>F_g n l k) (partsS k l):=by
 intro m
 induction m with
 |zero=>
  intro l d g b;cases l with
  |nil=>
   refine YP ?_;show Ev (λn=>B_g (F_g n) n [] k) _;unfold B_g F_bs F_cq;exact Je [] (partS k) (λn x=>F_at (F_g n) n x k) (by simp) (by simp)
  |cons p r=>
   exfalso;simp only[szPs,Qad]at d;omega
 |succ m e=>
  intro l d g b;refine YP ?_;show Ev (λn=>B_g (F_g n) n l k) _;unfold B_g F_bs F_cq;rw[Qdx];refine Je l (partS k) (λn x=>F_at (F_g n) n x k) (by omega) λp a=>?_;unfold F_at;rw[Qe2];have i:=Qbe a;rw[Qad]at i;obtain⟨f,h⟩:=Ja (b p a);refine Qb6 (λ_=>?_) (λ_=>?_)
  .exact Ea (Ea (QB _ _ _) (Ei λ_=>Qa _)) (Qa _)
  .exact Ea (Ea (QB _ _ _) (Ei λ_=>Ei λ_=>Ei λ_=>Ea (e p.Parts (by omega) f h) (Qa _))) (Qa _)
def legS(k:Int)(l:Leg):Bool:=(inR 0 k l.From&&inR 0 k l.To)&&((inR 0 68719476736 l.Min&&inR 0 68719476736 l.Max)&&decide (l.Min<=l.Max))
def cutS(k:Int)(x:Cutoff):Bool:=inR 0 k x.Mat&&(decide (1<=x.Lap)&&inR 0 1099511627776 x.Limit)
def distS(k:Int)(d:Distance):Bool:=inR 1 3 d.Timing&&(inR (-1) k d.Extra&&(partsS k d.Route&&d.Cutoffs.all (cutS k)))
def offS(o:Offence):Bool:=bif o.Out then(o.Time==0)&&(o.Laps==0)else bif o.Laps != 0 then(o.Time==0)&&inR 1 64 o.Laps else inR 0 68719476736 o.Time
def catS(x:Category):Bool:=(inR 0 120 x.From&&inR 0 120 x.To)&&decide (x.From<=x.To)
def prizeS(c:Course)(p:Prize):Bool:=inR 0 ((c.Distances.length:Int)-1) p.Distance&&(inR (-1) ((c.Categories.length:Int)-1) p.Category&&(inR 1 4000 p.Rank&&inR 1 1125899906842624 p.Amount))
def lastS(c:Course):Bool:=(inR 0 16 c.Faults.Misses&&inR 0 16 c.Faults.Strays)&&((inR 0 4294967296 c.Faults.Window&&inR 0 4294967296 c.Faults.Residual)&&(inR 0 100000 c.Faults.Drift&&(inR 0 1125899906842624 c.Fee&&inR 0 1099511627776 c.Deadline)))
def legKey(l:Leg):Ue:={from_:=l.From,to_:=l.To}
def prizeKey(p:Prize):Ug:={distance:=p.Distance,category:=p.Category,rank:=p.Rank}
def numbersS(c:Course):Bool:=
 let k:=(c.Mats.length:Int)-1
 c.Mats.all (λm=>inR 1 3 m.Kind)&&(c.Legs.all (legS k)&&(decide ((c.Legs.map legKey).Nodup)&&(c.Distances.all (distS k)&&(c.Waves.all (λw=>inR 0 1099511627776 w.Gun)&&(c.Offences.all offS&&(c.Categories.all catS&&(c.Prizes.all (prizeS c)&&(decide ((c.Prizes.map prizeKey).Nodup)&&lastS c))))))))
structure PartsOk (c:Course):Prop where
 len:∀d∈c.Distances,d.Route.length<=1048576
 wf:∀d∈c.Distances,∀x∈d.Route,Part.wf x
theorem Qhu(l:List Leg)(hl:l.length<=1048576):Ev (λn=>F_bq n l) (decide ((l.map legKey).Nodup)):=by
 unfold F_bq;refine Ea (QaH l legKey true (by omega) (λi x m a=>?_) (λm=>?_)) ((Qa _).eq ?_)
 .unfold F_hi F_dl;simp only[a.lt,Vq,a.ix,XK,a.nx];exact Qa _
 .unfold F_hi;simp only[Qav,Vr];exact Qa _
 .rw[XZ];simp only[Vz,Vs];have:=Qcp legKey true l;rw[<- this.2];omega
theorem Qfv(l:List Prize)(hl:l.length<=1048576):Ev (λn=>F_cv n l) (decide ((l.map prizeKey).Nodup)):=by
 unfold F_cv;refine Ea (QaH l prizeKey true (by omega) (λi x m a=>?_) (λm=>?_)) ((Qa _).eq ?_)
 .unfold F_hd F_fn;simp only[a.lt,Vq,a.ix,XK,a.nx];exact Qa _
 .unfold F_hd;simp only[Qav,Vr];exact Qa _
 .rw[XZ];simp only[Vz,Vs];have:=Qcp prizeKey true l;rw[<- this.2];omega
theorem QjO(c:Course)(w:CourseOk c)(q:PartsOk c):Ev (λn=>F_bw n c) (numbersS c):=by
 unfold F_bw numbersS;rw[QcP w.mats];refine Ea (v:=_) ?_ (Qa _);have j:Ev (λn=>F_bg n c.Mats) (c.Mats.all λm=>inR 1 3 m.Kind):=by
  unfold F_bg F_fl F_dw;refine Je c.Mats _ (λn x=>F_bz n x) (by have:=w.mats;omega) λx a=>?_;unfold F_bz;exact Ea (QB _ _ _) (Qa _)
 have d:Ev (λn=>F_az n c.Legs ((c.Mats.length:Int)-1)) (c.Legs.all (legS ((c.Mats.length:Int)-1))):=by
  unfold F_az F_eg F_dz;refine Je c.Legs _ (λn x=>F_cw n x _) (by have:=w.legs;omega) λx a=>?_;unfold F_cw;exact Ea (Ea (QaS _ _ _ _) (Ei λ_=>Ea (QaS _ _ _ _) (Ei λ_=>Qa _))) (Qa _)
 have b:Ev (λn=>F_ct n c.Distances ((c.Mats.length:Int)-1)) (c.Distances.all (distS ((c.Mats.length:Int)-1))):=by
  unfold F_ct F_fo F_ek;refine Je c.Distances _ (λn x=>F_bb n x _) (by have:=w.dist;omega) λx a=>?_;unfold F_bb;have h:Ev (λn=>F_ax n x.Cutoffs ((c.Mats.length:Int)-1)) (x.Cutoffs.all (cutS ((c.Mats.length:Int)-1))):=by
   unfold F_ax F_er F_fy;refine Je x.Cutoffs _ (λn x=>F_bt n x _) (by have:=w.cut x a;omega) λy k=>?_;unfold F_bt;exact Ea (Ea (QB _ _ _) (Ei λ_=>Ei λ_=>Ea (QB _ _ _) (Qa _))) (Qa _)
  exact Ea (Ea (QB _ _ _) (Ei λ_=>Ea (QB _ _ _) (Ei λ_=>Ea (Qm4 _ _ x.Route (XU _) (q.len x a) (q.wf x a)) (Ei λ_=>Ea h (Qa _))))) (Qa _)
 have g:Ev (λn=>F_cj n c.Waves) (c.Waves.all λw=>inR 0 1099511627776 w.Gun):=by
  unfold F_cj F_eh F_eo;refine Je c.Waves _ (λn x=>F_by n x) (by have:=w.wave;omega) λx a=>?_;unfold F_by;exact Ea (QB _ _ _) (Qa _)
 have f:Ev (λn=>F_ce n c.Offences) (c.Offences.all offS):=by
  unfold F_ce F_fg F_cz;refine Je c.Offences _ (λn x=>F_bu n x) (by have:=w.off;omega) λx a=>?_;unfold F_bu offS;refine Qb6 (λ_=>Ea (Ei λ_=>Qa _) (Qa _)) λ_=>Qb6 (λ_=>Ea (Ei λ_=>Ea (QB _ _ _) (Qa _)) (Qa _)) λ_=>Ea (QB _ _ _) (Qa _)
 have e:Ev (λn=>F_bx n c.Categories) (c.Categories.all catS):=by
  unfold F_bx F_dj F_fx;refine Je c.Categories _ (λn x=>F_co n x) (by have:=w.cat;omega) λx a=>?_;unfold F_co;exact Ea (Ea (QaS _ _ _ _) (Ei λ_=>Qa _)) (Qa _)
 have i:Ev (λn=>F_cx n c.Prizes c) (c.Prizes.all (prizeS c)):=by
  unfold F_cx F_dr F_ee;refine Je c.Prizes _ (λn x=>F_aw n x c) (by have:=w.prize;omega) λx a=>?_;unfold F_aw;rw[QcP w.dist,QcP w.cat];exact Ea (Ea (QB _ _ _) (Ei λ_=>Ea (QB _ _ _) (Ei λ_=>Ea (QB _ _ _) (Ei λ_=>Ea (QB _ _ _) (Qa _))))) (Qa _)
 refine Ea j (Ei λ_=>Ea d (Ei λ_=>Ea (Qhu _ w.legs) (Ei λ_=>Ea b (Ei λ_=>Ea g (Ei λ_=>Ea f (Ei λ_=>Ea e (Ei λ_=>Ea i (Ei λ_=>Ea (Qfv _ w.prize) (Ei λ_=>?_)))))))));exact Ea (QaS _ _ _ _) (Ei λ_=>Ea (QaS _ _ _ _) (Ei λ_=>Ea (QB _ _ _) (Ei λ_=>Ea (QB _ _ _) (Ei λ_=>Ea (QB _ _ _) (Qa _)))))
theorem ends_eq{a b a' d:Int}:(({from_:=a,to_:=b}:Ue)={from_:=a',to_:=d})↔a=a'/\b=d:=by simp
theorem QdY{α B:Type}{step:Nat->Int->Option (Ctl Int B)}(l:List α)(ok:α->Bool)(a b:B)(hl:l.length<=4611686018427387904)
  (g:∀i x,At l i x->Ev (λn=>step n (i:Int)) (bif ok x then .cont ((i+1:Nat):Int)else .done a))(j:Ev (λn=>step n (l.length:Int)) (.done b)):
  Ev (λn=>Go.Sw.iter (step n) n 0) (bif l.all ok then b else a):=by
 have e:(bif l.all ok then b else a)=bif l.any (λx=> !ok x)then a else b:=by
  rw[<- List.not_all_eq_any_not];cases l.all ok<;>rfl
 rw[e];refine Qb5 l (λx=> !ok x) (λi=>(i:Int)) a b hl rfl (λi x d f=>?_) (λi x d f=>?_) j
 .have h:ok x=true:=by simpa using f
  have:=g i x d
  rwa [h]at this
 .have h:ok x=false:=by simpa using f
  have:=g i x d
  rwa [h]at this
mutual
def cN:Cond->Nat
 |⟨_,_,_,ps⟩=>1+cNs ps
def cNs:List Cond->Nat
 |[]=>0
 |c::r=>cN c+cNs r
end
theorem QgI(c:Cond):cN c=1+cNs c.Parts:=by cases c;rfl
mutual
def cD:Nat->Cond->Bool
 |d,⟨_,_,_,ps⟩=>cDs d ps
def cDs:Nat->List Cond->Bool
 |_,[]=>true
 |d,c::r=>decide (d<=16)&&(cD (d+1) c&&cDs d r)
end
theorem cD_eq(d:Nat)(c:Cond):cD d c=cDs d c.Parts:=by cases c;rfl
def zeroC(c:Cond):Bool:=(c.Kind==0)&&((c.Var==0)&&((c.N==0)&&((c.Parts.length:Int)==0)))
mutual
def sNp:Step->Nat
 |⟨_,_,_,t,e⟩=>1+sNs t+sNs e
def sNs:List Step->Nat
 |[]=>0
 |s::r=>sNp s+sNs r
end
theorem Qks(s:Step):sNp s=1+sNs s.Then+sNs s.Else:=by cases s;rfl
mutual
def sC:Step->Nat
 |⟨_,_,c,t,e⟩=>(bif zeroC c then 0 else cN c)+sCs t+sCs e
def sCs:List Step->Nat
 |[]=>0
 |s::r=>sC s+sCs r
end
theorem Qkt(s:Step):sC s=(bif zeroC s.Cond then 0 else cN s.Cond)+sCs s.Then+sCs s.Else:=by cases s;rfl
mutual
def sDp:Nat->Step->Bool
 |d,⟨_,_,c,t,e⟩=>(zeroC c||cD 1 c)&&(sDs d t&&sDs d e)
def sDs:Nat->List Step->Bool
 |_,[]=>true
 |d,s::r=>decide (d<=16)&&(sDp (d+1) s&&sDs d r)
end
theorem QoP(d:Nat)(s:Step):sDp d s=((zeroC s.Cond||cD 1 s.Cond)&&(sDs d s.Then&&sDs d s.Else)):=by cases s;rfl
mutual
def sZ:Step->Nat
 |⟨_,_,c,t,e⟩=>2+cN c+sZs t+sZs e
def sZs:List Step->Nat
 |[]=>0
 |s::r=>sZ s+sZs r
end
theorem Qkr(s:Step):sZ s=2+cN s.Cond+sZs s.Then+sZs s.Else:=by cases s;rfl
def fS:Uf->Nat
 |.ctyping_step x=>sNp x.Step
 |.ctyping_cond _=>0
def fC:Uf->Nat
 |.ctyping_step x=>sC x.Step
 |.ctyping_cond x=>cN x.Cond
def fD(d:Nat):Uf->Bool
 |.ctyping_step x=>sDp d x.Step
 |.ctyping_cond x=>cD d x.Cond
def fZ:Uf->Nat
 |.ctyping_step x=>sZ x.Step
 |.ctyping_cond x=>cN x.Cond
def fSs(l:List Uf):Nat:=(l.map fS).sum
def fCs(l:List Uf):Nat:=(l.map fC).sum
def fZs(l:List Uf):Nat:=(l.map fZ).sum
def fwf:Uf->Prop
 |.ctyping_step x=>Step.wf x.Step
 |.ctyping_cond x=>Cond.wf x.Cond
def ofStep(s:Step):Uf:=.ctyping_step {Step:=s}
def ofCond(c:Cond):Uf:=.ctyping_cond {Cond:=c}
theorem Qbm:∀l:List Step,fSs (l.map ofStep)=sNs l
 |[]=>rfl
 |s::r=>by
  have:=Qbm r;simp only[fSs,Vk,List.sum_cons]at this⊢;rw[this];rfl
theorem Qbn:∀l:List Step,fCs (l.map ofStep)=sCs l
 |[]=>rfl
 |s::r=>by
  have:=Qbn r;simp only[fCs,Vk,List.sum_cons]at this⊢;rw[this];rfl
theorem QbW:∀l:List Step,fZs (l.map ofStep)=sZs l
 |[]=>rfl
 |s::r=>by
  have:=QbW r;simp only[fZs,Vk,List.sum_cons]at this⊢;rw[this];rfl
theorem Qfr:∀l:List Cond,fSs (l.map ofCond)=0
 |[]=>rfl
 |s::r=>by
  have:=Qfr r;simp only[fSs,Vk,List.sum_cons]at this⊢;rw[this];rfl
theorem Qft:∀l:List Cond,fCs (l.map ofCond)=cNs l
 |[]=>rfl
 |s::r=>by
  have:=Qft r;simp only[fCs,Vk,List.sum_cons]at this⊢;rw[this];rfl
theorem Qfp:∀l:List Cond,fZs (l.map ofCond)=cNs l
 |[]=>rfl
 |s::r=>by
  have:=Qfp r;simp only[fZs,Vk,List.sum_cons]at this⊢;rw[this];rfl
theorem Qc7(d:Nat):∀l:List Step,sDs d l=((l.map ofStep).isEmpty||(decide (d<=16)&&(l.map ofStep).all (fD (d+1))))
 |[]=>rfl
 |s::r=>by
  rw[sDs,Qc7 d r];simp only[Vk,List.isEmpty_cons,Bool.false_or,List.all_cons];rw[show fD (d+1) (ofStep s)=sDp (d+1) s from rfl];cases r with
  |nil=>simp
  |cons x r=>
   simp only[Vk,List.isEmpty_cons,Bool.false_or,List.all_cons];cases decide (d<=16)<;>simp
theorem QiC(d:Nat):∀l:List Cond,cDs d l=((l.map ofCond).isEmpty||(decide (d<=16)&&(l.map ofCond).all (fD (d+1))))
 |[]=>rfl
 |s::r=>by
  rw[cDs,QiC d r];simp only[Vk,List.isEmpty_cons,Bool.false_or,List.all_cons];rw[show fD (d+1) (ofCond s)=cD (d+1) s from rfl];cases r with
  |nil=>simp
  |cons x r=>
   simp only[Vk,List.isEmpty_cons,Bool.false_or,List.all_cons];cases decide (d<=16)<;>simp
theorem Qam{c:Cond}(h:Cond.wf c):c.Parts.length<=1048576/\ ∀x∈c.Parts,Cond.wf x:=by
 cases c;simp only[Cond.wf,Qdo]at h;exact h.2.2.2.1
theorem Qal{s:Step}(h:Step.wf s):Cond.wf s.Cond/\(s.Then.length<=1048576/\ ∀x∈s.Then,Step.wf x)/\(s.Else.length<=1048576/\ ∀x∈s.Else,Step.wf x):=by
 cases s;simp only[Step.wf,Qde]at h;exact⟨h.2.2.1,h.2.2.2.1,h.2.2.2.2.1⟩
theorem Qgz(n:Nat)(c:Cond):F_y n {Cond:=c}=some (zeroC c):=by
 unfold F_y zeroC;cases(c.Kind==0)<;>cases(c.Var==0)<;>cases(c.N==0)<;>rfl
theorem Qfu(l:List Step)(hl:l.length<=140737488):Ev (λn=>F_aa n l) (l.map ofStep):=by
 unfold F_aa;exact Ea (QgB l ofStep hl) (Qa _)
theorem Qnb(l:List Cond)(hl:l.length<=140737488):Ev (λn=>F_bk n l) (l.map ofCond):=by
 unfold F_bk;exact Ea (QgB l ofCond hl) (Qa _)
def stepParts(s:Step):List Uf:=s.Then.map ofStep++s.Else.map ofStep
theorem QbB(s:Step)(h:Step.wf s):Ev (λn=>F_r n {Step:=s}) (stepParts s):=by
 obtain⟨_,⟨b,_⟩,⟨a,_⟩⟩:=Qal h;unfold F_r stepParts;refine Ea (Qfu s.Then (by omega)) (Ea (Qfu s.Else (by omega)) (QaZ (QiS _ _ (by simp;omega)) (Qa _)))
theorem Qc8(c:Cond)(h:Cond.wf c):Ev (λn=>F_q n {Cond:=c}) (c.Parts.map ofCond):=by
 obtain⟨a,_⟩:=Qam h;unfold F_q;exact Ea (Qnb c.Parts (by omega)) (Qa _)
def okL(l:List Uf)(d:Nat)(st co:Int):Bool:=l.isEmpty||(decide (d<=16)&&(l.all (fD (d+1))&&(decide (st+fSs l<=64)&&decide (co+fCs l<=256))))
def okR(l:List Uf)(d:Nat)(st co:Int):Bool:=l.isEmpty||(l.all (fD (d+1))&&(decide (st+fSs l<=64)&&decide (co+fCs l<=256)))
def okF(f:Uf)(d:Nat)(st co:Int):Bool:=fD (d+1) f&&(decide (st+fS f<=64)&&decide (co+fC f<=256))
theorem QiB(f:Uf)(l:List Uf):fSs (f::l)=fS f+fSs l:=rfl
theorem QiD(f:Uf)(l:List Uf):fCs (f::l)=fC f+fCs l:=rfl
theorem QiA(f:Uf)(l:List Uf):fZs (f::l)=fZ f+fZs l:=rfl
theorem Qfq(l m:List Uf):fSs (l++m)=fSs l+fSs m:=by simp[fSs]
theorem Qfs(l m:List Uf):fCs (l++m)=fCs l+fCs m:=by simp[fCs]
theorem Qfo(l m:List Uf):fZs (l++m)=fZs l+fZs m:=by simp[fZs]
theorem Qmz(f:Uf)(r:List Uf)(d:Nat)(st a:Int):okR (f::r) d st a=(okF f d st a&&okR r d (st+fS f) (a+fC f)):=by
 unfold okR okF;rw[QiB,QiD];cases r with
 |nil=>simp[fSs,fCs]
 |cons g r=>
  rw[XZ];simp only[List.isEmpty_cons,Bool.false_or,List.all_cons,XX,Vs];rw[show((fS f+fSs (g::r):Nat):Int)=(fS f:Int)+(fSs (g::r):Int)by omega,show((fC f+fCs (g::r):Nat):Int)=(fC f:Int)+(fCs (g::r):Int)by omega];constructor
  .rintro⟨⟨b,e⟩,i,h⟩;exact⟨⟨b,by omega,by omega⟩,e,by omega,by omega⟩
  .rintro⟨⟨b,_,_⟩,e,i,h⟩;exact⟨⟨b,e⟩,by omega,by omega⟩
theorem Qha(l:List Uf)(d:Nat)(st g:Int)(i:st<=64)(h:g<=256):okL l d st g=true↔(l.isEmpty||(decide (d<=16)&&l.all (fD (d+1))))=true/\st+fSs l<=64/\g+fCs l<=256:=by
 unfold okL;cases l with
 |nil=>simp[fSs,fCs,i,h]
 |cons f r=>
  simp only[List.isEmpty_cons,Bool.false_or,XX,Vs];constructor
  .rintro⟨a,b,c,e⟩;exact⟨⟨a,b⟩,c,e⟩
  .rintro⟨⟨a,b⟩,c,e⟩;exact⟨a,b,c,e⟩
theorem QeN(s:Step)(d:Nat):((stepParts s).isEmpty||(decide (d<=16)&&(stepParts s).all (fD (d+1))))=(sDs d s.Then&&sDs d s.Else):=by
 rw[Qc7,Qc7];unfold stepParts;rw[List.all_append];cases b:s.Then<;>cases a:s.Else<;>simp<;>(cases decide (d<=16)<;>simp)
def Cnt(R:Nat->List Uf->Int->Ud->Option (Ud×Bool))(l:List Uf)(d:Nat)(st co:Int):Prop:=
 ∃c':Ud,Ev (λn=>R n l (d:Int) {steps:=st,conds:=co}) (c',okL l d st co)/\(okL l d st co=true->c'={steps:=st+fSs l,conds:=co+fCs l})
theorem QjW{R:Nat->List Uf->Int->Ud->Option (Ud×Bool)}{l:List Uf}{d:Nat}(hd:d<=16){i:Nat}{f:Uf}(W:At l i f)(hw:fwf f)
  (O:∀l' d' st a,fZs l'<fZ f->l'.length<=2097152->(∀f∈l',fwf f)->d'<=17->0<=st->st<=66->(st<=65\/ ∀f∈l',∃c,f=ofCond c)->0<=a->a<=256->Cnt R l' d' st a){st a:Int}(h0:0<=st)(ab:st<=66)(F:st<=65\/ ∃c,f=ofCond c)(h2:0<=a)(h3:a<=256):
  ∃c':Ud,Ev (λn=>F_ds n l (d:Int) (R n) ({steps:=st,conds:=a},(i:Int))) (bif okF f d st a then .cont (c',((i+1:Nat):Int))else .done (.done (c',false)))/\(okF f d st a=true->c'={steps:=st+fS f,conds:=a+fC f}):=by
 unfold F_ds;simp only[W.lt,Vq,W.ix,XK,W.nx];have ed:IntKind.i64.wrap ((d:Int)+1)=((d+1:Nat):Int):=YB (by omega);cases f with
 |ctyping_step x=>
  obtain⟨s⟩:=x;have h1:st<=65:=by
   rcases F with h|⟨c,h⟩
   .exact h
   .cases h
  have j:Step.wf s:=hw;obtain⟨wc,⟨ac,M⟩,⟨aa,L⟩⟩:=Qal j;have e1:IntKind.i64.wrap (st+1)=st+1:=Yr (by omega) (by omega);simp only[Uf.elim,Qgz,XK,e1];have hc:∃r:Ud,Ev (λn=>((bif (!zeroC s.Cond)then(R n [Uf.ctyping_cond {Cond:=s.Cond}] 0 {steps:=st+1,conds:=a}).bind λk=>some (k.1,(!k.2))else some ({steps:=st+1,conds:=a},false)):Option (Ud×Bool))) (r, !(zeroC s.Cond||(cD 1 s.Cond&&(decide (st+1<=64)&&decide (a+cN s.Cond<=256)))))/\
    ((zeroC s.Cond||(cD 1 s.Cond&&(decide (st+1<=64)&&decide (a+cN s.Cond<=256))))=true->r={steps:=st+1,conds:=a+((bif zeroC s.Cond then 0 else cN s.Cond:Nat):Int)}):=by
   cases z:zeroC s.Cond with
   |true=>
    refine⟨{steps:=st+1,conds:=a},?_,λ_=>?_⟩
    .exact Qa _
    .simp
   |false=>
    obtain⟨r,m,G⟩:=O [ofCond s.Cond] 0 (st+1) a (by simp only[fZs,Vk,Vl,List.sum_cons,List.sum_nil];show cN s.Cond+0<sZ s;rw[Qkr];omega) (by simp) (by intro g e;simp only[VC]at e;subst e;exact wc) (by omega) (by omega) (by omega) (.inr (by intro g e;simp only[VC]at e;exact⟨_,e⟩)) h2 h3;have ek:okL [ofCond s.Cond] 0 (st+1) a=(cD 1 s.Cond&&(decide (st+1<=64)&&decide (a+cN s.Cond<=256))):=by
     unfold okL;simp only[List.isEmpty_cons,Bool.false_or,List.all_cons,List.all_nil,Bool.and_true,fSs,fCs,Vk,Vl,List.sum_cons,List.sum_nil];rw[show fD (0+1) (ofCond s.Cond)=cD 1 s.Cond from rfl,show fS (ofCond s.Cond)=0 from rfl,show fC (ofCond s.Cond)=cN s.Cond from rfl];simp
    rw[ek]at m G;refine⟨r,Ea m (Qa _),λh=>?_⟩;rw[G h];simp[fSs,fCs,show fS (ofCond s.Cond)=0 from rfl,show fC (ofCond s.Cond)=cN s.Cond from rfl]
  obtain⟨r,m,G⟩:=hc;generalize hb:(zeroC s.Cond||(cD 1 s.Cond&&(decide (st+1<=64)&&decide (a+cN s.Cond<=256))))=b at m G;have Q:okF (Uf.ctyping_step {Step:=s}) d st a=(sDp (d+1) s&&(decide (st+sNp s<=64)&&decide (a+sC s<=256))):=rfl;rw[Q];cases b with
  |false=>
   have:(sDp (d+1) s&&(decide (st+sNp s<=64)&&decide (a+sC s<=256)))=false:=by
    rw[VN];intro hh;simp only[XX,Vs,QoP,Qks,Qkt]at hh;obtain⟨⟨H,_⟩,z2,z3⟩:=hh;cases z:zeroC s.Cond with
    |true=>rw[z]at hb;cases hb
    |false=>
     rw[z]at hb H z3;simp only[Bool.false_or]at hb H;rw[H]at hb;simp only[Vr]at z3;rw[YT (show st+1<=64 by omega),YT (show a+(cN s.Cond:Int)<=256 by omega)]at hb;cases hb
   rw[this];exact⟨r,Ea m (Qa _),λh=>by cases h⟩
  |true=>
   obtain rfl:=G rfl;by_cases p:64<st+1
   .have:(sDp (d+1) s&&(decide (st+sNp s<=64)&&decide (a+sC s<=256)))=false:=by
     rw[YK (show¬st+(sNp s:Int)<=64 by rw[Qks];omega)];simp
    rw[this];refine⟨{steps:=st+1,conds:=a+((bif zeroC s.Cond then 0 else cN s.Cond:Nat):Int)},Ea m ?_,λh=>by cases h⟩;simp only[Xh,Vr];refine Ea (v:=(_,true)) ?_ (Qa _);rw[YT p];exact Qa _
   by_cases w:256<a+((bif zeroC s.Cond then 0 else cN s.Cond:Nat):Int)
   .have:(sDp (d+1) s&&(decide (st+sNp s<=64)&&decide (a+sC s<=256)))=false:=by
     rw[YK (show¬a+(sC s:Int)<=256 by rw[Qkt];omega)];simp
    rw[this];refine⟨{steps:=st+1,conds:=a+((bif zeroC s.Cond then 0 else cN s.Cond:Nat):Int)},Ea m ?_,λh=>by cases h⟩;simp only[Xh,Vr];refine Ea (v:=(_,true)) ?_ (Qa _);rw[YK p,YT w];exact Qa _
   obtain⟨u,E,B⟩:=O (stepParts s) (d+1) (st+1) (a+((bif zeroC s.Cond then 0 else cN s.Cond:Nat):Int)) (by
     unfold stepParts;rw[Qfo,QbW,QbW];show _<sZ s;rw[Qkr];omega) (by unfold stepParts;simp;omega) (by
     intro g e;unfold stepParts at e;rcases VE.1 e with e|e
     .obtain⟨y,t,rfl⟩:=Xf.1 e;exact M y t
     .obtain⟨y,t,rfl⟩:=Xf.1 e;exact L y t) (by omega) (by omega) (by omega) (.inl (by omega)) (by omega) (by omega)
   have T:okL (stepParts s) (d+1) (st+1) (a+((bif zeroC s.Cond then 0 else cN s.Cond:Nat):Int))=(sDp (d+1) s&&(decide (st+sNp s<=64)&&decide (a+sC s<=256))):=by
    rw[XZ,Qha _ _ _ _ (by omega) (by omega),QeN];simp only[XX,Vs,QoP,Qks,Qkt];have J:fSs (stepParts s)=sNs s.Then+sNs s.Else:=by unfold stepParts;rw[Qfq,Qbm,Qbm]
    have V:fCs (stepParts s)=sCs s.Then+sCs s.Else:=by unfold stepParts;rw[Qfs,Qbn,Qbn]
    rw[J,V];have N:(zeroC s.Cond||cD 1 s.Cond)=true:=by
     cases z:zeroC s.Cond with
     |true=>rfl
     |false=>
      rw[z]at hb;simp only[Bool.false_or,XX]at hb;rw[hb.1];rfl
    constructor
    .rintro⟨q,Y,X⟩;exact⟨⟨N,q⟩,by omega,by omega⟩
    .rintro⟨⟨_,q⟩,Y,X⟩;exact⟨q,by omega,by omega⟩
   rw[T]at E B;refine⟨u,Ea m ?_,λh=>?_⟩
   .simp only[Xh,Vr];refine Ea (v:=(u, !(sDp (d+1) s&&(decide (st+sNp s<=64)&&decide (a+sC s<=256))))) ?_ ?_
    .rw[YK p,YK w,ed];exact Ea (QbB s j) (Ea E (Qa _))
    .cases(sDp (d+1) s&&(decide (st+sNp s<=64)&&decide (a+sC s<=256)))<;>exact Qa _
   .rw[B h];have J:fSs (stepParts s)=sNs s.Then+sNs s.Else:=by unfold stepParts;rw[Qfq,Qbm,Qbm]
    have V:fCs (stepParts s)=sCs s.Then+sCs s.Else:=by unfold stepParts;rw[Qfs,Qbn,Qbn]
    rw[J,V,show fS (Uf.ctyping_step {Step:=s})=sNp s from rfl,show fC (Uf.ctyping_step {Step:=s})=sC s from rfl,Qks,Qkt];congr 1<;>omega
 |ctyping_cond x=>
  obtain⟨c⟩:=x;have j:Cond.wf c:=hw;obtain⟨ae,P⟩:=Qam j;have e1:IntKind.i64.wrap (a+1)=a+1:=Yr (by omega) (by omega);simp only[Uf.elim,e1];have Q:okF (Uf.ctyping_cond {Cond:=c}) d st a=(cD (d+1) c&&(decide (st<=64)&&decide (a+cN c<=256))):=by
   show(cD (d+1) c&&(decide (st+((0:Nat):Int)<=64)&&decide (a+cN c<=256)))=_;rw[show st+((0:Nat):Int)=st by omega]
  rw[Q];by_cases p:64<st
  .have:(cD (d+1) c&&(decide (st<=64)&&decide (a+cN c<=256)))=false:=by
    rw[YK (show¬st<=64 by omega)];simp
   rw[this];refine⟨{steps:=st,conds:=a+1},?_,λh=>by cases h⟩;refine Ea (v:=(_,true)) ?_ (Qa _);rw[YT p];exact Qa _
  by_cases w:256<a+1
  .have:(cD (d+1) c&&(decide (st<=64)&&decide (a+cN c<=256)))=false:=by
    rw[YK (show¬a+(cN c:Int)<=256 by rw[QgI];omega)];simp
   rw[this];refine⟨{steps:=st,conds:=a+1},?_,λh=>by cases h⟩;refine Ea (v:=(_,true)) ?_ (Qa _);rw[YK p,YT w];exact Qa _
  obtain⟨u,E,B⟩:=O (c.Parts.map ofCond) (d+1) st (a+1) (by
    rw[Qfp];show _<cN c;rw[QgI];omega) (by simp;omega) (by
    intro g e;obtain⟨y,t,rfl⟩:=Xf.1 e;exact P y t) (by omega) (by omega) (by omega) (.inl (by omega)) (by omega) (by omega)
  have T:okL (c.Parts.map ofCond) (d+1) st (a+1)=(cD (d+1) c&&(decide (st<=64)&&decide (a+cN c<=256))):=by
   rw[XZ,Qha _ _ _ _ (by omega) (by omega), <- QiC,Qfr,Qft];simp only[XX,Vs,cD_eq,QgI];constructor
   .rintro⟨q,Y,X⟩;exact⟨q,by omega,by omega⟩
   .rintro⟨q,Y,X⟩;exact⟨q,by omega,by omega⟩
  rw[T]at E B;refine⟨u,?_,λh=>?_⟩
  .refine Ea (v:=(u, !(cD (d+1) c&&(decide (st<=64)&&decide (a+cN c<=256))))) ?_ ?_
   .rw[YK p,YK w,ed];exact Ea (Qc8 c j) (Ea E (Qa _))
   .cases(cD (d+1) c&&(decide (st<=64)&&decide (a+cN c<=256)))<;>exact Qa _
  .rw[B h,Qfr,Qft,show fS (Uf.ctyping_cond {Cond:=c})=0 from rfl,show fC (Uf.ctyping_cond {Cond:=c})=cN c from rfl,QgI];congr 1;omega
theorem Qna:∀(m:Nat) (l:List Uf) (d:Nat) (st a:Int),fZs l<=m->l.length<=2097152->(∀f∈l,fwf f)->d<=17->0<=st->st<=66->(st<=65\/ ∀f∈l,∃c,f=ofCond c)->0<=a->a<=256->Cnt F_e l d st a:=by
 intro m
 induction m using Nat.strongRecOn with
 |_ m u=>
 intro l d st a hm hl hw hd h0 h1 q Q h3;unfold Cnt;have F:∀c:Ud,(∃b:Ud,Ev (λn=>B_e (F_e n) n l (d:Int) c) (b,okL l d st a)/\(okL l d st a=true->b={steps:=st+fSs l,conds:=a+fCs l}))->∃b:Ud,Ev (λn=>F_e n l (d:Int) c) (b,okL l d st a)/\(okL l d st a=true->b={steps:=st+fSs l,conds:=a+fCs l}):=by
  rintro c ⟨b,Y,q2⟩;exact⟨b,YP Y,q2⟩
 refine F _ ?_;unfold B_e;cases g:l with
 |nil=>
  refine⟨{steps:=st,conds:=a},?_,λ_=>by simp[fSs,fCs]⟩;refine Ea (v:=false) (Qa _) (Jb ?_);refine Ea (v:=Ctl.cont {steps:=st,conds:=a}) (EvI.ev (Ej ?_)) (Qa _);exact Qa _
 |cons f0 r0=>
 rw[<- g];have t:l.isEmpty=false:=by rw[g];rfl
 have L:0<l.length:=by rw[g];simp
 by_cases e:d<=16
 rotate_left
 .have:okL l d st a=false:=by unfold okL;rw[t,YK e];rfl
  rw[this];refine⟨{steps:=st,conds:=a},?_,λh=>by cases h⟩;rw[YT (show(0:Int)<(l.length:Int)by omega),YT (show(16:Int)<(d:Int)by omega)];exact Ea (Qa _) (Qa _)
 have G:okL l d st a=okR l d st a:=by unfold okL okR;rw[YT e,VB]
 rw[G];have loop:∀(r:List Uf) (i:Nat) (st a:Int),l.drop i=r->i<=l.length->0<=st->st<=66->(st<=65\/ ∀f∈l,∃c,f=ofCond c)->0<=a->a<=256->
   ∃b:Ud,EvI (λn=>F_ds n l (d:Int) (F_e n)) ({steps:=st,conds:=a},(i:Int)) (bif okR r d st a then Ctl.cont b else Ctl.done (b,false))/\(okR r d st a=true->b={steps:=st+fSs r,conds:=a+fCs r}):=by
  intro r
  induction r with
  |nil=>
   intro i st a y J _ _ _ _ _;refine⟨{steps:=st,conds:=a},Ej ?_,λ_=>by simp[fSs,fCs]⟩;unfold F_ds;simp only[Yw y J,Vr];exact Qa _
  |cons f r w=>
   intro i st a y J O g1 B X P;obtain⟨p,s⟩:=QI (by omega) y;have M:fZ f<=fZs l:=by
    have:∀(l:List Uf),f∈l->fZ f<=fZs l:=by
     intro l
     induction l with
     |nil=>intro h;cases h
     |cons x l u=>
      intro h;rw[QiA];rcases X7.1 h with rfl|h
      .omega
      .have:=u h;omega
    exact this l p.mem
   obtain⟨b,k,E⟩:=QjW (R:=F_e) e p (hw f p.mem) (λH W st a k1 k2 k3 k4 T k6 z V k8=>u (fZs H) (by omega) H W st a (XU _) k2 k3 k4 T k6 z V k8) O g1 (B.imp id λh=>h f p.mem) X P;rw[Qmz];cases j:okF f d st a with
   |false=>
    rw[j]at k;exact⟨b,Ej k,λh=>by cases h⟩
   |true=>
    rw[j]at k;obtain rfl:=E j;have hb:st+fS f<=64/\a+fC f<=256:=by
     unfold okF at j;simp only[XX,Vs]at j;exact j.2
    obtain⟨c2,N,u2⟩:=w (i+1) (st+fS f) (a+fC f) s (by have:=p.lt';omega) (by omega) (by omega) (.inl (by omega)) (by omega) (by omega);refine⟨c2,Ex k N,λh=>?_⟩;rw[u2 (by simpa using h),QiB,QiD];congr 1<;>omega
 obtain⟨b,k,E⟩:=loop l 0 st a rfl (XV _) h0 h1 q Q h3;refine⟨b,?_,E⟩;refine Ea (v:=false) ?_ (Jb (Ea k.ev ?_))
 .rw[YT (show(0:Int)<(l.length:Int)by omega),YK (show¬(16:Int)<(d:Int)by omega)];exact Qa _
 .cases okR l d st a<;>exact Qa _
mutual
def vaC:Cond->Bool
 |⟨k,v,n,ps⟩=>bif k==1 then inR 1 3 v&&(inR 0 10000 n&&((ps.length:Int)==0))else
   bif k==4 then((v==0)&&(n==0))&&(((ps.length:Int)==1)&&vaCs ps)else
   bif (k==2)||(k==3)then((v==0)&&(n==0))&&((decide (0<(ps.length:Int))&&decide ((ps.length:Int)<=16))&&vaCs ps)else false
def vaCs:List Cond->Bool
 |[]=>true
 |c::r=>vaC c&&vaCs r
end
theorem Qpc(c:Cond):vaC c=bif c.Kind==1 then inR 1 3 c.Var&&(inR 0 10000 c.N&&((c.Parts.length:Int)==0))else
   bif c.Kind==4 then((c.Var==0)&&(c.N==0))&&(((c.Parts.length:Int)==1)&&vaCs c.Parts)else
   bif (c.Kind==2)||(c.Kind==3)then((c.Var==0)&&(c.N==0))&&((decide (0<(c.Parts.length:Int))&&decide ((c.Parts.length:Int)<=16))&&vaCs c.Parts)else false:=by cases c;rfl
theorem Qkj:∀l:List Cond,vaCs l=l.all vaC
 |[]=>rfl
 |c::r=>by rw[vaCs,List.all_cons,Qkj r]
mutual
def vaS:Step->Bool
 |⟨k,b,c,t,e⟩=>bif k==1 then inR 1 5 b&&(zeroC c&&(((t.length:Int)==0)&&((e.length:Int)==0)))else
   bif k==2 then(b==0)&&(vaC c&&(decide (0<(t.length:Int))&&(vaSs t&&vaSs e)))else false
def vaSs:List Step->Bool
 |[]=>true
 |s::r=>vaS s&&vaSs r
end
theorem Qpb(s:Step):vaS s=bif s.Kind==1 then inR 1 5 s.By&&(zeroC s.Cond&&(((s.Then.length:Int)==0)&&((s.Else.length:Int)==0)))else
   bif s.Kind==2 then(s.By==0)&&(vaC s.Cond&&(decide (0<(s.Then.length:Int))&&(vaSs s.Then&&vaSs s.Else)))else false:=by cases s;rfl
theorem Qki:∀l:List Step,vaSs l=l.all vaS
 |[]=>rfl
 |c::r=>by rw[vaSs,List.all_cons,Qki r]
def fV:Uf->Bool
 |.ctyping_step x=>vaS x.Step
 |.ctyping_cond x=>vaC x.Cond
theorem Qj0(l:List Cond):(l.map ofCond).any (λf=> !fV f)= !vaCs l:=by
 rw[Qkj,List.not_all_eq_any_not,List.any_map];rfl
theorem QcJ(l:List Step):(l.map ofStep).any (λf=> !fV f)= !vaSs l:=by
 rw[Qki,List.not_all_eq_any_not,List.any_map];rfl
theorem Qgx{R:Nat->List Uf->Option Bool}(c:Cond)(j:Cond.wf c)(h:Ev (λn=>R n (c.Parts.map ofCond)) (!vaCs c.Parts)):
  Ev (λn=>F_bj (R n) n {Cond:=c}) (vaC c):=by
 unfold F_bj;rw[Qpc];refine Ea (v:=(c.Var==0)&&(c.N==0)) (Ei λ_=>Qa _) ?_;refine Qb6 (λ_=>?_) (λm=>?_)
 .exact Ea (Ea (QB _ _ _) (Ei λ_=>Ea (QB _ _ _) (Ei λ_=>Qa _))) (Qa _)
 .have fin:∀b:Bool,Ev (λn=>((bif b then(F_q n {Cond:=c}).bind λf=>(R n f).bind λd=>some (!d)else some false):Option Bool).bind λg=>some g) (b&&vaCs c.Parts):=by
   intro b;refine Ea ((Ei λ_=>Ea (Qc8 c j) (Ea h (Qa _)))) ((Qa _).eq (by simp))
  cases k:(c.Kind==4)with
  |true=>
   simp only[Vq];cases i:((c.Var==0)&&(c.N==0))with
   |true=>
    refine Ea (v:=Ctl.cont ((c.Parts.length:Int)==1)) (Qa _) ((fin _).eq (by simp))
   |false=>
    refine Ea (v:=Ctl.cont false) (Qa _) ((fin _).eq (by simp))
  |false=>
   simp only[Vr];cases a:((c.Kind==2)||(c.Kind==3))with
   |true=>
    simp only[Vq];have e:Ev (λn:Nat=>((bif (c.Kind==2)then some (c.Kind==2)else some (c.Kind==3)):Option Bool)) true:=by
     refine EB ?_;rw[Qnn,a]
    cases i:((c.Var==0)&&(c.N==0))with
    |true=>
     cases l:decide (0<(c.Parts.length:Int))with
     |true=>
      refine Ea (v:=Ctl.cont (decide ((c.Parts.length:Int)<=16))) (Ea e (Qa _)) ((fin _).eq (by simp))
     |false=>
      refine Ea (v:=Ctl.cont false) (Ea e (Qa _)) ((fin _).eq (by simp))
    |false=>
     refine Ea (v:=Ctl.cont false) (Ea e (Qa _)) ((fin _).eq (by simp))
   |false=>
    have e:Ev (λn:Nat=>((bif (c.Kind==2)then some (c.Kind==2)else some (c.Kind==3)):Option Bool)) false:=by
     refine EB ?_;rw[Qnn,a]
    refine Ea (v:=Ctl.done false) (Ea e (Qa _)) (Qa _)
theorem QjQ:∀(m:Nat) (l:List Uf),fZs l<=m->l.length<=2097152->(∀f∈l,fwf f)->Ev (λn=>F_m n l) (l.any λf=> !fV f):=by
 intro m
 induction m using Nat.strongRecOn with
 |_ m e=>
 intro l F H t;refine YP ?_;show Ev (λn=>B_m (F_m n) n l) _;unfold B_m F_fj;refine Ev.contains l _ (λn f=>F_bh (F_m n) n f) (by omega) λf q=>?_;have w:fZ f<=fZs l:=by
  have:∀(l:List Uf),f∈l->fZ f<=fZs l:=by
   intro l
   induction l with
   |nil=>intro h;cases h
   |cons x l e=>
    intro h;rw[QiA];rcases X7.1 h with rfl|h
    .omega
    .have:=e h;omega
  exact this l q
 unfold F_bh;refine Ea (v:=fV f) ?_ (Qa _);have a:∀c:Cond,Cond.wf c->cNs c.Parts<fZ f->Ev (λn=>F_m n (c.Parts.map ofCond)) (!vaCs c.Parts):=by
  intro c j i;rw[<- Qj0];obtain⟨G,z⟩:=Qam j;refine e (fZs (c.Parts.map ofCond)) (by rw[Qfp];omega) _ (XU _) (by simp;omega) ?_;intro g b;obtain⟨y,d,rfl⟩:=Xf.1 b;exact z y d
 cases f with
 |ctyping_cond x=>
  obtain⟨c⟩:=x;have j:Cond.wf c:=t _ q;exact Qgx (R:=F_m) c j (a c j (by show cNs c.Parts<cN c;rw[QgI];omega))
 |ctyping_step x=>
  obtain⟨s⟩:=x;have i:Step.wf s:=t _ q;obtain⟨r,⟨B,p⟩,⟨u,k⟩⟩:=Qal i;unfold F_fv;show Ev _ (vaS s);rw[Qpb];simp only[Uf.elim];refine Qb6 (λ_=>?_) (λJ=>Qb6 (λ_=>?_) λ_=>Qa _)
  .refine Ea (Ea (QB _ _ _) (Ei λ_=>?_)) (Qa _);simp only[Qgz,XK];refine Ei λ_=>Ea (QbB s i) ((Qa _).eq ?_);unfold stepParts;rw[XZ];simp only[Vz,XX,X4,X3];omega
  .refine Ea (Ei λ_=>?_) (Qa _);refine Ea (Qgx (R:=F_m) s.Cond r (a s.Cond r (by show _<sZ s;rw[Qkr,QgI];omega))) (Ei λ_=>Ei λ_=>?_);refine Ea (QbB s i) (Ea (e (fZs (stepParts s)) ?_ _ (XU _) (by unfold stepParts;simp;omega) ?_) ((Qa _).eq ?_))
   .have:fZs (stepParts s)<sZ s:=by
     unfold stepParts;rw[Qfo,QbW,QbW,Qkr];omega
    have E:fZ (Uf.ctyping_step {Step:=s})=sZ s:=rfl;omega
   .intro g b;unfold stepParts at b;rcases VE.1 b with b|b
    .obtain⟨y,d,rfl⟩:=Xf.1 b;exact p y d
    .obtain⟨y,d,rfl⟩:=Xf.1 b;exact k y d
   .unfold stepParts;rw[List.any_append,QcJ,QcJ];simp
def goodT(l:List Step):Bool:=sDs 0 l&&(decide (sNs l<=64)&&decide (sCs l<=256))
def tiesE(l:List Step):Int:=bif goodT l then(bif l.isEmpty|| !vaSs l then 71 else 0)else 2
theorem QmA(l:List Step):okL (l.map ofStep) 0 0 0=goodT l:=by
 rw[XZ,Qha _ _ _ _ (by omega) (by omega), <- Qc7,Qbm,Qbn];unfold goodT;simp only[XX,Vs];constructor
 .rintro⟨a,b,c⟩;exact⟨a,by omega,by omega⟩
 .rintro⟨a,b,c⟩;exact⟨a,by omega,by omega⟩
theorem Qou(l:List Step)(hl:l.length<=1048576)(j:∀x∈l,Step.wf x):Ev (λn=>F_bn n l) (tiesE l):=by
 unfold F_bn;refine Ea (Qfu l (by omega)) (Ea (v:=tiesE l) ?_ (Qa _));have a:∀f∈l.map ofStep,fwf f:=by
  intro g k;obtain⟨y,h,rfl⟩:=Xf.1 k;exact j y h
 obtain⟨d,b,m⟩:=Qna _ (l.map ofStep) 0 0 0 (XU _) (by simp;omega) a (by omega) (by omega) (by omega) (.inl (by omega)) (by omega) (by omega);rw[QmA]at b;unfold F_dv;have i:Ev (λn=>F_ez n (l.map ofStep) 0 {steps:=0,conds:=0}) (d,goodT l):=b.shift;refine Ea i ?_;unfold tiesE;cases goodT l with
 |false=>exact Qa _
 |true=>
  simp only[Xh,Vr,Vq];have e:(((l.map ofStep).length:Int)==0)=l.isEmpty:=by
   cases l<;>simp;omega
  rw[e];refine Ea (Eu λ_=>Ea (QjQ _ _ (XU _) (by simp;omega) a) (Qa _)) ?_;rw[QcJ];cases(l.isEmpty|| !vaSs l)<;>exact Qa _
mutual
def hP:Part->Nat
 |⟨_,_,ps⟩=>bif ps.isEmpty then 0 else 1+hPs ps
def hPs:List Part->Nat
 |[]=>0
 |p::r=>max (hP p) (hPs r)
end
theorem Qo1(p:Part):hP p=bif p.Parts.isEmpty then 0 else 1+hPs p.Parts:=by cases p;rfl
theorem QkF{p:Part}:∀{l:List Part},p∈l->hP p<=hPs l
 |q::r,h=>by
  simp only[hPs];rcases X7.1 h with rfl|h
  .omega
  .have:=QkF h;omega
theorem Qii{α:Type}(l:List α):((l.length:Int)==0)=l.isEmpty:=by
 cases l<;>simp;omega
theorem Qan:∀l:List Part,l.length<=szPs l
 |[]=>XU _
 |p::r=>by have:=Qan r;rw[szPs,Qad,X2];omega
theorem Qm9:∀(m:Nat) (l:List Part) (k:Nat),szPs l<=m->hPs l<=k->k<=17->szPs l<=256->(∀x∈l,Part.wf x)->Ev (λn=>F_c n l (k:Int)) ((hPs l:Int),(szPs l:Int)):=by
 intro m
 induction m using Nat.strongRecOn with
 |_ m E=>
 intro l k P R s q G;have w:=Qan l;refine YP ?_;show Ev (λn=>B_c (F_c n) n l (k:Int)) _;unfold B_c;have loop:∀(r:List Part) (i:Nat) (a b:Nat),l.drop i=r->i<=l.length->a<=17->b+(szPs r-r.length)<=256->EvI (λn=>F_ac n l (k:Int) (F_c n)) ((a:Int),(b:Int),(i:Int)) (((max a (hPs r):Nat):Int),((b+(szPs r-r.length):Nat):Int)):=by
  intro r
  induction r with
  |nil=>
   intro i a b h u _ _;refine Ej ?_;unfold F_ac;simp only[Yw h u,Vr,XK];refine(Qa _).eq ?_;simp[hPs,szPs]
  |cons p r g=>
   intro i a b h u H f;obtain⟨d,e⟩:=QI (by omega) h;obtain⟨Q,z⟩:=Ja (G p d.mem);have L:=Qbe d.mem;have j:=QkF d.mem;rw[Qad]at L;have B:=Qan r;rw[szPs,Qad,X2]at f;have step:Ev (λn=>F_ac n l (k:Int) (F_c n) ((a:Int),(b:Int),(i:Int))) (.cont (((max a (hP p):Nat):Int),((b+szPs p.Parts:Nat):Int),((i+1:Nat):Int))):=by
    unfold F_ac;simp only[d.lt,Vq,d.ix,XK,d.nx,Qii];rw[Qo1]at j⊢;cases t:p.Parts.isEmpty with
    |true=>
     have F:p.Parts=[]:=by simpa using t
     simp only[Vq,XK];rw[F];simp only[szPs,Xx,Nat.max_zero];exact Qa _
    |false=>
     rw[t]at j;simp only[Vr]at j⊢;have J:0<k:=by omega
     have O:IntKind.i64.wrap ((k:Int)-1)=((k-1:Nat):Int):=by rw[Yr (by omega) (by omega)];omega
     have y:((k:Int)==0)=false:=beq_false_of_ne (by omega);rw[y,YK (show¬(256:Int)<(b:Int)by omega),O];simp only[Vr,XK];refine Ea (Ea (E (szPs p.Parts) (by omega) p.Parts (k-1) (XU _) (by omega) (by omega) (by omega) z) (Qa _)) ((Qa _).eq ?_);have M:IntKind.i64.wrap ((hPs p.Parts:Int)+1)=((hPs p.Parts+1:Nat):Int):=YB (by omega);have N:IntKind.i64.wrap ((b:Int)+(szPs p.Parts:Int))=((b+szPs p.Parts:Nat):Int):=by rw[Yr (by omega) (by omega)];omega
     simp only[M,N];congr 2;split<;>omega
   refine(Ex step (g (i+1) _ _ e (by have:=d.lt';omega) (by omega) (by omega))).eq ?_;rw[hPs,szPs,Qad,X2];congr 1<;>omega
 refine Ea ((loop l 0 0 l.length rfl (XV _) (by omega) (by omega)).ev) ((Qa _).eq ?_);congr 1<;>omega
def repS:Nat->List Int->List Int->List Int
 |0,out,_=>out
 |k+1,out,lap=>if 256<out.length then out else repS k (out++lap) lap
mutual
def lapS:Part->List Int
 |⟨m,laps,ps⟩=>bif decide (0<laps)then expS [] ps else[m]
def expS:List Int->List Part->List Int
 |out,[]=>out
 |out,p::r=>expS (repS (p.Laps.toNat+(bif decide (0<p.Laps)then 0 else 1)) out (lapS p)) r
end
theorem Qez(p:Part):lapS p=bif decide (0<p.Laps)then expS [] p.Parts else[p.Mat]:=by cases p;rfl
theorem QeZ{k:Nat}{a b:List Int}(h:256<a.length):repS k a b=a:=by
 cases k with
 |zero=>rfl
 |succ k=>rw[repS,Vu h]
theorem QiF:∀(l:List Part) {out:List Int},256<out.length->expS out l=out
 |[],out,h=>by rw[expS]
 |p::r,out,h=>by rw[expS,QeZ h];exact QiF r h
theorem QeY:∀(k:Nat) (out lap:List Int),(repS k out lap).length<=max out.length (256+lap.length)
 |0,out,lap=>by rw[repS];omega
 |k+1,out,lap=>by
  rw[repS];split
  .omega
  .have:=QeY k (out++lap) lap;rw[X4]at this;omega
theorem QiE:∀(m:Nat) (l:List Part) (a:List Int),szPs l<=m->(expS a l).length<=max a.length (256+257*szPs l):=by
 intro m
 induction m using Nat.strongRecOn with
 |_ m i=>
 intro l;have b:∀p∈l,szPs l<=m->(lapS p).length<=257*szP p:=by
  intro p d h;have k:=Qbe d;rw[Qez,Qad]at*;cases decide (0<p.Laps)with
  |true=>
   have:=i (szPs p.Parts) (by omega) p.Parts [] (XU _);simp only[Vq,List.length_nil]at this⊢;omega
  |false=>simp;omega
 have f:∀(r:List Part) (a:List Int),(∀p∈r,(lapS p).length<=257*szP p)->(expS a r).length<=max a.length (256+257*szPs r):=by
  intro r
  induction r with
  |nil=>intro a _;rw[expS];omega
  |cons p r e=>
   intro a g;rw[expS,szPs];have s:=e (repS (p.Laps.toNat+(bif decide (0<p.Laps)then 0 else 1)) a (lapS p)) λq j=>g q (by simp[j]);have n:=QeY (p.Laps.toNat+(bif decide (0<p.Laps)then 0 else 1)) a (lapS p);have t:=g p (by simp);omega
 intro a h;exact f l a λp d=>b p d h
theorem QmJ(p:Part):(lapS p).length<=257*szP p:=by
 rw[Qez,Qad];cases decide (0<p.Laps)with
 |true=>
  have:=QiE _ p.Parts [] (XU _);simp only[Vq,List.length_nil]at this⊢;omega
 |false=>simp;omega
theorem Qls(Y:Int):∀(m:Nat) (l:List Part),szPs l<=m->szPs l<=256->l.length<=1048576->(∀x∈l,Part.wf x)->partsS Y l=true->Ev (λn=>F_o n l) (expS [] l):=by
 intro m
 induction m using Nat.strongRecOn with
 |_ m X=>
 intro l hm N hl hw T;rw[Qdx,Xt]at T;refine YP ?_;show Ev (λn=>B_o (F_o n) n l) _;unfold B_o;have inner:∀(p:Part) (e:List Int) (g:p.Laps=0\/0<p.Laps/\p.Laps<=64) (z:e.length<=100000) (j:Nat) (k:Nat) (a:List Int),j+k=p.Laps.toNat+(bif decide (0<p.Laps)then 0 else 1)->a.length<=200000->
   ∃d:Ctl (List Int) (Ctl ((List Int)×Int) (Ctl (List Int) (List Int))),EvI (λn=>F_fk n p e) (a,(j:Int)) d/\
    (d=.cont (repS k a e)\/(256<(repS k a e).length/\d=.done (.done (.done (repS k a e))))):=by
  intro p e g z j k
  induction k generalizing j with
  |zero=>
   intro a f _;refine⟨_,Ej (b:=.cont a) ?_,.inl rfl⟩;unfold F_fk;have:¬((j:Int)<if p.Laps<1 then 1 else p.Laps):=by
    rcases g with h|⟨h,O⟩
    .rw[h]at f⊢;simp at f⊢;omega
    .rw[YT h]at f;simp at f;rw[Vt (by omega)];omega
   rw[YK this];exact Qa _
  |succ k M=>
   intro a f E;have t:((j:Int)<if p.Laps<1 then 1 else p.Laps):=by
    rcases g with h|⟨h,O⟩
    .rw[h]at f⊢;simp at f⊢;omega
    .rw[YT h]at f;simp at f;rw[Vt (by omega)];omega
   have P:j<=64:=by
    rcases g with h|⟨h,O⟩
    .rw[h]at f;simp at f;omega
    .rw[YT h]at f;simp at f;omega
   by_cases s:256<a.length
   .refine⟨_,Ej (b:=.done (.done (.done a))) ?_,.inr ⟨by rw[QeZ s];exact s,by rw[QeZ s]⟩⟩;unfold F_fk;rw[YT t,YT (show(256:Int)<(a.length:Int)by omega)];exact Qa _
   .obtain⟨d,w,B⟩:=M (j+1) (a++e) (by omega) (by rw[X4];omega);refine⟨d,Ex ?_ w,by rw[repS,Vt s];exact B⟩;unfold F_fk;rw[YT t,YK (show¬(256:Int)<(a.length:Int)by omega)];refine QgS (Jb (QaZ (QiS a e (by omega)) ?_));rw[YB (by omega)];exact Qa _
 have loop:∀(r:List Part) (i:Nat) (a:List Int),l.drop i=r->i<=l.length->a.length<=100000->
   ∃d:Ctl (List Int) (List Int),EvI (λn=>F_fs n l (F_o n)) (a,(i:Int)) d/\(d=.cont (expS a r)\/d=.done (expS a r)):=by
  intro r
  induction r with
  |nil=>
   intro i a L Q _;refine⟨.cont a,Ej ?_,.inl (by rw[expS])⟩;unfold F_fs;simp only[Yw L Q,Vr];exact Qa _
  |cons p r J=>
   intro i a L Q E;obtain⟨q,G⟩:=QI (by omega) L;have t:=q.lt';have hs:=Qbe q.mem;obtain⟨w1,V⟩:=Ja (hw p q.mem);have g:=T p q.mem;rw[Qe2]at g;have u:p.Laps=0\/0<p.Laps/\p.Laps<=64:=by
    cases R:(p.Laps==0)with
    |true=>exact .inl (by simpa using R)
    |false=>
     rw[R]at g;simp only[Vr,inR,XX,Vs]at g;exact .inr ⟨by omega,by omega⟩
   have aa:=QmJ p;have s:Ev (λn=>((bif decide (0<p.Laps)then(F_o n p.Parts).bind λH=>some H else some [p.Mat]):Option (List Int))) (lapS p):=by
    rw[Qez];refine Qb6 (λh=>?_) (λ_=>Qa _);rw[Qad]at hs;refine Ea (X (szPs p.Parts) (by omega) p.Parts (XU _) (by omega) w1 V ?_) (Qa _);have:(p.Laps==0)=false:=by
     simp only[Vs]at h;exact beq_false_of_ne (by omega)
    rw[this]at g;simp only[Vr,XX]at g;exact g.2.2.2
   obtain⟨d,w,B⟩:=inner p (lapS p) u (by omega) 0 _ a (Xw _) (by omega);rw[expS];rcases B with rfl|⟨y,rfl⟩
   .obtain⟨F,W,q2⟩:=J (i+1) (repS (p.Laps.toNat+(bif decide (0<p.Laps)then 0 else 1)) a (lapS p)) G (by omega) (by
     have:=QeY (p.Laps.toNat+(bif decide (0<p.Laps)then 0 else 1)) a (lapS p);omega)
    refine⟨F,Ex ?_ W,q2⟩;unfold F_fs;simp only[q.lt,Vq,q.ix,XK,q.nx];exact Ea s (Ea w.ev (Qa _))
   .refine⟨.done (repS (p.Laps.toNat+(bif decide (0<p.Laps)then 0 else 1)) a (lapS p)),Ej ?_,.inr (by rw[QiF r y])⟩;unfold F_fs;simp only[q.lt,Vq,q.ix,XK,q.nx];exact Ea s (Ea w.ev (Qa _))
 obtain⟨d,w,B⟩:=loop l 0 [] rfl (XV _) (by simp);rcases B with rfl|rfl
 .exact Ea w.ev (Qa _)
 .exact Ea w.ev (Qa _)
def kindAt(c:Course)(m:Int):Int:=((c.Mats[m.toNat]?).map (·.Kind)).getD 0
def hasLeg(c:Course)(a b:Int):Bool:=c.Legs.any λl=>(l.From==a)&&(l.To==b)
def rokS(c:Course)(len:Nat):Nat->Int->List Int->Bool
 |_,_,[]=>true
 |i,prev,m::r=>((kindAt c m==1)==decide (i=0))&&(((kindAt c m==3)==decide (i+1=len))&&((decide (i=0)||hasLeg c prev m)&&rokS c len (i+1) m r))
def routeR(c:Course)(d:Distance)(r:List Int):Bool:=
 (decide (2<=r.length)&&decide (r.length<=256))&&(rokS c r.length 0 0 r&&((bif decide (0<=d.Extra)then !((r.count d.Extra:Int)==0)&&((kindAt c d.Extra==2)&&hasLeg c d.Extra d.Extra)else true)&&d.Cutoffs.all λx=>decide (x.Lap<=(r.count x.Mat:Int))))
def routeS(c:Course)(d:Distance):Bool:=routeR c d (expS [] d.Route)
def cntM(l:List Int):List (Int×Int):=l.foldl (λm k=>QX m k (Ql m k 0+1)) []
theorem QlA(l:List Int)(k:Int):cntM (l++[k])=QX (cntM l) k (Ql (cntM l) k 0+1):=by unfold cntM;rw[XD];rfl
theorem QfF(l:List Int)(k:Int):Ql (cntM l) k 0=(l.count k:Int):=by
 have a:∀(l:List Int) (m:List (Int×Int)),Ql (l.foldl (λm k=>QX m k (Ql m k 0+1)) m) k 0=Ql m k 0+(l.count k:Int):=by
  intro l
  induction l with
  |nil=>intro m;simp
  |cons x l b=>
   intro m;rw[XE,b,QcA,List.count_cons];by_cases h:k=x
   .subst h;simp;omega
   .have:(x==k)=false:=beq_false_of_ne λe=>h e.symm;simp[h,this]
 have:=a l [];simpa[cntM,Qgi]using this
theorem QjA(b:Int):∀(m:Nat) (l:List Part) (a:List Int),szPs l<=m->partsS b l=true->(∀x∈a,0<=x/\x<=b)->∀x∈expS a l,0<=x/\x<=b:=by
 intro m
 induction m using Nat.strongRecOn with
 |_ m y=>
 intro l;have n:∀(k:Nat) (a d:List Int),(∀x∈a,0<=x/\x<=b)->(∀x∈d,0<=x/\x<=b)->∀x∈repS k a d,0<=x/\x<=b:=by
  intro k
  induction k with
  |zero=>intro a d i _;rw[repS];exact i
  |succ k u=>
   intro a d i w;rw[repS];split
   .exact i
   .refine u _ _ ?_ w;intro x f;rcases VE.1 f with h|h
    .exact i x h
    .exact w x h
 have s:∀(r:List Part) (a:List Int),szPs r<=m->partsS b r=true->(∀x∈a,0<=x/\x<=b)->∀x∈expS a r,0<=x/\x<=b:=by
  intro r
  induction r with
  |nil=>intro a _ _ h;rw[expS];exact h
  |cons p r q=>
   intro a t g h;rw[szPs,Qad]at t;rw[partsS,XX]at g;obtain⟨e,B⟩:=g;rw[expS];refine q _ (by omega) B (n _ _ _ h ?_);rw[Qez];rw[Qe2]at e;cases j:(p.Laps==0)with
   |true=>
    have z:p.Laps=0:=by simpa using j
    rw[j,Vq,XX]at e;have:=e.1;unfold inR at this;simp only[XX,Vs]at this;rw[z];intro x f;simp at f;subst f;exact this
   |false=>
    rw[j]at e;simp only[Vr,XX,inR,Vs]at e;rw[YT (show 0<p.Laps by omega),Vq];exact y (szPs p.Parts) (by omega) p.Parts [] (XU _) e.2.2.2 (by simp)
 exact λa t g h=>s l a t g h
theorem QkA{c:Course}{m:Int}(h0:0<=m)(b:m<=(c.Mats.length:Int)-1):∃x:Mat,idx c.Mats m=some x/\x.Kind=kindAt c m:=by
 obtain⟨k,rfl⟩:∃k:Nat,m=(k:Int):=⟨m.toNat,by omega⟩;have a:k<c.Mats.length:=by omega
 refine⟨c.Mats[k],YS (XL a),?_⟩;unfold kindAt;rw[Int.toNat_natCast,XL a];rfl
theorem Qij(c:Course)(a b:Int):Ql (QY legKey true c.Legs) {from_:=a,to_:=b} false=hasLeg c a b:=by
 rw[Qap];unfold hasLeg;by_cases h:({from_:=a,to_:=b}:Ue)∈c.Legs.map legKey
 .rw[Vu h];obtain⟨l,d,e⟩:=Xf.1 h;unfold legKey at e;obtain⟨g,f⟩:=ends_eq.1 e;exact(Xu.2 ⟨l,d,by simp[g,f]⟩).symm
 .rw[Vt h]
  symm
  rw[VN];intro q;obtain⟨l,d,e⟩:=Xu.1 q;simp only[XX,Vz]at e;exact h (Xf.2 ⟨l,d,by unfold legKey;rw[e.1,e.2]⟩)
structure NumOk (c:Course):Prop where
 kinds:∀m∈c.Mats,1<=m.Kind/\m.Kind<=3
 dist:∀d∈c.Distances,-1<=d.Extra/\d.Extra<=(c.Mats.length:Int)-1/\partsS ((c.Mats.length:Int)-1) d.Route=true
theorem QnI{c:Course}(h:numbersS c=true):NumOk c:=by
 unfold numbersS at h;simp only[XX,Xt]at h;refine⟨λm e=>?_,λd b=>?_⟩
 .have:=h.1 m e;unfold inR at this;simpa using this
 .have:=h.2.2.2.1 d b;unfold distS at this;simp only[XX]at this;obtain⟨_,a,f,_⟩:=this;unfold inR at a;simp only[XX,Vs]at a;exact⟨a.1,a.2,f⟩
theorem QpS{c:Course}(q:NumOk c){d:Distance}(hd:d∈c.Distances):∀x∈expS [] d.Route,0<=x/\x<=(c.Mats.length:Int)-1:=
 QjA _ _ d.Route [] (XU _) (q.dist d hd).2.2 (by simp)
theorem Qmk(c:Course)(len i:Nat)(prev m:Int)(r:List Int):rokS c len i prev (m::r)=(((kindAt c m==1)==decide (i=0))&&(((kindAt c m==3)==decide (i+1=len))&&((decide (i=0)||hasLeg c prev m)&&rokS c len (i+1) m r))):=rfl
theorem Qoc(i:Nat):((i:Int)==0)=decide (i=0):=by
 rw[XZ];simp
theorem Qf0(c:Course)(r:List Int)(B:2<=r.length)(R:r.length<=256)(J:∀x∈r,0<=x/\x<=(c.Mats.length:Int)-1):
  Ev (λn=>iter (F_bf n c (QY legKey true c.Legs) r) n ([],0)) (bif rokS c r.length 0 0 r then .cont (cntM r)else .done false):=by
 have loop:∀(t:List Int) (i:Nat) (b:Int),r.drop i=t->i<=r.length->(0<i->At r (i-1) b)->EvI (λn=>F_bf n c (QY legKey true c.Legs) r) (cntM (r.take i),(i:Int)) (bif rokS c r.length i b t then .cont (cntM r)else .done false):=by
  intro t
  induction t with
  |nil=>
   intro i b f q _;refine Ej ?_;unfold F_bf;simp only[Yw f q,Vr,rokS,Vq];have:r.length<=i:=by simpa using f
   rw[VJ this];exact Qa _
  |cons m t G=>
   intro i b f q F;obtain⟨d,p⟩:=QI (by omega) f;have E:=d.lt';obtain⟨O,P⟩:=J m d.mem;obtain⟨x,Q,u⟩:=QkA O P;have H:IntKind.i64.wrap ((r.length:Int)-1)=((r.length-1:Nat):Int):=by rw[Yr (by omega) (by omega)];omega
   have M:((i:Int)==((r.length-1:Nat):Int))=decide (i+1=r.length):=by rw[XZ];simp;omega
   have L:Ev (λn:Nat=>((bif ((x.Kind==1) != ((i:Int)==0))then some true else(bif ((x.Kind==3) != ((i:Int)==(IntKind.i64.wrap ((r.length:Int)-1))))then some true else(bif decide (0<(i:Int))then(idx r (IntKind.i64.wrap ((i:Int)-1))).bind λj=>(some (Ql (QY legKey true c.Legs) ({from_:=j,to_:=m:Ue}) false)).bind λg=>some (!g)else some false))):Option Bool))
     (!(((kindAt c m==1)==decide (i=0))&&(((kindAt c m==3)==decide (i+1=r.length))&&(decide (i=0)||hasLeg c b m)))):=by
    rw[u,H,M,Qoc];refine Ew (Eu λ_=>Eu λ_=>Qb6 (v:= !hasLeg c b m) (w:=false) (λh=>?_) λ_=>Qa _) ?_
    .have k:0<i:=by simpa using h
     have N:IntKind.i64.wrap ((i:Int)-1)=((i-1:Nat):Int):=by rw[Yr (by omega) (by omega)];omega
     rw[N,(F k).ix];simp only[XK,Qij];exact Qa _
    .have y:decide (0<(i:Int))= !decide (i=0):=by rw[XZ];simp;omega
     rw[y];cases(kindAt c m==1)<;>cases decide (i=0)<;>cases(kindAt c m==3)<;>cases decide (i+1=r.length)<;>cases hasLeg c b m<;>rfl
   have e:IntKind.i64.wrap (Ql (cntM (r.take i)) m 0+1)=Ql (cntM (r.take i)) m 0+1:=by
    rw[QfF];have:(r.take i).count m<=i:=by have:=List.count_le_length (a:=m) (l:=r.take i);simp at this;omega
    exact Yr (by omega) (by omega)
   have step:Ev (λn=>F_bf n c (QY legKey true c.Legs) r (cntM (r.take i),(i:Int))) (bif ((kindAt c m==1)==decide (i=0))&&(((kindAt c m==3)==decide (i+1=r.length))&&(decide (i=0)||hasLeg c b m))then .cont (cntM (r.take (i+1)),((i+1:Nat):Int))else .done (.done false)):=by
    unfold F_bf;simp only[d.lt,Vq,d.ix,XK,d.nx,Q];refine Ea L ?_;rw[e, <- QlA, <- d.take];cases(((kindAt c m==1)==decide (i=0))&&(((kindAt c m==3)==decide (i+1=r.length))&&(decide (i=0)||hasLeg c b m)))<;>exact Qa _
   have z:rokS c r.length i b (m::t)=((((kindAt c m==1)==decide (i=0))&&(((kindAt c m==3)==decide (i+1=r.length))&&(decide (i=0)||hasLeg c b m)))&&rokS c r.length (i+1) m t):=by rw[Qmk];simp only[Bool.and_assoc]
   rw[z];cases s:(((kindAt c m==1)==decide (i=0))&&(((kindAt c m==3)==decide (i+1=r.length))&&(decide (i=0)||hasLeg c b m)))with
   |false=>
    rw[s]at step;exact Ej step
   |true=>
    rw[s]at step;rw[VB];exact Ex step (G (i+1) m p (by omega) (λ_=>by simpa using d))
 exact(loop r 0 0 rfl (XV _) (by omega)).ev
theorem QjP(c:Course)(w:CourseOk c)(q:NumOk c)(d:Distance)(b:d∈c.Distances)(y:∀x∈d.Route,Part.wf x)(l:szPs d.Route<=256):
  Ev (λn=>F_cm n c d (QY legKey true c.Legs)) (routeS c d):=by
 have i:=Qan d.Route;have j:=QpS q b;have a:=QiE _ d.Route [] (XU _);unfold F_cm routeS;refine Ea (Qls _ _ d.Route (XU _) l (by omega) y (q.dist d b).2.2) ?_;generalize expS [] d.Route=r at j a⊢;unfold routeR;have s:IntKind.i64.wrap ((r.length:Int)-1)=(r.length:Int)-1:=by
  have:r.length<=1048576:=by simp at a;omega
  exact QcP this
 rw[s];have t:(decide ((r.length:Int)-1<1)||decide (256<=(r.length:Int)-1))= !(decide (2<=r.length)&&decide (r.length<=256)):=by
  rw[XZ];simp;omega
 refine Ea (Ew (Eu λ_=>Qa _) t) ?_;cases e:(decide (2<=r.length)&&decide (r.length<=256))with
 |false=>exact Qa _
 |true=>
  simp only[XX,Vs]at e;rw[VB];refine Jb (Ea (Qf0 c r e.1 e.2 j) ?_);cases rokS c r.length 0 0 r with
  |false=>exact Qa _
  |true=>
   simp only[Vq,VB];have u:Ev (λn:Nat=>((bif decide (0<=d.Extra)then(some (Ql (cntM r) d.Extra 0)).bind λf=>(bif (f==0)then some true else(idx c.Mats d.Extra).bind λh=>(bif (h.Kind != 2)then some true else(some (Ql (QY legKey true c.Legs) ({from_:=d.Extra,to_:=d.Extra:Ue}) false)).bind λg=>some (!g)))else some false):Option Bool))
     (!(bif decide (0<=d.Extra)then !((r.count d.Extra:Int)==0)&&((kindAt c d.Extra==2)&&hasLeg c d.Extra d.Extra)else true)):=by
    rw[QfF];cases p:decide (0<=d.Extra)with
    |false=>exact Qa _
    |true=>
     obtain⟨x,z,k⟩:=QkA (c:=c) (m:=d.Extra) (by simpa using p) (q.dist d b).2.1;simp only[Vq,XK,z,Qij,k];refine Ew (Eu λ_=>Eu λ_=>Qa _) ?_;rw[bne];cases((r.count d.Extra:Int)==0)<;>cases(kindAt c d.Extra==2)<;>cases hasLeg c d.Extra d.Extra<;>rfl
   refine Ea u ?_;cases(bif decide (0<=d.Extra)then !((r.count d.Extra:Int)==0)&&((kindAt c d.Extra==2)&&hasLeg c d.Extra d.Extra)else true)with
   |false=>exact Qa _
   |true=>
    rw[VB];refine Jb (Ea ?_ (Qa _));unfold F_gb F_ei F_fd;refine Je d.Cutoffs _ (λn x=>F_bm n x (cntM r)) (by have:=w.cut d b;omega) λx _=>?_;unfold F_bm;rw[QfF];exact Qa _
def lensC(c:Course):Nat:=c.Mats.length+c.Legs.length+c.Distances.length+c.Waves.length+c.Offences.length+c.Categories.length+c.Prizes.length
def fewD(d:Distance):Prop:=d.Cutoffs.length<=200/\szPs d.Route<=200/\hPs d.Route<=16
structure FewOk (c:Course):Prop where
 lens:lensC c<=200
 name:c.Name.length<=100
 dist:∀d∈c.Distances,fewD d
 ties:c.Ties.length<=200
def fitsS(c:Course):Bool:=
 !(decide (40<(c.Mats.length:Int))||(decide (512<(c.Legs.length:Int))||(decide (8<(c.Distances.length:Int))||(decide (32<(c.Waves.length:Int))||(decide (32<(c.Offences.length:Int))||(decide (32<(c.Categories.length:Int))||decide (32<(c.Prizes.length:Int))))))))
  &&c.Distances.all λd=> !decide (64<(d.Cutoffs.length:Int))
theorem Qos(c:Course)(w:CourseOk c)(q:PartsOk c)(k:FewOk c):Ev (λn=>F_ag n c) (fitsS c):=by
 unfold F_ag fitsS;refine Ea (Eu λ_=>Eu λ_=>Eu λ_=>Eu λ_=>Eu λ_=>Eu λ_=>Qa _) ?_;cases(decide (40<(c.Mats.length:Int))||(decide (512<(c.Legs.length:Int))||(decide (8<(c.Distances.length:Int))||(decide (32<(c.Waves.length:Int))||(decide (32<(c.Offences.length:Int))||(decide (32<(c.Categories.length:Int))||decide (32<(c.Prizes.length:Int))))))))with
 |true=>exact Qa _
 |false=>
  rw[Xi,VB];refine Jb (Ea (QdY c.Distances (λd=> !decide (64<(d.Cutoffs.length:Int))) (Ctl.done false) (Ctl.cont ()) (by have:=w.dist;omega) (λi x a=>?_) ?_) ?_)
  .obtain⟨e,b,f⟩:=k.dist x a.mem;unfold F_fw;simp only[a.lt,Vq,a.ix,XK,a.nx];refine Ea (Qm9 _ x.Route 17 (XU _) (by omega) (XU _) (by omega) (q.wf x a.mem)) ?_;refine Ea (Eu λ_=>Eu λ_=>Qa _) ?_;simp only[YK (show¬(16:Int)<(hPs x.Route:Int)by omega),YK (show¬(256:Int)<(szPs x.Route:Int)by omega),Bool.or_false];cases decide (64<(x.Cutoffs.length:Int))<;>exact Qa _
  .unfold F_fw;simp only[Qav,Vr];exact Qa _
  .cases(c.Distances.all λd=> !decide (64<(d.Cutoffs.length:Int)))<;>exact Qa _
def courseE(c:Course):Int:=
 bif fitsS c then bif namesS c then bif numbersS c then bif tiesE c.Ties==0 then bif c.Distances.all (routeS c)then 0 else 72 else tiesE c.Ties else 71 else 70 else 2
theorem Qlu(c:Course)(w:CourseOk c)(q:PartsOk c)(k:FewOk c)(hl:c.Ties.length<=1048576)(d:∀x∈c.Ties,Step.wf x):Ev (λn=>F_i n c) (courseE c):=by
 unfold F_i courseE;refine Ea (Qos c w q k) ?_;cases fitsS c with
 |false=>exact Qa _
 |true=>
 refine Jb (Ea (Qm5 c w) ?_);cases namesS c with
 |false=>exact Qa _
 |true=>
 refine Jb (Ea (QjO c w q) ?_);cases f:numbersS c with
 |false=>exact Qa _
 |true=>
 refine Jb (Ea (Qou c.Ties hl d) ?_);rw[bne];cases(tiesE c.Ties==0)with
 |false=>exact Qa _
 |true=>
 have e:Ev (λn=>iter (F_gf n c) n ([],0)) (QY legKey true c.Legs):=by
  refine QaH c.Legs legKey true (by have:=w.legs;omega) (λi x m a=>?_) (λm=>?_)
  .unfold F_gf;simp only[a.lt,Vq,a.ix,XK,a.nx];exact Qa _
  .unfold F_gf;simp only[Qav,Vr];exact Qa _
 refine Jb (Ea e ?_);have a:Ev (λn=>F_ba n c.Distances c (QY legKey true c.Legs)) (c.Distances.all (routeS c)):=by
  unfold F_ba F_dy F_eq;refine Je c.Distances _ (λn x=>F_bo n x c (QY legKey true c.Legs)) (by have:=w.dist;omega) λx b=>?_;unfold F_bo;exact Ea (QjP c w (QnI f) x b (q.wf x b) (by have:=(k.dist x b).2.1;omega)) (Qa _)
 refine Ea a ?_;cases c.Distances.all (routeS c)<;>exact Qa _
theorem Qk7{α:Type}{lt:α->α->Prop}(d:∀a b,lt a b->¬lt b a):∀{l m:List α},l.Pairwise lt->m.Pairwise lt->(∀x,x∈l↔x∈m)->l=m:=by
 intro l
 induction l with
 |nil=>
  intro m _ _ h;cases m with
  |nil=>rfl
  |cons y m=>exact absurd ((h y).2 (by simp)) (by simp)
 |cons x l p=>
  intro m q s h;cases m with
  |nil=>exact absurd ((h x).1 (by simp)) (by simp)
  |cons y m=>
   obtain⟨j,r⟩:=Xc.1 q;obtain⟨i,n⟩:=Xc.1 s;have k:x=y:=by
    rcases X7.1 ((h x).1 (by simp))with e|e
    .exact e
    .rcases X7.1 ((h y).2 (by simp))with g|g
     .exact g.symm
     .exact absurd (i x e) (d _ _ (j y g))
   subst k;rw[p r n λz=>?_];constructor
   .intro f;rcases X7.1 ((h z).1 (by simp[f]))with e|e
    .subst e;exact absurd (j z f) (d _ _ (j z f))
    .exact e
   .intro f;rcases X7.1 ((h z).2 (by simp[f]))with e|e
    .subst e;exact absurd (i z f) (d _ _ (i z f))
    .exact e
theorem Qkp{α:Type}(l:List α){a b:Nat}(h:a<=b)(d:b<=l.length):slc l (a:Int) (b:Int)=some ((l.take b).drop a):=by
 unfold slc;rw[YT (show(0:Int)<=(a:Int)by omega),YT (show(a:Int)<=(b:Int)by omega),YT (show(b:Int)<=(l.length:Int)by omega)];simp
theorem Qjm{α:Type}(l:List α){b:Nat}(a:b<=l.length):slc l 0 (b:Int)=some (l.take b):=by
 have:=Qkp l (XV b) a;simpa using this
theorem QeO{α:Type}(l:List α){a:Nat}(b:a<=l.length):slc l (a:Int) (l.length:Int)=some (l.drop a):=by
 have:=Qkp l b (XU _);simpa using this
theorem QkS{α:Type}(l m:List α)(h:l.length+m.length<=4294967296):app l m=some (l++m):=by
 unfold app;rw[XT (by unfold Qq;exact h)];rfl
theorem Qh1{α:Type}(l:List α){i:Nat}(x:α)(h:i<l.length):Qdu l (i:Int) x=some (l.set i x):=by
 unfold Qdu;rw[YT (show(0:Int)<=(i:Int)by omega),YT (show(i:Int)<(l.length:Int)by omega)];simp
def firstI{α:Type}(q:α->Bool):List α->Nat->Int
 |[],_=> -1
 |x::l,i=>bif q x then(i:Int)else firstI q l (i+1)
theorem Ev.first{α:Type}{step:Nat->Int->Option (Ctl Int (Ctl Unit Int))}(l:List α)(q:α->Bool)(hl:l.length<=4611686018427387904)
  (k:∀i x,At l i x->Ev (λn=>step n (i:Int)) (bif q x then .done (.done (i:Int))else .cont ((i+1:Nat):Int)))(p:Ev (λn=>step n (l.length:Int)) (.done (.cont ()))):
  Ev (λn=>(Go.Sw.iter (step n) n 0).bind λb=>match b with|.cont _=>some (-1)|.done v=>some v) (firstI q l 0):=by
 have loop:∀(r:List α) (i:Nat),l.drop i=r->i<=l.length->∃a:Ctl Unit Int,EvI step (i:Int) a/\(match a with|.cont _=>some (-1)|.done v=>some v)=some (firstI q r i):=by
  intro r
  induction r with
  |nil=>
   intro i g t;have:i=l.length:=by have:=Xs.1 g;omega
   subst this;exact⟨.cont (),Ej p,rfl⟩
  |cons x r m=>
   intro i g t;obtain⟨j,e⟩:=QI hl g;have s:=k i x j;unfold firstI;cases h:q x with
   |true=>
    rw[h]at s;exact⟨_,Ej s,rfl⟩
   |false=>
    rw[h]at s;obtain⟨a,f,d⟩:=m (i+1) e (by have:=j.lt';omega);exact⟨a,Ex s f,d⟩
 obtain⟨a,f,d⟩:=loop l 0 rfl (XV _);exact Ea f.ev (EB d)
theorem QbV{α:Type}(q:α->Bool):∀(l:List α) (i:Nat),(firstI q l i= -1/\l.all (λx=> !q x)=true)\/ ∃j x,firstI q l i=((i+j:Nat):Int)/\l[j]?=some x/\q x=true/\(l.take j).all (λx=> !q x)=true
 |[],_=>.inl ⟨rfl,rfl⟩
 |x::l,i=>by
  unfold firstI;cases h:q x with
  |true=>exact .inr ⟨0,x,rfl,rfl,h,rfl⟩
  |false=>
   rcases QbV q l (i+1)with⟨h1,h2⟩|⟨j,y,h1,h2,h3,h4⟩
   .exact .inl ⟨h1,by simp[h,h2]⟩
   .refine .inr ⟨j+1,y,by rw[Vr,h1];congr 1;omega,h2,h3,by simp[h,h4]⟩
theorem Qfj{α:Type}{p:α->Bool}{l:List α}(h:l.all p=true):l.filter p=l:=List.filter_eq_self.2 (Xt.1 h)
theorem Ev.delete{α:Type}{first:Nat->Option Int}{step:Nat->List α×Int×Int->Option (Ctl (List α×Int×Int) (List α×Int))}(a:List α)(q:α->Bool)(hl:a.length<=1048576)
  (W:Ev first (firstI q a 0))
  (T:∀(l:List α) (i j:Nat) x y,l.length<=1048576->At l j x->l[i]?=some y->x∈a->i<=j->Ev (λn=>step n (l,(i:Int),(j:Int))) (.cont (bif q x then l else l.set i x,(bif q x then(i:Int)else((i+1:Nat):Int)),((j+1:Nat):Int))))
  (hd:∀(l:List α) (i:Int),Ev (λn=>step n (l,i,(l.length:Int))) (.done (l,i))):
  Ev (λn=>(first n).bind λr1=>bif r1== -1 then some a else(Go.Sw.iter (step n) n (a,r1,IntKind.i64.wrap (r1+1))).bind λb=>(slc b.1 0 b.2).bind λx=>some x) (a.filter λx=> !q x):=by
 refine Ea W ?_;rcases QbV q a 0 with⟨H,F⟩|⟨E,Y,H,F,X,R⟩
 .rw[H,Qfj F];exact Qa _
 .have V:=(XM.1 F).1;rw[Xw]at H;rw[H];have P:(((E:Nat):Int)== -1)=false:=by simp
  rw[P,YB (by omega)];have loop:∀(r l:List α) (i j:Nat),a.drop j=r->j<=a.length->i<j->l.length=a.length->l.drop j=a.drop j->l.take i=(a.take j).filter (λx=> !q x)->∃e:List α,∃k:Nat,EvI step (l,(i:Int),(j:Int)) (e,(k:Int))/\k<=e.length/\e.take k=a.filter λx=> !q x:=by
   intro r
   induction r with
   |nil=>
    intro l i j G Q L d z f;have:j=l.length:=by have:=Xs.1 G;omega
    subst this;refine⟨l,i,Ej (hd l _),by omega,?_⟩;rw[f,d,Va]
   |cons x r M=>
    intro l i j G Q L d z f;have J:l.drop j=x::r:=by rw[z,G]
    obtain⟨N,t⟩:=QI (by omega) J;obtain⟨m,g⟩:=QI (by omega) G;have O:=N.lt';have s:=T l i j x l[i] (by omega) N (XL (by omega)) m.mem (by omega);cases h:q x with
    |true=>
     rw[h]at s;obtain⟨e,k,w,B,u⟩:=M l i (j+1) g (by omega) (by omega) d (by rw[t,g]) (by rw[m.take,List.filter_append,f];simp[h]);exact⟨e,k,Ex s w,B,u⟩
    |false=>
     rw[h]at s;obtain⟨e,k,w,B,u⟩:=M (l.set i x) (i+1) (j+1) g (by omega) (by omega) (by simpa using d) (by rw[List.drop_set_of_lt (by omega),t,g])
      (by
       rw[m.take,List.filter_append, <- f];have:i<(l.set i x).length:=by simp;omega
       rw[List.take_add_one,XL this];simp[h,List.take_set_of_le])
     exact⟨e,k,Ex s w,B,u⟩
  have p:a.take (E+1)=a.take E++[Y]:=by rw[List.take_add_one,F];rfl
  obtain⟨e,k,w,B,u⟩:=loop _ a E (E+1) rfl (by omega) (by omega) rfl rfl (by rw[p,List.filter_append,Qfj R];simp[X]);refine Jb (Ea w.ev ?_);rw[<- u];exact EB (by simp[Qjm e B])
theorem QaY{ι α:Type}{F:Nat->ι->Option α}{V:ι->α}:∀(L:List ι),(∀p∈L,Ev (λn=>F n p) (V p))->∃N,∀n,N<=n->∀p∈L,F n p=some (V p)
 |[],_=>⟨0,λ_ _ p hp=>by cases hp⟩
 |x::L,h=>by
  obtain⟨N,hN⟩:=QaY L λp hp=>h p (by simp[hp]);obtain⟨M,hM⟩:=h x (by simp);refine⟨N+M,λn hn p hp=>?_⟩;rcases X7.1 hp with rfl|hp
  .exact hM n (by omega)
  .exact hN n (by omega) p hp
theorem Ev.anyP{E R:Type}[DecidableEq R]{k:Nat->List E->Option R}{l:List E}{r:R}(h:∀p,p.Perm l->Ev (λn=>k n p) r):Ev (λn=>Go.Sw.anyP (k n) l) r:=by
 obtain⟨N,b⟩:=QaY (F:=λn p=>k n p) (V:=λ_=>r) (QbS l) λp a=>h p (Qcy l p a);exact⟨N,λn d=>QhD λp a=>b n d p (Qdw l p a)⟩
theorem Ev.isNil{α R:Type}[DecidableEq R]{l:List α}{x y:Nat->Option R}{v:R}(e:l=[]->Ev x v)(a:Ev y v):Ev (λn=>Go.Sw.isNil l (x n) (y n)) v:=by
 unfold Go.Sw.isNil;cases q:l.isEmpty with
 |false=>exact a
 |true=>
  obtain⟨N,d⟩:=e (List.isEmpty_iff.1 q);obtain⟨M,b⟩:=a;exact⟨N+M,λn f=>by dsimp only;rw[d n (by omega),b n (by omega)];simp⟩
theorem Qlt:∀(k:Nat) (l:List Part),k<=17->szPs l<=256->(∀x∈l,Part.wf x)->∃s:Nat,s<=szPs l/\Ev (λn=>F_c n l (k:Int)) (((min (hPs l) k:Nat):Int),(s:Int)):=by
 intro k
 induction k using Nat.strongRecOn with
 |_ k H=>
 intro l u q J;have B:=Qan l;have loop:∀(r:List Part) (i a b:Nat),l.drop i=r->i<=l.length->a<=17->b+(szPs r-r.length)<=256->∃s:Nat,s<=b+(szPs r-r.length)/\EvI (λn=>F_ac n l (k:Int) (F_c n)) ((a:Int),(b:Int),(i:Int)) (((max a (min (hPs r) k):Nat):Int),(s:Int)):=by
  intro r
  induction r with
  |nil=>
   intro i a b h w _ _;refine⟨b,by omega,Ej ?_⟩;unfold F_ac;simp only[Yw h w,Vr,XK];refine(Qa _).eq ?_;simp[hPs]
  |cons p r g=>
   intro i a b h w L f;obtain⟨d,e⟩:=QI (by omega) h;obtain⟨T,F⟩:=Ja (J p d.mem);have y:=Qbe d.mem;rw[Qad]at y;have G:=Qan r;rw[szPs,Qad,X2]at f⊢;have step:∃t:Nat,t<=szPs p.Parts/\Ev (λn=>F_ac n l (k:Int) (F_c n) ((a:Int),(b:Int),(i:Int))) (.cont (((max a (min (hP p) k):Nat):Int),((b+t:Nat):Int),((i+1:Nat):Int))):=by
    unfold F_ac;simp only[d.lt,Vq,d.ix,XK,d.nx,Qii];rw[Qo1];cases R:p.Parts.isEmpty with
    |true=>
     refine⟨0,XV _,?_⟩;simp only[Vq,XK,Nat.zero_min,Nat.max_zero,Xx];exact Qa _
    |false=>
     simp only[Vr];by_cases j:k=0
     .subst j;refine⟨0,XV _,?_⟩;simp only[Nat.min_zero,Nat.max_zero,Xx];exact Qa _
     .obtain⟨t,z,m⟩:=H (k-1) (by omega) p.Parts (by omega) (by omega) F;refine⟨t,z,?_⟩;have Q:IntKind.i64.wrap ((k:Int)-1)=((k-1:Nat):Int):=by rw[Yr (by omega) (by omega)];omega
      have E:((k:Int)==0)=false:=beq_false_of_ne (by omega);rw[E,YK (show¬(256:Int)<(b:Int)by omega),Q];simp only[Vr,XK];refine Ea (Ea m (Qa _)) ((Qa _).eq ?_);have N:IntKind.i64.wrap (((min (hPs p.Parts) (k-1):Nat):Int)+1)=((min (hPs p.Parts) (k-1)+1:Nat):Int):=YB (by omega);have P:IntKind.i64.wrap ((b:Int)+(t:Int))=((b+t:Nat):Int):=by rw[Yr (by omega) (by omega)];omega
      simp only[N,P];congr 2;split<;>omega
   obtain⟨t,z,m⟩:=step;obtain⟨s,O,M⟩:=g (i+1) (max a (min (hP p) k)) (b+t) e (by have:=d.lt';omega) (by omega) (by omega);refine⟨s,by omega,(Ex m M).eq ?_⟩;rw[hPs];congr 1;omega
 obtain⟨s,y,p⟩:=loop l 0 0 l.length rfl (XV _) (by omega) (by omega);refine⟨s,by omega,YP ?_⟩;show Ev (λn=>B_c (F_c n) n l (k:Int)) _;unfold B_c;refine Ea p.ev ((Qa _).eq ?_);rw[Nat.zero_max]
structure FewL (c:Course):Prop where
 lens:lensC c<=200
 name:c.Name.length<=100
 dist:∀d∈c.Distances,d.Cutoffs.length<=12/\szPs d.Route<=24
 ties:c.Ties.length<=200
def fitsG(c:Course):Bool:=
 !(decide (40<(c.Mats.length:Int))||(decide (512<(c.Legs.length:Int))||(decide (8<(c.Distances.length:Int))||(decide (32<(c.Waves.length:Int))||(decide (32<(c.Offences.length:Int))||(decide (32<(c.Categories.length:Int))||decide (32<(c.Prizes.length:Int))))))))
  &&c.Distances.all λd=> !(decide (64<(d.Cutoffs.length:Int))||decide (16<hPs d.Route))
theorem Qm6(c:Course)(w:CourseOk c)(q:PartsOk c)(k:FewL c):Ev (λn=>F_ag n c) (fitsG c):=by
 unfold F_ag fitsG;refine Ea (Eu λ_=>Eu λ_=>Eu λ_=>Eu λ_=>Eu λ_=>Eu λ_=>Qa _) ?_;cases(decide (40<(c.Mats.length:Int))||(decide (512<(c.Legs.length:Int))||(decide (8<(c.Distances.length:Int))||(decide (32<(c.Waves.length:Int))||(decide (32<(c.Offences.length:Int))||(decide (32<(c.Categories.length:Int))||decide (32<(c.Prizes.length:Int))))))))with
 |true=>exact Qa _
 |false=>
  rw[Xi,VB];refine Jb (Ea (QdY c.Distances (λd=> !(decide (64<(d.Cutoffs.length:Int))||decide (16<hPs d.Route))) (Ctl.done false) (Ctl.cont ()) (by have:=w.dist;omega) (λi x a=>?_) ?_) ?_)
  .obtain⟨g,b⟩:=k.dist x a.mem;unfold F_fw;simp only[a.lt,Vq,a.ix,XK,a.nx];obtain⟨s,f,p⟩:=Qlt 17 x.Route (XU _) (by omega) (q.wf x a.mem);refine Ea p ?_;refine Ea (Eu λ_=>Eu λ_=>Qa _) ?_;simp only[YK (show¬(256:Int)<(s:Int)by omega),Bool.or_false];have e:decide ((16:Int)<((min (hPs x.Route) 17:Nat):Int))=decide (16<hPs x.Route):=by
    rw[decide_eq_decide];omega
   rw[e];cases(decide (64<(x.Cutoffs.length:Int))||decide (16<hPs x.Route))<;>exact Qa _
  .unfold F_fw;simp only[Qav,Vr];exact Qa _
  .cases c.Distances.all (λd=> !(decide (64<(d.Cutoffs.length:Int))||decide (16<hPs d.Route)))<;>exact Qa _
theorem Qhy(c:Course)(w:CourseOk c)(q:PartsOk c)(k:FewL c)(hl:c.Ties.length<=1048576)(g:∀x∈c.Ties,Step.wf x):∃e,Ev (λn=>F_i n c) e:=by
 by_cases f:∀d∈c.Distances,hPs d.Route<=16
 .exact⟨_,Qlu c w q ⟨k.lens,k.name,λd a=>⟨by have:=(k.dist d a).1;omega,by have:=(k.dist d a).2;omega,f d a⟩,k.ties⟩ hl g⟩
 .refine⟨2,?_⟩;unfold F_i;refine Ea (Qm6 c w q k) ?_;have:fitsG c=false:=by
   unfold fitsG;rw[Bool.and_eq_false_iff];right;rw[List.all_eq_false];have:=Classical.not_forall.1 f;obtain⟨d,a⟩:=this;have b:d∈c.Distances/\ ¬hPs d.Route<=16:=by
    refine Classical.byContradiction λz=>a λh=>Classical.byContradiction λy=>z ⟨h,y⟩
   refine⟨d,b.1,?_⟩;have:decide (16<hPs d.Route)=true:=Vv (by omega);rw[this];simp
  rw[this];exact Qa _
theorem Qjo:∀(k:Nat) (l:List Part),k<=21->l.length<=1048576->(∀x∈l,Part.wf x)->∃v:Nat,v<=1048576+500*(k+1)/\(v<500->szPs l<=v)/\Ev (λn=>F_k n l ((21-k:Nat):Int)) (v:Int):=by
 intro k
 induction k with
 |zero=>
  intro l _ w s;refine⟨500,by omega,by omega,YP ?_⟩;show Ev (λn=>B_k (F_k n) n l ((21-0:Nat):Int)) _;unfold B_k;exact Qa _
 |succ k B=>
  intro l N w s;have loop:∀(r:List Part) (i a:Nat),l.drop i=r->i<=l.length->a<=1048576+500*(k+1+1)->∃v:Nat,v<=1048576+500*(k+1+1)/\a<=v/\(v<500->a+(szPs r-r.length)<=v)/\EvI (λn=>F_ey n l ((21-(k+1):Nat):Int) (F_k n)) ((a:Int),(i:Int)) (v:Int):=by
   intro r
   induction r with
   |nil=>
    intro i a h t f;refine⟨a,f,XU _,λ_=>by simp[szPs],Ej ?_⟩;unfold F_ey;simp only[Yw h t,Vr,XK];exact Qa _
   |cons p r g=>
    intro i a h t f;obtain⟨b,e⟩:=QI (by omega) h;obtain⟨G,z⟩:=Ja (s p b.mem);by_cases H:a<500
    .obtain⟨u,M,J,F⟩:=B p.Parts (by omega) G z;have L:IntKind.i64.wrap (((21-(k+1):Nat):Int)+1)=((21-k:Nat):Int):=by rw[Yr (by omega) (by omega)];omega
     have y:IntKind.i64.wrap ((a:Int)+(u:Int))=((a+u:Nat):Int):=by rw[Yr (by omega) (by omega)];omega
     obtain⟨v,m,E,j,q⟩:=g (i+1) (a+u) e (by have:=b.lt';omega) (by omega);refine⟨v,m,by omega,λd=>?_,Ex ?_ q⟩
     .have:=j d;have:=J (by omega);have:=Qan r;rw[szPs,Qad,X2];omega
     .unfold F_ey;simp only[b.lt,Vq,b.ix,XK,b.nx,YT (show(a:Int)<500 by omega),L];refine Ea F ?_;rw[y];exact Qa _
    .refine⟨a,f,XU _,λd=>absurd d H,Ej ?_⟩;unfold F_ey;simp only[b.lt,Vq,XK,YK (show¬(a:Int)<500 by omega),Vr];exact Qa _
  obtain⟨v,m,E,j,q⟩:=loop l 0 l.length rfl (XV _) (XW w (Nat.le_add_right _ _));have:=Qan l;refine⟨v,m,λd=>by have:=j d;omega,YP ?_⟩;show Ev (λn=>B_k (F_k n) n l ((21-(k+1):Nat):Int)) _;unfold B_k;rw[YK (show¬(20:Int)<((21-(k+1):Nat):Int)by omega)];exact Jb (Ea q.ev (Qa _))
theorem QiO:∀(k:Nat) (l:List Cond),k<=21->l.length<=1048576->(∀x∈l,Cond.wf x)->∃v:Nat,v<=1048576+500*(k+1)/\Ev (λn=>F_l n l ((21-k:Nat):Int)) (v:Int):=by
 intro k
 induction k with
 |zero=>
  intro l _ q s;refine⟨500,by omega,YP ?_⟩;show Ev (λn=>B_l (F_l n) n l ((21-0:Nat):Int)) _;unfold B_l;exact Qa _
 |succ k y=>
  intro l G q s;have loop:∀(r:List Cond) (i a:Nat),l.drop i=r->i<=l.length->a<=1048576+500*(k+1+1)->∃v:Nat,v<=1048576+500*(k+1+1)/\EvI (λn=>F_dg n l ((21-(k+1):Nat):Int) (F_l n)) ((a:Int),(i:Int)) (v:Int):=by
   intro r
   induction r with
   |nil=>
    intro i a j t h;refine⟨a,h,Ej ?_⟩;unfold F_dg;simp only[Yw j t,Vr,XK];exact Qa _
   |cons p r f=>
    intro i a j t h;obtain⟨b,e⟩:=QI (by omega) j;have d:=Qam (s p b.mem);by_cases F:a<500
    .obtain⟨u,E,z⟩:=y p.Parts (by omega) d.1 d.2;have B:IntKind.i64.wrap (((21-(k+1):Nat):Int)+1)=((21-k:Nat):Int):=by rw[Yr (by omega) (by omega)];omega
     have w:IntKind.i64.wrap ((a:Int)+(u:Int))=((a+u:Nat):Int):=by rw[Yr (by omega) (by omega)];omega
     obtain⟨v,g,m⟩:=f (i+1) (a+u) e (by have:=b.lt';omega) (by omega);refine⟨v,g,Ex ?_ m⟩;unfold F_dg;simp only[b.lt,Vq,b.ix,XK,b.nx,YT (show(a:Int)<500 by omega),B];refine Ea z ?_;rw[w];exact Qa _
    .refine⟨a,h,Ej ?_⟩;unfold F_dg;simp only[b.lt,Vq,XK,YK (show¬(a:Int)<500 by omega),Vr];exact Qa _
  obtain⟨v,g,m⟩:=loop l 0 l.length rfl (XV _) (XW q (Nat.le_add_right _ _));refine⟨v,g,YP ?_⟩;show Ev (λn=>B_l (F_l n) n l ((21-(k+1):Nat):Int)) _;unfold B_l;rw[YK (show¬(20:Int)<((21-(k+1):Nat):Int)by omega)];exact Jb (Ea m.ev (Qa _))
def Cs:Nat->Nat
 |0=>500
 |k+1=>4194304+2*Cs k
theorem Qo9:∀k,k<22->Cs k<=1125899906842624:=by decide
theorem QhW:∀(k:Nat) (l:List Step),k<=21->l.length<=1048576->(∀x∈l,Step.wf x)->∃v:Nat,v<=Cs k/\(v<500->l.length<=v)/\Ev (λn=>F_h n l ((21-k:Nat):Int)) (v:Int):=by
 intro k
 induction k with
 |zero=>
  intro l _ P s;refine⟨500,XU _,by omega,YP ?_⟩;show Ev (λn=>B_h (F_h n) n l ((21-0:Nat):Int)) _;unfold B_h;exact Qa _
 |succ k m=>
  intro l W P s;have F:=Qo9 k (by omega);have J:=Qo9 (k+1) (by omega);have G:Cs (k+1)=4194304+2*Cs k:=rfl;have loop:∀(r:List Step) (i a:Nat),l.drop i=r->i<=l.length->a<=Cs (k+1)->∃v:Nat,v<=Cs (k+1)/\a<=v/\EvI (λn=>F_eu n l ((21-(k+1):Nat):Int) (F_h n)) ((a:Int),(i:Int)) (v:Int):=by
   intro r
   induction r with
   |nil=>
    intro i a g w e;refine⟨a,e,XU _,Ej ?_⟩;unfold F_eu;simp only[Yw g w,Vr,XK];exact Qa _
   |cons p r f=>
    intro i a g w e;obtain⟨b,d⟩:=QI (by omega) g;obtain⟨B,q,z⟩:=Qal (s p b.mem);by_cases V:a<500
    .obtain⟨u,R,N⟩:=QiO 21 [p.Cond] (XU _) (by simp) (by simpa using B);obtain⟨x,T,_,O⟩:=m p.Then (by omega) q.1 q.2;obtain⟨y,y1,_,H⟩:=m p.Else (by omega) z.1 z.2;have Q:IntKind.i64.wrap (((21-(k+1):Nat):Int)+1)=((21-k:Nat):Int):=by rw[Yr (by omega) (by omega)];omega
     have E:IntKind.i64.wrap ((a:Int)+(u:Int))=((a+u:Nat):Int):=by rw[Yr (by omega) (by omega)];omega
     have L:IntKind.i64.wrap (((a+u:Nat):Int)+(x:Int))=((a+u+x:Nat):Int):=by rw[Yr (by omega) (by omega)];omega
     have M:IntKind.i64.wrap (((a+u+x:Nat):Int)+(y:Int))=((a+u+x+y:Nat):Int):=by rw[Yr (by omega) (by omega)];omega
     obtain⟨v,h,t,j⟩:=f (i+1) (a+u+x+y) d (by have:=b.lt';omega) (by omega);refine⟨v,h,by omega,Ex ?_ j⟩;unfold F_eu;simp only[b.lt,Vq,b.ix,XK,b.nx,YT (show(a:Int)<500 by omega),Q];refine Ea N (Ea O (Ea H ?_));rw[E,L,M];exact Qa _
    .refine⟨a,e,XU _,Ej ?_⟩;unfold F_eu;simp only[b.lt,Vq,XK,YK (show¬(a:Int)<500 by omega),Vr];exact Qa _
  obtain⟨v,h,t,j⟩:=loop l 0 l.length rfl (XV _) (by omega);refine⟨v,h,λ_=>t,YP ?_⟩;show Ev (λn=>B_h (F_h n) n l ((21-(k+1):Nat):Int)) _;unfold B_h;rw[YK (show¬(20:Int)<((21-(k+1):Nat):Int)by omega)];exact Jb (Ea j.ev (Qa _))
theorem Qlp(c:Course)(w:CourseOk c)(q:PartsOk c)(hl:c.Ties.length<=1048576)(F:∀x∈c.Ties,Step.wf x):∃b,Ev (λn=>F_ab n c) b/\(b=true->FewL c):=by
 have V:=w.dist;have T:=w.mats;have loop:∀(r:List Distance) (i:Nat),c.Distances.drop i=r->i<=c.Distances.length->∃a:Ctl Unit Bool,EvI (λn=>F_dq n c) (i:Int) a/\(a=.done false\/(a=.cont ()/\ ∀d∈r,d.Cutoffs.length<=12/\szPs d.Route<=24)):=by
  intro r
  induction r with
  |nil=>
   intro i s B;refine⟨.cont (),Ej ?_,.inr ⟨rfl,λd h=>by cases h⟩⟩;unfold F_dq;simp only[Yw s B,Vr];exact Qa _
  |cons d r p=>
   intro i s B;obtain⟨e,k⟩:=QI (by omega) s;obtain⟨v,G,t,y⟩:=Qjo 21 d.Route (XU _) (q.len d e.mem) (q.wf d e.mem);have step:Ev (λn=>F_dq n c (i:Int)) (bif (decide ((24:Int)<(v:Int))||(decide (12<(d.Cutoffs.length:Int))||decide (60<(d.Name.length:Int))))then .done (.done false)else .cont ((i+1:Nat):Int)):=by
    unfold F_dq;simp only[e.lt,Vq,e.ix,XK,e.nx];refine Ea (v:=decide ((24:Int)<(v:Int))||(decide (12<(d.Cutoffs.length:Int))||decide (60<(d.Name.length:Int)))) (Ea y (Eu λ_=>Eu λ_=>Qa _)) ?_;cases(decide ((24:Int)<(v:Int))||(decide (12<(d.Cutoffs.length:Int))||decide (60<(d.Name.length:Int))))<;>exact Qa _
   cases f:(decide ((24:Int)<(v:Int))||(decide (12<(d.Cutoffs.length:Int))||decide (60<(d.Name.length:Int))))with
   |true=>
    rw[f]at step;exact⟨.done false,Ej step,.inl rfl⟩
   |false=>
    rw[f]at step;obtain⟨a,j,g⟩:=p (i+1) k (by have:=e.lt';omega);refine⟨a,Ex step j,?_⟩;rcases g with g|⟨g,z⟩
    .exact .inl g
    .refine .inr ⟨g,λx u=>?_⟩;rcases X7.1 u with rfl|u
     .simp only[XY,decide_eq_false_iff_not]at f;have:=t (by omega);exact⟨by omega,by omega⟩
     .exact z x u
 obtain⟨a,j,g⟩:=loop c.Distances 0 rfl (XV _);rcases g with rfl|⟨rfl,z⟩
 .refine⟨false,?_,λh=>by cases h⟩;unfold F_ab;exact Ea j.ev (Qa _)
 .have H:∃a:Ctl Unit Bool,Ev (λn=>iter (F_gr n c) n (0:Int)) a/\(a=.done false\/a=.cont ()):=by
   refine⟨_,QdY c.Mats (λm=> !decide (60<(m.Name.length:Int))) (Ctl.done false) (Ctl.cont ()) (by omega) (λi x e=>?_) ?_,?_⟩
   .unfold F_gr;simp only[e.lt,Vq,e.ix,XK,e.nx];cases decide (60<(x.Name.length:Int))<;>exact Qa _
   .unfold F_gr;simp only[Qav,Vr];exact Qa _
   .cases c.Mats.all (λm=> !decide (60<(m.Name.length:Int)))with
    |true=>exact .inr rfl
    |false=>exact .inl rfl
  obtain⟨E,l,J⟩:=H;rcases J with rfl|rfl
  .refine⟨false,?_,λh=>by cases h⟩;unfold F_ab;exact Ea j.ev (Ea l (Qa _))
  .obtain⟨v,G,t,y⟩:=QhW 21 c.Ties (XU _) hl F;cases f:(decide (12<(c.Mats.length:Int))||(decide (30<(c.Legs.length:Int))||(decide (4<(c.Distances.length:Int))||(decide (6<(c.Waves.length:Int))||(decide (6<(c.Offences.length:Int))||(decide (6<(c.Categories.length:Int))||(decide (6<(c.Prizes.length:Int))||decide (60<(c.Name.length:Int)))))))))with
   |true=>
    refine⟨false,?_,λh=>by cases h⟩;unfold F_ab;refine Ea j.ev (Ea l (Ea (v:=true) (Ew (Eu λ_=>Eu λ_=>Eu λ_=>Eu λ_=>Eu λ_=>Eu λ_=>Eu λ_=>Qa _) f) (Qa _)))
   |false=>
    refine⟨decide ((v:Int)<=100),?_,λh=>?_⟩
    .unfold F_ab;refine Ea j.ev (Ea l (Ea (v:=false) (Ew (Eu λ_=>Eu λ_=>Eu λ_=>Eu λ_=>Eu λ_=>Eu λ_=>Eu λ_=>Qa _) f) (Ea y (Qa _))))
    .have h:=Vw h;have:=t (by omega);simp only[XY,decide_eq_false_iff_not]at f;obtain⟨L,O,N,Q,W,P,M,R⟩:=f;exact⟨by unfold lensC;omega,by omega,z,by omega⟩
set_option maxRecDepth 4000
def openU(f:Fact):U_facts_open_rxk:=
 bif f.Kind==1 then .c0 ()else bif f.Kind==2 then .c1 ()else bif f.Kind==3 then .c2 ()else bif f.Kind==4 then .c3 ()else bif f.Kind==5 then .c4 ()else bif f.Kind==6 then .c5 ()
 else bif f.Kind==7 then .c6 ()else bif f.Kind==8 then .c7 ()else bif f.Kind==9 then .c8 ()else bif f.Kind==10 then
  (bif (f.Ruling.Kind==1)||(f.Ruling.Kind==2)then .c9 (0,0,0,0,0,0)else bif f.Ruling.Kind==3 then .c9 (1,9999,0,255,1,1099511627776)else bif f.Ruling.Kind==4 then .c9 (1,9999,0,255,1,64)else .c9 (1,9999,0,255,0,0))
 else bif f.Kind==11 then .c10 ()else bif f.Kind==12 then .c11 ()else bif f.Kind==13 then .c12 ()else .c13 ()
theorem Qkx(n:Nat)(f:Fact)(b:Int):F_am n f b=some (openU f):=by
 unfold F_am openU;cases(f.Kind==1)with
 |true=>rfl
 |false=>
 cases(f.Kind==2)with
 |true=>rfl
 |false=>
 cases(f.Kind==3)with
 |true=>rfl
 |false=>
 cases(f.Kind==4)with
 |true=>rfl
 |false=>
 cases(f.Kind==5)with
 |true=>rfl
 |false=>
 cases(f.Kind==6)with
 |true=>rfl
 |false=>
 cases(f.Kind==7)with
 |true=>rfl
 |false=>
 cases(f.Kind==8)with
 |true=>rfl
 |false=>
 cases(f.Kind==9)with
 |true=>rfl
 |false=>
 cases(f.Kind==10)with
 |true=>
  cases(f.Ruling.Kind==1)with
  |true=>rfl
  |false=>
  cases(f.Ruling.Kind==2)with
  |true=>rfl
  |false=>
  cases(f.Ruling.Kind==3)with
  |true=>rfl
  |false=>
  cases(f.Ruling.Kind==4)with
  |true=>rfl
  |false=>rfl
 |false=>
 cases(f.Kind==11)with
 |true=>rfl
 |false=>
 cases(f.Kind==12)with
 |true=>rfl
 |false=>
 cases(f.Kind==13)with
 |true=>rfl
 |false=>rfl
def headL:List Ent:=[⟨false,3,1,13⟩,⟨false,0,0,31⟩,⟨false,1,1,1048576⟩,⟨false,2,0,1099511627776⟩]
def bodyL:U_facts_open_rxk->List Ent
 |.c0 _=>[⟨false,4,1,9999⟩,⟨false,5,0,7⟩,⟨false,6,0,31⟩,⟨false,7,(-1099511627776),1099511627776⟩,⟨false,8,0,120⟩,⟨false,9,0,1048576⟩,⟨false,10,0,9999⟩,⟨false,11,0,1048576⟩]
 |.c1 _=>[⟨false,12,0,39⟩,⟨false,13,0,255⟩,⟨false,14,0,1048576⟩,⟨false,15,(-1099511627776),1099511627776⟩]
 |.c2 _=>[⟨false,16,0,39⟩,⟨false,17,0,255⟩,⟨false,18,(-1099511627776),1099511627776⟩,⟨false,19,(-1099511627776),1099511627776⟩,⟨false,20,0,1099511627776⟩]
 |.c3 _=>[⟨false,21,0,39⟩,⟨false,22,0,255⟩,⟨false,23,(-1099511627776),1099511627776⟩,⟨false,24,0,39⟩,⟨false,25,0,255⟩,⟨false,26,(-1099511627776),1099511627776⟩,⟨false,27,(-1099511627776),1099511627776⟩,⟨false,28,(-1099511627776),1099511627776⟩]
 |.c4 _=>[⟨false,29,1,9999⟩,⟨false,30,0,255⟩,⟨false,31,(-1099511627776),1099511627776⟩,⟨false,32,(-1099511627776),1099511627776⟩]
 |.c5 _=>[⟨false,33,0,39⟩,⟨false,34,0,255⟩,⟨false,35,(-1099511627776),1099511627776⟩,⟨false,36,(-1099511627776),1099511627776⟩]
 |.c6 _=>[⟨false,37,1,9999⟩,⟨false,38,1,9999⟩]
 |.c7 _=>[⟨false,39,1,1048576⟩,⟨false,40,1,9999⟩,⟨false,41,0,31⟩,⟨false,42,0,255⟩]
 |.c8 _=>[⟨false,43,1,1048576⟩,⟨false,44,0,9999⟩,⟨false,45,0,1125899906842624⟩,⟨false,46,0,1⟩]
 |.c9 x=>[⟨false,47,1,1048576⟩,⟨false,48,1,2⟩,⟨false,49,1,5⟩,⟨false,50,x.1,x.2.1⟩,⟨false,51,x.2.2.1,x.2.2.2.1⟩,⟨false,52,x.2.2.2.2.1,x.2.2.2.2.2⟩]
 |.c10 _=>[⟨false,53,1,1048576⟩,⟨true,0,0,1⟩]
 |.c11 _=>[]
 |.c12 _=>[⟨false,55,0,31⟩,⟨false,56,1,1048576⟩]
 |.c13 _=>[]
def fineU(f:Fact):U_facts_open_rxk->Bool
 |.c3 _=>decide (f.Sync.Min<=f.Sync.Max)
 |.c4 _=>decide (f.Hand.Lo<=f.Hand.Hi)
 |.c5 _=>decide (f.Silence.Lo<=f.Silence.Hi)
 |.c6 _=>decide (f.Pair.A<f.Pair.B)
 |.c13 _=>false
 |_=>true
def entsS(f:Fact):List Ent:=headL++bodyL (openU f)
def goodE(e:Ent):Bool:=bif e.fl then e.off==0 else decide (e.off<57)&& !(e.off==54)
theorem Qlw(f:Fact):∀e∈entsS f,goodE e=true:=by
 have h:∀u:U_facts_open_rxk,(headL++bodyL u).all goodE=true:=by intro u;cases u<;>rfl
 exact Xt.1 (h (openU f))
theorem QfB(f:Fact):(entsS f).length<=12:=by
 have h:∀u:U_facts_open_rxk,(headL++bodyL u).length<=12:=by intro u;cases u<;>exact XS rfl
 exact h (openU f)
def isI:Option A->Bool
 |some (.int .i64 _)=>true
 |_=>false
theorem QpM{x:Option A}(h:isI x=true):∃v,x=some (.int .i64 v):=by
 unfold isI at h;split at h
 .exact⟨_,rfl⟩
 .cases h
theorem QmR{f:Fact}{b:Int}{e:Ent}(h:goodE e=true):∃v,QfZ (Fact.c f) b e=some v:=by
 unfold goodE at h;unfold QfZ;cases a:e.fl with
 |true=>
  rw[a]at h;simp only[Vq]at h⊢;rw[h];exact⟨b,rfl⟩
 |false=>
  rw[a]at h;simp only[Vr,XX,Vs,Bool.not_eq_true']at h⊢;have all:(List.range 57).all (λo=>(o==54)||isI (Fact.c f)[o]?)=true:=by rfl
  have:=Xt.1 all e.off (List.mem_range.2 h.1);rw[h.2,Bool.false_or]at this;obtain⟨v,d⟩:=QpM this;rw[d];exact⟨v,rfl⟩
theorem Qml{x:Fact}{s v:Int}{e:Ent}(h:goodE e=true):∃q,Qjy Fact.put x s e v=some q:=by
 unfold goodE at h;unfold Qjy;cases a:e.fl with
 |true=>
  rw[a]at h;simp only[Vq]at h⊢;rw[h];exact⟨_,rfl⟩
 |false=>
  rw[a]at h;simp only[Vr,XX,Vs,Bool.not_eq_true']at h⊢;have all:(List.range 57).all (λo=>(o==54)||(Fact.put x o v).isSome)=true:=by rfl
  have:=Xt.1 all e.off (List.mem_range.2 h.1);rw[h.2,Bool.false_or]at this;obtain⟨y,b⟩:=Option.isSome_iff_exists.1 this;rw[b];exact⟨_,rfl⟩
def getV(f:Fact)(b:Int)(e:Ent):Int:=(QfZ (Fact.c f) b e).getD 0
def putV(x:Fact)(s:Int)(e:Ent)(v:Int):Fact×Int:=(Qjy Fact.put x s e v).getD (x,s)
theorem QmS{f:Fact}{b:Int}{e:Ent}(h:goodE e=true):QfZ (Fact.c f) b e=some (getV f b e):=by
 obtain⟨v,a⟩:=QmR (f:=f) (b:=b) h;unfold getV;rw[a];rfl
theorem Qpo{x:Fact}{s v:Int}{e:Ent}(h:goodE e=true):Qjy Fact.put x s e v=some (putV x s e v):=by
 obtain⟨q,a⟩:=Qml (x:=x) (s:=s) (v:=v) h;unfold putV;rw[a];rfl
def inE(f:Fact)(b:Int)(e:Ent):Bool:= !(decide (getV f b e<e.lo))&& !(decide (e.hi<getV f b e))
def numR(f:Fact)(b:Int):List Ent->List Int×Fact×Int->Ctl (List Int×Fact×Int) (List Int×Bool)
 |[],a=>.cont a
 |e::r,a=>bif inE f b e then numR f b r (a.1++[getV f b e],putV a.2.1 a.2.2 e (getV f b e))else .done ([],false)
theorem QhC{α:Type}(l m:List α)(h:l.length+m.length<=1000):app l m=some (l++m):=by
 unfold app;have:Nat.ble (l.length+m.length) Qq=true:=XT (XW h (by decide));rw[this];rfl
theorem Qob(f:Fact)(b:Int)(E:List Ent)(hE:∀e∈E,goodE e=true)(hl:E.length<=12):∀(r:List Ent) (i:Nat) (a:List Int×Fact×Int),E.drop i=r->i<=E.length->a.1.length=i->
  EvI (λn=>F_de n f b E E) (a.1,a.2.1,a.2.2,(i:Int)) (numR f b r a):=by
 intro r
 induction r with
 |nil=>
  intro i a m p g;refine Ej ?_;unfold F_de;simp only[Yw m p,Vr];exact Qa _
 |cons e r q=>
  intro i a m p k;obtain⟨g,j⟩:=QI (by omega) m;have l:=hE e g.mem;have s:=g.lt';unfold numR;cases d:inE f b e with
  |true=>
   have h:=d;unfold inE at h;simp only[XX,Bool.not_eq_true']at h;refine Ex ?_ (q (i+1) (a.1++[getV f b e],putV a.2.1 a.2.2 e (getV f b e)) j (by omega) (by simp[k]));unfold F_de;simp only[g.lt,Vq,g.ix,XK,g.nx,QmS l,h.1,h.2,Vr,Qpo l];rw[QhC a.1 [getV f b e] (by simp;omega)];exact Qa _
  |false=>
   refine Ej ?_;unfold F_de;simp only[g.lt,Vq,g.ix,XK,QmS l];unfold inE at d;cases t:decide (getV f b e<e.lo)with
   |true=>exact Qa _
   |false=>
    rw[t]at d;simp only[Xi,VB,Bool.not_eq_false']at d;simp only[Vr,d,Vq];exact Qa _
def suspB(f:Fact):Int:=bif f.Appeal.Suspends then 1 else 0
def restS(f:Fact):Fact:={Uk with Ruling:={Ur with Kind:=f.Ruling.Kind:Ruling},Kind:=f.Kind:Fact}
def lastF(f x:Fact)(s:Int):Fact:=
 let y:Fact:=bif f.Kind != 10 then {x with Ruling:={x.Ruling with Kind:=0:Ruling}:Fact}else x
 {y with Appeal:={Case:=y.Appeal.Case,Suspends:=s==1:Appeal}:Fact}
def numF(f:Fact):List Int×Bool:=bif fineU f (openU f)then(match numR f (suspB f) (entsS f) ([],restS f,0)with
  |.cont a=>(a.1,lastF f a.2.1 a.2.2==f)
  |.done r=>r)else([],false)
theorem Qlz(n:Nat)(f:Fact):F_ck n ({Uk with Ruling:={Ur with Kind:=f.Ruling.Kind:Ruling}:Fact}) 0 f=some (entsS f):=by
 have a:openU ({({Uk with Ruling:={Ur with Kind:=f.Ruling.Kind:Ruling}:Fact})with Kind:=f.Kind:Fact})=openU f:=rfl;unfold F_ck entsS;rw[Qkx];simp only[XK];rw[a];unfold F_ak;generalize openU f=u;cases u<;>(simp only[XK];unfold bodyL;exact congrArg (Option.bind · _) (QhC _ _ (by simp)))
theorem QkM(f:Fact):Ev (λn=>F_an n f) (numF f):=by
 unfold F_an;refine Ea (v:=suspB f) ?_ ?_
 .unfold suspB;cases f.Appeal.Suspends<;>exact Qa _
 refine Ea (v:=bif fineU f (openU f)then .cont (bodyL (openU f))else .done ([],false)) ?_ ?_
 .simp only[Qkx,XK];unfold F_b F_ff F_dx F_eb F_fi;generalize openU f=u;cases u with
  |c3=>unfold fineU;cases decide (f.Sync.Min<=f.Sync.Max)<;>exact Qa _
  |c4=>unfold fineU;cases decide (f.Hand.Lo<=f.Hand.Hi)<;>exact Qa _
  |c5=>unfold fineU;cases decide (f.Silence.Lo<=f.Silence.Hi)<;>exact Qa _
  |c6=>unfold fineU;cases decide (f.Pair.A<f.Pair.B)<;>exact Qa _
  |_=>exact Qa _
 unfold numF;cases fineU f (openU f)with
 |false=>exact Qa _
 |true=>
  simp only[Vq];have e:app headL (bodyL (openU f))=some (entsS f):=QhC _ _ (by have:=QfB f;unfold entsS at this;rw[X4]at this;omega);unfold F_ak;simp only[XK];refine Ea (EB e) ?_;refine Ea (EB (Qlz 0 f)) ?_;refine Ea (Qob f (suspB f) (entsS f) (Qlw f) (QfB f) (entsS f) 0 ([],restS f,0) rfl (XV _) rfl).ev ?_;cases numR f (suspB f) (entsS f) ([],restS f,0)with
  |done r=>exact Qa _
  |cont a=>
   simp only;refine Ea (v:=bif f.Kind != 10 then {a.2.1 with Ruling:={a.2.1.Ruling with Kind:=0:Ruling}:Fact}else a.2.1) ?_ (Qa _);cases(f.Kind != 10)<;>exact Qa _
def validS(f:Fact):Bool:=(numF f).2
theorem Qaj(f:Fact):Ev (λn=>F_s n f) (bif validS f then 0 else 120):=by
 unfold F_s;refine Ea (QkM f) ?_;unfold validS;cases(numF f).2<;>exact Qa _
theorem Qjh{f:Fact}(h:validS f=true):(f.Kind==0)=false:=by
 cases q:(f.Kind==0)with
 |false=>rfl
 |true=>
  have b:f.Kind=0:=by simpa using q
  have a:openU f=.c13 ():=by unfold openU;rw[b];rfl
  unfold validS numF at h;rw[a]at h;cases h
set_option maxRecDepth 4000
def numN(v:Nat):List Int:=if h:128<=v then orI .u8 (IntKind.u8.wrap (v:Int)) 128::numN (v/128)else[IntKind.u8.wrap (v:Int)]
termination_by v
decreasing_by omega
theorem Qe6{v:Nat}(h:128<=v):numN v=orI .u8 (IntKind.u8.wrap (v:Int)) 128::numN (v/128):=by
 rw[numN,dif_pos h]
theorem QaO{v:Nat}(h:¬128<=v):numN v=[IntKind.u8.wrap (v:Int)]:=by
 rw[numN,dif_neg h]
theorem shr7(v:Nat):Qcv .u64 (v:Int) 7=((v/128:Nat):Int):=by
 show Int.fdiv (v:Int) (2^7)=_;rw[Int.fdiv_eq_ediv_of_nonneg _ (by decide)];omega
theorem QmD:∀(k v:Nat),v<128^(k+1)->(numN v).length<=k+1:=by
 intro k
 induction k with
 |zero=>
  intro v a;rw[QaO (by omega)];simp
 |succ k b=>
  intro v a;by_cases h:128<=v
  .rw[Qe6 h,X2];have:=b (v/128) (by rw[Nat.div_lt_iff_lt_mul (by decide)];rw[Nat.pow_succ]at a;exact a);omega
  .rw[QaO h];simp
theorem Qhb:∀(k v:Nat) (l:List Int),v<128^(k+1)->l.length+k<4294967296->∃(l':List Int) (a:Nat),EvI (λn=>F_fm n) (l,(v:Int)) (l',(a:Int))/\l'++[IntKind.u8.wrap (a:Int)]=l++numN v/\l'.length<=l.length+k:=by
 intro k
 induction k with
 |zero=>
  intro v l b f;refine⟨l,v,Ej ?_,by rw[QaO (by omega)],XU _⟩;unfold F_fm;simp only[YK (show¬(128:Int)<=(v:Int)by omega),Vr];exact Qa _
 |succ k d=>
  intro v l b f;by_cases h:128<=v
  .obtain⟨l',a,i,e,g⟩:=d (v/128) (l++[orI .u8 (IntKind.u8.wrap (v:Int)) 128]) (by rw[Nat.div_lt_iff_lt_mul (by decide)];rw[Nat.pow_succ]at b;exact b) (by simp;omega);refine⟨l',a,Ex ?_ i,?_,?_⟩
   .unfold F_fm;simp only[YT (show(128:Int)<=(v:Int)by omega),Vq,shr7];rw[Qak l _ (by omega)];exact Qa _
   .rw[e,Qe6 h];simp
   .simp at g;omega
  .refine⟨l,v,Ej ?_,by rw[QaO h],by omega⟩;unfold F_fm;simp only[YK (show¬(128:Int)<=(v:Int)by omega),Vr];exact Qa _
theorem Qfw(v:Nat)(l:List Int)(b:v<18446744073709551616)(hl:l.length<=1000000):Ev (λn=>F_u n l (v:Int)) (l++numN v):=by
 obtain⟨e,g,d,a,f⟩:=Qhb 9 v l (Vg b (by decide)) (by omega);unfold F_u;refine Ea d.ev ?_;simp only;rw[Qak e _ (by omega),a];exact Qa _
theorem Qe4{v:Nat}(hv:v<18446744073709551616):(numN v).length<=10:=QmD 9 v (Vg hv (by decide))
def zigI(x:Int):Int:=QeI .u64 (QeP .u64 (IntKind.u64.wrap x) 1) (IntKind.u64.wrap (Qcv .i64 x 63))
theorem wrapU(x:Int):0<=IntKind.u64.wrap x/\IntKind.u64.wrap x<18446744073709551616:=by
 have e:IntKind.u64.wrap x=x%18446744073709551616:=by
  unfold IntKind.wrap;rfl
 rw[e];omega
theorem QgY(x:Int):∃z:Nat,zigI x=(z:Int)/\z<18446744073709551616:=by
 have h:=wrapU ((BitVec.ofInt IntKind.u64.bits (QeP .u64 (IntKind.u64.wrap x) 1)^^^BitVec.ofInt IntKind.u64.bits (IntKind.u64.wrap (Qcv .i64 x 63))).toNat);refine⟨(zigI x).toNat,?_,?_⟩
 .unfold zigI QeI;omega
 .unfold zigI QeI;omega
def oneB(x:Int):List Int:=1::numN (zigI x).toNat
theorem Qib(x:Int):(oneB x).length<=11:=by
 obtain⟨z,b,a⟩:=QgY x;unfold oneB;rw[b];have:=Qe4 a;simp;omega
theorem QiG(l:List Int)(x:Int)(hl:l.length<=100000):Ev (λn=>F_ae n l ({Kind:=1,N:=x,S:=[],L:=[]:Value})) (l++oneB x):=by
 unfold F_ae F_as;rw[Qak l 1 (by omega)];simp only[XK];obtain⟨z,b,d⟩:=QgY x;have a:=b;unfold zigI at a;rw[a];refine Ea (Qfw z (l++[1]) d (by simp;omega)) ((Qa _).eq ?_);unfold oneB;rw[b];simp
def mkV(x:Int):Value:={Kind:=1,N:=x,S:=[],L:=[]:Value}
def listV(l:List Int):Value:={Kind:=3,N:=0,S:=[],L:=l.map mkV:Value}
theorem QjJ(x:Int):Ev (λn=>F_j n (mkV x)) (0,true):=by
 refine YP ?_;show Ev (λn=>B_j (F_j n) n (mkV x)) _;unfold B_j mkV;simp only;cases(x==0)with
 |true=>exact Qa _
 |false=>exact Qa _
theorem Qip(l:List Int)(hl:l.length<=1000):Ev (λn=>F_j n (listV l)) (1,true):=by
 refine YP ?_;show Ev (λn=>B_j (F_j n) n (listV l)) _;unfold B_j listV;simp only;refine Ea (v:=[false,(((l.map mkV).length:Int)==0),(((l.map mkV).length:Int)==0),true]) (Qa _) ?_;refine Ea (v:=false) (Qa _) ?_;refine Ea (v:=(Ctl.cont (0:Int):Ctl Int (Int×Bool))) ?_ (Qa _);refine Ev.iter (λi=>((0:Int),(i:Int))) (l.map mkV).length rfl (λi d=>?_) ?_
 .have a:=JB (x:=(l.map mkV)[i]) (show(l.map mkV).length<=4611686018427387904 by rw[X3];omega) (XL d);have e:∃y,(l.map mkV)[i]=mkV y:=by
   rw[List.getElem_map];exact⟨_,rfl⟩
  obtain⟨y,b⟩:=e;unfold F_gx;simp only[a.lt,Vq,a.ix,XK,a.nx];rw[b];exact Ea (QjJ y) (Qa _)
 .unfold F_gx;simp only[Qav,Vr];exact Qa _
def listB(l:List Int):List Int:=[3]++numN l.length++(l.map oneB).flatten
theorem Qhs(l:List Int)(hl:l.length<=1000):Ev (λn=>F_cd n (listV l)) (listB l):=by
 unfold F_cd;have r:app ([]:List Int) [3]=some [3]:=rfl;rw[r];simp only[XK];have u:IntKind.u64.wrap (((listV l).L.length:Int))=((l.length:Nat):Int):=by
  have:IntKind.u64.wrap (((listV l).L.length:Int))=(((listV l).L.length:Int))%18446744073709551616:=by unfold IntKind.wrap;rfl
  rw[this];unfold listV;rw[X3];omega
 rw[u];have p:=Qe4 (show l.length<18446744073709551616 by omega);refine Ea (Qfw l.length [3] (by omega) (by simp)) ?_;refine Ea (v:=listB l) ?_ (Qa _);have k:∀m:List Int,(m.map oneB).flatten.length<=11*m.length:=by
  intro m
  induction m with
  |nil=>simp
  |cons x m d=>
   have:=Qib x;simp only[Vk,Vm,X4,X2];omega
 have h:=Q3 (step:=λn=>F_gk n (listV l)) (l.map mkV) (λ(a:List Int) (v:Value)=>a++oneB v.N) ([3]++numN l.length) (λa i=>(a,(i:Int))) (λa=>a) (by rw[X3];omega) rfl (λi x a e t=>?_) ?_
 .refine Ew h ?_;have:∀(m:List Int) (a:List Int),(m.map mkV).foldl (λ(a:List Int) (v:Value)=>a++oneB v.N) a=a++(m.map oneB).flatten:=by
   intro m
   induction m with
   |nil=>intro a;simp
   |cons x m d=>intro a;simp only[Vk,XE,Vm];rw[d];simp[mkV]
  rw[this];rfl
 .have s:∃y,x=mkV y:=by
   obtain⟨y,_,q⟩:=Xf.1 e.mem;exact⟨y,q.symm⟩
  obtain⟨y,rfl⟩:=s;have j:a.length<=100000:=by
   have:∀(m:List Int) (a:List Int),((m.map mkV).foldl (λ(a:List Int) (v:Value)=>a++oneB v.N) a).length<=a.length+11*m.length:=by
    intro m
    induction m with
    |nil=>intro a;simp
    |cons x m d=>
     intro a;simp only[Vk,XE,X2];have w:=d (a++oneB (mkV x).N);have f:=Qib (mkV x).N;rw[X4]at w;omega
   have f:=this (l.take i) ([3]++numN l.length);rw[List.map_take, <- t,X4,Xy]at f;simp at f;omega
  unfold F_gk;have b:decide ((i:Int)<((listV l).L.length:Int))=true:=e.lt;have g:idx (listV l).L (i:Int)=some (mkV y):=e.ix;simp only[b,Vq,g,XK,e.nx];refine Ea (QiG a y j) ?_;exact Qa _
 .unfold F_gk;have b:decide (((l.map mkV).length:Int)<((listV l).L.length:Int))=false:=Qav _;simp only[b,Vr];exact Qa _
theorem QmC{f:Fact}{b:Int}:∀(r:List Ent) (a c:List Int×Fact×Int),numR f b r a=.cont c->c.1.length=a.1.length+r.length:=by
 intro r
 induction r with
 |nil=>intro a c h;cases h;rfl
 |cons e r d=>
  intro a c h;unfold numR at h;cases q:inE f b e with
  |false=>rw[q]at h;cases h
  |true=>
   rw[q]at h;have:=d _ _ h;simp at this;rw[this,X2];omega
theorem QmE(f:Fact):(numF f).1.length<=12:=by
 unfold numF;cases fineU f (openU f)with
 |false=>simp
 |true=>
  simp only[Vq];cases h:numR f (suspB f) (entsS f) ([],restS f,0)with
  |cont a=>
   have:=QmC _ _ _ h;have:=QfB f;simp at*;omega
  |done r=>
   have:∀(E:List Ent) (a:List Int×Fact×Int),numR f (suspB f) E a=.done r->r=([],false):=by
    intro E
    induction E with
    |nil=>intro a h;cases h
    |cons e E ih=>
     intro a h;unfold numR at h;cases q:inE f (suspB f) e with
     |false=>rw[q]at h;cases h;rfl
     |true=>rw[q]at h;exact ih _ h
   rw[this _ _ h];simp
def encF(f:Fact):List Int×Int:=bif validS f then(listB (numF f).1,0)else([],120)
theorem QgC(f:Fact):Ev (λn=>F_ah n f) (encF f):=by
 unfold F_ah;refine Ea (QkM f) ?_;have l:=QmE f;unfold encF validS;generalize numF f=r at*;cases h:r.2 with
 |false=>exact Qa _
 |true=>
  simp only[Xh,Vr,Vq];refine Ea (v:=r.1.map mkV) ?_ ?_
  .refine Ew (Q3 r.1 (λ(a:List Value) (x:Int)=>a++[mkV x]) [] (λa i=>(a,(i:Int))) (λa=>a) (by omega) rfl (λi x a d j=>?_) ?_) ?_
   .unfold F_hh;simp only[d.lt,Vq,d.ix,XK,d.nx];have k:a.length<=12:=by
     have:∀(m:List Int) (a:List Value),(m.foldl (λ(a:List Value) (x:Int)=>a++[mkV x]) a).length=a.length+m.length:=by
      intro m
      induction m with
      |nil=>intro a;simp
      |cons x m b=>intro a;simp only[XE,X2];rw[b];simp;omega
     rw[j,this,Xy];simp;omega
    have e:=Qak a (mkV x) (by omega);unfold mkV at e;rw[e];exact Qa _
   .unfold F_hh;simp only[Qav,Vr];exact Qa _
   .have:∀(m:List Int) (a:List Value),m.foldl (λ(a:List Value) (x:Int)=>a++[mkV x]) a=a++m.map mkV:=by
     intro m
     induction m with
     |nil=>intro a;simp
     |cons x m b=>intro a;simp only[XE,Vk];rw[b];simp
    rw[this];rfl
  refine Ea (v:=(listB r.1,0)) ?_ (Qa _);have g:=Qip r.1 (by omega);unfold F_en F_ft;have e:({Kind:=3,N:=0,S:=[],L:=r.1.map mkV:Value})=listV r.1:=rfl;rw[e];refine Ea (v:=0) (Ea g (Qa _)) ?_;unfold F_fe;exact Ea (Qhs r.1 (by omega)) (Qa _)
def cmpI(a b:Int):Int:=bif decide (a<b)then-1 else bif decide (b<a)then 1 else 0
theorem Qhv(n:Nat)(a b:Int):F_t n a b=some (cmpI a b):=by
 unfold F_t F_aq cmpI;simp only[XK,bne_self_eq_false,Vr];cases decide (a<b)with
 |true=>rfl
 |false=>cases decide (b<a)<;>rfl
def orL:List Int->Int
 |[]=>0
 |x::r=>bif x != 0 then x else orL r
theorem ev_or(l:List Int)(hl:l.length<=1000):Ev (λn=>F_cr n l) (orL l):=by
 unfold F_cr;have loop:∀(r:List Int) (i:Nat),l.drop i=r->i<=l.length->EvI (λn=>F_ew n l) (i:Int) (bif orL r==0 then Ctl.cont ()else Ctl.done (orL r)):=by
  intro r
  induction r with
  |nil=>
   intro i d f;refine Ej ?_;unfold F_ew;simp only[Yw d f,Vr];exact Qa _
  |cons x r g=>
   intro i d f;obtain⟨a,b⟩:=QI (by omega) d;have j:=a.lt';unfold orL;cases q:(x != 0)with
   |true=>
    have e:(x==0)=false:=by simpa[bne]using q
    simp only[Vq,e,Vr];refine Ej ?_;unfold F_ew;simp only[a.lt,Vq,a.ix,XK,q];exact Qa _
   |false=>
    simp only[Vr];refine Ex ?_ (g (i+1) b (by omega));unfold F_ew;simp only[a.lt,Vq,a.ix,XK,q,Vr,a.nx];exact Qa _
 refine Ea (loop l 0 rfl (XV _)).ev ?_;cases h:(orL l==0)with
 |true=>
  have e:orL l=0:=by simpa using h
  rw[e];exact Qa _
 |false=>exact Qa _
def cmpF(f g:Fact):Int:=bif orL [cmpI f.At g.At,cmpI f.Crew g.Crew,cmpI f.No g.No] != 0 then orL [cmpI f.At g.At,cmpI f.Crew g.Crew,cmpI f.No g.No]else cmpB (encF f).1 (encF g).1
theorem QbC(f g:Fact):Ev (λn=>F_w n f g) (cmpF f g):=by
 unfold F_w cmpF;simp only[Qhv,XK];refine Ea (ev_or _ (by simp)) ?_;cases(orL [cmpI f.At g.At,cmpI f.Crew g.Crew,cmpI f.No g.No] != 0)with
 |true=>exact Qa _
 |false=>
  simp only[Vr];refine Ea (QgC f) (Ea (QgC g) ?_);exact Qa _
def okS(c:Course)(f:Fact):Bool:=(f.Kind==1)&&(validS f&&(!decide ((c.Distances.length:Int)<=f.Starter.Distance)&& !decide ((c.Waves.length:Int)<=f.Starter.Wave)))
def stepS(c:Course)(m:List (Int×Fact))(f:Fact):List (Int×Fact):=
 bif okS c f then(bif !(Qa3 m f.Starter.Bib)||decide (cmpF f (Ql m f.Starter.Bib Uk)<0)then QX m f.Starter.Bib f else m)else m
def firstS(c:Course)(l:List Fact):List (Int×Fact):=l.foldl (stepS c) []
theorem Qm7(c:Course)(l:List Fact)(hl:l.length<=1048576):Ev (λn=>iter (F_go n c l) n ([],0)) (firstS c l):=by
 refine Q3 l (stepS c) [] (λa i=>(a,(i:Int))) (λa=>a) (by omega) rfl (λi x a ha _=>?_) ?_
 .unfold F_go;simp only[ha.lt,Vq,ha.ix,XK,ha.nx];refine Ea (v:=stepS c a x) ?_ (Qa _);refine Ea (v:= !okS c x) ?_ ?_
  .unfold okS bne;cases(x.Kind==1)with
   |false=>exact Qa _
   |true=>
    refine Ea (Qaj x) ?_;cases validS x with
    |false=>exact Qa _
    |true=>
     simp only[Vq,VB];cases decide ((c.Distances.length:Int)<=x.Starter.Distance)with
     |true=>exact Qa _
     |false=>
      cases decide ((c.Waves.length:Int)<=x.Starter.Wave)<;>exact Qa _
  .unfold stepS;cases okS c x with
   |false=>exact Qa _
   |true=>
    simp only[Xh,Vr,Vq];refine Ea (v:= !(Qa3 a x.Starter.Bib)||decide (cmpF x (Ql a x.Starter.Bib Uk)<0)) (Eu λ_=>Ea (QbC _ _) (Qa _)) ?_;cases(!(Qa3 a x.Starter.Bib)||decide (cmpF x (Ql a x.Starter.Bib Uk)<0))<;>exact Qa _
 .unfold F_go;simp only[Qav,Vr];exact Qa _
theorem Qif{β:Type}(m:List (Int×β))(k:Int):Qa3 m k=(Yn m k).isSome:=by
 unfold Qa3 Yn;rw[Option.isSome_map]
 induction m with
 |nil=>rfl
 |cons p m a=>
  rw[List.any_cons,List.find?_cons,a];cases decide (p.1=k)<;>rfl
theorem Qbl{β:Type}(m:List (Int×β))(k:Int):k∈m.map Prod.fst↔ ∃v,Yn m k=some v:=by
 have h:=Qif m k;rw[<- Option.isSome_iff_exists, <- h];unfold Qa3;simp only[Xu,Vs,Xf]
structure FirstOk (c:Course) (l:List Fact) (m:List (Int×Fact)):Prop where
 nodup:(m.map Prod.fst).Nodup
 ok:∀k f,Yn m k=some f->f.Starter.Bib=k/\okS c f=true/\f∈l
 len:m.length<=l.length
theorem Qie{β:Type}(m:List (Int×β))(k:Int)(v:β):(QX m k v).length<=m.length+1:=by
 have:=congrArg List.length (QdE m k v);rw[X3]at this;rw[this];split<;>simp
theorem Qe7{β:Type}{m:List (Int×β)}(k:Int)(v:β)(h:(m.map Prod.fst).Nodup):((QX m k v).map Prod.fst).Nodup:=by
 have e:=QdE m k v;have f:(QX m k v).map Prod.fst=if k∈m.map Prod.fst then m.map Prod.fst else m.map Prod.fst++[k]:=e
 rw[f];split
 .exact h
 .rename_i i;rw[List.nodup_append];refine⟨h,by simp,λa g b d=>?_⟩;rw[VC]at d;rintro rfl;exact i (d▸g)
theorem QdM(c:Course)(l:List Fact):FirstOk c l (firstS c l):=by
 have j:∀(r:List Fact) (p:List Fact) (m:List (Int×Fact)),FirstOk c p m->FirstOk c (p++r) (r.foldl (stepS c) m):=by
  intro r
  induction r with
  |nil=>intro p m h;simpa using h
  |cons f r s=>
   intro p m h;have n:FirstOk c (p++[f]) (stepS c m f):=by
    have keep:FirstOk c (p++[f]) m:=⟨h.nodup,λk g i=>by obtain⟨a,b,d⟩:=h.ok k g i;exact⟨a,b,List.mem_append_left _ d⟩,by have:=h.len;simp;omega⟩;unfold stepS;cases q:okS c f with
    |false=>exact keep
    |true=>
     simp only[Vq];cases(!(Qa3 m f.Starter.Bib)||decide (cmpF f (Ql m f.Starter.Bib Uk)<0))with
     |false=>exact keep
     |true=>
      refine⟨Qe7 _ _ h.nodup,λk g i=>?_,?_⟩
      .simp only[Vq]at i;rw[Y1]at i;by_cases e:k=f.Starter.Bib
       .rw[Vu e]at i;cases i;exact⟨e.symm,q,by simp⟩
       .rw[Vt e]at i;exact keep.ok k g i
      .have:=Qie m f.Starter.Bib f;have:=h.len;simp only[Vq,X4,List.length_singleton];omega
   have:=s (p++[f]) _ n;simpa using this
 have:=j l [] [] ⟨by simp,(λk f h=>by cases h),XU _⟩;simpa[firstS]using this
theorem Qgm{l m:List Int}(h:l.Perm m):YI ltI l=YI ltI m:=
 Jh ((Qk ltI l).trans (h.trans (Qk ltI m).symm)) (λx _ y _ a b=>by simp[ltI]at*;omega) (QK (Qc0 l)) (QK (Qc0 m))
theorem Qcc{n:Nat}(h:n<=1048576):Nat.ble n Qq=true:=XT (XW h (by decide))
theorem Qk8(n:Nat)(m:List (Int×Fact))(h:m.length<=1048576):F_bi n m=some (YI ltI (m.map Prod.fst)):=by
 unfold F_bi QlG;have a:(List.map Prod.fst m).length<=1048576:=by rw[X3];exact h
 rw[Qcc a,Vq];refine QhD λp b=>?_;unfold sortI;rw[Qcc (by rw[b.length_eq];exact a)];show some (YI ltI p)=_;rw[Qgm b]
def ordF(m:List (Int×Fact)):List Fact:=(YI ltI (m.map Prod.fst)).map λk=>Ql m k Uk
theorem Qh9(m:List (Int×Fact)):(ordF m).length=m.length:=by
 unfold ordF;rw[X3,(Qk _ _).length_eq,X3]
theorem QjR(m:List (Int×Fact))(h:m.length<=1048576):Ev (λn=>F_bl n m) (ordF m):=by
 unfold F_bl F_fh;simp only[XK];refine Ea (v:=YI ltI (m.map Prod.fst)) ⟨0,λn _=>Qk8 n m h⟩ ?_;have f:(YI ltI (m.map Prod.fst)).length=m.length:=by rw[(Qk _ _).length_eq,X3]
 refine Ea (v:=ordF m) ?_ (Qa _);unfold ordF;generalize YI ltI (m.map Prod.fst)=ks at f;have e:ks.map (λk=>Ql m k Uk)=ks.foldl (λ(a:List Fact) k=>a++[Ql m k Uk]) []:=by
  have:∀(r:List Int) (a:List Fact),r.foldl (λ(a:List Fact) k=>a++[Ql m k Uk]) a=a++r.map λk=>Ql m k Uk:=by
   intro r
   induction r with
   |nil=>intro a;simp
   |cons x r d=>intro a;simp only[XE,Vk];rw[d];simp
  rw[this];rfl
 rw[e];refine Q3 ks (λ(a:List Fact) k=>a++[Ql m k Uk]) [] (λa i=>(a,(i:Int))) (λa=>a) (by omega) rfl (λi x a b g=>?_) ?_
 .unfold F_hc;simp only[b.lt,Vq,b.ix,XK,b.nx];have j:a.length=i:=by
   have:∀(r:List Int) (a:List Fact),(r.foldl (λ(a:List Fact) k=>a++[Ql m k Uk]) a).length=a.length+r.length:=by
    intro r
    induction r with
    |nil=>intro a;rfl
    |cons x r d=>intro a;simp only[XE];rw[d];simp;omega
   rw[g,this,Xy];have:=b.lt';simp;omega
  have:=b.lt';rw[Qak a _ (by omega)];exact Qa _
 .unfold F_hc;simp only[Qav,Vr];exact Qa _
def chipK(f:Fact):Int:=f.Starter.Chip
def startF(e:Int)(c:Course)(l:List Fact):List Starter×Int:=bif e != 0 then([],e)else
 bif decide (((ordF (firstS c l)).map chipK).Nodup)then((ordF (firstS c l)).map (·.Starter),0)else([],180)
theorem Qoq(L:List Fact)(hl:L.length<=1048576):Ev (λn=>iter (F_cp n L) n ([],[],0)) (bif decide ((L.map chipK).Nodup)then Ctl.cont (L.map (·.Starter))else Ctl.done ([],180)):=by
 have loop:∀(r:List Fact) (i:Nat),L.drop i=r->i<=L.length->EvI (λn=>F_cp n L) ((L.take i).map (·.Starter),QY chipK true (L.take i),(i:Int))
   (bif QjX (λ_=>true) chipK ((L.take i).map chipK) r then Ctl.cont (L.map (·.Starter))else Ctl.done ([],180)):=by
  intro r
  induction r with
  |nil=>
   intro i g l;refine Ej ?_;have b:L.length<=i:=Xs.1 g;have e:L.take i=L:=VJ b;unfold F_cp;simp only[Yw g l,Vr,e,QjX,Vq];exact Qa _
  |cons f r m=>
   intro i g l;obtain⟨a,h⟩:=QI (by omega) g;have p:=a.lt';have d:=Qap chipK true false (L.take i) (chipK f);simp only[QjX,VB];cases q:((L.take i).map chipK).contains (chipK f)with
   |true=>
    have j:chipK f∈(L.take i).map chipK:=by simpa using q
    rw[Vu j]at d;simp only[Xh,Bool.false_and,Vr];refine Ej ?_;unfold F_cp;simp only[a.lt,Vq,a.ix,XK];rw[show f.Starter.Chip=chipK f from rfl,d];exact Qa _
   |false=>
    have j:¬chipK f∈(L.take i).map chipK:=by
     intro z;have:((L.take i).map chipK).contains (chipK f)=true:=by simpa using z
     rw[q]at this;cases this
    rw[Vt j]at d;simp only[Xi,VB];have k:=m (i+1) h (by omega);rw[a.take,QcY,Xg,Xg]at k;refine Ex ?_ k;unfold F_cp;simp only[a.lt,Vq,a.ix,XK,a.nx];rw[show f.Starter.Chip=chipK f from rfl,d];simp only[Vr];rw[Qak _ _ (by rw[X3,Xy];omega)];exact Qa _
 refine Ew (loop L 0 rfl (XV _)).ev ?_;have:=QkR (λ_=>true) chipK L [] (by simp);simp only[List.take_zero,Vl];rw[this,Xt.2 (λ_ _=>rfl),VB,Vi]
theorem QiH(e:Int)(c:Course)(l:List Fact)(hl:l.length<=16)(he:Ev (λn=>F_i n c) e):Ev (λn=>F_cu n c l) (startF e c l):=by
 unfold F_cu startF;refine Ea he ?_;cases(e != 0)with
 |true=>exact Qa _
 |false=>
  simp only[Vr];refine Ea (Qm7 c l (by omega)) ?_;have h:=QdM c l;have a:=h.len;rw[YK (show¬(4000:Int)<((firstS c l).length:Int)by omega)];refine Jb (Ea (QjR _ (by omega)) ?_);refine Ea (Qoq _ (by rw[Qh9];omega)) ?_;cases decide (((ordF (firstS c l)).map chipK).Nodup)<;>exact Qa _
theorem Qoy{a b:Int}:cmpI a b<0↔a<b:=by
 unfold cmpI;by_cases h:a<b
 .rw[Vv h];simp[h]
 .rw[Vy h];by_cases d:b<a
  .rw[Vv d];simp;omega
  .rw[Vy d];simp;omega
theorem Qp7{a b:Int}:cmpI a b=0↔a=b:=by
 unfold cmpI;by_cases h:a<b
 .rw[Vv h];simp;omega
 .rw[Vy h];by_cases d:b<a
  .rw[Vv d];simp;omega
  .rw[Vy d];simp;omega
set_option maxRecDepth 4000
theorem Qoa(f:Fact)(b:Int):∀(E:List Ent) (a:List Int×Fact×Int),numR f b E a=bif E.all (inE f b)then .cont (a.1++E.map (getV f b),E.foldl (λp e=>putV p.1 p.2 e (getV f b e)) a.2)else .done ([],false):=by
 intro E
 induction E with
 |nil=>intro a;simp[numR]
 |cons e E ih=>
  intro a;unfold numR;rw[List.all_cons];cases h:inE f b e with
  |false=>rfl
  |true=>
   simp only[Vq,VB,Vk,XE];rw[ih];simp
def onlyS(f:Fact):Fact:={Crew:=f.Crew,No:=f.No,At:=f.At,Kind:=f.Kind,Starter:=(bif f.Kind==1 then f.Starter else Uk.Starter),Read:=(bif f.Kind==2 then f.Read else Uk.Read),Beacon:=(bif f.Kind==3 then f.Beacon else Uk.Beacon),Sync:=(bif f.Kind==4 then f.Sync else Uk.Sync),Hand:=(bif f.Kind==5 then f.Hand else Uk.Hand),Silence:=(bif f.Kind==6 then f.Silence else Uk.Silence),Pair:=(bif f.Kind==7 then f.Pair else Uk.Pair),Report:=(bif f.Kind==8 then f.Report else Uk.Report),Protest:=(bif f.Kind==9 then f.Protest else Uk.Protest),Ruling:=(bif f.Kind==10 then f.Ruling else Uk.Ruling),Appeal:=(bif f.Kind==11 then f.Appeal else Uk.Appeal),Void:=(bif f.Kind==13 then f.Void else Uk.Void):Fact}
def numsS(f:Fact):List Int:=[f.Kind,f.Crew,f.No,f.At]++(
 bif f.Kind==1 then[f.Starter.Bib,f.Starter.Distance,f.Starter.Wave,f.Starter.Slot,f.Starter.Age,f.Starter.Chip,f.Starter.Team,f.Starter.Lot]
 else bif f.Kind==2 then[f.Read.Mat,f.Read.Epoch,f.Read.Chip,f.Read.Local]
 else bif f.Kind==3 then[f.Beacon.Mat,f.Beacon.Epoch,f.Beacon.Local,f.Beacon.True,f.Beacon.Err]
 else bif f.Kind==4 then[f.Sync.MatA,f.Sync.EpochA,f.Sync.LocalA,f.Sync.MatB,f.Sync.EpochB,f.Sync.LocalB,f.Sync.Min,f.Sync.Max]
 else bif f.Kind==5 then[f.Hand.Bib,f.Hand.Position,f.Hand.Lo,f.Hand.Hi]
 else bif f.Kind==6 then[f.Silence.Mat,f.Silence.Epoch,f.Silence.Lo,f.Silence.Hi]
 else bif f.Kind==7 then[f.Pair.A,f.Pair.B]
 else bif f.Kind==8 then[f.Report.Case,f.Report.Bib,f.Report.Offence,f.Report.Position]
 else bif f.Kind==9 then[f.Protest.Case,f.Protest.By,f.Protest.Fee,f.Protest.Form]
 else bif f.Kind==10 then[f.Ruling.Case,f.Ruling.Instance,f.Ruling.Kind,f.Ruling.Bib,f.Ruling.Position,f.Ruling.Amount]
 else bif f.Kind==11 then[f.Appeal.Case,suspB f]
 else bif f.Kind==13 then[f.Void.Crew,f.Void.No]else[])
theorem kinds(f:Fact):f.Kind=1\/f.Kind=2\/f.Kind=3\/f.Kind=4\/f.Kind=5\/f.Kind=6\/f.Kind=7\/f.Kind=8\/f.Kind=9\/f.Kind=10\/f.Kind=11\/f.Kind=12\/f.Kind=13\/openU f=.c13 ():=by
 by_cases m:f.Kind=1; · exact .inl m
 by_cases i:f.Kind=2; · exact .inr (.inl i)
 by_cases p:f.Kind=3; · exact .inr (.inr (.inl p))
 by_cases g:f.Kind=4; · exact .inr (.inr (.inr (.inl g)))
 by_cases l:f.Kind=5; · exact .inr (.inr (.inr (.inr (.inl l))))
 by_cases k:f.Kind=6; · exact .inr (.inr (.inr (.inr (.inr (.inl k)))))
 by_cases j:f.Kind=7; · exact .inr (.inr (.inr (.inr (.inr (.inr (.inl j))))))
 by_cases n:f.Kind=8; · exact .inr (.inr (.inr (.inr (.inr (.inr (.inr (.inl n)))))))
 by_cases h:f.Kind=9; · exact .inr (.inr (.inr (.inr (.inr (.inr (.inr (.inr (.inl h))))))))
 by_cases e:f.Kind=10; · exact .inr (.inr (.inr (.inr (.inr (.inr (.inr (.inr (.inr (.inl e)))))))))
 by_cases d:f.Kind=11; · exact .inr (.inr (.inr (.inr (.inr (.inr (.inr (.inr (.inr (.inr (.inl d))))))))))
 by_cases a:f.Kind=12; · exact .inr (.inr (.inr (.inr (.inr (.inr (.inr (.inr (.inr (.inr (.inr (.inl a)))))))))))
 by_cases b:f.Kind=13; · exact .inr (.inr (.inr (.inr (.inr (.inr (.inr (.inr (.inr (.inr (.inr (.inr (.inl b))))))))))))
 refine .inr (.inr (.inr (.inr (.inr (.inr (.inr (.inr (.inr (.inr (.inr (.inr (.inr ?_))))))))))));unfold openU;simp only[VA.2 m,VA.2 i,VA.2 p,VA.2 g,VA.2 l,VA.2 k,VA.2 j,VA.2 n,VA.2 h,VA.2 e,VA.2 d,VA.2 a,VA.2 b,Vr]
def copyS(f:Fact):Fact×Int:=(entsS f).foldl (λp e=>putV p.1 p.2 e (getV f (suspB f) e)) (restS f,0)
theorem Qhc(f:Fact):numF f=bif fineU f (openU f)then(bif (entsS f).all (inE f (suspB f))then((entsS f).map (getV f (suspB f)),lastF f (copyS f).1 (copyS f).2==f)else([],false))else([],false):=by
 unfold numF;rw[Qoa];cases fineU f (openU f)with
 |false=>rfl
 |true=>
  simp only[Vq];cases(entsS f).all (inE f (suspB f))with
  |false=>rfl
  |true=>simp only[Vq,Vi];rfl
theorem QdJ(f:Fact)(h:¬openU f=.c13 ()):lastF f (copyS f).1 (copyS f).2=onlyS f/\(entsS f).map (getV f (suspB f))=numsS f:=by
 rcases kinds f with k|k|k|k|k|k|k|k|k|k|k|k|k|k
 case inr.inr.inr.inr.inr.inr.inr.inr.inr.inr.inl=>
  obtain⟨Cr,No,At,Ki,S,R,B,Sy,Ha,Si,Pa,Re,Pr,Ru,⟨Ca,Su⟩,Vo⟩:=f;simp only at k;subst k;cases Su<;>exact⟨by kernel_rfl,by kernel_rfl⟩
 case inr.inr.inr.inr.inr.inr.inr.inr.inr.inl=>
  obtain⟨Cr,No,At,Ki,S,R,B,Sy,Ha,Si,Pa,Re,Pr,⟨d,b,a,e,j,i⟩,Ap,Vo⟩:=f;simp only at k;subst k;have:∃x,openU ⟨Cr,No,At,10,S,R,B,Sy,Ha,Si,Pa,Re,Pr,⟨d,b,a,e,j,i⟩,Ap,Vo⟩=.c9 x:=by
   unfold openU;show∃x,(bif (a==1)||(a==2)then U_facts_open_rxk.c9 (0,0,0,0,0,0)else bif a==3 then .c9 (1,9999,0,255,1,1099511627776)else bif a==4 then .c9 (1,9999,0,255,1,64)else .c9 (1,9999,0,255,0,0))=.c9 x;cases((a==1)||(a==2))with
   |true=>exact⟨_,rfl⟩
   |false=>
    cases(a==3)with
    |true=>exact⟨_,rfl⟩
    |false=>cases(a==4)<;>exact⟨_,rfl⟩
  obtain⟨x,g⟩:=this;unfold copyS entsS;rw[g];exact⟨by kernel_rfl,by kernel_rfl⟩
 case inr.inr.inr.inr.inr.inr.inr.inr.inr.inr.inr.inr.inr=>exact absurd k h
 all_goals
  obtain⟨Cr,No,At,Ki,S,R,B,Sy,Ha,Si,Pa,Re,Pr,Ru,Ap,Vo⟩:=f;simp only at k;subst k;exact⟨by kernel_rfl,by kernel_rfl⟩
def contS(f:Fact):Bool:=fineU f (openU f)&&(bodyL (openU f)).all (inE f (suspB f))
def headS(f:Fact):Bool:=headL.all (inE f (suspB f))
theorem Qds(f:Fact):validS f=(headS f&&contS f&&(onlyS f==f)):=by
 unfold validS contS headS;rw[Qhc];by_cases h:openU f=.c13 ()
 .have:fineU f (openU f)=false:=by rw[h];rfl
  rw[this];simp
 .obtain⟨a,b⟩:=QdJ f h;rw[a];unfold entsS;rw[List.all_append];cases fineU f (openU f)with
  |false=>simp
  |true=>
   cases headL.all (inE f (suspB f))with
   |false=>rfl
   |true=>cases(bodyL (openU f)).all (inE f (suspB f))<;>rfl
theorem Qjg{f:Fact}(h:validS f=true):(numF f).1=numsS f:=by
 have e:=h;unfold validS at h;rw[Qhc]at h⊢;by_cases q:openU f=.c13 ()
 .have:fineU f (openU f)=false:=by rw[q];rfl
  rw[this]at h;cases h
 .obtain⟨g,d⟩:=QdJ f q;cases a:fineU f (openU f)with
  |false=>rw[a]at h;cases h
  |true=>
   rw[a]at h;cases b:(entsS f).all (inE f (suspB f))with
   |false=>rw[b]at h;cases h
   |true=>exact d
theorem QeJ{f:Fact}(h:validS f=true):onlyS f=f:=by
 rw[Qds]at h;simp only[XX,Vz]at h;exact h.2
theorem QmB{f g:Fact}(a:validS f=true)(hg:validS g=true)(h:numsS f=numsS g):f=g:=by
 have p:=QeJ a;have l:=QeJ hg;rw[<- p, <- l];unfold numsS at h;have d:f.Kind=g.Kind:=by
  simp only[VL,List.cons.injEq]at h;exact h.1
 have W:=Qjh a;rcases kinds f with k|k|k|k|k|k|k|k|k|k|k|k|k|k
 case inr.inr.inr.inr.inr.inr.inr.inr.inr.inr.inr.inr.inr=>
  rw[Qds]at a;unfold contS at a;rw[k]at a;simp[fineU]at a
 all_goals
  have e:=d.symm.trans k;clear a hg d W p l;obtain⟨Cr,No,At,Ki,⟨s1,s2,s3,s4,s5,s6,s7,s8⟩,⟨T,E,s,az⟩,⟨b1,b2,b3,b4,b5⟩,⟨y1,y2,y3,y4,y5,y6,y7,y8⟩,⟨h1,h2,h3,h4⟩,⟨i1,i2,i3,i4⟩,⟨p1,p2⟩,⟨u1,u2,u3,u4⟩,⟨o1,o2,o3,o4⟩,⟨r1,r2,r3,r4,r5,r6⟩,⟨a1,q⟩,⟨v1,v2⟩⟩:=f;obtain⟨Cr',No',At',Ki',⟨G,r,ab,t,av,al,ag,P⟩,⟨m,i,j,n⟩,⟨a5,ar,ac,R,a3⟩,⟨a0,B,F,aa,af,aq,u,z⟩,⟨M,an,ae,aw⟩,⟨V,ay,H,ah⟩,⟨ak,a4⟩,⟨aj,ao,O,Q⟩,⟨J,ax,N,y⟩,⟨X,am,a6,w,L,Y⟩,⟨au,b⟩,⟨x,ai⟩⟩:=g;simp only at k e;subst k;subst e
  first
   |(simp[suspB]at h;simp[onlyS,h];done)
   |(cases q<;>cases b<;>simp[suspB]at h<;>simp[onlyS,h])
set_option maxRecDepth 4000
theorem Qg0(x:Int):IntKind.u64.wrap x=x%18446744073709551616:=by unfold IntKind.wrap;rfl
theorem Qjf(x:Int):IntKind.u8.wrap x=x%256:=by unfold IntKind.wrap;rfl
theorem or8(a b:Int):orI .u8 a b=(((BitVec.ofInt 8 a|||BitVec.ofInt 8 b).toNat:Nat):Int)%256:=by unfold orI;exact Qjf _
theorem QoO(a b:Int):QeI .u64 a b=(((BitVec.ofInt 64 a^^^BitVec.ofInt 64 b).toNat:Nat):Int)%18446744073709551616:=by unfold QeI;exact Qg0 _
theorem or128(v:Nat):orI .u8 (IntKind.u8.wrap (v:Int)) 128=((v%128+128:Nat):Int):=by
 have a:∀m:Fin 256,((BitVec.ofNat 8 m.val|||128#8).toNat)=m.val%128+128:=by decide
 have d:v%256<256:=Nat.mod_lt _ (by decide);have k:(BitVec.ofNat 8 (v%256)|||128#8).toNat=v%256%128+128:=a ⟨v%256,d⟩;have e:BitVec.ofInt 8 ((v:Int)%256)=BitVec.ofNat 8 (v%256):=by
  have:((v:Int)%256)=((v%256:Nat):Int):=by omega
  rw[this];exact BitVec.ofInt_natCast 8 (v%256)
 have b:BitVec.ofInt 8 128=128#8:=by rfl
 rw[or8,Qjf,e,b,k];omega
theorem QdC(v:Nat):numN v=if 128<=v then((v%128+128:Nat):Int)::numN (v/128)else[(v:Int)]:=by
 by_cases h:128<=v
 .rw[Qe6 h,Vu h,or128]
 .rw[QaO h,Vt h,Qjf];congr 1;omega
theorem Qid:∀(v w:Nat) (a b:List Int),numN v++a=numN w++b->v=w/\a=b:=by
 intro v
 induction v using Nat.strongRecOn with
 |_ v f=>
 intro w a b h;rw[QdC v,QdC w]at h;by_cases e:128<=v
 .rw[Vu e]at h;by_cases d:128<=w
  .rw[Vu d]at h;simp only[VL,List.cons.injEq]at h;obtain⟨i,g⟩:=f (v/128) (by omega) (w/128) a b h.2;exact⟨by omega,g⟩
  .rw[Vt d]at h;simp only[VL,List.cons.injEq]at h;omega
 .rw[Vt e]at h;by_cases d:128<=w
  .rw[Vu d]at h;simp only[VL,List.cons.injEq]at h;omega
  .rw[Vt d]at h;simp only[VL,List.cons.injEq,Vi]at h;exact⟨by omega,h.2⟩
theorem Qe5:∀(v:Nat),∀x∈numN v,0<=x/\x<256:=by
 intro v
 induction v using Nat.strongRecOn with
 |_ v d=>
 intro x a;rw[QdC v]at a;by_cases b:128<=v
 .rw[Vu b]at a;rcases X7.1 a with rfl|a
  .omega
  .exact d (v/128) (by omega) x a
 .rw[Vt b]at a;rcases X7.1 a with rfl|a
  .omega
  .cases a
theorem QgX{x:Int}(h0:0<=x)(e:x<9223372036854775808):zigI x=2*x:=by
 unfold zigI QeP;have d:Qcv .i64 x 63=0:=by
  show Int.fdiv x (2^63)=0;rw[Int.fdiv_eq_ediv_of_nonneg _ (by decide)];omega
 have b:(2:Int)^(min (1:Int).toNat IntKind.u64.bits)=2:=by decide
 rw[d,b,QoO];simp only[Qg0];have a:BitVec.ofInt 64 ((0:Int)%18446744073709551616)=0#64:=by rfl
 rw[a,BitVec.xor_zero,BitVec.toNat_ofInt];omega
theorem QgZ{x:Int}(h0:x<0)(e: -9223372036854775808<=x):zigI x= -2*x-1:=by
 unfold zigI QeP;have d:Qcv .i64 x 63= -1:=by
  show Int.fdiv x (2^63)= -1;rw[Int.fdiv_eq_ediv_of_nonneg _ (by decide)];omega
 have b:(2:Int)^(min (1:Int).toNat IntKind.u64.bits)=2:=by decide
 rw[d,b,QoO];simp only[Qg0];have a:BitVec.ofInt 64 ((-1:Int)%18446744073709551616)=BitVec.allOnes 64:=by decide
 rw[a,BitVec.xor_allOnes,BitVec.toNat_not,BitVec.toNat_ofInt];omega
def in63(x:Int):Prop:= -9223372036854775808<=x/\x<9223372036854775808
theorem Qn1{x y:Int}(f:in63 x)(e:in63 y)(h:zigI x=zigI y):x=y:=by
 obtain⟨a,b⟩:=f;obtain⟨c,d⟩:=e;by_cases p:0<=x
 .rw[QgX p b]at h;by_cases q:0<=y
  .rw[QgX q d]at h;omega
  .rw[QgZ (by omega) c]at h;omega
 .rw[QgZ (by omega) a]at h;by_cases q:0<=y
  .rw[QgX q d]at h;omega
  .rw[QgZ (by omega) c]at h;omega
theorem Qia:∀(l m:List Int),l.length=m.length->(∀x∈l,in63 x)->(∀x∈m,in63 x)->(l.map oneB).flatten=(m.map oneB).flatten->l=m
 |[],[],_,_,_,_=>rfl
 |x::l,y::m,hl,h1,h2,h=>by
  simp only[Vk,Vm,oneB,VL,List.cons.injEq,true_and]at h;obtain⟨e1,e2⟩:=Qid _ _ _ _ h;obtain⟨z,p1,p2⟩:=QgY x;obtain⟨z',q1,q2⟩:=QgY y;rw[p1,q1]at e1;have:x=y:=Qn1 (h1 x (by simp)) (h2 y (by simp)) (by rw[p1,q1]at*;simp only[Int.toNat_natCast]at e1;omega);rw[this,Qia l m (by simpa using hl) (λz hz=>h1 z (by simp[hz])) (λz hz=>h2 z (by simp[hz])) e2]
theorem Qlj{l m:List Int}(d:∀x∈l,in63 x)(a:∀x∈m,in63 x)(h:listB l=listB m):l=m:=by
 unfold listB at h;rw[Vj,Vj]at h;simp only[VL,Vi,List.cons.injEq,true_and]at h;obtain⟨e,b⟩:=Qid _ _ _ _ h;exact Qia l m e d a b
theorem Qd9(l:List Int):∀x∈listB l,0<=x/\x<256:=by
 intro x a;unfold listB at a;simp only[VE,VC,List.mem_flatten,Xf]at a;rcases a with(rfl|a)|⟨m,⟨y,_,rfl⟩,a⟩
 .omega
 .exact Qe5 _ x a
 .unfold oneB at a;rcases X7.1 a with rfl|a
  .omega
  .exact Qe5 _ x a
structure CmpOK {α:Type} (c:α->α->Int):Prop where
 swap:∀x y,c y x= -c x y
 trans:∀x y z,c x y<0->c y z<0->c x z<0
 eqt:∀x y z,c x y=0->c x z=c y z
section
variable {α:Type} {c d:α->α->Int}
theorem CmpOK.refl(h:CmpOK c)(x:α):c x x=0:=by have:=h.swap x x;omega
theorem CmpOK.eqr(h:CmpOK c){x y:α}(z:α)(e:c x y=0):c z x=c z y:=by
 rw[h.swap x z,h.swap y z,h.eqt x y z e]
theorem QdZ(h:CmpOK c)(k:CmpOK d):CmpOK λx y=>bif c x y != 0 then c x y else d x y:=by
 refine⟨λx y=>?_,λx y z=>?_,λx y z=>?_⟩
 .show(bif c y x != 0 then c y x else d y x)= -(bif c x y != 0 then c x y else d x y);have e:=h.swap x y;by_cases q:c x y=0
  .have f:c y x=0:=by omega
   rw[q,f];exact k.swap x y
  .have f:¬c y x=0:=by omega
   rw[bne_iff_ne.2 q,bne_iff_ne.2 f];exact e
 .show(bif c x y != 0 then c x y else d x y)<0->(bif c y z != 0 then c y z else d y z)<0->(bif c x z != 0 then c x z else d x z)<0;by_cases q:c x y=0
  .have e:=h.eqt x y z q;rw[q,e];by_cases f:c y z=0
   .rw[f];exact k.trans x y z
   .rw[bne_iff_ne.2 f];intro _ b;exact b
  .rw[bne_iff_ne.2 q];by_cases f:c y z=0
   .have e:=h.eqr x f;rw[f, <- e,bne_iff_ne.2 q];intro a _;exact a
   .rw[bne_iff_ne.2 f];intro a b;have:=h.trans x y z a b;rw[bne_iff_ne.2 (show¬c x z=0 by omega)];exact this
 .show(bif c x y != 0 then c x y else d x y)=0->(bif c x z != 0 then c x z else d x z)=(bif c y z != 0 then c y z else d y z);by_cases q:c x y=0
  .rw[q,h.eqt x y z q];intro e;have e:d x y=0:=e;rw[k.eqt x y z e]
  .rw[bne_iff_ne.2 q];intro e;exact absurd e q
theorem CmpOK.on{β:Type}(h:CmpOK c)(f:β->α):CmpOK λx y=>c (f x) (f y):=
 ⟨λx y=>h.swap _ _,λx y z=>h.trans _ _ _,λx y z=>h.eqt _ _ _⟩
end
theorem cmpI_ok:CmpOK cmpI:=by
 have e:∀a b,cmpI a b=if a<b then-1 else if b<a then 1 else 0:=by
  intro a b;unfold cmpI;by_cases h:a<b
  .rw[Vv h,Vu h];rfl
  .rw[Vy h,Vt h];by_cases d:b<a
   .rw[Vv d,Vu d];rfl
   .rw[Vy d,Vt d];rfl
 refine⟨λx y=>?_,λx y z=>?_,λx y z=>?_⟩
 .rw[e,e];split<;>split<;>omega
 .rw[e,e,e];intro a b;have f:x<y:=by
   by_cases q:x<y
   .exact q
   .rw[Vt q]at a;split at a<;>omega
  have d:y<z:=by
   by_cases q:y<z
   .exact q
   .rw[Vt q]at b;split at b<;>omega
  rw[Vu (by omega)];omega
 .rw[e x y];intro h;have:x=y:=by
   by_cases q:x<y
   .rw[Vu q]at h;omega
   .rw[Vt q]at h;split at h<;>omega
  rw[this]
theorem cb_ok:CmpOK Lib.compareBytes:=by
 have l:∀x y:List UInt8,Lib.compareBytes y x= -Lib.compareBytes x y:=by
  intro x
  induction x with
  |nil=>intro y;cases y<;>simp[Lib.compareBytes]
  |cons a x f=>
   intro y;cases y with
   |nil=>simp[Lib.compareBytes]
   |cons b y=>
    unfold Lib.compareBytes;by_cases h:a<b
    .have j:¬b<a:=by rw[UInt8.lt_iff_toNat_lt]at*;omega
     rw[Vu h,Vt j,Vu h];rfl
    .rw[Vt h];by_cases i:b<a
     .rw[Vu i,Vt h,Vu i]
     .rw[Vt i,Vt i,Vt h];exact f y
 have eq:∀x y:List UInt8,Lib.compareBytes x y=0->x=y:=by
  intro x
  induction x with
  |nil=>intro y h;cases y with
   |nil=>rfl
   |cons b y=>simp[Lib.compareBytes]at h
  |cons a x f=>
   intro y h;cases y with
   |nil=>simp[Lib.compareBytes]at h
   |cons b y=>
    unfold Lib.compareBytes at h;by_cases q:a<b
    .rw[Vu q]at h;omega
    .rw[Vt q]at h;by_cases e:b<a
     .rw[Vu e]at h;omega
     .rw[Vt e]at h;have:a=b:=by
       rw[UInt8.lt_iff_toNat_lt]at q e;exact UInt8.toNat_inj.1 (by omega)
      rw[this,f y h]
 refine⟨l,?_,λx y z h=>by rw[eq x y h]⟩;intro x
 induction x with
 |nil=>
  intro y z h k;cases y with
  |nil=>simp[Lib.compareBytes]at h
  |cons b y=>cases z with
   |nil=>simp[Lib.compareBytes]at k
   |cons d z=>simp[Lib.compareBytes]
 |cons a x f=>
  intro y z h k;cases y with
  |nil=>simp[Lib.compareBytes]at h
  |cons b y=>
   cases z with
   |nil=>simp[Lib.compareBytes]at k
   |cons d z=>
    unfold Lib.compareBytes at h k⊢;simp only[UInt8.lt_iff_toNat_lt]at*;by_cases q:a.toNat<b.toNat
    .by_cases r:b.toNat<d.toNat
     .rw[Vu (by omega)];omega
     .rw[Vt r]at k;by_cases g:d.toNat<b.toNat
      .rw[Vu g]at k;omega
      .rw[Vu (by omega)];omega
    .rw[Vt q]at h;by_cases e:b.toNat<a.toNat
     .rw[Vu e]at h;omega
     .rw[Vt e]at h;by_cases r:b.toNat<d.toNat
      .rw[Vu (by omega)];omega
      .rw[Vt r]at k;by_cases g:d.toNat<b.toNat
       .rw[Vu g]at k;omega
       .rw[Vt g]at k;rw[Vt (by omega),Vt (by omega)];exact f y z h k
theorem Qo6:∀{x y:List UInt8},Lib.compareBytes x y=0->x=y
 |[],[],_=>rfl
 |[],_::_,h=>by simp[Lib.compareBytes]at h
 |_::_,[],h=>by simp[Lib.compareBytes]at h
 |a::x,b::y,h=>by
  unfold Lib.compareBytes at h;by_cases q:a<b
  .rw[Vu q]at h;omega
  .rw[Vt q]at h;by_cases q2:b<a
   .rw[Vu q2]at h;omega
   .rw[Vt q2]at h;have:a=b:=by
     rw[UInt8.lt_iff_toNat_lt]at q q2;exact UInt8.toNat_inj.1 (by omega)
    rw[this,Qo6 h]
theorem QgJ:∀{l m:List Int},(∀x∈l,0<=x/\x<256)->(∀x∈m,0<=x/\x<256)->l.map QbD=m.map QbD->l=m
 |[],[],_,_,_=>rfl
 |[],_::_,_,_,h=>by simp at h
 |_::_,[],_,_,h=>by simp at h
 |x::l,y::m,h1,h2,h=>by
  simp only[Vk,List.cons.injEq]at h;have a1:=h1 x (by simp);have a2:=h2 y (by simp);have e:=congrArg UInt8.toNat h.1;unfold QbD at e;rw[UInt8.toNat_ofNat',UInt8.toNat_ofNat']at e;have:x=y:=by omega
  rw[this,QgJ (λz a=>h1 z (by simp[a])) (λz a=>h2 z (by simp[a])) h.2]
theorem QiQ(f g:Fact):cmpF f g=bif cmpI f.At g.At != 0 then cmpI f.At g.At else bif cmpI f.Crew g.Crew != 0 then cmpI f.Crew g.Crew else bif cmpI f.No g.No != 0 then cmpI f.No g.No else cmpB (encF f).1 (encF g).1:=by
 unfold cmpF orL orL orL orL;generalize cmpI f.At g.At=a;generalize cmpI f.Crew g.Crew=b;generalize cmpI f.No g.No=d;cases e:(a != 0)with
 |true=>simp only[Vq,e]
 |false=>
  simp only[Vr];cases h:(b != 0)with
  |true=>simp only[Vq,h]
  |false=>
   simp only[Vr];cases i:(d != 0)with
   |true=>simp only[Vq,i]
   |false=>rfl
theorem QkQ:CmpOK cmpF:=by
 have h:=QdZ (cmpI_ok.on λf:Fact=>f.At) (QdZ (cmpI_ok.on λf:Fact=>f.Crew) (QdZ (cmpI_ok.on λf:Fact=>f.No) (cb_ok.on λf:Fact=>(encF f).1.map QbD)));have e:cmpF=λf g=>bif cmpI f.At g.At != 0 then cmpI f.At g.At else bif cmpI f.Crew g.Crew != 0 then cmpI f.Crew g.Crew else bif cmpI f.No g.No != 0 then cmpI f.No g.No else cmpB (encF f).1 (encF g).1:=by
  funext f g;exact QiQ f g
 rw[e];exact h
def wideE(e:Ent):Bool:=decide (-1125899906842624<=e.lo)&&decide (e.hi<=1125899906842624)
theorem Qlv(f:Fact):(entsS f).all wideE=true:=by
 unfold entsS;rw[List.all_append,XX];refine⟨rfl,?_⟩;rcases kinds f with k|k|k|k|k|k|k|k|k|k|k|k|k|k
 case inr.inr.inr.inr.inr.inr.inr.inr.inr.inl=>
  unfold openU;rw[k];show(bodyL (bif (f.Ruling.Kind==1)||(f.Ruling.Kind==2)then .c9 (0,0,0,0,0,0)else bif f.Ruling.Kind==3 then .c9 (1,9999,0,255,1,1099511627776)else bif f.Ruling.Kind==4 then .c9 (1,9999,0,255,1,64)else .c9 (1,9999,0,255,0,0))).all wideE=true;cases((f.Ruling.Kind==1)||(f.Ruling.Kind==2))with
  |true=>rfl
  |false=>
   cases(f.Ruling.Kind==3)with
   |true=>rfl
   |false=>cases(f.Ruling.Kind==4)<;>rfl
 case inr.inr.inr.inr.inr.inr.inr.inr.inr.inr.inr.inr.inr=>rw[k];rfl
 all_goals
  unfold openU;rw[k];rfl
theorem Qe3{f:Fact}(h:validS f=true):∀x∈numsS f,in63 x:=by
 have k:=h;unfold validS at h;rw[Qhc]at h;by_cases q:openU f=.c13 ()
 .rw[q]at h;cases h
 .rw[<- (QdJ f q).2];cases a:fineU f (openU f)with
  |false=>rw[a]at h;cases h
  |true=>
   rw[a]at h;cases b:(entsS f).all (inE f (suspB f))with
   |false=>rw[b]at h;cases h
   |true=>
    intro x j;obtain⟨e,i,rfl⟩:=Xf.1 j;have g:=Xt.1 b e i;have d:=Xt.1 (Qlv f) e i;unfold inE at g;unfold wideE at d;simp only[XX,Bool.not_eq_true',decide_eq_false_iff_not,Vs]at g d;unfold in63;omega
theorem QgE{f:Fact}(h:validS f=true):encF f=(listB (numsS f),0):=by
 unfold encF;rw[h,Qjg h];rfl
theorem Qce{f g:Fact}(a:validS f=true)(hg:validS g=true)(h:cmpF f g=0):f=g:=by
 rw[QiQ]at h;have z:cmpB (encF f).1 (encF g).1=0:=by
  cases i:(cmpI f.At g.At != 0)with
  |true=>rw[i]at h;exact absurd h (bne_iff_ne.1 i)
  |false=>
   rw[i]at h;cases b:(cmpI f.Crew g.Crew != 0)with
   |true=>rw[b]at h;exact absurd h (bne_iff_ne.1 b)
   |false=>
    rw[b]at h;cases d:(cmpI f.No g.No != 0)with
    |true=>rw[d]at h;exact absurd h (bne_iff_ne.1 d)
    |false=>rw[d]at h;exact h
 rw[QgE a,QgE hg]at z;have e:=QgJ (Qd9 _) (Qd9 _) (Qo6 z);exact QmB a hg (Qlj (Qe3 a) (Qe3 hg) e)
set_option maxRecDepth 4000
theorem QaN{α:Type}{R:α->α->Prop}(d:∀x,¬R x x)(i:∀x y z,R x y->R y z->R x z):∀{l m:List α},l.Pairwise R->m.Pairwise R->(∀x,x∈l↔x∈m)->l=m
 |[],[],_,_,_=>rfl
 |[],b::m,_,_,h=>by have:=(h b).2 (by simp);cases this
 |a::l,[],_,_,h=>by have:=(h a).1 (by simp);cases this
 |a::l,b::m,hl,hm,h=>by
  rw[Xc]at hl hm;have e:a=b:=by
   rcases X7.1 ((h a).1 (by simp))with e|g
   .exact e
   .rcases X7.1 ((h b).2 (by simp))with e|j
    .exact e.symm
    .exact absurd (i _ _ _ (hl.1 b j) (hm.1 a g)) (d a)
  subst e;congr 1;refine QaN d i hl.2 hm.2 λx=>?_;constructor
  .intro f;rcases X7.1 ((h x).1 (X6 _ f))with e|g
   .subst e;exact absurd (hl.1 x f) (d x)
   .exact g
  .intro f;rcases X7.1 ((h x).2 (X6 _ f))with e|g
   .subst e;exact absurd (hm.1 x f) (d x)
   .exact g
def insC(x:Fact):List Fact->List Fact
 |[]=>[x]
 |y::r=>bif decide (cmpF y x<0)then y::insC x r else bif y==x then y::r else x::y::r
def canonS(l:List Fact):List Fact:=l.foldl (λa x=>bif validS x then insC x a else a) []
def ltF(a b:Fact):Prop:=cmpF a b<0
theorem Qc1(x:Fact):¬ltF x x:=by unfold ltF;have:=QkQ.refl x;omega
theorem QdH(x y z:Fact):ltF x y->ltF y z->ltF x z:=QkQ.trans x y z
theorem Qc3(x:Fact):∀(l:List Fact) (z:Fact),z∈insC x l↔z=x\/z∈l
 |[],z=>by simp[insC]
 |y::r,z=>by
  unfold insC;cases decide (cmpF y x<0)with
  |true=>
   simp only[Vq,X7,Qc3 x r z];constructor
   .rintro(h|h|h)<;>simp[h]
   .rintro(h|h|h)<;>simp[h]
  |false=>
   simp only[Vr];cases h:(y==x)with
   |true=>
    have:y=x:=by simpa using h
    subst this;simp
   |false=>simp
def CanonOK(l:List Fact):Prop:=l.Pairwise ltF/\ ∀f∈l,validS f=true
theorem QkC{x:Fact}(a:validS x=true):∀{l:List Fact},CanonOK l->CanonOK (insC x l)
 |[],_=>⟨by simp[insC],by simp[insC,a]⟩
 |y::r,h=>by
  obtain⟨h1,h2⟩:=h;rw[Xc]at h1;have hr:CanonOK r:=⟨h1.2,λf hf=>h2 f (by simp[hf])⟩;have ih:=QkC a hr;refine⟨?_,λf hf=>?_⟩
  .unfold insC;cases q:decide (cmpF y x<0)with
   |true=>
    simp only[Vq,Xc];refine⟨λz hz=>?_,ih.1⟩;rcases(Qc3 x r z).1 hz with rfl|hz
    .show cmpF y z<0;exact Vw q
    .exact h1.1 z hz
   |false=>
    simp only[Vr];cases q2:(y==x)with
    |true=>simp only[Vq,Xc];exact h1
    |false=>
     simp only[Vr,Xc];have lt:ltF x y:=by
      have d:=Vx q;have b:¬cmpF y x=0:=λe=>by
       have:=Qce (h2 y (by simp)) a e;rw[this]at q2;simp at q2
      have:=QkQ.swap x y;unfold ltF;omega
     refine⟨λz hz=>?_,h1⟩;rcases X7.1 hz with rfl|hz
     .exact lt
     .exact QdH _ _ _ lt (h1.1 z hz)
  .rcases(Qc3 x (y::r) f).1 hf with rfl|hf
   .exact a
   .exact h2 f hf
theorem Jm(l:List Fact):CanonOK (canonS l)/\ ∀f,f∈canonS l↔f∈l/\validS f=true:=by
 have g:∀(r a:List Fact),CanonOK a->CanonOK (r.foldl (λa x=>bif validS x then insC x a else a) a)/\ ∀f,f∈r.foldl (λa x=>bif validS x then insC x a else a) a↔f∈a\/(f∈r/\validS f=true):=by
  intro r
  induction r with
  |nil=>intro a h;exact⟨h,λf=>by simp⟩
  |cons x r i=>
   intro a h;rw[XE];cases q:validS x with
   |false=>
    obtain⟨d,e⟩:=i a h;refine⟨d,λf=>?_⟩;rw[Vr,e f,X7];constructor
    .rintro(a|⟨a,b⟩)
     .exact .inl a
     .exact .inr ⟨.inr a,b⟩
    .rintro(a|⟨rfl|a,b⟩)
     .exact .inl a
     .rw[q]at b;cases b
     .exact .inr ⟨a,b⟩
   |true=>
    obtain⟨d,e⟩:=i (insC x a) (QkC q h);refine⟨d,λf=>?_⟩;rw[Vq,e f,Qc3,X7];constructor
    .rintro((rfl|a)|⟨a,b⟩)
     .exact .inr ⟨.inl rfl,q⟩
     .exact .inl a
     .exact .inr ⟨.inr a,b⟩
    .rintro(a|⟨rfl|a,b⟩)
     .exact .inl (.inr a)
     .exact .inl (.inl rfl)
     .exact .inr ⟨a,b⟩
 obtain⟨d,e⟩:=g l [] ⟨by simp,by simp⟩;exact⟨d,λf=>by rw[canonS,e f];simp⟩
theorem QcH{l m:List Fact}(h:∀f,validS f=true->(f∈l↔f∈m)):canonS l=canonS m:=by
 obtain⟨e,a⟩:=Jm l;obtain⟨b,d⟩:=Jm m;refine QaN Qc1 QdH e.1 b.1 λf=>?_;rw[a f,d f];constructor
 .rintro⟨x,y⟩;exact⟨(h f y).1 x,y⟩
 .rintro⟨x,y⟩;exact⟨(h f y).2 x,y⟩
def FirstIs(c:Course)(l:List Fact)(f:Fact):Prop:=f∈l/\okS c f=true/\ ∀g∈l,okS c g=true->g.Starter.Bib=f.Starter.Bib->¬cmpF g f<0
theorem Qho{c:Course}{l:List Fact}{j:Fact}(z:j∈l)(h0:okS c j=true):∃f,f∈l/\okS c f=true/\(f.Starter.Bib=j.Starter.Bib/\ ∀g∈l,okS c g=true->g.Starter.Bib=f.Starter.Bib->¬cmpF g f<0):=by
 have fin:∀(s:List Fact),(∃g∈s,okS c g=true/\g.Starter.Bib=j.Starter.Bib)->∃f∈s,okS c f=true/\f.Starter.Bib=j.Starter.Bib/\ ∀g∈s,okS c g=true->g.Starter.Bib=j.Starter.Bib->¬cmpF g f<0:=by
  intro s
  induction s with
  |nil=>rintro⟨g,e,_⟩;cases e
  |cons y s t=>
   intro u;by_cases p:okS c y=true/\y.Starter.Bib=j.Starter.Bib
   .by_cases x:∃g∈s,okS c g=true/\g.Starter.Bib=j.Starter.Bib
    .obtain⟨f,w,q,m,n⟩:=t x;by_cases r:cmpF y f<0
     .refine⟨y,by simp,p.1,p.2,?_⟩;intro g e h i;rcases X7.1 e with rfl|e
      .have:=QkQ.refl g;omega
      .intro k;exact n g e h i (QkQ.trans _ _ _ k r)
     .refine⟨f,by simp[w],q,m,?_⟩;intro g e h i;rcases X7.1 e with rfl|e
      .exact r
      .exact n g e h i
    .refine⟨y,by simp,p.1,p.2,?_⟩;intro g e h i;rcases X7.1 e with rfl|e
     .have:=QkQ.refl g;omega
     .exact absurd ⟨g,e,h,i⟩ x
   .have x:∃g∈s,okS c g=true/\g.Starter.Bib=j.Starter.Bib:=by
     obtain⟨g,e,h,i⟩:=u;rcases X7.1 e with rfl|e
     .exact absurd ⟨h,i⟩ p
     .exact⟨g,e,h,i⟩
    obtain⟨f,w,q,m,n⟩:=t x;refine⟨f,by simp[w],q,m,?_⟩;intro g e h i;rcases X7.1 e with rfl|e
    .exact absurd ⟨h,i⟩ p
    .exact n g e h i
 obtain⟨f,w,q,m,n⟩:=fin l ⟨j,z,h0,rfl⟩;exact⟨f,w,q,m,λg a b d=>n g a b (d.trans m)⟩
theorem Jl{c:Course}{f:Fact}(h:okS c f=true):validS f=true:=by
 unfold okS at h;simp only[XX]at h;exact h.2.1
theorem FirstIs.one{c:Course}{l:List Fact}{f g:Fact}(a:FirstIs c l f)(hg:FirstIs c l g)(e:f.Starter.Bib=g.Starter.Bib):f=g:=by
 have d:=a.2.2 g hg.1 hg.2.1 e.symm;have b:=hg.2.2 f a.1 a.2.1 e;have:=QkQ.swap f g;exact Qce (Jl a.2.1) (Jl hg.2.1) (by omega)
theorem QdN(c:Course)(l:List Fact):∀b f,Yn (firstS c l) b=some f↔f.Starter.Bib=b/\FirstIs c l f:=by
 have M:∀(r p:List Fact) (m:List (Int×Fact)),(∀b f,Yn m b=some f↔f.Starter.Bib=b/\FirstIs c p f)->∀b f,Yn (r.foldl (stepS c) m) b=some f↔f.Starter.Bib=b/\FirstIs c (p++r) f:=by
  intro r
  induction r with
  |nil=>intro p m h b f;rw[List.foldl_nil,Vh];exact h b f
  |cons x r R=>
   intro p m h;have V:∀b f,Yn (stepS c m x) b=some f↔f.Starter.Bib=b/\FirstIs c (p++[x]) f:=by
    intro b f;unfold stepS;cases q:okS c x with
    |false=>
     simp only[Vr];rw[h b f];unfold FirstIs;simp only[VE,VC];constructor
     .rintro⟨a,i,s,t⟩;refine⟨a,.inl i,s,?_⟩;rintro g (d|rfl) n j
      .exact t g d n j
      .rw[q]at n;cases n
     .rintro⟨a,i|i,s,t⟩
      .exact⟨a,i,s,λg d n j=>t g (.inl d) n j⟩
      .subst i;rw[q]at s;cases s
    |true=>
     simp only[Vq];have E:Qa3 m x.Starter.Bib=(Yn m x.Starter.Bib).isSome:=Qif m _;cases e:Yn m x.Starter.Bib with
     |none=>
      rw[e]at E;have B:Qa3 m x.Starter.Bib=false:=by simpa using E
      rw[B];simp only[Xi,Bool.true_or,Vq];rw[Y1];have P:∀g∈p,okS c g=true->g.Starter.Bib=x.Starter.Bib->False:=by
       intro g d n j;have:∃f,FirstIs c p f/\f.Starter.Bib=x.Starter.Bib:=by
        obtain⟨f,H,L,N⟩:=Qho d n;exact⟨f,⟨H,L,N.2⟩,N.1.trans j⟩
       obtain⟨f,H,L⟩:=this;have:=(h x.Starter.Bib f).2 ⟨L,H⟩;rw[e]at this;cases this
      by_cases w:b=x.Starter.Bib
      .subst w;rw[Vu rfl];constructor
       .rintro⟨⟩;refine⟨rfl,by simp,q,?_⟩;intro g d G F;rcases VE.1 d with d|d
        .exact(P g d G F).elim
        .rw[VC]at d;subst d;have:=QkQ.refl g;omega
       .rintro⟨n,j,J,O⟩;rcases VE.1 j with d|d
        .exact(P f d J n).elim
        .rw[VC]at d;rw[d]
      .rw[Vt w,h b f];unfold FirstIs;simp only[VE,VC];constructor
       .rintro⟨a,i,s,t⟩;refine⟨a,.inl i,s,?_⟩;rintro g (d|rfl) n j
        .exact t g d n j
        .exact absurd (a.symm.trans j.symm) w
       .rintro⟨a,i|i,s,t⟩
        .exact⟨a,i,s,λg d n j=>t g (.inl d) n j⟩
        .subst i;exact absurd a.symm w
     |some y=>
      rw[e]at E;have B:Qa3 m x.Starter.Bib=true:=by simpa using E
      have u:=(h x.Starter.Bib y).1 e;have W:Ql m x.Starter.Bib Uk=y:=by unfold Ql;rw[e];rfl
      rw[B,W];simp only[Xh,Bool.false_or];cases lt:decide (cmpF x y<0)with
      |true=>
       have lt':=Vw lt;simp only[Vq];rw[Y1];by_cases w:b=x.Starter.Bib
       .subst w;rw[Vu rfl];constructor
        .rintro⟨⟩;refine⟨rfl,by simp,q,?_⟩;intro g d G F;rcases VE.1 d with d|d
         .intro k;exact u.2.2.2 g d G (F.trans u.1.symm) (QkQ.trans _ _ _ k lt')
         .rw[VC]at d;subst d;have:=QkQ.refl g;omega
        .rintro⟨n,j,J,O⟩;rcases VE.1 j with d|d
         .exfalso;have k:=u.2.2.2 f d J (n.trans u.1.symm);have Y:=O x (by simp) q n.symm;have T:=QkQ.swap x f;have X:=QkQ.swap y f;have Q:cmpF f x<=0:=by omega
          rcases Int.lt_or_eq_of_le Q with z|z
          .exact k (QkQ.trans _ _ _ z lt')
          .have:=QkQ.eqt f x y z;omega
         .rw[VC]at d;rw[d]
       .rw[Vt w,h b f];unfold FirstIs;simp only[VE,VC];constructor
        .rintro⟨a,i,s,t⟩;refine⟨a,.inl i,s,?_⟩;rintro g (d|rfl) n j
         .exact t g d n j
         .exact absurd (a.symm.trans j.symm) w
        .rintro⟨a,i|i,s,t⟩
         .exact⟨a,i,s,λg d n j=>t g (.inl d) n j⟩
         .subst i;exact absurd a.symm w
      |false=>
       have lt':=Vx lt;simp only[Vr];rw[h b f];unfold FirstIs;simp only[VE,VC];constructor
       .rintro⟨a,i,s,t⟩;refine⟨a,.inl i,s,?_⟩;rintro g (d|rfl) n j
        .exact t g d n j
        .have:f=y:=FirstIs.one ⟨i,s,t⟩ u.2 (j.symm.trans u.1.symm);rw[this];exact lt'
       .rintro⟨a,i|i,s,t⟩
        .exact⟨a,i,s,λg d n j=>t g (.inl d) n j⟩
        .subst i;have k:=t y (.inl u.2.1) u.2.2.1 u.1;have T:=QkQ.swap f y;have:f=y:=Qce (Jl s) (Jl u.2.2.1) (by omega);subst this;exact⟨a,u.2⟩
   have:=R (p++[x]) _ V;rw[XE];intro b f;rw[this b f,Vj];rfl
 have:=M l [] [] (λb f=>by
  constructor
  .intro h;cases h
  .rintro⟨_,h,_⟩;cases h)
 intro b f;have:=this b f;rw[Vi]at this;exact this
theorem QmH{m:List (Int×Fact)}{f:Fact}(h:∀b f,Yn m b=some f->f.Starter.Bib=b):f∈ordF m↔Yn m f.Starter.Bib=some f:=by
 unfold ordF;rw[Xf];constructor
 .rintro⟨k,e,rfl⟩;obtain⟨v,a⟩:=(Qbl m k).1 ((Qk ltI _).mem_iff.1 e);have:Ql m k Uk=v:=by unfold Ql;rw[a];rfl
  rw[this,h k v a];exact a
 .intro d;refine⟨f.Starter.Bib,(Qk ltI _).mem_iff.2 ((Qbl m _).2 ⟨f,d⟩),?_⟩;unfold Ql;rw[d];rfl
def ltS(f g:Fact):Prop:=f.Starter.Bib<g.Starter.Bib
theorem Qh8{m:List (Int×Fact)}(n:(m.map Prod.fst).Nodup)(h:∀b f,Yn m b=some f->f.Starter.Bib=b):(ordF m).Pairwise ltS:=by
 unfold ordF;rw[List.pairwise_map];have l:=QK (Qc0 (m.map Prod.fst));have i:=Qk ltI (m.map Prod.fst);have g:=i.symm.nodup n;have d:∀k∈YI ltI (m.map Prod.fst),(Ql m k Uk).Starter.Bib=k:=by
  intro k d;obtain⟨v,j⟩:=(Qbl m k).1 (i.mem_iff.1 d);have:Ql m k Uk=v:=by unfold Ql;rw[j];rfl
  rw[this];exact h k v j
 generalize YI ltI (m.map Prod.fst)=ks at*;have e:ks.Pairwise λa b=>a<b:=by
  refine List.Pairwise.imp₂ ?_ l g;intro a b q p;simp[ltI]at q;have:a≠b:=p;omega
 refine List.Pairwise.imp_of_mem (λ{a b} ha hb hab=>?_) e;show(Ql m a Uk).Starter.Bib<(Ql m b Uk).Starter.Bib;rw[d a ha,d b hb];exact hab
theorem Qgr(c:Course)(l:List Fact)(f:Fact):f∈ordF (firstS c l)↔FirstIs c l f:=by
 rw[QmH λb f h=>((QdN c l b f).1 h).1,QdN];exact⟨λh=>h.2,λh=>⟨rfl,h⟩⟩
theorem Qc5(c:Course)(l:List Fact):(ordF (firstS c l)).Pairwise ltS:=Qh8 (QdM c l).nodup λb f h=>((QdN c l b f).1 h).1
theorem Qod(x:Fact):¬ltS x x:=by unfold ltS;omega
theorem QpF(x y z:Fact):ltS x y->ltS y z->ltS x z:=by unfold ltS;omega
theorem QhL{c:Course}{l m:List Fact}(h:∀f,validS f=true->(f∈l↔f∈m)){f:Fact}:FirstIs c l f↔FirstIs c m f:=by
 unfold FirstIs;constructor
 .rintro⟨a,b,d⟩;exact⟨(h f (Jl b)).1 a,b,λg i e j=>d g ((h g (Jl e)).2 i) e j⟩
 .rintro⟨a,b,d⟩;exact⟨(h f (Jl b)).2 a,b,λg i e j=>d g ((h g (Jl e)).1 i) e j⟩
theorem Qiu{c:Course}{l m:List Fact}(h:∀f,validS f=true->(f∈l↔f∈m)):ordF (firstS c l)=ordF (firstS c m):=
 QaN Qod QpF (Qc5 c l) (Qc5 c m) λf=>by rw[Qgr,Qgr,QhL h]
theorem QhX{e:Int}{c:Course}{l m:List Fact}(h:∀f,validS f=true->(f∈l↔f∈m)):startF e c l=startF e c m:=by
 unfold startF;rw[Qiu h]
set_option maxRecDepth 4000
def nb(v lo hi:Int):Bool:= !(decide (v<lo))&& !(decide (hi<v))
theorem QdD(v lo hi:Int):nb v lo hi=true↔lo<=v/\v<=hi:=by
 unfold nb;simp only[XX,Bool.not_eq_true',decide_eq_false_iff_not];omega
def contR(f:Fact):Bool:=
 bif f.Kind==1 then true&&(nb f.Starter.Bib 1 9999&&(nb f.Starter.Distance 0 7&&(nb f.Starter.Wave 0 31&&(nb f.Starter.Slot (-1099511627776) 1099511627776&&(nb f.Starter.Age 0 120&&(nb f.Starter.Chip 0 1048576&&(nb f.Starter.Team 0 9999&&(nb f.Starter.Lot 0 1048576&&true))))))))
 else bif f.Kind==2 then true&&(nb f.Read.Mat 0 39&&(nb f.Read.Epoch 0 255&&(nb f.Read.Chip 0 1048576&&(nb f.Read.Local (-1099511627776) 1099511627776&&true))))
 else bif f.Kind==3 then true&&(nb f.Beacon.Mat 0 39&&(nb f.Beacon.Epoch 0 255&&(nb f.Beacon.Local (-1099511627776) 1099511627776&&(nb f.Beacon.True (-1099511627776) 1099511627776&&(nb f.Beacon.Err 0 1099511627776&&true)))))
 else bif f.Kind==4 then decide (f.Sync.Min<=f.Sync.Max)&&(nb f.Sync.MatA 0 39&&(nb f.Sync.EpochA 0 255&&(nb f.Sync.LocalA (-1099511627776) 1099511627776&&(nb f.Sync.MatB 0 39&&(nb f.Sync.EpochB 0 255&&(nb f.Sync.LocalB (-1099511627776) 1099511627776&&(nb f.Sync.Min (-1099511627776) 1099511627776&&(nb f.Sync.Max (-1099511627776) 1099511627776&&true))))))))
 else bif f.Kind==5 then decide (f.Hand.Lo<=f.Hand.Hi)&&(nb f.Hand.Bib 1 9999&&(nb f.Hand.Position 0 255&&(nb f.Hand.Lo (-1099511627776) 1099511627776&&(nb f.Hand.Hi (-1099511627776) 1099511627776&&true))))
 else bif f.Kind==6 then decide (f.Silence.Lo<=f.Silence.Hi)&&(nb f.Silence.Mat 0 39&&(nb f.Silence.Epoch 0 255&&(nb f.Silence.Lo (-1099511627776) 1099511627776&&(nb f.Silence.Hi (-1099511627776) 1099511627776&&true))))
 else bif f.Kind==7 then decide (f.Pair.A<f.Pair.B)&&(nb f.Pair.A 1 9999&&(nb f.Pair.B 1 9999&&true))
 else bif f.Kind==8 then true&&(nb f.Report.Case 1 1048576&&(nb f.Report.Bib 1 9999&&(nb f.Report.Offence 0 31&&(nb f.Report.Position 0 255&&true))))
 else bif f.Kind==9 then true&&(nb f.Protest.Case 1 1048576&&(nb f.Protest.By 0 9999&&(nb f.Protest.Fee 0 1125899906842624&&(nb f.Protest.Form 0 1&&true))))
 else bif f.Kind==10 then true&&(nb f.Ruling.Case 1 1048576&&(nb f.Ruling.Instance 1 2&&(nb f.Ruling.Kind 1 5&&(bif (f.Ruling.Kind==1)||(f.Ruling.Kind==2)then nb f.Ruling.Bib 0 0&&(nb f.Ruling.Position 0 0&&(nb f.Ruling.Amount 0 0&&true))else bif f.Ruling.Kind==3 then nb f.Ruling.Bib 1 9999&&(nb f.Ruling.Position 0 255&&(nb f.Ruling.Amount 1 1099511627776&&true))else bif f.Ruling.Kind==4 then nb f.Ruling.Bib 1 9999&&(nb f.Ruling.Position 0 255&&(nb f.Ruling.Amount 1 64&&true))else nb f.Ruling.Bib 1 9999&&(nb f.Ruling.Position 0 255&&(nb f.Ruling.Amount 0 0&&true))))))
 else bif f.Kind==11 then true&&(nb f.Appeal.Case 1 1048576&&(nb (suspB f) 0 1&&true))
 else bif f.Kind==12 then true&&true
 else bif f.Kind==13 then true&&(nb f.Void.Crew 0 31&&(nb f.Void.No 1 1048576&&true))
 else false
theorem Qof(f:Fact):(f.Kind=1\/f.Kind=2\/f.Kind=3\/f.Kind=4\/f.Kind=5\/f.Kind=6\/f.Kind=7\/f.Kind=8\/f.Kind=9\/f.Kind=10\/f.Kind=11\/f.Kind=12\/f.Kind=13)\/((f.Kind==1)=false/\(f.Kind==2)=false/\(f.Kind==3)=false/\(f.Kind==4)=false/\(f.Kind==5)=false/\(f.Kind==6)=false/\(f.Kind==7)=false/\(f.Kind==8)=false/\(f.Kind==9)=false/\(f.Kind==10)=false/\(f.Kind==11)=false/\(f.Kind==12)=false/\(f.Kind==13)=false):=by
 by_cases h:1<=f.Kind/\f.Kind<=13
 .left;omega
 .right;simp only[VA,ne_eq];omega
theorem Qnl(f:Fact):contS f=contR f:=by
 rcases Qof f with k|⟨u,y,t,r,p,w,q,s,x,h,i,g,j⟩
 .rcases k with k|k|k|k|k|k|k|k|k|k|k|k|k
  case inr.inr.inr.inr.inr.inr.inr.inr.inr.inl=>
   obtain⟨Cr,No,At,Ki,S,R,B,Sy,Ha,Si,Pa,Re,Pr,⟨n,m,a,d,b,e⟩,Ap,Vo⟩:=f;simp only at k;subst k;have l:openU ⟨Cr,No,At,10,S,R,B,Sy,Ha,Si,Pa,Re,Pr,⟨n,m,a,d,b,e⟩,Ap,Vo⟩=(bif (a==1)||(a==2)then U_facts_open_rxk.c9 (0,0,0,0,0,0)else bif a==3 then .c9 (1,9999,0,255,1,1099511627776)else bif a==4 then .c9 (1,9999,0,255,1,64)else .c9 (1,9999,0,255,0,0)):=rfl;have z:contR ⟨Cr,No,At,10,S,R,B,Sy,Ha,Si,Pa,Re,Pr,⟨n,m,a,d,b,e⟩,Ap,Vo⟩=(true&&(nb n 1 1048576&&(nb m 1 2&&(nb a 1 5&&(bif (a==1)||(a==2)then nb d 0 0&&(nb b 0 0&&(nb e 0 0&&true))else bif a==3 then nb d 1 9999&&(nb b 0 255&&(nb e 1 1099511627776&&true))else bif a==4 then nb d 1 9999&&(nb b 0 255&&(nb e 1 64&&true))else nb d 1 9999&&(nb b 0 255&&(nb e 0 0&&true))))))):=rfl;rw[z];unfold contS;rw[l];cases((a==1)||(a==2))with
   |true=>rfl
   |false=>
    cases(a==3)with
    |true=>rfl
    |false=>cases(a==4)<;>rfl
  case inr.inr.inr.inr.inr.inr.inr.inr.inr.inr.inl=>
   obtain⟨Cr,No,At,Ki,S,R,B,Sy,Ha,Si,Pa,Re,Pr,Ru,⟨Ca,Su⟩,Vo⟩:=f;simp only at k;subst k;cases Su<;>rfl
  all_goals
   obtain⟨Cr,No,At,Ki,S,R,B,Sy,Ha,Si,Pa,Re,Pr,Ru,Ap,Vo⟩:=f;simp only at k;subst k;rfl
 .have l:openU f=.c13 ():=by unfold openU;rw[u,y,t,r,p,w,q,s,x,h,i,g,j];rfl
  unfold contS contR;rw[l,u,y,t,r,p,w,q,s,x,h,i,g,j];rfl
theorem Qil(x:Fact):∀l:List Fact,(insC x l).length<=l.length+1
 |[]=>by simp[insC]
 |y::r=>by
  unfold insC;have:=Qil x r;cases decide (cmpF y x<0)with
  |true=>simp only[Vq,X2];omega
  |false=>cases(y==x)<;>simp
theorem QhB{α:Type}(l m:List α)(h:l.length+m.length<=4000000):app l m=some (l++m):=by
 unfold app;have:Nat.ble (l.length+m.length) Qq=true:=XT (XW h (by decide));rw[this];rfl
theorem QoH{α:Type}[DecidableEq α](l m:List α)(step:Nat->Int->Option (Ctl Int (Ctl Unit Bool)))(hl:l.length<=4611686018427387904)
  (j:∀n s,step n s=(bif decide (s<(l.length:Int))then(idx l s).bind λx=>(idx m s).bind λy=>(bif (x != y)then some (.done (.done false))else some (.cont (IntKind.i64.wrap (s+1))))else some (.done (.cont ())))):
  Ev (λn=>(bif ((l.length:Int) != (m.length:Int))then some false else(Go.Sw.iter (step n) n 0:Option (Ctl Unit Bool)).bind λb11=>match b11 with|.cont sb11=>(some true)|.done sb11=>some sb11)) (decide (l=m)):=by
 by_cases b:l.length=m.length
 .rw[show((l.length:Int) != (m.length:Int))=false by rw[b];simp];simp only[Vr];have loop:∀(r d:List α) (i:Nat),l.drop i=r->m.drop i=d->i<=l.length->EvI step (i:Int) (bif decide (r=d)then Ctl.cont ()else Ctl.done false):=by
   intro r
   induction r with
   |nil=>
    intro d i h a q;have w:l.length<=i:=Xs.1 h;have:d=[]:=by rw[<- a];exact Xs.2 (by omega)
    subst this;refine Ej ?_;refine YG (Qa _) λn=>?_;rw[j,Yw h q];simp
   |cons x r t=>
    intro d i h a q;obtain⟨f,k⟩:=QI hl h;have u:=f.lt';cases d with
    |nil=>
     have w:m.length<=i:=Xs.1 a;omega
    |cons y d=>
     obtain⟨p,g⟩:=QI (by omega) a;by_cases e:x=y
     .subst e;refine Ex ?_ ((t d (i+1) k g (by omega)).eq ?_)
      .refine YG (Qa _) λn=>?_;rw[j,f.lt,f.ix,p.ix,Vq,XK,XK,f.nx];simp
      .congr 1;simp
     .refine Ej ?_;refine YG (Qa _) λn=>?_;rw[j,f.lt,f.ix,p.ix,Vq,XK,XK,bne_iff_ne.2 e];simp[e]
  refine Ea (loop l m 0 rfl rfl (XV _)).ev ?_;cases decide (l=m)<;>exact Qa _
 .rw[show((l.length:Int) != (m.length:Int))=true by rw[bne_iff_ne];omega];refine(Qa _).eq ?_;rw[YK λe=>b (by rw[e])]
theorem QoA(a:Int):0<=Qdc .i64 a 1023/\Qdc .i64 a 1023<1024:=by
 unfold Qdc;have h:(BitVec.ofInt IntKind.i64.bits a&&& BitVec.ofInt IntKind.i64.bits 1023).toNat<=1023:=by
  rw[BitVec.toNat_and];exact XW Nat.and_le_right (by decide)
 generalize(BitVec.ofInt IntKind.i64.bits a&&& BitVec.ofInt IntKind.i64.bits 1023).toNat=m at h;rw[Yr (by omega) (by omega)];omega
theorem Qn3{α:Type}(l:List α)(a:Int)(h:l≠[]):∃(k:Nat) (x:α),nz (l.length:Int)=some ()/\Int.tmod (Qdc .i64 a 1023) (l.length:Int)=(k:Int)/\k<=l.length/\idx l (k:Int)=some x/\x∈l:=by
 have b:=List.length_pos_iff.2 h;obtain⟨f,j⟩:=QoA a;have g:0<=Int.tmod (Qdc .i64 a 1023) (l.length:Int):=Int.tmod_nonneg _ f;have d:Int.tmod (Qdc .i64 a 1023) (l.length:Int)<l.length:=Int.tmod_lt_of_pos _ (by omega);generalize Int.tmod (Qdc .i64 a 1023) (l.length:Int)=i at g d;have e:i.toNat<l.length:=by omega
 refine⟨i.toNat,l[i.toNat],?_,by omega,by omega,YS (XL e),Ve _⟩;unfold nz;rw[show((l.length:Int)==0)=false by rw[VA];omega];rfl
theorem Qjd{c:Course}(h:Course.wf c):CourseOk c:=by
 obtain⟨n,⟨f,e⟩,⟨q,s⟩,⟨d,b⟩,⟨l,k⟩,⟨j,g⟩,⟨i,m⟩,⟨p,r⟩,_⟩:=h;exact⟨n,f,λx a=>(e x a).1,q,d,λx a=>(b x a).1,λx a=>(b x a).2.2.2.1.1,l,λx a=>(k x a).1,j,λx a=>(g x a).1,i,λx a=>(m x a).1,p⟩
theorem Qj7{c:Course}(h:Course.wf c):PartsOk c:=by
 obtain⟨_,_,_,⟨e,b⟩,_⟩:=h;exact⟨λd a=>(b d a).2.1.1,λd a=>(b d a).2.1.2⟩
theorem Qn4{c:Course}(h:Course.wf c):c.Ties.length<=1048576/\ ∀x∈c.Ties,Step.wf x:=by
 obtain⟨_,_,_,_,_,_,_,_,a,_⟩:=h;exact a
theorem QmP:validS Uk=false:=by rfl
theorem Qjj(e:Int)(c:Course)(l:List Fact):(startF e c l).1.length<=l.length:=by
 unfold startF;cases(e != 0)with
 |true=>exact XV _
 |false=>
  simp only[Vr];cases decide (((ordF (firstS c l)).map chipK).Nodup)with
  |false=>exact XV _
  |true=>simp only[Vq];rw[X3,Qh9];exact(QdM c l).len
theorem QcI(l:List Fact):(canonS l).length<=l.length:=by
 have:∀(m a:List Fact),(m.foldl (λa x=>bif validS x then insC x a else a) a).length<=a.length+m.length:=by
  intro m
  induction m with
  |nil=>intro a;simp
  |cons x m b=>
   intro a;rw[XE,X2];have e:=b (bif validS x then insC x a else a);have d:(bif validS x then insC x a else a).length<=a.length+1:=by
    cases validS x with
    |true=>exact Qil x a
    |false=>simp
   omega
 have:=this l [];simpa[canonS]using this
def rulB(k i:Int)(f:Fact):Bool:=(f.Kind==10)&&((f.Ruling.Case==k)&&(f.Ruling.Instance==i))
def repB(k:Int)(f:Fact):Bool:=(f.Kind==8)&&(f.Report.Case==k)
def appB(k:Int)(f:Fact):Bool:=(f.Kind==11)&&(f.Appeal.Suspends&&(f.Appeal.Case==k))
def caseN(f:Fact):Option Int:=bif f.Kind==10 then some f.Ruling.Case else bif f.Kind==8 then some f.Report.Case else bif (f.Kind==11)&&f.Appeal.Suspends then some f.Appeal.Case else none
def fileOf(P:List Fact)(k:Int):Ub:=⟨k,P.filter (rulB k 0),P.filter (rulB k 1),P.filter (rulB k 2),(P.filter (repB k)).map (·.Report),P.any (appB k)⟩
theorem QaL{k i:Int}{f:Fact}(h:rulB k i f=true):caseN f=some k:=by
 unfold rulB at h;rw[XX,XX,Vz (a:=f.Ruling.Case)]at h;unfold caseN;rw[h.1,Vq,h.2.1]
theorem Qgd{k:Int}{f:Fact}(h:repB k f=true):caseN f=some k:=by
 unfold repB at h;rw[XX,Vz,Vz]at h;unfold caseN;rw[h.1,h.2];rfl
theorem QgK{k:Int}{f:Fact}(h:appB k f=true):caseN f=some k:=by
 unfold appB at h;rw[XX,XX,Vz,Vz]at h;unfold caseN;rw[h.1,h.2.1,h.2.2];rfl
theorem Qa7{α:Type}{p:α->Bool}{l:List α}(h:∀x∈l,p x=false):l.filter p=[]:=by
 rw[List.filter_eq_nil_iff];intro x a;rw[h x a];exact Bool.false_ne_true
theorem Qbc{b:Bool}(h:¬b=true):b=false:=by cases b with
 |true=>exact absurd rfl h
 |false=>rfl
theorem QjL{P:List Fact}{k:Int}(h:∀f∈P,caseN f≠some k):fileOf P k=Qau k:=by
 unfold fileOf Qau;rw[Qa7 λf a=>Qbc λq=>h f a (QaL q),Qa7 λf a=>Qbc λq=>h f a (QaL q),Qa7 λf a=>Qbc λq=>h f a (QaL q),
  Qa7 λf a=>Qbc λq=>h f a (Qgd q),show P.any (appB k)=false from List.any_eq_false.2 λf a q=>h f a (QgK q)]
 rfl
theorem Qt{α:Type}(p:α->Bool)(l:List α)(x:α):(l++[x]).filter p=bif p x then l.filter p++[x]else l.filter p:=by
 rw[List.filter_append];cases h:p x<;>simp[h]
theorem Qc6{P:List Fact}{f:Fact}{k:Int}(h:caseN f≠some k):fileOf (P++[f]) k=fileOf P k:=by
 unfold fileOf;rw[Qt,Qt,Qt,Qt,Qbc λq=>h (QaL (i:=0) q),Qbc λq=>h (QaL (i:=1) q),Qbc λq=>h (QaL (i:=2) q),Qbc λq=>h (Qgd q),List.any_append,List.any_cons,List.any_nil,
  Qbc λq=>h (QgK q)]
 simp
structure FilesOf (P:List Fact) (fs:List Ub):Prop where
 num:(fs.map (·.number)).Nodup
 each:∀x∈fs,x=fileOf P x.number
 mem:∀k,k∈fs.map (·.number)↔ ∃f∈P,caseN f=some k
theorem FilesOf.nil:FilesOf [] []:=⟨List.nodup_nil,(λ_ h=>by cases h),λk=>by simp⟩
theorem FilesOf.skip{P:List Fact}{fs:List Ub}{f:Fact}(h:FilesOf P fs)(d:caseN f=none):FilesOf (P++[f]) fs:=by
 refine⟨h.num,λx e=>?_,λk=>?_⟩
 .rw[Qc6 (by rw[d];intro q;cases q)];exact h.each x e
 .rw[h.mem k];constructor
  .rintro⟨g,b,a⟩;exact⟨g,by simp[b],a⟩
  .rintro⟨g,b,a⟩;rcases VE.1 b with q|q
   .exact⟨g,q,a⟩
   .rw[VC.1 q,d]at a;cases a
theorem FilesOf.put{P:List Fact}{fs:List Ub}{f:Fact}{k:Int}{g:Ub->Ub}(h:FilesOf P fs)(u:caseN f=some k)(B:∀x,(g x).number=x.number)(hg:g (fileOf P k)=fileOf (P++[f]) k):FilesOf (P++[f]) (Qbv (Qag fs k) k g):=by
 have t:∀x∈Qag fs k,x=fileOf P x.number:=by
  by_cases q:∃x∈fs,x.number=k
  .rw[Qc4 q];exact h.each
  .have i:∀x∈fs,x.number≠k:=λx d e=>q ⟨x,d,e⟩;rw[QbU i];intro x d;rcases VE.1 d with z|z
   .exact h.each x z
   .rw[VC.1 z];refine(QjL (k:=k) λa r e=>?_).symm;obtain⟨x,d,F⟩:=Xf.1 ((h.mem k).2 ⟨a,r,e⟩);exact i x d F
 have n:((Qag fs k).map (·.number)).Nodup:=by
  by_cases q:∃x∈fs,x.number=k
  .rw[Qc4 q];exact h.num
  .have i:∀x∈fs,x.number≠k:=λx d e=>q ⟨x,d,e⟩;rw[QbU i,Xg,List.nodup_append];refine⟨h.num,by simp,?_⟩;intro a r b H;obtain⟨x,d,rfl⟩:=Xf.1 r;have p:b=k:=by simpa[Qau]using H
   rw[p];exact i x d
 have s:∀j,j∈(Qag fs k).map (·.number)↔j=k\/j∈fs.map (·.number):=by
  intro j;by_cases q:∃x∈fs,x.number=k
  .rw[Qc4 q];constructor
   .exact .inr
   .rintro(rfl|z)
    .obtain⟨x,d,e⟩:=q;exact Xf.2 ⟨x,d,e⟩
    .exact z
  .rw[QbU λx d e=>q ⟨x,d,e⟩,Xg,VE];simp only[Vk,Vl,VC,Qau];exact Or.comm
 have l:(Qbv (Qag fs k) k g).map (·.number)=(Qag fs k).map (·.number):=by
  unfold Qbv;rw[List.map_map];refine List.map_congr_left λx _=>?_;show(bif decide (x.number=k)then g x else x).number=x.number;cases decide (x.number=k)with
  |true=>exact B x
  |false=>rfl
 refine⟨by rw[l];exact n,λx d=>?_,λj=>?_⟩
 .obtain⟨y,G,rfl⟩:=Xf.1 d;have E:=t y G;cases q:decide (y.number=k)with
  |true=>
   have i:=Vw q;show g y=fileOf _ (g y).number;rw[B,i, <- hg, <- i, <- E]
  |false=>
   have i:=Vx q;show y=fileOf _ y.number;rw[Qc6 (by rw[u];intro z;cases z;exact i rfl)];exact E
 .rw[l,s,h.mem j];constructor
  .rintro(rfl|⟨a,w,m⟩)
   .exact⟨f,by simp,u⟩
   .exact⟨a,by simp[w],m⟩
  .rintro⟨a,w,m⟩;rcases VE.1 w with z|z
   .exact .inr ⟨a,z,m⟩
   .rw[VC.1 z,u]at m;cases m;exact .inl rfl
theorem FilesOf.room{P:List Fact}{fs:List Ub}{k:Int}(h:FilesOf P fs)(hl:P.length<1048576):Qd5 (Qag fs k)=true:=by
 have b:∀n,n<=P.length->Nat.ble (n+1) Qq=true:=λn d=>Qcc (by omega);have one:∀j,(λx:Ub=>Nat.ble (x.r0.length+1) Qq&&Nat.ble (x.r1.length+1) Qq&&Nat.ble (x.r2.length+1) Qq&&Nat.ble (x.reports.length+1) Qq) (fileOf P j)=true:=by
  intro j;simp only[fileOf,X3];rw[b _ (VO ..),b _ (VO ..),b _ (VO ..),b _ (VO ..)];rfl
 unfold Qd5;refine Xt.2 λx a=>?_;by_cases q:∃x∈fs,x.number=k
 .rw[Qc4 q]at a;rw[h.each x a];exact one _
 .rw[QbU λx a e=>q ⟨x,a,e⟩]at a;rcases VE.1 a with z|z
  .rw[h.each x z];exact one _
  .rw[VC.1 z];simp only[Qau,List.length_nil];decide
theorem Qd0{f:Fact}(h:validS f=true):headS f=true/\contR f=true/\onlyS f=f:=by
 rw[Qds,XX,XX,Qnl,Vz]at h;exact⟨h.1.1,h.1.2,h.2⟩
theorem Qdr{f:Fact}(h:validS f=true)(k:f.Kind=10):(1<=f.Ruling.Case/\(f.Ruling.Instance=1\/f.Ruling.Instance=2))/\(0<=f.Ruling.Bib/\f.Ruling.Bib<=9999)/\f.Report=Uk.Report:=by
 obtain⟨_,b,m⟩:=Qd0 h;have e:f.Report=(onlyS f).Report:=by rw[m]
 have l:(onlyS f).Report=bif f.Kind==8 then f.Report else Uk.Report:=rfl
 rw[l,k]at e;refine⟨?_,?_,e⟩
 .unfold contR at b;rw[k]at b;have d:(true&&(nb f.Ruling.Case 1 1048576&&(nb f.Ruling.Instance 1 2&&(nb f.Ruling.Kind 1 5&&(bif (f.Ruling.Kind==1)||(f.Ruling.Kind==2)then nb f.Ruling.Bib 0 0&&(nb f.Ruling.Position 0 0&&(nb f.Ruling.Amount 0 0&&true))else bif f.Ruling.Kind==3 then nb f.Ruling.Bib 1 9999&&(nb f.Ruling.Position 0 255&&(nb f.Ruling.Amount 1 1099511627776&&true))else bif f.Ruling.Kind==4 then nb f.Ruling.Bib 1 9999&&(nb f.Ruling.Position 0 255&&(nb f.Ruling.Amount 1 64&&true))else nb f.Ruling.Bib 1 9999&&(nb f.Ruling.Position 0 255&&(nb f.Ruling.Amount 0 0&&true)))))))=true:=b;simp only[XX,QdD]at d;obtain⟨_,a,n,_⟩:=d;exact⟨a.1,by omega⟩
 .unfold contR at b;rw[k]at b;have d:(true&&(nb f.Ruling.Case 1 1048576&&(nb f.Ruling.Instance 1 2&&(nb f.Ruling.Kind 1 5&&(bif (f.Ruling.Kind==1)||(f.Ruling.Kind==2)then nb f.Ruling.Bib 0 0&&(nb f.Ruling.Position 0 0&&(nb f.Ruling.Amount 0 0&&true))else bif f.Ruling.Kind==3 then nb f.Ruling.Bib 1 9999&&(nb f.Ruling.Position 0 255&&(nb f.Ruling.Amount 1 1099511627776&&true))else bif f.Ruling.Kind==4 then nb f.Ruling.Bib 1 9999&&(nb f.Ruling.Position 0 255&&(nb f.Ruling.Amount 1 64&&true))else nb f.Ruling.Bib 1 9999&&(nb f.Ruling.Position 0 255&&(nb f.Ruling.Amount 0 0&&true)))))))=true:=b;simp only[XX]at d;obtain⟨_,_,_,_,a⟩:=d;cases i:((f.Ruling.Kind==1)||(f.Ruling.Kind==2))with
  |true=>rw[i]at a;simp only[Vq,XX,QdD]at a;omega
  |false=>
   rw[i,Vr]at a;cases j:(f.Ruling.Kind==3)with
   |true=>rw[j]at a;simp only[Vq,XX,QdD]at a;omega
   |false=>
    rw[j,Vr]at a;cases g:(f.Ruling.Kind==4)with
    |true=>rw[g]at a;simp only[Vq,XX,QdD]at a;omega
    |false=>rw[g]at a;simp only[Vr,XX,QdD]at a;omega
theorem Qk6{f:Fact}(h:validS f=true)(k:f.Kind=8):1<=f.Report.Case/\(1<=f.Report.Bib/\f.Report.Bib<=9999)/\f.Ruling=Uk.Ruling:=by
 obtain⟨_,b,g⟩:=Qd0 h;have e:f.Ruling=(onlyS f).Ruling:=by rw[g]
 have d:(onlyS f).Ruling=bif f.Kind==10 then f.Ruling else Uk.Ruling:=rfl
 rw[d,k]at e;unfold contR at b;rw[k]at b;have a:(true&&(nb f.Report.Case 1 1048576&&(nb f.Report.Bib 1 9999&&(nb f.Report.Offence 0 31&&(nb f.Report.Position 0 255&&true)))))=true:=b;simp only[XX,QdD]at a;exact⟨a.2.1.1,a.2.2.1,e⟩
theorem Qbx{f:Fact}(k:f.Kind=10)(j:Int):rulB f.Ruling.Case j f=(f.Ruling.Instance==j):=by
 unfold rulB;rw[k];simp
theorem Qhp{P:List Fact}{fs:List Ub}{f:Fact}(h:FilesOf P fs)(hl:P.length<1048576)(r:validS f=true):∃fs',filesStep fs f=some fs'/\FilesOf (P++[f]) fs':=by
 unfold filesStep;cases a:(f.Kind==10)with
 |true=>
  have k:f.Kind=10:=by simpa using a
  obtain⟨⟨_,e⟩,_⟩:=Qdr r k;have m:caseN f=some f.Ruling.Case:=by unfold caseN;rw[a];rfl
  have n:repB f.Ruling.Case f=false:=by unfold repB;rw[k];rfl
  have b:appB f.Ruling.Case f=false:=by unfold appB;rw[k];rfl
  simp only[Vq,h.room hl];unfold filesAdd;rcases e with e|e
  .refine⟨Qbv (Qag fs f.Ruling.Case) f.Ruling.Case λx=>{x with r1:=x.r1++[f]},by rw[e];rfl,h.put m (λx=>rfl) ?_⟩;unfold fileOf;rw[Qt,Qt,Qt,Qt,Qbx k,Qbx k,Qbx k,e,n,List.any_append,List.any_cons,List.any_nil,b];simp
  .refine⟨Qbv (Qag fs f.Ruling.Case) f.Ruling.Case λx=>{x with r2:=x.r2++[f]},by rw[e];rfl,h.put m (λx=>rfl) ?_⟩;unfold fileOf;rw[Qt,Qt,Qt,Qt,Qbx k,Qbx k,Qbx k,e,n,List.any_append,List.any_cons,List.any_nil,b];simp
 |false=>
  simp only[Vr];have g:∀j i,rulB j i f=false:=λj i=>by unfold rulB;rw[a];rfl
  cases l:(f.Kind==8)with
  |true=>
   have k:f.Kind=8:=by simpa using l
   have m:caseN f=some f.Report.Case:=by unfold caseN;rw[a,l];rfl
   have s:repB f.Report.Case f=true:=by unfold repB;rw[k];simp
   have b:appB f.Report.Case f=false:=by unfold appB;rw[k];rfl
   simp only[Vq,h.room hl];refine⟨Qbv (Qag fs f.Report.Case) f.Report.Case λx=>{x with reports:=x.reports++[f.Report]},rfl,h.put m (λx=>rfl) ?_⟩;unfold fileOf;rw[Qt,Qt,Qt,Qt,g,g,g,s,List.any_append,List.any_cons,List.any_nil,b];simp
  |false=>
   simp only[Vr];have n:∀j,repB j f=false:=λj=>by unfold repB;rw[l];rfl
   cases d:(f.Kind==11)with
   |true=>
    simp only[Vq];cases q:f.Appeal.Suspends with
    |true=>
     have m:caseN f=some f.Appeal.Case:=by unfold caseN;rw[a,l,d,q];rfl
     have p:appB f.Appeal.Case f=true:=by unfold appB;rw[d,q];simp
     refine⟨Qbv (Qag fs f.Appeal.Case) f.Appeal.Case λx=>{x with appeal:=true},rfl,h.put m (λx=>rfl) ?_⟩;unfold fileOf;rw[Qt,Qt,Qt,Qt,g,g,g,n,List.any_append,List.any_cons,List.any_nil,p];simp
    |false=>exact⟨_,rfl,h.skip (by unfold caseN;rw[a,l,d,q];rfl)⟩
   |false=>exact⟨_,rfl,h.skip (by unfold caseN;rw[a,l,d];rfl)⟩
def voidB(C:List Fact)(f:Fact):Bool:=(f.Kind==10)&&C.any λg=>rulB f.Ruling.Case f.Ruling.Instance g&&decide (cmpF g f<0)
def voidS(C:List Fact):List Fact:=C.filter (voidB C)
theorem QhV{l:List Fact}(h:l.Pairwise ltF)(f:Fact):f∈l.drop 1↔f∈l/\ ∃g∈l,ltF g f:=by
 cases l with
 |nil=>simp
 |cons a r=>
  rw[Xc]at h;simp only[List.drop_succ_cons,List.drop_zero];constructor
  .intro b;exact⟨by simp[b],a,by simp,h.1 f b⟩
  .rintro⟨b,g,e,d⟩;rcases X7.1 b with rfl|b
   .rcases X7.1 e with rfl|e
    .exact absurd d (Qc1 _)
    .exact absurd (QdH _ _ _ (h.1 g e) d) (Qc1 _)
   .exact b
theorem Ql7{C:List Fact}(n:CanonOK C){fs:List Ub}(h:FilesOf C fs)(f:Fact):f∈voidS C↔ ∃x∈fs,f∈x.r0.drop 1\/f∈x.r1.drop 1\/f∈x.r2.drop 1:=by
 have sub:∀p:Fact->Bool,(C.filter p).Pairwise ltF:=λp=>n.1.filter p;have one:∀k i,f∈(C.filter (rulB k i)).drop 1->f∈voidS C:=by
  intro k i a;obtain⟨d,g,b,j⟩:=(QhV (sub _) f).1 a;rw[Xe]at d b;have q:=d.2;unfold rulB at q;simp only[XX,Vz]at q;unfold voidS;rw[Xe];refine⟨d.1,?_⟩;unfold voidB;rw[q.1,q.2.1,q.2.2];exact Xu.2 ⟨g,b.1,by rw[b.2,VB];exact Vv (show cmpF g f<0 from j)⟩
 constructor
 .intro a;unfold voidS at a;rw[Xe]at a;obtain⟨d,b⟩:=a;unfold voidB at b;rw[XX,Xu]at b;obtain⟨k,g,u,j⟩:=b;rw[XX]at j;have r:f.Kind=10:=by simpa using k
  have t:caseN f=some f.Ruling.Case:=by unfold caseN;rw[k];rfl
  obtain⟨x,m,e⟩:=Xf.1 ((h.mem f.Ruling.Case).2 ⟨f,d,t⟩);have ex:=h.each x m;rw[e]at ex;have s:∀i,f.Ruling.Instance=i->f∈(C.filter (rulB f.Ruling.Case i)).drop 1:=by
   rintro i rfl;refine(QhV (sub _) f).2 ⟨Xe.2 ⟨d,by rw[Qbx r];simp⟩,g,Xe.2 ⟨u,j.1⟩,(show cmpF g f<0 from Vw j.2)⟩
  refine⟨x,m,?_⟩;rw[ex];obtain⟨⟨_,l⟩,_⟩:=Qdr (n.2 f d) r;rcases l with l|l
  .exact .inr (.inl (s 1 l))
  .exact .inr (.inr (s 2 l))
 .rintro⟨x,m,a⟩;have ex:=h.each x m;rw[ex]at a;rcases a with a|a|a
  .exact one _ _ a
  .exact one _ _ a
  .exact one _ _ a
def refOf(f:Fact):Ref:={Crew:=f.Crew,No:=f.No:Ref}
def voidR(l:List Fact):List Ref:=(voidS (canonS l)).map refOf
def standB(vs:List Ref)(k:Int)(f:Fact):Bool:=(f.Kind==10)&&((f.Ruling.Case==k)&& !(vs.any λr=>decide (r=refOf f)))
def firstRep(C:List Fact)(k:Int):Option Fact:=C.find? (repB k)
def about(l:List Fact)(k:Int):List Fact:=l.filter (λf=>validS f&&standB (voidR l) k f)++(firstRep (canonS l) k).toList
def SameF(l m:List Fact):Prop:=∀f,validS f=true->(f∈l↔f∈m)
theorem SameF.symm{l m:List Fact}(h:SameF l m):SameF m l:=λf hf=>(h f hf).symm
theorem SameF.filter{l m:List Fact}(h:SameF l m)(p:Fact->Bool):SameF (l.filter p) (m.filter p):=λf hf=>by rw[Xe,Xe,h f hf]
theorem SameF.voidR{l m:List Fact}(h:SameF l m):voidR l=voidR m:=by unfold Go.Sw.voidR;rw[QcH h]
theorem QgN{l:List Fact}{k:Int}{f:Fact}:f∈about l k↔(f∈l/\validS f=true/\standB (voidR l) k f=true)\/firstRep (canonS l) k=some f:=by
 unfold about;rw[VE,Xe,XX,Option.mem_toList]
theorem QaT{l m:List Fact}(h:SameF l m)(k:Int):∀f,f∈about l k↔f∈about m k:=by
 intro f;rw[QgN,QgN,h.voidR,QcH h];constructor
 .rintro(⟨a,b,c⟩|a)
  .exact .inl ⟨(h f b).1 a,b,c⟩
  .exact .inr a
 .rintro(⟨a,b,c⟩|a)
  .exact .inl ⟨(h f b).2 a,b,c⟩
  .exact .inr a
theorem Qed{l:List Fact}{k:Int}{f:Fact}(h:firstRep (canonS l) k=some f):f∈l/\validS f=true/\repB k f=true:=by
 have e:=List.mem_of_find?_eq_some h;have d:=List.find?_some h;obtain⟨a,b⟩:=((Jm l).2 f).1 e;exact⟨a,b,d⟩
theorem Qnr{l:List Fact}{k:Int}{f:Fact}(h:f∈about l k):f∈l/\validS f=true/\((f.Kind=10/\f.Ruling.Case=k)\/(f.Kind=8/\f.Report.Case=k)):=by
 rcases QgN.1 h with⟨a,b,c⟩|a
 .refine⟨a,b,.inl ?_⟩;unfold standB at c;simp only[XX,Vz]at c;exact⟨c.1,c.2.1⟩
 .obtain⟨a,b,c⟩:=Qed a;refine⟨a,b,.inr ?_⟩;unfold repB at c;simp only[XX,Vz]at c;exact c
theorem QiT{α:Type}{l m:List α}(h:∀x,x∈l↔x∈m)(p:α->Bool):l.any p=m.any p:=by
 rw[XZ,Xu,Xu];constructor
 .rintro⟨x,a,b⟩;exact⟨x,(h x).1 a,b⟩
 .rintro⟨x,a,b⟩;exact⟨x,(h x).2 a,b⟩
theorem QfC{α:Type}{l m:List α}(h:∀x,x∈l↔x∈m):l.isEmpty=m.isEmpty:=by
 rw[XZ,List.isEmpty_iff,List.isEmpty_iff,List.eq_nil_iff_forall_not_mem,List.eq_nil_iff_forall_not_mem];constructor
 .intro a x b;exact a x ((h x).2 b)
 .intro a x b;exact a x ((h x).1 b)
def repStep(k:Int)(r f:Fact):Fact:=bif validS f&&repB k f then(bif (r.Kind==0)||decide (cmpF f r<0)then f else r)else r
structure RepOf (k:Int) (P:List Fact) (r:Fact):Prop where
 none:(r.Kind==0)=true->r=Uk/\ ∀f∈P,validS f=true->repB k f=false
 some:(r.Kind==0)=false->r∈P/\validS r=true/\repB k r=true/\ ∀f∈P,validS f=true->repB k f=true->¬cmpF f r<0
theorem Qgc{k:Int}{f:Fact}(h:repB k f=true):(f.Kind==0)=false:=by
 unfold repB at h;rw[XX,Vz]at h;rw[h.1];rfl
theorem RepOf.nil(k:Int):RepOf k [] Uk:=⟨λ_=>⟨rfl,λ_ h=>by cases h⟩,λh=>by cases h⟩
theorem RepOf.step{k:Int}{P:List Fact}{r f:Fact}(h:RepOf k P r):RepOf k (P++[f]) (repStep k r f):=by
 unfold repStep;cases q:validS f&&repB k f with
 |false=>
  simp only[Vr];have n:¬(validS f=true/\repB k f=true):=λz=>by rw[z.1,z.2]at q;cases q
  refine⟨λz=>⟨(h.none z).1,λg l i=>?_⟩,λz=>?_⟩
  .rcases VE.1 l with w|w
   .exact(h.none z).2 g w i
   .rw[VC.1 w]at i⊢;exact Qbc λy=>n ⟨i,y⟩
  .obtain⟨a,b,c,d⟩:=h.some z;refine⟨by simp[a],b,c,λg l i j=>?_⟩;rcases VE.1 l with w|w
   .exact d g w i j
   .rw[VC.1 w]at i j;exact absurd ⟨i,j⟩ n
 |true=>
  rw[XX]at q;simp only[Vq];cases z:(r.Kind==0)with
  |true=>
   simp only[Bool.true_or,Vq];refine⟨λw=>(by rw[Qgc q.2]at w;cases w),λ_=>⟨by simp,q.1,q.2,λg l i j=>?_⟩⟩;rcases VE.1 l with w|w
   .rw[(h.none z).2 g w i]at j;cases j
   .rw[VC.1 w];have:=QkQ.refl f;omega
  |false=>
   simp only[Bool.false_or];obtain⟨a,b,c,d⟩:=h.some z;cases y:decide (cmpF f r<0)with
   |true=>
    have m:=Vw y;simp only[Vq];refine⟨λw=>(by rw[Qgc q.2]at w;cases w),λ_=>⟨by simp,q.1,q.2,λg l i j=>?_⟩⟩;rcases VE.1 l with w|w
    .intro e;exact d g w i j (QkQ.trans _ _ _ e m)
    .rw[VC.1 w];have:=QkQ.refl f;omega
   |false=>
    have m:=Vx y;simp only[Vr];refine⟨λw=>(by rw[z]at w;cases w),λ_=>⟨by simp[a],b,c,λg l i j=>?_⟩⟩;rcases VE.1 l with w|w
    .exact d g w i j
    .rw[VC.1 w];exact m
theorem Qn6(k:Int)(l:List Fact):RepOf k l (l.foldl (repStep k) Uk):=by
 have b:∀(r p:List Fact) (a:Fact),RepOf k p a->RepOf k (p++r) (r.foldl (repStep k) a):=by
  intro r
  induction r with
  |nil=>intro p a h;rw[Vh];exact h
  |cons f r d=>
   intro p a h;rw[XE,show p++f::r=(p++[f])++r by simp];exact d _ _ h.step
 exact b l [] Uk (RepOf.nil k)
theorem QjB{C:List Fact}(d:C.Pairwise ltF){p:Fact->Bool}{f:Fact}(h:C.find? p=some f):∀g∈C,p g=true->¬cmpF g f<0:=by
 induction C with
 |nil=>cases h
 |cons a C ih=>
  rw[Xc]at d;rw[List.find?_cons]at h;cases q:p a with
  |true=>
   rw[q]at h;cases h;intro g b _;rcases X7.1 b with rfl|b
   .have:=QkQ.refl g;omega
   .have:=d.1 g b;unfold ltF at this;have:=QkQ.swap f g;omega
  |false=>
   rw[q]at h;intro g b e;rcases X7.1 b with rfl|b
   .rw[q]at e;cases e
   .exact ih d.2 h g b e
theorem Qlb(k:Int)(l:List Fact):(l.foldl (repStep k) Uk=Uk/\firstRep (canonS l) k=none)\/(((l.foldl (repStep k) Uk).Kind==0)=false/\firstRep (canonS l) k=some (l.foldl (repStep k) Uk)):=by
 have h:=Qn6 k l;obtain⟨m,g⟩:=Jm l;generalize l.foldl (repStep k) Uk=r at*;cases z:(r.Kind==0)with
 |true=>
  obtain⟨a,b⟩:=h.none z;refine .inl ⟨a,List.find?_eq_none.2 λf p=>?_⟩;obtain⟨s,n⟩:=(g f).1 p;rw[b f s n];exact Bool.false_ne_true
 |false=>
  obtain⟨a,b,c,d⟩:=h.some z;refine .inr ⟨rfl,?_⟩;have i:r∈canonS l:=(g r).2 ⟨a,b⟩;cases q:firstRep (canonS l) k with
  |none=>exact absurd c (by have:=List.find?_eq_none.1 q r i;exact this)
  |some f=>
   obtain⟨t,e,j⟩:=Qed q;have w:=QjB m.1 q r i c;have u:=d f t e j;have x:=QkQ.swap f r;rw[Qce e b (by omega)]
def bibOf(f:Fact):Int:=f.Report.Bib+f.Ruling.Bib
def whoB(ab:List Fact)(b:Int):Bool:= !(b==0)&&ab.any λf=>bibOf f==b
theorem QlF{l:List Fact}{k:Int}{f:Fact}(h:f∈about l k):0<=bibOf f/\bibOf f<=9999:=by
 obtain⟨_,b,q|q⟩:=Qnr h
 .obtain⟨_,d,a⟩:=Qdr b q.1;unfold bibOf;rw[a,show Uk.Report.Bib=0 from rfl];omega
 .obtain⟨_,d,a⟩:=Qk6 b q.1;unfold bibOf;rw[a,show Uk.Ruling.Bib=0 from rfl];omega
def maxAt(ab:List Fact):Int:=ab.foldl (λa f=>max a f.At) 0
theorem Qig(b:List Fact):∀a:Int,a<=b.foldl (λa f=>max a f.At) a/\(∀f∈b,f.At<=b.foldl (λa f=>max a f.At) a)/\(b.foldl (λa f=>max a f.At) a=a\/ ∃f∈b,f.At=b.foldl (λa f=>max a f.At) a):=by
 induction b with
 |nil=>intro a;exact⟨Int.le_refl _,(λ_ h=>by cases h),.inl rfl⟩
 |cons x r i=>
  intro a;rw[XE];obtain⟨l,j,e⟩:=i (max a x.At);generalize r.foldl (λa f=>max a f.At) (max a x.At)=m at*;refine⟨by omega,λf d=>?_,?_⟩
  .rcases X7.1 d with rfl|d
   .omega
   .exact j f d
  .rcases e with e|⟨f,g,k⟩
   .rcases Int.le_total a x.At with q|q
    .exact .inr ⟨x,by simp,by omega⟩
    .exact .inl (by omega)
   .exact .inr ⟨f,by simp[g],k⟩
theorem QmI{l m:List Fact}(h:∀x,x∈l↔x∈m):maxAt l=maxAt m:=by
 obtain⟨p,g,e⟩:=Qig l 0;obtain⟨k,d,i⟩:=Qig m 0;unfold maxAt;generalize l.foldl (λa f=>max a f.At) 0=x at*;generalize m.foldl (λa f=>max a f.At) 0=y at*;have r:x<=y:=by
  rcases e with q|⟨f,b,j⟩
  .omega
  .have:=d f ((h f).1 b);omega
 have n:y<=x:=by
  rcases i with q|⟨f,b,j⟩
  .omega
  .have:=g f ((h f).2 b);omega
 omega
def standS(e:Int)(c:Course)(l:List Fact)(p:Protest):Bool:=
 bif (about l p.Case).isEmpty then false else bif (p.By==0)||whoB (about l p.Case) p.By then true else
 bif (startF e c l).2==0 then(startF e c l).1.any (λs=>(s.Bib==p.By)&&(startF e c l).1.any λt=>whoB (about l p.Case) t.Bib&&(t.Distance==s.Distance))else false
def deadS(e:Int)(c:Course)(l:List Fact)(k:Int):Int×Bool:=bif (e==0)&& !(about l k).isEmpty then(IntKind.i64.wrap (maxAt (about l k)+c.Deadline),true)else(0,false)
def filedB(t:Int)(g:Fact):Bool:= !decide (t<g.At)
def admS(e:Int)(c:Course)(l:List Fact)(f:Fact):Bool:=
 validS f&&((f.Kind==9)&&((f.Protest.Form==1)&&(((f.Protest.By==0)||decide (c.Fee<=f.Protest.Fee))&&(((deadS e c (l.filter (filedB f.At)) f.Protest.Case).2&&decide (f.At<=(deadS e c (l.filter (filedB f.At)) f.Protest.Case).1))&&standS e c (l.filter (filedB f.At)) f.Protest))))
def lateB(l:List Fact)(f:Fact):Bool:=(about l f.Protest.Case).any λg=>(g.Kind==10)&&decide (f.At<g.At)
def openB(e:Int)(c:Course)(l:List Fact)(f:Fact):Bool:=admS e c l f&& !lateB l f
theorem Ql6{l m:List Fact}(h:∀x,x∈l↔x∈m)(b:Int):whoB l b=whoB m b:=by unfold whoB;rw[QiT h]
theorem Qd1{e:Int}{c:Course}{l m:List Fact}(h:SameF l m)(p:Protest):standS e c l p=standS e c m p:=by
 have a:whoB (about l p.Case)=whoB (about m p.Case):=funext λb=>Ql6 (QaT h p.Case) b;unfold standS;rw[QfC (QaT h p.Case),QhX h,a]
theorem QfE{e:Int}{c:Course}{l m:List Fact}(h:SameF l m)(k:Int):deadS e c l k=deadS e c m k:=by
 unfold deadS;rw[QfC (QaT h k),QmI (QaT h k)]
theorem QgM{e:Int}{c:Course}{l m:List Fact}(h:SameF l m)(f:Fact):admS e c l f=admS e c m f:=by
 unfold admS;rw[QfE (h.filter _),Qd1 (h.filter _)]
theorem QjD{e:Int}{c:Course}{l m:List Fact}(h:SameF l m)(f:Fact):openB e c l f=openB e c m f:=by
 unfold openB lateB;rw[QgM h,QiT (QaT h _)]
theorem Qj1{e:Int}{c:Course}{l:List Fact}{f:Fact}(h:admS e c l f=true):validS f=true/\f.Kind=9:=by
 unfold admS at h;rw[XX,XX,Vz]at h;exact⟨h.1,h.2.1⟩
section
variable {α β:Type}
theorem QbA(q:α->Bool):∀(l a:List α),l.foldl (λa x=>bif q x then a++[x]else a) a=a++l.filter q
 |[],a=>by simp
 |x::l,a=>by
  rw[XE,QbA q l,Xd];cases h:q x<;>simp
theorem Qkg{step:Nat->List α×Int->Option (Ctl (List α×Int) (List α))}(l:List α)(q:α->Bool)(hl:l.length<=1048576)
  (d:∀i x a,At l i x->a.length<=i->Ev (λn=>step n (a,(i:Int))) (.cont ((bif q x then a++[x]else a),((i+1:Nat):Int))))
  (f:∀a,Ev (λn=>step n (a,(l.length:Int))) (.done a)):Ev (λn=>Go.Sw.iter (step n) n ([],0)) (l.filter q):=by
 have e:l.filter q=l.foldl (λa x=>bif q x then a++[x]else a) []:=by rw[QbA];rfl
 rw[e];refine Q3 l (λa x=>bif q x then a++[x]else a) [] (λa i=>(a,(i:Int))) (λa=>a) (by omega) rfl (λi x a b g=>d i x a b ?_) (f _);rw[g,QbA,Vi];exact XW (VO ..) (by rw[Xy];omega)
theorem QdL(f:α->β):∀(l:List α) (a:List β),l.foldl (λa x=>a++[f x]) a=a++l.map f
 |[],a=>by simp
 |x::l,a=>by rw[XE,QdL f l];simp
theorem QoI{step:Nat->List β×Int->Option (Ctl (List β×Int) (List β))}(l:List α)(f:α->β)(hl:l.length<=1048576)
  (d:∀i x a,At l i x->a.length<=i->Ev (λn=>step n (a,(i:Int))) (.cont (a++[f x],((i+1:Nat):Int))))
  (g:∀a,Ev (λn=>step n (a,(l.length:Int))) (.done a)):Ev (λn=>Go.Sw.iter (step n) n ([],0)) (l.map f):=by
 have e:l.map f=l.foldl (λa x=>a++[f x]) []:=by rw[QdL];rfl
 rw[e];refine Q3 l (λa x=>a++[f x]) [] (λa i=>(a,(i:Int))) (λa=>a) (by omega) rfl (λi x a b h=>d i x a b ?_) (g _);rw[h,QdL,Vi,X3,Xy];omega
theorem QdK{l:List α}[DecidableEq (List α)](hl:l.length<=1048576):isNil l (some ([]:List α)) ((app ([]:List α) l).bind λx=>some x)=some l:=by
 have:app ([]:List α) l=some l:=by rw[QkS _ _ (by simp;omega)];rfl
 unfold isNil;cases l with
 |nil=>rw[this];simp
 |cons a l=>rw[this];rfl
theorem QnP{F:Nat->α->α->Option β}{V:α->α->β}(l:List α)(h:∀x∈l,∀y∈l,Ev (λn=>F n x y) (V x y)):∃N,∀n,N<=n->∀x∈l,∀y∈l,F n x y=some (V x y):=by
 obtain⟨N,e⟩:=QaY (F:=λn (p:α×α)=>F n p.1 p.2) (V:=λp=>V p.1 p.2) (l.flatMap λx=>l.map λy=>(x,y)) (by
  intro p a;rw[List.mem_flatMap]at a;obtain⟨x,d,a⟩:=a;obtain⟨y,b,rfl⟩:=Xf.1 a;exact h x d y b)
 exact⟨N,λn f x d y b=>e n f (x,y) (List.mem_flatMap.2 ⟨x,d,Xf.2 ⟨y,b,rfl⟩⟩)⟩
def ltC(c:α->α->Int)(x y:α):Bool:=decide (c x y<0)
theorem Qcb{c:α->α->Int}(d:CmpOK c)(l:List α):Qek (ltC c) l:=by
 refine⟨λx _=>?_,λx _ y _ z _ g f=>?_,λx _ y _ z _ g f=>?_⟩
 .have:=d.refl x;exact Vy (by omega)
 .have g:=Vw g;have f:=Vw f;exact Vv (d.trans x y z g f)
 .have g:=Vx g;have f:=Vx f;refine Vy λh=>?_;have a:=d.swap x y;have b:=d.swap y z;by_cases e:c x y=0
  .rw[d.eqt x y z e]at h;exact f h
  .by_cases i:c y z=0
   .rw[<- d.eqr x i]at h;exact g h
   .have j:=d.trans z y x (by omega) (by omega);have:=d.swap x z;omega
theorem Qk2[DecidableEq α]{cf:Nat->α->α->Option Int}{l:List α}{c:α->α->Int}(hl:l.length<=1048576)(u:∀x∈l,∀y∈l,Ev (λn=>cf n x y) (c x y))(a:CmpOK c)(k:∀x∈l,∀y∈l,c x y=0->x=y):
  Ev (λn=>QbM (cf n) l) (YI (ltC c) l):=by
 obtain⟨N,s⟩:=QnP l u;refine⟨N,λn t=>?_⟩;have h:=s n t;have m:=Qmh (cf:=cf n) (XS (Qcc hl)) c h (λx _=>by have:=a.refl x;omega) (λx _ y _ z _=>a.trans x y z) (λx b y d z r g f=>by
   have:=(Qcb a l).ntrans x b y d z r (Vy g) (Vy f);exact Vx this) (λx b y d g f=>k x b y d (by have:=a.swap x y;omega))
 show QbM (cf n) l=some (YI (ltC c) l);rw[m];congr 1;obtain⟨_,_,p,_,_⟩:=QcQ m;have e:∀x∈l,∀y∈l,ltO (cf n) x y=ltC c x y:=λx b y d=>by unfold ltO ltC;rw[h x b y d]
 refine Jh (lt:=ltC c) ((Qk _ l).trans (Qk _ l).symm) (λx b y d g f=>?_) ?_ (QK (Qcb a l))
 .have j:=(Qk _ l).mem_iff.1 b;have i:=(Qk _ l).mem_iff.1 d;have g:=Vx g;have f:=Vx f;exact k x j y i (by have:=a.swap x y;omega)
 .refine List.Pairwise.imp_of_mem (λ{x y} b d q=>?_) (QK p);have j:=(Qk _ l).mem_iff.1 b;have i:=(Qk _ l).mem_iff.1 d;rw[<- e y i x j];exact q
end
def ddA(p:Fact):List Fact->List Fact
 |[]=>[]
 |x::r=>bif cmpF x p==0 then ddA x r else x::ddA x r
def dd:List Fact->List Fact
 |[]=>[]
 |x::r=>x::ddA x r
theorem Qnj{x p:Fact}{r:List Fact}(q:(cmpF x p==0)=true):ddA p (x::r)=ddA x r:=by
 show(bif cmpF x p==0 then ddA x r else x::ddA x r)=_;rw[q];rfl
theorem Qni{x p:Fact}{r:List Fact}(q:(cmpF x p==0)=false):ddA p (x::r)=x::ddA x r:=by
 show(bif cmpF x p==0 then ddA x r else x::ddA x r)=_;rw[q];rfl
theorem Qnh:∀(r:List Fact) (p:Fact),(∀x∈r,¬cmpF x p<0)->r.Pairwise (λa b=>¬cmpF b a<0)->(∀x∈p::r,validS x=true)->(ddA p r).Pairwise ltF/\(∀x∈ddA p r,ltF p x)/\ ∀x,x∈p::ddA p r↔x∈p::r
 |[],p,_,_,_=>⟨List.Pairwise.nil,(λ_ h=>by cases h),λ_=>Iff.rfl⟩
 |y::r,p,h1,h2,h3=>by
  rw[Xc]at h2;obtain⟨i1,i2,i3⟩:=Qnh r y h2.1 h2.2 λx hx=>h3 x (by simp only[X7]at hx⊢;exact .inr hx);have hy:=h1 y (by simp);unfold ddA;cases q:cmpF y p==0 with
  |true=>
   have q':cmpF y p=0:=by simpa using q
   have e:y=p:=Qce (h3 y (by simp)) (h3 p (by simp)) q';subst e;refine⟨i1,i2,λx=>?_⟩;rw[Vq,i3 x];simp
  |false=>
   have q':¬cmpF y p=0:=by simpa using q
   have d:ltF p y:=by
    have:=QkQ.swap y p;unfold ltF;omega
   simp only[Vr];refine⟨Xc.2 ⟨i2,i1⟩,λx hx=>?_,λx=>?_⟩
   .rcases X7.1 hx with rfl|hx
    .exact d
    .exact QdH _ _ _ d (i2 x hx)
   .rw[X7,i3 x,X7 (a:=x) (b:=p)]
theorem dd_ok{S:List Fact}(h:S.Pairwise λa b=>¬cmpF b a<0)(d:∀x∈S,validS x=true):(dd S).Pairwise ltF/\ ∀x,x∈dd S↔x∈S:=by
 cases S with
 |nil=>exact⟨List.Pairwise.nil,λ_=>Iff.rfl⟩
 |cons a r=>
  rw[Xc]at h;obtain⟨g,e,f⟩:=Qnh r a h.1 h.2 d;exact⟨Xc.2 ⟨e,g⟩,f⟩
theorem Qht(x y:Fact):Ev (λn=>F_ar n x y) (cmpF x y==0):=Ea (QbC x y) (Qa _)
theorem QkE{l:List Fact}{a j:Nat}{x:Fact}(h:l[a+j]?=some x){m:Int}(d:m=(l.length:Int)):Qhj l (a:Int) m (j:Int)=some x:=by
 have b:=(XM.1 h).1;unfold Qhj;rw[Vv (show(0:Int)<=(a:Int)by omega),Vv (show(0:Int)<=(j:Int)by omega),Vv (show(a:Int)+(j:Int)<m by omega)];rw[show(a:Int)+(j:Int)=((a+j:Nat):Int)by omega];exact YS h
theorem QkP{α:Type}{l r:List α}{i:Nat}{x:α}(h:l.drop i=x::r):l[i]?=some x/\l.drop (i+1)=r/\i<l.length:=by
 have a:l[i]?=some x:=by
  have:=congrArg (λl=>l[0]?) h;simpa using this
 refine⟨a,?_,(XM.1 a).1⟩;have:=Xr (XM.1 a).1;rw[h]at this;exact(List.cons.inj this).2.symm
theorem QiK(a:List Fact)(hl:a.length<=1048576)(b:Nat):∀(r s:List Fact) (i j:Nat) (p:Fact),s.length=a.length->s.drop (b+(j+1))=r->s[b+j]?=some p->i<b+(j+1)->b+(j+1)<=s.length->
  ∃(s':List Fact) (d:Nat),EvI (λn=>F_ec n a (b:Int)) (s,(i:Int),((j+1:Nat):Int)) (s',(d:Int))/\d<=s'.length/\s'.take d=s.take i++ddA p r:=by
 intro r
 induction r with
 |nil=>
  intro s i j p e g B H M;refine⟨s,i,Ej ?_,by omega,by simp[ddA]⟩;have:=Xs.1 g;unfold F_ec;rw[YK (show¬(((j+1:Nat):Int)<((Int.toNat (a.length:Int)-Int.toNat (b:Int):Nat):Int))by omega)];exact Qa _
 |cons x r w=>
  intro s i j p e g B H M;obtain⟨m,z,G⟩:=QkP g;have F:=QkE m (show(a.length:Int)=(s.length:Int)by rw[e]);have t:=QkE B (show(a.length:Int)=(s.length:Int)by rw[e]);have E:IntKind.i64.wrap (((j+1:Nat):Int)-1)=(j:Int):=by rw[Yr (by omega) (by omega)];omega
  have u:IntKind.i64.wrap (((j+1:Nat):Int)+1)=((j+1+1:Nat):Int):=YB (by omega);have y:decide (((j+1:Nat):Int)<((Int.toNat (a.length:Int)-Int.toNat (b:Int):Nat):Int))=true:=Vv (by omega);have l:i<s.length:=by omega
  cases q:cmpF x p==0 with
  |true=>
   obtain⟨s',d,k,h,f⟩:=w s i (j+1) x e (by rw[show b+(j+1+1)=b+(j+1)+1 by omega];exact z) m (by omega) (by omega);refine⟨s',d,Ex ?_ k,h,by rw[f,Qnj q]⟩;unfold F_ec;simp only[y,Vq,F,E,t,XK];refine Ea (Qht x p) ?_;rw[q];simp only[Xh,Vr,XK,u];exact Qa _
  |false=>
   have J:(s.set i x).length=a.length:=by rw[X5];exact e
   obtain⟨s',d,k,h,f⟩:=w (s.set i x) (i+1) (j+1) x J (by rw[show b+(j+1+1)=b+(j+1)+1 by omega,List.drop_set_of_lt (by omega)];exact z) (by rw[XQ (by omega)];exact m) (by omega) (by rw[X5];omega);have L:IntKind.i64.wrap ((i:Int)+1)=((i+1:Nat):Int):=YB (by omega);refine⟨s',d,Ex ?_ k,h,?_⟩
   .unfold F_ec;simp only[y,Vq,F,E,t,XK];refine Ea (Qht x p) ?_;rw[q];simp only[Xi,Vq,XK,u,YS (XL l),Qh1 s x l,L];exact Qa _
   .rw[f,List.take_add_one,Xa l,List.take_set_of_le (XU _)];rw[Qni q];simp
theorem QiL(a:List Fact)(hl:a.length<=1048576):∀(r:List Fact) (k:Nat) (p:Fact),a.drop (k+1)=r->a[k]?=some p->k+1<=a.length->∃b:Ctl Unit (List Fact),EvI (λn=>F_dk n a) ((k+1:Nat):Int) b/\((b=.cont ()/\ddA p r=r)\/b=.done (a.take (k+1)++ddA p r)):=by
 intro r
 induction r with
 |nil=>
  intro k p j i z;refine⟨.cont (),Ej ?_,.inl ⟨rfl,rfl⟩⟩;have:=Xs.1 j;unfold F_dk;rw[YK (show¬(((k+1:Nat):Int)<(a.length:Int))by omega)];exact Qa _
 |cons x r u=>
  intro k p j i z;obtain⟨g,s,f⟩:=QkP j;have m:IntKind.i64.wrap (((k+1:Nat):Int)-1)=(k:Int):=by rw[Yr (by omega) (by omega)];omega
  have y:IntKind.i64.wrap (((k+1:Nat):Int)+1)=((k+1+1:Nat):Int):=YB (by omega);have t:decide (((k+1:Nat):Int)<(a.length:Int))=true:=Vv (by omega);cases q:cmpF x p==0 with
  |true=>
   obtain⟨w,B,l,d,h⟩:=QiK a hl (k+1) r a (k+1) 0 x rfl s g (by omega) (by omega);refine⟨.done (a.take (k+1)++ddA p (x::r)),Ej ?_,.inr rfl⟩;unfold F_dk;simp only[t,Vq,YS g,m,YS i,XK];refine Ea (Qht x p) ?_;rw[q];simp only[Vq,QeO a (Nat.le_of_lt f),XK];refine Ea l.ev ?_;simp only[Qjm w d,XK];rw[h];rw[Qnj q];exact Qa _
  |false=>
   obtain⟨b,l,d⟩:=u (k+1) x s g f;have e:=Qni (r:=r) q;refine⟨b,Ex ?_ l,?_⟩
   .unfold F_dk;simp only[t,Vq,YS g,m,YS i,XK];refine Ea (Qht x p) ?_;rw[q];simp only[Vr,y];exact Qa _
   .rcases d with⟨d,h⟩|d
    .exact .inl ⟨d,by rw[e,h]⟩
    .refine .inr ?_;rw[d,e,List.take_add_one,g];simp
theorem QiI(a:List Fact)(hl:a.length<=1048576):Ev (λn=>F_cg n a) (dd a):=by
 unfold F_cg
 match a,hl with
 |[],_=>exact Qa _
 |[x],_=>exact Qa _
 |x::y::r,hl=>
  rw[YK (show¬(((x::y::r).length:Int)<2)by simp;omega)];refine Jb ?_;obtain⟨b,e,f⟩:=QiL (x::y::r) hl (y::r) 0 x rfl rfl (by simp);refine Ea e.ev ?_;rcases f with⟨rfl,d⟩|rfl
  .show Ev (λn=>some (x::y::r)) (x::ddA x (y::r));rw[d];exact Qa _
  .exact Qa _
theorem Qgy(l:List Fact)(d:∀f∈l,validS f=true)(hl:l.length<=1048576):Ev (λn=>F_ao n l) (canonS l):=by
 unfold F_ao F_al;simp only[QdK hl,XK];have p:=Qk (ltC cmpF) l;refine Ea (Qk2 hl (λx _ y _=>QbC x y) QkQ λx g y r e=>Qce (d x g) (d y r) e) ?_;refine Ea (QiI _ (by rw[p.length_eq];exact hl)) ?_;have s:(YI (ltC cmpF) l).Pairwise λa b=>¬cmpF b a<0:=List.Pairwise.imp (λq=>Vx q) (QK (Qcb QkQ l));obtain⟨m,i⟩:=dd_ok s λx g=>d x (p.mem_iff.1 g);obtain⟨j,k⟩:=Jm l;refine Ew (Qa _) (QaN Qc1 QdH m j.1 λf=>?_);rw[i,p.mem_iff,k];exact⟨λh=>⟨h,d f h⟩,λh=>h.1⟩
def cmpN(x y:Ub):Int:=cmpI x.number y.number
theorem QeB:CmpOK cmpN:=cmpI_ok.on λx:Ub=>x.number
def sortN(fs:List Ub):List Ub:=YI (ltC cmpN) fs
theorem Qkz{fs:List Ub}(h:(fs.map (·.number)).Nodup){x y:Ub}(f:x∈fs)(d:y∈fs)(e:x.number=y.number):x=y:=by
 induction fs with
 |nil=>cases f
 |cons a r g=>
  have b:a.number∉r.map (·.number)/\(r.map (·.number)).Nodup:=by rw[Vk,List.nodup_cons]at h;exact h
  rcases X7.1 f with q|q
  .rcases X7.1 d with z|z
   .rw[q,z]
   .exact absurd (Xf.2 ⟨y,z,by rw[<- e,q]⟩) b.1
  .rcases X7.1 d with z|z
   .exact absurd (Xf.2 ⟨x,q,by rw[e,z]⟩) b.1
   .exact g b.2 q z
theorem Qk9{p q:List Ub}(h:p.Perm q)(e:(q.map (·.number)).Nodup):sortN p=sortN q:=by
 have d:(p.map (·.number)).Nodup:=(h.map _).nodup_iff.2 e;refine Jh (lt:=ltC cmpN) ((Qk _ p).trans (h.trans (Qk _ q).symm)) (λx f y g b a=>?_) (QK (Qcb QeB p)) (QK (Qcb QeB q));have b:=Vx b;have a:=Vx a;refine Qkz d ((Qk _ p).mem_iff.1 f) ((Qk _ p).mem_iff.1 g) (Qp7.1 ?_);have:=QeB.swap x y;show cmpN x y=0;omega
def ltN(x y:Ub):Prop:=x.number<y.number
theorem QhY{p:List Ub}(e:(p.map (·.number)).Nodup):(sortN p).Pairwise ltN:=by
 have d:((sortN p).map (·.number)).Nodup:=((Qk _ p).map _).nodup_iff.2 e;have s:=QK (Qcb QeB p);have a:(sortN p).Pairwise λx y=>x.number≠y.number:=by
  unfold List.Nodup at d;rw[List.pairwise_map]at d;exact d
 refine List.Pairwise.imp₂ (λx y b f=>?_) s a;have b:¬cmpI y.number x.number<0:=Vx b;rw[Qoy]at b;unfold ltN;omega
theorem QpT(x y:Ub):Ev (λn=>F_ad n x y) (cmpN x y==0):=by
 unfold F_ad F_af;simp only[Qhv,XK];exact Qa _
theorem QiJ(fs:List Ub)(hl:fs.length<=1048576)(a:fs.Pairwise ltN):Ev (λn=>F_av n fs) ():=by
 unfold F_av;cases q:decide ((fs.length:Int)<2)with
 |true=>exact Qa _
 |false=>
  refine Jb ?_;refine Ea (v:=()) ?_ (Qa _);have j:=Vx q;refine Ev.iter (λi=>((i+1:Nat):Int)) (fs.length-1) rfl (λi k=>?_) ?_
  .have g:fs[i+1]?=some fs[i+1]:=XL (by omega);have d:fs[i]?=some fs[i]:=XL (by omega);have b:IntKind.i64.wrap (((i+1:Nat):Int)-1)=(i:Int):=by rw[Yr (by omega) (by omega)];omega
   have f:IntKind.i64.wrap (((i+1:Nat):Int)+1)=((i+1+1:Nat):Int):=YB (by omega);unfold F_hf;rw[Vv (show(((i+1:Nat):Int)<(fs.length:Int))by omega)];simp only[Vq,YS g,b,YS d,XK];refine Ea (QpT _ _) ?_;have lt:ltN fs[i] fs[i+1]:=VF.1 a i (i+1) (by omega) (by omega) (by omega);have e:(cmpN fs[i+1] fs[i]==0)=false:=by
    rw[VA];intro z;have h:fs[i+1].number=fs[i].number:=Qp7.1 z;unfold ltN at lt;omega
   rw[e];simp only[Vr,f];exact Qa _
  .unfold F_hf;rw[YK (show¬(((fs.length-1+1:Nat):Int)<(fs.length:Int))by omega)];exact Qa _
theorem QjM(fs:List Ub)(hl:fs.length<=1048576)(a:(fs.map (·.number)).Nodup):Ev (λn=>F_br n fs) (sortN fs):=by
 unfold F_br F_em;simp only[QdK hl,XK];refine Ea (v:=sortN fs) (Qk2 hl (λx _ y _=>?_) QeB λx d y b e=>Qkz a d b (Qp7.1 e)) ?_
 .unfold F_af;simp only[Qhv,XK];exact Qa _
 .refine Ea (v:=()) (QiJ _ ?_ (QhY a)) (Qa _);unfold sortN;rw[(Qk _ fs).length_eq];exact hl
theorem Qfg(fs:List Ub)(k:Int):(Qag fs k).length<=fs.length+1:=by
 unfold Qag;cases fs.any λx=>decide (x.number=k)<;>simp
theorem QeL(fs:List Ub)(k:Int)(g:Ub->Ub):(Qbv fs k g).length=fs.length:=by unfold Qbv;rw[X3]
theorem QoB{fs a:List Ub}{k i:Int}{f:Fact}(h:filesAdd fs k i f=some a):a.length=fs.length:=by
 unfold filesAdd at h;cases e:(i==0)<;>cases b:(i==1)<;>cases d:(i==2)<;>rw[e,b,d]at h<;>first|(cases h;done)|(cases h;rw[QeL])
theorem Qmc{fs d:List Ub}{f:Fact}(h:filesStep fs f=some d):d.length<=fs.length+1:=by
 unfold filesStep at h;cases e:(f.Kind==10)with
 |true=>
  rw[e,Vq]at h;cases b:Qd5 (Qag fs f.Ruling.Case)with
  |true=>rw[b,Vq]at h;rw[QoB h];exact Qfg _ _
  |false=>rw[b]at h;cases h
 |false=>
  rw[e,Vr]at h;cases b:(f.Kind==8)with
  |true=>
   rw[b,Vq]at h;cases a:Qd5 (Qag fs f.Report.Case)with
   |true=>rw[a,Vq]at h;cases h;rw[QeL];exact Qfg _ _
   |false=>rw[a]at h;cases h
  |false=>
   rw[b,Vr]at h;cases a:(f.Kind==11)with
   |true=>
    rw[a,Vq]at h;cases g:f.Appeal.Suspends with
    |true=>rw[g,Vq]at h;cases h;rw[QeL];exact Qfg _ _
    |false=>rw[g]at h;cases h;omega
   |false=>rw[a]at h;cases h;omega
theorem Qlr(C:List Fact)(q:∀f∈C,validS f=true)(hl:C.length<=1048576):∃fs,Ev (λn=>Go.Sw.iter (filesL n C) n (([]:List Ub),0)) fs/\FilesOf C fs/\fs.length<=C.length:=by
 have loop:∀(r:List Fact) (i:Nat) (s:List Ub),C.drop i=r->i<=C.length->FilesOf (C.take i) s->s.length<=i->∃fs,EvI (λn=>filesL n C) (s,(i:Int)) fs/\FilesOf C fs/\fs.length<=C.length:=by
  intro r
  induction r with
  |nil=>
   intro i s e k b h;refine⟨s,Ej ?_,?_,by omega⟩
   .unfold filesL;simp only[Yw e k,Vr];exact Qa _
   .rw[VJ (Xs.1 e)]at b;exact b
  |cons f r m=>
   intro i s e k b h;obtain⟨a,j⟩:=QI (by omega) e;have l:=a.lt';obtain⟨p,g,d⟩:=Qhp b (by rw[Xy];omega) (q f a.mem);rw[<- a.take]at d;obtain⟨fs,t,u⟩:=m (i+1) p j (by omega) d (by have:=Qmc g;omega);refine⟨fs,Ex ?_ t,u⟩;unfold filesL;simp only[a.lt,Vq,a.ix,XK,g,a.nx];exact Qa _
 obtain⟨fs,g,d⟩:=loop C 0 [] rfl (XV _) FilesOf.nil (XU _);exact⟨fs,g.ev,d⟩
theorem Qfx:∀(p:List (Int×Ub)) (s:List Ub) (n:Nat),s.length+p.length<=1048576->QeT (F_gg n) (F_gs n) s p=some (s++p.map Prod.snd)
 |[],s,n,_=>by unfold QeT F_gs;simp
 |e::p,s,n,h=>by
  rw[X2]at h;have h1:F_gg n s e=some (.cont (s++[e.2])):=by
   unfold F_gg;rw[Qak _ _ (by omega)];rfl
  unfold QeT;rw[h1];show QeT _ _ (s++[e.2]) p=_;rw[Qfx p _ n (by simp;omega)];simp
theorem FilesOf.perm{C:List Fact}{fs gs:List Ub}(h:FilesOf C fs)(p:gs.Perm fs):FilesOf C gs:=
 ⟨(p.map _).nodup_iff.2 h.num,λx hx=>h.each x (p.mem_iff.1 hx),λk=>by rw[(p.map _).mem_iff];exact h.mem k⟩
theorem Qm8(l:List Fact)(hl:l.length<=100):∃fs,Ev (λn=>F_ca n l) fs/\FilesOf (canonS l) fs/\fs.Pairwise ltN/\fs.length<=(canonS l).length:=by
 have s:∀f∈l.filter validS,validS f=true:=λf g=>(Xe.1 g).2;have e:canonS (l.filter validS)=canonS l:=QcH λf g=>by rw[Xe];simp[g]
 obtain⟨r,y⟩:=Jm l;have q:=QcI l;obtain⟨fs,t,b,w⟩:=Qlr (canonS l) r.2 (by omega);refine⟨sortN fs,?_,b.perm (Qk _ fs),QhY b.num,by unfold sortN;rw[(Qk _ fs).length_eq];exact w⟩;unfold F_ca;refine Ea (v:=l.filter validS) (Qkg l validS (by omega) (λi x a d u=>?_) λa=>?_) ?_
 .have m:=d.lt';unfold F_he;simp only[d.lt,Vq,d.ix,XK,d.nx];refine Ea (Qaj x) ?_;cases validS x with
  |true=>
   simp only[Vq];rw[Qak a x (by omega)];exact Qa _
  |false=>exact Qa _
 .unfold F_he;simp only[Qav,Vr];exact Qa _
 refine Ea (v:=canonS l) ((Qgy _ s (XW (VO ..) (by omega))).eq e) ?_;refine Ea t ?_;refine Ev.anyP λp h=>?_;have z:p.length=fs.length:=by rw[h.length_eq];unfold Qet;rw[X3]
 have j:(p.map Prod.snd).Perm fs:=by
  have:=h.map Prod.snd;unfold Qet at this;rw[List.map_map]at this;have k:(fs.map (Prod.snd ∘ λx:Ub=>(x.number,x)))=fs:=by
   conv=>rhs;rw[<- List.map_id fs]
   rfl
  rw[k]at this;exact this
 simp only[Qfx p [] _ (by simp;omega),Vi,XK];refine Ea (QjM _ (by rw[X3];omega) ((j.map _).nodup_iff.2 b.num)) ?_;rw[Qk9 j b.num];exact Qa _
def tailsOf(x:Ub):List Fact:=x.r0.drop 1++(x.r1.drop 1++x.r2.drop 1)
theorem Qm3(x:Ub)(s:List Fact)(h:s.length+(tailsOf x).length<=1048576)(h0:x.r0.length<=1048576)(g:x.r1.length<=1048576)(f:x.r2.length<=1048576):Ev (λn=>Go.Sw.iter (F_db n x) n (s,0)) (s++tailsOf x):=by
 unfold tailsOf at h⊢;simp only[X4]at h;have one:∀(l s:List Fact) (i:Nat),([x.r0,x.r1,x.r2]:List (List Fact))[i]?=some l->l.length<=1048576->s.length+(l.drop 1).length<=1048576->∀n,F_db n x (s,(i:Int))=some (.cont (s++l.drop 1,((i+1:Nat):Int))):=by
  intro l s i d k j n;have b:=(XM.1 d).1;simp only[X2,List.length_nil]at b;unfold F_db;simp only[Vv (show((i:Int)<3)by omega),Vq,YS d,XK,YB (show i<9223372036854775807 by omega)];cases q:decide ((1:Int)<(l.length:Int))with
  |true=>
   have e:=Vw q;simp only[Vq];have:=QeO l (a:=1) (by omega);rw[show((1:Nat):Int)=1 by rfl]at this;rw[this];simp only[XK];rw[QkS _ _ (by omega)];rfl
  |false=>
   have e:=Vx q;simp only[Vr,XK];rw[Xs.2 (by omega),Vh]
 refine EvI.ev (Ex (YG (Qa _) λn=>one _ _ 0 rfl h0 (by omega) n) (Ex (YG (Qa _) λn=>one _ _ 1 rfl g (by simp only[X4];omega) n) (Ex (YG (Qa _) λn=>one _ _ 2 rfl f (by simp only[X4];omega) n) (Ej ?_))));refine YG (Qa _) λn=>?_;unfold F_db;simp only[Vj];rfl
theorem Qf5{C:List Fact}{fs:List Ub}(h:FilesOf C fs){x:Ub}(a:x∈fs):(tailsOf x).length<=3*C.length/\x.r0.length<=C.length/\x.r1.length<=C.length/\x.r2.length<=C.length:=by
 have e:=h.each x a;have d:x.r0.length<=C.length:=by rw[e];exact VO ..
 have f:x.r1.length<=C.length:=by rw[e];exact VO ..
 have b:x.r2.length<=C.length:=by rw[e];exact VO ..
 unfold tailsOf;simp only[X4,List.length_drop];omega
theorem Qln{C:List Fact}{fs gs:List Ub}(h:FilesOf C fs)(hg:∀x∈gs,x∈fs):(gs.flatMap tailsOf).length<=gs.length*(3*C.length):=by
 induction gs with
 |nil=>simp
 |cons a r d=>
  rw[List.flatMap_cons,X4,X2,XA,Nat.one_mul];have:=(Qf5 h (hg a (by simp))).1;have:=d λx b=>hg x (by simp[b]);omega
theorem QcE{α β:Type}(f:α->List β):∀(l:List α) (a:List β),l.foldl (λa x=>a++f x) a=a++l.flatMap f
 |[],a=>by simp
 |x::l,a=>by rw[XE,QcE f l];simp
theorem Qot(l:List Fact)(hl:l.length<=100):Ev (λn=>F_bc n l) (voidR l):=by
 obtain⟨d,G,p,M,L⟩:=Qm8 l hl;have F:=QcI l;obtain⟨t,O⟩:=Jm l;have u:∀j:List Ub,j.length<=d.length->(∀x∈j,x∈d)->(j.flatMap tailsOf).length<=30000:=λj H k=>by
  have a:=Qln p k;have b:j.length*(3*(canonS l).length)<=100*300:=Nat.mul_le_mul (by omega) (by omega);omega
 unfold F_bc;refine Ea G ?_;refine Ea (v:=d.flatMap tailsOf) ?_ ?_
 .have e:d.flatMap tailsOf=d.foldl (λa x=>a++tailsOf x) []:=by rw[QcE];rfl
  rw[e];refine Q3 d (λa x=>a++tailsOf x) [] (λa i=>(a,(i:Int))) (λa=>a) (by omega) rfl (λi x a g m=>?_) ?_
  .have r:=g.lt';rw[QcE,Vi]at m;have q:a.length<=30000:=by rw[m];exact u _ (by rw[Xy];omega) λx s=>List.mem_of_mem_take s
   obtain⟨P,Q,J,N⟩:=Qf5 p g.mem;unfold F_gz;simp only[g.lt,Vq,g.ix,XK,g.nx];exact Ea (Qm3 x a (by omega) (by omega) (by omega) (by omega)) (Qa _)
  .unfold F_gz;simp only[Qav,Vr];exact Qa _
 have k:∀f,f∈d.flatMap tailsOf↔f∈voidS (canonS l):=by
  intro f;rw[Ql7 t p,List.mem_flatMap];simp only[tailsOf,VE]
 have w:∀f∈d.flatMap tailsOf,validS f=true:=λf m=>by
  have:=(k f).1 m;unfold voidS at this;exact t.2 f (Xe.1 this).1
 have E:=u d (XU _) λx s=>s;refine Ea (Qgy _ w (by omega)) ?_;have e:canonS (d.flatMap tailsOf)=voidS (canonS l):=by
  obtain⟨y,B⟩:=Jm (d.flatMap tailsOf);refine QaN Qc1 QdH y.1 (t.1.filter _) λf=>?_;rw[B,k f];exact⟨λh=>h.1,λh=>⟨h,w f ((k f).2 h)⟩⟩
 rw[e];have z:(voidS (canonS l)).length<=100:=XW (VO ..) (by omega);refine Ea (v:=voidR l) (QoI _ refOf (by omega) (λi x a g q=>?_) λa=>?_) (Qa _)
 .have r:=g.lt';unfold F_hg;simp only[g.lt,Vq,g.ix,XK,g.nx];rw[Qak a _ (by omega)];exact Qa _
 .unfold F_hg;simp only[Qav,Vr];exact Qa _
section
variable {S T B:Type} {step:Nat->S->Option (List T×Ctl S B)} {s s':S} {b:B} {xs ys:List T}
def EvL(step:Nat->S->Option (List T×Ctl S B))(s:S)(ys:List T)(b:B):Prop:=∃N,∀n k,N<=n->N<=k->Qcr (step n) k s=some (ys,b)
theorem EvL.done(h:Ev (λn=>step n s) (ys,.done b)):EvL step s ys b:=by
 obtain⟨N,h⟩:=h;refine⟨N+1,λn k f d=>?_⟩;obtain⟨a,rfl⟩:∃a,k=a+1:=⟨k-1,by omega⟩;have e:step n s=some (ys,.done b):=h n (by omega);unfold Qcr;rw[e];rfl
theorem EvL.cont(h:Ev (λn=>step n s) (xs,.cont s'))(q:EvL step s' ys b):EvL step s (xs++ys) b:=by
 obtain⟨N,h⟩:=h;obtain⟨M,q⟩:=q;refine⟨max N M+1,λn k f d=>?_⟩;obtain⟨a,rfl⟩:∃a,k=a+1:=⟨k-1,by omega⟩;have e:step n s=some (xs,.cont s'):=h n (by omega);unfold Qcr;rw[e];show(Qcr (step n) a s').bind _=_;rw[q n a (by omega) (by omega)];rfl
theorem EvL.ev(h:EvL step s ys b):Ev (λn=>Qcr (step n) n s) (ys,b):=by
 obtain⟨N,h⟩:=h;exact⟨N,λn a=>h n n a a⟩
theorem Qgb{U R:Type}{st:U->T->Option (Ctl U R)}(g:U->T->U):∀(l:List T) (u:U),(∀x∈l,∀u,st u x=some (.cont (g u x)))->Qcm st l u=some (.cont (l.foldl g u))
 |[],u,_=>rfl
 |x::l,u,h=>by
  unfold Qcm;rw[h x (by simp)];exact Qgb g l _ λy hy=>h y (by simp[hy])
end
theorem Ql8(vs:List Ref)(r:Ref):Ql (QY (λx:Ref=>x) true vs) r false=vs.any λx=>decide (x=r):=by
 rw[Qap,List.map_id'];by_cases h:r∈vs
 .rw[Vu h];exact(Xu.2 ⟨r,h,by simp⟩).symm
 .rw[Vt h];refine(List.any_eq_false.2 λx a q=>?_).symm;rw[Vw q]at a;exact h a
theorem Qfy(l:List Fact)(k:Int)(hl:l.length<=100):Ev (λn=>F_z n l k) (about l k,()):=by
 unfold F_z;refine Ea (Qot l hl) ?_;have s:(voidR l).length<=100:=by
  unfold voidR voidS;rw[X3];exact XW (VO ..) (by have:=QcI l;omega)
 refine Ea (v:=QY (λx:Ref=>x) true (voidR l)) (QaH _ _ _ (by omega) (λi x m b=>?_) λm=>?_) ?_
 .unfold F_hj;simp only[b.lt,Vq,b.ix,XK,b.nx];exact Qa _
 .unfold F_hj;simp only[Qav,Vr];exact Qa _
 have loop:∀(r:List Fact) (i:Nat) (a:Fact),l.drop i=r->i<=l.length->EvL (λn=>F_gj n l k (QY (λx:Ref=>x) true (voidR l))) (a,(i:Int)) (r.filter λf=>validS f&&standB (voidR l) k f) (r.foldl (repStep k) a):=by
  intro r
  induction r with
  |nil=>
   intro i a p q;refine EvL.done ?_;unfold F_gj;simp only[Yw p q,Vr];exact Qa _
  |cons f r u=>
   intro i a p q;obtain⟨b,h⟩:=QI (by omega) p;have w:=b.lt';have e:(f::r).filter (λf=>validS f&&standB (voidR l) k f)=(bif validS f&&standB (voidR l) k f then[f]else[])++r.filter λf=>validS f&&standB (voidR l) k f:=by
    rw[Xd];cases validS f&&standB (voidR l) k f<;>rfl
   rw[e,XE];refine EvL.cont ?_ (u (i+1) (repStep k a f) h (by omega));unfold F_gj;simp only[b.lt,Vq,b.ix,XK,b.nx];refine Ea (Qaj f) ?_;unfold repStep;cases y:validS f with
   |false=>exact Qa _
   |true=>
    simp only[Vq,VB];refine Jb (Ea (v:=repB k f) (YG (Qa _) λn=>?_) ?_)
    .unfold repB;cases(f.Kind==8)<;>rfl
    cases d:repB k f with
    |true=>
     have t:standB (voidR l) k f=false:=by
      unfold repB at d;rw[XX,Vz]at d;unfold standB;rw[d.1];rfl
     rw[t];simp only[Vq,Vr];refine Ea (v:=(a.Kind==0)||decide (cmpF f a<0)) (Eu λ_=>Ea (QbC f a) (Qa _)) ?_;cases(a.Kind==0)||decide (cmpF f a<0)<;>exact Qa _
    |false=>
     simp only[Vr,Ql8];refine Ea (v:=standB (voidR l) k f) (YG (Qa _) λn=>?_) ?_
     .unfold standB refOf;cases(f.Kind==10)<;>cases(f.Ruling.Case==k)<;>rfl
     cases standB (voidR l) k f<;>exact Qa _
 unfold ap;refine Ea (loop l 0 Uk rfl (XV _)).ev ?_;unfold about;rcases Qlb k l with⟨j,g⟩|⟨j,g⟩
 .rw[g];simp only[j];refine YG (Qa _) λn=>?_;rfl
 .rw[g];simp only[bne,j,Xi,Vq];refine YG (Qa _) λn=>?_;rfl
theorem Qgp:∀(d:List Fact) (a:Int) (b:Bool),d.foldl (λ(s:Int×Bool) x=>((if s.1<x.At then x.At else s.1),true)) (a,b)=(d.foldl (λa f=>max a f.At) a,b|| !d.isEmpty)
 |[],a,b=>by simp
 |x::r,a,b=>by
  rw[XE,Qgp r,XE];have:(if a<x.At then x.At else a)=max a x.At:=by
   by_cases h:a<x.At
   .rw[Vu h];omega
   .rw[Vt h];omega
  simp[this]
theorem QbZ(e:Int)(c:Course)(l:List Fact)(k:Int)(hl:l.length<=100)(he:Ev (λn=>F_i n c) e):Ev (λn=>F_p n c l k) (deadS e c l k):=by
 unfold F_p deadS;refine Ea he ?_;cases h:(e==0)with
 |false=>
  rw[show(e != 0)=true by rw[bne,h];rfl];exact Qa _
 |true=>
  rw[show(e != 0)=false by rw[bne,h];rfl];simp only[Vr,VB];unfold F_x;simp only[XK];refine Ea (Qfy l k hl) ?_;refine Ea (v:=.cont (maxAt (about l k), !(about l k).isEmpty)) (YG (Qa _) λn=>?_) ?_
  .have a:=Qgb (st:=F_hk n) (λ(s:Int×Bool) (x:Fact)=>((if s.1<x.At then x.At else s.1),true)) (about l k) (0,false) λx _ u=>rfl;rw[Qgp]at a;exact a
  .cases(about l k).isEmpty<;>exact Qa _
theorem Qli{α β:Type}[DecidableEq α](l:List (α×β))(k b:α):Yn (mdel l k) b=if b=k then none else Yn l b:=by
 induction l with
 |nil=>by_cases h:b=k<;>simp[mdel,QmF]
 |cons p l a=>
  unfold mdel at a⊢;rw[Xd,YR];by_cases e:p.1=k
  .by_cases d:b=k
   .simp[e,d]at a⊢;exact a
   .have f:¬p.1=b:=λz=>d (z.symm.trans e);simp[e,d,f]at a⊢;rw[a,Vt (λz=>d z.symm)]
  .by_cases d:b=k
   .subst d;simp[e]at a⊢;rw[YR,a,Vt e]
   .simp[e,d]at a⊢;rw[YR,a]
theorem QcB{α β:Type}[DecidableEq α](l:List (α×β))(k:α)(z:β):Ql l k z=(Yn l k).getD z:=by
 unfold Ql;cases Yn l k<;>rfl
theorem Qno{l:List Fact}{k:Int}{f:Fact}(h:f∈about l k):IntKind.i64.wrap (f.Report.Bib+f.Ruling.Bib)=bibOf f:=by
 have:=QlF h;unfold bibOf at this⊢;exact Yr (by omega) (by omega)
theorem QhU{l:List Fact}{k:Int}(n:Nat):∀(a:List Fact),(∀f∈a,f∈about l k)->∀(m:List (Int×Bool)) (b:Bool),Qcm (F_ge n) a (m,b)=some (.cont (a.foldl (λm f=>QX m (bibOf f) true) m,b|| !a.isEmpty))
 |[],_,m,b=>by simp[Qcm]
 |x::r,h,m,b=>by
  unfold Qcm;have:F_ge n (m,b) x=some (.cont (QX m (bibOf x) true,true)):=by
   unfold F_ge;rw[Qno (h x (by simp))];rfl
  rw[this];show Qcm _ r _=_;rw[QhU n r (λf d=>h f (by simp[d]))];simp
theorem Qkh(a:List Fact)(b:Int):Ql (mdel (a.foldl (λm f=>QX m (bibOf f) true) ([]:List (Int×Bool))) 0) b false=whoB a b:=by
 have e:a.foldl (λm f=>QX m (bibOf f) true) ([]:List (Int×Bool))=QY bibOf true a:=rfl;rw[e,QcB,Qli];unfold whoB;by_cases h:b=0
 .rw[Vu h,h];rfl
 .rw[Vt h, <- QcB,Qap];have g:(b==0)=false:=by simpa using h
  rw[g,Xi,VB];by_cases q:b∈a.map bibOf
  .rw[Vu q];obtain⟨f,d,rfl⟩:=Xf.1 q;exact(Xu.2 ⟨f,d,by simp⟩).symm
  .rw[Vt q];refine(List.any_eq_false.2 λf d z=>q ?_).symm;rw[<- (Vz.1 z)];exact VH d
theorem Qf9{α κ:Type}[DecidableEq κ](q:α->Bool)(key:α->κ)(d:κ):∀(l:List α) (m:List (κ×Bool)),Ql (l.foldl (λm t=>bif q t then QX m (key t) true else m) m) d false=(Ql m d false||l.any λt=>q t&&decide (key t=d))
 |[],m=>by simp
 |x::l,m=>by
  rw[XE,Qf9 q key d l,List.any_cons];cases h:q x with
  |false=>simp
  |true=>
   rw[Vq,QcA];by_cases h2:d=key x
   .simp[h2]
   .have:¬key x=d:=λz=>h2 z.symm;simp[h2,this]
theorem Qlo{α:Type}(q:α->Bool)(l:List α):decide (0<=firstI q l 0)=l.any q:=by
 rcases QbV q l 0 with⟨b,a⟩|⟨j,x,b,a,e,f⟩
 .rw[b];refine(List.any_eq_false.2 λx d z=>?_).symm;have:=Xt.1 a x d;rw[z]at this;cases this
 .rw[b,Vv (by omega)];exact(Xu.2 ⟨x,VI a,e⟩).symm
theorem QbY(e:Int)(c:Course)(l:List Fact)(p:Protest)(hl:l.length<=16)(he:Ev (λn=>F_i n c) e):Ev (λn=>F_n n c l p) (standS e c l p):=by
 unfold F_n standS F_x;simp only[XK];refine Ea (Qfy l p.Case (by omega)) ?_;refine Ea (v:=.cont ((about l p.Case).foldl (λm f=>QX m (bibOf f) true) ([]:List (Int×Bool)), !(about l p.Case).isEmpty)) (YG (Qa _) λn=>by rw[QhU n _ λf k=>k];rfl) ?_;simp only[Qkh];generalize hm:mdel ((about l p.Case).foldl (λm f=>QX m (bibOf f) true) ([]:List (Int×Bool))) 0=M;have g:∀b,Ql M b false=whoB (about l p.Case) b:=λb=>by rw[<- hm];exact Qkh _ b
 generalize about l p.Case=ab at g⊢;cases ab.isEmpty with
 |true=>exact Qa _
 |false=>
  simp only[Xi,Xh,Vr];refine Ea (v:=(p.By==0)||whoB ab p.By) (Eu λ_=>Qa _) ?_;cases(p.By==0)||whoB ab p.By with
  |true=>exact Qa _
  |false=>
   simp only[Vr];refine Ea (QiH e c l hl he) ?_;cases q:((startF e c l).2==0)with
   |false=>
    rw[show((startF e c l).2 != 0)=true by rw[bne,q];rfl];exact Qa _
   |true=>
    rw[show((startF e c l).2 != 0)=false by rw[bne,q];rfl];have h:=Qjj e c l;simp only[Vr,Vq];generalize startF e c l=st at h;refine Ea (v:=st.1.foldl (λm t=>bif whoB ab t.Bib then QX m t.Distance true else m) ([]:List (Int×Bool))) ?_ ?_
    .refine Q3 st.1 (λm t=>bif whoB ab t.Bib then QX m t.Distance true else m) [] (λm i=>(m,(i:Int))) (λm=>m) (by omega) rfl (λi x m a _=>?_) ?_
     .unfold F_gy;simp only[a.lt,Vq,a.ix,XK,a.nx,g];cases whoB ab x.Bib<;>exact Qa _
     .unfold F_gy;simp only[Qav,Vr];exact Qa _
    generalize hd:st.1.foldl (λm t=>bif whoB ab t.Bib then QX m t.Distance true else m) ([]:List (Int×Bool))=D;have j:∀d,Ql D d false=st.1.any λt=>whoB ab t.Bib&&(t.Distance==d):=λd=>by
     rw[<- hd,Qf9 (λt:Starter=>whoB ab t.Bib) (λt=>t.Distance) d,Qgi,Bool.false_or];refine congrArg (λf=>st.1.any f) (funext λt=>?_);rw[show decide (t.Distance=d)=(t.Distance==d)from rfl]
    refine Ea (v:=st.1.any λs=>(s.Bib==p.By)&&st.1.any λt=>whoB ab t.Bib&&(t.Distance==s.Distance)) ?_ (Qa _);unfold F_fu F_fq;rw[<- Qlo];refine Ea (Ev.first st.1 (λs=>(s.Bib==p.By)&&st.1.any λt=>whoB ab t.Bib&&(t.Distance==s.Distance)) (by omega) (λi x a=>?_) ?_) (Qa _)
    .unfold F_gv F_ep;simp only[a.lt,Vq,a.ix,XK,a.nx,j];refine Ea (v:=(x.Bib==p.By)&&st.1.any λt=>whoB ab t.Bib&&(t.Distance==x.Distance)) (Ea (Ei λ_=>Qa _) (Qa _)) ?_;cases(x.Bib==p.By)&&st.1.any λt=>whoB ab t.Bib&&(t.Distance==x.Distance)<;>exact Qa _
    .unfold F_gv;simp only[Qav,Vr];exact Qa _
theorem Qor(l:List Fact)(f:Fact)(hl:l.length<=1048576):Ev (λn=>F_cs n l f) (l.filter (filedB f.At)):=by
 unfold F_cs F_fz;refine Ev.delete l (λg=>decide (f.At<g.At)) hl (Ev.first l _ (by omega) (λi x a=>?_) ?_) (λd i j x y h a b m e=>?_) λd i=>?_
 .unfold F_ha F_ai;simp only[a.lt,Vq,a.ix,XK,a.nx];cases decide (f.At<x.At)<;>exact Qa _
 .unfold F_ha;simp only[Qav,Vr];exact Qa _
 .have k:=(XM.1 b).1;unfold F_gw F_ai;simp only[a.lt,Vq,a.ix,XK,a.nx];cases decide (f.At<x.At)with
  |true=>exact Qa _
  |false=>
   simp only[Xi,Vq,YS b,Qh1 d x k,XK,YB (show i<9223372036854775807 by omega)];exact Qa _
 .unfold F_gw;simp only[Qav,Vr];exact Qa _
theorem Qfz(e:Int)(c:Course)(l:List Fact)(f:Fact)(hl:l.length<=100)(d:(l.filter (filedB f.At)).length<=16)(he:Ev (λn=>F_i n c) e):Ev (λn=>F_f n c l f) (admS e c l f):=by
 unfold F_f admS;refine Ea (v:= !(validS f&&(f.Kind==9))) ?_ ?_
 .refine Ea (Qaj f) ?_;cases validS f with
  |true=>exact YG (Qa _) λn=>rfl
  |false=>exact Qa _
 cases validS f with
 |false=>exact Qa _
 |true=>
  simp only[VB];cases(f.Kind==9)with
  |false=>exact Qa _
  |true=>
   simp only[VB,Xh,Vr];unfold F_al;simp only[QdK (show l.length<=1048576 by omega),XK];refine Ea (Qor l f (by omega)) ?_;unfold F_ex F_du F_ga F_dt;simp only[XK];cases(f.Protest.Form==1)with
   |false=>exact Qa _
   |true=>
    simp only[Xh,Vr,VB];unfold F_fb F_fr;have g:((bif (f.Protest.By==0)then some true else some (decide (c.Fee<=f.Protest.Fee))):Option Bool)=some ((f.Protest.By==0)||decide (c.Fee<=f.Protest.Fee)):=by cases(f.Protest.By==0)<;>rfl
    simp only[g,XK];cases(f.Protest.By==0)||decide (c.Fee<=f.Protest.Fee)with
    |false=>exact Qa _
    |true=>
     simp only[Xh,Vr,VB];have a:Ev (λn=>F_ci n c (l.filter (filedB f.At)) f.Protest f) (!((deadS e c (l.filter (filedB f.At)) f.Protest.Case).2&&decide (f.At<=(deadS e c (l.filter (filedB f.At)) f.Protest.Case).1))):=by
      unfold F_ci F_dc;refine Ea (Ea (QbZ e c _ f.Protest.Case (by omega) he) ?_) (Qa _);exact Ea (Ei λ_=>Qa _) (Qa _)
     have b:Ev (λn=>F_cf n c (l.filter (filedB f.At)) f.Protest) (!standS e c (l.filter (filedB f.At)) f.Protest):=by
      unfold F_cf F_ev;exact Ea (Ea (QbY e c _ f.Protest d he) (Qa _)) (Qa _)
     generalize((deadS e c (l.filter (filedB f.At)) f.Protest.Case).2&&decide (f.At<=(deadS e c (l.filter (filedB f.At)) f.Protest.Case).1))=u at a⊢;generalize standS e c (l.filter (filedB f.At)) f.Protest=v at b⊢;refine Ea (v:= !(u&&v)) (Ea (v:=bif u&&v then-1 else bif u then(3:Int)else 2) (Ea a ?_) ?_) ?_
     .cases u with
      |false=>exact Qa _
      |true=>
       refine Jb (Ea b ?_);cases v<;>exact Qa _
     .cases u<;>cases v<;>exact Qa _
     .cases u<;>cases v<;>exact Qa _
theorem Qba(e:Int)(c:Course)(l:List Fact)(f:Fact)(hl:l.length<=16)(he:Ev (λn=>F_i n c) e):Ev (λn=>F_f n c l f) (admS e c l f):=
 Qfz e c l f (by omega) (XW (VO ..) hl) he
def openM(e:Int)(c:Course)(l:List Fact)(m:List (Int×Bool))(f:Fact):List (Int×Bool):=bif Ql m f.Protest.Case false then m else bif openB e c l f then QX m f.Protest.Case true else m
def openF(e:Int)(c:Course)(l:List Fact):List Int:=YI ltI ((l.foldl (openM e c l) []).map Prod.fst)
theorem Qgo(f:Fact)(n:Nat):∀(a:List Fact) (b:Bool),Qcm (F_gl n f) a b=some (.cont (b||a.any λg=>(g.Kind==10)&&decide (f.At<g.At)))
 |[],b=>by simp[Qcm]
 |x::r,b=>by
  unfold Qcm;have:F_gl n f b x=some (.cont (b||((x.Kind==10)&&decide (f.At<x.At)))):=by
   unfold F_gl;cases b<;>cases(x.Kind==10)<;>rfl
  rw[this];show Qcm _ r _=_;rw[Qgo f n r,List.any_cons,Bool.or_assoc]
theorem Qdz(e:Int)(c:Course)(l:List Fact):∀(r:List Fact) (m:List (Int×Bool)),(r.foldl (openM e c l) m).length<=m.length+r.length
 |[],m=>by simp
 |x::r,m=>by
  rw[XE];refine XW (Qdz e c l r _) ?_;have:(openM e c l m x).length<=m.length+1:=by
   unfold openM;have:=Qie m x.Protest.Case true;cases Ql m x.Protest.Case false with
   |true=>rw[Vq];omega
   |false=>
    rw[Vr];cases openB e c l x with
    |true=>exact this
    |false=>rw[Vr];omega
  rw[X2];omega
theorem QkN(e:Int)(c:Course)(l:List Fact)(hl:l.length<=16)(he:Ev (λn=>F_i n c) e):Ev (λn=>F_v n c l) (openF e c l):=by
 unfold F_v openF F_fc;refine Ea (v:=l.foldl (openM e c l) []) ?_ ?_
 .refine Q3 l (openM e c l) [] (λm i=>(m,(i:Int))) (λm=>m) (by omega) rfl (λi f m ha _=>?_) ?_
  .unfold F_gt;simp only[ha.lt,Vq,ha.ix,XK,ha.nx];refine Ea (v:=openM e c l m f) ?_ (Qa _);refine Ea (v:=Ql m f.Protest.Case false|| !admS e c l f) (Eu λ_=>Ea (Qba e c l f hl he) (Qa _)) ?_;unfold openM openB;cases Ql m f.Protest.Case false with
   |true=>exact Qa _
   |false=>
    simp only[Bool.false_or,Vr];cases admS e c l f with
    |false=>exact Qa _
    |true=>
     simp only[Xh,Vr,VB];unfold F_x lateB;simp only[XK];refine Ea (Qfy l f.Protest.Case (by omega)) ?_;simp only[Qgo,Bool.false_or,XK];cases((about l f.Protest.Case).any λg=>(g.Kind==10)&&decide (f.At<g.At))<;>exact Qa _
  .unfold F_gt;simp only[Qav,Vr];exact Qa _
 simp only[XK];have a:=Qdz e c l l [];simp only[List.length_nil]at a;generalize l.foldl (openM e c l) []=m at a;refine Ea (v:=YI ltI (m.map Prod.fst)) ⟨0,λn _=>?_⟩ (Qa _);unfold F_dn QlG;have b:(List.map Prod.fst m).length<=1048576:=by rw[X3];omega
 rw[Qcc b,Vq];refine QhD λp d=>?_;unfold sortI;rw[Qcc (by rw[d.length_eq];exact b)];show some (YI ltI p)=_;rw[Qgm d]
theorem QcV(e:Int)(c:Course)(l:List Fact):(openF e c l).Pairwise (· < ·)/\ ∀k,k∈openF e c l↔ ∃f∈l,openB e c l f=true/\f.Protest.Case=k:=by
 have E:∀(r p:List Fact) (m:List (Int×Bool)),p++r=l->(m.map Prod.fst).Nodup->(∀k,Yn m k≠some false)->(∀k,k∈m.map Prod.fst↔ ∃f∈p,openB e c l f=true/\f.Protest.Case=k)->
   ((r.foldl (openM e c l) m).map Prod.fst).Nodup/\ ∀k,k∈(r.foldl (openM e c l) m).map Prod.fst↔ ∃f∈l,openB e c l f=true/\f.Protest.Case=k:=by
  intro r
  induction r with
  |nil=>intro p m j i t w;rw[Vh]at j;subst j;exact⟨i,w⟩
  |cons f r B=>
   intro p m j i t w;rw[XE];have keep:(∀k,openB e c l f=true->f.Protest.Case=k->k∈m.map Prod.fst)->∀k,k∈m.map Prod.fst↔ ∃g∈p++[f],openB e c l g=true/\g.Protest.Case=k:=λG k=>by
    rw[w k];constructor
    .rintro⟨g,a,b⟩;exact⟨g,by simp[a],b⟩
    .rintro⟨g,a,b,d⟩;rcases VE.1 a with a|a
     .exact⟨g,a,b,d⟩
     .rw[VC.1 a]at b d;exact(w k).1 (G k b d)
   unfold openM;cases q:Ql m f.Protest.Case false with
   |true=>
    refine B (p++[f]) m (by rw[<- j];simp) i t (keep λk _ d=>?_);rw[QcB]at q;rw[<- d];refine(Qbl m _).2 ?_;cases z:Yn m f.Protest.Case with
    |none=>rw[z]at q;cases q
    |some v=>exact⟨v,rfl⟩
   |false=>
    rw[Vr];cases F:openB e c l f with
    |false=>exact B (p++[f]) m (by rw[<- j];simp) i t (keep λk b _=>by rw[F]at b;cases b)
    |true=>
     refine B (p++[f]) (QX m f.Protest.Case true) (by rw[<- j];simp) (Qe7 _ _ i) (λk=>?_) λk=>?_
     .rw[Y1];by_cases z:k=f.Protest.Case
      .rw[Vu z];intro y;cases y
      .rw[Vt z];exact t k
     .have H:k∈(QX m f.Protest.Case true).map Prod.fst↔k=f.Protest.Case\/k∈m.map Prod.fst:=by
       rw[Qbl,Qbl];constructor
       .rintro⟨v,u⟩;rw[Y1]at u;by_cases z:k=f.Protest.Case
        .exact .inl z
        .rw[Vt z]at u;exact .inr ⟨v,u⟩
       .rintro(z|⟨v,u⟩)
        .exact⟨true,by rw[Y1,Vu z]⟩
        .by_cases z:k=f.Protest.Case
         .exact⟨true,by rw[Y1,Vu z]⟩
         .exact⟨v,by rw[Y1,Vt z];exact u⟩
      rw[H,w k];constructor
      .rintro(rfl|⟨g,a,b⟩)
       .exact⟨f,by simp,F,rfl⟩
       .exact⟨g,by simp[a],b⟩
      .rintro⟨g,a,b,d⟩;rcases VE.1 a with a|a
       .exact .inr ⟨g,a,b,d⟩
       .rw[VC.1 a]at d;exact .inl d.symm
 obtain⟨i,t⟩:=E l [] [] (by simp) (by simp) (λk h=>by cases h) (λk=>by simp);unfold openF;generalize l.foldl (openM e c l) []=m at*;have p:=Qk ltI (m.map Prod.fst);refine⟨?_,λk=>by rw[p.mem_iff];exact t k⟩;have s:=QK (Qc0 (m.map Prod.fst));have n:(YI ltI (m.map Prod.fst)).Nodup:=p.nodup_iff.2 i;refine List.Pairwise.imp₂ (λx y a b=>?_) s n;have a:¬y<x:=Vx a;omega
theorem QjC{e:Int}{c:Course}{l m:List Fact}(h:SameF l m):openF e c l=openF e c m:=by
 obtain⟨j,r⟩:=QcV e c l;obtain⟨i,q⟩:=QcV e c m;have one:∀{l m:List Fact},SameF l m->∀k,k∈openF e c l->k∈openF e c m:=λ{l m} h k hk=>by
  obtain⟨f,p,d,g⟩:=((QcV e c l).2 k).1 hk;have n:validS f=true:=by
   unfold openB at d;rw[XX]at d;exact(Qj1 d.1).1
  exact((QcV e c m).2 k).2 ⟨f,(h f n).1 p,by rw[<- QjD h];exact d,g⟩
 exact Qk7 (lt:=λa b:Int=>a<b) (λa b h=>by omega) j i λk=>⟨one h k,one h.symm k⟩
theorem QjN(l m:List Int)(hl:l.length<=1048576):Ev (λn=>F_ap n l m) (decide (l=m)):=QoH l m (λn=>F_hm n l m) (by omega) λn s=>rfl
set_option maxRecDepth 100000
theorem Qpd:F_da 300=some true:=by kernel_rfl
end Go.Sw
