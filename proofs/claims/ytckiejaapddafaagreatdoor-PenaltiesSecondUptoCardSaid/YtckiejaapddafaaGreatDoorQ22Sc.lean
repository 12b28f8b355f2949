/- The plain laws that a law needs, with no program in sight. -/
import Derived.Test.YtckiejaapddafaaGreatDoorW22Sc
set_option linter.unusedVariables false
set_option linter.unusedSimpArgs false
namespace Go.Sw
def inR(lo hi x:Int):Bool:=decide (lo<=x)&&decide (x<=hi)
theorem Qgn(lo hi:Int)(l:List Int)(hl:l.length<=4611686018427387904):Ev (λn=>F_a n lo hi l) (l.all (inR lo hi)):=by
 have h:Ev (λn=>F_bg n l lo hi) (l.any λx=> !inR lo hi x):=by
  unfold F_bg F_dh;refine Ev.contains l _ (λn x=>F_an n x lo hi) hl λx _=>?_;unfold F_an;refine Ea (v:= !inR lo hi x) ?_ (Qa _);refine(Eu λh=>Qa _).eq ?_;unfold inR;rw[X0];simp
 unfold F_a;refine Ea h ((Qa _).eq ?_);rw[List.not_any_eq_all_not];simp
def okN(c:Nat):Bool:=(decide (97<=c)&&decide (c<=122))||(decide (48<=c)&&decide (c<=57))||decide (c=95)
def okAN(c:Nat):Bool:=decide (97<=c)&&decide (c<=122)
def okC(c:UInt8):Bool:=okN c.toNat
def okA(c:UInt8):Bool:=okAN c.toNat
def kwL:List (List UInt8):=[[99,111,117,114,115,101],[109,97,116,115],[115,116,97,114,116],[112,97,115,115],[101,110,100],[108,101,103],[116,111],[100,105,115,116,97,110,99,101],[103,117,110],[99,104,105,112],[115,108,111,116],[108,97,112,115],[108,97,112],[99,117,116,111,102,102],[101,120,116,114,97],[119,97,118,101],[111,102,102,101,110,99,101],[111,117,116],[99,97,116,101,103,111,114,121],[112,114,105,122,101],[97,108,108],[116,105,101,115],[105,102],[101,108,115,101],[97,110,100],[111,114],[110,111,116],[111,108,100,101,114],[121,111,117,110,103,101,114],[98,105,98],[100,114,97,119],[102,105,101,108,100],[115,104,111,114,116],[102,97,117,108,116,115],[109,105,115,115,101,115],[115,116,114,97,121,115],[119,105,110,100,111,119],[114,101,115,105,100,117,97,108],[100,114,105,102,116],[112,114,111,116,101,115,116],[102,101,101],[100,101,97,100,108,105,110,101]]
theorem Qns(c d:Bool):(bif c then some c else some d)=some (c||d):=by cases c<;>rfl
def kwsOf:List UInt8->List (List UInt8)
 |[]=>[]
 |b::l=>(bif b==32&& !(l.dropWhile λc=>c != 32).isEmpty then[l.takeWhile λc=>c != 32]else[])++kwsOf l
theorem QdT:∀(l s:List UInt8),(∀c∈s,c≠32)->(s++[32]).isPrefixOf l=((l.takeWhile λc=>c != 32)==s&& !(l.dropWhile λc=>c != 32).isEmpty)
 |[],s,h=>by cases s<;>simp
 |b::l,[],h=>by
  by_cases e:b=32
  .subst e;simp[List.isPrefixOf]
  .have e1:(b != 32)=true:=by simpa using e
   have a:(32==b)=false:=by simpa using λq=>e q.symm
   simp[List.isPrefixOf,List.takeWhile_cons,e1,a]
 |b::l,c::s,h=>by
  have f:=h c (by simp);have i:=QdT l s λd j=>h d (by simp[j]);by_cases e:b=32
  .subst e;have:(c==32)=false:=by simpa using f
   simp[List.isPrefixOf,this]
  .have e1:(b != 32)=true:=by simpa using e
   simp only[VM,List.isPrefixOf,List.takeWhile_cons,List.dropWhile_cons,e1,if_true,i,List.cons_beq_cons];by_cases q:c=b
   .subst q;simp
   .have g:(c==b)=false:=by simpa using q
    have k:(b==c)=false:=by simpa using λz=>q z.symm
    simp[g,k]
theorem contains_cons(b:UInt8)(l t:List UInt8)(d:t≠[]):Lib.contains (b::l) t=(t.isPrefixOf (b::l)||Lib.contains l t):=by
 unfold Lib.contains;rw[show Lib.index (b::l) t=if t.isPrefixOf (b::l)then 0 else if Lib.index l t== -1 then-1 else Lib.index l t+1 from rfl];cases h:t.isPrefixOf (b::l)with
 |true=>simp
 |false=>
  have:=Lib.index_ge l t;by_cases q:Lib.index l t= -1
  .simp[q]
  .have a:(Lib.index l t== -1)=false:=by simpa using q
   simp only[a,Bool.false_or];rw[X0];simp;omega
theorem QbZ(s:List UInt8)(h:∀c∈s,c≠32):∀l,Lib.contains l (32::(s++[32]))=(kwsOf l).contains s
 |[]=>by simp[Lib.contains,Lib.index,kwsOf]
 |b::l=>by
  rw[contains_cons b l _ (by simp),QbZ s h l];simp only[kwsOf,List.isPrefixOf,QdT l s h];by_cases e:b=32
  .subst e;cases q: !(l.dropWhile λc=>c != 32).isEmpty with
   |true=>
    simp only[q,beq_self_eq_true,VC,Bool.and_true,Vr,VM,Vj,List.contains_cons];congr 1;rw[X0];simp only[VA];exact⟨λh=>h.symm,λh=>h.symm⟩
   |false=>simp[q]
  .have e1:(b==32)=false:=by simpa using e
   have a:(32==b)=false:=by simpa using λq=>e q.symm
   simp[e1,a]
def wordsL:List UInt8:=[32,99,111,117,114,115,101,32,109,97,116,115,32,115,116,97,114,116,32,112,97,115,115,32,101,110,100,32,108,101,103,32,116,111,32,100,105,115,116,97,110,99,101,32,103,117,110,32,99,104,105,112,32,115,108,111,116,32,108,97,112,115,32,108,97,112,32,99,117,116,111,102,102,32,101,120,116,114,97,32,119,97,118,101,32,111,102,102,101,110,99,101,32,111,117,116,32,99,97,116,101,103,111,114,121,32,112,114,105,122,101,32,97,108,108,32,116,105,101,115,32,105,102,32,101,108,115,101,32,97,110,100,32,111,114,32,110,111,116,32,111,108,100,101,114,32,121,111,117,110,103,101,114,32,98,105,98,32,100,114,97,119,32,102,105,101,108,100,32,115,104,111,114,116,32,102,97,117,108,116,115,32,109,105,115,115,101,115,32,115,116,114,97,121,115,32,119,105,110,100,111,119,32,114,101,115,105,100,117,97,108,32,100,114,105,102,116,32,112,114,111,116,101,115,116,32,102,101,101,32,100,101,97,100,108,105,110,101,32]
theorem QpK:kwsOf wordsL=kwL:=by decide+kernel
def classTab:List Int:=(List.range 256).map λi=>if 97<=i/\i<=122\/65<=i/\i<=90 then 2 else if 48<=i/\i<=57 then 3 else if i∈[123,125,40,41,91,93,59,44,61,60,62]then 4 else if i∈[32,9,10,13]then 1 else 0
theorem Qjv:Ev F_cq classTab:=by
 unfold F_cq;refine Ea (Qch (step:=F_ez 0) 40 (b:=(iter (F_ez 0) 40 (List.replicate 256 0,97)).getD []) (by decide+kernel)) ?_;refine Ea (Qch (step:=F_gz 0) 40 (b:=(iter (F_gz 0) 40 ((iter (F_ez 0) 40 (List.replicate 256 0,97)).getD [],48)).getD []) (by decide+kernel)) ?_;generalize hb:(iter (F_gz 0) 40 ((iter (F_ez 0) 40 (List.replicate 256 0,97)).getD [],48)).getD []=b2;refine Ea (Qch (step:=F_hi 0) 40 (b:=(iter (F_hi 0) 40 (b2,0)).getD []) (by subst hb;decide+kernel)) ?_;refine Ea (Qch (step:=F_hw 0) 40 (b:=classTab) (by subst hb;decide+kernel)) ?_;exact Ez (by decide+kernel)
theorem Qln:((List.range 256).all λi=> !okN i||decide (classTab[i]?=some (if okAN i then 2 else if i=95 then 0 else 3)))=true:=by decide+kernel
theorem Qnq{c:UInt8}(h:okC c=true):Qee 256 classTab (c.toNat:Int)=some (if okA c then 2 else if c.toNat=95 then 0 else 3):=by
 have a:=Xt.1 Qln c.toNat (List.mem_range.2 c.toNat_lt);unfold okC at h;rw[h]at a;simp only[Xg,Bool.false_or,Vt]at a;unfold Qee;rw[show Nat.beq classTab.length 256=true by decide+kernel,Vr,Jw a];rfl
def goodS(s:List UInt8):Bool:=decide (1<=s.length)&&decide (s.length<=24)&&(s.head?).any okA&&s.all okC
def isNameS(s:List UInt8):Bool:=goodS s&& !kwL.contains s
theorem Qld(s:List UInt8)(h:goodS s=true):Ev (λn=>F_ct n s) true:=by
 unfold goodS at h;simp only[XZ,Vt,Xt]at h;obtain⟨⟨⟨d,k⟩,g⟩,j⟩:=h;unfold F_ct;refine Ea Qjv ?_;refine QaW (v:=List.replicate 256 0) (by decide+kernel) ?_;refine QaW (v:=classTab) (by decide+kernel) ?_;refine Ea (v:=Ctl.cont ()) (Ev.iter (λi=>(i:Int)) s.length rfl (λi f=>?_) ?_) ?_
 .have a:=JD (x:=s[i]) (by omega) (XN f);have e:=j _ a.mem;unfold F_ho;simp only[a.lt,Vr,a.ix,XM,Qnq e,a.nx];cases i with
  |zero=>
   have:okA s[0]=true:=by
    cases s with
    |nil=>simp at d
    |cons c r=>simpa using g
   simp[this];exact Qa _
  |succ i=>
   by_cases q:okA s[i+1]=true
   .simp[q];exact Qa _
   .by_cases b:s[i+1].toNat=95
    .simp[q,b];exact Qa _
    .simp[q,b];exact Qa _
 .unfold F_ho;simp only[Qbt,Vs];exact Qa _
 .refine Ez ?_;cases s with
  |nil=>simp at d
  |cons c r=>rfl
theorem Qk6{s:List UInt8}(h:goodS s=true):∀c∈s,c≠32:=by
 unfold goodS at h;simp only[XZ,Xt]at h;rintro c a rfl;exact absurd (h.2 _ a) (by decide)
theorem QmO{s:List UInt8}(h:goodS s=true):s.length<=24:=by
 unfold goodS at h;simp only[XZ,Vt]at h;exact h.1.1.2
theorem Qjx(s:List UInt8)(h:goodS s=true):Ev (λn=>F_cd n s) (kwL.contains s):=by
 unfold F_cd;refine Ea (v:=kwL.contains s) ?_ (Qa _);refine Ea (Qld s h) (QiV ?_);have a:=QmO h;refine QaW (v:=[32]++s) (by unfold cat;rw[XV (by simp;omega)];rfl) ?_;refine QaW (v:=[32]++s++[32]) (by unfold cat;rw[XV (by simp;omega)];rfl) ?_;refine QaW (v:=kwL.contains s) ?_ (Qa _);show Qe6 wordsL ([32]++s++[32])=some (kwL.contains s);unfold Qe6;rw[show Nat.blt wordsL.length 4294967281=true by decide+kernel,Vr];rw[show[32]++s++[32]=32::(s++[32])by simp,QbZ s (Qk6 h),QpK]
theorem ch_lt(c:UInt8)(k:Nat):decide ((c.toNat:Int)<(k:Int))=decide (c.toNat<k):=by
 rw[X0];simp
theorem badC(c:UInt8):(bif decide ((c.toNat:Int)<97)then(bif decide ((c.toNat:Int)<48)then some ((c.toNat:Int) != 95)else(bif decide (57<(c.toNat:Int))then some ((c.toNat:Int) != 95)else some false))else(bif decide (122<(c.toNat:Int))then(bif decide ((c.toNat:Int)<48)then some ((c.toNat:Int) != 95)else(bif decide (57<(c.toNat:Int))then some ((c.toNat:Int) != 95)else some false))else some false))=some (!okC c):=by
 unfold okC okN;generalize c.toNat=k;have e:((k:Int) != 95)= !decide (k=95):=by
  by_cases h:k=95
  .subst h;rfl
  .rw[Vz h];simp;omega
 rw[e];by_cases i:k<48
 .rw[Yt (show(k:Int)<97 by omega),Yt (show(k:Int)<48 by omega)];have a:¬97<=k:=by omega
  have f:¬48<=k:=by omega
  simp[a,f]
 .rw[YL (show¬(k:Int)<48 by omega)];by_cases b:k<=57
  .rw[Yt (show(k:Int)<97 by omega),YL (show¬57<(k:Int)by omega)];have a:48<=k:=by omega
   simp[a,b]
  .rw[Yt (show 57<(k:Int)by omega)];by_cases g:k<97
   .rw[Yt (show(k:Int)<97 by omega)];have a:¬97<=k:=by omega
    simp[a,b]
   .rw[YL (show¬(k:Int)<97 by omega)];by_cases d:k<=122
    .rw[YL (show¬122<(k:Int)by omega)];have a:97<=k:=by omega
     simp[a,d]
    .rw[Yt (show 122<(k:Int)by omega)];simp[b,d]
theorem QkY(n:Nat)(s:List UInt8):(bif decide ((s.length:Int)<1)then some true else(bif decide (24<(s.length:Int))then some true else(idx s 0).bind λx10=>(bif decide ((x10.toNat:Int)<97)then some true else(idx s 0).bind λx12=>some (decide (122<(x12.toNat:Int))))))=some (!(decide (1<=s.length)&&decide (s.length<=24)&&(s.head?).any okA)):=by
 cases s with
 |nil=>rfl
 |cons c r=>
  rw[YL (show¬((c::r).length:Int)<1 by simp;omega),Vs];by_cases h:(c::r).length<=24
  .rw[YL (show¬24<((c::r).length:Int)by omega),Vs];have e:idx (c::r) 0=some c:=rfl;simp only[e,XM];simp only[X3]at h;have a:r.length<=23:=by omega
   simp only[List.head?_cons,Option.any_some,okA,okAN];rw[show(97:Int)=((97:Nat):Int)from rfl,ch_lt];by_cases b:c.toNat<97
   .have:¬97<=c.toNat:=by omega
    simp[b,this]
   .have d:97<=c.toNat:=by omega
    simp[b,d,a];by_cases q:c.toNat<=122
    .rw[YL (show¬122<(c.toNat:Int)by omega),Yt q];rfl
    .rw[Yt (show 122<(c.toNat:Int)by omega),YL q];rfl
  .rw[Yt (show 24<((c::r).length:Int)by omega),Vr];simp only[X3]at h;have a:¬r.length<=23:=by omega
   simp[a]
theorem Qgq(s:List UInt8)(hl:s.length<=1048576):Ev (λn=>F_c n s) (isNameS s):=by
 unfold F_c;refine Ea (Ez (QkY 0 s)) ?_;unfold isNameS;cases d:(decide (1<=s.length)&&decide (s.length<=24)&&(s.head?).any okA)with
 |false=>
  simp only[Xh,Vr];have:goodS s=false:=by unfold goodS;rw[d];rfl
  rw[this];exact Qa _
 |true=>
  simp only[Xg,Vs];have f:goodS s=s.all okC:=by unfold goodS;rw[d];rfl
  refine Ea (Qb3 s (λc=> !okC c) (λi=>(i:Int)) (Ctl.done false) (Ctl.cont ()) (by omega) rfl (λi x a b=>?_) (λi x a b=>?_) ?_) ?_
  .unfold F_gf;simp only[a.lt,Vr,a.ix,XM,badC,b,Vs,a.nx];exact Qa _
  .unfold F_gf;simp only[a.lt,Vr,a.ix,XM,badC,b];exact Qa _
  .unfold F_gf;simp only[Qbt,Vs];exact Qa _
  .rw[f];have e:s.any (λc=> !okC c)= !s.all okC:=by rw[List.not_all_eq_any_not]
   rw[e];cases q:s.all okC with
   |true=>
    simp only[Xg,Vs,VC];exact Ea (Qjx s (f.trans q)) (Qa _)
   |false=>
    simp only[Xh,Vr,Bool.false_and];exact Qa _
def diffS:List (List UInt8)->List (List UInt8)->Bool
 |_,[]=>true
 |seen,x::r=>isNameS x&& !seen.contains x&&diffS (seen++[x]) r
theorem Qjz(l:List (List UInt8))(i:Nat)(x:List UInt8)(h:At l i x):diffS (l.take i) (l.drop i)=(isNameS x&& !(l.take i).contains x&&diffS (l.take (i+1)) (l.drop (i+1))):=by
 rw[h.drop,h.take];rfl
theorem QbX{α:Type}(l:List α)(a:α->List UInt8)(g:Nat->α->Option Unit)(hg:∀n x,g n x=some ())(hl:l.length<=1048576)(p:∀x∈l,(a x).length<=1048576):
  Ev (λn=>((iter (λs:(List (List UInt8×Bool))×Int=>bif decide (s.2<(l.length:Int))then(idx l s.2).bind λx35=>(g n x35).bind λr36=>((F_c n (a x35)).bind λr42=>(bif (!r42)then some true else(some (QK s.1 (a x35) false)).bind λv44=>some v44):Option Bool).bind λb40=>(bif b40 then some (.done (.done false))else(some (QG s.1 (a x35) true)).bind λm46=>some (.cont (m46,IntKind.i64.wrap (s.2+1))))else some (.done (.cont ()))) n ([],0):Option (Ctl Unit Bool)).bind λb28=>
   match b28 with
   |.cont _=>some true
   |.done s=>some s:Option Bool)) (diffS [] (l.map a)):=by
 have e:l.length<=4611686018427387904:=by omega
 have f:(l.map a).length<=4611686018427387904:=by simpa using e
 have k:=Qhz (B:=Ctl Unit Bool) l (step:=λn s=>bif decide (s.2<(l.length:Int))then(idx l s.2).bind λx35=>(g n x35).bind λr36=>((F_c n (a x35)).bind λr42=>(bif (!r42)then some true else(some (QK s.1 (a x35) false)).bind λv44=>some v44):Option Bool).bind λb40=>(bif b40 then some (.done (.done false))else(some (QG s.1 (a x35) true)).bind λm46=>some (.cont (m46,IntKind.i64.wrap (s.2+1))))else some (.done (.cont ())))
  (s0:=(([]:List (List UInt8×Bool)),(0:Int))) (λi=>(Yj a true (l.take i),(i:Int))) (λi=>bif diffS ((l.map a).take i) ((l.map a).drop i)then .cont ()else .done false) e rfl (λi x d=>?_) ?_
 .refine Ea k ?_;simp only[List.take_zero,List.drop_zero];cases diffS [] (l.map a)<;>exact Qa _
 .have j:At (l.map a) i (a x):=JD f (by rw[Xp,d.get];rfl);simp only[Qjz _ _ _ j];have b:Ev (λn=>((F_c n (a x)).bind λr42=>(bif (!r42)then some true else(some (QK (Yj a true (l.take i)) (a x) false)).bind λv44=>some v44):Option Bool)) (!(isNameS (a x)&& !((l.map a).take i).contains (a x))):=by
   refine Ea (Qgq (a x) (p x d.mem)) ?_;cases isNameS (a x)with
   |false=>exact Qa _
   |true=>
    refine Qaz ((Qa _).eq ?_);rw[QdV,List.map_take];by_cases h:a x∈(l.map a).take i
    .rw[Vv h];simp[h]
    .rw[Vu h];simp[h]
  cases m:(isNameS (a x)&& !((l.map a).take i).contains (a x))with
  |true=>
   rw[m]at b;refine .inl ⟨?_,by simp⟩;simp only[d.lt,Vr,d.ix,XM,hg];refine Ea b ?_;simp only[Xg,Vs,XM,d.nx];rw[d.take,Qg3];exact Qa _
  |false=>
   rw[m]at b;refine .inr ?_;simp only[d.lt,Vr,d.ix,XM,hg];refine Ea b ?_;simp only[Xh,Vr,Bool.false_and,Vs];exact Qa _
 .simp only[Qbt,Vs];rw[show(l.map a).drop l.length=[]by apply List.drop_eq_nil_of_le;simp];exact Qa _
theorem Qp1{α:Type}{l:List α}{x:α}(h:l.length<=140737488):app l [x]=some (l++[x]):=Qbw l x (by omega)
theorem Qgr{α β:Type}(l:List α)(f:α->β)(hl:l.length<=140737488):Ev (λn=>iter (λs:(List β)×Int=>bif decide (s.2<(l.length:Int))then(idx l s.2).bind λx15=>(app s.1 [f x15]).bind λl16=>some (Ctl.cont (l16,IntKind.i64.wrap (s.2+1)))else some (Ctl.done s.1)) n (([]:List β),(0:Int))) (l.map f):=by
 have e:∀l:List α,l.foldl (λ(a:List β) x=>a++[f x]) []=l.map f:=by
  intro l;have d:∀(l:List α) (a:List β),l.foldl (λ(a:List β) x=>a++[f x]) a=a++l.map f:=by
   intro l
   induction l with
   |nil=>intro a;simp
   |cons x l h=>intro a;rw[XG,h];simp
  simpa using d l []
 rw[<- e l];refine Yq l (λ(a:List β) x=>a++[f x]) [] (λa i=>(a,(i:Int))) (λa=>a) (by omega) rfl (λi x a g b=>?_) ?_
 .rw[e]at b;have:a.length<=140737488:=by rw[b];simp;omega
  simp only[g.lt,Vr,g.ix,XM,Qp1 this,g.nx];exact Qa _
 .simp only[Qbt,Vs];exact Qa _
def namesS(c:Course):Bool:=isNameS c.Name&&(diffS [] (c.Mats.map (·.Name))&&(diffS [] (c.Distances.map (·.Name))&&(diffS [] (c.Waves.map (·.Name))&&(diffS [] (c.Offences.map (·.Name))&&diffS [] (c.Categories.map (·.Name))))))
structure CourseOk (c:Course):Prop where
 name:c.Name.length<=1048576
 mats:c.Mats.length<=1048576
 matsN:∀x∈c.Mats,x.Name.length<=1048576
 legs:c.Legs.length<=1048576
 dist:c.Distances.length<=1048576
 distN:∀x∈c.Distances,x.Name.length<=1048576
 cut:∀x∈c.Distances,x.Cutoffs.length<=1048576
 wave:c.Waves.length<=1048576
 waveN:∀x∈c.Waves,x.Name.length<=1048576
 off:c.Offences.length<=1048576
 offN:∀x∈c.Offences,x.Name.length<=1048576
 cat:c.Categories.length<=1048576
 catN:∀x∈c.Categories,x.Name.length<=1048576
 prize:c.Prizes.length<=1048576
theorem Qm3(c:Course)(w:CourseOk c):Ev (λn=>F_ca n c) (namesS c):=by
 unfold F_ca namesS;refine Ea (v:=_) ?_ (Qa _);refine Ea (Qgq c.Name w.name) (Ei λ_=>?_);have f:Ev (λn=>F_br n c.Mats) (diffS [] (c.Mats.map (·.Name))):=by unfold F_br;exact QbX c.Mats (·.Name) F_ef (λ_ _=>rfl) w.mats w.matsN
 have a:Ev (λn=>F_bj n c.Distances) (diffS [] (c.Distances.map (·.Name))):=by unfold F_bj;exact QbX c.Distances (·.Name) F_eh (λ_ _=>rfl) w.dist w.distN
 have d:Ev (λn=>F_co n c.Waves) (diffS [] (c.Waves.map (·.Name))):=by unfold F_co;exact QbX c.Waves (·.Name) F_fd (λ_ _=>rfl) w.wave w.waveN
 have e:Ev (λn=>F_cn n c.Offences) (diffS [] (c.Offences.map (·.Name))):=by unfold F_cn;exact QbX c.Offences (·.Name) F_di (λ_ _=>rfl) w.off w.offN
 have b:Ev (λn=>F_aw n c.Categories) (diffS [] (c.Categories.map (·.Name))):=by unfold F_aw;exact QbX c.Categories (·.Name) F_da (λ_ _=>rfl) w.cat w.catN
 refine Ea f (Ei λ_=>?_);refine Ea a (Ei λ_=>?_);refine Ea d (Ei λ_=>?_);refine Ea e (Ei λ_=>?_);exact Ea b (Qa _)
theorem QcL{n:Nat}(h:n<=1048576):IntKind.i64.wrap ((n:Int)-1)=(n:Int)-1:=Yu (by omega) (by omega)
mutual
def szP:Part->Nat
 |⟨_,_,ps⟩=>1+szPs ps
def szPs:List Part->Nat
 |[]=>0
 |p::r=>szP p+szPs r
end
theorem Qad(p:Part):szP p=1+szPs p.Parts:=by cases p;rfl
theorem QaM{p:Part}:∀{l:List Part},p∈l->szP p<=szPs l
 |q::r,h=>by
  simp only[szPs];rcases X8.1 h with rfl|h
  .omega
  .have:=QaM h;omega
mutual
def partS(k:Int):Part->Bool
 |⟨m,laps,ps⟩=>bif laps==0 then inR 0 k m&&((ps.length:Int)==0)else inR 1 64 laps&&((m==0)&&(decide (0<(ps.length:Int))&&partsS k ps))
def partsS(k:Int):List Part->Bool
 |[]=>true
 |p::r=>partS k p&&partsS k r
end
theorem QeP(k:Int)(p:Part):partS k p=bif p.Laps==0 then inR 0 k p.Mat&&((p.Parts.length:Int)==0)else inR 1 64 p.Laps&&((p.Mat==0)&&(decide (0<(p.Parts.length:Int))&&partsS k p.Parts)):=by cases p;rfl
theorem Qdt(k:Int):∀l:List Part,partsS k l=l.all (partS k)
 |[]=>rfl
 |p::r=>by simp only[partsS,List.all_cons,Qdt k r]
theorem Jd{p:Part}(h:Part.wf p):p.Parts.length<=1048576/\ ∀x∈p.Parts,Part.wf x:=by
 cases p;simp only[Part.wf,Qdg]at h;exact h.2.2.1
theorem QI(lo hi x:Int):Ev (λn=>F_a n lo hi [x]) (inR lo hi x):=(Qgn lo hi [x] (by simp)).eq (by simp)
theorem QaQ(lo hi x y:Int):Ev (λn=>F_a n lo hi [x,y]) (inR lo hi x&&inR lo hi y):=(Qgn lo hi [x,y] (by simp)).eq (by simp)
theorem Qm2(k:Int):∀(m:Nat) (l:List Part),szPs l<=m->l.length<=1048576->(∀x∈l,Part.wf x)->Ev (λn=>F_e n l k) (partsS k l):=by
 intro m
 induction m with
 |zero=>
  intro l d e a;cases l with
  |nil=>
   refine Jg ?_;show Ev (λn=>B_e (F_e n) n [] k) _;unfold B_e F_bs F_as;exact Jh [] (partS k) (λn x=>F_am (F_e n) n x k) (by simp) (by simp)
  |cons p r=>
   exfalso;simp only[szPs,Qad]at d;omega
 |succ m f=>
  intro l d e a;refine Jg ?_;show Ev (λn=>B_e (F_e n) n l k) _;unfold B_e F_bs F_as;rw[Qdt];refine Jh l (partS k) (λn x=>F_am (F_e n) n x k) (by omega) λp b=>?_;unfold F_am;rw[QeP];have g:=QaM b;rw[Qad]at g;obtain⟨w1,w2⟩:=Jd (a p b);refine Qb4 (λ_=>?_) (λ_=>?_)
  .exact Ea (Ea (QI _ _ _) (Ei λ_=>Qa _)) (Qa _)
  .exact Ea (Ea (QI _ _ _) (Ei λ_=>Ei λ_=>Ei λ_=>Ea (f p.Parts (by omega) w1 w2) (Qa _))) (Qa _)
def legS(k:Int)(l:Leg):Bool:=(inR 0 k l.From&&inR 0 k l.To)&&((inR 0 68719476736 l.Min&&inR 0 68719476736 l.Max)&&decide (l.Min<=l.Max))
def cutS(k:Int)(x:Cutoff):Bool:=inR 0 k x.Mat&&(decide (1<=x.Lap)&&inR 0 1099511627776 x.Limit)
def distS(k:Int)(d:Distance):Bool:=inR 1 3 d.Timing&&(inR (-1) k d.Extra&&(partsS k d.Route&&d.Cutoffs.all (cutS k)))
def offS(o:Offence):Bool:=bif o.Out then(o.Time==0)&&(o.Laps==0)else bif o.Laps != 0 then(o.Time==0)&&inR 1 64 o.Laps else inR 0 68719476736 o.Time
def catS(x:Category):Bool:=(inR 0 120 x.From&&inR 0 120 x.To)&&decide (x.From<=x.To)
def prizeS(c:Course)(p:Prize):Bool:=inR 0 ((c.Distances.length:Int)-1) p.Distance&&(inR (-1) ((c.Categories.length:Int)-1) p.Category&&(inR 1 4000 p.Rank&&inR 1 1125899906842624 p.Amount))
def lastS(c:Course):Bool:=(inR 0 16 c.Faults.Misses&&inR 0 16 c.Faults.Strays)&&((inR 0 4294967296 c.Faults.Window&&inR 0 4294967296 c.Faults.Residual)&&(inR 0 100000 c.Faults.Drift&&(inR 0 1125899906842624 c.Fee&&inR 0 1099511627776 c.Deadline)))
def legKey(l:Leg):Uh:={from_:=l.From,to_:=l.To}
def prizeKey(p:Prize):Uj:={distance:=p.Distance,category:=p.Category,rank:=p.Rank}
def numbersS(c:Course):Bool:=
 let k:=(c.Mats.length:Int)-1
 c.Mats.all (λm=>inR 1 3 m.Kind)&&(c.Legs.all (legS k)&&(decide ((c.Legs.map legKey).Nodup)&&(c.Distances.all (distS k)&&(c.Waves.all (λw=>inR 0 1099511627776 w.Gun)&&(c.Offences.all offS&&(c.Categories.all catS&&(c.Prizes.all (prizeS c)&&(decide ((c.Prizes.map prizeKey).Nodup)&&lastS c))))))))
structure PartsOk (c:Course):Prop where
 len:∀d∈c.Distances,d.Route.length<=1048576
 wf:∀d∈c.Distances,∀x∈d.Route,Part.wf x
theorem Qhj(l:List Leg)(hl:l.length<=1048576):Ev (λn=>F_bl n l) (decide ((l.map legKey).Nodup)):=by
 unfold F_bl;refine Ea (QbD l legKey true (by omega) (λi x m a=>?_) (λm=>?_)) ((Qa _).eq ?_)
 .unfold F_ht F_eq;simp only[a.lt,Vr,a.ix,XM,a.nx];exact Qa _
 .unfold F_ht;simp only[Qbt,Vs];exact Qa _
 .rw[X0];simp only[VA,Vt];have:=Qcl legKey true l;rw[<- this.2];omega
theorem Qfn(l:List Prize)(hl:l.length<=1048576):Ev (λn=>F_cb n l) (decide ((l.map prizeKey).Nodup)):=by
 unfold F_cb;refine Ea (QbD l prizeKey true (by omega) (λi x m a=>?_) (λm=>?_)) ((Qa _).eq ?_)
 .unfold F_hr F_dj;simp only[a.lt,Vr,a.ix,XM,a.nx];exact Qa _
 .unfold F_hr;simp only[Qbt,Vs];exact Qa _
 .rw[X0];simp only[VA,Vt];have:=Qcl prizeKey true l;rw[<- this.2];omega
theorem Qjs(c:Course)(w:CourseOk c)(q:PartsOk c):Ev (λn=>F_bi n c) (numbersS c):=by
 unfold F_bi numbersS;rw[QcL w.mats];refine Ea (v:=_) ?_ (Qa _);have j:Ev (λn=>F_cp n c.Mats) (c.Mats.all λm=>inR 1 3 m.Kind):=by
  unfold F_cp F_dl F_dr;refine Jh c.Mats _ (λn x=>F_by n x) (by have:=w.mats;omega) λx a=>?_;unfold F_by;exact Ea (QI _ _ _) (Qa _)
 have g:Ev (λn=>F_ar n c.Legs ((c.Mats.length:Int)-1)) (c.Legs.all (legS ((c.Mats.length:Int)-1))):=by
  unfold F_ar F_dg F_dv;refine Jh c.Legs _ (λn x=>F_bc n x _) (by have:=w.legs;omega) λx a=>?_;unfold F_bc;exact Ea (Ea (QaQ _ _ _ _) (Ei λ_=>Ea (QaQ _ _ _ _) (Ei λ_=>Qa _))) (Qa _)
 have h:Ev (λn=>F_ay n c.Distances ((c.Mats.length:Int)-1)) (c.Distances.all (distS ((c.Mats.length:Int)-1))):=by
  unfold F_ay F_fp F_dq;refine Jh c.Distances _ (λn x=>F_ck n x _) (by have:=w.dist;omega) λx a=>?_;unfold F_ck;have d:Ev (λn=>F_bx n x.Cutoffs ((c.Mats.length:Int)-1)) (x.Cutoffs.all (cutS ((c.Mats.length:Int)-1))):=by
   unfold F_bx F_ed F_ey;refine Jh x.Cutoffs _ (λn x=>F_ch n x _) (by have:=w.cut x a;omega) λy k=>?_;unfold F_ch;exact Ea (Ea (QI _ _ _) (Ei λ_=>Ei λ_=>Ea (QI _ _ _) (Qa _))) (Qa _)
  exact Ea (Ea (QI _ _ _) (Ei λ_=>Ea (QI _ _ _) (Ei λ_=>Ea (Qm2 _ _ x.Route (XW _) (q.len x a) (q.wf x a)) (Ei λ_=>Ea d (Qa _))))) (Qa _)
 have f:Ev (λn=>F_bf n c.Waves) (c.Waves.all λw=>inR 0 1099511627776 w.Gun):=by
  unfold F_bf F_dk F_dn;refine Jh c.Waves _ (λn x=>F_bp n x) (by have:=w.wave;omega) λx a=>?_;unfold F_bp;exact Ea (QI _ _ _) (Qa _)
 have e:Ev (λn=>F_cu n c.Offences) (c.Offences.all offS):=by
  unfold F_cu F_fe F_er;refine Jh c.Offences _ (λn x=>F_cm n x) (by have:=w.off;omega) λx a=>?_;unfold F_cm offS;refine Qb4 (λ_=>Ea (Ei λ_=>Qa _) (Qa _)) λ_=>Qb4 (λ_=>Ea (Ei λ_=>Ea (QI _ _ _) (Qa _)) (Qa _)) λ_=>Ea (QI _ _ _) (Qa _)
 have i:Ev (λn=>F_bu n c.Categories) (c.Categories.all catS):=by
  unfold F_bu F_fo F_ej;refine Jh c.Categories _ (λn x=>F_bq n x) (by have:=w.cat;omega) λx a=>?_;unfold F_bq;exact Ea (Ea (QaQ _ _ _ _) (Ei λ_=>Qa _)) (Qa _)
 have b:Ev (λn=>F_cl n c.Prizes c) (c.Prizes.all (prizeS c)):=by
  unfold F_cl F_df F_fb;refine Jh c.Prizes _ (λn x=>F_cs n x c) (by have:=w.prize;omega) λx a=>?_;unfold F_cs;rw[QcL w.dist,QcL w.cat];exact Ea (Ea (QI _ _ _) (Ei λ_=>Ea (QI _ _ _) (Ei λ_=>Ea (QI _ _ _) (Ei λ_=>Ea (QI _ _ _) (Qa _))))) (Qa _)
 refine Ea j (Ei λ_=>Ea g (Ei λ_=>Ea (Qhj _ w.legs) (Ei λ_=>Ea h (Ei λ_=>Ea f (Ei λ_=>Ea e (Ei λ_=>Ea i (Ei λ_=>Ea b (Ei λ_=>Ea (Qfn _ w.prize) (Ei λ_=>?_)))))))));exact Ea (QaQ _ _ _ _) (Ei λ_=>Ea (QaQ _ _ _ _) (Ei λ_=>Ea (QI _ _ _) (Ei λ_=>Ea (QI _ _ _) (Ei λ_=>Ea (QI _ _ _) (Qa _)))))
theorem ends_eq{a b a' d:Int}:(({from_:=a,to_:=b}:Uh)={from_:=a',to_:=d})↔a=a'/\b=d:=by simp
theorem QlR{α B:Type}{step:Nat->Int->Option (Ctl Int B)}(l:List α)(ok:α->Bool)(a b:B)(hl:l.length<=4611686018427387904)
  (g:∀i x,At l i x->Ev (λn=>step n (i:Int)) (bif ok x then .cont ((i+1:Nat):Int)else .done a))(j:Ev (λn=>step n (l.length:Int)) (.done b)):
  Ev (λn=>Go.Sw.iter (step n) n 0) (bif l.all ok then b else a):=by
 have e:(bif l.all ok then b else a)=bif l.any (λx=> !ok x)then a else b:=by
  rw[<- List.not_all_eq_any_not];cases l.all ok<;>rfl
 rw[e];refine Qb3 l (λx=> !ok x) (λi=>(i:Int)) a b hl rfl (λi x f d=>?_) (λi x f d=>?_) j
 .have h:ok x=true:=by simpa using d
  have:=g i x f
  rwa [h]at this
 .have h:ok x=false:=by simpa using d
  have:=g i x f
  rwa [h]at this
mutual
def cN:Cond->Nat
 |⟨_,_,_,ps⟩=>1+cNs ps
def cNs:List Cond->Nat
 |[]=>0
 |c::r=>cN c+cNs r
end
theorem Qc8(c:Cond):cN c=1+cNs c.Parts:=by cases c;rfl
mutual
def cD:Nat->Cond->Bool
 |d,⟨_,_,_,ps⟩=>cDs d ps
def cDs:Nat->List Cond->Bool
 |_,[]=>true
 |d,c::r=>decide (d<=16)&&(cD (d+1) c&&cDs d r)
end
theorem Qnr(d:Nat)(c:Cond):cD d c=cDs d c.Parts:=by cases c;rfl
def zeroC(c:Cond):Bool:=(c.Kind==0)&&((c.Var==0)&&((c.N==0)&&((c.Parts.length:Int)==0)))
mutual
def sNp:Step->Nat
 |⟨_,_,_,t,e⟩=>1+sNs t+sNs e
def sNs:List Step->Nat
 |[]=>0
 |s::r=>sNp s+sNs r
end
theorem Qf3(s:Step):sNp s=1+sNs s.Then+sNs s.Else:=by cases s;rfl
mutual
def sC:Step->Nat
 |⟨_,_,c,t,e⟩=>(bif zeroC c then 0 else cN c)+sCs t+sCs e
def sCs:List Step->Nat
 |[]=>0
 |s::r=>sC s+sCs r
end
theorem Qf4(s:Step):sC s=(bif zeroC s.Cond then 0 else cN s.Cond)+sCs s.Then+sCs s.Else:=by cases s;rfl
mutual
def sDp:Nat->Step->Bool
 |d,⟨_,_,c,t,e⟩=>(zeroC c||cD 1 c)&&(sDs d t&&sDs d e)
def sDs:Nat->List Step->Bool
 |_,[]=>true
 |d,s::r=>decide (d<=16)&&(sDp (d+1) s&&sDs d r)
end
theorem Qj9(d:Nat)(s:Step):sDp d s=((zeroC s.Cond||cD 1 s.Cond)&&(sDs d s.Then&&sDs d s.Else)):=by cases s;rfl
mutual
def sZ:Step->Nat
 |⟨_,_,c,t,e⟩=>2+cN c+sZs t+sZs e
def sZs:List Step->Nat
 |[]=>0
 |s::r=>sZ s+sZs r
end
theorem QhN(s:Step):sZ s=2+cN s.Cond+sZs s.Then+sZs s.Else:=by cases s;rfl
def fS:Ui->Nat
 |.ctyping_step x=>sNp x.Step
 |.ctyping_cond _=>0
def fC:Ui->Nat
 |.ctyping_step x=>sC x.Step
 |.ctyping_cond x=>cN x.Cond
def fD(d:Nat):Ui->Bool
 |.ctyping_step x=>sDp d x.Step
 |.ctyping_cond x=>cD d x.Cond
def fZ:Ui->Nat
 |.ctyping_step x=>sZ x.Step
 |.ctyping_cond x=>cN x.Cond
def fSs(l:List Ui):Nat:=(l.map fS).sum
def fCs(l:List Ui):Nat:=(l.map fC).sum
def fZs(l:List Ui):Nat:=(l.map fZ).sum
def fwf:Ui->Prop
 |.ctyping_step x=>Step.wf x.Step
 |.ctyping_cond x=>Cond.wf x.Cond
def ofStep(s:Step):Ui:=.ctyping_step {Step:=s}
def ofCond(c:Cond):Ui:=.ctyping_cond {Cond:=c}
theorem Qbf:∀l:List Step,fSs (l.map ofStep)=sNs l
 |[]=>rfl
 |s::r=>by
  have:=Qbf r;simp only[fSs,Vl,List.sum_cons]at this⊢;rw[this];rfl
theorem Qbg:∀l:List Step,fCs (l.map ofStep)=sCs l
 |[]=>rfl
 |s::r=>by
  have:=Qbg r;simp only[fCs,Vl,List.sum_cons]at this⊢;rw[this];rfl
theorem QbW:∀l:List Step,fZs (l.map ofStep)=sZs l
 |[]=>rfl
 |s::r=>by
  have:=QbW r;simp only[fZs,Vl,List.sum_cons]at this⊢;rw[this];rfl
theorem Qfj:∀l:List Cond,fSs (l.map ofCond)=0
 |[]=>rfl
 |s::r=>by
  have:=Qfj r;simp only[fSs,Vl,List.sum_cons]at this⊢;rw[this];rfl
theorem Qfl:∀l:List Cond,fCs (l.map ofCond)=cNs l
 |[]=>rfl
 |s::r=>by
  have:=Qfl r;simp only[fCs,Vl,List.sum_cons]at this⊢;rw[this];rfl
theorem Qfh:∀l:List Cond,fZs (l.map ofCond)=cNs l
 |[]=>rfl
 |s::r=>by
  have:=Qfh r;simp only[fZs,Vl,List.sum_cons]at this⊢;rw[this];rfl
theorem Qc2(d:Nat):∀l:List Step,sDs d l=((l.map ofStep).isEmpty||(decide (d<=16)&&(l.map ofStep).all (fD (d+1))))
 |[]=>rfl
 |s::r=>by
  rw[sDs,Qc2 d r];simp only[Vl,List.isEmpty_cons,Bool.false_or,List.all_cons];rw[show fD (d+1) (ofStep s)=sDp (d+1) s from rfl];cases r with
  |nil=>simp
  |cons x r=>
   simp only[Vl,List.isEmpty_cons,Bool.false_or,List.all_cons];cases decide (d<=16)<;>simp
theorem Qim(d:Nat):∀l:List Cond,cDs d l=((l.map ofCond).isEmpty||(decide (d<=16)&&(l.map ofCond).all (fD (d+1))))
 |[]=>rfl
 |s::r=>by
  rw[cDs,Qim d r];simp only[Vl,List.isEmpty_cons,Bool.false_or,List.all_cons];rw[show fD (d+1) (ofCond s)=cD (d+1) s from rfl];cases r with
  |nil=>simp
  |cons x r=>
   simp only[Vl,List.isEmpty_cons,Bool.false_or,List.all_cons];cases decide (d<=16)<;>simp
theorem Qan{c:Cond}(h:Cond.wf c):c.Parts.length<=1048576/\ ∀x∈c.Parts,Cond.wf x:=by
 cases c;simp only[Cond.wf,Qdj]at h;exact h.2.2.2.1
theorem Qam{s:Step}(h:Step.wf s):Cond.wf s.Cond/\(s.Then.length<=1048576/\ ∀x∈s.Then,Step.wf x)/\(s.Else.length<=1048576/\ ∀x∈s.Else,Step.wf x):=by
 cases s;simp only[Step.wf,Qda]at h;exact⟨h.2.2.1,h.2.2.2.1,h.2.2.2.2.1⟩
theorem Qgp(n:Nat)(c:Cond):F_u n {Cond:=c}=some (zeroC c):=by
 unfold F_u zeroC;cases(c.Kind==0)<;>cases(c.Var==0)<;>cases(c.N==0)<;>rfl
theorem Qjr(n:Nat)(c:Cond):F_au n c=some (zeroC c):=by
 unfold F_au zeroC;cases(c.Kind==0)<;>cases(c.Var==0)<;>cases(c.N==0)<;>rfl
theorem Qfm(l:List Step)(hl:l.length<=140737488):Ev (λn=>F_w n l) (l.map ofStep):=by
 unfold F_w;exact Ea (Qgr l ofStep hl) (Qa _)
theorem Qna(l:List Cond)(hl:l.length<=140737488):Ev (λn=>F_cc n l) (l.map ofCond):=by
 unfold F_cc;exact Ea (Qgr l ofCond hl) (Qa _)
def stepParts(s:Step):List Ui:=s.Then.map ofStep++s.Else.map ofStep
theorem Qbs(s:Step)(h:Step.wf s):Ev (λn=>F_r n {Step:=s}) (stepParts s):=by
 obtain⟨_,⟨b,_⟩,⟨a,_⟩⟩:=Qam h;unfold F_r stepParts;refine Ea (Qfm s.Then (by omega)) (Ea (Qfm s.Else (by omega)) (QaW (QiE _ _ (by simp;omega)) (Qa _)))
theorem Qc3(c:Cond)(h:Cond.wf c):Ev (λn=>F_p n {Cond:=c}) (c.Parts.map ofCond):=by
 obtain⟨a,_⟩:=Qan h;unfold F_p;exact Ea (Qna c.Parts (by omega)) (Qa _)
def okL(l:List Ui)(d:Nat)(st co:Int):Bool:=l.isEmpty||(decide (d<=16)&&(l.all (fD (d+1))&&(decide (st+fSs l<=64)&&decide (co+fCs l<=256))))
def okR(l:List Ui)(d:Nat)(st co:Int):Bool:=l.isEmpty||(l.all (fD (d+1))&&(decide (st+fSs l<=64)&&decide (co+fCs l<=256)))
def okF(f:Ui)(d:Nat)(st co:Int):Bool:=fD (d+1) f&&(decide (st+fS f<=64)&&decide (co+fC f<=256))
theorem Qil(f:Ui)(l:List Ui):fSs (f::l)=fS f+fSs l:=rfl
theorem Qin(f:Ui)(l:List Ui):fCs (f::l)=fC f+fCs l:=rfl
theorem Qik(f:Ui)(l:List Ui):fZs (f::l)=fZ f+fZs l:=rfl
theorem Qfi(l m:List Ui):fSs (l++m)=fSs l+fSs m:=by simp[fSs]
theorem Qfk(l m:List Ui):fCs (l++m)=fCs l+fCs m:=by simp[fCs]
theorem Qfg(l m:List Ui):fZs (l++m)=fZs l+fZs m:=by simp[fZs]
theorem Qmy(f:Ui)(r:List Ui)(d:Nat)(b e:Int):okR (f::r) d b e=(okF f d b e&&okR r d (b+fS f) (e+fC f)):=by
 unfold okR okF;rw[Qil,Qin];cases r with
 |nil=>simp[fSs,fCs]
 |cons g r=>
  rw[X0];simp only[List.isEmpty_cons,Bool.false_or,List.all_cons,XZ,Vt];rw[show((fS f+fSs (g::r):Nat):Int)=(fS f:Int)+(fSs (g::r):Int)by omega,show((fC f+fCs (g::r):Nat):Int)=(fC f:Int)+(fCs (g::r):Int)by omega];constructor
  .rintro⟨⟨h,a⟩,i,j⟩;exact⟨⟨h,by omega,by omega⟩,a,by omega,by omega⟩
  .rintro⟨⟨h,_,_⟩,a,i,j⟩;exact⟨⟨h,a⟩,by omega,by omega⟩
theorem Qg0(l:List Ui)(d:Nat)(h g:Int)(j:h<=64)(i:g<=256):okL l d h g=true↔(l.isEmpty||(decide (d<=16)&&l.all (fD (d+1))))=true/\h+fSs l<=64/\g+fCs l<=256:=by
 unfold okL;cases l with
 |nil=>simp[fSs,fCs,j,i]
 |cons f r=>
  simp only[List.isEmpty_cons,Bool.false_or,XZ,Vt];constructor
  .rintro⟨a,b,c,e⟩;exact⟨⟨a,b⟩,c,e⟩
  .rintro⟨⟨a,b⟩,c,e⟩;exact⟨a,b,c,e⟩
theorem QeC(s:Step)(d:Nat):((stepParts s).isEmpty||(decide (d<=16)&&(stepParts s).all (fD (d+1))))=(sDs d s.Then&&sDs d s.Else):=by
 rw[Qc2,Qc2];unfold stepParts;rw[List.all_append];cases b:s.Then<;>cases a:s.Else<;>simp<;>(cases decide (d<=16)<;>simp)
def Cnt(R:Nat->List Ui->Int->Ug->Option (Ug×Bool))(l:List Ui)(d:Nat)(st co:Int):Prop:=
 ∃c':Ug,Ev (λn=>R n l (d:Int) {steps:=st,conds:=co}) (c',okL l d st co)/\(okL l d st co=true->c'={steps:=st+fSs l,conds:=co+fCs l})
theorem QjB{R:Nat->List Ui->Int->Ug->Option (Ug×Bool)}{l:List Ui}{d:Nat}(hd:d<=16){i:Nat}{f:Ui}(ha:At l i f)(hw:fwf f)
  (O:∀l' d' a e,fZs l'<fZ f->l'.length<=2097152->(∀f∈l',fwf f)->d'<=17->0<=a->a<=66->(a<=65\/ ∀f∈l',∃c,f=ofCond c)->0<=e->e<=256->Cnt R l' d' a e){a e:Int}(h0:0<=a)(ae:a<=66)(G:a<=65\/ ∃c,f=ofCond c)(h2:0<=e)(h3:e<=256):
  ∃c':Ug,Ev (λn=>F_et n l (d:Int) (R n) ({steps:=a,conds:=e},(i:Int))) (bif okF f d a e then .cont (c',((i+1:Nat):Int))else .done (.done (c',false)))/\(okF f d a e=true->c'={steps:=a+fS f,conds:=e+fC f}):=by
 unfold F_et;simp only[ha.lt,Vr,ha.ix,XM,ha.nx];have ed:IntKind.i64.wrap ((d:Int)+1)=((d+1:Nat):Int):=YX (by omega);cases f with
 |ctyping_step x=>
  obtain⟨s⟩:=x;have h1:a<=65:=by
   rcases G with h|⟨c,h⟩
   .exact h
   .cases h
  have k:Step.wf s:=hw;obtain⟨wc,⟨aa,V⟩,⟨ac,L⟩⟩:=Qam k;have W:IntKind.i64.wrap (a+1)=a+1:=Yu (by omega) (by omega);simp only[Ui.elim,Qgp,XM,W];have hc:∃t:Ug,Ev (λn=>((bif (!zeroC s.Cond)then(R n [Ui.ctyping_cond {Cond:=s.Cond}] 0 {steps:=a+1,conds:=e}).bind λm=>some (m.1,(!m.2))else some ({steps:=a+1,conds:=e},false)):Option (Ug×Bool))) (t, !(zeroC s.Cond||(cD 1 s.Cond&&(decide (a+1<=64)&&decide (e+cN s.Cond<=256)))))/\
    ((zeroC s.Cond||(cD 1 s.Cond&&(decide (a+1<=64)&&decide (e+cN s.Cond<=256))))=true->t={steps:=a+1,conds:=e+((bif zeroC s.Cond then 0 else cN s.Cond:Nat):Int)}):=by
   cases w:zeroC s.Cond with
   |true=>
    refine⟨{steps:=a+1,conds:=e},?_,λ_=>?_⟩
    .exact Qa _
    .simp
   |false=>
    obtain⟨t,p,u⟩:=O [ofCond s.Cond] 0 (a+1) e (by simp only[fZs,Vl,Vm,List.sum_cons,List.sum_nil];show cN s.Cond+0<sZ s;rw[QhN];omega) (by simp) (by intro g j;simp only[VD]at j;subst j;exact wc) (by omega) (by omega) (by omega) (.inr (by intro g j;simp only[VD]at j;exact⟨_,j⟩)) h2 h3;have ek:okL [ofCond s.Cond] 0 (a+1) e=(cD 1 s.Cond&&(decide (a+1<=64)&&decide (e+cN s.Cond<=256))):=by
     unfold okL;simp only[List.isEmpty_cons,Bool.false_or,List.all_cons,List.all_nil,Bool.and_true,fSs,fCs,Vl,Vm,List.sum_cons,List.sum_nil];rw[show fD (0+1) (ofCond s.Cond)=cD 1 s.Cond from rfl,show fS (ofCond s.Cond)=0 from rfl,show fC (ofCond s.Cond)=cN s.Cond from rfl];simp
    rw[ek]at p u;refine⟨t,Ea p (Qa _),λh=>?_⟩;rw[u h];simp[fSs,fCs,show fS (ofCond s.Cond)=0 from rfl,show fC (ofCond s.Cond)=cN s.Cond from rfl]
  obtain⟨t,p,u⟩:=hc;generalize hb:(zeroC s.Cond||(cD 1 s.Cond&&(decide (a+1<=64)&&decide (e+cN s.Cond<=256))))=b at p u;have hF:okF (Ui.ctyping_step {Step:=s}) d a e=(sDp (d+1) s&&(decide (a+sNp s<=64)&&decide (e+sC s<=256))):=rfl;rw[hF];cases b with
  |false=>
   have:(sDp (d+1) s&&(decide (a+sNp s<=64)&&decide (e+sC s<=256)))=false:=by
    rw[VO];intro hh;simp only[XZ,Vt,Qj9,Qf3,Qf4]at hh;obtain⟨⟨T,_⟩,z2,z3⟩:=hh;cases w:zeroC s.Cond with
    |true=>rw[w]at hb;cases hb
    |false=>
     rw[w]at hb T z3;simp only[Bool.false_or]at hb T;rw[T]at hb;simp only[Vs]at z3;rw[Yt (show a+1<=64 by omega),Yt (show e+(cN s.Cond:Int)<=256 by omega)]at hb;cases hb
   rw[this];exact⟨t,Ea p (Qa _),λh=>by cases h⟩
  |true=>
   obtain rfl:=u rfl;by_cases r:64<a+1
   .have:(sDp (d+1) s&&(decide (a+sNp s<=64)&&decide (e+sC s<=256)))=false:=by
     rw[YL (show¬a+(sNp s:Int)<=64 by rw[Qf3];omega)];simp
    rw[this];refine⟨{steps:=a+1,conds:=e+((bif zeroC s.Cond then 0 else cN s.Cond:Nat):Int)},Ea p ?_,λh=>by cases h⟩;simp only[Xg,Vs];refine Ea (v:=(_,true)) ?_ (Qa _);rw[Yt r];exact Qa _
   by_cases F:256<e+((bif zeroC s.Cond then 0 else cN s.Cond:Nat):Int)
   .have:(sDp (d+1) s&&(decide (a+sNp s<=64)&&decide (e+sC s<=256)))=false:=by
     rw[YL (show¬e+(sC s:Int)<=256 by rw[Qf4];omega)];simp
    rw[this];refine⟨{steps:=a+1,conds:=e+((bif zeroC s.Cond then 0 else cN s.Cond:Nat):Int)},Ea p ?_,λh=>by cases h⟩;simp only[Xg,Vs];refine Ea (v:=(_,true)) ?_ (Qa _);rw[YL r,Yt F];exact Qa _
   obtain⟨E,z,H⟩:=O (stepParts s) (d+1) (a+1) (e+((bif zeroC s.Cond then 0 else cN s.Cond:Nat):Int)) (by
     unfold stepParts;rw[Qfg,QbW,QbW];show _<sZ s;rw[QhN];omega) (by unfold stepParts;simp;omega) (by
     intro g j;unfold stepParts at j;rcases VF.1 j with j|j
     .obtain⟨y,B,rfl⟩:=Xe.1 j;exact V y B
     .obtain⟨y,B,rfl⟩:=Xe.1 j;exact L y B) (by omega) (by omega) (by omega) (.inl (by omega)) (by omega) (by omega)
   have M:okL (stepParts s) (d+1) (a+1) (e+((bif zeroC s.Cond then 0 else cN s.Cond:Nat):Int))=(sDp (d+1) s&&(decide (a+sNp s<=64)&&decide (e+sC s<=256))):=by
    rw[X0,Qg0 _ _ _ _ (by omega) (by omega),QeC];simp only[XZ,Vt,Qj9,Qf3,Qf4];have P:fSs (stepParts s)=sNs s.Then+sNs s.Else:=by unfold stepParts;rw[Qfi,Qbf,Qbf]
    have X:fCs (stepParts s)=sCs s.Then+sCs s.Else:=by unfold stepParts;rw[Qfk,Qbg,Qbg]
    rw[P,X];have Y:(zeroC s.Cond||cD 1 s.Cond)=true:=by
     cases w:zeroC s.Cond with
     |true=>rfl
     |false=>
      rw[w]at hb;simp only[Bool.false_or,XZ]at hb;rw[hb.1];rfl
    constructor
    .rintro⟨q,N,Q⟩;exact⟨⟨Y,q⟩,by omega,by omega⟩
    .rintro⟨⟨_,q⟩,N,Q⟩;exact⟨q,by omega,by omega⟩
   rw[M]at z H;refine⟨E,Ea p ?_,λh=>?_⟩
   .simp only[Xg,Vs];refine Ea (v:=(E, !(sDp (d+1) s&&(decide (a+sNp s<=64)&&decide (e+sC s<=256))))) ?_ ?_
    .rw[YL r,YL F,ed];exact Ea (Qbs s k) (Ea z (Qa _))
    .cases(sDp (d+1) s&&(decide (a+sNp s<=64)&&decide (e+sC s<=256)))<;>exact Qa _
   .rw[H h];have P:fSs (stepParts s)=sNs s.Then+sNs s.Else:=by unfold stepParts;rw[Qfi,Qbf,Qbf]
    have X:fCs (stepParts s)=sCs s.Then+sCs s.Else:=by unfold stepParts;rw[Qfk,Qbg,Qbg]
    rw[P,X,show fS (Ui.ctyping_step {Step:=s})=sNp s from rfl,show fC (Ui.ctyping_step {Step:=s})=sC s from rfl,Qf3,Qf4];congr 1<;>omega
 |ctyping_cond x=>
  obtain⟨c⟩:=x;have k:Cond.wf c:=hw;obtain⟨ab,J⟩:=Qan k;have W:IntKind.i64.wrap (e+1)=e+1:=Yu (by omega) (by omega);simp only[Ui.elim,W];have hF:okF (Ui.ctyping_cond {Cond:=c}) d a e=(cD (d+1) c&&(decide (a<=64)&&decide (e+cN c<=256))):=by
   show(cD (d+1) c&&(decide (a+((0:Nat):Int)<=64)&&decide (e+cN c<=256)))=_;rw[show a+((0:Nat):Int)=a by omega]
  rw[hF];by_cases r:64<a
  .have:(cD (d+1) c&&(decide (a<=64)&&decide (e+cN c<=256)))=false:=by
    rw[YL (show¬a<=64 by omega)];simp
   rw[this];refine⟨{steps:=a,conds:=e+1},?_,λh=>by cases h⟩;refine Ea (v:=(_,true)) ?_ (Qa _);rw[Yt r];exact Qa _
  by_cases F:256<e+1
  .have:(cD (d+1) c&&(decide (a<=64)&&decide (e+cN c<=256)))=false:=by
    rw[YL (show¬e+(cN c:Int)<=256 by rw[Qc8];omega)];simp
   rw[this];refine⟨{steps:=a,conds:=e+1},?_,λh=>by cases h⟩;refine Ea (v:=(_,true)) ?_ (Qa _);rw[YL r,Yt F];exact Qa _
  obtain⟨E,z,H⟩:=O (c.Parts.map ofCond) (d+1) a (e+1) (by
    rw[Qfh];show _<cN c;rw[Qc8];omega) (by simp;omega) (by
    intro g j;obtain⟨y,B,rfl⟩:=Xe.1 j;exact J y B) (by omega) (by omega) (by omega) (.inl (by omega)) (by omega) (by omega)
  have M:okL (c.Parts.map ofCond) (d+1) a (e+1)=(cD (d+1) c&&(decide (a<=64)&&decide (e+cN c<=256))):=by
   rw[X0,Qg0 _ _ _ _ (by omega) (by omega), <- Qim,Qfj,Qfl];simp only[XZ,Vt,Qnr,Qc8];constructor
   .rintro⟨q,N,Q⟩;exact⟨q,by omega,by omega⟩
   .rintro⟨q,N,Q⟩;exact⟨q,by omega,by omega⟩
  rw[M]at z H;refine⟨E,?_,λh=>?_⟩
  .refine Ea (v:=(E, !(cD (d+1) c&&(decide (a<=64)&&decide (e+cN c<=256))))) ?_ ?_
   .rw[YL r,YL F,ed];exact Ea (Qc3 c k) (Ea z (Qa _))
   .cases(cD (d+1) c&&(decide (a<=64)&&decide (e+cN c<=256)))<;>exact Qa _
  .rw[H h,Qfj,Qfl,show fS (Ui.ctyping_cond {Cond:=c})=0 from rfl,show fC (Ui.ctyping_cond {Cond:=c})=cN c from rfl,Qc8];congr 1;omega
theorem Qm9:∀(m:Nat) (l:List Ui) (d:Nat) (a b:Int),fZs l<=m->l.length<=2097152->(∀f∈l,fwf f)->d<=17->0<=a->a<=66->(a<=65\/ ∀f∈l,∃c,f=ofCond c)->0<=b->b<=256->Cnt F_d l d a b:=by
 intro m
 induction m using Nat.strongRecOn with
 |_ m s=>
 intro l d a b hm hl X hd V h1 F h2 h3;unfold Cnt;have B:∀c:Ug,(∃e:Ug,Ev (λn=>B_d (F_d n) n l (d:Int) c) (e,okL l d a b)/\(okL l d a b=true->e={steps:=a+fSs l,conds:=b+fCs l}))->∃e:Ug,Ev (λn=>F_d n l (d:Int) c) (e,okL l d a b)/\(okL l d a b=true->e={steps:=a+fSs l,conds:=b+fCs l}):=by
  rintro c ⟨e,Y,T⟩;exact⟨e,Jg Y,T⟩
 refine B _ ?_;unfold B_d;cases g:l with
 |nil=>
  refine⟨{steps:=a,conds:=b},?_,λ_=>by simp[fSs,fCs]⟩;refine Ea (v:=false) (Qa _) (Qaz ?_);refine Ea (v:=Ctl.cont {steps:=a,conds:=b}) (EvI.ev (Ej ?_)) (Qa _);exact Qa _
 |cons f0 r0=>
 rw[<- g];have z:l.isEmpty=false:=by rw[g];rfl
 have M:0<l.length:=by rw[g];simp
 by_cases j:d<=16
 rotate_left
 .have:okL l d a b=false:=by unfold okL;rw[z,YL j];rfl
  rw[this];refine⟨{steps:=a,conds:=b},?_,λh=>by cases h⟩;rw[Yt (show(0:Int)<(l.length:Int)by omega),Yt (show(16:Int)<(d:Int)by omega)];exact Ea (Qa _) (Qa _)
 have H:okL l d a b=okR l d a b:=by unfold okL okR;rw[Yt j,VC]
 rw[H];have loop:∀(r:List Ui) (i:Nat) (a b:Int),l.drop i=r->i<=l.length->0<=a->a<=66->(a<=65\/ ∀f∈l,∃c,f=ofCond c)->0<=b->b<=256->
   ∃e:Ug,EvI (λn=>F_et n l (d:Int) (F_d n)) ({steps:=a,conds:=b},(i:Int)) (bif okR r d a b then Ctl.cont e else Ctl.done (e,false))/\(okR r d a b=true->e={steps:=a+fSs r,conds:=b+fCs r}):=by
  intro r
  induction r with
  |nil=>
   intro i a b t L _ _ _ _ _;refine⟨{steps:=a,conds:=b},Ej ?_,λ_=>by simp[fSs,fCs]⟩;unfold F_et;simp only[YH t L,Vs];exact Qa _
  |cons f r u=>
   intro i a b t L g0 g1 w g2 P;obtain⟨q,G⟩:=QW (by omega) t;have aa:fZ f<=fZs l:=by
    have:∀(l:List Ui),f∈l->fZ f<=fZs l:=by
     intro l
     induction l with
     |nil=>intro h;cases h
     |cons x l s=>
      intro h;rw[Qik];rcases X8.1 h with rfl|h
      .omega
      .have:=s h;omega
    exact this l q.mem
   obtain⟨e,p,E⟩:=QjB (R:=F_d) j q (X f q.mem) (λJ d' a b k1 Q k3 k4 W k6 y k7 O=>s (fZs J) (by omega) J d' a b (XW _) Q k3 k4 W k6 y k7 O) g0 g1 (w.imp id λh=>h f q.mem) g2 P;rw[Qmy];cases k:okF f d a b with
   |false=>
    rw[k]at p;exact⟨e,Ej p,λh=>by cases h⟩
   |true=>
    rw[k]at p;obtain rfl:=E k;have hb:a+fS f<=64/\b+fC f<=256:=by
     unfold okF at k;simp only[XZ,Vt]at k;exact k.2
    obtain⟨c2,u1,N⟩:=u (i+1) (a+fS f) (b+fC f) G (by have:=q.lt';omega) (by omega) (by omega) (.inl (by omega)) (by omega) (by omega);refine⟨c2,Ew p u1,λh=>?_⟩;rw[N (by simpa using h),Qil,Qin];congr 1<;>omega
 obtain⟨e,p,E⟩:=loop l 0 a b rfl (XX _) V h1 F h2 h3;refine⟨e,?_,E⟩;refine Ea (v:=false) ?_ (Qaz (Ea p.ev ?_))
 .rw[Yt (show(0:Int)<(l.length:Int)by omega),YL (show¬(16:Int)<(d:Int)by omega)];exact Qa _
 .cases okR l d a b<;>exact Qa _
mutual
def vaC:Cond->Bool
 |⟨k,v,n,ps⟩=>bif k==1 then inR 1 3 v&&(inR 0 10000 n&&((ps.length:Int)==0))else
   bif k==4 then((v==0)&&(n==0))&&(((ps.length:Int)==1)&&vaCs ps)else
   bif (k==2)||(k==3)then((v==0)&&(n==0))&&((decide (0<(ps.length:Int))&&decide ((ps.length:Int)<=16))&&vaCs ps)else false
def vaCs:List Cond->Bool
 |[]=>true
 |c::r=>vaC c&&vaCs r
end
theorem Qpb(c:Cond):vaC c=bif c.Kind==1 then inR 1 3 c.Var&&(inR 0 10000 c.N&&((c.Parts.length:Int)==0))else
   bif c.Kind==4 then((c.Var==0)&&(c.N==0))&&(((c.Parts.length:Int)==1)&&vaCs c.Parts)else
   bif (c.Kind==2)||(c.Kind==3)then((c.Var==0)&&(c.N==0))&&((decide (0<(c.Parts.length:Int))&&decide ((c.Parts.length:Int)<=16))&&vaCs c.Parts)else false:=by cases c;rfl
theorem Qj1:∀l:List Cond,vaCs l=l.all vaC
 |[]=>rfl
 |c::r=>by rw[vaCs,List.all_cons,Qj1 r]
mutual
def vaS:Step->Bool
 |⟨k,b,c,t,e⟩=>bif k==1 then inR 1 5 b&&(zeroC c&&(((t.length:Int)==0)&&((e.length:Int)==0)))else
   bif k==2 then(b==0)&&(vaC c&&(decide (0<(t.length:Int))&&(vaSs t&&vaSs e)))else false
def vaSs:List Step->Bool
 |[]=>true
 |s::r=>vaS s&&vaSs r
end
theorem Qpa(s:Step):vaS s=bif s.Kind==1 then inR 1 5 s.By&&(zeroC s.Cond&&(((s.Then.length:Int)==0)&&((s.Else.length:Int)==0)))else
   bif s.Kind==2 then(s.By==0)&&(vaC s.Cond&&(decide (0<(s.Then.length:Int))&&(vaSs s.Then&&vaSs s.Else)))else false:=by cases s;rfl
theorem Qj0:∀l:List Step,vaSs l=l.all vaS
 |[]=>rfl
 |c::r=>by rw[vaSs,List.all_cons,Qj0 r]
def fV:Ui->Bool
 |.ctyping_step x=>vaS x.Step
 |.ctyping_cond x=>vaC x.Cond
theorem QjH(l:List Cond):(l.map ofCond).any (λf=> !fV f)= !vaCs l:=by
 rw[Qj1,List.not_all_eq_any_not,List.any_map];rfl
theorem QcF(l:List Step):(l.map ofStep).any (λf=> !fV f)= !vaSs l:=by
 rw[Qj0,List.not_all_eq_any_not,List.any_map];rfl
theorem Qgo{R:Nat->List Ui->Option Bool}(c:Cond)(h:Cond.wf c)(j:Ev (λn=>R n (c.Parts.map ofCond)) (!vaCs c.Parts)):
  Ev (λn=>F_bz (R n) n {Cond:=c}) (vaC c):=by
 unfold F_bz;rw[Qpb];refine Ea (v:=(c.Var==0)&&(c.N==0)) (Ei λ_=>Qa _) ?_;refine Qb4 (λ_=>?_) (λm=>?_)
 .exact Ea (Ea (QI _ _ _) (Ei λ_=>Ea (QI _ _ _) (Ei λ_=>Qa _))) (Qa _)
 .have fin:∀b:Bool,Ev (λn=>((bif b then(F_p n {Cond:=c}).bind λf=>(R n f).bind λg=>some (!g)else some false):Option Bool).bind λd=>some d) (b&&vaCs c.Parts):=by
   intro b;refine Ea ((Ei λ_=>Ea (Qc3 c h) (Ea j (Qa _)))) ((Qa _).eq (by simp))
  cases l:(c.Kind==4)with
  |true=>
   simp only[Vr];cases i:((c.Var==0)&&(c.N==0))with
   |true=>
    refine Ea (v:=Ctl.cont ((c.Parts.length:Int)==1)) (Qa _) ((fin _).eq (by simp))
   |false=>
    refine Ea (v:=Ctl.cont false) (Qa _) ((fin _).eq (by simp))
  |false=>
   simp only[Vs];cases a:((c.Kind==2)||(c.Kind==3))with
   |true=>
    simp only[Vr];have e:Ev (λn:Nat=>((bif (c.Kind==2)then some (c.Kind==2)else some (c.Kind==3)):Option Bool)) true:=by
     refine Ez ?_;rw[Qns,a]
    cases i:((c.Var==0)&&(c.N==0))with
    |true=>
     cases k:decide (0<(c.Parts.length:Int))with
     |true=>
      refine Ea (v:=Ctl.cont (decide ((c.Parts.length:Int)<=16))) (Ea e (Qa _)) ((fin _).eq (by simp))
     |false=>
      refine Ea (v:=Ctl.cont false) (Ea e (Qa _)) ((fin _).eq (by simp))
    |false=>
     refine Ea (v:=Ctl.cont false) (Ea e (Qa _)) ((fin _).eq (by simp))
   |false=>
    have e:Ev (λn:Nat=>((bif (c.Kind==2)then some (c.Kind==2)else some (c.Kind==3)):Option Bool)) false:=by
     refine Ez ?_;rw[Qns,a]
    refine Ea (v:=Ctl.done false) (Ea e (Qa _)) (Qa _)
theorem Qju:∀(m:Nat) (l:List Ui),fZs l<=m->l.length<=2097152->(∀f∈l,fwf f)->Ev (λn=>F_g n l) (l.any λf=> !fV f):=by
 intro m
 induction m using Nat.strongRecOn with
 |_ m j=>
 intro l E B r;refine Jg ?_;show Ev (λn=>B_g (F_g n) n l) _;unfold B_g F_fi;refine Ev.contains l _ (λn f=>F_av (F_g n) n f) (by omega) λf p=>?_;have z:fZ f<=fZs l:=by
  have:∀(l:List Ui),f∈l->fZ f<=fZs l:=by
   intro l
   induction l with
   |nil=>intro h;cases h
   |cons x l j=>
    intro h;rw[Qik];rcases X8.1 h with rfl|h
    .omega
    .have:=j h;omega
  exact this l p
 unfold F_av;refine Ea (v:=fV f) ?_ (Qa _);have a:∀c:Cond,Cond.wf c->cNs c.Parts<fZ f->Ev (λn=>F_g n (c.Parts.map ofCond)) (!vaCs c.Parts):=by
  intro c e i;rw[<- QjH];obtain⟨w1,w2⟩:=Qan e;refine j (fZs (c.Parts.map ofCond)) (by rw[Qfh];omega) _ (XW _) (by simp;omega) ?_;intro g b;obtain⟨y,d,rfl⟩:=Xe.1 b;exact w2 y d
 cases f with
 |ctyping_cond x=>
  obtain⟨c⟩:=x;have e:Cond.wf c:=r _ p;exact Qgo (R:=F_g) c e (a c e (by show cNs c.Parts<cN c;rw[Qc8];omega))
 |ctyping_step x=>
  obtain⟨s⟩:=x;have i:Step.wf s:=r _ p;obtain⟨t,⟨u,q⟩,⟨w,k⟩⟩:=Qam i;unfold F_fq;show Ev _ (vaS s);rw[Qpa];simp only[Ui.elim];refine Qb4 (λ_=>?_) (λG=>Qb4 (λ_=>?_) λ_=>Qa _)
  .refine Ea (Ea (QI _ _ _) (Ei λ_=>?_)) (Qa _);simp only[Qgp,XM];refine Ei λ_=>Ea (Qbs s i) ((Qa _).eq ?_);unfold stepParts;rw[X0];simp only[VA,XZ,X5,X4];omega
  .refine Ea (Ei λ_=>?_) (Qa _);refine Ea (Qgo (R:=F_g) s.Cond t (a s.Cond t (by show _<sZ s;rw[QhN,Qc8];omega))) (Ei λ_=>Ei λ_=>?_);refine Ea (Qbs s i) (Ea (j (fZs (stepParts s)) ?_ _ (XW _) (by unfold stepParts;simp;omega) ?_) ((Qa _).eq ?_))
   .have:fZs (stepParts s)<sZ s:=by
     unfold stepParts;rw[Qfg,QbW,QbW,QhN];omega
    have F:fZ (Ui.ctyping_step {Step:=s})=sZ s:=rfl;omega
   .intro g b;unfold stepParts at b;rcases VF.1 b with b|b
    .obtain⟨y,d,rfl⟩:=Xe.1 b;exact q y d
    .obtain⟨y,d,rfl⟩:=Xe.1 b;exact k y d
   .unfold stepParts;rw[List.any_append,QcF,QcF];simp
def goodT(l:List Step):Bool:=sDs 0 l&&(decide (sNs l<=64)&&decide (sCs l<=256))
def tiesE(l:List Step):Int:=bif goodT l then(bif l.isEmpty|| !vaSs l then 71 else 0)else 2
theorem Qmz(l:List Step):okL (l.map ofStep) 0 0 0=goodT l:=by
 rw[X0,Qg0 _ _ _ _ (by omega) (by omega), <- Qc2,Qbf,Qbg];unfold goodT;simp only[XZ,Vt];constructor
 .rintro⟨a,b,c⟩;exact⟨a,by omega,by omega⟩
 .rintro⟨a,b,c⟩;exact⟨a,by omega,by omega⟩
theorem Qow(l:List Step)(hl:l.length<=1048576)(h:∀x∈l,Step.wf x):Ev (λn=>F_cj n l) (tiesE l):=by
 unfold F_cj;refine Ea (Qfm l (by omega)) (Ea (v:=tiesE l) ?_ (Qa _));have b:∀f∈l.map ofStep,fwf f:=by
  intro g i;obtain⟨y,j,rfl⟩:=Xe.1 i;exact h y j
 obtain⟨k,a,m⟩:=Qm9 _ (l.map ofStep) 0 0 0 (XW _) (by simp;omega) b (by omega) (by omega) (by omega) (.inl (by omega)) (by omega) (by omega);rw[Qmz]at a;unfold F_fc;have d:Ev (λn=>F_db n (l.map ofStep) 0 {steps:=0,conds:=0}) (k,goodT l):=a.shift;refine Ea d ?_;unfold tiesE;cases goodT l with
 |false=>exact Qa _
 |true=>
  simp only[Xg,Vs,Vr];have e:(((l.map ofStep).length:Int)==0)=l.isEmpty:=by
   cases l<;>simp;omega
  rw[e];refine Ea (Eu λ_=>Ea (Qju _ _ (XW _) (by simp;omega) b) (Qa _)) ?_;rw[QcF];cases(l.isEmpty|| !vaSs l)<;>exact Qa _
def condB(d:Nat):Int:=256*(18-(d:Int))+1000
theorem QfT:∀(m:Nat) (c:Cond) (d:Nat),cN c<=m->d<=17->Cond.wf c->∃v:Int,Ev (λn=>F_i n c (d:Int)) v/\0<=v/\v<=condB d/\
  (d<=16/\cD (d+1) c=true/\cN c<=256->v=cN c)/\(¬(d<=16/\cD (d+1) c=true/\cN c<=256)->256<v):=by
 intro m
 induction m using Nat.strongRecOn with
 |_ m s=>
 intro c d hm hd T;obtain⟨X,q⟩:=Qan T;have E:∀{P:Int->Prop},(∃v:Int,Ev (λn=>B_i (F_i n) n c (d:Int)) v/\P v)->∃v:Int,Ev (λn=>F_i n c (d:Int)) v/\P v:=by
  rintro P ⟨v,j,b⟩;exact⟨v,Jg j,b⟩
 refine E ?_;unfold B_i;by_cases g:d<=16
 .rw[YL (show¬(16:Int)<(d:Int)by omega)];have ed:IntKind.i64.wrap ((d:Int)+1)=((d+1:Nat):Int):=YX (by omega);have loop:∀(r:List Cond) (i:Nat) (a:Int),c.Parts.drop i=r->i<=c.Parts.length->0<=a->a<=condB d->
    ∃v:Int,EvI (λn=>F_dp n c (d:Int) (F_i n)) (a,(i:Int)) v/\0<=v/\v<=condB d/\
     (cDs (d+1) r=true/\a+cNs r<=256->v=a+cNs r)/\(¬(cDs (d+1) r=true/\a+cNs r<=256)->256<v):=by
   intro r
   induction r with
   |nil=>
    intro i a t N u j;refine⟨a,Ej ?_,u,j,λ_=>by simp[cNs],λh=>?_⟩
    .unfold F_dp;simp only[YH t N,Vs,XM];exact Qa _
    .simp[cDs,cNs]at h;omega
   |cons x r z=>
    intro i a t N u j;obtain⟨f,J⟩:=QW (by omega) t;have hx:cN x<cN c:=by
     have:∀l:List Cond,x∈l->cN x<=cNs l:=by
      intro l
      induction l with
      |nil=>intro h;cases h
      |cons y l s=>
       intro h;rw[cNs];rcases X8.1 h with rfl|h
       .omega
       .have:=s h;omega
     have:=this _ f.mem;rw[Qc8 c];omega
    by_cases e:a<=256
    .obtain⟨v,B,O,L,p,H⟩:=s (cN x) (by omega) x (d+1) (XW _) (by omega) (q x f.mem);have hB:condB (d+1)+256=condB d:=by unfold condB;omega
     have aa:condB d<=6000:=by unfold condB;omega
     have W:IntKind.i64.wrap (a+v)=a+v:=Yu (by omega) (by omega);obtain⟨w,V,Q,R,Y,M⟩:=z (i+1) (a+v) J (by have:=f.lt';omega) (by omega) (by omega);refine⟨w,Ew ?_ V,Q,R,?_,?_⟩
     .unfold F_dp;simp only[f.lt,Vr,Yt e,XM,f.ix,f.nx,ed];refine Ea B ?_;rw[W];exact Qa _
     .rintro⟨b,G⟩;simp only[cDs,XZ,Vt]at b;rw[cNs]at G⊢;have:=p ⟨b.1,b.2.1,by omega⟩;subst this;rw[Y ⟨b.2.2,by omega⟩];omega
     .intro F;by_cases k:d+1<=16/\cD (d+1+1) x=true/\cN x<=256
      .have:=p k;subst this;refine M λb=>F ⟨?_,?_⟩
       .simp only[cDs,XZ,Vt];exact⟨k.1,k.2.1,b.1⟩
       .rw[cNs];omega
      .have:=H k;exact M λb=>by omega
    .refine⟨a,Ej ?_,u,j,λh=>?_,λ_=>by omega⟩
     .unfold F_dp;simp only[f.lt,Vr,YL e,XM,Vs];exact Qa _
     .omega
  obtain⟨v,B,O,L,p,H⟩:=loop c.Parts 0 1 rfl (XX _) (by omega) (by unfold condB;omega);refine⟨v,Qaz (Ea B.ev (Qa _)),O,L,?_,?_⟩
  .rintro⟨_,b,G⟩;rw[Qnr]at b;rw[Qc8]at G⊢;rw[p ⟨b,by omega⟩];omega
  .intro F;refine H λh=>F ⟨g,by rw[Qnr];exact h.1,by rw[Qc8];omega⟩
 .rw[Yt (show(16:Int)<(d:Int)by omega)];refine⟨1000,QiV (Qa _),by omega,by unfold condB;omega,λh=>absurd h.1 g,λ_=>by omega⟩
def sizeB:Nat->Int
 |0=>10000
 |k+1=>3*sizeB k
theorem QcN:∀k,10000<=sizeB k
 |0=>Int.le_refl _
 |k+1=>by have:=QcN k;simp only[sizeB];omega
theorem Ql7{k:Nat}(h:k<=17):sizeB k<=1291401630000:=by
 have:∀j,j<=17->sizeB j<=1291401630000:=by decide+kernel
 exact this k h
def goodL(d:Nat)(l:List Step):Prop:=sDs d l=true/\sNs l<=64/\sCs l<=256
theorem Qou:∀(m:Nat) (l:List Step) (d:Nat),sZs l<=m->d<=17->l.length<=1048576->(∀x∈l,Step.wf x)->∃a b:Int,Ev (λn=>F_m n l (d:Int)) (a,b)/\0<=a/\0<=b/\a<=sizeB (17-d)/\b<=sizeB (17-d)/\
  (goodL d l->a=sNs l/\b=sCs l)/\(¬goodL d l->64<a\/256<b):=by
 intro m
 induction m using Nat.strongRecOn with
 |_ m E=>
 intro l d hm hd hl hw;have O:∀{P:Int->Int->Prop},(∃a b:Int,Ev (λn=>B_m (F_m n) n l (d:Int)) (a,b)/\P a b)->∃a b:Int,Ev (λn=>F_m n l (d:Int)) (a,b)/\P a b:=by
  rintro P ⟨a,b,u,t⟩;exact⟨a,b,Jg u,t⟩
 refine O ?_;unfold B_m;by_cases e:0<l.length/\ ¬d<=16
 .rw[Yt (show(0:Int)<(l.length:Int)by omega),Yt (show(16:Int)<(d:Int)by omega)];have:=QcN (17-d);refine⟨1000,1000,Ea (Qa _) (QiV (Qa _)),by omega,by omega,by omega,by omega,λh=>?_,λ_=>by omega⟩;exfalso;cases l with
  |nil=>simp at e
  |cons x r=>
   have:=h.1;simp only[sDs,XZ,Vt]at this;exact e.2 this.1
 .have p:Ev (λn:Nat=>((bif decide (0<(l.length:Int))then some (decide (16<(d:Int)))else some false):Option Bool)) false:=by
   by_cases hp:0<l.length
   .have:d<=16:=by
     rcases VE 16 d with q|q
     .exact absurd ⟨hp,by omega⟩ e
     .exact q
    rw[Yt (show(0:Int)<(l.length:Int)by omega),YL (show¬(16:Int)<(d:Int)by omega)];exact Qa _
   .rw[YL (show¬(0:Int)<(l.length:Int)by omega)];exact Qa _
  have ed:IntKind.i64.wrap ((d:Int)+1)=((d+1:Nat):Int):=YX (by omega);have loop:∀(r:List Step) (i:Nat) (a b:Int),l.drop i=r->i<=l.length->0<=a->0<=b->a<=sizeB (17-d)->b<=sizeB (17-d)->
    ∃a' b':Int,EvI (λn=>F_cy n l (d:Int) (F_m n)) (a,b,(i:Int)) (a',b')/\0<=a'/\0<=b'/\a'<=sizeB (17-d)/\b'<=sizeB (17-d)/\
     (sDs d r=true/\a+sNs r<=64/\b+sCs r<=256->a'=a+sNs r/\b'=b+sCs r)/\(¬(sDs d r=true/\a+sNs r<=64/\b+sCs r<=256)->64<a'\/256<b'):=by
   intro r
   induction r with
   |nil=>
    intro i a b R hi p u t Q;refine⟨a,b,Ej ?_,p,u,t,Q,λ_=>by simp[sNs,sCs],λh=>?_⟩
    .unfold F_cy;simp only[YH R hi,Vs,XM];exact Qa _
    .simp[sDs,sNs,sCs]at h;omega
   |cons s r ae=>
    intro i a b R hi p u t Q;obtain⟨j,ah⟩:=QW (by omega) R;have al:=j.lt';have w:d<=16:=by
     rcases VE 16 d with q|q
     .exact absurd ⟨by omega,by omega⟩ e
     .exact q
    have am:sZ s<=sZs l:=by
     have:∀l:List Step,s∈l->sZ s<=sZs l:=by
      intro l
      induction l with
      |nil=>intro h;cases h
      |cons y l E=>
       intro h;rw[sZs];rcases X8.1 h with rfl|h
       .omega
       .have:=E h;omega
     exact this _ j.mem
    by_cases f:a<=64/\b<=256
    .obtain⟨wc,⟨Y,V⟩,⟨ab,X⟩⟩:=Qam (hw s j.mem);have ai:=QhN s;obtain⟨B,g,p1,p2,p3,p4,p5,F,p7⟩:=E (sZs s.Then) (by omega) s.Then (d+1) (XW _) (by omega) Y V;obtain⟨y1,y2,q1,q2,q3,q4,q5,q6,q7⟩:=E (sZs s.Else) (by omega) s.Else (d+1) (XW _) (by omega) ab X;have hB:sizeB (17-d)=3*sizeB (17-(d+1)):=by
      rw[show 17-d=(17-(d+1))+1 by omega];rfl
     have aa:=QcN (17-(d+1));have aj:=Ql7 (k:=17-d) (by omega);have hc:∃z:Int,0<=z/\z<=5608/\Ev (λn=>((bif (!zeroC s.Cond)then(idx l (i:Int)).bind λac=>(F_i n ac.Cond 0).bind λaf=>some (IntKind.i64.wrap ((IntKind.i64.wrap ((IntKind.i64.wrap (b+g))+y2))+af))else some (IntKind.i64.wrap ((IntKind.i64.wrap (b+g))+y2))):Option Int)) (b+g+y2+z)/\
       ((zeroC s.Cond||cD 1 s.Cond)=true/\(bif zeroC s.Cond then 0 else cN s.Cond)<=256->z=((bif zeroC s.Cond then 0 else cN s.Cond:Nat):Int))/\(¬((zeroC s.Cond||cD 1 s.Cond)=true/\(bif zeroC s.Cond then 0 else cN s.Cond)<=256)->256<z):=by
      have e1:IntKind.i64.wrap (b+g)=b+g:=Yu (by omega) (by omega);have e2:IntKind.i64.wrap (b+g+y2)=b+g+y2:=Yu (by omega) (by omega);cases hz:zeroC s.Cond with
      |true=>
       refine⟨0,by omega,by omega,?_,λ_=>by simp,λh=>absurd ⟨rfl,by simp⟩ h⟩;simp only[Xg,Vs,e1,e2];exact(Qa _).eq (by omega)
      |false=>
       obtain⟨v,u1,u2,u3,u4,u5⟩:=QfT _ s.Cond 0 (XW _) (by omega) wc;have N:v<=5608:=by unfold condB at u3;omega
       have e3:IntKind.i64.wrap (b+g+y2+v)=b+g+y2+v:=Yu (by omega) (by omega);refine⟨v,u2,N,?_,λh=>?_,λh=>?_⟩
       .simp only[Xh,Vr,j.ix,XM,e1,e2];refine Ea u1 ?_;rw[e3];exact Qa _
       .simp only[Bool.false_or,Vs]at h⊢;exact u4 ⟨by omega,h.1,h.2⟩
       .simp only[Bool.false_or,Vs]at h;exact u5 λq=>h ⟨q.2.1,q.2.2⟩
     obtain⟨z,z0,z1,z2,z3,z4⟩:=hc;have e4:IntKind.i64.wrap (a+1)=a+1:=Yu (by omega) (by omega);have e5:IntKind.i64.wrap (a+1+B)=a+1+B:=Yu (by omega) (by omega);have e6:IntKind.i64.wrap (a+1+B+y1)=a+1+B+y1:=Yu (by omega) (by omega);obtain⟨w1,w2,v1,v2,v3,v4,v5,v6,G⟩:=ae (i+1) (a+1+B+y1) (b+g+y2+z) ah (by omega) (by omega) (by omega) (by omega) (by omega);refine⟨w1,w2,Ew ?_ v1,v2,v3,v4,v5,?_,?_⟩
     .unfold F_cy;simp only[j.lt,Vr,Yt f.1,Yt f.2,XM,j.ix,j.nx,ed,Qjr];refine Ea p1 (Ea q1 ?_);simp only[j.ix,XM]at z2;refine Ea z2 ?_;rw[e4,e5,e6];exact Qa _
     .rintro⟨g1,g2,g3⟩;simp only[sDs,XZ,Vt,Qj9]at g1;obtain⟨ak,⟨M,ag,W⟩,J⟩:=g1;rw[sNs,Qf3]at g2⊢;rw[sCs,Qf4]at g3⊢;obtain⟨k1,k2⟩:=F ⟨ag,by omega,by omega⟩;obtain⟨k3,k4⟩:=q6 ⟨W,by omega,by omega⟩;have k5:=z3 ⟨M,by omega⟩;obtain⟨k6,k7⟩:=v6 ⟨J,by omega,by omega⟩;constructor<;>omega
     .intro hn;by_cases L:goodL (d+1) s.Then
      .obtain⟨k1,k2⟩:=F L;by_cases T:goodL (d+1) s.Else
       .obtain⟨k3,k4⟩:=q6 T;by_cases H:(zeroC s.Cond||cD 1 s.Cond)=true/\(bif zeroC s.Cond then 0 else cN s.Cond)<=256
        .have k5:=z3 H;refine G λq=>hn ⟨?_,?_,?_⟩
         .simp only[sDs,XZ,Vt,Qj9];exact⟨w,⟨H.1,L.1,T.1⟩,q.1⟩
         .rw[sNs,Qf3];omega
         .rw[sCs,Qf4];omega
        .have:=z4 H;exact G λq=>by omega
       .have:=q7 T;exact G λq=>by omega
      .have:=p7 L;exact G λq=>by omega
    .refine⟨a,b,Ej ?_,p,u,t,Q,λh=>?_,λ_=>?_⟩
     .unfold F_cy;have:Ev (λn:Nat=>((bif decide ((i:Int)<(l.length:Int))then(bif decide (a<=64)then some (decide (b<=256))else some false)else some false):Option Bool)) false:=by
       rw[j.lt];by_cases q:a<=64
       .rw[Yt q,YL (show¬b<=256 from λz=>f ⟨q,z⟩)];exact Qa _
       .rw[YL q];exact Qa _
      exact Ea this (Qaz (Qa _))
     .omega
     .omega
  have aa:=QcN (17-d);obtain⟨a,b,p1,p2,p3,p4,p5,F,p7⟩:=loop l 0 0 0 rfl (XX _) (by omega) (by omega) (by omega) (by omega);refine⟨a,b,Ea p (Qaz (Ea p1.ev (Qa _))),p2,p3,p4,p5,λh=>?_,λh=>?_⟩
  .obtain⟨k1,k2⟩:=F ⟨h.1,by have:=h.2.1;omega,by have:=h.2.2;omega⟩;constructor<;>omega
  .exact p7 λq=>h ⟨q.1,by omega,by omega⟩
mutual
def hP:Part->Nat
 |⟨_,_,ps⟩=>bif ps.isEmpty then 0 else 1+hPs ps
def hPs:List Part->Nat
 |[]=>0
 |p::r=>max (hP p) (hPs r)
end
theorem QoZ(p:Part):hP p=bif p.Parts.isEmpty then 0 else 1+hPs p.Parts:=by cases p;rfl
theorem Qkn{p:Part}:∀{l:List Part},p∈l->hP p<=hPs l
 |q::r,h=>by
  simp only[hPs];rcases X8.1 h with rfl|h
  .omega
  .have:=Qkn h;omega
theorem Qh1{α:Type}(l:List α):((l.length:Int)==0)=l.isEmpty:=by
 cases l<;>simp;omega
theorem Qba:∀l:List Part,l.length<=szPs l
 |[]=>XW _
 |p::r=>by have:=Qba r;rw[szPs,Qad,X3];omega
theorem Qir:∀(m:Nat) (l:List Part) (k:Nat),szPs l<=m->k<=17->l.length<=1048576->(∀x∈l,Part.wf x)->Ev (λn=>F_k n l (k:Int)) ((min (hPs l) k:Nat):Int):=by
 intro m
 induction m using Nat.strongRecOn with
 |_ m y=>
 intro l k F z B s;refine Jg ?_;show Ev (λn=>B_k (F_k n) n l (k:Int)) _;unfold B_k;have loop:∀(r:List Part) (i:Nat) (a:Nat),l.drop i=r->i<=l.length->a<=k->EvI (λn=>F_bb n l (k:Int) (F_k n)) ((a:Int),(i:Int)) ((max a (min (hPs r) k):Nat):Int):=by
  intro r
  induction r with
  |nil=>
   intro i a e g b;refine Ej ?_;unfold F_bb;simp only[YH e g,Vs,XM];refine(Qa _).eq ?_;simp[hPs]
  |cons p r d=>
   intro i a e g j;obtain⟨b,f⟩:=QW (by omega) e;obtain⟨w1,w2⟩:=Jd (s p b.mem);by_cases u:0<k
   .have t:IntKind.i64.wrap ((k:Int)-1)=((k-1:Nat):Int):=by rw[Yu (by omega) (by omega)];omega
    have w:=QaM b.mem;rw[Qad]at w;have step:Ev (λn=>F_bb n l (k:Int) (F_k n) ((a:Int),(i:Int))) (.cont (((max a (min (hP p) k):Nat):Int),((i+1:Nat):Int))):=by
     unfold F_bb;simp only[b.lt,Vr,Yt (show(0:Int)<(k:Int)by omega),XM,b.ix,b.nx,t,bne,Qh1];rw[QoZ];cases E:p.Parts.isEmpty with
     |true=>
      simp only[Xg,Vs,XM,Vr,Nat.zero_min,Nat.max_zero];exact Qa _
     |false=>
      simp only[Xh,Vr,Vs];refine Ea (Ea (y (szPs p.Parts) (by omega) p.Parts (k-1) (XW _) (by omega) w1 w2) (Qa _)) ((Qa _).eq ?_);have h:IntKind.i64.wrap (1+((min (hPs p.Parts) (k-1):Nat):Int))=((1+min (hPs p.Parts) (k-1):Nat):Int):=by rw[Yu (by omega) (by omega)];omega
      rw[h];congr 2;split<;>omega
    refine(Ew step (d (i+1) _ f (by have:=b.lt';omega) (by omega))).eq ?_;rw[hPs];omega
   .have:k=0:=by omega
    subst this;refine Ej ?_;unfold F_bb;simp only[b.lt,Vr,YL (show¬(0:Int)<((0:Nat):Int)by omega),XM,Vs];have q:max a (min (hPs (p::r)) 0)=a:=by omega
    rw[q];exact Qa _
 refine Ea ((loop l 0 0 rfl (XX _) (XX _)).ev) ((Qa _).eq ?_);omega
theorem Qis:∀(m:Nat) (l:List Part),szPs l<=m->l.length<=1048576->(∀x∈l,Part.wf x)->Ev (λn=>F_o n l) ((min (szPs l) 257:Nat):Int):=by
 intro m
 induction m using Nat.strongRecOn with
 |_ m z=>
 intro l B u w;refine Jg ?_;show Ev (λn=>B_o (F_o n) n l) _;unfold B_o;have loop:∀(r:List Part) (i:Nat) (a:Nat),l.drop i=r->i<=l.length->a<=1048576->∃b:Nat,EvI (λn=>F_em n l (F_o n)) ((a:Int),(i:Int)) (b:Int)/\min b 257=min (a+(szPs r-r.length)) 257:=by
  intro r
  induction r with
  |nil=>
   intro i a g j _;refine⟨a,Ej ?_,by simp[szPs]⟩;unfold F_em;simp only[YH g j,Vs,XM];exact Qa _
  |cons p r e=>
   intro i a g j s;obtain⟨d,h⟩:=QW (by omega) g;obtain⟨w1,w2⟩:=Jd (w p d.mem);have y:=QaM d.mem;rw[Qad]at y;have t:=Qba r;by_cases q:a<=256
   .obtain⟨b,f,k⟩:=e (i+1) (a+min (szPs p.Parts) 257) h (by have:=d.lt';omega) (by omega);refine⟨b,Ew ?_ f,?_⟩
    .unfold F_em;simp only[d.lt,Vr,Yt (show(a:Int)<=256 by omega),XM,d.ix,d.nx];refine Ea (z (szPs p.Parts) (by omega) p.Parts (XW _) w1 w2) ((Qa _).eq ?_);rw[Yu (by omega) (by omega)];congr 2
     all_goals omega
    .rw[k,szPs,Qad,X3];omega
   .refine⟨a,Ej ?_,by omega⟩;unfold F_em;simp only[d.lt,Vr,YL (show¬(a:Int)<=256 by omega),XM,Vs];exact Qa _
 obtain⟨b,f,k⟩:=loop l 0 l.length rfl (XX _) u;refine Ea f.ev ((Qa _).eq ?_);have:=Qba l;split<;>omega
theorem Qm8:∀(m:Nat) (l:List Part) (k:Nat),szPs l<=m->hPs l<=k->k<=17->szPs l<=256->(∀x∈l,Part.wf x)->Ev (λn=>F_n n l (k:Int)) ((hPs l:Int),(szPs l:Int)):=by
 intro m
 induction m using Nat.strongRecOn with
 |_ m B=>
 intro l k P O s j G;have u:=Qba l;refine Jg ?_;show Ev (λn=>B_n (F_n n) n l (k:Int)) _;unfold B_n;have loop:∀(r:List Part) (i:Nat) (a b:Nat),l.drop i=r->i<=l.length->a<=17->b+(szPs r-r.length)<=256->EvI (λn=>F_fk n l (k:Int) (F_n n)) ((a:Int),(b:Int),(i:Int)) (((max a (hPs r):Nat):Int),((b+(szPs r-r.length):Nat):Int)):=by
  intro r
  induction r with
  |nil=>
   intro i a b f w _ _;refine Ej ?_;unfold F_fk;simp only[YH f w,Vs,XM];refine(Qa _).eq ?_;simp[hPs,szPs]
  |cons p r g=>
   intro i a b f w F h;obtain⟨d,q⟩:=QW (by omega) f;obtain⟨w1,w2⟩:=Jd (G p d.mem);have N:=QaM d.mem;have e:=Qkn d.mem;rw[Qad]at N;have y:=Qba r;rw[szPs,Qad,X3]at h;have step:Ev (λn=>F_fk n l (k:Int) (F_n n) ((a:Int),(b:Int),(i:Int))) (.cont (((max a (hP p):Nat):Int),((b+szPs p.Parts:Nat):Int),((i+1:Nat):Int))):=by
    unfold F_fk;simp only[d.lt,Vr,d.ix,XM,d.nx,Qh1];rw[QoZ]at e⊢;cases t:p.Parts.isEmpty with
    |true=>
     have z:p.Parts=[]:=by simpa using t
     simp only[Vr,XM];rw[z];simp only[szPs,Xy,Nat.max_zero];exact Qa _
    |false=>
     rw[t]at e;simp only[Vs]at e⊢;have H:0<k:=by omega
     have J:IntKind.i64.wrap ((k:Int)-1)=((k-1:Nat):Int):=by rw[Yu (by omega) (by omega)];omega
     have E:((k:Int)==0)=false:=beq_false_of_ne (by omega);rw[E,YL (show¬(256:Int)<(b:Int)by omega),J];simp only[Vs,XM];refine Ea (Ea (B (szPs p.Parts) (by omega) p.Parts (k-1) (XW _) (by omega) (by omega) (by omega) w2) (Qa _)) ((Qa _).eq ?_);have L:IntKind.i64.wrap ((hPs p.Parts:Int)+1)=((hPs p.Parts+1:Nat):Int):=YX (by omega);have M:IntKind.i64.wrap ((b:Int)+(szPs p.Parts:Int))=((b+szPs p.Parts:Nat):Int):=by rw[Yu (by omega) (by omega)];omega
     simp only[L,M];congr 2;split<;>omega
   refine(Ew step (g (i+1) _ _ q (by have:=d.lt';omega) (by omega) (by omega))).eq ?_;rw[hPs,szPs,Qad,X3];congr 1<;>omega
 refine Ea ((loop l 0 0 l.length rfl (XX _) (by omega) (by omega)).ev) ((Qa _).eq ?_);congr 1<;>omega
def repS:Nat->List Int->List Int->List Int
 |0,out,_=>out
 |k+1,out,lap=>if 256<out.length then out else repS k (out++lap) lap
mutual
def lapS:Part->List Int
 |⟨m,laps,ps⟩=>bif decide (0<laps)then expS [] ps else[m]
def expS:List Int->List Part->List Int
 |out,[]=>out
 |out,p::r=>expS (repS (p.Laps.toNat+(bif decide (0<p.Laps)then 0 else 1)) out (lapS p)) r
end
theorem Qem(p:Part):lapS p=bif decide (0<p.Laps)then expS [] p.Parts else[p.Mat]:=by cases p;rfl
theorem QeN{k:Nat}{a b:List Int}(h:256<a.length):repS k a b=a:=by
 cases k with
 |zero=>rfl
 |succ k=>rw[repS,Vv h]
theorem Qip:∀(l:List Part) {out:List Int},256<out.length->expS out l=out
 |[],out,h=>by rw[expS]
 |p::r,out,h=>by rw[expS,QeN h];exact Qip r h
theorem QeM:∀(k:Nat) (out lap:List Int),(repS k out lap).length<=max out.length (256+lap.length)
 |0,out,lap=>by rw[repS];omega
 |k+1,out,lap=>by
  rw[repS];split
  .omega
  .have:=QeM k (out++lap) lap;rw[X5]at this;omega
theorem Qio:∀(m:Nat) (l:List Part) (a:List Int),szPs l<=m->(expS a l).length<=max a.length (256+257*szPs l):=by
 intro m
 induction m using Nat.strongRecOn with
 |_ m j=>
 intro l;have b:∀p∈l,szPs l<=m->(lapS p).length<=257*szP p:=by
  intro p e h;have s:=QaM e;rw[Qem,Qad]at*;cases decide (0<p.Laps)with
  |true=>
   have:=j (szPs p.Parts) (by omega) p.Parts [] (XW _);simp only[Vr,List.length_nil]at this⊢;omega
  |false=>simp;omega
 have f:∀(r:List Part) (a:List Int),(∀p∈r,(lapS p).length<=257*szP p)->(expS a r).length<=max a.length (256+257*szPs r):=by
  intro r
  induction r with
  |nil=>intro a _;rw[expS];omega
  |cons p r d=>
   intro a g;rw[expS,szPs];have t:=d (repS (p.Laps.toNat+(bif decide (0<p.Laps)then 0 else 1)) a (lapS p)) λq i=>g q (by simp[i]);have k:=QeM (p.Laps.toNat+(bif decide (0<p.Laps)then 0 else 1)) a (lapS p);have n:=g p (by simp);omega
 intro a h;exact f l a λp e=>b p e h
theorem QmJ(p:Part):(lapS p).length<=257*szP p:=by
 rw[Qem,Qad];cases decide (0<p.Laps)with
 |true=>
  have:=Qio _ p.Parts [] (XW _);simp only[Vr,List.length_nil]at this⊢;omega
 |false=>simp;omega
theorem Qlf(kk:Int):∀(m:Nat) (l:List Part),szPs l<=m->szPs l<=256->l.length<=1048576->(∀x∈l,Part.wf x)->partsS kk l=true->Ev (λn=>F_l n l) (expS [] l):=by
 intro m
 induction m using Nat.strongRecOn with
 |_ m V=>
 intro l hm M hl Y R;rw[Qdt,Xt]at R;refine Jg ?_;show Ev (λn=>B_l (F_l n) n l) _;unfold B_l;have inner:∀(p:Part) (e:List Int) (g:p.Laps=0\/0<p.Laps/\p.Laps<=64) (E:e.length<=100000) (j:Nat) (k:Nat) (a:List Int),j+k=p.Laps.toNat+(bif decide (0<p.Laps)then 0 else 1)->a.length<=200000->
   ∃d:Ctl (List Int) (Ctl ((List Int)×Int) (Ctl (List Int) (List Int))),EvI (λn=>F_fn n p e) (a,(j:Int)) d/\
    (d=.cont (repS k a e)\/(256<(repS k a e).length/\d=.done (.done (.done (repS k a e))))):=by
  intro p e g E j k
  induction k generalizing j with
  |zero=>
   intro a f _;refine⟨_,Ej (b:=.cont a) ?_,.inl rfl⟩;unfold F_fn;have:¬((j:Int)<if p.Laps<1 then 1 else p.Laps):=by
    rcases g with h|⟨h,Q⟩
    .rw[h]at f⊢;simp at f⊢;omega
    .rw[Yt h]at f;simp at f;rw[Vu (by omega)];omega
   rw[YL this];exact Qa _
  |succ k J=>
   intro a f B;have t:((j:Int)<if p.Laps<1 then 1 else p.Laps):=by
    rcases g with h|⟨h,Q⟩
    .rw[h]at f⊢;simp at f⊢;omega
    .rw[Yt h]at f;simp at f;rw[Vu (by omega)];omega
   have O:j<=64:=by
    rcases g with h|⟨h,Q⟩
    .rw[h]at f;simp at f;omega
    .rw[Yt h]at f;simp at f;omega
   by_cases w:256<a.length
   .refine⟨_,Ej (b:=.done (.done (.done a))) ?_,.inr ⟨by rw[QeN w];exact w,by rw[QeN w]⟩⟩;unfold F_fn;rw[Yt t,Yt (show(256:Int)<(a.length:Int)by omega)];exact Qa _
   .obtain⟨d,u,F⟩:=J (j+1) (a++e) (by omega) (by rw[X5];omega);refine⟨d,Ew ?_ u,by rw[repS,Vu w];exact F⟩;unfold F_fn;rw[Yt t,YL (show¬(256:Int)<(a.length:Int)by omega)];refine QiV (Qaz (QaW (QiE a e (by omega)) ?_));rw[YX (by omega)];exact Qa _
 have loop:∀(r:List Part) (i:Nat) (a:List Int),l.drop i=r->i<=l.length->a.length<=100000->
   ∃d:Ctl (List Int) (List Int),EvI (λn=>F_ew n l (F_l n)) (a,(i:Int)) d/\(d=.cont (expS a r)\/d=.done (expS a r)):=by
  intro r
  induction r with
  |nil=>
   intro i a G T _;refine⟨.cont a,Ej ?_,.inl (by rw[expS])⟩;unfold F_ew;simp only[YH G T,Vs];exact Qa _
  |cons p r H=>
   intro i a G T B;obtain⟨q,N⟩:=QW (by omega) G;have t:=q.lt';have hs:=QaM q.mem;obtain⟨w1,w2⟩:=Jd (Y p q.mem);have g:=R p q.mem;rw[QeP]at g;have s:p.Laps=0\/0<p.Laps/\p.Laps<=64:=by
    cases P:(p.Laps==0)with
    |true=>exact .inl (by simpa using P)
    |false=>
     rw[P]at g;simp only[Vs,inR,XZ,Vt]at g;exact .inr ⟨by omega,by omega⟩
   have X:=QmJ p;have w:Ev (λn=>((bif decide (0<p.Laps)then(F_l n p.Parts).bind λL=>some L else some [p.Mat]):Option (List Int))) (lapS p):=by
    rw[Qem];refine Qb4 (λh=>?_) (λ_=>Qa _);rw[Qad]at hs;refine Ea (V (szPs p.Parts) (by omega) p.Parts (XW _) (by omega) w1 w2 ?_) (Qa _);have:(p.Laps==0)=false:=by
     simp only[Vt]at h;exact beq_false_of_ne (by omega)
    rw[this]at g;simp only[Vs,XZ]at g;exact g.2.2.2
   obtain⟨d,u,F⟩:=inner p (lapS p) s (by omega) 0 _ a (Xx _) (by omega);rw[expS];rcases F with rfl|⟨z,rfl⟩
   .obtain⟨y,q1,W⟩:=H (i+1) (repS (p.Laps.toNat+(bif decide (0<p.Laps)then 0 else 1)) a (lapS p)) N (by omega) (by
     have:=QeM (p.Laps.toNat+(bif decide (0<p.Laps)then 0 else 1)) a (lapS p);omega)
    refine⟨y,Ew ?_ q1,W⟩;unfold F_ew;simp only[q.lt,Vr,q.ix,XM,q.nx];exact Ea w (Ea u.ev (Qa _))
   .refine⟨.done (repS (p.Laps.toNat+(bif decide (0<p.Laps)then 0 else 1)) a (lapS p)),Ej ?_,.inr (by rw[Qip r z])⟩;unfold F_ew;simp only[q.lt,Vr,q.ix,XM,q.nx];exact Ea w (Ea u.ev (Qa _))
 obtain⟨d,u,F⟩:=loop l 0 [] rfl (XX _) (by simp);rcases F with rfl|rfl
 .exact Ea u.ev (Qa _)
 .exact Ea u.ev (Qa _)
def kindAt(c:Course)(m:Int):Int:=((c.Mats[m.toNat]?).map (·.Kind)).getD 0
def hasLeg(c:Course)(a b:Int):Bool:=c.Legs.any λl=>(l.From==a)&&(l.To==b)
def rokS(c:Course)(len:Nat):Nat->Int->List Int->Bool
 |_,_,[]=>true
 |i,prev,m::r=>((kindAt c m==1)==decide (i=0))&&(((kindAt c m==3)==decide (i+1=len))&&((decide (i=0)||hasLeg c prev m)&&rokS c len (i+1) m r))
def routeR(c:Course)(d:Distance)(r:List Int):Bool:=
 (decide (2<=r.length)&&decide (r.length<=256))&&(rokS c r.length 0 0 r&&((bif decide (0<=d.Extra)then !((r.count d.Extra:Int)==0)&&((kindAt c d.Extra==2)&&hasLeg c d.Extra d.Extra)else true)&&d.Cutoffs.all λx=>decide (x.Lap<=(r.count x.Mat:Int))))
def routeS(c:Course)(d:Distance):Bool:=routeR c d (expS [] d.Route)
def cntM(l:List Int):List (Int×Int):=l.foldl (λm k=>QG m k (QK m k 0+1)) []
theorem Qlm(l:List Int)(k:Int):cntM (l++[k])=QG (cntM l) k (QK (cntM l) k 0+1):=by unfold cntM;rw[XF];rfl
theorem Qfu(l:List Int)(k:Int):QK (cntM l) k 0=(l.count k:Int):=by
 have a:∀(l:List Int) (m:List (Int×Int)),QK (l.foldl (λm k=>QG m k (QK m k 0+1)) m) k 0=QK m k 0+(l.count k:Int):=by
  intro l
  induction l with
  |nil=>intro m;simp
  |cons x l b=>
   intro m;rw[XG,b,Qcz,List.count_cons];by_cases h:k=x
   .subst h;simp;omega
   .have:(x==k)=false:=beq_false_of_ne λe=>h e.symm;simp[h,this]
 have:=a l [];simpa[cntM,Qgc]using this
theorem Qjd(d:Int):∀(m:Nat) (l:List Part) (a:List Int),szPs l<=m->partsS d l=true->(∀x∈a,0<=x/\x<=d)->∀x∈expS a l,0<=x/\x<=d:=by
 intro m
 induction m using Nat.strongRecOn with
 |_ m z=>
 intro l;have u:∀(k:Nat) (a b:List Int),(∀x∈a,0<=x/\x<=d)->(∀x∈b,0<=x/\x<=d)->∀x∈repS k a b,0<=x/\x<=d:=by
  intro k
  induction k with
  |zero=>intro a b i _;rw[repS];exact i
  |succ k t=>
   intro a b i w;rw[repS];split
   .exact i
   .refine t _ _ ?_ w;intro x g;rcases VF.1 g with h|h
    .exact i x h
    .exact w x h
 have n:∀(r:List Part) (a:List Int),szPs r<=m->partsS d r=true->(∀x∈a,0<=x/\x<=d)->∀x∈expS a r,0<=x/\x<=d:=by
  intro r
  induction r with
  |nil=>intro a _ _ h;rw[expS];exact h
  |cons p r q=>
   intro a s f h;rw[szPs,Qad]at s;rw[partsS,XZ]at f;obtain⟨e,B⟩:=f;rw[expS];refine q _ (by omega) B (u _ _ _ h ?_);rw[Qem];rw[QeP]at e;cases j:(p.Laps==0)with
   |true=>
    have y:p.Laps=0:=by simpa using j
    rw[j,Vr,XZ]at e;have:=e.1;unfold inR at this;simp only[XZ,Vt]at this;rw[y];intro x g;simp at g;subst g;exact this
   |false=>
    rw[j]at e;simp only[Vs,XZ,inR,Vt]at e;rw[Yt (show 0<p.Laps by omega),Vr];exact z (szPs p.Parts) (by omega) p.Parts [] (XW _) e.2.2.2 (by simp)
 exact λa s f h=>n l a s f h
theorem Qki{c:Course}{m:Int}(h0:0<=m)(b:m<=(c.Mats.length:Int)-1):∃x:Mat,idx c.Mats m=some x/\x.Kind=kindAt c m:=by
 obtain⟨k,rfl⟩:∃k:Nat,m=(k:Int):=⟨m.toNat,by omega⟩;have a:k<c.Mats.length:=by omega
 refine⟨c.Mats[k],Jw (XN a),?_⟩;unfold kindAt;rw[Int.toNat_natCast,XN a];rfl
theorem Qh2(c:Course)(a b:Int):QK (Yj legKey true c.Legs) {from_:=a,to_:=b} false=hasLeg c a b:=by
 rw[QdV];unfold hasLeg;by_cases h:({from_:=a,to_:=b}:Uh)∈c.Legs.map legKey
 .rw[Vv h];obtain⟨l,d,e⟩:=Xe.1 h;unfold legKey at e;obtain⟨g,f⟩:=ends_eq.1 e;exact(Xu.2 ⟨l,d,by simp[g,f]⟩).symm
 .rw[Vu h]
  symm
  rw[VO];intro q;obtain⟨l,d,e⟩:=Xu.1 q;simp only[XZ,VA]at e;exact h (Xe.2 ⟨l,d,by unfold legKey;rw[e.1,e.2]⟩)
structure NumOk (c:Course):Prop where
 kinds:∀m∈c.Mats,1<=m.Kind/\m.Kind<=3
 dist:∀d∈c.Distances,-1<=d.Extra/\d.Extra<=(c.Mats.length:Int)-1/\partsS ((c.Mats.length:Int)-1) d.Route=true
theorem QnJ{c:Course}(h:numbersS c=true):NumOk c:=by
 unfold numbersS at h;simp only[XZ,Xt]at h;refine⟨λm b=>?_,λd e=>?_⟩
 .have:=h.1 m b;unfold inR at this;simpa using this
 .have:=h.2.2.2.1 d e;unfold distS at this;simp only[XZ]at this;obtain⟨_,a,f,_⟩:=this;unfold inR at a;simp only[XZ,Vt]at a;exact⟨a.1,a.2,f⟩
theorem QpS{c:Course}(q:NumOk c){d:Distance}(hd:d∈c.Distances):∀x∈expS [] d.Route,0<=x/\x<=(c.Mats.length:Int)-1:=
 Qjd _ _ d.Route [] (XW _) (q.dist d hd).2.2 (by simp)
theorem Qmc(c:Course)(len i:Nat)(prev m:Int)(r:List Int):rokS c len i prev (m::r)=(((kindAt c m==1)==decide (i=0))&&(((kindAt c m==3)==decide (i+1=len))&&((decide (i=0)||hasLeg c prev m)&&rokS c len (i+1) m r))):=rfl
theorem Qod(i:Nat):((i:Int)==0)=decide (i=0):=by
 rw[X0];simp
theorem QfS(c:Course)(r:List Int)(u:2<=r.length)(R:r.length<=256)(H:∀x∈r,0<=x/\x<=(c.Mats.length:Int)-1):
  Ev (λn=>iter (F_cv n c (Yj legKey true c.Legs) r) n ([],0)) (bif rokS c r.length 0 0 r then .cont (cntM r)else .done false):=by
 have loop:∀(t:List Int) (i:Nat) (b:Int),r.drop i=t->i<=r.length->(0<i->At r (i-1) b)->EvI (λn=>F_cv n c (Yj legKey true c.Legs) r) (cntM (r.take i),(i:Int)) (bif rokS c r.length i b t then .cont (cntM r)else .done false):=by
  intro t
  induction t with
  |nil=>
   intro i b f s _;refine Ej ?_;unfold F_cv;simp only[YH f s,Vs,rokS,Vr];have:r.length<=i:=by simpa using f
   rw[VK this];exact Qa _
  |cons m t y=>
   intro i b f s G;obtain⟨d,k⟩:=QW (by omega) f;have z:=d.lt';obtain⟨F,Q⟩:=H m d.mem;obtain⟨x,J,B⟩:=Qki F Q;have L:IntKind.i64.wrap ((r.length:Int)-1)=((r.length-1:Nat):Int):=by rw[Yu (by omega) (by omega)];omega
   have O:((i:Int)==((r.length-1:Nat):Int))=decide (i+1=r.length):=by rw[X0];simp;omega
   have E:Ev (λn:Nat=>((bif ((x.Kind==1) != ((i:Int)==0))then some true else(bif ((x.Kind==3) != ((i:Int)==(IntKind.i64.wrap ((r.length:Int)-1))))then some true else(bif decide (0<(i:Int))then(idx r (IntKind.i64.wrap ((i:Int)-1))).bind λg=>(some (QK (Yj legKey true c.Legs) ({from_:=g,to_:=m:Uh}) false)).bind λp=>some (!p)else some false))):Option Bool))
     (!(((kindAt c m==1)==decide (i=0))&&(((kindAt c m==3)==decide (i+1=r.length))&&(decide (i=0)||hasLeg c b m)))):=by
    rw[B,L,O,Qod];refine Ev.eq (Eu λ_=>Eu λ_=>Qb4 (v:= !hasLeg c b m) (w:=false) (λh=>?_) λ_=>Qa _) ?_
    .have j:0<i:=by simpa using h
     have M:IntKind.i64.wrap ((i:Int)-1)=((i-1:Nat):Int):=by rw[Yu (by omega) (by omega)];omega
     rw[M,(G j).ix];simp only[XM,Qh2];exact Qa _
    .have N:decide (0<(i:Int))= !decide (i=0):=by rw[X0];simp;omega
     rw[N];cases(kindAt c m==1)<;>cases decide (i=0)<;>cases(kindAt c m==3)<;>cases decide (i+1=r.length)<;>cases hasLeg c b m<;>rfl
   have e:IntKind.i64.wrap (QK (cntM (r.take i)) m 0+1)=QK (cntM (r.take i)) m 0+1:=by
    rw[Qfu];have:(r.take i).count m<=i:=by have:=List.count_le_length (a:=m) (l:=r.take i);simp at this;omega
    exact Yu (by omega) (by omega)
   have step:Ev (λn=>F_cv n c (Yj legKey true c.Legs) r (cntM (r.take i),(i:Int))) (bif ((kindAt c m==1)==decide (i=0))&&(((kindAt c m==3)==decide (i+1=r.length))&&(decide (i=0)||hasLeg c b m))then .cont (cntM (r.take (i+1)),((i+1:Nat):Int))else .done (.done false)):=by
    unfold F_cv;simp only[d.lt,Vr,d.ix,XM,d.nx,J];refine Ea E ?_;rw[e, <- Qlm, <- d.take];cases(((kindAt c m==1)==decide (i=0))&&(((kindAt c m==3)==decide (i+1=r.length))&&(decide (i=0)||hasLeg c b m)))<;>exact Qa _
   have P:rokS c r.length i b (m::t)=((((kindAt c m==1)==decide (i=0))&&(((kindAt c m==3)==decide (i+1=r.length))&&(decide (i=0)||hasLeg c b m)))&&rokS c r.length (i+1) m t):=by rw[Qmc];simp only[Bool.and_assoc]
   rw[P];cases q:(((kindAt c m==1)==decide (i=0))&&(((kindAt c m==3)==decide (i+1=r.length))&&(decide (i=0)||hasLeg c b m)))with
   |false=>
    rw[q]at step;exact Ej step
   |true=>
    rw[q]at step;rw[VC];exact Ew step (y (i+1) m k (by omega) (λ_=>by simpa using d))
 exact(loop r 0 0 rfl (XX _) (by omega)).ev
theorem Qjt(c:Course)(w:CourseOk c)(q:NumOk c)(d:Distance)(b:d∈c.Distances)(p:∀x∈d.Route,Part.wf x)(z:szPs d.Route<=256):
  Ev (λn=>F_bt n c d (Yj legKey true c.Legs)) (routeS c d):=by
 have j:=Qba d.Route;have i:=QpS q b;have a:=Qio _ d.Route [] (XW _);unfold F_bt routeS;refine Ea (Qlf _ _ d.Route (XW _) z (by omega) p (q.dist d b).2.2) ?_;generalize expS [] d.Route=r at i a⊢;unfold routeR;have y:IntKind.i64.wrap ((r.length:Int)-1)=(r.length:Int)-1:=by
  have:r.length<=1048576:=by simp at a;omega
  exact QcL this
 rw[y];have s:(decide ((r.length:Int)-1<1)||decide (256<=(r.length:Int)-1))= !(decide (2<=r.length)&&decide (r.length<=256)):=by
  rw[X0];simp;omega
 refine Ea (Ev.eq (Eu λ_=>Qa _) s) ?_;cases g:(decide (2<=r.length)&&decide (r.length<=256))with
 |false=>exact Qa _
 |true=>
  simp only[XZ,Vt]at g;rw[VC];refine Qaz (Ea (QfS c r g.1 g.2 i) ?_);cases rokS c r.length 0 0 r with
  |false=>exact Qa _
  |true=>
   simp only[Vr,VC];have t:Ev (λn:Nat=>((bif decide (0<=d.Extra)then(some (QK (cntM r) d.Extra 0)).bind λf=>(bif (f==0)then some true else(idx c.Mats d.Extra).bind λe=>(bif (e.Kind != 2)then some true else(some (QK (Yj legKey true c.Legs) ({from_:=d.Extra,to_:=d.Extra:Uh}) false)).bind λh=>some (!h)))else some false):Option Bool))
     (!(bif decide (0<=d.Extra)then !((r.count d.Extra:Int)==0)&&((kindAt c d.Extra==2)&&hasLeg c d.Extra d.Extra)else true)):=by
    rw[Qfu];cases l:decide (0<=d.Extra)with
    |false=>exact Qa _
    |true=>
     obtain⟨x,u,k⟩:=Qki (c:=c) (m:=d.Extra) (by simpa using l) (q.dist d b).2.1;simp only[Vr,XM,u,Qh2,k];refine Ev.eq (Eu λ_=>Eu λ_=>Qa _) ?_;rw[bne];cases((r.count d.Extra:Int)==0)<;>cases(kindAt c d.Extra==2)<;>cases hasLeg c d.Extra d.Extra<;>rfl
   refine Ea t ?_;cases(bif decide (0<=d.Extra)then !((r.count d.Extra:Int)==0)&&((kindAt c d.Extra==2)&&hasLeg c d.Extra d.Extra)else true)with
   |false=>exact Qa _
   |true=>
    rw[VC];refine Qaz (Ea ?_ (Qa _));unfold F_ev F_es F_fl;refine Jh d.Cutoffs _ (λn x=>F_bw n x (cntM r)) (by have:=w.cut d b;omega) λx _=>?_;unfold F_bw;rw[Qfu];exact Qa _
theorem QdN{a b:Nat}(h:a+b<=4611686018427387904):IntKind.i64.wrap ((a:Int)+(b:Int))=((a+b:Nat):Int):=by
 rw[Yu (by omega) (by omega)];omega
def lensC(c:Course):Nat:=c.Mats.length+c.Legs.length+c.Distances.length+c.Waves.length+c.Offences.length+c.Categories.length+c.Prizes.length
def fewD(d:Distance):Prop:=d.Cutoffs.length<=200/\szPs d.Route<=200/\hPs d.Route<=16
structure FewOk (c:Course):Prop where
 lens:lensC c<=200
 name:c.Name.length<=100
 dist:∀d∈c.Distances,fewD d
 ties:c.Ties.length<=200
theorem Qhl(c:Course)(w:CourseOk c)(q:PartsOk c)(hl:c.Ties.length<=1048576)(T:∀x∈c.Ties,Step.wf x):∃b,Ev (λn=>F_ae n c) b/\(b=true->FewOk c):=by
 have hm:=w.mats;have hg:=w.legs;have hd:=w.dist;have F:=w.wave;have ho:=w.off;have hc:=w.cat;have hp:=w.prize;have loop:∀(t:List Distance) (i s:Nat),c.Distances.drop i=t->i<=c.Distances.length->∃f:Ctl Int Bool,EvI (λn=>F_be n c) ((s:Int),(i:Int)) f/\(f=.done false\/ ∃v:Nat,f=.cont (v:Int)/\(v<=200->s<=v/\ ∀d∈t,fewD d)):=by
  intro t
  induction t with
  |nil=>
   intro i s E G;refine⟨.cont (s:Int),Ej ?_,Or.inr ⟨s,rfl,λ_=>⟨XW _,by simp⟩⟩⟩;unfold F_be;simp only[YH E G,Vs,XM];exact Qa _
  |cons d t N=>
   intro i s E G;obtain⟨g,z⟩:=QW (by omega) E;have O:=g.lt';by_cases Y:s<=200
   .have j:=q.len d g.mem;have m:=q.wf d g.mem;have H:=w.cut d g.mem;have u:=Qis _ d.Route (XW _) j m;have J:=Qir _ d.Route 17 (XW _) (XW _) j m;have V:IntKind.i64.wrap ((s:Int)+(d.Cutoffs.length:Int))=((s+d.Cutoffs.length:Nat):Int):=QdN (by omega);have Q:IntKind.i64.wrap (((s+d.Cutoffs.length:Nat):Int)+((min (szPs d.Route) 257:Nat):Int))=((s+d.Cutoffs.length+min (szPs d.Route) 257:Nat):Int):=QdN (by omega);have step:Ev (λn=>F_be n c ((s:Int),(i:Int))) (bif decide ((16:Int)<((min (hPs d.Route) 17:Nat):Int))then .done (.done false)else .cont (((s+d.Cutoffs.length+min (szPs d.Route) 257:Nat):Int),((i+1:Nat):Int))):=by
     unfold F_be;simp only[g.lt,Vr,g.ix,XM,g.nx,Yt (show(s:Int)<=200 by omega)];refine Ea u (Ea J ?_);rw[V,Q];cases decide ((16:Int)<((min (hPs d.Route) 17:Nat):Int))<;>exact Qa _
    by_cases L:hPs d.Route<=16
    .rw[YL (show¬(16:Int)<((min (hPs d.Route) 17:Nat):Int)by omega)]at step;obtain⟨f,p,k⟩:=N (i+1) (s+d.Cutoffs.length+min (szPs d.Route) 257) z (by omega);refine⟨f,Ew step p,?_⟩;rcases k with k|⟨v,k,B⟩
     .exact Or.inl k
     .refine Or.inr ⟨v,k,λF=>?_⟩;obtain⟨X,r⟩:=B F;refine⟨by omega,λx y=>?_⟩;rcases X8.1 y with rfl|y
      .exact⟨by omega,by omega,L⟩
      .exact r x y
    .rw[Yt (show(16:Int)<((min (hPs d.Route) 17:Nat):Int)by omega)]at step;exact⟨.done false,Ej step,Or.inl rfl⟩
   .refine⟨.cont (s:Int),Ej ?_,Or.inr ⟨s,rfl,λh=>absurd h Y⟩⟩;unfold F_be;simp only[g.lt,Vr,YL (show¬(s:Int)<=200 by omega),XM,Vs];exact Qa _
 obtain⟨f,p,k⟩:=loop c.Distances 0 (lensC c) rfl (XX _);have e:IntKind.i64.wrap ((IntKind.i64.wrap ((IntKind.i64.wrap ((IntKind.i64.wrap ((IntKind.i64.wrap ((IntKind.i64.wrap ((c.Mats.length:Int)+(c.Legs.length:Int)))+(c.Distances.length:Int)))+(c.Waves.length:Int)))+(c.Offences.length:Int)))+(c.Categories.length:Int)))+(c.Prizes.length:Int))=(lensC c:Int):=by
  have h1:c.Mats.length+c.Legs.length<=4611686018427387904:=by omega
  have W:c.Mats.length+c.Legs.length+c.Distances.length<=4611686018427387904:=by omega
  have h3:c.Mats.length+c.Legs.length+c.Distances.length+c.Waves.length<=4611686018427387904:=by omega
  have P:c.Mats.length+c.Legs.length+c.Distances.length+c.Waves.length+c.Offences.length<=4611686018427387904:=by omega
  have M:c.Mats.length+c.Legs.length+c.Distances.length+c.Waves.length+c.Offences.length+c.Categories.length<=4611686018427387904:=by omega
  have R:c.Mats.length+c.Legs.length+c.Distances.length+c.Waves.length+c.Offences.length+c.Categories.length+c.Prizes.length<=4611686018427387904:=by omega
  rw[QdN h1,QdN W,QdN h3,QdN P,QdN M,QdN R];rfl
 unfold F_ae;rw[e];rcases k with rfl|⟨v,rfl,B⟩
 .exact⟨false,Ea p.ev (Qa _),λh=>by cases h⟩
 .obtain⟨a,b,u,J,p3,_,_,_,_⟩:=Qou _ c.Ties 0 (XW _) (by omega) hl T;have l:Ev (λn=>F_bd n c.Ties) (decide ((c.Ties.length:Int)<=20)&&(decide (a<=80)&&decide (b<=300))):=by
   unfold F_bd;exact Ea u (Ea (Ei λ_=>Ei λ_=>Qa _) (Qa _))
  refine⟨decide ((v:Int)<=200)&&(decide ((c.Name.length:Int)<=100)&&(decide ((c.Ties.length:Int)<=20)&&(decide (a<=80)&&decide (b<=300)))),Ea p.ev (Ea (Ei λ_=>Ei λ_=>Ea l (Qa _)) (Qa _)),λh=>?_⟩;simp only[XZ,Vt]at h;obtain⟨X,r⟩:=B (by omega);exact⟨by omega,by omega,r,by omega⟩
def fitsS(c:Course):Bool:=
 !(decide (40<(c.Mats.length:Int))||(decide (512<(c.Legs.length:Int))||(decide (8<(c.Distances.length:Int))||(decide (32<(c.Waves.length:Int))||(decide (32<(c.Offences.length:Int))||(decide (32<(c.Categories.length:Int))||decide (32<(c.Prizes.length:Int))))))))
  &&c.Distances.all λd=> !decide (64<(d.Cutoffs.length:Int))
theorem Qov(c:Course)(w:CourseOk c)(q:PartsOk c)(k:FewOk c):Ev (λn=>F_bo n c) (fitsS c):=by
 unfold F_bo fitsS;refine Ea (Eu λ_=>Eu λ_=>Eu λ_=>Eu λ_=>Eu λ_=>Eu λ_=>Qa _) ?_;cases(decide (40<(c.Mats.length:Int))||(decide (512<(c.Legs.length:Int))||(decide (8<(c.Distances.length:Int))||(decide (32<(c.Waves.length:Int))||(decide (32<(c.Offences.length:Int))||(decide (32<(c.Categories.length:Int))||decide (32<(c.Prizes.length:Int))))))))with
 |true=>exact Qa _
 |false=>
  rw[Xh,VC];refine Qaz (Ea (QlR c.Distances (λd=> !decide (64<(d.Cutoffs.length:Int))) (Ctl.done false) (Ctl.cont ()) (by have:=w.dist;omega) (λi x a=>?_) ?_) ?_)
  .obtain⟨f,e,b⟩:=k.dist x a.mem;unfold F_hj;simp only[a.lt,Vr,a.ix,XM,a.nx];refine Ea (Qm8 _ x.Route 17 (XW _) (by omega) (XW _) (by omega) (q.wf x a.mem)) ?_;refine Ea (Eu λ_=>Eu λ_=>Qa _) ?_;simp only[YL (show¬(16:Int)<(hPs x.Route:Int)by omega),YL (show¬(256:Int)<(szPs x.Route:Int)by omega),Bool.or_false];cases decide (64<(x.Cutoffs.length:Int))<;>exact Qa _
  .unfold F_hj;simp only[Qbt,Vs];exact Qa _
  .cases(c.Distances.all λd=> !decide (64<(d.Cutoffs.length:Int)))<;>exact Qa _
def courseE(c:Course):Int:=
 bif fitsS c then bif namesS c then bif numbersS c then bif tiesE c.Ties==0 then bif c.Distances.all (routeS c)then 0 else 72 else tiesE c.Ties else 71 else 70 else 2
theorem Qlg(c:Course)(w:CourseOk c)(q:PartsOk c)(k:FewOk c)(hl:c.Ties.length<=1048576)(e:∀x∈c.Ties,Step.wf x):Ev (λn=>F_s n c) (courseE c):=by
 unfold F_s courseE;refine Ea (Qov c w q k) ?_;cases fitsS c with
 |false=>exact Qa _
 |true=>
 refine Qaz (Ea (Qm3 c w) ?_);cases namesS c with
 |false=>exact Qa _
 |true=>
 refine Qaz (Ea (Qjs c w q) ?_);cases f:numbersS c with
 |false=>exact Qa _
 |true=>
 refine Qaz (Ea (Qow c.Ties hl e) ?_);rw[bne];cases(tiesE c.Ties==0)with
 |false=>exact Qa _
 |true=>
 have d:Ev (λn=>iter (F_gx n c) n ([],0)) (Yj legKey true c.Legs):=by
  refine QbD c.Legs legKey true (by have:=w.legs;omega) (λi x m a=>?_) (λm=>?_)
  .unfold F_gx;simp only[a.lt,Vr,a.ix,XM,a.nx];exact Qa _
  .unfold F_gx;simp only[Qbt,Vs];exact Qa _
 refine Qaz (Ea d ?_);have a:Ev (λn=>F_aq n c.Distances c (Yj legKey true c.Legs)) (c.Distances.all (routeS c)):=by
  unfold F_aq F_ex F_du;refine Jh c.Distances _ (λn x=>F_cr n x c (Yj legKey true c.Legs)) (by have:=w.dist;omega) λx b=>?_;unfold F_cr;exact Ea (Qjt c w (QnJ f) x b (q.wf x b) (by have:=(k.dist x b).2.1;omega)) (Qa _)
 refine Ea a ?_;cases c.Distances.all (routeS c)<;>exact Qa _
theorem Qdo{α:Type}{lt:α->α->Prop}(d:∀a b,lt a b->¬lt b a):∀{l m:List α},l.Pairwise lt->m.Pairwise lt->(∀x,x∈l↔x∈m)->l=m:=by
 intro l
 induction l with
 |nil=>
  intro m _ _ h;cases m with
  |nil=>rfl
  |cons y m=>exact absurd ((h y).2 (by simp)) (by simp)
 |cons x l r=>
  intro m n p h;cases m with
  |nil=>exact absurd ((h x).1 (by simp)) (by simp)
  |cons y m=>
   obtain⟨j,s⟩:=Xc.1 n;obtain⟨k,q⟩:=Xc.1 p;have i:x=y:=by
    rcases X8.1 ((h x).1 (by simp))with e|e
    .exact e
    .rcases X8.1 ((h y).2 (by simp))with g|g
     .exact g.symm
     .exact absurd (k x e) (d _ _ (j y g))
   subst i;rw[r s q λz=>?_];constructor
   .intro f;rcases X8.1 ((h z).1 (by simp[f]))with e|e
    .subst e;exact absurd (j z f) (d _ _ (j z f))
    .exact e
   .intro f;rcases X8.1 ((h z).2 (by simp[f]))with e|e
    .subst e;exact absurd (k z f) (d _ _ (k z f))
    .exact e
theorem QbY:∀(l:List Int) (p:Int),(∀x∈l,p<=x)->l.Pairwise (· <= ·)->(QaR p l).Pairwise (· < ·)/\(∀x∈QaR p l,p<x)/\ ∀x,x∈p::QaR p l↔x∈p::l
 |[],p,_,_=>⟨List.Pairwise.nil,by simp[QaR],by simp[QaR]⟩
 |y::l,p,h,hp=>by
  obtain⟨h1,h2⟩:=Xc.1 hp;unfold QaR;by_cases e:y=p
  .subst e;obtain⟨k1,k2,k3⟩:=QbY l y h1 h2;rw[beq_self_eq_true,Vr];refine⟨k1,k2,λx=>?_⟩;rw[k3 x];simp
  .have e':(y==p)=false:=by simpa using e
   rw[e',Vs];obtain⟨k1,k2,k3⟩:=QbY l y h1 h2;have b:=h y (by simp);refine⟨Xc.2 ⟨k2,k1⟩,λx a=>?_,λx=>?_⟩
   .rcases X8.1 a with rfl|a
    .omega
    .have:=k2 x a;omega
   .rw[X8,k3 x];simp
theorem QjA(l:List Int):(QiA (YG ltI l)).Pairwise (· < ·)/\ ∀x,x∈QiA (YG ltI l)↔x∈l:=by
 have e:(YG ltI l).Pairwise (· <= ·):=(QR (QcX l)).imp λ{a b} h=>by simp[ltI]at h;exact h
 have d:∀x,x∈YG ltI l↔x∈l:=λx=>(Qn ltI l).mem_iff;generalize YG ltI l=m at e d;cases m with
 |nil=>exact⟨List.Pairwise.nil,λx=>by rw[<- d x];rfl⟩
 |cons y m=>
  obtain⟨k,j⟩:=Xc.1 e;obtain⟨g,i,f⟩:=QbY m y k j;exact⟨Xc.2 ⟨i,g⟩,λx=>(f x).trans (d x)⟩
theorem Qj7{α:Type}(l:List α){a b:Nat}(h:a<=b)(d:b<=l.length):slc l (a:Int) (b:Int)=some ((l.take b).drop a):=by
 unfold slc;rw[Yt (show(0:Int)<=(a:Int)by omega),Yt (show(a:Int)<=(b:Int)by omega),Yt (show(b:Int)<=(l.length:Int)by omega)];simp
theorem Qpc{α:Type}(l:List α){b:Nat}(a:b<=l.length):slc l 0 (b:Int)=some (l.take b):=by
 have:=Qj7 l (XX b) a;simpa using this
theorem Ql6{α:Type}(l:List α){a:Nat}(b:a<=l.length):slc l (a:Int) (l.length:Int)=some (l.drop a):=by
 have:=Qj7 l b (XW _);simpa using this
theorem Qcc{α:Type}(l m:List α)(h:l.length+m.length<=4294967296):app l m=some (l++m):=by
 unfold app;rw[XV (by unfold Qy;exact h)];rfl
theorem Ql9{α:Type}(l:List α){i:Nat}(x:α)(h:i<l.length):Qct l (i:Int) x=some (l.set i x):=by
 unfold Qct;rw[Yt (show(0:Int)<=(i:Int)by omega),Yt (show(i:Int)<(l.length:Int)by omega)];simp
def firstI{α:Type}(q:α->Bool):List α->Nat->Int
 |[],_=> -1
 |x::l,i=>bif q x then(i:Int)else firstI q l (i+1)
theorem Ev.first{α:Type}{step:Nat->Int->Option (Ctl Int (Ctl Unit Int))}(l:List α)(q:α->Bool)(hl:l.length<=4611686018427387904)
  (m:∀i x,At l i x->Ev (λn=>step n (i:Int)) (bif q x then .done (.done (i:Int))else .cont ((i+1:Nat):Int)))(t:Ev (λn=>step n (l.length:Int)) (.done (.cont ()))):
  Ev (λn=>(Go.Sw.iter (step n) n 0).bind λb=>match b with|.cont _=>some (-1)|.done v=>some v) (firstI q l 0):=by
 have loop:∀(r:List α) (i:Nat),l.drop i=r->i<=l.length->∃a:Ctl Unit Int,EvI step (i:Int) a/\(match a with|.cont _=>some (-1)|.done v=>some v)=some (firstI q r i):=by
  intro r
  induction r with
  |nil=>
   intro i f k;have:i=l.length:=by have:=Xr.1 f;omega
   subst this;exact⟨.cont (),Ej t,rfl⟩
  |cons x r p=>
   intro i f k;obtain⟨j,g⟩:=QW hl f;have s:=m i x j;unfold firstI;cases h:q x with
   |true=>
    rw[h]at s;exact⟨_,Ej s,rfl⟩
   |false=>
    rw[h]at s;obtain⟨a,d,e⟩:=p (i+1) g (by have:=j.lt';omega);exact⟨a,Ew s d,e⟩
 obtain⟨a,d,e⟩:=loop l 0 rfl (XX _);exact Ea d.ev (Ez e)
theorem QaV{ι α:Type}{F:Nat->ι->Option α}{V:ι->α}:∀(L:List ι),(∀p∈L,Ev (λn=>F n p) (V p))->∃N,∀n,N<=n->∀p∈L,F n p=some (V p)
 |[],_=>⟨0,λ_ _ p hp=>by cases hp⟩
 |x::L,h=>by
  obtain⟨N,hN⟩:=QaV L λp hp=>h p (by simp[hp]);obtain⟨M,hM⟩:=h x (by simp);refine⟨N+M,λn hn p hp=>?_⟩;rcases X8.1 hp with rfl|hp
  .exact hM n (by omega)
  .exact hN n (by omega) p hp
theorem Ev.anyP{E R:Type}[DecidableEq R]{k:Nat->List E->Option R}{l:List E}{r:R}(h:∀p,p.Perm l->Ev (λn=>k n p) r):Ev (λn=>Go.Sw.anyP (k n) l) r:=by
 obtain⟨N,b⟩:=QaV (F:=λn p=>k n p) (V:=λ_=>r) (QbQ l) λp a=>h p (Qcx l p a);exact⟨N,λn d=>QkB λp a=>b n d p (Qds l p a)⟩
theorem Ev.isNil{α R:Type}[DecidableEq R]{l:List α}{x y:Nat->Option R}{v:R}(d:l=[]->Ev x v)(a:Ev y v):Ev (λn=>Go.Sw.isNil l (x n) (y n)) v:=by
 unfold Go.Sw.isNil;cases q:l.isEmpty with
 |false=>exact a
 |true=>
  obtain⟨N,b⟩:=d (List.isEmpty_iff.1 q);obtain⟨M,e⟩:=a;exact⟨N+M,λn f=>by dsimp only;rw[b n (by omega),e n (by omega)];simp⟩
set_option maxRecDepth 4000
def openU(f:Fact):U_facts_open_rxk:=
 bif f.Kind==1 then .c0 ()else bif f.Kind==2 then .c1 ()else bif f.Kind==3 then .c2 ()else bif f.Kind==4 then .c3 ()else bif f.Kind==5 then .c4 ()else bif f.Kind==6 then .c5 ()
 else bif f.Kind==7 then .c6 ()else bif f.Kind==8 then .c7 ()else bif f.Kind==9 then .c8 ()else bif f.Kind==10 then
  (bif (f.Ruling.Kind==1)||(f.Ruling.Kind==2)then .c9 (0,0,0,0,0,0)else bif f.Ruling.Kind==3 then .c9 (1,9999,0,255,1,1099511627776)else bif f.Ruling.Kind==4 then .c9 (1,9999,0,255,1,64)else .c9 (1,9999,0,255,0,0))
 else bif f.Kind==11 then .c10 ()else bif f.Kind==12 then .c11 ()else bif f.Kind==13 then .c12 ()else .c13 ()
theorem Qkf(n:Nat)(f:Fact)(b:Int):F_ak n f b=some (openU f):=by
 unfold F_ak openU;cases(f.Kind==1)with
 |true=>rfl
 |false=>
 cases(f.Kind==2)with
 |true=>rfl
 |false=>
 cases(f.Kind==3)with
 |true=>rfl
 |false=>
 cases(f.Kind==4)with
 |true=>rfl
 |false=>
 cases(f.Kind==5)with
 |true=>rfl
 |false=>
 cases(f.Kind==6)with
 |true=>rfl
 |false=>
 cases(f.Kind==7)with
 |true=>rfl
 |false=>
 cases(f.Kind==8)with
 |true=>rfl
 |false=>
 cases(f.Kind==9)with
 |true=>rfl
 |false=>
 cases(f.Kind==10)with
 |true=>
  cases(f.Ruling.Kind==1)with
  |true=>rfl
  |false=>
  cases(f.Ruling.Kind==2)with
  |true=>rfl
  |false=>
  cases(f.Ruling.Kind==3)with
  |true=>rfl
  |false=>
  cases(f.Ruling.Kind==4)with
  |true=>rfl
  |false=>rfl
 |false=>
 cases(f.Kind==11)with
 |true=>rfl
 |false=>
 cases(f.Kind==12)with
 |true=>rfl
 |false=>
 cases(f.Kind==13)with
 |true=>rfl
 |false=>rfl
def headL:List Ent:=[⟨false,3,1,13⟩,⟨false,0,0,31⟩,⟨false,1,1,1048576⟩,⟨false,2,0,1099511627776⟩]
def bodyL:U_facts_open_rxk->List Ent
 |.c0 _=>[⟨false,4,1,9999⟩,⟨false,5,0,7⟩,⟨false,6,0,31⟩,⟨false,7,(-1099511627776),1099511627776⟩,⟨false,8,0,120⟩,⟨false,9,0,1048576⟩,⟨false,10,0,9999⟩,⟨false,11,0,1048576⟩]
 |.c1 _=>[⟨false,12,0,39⟩,⟨false,13,0,255⟩,⟨false,14,0,1048576⟩,⟨false,15,(-1099511627776),1099511627776⟩]
 |.c2 _=>[⟨false,16,0,39⟩,⟨false,17,0,255⟩,⟨false,18,(-1099511627776),1099511627776⟩,⟨false,19,(-1099511627776),1099511627776⟩,⟨false,20,0,1099511627776⟩]
 |.c3 _=>[⟨false,21,0,39⟩,⟨false,22,0,255⟩,⟨false,23,(-1099511627776),1099511627776⟩,⟨false,24,0,39⟩,⟨false,25,0,255⟩,⟨false,26,(-1099511627776),1099511627776⟩,⟨false,27,(-1099511627776),1099511627776⟩,⟨false,28,(-1099511627776),1099511627776⟩]
 |.c4 _=>[⟨false,29,1,9999⟩,⟨false,30,0,255⟩,⟨false,31,(-1099511627776),1099511627776⟩,⟨false,32,(-1099511627776),1099511627776⟩]
 |.c5 _=>[⟨false,33,0,39⟩,⟨false,34,0,255⟩,⟨false,35,(-1099511627776),1099511627776⟩,⟨false,36,(-1099511627776),1099511627776⟩]
 |.c6 _=>[⟨false,37,1,9999⟩,⟨false,38,1,9999⟩]
 |.c7 _=>[⟨false,39,1,1048576⟩,⟨false,40,1,9999⟩,⟨false,41,0,31⟩,⟨false,42,0,255⟩]
 |.c8 _=>[⟨false,43,1,1048576⟩,⟨false,44,0,9999⟩,⟨false,45,0,1125899906842624⟩,⟨false,46,0,1⟩]
 |.c9 x=>[⟨false,47,1,1048576⟩,⟨false,48,1,2⟩,⟨false,49,1,5⟩,⟨false,50,x.1,x.2.1⟩,⟨false,51,x.2.2.1,x.2.2.2.1⟩,⟨false,52,x.2.2.2.2.1,x.2.2.2.2.2⟩]
 |.c10 _=>[⟨false,53,1,1048576⟩,⟨true,0,0,1⟩]
 |.c11 _=>[]
 |.c12 _=>[⟨false,55,0,31⟩,⟨false,56,1,1048576⟩]
 |.c13 _=>[]
def fineU(f:Fact):U_facts_open_rxk->Bool
 |.c3 _=>decide (f.Sync.Min<=f.Sync.Max)
 |.c4 _=>decide (f.Hand.Lo<=f.Hand.Hi)
 |.c5 _=>decide (f.Silence.Lo<=f.Silence.Hi)
 |.c6 _=>decide (f.Pair.A<f.Pair.B)
 |.c13 _=>false
 |_=>true
def entsS(f:Fact):List Ent:=headL++bodyL (openU f)
def goodE(e:Ent):Bool:=bif e.fl then e.off==0 else decide (e.off<57)&& !(e.off==54)
theorem Qli(f:Fact):∀e∈entsS f,goodE e=true:=by
 have h:∀u:U_facts_open_rxk,(headL++bodyL u).all goodE=true:=by intro u;cases u<;>rfl
 exact Xt.1 (h (openU f))
theorem Qfr(f:Fact):(entsS f).length<=12:=by
 have h:∀u:U_facts_open_rxk,(headL++bodyL u).length<=12:=by intro u;cases u<;>exact XU rfl
 exact h (openU f)
def isI:Option A->Bool
 |some (.int .i64 _)=>true
 |_=>false
theorem QpM{x:Option A}(h:isI x=true):∃v,x=some (.int .i64 v):=by
 unfold isI at h;split at h
 .exact⟨_,rfl⟩
 .cases h
theorem QmP{f:Fact}{b:Int}{e:Ent}(h:goodE e=true):∃v,QfR (Fact.c f) b e=some v:=by
 unfold goodE at h;unfold QfR;cases a:e.fl with
 |true=>
  rw[a]at h;simp only[Vr]at h⊢;rw[h];exact⟨b,rfl⟩
 |false=>
  rw[a]at h;simp only[Vs,XZ,Vt,Bool.not_eq_true']at h⊢;have all:(List.range 57).all (λo=>(o==54)||isI (Fact.c f)[o]?)=true:=by rfl
  have:=Xt.1 all e.off (List.mem_range.2 h.1);rw[h.2,Bool.false_or]at this;obtain⟨v,d⟩:=QpM this;rw[d];exact⟨v,rfl⟩
theorem Qmg{x:Fact}{s v:Int}{e:Ent}(h:goodE e=true):∃q,Qjb Fact.put x s e v=some q:=by
 unfold goodE at h;unfold Qjb;cases a:e.fl with
 |true=>
  rw[a]at h;simp only[Vr]at h⊢;rw[h];exact⟨_,rfl⟩
 |false=>
  rw[a]at h;simp only[Vs,XZ,Vt,Bool.not_eq_true']at h⊢;have all:(List.range 57).all (λo=>(o==54)||(Fact.put x o v).isSome)=true:=by rfl
  have:=Xt.1 all e.off (List.mem_range.2 h.1);rw[h.2,Bool.false_or]at this;obtain⟨y,b⟩:=Option.isSome_iff_exists.1 this;rw[b];exact⟨_,rfl⟩
def getV(f:Fact)(b:Int)(e:Ent):Int:=(QfR (Fact.c f) b e).getD 0
def putV(x:Fact)(s:Int)(e:Ent)(v:Int):Fact×Int:=(Qjb Fact.put x s e v).getD (x,s)
theorem QmQ{f:Fact}{b:Int}{e:Ent}(h:goodE e=true):QfR (Fact.c f) b e=some (getV f b e):=by
 obtain⟨v,a⟩:=QmP (f:=f) (b:=b) h;unfold getV;rw[a];rfl
theorem Qpp{x:Fact}{s v:Int}{e:Ent}(h:goodE e=true):Qjb Fact.put x s e v=some (putV x s e v):=by
 obtain⟨q,a⟩:=Qmg (x:=x) (s:=s) (v:=v) h;unfold putV;rw[a];rfl
def inE(f:Fact)(b:Int)(e:Ent):Bool:= !(decide (getV f b e<e.lo))&& !(decide (e.hi<getV f b e))
def numR(f:Fact)(b:Int):List Ent->List Int×Fact×Int->Ctl (List Int×Fact×Int) (List Int×Bool)
 |[],a=>.cont a
 |e::r,a=>bif inE f b e then numR f b r (a.1++[getV f b e],putV a.2.1 a.2.2 e (getV f b e))else .done ([],false)
theorem Qhq{α:Type}(l m:List α)(h:l.length+m.length<=1000):app l m=some (l++m):=by
 unfold app;have:Nat.ble (l.length+m.length) Qy=true:=XV (XY h (by decide));rw[this];rfl
theorem Qoc(f:Fact)(b:Int)(E:List Ent)(hE:∀e∈E,goodE e=true)(hl:E.length<=12):∀(r:List Ent) (i:Nat) (a:List Int×Fact×Int),E.drop i=r->i<=E.length->a.1.length=i->
  EvI (λn=>F_ek n f b E E) (a.1,a.2.1,a.2.2,(i:Int)) (numR f b r a):=by
 intro r
 induction r with
 |nil=>
  intro i a k p g;refine Ej ?_;unfold F_ek;simp only[YH k p,Vs];exact Qa _
 |cons e r q=>
  intro i a k p j;obtain⟨g,l⟩:=QW (by omega) k;have m:=hE e g.mem;have s:=g.lt';unfold numR;cases d:inE f b e with
  |true=>
   have h:=d;unfold inE at h;simp only[XZ,Bool.not_eq_true']at h;refine Ew ?_ (q (i+1) (a.1++[getV f b e],putV a.2.1 a.2.2 e (getV f b e)) l (by omega) (by simp[j]));unfold F_ek;simp only[g.lt,Vr,g.ix,XM,g.nx,QmQ m,h.1,h.2,Vs,Qpp m];rw[Qhq a.1 [getV f b e] (by simp;omega)];exact Qa _
  |false=>
   refine Ej ?_;unfold F_ek;simp only[g.lt,Vr,g.ix,XM,QmQ m];unfold inE at d;cases t:decide (getV f b e<e.lo)with
   |true=>exact Qa _
   |false=>
    rw[t]at d;simp only[Xh,VC,Bool.not_eq_false']at d;simp only[Vs,d,Vr];exact Qa _
def suspB(f:Fact):Int:=bif f.Appeal.Suspends then 1 else 0
def restS(f:Fact):Fact:={Up with Ruling:={Ux with Kind:=f.Ruling.Kind:Ruling},Kind:=f.Kind:Fact}
def lastF(f x:Fact)(s:Int):Fact:=
 let y:Fact:=bif f.Kind != 10 then {x with Ruling:={x.Ruling with Kind:=0:Ruling}:Fact}else x
 {y with Appeal:={Case:=y.Appeal.Case,Suspends:=s==1:Appeal}:Fact}
def numF(f:Fact):List Int×Bool:=bif fineU f (openU f)then(match numR f (suspB f) (entsS f) ([],restS f,0)with
  |.cont a=>(a.1,lastF f a.2.1 a.2.2==f)
  |.done r=>r)else([],false)
theorem Qll(n:Nat)(f:Fact):F_bk n ({Up with Ruling:={Ux with Kind:=f.Ruling.Kind:Ruling}:Fact}) 0 f=some (entsS f):=by
 have a:openU ({({Up with Ruling:={Ux with Kind:=f.Ruling.Kind:Ruling}:Fact})with Kind:=f.Kind:Fact})=openU f:=rfl;unfold F_bk entsS;rw[Qkf];simp only[XM];rw[a];unfold F_af;generalize openU f=u;cases u<;>(simp only[XM];unfold bodyL;exact congrArg (Option.bind · _) (Qhq _ _ (by simp)))
theorem Qkv(f:Fact):Ev (λn=>F_ac n f) (numF f):=by
 unfold F_ac;refine Ea (v:=suspB f) ?_ ?_
 .unfold suspB;cases f.Appeal.Suspends<;>exact Qa _
 refine Ea (v:=bif fineU f (openU f)then .cont (bodyL (openU f))else .done ([],false)) ?_ ?_
 .simp only[Qkf,XM];unfold F_b F_dc F_eg F_ds F_cz;generalize openU f=u;cases u with
  |c3=>unfold fineU;cases decide (f.Sync.Min<=f.Sync.Max)<;>exact Qa _
  |c4=>unfold fineU;cases decide (f.Hand.Lo<=f.Hand.Hi)<;>exact Qa _
  |c5=>unfold fineU;cases decide (f.Silence.Lo<=f.Silence.Hi)<;>exact Qa _
  |c6=>unfold fineU;cases decide (f.Pair.A<f.Pair.B)<;>exact Qa _
  |_=>exact Qa _
 unfold numF;cases fineU f (openU f)with
 |false=>exact Qa _
 |true=>
  simp only[Vr];have e:app headL (bodyL (openU f))=some (entsS f):=Qhq _ _ (by have:=Qfr f;unfold entsS at this;rw[X5]at this;omega);unfold F_af;simp only[XM];refine Ea (Ez e) ?_;refine Ea (Ez (Qll 0 f)) ?_;refine Ea (Qoc f (suspB f) (entsS f) (Qli f) (Qfr f) (entsS f) 0 ([],restS f,0) rfl (XX _) rfl).ev ?_;cases numR f (suspB f) (entsS f) ([],restS f,0)with
  |done r=>exact Qa _
  |cont a=>
   simp only;refine Ea (v:=bif f.Kind != 10 then {a.2.1 with Ruling:={a.2.1.Ruling with Kind:=0:Ruling}:Fact}else a.2.1) ?_ (Qa _);cases(f.Kind != 10)<;>exact Qa _
def validS(f:Fact):Bool:=(numF f).2
theorem Qcp(f:Fact):Ev (λn=>F_v n f) (bif validS f then 0 else 120):=by
 unfold F_v;refine Ea (Qkv f) ?_;unfold validS;cases(numF f).2<;>exact Qa _
theorem Qi0{f:Fact}(h:validS f=true):(f.Kind==0)=false:=by
 cases q:(f.Kind==0)with
 |false=>rfl
 |true=>
  have a:f.Kind=0:=by simpa using q
  have b:openU f=.c13 ():=by unfold openU;rw[a];rfl
  unfold validS numF at h;rw[b]at h;cases h
set_option maxRecDepth 4000
def numN(v:Nat):List Int:=if h:128<=v then orI .u8 (IntKind.u8.wrap (v:Int)) 128::numN (v/128)else[IntKind.u8.wrap (v:Int)]
termination_by v
decreasing_by omega
theorem QeT{v:Nat}(h:128<=v):numN v=orI .u8 (IntKind.u8.wrap (v:Int)) 128::numN (v/128):=by
 rw[numN,dif_pos h]
theorem QaO{v:Nat}(h:¬128<=v):numN v=[IntKind.u8.wrap (v:Int)]:=by
 rw[numN,dif_neg h]
theorem shr7(v:Nat):Yc .u64 (v:Int) 7=((v/128:Nat):Int):=by
 show Int.fdiv (v:Int) (2^7)=_;rw[Int.fdiv_eq_ediv_of_nonneg _ (by decide)];omega
theorem QmC:∀(k v:Nat),v<128^(k+1)->(numN v).length<=k+1:=by
 intro k
 induction k with
 |zero=>
  intro v a;rw[QaO (by omega)];simp
 |succ k b=>
  intro v a;by_cases h:128<=v
  .rw[QeT h,X3];have:=b (v/128) (by rw[Nat.div_lt_iff_lt_mul (by decide)];rw[Nat.pow_succ]at a;exact a);omega
  .rw[QaO h];simp
theorem Qg1:∀(k v:Nat) (l:List Int),v<128^(k+1)->l.length+k<4294967296->∃(l':List Int) (a:Nat),EvI (λn=>F_cx n) (l,(v:Int)) (l',(a:Int))/\l'++[IntKind.u8.wrap (a:Int)]=l++numN v/\l'.length<=l.length+k:=by
 intro k
 induction k with
 |zero=>
  intro v l b e;refine⟨l,v,Ej ?_,by rw[QaO (by omega)],XW _⟩;unfold F_cx;simp only[YL (show¬(128:Int)<=(v:Int)by omega),Vs];exact Qa _
 |succ k i=>
  intro v l b e;by_cases h:128<=v
  .obtain⟨l',a,f,g,d⟩:=i (v/128) (l++[orI .u8 (IntKind.u8.wrap (v:Int)) 128]) (by rw[Nat.div_lt_iff_lt_mul (by decide)];rw[Nat.pow_succ]at b;exact b) (by simp;omega);refine⟨l',a,Ew ?_ f,?_,?_⟩
   .unfold F_cx;simp only[Yt (show(128:Int)<=(v:Int)by omega),Vr,shr7];rw[Qbw l _ (by omega)];exact Qa _
   .rw[g,QeT h];simp
   .simp at d;omega
  .refine⟨l,v,Ej ?_,by rw[QaO h],by omega⟩;unfold F_cx;simp only[YL (show¬(128:Int)<=(v:Int)by omega),Vs];exact Qa _
theorem Qfo(v:Nat)(l:List Int)(a:v<18446744073709551616)(hl:l.length<=1000000):Ev (λn=>F_q n l (v:Int)) (l++numN v):=by
 obtain⟨e,g,b,d,f⟩:=Qg1 9 v l (Vh a (by decide)) (by omega);unfold F_q;refine Ea b.ev ?_;simp only;rw[Qbw e _ (by omega),d];exact Qa _
theorem QeR{v:Nat}(hv:v<18446744073709551616):(numN v).length<=10:=QmC 9 v (Vh hv (by decide))
def zigI(x:Int):Int:=Qex .u64 (QeD .u64 (IntKind.u64.wrap x) 1) (IntKind.u64.wrap (Yc .i64 x 63))
theorem wrapU(x:Int):0<=IntKind.u64.wrap x/\IntKind.u64.wrap x<18446744073709551616:=by
 have e:IntKind.u64.wrap x=x%18446744073709551616:=by
  unfold IntKind.wrap;rfl
 rw[e];omega
theorem QgO(x:Int):∃z:Nat,zigI x=(z:Int)/\z<18446744073709551616:=by
 have h:=wrapU ((BitVec.ofInt IntKind.u64.bits (QeD .u64 (IntKind.u64.wrap x) 1)^^^BitVec.ofInt IntKind.u64.bits (IntKind.u64.wrap (Yc .i64 x 63))).toNat);refine⟨(zigI x).toNat,?_,?_⟩
 .unfold zigI Qex;omega
 .unfold zigI Qex;omega
def oneB(x:Int):List Int:=1::numN (zigI x).toNat
theorem QhU(x:Int):(oneB x).length<=11:=by
 obtain⟨z,b,a⟩:=QgO x;unfold oneB;rw[b];have:=QeR a;simp;omega
theorem Qiq(l:List Int)(x:Int)(hl:l.length<=100000):Ev (λn=>F_ag n l ({Kind:=1,N:=x,S:=[],L:=[]:Value})) (l++oneB x):=by
 unfold F_ag F_al;rw[Qbw l 1 (by omega)];simp only[XM];obtain⟨z,b,d⟩:=QgO x;have a:=b;unfold zigI at a;rw[a];refine Ea (Qfo z (l++[1]) d (by simp;omega)) ((Qa _).eq ?_);unfold oneB;rw[b];simp
def mkV(x:Int):Value:={Kind:=1,N:=x,S:=[],L:=[]:Value}
def listV(l:List Int):Value:={Kind:=3,N:=0,S:=[],L:=l.map mkV:Value}
theorem Qjl(x:Int):Ev (λn=>F_f n (mkV x)) (0,true):=by
 refine Jg ?_;show Ev (λn=>B_f (F_f n) n (mkV x)) _;unfold B_f mkV;simp only;cases(x==0)with
 |true=>exact Qa _
 |false=>exact Qa _
theorem Qh9(l:List Int)(hl:l.length<=1000):Ev (λn=>F_f n (listV l)) (1,true):=by
 refine Jg ?_;show Ev (λn=>B_f (F_f n) n (listV l)) _;unfold B_f listV;simp only;refine Ea (v:=[false,(((l.map mkV).length:Int)==0),(((l.map mkV).length:Int)==0),true]) (Qa _) ?_;refine Ea (v:=false) (Qa _) ?_;refine Ea (v:=(Ctl.cont (0:Int):Ctl Int (Int×Bool))) ?_ (Qa _);refine Ev.iter (λi=>((0:Int),(i:Int))) (l.map mkV).length rfl (λi d=>?_) ?_
 .have a:=JD (x:=(l.map mkV)[i]) (show(l.map mkV).length<=4611686018427387904 by rw[X4];omega) (XN d);have b:∃y,(l.map mkV)[i]=mkV y:=by
   rw[List.getElem_map];exact⟨_,rfl⟩
  obtain⟨y,e⟩:=b;unfold F_hm;simp only[a.lt,Vr,a.ix,XM,a.nx];rw[e];exact Ea (Qjl y) (Qa _)
 .unfold F_hm;simp only[Qbt,Vs];exact Qa _
def listB(l:List Int):List Int:=[3]++numN l.length++(l.map oneB).flatten
theorem Qhh(l:List Int)(hl:l.length<=1000):Ev (λn=>F_az n (listV l)) (listB l):=by
 unfold F_az;have q:app ([]:List Int) [3]=some [3]:=rfl;rw[q];simp only[XM];have s:IntKind.u64.wrap (((listV l).L.length:Int))=((l.length:Nat):Int):=by
  have:IntKind.u64.wrap (((listV l).L.length:Int))=(((listV l).L.length:Int))%18446744073709551616:=by unfold IntKind.wrap;rfl
  rw[this];unfold listV;rw[X4];omega
 rw[s];have u:=QeR (show l.length<18446744073709551616 by omega);refine Ea (Qfo l.length [3] (by omega) (by simp)) ?_;refine Ea (v:=listB l) ?_ (Qa _);have k:∀m:List Int,(m.map oneB).flatten.length<=11*m.length:=by
  intro m
  induction m with
  |nil=>simp
  |cons x m d=>
   have:=QhU x;simp only[Vl,Vn,X5,X3];omega
 have h:=Yq (step:=λn=>F_gm n (listV l)) (l.map mkV) (λ(a:List Int) (v:Value)=>a++oneB v.N) ([3]++numN l.length) (λa i=>(a,(i:Int))) (λa=>a) (by rw[X4];omega) rfl (λi x a e p=>?_) ?_
 .refine Ev.eq h ?_;have:∀(m:List Int) (a:List Int),(m.map mkV).foldl (λ(a:List Int) (v:Value)=>a++oneB v.N) a=a++(m.map oneB).flatten:=by
   intro m
   induction m with
   |nil=>intro a;simp
   |cons x m d=>intro a;simp only[Vl,XG,Vn];rw[d];simp[mkV]
  rw[this];rfl
 .have r:∃y,x=mkV y:=by
   obtain⟨y,_,t⟩:=Xe.1 e.mem;exact⟨y,t.symm⟩
  obtain⟨y,rfl⟩:=r;have f:a.length<=100000:=by
   have:∀(m:List Int) (a:List Int),((m.map mkV).foldl (λ(a:List Int) (v:Value)=>a++oneB v.N) a).length<=a.length+11*m.length:=by
    intro m
    induction m with
    |nil=>intro a;simp
    |cons x m d=>
     intro a;simp only[Vl,XG,X3];have w:=d (a++oneB (mkV x).N);have g:=QhU (mkV x).N;rw[X5]at w;omega
   have g:=this (l.take i) ([3]++numN l.length);rw[List.map_take, <- p,X5,Xz]at g;simp at g;omega
  unfold F_gm;have b:decide ((i:Int)<((listV l).L.length:Int))=true:=e.lt;have j:idx (listV l).L (i:Int)=some (mkV y):=e.ix;simp only[b,Vr,j,XM,e.nx];refine Ea (Qiq a y f) ?_;exact Qa _
 .unfold F_gm;have b:decide (((l.map mkV).length:Int)<((listV l).L.length:Int))=false:=Qbt _;simp only[b,Vs];exact Qa _
theorem QmB{f:Fact}{b:Int}:∀(r:List Ent) (a c:List Int×Fact×Int),numR f b r a=.cont c->c.1.length=a.1.length+r.length:=by
 intro r
 induction r with
 |nil=>intro a c h;cases h;rfl
 |cons e r d=>
  intro a c h;unfold numR at h;cases q:inE f b e with
  |false=>rw[q]at h;cases h
  |true=>
   rw[q]at h;have:=d _ _ h;simp at this;rw[this,X3];omega
theorem QmD(f:Fact):(numF f).1.length<=12:=by
 unfold numF;cases fineU f (openU f)with
 |false=>simp
 |true=>
  simp only[Vr];cases h:numR f (suspB f) (entsS f) ([],restS f,0)with
  |cont a=>
   have:=QmB _ _ _ h;have:=Qfr f;simp at*;omega
  |done r=>
   have:∀(E:List Ent) (a:List Int×Fact×Int),numR f (suspB f) E a=.done r->r=([],false):=by
    intro E
    induction E with
    |nil=>intro a h;cases h
    |cons e E ih=>
     intro a h;unfold numR at h;cases q:inE f (suspB f) e with
     |false=>rw[q]at h;cases h;rfl
     |true=>rw[q]at h;exact ih _ h
   rw[this _ _ h];simp
def encF(f:Fact):List Int×Int:=bif validS f then(listB (numF f).1,0)else([],120)
theorem Qgt(f:Fact):Ev (λn=>F_aj n f) (encF f):=by
 unfold F_aj;refine Ea (Qkv f) ?_;have l:=QmD f;unfold encF validS;generalize numF f=r at*;cases h:r.2 with
 |false=>exact Qa _
 |true=>
  simp only[Xg,Vs,Vr];refine Ea (v:=r.1.map mkV) ?_ ?_
  .refine Ev.eq (Yq r.1 (λ(a:List Value) (x:Int)=>a++[mkV x]) [] (λa i=>(a,(i:Int))) (λa=>a) (by omega) rfl (λi x a b j=>?_) ?_) ?_
   .unfold F_hk;simp only[b.lt,Vr,b.ix,XM,b.nx];have g:a.length<=12:=by
     have:∀(m:List Int) (a:List Value),(m.foldl (λ(a:List Value) (x:Int)=>a++[mkV x]) a).length=a.length+m.length:=by
      intro m
      induction m with
      |nil=>intro a;simp
      |cons x m d=>intro a;simp only[XG,X3];rw[d];simp;omega
     rw[j,this,Xz];simp;omega
    have e:=Qbw a (mkV x) (by omega);unfold mkV at e;rw[e];exact Qa _
   .unfold F_hk;simp only[Qbt,Vs];exact Qa _
   .have:∀(m:List Int) (a:List Value),m.foldl (λ(a:List Value) (x:Int)=>a++[mkV x]) a=a++m.map mkV:=by
     intro m
     induction m with
     |nil=>intro a;simp
     |cons x m d=>intro a;simp only[XG,Vl];rw[d];simp
    rw[this];rfl
  refine Ea (v:=(listB r.1,0)) ?_ (Qa _);have k:=Qh9 r.1 (by omega);unfold F_eo F_ee;have e:({Kind:=3,N:=0,S:=[],L:=r.1.map mkV:Value})=listV r.1:=rfl;rw[e];refine Ea (v:=0) (Ea k (Qa _)) ?_;unfold F_el;exact Ea (Qhh r.1 (by omega)) (Qa _)
def cmpI(a b:Int):Int:=bif decide (a<b)then-1 else bif decide (b<a)then 1 else 0
theorem Qhk(n:Nat)(a b:Int):F_j n a b=some (cmpI a b):=by
 unfold F_j F_ao cmpI;simp only[XM,bne_self_eq_false,Vs];cases decide (a<b)with
 |true=>rfl
 |false=>cases decide (b<a)<;>rfl
def orL:List Int->Int
 |[]=>0
 |x::r=>bif x != 0 then x else orL r
theorem ev_or(l:List Int)(hl:l.length<=1000):Ev (λn=>F_cg n l) (orL l):=by
 unfold F_cg;have loop:∀(r:List Int) (i:Nat),l.drop i=r->i<=l.length->EvI (λn=>F_dt n l) (i:Int) (bif orL r==0 then Ctl.cont ()else Ctl.done (orL r)):=by
  intro r
  induction r with
  |nil=>
   intro i b f;refine Ej ?_;unfold F_dt;simp only[YH b f,Vs];exact Qa _
  |cons x r g=>
   intro i b f;obtain⟨a,d⟩:=QW (by omega) b;have j:=a.lt';unfold orL;cases q:(x != 0)with
   |true=>
    have e:(x==0)=false:=by simpa[bne]using q
    simp only[Vr,e,Vs];refine Ej ?_;unfold F_dt;simp only[a.lt,Vr,a.ix,XM,q];exact Qa _
   |false=>
    simp only[Vs];refine Ew ?_ (g (i+1) d (by omega));unfold F_dt;simp only[a.lt,Vr,a.ix,XM,q,Vs,a.nx];exact Qa _
 refine Ea (loop l 0 rfl (XX _)).ev ?_;cases h:(orL l==0)with
 |true=>
  have e:orL l=0:=by simpa using h
  rw[e];exact Qa _
 |false=>exact Qa _
def cmpF(f g:Fact):Int:=bif orL [cmpI f.At g.At,cmpI f.Crew g.Crew,cmpI f.No g.No] != 0 then orL [cmpI f.At g.At,cmpI f.Crew g.Crew,cmpI f.No g.No]else cmpB (encF f).1 (encF g).1
theorem Qfp(f g:Fact):Ev (λn=>F_x n f g) (cmpF f g):=by
 unfold F_x cmpF;simp only[Qhk,XM];refine Ea (ev_or _ (by simp)) ?_;cases(orL [cmpI f.At g.At,cmpI f.Crew g.Crew,cmpI f.No g.No] != 0)with
 |true=>exact Qa _
 |false=>
  simp only[Vs];refine Ea (Qgt f) (Ea (Qgt g) ?_);exact Qa _
def okS(c:Course)(f:Fact):Bool:=(f.Kind==1)&&(validS f&&(!decide ((c.Distances.length:Int)<=f.Starter.Distance)&& !decide ((c.Waves.length:Int)<=f.Starter.Wave)))
theorem QhX{β:Type}(m:List (Int×β))(k:Int):QaG m k=(YC m k).isSome:=by
 unfold QaG YC;rw[Option.isSome_map]
 induction m with
 |nil=>rfl
 |cons p m a=>
  rw[List.any_cons,List.find?_cons,a];cases decide (p.1=k)<;>rfl
theorem QhY{β:Type}(m:List (Int×β))(k:Int):k∈m.map Prod.fst↔ ∃v,YC m k=some v:=by
 have h:=QhX m k;rw[<- Option.isSome_iff_exists, <- h];unfold QaG;simp only[Xu,Vt,Xe]
theorem QmE{β:Type}(m:List (Int×β))(k:Int)(v:β):(QG m k v).length<=m.length+1:=by
 have:=congrArg List.length (Qdy m k v);rw[X4]at this;rw[this];split<;>simp
theorem Qjf{β:Type}{m:List (Int×β)}(k:Int)(v:β)(h:(m.map Prod.fst).Nodup):((QG m k v).map Prod.fst).Nodup:=by
 have e:=Qdy m k v;have i:(QG m k v).map Prod.fst=if k∈m.map Prod.fst then m.map Prod.fst else m.map Prod.fst++[k]:=e
 rw[i];split
 .exact h
 .rename_i f;rw[List.nodup_append];refine⟨h,by simp,λa g b d=>?_⟩;rw[VD]at d;rintro rfl;exact f (d▸g)
theorem Qk3{l m:List Int}(h:l.Perm m):YG ltI l=YG ltI m:=
 Jk ((Qn ltI l).trans (h.trans (Qn ltI m).symm)) (λx _ y _ a b=>by simp[ltI]at*;omega) (QR (QcX l)) (QR (QcX m))
theorem Qeo{n:Nat}(h:n<=1048576):Nat.ble n Qy=true:=XV (XY h (by decide))
theorem QoA{a b:Int}:cmpI a b<0↔a<b:=by
 unfold cmpI;by_cases h:a<b
 .rw[Vw h];simp[h]
 .rw[Vz h];by_cases d:b<a
  .rw[Vw d];simp;omega
  .rw[Vz d];simp;omega
theorem Qp9{a b:Int}:cmpI a b=0↔a=b:=by
 unfold cmpI;by_cases h:a<b
 .rw[Vw h];simp;omega
 .rw[Vz h];by_cases d:b<a
  .rw[Vw d];simp;omega
  .rw[Vz d];simp;omega
set_option maxRecDepth 4000
theorem Qob(f:Fact)(b:Int):∀(E:List Ent) (a:List Int×Fact×Int),numR f b E a=bif E.all (inE f b)then .cont (a.1++E.map (getV f b),E.foldl (λp e=>putV p.1 p.2 e (getV f b e)) a.2)else .done ([],false):=by
 intro E
 induction E with
 |nil=>intro a;simp[numR]
 |cons e E ih=>
  intro a;unfold numR;rw[List.all_cons];cases h:inE f b e with
  |false=>rfl
  |true=>
   simp only[Vr,VC,Vl,XG];rw[ih];simp
def onlyS(f:Fact):Fact:={Crew:=f.Crew,No:=f.No,At:=f.At,Kind:=f.Kind,Starter:=(bif f.Kind==1 then f.Starter else Up.Starter),Read:=(bif f.Kind==2 then f.Read else Up.Read),Beacon:=(bif f.Kind==3 then f.Beacon else Up.Beacon),Sync:=(bif f.Kind==4 then f.Sync else Up.Sync),Hand:=(bif f.Kind==5 then f.Hand else Up.Hand),Silence:=(bif f.Kind==6 then f.Silence else Up.Silence),Pair:=(bif f.Kind==7 then f.Pair else Up.Pair),Report:=(bif f.Kind==8 then f.Report else Up.Report),Protest:=(bif f.Kind==9 then f.Protest else Up.Protest),Ruling:=(bif f.Kind==10 then f.Ruling else Up.Ruling),Appeal:=(bif f.Kind==11 then f.Appeal else Up.Appeal),Void:=(bif f.Kind==13 then f.Void else Up.Void):Fact}
def numsS(f:Fact):List Int:=[f.Kind,f.Crew,f.No,f.At]++(
 bif f.Kind==1 then[f.Starter.Bib,f.Starter.Distance,f.Starter.Wave,f.Starter.Slot,f.Starter.Age,f.Starter.Chip,f.Starter.Team,f.Starter.Lot]
 else bif f.Kind==2 then[f.Read.Mat,f.Read.Epoch,f.Read.Chip,f.Read.Local]
 else bif f.Kind==3 then[f.Beacon.Mat,f.Beacon.Epoch,f.Beacon.Local,f.Beacon.True,f.Beacon.Err]
 else bif f.Kind==4 then[f.Sync.MatA,f.Sync.EpochA,f.Sync.LocalA,f.Sync.MatB,f.Sync.EpochB,f.Sync.LocalB,f.Sync.Min,f.Sync.Max]
 else bif f.Kind==5 then[f.Hand.Bib,f.Hand.Position,f.Hand.Lo,f.Hand.Hi]
 else bif f.Kind==6 then[f.Silence.Mat,f.Silence.Epoch,f.Silence.Lo,f.Silence.Hi]
 else bif f.Kind==7 then[f.Pair.A,f.Pair.B]
 else bif f.Kind==8 then[f.Report.Case,f.Report.Bib,f.Report.Offence,f.Report.Position]
 else bif f.Kind==9 then[f.Protest.Case,f.Protest.By,f.Protest.Fee,f.Protest.Form]
 else bif f.Kind==10 then[f.Ruling.Case,f.Ruling.Instance,f.Ruling.Kind,f.Ruling.Bib,f.Ruling.Position,f.Ruling.Amount]
 else bif f.Kind==11 then[f.Appeal.Case,suspB f]
 else bif f.Kind==13 then[f.Void.Crew,f.Void.No]else[])
theorem kinds(f:Fact):f.Kind=1\/f.Kind=2\/f.Kind=3\/f.Kind=4\/f.Kind=5\/f.Kind=6\/f.Kind=7\/f.Kind=8\/f.Kind=9\/f.Kind=10\/f.Kind=11\/f.Kind=12\/f.Kind=13\/openU f=.c13 ():=by
 by_cases p:f.Kind=1; · exact .inl p
 by_cases i:f.Kind=2; · exact .inr (.inl i)
 by_cases k:f.Kind=3; · exact .inr (.inr (.inl k))
 by_cases m:f.Kind=4; · exact .inr (.inr (.inr (.inl m)))
 by_cases j:f.Kind=5; · exact .inr (.inr (.inr (.inr (.inl j))))
 by_cases h:f.Kind=6; · exact .inr (.inr (.inr (.inr (.inr (.inl h)))))
 by_cases n:f.Kind=7; · exact .inr (.inr (.inr (.inr (.inr (.inr (.inl n))))))
 by_cases g:f.Kind=8; · exact .inr (.inr (.inr (.inr (.inr (.inr (.inr (.inl g)))))))
 by_cases l:f.Kind=9; · exact .inr (.inr (.inr (.inr (.inr (.inr (.inr (.inr (.inl l))))))))
 by_cases d:f.Kind=10; · exact .inr (.inr (.inr (.inr (.inr (.inr (.inr (.inr (.inr (.inl d)))))))))
 by_cases a:f.Kind=11; · exact .inr (.inr (.inr (.inr (.inr (.inr (.inr (.inr (.inr (.inr (.inl a))))))))))
 by_cases e:f.Kind=12; · exact .inr (.inr (.inr (.inr (.inr (.inr (.inr (.inr (.inr (.inr (.inr (.inl e)))))))))))
 by_cases b:f.Kind=13; · exact .inr (.inr (.inr (.inr (.inr (.inr (.inr (.inr (.inr (.inr (.inr (.inr (.inl b))))))))))))
 refine .inr (.inr (.inr (.inr (.inr (.inr (.inr (.inr (.inr (.inr (.inr (.inr (.inr ?_))))))))))));unfold openU;simp only[VB.2 p,VB.2 i,VB.2 k,VB.2 m,VB.2 j,VB.2 h,VB.2 n,VB.2 g,VB.2 l,VB.2 d,VB.2 a,VB.2 e,VB.2 b,Vs]
def copyS(f:Fact):Fact×Int:=(entsS f).foldl (λp e=>putV p.1 p.2 e (getV f (suspB f) e)) (restS f,0)
theorem Qg2(f:Fact):numF f=bif fineU f (openU f)then(bif (entsS f).all (inE f (suspB f))then((entsS f).map (getV f (suspB f)),lastF f (copyS f).1 (copyS f).2==f)else([],false))else([],false):=by
 unfold numF;rw[Qob];cases fineU f (openU f)with
 |false=>rfl
 |true=>
  simp only[Vr];cases(entsS f).all (inE f (suspB f))with
  |false=>rfl
  |true=>simp only[Vr,Vj];rfl
theorem QdB(f:Fact)(h:¬openU f=.c13 ()):lastF f (copyS f).1 (copyS f).2=onlyS f/\(entsS f).map (getV f (suspB f))=numsS f:=by
 rcases kinds f with k|k|k|k|k|k|k|k|k|k|k|k|k|k
 case inr.inr.inr.inr.inr.inr.inr.inr.inr.inr.inl=>
  obtain⟨Cr,No,At,Ki,S,R,B,Sy,Ha,Si,Pa,Re,Pr,Ru,⟨Ca,Su⟩,Vo⟩:=f;simp only at k;subst k;cases Su<;>exact⟨by kernel_rfl,by kernel_rfl⟩
 case inr.inr.inr.inr.inr.inr.inr.inr.inr.inl=>
  obtain⟨Cr,No,At,Ki,S,R,B,Sy,Ha,Si,Pa,Re,Pr,⟨b,j,a,e,d,i⟩,Ap,Vo⟩:=f;simp only at k;subst k;have:∃x,openU ⟨Cr,No,At,10,S,R,B,Sy,Ha,Si,Pa,Re,Pr,⟨b,j,a,e,d,i⟩,Ap,Vo⟩=.c9 x:=by
   unfold openU;show∃x,(bif (a==1)||(a==2)then U_facts_open_rxk.c9 (0,0,0,0,0,0)else bif a==3 then .c9 (1,9999,0,255,1,1099511627776)else bif a==4 then .c9 (1,9999,0,255,1,64)else .c9 (1,9999,0,255,0,0))=.c9 x;cases((a==1)||(a==2))with
   |true=>exact⟨_,rfl⟩
   |false=>
    cases(a==3)with
    |true=>exact⟨_,rfl⟩
    |false=>cases(a==4)<;>exact⟨_,rfl⟩
  obtain⟨x,g⟩:=this;unfold copyS entsS;rw[g];exact⟨by kernel_rfl,by kernel_rfl⟩
 case inr.inr.inr.inr.inr.inr.inr.inr.inr.inr.inr.inr.inr=>exact absurd k h
 all_goals
  obtain⟨Cr,No,At,Ki,S,R,B,Sy,Ha,Si,Pa,Re,Pr,Ru,Ap,Vo⟩:=f;simp only at k;subst k;exact⟨by kernel_rfl,by kernel_rfl⟩
def contS(f:Fact):Bool:=fineU f (openU f)&&(bodyL (openU f)).all (inE f (suspB f))
def headS(f:Fact):Bool:=headL.all (inE f (suspB f))
theorem Qdm(f:Fact):validS f=(headS f&&contS f&&(onlyS f==f)):=by
 unfold validS contS headS;rw[Qg2];by_cases h:openU f=.c13 ()
 .have:fineU f (openU f)=false:=by rw[h];rfl
  rw[this];simp
 .obtain⟨a,b⟩:=QdB f h;rw[a];unfold entsS;rw[List.all_append];cases fineU f (openU f)with
  |false=>simp
  |true=>
   cases headL.all (inE f (suspB f))with
   |false=>rfl
   |true=>cases(bodyL (openU f)).all (inE f (suspB f))<;>rfl
theorem QiZ{f:Fact}(h:validS f=true):(numF f).1=numsS f:=by
 have e:=h;unfold validS at h;rw[Qg2]at h⊢;by_cases q:openU f=.c13 ()
 .have:fineU f (openU f)=false:=by rw[q];rfl
  rw[this]at h;cases h
 .obtain⟨g,d⟩:=QdB f q;cases a:fineU f (openU f)with
  |false=>rw[a]at h;cases h
  |true=>
   rw[a]at h;cases b:(entsS f).all (inE f (suspB f))with
   |false=>rw[b]at h;cases h
   |true=>exact d
theorem Qey{f:Fact}(h:validS f=true):onlyS f=f:=by
 rw[Qdm]at h;simp only[XZ,VA]at h;exact h.2
theorem QmA{f g:Fact}(a:validS f=true)(hg:validS g=true)(h:numsS f=numsS g):f=g:=by
 have i:=Qey a;have n:=Qey hg;rw[<- i, <- n];unfold numsS at h;have m:f.Kind=g.Kind:=by
  simp only[VM,List.cons.injEq]at h;exact h.1
 have R:=Qi0 a;rcases kinds f with k|k|k|k|k|k|k|k|k|k|k|k|k|k
 case inr.inr.inr.inr.inr.inr.inr.inr.inr.inr.inr.inr.inr=>
  rw[Qdm]at a;unfold contS at a;rw[k]at a;simp[fineU]at a
 all_goals
  have e:=m.symm.trans k;clear a hg m R i n;obtain⟨Cr,No,At,Ki,⟨s1,s2,s3,s4,s5,s6,s7,s8⟩,⟨a0,al,av,am⟩,⟨b1,b2,b3,b4,b5⟩,⟨y1,y2,y3,y4,y5,y6,y7,y8⟩,⟨h1,h2,h3,h4⟩,⟨i1,i2,i3,i4⟩,⟨p1,p2⟩,⟨u1,u2,u3,u4⟩,⟨o1,o2,o3,o4⟩,⟨r1,r2,r3,r4,r5,r6⟩,⟨a1,a2⟩,⟨v1,v2⟩⟩:=f;obtain⟨Cr',No',At',Ki',⟨u,x,ag,ai,aj,P,T,aq⟩,⟨p,d,j,l⟩,⟨s,a4,W,az,af⟩,⟨O,ah,aa,X,ax,B,w,ar⟩,⟨F,G,ak,q⟩,⟨t,ae,an,a3⟩,⟨V,Y⟩,⟨L,E,y,au⟩,⟨ac,M,a5,H⟩,⟨z,ao,aw,J,Q,ab⟩,⟨N,b⟩,⟨ay,r⟩⟩:=g;simp only at k e;subst k;subst e
  first
   |(simp[suspB]at h;simp[onlyS,h];done)
   |(cases a2<;>cases b<;>simp[suspB]at h<;>simp[onlyS,h])
set_option maxRecDepth 4000
theorem QgQ(x:Int):IntKind.u64.wrap x=x%18446744073709551616:=by unfold IntKind.wrap;rfl
theorem QiY(x:Int):IntKind.u8.wrap x=x%256:=by unfold IntKind.wrap;rfl
theorem or8(a b:Int):orI .u8 a b=(((BitVec.ofInt 8 a|||BitVec.ofInt 8 b).toNat:Nat):Int)%256:=by unfold orI;exact QiY _
theorem QoQ(a b:Int):Qex .u64 a b=(((BitVec.ofInt 64 a^^^BitVec.ofInt 64 b).toNat:Nat):Int)%18446744073709551616:=by unfold Qex;exact QgQ _
theorem or128(v:Nat):orI .u8 (IntKind.u8.wrap (v:Int)) 128=((v%128+128:Nat):Int):=by
 have a:∀m:Fin 256,((BitVec.ofNat 8 m.val|||128#8).toNat)=m.val%128+128:=by decide
 have d:v%256<256:=Nat.mod_lt _ (by decide);have k:(BitVec.ofNat 8 (v%256)|||128#8).toNat=v%256%128+128:=a ⟨v%256,d⟩;have e:BitVec.ofInt 8 ((v:Int)%256)=BitVec.ofNat 8 (v%256):=by
  have:((v:Int)%256)=((v%256:Nat):Int):=by omega
  rw[this];exact BitVec.ofInt_natCast 8 (v%256)
 have b:BitVec.ofInt 8 128=128#8:=by rfl
 rw[or8,QiY,e,b,k];omega
theorem Qdx(v:Nat):numN v=if 128<=v then((v%128+128:Nat):Int)::numN (v/128)else[(v:Int)]:=by
 by_cases h:128<=v
 .rw[QeT h,Vv h,or128]
 .rw[QaO h,Vu h,QiY];congr 1;omega
theorem QhW:∀(v w:Nat) (a b:List Int),numN v++a=numN w++b->v=w/\a=b:=by
 intro v
 induction v using Nat.strongRecOn with
 |_ v g=>
 intro w a b h;rw[Qdx v,Qdx w]at h;by_cases e:128<=v
 .rw[Vv e]at h;by_cases d:128<=w
  .rw[Vv d]at h;simp only[VM,List.cons.injEq]at h;obtain⟨i,f⟩:=g (v/128) (by omega) (w/128) a b h.2;exact⟨by omega,f⟩
  .rw[Vu d]at h;simp only[VM,List.cons.injEq]at h;omega
 .rw[Vu e]at h;by_cases d:128<=w
  .rw[Vv d]at h;simp only[VM,List.cons.injEq]at h;omega
  .rw[Vu d]at h;simp only[VM,List.cons.injEq,Vj]at h;exact⟨by omega,h.2⟩
theorem QeS:∀(v:Nat),∀x∈numN v,0<=x/\x<256:=by
 intro v
 induction v using Nat.strongRecOn with
 |_ v d=>
 intro x a;rw[Qdx v]at a;by_cases b:128<=v
 .rw[Vv b]at a;rcases X8.1 a with rfl|a
  .omega
  .exact d (v/128) (by omega) x a
 .rw[Vu b]at a;rcases X8.1 a with rfl|a
  .omega
  .cases a
theorem QgN{x:Int}(h0:0<=x)(e:x<9223372036854775808):zigI x=2*x:=by
 unfold zigI QeD;have a:Yc .i64 x 63=0:=by
  show Int.fdiv x (2^63)=0;rw[Int.fdiv_eq_ediv_of_nonneg _ (by decide)];omega
 have b:(2:Int)^(min (1:Int).toNat IntKind.u64.bits)=2:=by decide
 rw[a,b,QoQ];simp only[QgQ];have d:BitVec.ofInt 64 ((0:Int)%18446744073709551616)=0#64:=by rfl
 rw[d,BitVec.xor_zero,BitVec.toNat_ofInt];omega
theorem QgP{x:Int}(h0:x<0)(e: -9223372036854775808<=x):zigI x= -2*x-1:=by
 unfold zigI QeD;have a:Yc .i64 x 63= -1:=by
  show Int.fdiv x (2^63)= -1;rw[Int.fdiv_eq_ediv_of_nonneg _ (by decide)];omega
 have b:(2:Int)^(min (1:Int).toNat IntKind.u64.bits)=2:=by decide
 rw[a,b,QoQ];simp only[QgQ];have d:BitVec.ofInt 64 ((-1:Int)%18446744073709551616)=BitVec.allOnes 64:=by decide
 rw[d,BitVec.xor_allOnes,BitVec.toNat_not,BitVec.toNat_ofInt];omega
def in63(x:Int):Prop:= -9223372036854775808<=x/\x<9223372036854775808
theorem Qn3{x y:Int}(e:in63 x)(f:in63 y)(h:zigI x=zigI y):x=y:=by
 obtain⟨a,b⟩:=e;obtain⟨c,d⟩:=f;by_cases p:0<=x
 .rw[QgN p b]at h;by_cases q:0<=y
  .rw[QgN q d]at h;omega
  .rw[QgP (by omega) c]at h;omega
 .rw[QgP (by omega) a]at h;by_cases q:0<=y
  .rw[QgN q d]at h;omega
  .rw[QgP (by omega) c]at h;omega
theorem QhT:∀(l m:List Int),l.length=m.length->(∀x∈l,in63 x)->(∀x∈m,in63 x)->(l.map oneB).flatten=(m.map oneB).flatten->l=m
 |[],[],_,_,_,_=>rfl
 |x::l,y::m,hl,h1,h2,h=>by
  simp only[Vl,Vn,oneB,VM,List.cons.injEq,true_and]at h;obtain⟨e1,e2⟩:=QhW _ _ _ _ h;obtain⟨z,p1,p2⟩:=QgO x;obtain⟨z',q1,q2⟩:=QgO y;rw[p1,q1]at e1;have:x=y:=Qn3 (h1 x (by simp)) (h2 y (by simp)) (by rw[p1,q1]at*;simp only[Int.toNat_natCast]at e1;omega);rw[this,QhT l m (by simpa using hl) (λz hz=>h1 z (by simp[hz])) (λz hz=>h2 z (by simp[hz])) e2]
theorem Qk1{l m:List Int}(e:∀x∈l,in63 x)(d:∀x∈m,in63 x)(h:listB l=listB m):l=m:=by
 unfold listB at h;rw[Vk,Vk]at h;simp only[VM,Vj,List.cons.injEq,true_and]at h;obtain⟨b,a⟩:=QhW _ _ _ _ h;exact QhT l m b e d a
theorem QdW(l:List Int):∀x∈listB l,0<=x/\x<256:=by
 intro x a;unfold listB at a;simp only[VF,VD,List.mem_flatten,Xe]at a;rcases a with(rfl|a)|⟨m,⟨y,_,rfl⟩,a⟩
 .omega
 .exact QeS _ x a
 .unfold oneB at a;rcases X8.1 a with rfl|a
  .omega
  .exact QeS _ x a
structure CmpOK {α:Type} (c:α->α->Int):Prop where
 swap:∀x y,c y x= -c x y
 trans:∀x y z,c x y<0->c y z<0->c x z<0
 eqt:∀x y z,c x y=0->c x z=c y z
section
variable {α:Type} {c d:α->α->Int}
theorem CmpOK.refl(h:CmpOK c)(x:α):c x x=0:=by have:=h.swap x x;omega
theorem CmpOK.eqr(h:CmpOK c){x y:α}(z:α)(e:c x y=0):c z x=c z y:=by
 rw[h.swap x z,h.swap y z,h.eqt x y z e]
theorem QdM(h:CmpOK c)(k:CmpOK d):CmpOK λx y=>bif c x y != 0 then c x y else d x y:=by
 refine⟨λx y=>?_,λx y z=>?_,λx y z=>?_⟩
 .show(bif c y x != 0 then c y x else d y x)= -(bif c x y != 0 then c x y else d x y);have e:=h.swap x y;by_cases q:c x y=0
  .have f:c y x=0:=by omega
   rw[q,f];exact k.swap x y
  .have f:¬c y x=0:=by omega
   rw[bne_iff_ne.2 q,bne_iff_ne.2 f];exact e
 .show(bif c x y != 0 then c x y else d x y)<0->(bif c y z != 0 then c y z else d y z)<0->(bif c x z != 0 then c x z else d x z)<0;by_cases q:c x y=0
  .have e:=h.eqt x y z q;rw[q,e];by_cases f:c y z=0
   .rw[f];exact k.trans x y z
   .rw[bne_iff_ne.2 f];intro _ b;exact b
  .rw[bne_iff_ne.2 q];by_cases f:c y z=0
   .have e:=h.eqr x f;rw[f, <- e,bne_iff_ne.2 q];intro a _;exact a
   .rw[bne_iff_ne.2 f];intro a b;have:=h.trans x y z a b;rw[bne_iff_ne.2 (show¬c x z=0 by omega)];exact this
 .show(bif c x y != 0 then c x y else d x y)=0->(bif c x z != 0 then c x z else d x z)=(bif c y z != 0 then c y z else d y z);by_cases q:c x y=0
  .rw[q,h.eqt x y z q];intro e;have e:d x y=0:=e;rw[k.eqt x y z e]
  .rw[bne_iff_ne.2 q];intro e;exact absurd e q
theorem CmpOK.on{β:Type}(h:CmpOK c)(f:β->α):CmpOK λx y=>c (f x) (f y):=
 ⟨λx y=>h.swap _ _,λx y z=>h.trans _ _ _,λx y z=>h.eqt _ _ _⟩
end
theorem cmpI_ok:CmpOK cmpI:=by
 have e:∀a b,cmpI a b=if a<b then-1 else if b<a then 1 else 0:=by
  intro a b;unfold cmpI;by_cases h:a<b
  .rw[Vw h,Vv h];rfl
  .rw[Vz h,Vu h];by_cases d:b<a
   .rw[Vw d,Vv d];rfl
   .rw[Vz d,Vu d];rfl
 refine⟨λx y=>?_,λx y z=>?_,λx y z=>?_⟩
 .rw[e,e];split<;>split<;>omega
 .rw[e,e,e];intro a b;have f:x<y:=by
   by_cases q:x<y
   .exact q
   .rw[Vu q]at a;split at a<;>omega
  have d:y<z:=by
   by_cases q:y<z
   .exact q
   .rw[Vu q]at b;split at b<;>omega
  rw[Vv (by omega)];omega
 .rw[e x y];intro h;have:x=y:=by
   by_cases q:x<y
   .rw[Vv q]at h;omega
   .rw[Vu q]at h;split at h<;>omega
  rw[this]
theorem cb_ok:CmpOK Lib.compareBytes:=by
 have l:∀x y:List UInt8,Lib.compareBytes y x= -Lib.compareBytes x y:=by
  intro x
  induction x with
  |nil=>intro y;cases y<;>simp[Lib.compareBytes]
  |cons a x f=>
   intro y;cases y with
   |nil=>simp[Lib.compareBytes]
   |cons b y=>
    unfold Lib.compareBytes;by_cases h:a<b
    .have j:¬b<a:=by rw[UInt8.lt_iff_toNat_lt]at*;omega
     rw[Vv h,Vu j,Vv h];rfl
    .rw[Vu h];by_cases g:b<a
     .rw[Vv g,Vu h,Vv g]
     .rw[Vu g,Vu g,Vu h];exact f y
 have eq:∀x y:List UInt8,Lib.compareBytes x y=0->x=y:=by
  intro x
  induction x with
  |nil=>intro y h;cases y with
   |nil=>rfl
   |cons b y=>simp[Lib.compareBytes]at h
  |cons a x f=>
   intro y h;cases y with
   |nil=>simp[Lib.compareBytes]at h
   |cons b y=>
    unfold Lib.compareBytes at h;by_cases q:a<b
    .rw[Vv q]at h;omega
    .rw[Vu q]at h;by_cases e:b<a
     .rw[Vv e]at h;omega
     .rw[Vu e]at h;have:a=b:=by
       rw[UInt8.lt_iff_toNat_lt]at q e;exact UInt8.toNat_inj.1 (by omega)
      rw[this,f y h]
 refine⟨l,?_,λx y z h=>by rw[eq x y h]⟩;intro x
 induction x with
 |nil=>
  intro y z h k;cases y with
  |nil=>simp[Lib.compareBytes]at h
  |cons b y=>cases z with
   |nil=>simp[Lib.compareBytes]at k
   |cons d z=>simp[Lib.compareBytes]
 |cons a x f=>
  intro y z h k;cases y with
  |nil=>simp[Lib.compareBytes]at h
  |cons b y=>
   cases z with
   |nil=>simp[Lib.compareBytes]at k
   |cons d z=>
    unfold Lib.compareBytes at h k⊢;simp only[UInt8.lt_iff_toNat_lt]at*;by_cases q:a.toNat<b.toNat
    .by_cases r:b.toNat<d.toNat
     .rw[Vv (by omega)];omega
     .rw[Vu r]at k;by_cases i:d.toNat<b.toNat
      .rw[Vv i]at k;omega
      .rw[Vv (by omega)];omega
    .rw[Vu q]at h;by_cases e:b.toNat<a.toNat
     .rw[Vv e]at h;omega
     .rw[Vu e]at h;by_cases r:b.toNat<d.toNat
      .rw[Vv (by omega)];omega
      .rw[Vu r]at k;by_cases i:d.toNat<b.toNat
       .rw[Vv i]at k;omega
       .rw[Vu i]at k;rw[Vu (by omega),Vu (by omega)];exact f y z h k
theorem Qo5:∀{x y:List UInt8},Lib.compareBytes x y=0->x=y
 |[],[],_=>rfl
 |[],_::_,h=>by simp[Lib.compareBytes]at h
 |_::_,[],h=>by simp[Lib.compareBytes]at h
 |a::x,b::y,h=>by
  unfold Lib.compareBytes at h;by_cases q:a<b
  .rw[Vv q]at h;omega
  .rw[Vu q]at h;by_cases q2:b<a
   .rw[Vv q2]at h;omega
   .rw[Vu q2]at h;have:a=b:=by
     rw[UInt8.lt_iff_toNat_lt]at q q2;exact UInt8.toNat_inj.1 (by omega)
    rw[this,Qo5 h]
theorem Qgz:∀{l m:List Int},(∀x∈l,0<=x/\x<256)->(∀x∈m,0<=x/\x<256)->l.map Qbu=m.map Qbu->l=m
 |[],[],_,_,_=>rfl
 |[],_::_,_,_,h=>by simp at h
 |_::_,[],_,_,h=>by simp at h
 |x::l,y::m,h1,h2,h=>by
  simp only[Vl,List.cons.injEq]at h;have a1:=h1 x (by simp);have a2:=h2 y (by simp);have e:=congrArg UInt8.toNat h.1;unfold Qbu at e;rw[UInt8.toNat_ofNat',UInt8.toNat_ofNat']at e;have:x=y:=by omega
  rw[this,Qgz (λz a=>h1 z (by simp[a])) (λz a=>h2 z (by simp[a])) h.2]
theorem QiC(f g:Fact):cmpF f g=bif cmpI f.At g.At != 0 then cmpI f.At g.At else bif cmpI f.Crew g.Crew != 0 then cmpI f.Crew g.Crew else bif cmpI f.No g.No != 0 then cmpI f.No g.No else cmpB (encF f).1 (encF g).1:=by
 unfold cmpF orL orL orL orL;generalize cmpI f.At g.At=a;generalize cmpI f.Crew g.Crew=b;generalize cmpI f.No g.No=d;cases h:(a != 0)with
 |true=>simp only[Vr,h]
 |false=>
  simp only[Vs];cases e:(b != 0)with
  |true=>simp only[Vr,e]
  |false=>
   simp only[Vs];cases i:(d != 0)with
   |true=>simp only[Vr,i]
   |false=>rfl
theorem Qkz:CmpOK cmpF:=by
 have h:=QdM (cmpI_ok.on λf:Fact=>f.At) (QdM (cmpI_ok.on λf:Fact=>f.Crew) (QdM (cmpI_ok.on λf:Fact=>f.No) (cb_ok.on λf:Fact=>(encF f).1.map Qbu)));have e:cmpF=λf g=>bif cmpI f.At g.At != 0 then cmpI f.At g.At else bif cmpI f.Crew g.Crew != 0 then cmpI f.Crew g.Crew else bif cmpI f.No g.No != 0 then cmpI f.No g.No else cmpB (encF f).1 (encF g).1:=by
  funext f g;exact QiC f g
 rw[e];exact h
def wideE(e:Ent):Bool:=decide (-1125899906842624<=e.lo)&&decide (e.hi<=1125899906842624)
theorem Qlh(f:Fact):(entsS f).all wideE=true:=by
 unfold entsS;rw[List.all_append,XZ];refine⟨rfl,?_⟩;rcases kinds f with k|k|k|k|k|k|k|k|k|k|k|k|k|k
 case inr.inr.inr.inr.inr.inr.inr.inr.inr.inl=>
  unfold openU;rw[k];show(bodyL (bif (f.Ruling.Kind==1)||(f.Ruling.Kind==2)then .c9 (0,0,0,0,0,0)else bif f.Ruling.Kind==3 then .c9 (1,9999,0,255,1,1099511627776)else bif f.Ruling.Kind==4 then .c9 (1,9999,0,255,1,64)else .c9 (1,9999,0,255,0,0))).all wideE=true;cases((f.Ruling.Kind==1)||(f.Ruling.Kind==2))with
  |true=>rfl
  |false=>
   cases(f.Ruling.Kind==3)with
   |true=>rfl
   |false=>cases(f.Ruling.Kind==4)<;>rfl
 case inr.inr.inr.inr.inr.inr.inr.inr.inr.inr.inr.inr.inr=>rw[k];rfl
 all_goals
  unfold openU;rw[k];rfl
theorem QeQ{f:Fact}(h:validS f=true):∀x∈numsS f,in63 x:=by
 have k:=h;unfold validS at h;rw[Qg2]at h;by_cases q:openU f=.c13 ()
 .rw[q]at h;cases h
 .rw[<- (QdB f q).2];cases a:fineU f (openU f)with
  |false=>rw[a]at h;cases h
  |true=>
   rw[a]at h;cases b:(entsS f).all (inE f (suspB f))with
   |false=>rw[b]at h;cases h
   |true=>
    intro x j;obtain⟨e,d,rfl⟩:=Xe.1 j;have i:=Xt.1 b e d;have g:=Xt.1 (Qlh f) e d;unfold inE at i;unfold wideE at g;simp only[XZ,Bool.not_eq_true',decide_eq_false_iff_not,Vt]at i g;unfold in63;omega
theorem Qgv{f:Fact}(h:validS f=true):encF f=(listB (numsS f),0):=by
 unfold encF;rw[h,QiZ h];rfl
theorem Qer{f g:Fact}(d:validS f=true)(hg:validS g=true)(h:cmpF f g=0):f=g:=by
 rw[QiC]at h;have z:cmpB (encF f).1 (encF g).1=0:=by
  cases b:(cmpI f.At g.At != 0)with
  |true=>rw[b]at h;exact absurd h (bne_iff_ne.1 b)
  |false=>
   rw[b]at h;cases a:(cmpI f.Crew g.Crew != 0)with
   |true=>rw[a]at h;exact absurd h (bne_iff_ne.1 a)
   |false=>
    rw[a]at h;cases i:(cmpI f.No g.No != 0)with
    |true=>rw[i]at h;exact absurd h (bne_iff_ne.1 i)
    |false=>rw[i]at h;exact h
 rw[Qgv d,Qgv hg]at z;have e:=Qgz (QdW _) (QdW _) (Qo5 z);exact QmA d hg (Qk1 (QeQ d) (QeQ hg) e)
set_option maxRecDepth 4000
theorem Qbn{α:Type}{R:α->α->Prop}(d:∀x,¬R x x)(i:∀x y z,R x y->R y z->R x z):∀{l m:List α},l.Pairwise R->m.Pairwise R->(∀x,x∈l↔x∈m)->l=m
 |[],[],_,_,_=>rfl
 |[],b::m,_,_,h=>by have:=(h b).2 (by simp);cases this
 |a::l,[],_,_,h=>by have:=(h a).1 (by simp);cases this
 |a::l,b::m,hl,hm,h=>by
  rw[Xc]at hl hm;have e:a=b:=by
   rcases X8.1 ((h a).1 (by simp))with e|g
   .exact e
   .rcases X8.1 ((h b).2 (by simp))with e|j
    .exact e.symm
    .exact absurd (i _ _ _ (hl.1 b j) (hm.1 a g)) (d a)
  subst e;congr 1;refine Qbn d i hl.2 hm.2 λx=>?_;constructor
  .intro f;rcases X8.1 ((h x).1 (X7 _ f))with e|g
   .subst e;exact absurd (hl.1 x f) (d x)
   .exact g
  .intro f;rcases X8.1 ((h x).2 (X7 _ f))with e|g
   .subst e;exact absurd (hm.1 x f) (d x)
   .exact g
def insC(x:Fact):List Fact->List Fact
 |[]=>[x]
 |y::r=>bif decide (cmpF y x<0)then y::insC x r else bif y==x then y::r else x::y::r
def canonS(l:List Fact):List Fact:=l.foldl (λa x=>bif validS x then insC x a else a) []
def ltF(a b:Fact):Prop:=cmpF a b<0
theorem Qg5(x:Fact):¬ltF x x:=by unfold ltF;have:=Qkz.refl x;omega
theorem QeX(x y z:Fact):ltF x y->ltF y z->ltF x z:=Qkz.trans x y z
theorem QcY(x:Fact):∀(l:List Fact) (z:Fact),z∈insC x l↔z=x\/z∈l
 |[],z=>by simp[insC]
 |y::r,z=>by
  unfold insC;cases decide (cmpF y x<0)with
  |true=>
   simp only[Vr,X8,QcY x r z];constructor
   .rintro(h|h|h)<;>simp[h]
   .rintro(h|h|h)<;>simp[h]
  |false=>
   simp only[Vs];cases h:(y==x)with
   |true=>
    have:y=x:=by simpa using h
    subst this;simp
   |false=>simp
def CanonOK(l:List Fact):Prop:=l.Pairwise ltF/\ ∀f∈l,validS f=true
theorem Qkk{x:Fact}(a:validS x=true):∀{l:List Fact},CanonOK l->CanonOK (insC x l)
 |[],_=>⟨by simp[insC],by simp[insC,a]⟩
 |y::r,h=>by
  obtain⟨h1,h2⟩:=h;rw[Xc]at h1;have hr:CanonOK r:=⟨h1.2,λf hf=>h2 f (by simp[hf])⟩;have ih:=Qkk a hr;refine⟨?_,λf hf=>?_⟩
  .unfold insC;cases q:decide (cmpF y x<0)with
   |true=>
    simp only[Vr,Xc];refine⟨λz hz=>?_,ih.1⟩;rcases(QcY x r z).1 hz with rfl|hz
    .show cmpF y z<0;exact Vx q
    .exact h1.1 z hz
   |false=>
    simp only[Vs];cases q2:(y==x)with
    |true=>simp only[Vr,Xc];exact h1
    |false=>
     simp only[Vs,Xc];have lt:ltF x y:=by
      have b:=Vy q;have d:¬cmpF y x=0:=λe=>by
       have:=Qer (h2 y (by simp)) a e;rw[this]at q2;simp at q2
      have:=Qkz.swap x y;unfold ltF;omega
     refine⟨λz hz=>?_,h1⟩;rcases X8.1 hz with rfl|hz
     .exact lt
     .exact QeX _ _ _ lt (h1.1 z hz)
  .rcases(QcY x (y::r) f).1 hf with rfl|hf
   .exact a
   .exact h2 f hf
theorem Jq(l:List Fact):CanonOK (canonS l)/\ ∀f,f∈canonS l↔f∈l/\validS f=true:=by
 have g:∀(r a:List Fact),CanonOK a->CanonOK (r.foldl (λa x=>bif validS x then insC x a else a) a)/\ ∀f,f∈r.foldl (λa x=>bif validS x then insC x a else a) a↔f∈a\/(f∈r/\validS f=true):=by
  intro r
  induction r with
  |nil=>intro a h;exact⟨h,λf=>by simp⟩
  |cons x r i=>
   intro a h;rw[XG];cases q:validS x with
   |false=>
    obtain⟨e,d⟩:=i a h;refine⟨e,λf=>?_⟩;rw[Vs,d f,X8];constructor
    .rintro(a|⟨a,b⟩)
     .exact .inl a
     .exact .inr ⟨.inr a,b⟩
    .rintro(a|⟨rfl|a,b⟩)
     .exact .inl a
     .rw[q]at b;cases b
     .exact .inr ⟨a,b⟩
   |true=>
    obtain⟨e,d⟩:=i (insC x a) (Qkk q h);refine⟨e,λf=>?_⟩;rw[Vr,d f,QcY,X8];constructor
    .rintro((rfl|a)|⟨a,b⟩)
     .exact .inr ⟨.inl rfl,q⟩
     .exact .inl a
     .exact .inr ⟨.inr a,b⟩
    .rintro(a|⟨rfl|a,b⟩)
     .exact .inl (.inr a)
     .exact .inl (.inl rfl)
     .exact .inr ⟨a,b⟩
 obtain⟨e,d⟩:=g l [] ⟨by simp,by simp⟩;exact⟨e,λf=>by rw[canonS,d f];simp⟩
theorem QjE{l m:List Fact}(h:∀f,validS f=true->(f∈l↔f∈m)):canonS l=canonS m:=by
 obtain⟨d,e⟩:=Jq l;obtain⟨b,a⟩:=Jq m;refine Qbn Qg5 QeX d.1 b.1 λf=>?_;rw[e f,a f];constructor
 .rintro⟨x,y⟩;exact⟨(h f y).1 x,y⟩
 .rintro⟨x,y⟩;exact⟨(h f y).2 x,y⟩
def FirstIs(c:Course)(l:List Fact)(f:Fact):Prop:=f∈l/\okS c f=true/\ ∀g∈l,okS c g=true->g.Starter.Bib=f.Starter.Bib->¬cmpF g f<0
theorem QaK{c:Course}{f:Fact}(h:okS c f=true):validS f=true:=by
 unfold okS at h;simp only[XZ]at h;exact h.2.1
theorem FirstIs.one{c:Course}{l:List Fact}{f g:Fact}(a:FirstIs c l f)(hg:FirstIs c l g)(e:f.Starter.Bib=g.Starter.Bib):f=g:=by
 have d:=a.2.2 g hg.1 hg.2.1 e.symm;have b:=hg.2.2 f a.1 a.2.1 e;have:=Qkz.swap f g;exact Qer (QaK a.2.1) (QaK hg.2.1) (by omega)
theorem QoM{c:Course}{l m:List Fact}(h:∀f,validS f=true->(f∈l↔f∈m)){f:Fact}:FirstIs c l f↔FirstIs c m f:=by
 unfold FirstIs;constructor
 .rintro⟨a,b,d⟩;exact⟨(h f (QaK b)).1 a,b,λg j e i=>d g ((h g (QaK e)).2 j) e i⟩
 .rintro⟨a,b,d⟩;exact⟨(h f (QaK b)).2 a,b,λg j e i=>d g ((h g (QaK e)).1 j) e i⟩
set_option maxRecDepth 4000
def nb(v lo hi:Int):Bool:= !(decide (v<lo))&& !(decide (hi<v))
theorem QeU(v lo hi:Int):nb v lo hi=true↔lo<=v/\v<=hi:=by
 unfold nb;simp only[XZ,Bool.not_eq_true',decide_eq_false_iff_not];omega
def contR(f:Fact):Bool:=
 bif f.Kind==1 then true&&(nb f.Starter.Bib 1 9999&&(nb f.Starter.Distance 0 7&&(nb f.Starter.Wave 0 31&&(nb f.Starter.Slot (-1099511627776) 1099511627776&&(nb f.Starter.Age 0 120&&(nb f.Starter.Chip 0 1048576&&(nb f.Starter.Team 0 9999&&(nb f.Starter.Lot 0 1048576&&true))))))))
 else bif f.Kind==2 then true&&(nb f.Read.Mat 0 39&&(nb f.Read.Epoch 0 255&&(nb f.Read.Chip 0 1048576&&(nb f.Read.Local (-1099511627776) 1099511627776&&true))))
 else bif f.Kind==3 then true&&(nb f.Beacon.Mat 0 39&&(nb f.Beacon.Epoch 0 255&&(nb f.Beacon.Local (-1099511627776) 1099511627776&&(nb f.Beacon.True (-1099511627776) 1099511627776&&(nb f.Beacon.Err 0 1099511627776&&true)))))
 else bif f.Kind==4 then decide (f.Sync.Min<=f.Sync.Max)&&(nb f.Sync.MatA 0 39&&(nb f.Sync.EpochA 0 255&&(nb f.Sync.LocalA (-1099511627776) 1099511627776&&(nb f.Sync.MatB 0 39&&(nb f.Sync.EpochB 0 255&&(nb f.Sync.LocalB (-1099511627776) 1099511627776&&(nb f.Sync.Min (-1099511627776) 1099511627776&&(nb f.Sync.Max (-1099511627776) 1099511627776&&true))))))))
 else bif f.Kind==5 then decide (f.Hand.Lo<=f.Hand.Hi)&&(nb f.Hand.Bib 1 9999&&(nb f.Hand.Position 0 255&&(nb f.Hand.Lo (-1099511627776) 1099511627776&&(nb f.Hand.Hi (-1099511627776) 1099511627776&&true))))
 else bif f.Kind==6 then decide (f.Silence.Lo<=f.Silence.Hi)&&(nb f.Silence.Mat 0 39&&(nb f.Silence.Epoch 0 255&&(nb f.Silence.Lo (-1099511627776) 1099511627776&&(nb f.Silence.Hi (-1099511627776) 1099511627776&&true))))
 else bif f.Kind==7 then decide (f.Pair.A<f.Pair.B)&&(nb f.Pair.A 1 9999&&(nb f.Pair.B 1 9999&&true))
 else bif f.Kind==8 then true&&(nb f.Report.Case 1 1048576&&(nb f.Report.Bib 1 9999&&(nb f.Report.Offence 0 31&&(nb f.Report.Position 0 255&&true))))
 else bif f.Kind==9 then true&&(nb f.Protest.Case 1 1048576&&(nb f.Protest.By 0 9999&&(nb f.Protest.Fee 0 1125899906842624&&(nb f.Protest.Form 0 1&&true))))
 else bif f.Kind==10 then true&&(nb f.Ruling.Case 1 1048576&&(nb f.Ruling.Instance 1 2&&(nb f.Ruling.Kind 1 5&&(bif (f.Ruling.Kind==1)||(f.Ruling.Kind==2)then nb f.Ruling.Bib 0 0&&(nb f.Ruling.Position 0 0&&(nb f.Ruling.Amount 0 0&&true))else bif f.Ruling.Kind==3 then nb f.Ruling.Bib 1 9999&&(nb f.Ruling.Position 0 255&&(nb f.Ruling.Amount 1 1099511627776&&true))else bif f.Ruling.Kind==4 then nb f.Ruling.Bib 1 9999&&(nb f.Ruling.Position 0 255&&(nb f.Ruling.Amount 1 64&&true))else nb f.Ruling.Bib 1 9999&&(nb f.Ruling.Position 0 255&&(nb f.Ruling.Amount 0 0&&true))))))
 else bif f.Kind==11 then true&&(nb f.Appeal.Case 1 1048576&&(nb (suspB f) 0 1&&true))
 else bif f.Kind==12 then true&&true
 else bif f.Kind==13 then true&&(nb f.Void.Crew 0 31&&(nb f.Void.No 1 1048576&&true))
 else false
theorem Qof(f:Fact):(f.Kind=1\/f.Kind=2\/f.Kind=3\/f.Kind=4\/f.Kind=5\/f.Kind=6\/f.Kind=7\/f.Kind=8\/f.Kind=9\/f.Kind=10\/f.Kind=11\/f.Kind=12\/f.Kind=13)\/((f.Kind==1)=false/\(f.Kind==2)=false/\(f.Kind==3)=false/\(f.Kind==4)=false/\(f.Kind==5)=false/\(f.Kind==6)=false/\(f.Kind==7)=false/\(f.Kind==8)=false/\(f.Kind==9)=false/\(f.Kind==10)=false/\(f.Kind==11)=false/\(f.Kind==12)=false/\(f.Kind==13)=false):=by
 by_cases h:1<=f.Kind/\f.Kind<=13
 .left;omega
 .right;simp only[VB,ne_eq];omega
theorem Qnp(f:Fact):contS f=contR f:=by
 rcases Qof f with k|⟨w,q,u,t,r,s,x,p,y,g,h,i,j⟩
 .rcases k with k|k|k|k|k|k|k|k|k|k|k|k|k
  case inr.inr.inr.inr.inr.inr.inr.inr.inr.inl=>
   obtain⟨Cr,No,At,Ki,S,R,B,Sy,Ha,Si,Pa,Re,Pr,⟨n,m,a,d,b,e⟩,Ap,Vo⟩:=f;simp only at k;subst k;have l:openU ⟨Cr,No,At,10,S,R,B,Sy,Ha,Si,Pa,Re,Pr,⟨n,m,a,d,b,e⟩,Ap,Vo⟩=(bif (a==1)||(a==2)then U_facts_open_rxk.c9 (0,0,0,0,0,0)else bif a==3 then .c9 (1,9999,0,255,1,1099511627776)else bif a==4 then .c9 (1,9999,0,255,1,64)else .c9 (1,9999,0,255,0,0)):=rfl;have z:contR ⟨Cr,No,At,10,S,R,B,Sy,Ha,Si,Pa,Re,Pr,⟨n,m,a,d,b,e⟩,Ap,Vo⟩=(true&&(nb n 1 1048576&&(nb m 1 2&&(nb a 1 5&&(bif (a==1)||(a==2)then nb d 0 0&&(nb b 0 0&&(nb e 0 0&&true))else bif a==3 then nb d 1 9999&&(nb b 0 255&&(nb e 1 1099511627776&&true))else bif a==4 then nb d 1 9999&&(nb b 0 255&&(nb e 1 64&&true))else nb d 1 9999&&(nb b 0 255&&(nb e 0 0&&true))))))):=rfl;rw[z];unfold contS;rw[l];cases((a==1)||(a==2))with
   |true=>rfl
   |false=>
    cases(a==3)with
    |true=>rfl
    |false=>cases(a==4)<;>rfl
  case inr.inr.inr.inr.inr.inr.inr.inr.inr.inr.inl=>
   obtain⟨Cr,No,At,Ki,S,R,B,Sy,Ha,Si,Pa,Re,Pr,Ru,⟨Ca,Su⟩,Vo⟩:=f;simp only at k;subst k;cases Su<;>rfl
  all_goals
   obtain⟨Cr,No,At,Ki,S,R,B,Sy,Ha,Si,Pa,Re,Pr,Ru,Ap,Vo⟩:=f;simp only at k;subst k;rfl
 .have l:openU f=.c13 ():=by unfold openU;rw[w,q,u,t,r,s,x,p,y,g,h,i,j];rfl
  unfold contS contR;rw[l,w,q,u,t,r,s,x,p,y,g,h,i,j];rfl
theorem Qh5(x:Fact):∀l:List Fact,(insC x l).length<=l.length+1
 |[]=>by simp[insC]
 |y::r=>by
  unfold insC;have:=Qh5 x r;cases decide (cmpF y x<0)with
  |true=>simp only[Vr,X3];omega
  |false=>cases(y==x)<;>simp
theorem QkM{α:Type}[DecidableEq α](l m:List α)(step:Nat->Int->Option (Ctl Int (Ctl Unit Bool)))(hl:l.length<=4611686018427387904)
  (k:∀n s,step n s=(bif decide (s<(l.length:Int))then(idx l s).bind λx=>(idx m s).bind λy=>(bif (x != y)then some (.done (.done false))else some (.cont (IntKind.i64.wrap (s+1))))else some (.done (.cont ())))):
  Ev (λn=>(bif ((l.length:Int) != (m.length:Int))then some false else(Go.Sw.iter (step n) n 0:Option (Ctl Unit Bool)).bind λb11=>match b11 with|.cont sb11=>(some true)|.done sb11=>some sb11)) (decide (l=m)):=by
 by_cases d:l.length=m.length
 .rw[show((l.length:Int) != (m.length:Int))=false by rw[d];simp];simp only[Vs];have loop:∀(r b:List α) (i:Nat),l.drop i=r->m.drop i=b->i<=l.length->EvI step (i:Int) (bif decide (r=b)then Ctl.cont ()else Ctl.done false):=by
   intro r
   induction r with
   |nil=>
    intro b i h a p;have w:l.length<=i:=Xr.1 h;have:b=[]:=by rw[<- a];exact Xr.2 (by omega)
    subst this;refine Ej ?_;refine QfM (Qa _) λn=>?_;rw[k,YH h p];simp
   |cons x r t=>
    intro b i h a p;obtain⟨f,j⟩:=QW hl h;have u:=f.lt';cases b with
    |nil=>
     have w:m.length<=i:=Xr.1 a;omega
    |cons y b=>
     obtain⟨q,g⟩:=QW (by omega) a;by_cases e:x=y
     .subst e;refine Ew ?_ ((t b (i+1) j g (by omega)).eq ?_)
      .refine QfM (Qa _) λn=>?_;rw[k,f.lt,f.ix,q.ix,Vr,XM,XM,f.nx];simp
      .congr 1;simp
     .refine Ej ?_;refine QfM (Qa _) λn=>?_;rw[k,f.lt,f.ix,q.ix,Vr,XM,XM,bne_iff_ne.2 e];simp[e]
  refine Ea (loop l m 0 rfl rfl (XX _)).ev ?_;cases decide (l=m)<;>exact Qa _
 .rw[show((l.length:Int) != (m.length:Int))=true by rw[bne_iff_ne];omega];refine(Qa _).eq ?_;rw[YL λe=>d (by rw[e])]
theorem QiW{c:Course}(h:Course.wf c):CourseOk c:=by
 obtain⟨q,⟨i,f⟩,⟨j,r⟩,⟨n,b⟩,⟨k,g⟩,⟨e,l⟩,⟨p,m⟩,⟨d,s⟩,_⟩:=h;exact⟨q,i,λx a=>(f x a).1,j,n,λx a=>(b x a).1,λx a=>(b x a).2.2.2.1.1,k,λx a=>(g x a).1,e,λx a=>(l x a).1,p,λx a=>(m x a).1,d⟩
theorem QjO{c:Course}(h:Course.wf c):PartsOk c:=by
 obtain⟨_,_,_,⟨e,b⟩,_⟩:=h;exact⟨λd a=>(b d a).2.1.1,λd a=>(b d a).2.1.2⟩
theorem Qn5{c:Course}(h:Course.wf c):c.Ties.length<=1048576/\ ∀x∈c.Ties,Step.wf x:=by
 obtain⟨_,_,_,_,_,_,_,_,a,_⟩:=h;exact a
theorem Qfv(l:List Fact):(canonS l).length<=l.length:=by
 have:∀(m a:List Fact),(m.foldl (λa x=>bif validS x then insC x a else a) a).length<=a.length+m.length:=by
  intro m
  induction m with
  |nil=>intro a;simp
  |cons x m b=>
   intro a;rw[XG,X3];have e:=b (bif validS x then insC x a else a);have d:(bif validS x then insC x a else a).length<=a.length+1:=by
    cases validS x with
    |true=>exact Qh5 x a
    |false=>simp
   omega
 have:=this l [];simpa[canonS]using this
def rulB(k i:Int)(f:Fact):Bool:=(f.Kind==10)&&((f.Ruling.Case==k)&&(f.Ruling.Instance==i))
def repB(k:Int)(f:Fact):Bool:=(f.Kind==8)&&(f.Report.Case==k)
def appB(k:Int)(f:Fact):Bool:=(f.Kind==11)&&(f.Appeal.Suspends&&(f.Appeal.Case==k))
def caseN(f:Fact):Option Int:=bif f.Kind==10 then some f.Ruling.Case else bif f.Kind==8 then some f.Report.Case else bif (f.Kind==11)&&f.Appeal.Suspends then some f.Appeal.Case else none
def fileOf(P:List Fact)(k:Int):Ue:=⟨k,P.filter (rulB k 0),P.filter (rulB k 1),P.filter (rulB k 2),(P.filter (repB k)).map (·.Report),P.any (appB k)⟩
theorem Qag{k i:Int}{f:Fact}(h:rulB k i f=true):caseN f=some k:=by
 unfold rulB at h;rw[XZ,XZ,VA (a:=f.Ruling.Case)]at h;unfold caseN;rw[h.1,Vr,h.2.1]
theorem Qf6{k:Int}{f:Fact}(h:repB k f=true):caseN f=some k:=by
 unfold repB at h;rw[XZ,VA,VA]at h;unfold caseN;rw[h.1,h.2];rfl
theorem QgA{k:Int}{f:Fact}(h:appB k f=true):caseN f=some k:=by
 unfold appB at h;rw[XZ,XZ,VA,VA]at h;unfold caseN;rw[h.1,h.2.1,h.2.2];rfl
theorem Qa4{α:Type}{p:α->Bool}{l:List α}(h:∀x∈l,p x=false):l.filter p=[]:=by
 rw[List.filter_eq_nil_iff];intro x a;rw[h x a];exact Bool.false_ne_true
theorem Qa9{b:Bool}(h:¬b=true):b=false:=by cases b with
 |true=>exact absurd rfl h
 |false=>rfl
theorem Qjp{P:List Fact}{k:Int}(h:∀f∈P,caseN f≠some k):fileOf P k=Qat k:=by
 unfold fileOf Qat;rw[Qa4 λf a=>Qa9 λq=>h f a (Qag q),Qa4 λf a=>Qa9 λq=>h f a (Qag q),Qa4 λf a=>Qa9 λq=>h f a (Qag q),
  Qa4 λf a=>Qa9 λq=>h f a (Qf6 q),show P.any (appB k)=false from List.any_eq_false.2 λf a q=>h f a (QgA q)]
 rfl
theorem Qz{α:Type}(p:α->Bool)(l:List α)(x:α):(l++[x]).filter p=bif p x then l.filter p++[x]else l.filter p:=by
 rw[List.filter_append];cases h:p x<;>simp[h]
theorem Qc1{P:List Fact}{f:Fact}{k:Int}(h:caseN f≠some k):fileOf (P++[f]) k=fileOf P k:=by
 unfold fileOf;rw[Qz,Qz,Qz,Qz,Qa9 λq=>h (Qag (i:=0) q),Qa9 λq=>h (Qag (i:=1) q),Qa9 λq=>h (Qag (i:=2) q),Qa9 λq=>h (Qf6 q),List.any_append,List.any_cons,List.any_nil,
  Qa9 λq=>h (QgA q)]
 simp
structure FilesOf (P:List Fact) (fs:List Ue):Prop where
 num:(fs.map (·.number)).Nodup
 each:∀x∈fs,x=fileOf P x.number
 mem:∀k,k∈fs.map (·.number)↔ ∃f∈P,caseN f=some k
theorem FilesOf.nil:FilesOf [] []:=⟨List.nodup_nil,(λ_ h=>by cases h),λk=>by simp⟩
theorem FilesOf.skip{P:List Fact}{fs:List Ue}{f:Fact}(h:FilesOf P fs)(d:caseN f=none):FilesOf (P++[f]) fs:=by
 refine⟨h.num,λx e=>?_,λk=>?_⟩
 .rw[Qc1 (by rw[d];intro q;cases q)];exact h.each x e
 .rw[h.mem k];constructor
  .rintro⟨g,b,a⟩;exact⟨g,by simp[b],a⟩
  .rintro⟨g,b,a⟩;rcases VF.1 b with q|q
   .exact⟨g,q,a⟩
   .rw[VD.1 q,d]at a;cases a
theorem FilesOf.put{P:List Fact}{fs:List Ue}{f:Fact}{k:Int}{g:Ue->Ue}(h:FilesOf P fs)(p:caseN f=some k)(E:∀x,(g x).number=x.number)(hg:g (fileOf P k)=fileOf (P++[f]) k):FilesOf (P++[f]) (Qbm (Qaj fs k) k g):=by
 have s:∀x∈Qaj fs k,x=fileOf P x.number:=by
  by_cases q:∃x∈fs,x.number=k
  .rw[QcZ q];exact h.each
  .have i:∀x∈fs,x.number≠k:=λx d e=>q ⟨x,d,e⟩;rw[QbU i];intro x d;rcases VF.1 d with z|z
   .exact h.each x z
   .rw[VD.1 z];refine(Qjp (k:=k) λa u e=>?_).symm;obtain⟨x,d,F⟩:=Xe.1 ((h.mem k).2 ⟨a,u,e⟩);exact i x d F
 have t:((Qaj fs k).map (·.number)).Nodup:=by
  by_cases q:∃x∈fs,x.number=k
  .rw[QcZ q];exact h.num
  .have i:∀x∈fs,x.number≠k:=λx d e=>q ⟨x,d,e⟩;rw[QbU i,Xf,List.nodup_append];refine⟨h.num,by simp,?_⟩;intro a u b G;obtain⟨x,d,rfl⟩:=Xe.1 u;have r:b=k:=by simpa[Qat]using G
   rw[r];exact i x d
 have n:∀j,j∈(Qaj fs k).map (·.number)↔j=k\/j∈fs.map (·.number):=by
  intro j;by_cases q:∃x∈fs,x.number=k
  .rw[QcZ q];constructor
   .exact .inr
   .rintro(rfl|z)
    .obtain⟨x,d,e⟩:=q;exact Xe.2 ⟨x,d,e⟩
    .exact z
  .rw[QbU λx d e=>q ⟨x,d,e⟩,Xf,VF];simp only[Vl,Vm,VD,Qat];exact Or.comm
 have m:(Qbm (Qaj fs k) k g).map (·.number)=(Qaj fs k).map (·.number):=by
  unfold Qbm;rw[List.map_map];refine List.map_congr_left λx _=>?_;show(bif decide (x.number=k)then g x else x).number=x.number;cases decide (x.number=k)with
  |true=>exact E x
  |false=>rfl
 refine⟨by rw[m];exact t,λx d=>?_,λj=>?_⟩
 .obtain⟨y,H,rfl⟩:=Xe.1 d;have B:=s y H;cases q:decide (y.number=k)with
  |true=>
   have i:=Vx q;show g y=fileOf _ (g y).number;rw[E,i, <- hg, <- i, <- B]
  |false=>
   have i:=Vy q;show y=fileOf _ y.number;rw[Qc1 (by rw[p];intro z;cases z;exact i rfl)];exact B
 .rw[m,n,h.mem j];constructor
  .rintro(rfl|⟨a,w,l⟩)
   .exact⟨f,by simp,p⟩
   .exact⟨a,by simp[w],l⟩
  .rintro⟨a,w,l⟩;rcases VF.1 w with z|z
   .exact .inr ⟨a,z,l⟩
   .rw[VD.1 z,p]at l;cases l;exact .inl rfl
theorem FilesOf.room{P:List Fact}{fs:List Ue}{k:Int}(h:FilesOf P fs)(hl:P.length<1048576):QdR (Qaj fs k)=true:=by
 have b:∀n,n<=P.length->Nat.ble (n+1) Qy=true:=λn d=>Qeo (by omega);have one:∀j,(λx:Ue=>Nat.ble (x.r0.length+1) Qy&&Nat.ble (x.r1.length+1) Qy&&Nat.ble (x.r2.length+1) Qy&&Nat.ble (x.reports.length+1) Qy) (fileOf P j)=true:=by
  intro j;simp only[fileOf,X4];rw[b _ (VP ..),b _ (VP ..),b _ (VP ..),b _ (VP ..)];rfl
 unfold QdR;refine Xt.2 λx a=>?_;by_cases q:∃x∈fs,x.number=k
 .rw[QcZ q]at a;rw[h.each x a];exact one _
 .rw[QbU λx a e=>q ⟨x,a,e⟩]at a;rcases VF.1 a with z|z
  .rw[h.each x z];exact one _
  .rw[VD.1 z];simp only[Qat,List.length_nil];decide
theorem QhH{f:Fact}(h:validS f=true):headS f=true/\contR f=true/\onlyS f=f:=by
 rw[Qdm,XZ,XZ,Qnp,VA]at h;exact⟨h.1.1,h.1.2,h.2⟩
theorem QkQ{f:Fact}(h:validS f=true)(k:f.Kind=10):(1<=f.Ruling.Case/\(f.Ruling.Instance=1\/f.Ruling.Instance=2))/\(0<=f.Ruling.Bib/\f.Ruling.Bib<=9999)/\f.Report=Up.Report:=by
 obtain⟨_,b,m⟩:=QhH h;have e:f.Report=(onlyS f).Report:=by rw[m]
 have l:(onlyS f).Report=bif f.Kind==8 then f.Report else Up.Report:=rfl
 rw[l,k]at e;refine⟨?_,?_,e⟩
 .unfold contR at b;rw[k]at b;have d:(true&&(nb f.Ruling.Case 1 1048576&&(nb f.Ruling.Instance 1 2&&(nb f.Ruling.Kind 1 5&&(bif (f.Ruling.Kind==1)||(f.Ruling.Kind==2)then nb f.Ruling.Bib 0 0&&(nb f.Ruling.Position 0 0&&(nb f.Ruling.Amount 0 0&&true))else bif f.Ruling.Kind==3 then nb f.Ruling.Bib 1 9999&&(nb f.Ruling.Position 0 255&&(nb f.Ruling.Amount 1 1099511627776&&true))else bif f.Ruling.Kind==4 then nb f.Ruling.Bib 1 9999&&(nb f.Ruling.Position 0 255&&(nb f.Ruling.Amount 1 64&&true))else nb f.Ruling.Bib 1 9999&&(nb f.Ruling.Position 0 255&&(nb f.Ruling.Amount 0 0&&true)))))))=true:=b;simp only[XZ,QeU]at d;obtain⟨_,a,n,_⟩:=d;exact⟨a.1,by omega⟩
 .unfold contR at b;rw[k]at b;have d:(true&&(nb f.Ruling.Case 1 1048576&&(nb f.Ruling.Instance 1 2&&(nb f.Ruling.Kind 1 5&&(bif (f.Ruling.Kind==1)||(f.Ruling.Kind==2)then nb f.Ruling.Bib 0 0&&(nb f.Ruling.Position 0 0&&(nb f.Ruling.Amount 0 0&&true))else bif f.Ruling.Kind==3 then nb f.Ruling.Bib 1 9999&&(nb f.Ruling.Position 0 255&&(nb f.Ruling.Amount 1 1099511627776&&true))else bif f.Ruling.Kind==4 then nb f.Ruling.Bib 1 9999&&(nb f.Ruling.Position 0 255&&(nb f.Ruling.Amount 1 64&&true))else nb f.Ruling.Bib 1 9999&&(nb f.Ruling.Position 0 255&&(nb f.Ruling.Amount 0 0&&true)))))))=true:=b;simp only[XZ]at d;obtain⟨_,_,_,_,a⟩:=d;cases i:((f.Ruling.Kind==1)||(f.Ruling.Kind==2))with
  |true=>rw[i]at a;simp only[Vr,XZ,QeU]at a;omega
  |false=>
   rw[i,Vs]at a;cases j:(f.Ruling.Kind==3)with
   |true=>rw[j]at a;simp only[Vr,XZ,QeU]at a;omega
   |false=>
    rw[j,Vs]at a;cases g:(f.Ruling.Kind==4)with
    |true=>rw[g]at a;simp only[Vr,XZ,QeU]at a;omega
    |false=>rw[g]at a;simp only[Vs,XZ,QeU]at a;omega
theorem Qb6{f:Fact}(k:f.Kind=10)(j:Int):rulB f.Ruling.Case j f=(f.Ruling.Instance==j):=by
 unfold rulB;rw[k];simp
theorem Qhe{P:List Fact}{fs:List Ue}{f:Fact}(h:FilesOf P fs)(hl:P.length<1048576)(r:validS f=true):∃fs',filesStep fs f=some fs'/\FilesOf (P++[f]) fs':=by
 unfold filesStep;cases a:(f.Kind==10)with
 |true=>
  have k:f.Kind=10:=by simpa using a
  obtain⟨⟨_,e⟩,_⟩:=QkQ r k;have l:caseN f=some f.Ruling.Case:=by unfold caseN;rw[a];rfl
  have n:repB f.Ruling.Case f=false:=by unfold repB;rw[k];rfl
  have d:appB f.Ruling.Case f=false:=by unfold appB;rw[k];rfl
  simp only[Vr,h.room hl];unfold filesAdd;rcases e with e|e
  .refine⟨Qbm (Qaj fs f.Ruling.Case) f.Ruling.Case λx=>{x with r1:=x.r1++[f]},by rw[e];rfl,h.put l (λx=>rfl) ?_⟩;unfold fileOf;rw[Qz,Qz,Qz,Qz,Qb6 k,Qb6 k,Qb6 k,e,n,List.any_append,List.any_cons,List.any_nil,d];simp
  .refine⟨Qbm (Qaj fs f.Ruling.Case) f.Ruling.Case λx=>{x with r2:=x.r2++[f]},by rw[e];rfl,h.put l (λx=>rfl) ?_⟩;unfold fileOf;rw[Qz,Qz,Qz,Qz,Qb6 k,Qb6 k,Qb6 k,e,n,List.any_append,List.any_cons,List.any_nil,d];simp
 |false=>
  simp only[Vs];have g:∀j i,rulB j i f=false:=λj i=>by unfold rulB;rw[a];rfl
  cases m:(f.Kind==8)with
  |true=>
   have k:f.Kind=8:=by simpa using m
   have l:caseN f=some f.Report.Case:=by unfold caseN;rw[a,m];rfl
   have s:repB f.Report.Case f=true:=by unfold repB;rw[k];simp
   have d:appB f.Report.Case f=false:=by unfold appB;rw[k];rfl
   simp only[Vr,h.room hl];refine⟨Qbm (Qaj fs f.Report.Case) f.Report.Case λx=>{x with reports:=x.reports++[f.Report]},rfl,h.put l (λx=>rfl) ?_⟩;unfold fileOf;rw[Qz,Qz,Qz,Qz,g,g,g,s,List.any_append,List.any_cons,List.any_nil,d];simp
  |false=>
   simp only[Vs];have n:∀j,repB j f=false:=λj=>by unfold repB;rw[m];rfl
   cases b:(f.Kind==11)with
   |true=>
    simp only[Vr];cases p:f.Appeal.Suspends with
    |true=>
     have l:caseN f=some f.Appeal.Case:=by unfold caseN;rw[a,m,b,p];rfl
     have q:appB f.Appeal.Case f=true:=by unfold appB;rw[b,p];simp
     refine⟨Qbm (Qaj fs f.Appeal.Case) f.Appeal.Case λx=>{x with appeal:=true},rfl,h.put l (λx=>rfl) ?_⟩;unfold fileOf;rw[Qz,Qz,Qz,Qz,g,g,g,n,List.any_append,List.any_cons,List.any_nil,q];simp
    |false=>exact⟨_,rfl,h.skip (by unfold caseN;rw[a,m,b,p];rfl)⟩
   |false=>exact⟨_,rfl,h.skip (by unfold caseN;rw[a,m,b];rfl)⟩
def SameF(l m:List Fact):Prop:=∀f,validS f=true->(f∈l↔f∈m)
theorem SameF.symm{l m:List Fact}(h:SameF l m):SameF m l:=λf hf=>(h f hf).symm
theorem SameF.filter{l m:List Fact}(h:SameF l m)(p:Fact->Bool):SameF (l.filter p) (m.filter p):=λf hf=>by rw[Xd,Xd,h f hf]
def repStep(k:Int)(r f:Fact):Fact:=bif validS f&&repB k f then(bif (r.Kind==0)||decide (cmpF f r<0)then f else r)else r
structure RepOf (k:Int) (P:List Fact) (r:Fact):Prop where
 none:(r.Kind==0)=true->r=Up/\ ∀f∈P,validS f=true->repB k f=false
 some:(r.Kind==0)=false->r∈P/\validS r=true/\repB k r=true/\ ∀f∈P,validS f=true->repB k f=true->¬cmpF f r<0
theorem Qf5{k:Int}{f:Fact}(h:repB k f=true):(f.Kind==0)=false:=by
 unfold repB at h;rw[XZ,VA]at h;rw[h.1];rfl
theorem RepOf.nil(k:Int):RepOf k [] Up:=⟨λ_=>⟨rfl,λ_ h=>by cases h⟩,λh=>by cases h⟩
theorem RepOf.step{k:Int}{P:List Fact}{r f:Fact}(h:RepOf k P r):RepOf k (P++[f]) (repStep k r f):=by
 unfold repStep;cases q:validS f&&repB k f with
 |false=>
  simp only[Vs];have n:¬(validS f=true/\repB k f=true):=λz=>by rw[z.1,z.2]at q;cases q
  refine⟨λz=>⟨(h.none z).1,λg l i=>?_⟩,λz=>?_⟩
  .rcases VF.1 l with w|w
   .exact(h.none z).2 g w i
   .rw[VD.1 w]at i⊢;exact Qa9 λy=>n ⟨i,y⟩
  .obtain⟨a,b,c,d⟩:=h.some z;refine⟨by simp[a],b,c,λg l i j=>?_⟩;rcases VF.1 l with w|w
   .exact d g w i j
   .rw[VD.1 w]at i j;exact absurd ⟨i,j⟩ n
 |true=>
  rw[XZ]at q;simp only[Vr];cases z:(r.Kind==0)with
  |true=>
   simp only[Bool.true_or,Vr];refine⟨λw=>(by rw[Qf5 q.2]at w;cases w),λ_=>⟨by simp,q.1,q.2,λg l i j=>?_⟩⟩;rcases VF.1 l with w|w
   .rw[(h.none z).2 g w i]at j;cases j
   .rw[VD.1 w];have:=Qkz.refl f;omega
  |false=>
   simp only[Bool.false_or];obtain⟨a,b,c,d⟩:=h.some z;cases y:decide (cmpF f r<0)with
   |true=>
    have m:=Vx y;simp only[Vr];refine⟨λw=>(by rw[Qf5 q.2]at w;cases w),λ_=>⟨by simp,q.1,q.2,λg l i j=>?_⟩⟩;rcases VF.1 l with w|w
    .intro e;exact d g w i j (Qkz.trans _ _ _ e m)
    .rw[VD.1 w];have:=Qkz.refl f;omega
   |false=>
    have m:=Vy y;simp only[Vs];refine⟨λw=>(by rw[z]at w;cases w),λ_=>⟨by simp[a],b,c,λg l i j=>?_⟩⟩;rcases VF.1 l with w|w
    .exact d g w i j
    .rw[VD.1 w];exact m
section
variable {α β:Type}
theorem Qbr(q:α->Bool):∀(l a:List α),l.foldl (λa x=>bif q x then a++[x]else a) a=a++l.filter q
 |[],a=>by simp
 |x::l,a=>by
  rw[XG,Qbr q l,List.filter_cons];cases h:q x<;>simp
theorem QfL{step:Nat->List α×Int->Option (Ctl (List α×Int) (List α))}(l:List α)(q:α->Bool)(hl:l.length<=1048576)
  (d:∀i x a,At l i x->a.length<=i->Ev (λn=>step n (a,(i:Int))) (.cont ((bif q x then a++[x]else a),((i+1:Nat):Int))))
  (b:∀a,Ev (λn=>step n (a,(l.length:Int))) (.done a)):Ev (λn=>Go.Sw.iter (step n) n ([],0)) (l.filter q):=by
 have e:l.filter q=l.foldl (λa x=>bif q x then a++[x]else a) []:=by rw[Qbr];rfl
 rw[e];refine Yq l (λa x=>bif q x then a++[x]else a) [] (λa i=>(a,(i:Int))) (λa=>a) (by omega) rfl (λi x a g f=>d i x a g ?_) (b _);rw[f,Qbr,Vj];exact XY (VP ..) (by rw[Xz];omega)
theorem Qgg{l:List α}[DecidableEq (List α)](hl:l.length<=1048576):isNil l (some ([]:List α)) ((app ([]:List α) l).bind λx=>some x)=some l:=by
 have:app ([]:List α) l=some l:=by rw[Qcc _ _ (by simp;omega)];rfl
 unfold isNil;cases l with
 |nil=>rw[this];simp
 |cons a l=>rw[this];rfl
theorem QnP{F:Nat->α->α->Option β}{V:α->α->β}(l:List α)(h:∀x∈l,∀y∈l,Ev (λn=>F n x y) (V x y)):∃N,∀n,N<=n->∀x∈l,∀y∈l,F n x y=some (V x y):=by
 obtain⟨N,f⟩:=QaV (F:=λn (p:α×α)=>F n p.1 p.2) (V:=λp=>V p.1 p.2) (l.flatMap λx=>l.map λy=>(x,y)) (by
  intro p a;rw[List.mem_flatMap]at a;obtain⟨x,b,a⟩:=a;obtain⟨y,d,rfl⟩:=Xe.1 a;exact h x b y d)
 exact⟨N,λn e x b y d=>f n e (x,y) (List.mem_flatMap.2 ⟨x,b,Xe.2 ⟨y,d,rfl⟩⟩)⟩
def ltC(c:α->α->Int)(x y:α):Bool:=decide (c x y<0)
theorem Qb9{c:α->α->Int}(d:CmpOK c)(l:List α):Qd6 (ltC c) l:=by
 refine⟨λx _=>?_,λx _ y _ z _ g f=>?_,λx _ y _ z _ g f=>?_⟩
 .have:=d.refl x;exact Vz (by omega)
 .have g:=Vx g;have f:=Vx f;exact Vw (d.trans x y z g f)
 .have g:=Vy g;have f:=Vy f;refine Vz λh=>?_;have a:=d.swap x y;have b:=d.swap y z;by_cases e:c x y=0
  .rw[d.eqt x y z e]at h;exact f h
  .by_cases i:c y z=0
   .rw[<- d.eqr x i]at h;exact g h
   .have j:=d.trans z y x (by omega) (by omega);have:=d.swap x z;omega
theorem QkL[DecidableEq α]{cf:Nat->α->α->Option Int}{l:List α}{c:α->α->Int}(hl:l.length<=1048576)(p:∀x∈l,∀y∈l,Ev (λn=>cf n x y) (c x y))(a:CmpOK c)(m:∀x∈l,∀y∈l,c x y=0->x=y):
  Ev (λn=>QbK (cf n) l) (YG (ltC c) l):=by
 obtain⟨N,s⟩:=QnP l p;refine⟨N,λn r=>?_⟩;have h:=s n r;have k:=Ql5 (cf:=cf n) (XU (Qeo hl)) c h (λx _=>by have:=a.refl x;omega) (λx _ y _ z _=>a.trans x y z) (λx b y d z u g f=>by
   have:=(Qb9 a l).ntrans x b y d z u (Vz g) (Vz f);exact Vy this) (λx b y d g f=>m x b y d (by have:=a.swap x y;omega))
 show QbK (cf n) l=some (YG (ltC c) l);rw[k];congr 1;obtain⟨_,_,t,_,_⟩:=QcM k;have e:∀x∈l,∀y∈l,ltO (cf n) x y=ltC c x y:=λx b y d=>by unfold ltO ltC;rw[h x b y d]
 refine Jk (lt:=ltC c) ((Qn _ l).trans (Qn _ l).symm) (λx b y d g f=>?_) ?_ (QR (Qb9 a l))
 .have j:=(Qn _ l).mem_iff.1 b;have i:=(Qn _ l).mem_iff.1 d;have g:=Vy g;have f:=Vy f;exact m x j y i (by have:=a.swap x y;omega)
 .refine List.Pairwise.imp_of_mem (λ{x y} b d q=>?_) (QR t);have j:=(Qn _ l).mem_iff.1 b;have i:=(Qn _ l).mem_iff.1 d;rw[<- e y i x j];exact q
end
def ddA(p:Fact):List Fact->List Fact
 |[]=>[]
 |x::r=>bif cmpF x p==0 then ddA x r else x::ddA x r
def dd:List Fact->List Fact
 |[]=>[]
 |x::r=>x::ddA x r
theorem Qnl{x p:Fact}{r:List Fact}(q:(cmpF x p==0)=true):ddA p (x::r)=ddA x r:=by
 show(bif cmpF x p==0 then ddA x r else x::ddA x r)=_;rw[q];rfl
theorem Qnk{x p:Fact}{r:List Fact}(q:(cmpF x p==0)=false):ddA p (x::r)=x::ddA x r:=by
 show(bif cmpF x p==0 then ddA x r else x::ddA x r)=_;rw[q];rfl
theorem Qnj:∀(r:List Fact) (p:Fact),(∀x∈r,¬cmpF x p<0)->r.Pairwise (λa b=>¬cmpF b a<0)->(∀x∈p::r,validS x=true)->(ddA p r).Pairwise ltF/\(∀x∈ddA p r,ltF p x)/\ ∀x,x∈p::ddA p r↔x∈p::r
 |[],p,_,_,_=>⟨List.Pairwise.nil,(λ_ h=>by cases h),λ_=>Iff.rfl⟩
 |y::r,p,h1,h2,h3=>by
  rw[Xc]at h2;obtain⟨i1,i2,i3⟩:=Qnj r y h2.1 h2.2 λx hx=>h3 x (by simp only[X8]at hx⊢;exact .inr hx);have hy:=h1 y (by simp);unfold ddA;cases q:cmpF y p==0 with
  |true=>
   have q':cmpF y p=0:=by simpa using q
   have e:y=p:=Qer (h3 y (by simp)) (h3 p (by simp)) q';subst e;refine⟨i1,i2,λx=>?_⟩;rw[Vr,i3 x];simp
  |false=>
   have q':¬cmpF y p=0:=by simpa using q
   have d:ltF p y:=by
    have:=Qkz.swap y p;unfold ltF;omega
   simp only[Vs];refine⟨Xc.2 ⟨i2,i1⟩,λx hx=>?_,λx=>?_⟩
   .rcases X8.1 hx with rfl|hx
    .exact d
    .exact QeX _ _ _ d (i2 x hx)
   .rw[X8,i3 x,X8 (a:=x) (b:=p)]
theorem dd_ok{S:List Fact}(h:S.Pairwise λa b=>¬cmpF b a<0)(d:∀x∈S,validS x=true):(dd S).Pairwise ltF/\ ∀x,x∈dd S↔x∈S:=by
 cases S with
 |nil=>exact⟨List.Pairwise.nil,λ_=>Iff.rfl⟩
 |cons a r=>
  rw[Xc]at h;obtain⟨f,e,g⟩:=Qnj r a h.1 h.2 d;exact⟨Xc.2 ⟨e,f⟩,g⟩
theorem Qhi(x y:Fact):Ev (λn=>F_ap n x y) (cmpF x y==0):=Ea (Qfp x y) (Qa _)
theorem Qkm{l:List Fact}{a j:Nat}{x:Fact}(h:l[a+j]?=some x){m:Int}(d:m=(l.length:Int)):Qg8 l (a:Int) m (j:Int)=some x:=by
 have b:=(XO.1 h).1;unfold Qg8;rw[Vw (show(0:Int)<=(a:Int)by omega),Vw (show(0:Int)<=(j:Int)by omega),Vw (show(a:Int)+(j:Int)<m by omega)];rw[show(a:Int)+(j:Int)=((a+j:Nat):Int)by omega];exact Jw h
theorem Qky{α:Type}{l r:List α}{i:Nat}{x:α}(h:l.drop i=x::r):l[i]?=some x/\l.drop (i+1)=r/\i<l.length:=by
 have a:l[i]?=some x:=by
  have:=congrArg (λl=>l[0]?) h;simpa using this
 refine⟨a,?_,(XO.1 a).1⟩;have:=Xq (XO.1 a).1;rw[h]at this;exact(List.cons.inj this).2.symm
theorem Qiv(a:List Fact)(hl:a.length<=1048576)(b:Nat):∀(r s:List Fact) (i j:Nat) (p:Fact),s.length=a.length->s.drop (b+(j+1))=r->s[b+j]?=some p->i<b+(j+1)->b+(j+1)<=s.length->
  ∃(s':List Fact) (d:Nat),EvI (λn=>F_ec n a (b:Int)) (s,(i:Int),((j+1:Nat):Int)) (s',(d:Int))/\d<=s'.length/\s'.take d=s.take i++ddA p r:=by
 intro r
 induction r with
 |nil=>
  intro s i j p e m B H E;refine⟨s,i,Ej ?_,by omega,by simp[ddA]⟩;have:=Xr.1 m;unfold F_ec;rw[YL (show¬(((j+1:Nat):Int)<((Int.toNat (a.length:Int)-Int.toNat (b:Int):Nat):Int))by omega)];exact Qa _
 |cons x r u=>
  intro s i j p e m B H E;obtain⟨l,w,G⟩:=Qky m;have z:=Qkm l (show(a.length:Int)=(s.length:Int)by rw[e]);have y:=Qkm B (show(a.length:Int)=(s.length:Int)by rw[e]);have w1:IntKind.i64.wrap (((j+1:Nat):Int)-1)=(j:Int):=by rw[Yu (by omega) (by omega)];omega
  have w2:IntKind.i64.wrap (((j+1:Nat):Int)+1)=((j+1+1:Nat):Int):=YX (by omega);have t:decide (((j+1:Nat):Int)<((Int.toNat (a.length:Int)-Int.toNat (b:Int):Nat):Int))=true:=Vw (by omega);have g:i<s.length:=by omega
  cases q:cmpF x p==0 with
  |true=>
   obtain⟨s',d,k,h,f⟩:=u s i (j+1) x e (by rw[show b+(j+1+1)=b+(j+1)+1 by omega];exact w) l (by omega) (by omega);refine⟨s',d,Ew ?_ k,h,by rw[f,Qnl q]⟩;unfold F_ec;simp only[t,Vr,z,w1,y,XM];refine Ea (Qhi x p) ?_;rw[q];simp only[Xg,Vs,XM,w2];exact Qa _
  |false=>
   have F:(s.set i x).length=a.length:=by rw[X6];exact e
   obtain⟨s',d,k,h,f⟩:=u (s.set i x) (i+1) (j+1) x F (by rw[show b+(j+1+1)=b+(j+1)+1 by omega,List.drop_set_of_lt (by omega)];exact w) (by rw[XS (by omega)];exact l) (by omega) (by rw[X6];omega);have w3:IntKind.i64.wrap ((i:Int)+1)=((i+1:Nat):Int):=YX (by omega);refine⟨s',d,Ew ?_ k,h,?_⟩
   .unfold F_ec;simp only[t,Vr,z,w1,y,XM];refine Ea (Qhi x p) ?_;rw[q];simp only[Xh,Vr,XM,w2,Jw (XN g),Ql9 s x g,w3];exact Qa _
   .rw[f,List.take_add_one,Xa g,List.take_set_of_le (XW _)];rw[Qnk q];simp
theorem Qiw(a:List Fact)(hl:a.length<=1048576):∀(r:List Fact) (k:Nat) (p:Fact),a.drop (k+1)=r->a[k]?=some p->k+1<=a.length->∃b:Ctl Unit (List Fact),EvI (λn=>F_fh n a) ((k+1:Nat):Int) b/\((b=.cont ()/\ddA p r=r)\/b=.done (a.take (k+1)++ddA p r)):=by
 intro r
 induction r with
 |nil=>
  intro k p l j u;refine⟨.cont (),Ej ?_,.inl ⟨rfl,rfl⟩⟩;have:=Xr.1 l;unfold F_fh;rw[YL (show¬(((k+1:Nat):Int)<(a.length:Int))by omega)];exact Qa _
 |cons x r w=>
  intro k p l j u;obtain⟨f,s,g⟩:=Qky l;have w1:IntKind.i64.wrap (((k+1:Nat):Int)-1)=(k:Int):=by rw[Yu (by omega) (by omega)];omega
  have w2:IntKind.i64.wrap (((k+1:Nat):Int)+1)=((k+1+1:Nat):Int):=YX (by omega);have m:decide (((k+1:Nat):Int)<(a.length:Int))=true:=Vw (by omega);cases q:cmpF x p==0 with
  |true=>
   obtain⟨t,y,h,d,i⟩:=Qiv a hl (k+1) r a (k+1) 0 x rfl s f (by omega) (by omega);refine⟨.done (a.take (k+1)++ddA p (x::r)),Ej ?_,.inr rfl⟩;unfold F_fh;simp only[m,Vr,Jw f,w1,Jw j,XM];refine Ea (Qhi x p) ?_;rw[q];simp only[Vr,Ql6 a (Nat.le_of_lt g),XM];refine Ea h.ev ?_;simp only[Qpc t d,XM];rw[i];rw[Qnl q];exact Qa _
  |false=>
   obtain⟨b,h,d⟩:=w (k+1) x s f g;have e:=Qnk (r:=r) q;refine⟨b,Ew ?_ h,?_⟩
   .unfold F_fh;simp only[m,Vr,Jw f,w1,Jw j,XM];refine Ea (Qhi x p) ?_;rw[q];simp only[Vs,w2];exact Qa _
   .rcases d with⟨d,i⟩|d
    .exact .inl ⟨d,by rw[e,i]⟩
    .refine .inr ?_;rw[d,e,List.take_add_one,f];simp
theorem Qit(a:List Fact)(hl:a.length<=1048576):Ev (λn=>F_at n a) (dd a):=by
 unfold F_at
 match a,hl with
 |[],_=>exact Qa _
 |[x],_=>exact Qa _
 |x::y::r,hl=>
  rw[YL (show¬(((x::y::r).length:Int)<2)by simp;omega)];refine Qaz ?_;obtain⟨b,d,e⟩:=Qiw (x::y::r) hl (y::r) 0 x rfl rfl (by simp);refine Ea d.ev ?_;rcases e with⟨rfl,f⟩|rfl
  .show Ev (λn=>some (x::y::r)) (x::ddA x (y::r));rw[f];exact Qa _
  .exact Qa _
theorem Qla(l:List Fact)(d:∀f∈l,validS f=true)(hl:l.length<=1048576):Ev (λn=>F_cw n l) (canonS l):=by
 unfold F_cw F_ei;simp only[Qgg hl,XM];have p:=Qn (ltC cmpF) l;refine Ea (QkL hl (λx _ y _=>Qfp x y) Qkz λx g y m e=>Qer (d x g) (d y m) e) ?_;refine Ea (Qit _ (by rw[p.length_eq];exact hl)) ?_;have s:(YG (ltC cmpF) l).Pairwise λa b=>¬cmpF b a<0:=List.Pairwise.imp (λq=>Vy q) (QR (Qb9 Qkz l));obtain⟨r,j⟩:=dd_ok s λx g=>d x (p.mem_iff.1 g);obtain⟨i,k⟩:=Jq l;refine Ev.eq (Qa _) (Qbn Qg5 QeX r i.1 λf=>?_);rw[j,p.mem_iff,k];exact⟨λh=>⟨h,d f h⟩,λh=>h.1⟩
def cmpN(x y:Ue):Int:=cmpI x.number y.number
theorem Qeq:CmpOK cmpN:=cmpI_ok.on λx:Ue=>x.number
def sortN(fs:List Ue):List Ue:=YG (ltC cmpN) fs
theorem Qkh{fs:List Ue}(h:(fs.map (·.number)).Nodup){x y:Ue}(f:x∈fs)(d:y∈fs)(e:x.number=y.number):x=y:=by
 induction fs with
 |nil=>cases f
 |cons a r g=>
  have b:a.number∉r.map (·.number)/\(r.map (·.number)).Nodup:=by rw[Vl,List.nodup_cons]at h;exact h
  rcases X8.1 f with q|q
  .rcases X8.1 d with z|z
   .rw[q,z]
   .exact absurd (Xe.2 ⟨y,z,by rw[<- e,q]⟩) b.1
  .rcases X8.1 d with z|z
   .exact absurd (Xe.2 ⟨x,q,by rw[e,z]⟩) b.1
   .exact g b.2 q z
theorem QkR{p q:List Ue}(h:p.Perm q)(f:(q.map (·.number)).Nodup):sortN p=sortN q:=by
 have d:(p.map (·.number)).Nodup:=(h.map _).nodup_iff.2 f;refine Jk (lt:=ltC cmpN) ((Qn _ p).trans (h.trans (Qn _ q).symm)) (λx e y g b a=>?_) (QR (Qb9 Qeq p)) (QR (Qb9 Qeq q));have b:=Vy b;have a:=Vy a;refine Qkh d ((Qn _ p).mem_iff.1 e) ((Qn _ p).mem_iff.1 g) (Qp9.1 ?_);have:=Qeq.swap x y;show cmpN x y=0;omega
def ltN(x y:Ue):Prop:=x.number<y.number
theorem QhI{p:List Ue}(e:(p.map (·.number)).Nodup):(sortN p).Pairwise ltN:=by
 have a:((sortN p).map (·.number)).Nodup:=((Qn _ p).map _).nodup_iff.2 e;have s:=QR (Qb9 Qeq p);have b:(sortN p).Pairwise λx y=>x.number≠y.number:=by
  unfold List.Nodup at a;rw[List.pairwise_map]at a;exact a
 refine List.Pairwise.imp₂ (λx y d f=>?_) s b;have d:¬cmpI y.number x.number<0:=Vy d;rw[QoA]at d;unfold ltN;omega
theorem QpT(x y:Ue):Ev (λn=>F_ai n x y) (cmpN x y==0):=by
 unfold F_ai F_aa;simp only[Qhk,XM];exact Qa _
theorem Qiu(fs:List Ue)(hl:fs.length<=1048576)(b:fs.Pairwise ltN):Ev (λn=>F_ba n fs) ():=by
 unfold F_ba;cases q:decide ((fs.length:Int)<2)with
 |true=>exact Qa _
 |false=>
  refine Qaz ?_;refine Ea (v:=()) ?_ (Qa _);have g:=Vy q;refine Ev.iter (λi=>((i+1:Nat):Int)) (fs.length-1) rfl (λi f=>?_) ?_
  .have d:fs[i+1]?=some fs[i+1]:=XN (by omega);have a:fs[i]?=some fs[i]:=XN (by omega);have w1:IntKind.i64.wrap (((i+1:Nat):Int)-1)=(i:Int):=by rw[Yu (by omega) (by omega)];omega
   have w2:IntKind.i64.wrap (((i+1:Nat):Int)+1)=((i+1+1:Nat):Int):=YX (by omega);unfold F_hs;rw[Vw (show(((i+1:Nat):Int)<(fs.length:Int))by omega)];simp only[Vr,Jw d,w1,Jw a,XM];refine Ea (QpT _ _) ?_;have lt:ltN fs[i] fs[i+1]:=VG.1 b i (i+1) (by omega) (by omega) (by omega);have e:(cmpN fs[i+1] fs[i]==0)=false:=by
    rw[VB];intro z;have h:fs[i+1].number=fs[i].number:=Qp9.1 z;unfold ltN at lt;omega
   rw[e];simp only[Vs,w2];exact Qa _
  .unfold F_hs;rw[YL (show¬(((fs.length-1+1:Nat):Int)<(fs.length:Int))by omega)];exact Qa _
theorem Qjq(fs:List Ue)(hl:fs.length<=1048576)(a:(fs.map (·.number)).Nodup):Ev (λn=>F_bh n fs) (sortN fs):=by
 unfold F_bh F_do;simp only[Qgg hl,XM];refine Ea (v:=sortN fs) (QkL hl (λx _ y _=>?_) Qeq λx b y d e=>Qkh a b d (Qp9.1 e)) ?_
 .unfold F_aa;simp only[Qhk,XM];exact Qa _
 .refine Ea (v:=()) (Qiu _ ?_ (QhI a)) (Qa _);unfold sortN;rw[(Qn _ fs).length_eq];exact hl
theorem Qe8(fs:List Ue)(k:Int):(Qaj fs k).length<=fs.length+1:=by
 unfold Qaj;cases fs.any λx=>decide (x.number=k)<;>simp
theorem QeA(fs:List Ue)(k:Int)(g:Ue->Ue):(Qbm fs k g).length=fs.length:=by unfold Qbm;rw[X4]
theorem QoC{fs a:List Ue}{k i:Int}{f:Fact}(h:filesAdd fs k i f=some a):a.length=fs.length:=by
 unfold filesAdd at h;cases d:(i==0)<;>cases e:(i==1)<;>cases b:(i==2)<;>rw[d,e,b]at h<;>first|(cases h;done)|(cases h;rw[QeA])
theorem QlZ{fs a:List Ue}{f:Fact}(h:filesStep fs f=some a):a.length<=fs.length+1:=by
 unfold filesStep at h;cases g:(f.Kind==10)with
 |true=>
  rw[g,Vr]at h;cases d:QdR (Qaj fs f.Ruling.Case)with
  |true=>rw[d,Vr]at h;rw[QoC h];exact Qe8 _ _
  |false=>rw[d]at h;cases h
 |false=>
  rw[g,Vs]at h;cases d:(f.Kind==8)with
  |true=>
   rw[d,Vr]at h;cases b:QdR (Qaj fs f.Report.Case)with
   |true=>rw[b,Vr]at h;cases h;rw[QeA];exact Qe8 _ _
   |false=>rw[b]at h;cases h
  |false=>
   rw[d,Vs]at h;cases b:(f.Kind==11)with
   |true=>
    rw[b,Vr]at h;cases e:f.Appeal.Suspends with
    |true=>rw[e,Vr]at h;cases h;rw[QeA];exact Qe8 _ _
    |false=>rw[e]at h;cases h;omega
   |false=>rw[b]at h;cases h;omega
theorem Qle(C:List Fact)(u:∀f∈C,validS f=true)(hl:C.length<=1048576):∃fs,Ev (λn=>Go.Sw.iter (filesL n C) n (([]:List Ue),0)) fs/\FilesOf C fs/\fs.length<=C.length:=by
 have loop:∀(r:List Fact) (i:Nat) (s:List Ue),C.drop i=r->i<=C.length->FilesOf (C.take i) s->s.length<=i->∃fs,EvI (λn=>filesL n C) (s,(i:Int)) fs/\FilesOf C fs/\fs.length<=C.length:=by
  intro r
  induction r with
  |nil=>
   intro i s b k e j;refine⟨s,Ej ?_,?_,by omega⟩
   .unfold filesL;simp only[YH b k,Vs];exact Qa _
   .rw[VK (Xr.1 b)]at e;exact e
  |cons f r q=>
   intro i s b k e j;obtain⟨a,h⟩:=QW (by omega) b;have t:=a.lt';obtain⟨m,g,d⟩:=Qhe e (by rw[Xz];omega) (u f a.mem);rw[<- a.take]at d;obtain⟨fs,l,p⟩:=q (i+1) m h (by omega) d (by have:=QlZ g;omega);refine⟨fs,Ew ?_ l,p⟩;unfold filesL;simp only[a.lt,Vr,a.ix,XM,g,a.nx];exact Qa _
 obtain⟨fs,g,d⟩:=loop C 0 [] rfl (XX _) FilesOf.nil (XW _);exact⟨fs,g.ev,d⟩
theorem Qfq:∀(p:List (Int×Ue)) (s:List Ue) (n:Nat),s.length+p.length<=1048576->QeH (F_gp n) (F_hg n) s p=some (s++p.map Prod.snd)
 |[],s,n,_=>by unfold QeH F_hg;simp
 |e::p,s,n,h=>by
  rw[X3]at h;have h1:F_gp n s e=some (.cont (s++[e.2])):=by
   unfold F_gp;rw[Qbw _ _ (by omega)];rfl
  unfold QeH;rw[h1];show QeH _ _ (s++[e.2]) p=_;rw[Qfq p _ n (by simp;omega)];simp
theorem FilesOf.perm{C:List Fact}{fs gs:List Ue}(h:FilesOf C fs)(p:gs.Perm fs):FilesOf C gs:=
 ⟨(p.map _).nodup_iff.2 h.num,λx hx=>h.each x (p.mem_iff.1 hx),λk=>by rw[(p.map _).mem_iff];exact h.mem k⟩
theorem Qm6(l:List Fact)(hl:l.length<=100):∃fs,Ev (λn=>F_y n l) fs/\FilesOf (canonS l) fs/\fs.Pairwise ltN/\fs.length<=(canonS l).length:=by
 have r:∀f∈l.filter validS,validS f=true:=λf g=>(Xd.1 g).2;have e:canonS (l.filter validS)=canonS l:=QjE λf g=>by rw[Xd];simp[g]
 obtain⟨q,z⟩:=Jq l;have s:=Qfv l;obtain⟨fs,w,b,t⟩:=Qle (canonS l) q.2 (by omega);refine⟨sortN fs,?_,b.perm (Qn _ fs),QhI b.num,by unfold sortN;rw[(Qn _ fs).length_eq];exact t⟩;unfold F_y;refine Ea (v:=l.filter validS) (QfL l validS (by omega) (λi x a d k=>?_) λa=>?_) ?_
 .have u:=d.lt';unfold F_hh;simp only[d.lt,Vr,d.ix,XM,d.nx];refine Ea (Qcp x) ?_;cases validS x with
  |true=>
   simp only[Vr];rw[Qbw a x (by omega)];exact Qa _
  |false=>exact Qa _
 .unfold F_hh;simp only[Qbt,Vs];exact Qa _
 refine Ea (v:=canonS l) ((Qla _ r (XY (VP ..) (by omega))).eq e) ?_;refine Ea w ?_;refine Ev.anyP λp h=>?_;have y:p.length=fs.length:=by rw[h.length_eq];unfold Qef;rw[X4]
 have j:(p.map Prod.snd).Perm fs:=by
  have:=h.map Prod.snd;unfold Qef at this;rw[List.map_map]at this;have m:(fs.map (Prod.snd ∘ λx:Ue=>(x.number,x)))=fs:=by
   conv=>rhs;rw[<- List.map_id fs]
   rfl
  rw[m]at this;exact this
 simp only[Qfq p [] _ (by simp;omega),Vj,XM];refine Ea (Qjq _ (by rw[X4];omega) ((j.map _).nodup_iff.2 b.num)) ?_;rw[QkR j b.num];exact Qa _
def numsC(C:List Fact):List Int:=QiA (YG ltI (C.filterMap caseN))
theorem QcV(C:List Fact):(numsC C).Pairwise (· < ·)/\ ∀k,k∈numsC C↔ ∃f∈C,caseN f=some k:=by
 obtain⟨b,a⟩:=QjA (C.filterMap caseN);refine⟨b,λk=>?_⟩;unfold numsC;rw[a,List.mem_filterMap]
def filesS(C:List Fact):List Ue:=(numsC C).map (fileOf C)
theorem Qk8{C:List Fact}{fs:List Ue}(h:FilesOf C fs)(s:fs.Pairwise ltN):fs=filesS C:=by
 obtain⟨g,f⟩:=QcV C;have e:fs.map (·.number)=numsC C:=by
  refine Qdo (lt:=λa b:Int=>a<b) (λa b h=>by omega) ?_ g λk=>?_
  .rw[List.pairwise_map];exact s
  .rw[h.mem k,f k]
 unfold filesS;rw[<- e,List.map_map];have:∀x∈fs,(fileOf C ∘ λx:Ue=>x.number) x=x:=λx d=>(h.each x d).symm
 conv=>lhs;rw[<- List.map_id fs]
 exact List.map_congr_left λx d=>(this x d).symm
theorem Qgs(l:List Fact)(hl:l.length<=100):Ev (λn=>F_y n l) (filesS (canonS l)):=by
 obtain⟨e,b,a,d,_⟩:=Qm6 l hl;rw[<- Qk8 a d];exact b
theorem Qjo(C:List Fact):(filesS C).length<=C.length:=by
 unfold filesS numsC;rw[X4];have d:∀(l:List Int) (p:Int),(QaR p l).length<=l.length:=by
  intro l
  induction l with
  |nil=>intro p;exact XW _
  |cons x r a=>
   intro p;unfold QaR;have:=a x;have:=a p;cases(x==p)<;>simp<;>omega
 have b:∀l:List Int,(QiA l).length<=l.length:=λl=>by
  cases l with
  |nil=>exact XW _
  |cons x r=>unfold QiA;simp only[X3];have:=d r x;omega
 refine XY (b _) ?_;rw[(Qn _ _).length_eq];exact List.length_filterMap_le ..
def suspF(x:Ue):Bool:=x.appeal&&(!x.r1.isEmpty&&x.r2.isEmpty)
def forceF(x:Ue):Option Ruling:=bif suspF x then none else((x.r2++x.r1).head?).map (·.Ruling)
theorem Qk9{C:List Fact}{k:Int}{f:Fact}(h:f∈(fileOf C k).r1\/f∈(fileOf C k).r2):f∈C/\f.Kind=10/\f.Ruling.Case=k:=by
 have one:∀i,f∈C.filter (rulB k i)->f∈C/\f.Kind=10/\f.Ruling.Case=k:=λi h=>by
  rw[Xd]at h;have q:=h.2;unfold rulB at q;simp only[XZ,VA]at q;exact⟨h.1,q.1,q.2.1⟩
 rcases h with h|h
 .exact one _ h
 .exact one _ h
theorem Qjm{C:List Fact}{k:Int}{g:Ruling}(h:forceF (fileOf C k)=some g):g.Case=k:=by
 unfold forceF at h;cases q:suspF (fileOf C k)with
 |true=>rw[q]at h;cases h
 |false=>
  rw[q,Vs,Option.map_eq_some_iff]at h;obtain⟨f,d,a⟩:=h;have b:=List.mem_of_head? d;rw[<- a];exact(Qk9 ((VF.1 b).symm)).2.2
def keyF(x:Ue):Int×Option Ruling×List Report:=(x.number,forceF x,x.reports)
def secB(l:List Fact)(k:Int):Bool:=l.any λg=>rulB k 2 g&&validS g
def restB(l:List Fact)(f:Fact):Bool:= !(((f.Kind==10)&&((f.Ruling.Instance==1)&&secB l f.Ruling.Case))||((f.Kind==11)&&secB l f.Appeal.Case))
theorem Qhp(l:List Fact)(q:Fact->Bool):canonS (l.filter q)=(canonS l).filter q:=by
 obtain⟨d,e⟩:=Jq (l.filter q);obtain⟨b,a⟩:=Jq l;refine Qbn Qg5 QeX d.1 (b.1.filter _) λf=>?_;rw[e,Xd,Xd,a];exact⟨λh=>⟨⟨h.1.1,h.2⟩,h.1.2⟩,λh=>⟨⟨h.1.1,h.2⟩,h.1.2⟩⟩
theorem QbV{α:Type}{p q:α->Bool}{l:List α}(h:∀x∈l,p x=true->q x=true):(l.filter q).filter p=l.filter p:=by
 rw[List.filter_filter];refine List.filter_congr λx a=>?_;cases z:p x with
 |false=>rfl
 |true=>rw[h x a z];rfl
theorem Qf1(l:List Fact)(k:Int):secB l k= !((canonS l).filter (rulB k 2)).isEmpty:=by
 unfold secB;rw[X0,Xu,Bool.not_eq_true'];constructor
 .rintro⟨g,f,d⟩;rw[XZ]at d;rw[<- Bool.not_eq_true,List.isEmpty_iff];intro z;have:g∈(canonS l).filter (rulB k 2):=Xd.2 ⟨((Jq l).2 g).2 ⟨f,d.2⟩,d.1⟩;rw[z]at this;cases this
 .intro h;cases z:(canonS l).filter (rulB k 2)with
  |nil=>rw[z]at h;cases h
  |cons g r=>
   have e:g∈(canonS l).filter (rulB k 2):=by rw[z];simp
   rw[Xd]at e;obtain⟨a,b⟩:=((Jq l).2 g).1 e.1;exact⟨g,a,by rw[e.2,b];rfl⟩
theorem Qkb(l:List Fact)(k:Int):((canonS l).filter (restB l)).filter (rulB k 2)=(canonS l).filter (rulB k 2):=by
 refine QbV λf _ h=>?_;unfold rulB at h;simp only[XZ,VA]at h;unfold restB;rw[h.1,h.2.2];rfl
theorem Qmd(l:List Fact)(k:Int):((canonS l).filter (restB l)).filter (repB k)=(canonS l).filter (repB k):=by
 refine QbV λf _ h=>?_;unfold repB at h;simp only[XZ,VA]at h;unfold restB;rw[h.1];rfl
theorem Qn7{l:List Fact}{k:Int}(a:secB l k=false):((canonS l).filter (restB l)).filter (rulB k 1)=(canonS l).filter (rulB k 1):=by
 refine QbV λf _ h=>?_;unfold rulB at h;simp only[XZ,VA]at h;unfold restB;rw[h.1,h.2.1,h.2.2,a];rfl
theorem Qmf{l:List Fact}{k:Int}(d:secB l k=false):((canonS l).filter (restB l)).any (appB k)=(canonS l).any (appB k):=by
 rw[X0,Xu,Xu];constructor
 .rintro⟨f,b,a⟩;exact⟨f,(Xd.1 b).1,a⟩
 .rintro⟨f,b,a⟩;refine⟨f,Xd.2 ⟨b,?_⟩,a⟩;unfold appB at a;simp only[XZ,VA]at a;unfold restB;rw[a.1,a.2.2,d];rfl
theorem Qme(l:List Fact)(k:Int):keyF (fileOf ((canonS l).filter (restB l)) k)=keyF (fileOf (canonS l) k):=by
 have e:(fileOf ((canonS l).filter (restB l)) k).reports=(fileOf (canonS l) k).reports:=by
  show(((canonS l).filter (restB l)).filter (repB k)).map _=((canonS l).filter (repB k)).map _;rw[Qmd]
 have b:(fileOf ((canonS l).filter (restB l)) k).r2=(fileOf (canonS l) k).r2:=Qkb l k;unfold keyF;rw[e];show((k,_,_):Int×Option Ruling×List Report)=(k,_,_);have d:forceF (fileOf ((canonS l).filter (restB l)) k)=forceF (fileOf (canonS l) k):=by
  have a:=Qf1 l k;cases q:secB l k with
  |true=>
   rw[q]at a;unfold forceF suspF;rw[b];cases z:(fileOf (canonS l) k).r2 with
   |nil=>
    have h:(canonS l).filter (rulB k 2)=[]:=z;rw[h]at a;cases a
   |cons g r=>simp
  |false=>
   have i:(fileOf ((canonS l).filter (restB l)) k).r1=(fileOf (canonS l) k).r1:=Qn7 q;have f:(fileOf ((canonS l).filter (restB l)) k).appeal=(fileOf (canonS l) k).appeal:=Qmf q;unfold forceF suspF;rw[i,b,f]
 rw[d]
theorem QkT(l:List Fact):numsC ((canonS l).filter (restB l))=numsC (canonS l):=by
 obtain⟨u,x⟩:=QcV ((canonS l).filter (restB l));obtain⟨t,w⟩:=QcV (canonS l);refine Qdo (lt:=λa b:Int=>a<b) (λa b h=>by omega) u t λk=>?_;rw[x,w];constructor
 .rintro⟨f,j,d⟩;exact⟨f,(Xd.1 j).1,d⟩
 .rintro⟨f,j,d⟩;cases q:restB l f with
  |true=>exact⟨f,Xd.2 ⟨j,q⟩,d⟩
  |false=>
   have s:secB l k=true:=by
    unfold restB at q;rw[Bool.not_eq_false',Bool.or_eq_true]at q;unfold caseN at d;rcases q with q|q
    .simp only[XZ]at q;rw[q.1,Vr,Option.some.injEq]at d;rw[<- d];exact q.2.2
    .simp only[XZ]at q;have i:f.Kind=11:=by simpa using q.1
     rw[i]at d;cases p:f.Appeal.Suspends with
     |false=>rw[p]at d;cases d
     |true=>
      rw[p]at d;have e:some f.Appeal.Case=some k:=d;rw[Option.some.injEq]at e;rw[<- e];exact q.2
   have m:=Qf1 l k;rw[s]at m;cases z:(canonS l).filter (rulB k 2)with
   |nil=>rw[z]at m;cases m
   |cons g r=>
    have n:g∈(canonS l).filter (rulB k 2):=by rw[z];simp
    refine⟨g,?_,Qag (Xd.1 n).2⟩;rw[<- Qkb,Xd]at n;exact n.1
theorem QkU(l:List Fact):(filesS (canonS (l.filter (restB l)))).map keyF=(filesS (canonS l)).map keyF:=by
 rw[Qhp];unfold filesS;rw[QkT,List.map_map,List.map_map];exact List.map_congr_left λk _=>Qme l k
section
variable {α β:Type}
theorem Qe9(f:α->Option β):∀(l:List α) (a:List β),l.foldl (λa x=>a++(f x).toList) a=a++l.filterMap f
 |[],a=>by simp
 |x::l,a=>by
  rw[XG,Qe9 f l,List.filterMap_cons];cases f x<;>simp
theorem QnQ{step:Nat->List β×Int->Option (Ctl (List β×Int) (List β))}(l:List α)(f:α->Option β)(hl:l.length<=1048576)
  (d:∀i x a,At l i x->a.length<=i->Ev (λn=>step n (a,(i:Int))) (.cont (a++(f x).toList,((i+1:Nat):Int))))
  (b:∀a,Ev (λn=>step n (a,(l.length:Int))) (.done a)):Ev (λn=>Go.Sw.iter (step n) n ([],0)) (l.filterMap f):=by
 have e:l.filterMap f=l.foldl (λa x=>a++(f x).toList) []:=by rw[Qe9];rfl
 rw[e];refine Yq l (λa x=>a++(f x).toList) [] (λa i=>(a,(i:Int))) (λa=>a) (by omega) rfl (λi x a h g=>d i x a h ?_) (b _);rw[g,Qe9,Vj];exact XY (List.length_filterMap_le ..) (by rw[Xz];omega)
theorem Qca(l:List α):decide (0<(l.length:Int))= !l.isEmpty:=by
 cases l with
 |nil=>rfl
 |cons a l=>exact Yt (by simp only[X3];omega)
theorem QmI(l:List α):((l.length:Int)==0)=l.isEmpty:=by
 cases l with
 |nil=>rfl
 |cons a l=>
  show _=false;simp only[X3,VB,ne_eq];omega
end
theorem Qno(c:Course)(a:Course.wf c):∃b,Ev (λn=>F_ae n c) b/\(b=true->FewOk c/\Ev (λn=>F_s n c) (courseE c)):=by
 have w:=QiW a;have q:=QjO a;obtain⟨f,d⟩:=Qn5 a;obtain⟨b,g,fb⟩:=Qhl c w q f d;exact⟨b,g,λe=>⟨fb e,Qlg c w q (fb e) f d⟩⟩
abbrev KeyT:=Int×Option Ruling×List Report
def keysOf(l:List Fact):List KeyT:=(filesS (canonS l)).map keyF
structure KeysOk (K:List KeyT):Prop where
 inc:(K.map (·.1)).Pairwise (· < ·)
 rul:∀x∈K,∀g,x.2.1=some g->g.Case=x.1
 rep:∀x∈K,∀r,x.2.2.head? =some r->r.Case=x.1
theorem Qog(l:List Fact):KeysOk (keysOf l):=by
 have a:∀x∈keysOf l,∃k,x=keyF (fileOf (canonS l) k):=λx a=>by
  unfold keysOf filesS at a;rw[List.map_map]at a;obtain⟨k,_,rfl⟩:=Xe.1 a;exact⟨k,rfl⟩
 refine⟨?_,λx h g i=>?_,λx h r e=>?_⟩
 .unfold keysOf filesS;rw[List.map_map,List.map_map];have:(((λx:KeyT=>x.1) ∘ keyF) ∘ fileOf (canonS l))=λk=>k:=rfl;rw[this,List.map_id'];exact(QcV _).1
 .obtain⟨k,rfl⟩:=a x h;exact Qjm i
 .obtain⟨k,rfl⟩:=a x h;have d:=List.mem_of_head? e;obtain⟨f,b,rfl⟩:=Xe.1 (show r∈((canonS l).filter (repB k)).map (·.Report)from d);have:=(Xd.1 b).2;unfold repB at this;rw[XZ,VA,VA]at this;exact this.2
theorem QbS(l:List Fact):(keysOf l).length<=l.length:=by
 unfold keysOf;rw[X4];exact XY (Qjo _) (Qfv l)
theorem Qjw(l:List Fact)(hl:l.length<=100):Ev (λn=>F_ce n l) ((keysOf l).filterMap λx=>x.2.2.head?):=by
 unfold F_ce;refine Ea (Qgs l hl) ?_;have e:(keysOf l).filterMap (λx=>x.2.2.head?)=(filesS (canonS l)).filterMap λx=>x.reports.head? :=by
  unfold keysOf;rw[List.filterMap_map];rfl
 have g:(filesS (canonS l)).length<=100:=by have:=QbS l;unfold keysOf at this;rw[X4]at this;omega
 rw[e];generalize filesS (canonS l)=fs at g;refine Ea (QnQ fs (λx=>x.reports.head?) (by omega) (λi x a b f=>?_) λa=>?_) (Qa _)
 .unfold F_hf;simp only[b.lt,Vr,b.ix,XM,b.nx,Qca];have:=b.lt';cases h:x.reports with
  |nil=>exact(Qa _).eq (by simp)
  |cons r d=>
   have j:idx (r::d) 0=some r:=rfl;simp only[List.isEmpty_cons,Xh,Vr,j,XM];rw[Qcc _ _ (by simp;omega)];exact Qa _
 .unfold F_hf;simp only[Qbt,Vs];exact Qa _
theorem Qm5(x:Ue):Ev (λn=>F_bn n x) (match forceF x with|some g=>(g,true)|none=>(Ux,false)):=by
 have b:idx ([x.r0,x.r1,x.r2]:List (List Fact)) 1=some x.r1:=rfl;have d:idx ([x.r0,x.r1,x.r2]:List (List Fact)) 2=some x.r2:=rfl;unfold F_bn;refine Ea (v:=suspF x) ?_ ?_
 .unfold F_fg;simp only[b,d,XM,Qca,QmI];refine Ea (v:=suspF x) ?_ (Qa _);unfold suspF;cases x.appeal<;>cases x.r1.isEmpty<;>exact Qa _
 unfold forceF;cases m:suspF x with
 |true=>exact Qa _
 |false=>
  simp only[Vs];have h:decide ((0:Int)<2)=true:=rfl;have e:decide ((0:Int)<1)=true:=rfl;have k:decide ((0:Int)<0)=false:=rfl;have w1:IntKind.i64.wrap (2-1)=1:=rfl;have l:IntKind.i64.wrap (1-1)=0:=rfl;refine Ea (v:=match(x.r2++x.r1).head? with|some f=>Ctl.done (f.Ruling,true)|none=>Ctl.cont ()) (EvI.ev ?_) ?_
  .cases i:x.r2 with
   |cons f r=>
    refine Ej ?_;have a:idx (f::r) 0=some f:=rfl;unfold F_cf;simp only[h,Vr,d,XM,Qca,i,List.isEmpty_cons,Xh,a];exact Qa _
   |nil=>
    refine Ew (s':=1) ?_ ?_
    .unfold F_cf;simp only[h,Vr,d,XM,Qca,i,List.isEmpty_nil,Xg,Vs,w1];exact Qa _
    rw[Vj];cases j:x.r1 with
    |cons f r=>
     refine Ej ?_;have a:idx (f::r) 0=some f:=rfl;unfold F_cf;simp only[e,Vr,b,XM,Qca,j,List.isEmpty_cons,Xh,a];exact Qa _
    |nil=>
     refine Ew (s':=0) ?_ (Ej ?_)
     .unfold F_cf;simp only[e,Vr,b,XM,Qca,j,List.isEmpty_nil,Xg,Vs,l];exact Qa _
     .unfold F_cf;simp only[k,Vs];exact Qa _
  .cases(x.r2++x.r1).head? <;>exact Qa _
theorem QpV(l:List Fact)(hl:l.length<=100):Ev (λn=>F_ci n l) ((keysOf l).filterMap λx=>x.2.1):=by
 unfold F_ci;refine Ea (Qgs l hl) ?_;have e:(keysOf l).filterMap (λx=>x.2.1)=(filesS (canonS l)).filterMap forceF:=by
  unfold keysOf;rw[List.filterMap_map];rfl
 have d:(filesS (canonS l)).length<=100:=by have:=QbS l;unfold keysOf at this;rw[X4]at this;omega
 rw[e];generalize filesS (canonS l)=fs at d;refine Ea (QnQ fs forceF (by omega) (λi x a b f=>?_) λa=>?_) (Qa _)
 .unfold F_hu;simp only[b.lt,Vr,b.ix,XM,b.nx];have:=b.lt';refine Ea (Qm5 x) ?_;cases h:forceF x with
  |none=>exact(Qa _).eq (by simp)
  |some g=>
   simp only[Vr];rw[Qcc _ _ (by simp;omega)];exact Qa _
 .unfold F_hu;simp only[Qbt,Vs];exact Qa _
section
variable {S T B:Type} {step:Nat->S->Option (List T×Ctl S B)} {s s':S} {b:B} {xs ys:List T}
def EvL(step:Nat->S->Option (List T×Ctl S B))(s:S)(ys:List T)(b:B):Prop:=∃N,∀n k,N<=n->N<=k->QbT (step n) k s=some (ys,b)
theorem EvL.done(h:Ev (λn=>step n s) (ys,.done b)):EvL step s ys b:=by
 obtain⟨N,h⟩:=h;refine⟨N+1,λn k f d=>?_⟩;obtain⟨a,rfl⟩:∃a,k=a+1:=⟨k-1,by omega⟩;have e:step n s=some (ys,.done b):=h n (by omega);unfold QbT;rw[e];rfl
theorem EvL.cont(h:Ev (λn=>step n s) (xs,.cont s'))(q:EvL step s' ys b):EvL step s (xs++ys) b:=by
 obtain⟨N,h⟩:=h;obtain⟨M,q⟩:=q;refine⟨max N M+1,λn k f d=>?_⟩;obtain⟨a,rfl⟩:∃a,k=a+1:=⟨k-1,by omega⟩;have e:step n s=some (xs,.cont s'):=h n (by omega);unfold QbT;rw[e];show(QbT (step n) a s').bind _=_;rw[q n a (by omega) (by omega)];rfl
theorem EvL.ev(h:EvL step s ys b):Ev (λn=>QbT (step n) n s) (ys,b):=by
 obtain⟨N,h⟩:=h;exact⟨N,λn a=>h n n a a⟩
end
def viaR(c:Course)(k:Int):Option Report->Option Ud
 |none=>none
 |some r=>bif decide (r.Offence<0)||decide ((c.Offences.length:Int)<=r.Offence)then none else
  (idx c.Offences r.Offence).map λo=>{number:=k,bib:=r.Bib,penalty:={Position:=r.Position,Time:=o.Time,Laps:=o.Laps,Out:=o.Out}}
def rulP(k:Int)(g:Ruling):Option Ud:=
 bif g.Kind==5 then some {number:=k,bib:=g.Bib,penalty:={Position:=g.Position,Time:=0,Laps:=0,Out:=true}}else
 bif g.Kind==4 then some {number:=k,bib:=g.Bib,penalty:={Position:=g.Position,Time:=0,Laps:=g.Amount,Out:=false}}else
 bif g.Kind==3 then some {number:=k,bib:=g.Bib,penalty:={Position:=g.Position,Time:=g.Amount,Laps:=0,Out:=false}}else none
def givenK(c:Course)(x:KeyT):Option Ud:=
 match x.2.1 with
 |some g=>bif (g.Kind==5)||((g.Kind==4)||(g.Kind==3))then rulP x.1 g else bif g.Kind==2 then none else viaR c x.1 x.2.2.head?
 |none=>viaR c x.1 x.2.2.head?
def lookK(K:List KeyT)(k:Int):Option KeyT:=K.find? λx=>x.1==k
theorem QeZ(x:KeyT)(K:List KeyT)(k:Int):lookK (x::K) k=if x.1=k then some x else lookK K k:=by
 unfold lookK;rw[List.find?_cons];by_cases h:x.1=k
 .rw[Vv h,h,beq_self_eq_true]
 .rw[Vu h,show(x.1==k)=false from VB.2 h]
theorem QeY{K:List KeyT}{k:Int}(h:k∉K.map (·.1)):lookK K k=none:=by
 refine List.find?_eq_none.2 λx a q=>h ?_;rw[VA]at q;exact Xe.2 ⟨x,a,q⟩
theorem Qh0:∀{K:List KeyT},(K.map (·.1)).Nodup->∀{x:KeyT},x∈K->lookK K x.1=some x
 |[],_,x,h=>by cases h
 |y::K,hn,x,h=>by
  rw[Vl,List.nodup_cons]at hn;rw[QeZ];rcases X8.1 h with rfl|h
  .rw[Vv rfl]
  .rw[Vu λq=>hn.1 (by rw[q];exact Xe.2 ⟨x,h,rfl⟩)];exact Qh0 hn.2 h
theorem Qc0{β:Type}(key:β->Int)(f:KeyT->Option β):∀(K:List KeyT) (m:List (Int×β)),(K.map (·.1)).Nodup->(∀x∈K,∀y,f x=some y->key y=x.1)->∀k,
  YC ((K.filterMap f).foldl (λm y=>QG m (key y) y) m) k=match(lookK K k).bind f with|some v=>some v|none=>YC m k
 |[],m,_,_,k=>rfl
 |x::K,m,hn,hk,k=>by
  rw[Vl,List.nodup_cons]at hn;have hk':∀x∈K,∀y,f x=some y->key y=x.1:=λz hz=>hk z (by simp[hz]);rw[List.filterMap_cons,QeZ];cases hf:f x with
  |none=>
   simp only;rw[Qc0 key f K m hn.2 hk' k];by_cases e:x.1=k
   .rw[Vv e,QeY (by rw[<- e];exact hn.1)];simp[hf]
   .rw[Vu e]
  |some y=>
   simp only[XG];rw[Qc0 key f K _ hn.2 hk' k];have hy:=hk x (by simp) y hf;by_cases e:x.1=k
   .rw[Vv e,QeY (by rw[<- e];exact hn.1)];simp only[Option.bind_none,XM,hf];rw[YY,Vv (by rw[hy,e])]
   .rw[Vu e];cases(lookK K k).bind f with
    |some v=>rfl
    |none=>
     simp only;rw[YY,Vu (by rw[hy];exact λq=>e q.symm)]
theorem QdC{β:Type}(a:β->Int):∀(L:List β) (m:List (Int×Bool)),(m.map Prod.fst).Nodup->(((L.foldl (λm y=>QG m (a y) true) m).map Prod.fst).Nodup/\(L.foldl (λm y=>QG m (a y) true) m).length<=m.length+L.length/\ ∀k,k∈(L.foldl (λm y=>QG m (a y) true) m).map Prod.fst↔k∈m.map Prod.fst\/k∈L.map a)
 |[],m,h=>⟨h,by simp,λk=>by simp⟩
 |y::L,m,h=>by
  rw[XG];obtain⟨i1,i2,i3⟩:=QdC a L (QG m (a y) true) (Qjf _ _ h);refine⟨i1,?_,λk=>?_⟩
  .have:=QmE m (a y) true;simp only[X3];omega
  .rw[i3,Vl,X8];have:k∈(QG m (a y) true).map Prod.fst↔k=a y\/k∈m.map Prod.fst:=by
    rw[QhY,QhY];constructor
    .rintro⟨v,b⟩;rw[YY]at b;by_cases z:k=a y
     .exact .inl z
     .rw[Vu z]at b;exact .inr ⟨v,b⟩
    .rintro(z|⟨v,b⟩)
     .exact⟨true,by rw[YY,Vv z]⟩
     .by_cases z:k=a y
      .exact⟨true,by rw[YY,Vv z]⟩
      .exact⟨v,by rw[YY,Vu z];exact b⟩
   rw[this];constructor
   .rintro((h|h)|h)
    .exact .inr (.inl h)
    .exact .inl h
    .exact .inr (.inr h)
   .rintro(h|h|h)
    .exact .inl (.inr h)
    .exact .inl (.inl h)
    .exact .inr h
def effM:List (Int×Uc):=QG (QG (QG [] 3 ⟨143⟩) 4 ⟨144⟩) 5 ⟨145⟩
theorem Qnf(k:Int):YC effM k=if k=5 then some ⟨145⟩else if k=4 then some ⟨144⟩else if k=3 then some ⟨143⟩else none:=by
 unfold effM;rw[YY,YY,YY];rfl
theorem Qk0{β:Type}(m:List (Int×β))(k:Int)(z:β):QK m k z=(YC m k).getD z:=rfl
section
variable {c:Course} {K:List KeyT} {m1:List (Int×Report)×List (Int×Bool)} {m2:List (Int×Ruling)×List (Int×Bool)} {S:List Int}
theorem Qm4(B:∀k,YC m1.1 k=(lookK K k).bind λx=>x.2.2.head?)(y:∀k,YC m2.1 k=(lookK K k).bind λx=>x.2.1){i:Nat}{x:KeyT}(q:At S i x.1)(w:lookK K x.1=some x):
  Ev (λn=>F_eu n c m1 m2 effM S (i:Int)) ((givenK c x).toList,.cont ((i+1:Nat):Int)):=by
 unfold F_eu;simp only[q.lt,Vr,q.ix,XM,q.nx,Qk0,QhX,B,y,w,Qnf];have j:∀(r:Option Report),Ev (λn=>((bif (!r.isSome)then some true else(bif decide ((r.getD Uw).Offence<0)then some true else some (decide ((c.Offences.length:Int)<=(r.getD Uw).Offence)))):Option Bool).bind λh=>(bif h then some ([],.cont ((i+1:Nat):Int))else(idx c.Offences (r.getD Uw).Offence).bind λd=>yl ({number:=x.1,bib:=(r.getD Uw).Bib,penalty:={Position:=(r.getD Uw).Position,Time:=d.Time,Laps:=d.Laps,Out:=d.Out:Penalty}:Ud}) (some ([],.cont ((i+1:Nat):Int)))))
   (((viaR c x.1 r).toList,.cont ((i+1:Nat):Int)):(List Ud)×Ctl Int Unit):=by
  intro r;cases r with
  |none=>exact Qa _
  |some r=>
   simp only[Option.isSome_some,Xg,Vs,Option.getD_some,viaR];cases t:decide (r.Offence<0)with
   |true=>exact Qa _
   |false=>
    cases E:decide ((c.Offences.length:Int)<=r.Offence)with
    |true=>exact Qa _
    |false=>
     simp only[Vs,XM,Bool.or_self];have a:=Vy t;have b:=Vy E;have:idx c.Offences r.Offence=some (c.Offences[r.Offence.toNat]'(by omega)):=by
      unfold idx;rw[Yt (by omega),Vr,XN]
     rw[this];exact Qa _
 cases f:x.2.1 with
 |none=>
  have e:givenK c x=viaR c x.1 x.2.2.head? :=by unfold givenK;rw[f]
  rw[e];have u:¬Ux.Kind=5:=by decide
  have s:¬Ux.Kind=4:=by decide
  have z:¬Ux.Kind=3:=by decide
  simp only[f,Option.getD_none,Option.isSome_none,Vu u,Vu s,Vu z,QeW,XM,Vs];exact j _
 |some g=>
  simp only[XM,Option.isSome_some,Vr,f,Option.getD_some];by_cases p:g.Kind=5
  .have e:givenK c x=some {number:=x.1,bib:=g.Bib,penalty:={Position:=g.Position,Time:=0,Laps:=0,Out:=true}}:=by unfold givenK rulP;rw[f];simp[p]
   rw[e];simp only[p,if_true,QeW,XM,Vr];exact Qa _
  by_cases l:g.Kind=4
  .have e:givenK c x=some {number:=x.1,bib:=g.Bib,penalty:={Position:=g.Position,Time:=0,Laps:=g.Amount,Out:=false}}:=by unfold givenK rulP;rw[f];simp[l]
   rw[e];simp only[l,if_true,QeW,XM,Vr];exact Qa _
  by_cases m:g.Kind=3
  .have e:givenK c x=some {number:=x.1,bib:=g.Bib,penalty:={Position:=g.Position,Time:=g.Amount,Laps:=0,Out:=false}}:=by unfold givenK rulP;rw[f];simp[m]
   rw[e];simp only[m,if_true,QeW,XM,Vr];exact Qa _
  simp only[Vu p,Vu l,Vu m,QeW,XM];have e:givenK c x=bif g.Kind==2 then none else viaR c x.1 x.2.2.head? :=by
   unfold givenK;rw[f];simp only[VB.2 p,VB.2 l,VB.2 m,Bool.or_self,Vs]
  rw[e];cases(g.Kind==2)with
  |true=>exact Qa _
  |false=>
   simp only[Vs];exact j _
theorem Qkw(b:∀k,YC m1.1 k=(lookK K k).bind λx=>x.2.2.head?)(a:∀k,YC m2.1 k=(lookK K k).bind λx=>x.2.1)(d:S.length<=1000):∀(r:List KeyT) (i:Nat),S.drop i=r.map (·.1)->i<=S.length->(∀x∈r,lookK K x.1=some x)->
  EvL (λn=>F_eu n c m1 m2 effM S) (i:Int) (r.filterMap (givenK c)) ()
 |[],i,hd,hi,_=>by
  refine EvL.done ?_;unfold F_eu;simp only[YH hd hi,Vs];exact Qa _
 |x::r,i,hd,hi,hx=>by
  rw[Vl]at hd;obtain⟨ha,hd'⟩:=QW (by omega) hd;have hlt:=ha.lt';have e:(x::r).filterMap (givenK c)=(givenK c x).toList++r.filterMap (givenK c):=by
   rw[List.filterMap_cons];cases givenK c x<;>rfl
  rw[e];exact EvL.cont (Qm4 b a ha (hx x (by simp))) (Qkw b a d r (i+1) hd' (by omega) λy f=>hx y (by simp[f]))
end
theorem Qk5{l:List Int}(h:l.Pairwise (· < ·)):l.Nodup:=h.imp λh=>by omega
theorem Qk4{l:List Int}(h:l.Nodup):(YG ltI l).Pairwise (· < ·):=by
 have nd:(YG ltI l).Nodup:=(Qn _ _).nodup_iff.2 h;refine(List.Pairwise.and (QR (QcX l)) nd).imp λ{a b} q=>?_;have:=q.1;simp[ltI]at this;have:=q.2;omega
theorem QpU(c:Course)(l:List Fact)(hl:l.length<=100):Ev (λn=>F_bm n l c) ((keysOf l).filterMap (givenK c),()):=by
 have ok:=Qog l;have nd:=Qk5 ok.inc;have T:=QbS l;unfold F_bm;refine Ea (Qjw l hl) ?_;have O:((keysOf l).filterMap λx=>x.2.2.head?).length<=100:=XY (List.length_filterMap_le ..) (by omega);have M:((keysOf l).filterMap λx=>x.2.1).length<=100:=XY (List.length_filterMap_le ..) (by omega);have L:=Qc0 (λr:Report=>r.Case) (λx:KeyT=>x.2.2.head?) (keysOf l) [] nd ok.rep;have H:=Qc0 (λg:Ruling=>g.Case) (λx:KeyT=>x.2.1) (keysOf l) [] nd ok.rul;obtain⟨F,E,w⟩:=QdC (λr:Report=>r.Case) ((keysOf l).filterMap λx=>x.2.2.head?) [] (by simp);refine Ea (v:=(((keysOf l).filterMap λx=>x.2.2.head?).foldl (λm y=>QG m y.Case y) [],((keysOf l).filterMap λx=>x.2.2.head?).foldl (λm y=>QG m y.Case true) [])) ?_ ?_
 .generalize((keysOf l).filterMap λx=>x.2.2.head?)=R at O;have e:∀(R:List Report) (a:List (Int×Report)) (b:List (Int×Bool)),R.foldl (λ(m:List (Int×Report)×List (Int×Bool)) y=>(QG m.1 y.Case y,QG m.2 y.Case true)) (a,b)=(R.foldl (λm y=>QG m y.Case y) a,R.foldl (λm y=>QG m y.Case true) b):=by
   intro R
   induction R with
   |nil=>intro a b;rfl
   |cons y R ih=>intro a b;rw[XG,ih];rfl
  rw[<- e];refine Yq R (λ(m:List (Int×Report)×List (Int×Bool)) y=>(QG m.1 y.Case y,QG m.2 y.Case true)) ([],[]) (λm i=>(m.1,m.2,(i:Int))) (λm=>m) (by omega) rfl (λi x m ha _=>?_) ?_
  .unfold F_hn;simp only[ha.lt,Vr,ha.ix,XM,ha.nx];exact Qa _
  .unfold F_hn;simp only[Qbt,Vs];exact Qa _
 refine Ea (QpV l hl) ?_;simp only;generalize hb:((keysOf l).filterMap λx=>x.2.2.head?).foldl (λm y=>QG m y.Case true) []=b0 at F E w;obtain⟨z,P,u⟩:=QdC (λg:Ruling=>g.Case) ((keysOf l).filterMap λx=>x.2.1) b0 F;refine Ea (v:=(((keysOf l).filterMap λx=>x.2.1).foldl (λm y=>QG m y.Case y) [],((keysOf l).filterMap λx=>x.2.1).foldl (λm y=>QG m y.Case true) b0)) ?_ ?_
 .generalize((keysOf l).filterMap λx=>x.2.1)=R at M;have e:∀(R:List Ruling) (a:List (Int×Ruling)) (b:List (Int×Bool)),R.foldl (λ(m:List (Int×Ruling)×List (Int×Bool)) y=>(QG m.1 y.Case y,QG m.2 y.Case true)) (a,b)=(R.foldl (λm y=>QG m y.Case y) a,R.foldl (λm y=>QG m y.Case true) b):=by
   intro R
   induction R with
   |nil=>intro a b;rfl
   |cons y R ih=>intro a b;rw[XG,ih];rfl
  rw[<- e];refine Yq R (λ(m:List (Int×Ruling)×List (Int×Bool)) y=>(QG m.1 y.Case y,QG m.2 y.Case true)) ([],b0) (λm i=>(m.1,m.2,(i:Int))) (λm=>m) (by omega) rfl (λi x m ha _=>?_) ?_
  .unfold F_hp;simp only[ha.lt,Vr,ha.ix,XM,ha.nx];exact Qa _
  .unfold F_hp;simp only[Qbt,Vs];exact Qa _
 simp only;generalize hc:((keysOf l).filterMap λx=>x.2.1).foldl (λm y=>QG m y.Case true) b0=b1 at z P u;refine Ea (v:=effM) (Qa _) ?_;unfold F_dx;simp only[XM];have Q:b1.length<=200:=by simp only[List.length_nil]at E;omega
 refine Ea (v:=YG ltI (b1.map Prod.fst)) ⟨0,λn _=>?_⟩ ?_
 .unfold F_eb Qnv;have t:(List.map Prod.fst b1).length<=1048576:=by rw[X4];omega
  rw[Qeo t,Vr];refine QkB λp B=>?_;unfold sortI;rw[Qeo (by rw[B.length_eq];exact t)];show some (YG ltI p)=_;rw[Qk3 B]
 have e:YG ltI (b1.map Prod.fst)=((keysOf l).filter λx=>x.2.1.isSome||x.2.2.head?.isSome).map (·.1):=by
  refine Qdo (lt:=λa b:Int=>a<b) (λa b h=>by omega) (Qk4 z) ?_ λk=>?_
  .exact ok.inc.sublist ((List.filter_sublist).map _)
  .rw[(Qn _ _).mem_iff,u,w];simp only[Vm,List.not_mem_nil,false_or,Xe,List.mem_filterMap,Xd,Bool.or_eq_true];constructor
   .rintro(⟨r,⟨x,d,j⟩,rfl⟩|⟨g,⟨x,d,s⟩,rfl⟩)
    .exact⟨x,⟨d,.inr (by rw[j];rfl)⟩,(ok.rep x d r j).symm⟩
    .exact⟨x,⟨d,.inl (by rw[s];rfl)⟩,(ok.rul x d g s).symm⟩
   .rintro⟨x,⟨d,h|h⟩,rfl⟩
    .obtain⟨g,s⟩:=Option.isSome_iff_exists.1 h;exact .inr ⟨g,⟨x,d,s⟩,ok.rul x d g s⟩
    .obtain⟨r,j⟩:=Option.isSome_iff_exists.1 h;exact .inl ⟨r,⟨x,d,j⟩,ok.rep x d r j⟩
 have N:(YG ltI (b1.map Prod.fst)).length<=1000:=by rw[(Qn _ _).length_eq,X4];omega
 have G:=Qkw (c:=c) (K:=keysOf l) (m1:=(((keysOf l).filterMap λx=>x.2.2.head?).foldl (λm y=>QG m y.Case y) [],b0)) (m2:=(((keysOf l).filterMap λx=>x.2.1).foldl (λm y=>QG m y.Case y) [],b1)) (S:=YG ltI (b1.map Prod.fst))
  (λk=>by rw[L k];cases(lookK (keysOf l) k).bind λx=>x.2.2.head? <;>rfl) (λk=>by rw[H k];cases(lookK (keysOf l) k).bind λx=>x.2.1<;>rfl) N
  ((keysOf l).filter λx=>x.2.1.isSome||x.2.2.head?.isSome) 0 (by rw[List.drop_zero];exact e) (XX _) (λx d=>Qh0 nd (Xd.1 d).1)
 have J:((keysOf l).filter λx=>x.2.1.isSome||x.2.2.head?.isSome).filterMap (givenK c)=(keysOf l).filterMap (givenK c):=by
  rw[List.filterMap_filter];refine congrArg (λf=>(keysOf l).filterMap f) (funext λx=>?_);by_cases q:(x.2.1.isSome||x.2.2.head?.isSome)=true
  .rw[Vv q]
  .rw[Vu q];rw[Bool.not_eq_true,Bool.or_eq_false_iff,Option.isSome_eq_false_iff,Option.isSome_eq_false_iff,Option.isNone_iff_eq_none,Option.isNone_iff_eq_none]at q;unfold givenK;rw[q.1,q.2];rfl
 rw[J]at G;unfold ap;refine Ea G.ev ((Qa _).eq ?_);simp
def casesOf(c:Course)(l:List Fact)(b:Int):List Ud:=((keysOf l).filterMap (givenK c)).filter λx=>x.bib==b
def casesF(e:Int)(c:Course)(l:List Fact)(b:Int):List Int×List Penalty:=bif e != 0 then([],[])else((casesOf c l b).map (·.number),(casesOf c l b).map (·.penalty))
theorem QdD(b:Int)(n:Nat):∀(a:List Ud) (s:List Int×List Penalty),s.1.length+a.length<=1000->s.2.length+a.length<=1000->QgV (F_ft n b) a s=some (.cont (s.1++(a.filter λx=>x.bib==b).map (·.number),s.2++(a.filter λx=>x.bib==b).map (·.penalty)))
 |[],s,_,_=>by simp[QgV]
 |y::a,s,h1,h2=>by
  simp only[X3]at h1 h2;unfold QgV;have e:F_ft n b s y=some (.cont (bif y.bib==b then(s.1++[y.number],s.2++[y.penalty])else s)):=by
   unfold F_ft;cases(y.bib==b)with
   |false=>rfl
   |true=>
    simp only[Vr];rw[Qcc _ _ (by simp;omega)];simp only[XM];rw[Qcc _ _ (by simp;omega)];rfl
  rw[e];show QgV _ a _=_;rw[List.filter_cons];cases(y.bib==b)with
  |false=>exact QdD b n a s (by omega) (by omega)
  |true=>
   simp only[Vr,if_true];rw[QdD b n a _ (by simp;omega) (by simp;omega)];simp
theorem Qix(e:Int)(c:Course)(l:List Fact)(b:Int)(hl:l.length<=100)(he:Ev (λn=>F_s n c) e):Ev (λn=>F_h n c l b) (casesF e c l b):=by
 unfold F_h casesF F_ep;refine Ea he ?_;cases(e != 0)with
 |true=>exact Qa _
 |false=>
  simp only[Vs,XM];refine Ea (QpU c l hl) ?_;have a:((keysOf l).filterMap (givenK c)).length<=100:=XY (List.length_filterMap_le ..) (by have:=QbS l;omega);unfold casesOf;generalize(keysOf l).filterMap (givenK c)=ys at a;have:=λn=>QdD b n ys ([],[]) (by simp;omega) (by simp;omega);simp only[Vj]at this;simp only[this,XM];exact Qa _
set_option maxRecDepth 100000
theorem Qpd:F_fj 300=some true:=by kernel_rfl
theorem Qm7{c:Course}{b:Bool}(l:List Fact)(a:Ev (λn=>F_ae n c) b):Ev (λn=>F_ax n c l) (b&&decide ((l.length:Int)<=14)):=by
 unfold F_ax;refine Ea (v:=b&&decide ((l.length:Int)<=14)) (Ea a (Ei λ_=>Qa _)) (Qa _)
theorem Qlc(l m:List Int)(hl:l.length<=1048576):Ev (λn=>F_z n l m) (decide (l=m)):=QkM l m (λn=>F_hx n l m) (by omega) λn s=>rfl
theorem Qlb(l m:List Penalty)(hl:l.length<=1048576):Ev (λn=>F_t n l m) (decide (l=m)):=QkM l m (λn=>F_hv n l m) (by omega) λn s=>rfl
theorem QjD(e:Int)(c:Course)(l:List Fact)(b:Int):(casesF e c l b).1.length<=l.length/\(casesF e c l b).2.length<=l.length:=by
 unfold casesF casesOf;cases(e != 0)with
 |true=>exact⟨XX _,XX _⟩
 |false=>
  simp only[Vs,X4];have d:=VP (λx:Ud=>x.bib==b) ((keysOf l).filterMap (givenK c));have a:=List.length_filterMap_le (givenK c) (keysOf l);have f:=QbS l;omega
end Go.Sw
