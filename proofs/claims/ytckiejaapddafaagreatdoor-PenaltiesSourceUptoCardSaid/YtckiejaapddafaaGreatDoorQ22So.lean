/- The plain laws that a law needs, with no program in sight. -/
import Derived.Test.YtckiejaapddafaaGreatDoorW22So
set_option linter.unusedVariables false
set_option linter.unusedSimpArgs false
namespace Go.Sw
def inR(lo hi x:Int):Bool:=decide (lo<=x)&&decide (x<=hi)
theorem Qgv(lo hi:Int)(l:List Int)(hl:l.length<=4611686018427387904):Ev (λn=>F_a n lo hi l) (l.all (inR lo hi)):=by
 have h:Ev (λn=>F_bs n l lo hi) (l.any λx=> !inR lo hi x):=by
  unfold F_bs F_fc;refine Ev.contains l _ (λn x=>F_ar n x lo hi) hl λx _=>?_;unfold F_ar;refine Ea (v:= !inR lo hi x) ?_ (Qa _);refine(Eu λh=>Qa _).eq ?_;unfold inR;rw[X0];simp
 unfold F_a;refine Ea h ((Qa _).eq ?_);rw[List.not_any_eq_all_not];simp
def okN(c:Nat):Bool:=(decide (97<=c)&&decide (c<=122))||(decide (48<=c)&&decide (c<=57))||decide (c=95)
def okAN(c:Nat):Bool:=decide (97<=c)&&decide (c<=122)
def okC(c:UInt8):Bool:=okN c.toNat
def okA(c:UInt8):Bool:=okAN c.toNat
def kwL:List (List UInt8):=[[99,111,117,114,115,101],[109,97,116,115],[115,116,97,114,116],[112,97,115,115],[101,110,100],[108,101,103],[116,111],[100,105,115,116,97,110,99,101],[103,117,110],[99,104,105,112],[115,108,111,116],[108,97,112,115],[108,97,112],[99,117,116,111,102,102],[101,120,116,114,97],[119,97,118,101],[111,102,102,101,110,99,101],[111,117,116],[99,97,116,101,103,111,114,121],[112,114,105,122,101],[97,108,108],[116,105,101,115],[105,102],[101,108,115,101],[97,110,100],[111,114],[110,111,116],[111,108,100,101,114],[121,111,117,110,103,101,114],[98,105,98],[100,114,97,119],[102,105,101,108,100],[115,104,111,114,116],[102,97,117,108,116,115],[109,105,115,115,101,115],[115,116,114,97,121,115],[119,105,110,100,111,119],[114,101,115,105,100,117,97,108],[100,114,105,102,116],[112,114,111,116,101,115,116],[102,101,101],[100,101,97,100,108,105,110,101]]
theorem Qny(c d:Bool):(bif c then some c else some d)=some (c||d):=by cases c<;>rfl
def kwsOf:List UInt8->List (List UInt8)
 |[]=>[]
 |b::l=>(bif b==32&& !(l.dropWhile λc=>c != 32).isEmpty then[l.takeWhile λc=>c != 32]else[])++kwsOf l
theorem QdW:∀(l s:List UInt8),(∀c∈s,c≠32)->(s++[32]).isPrefixOf l=((l.takeWhile λc=>c != 32)==s&& !(l.dropWhile λc=>c != 32).isEmpty)
 |[],s,h=>by cases s<;>simp
 |b::l,[],h=>by
  by_cases e:b=32
  .subst e;simp[List.isPrefixOf]
  .have e1:(b != 32)=true:=by simpa using e
   have i:(32==b)=false:=by simpa using λq=>e q.symm
   simp[List.isPrefixOf,List.takeWhile_cons,e1,i]
 |b::l,c::s,h=>by
  have a:=h c (by simp);have g:=QdW l s λd j=>h d (by simp[j]);by_cases e:b=32
  .subst e;have:(c==32)=false:=by simpa using a
   simp[List.isPrefixOf,this]
  .have e1:(b != 32)=true:=by simpa using e
   simp only[VM,List.isPrefixOf,List.takeWhile_cons,List.dropWhile_cons,e1,if_true,g,List.cons_beq_cons];by_cases q:c=b
   .subst q;simp
   .have k:(c==b)=false:=by simpa using q
    have f:(b==c)=false:=by simpa using λz=>q z.symm
    simp[k,f]
theorem contains_cons(b:UInt8)(l t:List UInt8)(d:t≠[]):Lib.contains (b::l) t=(t.isPrefixOf (b::l)||Lib.contains l t):=by
 unfold Lib.contains;rw[show Lib.index (b::l) t=if t.isPrefixOf (b::l)then 0 else if Lib.index l t== -1 then-1 else Lib.index l t+1 from rfl];cases h:t.isPrefixOf (b::l)with
 |true=>simp
 |false=>
  have:=Lib.index_ge l t;by_cases q:Lib.index l t= -1
  .simp[q]
  .have a:(Lib.index l t== -1)=false:=by simpa using q
   simp only[a,Bool.false_or];rw[X0];simp;omega
theorem Qb0(s:List UInt8)(h:∀c∈s,c≠32):∀l,Lib.contains l (32::(s++[32]))=(kwsOf l).contains s
 |[]=>by simp[Lib.contains,Lib.index,kwsOf]
 |b::l=>by
  rw[contains_cons b l _ (by simp),Qb0 s h l];simp only[kwsOf,List.isPrefixOf,QdW l s h];by_cases e:b=32
  .subst e;cases q: !(l.dropWhile λc=>c != 32).isEmpty with
   |true=>
    simp only[q,beq_self_eq_true,VC,Bool.and_true,Vr,VM,Vj,List.contains_cons];congr 1;rw[X0];simp only[VA];exact⟨λh=>h.symm,λh=>h.symm⟩
   |false=>simp[q]
  .have e1:(b==32)=false:=by simpa using e
   have a:(32==b)=false:=by simpa using λq=>e q.symm
   simp[e1,a]
def wordsL:List UInt8:=[32,99,111,117,114,115,101,32,109,97,116,115,32,115,116,97,114,116,32,112,97,115,115,32,101,110,100,32,108,101,103,32,116,111,32,100,105,115,116,97,110,99,101,32,103,117,110,32,99,104,105,112,32,115,108,111,116,32,108,97,112,115,32,108,97,112,32,99,117,116,111,102,102,32,101,120,116,114,97,32,119,97,118,101,32,111,102,102,101,110,99,101,32,111,117,116,32,99,97,116,101,103,111,114,121,32,112,114,105,122,101,32,97,108,108,32,116,105,101,115,32,105,102,32,101,108,115,101,32,97,110,100,32,111,114,32,110,111,116,32,111,108,100,101,114,32,121,111,117,110,103,101,114,32,98,105,98,32,100,114,97,119,32,102,105,101,108,100,32,115,104,111,114,116,32,102,97,117,108,116,115,32,109,105,115,115,101,115,32,115,116,114,97,121,115,32,119,105,110,100,111,119,32,114,101,115,105,100,117,97,108,32,100,114,105,102,116,32,112,114,111,116,101,115,116,32,102,101,101,32,100,101,97,100,108,105,110,101,32]
theorem QpL:kwsOf wordsL=kwL:=by decide+kernel
def classTab:List Int:=(List.range 256).map λi=>if 97<=i/\i<=122\/65<=i/\i<=90 then 2 else if 48<=i/\i<=57 then 3 else if i∈[123,125,40,41,91,93,59,44,61,60,62]then 4 else if i∈[32,9,10,13]then 1 else 0
theorem QjF:Ev F_cp classTab:=by
 unfold F_cp;refine Ea (Qch (step:=F_er 0) 40 (b:=(iter (F_er 0) 40 (List.replicate 256 0,97)).getD []) (by decide+kernel)) ?_;refine Ea (Qch (step:=F_gi 0) 40 (b:=(iter (F_gi 0) 40 ((iter (F_er 0) 40 (List.replicate 256 0,97)).getD [],48)).getD []) (by decide+kernel)) ?_;generalize hb:(iter (F_gi 0) 40 ((iter (F_er 0) 40 (List.replicate 256 0,97)).getD [],48)).getD []=b2;refine Ea (Qch (step:=F_hl 0) 40 (b:=(iter (F_hl 0) 40 (b2,0)).getD []) (by subst hb;decide+kernel)) ?_;refine Ea (Qch (step:=F_ia 0) 40 (b:=classTab) (by subst hb;decide+kernel)) ?_;exact Ez (by decide+kernel)
theorem Qlt:((List.range 256).all λi=> !okN i||decide (classTab[i]?=some (if okAN i then 2 else if i=95 then 0 else 3)))=true:=by decide+kernel
theorem Qnw{c:UInt8}(h:okC c=true):Qei 256 classTab (c.toNat:Int)=some (if okA c then 2 else if c.toNat=95 then 0 else 3):=by
 have a:=Xt.1 Qlt c.toNat (List.mem_range.2 c.toNat_lt);unfold okC at h;rw[h]at a;simp only[Xg,Bool.false_or,Vt]at a;unfold Qei;rw[show Nat.beq classTab.length 256=true by decide+kernel,Vr,YZ a];rfl
def goodS(s:List UInt8):Bool:=decide (1<=s.length)&&decide (s.length<=24)&&(s.head?).any okA&&s.all okC
def isNameS(s:List UInt8):Bool:=goodS s&& !kwL.contains s
theorem Qlj(s:List UInt8)(h:goodS s=true):Ev (λn=>F_bl n s) true:=by
 unfold goodS at h;simp only[XZ,Vt,Xt]at h;obtain⟨⟨⟨b,k⟩,g⟩,j⟩:=h;unfold F_bl;refine Ea QjF ?_;refine QaW (v:=List.replicate 256 0) (by decide+kernel) ?_;refine QaW (v:=classTab) (by decide+kernel) ?_;refine Ea (v:=Ctl.cont ()) (Ev.iter (λi=>(i:Int)) s.length rfl (λi f=>?_) ?_) ?_
 .have a:=JD (x:=s[i]) (by omega) (XN f);have e:=j _ a.mem;unfold F_hm;simp only[a.lt,Vr,a.ix,XM,Qnw e,a.nx];cases i with
  |zero=>
   have:okA s[0]=true:=by
    cases s with
    |nil=>simp at b
    |cons c r=>simpa using g
   simp[this];exact Qa _
  |succ i=>
   by_cases q:okA s[i+1]=true
   .simp[q];exact Qa _
   .by_cases d:s[i+1].toNat=95
    .simp[q,d];exact Qa _
    .simp[q,d];exact Qa _
 .unfold F_hm;simp only[Qbj,Vs];exact Qa _
 .refine Ez ?_;cases s with
  |nil=>simp at b
  |cons c r=>rfl
theorem Qlf{s:List UInt8}(h:goodS s=true):∀c∈s,c≠32:=by
 unfold goodS at h;simp only[XZ,Xt]at h;rintro c a rfl;exact absurd (h.2 _ a) (by decide)
theorem QmU{s:List UInt8}(h:goodS s=true):s.length<=24:=by
 unfold goodS at h;simp only[XZ,Vt]at h;exact h.1.1.2
theorem QjG(s:List UInt8)(h:goodS s=true):Ev (λn=>F_bz n s) (kwL.contains s):=by
 unfold F_bz;refine Ea (v:=kwL.contains s) ?_ (Qa _);refine Ea (Qlj s h) (QfR ?_);have a:=QmU h;refine QaW (v:=[32]++s) (by unfold cat;rw[XV (by simp;omega)];rfl) ?_;refine QaW (v:=[32]++s++[32]) (by unfold cat;rw[XV (by simp;omega)];rfl) ?_;refine QaW (v:=kwL.contains s) ?_ (Qa _);show Qfa wordsL ([32]++s++[32])=some (kwL.contains s);unfold Qfa;rw[show Nat.blt wordsL.length 4294967281=true by decide+kernel,Vr];rw[show[32]++s++[32]=32::(s++[32])by simp,Qb0 s (Qlf h),QpL]
theorem ch_lt(c:UInt8)(k:Nat):decide ((c.toNat:Int)<(k:Int))=decide (c.toNat<k):=by
 rw[X0];simp
theorem badC(c:UInt8):(bif decide ((c.toNat:Int)<97)then(bif decide ((c.toNat:Int)<48)then some ((c.toNat:Int) != 95)else(bif decide (57<(c.toNat:Int))then some ((c.toNat:Int) != 95)else some false))else(bif decide (122<(c.toNat:Int))then(bif decide ((c.toNat:Int)<48)then some ((c.toNat:Int) != 95)else(bif decide (57<(c.toNat:Int))then some ((c.toNat:Int) != 95)else some false))else some false))=some (!okC c):=by
 unfold okC okN;generalize c.toNat=k;have e:((k:Int) != 95)= !decide (k=95):=by
  by_cases h:k=95
  .subst h;rfl
  .rw[Vz h];simp;omega
 rw[e];by_cases g:k<48
 .rw[Ys (show(k:Int)<97 by omega),Ys (show(k:Int)<48 by omega)];have a:¬97<=k:=by omega
  have f:¬48<=k:=by omega
  simp[a,f]
 .rw[YJ (show¬(k:Int)<48 by omega)];by_cases b:k<=57
  .rw[Ys (show(k:Int)<97 by omega),YJ (show¬57<(k:Int)by omega)];have a:48<=k:=by omega
   simp[a,b]
  .rw[Ys (show 57<(k:Int)by omega)];by_cases i:k<97
   .rw[Ys (show(k:Int)<97 by omega)];have a:¬97<=k:=by omega
    simp[a,b]
   .rw[YJ (show¬(k:Int)<97 by omega)];by_cases d:k<=122
    .rw[YJ (show¬122<(k:Int)by omega)];have a:97<=k:=by omega
     simp[a,d]
    .rw[Ys (show 122<(k:Int)by omega)];simp[b,d]
theorem Qk7(n:Nat)(s:List UInt8):(bif decide ((s.length:Int)<1)then some true else(bif decide (24<(s.length:Int))then some true else(idx s 0).bind λx10=>(bif decide ((x10.toNat:Int)<97)then some true else(idx s 0).bind λx12=>some (decide (122<(x12.toNat:Int))))))=some (!(decide (1<=s.length)&&decide (s.length<=24)&&(s.head?).any okA)):=by
 cases s with
 |nil=>rfl
 |cons c r=>
  rw[YJ (show¬((c::r).length:Int)<1 by simp;omega),Vs];by_cases h:(c::r).length<=24
  .rw[YJ (show¬24<((c::r).length:Int)by omega),Vs];have e:idx (c::r) 0=some c:=rfl;simp only[e,XM];simp only[X3]at h;have a:r.length<=23:=by omega
   simp only[List.head?_cons,Option.any_some,okA,okAN];rw[show(97:Int)=((97:Nat):Int)from rfl,ch_lt];by_cases b:c.toNat<97
   .have:¬97<=c.toNat:=by omega
    simp[b,this]
   .have d:97<=c.toNat:=by omega
    simp[b,d,a];by_cases q:c.toNat<=122
    .rw[YJ (show¬122<(c.toNat:Int)by omega),Ys q];rfl
    .rw[Ys (show 122<(c.toNat:Int)by omega),YJ q];rfl
  .rw[Ys (show 24<((c::r).length:Int)by omega),Vr];simp only[X3]at h;have a:¬r.length<=23:=by omega
   simp[a]
theorem Qgy(s:List UInt8)(hl:s.length<=1048576):Ev (λn=>F_c n s) (isNameS s):=by
 unfold F_c;refine Ea (Ez (Qk7 0 s)) ?_;unfold isNameS;cases f:(decide (1<=s.length)&&decide (s.length<=24)&&(s.head?).any okA)with
 |false=>
  simp only[Xh,Vr];have:goodS s=false:=by unfold goodS;rw[f];rfl
  rw[this];exact Qa _
 |true=>
  simp only[Xg,Vs];have d:goodS s=s.all okC:=by unfold goodS;rw[f];rfl
  refine Ea (Qa5 s (λc=> !okC c) (λi=>(i:Int)) (Ctl.done false) (Ctl.cont ()) (by omega) rfl (λi x a b=>?_) (λi x a b=>?_) ?_) ?_
  .unfold F_gt;simp only[a.lt,Vr,a.ix,XM,badC,b,Vs,a.nx];exact Qa _
  .unfold F_gt;simp only[a.lt,Vr,a.ix,XM,badC,b];exact Qa _
  .unfold F_gt;simp only[Qbj,Vs];exact Qa _
  .rw[d];have e:s.any (λc=> !okC c)= !s.all okC:=by rw[List.not_all_eq_any_not]
   rw[e];cases q:s.all okC with
   |true=>
    simp only[Xg,Vs,VC];exact Ea (QjG s (d.trans q)) (Qa _)
   |false=>
    simp only[Xh,Vr,Bool.false_and];exact Qa _
def diffS:List (List UInt8)->List (List UInt8)->Bool
 |_,[]=>true
 |seen,x::r=>isNameS x&& !seen.contains x&&diffS (seen++[x]) r
theorem QjH(l:List (List UInt8))(i:Nat)(x:List UInt8)(h:At l i x):diffS (l.take i) (l.drop i)=(isNameS x&& !(l.take i).contains x&&diffS (l.take (i+1)) (l.drop (i+1))):=by
 rw[h.drop,h.take];rfl
theorem QbY{α:Type}(l:List α)(a:α->List UInt8)(g:Nat->α->Option Unit)(hg:∀n x,g n x=some ())(hl:l.length<=1048576)(p:∀x∈l,(a x).length<=1048576):
  Ev (λn=>((iter (λs:(List (List UInt8×Bool))×Int=>bif decide (s.2<(l.length:Int))then(idx l s.2).bind λx35=>(g n x35).bind λr36=>((F_c n (a x35)).bind λr42=>(bif (!r42)then some true else(some (QW s.1 (a x35) false)).bind λv44=>some v44):Option Bool).bind λb40=>(bif b40 then some (.done (.done false))else(some (QJ s.1 (a x35) true)).bind λm46=>some (.cont (m46,IntKind.i64.wrap (s.2+1))))else some (.done (.cont ()))) n ([],0):Option (Ctl Unit Bool)).bind λb28=>
   match b28 with
   |.cont _=>some true
   |.done s=>some s:Option Bool)) (diffS [] (l.map a)):=by
 have e:l.length<=4611686018427387904:=by omega
 have f:(l.map a).length<=4611686018427387904:=by simpa using e
 have k:=QhG (B:=Ctl Unit Bool) l (step:=λn s=>bif decide (s.2<(l.length:Int))then(idx l s.2).bind λx35=>(g n x35).bind λr36=>((F_c n (a x35)).bind λr42=>(bif (!r42)then some true else(some (QW s.1 (a x35) false)).bind λv44=>some v44):Option Bool).bind λb40=>(bif b40 then some (.done (.done false))else(some (QJ s.1 (a x35) true)).bind λm46=>some (.cont (m46,IntKind.i64.wrap (s.2+1))))else some (.done (.cont ())))
  (s0:=(([]:List (List UInt8×Bool)),(0:Int))) (λi=>(Yo a true (l.take i),(i:Int))) (λi=>bif diffS ((l.map a).take i) ((l.map a).drop i)then .cont ()else .done false) e rfl (λi x d=>?_) ?_
 .refine Ea k ?_;simp only[List.take_zero,List.drop_zero];cases diffS [] (l.map a)<;>exact Qa _
 .have j:At (l.map a) i (a x):=JD f (by rw[Xp,d.get];rfl);simp only[QjH _ _ _ j];have b:Ev (λn=>((F_c n (a x)).bind λr42=>(bif (!r42)then some true else(some (QW (Yo a true (l.take i)) (a x) false)).bind λv44=>some v44):Option Bool)) (!(isNameS (a x)&& !((l.map a).take i).contains (a x))):=by
   refine Ea (Qgy (a x) (p x d.mem)) ?_;cases isNameS (a x)with
   |false=>exact Qa _
   |true=>
    refine JC ((Qa _).eq ?_);rw[QdY,List.map_take];by_cases h:a x∈(l.map a).take i
    .rw[Vv h];simp[h]
    .rw[Vu h];simp[h]
  cases m:(isNameS (a x)&& !((l.map a).take i).contains (a x))with
  |true=>
   rw[m]at b;refine .inl ⟨?_,by simp⟩;simp only[d.lt,Vr,d.ix,XM,hg];refine Ea b ?_;simp only[Xg,Vs,XM,d.nx];rw[d.take,Qha];exact Qa _
  |false=>
   rw[m]at b;refine .inr ?_;simp only[d.lt,Vr,d.ix,XM,hg];refine Ea b ?_;simp only[Xh,Vr,Bool.false_and,Vs];exact Qa _
 .simp only[Qbj,Vs];rw[show(l.map a).drop l.length=[]by apply List.drop_eq_nil_of_le;simp];exact Qa _
theorem Qp2{α:Type}{l:List α}{x:α}(h:l.length<=140737488):app l [x]=some (l++[x]):=Qby l x (by omega)
theorem Qgz{α β:Type}(l:List α)(f:α->β)(hl:l.length<=140737488):Ev (λn=>iter (λs:(List β)×Int=>bif decide (s.2<(l.length:Int))then(idx l s.2).bind λx15=>(app s.1 [f x15]).bind λl16=>some (Ctl.cont (l16,IntKind.i64.wrap (s.2+1)))else some (Ctl.done s.1)) n (([]:List β),(0:Int))) (l.map f):=by
 have e:∀l:List α,l.foldl (λ(a:List β) x=>a++[f x]) []=l.map f:=by
  intro l;have g:∀(l:List α) (a:List β),l.foldl (λ(a:List β) x=>a++[f x]) a=a++l.map f:=by
   intro l
   induction l with
   |nil=>intro a;simp
   |cons x l h=>intro a;rw[XG,h];simp
  simpa using g l []
 rw[<- e l];refine Yt l (λ(a:List β) x=>a++[f x]) [] (λa i=>(a,(i:Int))) (λa=>a) (by omega) rfl (λi x a d b=>?_) ?_
 .rw[e]at b;have:a.length<=140737488:=by rw[b];simp;omega
  simp only[d.lt,Vr,d.ix,XM,Qp2 this,d.nx];exact Qa _
 .simp only[Qbj,Vs];exact Qa _
def namesS(c:Course):Bool:=isNameS c.Name&&(diffS [] (c.Mats.map (·.Name))&&(diffS [] (c.Distances.map (·.Name))&&(diffS [] (c.Waves.map (·.Name))&&(diffS [] (c.Offences.map (·.Name))&&diffS [] (c.Categories.map (·.Name))))))
structure CourseOk (c:Course):Prop where
 name:c.Name.length<=1048576
 mats:c.Mats.length<=1048576
 matsN:∀x∈c.Mats,x.Name.length<=1048576
 legs:c.Legs.length<=1048576
 dist:c.Distances.length<=1048576
 distN:∀x∈c.Distances,x.Name.length<=1048576
 cut:∀x∈c.Distances,x.Cutoffs.length<=1048576
 wave:c.Waves.length<=1048576
 waveN:∀x∈c.Waves,x.Name.length<=1048576
 off:c.Offences.length<=1048576
 offN:∀x∈c.Offences,x.Name.length<=1048576
 cat:c.Categories.length<=1048576
 catN:∀x∈c.Categories,x.Name.length<=1048576
 prize:c.Prizes.length<=1048576
theorem Qm9(c:Course)(w:CourseOk c):Ev (λn=>F_bg n c) (namesS c):=by
 unfold F_bg namesS;refine Ea (v:=_) ?_ (Qa _);refine Ea (Qgy c.Name w.name) (Ei λ_=>?_);have d:Ev (λn=>F_be n c.Mats) (diffS [] (c.Mats.map (·.Name))):=by unfold F_be;exact QbY c.Mats (·.Name) F_da (λ_ _=>rfl) w.mats w.matsN
 have b:Ev (λn=>F_bu n c.Distances) (diffS [] (c.Distances.map (·.Name))):=by unfold F_bu;exact QbY c.Distances (·.Name) F_dw (λ_ _=>rfl) w.dist w.distN
 have e:Ev (λn=>F_bk n c.Waves) (diffS [] (c.Waves.map (·.Name))):=by unfold F_bk;exact QbY c.Waves (·.Name) F_ed (λ_ _=>rfl) w.wave w.waveN
 have f:Ev (λn=>F_bp n c.Offences) (diffS [] (c.Offences.map (·.Name))):=by unfold F_bp;exact QbY c.Offences (·.Name) F_cz (λ_ _=>rfl) w.off w.offN
 have a:Ev (λn=>F_cy n c.Categories) (diffS [] (c.Categories.map (·.Name))):=by unfold F_cy;exact QbY c.Categories (·.Name) F_es (λ_ _=>rfl) w.cat w.catN
 refine Ea d (Ei λ_=>?_);refine Ea b (Ei λ_=>?_);refine Ea e (Ei λ_=>?_);refine Ea f (Ei λ_=>?_);exact Ea a (Qa _)
theorem QcM{n:Nat}(h:n<=1048576):IntKind.i64.wrap ((n:Int)-1)=(n:Int)-1:=Yi (by omega) (by omega)
mutual
def szP:Part->Nat
 |⟨_,_,ps⟩=>1+szPs ps
def szPs:List Part->Nat
 |[]=>0
 |p::r=>szP p+szPs r
end
theorem Qad(p:Part):szP p=1+szPs p.Parts:=by cases p;rfl
theorem QaL{p:Part}:∀{l:List Part},p∈l->szP p<=szPs l
 |q::r,h=>by
  simp only[szPs];rcases X8.1 h with rfl|h
  .omega
  .have:=QaL h;omega
mutual
def partS(k:Int):Part->Bool
 |⟨m,laps,ps⟩=>bif laps==0 then inR 0 k m&&((ps.length:Int)==0)else inR 1 64 laps&&((m==0)&&(decide (0<(ps.length:Int))&&partsS k ps))
def partsS(k:Int):List Part->Bool
 |[]=>true
 |p::r=>partS k p&&partsS k r
end
theorem QeU(k:Int)(p:Part):partS k p=bif p.Laps==0 then inR 0 k p.Mat&&((p.Parts.length:Int)==0)else inR 1 64 p.Laps&&((p.Mat==0)&&(decide (0<(p.Parts.length:Int))&&partsS k p.Parts)):=by cases p;rfl
theorem Qdu(k:Int):∀l:List Part,partsS k l=l.all (partS k)
 |[]=>rfl
 |p::r=>by simp only[partsS,List.all_cons,Qdu k r]
theorem Je{p:Part}(h:Part.wf p):p.Parts.length<=1048576/\ ∀x∈p.Parts,Part.wf x:=by
 cases p;simp only[Part.wf,Qdi]at h;exact h.2.2.1
theorem QK(lo hi x:Int):Ev (λn=>F_a n lo hi [x]) (inR lo hi x):=(Qgv lo hi [x] (by simp)).eq (by simp)
theorem QaQ(lo hi x y:Int):Ev (λn=>F_a n lo hi [x,y]) (inR lo hi x&&inR lo hi y):=(Qgv lo hi [x,y] (by simp)).eq (by simp)
theorem Qm8(k:Int):∀(m:Nat) (l:List Part),szPs l<=m->l.length<=1048576->(∀x∈l,Part.wf x)->Ev (λn=>F_e n l k) (partsS k l):=by
 intro m
 induction m with
 |zero=>
  intro l d f b;cases l with
  |nil=>
   refine Jg ?_;show Ev (λn=>B_e (F_e n) n [] k) _;unfold B_e F_au F_bm;exact Jh [] (partS k) (λn x=>F_ao (F_e n) n x k) (by simp) (by simp)
  |cons p r=>
   exfalso;simp only[szPs,Qad]at d;omega
 |succ m g=>
  intro l d f b;refine Jg ?_;show Ev (λn=>B_e (F_e n) n l k) _;unfold B_e F_au F_bm;rw[Qdu];refine Jh l (partS k) (λn x=>F_ao (F_e n) n x k) (by omega) λp a=>?_;unfold F_ao;rw[QeU];have e:=QaL a;rw[Qad]at e;obtain⟨w1,w2⟩:=Je (b p a);refine Qb4 (λ_=>?_) (λ_=>?_)
  .exact Ea (Ea (QK _ _ _) (Ei λ_=>Qa _)) (Qa _)
  .exact Ea (Ea (QK _ _ _) (Ei λ_=>Ei λ_=>Ei λ_=>Ea (g p.Parts (by omega) w1 w2) (Qa _))) (Qa _)
def legS(k:Int)(l:Leg):Bool:=(inR 0 k l.From&&inR 0 k l.To)&&((inR 0 68719476736 l.Min&&inR 0 68719476736 l.Max)&&decide (l.Min<=l.Max))
def cutS(k:Int)(x:Cutoff):Bool:=inR 0 k x.Mat&&(decide (1<=x.Lap)&&inR 0 1099511627776 x.Limit)
def distS(k:Int)(d:Distance):Bool:=inR 1 3 d.Timing&&(inR (-1) k d.Extra&&(partsS k d.Route&&d.Cutoffs.all (cutS k)))
def offS(o:Offence):Bool:=bif o.Out then(o.Time==0)&&(o.Laps==0)else bif o.Laps != 0 then(o.Time==0)&&inR 1 64 o.Laps else inR 0 68719476736 o.Time
def catS(x:Category):Bool:=(inR 0 120 x.From&&inR 0 120 x.To)&&decide (x.From<=x.To)
def prizeS(c:Course)(p:Prize):Bool:=inR 0 ((c.Distances.length:Int)-1) p.Distance&&(inR (-1) ((c.Categories.length:Int)-1) p.Category&&(inR 1 4000 p.Rank&&inR 1 1125899906842624 p.Amount))
def lastS(c:Course):Bool:=(inR 0 16 c.Faults.Misses&&inR 0 16 c.Faults.Strays)&&((inR 0 4294967296 c.Faults.Window&&inR 0 4294967296 c.Faults.Residual)&&(inR 0 100000 c.Faults.Drift&&(inR 0 1125899906842624 c.Fee&&inR 0 1099511627776 c.Deadline)))
def legKey(l:Leg):Uh:={from_:=l.From,to_:=l.To}
def prizeKey(p:Prize):Uj:={distance:=p.Distance,category:=p.Category,rank:=p.Rank}
def numbersS(c:Course):Bool:=
 let k:=(c.Mats.length:Int)-1
 c.Mats.all (λm=>inR 1 3 m.Kind)&&(c.Legs.all (legS k)&&(decide ((c.Legs.map legKey).Nodup)&&(c.Distances.all (distS k)&&(c.Waves.all (λw=>inR 0 1099511627776 w.Gun)&&(c.Offences.all offS&&(c.Categories.all catS&&(c.Prizes.all (prizeS c)&&(decide ((c.Prizes.map prizeKey).Nodup)&&lastS c))))))))
structure PartsOk (c:Course):Prop where
 len:∀d∈c.Distances,d.Route.length<=1048576
 wf:∀d∈c.Distances,∀x∈d.Route,Part.wf x
theorem Qhq(l:List Leg)(hl:l.length<=1048576):Ev (λn=>F_cg n l) (decide ((l.map legKey).Nodup)):=by
 unfold F_cg;refine Ea (QbF l legKey true (by omega) (λi x m a=>?_) (λm=>?_)) ((Qa _).eq ?_)
 .unfold F_hv F_eh;simp only[a.lt,Vr,a.ix,XM,a.nx];exact Qa _
 .unfold F_hv;simp only[Qbj,Vs];exact Qa _
 .rw[X0];simp only[VA,Vt];have:=Qcl legKey true l;rw[<- this.2];omega
theorem Qfs(l:List Prize)(hl:l.length<=1048576):Ev (λn=>F_ax n l) (decide ((l.map prizeKey).Nodup)):=by
 unfold F_ax;refine Ea (QbF l prizeKey true (by omega) (λi x m a=>?_) (λm=>?_)) ((Qa _).eq ?_)
 .unfold F_hw F_ey;simp only[a.lt,Vr,a.ix,XM,a.nx];exact Qa _
 .unfold F_hw;simp only[Qbj,Vs];exact Qa _
 .rw[X0];simp only[VA,Vt];have:=Qcl prizeKey true l;rw[<- this.2];omega
theorem QjC(c:Course)(w:CourseOk c)(q:PartsOk c):Ev (λn=>F_co n c) (numbersS c):=by
 unfold F_co numbersS;rw[QcM w.mats];refine Ea (v:=_) ?_ (Qa _);have g:Ev (λn=>F_as n c.Mats) (c.Mats.all λm=>inR 1 3 m.Kind):=by
  unfold F_as F_dy F_eq;refine Jh c.Mats _ (λn x=>F_ca n x) (by have:=w.mats;omega) λx a=>?_;unfold F_ca;exact Ea (QK _ _ _) (Qa _)
 have f:Ev (λn=>F_bc n c.Legs ((c.Mats.length:Int)-1)) (c.Legs.all (legS ((c.Mats.length:Int)-1))):=by
  unfold F_bc F_db F_fq;refine Jh c.Legs _ (λn x=>F_az n x _) (by have:=w.legs;omega) λx a=>?_;unfold F_az;exact Ea (Ea (QaQ _ _ _ _) (Ei λ_=>Ea (QaQ _ _ _ _) (Ei λ_=>Qa _))) (Qa _)
 have i:Ev (λn=>F_ba n c.Distances ((c.Mats.length:Int)-1)) (c.Distances.all (distS ((c.Mats.length:Int)-1))):=by
  unfold F_ba F_fb F_dt;refine Jh c.Distances _ (λn x=>F_bd n x _) (by have:=w.dist;omega) λx a=>?_;unfold F_bd;have b:Ev (λn=>F_cb n x.Cutoffs ((c.Mats.length:Int)-1)) (x.Cutoffs.all (cutS ((c.Mats.length:Int)-1))):=by
   unfold F_cb F_ea F_ee;refine Jh x.Cutoffs _ (λn x=>F_cr n x _) (by have:=w.cut x a;omega) λy k=>?_;unfold F_cr;exact Ea (Ea (QK _ _ _) (Ei λ_=>Ei λ_=>Ea (QK _ _ _) (Qa _))) (Qa _)
  exact Ea (Ea (QK _ _ _) (Ei λ_=>Ea (QK _ _ _) (Ei λ_=>Ea (Qm8 _ _ x.Route (XW _) (q.len x a) (q.wf x a)) (Ei λ_=>Ea b (Qa _))))) (Qa _)
 have e:Ev (λn=>F_bo n c.Waves) (c.Waves.all λw=>inR 0 1099511627776 w.Gun):=by
  unfold F_bo F_fn F_ec;refine Jh c.Waves _ (λn x=>F_ce n x) (by have:=w.wave;omega) λx a=>?_;unfold F_ce;exact Ea (QK _ _ _) (Qa _)
 have j:Ev (λn=>F_cq n c.Offences) (c.Offences.all offS):=by
  unfold F_cq F_ds F_dg;refine Jh c.Offences _ (λn x=>F_bf n x) (by have:=w.off;omega) λx a=>?_;unfold F_bf offS;refine Qb4 (λ_=>Ea (Ei λ_=>Qa _) (Qa _)) λ_=>Qb4 (λ_=>Ea (Ei λ_=>Ea (QK _ _ _) (Qa _)) (Qa _)) λ_=>Ea (QK _ _ _) (Qa _)
 have h:Ev (λn=>F_bv n c.Categories) (c.Categories.all catS):=by
  unfold F_bv F_dc F_ex;refine Jh c.Categories _ (λn x=>F_bi n x) (by have:=w.cat;omega) λx a=>?_;unfold F_bi;exact Ea (Ea (QaQ _ _ _ _) (Ei λ_=>Qa _)) (Qa _)
 have d:Ev (λn=>F_ck n c.Prizes c) (c.Prizes.all (prizeS c)):=by
  unfold F_ck F_dp F_fr;refine Jh c.Prizes _ (λn x=>F_bq n x c) (by have:=w.prize;omega) λx a=>?_;unfold F_bq;rw[QcM w.dist,QcM w.cat];exact Ea (Ea (QK _ _ _) (Ei λ_=>Ea (QK _ _ _) (Ei λ_=>Ea (QK _ _ _) (Ei λ_=>Ea (QK _ _ _) (Qa _))))) (Qa _)
 refine Ea g (Ei λ_=>Ea f (Ei λ_=>Ea (Qhq _ w.legs) (Ei λ_=>Ea i (Ei λ_=>Ea e (Ei λ_=>Ea j (Ei λ_=>Ea h (Ei λ_=>Ea d (Ei λ_=>Ea (Qfs _ w.prize) (Ei λ_=>?_)))))))));exact Ea (QaQ _ _ _ _) (Ei λ_=>Ea (QaQ _ _ _ _) (Ei λ_=>Ea (QK _ _ _) (Ei λ_=>Ea (QK _ _ _) (Ei λ_=>Ea (QK _ _ _) (Qa _)))))
theorem ends_eq{a b a' d:Int}:(({from_:=a,to_:=b}:Uh)={from_:=a',to_:=d})↔a=a'/\b=d:=by simp
theorem QlY{α B:Type}{step:Nat->Int->Option (Ctl Int B)}(l:List α)(ok:α->Bool)(a b:B)(hl:l.length<=4611686018427387904)
  (g:∀i x,At l i x->Ev (λn=>step n (i:Int)) (bif ok x then .cont ((i+1:Nat):Int)else .done a))(j:Ev (λn=>step n (l.length:Int)) (.done b)):
  Ev (λn=>Go.Sw.iter (step n) n 0) (bif l.all ok then b else a):=by
 have e:(bif l.all ok then b else a)=bif l.any (λx=> !ok x)then a else b:=by
  rw[<- List.not_all_eq_any_not];cases l.all ok<;>rfl
 rw[e];refine Qa5 l (λx=> !ok x) (λi=>(i:Int)) a b hl rfl (λi x f d=>?_) (λi x f d=>?_) j
 .have h:ok x=true:=by simpa using d
  have:=g i x f
  rwa [h]at this
 .have h:ok x=false:=by simpa using d
  have:=g i x f
  rwa [h]at this
mutual
def cN:Cond->Nat
 |⟨_,_,_,ps⟩=>1+cNs ps
def cNs:List Cond->Nat
 |[]=>0
 |c::r=>cN c+cNs r
end
theorem Qc9(c:Cond):cN c=1+cNs c.Parts:=by cases c;rfl
mutual
def cD:Nat->Cond->Bool
 |d,⟨_,_,_,ps⟩=>cDs d ps
def cDs:Nat->List Cond->Bool
 |_,[]=>true
 |d,c::r=>decide (d<=16)&&(cD (d+1) c&&cDs d r)
end
theorem Qnx(d:Nat)(c:Cond):cD d c=cDs d c.Parts:=by cases c;rfl
def zeroC(c:Cond):Bool:=(c.Kind==0)&&((c.Var==0)&&((c.N==0)&&((c.Parts.length:Int)==0)))
mutual
def sNp:Step->Nat
 |⟨_,_,_,t,e⟩=>1+sNs t+sNs e
def sNs:List Step->Nat
 |[]=>0
 |s::r=>sNp s+sNs r
end
theorem Qf9(s:Step):sNp s=1+sNs s.Then+sNs s.Else:=by cases s;rfl
mutual
def sC:Step->Nat
 |⟨_,_,c,t,e⟩=>(bif zeroC c then 0 else cN c)+sCs t+sCs e
def sCs:List Step->Nat
 |[]=>0
 |s::r=>sC s+sCs r
end
theorem Qga(s:Step):sC s=(bif zeroC s.Cond then 0 else cN s.Cond)+sCs s.Then+sCs s.Else:=by cases s;rfl
mutual
def sDp:Nat->Step->Bool
 |d,⟨_,_,c,t,e⟩=>(zeroC c||cD 1 c)&&(sDs d t&&sDs d e)
def sDs:Nat->List Step->Bool
 |_,[]=>true
 |d,s::r=>decide (d<=16)&&(sDp (d+1) s&&sDs d r)
end
theorem Qkl(d:Nat)(s:Step):sDp d s=((zeroC s.Cond||cD 1 s.Cond)&&(sDs d s.Then&&sDs d s.Else)):=by cases s;rfl
mutual
def sZ:Step->Nat
 |⟨_,_,c,t,e⟩=>2+cN c+sZs t+sZs e
def sZs:List Step->Nat
 |[]=>0
 |s::r=>sZ s+sZs r
end
theorem QhS(s:Step):sZ s=2+cN s.Cond+sZs s.Then+sZs s.Else:=by cases s;rfl
def fS:Ui->Nat
 |.ctyping_step x=>sNp x.Step
 |.ctyping_cond _=>0
def fC:Ui->Nat
 |.ctyping_step x=>sC x.Step
 |.ctyping_cond x=>cN x.Cond
def fD(d:Nat):Ui->Bool
 |.ctyping_step x=>sDp d x.Step
 |.ctyping_cond x=>cD d x.Cond
def fZ:Ui->Nat
 |.ctyping_step x=>sZ x.Step
 |.ctyping_cond x=>cN x.Cond
def fSs(l:List Ui):Nat:=(l.map fS).sum
def fCs(l:List Ui):Nat:=(l.map fC).sum
def fZs(l:List Ui):Nat:=(l.map fZ).sum
def fwf:Ui->Prop
 |.ctyping_step x=>Step.wf x.Step
 |.ctyping_cond x=>Cond.wf x.Cond
def ofStep(s:Step):Ui:=.ctyping_step {Step:=s}
def ofCond(c:Cond):Ui:=.ctyping_cond {Cond:=c}
theorem Qbh:∀l:List Step,fSs (l.map ofStep)=sNs l
 |[]=>rfl
 |s::r=>by
  have:=Qbh r;simp only[fSs,Vl,List.sum_cons]at this⊢;rw[this];rfl
theorem Qbi:∀l:List Step,fCs (l.map ofStep)=sCs l
 |[]=>rfl
 |s::r=>by
  have:=Qbi r;simp only[fCs,Vl,List.sum_cons]at this⊢;rw[this];rfl
theorem QbX:∀l:List Step,fZs (l.map ofStep)=sZs l
 |[]=>rfl
 |s::r=>by
  have:=QbX r;simp only[fZs,Vl,List.sum_cons]at this⊢;rw[this];rfl
theorem Qfo:∀l:List Cond,fSs (l.map ofCond)=0
 |[]=>rfl
 |s::r=>by
  have:=Qfo r;simp only[fSs,Vl,List.sum_cons]at this⊢;rw[this];rfl
theorem Qfq:∀l:List Cond,fCs (l.map ofCond)=cNs l
 |[]=>rfl
 |s::r=>by
  have:=Qfq r;simp only[fCs,Vl,List.sum_cons]at this⊢;rw[this];rfl
theorem Qfm:∀l:List Cond,fZs (l.map ofCond)=cNs l
 |[]=>rfl
 |s::r=>by
  have:=Qfm r;simp only[fZs,Vl,List.sum_cons]at this⊢;rw[this];rfl
theorem Qc3(d:Nat):∀l:List Step,sDs d l=((l.map ofStep).isEmpty||(decide (d<=16)&&(l.map ofStep).all (fD (d+1))))
 |[]=>rfl
 |s::r=>by
  rw[sDs,Qc3 d r];simp only[Vl,List.isEmpty_cons,Bool.false_or,List.all_cons];rw[show fD (d+1) (ofStep s)=sDp (d+1) s from rfl];cases r with
  |nil=>simp
  |cons x r=>
   simp only[Vl,List.isEmpty_cons,Bool.false_or,List.all_cons];cases decide (d<=16)<;>simp
theorem Qis(d:Nat):∀l:List Cond,cDs d l=((l.map ofCond).isEmpty||(decide (d<=16)&&(l.map ofCond).all (fD (d+1))))
 |[]=>rfl
 |s::r=>by
  rw[cDs,Qis d r];simp only[Vl,List.isEmpty_cons,Bool.false_or,List.all_cons];rw[show fD (d+1) (ofCond s)=cD (d+1) s from rfl];cases r with
  |nil=>simp
  |cons x r=>
   simp only[Vl,List.isEmpty_cons,Bool.false_or,List.all_cons];cases decide (d<=16)<;>simp
theorem Qam{c:Cond}(h:Cond.wf c):c.Parts.length<=1048576/\ ∀x∈c.Parts,Cond.wf x:=by
 cases c;simp only[Cond.wf,Qdl]at h;exact h.2.2.2.1
theorem Qal{s:Step}(h:Step.wf s):Cond.wf s.Cond/\(s.Then.length<=1048576/\ ∀x∈s.Then,Step.wf x)/\(s.Else.length<=1048576/\ ∀x∈s.Else,Step.wf x):=by
 cases s;simp only[Step.wf,Qdc]at h;exact⟨h.2.2.1,h.2.2.2.1,h.2.2.2.2.1⟩
theorem Qgx(n:Nat)(c:Cond):F_v n {Cond:=c}=some (zeroC c):=by
 unfold F_v zeroC;cases(c.Kind==0)<;>cases(c.Var==0)<;>cases(c.N==0)<;>rfl
theorem QjB(n:Nat)(c:Cond):F_bx n c=some (zeroC c):=by
 unfold F_bx zeroC;cases(c.Kind==0)<;>cases(c.Var==0)<;>cases(c.N==0)<;>rfl
theorem Qfr(l:List Step)(hl:l.length<=140737488):Ev (λn=>F_w n l) (l.map ofStep):=by
 unfold F_w;exact Ea (Qgz l ofStep hl) (Qa _)
theorem Qnf(l:List Cond)(hl:l.length<=140737488):Ev (λn=>F_bj n l) (l.map ofCond):=by
 unfold F_bj;exact Ea (Qgz l ofCond hl) (Qa _)
def stepParts(s:Step):List Ui:=s.Then.map ofStep++s.Else.map ofStep
theorem Qbv(s:Step)(h:Step.wf s):Ev (λn=>F_t n {Step:=s}) (stepParts s):=by
 obtain⟨_,⟨b,_⟩,⟨a,_⟩⟩:=Qal h;unfold F_t stepParts;refine Ea (Qfr s.Then (by omega)) (Ea (Qfr s.Else (by omega)) (QaW (QiM _ _ (by simp;omega)) (Qa _)))
theorem Qc4(c:Cond)(h:Cond.wf c):Ev (λn=>F_q n {Cond:=c}) (c.Parts.map ofCond):=by
 obtain⟨a,_⟩:=Qam h;unfold F_q;exact Ea (Qnf c.Parts (by omega)) (Qa _)
def okL(l:List Ui)(d:Nat)(st co:Int):Bool:=l.isEmpty||(decide (d<=16)&&(l.all (fD (d+1))&&(decide (st+fSs l<=64)&&decide (co+fCs l<=256))))
def okR(l:List Ui)(d:Nat)(st co:Int):Bool:=l.isEmpty||(l.all (fD (d+1))&&(decide (st+fSs l<=64)&&decide (co+fCs l<=256)))
def okF(f:Ui)(d:Nat)(st co:Int):Bool:=fD (d+1) f&&(decide (st+fS f<=64)&&decide (co+fC f<=256))
theorem Qir(f:Ui)(l:List Ui):fSs (f::l)=fS f+fSs l:=rfl
theorem Qit(f:Ui)(l:List Ui):fCs (f::l)=fC f+fCs l:=rfl
theorem Qiq(f:Ui)(l:List Ui):fZs (f::l)=fZ f+fZs l:=rfl
theorem Qfn(l m:List Ui):fSs (l++m)=fSs l+fSs m:=by simp[fSs]
theorem Qfp(l m:List Ui):fCs (l++m)=fCs l+fCs m:=by simp[fCs]
theorem Qfl(l m:List Ui):fZs (l++m)=fZs l+fZs m:=by simp[fZs]
theorem QmE(f:Ui)(r:List Ui)(d:Nat)(e h:Int):okR (f::r) d e h=(okF f d e h&&okR r d (e+fS f) (h+fC f)):=by
 unfold okR okF;rw[Qir,Qit];cases r with
 |nil=>simp[fSs,fCs]
 |cons g r=>
  rw[X0];simp only[List.isEmpty_cons,Bool.false_or,List.all_cons,XZ,Vt];rw[show((fS f+fSs (g::r):Nat):Int)=(fS f:Int)+(fSs (g::r):Int)by omega,show((fC f+fCs (g::r):Nat):Int)=(fC f:Int)+(fCs (g::r):Int)by omega];constructor
  .rintro⟨⟨b,a⟩,i,j⟩;exact⟨⟨b,by omega,by omega⟩,a,by omega,by omega⟩
  .rintro⟨⟨b,_,_⟩,a,i,j⟩;exact⟨⟨b,a⟩,by omega,by omega⟩
theorem Qg7(l:List Ui)(d:Nat)(h g:Int)(j:h<=64)(i:g<=256):okL l d h g=true↔(l.isEmpty||(decide (d<=16)&&l.all (fD (d+1))))=true/\h+fSs l<=64/\g+fCs l<=256:=by
 unfold okL;cases l with
 |nil=>simp[fSs,fCs,j,i]
 |cons f r=>
  simp only[List.isEmpty_cons,Bool.false_or,XZ,Vt];constructor
  .rintro⟨a,b,c,e⟩;exact⟨⟨a,b⟩,c,e⟩
  .rintro⟨⟨a,b⟩,c,e⟩;exact⟨a,b,c,e⟩
theorem QeH(s:Step)(d:Nat):((stepParts s).isEmpty||(decide (d<=16)&&(stepParts s).all (fD (d+1))))=(sDs d s.Then&&sDs d s.Else):=by
 rw[Qc3,Qc3];unfold stepParts;rw[List.all_append];cases b:s.Then<;>cases a:s.Else<;>simp<;>(cases decide (d<=16)<;>simp)
def Cnt(R:Nat->List Ui->Int->Ug->Option (Ug×Bool))(l:List Ui)(d:Nat)(st co:Int):Prop:=
 ∃c':Ug,Ev (λn=>R n l (d:Int) {steps:=st,conds:=co}) (c',okL l d st co)/\(okL l d st co=true->c'={steps:=st+fSs l,conds:=co+fCs l})
theorem QjJ{R:Nat->List Ui->Int->Ug->Option (Ug×Bool)}{l:List Ui}{d:Nat}(hd:d<=16){i:Nat}{f:Ui}(X:At l i f)(hw:fwf f)
  (N:∀l' d' a e,fZs l'<fZ f->l'.length<=2097152->(∀f∈l',fwf f)->d'<=17->0<=a->a<=66->(a<=65\/ ∀f∈l',∃c,f=ofCond c)->0<=e->e<=256->Cnt R l' d' a e){a e:Int}(h0:0<=a)(af:a<=66)(E:a<=65\/ ∃c,f=ofCond c)(h2:0<=e)(h3:e<=256):
  ∃c':Ug,Ev (λn=>F_dv n l (d:Int) (R n) ({steps:=a,conds:=e},(i:Int))) (bif okF f d a e then .cont (c',((i+1:Nat):Int))else .done (.done (c',false)))/\(okF f d a e=true->c'={steps:=a+fS f,conds:=e+fC f}):=by
 unfold F_dv;simp only[X.lt,Vr,X.ix,XM,X.nx];have ed:IntKind.i64.wrap ((d:Int)+1)=((d+1:Nat):Int):=YW (by omega);cases f with
 |ctyping_step x=>
  obtain⟨s⟩:=x;have h1:a<=65:=by
   rcases E with h|⟨c,h⟩
   .exact h
   .cases h
  have k:Step.wf s:=hw;obtain⟨wc,⟨ab,V⟩,⟨ac,aa⟩⟩:=Qal k;have M:IntKind.i64.wrap (a+1)=a+1:=Yi (by omega) (by omega);simp only[Ui.elim,Qgx,XM,M];have hc:∃t:Ug,Ev (λn=>((bif (!zeroC s.Cond)then(R n [Ui.ctyping_cond {Cond:=s.Cond}] 0 {steps:=a+1,conds:=e}).bind λp=>some (p.1,(!p.2))else some ({steps:=a+1,conds:=e},false)):Option (Ug×Bool))) (t, !(zeroC s.Cond||(cD 1 s.Cond&&(decide (a+1<=64)&&decide (e+cN s.Cond<=256)))))/\
    ((zeroC s.Cond||(cD 1 s.Cond&&(decide (a+1<=64)&&decide (e+cN s.Cond<=256))))=true->t={steps:=a+1,conds:=e+((bif zeroC s.Cond then 0 else cN s.Cond:Nat):Int)}):=by
   cases w:zeroC s.Cond with
   |true=>
    refine⟨{steps:=a+1,conds:=e},?_,λ_=>?_⟩
    .exact Qa _
    .simp
   |false=>
    obtain⟨t,m,H⟩:=N [ofCond s.Cond] 0 (a+1) e (by simp only[fZs,Vl,Vm,List.sum_cons,List.sum_nil];show cN s.Cond+0<sZ s;rw[QhS];omega) (by simp) (by intro g j;simp only[VD]at j;subst j;exact wc) (by omega) (by omega) (by omega) (.inr (by intro g j;simp only[VD]at j;exact⟨_,j⟩)) h2 h3;have ek:okL [ofCond s.Cond] 0 (a+1) e=(cD 1 s.Cond&&(decide (a+1<=64)&&decide (e+cN s.Cond<=256))):=by
     unfold okL;simp only[List.isEmpty_cons,Bool.false_or,List.all_cons,List.all_nil,Bool.and_true,fSs,fCs,Vl,Vm,List.sum_cons,List.sum_nil];rw[show fD (0+1) (ofCond s.Cond)=cD 1 s.Cond from rfl,show fS (ofCond s.Cond)=0 from rfl,show fC (ofCond s.Cond)=cN s.Cond from rfl];simp
    rw[ek]at m H;refine⟨t,Ea m (Qa _),λh=>?_⟩;rw[H h];simp[fSs,fCs,show fS (ofCond s.Cond)=0 from rfl,show fC (ofCond s.Cond)=cN s.Cond from rfl]
  obtain⟨t,m,H⟩:=hc;generalize hb:(zeroC s.Cond||(cD 1 s.Cond&&(decide (a+1<=64)&&decide (e+cN s.Cond<=256))))=b at m H;have hF:okF (Ui.ctyping_step {Step:=s}) d a e=(sDp (d+1) s&&(decide (a+sNp s<=64)&&decide (e+sC s<=256))):=rfl;rw[hF];cases b with
  |false=>
   have:(sDp (d+1) s&&(decide (a+sNp s<=64)&&decide (e+sC s<=256)))=false:=by
    rw[VO];intro hh;simp only[XZ,Vt,Qkl,Qf9,Qga]at hh;obtain⟨⟨P,_⟩,z2,z3⟩:=hh;cases w:zeroC s.Cond with
    |true=>rw[w]at hb;cases hb
    |false=>
     rw[w]at hb P z3;simp only[Bool.false_or]at hb P;rw[P]at hb;simp only[Vs]at z3;rw[Ys (show a+1<=64 by omega),Ys (show e+(cN s.Cond:Int)<=256 by omega)]at hb;cases hb
   rw[this];exact⟨t,Ea m (Qa _),λh=>by cases h⟩
  |true=>
   obtain rfl:=H rfl;by_cases q:64<a+1
   .have:(sDp (d+1) s&&(decide (a+sNp s<=64)&&decide (e+sC s<=256)))=false:=by
     rw[YJ (show¬a+(sNp s:Int)<=64 by rw[Qf9];omega)];simp
    rw[this];refine⟨{steps:=a+1,conds:=e+((bif zeroC s.Cond then 0 else cN s.Cond:Nat):Int)},Ea m ?_,λh=>by cases h⟩;simp only[Xg,Vs];refine Ea (v:=(_,true)) ?_ (Qa _);rw[Ys q];exact Qa _
   by_cases B:256<e+((bif zeroC s.Cond then 0 else cN s.Cond:Nat):Int)
   .have:(sDp (d+1) s&&(decide (a+sNp s<=64)&&decide (e+sC s<=256)))=false:=by
     rw[YJ (show¬e+(sC s:Int)<=256 by rw[Qga];omega)];simp
    rw[this];refine⟨{steps:=a+1,conds:=e+((bif zeroC s.Cond then 0 else cN s.Cond:Nat):Int)},Ea m ?_,λh=>by cases h⟩;simp only[Xg,Vs];refine Ea (v:=(_,true)) ?_ (Qa _);rw[YJ q,Ys B];exact Qa _
   obtain⟨G,z,F⟩:=N (stepParts s) (d+1) (a+1) (e+((bif zeroC s.Cond then 0 else cN s.Cond:Nat):Int)) (by
     unfold stepParts;rw[Qfl,QbX,QbX];show _<sZ s;rw[QhS];omega) (by unfold stepParts;simp;omega) (by
     intro g j;unfold stepParts at j;rcases VF.1 j with j|j
     .obtain⟨y,u,rfl⟩:=Xe.1 j;exact V y u
     .obtain⟨y,u,rfl⟩:=Xe.1 j;exact aa y u) (by omega) (by omega) (by omega) (.inl (by omega)) (by omega) (by omega)
   have J:okL (stepParts s) (d+1) (a+1) (e+((bif zeroC s.Cond then 0 else cN s.Cond:Nat):Int))=(sDp (d+1) s&&(decide (a+sNp s<=64)&&decide (e+sC s<=256))):=by
    rw[X0,Qg7 _ _ _ _ (by omega) (by omega),QeH];simp only[XZ,Vt,Qkl,Qf9,Qga];have O:fSs (stepParts s)=sNs s.Then+sNs s.Else:=by unfold stepParts;rw[Qfn,Qbh,Qbh]
    have Q:fCs (stepParts s)=sCs s.Then+sCs s.Else:=by unfold stepParts;rw[Qfp,Qbi,Qbi]
    rw[O,Q];have L:(zeroC s.Cond||cD 1 s.Cond)=true:=by
     cases w:zeroC s.Cond with
     |true=>rfl
     |false=>
      rw[w]at hb;simp only[Bool.false_or,XZ]at hb;rw[hb.1];rfl
    constructor
    .rintro⟨r,Y,T⟩;exact⟨⟨L,r⟩,by omega,by omega⟩
    .rintro⟨⟨_,r⟩,Y,T⟩;exact⟨r,by omega,by omega⟩
   rw[J]at z F;refine⟨G,Ea m ?_,λh=>?_⟩
   .simp only[Xg,Vs];refine Ea (v:=(G, !(sDp (d+1) s&&(decide (a+sNp s<=64)&&decide (e+sC s<=256))))) ?_ ?_
    .rw[YJ q,YJ B,ed];exact Ea (Qbv s k) (Ea z (Qa _))
    .cases(sDp (d+1) s&&(decide (a+sNp s<=64)&&decide (e+sC s<=256)))<;>exact Qa _
   .rw[F h];have O:fSs (stepParts s)=sNs s.Then+sNs s.Else:=by unfold stepParts;rw[Qfn,Qbh,Qbh]
    have Q:fCs (stepParts s)=sCs s.Then+sCs s.Else:=by unfold stepParts;rw[Qfp,Qbi,Qbi]
    rw[O,Q,show fS (Ui.ctyping_step {Step:=s})=sNp s from rfl,show fC (Ui.ctyping_step {Step:=s})=sC s from rfl,Qf9,Qga];congr 1<;>omega
 |ctyping_cond x=>
  obtain⟨c⟩:=x;have k:Cond.wf c:=hw;obtain⟨ae,W⟩:=Qam k;have M:IntKind.i64.wrap (e+1)=e+1:=Yi (by omega) (by omega);simp only[Ui.elim,M];have hF:okF (Ui.ctyping_cond {Cond:=c}) d a e=(cD (d+1) c&&(decide (a<=64)&&decide (e+cN c<=256))):=by
   show(cD (d+1) c&&(decide (a+((0:Nat):Int)<=64)&&decide (e+cN c<=256)))=_;rw[show a+((0:Nat):Int)=a by omega]
  rw[hF];by_cases q:64<a
  .have:(cD (d+1) c&&(decide (a<=64)&&decide (e+cN c<=256)))=false:=by
    rw[YJ (show¬a<=64 by omega)];simp
   rw[this];refine⟨{steps:=a,conds:=e+1},?_,λh=>by cases h⟩;refine Ea (v:=(_,true)) ?_ (Qa _);rw[Ys q];exact Qa _
  by_cases B:256<e+1
  .have:(cD (d+1) c&&(decide (a<=64)&&decide (e+cN c<=256)))=false:=by
    rw[YJ (show¬e+(cN c:Int)<=256 by rw[Qc9];omega)];simp
   rw[this];refine⟨{steps:=a,conds:=e+1},?_,λh=>by cases h⟩;refine Ea (v:=(_,true)) ?_ (Qa _);rw[YJ q,Ys B];exact Qa _
  obtain⟨G,z,F⟩:=N (c.Parts.map ofCond) (d+1) a (e+1) (by
    rw[Qfm];show _<cN c;rw[Qc9];omega) (by simp;omega) (by
    intro g j;obtain⟨y,u,rfl⟩:=Xe.1 j;exact W y u) (by omega) (by omega) (by omega) (.inl (by omega)) (by omega) (by omega)
  have J:okL (c.Parts.map ofCond) (d+1) a (e+1)=(cD (d+1) c&&(decide (a<=64)&&decide (e+cN c<=256))):=by
   rw[X0,Qg7 _ _ _ _ (by omega) (by omega), <- Qis,Qfo,Qfq];simp only[XZ,Vt,Qnx,Qc9];constructor
   .rintro⟨r,Y,T⟩;exact⟨r,by omega,by omega⟩
   .rintro⟨r,Y,T⟩;exact⟨r,by omega,by omega⟩
  rw[J]at z F;refine⟨G,?_,λh=>?_⟩
  .refine Ea (v:=(G, !(cD (d+1) c&&(decide (a<=64)&&decide (e+cN c<=256))))) ?_ ?_
   .rw[YJ q,YJ B,ed];exact Ea (Qc4 c k) (Ea z (Qa _))
   .cases(cD (d+1) c&&(decide (a<=64)&&decide (e+cN c<=256)))<;>exact Qa _
  .rw[F h,Qfo,Qfq,show fS (Ui.ctyping_cond {Cond:=c})=0 from rfl,show fC (Ui.ctyping_cond {Cond:=c})=cN c from rfl,Qc9];congr 1;omega
theorem Qne:∀(m:Nat) (l:List Ui) (d:Nat) (a b:Int),fZs l<=m->l.length<=2097152->(∀f∈l,fwf f)->d<=17->0<=a->a<=66->(a<=65\/ ∀f∈l,∃c,f=ofCond c)->0<=b->b<=256->Cnt F_d l d a b:=by
 intro m
 induction m using Nat.strongRecOn with
 |_ m G=>
 intro l d a b hm hl Q hd h0 T H h2 O;unfold Cnt;have B:∀c:Ug,(∃e:Ug,Ev (λn=>B_d (F_d n) n l (d:Int) c) (e,okL l d a b)/\(okL l d a b=true->e={steps:=a+fSs l,conds:=b+fCs l}))->∃e:Ug,Ev (λn=>F_d n l (d:Int) c) (e,okL l d a b)/\(okL l d a b=true->e={steps:=a+fSs l,conds:=b+fCs l}):=by
  rintro c ⟨e,P,q2⟩;exact⟨e,Jg P,q2⟩
 refine B _ ?_;unfold B_d;cases g:l with
 |nil=>
  refine⟨{steps:=a,conds:=b},?_,λ_=>by simp[fSs,fCs]⟩;refine Ea (v:=false) (Qa _) (JC ?_);refine Ea (v:=Ctl.cont {steps:=a,conds:=b}) (EvI.ev (Ej ?_)) (Qa _);exact Qa _
 |cons f0 r0=>
 rw[<- g];have y:l.isEmpty=false:=by rw[g];rfl
 have M:0<l.length:=by rw[g];simp
 by_cases j:d<=16
 rotate_left
 .have:okL l d a b=false:=by unfold okL;rw[y,YJ j];rfl
  rw[this];refine⟨{steps:=a,conds:=b},?_,λh=>by cases h⟩;rw[Ys (show(0:Int)<(l.length:Int)by omega),Ys (show(16:Int)<(d:Int)by omega)];exact Ea (Qa _) (Qa _)
 have F:okL l d a b=okR l d a b:=by unfold okL okR;rw[Ys j,VC]
 rw[F];have loop:∀(r:List Ui) (i:Nat) (a b:Int),l.drop i=r->i<=l.length->0<=a->a<=66->(a<=65\/ ∀f∈l,∃c,f=ofCond c)->0<=b->b<=256->
   ∃e:Ug,EvI (λn=>F_dv n l (d:Int) (F_d n)) ({steps:=a,conds:=b},(i:Int)) (bif okR r d a b then Ctl.cont e else Ctl.done (e,false))/\(okR r d a b=true->e={steps:=a+fSs r,conds:=b+fCs r}):=by
  intro r
  induction r with
  |nil=>
   intro i a b t L _ _ _ _ _;refine⟨{steps:=a,conds:=b},Ej ?_,λ_=>by simp[fSs,fCs]⟩;unfold F_dv;simp only[YL t L,Vs];exact Qa _
  |cons f r z=>
   intro i a b t L g0 g1 s X g3;obtain⟨q,u⟩:=Q3 (by omega) t;have aa:fZ f<=fZs l:=by
    have:∀(l:List Ui),f∈l->fZ f<=fZs l:=by
     intro l
     induction l with
     |nil=>intro h;cases h
     |cons x l G=>
      intro h;rw[Qiq];rcases X8.1 h with rfl|h
      .omega
      .have:=G h;omega
    exact this l q.mem
   obtain⟨e,p,E⟩:=QjJ (R:=F_d) j q (Q f q.mem) (λJ V a b k1 N W k4 k5 k6 w k7 k8=>G (fZs J) (by omega) J V a b (XW _) N W k4 k5 k6 w k7 k8) g0 g1 (s.imp id λh=>h f q.mem) X g3;rw[QmE];cases k:okF f d a b with
   |false=>
    rw[k]at p;exact⟨e,Ej p,λh=>by cases h⟩
   |true=>
    rw[k]at p;obtain rfl:=E k;have hb:a+fS f<=64/\b+fC f<=256:=by
     unfold okF at k;simp only[XZ,Vt]at k;exact k.2
    obtain⟨c2,u1,Y⟩:=z (i+1) (a+fS f) (b+fC f) u (by have:=q.lt';omega) (by omega) (by omega) (.inl (by omega)) (by omega) (by omega);refine⟨c2,Ew p u1,λh=>?_⟩;rw[Y (by simpa using h),Qir,Qit];congr 1<;>omega
 obtain⟨e,p,E⟩:=loop l 0 a b rfl (XX _) h0 T H h2 O;refine⟨e,?_,E⟩;refine Ea (v:=false) ?_ (JC (Ea p.ev ?_))
 .rw[Ys (show(0:Int)<(l.length:Int)by omega),YJ (show¬(16:Int)<(d:Int)by omega)];exact Qa _
 .cases okR l d a b<;>exact Qa _
mutual
def vaC:Cond->Bool
 |⟨k,v,n,ps⟩=>bif k==1 then inR 1 3 v&&(inR 0 10000 n&&((ps.length:Int)==0))else
   bif k==4 then((v==0)&&(n==0))&&(((ps.length:Int)==1)&&vaCs ps)else
   bif (k==2)||(k==3)then((v==0)&&(n==0))&&((decide (0<(ps.length:Int))&&decide ((ps.length:Int)<=16))&&vaCs ps)else false
def vaCs:List Cond->Bool
 |[]=>true
 |c::r=>vaC c&&vaCs r
end
theorem Qpd(c:Cond):vaC c=bif c.Kind==1 then inR 1 3 c.Var&&(inR 0 10000 c.N&&((c.Parts.length:Int)==0))else
   bif c.Kind==4 then((c.Var==0)&&(c.N==0))&&(((c.Parts.length:Int)==1)&&vaCs c.Parts)else
   bif (c.Kind==2)||(c.Kind==3)then((c.Var==0)&&(c.N==0))&&((decide (0<(c.Parts.length:Int))&&decide ((c.Parts.length:Int)<=16))&&vaCs c.Parts)else false:=by cases c;rfl
theorem Qkd:∀l:List Cond,vaCs l=l.all vaC
 |[]=>rfl
 |c::r=>by rw[vaCs,List.all_cons,Qkd r]
mutual
def vaS:Step->Bool
 |⟨k,b,c,t,e⟩=>bif k==1 then inR 1 5 b&&(zeroC c&&(((t.length:Int)==0)&&((e.length:Int)==0)))else
   bif k==2 then(b==0)&&(vaC c&&(decide (0<(t.length:Int))&&(vaSs t&&vaSs e)))else false
def vaSs:List Step->Bool
 |[]=>true
 |s::r=>vaS s&&vaSs r
end
theorem Qpc(s:Step):vaS s=bif s.Kind==1 then inR 1 5 s.By&&(zeroC s.Cond&&(((s.Then.length:Int)==0)&&((s.Else.length:Int)==0)))else
   bif s.Kind==2 then(s.By==0)&&(vaC s.Cond&&(decide (0<(s.Then.length:Int))&&(vaSs s.Then&&vaSs s.Else)))else false:=by cases s;rfl
theorem Qkc:∀l:List Step,vaSs l=l.all vaS
 |[]=>rfl
 |c::r=>by rw[vaSs,List.all_cons,Qkc r]
def fV:Ui->Bool
 |.ctyping_step x=>vaS x.Step
 |.ctyping_cond x=>vaC x.Cond
theorem QjR(l:List Cond):(l.map ofCond).any (λf=> !fV f)= !vaCs l:=by
 rw[Qkd,List.not_all_eq_any_not,List.any_map];rfl
theorem QcF(l:List Step):(l.map ofStep).any (λf=> !fV f)= !vaSs l:=by
 rw[Qkc,List.not_all_eq_any_not,List.any_map];rfl
theorem Qgw{R:Nat->List Ui->Option Bool}(c:Cond)(i:Cond.wf c)(j:Ev (λn=>R n (c.Parts.map ofCond)) (!vaCs c.Parts)):
  Ev (λn=>F_bw (R n) n {Cond:=c}) (vaC c):=by
 unfold F_bw;rw[Qpd];refine Ea (v:=(c.Var==0)&&(c.N==0)) (Ei λ_=>Qa _) ?_;refine Qb4 (λ_=>?_) (λl=>?_)
 .exact Ea (Ea (QK _ _ _) (Ei λ_=>Ea (QK _ _ _) (Ei λ_=>Qa _))) (Qa _)
 .have fin:∀b:Bool,Ev (λn=>((bif b then(F_q n {Cond:=c}).bind λg=>(R n g).bind λf=>some (!f)else some false):Option Bool).bind λd=>some d) (b&&vaCs c.Parts):=by
   intro b;refine Ea ((Ei λ_=>Ea (Qc4 c i) (Ea j (Qa _)))) ((Qa _).eq (by simp))
  cases m:(c.Kind==4)with
  |true=>
   simp only[Vr];cases h:((c.Var==0)&&(c.N==0))with
   |true=>
    refine Ea (v:=Ctl.cont ((c.Parts.length:Int)==1)) (Qa _) ((fin _).eq (by simp))
   |false=>
    refine Ea (v:=Ctl.cont false) (Qa _) ((fin _).eq (by simp))
  |false=>
   simp only[Vs];cases a:((c.Kind==2)||(c.Kind==3))with
   |true=>
    simp only[Vr];have e:Ev (λn:Nat=>((bif (c.Kind==2)then some (c.Kind==2)else some (c.Kind==3)):Option Bool)) true:=by
     refine Ez ?_;rw[Qny,a]
    cases h:((c.Var==0)&&(c.N==0))with
    |true=>
     cases k:decide (0<(c.Parts.length:Int))with
     |true=>
      refine Ea (v:=Ctl.cont (decide ((c.Parts.length:Int)<=16))) (Ea e (Qa _)) ((fin _).eq (by simp))
     |false=>
      refine Ea (v:=Ctl.cont false) (Ea e (Qa _)) ((fin _).eq (by simp))
    |false=>
     refine Ea (v:=Ctl.cont false) (Ea e (Qa _)) ((fin _).eq (by simp))
   |false=>
    have e:Ev (λn:Nat=>((bif (c.Kind==2)then some (c.Kind==2)else some (c.Kind==3)):Option Bool)) false:=by
     refine Ez ?_;rw[Qny,a]
    refine Ea (v:=Ctl.done false) (Ea e (Qa _)) (Qa _)
theorem QjE:∀(m:Nat) (l:List Ui),fZs l<=m->l.length<=2097152->(∀f∈l,fwf f)->Ev (λn=>F_g n l) (l.any λf=> !fV f):=by
 intro m
 induction m using Nat.strongRecOn with
 |_ m j=>
 intro l G F r;refine Jg ?_;show Ev (λn=>B_g (F_g n) n l) _;unfold B_g F_ei;refine Ev.contains l _ (λn f=>F_cl (F_g n) n f) (by omega) λf p=>?_;have w:fZ f<=fZs l:=by
  have:∀(l:List Ui),f∈l->fZ f<=fZs l:=by
   intro l
   induction l with
   |nil=>intro h;cases h
   |cons x l j=>
    intro h;rw[Qiq];rcases X8.1 h with rfl|h
    .omega
    .have:=j h;omega
  exact this l p
 unfold F_cl;refine Ea (v:=fV f) ?_ (Qa _);have a:∀c:Cond,Cond.wf c->cNs c.Parts<fZ f->Ev (λn=>F_g n (c.Parts.map ofCond)) (!vaCs c.Parts):=by
  intro c e i;rw[<- QjR];obtain⟨w1,w2⟩:=Qam e;refine j (fZs (c.Parts.map ofCond)) (by rw[Qfm];omega) _ (XW _) (by simp;omega) ?_;intro g b;obtain⟨y,d,rfl⟩:=Xe.1 b;exact w2 y d
 cases f with
 |ctyping_cond x=>
  obtain⟨c⟩:=x;have e:Cond.wf c:=r _ p;exact Qgw (R:=F_g) c e (a c e (by show cNs c.Parts<cN c;rw[Qc9];omega))
 |ctyping_step x=>
  obtain⟨s⟩:=x;have i:Step.wf s:=r _ p;obtain⟨t,⟨z,q⟩,⟨u,k⟩⟩:=Qal i;unfold F_ej;show Ev _ (vaS s);rw[Qpc];simp only[Ui.elim];refine Qb4 (λ_=>?_) (λE=>Qb4 (λ_=>?_) λ_=>Qa _)
  .refine Ea (Ea (QK _ _ _) (Ei λ_=>?_)) (Qa _);simp only[Qgx,XM];refine Ei λ_=>Ea (Qbv s i) ((Qa _).eq ?_);unfold stepParts;rw[X0];simp only[VA,XZ,X5,X4];omega
  .refine Ea (Ei λ_=>?_) (Qa _);refine Ea (Qgw (R:=F_g) s.Cond t (a s.Cond t (by show _<sZ s;rw[QhS,Qc9];omega))) (Ei λ_=>Ei λ_=>?_);refine Ea (Qbv s i) (Ea (j (fZs (stepParts s)) ?_ _ (XW _) (by unfold stepParts;simp;omega) ?_) ((Qa _).eq ?_))
   .have:fZs (stepParts s)<sZ s:=by
     unfold stepParts;rw[Qfl,QbX,QbX,QhS];omega
    have B:fZ (Ui.ctyping_step {Step:=s})=sZ s:=rfl;omega
   .intro g b;unfold stepParts at b;rcases VF.1 b with b|b
    .obtain⟨y,d,rfl⟩:=Xe.1 b;exact q y d
    .obtain⟨y,d,rfl⟩:=Xe.1 b;exact k y d
   .unfold stepParts;rw[List.any_append,QcF,QcF];simp
def goodT(l:List Step):Bool:=sDs 0 l&&(decide (sNs l<=64)&&decide (sCs l<=256))
def tiesE(l:List Step):Int:=bif goodT l then(bif l.isEmpty|| !vaSs l then 71 else 0)else 2
theorem QmF(l:List Step):okL (l.map ofStep) 0 0 0=goodT l:=by
 rw[X0,Qg7 _ _ _ _ (by omega) (by omega), <- Qc3,Qbh,Qbi];unfold goodT;simp only[XZ,Vt];constructor
 .rintro⟨a,b,c⟩;exact⟨a,by omega,by omega⟩
 .rintro⟨a,b,c⟩;exact⟨a,by omega,by omega⟩
theorem Qoz(l:List Step)(hl:l.length<=1048576)(j:∀x∈l,Step.wf x):Ev (λn=>F_cw n l) (tiesE l):=by
 unfold F_cw;refine Ea (Qfr l (by omega)) (Ea (v:=tiesE l) ?_ (Qa _));have a:∀f∈l.map ofStep,fwf f:=by
  intro g i;obtain⟨y,d,rfl⟩:=Xe.1 i;exact j y d
 obtain⟨k,b,m⟩:=Qne _ (l.map ofStep) 0 0 0 (XW _) (by simp;omega) a (by omega) (by omega) (by omega) (.inl (by omega)) (by omega) (by omega);rw[QmF]at b;unfold F_dk;have h:Ev (λn=>F_dm n (l.map ofStep) 0 {steps:=0,conds:=0}) (k,goodT l):=b.shift;refine Ea h ?_;unfold tiesE;cases goodT l with
 |false=>exact Qa _
 |true=>
  simp only[Xg,Vs,Vr];have e:(((l.map ofStep).length:Int)==0)=l.isEmpty:=by
   cases l<;>simp;omega
  rw[e];refine Ea (Eu λ_=>Ea (QjE _ _ (XW _) (by simp;omega) a) (Qa _)) ?_;rw[QcF];cases(l.isEmpty|| !vaSs l)<;>exact Qa _
def condB(d:Nat):Int:=256*(18-(d:Int))+1000
theorem QfZ:∀(m:Nat) (c:Cond) (d:Nat),cN c<=m->d<=17->Cond.wf c->∃v:Int,Ev (λn=>F_h n c (d:Int)) v/\0<=v/\v<=condB d/\
  (d<=16/\cD (d+1) c=true/\cN c<=256->v=cN c)/\(¬(d<=16/\cD (d+1) c=true/\cN c<=256)->256<v):=by
 intro m
 induction m using Nat.strongRecOn with
 |_ m J=>
 intro c d hm hd V;obtain⟨aa,H⟩:=Qam V;have E:∀{P:Int->Prop},(∃v:Int,Ev (λn=>B_h (F_h n) n c (d:Int)) v/\P v)->∃v:Int,Ev (λn=>F_h n c (d:Int)) v/\P v:=by
  rintro P ⟨v,g,b⟩;exact⟨v,Jg g,b⟩
 refine E ?_;unfold B_h;by_cases j:d<=16
 .rw[YJ (show¬(16:Int)<(d:Int)by omega)];have Y:IntKind.i64.wrap ((d:Int)+1)=((d+1:Nat):Int):=YW (by omega);have loop:∀(r:List Cond) (i:Nat) (a:Int),c.Parts.drop i=r->i<=c.Parts.length->0<=a->a<=condB d->
    ∃v:Int,EvI (λn=>F_fd n c (d:Int) (F_h n)) (a,(i:Int)) v/\0<=v/\v<=condB d/\
     (cDs (d+1) r=true/\a+cNs r<=256->v=a+cNs r)/\(¬(cDs (d+1) r=true/\a+cNs r<=256)->256<v):=by
   intro r
   induction r with
   |nil=>
    intro i a s L B g;refine⟨a,Ej ?_,B,g,λ_=>by simp[cNs],λh=>?_⟩
    .unfold F_fd;simp only[YL s L,Vs,XM];exact Qa _
    .simp[cDs,cNs]at h;omega
   |cons x r u=>
    intro i a s L B g;obtain⟨f,t⟩:=Q3 (by omega) s;have hx:cN x<cN c:=by
     have:∀l:List Cond,x∈l->cN x<=cNs l:=by
      intro l
      induction l with
      |nil=>intro h;cases h
      |cons y l J=>
       intro h;rw[cNs];rcases X8.1 h with rfl|h
       .omega
       .have:=J h;omega
     have:=this _ f.mem;rw[Qc9 c];omega
    by_cases e:a<=256
    .obtain⟨v,z,N,O,k,G⟩:=J (cN x) (by omega) x (d+1) (XW _) (by omega) (H x f.mem);have hB:condB (d+1)+256=condB d:=by unfold condB;omega
     have T:condB d<=6000:=by unfold condB;omega
     have Q:IntKind.i64.wrap (a+v)=a+v:=Yi (by omega) (by omega);obtain⟨w,R,q2,X,W,M⟩:=u (i+1) (a+v) t (by have:=f.lt';omega) (by omega) (by omega);refine⟨w,Ew ?_ R,q2,X,?_,?_⟩
     .unfold F_fd;simp only[f.lt,Vr,Ys e,XM,f.ix,f.nx,Y];refine Ea z ?_;rw[Q];exact Qa _
     .rintro⟨b,q⟩;simp only[cDs,XZ,Vt]at b;rw[cNs]at q⊢;have:=k ⟨b.1,b.2.1,by omega⟩;subst this;rw[W ⟨b.2.2,by omega⟩];omega
     .intro F;by_cases p:d+1<=16/\cD (d+1+1) x=true/\cN x<=256
      .have:=k p;subst this;refine M λb=>F ⟨?_,?_⟩
       .simp only[cDs,XZ,Vt];exact⟨p.1,p.2.1,b.1⟩
       .rw[cNs];omega
      .have:=G p;exact M λb=>by omega
    .refine⟨a,Ej ?_,B,g,λh=>?_,λ_=>by omega⟩
     .unfold F_fd;simp only[f.lt,Vr,YJ e,XM,Vs];exact Qa _
     .omega
  obtain⟨v,z,N,O,k,G⟩:=loop c.Parts 0 1 rfl (XX _) (by omega) (by unfold condB;omega);refine⟨v,JC (Ea z.ev (Qa _)),N,O,?_,?_⟩
  .rintro⟨_,b,q⟩;rw[Qnx]at b;rw[Qc9]at q⊢;rw[k ⟨b,by omega⟩];omega
  .intro F;refine G λh=>F ⟨j,by rw[Qnx];exact h.1,by rw[Qc9];omega⟩
 .rw[Ys (show(16:Int)<(d:Int)by omega)];refine⟨1000,QfR (Qa _),by omega,by unfold condB;omega,λh=>absurd h.1 j,λ_=>by omega⟩
def sizeB:Nat->Int
 |0=>10000
 |k+1=>3*sizeB k
theorem QcO:∀k,10000<=sizeB k
 |0=>Int.le_refl _
 |k+1=>by have:=QcO k;simp only[sizeB];omega
theorem Qme{k:Nat}(h:k<=17):sizeB k<=1291401630000:=by
 have:∀j,j<=17->sizeB j<=1291401630000:=by decide+kernel
 exact this k h
def goodL(d:Nat)(l:List Step):Prop:=sDs d l=true/\sNs l<=64/\sCs l<=256
theorem Qox:∀(m:Nat) (l:List Step) (d:Nat),sZs l<=m->d<=17->l.length<=1048576->(∀x∈l,Step.wf x)->∃a b:Int,Ev (λn=>F_n n l (d:Int)) (a,b)/\0<=a/\0<=b/\a<=sizeB (17-d)/\b<=sizeB (17-d)/\
  (goodL d l->a=sNs l/\b=sCs l)/\(¬goodL d l->64<a\/256<b):=by
 intro m
 induction m using Nat.strongRecOn with
 |_ m F=>
 intro l d hm hd hl hw;have aa:∀{P:Int->Int->Prop},(∃a b:Int,Ev (λn=>B_n (F_n n) n l (d:Int)) (a,b)/\P a b)->∃a b:Int,Ev (λn=>F_n n l (d:Int)) (a,b)/\P a b:=by
  rintro P ⟨a,b,B,u⟩;exact⟨a,b,Jg B,u⟩
 refine aa ?_;unfold B_n;by_cases e:0<l.length/\ ¬d<=16
 .rw[Ys (show(0:Int)<(l.length:Int)by omega),Ys (show(16:Int)<(d:Int)by omega)];have:=QcO (17-d);refine⟨1000,1000,Ea (Qa _) (QfR (Qa _)),by omega,by omega,by omega,by omega,λh=>?_,λ_=>by omega⟩;exfalso;cases l with
  |nil=>simp at e
  |cons x r=>
   have:=h.1;simp only[sDs,XZ,Vt]at this;exact e.2 this.1
 .have p:Ev (λn:Nat=>((bif decide (0<(l.length:Int))then some (decide (16<(d:Int)))else some false):Option Bool)) false:=by
   by_cases hp:0<l.length
   .have:d<=16:=by
     rcases VE 16 d with q|q
     .exact absurd ⟨hp,by omega⟩ e
     .exact q
    rw[Ys (show(0:Int)<(l.length:Int)by omega),YJ (show¬(16:Int)<(d:Int)by omega)];exact Qa _
   .rw[YJ (show¬(0:Int)<(l.length:Int)by omega)];exact Qa _
  have ed:IntKind.i64.wrap ((d:Int)+1)=((d+1:Nat):Int):=YW (by omega);have loop:∀(r:List Step) (i:Nat) (a b:Int),l.drop i=r->i<=l.length->0<=a->0<=b->a<=sizeB (17-d)->b<=sizeB (17-d)->
    ∃a' b':Int,EvI (λn=>F_fh n l (d:Int) (F_n n)) (a,b,(i:Int)) (a',b')/\0<=a'/\0<=b'/\a'<=sizeB (17-d)/\b'<=sizeB (17-d)/\
     (sDs d r=true/\a+sNs r<=64/\b+sCs r<=256->a'=a+sNs r/\b'=b+sCs r)/\(¬(sDs d r=true/\a+sNs r<=64/\b+sCs r<=256)->64<a'\/256<b'):=by
   intro r
   induction r with
   |nil=>
    intro i a b J hi p B u H;refine⟨a,b,Ej ?_,p,B,u,H,λ_=>by simp[sNs,sCs],λh=>?_⟩
    .unfold F_fh;simp only[YL J hi,Vs,XM];exact Qa _
    .simp[sDs,sNs,sCs]at h;omega
   |cons s r ae=>
    intro i a b J hi p B u H;obtain⟨j,Y⟩:=Q3 (by omega) J;have an:=j.lt';have w:d<=16:=by
     rcases VE 16 d with q|q
     .exact absurd ⟨by omega,by omega⟩ e
     .exact q
    have aj:sZ s<=sZs l:=by
     have:∀l:List Step,s∈l->sZ s<=sZs l:=by
      intro l
      induction l with
      |nil=>intro h;cases h
      |cons y l F=>
       intro h;rw[sZs];rcases X8.1 h with rfl|h
       .omega
       .have:=F h;omega
     exact this _ j.mem
    by_cases f:a<=64/\b<=256
    .obtain⟨wc,⟨af,ai⟩,⟨ac,T⟩⟩:=Qal (hw s j.mem);have ak:=QhS s;obtain⟨t,g,O,p2,p3,p4,p5,G,X⟩:=F (sZs s.Then) (by omega) s.Then (d+1) (XW _) (by omega) af ai;obtain⟨y1,y2,q1,q2,q3,q4,q5,q6,q7⟩:=F (sZs s.Else) (by omega) s.Else (d+1) (XW _) (by omega) ac T;have hB:sizeB (17-d)=3*sizeB (17-(d+1)):=by
      rw[show 17-d=(17-(d+1))+1 by omega];rfl
     have Q:=QcO (17-(d+1));have al:=Qme (k:=17-d) (by omega);have hc:∃z:Int,0<=z/\z<=5608/\Ev (λn=>((bif (!zeroC s.Cond)then(idx l (i:Int)).bind λR=>(F_h n R.Cond 0).bind λag=>some (IntKind.i64.wrap ((IntKind.i64.wrap ((IntKind.i64.wrap (b+g))+y2))+ag))else some (IntKind.i64.wrap ((IntKind.i64.wrap (b+g))+y2))):Option Int)) (b+g+y2+z)/\
       ((zeroC s.Cond||cD 1 s.Cond)=true/\(bif zeroC s.Cond then 0 else cN s.Cond)<=256->z=((bif zeroC s.Cond then 0 else cN s.Cond:Nat):Int))/\(¬((zeroC s.Cond||cD 1 s.Cond)=true/\(bif zeroC s.Cond then 0 else cN s.Cond)<=256)->256<z):=by
      have e1:IntKind.i64.wrap (b+g)=b+g:=Yi (by omega) (by omega);have e2:IntKind.i64.wrap (b+g+y2)=b+g+y2:=Yi (by omega) (by omega);cases hz:zeroC s.Cond with
      |true=>
       refine⟨0,by omega,by omega,?_,λ_=>by simp,λh=>absurd ⟨rfl,by simp⟩ h⟩;simp only[Xg,Vs,e1,e2];exact(Qa _).eq (by omega)
      |false=>
       obtain⟨v,u1,u2,u3,u4,u5⟩:=QfZ _ s.Cond 0 (XW _) (by omega) wc;have ah:v<=5608:=by unfold condB at u3;omega
       have e3:IntKind.i64.wrap (b+g+y2+v)=b+g+y2+v:=Yi (by omega) (by omega);refine⟨v,u2,ah,?_,λh=>?_,λh=>?_⟩
       .simp only[Xh,Vr,j.ix,XM,e1,e2];refine Ea u1 ?_;rw[e3];exact Qa _
       .simp only[Bool.false_or,Vs]at h⊢;exact u4 ⟨by omega,h.1,h.2⟩
       .simp only[Bool.false_or,Vs]at h;exact u5 λq=>h ⟨q.2.1,q.2.2⟩
     obtain⟨z,z0,z1,z2,z3,z4⟩:=hc;have e4:IntKind.i64.wrap (a+1)=a+1:=Yi (by omega) (by omega);have e5:IntKind.i64.wrap (a+1+t)=a+1+t:=Yi (by omega) (by omega);have e6:IntKind.i64.wrap (a+1+t+y1)=a+1+t+y1:=Yi (by omega) (by omega);obtain⟨w1,w2,v1,v2,v3,v4,v5,v6,E⟩:=ae (i+1) (a+1+t+y1) (b+g+y2+z) Y (by omega) (by omega) (by omega) (by omega) (by omega);refine⟨w1,w2,Ew ?_ v1,v2,v3,v4,v5,?_,?_⟩
     .unfold F_fh;simp only[j.lt,Vr,Ys f.1,Ys f.2,XM,j.ix,j.nx,ed,QjB];refine Ea O (Ea q1 ?_);simp only[j.ix,XM]at z2;refine Ea z2 ?_;rw[e4,e5,e6];exact Qa _
     .rintro⟨g1,g2,g3⟩;simp only[sDs,XZ,Vt,Qkl]at g1;obtain⟨am,⟨ab,V,W⟩,L⟩:=g1;rw[sNs,Qf9]at g2⊢;rw[sCs,Qga]at g3⊢;obtain⟨k1,k2⟩:=G ⟨V,by omega,by omega⟩;obtain⟨k3,k4⟩:=q6 ⟨W,by omega,by omega⟩;have k5:=z3 ⟨ab,by omega⟩;obtain⟨k6,k7⟩:=v6 ⟨L,by omega,by omega⟩;constructor<;>omega
     .intro hn;by_cases b1:goodL (d+1) s.Then
      .obtain⟨k1,k2⟩:=G b1;by_cases M:goodL (d+1) s.Else
       .obtain⟨k3,k4⟩:=q6 M;by_cases N:(zeroC s.Cond||cD 1 s.Cond)=true/\(bif zeroC s.Cond then 0 else cN s.Cond)<=256
        .have k5:=z3 N;refine E λq=>hn ⟨?_,?_,?_⟩
         .simp only[sDs,XZ,Vt,Qkl];exact⟨w,⟨N.1,b1.1,M.1⟩,q.1⟩
         .rw[sNs,Qf9];omega
         .rw[sCs,Qga];omega
        .have:=z4 N;exact E λq=>by omega
       .have:=q7 M;exact E λq=>by omega
      .have:=X b1;exact E λq=>by omega
    .refine⟨a,b,Ej ?_,p,B,u,H,λh=>?_,λ_=>?_⟩
     .unfold F_fh;have:Ev (λn:Nat=>((bif decide ((i:Int)<(l.length:Int))then(bif decide (a<=64)then some (decide (b<=256))else some false)else some false):Option Bool)) false:=by
       rw[j.lt];by_cases q:a<=64
       .rw[Ys q,YJ (show¬b<=256 from λz=>f ⟨q,z⟩)];exact Qa _
       .rw[YJ q];exact Qa _
      exact Ea this (JC (Qa _))
     .omega
     .omega
  have Q:=QcO (17-d);obtain⟨a,b,O,p2,p3,p4,p5,G,X⟩:=loop l 0 0 0 rfl (XX _) (by omega) (by omega) (by omega) (by omega);refine⟨a,b,Ea p (JC (Ea O.ev (Qa _))),p2,p3,p4,p5,λh=>?_,λh=>?_⟩
  .obtain⟨k1,k2⟩:=G ⟨h.1,by have:=h.2.1;omega,by have:=h.2.2;omega⟩;constructor<;>omega
  .exact X λq=>h ⟨q.1,by omega,by omega⟩
mutual
def hP:Part->Nat
 |⟨_,_,ps⟩=>bif ps.isEmpty then 0 else 1+hPs ps
def hPs:List Part->Nat
 |[]=>0
 |p::r=>max (hP p) (hPs r)
end
theorem Qo1(p:Part):hP p=bif p.Parts.isEmpty then 0 else 1+hPs p.Parts:=by cases p;rfl
theorem Qkz{p:Part}:∀{l:List Part},p∈l->hP p<=hPs l
 |q::r,h=>by
  simp only[hPs];rcases X8.1 h with rfl|h
  .omega
  .have:=Qkz h;omega
theorem Qh7{α:Type}(l:List α):((l.length:Int)==0)=l.isEmpty:=by
 cases l<;>simp;omega
theorem Qbb:∀l:List Part,l.length<=szPs l
 |[]=>XW _
 |p::r=>by have:=Qbb r;rw[szPs,Qad,X3];omega
theorem Qix:∀(m:Nat) (l:List Part) (k:Nat),szPs l<=m->k<=17->l.length<=1048576->(∀x∈l,Part.wf x)->Ev (λn=>F_i n l (k:Int)) ((min (hPs l) k:Nat):Int):=by
 intro m
 induction m using Nat.strongRecOn with
 |_ m w=>
 intro l k F B E t;refine Jg ?_;show Ev (λn=>B_i (F_i n) n l (k:Int)) _;unfold B_i;have loop:∀(r:List Part) (i:Nat) (a:Nat),l.drop i=r->i<=l.length->a<=k->EvI (λn=>F_av n l (k:Int) (F_i n)) ((a:Int),(i:Int)) ((max a (min (hPs r) k):Nat):Int):=by
  intro r
  induction r with
  |nil=>
   intro i a d g b;refine Ej ?_;unfold F_av;simp only[YL d g,Vs,XM];refine(Qa _).eq ?_;simp[hPs]
  |cons p r f=>
   intro i a d g q;obtain⟨b,e⟩:=Q3 (by omega) d;obtain⟨w1,w2⟩:=Je (t p b.mem);by_cases u:0<k
   .have s:IntKind.i64.wrap ((k:Int)-1)=((k-1:Nat):Int):=by rw[Yi (by omega) (by omega)];omega
    have j:=QaL b.mem;rw[Qad]at j;have step:Ev (λn=>F_av n l (k:Int) (F_i n) ((a:Int),(i:Int))) (.cont (((max a (min (hP p) k):Nat):Int),((i+1:Nat):Int))):=by
     unfold F_av;simp only[b.lt,Vr,Ys (show(0:Int)<(k:Int)by omega),XM,b.ix,b.nx,s,bne,Qh7];rw[Qo1];cases z:p.Parts.isEmpty with
     |true=>
      simp only[Xg,Vs,XM,Vr,Nat.zero_min,Nat.max_zero];exact Qa _
     |false=>
      simp only[Xh,Vr,Vs];refine Ea (Ea (w (szPs p.Parts) (by omega) p.Parts (k-1) (XW _) (by omega) w1 w2) (Qa _)) ((Qa _).eq ?_);have y:IntKind.i64.wrap (1+((min (hPs p.Parts) (k-1):Nat):Int))=((1+min (hPs p.Parts) (k-1):Nat):Int):=by rw[Yi (by omega) (by omega)];omega
      rw[y];congr 2;split<;>omega
    refine(Ew step (f (i+1) _ e (by have:=b.lt';omega) (by omega))).eq ?_;rw[hPs];omega
   .have:k=0:=by omega
    subst this;refine Ej ?_;unfold F_av;simp only[b.lt,Vr,YJ (show¬(0:Int)<((0:Nat):Int)by omega),XM,Vs];have h:max a (min (hPs (p::r)) 0)=a:=by omega
    rw[h];exact Qa _
 refine Ea ((loop l 0 0 rfl (XX _) (XX _)).ev) ((Qa _).eq ?_);omega
theorem Qiy:∀(m:Nat) (l:List Part),szPs l<=m->l.length<=1048576->(∀x∈l,Part.wf x)->Ev (λn=>F_p n l) ((min (szPs l) 257:Nat):Int):=by
 intro m
 induction m using Nat.strongRecOn with
 |_ m z=>
 intro l B y w;refine Jg ?_;show Ev (λn=>B_p (F_p n) n l) _;unfold B_p;have loop:∀(r:List Part) (i:Nat) (a:Nat),l.drop i=r->i<=l.length->a<=1048576->∃b:Nat,EvI (λn=>F_dz n l (F_p n)) ((a:Int),(i:Int)) (b:Int)/\min b 257=min (a+(szPs r-r.length)) 257:=by
  intro r
  induction r with
  |nil=>
   intro i a e q _;refine⟨a,Ej ?_,by simp[szPs]⟩;unfold F_dz;simp only[YL e q,Vs,XM];exact Qa _
  |cons p r g=>
   intro i a e q u;obtain⟨d,f⟩:=Q3 (by omega) e;obtain⟨w1,w2⟩:=Je (w p d.mem);have t:=QaL d.mem;rw[Qad]at t;have s:=Qbb r;by_cases j:a<=256
   .obtain⟨b,h,k⟩:=g (i+1) (a+min (szPs p.Parts) 257) f (by have:=d.lt';omega) (by omega);refine⟨b,Ew ?_ h,?_⟩
    .unfold F_dz;simp only[d.lt,Vr,Ys (show(a:Int)<=256 by omega),XM,d.ix,d.nx];refine Ea (z (szPs p.Parts) (by omega) p.Parts (XW _) w1 w2) ((Qa _).eq ?_);rw[Yi (by omega) (by omega)];congr 2
     all_goals omega
    .rw[k,szPs,Qad,X3];omega
   .refine⟨a,Ej ?_,by omega⟩;unfold F_dz;simp only[d.lt,Vr,YJ (show¬(a:Int)<=256 by omega),XM,Vs];exact Qa _
 obtain⟨b,h,k⟩:=loop l 0 l.length rfl (XX _) y;refine Ea h.ev ((Qa _).eq ?_);have:=Qbb l;split<;>omega
theorem Qnd:∀(m:Nat) (l:List Part) (k:Nat),szPs l<=m->hPs l<=k->k<=17->szPs l<=256->(∀x∈l,Part.wf x)->Ev (λn=>F_j n l (k:Int)) ((hPs l:Int),(szPs l:Int)):=by
 intro m
 induction m using Nat.strongRecOn with
 |_ m N=>
 intro l k P O t e F;have w:=Qbb l;refine Jg ?_;show Ev (λn=>B_j (F_j n) n l (k:Int)) _;unfold B_j;have loop:∀(r:List Part) (i:Nat) (a b:Nat),l.drop i=r->i<=l.length->a<=17->b+(szPs r-r.length)<=256->EvI (λn=>F_ef n l (k:Int) (F_j n)) ((a:Int),(b:Int),(i:Int)) (((max a (hPs r):Nat):Int),((b+(szPs r-r.length):Nat):Int)):=by
  intro r
  induction r with
  |nil=>
   intro i a b f s _ _;refine Ej ?_;unfold F_ef;simp only[YL f s,Vs,XM];refine(Qa _).eq ?_;simp[hPs,szPs]
  |cons p r j=>
   intro i a b f s M q;obtain⟨d,g⟩:=Q3 (by omega) f;obtain⟨w1,w2⟩:=Je (F p d.mem);have z:=QaL d.mem;have h:=Qkz d.mem;rw[Qad]at z;have y:=Qbb r;rw[szPs,Qad,X3]at q;have step:Ev (λn=>F_ef n l (k:Int) (F_j n) ((a:Int),(b:Int),(i:Int))) (.cont (((max a (hP p):Nat):Int),((b+szPs p.Parts:Nat):Int),((i+1:Nat):Int))):=by
    unfold F_ef;simp only[d.lt,Vr,d.ix,XM,d.nx,Qh7];rw[Qo1]at h⊢;cases u:p.Parts.isEmpty with
    |true=>
     have L:p.Parts=[]:=by simpa using u
     simp only[Vr,XM];rw[L];simp only[szPs,Xy,Nat.max_zero];exact Qa _
    |false=>
     rw[u]at h;simp only[Vs]at h⊢;have G:0<k:=by omega
     have B:IntKind.i64.wrap ((k:Int)-1)=((k-1:Nat):Int):=by rw[Yi (by omega) (by omega)];omega
     have H:((k:Int)==0)=false:=beq_false_of_ne (by omega);rw[H,YJ (show¬(256:Int)<(b:Int)by omega),B];simp only[Vs,XM];refine Ea (Ea (N (szPs p.Parts) (by omega) p.Parts (k-1) (XW _) (by omega) (by omega) (by omega) w2) (Qa _)) ((Qa _).eq ?_);have J:IntKind.i64.wrap ((hPs p.Parts:Int)+1)=((hPs p.Parts+1:Nat):Int):=YW (by omega);have E:IntKind.i64.wrap ((b:Int)+(szPs p.Parts:Int))=((b+szPs p.Parts:Nat):Int):=by rw[Yi (by omega) (by omega)];omega
     simp only[J,E];congr 2;split<;>omega
   refine(Ew step (j (i+1) _ _ g (by have:=d.lt';omega) (by omega) (by omega))).eq ?_;rw[hPs,szPs,Qad,X3];congr 1<;>omega
 refine Ea ((loop l 0 0 l.length rfl (XX _) (by omega) (by omega)).ev) ((Qa _).eq ?_);congr 1<;>omega
def repS:Nat->List Int->List Int->List Int
 |0,out,_=>out
 |k+1,out,lap=>if 256<out.length then out else repS k (out++lap) lap
mutual
def lapS:Part->List Int
 |⟨m,laps,ps⟩=>bif decide (0<laps)then expS [] ps else[m]
def expS:List Int->List Part->List Int
 |out,[]=>out
 |out,p::r=>expS (repS (p.Laps.toNat+(bif decide (0<p.Laps)then 0 else 1)) out (lapS p)) r
end
theorem Qeq(p:Part):lapS p=bif decide (0<p.Laps)then expS [] p.Parts else[p.Mat]:=by cases p;rfl
theorem QeS{k:Nat}{a b:List Int}(h:256<a.length):repS k a b=a:=by
 cases k with
 |zero=>rfl
 |succ k=>rw[repS,Vv h]
theorem Qiv:∀(l:List Part) {out:List Int},256<out.length->expS out l=out
 |[],out,h=>by rw[expS]
 |p::r,out,h=>by rw[expS,QeS h];exact Qiv r h
theorem QeR:∀(k:Nat) (out lap:List Int),(repS k out lap).length<=max out.length (256+lap.length)
 |0,out,lap=>by rw[repS];omega
 |k+1,out,lap=>by
  rw[repS];split
  .omega
  .have:=QeR k (out++lap) lap;rw[X5]at this;omega
theorem Qiu:∀(m:Nat) (l:List Part) (a:List Int),szPs l<=m->(expS a l).length<=max a.length (256+257*szPs l):=by
 intro m
 induction m using Nat.strongRecOn with
 |_ m i=>
 intro l;have b:∀p∈l,szPs l<=m->(lapS p).length<=257*szP p:=by
  intro p d h;have k:=QaL d;rw[Qeq,Qad]at*;cases decide (0<p.Laps)with
  |true=>
   have:=i (szPs p.Parts) (by omega) p.Parts [] (XW _);simp only[Vr,List.length_nil]at this⊢;omega
  |false=>simp;omega
 have e:∀(r:List Part) (a:List Int),(∀p∈r,(lapS p).length<=257*szP p)->(expS a r).length<=max a.length (256+257*szPs r):=by
  intro r
  induction r with
  |nil=>intro a _;rw[expS];omega
  |cons p r f=>
   intro a g;rw[expS,szPs];have s:=f (repS (p.Laps.toNat+(bif decide (0<p.Laps)then 0 else 1)) a (lapS p)) λq j=>g q (by simp[j]);have n:=QeR (p.Laps.toNat+(bif decide (0<p.Laps)then 0 else 1)) a (lapS p);have t:=g p (by simp);omega
 intro a h;exact e l a λp d=>b p d h
theorem QmP(p:Part):(lapS p).length<=257*szP p:=by
 rw[Qeq,Qad];cases decide (0<p.Laps)with
 |true=>
  have:=Qiu _ p.Parts [] (XW _);simp only[Vr,List.length_nil]at this⊢;omega
 |false=>simp;omega
theorem Qll(X:Int):∀(m:Nat) (l:List Part),szPs l<=m->szPs l<=256->l.length<=1048576->(∀x∈l,Part.wf x)->partsS X l=true->Ev (λn=>F_l n l) (expS [] l):=by
 intro m
 induction m using Nat.strongRecOn with
 |_ m ih=>
 intro l hm G hl Y P;rw[Qdu,Xt]at P;refine Jg ?_;show Ev (λn=>B_l (F_l n) n l) _;unfold B_l;have inner:∀(p:Part) (e:List Int) (g:p.Laps=0\/0<p.Laps/\p.Laps<=64) (B:e.length<=100000) (j:Nat) (k:Nat) (a:List Int),j+k=p.Laps.toNat+(bif decide (0<p.Laps)then 0 else 1)->a.length<=200000->
   ∃d:Ctl (List Int) (Ctl ((List Int)×Int) (Ctl (List Int) (List Int))),EvI (λn=>F_fm n p e) (a,(j:Int)) d/\
    (d=.cont (repS k a e)\/(256<(repS k a e).length/\d=.done (.done (.done (repS k a e))))):=by
  intro p e g B j k
  induction k generalizing j with
  |zero=>
   intro a f _;refine⟨_,Ej (b:=.cont a) ?_,.inl rfl⟩;unfold F_fm;have:¬((j:Int)<if p.Laps<1 then 1 else p.Laps):=by
    rcases g with h|⟨h,R⟩
    .rw[h]at f⊢;simp at f⊢;omega
    .rw[Ys h]at f;simp at f;rw[Vu (by omega)];omega
   rw[YJ this];exact Qa _
  |succ k N=>
   intro a f y;have w:((j:Int)<if p.Laps<1 then 1 else p.Laps):=by
    rcases g with h|⟨h,R⟩
    .rw[h]at f⊢;simp at f⊢;omega
    .rw[Ys h]at f;simp at f;rw[Vu (by omega)];omega
   have O:j<=64:=by
    rcases g with h|⟨h,R⟩
    .rw[h]at f;simp at f;omega
    .rw[Ys h]at f;simp at f;omega
   by_cases s:256<a.length
   .refine⟨_,Ej (b:=.done (.done (.done a))) ?_,.inr ⟨by rw[QeS s];exact s,by rw[QeS s]⟩⟩;unfold F_fm;rw[Ys w,Ys (show(256:Int)<(a.length:Int)by omega)];exact Qa _
   .obtain⟨d,u,F⟩:=N (j+1) (a++e) (by omega) (by rw[X5];omega);refine⟨d,Ew ?_ u,by rw[repS,Vu s];exact F⟩;unfold F_fm;rw[Ys w,YJ (show¬(256:Int)<(a.length:Int)by omega)];refine QfR (JC (QaW (QiM a e (by omega)) ?_));rw[YW (by omega)];exact Qa _
 have loop:∀(r:List Part) (i:Nat) (a:List Int),l.drop i=r->i<=l.length->a.length<=100000->
   ∃d:Ctl (List Int) (List Int),EvI (λn=>F_fe n l (F_l n)) (a,(i:Int)) d/\(d=.cont (expS a r)\/d=.done (expS a r)):=by
  intro r
  induction r with
  |nil=>
   intro i a H Q _;refine⟨.cont a,Ej ?_,.inl (by rw[expS])⟩;unfold F_fe;simp only[YL H Q,Vs];exact Qa _
  |cons p r M=>
   intro i a H Q y;obtain⟨q,J⟩:=Q3 (by omega) H;have w:=q.lt';have V:=QaL q.mem;obtain⟨w1,w2⟩:=Je (Y p q.mem);have g:=P p q.mem;rw[QeU]at g;have t:p.Laps=0\/0<p.Laps/\p.Laps<=64:=by
    cases T:(p.Laps==0)with
    |true=>exact .inl (by simpa using T)
    |false=>
     rw[T]at g;simp only[Vs,inR,XZ,Vt]at g;exact .inr ⟨by omega,by omega⟩
   have aa:=QmP p;have s:Ev (λn=>((bif decide (0<p.Laps)then(F_l n p.Parts).bind λL=>some L else some [p.Mat]):Option (List Int))) (lapS p):=by
    rw[Qeq];refine Qb4 (λh=>?_) (λ_=>Qa _);rw[Qad]at V;refine Ea (ih (szPs p.Parts) (by omega) p.Parts (XW _) (by omega) w1 w2 ?_) (Qa _);have:(p.Laps==0)=false:=by
     simp only[Vt]at h;exact beq_false_of_ne (by omega)
    rw[this]at g;simp only[Vs,XZ]at g;exact g.2.2.2
   obtain⟨d,u,F⟩:=inner p (lapS p) t (by omega) 0 _ a (Xx _) (by omega);rw[expS];rcases F with rfl|⟨z,rfl⟩
   .obtain⟨E,W,q2⟩:=M (i+1) (repS (p.Laps.toNat+(bif decide (0<p.Laps)then 0 else 1)) a (lapS p)) J (by omega) (by
     have:=QeR (p.Laps.toNat+(bif decide (0<p.Laps)then 0 else 1)) a (lapS p);omega)
    refine⟨E,Ew ?_ W,q2⟩;unfold F_fe;simp only[q.lt,Vr,q.ix,XM,q.nx];exact Ea s (Ea u.ev (Qa _))
   .refine⟨.done (repS (p.Laps.toNat+(bif decide (0<p.Laps)then 0 else 1)) a (lapS p)),Ej ?_,.inr (by rw[Qiv r z])⟩;unfold F_fe;simp only[q.lt,Vr,q.ix,XM,q.nx];exact Ea s (Ea u.ev (Qa _))
 obtain⟨d,u,F⟩:=loop l 0 [] rfl (XX _) (by simp);rcases F with rfl|rfl
 .exact Ea u.ev (Qa _)
 .exact Ea u.ev (Qa _)
def kindAt(c:Course)(m:Int):Int:=((c.Mats[m.toNat]?).map (·.Kind)).getD 0
def hasLeg(c:Course)(a b:Int):Bool:=c.Legs.any λl=>(l.From==a)&&(l.To==b)
def rokS(c:Course)(len:Nat):Nat->Int->List Int->Bool
 |_,_,[]=>true
 |i,prev,m::r=>((kindAt c m==1)==decide (i=0))&&(((kindAt c m==3)==decide (i+1=len))&&((decide (i=0)||hasLeg c prev m)&&rokS c len (i+1) m r))
def routeR(c:Course)(d:Distance)(r:List Int):Bool:=
 (decide (2<=r.length)&&decide (r.length<=256))&&(rokS c r.length 0 0 r&&((bif decide (0<=d.Extra)then !((r.count d.Extra:Int)==0)&&((kindAt c d.Extra==2)&&hasLeg c d.Extra d.Extra)else true)&&d.Cutoffs.all λx=>decide (x.Lap<=(r.count x.Mat:Int))))
def routeS(c:Course)(d:Distance):Bool:=routeR c d (expS [] d.Route)
def cntM(l:List Int):List (Int×Int):=l.foldl (λm k=>QJ m k (QW m k 0+1)) []
theorem Qls(l:List Int)(k:Int):cntM (l++[k])=QJ (cntM l) k (QW (cntM l) k 0+1):=by unfold cntM;rw[XF];rfl
theorem QfB(l:List Int)(k:Int):QW (cntM l) k 0=(l.count k:Int):=by
 have a:∀(l:List Int) (m:List (Int×Int)),QW (l.foldl (λm k=>QJ m k (QW m k 0+1)) m) k 0=QW m k 0+(l.count k:Int):=by
  intro l
  induction l with
  |nil=>intro m;simp
  |cons x l b=>
   intro m;rw[XG,b,Qe0,List.count_cons];by_cases h:k=x
   .subst h;simp;omega
   .have:(x==k)=false:=beq_false_of_ne λe=>h e.symm;simp[h,this]
 have:=a l [];simpa[cntM,Qk9]using this
theorem Qjm(d:Int):∀(m:Nat) (l:List Part) (a:List Int),szPs l<=m->partsS d l=true->(∀x∈a,0<=x/\x<=d)->∀x∈expS a l,0<=x/\x<=d:=by
 intro m
 induction m using Nat.strongRecOn with
 |_ m B=>
 intro l;have q:∀(k:Nat) (a b:List Int),(∀x∈a,0<=x/\x<=d)->(∀x∈b,0<=x/\x<=d)->∀x∈repS k a b,0<=x/\x<=d:=by
  intro k
  induction k with
  |zero=>intro a b i _;rw[repS];exact i
  |succ k t=>
   intro a b i w;rw[repS];split
   .exact i
   .refine t _ _ ?_ w;intro x g;rcases VF.1 g with h|h
    .exact i x h
    .exact w x h
 have j:∀(r:List Part) (a:List Int),szPs r<=m->partsS d r=true->(∀x∈a,0<=x/\x<=d)->∀x∈expS a r,0<=x/\x<=d:=by
  intro r
  induction r with
  |nil=>intro a _ _ h;rw[expS];exact h
  |cons p r s=>
   intro a u f h;rw[szPs,Qad]at u;rw[partsS,XZ]at f;obtain⟨e,z⟩:=f;rw[expS];refine s _ (by omega) z (q _ _ _ h ?_);rw[Qeq];rw[QeU]at e;cases n:(p.Laps==0)with
   |true=>
    have y:p.Laps=0:=by simpa using n
    rw[n,Vr,XZ]at e;have:=e.1;unfold inR at this;simp only[XZ,Vt]at this;rw[y];intro x g;simp at g;subst g;exact this
   |false=>
    rw[n]at e;simp only[Vs,XZ,inR,Vt]at e;rw[Ys (show 0<p.Laps by omega),Vr];exact B (szPs p.Parts) (by omega) p.Parts [] (XW _) e.2.2.2 (by simp)
 exact λa u f h=>j l a u f h
theorem Qkt{c:Course}{m:Int}(h0:0<=m)(b:m<=(c.Mats.length:Int)-1):∃x:Mat,idx c.Mats m=some x/\x.Kind=kindAt c m:=by
 obtain⟨k,rfl⟩:∃k:Nat,m=(k:Int):=⟨m.toNat,by omega⟩;have a:k<c.Mats.length:=by omega
 refine⟨c.Mats[k],YZ (XN a),?_⟩;unfold kindAt;rw[Int.toNat_natCast,XN a];rfl
theorem Qh8(c:Course)(a b:Int):QW (Yo legKey true c.Legs) {from_:=a,to_:=b} false=hasLeg c a b:=by
 rw[QdY];unfold hasLeg;by_cases h:({from_:=a,to_:=b}:Uh)∈c.Legs.map legKey
 .rw[Vv h];obtain⟨l,d,e⟩:=Xe.1 h;unfold legKey at e;obtain⟨f,g⟩:=ends_eq.1 e;exact(Xu.2 ⟨l,d,by simp[f,g]⟩).symm
 .rw[Vu h]
  symm
  rw[VO];intro q;obtain⟨l,d,e⟩:=Xu.1 q;simp only[XZ,VA]at e;exact h (Xe.2 ⟨l,d,by unfold legKey;rw[e.1,e.2]⟩)
structure NumOk (c:Course):Prop where
 kinds:∀m∈c.Mats,1<=m.Kind/\m.Kind<=3
 dist:∀d∈c.Distances,-1<=d.Extra/\d.Extra<=(c.Mats.length:Int)-1/\partsS ((c.Mats.length:Int)-1) d.Route=true
theorem QnP{c:Course}(h:numbersS c=true):NumOk c:=by
 unfold numbersS at h;simp only[XZ,Xt]at h;refine⟨λm b=>?_,λd e=>?_⟩
 .have:=h.1 m b;unfold inR at this;simpa using this
 .have:=h.2.2.2.1 d e;unfold distS at this;simp only[XZ]at this;obtain⟨_,a,f,_⟩:=this;unfold inR at a;simp only[XZ,Vt]at a;exact⟨a.1,a.2,f⟩
theorem QpT{c:Course}(q:NumOk c){d:Distance}(hd:d∈c.Distances):∀x∈expS [] d.Route,0<=x/\x<=(c.Mats.length:Int)-1:=
 Qjm _ _ d.Route [] (XW _) (q.dist d hd).2.2 (by simp)
theorem Qmk(c:Course)(len i:Nat)(prev m:Int)(r:List Int):rokS c len i prev (m::r)=(((kindAt c m==1)==decide (i=0))&&(((kindAt c m==3)==decide (i+1=len))&&((decide (i=0)||hasLeg c prev m)&&rokS c len (i+1) m r))):=rfl
theorem Qoh(i:Nat):((i:Int)==0)=decide (i=0):=by
 rw[X0];simp
theorem QfX(c:Course)(r:List Int)(u:2<=r.length)(R:r.length<=256)(L:∀x∈r,0<=x/\x<=(c.Mats.length:Int)-1):
  Ev (λn=>iter (F_ci n c (Yo legKey true c.Legs) r) n ([],0)) (bif rokS c r.length 0 0 r then .cont (cntM r)else .done false):=by
 have loop:∀(t:List Int) (i:Nat) (b:Int),r.drop i=t->i<=r.length->(0<i->At r (i-1) b)->EvI (λn=>F_ci n c (Yo legKey true c.Legs) r) (cntM (r.take i),(i:Int)) (bif rokS c r.length i b t then .cont (cntM r)else .done false):=by
  intro t
  induction t with
  |nil=>
   intro i b f s _;refine Ej ?_;unfold F_ci;simp only[YL f s,Vs,rokS,Vr];have:r.length<=i:=by simpa using f
   rw[VK this];exact Qa _
  |cons m t P=>
   intro i b f s N;obtain⟨d,j⟩:=Q3 (by omega) f;have Q:=d.lt';obtain⟨M,G⟩:=L m d.mem;obtain⟨x,z,H⟩:=Qkt M G;have J:IntKind.i64.wrap ((r.length:Int)-1)=((r.length-1:Nat):Int):=by rw[Yi (by omega) (by omega)];omega
   have B:((i:Int)==((r.length-1:Nat):Int))=decide (i+1=r.length):=by rw[X0];simp;omega
   have F:Ev (λn:Nat=>((bif ((x.Kind==1) != ((i:Int)==0))then some true else(bif ((x.Kind==3) != ((i:Int)==(IntKind.i64.wrap ((r.length:Int)-1))))then some true else(bif decide (0<(i:Int))then(idx r (IntKind.i64.wrap ((i:Int)-1))).bind λk=>(some (QW (Yo legKey true c.Legs) ({from_:=k,to_:=m:Uh}) false)).bind λp=>some (!p)else some false))):Option Bool))
     (!(((kindAt c m==1)==decide (i=0))&&(((kindAt c m==3)==decide (i+1=r.length))&&(decide (i=0)||hasLeg c b m)))):=by
    rw[H,J,B,Qoh];refine Ev.eq (Eu λ_=>Eu λ_=>Qb4 (v:= !hasLeg c b m) (w:=false) (λh=>?_) λ_=>Qa _) ?_
    .have g:0<i:=by simpa using h
     have y:IntKind.i64.wrap ((i:Int)-1)=((i-1:Nat):Int):=by rw[Yi (by omega) (by omega)];omega
     rw[y,(N g).ix];simp only[XM,Qh8];exact Qa _
    .have O:decide (0<(i:Int))= !decide (i=0):=by rw[X0];simp;omega
     rw[O];cases(kindAt c m==1)<;>cases decide (i=0)<;>cases(kindAt c m==3)<;>cases decide (i+1=r.length)<;>cases hasLeg c b m<;>rfl
   have e:IntKind.i64.wrap (QW (cntM (r.take i)) m 0+1)=QW (cntM (r.take i)) m 0+1:=by
    rw[QfB];have:(r.take i).count m<=i:=by have:=List.count_le_length (a:=m) (l:=r.take i);simp at this;omega
    exact Yi (by omega) (by omega)
   have step:Ev (λn=>F_ci n c (Yo legKey true c.Legs) r (cntM (r.take i),(i:Int))) (bif ((kindAt c m==1)==decide (i=0))&&(((kindAt c m==3)==decide (i+1=r.length))&&(decide (i=0)||hasLeg c b m))then .cont (cntM (r.take (i+1)),((i+1:Nat):Int))else .done (.done false)):=by
    unfold F_ci;simp only[d.lt,Vr,d.ix,XM,d.nx,z];refine Ea F ?_;rw[e, <- Qls, <- d.take];cases(((kindAt c m==1)==decide (i=0))&&(((kindAt c m==3)==decide (i+1=r.length))&&(decide (i=0)||hasLeg c b m)))<;>exact Qa _
   have E:rokS c r.length i b (m::t)=((((kindAt c m==1)==decide (i=0))&&(((kindAt c m==3)==decide (i+1=r.length))&&(decide (i=0)||hasLeg c b m)))&&rokS c r.length (i+1) m t):=by rw[Qmk];simp only[Bool.and_assoc]
   rw[E];cases q:(((kindAt c m==1)==decide (i=0))&&(((kindAt c m==3)==decide (i+1=r.length))&&(decide (i=0)||hasLeg c b m)))with
   |false=>
    rw[q]at step;exact Ej step
   |true=>
    rw[q]at step;rw[VC];exact Ew step (P (i+1) m j (by omega) (λ_=>by simpa using d))
 exact(loop r 0 0 rfl (XX _) (by omega)).ev
theorem QjD(c:Course)(w:CourseOk c)(q:NumOk c)(d:Distance)(b:d∈c.Distances)(u:∀x∈d.Route,Part.wf x)(l:szPs d.Route<=256):
  Ev (λn=>F_bt n c d (Yo legKey true c.Legs)) (routeS c d):=by
 have i:=Qbb d.Route;have j:=QpT q b;have a:=Qiu _ d.Route [] (XW _);unfold F_bt routeS;refine Ea (Qll _ _ d.Route (XW _) l (by omega) u (q.dist d b).2.2) ?_;generalize expS [] d.Route=r at j a⊢;unfold routeR;have z:IntKind.i64.wrap ((r.length:Int)-1)=(r.length:Int)-1:=by
  have:r.length<=1048576:=by simp at a;omega
  exact QcM this
 rw[z];have k:(decide ((r.length:Int)-1<1)||decide (256<=(r.length:Int)-1))= !(decide (2<=r.length)&&decide (r.length<=256)):=by
  rw[X0];simp;omega
 refine Ea (Ev.eq (Eu λ_=>Qa _) k) ?_;cases f:(decide (2<=r.length)&&decide (r.length<=256))with
 |false=>exact Qa _
 |true=>
  simp only[XZ,Vt]at f;rw[VC];refine JC (Ea (QfX c r f.1 f.2 j) ?_);cases rokS c r.length 0 0 r with
  |false=>exact Qa _
  |true=>
   simp only[Vr,VC];have s:Ev (λn:Nat=>((bif decide (0<=d.Extra)then(some (QW (cntM r) d.Extra 0)).bind λh=>(bif (h==0)then some true else(idx c.Mats d.Extra).bind λe=>(bif (e.Kind != 2)then some true else(some (QW (Yo legKey true c.Legs) ({from_:=d.Extra,to_:=d.Extra:Uh}) false)).bind λg=>some (!g)))else some false):Option Bool))
     (!(bif decide (0<=d.Extra)then !((r.count d.Extra:Int)==0)&&((kindAt c d.Extra==2)&&hasLeg c d.Extra d.Extra)else true)):=by
    rw[QfB];cases p:decide (0<=d.Extra)with
    |false=>exact Qa _
    |true=>
     obtain⟨x,t,y⟩:=Qkt (c:=c) (m:=d.Extra) (by simpa using p) (q.dist d b).2.1;simp only[Vr,XM,t,Qh8,y];refine Ev.eq (Eu λ_=>Eu λ_=>Qa _) ?_;rw[bne];cases((r.count d.Extra:Int)==0)<;>cases(kindAt c d.Extra==2)<;>cases hasLeg c d.Extra d.Extra<;>rfl
   refine Ea s ?_;cases(bif decide (0<=d.Extra)then !((r.count d.Extra:Int)==0)&&((kindAt c d.Extra==2)&&hasLeg c d.Extra d.Extra)else true)with
   |false=>exact Qa _
   |true=>
    rw[VC];refine JC (Ea ?_ (Qa _));unfold F_ev F_ew F_fi;refine Jh d.Cutoffs _ (λn x=>F_br n x (cntM r)) (by have:=w.cut d b;omega) λx _=>?_;unfold F_br;rw[QfB];exact Qa _
theorem QdP{a b:Nat}(h:a+b<=4611686018427387904):IntKind.i64.wrap ((a:Int)+(b:Int))=((a+b:Nat):Int):=by
 rw[Yi (by omega) (by omega)];omega
def lensC(c:Course):Nat:=c.Mats.length+c.Legs.length+c.Distances.length+c.Waves.length+c.Offences.length+c.Categories.length+c.Prizes.length
def fewD(d:Distance):Prop:=d.Cutoffs.length<=200/\szPs d.Route<=200/\hPs d.Route<=16
structure FewOk (c:Course):Prop where
 lens:lensC c<=200
 name:c.Name.length<=100
 dist:∀d∈c.Distances,fewD d
 ties:c.Ties.length<=200
theorem Qhs(c:Course)(w:CourseOk c)(q:PartsOk c)(hl:c.Ties.length<=1048576)(P:∀x∈c.Ties,Step.wf x):∃b,Ev (λn=>F_aj n c) b/\(b=true->FewOk c):=by
 have hm:=w.mats;have hg:=w.legs;have hd:=w.dist;have F:=w.wave;have ho:=w.off;have hc:=w.cat;have hp:=w.prize;have loop:∀(t:List Distance) (i s:Nat),c.Distances.drop i=t->i<=c.Distances.length->∃f:Ctl Int Bool,EvI (λn=>F_cm n c) ((s:Int),(i:Int)) f/\(f=.done false\/ ∃v:Nat,f=.cont (v:Int)/\(v<=200->s<=v/\ ∀d∈t,fewD d)):=by
  intro t
  induction t with
  |nil=>
   intro i s u G;refine⟨.cont (s:Int),Ej ?_,Or.inr ⟨s,rfl,λ_=>⟨XW _,by simp⟩⟩⟩;unfold F_cm;simp only[YL u G,Vs,XM];exact Qa _
  |cons d t ih=>
   intro i s u G;obtain⟨g,B⟩:=Q3 (by omega) u;have aa:=g.lt';by_cases L:s<=200
   .have j:=q.len d g.mem;have l:=q.wf d g.mem;have H:=w.cut d g.mem;have z:=Qiy _ d.Route (XW _) j l;have J:=Qix _ d.Route 17 (XW _) (XW _) j l;have M:IntKind.i64.wrap ((s:Int)+(d.Cutoffs.length:Int))=((s+d.Cutoffs.length:Nat):Int):=QdP (by omega);have T:IntKind.i64.wrap (((s+d.Cutoffs.length:Nat):Int)+((min (szPs d.Route) 257:Nat):Int))=((s+d.Cutoffs.length+min (szPs d.Route) 257:Nat):Int):=QdP (by omega);have step:Ev (λn=>F_cm n c ((s:Int),(i:Int))) (bif decide ((16:Int)<((min (hPs d.Route) 17:Nat):Int))then .done (.done false)else .cont (((s+d.Cutoffs.length+min (szPs d.Route) 257:Nat):Int),((i+1:Nat):Int))):=by
     unfold F_cm;simp only[g.lt,Vr,g.ix,XM,g.nx,Ys (show(s:Int)<=200 by omega)];refine Ea z (Ea J ?_);rw[M,T];cases decide ((16:Int)<((min (hPs d.Route) 17:Nat):Int))<;>exact Qa _
    by_cases R:hPs d.Route<=16
    .rw[YJ (show¬(16:Int)<((min (hPs d.Route) 17:Nat):Int)by omega)]at step;obtain⟨f,p,k⟩:=ih (i+1) (s+d.Cutoffs.length+min (szPs d.Route) 257) B (by omega);refine⟨f,Ew step p,?_⟩;rcases k with k|⟨v,k,y⟩
     .exact Or.inl k
     .refine Or.inr ⟨v,k,λF=>?_⟩;obtain⟨W,E⟩:=y F;refine⟨by omega,λx r=>?_⟩;rcases X8.1 r with rfl|r
      .exact⟨by omega,by omega,R⟩
      .exact E x r
    .rw[Ys (show(16:Int)<((min (hPs d.Route) 17:Nat):Int)by omega)]at step;exact⟨.done false,Ej step,Or.inl rfl⟩
   .refine⟨.cont (s:Int),Ej ?_,Or.inr ⟨s,rfl,λh=>absurd h L⟩⟩;unfold F_cm;simp only[g.lt,Vr,YJ (show¬(s:Int)<=200 by omega),XM,Vs];exact Qa _
 obtain⟨f,p,k⟩:=loop c.Distances 0 (lensC c) rfl (XX _);have e:IntKind.i64.wrap ((IntKind.i64.wrap ((IntKind.i64.wrap ((IntKind.i64.wrap ((IntKind.i64.wrap ((IntKind.i64.wrap ((c.Mats.length:Int)+(c.Legs.length:Int)))+(c.Distances.length:Int)))+(c.Waves.length:Int)))+(c.Offences.length:Int)))+(c.Categories.length:Int)))+(c.Prizes.length:Int))=(lensC c:Int):=by
  have Q:c.Mats.length+c.Legs.length<=4611686018427387904:=by omega
  have X:c.Mats.length+c.Legs.length+c.Distances.length<=4611686018427387904:=by omega
  have O:c.Mats.length+c.Legs.length+c.Distances.length+c.Waves.length<=4611686018427387904:=by omega
  have N:c.Mats.length+c.Legs.length+c.Distances.length+c.Waves.length+c.Offences.length<=4611686018427387904:=by omega
  have Y:c.Mats.length+c.Legs.length+c.Distances.length+c.Waves.length+c.Offences.length+c.Categories.length<=4611686018427387904:=by omega
  have V:c.Mats.length+c.Legs.length+c.Distances.length+c.Waves.length+c.Offences.length+c.Categories.length+c.Prizes.length<=4611686018427387904:=by omega
  rw[QdP Q,QdP X,QdP O,QdP N,QdP Y,QdP V];rfl
 unfold F_aj;rw[e];rcases k with rfl|⟨v,rfl,y⟩
 .exact⟨false,Ea p.ev (Qa _),λh=>by cases h⟩
 .obtain⟨a,b,z,J,p3,_,_,_,_⟩:=Qox _ c.Ties 0 (XW _) (by omega) hl P;have m:Ev (λn=>F_cc n c.Ties) (decide ((c.Ties.length:Int)<=20)&&(decide (a<=80)&&decide (b<=300))):=by
   unfold F_cc;exact Ea z (Ea (Ei λ_=>Ei λ_=>Qa _) (Qa _))
  refine⟨decide ((v:Int)<=200)&&(decide ((c.Name.length:Int)<=100)&&(decide ((c.Ties.length:Int)<=20)&&(decide (a<=80)&&decide (b<=300)))),Ea p.ev (Ea (Ei λ_=>Ei λ_=>Ea m (Qa _)) (Qa _)),λh=>?_⟩;simp only[XZ,Vt]at h;obtain⟨W,E⟩:=y (by omega);exact⟨by omega,by omega,E,by omega⟩
def fitsS(c:Course):Bool:=
 !(decide (40<(c.Mats.length:Int))||(decide (512<(c.Legs.length:Int))||(decide (8<(c.Distances.length:Int))||(decide (32<(c.Waves.length:Int))||(decide (32<(c.Offences.length:Int))||(decide (32<(c.Categories.length:Int))||decide (32<(c.Prizes.length:Int))))))))
  &&c.Distances.all λd=> !decide (64<(d.Cutoffs.length:Int))
theorem Qoy(c:Course)(w:CourseOk c)(q:PartsOk c)(k:FewOk c):Ev (λn=>F_cd n c) (fitsS c):=by
 unfold F_cd fitsS;refine Ea (Eu λ_=>Eu λ_=>Eu λ_=>Eu λ_=>Eu λ_=>Eu λ_=>Qa _) ?_;cases(decide (40<(c.Mats.length:Int))||(decide (512<(c.Legs.length:Int))||(decide (8<(c.Distances.length:Int))||(decide (32<(c.Waves.length:Int))||(decide (32<(c.Offences.length:Int))||(decide (32<(c.Categories.length:Int))||decide (32<(c.Prizes.length:Int))))))))with
 |true=>exact Qa _
 |false=>
  rw[Xh,VC];refine JC (Ea (QlY c.Distances (λd=> !decide (64<(d.Cutoffs.length:Int))) (Ctl.done false) (Ctl.cont ()) (by have:=w.dist;omega) (λi x a=>?_) ?_) ?_)
  .obtain⟨f,b,e⟩:=k.dist x a.mem;unfold F_hz;simp only[a.lt,Vr,a.ix,XM,a.nx];refine Ea (Qnd _ x.Route 17 (XW _) (by omega) (XW _) (by omega) (q.wf x a.mem)) ?_;refine Ea (Eu λ_=>Eu λ_=>Qa _) ?_;simp only[YJ (show¬(16:Int)<(hPs x.Route:Int)by omega),YJ (show¬(256:Int)<(szPs x.Route:Int)by omega),Bool.or_false];cases decide (64<(x.Cutoffs.length:Int))<;>exact Qa _
  .unfold F_hz;simp only[Qbj,Vs];exact Qa _
  .cases(c.Distances.all λd=> !decide (64<(d.Cutoffs.length:Int)))<;>exact Qa _
def courseE(c:Course):Int:=
 bif fitsS c then bif namesS c then bif numbersS c then bif tiesE c.Ties==0 then bif c.Distances.all (routeS c)then 0 else 72 else tiesE c.Ties else 71 else 70 else 2
theorem Qlm(c:Course)(w:CourseOk c)(q:PartsOk c)(k:FewOk c)(hl:c.Ties.length<=1048576)(d:∀x∈c.Ties,Step.wf x):Ev (λn=>F_r n c) (courseE c):=by
 unfold F_r courseE;refine Ea (Qoy c w q k) ?_;cases fitsS c with
 |false=>exact Qa _
 |true=>
 refine JC (Ea (Qm9 c w) ?_);cases namesS c with
 |false=>exact Qa _
 |true=>
 refine JC (Ea (QjC c w q) ?_);cases f:numbersS c with
 |false=>exact Qa _
 |true=>
 refine JC (Ea (Qoz c.Ties hl d) ?_);rw[bne];cases(tiesE c.Ties==0)with
 |false=>exact Qa _
 |true=>
 have e:Ev (λn=>iter (F_hj n c) n ([],0)) (Yo legKey true c.Legs):=by
  refine QbF c.Legs legKey true (by have:=w.legs;omega) (λi x m a=>?_) (λm=>?_)
  .unfold F_hj;simp only[a.lt,Vr,a.ix,XM,a.nx];exact Qa _
  .unfold F_hj;simp only[Qbj,Vs];exact Qa _
 refine JC (Ea e ?_);have a:Ev (λn=>F_cx n c.Distances c (Yo legKey true c.Legs)) (c.Distances.all (routeS c)):=by
  unfold F_cx F_dx F_en;refine Jh c.Distances _ (λn x=>F_ct n x c (Yo legKey true c.Legs)) (by have:=w.dist;omega) λx b=>?_;unfold F_ct;exact Ea (QjD c w (QnP f) x b (q.wf x b) (by have:=(k.dist x b).2.1;omega)) (Qa _)
 refine Ea a ?_;cases c.Distances.all (routeS c)<;>exact Qa _
theorem Qf4{α:Type}{lt:α->α->Prop}(d:∀a b,lt a b->¬lt b a):∀{l m:List α},l.Pairwise lt->m.Pairwise lt->(∀x,x∈l↔x∈m)->l=m:=by
 intro l
 induction l with
 |nil=>
  intro m _ _ h;cases m with
  |nil=>rfl
  |cons y m=>exact absurd ((h y).2 (by simp)) (by simp)
 |cons x l q=>
  intro m p s h;cases m with
  |nil=>exact absurd ((h x).1 (by simp)) (by simp)
  |cons y m=>
   obtain⟨j,r⟩:=Xc.1 p;obtain⟨i,n⟩:=Xc.1 s;have g:x=y:=by
    rcases X8.1 ((h x).1 (by simp))with e|e
    .exact e
    .rcases X8.1 ((h y).2 (by simp))with k|k
     .exact k.symm
     .exact absurd (i x e) (d _ _ (j y k))
   subst g;rw[q r n λz=>?_];constructor
   .intro f;rcases X8.1 ((h z).1 (by simp[f]))with e|e
    .subst e;exact absurd (j z f) (d _ _ (j z f))
    .exact e
   .intro f;rcases X8.1 ((h z).2 (by simp[f]))with e|e
    .subst e;exact absurd (i z f) (d _ _ (i z f))
    .exact e
theorem QbZ:∀(l:List Int) (p:Int),(∀x∈l,p<=x)->l.Pairwise (· <= ·)->(QaR p l).Pairwise (· < ·)/\(∀x∈QaR p l,p<x)/\ ∀x,x∈p::QaR p l↔x∈p::l
 |[],p,_,_=>⟨List.Pairwise.nil,by simp[QaR],by simp[QaR]⟩
 |y::l,p,h,hp=>by
  obtain⟨h1,h2⟩:=Xc.1 hp;unfold QaR;by_cases e:y=p
  .subst e;obtain⟨k1,k2,k3⟩:=QbZ l y h1 h2;rw[beq_self_eq_true,Vr];refine⟨k1,k2,λx=>?_⟩;rw[k3 x];simp
  .have e':(y==p)=false:=by simpa using e
   rw[e',Vs];obtain⟨k1,k2,k3⟩:=QbZ l y h1 h2;have b:=h y (by simp);refine⟨Xc.2 ⟨k2,k1⟩,λx a=>?_,λx=>?_⟩
   .rcases X8.1 a with rfl|a
    .omega
    .have:=k2 x a;omega
   .rw[X8,k3 x];simp
theorem QjI(l:List Int):(QiH (YD ltI l)).Pairwise (· < ·)/\ ∀x,x∈QiH (YD ltI l)↔x∈l:=by
 have e:(YD ltI l).Pairwise (· <= ·):=(QR (QcW l)).imp λ{a b} h=>by simp[ltI]at h;exact h
 have d:∀x,x∈YD ltI l↔x∈l:=λx=>(Qo ltI l).mem_iff;generalize YD ltI l=m at e d;cases m with
 |nil=>exact⟨List.Pairwise.nil,λx=>by rw[<- d x];rfl⟩
 |cons y m=>
  obtain⟨i,g⟩:=Xc.1 e;obtain⟨j,f,k⟩:=QbZ m y i g;exact⟨Xc.2 ⟨f,j⟩,λx=>(k x).trans (d x)⟩
theorem Qkj{α:Type}(l:List α){a b:Nat}(h:a<=b)(d:b<=l.length):slc l (a:Int) (b:Int)=some ((l.take b).drop a):=by
 unfold slc;rw[Ys (show(0:Int)<=(a:Int)by omega),Ys (show(a:Int)<=(b:Int)by omega),Ys (show(b:Int)<=(l.length:Int)by omega)];simp
theorem Qpe{α:Type}(l:List α){b:Nat}(a:b<=l.length):slc l 0 (b:Int)=some (l.take b):=by
 have:=Qkj l (XX b) a;simpa using this
theorem Qmd{α:Type}(l:List α){a:Nat}(b:a<=l.length):slc l (a:Int) (l.length:Int)=some (l.drop a):=by
 have:=Qkj l b (XW _);simpa using this
theorem Qda{α:Type}(l m:List α)(h:l.length+m.length<=4294967296):app l m=some (l++m):=by
 unfold app;rw[XV (by unfold Qy;exact h)];rfl
theorem Qmg{α:Type}(l:List α){i:Nat}(x:α)(h:i<l.length):Qct l (i:Int) x=some (l.set i x):=by
 unfold Qct;rw[Ys (show(0:Int)<=(i:Int)by omega),Ys (show(i:Int)<(l.length:Int)by omega)];simp
def firstI{α:Type}(q:α->Bool):List α->Nat->Int
 |[],_=> -1
 |x::l,i=>bif q x then(i:Int)else firstI q l (i+1)
theorem Ev.first{α:Type}{step:Nat->Int->Option (Ctl Int (Ctl Unit Int))}(l:List α)(q:α->Bool)(hl:l.length<=4611686018427387904)
  (k:∀i x,At l i x->Ev (λn=>step n (i:Int)) (bif q x then .done (.done (i:Int))else .cont ((i+1:Nat):Int)))(t:Ev (λn=>step n (l.length:Int)) (.done (.cont ()))):
  Ev (λn=>(Go.Sw.iter (step n) n 0).bind λb=>match b with|.cont _=>some (-1)|.done v=>some v) (firstI q l 0):=by
 have loop:∀(r:List α) (i:Nat),l.drop i=r->i<=l.length->∃a:Ctl Unit Int,EvI step (i:Int) a/\(match a with|.cont _=>some (-1)|.done v=>some v)=some (firstI q r i):=by
  intro r
  induction r with
  |nil=>
   intro i e m;have:i=l.length:=by have:=Xr.1 e;omega
   subst this;exact⟨.cont (),Ej t,rfl⟩
  |cons x r p=>
   intro i e m;obtain⟨j,f⟩:=Q3 hl e;have s:=k i x j;unfold firstI;cases h:q x with
   |true=>
    rw[h]at s;exact⟨_,Ej s,rfl⟩
   |false=>
    rw[h]at s;obtain⟨a,g,d⟩:=p (i+1) f (by have:=j.lt';omega);exact⟨a,Ew s g,d⟩
 obtain⟨a,g,d⟩:=loop l 0 rfl (XX _);exact Ea g.ev (Ez d)
theorem QaV{ι α:Type}{F:Nat->ι->Option α}{V:ι->α}:∀(L:List ι),(∀p∈L,Ev (λn=>F n p) (V p))->∃N,∀n,N<=n->∀p∈L,F n p=some (V p)
 |[],_=>⟨0,λ_ _ p hp=>by cases hp⟩
 |x::L,h=>by
  obtain⟨N,hN⟩:=QaV L λp hp=>h p (by simp[hp]);obtain⟨M,hM⟩:=h x (by simp);refine⟨N+M,λn hn p hp=>?_⟩;rcases X8.1 hp with rfl|hp
  .exact hM n (by omega)
  .exact hN n (by omega) p hp
theorem Ev.anyP{E R:Type}[DecidableEq R]{k:Nat->List E->Option R}{l:List E}{r:R}(h:∀p,p.Perm l->Ev (λn=>k n p) r):Ev (λn=>Go.Sw.anyP (k n) l) r:=by
 obtain⟨N,b⟩:=QaV (F:=λn p=>k n p) (V:=λ_=>r) (QbS l) λp a=>h p (Qcx l p a);exact⟨N,λn d=>QkN λp a=>b n d p (Qdt l p a)⟩
theorem Ev.isNil{α R:Type}[DecidableEq R]{l:List α}{x y:Nat->Option R}{v:R}(e:l=[]->Ev x v)(a:Ev y v):Ev (λn=>Go.Sw.isNil l (x n) (y n)) v:=by
 unfold Go.Sw.isNil;cases q:l.isEmpty with
 |false=>exact a
 |true=>
  obtain⟨N,b⟩:=e (List.isEmpty_iff.1 q);obtain⟨M,d⟩:=a;exact⟨N+M,λn f=>by dsimp only;rw[b n (by omega),d n (by omega)];simp⟩
set_option maxRecDepth 4000
def openU(f:Fact):U_facts_open_rxk:=
 bif f.Kind==1 then .c0 ()else bif f.Kind==2 then .c1 ()else bif f.Kind==3 then .c2 ()else bif f.Kind==4 then .c3 ()else bif f.Kind==5 then .c4 ()else bif f.Kind==6 then .c5 ()
 else bif f.Kind==7 then .c6 ()else bif f.Kind==8 then .c7 ()else bif f.Kind==9 then .c8 ()else bif f.Kind==10 then
  (bif (f.Ruling.Kind==1)||(f.Ruling.Kind==2)then .c9 (0,0,0,0,0,0)else bif f.Ruling.Kind==3 then .c9 (1,9999,0,255,1,1099511627776)else bif f.Ruling.Kind==4 then .c9 (1,9999,0,255,1,64)else .c9 (1,9999,0,255,0,0))
 else bif f.Kind==11 then .c10 ()else bif f.Kind==12 then .c11 ()else bif f.Kind==13 then .c12 ()else .c13 ()
theorem Qkq(n:Nat)(f:Fact)(b:Int):F_ak n f b=some (openU f):=by
 unfold F_ak openU;cases(f.Kind==1)with
 |true=>rfl
 |false=>
 cases(f.Kind==2)with
 |true=>rfl
 |false=>
 cases(f.Kind==3)with
 |true=>rfl
 |false=>
 cases(f.Kind==4)with
 |true=>rfl
 |false=>
 cases(f.Kind==5)with
 |true=>rfl
 |false=>
 cases(f.Kind==6)with
 |true=>rfl
 |false=>
 cases(f.Kind==7)with
 |true=>rfl
 |false=>
 cases(f.Kind==8)with
 |true=>rfl
 |false=>
 cases(f.Kind==9)with
 |true=>rfl
 |false=>
 cases(f.Kind==10)with
 |true=>
  cases(f.Ruling.Kind==1)with
  |true=>rfl
  |false=>
  cases(f.Ruling.Kind==2)with
  |true=>rfl
  |false=>
  cases(f.Ruling.Kind==3)with
  |true=>rfl
  |false=>
  cases(f.Ruling.Kind==4)with
  |true=>rfl
  |false=>rfl
 |false=>
 cases(f.Kind==11)with
 |true=>rfl
 |false=>
 cases(f.Kind==12)with
 |true=>rfl
 |false=>
 cases(f.Kind==13)with
 |true=>rfl
 |false=>rfl
def headL:List Ent:=[⟨false,3,1,13⟩,⟨false,0,0,31⟩,⟨false,1,1,1048576⟩,⟨false,2,0,1099511627776⟩]
def bodyL:U_facts_open_rxk->List Ent
 |.c0 _=>[⟨false,4,1,9999⟩,⟨false,5,0,7⟩,⟨false,6,0,31⟩,⟨false,7,(-1099511627776),1099511627776⟩,⟨false,8,0,120⟩,⟨false,9,0,1048576⟩,⟨false,10,0,9999⟩,⟨false,11,0,1048576⟩]
 |.c1 _=>[⟨false,12,0,39⟩,⟨false,13,0,255⟩,⟨false,14,0,1048576⟩,⟨false,15,(-1099511627776),1099511627776⟩]
 |.c2 _=>[⟨false,16,0,39⟩,⟨false,17,0,255⟩,⟨false,18,(-1099511627776),1099511627776⟩,⟨false,19,(-1099511627776),1099511627776⟩,⟨false,20,0,1099511627776⟩]
 |.c3 _=>[⟨false,21,0,39⟩,⟨false,22,0,255⟩,⟨false,23,(-1099511627776),1099511627776⟩,⟨false,24,0,39⟩,⟨false,25,0,255⟩,⟨false,26,(-1099511627776),1099511627776⟩,⟨false,27,(-1099511627776),1099511627776⟩,⟨false,28,(-1099511627776),1099511627776⟩]
 |.c4 _=>[⟨false,29,1,9999⟩,⟨false,30,0,255⟩,⟨false,31,(-1099511627776),1099511627776⟩,⟨false,32,(-1099511627776),1099511627776⟩]
 |.c5 _=>[⟨false,33,0,39⟩,⟨false,34,0,255⟩,⟨false,35,(-1099511627776),1099511627776⟩,⟨false,36,(-1099511627776),1099511627776⟩]
 |.c6 _=>[⟨false,37,1,9999⟩,⟨false,38,1,9999⟩]
 |.c7 _=>[⟨false,39,1,1048576⟩,⟨false,40,1,9999⟩,⟨false,41,0,31⟩,⟨false,42,0,255⟩]
 |.c8 _=>[⟨false,43,1,1048576⟩,⟨false,44,0,9999⟩,⟨false,45,0,1125899906842624⟩,⟨false,46,0,1⟩]
 |.c9 x=>[⟨false,47,1,1048576⟩,⟨false,48,1,2⟩,⟨false,49,1,5⟩,⟨false,50,x.1,x.2.1⟩,⟨false,51,x.2.2.1,x.2.2.2.1⟩,⟨false,52,x.2.2.2.2.1,x.2.2.2.2.2⟩]
 |.c10 _=>[⟨false,53,1,1048576⟩,⟨true,0,0,1⟩]
 |.c11 _=>[]
 |.c12 _=>[⟨false,55,0,31⟩,⟨false,56,1,1048576⟩]
 |.c13 _=>[]
def fineU(f:Fact):U_facts_open_rxk->Bool
 |.c3 _=>decide (f.Sync.Min<=f.Sync.Max)
 |.c4 _=>decide (f.Hand.Lo<=f.Hand.Hi)
 |.c5 _=>decide (f.Silence.Lo<=f.Silence.Hi)
 |.c6 _=>decide (f.Pair.A<f.Pair.B)
 |.c13 _=>false
 |_=>true
def entsS(f:Fact):List Ent:=headL++bodyL (openU f)
def goodE(e:Ent):Bool:=bif e.fl then e.off==0 else decide (e.off<57)&& !(e.off==54)
theorem Qlo(f:Fact):∀e∈entsS f,goodE e=true:=by
 have h:∀u:U_facts_open_rxk,(headL++bodyL u).all goodE=true:=by intro u;cases u<;>rfl
 exact Xt.1 (h (openU f))
theorem Qfy(f:Fact):(entsS f).length<=12:=by
 have h:∀u:U_facts_open_rxk,(headL++bodyL u).length<=12:=by intro u;cases u<;>exact XU rfl
 exact h (openU f)
def isI:Option A->Bool
 |some (.int .i64 _)=>true
 |_=>false
theorem QpN{x:Option A}(h:isI x=true):∃v,x=some (.int .i64 v):=by
 unfold isI at h;split at h
 .exact⟨_,rfl⟩
 .cases h
theorem QmV{f:Fact}{b:Int}{e:Ent}(h:goodE e=true):∃v,QfW (Fact.c f) b e=some v:=by
 unfold goodE at h;unfold QfW;cases a:e.fl with
 |true=>
  rw[a]at h;simp only[Vr]at h⊢;rw[h];exact⟨b,rfl⟩
 |false=>
  rw[a]at h;simp only[Vs,XZ,Vt,Bool.not_eq_true']at h⊢;have all:(List.range 57).all (λo=>(o==54)||isI (Fact.c f)[o]?)=true:=by rfl
  have:=Xt.1 all e.off (List.mem_range.2 h.1);rw[h.2,Bool.false_or]at this;obtain⟨v,d⟩:=QpN this;rw[d];exact⟨v,rfl⟩
theorem Qml{x:Fact}{s v:Int}{e:Ent}(h:goodE e=true):∃q,Qjk Fact.put x s e v=some q:=by
 unfold goodE at h;unfold Qjk;cases a:e.fl with
 |true=>
  rw[a]at h;simp only[Vr]at h⊢;rw[h];exact⟨_,rfl⟩
 |false=>
  rw[a]at h;simp only[Vs,XZ,Vt,Bool.not_eq_true']at h⊢;have all:(List.range 57).all (λo=>(o==54)||(Fact.put x o v).isSome)=true:=by rfl
  have:=Xt.1 all e.off (List.mem_range.2 h.1);rw[h.2,Bool.false_or]at this;obtain⟨y,b⟩:=Option.isSome_iff_exists.1 this;rw[b];exact⟨_,rfl⟩
def getV(f:Fact)(b:Int)(e:Ent):Int:=(QfW (Fact.c f) b e).getD 0
def putV(x:Fact)(s:Int)(e:Ent)(v:Int):Fact×Int:=(Qjk Fact.put x s e v).getD (x,s)
theorem QmW{f:Fact}{b:Int}{e:Ent}(h:goodE e=true):QfW (Fact.c f) b e=some (getV f b e):=by
 obtain⟨v,a⟩:=QmV (f:=f) (b:=b) h;unfold getV;rw[a];rfl
theorem Qpr{x:Fact}{s v:Int}{e:Ent}(h:goodE e=true):Qjk Fact.put x s e v=some (putV x s e v):=by
 obtain⟨q,a⟩:=Qml (x:=x) (s:=s) (v:=v) h;unfold putV;rw[a];rfl
def inE(f:Fact)(b:Int)(e:Ent):Bool:= !(decide (getV f b e<e.lo))&& !(decide (e.hi<getV f b e))
def numR(f:Fact)(b:Int):List Ent->List Int×Fact×Int->Ctl (List Int×Fact×Int) (List Int×Bool)
 |[],a=>.cont a
 |e::r,a=>bif inE f b e then numR f b r (a.1++[getV f b e],putV a.2.1 a.2.2 e (getV f b e))else .done ([],false)
theorem Qhw{α:Type}(l m:List α)(h:l.length+m.length<=1000):app l m=some (l++m):=by
 unfold app;have:Nat.ble (l.length+m.length) Qy=true:=XV (XY h (by decide));rw[this];rfl
theorem Qog(f:Fact)(b:Int)(E:List Ent)(hE:∀e∈E,goodE e=true)(hl:E.length<=12):∀(r:List Ent) (i:Nat) (a:List Int×Fact×Int),E.drop i=r->i<=E.length->a.1.length=i->
  EvI (λn=>F_fl n f b E E) (a.1,a.2.1,a.2.2,(i:Int)) (numR f b r a):=by
 intro r
 induction r with
 |nil=>
  intro i a j p g;refine Ej ?_;unfold F_fl;simp only[YL j p,Vs];exact Qa _
 |cons e r s=>
  intro i a j p l;obtain⟨g,k⟩:=Q3 (by omega) j;have m:=hE e g.mem;have t:=g.lt';unfold numR;cases d:inE f b e with
  |true=>
   have h:=d;unfold inE at h;simp only[XZ,Bool.not_eq_true']at h;refine Ew ?_ (s (i+1) (a.1++[getV f b e],putV a.2.1 a.2.2 e (getV f b e)) k (by omega) (by simp[l]));unfold F_fl;simp only[g.lt,Vr,g.ix,XM,g.nx,QmW m,h.1,h.2,Vs,Qpr m];rw[Qhw a.1 [getV f b e] (by simp;omega)];exact Qa _
  |false=>
   refine Ej ?_;unfold F_fl;simp only[g.lt,Vr,g.ix,XM,QmW m];unfold inE at d;cases q:decide (getV f b e<e.lo)with
   |true=>exact Qa _
   |false=>
    rw[q]at d;simp only[Xh,VC,Bool.not_eq_false']at d;simp only[Vs,d,Vr];exact Qa _
def suspB(f:Fact):Int:=bif f.Appeal.Suspends then 1 else 0
def restS(f:Fact):Fact:={Up with Ruling:={Ux with Kind:=f.Ruling.Kind:Ruling},Kind:=f.Kind:Fact}
def lastF(f x:Fact)(s:Int):Fact:=
 let y:Fact:=bif f.Kind != 10 then {x with Ruling:={x.Ruling with Kind:=0:Ruling}:Fact}else x
 {y with Appeal:={Case:=y.Appeal.Case,Suspends:=s==1:Appeal}:Fact}
def numF(f:Fact):List Int×Bool:=bif fineU f (openU f)then(match numR f (suspB f) (entsS f) ([],restS f,0)with
  |.cont a=>(a.1,lastF f a.2.1 a.2.2==f)
  |.done r=>r)else([],false)
theorem Qlr(n:Nat)(f:Fact):F_aw n ({Up with Ruling:={Ux with Kind:=f.Ruling.Kind:Ruling}:Fact}) 0 f=some (entsS f):=by
 have a:openU ({({Up with Ruling:={Ux with Kind:=f.Ruling.Kind:Ruling}:Fact})with Kind:=f.Kind:Fact})=openU f:=rfl;unfold F_aw entsS;rw[Qkq];simp only[XM];rw[a];unfold F_am;generalize openU f=u;cases u<;>(simp only[XM];unfold bodyL;exact congrArg (Option.bind · _) (Qhw _ _ (by simp)))
theorem QkH(f:Fact):Ev (λn=>F_ad n f) (numF f):=by
 unfold F_ad;refine Ea (v:=suspB f) ?_ ?_
 .unfold suspB;cases f.Appeal.Suspends<;>exact Qa _
 refine Ea (v:=bif fineU f (openU f)then .cont (bodyL (openU f))else .done ([],false)) ?_ ?_
 .simp only[Qkq,XM];unfold F_b F_eo F_fo F_fa F_ff;generalize openU f=u;cases u with
  |c3=>unfold fineU;cases decide (f.Sync.Min<=f.Sync.Max)<;>exact Qa _
  |c4=>unfold fineU;cases decide (f.Hand.Lo<=f.Hand.Hi)<;>exact Qa _
  |c5=>unfold fineU;cases decide (f.Silence.Lo<=f.Silence.Hi)<;>exact Qa _
  |c6=>unfold fineU;cases decide (f.Pair.A<f.Pair.B)<;>exact Qa _
  |_=>exact Qa _
 unfold numF;cases fineU f (openU f)with
 |false=>exact Qa _
 |true=>
  simp only[Vr];have e:app headL (bodyL (openU f))=some (entsS f):=Qhw _ _ (by have:=Qfy f;unfold entsS at this;rw[X5]at this;omega);unfold F_am;simp only[XM];refine Ea (Ez e) ?_;refine Ea (Ez (Qlr 0 f)) ?_;refine Ea (Qog f (suspB f) (entsS f) (Qlo f) (Qfy f) (entsS f) 0 ([],restS f,0) rfl (XX _) rfl).ev ?_;cases numR f (suspB f) (entsS f) ([],restS f,0)with
  |done r=>exact Qa _
  |cont a=>
   simp only;refine Ea (v:=bif f.Kind != 10 then {a.2.1 with Ruling:={a.2.1.Ruling with Kind:=0:Ruling}:Fact}else a.2.1) ?_ (Qa _);cases(f.Kind != 10)<;>exact Qa _
def validS(f:Fact):Bool:=(numF f).2
theorem QfY(f:Fact):Ev (λn=>F_aa n f) (bif validS f then 0 else 120):=by
 unfold F_aa;refine Ea (QkH f) ?_;unfold validS;cases(numF f).2<;>exact Qa _
theorem Qi9{f:Fact}(h:validS f=true):(f.Kind==0)=false:=by
 cases q:(f.Kind==0)with
 |false=>rfl
 |true=>
  have a:f.Kind=0:=by simpa using q
  have b:openU f=.c13 ():=by unfold openU;rw[a];rfl
  unfold validS numF at h;rw[b]at h;cases h
set_option maxRecDepth 4000
def numN(v:Nat):List Int:=if h:128<=v then orI .u8 (IntKind.u8.wrap (v:Int)) 128::numN (v/128)else[IntKind.u8.wrap (v:Int)]
termination_by v
decreasing_by omega
theorem QeZ{v:Nat}(h:128<=v):numN v=orI .u8 (IntKind.u8.wrap (v:Int)) 128::numN (v/128):=by
 rw[numN,dif_pos h]
theorem QaN{v:Nat}(h:¬128<=v):numN v=[IntKind.u8.wrap (v:Int)]:=by
 rw[numN,dif_neg h]
theorem shr7(v:Nat):Yg .u64 (v:Int) 7=((v/128:Nat):Int):=by
 show Int.fdiv (v:Int) (2^7)=_;rw[Int.fdiv_eq_ediv_of_nonneg _ (by decide)];omega
theorem QmI:∀(k v:Nat),v<128^(k+1)->(numN v).length<=k+1:=by
 intro k
 induction k with
 |zero=>
  intro v a;rw[QaN (by omega)];simp
 |succ k b=>
  intro v a;by_cases h:128<=v
  .rw[QeZ h,X3];have:=b (v/128) (by rw[Nat.div_lt_iff_lt_mul (by decide)];rw[Nat.pow_succ]at a;exact a);omega
  .rw[QaN h];simp
theorem Qg8:∀(k v:Nat) (l:List Int),v<128^(k+1)->l.length+k<4294967296->∃(l':List Int) (a:Nat),EvI (λn=>F_ez n) (l,(v:Int)) (l',(a:Int))/\l'++[IntKind.u8.wrap (a:Int)]=l++numN v/\l'.length<=l.length+k:=by
 intro k
 induction k with
 |zero=>
  intro v l b f;refine⟨l,v,Ej ?_,by rw[QaN (by omega)],XW _⟩;unfold F_ez;simp only[YJ (show¬(128:Int)<=(v:Int)by omega),Vs];exact Qa _
 |succ k g=>
  intro v l b f;by_cases h:128<=v
  .obtain⟨l',a,i,d,e⟩:=g (v/128) (l++[orI .u8 (IntKind.u8.wrap (v:Int)) 128]) (by rw[Nat.div_lt_iff_lt_mul (by decide)];rw[Nat.pow_succ]at b;exact b) (by simp;omega);refine⟨l',a,Ew ?_ i,?_,?_⟩
   .unfold F_ez;simp only[Ys (show(128:Int)<=(v:Int)by omega),Vr,shr7];rw[Qby l _ (by omega)];exact Qa _
   .rw[d,QeZ h];simp
   .simp at e;omega
  .refine⟨l,v,Ej ?_,by rw[QaN h],by omega⟩;unfold F_ez;simp only[YJ (show¬(128:Int)<=(v:Int)by omega),Vs];exact Qa _
theorem Qft(v:Nat)(l:List Int)(a:v<18446744073709551616)(hl:l.length<=1000000):Ev (λn=>F_s n l (v:Int)) (l++numN v):=by
 obtain⟨d,f,e,b,g⟩:=Qg8 9 v l (Vh a (by decide)) (by omega);unfold F_s;refine Ea e.ev ?_;simp only;rw[Qby d _ (by omega),b];exact Qa _
theorem QeX{v:Nat}(hv:v<18446744073709551616):(numN v).length<=10:=QmI 9 v (Vh hv (by decide))
def zigI(x:Int):Int:=QeB .u64 (QeI .u64 (IntKind.u64.wrap x) 1) (IntKind.u64.wrap (Yg .i64 x 63))
theorem wrapU(x:Int):0<=IntKind.u64.wrap x/\IntKind.u64.wrap x<18446744073709551616:=by
 have e:IntKind.u64.wrap x=x%18446744073709551616:=by
  unfold IntKind.wrap;rfl
 rw[e];omega
theorem QgV(x:Int):∃z:Nat,zigI x=(z:Int)/\z<18446744073709551616:=by
 have h:=wrapU ((BitVec.ofInt IntKind.u64.bits (QeI .u64 (IntKind.u64.wrap x) 1)^^^BitVec.ofInt IntKind.u64.bits (IntKind.u64.wrap (Yg .i64 x 63))).toNat);refine⟨(zigI x).toNat,?_,?_⟩
 .unfold zigI QeB;omega
 .unfold zigI QeB;omega
def oneB(x:Int):List Int:=1::numN (zigI x).toNat
theorem Qh0(x:Int):(oneB x).length<=11:=by
 obtain⟨z,b,a⟩:=QgV x;unfold oneB;rw[b];have:=QeX a;simp;omega
theorem Qiw(l:List Int)(x:Int)(hl:l.length<=100000):Ev (λn=>F_al n l ({Kind:=1,N:=x,S:=[],L:=[]:Value})) (l++oneB x):=by
 unfold F_al F_aq;rw[Qby l 1 (by omega)];simp only[XM];obtain⟨z,b,d⟩:=QgV x;have a:=b;unfold zigI at a;rw[a];refine Ea (Qft z (l++[1]) d (by simp;omega)) ((Qa _).eq ?_);unfold oneB;rw[b];simp
def mkV(x:Int):Value:={Kind:=1,N:=x,S:=[],L:=[]:Value}
def listV(l:List Int):Value:={Kind:=3,N:=0,S:=[],L:=l.map mkV:Value}
theorem Qju(x:Int):Ev (λn=>F_f n (mkV x)) (0,true):=by
 refine Jg ?_;show Ev (λn=>B_f (F_f n) n (mkV x)) _;unfold B_f mkV;simp only;cases(x==0)with
 |true=>exact Qa _
 |false=>exact Qa _
theorem Qig(l:List Int)(hl:l.length<=1000):Ev (λn=>F_f n (listV l)) (1,true):=by
 refine Jg ?_;show Ev (λn=>B_f (F_f n) n (listV l)) _;unfold B_f listV;simp only;refine Ea (v:=[false,(((l.map mkV).length:Int)==0),(((l.map mkV).length:Int)==0),true]) (Qa _) ?_;refine Ea (v:=false) (Qa _) ?_;refine Ea (v:=(Ctl.cont (0:Int):Ctl Int (Int×Bool))) ?_ (Qa _);refine Ev.iter (λi=>((0:Int),(i:Int))) (l.map mkV).length rfl (λi d=>?_) ?_
 .have a:=JD (x:=(l.map mkV)[i]) (show(l.map mkV).length<=4611686018427387904 by rw[X4];omega) (XN d);have b:∃y,(l.map mkV)[i]=mkV y:=by
   rw[List.getElem_map];exact⟨_,rfl⟩
  obtain⟨y,e⟩:=b;unfold F_hn;simp only[a.lt,Vr,a.ix,XM,a.nx];rw[e];exact Ea (Qju y) (Qa _)
 .unfold F_hn;simp only[Qbj,Vs];exact Qa _
def listB(l:List Int):List Int:=[3]++numN l.length++(l.map oneB).flatten
theorem Qho(l:List Int)(hl:l.length<=1000):Ev (λn=>F_cj n (listV l)) (listB l):=by
 unfold F_cj;have p:app ([]:List Int) [3]=some [3]:=rfl;rw[p];simp only[XM];have s:IntKind.u64.wrap (((listV l).L.length:Int))=((l.length:Nat):Int):=by
  have:IntKind.u64.wrap (((listV l).L.length:Int))=(((listV l).L.length:Int))%18446744073709551616:=by unfold IntKind.wrap;rfl
  rw[this];unfold listV;rw[X4];omega
 rw[s];have w:=QeX (show l.length<18446744073709551616 by omega);refine Ea (Qft l.length [3] (by omega) (by simp)) ?_;refine Ea (v:=listB l) ?_ (Qa _);have k:∀m:List Int,(m.map oneB).flatten.length<=11*m.length:=by
  intro m
  induction m with
  |nil=>simp
  |cons x m e=>
   have:=Qh0 x;simp only[Vl,Vn,X5,X3];omega
 have h:=Yt (step:=λn=>F_go n (listV l)) (l.map mkV) (λ(a:List Int) (v:Value)=>a++oneB v.N) ([3]++numN l.length) (λa i=>(a,(i:Int))) (λa=>a) (by rw[X4];omega) rfl (λi x a d u=>?_) ?_
 .refine Ev.eq h ?_;have:∀(m:List Int) (a:List Int),(m.map mkV).foldl (λ(a:List Int) (v:Value)=>a++oneB v.N) a=a++(m.map oneB).flatten:=by
   intro m
   induction m with
   |nil=>intro a;simp
   |cons x m e=>intro a;simp only[Vl,XG,Vn];rw[e];simp[mkV]
  rw[this];rfl
 .have r:∃y,x=mkV y:=by
   obtain⟨y,_,q⟩:=Xe.1 d.mem;exact⟨y,q.symm⟩
  obtain⟨y,rfl⟩:=r;have g:a.length<=100000:=by
   have:∀(m:List Int) (a:List Int),((m.map mkV).foldl (λ(a:List Int) (v:Value)=>a++oneB v.N) a).length<=a.length+11*m.length:=by
    intro m
    induction m with
    |nil=>intro a;simp
    |cons x m e=>
     intro a;simp only[Vl,XG,X3];have t:=e (a++oneB (mkV x).N);have j:=Qh0 (mkV x).N;rw[X5]at t;omega
   have j:=this (l.take i) ([3]++numN l.length);rw[List.map_take, <- u,X5,Xz]at j;simp at j;omega
  unfold F_go;have b:decide ((i:Int)<((listV l).L.length:Int))=true:=d.lt;have f:idx (listV l).L (i:Int)=some (mkV y):=d.ix;simp only[b,Vr,f,XM,d.nx];refine Ea (Qiw a y g) ?_;exact Qa _
 .unfold F_go;have b:decide (((l.map mkV).length:Int)<((listV l).L.length:Int))=false:=Qbj _;simp only[b,Vs];exact Qa _
theorem QmH{f:Fact}{b:Int}:∀(r:List Ent) (a c:List Int×Fact×Int),numR f b r a=.cont c->c.1.length=a.1.length+r.length:=by
 intro r
 induction r with
 |nil=>intro a c h;cases h;rfl
 |cons e r d=>
  intro a c h;unfold numR at h;cases q:inE f b e with
  |false=>rw[q]at h;cases h
  |true=>
   rw[q]at h;have:=d _ _ h;simp at this;rw[this,X3];omega
theorem QmJ(f:Fact):(numF f).1.length<=12:=by
 unfold numF;cases fineU f (openU f)with
 |false=>simp
 |true=>
  simp only[Vr];cases h:numR f (suspB f) (entsS f) ([],restS f,0)with
  |cont a=>
   have:=QmH _ _ _ h;have:=Qfy f;simp at*;omega
  |done r=>
   have:∀(E:List Ent) (a:List Int×Fact×Int),numR f (suspB f) E a=.done r->r=([],false):=by
    intro E
    induction E with
    |nil=>intro a h;cases h
    |cons e E ih=>
     intro a h;unfold numR at h;cases q:inE f (suspB f) e with
     |false=>rw[q]at h;cases h;rfl
     |true=>rw[q]at h;exact ih _ h
   rw[this _ _ h];simp
def encF(f:Fact):List Int×Int:=bif validS f then(listB (numF f).1,0)else([],120)
theorem QgA(f:Fact):Ev (λn=>F_z n f) (encF f):=by
 unfold F_z;refine Ea (QkH f) ?_;have l:=QmJ f;unfold encF validS;generalize numF f=r at*;cases h:r.2 with
 |false=>exact Qa _
 |true=>
  simp only[Xg,Vs,Vr];refine Ea (v:=r.1.map mkV) ?_ ?_
  .refine Ev.eq (Yt r.1 (λ(a:List Value) (x:Int)=>a++[mkV x]) [] (λa i=>(a,(i:Int))) (λa=>a) (by omega) rfl (λi x a b k=>?_) ?_) ?_
   .unfold F_hp;simp only[b.lt,Vr,b.ix,XM,b.nx];have j:a.length<=12:=by
     have:∀(m:List Int) (a:List Value),(m.foldl (λ(a:List Value) (x:Int)=>a++[mkV x]) a).length=a.length+m.length:=by
      intro m
      induction m with
      |nil=>intro a;simp
      |cons x m d=>intro a;simp only[XG,X3];rw[d];simp;omega
     rw[k,this,Xz];simp;omega
    have e:=Qby a (mkV x) (by omega);unfold mkV at e;rw[e];exact Qa _
   .unfold F_hp;simp only[Qbj,Vs];exact Qa _
   .have:∀(m:List Int) (a:List Value),m.foldl (λ(a:List Value) (x:Int)=>a++[mkV x]) a=a++m.map mkV:=by
     intro m
     induction m with
     |nil=>intro a;simp
     |cons x m d=>intro a;simp only[XG,Vl];rw[d];simp
    rw[this];rfl
  refine Ea (v:=(listB r.1,0)) ?_ (Qa _);have g:=Qig r.1 (by omega);unfold F_et F_de;have e:({Kind:=3,N:=0,S:=[],L:=r.1.map mkV:Value})=listV r.1:=rfl;rw[e];refine Ea (v:=0) (Ea g (Qa _)) ?_;unfold F_eb;exact Ea (Qho r.1 (by omega)) (Qa _)
def cmpI(a b:Int):Int:=bif decide (a<b)then-1 else bif decide (b<a)then 1 else 0
theorem Qhr(n:Nat)(a b:Int):F_k n a b=some (cmpI a b):=by
 unfold F_k F_ap cmpI;simp only[XM,bne_self_eq_false,Vs];cases decide (a<b)with
 |true=>rfl
 |false=>cases decide (b<a)<;>rfl
def orL:List Int->Int
 |[]=>0
 |x::r=>bif x != 0 then x else orL r
theorem ev_or(l:List Int)(hl:l.length<=1000):Ev (λn=>F_cu n l) (orL l):=by
 unfold F_cu;have loop:∀(r:List Int) (i:Nat),l.drop i=r->i<=l.length->EvI (λn=>F_dh n l) (i:Int) (bif orL r==0 then Ctl.cont ()else Ctl.done (orL r)):=by
  intro r
  induction r with
  |nil=>
   intro i b f;refine Ej ?_;unfold F_dh;simp only[YL b f,Vs];exact Qa _
  |cons x r g=>
   intro i b f;obtain⟨a,d⟩:=Q3 (by omega) b;have j:=a.lt';unfold orL;cases q:(x != 0)with
   |true=>
    have e:(x==0)=false:=by simpa[bne]using q
    simp only[Vr,e,Vs];refine Ej ?_;unfold F_dh;simp only[a.lt,Vr,a.ix,XM,q];exact Qa _
   |false=>
    simp only[Vs];refine Ew ?_ (g (i+1) d (by omega));unfold F_dh;simp only[a.lt,Vr,a.ix,XM,q,Vs,a.nx];exact Qa _
 refine Ea (loop l 0 rfl (XX _)).ev ?_;cases h:(orL l==0)with
 |true=>
  have e:orL l=0:=by simpa using h
  rw[e];exact Qa _
 |false=>exact Qa _
def cmpF(f g:Fact):Int:=bif orL [cmpI f.At g.At,cmpI f.Crew g.Crew,cmpI f.No g.No] != 0 then orL [cmpI f.At g.At,cmpI f.Crew g.Crew,cmpI f.No g.No]else cmpB (encF f).1 (encF g).1
theorem Qfu(f g:Fact):Ev (λn=>F_u n f g) (cmpF f g):=by
 unfold F_u cmpF;simp only[Qhr,XM];refine Ea (ev_or _ (by simp)) ?_;cases(orL [cmpI f.At g.At,cmpI f.Crew g.Crew,cmpI f.No g.No] != 0)with
 |true=>exact Qa _
 |false=>
  simp only[Vs];refine Ea (QgA f) (Ea (QgA g) ?_);exact Qa _
def okS(c:Course)(f:Fact):Bool:=(f.Kind==1)&&(validS f&&(!decide ((c.Distances.length:Int)<=f.Starter.Distance)&& !decide ((c.Waves.length:Int)<=f.Starter.Wave)))
theorem Qh4{β:Type}(m:List (Int×β))(k:Int):QaF m k=(YA m k).isSome:=by
 unfold QaF YA;rw[Option.isSome_map]
 induction m with
 |nil=>rfl
 |cons p m a=>
  rw[List.any_cons,List.find?_cons,a];cases decide (p.1=k)<;>rfl
theorem Qh5{β:Type}(m:List (Int×β))(k:Int):k∈m.map Prod.fst↔ ∃v,YA m k=some v:=by
 have h:=Qh4 m k;rw[<- Option.isSome_iff_exists, <- h];unfold QaF;simp only[Xu,Vt,Xe]
theorem QmK{β:Type}(m:List (Int×β))(k:Int)(v:β):(QJ m k v).length<=m.length+1:=by
 have:=congrArg List.length (Qdz m k v);rw[X4]at this;rw[this];split<;>simp
theorem Qjo{β:Type}{m:List (Int×β)}(k:Int)(v:β)(h:(m.map Prod.fst).Nodup):((QJ m k v).map Prod.fst).Nodup:=by
 have e:=Qdz m k v;have f:(QJ m k v).map Prod.fst=if k∈m.map Prod.fst then m.map Prod.fst else m.map Prod.fst++[k]:=e
 rw[f];split
 .exact h
 .rename_i i;rw[List.nodup_append];refine⟨h,by simp,λa g b d=>?_⟩;rw[VD]at d;rintro rfl;exact i (d▸g)
theorem Qld{l m:List Int}(h:l.Perm m):YD ltI l=YD ltI m:=
 Jk ((Qo ltI l).trans (h.trans (Qo ltI m).symm)) (λx _ y _ a b=>by simp[ltI]at*;omega) (QR (QcW l)) (QR (QcW m))
theorem Qes{n:Nat}(h:n<=1048576):Nat.ble n Qy=true:=XV (XY h (by decide))
theorem QoD{a b:Int}:cmpI a b<0↔a<b:=by
 unfold cmpI;by_cases h:a<b
 .rw[Vw h];simp[h]
 .rw[Vz h];by_cases d:b<a
  .rw[Vw d];simp;omega
  .rw[Vz d];simp;omega
theorem Qqa{a b:Int}:cmpI a b=0↔a=b:=by
 unfold cmpI;by_cases h:a<b
 .rw[Vw h];simp;omega
 .rw[Vz h];by_cases d:b<a
  .rw[Vw d];simp;omega
  .rw[Vz d];simp;omega
set_option maxRecDepth 4000
theorem Qof(f:Fact)(b:Int):∀(E:List Ent) (a:List Int×Fact×Int),numR f b E a=bif E.all (inE f b)then .cont (a.1++E.map (getV f b),E.foldl (λp e=>putV p.1 p.2 e (getV f b e)) a.2)else .done ([],false):=by
 intro E
 induction E with
 |nil=>intro a;simp[numR]
 |cons e E ih=>
  intro a;unfold numR;rw[List.all_cons];cases h:inE f b e with
  |false=>rfl
  |true=>
   simp only[Vr,VC,Vl,XG];rw[ih];simp
def onlyS(f:Fact):Fact:={Crew:=f.Crew,No:=f.No,At:=f.At,Kind:=f.Kind,Starter:=(bif f.Kind==1 then f.Starter else Up.Starter),Read:=(bif f.Kind==2 then f.Read else Up.Read),Beacon:=(bif f.Kind==3 then f.Beacon else Up.Beacon),Sync:=(bif f.Kind==4 then f.Sync else Up.Sync),Hand:=(bif f.Kind==5 then f.Hand else Up.Hand),Silence:=(bif f.Kind==6 then f.Silence else Up.Silence),Pair:=(bif f.Kind==7 then f.Pair else Up.Pair),Report:=(bif f.Kind==8 then f.Report else Up.Report),Protest:=(bif f.Kind==9 then f.Protest else Up.Protest),Ruling:=(bif f.Kind==10 then f.Ruling else Up.Ruling),Appeal:=(bif f.Kind==11 then f.Appeal else Up.Appeal),Void:=(bif f.Kind==13 then f.Void else Up.Void):Fact}
def numsS(f:Fact):List Int:=[f.Kind,f.Crew,f.No,f.At]++(
 bif f.Kind==1 then[f.Starter.Bib,f.Starter.Distance,f.Starter.Wave,f.Starter.Slot,f.Starter.Age,f.Starter.Chip,f.Starter.Team,f.Starter.Lot]
 else bif f.Kind==2 then[f.Read.Mat,f.Read.Epoch,f.Read.Chip,f.Read.Local]
 else bif f.Kind==3 then[f.Beacon.Mat,f.Beacon.Epoch,f.Beacon.Local,f.Beacon.True,f.Beacon.Err]
 else bif f.Kind==4 then[f.Sync.MatA,f.Sync.EpochA,f.Sync.LocalA,f.Sync.MatB,f.Sync.EpochB,f.Sync.LocalB,f.Sync.Min,f.Sync.Max]
 else bif f.Kind==5 then[f.Hand.Bib,f.Hand.Position,f.Hand.Lo,f.Hand.Hi]
 else bif f.Kind==6 then[f.Silence.Mat,f.Silence.Epoch,f.Silence.Lo,f.Silence.Hi]
 else bif f.Kind==7 then[f.Pair.A,f.Pair.B]
 else bif f.Kind==8 then[f.Report.Case,f.Report.Bib,f.Report.Offence,f.Report.Position]
 else bif f.Kind==9 then[f.Protest.Case,f.Protest.By,f.Protest.Fee,f.Protest.Form]
 else bif f.Kind==10 then[f.Ruling.Case,f.Ruling.Instance,f.Ruling.Kind,f.Ruling.Bib,f.Ruling.Position,f.Ruling.Amount]
 else bif f.Kind==11 then[f.Appeal.Case,suspB f]
 else bif f.Kind==13 then[f.Void.Crew,f.Void.No]else[])
theorem kinds(f:Fact):f.Kind=1\/f.Kind=2\/f.Kind=3\/f.Kind=4\/f.Kind=5\/f.Kind=6\/f.Kind=7\/f.Kind=8\/f.Kind=9\/f.Kind=10\/f.Kind=11\/f.Kind=12\/f.Kind=13\/openU f=.c13 ():=by
 by_cases k:f.Kind=1; · exact .inl k
 by_cases j:f.Kind=2; · exact .inr (.inl j)
 by_cases m:f.Kind=3; · exact .inr (.inr (.inl m))
 by_cases n:f.Kind=4; · exact .inr (.inr (.inr (.inl n)))
 by_cases i:f.Kind=5; · exact .inr (.inr (.inr (.inr (.inl i))))
 by_cases p:f.Kind=6; · exact .inr (.inr (.inr (.inr (.inr (.inl p)))))
 by_cases l:f.Kind=7; · exact .inr (.inr (.inr (.inr (.inr (.inr (.inl l))))))
 by_cases h:f.Kind=8; · exact .inr (.inr (.inr (.inr (.inr (.inr (.inr (.inl h)))))))
 by_cases g:f.Kind=9; · exact .inr (.inr (.inr (.inr (.inr (.inr (.inr (.inr (.inl g))))))))
 by_cases e:f.Kind=10; · exact .inr (.inr (.inr (.inr (.inr (.inr (.inr (.inr (.inr (.inl e)))))))))
 by_cases b:f.Kind=11; · exact .inr (.inr (.inr (.inr (.inr (.inr (.inr (.inr (.inr (.inr (.inl b))))))))))
 by_cases a:f.Kind=12; · exact .inr (.inr (.inr (.inr (.inr (.inr (.inr (.inr (.inr (.inr (.inr (.inl a)))))))))))
 by_cases d:f.Kind=13; · exact .inr (.inr (.inr (.inr (.inr (.inr (.inr (.inr (.inr (.inr (.inr (.inr (.inl d))))))))))))
 refine .inr (.inr (.inr (.inr (.inr (.inr (.inr (.inr (.inr (.inr (.inr (.inr (.inr ?_))))))))))));unfold openU;simp only[VB.2 k,VB.2 j,VB.2 m,VB.2 n,VB.2 i,VB.2 p,VB.2 l,VB.2 h,VB.2 g,VB.2 e,VB.2 b,VB.2 a,VB.2 d,Vs]
def copyS(f:Fact):Fact×Int:=(entsS f).foldl (λp e=>putV p.1 p.2 e (getV f (suspB f) e)) (restS f,0)
theorem Qg9(f:Fact):numF f=bif fineU f (openU f)then(bif (entsS f).all (inE f (suspB f))then((entsS f).map (getV f (suspB f)),lastF f (copyS f).1 (copyS f).2==f)else([],false))else([],false):=by
 unfold numF;rw[Qof];cases fineU f (openU f)with
 |false=>rfl
 |true=>
  simp only[Vr];cases(entsS f).all (inE f (suspB f))with
  |false=>rfl
  |true=>simp only[Vr,Vj];rfl
theorem QdC(f:Fact)(h:¬openU f=.c13 ()):lastF f (copyS f).1 (copyS f).2=onlyS f/\(entsS f).map (getV f (suspB f))=numsS f:=by
 rcases kinds f with k|k|k|k|k|k|k|k|k|k|k|k|k|k
 case inr.inr.inr.inr.inr.inr.inr.inr.inr.inr.inl=>
  obtain⟨Cr,No,At,Ki,S,R,B,Sy,Ha,Si,Pa,Re,Pr,Ru,⟨Ca,Su⟩,Vo⟩:=f;simp only at k;subst k;cases Su<;>exact⟨by kernel_rfl,by kernel_rfl⟩
 case inr.inr.inr.inr.inr.inr.inr.inr.inr.inl=>
  obtain⟨Cr,No,At,Ki,S,R,B,Sy,Ha,Si,Pa,Re,Pr,⟨j,b,a,e,i,g⟩,Ap,Vo⟩:=f;simp only at k;subst k;have:∃x,openU ⟨Cr,No,At,10,S,R,B,Sy,Ha,Si,Pa,Re,Pr,⟨j,b,a,e,i,g⟩,Ap,Vo⟩=.c9 x:=by
   unfold openU;show∃x,(bif (a==1)||(a==2)then U_facts_open_rxk.c9 (0,0,0,0,0,0)else bif a==3 then .c9 (1,9999,0,255,1,1099511627776)else bif a==4 then .c9 (1,9999,0,255,1,64)else .c9 (1,9999,0,255,0,0))=.c9 x;cases((a==1)||(a==2))with
   |true=>exact⟨_,rfl⟩
   |false=>
    cases(a==3)with
    |true=>exact⟨_,rfl⟩
    |false=>cases(a==4)<;>exact⟨_,rfl⟩
  obtain⟨x,d⟩:=this;unfold copyS entsS;rw[d];exact⟨by kernel_rfl,by kernel_rfl⟩
 case inr.inr.inr.inr.inr.inr.inr.inr.inr.inr.inr.inr.inr=>exact absurd k h
 all_goals
  obtain⟨Cr,No,At,Ki,S,R,B,Sy,Ha,Si,Pa,Re,Pr,Ru,Ap,Vo⟩:=f;simp only at k;subst k;exact⟨by kernel_rfl,by kernel_rfl⟩
def contS(f:Fact):Bool:=fineU f (openU f)&&(bodyL (openU f)).all (inE f (suspB f))
def headS(f:Fact):Bool:=headL.all (inE f (suspB f))
theorem Qdo(f:Fact):validS f=(headS f&&contS f&&(onlyS f==f)):=by
 unfold validS contS headS;rw[Qg9];by_cases h:openU f=.c13 ()
 .have:fineU f (openU f)=false:=by rw[h];rfl
  rw[this];simp
 .obtain⟨a,b⟩:=QdC f h;rw[a];unfold entsS;rw[List.all_append];cases fineU f (openU f)with
  |false=>simp
  |true=>
   cases headL.all (inE f (suspB f))with
   |false=>rfl
   |true=>cases(bodyL (openU f)).all (inE f (suspB f))<;>rfl
theorem Qi8{f:Fact}(h:validS f=true):(numF f).1=numsS f:=by
 have e:=h;unfold validS at h;rw[Qg9]at h⊢;by_cases q:openU f=.c13 ()
 .have:fineU f (openU f)=false:=by rw[q];rfl
  rw[this]at h;cases h
 .obtain⟨g,d⟩:=QdC f q;cases a:fineU f (openU f)with
  |false=>rw[a]at h;cases h
  |true=>
   rw[a]at h;cases b:(entsS f).all (inE f (suspB f))with
   |false=>rw[b]at h;cases h
   |true=>exact d
theorem QeD{f:Fact}(h:validS f=true):onlyS f=f:=by
 rw[Qdo]at h;simp only[XZ,VA]at h;exact h.2
theorem QmG{f g:Fact}(a:validS f=true)(hg:validS g=true)(h:numsS f=numsS g):f=g:=by
 have l:=QeD a;have i:=QeD hg;rw[<- l, <- i];unfold numsS at h;have d:f.Kind=g.Kind:=by
  simp only[VM,List.cons.injEq]at h;exact h.1
 have nk:=Qi9 a;rcases kinds f with k|k|k|k|k|k|k|k|k|k|k|k|k|k
 case inr.inr.inr.inr.inr.inr.inr.inr.inr.inr.inr.inr.inr=>
  rw[Qdo]at a;unfold contS at a;rw[k]at a;simp[fineU]at a
 all_goals
  have e:=d.symm.trans k;clear a hg d nk l i;obtain⟨Cr,No,At,Ki,⟨s1,s2,s3,s4,s5,s6,s7,s8⟩,⟨aw,Q,X,B⟩,⟨b1,b2,b3,b4,b5⟩,⟨y1,y2,y3,y4,y5,y6,y7,y8⟩,⟨h1,h2,h3,h4⟩,⟨i1,i2,i3,i4⟩,⟨p1,p2⟩,⟨u1,u2,u3,u4⟩,⟨o1,o2,o3,o4⟩,⟨r1,r2,r3,r4,r5,r6⟩,⟨a1,a2⟩,⟨v1,v2⟩⟩:=f;obtain⟨Cr',No',At',Ki',⟨au,O,Y,R,aj,af,ao,ah⟩,⟨p,j,m,n⟩,⟨w,ae,an,t,az⟩,⟨P,av,ar,ab,al,a0,z,am⟩,⟨J,V,a3,F⟩,⟨q,r,E,ay⟩,⟨ak,G⟩,⟨aq,ai,ax,L⟩,⟨W,a4,u,H⟩,⟨N,ac,ag,s,x,T⟩,⟨y,b⟩,⟨M,aa⟩⟩:=g;simp only at k e;subst k;subst e
  first
   |(simp[suspB]at h;simp[onlyS,h];done)
   |(cases a2<;>cases b<;>simp[suspB]at h<;>simp[onlyS,h])
set_option maxRecDepth 4000
theorem QgX(x:Int):IntKind.u64.wrap x=x%18446744073709551616:=by unfold IntKind.wrap;rfl
theorem Qi6(x:Int):IntKind.u8.wrap x=x%256:=by unfold IntKind.wrap;rfl
theorem or8(a b:Int):orI .u8 a b=(((BitVec.ofInt 8 a|||BitVec.ofInt 8 b).toNat:Nat):Int)%256:=by unfold orI;exact Qi6 _
theorem QoS(a b:Int):QeB .u64 a b=(((BitVec.ofInt 64 a^^^BitVec.ofInt 64 b).toNat:Nat):Int)%18446744073709551616:=by unfold QeB;exact QgX _
theorem or128(v:Nat):orI .u8 (IntKind.u8.wrap (v:Int)) 128=((v%128+128:Nat):Int):=by
 have a:∀m:Fin 256,((BitVec.ofNat 8 m.val|||128#8).toNat)=m.val%128+128:=by decide
 have d:v%256<256:=Nat.mod_lt _ (by decide);have k:(BitVec.ofNat 8 (v%256)|||128#8).toNat=v%256%128+128:=a ⟨v%256,d⟩;have e:BitVec.ofInt 8 ((v:Int)%256)=BitVec.ofNat 8 (v%256):=by
  have:((v:Int)%256)=((v%256:Nat):Int):=by omega
  rw[this];exact BitVec.ofInt_natCast 8 (v%256)
 have b:BitVec.ofInt 8 128=128#8:=by rfl
 rw[or8,Qi6,e,b,k];omega
theorem Qdy(v:Nat):numN v=if 128<=v then((v%128+128:Nat):Int)::numN (v/128)else[(v:Int)]:=by
 by_cases h:128<=v
 .rw[QeZ h,Vv h,or128]
 .rw[QaN h,Vu h,Qi6];congr 1;omega
theorem Qh3:∀(v w:Nat) (a b:List Int),numN v++a=numN w++b->v=w/\a=b:=by
 intro v
 induction v using Nat.strongRecOn with
 |_ v g=>
 intro w a b h;rw[Qdy v,Qdy w]at h;by_cases e:128<=v
 .rw[Vv e]at h;by_cases d:128<=w
  .rw[Vv d]at h;simp only[VM,List.cons.injEq]at h;obtain⟨i,f⟩:=g (v/128) (by omega) (w/128) a b h.2;exact⟨by omega,f⟩
  .rw[Vu d]at h;simp only[VM,List.cons.injEq]at h;omega
 .rw[Vu e]at h;by_cases d:128<=w
  .rw[Vv d]at h;simp only[VM,List.cons.injEq]at h;omega
  .rw[Vu d]at h;simp only[VM,List.cons.injEq,Vj]at h;exact⟨by omega,h.2⟩
theorem QeY:∀(v:Nat),∀x∈numN v,0<=x/\x<256:=by
 intro v
 induction v using Nat.strongRecOn with
 |_ v d=>
 intro x a;rw[Qdy v]at a;by_cases b:128<=v
 .rw[Vv b]at a;rcases X8.1 a with rfl|a
  .omega
  .exact d (v/128) (by omega) x a
 .rw[Vu b]at a;rcases X8.1 a with rfl|a
  .omega
  .cases a
theorem QgU{x:Int}(h0:0<=x)(e:x<9223372036854775808):zigI x=2*x:=by
 unfold zigI QeI;have a:Yg .i64 x 63=0:=by
  show Int.fdiv x (2^63)=0;rw[Int.fdiv_eq_ediv_of_nonneg _ (by decide)];omega
 have b:(2:Int)^(min (1:Int).toNat IntKind.u64.bits)=2:=by decide
 rw[a,b,QoS];simp only[QgX];have d:BitVec.ofInt 64 ((0:Int)%18446744073709551616)=0#64:=by rfl
 rw[d,BitVec.xor_zero,BitVec.toNat_ofInt];omega
theorem QgW{x:Int}(h0:x<0)(e: -9223372036854775808<=x):zigI x= -2*x-1:=by
 unfold zigI QeI;have a:Yg .i64 x 63= -1:=by
  show Int.fdiv x (2^63)= -1;rw[Int.fdiv_eq_ediv_of_nonneg _ (by decide)];omega
 have b:(2:Int)^(min (1:Int).toNat IntKind.u64.bits)=2:=by decide
 rw[a,b,QoS];simp only[QgX];have d:BitVec.ofInt 64 ((-1:Int)%18446744073709551616)=BitVec.allOnes 64:=by decide
 rw[d,BitVec.xor_allOnes,BitVec.toNat_not,BitVec.toNat_ofInt];omega
def in63(x:Int):Prop:= -9223372036854775808<=x/\x<9223372036854775808
theorem Qn8{x y:Int}(e:in63 x)(f:in63 y)(h:zigI x=zigI y):x=y:=by
 obtain⟨a,b⟩:=e;obtain⟨c,d⟩:=f;by_cases p:0<=x
 .rw[QgU p b]at h;by_cases q:0<=y
  .rw[QgU q d]at h;omega
  .rw[QgW (by omega) c]at h;omega
 .rw[QgW (by omega) a]at h;by_cases q:0<=y
  .rw[QgU q d]at h;omega
  .rw[QgW (by omega) c]at h;omega
theorem QhZ:∀(l m:List Int),l.length=m.length->(∀x∈l,in63 x)->(∀x∈m,in63 x)->(l.map oneB).flatten=(m.map oneB).flatten->l=m
 |[],[],_,_,_,_=>rfl
 |x::l,y::m,hl,h1,h2,h=>by
  simp only[Vl,Vn,oneB,VM,List.cons.injEq,true_and]at h;obtain⟨e1,e2⟩:=Qh3 _ _ _ _ h;obtain⟨z,p1,p2⟩:=QgV x;obtain⟨z',q1,q2⟩:=QgV y;rw[p1,q1]at e1;have:x=y:=Qn8 (h1 x (by simp)) (h2 y (by simp)) (by rw[p1,q1]at*;simp only[Int.toNat_natCast]at e1;omega);rw[this,QhZ l m (by simpa using hl) (λz hz=>h1 z (by simp[hz])) (λz hz=>h2 z (by simp[hz])) e2]
theorem Qlb{l m:List Int}(e:∀x∈l,in63 x)(b:∀x∈m,in63 x)(h:listB l=listB m):l=m:=by
 unfold listB at h;rw[Vk,Vk]at h;simp only[VM,Vj,List.cons.injEq,true_and]at h;obtain⟨a,d⟩:=Qh3 _ _ _ _ h;exact QhZ l m a e b d
theorem QdZ(l:List Int):∀x∈listB l,0<=x/\x<256:=by
 intro x a;unfold listB at a;simp only[VF,VD,List.mem_flatten,Xe]at a;rcases a with(rfl|a)|⟨m,⟨y,_,rfl⟩,a⟩
 .omega
 .exact QeY _ x a
 .unfold oneB at a;rcases X8.1 a with rfl|a
  .omega
  .exact QeY _ x a
structure CmpOK {α:Type} (c:α->α->Int):Prop where
 swap:∀x y,c y x= -c x y
 trans:∀x y z,c x y<0->c y z<0->c x z<0
 eqt:∀x y z,c x y=0->c x z=c y z
section
variable {α:Type} {c d:α->α->Int}
theorem CmpOK.refl(h:CmpOK c)(x:α):c x x=0:=by have:=h.swap x x;omega
theorem CmpOK.eqr(h:CmpOK c){x y:α}(z:α)(e:c x y=0):c z x=c z y:=by
 rw[h.swap x z,h.swap y z,h.eqt x y z e]
theorem QdO(h:CmpOK c)(k:CmpOK d):CmpOK λx y=>bif c x y != 0 then c x y else d x y:=by
 refine⟨λx y=>?_,λx y z=>?_,λx y z=>?_⟩
 .show(bif c y x != 0 then c y x else d y x)= -(bif c x y != 0 then c x y else d x y);have e:=h.swap x y;by_cases q:c x y=0
  .have f:c y x=0:=by omega
   rw[q,f];exact k.swap x y
  .have f:¬c y x=0:=by omega
   rw[bne_iff_ne.2 q,bne_iff_ne.2 f];exact e
 .show(bif c x y != 0 then c x y else d x y)<0->(bif c y z != 0 then c y z else d y z)<0->(bif c x z != 0 then c x z else d x z)<0;by_cases q:c x y=0
  .have e:=h.eqt x y z q;rw[q,e];by_cases f:c y z=0
   .rw[f];exact k.trans x y z
   .rw[bne_iff_ne.2 f];intro _ b;exact b
  .rw[bne_iff_ne.2 q];by_cases f:c y z=0
   .have e:=h.eqr x f;rw[f, <- e,bne_iff_ne.2 q];intro a _;exact a
   .rw[bne_iff_ne.2 f];intro a b;have:=h.trans x y z a b;rw[bne_iff_ne.2 (show¬c x z=0 by omega)];exact this
 .show(bif c x y != 0 then c x y else d x y)=0->(bif c x z != 0 then c x z else d x z)=(bif c y z != 0 then c y z else d y z);by_cases q:c x y=0
  .rw[q,h.eqt x y z q];intro e;have e:d x y=0:=e;rw[k.eqt x y z e]
  .rw[bne_iff_ne.2 q];intro e;exact absurd e q
theorem CmpOK.on{β:Type}(h:CmpOK c)(f:β->α):CmpOK λx y=>c (f x) (f y):=
 ⟨λx y=>h.swap _ _,λx y z=>h.trans _ _ _,λx y z=>h.eqt _ _ _⟩
end
theorem cmpI_ok:CmpOK cmpI:=by
 have e:∀a b,cmpI a b=if a<b then-1 else if b<a then 1 else 0:=by
  intro a b;unfold cmpI;by_cases h:a<b
  .rw[Vw h,Vv h];rfl
  .rw[Vz h,Vu h];by_cases d:b<a
   .rw[Vw d,Vv d];rfl
   .rw[Vz d,Vu d];rfl
 refine⟨λx y=>?_,λx y z=>?_,λx y z=>?_⟩
 .rw[e,e];split<;>split<;>omega
 .rw[e,e,e];intro a b;have f:x<y:=by
   by_cases q:x<y
   .exact q
   .rw[Vu q]at a;split at a<;>omega
  have d:y<z:=by
   by_cases q:y<z
   .exact q
   .rw[Vu q]at b;split at b<;>omega
  rw[Vv (by omega)];omega
 .rw[e x y];intro h;have:x=y:=by
   by_cases q:x<y
   .rw[Vv q]at h;omega
   .rw[Vu q]at h;split at h<;>omega
  rw[this]
theorem cb_ok:CmpOK Lib.compareBytes:=by
 have j:∀x y:List UInt8,Lib.compareBytes y x= -Lib.compareBytes x y:=by
  intro x
  induction x with
  |nil=>intro y;cases y<;>simp[Lib.compareBytes]
  |cons a x f=>
   intro y;cases y with
   |nil=>simp[Lib.compareBytes]
   |cons b y=>
    unfold Lib.compareBytes;by_cases h:a<b
    .have l:¬b<a:=by rw[UInt8.lt_iff_toNat_lt]at*;omega
     rw[Vv h,Vu l,Vv h];rfl
    .rw[Vu h];by_cases i:b<a
     .rw[Vv i,Vu h,Vv i]
     .rw[Vu i,Vu i,Vu h];exact f y
 have eq:∀x y:List UInt8,Lib.compareBytes x y=0->x=y:=by
  intro x
  induction x with
  |nil=>intro y h;cases y with
   |nil=>rfl
   |cons b y=>simp[Lib.compareBytes]at h
  |cons a x f=>
   intro y h;cases y with
   |nil=>simp[Lib.compareBytes]at h
   |cons b y=>
    unfold Lib.compareBytes at h;by_cases q:a<b
    .rw[Vv q]at h;omega
    .rw[Vu q]at h;by_cases e:b<a
     .rw[Vv e]at h;omega
     .rw[Vu e]at h;have:a=b:=by
       rw[UInt8.lt_iff_toNat_lt]at q e;exact UInt8.toNat_inj.1 (by omega)
      rw[this,f y h]
 refine⟨j,?_,λx y z h=>by rw[eq x y h]⟩;intro x
 induction x with
 |nil=>
  intro y z h k;cases y with
  |nil=>simp[Lib.compareBytes]at h
  |cons b y=>cases z with
   |nil=>simp[Lib.compareBytes]at k
   |cons d z=>simp[Lib.compareBytes]
 |cons a x f=>
  intro y z h k;cases y with
  |nil=>simp[Lib.compareBytes]at h
  |cons b y=>
   cases z with
   |nil=>simp[Lib.compareBytes]at k
   |cons d z=>
    unfold Lib.compareBytes at h k⊢;simp only[UInt8.lt_iff_toNat_lt]at*;by_cases q:a.toNat<b.toNat
    .by_cases r:b.toNat<d.toNat
     .rw[Vv (by omega)];omega
     .rw[Vu r]at k;by_cases g:d.toNat<b.toNat
      .rw[Vv g]at k;omega
      .rw[Vv (by omega)];omega
    .rw[Vu q]at h;by_cases e:b.toNat<a.toNat
     .rw[Vv e]at h;omega
     .rw[Vu e]at h;by_cases r:b.toNat<d.toNat
      .rw[Vv (by omega)];omega
      .rw[Vu r]at k;by_cases g:d.toNat<b.toNat
       .rw[Vv g]at k;omega
       .rw[Vu g]at k;rw[Vu (by omega),Vu (by omega)];exact f y z h k
theorem Qo7:∀{x y:List UInt8},Lib.compareBytes x y=0->x=y
 |[],[],_=>rfl
 |[],_::_,h=>by simp[Lib.compareBytes]at h
 |_::_,[],h=>by simp[Lib.compareBytes]at h
 |a::x,b::y,h=>by
  unfold Lib.compareBytes at h;by_cases q:a<b
  .rw[Vv q]at h;omega
  .rw[Vu q]at h;by_cases q2:b<a
   .rw[Vv q2]at h;omega
   .rw[Vu q2]at h;have:a=b:=by
     rw[UInt8.lt_iff_toNat_lt]at q q2;exact UInt8.toNat_inj.1 (by omega)
    rw[this,Qo7 h]
theorem QgG:∀{l m:List Int},(∀x∈l,0<=x/\x<256)->(∀x∈m,0<=x/\x<256)->l.map Qbw=m.map Qbw->l=m
 |[],[],_,_,_=>rfl
 |[],_::_,_,_,h=>by simp at h
 |_::_,[],_,_,h=>by simp at h
 |x::l,y::m,h1,h2,h=>by
  simp only[Vl,List.cons.injEq]at h;have a1:=h1 x (by simp);have a2:=h2 y (by simp);have e:=congrArg UInt8.toNat h.1;unfold Qbw at e;rw[UInt8.toNat_ofNat',UInt8.toNat_ofNat']at e;have:x=y:=by omega
  rw[this,QgG (λz a=>h1 z (by simp[a])) (λz a=>h2 z (by simp[a])) h.2]
theorem QiJ(f g:Fact):cmpF f g=bif cmpI f.At g.At != 0 then cmpI f.At g.At else bif cmpI f.Crew g.Crew != 0 then cmpI f.Crew g.Crew else bif cmpI f.No g.No != 0 then cmpI f.No g.No else cmpB (encF f).1 (encF g).1:=by
 unfold cmpF orL orL orL orL;generalize cmpI f.At g.At=a;generalize cmpI f.Crew g.Crew=b;generalize cmpI f.No g.No=d;cases h:(a != 0)with
 |true=>simp only[Vr,h]
 |false=>
  simp only[Vs];cases e:(b != 0)with
  |true=>simp only[Vr,e]
  |false=>
   simp only[Vs];cases i:(d != 0)with
   |true=>simp only[Vr,i]
   |false=>rfl
theorem QkL:CmpOK cmpF:=by
 have h:=QdO (cmpI_ok.on λf:Fact=>f.At) (QdO (cmpI_ok.on λf:Fact=>f.Crew) (QdO (cmpI_ok.on λf:Fact=>f.No) (cb_ok.on λf:Fact=>(encF f).1.map Qbw)));have e:cmpF=λf g=>bif cmpI f.At g.At != 0 then cmpI f.At g.At else bif cmpI f.Crew g.Crew != 0 then cmpI f.Crew g.Crew else bif cmpI f.No g.No != 0 then cmpI f.No g.No else cmpB (encF f).1 (encF g).1:=by
  funext f g;exact QiJ f g
 rw[e];exact h
def wideE(e:Ent):Bool:=decide (-1125899906842624<=e.lo)&&decide (e.hi<=1125899906842624)
theorem Qln(f:Fact):(entsS f).all wideE=true:=by
 unfold entsS;rw[List.all_append,XZ];refine⟨rfl,?_⟩;rcases kinds f with k|k|k|k|k|k|k|k|k|k|k|k|k|k
 case inr.inr.inr.inr.inr.inr.inr.inr.inr.inl=>
  unfold openU;rw[k];show(bodyL (bif (f.Ruling.Kind==1)||(f.Ruling.Kind==2)then .c9 (0,0,0,0,0,0)else bif f.Ruling.Kind==3 then .c9 (1,9999,0,255,1,1099511627776)else bif f.Ruling.Kind==4 then .c9 (1,9999,0,255,1,64)else .c9 (1,9999,0,255,0,0))).all wideE=true;cases((f.Ruling.Kind==1)||(f.Ruling.Kind==2))with
  |true=>rfl
  |false=>
   cases(f.Ruling.Kind==3)with
   |true=>rfl
   |false=>cases(f.Ruling.Kind==4)<;>rfl
 case inr.inr.inr.inr.inr.inr.inr.inr.inr.inr.inr.inr.inr=>rw[k];rfl
 all_goals
  unfold openU;rw[k];rfl
theorem QeW{f:Fact}(h:validS f=true):∀x∈numsS f,in63 x:=by
 have k:=h;unfold validS at h;rw[Qg9]at h;by_cases q:openU f=.c13 ()
 .rw[q]at h;cases h
 .rw[<- (QdC f q).2];cases a:fineU f (openU f)with
  |false=>rw[a]at h;cases h
  |true=>
   rw[a]at h;cases b:(entsS f).all (inE f (suspB f))with
   |false=>rw[b]at h;cases h
   |true=>
    intro x j;obtain⟨e,d,rfl⟩:=Xe.1 j;have i:=Xt.1 b e d;have g:=Xt.1 (Qln f) e d;unfold inE at i;unfold wideE at g;simp only[XZ,Bool.not_eq_true',decide_eq_false_iff_not,Vt]at i g;unfold in63;omega
theorem QgC{f:Fact}(h:validS f=true):encF f=(listB (numsS f),0):=by
 unfold encF;rw[h,Qi8 h];rfl
theorem Qev{f g:Fact}(b:validS f=true)(hg:validS g=true)(h:cmpF f g=0):f=g:=by
 rw[QiJ]at h;have z:cmpB (encF f).1 (encF g).1=0:=by
  cases d:(cmpI f.At g.At != 0)with
  |true=>rw[d]at h;exact absurd h (bne_iff_ne.1 d)
  |false=>
   rw[d]at h;cases a:(cmpI f.Crew g.Crew != 0)with
   |true=>rw[a]at h;exact absurd h (bne_iff_ne.1 a)
   |false=>
    rw[a]at h;cases i:(cmpI f.No g.No != 0)with
    |true=>rw[i]at h;exact absurd h (bne_iff_ne.1 i)
    |false=>rw[i]at h;exact h
 rw[QgC b,QgC hg]at z;have e:=QgG (QdZ _) (QdZ _) (Qo7 z);exact QmG b hg (Qlb (QeW b) (QeW hg) e)
set_option maxRecDepth 4000
theorem Qcs{α:Type}{R:α->α->Prop}(d:∀x,¬R x x)(i:∀x y z,R x y->R y z->R x z):∀{l m:List α},l.Pairwise R->m.Pairwise R->(∀x,x∈l↔x∈m)->l=m
 |[],[],_,_,_=>rfl
 |[],b::m,_,_,h=>by have:=(h b).2 (by simp);cases this
 |a::l,[],_,_,h=>by have:=(h a).1 (by simp);cases this
 |a::l,b::m,hl,hm,h=>by
  rw[Xc]at hl hm;have e:a=b:=by
   rcases X8.1 ((h a).1 (by simp))with e|f
   .exact e
   .rcases X8.1 ((h b).2 (by simp))with e|j
    .exact e.symm
    .exact absurd (i _ _ _ (hl.1 b j) (hm.1 a f)) (d a)
  subst e;congr 1;refine Qcs d i hl.2 hm.2 λx=>?_;constructor
  .intro g;rcases X8.1 ((h x).1 (X7 _ g))with e|f
   .subst e;exact absurd (hl.1 x g) (d x)
   .exact f
  .intro g;rcases X8.1 ((h x).2 (X7 _ g))with e|f
   .subst e;exact absurd (hm.1 x g) (d x)
   .exact f
def insC(x:Fact):List Fact->List Fact
 |[]=>[x]
 |y::r=>bif decide (cmpF y x<0)then y::insC x r else bif y==x then y::r else x::y::r
def canonS(l:List Fact):List Fact:=l.foldl (λa x=>bif validS x then insC x a else a) []
def ltF(a b:Fact):Prop:=cmpF a b<0
theorem Qku(x:Fact):¬ltF x x:=by unfold ltF;have:=QkL.refl x;omega
theorem Qhc(x y z:Fact):ltF x y->ltF y z->ltF x z:=QkL.trans x y z
theorem QcZ(x:Fact):∀(l:List Fact) (z:Fact),z∈insC x l↔z=x\/z∈l
 |[],z=>by simp[insC]
 |y::r,z=>by
  unfold insC;cases decide (cmpF y x<0)with
  |true=>
   simp only[Vr,X8,QcZ x r z];constructor
   .rintro(h|h|h)<;>simp[h]
   .rintro(h|h|h)<;>simp[h]
  |false=>
   simp only[Vs];cases h:(y==x)with
   |true=>
    have:y=x:=by simpa using h
    subst this;simp
   |false=>simp
def CanonOK(l:List Fact):Prop:=l.Pairwise ltF/\ ∀f∈l,validS f=true
theorem Qkw{x:Fact}(a:validS x=true):∀{l:List Fact},CanonOK l->CanonOK (insC x l)
 |[],_=>⟨by simp[insC],by simp[insC,a]⟩
 |y::r,h=>by
  obtain⟨h1,h2⟩:=h;rw[Xc]at h1;have hr:CanonOK r:=⟨h1.2,λf hf=>h2 f (by simp[hf])⟩;have ih:=Qkw a hr;refine⟨?_,λf hf=>?_⟩
  .unfold insC;cases q:decide (cmpF y x<0)with
   |true=>
    simp only[Vr,Xc];refine⟨λz hz=>?_,ih.1⟩;rcases(QcZ x r z).1 hz with rfl|hz
    .show cmpF y z<0;exact Vx q
    .exact h1.1 z hz
   |false=>
    simp only[Vs];cases q2:(y==x)with
    |true=>simp only[Vr,Xc];exact h1
    |false=>
     simp only[Vs,Xc];have lt:ltF x y:=by
      have d:=Vy q;have b:¬cmpF y x=0:=λe=>by
       have:=Qev (h2 y (by simp)) a e;rw[this]at q2;simp at q2
      have:=QkL.swap x y;unfold ltF;omega
     refine⟨λz hz=>?_,h1⟩;rcases X8.1 hz with rfl|hz
     .exact lt
     .exact Qhc _ _ _ lt (h1.1 z hz)
  .rcases(QcZ x (y::r) f).1 hf with rfl|hf
   .exact a
   .exact h2 f hf
theorem Qbm(l:List Fact):CanonOK (canonS l)/\ ∀f,f∈canonS l↔f∈l/\validS f=true:=by
 have g:∀(r a:List Fact),CanonOK a->CanonOK (r.foldl (λa x=>bif validS x then insC x a else a) a)/\ ∀f,f∈r.foldl (λa x=>bif validS x then insC x a else a) a↔f∈a\/(f∈r/\validS f=true):=by
  intro r
  induction r with
  |nil=>intro a h;exact⟨h,λf=>by simp⟩
  |cons x r i=>
   intro a h;rw[XG];cases q:validS x with
   |false=>
    obtain⟨e,d⟩:=i a h;refine⟨e,λf=>?_⟩;rw[Vs,d f,X8];constructor
    .rintro(a|⟨a,b⟩)
     .exact .inl a
     .exact .inr ⟨.inr a,b⟩
    .rintro(a|⟨rfl|a,b⟩)
     .exact .inl a
     .rw[q]at b;cases b
     .exact .inr ⟨a,b⟩
   |true=>
    obtain⟨e,d⟩:=i (insC x a) (Qkw q h);refine⟨e,λf=>?_⟩;rw[Vr,d f,QcZ,X8];constructor
    .rintro((rfl|a)|⟨a,b⟩)
     .exact .inr ⟨.inl rfl,q⟩
     .exact .inl a
     .exact .inr ⟨.inr a,b⟩
    .rintro(a|⟨rfl|a,b⟩)
     .exact .inl (.inr a)
     .exact .inl (.inl rfl)
     .exact .inr ⟨a,b⟩
 obtain⟨e,d⟩:=g l [] ⟨by simp,by simp⟩;exact⟨e,λf=>by rw[canonS,d f];simp⟩
theorem QjO{l m:List Fact}(h:∀f,validS f=true->(f∈l↔f∈m)):canonS l=canonS m:=by
 obtain⟨d,e⟩:=Qbm l;obtain⟨a,b⟩:=Qbm m;refine Qcs Qku Qhc d.1 a.1 λf=>?_;rw[e f,b f];constructor
 .rintro⟨x,y⟩;exact⟨(h f y).1 x,y⟩
 .rintro⟨x,y⟩;exact⟨(h f y).2 x,y⟩
def FirstIs(c:Course)(l:List Fact)(f:Fact):Prop:=f∈l/\okS c f=true/\ ∀g∈l,okS c g=true->g.Starter.Bib=f.Starter.Bib->¬cmpF g f<0
theorem Qgi{c:Course}{f:Fact}(h:okS c f=true):validS f=true:=by
 unfold okS at h;simp only[XZ]at h;exact h.2.1
theorem FirstIs.one{c:Course}{l:List Fact}{f g:Fact}(a:FirstIs c l f)(hg:FirstIs c l g)(e:f.Starter.Bib=g.Starter.Bib):f=g:=by
 have d:=a.2.2 g hg.1 hg.2.1 e.symm;have b:=hg.2.2 f a.1 a.2.1 e;have:=QkL.swap f g;exact Qev (Qgi a.2.1) (Qgi hg.2.1) (by omega)
set_option maxRecDepth 4000
def nb(v lo hi:Int):Bool:= !(decide (v<lo))&& !(decide (hi<v))
theorem QbT(v lo hi:Int):nb v lo hi=true↔lo<=v/\v<=hi:=by
 unfold nb;simp only[XZ,Bool.not_eq_true',decide_eq_false_iff_not];omega
def contR(f:Fact):Bool:=
 bif f.Kind==1 then true&&(nb f.Starter.Bib 1 9999&&(nb f.Starter.Distance 0 7&&(nb f.Starter.Wave 0 31&&(nb f.Starter.Slot (-1099511627776) 1099511627776&&(nb f.Starter.Age 0 120&&(nb f.Starter.Chip 0 1048576&&(nb f.Starter.Team 0 9999&&(nb f.Starter.Lot 0 1048576&&true))))))))
 else bif f.Kind==2 then true&&(nb f.Read.Mat 0 39&&(nb f.Read.Epoch 0 255&&(nb f.Read.Chip 0 1048576&&(nb f.Read.Local (-1099511627776) 1099511627776&&true))))
 else bif f.Kind==3 then true&&(nb f.Beacon.Mat 0 39&&(nb f.Beacon.Epoch 0 255&&(nb f.Beacon.Local (-1099511627776) 1099511627776&&(nb f.Beacon.True (-1099511627776) 1099511627776&&(nb f.Beacon.Err 0 1099511627776&&true)))))
 else bif f.Kind==4 then decide (f.Sync.Min<=f.Sync.Max)&&(nb f.Sync.MatA 0 39&&(nb f.Sync.EpochA 0 255&&(nb f.Sync.LocalA (-1099511627776) 1099511627776&&(nb f.Sync.MatB 0 39&&(nb f.Sync.EpochB 0 255&&(nb f.Sync.LocalB (-1099511627776) 1099511627776&&(nb f.Sync.Min (-1099511627776) 1099511627776&&(nb f.Sync.Max (-1099511627776) 1099511627776&&true))))))))
 else bif f.Kind==5 then decide (f.Hand.Lo<=f.Hand.Hi)&&(nb f.Hand.Bib 1 9999&&(nb f.Hand.Position 0 255&&(nb f.Hand.Lo (-1099511627776) 1099511627776&&(nb f.Hand.Hi (-1099511627776) 1099511627776&&true))))
 else bif f.Kind==6 then decide (f.Silence.Lo<=f.Silence.Hi)&&(nb f.Silence.Mat 0 39&&(nb f.Silence.Epoch 0 255&&(nb f.Silence.Lo (-1099511627776) 1099511627776&&(nb f.Silence.Hi (-1099511627776) 1099511627776&&true))))
 else bif f.Kind==7 then decide (f.Pair.A<f.Pair.B)&&(nb f.Pair.A 1 9999&&(nb f.Pair.B 1 9999&&true))
 else bif f.Kind==8 then true&&(nb f.Report.Case 1 1048576&&(nb f.Report.Bib 1 9999&&(nb f.Report.Offence 0 31&&(nb f.Report.Position 0 255&&true))))
 else bif f.Kind==9 then true&&(nb f.Protest.Case 1 1048576&&(nb f.Protest.By 0 9999&&(nb f.Protest.Fee 0 1125899906842624&&(nb f.Protest.Form 0 1&&true))))
 else bif f.Kind==10 then true&&(nb f.Ruling.Case 1 1048576&&(nb f.Ruling.Instance 1 2&&(nb f.Ruling.Kind 1 5&&(bif (f.Ruling.Kind==1)||(f.Ruling.Kind==2)then nb f.Ruling.Bib 0 0&&(nb f.Ruling.Position 0 0&&(nb f.Ruling.Amount 0 0&&true))else bif f.Ruling.Kind==3 then nb f.Ruling.Bib 1 9999&&(nb f.Ruling.Position 0 255&&(nb f.Ruling.Amount 1 1099511627776&&true))else bif f.Ruling.Kind==4 then nb f.Ruling.Bib 1 9999&&(nb f.Ruling.Position 0 255&&(nb f.Ruling.Amount 1 64&&true))else nb f.Ruling.Bib 1 9999&&(nb f.Ruling.Position 0 255&&(nb f.Ruling.Amount 0 0&&true))))))
 else bif f.Kind==11 then true&&(nb f.Appeal.Case 1 1048576&&(nb (suspB f) 0 1&&true))
 else bif f.Kind==12 then true&&true
 else bif f.Kind==13 then true&&(nb f.Void.Crew 0 31&&(nb f.Void.No 1 1048576&&true))
 else false
theorem Qoj(f:Fact):(f.Kind=1\/f.Kind=2\/f.Kind=3\/f.Kind=4\/f.Kind=5\/f.Kind=6\/f.Kind=7\/f.Kind=8\/f.Kind=9\/f.Kind=10\/f.Kind=11\/f.Kind=12\/f.Kind=13)\/((f.Kind==1)=false/\(f.Kind==2)=false/\(f.Kind==3)=false/\(f.Kind==4)=false/\(f.Kind==5)=false/\(f.Kind==6)=false/\(f.Kind==7)=false/\(f.Kind==8)=false/\(f.Kind==9)=false/\(f.Kind==10)=false/\(f.Kind==11)=false/\(f.Kind==12)=false/\(f.Kind==13)=false):=by
 by_cases h:1<=f.Kind/\f.Kind<=13
 .left;omega
 .right;simp only[VB,ne_eq];omega
theorem Qnv(f:Fact):contS f=contR f:=by
 rcases Qoj f with k|⟨s,p,q,w,x,y,u,r,t,h,g,j,i⟩
 .rcases k with k|k|k|k|k|k|k|k|k|k|k|k|k
  case inr.inr.inr.inr.inr.inr.inr.inr.inr.inl=>
   obtain⟨Cr,No,At,Ki,S,R,B,Sy,Ha,Si,Pa,Re,Pr,⟨n,l,a,d,e,b⟩,Ap,Vo⟩:=f;simp only at k;subst k;have m:openU ⟨Cr,No,At,10,S,R,B,Sy,Ha,Si,Pa,Re,Pr,⟨n,l,a,d,e,b⟩,Ap,Vo⟩=(bif (a==1)||(a==2)then U_facts_open_rxk.c9 (0,0,0,0,0,0)else bif a==3 then .c9 (1,9999,0,255,1,1099511627776)else bif a==4 then .c9 (1,9999,0,255,1,64)else .c9 (1,9999,0,255,0,0)):=rfl;have z:contR ⟨Cr,No,At,10,S,R,B,Sy,Ha,Si,Pa,Re,Pr,⟨n,l,a,d,e,b⟩,Ap,Vo⟩=(true&&(nb n 1 1048576&&(nb l 1 2&&(nb a 1 5&&(bif (a==1)||(a==2)then nb d 0 0&&(nb e 0 0&&(nb b 0 0&&true))else bif a==3 then nb d 1 9999&&(nb e 0 255&&(nb b 1 1099511627776&&true))else bif a==4 then nb d 1 9999&&(nb e 0 255&&(nb b 1 64&&true))else nb d 1 9999&&(nb e 0 255&&(nb b 0 0&&true))))))):=rfl;rw[z];unfold contS;rw[m];cases((a==1)||(a==2))with
   |true=>rfl
   |false=>
    cases(a==3)with
    |true=>rfl
    |false=>cases(a==4)<;>rfl
  case inr.inr.inr.inr.inr.inr.inr.inr.inr.inr.inl=>
   obtain⟨Cr,No,At,Ki,S,R,B,Sy,Ha,Si,Pa,Re,Pr,Ru,⟨Ca,Su⟩,Vo⟩:=f;simp only at k;subst k;cases Su<;>rfl
  all_goals
   obtain⟨Cr,No,At,Ki,S,R,B,Sy,Ha,Si,Pa,Re,Pr,Ru,Ap,Vo⟩:=f;simp only at k;subst k;rfl
 .have m:openU f=.c13 ():=by unfold openU;rw[s,p,q,w,x,y,u,r,t,h,g,j,i];rfl
  unfold contS contR;rw[m,s,p,q,w,x,y,u,r,t,h,g,j,i];rfl
theorem Qib(x:Fact):∀l:List Fact,(insC x l).length<=l.length+1
 |[]=>by simp[insC]
 |y::r=>by
  unfold insC;have:=Qib x r;cases decide (cmpF y x<0)with
  |true=>simp only[Vr,X3];omega
  |false=>cases(y==x)<;>simp
theorem Qi4{c:Course}(h:Course.wf c):CourseOk c:=by
 obtain⟨k,⟨i,f⟩,⟨m,s⟩,⟨n,b⟩,⟨g,j⟩,⟨p,l⟩,⟨q,d⟩,⟨e,r⟩,_⟩:=h;exact⟨k,i,λx a=>(f x a).1,m,n,λx a=>(b x a).1,λx a=>(b x a).2.2.2.1.1,g,λx a=>(j x a).1,p,λx a=>(l x a).1,q,λx a=>(d x a).1,e⟩
theorem QjY{c:Course}(h:Course.wf c):PartsOk c:=by
 obtain⟨_,_,_,⟨e,b⟩,_⟩:=h;exact⟨λd a=>(b d a).2.1.1,λd a=>(b d a).2.1.2⟩
theorem Qoa{c:Course}(h:Course.wf c):c.Ties.length<=1048576/\ ∀x∈c.Ties,Step.wf x:=by
 obtain⟨_,_,_,_,_,_,_,_,a,_⟩:=h;exact a
theorem QfC(l:List Fact):(canonS l).length<=l.length:=by
 have:∀(m a:List Fact),(m.foldl (λa x=>bif validS x then insC x a else a) a).length<=a.length+m.length:=by
  intro m
  induction m with
  |nil=>intro a;simp
  |cons x m b=>
   intro a;rw[XG,X3];have e:=b (bif validS x then insC x a else a);have d:(bif validS x then insC x a else a).length<=a.length+1:=by
    cases validS x with
    |true=>exact Qib x a
    |false=>simp
   omega
 have:=this l [];simpa[canonS]using this
def rulB(k i:Int)(f:Fact):Bool:=(f.Kind==10)&&((f.Ruling.Case==k)&&(f.Ruling.Instance==i))
def repB(k:Int)(f:Fact):Bool:=(f.Kind==8)&&(f.Report.Case==k)
def appB(k:Int)(f:Fact):Bool:=(f.Kind==11)&&(f.Appeal.Suspends&&(f.Appeal.Case==k))
def caseN(f:Fact):Option Int:=bif f.Kind==10 then some f.Ruling.Case else bif f.Kind==8 then some f.Report.Case else bif (f.Kind==11)&&f.Appeal.Suspends then some f.Appeal.Case else none
def fileOf(P:List Fact)(k:Int):Ue:=⟨k,P.filter (rulB k 0),P.filter (rulB k 1),P.filter (rulB k 2),(P.filter (repB k)).map (·.Report),P.any (appB k)⟩
theorem QaJ{k i:Int}{f:Fact}(h:rulB k i f=true):caseN f=some k:=by
 unfold rulB at h;rw[XZ,XZ,VA (a:=f.Ruling.Case)]at h;unfold caseN;rw[h.1,Vr,h.2.1]
theorem Qgc{k:Int}{f:Fact}(h:repB k f=true):caseN f=some k:=by
 unfold repB at h;rw[XZ,VA,VA]at h;unfold caseN;rw[h.1,h.2];rfl
theorem QgH{k:Int}{f:Fact}(h:appB k f=true):caseN f=some k:=by
 unfold appB at h;rw[XZ,XZ,VA,VA]at h;unfold caseN;rw[h.1,h.2.1,h.2.2];rfl
theorem Qa4{α:Type}{p:α->Bool}{l:List α}(h:∀x∈l,p x=false):l.filter p=[]:=by
 rw[List.filter_eq_nil_iff];intro x a;rw[h x a];exact Bool.false_ne_true
theorem Qba{b:Bool}(h:¬b=true):b=false:=by cases b with
 |true=>exact absurd rfl h
 |false=>rfl
theorem Qjz{P:List Fact}{k:Int}(h:∀f∈P,caseN f≠some k):fileOf P k=Qat k:=by
 unfold fileOf Qat;rw[Qa4 λf a=>Qba λq=>h f a (QaJ q),Qa4 λf a=>Qba λq=>h f a (QaJ q),Qa4 λf a=>Qba λq=>h f a (QaJ q),
  Qa4 λf a=>Qba λq=>h f a (Qgc q),show P.any (appB k)=false from List.any_eq_false.2 λf a q=>h f a (QgH q)]
 rfl
theorem Qz{α:Type}(p:α->Bool)(l:List α)(x:α):(l++[x]).filter p=bif p x then l.filter p++[x]else l.filter p:=by
 rw[List.filter_append];cases h:p x<;>simp[h]
theorem Qc2{P:List Fact}{f:Fact}{k:Int}(h:caseN f≠some k):fileOf (P++[f]) k=fileOf P k:=by
 unfold fileOf;rw[Qz,Qz,Qz,Qz,Qba λq=>h (QaJ (i:=0) q),Qba λq=>h (QaJ (i:=1) q),Qba λq=>h (QaJ (i:=2) q),Qba λq=>h (Qgc q),List.any_append,List.any_cons,List.any_nil,
  Qba λq=>h (QgH q)]
 simp
structure FilesOf (P:List Fact) (fs:List Ue):Prop where
 num:(fs.map (·.number)).Nodup
 each:∀x∈fs,x=fileOf P x.number
 mem:∀k,k∈fs.map (·.number)↔ ∃f∈P,caseN f=some k
theorem FilesOf.nil:FilesOf [] []:=⟨List.nodup_nil,(λ_ h=>by cases h),λk=>by simp⟩
theorem FilesOf.skip{P:List Fact}{fs:List Ue}{f:Fact}(h:FilesOf P fs)(d:caseN f=none):FilesOf (P++[f]) fs:=by
 refine⟨h.num,λx e=>?_,λk=>?_⟩
 .rw[Qc2 (by rw[d];intro q;cases q)];exact h.each x e
 .rw[h.mem k];constructor
  .rintro⟨g,b,a⟩;exact⟨g,by simp[b],a⟩
  .rintro⟨g,b,a⟩;rcases VF.1 b with q|q
   .exact⟨g,q,a⟩
   .rw[VD.1 q,d]at a;cases a
theorem FilesOf.put{P:List Fact}{fs:List Ue}{f:Fact}{k:Int}{g:Ue->Ue}(h:FilesOf P fs)(w:caseN f=some k)(B:∀x,(g x).number=x.number)(hg:g (fileOf P k)=fileOf (P++[f]) k):FilesOf (P++[f]) (Qbq (Qai fs k) k g):=by
 have r:∀x∈Qai fs k,x=fileOf P x.number:=by
  by_cases q:∃x∈fs,x.number=k
  .rw[Qc0 q];exact h.each
  .have i:∀x∈fs,x.number≠k:=λx d e=>q ⟨x,d,e⟩;rw[QbW i];intro x d;rcases VF.1 d with z|z
   .exact h.each x z
   .rw[VD.1 z];refine(Qjz (k:=k) λa p e=>?_).symm;obtain⟨x,d,H⟩:=Xe.1 ((h.mem k).2 ⟨a,p,e⟩);exact i x d H
 have s:((Qai fs k).map (·.number)).Nodup:=by
  by_cases q:∃x∈fs,x.number=k
  .rw[Qc0 q];exact h.num
  .have i:∀x∈fs,x.number≠k:=λx d e=>q ⟨x,d,e⟩;rw[QbW i,Xf,List.nodup_append];refine⟨h.num,by simp,?_⟩;intro a p b F;obtain⟨x,d,rfl⟩:=Xe.1 p;have n:b=k:=by simpa[Qat]using F
   rw[n];exact i x d
 have u:∀j,j∈(Qai fs k).map (·.number)↔j=k\/j∈fs.map (·.number):=by
  intro j;by_cases q:∃x∈fs,x.number=k
  .rw[Qc0 q];constructor
   .exact .inr
   .rintro(rfl|z)
    .obtain⟨x,d,e⟩:=q;exact Xe.2 ⟨x,d,e⟩
    .exact z
  .rw[QbW λx d e=>q ⟨x,d,e⟩,Xf,VF];simp only[Vl,Vm,VD,Qat];exact Or.comm
 have m:(Qbq (Qai fs k) k g).map (·.number)=(Qai fs k).map (·.number):=by
  unfold Qbq;rw[List.map_map];refine List.map_congr_left λx _=>?_;show(bif decide (x.number=k)then g x else x).number=x.number;cases decide (x.number=k)with
  |true=>exact B x
  |false=>rfl
 refine⟨by rw[m];exact s,λx d=>?_,λj=>?_⟩
 .obtain⟨y,G,rfl⟩:=Xe.1 d;have E:=r y G;cases q:decide (y.number=k)with
  |true=>
   have i:=Vx q;show g y=fileOf _ (g y).number;rw[B,i, <- hg, <- i, <- E]
  |false=>
   have i:=Vy q;show y=fileOf _ y.number;rw[Qc2 (by rw[w];intro z;cases z;exact i rfl)];exact E
 .rw[m,u,h.mem j];constructor
  .rintro(rfl|⟨a,t,l⟩)
   .exact⟨f,by simp,w⟩
   .exact⟨a,by simp[t],l⟩
  .rintro⟨a,t,l⟩;rcases VF.1 t with z|z
   .exact .inr ⟨a,z,l⟩
   .rw[VD.1 z,w]at l;cases l;exact .inl rfl
theorem FilesOf.room{P:List Fact}{fs:List Ue}{k:Int}(h:FilesOf P fs)(hl:P.length<1048576):QdU (Qai fs k)=true:=by
 have b:∀n,n<=P.length->Nat.ble (n+1) Qy=true:=λn d=>Qes (by omega);have one:∀j,(λx:Ue=>Nat.ble (x.r0.length+1) Qy&&Nat.ble (x.r1.length+1) Qy&&Nat.ble (x.r2.length+1) Qy&&Nat.ble (x.reports.length+1) Qy) (fileOf P j)=true:=by
  intro j;simp only[fileOf,X4];rw[b _ (VP ..),b _ (VP ..),b _ (VP ..),b _ (VP ..)];rfl
 unfold QdU;refine Xt.2 λx a=>?_;by_cases q:∃x∈fs,x.number=k
 .rw[Qc0 q]at a;rw[h.each x a];exact one _
 .rw[QbW λx a e=>q ⟨x,a,e⟩]at a;rcases VF.1 a with z|z
  .rw[h.each x z];exact one _
  .rw[VD.1 z];simp only[Qat,List.length_nil];decide
theorem QdQ{f:Fact}(h:validS f=true):headS f=true/\contR f=true/\onlyS f=f:=by
 rw[Qdo,XZ,XZ,Qnv,VA]at h;exact⟨h.1.1,h.1.2,h.2⟩
theorem Qk1{f:Fact}(h:validS f=true)(k:f.Kind=10):(1<=f.Ruling.Case/\(f.Ruling.Instance=1\/f.Ruling.Instance=2))/\(0<=f.Ruling.Bib/\f.Ruling.Bib<=9999)/\f.Report=Up.Report:=by
 obtain⟨_,b,l⟩:=QdQ h;have e:f.Report=(onlyS f).Report:=by rw[l]
 have m:(onlyS f).Report=bif f.Kind==8 then f.Report else Up.Report:=rfl
 rw[m,k]at e;refine⟨?_,?_,e⟩
 .unfold contR at b;rw[k]at b;have d:(true&&(nb f.Ruling.Case 1 1048576&&(nb f.Ruling.Instance 1 2&&(nb f.Ruling.Kind 1 5&&(bif (f.Ruling.Kind==1)||(f.Ruling.Kind==2)then nb f.Ruling.Bib 0 0&&(nb f.Ruling.Position 0 0&&(nb f.Ruling.Amount 0 0&&true))else bif f.Ruling.Kind==3 then nb f.Ruling.Bib 1 9999&&(nb f.Ruling.Position 0 255&&(nb f.Ruling.Amount 1 1099511627776&&true))else bif f.Ruling.Kind==4 then nb f.Ruling.Bib 1 9999&&(nb f.Ruling.Position 0 255&&(nb f.Ruling.Amount 1 64&&true))else nb f.Ruling.Bib 1 9999&&(nb f.Ruling.Position 0 255&&(nb f.Ruling.Amount 0 0&&true)))))))=true:=b;simp only[XZ,QbT]at d;obtain⟨_,a,n,_⟩:=d;exact⟨a.1,by omega⟩
 .unfold contR at b;rw[k]at b;have d:(true&&(nb f.Ruling.Case 1 1048576&&(nb f.Ruling.Instance 1 2&&(nb f.Ruling.Kind 1 5&&(bif (f.Ruling.Kind==1)||(f.Ruling.Kind==2)then nb f.Ruling.Bib 0 0&&(nb f.Ruling.Position 0 0&&(nb f.Ruling.Amount 0 0&&true))else bif f.Ruling.Kind==3 then nb f.Ruling.Bib 1 9999&&(nb f.Ruling.Position 0 255&&(nb f.Ruling.Amount 1 1099511627776&&true))else bif f.Ruling.Kind==4 then nb f.Ruling.Bib 1 9999&&(nb f.Ruling.Position 0 255&&(nb f.Ruling.Amount 1 64&&true))else nb f.Ruling.Bib 1 9999&&(nb f.Ruling.Position 0 255&&(nb f.Ruling.Amount 0 0&&true)))))))=true:=b;simp only[XZ]at d;obtain⟨_,_,_,_,a⟩:=d;cases j:((f.Ruling.Kind==1)||(f.Ruling.Kind==2))with
  |true=>rw[j]at a;simp only[Vr,XZ,QbT]at a;omega
  |false=>
   rw[j,Vs]at a;cases i:(f.Ruling.Kind==3)with
   |true=>rw[i]at a;simp only[Vr,XZ,QbT]at a;omega
   |false=>
    rw[i,Vs]at a;cases g:(f.Ruling.Kind==4)with
    |true=>rw[g]at a;simp only[Vr,XZ,QbT]at a;omega
    |false=>rw[g]at a;simp only[Vs,XZ,QbT]at a;omega
theorem Qb6{f:Fact}(k:f.Kind=10)(j:Int):rulB f.Ruling.Case j f=(f.Ruling.Instance==j):=by
 unfold rulB;rw[k];simp
theorem Qhl{P:List Fact}{fs:List Ue}{f:Fact}(h:FilesOf P fs)(hl:P.length<1048576)(s:validS f=true):∃fs',filesStep fs f=some fs'/\FilesOf (P++[f]) fs':=by
 unfold filesStep;cases a:(f.Kind==10)with
 |true=>
  have k:f.Kind=10:=by simpa using a
  obtain⟨⟨_,e⟩,_⟩:=Qk1 s k;have g:caseN f=some f.Ruling.Case:=by unfold caseN;rw[a];rfl
  have n:repB f.Ruling.Case f=false:=by unfold repB;rw[k];rfl
  have d:appB f.Ruling.Case f=false:=by unfold appB;rw[k];rfl
  simp only[Vr,h.room hl];unfold filesAdd;rcases e with e|e
  .refine⟨Qbq (Qai fs f.Ruling.Case) f.Ruling.Case λx=>{x with r1:=x.r1++[f]},by rw[e];rfl,h.put g (λx=>rfl) ?_⟩;unfold fileOf;rw[Qz,Qz,Qz,Qz,Qb6 k,Qb6 k,Qb6 k,e,n,List.any_append,List.any_cons,List.any_nil,d];simp
  .refine⟨Qbq (Qai fs f.Ruling.Case) f.Ruling.Case λx=>{x with r2:=x.r2++[f]},by rw[e];rfl,h.put g (λx=>rfl) ?_⟩;unfold fileOf;rw[Qz,Qz,Qz,Qz,Qb6 k,Qb6 k,Qb6 k,e,n,List.any_append,List.any_cons,List.any_nil,d];simp
 |false=>
  simp only[Vs];have m:∀j i,rulB j i f=false:=λj i=>by unfold rulB;rw[a];rfl
  cases l:(f.Kind==8)with
  |true=>
   have k:f.Kind=8:=by simpa using l
   have g:caseN f=some f.Report.Case:=by unfold caseN;rw[a,l];rfl
   have r:repB f.Report.Case f=true:=by unfold repB;rw[k];simp
   have d:appB f.Report.Case f=false:=by unfold appB;rw[k];rfl
   simp only[Vr,h.room hl];refine⟨Qbq (Qai fs f.Report.Case) f.Report.Case λx=>{x with reports:=x.reports++[f.Report]},rfl,h.put g (λx=>rfl) ?_⟩;unfold fileOf;rw[Qz,Qz,Qz,Qz,m,m,m,r,List.any_append,List.any_cons,List.any_nil,d];simp
  |false=>
   simp only[Vs];have n:∀j,repB j f=false:=λj=>by unfold repB;rw[l];rfl
   cases b:(f.Kind==11)with
   |true=>
    simp only[Vr];cases p:f.Appeal.Suspends with
    |true=>
     have g:caseN f=some f.Appeal.Case:=by unfold caseN;rw[a,l,b,p];rfl
     have q:appB f.Appeal.Case f=true:=by unfold appB;rw[b,p];simp
     refine⟨Qbq (Qai fs f.Appeal.Case) f.Appeal.Case λx=>{x with appeal:=true},rfl,h.put g (λx=>rfl) ?_⟩;unfold fileOf;rw[Qz,Qz,Qz,Qz,m,m,m,n,List.any_append,List.any_cons,List.any_nil,q];simp
    |false=>exact⟨_,rfl,h.skip (by unfold caseN;rw[a,l,b,p];rfl)⟩
   |false=>exact⟨_,rfl,h.skip (by unfold caseN;rw[a,l,b];rfl)⟩
def SameF(l m:List Fact):Prop:=∀f,validS f=true->(f∈l↔f∈m)
theorem SameF.symm{l m:List Fact}(h:SameF l m):SameF m l:=λf hf=>(h f hf).symm
theorem SameF.filter{l m:List Fact}(h:SameF l m)(p:Fact->Bool):SameF (l.filter p) (m.filter p):=λf hf=>by rw[Xd,Xd,h f hf]
def repStep(k:Int)(r f:Fact):Fact:=bif validS f&&repB k f then(bif (r.Kind==0)||decide (cmpF f r<0)then f else r)else r
structure RepOf (k:Int) (P:List Fact) (r:Fact):Prop where
 none:(r.Kind==0)=true->r=Up/\ ∀f∈P,validS f=true->repB k f=false
 some:(r.Kind==0)=false->r∈P/\validS r=true/\repB k r=true/\ ∀f∈P,validS f=true->repB k f=true->¬cmpF f r<0
theorem Qgb{k:Int}{f:Fact}(h:repB k f=true):(f.Kind==0)=false:=by
 unfold repB at h;rw[XZ,VA]at h;rw[h.1];rfl
theorem RepOf.nil(k:Int):RepOf k [] Up:=⟨λ_=>⟨rfl,λ_ h=>by cases h⟩,λh=>by cases h⟩
theorem RepOf.step{k:Int}{P:List Fact}{r f:Fact}(h:RepOf k P r):RepOf k (P++[f]) (repStep k r f):=by
 unfold repStep;cases q:validS f&&repB k f with
 |false=>
  simp only[Vs];have n:¬(validS f=true/\repB k f=true):=λz=>by rw[z.1,z.2]at q;cases q
  refine⟨λz=>⟨(h.none z).1,λg l i=>?_⟩,λz=>?_⟩
  .rcases VF.1 l with w|w
   .exact(h.none z).2 g w i
   .rw[VD.1 w]at i⊢;exact Qba λy=>n ⟨i,y⟩
  .obtain⟨a,b,c,d⟩:=h.some z;refine⟨by simp[a],b,c,λg l i j=>?_⟩;rcases VF.1 l with w|w
   .exact d g w i j
   .rw[VD.1 w]at i j;exact absurd ⟨i,j⟩ n
 |true=>
  rw[XZ]at q;simp only[Vr];cases z:(r.Kind==0)with
  |true=>
   simp only[Bool.true_or,Vr];refine⟨λw=>(by rw[Qgb q.2]at w;cases w),λ_=>⟨by simp,q.1,q.2,λg l i j=>?_⟩⟩;rcases VF.1 l with w|w
   .rw[(h.none z).2 g w i]at j;cases j
   .rw[VD.1 w];have:=QkL.refl f;omega
  |false=>
   simp only[Bool.false_or];obtain⟨a,b,c,d⟩:=h.some z;cases y:decide (cmpF f r<0)with
   |true=>
    have m:=Vx y;simp only[Vr];refine⟨λw=>(by rw[Qgb q.2]at w;cases w),λ_=>⟨by simp,q.1,q.2,λg l i j=>?_⟩⟩;rcases VF.1 l with w|w
    .intro e;exact d g w i j (QkL.trans _ _ _ e m)
    .rw[VD.1 w];have:=QkL.refl f;omega
   |false=>
    have m:=Vy y;simp only[Vs];refine⟨λw=>(by rw[z]at w;cases w),λ_=>⟨by simp[a],b,c,λg l i j=>?_⟩⟩;rcases VF.1 l with w|w
    .exact d g w i j
    .rw[VD.1 w];exact m
section
variable {α β:Type}
theorem Qbu(q:α->Bool):∀(l a:List α),l.foldl (λa x=>bif q x then a++[x]else a) a=a++l.filter q
 |[],a=>by simp
 |x::l,a=>by
  rw[XG,Qbu q l,List.filter_cons];cases h:q x<;>simp
theorem Qkb{step:Nat->List α×Int->Option (Ctl (List α×Int) (List α))}(l:List α)(q:α->Bool)(hl:l.length<=1048576)
  (d:∀i x a,At l i x->a.length<=i->Ev (λn=>step n (a,(i:Int))) (.cont ((bif q x then a++[x]else a),((i+1:Nat):Int))))
  (g:∀a,Ev (λn=>step n (a,(l.length:Int))) (.done a)):Ev (λn=>Go.Sw.iter (step n) n ([],0)) (l.filter q):=by
 have e:l.filter q=l.foldl (λa x=>bif q x then a++[x]else a) []:=by rw[Qbu];rfl
 rw[e];refine Yt l (λa x=>bif q x then a++[x]else a) [] (λa i=>(a,(i:Int))) (λa=>a) (by omega) rfl (λi x a b f=>d i x a b ?_) (g _);rw[f,Qbu,Vj];exact XY (VP ..) (by rw[Xz];omega)
theorem Qgm{l:List α}[DecidableEq (List α)](hl:l.length<=1048576):isNil l (some ([]:List α)) ((app ([]:List α) l).bind λx=>some x)=some l:=by
 have:app ([]:List α) l=some l:=by rw[Qda _ _ (by simp;omega)];rfl
 unfold isNil;cases l with
 |nil=>rw[this];simp
 |cons a l=>rw[this];rfl
theorem QnV{F:Nat->α->α->Option β}{V:α->α->β}(l:List α)(h:∀x∈l,∀y∈l,Ev (λn=>F n x y) (V x y)):∃N,∀n,N<=n->∀x∈l,∀y∈l,F n x y=some (V x y):=by
 obtain⟨N,e⟩:=QaV (F:=λn (p:α×α)=>F n p.1 p.2) (V:=λp=>V p.1 p.2) (l.flatMap λx=>l.map λy=>(x,y)) (by
  intro p a;rw[List.mem_flatMap]at a;obtain⟨x,d,a⟩:=a;obtain⟨y,b,rfl⟩:=Xe.1 a;exact h x d y b)
 exact⟨N,λn f x d y b=>e n f (x,y) (List.mem_flatMap.2 ⟨x,d,Xe.2 ⟨y,b,rfl⟩⟩)⟩
def ltC(c:α->α->Int)(x y:α):Bool:=decide (c x y<0)
theorem Qb9{c:α->α->Int}(d:CmpOK c)(l:List α):Qd9 (ltC c) l:=by
 refine⟨λx _=>?_,λx _ y _ z _ g f=>?_,λx _ y _ z _ g f=>?_⟩
 .have:=d.refl x;exact Vz (by omega)
 .have g:=Vx g;have f:=Vx f;exact Vw (d.trans x y z g f)
 .have g:=Vy g;have f:=Vy f;refine Vz λh=>?_;have a:=d.swap x y;have b:=d.swap y z;by_cases e:c x y=0
  .rw[d.eqt x y z e]at h;exact f h
  .by_cases i:c y z=0
   .rw[<- d.eqr x i]at h;exact g h
   .have j:=d.trans z y x (by omega) (by omega);have:=d.swap x z;omega
theorem QkW[DecidableEq α]{cf:Nat->α->α->Option Int}{l:List α}{c:α->α->Int}(hl:l.length<=1048576)(r:∀x∈l,∀y∈l,Ev (λn=>cf n x y) (c x y))(a:CmpOK c)(k:∀x∈l,∀y∈l,c x y=0->x=y):
  Ev (λn=>QbM (cf n) l) (YD (ltC c) l):=by
 obtain⟨N,p⟩:=QnV l r;refine⟨N,λn u=>?_⟩;have h:=p n u;have m:=Qmc (cf:=cf n) (XU (Qes hl)) c h (λx _=>by have:=a.refl x;omega) (λx _ y _ z _=>a.trans x y z) (λx d y b z t g f=>by
   have:=(Qb9 a l).ntrans x d y b z t (Vz g) (Vz f);exact Vy this) (λx d y b g f=>k x d y b (by have:=a.swap x y;omega))
 show QbM (cf n) l=some (YD (ltC c) l);rw[m];congr 1;obtain⟨_,_,s,_,_⟩:=QcN m;have e:∀x∈l,∀y∈l,ltO (cf n) x y=ltC c x y:=λx d y b=>by unfold ltO ltC;rw[h x d y b]
 refine Jk (lt:=ltC c) ((Qo _ l).trans (Qo _ l).symm) (λx d y b g f=>?_) ?_ (QR (Qb9 a l))
 .have j:=(Qo _ l).mem_iff.1 d;have i:=(Qo _ l).mem_iff.1 b;have g:=Vy g;have f:=Vy f;exact k x j y i (by have:=a.swap x y;omega)
 .refine List.Pairwise.imp_of_mem (λ{x y} d b q=>?_) (QR s);have j:=(Qo _ l).mem_iff.1 d;have i:=(Qo _ l).mem_iff.1 b;rw[<- e y i x j];exact q
end
def ddA(p:Fact):List Fact->List Fact
 |[]=>[]
 |x::r=>bif cmpF x p==0 then ddA x r else x::ddA x r
def dd:List Fact->List Fact
 |[]=>[]
 |x::r=>x::ddA x r
theorem Qnr{x p:Fact}{r:List Fact}(q:(cmpF x p==0)=true):ddA p (x::r)=ddA x r:=by
 show(bif cmpF x p==0 then ddA x r else x::ddA x r)=_;rw[q];rfl
theorem Qnq{x p:Fact}{r:List Fact}(q:(cmpF x p==0)=false):ddA p (x::r)=x::ddA x r:=by
 show(bif cmpF x p==0 then ddA x r else x::ddA x r)=_;rw[q];rfl
theorem Qnp:∀(r:List Fact) (p:Fact),(∀x∈r,¬cmpF x p<0)->r.Pairwise (λa b=>¬cmpF b a<0)->(∀x∈p::r,validS x=true)->(ddA p r).Pairwise ltF/\(∀x∈ddA p r,ltF p x)/\ ∀x,x∈p::ddA p r↔x∈p::r
 |[],p,_,_,_=>⟨List.Pairwise.nil,(λ_ h=>by cases h),λ_=>Iff.rfl⟩
 |y::r,p,h1,h2,h3=>by
  rw[Xc]at h2;obtain⟨i1,i2,i3⟩:=Qnp r y h2.1 h2.2 λx hx=>h3 x (by simp only[X8]at hx⊢;exact .inr hx);have hy:=h1 y (by simp);unfold ddA;cases q:cmpF y p==0 with
  |true=>
   have q':cmpF y p=0:=by simpa using q
   have e:y=p:=Qev (h3 y (by simp)) (h3 p (by simp)) q';subst e;refine⟨i1,i2,λx=>?_⟩;rw[Vr,i3 x];simp
  |false=>
   have q':¬cmpF y p=0:=by simpa using q
   have d:ltF p y:=by
    have:=QkL.swap y p;unfold ltF;omega
   simp only[Vs];refine⟨Xc.2 ⟨i2,i1⟩,λx hx=>?_,λx=>?_⟩
   .rcases X8.1 hx with rfl|hx
    .exact d
    .exact Qhc _ _ _ d (i2 x hx)
   .rw[X8,i3 x,X8 (a:=x) (b:=p)]
theorem dd_ok{S:List Fact}(h:S.Pairwise λa b=>¬cmpF b a<0)(e:∀x∈S,validS x=true):(dd S).Pairwise ltF/\ ∀x,x∈dd S↔x∈S:=by
 cases S with
 |nil=>exact⟨List.Pairwise.nil,λ_=>Iff.rfl⟩
 |cons a r=>
  rw[Xc]at h;obtain⟨f,d,g⟩:=Qnp r a h.1 h.2 e;exact⟨Xc.2 ⟨d,f⟩,g⟩
theorem Qhp(x y:Fact):Ev (λn=>F_an n x y) (cmpF x y==0):=Ea (Qfu x y) (Qa _)
theorem Qky{l:List Fact}{a j:Nat}{x:Fact}(h:l[a+j]?=some x){m:Int}(d:m=(l.length:Int)):Qhf l (a:Int) m (j:Int)=some x:=by
 have b:=(XO.1 h).1;unfold Qhf;rw[Vw (show(0:Int)<=(a:Int)by omega),Vw (show(0:Int)<=(j:Int)by omega),Vw (show(a:Int)+(j:Int)<m by omega)];rw[show(a:Int)+(j:Int)=((a+j:Nat):Int)by omega];exact YZ h
theorem QkK{α:Type}{l r:List α}{i:Nat}{x:α}(h:l.drop i=x::r):l[i]?=some x/\l.drop (i+1)=r/\i<l.length:=by
 have a:l[i]?=some x:=by
  have:=congrArg (λl=>l[0]?) h;simpa using this
 refine⟨a,?_,(XO.1 a).1⟩;have:=Xq (XO.1 a).1;rw[h]at this;exact(List.cons.inj this).2.symm
theorem QiC(a:List Fact)(hl:a.length<=1048576)(b:Nat):∀(r s:List Fact) (i j:Nat) (p:Fact),s.length=a.length->s.drop (b+(j+1))=r->s[b+j]?=some p->i<b+(j+1)->b+(j+1)<=s.length->
  ∃(s':List Fact) (d:Nat),EvI (λn=>F_el n a (b:Int)) (s,(i:Int),((j+1:Nat):Int)) (s',(d:Int))/\d<=s'.length/\s'.take d=s.take i++ddA p r:=by
 intro r
 induction r with
 |nil=>
  intro s i j p e h w G F;refine⟨s,i,Ej ?_,by omega,by simp[ddA]⟩;have:=Xr.1 h;unfold F_el;rw[YJ (show¬(((j+1:Nat):Int)<((Int.toNat (a.length:Int)-Int.toNat (b:Int):Nat):Int))by omega)];exact Qa _
 |cons x r u=>
  intro s i j p e h w G F;obtain⟨g,y,H⟩:=QkK h;have t:=Qky g (show(a.length:Int)=(s.length:Int)by rw[e]);have B:=Qky w (show(a.length:Int)=(s.length:Int)by rw[e]);have w1:IntKind.i64.wrap (((j+1:Nat):Int)-1)=(j:Int):=by rw[Yi (by omega) (by omega)];omega
  have w2:IntKind.i64.wrap (((j+1:Nat):Int)+1)=((j+1+1:Nat):Int):=YW (by omega);have z:decide (((j+1:Nat):Int)<((Int.toNat (a.length:Int)-Int.toNat (b:Int):Nat):Int))=true:=Vw (by omega);have k:i<s.length:=by omega
  cases q:cmpF x p==0 with
  |true=>
   obtain⟨s',d,f,m,l⟩:=u s i (j+1) x e (by rw[show b+(j+1+1)=b+(j+1)+1 by omega];exact y) g (by omega) (by omega);refine⟨s',d,Ew ?_ f,m,by rw[l,Qnr q]⟩;unfold F_el;simp only[z,Vr,t,w1,B,XM];refine Ea (Qhp x p) ?_;rw[q];simp only[Xg,Vs,XM,w2];exact Qa _
  |false=>
   have E:(s.set i x).length=a.length:=by rw[X6];exact e
   obtain⟨s',d,f,m,l⟩:=u (s.set i x) (i+1) (j+1) x E (by rw[show b+(j+1+1)=b+(j+1)+1 by omega,List.drop_set_of_lt (by omega)];exact y) (by rw[XS (by omega)];exact g) (by omega) (by rw[X6];omega);have w3:IntKind.i64.wrap ((i:Int)+1)=((i+1:Nat):Int):=YW (by omega);refine⟨s',d,Ew ?_ f,m,?_⟩
   .unfold F_el;simp only[z,Vr,t,w1,B,XM];refine Ea (Qhp x p) ?_;rw[q];simp only[Xh,Vr,XM,w2,YZ (XN k),Qmg s x k,w3];exact Qa _
   .rw[l,List.take_add_one,Xa k,List.take_set_of_le (XW _)];rw[Qnq q];simp
theorem QiD(a:List Fact)(hl:a.length<=1048576):∀(r:List Fact) (k:Nat) (p:Fact),a.drop (k+1)=r->a[k]?=some p->k+1<=a.length->∃b:Ctl Unit (List Fact),EvI (λn=>F_eg n a) ((k+1:Nat):Int) b/\((b=.cont ()/\ddA p r=r)\/b=.done (a.take (k+1)++ddA p r)):=by
 intro r
 induction r with
 |nil=>
  intro k p j i u;refine⟨.cont (),Ej ?_,.inl ⟨rfl,rfl⟩⟩;have:=Xr.1 j;unfold F_eg;rw[YJ (show¬(((k+1:Nat):Int)<(a.length:Int))by omega)];exact Qa _
 |cons x r w=>
  intro k p j i u;obtain⟨f,m,g⟩:=QkK j;have w1:IntKind.i64.wrap (((k+1:Nat):Int)-1)=(k:Int):=by rw[Yi (by omega) (by omega)];omega
  have w2:IntKind.i64.wrap (((k+1:Nat):Int)+1)=((k+1+1:Nat):Int):=YW (by omega);have s:decide (((k+1:Nat):Int)<(a.length:Int))=true:=Vw (by omega);cases q:cmpF x p==0 with
  |true=>
   obtain⟨t,y,h,d,l⟩:=QiC a hl (k+1) r a (k+1) 0 x rfl m f (by omega) (by omega);refine⟨.done (a.take (k+1)++ddA p (x::r)),Ej ?_,.inr rfl⟩;unfold F_eg;simp only[s,Vr,YZ f,w1,YZ i,XM];refine Ea (Qhp x p) ?_;rw[q];simp only[Vr,Qmd a (Nat.le_of_lt g),XM];refine Ea h.ev ?_;simp only[Qpe t d,XM];rw[l];rw[Qnr q];exact Qa _
  |false=>
   obtain⟨b,h,d⟩:=w (k+1) x m f g;have e:=Qnq (r:=r) q;refine⟨b,Ew ?_ h,?_⟩
   .unfold F_eg;simp only[s,Vr,YZ f,w1,YZ i,XM];refine Ea (Qhp x p) ?_;rw[q];simp only[Vs,w2];exact Qa _
   .rcases d with⟨d,l⟩|d
    .exact .inl ⟨d,by rw[e,l]⟩
    .refine .inr ?_;rw[d,e,List.take_add_one,f];simp
theorem QiA(a:List Fact)(hl:a.length<=1048576):Ev (λn=>F_cf n a) (dd a):=by
 unfold F_cf
 match a,hl with
 |[],_=>exact Qa _
 |[x],_=>exact Qa _
 |x::y::r,hl=>
  rw[YJ (show¬(((x::y::r).length:Int)<2)by simp;omega)];refine JC ?_;obtain⟨b,d,e⟩:=QiD (x::y::r) hl (y::r) 0 x rfl rfl (by simp);refine Ea d.ev ?_;rcases e with⟨rfl,f⟩|rfl
  .show Ev (λn=>some (x::y::r)) (x::ddA x (y::r));rw[f];exact Qa _
  .exact Qa _
theorem Qli(l:List Fact)(d:∀f∈l,validS f=true)(hl:l.length<=1048576):Ev (λn=>F_cn n l) (canonS l):=by
 unfold F_cn F_du;simp only[Qgm hl,XM];have p:=Qo (ltC cmpF) l;refine Ea (QkW hl (λx _ y _=>Qfu x y) QkL λx g y j e=>Qev (d x g) (d y j) e) ?_;refine Ea (QiA _ (by rw[p.length_eq];exact hl)) ?_;have s:(YD (ltC cmpF) l).Pairwise λa b=>¬cmpF b a<0:=List.Pairwise.imp (λq=>Vy q) (QR (Qb9 QkL l));obtain⟨i,m⟩:=dd_ok s λx g=>d x (p.mem_iff.1 g);obtain⟨k,r⟩:=Qbm l;refine Ev.eq (Qa _) (Qcs Qku Qhc i k.1 λf=>?_);rw[m,p.mem_iff,r];exact⟨λh=>⟨h,d f h⟩,λh=>h.1⟩
def cmpN(x y:Ue):Int:=cmpI x.number y.number
theorem Qeu:CmpOK cmpN:=cmpI_ok.on λx:Ue=>x.number
def sortN(fs:List Ue):List Ue:=YD (ltC cmpN) fs
theorem Qks{fs:List Ue}(h:(fs.map (·.number)).Nodup){x y:Ue}(d:x∈fs)(f:y∈fs)(e:x.number=y.number):x=y:=by
 induction fs with
 |nil=>cases d
 |cons a r g=>
  have b:a.number∉r.map (·.number)/\(r.map (·.number)).Nodup:=by rw[Vl,List.nodup_cons]at h;exact h
  rcases X8.1 d with q|q
  .rcases X8.1 f with z|z
   .rw[q,z]
   .exact absurd (Xe.2 ⟨y,z,by rw[<- e,q]⟩) b.1
  .rcases X8.1 f with z|z
   .exact absurd (Xe.2 ⟨x,q,by rw[e,z]⟩) b.1
   .exact g b.2 q z
theorem Qk2{p q:List Ue}(h:p.Perm q)(g:(q.map (·.number)).Nodup):sortN p=sortN q:=by
 have d:(p.map (·.number)).Nodup:=(h.map _).nodup_iff.2 g;refine Jk (lt:=ltC cmpN) ((Qo _ p).trans (h.trans (Qo _ q).symm)) (λx f y e b a=>?_) (QR (Qb9 Qeu p)) (QR (Qb9 Qeu q));have b:=Vy b;have a:=Vy a;refine Qks d ((Qo _ p).mem_iff.1 f) ((Qo _ p).mem_iff.1 e) (Qqa.1 ?_);have:=Qeu.swap x y;show cmpN x y=0;omega
def ltN(x y:Ue):Prop:=x.number<y.number
theorem QhO{p:List Ue}(e:(p.map (·.number)).Nodup):(sortN p).Pairwise ltN:=by
 have d:((sortN p).map (·.number)).Nodup:=((Qo _ p).map _).nodup_iff.2 e;have s:=QR (Qb9 Qeu p);have b:(sortN p).Pairwise λx y=>x.number≠y.number:=by
  unfold List.Nodup at d;rw[List.pairwise_map]at d;exact d
 refine List.Pairwise.imp₂ (λx y a f=>?_) s b;have a:¬cmpI y.number x.number<0:=Vy a;rw[QoD]at a;unfold ltN;omega
theorem QpU(x y:Ue):Ev (λn=>F_y n x y) (cmpN x y==0):=by
 unfold F_y F_ab;simp only[Qhr,XM];exact Qa _
theorem QiB(fs:List Ue)(hl:fs.length<=1048576)(a:fs.Pairwise ltN):Ev (λn=>F_cs n fs) ():=by
 unfold F_cs;cases q:decide ((fs.length:Int)<2)with
 |true=>exact Qa _
 |false=>
  refine JC ?_;refine Ea (v:=()) ?_ (Qa _);have f:=Vy q;refine Ev.iter (λi=>((i+1:Nat):Int)) (fs.length-1) rfl (λi g=>?_) ?_
  .have d:fs[i+1]?=some fs[i+1]:=XN (by omega);have b:fs[i]?=some fs[i]:=XN (by omega);have w1:IntKind.i64.wrap (((i+1:Nat):Int)-1)=(i:Int):=by rw[Yi (by omega) (by omega)];omega
   have w2:IntKind.i64.wrap (((i+1:Nat):Int)+1)=((i+1+1:Nat):Int):=YW (by omega);unfold F_hx;rw[Vw (show(((i+1:Nat):Int)<(fs.length:Int))by omega)];simp only[Vr,YZ d,w1,YZ b,XM];refine Ea (QpU _ _) ?_;have lt:ltN fs[i] fs[i+1]:=VG.1 a i (i+1) (by omega) (by omega) (by omega);have e:(cmpN fs[i+1] fs[i]==0)=false:=by
    rw[VB];intro z;have h:fs[i+1].number=fs[i].number:=Qqa.1 z;unfold ltN at lt;omega
   rw[e];simp only[Vs,w2];exact Qa _
  .unfold F_hx;rw[YJ (show¬(((fs.length-1+1:Nat):Int)<(fs.length:Int))by omega)];exact Qa _
theorem QjA(fs:List Ue)(hl:fs.length<=1048576)(a:(fs.map (·.number)).Nodup):Ev (λn=>F_bb n fs) (sortN fs):=by
 unfold F_bb F_do;simp only[Qgm hl,XM];refine Ea (v:=sortN fs) (QkW hl (λx _ y _=>?_) Qeu λx b y d e=>Qks a b d (Qqa.1 e)) ?_
 .unfold F_ab;simp only[Qhr,XM];exact Qa _
 .refine Ea (v:=()) (QiB _ ?_ (QhO a)) (Qa _);unfold sortN;rw[(Qo _ fs).length_eq];exact hl
theorem Qfc(fs:List Ue)(k:Int):(Qai fs k).length<=fs.length+1:=by
 unfold Qai;cases fs.any λx=>decide (x.number=k)<;>simp
theorem QeF(fs:List Ue)(k:Int)(g:Ue->Ue):(Qbq fs k g).length=fs.length:=by unfold Qbq;rw[X4]
theorem QoF{fs a:List Ue}{k i:Int}{f:Fact}(h:filesAdd fs k i f=some a):a.length=fs.length:=by
 unfold filesAdd at h;cases b:(i==0)<;>cases d:(i==1)<;>cases e:(i==2)<;>rw[b,d,e]at h<;>first|(cases h;done)|(cases h;rw[QeF])
theorem Ql6{fs b:List Ue}{f:Fact}(h:filesStep fs f=some b):b.length<=fs.length+1:=by
 unfold filesStep at h;cases g:(f.Kind==10)with
 |true=>
  rw[g,Vr]at h;cases a:QdU (Qai fs f.Ruling.Case)with
  |true=>rw[a,Vr]at h;rw[QoF h];exact Qfc _ _
  |false=>rw[a]at h;cases h
 |false=>
  rw[g,Vs]at h;cases a:(f.Kind==8)with
  |true=>
   rw[a,Vr]at h;cases d:QdU (Qai fs f.Report.Case)with
   |true=>rw[d,Vr]at h;cases h;rw[QeF];exact Qfc _ _
   |false=>rw[d]at h;cases h
  |false=>
   rw[a,Vs]at h;cases d:(f.Kind==11)with
   |true=>
    rw[d,Vr]at h;cases e:f.Appeal.Suspends with
    |true=>rw[e,Vr]at h;cases h;rw[QeF];exact Qfc _ _
    |false=>rw[e]at h;cases h;omega
   |false=>rw[d]at h;cases h;omega
theorem Qlk(C:List Fact)(p:∀f∈C,validS f=true)(hl:C.length<=1048576):∃fs,Ev (λn=>Go.Sw.iter (filesL n C) n (([]:List Ue),0)) fs/\FilesOf C fs/\fs.length<=C.length:=by
 have loop:∀(r:List Fact) (i:Nat) (s:List Ue),C.drop i=r->i<=C.length->FilesOf (C.take i) s->s.length<=i->∃fs,EvI (λn=>filesL n C) (s,(i:Int)) fs/\FilesOf C fs/\fs.length<=C.length:=by
  intro r
  induction r with
  |nil=>
   intro i s b k d j;refine⟨s,Ej ?_,?_,by omega⟩
   .unfold filesL;simp only[YL b k,Vs];exact Qa _
   .rw[VK (Xr.1 b)]at d;exact d
  |cons f r q=>
   intro i s b k d j;obtain⟨a,h⟩:=Q3 (by omega) b;have t:=a.lt';obtain⟨l,g,e⟩:=Qhl d (by rw[Xz];omega) (p f a.mem);rw[<- a.take]at e;obtain⟨fs,m,u⟩:=q (i+1) l h (by omega) e (by have:=Ql6 g;omega);refine⟨fs,Ew ?_ m,u⟩;unfold filesL;simp only[a.lt,Vr,a.ix,XM,g,a.nx];exact Qa _
 obtain⟨fs,g,e⟩:=loop C 0 [] rfl (XX _) FilesOf.nil (XW _);exact⟨fs,g.ev,e⟩
theorem Qfv:∀(p:List (Int×Ue)) (s:List Ue) (n:Nat),s.length+p.length<=1048576->QeM (F_fv n) (F_hu n) s p=some (s++p.map Prod.snd)
 |[],s,n,_=>by unfold QeM F_hu;simp
 |e::p,s,n,h=>by
  rw[X3]at h;have h1:F_fv n s e=some (.cont (s++[e.2])):=by
   unfold F_fv;rw[Qby _ _ (by omega)];rfl
  unfold QeM;rw[h1];show QeM _ _ (s++[e.2]) p=_;rw[Qfv p _ n (by simp;omega)];simp
theorem FilesOf.perm{C:List Fact}{fs gs:List Ue}(h:FilesOf C fs)(p:gs.Perm fs):FilesOf C gs:=
 ⟨(p.map _).nodup_iff.2 h.num,λx hx=>h.each x (p.mem_iff.1 hx),λk=>by rw[(p.map _).mem_iff];exact h.mem k⟩
theorem Qnb(l:List Fact)(hl:l.length<=100):∃fs,Ev (λn=>F_o n l) fs/\FilesOf (canonS l) fs/\fs.Pairwise ltN/\fs.length<=(canonS l).length:=by
 have k:∀f∈l.filter validS,validS f=true:=λf g=>(Xd.1 g).2;have e:canonS (l.filter validS)=canonS l:=QjO λf g=>by rw[Xd];simp[g]
 obtain⟨q,z⟩:=Qbm l;have m:=QfC l;obtain⟨fs,s,d,t⟩:=Qlk (canonS l) q.2 (by omega);refine⟨sortN fs,?_,d.perm (Qo _ fs),QhO d.num,by unfold sortN;rw[(Qo _ fs).length_eq];exact t⟩;unfold F_o;refine Ea (v:=l.filter validS) (Qkb l validS (by omega) (λi x a b r=>?_) λa=>?_) ?_
 .have u:=b.lt';unfold F_ht;simp only[b.lt,Vr,b.ix,XM,b.nx];refine Ea (QfY x) ?_;cases validS x with
  |true=>
   simp only[Vr];rw[Qby a x (by omega)];exact Qa _
  |false=>exact Qa _
 .unfold F_ht;simp only[Qbj,Vs];exact Qa _
 refine Ea (v:=canonS l) ((Qli _ k (XY (VP ..) (by omega))).eq e) ?_;refine Ea s ?_;refine Ev.anyP λp h=>?_;have y:p.length=fs.length:=by rw[h.length_eq];unfold Qej;rw[X4]
 have j:(p.map Prod.snd).Perm fs:=by
  have:=h.map Prod.snd;unfold Qej at this;rw[List.map_map]at this;have w:(fs.map (Prod.snd ∘ λx:Ue=>(x.number,x)))=fs:=by
   conv=>rhs;rw[<- List.map_id fs]
   rfl
  rw[w]at this;exact this
 simp only[Qfv p [] _ (by simp;omega),Vj,XM];refine Ea (QjA _ (by rw[X4];omega) ((j.map _).nodup_iff.2 d.num)) ?_;rw[Qk2 j d.num];exact Qa _
def numsC(C:List Fact):List Int:=QiH (YD ltI (C.filterMap caseN))
theorem Qh2(C:List Fact):(numsC C).Pairwise (· < ·)/\ ∀k,k∈numsC C↔ ∃f∈C,caseN f=some k:=by
 obtain⟨b,a⟩:=QjI (C.filterMap caseN);refine⟨b,λk=>?_⟩;unfold numsC;rw[a,List.mem_filterMap]
def filesS(C:List Fact):List Ue:=(numsC C).map (fileOf C)
theorem Qlh{C:List Fact}{fs:List Ue}(h:FilesOf C fs)(s:fs.Pairwise ltN):fs=filesS C:=by
 obtain⟨g,f⟩:=Qh2 C;have e:fs.map (·.number)=numsC C:=by
  refine Qf4 (lt:=λa b:Int=>a<b) (λa b h=>by omega) ?_ g λk=>?_
  .rw[List.pairwise_map];exact s
  .rw[h.mem k,f k]
 unfold filesS;rw[<- e,List.map_map];have:∀x∈fs,(fileOf C ∘ λx:Ue=>x.number) x=x:=λx d=>(h.each x d).symm
 conv=>lhs;rw[<- List.map_id fs]
 exact List.map_congr_left λx d=>(this x d).symm
theorem Qcc(l:List Fact)(hl:l.length<=100):Ev (λn=>F_o n l) (filesS (canonS l)):=by
 obtain⟨e,b,a,d,_⟩:=Qnb l hl;rw[<- Qlh a d];exact b
theorem Qjy(C:List Fact):(filesS C).length<=C.length:=by
 unfold filesS numsC;rw[X4];have d:∀(l:List Int) (p:Int),(QaR p l).length<=l.length:=by
  intro l
  induction l with
  |nil=>intro p;exact XW _
  |cons x r a=>
   intro p;unfold QaR;have:=a x;have:=a p;cases(x==p)<;>simp<;>omega
 have b:∀l:List Int,(QiH l).length<=l.length:=λl=>by
  cases l with
  |nil=>exact XW _
  |cons x r=>unfold QiH;simp only[X3];have:=d r x;omega
 refine XY (b _) ?_;rw[(Qo _ _).length_eq];exact List.length_filterMap_le ..
def suspF(x:Ue):Bool:=x.appeal&&(!x.r1.isEmpty&&x.r2.isEmpty)
def forceF(x:Ue):Option Ruling:=bif suspF x then none else((x.r2++x.r1).head?).map (·.Ruling)
theorem Qgs{C:List Fact}{k:Int}{f:Fact}(h:f∈(fileOf C k).r1\/f∈(fileOf C k).r2):f∈C/\f.Kind=10/\f.Ruling.Case=k:=by
 have one:∀i,f∈C.filter (rulB k i)->f∈C/\f.Kind=10/\f.Ruling.Case=k:=λi h=>by
  rw[Xd]at h;have q:=h.2;unfold rulB at q;simp only[XZ,VA]at q;exact⟨h.1,q.1,q.2.1⟩
 rcases h with h|h
 .exact one _ h
 .exact one _ h
theorem Qjw{C:List Fact}{k:Int}{g:Ruling}(h:forceF (fileOf C k)=some g):g.Case=k:=by
 unfold forceF at h;cases q:suspF (fileOf C k)with
 |true=>rw[q]at h;cases h
 |false=>
  rw[q,Vs,Option.map_eq_some_iff]at h;obtain⟨f,b,a⟩:=h;have d:=List.mem_of_head? b;rw[<- a];exact(Qgs ((VF.1 d).symm)).2.2
def keyF(x:Ue):Int×Option Ruling×List Report:=(x.number,forceF x,x.reports)
section
variable {α β:Type}
theorem Qfd(f:α->Option β):∀(l:List α) (a:List β),l.foldl (λa x=>a++(f x).toList) a=a++l.filterMap f
 |[],a=>by simp
 |x::l,a=>by
  rw[XG,Qfd f l,List.filterMap_cons];cases f x<;>simp
theorem QnW{step:Nat->List β×Int->Option (Ctl (List β×Int) (List β))}(l:List α)(f:α->Option β)(hl:l.length<=1048576)
  (d:∀i x a,At l i x->a.length<=i->Ev (λn=>step n (a,(i:Int))) (.cont (a++(f x).toList,((i+1:Nat):Int))))
  (h:∀a,Ev (λn=>step n (a,(l.length:Int))) (.done a)):Ev (λn=>Go.Sw.iter (step n) n ([],0)) (l.filterMap f):=by
 have e:l.filterMap f=l.foldl (λa x=>a++(f x).toList) []:=by rw[Qfd];rfl
 rw[e];refine Yt l (λa x=>a++(f x).toList) [] (λa i=>(a,(i:Int))) (λa=>a) (by omega) rfl (λi x a b g=>d i x a b ?_) (h _);rw[g,Qfd,Vj];exact XY (List.length_filterMap_le ..) (by rw[Xz];omega)
theorem Qca(l:List α):decide (0<(l.length:Int))= !l.isEmpty:=by
 cases l with
 |nil=>rfl
 |cons a l=>exact Ys (by simp only[X3];omega)
theorem QmO(l:List α):((l.length:Int)==0)=l.isEmpty:=by
 cases l with
 |nil=>rfl
 |cons a l=>
  show _=false;simp only[X3,VB,ne_eq];omega
end
theorem Qnu(c:Course)(a:Course.wf c):∃b,Ev (λn=>F_aj n c) b/\(b=true->FewOk c/\Ev (λn=>F_r n c) (courseE c)):=by
 have w:=Qi4 a;have q:=QjY a;obtain⟨e,f⟩:=Qoa a;obtain⟨b,g,fb⟩:=Qhs c w q e f;exact⟨b,g,λd=>⟨fb d,Qlm c w q (fb d) e f⟩⟩
abbrev KeyT:=Int×Option Ruling×List Report
def keysOf(l:List Fact):List KeyT:=(filesS (canonS l)).map keyF
structure KeysOk (K:List KeyT):Prop where
 inc:(K.map (·.1)).Pairwise (· < ·)
 rul:∀x∈K,∀g,x.2.1=some g->g.Case=x.1
 rep:∀x∈K,∀r,x.2.2.head? =some r->r.Case=x.1
theorem QcY(l:List Fact):KeysOk (keysOf l):=by
 have a:∀x∈keysOf l,∃k,x=keyF (fileOf (canonS l) k):=λx a=>by
  unfold keysOf filesS at a;rw[List.map_map]at a;obtain⟨k,_,rfl⟩:=Xe.1 a;exact⟨k,rfl⟩
 refine⟨?_,λx h g d=>?_,λx h r b=>?_⟩
 .unfold keysOf filesS;rw[List.map_map,List.map_map];have:(((λx:KeyT=>x.1) ∘ keyF) ∘ fileOf (canonS l))=λk=>k:=rfl;rw[this,List.map_id'];exact(Qh2 _).1
 .obtain⟨k,rfl⟩:=a x h;exact Qjw d
 .obtain⟨k,rfl⟩:=a x h;have i:=List.mem_of_head? b;obtain⟨f,e,rfl⟩:=Xe.1 (show r∈((canonS l).filter (repB k)).map (·.Report)from i);have:=(Xd.1 e).2;unfold repB at this;rw[XZ,VA,VA]at this;exact this.2
theorem QaO(l:List Fact):(keysOf l).length<=l.length:=by
 unfold keysOf;rw[X4];exact XY (Qjy _) (QfC l)
theorem Qfw(l:List Fact)(hl:l.length<=100):Ev (λn=>F_ac n l) ((keysOf l).filterMap λx=>x.2.2.head?):=by
 unfold F_ac;refine Ea (Qcc l hl) ?_;have e:(keysOf l).filterMap (λx=>x.2.2.head?)=(filesS (canonS l)).filterMap λx=>x.reports.head? :=by
  unfold keysOf;rw[List.filterMap_map];rfl
 have g:(filesS (canonS l)).length<=100:=by have:=QaO l;unfold keysOf at this;rw[X4]at this;omega
 rw[e];generalize filesS (canonS l)=fs at g;refine Ea (QnW fs (λx=>x.reports.head?) (by omega) (λi x a b j=>?_) λa=>?_) (Qa _)
 .unfold F_hy;simp only[b.lt,Vr,b.ix,XM,b.nx,Qca];have:=b.lt';cases h:x.reports with
  |nil=>exact(Qa _).eq (by simp)
  |cons r d=>
   have f:idx (r::d) 0=some r:=rfl;simp only[List.isEmpty_cons,Xh,Vr,f,XM];rw[Qda _ _ (by simp;omega)];exact Qa _
 .unfold F_hy;simp only[Qbj,Vs];exact Qa _
theorem Qiz(x:Ue):Ev (λn=>F_x n x) (match forceF x with|some g=>(g,true)|none=>(Ux,false)):=by
 have d:idx ([x.r0,x.r1,x.r2]:List (List Fact)) 1=some x.r1:=rfl;have b:idx ([x.r0,x.r1,x.r2]:List (List Fact)) 2=some x.r2:=rfl;unfold F_x;refine Ea (v:=suspF x) ?_ ?_
 .unfold F_dl;simp only[d,b,XM,Qca,QmO];refine Ea (v:=suspF x) ?_ (Qa _);unfold suspF;cases x.appeal<;>cases x.r1.isEmpty<;>exact Qa _
 unfold forceF;cases m:suspF x with
 |true=>exact Qa _
 |false=>
  simp only[Vs];have i:decide ((0:Int)<2)=true:=rfl;have e:decide ((0:Int)<1)=true:=rfl;have l:decide ((0:Int)<0)=false:=rfl;have w1:IntKind.i64.wrap (2-1)=1:=rfl;have k:IntKind.i64.wrap (1-1)=0:=rfl;refine Ea (v:=match(x.r2++x.r1).head? with|some f=>Ctl.done (f.Ruling,true)|none=>Ctl.cont ()) (EvI.ev ?_) ?_
  .cases h:x.r2 with
   |cons f r=>
    refine Ej ?_;have a:idx (f::r) 0=some f:=rfl;unfold F_at;simp only[i,Vr,b,XM,Qca,h,List.isEmpty_cons,Xh,a];exact Qa _
   |nil=>
    refine Ew (s':=1) ?_ ?_
    .unfold F_at;simp only[i,Vr,b,XM,Qca,h,List.isEmpty_nil,Xg,Vs,w1];exact Qa _
    rw[Vj];cases j:x.r1 with
    |cons f r=>
     refine Ej ?_;have a:idx (f::r) 0=some f:=rfl;unfold F_at;simp only[e,Vr,d,XM,Qca,j,List.isEmpty_cons,Xh,a];exact Qa _
    |nil=>
     refine Ew (s':=0) ?_ (Ej ?_)
     .unfold F_at;simp only[e,Vr,d,XM,Qca,j,List.isEmpty_nil,Xg,Vs,k];exact Qa _
     .unfold F_at;simp only[l,Vs];exact Qa _
  .cases(x.r2++x.r1).head? <;>exact Qa _
theorem QpW(l:List Fact)(hl:l.length<=100):Ev (λn=>F_bh n l) ((keysOf l).filterMap λx=>x.2.1):=by
 unfold F_bh;refine Ea (Qcc l hl) ?_;have e:(keysOf l).filterMap (λx=>x.2.1)=(filesS (canonS l)).filterMap forceF:=by
  unfold keysOf;rw[List.filterMap_map];rfl
 have d:(filesS (canonS l)).length<=100:=by have:=QaO l;unfold keysOf at this;rw[X4]at this;omega
 rw[e];generalize filesS (canonS l)=fs at d;refine Ea (QnW fs forceF (by omega) (λi x a b f=>?_) λa=>?_) (Qa _)
 .unfold F_ho;simp only[b.lt,Vr,b.ix,XM,b.nx];have:=b.lt';refine Ea (Qiz x) ?_;cases h:forceF x with
  |none=>exact(Qa _).eq (by simp)
  |some g=>
   simp only[Vr];rw[Qda _ _ (by simp;omega)];exact Qa _
 .unfold F_ho;simp only[Qbj,Vs];exact Qa _
section
variable {S T B:Type} {step:Nat->S->Option (List T×Ctl S B)} {s s':S} {b:B} {xs ys:List T}
def EvL(step:Nat->S->Option (List T×Ctl S B))(s:S)(ys:List T)(b:B):Prop:=∃N,∀n k,N<=n->N<=k->QbV (step n) k s=some (ys,b)
theorem EvL.done(h:Ev (λn=>step n s) (ys,.done b)):EvL step s ys b:=by
 obtain⟨N,h⟩:=h;refine⟨N+1,λn k d f=>?_⟩;obtain⟨a,rfl⟩:∃a,k=a+1:=⟨k-1,by omega⟩;have e:step n s=some (ys,.done b):=h n (by omega);unfold QbV;rw[e];rfl
theorem EvL.cont(h:Ev (λn=>step n s) (xs,.cont s'))(q:EvL step s' ys b):EvL step s (xs++ys) b:=by
 obtain⟨N,h⟩:=h;obtain⟨M,q⟩:=q;refine⟨max N M+1,λn k d f=>?_⟩;obtain⟨a,rfl⟩:∃a,k=a+1:=⟨k-1,by omega⟩;have e:step n s=some (xs,.cont s'):=h n (by omega);unfold QbV;rw[e];show(QbV (step n) a s').bind _=_;rw[q n a (by omega) (by omega)];rfl
theorem EvL.ev(h:EvL step s ys b):Ev (λn=>QbV (step n) n s) (ys,b):=by
 obtain⟨N,h⟩:=h;exact⟨N,λn a=>h n n a a⟩
end
def viaR(c:Course)(k:Int):Option Report->Option Ud
 |none=>none
 |some r=>bif decide (r.Offence<0)||decide ((c.Offences.length:Int)<=r.Offence)then none else
  (idx c.Offences r.Offence).map λo=>{number:=k,bib:=r.Bib,penalty:={Position:=r.Position,Time:=o.Time,Laps:=o.Laps,Out:=o.Out}}
def rulP(k:Int)(g:Ruling):Option Ud:=
 bif g.Kind==5 then some {number:=k,bib:=g.Bib,penalty:={Position:=g.Position,Time:=0,Laps:=0,Out:=true}}else
 bif g.Kind==4 then some {number:=k,bib:=g.Bib,penalty:={Position:=g.Position,Time:=0,Laps:=g.Amount,Out:=false}}else
 bif g.Kind==3 then some {number:=k,bib:=g.Bib,penalty:={Position:=g.Position,Time:=g.Amount,Laps:=0,Out:=false}}else none
def givenK(c:Course)(x:KeyT):Option Ud:=
 match x.2.1 with
 |some g=>bif (g.Kind==5)||((g.Kind==4)||(g.Kind==3))then rulP x.1 g else bif g.Kind==2 then none else viaR c x.1 x.2.2.head?
 |none=>viaR c x.1 x.2.2.head?
def lookK(K:List KeyT)(k:Int):Option KeyT:=K.find? λx=>x.1==k
theorem Qe3(x:KeyT)(K:List KeyT)(k:Int):lookK (x::K) k=if x.1=k then some x else lookK K k:=by
 unfold lookK;rw[List.find?_cons];by_cases h:x.1=k
 .rw[Vv h,h,beq_self_eq_true]
 .rw[Vu h,show(x.1==k)=false from VB.2 h]
theorem QcB{K:List KeyT}{k:Int}(h:k∉K.map (·.1)):lookK K k=none:=by
 refine List.find?_eq_none.2 λx a q=>h ?_;rw[VA]at q;exact Xe.2 ⟨x,a,q⟩
theorem QcX:∀{K:List KeyT},(K.map (·.1)).Nodup->∀{x:KeyT},x∈K->lookK K x.1=some x
 |[],_,x,h=>by cases h
 |y::K,hn,x,h=>by
  rw[Vl,List.nodup_cons]at hn;rw[Qe3];rcases X8.1 h with rfl|h
  .rw[Vv rfl]
  .rw[Vu λq=>hn.1 (by rw[q];exact Xe.2 ⟨x,h,rfl⟩)];exact QcX hn.2 h
theorem Qc1{β:Type}(key:β->Int)(f:KeyT->Option β):∀(K:List KeyT) (m:List (Int×β)),(K.map (·.1)).Nodup->(∀x∈K,∀y,f x=some y->key y=x.1)->∀k,
  YA ((K.filterMap f).foldl (λm y=>QJ m (key y) y) m) k=match(lookK K k).bind f with|some v=>some v|none=>YA m k
 |[],m,_,_,k=>rfl
 |x::K,m,hn,hk,k=>by
  rw[Vl,List.nodup_cons]at hn;have hk':∀x∈K,∀y,f x=some y->key y=x.1:=λz hz=>hk z (by simp[hz]);rw[List.filterMap_cons,Qe3];cases hf:f x with
  |none=>
   simp only;rw[Qc1 key f K m hn.2 hk' k];by_cases e:x.1=k
   .rw[Vv e,QcB (by rw[<- e];exact hn.1)];simp[hf]
   .rw[Vu e]
  |some y=>
   simp only[XG];rw[Qc1 key f K _ hn.2 hk' k];have hy:=hk x (by simp) y hf;by_cases e:x.1=k
   .rw[Vv e,QcB (by rw[<- e];exact hn.1)];simp only[Option.bind_none,XM,hf];rw[YX,Vv (by rw[hy,e])]
   .rw[Vu e];cases(lookK K k).bind f with
    |some v=>rfl
    |none=>
     simp only;rw[YX,Vu (by rw[hy];exact λq=>e q.symm)]
theorem QdD{β:Type}(a:β->Int):∀(L:List β) (m:List (Int×Bool)),(m.map Prod.fst).Nodup->(((L.foldl (λm y=>QJ m (a y) true) m).map Prod.fst).Nodup/\(L.foldl (λm y=>QJ m (a y) true) m).length<=m.length+L.length/\ ∀k,k∈(L.foldl (λm y=>QJ m (a y) true) m).map Prod.fst↔k∈m.map Prod.fst\/k∈L.map a)
 |[],m,h=>⟨h,by simp,λk=>by simp⟩
 |y::L,m,h=>by
  rw[XG];obtain⟨i1,i2,i3⟩:=QdD a L (QJ m (a y) true) (Qjo _ _ h);refine⟨i1,?_,λk=>?_⟩
  .have:=QmK m (a y) true;simp only[X3];omega
  .rw[i3,Vl,X8];have:k∈(QJ m (a y) true).map Prod.fst↔k=a y\/k∈m.map Prod.fst:=by
    rw[Qh5,Qh5];constructor
    .rintro⟨v,b⟩;rw[YX]at b;by_cases z:k=a y
     .exact .inl z
     .rw[Vu z]at b;exact .inr ⟨v,b⟩
    .rintro(z|⟨v,b⟩)
     .exact⟨true,by rw[YX,Vv z]⟩
     .by_cases z:k=a y
      .exact⟨true,by rw[YX,Vv z]⟩
      .exact⟨v,by rw[YX,Vu z];exact b⟩
   rw[this];constructor
   .rintro((h|h)|h)
    .exact .inr (.inl h)
    .exact .inl h
    .exact .inr (.inr h)
   .rintro(h|h|h)
    .exact .inl (.inr h)
    .exact .inl (.inl h)
    .exact .inr h
def effM:List (Int×Uc):=QJ (QJ (QJ [] 3 ⟨143⟩) 4 ⟨144⟩) 5 ⟨145⟩
theorem Qnl(k:Int):YA effM k=if k=5 then some ⟨145⟩else if k=4 then some ⟨144⟩else if k=3 then some ⟨143⟩else none:=by
 unfold effM;rw[YX,YX,YX];rfl
theorem Qla{β:Type}(m:List (Int×β))(k:Int)(z:β):QW m k z=(YA m k).getD z:=rfl
section
variable {c:Course} {K:List KeyT} {m1:List (Int×Report)×List (Int×Bool)} {m2:List (Int×Ruling)×List (Int×Bool)} {S:List Int}
theorem Qna(B:∀k,YA m1.1 k=(lookK K k).bind λx=>x.2.2.head?)(u:∀k,YA m2.1 k=(lookK K k).bind λx=>x.2.1){i:Nat}{x:KeyT}(q:At S i x.1)(w:lookK K x.1=some x):
  Ev (λn=>F_eu n c m1 m2 effM S (i:Int)) ((givenK c x).toList,.cont ((i+1:Nat):Int)):=by
 unfold F_eu;simp only[q.lt,Vr,q.ix,XM,q.nx,Qla,Qh4,B,u,w,Qnl];have h:∀(r:Option Report),Ev (λn=>((bif (!r.isSome)then some true else(bif decide ((r.getD Uw).Offence<0)then some true else some (decide ((c.Offences.length:Int)<=(r.getD Uw).Offence)))):Option Bool).bind λj=>(bif j then some ([],.cont ((i+1:Nat):Int))else(idx c.Offences (r.getD Uw).Offence).bind λd=>yl ({number:=x.1,bib:=(r.getD Uw).Bib,penalty:={Position:=(r.getD Uw).Position,Time:=d.Time,Laps:=d.Laps,Out:=d.Out:Penalty}:Ud}) (some ([],.cont ((i+1:Nat):Int)))))
   (((viaR c x.1 r).toList,.cont ((i+1:Nat):Int)):(List Ud)×Ctl Int Unit):=by
  intro r;cases r with
  |none=>exact Qa _
  |some r=>
   simp only[Option.isSome_some,Xg,Vs,Option.getD_some,viaR];cases E:decide (r.Offence<0)with
   |true=>exact Qa _
   |false=>
    cases z:decide ((c.Offences.length:Int)<=r.Offence)with
    |true=>exact Qa _
    |false=>
     simp only[Vs,XM,Bool.or_self];have a:=Vy E;have b:=Vy z;have:idx c.Offences r.Offence=some (c.Offences[r.Offence.toNat]'(by omega)):=by
      unfold idx;rw[Ys (by omega),Vr,XN]
     rw[this];exact Qa _
 cases f:x.2.1 with
 |none=>
  have e:givenK c x=viaR c x.1 x.2.2.head? :=by unfold givenK;rw[f]
  rw[e];have t:¬Ux.Kind=5:=by decide
  have s:¬Ux.Kind=4:=by decide
  have y:¬Ux.Kind=3:=by decide
  simp only[f,Option.getD_none,Option.isSome_none,Vu t,Vu s,Vu y,Qe2,XM,Vs];exact h _
 |some g=>
  simp only[XM,Option.isSome_some,Vr,f,Option.getD_some];by_cases m:g.Kind=5
  .have e:givenK c x=some {number:=x.1,bib:=g.Bib,penalty:={Position:=g.Position,Time:=0,Laps:=0,Out:=true}}:=by unfold givenK rulP;rw[f];simp[m]
   rw[e];simp only[m,if_true,Qe2,XM,Vr];exact Qa _
  by_cases l:g.Kind=4
  .have e:givenK c x=some {number:=x.1,bib:=g.Bib,penalty:={Position:=g.Position,Time:=0,Laps:=g.Amount,Out:=false}}:=by unfold givenK rulP;rw[f];simp[l]
   rw[e];simp only[l,if_true,Qe2,XM,Vr];exact Qa _
  by_cases p:g.Kind=3
  .have e:givenK c x=some {number:=x.1,bib:=g.Bib,penalty:={Position:=g.Position,Time:=g.Amount,Laps:=0,Out:=false}}:=by unfold givenK rulP;rw[f];simp[p]
   rw[e];simp only[p,if_true,Qe2,XM,Vr];exact Qa _
  simp only[Vu m,Vu l,Vu p,Qe2,XM];have e:givenK c x=bif g.Kind==2 then none else viaR c x.1 x.2.2.head? :=by
   unfold givenK;rw[f];simp only[VB.2 m,VB.2 l,VB.2 p,Bool.or_self,Vs]
  rw[e];cases(g.Kind==2)with
  |true=>exact Qa _
  |false=>
   simp only[Vs];exact h _
theorem QkI(b:∀k,YA m1.1 k=(lookK K k).bind λx=>x.2.2.head?)(a:∀k,YA m2.1 k=(lookK K k).bind λx=>x.2.1)(d:S.length<=1000):∀(r:List KeyT) (i:Nat),S.drop i=r.map (·.1)->i<=S.length->(∀x∈r,lookK K x.1=some x)->
  EvL (λn=>F_eu n c m1 m2 effM S) (i:Int) (r.filterMap (givenK c)) ()
 |[],i,hd,hi,_=>by
  refine EvL.done ?_;unfold F_eu;simp only[YL hd hi,Vs];exact Qa _
 |x::r,i,hd,hi,hx=>by
  rw[Vl]at hd;obtain⟨ha,hd'⟩:=Q3 (by omega) hd;have hlt:=ha.lt';have e:(x::r).filterMap (givenK c)=(givenK c x).toList++r.filterMap (givenK c):=by
   rw[List.filterMap_cons];cases givenK c x<;>rfl
  rw[e];exact EvL.cont (Qna b a ha (hx x (by simp))) (QkI b a d r (i+1) hd' (by omega) λy f=>hx y (by simp[f]))
end
theorem QdE{l:List Int}(h:l.Pairwise (· < ·)):l.Nodup:=h.imp λh=>by omega
theorem Qle{l:List Int}(h:l.Nodup):(YD ltI l).Pairwise (· < ·):=by
 have nd:(YD ltI l).Nodup:=(Qo _ _).nodup_iff.2 h;refine(List.Pairwise.and (QR (QcW l)) nd).imp λ{a b} q=>?_;have:=q.1;simp[ltI]at this;have:=q.2;omega
theorem QpV(c:Course)(l:List Fact)(hl:l.length<=100):Ev (λn=>F_ch n l c) ((keysOf l).filterMap (givenK c),()):=by
 have ok:=QcY l;have nd:=QdE ok.inc;have T:=QaO l;unfold F_ch;refine Ea (Qfw l hl) ?_;have L:((keysOf l).filterMap λx=>x.2.2.head?).length<=100:=XY (List.length_filterMap_le ..) (by omega);have O:((keysOf l).filterMap λx=>x.2.1).length<=100:=XY (List.length_filterMap_le ..) (by omega);have J:=Qc1 (λr:Report=>r.Case) (λx:KeyT=>x.2.2.head?) (keysOf l) [] nd ok.rep;have P:=Qc1 (λg:Ruling=>g.Case) (λx:KeyT=>x.2.1) (keysOf l) [] nd ok.rul;obtain⟨z,E,w⟩:=QdD (λr:Report=>r.Case) ((keysOf l).filterMap λx=>x.2.2.head?) [] (by simp);refine Ea (v:=(((keysOf l).filterMap λx=>x.2.2.head?).foldl (λm y=>QJ m y.Case y) [],((keysOf l).filterMap λx=>x.2.2.head?).foldl (λm y=>QJ m y.Case true) [])) ?_ ?_
 .generalize((keysOf l).filterMap λx=>x.2.2.head?)=R at L;have e:∀(R:List Report) (a:List (Int×Report)) (b:List (Int×Bool)),R.foldl (λ(m:List (Int×Report)×List (Int×Bool)) y=>(QJ m.1 y.Case y,QJ m.2 y.Case true)) (a,b)=(R.foldl (λm y=>QJ m y.Case y) a,R.foldl (λm y=>QJ m y.Case true) b):=by
   intro R
   induction R with
   |nil=>intro a b;rfl
   |cons y R ih=>intro a b;rw[XG,ih];rfl
  rw[<- e];refine Yt R (λ(m:List (Int×Report)×List (Int×Bool)) y=>(QJ m.1 y.Case y,QJ m.2 y.Case true)) ([],[]) (λm i=>(m.1,m.2,(i:Int))) (λm=>m) (by omega) rfl (λi x m ha _=>?_) ?_
  .unfold F_hq;simp only[ha.lt,Vr,ha.ix,XM,ha.nx];exact Qa _
  .unfold F_hq;simp only[Qbj,Vs];exact Qa _
 refine Ea (QpW l hl) ?_;simp only;generalize hb:((keysOf l).filterMap λx=>x.2.2.head?).foldl (λm y=>QJ m y.Case true) []=b0 at z E w;obtain⟨B,N,G⟩:=QdD (λg:Ruling=>g.Case) ((keysOf l).filterMap λx=>x.2.1) b0 z;refine Ea (v:=(((keysOf l).filterMap λx=>x.2.1).foldl (λm y=>QJ m y.Case y) [],((keysOf l).filterMap λx=>x.2.1).foldl (λm y=>QJ m y.Case true) b0)) ?_ ?_
 .generalize((keysOf l).filterMap λx=>x.2.1)=R at O;have e:∀(R:List Ruling) (a:List (Int×Ruling)) (b:List (Int×Bool)),R.foldl (λ(m:List (Int×Ruling)×List (Int×Bool)) y=>(QJ m.1 y.Case y,QJ m.2 y.Case true)) (a,b)=(R.foldl (λm y=>QJ m y.Case y) a,R.foldl (λm y=>QJ m y.Case true) b):=by
   intro R
   induction R with
   |nil=>intro a b;rfl
   |cons y R ih=>intro a b;rw[XG,ih];rfl
  rw[<- e];refine Yt R (λ(m:List (Int×Ruling)×List (Int×Bool)) y=>(QJ m.1 y.Case y,QJ m.2 y.Case true)) ([],b0) (λm i=>(m.1,m.2,(i:Int))) (λm=>m) (by omega) rfl (λi x m ha _=>?_) ?_
  .unfold F_hs;simp only[ha.lt,Vr,ha.ix,XM,ha.nx];exact Qa _
  .unfold F_hs;simp only[Qbj,Vs];exact Qa _
 simp only;generalize hc:((keysOf l).filterMap λx=>x.2.1).foldl (λm y=>QJ m y.Case true) b0=b1 at B N G;refine Ea (v:=effM) (Qa _) ?_;unfold F_ft;simp only[XM];have Q:b1.length<=200:=by simp only[List.length_nil]at E;omega
 refine Ea (v:=YD ltI (b1.map Prod.fst)) ⟨0,λn _=>?_⟩ ?_
 .unfold F_fu QnB;have t:(List.map Prod.fst b1).length<=1048576:=by rw[X4];omega
  rw[Qes t,Vr];refine QkN λp F=>?_;unfold sortI;rw[Qes (by rw[F.length_eq];exact t)];show some (YD ltI p)=_;rw[Qld F]
 have e:YD ltI (b1.map Prod.fst)=((keysOf l).filter λx=>x.2.1.isSome||x.2.2.head?.isSome).map (·.1):=by
  refine Qf4 (lt:=λa b:Int=>a<b) (λa b h=>by omega) (Qle B) ?_ λk=>?_
  .exact ok.inc.sublist ((List.filter_sublist).map _)
  .rw[(Qo _ _).mem_iff,G,w];simp only[Vm,List.not_mem_nil,false_or,Xe,List.mem_filterMap,Xd,Bool.or_eq_true];constructor
   .rintro(⟨r,⟨x,d,j⟩,rfl⟩|⟨g,⟨x,d,s⟩,rfl⟩)
    .exact⟨x,⟨d,.inr (by rw[j];rfl)⟩,(ok.rep x d r j).symm⟩
    .exact⟨x,⟨d,.inl (by rw[s];rfl)⟩,(ok.rul x d g s).symm⟩
   .rintro⟨x,⟨d,h|h⟩,rfl⟩
    .obtain⟨g,s⟩:=Option.isSome_iff_exists.1 h;exact .inr ⟨g,⟨x,d,s⟩,ok.rul x d g s⟩
    .obtain⟨r,j⟩:=Option.isSome_iff_exists.1 h;exact .inl ⟨r,⟨x,d,j⟩,ok.rep x d r j⟩
 have H:(YD ltI (b1.map Prod.fst)).length<=1000:=by rw[(Qo _ _).length_eq,X4];omega
 have u:=QkI (c:=c) (K:=keysOf l) (m1:=(((keysOf l).filterMap λx=>x.2.2.head?).foldl (λm y=>QJ m y.Case y) [],b0)) (m2:=(((keysOf l).filterMap λx=>x.2.1).foldl (λm y=>QJ m y.Case y) [],b1)) (S:=YD ltI (b1.map Prod.fst))
  (λk=>by rw[J k];cases(lookK (keysOf l) k).bind λx=>x.2.2.head? <;>rfl) (λk=>by rw[P k];cases(lookK (keysOf l) k).bind λx=>x.2.1<;>rfl) H
  ((keysOf l).filter λx=>x.2.1.isSome||x.2.2.head?.isSome) 0 (by rw[List.drop_zero];exact e) (XX _) (λx d=>QcX nd (Xd.1 d).1)
 have M:((keysOf l).filter λx=>x.2.1.isSome||x.2.2.head?.isSome).filterMap (givenK c)=(keysOf l).filterMap (givenK c):=by
  rw[List.filterMap_filter];refine congrArg (λf=>(keysOf l).filterMap f) (funext λx=>?_);by_cases q:(x.2.1.isSome||x.2.2.head?.isSome)=true
  .rw[Vv q]
  .rw[Vu q];rw[Bool.not_eq_true,Bool.or_eq_false_iff,Option.isSome_eq_false_iff,Option.isSome_eq_false_iff,Option.isNone_iff_eq_none,Option.isNone_iff_eq_none]at q;unfold givenK;rw[q.1,q.2];rfl
 rw[M]at u;unfold ap;refine Ea u.ev ((Qa _).eq ?_);simp
def casesOf(c:Course)(l:List Fact)(b:Int):List Ud:=((keysOf l).filterMap (givenK c)).filter λx=>x.bib==b
def casesF(e:Int)(c:Course)(l:List Fact)(b:Int):List Int×List Penalty:=bif e != 0 then([],[])else((casesOf c l b).map (·.number),(casesOf c l b).map (·.penalty))
theorem QdF(b:Int)(n:Nat):∀(a:List Ud) (s:List Int×List Penalty),s.1.length+a.length<=1000->s.2.length+a.length<=1000->Qg2 (F_gx n b) a s=some (.cont (s.1++(a.filter λx=>x.bib==b).map (·.number),s.2++(a.filter λx=>x.bib==b).map (·.penalty)))
 |[],s,_,_=>by simp[Qg2]
 |y::a,s,h1,h2=>by
  simp only[X3]at h1 h2;unfold Qg2;have e:F_gx n b s y=some (.cont (bif y.bib==b then(s.1++[y.number],s.2++[y.penalty])else s)):=by
   unfold F_gx;cases(y.bib==b)with
   |false=>rfl
   |true=>
    simp only[Vr];rw[Qda _ _ (by simp;omega)];simp only[XM];rw[Qda _ _ (by simp;omega)];rfl
  rw[e];show Qg2 _ a _=_;rw[List.filter_cons];cases(y.bib==b)with
  |false=>exact QdF b n a s (by omega) (by omega)
  |true=>
   simp only[Vr,if_true];rw[QdF b n a _ (by simp;omega) (by simp;omega)];simp
theorem Qng(e:Int)(c:Course)(l:List Fact)(b:Int)(hl:l.length<=100)(he:Ev (λn=>F_r n c) e):Ev (λn=>F_m n c l b) (casesF e c l b):=by
 unfold F_m casesF F_dq;refine Ea he ?_;cases(e != 0)with
 |true=>exact Qa _
 |false=>
  simp only[Vs,XM];refine Ea (QpV c l hl) ?_;have a:((keysOf l).filterMap (givenK c)).length<=100:=XY (List.length_filterMap_le ..) (by have:=QaO l;omega);unfold casesOf;generalize(keysOf l).filterMap (givenK c)=ys at a;have:=λn=>QdF b n ys ([],[]) (by simp;omega) (by simp;omega);simp only[Vj]at this;simp only[this,XM];exact Qa _
set_option maxRecDepth 100000
theorem Qpf:F_fk 300=some true:=by kernel_rfl
theorem Qnc{c:Course}{b:Bool}(l:List Fact)(a:Ev (λn=>F_aj n c) b):Ev (λn=>F_by n c l) (b&&decide ((l.length:Int)<=14)):=by
 unfold F_by;refine Ea (v:=b&&decide ((l.length:Int)<=14)) (Ea a (Ei λ_=>Qa _)) (Qa _)
theorem QjN(e:Int)(c:Course)(l:List Fact)(b:Int):(casesF e c l b).1.length<=l.length/\(casesF e c l b).2.length<=l.length:=by
 unfold casesF casesOf;cases(e != 0)with
 |true=>exact⟨XX _,XX _⟩
 |false=>
  simp only[Vs,X4];have d:=VP (λx:Ud=>x.bib==b) ((keysOf l).filterMap (givenK c));have a:=List.length_filterMap_le (givenK c) (keysOf l);have f:=QaO l;omega
theorem QlX{α:Type}{step:Nat->Int->Option (Ctl Int (Ctl Unit Int))}(l:List α)(q:α->Bool)(hl:l.length<=1048576)
  (s:∀i x,At l i x->Ev (λn=>step n (i:Int)) (bif q x then .done (.done (i:Int))else .cont ((i+1:Nat):Int)))(z:Ev (λn=>step n (l.length:Int)) (.done (.cont ()))):
  (∃i x,At l i x/\q x=true/\Ev (λn=>Go.Sw.iter (step n) n 0) (.done (i:Int)))\/(∀x∈l,q x=false)/\Ev (λn=>Go.Sw.iter (step n) n 0) (.cont ()):=by
 have k:∀(r:List α) (i:Nat),l.drop i=r->i<=l.length->(∃j x,At l j x/\q x=true/\EvI step (i:Int) (.done (j:Int)))\/(∀x∈r,q x=false)/\EvI step (i:Int) (.cont ()):=by
  intro r
  induction r with
  |nil=>
   intro i f t;have:i=l.length:=by have:=Xr.1 f;omega
   subst this;exact .inr ⟨(λ_ h=>by cases h),Ej z⟩
  |cons x r u=>
   intro i f t;obtain⟨m,p⟩:=Q3 (by omega) f;have w:=m.lt';have h:=s i x m;cases e:q x with
   |true=>rw[e]at h;exact .inl ⟨i,x,m,e,Ej h⟩
   |false=>
    rw[e]at h;rcases u (i+1) p (by omega)with⟨j,y,a,b,d⟩|⟨a,b⟩
    .exact .inl ⟨j,y,a,b,Ew h d⟩
    .refine .inr ⟨λy g=>?_,Ew h b⟩;rcases X8.1 g with rfl|g
     .exact e
     .exact a y g
 rcases k l 0 (by simp) (XX _)with⟨j,x,a,b,d⟩|⟨a,b⟩
 .exact .inl ⟨j,x,a,b,d.ev⟩
 .exact .inr ⟨a,b.ev⟩
def inForce(l:List Fact)(k:Int):Option Ruling:=(lookK (keysOf l) k).bind λx=>x.2.1
theorem QiE(l:List Fact)(k:Int)(hl:l.length<=100):Ev (λn=>F_bn n l k) (match inForce l k with|some g=>(g,true)|none=>(Ux,false)):=by
 unfold F_bn F_ek;have r:(filesS (canonS l)).length<=100:=by have:=QaO l;unfold keysOf at this;rw[X4]at this;omega
 have nd:=QdE (QcY l).inc;have fin:∀x,forceF x=inForce l k->Ev (λn=>((F_o n l).bind λr1=>(F_ai n r1 k).bind λr2=>bif decide (0<=r2)then(idx r1 r2).bind λd=>some d else some {number:=k,r0:=[],r1:=[],r2:=[],reports:=[],appeal:=false})) x->
   Ev (λn=>(((F_o n l).bind λr1=>(F_ai n r1 k).bind λr2=>bif decide (0<=r2)then(idx r1 r2).bind λd=>some d else some {number:=k,r0:=[],r1:=[],r2:=[],reports:=[],appeal:=false})).bind λr1=>(F_x n r1).bind λr2=>some (r2.1,r2.2)) (match inForce l k with|some g=>(g,true)|none=>(Ux,false)):=by
  intro x b h;refine Ea h (Ea (Qiz x) ?_);rw[b];cases inForce l k<;>exact Qa _
 have m:=QlX (step:=λn=>F_gs n (filesS (canonS l)) k) (filesS (canonS l)) (λx=>x.number==k) (by omega) (λi x a=>by
   unfold F_gs;simp only[a.lt,Vr,a.ix,XM,a.nx];unfold F_fs;simp only[XM];cases(x.number==k)<;>exact Qa _) (by
   unfold F_gs;simp only[Qbj,Vs];exact Qa _)
 rcases m with⟨i,x,a,b,h⟩|⟨b,h⟩
 .rw[VA]at b;refine fin x ?_ (Ea (Qcc l hl) ?_)
  .unfold inForce;have p:keyF x∈keysOf l:=Xe.2 ⟨x,a.mem,rfl⟩;have:=QcX nd p;rw[show(keyF x).1=k from b]at this;rw[this];rfl
  .unfold F_ai;refine Ea (Ea h (Qa _)) ?_;rw[Ys (by omega:(0:Int)<=(i:Int)),Vr,a.ix];exact Qa _
 .refine fin {number:=k,r0:=[],r1:=[],r2:=[],reports:=[],appeal:=false} ?_ (Ea (Qcc l hl) ?_)
  .unfold inForce;rw[QcB]
   .rfl
   .intro q;obtain⟨y,f,e⟩:=Xe.1 q;obtain⟨z,j,rfl⟩:=Xe.1 f;have:=b z j;rw[VB]at this;exact this e
  .unfold F_ai;refine Ea (Ea h (Qa _)) ?_;exact Qa _
theorem QeC{c:Course}{k:Int}{r:Option Report}{y:Ud}(h:viaR c k r=some y):y.number=k:=by
 cases r with
 |none=>cases h
 |some r=>
  simp only[viaR]at h;cases q:(decide (r.Offence<0)||decide ((c.Offences.length:Int)<=r.Offence))with
  |true=>rw[q]at h;cases h
  |false=>
   rw[q,Vs,Option.map_eq_some_iff]at h;obtain⟨o,_,rfl⟩:=h;rfl
theorem Qmi{k:Int}{g:Ruling}{y:Ud}(h:rulP k g=some y):y.number=k/\y.bib=g.Bib/\y.penalty.Position=g.Position:=by
 unfold rulP at h;cases a:(g.Kind==5)<;>cases d:(g.Kind==4)<;>cases b:(g.Kind==3)<;>simp only[b,d,a,Vr,Vs]at h<;>cases h<;>exact⟨rfl,rfl,rfl⟩
theorem Qgn{c:Course}{x:KeyT}{y:Ud}(h:givenK c x=some y):y.number=x.1:=by
 unfold givenK at h;cases a:x.2.1 with
 |none=>rw[a]at h;exact QeC h
 |some g=>
  rw[a]at h;simp only at h;cases q:((g.Kind==5)||((g.Kind==4)||(g.Kind==3)))with
  |true=>rw[q]at h;exact(Qmi h).1
  |false=>
   rw[q,Vs]at h;cases b:(g.Kind==2)with
   |true=>rw[b]at h;cases h
   |false=>rw[b]at h;exact QeC h
def casesG(e:Int)(c:Course)(l:List Fact)(b:Int):List Ud:=bif e != 0 then[]else casesOf c l b
theorem QiK(e:Int)(c:Course)(l:List Fact)(b:Int):casesF e c l b=((casesG e c l b).map (·.number),(casesG e c l b).map (·.penalty)):=by
 unfold casesF casesG;cases(e != 0)<;>rfl
theorem QjL(e:Int)(c:Course)(l:List Fact)(b:Int):(casesG e c l b).length<=l.length:=by
 have:=(QjN e c l b).1;rw[QiK,X4]at this;exact this
theorem Qic{l:List Fact}{k:Int}{x:KeyT}(a:x∈keysOf l)(b:x.1=k):inForce l k=x.2.1:=by
 unfold inForce;rw[<- b,QcX (QdE (QcY l).inc) a];rfl
end Go.Sw
